/-
  Part 5 of the proof: see the last text.
-/
import Derived.Test.YtdckcingoapofaaGreatDoorP4
set_option linter.unusedVariables false
set_option linter.unusedSimpArgs false
set_option linter.unusedSectionVars false
section
namespace Go.Abs
open Go
variable{Γ:Env}{σ:St}{α:Type}
section
variable{g:G}{w:World}(hx:∀b o,g.imm b o->g.own b = .ext)
include hx
mutual
theorem Qbmn:∀(v:V)(ℓ:Owner)(u:Value),RV g w v ℓ u->RV g w v.toF ℓ u
 |.d (.lst sz l),_,u,h=>by
  simp only[V.toF,RV] at h |-;exact Qbox (fun b o a c=>⟨a,hx b o a,c⟩) _ u h
 |.d (.int ..),_,_,h=>by simpa[V.toF] using h
 |.d (.bool _),_,_,h=>by simpa[V.toF] using h
 |.d (.str _),_,_,h=>by simpa[V.toF] using h
 |.d (.mp ..),_,_,h=>by simpa[V.toF] using h
 |.agg cs,ℓ,u,h=>by
  simp only[V.toF,RV] at h |-;obtain⟨vs,rfl,h,a⟩:=h;exact⟨vs,rfl,RVs_toF cs ℓ 0 vs h,a⟩
 |.und,_,_,h=>h
 |.tup _,_,_,h=>h
 |.own ..,_,_,h=>h
 |.ownT ..,_,_,h=>h
 |.ptr ..,_,_,h=>h
 |.nilp,_,_,h=>h
 |.f _,_,_,h=>h
 |.nils _,_,_,h=>h
 |.cref _,_,_,h=>h
 |.sl ..,_,_,h=>h
 |.clo ..,_,_,h=>h
 |.mp _,_,_,h=>h
theorem RVs_toF:∀(cs:List V)(ℓ:Owner)(i:Nat)(us:List Value),RVs g w cs ℓ i us->RVs g w (V.toFs cs) ℓ i us
 |[],_,_,_,h=>h
 |c::cs,ℓ,i,us,h=>by
  simp only[RVs,V.toFs] at h |-;obtain⟨u,a,rfl,f,e⟩:=h;exact⟨u,a,rfl,Qbmn c _ u f,RVs_toF cs ℓ (i+1) a e⟩
end
theorem Qbix:∀{cs:List V}{us:List Value},RFs g w cs us->RFs g w (V.toFs cs) us
 |[],_,h=>h
 |c::cs,_,⟨u,a,e,r,h⟩=>⟨u,a,e,fun ℓ=>Qbmn hx c ℓ u (r ℓ),Qbix h⟩
end
mutual
theorem Qbnt:∀v:V,v.toF.dem=v.toF->v.dem=v
 |.d _,_=>rfl
 |.agg cs,h=>by
  simp only[V.toF,V.dem,V.agg.injEq] at h |-;exact dems_toF cs h
 |.und,_=>rfl
 |.tup _,h=>h
 |.own ..,h=>by cases h
 |.ownT ..,h=>by cases h
 |.ptr ..,_=>rfl
 |.nilp,_=>rfl
 |.f _,_=>rfl
 |.nils _,_=>rfl
 |.cref _,_=>rfl
 |.sl ..,_=>rfl
 |.clo ..,_=>rfl
 |.mp _,_=>rfl
theorem dems_toF:∀vs:List V,V.dems (V.toFs vs)=V.toFs vs->V.dems vs=vs
 |[],_=>rfl
 |v::vs,h=>by
  simp only[V.toFs,V.dems,Zo] at h |-;exact⟨Qbnt v h.1,dems_toF vs h.2⟩
end
theorem Qbiy{P:Program}{f:FuncId}{i:CFn}(t:Qo P f=some i){args args' : List V}{r:V}(c:Nat.beq args'.length i.np=true)(q:r.lt 0=true)(p:Q06 r=true)(ha:V.toFs args=args')(m:V.dems args'=args')(s:V.lt.go 0 args'=true)(j:∀(Γ:Env)(M:Mem),Γ.P=P->Γ.nt=i.nt->Lone Γ M->Q79 M->(∀k,Γ.n0<=k->M k=none)->Tr Γ i.body ⟨Qp5 args',Qn Γ.n0 [] M,Γ.n0+i.nt⟩ (FinP i.res r Γ.n0 M)):∀M nb,ACalls P f args M nb r M nb:=by
 intro M nb;have a:∀x∈args',Flat x:=by
  rw[<-m];exact Qjz
 refine Qboy t q p (dems_toF args (by rw[ha];exact m)) (fun g0 w0 us hp C n=>⟨args',by rw[<-ha];exact Qbix (fun b _ _=>hp b) n,a,s,Zaa c,fun Γ A z y v B=>?_⟩) M;have h:=j Γ (fun _=>none) A y ⟨fun b _=>.inl (by rw[v,hp b];trivial),fun b o hb=>by grind⟩ ⟨fun _ _ h=>(by cases h),fun _ _ _ h=>(by cases h)⟩ (fun _ _=>rfl);rw[Q07 (fun _ _=>rfl),z] at h;refine h.mono ?_;rintro e u ⟨he,r',q1,q2,q3,q4⟩;exact⟨he,r',q1,q2,fun k b l=>(by cases l),fun _ _ _=>⟨q3,fun k cs l=>(by cases l),fun k l=>(by cases l)⟩⟩
theorem fToD{x:D}:WkV (.f x) (.d x):=⟨fun g w ℓ u h=>by
  simp only[RV] at h |-;exact Qgk ⟨fun b o h=>h.1,fun _ _ _=>rfl⟩ x u h,fun _ _=>trivial⟩
open Classical in
theorem ACalls.frz{P:Program}{f:FuncId}{args:List V}{M M' : Mem}{nb r sz:Nat}{l:List (List D)}(h:ACalls P f args M nb (.own sz l) M' r)(z:Qov l=true):ACalls P f args M nb (.f (.lst sz l)) M' r:=by
 obtain⟨W,U,T⟩:=h;refine⟨W,U,fun w g us k0 I H F C=>(T w g us k0 I H F C).mono ?_⟩;rintro e w' ⟨v,g',rfl,hm,hv,_,hon,hf⟩;let g2:G:=⟨g'.box,g'.imm,fun b=>if g'.own b = .res [] then .ext else g'.own b⟩;have m:∀b,g'.own b ≠ .res []->g2.own b=g'.own b:=fun b hb=>by simp[g2,hb]
 have n:Kept g' w' g2 w' (fun _=>True) (fun o=>o ≠ .res []):=⟨⟨fun _ _ h=>h,fun _ _ _=>rfl⟩,fun _ _=>rfl,fun b hb _=>⟨m b hb,rfl,fun _=>Zk⟩⟩;have s:∀(o:Owner)i,o ≠ .res []->o.sub i ≠ .res []:=by intro o i _;cases o<;>simp[Owner.sub]
 refine⟨v,g2,rfl,⟨fun k b N=>?_,fun b o hb=>?_⟩,?_,trivial,hon,?_⟩
 ·obtain⟨q,p,u⟩:=hm.box k b N;refine⟨q,(m _ (by rw[p];simp)).trans p,?_⟩;cases b with
  |mp es c =>
   obtain⟨t,y,x⟩:=u;exact⟨t,y,Qll (g:=g') (g':=g2) n (fun _=>by simp) x⟩
  |cells cs =>
   obtain⟨j,e,y,x,B⟩:=u;exact⟨j,e,y,RVs_mono n s (by simp) cs (.box k) 0 j (by simp) (by rw[Qiq];intro v _;exact Qbc8 v) x,B⟩
 ·obtain⟨q,p⟩:=hm.imm b o hb;refine⟨q,fun k=>?_⟩;simp only[g2];split
  ·simp
  ·exact p k
 ·have J:=Qkx hv;simp only[RV] at hv |-;rcases hv with⟨⟨a,rfl⟩,rfl⟩|⟨b,A,j,e,rfl,hb,X,S,h5,h6,h7,R⟩
  ·simp only[RD];exact⟨a,0,rfl,Ze _,.inl trivial⟩
  ·simp only[RD];refine⟨_,A,rfl,S,.inr ⟨b,0,rfl,?_⟩⟩;have O:=RDL_strong sz b l 0 R;exact Q09 (fun o ho=>⟨ho.1,by simp[g2,hb],ho.2⟩) z O
 ·refine⟨hf.os,hf.tape,hf.output,hf.size,hf.imm,hf.box,fun b hb ho=>?_⟩;obtain⟨q,p,u⟩:=hf.old b hb ho;exact⟨(m b (by rw[q];intro e;rw[e] at ho;exact ho)).trans q,p,u⟩
theorem Qbev{e:α->List D}(h:∀x,(e x).all Qvq=true){sz:Nat}{xs:List α}:Qg3 (.own sz (List.map e xs))=true:=by
 grind [Qg3,Qov,List.all_map,List.all_eq_true]
theorem Qbew{e:α->List D}(h:∀x,(e x).all Qvq=true){xs:List α}:Qov (List.map e xs)=true:=by
 grind [Qov,List.all_map,List.all_eq_true]
def PL:List (Nat×V)->Prop
 |[]=>True
 |(_,v)::E=>Qg3 v=true/\PL E
theorem PL.at:∀{E:List (Nat×V)},PL E->∀t,Qg3 (look E t)=true
 |[],_,t=>rfl
 |(u,v)::E,h,t=>by
  simp only[look];cases hb:Nat.beq t u with
  |true=>exact h.1
  |false=>exact PL.at h.2 t
def PV:List V->Prop
 |[]=>True
 |v::vs=>Qg3 v=true/\PV vs
theorem PV.go:∀{vs:List V},PV vs->Qg3.go vs=true
 |[],_=>rfl
 |v::vs,h=>by simp only[Qg3.go,Zc];exact⟨h.1,PV.go h.2⟩
def PB(t0 i:Nat):List (Nat×Bx)->Prop
 |[]=>True
 |(t,.cells cs)::L=>PV (bif Nat.beq t t0 then cs.set i .und else cs)/\PB t0 i L
 |(_,.mp es _)::L=>Q3t es/\PB t0 i L
theorem PB.at{t0 i:Nat}:∀{L:List (Nat×Bx)},PB t0 i L->∀t cs,Qcf L t=some (.cells cs)->Qg3.go (if t=t0 then cs.set i .und else cs)=true
 |[],_,t,cs,h=>by cases h
 |(u,.cells ds)::L,hp,t,cs,h=>by
  simp only[Qcf] at h;cases hb:Nat.beq t u with
  |true =>
   have:=Zaa hb;subst this;rw[hb] at h;cases h;have:=hp.1.go;by_cases a:t=t0
   ·grind
   ·have c:Nat.beq t t0=false:=by
     grind [Nat.beq,absurd,Nat.eq_of_beq_eq_true]
    grind
  |false=>rw[hb] at h;exact PB.at hp.2 t cs h
 |(u,.mp ..)::L,hp,t,cs,h=>by
  simp only[Qcf] at h;cases hb:Nat.beq t u with
  |true=>rw[hb] at h;cases h
  |false=>rw[hb] at h;exact PB.at hp.2 t cs h
theorem PB.nomp{t0 i:Nat}:∀{L:List (Nat×Bx)},PB t0 i L->∀t es c,Qcf L t=some (.mp es c)->Q3t es
 |[],_,t,es,c,h=>by cases h
 |(u,.cells ds)::L,hp,t,es,c,h=>by
  simp only[Qcf] at h;cases hb:Nat.beq t u with
  |true=>rw[hb] at h;cases h
  |false=>rw[hb] at h;exact PB.nomp hp.2 t es c h
 |(u,.mp ..)::L,hp,t,es,c,h=>by
  simp only[Qcf] at h;cases hb:Nat.beq t u with
  |true=>rw[hb] at h;cases h;exact hp.1
  |false=>rw[hb] at h;exact PB.nomp hp.2 t es c h
theorem PB.nomem{t0 i n0:Nat}{L:List (Nat×Bx)}{M0:Mem}(e:Q79 M0)(h:PB t0 i L):∀k es c,Qn n0 L M0 k=some (.mp es c)->Q3t es:=by
 intro k es c a;rcases Zak k n0 with hlt|hge
 ·rw[Qe2 hlt] at a;exact e.mps k es c a
 ·obtain⟨u,rfl⟩ : ∃u,k=n0+u:=⟨k-n0,by omega⟩;rw[Qdt] at a;exact h.nomp u es c a
theorem Qbnu{u:CC}{Q:Ex->St->Prop}{M0:Mem}(A:Lone Γ M0)(q:Q79 M0)(t0 i κ:Nat){sz m:Nat}{e:α->List D}{xs:List α}{E:List (Nat×V)}{L:List (Nat×Bx)}{a:List V}(y:xs=[]->Tr Γ u ⟨look E,Qn Γ.n0 ((t0,.cells (a.set i (.nils sz)))::L) M0,Γ.n0+m⟩ Q)(r:∀x,(e x).all Qvq=true)(s:Qcf L t0=some (.cells a))(z:a[i]? = some (.own sz (List.map e xs)))(n:Nat.blt κ m=true)(j:Qcf L κ=none)(B:PL E)(v:PB t0 i L)(h:∀c,xs.length<=c->xs.length<=maxLen->Tr Γ u ⟨look E,Qn Γ.n0 ((κ,.cells (Qb8 (List.map e xs) ((c-xs.length)*sz)))::(t0,.cells (a.set i (.sl sz (Γ.n0+κ) 0 xs.length c)))::L) M0,Γ.n0+m⟩ Q):Tr Γ u ⟨look E,Qn Γ.n0 L M0,Γ.n0+m⟩ Q:=by
 have p:κ<m:=Zy n;refine Tr.thawCE (σ:=⟨look E,Qn Γ.n0 L M0,Γ.n0+m⟩) A (fun k f h=>by show (Qn Γ.n0 L M0 k).isSome=true;rw[Qe2 f];exact h) (k0:=Γ.n0+t0) (i:=i) (κ:=Γ.n0+κ) (l:=List.map e xs) (fun C=>by simp_all[Qef]) (Qbew r) (by omega) ((Qdt (n0:=Γ.n0) (L:=L) (M0:=M0)).trans s) z (by omega) (by grind) ((Qdt (n0:=Γ.n0) (L:=L) (M0:=M0)).trans j) (fun t=>B.at t) ?_ (v.nomem q) ?_
 ·intro k cs f;have f:Qn Γ.n0 L M0 k=some (.cells cs):=f;rcases Zak k Γ.n0 with p|hge
  ·rw[Qe2 p] at f;rw[if_neg (by omega)];exact q.cells k cs f
  ·obtain⟨t,rfl⟩ : ∃t,k=Γ.n0+t:=⟨k-Γ.n0,by omega⟩;rw[Qdt] at f;have:=v.at t cs f
   grind
 ·intro c hc F;have:=h c (by simpa using hc) (by simp at hc;omega)
  simp_all[Qef]
theorem Qbo6{q:CC}{Q:Ex->St->Prop}{M0:Mem}(t:Lone Γ M0)(n:Q79 M0)(t0 i κ:Nat){sz m:Nat}{e:α->List D}{xs:List α}{E:List (Nat×V)}{L:List (Nat×Bx)}{a:List V}(k:¬xs=[])(l:∀x,(e x).all Qvq=true)(p:Qcf L t0=some (.cells a))(r:a[i]? = some (.own sz (List.map e xs)))(j:Nat.blt κ m=true)(f:Qcf L κ=none)(u:PL E)(s:PB t0 i L)(h:∀c,xs.length<=c->xs.length<=maxLen->Tr Γ q ⟨look E,Qn Γ.n0 ((κ,.cells (Qb8 (List.map e xs) ((c-xs.length)*sz)))::(t0,.cells (a.set i (.sl sz (Γ.n0+κ) 0 xs.length c)))::L) M0,Γ.n0+m⟩ Q):Tr Γ q ⟨look E,Qn Γ.n0 L M0,Γ.n0+m⟩ Q :=
 Qbnu t n t0 i κ (fun h=>absurd h k) l p r j f u s h
theorem Qbmo{y:CC}{Q:Ex->St->Prop}{M0:Mem}(A:Lone Γ M0)(n:Q79 M0)(t κ:Nat){sz m:Nat}{e:α->List D}{xs:List α}{E:List (Nat×V)}{L:List (Nat×Bx)}(p:¬xs=[])(r:∀x,(e x).all Qvq=true)(q:look E t = .own sz (List.map e xs))(i:Nat.blt κ m=true)(f:Qcf L κ=none)(B:PL ((t,.und)::E))(v:PB κ 0 L)(h:∀c,xs.length<=c->xs.length<=maxLen->Tr Γ y ⟨look ((t,.sl sz (Γ.n0+κ) 0 xs.length c)::E),Qn Γ.n0 ((κ,.cells (Qb8 (List.map e xs) ((c-xs.length)*sz)))::L) M0,Γ.n0+m⟩ Q):Tr Γ y ⟨look E,Qn Γ.n0 L M0,Γ.n0+m⟩ Q:=by
 have j:κ<m:=Zy i;refine Tr.thawS (σ:=⟨look E,Qn Γ.n0 L M0,Γ.n0+m⟩) A (fun k a h=>by show (Qn Γ.n0 L M0 k).isSome=true;rw[Qe2 a];exact h) (t:=t) (κ:=Γ.n0+κ) (l:=List.map e xs) (by simpa using p) (Qbew r) q (by omega) (by grind) ((Qdt (n0:=Γ.n0) (L:=L) (M0:=M0)).trans f) (fun z C=>?_) ?_ (v.nomem n) ?_
 ·have:=B.at z
  grind [look,Nat.beq,absurd,Nat.eq_of_beq_eq_true]
 ·intro k cs a;have a:Qn Γ.n0 L M0 k=some (.cells cs):=a;rcases Zak k Γ.n0 with j|hge
  ·rw[Qe2 j] at a;exact n.cells k cs a
  ·obtain⟨u,rfl⟩ : ∃u,k=Γ.n0+u:=⟨k-Γ.n0,by omega⟩;rw[Qdt] at a;have s:u≠κ:=by grind
   have:=v.at u cs a
   rwa [if_neg s] at this
 ·intro c hc F;have:=h c (by simpa using hc) (by simp at hc;omega)
  simp_all[Qef,Qdd]
def RowK(P:Program)(c:Nat)(e:α->List D)(sz:Nat)(ex:List V)(f:List α->Option (List α)):Prop :=
 ∀xs ys,f xs=some ys->ys.length=xs.length/\(xs=[]->ys=xs/\∀M nb,ACalls P c (.d (.lst sz (List.map e xs))::ex) M nb (.tup []) M nb) /\
  (xs.length<=maxLen->∀a k0 M nb,M k0=some (.cells (Qb8 (List.map e xs) ((a-xs.length)*sz)))->ACalls P c (.sl sz k0 0 xs.length a::ex) M nb (.tup []) (M.put k0 (.cells (Qb8 (List.map e ys) ((a-xs.length)*sz)))) nb)
section
variable{pc d nb:Nat}{os:List COp}{E:List (Nat×V)}{M0:Mem}{L:List (Nat×Bx)}{Q:St->Prop}{gd:Option (Nat×Bool)}
theorem Rn.callRow{f:FuncId}{c:List Arg}{args:List V}{r:V}{t:Nat}{cs cs' : List V}(e:Wn E gd)(ha:V.dems (c.map (·.val (look E)))=args)(i:Qcf L t=some (.cells cs))(l:∀M,M (Γ.n0+t)=some (.cells cs)->ACalls Γ.P f args M nb r (M.put (Γ.n0+t) (.cells cs')) nb)(a:pcOf pc=0)(h:Rn Γ pc os ⟨look ((d,r)::E),Qn Γ.n0 ((t,.cells cs')::L) M0,nb⟩ Q):Rn Γ pc (⟨some d,.call f,c,false,gd⟩::os) ⟨look E,Qn Γ.n0 L M0,nb⟩ Q:=by
 refine Rn.cons ?_;unfold COp.run;rw[e.wanted];simp only[show (K.call f).isCall=true from rfl,if_true,COp.callee,ha];rw[a];refine⟨r,(Qn Γ.n0 L M0).put (Γ.n0+t) (.cells cs'),nb,l _ (by rw[Qdt];exact i),fun k j=>?_,fun k m j n=>.inl ?_,?_⟩
 ·grind [Mem.put]
 ·rw[Qcr _ _ (by omega)]
 simp_all[Qbe,look,Qdd,Qef]
end
theorem fSlT{n0 t n c sz:Nat}{e:α->List D}{ys:List α}(h:∀x,(e x).length=sz)(a:ys.length=n)(hc:n<=c):WkV (frzV (n0+t) ((ys.map e).flatten) (.sl sz (n0+t) 0 n c)) (.d (.lst sz (ys.map e))):=by
 subst a;have f:=Qz2 h ys
 simp_all[List.drop_zero,List.take_of_length_le,frzV,if_true,if_pos,Qz1,Qbir]
theorem Q8b:∀ds:List D,toDs (ds.map V.d)=some ds
 |[]=>rfl
 |d::ds=>by simp only[Zb,toDs,V.toD,Q8b ds]
theorem Qbnv{e:α->List D}{ys:List α}{a:Nat}:PreD (Qb8 (List.map e ys) a) ((List.map e ys).flatten):=PreD.app (Q8b _)
theorem Tr.seqW{x y:CC}{Q:Ex->St->Prop}(a:St)(hx:Tr Γ x σ fun e c=>e = .norm/\WeakSt Γ c a)(f:Tr Γ y a Q):Tr Γ (.seq x y) σ Q:=by
 refine Tr.seq (hx.mono ?_);rintro e c ⟨rfl,hw⟩;exact f.weak hw
end Go.Abs
end
section
namespace Go.Abs
open Go
theorem Qbex{k:IntKind}(a b:Int×Int):Qfs (.agg [.d (.int k a.1),.d (.int k a.2)]) (.agg [.d (.int k b.1),.d (.int k b.2)])=(a==b):=by
 obtain⟨h,g⟩:=a;obtain⟨f,e⟩:=b;simp only[Qfs,Qrw,Qkb,Bool.and_true]
 rfl
theorem decB{p:Prop}[Decidable p]{b:Bool}(h:b=true↔p):b=decide p:=by
 cases b with
 |true=>simp[h.1 rfl]
 |false =>
  by_cases hp:p
  ·have:=h.2 hp;cases this
  ·simp[hp]
variable{κ β:Type}[BEq κ]
def mapE(ek:κ->V)(ev:β->V):Nat->List (κ×β)->List (V×V×Nat)
 |_,[]=>[]
 |i,(k,v)::m=>(ek k,ev v,i)::mapE ek ev (i+1) m
def idxS(m:List (κ×β))(k:κ):Nat:=match m with
 |[]=>0
 |(k',_)::m=>if k==k' then 0 else idxS m k+1
def hasM(m:List (κ×β))(k:κ):Bool:=m.any fun p=>k==p.1
def getM(m:List (κ×β))(k:κ)(z:β):β:=match m with
 |[]=>z
 |(k',v)::m=>if k==k' then v else getM m k z
def setM(m:List (κ×β))(k:κ)(v:β):List (κ×β):=match m with
 |[]=>[(k,v)]
 |(k',v')::m=>if k==k' then (k,v)::m else (k',v')::setM m k v
def putM(m:List (κ×β))(i:Nat)(v:β):List (κ×β):=m.modify i fun p=>(p.1,v)
theorem Qky{k k' : κ}{v:β}{m:List (κ×β)}:hasM ((k',v)::m) k=((k==k')||hasM m k):=rfl
theorem Q5v{ek:κ->V}{ev:β->V}:∀(i:Nat)(m:List (κ×β)),(mapE ek ev i m).length=m.length
 |_,[]=>rfl
 |i,_::m=>by simp[mapE,Q5v (i+1) m]
theorem Q9o{ek:κ->V}{ev:β->V}:∀(i j:Nat)(m:List (κ×β)),(mapE ek ev i m)[j]? = (m[j]?).map fun p=>(ek p.1,ev p.2,i+j)
 |_,j,[]=>by simp[mapE]
 |i,0,_::m=>by simp[mapE]
 |i,j+1,_::m=>by
  simp only[mapE,List.getElem?_cons_succ,Q9o (i+1) j m];rw[show i+1+j=i+(j+1) from by omega]
theorem Qqi{ek:κ->V}{ev:β->V}:∀(i:Nat)(m n:List (κ×β)),mapE ek ev i (m++n)=mapE ek ev i m++mapE ek ev (i+m.length) n
 |_,[],n=>by simp[mapE]
 |i,(k,v)::m,n=>by simp[mapE,Qqi (i+1) m n];congr 1;omega
theorem Qoa{ek:κ->V}{ev:β->V}{kd:MK}(hk:∀a,kd.ok (ek a)=true):∀(i:Nat)(m:List (κ×β)),kd.all (mapE ek ev i m)=true
 |_,[]=>rfl
 |i,(k,v)::m=>by
  have:=Qoa (ev:=ev) hk (i+1) m;simp only[MK.all] at *
  simp[mapE,hk,this]
section
variable{ek:κ->V}{ev:β->V}(hs:∀a b,Qfs (ek a) (ek b)=(a==b))
include hs
theorem Qmh{k:κ}:∀(i:Nat)(m:List (κ×β))(z:β),Qhf (ek k) (mapE ek ev i m)=if hasM m k then some (idxS m k,ev (getM m k z)) else none
 |_,[],z=>rfl
 |i,(k',v)::m,z=>by
  simp only[mapE,Qhf,hs,Qmh (i+1) m z,Qky,idxS,getM];by_cases hb:(k==k')=true
  ·simp[hb]
  ·simp only[hb,Zg,if_false,Bool.false_or];by_cases e:hasM m k=true
   ·rw[if_pos e,if_pos e];rfl
   ·rw[if_neg e,if_neg e];rfl
omit hs in
theorem Qbiz{k:κ}:∀{m:List (κ×β)},hasM m k=true->idxS m k<m.length
 |[],h=>by cases h
 |(k',v)::m,h=>by
  simp only[idxS,hasM,Zae] at *
  cases hb:(k==k') with
  |true=>simp
  |false =>
   rw[hb] at h;have:=Qbiz (m:=m) (by simpa[hasM] using h);simp;exact this
omit hs in
theorem Qba8{k:κ}:∀{m:List (κ×β)},hasM m k=false->idxS m k=m.length
 |[],h=>rfl
 |(k',v)::m,h=>by
  simp only[hasM,Zae,Zbo] at h;simp only[idxS,h.1,Zg,if_false,Zs];rw[Qba8 (m:=m) h.2]
omit hs in
theorem Qqj{k:κ}{v:β}:∀{m:List (κ×β)},hasM m k=false->setM m k v=m++[(k,v)]
 |[],h=>rfl
 |(k',v')::m,h=>by
  simp only[hasM,Zae,Zbo] at h;simp only[setM,h.1,Zg,if_false,Zaq];rw[Qqj (m:=m) h.2]
omit hs in
theorem Q4m{k:κ}{v:β}:∀(i:Nat){m:List (κ×β)},hasM m k=true->modM (ek k) (ev v) (idxS m k) (mapE ek ev i m)=mapE ek ev i (setM m k v)
 |_,[],h=>by cases h
 |i,(k',v')::m,h=>by
  simp only[idxS,setM,mapE,hasM,Zae] at *
  cases hb:(k==k') with
  |true=>simp[modM,mapE]
  |false =>
   rw[hb] at h;simp only[Zg,if_false,modM,mapE];rw[Q4m (i+1) (by simpa[hasM] using h)]
omit hs in
theorem Qqk{k:κ}{v:β}:∀{m:List (κ×β)},hasM m k=true->(setM m k v).length=m.length
 |[],h=>by cases h
 |(k',v')::m,h=>by
  simp only[setM,hasM,Zae] at *
  cases hb:(k==k') with
  |true=>simp
  |false =>
   rw[hb] at h;simp[Qqk (m:=m) (by simpa[hasM] using h)]
omit hs in
theorem Qbi0{v:β}:∀(i j:Nat){m:List (κ×β)}{p:κ×β},m[j]? = some p->modM (ek p.1) (ev v) j (mapE ek ev i m)=mapE ek ev i (putM m j v)
 |i,0,q::m,p,h=>by simp at h;subst h;simp[putM,mapE,modM]
 |i,j+1,q::m,p,h=>by
  simp at h;have:=Qbi0 (v:=v) (i+1) j h;simp only[putM,mapE,modM,List.modify_succ_cons] at *
  rw[this]
 |i,j,[],p,h=>by simp at h
omit hs in
theorem Qba9:∀(i j:Nat)(m:List (κ×β)),j<m.length->Q81 ((i+j:Nat):Int) (mapE ek ev i m)=some j
 |i,j,[],h=>by simp at h
 |i,0,_::m,h=>by simp[mapE,Q81]
 |i,j+1,_::m,h=>by
  have:=Qba9 (i+1) j m (by simpa using h);simp only[mapE,Q81];have e:((i:Int)==((i+(j+1):Nat):Int))=false:=by simp;omega
  rw[e,show i+(j+1)=i+1+j from by omega,this];rfl
end
variable{Γ:Env}{pc d nb:Nat}{os:List COp}{E:List (Nat×V)}{M M' M0:Mem}{L:List (Nat×Bx)}{Q:St->Prop}{gd:Option (Nat×Bool)}{a b c:Arg}{ek:κ->V}{ev:β->V}{m:List (κ×β)}
theorem Rn.k0{k:K}{e:List Arg}{v:V}(f:Wn E gd)(hc:k.isCall=false)(g:k.isNil=false)(hk:Ql Γ.n0 (Γ.n0+0) k (V.dems (e.map (·.val (look E)))) M=some (v,M'))(h:Rn Γ pc os ⟨look E,M',nb⟩ Q):Rn Γ pc (⟨none,k,e,false,gd⟩::os) ⟨look E,M,nb⟩ Q:=by
 refine Rn.cons ?_;unfold COp.run;rw[f.wanted];simp only[hc,g,Zg,if_false,COp.step,COp.xs,Option.getD_none,hk,Qbe];exact h
theorem Rn.mkmap(e:Wn E gd)(f:(Qcf L d).isNone=true)(ek:κ->V)(ev:β->V)(h:Rn Γ pc os ⟨look ((d,.mp (Γ.n0+d))::E),Qn Γ.n0 ((d,.mp (mapE ek ev 0 []) 0)::L) M0,nb⟩ Q):
  Rn Γ pc (⟨some d,.mkmap,[],false,gd⟩::os) ⟨look E,Qn Γ.n0 L M0,nb⟩ Q:=by
 refine Rn.k e rfl rfl ?_ h;simp only[Zi,V.dems,Ql];rw[if_pos (by simp[Qnq (Γ:=Γ) (M0:=M0) f]),Qef];rfl
theorem Rn.mkmapH{k:IntKind}{n:Int}(e:Wn E gd)(ha:a.val (look E) = .d (.int k n))(f:(Qcf L d).isNone=true)(ek:κ->V)(ev:β->V)(h:Rn Γ pc os ⟨look ((d,.mp (Γ.n0+d))::E),Qn Γ.n0 ((d,.mp (mapE ek ev 0 []) 0)::L) M0,nb⟩ Q):
  Rn Γ pc (⟨some d,.mkmap,[a],false,gd⟩::os) ⟨look E,Qn Γ.n0 L M0,nb⟩ Q:=by
 refine Rn.k e rfl rfl ?_ h;simp only[Zb,Zi,V.dems,ha,V.dem,Ql];rw[if_pos (by simp[Qnq (Γ:=Γ) (M0:=M0) f]),Qef];rfl
theorem Rn.lenm{t:Nat}(e:Wn E gd)(ha:a.val (look E) = .mp (Γ.n0+t))(f:Qcf L t=some (.mp (mapE ek ev 0 m) m.length))(h:Rn Γ pc os ⟨look ((d,.d (.int .i64 m.length))::E),Qn Γ.n0 L M0,nb⟩ Q):
  Rn Γ pc (⟨some d,.lenm,[a],false,gd⟩::os) ⟨look E,Qn Γ.n0 L M0,nb⟩ Q:=by
 refine Rn.k e rfl rfl ?_ h;simp only[Zb,Zi,V.dems,ha,V.dem,Ql,Qev f,Q5v]
section
variable(hs:∀a b,Qfs (ek a) (ek b)=(a==b)){kd:MK}(hk:∀a,kd.ok (ek a)=true)(hv:∀b,(ev b).dat=true)
include hs hk hv
theorem Rn.lookup{t:Nat}{z:V}{k:κ}(e:β)(i:ev e=z)(j:Wn E gd)(ha:a.val (look E) = .mp (Γ.n0+t))(hb:(b.val (look E)).dem=ek k)(f:Qcf L t=some (.mp (mapE ek ev 0 m) m.length))(h:Rn Γ pc os ⟨look ((d,ev (getM m k e))::E),Qn Γ.n0 L M0,nb⟩ Q):Rn Γ pc (⟨some d,.lookup kd false z,[a,b],false,gd⟩::os) ⟨look E,Qn Γ.n0 L M0,nb⟩ Q:=by
 subst i;refine Rn.k j rfl rfl ?_ h;simp only[Zb,Zi,V.dems,ha,hb,V.dem,Ql,Qev f,hk,Qoa hk,Zav,if_true,Qmh hs 0 m e];cases hh:hasM m k with
 |true=>simp[Qzh (hv _),Qww (hv _)]
 |false =>
  have:getM m k e=e:=by
   clear f h
   induction m with
   |nil=>rfl
   |cons p m g =>
    simp only[hasM,Zae,Zbo] at hh;simp only[getM,hh.1,Zg,if_false];exact g hh.2
  simp[hv,this]
theorem Rn.lookupC{t:Nat}{z:V}{k:κ}(e:β)(i:ev e=z)(j:Wn E gd)(ha:a.val (look E) = .mp (Γ.n0+t))(hb:(b.val (look E)).dem=ek k)(f:Qcf L t=some (.mp (mapE ek ev 0 m) m.length))(h:Rn Γ pc os ⟨look ((d,.tup [ev (getM m k e),.d (.bool (hasM m k))])::E),Qn Γ.n0 L M0,nb⟩ Q):Rn Γ pc (⟨some d,.lookup kd true z,[a,b],false,gd⟩::os) ⟨look E,Qn Γ.n0 L M0,nb⟩ Q:=by
 subst i;refine Rn.k j rfl rfl ?_ h;simp only[Zb,Zi,V.dems,ha,hb,V.dem,Ql,Qev f,hk,Qoa hk,Zav,if_true,Qmh hs 0 m e];cases hh:hasM m k with
 |true=>simp[Qzh (hv _),Qww (hv _)]
 |false =>
  have:getM m k e=e:=by
   clear f h
   induction m with
   |nil=>rfl
   |cons p m g =>
    simp only[hasM,Zae,Zbo] at hh;simp only[getM,hh.1,Zg,if_false];exact g hh.2
  simp[hv,this]
theorem Rn.mapset{t:Nat}{k:κ}{v:β}(f:Wn E gd)(ha:a.val (look E) = .mp (Γ.n0+t))(hb:(b.val (look E)).dem=ek k)(hc:Qws (c.val (look E)).dem=ev v)(e:(c.val (look E)).dem.dat=true)(g:Qcf L t=some (.mp (mapE ek ev 0 m) m.length))(h:Rn Γ pc os ⟨look E,Qn Γ.n0 ((t,.mp (mapE ek ev 0 (setM m k v)) (setM m k v).length)::L) M0,nb⟩ Q):Rn Γ pc (⟨none,.mapset kd,[a,b,c],false,gd⟩::os) ⟨look E,Qn Γ.n0 L M0,nb⟩ Q:=by
 refine Rn.k0 (v:=.und) f rfl rfl ?_ h;simp only[Zb,Zi,V.dems,ha,hb,hc,V.dem,Ql,Qev g,hk,e,Qoa hk,Zav,if_true];rw[Qmh hs 0 m v,<-Qef];cases hh:hasM m k with
 |true=>simp only[if_true];rw[Q4m 0 hh,Qqk hh]
 |false =>
  simp only[Zg,if_false];rw[Qqj hh,Qqi];simp[mapE]
theorem Rn.mapentry{t:Nat}{z:V}{k:κ}(e:β)(j:ev e=z)(l:Wn E gd)(ha:a.val (look E) = .mp (Γ.n0+t))(hb:(b.val (look E)).dem=ek k)(g:Qcf L t=some (.mp (mapE ek ev 0 m) m.length))(h:Rn Γ pc os ⟨look ((d,.tup [ev (getM m k e),.d (.int .i64 (idxS m k))])::E),Qn Γ.n0 ((t,.mp (mapE ek ev 0 (setM m k (getM m k e))) (setM m k (getM m k e)).length)::L) M0,nb⟩ Q):Rn Γ pc (⟨some d,.mapentry kd z,[a,b],false,gd⟩::os) ⟨look E,Qn Γ.n0 L M0,nb⟩ Q:=by
 subst j;refine Rn.k l rfl rfl ?_ h;simp only[Zb,Zi,V.dems,ha,hb,V.dem,Ql,Qev g,hk,hv,Qoa hk,Zav,if_true,Qmh hs 0 m e];rw[<-Qef];cases hh:hasM m k with
 |true =>
  have f:=Qbiz hh;simp only[if_true,hv,Q9o,Zj f,Zad,Zz];rw[Q4m 0 hh,Qqk hh]
 |false =>
  have:getM m k e=e:=by
   clear g h
   induction m with
   |nil=>rfl
   |cons p m i =>
    simp only[hasM,Zae,Zbo] at hh;simp only[getM,hh.1,Zg,if_false];exact i hh.2
  simp only[Zg,if_false];rw[this,Qqj hh,Qqi,Qba8 hh];simp[mapE]
omit hs hk in
theorem Rn.entrystore{t i:Nat}{v:β}(f:i<m.length)(j:Wn E gd)(ha:a.val (look E) = .mp (Γ.n0+t))(hb:b.val (look E) = .d (.int .i64 (i:Int)))(hc:Qws (c.val (look E)).dem=ev v)(g:(c.val (look E)).dem.dat=true)(k:Qcf L t=some (.mp (mapE ek ev 0 m) m.length))(h:Rn Γ pc os ⟨look E,Qn Γ.n0 ((t,.mp (mapE ek ev 0 (putM m i v)) (putM m i v).length)::L) M0,nb⟩ Q):Rn Γ pc (⟨none,.entrystore,[a,b,c],false,gd⟩::os) ⟨look E,Qn Γ.n0 L M0,nb⟩ Q:=by
 refine Rn.k0 (v:=.und) j rfl rfl ?_ h;have e:=Qba9 (ek:=ek) (ev:=ev) 0 i m f;rw[Zz] at e;simp only[Zb,Zi,V.dems,ha,hb,hc,V.dem,Ql,Qev k,g,if_true,e,Q9o,Zj f,Zad];rw[<-Qef,Qbi0 0 i (Zj f)];simp[putM]
end
theorem Qbpo{P:Nat->Bool}:Qd2.go P []=[]:=rfl
theorem Qbpp{n0 t o:Nat}{sites:List Nat}{cs:List V}(h:sites.any (fun u=>Nat.beq t u)=false)(r:Qd2.go (Qjx n0 sites) cs=cs):Qd2.go (Qjx n0 sites) (.ptr (n0+t) o::cs) = .ptr (n0+t) o::cs:=by
 simp[Qd2.go,Qd2,Qqf,h,r]
theorem Qbo7{n0 k o:Nat}{sites:List Nat}{cs:List V}(h:k<n0)(r:Qd2.go (Qjx n0 sites) cs=cs):Qd2.go (Qjx n0 sites) (.ptr k o::cs) = .ptr k o::cs:=by
 simp[Qd2.go,Qd2,Qp2 h,r]
theorem kgD{P:Nat->Bool}{x:D}{cs:List V}(r:Qd2.go P cs=cs):Qd2.go P (.d x::cs) = .d x::cs:=by
 simp[Qd2.go,Qd2,r]
theorem kClo{P:Nat->Bool}{f:FuncId}{cs:List V}(h:Qd2.go P cs=cs):WkV (Qd2 P (.clo f cs)) (.clo f cs):=.same (by simp[Qd2,h])
theorem kMp{n0 t:Nat}{sites:List Nat}(h:sites.any (fun u=>Nat.beq t u)=false):WkV (Qd2 (Qjx n0 sites) (.mp (n0+t))) (.mp (n0+t)):=by
 refine .same ?_;simp[Qd2,Qqf,h]
theorem fMp{n0 t u:Nat}{ds:List D}(h:Nat.beq u t=false):WkV (frzV (n0+t) ds (.mp (n0+u))) (.mp (n0+u)):=by
 have:¬n0+u=n0+t:=by
  intro e;have:u=t:=by omega
  subst this;simp at h
 exact .same (by simp only[frzV];rw[if_neg this])
end Go.Abs
end
section
namespace Go.Abs
open Go
mutual
def frmV(k:Nat)(x:D):V->V
 |.und=>.und
 |.d y=>.d y
 |.agg cs=>.agg (frmVs k x cs)
 |.tup cs=>.tup (frmVs k x cs)
 |.own sz l=>.own sz l
 |.ownT sz l=>.ownT sz l
 |.ptr k' o=>if k'=k then .und else .ptr k' o
 |.nilp=>.nilp
 |.f y=>.f y
 |.nils sz=>.nils sz
 |.cref cs=>.cref cs
 |.sl sz k' o n c=>if k'=k then .und else .sl sz k' o n c
 |.clo f cs=>.clo f (frmVs k x cs)
 |.mp k'=>if k'=k then .d x else .mp k'
def frmVs(k:Nat)(x:D):List V->List V
 |[]=>[]
 |v::vs=>frmV k x v::frmVs k x vs
end
theorem Q5w(k:Nat)(x:D):∀vs,frmVs k x vs=vs.map (frmV k x)
 |[]=>rfl
 |v::vs=>by simp[frmVs,Q5w k x vs]
mutual
theorem Qbmp{p:Nat->Prop}(k:Nat)(x:D):∀v:V,v.on p->(frmV k x v).on fun j=>p j/\j≠k
 |.und,_=>trivial
 |.d _,_=>trivial
 |.agg cs,h=>ons_frm k x cs h
 |.tup cs,h=>ons_frm k x cs h
 |.own ..,_=>trivial
 |.ownT ..,_=>trivial
 |.ptr k' o,h=>by
  simp only[frmV];split
  ·trivial
  ·rename_i e;exact⟨h,e⟩
 |.nilp,_=>trivial
 |.f _,_=>trivial
 |.nils _,_=>trivial
 |.cref _,_=>trivial
 |.sl sz k' o n c,h=>by
  simp only[frmV];split
  ·trivial
  ·rename_i e;exact⟨h,e⟩
 |.clo _ cs,h=>ons_frm k x cs h
 |.mp k',h=>by
  simp only[frmV];split
  ·trivial
  ·rename_i e;exact⟨h,e⟩
theorem ons_frm{p:Nat->Prop}(k:Nat)(x:D):∀vs:List V,V.ons p vs->V.ons (fun j=>p j/\j≠k) (frmVs k x vs)
 |[],_=>trivial
 |v::vs,h=>⟨Qbmp k x v h.1,ons_frm k x vs h.2⟩
end
section
variable{g:G}{w:World}{k:Nat}{x:D}[DecidablePred fun b=>b=g.box k](hB:g.own (g.box k) = .box k)(hx:RD (g.frz k 1).imm w x (.map (some (g.box k))))
theorem Qql{k:Nat}:∀ℓ i,ℓ≠Owner.box k->ℓ.sub i ≠ .box k:=by intro ℓ i _;cases ℓ<;>simp[Owner.sub]
include hB
theorem Qmi:Kept g w (g.frz k 1) w (fun j=>j≠k) (fun o=>o ≠ .box k):=by
 refine⟨⟨fun _ _ h=>.inl h,fun _ _ _=>rfl⟩,fun _ _=>rfl,fun b hb _=>?_⟩;have c:b≠g.box k:=by rintro rfl;exact hb hB
 exact⟨by simp[G.frz,c],rfl,fun o=>by simp[G.frz,c]⟩
include hx
mutual
theorem Qbmq:∀(v:V)(ℓ:Owner)(u:Value),ℓ ≠ .box k->RV g w v ℓ u->RV (g.frz k 1) w (frmV k x v) ℓ u
 |.agg cs,ℓ,u,e,h=>by
  simp only[frmV,RV] at h |-;obtain⟨vs,rfl,h,p⟩:=h;exact⟨vs,rfl,RVs_frm cs ℓ 0 vs h,p⟩
 |.tup cs,ℓ,u,e,h=>by
  simp only[frmV,RV] at h |-;obtain⟨vs,rfl,h⟩:=h;exact⟨vs,rfl,RVs_frm cs ℓ 0 vs h⟩
 |.clo f cs,ℓ,u,e,h=>by
  simp only[frmV,RV] at h |-;obtain⟨vs,rfl,h⟩:=h;exact⟨vs,rfl,RVs_frm cs .ext 0 vs h⟩
 |.ptr k' o,ℓ,u,e,h=>by
  simp only[frmV];split
  ·simp[RV]
  ·rename_i i;exact Qdq (Qmi hB) Qql (by simp) (.ptr k' o) ℓ u e i h
 |.sl sz k' o n c,ℓ,u,e,h=>by
  simp only[frmV];split
  ·simp[RV]
  ·rename_i i;exact Qdq (Qmi hB) Qql (by simp) (.sl sz k' o n c) ℓ u e i h
 |.mp k',ℓ,u,e,h=>by
  simp only[frmV];split
  ·rename_i j;subst j;simp only[RV] at h |-;subst h;exact hx
  ·rename_i i;exact Qdq (Qmi hB) Qql (by simp) (.mp k') ℓ u e i h
 |.und,_,_,_,_=>by simp[frmV,RV]
 |.d y,ℓ,u,e,h=>Qdq (Qmi hB) Qql (by simp) (.d y) ℓ u e trivial h
 |.own sz l,ℓ,u,e,h=>Qdq (Qmi hB) Qql (by simp) (.own sz l) ℓ u e trivial h
 |.ownT sz l,ℓ,u,e,h=>Qdq (Qmi hB) Qql (by simp) (.ownT sz l) ℓ u e trivial h
 |.nilp,ℓ,u,e,h=>Qdq (Qmi hB) Qql (by simp) .nilp ℓ u e trivial h
 |.f y,ℓ,u,e,h=>Qdq (Qmi hB) Qql (by simp) (.f y) ℓ u e trivial h
 |.nils sz,ℓ,u,e,h=>Qdq (Qmi hB) Qql (by simp) (.nils sz) ℓ u e trivial h
 |.cref cs,ℓ,u,e,h=>Qdq (Qmi hB) Qql (by simp) (.cref cs) ℓ u e trivial h
theorem RVs_frm:∀(cs:List V)(ℓ:Owner)(i:Nat)(us:List Value),RVs g w cs ℓ i us->RVs (g.frz k 1) w (frmVs k x cs) ℓ i us
 |[],_,_,_,h=>by simpa[frmVs,RVs] using h
 |c::cs,ℓ,i,us,h=>by
  simp only[frmVs,RVs] at h |-;obtain⟨u,e,rfl,l,j⟩:=h;have f:ℓ.sub i ≠ .box k:=by cases ℓ<;>simp[Owner.sub]
  exact⟨u,e,rfl,Qbmq c (ℓ.sub i) u f l,RVs_frm cs ℓ (i+1) e j⟩
end
end
theorem Qbi1{g:G}{w:World}{ℓ:Owner}{u c : Value}(h:(Qod u).dat1=true)(hr:RV g w (Qod u) ℓ c):c=u:=by
 cases u<;>simp[Qod,V.dat1] at h<;>simpa[Qod,RV,RD] using hr
theorem Q8c{g:G}{w:World}{ℓ:Owner}:∀{us c : List Value}{i:Nat},(us.map Qod).all V.dat1=true->RVs g w (us.map Qod) ℓ i c->c=us
 |[],_,_,_,h=>by simpa[RVs] using h
 |u::us,c,i,e,h=>by
  simp only[Zb,Zbc,Zc] at e;simp only[Zb,RVs] at h;obtain⟨v,vs,rfl,j,f⟩:=h;rw[Qbi1 e.1 j,Q8c e.2 f]
theorem Qbey{g:G}{w:World}{ℓ:Owner}{u c : Value}(h:(Qv2 u).dat=true)(hr:RV g w (Qv2 u) ℓ c):c=u:=by
 cases u with
 |agg vs =>
  simp only[Qv2,RV] at hr;obtain⟨us,rfl,e,_⟩:=hr;rw[Q8c h e]
 |_=>grind [Qv2,Qod,V.dat,RV,RD]
theorem Qbi2{g:G}{w:World}{i:Nat}:∀{f c : List MapEntry},RM g w i (f.map entV) c->c=f
 |[],_,h=>by simpa[RM] using h
 |e::f,c,h=>by
  simp only[Zb,RM] at h;obtain⟨o,t,rfl,⟨y,u⟩,⟨r,q⟩,n,j⟩:=h;rw[Qbi2 j];obtain⟨k,v,b⟩:=e;obtain⟨k',v',s⟩:=o;have p:(Qv2 v).dat=true:=by
   rcases Qrx r with h|⟨sz,l,h⟩
   ·exact h
   ·cases v<;>simp[entV,Qv2,Qod] at h
  rw[show k'=k from Qbey y u,show v'=v from Qbey p q,show s=b from n]
variable{Γ:Env}{σ:St}
open Classical in
theorem Qblm{k c:Nat}{f:List MapEntry}(hk:Γ.n0<=k)(T:σ.M k=some (.mp (f.map entV) c)):WeakSt Γ σ (Qsl Γ.n0 k (frmV k (.mp f c)) σ):=by
 intro a w g hs;obtain⟨S,hB,R,P,hr⟩:=hs.mem.box k _ T;rw[Qbi2 hr] at P;have hx:RD (g.frz k 1).imm w (.mp f c) (.map (some (g.box k))):=by
  simp only[RD];exact⟨_,rfl,.inr ⟨rfl,by omega⟩,Qbky P⟩
 have r:=Qmi (w:=w) hB;have l:∀j,(There σ.M j/\j≠k)->There (Qsl Γ.n0 k (frmV k (.mp f c)) σ).M j:=by
  rintro j ⟨p,s⟩;simp only[There,Qsl,s,if_false] at p |-;split
  ·exact p
  ·cases N:σ.M j with
   |none=>simp[N] at p
   |some b=>cases b<;>rfl
 have y:∀j,j≠k->g.own (g.box j) = .box j->(g.frz k 1).own (g.box j) = .box j:=by
  intro j N ho;have n:g.box j≠g.box k:=by
   intro e;rw[e,hB] at ho;cases ho;exact N rfl
  simp[G.frz,n,ho]
 refine⟨g.frz k 1,⟨⟨fun j b hb=>?_,fun b o H=>?_⟩,fun t=>Qbmq hB hx _ _ _ (by simp) (hs.slots t),hs.size,hs.defers,fun t=>Qf8 l _ (Qbmp k _ _ (hs.onS t)),fun j cs' hb=>?_,hs.top,?_⟩⟩
 ·simp only[Qsl] at hb;split at hb
  ·cases hb
  ·rename_i z;split at hb
   ·rename_i q;obtain⟨p,s,I⟩:=hs.mem.box j b hb;refine⟨p,y j z s,?_⟩;cases b with
    |mp es c =>
     obtain⟨f,C,B⟩:=I;exact⟨f,C,Qll (g:=g) (g':=g.frz k 1) r (fun _=>by simp) B⟩
    |cells u =>
     obtain⟨v,e,C,B,J⟩:=I;have L:=(hs.onM j u hb).2 q;exact⟨v,e,C,RVs_mono r Qql (by simp) _ _ _ _ (by intro e;cases e;exact z rfl) (ons_mono (fun i O=>by omega) _ L) B,J⟩
   ·split at hb
    ·rename_i q _ u F;cases hb;obtain⟨p,s,v,e,C,B,J⟩:=hs.mem.box j _ F;refine⟨p,y j z s,v,e,C,?_,J⟩;rw[<-Q5w];exact RVs_frm hB hx _ _ _ _ B
    ·rename_i n;obtain⟨p,s,I⟩:=hs.mem.box j b hb;cases b with
     |mp es c =>
      obtain⟨f,C,B⟩:=I;exact⟨p,y j z s,f,C,Qll (g:=g) (g':=g.frz k 1) r (fun _=>by simp) B⟩
     |cells u=>exact absurd hb (n u)
 ·rcases H with H|⟨rfl,q⟩
  ·obtain⟨p,s⟩:=hs.mem.imm b o H;refine⟨p,fun j=>?_⟩;simp only[G.frz];split
   ·simp
   ·exact s j
  ·exact⟨(Zaf.1 P).1,fun j=>by simp[G.frz]⟩
 ·simp only[Qsl] at hb;split at hb
  ·cases hb
  ·rename_i z;split at hb
   ·rename_i q;obtain⟨p,s⟩:=hs.onM j cs' hb;refine⟨ons_mono (fun i O=>l i ⟨O.1,?_⟩) _ (ons_and cs' p (s q)),s⟩;have:=O.2;omega
   ·split at hb
    ·rename_i q _ u F;cases hb;refine⟨?_,fun h=>absurd h q⟩;rw[<-Q5w];exact ons_mono l _ (ons_frm k _ _ (hs.onM j u F).1)
    ·rename_i n;exact absurd hb (n cs')
 ·have A:=hs.fr;refine⟨A.os,A.tape,A.output,A.size,⟨fun b o h=>.inl (A.imm.mono b o h),A.imm.look⟩,A.box,fun b hb ho=>?_⟩;obtain⟨p,s,I⟩:=A.old b hb ho;have n:b≠g.box k:=by
   rintro rfl;rw[hB] at p;rw[<-p] at ho;exact ho
  exact⟨by simp[G.frz,n,p],s,fun o=>by simp[G.frz,n,I]⟩
def Qbmr:V->Value
 |.d (.int k n)=>.int k n
 |.d (.bool b)=>.bool b
 |.d (.str s)=>.string s
 |_=>undef
def Qbba:V->Value
 |.agg cs=>.agg (cs.map Qbmr).toArray
 |v=>Qbmr v
def Qbnw(e:V×V×Nat):MapEntry:=⟨Qbba e.1,Qbba e.2.1,e.2.2⟩
section
variable{κ β:Type}
def mpD(ek:κ->V)(ev:β->V)(m:List (κ×β)):D:=.mp ((mapE ek ev 0 m).map Qbnw) m.length
theorem Q5x{ek:κ->V}{ev:β->V}(hk:∀a,Qv2 (Qbba (ek a))=ek a)(hv:∀b,Qv2 (Qbba (ev b))=ev b):∀(i:Nat)(m:List (κ×β)),((mapE ek ev i m).map Qbnw).map entV=mapE ek ev i m
 |_,[]=>rfl
 |i,(k,v)::m=>by
  have:=Q5x hk hv (i+1) m;simp only[mapE,Zb,this];simp only[Qbnw,entV,hk,hv]
theorem Q3u(t:Nat){E e : List (Nat×V)}{L:List (Nat×Bx)}{c : List (Nat×Bx)}{M0:Mem}{nb:Nat}{ek:κ->V}{ev:β->V}{m:List (κ×β)}(f:Qcf L t=some (.mp (mapE ek ev 0 m) m.length))(hkk:∀a,Qv2 (Qbba (ek a))=ek a)(hvv:∀b,Qv2 (Qbba (ev b))=ev b)(i:FE (frmV (Γ.n0+t) (mpD ek ev m)) (look E) e)(h:FB (frmV (Γ.n0+t) (mpD ek ev m)) t L c)(hk:(L.all fun p=>Nat.beq p.1 t||c.any fun q=>Nat.beq p.1 q.1)=true):
  WeakSt Γ ⟨look E,Qn Γ.n0 L M0,nb⟩ ⟨look e,Qn Γ.n0 (bxs c) M0,nb⟩ :=
 Q77 _ t (Qblm (σ:=⟨look E,Qn Γ.n0 L M0,nb⟩) (k:=Γ.n0+t) (by omega) (by show Qn Γ.n0 L M0 (Γ.n0+t)=_;rw[Qdt,Q5x hkk hvv];exact f)) i h hk
end
theorem mPtr{n0 t u o:Nat}{x:D}(h:Nat.beq u t=false):WkV (frmV (n0+t) x (.ptr (n0+u) o)) (.ptr (n0+u) o):=by
 have:¬n0+u=n0+t:=by
  intro e
  simp_all
 exact .same (by simp only[frmV];rw[if_neg this])
theorem mSlO{n0 t u sz o n c:Nat}{x:D}(h:Nat.beq u t=false):WkV (frmV (n0+t) x (.sl sz (n0+u) o n c)) (.sl sz (n0+u) o n c):=by
 have:¬n0+u=n0+t:=by
  intro e
  simp_all
 exact .same (by simp only[frmV];rw[if_neg this])
theorem mMpS{n0 t:Nat}{x:D}:WkV (frmV (n0+t) x (.mp (n0+t))) (.d x):=.same (by simp[frmV])
section
variable{κ β:Type}[BEq κ]{Γ:Env}{pc d nb:Nat}{os:List COp}{E:List (Nat×V)}{M:Mem}{Q:St->Prop}{gd:Option (Nat×Bool)}{a b:Arg}{ek:κ->V}{ev:β->V}{m:List (κ×β)}
variable(hs:∀a b,Qfs (ek a) (ek b)=(a==b)){kd:MK}(hk:∀a,kd.ok (ek a)=true)(hv:∀b,(ev b).dat=true)(hkk:∀a,Qv2 (Qbba (ek a))=ek a)(hvv:∀b,Qv2 (Qbba (ev b))=ev b)
theorem Qbez{k:κ}{e:β}:∀{m:List (κ×β)},hasM m k=false->getM m k e=e
 |[],_=>rfl
 |p::m,c=>by
  simp only[hasM,Zae,Zbo] at c;simp only[getM,c.1,Zg,if_false];exact Qbez c.2
theorem Qbe0(hv:∀b,(ev b).dat=true):∀(i:Nat)(m:List (κ×β)),((mapE ek ev i m).all fun e=>e.2.1.dat)=true
 |_,[]=>rfl
 |i,(k,v)::m=>by simp only[mapE,Zbc,hv,Qbe0 hv (i+1) m,Zav]
include hs hk hv hkk hvv
theorem Rn.lookupDC{z:V}{k:κ}(c:β)(e:ev c=z)(f:Wn E gd)(ha:a.val (look E) = .d (mpD ek ev m))(hb:(b.val (look E)).dem=ek k)(h:Rn Γ pc os ⟨look ((d,.tup [ev (getM m k c),.d (.bool (hasM m k))])::E),M,nb⟩ Q):Rn Γ pc (⟨some d,.lookup kd true z,[a,b],false,gd⟩::os) ⟨look E,M,nb⟩ Q:=by
 subst e;refine Rn.k f rfl rfl ?_ h;simp only[Zb,Zi,V.dems,ha,hb,V.dem,mpD,Ql,Q5x hkk hvv,hk,Qoa hk,Zav,if_true,Qmh hs 0 m c,Qbe0 hv]
 grind [hasM,Qbez]
end
end Go.Abs
end
section
namespace Go.Abs
open Go
abbrev oo(d:Nat)(k:K)(as:List Arg):COp:=⟨some d,k,as,false,none⟩
abbrev oM(d a:Nat):COp:=⟨some d,.mov,[.t a],false,none⟩
abbrev oL(d a:Nat):COp:=⟨some d,.load false 1,[.t a],false,none⟩
abbrev oF(d n a:Nat):COp:=⟨some d,.fld n,[.t a],false,none⟩
abbrev cI(n:Int):Arg:=.c (.d (.int .i64 n))
abbrev ot(d:Nat)(k:K)(as:List Arg):COp:=⟨some d,k,as,true,none⟩
universe u
variable{α:Type u}{Γ:Env}{pc d nb:Nat}{os:List COp}{E:List (Nat×V)}{M:Mem}{Q:St->Prop}{gd:Option (Nat×Bool)}{a b:Arg}{sz:Nat}
theorem Rn.idxArr{k o o' len:Nat}{e:IntKind}{i:Int}(f:Wn E gd)(ha:a.val (look E) = .ptr k o)(hb:b.val (look E) = .d (.int e i))(ho:o'=o+i.toNat*sz)(c:inO len i=some ())(h:Rn Γ pc os ⟨look ((d,.ptr k o')::E),M,nb⟩ Q):
  Rn Γ pc (⟨some d,.idxarr sz len,[a,b],false,gd⟩::os) ⟨look E,M,nb⟩ Q:=by
 subst ho;unfold inO at c;split at c<;>cases c;rename_i hc;refine Rn.k f rfl rfl ?_ h;simp[ha,hb,V.dems,V.dem,Ql,hc.1,hc.2]
def rowO(l:List α)(i:Nat):Option α:=l[i]?
theorem Rn.loadArr{k off o n:Nat}{cs pre post:List V}{e:α->D}{l:List α}{x:α}(i:Wn E gd)(ha:a.val (look E) = .ptr k off)(ho:off=o+n)(j:M k=some (.cells cs))(hc:cs=pre++(l.map fun x=>V.d (e x))++post)(hp:pre.length=o)(c:rowO l n=some x)(h:Rn Γ pc os ⟨look ((d,.d (e x))::E),M,nb⟩ Q):Rn Γ pc (⟨some d,.load false 1,[a],false,gd⟩::os) ⟨look E,M,nb⟩ Q:=by
 subst ho hc hp;unfold rowO at c;obtain⟨f,g⟩:=Zm.1 c;refine Rn.k i rfl rfl ?_ h;have m:(pre++(l.map fun x=>V.d (e x))++post)[pre.length+n]? = some (.d (e x)):=by
  rw[Zbm,Zau (by omega),show pre.length+n-pre.length=n from by omega,Zay (by simpa using f),Zag,c];rfl
 simp only[Zb,Zi,V.dems,ha,V.dem,Ql,j];rw[if_pos (by simp only[Zx,Zu];omega)];simp only[Zg,if_false,Zd];exact⟨_,m,rfl⟩
theorem Rn.lit{bytes:Nat}{xs:List α}{e:α->List D}{g:List (List D)}(j:Wn E gd)(k:xs.map e=g)(f:(Nat.ble bytes 128&&Nat.ble 1 sz&&Nat.ble g.length lim)=true)(h:Rn Γ pc os ⟨look ((d,.own sz (xs.map e))::E),M,nb⟩ Q):Rn Γ pc (⟨some d,.append sz bytes,[.c (.nils sz),.c (.d (.lst sz g))],true,gd⟩::os) ⟨look E,M,nb⟩ Q:=by
 subst k;simp only[Zc] at f;have n:=Zy f.1.1;have m:0<sz:=Zy f.1.2;have l:=Zy f.2;refine Rn.kT j rfl rfl (v:=.own sz (xs.map e)) ?_ (fun i=>?_) h
 ·simp only[Zb,Zi,Arg.val,Ql,Qgy,if_true];rw[if_pos (by simp only[n,m,l,decide_true,Zav])]
 ·simp only[Zb,Zi,Arg.val,Qb2,Q5,Arg.putTo];rw[Qdd]
theorem tv:True:=trivial
abbrev f_(l:List Int):V:=.f (.lst 1 (List.map (eI .i64) l))
abbrev o_(l:List Int):V:=.own 1 (List.map (eI .i64) l)
theorem sr{cs:List COp}{y:CC}{σ:St}{Q:Ex->St->Prop}(h:Rn Γ 9 cs σ (Qbio Γ y Q .norm)):Tr Γ (.seq (.region cs 9 []) y) σ Q:=Tr.seq (Tr.rgn h)
theorem nt{y:CC}{σ:St}{Q:Ex->St->Prop}(h:Tr Γ y σ Q):Rn Γ 9 [] σ (Qbio Γ y Q .norm):=Rn.nil (toN h)
theorem md{x:D}(ha:a.val (look E) = .d x)(h:Rn Γ pc os ⟨look ((d,.d x)::E),M,nb⟩ Q):Rn Γ pc (⟨some d,.mov,[a],false,none⟩::os) ⟨look E,M,nb⟩ Q:=Rn.movD trivial ha h
end Go.Abs
end
section
namespace Go.Abs
open Go
def CompK(P:Program)(c:Nat)(f:List Int->Option (List Int)):Prop :=
 ∀xs ys,f xs=some ys->ys.length<=xs.length/\(xs=[]->ys=xs/\∀M nb,ACalls P c [.d (.lst 1 (List.map (eI .i64) xs))] M nb (.d (.lst 1 (List.map (eI .i64) xs))) M nb) /\
  (∀a k0 M nb,xs.length<=a->M k0=some (.cells (Qb8 (List.map (eI .i64) xs) ((a-xs.length)*1))) ->
   ACalls P c [.sl 1 k0 0 xs.length a] M nb (.sl 1 k0 0 ys.length a) (M.put k0 (.cells (Qb8 (List.map (eI .i64) ys) ((a-ys.length)*1)))) nb)
theorem Qbln{P:Program}{c:Nat}{xs ys:List Int}{n a k0 nb:Nat}{M:Mem}(h:∀a k0 M nb,xs.length<=a->M k0=some (.cells (Qb8 (List.map (eI .i64) xs) ((a-xs.length)*1))) ->
   ACalls P c [.sl 1 k0 0 xs.length a] M nb (.sl 1 k0 0 ys.length a) (M.put k0 (.cells (Qb8 (List.map (eI .i64) ys) ((a-ys.length)*1)))) nb)(b:xs.length=n)(hc:n<=a)(d:M k0=some (.cells (Qb8 (List.map (eI .i64) xs) ((a-n)*1)))):
  ACalls P c [.sl 1 k0 0 n a] M nb (.sl 1 k0 0 ys.length a) (M.put k0 (.cells (Qb8 (List.map (eI .i64) ys) ((a-ys.length)*1)))) nb:=by
 subst b;exact h _ _ _ _ hc d
theorem Tr.seqW2{Γ:Env}{x y r:CC}{σ:St}{Q:Ex->St->Prop}(a:St)(c:Tr Γ x σ (Qbio Γ y fun e b=>e = .norm/\WeakSt Γ b a))(hr:Tr Γ r a Q):Tr Γ (.seq x (.seq y r)) σ Q:=by
 refine Tr.seq (c.mono ?_);intro e b h;cases e with
 |norm=>exact Tr.seqW a h hr
 |exit i=>exact absurd h.1 (by simp)
 |ret=>exact absurd h.1 (by simp)
end Go.Abs
end
section
namespace Go.Abs
open Go
variable{α:Type}
theorem WkVs.app{a f b c : List V}(h:WkVs a f)(k:WkVs b c):WkVs (a++b) (f++c):=by
 induction h with
 |nil=>exact k
 |cons h t g=>exact .cons h g
theorem Qbnx{g g' : α->List V}{f:V->V}:∀{xs:List α},(∀x∈xs,WkVs ((g x).map f) (g' x))->WkVs ((Qex g xs).map f) (Qex g' xs)
 |[],_=>.nil
 |x::xs,h=>by
  rw[Ql1,Ql1,Zbn];exact .app (h x (by simp)) (Qbnx fun y c=>h y (by simp[c]))
theorem Qbpq{sz:Nat}{e:α->List D}{n:Int}{xs:List (List α)}{f:V->V}(g:f (.nils sz) = .nils sz)(h:mkO n ([]:List α)=some xs):WkVs ((Qex (fun(x:List α)=>[V.nils sz]) xs).map f) (Qex (fun(x:List α)=>[V.own sz (List.map e x)]) xs):=by
 refine Qbnx fun x c=>?_;unfold mkO at h;split at h<;>cases h;obtain rfl:=List.eq_of_mem_replicate c;simp only[Zb,Zi,g];exact .cons (WkV.nilsO _) .nil
theorem Qbpr{sz:Nat}{e:α->List D}{xs:List (List α)}{f:V->V}(c:∀l,f (.own sz l) = .own sz l):WkVs ((Qex (fun(x:List α)=>[V.own sz (List.map e x)]) xs).map f) (Qex (fun(x:List α)=>[V.d (.lst sz (List.map e x))]) xs):=by
 refine Qbnx fun x g=>?_;simp only[Zb,Zi,c];exact .cons (WkV.dem' rfl) .nil
variable{Γ:Env}{pc d nb:Nat}{os:List COp}{E:List (Nat×V)}{M M0:Mem}{L:List (Nat×Bx)}{Q:St->Prop}{gd:Option (Nat×Bool)}{a b:Arg}{sz:Nat}{e:α->List D}
def LOn(p:Nat->Prop):List (Nat×Bx)->Prop
 |[]=>True
 |(_,.cells cs)::L=>V.ons p cs/\LOn p L
 |(_,.mp ..)::L=>LOn p L
theorem LOn.at{p:Nat->Prop}:∀{L:List (Nat×Bx)},LOn p L->∀t cs,Qcf L t=some (.cells cs)->V.ons p cs
 |[],_,t,cs,h=>by cases h
 |(u,.cells ds)::L,hp,t,cs,h=>by
  simp only[Qcf] at h;cases hb:Nat.beq t u with
  |true=>rw[hb] at h;cases h;exact hp.1
  |false=>rw[hb] at h;exact LOn.at hp.2 t cs h
 |(u,.mp ..)::L,hp,t,cs,h=>by
  simp only[Qcf] at h;cases hb:Nat.beq t u with
  |true=>rw[hb] at h;cases h
  |false=>rw[hb] at h;exact LOn.at (L:=L) hp t cs h
end Go.Abs
end
section
namespace Go.Abs
open Go
def Mem.puts(M:Mem):List (Nat×Bx)->Mem
 |[]=>M
 |(k,b)::l=>(Mem.puts M l).put k b
variable{M M0 M1 M2 M3:Mem}{k k' : Nat}{b b' c:Bx}{B B' : List (Nat×Bx)}
theorem pg0:M.puts ((k,b)::B) k=some b:=by simp[Mem.puts,Mem.put]
theorem pgS(h:k≠k')(a:M.puts B k=some b):M.puts ((k',c)::B) k=some b:=by simp[Mem.puts,Mem.put,h,a]
theorem ps0:(M.puts ((k,b)::B)).put k b'=M.puts ((k,b')::B):=by
 funext i;simp only[Mem.puts,Mem.put];split<;>rfl
theorem psS(h:k≠k')(hp:(M.puts B).put k b=M.puts B'):(M.puts ((k',c)::B)).put k b=M.puts ((k',c)::B'):=by
 simp only[Mem.puts];rw[<-hp]
 grind [Mem.put]
def Qbi3(M:Mem):List (Nat×Bx)->Prop
 |[]=>True
 |(k,b)::l=>M k=some b/\Qbi3 M l
theorem Qbbb:∀{B:List (Nat×Bx)},Qbi3 M B->M.puts B=M
 |[],_=>rfl
 |(k,b)::l,h=>by
  rw[Mem.puts,Qbbb h.2];funext i;simp only[Mem.put];split
  ·rename_i e;subst e;exact h.1.symm
  ·rfl
def Qbms(n:Nat):List (Nat×Bx)->Prop
 |[]=>True
 |(k,_)::l=>k<n/\Qbms n l
theorem Qbi4{n0:Nat}(a:∀k,n0<=k->M k=none):∀{B:List (Nat×Bx)},Qbms n0 B->∀k,n0<=k->M.puts B k=none
 |[],_,k,hk=>a k hk
 |(j,b)::l,h,k,hk=>by
  have e:k≠j:=by have:=h.1;omega
  simp only[Mem.puts,Mem.put,e,if_false];exact Qbi4 a h.2 k hk
theorem There.puts:∀{B:List (Nat×Bx)}{k:Nat},There M k->There (M.puts B) k
 |[],_,h=>h
 |_::l,_,h=>There.put (There.puts (B:=l) h)
variable{Γ:Env}{pc d nb:Nat}{os:List COp}{E:List (Nat×V)}{L L' : List (Nat×Bx)}{Q:St->Prop}{gd:Option (Nat×Bool)}{x y:Arg}
theorem Tr.puts{a:CC}{s:Sl}{Q:Ex->St->Prop}(B:List (Nat×Bx))(h:Qbi3 M0 B)(k:Tr Γ a ⟨s,Qn Γ.n0 L (M0.puts B),nb⟩ Q):Tr Γ a ⟨s,Qn Γ.n0 L M0,nb⟩ Q:=by
 rw[Qbbb h] at k;exact k
theorem Rn.storeOB{k u off sz:Nat}{l:List (List D)}{cs cs' : List V}(a:Wn E gd)(ha:x.val (look E) = .ptr k off)(hb:look E u = .own sz l)(m:k<Γ.n0)(n:M1 k=some (.cells cs))(e:Nat.ble (off+1) cs.length=true)(g:cs.take off++[.own sz l]++cs.drop (off+1)=cs')(hp:M1.put k (.cells cs')=M2)(h:Rn Γ pc os ⟨look ((u,.d (.lst sz l))::E),Qn Γ.n0 L M2,nb⟩ Q):Rn Γ pc (⟨none,.store 1,[x,.t u],true,gd⟩::os) ⟨look E,Qn Γ.n0 L M1,nb⟩ Q:=by
 have o:=Zy e;have f:[x,Arg.t u].map (fun x=>x.val (look E))=[V.ptr k off,.own sz l]:=by simp only[Zb,Zi,ha];rw[show (Arg.t u).val (look E)=_ from hb]
 refine Rn.kS (v:=.und) a ?_ (fun i=>?_) h
 ·simp_all[if_true,Ql,Q5p,V.topS,V.cells,Zs,Zaj,decide_true,Zbe,V.lt,Bool.or_true,Qu2]
 ·simp only[if_true,f,Qb2,Q5,V.dem];have:x.putTo (look E) (.ptr k off)=look E:=by
   cases x with
   |c v=>rfl
   |t j =>
    simp only[Arg.val] at ha;funext i;simp_all[Arg.putTo,Sl.put]
  rw[this,show (Arg.t u).putTo (look E) (.d (.lst sz l))=(look E).put u (.d (.lst sz l)) from rfl,Qdd]
theorem Rn.loadTB{k off sz:Nat}{l:List (List D)}{cs cs' : List V}(a:Wn E gd)(ha:x.val (look E) = .ptr k off)(g:k<Γ.n0)(i:M1 k=some (.cells cs))(f:cs[off]? = some (.own sz l))(e:cs.set off (.d (.lst sz l))=cs')(hp:M1.put k (.cells cs')=M2)(h:Rn Γ pc os ⟨look ((d,.own sz l)::E),Qn Γ.n0 L M2,nb⟩ Q):Rn Γ pc (⟨some d,.loadT,[x],false,gd⟩::os) ⟨look E,Qn Γ.n0 L M1,nb⟩ Q:=by
 refine Rn.k a rfl rfl ?_ h
 grind [V.dems,V.dem,Ql,Q5p,V.top,Qu2]
def OkB(n0:Nat):List (Nat×Bx)->Prop
 |[]=>True
 |(k,.cells cs)::l=>(n0<=k\/V.lt.go n0 cs=true)/\OkB n0 l
 |(k,.mp ..)::l=>OkB n0 l
theorem OkB.at{n0:Nat}{M:Mem}:∀{B:List (Nat×Bx)},OkB n0 B->∀k cs,k<n0->M.puts B k=some (.cells cs)->M.puts B k=M k\/V.lt.go n0 cs=true
 |[],_,_,_,_,_=>.inl rfl
 |(j,.cells ds)::l,h,k,cs,hk,a=>by
  by_cases e:k=j
  ·subst e;simp only[Mem.puts,Mem.put,if_true,Zh,Bx.cells.injEq] at a;subst a;rcases h.1 with h1|h1
   ·omega
   ·exact .inr h1
  ·simp only[Mem.puts,Mem.put,e,if_false] at a |-;exact OkB.at h.2 k cs hk a
 |(j,.mp ..)::l,h,k,cs,hk,a=>by
  by_cases e:k=j
  ·simp_all[Mem.puts,Mem.put,if_true]
  ·simp only[Mem.puts,Mem.put,e,if_false] at a |-;exact OkB.at (B:=l) h k cs hk a
theorem cw0:(Qn Γ.n0 L M1).puts []=Qn Γ.n0 L M1:=rfl
theorem Qblo{t:Nat}(h:(Qn Γ.n0 L M1).puts B=Qn Γ.n0 L' M2):(Qn Γ.n0 L M1).puts ((Γ.n0+t,b)::B)=Qn Γ.n0 ((t,b)::L') M2:=by
 rw[Mem.puts,h,Qef]
theorem runW{o:COp}{f:FuncId}{args:List V}{r:V}(g:o.wanted (look E)=some true)(hc:o.kind.isCall=true)(ha:o.callee (look E)=some (f,args))(j:ACalls Γ.P f args (Qn Γ.n0 L M1) nb r ((Qn Γ.n0 L M1).puts B) nb)(hB:OkB Γ.n0 B)(hp:(Qn Γ.n0 L M1).puts B=Qn Γ.n0 L' M2)(a:pcOf pc=0)(h:Rn Γ pc os ⟨Qbe (look E) o.dst r,Qn Γ.n0 L' M2,nb⟩ Q):Rn Γ pc (o::os) ⟨look E,Qn Γ.n0 L M1,nb⟩ Q:=by
 refine Rn.cons ?_;unfold COp.run;rw[g];simp only[hc,if_true,ha,a];refine⟨r,_,nb,j,fun k e=>There.puts e,fun k cs e i=>hB.at k cs e i,?_⟩;rw[hp];exact h
def AllIn(M:Mem):List (Nat×Bx)->Prop
 |[]=>True
 |(k,_)::B=>(M k).isSome=true/\AllIn M B
theorem AllIn.at{M:Mem}:∀{B:List (Nat×Bx)},AllIn M B->∀k,(B.any fun p=>Nat.beq p.1 k)=true->(M k).isSome=true
 |[],_,k,h=>by cases h
 |(j,b)::B,hA,k,h=>by
  simp only[Zae,Zat] at h;rcases h with h|h
  ·have:=Zaa h;subst this;exact hA.1
  ·exact AllIn.at hA.2 k h
theorem OkB.cells{n0:Nat}:∀{B:List (Nat×Bx)},OkB n0 B->∀k cs,k<n0->Mem.puts (fun _=>none) B k=some (.cells cs)->V.lt.go n0 cs=true
 |[],_,_,_,_,h=>by cases h
 |(j,.cells ds)::l,h,k,cs,hk,a=>by
  by_cases e:k=j
  ·subst e;simp only[Mem.puts,Mem.put,if_true,Zh,Bx.cells.injEq] at a;subst a;rcases h.1 with h1|h1
   ·omega
   ·exact h1
  ·simp only[Mem.puts,Mem.put,e,if_false] at a;exact OkB.cells (B:=l) h.2 k cs hk a
 |(j,.mp ..)::l,h,k,cs,hk,a=>by
  by_cases e:k=j
  ·simp_all[Mem.puts,Mem.put,if_true]
  ·simp only[Mem.puts,Mem.put,e,if_false] at a;exact OkB.cells (B:=l) h k cs hk a
theorem Rn.callvW{t:Nat}{f:FuncId}{a:List V}{g:List Arg}{args:List V}{r:V}(i:Wn E gd)(j:look E t = .clo f a)(ha:V.dems (g.map (·.val (look E)))++V.dems a=args)(l:ACalls Γ.P f args (Qn Γ.n0 L M1) nb r ((Qn Γ.n0 L M1).puts B) nb)(hB:OkB Γ.n0 B)(hp:(Qn Γ.n0 L M1).puts B=Qn Γ.n0 L' M2)(e:pcOf pc=0)(h:Rn Γ pc os ⟨look ((d,r)::E),Qn Γ.n0 L' M2,nb⟩ Q):Rn Γ pc (⟨some d,.callv,.t t::g,false,gd⟩::os) ⟨look E,Qn Γ.n0 L M1,nb⟩ Q :=
 runW (i.wanted _ _ _ _) rfl (by simp only[COp.callee,Zb,show (Arg.t t).val (look E) = .clo f a from j,ha]) l hB hp e (by grind [Qbe,look,Qdd])
theorem Rn.storeV{t u off:Nat}{v:V}{cs cs' : List V}(g:Wn E gd)(ha:x.val (look E) = .ptr (Γ.n0+t) off)(hb:look E u=v)(l:Qei v=true)(o:v.topS=v)(e:v.dem=v)(p:Qcf L t=some (.cells cs))(a:(Nat.beq v.cells.length 1&&Nat.ble (off+1) cs.length)=true)(m:cs.take off++v.cells++cs.drop (off+1)=cs')(h:Rn Γ pc os ⟨look E,Qn Γ.n0 ((t,.cells cs')::L) M0,nb⟩ Q):Rn Γ pc (⟨none,.store 1,[x,.t u],true,gd⟩::os) ⟨look E,Qn Γ.n0 L M0,nb⟩ Q:=by
 simp only[Zc] at a;have r:v.cells.length=1:=Zaa a.1;have q:=Zy a.2;have f:[x,Arg.t u].map (fun x=>x.val (look E))=[V.ptr (Γ.n0+t) off,v]:=by simp only[Zb,Zi,ha];rw[show (Arg.t u).val (look E)=_ from hb]
 refine Rn.kS (v:=.und) g ?_ (fun i=>?_) h
 ·simp only[if_true,f];simp only[Ql];cases v<;>first
   |(simp[Qei] at l;done)
   |simp_all[Qev,decide_true,Zbe,Nat.le_add_right,Bool.true_or,if_true,Qef]
 ·simp only[if_true,f,Qb2,Q5,e];have:x.putTo (look E) (.ptr (Γ.n0+t) off)=look E:=by
   cases x with
   |c v=>rfl
   |t j =>
    simp only[Arg.val] at ha;funext i;simp_all[Arg.putTo,Sl.put]
  have n:(look E).put u v=look E:=by
   grind [Sl.put]
  rw[this,show (Arg.t u).putTo (look E) v=(look E).put u v from rfl,n]
def argE:List Arg->List V->List (Nat×V)->List (Nat×V)
 |.t i::as,v::vs,E=>argE as vs ((i,v)::E)
 |.c _::as,_::vs,E=>argE as vs E
 |_,_,E=>E
theorem Qw6:∀(e:List Arg)(vs:List V)(E:List (Nat×V)),Q5 (look E) e vs=look (argE e vs E)
 |[],vs,E=>by cases vs<;>rfl
 |a::e,[],E=>by cases a<;>rfl
 |.t i::e,v::vs,E=>by
  simp only[Q5,argE];rw[show (Arg.t i).putTo (look E) v=(look E).put i v from rfl,Qdd];exact Qw6 e vs _
 |.c _::e,v::vs,E=>by
  simp only[Q5,argE];exact Qw6 e vs E
theorem Rn.buildT{a:List Arg}{z:List V}{e:List (Nat×Nat)}{v:V}(f:Wn E gd)(g:Ql Γ.n0 (Γ.n0+d) (.build z e) (a.map (·.val (look E))) M=some (v,M))(h:Rn Γ pc os ⟨look ((d,v)::argE a (V.dems (a.map (·.val (look E)))) E),M,nb⟩ Q):Rn Γ pc (⟨some d,.build z e,a,true,gd⟩::os) ⟨look E,M,nb⟩ Q:=by
 refine Rn.kT f rfl rfl g (fun i=>?_) h
 simp_all[Qb2,look,V.dems,Qw6,Qdd]
theorem Rn.storeT{t u off n:Nat}{v:V}{ds cs cs' : List V}(f:Wn E gd)(ha:x.val (look E) = .ptr (Γ.n0+t) off)(hb:look E u=v)(g:Qei v=true)(l:v.topS.cells=ds)(o:Qcf L t=some (.cells cs))(a:(Nat.beq ds.length n&&Nat.ble (off+n) cs.length)=true)(m:cs.take off++ds++cs.drop (off+n)=cs')(h:Rn Γ pc os ⟨look ((u,v.dem)::E),Qn Γ.n0 ((t,.cells cs')::L) M0,nb⟩ Q):Rn Γ pc (⟨none,.store n,[x,.t u],true,gd⟩::os) ⟨look E,Qn Γ.n0 L M0,nb⟩ Q:=by
 simp only[Zc] at a;have q:v.topS.cells.length=n:=by simp_all
 have p:=Zy a.2;have e:[x,Arg.t u].map (fun x=>x.val (look E))=[V.ptr (Γ.n0+t) off,v]:=by simp only[Zb,Zi,ha];rw[show (Arg.t u).val (look E)=_ from hb]
 refine Rn.kS (v:=.und) f ?_ (fun i=>?_) h
 ·simp only[if_true,e];simp only[Ql];cases v<;>first
   |(simp[Qei] at g;done)
   |simp_all[Qev,decide_true,Zbe,Nat.le_add_right,Bool.true_or,if_true,Qef]
 ·simp only[if_true,e,Qb2,Q5];have:x.putTo (look E) (.ptr (Γ.n0+t) off)=look E:=by
   cases x with
   |c v=>rfl
   |t j =>
    simp only[Arg.val] at ha;funext i;simp_all[Arg.putTo,Sl.put]
  rw[this,show (Arg.t u).putTo (look E) v.dem=(look E).put u v.dem from rfl,Qdd]
def WkB:List (Nat×Bx)->List (Nat×Bx)->Prop
 |[],[]=>True
 |(k,.cells cs)::B,(k',.cells cs')::B'=>(k=k'/\WkVs cs cs')/\WkB B B'
 |_,_=>False
theorem WkB.at{M:Mem}:∀{B B' : List (Nat×Bx)},WkB B B'->∀k,M.puts B' k=M.puts B k\/∃cs cs',M.puts B k=some (.cells cs)/\M.puts B' k=some (.cells cs')/\WkVs cs cs'
 |[],[],_,_=>.inl rfl
 |(j,.cells cs)::B,(f,.cells cs')::B',h,k=>by
  obtain⟨⟨e,g⟩,h⟩:=h;subst e;by_cases a:k=j
  ·grind [pg0]
  ·simp only[Mem.puts,Mem.put,a,if_false];exact WkB.at h k
 |[],_::_,h,_=>h.elim
 |(_,.cells _)::_,[],h,_=>h.elim
 |(_,.mp ..)::_,[],h,_=>h.elim
 |(_,.mp ..)::_,_::_,h,_=>h.elim
 |(_,.cells _)::_,(_,.mp ..)::_,h,_=>h.elim
def FinW(f:List Res)(r:V)(n0:Nat)(M1:Mem):Ex->St->Prop:=fun e σ =>
 (e = .norm\/e = .ret)/\∃a,Qo6 σ f=some a/\Wk a r/\r.on (There M1)/\∀k,k<n0->σ.M k=M1 k
theorem Qbo8{P:Program}{f:FuncId}{l:CFn}(p:Qo P f=some l){args:List V}{r:V}(i:Nat.beq args.length l.np=true)(M M1:Mem)(nb:Nat)(q:(∀k,nb<=k->M k=none)->∀k,nb<=k->M1 k=none)(m:∀(Γ:Env),Γ.P=P->Γ.nt=l.nt->Γ.n0=nb->(∀k,Γ.n0<=k->M k=none)->Tr Γ l.body ⟨Qp5 args,Qn Γ.n0 [] M,Γ.n0+l.nt⟩ (FinW l.res r Γ.n0 M1)):ACalls P f args M nb r M1 nb:=by
 by_cases s:∀k,nb<=k->M k=none
 case neg=>exact Q2u (Qqg p) (Ze _) s
 have q:=q s;have n:∀k,There M1 k->k<nb:=fun k o=>by
  grind [Nat.lt_or_ge,There]
 refine Qbmi p s (Zaa i) (Ze _) fun Γ w t v=>?_;have h:=m Γ w v t (by rw[t];exact s);rw[Q07 (by rw[t];exact s),t] at h;refine h.mono ?_;rintro e u ⟨he,r',h1,h2,h3,h4⟩;refine⟨he,r',h1,h2,fun k b o=>?_,fun _ a _=>⟨h3,fun k cs o=>?_,n⟩⟩
 ·grind
 ·have g:=n k (by simp[There,o]);have A:=(a k cs (by rw[h4 k g];exact o)).1;have z:=(a k cs (by rw[h4 k g];exact o)).2 g;refine ons_mono (fun j C=>?_) cs (ons_and cs A z)
  grind [There]
theorem res0{σ:St}:Qo6 σ []=some (.tup []):=rfl
theorem Qbgh{n0 a b:Nat}(h:Nat.beq a b=false):n0+a≠n0+b:=by
 intro e
 simp_all
end Go.Abs
end
section
namespace Go.Abs
open Go
theorem Qbmt{α:Type}{e:α->List D}{g:α->List V}(a:∀x,g x=(e x).map V.d):∀xs:List α,Qb8 (List.map e xs) 0=Qex g xs
 |[]=>rfl
 |x::xs=>by
  have:=Qbmt a xs;unfold Qb8 at this |-;rw[Ql1,<-this,a];simp
end Go.Abs
end
section
namespace Go.Abs
open Go
variable{α:Type}
def neO(l:List α):Option Unit:=match l with
 |[]=>none
 |_::_=>some ()
theorem Qblp{l:List α}(h:neO l=some ()):¬l=[]:=by
 rintro rfl;cases h
abbrev rowR(g:α->List V)(xs:List α)(R:Nat):List V:=Qex g xs++List.replicate R .und
theorem Qbo9{e:α->List D}{g:α->List V}(c:∀x,g x=(e x).map V.d)(xs:List α)(R:Nat):Qb8 (List.map e xs) R=rowR g xs R:=by
 have:=Qbmt c xs;unfold Qb8 at this |-;rw[List.replicate_zero,Zar] at this;rw[this]
theorem Qbpa{Γ:Env}{o:CC}{Q:Ex->St->Prop}{M0:Mem}(r:Lone Γ M0)(n:Q79 M0)(t κ:Nat){sz m:Nat}{e:α->List D}(g:α->List V){xs:List α}{E:List (Nat×V)}{L:List (Nat×Bx)}(p:∀x,g x=(e x).map V.d)(j:¬xs=[])(l:∀x,(e x).all Qvq=true)(k:look E t = .own sz (List.map e xs))(i:Nat.blt κ m=true)(f:Qcf L κ=none)(s:PL ((t,.und)::E))(q:PB κ 0 L)(h:∀c R,xs.length<=c->Tr Γ o ⟨look ((t,.sl sz (Γ.n0+κ) 0 xs.length c)::E),Qn Γ.n0 ((κ,.cells (rowR g xs R))::L) M0,Γ.n0+m⟩ Q):Tr Γ o ⟨look E,Qn Γ.n0 L M0,Γ.n0+m⟩ Q:=by
 refine Qbmo r n t κ j l k i f s q fun c u v=>?_;rw[Qbo9 p];exact h c _ u
theorem PV.of:∀{vs:List V},Qg3.go vs=true->PV vs
 |[],_=>trivial
 |v::vs,h=>by simp only[Qg3.go,Zc] at h;exact⟨h.1,PV.of h.2⟩
theorem Qbdd{g:α->List V}{xs:List α}{R:Nat}{f:V->V}(h:∀x,(g x).map f=g x)(c:f .und = .und):WkVs ((rowR g xs R).map f) (rowR g xs R):=by
 refine .same ?_;unfold rowR Qex;rw[Zbn,List.map_replicate,c,List.map_flatten,Zap];congr 2;exact List.map_congr_left fun x _=>h x
theorem preR{e:α->List D}{g:α->List V}{ys:List α}{R:Nat}(c:∀x,g x=(e x).map V.d):PreD (rowR g ys R) ((List.map e ys).flatten):=by
 rw[<-Qbo9 c];exact Qbnv
variable{Γ:Env}{pc d nb:Nat}{os:List COp}{E:List (Nat×V)}{M M0:Mem}{L:List (Nat×Bx)}{Q:St->Prop}{gd:Option (Nat×Bool)}{a b:Arg}{g:α->List V}{xs:List α}{sz:Nat}
theorem Rn.storeR{t R:Nat}{i:Int}{y:α}{ys:List α}{v:V}(e:∀x,(g x).length=sz)(j:Wn E gd)(ha:a.val (look E) = .ptr (Γ.n0+t) (0+i.toNat*sz))(hb:(b.val (look E)).dem=v)(k:Qei v=true)(n:Qcf L t=some (.cells (rowR g xs R)))(hc:v.cells=g y)(c:setO xs i y=some ys)(h:Rn Γ pc os ⟨look E,Qn Γ.n0 ((t,.cells (rowR g ys R))::L) M0,nb⟩ Q):Rn Γ pc (⟨none,.store sz,[a,b],false,gd⟩::os) ⟨look E,Qn Γ.n0 L M0,nb⟩ Q:=by
 unfold setO at c;split at c<;>cases c;rename_i f;have l:=Qog e xs;have m:i.toNat*sz+sz<=xs.length*sz:=by
  rw[show i.toNat*sz+sz=(i.toNat+1)*sz from by rw[Zv,Nat.one_mul]];exact Zbi _ f.2
 refine Rn.store (cs':=rowR g (xs.set i.toNat y) R) j ha hb k n ?_ ?_ h
 ·rw[hc,e,Zx,l];simp only[Zc];exact⟨by simp,Nat.ble_eq_true_of_le (by omega)⟩
 ·rw[hc,Zz,List.take_append_of_le_length (by omega),List.drop_append_of_le_length (by omega),<-Zbm,Q5s e y f.2]
end Go.Abs
end
section
namespace Go.Abs
open Go
section
variable{lk:Option Bx}{P:Prop}{f:V->V}{cs cs' : List V}
theorem bS(c:lk=some (.cells cs))(b:P)(a:cs.map f=cs'):∃cs,lk=some (.cells cs)/\P/\WkVs (cs.map f) cs':=⟨cs,c,b,.same a⟩
theorem bM{α:Type}{g:α->List V}{xs:List α}(c:lk=some (.cells (Qex g xs)))(b:P)(a:∀x,(g x).map f=g x):∃cs,lk=some (.cells cs)/\P/\WkVs (cs.map f) (Qex g xs):=⟨_,c,b,Qbmm a⟩
end
theorem mB{n0:Nat}{L:List (Nat×Bx)}{M0:Mem}:∀k,k<n0->Qn n0 L M0 k=M0 k:=fun _ a=>Qe2 a
theorem cS{v v' : V}{vs a : List V}(h:v=v')(t:WkVs vs a):WkVs (v::vs) (v'::a):=.cons (sm h) t
section
variable{Γ:Env}{pc:Nat}{os:List COp}{E:List (Nat×V)}{M:Mem}{nb:Nat}{Q:St->Prop}
end
end Go.Abs
end
section
namespace Go.Abs
universe u
open Go
section
variable{κ α:Type}[BEq κ]
abbrev ownE(sz:Nat)(e:α->List D)(x:List α):V:=.own sz (x.map e)
def mapH(ek:κ->V)(sz:Nat)(e:α->List D)(k:κ):Nat->List (κ×List α)->List (V×V×Nat)
 |_,[]=>[]
 |i,(k',v)::m=>if k==k' then (ek k',.d (.lst sz (v.map e)),i)::mapE ek (ownE sz e) (i+1) m else (ek k',ownE sz e v,i)::mapH ek sz e k (i+1) m
abbrev takH(sz:Nat)(e:α->List D)(m:List (κ×List α))(k:κ):V:=if hasM m k then .own sz ((getM m k []).map e) else .nils sz
variable{ek:κ->V}{sz:Nat}{e:α->List D}
theorem Qbe1{ev:α->V}:∀{n i:Nat}(m:List (κ×α)),n<=i->upM n (mapE ek ev i m)=true
 |_,_,[],_=>rfl
 |n,i,_::m,h=>by
  simp only[mapE,upM,decide_eq_true h,Zbe];exact Qbe1 m (Ze _)
theorem Q5y{k:κ}:∀{i:Nat}{m:List (κ×List α)},hasM m k=false->mapH ek sz e k i m=mapE ek (ownE sz e) i m
 |_,[],_=>rfl
 |i,(k',v)::m,h=>by
  simp only[hasM,Zae,Zbo] at h;simp only[mapH,mapE,h.1,Zg,if_false];rw[Q5y (m:=m) h.2]
theorem Qbbc{k:κ}:∀{i:Nat}{m:List (κ×List α)},hasM m k=true->∃x,(mapE ek (ownE sz e) i m)[idxS m k]? = some x/\modM x.1 (.d (.lst sz ((getM m k []).map e))) (idxS m k) (mapE ek (ownE sz e) i m)=mapH ek sz e k i m
 |_,[],h=>by cases h
 |i,(k',v)::m,h=>by
  simp only[hasM,Zae] at h;simp only[idxS,mapE,mapH,getM];cases hb:(k==k') with
  |true=>exact⟨_,rfl,by simp[modM]⟩
  |false =>
   rw[hb] at h;obtain⟨x,g,f⟩:=Qbbc (i:=i+1) (m:=m) (k:=k) (by simpa[hasM] using h);refine⟨x,by simpa using g,?_⟩;simp only[Zg,if_false,modM,f]
theorem Qbe2{k:κ}{kd:MK}(hk:∀a,kd.ok (ek a)=true):∀(i:Nat)(m:List (κ×List α)),kd.all (mapH ek sz e k i m)=true
 |_,[]=>rfl
 |i,(k',v)::m=>by
  simp only[mapH];have g:=Qoa (ev:=ownE sz e) hk (i+1) m;have f:=Qbe2 (k:=k) hk (i+1) m;simp only[MK.all] at *
  split<;>simp[hk,g,f]
theorem Qbbd(hs:∀a b,Qfs (ek a) (ek b)=(a==b)){k:κ}:∀(i:Nat)(m:List (κ×List α)),Qhf (ek k) (mapH ek sz e k i m)=if hasM m k then some (idxS m k,.d (.lst sz ((getM m k []).map e))) else none
 |_,[]=>rfl
 |i,(k',v)::m=>by
  simp only[mapH,Qky,idxS,getM];by_cases hb:(k==k')=true
  ·simp[Qhf,hs,hb]
  ·simp only[hb,Zg,if_false,Qhf,hs,Bool.false_or,Qbbd hs (i+1) m];by_cases f:hasM m k=true
   ·rw[if_pos f,if_pos f];rfl
   ·rw[if_neg f,if_neg f];rfl
theorem Qbe3{k:κ}{v:List α}:∀(i:Nat){m:List (κ×List α)},hasM m k=true->modM (ek k) (ownE sz e v) (idxS m k) (mapH ek sz e k i m)=mapE ek (ownE sz e) i (setM m k v)
 |_,[],h=>by cases h
 |i,(k',v')::m,h=>by
  simp only[hasM,Zae] at h;simp only[idxS,setM,mapH];cases hb:(k==k') with
  |true=>simp[modM,mapE]
  |false =>
   rw[hb] at h;simp only[Zg,if_false,modM,mapE];rw[Qbe3 (i+1) (by simpa[hasM] using h)]
variable{Γ:Env}{pc d nb:Nat}{os:List COp}{E:List (Nat×V)}{M M' M0:Mem}{L:List (Nat×Bx)}{Q:St->Prop}{gd:Option (Nat×Bool)}{a b c:Arg}{m:List (κ×List α)}
section
variable(hs:∀a b,Qfs (ek a) (ek b)=(a==b)){kd:MK}(hk:∀a,kd.ok (ek a)=true)
include hs hk
theorem Rn.lookupT{t:Nat}{z:V}{k:κ}(g:z = .nils sz)(l:Wn E gd)(ha:a.val (look E) = .mp (Γ.n0+t))(hb:(b.val (look E)).dem=ek k)(f:Qcf L t=some (.mp (mapE ek (ownE sz e) 0 m) m.length))(h:Rn Γ pc os ⟨look ((d,takH sz e m k)::E),Qn Γ.n0 ((t,.mp (mapH ek sz e k 0 m) m.length)::L) M0,nb⟩ Q):Rn Γ pc (⟨some d,.lookupT kd z,[a,b],false,gd⟩::os) ⟨look E,Qn Γ.n0 L M0,nb⟩ Q:=by
 subst g;refine Rn.k l rfl rfl ?_ h;simp only[Zb,Zi,V.dems,ha,hb,V.dem,Ql,Qev f,hk,Qoa hk,Qbe1 m (Ze _),Zav,if_true,Qmh hs 0 m []];rw[<-Qef];cases hh:hasM m k with
 |true =>
  obtain⟨x,p,o⟩:=Qbbc (ek:=ek) (sz:=sz) (e:=e) (i:=0) hh;simp only[if_true,p,Zad,takH,hh,o]
 |false =>
  simp only[Zg,if_false,takH,hh,Q5y hh];have:(Qn Γ.n0 L M0).put (Γ.n0+t) (.mp (mapE ek (ownE sz e) 0 m) m.length)=Qn Γ.n0 L M0:=by
   funext j;simp only[Mem.put];split
   ·rename_i n;subst n;exact (Qev f).symm
   ·rfl
  rw[this];rfl
theorem Rn.mapsetT{t u:Nat}{k:κ}{v:List α}(n:Wn E gd)(ha:a.val (look E) = .mp (Γ.n0+t))(hb:b.val (look E)=ek k)(hc:look E u = .own sz (v.map e))(r:Qcf L t=some (.mp (mapH ek sz e k 0 m) m.length))(h:Rn Γ pc os ⟨look ((u,.d (.lst sz (v.map e)))::E),Qn Γ.n0 ((t,.mp (mapE ek (ownE sz e) 0 (setM m k v)) (setM m k v).length)::L) M0,nb⟩ Q):Rn Γ pc (⟨none,.mapsetT kd,[a,b,.t u],true,gd⟩::os) ⟨look E,Qn Γ.n0 L M0,nb⟩ Q:=by
 refine Rn.cons ?_;unfold COp.run;rw[n.wanted];have p:[a,b,Arg.t u].map (fun x=>x.val (look E))=[.mp (Γ.n0+t),ek k,.own sz (v.map e)]:=by
  simp only[Zb,Zi,ha,hb];rw[show (Arg.t u).val (look E)=_ from hc]
 have g:Ql Γ.n0 (Γ.n0+0) (.mapsetT kd) [.mp (Γ.n0+t),ek k,.own sz (v.map e)] (Qn Γ.n0 L M0)=some (.und,Qn Γ.n0 ((t,.mp (mapE ek (ownE sz e) 0 (setM m k v)) (setM m k v).length)::L) M0):=by
  simp only[Ql,Qev r,hk,Qbe2 hk,Zav,if_true,Qbbd hs];rw[<-Qef];cases hh:hasM m k with
  |true=>simp only[if_true];rw[Qbe3 0 hh,Qqk hh]
  |false =>
   simp only[Zg,if_false];rw[Qqj hh,Qqi,Q5y hh];simp[mapE]
 simp only[K.isCall,K.isNil,Zg,if_false,COp.step,COp.xs,if_true,Option.getD_none,p,g,Qbe];have l:Q5 (look E) [a,b,Arg.t u] (Qb2 (.mapsetT kd) [.mp (Γ.n0+t),ek k,.own sz (v.map e)])=look ((u,.d (.lst sz (v.map e)))::E):=by
  simp only[Qb2,Q5,V.dem];have f : ∀(x:Arg)(v:V),x.val (look E)=v->x.putTo (look E) v=look E:=by
   intro x v o;cases x with
   |c _=>rfl
   |t i =>
    funext j;simp only[Arg.putTo,Sl.put];split
    ·rename_i q;subst q;exact o.symm
    ·rfl
  rw[f a _ ha,f b _ hb];exact Qdd E u _
 rw[l];exact h
end
end
theorem sq{v:V}:WkV v v:=.same rfl
theorem sj{f:Type u}{x y:f}(h:some x=some y):y=x:=(Zbq h).symm
def fl2(off:Nat):V->Option (Nat×Nat)
 |.ptr k o=>some (k,o+off)
 |_=>none
def bi2(op:BinOp)(f:Bool):V->V->Option D
 |.d x,.d y=>binD op f x y
 |_,_=>none
section
variable{Γ:Env}{pc:Nat}{os:List COp}{E:List (Nat×V)}{M:Mem}{nb:Nat}{Q:St->Prop}{d:Nat}{a b c:Arg}
theorem fP{k off o' : Nat}(ha:fl2 off (a.val (look E))=some (k,o'))(h:Rn Γ pc os ⟨look ((d,.ptr k o')::E),M,nb⟩ Q):Rn Γ pc (⟨some d,.fld off,[a],false,none⟩::os) ⟨look E,M,nb⟩ Q:=by
 cases hv:a.val (look E)<;>rw[hv] at ha<;>simp only[fl2,Zh,Zf,reduceCtorEq] at ha;obtain⟨rfl,rfl⟩:=ha;exact Rn.fldP tv hv rfl h
theorem bN{op:BinOp}{f:Bool}{z:D}(ha:bi2 op f (a.val (look E)) (b.val (look E))=some z)(h:Rn Γ pc os ⟨look ((d,.d z)::E),M,nb⟩ Q):Rn Γ pc (⟨some d,.bin op f,[a,b],false,none⟩::os) ⟨look E,M,nb⟩ Q:=by
 cases hv:a.val (look E)<;>cases hw:b.val (look E)<;>rw[hv,hw] at ha<;>simp only[bi2,reduceCtorEq] at ha;exact Rn.bin tv hv hw ha h
theorem sK{t:Nat}{k:K}{l:List Arg}{tk:Bool}{g:Nat}{q f:Bool}(j:look E g = .d (.bool q))(i:q = !f)(h:Rn Γ pc os ⟨look ((t,.tup [])::E),M,nb⟩ Q):Rn Γ pc (⟨some t,k,l,tk,some (g,f)⟩::os) ⟨look E,M,nb⟩ Q:=Rn.sk (nw j i) h
theorem pT(v:V){q:Bool}(f:c.val (look E) = .d (.bool q))(hb:q=true)(ha:(a.val (look E)).dem=v)(h:Rn Γ pc os ⟨look ((d,v)::E),M,nb⟩ Q):Rn Γ pc (⟨some d,.pick,[c,a,b],false,none⟩::os) ⟨look E,M,nb⟩ Q:=Rn.pickT tv f hb ha h
theorem pF(v:V){q:Bool}(f:c.val (look E) = .d (.bool q))(hb:q=false)(ha:(b.val (look E)).dem=v)(h:Rn Γ pc os ⟨look ((d,v)::E),M,nb⟩ Q):Rn Γ pc (⟨some d,.pick,[c,a,b],false,none⟩::os) ⟨look E,M,nb⟩ Q:=Rn.pickF tv f hb ha h
theorem mv(v:V)(ha:(a.val (look E)).dem=v)(h:Rn Γ pc os ⟨look ((d,v)::E),M,nb⟩ Q):Rn Γ pc (⟨some d,.mov,[a],false,none⟩::os) ⟨look E,M,nb⟩ Q:=Rn.mov tv ha h
end
end Go.Abs
end
section
namespace Go.Abs
open Go
variable{α:Type}
variable{Γ:Env}{pc d nb:Nat}{os:List COp}{E:List (Nat×V)}{M M0:Mem}{L:List (Nat×Bx)}{Q:St->Prop}{gd:Option (Nat×Bool)}{a b:Arg}{g:α->List V}{e:α->List D}{xs:List α}{sz:Nat}
end Go.Abs
end
section
namespace Go.Abs
open Go
variable{Γ:Env}{pc d nb sz:Nat}{os:List COp}{E:List (Nat×V)}{M M0:Mem}{Q:St->Prop}{L:List (Nat×Bx)}{a b c:Arg}{R:Type}{r:R}{gd:Option (Nat×Bool)}{α:Type}{e:α->List D}{xs:List α}{k:IntKind}{i:Int}
abbrev g1(g:Nat)(o:COp):COp:=⟨o.dst,o.kind,o.args,o.tk,some (g,true)⟩
abbrev g0(g:Nat)(o:COp):COp:=⟨o.dst,o.kind,o.args,o.tk,some (g,false)⟩
abbrev oI(d n a b:Nat):COp:=⟨some d,.idx n,[.t a,.t b],false,none⟩
abbrev oB(d:Nat)(p:BinOp)(a b:Arg):COp:=⟨some d,.bin p false,[a,b],false,none⟩
abbrev oN(d a:Nat):COp:=⟨some d,.nilchk,[.t a],false,none⟩
abbrev oE(d a:Nat):COp:=⟨some d,.len,[.t a],false,none⟩
abbrev oC(d:Nat)(n:Int):COp:=⟨some d,.mov,[cI n],false,none⟩
abbrev oJ(d n a:Nat):COp:=⟨some d,.load true n,[.t a],false,none⟩
abbrev oT(d a:Nat):COp:=⟨some d,.mov,[.t a],true,none⟩
abbrev oX(d i a:Nat):COp:=⟨some d,.extract i,[.t a],false,none⟩
abbrev oK(d f:Nat)(l:List Arg):COp:=⟨some d,.call f,l,false,none⟩
abbrev oP(d g x:Nat):COp:=⟨some d,.pick,[.t g,.t x,.c (.d (.bool false))],false,none⟩
abbrev oQ(d g x:Nat):COp:=⟨some d,.pick,[.t g,.c (.d (.bool true)),.t x],false,none⟩
abbrev oS(n a b:Nat):COp:=⟨none,.store n,[.t a,.t b],true,none⟩
abbrev oU(n a b:Nat):COp:=⟨none,.store n,[.t a,.t b],false,none⟩
abbrev oA(d n m a b:Nat):COp:=⟨some d,.append n m,[.t a,.t b],true,none⟩
abbrev sg(l:List COp)(c:CC):CC:=.seq (.region l 9 []) c
abbrev rg(l:List COp):CC:=.region l 9 []
inductive Ls:List V->List V->Prop
  |nil:Ls [] []
  |d {x:D} {l m:List V} (h:Ls l m):Ls (.d x::l) (.d x::m)
  |cons {x:V} {l m:List V} (h:Ls l m):Ls (x::l) (x::m)
theorem Ls.eq{l m:List V}(h:Ls l m):l=m:=by
  induction h with
  |nil=>rfl
  |d _ ih=>rw[ih]
  |cons _ ih=>rw[ih]
structure Fu(n:Nat):Prop where
  t:True
structure Hd(m:Nat)(q:Prop):Prop where
  g:q
theorem Fu.dn{n:Nat}(h:Fu (n+1)):Fu n:=⟨tv⟩
theorem zL{t off n:Nat}{ag:Bool}{cs:List V}{v w:V}(hw:Wn E gd)(ha:a.val (look E) = .ptr (Γ.n0+t) off)(hM:Qcf L t=some (.cells cs))(hn:Nat.ble (off+n) cs.length=true)(hv:(if ag then some (.agg (V.dems ((cs.drop off).take n))) else (cs[off]?).map (·.dem))=some w)(he:w=v)(h:Rn Γ pc os ⟨look ((d,v)::E),Qn Γ.n0 L M0,nb⟩ Q):Rn Γ pc (⟨some d,.load ag n,[a],false,gd⟩::os) ⟨look E,Qn Γ.n0 L M0,nb⟩ Q:=Rn.load hw ha (Qev hM) hn (he ▸ hv) h
theorem zLb{k off n:Nat}{ag:Bool}{cs:List V}{v w:V}(hw:Wn E gd)(ha:a.val (look E) = .ptr k off)(hM:M k=some (.cells cs))(hn:Nat.ble (off+n) cs.length=true)(hv:(if ag then some (.agg (V.dems ((cs.drop off).take n))) else (cs[off]?).map (·.dem))=some w)(he:w=v)(h:Rn Γ pc os ⟨look ((d,v)::E),M,nb⟩ Q):Rn Γ pc (⟨some d,.load ag n,[a],false,gd⟩::os) ⟨look E,M,nb⟩ Q:=Rn.load hw ha hM hn (he ▸ hv) h
theorem zI{g:α->Option R}(hw:Wn E gd)(ha:(a.val (look E)).dem = .d (.lst sz (xs.map e)))(hb:b.val (look E) = .d (.int k i))(h:(getO xs i).bind g=some r)(K:∀x,g x=some r->Rn Γ pc os ⟨look ((d,.cref (e x))::E),M,nb⟩ Q):Rn Γ pc (⟨some d,.idx sz,[a,b],false,gd⟩::os) ⟨look E,M,nb⟩ Q:=by
  obtain⟨x,hx,h⟩:=bnd h
  exact Rn.idxD hw ha hb hx (K x h)
theorem zX{kk len cap:Nat}{g:Unit->Option R}(hw:Wn E gd)(ha:(a.val (look E)).dem = .sl sz kk 0 len cap)(hb:b.val (look E) = .d (.int k i))(h:(inO len i).bind g=some r)(K:g ()=some r->Rn Γ pc os ⟨look ((d,.ptr kk (0+i.toNat*sz))::E),M,nb⟩ Q):Rn Γ pc (⟨some d,.idx sz,[a,b],false,gd⟩::os) ⟨look E,M,nb⟩ Q:=by
  obtain⟨⟨⟩,hx,h⟩:=bnd h
  exact Rn.idxA hw ha hb hx (K h)
section
variable{t bytes:Nat}{ys:List α}{src:V}{g:List α->Option R}
theorem zA(hw:Wn E gd)(ha:look E t = .own sz (xs.map e))(hb:b.val (look E)=src)(hf:src.dem=src)(h:(appO xs ys).bind g=some r)(hs:Qgy M sz src=some (ys.map e))(hbd:(Nat.ble bytes 128&&Nat.ble 1 sz)=true)(K:∀x,g x=some r->Rn Γ pc os ⟨look ((d,.own sz (x.map e))::(t,.d (.lst sz (xs.map e)))::E),M,nb⟩ Q):Rn Γ pc (⟨some d,.append sz bytes,[.t t,b],true,gd⟩::os) ⟨look E,M,nb⟩ Q:=by
  obtain⟨x,hx,h⟩:=bnd h
  exact Rn.app hw ha hb hf hs hx hbd (K x h)
theorem zA0{u:Nat}{cs:List V}(hw:Wn E gd)(ha:look E t = .sl sz (Γ.n0+u) 0 0 0)(hM:Qcf L u=some (.cells cs))(hb:b.val (look E)=src)(hf:src.dem=src)(h:(appO ([]:List α) ys).bind g=some r)(hs:Qgy (Qn Γ.n0 L M0) sz src=some (ys.map e))(hbd:(Nat.ble bytes 128&&Nat.ble 1 sz)=true)(K:∀x,g x=some r->Rn Γ pc os ⟨look ((d,.own sz (x.map e))::E),Qn Γ.n0 L M0,nb⟩ Q):Rn Γ pc (⟨some d,.append sz bytes,[.t t,b],true,gd⟩::os) ⟨look E,Qn Γ.n0 L M0,nb⟩ Q:=by
  obtain⟨x,hx,h⟩:=bnd h
  exact Rn.app0 hw ha hM hb hf hs hx hbd (K x h)
theorem zS2{k' : IntKind}{lo hi:Int}(hw:Wn E gd)(ha:(a.val (look E)).dem = .d (.lst sz (xs.map e)))(hb:b.val (look E) = .d (.int k lo))(hc:c.val (look E) = .d (.int k' hi))(h:(slcO xs lo hi).bind g=some r)(K:∀x,g x=some r->Rn Γ pc os ⟨look ((d,.d (.lst sz (x.map e)))::E),M,nb⟩ Q):Rn Γ pc (⟨some d,.slice sz true true,[a,b,c],false,gd⟩::os) ⟨look E,M,nb⟩ Q:=by
  obtain⟨x,hx,h⟩:=bnd h
  exact Rn.slc2 hw ha hb hc hx (K x h)
theorem zSH{hi:Int}(hw:Wn E gd)(ha:(a.val (look E)).dem = .d (.lst sz (xs.map e)))(hb:b.val (look E) = .d (.int k hi))(h:(slcO xs 0 hi).bind g=some r)(K:∀x,g x=some r->Rn Γ pc os ⟨look ((d,.d (.lst sz (x.map e)))::E),M,nb⟩ Q):Rn Γ pc (⟨some d,.slice sz false true,[a,b],false,gd⟩::os) ⟨look E,M,nb⟩ Q:=by
  obtain⟨x,hx,h⟩:=bnd h
  exact Rn.slcH hw ha hb hx (K x h)
end
section
variable{g:α->List V}{G:α->Option R}{f n:Nat}{ag:Bool}{kk:Nat}
theorem zLa(hw:Wn E gd)(ha:a.val (look E) = .ptr kk (0+i.toNat*sz+f))(hM:M kk=some (.cells (Qex g xs)))(h:(getO xs i).bind G=some r)(K:((∀x,(g x).length=sz)/\Nat.ble (f+max n 1) sz=true)/\∀x,G x=some r->∃v w,(if ag then some (.agg (V.dems (((g x).drop f).take n))) else ((g x)[f]?).map (·.dem))=some w/\w=v/\Rn Γ pc os ⟨look ((d,v)::E),M,nb⟩ Q):
    Rn Γ pc (⟨some d,.load ag n,[a],false,gd⟩::os) ⟨look E,M,nb⟩ Q:=by
  obtain⟨x,hx,h⟩:=bnd h
  obtain⟨v,w,h1,rfl,h2⟩:=K.2 x h
  exact Rn.loadA K.1.1 hw ha hM hx K.1.2 h1 h2
theorem zLa0(hw:Wn E gd)(ha:a.val (look E) = .ptr kk (0+i.toNat*sz))(hM:M kk=some (.cells (Qex g xs)))(h:(getO xs i).bind G=some r)(K:((∀x,(g x).length=sz)/\Nat.ble (0+max n 1) sz=true)/\∀x,G x=some r->∃v w,(if ag then some (.agg (V.dems (((g x).drop 0).take n))) else ((g x)[0]?).map (·.dem))=some w/\w=v/\Rn Γ pc os ⟨look ((d,v)::E),M,nb⟩ Q):
    Rn Γ pc (⟨some d,.load ag n,[a],false,gd⟩::os) ⟨look E,M,nb⟩ Q:=zLa (f:=0) hw ha hM h K
end
theorem zK{X:Option V}{v w:V}(hv:X=some w)(he:w=v)(h:Rn Γ pc os ⟨look ((d,v)::E),M,nb⟩ Q):∃v w,X=some w/\w=v/\Rn Γ pc os ⟨look ((d,v)::E),M,nb⟩ Q:=⟨v,w,hv,he,h⟩
theorem zBx{n:Nat}{v:V}{cs:List V}(hw:Wn E gd)(ha:(a.val (look E)).dem=v)(hv:Qei v=true)(hc:Ls v.cells cs)(hn:Nat.beq cs.length n=true)(hf:(Qcf L d).isNone=true)(h:Rn Γ pc os ⟨look ((d,.ptr (Γ.n0+d) 0)::E),Qn Γ.n0 ((d,.cells cs)::L) M0,nb⟩ Q):Rn Γ pc (⟨some d,.box n,[a],false,gd⟩::os) ⟨look E,Qn Γ.n0 L M0,nb⟩ Q:=Rn.box hw ha hv hc.eq hn hf h
theorem zBs{n:Nat}{z:List V}{ps:List Nat}{as:List Arg}{xs cs:List V}(hw:Wn E gd)(ha:Ls (V.dems (as.map (·.val (look E)))) xs)(hf:(Qcf L d).isNone=true)(hc:(Nat.beq ps.length xs.length&&decide (0<sz)&&z.length==sz&&(ps.zip xs).all (fun(i,x)=>Qei x&&x.cells.length==sz&&decide (i<n)))=true)(hcs:Ls (Qi4 (rep n z) ((ps.zip xs).map fun(i,x)=>(i*sz,x.cells))) cs)(h:Rn Γ pc os ⟨look ((d,.sl sz (Γ.n0+d) 0 n n)::E),Qn Γ.n0 ((d,.cells cs)::L) M0,nb⟩ Q):Rn Γ pc (⟨some d,.bslice sz n z ps,as,false,gd⟩::os) ⟨look E,Qn Γ.n0 L M0,nb⟩ Q:=Rn.bslice hw ha.eq hf hc hcs.eq h
theorem zBd{as:List Arg}{z vs cs xs:List V}{ps:List (Nat×Nat)}(hw:Wn E gd)(ha:Ls (V.dems (as.map (·.val (look E)))) xs)(hk:Ql Γ.n0 (Γ.n0+d) (.build z ps) xs M=some (.agg vs,M))(hc:Ls vs cs)(h:Rn Γ pc os ⟨look ((d,.agg cs)::E),M,nb⟩ Q):Rn Γ pc (⟨some d,.build z ps,as,false,gd⟩::os) ⟨look E,M,nb⟩ Q :=
  Rn.build hw (by rw[ha.eq,hk,hc.eq]) h
theorem zSt{t off n:Nat}{v:V}{cs cs' : List V}(hw:Wn E gd)(ha:a.val (look E) = .ptr (Γ.n0+t) off)(hb:(b.val (look E)).dem=v)(hv:Qei v=true)(hM:Qcf L t=some (.cells cs))(hn:(Nat.beq v.cells.length n&&Nat.ble (off+n) cs.length)=true)(hcs:Ls (cs.take off++v.cells++cs.drop (off+n)) cs')(h:Rn Γ pc os ⟨look E,Qn Γ.n0 ((t,.cells cs')::L) M0,nb⟩ Q):Rn Γ pc (⟨none,.store n,[a,b],false,gd⟩::os) ⟨look E,Qn Γ.n0 L M0,nb⟩ Q:=Rn.store hw ha hb hv hM hn hcs.eq h
theorem zSO{t u off:Nat}{l:List (List D)}{cs cs' : List V}(hw:Wn E gd)(ha:a.val (look E) = .ptr (Γ.n0+t) off)(hb:look E u = .own sz l)(hM:Qcf L t=some (.cells cs))(hn:Nat.ble (off+1) cs.length=true)(hcs:Ls (cs.take off++[.own sz l]++cs.drop (off+1)) cs')(h:Rn Γ pc os ⟨look ((u,.d (.lst sz l))::E),Qn Γ.n0 ((t,.cells cs')::L) M0,nb⟩ Q):Rn Γ pc (⟨none,.store 1,[a,.t u],true,gd⟩::os) ⟨look E,Qn Γ.n0 L M0,nb⟩ Q:=Rn.storeO hw ha hb hM hn hcs.eq h
theorem zSD{t u off:Nat}{x:D}{cs cs' : List V}(hw:Wn E gd)(ha:a.val (look E) = .ptr (Γ.n0+t) off)(hb:look E u = .d x)(hM:Qcf L t=some (.cells cs))(hn:Nat.ble (off+1) cs.length=true)(hcs:Ls (cs.take off++[.d x]++cs.drop (off+1)) cs')(h:Rn Γ pc os ⟨look E,Qn Γ.n0 ((t,.cells cs')::L) M0,nb⟩ Q):Rn Γ pc (⟨none,.store 1,[a,.t u],true,gd⟩::os) ⟨look E,Qn Γ.n0 L M0,nb⟩ Q:=Rn.storeD hw ha hb hM hn hcs.eq h
theorem zSV{t u off:Nat}{v:V}{cs cs' : List V}(hw:Wn E gd)(ha:a.val (look E) = .ptr (Γ.n0+t) off)(hb:look E u=v)(hv:Qei v=true)(hf:v.topS=v)(hf2:v.dem=v)(hM:Qcf L t=some (.cells cs))(hn:(Nat.beq v.cells.length 1&&Nat.ble (off+1) cs.length)=true)(hcs:Ls (cs.take off++v.cells++cs.drop (off+1)) cs')(h:Rn Γ pc os ⟨look E,Qn Γ.n0 ((t,.cells cs')::L) M0,nb⟩ Q):Rn Γ pc (⟨none,.store 1,[a,.t u],true,gd⟩::os) ⟨look E,Qn Γ.n0 L M0,nb⟩ Q:=Rn.storeV hw ha hb hv hf hf2 hM hn hcs.eq h
theorem zST{t u off n:Nat}{v:V}{ds cs cs' : List V}(hw:Wn E gd)(ha:a.val (look E) = .ptr (Γ.n0+t) off)(hb:look E u=v)(hv:Qei v=true)(hds:Ls v.topS.cells ds)(hM:Qcf L t=some (.cells cs))(hn:(Nat.beq ds.length n&&Nat.ble (off+n) cs.length)=true)(hcs:Ls (cs.take off++ds++cs.drop (off+n)) cs')(h:Rn Γ pc os ⟨look ((u,v.dem)::E),Qn Γ.n0 ((t,.cells cs')::L) M0,nb⟩ Q):Rn Γ pc (⟨none,.store n,[a,.t u],true,gd⟩::os) ⟨look E,Qn Γ.n0 L M0,nb⟩ Q:=Rn.storeT hw ha hb hv hds.eq hM hn hcs.eq h
theorem zLT{t off:Nat}{l:List (List D)}{cs cs' : List V}(hw:Wn E gd)(ha:a.val (look E) = .ptr (Γ.n0+t) off)(hM:Qcf L t=some (.cells cs))(hx:cs[off]? = some (.own sz l))(hcs:Ls (cs.set off (.d (.lst sz l))) cs')(h:Rn Γ pc os ⟨look ((d,.own sz l)::E),Qn Γ.n0 ((t,.cells cs')::L) M0,nb⟩ Q):Rn Γ pc (⟨some d,.loadT,[a],false,gd⟩::os) ⟨look E,Qn Γ.n0 L M0,nb⟩ Q:=Rn.loadT hw ha hM hx hcs.eq h
theorem zE{i:Nat}{vs:List V}{v w:V}(hw:Wn E gd)(ha:(a.val (look E)).dem = .tup vs)(hv:vs[i]? = some w)(he:w=v)(ht:v.top=v)(h:Rn Γ pc os ⟨look ((d,v)::E),M,nb⟩ Q):Rn Γ pc (⟨some d,.extract i,[a],false,gd⟩::os) ⟨look E,M,nb⟩ Q:=Rn.ext hw ha (he ▸ hv) ht h
inductive Dr(L' : List (Nat×Bx)):List (Nat×Bx)->List Nat->Prop
  |nil:Dr L' [] []
  |keep {k:Nat} {v:Bx} {l:List (Nat×Bx)} {s:List Nat} (h:(L'.any fun q=>Nat.beq k q.1)=true) (t:Dr L' l s):Dr L' ((k,v)::l) s
  |drop {k:Nat} {v:Bx} {l:List (Nat×Bx)} {s:List Nat} (t:Dr L' l s):Dr L' ((k,v)::l) (k::s)
theorem Qbps{E E' : List (Nat×V)}{L L' : List (Nat×Bx)}{M0:Mem}{nb:Nat}{s:List Nat}(hs:Dr L' L s)(hE:KL Γ.n0 s (look E) E')(hL:KB Γ.n0 s L L')(hk:(L.all fun p=>s.any (Nat.beq p.1)||L'.any fun q=>Nat.beq p.1 q.1)=true):WeakSt Γ ⟨look E,Qn Γ.n0 L M0,nb⟩ ⟨look E',Qn Γ.n0 (bxs L') M0,nb⟩:=Qfo _ hE hL hk
theorem exR{rs:List Res}{r' v:V}{σ:St}{M0:Mem}{n0:Nat}(h1:Qo6 σ rs=some r')(h2:Wk r' v)(h3:v.on (There M0))(h4:∀k,k<n0->σ.M k=M0 k):∃r',Qo6 σ rs=some r'/\Wk r' v/\v.on (There M0)/\∀k,k<n0->σ.M k=M0 k:=⟨r',h1,h2,h3,h4⟩
theorem KLn{n0:Nat}{s:List Nat}{f:Sl}:KL n0 s f []:=tv
theorem KLc{n0 t:Nat}{s:List Nat}{f:Sl}{v v0:V}{E:List (Nat×V)}(h0:f t=v0)(h:WkV (Qd2 (Qjx n0 s) v0) v)(r:KL n0 s f E):KL n0 s f ((t,v)::E):=⟨h0 ▸ h,r⟩
theorem KBn{n0:Nat}{s:List Nat}{L:List (Nat×Bx)}:KB n0 s L []:=tv
theorem KBc{n0 t:Nat}{s:List Nat}{L L' : List (Nat×Bx)}{cs cs' : List V}(h:Qcf L t=some (.cells cs))(h2:s.all (fun u=>!Nat.beq t u)=true)(h3:WkVs (cs.map (Qd2 (Qjx n0 s))) cs')(r:KB n0 s L L'):KB n0 s L ((t,.cells cs')::L'):=⟨⟨cs,h,h2,h3⟩,r⟩
theorem KBm{n0 t c:Nat}{s:List Nat}{L L' : List (Nat×Bx)}{es:List (V×V×Nat)}(h:Qcf L t=some (.mp es c))(h2:s.all (fun u=>!Nat.beq t u)=true)(r:KB n0 s L L'):KB n0 s L ((t,.mp es c)::L'):=⟨⟨h,h2⟩,r⟩
theorem v1{p:Prop}(h:p:=by
  first
    |(apply kPtr;exact rfl)
    |(apply kSl;exact rfl)
    |(apply kMp;exact rfl)
    |exact sq
    |(apply WkV.dem';exact rfl)
    |exact WkV.nilsO _
    |exact WkV.nilsD _
    |(apply Qbpn;apply ltB hM;assumption)
    |exact fToD
    |(apply kFun hM;assumption)
    |exact WkV.ownT _ _
    | exact WkV.und _):p:=h
theorem vM{p:Prop}(h:p:=by repeat first|exact WkVs.nil|(apply WkVs.cons;exact v1)):p:=h
theorem vL{p:Prop}(h:p:=by repeat first|exact WkVs.nil|(apply WkVs.cons;first|exact v1|(apply WkV.agg;exact vM)|(apply WkV.tup;exact vM))):p:=h
theorem vK{p:Prop}(h:p:=by first
    |exact v1
    |(apply WkV.agg;exact vL)
    |(apply WkV.tup;exact vL)
    | (apply kClo;repeat first|exact Qbpo|apply kgD|(apply Qbpp;exact rfl)|(apply Qbo7;apply ltB hM;assumption))):p:=h
theorem vS{p:Prop}(h:p:=by first
    |(apply WkVs.same;exact rfl)
    |exact Qbmm fun _=>rfl
    |exact Qbdd (fun _=>rfl) rfl
    |exact Qbpr fun _=>rfl
    |(apply Qbpq;exact rfl;assumption)
    | exact vL):p:=h
theorem wk{p:Prop}(h:p:=by
  first
    | (show WeakSt _ (Qmc _ _ _) ⟨look _,Qn _ (bxs _) _,_⟩;apply Q76
       · repeat first|exact KLn|(apply KLc;(conv=>lhs;whnf);exact vK)
       · repeat first|exact KBn|(apply KBc;exact rfl;exact rfl;exact vS)|(apply KBm;exact rfl;exact rfl)
       · exact rfl)
    | (show WeakSt _ ⟨look _,Qn _ _ _,_⟩ ⟨look _,Qn _ (bxs _) _,_⟩;apply Qbps;(repeat first|exact Dr.nil|(apply Dr.keep;exact rfl)|apply Dr.drop)
       · repeat first|exact KLn|(apply KLc;(conv=>lhs;whnf);exact vK)
       · repeat first|exact KBn|(apply KBc;exact rfl;exact rfl;exact vS)|(apply KBm;exact rfl;exact rfl)
       · exact rfl)
    | (show WkV _ _;exact vK)):p:=h
theorem Z(n m:Nat){p q:Prop}(k:q)(f:Fu n->Hd m q->p:=by
  intro t k
  repeat (replace t:=Fu.dn t;first
        | (show Rn _ _ (_::_) _ _;first
          |(apply md;exact rfl)
          |(apply bN;exact rfl)
          |(apply fP;exact rfl)
          |(apply zL;(first|exact tv|(apply gw;exact rfl;first|assumption|exact rfl|exact nT (by assumption)|exact nF (by assumption)));exact rfl;exact rfl;exact rfl;exact rfl;(conv=>lhs;whnf))
          |(apply sK;exact rfl;(first|assumption|exact rfl|exact nT (by assumption)|exact nF (by assumption)))
          |(apply Rn.sk (nu rfl))
          |(apply pT;exact rfl;(first|assumption|exact rfl|exact nT (by assumption)|exact nF (by assumption));(conv=>lhs;whnf))
          |(apply pF;exact rfl;(first|assumption|exact rfl|exact nT (by assumption)|exact nF (by assumption));(conv=>lhs;whnf))
          |(apply mv;(conv=>lhs;whnf))
          |(apply Rn.mov;(first|exact tv|(apply gw;exact rfl;first|assumption|exact rfl|exact nT (by assumption)|exact nF (by assumption)));(conv=>lhs;whnf))
          |(apply Rn.movTF;(first|exact tv|(apply gw;exact rfl;first|assumption|exact rfl|exact nT (by assumption)|exact nF (by assumption)));(conv=>lhs;whnf);exact rfl)
          |(apply Rn.movTO;(first|exact tv|(apply gw;exact rfl;first|assumption|exact rfl|exact nT (by assumption)|exact nF (by assumption)));exact rfl)
          |(apply Rn.movTOT;(first|exact tv|(apply gw;exact rfl;first|assumption|exact rfl|exact nT (by assumption)|exact nF (by assumption)));exact rfl)
          |(apply Rn.movTC;(first|exact tv|(apply gw;exact rfl;first|assumption|exact rfl|exact nT (by assumption)|exact nF (by assumption))))
          |(apply Rn.bin;(first|exact tv|(apply gw;exact rfl;first|assumption|exact rfl|exact nT (by assumption)|exact nF (by assumption)));exact rfl;exact rfl;exact rfl)
          |(apply Rn.nilchkP;(first|exact tv|(apply gw;exact rfl;first|assumption|exact rfl|exact nT (by assumption)|exact nF (by assumption)));exact rfl)
          |(apply Rn.fldP;(first|exact tv|(apply gw;exact rfl;first|assumption|exact rfl|exact nT (by assumption)|exact nF (by assumption)));exact rfl;exact rfl)
          |(apply Rn.fldC;(first|exact tv|(apply gw;exact rfl;first|assumption|exact rfl|exact nT (by assumption)|exact nF (by assumption)));exact rfl)
          |(apply Rn.lenD;(first|exact tv|(apply gw;exact rfl;first|assumption|exact rfl|exact nT (by assumption)|exact nF (by assumption)));exact rfl)
          |(apply Rn.lenA;(first|exact tv|(apply gw;exact rfl;first|assumption|exact rfl|exact nT (by assumption)|exact nF (by assumption)));exact rfl)
          |(apply Rn.loadC;(first|exact tv|(apply gw;exact rfl;first|assumption|exact rfl|exact nT (by assumption)|exact nF (by assumption)));exact rfl)
          |(apply Rn.loadCA;(first|exact tv|(apply gw;exact rfl;first|assumption|exact rfl|exact nT (by assumption)|exact nF (by assumption)));exact rfl;exact rfl;exact rfl)
          |(apply zI;(first|exact tv|(apply gw;exact rfl;first|assumption|exact rfl|exact nT (by assumption)|exact nF (by assumption)));exact rfl;exact rfl;exact h;(try clear h);intro y h)
          |(apply zX;(first|exact tv|(apply gw;exact rfl;first|assumption|exact rfl|exact nT (by assumption)|exact nF (by assumption)));exact rfl;exact rfl;exact h;(try clear h);intro h)
          |(apply zLa0;(first|exact tv|(apply gw;exact rfl;first|assumption|exact rfl|exact nT (by assumption)|exact nF (by assumption)));exact rfl;(first|(apply Qev;exact rfl)|(apply Qbdb hM;assumption));exact h;refine⟨⟨fun _=>rfl,rfl⟩,?_⟩;(try clear h);intro y h;apply zK;exact rfl;(conv=>lhs;whnf))
          |(apply zLa;(first|exact tv|(apply gw;exact rfl;first|assumption|exact rfl|exact nT (by assumption)|exact nF (by assumption)));exact rfl;(first|(apply Qev;exact rfl)|(apply Qbdb hM;assumption));exact h;refine⟨⟨fun _=>rfl,rfl⟩,?_⟩;(try clear h);intro y h;apply zK;exact rfl;(conv=>lhs;whnf))
          |(apply zA;(first|exact tv|(apply gw;exact rfl;first|assumption|exact rfl|exact nT (by assumption)|exact nF (by assumption)));exact rfl;exact rfl;exact rfl;exact h;(first|(apply Q5q;exact rfl;exact rfl;exact rfl)|exact Qba3|exact rfl);exact rfl;(try clear h);intro y h)
          |(apply zA0;(first|exact tv|(apply gw;exact rfl;first|assumption|exact rfl|exact nT (by assumption)|exact nF (by assumption)));exact rfl;exact rfl;exact rfl;exact rfl;exact h;(first|(apply Q5q;exact rfl;exact rfl;exact rfl)|exact Qba3|exact rfl);exact rfl;(try clear h);intro y h)
          |(apply zLb;(first|exact tv|(apply gw;exact rfl;first|assumption|exact rfl|exact nT (by assumption)|exact nF (by assumption)));exact rfl;(first|(apply Qev;exact rfl)|(apply Qbdb hM;assumption));exact rfl;exact rfl;(conv=>lhs;whnf))
          |(apply zBs;(first|exact tv|(apply gw;exact rfl;first|assumption|exact rfl|exact nT (by assumption)|exact nF (by assumption)));(repeat first|exact Ls.nil|apply Ls.d|apply Ls.cons);exact rfl;exact rfl;(repeat first|exact Ls.nil|apply Ls.d|apply Ls.cons))
          |(apply zE;(first|exact tv|(apply gw;exact rfl;first|assumption|exact rfl|exact nT (by assumption)|exact nF (by assumption)));exact rfl;exact rfl;(conv=>lhs;whnf);exact rfl)
          |(apply Rn.un;(first|exact tv|(apply gw;exact rfl;first|assumption|exact rfl|exact nT (by assumption)|exact nF (by assumption)));exact rfl;exact rfl)
          |(apply zSt;(first|exact tv|(apply gw;exact rfl;first|assumption|exact rfl|exact nT (by assumption)|exact nF (by assumption)));exact rfl;(conv=>lhs;whnf);exact rfl;exact rfl;exact rfl;(repeat first|exact Ls.nil|apply Ls.d|apply Ls.cons))
          |(apply zSO;(first|exact tv|(apply gw;exact rfl;first|assumption|exact rfl|exact nT (by assumption)|exact nF (by assumption)));exact rfl;exact rfl;exact rfl;exact rfl;(repeat first|exact Ls.nil|apply Ls.d|apply Ls.cons))
          |(apply zSD;(first|exact tv|(apply gw;exact rfl;first|assumption|exact rfl|exact nT (by assumption)|exact nF (by assumption)));exact rfl;exact rfl;exact rfl;exact rfl;(repeat first|exact Ls.nil|apply Ls.d|apply Ls.cons))
          |(apply zSV;(first|exact tv|(apply gw;exact rfl;first|assumption|exact rfl|exact nT (by assumption)|exact nF (by assumption)));exact rfl;(conv=>lhs;whnf);exact rfl;exact rfl;exact rfl;exact rfl;exact rfl;(repeat first|exact Ls.nil|apply Ls.d|apply Ls.cons))
          |(apply zST;(first|exact tv|(apply gw;exact rfl;first|assumption|exact rfl|exact nT (by assumption)|exact nF (by assumption)));exact rfl;(conv=>lhs;whnf);exact rfl;(repeat first|exact Ls.nil|apply Ls.d|apply Ls.cons);exact rfl;exact rfl;(repeat first|exact Ls.nil|apply Ls.d|apply Ls.cons))
          |(apply zLT;(first|exact tv|(apply gw;exact rfl;first|assumption|exact rfl|exact nT (by assumption)|exact nF (by assumption)));exact rfl;exact rfl;exact rfl;(repeat first|exact Ls.nil|apply Ls.d|apply Ls.cons))
          |(apply zBx;(first|exact tv|(apply gw;exact rfl;first|assumption|exact rfl|exact nT (by assumption)|exact nF (by assumption)));(conv=>lhs;whnf);exact rfl;(repeat first|exact Ls.nil|apply Ls.d|apply Ls.cons);exact rfl;exact rfl)
          |(apply zBd;(first|exact tv|(apply gw;exact rfl;first|assumption|exact rfl|exact nT (by assumption)|exact nF (by assumption)));(repeat first|exact Ls.nil|apply Ls.d|apply Ls.cons);exact rfl;(repeat first|exact Ls.nil|apply Ls.d|apply Ls.cons))
          |(apply Rn.alloc;(first|exact tv|(apply gw;exact rfl;first|assumption|exact rfl|exact nT (by assumption)|exact nF (by assumption)));exact rfl)
          |(apply Rn.pickT;(first|exact tv|(apply gw;exact rfl;first|assumption|exact rfl|exact nT (by assumption)|exact nF (by assumption)));exact rfl;(first|assumption|exact rfl|exact nT (by assumption)|exact nF (by assumption));(conv=>lhs;whnf))
          |(apply Rn.pickF;(first|exact tv|(apply gw;exact rfl;first|assumption|exact rfl|exact nT (by assumption)|exact nF (by assumption)));exact rfl;(first|assumption|exact rfl|exact nT (by assumption)|exact nF (by assumption));(conv=>lhs;whnf))
          |(apply Rn.extTD;(first|exact tv|(apply gw;exact rfl;first|assumption|exact rfl|exact nT (by assumption)|exact nF (by assumption)));exact rfl;exact rfl;exact rfl)
          |(apply Rn.conv;(first|exact tv|(apply gw;exact rfl;first|assumption|exact rfl|exact nT (by assumption)|exact nF (by assumption)));exact rfl)
          |(apply zS2;(first|exact tv|(apply gw;exact rfl;first|assumption|exact rfl|exact nT (by assumption)|exact nF (by assumption)));exact rfl;exact rfl;exact rfl;exact h;(try clear h);intro y h)
          | (apply zSH;(first|exact tv|(apply gw;exact rfl;first|assumption|exact rfl|exact nT (by assumption)|exact nF (by assumption)));exact rfl;exact rfl;exact h;(try clear h);intro y h))
        | (show Rn _ _ _ _ _;first
          |refine Rn.nil ⟨rfl,?_⟩
          |refine Rn.nil ⟨by show Qym _ _=true;first|rfl|(simp[Qym,Qme,look,Bool.cond_eq_ite,Nat.beq_eq];done),?_⟩
          | apply Rn.nil)
        |apply Tr.seq
        |apply Tr.rgn
        |apply Tr.rgnD (by decide)
        |apply Tr.block
        |apply Tr.skip
        |apply Tr.ret
        | apply Tr.exit)
  first
    |exact (k:Hd 0 _).g
    | (have k:=(k:Hd 1 _);clear t;revert h;repeat revert y
       exact k.g)
    |exact⟨_,h,wk⟩
    | (cases sj h
       first
        |exact wk
        |exact⟨.inr rfl,_,rfl,fun _ _ _ _ h=>h,tv,mB⟩
        | (refine⟨by first|exact .inr rfl|exact .inl rfl,?_⟩;apply exR
           · first|exact rfl|(apply Qbda;exact rfl;exact rfl;exact rfl;exact rfl)|(apply res2<;>first|exact rfl|(apply Qbda;exact rfl;exact rfl;exact rfl;exact rfl))|(apply res3<;>first|exact rfl|(apply Qbda;exact rfl;exact rfl;exact rfl;exact rfl))|exact res0
           · first|exact fun _ _ _ _ h=>h|exact WkV.rd wk
           · repeat' first|exact tv|refine⟨?_,?_⟩
           · exact mB)))
  : p:=f ⟨tv⟩ ⟨k⟩
section
variable{q:Arg}{x y:CC}{σ:St}{Q:Ex->St->Prop}
theorem cd{b:Bool}{A B:Option R}(h:(if b then A else B)=some r)(hb:q.val σ.s = .d (.bool b))(hx:A=some r->Tr Γ x σ Q)(hy:B=some r->Tr Γ y σ Q):Tr Γ (.cond q x y) σ Q :=
  Tr.cond hb (fun e=>hx (bT e h)) (fun e=>hy (bF e h))
theorem ci{p:Prop}[Decidable p]{A B:Option R}(h:(if p then A else B)=some r)(hb:q.val σ.s = .d (.bool (decide p)))(hx:A=some r->Tr Γ x σ Q)(hy:B=some r->Tr Γ y σ Q):Tr Γ (.cond q x y) σ Q :=
  Tr.cond hb (fun e=>hx (ifT e h)) (fun e=>hy (ifF e h))
theorem bs{G:Prop}{b:Bool}{A B:Option R}(h:(if b then A else B)=some r)(hx:b=true->A=some r->G)(hy:b=false->B=some r->G):G :=
  Q3s b (fun e=>hx e (bT e h)) (fun e=>hy e (bF e h))
theorem bi{G:Prop}{p:Prop}[Decidable p]{A B:Option R}(h:(if p then A else B)=some r)(hx:decide p=true->A=some r->G)(hy:decide p=false->B=some r->G):G :=
  Q3s (decide p) (fun e=>hx e (ifT e h)) (fun e=>hy e (ifF e h))
theorem cu{X:Type}{A:Option X}{g:X->Option R}(h:A.bind g=some r)(mk:X->St)(hx:∀z,A=some z->Tr Γ x σ (Qbnq Γ mk z Q))(hy:∀z,g z=some r->Tr Γ y (mk z) Q):Tr Γ (.seq x y) σ Q:=Tr.cutB mk h hx hy
theorem lo{X:Type}{F:(X->Option R)->X->Option R}{n:Nat}{x0:X}{sites:List Nat}(h:Qbp F n x0=some r)(mk:X->St)(h0:WeakSt Γ (Qmc Γ.n0 sites σ) (mk x0))(body:∀(rec' : X->Option R)y,F rec' y=some r->Tr Γ x (mk y) (Qbnp Γ sites mk rec' r Q)):Tr Γ (.loop sites x) σ Q:=Tr.loop h h0 body
end
inductive Le(E:List (Nat×V)):List Nat->List (Nat×V)->Prop
  |nil:Le E [] []
  |cons {k:Nat} {v:V} {ks:List Nat} {l:List (Nat×V)} (h:look E k=v) (t:Le E ks l):Le E (k::ks) ((k,v)::l)
inductive Lb(L:List (Nat×Bx)):List Nat->List (Nat×Bx)->Prop
  |nil:Lb L [] []
  |cons {k:Nat} {v:Bx} {ks:List Nat} {l:List (Nat×Bx)} (h:Qcf L k=some v) (t:Lb L ks l):Lb L (k::ks) ((k,v)::l)
theorem ke{A B:Prop}(w:A/\B:=by
  constructor
  · repeat first|exact Le.nil|(apply Le.cons;(conv=>lhs;whnf))
  · repeat first|exact Lb.nil|(apply Lb.cons;exact rfl)):A/\B:=w
theorem wS(ks bs:List Nat)(dE:List (Nat×V)->List (Nat×V))(dL:List (Nat×Bx)->List (Nat×Bx)){E1:List (Nat×V)}{L1:List (Nat×Bx)}(w:Le E ks E1/\Lb L bs L1)(h:WeakSt Γ ⟨look E,Qn Γ.n0 L M,nb⟩ ⟨look (dE E1),Qn Γ.n0 (bxs (dL L1)) M,nb⟩):WeakSt Γ ⟨look E,Qn Γ.n0 L M,nb⟩ ⟨look (dE E1),Qn Γ.n0 (bxs (dL L1)) M,nb⟩:=h
section
variable{x y:CC}{Q:Ex->St->Prop}{X:Type}{E1:List (Nat×V)}{L1:List (Nat×Bx)}
theorem cw{A:Option X}{g:X->Option R}(h:A.bind g=some r)(ks bs:List Nat)(dE:X->List (Nat×V)->List (Nat×V))(dL:X->List (Nat×Bx)->List (Nat×Bx))(w:Le E ks E1/\Lb L bs L1)(hx:∀z,A=some z->Tr Γ x ⟨look E,Qn Γ.n0 L M,nb⟩ (Qbnq Γ (fun z=>⟨look (dE z E1),Qn Γ.n0 (bxs (dL z L1)) M,nb⟩) z Q))(hy:∀z,g z=some r->Tr Γ y ⟨look (dE z E1),Qn Γ.n0 (bxs (dL z L1)) M,nb⟩ Q):Tr Γ (.seq x y) ⟨look E,Qn Γ.n0 L M,nb⟩ Q:=Tr.cutB _ h hx hy
theorem lw{F:(X->Option R)->X->Option R}{n:Nat}{x0:X}{sites:List Nat}(h:Qbp F n x0=some r)(ks bs:List Nat)(dE:X->List (Nat×V)->List (Nat×V))(dL:X->List (Nat×Bx)->List (Nat×Bx))(w:Le E ks E1/\Lb L bs L1)(h0:WeakSt Γ (Qmc Γ.n0 sites ⟨look E,Qn Γ.n0 L M,nb⟩) ⟨look (dE x0 E1),Qn Γ.n0 (bxs (dL x0 L1)) M,nb⟩)(body:∀(rec' : X->Option R)y,F rec' y=some r->Tr Γ x ⟨look (dE y E1),Qn Γ.n0 (bxs (dL y L1)) M,nb⟩ (Qbnp Γ sites (fun y=>⟨look (dE y E1),Qn Γ.n0 (bxs (dL y L1)) M,nb⟩) rec' r Q)):Tr Γ (.loop sites x) ⟨look E,Qn Γ.n0 L M,nb⟩ Q:=Tr.loop h h0 body
end
theorem cl{X:Type}{g:X->Option R}{o:Option X}{f:FuncId}{as:List Arg}{args:List V}{w:X->V}(H:∀x,o=some x->∀M nb,ACalls Γ.P f args M nb (w x) M nb)(h:o.bind g=some r)(K:(Wn E gd/\(one (pcOf pc)=true->∀k,nb<=k->M k=none)/\V.dems (as.map (·.val (look E)))=args)/\∀x,g x=some r->Rn Γ pc os ⟨look ((d,w x)::E),M,nb⟩ Q):Rn Γ pc (⟨some d,.call f,as,false,gd⟩::os) ⟨look E,M,nb⟩ Q:=by
  obtain⟨x,hx,h⟩:=bnd h
  exact Rn.call K.1.1 K.1.2.2 (H x hx) K.1.2.1 (K.2 x h)
theorem cm{X:Type}{g:X->Option R}{o:Option X}{f:FuncId}{as:List Arg}{args:List V}{w:X->V}(h:o.bind g=some r)(H:∀x,o=some x->∀M2 nb2,nb<=nb2->Ext M M2->ACalls Γ.P f args M2 nb2 (w x) M2 nb2)(hp:(Nat.ble (pcOf pc) 1||Nat.ble 10 (pcOf pc))=true)(K:(Wn E gd/\(one (pcOf pc)=true->∀k,nb<=k->M k=none)/\V.dems (as.map (·.val (look E)))=args)/\∀x,g x=some r->Rn Γ pc os ⟨look ((d,w x)::E),M,nb⟩ Q):Rn Γ pc (⟨some d,.call f,as,false,gd⟩::os) ⟨look E,M,nb⟩ Q:=by
  obtain⟨x,hx,h⟩:=bnd h
  exact Rn.callM K.1.1 K.1.2.2 (H x hx) hp K.1.2.1 (K.2 x h)
theorem ini{cc:CC}{args:List V}{Q:Ex->St->Prop}(k:Tr Γ cc ⟨look ((List.range' 0 args.length).zip args),M,nb⟩ Q):Tr Γ cc ⟨Qp5 args,M,nb⟩ Q:=Tr.init _ rfl k
theorem cq{A B C p:Prop}(k:p)(w:A/\B/\C:=by refine⟨?_,?_,rfl⟩;(first|exact tv|(apply gw;exact rfl;first|assumption|exact rfl|exact nT (by assumption)|exact nF (by assumption)));first|exact pc0|exact pc9|exact pc2|exact fun _=>Qbo1 hM rfl):(A/\B/\C)/\p:=⟨w,k⟩
theorem Y{p:Prop}(h:p:=by exact Z 99 2 tv):p:=h
end Go.Abs
end
section
namespace Go.Abs
open Go
variable{Γ:Env}{pc d nb sz:Nat}{os:List COp}{E:List (Nat×V)}{M M0 M1 M2:Mem}{Q:St->Prop}{L:List (Nat×Bx)}{a b c:Arg}{gd:Option (Nat×Bool)}{α:Type}
theorem Rn.callO{f i t:Nat}{e:List Arg}{args args' : List V}{r:V}(g:Wn E gd)(j:Qun i e=some t)(ha:Qzr (look E) i e=args)(hk:WkVs args args')(k:∀M nb,ACalls Γ.P f args' M nb r M nb)(h:Rn Γ 9 os ⟨look ((d,r)::(t,(look E t).dem)::E),M,nb⟩ Q):Rn Γ 9 (⟨some d,.callO f i,e,false,gd⟩::os) ⟨look E,M,nb⟩ Q:=by
 refine Rn.cons ?_;unfold COp.run;rw[g.wanted];simp only[show (K.callO f i).isCall=false from rfl,show (K.callO f i).isNil=true from rfl,Zg,if_false,if_true,COp.runN,ha];refine⟨rfl,r,M,nb,(k _ _).weakO hk,fun _ h=>h,fun _ _ _ _=>.inl rfl,?_⟩;rw[show Qbe (Quo (look E) (Qun i e)) (some d) r=look ((d,r)::(t,(look E t).dem)::E) from by
  rw[j];show Qbe ((look E).put t (look E t).dem) (some d) r=_;rw[show (look E).put t (look E t).dem=look ((t,(look E t).dem)::E) from Qdd E t _];exact Qdd _ d r]
 exact h
def chrO(s:ByteArray)(i:Int):Option Int:=if hi:0<=i/\i<s.size then some (s[i.toNat]'(by omega)).toNat else none
theorem Rn.idxs{k:IntKind}{s:ByteArray}{i x:Int}(f:Wn E gd)(ha:a.val (look E) = .d (.str s))(hb:b.val (look E) = .d (.int k i))(e:chrO s i=some x)(h:Rn Γ pc os ⟨look ((d,.d (.int .u8 x))::E),M,nb⟩ Q):
  Rn Γ pc (⟨some d,.idxs,[a,b],false,gd⟩::os) ⟨look E,M,nb⟩ Q:=by
 refine Rn.k f rfl rfl ?_ h;unfold chrO at e;split at e<;>cases e;rename_i g;simp only[Zb,Zi,V.dems,ha,hb,V.dem,Ql];rw[dif_pos g]
theorem Qbbe:∀xs:List Int,Qbaa (xs.map (eI .u8))=some xs
 |[]=>rfl
 |x::xs=>by
  rw[Zb];show (Qbaa (xs.map (eI .u8))).map (x :: ·)=_;rw[Qbbe xs];rfl
theorem Rn.bstr{xs:List Int}(e:Wn E gd)(ha:(a.val (look E)).dem = .d (.lst 1 (xs.map (eI .u8))))(h:Rn Γ pc os ⟨look ((d,.d (.str (strB xs)))::E),M,nb⟩ Q):Rn Γ pc (⟨some d,.bstr,[a],false,gd⟩::os) ⟨look E,M,nb⟩ Q:=by
 refine Rn.k e rfl rfl ?_ h;simp only[Zb,Zi,V.dems,ha,Ql,Qbbe,Zad]
theorem Rn.storeAD{g:α->List V}{xs ys:List α}{t u:Nat}{i:Int}{y:α}{z:D}(j:∀x,(g x).length=1)(k:Wn E gd)(ha:a.val (look E) = .ptr (Γ.n0+t) (0+i.toNat*1))(hb:look E u = .d z)(n:Qcf L t=some (.cells (Qex g xs)))(hc:[V.d z]=g y)(e:setO xs i y=some ys)(h:Rn Γ pc os ⟨look E,Qn Γ.n0 ((t,.cells (Qex g ys))::L) M0,nb⟩ Q):Rn Γ pc (⟨none,.store 1,[a,.t u],true,gd⟩::os) ⟨look E,Qn Γ.n0 L M0,nb⟩ Q:=by
 unfold setO at e;split at e<;>cases e;rename_i l;have f:=Qog j xs;refine Rn.storeD (cs':=Qex g (xs.set i.toNat y)) k ha hb n ?_ ?_ h
 ·rw[f];exact Nat.ble_eq_true_of_le (by omega)
 ·rw[hc,Zz];have:=Q5s j y l.2;simpa using this
theorem Rn.blit{n:Nat}{z:List V}{e:List Nat}{f:List Arg}{xs:List V}{ds:List D}{l:List (List D)}(g:Wn E gd)(ha:V.dems (f.map (·.val (look E)))=xs)(hc:(e.length=xs.length&&decide (0<sz)&&z.length==sz&&(e.zip xs).all (fun(i,x)=>Qei x&&x.cells.length==sz&&decide (i<n)))=true)(o:toDs (Qi4 (rep n z) ((e.zip xs).map fun(i,x)=>(i*sz,x.cells)))=some ds)(j:Qi3 sz n ds=l)(h:Rn Γ pc os ⟨look ((d,.d (.lst sz l))::E),M,nb⟩ Q):Rn Γ pc (⟨some d,.blit sz n z e,f,false,gd⟩::os) ⟨look E,M,nb⟩ Q:=by
 refine Rn.k g rfl rfl ?_ h;rw[ha];have hs:∀κ,Ql Γ.n0 κ (.blit sz n z e) xs M=(if e.length=xs.length&&decide (0<sz)&&z.length==sz&&(e.zip xs).all (fun(i,x)=>Qei x&&x.cells.length==sz&&decide (i<n))
   then (toDs (Qi4 (rep n z) ((e.zip xs).map fun(i,x)=>(i*sz,x.cells)))).map fun ds=>(V.d (.lst sz (Qi3 sz n ds)),M) else none):=fun κ=>by cases xs<;>rfl
 rw[hs,if_pos hc,o,Zad,j]
section
variable{κ β:Type}[BEq κ]{ek:κ->V}{ev:β->V}{m:List (κ×β)}(hs:∀a b,Qfs (ek a) (ek b)=(a==b)){kd:MK}(hk:∀a,kd.ok (ek a)=true)(hv:∀b,(ev b).dat=true)
include hs hk hv
theorem Rn.lookupB{k0:Nat}{z:V}{k:κ}(e:β)(i:ev e=z)(j:Wn E gd)(ha:a.val (look E) = .mp k0)(hb:(b.val (look E)).dem=ek k)(f:M k0=some (.mp (mapE ek ev 0 m) m.length))(h:Rn Γ pc os ⟨look ((d,ev (getM m k e))::E),M,nb⟩ Q):Rn Γ pc (⟨some d,.lookup kd false z,[a,b],false,gd⟩::os) ⟨look E,M,nb⟩ Q:=by
 subst i;refine Rn.k j rfl rfl ?_ h;simp only[Zb,Zi,V.dems,ha,hb,V.dem,Ql,f,hk,Qoa hk,Zav,if_true,Qmh hs 0 m e];cases hh:hasM m k with
 |true=>simp[Qzh (hv _),Qww (hv _)]
 |false =>
  have:getM m k e=e:=by
   clear f h
   induction m with
   |nil=>rfl
   |cons p m g =>
    simp only[hasM,Zae,Zbo] at hh;simp only[getM,hh.1,Zg,if_false];exact g hh.2
  simp[this,hv]
omit hv in
theorem Rn.mapsetB{k0:Nat}{k:κ}{v:β}(i:Wn E gd)(ha:a.val (look E) = .mp k0)(hb:(b.val (look E)).dem=ek k)(hc:Qws (c.val (look E)).dem=ev v)(f:(c.val (look E)).dem.dat=true)(e:k0<Γ.n0)(j:M1 k0=some (.mp (mapE ek ev 0 m) m.length))(hp:M1.put k0 (.mp (mapE ek ev 0 (setM m k v)) (setM m k v).length)=M2)(h:Rn Γ pc os ⟨look E,Qn Γ.n0 L M2,nb⟩ Q):Rn Γ pc (⟨none,.mapset kd,[a,b,c],false,gd⟩::os) ⟨look E,Qn Γ.n0 L M1,nb⟩ Q:=by
 refine Rn.k0 (v:=.und) i rfl rfl ?_ h;have g : Qn Γ.n0 L M1 k0=some (.mp (mapE ek ev 0 m) m.length):=by rw[Qe2 e];exact j
 simp only[Zb,Zi,V.dems,ha,hb,hc,V.dem,Ql,g,hk,f,Qoa hk,Zav,if_true];rw[Qmh hs 0 m v,<-hp,<-Qu2 e];cases hh:hasM m k with
 |true=>simp only[if_true];rw[Q4m 0 hh,Qqk hh]
 |false =>
  simp only[Zg,if_false];rw[Qqj hh,Qqi];simp[mapE]
end
theorem Qbbf{n0 t o:Nat}{ds cs:List D}(h:ds.drop o=cs):WkV (frzV (n0+t) ds (.ptr (n0+t) o)) (.cref cs):=by
 simp only[frzV,if_true,h];exact .same rfl
theorem crT{P:Program}{f:FuncId}{args:List V}{e g:V}{b:Bool}(hb:b=true)(h:∀M nb,ACalls P f args M nb (bif b then e else g) M nb):∀M nb,ACalls P f args M nb e M nb:=by
 subst hb;exact h
theorem crF{P:Program}{f:FuncId}{args:List V}{g e:V}{b:Bool}(hb:b=false)(h:∀M nb,ACalls P f args M nb (bif b then g else e) M nb):∀M nb,ACalls P f args M nb e M nb:=by
 subst hb;exact h
end Go.Abs
end
section
namespace Go.Abs
open Go
set_option maxRecDepth 10000
set_option maxHeartbeats 4000000
structure Qd where
  ambient_:Int
  language_:Int
  deriving DecidableEq
def Qbv(x:Qd):List D:=[.int .i64 x.ambient_,.int .i64 x.language_]
abbrev Qbg(x:Qd):List V:=[(i_ x.ambient_),(i_ x.language_)]
abbrev Qbh(x:Qd):V:=.agg (Qbg x)
abbrev Q6(x:List Qd):V:=.d (.lst 2 (List.map Qbv x))
abbrev Qbz(x:List Qd):V:=.own 2 (List.map Qbv x)
theorem Qqm(a b:Qd):Qfs (Qbh a) (Qbh b)=(a==b):=by
  cases a;cases b;refine (decB ?_);simp[Qbh,Qbg,Qfs,Qrw,Qkb]
structure Qb where
  From:Int
  Event:Int
  To:Int
  deriving DecidableEq
def Qq(x:Qb):List D:=[.int .i64 x.From,.int .i64 x.Event,.int .i64 x.To]
abbrev Qp3(x:Qb):List V:=[(i_ x.From),(i_ x.Event),(i_ x.To)]
abbrev Qtl(x:Qb):V:=.agg (Qp3 x)
abbrev Qi(x:List Qb):V:=.d (.lst 3 (List.map Qq x))
abbrev Qt(x:List Qb):V:=.own 3 (List.map Qq x)
structure Qa where
  zB:List Int
  zF:Int
  zC:List Int
  zD:List Qb
  deriving DecidableEq
def Qcd(x:Qa):List D:=[.lst 1 (List.map (eI .i64) x.zB),.int .i64 x.zF,.lst 1 (List.map (eI .i64) x.zC),.lst 3 (List.map Qq x.zD)]
abbrev Qh(x:Qa):List V:=[(l_ x.zB),(i_ x.zF),(l_ x.zC),.d (.lst 3 (List.map Qq x.zD))]
abbrev Qe(x:Qa):V:=.agg (Qh x)
abbrev Qbq(x:List Qa):V:=.d (.lst 4 (List.map Qcd x))
abbrev Qqn(x:List Qa):V:=.own 4 (List.map Qcd x)
structure Qf where
  Plant:Qa
  Ambient:Qa
  Requirement:Qa
  Observable:List Int
  Controllable:List Int
  deriving DecidableEq
def Qbe4(x:Qf):List D:=[.lst 1 (List.map (eI .i64) x.Plant.zB),.int .i64 x.Plant.zF,.lst 1 (List.map (eI .i64) x.Plant.zC),.lst 3 (List.map Qq x.Plant.zD),.lst 1 (List.map (eI .i64) x.Ambient.zB),.int .i64 x.Ambient.zF,.lst 1 (List.map (eI .i64) x.Ambient.zC),.lst 3 (List.map Qq x.Ambient.zD),.lst 1 (List.map (eI .i64) x.Requirement.zB),.int .i64 x.Requirement.zF,.lst 1 (List.map (eI .i64) x.Requirement.zC),.lst 3 (List.map Qq x.Requirement.zD),.lst 1 (List.map (eI .i64) x.Observable),.lst 1 (List.map (eI .i64) x.Controllable)]
abbrev Q2(x:Qf):List V:=[(l_ x.Plant.zB),(i_ x.Plant.zF),(l_ x.Plant.zC),.d (.lst 3 (List.map Qq x.Plant.zD)),(l_ x.Ambient.zB),(i_ x.Ambient.zF),(l_ x.Ambient.zC),.d (.lst 3 (List.map Qq x.Ambient.zD)),(l_ x.Requirement.zB),(i_ x.Requirement.zF),(l_ x.Requirement.zC),.d (.lst 3 (List.map Qq x.Requirement.zD)),(l_ x.Observable),(l_ x.Controllable)]
abbrev Q4(x:Qf):V:=.agg (Q2 x)
structure Qce where
  list_:List Qa
  events_:List Int
  edges_:List (List ((Int×Int)×Int))
def Qbgi(x:Qce):List D:=[.lst 4 (List.map Qcd x.list_),.lst 1 (List.map (eI .i64) x.events_),.lst 1 (List.map (fun p:List ((Int×Int)×Int)=>[mpD (fun(x:Int×Int)=>(.agg [(i_ x.1),(i_ x.2)]:V)) (fun(x:Int)=>((i_ x):V)) p]) x.edges_)]
abbrev Qe3(x:Qce):List V:=[.d (.lst 4 (List.map Qcd x.list_)),(l_ x.events_),.d (.lst 1 (List.map (fun p:List ((Int×Int)×Int)=>[mpD (fun(x:Int×Int)=>(.agg [(i_ x.1),(i_ x.2)]:V)) (fun(x:Int)=>((i_ x):V)) p]) x.edges_))]
abbrev Qg0(x:Qce):V:=.agg (Qe3 x)
structure Qg where
  p_:Qf
  events_:List Int
  language_:List ((Int×Int)×Int)
  ambient_:List ((Int×Int)×Int)
  plant_:List Int
  moves_:List ((Int×Int)×Int)
  empty_:Bool
  start_:Qd
def Qc(x:Qg):List D:=[.lst 1 (List.map (eI .i64) x.p_.Plant.zB),.int .i64 x.p_.Plant.zF,.lst 1 (List.map (eI .i64) x.p_.Plant.zC),.lst 3 (List.map Qq x.p_.Plant.zD),.lst 1 (List.map (eI .i64) x.p_.Ambient.zB),.int .i64 x.p_.Ambient.zF,.lst 1 (List.map (eI .i64) x.p_.Ambient.zC),.lst 3 (List.map Qq x.p_.Ambient.zD),.lst 1 (List.map (eI .i64) x.p_.Requirement.zB),.int .i64 x.p_.Requirement.zF,.lst 1 (List.map (eI .i64) x.p_.Requirement.zC),.lst 3 (List.map Qq x.p_.Requirement.zD),.lst 1 (List.map (eI .i64) x.p_.Observable),.lst 1 (List.map (eI .i64) x.p_.Controllable),.lst 1 (List.map (eI .i64) x.events_),mpD (fun(x:Int×Int)=>(.agg [(i_ x.1),(i_ x.2)]:V)) (fun(x:Int)=>((i_ x):V)) x.language_,mpD (fun(x:Int×Int)=>(.agg [(i_ x.1),(i_ x.2)]:V)) (fun(x:Int)=>((i_ x):V)) x.ambient_,.lst 1 (List.map (eI .i64) x.plant_),mpD (fun(x:Int×Int)=>(.agg [(i_ x.1),(i_ x.2)]:V)) (fun(x:Int)=>((i_ x):V)) x.moves_,.bool x.empty_,.int .i64 x.start_.ambient_,.int .i64 x.start_.language_]
abbrev Q2w(x:Qg):List V:=[(l_ x.p_.Plant.zB),(i_ x.p_.Plant.zF),(l_ x.p_.Plant.zC),.d (.lst 3 (List.map Qq x.p_.Plant.zD)),(l_ x.p_.Ambient.zB),(i_ x.p_.Ambient.zF),(l_ x.p_.Ambient.zC),.d (.lst 3 (List.map Qq x.p_.Ambient.zD)),(l_ x.p_.Requirement.zB),(i_ x.p_.Requirement.zF),(l_ x.p_.Requirement.zC),.d (.lst 3 (List.map Qq x.p_.Requirement.zD)),(l_ x.p_.Observable),(l_ x.p_.Controllable),(l_ x.events_),.d (mpD (fun(x:Int×Int)=>(.agg [(i_ x.1),(i_ x.2)]:V)) (fun(x:Int)=>((i_ x):V)) x.language_),.d (mpD (fun(x:Int×Int)=>(.agg [(i_ x.1),(i_ x.2)]:V)) (fun(x:Int)=>((i_ x):V)) x.ambient_),(l_ x.plant_),.d (mpD (fun(x:Int×Int)=>(.agg [(i_ x.1),(i_ x.2)]:V)) (fun(x:Int)=>((i_ x):V)) x.moves_),(b_ x.empty_),(i_ x.start_.ambient_),(i_ x.start_.language_)]
abbrev Qbgj(x:Qg):V:=.agg (Q2w x)
structure Qbx where
  at_:Qd
  states_:List Int
  word_:List Int
  deriving DecidableEq
def Q5z(x:Qbx):List D:=[.int .i64 x.at_.ambient_,.int .i64 x.at_.language_,.lst 1 (List.map (eI .i64) x.states_),.lst 1 (List.map (eI .i64) x.word_)]
abbrev Qgb(x:Qbx):List V:=[(i_ x.at_.ambient_),(i_ x.at_.language_),(l_ x.states_),(l_ x.word_)]
abbrev Q50(x:Qbx):V:=.agg (Qgb x)
abbrev Qif(x:List Qbx):V:=.own 4 (List.map Q5z x)
structure Qr where
  state_:Int
  done_:Int
  deriving DecidableEq
def Qfc(x:Qr):List D:=[.int .i64 x.state_,.int .i64 x.done_]
abbrev Qbr(x:Qr):List V:=[(i_ x.state_),(i_ x.done_)]
abbrev Qqo(x:Qr):V:=.agg (Qbr x)
theorem Qhq(a b:Qr):Qfs (Qqo a) (Qqo b)=(a==b):=by
  cases a;cases b;refine (decB ?_);simp[Qqo,Qbr,Qfs,Qrw,Qkb]
structure Qb6 where
  Word:List Int
  Other:List Int
  Event:Int
  deriving DecidableEq
def Qbe5(x:Qb6):List D:=[.lst 1 (List.map (eI .i64) x.Word),.lst 1 (List.map (eI .i64) x.Other),.int .i64 x.Event]
abbrev Qco(x:Qb6):List V:=[(l_ x.Word),(l_ x.Other),(i_ x.Event)]
abbrev Qbo(x:Qb6):V:=.agg (Qco x)
structure Qbw where
  state_:Int
  places_:List Qd
  deriving DecidableEq
def Qr2(x:Qbw):List D:=[.int .i64 x.state_,.lst 2 (List.map Qbv x.places_)]
abbrev Q1a(x:Qbw):List V:=[(i_ x.state_),.d (.lst 2 (List.map Qbv x.places_))]
abbrev Q1b(x:Qbw):V:=.agg (Q1a x)
abbrev Qek(x:List Qbw):V:=.own 2 (List.map Qr2 x)
structure Qu where
  zF:Int
  Marks:Int
  To:(Int×Int×Int×Int×Int)×(Int×Int×Int×Int×Int)×(Int×Int×Int×Int×Int)×(Int×Int×Int×Int×Int)×(Int×Int×Int×Int×Int)
def Qoh(x:Qu):List D:=[.int .u8 x.zF,.int .u8 x.Marks,.int .u8 x.To.1.1,.int .u8 x.To.1.2.1,.int .u8 x.To.1.2.2.1,.int .u8 x.To.1.2.2.2.1,.int .u8 x.To.1.2.2.2.2,.int .u8 x.To.2.1.1,.int .u8 x.To.2.1.2.1,.int .u8 x.To.2.1.2.2.1,.int .u8 x.To.2.1.2.2.2.1,.int .u8 x.To.2.1.2.2.2.2,.int .u8 x.To.2.2.1.1,.int .u8 x.To.2.2.1.2.1,.int .u8 x.To.2.2.1.2.2.1,.int .u8 x.To.2.2.1.2.2.2.1,.int .u8 x.To.2.2.1.2.2.2.2,.int .u8 x.To.2.2.2.1.1,.int .u8 x.To.2.2.2.1.2.1,.int .u8 x.To.2.2.2.1.2.2.1,.int .u8 x.To.2.2.2.1.2.2.2.1,.int .u8 x.To.2.2.2.1.2.2.2.2,.int .u8 x.To.2.2.2.2.1,.int .u8 x.To.2.2.2.2.2.1,.int .u8 x.To.2.2.2.2.2.2.1,.int .u8 x.To.2.2.2.2.2.2.2.1,.int .u8 x.To.2.2.2.2.2.2.2.2]
abbrev Qw7(x:Qu):List V:=[.d (.int .u8 x.zF),.d (.int .u8 x.Marks),.d (.int .u8 x.To.1.1),.d (.int .u8 x.To.1.2.1),.d (.int .u8 x.To.1.2.2.1),.d (.int .u8 x.To.1.2.2.2.1),.d (.int .u8 x.To.1.2.2.2.2),.d (.int .u8 x.To.2.1.1),.d (.int .u8 x.To.2.1.2.1),.d (.int .u8 x.To.2.1.2.2.1),.d (.int .u8 x.To.2.1.2.2.2.1),.d (.int .u8 x.To.2.1.2.2.2.2),.d (.int .u8 x.To.2.2.1.1),.d (.int .u8 x.To.2.2.1.2.1),.d (.int .u8 x.To.2.2.1.2.2.1),.d (.int .u8 x.To.2.2.1.2.2.2.1),.d (.int .u8 x.To.2.2.1.2.2.2.2),.d (.int .u8 x.To.2.2.2.1.1),.d (.int .u8 x.To.2.2.2.1.2.1),.d (.int .u8 x.To.2.2.2.1.2.2.1),.d (.int .u8 x.To.2.2.2.1.2.2.2.1),.d (.int .u8 x.To.2.2.2.1.2.2.2.2),.d (.int .u8 x.To.2.2.2.2.1),.d (.int .u8 x.To.2.2.2.2.2.1),.d (.int .u8 x.To.2.2.2.2.2.2.1),.d (.int .u8 x.To.2.2.2.2.2.2.2.1),.d (.int .u8 x.To.2.2.2.2.2.2.2.2)]
abbrev Qw8(x:Qu):V:=.agg (Qw7 x)
structure Qby where
  Sets:Int×Int×Int×Int×Int
  Graphs:Qu×Qu×Qu
def Qoi(x:Qby):List D:=[.int .u8 x.Sets.1,.int .u8 x.Sets.2.1,.int .u8 x.Sets.2.2.1,.int .u8 x.Sets.2.2.2.1,.int .u8 x.Sets.2.2.2.2,.int .u8 x.Graphs.1.zF,.int .u8 x.Graphs.1.Marks,.int .u8 x.Graphs.1.To.1.1,.int .u8 x.Graphs.1.To.1.2.1,.int .u8 x.Graphs.1.To.1.2.2.1,.int .u8 x.Graphs.1.To.1.2.2.2.1,.int .u8 x.Graphs.1.To.1.2.2.2.2,.int .u8 x.Graphs.1.To.2.1.1,.int .u8 x.Graphs.1.To.2.1.2.1,.int .u8 x.Graphs.1.To.2.1.2.2.1,.int .u8 x.Graphs.1.To.2.1.2.2.2.1,.int .u8 x.Graphs.1.To.2.1.2.2.2.2,.int .u8 x.Graphs.1.To.2.2.1.1,.int .u8 x.Graphs.1.To.2.2.1.2.1,.int .u8 x.Graphs.1.To.2.2.1.2.2.1,.int .u8 x.Graphs.1.To.2.2.1.2.2.2.1,.int .u8 x.Graphs.1.To.2.2.1.2.2.2.2,.int .u8 x.Graphs.1.To.2.2.2.1.1,.int .u8 x.Graphs.1.To.2.2.2.1.2.1,.int .u8 x.Graphs.1.To.2.2.2.1.2.2.1,.int .u8 x.Graphs.1.To.2.2.2.1.2.2.2.1,.int .u8 x.Graphs.1.To.2.2.2.1.2.2.2.2,.int .u8 x.Graphs.1.To.2.2.2.2.1,.int .u8 x.Graphs.1.To.2.2.2.2.2.1,.int .u8 x.Graphs.1.To.2.2.2.2.2.2.1,.int .u8 x.Graphs.1.To.2.2.2.2.2.2.2.1,.int .u8 x.Graphs.1.To.2.2.2.2.2.2.2.2,.int .u8 x.Graphs.2.1.zF,.int .u8 x.Graphs.2.1.Marks,.int .u8 x.Graphs.2.1.To.1.1,.int .u8 x.Graphs.2.1.To.1.2.1,.int .u8 x.Graphs.2.1.To.1.2.2.1,.int .u8 x.Graphs.2.1.To.1.2.2.2.1,.int .u8 x.Graphs.2.1.To.1.2.2.2.2,.int .u8 x.Graphs.2.1.To.2.1.1,.int .u8 x.Graphs.2.1.To.2.1.2.1,.int .u8 x.Graphs.2.1.To.2.1.2.2.1,.int .u8 x.Graphs.2.1.To.2.1.2.2.2.1,.int .u8 x.Graphs.2.1.To.2.1.2.2.2.2,.int .u8 x.Graphs.2.1.To.2.2.1.1,.int .u8 x.Graphs.2.1.To.2.2.1.2.1,.int .u8 x.Graphs.2.1.To.2.2.1.2.2.1,.int .u8 x.Graphs.2.1.To.2.2.1.2.2.2.1,.int .u8 x.Graphs.2.1.To.2.2.1.2.2.2.2,.int .u8 x.Graphs.2.1.To.2.2.2.1.1,.int .u8 x.Graphs.2.1.To.2.2.2.1.2.1,.int .u8 x.Graphs.2.1.To.2.2.2.1.2.2.1,.int .u8 x.Graphs.2.1.To.2.2.2.1.2.2.2.1,.int .u8 x.Graphs.2.1.To.2.2.2.1.2.2.2.2,.int .u8 x.Graphs.2.1.To.2.2.2.2.1,.int .u8 x.Graphs.2.1.To.2.2.2.2.2.1,.int .u8 x.Graphs.2.1.To.2.2.2.2.2.2.1,.int .u8 x.Graphs.2.1.To.2.2.2.2.2.2.2.1,.int .u8 x.Graphs.2.1.To.2.2.2.2.2.2.2.2,.int .u8 x.Graphs.2.2.zF,.int .u8 x.Graphs.2.2.Marks,.int .u8 x.Graphs.2.2.To.1.1,.int .u8 x.Graphs.2.2.To.1.2.1,.int .u8 x.Graphs.2.2.To.1.2.2.1,.int .u8 x.Graphs.2.2.To.1.2.2.2.1,.int .u8 x.Graphs.2.2.To.1.2.2.2.2,.int .u8 x.Graphs.2.2.To.2.1.1,.int .u8 x.Graphs.2.2.To.2.1.2.1,.int .u8 x.Graphs.2.2.To.2.1.2.2.1,.int .u8 x.Graphs.2.2.To.2.1.2.2.2.1,.int .u8 x.Graphs.2.2.To.2.1.2.2.2.2,.int .u8 x.Graphs.2.2.To.2.2.1.1,.int .u8 x.Graphs.2.2.To.2.2.1.2.1,.int .u8 x.Graphs.2.2.To.2.2.1.2.2.1,.int .u8 x.Graphs.2.2.To.2.2.1.2.2.2.1,.int .u8 x.Graphs.2.2.To.2.2.1.2.2.2.2,.int .u8 x.Graphs.2.2.To.2.2.2.1.1,.int .u8 x.Graphs.2.2.To.2.2.2.1.2.1,.int .u8 x.Graphs.2.2.To.2.2.2.1.2.2.1,.int .u8 x.Graphs.2.2.To.2.2.2.1.2.2.2.1,.int .u8 x.Graphs.2.2.To.2.2.2.1.2.2.2.2,.int .u8 x.Graphs.2.2.To.2.2.2.2.1,.int .u8 x.Graphs.2.2.To.2.2.2.2.2.1,.int .u8 x.Graphs.2.2.To.2.2.2.2.2.2.1,.int .u8 x.Graphs.2.2.To.2.2.2.2.2.2.2.1,.int .u8 x.Graphs.2.2.To.2.2.2.2.2.2.2.2]
abbrev Qd5(x:Qby):List V:=[.d (.int .u8 x.Sets.1),.d (.int .u8 x.Sets.2.1),.d (.int .u8 x.Sets.2.2.1),.d (.int .u8 x.Sets.2.2.2.1),.d (.int .u8 x.Sets.2.2.2.2),.d (.int .u8 x.Graphs.1.zF),.d (.int .u8 x.Graphs.1.Marks),.d (.int .u8 x.Graphs.1.To.1.1),.d (.int .u8 x.Graphs.1.To.1.2.1),.d (.int .u8 x.Graphs.1.To.1.2.2.1),.d (.int .u8 x.Graphs.1.To.1.2.2.2.1),.d (.int .u8 x.Graphs.1.To.1.2.2.2.2),.d (.int .u8 x.Graphs.1.To.2.1.1),.d (.int .u8 x.Graphs.1.To.2.1.2.1),.d (.int .u8 x.Graphs.1.To.2.1.2.2.1),.d (.int .u8 x.Graphs.1.To.2.1.2.2.2.1),.d (.int .u8 x.Graphs.1.To.2.1.2.2.2.2),.d (.int .u8 x.Graphs.1.To.2.2.1.1),.d (.int .u8 x.Graphs.1.To.2.2.1.2.1),.d (.int .u8 x.Graphs.1.To.2.2.1.2.2.1),.d (.int .u8 x.Graphs.1.To.2.2.1.2.2.2.1),.d (.int .u8 x.Graphs.1.To.2.2.1.2.2.2.2),.d (.int .u8 x.Graphs.1.To.2.2.2.1.1),.d (.int .u8 x.Graphs.1.To.2.2.2.1.2.1),.d (.int .u8 x.Graphs.1.To.2.2.2.1.2.2.1),.d (.int .u8 x.Graphs.1.To.2.2.2.1.2.2.2.1),.d (.int .u8 x.Graphs.1.To.2.2.2.1.2.2.2.2),.d (.int .u8 x.Graphs.1.To.2.2.2.2.1),.d (.int .u8 x.Graphs.1.To.2.2.2.2.2.1),.d (.int .u8 x.Graphs.1.To.2.2.2.2.2.2.1),.d (.int .u8 x.Graphs.1.To.2.2.2.2.2.2.2.1),.d (.int .u8 x.Graphs.1.To.2.2.2.2.2.2.2.2),.d (.int .u8 x.Graphs.2.1.zF),.d (.int .u8 x.Graphs.2.1.Marks),.d (.int .u8 x.Graphs.2.1.To.1.1),.d (.int .u8 x.Graphs.2.1.To.1.2.1),.d (.int .u8 x.Graphs.2.1.To.1.2.2.1),.d (.int .u8 x.Graphs.2.1.To.1.2.2.2.1),.d (.int .u8 x.Graphs.2.1.To.1.2.2.2.2),.d (.int .u8 x.Graphs.2.1.To.2.1.1),.d (.int .u8 x.Graphs.2.1.To.2.1.2.1),.d (.int .u8 x.Graphs.2.1.To.2.1.2.2.1),.d (.int .u8 x.Graphs.2.1.To.2.1.2.2.2.1),.d (.int .u8 x.Graphs.2.1.To.2.1.2.2.2.2),.d (.int .u8 x.Graphs.2.1.To.2.2.1.1),.d (.int .u8 x.Graphs.2.1.To.2.2.1.2.1),.d (.int .u8 x.Graphs.2.1.To.2.2.1.2.2.1),.d (.int .u8 x.Graphs.2.1.To.2.2.1.2.2.2.1),.d (.int .u8 x.Graphs.2.1.To.2.2.1.2.2.2.2),.d (.int .u8 x.Graphs.2.1.To.2.2.2.1.1),.d (.int .u8 x.Graphs.2.1.To.2.2.2.1.2.1),.d (.int .u8 x.Graphs.2.1.To.2.2.2.1.2.2.1),.d (.int .u8 x.Graphs.2.1.To.2.2.2.1.2.2.2.1),.d (.int .u8 x.Graphs.2.1.To.2.2.2.1.2.2.2.2),.d (.int .u8 x.Graphs.2.1.To.2.2.2.2.1),.d (.int .u8 x.Graphs.2.1.To.2.2.2.2.2.1),.d (.int .u8 x.Graphs.2.1.To.2.2.2.2.2.2.1),.d (.int .u8 x.Graphs.2.1.To.2.2.2.2.2.2.2.1),.d (.int .u8 x.Graphs.2.1.To.2.2.2.2.2.2.2.2),.d (.int .u8 x.Graphs.2.2.zF),.d (.int .u8 x.Graphs.2.2.Marks),.d (.int .u8 x.Graphs.2.2.To.1.1),.d (.int .u8 x.Graphs.2.2.To.1.2.1),.d (.int .u8 x.Graphs.2.2.To.1.2.2.1),.d (.int .u8 x.Graphs.2.2.To.1.2.2.2.1),.d (.int .u8 x.Graphs.2.2.To.1.2.2.2.2),.d (.int .u8 x.Graphs.2.2.To.2.1.1),.d (.int .u8 x.Graphs.2.2.To.2.1.2.1),.d (.int .u8 x.Graphs.2.2.To.2.1.2.2.1),.d (.int .u8 x.Graphs.2.2.To.2.1.2.2.2.1),.d (.int .u8 x.Graphs.2.2.To.2.1.2.2.2.2),.d (.int .u8 x.Graphs.2.2.To.2.2.1.1),.d (.int .u8 x.Graphs.2.2.To.2.2.1.2.1),.d (.int .u8 x.Graphs.2.2.To.2.2.1.2.2.1),.d (.int .u8 x.Graphs.2.2.To.2.2.1.2.2.2.1),.d (.int .u8 x.Graphs.2.2.To.2.2.1.2.2.2.2),.d (.int .u8 x.Graphs.2.2.To.2.2.2.1.1),.d (.int .u8 x.Graphs.2.2.To.2.2.2.1.2.1),.d (.int .u8 x.Graphs.2.2.To.2.2.2.1.2.2.1),.d (.int .u8 x.Graphs.2.2.To.2.2.2.1.2.2.2.1),.d (.int .u8 x.Graphs.2.2.To.2.2.2.1.2.2.2.2),.d (.int .u8 x.Graphs.2.2.To.2.2.2.2.1),.d (.int .u8 x.Graphs.2.2.To.2.2.2.2.2.1),.d (.int .u8 x.Graphs.2.2.To.2.2.2.2.2.2.1),.d (.int .u8 x.Graphs.2.2.To.2.2.2.2.2.2.2.1),.d (.int .u8 x.Graphs.2.2.To.2.2.2.2.2.2.2.2)]
abbrev Qoj(x:Qby):V:=.agg (Qd5 x)
structure Qp where
  word_:List Int
  state_:Int
  deriving DecidableEq
def Qtm(x:Qp):List D:=[.lst 1 (List.map (eI .i64) x.word_),.int .i64 x.state_]
abbrev Qtn(x:Qp):List V:=[(l_ x.word_),(i_ x.state_)]
abbrev Qbgk(x:Qp):V:=.agg (Qtn x)
abbrev Qnr(x:List Qp):V:=.d (.lst 2 (List.map Qtm x))
abbrev Qig(x:List Qp):V:=.own 2 (List.map Qtm x)
abbrev mq0(p:List ((Int×Int)×(Int))):D:=mpD (fun(x:Int×Int)=>(.agg [(i_ x.1),(i_ x.2)]:V)) (fun(x:Int)=>((i_ x):V)) p
end Go.Abs
end
