/-
  Part 2 of the proof: see the last text.
-/
import Derived.Test.YthlopjpofmcdmaaP1
import Derived.MapKept
import Derived.Orders
set_option linter.unusedVariables false
set_option linter.unusedSimpArgs false
set_option linter.unusedSectionVars false
section
namespace Go.Abs
open Go
section
variable (P:Program) {g:G} {w:World} {n0 nt:Nat} {g0:G} {w0:World} {σ:St} {a:Act}
theorem Qbgm {ty:TypeId} {v:Value} {x:V} (h:Qbiz P ty v=some x):RF g w x v∧∀ p,x.on p:=by
 unfold Qbiz at h;split at h<;>try (cases h;done)
 ·cases h;exact ⟨by rw [RF_d];simp [RD],fun _=>trivial⟩
 ·cases h;exact ⟨by rw [RF_d];simp [RD],fun _=>trivial⟩
 ·cases h;exact ⟨by rw [RF_d];simp [RD],fun _=>trivial⟩
 ·cases h;exact ⟨fun ℓ=>by simp [RV],fun _=>trivial⟩
 ·cases h;exact ⟨fun ℓ=>by simp [RV],fun _=>trivial⟩
 ·cases h;exact ⟨fun ℓ=>by simp [RV],fun _=>trivial⟩
 ·cases h;exact ⟨fun ℓ=>by simp [RV],fun _=>trivial⟩
 ·split at h<;>cases h;exact ⟨fun ℓ=>by simp [RV],fun _=>trivial⟩
theorem Q8v (h:SR n0 nt g0 w0 σ a w g) {ty:TypeId} {x:Operand} {ar:Arg} (hc:Qe7 P ty x=some ar) :
  (∃ t,x = .tmp t∧ar = .t t∧RV g w (σ.s t) (.slot t []) (a.eval x)∧(σ.s t).on (There σ.M))∨(Qbdt x=false∧(∃ c,ar = .c c∧RF g w c (a.eval x)∧c.on (There σ.M))):=by
 cases x<;>simp only [Qe7] at hc
 case tmp t=>cases hc;exact .inl ⟨t,rfl,rfl,h.slots t,h.onS t⟩
 case const v =>
  simp only [Option.map_eq_some_iff] at hc;obtain ⟨c,hc,rfl⟩:=hc;obtain ⟨h1,h2⟩:=Qbgm P hc;exact .inr ⟨rfl,c,rfl,h1,h2 _⟩
 case global=>cases hc
 case func f =>
  cases hc;exact .inr ⟨rfl,_,rfl,fun ℓ=>by simp [RV,RVs,Act.eval],by simp [V.on,V.ons]⟩
theorem Qg6 (h:SR n0 nt g0 w0 σ a w g) {ty:TypeId} {x:Operand} {ar:Arg} (hc:Qe7 P ty x=some ar) :
  RF g w (ar.val σ.s).dem (a.eval x)∧(ar.val σ.s).on (There σ.M):=by
 rcases Q8v P h hc with ⟨t,rfl,rfl,h1,h2⟩|⟨_,c,rfl,h1,h2⟩
 ·exact ⟨Q2m h1,h2⟩
 ·exact ⟨Q2m (h1 .free),h2⟩
theorem Qd5 (h:SR n0 nt g0 w0 σ a w g) (ctx:Nat→TypeId):∀ (i:Nat) (xs:List Operand) (as:List Arg),Qes P ctx i xs=some as →
  RFs g w (V.dems (as.map (·.val σ.s))) (xs.map a.eval)∧V.ons (There σ.M) (V.dems (as.map (·.val σ.s)))
 | i,[],as,hc=>by simp [Qes] at hc;subst hc;exact ⟨rfl,trivial⟩
 | i,x::xs,as,hc=>by
  simp only [Qes] at hc;split at hc<;>cases hc;rename_i ar as' har has;obtain ⟨h1,h2⟩:=Qg6 P h har;obtain ⟨h3,h4⟩:=Qd5 h ctx (i+1) xs as' has;exact ⟨⟨_,_,rfl,h1,h3⟩,(Qdw _).2 h2,h4⟩
theorem Qhq {xs:List V}:∀ x∈V.dems xs,Flat x:=by
 intro x hx;obtain ⟨j,hj,rfl⟩:=List.getElem_of_mem hx;obtain ⟨c,_,h⟩:=Qbbu (List.getElem?_eq_getElem hj);rw [h];exact Qd8 c
def Gives (P:Program) (n0 nt:Nat) (g0:G) (w0:World) (o:Oper) (a:Act) (w:World) (σ' : St):Prop :=
 (∃ val w' g',(execOp a.eval o).run P w = .ok (.value val) w'∧SR n0 nt g0 w0 σ' (a.put o.dst val) w' g') ∨
 (∃ w' g',(execOp a.eval o).run P w = .ok .skip w'∧SR n0 nt g0 w0 σ' (a.put o.dst undef) w' g')
theorem Gives.wp {o:Oper} {σ' : St} {Q:Exit→Act→World→Prop} (h:Gives P n0 nt g0 w0 o a w σ') {K:Act→World→Prop} (hK:∀ a' w' g',SR n0 nt g0 w0 σ' a' w' g'→K a' w'):o.wp P a w K Q:=by
 unfold Oper.wp;rcases h with ⟨val,w',g',hr,hs⟩|⟨w',g',hr,hs⟩
 ·rw [hr];exact hK _ _ g' hs
 ·rw [hr];exact hK _ _ g' hs
theorem Qbgn {T:Tk} {o:Oper} {k:K} {as:List Arg} {tk:Bool} (hc:Qlj P T o=some (k,as,tk)):k.okz:=by
 have hz:∀ {t z},Q02 P t=some z→∀ p,V.ons p z:=fun h p=>by
  obtain ⟨_,_,_,_,_,hlt⟩:=Qlk P h;exact ons_mono (by simp) _ (ons_lt (n:=0) _ (hlt 0))
 unfold Qlj Qbab at hc
 repeat' split at hc
 all_goals first
  | (cases hc;done)
  | (simp only [Option.map_eq_some_iff,Option.bind_eq_some_iff,Option.some.injEq,Prod.mk.injEq] at hc;grind [K.okz])
theorem Q65 {n0 κ:Nat} {z:List V} {pl:List (Nat×Nat)} {xs:List V} {M:Mem}:Qn n0 κ (.build z pl) xs M=(if pl.length=(own1 xs).length&&(pl.zip (own1 xs)).all (fun (p,x)=>Qfm x&&x.cells.length==p.2&&decide (p.1+p.2≤z.length))
  then some (V.agg (Qjl z ((pl.zip (own1 xs)).map fun (p,x)=>(p.1,x.cells))),M) else none):=by cases xs<;>rfl
theorem Qbgo (p:Nat) (o m:V):∀ (ps ps' : List (Nat×List V)) (z z' : List V),z.length=z'.length→(∀ (i:Nat) (c c' : V),z[i]? = some c→z'[i]? = some c'→c=c' ∨ (i=p∧c=o∧c'=m))→ps.length=ps'.length →
  (∀ (j:Nat) (q q' : Nat×List V),ps[j]? = some q→ps'[j]? = some q'→q.1=q'.1∧q.2.length=q'.2.length∧q.1+q.2.length≤z.length∧∀ (i:Nat) (c c' : V),q.2[i]? = some c→q'.2[i]? = some c'→c=c' ∨ (q.1+i=p∧c=o∧c'=m)) →
  (Qjl z ps).length=(Qjl z' ps').length∧∀ (i:Nat) (c c' : V),(Qjl z ps)[i]? = some c→(Qjl z' ps')[i]? = some c'→c=c' ∨ (i=p∧c=o∧c'=m)
 | [],[],z,z',hl,hz,_,_=>⟨hl,hz⟩
 | [],_::_,_,_,_,_,h,_=>by simp at h
 | _::_,[],_,_,_,_,h,_=>by simp at h
 | (off,vs)::ps,(off',vs')::ps',z,z',hl,hz,hp,hq=>by
  obtain ⟨h1,h2,h3,h4⟩:=hq 0 _ _ rfl rfl;simp only at h1 h2 h3 h4;subst h1;simp only [Qjl];refine Qbgo p o m ps ps' _ _ (by simp [hl,h2]) (fun i c c' hc hc'=>?_) (by simpa using hp) fun j q q' hj hj'=>?_
  ·rw [Qtf z vs off _ rfl h3] at hc;rw [Qtf z' vs' off _ rfl (by omega)] at hc';split at hc
   ·rename_i hlt;rw [if_pos hlt] at hc';exact hz i c c' hc hc'
   ·rename_i hge;rw [if_neg hge] at hc';split at hc
    ·rename_i hlt;rw [if_pos (by omega)] at hc';have:=h4 (i-off) c c' hc hc'
     rwa [show off+(i-off)=i from by omega] at this
    ·rename_i hge2;rw [if_neg (by omega)] at hc';exact hz i c c' hc hc'
  ·obtain ⟨k1,k2,k3,k4⟩:=hq (j+1) q q' (by simpa using hj) (by simpa using hj');exact ⟨k1,k2,by simp;omega,k4⟩
theorem Qvg:∀ (as:List Arg) (s s0:Sl) (t:Nat),(Arg.t t∈as∧Q7 s as (V.dems (as.map (·.val s0))) t=(s0 t).dem)∨(Arg.t t∉as∧Q7 s as (V.dems (as.map (·.val s0))) t=s t)
 | [],s,s0,t=>.inr ⟨by simp,by simp [V.dems,Q7]⟩
 | a::as,s,s0,t=>by
  simp only [List.map_cons,V.dems,Q7];rcases Qvg as (a.putTo s (a.val s0).dem) s0 t with ⟨h1,h2⟩|⟨h1,h2⟩
  ·exact .inl ⟨List.mem_cons_of_mem _ h1,h2⟩
  ·rw [h2];cases a with
   | c v=>exact .inr ⟨by simpa using h1,rfl⟩
   | t i =>
    by_cases e:t=i
    ·subst e;exact .inl ⟨by simp,by simp [Arg.putTo,Sl.put,Arg.val]⟩
    ·exact .inr ⟨by simp [h1,e],by simp [Arg.putTo,Sl.put,e]⟩
theorem Qblu (ctx:Nat→TypeId):∀ (i:Nat) (xs:List Operand) (as:List Arg),Qes P ctx i xs=some as→∀ (j:Nat) (ar:Arg),as[j]? = some ar→∃ x ty,xs[j]? = some x∧Qe7 P ty x=some ar
 | i,[],as,hc,j,ar,h=>by simp [Qes] at hc;subst hc;simp at h
 | i,x::xs,as,hc,j,ar,h=>by
  simp only [Qes] at hc;split at hc<;>cases hc;rename_i ar' as' har has;cases j with
  | zero=>simp at h;subst h;exact ⟨x,_,rfl,har⟩
  | succ j=>simpa using Qblu ctx (i+1) xs as' has j ar (by simpa using h)
theorem Qbjb:∀ l:List V,(V.dems l).length=l.length
 | []=>rfl
 | x::l=>by simp [V.dems,Qbjb l]
theorem Qbia (h:SR n0 nt g0 w0 σ a w g) (as:List Arg):(∀ t,RV g w (Q7 σ.s as (V.dems (as.map (·.val σ.s))) t) (.slot t []) (a.tmps.getD t undef))∧∀ t,(Q7 σ.s as (V.dems (as.map (·.val σ.s))) t).on (There σ.M):=by
 refine ⟨fun t=>?_,fun t=>?_⟩
 ·rcases Qvg as σ.s σ.s t with ⟨_,e⟩|⟨_,e⟩
  ·rw [e];exact Qh8 _ _ _ _ (h.slots t)
  ·rw [e];exact h.slots t
 ·rcases Qvg as σ.s σ.s t with ⟨_,e⟩|⟨_,e⟩
  ·rw [e];exact (Qdw _).2 (h.onS t)
  ·rw [e];exact h.onS t
theorem Qblv (h:SR n0 nt g0 w0 σ a w g) {d:Nat} (hd:d<nt) {ctx:Nat→TypeId} {i0:Nat} {ops:List Operand} {as:List Arg} (has:Qes P ctx i0 ops=some as) {z:List V} {pl:List (Nat×Nat)} (hzz:(K.build z pl).okz) {R:Sem Value} {v:V} {κ:Nat} {M' : Mem}
  (hB:∀ (g' : G) (xs' : List V) (v' : V) (M'' : Mem),(∀ x∈xs',Flat x)→RFs g' w xs' (ops.map a.eval)→Qn n0 κ (.build z pl) xs' σ.M=some (v',M'')→∃ val,R.run P w = .ok val w∧RF g' w v' val)
  (hs:Qn n0 κ (.build z pl) (as.map (·.val σ.s)) σ.M=some (v,M')) :
  M'=σ.M∧∃ val g',R.run P w = .ok val w∧SR n0 nt g0 w0 ⟨Qbf (Q7 σ.s as (V.dems (as.map (·.val σ.s)))) (some d) v,σ.M,σ.nb⟩ (a.put (some d) val) w g':=by
 obtain ⟨hrfs,hons⟩:=Qd5 P h ctx i0 ops as has;obtain ⟨hps,hpo⟩:=Qbia h as;have hraw:V.ons (There σ.M) (as.map (·.val σ.s)):=by
  have:∀ l:List V,V.ons (There σ.M) (V.dems l)→V.ons (There σ.M) l:=fun l hl=>(ons_dems l).1 hl;exact this _ hons
 have hvon:=(Qbfi hzz hs hraw h.mOn).1;generalize hxs:as.map (·.val σ.s)=xs at *
 rw [Q65] at hs;split at hs<;>cases hs;rename_i hc;refine ⟨rfl,?_⟩;simp only [Bool.and_eq_true,decide_eq_true_eq,List.all_eq_true] at hc;obtain ⟨hcl,hca⟩:=hc;rcases Qbb6 xs with e|⟨j0,sz,l,e1,e2⟩
 ·have hst:Qn n0 κ (.build z pl) (V.dems xs) σ.M=some (.agg (Qjl z ((pl.zip (own1 xs)).map fun (p,x)=>(p.1,x.cells))),σ.M):=by
   rw [Q65,Q8n,if_pos (by simp only [Bool.and_eq_true,decide_eq_true_eq,List.all_eq_true];rw [← e];exact ⟨hcl,hca⟩),e]
  obtain ⟨val,hr,hrf⟩:=hB g _ _ _ Qhq hrfs hst;exact ⟨val,g,hr,h.step h.mem (Fr.refl _ _ _) (Qfe (fun d' hd'=>by cases hd';rw [h.size];exact hd) (fun t _=>hps t) (fun _ _=>hrf _)) (Qgh _ _ _) (Qd3 _ _ _) (Qff hpo hvon) h.mOn h.out⟩
 have hjx:j0<xs.length:=(List.getElem?_eq_some_iff.1 e1).1;have hjo:j0<(own1 xs).length:=by rw [e2,List.length_set,Qbjb];exact hjx
 have hjp:j0<pl.length:=by omega
 obtain ⟨ar,har,hav⟩ : ∃ ar,as[j0]? = some ar∧ar.val σ.s = .own sz l:=by
  rw [← hxs,List.getElem?_map,Option.map_eq_some_iff] at e1;exact e1
 obtain ⟨x0,ty,hx0,hca0⟩:=Qblu P ctx i0 ops as has j0 ar har;have hu0:(ops.map a.eval)[j0]? = some (a.eval x0):=by rw [List.getElem?_map,hx0];rfl
 generalize hu:a.eval x0=u0 at hu0;have hfacts:((∃ ad,u0 = .slice ad 0 0)∧l=[])∨∃ t0 b cap,Arg.t t0∈as∧RV g w (.own sz l) (.slot t0 []) u0∧u0 = .slice (some ⟨b,0,none⟩) l.length cap:=by
  have key:∀ ℓ,RV g w (.own sz l) ℓ u0→((∃ ad,u0 = .slice ad 0 0)∧l=[])∨∃ b cap,u0 = .slice (some ⟨b,0,none⟩) l.length cap∧g.own b=ℓ:=by
   intro ℓ hv;simp only [RV] at hv;rcases hv with hv|⟨b,cap,vals,e,rfl,hb,_⟩
   ·exact .inl hv
   ·exact .inr ⟨b,cap,rfl,hb⟩
  rcases Q8v P h hca0 with ⟨t0,rfl,rfl,h1,_⟩|⟨_,c,rfl,h1,_⟩
  ·simp only [Arg.val] at hav;rw [hav,hu] at h1;rcases key _ h1 with hn|⟨b,cap,k1,_⟩
   ·exact .inl hn
   ·exact .inr ⟨t0,b,cap,List.mem_of_getElem? har,h1,k1⟩
  ·simp only [Arg.val] at hav;subst hav;rw [hu] at h1;rcases key _ (h1 .free) with hn|⟨b,cap,k1,k2⟩
   ·exact .inl hn
   ·rcases key _ (h1 .ext) with hn|⟨b',cap',k1',k2'⟩
    ·exact .inl hn
    ·rw [k1] at k1';simp only [Value.slice.injEq,Option.some.injEq,Addr.mk.injEq] at k1';rw [← k1'.1.1,k2] at k2';cases k2'
 have core:∀ (m:V) (g' : G),Flat m→Qfm m=true→m.cells=[m]→RF g' w m u0→(∀ (x:V) (u:Value),x.on (There σ.M)→Flat x→RF g w x u→RF g' w x u) →
   ∃ (val:Value) (us' : List Value),R.run P w = .ok val w∧val = .agg us'.toArray∧(∀ u∈us',u.oneCell'=true)∧us'.length=(Qjl z ((pl.zip (own1 xs)).map fun (p,x)=>(p.1,x.cells))).length ∧
    ∀ (i:Nat) (c:V) (u:Value),(Qjl z ((pl.zip (own1 xs)).map fun (p,x)=>(p.1,x.cells)))[i]? = some c→us'[i]? = some u→(∀ ℓ,RV g' w c (Owner.sub ℓ i) u)∨(i=pl[j0].1∧c = .own sz l∧RV g' w m (Owner.sub .free i) u):=by
  intro m g' hmf hmo hmc hmu hmono;have hrfs' : RFs g' w ((V.dems xs).set j0 m) (ops.map a.eval):=by
   have hl:=Qg3 hrfs;have:∀ (ys:List V) (us:List Value),us.length=ys.length→(∀ (j:Nat) (y:V) (u:Value),ys[j]? = some y→us[j]? = some u→RF g' w y u)→RFs g' w ys us:=by
    intro ys
    induction ys with
    | nil=>intro us hl _;exact List.eq_nil_of_length_eq_zero (by simpa using hl)
    | cons y ys ih =>
     intro us hl hh;cases us with
     | nil=>simp at hl
     | cons u us=>exact ⟨u,us,rfl,hh 0 y u rfl rfl,ih us (by simpa using hl) fun j y' u' hy hu=>hh (j+1) y' u' (by simpa using hy) (by simpa using hu)⟩
   refine this _ _ (by simpa using hl) fun j y u hy huj=>?_;rw [List.getElem?_set] at hy;split at hy
   ·rename_i he;subst he;rw [hu0] at huj;cases huj;split at hy<;>cases hy;exact hmu
   ·exact hmono y u (Qe9 hons hy) (Qhq y (List.mem_of_getElem? hy)) (Qvn hrfs j y u hy huj)
  have hfl' : ∀ x∈(V.dems xs).set j0 m,Flat x:=fun x hx=>by
   rcases List.mem_or_eq_of_mem_set hx with hx|rfl
   ·exact Qhq x hx
   ·exact hmf
  have ho' : own1 ((V.dems xs).set j0 m)=(V.dems xs).set j0 m:=Qbb5 hfl';have hown:∀ (j:Nat) (x x' : V),(own1 xs)[j]? = some x→((V.dems xs).set j0 m)[j]? = some x'→x=x' ∨ (j=j0∧x = .own sz l∧x'=m):=by
   intro j x x' hx hx';rw [e2,List.getElem?_set] at hx;rw [List.getElem?_set] at hx';split at hx
   ·rename_i he;subst he;split at hx<;>cases hx;rename_i hlt;rw [if_pos rfl,if_pos hlt] at hx';cases hx';exact .inr ⟨rfl,rfl,rfl⟩
   ·rename_i hne;rw [if_neg hne] at hx';rw [hx] at hx';cases hx';exact .inl rfl
  have hst:Qn n0 κ (.build z pl) ((V.dems xs).set j0 m) σ.M=some (.agg (Qjl z ((pl.zip ((V.dems xs).set j0 m)).map fun (p,x)=>(p.1,x.cells))),σ.M):=by
   rw [Q65,ho',if_pos];simp only [Bool.and_eq_true,decide_eq_true_eq,List.all_eq_true];refine ⟨by rw [hcl,e2];simp,fun q hq=>?_⟩;obtain ⟨j,hj⟩:=List.getElem?_of_mem hq;obtain ⟨q1,q2⟩:=q;rw [List.getElem?_zip_eq_some] at hj;simp only at hj;have hjl:j<(own1 xs).length:=by
    have:=(List.getElem?_eq_some_iff.1 hj.2).1;rw [e2];simpa using this
   have hox:(own1 xs)[j]? = some (own1 xs)[j]:=List.getElem?_eq_getElem hjl;have hq':=hca (q1,(own1 xs)[j]) (List.mem_of_getElem? (i:=j) (by rw [List.getElem?_zip_eq_some];exact ⟨hj.1,hox⟩));simp only [Bool.and_eq_true,beq_iff_eq,decide_eq_true_eq] at hq' ⊢;rcases hown j _ _ hox hj.2 with he|⟨_,he,he2⟩
   ·rw [← he];exact hq'
   ·rw [he] at hq';subst he2;refine ⟨⟨hmo,?_⟩,hq'.2⟩;rw [hmc];exact hq'.1.2
  obtain ⟨val,hr,hrf⟩:=hB g' _ _ _ hfl' hrfs' hst;have hrf0:=hrf .free;simp only [RV] at hrf0;obtain ⟨us',hval,hrs,hone⟩:=hrf0;have hrel:=Qbgo pl[j0].1 (.own sz l) m ((pl.zip (own1 xs)).map fun (p,x)=>(p.1,x.cells)) ((pl.zip ((V.dems xs).set j0 m)).map fun (p,x)=>(p.1,x.cells)) z z rfl (fun i c c' hc hc'=>by rw [hc] at hc';cases hc';exact .inl rfl) (by rw [e2];simp) (fun j q q' hq hq'=>by
   rw [List.getElem?_map,Option.map_eq_some_iff] at hq hq';obtain ⟨⟨p1,x1⟩,hq,rfl⟩:=hq;obtain ⟨⟨p2,x2⟩,hq',rfl⟩:=hq';have hmem:=List.mem_of_getElem? hq;rw [List.getElem?_zip_eq_some] at hq hq';simp only at hq hq';obtain ⟨hq1,hq2⟩:=hq;obtain ⟨hq1',hq2'⟩:=hq';rw [hq1] at hq1';cases hq1';have hok:=hca (p1,x1) hmem;simp only [Bool.and_eq_true,beq_iff_eq,decide_eq_true_eq] at hok;have hlen:x1.cells.length=p1.2:=hok.1.2;rcases hown j _ _ hq2 hq2' with rfl|⟨rfl,rfl,rfl⟩
   ·exact ⟨rfl,rfl,by simp only;omega,fun i c c' hc hc'=>by rw [hc] at hc';cases hc';exact .inl rfl⟩
   ·refine ⟨rfl,by show (V.own sz l).cells.length=x2.cells.length;rw [hmc];rfl,by simp only;omega,fun i c c' hc hc'=>.inr ?_⟩;have hc:(V.own sz l).cells[i]? = some c:=hc;have hc' : x2.cells[i]? = some c':=hc';rw [hmc] at hc';simp only [V.cells] at hc;cases i with
    | zero =>
     simp at hc hc';have hp1:pl[j]? = some p1:=hq1;have hp2:=(List.getElem?_eq_some_iff.1 hp1).2;subst hc hc';exact ⟨by simp [hp2],rfl,rfl⟩
    | succ i=>simp at hc)
  refine ⟨val,us',hr,hval,hone,by rw [Qtd hrs];exact hrel.1.symm,fun i c u hc hui=>?_⟩;have hlt:i<(Qjl z ((pl.zip ((V.dems xs).set j0 m)).map fun (p,x)=>(p.1,x.cells))).length:=by
   rw [← hrel.1];exact (List.getElem?_eq_some_iff.1 hc).1
  have hc':=List.getElem?_eq_getElem hlt;have hru:∀ ℓ,RV g' w (Qjl z ((pl.zip ((V.dems xs).set j0 m)).map fun (p,x)=>(p.1,x.cells)))[i] (Owner.sub ℓ i) u:=by
   intro ℓ;have hv:=hrf ℓ;simp only [RV] at hv;obtain ⟨us2,hval2,hrs2,_⟩:=hv;rw [hval] at hval2;have:us'=us2:=by
    have:=congrArg (fun v=>match v with|Value.agg x=>x.toList|_=>[]) hval2;simpa using this
   subst this;have:=((Qc6 _ _ _ _).1 hrs2).2 i _ u hc' hui;simpa using this
  rcases hrel.2 i c _ hc hc' with rfl|⟨rfl,rfl,he⟩
  ·exact .inl hru
  ·exact .inr ⟨rfl,rfl,by rw [← he];exact hru .free⟩
 have hgen:∀ {g' g2:G} {c:V} {i:Nat} {u:Value} (keepOwn:∀ b,(∃ q,g'.own b = .slot d (q++[i]))∨g'.own b = .ext→g2.own b=g'.own b) (himm:g2.imm=g'.imm) (hbox:∀ k,There σ.M k→g2.box k=g'.box k),c.on (There σ.M)→RV g' w c (.slot d [i]) u→RV g2 w c (.slot d [i]) u:=by
  intro g' g2 c i u hko himm hbox hon hv;have hk:Kept g' w g2 w (There σ.M) (fun o=>(∃ q,o = .slot d (q++[i]))∨o = .ext) :=
   ⟨⟨fun b o hb=>by rw [himm];exact hb,fun _ _ _=>rfl⟩,hbox,fun b hb _=>⟨hko b hb,rfl,fun o=>by rw [himm]⟩⟩
  refine Qe8 hk ?_ (.inr rfl) c _ u (.inl ⟨[],rfl⟩) hon hv;rintro ℓ i' (⟨q,rfl⟩|rfl)
  ·exact .inl ⟨i'::q,rfl⟩
  ·exact .inr rfl
 have honv:V.ons (There σ.M) (Qjl z ((pl.zip (own1 xs)).map fun (p,x)=>(p.1,x.cells))):=hvon;rcases hfacts with ⟨⟨ad,rfl⟩,rfl⟩|⟨t0,b,cap,hmem,hv0,rfl⟩
 ·obtain ⟨val,us',hr,rfl,hone,hlen,hcells⟩:=core (.nils sz) g rfl rfl rfl (fun ℓ=>by simp [RV]) fun x u _ _ h=>h;refine ⟨_,g,hr,h.step h.mem (Fr.refl _ _ _) (Qfe (fun d' hd'=>by cases hd';rw [h.size];exact hd) (fun t _=>hps t) (fun d' hd'=>?_)) (Qgh _ _ _) (Qd3 _ _ _) (Qff hpo hvon) h.mOn h.out⟩;cases hd';simp only [RV];refine ⟨us',rfl,(Qc6 _ _ _ _).2 ⟨hlen,fun i c u hc hu=>?_⟩,hone⟩;rcases hcells i c u hc hu with hq|⟨_,rfl,hq⟩
  ·simpa [Owner.sub] using hq (.slot d [])
  ·simp only [RV] at hq ⊢;exact .inl ⟨hq,by first|rfl|trivial⟩
 ·let g' : G:={ g with box:=fun k=>if k=σ.nb then b else g.box k };have hnb:∀ k,There σ.M k→k≠σ.nb:=by
   intro k hk e;obtain ⟨bx,hbx⟩:=Option.isSome_iff_exists.1 hk;have:=(h.mem.box k bx hbx).1;omega
  have hg' : Kept g w g' w (There σ.M) (fun _=>True):=⟨⟨fun _ _ h=>h,fun _ _ _=>rfl⟩,fun k hk=>by simp [g',hnb k hk],fun b _ _=>⟨rfl,rfl,fun _=>Iff.rfl⟩⟩;obtain ⟨val,us',hr,rfl,hone,hlen,hcells⟩:=core (.sl sz σ.nb 0 l.length cap) g' rfl rfl rfl (fun ℓ=>by simp [RV,g']) fun x u hon _ hx ℓ=>Qe8 hg' (fun _ _ _=>trivial) trivial x ℓ u trivial hon (hx ℓ);have hkx:=Kept.ex g w (.slot t0 []) (.slot d [pl[j0].1]) (There σ.M);refine ⟨_,g.re (ex (.slot t0 []) (.slot d [pl[j0].1])),hr,h.step (h.mem.ex_slot h.mOn t0 [] _ (by simp)) ?_ (Qfe (fun d' hd'=>by cases hd';rw [h.size];exact hd) (fun t ht=>?_) (fun d' hd'=>?_)) (Qgh _ _ _) (Qd3 _ _ _) (Qff hpo hvon) h.mOn h.out⟩
  ·exact ⟨rfl,rfl,rfl,Nat.le_refl _,Imm.refl _ _,fun _ _=>rfl,fun b hb ho=>⟨by simp only [G.re,ex];rw [if_neg (by intro e;rw [e] at ho;exact ho)],rfl,fun _=>Iff.rfl⟩⟩
  ·by_cases e:t=t0
   ·subst e;rcases Qvg as σ.s σ.s t with ⟨_,e⟩|⟨hn,_⟩
    ·rw [hxs] at e;rw [e];exact Qkt (hkx.weaken (fun _ h=>h) (by rintro o rfl;simp)) (Qd8 _) ((Qdw _).2 (h.onS t)) (Qh8 _ _ (.slot t []) _ (h.slots t))
    ·exact absurd hmem hn
   ·have hk:Kept g w (g.re (ex (.slot t0 []) (.slot d [pl[j0].1]))) w (There σ.M) (fun o=>(∃ q,o = .slot t q)∨o = .ext):=by
     refine hkx.weaken (fun _ h=>h) ?_;rintro o (⟨q,rfl⟩|rfl)
     ·intro e';injection e' with e' _;exact e e'
     ·simp
    refine Qe8 hk ?_ (.inr rfl) _ _ _ (.inl ⟨[],rfl⟩) (hpo t) (hps t);rintro ℓ i' (⟨q,rfl⟩|rfl)
    ·exact .inl ⟨i'::q,rfl⟩
    ·exact .inr rfl
  ·cases hd';simp only [RV];refine ⟨us',rfl,(Qc6 _ _ _ _).2 ⟨hlen,fun i c u hc hu=>?_⟩,hone⟩;simp only [Nat.zero_add,Owner.sub];rcases hcells i c u hc hu with hq|⟨hi,rfl,hq⟩
   ·refine hgen (g':=g') (fun b hb=>?_) rfl (fun k hk=>by simp [g',hnb k hk,G.re]) (Qe9 honv hc) (by simpa [Owner.sub] using hq (.slot d []));simp only [G.re,ex,g'];rw [if_neg];rcases hb with ⟨q,hb⟩|hb
    ·simp only [g'] at hb;rw [hb];simp
    ·simp only [g'] at hb;rw [hb];simp
   ·simp only [RV,g',if_true] at hq;subst hi;rw [hq];exact Qbba hv0
end
end Go.Abs
end
section
namespace Go.Abs
open Go Go.MapKept
section
variable (P:Program) {g:G} {w:World} {n0 nt:Nat} {g0:G} {w0:World} {σ:St} {a:Act}
theorem Q4t {c:CK} {v:V} {u:Value} (hv:c.ok v=true) (hr:RF g w v u):(∃ n,∃ k,c = .int k∧v = .d (.int k n)∧u = .int k n)∨(∃ s,c = .str∧v = .d (.str s)∧u = .string s)∨(∃ b,c = .bool∧v = .d (.bool b)∧u = .bool b):=by
 cases v with
 | d x =>
  cases x<;>cases c<;>simp [CK.ok] at hv
  ·subst hv;exact .inl ⟨_,_,rfl,rfl,Qtm hr⟩
  ·exact .inr (.inr ⟨_,rfl,rfl,Qbcb hr⟩)
  ·exact .inr (.inl ⟨_,rfl,rfl,Qbkc hr⟩)
 | _=>cases c<;>simp [CK.ok] at hv
theorem Q8w {c:CK} {v v' : V} {u u' : Value} (h1:c.ok v=true) (h2:c.ok v'=true) (r1:RF g w v u) (r2:RF g w v' u'):Qo2 v v'=true↔u=u':=by
 rcases Q4t h1 r1 with ⟨n,k,rfl,rfl,rfl⟩|⟨s,rfl,rfl,rfl⟩|⟨b,rfl,rfl,rfl⟩<;>rcases Q4t h2 r2 with ⟨n',k',e,rfl,rfl⟩|⟨s',e,rfl,rfl⟩|⟨b',e,rfl,rfl⟩<;>cases e<;>simp [Qo2,bytes_beq]
theorem Qbib:∀ {ks:List CK} {cs:List V},okCs ks cs=true→cs.length=ks.length
 | [],[],_=>rfl
 | k::ks,c::cs,h=>by simp only [okCs,Bool.and_eq_true] at h;simp [Qbib h.2]
 | [],_::_,h=>by simp [okCs] at h
 | _::_,[],h=>by simp [okCs] at h
theorem Qbd8:∀ {ks:List CK} {cs cs' : List V} {us us' : List Value},okCs ks cs=true→okCs ks cs'=true→RFs g w cs us→RFs g w cs' us'→(Q2h cs cs'=true↔us=us')
 | [],[],[],us,us',_,_,r1,r2=>by simp only [RFs] at r1 r2;subst r1 r2;simp [Q2h]
 | k::ks,c::cs,c'::cs',_,_,h1,h2,⟨u,us,rfl,r1,t1⟩,⟨u',us',rfl,r2,t2⟩=>by
  simp only [okCs,Bool.and_eq_true] at h1 h2;simp only [Q2h,Bool.and_eq_true,Q8w h1.1 h2.1 r1 r2,Qbd8 h1.2 h2.2 t1 t2,List.cons.injEq]
 | _::_,[],_,_,_,h1,_,_,_=>by simp [okCs] at h1
 | _::_,_::_,[],_,_,_,h2,_,_=>by simp [okCs] at h2
 | [],_::_,_,_,_,h1,_,_,_=>by simp [okCs] at h1
 | [],[],_::_,_,_,_,h2,_,_=>by simp [okCs] at h2
theorem Qw9 {cs:List V} {ks:List CK} {u:Value} (ho:okCs ks cs=true) (h:RF g w (.agg cs) u):∃ us:List Value,u = .agg us.toArray∧RFs g w cs us:=by
 have hf:(V.agg cs).dem = .agg cs:=by
  simp only [V.dem];congr 1;clear h
  induction cs generalizing ks with
  | nil=>rfl
  | cons c cs ih =>
   cases ks with
   | nil=>simp [okCs] at ho
   | cons k ks =>
    simp only [okCs,Bool.and_eq_true] at ho;have:c.dem=c:=by
     cases c<;>first|rfl|(cases k<;>simp [CK.ok] at ho)
    simp only [V.dems,this,ih ho.2]
 obtain ⟨us,rfl,hl,hr,h5⟩:=Qba7 hf h;refine ⟨us,rfl,?_⟩;clear h hf h5
 induction cs generalizing us ks with
 | nil=>simp only [RFs];exact List.eq_nil_of_length_eq_zero (by simpa using hl)
 | cons c cs ih =>
  cases us with
  | nil=>simp at hl
  | cons u us =>
   cases ks with
   | nil=>simp [okCs] at ho
   | cons k ks =>
    simp only [okCs,Bool.and_eq_true] at ho;exact ⟨u,us,rfl,hr 0 c u rfl rfl,ih ho.2 us (by simpa using hl) fun j c' x hc hx=>hr (j+1) c' x (by simpa using hc) (by simpa using hx)⟩
structure KLaw (P:Program) (g:G) (w:World) (kt:TypeId) (kd:MK):Prop where
 check:∀ (em:Bool) {v:V} {u:Value},kd.ok v=true→RF g w v u→(Instr.checkKey em 10000 kt u).run P w = .ok () w
 stays:∀ {v:V} {u:Value},kd.ok v=true→RF g w v u→(Instr.keyThatStays u u).run P w = .ok u w
 same:∀ {v v' : V} {u u' : Value},kd.ok v=true→kd.ok v'=true→RF g w v u→RF g w v' u'→(Qg1 v v'=true↔u=u')
 find:∀ {key:V} {u:Value} (l:List (V×MapEntry)),kd.ok key=true→RF g w key u→(∀ p∈l,kd.ok p.1=true∧RF g w p.1 p.2.key) →
  ((Instr.findKey kt u (l.map (·.2))).run P w = .ok none w∧∀ p∈l,p.2.key≠u) ∨
  ∃ (j:Nat) (p:V×MapEntry),(Instr.findKey kt u (l.map (·.2))).run P w = .ok (some (j,p.2.val)) w∧l[j]? = some p∧p.2.key=u∧∀ i q,i<j→l[i]? = some q→q.2.key≠u
theorem Qbd9 {d:TypeDesc} {u:Value} (hu:IsKey d u):∀ (l:List (V×MapEntry)) (i:Nat),(∀ p∈l,IsKey d p.2.key) →
  (Instr.findNow d u (l.map (·.2)) i=some none∧∀ p∈l,p.2.key≠u) ∨
  ∃ (j:Nat) (p:V×MapEntry),Instr.findNow d u (l.map (·.2)) i=some (some (i+j,p.2.val))∧l[j]? = some p∧p.2.key=u∧∀ i q,i<j→l[i]? = some q→q.2.key≠u
 | [],i,_=>.inl ⟨rfl,by simp⟩
 | p::l,i,h=>by
  obtain ⟨b,hb,hiff⟩:=sameNow_of_keys hu (h p (by simp));cases b with
  | true=>exact .inr ⟨0,p,by simp [Instr.findNow,hb],rfl,(hiff.1 rfl).symm,by omega⟩
  | false =>
   have hne:p.2.key≠u:=fun e=>by have:=hiff.2 e.symm;cases this
   rcases Qbd9 hu l (i+1) (fun q hq=>h q (by simp [hq])) with ⟨k1,k2⟩|⟨j,q,k1,k2,k3,k4⟩
   ·refine .inl ⟨by simp [Instr.findNow,hb,k1],fun q hq=>?_⟩;rcases List.mem_cons.1 hq with rfl|hq
    ·exact hne
    ·exact k2 q hq
   ·refine .inr ⟨j+1,q,by simp [Instr.findNow,hb,k1];omega,by simpa using k2,k3,fun i' q' hi hq'=>?_⟩;cases i' with
    | zero=>simp at hq';subst hq';exact hne
    | succ i'=>exact k4 i' q' (by omega) (by simpa using hq')
theorem Qbea {kt:TypeId} {u:Value}:∀ (l:List (V×MapEntry)) (i:Nat),(∀ p∈l,∃ b:Bool,(Op.equal kt u p.2.key).run P w = .ok b w∧(b=true↔u=p.2.key)) →
  ((Instr.findAsking kt u (l.map (·.2)) i).run P w = .ok none w∧∀ p∈l,p.2.key≠u) ∨
  ∃ (j:Nat) (p:V×MapEntry),(Instr.findAsking kt u (l.map (·.2)) i).run P w = .ok (some (i+j,p.2.val)) w∧l[j]? = some p∧p.2.key=u∧∀ i q,i<j→l[i]? = some q→q.2.key≠u
 | [],i,_=>.inl ⟨by simp [Instr.findAsking],by simp⟩
 | p::l,i,h=>by
  obtain ⟨b,hb,hiff⟩:=h p (by simp);cases b with
  | true=>exact .inr ⟨0,p,by simp [Instr.findAsking,hb],rfl,(hiff.1 rfl).symm,by omega⟩
  | false =>
   have hne:p.2.key≠u:=fun e=>by have:=hiff.2 e.symm;cases this
   rcases Qbea l (i+1) (fun q hq=>h q (by simp [hq])) with ⟨k1,k2⟩|⟨j,q,k1,k2,k3,k4⟩
   ·refine .inl ⟨by simp [Instr.findAsking,hb,k1],fun q hq=>?_⟩;rcases List.mem_cons.1 hq with rfl|hq
    ·exact hne
    ·exact k2 q hq
   ·refine .inr ⟨j+1,q,by simp [Instr.findAsking,hb,k1,Nat.add_assoc,Nat.add_comm 1 j],by simpa using k2,k3,fun i' q' hi hq'=>?_⟩;cases i' with
    | zero=>simp at hq';subst hq';exact hne
    | succ i'=>exact k4 i' q' (by omega) (by simpa using hq')
theorem Qbfl {kt:TypeId} {d:TypeDesc} {kd:MK} (hd:P.underlying kt=some d) (hk:∀ (v:V) (u:Value),kd.ok v=true→RF g w v u→IsKey d u)
  (hs:∀ {v v' : V} {u u' : Value},kd.ok v=true→kd.ok v'=true→RF g w v u→RF g w v' u'→(Qg1 v v'=true↔u=u')):KLaw P g w kt kd where
 check:=fun em v u hv hr=>run_checkKey hd (hk _ _ hv hr) em 9999
 stays:=fun hv hr=>run_keyThatStays (hk _ _ hv hr)
 same:=hs
 find:=fun {key u} l hkey hu hl=>by
  rcases Qbd9 (hk _ _ hkey hu) l 0 (fun p hp=>hk _ _ (hl p hp).1 (hl p hp).2) with ⟨k1,k2⟩|⟨j,p,k1,k2,k3,k4⟩
  ·exact .inl ⟨run_findKey hd k1,k2⟩
  ·exact .inr ⟨j,p,by simpa using run_findKey (P:=P) (w:=w) hd k1,k2,k3,k4⟩
theorem Qzd {t:TypeId} {c:CK} (h:Qsg P t=some c):Qhs P t=some (match c with | .int _=>0 | .bool=>1 | .str=>2):=by
 unfold Qsg at h;unfold Qhs;split at h<;>cases h<;>rename_i ht<;>simp [ht]
def CK.code:CK→Nat
 | .int _=>0
 | .bool=>1
 | .str=>2
theorem Qbeb:∀ {ks:List CK} {xs ys:List V},okCs ks xs=true→okCs ks ys=true→Qdk (ks.map CK.code) xs ys=some (Q2h xs ys)
 | [],[],[],_,_=>rfl
 | k::ks,x::xs,y::ys,h1,h2=>by
  simp only [okCs,Bool.and_eq_true] at h1 h2;have ih:=Qbeb h1.2 h2.2;cases x with
  | d a =>
   cases y with
   | d b =>
    cases a<;>cases b<;>cases k<;>simp [CK.ok] at h1 h2
    ·obtain ⟨rfl,_⟩:=h1;obtain ⟨rfl,_⟩:=h2;simp [CK.code,Qdk,ih,Q2h,Qo2]
    ·simp [CK.code,Qdk,ih,Q2h,Qo2]
    ·simp [CK.code,Qdk,ih,Q2h,Qo2,beq_toListBytes]
   | _=>cases k<;>simp [CK.ok] at h2
  | _=>cases k<;>simp [CK.ok] at h1
 | _::_,[],_,h1,_=>by simp [okCs] at h1
 | _::_,_::_,[],_,h2=>by simp [okCs] at h2
 | [],_::_,_,h1,_=>by simp [okCs] at h1
 | [],[],_::_,_,h2=>by simp [okCs] at h2
theorem Q6s:∀ {ks:List CK} {cs:List V} {us:List Value},okCs ks cs=true→RFs g w cs us→∀ n,(us.zip us).all (fun p=>Instr.sameBits n p.1 p.2)=true
 | [],[],us,_,h,_=>by simp only [RFs] at h;subst h;rfl
 | k::ks,c::cs,_,h1,⟨u,us,rfl,r1,t1⟩,n=>by
  simp only [okCs,Bool.and_eq_true] at h1;simp only [List.zip_cons_cons,List.all_cons,Bool.and_eq_true];refine ⟨?_,Q6s h1.2 t1 n⟩;rcases Q4t h1.1 r1 with ⟨n,k,rfl,rfl,rfl⟩|⟨s,rfl,rfl,rfl⟩|⟨b,rfl,rfl,rfl⟩<;>simp [Instr.sameBits,bytes_beq]
 | _::_,[],_,h1,_,_=>by simp [okCs] at h1
 | [],_::_,_,h1,_,_=>by simp [okCs] at h1
theorem Qblw {kt:TypeId} {ks:List CK} (hd:P.underlying kt=none∨∃ d,P.underlying kt=some d∧((∃ n e,d = .array n e)∨∃ fs,d = .struct fs)) (hks:Qi2 P kt=some (ks.map CK.code))
  (hcheck:∀ (em:Bool) {cs:List V} {us:List Value},okCs ks cs=true→RFs g w cs us→(Instr.checkKey em 10000 kt (.agg us.toArray)).run P w = .ok () w):KLaw P g w kt (.st ks):=by
 have hex:∀ {v:V},(MK.st ks).ok v=true→∃ cs,v = .agg cs∧okCs ks cs=true:=by
  intro v h;cases v<;>simp [MK.ok] at h;exact ⟨_,rfl,h⟩
 have hsame:∀ {v v' : V} {u u' : Value},(MK.st ks).ok v=true→(MK.st ks).ok v'=true→RF g w v u→RF g w v' u'→(Qg1 v v'=true↔u=u'):=by
  intro v v' u u' h1 h2 r1 r2;obtain ⟨cs,rfl,o1⟩:=hex h1;obtain ⟨cs',rfl,o2⟩:=hex h2;obtain ⟨us,rfl,q1⟩:=Qw9 o1 r1;obtain ⟨us',rfl,q2⟩:=Qw9 o2 r2;rw [show Qg1 (.agg cs) (.agg cs')=Q2h cs cs' from rfl,Qbd8 o1 o2 q1 q2];simp
 obtain ⟨d,hd,hdd⟩ : ∃ d,P.underlying kt=some d∧((∃ n e,d = .array n e)∨∃ fs,d = .struct fs):=by
  rcases hd with h|h
  ·unfold Qi2 at hks;rw [h] at hks;cases hks
  ·exact h
 refine ⟨fun em v u h r=>?_,fun {v u} h r=>?_,hsame,fun {key u} l hkey hu hl=>?_⟩
 ·obtain ⟨cs,rfl,o1⟩:=hex h;obtain ⟨us,rfl,q1⟩:=Qw9 o1 r;exact hcheck em o1 q1
 ·obtain ⟨cs,rfl,o1⟩:=hex h;obtain ⟨us,rfl,q1⟩:=Qw9 o1 r;have:=Q6s o1 q1 9999;have hs:Instr.sameBits 10000 (.agg us.toArray) (.agg us.toArray)=true:=by
   show Instr.sameBits (9999+1) (.agg us.toArray) (.agg us.toArray)=true;simp only [Instr.sameBits,beq_self_eq_true,Bool.true_and];exact this
  simp [Instr.keyThatStays,hs]
 ·have heq:∀ p∈l,∃ b:Bool,(Op.equal kt u p.2.key).run P w = .ok b w∧(b=true↔u=p.2.key):=by
   intro p hp;obtain ⟨h2,r2⟩:=hl p hp;obtain ⟨pv,pe⟩:=p;simp only at h2 r2;obtain ⟨cs,rfl,o1⟩:=hex hkey;obtain ⟨cs',rfl,o2⟩:=hex h2;have hs:=hsame hkey h2 hu r2;obtain ⟨us,rfl,q1⟩:=Qw9 o1 hu;obtain ⟨us',hu',q2⟩:=Qw9 o2 r2;refine ⟨Q2h cs cs',?_,hs⟩;rw [show (pe.key) = .agg us'.toArray from hu'];exact (Qbi5 P kt hks (Qg3 q1) (fun j c x hc hx=>Qvn q1 j c x hc hx) (Qg3 q2) (fun j c x hc hx=>Qvn q2 j c x hc hx) (Qbeb o1 o2)).1
  have hfk:(Instr.findKey kt u (l.map (·.2))).run P w=(Instr.findAsking kt u (l.map (·.2)) 0).run P w:=by
   have hfn:Instr.findNow d u (l.map (·.2)) 0=none∨l=[]:=by
    cases l with
    | nil=>exact .inr rfl
    | cons p l =>
     refine .inl ?_;rcases hdd with ⟨n,e,rfl⟩|⟨fs,rfl⟩<;>simp [Instr.findNow,Instr.sameNow]
   rcases hfn with h|rfl
   ·simp [Instr.findKey,run_underlying hd,Result.andThen,h]
   ·simp [Instr.findKey,run_underlying hd,Result.andThen,Instr.findNow,Instr.findAsking]
  rw [hfk];rcases Qbea P l 0 heq with h|⟨j,p,k1,k2,k3,k4⟩
  ·exact .inl h
  ·exact .inr ⟨j,p,by simpa using k1,k2,k3,k4⟩
theorem Qbec {t:TypeId} {c:CK} (hc:Qsg P t=some c) (em:Bool) (n:Nat) {v:V} {u:Value} (hv:c.ok v=true) (hr:RF g w v u):(Instr.checkKey em (n+1) t u).run P w = .ok () w:=by
 unfold Qsg at hc;split at hc<;>cases hc
 all_goals
  rename_i ht;rcases Q4t hv hr with ⟨n,k,e,rfl,rfl⟩|⟨s,e,rfl,rfl⟩|⟨b,e,rfl,rfl⟩<;>cases e;refine run_checkKey ht ?_ em _;simp [IsKey]
theorem Qbbb {em : Bool} {n : Nat} {X : Array Value} {body : Field → PUnit → Sem (ForInStep PUnit)} (hb : ∀ (f : Field) (u : Value), f.name ≠ "_" → (part f.type X f.offset).run P w = .ok u w → (Instr.checkKey em (n + 1) f.type u).run P w = .ok () w → (body f PUnit.unit).run P w = .ok (.yield PUnit.unit) w) :
  ∀ (fs:List Field) (i:Nat) (ks:List CK) (codes:List Nat) (cs:List V),fs.mapM (fun f=>Qsg P f.type)=some ks→Qg2 P i fs=some codes→okCs ks cs=true →
  (∀ (j:Nat) (c:V),cs[j]? = some c→∃ u,X[i+j]? = some u∧RF g w c u)→(forIn fs PUnit.unit body).run P w = .ok PUnit.unit w
 | [],i,ks,codes,cs,_,_,_,_=>by simp
 | f::fs,i,ks,codes,cs,hm,hf,ho,hx=>by
  simp only [List.mapM_cons,Option.bind_eq_bind,Option.bind_eq_some_iff,Option.pure_def,Option.some.injEq] at hm;obtain ⟨k,hk,ks',hm,rfl⟩:=hm;simp only [Qg2] at hf;split at hf<;>try (cases hf;done)
  rename_i hn;split at hf<;>try (cases hf;done)
  rename_i c1 cs1 hc1 hc2;cases cs with
  | nil=>simp [okCs] at ho
  | cons c cs =>
   simp only [okCs,Bool.and_eq_true] at ho;obtain ⟨u,hu,ru⟩:=hx 0 c rfl;have hp:=Q8q (w:=w) P (Qzd P hk) (Z:=X) (o:=f.offset) (u:=u) (by rw [hn.1];exact hu);have hck:=Qbec (g:=g) (w:=w) P hk em n ho.1 ru;have ih:=Qbbb hb fs (i+1) ks' cs1 cs hm hc2 ho.2 fun j c' hc'=>by
    obtain ⟨u',h1,h2⟩:=hx (j+1) c' (by simpa using hc');exact ⟨u',by rw [show i+1+j=i+(j+1) from by omega];exact h1,h2⟩
   simp only [List.forIn_cons,Sem.run_bind,hb f u hn.2 hp hck,Result.andThen_ok];exact ih
theorem Qbci {em:Bool} {n:Nat} {X:Array Value} {e:TypeId} {k:CK} (hk:Qsg P e=some k) {body:Nat→PUnit→Sem (ForInStep PUnit)} (hb:∀ (j:Nat) (u:Value),(part e X j).run P w = .ok u w→(Instr.checkKey em (n+1) e u).run P w = .ok () w→(body j PUnit.unit).run P w = .ok (.yield PUnit.unit) w) :
  ∀ (m i:Nat) (cs:List V),okCs (List.replicate m k) cs=true →
  (∀ (j:Nat) (c:V),cs[j]? = some c→∃ u,X[i+j]? = some u∧RF g w c u)→(forIn (List.range' i m) PUnit.unit body).run P w = .ok PUnit.unit w
 | 0,i,cs,_,_=>by simp
 | m+1,i,cs,ho,hx=>by
  cases cs with
  | nil=>simp [List.replicate_succ,okCs] at ho
  | cons c cs =>
   simp only [List.replicate_succ,okCs,Bool.and_eq_true] at ho;obtain ⟨u,hu,ru⟩:=hx 0 c rfl;have hp:=Q8q (w:=w) P (Qzd P hk) (Z:=X) (o:=i) (u:=u) hu;have hck:=Qbec (g:=g) (w:=w) P hk em n ho.1 ru;have ih:=Qbci hk hb m (i+1) cs ho.2 fun j c' hc'=>by
    obtain ⟨u',h1,h2⟩:=hx (j+1) c' (by simpa using hc');exact ⟨u',by rw [show i+1+j=i+(j+1) from by omega];exact h1,h2⟩
   simp only [List.range'_succ,List.forIn_cons,Sem.run_bind,hb i u hp hck,Result.andThen_ok];exact ih
theorem Qbcj:∀ (l:List Field) (i:Nat) (ks:List CK) (codes:List Nat),l.mapM (fun f=>Qsg P f.type)=some ks→Qg2 P i l=some codes→codes=ks.map CK.code
 | [],i,ks,codes,hks,hfk=>by simp [Qg2] at hfk hks;subst hfk hks;rfl
 | f::l,i,ks,codes,hks,hfk=>by
  simp only [List.mapM_cons,Option.bind_eq_bind,Option.bind_eq_some_iff,Option.pure_def,Option.some.injEq] at hks;obtain ⟨k,hk,ks',hks,rfl⟩:=hks;simp only [Qg2] at hfk;split at hfk<;>try (cases hfk;done)
  split at hfk<;>try (cases hfk;done)
  rename_i c1 cs1 hc1 hc2;cases hfk;rw [Qzd P hk] at hc1;cases hc1;rw [Qbcj l _ ks' cs1 hks hc2];cases k<;>rfl
theorem Qbck {kt:TypeId} {kd:MK} (h:Qbe9 P kt=some kd):KLaw P g w kt kd:=by
 unfold Qbe9 at h;split at h<;>try (cases h;done)
 ·rename_i k hd;cases h;refine Qbfl P hd (fun v u hv hr=>?_) fun {v v' u u'} h1 h2 r1 r2=>?_
  ·cases v<;>simp [MK.ok] at hv;rename_i x;cases x<;>simp [MK.ok] at hv;have:=Qtm hr;subst this;exact hv
  ·have ck:∀ v,(MK.int k).ok v=true→(CK.int k).ok v=true∧∀ v',Qg1 v v'=Qo2 v v':=by
    intro v h;cases v with
    | d x=>cases x<;>simp [MK.ok] at h<;>exact ⟨by simp [CK.ok,h],fun v'=>by cases v'<;>rfl⟩
    | _=>simp [MK.ok] at h
   rw [(ck v h1).2];exact Q8w (c:=.int k) (ck v h1).1 (ck v' h2).1 r1 r2
 ·rename_i hd;cases h;refine Qbfl P hd (fun v u hv hr=>?_) fun {v v' u u'} h1 h2 r1 r2=>?_
  ·cases v<;>simp [MK.ok] at hv;rename_i x;cases x<;>simp [MK.ok] at hv;have:=Qbkc hr;subst this;trivial
  ·have ck:∀ v,(MK.str).ok v=true→(CK.str).ok v=true∧∀ v',Qg1 v v'=Qo2 v v':=by
    intro v h;cases v with
    | d x=>cases x<;>simp [MK.ok] at h<;>exact ⟨by simp [CK.ok,h],fun v'=>by cases v'<;>rfl⟩
    | _=>simp [MK.ok] at h
   rw [(ck v h1).2];exact Q8w (c:=.str) (ck v h1).1 (ck v' h2).1 r1 r2
 ·rename_i hd;cases h;refine Qbfl P hd (fun v u hv hr=>?_) fun {v v' u u'} h1 h2 r1 r2=>?_
  ·cases v<;>simp [MK.ok] at hv;rename_i x;cases x<;>simp [MK.ok] at hv;have:=Qbcb hr;subst this;trivial
  ·have ck:∀ v,(MK.bool).ok v=true→(CK.bool).ok v=true∧∀ v',Qg1 v v'=Qo2 v v':=by
    intro v h;cases v with
    | d x=>cases x<;>simp [MK.ok] at h<;>exact ⟨by simp [CK.ok,h],fun v'=>by cases v'<;>rfl⟩
    | _=>simp [MK.ok] at h
   rw [(ck v h1).2];exact Q8w (c:=.bool) (ck v h1).1 (ck v' h2).1 r1 r2
 ·rename_i fs hd;split at h<;>try (cases h;done)
  rename_i he;obtain ⟨codes,hcodes⟩:=Option.isSome_iff_exists.1 he;simp only [Option.map_eq_some_iff] at h;obtain ⟨ks,hks,rfl⟩:=h;have hfk:Qg2 P 0 fs.toList=some codes:=by
   unfold Qi2 at hcodes;rw [hd] at hcodes;simp only at hcodes;split at hcodes
   ·exact hcodes
   ·cases hcodes
  have hcc:codes=ks.map CK.code:=Qbcj P fs.toList 0 ks codes hks hfk;refine Qblw P (.inr ⟨_,hd,.inr ⟨_,rfl⟩⟩) (by rw [hcodes,hcc]) fun em cs us ho hr=>?_;show (Instr.checkKey em (9999+1) kt _).run P w=_;unfold Instr.checkKey;simp only [Sem.run_bind,run_underlying hd,Result.andThen_ok];rw [← Array.forIn_toList];refine (congrArg (fun r=>Result.andThen r _) (Qbbb (g:=g) (em:=em) (n:=9998) (X:=us.toArray) P (fun f u hn hp hck=>?_) fs.toList 0 ks codes cs hks hfk ho fun j c hc=>?_)).trans rfl
  ·simp only [Sem.run_bind,hn,ne_eq,not_false_eq_true,if_true,hp,Result.andThen_ok,hck,Sem.run_pure]
  ·have hl:=Qg3 hr;have hj:j<cs.length:=(List.getElem?_eq_some_iff.1 hc).1;exact ⟨us[j]'(by omega),by simp,Qvn hr j c _ hc (by simp)⟩
 ·rename_i n e hd;split at h<;>try (cases h;done)
  rename_i he;obtain ⟨codes,hcodes⟩:=Option.isSome_iff_exists.1 he;simp only [Option.map_eq_some_iff] at h;obtain ⟨k,hk,rfl⟩:=h;unfold Qi2 at hcodes;rw [hd] at hcodes;simp only at hcodes;split at hcodes<;>try (cases hcodes;done)
  rename_i hg;simp only [Option.map_eq_some_iff] at hcodes;obtain ⟨sk,hsk,rfl⟩:=hcodes;obtain ⟨i0,hi⟩:=Option.isSome_iff_exists.1 hg.1;have h1:i0.size=1:=by have:=hg.2.1;simpa [Program.cellsOf,hi] using this
  refine Qblw P (.inr ⟨_,hd,.inl ⟨_,_,rfl⟩⟩) ?_ fun em cs us ho hr=>?_
  ·unfold Qi2;rw [hd];simp only [if_pos hg,Qzd P hk,Option.map_some,List.map_replicate];cases k<;>rfl
  ·show (Instr.checkKey em (9999+1) kt _).run P w=_;unfold Instr.checkKey;simp only [Sem.run_bind,run_underlying hd,Result.andThen_ok];simp only [Std.Legacy.Range.forIn_eq_forIn_range',Std.Legacy.Range.size,Nat.sub_zero,Nat.add_one_sub_one,Nat.div_one];refine (congrArg (fun r=>Result.andThen r _) (Qbci (g:=g) (em:=em) (n:=9998) (X:=us.toArray) P hk (fun j u hp hck=>?_) n 0 cs ho fun j c hc=>?_)).trans rfl
   ·simp only [Sem.run_bind,Qg4 P hi,h1,Nat.mul_one,hp,Result.andThen_ok,hck,Sem.run_pure]
   ·have hl:=Qg3 hr;have hj:j<cs.length:=(List.getElem?_eq_some_iff.1 hc).1;exact ⟨us[j]'(by omega),by simp,Qvn hr j c _ hc (by simp)⟩
theorem Qbpd {v:V} {u:Value} {ℓ:Owner} (hd:v.dat=true) (h:RV g w v ℓ u):RF g w v u:=fun _=>Q0z (Imm.refl _ _) hd h
theorem Qbgp {k:Nat} {es:List (V×V×Nat)} {ents:List MapEntry} (h:RM g w k es ents):ents.length=es.length:=by
 induction es generalizing ents with
 | nil=>simp only [RM] at h;subst h;rfl
 | cons x r ih=>simp only [RM] at h;obtain ⟨e,t,rfl,_,_,_,h4⟩:=h;simp [ih h4]
theorem Qbed {key:V}:∀ {es:List (V×V×Nat)},(∀ x∈es,Qg1 key x.1=false)→Qfn key es=none
 | [],_=>rfl
 | (k,v,b)::es,h=>by
  have h1:Qg1 key k=false:=h (k,v,b) (by simp);simp [Qfn,h1,Qbed fun x hx=>h x (List.mem_cons_of_mem _ hx)]
theorem Qbjc {key:V}:∀ {es:List (V×V×Nat)} {j:Nat} {x:V×V×Nat},es[j]? = some x→Qg1 key x.1=true→(∀ i y,i<j→es[i]? = some y→Qg1 key y.1=false)→Qfn key es=some (j,x.2.1)
 | [],j,x,h,_,_=>by simp at h
 | (k,v,b)::es,0,x,h,h1,_=>by
  simp at h;subst h;simp only at h1;simp [Qfn,h1]
 | (k,v,b)::es,j+1,x,h,h1,h2=>by
  have h3:Qg1 key k=false:=h2 0 (k,v,b) (by omega) rfl;have:=Qbjc (key:=key) (es:=es) (j:=j) (x:=x) (by simpa using h) h1 fun i y hi hy=>h2 (i+1) y (by omega) (by simpa using hy);simp [Qfn,h3,this]
theorem Qbn8 {k:Nat}:∀ {es:List (V×V×Nat)} {ents:List MapEntry},RM g w k es ents→∀ (i:Nat) (x:V×V×Nat),es[i]? = some x→∃ e,ents[i]? = some e∧RF g w x.1 e.key∧x.2.1.mv=true∧RV g w x.2.1 (.cell k x.2.2) e.val∧e.born=x.2.2
 | [],_,h,i,x,hx=>by simp at hx
 | y::r,_,h,0,x,hx=>by
  simp only [RM] at h;obtain ⟨e,t,rfl,⟨a1,a2⟩,⟨b1,b2⟩,h3,h4⟩:=h;simp at hx;subst hx;exact ⟨e,rfl,Qbpd a1 a2,b1,b2,h3⟩
 | y::r,_,h,i+1,x,hx=>by
  simp only [RM] at h;obtain ⟨e,t,rfl,_,_,_,h4⟩:=h;simpa using Qbn8 h4 i x (by simpa using hx)
theorem Qbcl {kt:TypeId} {kd:MK} (hl:KLaw P g w kt kd) {key:V} {u:Value} (hkey:kd.ok key=true) (hu:RF g w key u) {k:Nat} {es:List (V×V×Nat)} {ents:List MapEntry} (hr:RM g w k es ents) (ha:kd.all es=true) :
  (Qfn key es=none∧(Instr.findKey kt u ents).run P w = .ok none w) ∨
  ∃ (j:Nat) (v:V) (e:MapEntry) (x:V×V×Nat),Qfn key es=some (j,v)∧es[j]? = some x∧x.2.1=v∧ents[j]? = some e∧e.key=u∧e.born=x.2.2∧(Instr.findKey kt u ents).run P w = .ok (some (j,e.val)) w∧v.mv=true∧RV g w v (.cell k x.2.2) e.val:=by
 have hlen:=Qbgp hr;have hz:((es.map (·.1)).zip ents).map (·.2)=ents:=by
  rw [List.map_snd_zip];simp [hlen]
 have hzi:∀ (i:Nat) (p:V×MapEntry),((es.map (·.1)).zip ents)[i]? = some p→∃ x,es[i]? = some x∧x.1=p.1∧ents[i]? = some p.2∧kd.ok p.1=true∧RF g w p.1 p.2.key:=by
  intro i p hp;rw [List.getElem?_zip_eq_some] at hp;obtain ⟨h1,h2⟩:=hp;rw [List.getElem?_map,Option.map_eq_some_iff] at h1;obtain ⟨x,hx,e1⟩:=h1;obtain ⟨e,h3,h4,_⟩:=Qbn8 hr i x hx;rw [h2] at h3;cases h3;refine ⟨x,hx,e1,h2,?_,by rw [← e1];exact h4⟩;rw [← e1];exact List.all_eq_true.1 ha x (List.mem_of_getElem? hx)
 have hal:∀ p∈(es.map (·.1)).zip ents,kd.ok p.1=true∧RF g w p.1 p.2.key:=by
  intro p hp;obtain ⟨i,hi⟩:=List.getElem?_of_mem hp;obtain ⟨x,_,_,_,h4,h5⟩:=hzi i p hi;exact ⟨h4,h5⟩
 have hne:∀ (i:Nat) (x:V×V×Nat),es[i]? = some x→(∀ p,((es.map (·.1)).zip ents)[i]? = some p→p.2.key≠u)→Qg1 key x.1=false:=by
  intro i x hx hq;obtain ⟨e,h3,h4,_⟩:=Qbn8 hr i x hx;have hp:((es.map (·.1)).zip ents)[i]? = some (x.1,e):=by
   rw [List.getElem?_zip_eq_some];exact ⟨by simp [hx],h3⟩
  obtain ⟨_,_,_,_,h5,h6⟩:=hzi i _ hp;cases hk:Qg1 key x.1 with
  | false=>rfl
  | true=>exact absurd ((hl.same hkey h5 hu h6).1 hk).symm (hq _ hp)
 rcases hl.find _ hkey hu hal with ⟨h1,h2⟩|⟨j,p,h1,h2,h3,h4⟩
 ·rw [hz] at h1;refine .inl ⟨Qbed fun x hx=>?_,h1⟩;obtain ⟨i,hi⟩:=List.getElem?_of_mem hx;exact hne i x hi fun p hp=>h2 p (List.mem_of_getElem? hp)
 ·rw [hz] at h1;obtain ⟨x,k1,k2,k3,k4,k5⟩:=hzi j p h2;obtain ⟨e,q1,q2,q3,q4,q5⟩:=Qbn8 hr j x k1;rw [k3] at q1;cases q1;refine .inr ⟨j,x.2.1,p.2,x,Qbjc k1 ?_ fun i y hi hy=>hne i y hy fun q hq=>h4 i q hi hq,k1,rfl,k3,h3,q5,h1,q3,q4⟩;rw [k2];exact (hl.same hkey k4 hu k5).2 h3.symm
theorem Qblx {vs:List V} {us:List Value} (h:RFs g w vs us):RF g w (.tup vs) (.tuple us.toArray):=by
 intro ℓ;simp only [RV];exact ⟨us,rfl,(Qc6 _ _ _ _).2 ⟨Qg3 h,fun i c u hc hu=>Qvn h i c u hc hu _⟩⟩
theorem Q8x {v:V} {u:Value} (h:RF g w v u):RF g w (Q41 v) u:=by
 cases v<;>try exact h
 rename_i sz;have:=h .free;simp only [RV] at this;obtain ⟨a,rfl⟩:=this;rw [Q41,RF_d];simp [RD]
theorem Qbgq {t:TypeId} {z:V} (h:Qbi0 P t=some z):∃ zv,(zeroValue t).run P w = .ok zv w∧RF g w z zv:=by
 unfold Qbi0 at h;split at h<;>try (cases h;done)
 ·rename_i cs arr hz hi;cases h;obtain ⟨i,zv,h1,h2,h3,_⟩:=Qlk P hz;rw [h1] at hi;simp only [Option.bind_some] at hi;rw [h2] at hi;cases hi;refine ⟨_,Qy8 P h1 h2 w,fun ℓ=>?_⟩;have hc:=h3 g w;simp only [RV];refine ⟨arr.toList,by simp,(Qc6 _ _ _ _).2 ⟨by rw [List.length_map];exact hc.len,fun j c u hj hu=>?_⟩,hc.one⟩;rw [List.getElem?_map,Option.map_eq_some_iff] at hj;obtain ⟨c',hj',rfl⟩:=hj;exact Q8x (hc.rf j c' u hj' hu) _
 ·rename_i c zv hna hz hi;cases h;obtain ⟨i,zv',h1,h2,h3,_⟩:=Qlk P hz;rw [h1] at hi;simp only [Option.bind_some] at hi;rw [h2] at hi;cases hi;refine ⟨_,Qy8 P h1 h2 w,?_⟩;have hc:=h3 g w;have hcells:zv.cells.toList=[zv]:=by
   cases zv<;>first|rfl|exact absurd hi (hna _ _ hz)|skip
   all_goals simp_all [Value.cells]
  rw [hcells] at hc;exact Q8x (hc.rf 0 _ _ rfl rfl)
theorem Qto {t:TypeId} {kt:TypeId} {kd:MK} {z:V} (h:Qj1 P t=some (kt,kd,z)):∃ e,P.underlying t=some (.map kt e)∧Qbe9 P kt=some kd∧Qbi0 P e=some z∧z.dat=true:=by
 unfold Qj1 at h;split at h<;>try (cases h;done)
 rename_i k e ht;split at h<;>try (cases h;done)
 rename_i hk hz;split at h<;>cases h;rename_i hc;simp only [Bool.and_eq_true] at hc;exact ⟨e,ht,hk,hz,hc.2⟩
theorem Qbic {k:Nat} {u:Value} (h:RF g w (.mp k) u):u = .map (some (g.box k)):=by
 have:=h .free;simpa [RV] using this
theorem Qbp4 (t ty:TypeId) {k e:TypeId} (ht:P.underlying t=some (.map k e)) {M:Mem} {nb:Nat} (hM:MR g w M nb) {x v:V} {u:Value} {n0 κ:Nat} {M' : Mem} (hx:RF g w x u) (hs:Qn n0 κ .lenm [x] M=some (v,M')) :
  M'=M∧∃ val,(Builtin.len_ #[t] ty #[u]).run P w = .ok val w∧RF g w v val:=by
 obtain ⟨rfl,⟨b,es,c,hxs,hMk,rfl⟩|⟨es,c,hxs,rfl⟩⟩:=Qbfh hs
 ·cases hxs;have hu:=Qbic hx;subst hu;obtain ⟨_,_,ents,hh,hr⟩:=hM.box b _ hMk;refine ⟨rfl,goInt es.length,?_,by rw [RF_d];simp [RD,goInt]⟩;simp [Builtin.len_,run_underlying ht,MapKept.run_getObj_map hh,Result.andThen,Qbgp hr]
 ·cases hxs;rw [RF_d] at hx;simp only [RD] at hx;obtain ⟨b,rfl,_,hh⟩:=hx;refine ⟨rfl,goInt es.length,?_,by rw [RF_d];simp [RD,goInt]⟩;simp [Builtin.len_,run_underlying ht,MapKept.run_getObj_map (Qbfb hh),Result.andThen]
theorem Qbly {g:G} {w:World} {ℓ:Owner} {u:Value} (h:(Q6q u).dat1=true):RV g w (Q6q u) ℓ u∧u.oneCell'=true:=by
 cases u<;>simp [Q6q,V.dat1] at h<;>exact ⟨by simp [Q6q,RV,RD],rfl⟩
theorem Qbee {g:G} {w:World} {ℓ:Owner}:∀ {us:List Value} {i:Nat},(us.map Q6q).all V.dat1=true→RVs g w (us.map Q6q) ℓ i us∧∀ u∈us,u.oneCell'=true
 | [],_,_=>by simp [RVs]
 | u::us,i,h=>by
  simp only [List.map_cons,List.all_cons,Bool.and_eq_true] at h;obtain ⟨h1,h2⟩:=Qbee (g:=g) (w:=w) (ℓ:=ℓ) (us:=us) (i:=i+1) h.2;obtain ⟨k1,k2⟩:=Qbly (g:=g) (w:=w) (ℓ:=ℓ.sub i) h.1;refine ⟨⟨u,us,rfl,k1,h1⟩,fun x hx=>?_⟩;rcases List.mem_cons.1 hx with rfl|hx
  ·exact k2
  ·exact h2 x hx
theorem Qbjd {g:G} {w:World} {ℓ:Owner} {u:Value} (h:(Qbe7 u).dat=true):RV g w (Qbe7 u) ℓ u:=by
 cases u with
 | agg vs =>
  obtain ⟨h1,h2⟩:=Qbee (g:=g) (w:=w) (ℓ:=ℓ) (us:=vs.toList) (i:=0) h;simp only [Qbe7,RV];exact ⟨vs.toList,by simp,h1,h2⟩
 | _=>simp [Qbe7,Q6q,V.dat] at h<;>simp [Qbe7,Q6q,RV,RD]
theorem Qbq7 {c:CK} {v:V} (h:c.ok v=true):v.dat1=true:=by
 cases v with
 | d x=>rfl
 | _=>cases c<;>simp [CK.ok] at h
theorem Qbje:∀ {ks:List CK} {cs:List V},okCs ks cs=true→cs.all V.dat1=true
 | [],[],_=>rfl
 | k::ks,c::cs,h=>by simp only [okCs,Bool.and_eq_true] at h;simp [Qbq7 h.1,Qbje h.2]
 | [],_::_,h=>by simp [okCs] at h
 | _::_,[],h=>by simp [okCs] at h
theorem Qblz {kd:MK} {v:V} (h:kd.ok v=true):v.dat=true:=by
 cases v with
 | d x=>rfl
 | agg cs =>
  cases kd<;>simp [MK.ok] at h;exact Qbje h
 | _=>cases kd<;>simp [MK.ok] at h
theorem Qbl0 {g:G} {w:World} {kd:MK} {k:Nat}:∀ {ents:List MapEntry},kd.all (ents.map entV)=true→((ents.map entV).all fun e=>e.2.1.dat)=true→RM g w k (ents.map entV) ents
 | [],_,_=>by simp [RM]
 | e::ents,h1,h2=>by
  simp only [MK.all,List.map_cons,List.all_cons,Bool.and_eq_true] at h1 h2;simp only [List.map_cons,RM];exact ⟨e,ents,rfl,⟨Qblz h1.1,Qbjd (Qblz h1.1)⟩,⟨Q8o h2.1,Qbjd h2.1⟩,rfl,Qbl0 h1.2 h2.2⟩
theorem Qbl1 (t:TypeId) {kt:TypeId} {kd:MK} {z:V} (hmk:Qj1 P t=some (kt,kd,z)) (c:Bool) {M:Mem} {nb:Nat} (hM:MR g w M nb) {x y v:V} {u uk:Value} {n0 κ:Nat} {M' : Mem}
  (hx:RF g w x u) (hy:RF g w y uk) (hs:Qn n0 κ (.lookup kd c z) [x,y] M=some (v,M')) :
  M'=M∧∃ val,(Instr.lookup t u uk c).run P w = .ok val w∧RF g w v val:=by
 obtain ⟨rfl,b,kk,es,ents,cl,rfl,hh,hr,hk1,hk2,hres⟩ : M'=M∧∃ b kk es ents cl,u = .map (some b)∧w.heap[b]? = some (.map (List.toArray ents) cl)∧RM g w kk es ents∧Qbn3 kd c z y v es:=by
  obtain ⟨rfl,⟨b,key,es,cl,hxs,hMk,h⟩|⟨key,ents,cl,hxs,h0,h⟩⟩:=Qbaf hs
  ·cases hxs;obtain ⟨_,_,ents,hh,hr⟩:=hM.box b _ hMk;exact ⟨rfl,_,_,es,ents,cl,Qbic hx,hh,hr,h⟩
  ·cases hxs;rw [RF_d] at hx;simp only [RD] at hx;obtain ⟨b,rfl,_,hh⟩:=hx;exact ⟨rfl,b,0,_,ents,cl,rfl,Qbfb hh,Qbl0 h.2.1 h0,h⟩
 obtain ⟨et,ht,hkk,hz,hzd⟩:=Qto P hmk;have hlaw:=Qbck (g:=g) (w:=w) P hkk;obtain ⟨zv,hzr,hzf⟩:=Qbgq (g:=g) (w:=w) P hz;refine ⟨rfl,?_⟩;have hck:∀ em,(Instr.checkKey em 10000 kt uk).run P w = .ok () w:=fun em=>hlaw.check em hk1 hy;rcases Qbcl P hlaw hk1 hy hr hk2 with ⟨f1,f2⟩|⟨j,v',e,x,f1,f2,f3,f4,f5,f6,f7,f8,f9⟩
 ·have hfk:=f2;rcases hres with ⟨i,uu,h1,_,_⟩|⟨h1,h2,rfl⟩
  ·rw [f1] at h1;cases h1
  ·refine ⟨if c then .tuple #[zv,.bool false] else zv,?_,?_⟩
   ·simp [Instr.lookup,run_underlying ht,MapKept.run_getObj_map hh,hck,hfk,hzr,Result.andThen]
   ·cases c
    ·exact hzf
    ·exact Qblx (us:=[zv,.bool false]) ⟨_,_,rfl,hzf,_,_,rfl,by rw [RF_d];simp [RD],rfl⟩
 ·have hfk:=f7;rcases hres with ⟨i,uu,h1,h2,rfl⟩|⟨h1,h2,rfl⟩
  ·rw [f1] at h1;cases h1;refine ⟨if c then .tuple #[e.val,.bool true] else e.val,?_,?_⟩
   ·simp [Instr.lookup,run_underlying ht,MapKept.run_getObj_map hh,hck,hfk,Result.andThen]
   ·cases c
    ·exact fun ℓ=>Qh8 _ _ ℓ _ f9
    ·exact Qblx (us:=[e.val,.bool true]) ⟨_,_,rfl,fun ℓ=>Qh8 _ _ ℓ _ f9,_,_,rfl,by rw [RF_d];simp [RD],rfl⟩
  ·rw [f1] at h1;cases h1
end
end Go.Abs
end
section
namespace Go.Abs
open Go Go.MapKept
section
variable (P:Program) {g:G} {w:World} {n0 nt:Nat} {g0:G} {w0:World} {σ:St} {a:Act}
theorem SR.allocm (h:SR n0 nt g0 w0 σ a w g) {dst:Option Nat} {κ:Nat} (hd:∀ d,dst=some d→d<nt) (hκ:n0≤κ) (hκ' : κ<σ.nb) (hfree:σ.M κ=none) :
  ∃ g',SR n0 nt g0 w0 ⟨Qbf σ.s dst (.mp κ),σ.M.put κ (.mp [] 0),σ.nb⟩ (a.put dst (.map (some w.heap.size))) (w.alloc (.map #[] 0)) g':=by
 let g' : G:={ box:=fun k=>if k=κ then w.heap.size else g.box k,imm:=g.imm,own:=fun b=>if b=w.heap.size then .box κ else g.own b };have hkept:Kept g w g' (w.alloc (.map #[] 0)) (There σ.M) (fun _=>True):=by
  refine ⟨⟨fun _ _ hb=>hb,fun b o hb=>?_⟩,fun k hk=>?_,fun b _ hb=>⟨?_,?_,fun _=>Iff.rfl⟩⟩
  ·exact Qfp (RowKit.Below.heap_alloc w _ b (h.mem.imm b o hb).1)
  ·have:k≠κ:=by rintro rfl;simp [There,hfree] at hk
   simp [g',this]
  ·have:b≠w.heap.size:=by omega
   simp [g',this]
  ·exact RowKit.Below.heap_alloc w _ b hb
 have hslots:∀ t,RV g' (w.alloc (.map #[] 0)) (σ.s t) (.slot t []) (a.tmps.getD t undef):=fun t =>
  Qe8 hkept (fun _ _ h=>h) trivial _ _ _ trivial (h.onS t) (h.slots t)
 have himm:∀ b o,g'.imm b o→b<(w.alloc (.map #[] 0)).heap.size∧∀ k,g'.own b ≠ .box k:=by
  intro b o hb;obtain ⟨h1,h2⟩:=h.mem.imm b o hb;refine ⟨by rw [World.size_alloc];omega,fun k=>?_⟩;have:b≠w.heap.size:=by omega
  simpa [g',this] using h2 k
 have hm:=h.mem.kept hkept h.mOn (fun _ _ h=>h) trivial (fun _ _=>trivial) himm;have hmon:∀ k,There σ.M k→There (σ.M.put κ (.mp [] 0)) k:=fun k hk=>hk.put;refine ⟨g',h.step ?_ ?_ (Qfe (fun d hd'=>by rw [h.size];exact hd d hd') (fun t _=>hslots t) (fun d _=>by simp [RV,g'])) (Qgh _ _ _) (Qd3 _ _ _) (Qff (fun t=>Qf8 hmon _ (h.onS t)) There.self) ?_ ?_⟩
 ·refine ⟨fun k b hk=>?_,himm⟩;simp only [Mem.put] at hk;split at hk
  ·rename_i heq;subst heq;cases hk;refine ⟨hκ',by simp [g'],[],?_,rfl⟩;simp only [g',if_true];exact (heap_alloc w _).1
  ·exact hm.box k b hk
 ·exact ⟨rfl,rfl,rfl,by simp,hkept.imm,fun k hk=>(by
   have:k≠κ:=by omega
   simp [g',this]),fun b hb _=>hkept.own b trivial hb⟩
 ·intro k cs' hk;simp only [Mem.put] at hk;split at hk
  ·cases hk
  ·exact ons_mono hmon _ (h.mOn k cs' hk)
 ·intro k cs' hk hlt;simp only [Mem.put] at hk;rw [if_neg (by omega)] at hk;exact h.out k cs' hk hlt
theorem Qbn9 (h:SR n0 nt g0 w0 σ a w g) {dst:Option Nat} (hd:∀ d,dst=some d→d<nt) (t:TypeId) {k e:TypeId} (ht:P.underlying t=some (.map k e)) {xs:List V} {us:List Value} (hx:RFs g w xs us) {v:V} {κ:Nat} {M' : Mem} (hκ:n0≤κ) (hκ' : κ<σ.nb)
  (r:Option Value) (hr:us=r.toList) (hs:Qn n0 κ .mkmap xs σ.M=some (v,M')) :
  ∃ val w' g',(Instr.makeMap t r).run P w = .ok val w'∧SR n0 nt g0 w0 ⟨Qbf σ.s dst v,M',σ.nb⟩ (a.put dst val) w' g':=by
 obtain ⟨hxs,hfree,rfl,rfl⟩:=Qbgj hs;obtain ⟨g',hsr⟩:=h.allocm (dst:=dst) hd hκ hκ' hfree;refine ⟨_,_,g',?_,hsr⟩;rcases hxs with rfl|⟨q,n,rfl⟩
 ·simp only [RFs] at hx;rw [hx] at hr;cases r with
  | none=>simp [Instr.makeMap,Result.andThen]
  | some r=>simp at hr
 ·obtain ⟨u,us',rfl,h1,h2⟩:=hx;simp only [RFs] at h2;subst h2;have:=Qtm h1;subst this;cases r with
  | none=>simp at hr
  | some r =>
   simp at hr;subst hr;simp [Instr.makeMap,run_underlying ht,asInt,asIntOf,Result.andThen]
theorem SR.mapput (h:SR n0 nt g0 w0 σ a w g) {k:Nat} {es es' : List (V×V×Nat)} {cl cl' : Nat} {ents ents' : List MapEntry} (hk:σ.M k=some (.mp es cl)) (hh:w.heap[g.box k]? = some (.map ents.toArray cl)) (hr:RM g w k es' ents')
  {dst:Option Nat} (hd:∀ d,dst=some d→d<nt) {v:V} {val:Value} (hv:∀ w',Imm g.imm g.imm w w'→RF g w' v val) (hvon:∀ p,v.on p) :
  SR n0 nt g0 w0 ⟨Qbf σ.s dst v,σ.M.put k (.mp es' cl'),σ.nb⟩ (a.put dst val) { w with heap:=w.heap.setIfInBounds (g.box k) (.map ents'.toArray cl') } g:=by
 obtain ⟨hltnb,hb,_⟩:=h.mem.box k _ hk;obtain ⟨hs1,hs2⟩:=heap_set (o':=.map ents'.toArray cl') hh;have hkept:Kept g w g { w with heap:=w.heap.setIfInBounds (g.box k) (.map ents'.toArray cl') } (There σ.M) (fun o=>o ≠ .box k):=by
  refine ⟨⟨fun _ _ h=>h,fun b o hbo=>?_⟩,fun _ _=>rfl,fun b hbk hlt=>⟨rfl,?_,fun _=>Iff.rfl⟩⟩
  ·have:b≠g.box k:=by rintro rfl;exact (h.mem.imm _ _ hbo).2 k hb
   exact Qfp (hs2 b this)
  ·have:b≠g.box k:=by rintro rfl;exact hbk hb
   exact hs2 b this
 have hslots:∀ t,RV g { w with heap:=w.heap.setIfInBounds (g.box k) (.map ents'.toArray cl') } (σ.s t) (.slot t []) (a.tmps.getD t undef):=fun t =>
  Qe8 hkept (fun _ i h=>Qte h) (by simp) _ _ _ (by simp) (h.onS t) (h.slots t)
 have hthere:∀ j,There σ.M j→There (σ.M.put k (.mp es' cl')) j:=fun j hj=>hj.put;refine h.step ?_ ?_ (Qfe (fun d hd'=>by rw [h.size];exact hd d hd') (fun t _=>hslots t) (fun d _=>hv _ hkept.imm _)) (Qgh _ _ _) (Qd3 _ _ _) (Qff (fun t=>Qf8 hthere _ (h.onS t)) (hvon _)) ?_ ?_
 ·refine ⟨fun j b hj=>?_,fun b o hbo=>?_⟩
  ·simp only [Mem.put] at hj;split at hj
   ·rename_i he;subst he;cases hj;exact ⟨hltnb,hb,ents',hs1,Qqt (g:=g) (g':=g) hkept (fun _=>by simp) hr⟩
   ·rename_i hne;obtain ⟨k1,k2,k3⟩:=h.mem.box j b hj;have hbj:g.box j≠g.box k:=by
     intro he;rw [he] at k2;rw [hb] at k2;exact hne (by injection k2 with h;exact h.symm)
    refine ⟨k1,k2,?_⟩;cases b with
    | mp es2 c2 =>
     obtain ⟨ents2,hh',hr'⟩:=k3;exact ⟨ents2,(hs2 _ hbj).trans hh',Qqt (g:=g) (g':=g) hkept (fun _=>by simp) hr'⟩
    | cells cs' =>
     obtain ⟨vs,e',hh',hr',ho'⟩:=k3;refine ⟨vs,e',(hs2 _ hbj).trans hh',RVs_mono hkept (fun _ i h=>Qte h) (by simp) cs' (.box j) 0 vs ?_ (h.mOn j cs' hj) hr',ho'⟩;intro e;injection e with e;exact hne e
  ·obtain ⟨h3,h4⟩:=h.mem.imm b o hbo;exact ⟨by simpa using h3,h4⟩
 ·refine ⟨rfl,rfl,rfl,by simp,hkept.imm,fun _ _=>rfl,fun b hb' ho=>?_⟩;have hne:g.own b ≠ .box k:=by intro e;rw [e] at ho;exact ho
  exact ⟨rfl,(hkept.own b hne hb').2.1,fun _=>Iff.rfl⟩
 ·intro j cs' hj;simp only [Mem.put] at hj;split at hj
  ·cases hj
  ·exact ons_mono hthere _ (h.mOn j cs' hj)
 ·intro j cs' hj hlt;simp only [Mem.put] at hj;split at hj
  ·cases hj
  ·exact h.out j cs' hj hlt
theorem Qbcm {kb:Nat} {es:List (V×V×Nat)} {ents:List MapEntry} {k v:V} {uk uv:Value} {b:Nat} (hr:RM g w kb es ents) (hk:k.dat=true) (hk' : RV g w k .ext uk) (hv:v.mv=true) (hv' : RV g w v (.cell kb b) uv) :
  RM g w kb (es++[(k,v,b)]) (ents++[{ key:=uk,val:=uv,born:=b }]):=by
 induction es generalizing ents with
 | nil=>simp only [RM] at hr;subst hr;exact ⟨_,[],rfl,⟨hk,hk'⟩,⟨hv,hv'⟩,rfl,rfl⟩
 | cons x r ih =>
  simp only [RM] at hr;obtain ⟨e,t,rfl,h1,h2,h3,h4⟩:=hr;exact ⟨e,t++[_],rfl,h1,h2,h3,ih h4⟩
theorem Qbgr {kb:Nat} {k v:V} {uk uv:Value} (hk:k.dat=true) (hk' : RV g w k .ext uk) (hv:v.mv=true):∀ {es:List (V×V×Nat)} {ents:List MapEntry} (i:Nat),(∀ x,es[i]? = some x→RV g w v (.cell kb x.2.2) uv)→RM g w kb es ents →
  RM g w kb (modM k v i es) (ents.modify i fun e=>{ e with key:=uk,val:=uv })
 | [],_,i,_,hr=>by simp only [RM] at hr;subst hr;cases i<;>simp [modM,RM]
 | x::r,_,0,hv',hr=>by
  simp only [RM] at hr;obtain ⟨e,t,rfl,h1,h2,h3,h4⟩:=hr;exact ⟨_,t,rfl,⟨hk,hk'⟩,⟨hv,hv' x rfl⟩,h3,h4⟩
 | x::r,_,i+1,hv',hr=>by
  simp only [RM] at hr;obtain ⟨e,t,rfl,h1,h2,h3,h4⟩:=hr;exact ⟨e,_,rfl,h1,h2,h3,Qbgr hk hk' hv i (fun y hy=>hv' y (by simpa using hy)) h4⟩
theorem Qbjf:∀ {ks:List CK} {cs:List V},okCs ks cs=true→cs.all V.dat1=true
 | [],[],_=>rfl
 | k::ks,c::cs,h=>by
  simp only [okCs,Bool.and_eq_true] at h;have:c.dat1=true:=by cases c<;>first|rfl|(cases k<;>simp [CK.ok] at h)
  simp [this,Qbjf h.2]
 | [],_::_,h=>by simp [okCs] at h
 | _::_,[],h=>by simp [okCs] at h
theorem Qbcn {kd:MK} {v:V} (h:kd.ok v=true):v.dat=true:=by
 cases v<;>cases kd<;>simp_all [MK.ok,V.dat];exact fun x hx=>List.all_eq_true.1 (Qbjf h) x hx
theorem Qo5 (l:List MapEntry) (i:Nat) (f:MapEntry→MapEntry):l.toArray.modify i f=(l.modify i f).toArray:=by
 apply Array.ext';simp
theorem Qbco {v:V} (h:v.dat=true):(Q41 v).dat=true:=by
 cases v<;>first|exact h|rfl
theorem Qbgs (h:SR n0 nt g0 w0 σ a w g) {dst:Option Nat} (hd:∀ d,dst=some d→d<nt) (t:TypeId) {kt:TypeId} {kd:MK} {z:V} (hmk:Qj1 P t=some (kt,kd,z)) {x y u v:V} {um uk uv:Value} {κ:Nat} {M' : Mem}
  (hx:RF g w x um) (hy:RF g w y uk) (hu:RF g w u uv) (hs:Qn n0 κ (.mapset kd) [x,y,u] σ.M=some (v,M')) :
  ∃ w',(Instr.mapUpdate t um uk uv).run P w = .ok () w'∧SR n0 nt g0 w0 ⟨Qbf σ.s dst v,M',σ.nb⟩ (a.put dst undef) w' g:=by
 obtain ⟨b,key,u',es,cl,hxs,hMk,hk1,hk2,hdat,rfl,rfl⟩:=Qbd5 hs;cases hxs;have hum:=Qbic hx;subst hum;obtain ⟨et,ht,hkk,hz,hzd⟩:=Qto P hmk;obtain ⟨_,_,ents,hh,hr⟩:=h.mem.box b _ hMk;have hlaw:=Qbck (g:=g) (w:=w) P hkk;have hck:∀ em,(Instr.checkKey em 10000 kt uk).run P w = .ok () w:=fun em=>hlaw.check em hk1 hy;have hst:=hlaw.stays hk1 hy;rcases Qbcl P hlaw hk1 hy hr hk2 with ⟨f1,f2⟩|⟨j,v',e,x,f1,f2,f3,f4,f5,f6,f7,f8,f9⟩
 ·have hfk:=f2;rw [f1];refine ⟨_,?_,h.mapput (cl':=cl+1) hMk hh (Qbcm hr (Qbcn hk1) (hy _) (Q8o (Qbco hdat)) (Q8x hu _)) hd (fun _ _ _=>by simp [RV]) (fun p=>by simp [V.on])⟩;simp [Instr.mapUpdate,run_underlying ht,MapKept.run_getObj_map hh,hck,hfk,MapKept.run_setObj_map _ hh,Result.andThen]
 ·have hfk:=f7;rw [f1];refine ⟨_,?_,h.mapput (cl':=cl) hMk hh (Qbgr (Qbcn hk1) (hy _) (Q8o (Qbco hdat)) j (fun _ _=>Q8x hu _) hr) hd (fun _ _ _=>by simp [RV]) (fun p=>by simp [V.on])⟩;have hj:ents[j]? = some e:=f4;simp [Instr.mapUpdate,run_underlying ht,MapKept.run_getObj_map hh,hck,hfk,hj,f5,hst,MapKept.run_setObj_map _ hh,Result.andThen,Qo5]
theorem Qbid (h:SR n0 nt g0 w0 σ a w g) {dst:Option Nat} (hd:∀ d,dst=some d→d<nt) (t:TypeId) {kt:TypeId} {kd:MK} {z:V} (hmk:Qj1 P t=some (kt,kd,z)) {x y v:V} {um uk:Value} {κ:Nat} {M' : Mem}
  (hx:RF g w x um) (hy:RF g w y uk) (hs:Qn n0 κ (.mapentry kd z) [x,y] σ.M=some (v,M')) :
  ∃ val w',(Instr.mapEntry t um uk).run P w = .ok val w'∧SR n0 nt g0 w0 ⟨Qbf σ.s dst v,M',σ.nb⟩ (a.put dst val) w' g:=by
 obtain ⟨b,key,es,cl,hxs,hMk,hk1,hk2,hzd,hres⟩:=Qba9 hs;cases hxs;have hum:=Qbic hx;subst hum;obtain ⟨et,ht,hkk,hz,_⟩:=Qto P hmk;obtain ⟨_,_,ents,hh,hr⟩:=h.mem.box b _ hMk;have hlaw:=Qbck (g:=g) (w:=w) P hkk;obtain ⟨zv,hzr,hzf⟩:=Qbgq (g:=g) (w:=w) P hz;have hck:∀ em,(Instr.checkKey em 10000 kt uk).run P w = .ok () w:=fun em=>hlaw.check em hk1 hy;have hst:=hlaw.stays hk1 hy;have htup:∀ {v:V} {val:Value} (c:Nat),v.dat=true→RF g w v val→∀ w',Imm g.imm g.imm w w'→RF g w' (.tup [v,.d (.int .i64 c)]) (.tuple #[val,goInt c]):=fun {v val} c hv hf w' him =>
  Qblx (us:=[val,goInt c]) ⟨_,_,rfl,fun _=>Q0z (g':=g) him hv (hf .ext),_,_,rfl,by rw [RF_d];simp [RD,goInt],rfl⟩
 have hton:∀ {v:V} (c:Nat),v.dat=true→∀ p,(V.tup [v,.d (.int .i64 c)]).on p:=fun {v} c hv p=>⟨Q2l hv,trivial,trivial⟩;rcases Qbcl P hlaw hk1 hy hr hk2 with ⟨f1,f2⟩|⟨j,v',e,x,f1,f2,f3,f4,f5,f6,f7,f8,f9⟩
 ·have hfk:=f2;rcases hres with ⟨i,u,e,h1,_⟩|⟨h1,rfl,rfl⟩
  ·rw [f1] at h1;cases h1
  ·refine ⟨.tuple #[zv,goInt cl],_,?_,h.mapput (cl':=cl+1) hMk hh (Qbcm hr (Qbcn hk1) (hy _) (Q8o hzd) (hzf _)) hd (htup cl hzd hzf) (hton cl hzd)⟩;simp [Instr.mapEntry,run_underlying ht,MapKept.run_getObj_map hh,hck,hfk,hzr,MapKept.run_setObj_map _ hh,Result.andThen]
 ·have hfk:=f7;rcases hres with ⟨i,u,e2,h1,h2,h3,rfl,rfl⟩|⟨h1,_⟩
  ·rw [f1] at h1;cases h1;rw [f2] at h3;cases h3;have hj:ents[j]? = some e:=f4;refine ⟨.tuple #[e.val,goInt e.born],{ w with heap:=w.heap.setIfInBounds (g.box b) (.map (ents.modify j fun q=>{ q with key:=uk,val:=e.val }).toArray cl) },?_,?_⟩
   rotate_left
   ·have hmod:=Qbgr (Qbcn hk1) (hy .ext) f8 j (fun y hy'=>by rw [f2] at hy';cases hy';exact f9) hr;have:=h.mapput (cl':=cl) hMk hh hmod hd (htup x.2.2 h2 (Qbpd h2 f9)) (hton _ h2);rw [f6];exact this
   ·have hme:ents.modify j (fun q=>{ q with key:=uk })=ents.modify j (fun q=>{ q with key:=uk,val:=e.val }):=by
     apply List.ext_getElem?;intro i;rw [List.getElem?_modify,List.getElem?_modify];by_cases hij:j=i
     ·subst hij;simp [hj]
     ·simp [hij]
    simp [Instr.mapEntry,run_underlying ht,MapKept.run_getObj_map hh,hck,hfk,hj,f5,hst,MapKept.run_setObj_map _ hh,Result.andThen,Qo5,hme]
  ·rw [f1] at h1;cases h1
theorem Qbl2 {b:Int} {kb:Nat}:∀ {es:List (V×V×Nat)} {ents:List MapEntry},RM g w kb es ents→ents.findIdx? (fun e=>(e.born:Int)==b)=Qbds b es
 | [],_,h=>by simp only [RM] at h;subst h;rfl
 | x::r,_,h=>by
  simp only [RM] at h;obtain ⟨e,t,rfl,_,_,h3,h4⟩:=h;obtain ⟨xk,xv,xb⟩:=x;simp only at h3;subst h3;rw [List.findIdx?_cons,Qbl2 h4];simp only [Qbds]
theorem Qbpe {kb:Nat}:∀ {es:List (V×V×Nat)} {ents:List MapEntry},RM g w kb es ents→∀ (i:Nat) (x:V×V×Nat),es[i]? = some x→∃ e,ents[i]? = some e∧(x.1.dat=true∧RV g w x.1 .ext e.key)∧e.born=x.2.2
 | [],_,h,i,x,hx=>by simp at hx
 | y::r,_,h,0,x,hx=>by
  simp only [RM] at h;obtain ⟨e,t,rfl,h1,_,h3,h4⟩:=h;simp at hx;subst hx;exact ⟨e,rfl,h1,h3⟩
 | y::r,_,h,i+1,x,hx=>by
  simp only [RM] at h;obtain ⟨e,t,rfl,_,_,_,h4⟩:=h;simpa using Qbpe h4 i x (by simpa using hx)
theorem Qbfm (h:SR n0 nt g0 w0 σ a w g) {dst:Option Nat} (hd:∀ d,dst=some d→d<nt) (t:TypeId) {x y u v:V} {um uk uv:Value} {κ:Nat} {M' : Mem}
  (hx:RF g w x um) (hy:RF g w y uk) (hu:RF g w u uv) (hs:Qn n0 κ .entrystore [x,y,u] σ.M=some (v,M')) :
  ∃ w',(Instr.entryStore t um uk uv).run P w = .ok () w'∧SR n0 nt g0 w0 ⟨Qbf σ.s dst v,M',σ.nb⟩ (a.put dst undef) w' g:=by
 obtain ⟨b,bn,u',es,cl,i,e0,hxs,hMk,hdat,hbn,he0,rfl,rfl⟩:=Q6r hs;cases hxs;have hum:=Qbic hx;subst hum;have huk:=Qtm hy;subst huk;obtain ⟨_,_,ents,hh,hr⟩:=h.mem.box b _ hMk;obtain ⟨e,k1,⟨k2,k3⟩,k4⟩:=Qbpe hr i _ he0;have hidx:ents.findIdx? (fun e=>(e.born:Int)==bn)=some i:=by rw [Qbl2 hr,hbn]
 refine ⟨_,?_,h.mapput (cl':=cl) hMk hh (Qbgr (uk:=e.key) k2 k3 (Q8o (Qbco hdat)) i (fun _ _=>Q8x hu _) hr) hd (fun _ _ _=>by simp [RV]) (fun p=>by simp [V.on])⟩;have hme:ents.modify i (fun q=>{ q with val:=uv })=ents.modify i (fun q=>{ q with key:=e.key,val:=uv }):=by
  apply List.ext_getElem?;intro j;rw [List.getElem?_modify,List.getElem?_modify];by_cases hij:i=j
  ·subst hij;simp [k1]
  ·simp [hij]
 simp [Instr.entryStore,MapKept.run_getObj_map hh,asInt,asIntOf,hidx,MapKept.run_setObj_map _ hh,Result.andThen,Qo5,hme]
end
end Go.Abs
end
section
namespace Go.Abs
open Go Go.MapKept
section
variable (P:Program) {g:G} {w:World} {n0 nt:Nat} {g0:G} {w0:World} {σ:St} {a:Act}
theorem SR.mapre (h:SR n0 nt g0 w0 σ a w g) {k:Nat} {es es' : List (V×V×Nat)} {cl cl' : Nat} {ents' : List MapEntry} (hk:σ.M k=some (.mp es cl)) {x y:Owner} (hx:∀ j,x ≠ .box j) (hxp:¬ Prot x) (hxe:x ≠ .ext) (hy:∀ j,y ≠ .box j)
  (hsub:∀ o i,o ≠ .box k→o≠x→o.sub i≠x) (hcell:∀ j i,j≠k→x ≠ .cell j i) {w' : World} (hoff:∀ b,b≠g.box k→w'.heap[b]? = w.heap[b]?) (hat:w'.heap[g.box k]? = some (.map ents'.toArray cl'))
  (hw:w'.os=w.os∧w'.tape=w.tape∧w'.output=w.output∧w'.heap.size=w.heap.size) (hr:RM (g.re (ex x y)) w' k es' ents')
  {s' : Sl} {a' : Act} (hs:∀ t,RV (g.re (ex x y)) w' (s' t) (.slot t []) (a'.tmps.getD t undef)) (hsz:a'.tmps.size=a.tmps.size) (hd:a'.defers=a.defers) (hons:∀ t,(s' t).on (There σ.M)) :
  SR n0 nt g0 w0 ⟨s',σ.M.put k (.mp es' cl'),σ.nb⟩ a' w' (g.re (ex x y)):=by
 obtain ⟨hltnb,hb,_⟩:=h.mem.box k _ hk;have hbx:∀ j,ex x y (.box j) = .box j:=fun j=>by unfold ex;rw [if_neg (fun e=>hx j e.symm)]
 have hkept:Kept g w (g.re (ex x y)) w' (There σ.M) (fun o=>o ≠ .box k∧o≠x):=by
  refine ⟨⟨fun _ _ h=>h,fun b o hbo=>?_⟩,fun _ _=>rfl,fun b hbk hlt=>⟨by simp [G.re,ex,hbk.2],?_,fun _=>Iff.rfl⟩⟩
  ·have:b≠g.box k:=by rintro rfl;exact (h.mem.imm _ _ hbo).2 k hb
   exact Qfp (hoff b this)
  ·have:b≠g.box k:=by rintro rfl;exact hbk.1 hb
   exact hoff b this
 have hks:∀ o i,o ≠ .box k∧o≠x→o.sub i ≠ .box k∧o.sub i≠x:=fun o i ho=>⟨Qte ho.1,hsub o i ho.1 ho.2⟩;have hke:(Owner.ext ≠ .box k∧Owner.ext≠x):=⟨by simp,fun e=>hxe e.symm⟩;have hthere:∀ j,There σ.M j→There (σ.M.put k (.mp es' cl')) j:=fun j hj=>hj.put;refine h.step ?_ ?_ hs hsz hd (fun t=>Qf8 hthere _ (hons t)) ?_ ?_
 ·refine ⟨fun j b hj=>?_,fun b o hbo=>?_⟩
  ·simp only [Mem.put] at hj;split at hj
   ·rename_i he;subst he;cases hj;exact ⟨hltnb,by show ex x y (g.own (g.box j))=_;rw [hb,hbx],ents',hat,hr⟩
   ·rename_i hne;obtain ⟨k1,k2,k3⟩:=h.mem.box j b hj;have hbj:g.box j≠g.box k:=by
     intro he;rw [he] at k2;rw [hb] at k2;exact hne (by injection k2 with h;exact h.symm)
    refine ⟨k1,by show ex x y (g.own (g.box j))=_;rw [k2,hbx],?_⟩;cases b with
    | mp es2 c2 =>
     obtain ⟨ents2,hh',hr'⟩:=k3;exact ⟨ents2,(hoff _ hbj).trans hh',Qqt (g:=g) hkept (fun i=>⟨by simp,fun e=>hcell j i hne e.symm⟩) hr'⟩
    | cells cs' =>
     obtain ⟨vs,e',hh',hr',ho'⟩:=k3;refine ⟨vs,e',(hoff _ hbj).trans hh',RVs_mono hkept hks hke cs' (.box j) 0 vs ⟨?_,fun e=>hx j e.symm⟩ (h.mOn j cs' hj) hr',ho'⟩;intro e;injection e with e;exact hne e
  ·obtain ⟨h3,h4⟩:=h.mem.imm b o hbo;refine ⟨by rw [hw.2.2.2];exact h3,fun j e=>?_⟩;simp only [G.re,ex] at e;split at e
   ·exact hy j e
   ·exact h4 j e
 ·refine ⟨hw.1,hw.2.1,hw.2.2.1,by rw [hw.2.2.2];exact Nat.le_refl _,hkept.imm,fun _ _=>rfl,fun b hb' ho=>?_⟩;have hne:g.own b ≠ .box k:=by intro e;rw [e] at ho;exact ho
  have hne2:g.own b≠x:=by intro e;rw [e] at ho;exact hxp ho
  exact ⟨by simp [G.re,ex,hne2],(hkept.own b ⟨hne,hne2⟩ hb').2.1,fun _=>Iff.rfl⟩
 ·intro j cs' hj;simp only [Mem.put] at hj;split at hj
  ·cases hj
  ·exact ons_mono hthere _ (h.mOn j cs' hj)
 ·intro j cs' hj hlt;simp only [Mem.put] at hj;split at hj
  ·cases hj
  ·exact h.out j cs' hj hlt
theorem Qbl3:∀ {n:Nat} {es:List (V×V×Nat)},upM n es=true→∀ x∈es,n≤x.2.2
 | _,[],_,x,hx=>by simp at hx
 | n,e::es,h,x,hx=>by
  simp only [upM,Bool.and_eq_true,decide_eq_true_eq] at h;rcases List.mem_cons.1 hx with rfl|hx
  ·exact h.1
  ·have:=Qbl3 h.2 x hx;omega
theorem Qbl4 {k:Nat} {y:Owner} {st:Nat}:∀ {n:Nat} {es:List (V×V×Nat)} {ents:List MapEntry} (i:Nat) {x:V×V×Nat} {sz:Nat} {l:List (List D)},upM n es=true→es[i]? = some x→x.2.1 = .own sz l→x.2.2=st→RM g w k es ents →
  RM (g.re (ex (.cell k st) y)) w k (modM x.1 (.d (.lst sz l)) i es) ents
 | _,[],_,i,x,sz,l,_,hx,_,_,_=>by simp at hx
 | n,e::es,_,0,x,sz,l,hu,hx,hv,hst,hr=>by
  simp only [upM,Bool.and_eq_true,decide_eq_true_eq] at hu;simp at hx;subst hx;simp only [RM] at hr;obtain ⟨q,t,rfl,⟨a1,a2⟩,⟨b1,b2⟩,h3,h4⟩:=hr;rw [hv] at b2;refine ⟨q,t,rfl,⟨a1,Q0z (g:=g) (g':=g.re (ex (.cell k st) y)) (Imm.refl _ _) a1 a2⟩,⟨rfl,?_⟩,h3,?_⟩
  ·have:=Qh8 (g:=g) (w:=w) (.own sz l) (.cell k e.2.2) (.cell k e.2.2) _ b2;exact Q0z (g:=g) (g':=g.re (ex (.cell k st) y)) (v:=.d (.lst sz l)) (Imm.refl _ _) rfl this
  ·have hlt:=Qbl3 hu.2;clear h3 a1 a2 b1 b2
   induction es generalizing t with
   | nil=>simpa [RM] using h4
   | cons z es ih =>
    simp only [RM] at h4 ⊢;obtain ⟨q2,t2,rfl,⟨a1,a2⟩,⟨b1,b2⟩,h3,h4⟩:=h4;have hz:z.2.2≠st:=by have:=hlt z (by simp);omega
    refine ⟨q2,t2,rfl,⟨a1,Q0z (g:=g) (g':=g.re (ex (.cell k st) y)) (Imm.refl _ _) a1 a2⟩,⟨b1,?_⟩,h3,?_⟩
    ·rcases Qy4 b1 with b1|⟨sz2,l2,e2⟩
     ·exact Q0z (g:=g) (g':=g.re (ex (.cell k st) y)) (Imm.refl _ _) b1 b2
     ·rw [e2] at b2 ⊢;exact Qbfd (g:=g) (g':=g.re (ex (.cell k st) y)) (Imm.refl _ _) (fun b hb _=>⟨by show ex _ _ (g.own b)=_;rw [hb];unfold ex;rw [if_neg (by intro e;injection e with _ e;exact hz e)],rfl,fun _=>Iff.rfl⟩) b2
    ·simp only [upM,Bool.and_eq_true,decide_eq_true_eq] at hu;exact ih ⟨hu.1,(by
      have:∀ {m m' : Nat} {r:List (V×V×Nat)},m'≤m→upM m r=true→upM m' r=true:=fun {m m' r} hm hr=>by
       cases r with
       | nil=>rfl
       | cons c r=>simp only [upM,Bool.and_eq_true,decide_eq_true_eq] at hr ⊢;exact ⟨by omega,hr.2⟩
      exact this (by omega) hu.2.2)⟩ t2 h4 (fun c hc=>hlt c (by simp [hc]))
 | n,e::es,_,i+1,x,sz,l,hu,hx,hv,hst,hr=>by
  simp only [upM,Bool.and_eq_true,decide_eq_true_eq] at hu;simp only [RM] at hr;obtain ⟨q,t,rfl,⟨a1,a2⟩,⟨b1,b2⟩,h3,h4⟩:=hr;have hx' : es[i]? = some x:=by simpa using hx
  have hle:=Qbl3 hu.2 x (List.mem_of_getElem? hx');refine ⟨q,t,rfl,⟨a1,Q0z (g:=g) (g':=g.re (ex (.cell k st) y)) (Imm.refl _ _) a1 a2⟩,⟨b1,?_⟩,h3,Qbl4 i hu.2 hx' hv hst h4⟩;rcases Qy4 b1 with b1|⟨sz2,l2,e2⟩
  ·exact Q0z (g:=g) (g':=g.re (ex (.cell k st) y)) (Imm.refl _ _) b1 b2
  ·rw [e2] at b2 ⊢;exact Qbfd (g:=g) (g':=g.re (ex (.cell k st) y)) (Imm.refl _ _) (fun b hb _=>⟨by show ex _ _ (g.own b)=_;rw [hb];unfold ex;rw [if_neg (by intro e1;injection e1 with _ e3;have e4:e.2.2=st:=e3;omega)],rfl,fun _=>Iff.rfl⟩) b2
theorem Qboa {t kt e:TypeId} {z:V} (ht:P.underlying t=some (.map kt e)) (h:Qblc P t=some z):z.dat=true∧∃ zv,(zeroValue e).run P w = .ok zv w∧RF g w z zv:=by
 unfold Qblc at h;rw [ht] at h;simp only at h;split at h<;>try (cases h;done)
 rename_i sz zv hna hz hi;cases h;obtain ⟨i,zv',h1,h2,h3,_⟩:=Qlk P hz;rw [h1] at hi;simp only [Option.bind_some] at hi;rw [h2] at hi;cases hi;refine ⟨rfl,_,Qy8 P h1 h2 w,?_⟩;have hc:=h3 g w;have hcells:zv.cells.toList=[zv]:=by
  cases zv<;>first|rfl|exact absurd rfl (hna _ _ hz)|skip
  all_goals simp_all [Value.cells]
 rw [hcells] at hc;exact hc.rf 0 _ _ rfl rfl
theorem Qbke (h:SR n0 nt g0 w0 σ a w g) {dst:Option Nat} (hd:∀ d,dst=some d→d<nt) (t:TypeId) {kt:TypeId} {kd:MK} {z z0:V} (hmk:Qj1 P t=some (kt,kd,z0)) (hzn:Qblc P t=some z) {x y v:V} {um uk:Value} {κ:Nat} {M' : Mem}
  (hx:RF g w x um) (hy:RF g w y uk) (hs:Qn n0 κ (.lookupT kd z) [x,y] σ.M=some (v,M')) :
  ∃ val g',(Instr.lookup t um uk false).run P w = .ok val w∧SR n0 nt g0 w0 ⟨Qbf σ.s dst v,M',σ.nb⟩ (a.put dst val) w g':=by
 obtain ⟨b,key,es,cl,hxs,hMk,hk1,hk2,hup,hres⟩:=Q62 hs;cases hxs;have hum:=Qbic hx;subst hum;obtain ⟨et,ht,hkk,hz,_⟩:=Qto P hmk;obtain ⟨_,hown,ents,hh,hr⟩:=h.mem.box b _ hMk;have hlaw:=Qbck (g:=g) (w:=w) P hkk;obtain ⟨_,zv,hzr,hzf⟩:=Qboa (g:=g) (w:=w) P ht hzn;have hck:∀ em,(Instr.checkKey em 10000 kt uk).run P w = .ok () w:=fun em=>hlaw.check em hk1 hy;rcases Qbcl P hlaw hk1 hy hr hk2 with ⟨f1,f2⟩|⟨j,v',e,x,f1,f2,f3,f4,f5,f6,f7,f8,f9⟩
 ·rcases hres with ⟨i,sz,l,e,h1,_⟩|⟨h1,h2,rfl,rfl⟩
  ·rw [f1] at h1;cases h1
  ·refine ⟨zv,g,?_,h.pure hd (fun _ _=>hzf _) (Q2l h2)⟩;have hfk:=f2;simp [Instr.lookup,run_underlying ht,MapKept.run_getObj_map hh,hck,hfk,hzr,Result.andThen]
 ·rcases hres with ⟨i,sz,l,e0,h1,h2,rfl,rfl⟩|⟨h1,_⟩
  ·rw [f1] at h1;cases h1;rw [f2] at h2;cases h2;have hfk:=f7;refine ⟨e.val,g.re (ex (.cell b x.2.2) (.slot (dst.getD 0) [])),?_,?_⟩
   ·simp [Instr.lookup,run_underlying ht,MapKept.run_getObj_map hh,hck,hfk,Result.andThen]
   ·have hkx:=Kept.ex g w (.cell b x.2.2) (.slot (dst.getD 0) []) (There σ.M);refine h.mapre hMk (x:=.cell b x.2.2) (by simp) (by simp [Prot]) (by simp) (by simp) ?_ ?_ (fun _ _=>rfl) hh ⟨rfl,rfl,rfl,rfl⟩ (Qbl4 j hup f2 f3 rfl hr) (Qfe (fun d' hd'=>by rw [h.size];exact hd d' hd') (fun t ht=>?_) (fun d' hd'=>?_)) (Qgh _ _ _) (Qd3 _ _ _) (Qff h.onS trivial)
    ·intro o i h1 h2;cases o<;>simp_all [Owner.sub]
    ·intro j' i hne e;injection e with e _;exact hne e.symm
    ·have hk' : Kept g w (g.re (ex (.cell b x.2.2) (.slot (dst.getD 0) []))) w (There σ.M) (fun o=>(∃ t q,o = .slot t q)∨o = .ext) :=
      hkx.weaken (fun _ h=>h) (by rintro o (⟨t,q,rfl⟩|rfl)<;>simp)
     refine Qe8 hk' ?_ (.inr rfl) _ _ _ (.inl ⟨t,[],rfl⟩) (h.onS t) (h.slots t);rintro ℓ i' (⟨t,q,rfl⟩|rfl)
     ·exact .inl ⟨t,i'::q,rfl⟩
     ·exact .inr rfl
    ·simp only [hd',Option.getD_some];exact Qbba f9
  ·rw [f1] at h1;cases h1
theorem Qbkf (h:SR n0 nt g0 w0 σ a w g) (t:TypeId) {kt:TypeId} {kd:MK} {z:V} (hmk:Qj1 P t=some (kt,kd,z)) {x y v:V} {um uk:Value} {t0:Nat} {κ:Nat} {M' : Mem}
  (hx:RF g w x um) (hy:RF g w y uk) (hs:Qn n0 κ (.mapsetT kd) [x,y,σ.s t0] σ.M=some (v,M')) :
  ∃ w' g',(Instr.mapUpdate t um uk (a.tmps.getD t0 undef)).run P w = .ok () w'∧SR n0 nt g0 w0 ⟨σ.s.put t0 (σ.s t0).dem,M',σ.nb⟩ a w' g':=by
 obtain ⟨b,key,sz,l,es,cl,hxs,hMk,hk1,hk2,rfl,rfl⟩:=Q63 hs;simp only [List.cons.injEq,and_true] at hxs;obtain ⟨rfl,rfl,hv⟩:=hxs;have hum:=Qbic hx;subst hum;obtain ⟨et,ht,hkk,hz,hzd⟩:=Qto P hmk;obtain ⟨_,hown,ents,hh,hr⟩:=h.mem.box b _ hMk;have hlaw:=Qbck (g:=g) (w:=w) P hkk;have hck:∀ em,(Instr.checkKey em 10000 kt uk).run P w = .ok () w:=fun em=>hlaw.check em hk1 hy;have hst:=hlaw.stays hk1 hy;have hslot:=h.slots t0;rw [hv] at hslot;have fin:∀ (st cl' : Nat) (es' : List (V×V×Nat)) (ents' : List MapEntry),(∀ {w' : World},Imm g.imm g.imm w w'→(∀ c,c≠g.box b→w'.heap[c]? = w.heap[c]?)→RM (g.re (ex (.slot t0 []) (.cell b st))) w' b es' ents') →
   SR n0 nt g0 w0 ⟨σ.s.put t0 (σ.s t0).dem,σ.M.put b (.mp es' cl'),σ.nb⟩ a { w with heap:=w.heap.setIfInBounds (g.box b) (.map ents'.toArray cl') } (g.re (ex (.slot t0 []) (.cell b st))):=by
  intro st cl' es' ents' hrm;obtain ⟨hs1,hs2⟩:=heap_set (o':=.map ents'.toArray cl') hh;have hkx:=Kept.ex g w (.slot t0 []) (.cell b st) (There σ.M);have himm:Imm g.imm g.imm w { w with heap:=w.heap.setIfInBounds (g.box b) (.map ents'.toArray cl') }:=⟨fun _ _ h=>h,fun c o hco=>by
   have:c≠g.box b:=by rintro rfl;exact (h.mem.imm _ _ hco).2 b hown
   exact Qfp (hs2 c this)⟩
  have hkept:Kept g w (g.re (ex (.slot t0 []) (.cell b st))) { w with heap:=w.heap.setIfInBounds (g.box b) (.map ents'.toArray cl') } (There σ.M) (fun o=>o ≠ .box b∧o ≠ .slot t0 []) :=
   ⟨himm,fun _ _=>rfl,fun c hc _=>⟨by simp [G.re,ex,hc.2],hs2 c (by rintro rfl;exact hc.1 hown),fun _=>Iff.rfl⟩⟩
  have hks:∀ (o:Owner) i,o ≠ .box b∧o ≠ .slot t0 []→o.sub i ≠ .box b∧o.sub i ≠ .slot t0 []:=fun o i ho=>⟨Qte ho.1,by cases o<;>simp_all [Owner.sub]⟩;refine h.mapre (w':={ w with heap:=w.heap.setIfInBounds (g.box b) (.map ents'.toArray cl') }) hMk (x:=.slot t0 []) (by simp) (by simp [Prot]) (by simp) (by simp) (fun o i h1 h2=>(hks o i ⟨h1,h2⟩).2) (by simp) hs2 hs1 ⟨rfl,rfl,rfl,by simp⟩ (hrm himm hs2) (fun t=>?_) rfl rfl (fun t=>?_)
  ·simp only [Sl.put];split
   ·rename_i he;subst he;rw [hv];have:=Qh8 (g:=g) (w:=w) (.own sz l) (.slot t []) (.slot t []) _ hslot;exact Q0z (g:=g) (g':=g.re (ex (.slot t []) (.cell b st))) (v:=.d (.lst sz l)) himm rfl this
   ·rename_i hne;exact Qe8 hkept hks ⟨by simp,by simp⟩ _ _ _ ⟨by simp,by simp [hne]⟩ (h.onS t) (h.slots t)
  ·simp only [Sl.put];split
   ·exact (Qdw _).2 (h.onS t0)
   ·exact h.onS t
 have hrm0:∀ (st:Nat) {w' : World},Imm g.imm g.imm w w'→(∀ c,c≠g.box b→w'.heap[c]? = w.heap[c]?)→RM (g.re (ex (.slot t0 []) (.cell b st))) w' b es ents:=fun st {w'} hi hc =>
  Qbgh (g:=g) (g':=g.re (ex (.slot t0 []) (.cell b st))) hi (fun c i hci _=>⟨by show ex _ _ (g.own c)=_;rw [hci];unfold ex;rw [if_neg (by simp)],hc c (by rintro rfl;rw [hown] at hci;cases hci),fun _=>Iff.rfl⟩) hr
 have hval:∀ (st:Nat) {w' : World},Imm g.imm g.imm w w'→(∀ c,c≠g.box b→w'.heap[c]? = w.heap[c]?)→RV (g.re (ex (.slot t0 []) (.cell b st))) w' (.own sz l) (.cell b st) (a.tmps.getD t0 undef):=fun st {w'} hi hc=>by
  have:=Qbba (b:=.cell b st) hslot;refine Qbfd (g:=g.re (ex (.slot t0 []) (.cell b st))) (g':=g.re (ex (.slot t0 []) (.cell b st))) (w:=w) hi (fun c hco _=>⟨hco,hc c ?_,fun _=>Iff.rfl⟩) this;rintro rfl;have h2:ex (.slot t0 []) (.cell b st) (g.own (g.box b)) = .cell b st:=hco;rw [hown] at h2;unfold ex at h2;rw [if_neg (by simp)] at h2;cases h2
 have hkey:∀ (st:Nat) {w' : World},Imm g.imm g.imm w w'→RV (g.re (ex (.slot t0 []) (.cell b st))) w' y .ext uk:=fun st {w'} hi=>Q0z (g:=g) (g':=g.re (ex (.slot t0 []) (.cell b st))) hi (Qbcn hk1) (hy .ext);rcases Qbcl P hlaw hk1 hy hr hk2 with ⟨f1,f2⟩|⟨j,v',e,x,f1,f2,f3,f4,f5,f6,f7,f8,f9⟩
 ·have hfk:=f2;rw [f1];refine ⟨_,_,?_,fin cl (cl+1) _ (ents++[{ key:=uk,val:=a.tmps.getD t0 undef,born:=cl }]) (fun hi hc=>Qbcm (hrm0 cl hi hc) (Qbcn hk1) (hkey cl hi) rfl (hval cl hi hc))⟩;simp [Instr.mapUpdate,run_underlying ht,MapKept.run_getObj_map hh,hck,hfk,MapKept.run_setObj_map _ hh,Result.andThen]
 ·have hfk:=f7;rw [f1];refine ⟨_,_,?_,fin x.2.2 cl _ (ents.modify j fun q=>{ q with key:=uk,val:=a.tmps.getD t0 undef }) (fun hi hc=>Qbgr (Qbcn hk1) (hkey _ hi) rfl j (fun y hy'=>by rw [f2] at hy';cases hy';exact hval _ hi hc) (hrm0 _ hi hc))⟩;have hj:ents[j]? = some e:=f4;simp [Instr.mapUpdate,run_underlying ht,MapKept.run_getObj_map hh,hck,hfk,hj,f5,hst,MapKept.run_setObj_map _ hh,Result.andThen,Qo5]
end
end Go.Abs
end
section
namespace Go.Abs
open Go
section
variable (P:Program) {g:G} {w:World} {n0 nt:Nat} {g0:G} {w0:World} {σ:St} {a:Act}
theorem Qhu (s:Sem Value) {val:Value} {w' : World} (h:s.run P w = .ok val w'):((do pure (Next.value (← s)):Sem Next)).run P w = .ok (.value val) w':=by simp [h]
theorem Qbie (s:Sem Unit) {w' : World} (h:s.run P w = .ok () w'):((do s;pure Next.skip:Sem Next)).run P w = .ok .skip w':=by simp [h]
theorem Qbjg {s s' : Sl} {M:Mem} {nb:Nat} {a:Act} (h:SR n0 nt g0 w0 ⟨s,M,nb⟩ a w g) (he:∀ i,s' i=s i):SR n0 nt g0 w0 ⟨s',M,nb⟩ a w g:=by
 have:s'=s:=funext he;rw [this];exact h
theorem Qbbv (ps:Array (Nat×Operand)) (f:Operand→Value):((ps.toList.map (·.1)).zip ((ps.toList.map (·.2)).map f)).toArray=ps.map fun (i,x)=>(i,f x):=by
 apply Array.ext';simp only [Array.toList_map]
 induction ps.toList with
 | nil=>rfl
 | cons p l ih=>simp only [List.map_cons,List.zip_cons_cons,ih]
theorem Qbr6 {s s' : Sl} {M:Mem} {nb:Nat} {a:Act} (h:SR n0 nt g0 w0 ⟨s,M,nb⟩ a w g) (he:∀ i,s' i=s i∨s' i=(s i).dem):SR n0 nt g0 w0 ⟨s',M,nb⟩ a w g:={
 mem:=h.mem
 slots:=fun t=>by
  rcases he t with e|e
  ·show RV g w (s' t) _ _;rw [e];exact h.slots t
  ·show RV g w (s' t) _ _;rw [e];exact Qh8 _ _ _ _ (h.slots t)
 size:=h.size
 defers:=h.defers
 onS:=fun t=>by
  rcases he t with e|e
  ·show (s' t).on _;rw [e];exact h.onS t
  ·show (s' t).on _;rw [e];exact (Qdw _).2 (h.onS t)
 onM:=h.onM
 top:=h.top
 fr:=h.fr }
theorem Qbp5 (args:Array Operand) (f:Operand→Value) (hs:args.size=1):∃ u,args.map f = #[u]∧args.toList.map f=[u]:=by
 cases args with
 | mk l =>
  match l,hs with
  | [x],_=>exact ⟨f x,by simp,by simp⟩
theorem Qbob (ts:Array TypeId) (hs:ts.size=1):ts = #[ts.getD 0 0]:=by
 cases ts with
 | mk l =>
  match l,hs with
  | [x],_=>simp
theorem Qbl5 (args:Array Operand) (f:Operand→Value) (hs:args.size=2):∃ u v,args.map f = #[u,v]∧args.toList.map f=[u,v]:=by
 cases args with
 | mk l =>
  match l,hs with
  | [x,y],_=>exact ⟨f x,f y,by simp,by simp⟩
theorem Qbl6 {u:Value} {xs:List V} (h:RFs g w xs [u]):∃ x,xs=[x]∧RF g w x u:=by
 match xs,h with
 | x::xs,⟨u',us,e,r,h⟩ =>
  simp only [List.cons.injEq] at e;obtain ⟨rfl,rfl⟩:=e;have hl:=Qg3 h;have:xs=[]:=List.eq_nil_of_length_eq_zero (by simpa using hl.symm);subst this;exact ⟨x,rfl,r⟩
theorem Qbcp {u v:Value} {xs:List V} (h:RFs g w xs [u,v]):∃ x y,xs=[x,y]∧RF g w x u∧RF g w y v:=by
 match xs,h with
 | x::xs,⟨u',us,e,r,h⟩ =>
  simp only [List.cons.injEq] at e;obtain ⟨rfl,rfl⟩:=e;obtain ⟨y,rfl,r'⟩:=Qbl6 h;exact ⟨x,y,rfl,r,r'⟩
theorem Qbcq {u v x:Value} {xs:List V} (h:RFs g w xs [u,v,x]):∃ a b c,xs=[a,b,c]∧RF g w a u∧RF g w b v∧RF g w c x:=by
 match xs,h with
 | [a,b,c],⟨u1,us1,e1,r1,u2,us2,e2,r2,u3,us3,e3,r3,e4⟩ =>
  simp only [List.cons.injEq] at e1;obtain ⟨rfl,rfl⟩:=e1;simp only [List.cons.injEq] at e2;obtain ⟨rfl,rfl⟩:=e2;simp only [List.cons.injEq] at e3;obtain ⟨rfl,rfl⟩:=e3;exact ⟨a,b,c,rfl,r1,r2,r3⟩
 | [],h=>simp [RFs] at h
 | [_],⟨_,_,e1,_,e2⟩=>simp only [RFs] at e2;subst e2;simp at e1
 | [_,_],⟨_,_,e1,_,_,_,e2,_,e3⟩=>simp only [RFs] at e3;subst e3;subst e2;simp at e1
 | _::_::_::_::_,⟨_,_,e1,_,_,_,e2,_,_,_,e3,_,_,_,e4,_⟩=>subst e4;subst e3;subst e2;simp at e1
theorem Qbq8 {nt:Nat} {dst:Option Nat} (h:∀ d,dst=some d→d<nt) (h0:0<nt):dst.getD 0<nt:=by
 cases dst with
 | none=>exact h0
 | some d=>exact h d rfl
theorem Qbcr (h:SR n0 nt g0 w0 σ a w g) {ctx:Nat→TypeId} {m k x:Operand} {as:List Arg} (has:Qes P ctx 0 [m,k,x]=some as) {L:List Nat} (hT:inL L (tmpO x)=true) (t:TypeId) {kt:TypeId} {kd:MK} {z:V} (hmk:Qj1 P t=some (kt,kd,z)) {v:V} {κ:Nat} {M' : Mem}
  (hst:Qn n0 κ (.mapsetT kd) (as.map (·.val σ.s)) σ.M=some (v,M')) :
  ∃ w' g',(Instr.mapUpdate t (a.eval m) (a.eval k) (a.eval x)).run P w = .ok () w'∧SR n0 nt g0 w0 ⟨Q7 σ.s as (Qbu (.mapsetT kd) (as.map (·.val σ.s))),M',σ.nb⟩ a w' g':=by
 obtain ⟨t0,rfl⟩ : ∃ t0,x = .tmp t0:=by
  cases x<;>simp [tmpO,inL] at hT;exact ⟨_,rfl⟩
 simp only [Qes] at has;cases hm:Qe7 P (ctx 0) m with
 | none=>rw [hm] at has;cases has
 | some am =>
  cases hk:Qe7 P (ctx (0+1)) k with
  | none=>rw [hm,hk] at has;simp at has
  | some ak =>
   rw [hm,hk] at has;simp only [Qe7,Option.some.injEq] at has;subst has;obtain ⟨m1,m2⟩:=Qg6 P h hm;obtain ⟨k1,k2⟩:=Qg6 P h hk;simp only [List.map_cons,List.map_nil,Arg.val] at hst;obtain ⟨b,key,sz,l,es,cl,hxs,hMk,hk1,hk2,rfl,rfl⟩:=Q63 hst;simp only [List.cons.injEq,and_true] at hxs;obtain ⟨e1,e2,e3⟩:=hxs;have q1:(am.val σ.s).dem=am.val σ.s:=by
    have:am.val σ.s = .mp b:=e1;rw [this];rfl
   have q2:(ak.val σ.s).dem=ak.val σ.s:=by
    have:ak.val σ.s=key:=e2;rw [this];exact Q60 (Qblz hk1)
   rw [q1] at m1;rw [q2] at k1;obtain ⟨w',g',hr,hsr⟩:=Qbkf P h t hmk m1 k1 (t0:=t0) hst;refine ⟨w',g',hr,Qbjg hsr fun i=>?_⟩;simp only [List.map_cons,List.map_nil,Qbu,Q7,Arg.putTo,Sl.put];by_cases hi:i=t0
   ·simp only [hi,if_true];rfl
   ·simp only [hi,if_false];cases ak with
    | c v =>
     cases am with
     | c u=>rfl
     | t im =>
      simp only [Sl.put];split
      ·rename_i he;subst he;rfl
      ·rfl
    | t ik =>
     simp only [Sl.put];split
     ·rename_i he;subst he;rfl
     ·cases am with
      | c u=>rfl
      | t im =>
       simp only [Sl.put];split
       ·rename_i he;subst he;rfl
       ·rfl
theorem Qct (h:SR n0 nt g0 w0 σ a w g) {o:Oper} (hd:∀ d,o.dst=some d→d<nt) {k:K} (hz:k.okz) {as:List Arg} {v:V} {M' : Mem} {κ:Nat}
  (hs:Qn n0 κ k (V.dems (as.map (·.val σ.s))) σ.M=some (v,M')) (hon:V.ons (There σ.M) (V.dems (as.map (·.val σ.s)))) (hr:M'=σ.M∧∃ val,(execOp a.eval o).run P w = .ok (.value val) w∧RF g w v val) :
  Gives P n0 nt g0 w0 o a w ⟨Qbf σ.s o.dst v,M',σ.nb⟩:=by
 obtain ⟨rfl,val,hrun,hrf⟩:=hr;exact .inl ⟨val,w,g,hrun,h.pure hd (fun _ _=>hrf _) (Qbfi hz hs hon h.mOn).1⟩
theorem Qbq9 (h:SR n0 nt g0 w0 σ a w g) {d:Nat} (hd:d<nt) (t e:TypeId) (ht:P.underlying t=some (.slice e)) {z0:V} (hz:Q02 P e=some [z0]) (h1:P.cellsOf e=1) {x:D} {u:Value} (hx:RF g w (.d x) u) :
  ∃ val w' g',(Instr.buildSlice t 1 #[(0,u)]).run P w = .ok val w'∧SR n0 nt g0 w0 ⟨Qbf σ.s (some d) (.own 1 [[x]]),σ.M,σ.nb⟩ (a.put (some d) val) w' g':=by
 obtain ⟨i,zv,hi,hzv,hcz,hlt⟩:=Qlk P hz;have hcl:=(hcz g w).len;have hzs:zv.cells.size=1:=by simpa using hcl
 obtain ⟨out,hfill,hcr⟩:=Q4p (g:=g) (w:=w) (fun i=>some (i*1,1)) (rep 1 [z0]) _ (CR.rep (hcz g w) 1) [0] [0] [1] [.d x] [u] ⟨u,[],rfl,hx,rfl⟩ (fun y hy=>by simp only [List.mem_singleton] at hy;subst hy;rfl) rfl rfl rfl
  (fun j y i o s hxj hij hoj hsj=>by
   cases j with
   | succ j=>simp at hxj
   | zero =>
    simp only [List.getElem?_cons_zero,Option.some.injEq] at hxj hij hoj hsj;subst hxj hij hoj hsj;exact ⟨rfl,rfl,by simp [rep],rfl⟩)
 have e1:Qjl (rep 1 [z0]) (([0].zip [V.d x]).map fun p=>(p.1,p.2.cells))=[.d x]:=rfl;rw [e1] at hcr;have hl:=hcr.len
 match out,hl,hcr with
 | [v],_,hcr =>
  obtain ⟨g',hsr⟩:=h.newlit hd (RF_d.1 (hcr.rf 0 (.d x) v rfl rfl)) (hcr.one v (by simp)) e;refine ⟨_,_,g',?_,hsr⟩;have hm:=Qzc zv.cells (by omega) 1;rw [hzs] at hm;unfold madeCells at hm;have hso:∀ w,(sizeOf e).run P w = .ok (P.cellsOf e) w:=fun w=>by rw [Qg4 P hi,Qe5 P hi]
  rw [← hm] at hfill;simp only [List.zip_cons_cons,List.zip_nil_left,hzs,Nat.mul_one] at hfill;simp [Instr.buildSlice,run_underlying ht,hso,Qy8 P hi hzv,h1,hzs,newRow];rw [hfill];simp
theorem Qbkg {κ sz:Nat} {x i v:V} {M M' : Mem} (hs:Qn n0 κ (.slcT sz) [x,i] M=some (v,M')) :
  M'=M∧∃ k n l,i = .d (.int k n)∧0≤n∧n≤(l.length:Int)∧((x = .d (.lst sz l)∧v = .d (.lst sz (l.drop n.toNat)))∨((x = .ownT sz l∨x = .own sz l)∧v = .ownT sz (l.drop n.toNat))):=by
 cases i
 case d di =>
  cases di
  case int k n =>
   cases x
   case d dx =>
    cases dx
    case lst sz' l =>
     simp only [Qn] at hs;split at hs<;>cases hs;rename_i hc;simp only [Bool.and_eq_true,decide_eq_true_eq] at hc;obtain ⟨⟨rfl,n1⟩,n2⟩:=hc;exact ⟨rfl,k,n,l,rfl,n1,n2,.inl ⟨rfl,rfl⟩⟩
    all_goals (simp [Qn] at hs)
   case own sz' l =>
    simp only [Qn] at hs;split at hs<;>cases hs;rename_i hc;simp only [Bool.and_eq_true,decide_eq_true_eq] at hc;obtain ⟨⟨rfl,n1⟩,n2⟩:=hc;exact ⟨rfl,k,n,l,rfl,n1,n2,.inr ⟨.inr rfl,rfl⟩⟩
   case ownT sz' l =>
    simp only [Qn] at hs;split at hs<;>cases hs;rename_i hc;simp only [Bool.and_eq_true,decide_eq_true_eq] at hc;obtain ⟨⟨rfl,n1⟩,n2⟩:=hc;exact ⟨rfl,k,n,l,rfl,n1,n2,.inr ⟨.inl rfl,rfl⟩⟩
   all_goals (simp [Qn] at hs)
  all_goals (simp [Qn] at hs)
 all_goals (simp [Qn] at hs)
theorem Qbp6 (h:SR n0 nt g0 w0 σ a w g) (t e:TypeId) (ht:P.underlying t=some (.slice e)) (h0:P.cellsOf e≠0) (t0 d:Nat) (hd:d<nt) {lv:Operand} {a1:Arg} (ha1:Qe7 P t lv=some a1) {κ:Nat} {v:V} {M' : Mem}
  (hst:Qn n0 κ (.slcT (P.cellsOf e)) [Arg.val σ.s (.t t0),a1.val σ.s] σ.M=some (v,M')) :
  ∃ val g',(Instr.sliceAt t (a.eval (.tmp t0)) (some (a.eval lv)) none none).run P w = .ok val w ∧
   SR n0 nt g0 w0 ⟨Qbf (Q7 σ.s [Arg.t t0,a1] (Qbu (.slcT (P.cellsOf e)) [Arg.val σ.s (.t t0),a1.val σ.s])) (some d) v,M',σ.nb⟩ (a.put (some d) val) w g':=by
 obtain ⟨hi1,hi2⟩:=Qg6 P h ha1;obtain ⟨rfl,k,n,l,hiv,n1,n2,hcase⟩:=Qbkg hst;rw [hiv] at hi1;have hev:a.eval lv = .int k n:=Qtm hi1;have hsl:∀ j,Q7 σ.s [Arg.t t0,a1] (Qbu (.slcT (P.cellsOf e)) [Arg.val σ.s (.t t0),a1.val σ.s]) j=σ.s.put t0 (σ.s t0).dem j:=by
  intro j;simp only [Qbu,Q7,Arg.putTo];cases a1 with
  | c c=>rfl
  | t t1 =>
   simp only [Arg.val] at hiv ⊢;simp only [Sl.put];by_cases hj:j=t1
   ·subst hj;rw [if_pos rfl];split
    ·rename_i he;subst he;rw [hiv];rfl
    ·rfl
   ·rw [if_neg hj]
 rw [hev,funext hsl];have hslot:=h.slots t0;have hae:a.eval (.tmp t0)=a.tmps.getD t0 undef:=rfl;rw [hae];rcases hcase with ⟨hx,rfl⟩|⟨hx,rfl⟩
 ·rw [show σ.s t0=_ from hx] at hslot;obtain ⟨_,val,hr,hrf⟩:=Qbi3 (n0:=0) (κ:=0) (M:=σ.M) P t e ht h0 (some (.int k n)) none (bs:=[.d (.int k n)]) (Q2m hslot) ⟨_,_,rfl,RF_d.2 (by simp [RD]),rfl⟩ (v:=.d (.lst (P.cellsOf e) (l.drop n.toNat))) (M':=σ.M) (by
   rw [Q61];simp only [Option.isSome,Qo8,Option.getD,V.dem];rw [if_pos (by simp [n1,n2])];simp)
  obtain ⟨g',hsr⟩:=Qbja h t0 d hd (hrf _) trivial;exact ⟨val,g',hr,hsr⟩
 ·have hrv:RV g w (.ownT (P.cellsOf e) l) (.slot t0 []) (a.tmps.getD t0 undef):=by
   rcases hx with hx|hx
   ·rwa [show σ.s t0=_ from hx] at hslot
   ·rw [show σ.s t0=_ from hx] at hslot;exact Qbh4 hslot
  obtain ⟨val,hr,hv⟩:=Qbn6 P t e ht h0 hrv k n n1 n2;obtain ⟨g',hsr⟩:=Qbja h t0 d hd hv trivial;exact ⟨val,g',hr,hsr⟩
set_option maxHeartbeats 1000000 in
theorem Qbkh {T:Tk} {ops:Array Oper} {o:Oper} {c:COp} (hc:Qjm P T nt ops o=some c) (hcall:c.kind.isCall=false) (hnil:c.kind.isNil=false)
  (h:SR n0 nt g0 w0 σ a w g) {σ' : St} (hs:c.step n0 σ=some σ'):Gives P n0 nt g0 w0 o a w σ':=by
 obtain ⟨k,as,tk,hk,hd,hnt,hcd,hck,hca,hct⟩ : ∃ k as tk,Qlj P T o=some (k,as,tk)∧(∀ d,o.dst=some d→d<nt)∧0<nt∧c.dst=o.dst∧c.kind=k∧c.args=as∧c.tk=tk:=by
  unfold Qjm at hc;split at hc<;>try (cases hc;done)
  rename_i k as tk hk;split at hc<;>try (cases hc;done)
  rename_i hcond;simp only [Bool.and_eq_true,decide_eq_true_eq] at hcond;refine ⟨k,as,tk,hk,fun d hd=>?_,hcond.1.1,?_⟩
  ·have:=hcond.1.2;rw [hd] at this;simpa [Qbnx] using this
  ·split at hc
   ·cases hc;exact ⟨rfl,rfl,rfl,rfl⟩
   ·split at hc<;>cases hc;exact ⟨rfl,rfl,rfl,rfl⟩
 have hz:=Qbgn P hk;simp only [COp.step,COp.xs,hcd,hck,hca,hct] at hs;rw [hck] at hcall hnil;clear hcd hck hca hct hc;have hκ:n0≤n0+o.dst.getD 0:=by omega
 have hκ' : n0+o.dst.getD 0<σ.nb:=by
  have h1:=h.top;have h2:=Qbq8 hd hnt;omega
 generalize n0+o.dst.getD 0=κ at hs hκ hκ';have plain:tk=false→∃ v M',Qn n0 κ k (V.dems (as.map (·.val σ.s))) σ.M=some (v,M')∧σ'=⟨Qbf σ.s o.dst v,M',σ.nb⟩:=by
  rintro rfl;simp only [Bool.false_eq_true,if_false] at hs;split at hs<;>cases hs;rename_i v M heq;exact ⟨v,M,heq,rfl⟩
 unfold Qlj at hk;cases hop:o.op<;>rw [hop] at hk<;>simp only at hk<;>try (cases hk;done)
 case move x =>
  simp only [Option.map_eq_some_iff,Prod.mk.injEq] at hk;obtain ⟨ar,har,rfl,rfl,htk⟩:=hk;cases tk with
  | false =>
   obtain ⟨v,M',hst,rfl⟩:=plain rfl;obtain ⟨h1,h2⟩:=Qg6 P h har;refine Qct P h hd hz hst ⟨(Qdw _).2 h2,trivial⟩ ?_;simp only [List.map_cons,List.map_nil,V.dems,Qn,Option.some.injEq,Prod.mk.injEq] at hst;obtain ⟨rfl,rfl⟩:=hst;exact ⟨rfl,_,by simp [execOp,hop],h1⟩
  | true =>
   rcases Q8v P h har with ⟨t,rfl,rfl,h1,h2⟩|⟨hx,cv,rfl,hc1,hc2⟩
   ·cases hdst:o.dst with
    | none=>simp [hdst,inL,Qbdt] at htk
    | some d =>
     simp only [if_true,List.map_cons,List.map_nil,Qn,Arg.val,Qbu] at hs;cases hs;obtain ⟨g',hsr⟩:=Qblt h t d (hd d hdst);refine .inl ⟨_,w,g',by simp only [execOp,hop];rfl,?_⟩;rw [hdst];exact hsr
   ·simp only [if_true,List.map_cons,List.map_nil,Qn,Arg.val,Qbu] at hs;cases hs;refine .inl ⟨_,w,g,by simp only [execOp,hop];rfl,?_⟩;exact h.pure hd (fun _ _=>hc1 _) hc2
 case assign x =>
  simp only [Option.map_eq_some_iff,Prod.mk.injEq] at hk;obtain ⟨ar,har,rfl,rfl,htk⟩:=hk;cases tk with
  | false =>
   obtain ⟨v,M',hst,rfl⟩:=plain rfl;obtain ⟨h1,h2⟩:=Qg6 P h har;refine Qct P h hd hz hst ⟨(Qdw _).2 h2,trivial⟩ ?_;simp only [List.map_cons,List.map_nil,V.dems,Qn,Option.some.injEq,Prod.mk.injEq] at hst;obtain ⟨rfl,rfl⟩:=hst;exact ⟨rfl,_,by simp [execOp,hop],h1⟩
  | true =>
   rcases Q8v P h har with ⟨t,rfl,rfl,h1,h2⟩|⟨hx,cv,rfl,hc1,hc2⟩
   ·simp only [if_true,List.map_cons,List.map_nil,Qn,Arg.val,Qbu] at hs;cases hs;cases hdst:o.dst with
    | none =>
     refine .inl ⟨_,w,g,by simp only [execOp,hop];rfl,?_⟩;rw [hdst];refine h.step h.mem (Fr.refl _ _ _) (fun t'=>?_) (Qgh _ _ _) (Qd3 _ _ _) (fun t'=>?_) h.mOn h.out
     ·simp only [Qbf,Q7,Arg.putTo,Sl.put,Act.put];split
      ·rename_i he;subst he;exact Qh8 _ _ _ _ (h.slots t')
      ·exact h.slots t'
     ·simp only [Qbf,Q7,Arg.putTo,Sl.put];split
      ·exact (Qdw _).2 h2
      ·exact h.onS t'
    | some d =>
     obtain ⟨g',hsr⟩:=Qblt h t d (hd d hdst);refine .inl ⟨_,w,g',by simp only [execOp,hop];rfl,?_⟩;rw [hdst];exact hsr
   ·simp only [if_true,List.map_cons,List.map_nil,Qn,Arg.val,Qbu] at hs;cases hs;refine .inl ⟨_,w,g,by simp only [execOp,hop];rfl,?_⟩;exact h.pure hd (fun _ _=>hc1 _) hc2
 case pick x y z =>
  simp only [Option.map_eq_some_iff,Prod.mk.injEq] at hk;obtain ⟨as',has,rfl,rfl,rfl⟩:=hk;obtain ⟨v,M',hst,rfl⟩:=plain rfl;obtain ⟨h1,h2⟩:=Qd5 P h _ _ _ _ has;refine Qct P h hd hz hst h2 ?_;generalize V.dems (as'.map (·.val σ.s))=xs at hst h1
  match xs,h1 with
  | [x',y',z'],⟨u1,us1,e1,r1,u2,us2,e2,r2,u3,us3,e3,r3,e4⟩ =>
   simp only [List.map_cons,List.map_nil,List.cons.injEq] at e1;obtain ⟨rfl,rfl⟩:=e1;simp only [List.cons.injEq] at e2;obtain ⟨rfl,rfl⟩:=e2;simp only [List.cons.injEq] at e3;obtain ⟨rfl,rfl⟩:=e3;obtain ⟨hM,val,hr,hrf⟩:=Qbpz P r1 r2 r3 hst;exact ⟨hM,val,by simpa [execOp,hop] using hr,hrf⟩
 case alloc e =>
  simp only [Option.map_eq_some_iff,Prod.mk.injEq] at hk;obtain ⟨z,hze,rfl,rfl,rfl⟩:=hk;obtain ⟨v,M',hst,rfl⟩:=plain rfl;obtain ⟨val,w',g',hr,hsr⟩:=Qbn4 P h hd e hze hκ hκ' hst;exact .inl ⟨val,w',g',by simp only [execOp,hop];exact Qhu P _ hr,hsr⟩
 case box e x =>
  simp only [Option.map_eq_some_iff,Prod.mk.injEq] at hk;obtain ⟨ar,har,rfl,rfl,rfl⟩:=hk;obtain ⟨v,M',hst,rfl⟩:=plain rfl;obtain ⟨h1,h2⟩:=Qg6 P h har;obtain ⟨val,w',g',hr,hsr⟩:=Qbq6 P h hd e hκ hκ' (Qd8 _) h1 ((Qdw _).2 h2) hst;exact .inl ⟨val,w',g',by simp only [execOp,hop];exact Qhu P _ hr,hsr⟩
 case load t x =>
  split at hk<;>try (cases hk;done)
  rename_i ar har;obtain ⟨h1,h2⟩:=Qg6 P h har;split at hk
  ·rename_i hsl;simp only [Option.some.injEq,Prod.mk.injEq] at hk;obtain ⟨rfl,rfl,rfl⟩:=hk;obtain ⟨v,M',hst,rfl⟩:=plain rfl;simp only [Bool.and_eq_true] at hsl;have ht:∃ e,P.underlying t=some (.slice e):=by
    have:=hsl.1;unfold Qy2 at this;split at this
    ·exact ⟨_,by assumption⟩
    ·cases this
   obtain ⟨e,ht⟩:=ht;obtain ⟨val,g',hr,hsr⟩:=Qbn7 P h hd t e ht h1 ((Qdw _).2 h2) hst;exact .inl ⟨val,w,g',by simp only [execOp,hop];exact Qhu P _ hr,hsr⟩
  ·split at hk<;>try (cases hk;done)
   rename_i hu;obtain ⟨d,hu⟩:=Option.isSome_iff_exists.1 hu;simp only [Option.some.injEq,Prod.mk.injEq] at hk;obtain ⟨rfl,rfl,rfl⟩:=hk;obtain ⟨v,M',hst,rfl⟩:=plain rfl;refine Qct P h hd hz hst ⟨(Qdw _).2 h2,trivial⟩ ?_;obtain ⟨hM,val,hr,hrf⟩:=Qbll P h.mem t hu h1 hst;exact ⟨hM,val,by simp only [execOp,hop];exact Qhu P _ hr,hrf⟩
 case store t p x =>
  split at hk<;>try (cases hk;done)
  rename_i pa xa hpa hxa;split at hk<;>try (cases hk;done)
  rename_i hu;simp only [Bool.and_eq_true,Option.isNone_iff_eq_none] at hu;obtain ⟨hu,hdst⟩:=hu;obtain ⟨d,hu⟩:=Option.isSome_iff_exists.1 hu;simp only [Option.some.injEq,Prod.mk.injEq] at hk;obtain ⟨rfl,rfl,htk⟩:=hk;obtain ⟨hp1,hp2⟩:=Qg6 P h hpa;cases tk with
  | false =>
   obtain ⟨v,M',hst,rfl⟩:=plain rfl;obtain ⟨hx1,hx2⟩:=Qg6 P h hxa;obtain ⟨w',g',hr,hsr⟩:=Qbi9 P h t hu hp1 ((Qdw _).2 hp2) ((Qdw _).2 hx2) none ⟨hx1,Qd8 _⟩ hst;refine .inr ⟨w',g',by simp only [execOp,hop];exact Qbie P _ hr,?_⟩;rw [hdst];exact hsr
  | true =>
   simp only [if_true,List.map_cons,List.map_nil] at hs;split at hs<;>cases hs;rename_i v M' hst;rcases Q8v P h hxa with ⟨t0,rfl,rfl,h1,h2⟩|⟨hx,_⟩
   ·have hpf:(pa.val σ.s).dem=pa.val σ.s∧(∃ k o,pa.val σ.s = .ptr k o):=by
     cases hpv:pa.val σ.s<;>rw [hpv] at hst<;>try (simp [Qn] at hst;done)
     exact ⟨rfl,_,_,rfl⟩
    obtain ⟨hpf,k0,o0,hpk⟩:=hpf;rw [hpf] at hp1;obtain ⟨w',g',hr,hsr⟩:=Qbi9 P h t hu hp1 hp2 h2 (some t0) ⟨rfl,rfl⟩ hst;refine .inr ⟨w',g',by simp only [execOp,hop];exact Qbie P _ hr,?_⟩;rw [hdst];refine Qbjg hsr (fun i=>?_);cases pa with
    | c v=>rfl
    | t i0 =>
     simp only [Qbf,Q7,Qbu,Arg.putTo,Sl.put,Arg.val];split
     ·rfl
     ·split
      ·rename_i he;subst he;rfl
      ·rfl
   ·simp [hx] at htk
 case nilCheck x =>
  simp only [Option.map_eq_some_iff,Prod.mk.injEq] at hk;obtain ⟨ar,har,rfl,rfl,rfl⟩:=hk;obtain ⟨v,M',hst,rfl⟩:=plain rfl;obtain ⟨h1,h2⟩:=Qg6 P h har;exact Qct P h hd hz hst ⟨(Qdw _).2 h2,trivial⟩ (Qblm P h1 hst o a x hop rfl)
 case unOp op t x =>
  simp only [Option.map_eq_some_iff,Prod.mk.injEq] at hk;obtain ⟨ar,har,rfl,rfl,rfl⟩:=hk;obtain ⟨v,M',hst,rfl⟩:=plain rfl;obtain ⟨h1,h2⟩:=Qg6 P h har;refine Qct P h hd hz hst ⟨(Qdw _).2 h2,trivial⟩ ?_;simp only [List.map_cons,List.map_nil,V.dems] at hst;generalize (ar.val σ.s).dem=xv at hst h1;cases xv<;>try (simp [Qn] at hst;done)
  simp only [Qn,Option.map_eq_some_iff,Prod.mk.injEq] at hst;obtain ⟨c,hc,rfl,rfl⟩:=hst;obtain ⟨val,hr,hrf⟩:=Qbr4 P op h1 hc;exact ⟨rfl,val,by simp only [execOp,hop];exact Qhu P _ hr,hrf⟩
 case fieldAddr s x f =>
  split at hk<;>try (cases hk;done)
  rename_i fs hfs;split at hk<;>try (cases hk;done)
  rename_i fd ar hfd har;split at hk<;>try (cases hk;done)
  rename_i h0;cases hk;obtain ⟨v,M',hst,rfl⟩:=plain rfl;obtain ⟨h1,h2⟩:=Qg6 P h har;obtain ⟨hM,val,hr,hrf⟩:=Qbq3 P s fs hfs f fd hfd h0 h1 hst;exact Qct P h hd hz hst ⟨(Qdw _).2 h2,trivial⟩ ⟨hM,val,by simp only [execOp,hop];exact Qhu P _ hr,hrf⟩
 case extract x i =>
  simp only [Option.map_eq_some_iff,Prod.mk.injEq] at hk;obtain ⟨ar,har,rfl,rfl,htk⟩:=hk;cases tk with
  | false =>
   obtain ⟨v,M',hst,rfl⟩:=plain rfl;obtain ⟨h1,h2⟩:=Qg6 P h har;obtain ⟨hM,val,hr,hrf⟩:=Qbkd P (Qd8 _) h1 hst;exact Qct P h hd hz hst ⟨(Qdw _).2 h2,trivial⟩ ⟨hM,val,by simp only [execOp,hop];exact Qhu P _ hr,hrf⟩
  | true =>
   rcases Q8v P h har with ⟨t0,rfl,rfl,h1,h2⟩|⟨hx,_⟩
   ·simp only [if_true,List.map_cons,List.map_nil] at hs;split at hs<;>cases hs;rename_i v M' hst;simp only [Arg.val] at hst;cases hv:σ.s t0<;>rw [hv] at hst<;>try (simp [Qn] at hst;done)
    rename_i vs;simp only [Qn,Option.map_eq_some_iff,Prod.mk.injEq] at hst;obtain ⟨c,hc,rfl,rfl⟩:=hst;cases hdst:o.dst with
    | none=>simp [hdst] at htk
    | some d =>
     obtain ⟨val,g',hr,hsr⟩:=Qbh9 P h t0 i d (hd d hdst) hv hc;refine .inl ⟨val,w,g',by simp only [execOp,hop];exact Qhu P _ hr,?_⟩;rw [hdst];have hsl:Q7 σ.s [Arg.t t0] (Qbu (.extract i) [Arg.val σ.s (.t t0)])=σ.s.put t0 (.tup (vs.set i c.dem)):=by
      simp only [Arg.val,hv,Qbu,hc];rfl
     rw [hsl];exact hsr
   ·simp [hx] at htk
 case binOp op xt x y yt =>
  split at hk<;>try (cases hk;done)
  rename_i xa ya hxa hya;obtain ⟨hx1,hx2⟩:=Qg6 P h hxa;obtain ⟨hy1,hy2⟩:=Qg6 P h hya;have scal:∀ tb,k = .bin op tb→as=[xa,ya]→tk=false→(tb=true→P.underlying xt=some .bool)→Gives P n0 nt g0 w0 o a w σ':=by
   rintro tb rfl rfl rfl htb;obtain ⟨v,M',hst,rfl⟩:=plain rfl;refine Qct P h hd hz hst ⟨(Qdw _).2 hx2,(Qdw _).2 hy2,trivial⟩ ?_;simp only [List.map_cons,List.map_nil,V.dems] at hst;generalize (xa.val σ.s).dem=xv at hst hx1;generalize (ya.val σ.s).dem=yv at hst hy1;cases xv<;>try (simp [Qn] at hst;done)
   cases yv<;>try (simp [Qn] at hst;done)
   simp only [Qn,Option.map_eq_some_iff,Prod.mk.injEq] at hst;obtain ⟨c,hc,rfl,rfl⟩:=hst;obtain ⟨val,hr,hrf⟩:=Qbq2 P op tb xt htb x y hx1 hy1 hc;exact ⟨rfl,val,by simp only [execOp,hop];exact Qhu P _ hr,hrf⟩
  split at hk<;>try (cases hk;done)
  ·split at hk<;>try (cases hk;done)
   ·cases hk;simp [K.isNil] at hnil
   ·cases hk;simp [K.isNil] at hnil
  ·cases hk;exact scal false rfl rfl rfl (by simp)
  ·cases hk;exact scal false rfl rfl rfl (by simp)
  ·rename_i hu;cases hk;exact scal true rfl rfl rfl (fun _=>hu)
  ·rename_i fs hu;have sub:∀ neg ks,(op = .eql∧neg=false∨op = .neq∧neg=true)→Qi2 P xt=some ks→k = .eqa neg ks→as=[xa,ya]→tk=false→Gives P n0 nt g0 w0 o a w σ':=by
    rintro neg ks hop' hks rfl rfl rfl;obtain ⟨v,M',hst,rfl⟩:=plain rfl;refine Qct P h hd hz hst ⟨(Qdw _).2 hx2,(Qdw _).2 hy2,trivial⟩ ?_;simp only [List.map_cons,List.map_nil,V.dems] at hst;have hfx:=Qd8 (xa.val σ.s);have hfy:=Qd8 (ya.val σ.s);generalize (xa.val σ.s).dem=xv at hst hx1 hfx;generalize (ya.val σ.s).dem=yv at hst hy1 hfy;cases xv<;>try (simp [Qn] at hst;done)
    cases yv<;>try (simp [Qn] at hst;done)
    simp only [Qn,Option.map_eq_some_iff,Prod.mk.injEq] at hst;obtain ⟨b,hb,rfl,rfl⟩:=hst;obtain ⟨vs,hvs,hl,hr,_⟩:=Qba7 hfx hx1;obtain ⟨vs',hvs',hl',hr',_⟩:=Qba7 hfy hy1;have:=Qbpc P xt hks hl hr hl' hr' hb;refine ⟨rfl,.bool (if neg then !b else b),?_,by rw [RF_d];simp [RD]⟩;simp only [execOp,hop];refine Qhu P _ ?_;rw [hvs,hvs'];rcases hop' with ⟨rfl,rfl⟩|⟨rfl,rfl⟩
    ·exact this.1 x y
    ·exact this.2 x y
   split at hk<;>try (cases hk;done)
   ·simp only [Option.map_eq_some_iff,Prod.mk.injEq] at hk;obtain ⟨ks,hks,rfl,rfl,rfl⟩:=hk;exact sub false ks (.inl ⟨rfl,rfl⟩) hks rfl rfl rfl
   ·simp only [Option.map_eq_some_iff,Prod.mk.injEq] at hk;obtain ⟨ks,hks,rfl,rfl,rfl⟩:=hk;exact sub true ks (.inr ⟨rfl,rfl⟩) hks rfl rfl rfl
  ·rename_i n0' e0' hu;have sub:∀ neg ks,(op = .eql∧neg=false∨op = .neq∧neg=true)→Qi2 P xt=some ks→k = .eqa neg ks→as=[xa,ya]→tk=false→Gives P n0 nt g0 w0 o a w σ':=by
    rintro neg ks hop' hks rfl rfl rfl;obtain ⟨v,M',hst,rfl⟩:=plain rfl;refine Qct P h hd hz hst ⟨(Qdw _).2 hx2,(Qdw _).2 hy2,trivial⟩ ?_;simp only [List.map_cons,List.map_nil,V.dems] at hst;have hfx:=Qd8 (xa.val σ.s);have hfy:=Qd8 (ya.val σ.s);generalize (xa.val σ.s).dem=xv at hst hx1 hfx;generalize (ya.val σ.s).dem=yv at hst hy1 hfy;cases xv<;>try (simp [Qn] at hst;done)
    cases yv<;>try (simp [Qn] at hst;done)
    simp only [Qn,Option.map_eq_some_iff,Prod.mk.injEq] at hst;obtain ⟨b,hb,rfl,rfl⟩:=hst;obtain ⟨vs,hvs,hl,hr,_⟩:=Qba7 hfx hx1;obtain ⟨vs',hvs',hl',hr',_⟩:=Qba7 hfy hy1;have:=Qbpc P xt hks hl hr hl' hr' hb;refine ⟨rfl,.bool (if neg then !b else b),?_,by rw [RF_d];simp [RD]⟩;simp only [execOp,hop];refine Qhu P _ ?_;rw [hvs,hvs'];rcases hop' with ⟨rfl,rfl⟩|⟨rfl,rfl⟩
    ·exact this.1 x y
    ·exact this.2 x y
   split at hk<;>try (cases hk;done)
   ·simp only [Option.map_eq_some_iff,Prod.mk.injEq] at hk;obtain ⟨ks,hks,rfl,rfl,rfl⟩:=hk;exact sub false ks (.inl ⟨rfl,rfl⟩) hks rfl rfl rfl
   ·simp only [Option.map_eq_some_iff,Prod.mk.injEq] at hk;obtain ⟨ks,hks,rfl,rfl,rfl⟩:=hk;exact sub true ks (.inr ⟨rfl,rfl⟩) hks rfl rfl rfl
 case convert s d x =>
  simp only [Option.bind_eq_some_iff] at hk;obtain ⟨ar,har,hk⟩:=hk;obtain ⟨h1,h2⟩:=Qg6 P h har;split at hk<;>try (cases hk;done)
  ·rename_i k' k hs' hd';cases hk;obtain ⟨v,M',hst,rfl⟩:=plain rfl;refine Qct P h hd hz hst ⟨(Qdw _).2 h2,trivial⟩ ?_;simp only [List.map_cons,List.map_nil,V.dems] at hst;generalize (ar.val σ.s).dem=xv at hst h1;cases xv<;>try (simp [Qn] at hst;done)
   rename_i dx;cases dx<;>try (simp [Qn] at hst;done)
   simp only [Qn,Option.some.injEq,Prod.mk.injEq] at hst;obtain ⟨rfl,rfl⟩:=hst;obtain ⟨val,hr,hrf⟩:=Qbpu P s d k (by simp [hs']) hd' h1;exact ⟨rfl,val,by simp only [execOp,hop];exact Qhu P _ hr,hrf⟩
 case makeFunc fn first cap =>
  cases fn<;>simp only at hk<;>try (cases hk;done)
  rename_i f;split at hk<;>try (cases hk;done)
  rename_i h0;simp only [Option.map_eq_some_iff,Prod.mk.injEq] at hk;obtain ⟨as',has,rfl,rfl,rfl⟩:=hk;obtain ⟨v,M',hst,rfl⟩:=plain rfl;obtain ⟨h1,h2⟩:=Qd5 P h _ _ _ _ has;obtain ⟨hM,hrf⟩:=Qbp0 f h1 hst;refine Qct P h hd hz hst h2 ⟨hM,_,?_,hrf⟩;have hf:first = #[]:=Array.eq_empty_of_size_eq_zero h0
  subst hf;simp only [execOp,hop];refine Qhu P _ ?_;have e:(cap.toList.map a.eval).toArray=cap.map a.eval:=by apply Array.ext';simp
  rw [e];simp only [Instr.makeFunc,Array.map_empty,Sem.run_pure]
 case makeSlice t l c =>
  split at hk<;>try (cases hk;done)
  rename_i e ht;split at hk<;>try (cases hk;done)
  rename_i z as' hze has;simp only [Option.some.injEq,Prod.mk.injEq] at hk;obtain ⟨rfl,rfl,rfl⟩:=hk;obtain ⟨v,M',hst,rfl⟩:=plain rfl;obtain ⟨h1,h2⟩:=Qd5 P h _ _ _ _ has;generalize V.dems (as'.map (·.val σ.s))=xs at hst h1
  match xs,h1 with
  | [x',y'],⟨u1,us1,e1,r1,u2,us2,e2,r2,e3⟩ =>
   simp only [List.map_cons,List.map_nil,List.cons.injEq] at e1;obtain ⟨rfl,rfl⟩:=e1;simp only [List.cons.injEq] at e2;obtain ⟨rfl,rfl⟩:=e2;obtain ⟨val,w',g',hr,hsr⟩:=Qbn5 P h hd t e ht hze hκ hκ' r1 r2 hst;exact .inl ⟨val,w',g',by simp only [execOp,hop];exact Qhu P _ hr,hsr⟩
 case buildSlice t n ps =>
  split at hk<;>try (cases hk;done)
  rename_i e ht;split at hk
  ·rename_i hlit;simp only [Bool.and_eq_true] at hlit;cases hdst:o.dst with
   | none=>rw [hdst] at hlit;simp [inL] at hlit
   | some d =>
    unfold Qbab at hk;split at hk<;>try (cases hk;done)
    rename_i _ _ _ z0 u hze hps;split at hk<;>try (cases hk;done)
    rename_i x hcx;split at hk<;>try (cases hk;done)
    rename_i h1;simp only [Option.some.injEq,Prod.mk.injEq] at hk;obtain ⟨rfl,rfl,rfl⟩:=hk;simp only [if_true,List.map_cons,List.map_nil,Arg.val,Qn,Qjk] at hs;split at hs<;>cases hs;rename_i v M' hst;split at hst<;>cases hst;obtain ⟨val,w',g',hr,hsr⟩:=Qbq9 P h (hd d hdst) t e ht hze h1 (Qbgm P hcx).1;refine .inl ⟨val,w',g',?_,by rw [hdst];exact hsr⟩;simp only [execOp,hop];refine Qhu P _ ?_;rw [← hr];have:ps = #[(0,.const u)]:=by apply Array.ext';simpa using hps
    subst this;have:a.eval (.const u)=u:=rfl;simp [this]
  split at hk<;>try (cases hk;done)
  rename_i z as' hze has;split at hk<;>try (cases hk;done)
  rename_i hn;simp only [Option.some.injEq,Prod.mk.injEq] at hk;obtain ⟨rfl,rfl,rfl⟩:=hk;obtain ⟨v,M',hst,rfl⟩:=plain rfl;obtain ⟨h1,h2⟩:=Qd5 P h _ _ _ _ has;obtain ⟨val,w',g',hr,hsr⟩:=Qblr P h hd t e ht hze n hn _ hκ hκ' Qhq h1 h2 hst;refine .inl ⟨val,w',g',?_,hsr⟩;simp only [execOp,hop];refine Qhu P _ ?_;rw [← hr,Qbbv]
 case slice t x lo hi mx =>
  cases mx with
  | some _=>cases hk
  | none =>
   simp only at hk;split at hk<;>try (cases hk;done)
   rename_i e ht;split at hk<;>try (cases hk;done)
   rename_i h0;split at hk
   ·rename_i hcond;simp only [Bool.and_eq_true] at hcond;obtain ⟨⟨⟨hdc,hxt⟩,hlo⟩,hhi⟩:=hcond;cases hi with
    | some _=>simp at hhi
    | none =>
    cases lo with
    | none=>simp at hlo
    | some lv =>
    simp only [Option.map_eq_some_iff,Prod.mk.injEq] at hk;obtain ⟨as',has,rfl,rfl,rfl⟩:=hk;simp only [Option.toList,List.cons_append,List.nil_append,Qes] at has;split at has<;>try (cases has;done)
    rename_i a0 as1 ha0 has1;cases has;split at has1<;>try (cases has1;done)
    rename_i a1 as2 ha1 has2;cases has2;cases has1;obtain ⟨d,hdst⟩ : ∃ d,o.dst=some d:=by
     cases hdd:o.dst with
     | none=>rw [hdd] at hdc;simp [inL] at hdc
     | some d=>exact ⟨d,rfl⟩
    simp only [if_true,List.map_cons,List.map_nil] at hs;split at hs<;>cases hs;rename_i v M' hst;rcases Q8v P h ha0 with ⟨t0,rfl,rfl,h1,h2⟩|⟨hx,_⟩
    ·obtain ⟨val,g',hr,hsr⟩:=Qbp6 P h t e ht h0 t0 d (hd d hdst) ha1 hst;refine .inl ⟨val,w,g',by simp only [execOp,hop];exact Qhu P _ hr,?_⟩;rw [hdst];exact hsr
    ·simp [hx] at hxt
   split at hk<;>try (cases hk;done)
   rename_i as' has;simp only [Option.some.injEq,Prod.mk.injEq] at hk;obtain ⟨rfl,rfl,rfl⟩:=hk;obtain ⟨v,M',hst,rfl⟩:=plain rfl;obtain ⟨h1,h2⟩:=Qd5 P h _ _ _ _ has;refine Qct P h hd hz hst h2 ?_;generalize V.dems (as'.map (·.val σ.s))=xs at hst h1
   match xs,h1 with
   | x'::bs,⟨u1,us1,e1,r1,e2⟩ =>
    simp only [List.cons_append,List.nil_append,List.map_cons,List.cons.injEq] at e1;obtain ⟨rfl,rfl⟩:=e1;obtain ⟨hM,val,hr,hrf⟩:=Qbi3 P t e ht h0 (lo.map a.eval) (hi.map a.eval) r1 (by cases lo<;>cases hi<;>simpa using e2) (by simpa using hst);exact ⟨hM,val,by simp only [execOp,hop];exact Qhu P _ (by simpa using hr),hrf⟩
 case field t x f =>
  split at hk<;>try (cases hk;done)
  rename_i fs hfs;split at hk<;>try (cases hk;done)
  rename_i fd ar hfd har;split at hk<;>try (cases hk;done)
  rename_i hu;obtain ⟨d,hu⟩:=Option.isSome_iff_exists.1 hu;cases hk;obtain ⟨v,M',hst,rfl⟩:=plain rfl;obtain ⟨h1,h2⟩:=Qg6 P h har;obtain ⟨hM,val,hr,hrf⟩:=Qbn2 P t fs hfs f fd hfd hu (Qd8 _) h1 hst;exact Qct P h hd hz hst ⟨(Qdw _).2 h2,trivial⟩ ⟨hM,val,by simp only [execOp,hop];exact Qhu P _ hr,hrf⟩
 case indexAddr t x i =>
  split at hk<;>try (cases hk;done)
  ·rename_i e ht;simp only [Option.bind_eq_some_iff] at hk;obtain ⟨as',has,hk⟩:=hk;split at hk<;>try (cases hk;done)
   rename_i h0;cases hk;obtain ⟨v,M',hst,rfl⟩:=plain rfl;obtain ⟨h1,h2⟩:=Qd5 P h _ _ _ _ has;refine Qct P h hd hz hst h2 ?_;generalize V.dems (as.map (·.val σ.s))=xs at hst h1
   match xs,h1 with
   | [x',y'],⟨u1,us1,e1,r1,u2,us2,e2,r2,e3⟩ =>
    simp only [List.map_cons,List.map_nil,List.cons.injEq] at e1;obtain ⟨rfl,rfl⟩:=e1;simp only [List.cons.injEq] at e2;obtain ⟨rfl,rfl⟩:=e2;obtain ⟨hM,val,hr,hrf⟩:=Qbq4 P t e ht h0 r1 r2 hst;exact ⟨hM,val,by simp only [execOp,hop];exact Qhu P _ hr,hrf⟩
  ·rename_i n e ht;simp only [Option.bind_eq_some_iff] at hk;obtain ⟨as',has,hk⟩:=hk;split at hk<;>try (cases hk;done)
   rename_i h0;cases hk;obtain ⟨v,M',hst,rfl⟩:=plain rfl;obtain ⟨h1,h2⟩:=Qd5 P h _ _ _ _ has;refine Qct P h hd hz hst h2 ?_;generalize V.dems (as.map (·.val σ.s))=xs at hst h1
   match xs,h1 with
   | [x',y'],⟨u1,us1,e1,r1,u2,us2,e2,r2,e3⟩ =>
    simp only [List.map_cons,List.map_nil,List.cons.injEq] at e1;obtain ⟨rfl,rfl⟩:=e1;simp only [List.cons.injEq] at e2;obtain ⟨rfl,rfl⟩:=e2;obtain ⟨hM,val,hr,hrf⟩:=Qbln P t e n ht h0 r1 r2 hst;exact ⟨hM,val,by simp only [execOp,hop];exact Qhu P _ hr,hrf⟩
 case index t x i =>
  split at hk<;>try (cases hk;done)
  ·rename_i n e ht;split at hk<;>try (cases hk;done)
   rename_i hu;have hu:∃ d,P.underlying e=some d:=by
    cases hd' : P.underlying e with
    | none=>simp [hd'] at hu
    | some d=>exact ⟨d,rfl⟩
   obtain ⟨d,hu⟩:=hu;simp only [Option.map_eq_some_iff,Prod.mk.injEq] at hk;obtain ⟨as',has,rfl,rfl,rfl⟩:=hk;obtain ⟨v,M',hst,rfl⟩:=plain rfl;obtain ⟨h1,h2⟩:=Qd5 P h _ _ _ _ has;refine Qct P h hd hz hst h2 ?_;have hfl:∀ x∈V.dems (as'.map (·.val σ.s)),Flat x:=Qhq;generalize V.dems (as'.map (·.val σ.s))=xs at hst h1 hfl
   match xs,h1 with
   | [x',y'],⟨u1,us1,e1,r1,u2,us2,e2,r2,e3⟩ =>
    simp only [List.map_cons,List.map_nil,List.cons.injEq] at e1;obtain ⟨rfl,rfl⟩:=e1;simp only [List.cons.injEq] at e2;obtain ⟨rfl,rfl⟩:=e2;obtain ⟨hM,val,hr,hrf⟩:=Qblo P t e n ht hu (hfl _ (by simp)) r1 r2 hst;exact ⟨hM,val,by simp only [execOp,hop];exact Qhu P _ hr,hrf⟩
  ·rename_i ht;simp only [Option.map_eq_some_iff,Prod.mk.injEq] at hk;obtain ⟨as',has,rfl,rfl,rfl⟩:=hk;obtain ⟨v,M',hst,rfl⟩:=plain rfl;obtain ⟨h1,h2⟩:=Qd5 P h _ _ _ _ has;refine Qct P h hd hz hst h2 ?_;generalize V.dems (as'.map (·.val σ.s))=xs at hst h1
   match xs,h1 with
   | [x',y'],⟨u1,us1,e1,r1,u2,us2,e2,r2,e3⟩ =>
    simp only [List.map_cons,List.map_nil,List.cons.injEq] at e1;obtain ⟨rfl,rfl⟩:=e1;simp only [List.cons.injEq] at e2;obtain ⟨rfl,rfl⟩:=e2;obtain ⟨hM,val,hr,hrf⟩:=Qbpw P t ht r1 r2 hst;exact ⟨hM,val,by simp only [execOp,hop];exact Qhu P _ hr,hrf⟩
 case build t ps =>
  split at hk<;>try (cases hk;done)
  ·rename_i fs z ht hze;split at hk<;>try (cases hk;done)
   rename_i hft;simp only [List.all_eq_true] at hft;split at hk<;>try (cases hk;done)
   rename_i pl as' hpl has;simp only [Option.some.injEq,Prod.mk.injEq] at hk;obtain ⟨rfl,rfl,htk⟩:=hk;cases tk with
   | false =>
    obtain ⟨v,M',hst,rfl⟩:=plain rfl;obtain ⟨h1,h2⟩:=Qd5 P h _ _ _ _ has;obtain ⟨hM,val,hr,hrf⟩:=Q2o P t fs ht hze _ pl hpl hft Qhq h1 hst;refine Qct P h hd hz hst h2 ⟨hM,val,?_,hrf⟩;simp only [execOp,hop];exact Qhu P _ (by rw [← hr,Qbbv])
   | true =>
    cases hdst:o.dst with
    | none=>simp [hdst] at htk
    | some d =>
     simp only [if_true,Qbu] at hs;split at hs<;>cases hs;rename_i v M' hst;obtain ⟨rfl,val,g',hr,hsr⟩:=Qblv P h (hd d hdst) has hz (R:=Instr.build t ((ps.toList.map (·.1)).zip ((ps.toList.map (·.2)).map a.eval)).toArray) (fun g2 xs' v' M'' hfl hrf hst'=>(Q2o P t fs ht hze _ pl hpl hft hfl hrf hst').2) hst;refine .inl ⟨val,w,g',?_,?_⟩
     ·simp only [execOp,hop];exact Qhu P _ (by rw [← hr,Qbbv])
     ·rw [hdst];exact hsr
  ·rename_i n e z ht hze;split at hk<;>try (cases hk;done)
   rename_i hie;simp only [Option.map_eq_some_iff,Prod.mk.injEq] at hk;obtain ⟨as',has,rfl,rfl,rfl⟩:=hk;obtain ⟨v,M',hst,rfl⟩:=plain rfl;obtain ⟨h1,h2⟩:=Qd5 P h _ _ _ _ has;obtain ⟨hM,val,hr,hrf⟩:=Qbdu P t e n ht (by cases hq:P.info? e with|none=>simp [hq] at hie|some _=>rfl) hze (ps.toList.map (·.1)) Qhq h1 (by rw [List.map_map];exact hst);refine Qct P h hd hz hst h2 ⟨hM,val,?_,hrf⟩;simp only [execOp,hop];exact Qhu P _ (by rw [← hr,Qbbv])
 case makeMap t r =>
  split at hk<;>try (cases hk;done)
  rename_i kt et ht;simp only [Option.map_eq_some_iff,Prod.mk.injEq] at hk;obtain ⟨as',has,rfl,rfl,rfl⟩:=hk;obtain ⟨v,M',hst,rfl⟩:=plain rfl;obtain ⟨h1,h2⟩:=Qd5 P h _ _ _ _ has;obtain ⟨val,w',g',hr,hsr⟩:=Qbn9 P h hd t ht h1 hκ hκ' (r.map a.eval) (by cases r<;>rfl) hst;exact .inl ⟨val,w',g',by simp only [execOp,hop];exact Qhu P _ hr,hsr⟩
 case lookup t x i c =>
  split at hk<;>try (cases hk;done)
  rename_i kt kd z hmk;simp only [Option.map_eq_some_iff,Prod.mk.injEq] at hk;obtain ⟨as',has,rfl,rfl,rfl⟩:=hk;obtain ⟨v,M',hst,rfl⟩:=plain rfl;obtain ⟨h1,h2⟩:=Qd5 P h _ _ _ _ has;have old:∀ {k' : K},k' = .lookup kd c z→k'.okz→Qn n0 κ k' (V.dems (as'.map (·.val σ.s))) σ.M=some (v,M')→Gives P n0 nt g0 w0 o a w ⟨Qbf σ.s o.dst v,M',σ.nb⟩:=by
   rintro _ rfl hz hst;refine Qct P h hd hz hst h2 ?_;generalize V.dems (as'.map (·.val σ.s))=xs at hst h1;obtain ⟨x',y',rfl,r1,r2⟩:=Qbcp (by simpa using h1);obtain ⟨hM,val,hr,hrf⟩:=Qbl1 P t hmk c h.mem r1 r2 hst;exact ⟨hM,val,by simp only [execOp,hop];exact Qhu P _ hr,hrf⟩
  cases hzn:Qblc P t with
  | none=>rw [hzn] at hst hz;exact old rfl hz hst
  | some zn =>
   rw [hzn] at hst hz;simp only at hst hz;by_cases hT:(!c&&inL T.mpt o.dst)=true
   ·rw [if_pos hT] at hst;obtain rfl:c=false:=by
     cases c
     ·rfl
     ·simp at hT
    generalize V.dems (as'.map (·.val σ.s))=xs at hst h1;obtain ⟨x',y',rfl,r1,r2⟩:=Qbcp (by simpa using h1);obtain ⟨val,g',hr,hsr⟩:=Qbke P h hd t hmk hzn r1 r2 hst;exact .inl ⟨val,w,g',by simp only [execOp,hop];exact Qhu P _ hr,hsr⟩
   ·rw [if_neg hT] at hst hz;exact old rfl hz hst
 case mapUpdate t m k x =>
  split at hk<;>try (cases hk;done)
  rename_i kt kd z kt' et hmk ht;split at hk<;>try (cases hk;done)
  rename_i hdst;simp only [Option.map_eq_some_iff] at hk;obtain ⟨as',has,hk⟩:=hk;by_cases hT:inL T.mpt (tmpO x)=true
  ·rw [if_pos hT] at hk;simp only [Prod.mk.injEq] at hk;obtain ⟨rfl,rfl,rfl⟩:=hk;simp only [if_true] at hs;split at hs<;>cases hs;rename_i v M' hst;obtain ⟨w',g',hr,hsr⟩:=Qbcr P h has hT t hmk hst;refine .inr ⟨w',g',by simp only [execOp,hop];exact Qbie P _ hr,?_⟩;rw [Option.isNone_iff_eq_none.1 hdst];exact hsr
  rw [if_neg hT] at hk;simp only [Prod.mk.injEq] at hk;obtain ⟨rfl,rfl,rfl⟩:=hk;obtain ⟨v,M',hst,rfl⟩:=plain rfl;obtain ⟨h1,h2⟩:=Qd5 P h _ _ _ _ has;generalize V.dems (as'.map (·.val σ.s))=xs at hst h1;obtain ⟨x',y',z',rfl,r1,r2,r3⟩:=Qbcq (by simpa using h1);obtain ⟨w',hr,hsr⟩:=Qbgs P h hd t hmk r1 r2 r3 hst;exact .inr ⟨w',g,by simp only [execOp,hop];exact Qbie P _ hr,hsr⟩
 case insert t m k x =>
  split at hk<;>try (cases hk;done)
  rename_i kt kd z kt' et hmk ht;split at hk<;>try (cases hk;done)
  rename_i hdst;simp only [Option.map_eq_some_iff] at hk;obtain ⟨as',has,hk⟩:=hk;by_cases hT:inL T.mpt (tmpO x)=true
  ·rw [if_pos hT] at hk;simp only [Prod.mk.injEq] at hk;obtain ⟨rfl,rfl,rfl⟩:=hk;simp only [if_true] at hs;split at hs<;>cases hs;rename_i v M' hst;obtain ⟨w',g',hr,hsr⟩:=Qbcr P h has hT t hmk hst;refine .inr ⟨w',g',by simp only [execOp,hop];exact Qbie P _ hr,?_⟩;rw [Option.isNone_iff_eq_none.1 hdst];exact hsr
  rw [if_neg hT] at hk;simp only [Prod.mk.injEq] at hk;obtain ⟨rfl,rfl,rfl⟩:=hk;obtain ⟨v,M',hst,rfl⟩:=plain rfl;obtain ⟨h1,h2⟩:=Qd5 P h _ _ _ _ has;generalize V.dems (as'.map (·.val σ.s))=xs at hst h1;obtain ⟨x',y',z',rfl,r1,r2,r3⟩:=Qbcq (by simpa using h1);obtain ⟨w',hr,hsr⟩:=Qbgs P h hd t hmk r1 r2 r3 hst;exact .inr ⟨w',g,by simp only [execOp,hop];exact Qbie P _ hr,hsr⟩
 case mapEntry t m k =>
  split at hk<;>try (cases hk;done)
  rename_i kt kd z hmk;simp only [Option.map_eq_some_iff,Prod.mk.injEq] at hk;obtain ⟨as',has,rfl,rfl,rfl⟩:=hk;obtain ⟨v,M',hst,rfl⟩:=plain rfl;obtain ⟨h1,h2⟩:=Qd5 P h _ _ _ _ has;generalize V.dems (as'.map (·.val σ.s))=xs at hst h1;obtain ⟨x',y',rfl,r1,r2⟩:=Qbcp (by simpa using h1);obtain ⟨val,w',hr,hsr⟩:=Qbid P h hd t hmk r1 r2 hst;exact .inl ⟨val,w',g,by simp only [execOp,hop];exact Qhu P _ hr,hsr⟩
 case entryStore t m st x =>
  split at hk<;>try (cases hk;done)
  split at hk<;>try (cases hk;done)
  rename_i hdst;simp only [Option.map_eq_some_iff,Prod.mk.injEq] at hk;obtain ⟨as',has,rfl,rfl,rfl⟩:=hk;obtain ⟨v,M',hst,rfl⟩:=plain rfl;obtain ⟨h1,h2⟩:=Qd5 P h _ _ _ _ has;generalize V.dems (as'.map (·.val σ.s))=xs at hst h1;obtain ⟨x',y',z',rfl,r1,r2,r3⟩:=Qbcq (by simpa using h1);obtain ⟨w',hr,hsr⟩:=Qbfm P h hd t r1 r2 r3 hst;exact .inr ⟨w',g,by simp only [execOp,hop];exact Qbie P _ hr,hsr⟩
 case call cl =>
  cases hcl:cl.callee<;>rw [hcl] at hk<;>(try simp only at hk)
  case invoke=>cases hk
  case value f =>
   cases f<;>(try simp only at hk)<;>try (cases hk;done)
   ·simp only [Option.map_eq_some_iff,Prod.mk.injEq] at hk;obtain ⟨as',has,rfl,rfl,rfl⟩:=hk;simp [K.isCall] at hcall
   ·split at hk<;>try (cases hk;done)
    simp only [Option.map_eq_some_iff,Prod.mk.injEq] at hk;obtain ⟨as',has,rfl,rfl,rfl⟩:=hk;simp [K.isCall] at hcall
  case builtin b =>
   have hex:∀ val w',((builtin b cl.argTypes o.type (cl.args.map fun | .const _=>true|_=>false) (cl.args.map a.eval)).run P w = .ok (.value val) w')→(execOp a.eval o).run P w = .ok (.value val) w':=by
    intro val w' hr;simp only [execOp,hop,resolve,hcl,invoke,Sem.run_bind,Sem.run_pure,Result.andThen_ok];exact hr
   cases b<;>simp only at hk<;>try (cases hk;done)
   case append =>
    split at hk<;>try (cases hk;done)
    rename_i e e' ht ht' hsize;split at hk<;>try (cases hk;done)
    rename_i htt;split at hk<;>try (cases hk;done)
    rename_i z t0 as' hze has;split at hk<;>try (cases hk;done)
    rename_i hzl;simp only [Option.some.injEq,Prod.mk.injEq] at hk;obtain ⟨rfl,rfl,rfl⟩:=hk;obtain ⟨x0,x1,hargs⟩ : ∃ x0 x1,cl.args = #[x0,x1]:=by
     cases hl:cl.args with
     | mk l =>
      rw [hl] at hsize
      match l,hsize with
      | [x0,x1],_=>exact ⟨x0,x1,rfl⟩
    rw [hargs] at has;simp only [Qes] at has;split at has<;>try (cases has;done)
    rename_i a0 as0 ha0 has0;split at has0<;>try (cases has0;done)
    rename_i a1 as1 ha1 has1;simp only [Option.some.injEq] at has1;subst has1;simp only [Option.some.injEq] at has0;subst has0;simp only [Option.some.injEq,List.cons.injEq] at has;obtain ⟨rfl,rfl⟩:=has;simp only [if_true,List.map_cons,List.map_nil] at hs;split at hs<;>cases hs;rename_i v M' hst;rcases Q8v P h ha0 with ⟨t1,hx0,htt1,h1,h2⟩|⟨_,c0,hc0,_⟩
    ·cases htt1;have hx1:∃ ℓ,RV g w (a1.val σ.s) ℓ (a.eval x1):=by
      rcases Q8v P h ha1 with ⟨t2,_,rfl,k1,_⟩|⟨_,c1,rfl,k1,_⟩
      ·exact ⟨_,k1⟩
      ·exact ⟨.free,k1 _⟩
     obtain ⟨ℓ,hx1⟩:=hx1;obtain ⟨val,w',g',hr,hsr⟩:=Qbls P h hd (cl.argTypes.getD 0 0) o.type e ht hze hzl t0 hx1 hst;refine .inl ⟨val,w',g',hex val w' ?_,?_⟩
     ·refine Qhu P _ ?_;rw [htt,hargs];subst hx0;simpa [Act.eval] using hr
     ·refine Qbr6 hsr (fun i=>?_);have key:∀ i,Q7 σ.s [Arg.t t0,a1] (Qbu (.append (P.cellsOf e) (P.bytesOf e)) [Arg.val σ.s (.t t0),a1.val σ.s]) i=σ.s.put t0 (σ.s t0).dem i∨Q7 σ.s [Arg.t t0,a1] (Qbu (.append (P.cellsOf e) (P.bytesOf e)) [Arg.val σ.s (.t t0),a1.val σ.s]) i=(σ.s.put t0 (σ.s t0).dem i).dem:=by
       intro i;cases a1 with
       | c v=>exact .inl rfl
       | t j =>
        simp only [Qbu,Q7,Arg.putTo,Sl.put,Arg.val];by_cases hij:i=j
        ·subst hij;right;rw [if_pos rfl];split
         ·rename_i he;subst he;exact (Qd8 _).symm
         ·rfl
        ·left;rw [if_neg hij]
      cases o.dst with
      | none=>exact key i
      | some d =>
       simp only [Qbf,Sl.put];split
       ·exact .inl rfl
       ·exact key i
    ·cases hc0
   case len =>
    split at hk<;>try (cases hk;done)
    rename_i hsz;simp only [Option.bind_eq_some_iff] at hk;obtain ⟨as',has,hk⟩:=hk;obtain ⟨h1,h2⟩:=Qd5 P h _ _ _ _ has;obtain ⟨u,hu1,hu2⟩:=Qbp5 cl.args a.eval hsz.1;rw [hu2] at h1;obtain ⟨x',hx',r1⟩:=Qbl6 h1;have hty:=Qbob cl.argTypes hsz.2;split at hk<;>try (cases hk;done)
    ·rename_i e ht;cases hk;obtain ⟨v,M',hst,rfl⟩:=plain rfl;refine Qct P h hd hz hst h2 ?_;rw [hx'] at hst;obtain ⟨hM,val,hr,hrf⟩:=Qbq5 P (cl.argTypes.getD 0 0) o.type e ht h.mem r1 hst;refine ⟨hM,val,hex val w ?_,hrf⟩;refine Qhu P _ ?_;rw [hty,hu1];exact hr
    ·rename_i km em ht;cases hk;obtain ⟨v,M',hst,rfl⟩:=plain rfl;refine Qct P h hd hz hst h2 ?_;rw [hx'] at hst;obtain ⟨hM,val,hr,hrf⟩:=Qbp4 P (cl.argTypes.getD 0 0) o.type ht h.mem r1 hst;refine ⟨hM,val,hex val w ?_,hrf⟩;refine Qhu P _ ?_;rw [hty,hu1];exact hr
    ·rename_i ht;cases hk;obtain ⟨v,M',hst,rfl⟩:=plain rfl;refine Qct P h hd hz hst h2 ?_;rw [hx'] at hst;obtain ⟨hM,val,hr,hrf⟩:=Qbpv P (cl.argTypes.getD 0 0) o.type ht r1 hst;refine ⟨hM,val,hex val w ?_,hrf⟩;refine Qhu P _ ?_;rw [hty,hu1];exact hr
   case max =>
    split at hk<;>try (cases hk;done)
    rename_i hsz;simp only [Option.map_eq_some_iff,Prod.mk.injEq] at hk;obtain ⟨as',has,rfl,rfl,rfl⟩:=hk;obtain ⟨h1,h2⟩:=Qd5 P h _ _ _ _ has;obtain ⟨u1,u2,hu1,hu2⟩:=Qbl5 cl.args a.eval hsz;rw [hu2] at h1;obtain ⟨x',y',hx',r1,r2⟩:=Qbcp h1;obtain ⟨v,M',hst,rfl⟩:=plain rfl;refine Qct P h hd hz hst h2 ?_;rw [hx'] at hst;obtain ⟨hM,val,hr,hrf⟩:=Qbpx P cl.argTypes o.type r1 r2 hst;refine ⟨hM,val,hex val w (Qhu P _ ?_),hrf⟩;rw [hu1];exact hr
   case min =>
    split at hk<;>try (cases hk;done)
    rename_i hsz;simp only [Option.map_eq_some_iff,Prod.mk.injEq] at hk;obtain ⟨as',has,rfl,rfl,rfl⟩:=hk;obtain ⟨h1,h2⟩:=Qd5 P h _ _ _ _ has;obtain ⟨u1,u2,hu1,hu2⟩:=Qbl5 cl.args a.eval hsz;rw [hu2] at h1;obtain ⟨x',y',hx',r1,r2⟩:=Qbcp h1;obtain ⟨v,M',hst,rfl⟩:=plain rfl;refine Qct P h hd hz hst h2 ?_;rw [hx'] at hst;obtain ⟨hM,val,hr,hrf⟩:=Qbpy P cl.argTypes o.type r1 r2 hst;refine ⟨hM,val,hex val w (Qhu P _ ?_),hrf⟩;rw [hu1];exact hr
end
end Go.Abs
end
section
namespace Go.Abs
open Go
def Qj8 (P : Program) (f : FuncId) : Bool := (P.funcs[f]?).any fun fn => fn.body.isSome && fn.name != "runtime.NumGoroutine"
def Qbra (g:G):Prop:=∀ b,(∀ t p,g.own b ≠ .slot t p)∧∀ p,g.own b ≠ .res p
def ACalls (P:Program):Ctx:=fun f args M nb r M' nb' =>
 Qj8 P f=true∧nb≤nb'∧∀ (w:World) (g:G) (us:List Value),MR g w M nb→MOn (There M) M→Qbra g→RFs g w args us→(∀ x∈args,Flat x)→V.ons (There M) args →
  Calls P f us.toArray w fun e w'=>∃ v g',e = .returned v∧MR g' w' M' nb'∧RV g' w' r (.res []) v∧r.on (There M')∧MOn (There M') M'∧Fr nb g w g' w'
def hide:Owner→Owner
 | .slot t p=>.hid 0 t p
 | .res p=>.ext
 | .hid n t p=>.hid (n+1) t p
 | o=>o
def Q6t (d:Nat):Owner→Owner
 | .slot _ _=>.ext
 | .res p=>.slot d p
 | .hid 0 t p=>.slot t p
 | .hid (n+1) t p=>.hid n t p
 | o=>o
theorem Qbfn (o:Owner) (i:Nat):hide (o.sub i)=(hide o).sub i:=by cases o<;>rfl
theorem Qbah (d:Nat) (o:Owner) (i:Nat):Q6t d (o.sub i)=(Q6t d o).sub i:=by
 cases o<;>try rfl
 rename_i n t p;cases n<;>rfl
theorem Qboc {o:Owner} {k:Nat}:hide o = .box k↔o = .box k:=by cases o<;>simp [hide]
theorem Qbki {d:Nat} {o:Owner} {k:Nat}:Q6t d o = .box k↔o = .box k:=by
 cases o<;>try simp [Q6t]
 rename_i n t p;cases n<;>simp [Q6t]
theorem MR.re {g:G} {w:World} {M:Mem} {nb:Nat} (hm:MR g w M nb) {f:Owner→Owner} (hs:∀ o i,f (o.sub i)=(f o).sub i) (he:f .ext = .ext) (hb:∀ o k,f o = .box k↔o = .box k):MR (g.re f) w M nb:=by
 refine ⟨fun k b hk=>?_,fun b o hbo=>⟨(hm.imm b o hbo).1,fun k e=>(hm.imm b o hbo).2 k ((hb _ _).1 e)⟩⟩;obtain ⟨h1,h2,h3⟩:=hm.box k b hk;refine ⟨h1,(hb _ _).2 h2,?_⟩;cases b with
 | mp es c =>
  obtain ⟨ents,hh,hr⟩:=h3;exact ⟨ents,hh,Qbgh (g:=g) (g':=g.re f) (Imm.refl _ _) (fun b i hbi _=>⟨by show f (g.own b)=_;rw [hbi];have:=hs (.box k) i;rwa [(hb (.box k) k).2 rfl] at this,rfl,fun _=>Iff.rfl⟩) hr⟩
 | cells cs =>
  obtain ⟨vals,e,hh,hr,ho⟩:=h3;have:=RVs_re hs he cs (.box k) 0 vals hr;rw [(hb (.box k) k).2 rfl] at this;exact ⟨vals,e,hh,this,ho⟩
section
variable (P:Program) {g:G} {w:World} {n0 nt:Nat} {g0:G} {w0:World} {σ:St} {a:Act}
theorem Qbfo {g:G} {w:World} {f:Owner→Owner} (hs:∀ o i,f (o.sub i)=(f o).sub i) (he:f .ext = .ext):∀ {vs:List V} {us:List Value},(∀ x∈vs,Flat x)→RFs g w vs us→RFs (g.re f) w vs us
 | [],us,_,h=>h
 | v::vs,us,hf,⟨u,us',e,r,h⟩=>⟨u,us',e,fun ℓ=>Qvm (hf v (by simp)) (Q8s hs he v .ext u (r .ext)),Qbfo hs he (fun x hx=>hf x (by simp [hx])) h⟩
theorem SR.behind (h:SR n0 nt g0 w0 σ a w g) {g2:G} {w2:World} {M' : Mem} {nb' : Nat} {r:V} {v:Value} {dst:Option Nat} (hd:∀ d,dst=some d→d<nt)
  (hm:MR g2 w2 M' nb') (hr:RV g2 w2 r (.res []) v) (hron:r.on (There M')) (hM:MOn (There M') M') (hf:Fr σ.nb (g.re hide) w g2 w2) (hnb:σ.nb≤nb')
  (hkeep:∀ k,There σ.M k→There M' k) (hout:∀ k cs,M' k=some (.cells cs)→k<n0→V.ons (· < n0) cs) :
  SR n0 nt g0 w0 ⟨Qbf σ.s dst r,M',nb'⟩ (a.put dst v) w2 (g2.re (Q6t (dst.getD 0))):=by
 have hkept:Kept (g.re hide) w g2 w2 (There σ.M) Prot:=by
  refine ⟨hf.imm,fun k hk=>?_,fun b hb hlt=>hf.old b hlt hb⟩;obtain ⟨b,hb⟩:=Option.isSome_iff_exists.1 hk;exact hf.box k (h.mem.box k b hb).1
 have hps:∀ ℓ i,Prot ℓ→Prot (ℓ.sub i):=by intro ℓ i hp;cases ℓ<;>simp_all [Prot,Owner.sub]
 refine ⟨hm.re (Qbah _) rfl (fun o k=>Qbki),Qfe (fun d hd'=>by rw [h.size];exact hd d hd') (fun t ht=>?_) (fun d hd'=>?_),(Qgh _ _ _).trans h.size,(Qd3 _ _ _).trans h.defers,
  Qff (fun t=>Qf8 hkeep _ (h.onS t)) hron,fun k cs hk=>⟨hM k cs hk,hout k cs hk⟩,Nat.le_trans h.top hnb,?_⟩
 ·have h1:=Q8s Qbfn rfl _ _ _ (h.slots t);have h2:=Qe8 hkept hps trivial _ _ _ (show Prot (hide (.slot t [])) from trivial) (h.onS t) h1;exact Q8s (Qbah _) rfl _ _ _ h2
 ·have:=Q8s (Qbah (dst.getD 0)) rfl _ _ _ hr;simpa [Q6t,hd'] using this
 ·have hle:n0≤σ.nb:=by have:=h.top;omega
  have hfr:=h.fr;refine ⟨hf.os.trans hfr.os,hf.tape.trans hfr.tape,hf.output.trans hfr.output,Nat.le_trans hfr.size hf.size,⟨fun b o hb=>hf.imm.mono b o (hfr.imm.mono b o hb),fun b o hb=>(hf.imm.look b o (hfr.imm.mono b o hb)).trans (hfr.imm.look b o hb)⟩,
   fun k hk=>(hf.box k (by omega)).trans (hfr.box k hk),fun b hb ho=>?_⟩
  obtain ⟨h1,h2,h3⟩:=hfr.old b hb ho;have hp:Prot ((g.re hide).own b):=by
   show Prot (hide (g.own b));rw [h1];cases hq:g0.own b<;>rw [hq] at ho<;>first|exact ho.elim|exact trivial
  obtain ⟨k1,k2,k3⟩:=hf.old b (Nat.lt_of_lt_of_le hb hfr.size) hp;refine ⟨?_,k2.trans h2,fun o=>(k3 o).trans (h3 o)⟩;show Q6t _ (g2.own b)=_;rw [k1];show Q6t _ (hide (g.own b))=_;rw [h1];cases hq:g0.own b<;>rw [hq] at ho<;>first|exact ho.elim|rfl
theorem Qbkj (g:G):Qbra (g.re hide):=by
 intro b;constructor
 ·intro t p;show hide (g.own b)≠_;cases g.own b<;>simp [hide]
 ·intro p;show hide (g.own b)≠_;cases g.own b<;>simp [hide]
theorem Qbbc {f:FuncId} (hb:Qj8 P f=true) (args:Array Value) (w:World):(callFunc f args).run P w = .ok (.enter f args) w:=by
 unfold Qj8 at hb;cases hf:P.funcs[f]? with
 | none=>simp [hf] at hb
 | some fn =>
  simp only [hf,Option.any_some,Bool.and_eq_true,bne_iff_ne,ne_eq] at hb
  have h1 : (fn.name == "runtime.NumGoroutine") = false := by simpa using hb.2
  have h2:fn.body.isNone=false:=by cases hfb:fn.body<;>simp_all
  have h3 : ¬ fn.name = "runtime.NumGoroutine" := hb.2
  have h4:¬ fn.body=none:=by intro e;simp [e] at h2
  simp [callFunc,hf,h3,h4]
theorem Qbef {g:G} {w:World}:∀ {xs ys:List V} {us vs:List Value},RFs g w xs us→RFs g w ys vs→RFs g w (xs++ys) (us++vs)
 | [],ys,us,vs,h,k=>by simp only [RFs] at h;subst h;simpa using k
 | x::xs,ys,us,vs,⟨u,us',e,r,h⟩,k=>by subst e;exact ⟨u,us'++vs,by simp,r,Qbef h k⟩
theorem Qbeg {g:G} {w:World}:∀ {cs:List V} {i:Nat} {us:List Value},RVs g w (V.dems cs) .free i us→RFs g w (V.dems cs) us
 | [],i,us,h=>by simpa [V.dems,RVs,RFs] using h
 | c::cs,i,us,h=>by
  simp only [V.dems,RVs] at h;obtain ⟨u,us',rfl,h1,h2⟩:=h;exact ⟨u,us',rfl,fun ℓ=>Qvm (Qd8 c) h1,Qbeg h2⟩
end
end Go.Abs
end
section
namespace Go.Abs
open Go
section
variable {P:Program} {C:Ctx} {g:G} {w:World} {n0 nt:Nat} {g0:G} {w0:World} {σ:St} {a:Act}
theorem Qbif {T:Tk} {ops:Array Oper} {o:Oper} {c:COp} (hc:Qjm P T nt ops o=some c) (hcall:c.kind.isCall=true) (h:SR n0 nt g0 w0 σ a w g) {f:FuncId} {args:List V} (hcal:c.callee σ.s=some (f,args)) (hb:Qj8 P f=true) :
  c.dst=o.dst∧(∀ d,o.dst=some d→d<nt)∧∃ us:List Value,(execOp a.eval o).run P w = .ok (.enter f us.toArray) w∧RFs g w args us∧(∀ x∈args,Flat x)∧V.ons (There σ.M) args:=by
 obtain ⟨k,as,tk,hk,hd,hcd,hck,hca⟩ : ∃ k as tk,Qlj P T o=some (k,as,tk)∧(∀ d,o.dst=some d→d<nt)∧c.dst=o.dst∧c.kind=k∧c.args=as:=by
  unfold Qjm at hc;split at hc<;>try (cases hc;done)
  rename_i k as tk hk;split at hc<;>try (cases hc;done)
  rename_i hcond;simp only [Bool.and_eq_true,decide_eq_true_eq] at hcond;refine ⟨k,as,tk,hk,fun d hd=>?_,?_⟩
  ·have:=hcond.1.2;rw [hd] at this;simpa [Qbnx] using this
  ·split at hc
   ·cases hc;exact ⟨rfl,rfl,rfl⟩
   ·split at hc<;>cases hc;exact ⟨rfl,rfl,rfl⟩
 refine ⟨hcd,hd,?_⟩;rw [hck] at hcall;simp only [COp.callee,hck,hca] at hcal;clear hcd hck hca hc;have nocall:∀ {k:K},k.isCall=true→(∃ f,k = .call f)∨k = .callv:=by intro k hk;cases k<;>simp_all [K.isCall]
 have hcl:∃ cl x,o.op = .call cl∧cl.callee = .value x:=by
  unfold Qlj Qbab at hk;cases hop:o.op<;>rw [hop] at hk<;>(try simp only at hk)
  case call cl =>
   cases hcl:cl.callee with
   | value x=>exact ⟨cl,x,rfl,hcl⟩
   | invoke=>rw [hcl] at hk;cases hk
   | builtin b =>
    rw [hcl] at hk;exfalso;cases b<;>simp only at hk<;>(repeat' split at hk)<;>first
     | (cases hk;done)
     | (simp only [Option.bind_eq_some_iff,Option.map_eq_some_iff,Option.some.injEq,Prod.mk.injEq] at hk;grind [K.isCall])
  all_goals
   exfalso
   (repeat' split at hk)<;>first
    | (cases hk;done)
    | (simp only [Option.bind_eq_some_iff,Option.map_eq_some_iff,Option.some.injEq,Prod.mk.injEq] at hk;grind [K.isCall])
 obtain ⟨cl,x,hop,hcl⟩:=hcl;unfold Qlj at hk;rw [hop] at hk;simp only [hcl] at hk;cases x<;>(try simp only at hk)<;>try (cases hk;done)
 case tmp t =>
  simp only [Option.map_eq_some_iff,Prod.mk.injEq] at hk;obtain ⟨as',has,rfl,rfl,rfl⟩:=hk;simp only [List.map_cons,Arg.val] at hcal;cases hst:σ.s t<;>rw [hst] at hcal<;>simp only at hcal<;>try (cases hcal;done)
  rename_i f' caps;simp only [Option.some.injEq,Prod.mk.injEq] at hcal;obtain ⟨rfl,rfl⟩:=hcal;obtain ⟨h1,h2⟩:=Qd5 P h _ _ _ _ has;have hslot:=h.slots t;have hon:=h.onS t;rw [hst] at hslot hon;simp only [RV] at hslot;obtain ⟨vs,hvs,hr⟩:=hslot;refine ⟨cl.args.toList.map a.eval++vs,?_,?_,?_,?_⟩
  ·have hev:a.eval (.tmp t) = .func (.func f') #[] vs.toArray:=hvs;have e:cl.args.map a.eval++vs.toArray=(cl.args.toList.map a.eval++vs).toArray:=by apply Array.ext';simp
   simp only [execOp,hop,resolve,hcl,Sem.run_bind,hev,Deferred.ofValue,Sem.run_pure,Result.andThen_ok,invoke,Array.empty_append];rw [e];exact Qbbc P hb _ w
  ·exact Qbef h1 (Qbeg (RVs_dem caps .ext .free 0 0 vs hr))
  ·intro x hx;rcases List.mem_append.1 hx with hx|hx
   ·exact Qhq x hx
   ·exact Qhq x hx
  ·exact Qg5.2 ⟨h2,(ons_dems caps).2 hon⟩
 case func f' =>
  split at hk<;>try (cases hk;done)
  simp only [Option.map_eq_some_iff,Prod.mk.injEq] at hk;obtain ⟨as',has,rfl,rfl,rfl⟩:=hk;simp only [Option.some.injEq,Prod.mk.injEq] at hcal;obtain ⟨rfl,rfl⟩:=hcal;obtain ⟨h1,h2⟩:=Qd5 P h _ _ _ _ has;refine ⟨cl.args.toList.map a.eval,?_,h1,Qhq,h2⟩;have hev:a.eval (.func f') = .func (.func f') #[] #[]:=rfl;have e:cl.args.map a.eval ++ #[]=(cl.args.toList.map a.eval).toArray:=by apply Array.ext';simp
  simp only [execOp,hop,resolve,hcl,Sem.run_bind,hev,Deferred.ofValue,Sem.run_pure,Result.andThen_ok,invoke,Array.empty_append];rw [e];exact Qbbc P hb _ w
def Qbl7 (P:Program) (C:Ctx):Prop:=∀ f args M nb r M' nb',C f args M nb r M' nb'→ACalls P f args M nb r M' nb'
theorem Qbgt {T:Tk} {ops:Array Oper} {o:Oper} {c:COp} (hc:Qjm P T nt ops o=some c) :
  (o.guard=none∧c.guard=none)∨∃ j want t,o.guard=some (j,want)∧(ops[j]?).bind (·.dst)=some t∧c.guard=some (t,want):=by
 unfold Qjm at hc;split at hc<;>try (cases hc;done)
 split at hc<;>try (cases hc;done)
 split at hc
 ·rename_i hg;cases hc;exact .inl ⟨hg,rfl⟩
 ·rename_i j want hg;split at hc<;>cases hc;rename_i t ht;exact .inr ⟨j,want,t,hg,ht,rfl⟩
theorem Qbeh {T:Tk} {ops:Array Oper} {o:Oper} {c:COp} (hc:Qjm P T nt ops o=some c):c.dst=o.dst∧∀ d,o.dst=some d→d<nt:=by
 unfold Qjm at hc;split at hc<;>try (cases hc;done)
 split at hc<;>try (cases hc;done)
 rename_i hcond;simp only [Bool.and_eq_true,decide_eq_true_eq] at hcond;have hd:∀ d,o.dst=some d→d<nt:=fun d hd=>by have:=hcond.1.2;rw [hd] at this;simpa [Qbnx] using this
 split at hc
 ·cases hc;exact ⟨rfl,hd⟩
 ·split at hc<;>cases hc;exact ⟨rfl,hd⟩
theorem Qbl8 (h:SR n0 nt g0 w0 σ a w g) {T:Tk} {ops:Array Oper} {o:Oper} {c:COp} (hc:Qjm P T nt ops o=some c) {b:Bool} (hw:c.wanted σ.s=some b) :
  Region.wanted o (yielded ops a.tmps)=b:=by
 rcases Qbgt hc with ⟨h1,h2⟩|⟨j,want,t,h1,h2,h3⟩
 ·simp only [COp.wanted,h2,Option.some.injEq] at hw;simp [Region.wanted,h1,hw]
 ·simp only [COp.wanted,h3] at hw;have hslot:=h.slots t;cases hs:σ.s t<;>rw [hs] at hw hslot<;>(try simp only at hw)<;>try (cases hw;done)
  ·rename_i dx;cases dx<;>(try simp only at hw)<;>try (cases hw;done)
   rename_i q;simp only [Option.some.injEq] at hw;simp only [RV,RD] at hslot;have hy:yielded ops a.tmps j=some q:=by
    simp only [yielded,h2,Option.bind_some];cases ht:a.tmps[t]? with
    | none=>simp [ht,undef] at hslot
    | some v =>
     simp [ht] at hslot;subst hslot;rfl
   simp only [Region.wanted,h1,hy,← hw];cases q<;>cases want<;>rfl
  ·rename_i vs;cases vs with
   | cons=>simp at hw
   | nil =>
    simp only [Option.some.injEq] at hw;subst hw;simp only [RV,RVs] at hslot;obtain ⟨vs,hv,rfl⟩:=hslot;have hy:yielded ops a.tmps j=none:=by
     simp only [yielded,h2,Option.bind_some];cases ht:a.tmps[t]? with
     | none=>rfl
     | some v=>simp [ht] at hv;subst hv;rfl
    simp [Region.wanted,h1,hy]
theorem Qbdv {T:Tk} {o:Oper} {k:K} {as:List Arg} {tk:Bool} (hk:Qlj P T o=some (k,as,tk)) (hn:k.isNil=true) :
  ∃ op t x ar e,o.op = .binOp op t x (.const (.slice none 0 0)) (match o.op with | .binOp _ _ _ _ yt=>yt|_=>0)∧Qe7 P t x=some ar∧as=[ar]∧tk=false∧P.underlying t=some (.slice e)∧(op = .eql∧k = .isnil false∨op = .neq∧k = .isnil true):=by
 unfold Qlj Qbab at hk;cases hop:o.op<;>rw [hop] at hk<;>(try simp only at hk)
 case binOp op t x y yt =>
  split at hk<;>try (cases hk;done)
  rename_i xa ya hxa hya;split at hk<;>try (cases hk;done)
  ·rename_i e hu;split at hk<;>try (cases hk;done)
   ·simp only [Option.some.injEq,Prod.mk.injEq] at hk;obtain ⟨rfl,rfl,rfl⟩:=hk;exact ⟨_,t,x,xa,e,rfl,hxa,rfl,rfl,hu,.inl ⟨rfl,rfl⟩⟩
   ·simp only [Option.some.injEq,Prod.mk.injEq] at hk;obtain ⟨rfl,rfl,rfl⟩:=hk;exact ⟨_,t,x,xa,e,rfl,hxa,rfl,rfl,hu,.inr ⟨rfl,rfl⟩⟩
  all_goals
   exfalso
   (repeat' split at hk)<;>first
    | (cases hk;done)
    | (simp only [Option.bind_eq_some_iff,Option.map_eq_some_iff,Option.some.injEq,Prod.mk.injEq] at hk;grind [K.isNil])
 all_goals
  exfalso
  (repeat' split at hk)<;>first
   | (cases hk;done)
   | (simp only [Option.bind_eq_some_iff,Option.map_eq_some_iff,Option.some.injEq,Prod.mk.injEq] at hk;grind [K.isNil])
theorem Qbfp (hC:Qbl7 P C) {T:Tk} {ops:Array Oper} {o:Oper} {c:COp} (hc:Qjm P T nt ops o=some c) {pc:Nat} {Q:St→Prop} (h:SR n0 nt g0 w0 σ a w g) (hrun:c.run C n0 pc σ Q)
  {KK:Act→World→Prop} {QQ:Exit→Act→World→Prop} (hK:∀ σ' a' w' g',Q σ'→SR n0 nt g0 w0 σ' a' w' g'→KK a' w') :
  if Region.wanted o (yielded ops a.tmps) then o.wp P a w KK QQ else KK (a.put o.dst undef) w:=by
 obtain ⟨hdst,hd⟩:=Qbeh hc;unfold COp.run at hrun;cases hw:c.wanted σ.s with
 | none=>rw [hw] at hrun;exact hrun.elim
 | some b =>
  rw [Qbl8 h hc hw];rw [hw] at hrun;cases b with
  | false =>
   simp only [Bool.false_eq_true,if_false];refine hK _ _ _ g hrun ?_;rw [hdst];exact h.pure hd (fun _ _=>by simp [RV,RVs,undef]) trivial
  | true =>
   simp only [if_true] at hrun ⊢;cases hcall:c.kind.isCall with
   | true =>
    rw [hcall] at hrun;simp only [if_true] at hrun;cases hcal:c.callee σ.s with
    | none=>rw [hcal] at hrun;exact hrun.elim
    | some fa =>
     obtain ⟨f,args⟩:=fa;rw [hcal] at hrun;simp only at hrun;have key:∀ r M nb,C f args σ.M σ.nb r M nb→(∀ k,(σ.M k).isSome=true→(M k).isSome=true)→(∀ k cs,k<n0→M k=some (.cells cs)→M k=σ.M k∨V.lt.go n0 cs=true)→Q ⟨Qbf σ.s c.dst r,M,nb⟩→o.wp P a w KK QQ:=by
      intro r M nb hCc hkeep hout hq;obtain ⟨hbody,hnb,hcalls⟩:=hC _ _ _ _ _ _ _ hCc;obtain ⟨_,_,us,hex,hus,hfl,hons⟩:=Qbif hc hcall h hcal hbody;unfold Oper.wp;rw [hex];have hm:=h.mem.re Qbfn rfl (fun o k=>Qboc);have hus':=Qbfo Qbfn rfl hfl hus;refine (hcalls w (g.re hide) us hm h.mOn (Qbkj g) hus' hfl hons).mono ?_;rintro e w' ⟨v,g',rfl,hm',hr',hron,hMon,hfr⟩;refine hK _ _ _ (g'.re (Q6t (o.dst.getD 0))) hq ?_;rw [hdst];refine h.behind hd hm' hr' hron hMon hfr hnb hkeep fun k cs hk hlt=>?_;rcases hout k cs hlt hk with he|hl
      ·exact h.out k cs (he ▸ hk) hlt
      ·exact ons_lt cs hl
     match pc,hrun with
     | 0,⟨r,M,nb,h1,h2,h3,h4⟩=>exact key r M nb h1 h2 h3 h4
     | 1,⟨r,Δ,nb,h1,h4⟩ =>
      have hin:∀ k,(σ.M k).isSome=true→k<σ.nb:=fun k hk=>by
       obtain ⟨b,hb⟩:=Option.isSome_iff_exists.1 hk;exact (h.mem.box k b hb).1
      refine key r (σ.M.over σ.nb Δ) nb (h1 σ.M (fun _ _=>rfl) fun k hk=>?_) (fun k hk=>?_) (fun k cs hlt hk=>.inl ?_) h4
      ·cases hM:σ.M k with
       | none=>rfl
       | some b=>have:=hin k (by simp [hM]);omega
      ·simp only [Mem.over,hin k hk,if_true];exact hk
      ·have:=h.top;simp only [Mem.over,show k<σ.nb by omega,if_true]
     | n+2,hrun =>
      have hrun:(if n<8 then _ else _):=hrun;split at hrun
      ·obtain ⟨r,h1,h4⟩:=hrun;exact key r σ.M σ.nb (h1 _ _) (fun _ hk=>hk) (fun _ _ _ _=>.inl rfl) h4
      ·obtain ⟨r,W,Δ,nb,_,hW,hW2,h1,h4⟩:=hrun;have hin:∀ k,(σ.M k).isSome=true→k<σ.nb:=fun k hk=>by
        obtain ⟨b,hb⟩:=Option.isSome_iff_exists.1 hk;exact (h.mem.box k b hb).1
       refine key r ((σ.M.patch W).over σ.nb Δ) nb (h1 σ.M (fun _ _=>rfl) fun k hk=>?_) (fun k hk=>?_) (fun k cs hlt hk=>?_) h4
       ·cases hM:σ.M k with
        | none=>rfl
        | some b=>have:=hin k (by simp [hM]);omega
       ·simp only [Mem.over,hin k hk,if_true,Mem.patch];cases W k with
        | none=>exact hk
        | some b=>rfl
       ·have:=h.top;simp only [Mem.over,show k<σ.nb by omega,if_true,Mem.patch] at hk ⊢;cases hw:W k with
        | none=>exact .inl rfl
        | some b =>
         rw [hw] at hk;cases hk;exact .inr (hW2 k cs hlt hw)
   | false =>
    rw [hcall] at hrun;simp only [Bool.false_eq_true,if_false] at hrun;cases hnil:c.kind.isNil with
    | true =>
     rw [hnil] at hrun;simp only [if_true] at hrun;obtain ⟨k,as,tk,hk,hck,hca,hct⟩ : ∃ k as tk,Qlj P T o=some (k,as,tk)∧c.kind=k∧c.args=as∧c.tk=tk:=by
      unfold Qjm at hc;split at hc<;>try (cases hc;done)
      rename_i k as tk hk;split at hc<;>try (cases hc;done)
      refine ⟨k,as,tk,hk,?_⟩;split at hc
      ·cases hc;exact ⟨rfl,rfl,rfl⟩
      ·split at hc<;>cases hc;exact ⟨rfl,rfl,rfl⟩
     obtain ⟨op,t,x,ar,e,hop,har,rfl,rfl,hu,hkk⟩:=Qbdv hk (by rw [← hck];exact hnil);obtain ⟨h1,h2⟩:=Qg6 P h har;simp only [COp.xs,hct,hca,Bool.false_eq_true,if_false,List.map_cons,List.map_nil,V.dems] at hrun;have hsl:∃ (m:Nat) (ad:Option Addr) (ln cap:Nat),Qbd1 [(ar.val σ.s).dem]=some m∧a.eval x = .slice ad ln cap∧(ad.isNone=true→m=0):=by
      have ofD:∀ (l:List (List D)) (sz:Nat),RD g.imm w (.lst sz l) (a.eval x)→∃ (ad:Option Addr) (ln cap:Nat),a.eval x = .slice ad ln cap∧(ad.isNone=true→l.length=0):=by
       intro l sz hrd;simp only [RD] at hrd;obtain ⟨ad,cap,hval,_,hld⟩:=hrd;refine ⟨ad,_,cap,hval,fun hnone=>?_⟩;rcases hld with rfl|⟨b,o',rfl,_⟩
       ·rfl
       ·simp at hnone
      cases hv:(ar.val σ.s).dem<;>rw [hv] at hrun h1<;>(try (simp [Qbd1] at hrun;done))
      ·rename_i dx;cases dx<;>(try (simp [Qbd1] at hrun;done));obtain ⟨ad,ln,cap,k1,k2⟩:=ofD _ _ (RF_d.1 h1);exact ⟨_,ad,ln,cap,rfl,k1,k2⟩
      ·have:=Qd8 (ar.val σ.s);rw [hv] at this;simp [V.dem] at this
      ·have h2:=h1 .free;simp only [RV] at h2;obtain ⟨ad,h2⟩:=h2;exact ⟨0,ad,0,0,rfl,h2,fun _=>rfl⟩
      ·have h2:=h1 .free;simp only [RV] at h2;exact ⟨1,_,_,_,rfl,h2,fun hn=>by simp at hn⟩
     obtain ⟨m,ad,ln,cap,hl,hval,hld⟩:=hsl;rw [hl] at hrun;simp only at hrun;have hb:=hrun ad.isNone hld;have hres:(execOp a.eval o).run P w = .ok (.value (.bool (if c.kind.negNil then !ad.isNone else ad.isNone))) w:=by
      simp only [execOp];rw [hop];simp only;refine Qhu P _ ?_;have hev:a.eval (.const (.slice none 0 0)) = .slice none 0 0:=rfl;rw [hval,hev,Sem.run_bind,Qy6 P _ _ _ _ _ _ rfl w,Result.andThen_ok];rcases hkk with ⟨rfl,rfl⟩|⟨rfl,rfl⟩
      ·rw [hck];exact Lib.run_eql_slice_nil w t e ad ln cap 0 0 hu
      ·rw [hck];exact run_neq_slice_nil_any w t e ad ln cap 0 0 hu
     unfold Oper.wp;rw [hres];refine hK _ _ _ g hb ?_;rw [hdst];exact h.pure hd (fun _ _=>by simp [RV,RD]) trivial
    | false =>
     rw [hnil] at hrun;simp only [Bool.false_eq_true,if_false] at hrun;cases hst:c.step n0 σ with
     | none=>rw [hst] at hrun;exact hrun.elim
     | some σ' =>
      rw [hst] at hrun;exact (Qbkh P hc hcall hnil h hst).wp P fun a' w' g' hs=>hK _ _ _ g' hrun hs
end
end Go.Abs
end
section
namespace Go.Abs
open Go
def CallStp (C:Ctx) (n0 pc:Nat) (d:Option Nat) (f:FuncId) (args:List V) (M:Mem) (nb:Nat) (r:V) (M' : Mem) (nb' : Nat):Prop :=
 match pc with
 | 0=>C f args M nb r M' nb'∧(∀ k,(M k).isSome=true→(M' k).isSome=true)∧(∀ k cs,k<n0→M' k=some (.cells cs)→M' k=M k∨V.lt.go n0 cs=true)
 | 1=>∃ Δ,(∀ M2:Mem,(∀ k,(M k).isSome=true→M2 k=M k)→(∀ k,nb≤k→M2 k=none)→C f args M2 nb r (M2.over nb Δ) nb')∧M'=M.over nb Δ
 | n+2=>if n<8 then (∀ M nb,C f args M nb r M nb)∧M'=M∧nb'=nb
  else ∃ W Δ,(wrs (n-8) d=true∨∀ k,W k=none)∧(∀ k,(W k).isSome=true→(M k).isSome=true)∧(∀ k cs,k<n0→W k=some (.cells cs)→V.lt.go n0 cs=true) ∧
   (∀ M2:Mem,(∀ k,(M k).isSome=true→M2 k=M k)→(∀ k,nb≤k→M2 k=none)→C f args M2 nb r ((M2.patch W).over nb Δ) nb')∧M'=(M.patch W).over nb Δ
def Core (C:Ctx) (n0 pc:Nat) (o:COp) (s:Sl) (M:Mem) (nb:Nat) (v:V) (M' : Mem) (nb' : Nat):Prop :=
 match o.wanted s with
 | some true =>
  if o.kind.isCall then ∃ f args,o.callee s=some (f,args)∧CallStp C n0 pc o.dst f args M nb v M' nb'
  else if o.kind.isNil then False
  else Qn n0 (n0+o.dst.getD 0) o.kind (o.xs s) M=some (v,M')∧nb'=nb
 | some false=>v = .tup []∧M'=M∧nb'=nb
 | none=>False
def pv (o:COp) (s:Sl):List V:=if o.wanted s=some true∧o.kind.isCall=false∧o.tk=true then Qbu o.kind (o.xs s) else []
def Stp (C:Ctx) (n0 pc:Nat) (o:COp) (σ σ' : St):Prop :=
 ∃ v,Core C n0 pc o σ.s σ.M σ.nb v σ'.M σ'.nb∧σ'.s=Qbf (Q7 σ.s o.args (pv o σ.s)) o.dst v
theorem Qdr (s:Sl) (as:List Arg):Q7 s as []=s:=by cases as<;>rfl
theorem Qbp7 {C:Ctx} {n0 pc:Nat} {o:COp} {σ:St} {Q:St→Prop} (hn:o.kind.isNil=false) (h:o.run C n0 pc σ Q):∃ σ',Stp C n0 pc o σ σ'∧Q σ':=by
 unfold COp.run at h;cases hw:o.wanted σ.s with
 | none=>rw [hw] at h;exact h.elim
 | some b =>
  rw [hw] at h;cases b with
  | false =>
   refine ⟨_,⟨.tup [],?_,?_⟩,h⟩
   ·simp [Core,hw]
   ·simp [pv,hw,Qdr]
  | true =>
   simp only at h;cases hcall:o.kind.isCall with
   | true =>
    rw [hcall] at h;simp only [if_true] at h;cases hcal:o.callee σ.s with
    | none=>rw [hcal] at h;exact h.elim
    | some fa =>
     obtain ⟨f,args⟩:=fa;rw [hcal] at h;simp only at h;have hpv:pv o σ.s=[]:=by simp [pv,hcall]
     match pc,h with
     | 0,⟨r,M,nb,h1,h2,h3,h4⟩=>exact ⟨_,⟨r,by simp only [Core,hw,hcall,if_true];exact ⟨f,args,hcal,h1,h2,h3⟩,by rw [hpv,Qdr]⟩,h4⟩
     | 1,⟨r,Δ,nb,h1,h4⟩=>exact ⟨_,⟨r,by simp only [Core,hw,hcall,if_true];exact ⟨f,args,hcal,Δ,h1,rfl⟩,by rw [hpv,Qdr]⟩,h4⟩
     | n+2,h =>
      have h:(if n<8 then _ else _):=h;by_cases hn8:n<8
      ·rw [if_pos hn8] at h;obtain ⟨r,h1,h4⟩:=h;exact ⟨_,⟨r,by simp only [Core,hw,hcall,if_true];exact ⟨f,args,hcal,(by show (if n<8 then _ else _);rw [if_pos hn8];exact ⟨h1,rfl,rfl⟩)⟩,by rw [hpv,Qdr]⟩,h4⟩
      ·rw [if_neg hn8] at h;obtain ⟨r,W,Δ,nb,h1,h2,h3,h5,h4⟩:=h;exact ⟨_,⟨r,by simp only [Core,hw,hcall,if_true];exact ⟨f,args,hcal,(by show (if n<8 then _ else _);rw [if_neg hn8];exact ⟨W,Δ,h1,h2,h3,h5,rfl⟩)⟩,by rw [hpv,Qdr]⟩,h4⟩
   | false =>
    rw [hcall,hn] at h;simp only [Bool.false_eq_true,if_false] at h;cases hst:o.step n0 σ with
    | none=>rw [hst] at h;exact h.elim
    | some σ' =>
     rw [hst] at h;refine ⟨σ',?_,h⟩;unfold COp.step at hst;simp only at hst;split at hst<;>cases hst;rename_i v M hk;refine ⟨v,by simp [Core,hw,hcall,hn,hk],?_⟩;simp only [pv,hw,hcall];cases ht:o.tk<;>simp [Qdr]
theorem Qbl9 {C:Ctx} {n0 pc:Nat} {o:COp} {σ σ' : St} {Q:St→Prop} (h:Stp C n0 pc o σ σ') (hq:Q σ'):o.run C n0 pc σ Q:=by
 obtain ⟨v,hc,hs⟩:=h;unfold Core at hc;unfold COp.run;cases hw:o.wanted σ.s with
 | none=>rw [hw] at hc;exact hc.elim
 | some b =>
  rw [hw] at hc;cases b with
  | false =>
   obtain ⟨rfl,h1,h2⟩:=hc;simp only [pv,hw] at hs;simp [Qdr] at hs;show Q _;rw [← hs,← h2,← h1];exact hq
  | true =>
   simp only at hc ⊢;cases hcall:o.kind.isCall with
   | true =>
    rw [hcall] at hc;simp only [if_true] at hc ⊢;obtain ⟨f,args,hcal,hcc⟩:=hc;rw [hcal];simp only;have hpv:pv o σ.s=[]:=by simp [pv,hcall]
    rw [hpv,Qdr] at hs
    match pc,hcc with
    | 0,⟨h1,h2,h3⟩=>exact ⟨v,σ'.M,σ'.nb,h1,h2,h3,by rw [← hs];exact hq⟩
    | 1,⟨Δ,h1,h2⟩=>exact ⟨v,Δ,σ'.nb,h1,by rw [← hs,← h2];exact hq⟩
    | n+2,hcc =>
     have hcc:(if n<8 then _ else _):=hcc;show (if n<8 then _ else _);by_cases hn8:n<8
     ·rw [if_pos hn8] at hcc ⊢;obtain ⟨h1,h2,h3⟩:=hcc;exact ⟨v,h1,by rw [← hs,← h2,← h3];exact hq⟩
     ·rw [if_neg hn8] at hcc ⊢;obtain ⟨W,Δ,h1,h2,h3,h4,h5⟩:=hcc;exact ⟨v,W,Δ,σ'.nb,h1,h2,h3,h4,by rw [← hs,← h5];exact hq⟩
   | false =>
    rw [hcall] at hc;simp only [Bool.false_eq_true,if_false] at hc ⊢;cases hn:o.kind.isNil with
    | true=>rw [hn] at hc;simp at hc
    | false =>
     rw [hn] at hc;simp only [Bool.false_eq_true,if_false] at hc ⊢;obtain ⟨h1,h2⟩:=hc;have:o.step n0 σ=some σ':=by
      unfold COp.step;simp only [h1,Option.some.injEq];have hs' : σ'.s=Qbf (if o.tk=true then Q7 σ.s o.args (Qbu o.kind (o.xs σ.s)) else σ.s) o.dst v:=by
       rw [hs];cases ht:o.tk<;>simp [pv,hw,hcall,ht,Qdr]
      rw [← hs',← h2]
     rw [this];exact hq
theorem Qbma (s:Sl) {t u:Nat} (v x:V) (h:t≠u):(s.put t v).put u x=(s.put u x).put t v:=by
 funext i;simp only [Sl.put];by_cases h1:i=t
 ·subst h1;simp [h]
 ·by_cases h2:i=u
  ·subst h2;simp [h1]
  ·simp [h1,h2]
theorem Qze:∀ (as:List Arg) (vs:List V) (s:Sl) (t:Nat) (x:V),(∀ a∈as,t∉a.slot)→Q7 (s.put t x) as vs=(Q7 s as vs).put t x
 | [],_,_,_,_,_=>by simp [Q7]
 | a::as,[],_,_,_,_=>rfl
 | a::as,v::vs,s,t,x,h=>by
  simp only [Q7];have ha:=h a (by simp);cases a with
  | c w=>exact Qze as vs s t x fun a h'=>h a (by simp [h'])
  | t i =>
   have hne:t≠i:=by simpa [Arg.slot] using ha
   simp only [Arg.putTo];rw [Qbma _ _ _ hne];exact Qze as vs (s.put i v) t x fun a h'=>h a (by simp [h'])
theorem Q2q:∀ (bs:List Arg) (ws:List V) (s:Sl) (as:List Arg) (vs:List V),(∀ a∈as,∀ b∈bs,∀ t∈b.slot,t∉a.slot)→Q7 (Q7 s bs ws) as vs=Q7 (Q7 s as vs) bs ws
 | [],_,_,_,_,_=>by simp [Q7]
 | b::bs,[],_,_,_,_=>rfl
 | b::bs,w::ws,s,as,vs,h=>by
  simp only [Q7];rw [Q2q bs ws _ as vs fun a ha b' hb'=>h a ha b' (by simp [hb'])];congr 1;cases b with
  | c w=>rfl
  | t i =>
   simp only [Arg.putTo];exact Qze as vs s i w fun a ha=>h a ha (.t i) (by simp) i (by simp [Arg.slot])
theorem Qzf:∀ (as:List Arg) (vs:List V) (s:Sl) (t:Nat),(∀ a∈as,t∉a.slot)→Q7 s as vs t=s t
 | [],_,_,_,_=>by simp [Q7]
 | a::as,[],_,_,_=>rfl
 | a::as,v::vs,s,t,h=>by
  simp only [Q7];rw [Qzf as vs _ t fun a h'=>h a (by simp [h'])];have ha:=h a (by simp);cases a with
  | c w=>rfl
  | t i =>
   have hne:t≠i:=by simpa [Arg.slot] using ha
   simp [Arg.putTo,Sl.put,hne]
theorem Qbgu (k:K) (xs:List V):V.dems (Qbu k xs)=V.dems xs:=by
 unfold Qbu;split<;>simp [V.dems,Qd8,dems_dems];rename_i i vs;split
 ·rename_i v hv;simp only [V.dem];congr 1;have:∀ (vs:List V) (i:Nat) (v:V),vs[i]? = some v→V.dems (vs.set i v.dem)=V.dems vs:=by
   intro vs
   induction vs with
   | nil=>intro i v h;simp at h
   | cons a vs ih =>
    intro i v h;cases i with
    | zero=>simp at h;subst h;simp [V.dems,Qd8]
    | succ i=>simp at h;simp [V.dems,ih i v h]
  exact this vs i v hv
 ·rfl
theorem Qf0:∀ vs:List V,V.dems vs=vs.map V.dem
 | []=>rfl
 | v::vs=>by simp [V.dems,Qf0 vs]
theorem Qbcs:∀ (as:List Arg) (vs:List V) (s:Sl),V.dems vs=V.dems (as.map (·.val s))∨vs=[]→∀ t,(Q7 s as vs t).dem=(s t).dem:=by
 intro as vs s h;rcases h with h|rfl
 case inr=>intro t;rw [Qdr]
 suffices H:∀ (as:List Arg) (vs:List V) (s s0:Sl),(∀ t,(s t).dem=(s0 t).dem)→V.dems vs=V.dems (as.map (·.val s0))→∀ t,(Q7 s as vs t).dem=(s0 t).dem from H as vs s s (fun _=>rfl) h
 intro as
 induction as with
 | nil=>intro vs s s0 h1 _ t;simpa [Q7] using h1 t
 | cons a as ih =>
  intro vs s s0 h1 h2 t;cases vs with
  | nil=>exact h1 t
  | cons v vs =>
   simp only [List.map_cons,V.dems,List.cons.injEq] at h2;simp only [Q7];refine ih vs _ s0 (fun t=>?_) h2.2 t;cases a with
   | c w=>exact h1 t
   | t i =>
    simp only [Arg.putTo,Sl.put];split
    ·rename_i he;subst he;exact h2.1
    ·exact h1 t
def Alike (o:COp) (s s' : Sl):Prop :=
 (∀ t w,o.guard=some (t,w)→s' t=s t)∧∀ a∈o.args,if o.tk then a.val s'=a.val s else (a.val s').dem=(a.val s).dem
theorem Alike.wanted {o:COp} {s s' : Sl} (h:Alike o s s'):o.wanted s'=o.wanted s:=by
 unfold COp.wanted;split
 ·rfl
 ·rename_i t w hg;rw [h.1 t w hg]
theorem Alike.xs {o:COp} {s s' : Sl} (h:Alike o s s'):o.xs s'=o.xs s:=by
 unfold COp.xs;have h2:=h.2;split
 ·rename_i ht;simp only [ht,if_true] at h2;exact List.map_congr_left h2
 ·rename_i ht;simp only [ht] at h2;rw [Qf0,Qf0,List.map_map,List.map_map];exact List.map_congr_left fun a ha=>by simpa using h2 a ha
theorem Alike.dems {o:COp} {s s' : Sl} (h:Alike o s s'):V.dems (o.args.map (·.val s'))=V.dems (o.args.map (·.val s)):=by
 rw [Qf0,Qf0,List.map_map,List.map_map];refine List.map_congr_left fun a ha=>?_;have h2:=h.2 a ha;split at h2
 ·simp [h2]
 ·simpa using h2
theorem Qbmb {v:V} {f:FuncId} {cs:List V}:v.dem = .clo f cs↔v = .clo f cs:=by
 cases v<;>simp [V.dem]
theorem Qbig {o:COp} {s s' : Sl} (h:V.dems (o.args.map (·.val s'))=V.dems (o.args.map (·.val s))):o.callee s'=o.callee s:=by
 unfold COp.callee;split
 ·rw [h]
 ·revert h;generalize o.args.map (·.val s')=xs';generalize o.args.map (·.val s)=xs;intro h;cases xs with
  | nil =>
   cases xs' with
   | nil=>rfl
   | cons=>simp [V.dems] at h
  | cons x xs =>
   cases xs' with
   | nil=>simp [V.dems] at h
   | cons x' xs' =>
    simp only [V.dems,List.cons.injEq] at h;obtain ⟨h1,h2⟩:=h;by_cases hx:∃ f cs,x = .clo f cs
    ·obtain ⟨f,cs,rfl⟩:=hx;have:x' = .clo f cs:=Qbmb.1 (h1.trans rfl);subst this;simp [h2]
    ·have hx' : ¬ ∃ f cs,x' = .clo f cs:=by
      rintro ⟨f,cs,rfl⟩;exact hx ⟨f,cs,Qbmb.1 (h1.symm.trans rfl)⟩
     cases x<;>cases x'<;>simp_all
 ·rfl
theorem Alike.core {C:Ctx} {n0 pc:Nat} {o:COp} {s s' : Sl} (h:Alike o s s') {M:Mem} {nb:Nat} {v:V} {M' : Mem} {nb' : Nat} (hc:Core C n0 pc o s M nb v M' nb'):Core C n0 pc o s' M nb v M' nb':=by
 unfold Core at *
 rw [h.wanted,h.xs,Qbig h.dems];exact hc
theorem Alike.pv {o:COp} {s s' : Sl} (h:Alike o s s'):Abs.pv o s'=Abs.pv o s:=by
 unfold Abs.pv;rw [h.wanted,h.xs]
theorem Qbmc (o:COp) (s:Sl):V.dems (pv o s)=V.dems (o.args.map (·.val s))∨pv o s=[]:=by
 unfold pv;split
 ·rename_i h;left;rw [Qbgu];simp [COp.xs,h.2.2]
 ·exact .inr rfl
theorem Qhc {o:COp} {t:Nat}:t∈o.argSlots↔∃ a∈o.args,t∈a.slot:=by simp [COp.argSlots]
theorem Qn9 {a b:List Nat} (h:Qba5 a b=true) {x:Nat} (hx:x∈a):x∉b:=by
 simp only [Qba5,List.all_eq_true,Bool.not_eq_true',List.contains_eq_mem,decide_eq_false_iff_not] at h;exact h x hx
theorem Qbct {a b:COp} (h1:∀ d,a.dst=some d→d∉b.reads) (h2:a.tk=true→b.tk=true→∀ t∈a.argSlots,t∉b.argSlots) (h3:a.tk=true→∀ t∈a.argSlots,∀ u w,b.guard=some (u,w)→t≠u)
  (s:Sl) (v:V):Alike b s (Qbf (Q7 s a.args (pv a s)) a.dst v):=by
 have hd:∀ t,t∈b.reads→Qbf (Q7 s a.args (pv a s)) a.dst v t=Q7 s a.args (pv a s) t:=by
  intro t ht;cases hd:a.dst with
  | none=>rfl
  | some d =>
   have:t≠d:=fun e=>h1 d hd (e ▸ ht);simp [Qbf,Sl.put,this]
 refine ⟨fun t w hg=>?_,fun x hx=>?_⟩
 ·rw [hd t (by simp [COp.reads,hg])];by_cases ht:a.tk=true
  ·exact Qzf _ _ _ _ fun y hy hty=>h3 ht t (Qhc.2 ⟨y,hy,hty⟩) t w hg rfl
  ·have:pv a s=[]:=by simp [pv,ht]
   rw [this,Qdr]
 ·cases x with
  | c w=>simp [Arg.val]
  | t i =>
   have hi:i∈b.reads:=by simp only [COp.reads,List.mem_append];exact .inl (Qhc.2 ⟨_,hx,by simp [Arg.slot]⟩)
   simp only [Arg.val];rw [hd i hi];split
   ·rename_i hb;by_cases ht:a.tk=true
    ·exact Qzf _ _ _ _ fun y hy hty=>h2 ht hb i (Qhc.2 ⟨y,hy,hty⟩) (Qhc.2 ⟨_,hx,by simp [Arg.slot]⟩)
    ·have:pv a s=[]:=by simp [pv,ht]
     rw [this,Qdr]
   ·exact Qbcs _ _ _ (Qbmc a s) i
theorem Qbfq (s:Sl) {x y:Option Nat} (v u:V) (h:∀ d,x=some d→y≠some d):Qbf (Qbf s x v) y u=Qbf (Qbf s y u) x v:=by
 cases x with
 | none=>rfl
 | some t =>
  cases y with
  | none=>rfl
  | some t'=>exact Qbma s v u fun e=>h t rfl (by rw [e])
theorem Q6u (as:List Arg) (vs:List V) (s:Sl) {x:Option Nat} (v:V) (h:∀ d,x=some d→∀ a∈as,d∉a.slot):Q7 (Qbf s x v) as vs=Qbf (Q7 s as vs) x v:=by
 cases x with
 | none=>rfl
 | some t=>exact Qze as vs s t v (h t rfl)
theorem Qbkk {a b:COp} (h:a.slotsApart b=true) (s:Sl) (va vb:V) :
  let s1:=Qbf (Q7 s a.args (pv a s)) a.dst va;let s1':=Qbf (Q7 s b.args (pv b s)) b.dst vb
  Alike b s s1∧Alike a s s1'∧Qbf (Q7 s1 b.args (pv b s1)) b.dst vb=Qbf (Q7 s1' a.args (pv a s1')) a.dst va:=by
 simp only [COp.slotsApart,Bool.and_eq_true,Bool.or_eq_true,Bool.not_eq_true'] at h;obtain ⟨⟨⟨⟨⟨h1,h2⟩,h3⟩,h4⟩,h5⟩,h6⟩:=h;have e1:∀ d,a.dst=some d→d∉b.reads:=fun d hd=>Qn9 h1 (by simp [hd]);have e2:∀ d,a.dst=some d→b.dst≠some d:=fun d hd hb=>Qn9 h2 (x:=d) (by simp [hd]) (by simp [hb]);have e3:∀ d,b.dst=some d→d∉a.reads:=fun d hd=>Qn9 h3 (by simp [hd]);have e4:a.tk=true→b.tk=true→∀ t∈a.argSlots,t∉b.argSlots:=fun ha hb t ht=>by
  rcases h4 with (h4|h4)|h4
  ·rw [ha] at h4;cases h4
  ·rw [hb] at h4;cases h4
  ·have:=Qn9 h4 (x:=t) (by simpa [COp.soft,ha] using ht);simpa [COp.soft,hb] using this
 have e5:a.tk=true→∀ t∈a.argSlots,∀ u w,b.guard=some (u,w)→t≠u:=fun ha t ht u w hg=>by
  rcases h5 with h5|h5
  ·rw [ha] at h5;cases h5
  ·have:=Qn9 h5 (x:=t) (by simpa [COp.soft,ha] using ht);simpa [hg] using this
 have e6:b.tk=true→∀ t∈b.argSlots,∀ u w,a.guard=some (u,w)→t≠u:=fun hb t ht u w hg=>by
  rcases h6 with h6|h6
  ·rw [hb] at h6;cases h6
  ·have:=Qn9 h6 (x:=t) (by simpa [COp.soft,hb] using ht);simpa [hg] using this
 have k1:=Qbct e1 e4 e5 s va;have k2:=Qbct e3 (fun hb ha t ht h'=>e4 ha hb t h' ht) e6 s vb;refine ⟨k1,k2,?_⟩;rw [k1.pv,k2.pv];rw [Q6u _ _ _ _ fun d hd x hx hdx=>e1 d hd (by simp only [COp.reads,List.mem_append];exact .inl (Qhc.2 ⟨x,hx,hdx⟩)),
  Q6u _ _ _ _ fun d hd x hx hdx=>e3 d hd (by simp only [COp.reads,List.mem_append];exact .inl (Qhc.2 ⟨x,hx,hdx⟩)),
  Qbfq _ _ _ e2]
 congr 2;by_cases ha:pv a s=[]
 ·rw [ha,Qdr,Qdr]
 ·by_cases hb:pv b s=[]
  ·rw [hb,Qdr,Qdr]
  ·have hta:a.tk=true:=by
    cases ht:a.tk with
    | true=>rfl
    | false=>exact absurd (by simp [pv,ht]) ha
   have htb:b.tk=true:=by
    cases ht:b.tk with
    | true=>rfl
    | false=>exact absurd (by simp [pv,ht]) hb
   exact Q2q _ _ _ _ _ fun x hx y hy t ht htx=>e4 hta htb t (Qhc.2 ⟨y,hy,ht⟩) (Qhc.2 ⟨x,hx,htx⟩)
end Go.Abs
end
section
namespace Go.Abs
open Go
theorem Qbkl {n0 κ:Nat} {k:K} {xs:List V} {M M' : Mem} {v:V} (hk:k.eff = .pure) (h:Qn n0 κ k xs M=some (v,M')):M'=M∧∀ M2,Qn n0 κ k xs M2=some (v,M2):=by
 cases k<;>simp only [K.eff] at hk<;>(try cases hk)<;>unfold Qn at h<;>(split at h<;>try (cases h;done))<;>(try (rename_i heq;cases heq))
 all_goals simp only [Qn]
 all_goals (repeat' split at h)<;>first
  | (cases h;done)
  | (simp only [Option.some.injEq,Prod.mk.injEq] at h;obtain ⟨rfl,rfl⟩:=h;simp_all;done)
  | (simp only [Option.map_eq_some_iff,Prod.mk.injEq] at h;obtain ⟨x,hx,h1,h2⟩:=h;subst h1 h2;simp_all;done)
  | (cases h;exact ⟨rfl,fun M2=>if_pos (by assumption)⟩)
  | (dsimp only at h;split at h<;>cases h;exact ⟨rfl,fun M2=>if_pos (by assumption)⟩)
  | (cases h;subst_vars;exact ⟨rfl,fun M2=>by rw [if_pos rfl,if_neg (by assumption)]⟩)
  | skip
def dmV:V→V
 | .own sz l=>.d (.lst sz l)
 | v=>v
theorem Qbmd {u:V} (h:u.mv=true):u.dem=dmV u:=by
 rcases Qy4 h with h|⟨sz,l,rfl⟩
 ·rw [Q60 h];cases u<;>first|rfl|simp [V.dat] at h
 ·rfl
theorem Qbrb {u u2:V} (h:u.mv=true) (hd:dmV u2=dmV u):u2.mv=true:=by
 cases u2 with
 | own _ _=>rfl
 | _ =>
  rcases Qy4 h with h|⟨sz,l,rfl⟩
  ·have:dmV u=u:=by cases u<;>first|rfl|simp [V.dat] at h
   rw [this] at hd;simp only [dmV] at hd;subst hd;exact Q8o h
  ·simp only [dmV] at hd
   first|(cases hd;rfl)|(cases hd;done)
def dmE (e:V×V×Nat):V×V×Nat:=(e.1,dmV e.2.1,e.2.2)
theorem Qbih {kd:MK}:∀ {es:List (V×V×Nat)},kd.all (es.map dmE)=kd.all es
 | []=>rfl
 | e::es=>by
  have:=Qbih (kd:=kd) (es:=es);simp only [MK.all] at this ⊢;simp only [List.map_cons,List.all_cons,this,dmE]
theorem Qbfr {key:V}:∀ {es:List (V×V×Nat)},Qfn key (es.map dmE)=(Qfn key es).map fun p=>(p.1,dmV p.2)
 | []=>rfl
 | (k,v,b)::es=>by
  simp only [List.map_cons,dmE,Qfn];split
  ·rfl
  ·rw [Qbfr];cases Qfn key es<;>rfl
theorem Qbcu {key:V}:∀ {es:List (V×V×Nat)} {i:Nat} {u:V},Qfn key es=some (i,u)→∃ e,es[i]? = some e∧e.2.1=u
 | [],i,u,h=>by simp [Qfn] at h
 | (k,v,b)::es,i,u,h=>by
  simp only [Qfn] at h;split at h
  ·cases h;exact ⟨_,rfl,rfl⟩
  ·cases hf:Qfn key es with
   | none=>rw [hf] at h;cases h
   | some p=>rw [hf] at h;cases h;simpa using Qbcu hf
theorem Qbme {sz:Nat} {l:List (List D)}:∀ {es:List (V×V×Nat)} {i:Nat} {e:V×V×Nat},es[i]? = some e→e.2.1 = .own sz l→(modM e.1 (.d (.lst sz l)) i es).map dmE=es.map dmE
 | [],i,e,h,_=>by simp at h
 | (k,v,b)::es,0,e,h,hv=>by
  simp at h;subst h;simp only at hv;subst hv;simp [modM,dmE,dmV]
 | (k,v,b)::es,i+1,e,h,hv=>by
  simp only [modM,List.map_cons,Qbme (show es[i]? = some e from by simpa using h) hv]
def Bx.dm:Bx→Bx
 | .cells cs=>.cells (V.dems cs)
 | .mp es c=>.mp (es.map fun e=>(e.1,dmV e.2.1,e.2.2)) c
def Qzg (p:Nat→Prop) (M M2:Mem):Prop:=∀ k,p k→(M2 k).map Bx.dm=(M k).map Bx.dm
theorem Qbp8 (v:V):v.dem.toD=v.toD:=by cases v<;>rfl
theorem Qbcv:∀ vs:List V,toDs (V.dems vs)=toDs vs
 | []=>rfl
 | v::vs=>by simp [V.dems,toDs,Qbp8,Qbcv vs]
theorem Qbjh {M M2:Mem} {k:Nat} {cs:List V} (h:(M2 k).map Bx.dm=(M k).map Bx.dm) (hk:M k=some (.cells cs)):∃ cs',M2 k=some (.cells cs')∧V.dems cs'=V.dems cs:=by
 rw [hk] at h;cases h2:M2 k with
 | none=>rw [h2] at h;simp at h
 | some b =>
  rw [h2] at h;cases b with
  | cells cs'=>exact ⟨cs',rfl,by simpa [Bx.dm] using h⟩
  | mp es=>simp [Bx.dm] at h
theorem Qbrc {M M2:Mem} {k:Nat} {es:List (V×V×Nat)} {c:Nat} (h:(M2 k).map Bx.dm=(M k).map Bx.dm) (hk:M k=some (.mp es c)):∃ es2,M2 k=some (.mp es2 c)∧es2.map dmE=es.map dmE:=by
 rw [hk] at h;cases h2:M2 k with
 | none=>rw [h2] at h;simp at h
 | some b =>
  rw [h2] at h;cases b with
  | cells cs'=>simp [Bx.dm] at h
  | mp es' c' =>
   simp only [Option.map_some,Bx.dm,Option.some.injEq,Bx.mp.injEq] at h;obtain ⟨h1,rfl⟩:=h;exact ⟨es',rfl,h1⟩
theorem Qtp {p:Nat→Prop} {M M2:Mem} (h:Qzg p M M2) {sz:Nat} {v:V} (hv:v.on p) {l:List (List D)} (he:Qjk M sz v=some l):Qjk M2 sz v=some l:=by
 by_cases hs:∃ sz' k off len cap,v = .sl sz' k off len cap
 case neg =>
  cases v with
  | sl a b c d e=>exact absurd ⟨_,_,_,_,_,rfl⟩ hs
  | d x=>cases x<;>exact he
  | _=>exact he
 obtain ⟨sz',k,off,len,cap,rfl⟩:=hs;simp only [Qjk] at he ⊢;split at he<;>try (cases he;done)
 rename_i hsz;rw [if_pos hsz];split at he<;>try (cases he;done)
 rename_i cs hk;obtain ⟨cs',hk',hd⟩:=Qbjh (h k hv) hk;rw [hk'];have hl:cs'.length=cs.length:=by
  have:=congrArg List.length hd;simpa [Qf0] using this
 simp only [hl];split at he<;>try (cases he;done)
 rename_i hle;rw [if_pos hle];have:toDs ((cs'.drop off).take (len*sz))=toDs ((cs.drop off).take (len*sz)):=by
  rw [← Qbcv,← Qbcv ((cs.drop off).take _)];congr 1;rw [Qf0,Qf0,List.map_take,List.map_take,List.map_drop,List.map_drop,← Qf0,← Qf0,hd]
 rw [this];exact he
theorem Qbcw {n0 κ:Nat} {k:K} (hm:(∃ kd c z,k = .lookup kd c z)∨k = .lenm) {xs:List V} {M M' : Mem} {v:V} (h:Qn n0 κ k xs M=some (v,M')):M'=M∧∀ p M2,Qzg p M M2→V.ons p xs→Qn n0 κ k xs M2=some (v,M2):=by
 rcases hm with ⟨kd,c,z,rfl⟩|rfl
 ·obtain ⟨rfl,⟨b,key,es,cl,rfl,hM,h1,h2,h3⟩|⟨key,ents,cl,rfl,h0,h1,h2,h3⟩⟩:=Qbaf h
  ·refine ⟨rfl,fun p M2 ha hp=>?_⟩;obtain ⟨es2,this,hes⟩:=Qbrc (ha b hp.1) hM;have hall:kd.all es2=true:=by rw [← Qbih,hes,Qbih];exact h2
   have hfind:(Qfn key es2).map (fun p=>(p.1,dmV p.2))=(Qfn key es).map fun p=>(p.1,dmV p.2):=by rw [← Qbfr,hes,Qbfr]
   rcases h3 with ⟨i,u,f1,f2,rfl⟩|⟨f1,f2,rfl⟩
   ·rw [f1] at hfind;cases hf:Qfn key es2 with
    | none=>rw [hf] at hfind;cases hfind
    | some q =>
     obtain ⟨j,u2⟩:=q;rw [hf] at hfind;simp only [Option.map_some,Option.some.injEq,Prod.mk.injEq] at hfind;obtain ⟨rfl,hu⟩:=hfind;have hm:=Qbrb f2 hu;have hde:u2.dem=u.dem:=by rw [Qbmd hm,Qbmd f2,hu]
     simp [Qn,this,h1,hall,hf,hm,hde]
   ·rw [f1] at hfind;cases hf:Qfn key es2 with
    | none=>simp [Qn,this,h1,hall,hf,f2]
    | some q=>rw [hf] at hfind;cases hfind
  ·refine ⟨rfl,fun p M2 ha hp=>?_⟩;rcases h3 with ⟨i,u,f1,f2,rfl⟩|⟨f1,f2,rfl⟩
   ·obtain ⟨e,he,heu⟩:=Qbcu f1;have hu:u.dat=true:=by rw [← heu];exact List.all_eq_true.1 h0 e (List.mem_of_getElem? he)
    simp only [Qn,h1,h2,f1,hu,h0,Bool.and_self,if_true,Q60 hu]
   ·simp only [Qn,h1,h2,f1,f2,h0,Bool.and_self,if_true]
 ·obtain ⟨rfl,⟨b,es,c,rfl,hM,rfl⟩|⟨es,c,rfl,rfl⟩⟩:=Qbfh h
  ·refine ⟨rfl,fun p M2 ha hp=>?_⟩;obtain ⟨es2,this,hes⟩:=Qbrc (ha b hp.1) hM;have hl:=congrArg List.length hes;simp only [List.length_map] at hl;simp [Qn,this,hl]
  ·exact ⟨rfl,fun p M2 ha hp=>rfl⟩
theorem Qgb {n0 κ:Nat} {k:K} {xs:List V} {M M' : Mem} {v:V} (hk:k.eff = .read) (h:Qn n0 κ k xs M=some (v,M')):M'=M∧∀ p M2,Qzg p M M2→V.ons p xs→Qn n0 κ k xs M2=some (v,M2):=by
 cases k<;>simp only [K.eff] at hk<;>(try cases hk)<;>(try exact Qbcw (.inl ⟨_,_,_,rfl⟩) h)<;>(try exact Qbcw (.inr rfl) h)<;>unfold Qn at h<;>(split at h<;>try (cases h;done))<;>(try (rename_i heq;cases heq))
 ·rename_i ag n _ _ k off;split at h<;>try (cases h;done)
  rename_i cs hk;split at h<;>try (cases h;done)
  rename_i hle;refine ⟨(by
   split at h
   ·cases h;rfl
   ·simp only [Option.map_eq_some_iff,Prod.mk.injEq] at h;obtain ⟨_,_,_,rfl⟩:=h;rfl),fun p M2 ha hp=>?_⟩
  obtain ⟨cs',hk',hd⟩:=Qbjh (ha k hp.1) hk;have hl:cs'.length=cs.length:=by
   have:=congrArg List.length hd;simpa [Qf0] using this
  simp only [Qn,hk',hl,if_pos hle];split at h
  ·rename_i hag;cases h;simp only [hag,if_true,Option.some.injEq,Prod.mk.injEq,and_true,V.agg.injEq];rw [Qf0,Qf0,List.map_take,List.map_take,List.map_drop,List.map_drop,← Qf0,← Qf0,hd]
  ·rename_i hag;simp only [Option.map_eq_some_iff,Prod.mk.injEq] at h;obtain ⟨x,hx,rfl,rfl⟩:=h;simp only [hag];have h3:=congrArg (fun l=>l[off]?) hd;simp only [Qf0,List.getElem?_map,hx,Option.map_some] at h3;cases hx' : cs'[off]? with
   | none=>rw [hx'] at h3;simp at h3
   | some x'=>rw [hx'] at h3;simp at h3;simp [h3]
 ·split at h<;>try (cases h;done)
  rename_i hle;simp only [Qn,if_pos hle];split at h
  ·rename_i hag;cases h;exact ⟨rfl,fun p M2 _ _=>by simp [hag]⟩
  ·rename_i hag;simp only [Option.map_eq_some_iff,Prod.mk.injEq] at h;obtain ⟨x,hx,rfl,rfl⟩:=h;exact ⟨rfl,fun p M2 _ _=>by simp [hag,hx]⟩
 ·split at h<;>try (cases h;done)
  ·cases h;exact ⟨rfl,fun p M2 _ _=>rfl⟩
  ·cases h;exact ⟨rfl,fun p M2 _ _=>rfl⟩
  ·cases h;exact ⟨rfl,fun p M2 _ _=>rfl⟩
  ·cases h;exact ⟨rfl,fun p M2 _ _=>rfl⟩
 ·split at h<;>try (cases h;done)
  rename_i ys hys;split at h<;>try (cases h;done)
  rename_i hc;cases h;refine ⟨rfl,fun p M2 ha hp=>?_⟩;simp only [Qn,Qtp ha hp.2.1 hys,if_pos hc]
 ·split at h<;>try (cases h;done)
  rename_i ys hys;split at h<;>try (cases h;done)
  rename_i hc;cases h;refine ⟨rfl,fun p M2 ha hp=>?_⟩;simp only [Qn,Qtp ha hp.2.1 hys,if_pos hc]
 ·split at h<;>try (cases h;done)
  rename_i ys hys;split at h<;>try (cases h;done)
  rename_i hc;cases h;refine ⟨rfl,fun p M2 ha hp=>?_⟩;simp only [Qn,Qtp ha hp.2.1 hys,if_pos hc]
 ·split at h<;>try (cases h;done)
  rename_i l ys hl hys;refine ⟨?_,fun p M2 ha hp=>?_⟩
  ·(repeat' split at h)<;>first|(cases h;done)|(cases h;rfl)
  ·simp only [Qn,Qtp ha hp.2.1 hys,Qtp ha hp.1 hl]
   (repeat' split at h)<;>first|(cases h;done)|(cases h;simp_all)
theorem Qhg {n0 κ:Nat} {k:K} {xs:List V} {M M' : Mem} {v:V} (hk:k.eff = .alloc) (h:Qn n0 κ k xs M=some (v,M')) :
  M κ=none∧∃ b,M'=M.put κ b∧∀ M2,M2 κ=none→Qn n0 κ k xs M2=some (v,M2.put κ b):=by
 cases k<;>simp only [K.eff] at hk<;>(try cases hk)<;>unfold Qn at h<;>(split at h<;>try (cases h;done))<;>(try (rename_i heq;cases heq))
 ·rename_i n _ _ x;split at h<;>try (cases h;done)
  split at h<;>try (cases h;done)
  rename_i hne1 hne2 hc;cases h;simp only [Bool.and_eq_true,decide_eq_true_eq,Option.isNone_iff_eq_none] at hc;refine ⟨hc.2,_,rfl,fun M2 h2=>?_⟩;simp only [Qn,h2,hc.1];cases x<;>first|exact (hne1 rfl).elim|exact (hne2 _ rfl).elim|simp
 ·split at h<;>try (cases h;done)
  rename_i hc;cases h;simp only [Option.isNone_iff_eq_none] at hc;exact ⟨hc,_,rfl,fun M2 h2=>by simp [Qn,h2]⟩
 ·split at h<;>try (cases h;done)
  rename_i hc;cases h;have hc':=hc;simp only [Bool.and_eq_true,Option.isNone_iff_eq_none] at hc';refine ⟨hc'.2,_,rfl,fun M2 h2=>?_⟩;rw [hc'.2] at hc;simp only [Qn,h2];exact if_pos hc
 ·split at h<;>try (cases h;done)
  rename_i hc;cases h;have hc':=hc;simp only [Bool.and_eq_true,Option.isNone_iff_eq_none] at hc';refine ⟨hc'.2,_,rfl,fun M2 h2=>?_⟩;rw [hc'.2] at hc;simp only [Qn,h2];exact if_pos hc
 ·split at h<;>try (cases h;done)
  rename_i hc;cases h;have hc':=hc;simp only [Bool.and_eq_true,Option.isNone_iff_eq_none] at hc';refine ⟨hc'.2,_,rfl,fun M2 h2=>?_⟩;rw [hc'.2] at hc;simp only [Qn,h2];exact if_pos hc
 all_goals
  split at h<;>try (cases h;done)
  rename_i hc;cases h;simp only [Option.isNone_iff_eq_none] at hc;exact ⟨hc,_,rfl,fun M2 h2=>by simp [Qn,h2]⟩
theorem Qtg {n0 κ:Nat} {xs:List V} {M M' : Mem} {v:V} (h:Qn n0 κ .loadT xs M=some (v,M')) :
  ∃ k off cs x,xs=[.ptr k off]∧M k=some (.cells cs)∧cs[off]? = some x∧v=x.top∧M'=M.put k (.cells (cs.set off x.dem)):=by
 unfold Qn at h;split at h<;>(try (rename_i heq;cases heq))<;>try (cases h;done)
 rename_i k off;split at h<;>try (cases h;done)
 rename_i cs hk;simp only [Option.map_eq_some_iff,Prod.mk.injEq] at h;obtain ⟨x,hx,rfl,rfl⟩:=h;exact ⟨_,_,_,_,rfl,hk,hx,rfl,rfl⟩
theorem Qth {n0 κ k off:Nat} {cs:List V} {x:V} {M:Mem} (hk:M k=some (.cells cs)) (hx:cs[off]? = some x) :
  Qn n0 κ .loadT [.ptr k off] M=some (x.top,M.put k (.cells (cs.set off x.dem))):=by
 simp [Qn,hk,hx]
theorem Qbii {n0 κ n:Nat} {xs:List V} {M M' : Mem} {v:V} (h:Qn n0 κ (.store n) xs M=some (v,M')) :
  ∃ k off x cs,xs=[.ptr k off,x]∧M k=some (.cells cs)∧x.topS.cells.length=n∧off+n≤cs.length∧v = .und∧M'=M.put k (.cells (cs.take off++x.topS.cells++cs.drop (off+n))):=by
 unfold Qn at h;split at h<;>(try (rename_i heq;cases heq))<;>try (cases h;done)
 rename_i k off x;split at h<;>try (cases h;done)
 split at h<;>try (cases h;done)
 rename_i cs hk;split at h<;>try (cases h;done)
 rename_i hc;simp only [Bool.and_eq_true,decide_eq_true_eq] at hc;cases h;exact ⟨_,_,_,_,rfl,hk,hc.1.1,hc.1.2,rfl,rfl⟩
theorem Q4u (M:Mem) {k j:Nat} (b c:Bx) (h:k≠j):(M.put k b).put j c=(M.put j c).put k b:=by
 funext i;simp only [Mem.put];by_cases h1:i=j
 ·subst h1;simp [Ne.symm h]
 ·simp [h1]
theorem Qbgv (M:Mem) (k:Nat) (b c:Bx):(M.put k b).put k c=M.put k c:=by
 funext i;simp only [Mem.put];split<;>rfl
theorem Qhh (M:Mem) (k:Nat) (b:Bx):(M.put k b) k=some b:=by simp [Mem.put]
theorem Qcu (M:Mem) {k j:Nat} (b:Bx) (h:j≠k):(M.put k b) j=M j:=by simp [Mem.put,h]
theorem Qbcx {p:Nat→Prop} {M:Mem} {κ:Nat} (b:Bx) (hp:∀ k,p k→(M k).isSome=true) (hκ:M κ=none):Qzg p M (M.put κ b)∧Qzg p (M.put κ b) M:=by
 have:∀ k,p k→(M.put κ b) k=M k:=fun k hk=>Qcu _ _ fun e=>by have:=hp k hk;rw [e,hκ] at this;cases this
 exact ⟨fun k hk=>by rw [this k hk],fun k hk=>by rw [this k hk]⟩
theorem Qbod {cs:List V} {off:Nat} {x:V} (hx:cs[off]? = some x):V.dems (cs.set off x.dem)=V.dems cs:=by
 rw [Qf0,Qf0,List.map_set,Qd8];apply List.ext_getElem?;intro i;rw [List.getElem?_set];split
 ·rename_i he;subst he;have hlt:=(List.getElem?_eq_some_iff.1 hx).1;have:=(List.getElem?_eq_some_iff.1 hx).2;simp [hlt,this]
 ·rfl
theorem Qsi {n0 κ:Nat} {kd:MK} {z:V} {xs:List V} {M M' : Mem} {v:V} (hs:Qn n0 κ (.lookupT kd z) xs M=some (v,M')) :
  ∃ k key b,xs=[.mp k,key]∧M k=some b∧((∃ b',M'=M.put k b'∧(∀ p,Qzg p M (M.put k b')∧Qzg p (M.put k b') M)∧∀ M2:Mem,M2 k=some b→Qn n0 κ (.lookupT kd z) xs M2=some (v,M2.put k b')) ∨
   (M'=M∧∀ M2:Mem,M2 k=some b→Qn n0 κ (.lookupT kd z) xs M2=some (v,M2))):=by
 obtain ⟨k,key,es,cl,rfl,h1,h2,h3,h4,h5⟩:=Q62 hs;refine ⟨k,key,_,rfl,h1,?_⟩;rcases h5 with ⟨i,sz,l,e,h6,h7,rfl,rfl⟩|⟨h6,h7,rfl,rfl⟩
 ·refine .inl ⟨_,rfl,fun p=>?_,fun M2 hM2=>by simp [Qn,hM2,h2,h3,h4,h6,h7]⟩;obtain ⟨e',he,heu⟩:=Qbcu h6;rw [h7] at he;cases he;have hd:=Qbme h7 heu;have hag:∀ j,((M.put k (.mp (modM e.1 (.d (.lst sz l)) i es) cl)) j).map Bx.dm=(M j).map Bx.dm:=by
   intro j;simp only [Mem.put];split
   ·rename_i hj;subst hj;rw [h1];simp only [Option.map_some,Bx.dm,Option.some.injEq,Bx.mp.injEq,and_true];exact hd
   ·rfl
  exact ⟨fun j _=>hag j,fun j _=>(hag j).symm⟩
 ·exact .inr ⟨rfl,fun M2 hM2=>by simp [Qn,hM2,h2,h3,h4,h6,h7]⟩
theorem Qbei {M:Mem} {k off:Nat} {cs:List V} {x:V} (hk:M k=some (.cells cs)) (hx:cs[off]? = some x) (p:Nat→Prop) :
  Qzg p M (M.put k (.cells (cs.set off x.dem)))∧Qzg p (M.put k (.cells (cs.set off x.dem))) M:=by
 have:∀ i,((M.put k (.cells (cs.set off x.dem))) i).map Bx.dm=(M i).map Bx.dm:=by
  intro i;by_cases h:i=k
  ·subst h;rw [Qhh,hk];simp [Bx.dm,Qbod hx]
  ·rw [Qcu _ _ h]
 exact ⟨fun i _=>this i,fun i _=>(this i).symm⟩
theorem Qbkm {n0 κ k off n k' off' n' : Nat} {ag:Bool} {M:Mem} {cs vs:List V} {v:V} {M1:Mem} (h:Qn n0 κ (.load ag n) [.ptr k off] M=some (v,M1)) (hk:M k'=some (.cells cs)) (hvs:vs.length=n') (hle:off'+n'≤cs.length)
  (hap:Qo7 (.ptr k off) (max n 1) (.ptr k' off') n'=true):Qn n0 κ (.load ag n) [.ptr k off] (M.put k' (.cells (cs.take off'++vs++cs.drop (off'+n'))))=some (v,M.put k' (.cells (cs.take off'++vs++cs.drop (off'+n')))):=by
 by_cases hkk:k=k'
 ·subst hkk;simp only [Qn,hk] at h;split at h<;>try (cases h;done)
  rename_i hle2;have hlen:(cs.take off'++vs++cs.drop (off'+n')).length=cs.length:=by simp;omega
  simp only [Qn,Qhh,hlen,if_pos hle2];have hap' : off+max n 1≤off' ∨ off'+n'≤off:=by simpa [Qo7] using hap
  have hget:∀ i,off≤i→i<off+max n 1→(cs.take off'++vs++cs.drop (off'+n'))[i]? = cs[i]?:=by
   intro i h1 h2;rcases hap' with h3|h3
   ·rw [List.append_assoc,List.getElem?_append_left (by simp;omega),List.getElem?_take,if_pos (by omega)]
   ·rw [List.getElem?_append_right (by simp;omega)];simp only [List.length_append,List.length_take,List.getElem?_drop];congr 1;omega
  have htk:((cs.take off'++vs++cs.drop (off'+n')).drop off).take n=(cs.drop off).take n:=by
   apply List.ext_getElem?;intro i;rw [List.getElem?_take,List.getElem?_take];split
   ·rw [List.getElem?_drop,List.getElem?_drop];exact hget _ (by omega) (by omega)
   ·rfl
  rw [htk,hget off (Nat.le_refl _) (by omega)];split at h
  ·rename_i hag;cases h;simp [hag]
  ·rename_i hag;simp only [Option.map_eq_some_iff,Prod.mk.injEq] at h;obtain ⟨x,hx,rfl,_⟩:=h;simp [hag,hx]
 ·obtain ⟨rfl,hr⟩:=Qgb rfl h;exact hr (· = k) _ (fun i hi=>by rw [hi,Qcu _ _ hkk]) ⟨rfl,trivial⟩
end Go.Abs
end
section
namespace Go.Abs
open Go
variable {C:Ctx} {n0 pc:Nat}
def Free (C:Ctx) (n0 pc:Nat) (o:COp) (s:Sl) (v:V):Prop:=∀ M nb,Core C n0 pc o s M nb v M nb
inductive Does (C:Ctx) (n0 pc:Nat) (o:COp) (s:Sl) (M:Mem) (nb:Nat) (v:V) (M' : Mem) (nb' : Nat):Prop where
 | free (h:Free C n0 pc o s v) (h1:M'=M) (h2:nb'=nb)
 | op (hw:o.wanted s=some true) (hc:o.kind.isCall=false) (hn:o.kind.isNil=false) (he:o.kind.eff ≠ .pure) (h:Qn n0 (n0+o.dst.getD 0) o.kind (o.xs s) M=some (v,M')) (h2:nb'=nb)
 | call (f:FuncId) (args:List V) (hw:o.wanted s=some true) (hc:o.kind.isCall=true) (hcal:o.callee s=some (f,args)) (hpc:pc≤1∨10≤pc) (h:CallStp C n0 pc o.dst f args M nb v M' nb')
theorem Core.does {o:COp} {s:Sl} {M:Mem} {nb:Nat} {v:V} {M' : Mem} {nb' : Nat} (h:Core C n0 pc o s M nb v M' nb'):Does C n0 pc o s M nb v M' nb':=by
 have h0:=h;unfold Core at h;cases hw:o.wanted s with
 | none=>rw [hw] at h;exact h.elim
 | some b =>
  rw [hw] at h;cases b with
  | false =>
   obtain ⟨rfl,rfl,rfl⟩:=h;exact .free (fun M nb=>by simp [Core,hw]) rfl rfl
  | true =>
   simp only at h;cases hcall:o.kind.isCall with
   | true =>
    rw [hcall] at h;simp only [if_true] at h;obtain ⟨f,args,hcal,hcc⟩:=h
    match pc,hcc with
    | 0,hcc=>exact .call f args hw hcall hcal (by omega) hcc
    | 1,hcc=>exact .call f args hw hcall hcal (by omega) hcc
    | n+2,hcc =>
     by_cases hn8:n<8
     ·have hcc:(if n<8 then _ else _):=hcc;rw [if_pos hn8] at hcc;obtain ⟨h1,h2,h3⟩:=hcc;exact .free (fun M nb=>by simp only [Core,hw,hcall,if_true];exact ⟨f,args,hcal,(by show (if n<8 then _ else _);rw [if_pos hn8];exact ⟨h1,rfl,rfl⟩)⟩) h2 h3
     ·exact .call f args hw hcall hcal (by omega) hcc
   | false =>
    rw [hcall] at h;simp only [Bool.false_eq_true,if_false] at h;cases hn:o.kind.isNil with
    | true=>rw [hn] at h;simp at h
    | false =>
     rw [hn] at h;simp only [Bool.false_eq_true,if_false] at h;obtain ⟨h1,h2⟩:=h;by_cases he:o.kind.eff = .pure
     ·obtain ⟨k1,k2⟩:=Qbkl he h1;exact .free (fun M nb=>by simp [Core,hw,hcall,hn,k2]) k1 h2
     ·exact .op hw hcall hn he h1 h2
theorem Qbfs {o:COp} {s:Sl} (hw:o.wanted s=some true) (hc:o.kind.isCall=false) (hn:o.kind.isNil=false) {M:Mem} {nb:Nat} {v:V} {M' : Mem} (h:Qn n0 (n0+o.dst.getD 0) o.kind (o.xs s) M=some (v,M')):Core C n0 pc o s M nb v M' nb:=by
 simp [Core,hw,hc,hn,h]
structure Qbmf (n0 nb:Nat) (o:COp) (s:Sl) (M:Mem):Prop where
 xs:V.ons (fun k=>(M k).isSome=true) (o.xs s)
 key:n0+o.dst.getD 0<nb
 low:∀ k,(M k).isSome=true→k<nb
theorem Qvo {a b:COp} {s:Sl} {M M1 M2:Mem} {nb nb1 nb2:Nat} {va vb:V} (hf:Free C n0 pc a s va∧M1=M∧nb1=nb∨Free C n0 pc b s vb∧M2=M1∧nb2=nb1)
  (ha:Core C n0 pc a s M nb va M1 nb1) (hb:Core C n0 pc b s M1 nb1 vb M2 nb2) :
  ∃ M1' nb1',Core C n0 pc b s M nb vb M1' nb1'∧Core C n0 pc a s M1' nb1' va M2 nb2:=by
 rcases hf with ⟨hf,rfl,rfl⟩|⟨hf,rfl,rfl⟩
 ·exact ⟨M2,nb2,hb,hf _ _⟩
 ·exact ⟨M,nb,hf _ _,ha⟩
theorem Q00 {o:COp} (hc:o.kind.isCall=false):o.eff pc=o.kind.eff∨(o.eff pc = .other):=by
 unfold COp.eff;cases hk:o.kind<;>simp_all [K.eff,K.isCall]<;>(cases o.dst<;>simp)
theorem Qbmg {o:COp} (h:o.eff pc = .alloc):o.kind.eff = .alloc∧o.dst.isSome=true:=by
 unfold COp.eff at h;split at h
 ·split at h<;>(try split at h)<;>(try split at h)<;>cases h
 ·split at h
  ·rename_i h1 h2;exact ⟨h1,h2⟩
  ·cases h
 ·rename_i h1 h2;exact absurd h h2
theorem Qbbw {o:COp} (hc:o.kind.isCall=true) (hpc:pc≤1∨10≤pc):o.eff pc = .call∧(pc=1∨10≤pc∧wrs (pc-10) o.dst≠true)∨o.eff pc = .gen∨o.eff pc = .callw∧10≤pc:=by
 unfold COp.eff;have:o.kind.eff = .call:=by cases hk:o.kind<;>simp_all [K.eff,K.isCall]
 rw [this];simp only;split
 ·rename_i h10;split
  ·exact .inr (.inr ⟨rfl,h10⟩)
  ·rename_i hd;exact .inl ⟨rfl,.inr ⟨h10,hd⟩⟩
 ·rw [if_neg (by omega)];split
  ·exact .inl ⟨rfl,.inl (by assumption)⟩
  ·exact .inr (.inl rfl)
theorem Qgc {M W:Mem} (h:∀ k,W k=none):M.patch W=M:=by
 funext k;simp [Mem.patch,h k]
theorem CallStp.over {d:Option Nat} {f:FuncId} {args:List V} {M:Mem} {nb:Nat} {r:V} {M' : Mem} {nb' : Nat} (hpc:pc=1∨10≤pc):CallStp C n0 pc d f args M nb r M' nb' ↔
  ∃ W Δ,(10≤pc∧wrs (pc-10) d=true∨∀ k,W k=none)∧(∀ k,(W k).isSome=true→(M k).isSome=true)∧(∀ k cs,k<n0→W k=some (.cells cs)→V.lt.go n0 cs=true) ∧
   (∀ M2:Mem,(∀ k,(M k).isSome=true→M2 k=M k)→(∀ k,nb≤k→M2 k=none)→C f args M2 nb r ((M2.patch W).over nb Δ) nb')∧M'=(M.patch W).over nb Δ:=by
 rcases hpc with rfl|h10
 ·constructor
  ·rintro ⟨Δ,h1,h2⟩;exact ⟨fun _=>none,Δ,.inr fun _=>rfl,by simp,by simp,by simpa only [Qgc (fun _=>rfl)] using h1,by simpa only [Qgc (fun _=>rfl)] using h2⟩
  ·rintro ⟨W,Δ,h0,_,_,h1,h2⟩;have h0:∀ k,W k=none:=by
    rcases h0 with h|h
    ·omega
    ·exact h
   exact ⟨Δ,by simpa only [Qgc h0] using h1,by simpa only [Qgc h0] using h2⟩
 ·obtain ⟨n,rfl⟩ : ∃ n,pc=n+2:=⟨pc-2,by omega⟩;have hn8:¬ n<8:=by omega
  have he:n+2-10=n-8:=by omega
  show (if n<8 then _ else _)↔_;rw [if_neg hn8,he];constructor
  ·rintro ⟨W,Δ,h0,h⟩;exact ⟨W,Δ,h0.imp (fun h=>⟨h10,h⟩) id,h⟩
  ·rintro ⟨W,Δ,h0,h⟩;exact ⟨W,Δ,h0.imp (fun h=>h.2) id,h⟩
theorem Q8y {o:COp} {s:Sl} {p:Nat} {rest:List Arg} (hargs:o.args = .t p::rest) {k off:Nat} {xs:List V} (h:o.xs s = .ptr k off::xs):s p = .ptr k off:=by
 unfold COp.xs at h;rw [hargs] at h;split at h
 ·simp only [List.map_cons,Arg.val,List.cons.injEq] at h;exact h.1
 ·simp only [List.map_cons,Arg.val,V.dems,List.cons.injEq] at h;have:=h.1;cases hv:s p<;>rw [hv] at this<;>simp_all [V.dem]
theorem Qbmh {a b:COp} {ps:List Pair} (hcm:Qtl pc a b=some ps) {s:Sl} {M M1 M2:Mem} {nb nb1 nb2:Nat} {va vb:V} (hsa:Qbmf n0 nb a s M) (hsb:Qbmf n0 nb b s M)
  (hap:∀ p∈ps,Qo7 (s p.a) p.n (s p.b) p.m=true) (ha:Core C n0 pc a s M nb va M1 nb1) (hb:Core C n0 pc b s M1 nb1 vb M2 nb2) :
  ∃ M1' nb1',Core C n0 pc b s M nb vb M1' nb1'∧Core C n0 pc a s M1' nb1' va M2 nb2:=by
 have hsl:a.slotsApart b=true:=by
  unfold Qtl at hcm;split at hcm
  ·assumption
  ·cases hcm
 unfold Qtl at hcm;rw [if_pos hsl] at hcm;rcases ha.does with ⟨hf,h1,h2⟩|⟨hwa,hca,hna,hea,hra,h2a⟩|⟨f,args,hwa,hca,hcala,hpca,hcc⟩
 ·exact Qvo (.inl ⟨hf,h1,h2⟩) ha hb
 ·rcases hb.does with ⟨hf,h1,h2⟩|⟨hwb,hcb,hnb,heb,hrb,h2b⟩|⟨f,args,hwb,hcb,hcalb,hpcb,hcc⟩
  ·exact Qvo (.inr ⟨hf,h1,h2⟩) ha hb
  ·subst h2a h2b;have fin:∀ M1',Qn n0 (n0+b.dst.getD 0) b.kind (b.xs s) M=some (vb,M1')→Qn n0 (n0+a.dst.getD 0) a.kind (a.xs s) M1'=some (va,M2) →
     ∃ M1' nb1',Core C n0 pc b s M nb2 vb M1' nb1'∧Core C n0 pc a s M1' nb1' va M2 nb2:=fun M1' h1 h2=>⟨M1',nb2,Qbfs hwb hcb hnb h1,Qbfs hwa hca hna h2⟩
   have pa:a.eff pc ≠ .pure:=by
    rcases Q00 (pc:=pc) hca with h|h<;>rw [h]
    ·exact hea
    ·simp
   have pb:b.eff pc ≠ .pure:=by
    rcases Q00 (pc:=pc) hcb with h|h<;>rw [h]
    ·exact heb
    ·simp
   have ka:∀ e,a.eff pc=e→e ≠ .other→a.kind.eff=e:=fun e h h'=>by
    rcases Q00 (pc:=pc) hca with h1|h1
    ·rw [← h1];exact h
    ·rw [h1] at h;exact absurd h.symm h'
   have kb:∀ e,b.eff pc=e→e ≠ .other→b.kind.eff=e:=fun e h h'=>by
    rcases Q00 (pc:=pc) hcb with h1|h1
    ·rw [← h1];exact h
    ·rw [h1] at h;exact absurd h.symm h'
   cases ea:a.eff pc<;>cases eb:b.eff pc<;>rw [ea,eb] at hcm<;>(try (simp at hcm;done))<;>(try (exact absurd ea pa))<;>(try (exact absurd eb pb))
   all_goals first
    | (exfalso;have:=ka _ ea (by simp);have hx:=hca;revert this hx;cases a.kind<;>simp [K.eff,K.isCall];done)
    | (exfalso;have:=kb _ eb (by simp);have hx:=hcb;revert this hx;cases b.kind<;>simp [K.eff,K.isCall];done)
    | skip
   ·obtain ⟨rfl,_⟩:=Qgb (ka _ ea (by simp)) hra;obtain ⟨rfl,_⟩:=Qgb (kb _ eb (by simp)) hrb;exact fin _ hrb hra
   ·obtain ⟨rfl,h1⟩:=Qgb (ka _ ea (by simp)) hra;obtain ⟨h2,bx,rfl,h3⟩:=Qhg (kb _ eb (by simp)) hrb;exact fin _ hrb (h1 _ _ (Qbcx bx (fun _ h=>h) h2).1 hsa.xs)
   ·obtain ⟨rfl,h1⟩:=Qgb (ka _ ea (by simp)) hra;have kt:b.kind = .loadT:=by have:=kb _ eb (by simp);revert this;cases b.kind<;>simp [K.eff]
    rw [kt] at hrb;obtain ⟨k,off,cs,x,hx1,hx2,hx3,hx4,rfl⟩:=Qtg hrb;rw [← kt] at hrb;exact fin _ hrb (h1 _ _ (Qbei hx2 hx3 _).1 hsa.xs)
   ·obtain ⟨rfl,h1⟩:=Qgb (ka _ ea (by simp)) hra;obtain ⟨n',kt⟩ : ∃ n',b.kind = .store n':=by have:=kb _ eb (by simp);revert this;cases b.kind<;>simp [K.eff]
    have hrb0:=hrb;rw [kt] at hrb;obtain ⟨k',off',x,cs,hx1,hx2,hx3,hx4,rfl,rfl⟩:=Qbii hrb;simp only at hcm;split at hcm<;>try (cases hcm;done)
    rename_i p n q m hpa hpb;cases hcm;have hap':=hap ⟨p,n,q,m⟩ (by simp);simp only at hap';unfold COp.place at hpb;split at hpb<;>(try (cases hpb;done))
    ·rename_i hk _;rw [kt] at hk;cases hk
    ·rename_i hk _;rw [kt] at hk;cases hk
    rename_i n0' q' xb hk hargs;rw [kt] at hk;cases hk;cases hpb;rw [Q8y hargs hx1] at hap';unfold COp.place at hpa;split at hpa<;>(try (cases hpa;done))
    ·rename_i ag nl p' hka hargsa;cases hpa;refine fin _ (by rw [kt];exact hrb) ?_;have hxa:∃ pv,a.xs s=[pv]:=by
      unfold COp.xs;rw [hargsa];split<;>simp [Arg.val,V.dems]
     obtain ⟨pv,hpv⟩:=hxa;rw [hka,hpv] at hra h1 ⊢;cases pv with
     | ptr k off =>
      rw [Q8y hargsa hpv] at hap';exact Qbkm hra hx2 hx3 hx4 hap'
     | cref cs'=>exact h1 (fun _=>False) _ (fun _ h=>h.elim) (by simp [V.ons,V.on])
     | _=>simp [Qn] at hra
    ·rename_i hka _;simp [COp.eff,hka,K.eff] at ea
    ·rename_i hka _;simp [COp.eff,hka,K.eff] at ea
   ·obtain ⟨rfl,h1⟩:=Qgb (ka _ ea (by simp)) hra;obtain ⟨kd,z,kt⟩ : ∃ kd z,b.kind = .lookupT kd z:=by have:=kb _ eb (by simp);revert this;cases b.kind<;>simp [K.eff]
    have hrb0:=hrb;rw [kt] at hrb;obtain ⟨k,key,bx,hx1,hx2,⟨b',rfl,hag,_⟩|⟨rfl,_⟩⟩:=Qsi hrb
    ·exact fin _ hrb0 (h1 _ _ (hag _).1 hsa.xs)
    ·exact fin _ hrb0 hra
   ·obtain ⟨h2,bx,rfl,h3⟩:=Qhg (ka _ ea (by simp)) hra;obtain ⟨rfl,h1⟩:=Qgb (kb _ eb (by simp)) hrb;exact fin _ (h1 _ _ (Qbcx bx (fun _ h=>h) h2).2 hsb.xs) hra
   ·obtain ⟨h2,bx,rfl,h3⟩:=Qhg (ka _ ea (by simp)) hra;obtain ⟨h4,by',rfl,h5⟩:=Qhg (kb _ eb (by simp)) hrb;have hne:n0+a.dst.getD 0≠n0+b.dst.getD 0:=by
     intro e;rw [e,Qhh] at h4;cases h4
    rw [Qcu _ _ (Ne.symm hne)] at h4;refine fin _ (h5 M h4) ?_;rw [Q4u _ _ _ hne];exact h3 _ (by rw [Qcu _ _ hne];exact h2)
   ·obtain ⟨h2,bx,rfl,h3⟩:=Qhg (ka _ ea (by simp)) hra;have kt:b.kind = .loadT:=by have:=kb _ eb (by simp);revert this;cases b.kind<;>simp [K.eff]
    rw [kt] at hrb;obtain ⟨k,off,cs,x,hx1,hx2,hx3,rfl,rfl⟩:=Qtg hrb;have hk:(M k).isSome=true:=by have:=hsb.xs;rw [hx1] at this;exact this.1
    have hne:k≠n0+a.dst.getD 0:=fun e=>by rw [e,h2] at hk;cases hk
    rw [Qcu _ _ hne] at hx2;refine fin _ (by rw [kt,hx1];exact Qth hx2 hx3) ?_;rw [Q4u _ _ _ (Ne.symm hne)];exact h3 _ (by rw [Qcu _ _ (Ne.symm hne)];exact h2)
   ·obtain ⟨h2,bx,rfl,h3⟩:=Qhg (ka _ ea (by simp)) hra;obtain ⟨kd,z,kt⟩ : ∃ kd z,b.kind = .lookupT kd z:=by have:=kb _ eb (by simp);revert this;cases b.kind<;>simp [K.eff]
    rw [kt] at hrb;obtain ⟨k,key,bk,hx1,hx2,hres⟩:=Qsi hrb;have hk:(M k).isSome=true:=by have:=hsb.xs;rw [hx1] at this;exact this.1
    have hne:k≠n0+a.dst.getD 0:=fun e=>by rw [e,h2] at hk;cases hk
    rw [Qcu _ _ hne] at hx2;rcases hres with ⟨b',rfl,_,hag⟩|⟨rfl,hag⟩
    ·refine fin _ (by rw [kt];exact hag M hx2) ?_;rw [Q4u _ _ _ (Ne.symm hne)];exact h3 _ (by rw [Qcu _ _ (Ne.symm hne)];exact h2)
    ·exact fin _ (by rw [kt];exact hag M hx2) (h3 _ h2)
   ·have kt:a.kind = .loadT:=by have:=ka _ ea (by simp);revert this;cases a.kind<;>simp [K.eff]
    have hra0:=hra;rw [kt] at hra;obtain ⟨k,off,cs,x,hx1,hx2,hx3,hx4,rfl⟩:=Qtg hra;obtain ⟨rfl,h1⟩:=Qgb (kb _ eb (by simp)) hrb;exact fin _ (h1 _ _ (Qbei hx2 hx3 _).2 hsb.xs) hra0
   ·have kt:a.kind = .loadT:=by have:=ka _ ea (by simp);revert this;cases a.kind<;>simp [K.eff]
    rw [kt] at hra;obtain ⟨k,off,cs,x,hx1,hx2,hx3,rfl,rfl⟩:=Qtg hra;obtain ⟨h2,bx,rfl,h3⟩:=Qhg (kb _ eb (by simp)) hrb;have hne:k≠n0+b.dst.getD 0:=fun e=>by rw [e,Qhh] at h2;cases h2
    rw [Qcu _ _ (Ne.symm hne)] at h2;refine fin _ (h3 _ h2) ?_;rw [Q4u _ _ _ hne,kt,hx1];exact Qth (by rw [Qcu _ _ hne];exact hx2) hx3
   ·have kt:a.kind = .loadT:=by have:=ka _ ea (by simp);revert this;cases a.kind<;>simp [K.eff]
    have kt' : b.kind = .loadT:=by have:=kb _ eb (by simp);revert this;cases b.kind<;>simp [K.eff]
    rw [kt] at hra;rw [kt'] at hrb;obtain ⟨k,off,cs,x,hx1,hx2,hx3,rfl,rfl⟩:=Qtg hra;obtain ⟨k',off',cs',x',hy1,hy2,hy3,rfl,rfl⟩:=Qtg hrb;simp only at hcm;split at hcm<;>try (cases hcm;done)
    rename_i p n q m hpa hpb;cases hcm;have hap':=hap ⟨p,n,q,m⟩ (by simp);simp only at hap';obtain ⟨rfl,hsp⟩ : n=1∧s p = .ptr k off:=by
     unfold COp.place at hpa;split at hpa<;>(try (cases hpa;done))
     ·rename_i hk _;rw [kt] at hk;cases hk
     ·rename_i hargs;cases hpa;exact ⟨rfl,Q8y hargs hx1⟩
     ·rename_i hk _;rw [kt] at hk;cases hk
    obtain ⟨rfl,hsq⟩ : m=1∧s q = .ptr k' off':=by
     unfold COp.place at hpb;split at hpb<;>(try (cases hpb;done))
     ·rename_i hk _;rw [kt'] at hk;cases hk
     ·rename_i hargs;cases hpb;exact ⟨rfl,Q8y hargs hy1⟩
     ·rename_i hk _;rw [kt'] at hk;cases hk
    rw [hsp,hsq] at hap';by_cases hkk:k'=k
    ·subst hkk;have hoff:off+1≤off' ∨ off'+1≤off:=by simpa [Qo7] using hap'
     rw [Qhh] at hy2;cases hy2;rw [List.getElem?_set_ne (by omega)] at hy3;refine fin (M.put k' (.cells (cs.set off' x'.dem))) (by rw [kt',hy1];exact Qth hx2 hy3) ?_;rw [kt,hx1,Qbgv];have:=Qth (n0:=n0) (κ:=n0+a.dst.getD 0) (M:=M.put k' (.cells (cs.set off' x'.dem))) (k:=k') (off:=off) (x:=x) (Qhh _ _ _) (by rw [List.getElem?_set_ne (by omega)];exact hx3);rw [Qbgv,List.set_comm _ _ (by omega)] at this;exact this
    ·rw [Qcu _ _ hkk] at hy2;refine fin (M.put k' (.cells (cs'.set off' x'.dem))) (by rw [kt',hy1];exact Qth hy2 hy3) ?_;rw [kt,hx1,Q4u _ _ _ (Ne.symm hkk)];exact Qth (by rw [Qcu _ _ (Ne.symm hkk)];exact hx2) hx3
   ·obtain ⟨kd,z,kt⟩ : ∃ kd z,a.kind = .lookupT kd z:=by have:=ka _ ea (by simp);revert this;cases a.kind<;>simp [K.eff]
    have hra0:=hra;rw [kt] at hra;obtain ⟨rfl,h1⟩:=Qgb (kb _ eb (by simp)) hrb;obtain ⟨k,key,bx,hx1,hx2,⟨b',rfl,hag,_⟩|⟨rfl,_⟩⟩:=Qsi hra
    ·exact fin _ (h1 _ _ (hag _).2 hsb.xs) hra0
    ·exact fin _ hrb hra0
   ·obtain ⟨kd,z,kt⟩ : ∃ kd z,a.kind = .lookupT kd z:=by have:=ka _ ea (by simp);revert this;cases a.kind<;>simp [K.eff]
    rw [kt] at hra;obtain ⟨k,key,bk,hx1,hx2,hres⟩:=Qsi hra;obtain ⟨h2,bx,rfl,h3⟩:=Qhg (kb _ eb (by simp)) hrb;rcases hres with ⟨b',rfl,_,hag⟩|⟨rfl,hag⟩
    ·have hne:k≠n0+b.dst.getD 0:=fun e=>by rw [e,Qhh] at h2;cases h2
     rw [Qcu _ _ (Ne.symm hne)] at h2;refine fin _ (h3 _ h2) ?_;rw [Q4u _ _ _ hne,kt];exact hag _ (by rw [Qcu _ _ hne];exact hx2)
    ·have hne:k≠n0+b.dst.getD 0:=fun e=>by rw [← e,hx2] at h2;cases h2
     refine fin _ (h3 _ h2) ?_;rw [kt];exact hag _ (by rw [Qcu _ _ hne];exact hx2)
  ·rcases Qbbw hcb hpcb with ⟨eb,hp1⟩|eb|⟨eb,_⟩
   ·cases ea:a.eff pc<;>rw [ea,eb] at hcm<;>(try (simp at hcm;done))
    ·rcases Q00 (pc:=pc) hca with h|h<;>rw [ea] at h
     ·exact absurd h.symm hea
     ·cases h
    ·have ka:a.kind.eff = .read:=by rcases Q00 (pc:=pc) hca with h|h<;>rw [ea] at h;exact h.symm;cases h
     obtain ⟨rfl,h1⟩:=Qgb ka hra;subst h2a;have hcc0:=hcc;obtain ⟨W,Δ,h0,hW,hW2,hcc1,rfl⟩:=(CallStp.over (hp1.imp id (·.1))).1 hcc;have h0:∀ k,W k=none:=by
      rcases h0 with ⟨h,h'⟩|h
      ·rcases hp1 with h2|⟨_,h2⟩
       ·omega
       ·exact absurd h' h2
      ·exact h
     refine ⟨(M1.patch W).over nb1 Δ,nb2,?_,?_⟩
     ·simp only [Core,hwb,hcb,if_true];exact ⟨f,args,hcalb,hcc0⟩
     ·simp only [Core,hwa,hca,hna,Bool.false_eq_true,if_false];exact ⟨h1 (fun k=>(M1 k).isSome=true) _ (fun k hk=>by simp only [Mem.over,hsa.low k hk,if_true,Qgc h0]) hsa.xs,trivial⟩
   ·cases ea:a.eff pc<;>rw [ea,eb] at hcm<;>(try (simp at hcm;done));rcases Q00 (pc:=pc) hca with h|h<;>rw [ea] at h
    ·exact absurd h.symm hea
    ·cases h
   ·cases ea:a.eff pc<;>rw [ea,eb] at hcm<;>(try (simp at hcm;done));rcases Q00 (pc:=pc) hca with h|h<;>rw [ea] at h
    ·exact absurd h.symm hea
    ·cases h
 ·rcases hb.does with ⟨hf,h1,h2⟩|⟨hwb,hcb,hnb,heb,hrb,h2b⟩|⟨f',args',hwb,hcb,hcalb,hpcb,hcc'⟩
  ·exact Qvo (.inr ⟨hf,h1,h2⟩) ha hb
  ·subst h2b;have over:(pc=1∨10≤pc)→b.eff pc = .alloc→∃ M1' nb1',Core C n0 pc b s M nb vb M1' nb1'∧Core C n0 pc a s M1' nb1' va M2 nb2:=by
    intro hp1 eb;obtain ⟨W,Δ,h0,hW,hW2,hcc1,rfl⟩:=(CallStp.over hp1).1 hcc;obtain ⟨kb,_⟩:=Qbmg eb;obtain ⟨h1,bx,rfl,h3⟩:=Qhg kb hrb;have hlt:n0+b.dst.getD 0<nb:=hsb.key;have hMW:W (n0+b.dst.getD 0)=none∧M (n0+b.dst.getD 0)=none:=by
     simp only [Mem.over,hlt,if_true,Mem.patch] at h1;cases hw:W (n0+b.dst.getD 0) with
     | none=>rw [hw] at h1;exact ⟨rfl,h1⟩
     | some x=>rw [hw] at h1;cases h1
    obtain ⟨hWn,hM⟩:=hMW;refine ⟨_,nb,Qbfs hwb hcb hnb (h3 M hM),?_⟩;simp only [Core,hwa,hca,if_true];refine ⟨f,args,hcala,(CallStp.over hp1).2 ⟨W,Δ,h0,fun k hk=>?_,hW2,fun M2 h4 h5=>hcc1 M2 (fun k hk=>?_) h5,?_⟩⟩
    ·simp only [Mem.put];split
     ·rfl
     ·exact hW k hk
    ·have hne:k≠n0+b.dst.getD 0:=fun e=>by rw [e,hM] at hk;cases hk
     have:=h4 k (by rw [Qcu _ _ hne];exact hk);rw [Qcu _ _ hne] at this;exact this
    ·funext k;simp only [Mem.over,Mem.put,Mem.patch];by_cases hk:k=n0+b.dst.getD 0
     ·subst hk;simp [hlt,hWn]
     ·simp [hk]
   rcases Qbbw hca hpca with ⟨ea,hp1⟩|ea|⟨ea,hp1⟩
   ·cases eb:b.eff pc<;>(try (rw [ea,eb] at hcm;simp at hcm;done))
    ·rcases Q00 (pc:=pc) hcb with h|h<;>rw [eb] at h
     ·exact absurd h.symm heb
     ·cases h
    ·have kb:b.kind.eff = .read:=by rcases Q00 (pc:=pc) hcb with h|h<;>rw [eb] at h;exact h.symm;cases h
     obtain ⟨rfl,h1⟩:=Qgb kb hrb;obtain ⟨W,Δ,h0,hW,hW2,hcc1,rfl⟩:=(CallStp.over (hp1.imp id (·.1))).1 hcc;have h0:∀ k,W k=none:=by
      rcases h0 with ⟨h,h'⟩|h
      ·rcases hp1 with h2|⟨_,h2⟩
       ·omega
       ·exact absurd h' h2
      ·exact h
     refine ⟨M,nb,Qbfs hwb hcb hnb (h1 (fun k=>(M k).isSome=true) _ (fun k hk=>by simp only [Mem.over,hsb.low k hk,if_true,Qgc h0]) hsb.xs),ha⟩
    ·exact over (hp1.imp id (·.1)) eb
   ·cases eb:b.eff pc<;>rw [ea,eb] at hcm<;>(try (simp at hcm;done));rcases Q00 (pc:=pc) hcb with h|h<;>rw [eb] at h
    ·exact absurd h.symm heb
    ·cases h
   ·cases eb:b.eff pc<;>(try (rw [ea,eb] at hcm;simp at hcm;done))
    ·rcases Q00 (pc:=pc) hcb with h|h<;>rw [eb] at h
     ·exact absurd h.symm heb
     ·cases h
    ·exact over (.inr hp1) eb
  ·rcases Qbbw hca hpca with ⟨ea,_⟩|ea|⟨ea,_⟩<;>rcases Qbbw hcb hpcb with ⟨eb,_⟩|eb|⟨eb,_⟩<;>rw [ea,eb] at hcm<;>simp at hcm
end Go.Abs
end
section
namespace Go.Abs
open Go
def Qbft (C:Ctx) (n0 pc:Nat):List COp→St→St→Prop
 | [],σ,σ'=>σ'=σ
 | o::os,σ,σ'=>∃ σ1,Stp C n0 pc o σ σ1∧Qbft C n0 pc os σ1 σ'
theorem Qbgw {C:Ctx} {n0 pc:Nat}:∀ {os:List COp} {σ:St} {Q:St→Prop},(∀ o∈os,o.kind.isNil=false)→Qbgd C n0 pc os σ Q→∃ σ',Qbft C n0 pc os σ σ'∧Q σ'
 | [],σ,Q,_,h=>⟨σ,rfl,h⟩
 | o::os,σ,Q,hn,h=>by
  obtain ⟨σ1,h1,h2⟩:=Qbp7 (hn o (by simp)) h;obtain ⟨σ',h3,h4⟩:=Qbgw (fun o ho=>hn o (by simp [ho])) h2;exact ⟨σ',⟨σ1,h1,h3⟩,h4⟩
theorem Alike.symm {o:COp} {s s' : Sl} (h:Alike o s s'):Alike o s' s:=by
 refine ⟨fun t w hg=>(h.1 t w hg).symm,fun a ha=>?_⟩;have:=h.2 a ha;split at this
 ·rename_i ht;rw [if_pos ht];exact this.symm
 ·rename_i ht;rw [if_neg ht];exact this.symm
theorem Qbej (x y:V) (n m:Nat):Qo7 x.dem n y m=Qo7 x n y m:=by
 cases x<;>first|rfl|(cases y<;>rfl)
theorem Qbcy (x y:V) (n m:Nat):Qo7 x n y.dem m=Qo7 x n y m:=by
 cases y<;>first|rfl|(cases x<;>rfl)
theorem Qbgx {x x' y y' : V} {n m:Nat} (hx:x'.dem=x.dem) (hy:y'.dem=y.dem):Qo7 x' n y' m=Qo7 x n y m:=by
 rw [← Qbej x',← Qbej x,hx,← Qbcy _ y',← Qbcy _ y,hy]
theorem Qbp9 {C:Ctx} {n0 pc:Nat} {o:COp} {σ σ' : St} (h:Stp C n0 pc o σ σ') {t:Nat} (ht:o.dst≠some t):(σ'.s t).dem=(σ.s t).dem:=by
 obtain ⟨v,_,hs⟩:=h;rw [hs];have:Qbf (Q7 σ.s o.args (pv o σ.s)) o.dst v t=Q7 σ.s o.args (pv o σ.s) t:=by
  cases hd:o.dst with
  | none=>rfl
  | some d =>
   have:t≠d:=fun e=>ht (by rw [hd,e]);simp [Qbf,Sl.put,this]
 rw [this];exact Qbcs _ _ _ (Qbmc o σ.s) t
theorem Qbcz {C:Ctx} {n0 pc:Nat}:∀ {os:List COp} {σ σ' : St},Qbft C n0 pc os σ σ'→∀ {t:Nat},(∀ o∈os,o.dst≠some t)→(σ'.s t).dem=(σ.s t).dem
 | [],σ,σ',h,t,_=>by rw [show σ'=σ from h]
 | o::os,σ,σ',⟨σ1,h1,h2⟩,t,ht=>(Qbcz h2 fun o ho=>ht o (by simp [ho])).trans (Qbp9 h1 (ht o (by simp)))
theorem Qboe {C:Ctx} {n0 pc:Nat} {a b:COp} {ps:List Pair} (hcm:Qtl pc a b=some ps) {σ σ1 σ2:St} (hsa:Qbmf n0 σ.nb a σ.s σ.M) (hsb:Qbmf n0 σ.nb b σ.s σ.M)
  (hap:∀ p∈ps,Qo7 (σ.s p.a) p.n (σ.s p.b) p.m=true) (ha:Stp C n0 pc a σ σ1) (hb:Stp C n0 pc b σ1 σ2):∃ σ1',Stp C n0 pc b σ σ1'∧Stp C n0 pc a σ1' σ2:=by
 have hsl:a.slotsApart b=true:=by
  unfold Qtl at hcm;split at hcm
  ·assumption
  ·cases hcm
 obtain ⟨va,hca,hs1⟩:=ha;obtain ⟨vb,hcb,hs2⟩:=hb;obtain ⟨k1,k2,k3⟩:=Qbkk hsl σ.s va vb;rw [← hs1] at k1 k3;obtain ⟨M1',nb1',h1,h2⟩:=Qbmh hcm hsa hsb hap hca (k1.symm.core hcb);refine ⟨⟨_,M1',nb1'⟩,⟨vb,h1,rfl⟩,va,k2.core h2,?_⟩;rw [hs2];exact k3
section
variable {P:Program} {C:Ctx} {n0 nt:Nat} {g0:G} {w0:World}
def Real (n0 nt:Nat) (g0:G) (w0:World) (σ:St):Prop:=∃ a w g,SR n0 nt g0 w0 σ a w g
theorem Qbqa {o:Oper} {a:Act} {w:World} {KK:Act→World→Prop} (h:o.wp P a w KK fun _ _ _=>False):∃ a' w',KK a' w':=by
 unfold Oper.wp at h;generalize (execOp a.eval o).run P w=r at h;cases r with
 | ok n w' =>
  cases n with
  | value v=>exact ⟨_,_,h⟩
  | skip=>exact ⟨_,_,h⟩
  | defer d=>exact ⟨_,_,h⟩
  | enter f args =>
   obtain ⟨e,w2,fr,h1,_⟩:=(h:Calls P f args w' _) [];cases e with
   | returned v=>exact ⟨_,_,h1⟩
   | panicked c=>exact h1.elim
   | outgrown=>obtain ⟨_,_,h⟩:=h1;exact h.elim
  | row row args =>
   obtain ⟨v,w2,h1,_⟩:=(h:Rows P row args w' _) (Frame.enter P 0 #[] .normal) [];exact ⟨_,_,h1⟩
  | _=>exact h.elim
 | halt x w'=>cases x<;>exact h.elim
theorem Real.step (hC:Qbl7 P C) {T:Tk} {ops:Array Oper} {o:Oper} {c:COp} (hc:Qjm P T nt ops o=some c) {pc:Nat} {σ σ' : St} (h:Real n0 nt g0 w0 σ) (hs:Stp C n0 pc c σ σ'):Real n0 nt g0 w0 σ':=by
 obtain ⟨a,w,g,hsr⟩:=h;have:=Qbfp (QQ:=fun _ _ _=>False) hC hc hsr (Qbl9 (Q:=(· = σ')) hs rfl) (KK:=fun _ _=>Real n0 nt g0 w0 σ') fun σ2 a' w' g' hq hs'=>by subst hq;exact ⟨_,_,_,hs'⟩
 split at this
 ·obtain ⟨_,_,h⟩:=Qbqa this;exact h
 ·exact this
theorem Qbbd {T:Tk} {ops:Array Oper} {o:Oper} {c:COp} (hc:Qjm P T nt ops o=some c) {σ:St} (h:Real n0 nt g0 w0 σ):Qbmf n0 σ.nb c σ.s σ.M:=by
 obtain ⟨a,w,g,hsr⟩:=h;obtain ⟨hdst,hd⟩:=Qbeh hc;have hc':=hc;unfold Qjm at hc;split at hc<;>try (cases hc;done)
 rename_i k as tk hk;split at hc<;>try (cases hc;done)
 rename_i hcond;simp only [Bool.and_eq_true,decide_eq_true_eq,List.all_eq_true] at hcond;have hargs:c.args=as:=by
  split at hc
  ·cases hc;rfl
  ·split at hc<;>cases hc;rfl
 have hons:V.ons (There σ.M) (c.args.map (·.val σ.s)):=by
  rw [Qht];intro v hv;obtain ⟨x,hx,rfl⟩:=List.mem_map.1 hv;cases x with
  | t i=>exact hsr.onS i
  | c v =>
   have h1:=hcond.2 _ (hargs ▸ hx);simp only [Qbq1] at h1;exact Qf8 (fun k hk=>absurd hk (Nat.not_lt_zero k)) v (Qbny v h1)
 refine ⟨?_,?_,fun k hk=>?_⟩
 ·show V.ons (There σ.M) _;unfold COp.xs;split
  ·exact hons
  ·exact (ons_dems _).2 hons
 ·have ht:=hsr.top;cases hd' : c.dst with
  | none=>have:=hcond.1.1;simp;omega
  | some d=>have hlt:d<nt:=hd d (by rw [← hdst];exact hd');simp only [Option.getD_some];omega
 ·obtain ⟨b,hb⟩:=Option.isSome_iff_exists.1 hk;exact (hsr.mem.box k b hb).1
theorem Qbkn (hC:Qbl7 P C) {T:Tk} {ops:Array Oper} {pc:Nat} {b:COp} {post:List COp} {σe:St} (hb:∃ o,Qjm P T nt ops o=some b) :
  ∀ (pre:List COp) (σ:St),(∀ c∈pre,∃ o,Qjm P T nt ops o=some c) →
  (∀ (pre1:List COp) a pre2,pre=pre1++a::pre2→∃ ps,Qtl pc a b=some ps∧∀ p∈ps,Qo7 (σe.s p.a) p.n (σe.s p.b) p.m=true∧∀ c∈(a::pre2)++b::post,c.dst≠some p.a∧c.dst≠some p.b) →
  Real n0 nt g0 w0 σ→Qbft C n0 pc (pre++b::post) σ σe→Qbft C n0 pc (b::(pre++post)) σ σe:=by
 intro pre
 induction pre with
 | nil=>intro σ _ _ _ h;exact h
 | cons a pre ih =>
  intro σ hc hcm hr h;obtain ⟨σ1,h1,h2⟩:=h;obtain ⟨o,ho⟩:=hc a (by simp);obtain ⟨σ2,h3,h4⟩:=ih σ1 (fun c hc'=>hc c (by simp [hc'])) (fun pre1 a' pre2 e=>hcm (a::pre1) a' pre2 (by rw [e];rfl)) (hr.step hC ho h1) h2;obtain ⟨ps,hp1,hp2⟩:=hcm [] a pre rfl;obtain ⟨ob,hob⟩:=hb;have hap:∀ p∈ps,Qo7 (σ.s p.a) p.n (σ.s p.b) p.m=true:=by
   intro p hp;obtain ⟨q1,q2⟩:=hp2 p hp;have hch:Qbft C n0 pc (a::(pre++b::post)) σ σe:=⟨σ1,h1,h2⟩;rw [← q1];exact (Qbgx (Qbcz hch fun c hc'=>(q2 c hc').1) (Qbcz hch fun c hc'=>(q2 c hc').2)).symm
  obtain ⟨σ1',k1,k2⟩:=Qboe hp1 (Qbbd ho hr) (Qbbd hob hr) hap h1 h3;exact ⟨σ1',k1,σ2,k2,h4⟩
theorem Qbji {ops:List Oper} (L:Nat→Prop) (hL:∀ (j:Nat) o,ops[j]? = some o→L j→∀ e∈Q0y o,L e) :
  ∀ (rest:List Oper) (acc:List Nat),acc.length+rest.length=ops.length→rest=ops.drop acc.length →
  (∀ (j:Nat) l o,acc[j]? = some l→ops[j]? = some o→(∀ e∈Q0y o,L e)→∀ x,l.testBit x=true→L x) →
  ∀ (j:Nat) l o,(rest.foldl (fun acc o=>acc++[(Q0y o).foldl (fun l e=>l ||| 2 ^ e ||| acc.getD e 0) 0]) acc)[j]? = some l→ops[j]? = some o→(∀ e∈Q0y o,L e)→∀ x,l.testBit x=true→L x
 | [],acc,_,_,hI=>hI
 | o::rest,acc,hlen,hrest,hI=>by
  simp only [List.foldl_cons];have hget:ops[acc.length]? = some o:=by
   have:(ops.drop acc.length)[0]? = some o:=by rw [← hrest];rfl
   simpa using this
  refine Qbji L hL rest _ (by simp at hlen ⊢;omega) ?_ ?_
  ·have:rest=(ops.drop acc.length).drop 1:=by rw [← hrest];rfl
   rw [this,List.drop_drop];simp
  ·intro j l o' hj ho' hb;by_cases hlt:j<acc.length
   ·rw [List.getElem?_append_left hlt] at hj;exact hI j l o' hj ho' hb
   ·have hjl:j=acc.length:=by
     have:=(List.getElem?_eq_some_iff.1 hj).1;simp at this;omega
    subst hjl;rw [List.getElem?_append_right (Nat.le_refl _),Nat.sub_self,List.getElem?_cons_zero,Option.some.injEq] at hj;rw [hget] at ho';cases ho';subst hj;have:∀ (es:List Nat) (l0:Nat),(∀ e∈es,L e)→(∀ x,l0.testBit x=true→L x)→∀ x,(es.foldl (fun l e=>l ||| 2 ^ e ||| acc.getD e 0) l0).testBit x=true→L x:=by
     intro es
     induction es with
     | nil=>intro l0 _ h;exact h
     | cons e es ih =>
      intro l0 h1 h2;simp only [List.foldl_cons];refine ih _ (fun e' he'=>h1 e' (by simp [he'])) fun x hx=>?_;simp only [Nat.testBit_or,Bool.or_eq_true,Nat.testBit_two_pow,decide_eq_true_eq] at hx;rcases hx with (hx|rfl)|hx
      ·exact h2 x hx
      ·exact h1 _ (by simp)
      ·have hLe:L e:=h1 e (by simp);by_cases hel:e<acc.length
       ·have h3:e<ops.length:=by simp at hlen;omega
        refine hI e acc[e] ops[e] (List.getElem?_eq_getElem hel) (List.getElem?_eq_getElem h3) (hL e _ (List.getElem?_eq_getElem h3) hLe) x ?_;simpa [List.getD,hel] using hx
       ·simp [List.getD,List.getElem?_eq_none (Nat.le_of_not_lt hel)] at hx
    exact this _ 0 hb (by simp)
theorem Qbmi {ops:List Oper} (L:Nat→Prop) (hL:∀ (j:Nat) o,ops[j]? = some o→L j→∀ e∈Q0y o,L e) {j:Nat} {o:Oper} (ho:ops[j]? = some o) (hb:∀ e∈Q0y o,L e):∀ x,((ancs ops).getD j 0).testBit x=true→L x:=by
 intro x hx;cases hj:(ancs ops)[j]? with
 | none=>simp [List.getD,hj] at hx
 | some l =>
  simp [List.getD,hj] at hx;exact Qbji L hL ops [] (by simp) (by simp) (by simp) j l o hj ho hb x hx
theorem Qbbx {α:Type} {l:List α} {i:Nat} {x:α}:(i,x)∈enum l↔l[i]? = some x:=by
 unfold enum;rw [List.mem_iff_getElem?];constructor
 ·rintro ⟨n,h⟩;rw [List.getElem?_zip_eq_some] at h;obtain ⟨h1,h2⟩:=h;have:=List.getElem?_eq_some_iff.1 h1;obtain ⟨h3,h4⟩:=this;simp at h4;subst h4;exact h2
 ·intro h;have hlt:=(List.getElem?_eq_some_iff.1 h).1;exact ⟨i,by rw [List.getElem?_zip_eq_some];exact ⟨by simp [hlt],h⟩⟩
theorem Qbgy {pc:Nat} {an:List Nat} {ops:List COp} {l:List Pair} (h:Qy3 pc an ops=some l) {i j:Nat} {a b:COp} (hi:ops[i]? = some a) (hj:ops[j]? = some b) (hij:i<j) (han:(an.getD j 0).testBit i=false) :
  ∃ m,Qtl pc a b=some m∧m.all (Q4m ops i (an.getD j 0))=true∧∀ p∈m,p∈l:=by
 unfold Qy3 at h;let inner:=fun (q:Nat×COp) (acc:Option (List Pair)) (r:Nat×COp)=>(match acc with
    | none=>none
    | some l=>if decide (q.1<r.1) && !(an.getD r.1 0).testBit q.1 then
      match Qtl pc q.2 r.2 with
      | some m=>if m.all (Q4m ops q.1 (an.getD r.1 0)) then some (l++m) else none
      | none=>none
     else some l:Option (List Pair))
 have hinner:∀ (q:Nat×COp) (rs:List (Nat×COp)) (acc:Option (List Pair)) (l:List Pair),rs.foldl (inner q) acc=some l→∃ l0,acc=some l0∧(∀ p∈l0,p∈l) ∧
   ∀ r∈rs,q.1<r.1→(an.getD r.1 0).testBit q.1=false→∃ m,Qtl pc q.2 r.2=some m∧m.all (Q4m ops q.1 (an.getD r.1 0))=true∧∀ p∈m,p∈l:=by
  intro q rs
  induction rs with
  | nil=>intro acc l h;exact ⟨l,h,fun _ h=>h,by simp⟩
  | cons r rs ih =>
   intro acc l h;simp only [List.foldl_cons] at h;obtain ⟨l1,h1,h2,h3⟩:=ih _ l h;cases acc with
   | none=>simp [inner] at h1
   | some l0 =>
    simp only [inner] at h1;refine ⟨l0,rfl,?_⟩;split at h1
    ·rename_i hc;split at h1<;>try (cases h1;done)
     rename_i m hm;split at h1<;>try (cases h1;done)
     rename_i hk;cases h1;refine ⟨fun p hp=>h2 p (by simp [hp]),fun r' hr'=>?_⟩;rcases List.mem_cons.1 hr' with rfl|hr'
     ·exact fun _ _=>⟨m,hm,hk,fun p hp=>h2 p (by simp [hp])⟩
     ·exact h3 r' hr'
    ·rename_i hc;cases h1;refine ⟨h2,fun r' hr'=>?_⟩;rcases List.mem_cons.1 hr' with rfl|hr'
     ·intro h4 h5;exact absurd (by simp only [Bool.and_eq_true,decide_eq_true_eq,Bool.not_eq_true'];exact ⟨h4,h5⟩) hc
     ·exact h3 r' hr'
 have houter:∀ (qs rs:List (Nat×COp)) (acc:Option (List Pair)) (l:List Pair),qs.foldl (fun acc q=>rs.foldl (inner q) acc) acc=some l→∃ l0,acc=some l0∧(∀ p∈l0,p∈l) ∧
   ∀ q∈qs,∀ r∈rs,q.1<r.1→(an.getD r.1 0).testBit q.1=false→∃ m,Qtl pc q.2 r.2=some m∧m.all (Q4m ops q.1 (an.getD r.1 0))=true∧∀ p∈m,p∈l:=by
  intro qs rs
  induction qs with
  | nil=>intro acc l h;exact ⟨l,h,fun _ h=>h,by simp⟩
  | cons q qs ih =>
   intro acc l h;simp only [List.foldl_cons] at h;obtain ⟨l1,h1,h2,h3⟩:=ih _ l h;obtain ⟨l0,h4,h5,h6⟩:=hinner q rs acc l1 h1;refine ⟨l0,h4,fun p hp=>h2 p (h5 p hp),fun q' hq' r hr h7 h8=>?_⟩;rcases List.mem_cons.1 hq' with rfl|hq'
   ·obtain ⟨m,k1,k2,k3⟩:=h6 r hr h7 h8;exact ⟨m,k1,k2,fun p hp=>h2 p (k3 p hp)⟩
   ·exact h3 q' hq' r hr h7 h8
 obtain ⟨_,_,_,h3⟩:=houter (enum ops) (enum ops) (some []) l h;exact h3 (i,a) (Qbbx.2 hi) (j,b) (Qbbx.2 hj) hij han
end
end Go.Abs
end
section
namespace Go.Abs
open Go
instance:Inhabited COp:=⟨{ dst:=none,kind:=.mov,args:=[],tk:=false,guard:=none }⟩
theorem Qbko (e:Edge):Region.binds .any e=Qbbt e:=by
 unfold Region.binds Qbbt;cases e.ground<;>rfl
def left (n:Nat) (listed:Array Bool):List Nat:=(List.range n).filter fun i=>!listed.getD i true
theorem Q8z {n:Nat} {listed:Array Bool} (hs:listed.size=n) {i:Nat}:i∈left n listed↔i<n∧listed.getD i false=false:=by
 unfold left;simp only [List.mem_filter,List.mem_range,Bool.not_eq_true'];constructor
 ·rintro ⟨h1,h2⟩;refine ⟨h1,?_⟩;have:i<listed.size:=by omega
  simp [Array.getD,this] at h2 ⊢;exact h2
 ·rintro ⟨h1,h2⟩;refine ⟨h1,?_⟩;have:i<listed.size:=by omega
  simp [Array.getD,this] at h2 ⊢;exact h2
theorem Qbgz {l:Array Bool} {x:Nat}:l.getD x false=true↔l[x]? = some true:=by
 rw [Array.getD_eq_getD_getElem?];cases l[x]? <;> simp
theorem Qbc0 (n:Nat) (listed:Array Bool):(left n listed).Pairwise (· < ·):=List.pairwise_lt_range.filter _
theorem Qbmj {n:Nat} {listed:Array Bool} (hs:listed.size=n) {i:Nat} {l1 l2:List Nat} (h:left n listed=l1++i::l2):left n (listed.setIfInBounds i true)=l1++l2:=by
 have h1:left n (listed.setIfInBounds i true)=(left n listed).filter (· ≠ i):=by
  unfold left;rw [List.filter_filter];apply List.filter_congr;intro j hj;have hj' : j<listed.size:=by simp at hj;omega
  by_cases e:j=i
  ·subst e;simp [Array.getD,hj']
  ·simp [Array.getD,hj',e,Array.getElem_setIfInBounds,Ne.symm e]
 have hp:=Qbc0 n listed;rw [h] at hp;rw [h1,h,List.filter_append,List.filter_cons];have h2:=List.pairwise_append.1 hp;have h3:=List.pairwise_cons.1 h2.2.1;have e1:l1.filter (· ≠ i)=l1:=List.filter_eq_self.2 fun j hj=>by
  have:=h2.2.2 j hj i (by simp);simp;omega
 have e2:l2.filter (· ≠ i)=l2:=List.filter_eq_self.2 fun j hj=>by
  have:=h3.1 j hj;simp;omega
 rw [e1,e2];simp
mutual
theorem Qbij:∀ v:V,v.on fun _=>True
 | .ptr ..=>trivial
 | .sl ..=>trivial
 | .mp _=>trivial
 | .agg cs=>ons_true cs
 | .tup cs=>ons_true cs
 | .clo _ cs=>ons_true cs
 | .und=>trivial
 | .d _=>trivial
 | .own ..=>trivial
 | .ownT ..=>trivial
 | .nilp=>trivial
 | .f _=>trivial
 | .nils _=>trivial
 | .cref _=>trivial
theorem ons_true:∀ vs:List V,V.ons (fun _=>True) vs
 | []=>trivial
 | v::vs=>⟨Qbij v,ons_true vs⟩
end
section
variable {P:Program} {C:Ctx} {n0 nt:Nat} {g0:G} {w0:World}
theorem Qbkp (hC:Qbl7 P C) {T:Tk} {ops:Array Oper} {cs:List COp} (hcs:ops.toList.mapM (Qjm P T nt ops)=some cs) {id pc:Nat} {ps:List Pair}
  (hup:Qbld ops.toList=true) (hm:P.follows .mixedOrders=true) (hnil:∀ c∈cs,c.kind.isNil=false) (hps:Qy3 pc (ancs ops.toList) cs=some ps) {Q:St→Prop} {QQ:Exit→Act→World→Prop}
  (hQ:∀ σ' a' w' g',Q σ'→SR n0 nt g0 w0 σ' a' w' g'→QQ .normal a' w') {σ:St} {a:Act} {w:World} {g:G} (h:SR n0 nt g0 w0 σ a w g)
  (hr:Qbgd C n0 pc cs σ fun σ'=>(ps.all fun p=>Qo7 (σ'.s p.a) p.n (σ'.s p.b) p.m)=true∧Q σ'):(Code.region id ops true).wp P QQ a w:=by
 obtain ⟨hlen,hget⟩:=Qsh hcs;obtain ⟨σe,hch,hap,hq⟩:=Qbgw hnil hr;have hlen' : cs.length=ops.size:=by rw [hlen];simp
 have hcomp:∀ i,i<ops.size→∃ o,ops[i]? = some o∧cs[i]? = some cs[i]! ∧ Qjm P T nt ops o=some cs[i]!:=by
  intro i hi;have h2:cs[i]? = some cs[i]!:=by
   have:i<cs.length:=by omega
   simp [this]
  exact ⟨ops[i],by simp [hi],h2,hget i _ _ (by simp [hi]) h2⟩
 have key:∀ (fuel:Nat) (listed:Array Bool) (σ:St) (a:Act) (w:World) (g:G),listed.size=ops.size→(left ops.size listed).length=fuel →
   (∀ (j:Nat) o,ops.toList[j]? = some o→listed.getD j false=true→∀ e∈Q0y o,listed.getD e false=true) →
   Qbft C n0 pc ((left ops.size listed).map (cs[·]!)) σ σe→SR n0 nt g0 w0 σ a w g→wpAny P .any ops QQ fuel listed a w:=by
  intro fuel
  induction fuel with
  | zero =>
   intro listed σ a w g hs hl hcl hch hsr;have hnil:left ops.size listed=[]:=List.eq_nil_of_length_eq_zero hl;rw [hnil] at hch;have:σe=σ:=hch;subst this;refine ⟨?_,hQ _ _ _ g hq hsr⟩;unfold left at hnil;rw [List.filter_eq_nil_iff] at hnil;unfold Region.ready;rw [List.filter_eq_nil_iff];intro i hi;have:=hnil i hi;simp at this ⊢;intro h1;simp [this] at h1
  | succ fuel ih =>
   intro listed σ a w g hs hl hcl hch hsr;have hsorted:=Qbc0 ops.size listed;have hready:∀ i o,ops[i]? = some o→(i∈Region.ready .any ops listed↔i∈left ops.size listed∧∀ e∈Q0y o,listed.getD e false=true):=by
    intro i o ho;unfold Region.ready left;simp only [List.mem_filter,ho,Option.map_some,Option.getD_some,Bool.and_eq_true,Array.all_eq_true',Qbko,Bool.or_eq_true,Bool.not_eq_true'];constructor
    ·rintro ⟨h1,h2,h3⟩;refine ⟨⟨h1,h2⟩,fun e he=>?_⟩;simp only [Q0y,List.mem_map,List.mem_filter] at he;obtain ⟨x,⟨hx1,hx2⟩,rfl⟩:=he;rcases h3 x (by simpa using hx1) with h4|h4
     ·rw [hx2] at h4;cases h4
     ·exact h4
    ·rintro ⟨⟨h1,h2⟩,h3⟩;refine ⟨h1,h2,fun x hx=>?_⟩;cases hb:Qbbt x with
     | false=>exact .inl rfl
     | true=>exact .inr (h3 x.on (by simp only [Q0y,List.mem_map,List.mem_filter];exact ⟨x,⟨by simpa using hx,hb⟩,rfl⟩))
   refine ⟨fun hnone=>?_,fun i hi=>?_⟩
   ·exfalso;cases hle:left ops.size listed with
    | nil=>rw [hle] at hl;simp at hl
    | cons i rest =>
     have him:i∈left ops.size listed:=by rw [hle];simp
     obtain ⟨hin,_⟩:=(Q8z hs).1 him;obtain ⟨o,ho,_,_⟩:=hcomp i hin;have:i∈Region.ready .any ops listed:=by
      refine (hready i o ho).2 ⟨him,fun e he=>?_⟩;have hlt:e<i:=by
       unfold Qbld at hup;rw [List.all_eq_true] at hup;have:=hup (i,o) (Qbbx.2 (by simpa using ho));simp only [List.all_eq_true,decide_eq_true_eq] at this;exact this e he
      cases hle2:listed.getD e false with
      | true=>rfl
      | false =>
       have:e∈left ops.size listed:=(Q8z hs).2 ⟨by omega,hle2⟩;rw [hle] at this hsorted;rcases List.mem_cons.1 this with rfl|this
       ·omega
       ·have:=(List.pairwise_cons.1 hsorted).1 e this;omega
     rw [hnone] at this;cases this
   ·have hin:i<ops.size:=by
     unfold Region.ready at hi;have:=(List.mem_filter.1 hi).1;simpa using this
    obtain ⟨o,ho,hci,hco⟩:=hcomp i hin;obtain ⟨him,hbase⟩:=(hready i o ho).1 hi;obtain ⟨l1,l2,hl12⟩:=List.append_of_mem him;have hnext:=Qbmj hs hl12;have hanc:∀ x,((ancs ops.toList).getD i 0).testBit x=true→listed.getD x false=true:=Qbmi (fun x=>listed.getD x false=true) hcl (by simpa using ho) hbase;have hmf:Qbft C n0 pc (cs[i]! :: (l1++l2).map (cs[·]!)) σ σe:=by
     rw [hl12,List.map_append,List.map_cons] at hch;rw [List.map_append];refine Qbkn (P:=P) (nt:=nt) (g0:=g0) (w0:=w0) (T:=T) (ops:=ops) hC ⟨o,hco⟩ _ σ (fun c hc=>?_) (fun pre1 x pre2 he=>?_) ⟨a,w,g,hsr⟩ hch
     ·obtain ⟨j,hj,rfl⟩:=List.mem_map.1 hc;obtain ⟨oj,_,_,h3⟩:=hcomp j ((Q8z hs).1 (by rw [hl12];simp [hj])).1;exact ⟨oj,h3⟩
     ·obtain ⟨k1,k2,hk,hk1,hk2⟩:=List.map_eq_append_iff.1 he;obtain ⟨j,k3,rfl,rfl,hk3⟩:=List.map_eq_cons_iff.1 hk2;subst hk;have hjl:j∈left ops.size listed:=by rw [hl12];simp
      obtain ⟨hjn,hju⟩:=(Q8z hs).1 hjl;have hso:=hsorted;rw [hl12] at hso;have hso2:=List.pairwise_append.1 hso;have hji:j<i:=hso2.2.2 j (by simp) i (by simp);have hge:∀ k∈(j::k3)++i::l2,j≤k:=by
       intro k hk;have h5:((j::k3)++i::l2).Pairwise (· < ·):=by
        have:k1++(j::k3)++i::l2=k1++((j::k3)++i::l2):=by simp
        rw [this] at hso;exact (List.pairwise_append.1 hso).2.1
       simp only [List.cons_append] at h5 hk;rcases List.mem_cons.1 hk with rfl|hk
       ·exact Nat.le_refl _
       ·exact Nat.le_of_lt ((List.pairwise_cons.1 h5).1 k hk)
      have hnanc:((ancs ops.toList).getD i 0).testBit j=false:=by
       cases hx:((ancs ops.toList).getD i 0).testBit j with
       | false=>rfl
       | true=>have:=hanc j hx;rw [hju] at this;cases this
      obtain ⟨oj,_,hcj,_⟩:=hcomp j hjn;obtain ⟨m,hm1,hm2,hm3⟩:=Qbgy hps hcj hci hji hnanc;refine ⟨m,hm1,fun p hp=>⟨List.all_eq_true.1 hap p (hm3 p hp),fun c hc=>?_⟩⟩;have hc' : ∃ k∈(j::k3)++i::l2,cs[k]! = c:=by
       rw [← hk3] at hc;rcases List.mem_append.1 hc with hc|hc
       ·rcases List.mem_cons.1 hc with rfl|hc
        ·exact ⟨j,by simp,rfl⟩
        ·obtain ⟨k,hk,rfl⟩:=List.mem_map.1 hc;exact ⟨k,by simp [hk],rfl⟩
       ·rcases List.mem_cons.1 hc with rfl|hc
        ·exact ⟨i,by simp,rfl⟩
        ·obtain ⟨k,hk,rfl⟩:=List.mem_map.1 hc;exact ⟨k,by simp [hk],rfl⟩
      obtain ⟨k,hk,rfl⟩:=hc';have hkj:=hge k hk;have hkl:k∈left ops.size listed:=by
       rw [hl12];simp only [List.mem_append,List.mem_cons] at hk ⊢;rcases hk with (hk|hk)|hk|hk<;>simp [hk]
      obtain ⟨hkn,hku⟩:=(Q8z hs).1 hkl;obtain ⟨_,_,hck,_⟩:=hcomp k hkn;have hpk:=List.all_eq_true.1 hm2 p hp;unfold Q4m at hpk;have:=List.all_eq_true.1 hpk (k,cs[k]!) (Qbbx.2 hck);simp only [Bool.or_eq_true,decide_eq_true_eq,Bool.and_eq_true,Bool.not_eq_true',beq_eq_false_iff_ne,ne_eq] at this;rcases this with h6|⟨h6,h7⟩
      ·omega
      ·refine ⟨h6,?_⟩;rcases h7 with h7|h7
       ·exact h7
       ·have:=hanc k h7;rw [hku] at this;cases this
    obtain ⟨σ1,hst,hrest⟩:=hmf;have:=Qbfp (QQ:=QQ) hC hco hsr (Qbl9 (Q:=fun σ'=>Qbft C n0 pc ((l1++l2).map (cs[·]!)) σ' σe) hst hrest) (KK:=wpAny P .any ops QQ fuel (listed.setIfInBounds i true)) fun σ' a' w' g' hq' hs'=>by
     refine ih _ σ' a' w' g' (by simp [hs]) ?_ (fun j oj hoj hj e he=>?_) ?_ hs'
     ·rw [hnext];rw [hl12] at hl;simp at hl ⊢;omega
     ·have hset:∀ x,listed.getD x false=true→(listed.setIfInBounds i true).getD x false=true:=by
       intro x hx;rw [Qbgz] at hx ⊢;rw [Array.getElem?_setIfInBounds];split
       ·rename_i he;subst he;simp [show i<listed.size by omega]
       ·exact hx
      by_cases hji:j=i
      ·subst hji;have:oj=o:=by
        have h9:ops.toList[j]? = some o:=by simpa using ho
        rw [h9] at hoj;cases hoj;rfl
       subst this;exact hset e (hbase e he)
      ·refine hset e (hcl j oj hoj ?_ e he);rw [Qbgz] at hj ⊢
       rwa [Array.getElem?_setIfInBounds_ne (Ne.symm hji)] at hj
     ·rw [hnext];exact hq'
    unfold wpOp;rw [ho];simp only;split
    ·rename_i hw;rw [hw] at this;exact .inl (by simpa using this)
    ·rename_i hw;simp only [hw] at this;exact (by simpa using this)
 refine wp_region_any hm (key ops.size _ σ a _ g (by simp) ?_ (fun j o _ hj=>?_) ?_ ?_)
 ·have:left ops.size (Array.replicate ops.size false)=List.range ops.size:=by
   unfold left;refine List.filter_eq_self.2 fun i hi=>?_;have:i<ops.size:=by simpa using hi
   simp [Array.getD,this]
  rw [this];simp
 ·exfalso;simp only [Array.getD,Array.size_replicate] at hj;split at hj
  ·simp at hj
  ·cases hj
 ·have:(left ops.size (Array.replicate ops.size false)).map (cs[·]!)=cs:=by
   have h1:left ops.size (Array.replicate ops.size false)=List.range ops.size:=by
    unfold left;refine List.filter_eq_self.2 fun i hi=>?_;have:i<ops.size:=by simpa using hi
    simp [Array.getD,this]
   rw [h1];apply List.ext_getElem
   ·simp [hlen']
   ·intro i h1 h2;simp [h2]
  rw [this];exact hch
 ·have hk:Kept g w g { w with drawn:=w.drawn+1 } (fun _=>True) fun _=>True:=⟨⟨fun _ _ h=>h,fun _ _ _=>rfl⟩,fun _ _=>rfl,fun _ _ _=>⟨rfl,rfl,fun _=>Iff.rfl⟩⟩;have hall:(∀ v:V,v.on fun _=>True)∧∀ vs:List V,V.ons (fun _=>True) vs:=by
   have h1:∀ v:V,v.on fun _=>True:=Qbij;exact ⟨h1,fun vs=>Qht.2 fun v _=>h1 v⟩
  refine ⟨⟨fun k b hb=>?_,h.mem.imm⟩,fun t=>Qe8 hk (fun _ _ h=>h) trivial _ _ _ trivial (hall.1 _) (h.slots t),h.size,h.defers,h.onS,h.onM,h.top,?_⟩
  ·obtain ⟨h1,h2,h3⟩:=h.mem.box k b hb;refine ⟨h1,h2,?_⟩;cases b with
   | mp es c =>
    obtain ⟨ents,k1,k2⟩:=h3;exact ⟨ents,k1,Qqt (g:=g) (g':=g) hk (fun _=>trivial) k2⟩
   | cells cs =>
    obtain ⟨vals,e,k1,k2,k3⟩:=h3;exact ⟨vals,e,k1,RVs_mono hk (fun _ _ h=>h) trivial _ _ _ _ trivial (hall.2 _) k2,k3⟩
  ·exact ⟨h.fr.os,h.fr.tape,h.fr.output,h.fr.size,⟨h.fr.imm.mono,h.fr.imm.look⟩,h.fr.box,h.fr.old⟩
end
end Go.Abs
end
section
namespace Go.Abs
open Go
theorem Qbmk (P:Nat→Bool) (vs:List V):Qej.go P vs=vs.map (Qej P):=by
 induction vs with
 | nil=>rfl
 | cons v vs ih=>simp [Qej.go,ih]
mutual
theorem Qbml {g:G} {w:World} (P:Nat→Bool):∀ (v:V) (ℓ:Owner) (u:Value),RV g w v ℓ u→RV g w (Qej P v) ℓ u
 | .und,_,_,h=>by simp [Qej,RV]
 | .d x,_,_,h=>by simpa [Qej] using h
 | .agg cs,ℓ,u,h=>by
  simp only [Qej,RV] at h ⊢;obtain ⟨vs,rfl,h,h1⟩:=h;exact ⟨vs,rfl,RVs_kill P cs ℓ 0 vs h,h1⟩
 | .tup cs,ℓ,u,h=>by
  simp only [Qej,RV] at h ⊢;obtain ⟨vs,rfl,h⟩:=h;exact ⟨vs,rfl,RVs_kill P cs ℓ 0 vs h⟩
 | .own ..,_,_,h=>by simpa [Qej] using h
 | .ownT ..,_,_,h=>by simpa [Qej] using h
 | .ptr k o,_,_,h=>by
  simp only [Qej];split
  ·simp [RV]
  ·exact h
 | .nilp,_,_,h=>by simpa [Qej] using h
 | .f _,_,_,h=>by simpa [Qej] using h
 | .nils _,_,_,h=>by simpa [Qej] using h
 | .cref _,_,_,h=>by simpa [Qej] using h
 | .sl ..,_,_,h=>by
  simp only [Qej];split
  ·simp [RV]
  ·exact h
 | .clo f cs,_,u,h=>by
  simp only [Qej,RV] at h ⊢;obtain ⟨vs,rfl,h⟩:=h;exact ⟨vs,rfl,RVs_kill P cs .ext 0 vs h⟩
 | .mp k,_,_,h=>by
  simp only [Qej];split
  ·simp [RV]
  ·exact h
theorem RVs_kill {g:G} {w:World} (P:Nat→Bool):∀ (cs:List V) (ℓ:Owner) (i:Nat) (us:List Value),RVs g w cs ℓ i us→RVs g w (Qej.go P cs) ℓ i us
 | [],_,_,_,h=>by simpa [Qej.go,RVs] using h
 | c::cs,ℓ,i,us,h=>by
  simp only [Qej.go,RVs] at h ⊢;obtain ⟨u,us,rfl,h1,h2⟩:=h;exact ⟨u,us,rfl,Qbml P c _ u h1,RVs_kill P cs ℓ (i+1) us h2⟩
end
mutual
theorem Qbmm {p:Nat→Prop} (P:Nat→Bool):∀ v:V,v.on p→(Qej P v).on fun k=>p k∧P k=false
 | .ptr k o,h=>by simp only [Qej];split<;>simp_all [V.on]
 | .sl ..,h=>by simp only [Qej];split<;>simp_all [V.on]
 | .mp k,h=>by simp only [Qej];split<;>simp_all [V.on]
 | .agg cs,h=>by simp only [Qej,V.on];exact ons_kill P cs h
 | .tup cs,h=>by simp only [Qej,V.on];exact ons_kill P cs h
 | .clo _ cs,h=>by simp only [Qej,V.on];exact ons_kill P cs h
 | .und,_=>trivial
 | .d _,_=>trivial
 | .own ..,_=>trivial
 | .ownT ..,_=>trivial
 | .nilp,_=>trivial
 | .f _,_=>trivial
 | .nils _,_=>trivial
 | .cref _,_=>trivial
theorem ons_kill {p:Nat→Prop} (P:Nat→Bool):∀ vs:List V,V.ons p vs→V.ons (fun k=>p k∧P k=false) (Qej.go P vs)
 | [],_=>trivial
 | v::vs,h=>⟨Qbmm P v h.1,ons_kill P vs h.2⟩
end
mutual
theorem Qbpf {p q:Nat→Prop}:∀ (v:V),v.on p→v.on q→v.on fun k=>p k∧q k
 | .ptr _ _,h1,h2=>⟨h1,h2⟩
 | .sl ..,h1,h2=>⟨h1,h2⟩
 | .mp _,h1,h2=>⟨h1,h2⟩
 | .agg cs,h1,h2=>ons_and cs h1 h2
 | .tup cs,h1,h2=>ons_and cs h1 h2
 | .clo _ cs,h1,h2=>ons_and cs h1 h2
 | .und,_,_=>trivial
 | .d _,_,_=>trivial
 | .own ..,_,_=>trivial
 | .ownT ..,_,_=>trivial
 | .nilp,_,_=>trivial
 | .f _,_,_=>trivial
 | .nils _,_,_=>trivial
 | .cref _,_,_=>trivial
theorem ons_and {p q:Nat→Prop}:∀ (vs:List V),V.ons p vs→V.ons q vs→V.ons (fun k=>p k∧q k) vs
 | [],_,_=>trivial
 | v::vs,h1,h2=>⟨Qbpf v h1.1 h2.1,ons_and vs h1.2 h2.2⟩
end
section
variable {P:Program} {C:Ctx} {n0 nt:Nat} {g0:G} {w0:World}
theorem Qbmn {n0:Nat} {sites:List Nat} {k:Nat} (h:Qkw n0 sites k=true):n0≤k:=by
 simp only [Qkw,List.any_eq_true,beq_iff_eq] at h;obtain ⟨t,_,rfl⟩:=h;omega
theorem Qbby {σ:St} {a:Act} {w:World} {g:G} (h:SR n0 nt g0 w0 σ a w g) (sites:List Nat):SR n0 nt g0 w0 (Qn7 n0 sites σ) a w g:=by
 have hthere:∀ k,(There σ.M k∧Qkw n0 sites k=false)→There (Qn7 n0 sites σ).M k:=by
  rintro k ⟨h1,h2⟩;simp only [There,Qn7,h2,Bool.false_eq_true,if_false] at h1 ⊢;split
  ·exact h1
  ·cases hk:σ.M k with
   | none=>simp [hk] at h1
   | some b=>cases b<;>rfl
 refine ⟨⟨fun k b hk=>?_,h.mem.imm⟩,fun t=>Qbml _ _ _ _ (h.slots t),h.size,h.defers,fun t=>Qf8 hthere _ (Qbmm _ _ (h.onS t)),fun k cs hk=>?_,h.top,h.fr⟩
 ·simp only [Qn7] at hk;split at hk
  ·cases hk
  ·split at hk
   ·exact h.mem.box k b hk
   ·split at hk
    ·rename_i cs hcs;cases hk;obtain ⟨h1,h2,vals,e,hh,hr,ho⟩:=h.mem.box k _ hcs;refine ⟨h1,h2,vals,e,hh,?_,ho⟩;rw [← Qbmk];exact RVs_kill _ _ _ _ _ hr
    ·exact h.mem.box k b hk
 ·simp only [Qn7] at hk;split at hk
  ·cases hk
  ·rename_i hns;split at hk
   ·rename_i hlt;have h2:=(h.onM k cs hk).2 hlt;have h1:=(h.onM k cs hk).1;refine ⟨?_,fun _=>h2⟩;rw [Qht] at h1 h2 ⊢;intro v hv;have hb:v.on fun k=>There σ.M k∧k<n0:=Qbpf v (h1 v hv) (h2 v hv);refine Qf8 (fun k hk=>hthere k ⟨hk.1,?_⟩) v hb;cases hs:Qkw n0 sites k with
    | false=>rfl
    | true=>have:=Qbmn hs;omega
   ·split at hk
    ·rename_i hge _ cs' hcs;cases hk;refine ⟨?_,fun hlt=>absurd hlt hge⟩;rw [← Qbmk];exact ons_mono hthere _ (ons_kill _ _ (h.onM k cs' hcs).1)
    ·rename_i hne;exact absurd hk (hne cs)
theorem Q2r {p:Nat→Prop} (h:∃ n,p n):∃ n,p n∧∀ m,p m→n≤m:=by
 obtain ⟨n,hn⟩:=h
 induction n using Nat.strongRecOn with
 | _ n ih =>
  by_cases hm:∃ m,m<n∧p m
  ·obtain ⟨m,hlt,hm⟩:=hm;exact ih m hlt hm
  ·exact ⟨n,hn,fun m hm'=>Nat.le_of_not_lt fun hlt=>hm ⟨m,hlt,hm'⟩⟩
open Classical in
noncomputable def Qbmo (p:Nat→Prop):Nat:=if h:∃ n,p n then Classical.choose (Q2r h) else 0
theorem Qbkq {p:Nat→Prop} (h:∃ n,p n):p (Qbmo p):=by
 unfold Qbmo;rw [dif_pos h];exact (Classical.choose_spec (Q2r h)).1
theorem Qbof {p:Nat→Prop} {n:Nat} (h:p n):Qbmo p≤n:=by
 have hx:∃ n,p n:=⟨n,h⟩;unfold Qbmo;rw [dif_pos hx];exact (Classical.choose_spec (Q2r hx)).2 n h
def Ex.to:Ex→Exit
 | .norm=>.normal
 | .exit id=>.exit id
 | .ret=>.ret
def lift (n0 nt:Nat) (g0:G) (w0:World) (Q:Ex→St→Prop):Exit→Act→World→Prop :=
 fun e a w=>∃ x σ g,e=x.to∧Q x σ∧SR n0 nt g0 w0 σ a w g
structure Env where
 P:Program
 n0:Nat
 nt:Nat
 g0:G
 w0:World
 T:Tk
def Tr (Γ:Env) (cc:CC) (σ:St) (Q:Ex→St→Prop):Prop :=
 ∀ c,Q2j Γ.P Γ.T Γ.nt c=some cc→∀ a w g,SR Γ.n0 Γ.nt Γ.g0 Γ.w0 σ a w g→c.wp Γ.P (lift Γ.n0 Γ.nt Γ.g0 Γ.w0 Q) a w
def Wk (v v' : V):Prop:=∀ g w ℓ u,RV g w v ℓ u→RV g w v' ℓ u
def pos:List Res→Nat→Option Nat
 | [],_=>none
 | .t i::rs,t=>if i=t then some 0 else (pos rs t).map (· + 1)
 | .cell .. :: rs,t=>(pos rs t).map (· + 1)
def Qbai (ts:List Res) (single:Bool):Owner→Owner
 | .slot t q=>if single then (if pos ts t=some 0 then .res q else .slot t q) else
   match pos ts t with
   | some j=>.res (q++[j])
   | none=>.slot t q
 | o=>o
theorem Q2s (ts:List Res) (s:Bool) (o:Owner) (i:Nat):Qbai ts s (o.sub i)=(Qbai ts s o).sub i:=by
 cases o<;>try rfl
 rename_i t q;cases s with
 | true =>
  simp only [Qbai,Owner.sub,if_true];split<;>rfl
 | false =>
  simp only [Qbai,Owner.sub,Bool.false_eq_true,if_false];split<;>rfl
theorem Qbg0 {ts:List Res} {s:Bool} {o:Owner} {k:Nat}:Qbai ts s o = .box k↔o = .box k:=by
 cases o<;>try rfl
 cases s with
 | true=>simp only [Qbai,if_true];split<;>simp
 | false=>simp only [Qbai,Bool.false_eq_true,if_false];split<;>simp
theorem Qbek {ts:List Res} {s:Bool} {o:Owner} (h:Prot o):Qbai ts s o=o:=by
 cases o<;>first|exact h.elim|rfl
theorem Qbmp {m κ:Nat} {ag:Bool} {n:Nat} {p v:V} {M M' : Mem} (h:Qn m κ (.load ag n) [p] M=some (v,M')):Flat v:=by
 cases p<;>try (simp [Qn] at h;done)
 ·rename_i k off;simp only [Qn] at h;split at h<;>try (cases h;done)
  rename_i cs hk;split at h<;>try (cases h;done)
  split at h
  ·cases h;simp [Flat,V.dem,dems_dems]
  ·simp only [Option.map_eq_some_iff,Prod.mk.injEq] at h;obtain ⟨x,_,rfl,_⟩:=h;exact Qd8 x
 ·rename_i cs;simp only [Qn] at h;split at h<;>try (cases h;done)
  split at h
  ·cases h;have:∀ l:List D,V.dems (l.map V.d)=l.map V.d:=by
    intro l;induction l with
    | nil=>rfl
    | cons a l ih=>simp [V.dems,V.dem,ih]
   simp only [Flat,V.dem,this]
  ·simp only [Option.map_eq_some_iff,Prod.mk.injEq] at h;obtain ⟨x,_,rfl,_⟩:=h
   rfl
theorem Qbrd {σ:St} {a:Act} {w:World} {g:G} (h:SR n0 nt g0 w0 σ a w g) {rv:ResultVar} {rs:Res} (hc:Qbb3 P nt rv=some rs) {r:V} (hr:rs.val σ=some r) :
  (∃ v,((match rv with | .tmp t=>pure (a.tmps.getD t undef) | .cell p t=>do loadVar t (← asAddr (a.tmps.getD p undef)):Sem Value)).run P w = .ok v w∧r.on (There σ.M) ∧
   ((∃ t,rs = .t t∧r=σ.s t∧RV g w r (.slot t []) v)∨((∃ p ag n,rs = .cell p ag n)∧Flat r∧RF g w r v))):=by
 cases rv with
 | tmp t =>
  simp only [Qbb3] at hc;split at hc<;>cases hc;simp only [Res.val,Option.some.injEq] at hr;subst hr;exact ⟨_,rfl,h.onS t,.inl ⟨t,rfl,rfl,h.slots t⟩⟩
 | cell p t =>
  simp only [Qbb3] at hc;split at hc<;>cases hc;rename_i hp;obtain ⟨d,hd⟩:=Option.isSome_iff_exists.1 hp.2;simp only [Res.val,Option.map_eq_some_iff] at hr;obtain ⟨⟨r',M'⟩,hst,rfl⟩:=hr;have hpp:(∃ k o,σ.s p = .ptr k o)∨∃ cs,σ.s p = .cref cs:=by
   cases hv:σ.s p<;>rw [hv] at hst<;>try (simp [Qn] at hst;done)
   ·exact .inl ⟨_,_,rfl⟩
   ·exact .inr ⟨_,rfl⟩
  have hf:Flat (σ.s p):=by rcases hpp with ⟨k,o,e⟩|⟨cs,e⟩<;>rw [e]<;>rfl
  have hrf:RF g w (σ.s p) (a.tmps.getD p undef):=fun ℓ=>Qvm hf (h.slots p);have hu:∃ ad,a.tmps.getD p undef = .pointer (some ad):=by
   rcases hpp with ⟨k,o,e⟩|⟨cs,e⟩
   ·rw [e,Qvf] at hrf;exact ⟨_,hrf⟩
   ·rw [e,Qy5] at hrf;obtain ⟨b,o,hb,_⟩:=hrf;exact ⟨_,hb⟩
  obtain ⟨ad,hu⟩:=hu;obtain ⟨_,val,hrun,hval⟩:=Qbll P h.mem t hd hrf hst;refine ⟨val,?_,?_,.inr ⟨⟨_,_,_,rfl⟩,Qbmp hst,hval⟩⟩
  ·rw [hu] at hrun;simp only [Instr.loadAt,Instr.sureAddr,Sem.run_bind,Sem.run_pure,Result.andThen_ok] at hrun;simp only [hu,asAddr,Sem.run_bind,Sem.run_pure,Result.andThen_ok];exact hrun
  ·obtain ⟨h1,_,_⟩:=Qbfi (k:=.load (Qgg P t) (P.cellsOf t)) trivial hst ⟨h.onS p,trivial⟩ h.mOn;have hM:M'=σ.M:=by assumption
   rw [hM] at h1;exact h1
def Qbjj (tmps:Array Value) (rv:ResultVar):Sem Value :=
 match rv with
 | .tmp t=>pure (tmps.getD t undef)
 | .cell p t=>do loadVar t (← asAddr (tmps.getD p undef))
theorem Qbmq {σ:St} {a:Act} {w:World} {g:G} (h:SR n0 nt g0 w0 σ a w g):∀ (rvs:List ResultVar) (rss:List Res) (rs:List V),rvs.mapM (Qbb3 P nt)=some rss→rss.mapM (Res.val σ)=some rs →
  ∃ vs:List Value,(rvs.mapM (Qbjj a.tmps)).run P w = .ok vs w∧vs.length=rs.length∧rs.length=rss.length∧V.ons (There σ.M) rs ∧
   ∀ (j:Nat) r v s,rs[j]? = some r→vs[j]? = some v→rss[j]? = some s→(∃ t,s = .t t∧r=σ.s t∧RV g w r (.slot t []) v)∨((∃ p ag n,s = .cell p ag n)∧Flat r∧RF g w r v)
 | [],rss,rs,hc,hr=>by
  simp at hc;subst hc;simp at hr;subst hr;exact ⟨[],by simp,rfl,rfl,trivial,by simp⟩
 | rv::rvs,rss,rs,hc,hr=>by
  simp only [List.mapM_cons,Option.bind_eq_bind,Option.bind_eq_some_iff,Option.pure_def,Option.some.injEq] at hc;obtain ⟨s,hs,rss',hss,rfl⟩:=hc;simp only [List.mapM_cons,Option.bind_eq_bind,Option.bind_eq_some_iff,Option.pure_def,Option.some.injEq] at hr;obtain ⟨r,hr1,rs',hr2,rfl⟩:=hr;obtain ⟨v,h1,h2,h3⟩:=Qbrd h hs hr1;obtain ⟨vs,k1,k2,k3,k4,k5⟩:=Qbmq h rvs rss' rs' hss hr2;have h1' : (Qbjj a.tmps rv).run P w = .ok v w:=h1;refine ⟨v::vs,by simp [List.mapM_cons,h1',k1],by simp [k2],by simp [k3],⟨h2,k4⟩,fun j r' v' s' hj1 hj2 hj3=>?_⟩;cases j with
  | zero=>simp at hj1 hj2 hj3;subst hj1 hj2 hj3;exact h3
  | succ j=>exact k5 j r' v' s' (by simpa using hj1) (by simpa using hj2) (by simpa using hj3)
theorem Qbik:∀ (rss:List Res) (j t:Nat),(Qsf rss).Nodup→rss[j]? = some (.t t)→pos rss t=some j
 | [],j,t,_,h=>by simp at h
 | s::rss,j,t,hn,h=>by
  cases j with
  | zero =>
   simp at h;subst h;simp [pos]
  | succ j =>
   have h' : rss[j]? = some (.t t):=by simpa using h
   have hm:t∈Qsf rss:=by
    simp only [Qsf,List.mem_filterMap];exact ⟨.t t,List.mem_of_getElem? h',rfl⟩
   cases s with
   | t i =>
    have hn' : i∉Qsf rss∧(Qsf rss).Nodup:=by simpa [Qsf] using hn
    have hne:i≠t:=by rintro rfl;exact hn'.1 hm
    simp [pos,hne,Qbik rss j t hn'.2 h']
   | cell p ag n =>
    have hn' : (Qsf rss).Nodup:=by simpa [Qsf] using hn
    simp [pos,Qbik rss j t hn' h']
def Fin (rs:List Res) (r:V) (M' : Mem) (nb' : Nat):Ex→St→Prop:=fun e σ =>
 (e = .norm∨e = .ret)∧∃ r',Q2i σ rs=some r'∧Wk r' r∧(∀ k b,M' k=some b→σ.M k=some b)∧r.on (There M')∧MOn (There M') M'∧∀ k,There M' k→k<nb'
def Fin2 (n0:Nat) (rs:List Res) (r:V) (M' : Mem) (nb' : Nat):Ex→St→Prop:=fun e σ =>
 (e = .norm∨e = .ret)∧∃ r',Q2i σ rs=some r'∧Wk r' r∧(∀ k b,M' k=some b→σ.M k=some b) ∧
  (r'.on (There σ.M)→(∀ k cs,σ.M k=some (.cells cs)→V.ons (There σ.M) cs∧(k<n0→V.ons (· < n0) cs))→(∀ k,There σ.M k→k<σ.nb)→r.on (There M')∧MOn (There M') M'∧∀ k,There M' k→k<nb')
theorem Qbmr {f:FuncId} {cf:CFn} (hcf:Qy P f=some cf) {args:List V} {M:Mem} {nb nb' : Nat} {r:V} {M' : Mem} (hM0:∀ k,nb≤k→M k=none) (hargs:args.length=cf.np) (hnb:nb≤nb')
  {w:World} {g:G} {us:List Value} (hm:MR g w M nb) (hMon:MOn (There M) M) (hus:RFs g w args us) (hfl:∀ x∈args,Flat x) (hons:V.ons (There M) args)
  (hrun:∀ Γ:Env,Γ.P=P→Γ.n0=nb→Γ.nt=cf.nt→Γ.g0=g→Γ.w0=w→Tr Γ cf.body ⟨Qtk args,M,nb+cf.nt⟩ (Fin2 nb cf.res r M' nb')) :
  Qj8 P f=true∧Calls P f us.toArray w fun e w'=>∃ v g',e = .returned v∧MR g' w' M' nb'∧RV g' w' r (.res []) v∧r.on (There M')∧MOn (There M') M'∧Fr nb g w g' w':=by
 unfold Qy at hcf;split at hcf<;>try (cases hcf;done)
 rename_i fn hfn;split at hcf<;>try (cases hcf;done)
 rename_i code hbody;split at hcf<;>try (cases hcf;done)
 rename_i b rss hb hrss;split at hcf<;>try (cases hcf;done)
 rename_i hnd;obtain ⟨hnd,hnp,hname⟩:=hnd;cases hcf;simp only at hargs hrun;refine ⟨by simp [Qj8,hfn,hbody,Qbb4] at hname ⊢;exact hname,?_⟩;have hlen:us.length=args.length:=Qg3 hus;let a0:Act:={ tmps:=us.toArray++Array.replicate (fn.ntmps-us.toArray.size) undef,defers:=[] };have hsz:a0.tmps.size=fn.ntmps:=by simp [a0];omega
 have hinit:∀ t,RV g w (Qtk args t) (.slot t []) (a0.tmps.getD t undef):=by
  intro t;rcases Nat.lt_or_ge t args.length with hlt|hge
  ·have h1:Qtk args t=args[t]:=by simp [Qtk,hlt]
   have h2:a0.tmps.getD t undef=us[t]'(by omega):=by
    simp only [a0,Array.getD_eq_getD_getElem?];rw [Array.getElem?_append_left (by simp;omega)];simp [show t<us.length by omega]
   rw [h1,h2];exact Qvn hus t _ _ (List.getElem?_eq_getElem hlt) (List.getElem?_eq_getElem _) _
  ·have h1:Qtk args t = .und:=by simp [Qtk,hge]
   rw [h1];simp [RV]
 have hSR:SR nb fn.ntmps g w ⟨Qtk args,M,nb+fn.ntmps⟩ a0 w g:=by
  refine ⟨⟨fun k b hk=>?_,hm.imm⟩,hinit,hsz,rfl,fun t=>?_,fun k cs hk=>⟨hMon k cs hk,fun hlt=>?_⟩,Nat.le_refl _,Fr.refl _ _ _⟩
  ·obtain ⟨h1,h2⟩:=hm.box k b hk;exact ⟨by show k<nb+fn.ntmps;omega,h2⟩
  ·rcases Nat.lt_or_ge t args.length with hlt|hge
   ·have h1:Qtk args t=args[t]:=by simp [Qtk,hlt]
    show (Qtk args t).on _;rw [h1];exact Qe9 hons (List.getElem?_eq_getElem hlt)
   ·have h1:Qtk args t = .und:=by simp [Qtk,hge]
    show (Qtk args t).on _;rw [h1];trivial
  ·refine ons_mono (fun j hj=>?_) cs (hMon k cs hk);rcases Nat.lt_or_ge j nb with h|h
   ·exact h
   ·simp [There,hM0 j h] at hj
 let Γ:Env:={ P,n0:=nb,nt:=fn.ntmps,g0:=g,w0:=w,T:=Qbpa code };refine calls_of_wp hfn hbody (wp_mono (hrun Γ rfl rfl rfl rfl rfl code hb a0 w g hSR) ?_);rintro e a' w' ⟨x,σ,g',rfl,⟨hx,r',hres,hwk,hM1,hfacts⟩,hs⟩;have hs:SR nb fn.ntmps g w σ a' w' g':=hs;have fin:∀ (fr:Owner→Owner) (v:Value),(∀ o i,fr (o.sub i)=(fr o).sub i)→fr .ext = .ext→(∀ o k,fr o = .box k↔o = .box k)→(∀ o,Prot o→fr o=o)→r'.on (There σ.M)→RV (g'.re fr) w' r' (.res []) v →
   ∃ v' g'',Ending.returned v = .returned v'∧MR g'' w' M' nb'∧RV g'' w' r (.res []) v'∧r.on (There M')∧MOn (There M') M'∧Fr nb g w g'' w':=by
  intro fr v h1 h2 h3 h4 h6 h5;obtain ⟨hron,hMon',hM2⟩:=hfacts h6 (fun k cs hk=>hs.onM k cs hk) (fun k hk=>by obtain ⟨b,hb⟩:=Option.isSome_iff_exists.1 hk;exact (hs.mem.box k b hb).1);have hmr:=hs.mem.re h1 h2 h3;refine ⟨v,g'.re fr,rfl,⟨fun k b hk=>?_,hmr.imm⟩,hwk _ _ _ _ h5,hron,hMon',?_⟩
  ·obtain ⟨_,k2⟩:=hmr.box k b (hM1 k b hk);exact ⟨hM2 k (by simp [There,hk]),k2⟩
  ·have hf:=hs.fr;exact ⟨hf.os,hf.tape,hf.output,hf.size,hf.imm,hf.box,fun b hb ho=>by
    obtain ⟨q1,q2,q3⟩:=hf.old b hb ho;refine ⟨?_,q2,q3⟩;show fr (g'.own b)=_;rw [q1];exact h4 _ ho⟩
 have hend:∃ v,(results fn a'.tmps).run P w' = .ok v w'∧∃ v' g'',Ending.returned v = .returned v'∧MR g'' w' M' nb'∧RV g'' w' r (.res []) v'∧r.on (There M')∧MOn (There M') M'∧Fr nb g w g'' w':=by
  have hresrun:∀ vs:List Value,(fn.results.toList.mapM (Qbjj a'.tmps)).run P w' = .ok vs w'→(results fn a'.tmps).run P w' = .ok (if h:vs.length=1 then vs[0] else .tuple vs.toArray) w':=by
   intro vs hvs;show ((do let vs ← fn.results.mapM (Qbjj a'.tmps);pure (if h:vs.size=1 then vs[0] else .tuple vs)):Sem Value).run P w'=_;rw [Array.mapM_eq_mapM_toList];simp [hvs]
  cases hrs:rss.mapM (Res.val σ) with
  | none =>
   exfalso;cases rss with
   | nil=>simp at hrs
   | cons s rss =>
    cases rss with
    | nil=>simp only [Q2i] at hres;simp [List.mapM_cons,hres] at hrs
    | cons s' rss=>simp only [Q2i] at hres;rw [hrs] at hres;simp at hres
  | some rs =>
   obtain ⟨vs,k1,k2,k3,k4,k5⟩:=Qbmq hs _ _ _ hrss hrs;refine ⟨_,hresrun vs k1,?_⟩;by_cases hone:rss.length=1
   ·match rss,hone with
    | [s],_ =>
     simp only [Q2i] at hres;simp only [List.mapM_cons,List.mapM_nil,hres,Option.bind_eq_bind,Option.bind_some,Option.pure_def,Option.some.injEq] at hrs;subst hrs
     match vs,k2 with
     | [v],_ =>
      simp only [List.length_singleton,dite_true,List.getElem_cons_zero];have hk5:=k5 0 r' v s rfl rfl rfl;rcases hk5 with ⟨t,rfl,rfl,hrv⟩|⟨_,_,hrf⟩
      ·refine fin (Qbai [.t t] true) v (Q2s _ _) rfl (fun o k=>Qbg0) (fun o ho=>Qbek ho) k4.1 ?_;have:=Q8s (Q2s [.t t] true) rfl _ _ _ hrv;simpa [Qbai,pos] using this
      ·exact fin id v (fun _ _=>rfl) rfl (fun _ _=>Iff.rfl) (fun _ _=>rfl) k4.1 (hrf _)
   ·have hvl:¬ vs.length=1:=by omega
    rw [dif_neg hvl];have hres' : r' = .tup rs:=by
     match rss,hone,hres,hrs with
     | [],_,hres,hrs=>simp only [Q2i,hrs,Option.map_some,Option.some.injEq] at hres;exact hres.symm
     | s::s'::rss,_,hres,hrs=>simp only [Q2i,hrs,Option.map_some,Option.some.injEq] at hres;exact hres.symm
    subst hres';refine fin (Qbai rss false) _ (Q2s _ _) rfl (fun o k=>Qbg0) (fun o ho=>Qbek ho) k4 ?_;simp only [RV];refine ⟨vs,rfl,(Qc6 _ _ _ _).2 ⟨k2,fun j c u hc hu=>?_⟩⟩;have hjl:=(List.getElem?_eq_some_iff.1 hc).1;have hsj:=List.getElem?_eq_getElem (show j<rss.length by omega);simp only [Nat.zero_add,Owner.sub];rcases k5 j c u _ hc hu hsj with ⟨t,hst,hct,hrv⟩|⟨_,hfl,hrf⟩
    ·have:=Q8s (Q2s rss false) rfl _ _ _ hrv;have hp:=Qbik rss j t hnd (by rw [hsj,hst]);simpa [Qbai,hp] using this
    ·exact Qvm hfl (Q8s (f:=Qbai rss false) (Q2s _ _) rfl _ _ _ (hrf .ext))
 have hd:a'.defers=[]:=hs.defers;obtain ⟨v,hv,hpost⟩:=hend;rcases hx with rfl|rfl
 ·exact ⟨hd,v,hv,hpost⟩
 ·exact ⟨hd,v,hv,hpost⟩
theorem Qbre {f:FuncId} {cf:CFn} (hcf:Qy P f=some cf) {args:List V} {M:Mem} {nb nb' : Nat} {r:V} {M' : Mem} (hM0:∀ k,nb≤k→M k=none) (hargs:args.length=cf.np) (hnb:nb≤nb')
  (hrun:∀ Γ:Env,Γ.P=P→Γ.n0=nb→Γ.nt=cf.nt→Tr Γ cf.body ⟨Qtk args,M,nb+cf.nt⟩ (Fin2 nb cf.res r M' nb')):ACalls P f args M nb r M' nb':=by
 refine ⟨?_,hnb,fun w g us hm hMon hfresh hus hfl hons=>(Qbmr hcf hM0 hargs hnb hm hMon hus hfl hons fun Γ h1 h2 h3 _ _=>hrun Γ h1 h2 h3).2⟩;have hm0:MR ⟨fun _=>0,fun _ _=>False,fun _=>.ext⟩ (default:World) (fun _=>none) 0:=⟨fun k b h=>(by cases h),fun b o h=>h.elim⟩;unfold Qy at hcf;split at hcf<;>try (cases hcf;done)
 rename_i fn hfn;split at hcf<;>try (cases hcf;done)
 rename_i code hbody;split at hcf<;>try (cases hcf;done)
 split at hcf<;>try (cases hcf;done)
 rename_i hnd;obtain ⟨_,_,hname⟩:=hnd;simp [Qj8,hfn,hbody,Qbb4] at hname ⊢;exact hname
def away:Owner→Owner:=fun _=>.ext
theorem Qbog (o:Owner) (i:Nat):away (o.sub i)=(away o).sub i:=rfl
def Q80:V→Bool
 | .d _ | .own _ _ | .nils _ | .nilp | .und=>true
 | .agg cs=>go cs
 | .tup vs=>go vs
 | _=>false
where go:List V→Bool
 | []=>true
 | v::vs=>Q80 v&&go vs
section
variable {g g' : G} {w:World} (hi:∀ b o,g.imm b o↔g'.imm b o) (ho:∀ b,g.own b ≠ .ext→g'.own b=g.own b)
include hi ho
mutual
theorem Qbjk:∀ (v:V) (ℓ:Owner) (u:Value),Q80 v=true→ℓ ≠ .ext→RV g w v ℓ u→RV g' w v ℓ u
 | .und,_,_,_,_,_=>by simp [RV]
 | .d x,_,u,_,_,h=>by
  simp only [RV] at h ⊢;exact Qfq ⟨fun b o h=>(hi b o).1 h,fun _ _ _=>rfl⟩ x u h
 | .agg cs,ℓ,u,hr,hl,h=>by
  simp only [RV,Q80] at h hr ⊢;obtain ⟨vs,rfl,h,h1⟩:=h;exact ⟨vs,rfl,RVs_resOK cs ℓ 0 vs hr hl h,h1⟩
 | .tup cs,ℓ,u,hr,hl,h=>by
  simp only [RV,Q80] at h hr ⊢;obtain ⟨vs,rfl,h⟩:=h;exact ⟨vs,rfl,RVs_resOK cs ℓ 0 vs hr hl h⟩
 | .own sz l,ℓ,u,_,hl,h=>by
  simp only [RV] at h ⊢;rcases h with h|⟨b,cap,vals,e,h1,h2,h3,h4,h5,h6,h7,h8⟩
  ·exact .inl h
  ·exact .inr ⟨b,cap,vals,e,h1,(ho b (by rw [h2];exact hl)).trans h2,h3,h4,h5,h6,fun o=>((hi b o).symm).trans (h7 o),RDL_mono ⟨fun b o h=>(hi b o).1 h,fun _ _ _=>rfl⟩ sz b l 0 h8⟩
 | .ownT sz l,ℓ,u,_,hl,h=>by
  simp only [RV] at h ⊢;rcases h with h|⟨b,o0,cap,vals,e,h1,h2,h3,h4,h5,h6,h7,h8⟩
  ·exact .inl h
  ·exact .inr ⟨b,o0,cap,vals,e,h1,(ho b (by rw [h2];exact hl)).trans h2,h3,h4,h5,h6,fun o=>((hi b o).symm).trans (h7 o),RDL_mono ⟨fun b o h=>(hi b o).1 h,fun _ _ _=>rfl⟩ sz b l o0 h8⟩
 | .nilp,_,_,_,_,h=>by simpa [RV] using h
 | .nils _,_,_,_,_,h=>by simpa [RV] using h
 | .f _,_,_,hr,_,_=>by simp [Q80] at hr
 | .ptr ..,_,_,hr,_,_=>by simp [Q80] at hr
 | .cref _,_,_,hr,_,_=>by simp [Q80] at hr
 | .sl ..,_,_,hr,_,_=>by simp [Q80] at hr
 | .clo ..,_,_,hr,_,_=>by simp [Q80] at hr
 | .mp _,_,_,hr,_,_=>by simp [Q80] at hr
theorem RVs_resOK:∀ (cs:List V) (ℓ:Owner) (i:Nat) (us:List Value),Q80.go cs=true→ℓ ≠ .ext→RVs g w cs ℓ i us→RVs g' w cs ℓ i us
 | [],_,_,_,_,_,h=>by simpa [RVs] using h
 | c::cs,ℓ,i,us,hr,hl,h=>by
  simp only [Q80.go,Bool.and_eq_true] at hr;simp only [RVs] at h ⊢;obtain ⟨u,us',rfl,h1,h2⟩:=h;have hne:ℓ.sub i ≠ .ext:=by cases ℓ<;>simp_all [Owner.sub]
  exact ⟨u,us',rfl,Qbjk c (ℓ.sub i) u hr.1 hne h1,RVs_resOK cs ℓ (i+1) us' hr.2 hl h2⟩
end
end
mutual
def V.toF:V→V
 | .d (.lst sz l)=>.f (.lst sz l)
 | .agg cs=>.agg (V.toFs cs)
 | v=>v
def V.toFs:List V→List V
 | []=>[]
 | v::vs=>v.toF::V.toFs vs
end
theorem Qbrf {imm imm' : Nat→Nat→Prop} {w:World} (h:∀ b o,imm b o→Q2k w b o→imm' b o):∀ (x:D) (u:Value),RD imm w x u→RD imm' w x u:=by
 have:=@Qfq imm (fun b o=>imm b o∧Q2k w b o);have key:(∀ (x:D) (u:Value),RD imm w x u→RD (fun b o=>imm b o∧Q2k w b o) w x u):=by
  intro x;exact Qbge x
 intro x u hx;exact Qfq ⟨fun b o hb=>h b o hb.1 hb.2,fun _ _ _=>rfl⟩ x u (key x u hx)
theorem Qbrg {f:FuncId} {cf:CFn} (hcf:Qy P f=some cf) {args:List V} {nb:Nat} {r:V} (hr0:r.lt 0=true) (hr1:Q80 r=true)
  (hrun:∀ (g0:G) (w0:World) (us:List Value),(∀ b,g0.own b = .ext)→(∀ b o,g0.imm b o→b<w0.heap.size)→RFs g0 w0 args us →
   ∃ args',RFs g0 w0 args' us∧(∀ x∈args',Flat x)∧V.lt.go 0 args'=true∧args'.length=cf.np ∧
    ∀ Γ:Env,Γ.P=P→Γ.n0=nb→Γ.nt=cf.nt→Γ.g0=g0→Γ.w0=w0→Tr Γ cf.body ⟨Qtk args',fun _=>none,nb+cf.nt⟩ (Fin2 nb cf.res r (fun _=>none) nb)) (M:Mem):ACalls P f args M nb r M nb:=by
 refine ⟨?_,Nat.le_refl _,fun w g us hm hMon hfresh hus hfl hons=>?_⟩
 ·unfold Qy at hcf;split at hcf<;>try (cases hcf;done)
  rename_i fn hfn;split at hcf<;>try (cases hcf;done)
  rename_i code hbody;split at hcf<;>try (cases hcf;done)
  split at hcf<;>try (cases hcf;done)
  rename_i hnd;obtain ⟨_,_,hname⟩:=hnd;simp [Qj8,hfn,hbody,Qbb4] at hname ⊢;exact hname
 have hp:∀ b,(g.re away).own b = .ext:=fun b=>rfl;have himm:∀ b o,(g.re away).imm b o→b<w.heap.size:=fun b o h=>(hm.imm b o h).1;obtain ⟨args',h1,h2,h3,h4,h5⟩:=hrun (g.re away) w us hp himm (Qbfo Qbog rfl hfl hus);have hm1:MR (g.re away) w (fun _=>none) nb:=⟨fun k b h=>(by cases h),fun b o h=>⟨himm b o h,fun k e=>by
  have:=hp b;rw [e] at this;cases this⟩⟩
 refine Calls.mono (Qbmr hcf (fun _ _=>rfl) h4 (Nat.le_refl _) hm1 (fun k cs h=>by cases h) h1 h2 (ons_mono (fun k hk=>absurd hk (Nat.not_lt_zero k)) _ (ons_lt args' h3)) h5).2 ?_;rintro e w' ⟨v,g',rfl,hmr,hrv,_,_,hf⟩;have hold:∀ b,b<w.heap.size→g'.own b=away (g.own b)∧w'.heap[b]? = w.heap[b]? ∧ ∀ o,g'.imm b o↔g.imm b o:=fun b hb=>hf.old b hb (by rw [hp b];trivial);let g2:G:=⟨g.box,g'.imm,fun b=>if b<w.heap.size then g.own b else g'.own b⟩;have hown:∀ b,b<w.heap.size→g2.own b=g.own b:=fun b hb=>by simp [g2,hb]
 have hown' : ∀ b,¬ b<w.heap.size→g2.own b=g'.own b:=fun b hb=>by simp [g2,hb]
 have hk2:Kept g w g2 w' (There M) (fun _=>True):=by
  refine ⟨⟨fun b o h=>hf.imm.mono b o h,fun b o h=>hf.imm.look b o h⟩,fun k _=>rfl,fun b _ hlt=>⟨hown b hlt,(hold b hlt).2.1,(hold b hlt).2.2⟩⟩
 refine ⟨v,g2,rfl,⟨fun k b hk=>?_,fun b o hb=>?_⟩,?_,Qf8 (fun k hk=>absurd hk (Nat.not_lt_zero k)) _ (Qbny r hr0),hMon,?_⟩
 ·obtain ⟨k1,k2,k3⟩:=hm.box k b hk;cases b with
  | mp es c =>
   obtain ⟨ents,hh,hr⟩:=k3;have hlt:g.box k<w.heap.size:=(Array.getElem?_eq_some_iff.1 hh).1;exact ⟨k1,(hown _ hlt).trans k2,ents,(hold _ hlt).2.1.trans hh,Qqt (g:=g) (g':=g2) hk2 (fun _=>trivial) hr⟩
  | cells cs =>
   obtain ⟨vals,e,hh,hr,ho⟩:=k3;have hlt:g.box k<w.heap.size:=(Array.getElem?_eq_some_iff.1 hh).1;refine ⟨k1,(hown _ hlt).trans k2,vals,e,(hold _ hlt).2.1.trans hh,RVs_mono hk2 (fun _ _ _=>trivial) trivial _ _ _ _ trivial (hMon k cs hk) hr,ho⟩
 ·obtain ⟨k1,k2⟩:=hmr.imm b o hb;refine ⟨k1,fun k=>?_⟩;by_cases hlt:b<w.heap.size
  ·rw [hown b hlt];exact (hm.imm b o (((hold b hlt).2.2 o).1 hb)).2 k
  ·rw [hown' b hlt];exact k2 k
 ·refine Qbjk (g:=g') (g':=g2) (fun b o=>Iff.rfl) (fun b hb=>?_) r _ v hr1 (by simp) hrv;by_cases hlt:b<w.heap.size
  ·exact absurd (hold b hlt).1 hb
  ·exact hown' b hlt
 ·exact ⟨hf.os,hf.tape,hf.output,hf.size,⟨fun b o h=>hf.imm.mono b o h,fun b o h=>hf.imm.look b o h⟩,fun _ _=>rfl,fun b hlt _=>⟨hown b hlt,(hold b hlt).2.1,(hold b hlt).2.2⟩⟩
theorem Qbqb {f:FuncId} {cf:CFn} (hcf:Qy P f=some cf) {args:List V} {M:Mem} {nb nb' : Nat} {r:V} {M' : Mem} (hM0:∀ k,nb≤k→M k=none) (hargs:args.length=cf.np) (hnb:nb≤nb')
  (hrun:∀ Γ:Env,Γ.P=P→Γ.n0=nb→Γ.nt=cf.nt→Tr Γ cf.body ⟨Qtk args,M,nb+cf.nt⟩ (Fin cf.res r M' nb')):ACalls P f args M nb r M' nb' :=
 Qbre hcf hM0 hargs hnb fun Γ h1 h2 h3 c hc a w g hs=>wp_mono (hrun Γ h1 h2 h3 c hc a w g hs) fun _ _ _ ⟨x,σ',g',he,⟨k1,r',k2,k3,k4,k5,k6,k7⟩,hs'⟩=>⟨x,σ',g',he,⟨k1,r',k2,k3,k4,fun _ _ _=>⟨k5,k6,k7⟩⟩,hs'⟩
end
end Go.Abs
end
