/-
  Part 3 of the proof: see the last text.
-/
import Derived.Test.YtdckcingoapofaaGreatDoorP2
import Derived.Lib.LaidTab
import Derived.Lib.ItoaMem
import Derived.Orders
set_option linter.unusedVariables false
set_option linter.unusedSimpArgs false
set_option linter.unusedSectionVars false
section
namespace Go.Abs
open Go Go.MapKept
section
variable(P:Program){g:G}{w:World}{n0 nt:Nat}{g0:G}{w0:World}{σ:St}{a:Act}
theorem SR.mapre(h:SR n0 nt g0 w0 σ a w g){k:Nat}{es z : List (V×V×Nat)}{cl cl' : Nat}{f : List MapEntry}(hk:σ.M k=some (.mp es cl)){x y:Owner}(hx:∀j,x ≠ .box j)(hxp:¬Prot x)(L:x ≠ .ext)(hy:∀j,y ≠ .box j)(B:∀o i,o ≠ .box k->o≠x->o.sub i≠x)(u:∀j i,j≠k->x ≠ .cell j i){w' : World}(m:∀b,b≠g.box k->w'.heap[b]? = w.heap[b]?)(W:w'.heap[g.box k]? = some (.map f.toArray cl'))(N:w'.os=w.os/\w'.tape=w.tape/\w'.output=w.output/\w'.heap.size=w.heap.size)(hr:RM (g.re (ex x y)) w' k z f){J : Sl}{I : Act}(hs:∀t,RV (g.re (ex x y)) w' (J t) (.slot t []) (I.tmps.getD t undef))(O:I.tmps.size=a.tmps.size)(hd:I.defers=a.defers)(C:∀t,(J t).on (There σ.M)):
  SR n0 nt g0 w0 ⟨J,σ.M.put k (.mp z cl'),σ.nb⟩ I w' (g.re (ex x y)):=by
 obtain⟨r,hb,_⟩:=h.mem.box k _ hk;have F:∀j,ex x y (.box j) = .box j:=fun j=>by unfold ex;grind
 have c:Kept g w (g.re (ex x y)) w' (There σ.M) (fun o=>o ≠ .box k/\o≠x):=by
  refine⟨⟨fun _ _ h=>h,fun b o v=>?_⟩,fun _ _=>rfl,fun b T E=>⟨by simp[G.re,ex,T.2],?_,fun _=>Zk⟩⟩
  ·have:b≠g.box k:=by rintro rfl;exact (h.mem.imm _ _ v).2 k hb
   exact Qew (m b this)
  grind
 have R:∀o i,o ≠ .box k/\o≠x->o.sub i ≠ .box k/\o.sub i≠x:=fun o i ho=>⟨Qnn ho.1,B o i ho.1 ho.2⟩;have S:(Owner.ext ≠ .box k/\Owner.ext≠x):=⟨by simp,fun e=>L e.symm⟩;have l:∀j,There σ.M j->There (σ.M.put k (.mp z cl')) j:=fun j d=>d.put;refine h.step ?_ ?_ hs O hd (fun t=>Qf8 l _ (C t)) ?_ ?_
 ·refine⟨fun j b d=>?_,fun b o v=>?_⟩
  ·simp only[Mem.put] at d;split at d
   ·rename_i he;subst he;cases d;exact⟨r,by show ex x y (g.own (g.box j))=_;rw[hb,F],f,W,hr⟩
   ·rename_i q;obtain⟨k1,k2,X⟩:=h.mem.box j b d;have H:g.box j≠g.box k:=by
     grind
    refine⟨k1,by show ex x y (g.own (g.box j))=_;rw[k2,F],?_⟩;cases b with
    |mp es2 c2 =>
     obtain⟨A,s,p⟩:=X;exact⟨A,(m _ H).trans s,Qll (g:=g) c (fun i=>⟨by simp,fun e=>u j i q e.symm⟩) p⟩
    |cells cs' =>
     obtain⟨vs,e',s,p,Q⟩:=X;refine⟨vs,e',(m _ H).trans s,RVs_mono c R S cs' (.box j) 0 vs ⟨?_,fun e=>hx j e.symm⟩ (h.mOn j cs' d) p,Q⟩
     grind
  ·obtain⟨h3,h4⟩:=h.mem.imm b o v
   grind [G.re,ex]
 ·refine⟨N.1,N.2.1,N.2.2.1,by grind,c.imm,fun _ _=>rfl,fun b U ho=>?_⟩;have q:g.own b ≠ .box k:=by intro e;rw[e] at ho;exact ho
  have n:g.own b≠x:=by grind
  exact⟨by simp[G.re,ex,n],(c.own b ⟨q,n⟩ U).2.1,fun _=>Zk⟩
 ·intro j cs' d;simp only[Mem.put] at d;split at d
  ·cases d
  ·exact ons_mono l _ (h.mOn j cs' d)
 ·intro j cs' d E;simp only[Mem.put] at d;split at d
  ·cases d
  ·exact h.out j cs' d E
theorem Qbhy:∀{n:Nat}{es:List (V×V×Nat)},upM n es=true->∀x∈es,n<=x.2.2
 |_,[],_,x,b=>by simp at b
 |n,e::es,h,x,b=>by
  simp only[upM,Zc,decide_eq_true_eq] at h;rcases Zah.1 b with rfl|b
  ·exact h.1
  ·have:=Qbhy h.2 x b;omega
theorem Qbhz{k:Nat}{y:Owner}{st:Nat}:∀{n:Nat}{es:List (V×V×Nat)}{p:List MapEntry}(i:Nat){x:V×V×Nat}{sz:Nat}{l:List (List D)},upM n es=true->es[i]? = some x->x.2.1 = .own sz l->x.2.2=st->RM g w k es p ->
  RM (g.re (ex (.cell k st) y)) w k (modM x.1 (.d (.lst sz l)) i es) p
 |_,[],_,i,x,sz,l,_,u,_,_,_=>by simp at u
 |n,e::es,_,0,x,sz,l,o,u,H,E,hr=>by
  simp only[upM,Zc,decide_eq_true_eq] at o;simp at u;subst u;simp only[RM] at hr;obtain⟨q,t,rfl,⟨j,B⟩,⟨h,f⟩,A,s⟩:=hr;rw[H] at f;refine⟨q,t,rfl,⟨j,Qvp (g:=g) (g':=g.re (ex (.cell k st) y)) (Imm.refl _ _) j B⟩,⟨rfl,?_⟩,A,?_⟩
  ·have:=Qie (g:=g) (w:=w) (.own sz l) (.cell k e.2.2) (.cell k e.2.2) _ f;exact Qvp (g:=g) (g':=g.re (ex (.cell k st) y)) (v:=.d (.lst sz l)) (Imm.refl _ _) rfl this
  ·have I:=Qbhy o.2;clear A j B h f
   induction es generalizing t with
   |nil=>simpa[RM] using s
   |cons z es M =>
    simp only[RM] at s |-;obtain⟨L,J,rfl,⟨j,B⟩,⟨h,f⟩,A,s⟩:=s;have O:z.2.2≠st:=by grind
    refine⟨L,J,rfl,⟨j,Qvp (g:=g) (g':=g.re (ex (.cell k st) y)) (Imm.refl _ _) j B⟩,⟨h,?_⟩,A,?_⟩
    ·rcases Qrx h with h|⟨sz2,l2,e2⟩
     ·exact Qvp (g:=g) (g':=g.re (ex (.cell k st) y)) (Imm.refl _ _) h f
     ·rw[e2] at f |-;exact Q86 (g:=g) (g':=g.re (ex (.cell k st) y)) (Imm.refl _ _) (fun b hb _=>⟨by show ex _ _ (g.own b)=_;simp_all[ex,if_neg],rfl,fun _=>Zk⟩) f
    ·simp only[upM,Zc,decide_eq_true_eq] at o;exact M ⟨o.1,(by
      have:∀{m F : Nat}{r:List (V×V×Nat)},F<=m->upM m r=true->upM F r=true:=fun{m F r}hm hr=>by
       cases r with
       |nil=>rfl
       |cons c r=>simp only[upM,Zc,decide_eq_true_eq] at hr |-;grind
      grind)⟩ J s (fun c hc=>I c (by simp[hc]))
 |n,e::es,_,i+1,x,sz,l,o,u,H,E,hr=>by
  simp only[upM,Zc,decide_eq_true_eq] at o;simp only[RM] at hr;obtain⟨q,t,rfl,⟨j,B⟩,⟨h,f⟩,A,s⟩:=hr;have C : es[i]? = some x:=by simpa using u
  have N:=Qbhy o.2 x (Zn C);refine⟨q,t,rfl,⟨j,Qvp (g:=g) (g':=g.re (ex (.cell k st) y)) (Imm.refl _ _) j B⟩,⟨h,?_⟩,A,Qbhz i o.2 C H E s⟩;rcases Qrx h with h|⟨sz2,l2,e2⟩
  ·exact Qvp (g:=g) (g':=g.re (ex (.cell k st) y)) (Imm.refl _ _) h f
  ·rw[e2] at f |-;exact Q86 (g:=g) (g':=g.re (ex (.cell k st) y)) (Imm.refl _ _) (fun b hb _=>⟨by show ex _ _ (g.own b)=_;rw[hb];unfold ex;grind,rfl,fun _=>Zk⟩) f
theorem Qbld{t n e:TypeId}{z:V}(o:P.underlying t=some (.map n e))(h:Qbg6 P t=some z):z.dat=true/\∃c,(zeroValue e).run P w = .ok c w/\RF g w z c:=by
 unfold Qbg6 at h;rw[o] at h;simp only at h;split at h<;>try (cases h;done)
 rename_i sz c f j d;cases h;obtain⟨i,m,l,k,p,_⟩:=Qkc P j;rw[l] at d;simp only[Za] at d;rw[k] at d;cases d;refine⟨rfl,_,Qpj P l k w,?_⟩;have hc:=p g w;have b:c.cells.toList=[c]:=by
  cases c<;>first|rfl|exact absurd rfl (f _ _ j)|skip
  all_goals simp_all[Value.cells]
 rw[b] at hc;exact hc.rf 0 _ _ rfl rfl
theorem Qbf5(h:SR n0 nt g0 w0 σ a w g){dst:Option Nat}(hd:∀d,dst=some d->d<nt)(t:TypeId){X:TypeId}{kd:MK}{z z0:V}(N:Qld P t=some (X,kd,z0))(F:Qbg6 P t=some z){x y v:V}{W uk:Value}{κ:Nat}{M' : Mem}(hx:RF g w x W)(hy:RF g w y uk)(hs:Ql n0 κ (.lookupT kd z) [x,y] σ.M=some (v,M')):
  ∃val g',(Instr.lookup t W uk false).run P w = .ok val w/\SR n0 nt g0 w0 ⟨Qbe σ.s dst v,M',σ.nb⟩ (a.put dst val) w g':=by
 obtain⟨b,key,es,cl,I,u,n,R,J,c⟩:=Qzw hs;cases I;have L:=Qbc1 hx;subst L;obtain⟨et,B,Q,hz,_⟩:=Qp9 P N;obtain⟨_,hown,ents,T,hr⟩:=h.mem.box b _ u;have f:=Q49 (g:=g) (w:=w) P Q;obtain⟨_,zv,E,H⟩:=Qbld (g:=g) (w:=w) P B F;have r:∀em,(Instr.checkKey em 10000 X uk).run P w = .ok () w:=fun em=>f.check em n hy;rcases Q5a P f n hy hr R with⟨U,C⟩|⟨j,v',e,x,U,C,f3,f4,f5,f6,f7,f8,f9⟩
 ·rcases c with⟨i,sz,l,e,k,_⟩|⟨k,A,rfl,rfl⟩
  ·rw[U] at k;cases k
  ·refine⟨zv,g,?_,h.pure hd (fun _ _=>H _) (Qwv A)⟩;have m:=C;simp[Instr.lookup,run_underlying B,MapKept.run_getObj_map T,r,m,E,Result.andThen]
 ·rcases c with⟨i,sz,l,e0,k,A,rfl,rfl⟩|⟨k,_⟩
  ·rw[U] at k;cases k;rw[C] at A;cases A;have m:=f7;refine⟨e.val,g.re (ex (.cell b x.2.2) (.slot (dst.getD 0) [])),?_,?_⟩
   ·simp[Instr.lookup,run_underlying B,MapKept.run_getObj_map T,r,m,Result.andThen]
   ·have O:=Kept.ex g w (.cell b x.2.2) (.slot (dst.getD 0) []) (There σ.M);refine h.mapre u (x:=.cell b x.2.2) (by simp) (by simp[Prot]) (by simp) (by simp) ?_ ?_ (fun _ _=>rfl) T ⟨rfl,rfl,rfl,rfl⟩ (Qbhz j J C f3 rfl hr) (Qf9 (fun d' p=>by rw[h.size];exact hd d' p) (fun t B=>?_) (fun d' p=>?_)) (Qg9 _ _ _) (Qeo _ _ _) (Qga h.onS trivial)
    ·intro o i k A;cases o<;>simp_all[Owner.sub]
    ·grind
    ·have S : Kept g w (g.re (ex (.cell b x.2.2) (.slot (dst.getD 0) []))) w (There σ.M) (fun o=>(∃t q,o = .slot t q)\/o = .ext):=
      O.weaken (fun _ h=>h) (by grind)
     refine Qdq S ?_ (.inr rfl) _ _ _ (.inl ⟨t,[],rfl⟩) (h.onS t) (h.slots t);rintro ℓ i' (⟨t,q,rfl⟩|rfl)
     ·exact .inl ⟨t,i'::q,rfl⟩
     ·exact .inr rfl
    grind [Q7l]
  grind
theorem Qbf6(h:SR n0 nt g0 w0 σ a w g)(t:TypeId){kt:TypeId}{kd:MK}{z:V}(hmk:Qld P t=some (kt,kd,z)){x y v:V}{um uk:Value}{t0:Nat}{κ:Nat}{M' : Mem}(hx:RF g w x um)(U:RF g w y uk)(hs:Ql n0 κ (.mapsetT kd) [x,y,σ.s t0] σ.M=some (v,M')):
  ∃w' g',(Instr.mapUpdate t um uk (a.tmps.getD t0 undef)).run P w = .ok () w'/\SR n0 nt g0 w0 ⟨σ.s.put t0 (σ.s t0).dem,M',σ.nb⟩ a w' g':=by
 obtain⟨b,key,sz,l,es,cl,J,S,n,hk2,rfl,rfl⟩:=Qzx hs;simp only[Zo,and_true] at J;obtain⟨rfl,rfl,hv⟩:=J;have W:=Qbc1 hx;subst W;obtain⟨et,ht,hkk,hz,hzd⟩:=Qp9 P hmk;obtain⟨_,N,m,Q,hr⟩:=h.mem.box b _ S;have r:=Q49 (g:=g) (w:=w) P hkk;have R:∀em,(Instr.checkKey em 10000 kt uk).run P w = .ok () w:=fun em=>r.check em n U;have X:=r.stays n U;have k:=h.slots t0;rw[hv] at k;have T:∀(st cl' : Nat)(I : List (V×V×Nat))(f : List MapEntry),(∀{w' : World},Imm g.imm g.imm w w'->(∀c,c≠g.box b->w'.heap[c]? = w.heap[c]?)->RM (g.re (ex (.slot t0 []) (.cell b st))) w' b I f) ->
   SR n0 nt g0 w0 ⟨σ.s.put t0 (σ.s t0).dem,σ.M.put b (.mp I cl'),σ.nb⟩ a { w with heap:=w.heap.setIfInBounds (g.box b) (.map f.toArray cl') } (g.re (ex (.slot t0 []) (.cell b st))):=by
  intro st cl' I f hrm;obtain⟨hs1,A⟩:=heap_set (o':=.map f.toArray cl') Q;have hkx:=Kept.ex g w (.slot t0 []) (.cell b st) (There σ.M);have u:Imm g.imm g.imm w { w with heap:=w.heap.setIfInBounds (g.box b) (.map f.toArray cl') }:=⟨fun _ _ h=>h,fun c o B=>by
   have:c≠g.box b:=by rintro rfl;exact (h.mem.imm _ _ B).2 b N
   exact Qew (A c this)⟩
  have F:Kept g w (g.re (ex (.slot t0 []) (.cell b st))) { w with heap:=w.heap.setIfInBounds (g.box b) (.map f.toArray cl') } (There σ.M) (fun o=>o ≠ .box b/\o ≠ .slot t0 []):=
   ⟨u,fun _ _=>rfl,fun c hc _=>⟨by simp[G.re,ex,hc.2],A c (by grind),fun _=>Zk⟩⟩
  have O:∀(o:Owner)i,o ≠ .box b/\o ≠ .slot t0 []->o.sub i ≠ .box b/\o.sub i ≠ .slot t0 []:=fun o i ho=>⟨Qnn ho.1,by cases o<;>simp_all[Owner.sub]⟩;refine h.mapre (w':={ w with heap:=w.heap.setIfInBounds (g.box b) (.map f.toArray cl') }) S (x:=.slot t0 []) (by simp) (by simp[Prot]) (by simp) (by simp) (fun o i h1 h2=>(O o i ⟨h1,h2⟩).2) (by simp) A hs1 ⟨rfl,rfl,rfl,by simp⟩ (hrm u A) (fun t=>?_) rfl rfl (fun t=>?_)
  ·simp only[Sl.put];split
   ·rename_i he;subst he;rw[hv];have:=Qie (g:=g) (w:=w) (.own sz l) (.slot t []) (.slot t []) _ k;exact Qvp (g:=g) (g':=g.re (ex (.slot t []) (.cell b st))) (v:=.d (.lst sz l)) u rfl this
   ·rename_i hne;exact Qdq F O ⟨by simp,by simp⟩ _ _ _ ⟨by simp,by simp[hne]⟩ (h.onS t) (h.slots t)
  ·simp only[Sl.put];split
   ·exact (Qd3 _).2 (h.onS t0)
   ·exact h.onS t
 have C:∀(st:Nat){w' : World},Imm g.imm g.imm w w'->(∀c,c≠g.box b->w'.heap[c]? = w.heap[c]?)->RM (g.re (ex (.slot t0 []) (.cell b st))) w' b es m:=fun st{w'}p hc =>
  Qbaf (g:=g) (g':=g.re (ex (.slot t0 []) (.cell b st))) p (fun c i hci _=>⟨by show ex _ _ (g.own c)=_;simp_all[ex,if_neg],hc c (by grind),fun _=>Zk⟩) hr
 have L:∀(st:Nat){w' : World},Imm g.imm g.imm w w'->(∀c,c≠g.box b->w'.heap[c]? = w.heap[c]?)->RV (g.re (ex (.slot t0 []) (.cell b st))) w' (.own sz l) (.cell b st) (a.tmps.getD t0 undef):=fun st{w'}p hc=>by
  have:=Q7l (b:=.cell b st) k;refine Q86 (g:=g.re (ex (.slot t0 []) (.cell b st))) (g':=g.re (ex (.slot t0 []) (.cell b st))) (w:=w) p (fun c B _=>⟨B,hc c ?_,fun _=>Zk⟩) this;rintro rfl;have h2:ex (.slot t0 []) (.cell b st) (g.own (g.box b)) = .cell b st:=B
  simp_all[ex,if_neg]
 have E:∀(st:Nat){w' : World},Imm g.imm g.imm w w'->RV (g.re (ex (.slot t0 []) (.cell b st))) w' y .ext uk:=fun st{w'}p=>Qvp (g:=g) (g':=g.re (ex (.slot t0 []) (.cell b st))) p (Q5c n) (U .ext);rcases Q5a P r n U hr hk2 with⟨f1,f2⟩|⟨j,v',e,x,f1,f2,f3,f4,f5,f6,f7,f8,f9⟩
 ·have H:=f2;rw[f1];refine⟨_,_,?_,T cl (cl+1) _ (m++[{ key:=uk,val:=a.tmps.getD t0 undef,born:=cl }]) (fun p hc=>Q5b (C cl p hc) (Q5c n) (E cl p) rfl (L cl p hc))⟩;simp[Instr.mapUpdate,run_underlying ht,MapKept.run_getObj_map Q,R,H,MapKept.run_setObj_map _ Q,Result.andThen]
 ·have H:=f7;rw[f1];refine⟨_,_,?_,T x.2.2 cl _ (m.modify j fun q=>{ q with key:=uk,val:=a.tmps.getD t0 undef }) (fun p hc=>Qbaq (Q5c n) (E _ p) rfl j (fun y hy'=>by grind) (C _ p hc))⟩;have hj:m[j]? = some e:=f4;simp[Instr.mapUpdate,run_underlying ht,MapKept.run_getObj_map Q,R,H,hj,f5,X,MapKept.run_setObj_map _ Q,Result.andThen,Qn9]
end
end Go.Abs
end
section
namespace Go.Abs
open Go
section
variable(P:Program){g:G}{w:World}{n0 nt:Nat}{g0:G}{w0:World}{σ:St}{a:Act}
theorem Qio(s:Sem Value){val:Value}{w' : World}(h:s.run P w = .ok val w'):((do pure (Next.value (<-s)):Sem Next)).run P w = .ok (.value val) w':=by simp[h]
theorem Qbc3(s:Sem Unit){w' : World}(h:s.run P w = .ok () w'):((do s;pure Next.skip:Sem Next)).run P w = .ok .skip w':=by simp[h]
theorem Qbor{v:V}{sz k off len b:Nat}(h:v.dem = .sl sz k off len b):v = .sl sz k off len b:=by
 cases v<;>simp[V.dem] at h |-;exact h
theorem Qbei{s b : Sl}{M:Mem}{nb:Nat}{a:Act}(h:SR n0 nt g0 w0 ⟨s,M,nb⟩ a w g)(c:∀i,b i=s i):SR n0 nt g0 w0 ⟨b,M,nb⟩ a w g :=by simp_all[funext]
theorem Q05(b:Array (Nat×Operand))(f:Operand->Value):((b.toList.map (·.1)).zip ((b.toList.map (·.2)).map f)).toArray=b.map fun(i,x)=>(i,f x):=by
 grind
theorem Qbpm{s b : Sl}{M:Mem}{nb:Nat}{a:Act}(h:SR n0 nt g0 w0 ⟨s,M,nb⟩ a w g)(c:∀i,b i=s i\/b i=(s i).dem):SR n0 nt g0 w0 ⟨b,M,nb⟩ a w g:={
 mem:=h.mem
 slots:=fun t=>by
  rcases c t with e|e
  ·show RV g w (b t) _ _;rw[e];exact h.slots t
  ·show RV g w (b t) _ _;rw[e];exact Qie _ _ _ _ (h.slots t)
 size:=h.size
 defers:=h.defers
 onS:=fun t=>by
  rcases c t with e|e
  ·show (b t).on _;rw[e];exact h.onS t
  ·show (b t).on _;rw[e];exact (Qd3 _).2 (h.onS t)
 onM:=h.onM
 top:=h.top
 fr:=h.fr }
theorem Qbni(args:Array Operand)(f:Operand->Value)(b:args.size=1):∃u,args.map f = #[u]/\args.toList.map f=[u]:=by
 cases args with
 |mk l =>
  match l,b with
  |[x],_=>simp_all
theorem Qble(ts:Array TypeId)(b:ts.size=1):ts = #[ts.getD 0 0]:=by
 cases ts with
 |mk l =>
  match l,b with
  |[x],_=>simp
theorem Qbh0(args:Array Operand)(f:Operand->Value)(b:args.size=2):∃u v,args.map f = #[u,v]/\args.toList.map f=[u,v]:=by
 cases args with
 |mk l =>
  match l,b with
  |[x,y],_=>simp_all
theorem Qbh1{u:Value}{xs:List V}(h:RFs g w xs [u]):∃x,xs=[x]/\RF g w x u:=by
 match xs,h with
 |x::xs,⟨b,us,e,r,h⟩ =>
  simp only[Zo] at e;obtain⟨rfl,rfl⟩:=e;have c:=Qje h
  grind
theorem Q5e{u v:Value}{xs:List V}(h:RFs g w xs [u,v]):∃x y,xs=[x,y]/\RF g w x u/\RF g w y v:=by
 match xs,h with
 |x::xs,⟨b,us,e,r,h⟩ =>
  simp only[Zo] at e;obtain⟨rfl,rfl⟩:=e;obtain⟨y,rfl,c⟩:=Qbh1 h
  grind
theorem Q5f{u v x:Value}{xs:List V}(h:RFs g w xs [u,v,x]):∃a b c,xs=[a,b,c]/\RF g w a u/\RF g w b v/\RF g w c x:=by
 match xs,h with
 |[a,b,c],⟨l,i,d,o,k,f,e2,n,j,e,e3,m,e4⟩ =>
  grind
 |[],h=>simp[RFs] at h
 |[_],⟨_,_,d,_,e2⟩=>grind [RFs]
 |[_,_],⟨_,_,d,_,_,_,e2,_,e3⟩=>grind [RFs]
 |_::_::_::_::_,⟨_,_,d,_,_,_,e2,_,_,_,e3,_,_,_,e4,_⟩=>grind
theorem Qbos{nt:Nat}{dst:Option Nat}(h:∀d,dst=some d->d<nt)(b:0<nt):dst.getD 0<nt:=by
 cases dst with
 |none=>exact b
 |some d=>exact h d rfl
theorem Q5g(h:SR n0 nt g0 w0 σ a w g){e:Nat->TypeId}{m k x:Operand}{n:List Arg}(has:Qe1 P e 0 [m,k,x]=some n){L:List Nat}(J:inL L (tmpO x)=true)(t:TypeId){F:TypeId}{kd:MK}{z:V}(q:Qld P t=some (F,kd,z)){v:V}{κ:Nat}{M' : Mem}(d:Ql n0 κ (.mapsetT kd) (n.map (·.val σ.s)) σ.M=some (v,M')):
  ∃w' g',(Instr.mapUpdate t (a.eval m) (a.eval k) (a.eval x)).run P w = .ok () w'/\SR n0 nt g0 w0 ⟨Q5 σ.s n (Qb2 (.mapsetT kd) (n.map (·.val σ.s))),M',σ.nb⟩ a w' g':=by
 obtain⟨t0,rfl⟩ : ∃t0,x = .tmp t0:=by
  cases x<;>simp[tmpO,inL] at J;exact⟨_,rfl⟩
 simp only[Qe1] at has;cases hm:Qgj P (e 0) m with
 |none=>grind
 |some am =>
  cases hk:Qgj P (e (0+1)) k with
  |none=>grind
  |some o =>
   rw[hm,hk] at has;simp only[Qgj,Zh] at has;subst has;obtain⟨y,Q⟩:=Qhg P h hm;obtain⟨A,R⟩:=Qhg P h hk;simp only[Zb,Zi,Arg.val] at d;obtain⟨b,key,sz,l,es,cl,f,N,r,I,rfl,rfl⟩:=Qzx d;simp only[Zo,and_true] at f;obtain⟨O,e2,e3⟩:=f;have E:(am.val σ.s).dem=am.val σ.s:=by
    have:am.val σ.s = .mp b:=O;rw[this];rfl
   have C:(o.val σ.s).dem=o.val σ.s:=by
    have:o.val σ.s=key:=e2;rw[this];exact Qww (Qbhu r)
   rw[E] at y;rw[C] at A;obtain⟨w',g',hr,p⟩:=Qbf6 P h t q y A (t0:=t0) d;refine⟨w',g',hr,Qbei p fun i=>?_⟩;simp only[Zb,Zi,Qb2,Q5,Arg.putTo,Sl.put];by_cases B:i=t0
   ·simp only[B,if_true];rfl
   ·simp only[B,if_false];cases o with
    |c v =>
     cases am with
     |c u=>rfl
     |t H =>
      simp only[Sl.put];split
      ·rename_i j;subst j;rfl
      ·rfl
    |t S =>
     simp only[Sl.put];split
     ·rename_i j;subst j;rfl
     ·cases am with
      |c u=>rfl
      |t H =>
       simp only[Sl.put];split
       ·rename_i j;subst j;rfl
       ·rfl
theorem Qc7(h:SR n0 nt g0 w0 σ a w g){o:Oper}(l:∀d,o.dst=some d->d<nt){k:K}(i:k.okz){f:List Arg}{v:V}{M' : Mem}{κ:Nat}(j:Ql n0 κ k (V.dems (f.map (·.val σ.s))) σ.M=some (v,M'))(e:V.ons (There σ.M) (V.dems (f.map (·.val σ.s))))(hr:M'=σ.M/\∃val,(execOp a.eval o).run P w = .ok (.value val) w/\RF g w v val):
  Gives P n0 nt g0 w0 o a w ⟨Qbe σ.s o.dst v,M',σ.nb⟩:=by
 obtain⟨rfl,val,b,c⟩:=hr;exact .inl ⟨val,w,g,b,h.pure l (fun _ _=>c _) (Q89 i j e h.mOn).1⟩
theorem Qbot(h:SR n0 nt g0 w0 σ a w g){d:Nat}(R:d<nt)(t e:TypeId)(N:P.underlying t=some (.slice e)){r:V}(J:Qsj P e=some [r])(S:P.cellsOf e=1){x:D}{u:Value}(L:RF g w (.d x) u):
  ∃val w' g',(Instr.buildSlice t 1 #[(0,u)]).run P w = .ok val w'/\SR n0 nt g0 w0 ⟨Qbe σ.s (some d) (.own 1 [[x]]),σ.M,σ.nb⟩ (a.put (some d) val) w' g':=by
 obtain⟨i,H,E,z,q,O⟩:=Qkc P J;have F:=(q g w).len;have f:H.cells.size=1:=by simpa using F
 obtain⟨out,b,c⟩:=Qtc (g:=g) (w:=w) (fun i=>some (i*1,1)) (rep 1 [r]) _ (CR.rep (q g w) 1) [0] [0] [1] [.d x] [u] ⟨u,[],rfl,L,rfl⟩ (fun y I=>by simp only[Zal] at I;subst I;rfl) rfl rfl rfl
  (fun j y i o s k n m l=>by
   cases j with
   |succ j=>simp at k
   |zero =>
    simp only[List.getElem?_cons_zero,Zh] at k n m l;subst k n m l;exact⟨rfl,rfl,by simp[rep],rfl⟩)
 have T:Qi4 (rep 1 [r]) (([0].zip [V.d x]).map fun p=>(p.1,p.2.cells))=[.d x]:=rfl;rw[T] at c;have Q:=c.len
 match out,Q,c with
 |[v],_,c =>
  obtain⟨g',A⟩:=h.newlit R (RF_d.1 (c.rf 0 (.d x) v rfl rfl)) (c.one v (by simp)) e;refine⟨_,_,g',?_,A⟩;have C:=Qpl H.cells (by omega) 1;rw[f] at C;unfold madeCells at C;have B:∀w,(sizeOf e).run P w = .ok (P.cellsOf e) w:=fun w=>by rw[Qhk P E,Qfj P E]
  rw[<-C] at b;simp only[List.zip_cons_cons,List.zip_nil_left,f,Nat.mul_one] at b;simp[Instr.buildSlice,run_underlying N,B,Qpj P E z,S,f,newRow];rw[b];simp
theorem Qbf7{κ sz:Nat}{x i v:V}{M M' : Mem}(b:Ql n0 κ (.slcT sz) [x,i] M=some (v,M')):
  M'=M/\∃k n l,i = .d (.int k n)/\0<=n/\n<=(l.length:Int)/\((x = .d (.lst sz l)/\v = .d (.lst sz (l.drop n.toNat)))\/((x = .ownT sz l\/x = .own sz l)/\v = .ownT sz (l.drop n.toNat))):=by
 cases i
 case d di =>
  cases di
  case int k n =>
   cases x
   case d dx =>
    cases dx
    case lst sz' l =>
     simp only[Ql] at b;split at b<;>cases b;rename_i hc;simp only[Zc,decide_eq_true_eq] at hc;obtain⟨⟨rfl,e⟩,c⟩:=hc;exact⟨rfl,k,n,l,rfl,e,c,.inl ⟨rfl,rfl⟩⟩
    all_goals (simp[Ql] at b)
   case own sz' l =>
    simp only[Ql] at b;split at b<;>cases b;rename_i hc;simp only[Zc,decide_eq_true_eq] at hc;obtain⟨⟨rfl,e⟩,c⟩:=hc;exact⟨rfl,k,n,l,rfl,e,c,.inr ⟨.inr rfl,rfl⟩⟩
   case ownT sz' l =>
    simp only[Ql] at b;split at b<;>cases b;rename_i hc;simp only[Zc,decide_eq_true_eq] at hc;obtain⟨⟨rfl,e⟩,c⟩:=hc;exact⟨rfl,k,n,l,rfl,e,c,.inr ⟨.inl rfl,rfl⟩⟩
   all_goals (simp[Ql] at b)
  all_goals (simp[Ql] at b)
 all_goals (simp[Ql] at b)
theorem Qbnj(h:SR n0 nt g0 w0 σ a w g)(t e:TypeId)(E:P.underlying t=some (.slice e))(I:P.cellsOf e≠0)(t0 d:Nat)(H:d<nt){q:Operand}{o:Arg}(C:Qgj P t q=some o){κ:Nat}{v:V}{M' : Mem}(r:Ql n0 κ (.slcT (P.cellsOf e)) [Arg.val σ.s (.t t0),o.val σ.s] σ.M=some (v,M')):
  ∃val g',(Instr.sliceAt t (a.eval (.tmp t0)) (some (a.eval q)) none none).run P w = .ok val w /\
   SR n0 nt g0 w0 ⟨Qbe (Q5 σ.s [Arg.t t0,o] (Qb2 (.slcT (P.cellsOf e)) [Arg.val σ.s (.t t0),o.val σ.s])) (some d) v,M',σ.nb⟩ (a.put (some d) val) w g':=by
 obtain⟨p,O⟩:=Qhg P h C;obtain⟨rfl,k,n,l,i,L,J,m⟩:=Qbf7 r;rw[i] at p;have A:a.eval q = .int k n:=Qp7 p;have x:∀j,Q5 σ.s [Arg.t t0,o] (Qb2 (.slcT (P.cellsOf e)) [Arg.val σ.s (.t t0),o.val σ.s]) j=σ.s.put t0 (σ.s t0).dem j:=by
  intro j;simp only[Qb2,Q5,Arg.putTo];cases o with
  |c c=>rfl
  |t t1 =>
   simp only[Arg.val] at i |-;simp only[Sl.put];by_cases F:j=t1
   ·subst F;rw[if_pos rfl];split
    ·rename_i Q;subst Q;rw[i];rfl
    ·rfl
   ·rw[if_neg F]
 rw[A,funext x];have b:=h.slots t0;have B:a.eval (.tmp t0)=a.tmps.getD t0 undef:=rfl;rw[B];rcases m with⟨f,rfl⟩|⟨f,rfl⟩
 ·rw[show σ.s t0=_ from f] at b;obtain⟨_,val,hr,z⟩:=Qbd4 (n0:=0) (κ:=0) (M:=σ.M) P t e E I (some (.int k n)) none (bs:=[.d (.int k n)]) (Qwx b) ⟨_,_,rfl,RF_d.2 (by simp[RD]),rfl⟩ (v:=.d (.lst (P.cellsOf e) (l.drop n.toNat))) (M':=σ.M) (by
   simp_all[Qzv,Option.isSome,Qoe,Option.getD,V.dem,if_pos])
  obtain⟨g',u⟩:=Qbea h t0 d H (z _) trivial
  grind
 ·have y:RV g w (.ownT (P.cellsOf e) l) (.slot t0 []) (a.tmps.getD t0 undef):=by
   rcases f with f|f
   ·rwa [show σ.s t0=_ from f] at b
   ·rw[show σ.s t0=_ from f] at b;exact Qbct b
  obtain⟨val,hr,N⟩:=Qbk8 P t e E I y k n L J;obtain⟨g',u⟩:=Qbea h t0 d H N trivial
  grind
set_option maxHeartbeats 1000000 in
theorem Qbf8{T:Tk}{ops:Array Oper}{o:Oper}{c:COp}(hc:Qjy P T nt ops o=some c)(hcall:c.kind.isCall=false)(hnil:c.kind.isNil=false)(h:SR n0 nt g0 w0 σ a w g){σ' : St}(Q:c.step n0 σ=some σ'):Gives P n0 nt g0 w0 o a w σ':=by
 obtain⟨k,as,tk,A,L,hnt,hcd,hck,hca,hct⟩ : ∃k as tk,Qjo P T o=some (k,as,tk)/\(∀d,o.dst=some d->d<nt)/\0<nt/\c.dst=o.dst/\c.kind=k/\c.args=as/\c.tk=tk:=by
  unfold Qjy at hc;split at hc<;>try (cases hc;done)
  rename_i k as tk A;split at hc<;>try (cases hc;done)
  rename_i hcond;simp only[Zc,decide_eq_true_eq] at hcond;refine⟨k,as,tk,A,fun d L=>?_,hcond.1.1,?_⟩
  ·have:=hcond.1.2;rw[L] at this;simpa[Qbg7] using this
  ·split at hc
   ·cases hc;exact⟨rfl,rfl,rfl,rfl⟩
   ·split at hc<;>cases hc;exact⟨rfl,rfl,rfl,rfl⟩
 have U:=Qbam P A;simp only[COp.step,COp.xs,hcd,hck,hca,hct] at Q;rw[hck] at hcall hnil;clear hcd hck hca hct hc;have hκ:n0<=n0+o.dst.getD 0:=by omega
 have hκ' : n0+o.dst.getD 0<σ.nb:=by
  have F:=h.top;have J:=Qbos L hnt;omega
 generalize n0+o.dst.getD 0=κ at Q hκ hκ';have B:tk=false->∃v M',Ql n0 κ k (V.dems (as.map (·.val σ.s))) σ.M=some (v,M')/\σ'=⟨Qbe σ.s o.dst v,M',σ.nb⟩:=by
  rintro rfl;simp only[Zg,if_false] at Q;split at Q<;>cases Q;rename_i v M heq;exact⟨v,M,heq,rfl⟩
 unfold Qjo at A;cases hop:o.op<;>rw[hop] at A<;>simp only at A<;>try (cases A;done)
 case move x =>
  simp only[Zd,Zf] at A;obtain⟨ar,N,rfl,rfl,htk⟩:=A;cases tk with
  |false =>
   obtain⟨v,M',q,rfl⟩:=B rfl;obtain⟨F,J⟩:=Qhg P h N;refine Qc7 P h L U q ⟨(Qd3 _).2 J,trivial⟩ ?_;simp only[Zb,Zi,V.dems,Ql,Zh,Zf] at q;obtain⟨rfl,rfl⟩:=q;exact⟨rfl,_,by simp[execOp,hop],F⟩
  |true =>
   rcases Qtg P h N with⟨t,rfl,rfl,F,J⟩|⟨hx,cv,rfl,hc1,hc2⟩
   ·cases H:o.dst with
    |none=>simp[H,inL,Q63] at htk
    |some d =>
     simp only[if_true,Zb,Zi,Ql,Arg.val,Qb2] at Q;cases Q;obtain⟨g',C⟩:=Qbhn h t d (L d H);refine .inl ⟨_,w,g',by simp only[execOp,hop];rfl,?_⟩;rw[H];exact C
   ·simp only[if_true,Zb,Zi,Ql,Arg.val,Qb2] at Q;cases Q;refine .inl ⟨_,w,g,by simp only[execOp,hop];rfl,?_⟩;exact h.pure L (fun _ _=>hc1 _) hc2
 case assign x =>
  simp only[Zd,Zf] at A;obtain⟨ar,N,rfl,rfl,htk⟩:=A;cases tk with
  |false =>
   obtain⟨v,M',q,rfl⟩:=B rfl;obtain⟨F,J⟩:=Qhg P h N;refine Qc7 P h L U q ⟨(Qd3 _).2 J,trivial⟩ ?_;simp only[Zb,Zi,V.dems,Ql,Zh,Zf] at q;obtain⟨rfl,rfl⟩:=q;exact⟨rfl,_,by simp[execOp,hop],F⟩
  |true =>
   rcases Qtg P h N with⟨t,rfl,rfl,F,J⟩|⟨hx,cv,rfl,hc1,hc2⟩
   ·simp only[if_true,Zb,Zi,Ql,Arg.val,Qb2] at Q;cases Q;cases H:o.dst with
    |none =>
     refine .inl ⟨_,w,g,by simp only[execOp,hop];rfl,?_⟩;rw[H];refine h.step h.mem (Fr.refl _ _ _) (fun t'=>?_) (Qg9 _ _ _) (Qeo _ _ _) (fun t'=>?_) h.mOn h.out
     ·simp only[Qbe,Q5,Arg.putTo,Sl.put,Act.put];split
      ·rename_i he;subst he;exact Qie _ _ _ _ (h.slots t')
      ·exact h.slots t'
     ·simp only[Qbe,Q5,Arg.putTo,Sl.put];split
      ·exact (Qd3 _).2 J
      ·exact h.onS t'
    |some d =>
     obtain⟨g',C⟩:=Qbhn h t d (L d H);refine .inl ⟨_,w,g',by simp only[execOp,hop];rfl,?_⟩;rw[H];exact C
   ·simp only[if_true,Zb,Zi,Ql,Arg.val,Qb2] at Q;cases Q;refine .inl ⟨_,w,g,by simp only[execOp,hop];rfl,?_⟩;exact h.pure L (fun _ _=>hc1 _) hc2
 case pick x y z =>
  simp only[Zd,Zf] at A;obtain⟨I,has,rfl,rfl,rfl⟩:=A;obtain⟨v,M',q,rfl⟩:=B rfl;obtain⟨F,J⟩:=Qej P h _ _ _ _ has;refine Qc7 P h L U q J ?_;generalize V.dems (I.map (·.val σ.s))=xs at q F
  match xs,F with
  |[x',y',z'],⟨u1,us1,e1,X,u2,us2,e2,r2,u3,us3,e3,r3,e4⟩ =>
   simp only[Zb,Zi,Zo] at e1;obtain⟨rfl,rfl⟩:=e1;simp only[Zo] at e2;obtain⟨rfl,rfl⟩:=e2;simp only[Zo] at e3;obtain⟨rfl,rfl⟩:=e3;obtain⟨S,val,hr,E⟩:=Qbna P X r2 r3 q;exact⟨S,val,by simpa[execOp,hop] using hr,E⟩
 case alloc e =>
  simp only[Zd,Zf] at A;obtain⟨z,W,rfl,rfl,rfl⟩:=A;obtain⟨v,M',q,rfl⟩:=B rfl;obtain⟨val,w',g',hr,C⟩:=Qbk6 P h L e W hκ hκ' q;exact .inl ⟨val,w',g',by simp only[execOp,hop];exact Qio P _ hr,C⟩
 case box e x =>
  simp only[Zd,Zf] at A;obtain⟨ar,N,rfl,rfl,rfl⟩:=A;obtain⟨v,M',q,rfl⟩:=B rfl;obtain⟨F,J⟩:=Qhg P h N;obtain⟨val,w',g',hr,C⟩:=Qbop P h L e hκ hκ' (Qd4 _) F ((Qd3 _).2 J) q;exact .inl ⟨val,w',g',by simp only[execOp,hop];exact Qio P _ hr,C⟩
 case load t x =>
  split at A<;>try (cases A;done)
  rename_i ar N;obtain⟨F,J⟩:=Qhg P h N;split at A
  ·rename_i hsl;simp only[Zh,Zf] at A;obtain⟨rfl,rfl,rfl⟩:=A;obtain⟨v,M',q,rfl⟩:=B rfl;simp only[Zc] at hsl;have O:∃e,P.underlying t=some (.slice e):=by
    have:=hsl.1;unfold Qup at this;split at this
    ·exact⟨_,by assumption⟩
    ·cases this
   obtain⟨e,O⟩:=O;obtain⟨val,g',hr,C⟩:=Qbk9 P h L t e O F ((Qd3 _).2 J) q;exact .inl ⟨val,w,g',by simp only[execOp,hop];exact Qio P _ hr,C⟩
  ·split at A<;>try (cases A;done)
   rename_i hu;obtain⟨d,hu⟩:=Zab.1 hu;simp only[Zh,Zf] at A;obtain⟨rfl,rfl,rfl⟩:=A;obtain⟨v,M',q,rfl⟩:=B rfl;refine Qc7 P h L U q ⟨(Qd3 _).2 J,trivial⟩ ?_;obtain⟨S,val,hr,E⟩:=Qbhf P h.mem t hu F q;exact⟨S,val,by simp only[execOp,hop];exact Qio P _ hr,E⟩
 case store t p x =>
  split at A<;>try (cases A;done)
  rename_i pa xa hpa hxa;split at A<;>try (cases A;done)
  rename_i hu;simp only[Zc,Zba] at hu;obtain⟨hu,H⟩:=hu;obtain⟨d,hu⟩:=Zab.1 hu;simp only[Zh,Zf] at A;obtain⟨rfl,rfl,htk⟩:=A;obtain⟨hp1,hp2⟩:=Qhg P h hpa;cases tk with
  |false =>
   obtain⟨v,M',q,rfl⟩:=B rfl;obtain⟨hx1,hx2⟩:=Qhg P h hxa;obtain⟨w',g',hr,C⟩:=Qbd9 P h t hu hp1 ((Qd3 _).2 hp2) ((Qd3 _).2 hx2) none ⟨hx1,Qd4 _⟩ q;refine .inr ⟨w',g',by simp only[execOp,hop];exact Qbc3 P _ hr,?_⟩;rw[H];exact C
  |true =>
   simp only[if_true,Zb,Zi] at Q;split at Q<;>cases Q;rename_i v M' q;rcases Qtg P h hxa with⟨t0,rfl,rfl,F,J⟩|⟨hx,_⟩
   ·have hpf:(pa.val σ.s).dem=pa.val σ.s/\(∃k o,pa.val σ.s = .ptr k o):=by
     cases hpv:pa.val σ.s<;>rw[hpv] at q<;>try (simp[Ql] at q;done)
     exact⟨rfl,_,_,rfl⟩
    obtain⟨hpf,k0,o0,hpk⟩:=hpf;rw[hpf] at hp1;obtain⟨w',g',hr,C⟩:=Qbd9 P h t hu hp1 hp2 J (some t0) ⟨rfl,rfl⟩ q;refine .inr ⟨w',g',by simp only[execOp,hop];exact Qbc3 P _ hr,?_⟩;rw[H];refine Qbei C (fun i=>?_);cases pa with
    |c v=>rfl
    |t i0 =>
     simp only[Qbe,Q5,Qb2,Arg.putTo,Sl.put,Arg.val];split
     ·rfl
     ·split
      ·rename_i he;subst he;rfl
      ·rfl
   ·simp[hx] at htk
 case nilCheck x =>
  simp only[Zd,Zf] at A;obtain⟨ar,N,rfl,rfl,rfl⟩:=A;obtain⟨v,M',q,rfl⟩:=B rfl;obtain⟨F,J⟩:=Qhg P h N;exact Qc7 P h L U q ⟨(Qd3 _).2 J,trivial⟩ (Qbhg P F q o a x hop rfl)
 case unOp op t x =>
  simp only[Zd,Zf] at A;obtain⟨ar,N,rfl,rfl,rfl⟩:=A;obtain⟨v,M',q,rfl⟩:=B rfl;obtain⟨F,J⟩:=Qhg P h N;refine Qc7 P h L U q ⟨(Qd3 _).2 J,trivial⟩ ?_;simp only[Zb,Zi,V.dems] at q;generalize (ar.val σ.s).dem=xv at q F;cases xv<;>try (simp[Ql] at q;done)
  simp only[Ql,Zd,Zf] at q;obtain⟨c,hc,rfl,rfl⟩:=q;obtain⟨val,hr,E⟩:=Qbpl P op F hc;exact⟨rfl,val,by simp only[execOp,hop];exact Qio P _ hr,E⟩
 case fieldAddr s x f =>
  split at A<;>try (cases A;done)
  rename_i fs hfs;split at A<;>try (cases A;done)
  rename_i fd ar hfd N;split at A<;>try (cases A;done)
  rename_i h0;cases A;obtain⟨v,M',q,rfl⟩:=B rfl;obtain⟨F,J⟩:=Qhg P h N;obtain⟨S,val,hr,E⟩:=Qbom P s fs hfs f fd hfd h0 F q;exact Qc7 P h L U q ⟨(Qd3 _).2 J,trivial⟩ ⟨S,val,by simp only[execOp,hop];exact Qio P _ hr,E⟩
 case extract x i =>
  simp only[Zd,Zf] at A;obtain⟨ar,N,rfl,rfl,htk⟩:=A;cases tk with
  |false =>
   obtain⟨v,M',q,rfl⟩:=B rfl;obtain⟨F,J⟩:=Qhg P h N;obtain⟨S,val,hr,E⟩:=Qbf4 P (Qd4 _) F q;exact Qc7 P h L U q ⟨(Qd3 _).2 J,trivial⟩ ⟨S,val,by simp only[execOp,hop];exact Qio P _ hr,E⟩
  |true =>
   rcases Qtg P h N with⟨t0,rfl,rfl,F,J⟩|⟨hx,_⟩
   ·simp only[if_true,Zb,Zi] at Q;split at Q<;>cases Q;rename_i v M' q;simp only[Arg.val] at q;cases hv:σ.s t0<;>rw[hv] at q<;>try (simp[Ql] at q;done)
    rename_i vs;simp only[Ql,Zd,Zf] at q;obtain⟨c,hc,rfl,rfl⟩:=q;cases H:o.dst with
    |none=>simp[H] at htk
    |some d =>
     obtain⟨val,g',hr,C⟩:=Qbcy P h t0 i d (L d H) hv hc;refine .inl ⟨val,w,g',by simp only[execOp,hop];exact Qio P _ hr,?_⟩;rw[H];have hsl:Q5 σ.s [Arg.t t0] (Qb2 (.extract i) [Arg.val σ.s (.t t0)])=σ.s.put t0 (.tup (vs.set i c.dem)):=by
      simp only[Arg.val,hv,Qb2,hc];rfl
     rw[hsl];exact C
   ·simp[hx] at htk
 case binOp op xt x y yt =>
  split at A<;>try (cases A;done)
  rename_i xa ya hxa hya;obtain⟨hx1,hx2⟩:=Qhg P h hxa;obtain⟨hy1,hy2⟩:=Qhg P h hya;have scal:∀tb,k = .bin op tb->as=[xa,ya]->tk=false->(tb=true->P.underlying xt=some .bool)->Gives P n0 nt g0 w0 o a w σ':=by
   rintro tb rfl rfl rfl htb;obtain⟨v,M',q,rfl⟩:=B rfl;refine Qc7 P h L U q ⟨(Qd3 _).2 hx2,(Qd3 _).2 hy2,trivial⟩ ?_;simp only[Zb,Zi,V.dems] at q;generalize (xa.val σ.s).dem=xv at q hx1;generalize (ya.val σ.s).dem=yv at q hy1;cases xv<;>try (simp[Ql] at q;done)
   cases yv<;>try (simp[Ql] at q;done)
   simp only[Ql,Zd,Zf] at q;obtain⟨c,hc,rfl,rfl⟩:=q;obtain⟨val,hr,E⟩:=Qbol P op tb xt htb x y hx1 hy1 hc;exact⟨rfl,val,by simp only[execOp,hop];exact Qio P _ hr,E⟩
  split at A<;>try (cases A;done)
  ·split at A<;>try (cases A;done)
   ·cases A;simp[K.isNil] at hnil
   ·cases A;simp[K.isNil] at hnil
  ·cases A;exact scal false rfl rfl rfl (by simp)
  ·cases A;exact scal false rfl rfl rfl (by simp)
  ·rename_i hu;cases A;exact scal true rfl rfl rfl (fun _=>hu)
  ·rename_i fs hu;have sub:∀neg ks,(op = .eql/\neg=false\/op = .neq/\neg=true)->Qkq P xt=some ks->k = .eqa neg ks->as=[xa,ya]->tk=false->Gives P n0 nt g0 w0 o a w σ':=by
    rintro neg ks hop' hks rfl rfl rfl;obtain⟨v,M',q,rfl⟩:=B rfl;refine Qc7 P h L U q ⟨(Qd3 _).2 hx2,(Qd3 _).2 hy2,trivial⟩ ?_;simp only[Zb,Zi,V.dems] at q;have hfx:=Qd4 (xa.val σ.s);have hfy:=Qd4 (ya.val σ.s);generalize (xa.val σ.s).dem=xv at q hx1 hfx;generalize (ya.val σ.s).dem=yv at q hy1 hfy;cases xv<;>try (simp[Ql] at q;done)
    cases yv<;>try (simp[Ql] at q;done)
    simp only[Ql,Zd,Zf] at q;obtain⟨b,hb,rfl,rfl⟩:=q;obtain⟨vs,hvs,hl,hr,_⟩:=Q3m hfx hx1;obtain⟨vs',hvs',hl',hr',_⟩:=Q3m hfy hy1;have:=Qbmd P xt hks hl hr hl' hr' hb;refine⟨rfl,.bool (if neg then !b else b),?_,by rw[RF_d];simp[RD]⟩;simp only[execOp,hop];refine Qio P _ ?_;rw[hvs,hvs'];rcases hop' with⟨rfl,rfl⟩|⟨rfl,rfl⟩
    ·exact this.1 x y
    ·exact this.2 x y
   split at A<;>try (cases A;done)
   ·simp only[Zd,Zf] at A;obtain⟨ks,hks,rfl,rfl,rfl⟩:=A;exact sub false ks (.inl ⟨rfl,rfl⟩) hks rfl rfl rfl
   ·simp only[Zd,Zf] at A;obtain⟨ks,hks,rfl,rfl,rfl⟩:=A;exact sub true ks (.inr ⟨rfl,rfl⟩) hks rfl rfl rfl
  ·rename_i n0' e0' hu;have sub:∀neg ks,(op = .eql/\neg=false\/op = .neq/\neg=true)->Qkq P xt=some ks->k = .eqa neg ks->as=[xa,ya]->tk=false->Gives P n0 nt g0 w0 o a w σ':=by
    rintro neg ks hop' hks rfl rfl rfl;obtain⟨v,M',q,rfl⟩:=B rfl;refine Qc7 P h L U q ⟨(Qd3 _).2 hx2,(Qd3 _).2 hy2,trivial⟩ ?_;simp only[Zb,Zi,V.dems] at q;have hfx:=Qd4 (xa.val σ.s);have hfy:=Qd4 (ya.val σ.s);generalize (xa.val σ.s).dem=xv at q hx1 hfx;generalize (ya.val σ.s).dem=yv at q hy1 hfy;cases xv<;>try (simp[Ql] at q;done)
    cases yv<;>try (simp[Ql] at q;done)
    simp only[Ql,Zd,Zf] at q;obtain⟨b,hb,rfl,rfl⟩:=q;obtain⟨vs,hvs,hl,hr,_⟩:=Q3m hfx hx1;obtain⟨vs',hvs',hl',hr',_⟩:=Q3m hfy hy1;have:=Qbmd P xt hks hl hr hl' hr' hb;refine⟨rfl,.bool (if neg then !b else b),?_,by rw[RF_d];simp[RD]⟩;simp only[execOp,hop];refine Qio P _ ?_;rw[hvs,hvs'];rcases hop' with⟨rfl,rfl⟩|⟨rfl,rfl⟩
    ·exact this.1 x y
    ·exact this.2 x y
   split at A<;>try (cases A;done)
   ·simp only[Zd,Zf] at A;obtain⟨ks,hks,rfl,rfl,rfl⟩:=A;exact sub false ks (.inl ⟨rfl,rfl⟩) hks rfl rfl rfl
   ·simp only[Zd,Zf] at A;obtain⟨ks,hks,rfl,rfl,rfl⟩:=A;exact sub true ks (.inr ⟨rfl,rfl⟩) hks rfl rfl rfl
 case convert s d x =>
  simp only[Zas] at A;obtain⟨ar,N,A⟩:=A;obtain⟨F,J⟩:=Qhg P h N;split at A<;>try (cases A;done)
  ·rename_i k' k hs' hd';cases A;obtain⟨v,M',q,rfl⟩:=B rfl;refine Qc7 P h L U q ⟨(Qd3 _).2 J,trivial⟩ ?_;simp only[Zb,Zi,V.dems] at q;generalize (ar.val σ.s).dem=xv at q F;cases xv<;>try (simp[Ql] at q;done)
   rename_i dx;cases dx<;>try (simp[Ql] at q;done)
   simp only[Ql,Zh,Zf] at q;obtain⟨rfl,rfl⟩:=q;obtain⟨val,hr,E⟩:=Qbm4 P s d k (by simp[hs']) hd' F;exact⟨rfl,val,by simp only[execOp,hop];exact Qio P _ hr,E⟩
  ·rename_i e hs' hd';split at A<;>try (cases A;done)
   rename_i he;cases A;obtain⟨v,M',q,rfl⟩:=B rfl;refine Qc7 P h L U q ⟨(Qd3 _).2 J,trivial⟩ ?_;simp only[Zb,Zi,V.dems] at q;generalize (ar.val σ.s).dem=xv at q F;cases xv<;>try (simp[Ql] at q;done)
   rename_i dx;cases dx<;>try (simp[Ql] at q;done)
   simp only[Ql,Zd,Zf] at q;obtain⟨ns,hn,rfl,rfl⟩:=q;obtain⟨val,hr,E⟩:=Qbm5 P s d e hs' he hd' hn F;exact⟨rfl,val,by simp only[execOp,hop];exact Qio P _ hr,E⟩
 case makeFunc fn first cap =>
  cases fn<;>simp only at A<;>try (cases A;done)
  rename_i f;split at A<;>try (cases A;done)
  rename_i h0;simp only[Zd,Zf] at A;obtain⟨I,has,rfl,rfl,rfl⟩:=A;obtain⟨v,M',q,rfl⟩:=B rfl;obtain⟨F,J⟩:=Qej P h _ _ _ _ has;obtain⟨S,E⟩:=Qbnb f F q;refine Qc7 P h L U q J ⟨S,_,?_,E⟩;have hf:first = #[]:=Array.eq_empty_of_size_eq_zero h0
  subst hf;simp only[execOp,hop];refine Qio P _ ?_;have e:(cap.toList.map a.eval).toArray=cap.map a.eval:=by apply Array.ext';simp
  rw[e];simp only[Instr.makeFunc,Array.map_empty,Sem.run_pure]
 case makeSlice t l c =>
  split at A<;>try (cases A;done)
  rename_i e O;split at A<;>try (cases A;done)
  rename_i z I W has;simp only[Zh,Zf] at A;obtain⟨rfl,rfl,rfl⟩:=A;obtain⟨v,M',q,rfl⟩:=B rfl;obtain⟨F,J⟩:=Qej P h _ _ _ _ has;generalize V.dems (I.map (·.val σ.s))=xs at q F
  match xs,F with
  |[x',y'],⟨u1,us1,e1,X,u2,us2,e2,r2,e3⟩ =>
   simp only[Zb,Zi,Zo] at e1;obtain⟨rfl,rfl⟩:=e1;simp only[Zo] at e2;obtain⟨rfl,rfl⟩:=e2;obtain⟨val,w',g',hr,C⟩:=Qbk7 P h L t e O W hκ hκ' X r2 q;exact .inl ⟨val,w',g',by simp only[execOp,hop];exact Qio P _ hr,C⟩
 case buildSlice t n ps =>
  split at A<;>try (cases A;done)
  rename_i e O;split at A
  ·rename_i hlit;simp only[Zc] at hlit;cases H:o.dst with
   |none=>rw[H] at hlit;simp[inL] at hlit
   |some d =>
    unfold Qzs at A;split at A<;>try (cases A;done)
    rename_i _ _ _ z0 u W hps;split at A<;>try (cases A;done)
    rename_i x hcx;split at A<;>try (cases A;done)
    rename_i F;simp only[Zh,Zf] at A;obtain⟨rfl,rfl,rfl⟩:=A;simp only[if_true,Zb,Zi,Arg.val,Ql,Qgy] at Q;split at Q<;>cases Q;rename_i v M' q;split at q<;>cases q;obtain⟨val,w',g',hr,C⟩:=Qbot P h (L d H) t e O W F (Qbal P hcx).1;refine .inl ⟨val,w',g',?_,by rw[H];exact C⟩;simp only[execOp,hop];refine Qio P _ ?_;rw[<-hr];have:ps = #[(0,.const u)]:=by apply Array.ext';simpa using hps
    subst this;have:a.eval (.const u)=u:=rfl;simp[this]
  split at A
  ·split at A<;>try (cases A;done)
   rename_i z I W has;split at A<;>try (cases A;done)
   rename_i hn;simp only[Zh,Zf] at A;obtain⟨rfl,rfl,rfl⟩:=A;obtain⟨v,M',q,rfl⟩:=B rfl;obtain⟨F,J⟩:=Qej P h _ _ _ _ has;obtain⟨val,w',g',hr,C⟩:=Qbne P h L t e O W n hn _ Qjz F q;refine .inl ⟨val,w',g',?_,C⟩;simp only[execOp,hop];refine Qio P _ ?_;rw[<-hr,Q05]
  split at A<;>try (cases A;done)
  rename_i z I W has;split at A<;>try (cases A;done)
  rename_i hn;simp only[Zh,Zf] at A;obtain⟨rfl,rfl,rfl⟩:=A;obtain⟨v,M',q,rfl⟩:=B rfl;obtain⟨F,J⟩:=Qej P h _ _ _ _ has;obtain⟨val,w',g',hr,C⟩:=Qbhl P h L t e O W n hn _ hκ hκ' Qjz F J q;refine .inl ⟨val,w',g',?_,C⟩;simp only[execOp,hop];refine Qio P _ ?_;rw[<-hr,Q05]
 case slice t x lo hi mx =>
  cases mx with
  |some _=>cases A
  |none =>
   simp only at A;split at A<;>try (cases A;done)
   rename_i e O;split at A<;>try (cases A;done)
   rename_i h0;split at A
   ·rename_i hcond;simp only[Zc] at hcond;obtain⟨⟨⟨hdc,hxt⟩,hlo⟩,hhi⟩:=hcond;cases hi with
    |some _=>simp at hhi
    |none =>
    cases lo with
    |none=>simp at hlo
    |some lv =>
    simp only[Zd,Zf] at A;obtain⟨I,has,rfl,rfl,rfl⟩:=A;simp only[Option.toList,Zaq,Zbh,Qe1] at has;split at has<;>try (cases has;done)
    rename_i a0 as1 ha0 has1;cases has;split at has1<;>try (cases has1;done)
    rename_i a1 as2 ha1 has2;cases has2;cases has1;obtain⟨d,H⟩ : ∃d,o.dst=some d:=by
     cases hdd:o.dst with
     |none=>rw[hdd] at hdc;simp[inL] at hdc
     |some d=>exact⟨d,rfl⟩
    simp only[if_true,Zb,Zi] at Q;split at Q<;>cases Q;rename_i v M' q;rcases Qtg P h ha0 with⟨t0,rfl,rfl,F,J⟩|⟨hx,_⟩
    ·obtain⟨val,g',hr,C⟩:=Qbnj P h t e O h0 t0 d (L d H) ha1 q;refine .inl ⟨val,w,g',by simp only[execOp,hop];exact Qio P _ hr,?_⟩;rw[H];exact C
    ·simp[hx] at hxt
   split at A<;>try (cases A;done)
   rename_i I has;simp only[Zh,Zf] at A;obtain⟨rfl,rfl,rfl⟩:=A;obtain⟨v,M',q,rfl⟩:=B rfl;obtain⟨F,J⟩:=Qej P h _ _ _ _ has;refine Qc7 P h L U q J ?_;generalize V.dems (I.map (·.val σ.s))=xs at q F
   match xs,F with
   |x'::bs,⟨u1,us1,e1,X,e2⟩ =>
    simp only[Zaq,Zbh,Zb,Zo] at e1;obtain⟨rfl,rfl⟩:=e1;obtain⟨S,val,hr,E⟩:=Qbd4 P t e O h0 (lo.map a.eval) (hi.map a.eval) X (by cases lo<;>cases hi<;>simpa using e2) (by simpa using q);exact⟨S,val,by simp only[execOp,hop];exact Qio P _ (by simpa using hr),E⟩
 case field t x f =>
  split at A<;>try (cases A;done)
  rename_i fs hfs;split at A<;>try (cases A;done)
  rename_i fd ar hfd N;split at A<;>try (cases A;done)
  rename_i hu;obtain⟨d,hu⟩:=Zab.1 hu;cases A;obtain⟨v,M',q,rfl⟩:=B rfl;obtain⟨F,J⟩:=Qhg P h N;obtain⟨S,val,hr,E⟩:=Qbk3 P t fs hfs f fd hfd hu (Qd4 _) F q;exact Qc7 P h L U q ⟨(Qd3 _).2 J,trivial⟩ ⟨S,val,by simp only[execOp,hop];exact Qio P _ hr,E⟩
 case indexAddr t x i =>
  split at A<;>try (cases A;done)
  ·rename_i e O;simp only[Zas] at A;obtain⟨I,has,A⟩:=A;split at A<;>try (cases A;done)
   rename_i h0;cases A;obtain⟨v,M',q,rfl⟩:=B rfl;obtain⟨F,J⟩:=Qej P h _ _ _ _ has;refine Qc7 P h L U q J ?_;generalize V.dems (as.map (·.val σ.s))=xs at q F
   match xs,F with
   |[x',y'],⟨u1,us1,e1,X,u2,us2,e2,r2,e3⟩ =>
    simp only[Zb,Zi,Zo] at e1;obtain⟨rfl,rfl⟩:=e1;simp only[Zo] at e2;obtain⟨rfl,rfl⟩:=e2;obtain⟨S,val,hr,E⟩:=Qbon P t e O h0 X r2 q;exact⟨S,val,by simp only[execOp,hop];exact Qio P _ hr,E⟩
  ·rename_i n e O;simp only[Zas] at A;obtain⟨I,has,A⟩:=A;split at A<;>try (cases A;done)
   rename_i h0;cases A;obtain⟨v,M',q,rfl⟩:=B rfl;obtain⟨F,J⟩:=Qej P h _ _ _ _ has;refine Qc7 P h L U q J ?_;generalize V.dems (as.map (·.val σ.s))=xs at q F
   match xs,F with
   |[x',y'],⟨u1,us1,e1,X,u2,us2,e2,r2,e3⟩ =>
    simp only[Zb,Zi,Zo] at e1;obtain⟨rfl,rfl⟩:=e1;simp only[Zo] at e2;obtain⟨rfl,rfl⟩:=e2;obtain⟨S,val,hr,E⟩:=Qbhh P t e n O h0 X r2 q;exact⟨S,val,by simp only[execOp,hop];exact Qio P _ hr,E⟩
 case index t x i =>
  split at A<;>try (cases A;done)
  ·rename_i n e O;split at A<;>try (cases A;done)
   rename_i hu;have hu:∃d,P.underlying e=some d:=by
    cases hd' : P.underlying e with
    |none=>simp[hd'] at hu
    |some d=>exact⟨d,rfl⟩
   obtain⟨d,hu⟩:=hu;simp only[Zd,Zf] at A;obtain⟨I,has,rfl,rfl,rfl⟩:=A;obtain⟨v,M',q,rfl⟩:=B rfl;obtain⟨F,J⟩:=Qej P h _ _ _ _ has;refine Qc7 P h L U q J ?_;have hfl:∀x∈V.dems (I.map (·.val σ.s)),Flat x:=Qjz;generalize V.dems (I.map (·.val σ.s))=xs at q F hfl
   match xs,F with
   |[x',y'],⟨u1,us1,e1,X,u2,us2,e2,r2,e3⟩ =>
    simp only[Zb,Zi,Zo] at e1;obtain⟨rfl,rfl⟩:=e1;simp only[Zo] at e2;obtain⟨rfl,rfl⟩:=e2;obtain⟨S,val,hr,E⟩:=Qbhi P t e n O hu (hfl _ (by simp)) X r2 q;exact⟨S,val,by simp only[execOp,hop];exact Qio P _ hr,E⟩
  ·rename_i O;simp only[Zd,Zf] at A;obtain⟨I,has,rfl,rfl,rfl⟩:=A;obtain⟨v,M',q,rfl⟩:=B rfl;obtain⟨F,J⟩:=Qej P h _ _ _ _ has;refine Qc7 P h L U q J ?_;generalize V.dems (I.map (·.val σ.s))=xs at q F
   match xs,F with
   |[x',y'],⟨u1,us1,e1,X,u2,us2,e2,r2,e3⟩ =>
    simp only[Zb,Zi,Zo] at e1;obtain⟨rfl,rfl⟩:=e1;simp only[Zo] at e2;obtain⟨rfl,rfl⟩:=e2;obtain⟨S,val,hr,E⟩:=Qbm7 P t O X r2 q;exact⟨S,val,by simp only[execOp,hop];exact Qio P _ hr,E⟩
 case build t ps =>
  split at A<;>try (cases A;done)
  ·rename_i fs z O W;split at A<;>try (cases A;done)
   rename_i hft;simp only[Zt] at hft;split at A<;>try (cases A;done)
   rename_i pl I hpl has;simp only[Zh,Zf] at A;obtain⟨rfl,rfl,htk⟩:=A;cases tk with
   |false =>
    obtain⟨v,M',q,rfl⟩:=B rfl;obtain⟨F,J⟩:=Qej P h _ _ _ _ has;obtain⟨S,val,hr,E⟩:=Qwy P t fs O W _ pl hpl hft Qjz F q;refine Qc7 P h L U q J ⟨S,val,?_,E⟩;simp only[execOp,hop];exact Qio P _ (by rw[<-hr,Q05])
   |true =>
    cases H:o.dst with
    |none=>simp[H] at htk
    |some d =>
     simp only[if_true,Qb2] at Q;split at Q<;>cases Q;rename_i v M' q;obtain⟨rfl,val,g',hr,C⟩:=Qbhq P h (L d H) has (by simp only[Zc] at htk;exact htk.1.2) U (R:=Instr.build t ((ps.toList.map (·.1)).zip ((ps.toList.map (·.2)).map a.eval)).toArray) (fun g2 xs' v' M'' hfl E hst'=>(Qwy P t fs O W _ pl hpl hft hfl E hst').2) q;refine .inl ⟨val,w,g',?_,?_⟩
     ·simp only[execOp,hop];exact Qio P _ (by rw[<-hr,Q05])
     ·rw[H];exact C
  ·rename_i n e z O W;split at A<;>try (cases A;done)
   rename_i hie;simp only[Zd,Zf] at A;obtain⟨I,has,rfl,rfl,rfl⟩:=A;obtain⟨v,M',q,rfl⟩:=B rfl;obtain⟨F,J⟩:=Qej P h _ _ _ _ has;obtain⟨S,val,hr,E⟩:=Q65 P t e n O (by cases hq:P.info? e with|none=>simp[hq] at hie|some _=>rfl) W (ps.toList.map (·.1)) Qjz F (by rw[Zap];exact q);refine Qc7 P h L U q J ⟨S,val,?_,E⟩;simp only[execOp,hop];exact Qio P _ (by rw[<-hr,Q05])
 case makeMap t r =>
  split at A<;>try (cases A;done)
  rename_i kt et O;simp only[Zd,Zf] at A;obtain⟨I,has,rfl,rfl,rfl⟩:=A;obtain⟨v,M',q,rfl⟩:=B rfl;obtain⟨F,J⟩:=Qej P h _ _ _ _ has;obtain⟨val,w',g',hr,C⟩:=Qblc P h L t O F hκ hκ' (r.map a.eval) (by cases r<;>rfl) q;exact .inl ⟨val,w',g',by simp only[execOp,hop];exact Qio P _ hr,C⟩
 case lookup t x i c =>
  split at A<;>try (cases A;done)
  rename_i kt kd z hmk;simp only[Zd,Zf] at A;obtain⟨I,has,rfl,rfl,rfl⟩:=A;obtain⟨v,M',q,rfl⟩:=B rfl;obtain⟨F,J⟩:=Qej P h _ _ _ _ has;have old:∀{k' : K},k' = .lookup kd c z->k'.okz->Ql n0 κ k' (V.dems (I.map (·.val σ.s))) σ.M=some (v,M')->Gives P n0 nt g0 w0 o a w ⟨Qbe σ.s o.dst v,M',σ.nb⟩:=by
   rintro _ rfl U q;refine Qc7 P h L U q J ?_;generalize V.dems (I.map (·.val σ.s))=xs at q F;obtain⟨x',y',rfl,X,r2⟩:=Q5e (by simpa using F);obtain⟨S,val,hr,E⟩:=Qbhw P t hmk c h.mem X r2 q;exact⟨S,val,by simp only[execOp,hop];exact Qio P _ hr,E⟩
  cases hzn:Qbg6 P t with
  |none=>rw[hzn] at q U;exact old rfl U q
  |some zn =>
   rw[hzn] at q U;simp only at q U;by_cases hT:(!c&&inL T.mpt o.dst)=true
   ·rw[if_pos hT] at q;obtain rfl:c=false:=by
     cases c
     ·rfl
     ·simp at hT
    generalize V.dems (I.map (·.val σ.s))=xs at q F;obtain⟨x',y',rfl,X,r2⟩:=Q5e (by simpa using F);obtain⟨val,g',hr,C⟩:=Qbf5 P h L t hmk hzn X r2 q;exact .inl ⟨val,w,g',by simp only[execOp,hop];exact Qio P _ hr,C⟩
   ·rw[if_neg hT] at q U;exact old rfl U q
 case mapUpdate t m k x =>
  split at A<;>try (cases A;done)
  rename_i kt kd z kt' et hmk O;split at A<;>try (cases A;done)
  rename_i H;simp only[Zd] at A;obtain⟨I,has,A⟩:=A;by_cases hT:inL T.mpt (tmpO x)=true
  ·rw[if_pos hT] at A;simp only[Zf] at A;obtain⟨rfl,rfl,rfl⟩:=A;simp only[if_true] at Q;split at Q<;>cases Q;rename_i v M' q;obtain⟨w',g',hr,C⟩:=Q5g P h has hT t hmk q;refine .inr ⟨w',g',by simp only[execOp,hop];exact Qbc3 P _ hr,?_⟩;rw[Zba.1 H];exact C
  rw[if_neg hT] at A;simp only[Zf] at A;obtain⟨rfl,rfl,rfl⟩:=A;obtain⟨v,M',q,rfl⟩:=B rfl;obtain⟨F,J⟩:=Qej P h _ _ _ _ has;generalize V.dems (I.map (·.val σ.s))=xs at q F;obtain⟨x',y',z',rfl,X,r2,r3⟩:=Q5f (by simpa using F);obtain⟨w',hr,C⟩:=Qbar P h L t hmk X r2 r3 q;exact .inr ⟨w',g,by simp only[execOp,hop];exact Qbc3 P _ hr,C⟩
 case insert t m k x =>
  split at A<;>try (cases A;done)
  rename_i kt kd z kt' et hmk O;split at A<;>try (cases A;done)
  rename_i H;simp only[Zd] at A;obtain⟨I,has,A⟩:=A;by_cases hT:inL T.mpt (tmpO x)=true
  ·rw[if_pos hT] at A;simp only[Zf] at A;obtain⟨rfl,rfl,rfl⟩:=A;simp only[if_true] at Q;split at Q<;>cases Q;rename_i v M' q;obtain⟨w',g',hr,C⟩:=Q5g P h has hT t hmk q;refine .inr ⟨w',g',by simp only[execOp,hop];exact Qbc3 P _ hr,?_⟩;rw[Zba.1 H];exact C
  rw[if_neg hT] at A;simp only[Zf] at A;obtain⟨rfl,rfl,rfl⟩:=A;obtain⟨v,M',q,rfl⟩:=B rfl;obtain⟨F,J⟩:=Qej P h _ _ _ _ has;generalize V.dems (I.map (·.val σ.s))=xs at q F;obtain⟨x',y',z',rfl,X,r2,r3⟩:=Q5f (by simpa using F);obtain⟨w',hr,C⟩:=Qbar P h L t hmk X r2 r3 q;exact .inr ⟨w',g,by simp only[execOp,hop];exact Qbc3 P _ hr,C⟩
 case mapEntry t m k =>
  split at A<;>try (cases A;done)
  rename_i kt kd z hmk;simp only[Zd,Zf] at A;obtain⟨I,has,rfl,rfl,rfl⟩:=A;obtain⟨v,M',q,rfl⟩:=B rfl;obtain⟨F,J⟩:=Qej P h _ _ _ _ has;generalize V.dems (I.map (·.val σ.s))=xs at q F;obtain⟨x',y',rfl,X,r2⟩:=Q5e (by simpa using F);obtain⟨val,w',hr,C⟩:=Qbc2 P h L t hmk X r2 q;exact .inl ⟨val,w',g,by simp only[execOp,hop];exact Qio P _ hr,C⟩
 case entryStore t m st x =>
  split at A<;>try (cases A;done)
  split at A<;>try (cases A;done)
  rename_i H;simp only[Zd,Zf] at A;obtain⟨I,has,rfl,rfl,rfl⟩:=A;obtain⟨v,M',q,rfl⟩:=B rfl;obtain⟨F,J⟩:=Qej P h _ _ _ _ has;generalize V.dems (I.map (·.val σ.s))=xs at q F;obtain⟨x',y',z',rfl,X,r2,r3⟩:=Q5f (by simpa using F);obtain⟨w',hr,C⟩:=Q9c P h L t X r2 r3 q;exact .inr ⟨w',g,by simp only[execOp,hop];exact Qbc3 P _ hr,C⟩
 case call cl =>
  cases hcl:cl.callee<;>rw[hcl] at A<;>(try simp only at A)
  case invoke=>cases A
  case value f =>
   cases f<;>(try simp only at A)<;>try (cases A;done)
   ·simp only[Zd,Zf] at A;obtain⟨I,has,rfl,rfl,rfl⟩:=A;simp[K.isCall] at hcall
   ·split at A<;>try (cases A;done)
    simp only[Zd,Zf] at A;obtain⟨I,has,rfl,rfl,rfl⟩:=A;exfalso;cases hco:inL T.co o.dst<;>simp[hco,K.isCall,K.isNil] at hcall hnil
  case builtin b =>
   have hex:∀val w',((builtin b cl.argTypes o.type (cl.args.map fun | .const _=>true|_=>false) (cl.args.map a.eval)).run P w = .ok (.value val) w')->(execOp a.eval o).run P w = .ok (.value val) w':=by
    intro val w' hr;simp only[execOp,hop,resolve,hcl,invoke,Sem.run_bind,Sem.run_pure,Result.andThen_ok];exact hr
   cases b<;>simp only at A<;>try (cases A;done)
   case append =>
    split at A<;>try (cases A;done)
    rename_i e e' O ht' hsize;split at A<;>try (cases A;done)
    rename_i htt;split at A<;>try (cases A;done)
    rename_i z t0 I W has;split at A<;>try (cases A;done)
    rename_i hzl;split at A
    ·simp only[Zh,Zf] at A;obtain⟨rfl,rfl,rfl⟩:=A;obtain⟨x0,x1,hargs⟩ : ∃x0 x1,cl.args = #[x0,x1]:=by
      cases hl:cl.args with
      |mk l =>
       rw[hl] at hsize
       match l,hsize with
       |[x0,x1],_=>exact⟨x0,x1,rfl⟩
     rw[hargs] at has;simp only[Qe1] at has;split at has<;>try (cases has;done)
     rename_i a0 as0 ha0 has0;split at has0<;>try (cases has0;done)
     rename_i a1 as1 ha1 has1;simp only[Zh] at has1;subst has1;simp only[Zh] at has0;subst has0;simp only[Zh,Zo] at has;obtain⟨rfl,rfl⟩:=has;obtain⟨v,M',q,rfl⟩:=B rfl;simp only[Zb,Zi,V.dems] at q;rcases Qtg P h ha0 with⟨t1,hx0,htt1,F,J⟩|⟨_,c0,hc0,_⟩
     ·cases htt1;have hx1:∃ℓ,RV g w (a1.val σ.s).dem ℓ (a.eval x1):=by
       rcases Qtg P h ha1 with⟨t2,_,rfl,k1,_⟩|⟨_,c1,rfl,k1,_⟩
       ·exact⟨.free,Qie _ _ _ _ k1⟩
       ·exact⟨.free,Qie _ _ _ _ (k1 .free)⟩
      obtain⟨ℓ,hx1⟩:=hx1;have hsl:((Arg.t t0).val σ.s).dem=σ.s t0:=by
       rcases (Q7n q).1 with⟨k,off,len,cap,e1⟩|⟨_,e1⟩
       ·have:σ.s t0 = .sl (P.cellsOf e) k off len cap:=Qbor e1;simp only[Arg.val,this,V.dem]
       ·have e1:(σ.s t0).dem=_:=e1;show (σ.s t0).dem=σ.s t0;cases hv:σ.s t0<;>rw[hv] at e1<;>first|rfl|cases e1
      rw[hsl] at q;obtain⟨val,w',g',hr,C⟩:=Qbng P h L (cl.argTypes.getD 0 0) o.type e O W hzl t0 hx1 q;refine .inl ⟨val,w',g',hex val w' ?_,C⟩;refine Qio P _ ?_;rw[htt,hargs];subst hx0;simpa[Act.eval] using hr
     ·cases hc0
    simp only[Zh,Zf] at A;obtain⟨rfl,rfl,rfl⟩:=A;obtain⟨x0,x1,hargs⟩ : ∃x0 x1,cl.args = #[x0,x1]:=by
     cases hl:cl.args with
     |mk l =>
      rw[hl] at hsize
      match l,hsize with
      |[x0,x1],_=>exact⟨x0,x1,rfl⟩
    rw[hargs] at has;simp only[Qe1] at has;split at has<;>try (cases has;done)
    rename_i a0 as0 ha0 has0;split at has0<;>try (cases has0;done)
    rename_i a1 as1 ha1 has1;simp only[Zh] at has1;subst has1;simp only[Zh] at has0;subst has0;simp only[Zh,Zo] at has;obtain⟨rfl,rfl⟩:=has;simp only[if_true,Zb,Zi] at Q;split at Q<;>cases Q;rename_i v M' q;rcases Qtg P h ha0 with⟨t1,hx0,htt1,F,J⟩|⟨_,c0,hc0,_⟩
    ·cases htt1;have hx1:∃ℓ,RV g w (a1.val σ.s) ℓ (a.eval x1):=by
      rcases Qtg P h ha1 with⟨t2,_,rfl,k1,_⟩|⟨_,c1,rfl,k1,_⟩
      ·exact⟨_,k1⟩
      ·exact⟨.free,k1 _⟩
     obtain⟨ℓ,hx1⟩:=hx1;obtain⟨val,w',g',hr,C⟩:=Qbaj P h L (cl.argTypes.getD 0 0) o.type e O W hzl t0 hx1 q;refine .inl ⟨val,w',g',hex val w' ?_,?_⟩
     ·refine Qio P _ ?_;rw[htt,hargs];subst hx0;simpa[Act.eval] using hr
     ·refine Qbpm C (fun i=>?_);have key:∀i,Q5 σ.s [Arg.t t0,a1] (Qb2 (.append (P.cellsOf e) (P.bytesOf e)) [Arg.val σ.s (.t t0),a1.val σ.s]) i=σ.s.put t0 (σ.s t0).dem i\/Q5 σ.s [Arg.t t0,a1] (Qb2 (.append (P.cellsOf e) (P.bytesOf e)) [Arg.val σ.s (.t t0),a1.val σ.s]) i=(σ.s.put t0 (σ.s t0).dem i).dem:=by
       intro i;cases a1 with
       |c v=>exact .inl rfl
       |t j =>
        simp only[Qb2,Q5,Arg.putTo,Sl.put,Arg.val];by_cases hij:i=j
        ·subst hij;right;rw[if_pos rfl];split
         ·rename_i he;subst he;exact (Qd4 _).symm
         ·rfl
        ·left;rw[if_neg hij]
      cases o.dst with
      |none=>exact key i
      |some d =>
       simp only[Qbe,Sl.put];split
       ·exact .inl rfl
       ·exact key i
    ·cases hc0
   case len =>
    split at A<;>try (cases A;done)
    rename_i hsz;simp only[Zas] at A;obtain⟨I,has,A⟩:=A;obtain⟨F,J⟩:=Qej P h _ _ _ _ has;obtain⟨u,hu1,hu2⟩:=Qbni cl.args a.eval hsz.1;rw[hu2] at F;obtain⟨x',hx',X⟩:=Qbh1 F;have hty:=Qble cl.argTypes hsz.2;split at A<;>try (cases A;done)
    ·rename_i e O;cases A;obtain⟨v,M',q,rfl⟩:=B rfl;refine Qc7 P h L U q J ?_;rw[hx'] at q;obtain⟨S,val,hr,E⟩:=Qboo P (cl.argTypes.getD 0 0) o.type e O h.mem X q;refine⟨S,val,hex val w ?_,E⟩;refine Qio P _ ?_;rw[hty,hu1];exact hr
    ·rename_i km em O;cases A;obtain⟨v,M',q,rfl⟩:=B rfl;refine Qc7 P h L U q J ?_;rw[hx'] at q;obtain⟨S,val,hr,E⟩:=Qbnh P (cl.argTypes.getD 0 0) o.type O h.mem X q;refine⟨S,val,hex val w ?_,E⟩;refine Qio P _ ?_;rw[hty,hu1];exact hr
    ·rename_i O;cases A;obtain⟨v,M',q,rfl⟩:=B rfl;refine Qc7 P h L U q J ?_;rw[hx'] at q;obtain⟨S,val,hr,E⟩:=Qbm6 P (cl.argTypes.getD 0 0) o.type O X q;refine⟨S,val,hex val w ?_,E⟩;refine Qio P _ ?_;rw[hty,hu1];exact hr
   case max =>
    split at A<;>try (cases A;done)
    rename_i hsz;simp only[Zd,Zf] at A;obtain⟨I,has,rfl,rfl,rfl⟩:=A;obtain⟨F,J⟩:=Qej P h _ _ _ _ has;obtain⟨u1,u2,hu1,hu2⟩:=Qbh0 cl.args a.eval hsz;rw[hu2] at F;obtain⟨x',y',hx',X,r2⟩:=Q5e F;obtain⟨v,M',q,rfl⟩:=B rfl;refine Qc7 P h L U q J ?_;rw[hx'] at q;obtain⟨S,val,hr,E⟩:=Qbm8 P cl.argTypes o.type X r2 q;refine⟨S,val,hex val w (Qio P _ ?_),E⟩;rw[hu1];exact hr
   case min =>
    split at A<;>try (cases A;done)
    rename_i hsz;simp only[Zd,Zf] at A;obtain⟨I,has,rfl,rfl,rfl⟩:=A;obtain⟨F,J⟩:=Qej P h _ _ _ _ has;obtain⟨u1,u2,hu1,hu2⟩:=Qbh0 cl.args a.eval hsz;rw[hu2] at F;obtain⟨x',y',hx',X,r2⟩:=Q5e F;obtain⟨v,M',q,rfl⟩:=B rfl;refine Qc7 P h L U q J ?_;rw[hx'] at q;obtain⟨S,val,hr,E⟩:=Qbm9 P cl.argTypes o.type X r2 q;refine⟨S,val,hex val w (Qio P _ ?_),E⟩;rw[hu1];exact hr
end
end Go.Abs
end
section
namespace Go.Abs
open Go
def Qh0(P : Program)(f : FuncId) : Bool := (P.funcs[f]?).any fun fn => fn.body.isSome && fn.name != "runtime.NumGoroutine"
def RAs(g:G)(w:World):Nat->List V->List Value->Prop
 |_,[],us=>us=[]
 |j,x::xs,us=>∃u b,us=u::b/\RV g w x (.slot j []) u/\RAs g w (j+1) xs b
theorem RAs.of_flat{g:G}{w:World}:∀{j:Nat}{xs:List V}{us:List Value},RFs g w xs us->RAs g w j xs us
 |_,[],_,h=>h
 |_,_::_,_,⟨u,b,e,h1,c⟩=>⟨u,b,e,h1 _,RAs.of_flat c⟩
theorem RAs.flat{g:G}{w:World}:∀{j:Nat}{xs:List V}{us:List Value},(∀x∈xs,Flat x)->RAs g w j xs us->RFs g w xs us
 |_,[],_,_,h=>h
 |_,_::_,_,c,⟨u,b,e,h1,f⟩=>⟨u,b,e,fun _=>Qmf (c _ (List.mem_cons_self ..)) h1,RAs.flat (fun x d=>c x (List.mem_cons_of_mem _ d)) f⟩
theorem RAs.length{g:G}{w:World}:∀{j:Nat}{xs:List V}{us:List Value},RAs g w j xs us->us.length=xs.length
 |_,[],_,h=>by simp[RAs] at h;simp[h]
 |_,_::_,_,⟨u,b,e,_,c⟩=>by subst e;simp[RAs.length c]
theorem RAs.get{g:G}{w:World}:∀{j:Nat}{xs:List V}{us:List Value},RAs g w j xs us->∀(t:Nat)x u,xs[t]? = some x->us[t]? = some u->RV g w x (.slot (j+t) []) u
 |_,[],_,_,t,x,u,b,_=>by simp at b
 |j,_::_,_,⟨f,c,e,h1,d⟩,t,x,u,b,hu=>by
  subst e;cases t with
  |zero=>simp at b hu;subst b hu;exact h1
  |succ t=>have:=RAs.get d t x u (by simpa using b) (by simpa using hu);rwa [show j+1+t=j+(t+1) by omega] at this
def Tab(P : Program)(g : G)(w : World) : Prop := ∀ gl, P.globalNamed "internal/strconv.uint64pow10" = some gl → gl < w.heap.size ∧ g.own gl = .ext ∧ Lib.TabIs P w "internal/strconv.uint64pow10" .u64 Lib.pow10Tab
theorem Tab.fr{P:Program}{n0:Nat}{g0 g:G}{w0 w:World}(h:Tab P g0 w0)(d:Fr n0 g0 w0 g w):Tab P g w:=by
 intro i c;obtain⟨f,e,b⟩:=h i c;obtain⟨k,j,_⟩:=d.old i f (by rw[e];trivial);refine⟨Zbk f d.size,k.trans e,?_⟩;unfold Lib.TabIs World.var? at b |-;rw[c] at b |-;simp only[Za] at b |-;rw[j];exact b
theorem Tab.re{P:Program}{g:G}{w:World}(h:Tab P g w){f:Owner->Owner}(d:f .ext = .ext):Tab P (g.re f) w:=fun b c =>
 have⟨h1,h2,h3⟩:=h b c
 ⟨h1,by show f (g.own b)=_;rw[h2,d],h3⟩
def ACalls(P:Program):Ctx:=fun f args M nb r M' b =>
 Qh0 P f=true/\nb<=b/\∀(w:World)(g:G)(us:List Value),Tab P g w->MR g w M nb->MOn (There M) M->RAs g w 0 args us->V.ons (There M) args ->
  Calls P f us.toArray w fun e w'=>∃v g',e = .returned v/\MR g' w' M' b/\RV g' w' r (.res []) v/\r.on (There M')/\MOn (There M') M'/\Fr nb g w g' w'
theorem ACalls.mk'{P:Program}{f:FuncId}{args:List V}{M M' : Mem}{nb b : Nat}{r:V}(hb:Qh0 P f=true)(l:nb<=b)(j:V.dems args=args)(h:∀(w:World)(g:G)(us:List Value),MR g w M nb->MOn (There M) M->RFs g w args us->(∀x∈args,Flat x)->V.ons (There M) args ->
   Calls P f us.toArray w fun e w'=>∃v g',e = .returned v/\MR g' w' M' b/\RV g' w' r (.res []) v/\r.on (There M')/\MOn (There M') M'/\Fr nb g w g' w'):ACalls P f args M nb r M' b :=
 have k:∀x∈args,Flat x:=by rw[<-j];exact Qjz
 ⟨hb,l,fun w g us _ m d i c=>h w g us m d (i.flat k) k c⟩
theorem ACalls.mkT'{P:Program}{f:FuncId}{args:List V}{M M' : Mem}{nb b : Nat}{r:V}(hb:Qh0 P f=true)(m:nb<=b)(j:V.dems args=args)(h:∀(w:World)(g:G)(us:List Value),Tab P g w->MR g w M nb->MOn (There M) M->RFs g w args us->(∀x∈args,Flat x)->V.ons (There M) args ->
   Calls P f us.toArray w fun e w'=>∃v g',e = .returned v/\MR g' w' M' b/\RV g' w' r (.res []) v/\r.on (There M')/\MOn (There M') M'/\Fr nb g w g' w'):ACalls P f args M nb r M' b :=
 have k:∀x∈args,Flat x:=by rw[<-j];exact Qjz
 ⟨hb,m,fun w g us l n d i c=>h w g us l n d (i.flat k) k c⟩
def hide:Owner->Owner
 |.slot t p=>.hid 0 t p
 |.res p=>.ext
 |.hid n t p=>.hid (n+1) t p
 |o=>o
def Qqa(b:Option Nat)(i:Nat):Owner->Owner
 |.slot t p=>if b=some t then .slot i p else .hid 0 t p
 |.res p=>.ext
 |.hid n t p=>.hid (n+1) t p
 |o=>o
theorem Qqb(b:Option Nat)(j:Nat)(o:Owner)(i:Nat):Qqa b j (o.sub i)=(Qqa b j o).sub i:=by
 cases o<;>try rfl
 simp only[Qqa,Owner.sub];split<;>rfl
theorem Qbh2{b:Option Nat}{j:Nat}{o:Owner}{k:Nat}:Qqa b j o = .box k↔o = .box k:=by
 cases o<;>simp[Qqa];split<;>simp
def Qr0(d:Nat):Owner->Owner
 |.slot _ _=>.ext
 |.res p=>.slot d p
 |.hid 0 t p=>.slot t p
 |.hid (n+1) t p=>.hid n t p
 |o=>o
theorem Q9d(o:Owner)(i:Nat):hide (o.sub i)=(hide o).sub i:=by cases o<;>rfl
theorem Qno(d:Nat)(o:Owner)(i:Nat):Qr0 d (o.sub i)=(Qr0 d o).sub i:=by
 cases o<;>try rfl
 rename_i n t p;cases n<;>rfl
theorem Qblf{o:Owner}{k:Nat}:hide o = .box k↔o = .box k:=by cases o<;>simp[hide]
theorem Q7w{d:Nat}{o:Owner}{k:Nat}:Qr0 d o = .box k↔o = .box k:=by
 cases o<;>try simp[Qr0]
 grind
theorem MR.re{g:G}{w:World}{M:Mem}{nb:Nat}(l:MR g w M nb){f:Owner->Owner}(p:∀o i,f (o.sub i)=(f o).sub i)(s:f .ext = .ext)(hb:∀o k,f o = .box k↔o = .box k):MR (g.re f) w M nb:=by
 refine⟨fun k b r=>?_,fun b o h=>⟨(l.imm b o h).1,fun k e=>(l.imm b o h).2 k ((hb _ _).1 e)⟩⟩;obtain⟨u,t,q⟩:=l.box k b r;refine⟨u,(hb _ _).2 t,?_⟩;cases b with
 |mp es c =>
  obtain⟨j,m,hr⟩:=q;exact⟨j,m,Qbaf (g:=g) (g':=g.re f) (Imm.refl _ _) (fun b i n _=>⟨by show f (g.own b)=_;rw[n];have:=p (.box k) i;rwa [(hb (.box k) k).2 rfl] at this,rfl,fun _=>Zk⟩) hr⟩
 |cells cs =>
  obtain⟨d,e,m,hr,ho⟩:=q;have:=RVs_re p s cs (.box k) 0 d hr;rw[(hb (.box k) k).2 rfl] at this;exact⟨d,e,m,this,ho⟩
section
variable(P:Program){g:G}{w:World}{n0 nt:Nat}{g0:G}{w0:World}{σ:St}{a:Act}
theorem Q4g{g:G}{w:World}{f:Owner->Owner}(c:∀o i,f (o.sub i)=(f o).sub i)(j:f .ext = .ext):∀{vs:List V}{us:List Value},(∀x∈vs,Flat x)->RFs g w vs us->RFs (g.re f) w vs us
 |[],us,_,h=>h
 |v::vs,us,d,⟨u,b,e,r,h⟩=>⟨u,b,e,fun ℓ=>Qmf (d v (by simp)) (Qrj c j v .ext u (r .ext)),Q4g c j (fun x k=>d x (by simp[k])) h⟩
theorem SR.behind(h:SR n0 nt g0 w0 σ a w g){g2:G}{p:World}{M' : Mem}{f : Nat}{r:V}{v:Value}{dst:Option Nat}(J:∀d,dst=some d->d<nt)(H:MR g2 p M' f)(hr:RV g2 p r (.res []) v)(q:r.on (There M'))(L:MOn (There M') M')(e:Fr σ.nb (g.re hide) w g2 p)(z:σ.nb<=f)(l:∀k,There σ.M k->There M' k)(u:∀k cs,M' k=some (.cells cs)->k<n0->V.ons (· < n0) cs):
  SR n0 nt g0 w0 ⟨Qbe σ.s dst r,M',f⟩ (a.put dst v) p (g2.re (Qr0 (dst.getD 0))):=by
 have j:Kept (g.re hide) w g2 p (There σ.M) Prot:=by
  refine⟨e.imm,fun k n=>?_,fun b hb A=>e.old b A hb⟩;obtain⟨b,hb⟩:=Zab.1 n;exact e.box k (h.mem.box k b hb).1
 have y:∀ℓ i,Prot ℓ->Prot (ℓ.sub i):=by intro ℓ i hp;cases ℓ<;>simp_all[Prot,Owner.sub]
 refine⟨H.re (Qno _) rfl (fun o k=>Q7w),Qf9 (fun d m=>by rw[h.size];exact J d m) (fun t O=>?_) (fun d m=>?_),(Qg9 _ _ _).trans h.size,(Qeo _ _ _).trans h.defers,
  Qga (fun t=>Qf8 l _ (h.onS t)) q,fun k cs n=>⟨L k cs n,u k cs n⟩,Zac h.top z,?_⟩
 ·have x:=Qrj Q9d rfl _ _ _ (h.slots t);have B:=Qdq j y trivial _ _ _ (show Prot (hide (.slot t [])) from trivial) (h.onS t) x;exact Qrj (Qno _) rfl _ _ _ B
 ·have:=Qrj (Qno (dst.getD 0)) rfl _ _ _ hr;simpa[Qr0,m] using this
 ·have I:n0<=σ.nb:=by have:=h.top;omega
  have c:=h.fr;refine⟨e.os.trans c.os,e.tape.trans c.tape,e.output.trans c.output,Zac c.size e.size,⟨fun b o hb=>e.imm.mono b o (c.imm.mono b o hb),fun b o hb=>(e.imm.look b o (c.imm.mono b o hb)).trans (c.imm.look b o hb)⟩,
   fun k n=>(e.box k (by omega)).trans (c.box k n),fun b hb ho=>?_⟩
  obtain⟨x,B,N⟩:=c.old b hb ho;have hp:Prot ((g.re hide).own b):=by
   show Prot (hide (g.own b));rw[x];cases hq:g0.own b<;>rw[hq] at ho<;>first|exact ho.elim|exact trivial
  obtain⟨F,E,C⟩:=e.old b (Zbk hb c.size) hp;refine⟨?_,E.trans B,fun o=>(C o).trans (N o)⟩;show Qr0 _ (g2.own b)=_;rw[F];show Qr0 _ (hide (g.own b))=_;rw[x];cases hq:g0.own b<;>rw[hq] at ho<;>first|exact ho.elim|rfl
theorem SR.behindO(h:SR n0 nt g0 w0 σ a w g){j:Option Nat}{i:Nat}{g2:G}{z:World}{M' : Mem}{q : Nat}{r:V}{v:Value}{dst:Option Nat}(S:∀d,dst=some d->d<nt)(Q:MR g2 z M' q)(hr:RV g2 z r (.res []) v)(C:r.on (There M'))(T:MOn (There M') M')(n:Fr σ.nb (g.re (Qqa j i)) w g2 z)(I:σ.nb<=q)(m:∀k,There σ.M k->There M' k)(F:∀k cs,M' k=some (.cells cs)->k<n0->V.ons (· < n0) cs):
  SR n0 nt g0 w0 ⟨Qbe (Quo σ.s j) dst r,M',q⟩ (a.put dst v) z (g2.re (Qr0 (dst.getD 0))):=by
 have l:Kept (g.re (Qqa j i)) w g2 z (There σ.M) Prot:=by
  refine⟨n.imm,fun k y=>?_,fun b hb J=>n.old b J hb⟩;obtain⟨b,hb⟩:=Zab.1 y;exact n.box k (h.mem.box k b hb).1
 have E:∀ℓ i,Prot ℓ->Prot (ℓ.sub i):=by intro ℓ i hp;cases ℓ<;>simp_all[Prot,Owner.sub]
 have B:∀t,j=some t->Quo σ.s j t=(σ.s t).dem:=by rintro t rfl;simp[Quo,Sl.put]
 have A:∀t,j≠some t->Quo σ.s j t=σ.s t:=by
  intro t p;cases j with
  |none=>rfl
  |some W=>simp only[Quo,Sl.put];rw[if_neg];rintro rfl;exact p rfl
 refine⟨Q.re (Qno _) rfl (fun o k=>Q7w),Qf9 (fun d u=>by rw[h.size];exact S d u) (fun t p=>?_) (fun d u=>?_),(Qg9 _ _ _).trans h.size,(Qeo _ _ _).trans h.defers,
  Qga (fun t=>?_) C,fun k cs y=>⟨T k cs y,F k cs y⟩,Zac h.top I,?_⟩
 ·by_cases p:j=some t
  ·rw[B t p];have x:=Qrj (f:=Qqa j i) (Qqb j i) rfl _ _ _ (Qie _ _ .ext _ (h.slots t));have H:=Qdq l E trivial _ _ _ (show Prot (Qqa j i .ext) from trivial) ((Qd3 _).2 (h.onS t)) x;exact Qmf (Qd4 _) (Qrj (Qno _) rfl _ _ _ H)
  ·rw[A t p];have e:Qqa j i (.slot t []) = .hid 0 t []:=by simp[Qqa,p]
   have x:=Qrj (f:=Qqa j i) (Qqb j i) rfl _ _ _ (h.slots t);rw[e] at x;have H:=Qdq l E trivial _ _ _ (show Prot (.hid 0 t []) from trivial) (h.onS t) x;exact Qrj (Qno _) rfl _ _ _ H
 ·have:=Qrj (Qno (dst.getD 0)) rfl _ _ _ hr;simpa[Qr0,u] using this
 ·by_cases p:j=some t
  ·rw[B t p];exact (Qd3 _).2 (Qf8 m _ (h.onS t))
  ·rw[A t p];exact Qf8 m _ (h.onS t)
 ·have R:n0<=σ.nb:=by have:=h.top;omega
  have c:=h.fr;refine⟨n.os.trans c.os,n.tape.trans c.tape,n.output.trans c.output,Zac c.size n.size,⟨fun b o hb=>n.imm.mono b o (c.imm.mono b o hb),fun b o hb=>(n.imm.look b o (c.imm.mono b o hb)).trans (c.imm.look b o hb)⟩,
   fun k y=>(n.box k (by omega)).trans (c.box k y),fun b hb ho=>?_⟩
  obtain⟨x,H,U⟩:=c.old b hb ho;have hp:Prot ((g.re (Qqa j i)).own b):=by
   show Prot (Qqa j i (g.own b));rw[x];cases hq:g0.own b<;>rw[hq] at ho<;>first|exact ho.elim|exact trivial
  obtain⟨O,N,L⟩:=n.old b (Zbk hb c.size) hp;refine⟨?_,N.trans H,fun o=>(L o).trans (U o)⟩;show Qr0 _ (g2.own b)=_;rw[O];show Qr0 _ (Qqa j i (g.own b))=_;rw[x];cases hq:g0.own b<;>rw[hq] at ho<;>first|exact ho.elim|rfl
theorem Q7x(h:SR n0 nt g0 w0 σ a w g)(n:Nat->TypeId)(b:Option Nat):∀(i j k:Nat)(xs:List Operand)(p:List Arg),Qe1 P n k xs=some p->Qun i p=b ->
  RAs (g.re (Qqa b (j+i))) w j (Qzr σ.s i p) (xs.map a.eval)/\V.ons (There σ.M) (Qzr σ.s i p)
 |i,j,k,[],p,hc,q=>by simp[Qe1] at hc;subst hc;cases i<;>exact⟨rfl,trivial⟩
 |0,j,k,x::xs,p,hc,q=>by
  simp only[Qe1] at hc;split at hc<;>cases hc;rename_i ar o d has;obtain⟨u,z⟩:=Qej P h n (k+1) xs o has;obtain⟨A,v⟩:=Qhg P h d;have m:=Q4g (Qqb b (j+0)) rfl Qjz u;have r:RV (g.re (Qqa b (j+0))) w (ar.val σ.s).dem (.slot j []) (a.eval x):=Qmf (Qd4 _) (Qrj (Qqb b (j+0)) rfl _ .ext _ (A .ext));refine⟨⟨_,_,rfl,?_,RAs.of_flat m⟩,?_,z⟩
  ·rcases Qtg P h d with⟨t,rfl,rfl,e,y⟩|⟨_,c,rfl,e,y⟩
   ·have e:RV g w (σ.s t) (.slot t []) (a.eval (.tmp t)):=e;have r:RV (g.re (Qqa b (j+0))) w (σ.s t).dem (.slot j []) (a.eval (.tmp t)):=r;show RV _ _ (σ.s t).top _ _;by_cases ho:∃sz l,σ.s t = .own sz l
    ·obtain⟨sz,l,ho⟩:=ho;rw[ho] at e |-;have:=Qrj (f:=Qqa b (j+0)) (Qqb b (j+0)) rfl _ _ _ e;have e2:Qqa b (j+0) (.slot t []) = .slot j []:=by
      rw[<-q];simp[Qqa,Qun]
     rw[e2] at this;exact this
    ·have e3:(σ.s t).top=(σ.s t).dem:=by
      cases hv:σ.s t<;>first|rfl|exact absurd ⟨_,_,hv⟩ ho
     rw[e3];exact r
   ·exact r
  ·rcases Qtg P h d with⟨t,rfl,rfl,e,y⟩|⟨_,c,rfl,e,y⟩
   ·exact (Q7i _).2 v
   ·exact (Qd3 _).2 v
 |i+1,j,k,x::xs,p,hc,q=>by
  simp only[Qe1] at hc;split at hc<;>cases hc;rename_i ar o d has;obtain⟨A,v⟩:=Qhg P h d;obtain⟨u,z⟩:=Q7x h n b i (j+1) (k+1) xs o has (by simpa[Qun] using q);rw[show j+1+i=j+(i+1) by omega] at u;exact⟨⟨_,_,rfl,Qmf (Qd4 _) (Qrj (Qqb b (j+(i+1))) rfl _ .ext _ (A .ext)),u⟩,(Qd3 _).2 v,z⟩
theorem Qw0{f:FuncId}(hb:Qh0 P f=true)(args:Array Value)(w:World):(callFunc f args).run P w = .ok (.enter f args) w:=by
 unfold Qh0 at hb;cases hf:P.funcs[f]? with
 | none=>simp [hf] at hb
 | some fn =>
  simp only [hf,Option.any_some,Bool.and_eq_true,bne_iff_ne,ne_eq] at hb
  have h1 : (fn.name == "runtime.NumGoroutine") = false := by simpa using hb.2
  have h2:fn.body.isNone=false:=by simp_all
  have h3 : ¬ fn.name = "runtime.NumGoroutine" := hb.2
  have h4:¬ fn.body=none:=by intro e;simp [e] at h2
  simp [callFunc,hf,h3,h4]
theorem Q7y{g:G}{w:World}:∀{xs ys:List V}{us vs:List Value},RFs g w xs us->RFs g w ys vs->RFs g w (xs++ys) (us++vs)
 |[],ys,us,vs,h,k=>by grind [RFs]
 |x::xs,ys,us,vs,⟨u,b,e,r,h⟩,k=>by subst e;exact⟨u,b++vs,by simp,r,Q7y h k⟩
theorem Q7z{g:G}{w:World}:∀{cs:List V}{i:Nat}{us:List Value},RVs g w (V.dems cs) .free i us->RFs g w (V.dems cs) us
 |[],i,us,h=>by simpa[V.dems,RVs,RFs] using h
 |c::cs,i,us,h=>by
  simp only[V.dems,RVs] at h;obtain⟨u,b,rfl,e,d⟩:=h;exact⟨u,b,rfl,fun ℓ=>Qmf (Qd4 c) e,Q7z d⟩
end
end Go.Abs
end
section
namespace Go.Abs
open Go
section
variable{P:Program}{C:Ctx}{g:G}{w:World}{n0 nt:Nat}{g0:G}{w0:World}{σ:St}{a:Act}
theorem Qbc4{T:Tk}{ops:Array Oper}{o:Oper}{c:COp}(hc:Qjy P T nt ops o=some c)(p:c.kind.isCall=true)(h:SR n0 nt g0 w0 σ a w g){f:FuncId}{args:List V}(i:c.callee σ.s=some (f,args))(hb:Qh0 P f=true):
  c.dst=o.dst/\(∀d,o.dst=some d->d<nt)/\∃us:List Value,(execOp a.eval o).run P w = .ok (.enter f us.toArray) w/\RFs g w args us/\(∀x∈args,Flat x)/\V.ons (There σ.M) args:=by
 obtain⟨k,B,tk,j,N,z,v,A⟩ : ∃k B tk,Qjo P T o=some (k,B,tk)/\(∀d,o.dst=some d->d<nt)/\c.dst=o.dst/\c.kind=k/\c.args=B:=by
  unfold Qjy at hc;split at hc<;>try (cases hc;done)
  rename_i k B tk j;split at hc<;>try (cases hc;done)
  rename_i u;simp only[Zc,decide_eq_true_eq] at u;refine⟨k,B,tk,j,fun d N=>?_,?_⟩
  ·grind [Qbg7]
  grind
 refine⟨z,N,?_⟩;rw[v] at p;simp only[COp.callee,v,A] at i;clear z v A hc;have E:∀{k:K},k.isCall=true->(∃f,k = .call f)\/k = .callv:=by intro k j;cases k<;>simp_all[K.isCall]
 have n:∃cl x,o.op = .call cl/\cl.callee = .value x:=by
  unfold Qjo Qzs at j;cases r:o.op<;>rw[r] at j<;>(try simp only at j)
  case call cl =>
   cases n:cl.callee with
   |value x=>grind
   |invoke=>rw[n] at j;cases j
   |builtin b =>
    grind [Option.bind_eq_some_iff,Option.map_eq_some_iff,Option.some.injEq,Prod.mk.injEq,K.isCall]
  all_goals
   exfalso
   (repeat' split at j)<;>first
    |(cases j;done)
    |(simp only[Zas,Zd,Zh,Zf] at j;grind [K.isCall])
 obtain⟨cl,x,r,n⟩:=n;unfold Qjo at j;rw[r] at j;simp only[n] at j;cases x<;>(try simp only at j)<;>try (cases j;done)
 case tmp t =>
  simp only[Zd,Zf] at j;obtain⟨L,has,rfl,rfl,rfl⟩:=j;simp only[Zb,Arg.val] at i;cases hst:σ.s t<;>rw[hst] at i<;>simp only at i<;>try (cases i;done)
  rename_i f' q;simp only[Zh,Zf] at i;obtain⟨rfl,rfl⟩:=i;obtain⟨J,I⟩:=Qej P h _ _ _ _ has;have l:=h.slots t;have y:=h.onS t;rw[hst] at l y;simp only[RV] at l;obtain⟨vs,F,hr⟩:=l;refine⟨cl.args.toList.map a.eval++vs,?_,?_,?_,?_⟩
  ·have H:a.eval (.tmp t) = .func (.func f') #[] vs.toArray:=F;have e:cl.args.map a.eval++vs.toArray=(cl.args.toList.map a.eval++vs).toArray:=by apply Array.ext';simp
   grind [Go.execOp,Go.resolve,Go.Sem.run_bind,Go.Deferred.ofValue,Go.Sem.run_pure,Go.Result.andThen_ok,Go.invoke,Qw0]
  ·exact Q7y J (Q7z (RVs_dem q .ext .free 0 0 vs hr))
  ·grind [Qjz]
  ·exact Qfk.2 ⟨I,(ons_dems q).2 y⟩
 case func f' =>
  split at j<;>try (cases j;done)
  simp only[Zd,Zf] at j;obtain⟨L,has,m,rfl,rfl⟩:=j;cases hco:inL T.co o.dst with
  |true=>rw[hco] at m;subst m;cases p
  |false =>
  rw[hco] at m;have m:K.call f'=_:=m;subst m;simp only[Zh,Zf] at i;obtain⟨rfl,rfl⟩:=i;obtain⟨J,I⟩:=Qej P h _ _ _ _ has;refine⟨cl.args.toList.map a.eval,?_,J,Qjz,I⟩;have H:a.eval (.func f') = .func (.func f') #[] #[]:=rfl;have e:cl.args.map a.eval ++ #[]=(cl.args.toList.map a.eval).toArray:=by apply Array.ext';simp
  grind [Go.execOp,Go.resolve,Go.Sem.run_bind,Go.Deferred.ofValue,Go.Sem.run_pure,Go.Result.andThen_ok,Go.invoke,Qw0]
def Qbh3(P:Program)(g0:G)(w0:World)(C:Ctx):Prop:=Tab P g0 w0/\∀f args M nb r M' b,C f args M nb r M' b->ACalls P f args M nb r M' b
theorem Qbas{T:Tk}{ops:Array Oper}{o:Oper}{c:COp}(hc:Qjy P T nt ops o=some c){f:FuncId}{i:Nat}(r:c.kind = .callO f i)(h:SR n0 nt g0 w0 σ a w g)(hb:Qh0 P f=true):
  c.dst=o.dst/\(∀d,o.dst=some d->d<nt)/\∃us:List Value,(execOp a.eval o).run P w = .ok (.enter f us.toArray) w/\RAs (g.re (Qqa (Qun i c.args) i)) w 0 (Qzr σ.s i c.args) us/\V.ons (There σ.M) (Qzr σ.s i c.args):=by
 obtain⟨k,y,tk,j,z,u,m,v⟩ : ∃k y tk,Qjo P T o=some (k,y,tk)/\(∀d,o.dst=some d->d<nt)/\c.dst=o.dst/\c.kind=k/\c.args=y:=by
  unfold Qjy at hc;split at hc<;>try (cases hc;done)
  rename_i k y tk j;split at hc<;>try (cases hc;done)
  rename_i p;simp only[Zc,decide_eq_true_eq] at p;refine⟨k,y,tk,j,fun d z=>?_,?_⟩
  ·grind [Qbg7]
  grind
 refine⟨u,z,?_⟩;rw[r] at m;subst m;rw[v];clear u r v hc;have l:∃cl g',o.op = .call cl/\cl.callee = .value (.func g'):=by
  unfold Qjo Qzs at j;cases n:o.op<;>rw[n] at j<;>(try simp only at j)
  case call cl =>
   cases l:cl.callee with
   |value x =>
    rw[l] at j;cases x with
    |func g'=>exact⟨cl,g',rfl,l⟩
    |tmp t=>simp at j
    |_=>simp at j
   |invoke=>rw[l] at j;cases j
   |builtin b =>
    grind [Option.bind_eq_some_iff,Option.map_eq_some_iff,Option.some.injEq,Prod.mk.injEq]
  all_goals
   exfalso
   (repeat' split at j)<;>first
    |(cases j;done)
    |(simp only[Zas,Zd,Zh,Zf] at j;grind)
 obtain⟨cl,H,n,l⟩:=l;unfold Qjo at j;rw[n] at j;simp only[l] at j;split at j<;>try (cases j;done)
 simp only[Zd,Zf] at j;obtain⟨F,has,q,rfl,rfl⟩:=j;split at q<;>cases q;obtain⟨A,E⟩:=Q7x P h _ _ _ 0 _ _ _ has rfl;rw[Zz] at A;refine⟨cl.args.toList.map a.eval,?_,A,E⟩;have B:∀f,a.eval (.func f) = .func (.func f) #[] #[]:=fun _=>rfl;have e:cl.args.map a.eval ++ #[]=(cl.args.toList.map a.eval).toArray:=by apply Array.ext';simp
 grind [Go.execOp,Go.resolve,Go.Sem.run_bind,Go.Deferred.ofValue,Go.Sem.run_pure,Go.Result.andThen_ok,Go.invoke,Qw0]
theorem Qbat{T:Tk}{ops:Array Oper}{o:Oper}{c:COp}(hc:Qjy P T nt ops o=some c):
  (o.guard=none/\c.guard=none)\/∃j b t,o.guard=some (j,b)/\(ops[j]?).bind (·.dst)=some t/\c.guard=some (t,b):=by
 unfold Qjy at hc
 grind
theorem Q70{T:Tk}{ops:Array Oper}{o:Oper}{c:COp}(hc:Qjy P T nt ops o=some c):c.dst=o.dst/\∀d,o.dst=some d->d<nt:=by
 unfold Qjy at hc;split at hc<;>try (cases hc;done)
 split at hc<;>try (cases hc;done)
 rename_i b;simp only[Zc,decide_eq_true_eq] at b;have e:∀d,o.dst=some d->d<nt:=fun d e=>by grind [Qbg7]
 grind
theorem Qbh4(h:SR n0 nt g0 w0 σ a w g){T:Tk}{ops:Array Oper}{o:Oper}{c:COp}(hc:Qjy P T nt ops o=some c){b:Bool}(e:c.wanted σ.s=some b):
  Region.wanted o (yielded ops a.tmps)=b:=by
 rcases Qbat hc with⟨l,f⟩|⟨j,i,t,l,f,m⟩
 ·grind [COp.wanted,Option.some.injEq,Go.Region.wanted]
 ·simp only[COp.wanted,m] at e;have d:=h.slots t;cases hs:σ.s t<;>rw[hs] at e d<;>(try simp only at e)<;>try (cases e;done)
  ·rename_i n;cases n<;>(try simp only at e)<;>try (cases e;done)
   rename_i q;simp only[Zh] at e;simp only[RV,RD] at d;have k:yielded ops a.tmps j=some q:=by
    simp only[yielded,f,Za];cases ht:a.tmps[t]? with
    |none=>simp[ht,undef] at d
    |some v =>
     simp_all
   grind [Go.Region.wanted]
  ·rename_i vs;cases vs with
   |cons=>simp at e
   |nil =>
    simp only[Zh] at e;subst e;simp only[RV,RVs] at d;obtain⟨vs,p,rfl⟩:=d;have k:yielded ops a.tmps j=none:=by
     simp only[yielded,f,Za];cases ht:a.tmps[t]? with
     |none=>rfl
     |some v=>simp_all
    simp[Region.wanted,l,k]
theorem Q66{T:Tk}{o:Oper}{k:K}{c:List Arg}{tk:Bool}(b:Qjo P T o=some (k,c,tk))(n:k.isNil=true)(j:∀f i,k ≠ .callO f i):
  ∃op t x ar e,o.op = .binOp op t x (.const (.slice none 0 0)) (match o.op with | .binOp _ _ _ _ yt=>yt|_=>0)/\Qgj P t x=some ar/\c=[ar]/\tk=false/\P.underlying t=some (.slice e)/\(op = .eql/\k = .isnil false\/op = .neq/\k = .isnil true):=by
 unfold Qjo Qzs at b;cases hop:o.op<;>rw[hop] at b<;>(try simp only at b)
 case binOp op t x y yt =>
  split at b<;>try (cases b;done)
  rename_i m l h d;split at b<;>try (cases b;done)
  ·grind
  all_goals grind [Option.bind_eq_some_iff,Option.map_eq_some_iff,Option.some.injEq,Prod.mk.injEq,K.isNil]
 all_goals
  grind [Option.bind_eq_some_iff,Option.map_eq_some_iff,Option.some.injEq,Prod.mk.injEq,K.isNil]
theorem Q9e(hC:Qbh3 P g0 w0 C){T:Tk}{ops:Array Oper}{o:Oper}{c:COp}(hc:Qjy P T nt ops o=some c){pc:Nat}{Q:St->Prop}(h:SR n0 nt g0 w0 σ a w g)(j:c.run C n0 pc σ Q){KK:Act->World->Prop}{QQ:Exit->Act->World->Prop}(hK:∀N a' w' g',Q N->SR n0 nt g0 w0 N a' w' g'->KK a' w'):
  if Region.wanted o (yielded ops a.tmps) then o.wp P a w KK QQ else KK (a.put o.dst undef) w:=by
 obtain⟨E,hd⟩:=Q70 hc;unfold COp.run at j;cases hw:c.wanted σ.s with
 |none=>grind
 |some b =>
  rw[Qbh4 h hc hw];rw[hw] at j;cases b with
  |false =>
   simp only[Zg,if_false];refine hK _ _ _ g j ?_;rw[E];exact h.pure hd (fun _ _=>by simp[RV,RVs,undef]) trivial
  |true =>
   simp only[if_true] at j |-;cases hcall:c.kind.isCall with
   |true =>
    rw[hcall] at j;simp only[if_true] at j;cases hcal:c.callee σ.s with
    |none=>grind
    |some fa =>
     obtain⟨f,args⟩:=fa;rw[hcal] at j;simp only at j;have key:∀r M nb,C f args σ.M σ.nb r M nb->(∀k,(σ.M k).isSome=true->(M k).isSome=true)->(∀k cs,k<n0->M k=some (.cells cs)->M k=σ.M k\/V.lt.go n0 cs=true)->Q ⟨Qbe σ.s c.dst r,M,nb⟩->o.wp P a w KK QQ:=by
      intro r M nb hCc z F hq;obtain⟨A,R,q⟩:=hC.2 _ _ _ _ _ _ _ hCc;obtain⟨_,_,us,X,O,hfl,H⟩:=Qbc4 hc hcall h hcal A;unfold Oper.wp;rw[X];have hm:=h.mem.re Q9d rfl (fun o k=>Qblf);have hus':=Q4g Q9d rfl hfl O;refine (q w (g.re hide) us ((hC.1.fr h.fr).re rfl) hm h.mOn (RAs.of_flat hus') H).mono ?_;rintro e w' ⟨v,g',rfl,hm',hr',hron,hMon,hfr⟩;refine hK _ _ _ (g'.re (Qr0 (o.dst.getD 0))) hq ?_;rw[E];refine h.behind hd hm' hr' hron hMon hfr R z fun k cs p y=>?_;rcases F k cs y p with he|hl
      ·exact h.out k cs (he ▸ p) y
      ·exact ons_lt cs hl
     match pc,j with
     |0,⟨r,M,nb,J,L,h3,h4⟩=>grind
     |1,⟨r,Δ,nb,J,h4⟩ =>
      have U:∀k,(σ.M k).isSome=true->k<σ.nb:=fun k p=>by
       obtain⟨b,hb⟩:=Zab.1 p;exact (h.mem.box k b hb).1
      refine key r (σ.M.over σ.nb Δ) nb (J σ.M (fun _ _=>rfl) fun k p=>?_) (fun k p=>?_) (fun k cs y p=>.inl ?_) h4
      ·cases hM:σ.M k with
       |none=>rfl
       |some b=>grind
      ·simp only[Mem.over,U k p,if_true];exact p
      ·have:=h.top;simp only[Mem.over,show k<σ.nb by omega,if_true]
     |n+2,j =>
      have j:(if n<8 then _ else _):=j;split at j
      ·grind
      ·obtain⟨r,W,Δ,nb,_,hW,hW2,J,h4⟩:=j;have U:∀k,(σ.M k).isSome=true->k<σ.nb:=fun k p=>by
        obtain⟨b,hb⟩:=Zab.1 p;exact (h.mem.box k b hb).1
       refine key r ((σ.M.patch W).over σ.nb Δ) nb (J σ.M (fun _ _=>rfl) fun k p=>?_) (fun k p=>?_) (fun k cs y p=>?_) h4
       ·cases hM:σ.M k with
        |none=>rfl
        |some b=>grind
       ·simp only[Mem.over,U k p,if_true,Mem.patch]
        grind
       ·have:=h.top;simp only[Mem.over,show k<σ.nb by omega,if_true,Mem.patch] at p |-
        grind
   |false =>
    rw[hcall] at j;simp only[Zg,if_false] at j;cases hnil:c.kind.isNil with
    |true =>
     rw[hnil] at j;simp only[if_true] at j;by_cases hO:∃f i,c.kind = .callO f i
     ·obtain⟨f,i,hO⟩:=hO;simp only[COp.runN,hO] at j;obtain⟨_,r,M,nb,hCc,z,F,hq⟩:=j;obtain⟨A,R,q⟩:=hC.2 _ _ _ _ _ _ _ hCc;obtain⟨_,_,us,X,O,H⟩:=Qbas hc hO h A;unfold Oper.wp;rw[X];have hm:=h.mem.re (f:=Qqa (Qun i c.args) i) (Qqb _ _) rfl (fun o k=>Qbh2);refine (q w _ us ((hC.1.fr h.fr).re rfl) hm h.mOn O H).mono ?_;rintro e w' ⟨v,g',rfl,hm',hr',hron,hMon,hfr⟩;refine hK _ _ _ (g'.re (Qr0 (o.dst.getD 0))) hq ?_;rw[E];refine h.behindO hd hm' hr' hron hMon hfr R z fun k cs p y=>?_;rcases F k cs y p with he|hl
      ·exact h.out k cs (he ▸ p) y
      ·exact ons_lt cs hl
     have j:(match Q4t (c.xs σ.s) with
      |some n=>∀b:Bool,(b=true->n=0)->Q { σ with s:=Qbe σ.s c.dst (.d (.bool (if c.kind.negNil then !b else b))) }
      | none=>False):=by
      unfold COp.runN at j;split at j
      ·rename_i f i S;exact absurd ⟨f,i,S⟩ hO
      ·exact j
     obtain⟨k,as,tk,p,I,hca,hct⟩ : ∃k as tk,Qjo P T o=some (k,as,tk)/\c.kind=k/\c.args=as/\c.tk=tk:=by
      unfold Qjy at hc
      grind
     obtain⟨op,t,x,ar,e,hop,har,rfl,rfl,hu,S⟩:=Q66 p (by rw[<-I];exact hnil) (fun f i e=>hO ⟨f,i,by rw[I];exact e⟩);obtain⟨J,L⟩:=Qhg P h har;simp only[COp.xs,hct,hca,Zg,if_false,Zb,Zi,V.dems] at j;have hsl:∃(m:Nat)(B:Option Addr)(ln u:Nat),Q4t [(ar.val σ.s).dem]=some m/\a.eval x = .slice B ln u/\(B.isNone=true->m=0):=by
      have ofD:∀(l:List (List D))(sz:Nat),RD g.imm w (.lst sz l) (a.eval x)->∃(B:Option Addr)(ln u:Nat),a.eval x = .slice B ln u/\(B.isNone=true->l.length=0):=by
       intro l sz hrd;simp only[RD] at hrd
       grind
      cases hv:(ar.val σ.s).dem<;>rw[hv] at j J<;>(try (simp[Q4t] at j;done))
      ·rename_i dx;cases dx<;>(try (simp[Q4t] at j;done));obtain⟨B,ln,u,k1,k2⟩:=ofD _ _ (RF_d.1 J);exact⟨_,B,ln,u,rfl,k1,k2⟩
      ·grind [Qd4,V.dem]
      ·have L:=J .free;simp only[RV] at L;obtain⟨B,L⟩:=L;exact⟨0,B,0,0,rfl,L,fun _=>rfl⟩
      ·have L:=J .free;simp only[RV] at L
       grind
     obtain⟨m,B,ln,u,hl,hval,hld⟩:=hsl;rw[hl] at j;simp only at j;have hb:=j B.isNone hld;have hres:(execOp a.eval o).run P w = .ok (.value (.bool (if c.kind.negNil then !B.isNone else B.isNone))) w:=by
      simp only[execOp];rw[hop];simp only;refine Qio P _ ?_;have hev:a.eval (.const (.slice none 0 0)) = .slice none 0 0:=rfl;rw[hval,hev,Sem.run_bind,Quu P _ _ _ _ _ _ rfl w,Result.andThen_ok];rcases S with⟨rfl,rfl⟩|⟨rfl,rfl⟩
      ·rw[I];exact Lib.run_eql_slice_nil w t e B ln u 0 0 hu
      ·rw[I];exact run_neq_slice_nil_any w t e B ln u 0 0 hu
     unfold Oper.wp;rw[hres];refine hK _ _ _ g hb ?_;rw[E];exact h.pure hd (fun _ _=>by simp[RV,RD]) trivial
    |false =>
     rw[hnil] at j;simp only[Zg,if_false] at j;cases hst:c.step n0 σ with
     |none=>grind
     |some N =>
      rw[hst] at j;exact (Qbf8 P hc hcall hnil h hst).wp P fun a' w' g' hs=>hK _ _ _ g' j hs
end
end Go.Abs
end
section
namespace Go.Abs
open Go
def CallStp(C:Ctx)(n0 pc:Nat)(d:Option Nat)(f:FuncId)(args:List V)(M:Mem)(nb:Nat)(r:V)(M' : Mem)(a : Nat):Prop :=
 match pc with
 |0=>C f args M nb r M' a/\(∀k,(M k).isSome=true->(M' k).isSome=true)/\(∀k cs,k<n0->M' k=some (.cells cs)->M' k=M k\/V.lt.go n0 cs=true)
 |1=>∃c,(∀b:Mem,(∀k,(M k).isSome=true->b k=M k)->(∀k,nb<=k->b k=none)->C f args b nb r (b.over nb c) a)/\M'=M.over nb c
 |n+2=>if n<8 then (∀M nb,C f args M nb r M nb)/\M'=M/\a=nb
  else ∃W c,(wrs (n-8) d=true\/∀k,W k=none)/\(∀k,(W k).isSome=true->(M k).isSome=true)/\(∀k cs,k<n0->W k=some (.cells cs)->V.lt.go n0 cs=true) /\
   (∀b:Mem,(∀k,(M k).isSome=true->b k=M k)->(∀k,nb<=k->b k=none)->C f args b nb r ((b.patch W).over nb c) a)/\M'=(M.patch W).over nb c
def Core(C:Ctx)(n0 pc:Nat)(o:COp)(s:Sl)(M:Mem)(nb:Nat)(v:V)(M' : Mem)(a : Nat):Prop :=
 match o.wanted s with
 |some true =>
  if o.kind.isCall then ∃f args,o.callee s=some (f,args)/\CallStp C n0 pc o.dst f args M nb v M' a
  else if o.kind.isNil then False
  else Ql n0 (n0+o.dst.getD 0) o.kind (o.xs s) M=some (v,M')/\a=nb
 |some false=>v = .tup []/\M'=M/\a=nb
 |none=>False
def pv(o:COp)(s:Sl):List V:=if o.wanted s=some true/\o.kind.isCall=false/\o.tk=true then Qb2 o.kind (o.xs s) else []
def Stp(C:Ctx)(n0 pc:Nat)(o:COp)(σ a : St):Prop :=
 ∃v,Core C n0 pc o σ.s σ.M σ.nb v a.M a.nb/\a.s=Qbe (Q5 σ.s o.args (pv o σ.s)) o.dst v
theorem Qeg(s:Sl)(a:List Arg):Q5 s a []=s:=by cases a<;>rfl
theorem Qbnk{C:Ctx}{n0 pc:Nat}{o:COp}{σ:St}{Q:St->Prop}(j:o.kind.isNil=false)(h:o.run C n0 pc σ Q):∃a,Stp C n0 pc o σ a/\Q a:=by
 unfold COp.run at h;cases hw:o.wanted σ.s with
 |none=>grind
 |some b =>
  rw[hw] at h;cases b with
  |false =>
   refine⟨_,⟨.tup [],?_,?_⟩,h⟩
   ·simp[Core,hw]
   ·simp[pv,hw,Qeg]
  |true =>
   simp only at h;cases hcall:o.kind.isCall with
   |true =>
    rw[hcall] at h;simp only[if_true] at h;cases hcal:o.callee σ.s with
    |none=>grind
    |some p =>
     obtain⟨f,args⟩:=p;rw[hcal] at h;simp only at h;have c:pv o σ.s=[]:=by simp[pv,hcall]
     match pc,h with
     |0,⟨r,M,nb,g,l,k,d⟩=>exact⟨_,⟨r,by simp only[Core,hw,hcall,if_true];exact⟨f,args,hcal,g,l,k⟩,by rw[c,Qeg]⟩,d⟩
     |1,⟨r,i,nb,g,d⟩=>exact⟨_,⟨r,by simp only[Core,hw,hcall,if_true];exact⟨f,args,hcal,i,g,rfl⟩,by rw[c,Qeg]⟩,d⟩
     |n+2,h =>
      have h:(if n<8 then _ else _):=h;by_cases e:n<8
      ·rw[if_pos e] at h;obtain⟨r,g,d⟩:=h;exact⟨_,⟨r,by simp only[Core,hw,hcall,if_true];exact⟨f,args,hcal,(by show (if n<8 then _ else _);grind)⟩,by rw[c,Qeg]⟩,d⟩
      ·rw[if_neg e] at h;obtain⟨r,W,i,nb,g,l,k,q,d⟩:=h;exact⟨_,⟨r,by simp only[Core,hw,hcall,if_true];exact⟨f,args,hcal,(by show (if n<8 then _ else _);grind)⟩,by rw[c,Qeg]⟩,d⟩
   |false =>
    rw[hcall,j] at h;simp only[Zg,if_false] at h;cases hst:o.step n0 σ with
    |none=>grind
    |some a =>
     rw[hst] at h;refine⟨a,?_,h⟩;unfold COp.step at hst;simp only at hst;split at hst<;>cases hst;rename_i v M m;refine⟨v,by simp[Core,hw,hcall,j,m],?_⟩
     grind [pv,Qeg]
theorem Qbh5{C:Ctx}{n0 pc:Nat}{o:COp}{σ a : St}{Q:St->Prop}(h:Stp C n0 pc o σ a)(i:Q a):o.run C n0 pc σ Q:=by
 obtain⟨v,hc,g⟩:=h;unfold Core at hc;unfold COp.run;cases hw:o.wanted σ.s with
 |none=>grind
 |some b =>
  rw[hw] at hc;cases b with
  |false =>
   obtain⟨rfl,e,d⟩:=hc;simp only[pv,hw] at g;simp[Qeg] at g;show Q _;rw[<-g,<-d,<-e];exact i
  |true =>
   simp only at hc |-;cases hcall:o.kind.isCall with
   |true =>
    rw[hcall] at hc;simp only[if_true] at hc |-;obtain⟨f,args,k,c⟩:=hc;rw[k];simp only;have q:pv o σ.s=[]:=by simp[pv,hcall]
    rw[q,Qeg] at g
    match pc,c with
    |0,⟨e,d,l⟩=>exact⟨v,a.M,a.nb,e,d,l,by rw[<-g];exact i⟩
    |1,⟨m,e,d⟩=>exact⟨v,m,a.nb,e,by rw[<-g,<-d];exact i⟩
    |n+2,c =>
     have c:(if n<8 then _ else _):=c;show (if n<8 then _ else _);by_cases j:n<8
     ·rw[if_pos j] at c |-;obtain⟨e,d,l⟩:=c;exact⟨v,e,by rw[<-g,<-d,<-l];exact i⟩
     ·rw[if_neg j] at c |-;obtain⟨W,m,e,d,l,t,r⟩:=c;exact⟨v,W,m,a.nb,e,d,l,t,by rw[<-g,<-r];exact i⟩
   |false =>
    rw[hcall] at hc;simp only[Zg,if_false] at hc |-;cases hn:o.kind.isNil with
    |true=>grind
    |false =>
     rw[hn] at hc;simp only[Zg,if_false] at hc |-;obtain⟨e,d⟩:=hc;have:o.step n0 σ=some a:=by
      unfold COp.step;simp only[e,Zh];have p : a.s=Qbe (if o.tk=true then Q5 σ.s o.args (Qb2 o.kind (o.xs σ.s)) else σ.s) o.dst v:=by
       grind [pv,Qeg]
      rw[<-p,<-d]
     rw[this];exact i
theorem Qbh6(s:Sl){t u:Nat}(v x:V)(h:t≠u):(s.put t v).put u x=(s.put u x).put t v:=by
 grind [Sl.put]
theorem Quz:∀(b:List Arg)(vs:List V)(s:Sl)(t:Nat)(x:V),(∀a∈b,t∉a.slot)->Q5 (s.put t x) b vs=(Q5 s b vs).put t x
 |[],_,_,_,_,_=>by simp[Q5]
 |a::b,[],_,_,_,_=>rfl
 |a::b,v::vs,s,t,x,h=>by
  simp only[Q5];have ha:=h a (by simp);cases a with
  |c w=>exact Quz b vs s t x fun a e=>h a (by simp[e])
  |t i =>
   have d:t≠i:=by simpa[Arg.slot] using ha
   simp only[Arg.putTo];rw[Qbh6 _ _ _ d];exact Quz b vs (s.put i v) t x fun a e=>h a (by simp[e])
theorem Qw1:∀(bs:List Arg)(ws:List V)(s:Sl)(d:List Arg)(vs:List V),(∀a∈d,∀b∈bs,∀t∈b.slot,t∉a.slot)->Q5 (Q5 s bs ws) d vs=Q5 (Q5 s d vs) bs ws
 |[],_,_,_,_,_=>by simp[Q5]
 |b::bs,[],_,_,_,_=>rfl
 |b::bs,w::ws,s,d,vs,h=>by
  simp only[Q5];rw[Qw1 bs ws _ d vs fun a ha f e=>h a ha f (by simp[e])];congr 1;cases b with
  |c w=>rfl
  |t i =>
   simp only[Arg.putTo];exact Quz d vs s i w fun a ha=>h a ha (.t i) (by simp) i (by simp[Arg.slot])
theorem Qu0:∀(b:List Arg)(vs:List V)(s:Sl)(t:Nat),(∀a∈b,t∉a.slot)->Q5 s b vs t=s t
 |[],_,_,_,_=>by simp[Q5]
 |a::b,[],_,_,_=>rfl
 |a::b,v::vs,s,t,h=>by
  simp only[Q5];rw[Qu0 b vs _ t fun a e=>h a (by simp[e])];have ha:=h a (by simp);cases a with
  |c w=>rfl
  |t i =>
   have d:t≠i:=by simpa[Arg.slot] using ha
   simp[Arg.putTo,Sl.put,d]
theorem Qbau(k:K)(xs:List V):V.dems (Qb2 k xs)=V.dems xs:=by
 unfold Qb2;split<;>simp[V.dems,Qd4,dems_dems];rename_i i vs;split
 ·rename_i v b;simp only[V.dem];congr 1;have:∀(vs:List V)(i:Nat)(v:V),vs[i]? = some v->V.dems (vs.set i v.dem)=V.dems vs:=by
   intro vs
   induction vs with
   |nil=>intro i v h;simp at h
   |cons a vs c =>
    intro i v h;cases i with
    |zero=>grind [V.dems,Qd4]
    |succ i=>grind [V.dems]
  exact this vs i v b
 ·rfl
theorem Qmg:∀vs:List V,V.dems vs=vs.map V.dem
 |[]=>rfl
 |v::vs=>by simp[V.dems,Qmg vs]
theorem Q5h:∀(b:List Arg)(vs:List V)(s:Sl),V.dems vs=V.dems (b.map (·.val s))\/vs=[]->∀t,(Q5 s b vs t).dem=(s t).dem:=by
 intro b vs s h;rcases h with h|rfl
 case inr=>intro t;rw[Qeg]
 suffices H:∀(b:List Arg)(vs:List V)(s s0:Sl),(∀t,(s t).dem=(s0 t).dem)->V.dems vs=V.dems (b.map (·.val s0))->∀t,(Q5 s b vs t).dem=(s0 t).dem from H b vs s s (fun _=>rfl) h
 intro b
 induction b with
 |nil=>simp_all[Q5]
 |cons a b f =>
  intro vs s s0 e d t;cases vs with
  |nil=>exact e t
  |cons v vs =>
   simp only[Zb,V.dems,Zo] at d;simp only[Q5];refine f vs _ s0 (fun t=>?_) d.2 t;cases a with
   |c w=>exact e t
   |t i =>
    simp only[Arg.putTo,Sl.put];split
    ·rename_i g;subst g;exact d.1
    ·exact e t
def Alike(o:COp)(s b : Sl):Prop :=
 (∀t w,o.guard=some (t,w)->b t=s t)/\∀a∈o.args,if o.tk then a.val b=a.val s else (a.val b).dem=(a.val s).dem
theorem Alike.wanted{o:COp}{s a : Sl}(h:Alike o s a):o.wanted a=o.wanted s:=by
 unfold COp.wanted;split
 ·rfl
 ·rename_i t w b;rw[h.1 t w b]
theorem Alike.xs{o:COp}{s a : Sl}(h:Alike o s a):o.xs a=o.xs s:=by
 unfold COp.xs;have b:=h.2;split
 all_goals simp_all[if_true,List.map_congr_left,Qmg,Zap]
theorem Alike.dems{o:COp}{s b : Sl}(h:Alike o s b):V.dems (o.args.map (·.val b))=V.dems (o.args.map (·.val s)):=by
 rw[Qmg,Qmg,Zap,Zap];refine List.map_congr_left fun a ha=>?_;have c:=h.2 a ha
 grind
theorem Qbh7{v:V}{f:FuncId}{cs:List V}:v.dem = .clo f cs↔v = .clo f cs:=by
 cases v<;>simp[V.dem]
theorem Qbc5{o:COp}{s b : Sl}(h:V.dems (o.args.map (·.val b))=V.dems (o.args.map (·.val s))):o.callee b=o.callee s:=by
 unfold COp.callee;split
 ·rw[h]
 ·revert h;generalize o.args.map (·.val b)=a;generalize o.args.map (·.val s)=xs;intro h;cases xs with
  |nil =>
   grind [V.dems]
  |cons x xs =>
   cases a with
   |nil=>simp[V.dems] at h
   |cons c a =>
    simp only[V.dems,Zo] at h;obtain⟨e,i⟩:=h;by_cases d:∃f cs,x = .clo f cs
    ·obtain⟨f,cs,rfl⟩:=d;have:c = .clo f cs:=Qbh7.1 (e.trans rfl)
     grind
    ·have g : ¬ ∃f cs,c = .clo f cs:=by
      rintro⟨f,cs,rfl⟩;exact d ⟨f,cs,Qbh7.1 (e.symm.trans rfl)⟩
     grind
 ·rfl
theorem Alike.core{C:Ctx}{n0 pc:Nat}{o:COp}{s b : Sl}(h:Alike o s b){M:Mem}{nb:Nat}{v:V}{M' : Mem}{a : Nat}(hc:Core C n0 pc o s M nb v M' a):Core C n0 pc o b M nb v M' a:=by
 unfold Core at *
 rw[h.wanted,h.xs,Qbc5 h.dems];exact hc
theorem Alike.pv{o:COp}{s a : Sl}(h:Alike o s a):Abs.pv o a=Abs.pv o s:=by
 unfold Abs.pv;rw[h.wanted,h.xs]
theorem Qbh8(o:COp)(s:Sl):V.dems (pv o s)=V.dems (o.args.map (·.val s))\/pv o s=[]:=by
 unfold pv;split
 ·rename_i h;left;rw[Qbau];simp[COp.xs,h.2.2]
 ·exact .inr rfl
theorem Qip{o:COp}{t:Nat}:t∈o.argSlots↔∃a∈o.args,t∈a.slot:=by simp[COp.argSlots]
theorem Qnp{a b:List Nat}(h:Q3j a b=true){x:Nat}(c:x∈a):x∉b:=by
 grind [Q3j,List.all_eq_true,Bool.not_eq_true',decide_eq_false_iff_not]
theorem Q5i{a b:COp}(p:∀d,a.dst=some d->d∉b.reads)(o:a.tk=true->b.tk=true->∀t∈a.argSlots,t∉b.argSlots)(n:a.tk=true->∀t∈a.argSlots,∀u w,b.guard=some (u,w)->t≠u)(s:Sl)(v:V):Alike b s (Qbe (Q5 s a.args (pv a s)) a.dst v):=by
 have h:∀t,t∈b.reads->Qbe (Q5 s a.args (pv a s)) a.dst v t=Q5 s a.args (pv a s) t:=by
  intro t g;cases h:a.dst with
  |none=>rfl
  |some d =>
   have:t≠d:=fun e=>p d h (e ▸ g);simp[Qbe,Sl.put,this]
 refine⟨fun t w k=>?_,fun x l=>?_⟩
 ·rw[h t (by simp[COp.reads,k])];by_cases g:a.tk=true
  ·exact Qu0 _ _ _ _ fun y j f=>n g t (Qip.2 ⟨y,j,f⟩) t w k rfl
  simp_all[pv,Qeg]
 ·cases x with
  |c w=>simp[Arg.val]
  |t i =>
   have m:i∈b.reads:=by grind [COp.reads,Qip,Arg.slot]
   simp only[Arg.val];rw[h i m];split
   ·rename_i hb;by_cases g:a.tk=true
    ·exact Qu0 _ _ _ _ fun y j f=>o g hb i (Qip.2 ⟨y,j,f⟩) (Qip.2 ⟨_,l,by simp[Arg.slot]⟩)
    simp_all[pv,Qeg]
   ·exact Q5h _ _ _ (Qbh8 a s) i
theorem Q9f(s:Sl){x y:Option Nat}(v u:V)(h:∀d,x=some d->y≠some d):Qbe (Qbe s x v) y u=Qbe (Qbe s y u) x v:=by
 cases x with
 |none=>rfl
 |some t =>
  cases y with
  |none=>rfl
  |some a=>exact Qbh6 s v u fun e=>h t rfl (by rw[e])
theorem Qzl(b:List Arg)(vs:List V)(s:Sl){x:Option Nat}(v:V)(h:∀d,x=some d->∀a∈b,d∉a.slot):Q5 (Qbe s x v) b vs=Qbe (Q5 s b vs) x v:=by
 cases x with
 |none=>rfl
 |some t=>exact Quz b vs s t v (h t rfl)
theorem Qbf9{a b:COp}(h:a.slotsApart b=true)(s:Sl)(j i:V):
  let s1:=Qbe (Q5 s a.args (pv a s)) a.dst j;let e:=Qbe (Q5 s b.args (pv b s)) b.dst i
  Alike b s s1/\Alike a s e/\Qbe (Q5 s1 b.args (pv b s1)) b.dst i=Qbe (Q5 e a.args (pv a e)) a.dst j:=by
 simp only[COp.slotsApart,Zc,Zat,Bool.not_eq_true'] at h;obtain⟨⟨⟨⟨⟨C,B⟩,A⟩,J⟩,g⟩,I⟩:=h;have v:∀d,a.dst=some d->d∉b.reads:=fun d c=>Qnp C (by simp[c]);have e2:∀d,a.dst=some d->b.dst≠some d:=fun d c hb=>Qnp B (x:=d) (by simp[c]) (by simp[hb]);have e3:∀d,b.dst=some d->d∉a.reads:=fun d c=>Qnp A (by simp[c]);have e4:a.tk=true->b.tk=true->∀t∈a.argSlots,t∉b.argSlots:=fun ha hb t f=>by
  grind [Qnp,COp.soft]
 have H:a.tk=true->∀t∈a.argSlots,∀u w,b.guard=some (u,w)->t≠u:=fun ha t f u w r=>by
  rcases g with g|g
  ·rw[ha] at g;cases g
  ·have:=Qnp g (x:=t) (by simpa[COp.soft,ha] using f);simpa[r] using this
 have F:b.tk=true->∀t∈b.argSlots,∀u w,a.guard=some (u,w)->t≠u:=fun hb t f u w r=>by
  grind [Qnp,COp.soft]
 have q:=Q5i v e4 H s j;have p:=Q5i e3 (fun hb ha t f E=>e4 ha hb t E f) F s i;refine⟨q,p,?_⟩;rw[q.pv,p.pv];rw[Qzl _ _ _ _ fun d c x k o=>v d c (by grind [COp.reads,Qip]),
  Qzl _ _ _ _ fun d c x k o=>e3 d c (by grind [COp.reads,Qip]),
  Q9f _ _ _ e2]
 congr 2;by_cases ha:pv a s=[]
 ·rw[ha,Qeg,Qeg]
 ·by_cases hb:pv b s=[]
  ·rw[hb,Qeg,Qeg]
  ·have n:a.tk=true:=by
    grind [absurd,pv]
   have m:b.tk=true:=by
    grind [absurd,pv]
   exact Qw1 _ _ _ _ _ fun x k y z t f l=>e4 n m t (Qip.2 ⟨y,z,f⟩) (Qip.2 ⟨x,k,l⟩)
end Go.Abs
end
section
namespace Go.Abs
open Go
theorem Qbga{n0 κ:Nat}{k:K}{xs:List V}{M M' : Mem}{v:V}(f:k.eff = .pure)(h:Ql n0 κ k xs M=some (v,M')):M'=M/\∀a,Ql n0 κ k xs a=some (v,a):=by
 cases k
 case blit sz n z ps =>
  have e:∀M,Ql n0 κ (.blit sz n z ps) xs M=(if ps.length=xs.length&&decide (0<sz)&&z.length==sz&&(ps.zip xs).all (fun(i,x)=>Qei x&&x.cells.length==sz&&decide (i<n))
   then (toDs (Qi4 (rep n z) ((ps.zip xs).map fun(i,x)=>(i*sz,x.cells)))).map fun ds=>(V.d (.lst sz (Qi3 sz n ds)),M) else none):=fun M=>by cases xs<;>rfl
  rw[e] at h;split at h<;>try (cases h;done)
  rename_i hc;simp only[Zd,Zf] at h;obtain⟨ds,c,rfl,rfl⟩:=h;exact⟨rfl,fun a=>by rw[e,if_pos hc,c];rfl⟩
 all_goals simp only[K.eff] at f<;>(try cases f)<;>unfold Ql at h<;>(split at h<;>try (cases h;done))<;>(try (rename_i b;cases b))
 all_goals simp only[Ql]
 all_goals (repeat' split at h)<;>first
  |(cases h;done)
  |(simp only[Zh,Zf] at h;obtain⟨rfl,rfl⟩:=h;simp_all;done)
  |(simp only[Zd,Zf] at h;obtain⟨x,l,j,g⟩:=h;subst j g;simp_all;done)
  |(cases h;exact⟨rfl,fun a=>if_pos (by assumption)⟩)
  |(dsimp only at h;split at h<;>cases h;exact⟨rfl,fun a=>if_pos (by assumption)⟩)
  |(cases h;subst_vars;exact⟨rfl,fun a=>by rw[if_pos rfl,if_neg (by assumption)]⟩)
  |skip
def dmV:V->V
 |.own sz l=>.d (.lst sz l)
 |v=>v
theorem Qbnl{u:V}(h:u.mv=true):u.dem=dmV u:=by
 rcases Qrx h with h|⟨sz,l,rfl⟩
 ·rw[Qww h];cases u<;>first|rfl|simp[V.dat] at h
 ·rfl
theorem Qbou{u a:V}(h:u.mv=true)(b:dmV a=dmV u):a.mv=true:=by
 cases a with
 |own _ _=>rfl
 |_ =>
  rcases Qrx h with h|⟨sz,l,rfl⟩
  ·have:dmV u=u:=by cases u<;>first|rfl|simp[V.dat] at h
   grind [dmV,Qzh]
  ·simp only[dmV] at b
   first|(cases b;rfl)|(cases b;done)
def dmE(e:V×V×Nat):V×V×Nat:=(e.1,dmV e.2.1,e.2.2)
theorem Qbc6{kd:MK}:∀{es:List (V×V×Nat)},kd.all (es.map dmE)=kd.all es
 |[]=>rfl
 |e::es=>by
  have:=Qbc6 (kd:=kd) (es:=es);simp only[MK.all] at this |-;simp only[Zb,Zbc,this,dmE]
theorem Q9g{key:V}:∀{es:List (V×V×Nat)},Qhf key (es.map dmE)=(Qhf key es).map fun p=>(p.1,dmV p.2)
 |[]=>rfl
 |(k,v,b)::es=>by
  simp only[Zb,dmE,Qhf];split
  ·rfl
  ·rw[Q9g];cases Qhf key es<;>rfl
theorem Q5j{key:V}:∀{es:List (V×V×Nat)}{i:Nat}{u:V},Qhf key es=some (i,u)->∃e,es[i]? = some e/\e.2.1=u
 |[],i,u,h=>by simp[Qhf] at h
 |(k,v,b)::es,i,u,h=>by
  simp only[Qhf] at h;split at h
  ·cases h;exact⟨_,rfl,rfl⟩
  ·cases hf:Qhf key es with
   |none=>rw[hf] at h;cases h
   |some p=>rw[hf] at h;cases h;simpa using Q5j hf
theorem Qbh9{sz:Nat}{l:List (List D)}:∀{es:List (V×V×Nat)}{i:Nat}{e:V×V×Nat},es[i]? = some e->e.2.1 = .own sz l->(modM e.1 (.d (.lst sz l)) i es).map dmE=es.map dmE
 |[],i,e,h,_=>by simp at h
 |(k,v,b)::es,0,e,h,a=>by
  grind [modM,dmE,dmV]
 |(k,v,b)::es,i+1,e,h,a=>by
  simp only[modM,Zb,Qbh9 (show es[i]? = some e from by simpa using h) a]
def Bx.dm:Bx->Bx
 |.cells cs=>.cells (V.dems cs)
 |.mp es c=>.mp (es.map fun e=>(e.1,dmV e.2.1,e.2.2)) c
def Qqc(p:Nat->Prop)(M a:Mem):Prop:=∀k,p k->(a k).map Bx.dm=(M k).map Bx.dm
theorem Qbnm(v:V):v.dem.toD=v.toD:=by cases v<;>rfl
theorem Q5k:∀vs:List V,toDs (V.dems vs)=toDs vs
 |[]=>rfl
 |v::vs=>by simp[V.dems,toDs,Qbnm,Q5k vs]
theorem Qbej{M a:Mem}{k:Nat}{cs:List V}(h:(a k).map Bx.dm=(M k).map Bx.dm)(c:M k=some (.cells cs)):∃cs',a k=some (.cells cs')/\V.dems cs'=V.dems cs:=by
 rw[c] at h;cases h2:a k with
 |none=>rw[h2] at h;simp at h
 |some b =>
  rw[h2] at h;cases b with
  |cells cs'=>exact⟨cs',rfl,by simpa[Bx.dm] using h⟩
  |mp es=>simp[Bx.dm] at h
theorem Qbov{M e:Mem}{k:Nat}{es:List (V×V×Nat)}{c:Nat}(h:(e k).map Bx.dm=(M k).map Bx.dm)(f:M k=some (.mp es c)):∃a,e k=some (.mp a c)/\a.map dmE=es.map dmE:=by
 rw[f] at h;cases h2:e k with
 |none=>rw[h2] at h;simp at h
 |some b =>
  rw[h2] at h;cases b with
  |cells cs'=>simp[Bx.dm] at h
  |mp d i =>
   simp only[Zad,Bx.dm,Zh,Bx.mp.injEq] at h;obtain⟨g,rfl⟩:=h;exact⟨d,rfl,g⟩
theorem Qj0{p:Nat->Prop}{M o:Mem}(h:Qqc p M o){sz:Nat}{v:V}(q:v.on p){l:List (List D)}(f:Qgy M sz v=some l):Qgy o sz v=some l:=by
 by_cases r:∃g k off len i,v = .sl g k off len i
 case neg =>
  cases v with
  |sl a b c d e=>grind
  |d x=>cases x<;>exact f
  |_=>exact f
 obtain⟨g,k,off,len,i,rfl⟩:=r;simp only[Qgy] at f |-;split at f<;>try (cases f;done)
 rename_i j;rw[if_pos j];split at f<;>try (cases f;done)
 rename_i cs t;obtain⟨cs',n,u⟩:=Qbej (h k q) t;rw[n];have s:cs'.length=cs.length:=by
  have:=congrArg List.length u;simpa[Qmg] using this
 simp only[s];split at f<;>try (cases f;done)
 rename_i m;rw[if_pos m];have:toDs ((cs'.drop off).take (len*sz))=toDs ((cs.drop off).take (len*sz)):=by
  rw[<-Q5k,<-Q5k ((cs.drop off).take _)]
  grind [Qmg,List.map_take,List.map_drop]
 rw[this];exact f
theorem Q5l{n0 κ:Nat}{k:K}(t:(∃kd c z,k = .lookup kd c z)\/k = .lenm){xs:List V}{M M' : Mem}{v:V}(h:Ql n0 κ k xs M=some (v,M')):M'=M/\∀p f,Qqc p M f->V.ons p xs->Ql n0 κ k xs f=some (v,f):=by
 rcases t with⟨kd,c,z,rfl⟩|rfl
 ·obtain⟨rfl,⟨b,key,es,cl,rfl,l,w,r,m⟩|⟨key,s,cl,rfl,B,w,r,m⟩⟩:=Q2p h
  ·refine⟨rfl,fun p f ha hp=>?_⟩;obtain⟨e,this,d⟩:=Qbov (ha b hp.1) l;have o:kd.all e=true:=by rw[<-Qbc6,d,Qbc6];exact r
   have a:(Qhf key e).map (fun p=>(p.1,dmV p.2))=(Qhf key es).map fun p=>(p.1,dmV p.2):=by rw[<-Q9g,d,Q9g]
   rcases m with⟨i,u,g,n,rfl⟩|⟨g,n,rfl⟩
   ·rw[g] at a;cases hf:Qhf key e with
    |none=>grind
    |some q =>
     obtain⟨j,x⟩:=q;rw[hf] at a;simp only[Zad,Zh,Zf] at a;obtain⟨rfl,y⟩:=a
     grind [Qbou,Qbnl,Ql]
   grind [Qhf,Ql]
  ·refine⟨rfl,fun p f ha hp=>?_⟩;rcases m with⟨i,u,g,n,rfl⟩|⟨g,n,rfl⟩
   all_goals simp_all[Q5j,Zt,Zn,Ql,Zav,if_true,Qww]
 ·obtain⟨rfl,⟨b,es,c,rfl,l,rfl⟩|⟨es,c,rfl,rfl⟩⟩:=Q88 h
  ·refine⟨rfl,fun p f ha hp=>?_⟩;obtain⟨e,this,d⟩:=Qbov (ha b hp.1) l;have A:=congrArg List.length d
   grind [List.length_map,Ql]
  ·exact⟨rfl,fun p f ha hp=>rfl⟩
theorem Qgz{n0 κ:Nat}{k:K}{xs:List V}{M M' : Mem}{v:V}(d:k.eff = .read)(h:Ql n0 κ k xs M=some (v,M')):M'=M/\∀p b,Qqc p M b->V.ons p xs->Ql n0 κ k xs b=some (v,b):=by
 cases k<;>simp only[K.eff] at d<;>(try cases d)<;>(try exact Q5l (.inl ⟨_,_,_,rfl⟩) h)<;>(try exact Q5l (.inr rfl) h)<;>unfold Ql at h<;>(split at h<;>try (cases h;done))<;>(try (rename_i g;cases g))
 ·rename_i q n _ _ k off;split at h<;>try (cases h;done)
  rename_i cs d;split at h<;>try (cases h;done)
  rename_i c;refine⟨(by
   grind),fun p b ha hp=>?_⟩
  obtain⟨cs',f,j⟩:=Qbej (ha k hp.1) d;have e:cs'.length=cs.length:=by
   have:=congrArg List.length j;simpa[Qmg] using this
  simp only[Ql,f,e,if_pos c];split at h
  ·simp_all[if_true,Zh,Zf,and_true,V.agg.injEq,Qmg,List.map_take,List.map_drop]
  ·rename_i i;simp only[Zd,Zf] at h;obtain⟨x,m,rfl,rfl⟩:=h;simp only[i];have o:=congrArg (fun l=>l[off]?) j
   grind [Qmg]
 ·split at h<;>try (cases h;done)
  rename_i c;simp only[Ql,if_pos c]
  grind
 ·split at h<;>try (cases h;done)
  ·cases h;exact⟨rfl,fun p b _ _=>rfl⟩
  ·cases h;exact⟨rfl,fun p b _ _=>rfl⟩
  ·cases h;exact⟨rfl,fun p b _ _=>rfl⟩
  ·cases h;exact⟨rfl,fun p b _ _=>rfl⟩
 ·split at h<;>try (cases h;done)
  rename_i ys a;split at h<;>try (cases h;done)
  rename_i hc;cases h;refine⟨rfl,fun p b ha hp=>?_⟩;simp only[Ql,Qj0 ha hp.2.1 a,if_pos hc]
 ·split at h<;>try (cases h;done)
  rename_i ys a;split at h<;>try (cases h;done)
  rename_i hc;cases h;refine⟨rfl,fun p b ha hp=>?_⟩;simp only[Ql,Qj0 ha hp.2.1 a,if_pos hc]
 ·split at h<;>try (cases h;done)
  rename_i ys a;split at h<;>try (cases h;done)
  rename_i hc;cases h;refine⟨rfl,fun p b ha hp=>?_⟩;simp only[Ql,Qj0 ha hp.2.1 a,if_pos hc]
 ·split at h<;>try (cases h;done)
  rename_i l ys e a;refine⟨?_,fun p b ha hp=>?_⟩
  ·grind
  ·simp only[Ql,Qj0 ha hp.2.1 a,Qj0 ha hp.1 e]
   grind
theorem Qir{n0 κ:Nat}{k:K}{xs:List V}{M M' : Mem}{v:V}(i:k.eff = .alloc)(h:Ql n0 κ k xs M=some (v,M')):
  M κ=none/\∃b,M'=M.put κ b/\∀d,d κ=none->Ql n0 κ k xs d=some (v,d.put κ b):=by
 cases k<;>simp only[K.eff] at i<;>(try cases i)<;>unfold Ql at h<;>(split at h<;>try (cases h;done))<;>(try (rename_i g;cases g))
 ·rename_i n _ _ x;split at h<;>try (cases h;done)
  split at h<;>try (cases h;done)
  rename_i f e hc;cases h;simp only[Zc,decide_eq_true_eq,Zba] at hc;refine⟨hc.2,_,rfl,fun d c=>?_⟩;simp only[Ql,c,hc.1];cases x<;>first|exact (f rfl).elim|exact (e _ rfl).elim|simp
 ·split at h<;>try (cases h;done)
  rename_i hc;cases h;simp only[Zba] at hc;exact⟨hc,_,rfl,fun d c=>by simp[Ql,c]⟩
 ·split at h<;>try (cases h;done)
  rename_i hc;cases h;have a:=hc;simp only[Zc,Zba] at a;refine⟨a.2,_,rfl,fun d c=>?_⟩;rw[a.2] at hc;simp only[Ql,c];exact if_pos hc
 ·grind
 ·split at h<;>try (cases h;done)
  rename_i hc;cases h;have a:=hc;simp only[Zc,Zba] at a;refine⟨a.2,_,rfl,fun d c=>?_⟩
  simp_all[Ql,if_pos]
 all_goals
  split at h<;>try (cases h;done)
  rename_i hc;cases h;simp only[Zba] at hc;exact⟨hc,_,rfl,fun d c=>by simp[Ql,c]⟩
theorem Qp1{n0 κ:Nat}{xs:List V}{M M' : Mem}{v:V}(h:Ql n0 κ .loadT xs M=some (v,M')):
  ∃k off cs x,xs=[.ptr k off]/\M k=some (.cells cs)/\cs[off]? = some x/\v=x.top/\M'=M.put k (.cells (cs.set off x.dem)):=by
 unfold Ql at h;split at h<;>(try (rename_i a;cases a))<;>try (cases h;done)
 grind
theorem Qti{n0 κ k off:Nat}{cs:List V}{x:V}{M:Mem}(b:M k=some (.cells cs))(a:cs[off]? = some x):
  Ql n0 κ .loadT [.ptr k off] M=some (x.top,M.put k (.cells (cs.set off x.dem))):=by
 simp[Ql,b,a]
theorem Qz0{n0 κ n:Nat}{xs:List V}{M M' : Mem}{v:V}(h:Ql n0 κ (.store n) xs M=some (v,M')):
  ∃k off x cs,xs=[.ptr k off,x]/\M k=some (.cells cs)/\x.topS.cells.length=n/\off+n<=cs.length/\v = .und/\M'=M.put k (.cells (cs.take off++x.topS.cells++cs.drop (off+n))):=by
 unfold Ql at h;split at h<;>(try (rename_i a;cases a))<;>try (cases h;done)
 rename_i k off x;split at h<;>try (cases h;done)
 split at h<;>try (cases h;done)
 rename_i cs b;split at h<;>try (cases h;done)
 grind
theorem Qu1(M:Mem){k j:Nat}(b c:Bx)(h:k≠j):(M.put k b).put j c=(M.put j c).put k b:=by
 funext i;simp only[Mem.put]
 grind
theorem Qbia(M:Mem)(k:Nat)(b c:Bx):(M.put k b).put k c=M.put k c:=by
 grind [Mem.put]
theorem Qha(M:Mem)(k:Nat)(b:Bx):(M.put k b) k=some b:=by simp[Mem.put]
theorem Qcr(M:Mem){k j:Nat}(b:Bx)(h:j≠k):(M.put k b) j=M j:=by simp[Mem.put,h]
theorem Q5m{p:Nat->Prop}{M:Mem}{κ:Nat}(b:Bx)(hp:∀k,p k->(M k).isSome=true)(c:M κ=none):Qqc p M (M.put κ b)/\Qqc p (M.put κ b) M:=by
 have:∀k,p k->(M.put κ b) k=M k:=fun k a=>Qcr _ _ fun e=>by grind
 exact⟨fun k a=>by rw[this k a],fun k a=>by rw[this k a]⟩
theorem Qblg{cs:List V}{off:Nat}{x:V}(a:cs[off]? = some x):V.dems (cs.set off x.dem)=V.dems cs:=by
 rw[Qmg,Qmg,List.map_set,Qd4];apply List.ext_getElem?
 grind
theorem Qpm{n0 κ:Nat}{kd:MK}{z:V}{xs:List V}{M M' : Mem}{v:V}(r:Ql n0 κ (.lookupT kd z) xs M=some (v,M')):
  ∃k key b,xs=[.mp k,key]/\M k=some b/\((∃h,M'=M.put k h/\(∀p,Qqc p M (M.put k h)/\Qqc p (M.put k h) M)/\∀a:Mem,a k=some b->Ql n0 κ (.lookupT kd z) xs a=some (v,a.put k h)) \/
   (M'=M/\∀a:Mem,a k=some b->Ql n0 κ (.lookupT kd z) xs a=some (v,a))):=by
 obtain⟨k,key,es,cl,rfl,q,y,x,w,u⟩:=Qzw r;refine⟨k,key,_,rfl,q,?_⟩;rcases u with⟨i,sz,l,e,n,g,rfl,rfl⟩|⟨n,g,rfl,rfl⟩
 ·refine .inl ⟨_,rfl,fun p=>?_,fun a f=>by grind [Ql]⟩;obtain⟨A,o,m⟩:=Q5j n;rw[g] at o;cases o;have t:=Qbh9 g m;have c:∀j,((M.put k (.mp (modM e.1 (.d (.lst sz l)) i es) cl)) j).map Bx.dm=(M j).map Bx.dm:=by
   intro j;simp only[Mem.put];split
   ·rename_i s;subst s;rw[q];simp only[Zad,Bx.dm,Zh,Bx.mp.injEq,and_true];exact t
   ·rfl
  exact⟨fun j _=>c j,fun j _=>(c j).symm⟩
 ·exact .inr ⟨rfl,fun a f=>by simp[Ql,f,y,x,w,n,g]⟩
theorem Q71{M:Mem}{k off:Nat}{cs:List V}{x:V}(b:M k=some (.cells cs))(a:cs[off]? = some x)(p:Nat->Prop):
  Qqc p M (M.put k (.cells (cs.set off x.dem)))/\Qqc p (M.put k (.cells (cs.set off x.dem))) M:=by
 have:∀i,((M.put k (.cells (cs.set off x.dem))) i).map Bx.dm=(M i).map Bx.dm:=by
  grind [Qha,Bx.dm,Qblg,Qcr]
 exact⟨fun i _=>this i,fun i _=>(this i).symm⟩
theorem Qbgb{n0 κ k off n k' a b : Nat}{m:Bool}{M:Mem}{cs vs:List V}{v:V}{s:Mem}(h:Ql n0 κ (.load m n) [.ptr k off] M=some (v,s))(q:M k'=some (.cells cs))(o:vs.length=b)(p:a+b<=cs.length)(l:Qme (.ptr k off) (max n 1) (.ptr k' a) b=true):Ql n0 κ (.load m n) [.ptr k off] (M.put k' (.cells (cs.take a++vs++cs.drop (a+b))))=some (v,M.put k' (.cells (cs.take a++vs++cs.drop (a+b)))):=by
 by_cases e:k=k'
 ·subst e;simp only[Ql,q] at h;split at h<;>try (cases h;done)
  rename_i d;have c:(cs.take a++vs++cs.drop (a+b)).length=cs.length:=by simp;omega
  simp only[Ql,Qha,c,if_pos d];have g : off+max n 1<=a \/ a+b<=off:=by simpa[Qme] using l
  have f:∀i,off<=i->i<off+max n 1->(cs.take a++vs++cs.drop (a+b))[i]? = cs[i]?:=by
   intro i u t;rcases g with h3|h3
   ·grind
   ·rw[Zau (by simp;omega)];simp only[Zx,Zbl,Zbs];congr 1;omega
  have j:((cs.take a++vs++cs.drop (a+b)).drop off).take n=(cs.drop off).take n:=by
   apply List.ext_getElem?
   grind
  rw[j,f off (Ze _) (by omega)]
  grind
 ·obtain⟨rfl,hr⟩:=Qgz rfl h;exact hr (· = k) _ (fun i r=>by rw[r,Qcr _ _ e]) ⟨rfl,trivial⟩
theorem Qbib{n0 κ sz bytes g k off len a:Nat}{x:V}{l ys:List (List D)}{cs:List V}{M M' : Mem}{v:V}(q:Qgy M sz (.sl g k off len a)=some l)(p:Qgy M sz x=some ys)(u:M k=some (.cells cs))(n:∀k' c,Qqc (· ≠ k') M (M.put k' c))(h:(if ys.length=0 then (if len=0&&a=0 then some (V.own sz [],M) else if len<=a then some (.sl g k off len a,M) else none)
   else if len+ys.length<=a then
    (if decide (0<sz)&&decide (off+(len+ys.length)*sz<=cs.length)&&ys.all (fun y=>y.length==sz) then
     some (.sl g k off (len+ys.length) a,M.put k (.cells (cs.take (off+len*sz)++ys.flatten.map V.d++cs.drop (off+len*sz+ys.length*sz)))) else none)
   else if decide (a<len+ys.length)&&decide (l.length+ys.length<=lim)&&decide (bytes<=128)&&decide (0<sz) then some (.own sz (l++ys),M) else none)=some (v,M')):
  ∃f:Mem->Mem,M'=f M/\(f=id\/∃b,f=fun M=>M.put k b) /\
   ∀k' c,k' ≠ k->x.on (· ≠ k')->Ql n0 κ (.appw sz bytes) [.sl g k off len a,x] (M.put k' c)=some (v,f (M.put k' c)):=by
 have i:∀k' c,k' ≠ k->x.on (· ≠ k')->Qgy (M.put k' c) sz (.sl g k off len a)=some l/\Qgy (M.put k' c) sz x=some ys/\(M.put k' c) k=some (.cells cs):=fun k' c m j =>
  ⟨Qj0 (v:=.sl g k off len a) (n k' c) (by show k≠k';exact fun e=>m e.symm) q,Qj0 (n k' c) j p,by grind [Qcr]⟩
 by_cases o:ys.length=0
 ·rw[if_pos o] at h;refine⟨id,?_,.inl rfl,fun k' c m j=>?_⟩
  ·grind
  ·obtain⟨t,s,r⟩:=i k' c m j;simp only[Ql,t,s,r,if_pos o]
   grind
 ·rw[if_neg o] at h;by_cases hr:len+ys.length<=a
  ·rw[if_pos hr] at h;split at h<;>cases h;rename_i hc;refine⟨_,rfl,.inr ⟨_,rfl⟩,fun k' c m j=>?_⟩
   simp_all[Ql,if_neg,if_pos]
  ·rw[if_neg hr] at h;split at h<;>cases h;rename_i hc;refine⟨id,rfl,.inl rfl,fun k' c m j=>?_⟩
   simp_all[Ql,if_neg,if_pos]
theorem Qbek{n0 κ sz bytes:Nat}{xs:List V}{M M' : Mem}{v:V}(h:Ql n0 κ (.appw sz bytes) xs M=some (v,M')):
  ∃s x,xs=[s,x]/\(∃ys,Qgy M sz x=some ys)/\∃k,∃f:Mem->Mem,M'=f M/\(f=id\/(∃a off len c,s = .sl a k off len c)/\∃b,f=fun M=>M.put k b) /\
   ∀k' d,((∃a off len c,s = .sl a k off len c)->k' ≠ k)->x.on (· ≠ k')->Ql n0 κ (.appw sz bytes) xs (M.put k' d)=some (v,f (M.put k' d)):=by
 have g:∀k' d,Qqc (· ≠ k') M (M.put k' d):=fun k' d j p=>by rw[Qcr _ _ p]
 unfold Ql at h;split at h<;>(try (rename_i m;cases m))<;>try (cases h;done)
 case _ =>
  rename_i a k off len c x;split at h<;>try (cases h;done)
  rename_i l ys cs n e q;refine⟨_,x,rfl,⟨ys,e⟩,k,?_⟩;obtain⟨f,u,t,r⟩:=Qbib (n0:=n0) (κ:=κ) (bytes:=bytes) (v:=v) (M':=M') n e q g h;exact⟨f,u,t.imp id fun h=>⟨⟨_,_,_,_,rfl⟩,h⟩,fun k' d o i=>r k' d (o ⟨_,_,_,_,rfl⟩) i⟩
 case _ =>
  rename_i a x;split at h<;>try (cases h;done)
  rename_i ys e;split at h<;>cases h;rename_i hc;refine⟨_,x,rfl,⟨ys,e⟩,0,id,rfl,.inl rfl,fun k' d _ i=>?_⟩;simp only[Ql,Qj0 (g k' d) i e,if_pos hc];rfl
theorem Qbc7{n0 κ n k off:Nat}{x v:V}{a e M:Mem}(h:Ql n0 κ (.store n) [.ptr k off,x] a=some (v,e))(g:M k=a k):
  ∃b,e=a.put k b/\Ql n0 κ (.store n) [.ptr k off,x] M=some (v,M.put k b):=by
 obtain⟨k',c,i,cs,f,d,l,j,rfl,rfl⟩:=Qz0 h;cases f;refine⟨_,rfl,?_⟩;cases x<;>(try (simp[Ql] at h;done))<;>simp only[Ql,d] at h<;>simp only[Ql,g,d]<;>(grind)<;>(grind)
end Go.Abs
end
section
namespace Go.Abs
open Go
set_option maxHeartbeats 1000000
variable{C:Ctx}{n0 pc:Nat}
def Free(C:Ctx)(n0 pc:Nat)(o:COp)(s:Sl)(v:V):Prop:=∀M nb,Core C n0 pc o s M nb v M nb
inductive Does(C:Ctx)(n0 pc:Nat)(o:COp)(s:Sl)(M:Mem)(nb:Nat)(v:V)(M' : Mem)(nb' : Nat):Prop where
 |free (h:Free C n0 pc o s v) (h1:M'=M) (h2:nb'=nb)
 |op (hw:o.wanted s=some true) (hc:o.kind.isCall=false) (hn:o.kind.isNil=false) (he:o.kind.eff ≠ .pure) (h:Ql n0 (n0+o.dst.getD 0) o.kind (o.xs s) M=some (v,M')) (h2:nb'=nb)
 |call (f:FuncId) (args:List V) (hw:o.wanted s=some true) (hc:o.kind.isCall=true) (hcal:o.callee s=some (f,args)) (hpc:pc<=1\/10<=pc) (h:CallStp C n0 pc o.dst f args M nb v M' nb')
theorem Core.does{o:COp}{s:Sl}{M:Mem}{nb:Nat}{v:V}{M' : Mem}{d : Nat}(h:Core C n0 pc o s M nb v M' d):Does C n0 pc o s M nb v M' d:=by
 have p:=h;unfold Core at h;cases hw:o.wanted s with
 |none=>grind
 |some b =>
  rw[hw] at h;cases b with
  |false =>
   obtain⟨rfl,rfl,rfl⟩:=h;exact .free (fun M nb=>by simp[Core,hw]) rfl rfl
  |true =>
   simp only at h;cases hcall:o.kind.isCall with
   |true =>
    rw[hcall] at h;simp only[if_true] at h;obtain⟨f,args,c,a⟩:=h
    match pc,a with
    |0,a=>exact .call f args hw hcall c (by omega) a
    |1,a=>exact .call f args hw hcall c (by omega) a
    |n+2,a =>
     by_cases g:n<8
     ·have a:(if n<8 then _ else _):=a;rw[if_pos g] at a;obtain⟨i,e,m⟩:=a;exact .free (fun M nb=>by simp only[Core,hw,hcall,if_true];exact⟨f,args,c,(by show (if n<8 then _ else _);grind)⟩) e m
     ·exact .call f args hw hcall c (by omega) a
   |false =>
    rw[hcall] at h;simp only[Zg,if_false] at h;cases hn:o.kind.isNil with
    |true=>rw[hn] at h;simp at h
    |false =>
     rw[hn] at h;simp only[Zg,if_false] at h;obtain⟨i,e⟩:=h;by_cases j:o.kind.eff = .pure
     ·obtain⟨l,k⟩:=Qbga j i;exact .free (fun M nb=>by simp[Core,hw,hcall,hn,k]) l e
     ·exact .op hw hcall hn j i e
theorem Q9h{o:COp}{s:Sl}(a:o.wanted s=some true)(hc:o.kind.isCall=false)(b:o.kind.isNil=false){M:Mem}{nb:Nat}{v:V}{M' : Mem}(h:Ql n0 (n0+o.dst.getD 0) o.kind (o.xs s) M=some (v,M')):Core C n0 pc o s M nb v M' nb:=by
 simp[Core,a,hc,b,h]
structure Qbic(n0 nb:Nat)(o:COp)(s:Sl)(M:Mem):Prop where
 xs:V.ons (fun k=>(M k).isSome=true) (o.xs s)
 key:n0+o.dst.getD 0<nb
 low:∀k,(M k).isSome=true->k<nb
theorem Qsk{a b:COp}{s:Sl}{M i h:Mem}{nb d c:Nat}{k j:V}(f:Free C n0 pc a s k/\i=M/\d=nb\/Free C n0 pc b s j/\h=i/\c=d)(ha:Core C n0 pc a s M nb k i d)(hb:Core C n0 pc b s i d j h c):
  ∃g e,Core C n0 pc b s M nb j g e/\Core C n0 pc a s g e k h c:=by
 rcases f with⟨f,rfl,rfl⟩|⟨f,rfl,rfl⟩
 ·exact⟨h,c,hb,f _ _⟩
 ·exact⟨M,nb,f _ _,ha⟩
theorem Qzm{o:COp}(hc:o.kind.isCall=false):o.eff pc=o.kind.eff\/(o.eff pc = .other):=by
 unfold COp.eff;cases hk:o.kind<;>simp_all[K.eff,K.isCall]<;>(cases o.dst<;>simp)
theorem Qbid{o:COp}(h:o.eff pc = .alloc):o.kind.eff = .alloc/\o.dst.isSome=true:=by
 grind [COp.eff,absurd]
theorem Q4h{o:COp}(hc:o.kind.isCall=true)(a:pc<=1\/10<=pc):o.eff pc = .call/\(pc=1\/10<=pc/\wrs (pc-10) o.dst≠true)\/o.eff pc = .gen\/o.eff pc = .callw/\10<=pc:=by
 unfold COp.eff;have:o.kind.eff = .call:=by cases hk:o.kind<;>simp_all[K.eff,K.isCall]
 grind
theorem Qhl{M W:Mem}(h:∀k,W k=none):M.patch W=M:=by
 funext k;simp[Mem.patch,h k]
theorem CallStp.over{d:Option Nat}{f:FuncId}{args:List V}{M:Mem}{nb:Nat}{r:V}{M' : Mem}{b : Nat}(e:pc=1\/10<=pc):CallStp C n0 pc d f args M nb r M' b ↔
  ∃W a,(10<=pc/\wrs (pc-10) d=true\/∀k,W k=none)/\(∀k,(W k).isSome=true->(M k).isSome=true)/\(∀k cs,k<n0->W k=some (.cells cs)->V.lt.go n0 cs=true) /\
   (∀c:Mem,(∀k,(M k).isSome=true->c k=M k)->(∀k,nb<=k->c k=none)->C f args c nb r ((c.patch W).over nb a) b)/\M'=(M.patch W).over nb a:=by
 rcases e with rfl|h10
 ·constructor
  ·rintro⟨a,h,g⟩;exact⟨fun _=>none,a,.inr fun _=>rfl,by simp,by simp,by simpa only[Qhl (fun _=>rfl)] using h,by simpa only[Qhl (fun _=>rfl)] using g⟩
  ·rintro⟨W,a,i,_,_,h,g⟩;have i:∀k,W k=none:=by
    grind
   exact⟨a,by simpa only[Qhl i] using h,by simpa only[Qhl i] using g⟩
 ·obtain⟨n,rfl⟩ : ∃n,pc=n+2:=⟨pc-2,by omega⟩;have j:¬n<8:=by omega
  have l:n+2-10=n-8:=by omega
  show (if n<8 then _ else _)↔_
  grind
theorem Qqd{o:COp}{s:Sl}{p:Nat}{b:List Arg}(a:o.args = .t p::b){k off:Nat}{xs:List V}(h:o.xs s = .ptr k off::xs):s p = .ptr k off:=by
 unfold COp.xs at h;rw[a] at h;split at h
 ·grind [Arg.val,List.cons.injEq]
 ·simp only[Zb,Arg.val,V.dems,Zo] at h;have:=h.1;cases hv:s p<;>rw[hv] at this<;>simp_all[V.dem]
theorem Qbel{o:COp}{s:Sl}{q:Nat}{b:List Arg}(a:o.args = .t q::b){sz k off len c:Nat}{xs:List V}(h:o.xs s = .sl sz k off len c::xs):s q = .sl sz k off len c:=by
 unfold COp.xs at h;rw[a] at h;split at h
 ·grind [Arg.val,List.cons.injEq]
 ·simp only[Zb,Arg.val,V.dems,Zo] at h;have:=h.1;cases hv:s q<;>rw[hv] at this<;>simp_all[V.dem]
theorem Qbie{a b:COp}{ps:List Pair}(g:Qp6 pc a b=some ps){s:Sl}{M M1 M2:Mem}{nb nb1 nb2:Nat}{va vb:V}(hsa:Qbic n0 nb a s M)(X:Qbic n0 nb b s M)(hap:∀p∈ps,Qme (s p.a) p.n (s p.b) p.m=true)(ha:Core C n0 pc a s M nb va M1 nb1)(hb:Core C n0 pc b s M1 nb1 vb M2 nb2):
  ∃E F,Core C n0 pc b s M nb vb E F/\Core C n0 pc a s E F va M2 nb2:=by
 have hsl:a.slotsApart b=true:=by
  grind [Qp6]
 unfold Qp6 at g;rw[if_pos hsl] at g;rcases ha.does with⟨hf,v,J⟩|⟨hwa,hca,hna,hea,d,h2a⟩|⟨f,args,hwa,hca,hcala,hpca,hcc⟩
 ·exact Qsk (.inl ⟨hf,v,J⟩) ha hb
 ·rcases hb.does with⟨hf,v,J⟩|⟨hwb,N,hnb,heb,c,h2b⟩|⟨f,args,hwb,N,hcalb,hpcb,hcc⟩
  ·exact Qsk (.inr ⟨hf,v,J⟩) ha hb
  ·subst h2a h2b;have t:∀E,Ql n0 (n0+b.dst.getD 0) b.kind (b.xs s) M=some (vb,E)->Ql n0 (n0+a.dst.getD 0) a.kind (a.xs s) E=some (va,M2) ->
     ∃E F,Core C n0 pc b s M nb2 vb E F/\Core C n0 pc a s E F va M2 nb2:=fun E v J=>⟨E,nb2,Q9h hwb N hnb v,Q9h hwa hca hna J⟩
   have pa:a.eff pc ≠ .pure:=by
    grind [Qzm]
   have pb:b.eff pc ≠ .pure:=by
    grind [Qzm]
   have R:∀e,a.eff pc=e->e ≠ .other->a.kind.eff=e:=fun e h h'=>by
    grind [Qzm,absurd]
   have P:∀e,b.eff pc=e->e ≠ .other->b.kind.eff=e:=fun e h h'=>by
    grind [Qzm,absurd]
   cases B:a.eff pc<;>cases u:b.eff pc<;>rw[B,u] at g<;>(try (simp at g;done))<;>(try (exact absurd B pa))<;>(try (exact absurd u pb))
   all_goals first
    |(exfalso;have:=R _ B (by simp);have hx:=hca;revert this hx;cases a.kind<;>simp[K.eff,K.isCall];done)
    |(exfalso;have:=P _ u (by simp);have hx:=N;revert this hx;cases b.kind<;>simp[K.eff,K.isCall];done)
    |skip
   ·obtain⟨rfl,_⟩:=Qgz (R _ B (by simp)) d;obtain⟨rfl,_⟩:=Qgz (P _ u (by simp)) c;exact t _ c d
   ·obtain⟨rfl,v⟩:=Qgz (R _ B (by simp)) d;obtain⟨J,bx,rfl,h3⟩:=Qir (P _ u (by simp)) c;exact t _ c (v _ _ (Q5m bx (fun _ h=>h) J).1 hsa.xs)
   ·obtain⟨rfl,v⟩:=Qgz (R _ B (by simp)) d;have w:b.kind = .loadT:=by have:=P _ u (by simp);revert this;cases b.kind<;>simp[K.eff]
    rw[w] at c;obtain⟨k,off,cs,x,l,i,Q,hx4,rfl⟩:=Qp1 c;rw[<-w] at c;exact t _ c (v _ _ (Q71 i Q _).1 hsa.xs)
   ·obtain⟨rfl,v⟩:=Qgz (R _ B (by simp)) d;obtain⟨n',w⟩ : ∃n',b.kind = .store n':=by have:=P _ u (by simp);revert this;cases b.kind<;>simp[K.eff]
    have hrb0:=c;rw[w] at c;obtain⟨k',U,x,cs,l,i,Q,hx4,rfl,rfl⟩:=Qz0 c;simp only at g;split at g<;>try (cases g;done)
    rename_i p n q m S o;cases g;have O:=hap ⟨p,n,q,m⟩ (by simp);simp only at O;unfold COp.place at o;split at o<;>(try (cases o;done))
    ·grind
    ·grind
    rename_i n0' q' xb hk r;rw[w] at hk;cases hk;cases o;rw[Qqd r l] at O;unfold COp.place at S;split at S<;>(try (cases S;done))
    ·rename_i ag nl p' hka hargsa;cases S;refine t _ (by rw[w];exact c) ?_;have hxa:∃pv,a.xs s=[pv]:=by
      grind [COp.xs,Arg.val,V.dems]
     obtain⟨pv,hpv⟩:=hxa;rw[hka,hpv] at d v |-;cases pv with
     |ptr k off =>
      rw[Qqd hargsa hpv] at O;exact Qbgb d i Q hx4 O
     |cref cs'=>exact v (fun _=>False) _ (fun _ h=>h.elim) (by simp[V.ons,V.on])
     |_=>simp[Ql] at d
    all_goals grind [COp.eff,K.eff]
   ·obtain⟨rfl,v⟩:=Qgz (R _ B (by simp)) d;obtain⟨kd,z,w⟩ : ∃kd z,b.kind = .lookupT kd z:=by have:=P _ u (by simp);revert this;cases b.kind<;>simp[K.eff]
    have hrb0:=c;rw[w] at c;obtain⟨k,key,bx,l,i,⟨b',rfl,hag,_⟩|⟨rfl,_⟩⟩:=Qpm c
    ·exact t _ hrb0 (v _ _ (hag _).1 hsa.xs)
    ·exact t _ hrb0 d
   ·obtain⟨J,bx,rfl,h3⟩:=Qir (R _ B (by simp)) d;obtain⟨rfl,v⟩:=Qgz (P _ u (by simp)) c;exact t _ (v _ _ (Q5m bx (fun _ h=>h) J).2 X.xs) d
   ·obtain⟨J,bx,rfl,h3⟩:=Qir (R _ B (by simp)) d;obtain⟨h4,by',rfl,h5⟩:=Qir (P _ u (by simp)) c;have A:n0+a.dst.getD 0≠n0+b.dst.getD 0:=by
     grind [Qha]
    simp_all[Qcr,Ne.symm,Qu1]
   ·obtain⟨J,bx,rfl,h3⟩:=Qir (R _ B (by simp)) d;have w:b.kind = .loadT:=by have:=P _ u (by simp);revert this;cases b.kind<;>simp[K.eff]
    rw[w] at c;obtain⟨k,off,cs,x,l,i,Q,rfl,rfl⟩:=Qp1 c;have hk:(M k).isSome=true:=by have:=X.xs;rw[l] at this;exact this.1
    have A:k≠n0+a.dst.getD 0:=fun e=>by grind
    rw[Qcr _ _ A] at i;refine t _ (by rw[w,l];exact Qti i Q) ?_;rw[Qu1 _ _ _ (Ne.symm A)];exact h3 _ (by rw[Qcr _ _ (Ne.symm A)];exact J)
   ·obtain⟨J,bx,rfl,h3⟩:=Qir (R _ B (by simp)) d;obtain⟨kd,z,w⟩ : ∃kd z,b.kind = .lookupT kd z:=by have:=P _ u (by simp);revert this;cases b.kind<;>simp[K.eff]
    rw[w] at c;obtain⟨k,key,bk,l,i,hres⟩:=Qpm c;have hk:(M k).isSome=true:=by have:=X.xs;rw[l] at this;exact this.1
    have A:k≠n0+a.dst.getD 0:=fun e=>by grind
    rw[Qcr _ _ A] at i;rcases hres with⟨b',rfl,_,hag⟩|⟨rfl,hag⟩
    ·refine t _ (by rw[w];exact hag M i) ?_;rw[Qu1 _ _ _ (Ne.symm A)];exact h3 _ (by rw[Qcr _ _ (Ne.symm A)];exact J)
    grind
   ·have w:a.kind = .loadT:=by have:=R _ B (by simp);revert this;cases a.kind<;>simp[K.eff]
    have H:=d;rw[w] at d;obtain⟨k,off,cs,x,l,i,Q,hx4,rfl⟩:=Qp1 d;obtain⟨rfl,v⟩:=Qgz (P _ u (by simp)) c;exact t _ (v _ _ (Q71 i Q _).2 X.xs) H
   ·have w:a.kind = .loadT:=by have:=R _ B (by simp);revert this;cases a.kind<;>simp[K.eff]
    rw[w] at d;obtain⟨k,off,cs,x,l,i,Q,rfl,rfl⟩:=Qp1 d;obtain⟨J,bx,rfl,h3⟩:=Qir (P _ u (by simp)) c;have A:k≠n0+b.dst.getD 0:=fun e=>by rw[e,Qha] at J;cases J
    simp_all[Qcr,Ne.symm,Qu1,Qti]
   ·have w:a.kind = .loadT:=by have:=R _ B (by simp);revert this;cases a.kind<;>simp[K.eff]
    have kt' : b.kind = .loadT:=by have:=P _ u (by simp);revert this;cases b.kind<;>simp[K.eff]
    rw[w] at d;rw[kt'] at c;obtain⟨k,off,cs,x,l,i,Q,rfl,rfl⟩:=Qp1 d;obtain⟨k',U,cs',x',hy1,hy2,hy3,rfl,rfl⟩:=Qp1 c;simp only at g;split at g<;>try (cases g;done)
    rename_i p n q m S o;cases g;have O:=hap ⟨p,n,q,m⟩ (by simp);simp only at O;obtain⟨rfl,hsp⟩ : n=1/\s p = .ptr k off:=by
     unfold COp.place at S;split at S<;>(try (cases S;done))
     ·grind
     ·rename_i r;cases S;exact⟨rfl,Qqd r l⟩
     grind
    obtain⟨rfl,hsq⟩ : m=1/\s q = .ptr k' U:=by
     unfold COp.place at o;split at o<;>(try (cases o;done))
     ·grind
     ·rename_i r;cases o;exact⟨rfl,Qqd r hy1⟩
     grind
    rw[hsp,hsq] at O;by_cases hkk:k'=k
    ·grind [Qme,Qha,List.getElem?_set_ne,Qti,Qbia,List.set_comm]
    ·rw[Qcr _ _ hkk] at hy2;refine t (M.put k' (.cells (cs'.set U x'.dem))) (by grind [Qti]) ?_;rw[w,l,Qu1 _ _ _ (Ne.symm hkk)];exact Qti (by rw[Qcr _ _ (Ne.symm hkk)];exact i) Q
   ·obtain⟨kd,z,w⟩ : ∃kd z,a.kind = .lookupT kd z:=by have:=R _ B (by simp);revert this;cases a.kind<;>simp[K.eff]
    have H:=d;rw[w] at d;obtain⟨rfl,v⟩:=Qgz (P _ u (by simp)) c;obtain⟨k,key,bx,l,i,⟨b',rfl,hag,_⟩|⟨rfl,_⟩⟩:=Qpm d
    ·exact t _ (v _ _ (hag _).2 X.xs) H
    ·exact t _ c H
   ·obtain⟨kd,z,w⟩ : ∃kd z,a.kind = .lookupT kd z:=by have:=R _ B (by simp);revert this;cases a.kind<;>simp[K.eff]
    rw[w] at d;obtain⟨k,key,bk,l,i,hres⟩:=Qpm d;obtain⟨J,bx,rfl,h3⟩:=Qir (P _ u (by simp)) c;rcases hres with⟨b',rfl,_,hag⟩|⟨rfl,hag⟩
    ·have A:k≠n0+b.dst.getD 0:=fun e=>by rw[e,Qha] at J;cases J
     simp_all[Qcr,Ne.symm,Qu1]
    grind [Qcr]
   ·obtain⟨sz,bytes,w⟩ : ∃sz bytes,a.kind = .appw sz bytes:=by have:=R _ B (by simp);revert this;cases a.kind<;>simp[K.eff]
    have H:=d;rw[w] at d;obtain⟨s1,x,l,_,k,f,rfl,hf,hmv⟩:=Qbek d;obtain⟨rfl,v⟩:=Qgz (P _ u (by simp)) c;simp only at g;split at g<;>try (cases g;done)
    rename_i q xx p m r o;cases g;have I:=hap ⟨q,0,p,m⟩ (by simp);simp only at I;rcases hf with rfl|⟨⟨sz',off,len,cap,rfl⟩,bx,rfl⟩
    ·exact t _ c H
    ·rw[Qbel r l] at I;unfold COp.place at o;split at o<;>(try (cases o;done))
     ·rename_i ag nl p' hkb L;cases o;have hxb:∃pv,b.xs s=[pv]:=by
       grind [COp.xs,Arg.val,V.dems]
      obtain⟨pv,hpv⟩:=hxb;cases pv with
      |ptr k' U =>
       rw[Qqd L hpv] at I;have A:k' ≠ k:=by simpa only[Qme,decide_eq_true_eq] using I
       exact t _ (v (fun j=>j=k') M (fun j hj=>by grind [Bx.dm,Qcr]) (by rw[hpv];exact⟨rfl,trivial⟩)) H
      |cref cs'=>exact t _ (v (fun _=>False) M (fun _ h=>h.elim) (by rw[hpv];simp[V.ons,V.on])) H
      |_=>rw[hkb,hpv] at c;simp[Ql] at c
     all_goals grind [COp.eff,K.eff]
   ·obtain⟨sz,bytes,w⟩ : ∃sz bytes,a.kind = .appw sz bytes:=by have:=R _ B (by simp);revert this;cases a.kind<;>simp[K.eff]
    obtain⟨n',kt'⟩ : ∃n',b.kind = .store n':=by have:=P _ u (by simp);revert this;cases b.kind<;>simp[K.eff]
    rw[w] at d;obtain⟨s1,x,l,⟨ys,hys⟩,k,f,rfl,hf,hmv⟩:=Qbek d;rw[kt'] at c;obtain⟨k',U,y,cs,hy1,hy2,_⟩:=Qz0 c;simp only at g;split at g<;>try (cases g;done)
    rename_i q xx p m r o;cases g;have I:=hap ⟨q,0,p,m⟩ (by simp);have hap2:=hap ⟨xx,0,p,m⟩ (by simp);simp only at I hap2;unfold COp.place at o;split at o<;>(try (cases o;done))
    ·grind
    ·grind
    rename_i n0' q' xb hk L;cases o;rw[Qqd L hy1] at hap2;have A:(∃sz' off len cap,s1 = .sl sz' k off len cap)->k' ≠ k:=by
     rintro⟨sz',off,len,cap,rfl⟩;rw[Qbel r l,Qqd L hy1] at I;simpa only[Qme,decide_eq_true_eq] using I
    have hxon:x.on (· ≠ k'):=by
     have i:x.dem=(s xx).dem:=by
      grind [COp.xs,Arg.val,List.cons.injEq,V.dems,Qd4]
     cases x<;>simp only[Qgy] at hys<;>(try (cases hys;done))<;>(try trivial);rename_i sz2 j o2 l2 c2;have:s xx = .sl sz2 j o2 l2 c2:=by
      cases hv:s xx<;>rw[hv] at i<;>simp_all[V.dem]
     rw[this] at hap2;simp only[Qme,decide_eq_true_eq] at hap2;exact fun e=>hap2 e.symm
    rw[hy1] at c;have hMk:M k'=(f M) k':=by
     rcases hf with rfl|⟨hsl,bx,rfl⟩
     all_goals simp_all[Qcr]
    obtain⟨bx,rfl,hst⟩:=Qbc7 c hMk;refine t (M.put k' bx) (by rw[kt',hy1];exact hst) ?_;rw[w,hmv k' bx A hxon];congr 2;rcases hf with rfl|⟨hsl,by',rfl⟩
    all_goals grind [Qu1]
  ·rcases Q4h N hpcb with⟨u,T⟩|u|⟨u,_⟩
   ·cases B:a.eff pc<;>rw[B,u] at g<;>(try (simp at g;done))
    ·grind [Qzm,absurd]
    ·have R:a.kind.eff = .read:=by grind [Qzm]
     obtain⟨rfl,v⟩:=Qgz R d;subst h2a;have hcc0:=hcc;obtain⟨W,Δ,h0,hW,hW2,hcc1,rfl⟩:=(CallStp.over (T.imp id (·.1))).1 hcc;have h0:∀k,W k=none:=by
      grind
     refine⟨(M1.patch W).over nb1 Δ,nb2,?_,?_⟩
     ·grind
     ·simp only[Core,hwa,hca,hna,Zg,if_false];exact⟨v (fun k=>(M1 k).isSome=true) _ (fun k hk=>by simp only[Mem.over,hsa.low k hk,if_true,Qhl h0]) hsa.xs,trivial⟩
   all_goals grind [Qzm,absurd]
 ·rcases hb.does with⟨hf,v,J⟩|⟨hwb,N,hnb,heb,c,h2b⟩|⟨f',args',hwb,N,hcalb,hpcb,hcc'⟩
  ·exact Qsk (.inr ⟨hf,v,J⟩) ha hb
  ·subst h2b;have over:(pc=1\/10<=pc)->b.eff pc = .alloc->∃E F,Core C n0 pc b s M nb vb E F/\Core C n0 pc a s E F va M2 nb2:=by
    intro T u;obtain⟨W,Δ,h0,hW,hW2,hcc1,rfl⟩:=(CallStp.over T).1 hcc;obtain⟨P,_⟩:=Qbid u;obtain⟨v,bx,rfl,h3⟩:=Qir P c;have hlt:n0+b.dst.getD 0<nb:=X.key;have hMW:W (n0+b.dst.getD 0)=none/\M (n0+b.dst.getD 0)=none:=by
     simp only[Mem.over,hlt,if_true,Mem.patch] at v
     grind
    obtain⟨hWn,hM⟩:=hMW;refine⟨_,nb,Q9h hwb N hnb (h3 M hM),?_⟩;simp only[Core,hwa,hca,if_true];refine⟨f,args,hcala,(CallStp.over T).2 ⟨W,Δ,h0,fun k hk=>?_,hW2,fun M2 h4 h5=>hcc1 M2 (fun k hk=>?_) h5,?_⟩⟩
    ·grind [Mem.put]
    ·have A:k≠n0+b.dst.getD 0:=fun e=>by rw[e,hM] at hk;cases hk
     grind [Qcr]
    ·funext k;simp only[Mem.over,Mem.put,Mem.patch];by_cases hk:k=n0+b.dst.getD 0
     ·subst hk;simp[hlt,hWn]
     ·simp[hk]
   rcases Q4h hca hpca with⟨B,T⟩|B|⟨B,T⟩
   ·cases u:b.eff pc<;>(try (rw[B,u] at g;simp at g;done))
    ·rcases Qzm (pc:=pc) N with h|h<;>rw[u] at h
     ·exact absurd h.symm heb
     ·cases h
    ·have P:b.kind.eff = .read:=by rcases Qzm (pc:=pc) N with h|h<;>rw[u] at h;exact h.symm;cases h
     obtain⟨rfl,v⟩:=Qgz P c;obtain⟨W,Δ,h0,hW,hW2,hcc1,rfl⟩:=(CallStp.over (T.imp id (·.1))).1 hcc;have h0:∀k,W k=none:=by
      rcases h0 with⟨h,h'⟩|h
      ·rcases T with J|⟨_,J⟩
       ·omega
       ·exact absurd h' J
      ·exact h
     refine⟨M,nb,Q9h hwb N hnb (v (fun k=>(M k).isSome=true) _ (fun k hk=>by simp only[Mem.over,X.low k hk,if_true,Qhl h0]) X.xs),ha⟩
    ·exact over (T.imp id (·.1)) u
   all_goals grind [Qzm,absurd]
  ·rcases Q4h hca hpca with⟨B,_⟩|B|⟨B,_⟩<;>rcases Q4h N hpcb with⟨u,_⟩|u|⟨u,_⟩<;>rw[B,u] at g<;>simp at g
end Go.Abs
end
section
namespace Go.Abs
open Go
def Q9i(C:Ctx)(n0 pc:Nat):List COp->St->St->Prop
 |[],σ,a=>a=σ
 |o::os,σ,a=>∃b,Stp C n0 pc o σ b/\Q9i C n0 pc os b a
theorem Qbav{C:Ctx}{n0 pc:Nat}:∀{os:List COp}{σ:St}{Q:St->Prop},(∀o∈os,o.kind.isNil=false)->Qbab C n0 pc os σ Q->∃a,Q9i C n0 pc os σ a/\Q a
 |[],σ,Q,_,h=>⟨σ,rfl,h⟩
 |o::os,σ,Q,c,h=>by
  obtain⟨b,g,f⟩:=Qbnk (c o (by simp)) h;obtain⟨a,e,d⟩:=Qbav (fun o ho=>c o (by simp[ho])) f;exact⟨a,⟨b,g,e⟩,d⟩
theorem Alike.symm{o:COp}{s b : Sl}(h:Alike o s b):Alike o b s:=by
 refine⟨fun t w c=>(h.1 t w c).symm,fun a ha=>?_⟩;have:=h.2 a ha
 grind
theorem Q72(x y:V)(n m:Nat):Qme x.dem n y m=Qme x n y m:=by
 cases x<;>first|rfl|(cases y<;>rfl)
theorem Q5n(x y:V)(n m:Nat):Qme x n y.dem m=Qme x n y m:=by
 cases y<;>first|rfl|(cases x<;>rfl)
theorem Qbaw{x b y a : V}{n m:Nat}(d:b.dem=x.dem)(c:a.dem=y.dem):Qme b n a m=Qme x n y m:=by
 rw[<-Q72 b,<-Q72 x,d,<-Q5n _ a,<-Q5n _ y,c]
theorem Qbnn{C:Ctx}{n0 pc:Nat}{o:COp}{σ a : St}(h:Stp C n0 pc o σ a){t:Nat}(b:o.dst≠some t):(a.s t).dem=(σ.s t).dem:=by
 obtain⟨v,_,c⟩:=h;rw[c];have:Qbe (Q5 σ.s o.args (pv o σ.s)) o.dst v t=Q5 σ.s o.args (pv o σ.s) t:=by
  cases hd:o.dst with
  |none=>rfl
  |some d =>
   have:t≠d:=fun e=>b (by rw[hd,e]);simp[Qbe,Sl.put,this]
 grind [Q5h,Qbh8]
theorem Qbax{C:Ctx}{n0 pc:Nat}:∀{os:List COp}{σ a : St},Q9i C n0 pc os σ a->∀{t:Nat},(∀o∈os,o.dst≠some t)->(a.s t).dem=(σ.s t).dem
 |[],σ,a,h,t,_=>by rw[show a=σ from h]
 |o::os,σ,a,⟨c,h1,d⟩,t,b=>(Qbax d fun o ho=>b o (by simp[ho])).trans (Qbnn h1 (b o (by simp)))
theorem Qblh{C:Ctx}{n0 pc:Nat}{a b:COp}{w:List Pair}(l:Qp6 pc a b=some w){σ e d:St}(i:Qbic n0 σ.nb a σ.s σ.M)(h:Qbic n0 σ.nb b σ.s σ.M)(r:∀p∈w,Qme (σ.s p.a) p.n (σ.s p.b) p.m=true)(ha:Stp C n0 pc a σ e)(hb:Stp C n0 pc b e d):∃c,Stp C n0 pc b σ c/\Stp C n0 pc a c d:=by
 have g:a.slotsApart b=true:=by
  grind [Qp6]
 obtain⟨v,q,k⟩:=ha;obtain⟨u,o,j⟩:=hb;obtain⟨y,z,x⟩:=Qbf9 g σ.s v u;rw[<-k] at y x;obtain⟨t,f,B,A⟩:=Qbie l i h r q (y.symm.core o);refine⟨⟨_,t,f⟩,⟨u,B,rfl⟩,v,z.core A,?_⟩;rw[j];exact x
section
variable{P:Program}{C:Ctx}{n0 nt:Nat}{g0:G}{w0:World}
def Real(n0 nt:Nat)(g0:G)(w0:World)(σ:St):Prop:=∃a w g,SR n0 nt g0 w0 σ a w g
theorem Qbno{o:Oper}{a:Act}{w:World}{KK:Act->World->Prop}(h:o.wp P a w KK fun _ _ _=>False):∃i w',KK i w':=by
 unfold Oper.wp at h;generalize (execOp a.eval o).run P w=r at h;cases r with
 |ok n w' =>
  cases n with
  |value v=>exact⟨_,_,h⟩
  |skip=>exact⟨_,_,h⟩
  |defer d=>exact⟨_,_,h⟩
  |enter f args =>
   obtain⟨e,g,fr,b,_⟩:=(h:Calls P f args w' _) [];cases e with
   |returned v=>exact⟨_,_,b⟩
   |panicked c=>exact b.elim
   |outgrown=>obtain⟨_,_,h⟩:=b;exact h.elim
  |row row args =>
   obtain⟨v,g,b,_⟩:=(h:Rows P row args w' _) (Frame.enter P 0 #[] .normal) [];exact⟨_,_,b⟩
  |_=>exact h.elim
 |halt x w'=>cases x<;>exact h.elim
theorem Real.step(k:Qbh3 P g0 w0 C){T:Tk}{ops:Array Oper}{o:Oper}{c:COp}(hc:Qjy P T nt ops o=some c){pc:Nat}{σ b : St}(h:Real n0 nt g0 w0 σ)(i:Stp C n0 pc c σ b):Real n0 nt g0 w0 b:=by
 obtain⟨a,w,g,d⟩:=h;have:=Q9e (QQ:=fun _ _ _=>False) k hc d (Qbh5 (Q:=(· = b)) i rfl) (KK:=fun _ _=>Real n0 nt g0 w0 b) fun f l w' g' j e=>by subst j;exact⟨_,_,_,e⟩
 grind [Qbno]
theorem Q3r{T:Tk}{ops:Array Oper}{o:Oper}{c:COp}(hc:Qjy P T nt ops o=some c){σ:St}(h:Real n0 nt g0 w0 σ):Qbic n0 σ.nb c σ.s σ.M:=by
 obtain⟨a,w,g,f⟩:=h;obtain⟨n,A⟩:=Q70 hc;have u:=hc;unfold Qjy at hc;split at hc<;>try (cases hc;done)
 rename_i k y tk l;split at hc<;>try (cases hc;done)
 rename_i e;simp only[Zc,decide_eq_true_eq,Zt] at e;have j:c.args=y:=by
  grind
 have m:V.ons (There σ.M) (c.args.map (·.val σ.s)):=by
  rw[Qiq];intro v r;obtain⟨x,q,rfl⟩:=Zl.1 r;cases x with
  |t i=>exact f.onS i
  |c v =>
   have p:=e.2 _ (j ▸ q);simp only[Qbok] at p;exact Qf8 (fun k l=>absurd l (Nat.not_lt_zero k)) v (Qbkz v p)
 refine⟨?_,?_,fun k l=>?_⟩
 ·show V.ons (There σ.M) _
  grind [COp.xs,ons_dems]
 ·have z:=f.top;cases hd' : c.dst with
  |none=>grind
  |some d=>grind
 ·obtain⟨b,hb⟩:=Zab.1 l;exact (f.mem.box k b hb).1
theorem Qbgc(F:Qbh3 P g0 w0 C){T:Tk}{ops:Array Oper}{pc:Nat}{b:COp}{post:List COp}{f:St}(hb:∃o,Qjy P T nt ops o=some b):
  ∀(pre:List COp)(σ:St),(∀c∈pre,∃o,Qjy P T nt ops o=some c) ->
  (∀(g:List COp)a d,pre=g++a::d->∃l,Qp6 pc a b=some l/\∀p∈l,Qme (f.s p.a) p.n (f.s p.b) p.m=true/\∀c∈(a::d)++b::post,c.dst≠some p.a/\c.dst≠some p.b) ->
  Real n0 nt g0 w0 σ->Q9i C n0 pc (pre++b::post) σ f->Q9i C n0 pc (b::(pre++post)) σ f:=by
 intro pre
 induction pre with
 |nil=>grind
 |cons a pre B =>
  intro σ hc k hr h;obtain⟨j,x,y⟩:=h;obtain⟨o,ho⟩:=hc a (by simp);obtain⟨q,I,H⟩:=B j (fun c v=>hc c (by simp[v])) (fun g J d e=>k (a::g) J d (by rw[e];rfl)) (hr.step F ho x) y;obtain⟨l,t,r⟩:=k [] a pre rfl;obtain⟨ob,u⟩:=hb;have w:∀p∈l,Qme (σ.s p.a) p.n (σ.s p.b) p.m=true:=by
   intro p hp;obtain⟨M,L⟩:=r p hp;have E:Q9i C n0 pc (a::(pre++b::post)) σ f:=⟨j,x,y⟩
   grind [Qbaw,Qbax]
  obtain⟨i,A,z⟩:=Qblh t (Q3r ho hr) (Q3r u hr) w x I;exact⟨i,A,q,z,H⟩
theorem Qbem{ops:List Oper}(L:Nat->Prop)(r:∀(j:Nat)o,ops[j]? = some o->L j->∀e∈Qvo o,L e):
  ∀(b:List Oper)(a:List Nat),a.length+b.length=ops.length->b=ops.drop a.length ->
  (∀(j:Nat)l o,a[j]? = some l->ops[j]? = some o->(∀e∈Qvo o,L e)->∀x,l.testBit x=true->L x) ->
  ∀(j:Nat)l o,(b.foldl (fun a o=>a++[(Qvo o).foldl (fun l e=>l ||| 2 ^ e ||| a.getD e 0) 0]) a)[j]? = some l->ops[j]? = some o->(∀e∈Qvo o,L e)->∀x,l.testBit x=true->L x
 |[],a,_,_,n=>n
 |o::b,a,hlen,c,n=>by
  simp only[Zbd];have f:ops[a.length]? = some o:=by
   have:(ops.drop a.length)[0]? = some o:=by rw[<-c];rfl
   simpa using this
  refine Qbem L r b _ (by simp at hlen |-;omega) ?_ ?_
  ·have:b=(ops.drop a.length).drop 1:=by rw[<-c];rfl
   simp_all
  ·intro j l o' m d hb;by_cases q:j<a.length
   ·grind
   ·have i:j=a.length:=by
     grind
    subst i;rw[Zau (Ze _),Nat.sub_self,List.getElem?_cons_zero,Zh] at m;rw[f] at d;cases d;subst m;have:∀(es:List Nat)(g:Nat),(∀e∈es,L e)->(∀x,g.testBit x=true->L x)->∀x,(es.foldl (fun l e=>l ||| 2 ^ e ||| a.getD e 0) g).testBit x=true->L x:=by
     intro es
     induction es with
     |nil=>intro g _ h;exact h
     |cons e es p =>
      intro g s v;simp only[Zbd];refine p _ (fun t k=>s t (by simp[k])) fun x u=>?_
      grind
    grind
theorem Qbif{ops:List Oper}(L:Nat->Prop)(b:∀(j:Nat)o,ops[j]? = some o->L j->∀e∈Qvo o,L e){j:Nat}{o:Oper}(ho:ops[j]? = some o)(hb:∀e∈Qvo o,L e):∀x,((ancs ops).getD j 0).testBit x=true->L x:=by
 intro x a;cases hj:(ancs ops)[j]? with
 |none=>grind
 |some l =>
  simp[List.getD,hj] at a;exact Qbem L b ops [] (by simp) (by simp) (by simp) j l o hj ho hb x a
theorem Q4i{α:Type}{l:List α}{i:Nat}{x:α}:(i,x)∈enum l↔l[i]? = some x:=by
 simp_all[enum,List.mem_iff_getElem?,Zbz,Zm]
theorem Qbay{pc:Nat}{k:List Nat}{ops:List COp}{l:List Pair}(h:Quq pc k ops=some l){i j:Nat}{a b:COp}(z:ops[i]? = some a)(y:ops[j]? = some b)(t:i<j)(u:(k.getD j 0).testBit i=false):
  ∃m,Qp6 pc a b=some m/\m.all (Qyf ops i (k.getD j 0))=true/\∀p∈m,p∈l:=by
 unfold Quq at h;let d:=fun(q:Nat×COp)(c:Option (List Pair))(r:Nat×COp)=>(match c with
    |none=>none
    |some l=>if decide (q.1<r.1) && !(k.getD r.1 0).testBit q.1 then
      match Qp6 pc q.2 r.2 with
      |some m=>if m.all (Qyf ops q.1 (k.getD r.1 0)) then some (l++m) else none
      |none=>none
     else some l:Option (List Pair))
 have g:∀(q:Nat×COp)(e:List (Nat×COp))(c:Option (List Pair))(l:List Pair),e.foldl (d q) c=some l->∃n,c=some n/\(∀p∈n,p∈l) /\
   ∀r∈e,q.1<r.1->(k.getD r.1 0).testBit q.1=false->∃m,Qp6 pc q.2 r.2=some m/\m.all (Qyf ops q.1 (k.getD r.1 0))=true/\∀p∈m,p∈l:=by
  intro q e
  induction e with
  |nil=>grind
  |cons r e s =>
   intro c l h;simp only[Zbd] at h;obtain⟨x,w,A,v⟩:=s _ l h;cases c with
   |none=>simp[d] at w
   |some n =>
    grind
 have f:∀(o e:List (Nat×COp))(c:Option (List Pair))(l:List Pair),o.foldl (fun c q=>e.foldl (d q) c) c=some l->∃n,c=some n/\(∀p∈n,p∈l) /\
   ∀q∈o,∀r∈e,q.1<r.1->(k.getD r.1 0).testBit q.1=false->∃m,Qp6 pc q.2 r.2=some m/\m.all (Qyf ops q.1 (k.getD r.1 0))=true/\∀p∈m,p∈l:=by
  intro o e
  induction o with
  |nil=>grind
  |cons q o s =>
   intro c l h;simp only[Zbd] at h;obtain⟨x,w,A,v⟩:=s _ l h;obtain⟨n,F,E,B⟩:=g q e c x w
   grind
 obtain⟨_,_,_,v⟩:=f (enum ops) (enum ops) (some []) l h;exact v (i,a) (Q4i.2 z) (j,b) (Q4i.2 y) t u
end
end Go.Abs
end
section
namespace Go.Abs
open Go
instance:Inhabited COp:=⟨{ dst:=none,kind:=.mov,args:=[],tk:=false,guard:=none }⟩
theorem Qbgd(e:Edge):Region.binds .any e=Q4d e:=by
 grind [Go.Region.binds,Q4d]
def left(n:Nat)(a:Array Bool):List Nat:=(List.range n).filter fun i=>!a.getD i true
theorem Q4j{n:Nat}{a:Array Bool}(b:a.size=n){i:Nat}:i∈left n a↔i<n/\a.getD i false=false:=by
 unfold left
 grind
theorem Qbaz{l:Array Bool}{x:Nat}:l.getD x false=true↔l[x]? = some true:=by
 rw[Array.getD_eq_getD_getElem?];cases l[x]? <;> simp
theorem Q5o(n:Nat)(a:Array Bool):(left n a).Pairwise (· < ·):=List.pairwise_lt_range.filter _
theorem Qbig{n:Nat}{a:Array Bool}(k:a.size=n){i:Nat}{c b:List Nat}(h:left n a=c++i::b):left n (a.setIfInBounds i true)=c++b:=by
 have g:left n (a.setIfInBounds i true)=(left n a).filter (· ≠ i):=by
  unfold left;rw[List.filter_filter];apply List.filter_congr;intro j f;have d : j<a.size:=by simp at f;omega
  by_cases e:j=i
  all_goals simp_all[Array.getD,Array.getElem_setIfInBounds,Ne.symm]
 have hp:=Q5o n a;rw[h] at hp;rw[g,h,List.filter_append,List.filter_cons]
 grind [List.pairwise_cons,List.filter_eq_self]
mutual
theorem Qbc8:∀v:V,v.on fun _=>True
 |.ptr ..=>trivial
 |.sl ..=>trivial
 |.mp _=>trivial
 |.agg cs=>ons_true cs
 |.tup cs=>ons_true cs
 |.clo _ cs=>ons_true cs
 |.und=>trivial
 |.d _=>trivial
 |.own ..=>trivial
 |.ownT ..=>trivial
 |.nilp=>trivial
 |.f _=>trivial
 |.nils _=>trivial
 |.cref _=>trivial
theorem ons_true:∀vs:List V,V.ons (fun _=>True) vs
 |[]=>trivial
 |v::vs=>⟨Qbc8 v,ons_true vs⟩
end
section
variable{P:Program}{C:Ctx}{n0 nt:Nat}{g0:G}{w0:World}
theorem Qbge(hC:Qbh3 P g0 w0 C){T:Tk}{ops:Array Oper}{cs:List COp}(hcs:ops.toList.mapM (Qjy P T nt ops)=some cs){id pc:Nat}{ps:List Pair}(J:Qbg8 ops.toList=true)(hm:P.follows .mixedOrders=true)(A:∀c∈cs,c.kind.isNil=false)(hps:Quq pc (ancs ops.toList) cs=some ps){Q:St->Prop}{QQ:Exit->Act->World->Prop}(hQ:∀f a' w' g',Q f->SR n0 nt g0 w0 f a' w' g'->QQ .normal a' w'){σ:St}{a:Act}{w:World}{g:G}(h:SR n0 nt g0 w0 σ a w g)(hr:Qbab C n0 pc cs σ fun f=>(ps.all fun p=>Qme (f.s p.a) p.n (f.s p.b) p.m)=true/\Q f):(Code.region id ops true).wp P QQ a w:=by
 obtain⟨hlen,hget⟩:=Qpk hcs;obtain⟨B,r,hap,hq⟩:=Qbav A hr;have hlen' : cs.length=ops.size:=by rw[hlen];simp
 have l:∀i,i<ops.size->∃o,ops[i]? = some o/\cs[i]? = some cs[i]! /\ Qjy P T nt ops o=some cs[i]!:=by
  intro i hi;have I:cs[i]? = some cs[i]!:=by
   grind
  exact⟨ops[i],by simp[hi],I,hget i _ _ (by simp[hi]) I⟩
 have key:∀(fuel:Nat)(d:Array Bool)(σ:St)(a:Act)(w:World)(g:G),d.size=ops.size->(left ops.size d).length=fuel ->
   (∀(j:Nat)o,ops.toList[j]? = some o->d.getD j false=true->∀e∈Qvo o,d.getD e false=true) ->
   Q9i C n0 pc ((left ops.size d).map (cs[·]!)) σ B->SR n0 nt g0 w0 σ a w g->wpAny P .any ops QQ fuel d a w:=by
  intro fuel
  induction fuel with
  |zero =>
   intro d σ a w g L hl S r E;have A:left ops.size d=[]:=Zan hl;rw[A] at r;have:B=σ:=r;subst this;refine⟨?_,hQ _ _ _ g hq E⟩
   grind [left,List.filter_eq_nil_iff,Go.Region.ready]
  |succ fuel ih =>
   intro d σ a w g L hl S r E;have q:=Q5o ops.size d;have u:∀i o,ops[i]? = some o->(i∈Region.ready .any ops d↔i∈left ops.size d/\∀e∈Qvo o,d.getD e false=true):=by
    intro i o ho;unfold Region.ready left;simp only[Zq,ho,Zad,Option.getD_some,Zc,Array.all_eq_true',Qbgd,Zat,Bool.not_eq_true'];constructor
    ·rintro⟨W,I,h3⟩;refine⟨⟨W,I⟩,fun e X=>?_⟩;simp only[Qvo,Zl,Zq] at X
     grind
    ·rintro⟨⟨W,I⟩,h3⟩;refine⟨W,I,fun x hx=>?_⟩;cases hb:Q4d x with
     |false=>exact .inl rfl
     |true=>exact .inr (h3 x.on (by simp only[Qvo,Zl,Zq];grind))
   refine⟨fun hnone=>?_,fun i hi=>?_⟩
   ·exfalso;cases hle:left ops.size d with
    |nil=>grind
    |cons i rest =>
     have F:i∈left ops.size d:=by rw[hle];simp
     obtain⟨R,_⟩:=(Q4j L).1 F;obtain⟨o,ho,_,_⟩:=l i R;have:i∈Region.ready .any ops d:=by
      refine (u i o ho).2 ⟨F,fun e X=>?_⟩;have hlt:e<i:=by
       unfold Qbg8 at J;rw[Zt] at J;have:=J (i,o) (Q4i.2 (by simpa using ho))
       grind
      cases hle2:d.getD e false with
      |true=>rfl
      |false =>
       have:e∈left ops.size d:=(Q4j L).2 ⟨by omega,hle2⟩;rw[hle] at this q;rcases Zah.1 this with rfl|this
       all_goals grind [List.pairwise_cons]
     grind
   ·have R:i<ops.size:=by
     grind [Go.Region.ready]
    obtain⟨o,ho,hci,hco⟩:=l i R;obtain⟨F,U⟩:=(u i o ho).1 hi;obtain⟨l1,l2,y⟩:=List.append_of_mem F;have N:=Qbig L y;have hanc:∀x,((ancs ops.toList).getD i 0).testBit x=true->d.getD x false=true:=Qbif (fun x=>d.getD x false=true) S (by simpa using ho) U;have hmf:Q9i C n0 pc (cs[i]! :: (l1++l2).map (cs[·]!)) σ B:=by
     rw[y,Zbn,Zb] at r;rw[Zbn];refine Qbgc (P:=P) (nt:=nt) (g0:=g0) (w0:=w0) (T:=T) (ops:=ops) hC ⟨o,hco⟩ _ σ (fun c hc=>?_) (fun pre1 x pre2 X=>?_) ⟨a,w,g,E⟩ r
     ·grind
     ·obtain⟨k1,k2,z,hk1,hk2⟩:=List.map_eq_append_iff.1 X;obtain⟨j,k3,rfl,rfl,hk3⟩:=List.map_eq_cons_iff.1 hk2;subst z;have hjl:j∈left ops.size d:=by rw[y];simp
      obtain⟨hjn,hju⟩:=(Q4j L).1 hjl;have hso:=q;rw[y] at hso;have hso2:=Zbb.1 hso;have hji:j<i:=hso2.2.2 j (by simp) i (by simp);have hge:∀k∈(j::k3)++i::l2,j<=k:=by
       intro k z;have h5:((j::k3)++i::l2).Pairwise (· < ·):=by
        grind
       simp only[Zaq] at h5 z;rcases Zah.1 z with rfl|z
       ·exact Ze _
       ·exact Nat.le_of_lt ((Zam.1 h5).1 k z)
      have O:((ancs ops.toList).getD i 0).testBit j=false:=by
       grind
      obtain⟨oj,_,hcj,_⟩:=l j hjn;obtain⟨m,hm1,hm2,hm3⟩:=Qbay hps hcj hci hji O;refine⟨m,hm1,fun p hp=>⟨Zt.1 hap p (hm3 p hp),fun c hc=>?_⟩⟩;have hc' : ∃k∈(j::k3)++i::l2,cs[k]! = c:=by
       rw[<-hk3] at hc;rcases Zp.1 hc with hc|hc
       ·rcases Zah.1 hc with rfl|hc
        ·grind
        ·obtain⟨k,z,rfl⟩:=Zl.1 hc
         grind
       ·rcases Zah.1 hc with rfl|hc
        ·grind
        ·obtain⟨k,z,rfl⟩:=Zl.1 hc
         grind
      obtain⟨k,z,rfl⟩:=hc';have hkj:=hge k z;have hkl:k∈left ops.size d:=by
       grind
      obtain⟨hkn,hku⟩:=(Q4j L).1 hkl;obtain⟨_,_,hck,_⟩:=l k hkn;have hpk:=Zt.1 hm2 p hp;unfold Qyf at hpk;have:=Zt.1 hpk (k,cs[k]!) (Q4i.2 hck)
      grind
    obtain⟨σ1,hst,M⟩:=hmf;have:=Q9e (QQ:=QQ) hC hco E (Qbh5 (Q:=fun f=>Q9i C n0 pc ((l1++l2).map (cs[·]!)) f B) hst M) (KK:=wpAny P .any ops QQ fuel (d.setIfInBounds i true)) fun f a' w' g' hq' hs'=>by
     refine ih _ f a' w' g' (by simp[L]) ?_ (fun j oj hoj hj e X=>?_) ?_ hs'
     ·grind
     ·have hset:∀x,d.getD x false=true->(d.setIfInBounds i true).getD x false=true:=by
       intro x hx;rw[Qbaz] at hx |-;rw[Array.getElem?_setIfInBounds];split
       all_goals grind
      by_cases hji:j=i
      ·grind
      ·refine hset e (S j oj hoj ?_ e X);rw[Qbaz] at hj |-
       grind
     ·rw[N];exact hq'
    grind [Go.wpOp]
 refine wp_region_any hm (key ops.size _ σ a _ g (by simp) ?_ (fun j o _ hj=>?_) ?_ ?_)
 ·have:left ops.size (Array.replicate ops.size false)=List.range ops.size:=by
   simp_all[left,List.filter_eq_self,Array.getD]
  rw[this];simp
 ·simp_all[Array.getD,Array.size_replicate]
 ·have:(left ops.size (Array.replicate ops.size false)).map (cs[·]!)=cs:=by
   have W:left ops.size (Array.replicate ops.size false)=List.range ops.size:=by
    simp_all[left,List.filter_eq_self,Array.getD]
   rw[W];apply List.ext_getElem
   all_goals grind
  rw[this];exact r
 ·have z:Kept g w g { w with drawn:=w.drawn+1 } (fun _=>True) fun _=>True:=⟨⟨fun _ _ h=>h,fun _ _ _=>rfl⟩,fun _ _=>rfl,fun _ _ _=>⟨rfl,rfl,fun _=>Zk⟩⟩;have H:(∀v:V,v.on fun _=>True)/\∀vs:List V,V.ons (fun _=>True) vs:=by
   grind [Qbc8,Qiq]
  refine⟨⟨fun k b hb=>?_,h.mem.imm⟩,fun t=>Qdq z (fun _ _ h=>h) trivial _ _ _ trivial (H.1 _) (h.slots t),h.size,h.defers,h.onS,h.onM,h.top,?_⟩
  ·obtain⟨W,I,h3⟩:=h.mem.box k b hb;refine⟨W,I,?_⟩;cases b with
   |mp es c =>
    obtain⟨ents,k1,k2⟩:=h3;exact⟨ents,k1,Qll (g:=g) (g':=g) z (fun _=>trivial) k2⟩
   |cells cs =>
    obtain⟨vals,e,k1,k2,k3⟩:=h3;exact⟨vals,e,k1,RVs_mono z (fun _ _ h=>h) trivial _ _ _ _ trivial (H.2 _) k2,k3⟩
  ·exact⟨h.fr.os,h.fr.tape,h.fr.output,h.fr.size,⟨h.fr.imm.mono,h.fr.imm.look⟩,h.fr.box,h.fr.old⟩
end
end Go.Abs
end
