/-
  Part 2 of the proof: see the last text.
-/
import Derived.Test.YtdckcingoapofaaGreatDoorP1
import Derived.Laws.MakeOwn
import Derived.WalkSpells
import Derived.MapKept
set_option linter.unusedVariables false
set_option linter.unusedSimpArgs false
set_option linter.unusedSectionVars false
section
namespace Go.Abs
open Go
def G.re(g:G)(f:Owner->Owner):G:={ g with own:=fun b=>f (g.own b) }
section
variable{g:G}{w:World}
mutual
theorem Qrj{f:Owner->Owner}(n:∀o i,f (o.sub i)=(f o).sub i)(c:f .ext = .ext):∀(v:V)(ℓ:Owner)(u:Value),RV g w v ℓ u->RV (g.re f) w v (f ℓ) u
 |.und,_,_,_=>by simp[RV]
 |.d x,_,_,h=>by simpa[RV,G.re] using h
 |.agg cs,ℓ,u,h=>by
  simp only[RV] at h |-;obtain⟨vs,rfl,h,a⟩:=h;exact⟨vs,rfl,RVs_re n c cs ℓ 0 vs h,a⟩
 |.tup cs,ℓ,u,h=>by
  simp only[RV] at h |-;obtain⟨vs,rfl,h⟩:=h;exact⟨vs,rfl,RVs_re n c cs ℓ 0 vs h⟩
 |.own sz l,ℓ,u,h=>by
  simp only[RV] at h |-;rcases h with h|⟨b,cap,vals,e,a,j,h3⟩
  ·exact .inl h
  ·exact .inr ⟨b,cap,vals,e,a,by simp[G.re,j],h3⟩
 |.ownT sz l,ℓ,u,h=>by
  simp only[RV] at h |-;rcases h with h|⟨b,o0,cap,vals,e,a,j,h3⟩
  ·exact .inl h
  ·exact .inr ⟨b,o0,cap,vals,e,a,by simp[G.re,j],h3⟩
 |.ptr k off,_,_,h=>by simpa[RV,G.re] using h
 |.nilp,_,_,h=>by simpa[RV] using h
 |.f x,_,u,h=>by
  simp only[RV] at h |-;exact Qgk (Qbd2 (g:=g) (g':=g.re f) fun b o a j=>⟨a,by show f (g.own b) = .ext;rw[j,c]⟩) x u h
 |.nils _,_,_,h=>by simpa[RV] using h
 |.cref cs,_,_,h=>by simpa[RV,G.re] using h
 |.sl ..,_,_,h=>by simpa[RV,G.re] using h
 |.clo p m,_,u,h=>by
  simp only[RV] at h |-;obtain⟨vs,rfl,h⟩:=h;have:=RVs_re n c m .ext 0 vs h;rw[c] at this;exact⟨vs,rfl,this⟩
 |.mp k,_,_,h=>by simpa[RV,G.re] using h
theorem RVs_re{f:Owner->Owner}(a:∀o i,f (o.sub i)=(f o).sub i)(b:f .ext = .ext):∀(cs:List V)(ℓ:Owner)(i:Nat)(us:List Value),RVs g w cs ℓ i us->RVs (g.re f) w cs (f ℓ) i us
 |[],_,_,_,h=>by simpa[RVs] using h
 |c::cs,ℓ,i,us,h=>by
  simp only[RVs] at h |-;obtain⟨u,us,rfl,e,d⟩:=h;exact⟨u,us,rfl,by rw[<-a];exact Qrj a b c _ u e,RVs_re a b cs ℓ (i+1) us d⟩
end
theorem Imm.refl(imm:Nat->Nat->Prop)(w:World):Imm imm imm w w:=⟨fun _ _ h=>h,fun _ _ _=>rfl⟩
theorem Kept.re(g:G)(w:World)(f:Owner->Owner)(p:Nat->Prop):Kept g w (g.re f) w p (fun o=>f o=o):=
 ⟨Imm.refl _ _,fun _ _=>rfl,fun b hb _=>⟨hb,rfl,fun _=>Zk⟩⟩
open Classical in
noncomputable def ex(a b:Owner)(o:Owner):Owner:=if o=a then b else o
theorem Kept.ex(g:G)(w:World)(a b:Owner)(p:Nat->Prop):Kept g w (g.re (ex a b)) w p (fun o=>o≠a):=
 ⟨Imm.refl _ _,fun _ _=>rfl,fun c hc _=>⟨by simp[G.re,Abs.ex,hc],rfl,fun _=>Zk⟩⟩
theorem Qbme{sz:Nat}{l:List (List D)}{f:Owner->Owner}{a b:Owner}{u:Value}(h:RV g w (.own sz l) a u)(d:f a=b):RV (g.re f) w (.own sz l) b u:=by
 simp only[RV] at h |-;rcases h with h|⟨c,cap,vals,e,h1,h2,h3⟩
 ·exact .inl h
 ·exact .inr ⟨c,cap,vals,e,h1,by simp only[G.re];rw[h2,d],h3⟩
theorem Q7l{sz:Nat}{l:List (List D)}{a b:Owner}{u:Value}(h:RV g w (.own sz l) a u):RV (g.re (ex a b)) w (.own sz l) b u:=by
 simp only[RV] at h |-;rcases h with h|⟨c,cap,vals,e,h1,h2,h3⟩
 ·exact .inl h
 ·exact .inr ⟨c,cap,vals,e,h1,by simp[G.re,Abs.ex,h2],h3⟩
theorem Qbnd{sz:Nat}{l:List (List D)}{a b:Owner}{u:Value}(h:RV g w (.ownT sz l) a u):RV (g.re (ex a b)) w (.ownT sz l) b u:=by
 simp only[RV] at h |-;rcases h with h|⟨c,o0,cap,vals,e,h1,h2,h3⟩
 ·exact .inl h
 ·exact .inr ⟨c,o0,cap,vals,e,h1,by simp[G.re,Abs.ex,h2],h3⟩
theorem Qlz{g' : G}{w' : World}{p:Nat->Prop}(h:Kept g w g' w' p (· = .ext)){v:V}(b:Flat v)(hp:v.on p){ℓ a : Owner}{u:Value}(c:RV g w v ℓ u):RV g' w' v a u :=
 Qmf b (Qdq h (by rintro ℓ i rfl;rfl) rfl v .ext u rfl hp (Qmf b c))
theorem Kept.weaken{g' : G}{w' : World}{p q:Nat->Prop}{keep a : Owner->Prop}(h:Kept g w g' w' p keep)(hp:∀k,q k->p k)(e:∀o,a o->keep o):Kept g w g' w' q a :=
 ⟨h.imm,fun k d=>h.box k (hp k d),fun b hb c=>h.own b (e _ hb) c⟩
theorem MR.kept{g' : G}{w' : World}{M:Mem}{nb:Nat}{keep:Owner->Prop}(y:MR g w M nb)(h:Kept g w g' w' (There M) keep)(r:MOn (There M) M)(u:∀ℓ i,keep ℓ->keep (ℓ.sub i))(z:keep .ext)(hb:∀k,There M k->keep (.box k))(l:∀b o,g'.imm b o->b<w'.heap.size/\∀k,g'.own b ≠ .box k):MR g' w' M nb:=by
 refine⟨fun k b s=>?_,l⟩;have j:There M k:=by simp[There,s]
 obtain⟨x,n,v⟩:=y.box k b s;cases b with
 |mp es c =>
  obtain⟨m,t,hr⟩:=v;have f:g.box k<w.heap.size:=by
   grind
  obtain⟨q,p,_⟩:=h.own (g.box k) (by rw[n];exact hb k j) f;have a:=h.box k j;exact⟨x,by rw[a,q,n],m,by rw[a,p,t],Qll h (fun i=>u (.box k) i (hb k j)) hr⟩
 |cells cs =>
  obtain⟨d,e,t,hr,ho⟩:=v;have f:g.box k<w.heap.size:=by
   grind
  obtain⟨q,p,_⟩:=h.own (g.box k) (by rw[n];exact hb k j) f;have a:=h.box k j;refine⟨x,by rw[a,q,n],d,e,by rw[a,p,t],RVs_mono h u z cs (.box k) 0 d (hb k j) (r k cs s) hr,ho⟩
theorem Qf9{s:Sl}{a:Act}{dst:Option Nat}{v:V}{val:Value}(c:∀d,dst=some d->d<a.tmps.size)(h:∀t,dst≠some t->RV g w (s t) (.slot t []) (a.tmps.getD t undef))(f:∀d,dst=some d->RV g w v (.slot d []) val):
  ∀t,RV g w (Qbe s dst v t) (.slot t []) ((a.put dst val).tmps.getD t undef):=by
 intro t;cases dst with
 |none=>exact h t (by simp)
 |some d =>
  have i:=c d rfl;by_cases b:t=d
  ·subst b;simpa[Qbe,Sl.put,Act.put,i] using f t rfl
  ·have:=h t (by simpa using fun e=>b e.symm);simpa[Qbe,Sl.put,Act.put,b,Array.getElem?_setIfInBounds_ne (Ne.symm b)] using this
theorem Qg9(a:Act)(dst:Option Nat)(val:Value):(a.put dst val).tmps.size=a.tmps.size:=by cases dst<;>simp[Act.put]
theorem Qeo(a:Act)(dst:Option Nat)(val:Value):(a.put dst val).defers=a.defers:=by cases dst<;>rfl
theorem Qga{p:Nat->Prop}{s:Sl}{dst:Option Nat}{v:V}(h:∀t,(s t).on p)(a:v.on p):∀t,(Qbe s dst v t).on p:=by
 intro t;cases dst with
 |none=>exact h t
 |some d =>
  simp only[Qbe,Sl.put]
  grind
theorem SR.step{n0 nt:Nat}{g0 g' : G}{w0 w' : World}{σ:St}{a d : Act}{e : Sl}{M' : Mem}(h:SR n0 nt g0 w0 σ a w g)(m:MR g' w' M' σ.nb)(n:Fr n0 g w g' w')(l:∀t,RV g' w' (e t) (.slot t []) (d.tmps.getD t undef))(f:d.tmps.size=a.tmps.size)(o:d.defers=a.defers)(i:∀t,(e t).on (There M'))(c:MOn (There M') M')(b:∀k cs,M' k=some (.cells cs)->k<n0->V.ons (· < n0) cs):
  SR n0 nt g0 w0 ⟨e,M',σ.nb⟩ d w' g' where
 mem:=m
 slots:=l
 size:=f.trans h.size
 defers:=o.trans h.defers
 onS:=i
 onM:=fun k cs j=>⟨c k cs j,b k cs j⟩
 top:=h.top
 fr:=h.fr.next (Ze _) n
theorem SR.mOn{n0 nt:Nat}{g0:G}{w0:World}{σ:St}{a:Act}(h:SR n0 nt g0 w0 σ a w g):MOn (There σ.M) σ.M:=fun k cs b=>(h.onM k cs b).1
theorem SR.out{n0 nt:Nat}{g0:G}{w0:World}{σ:St}{a:Act}(h:SR n0 nt g0 w0 σ a w g):∀k cs,σ.M k=some (.cells cs)->k<n0->V.ons (· < n0) cs:=fun k cs c b=>(h.onM k cs c).2 b
theorem SR.pure{n0 nt:Nat}{g0:G}{w0:World}{σ:St}{a:Act}(h:SR n0 nt g0 w0 σ a w g){dst:Option Nat}{v:V}{val:Value}(f:∀d,dst=some d->d<nt)(e:∀d,dst=some d->RV g w v (.slot d []) val)(b:v.on (There σ.M)):SR n0 nt g0 w0 ⟨Qbe σ.s dst v,σ.M,σ.nb⟩ (a.put dst val) w g :=
 h.step h.mem (Fr.refl _ _ _) (Qf9 (fun d c=>by rw[h.size];exact f d c) (fun t _=>h.slots t) e) (Qg9 _ _ _) (Qeo _ _ _) (Qga h.onS b) h.mOn h.out
theorem SR.alloc{n0 nt:Nat}{g0:G}{w0:World}{σ:St}{a:Act}(h:SR n0 nt g0 w0 σ a w g){dst:Option Nat}{κ:Nat}{cs:List V}{us:List Value}{e:TypeId}{v:V}{val:Value}(J:∀d,dst=some d->d<nt)(C:n0<=κ)(r : κ<σ.nb)(p:σ.M κ=none)(q:CR g w cs us)(y:V.ons (There σ.M) cs)(x:v.on (There (σ.M.put κ (.cells cs))))(E:∀(g' : G)(w' : World),g'.box κ=w.heap.size->RF g' w' v val):
  ∃g',SR n0 nt g0 w0 ⟨Qbe σ.s dst v,σ.M.put κ (.cells cs),σ.nb⟩ (a.put dst val) (w.alloc (.cells us.toArray e)) g':=by
 let g' : G:={ box:=fun k=>if k=κ then w.heap.size else g.box k,imm:=g.imm,own:=fun b=>if b=w.heap.size then .box κ else g.own b };have f:Kept g w g' (w.alloc (.cells us.toArray e)) (There σ.M) (fun _=>True):=by
  refine⟨⟨fun _ _ hb=>hb,fun b o hb=>?_⟩,fun k i=>?_,fun b _ hb=>⟨?_,?_,fun _=>Zk⟩⟩
  ·exact Qew (RowKit.Below.heap_alloc w _ b (h.mem.imm b o hb).1)
  ·have:k≠κ:=by rintro rfl;simp[There,p] at i
   simp[g',this]
  all_goals grind [Go.RowKit.Below.heap_alloc]
 have m:∀t,RV g' (w.alloc (.cells us.toArray e)) (σ.s t) (.slot t []) (a.tmps.getD t undef):=fun t =>
  Qdq f (fun _ _ h=>h) trivial _ _ _ trivial (h.onS t) (h.slots t)
 have n:∀b o,g'.imm b o->b<(w.alloc (.cells us.toArray e)).heap.size/\∀k,g'.own b ≠ .box k:=by
  intro b o hb;obtain⟨N,L⟩:=h.mem.imm b o hb
  grind [Go.World.size_alloc]
 have H:=h.mem.kept f h.mOn (fun _ _ h=>h) trivial (fun _ _=>trivial) n;have l:∀k,There σ.M k->There (σ.M.put κ (.cells cs)) k:=fun k i=>i.put;refine⟨g',h.step ?_ ?_ (Qf9 (fun d B=>by rw[h.size];exact J d B) (fun t _=>m t) (fun d _=>E g' _ (by simp[g']) _)) (Qg9 _ _ _) (Qeo _ _ _) (Qga (fun t=>Qf8 l _ (h.onS t)) x) ?_ ?_⟩
 ·refine⟨fun k b i=>?_,n⟩;simp only[Mem.put] at i;split at i
  ·rename_i A;subst A;cases i;refine⟨r,by simp[g'],us,e,?_,?_,q.one⟩
   ·simp only[g',if_true];exact heap_alloc_new w _
   ·refine (Qc8 _ _ _ _).2 ⟨q.len,fun j c u hc F=>?_⟩;have I:=q.rf j c u hc F;exact Qdq f (fun _ _ h=>h) trivial c _ u trivial (Qft y hc) (I _)
  ·exact H.box k b i
 ·exact⟨rfl,rfl,rfl,by simp,f.imm,fun k i=>(by
   grind),fun b hb _=>f.own b trivial hb⟩
 ·intro k cs' i;simp only[Mem.put] at i;split at i
  ·cases i;exact ons_mono l _ y
  ·exact ons_mono l _ (h.mOn k cs' i)
 ·intro k cs' i z;simp only[Mem.put] at i;rw[if_neg (by omega)] at i;exact h.out k cs' i z
end
end Go.Abs
end
section
namespace Go.Abs
open Go
section
variable(P:Program){g:G}{w:World}{n0 nt:Nat}{g0:G}{w0:World}{σ:St}{a:Act}
theorem Qbop(h:SR n0 nt g0 w0 σ a w g){dst:Option Nat}(y:∀d,dst=some d->d<nt)(e:TypeId){x v:V}{u:Value}{κ n:Nat}{M' : Mem}(i:n0<=κ)(f : κ<σ.nb)(t:Flat x)(q:RF g w x u)(k:x.on (There σ.M))(c:Ql n0 κ (.box n) [x] σ.M=some (v,M')):
  ∃val w' g',(Instr.box e u).run P w = .ok val w'/\SR n0 nt g0 w0 ⟨Qbe σ.s dst v,M',σ.nb⟩ (a.put dst val) w' g':=by
 have key:Qei x=true/\σ.M κ=none/\v = .ptr κ 0/\M'=σ.M.put κ (.cells x.cells):=by
  simp only[Ql] at c;split at c<;>try (cases c;done)
  rename_i A z;split at c<;>try (cases c;done)
  rename_i hc;simp only[Zc,decide_eq_true_eq,Zba] at hc;cases c;refine⟨?_,hc.2,rfl,rfl⟩;cases x<;>simp_all[Qei]
 obtain⟨l,b,rfl,rfl⟩:=key;obtain⟨p,o,m⟩:=Q87 t q l;obtain⟨g',j⟩:=h.alloc (dst:=dst) (v:=.ptr κ 0) (val:=.pointer (some ⟨w.heap.size,0,none⟩)) (e:=e) y i f b ⟨p,o,m⟩ (Qof k) There.self
  (fun g' w' r=>Qry.2 (by rw[r]))
 exact⟨.pointer (some ⟨w.heap.size,0,none⟩),w.alloc (.cells u.cells e),g',by simp[Instr.box,newVar,newRow],by simpa using j⟩
theorem Qbk6(h:SR n0 nt g0 w0 σ a w g){dst:Option Nat}(u:∀d,dst=some d->d<nt)(e:TypeId){z:List V}(q:Qsj P e=some z){v:V}{κ:Nat}{M' : Mem}(j:n0<=κ)(c : κ<σ.nb)(f:Ql n0 κ (.alloc z) [] σ.M=some (v,M')):
  ∃val w' g',(Instr.alloc e true (.tuple #[])).run P w = .ok val w'/\SR n0 nt g0 w0 ⟨Qbe σ.s dst v,M',σ.nb⟩ (a.put dst val) w' g':=by
 obtain⟨i,p,r,k,o,m⟩:=Qkc P q;simp only[Ql] at f;split at f<;>try (cases f;done)
 rename_i b;simp only[Zba] at b;cases f;obtain⟨g',l⟩:=h.alloc (dst:=dst) (v:=.ptr κ 0) (val:=.pointer (some ⟨w.heap.size,0,none⟩)) (e:=e) u j c b (o g w) (ons_mono (by simp) z (ons_lt (n:=0) z (m 0))) There.self
  (fun g' w' t=>Qry.2 (by rw[t]))
 exact⟨.pointer (some ⟨w.heap.size,0,none⟩),w.alloc (.cells p.cells e),g',by simp[Instr.alloc,Qpj P r k,newVar,newRow],by simpa using l⟩
theorem Q44(z:List Value)(b:0<z.length):∀(n j:Nat),j<n*z.length->(List.replicate n z).flatten[j]? = z[j % z.length]?
 |0,j,h=>by simp at h
 |n+1,j,h=>by
  simp only[Zbu,Zaz];rcases Zak j z.length with hlt|hge
  ·rw[Zay hlt,Nat.mod_eq_of_lt hlt]
  ·rw[Zau hge,Q44 z b n (j-z.length) (by rw[Zv] at h;omega)];congr 1
   conv=>rhs;rw[<-Nat.sub_add_cancel hge,Nat.add_mod_right]
theorem Qpl(z:Array Value)(b:0<z.size)(n:Nat):madeCells z (n*z.size)=(List.replicate n z.toList).flatten.toArray:=by
 apply Array.ext';apply List.ext_getElem?;intro j;rcases Zak j (n*z.size) with hlt|hge
 ·grind [Q44,Nat.mod_lt,Go.madeCells]
 simp_all[List.getElem?_eq_none,Go.madeCells]
theorem Qbk7(h:SR n0 nt g0 w0 σ a w g){dst:Option Nat}(T:∀d,dst=some d->d<nt)(t e:TypeId)(O:P.underlying t=some (.slice e)){z:List V}(J:Qsj P e=some z){x y v:V}{u q:Value}{κ:Nat}{M' : Mem}(A:n0<=κ)(m : κ<σ.nb)(N:RF g w x u)(L:RF g w y q)(k:Ql n0 κ (.makes (P.cellsOf e) (P.bytesOf e) z) [x,y] σ.M=some (v,M')):
  ∃val w' g',(Instr.makeSlice t u q).run P w = .ok val w'/\SR n0 nt g0 w0 ⟨Qbe σ.s dst v,M',σ.nb⟩ (a.put dst val) w' g':=by
 obtain⟨i,r,H,B,p,E⟩:=Qkc P J
 match x,y,k with
 |.d (.int .i64 l),.d (.int .i64 c),k =>
  simp only[Ql] at k;split at k<;>try (cases k;done)
  rename_i hc;simp only[Zc,decide_eq_true_eq,beq_iff_eq,Zba] at hc;obtain⟨⟨⟨⟨⟨⟨h0,F⟩,f⟩,W⟩,I⟩,Q⟩,j⟩:=hc;cases k;have U:=(p g w).len;have C:r.cells.size=P.cellsOf e:=by grind
  have X:P.bytesOf e=i.bytes:=by simp[Program.bytesOf,H]
  have b:(i.bytes:Int)*c<=281474976710656:=by
   have h1:(i.bytes:Int)<=128:=by omega
   have h2:c<=1099511627776:=by simpa[lim] using f
   have h3:(i.bytes:Int)*c<=128*c:=Int.mul_le_mul_of_nonneg_right h1 (by omega);omega
  have o:=run_make (P:=P) w t e i r O H B .i64 .i64 l c h0 F b (by simp only[lim] at f;omega);rw[<-Qfj P H,<-C,Qpl r.cells (by omega)] at o;rw[Qp7 N,Qp7 L];obtain⟨g',R⟩:=h.alloc (dst:=dst) (v:=.sl (P.cellsOf e) κ 0 l.toNat c.toNat) (val:=.slice (some ⟨w.heap.size,0,none⟩) l.toNat c.toNat) (e:=e) T A m j (CR.rep (p g w) c.toNat)
   (Q43 (ons_mono (by simp) z (ons_lt (n:=0) z (E 0))) _) There.self (fun g' w' S=>Q64.2 (by rw[S]))
  grind
theorem Qbhl(h:SR n0 nt g0 w0 σ a w g){dst:Option Nat}(hd:∀d,dst=some d->d<nt)(t e:TypeId)(ht:P.underlying t=some (.slice e)){z:List V}(hz:Qsj P e=some z)(n:Nat)(hn:n*P.cellsOf e<=65536)(c:List Nat){xs:List V}{us:List Value}{v:V}{κ:Nat}{M' : Mem}(J:n0<=κ)(u : κ<σ.nb)(hfl:∀x∈xs,Flat x)(hx:RFs g w xs us)(R:V.ons (There σ.M) xs)(hs:Ql n0 κ (.bslice (P.cellsOf e) n z c) xs σ.M=some (v,M')):
  ∃val w' g',(Instr.buildSlice t n (c.zip us).toArray).run P w = .ok val w'/\SR n0 nt g0 w0 ⟨Qbe σ.s dst v,M',σ.nb⟩ (a.put dst val) w' g':=by
 obtain⟨i,zv,X,L,F,U⟩:=Qkc P hz;have k : (if c.length=xs.length&&decide (0<P.cellsOf e)&&z.length==P.cellsOf e&&(c.zip xs).all (fun(i,x)=>Qei x&&x.cells.length==P.cellsOf e&&decide (i<n))&&(σ.M κ).isNone
   then some (V.sl (P.cellsOf e) κ 0 n n,σ.M.put κ (.cells (Qi4 (rep n z) ((c.zip xs).map fun(i,x)=>(i*P.cellsOf e,x.cells))))) else none)=some (v,M'):=by cases xs<;>exact hs
 split at k<;>try (cases k;done)
 rename_i hc;simp only[Zc,decide_eq_true_eq,beq_iff_eq,Zba,Zt] at hc;obtain⟨⟨⟨⟨l,hsz⟩,N⟩,I⟩,m⟩:=hc;cases k;have hcl:=(F g w).len;have f:zv.cells.size=P.cellsOf e:=by grind
 have A:(rep n z).length=n*P.cellsOf e:=by simp[rep,N]
 have r:=CR.rep (F g w) n;obtain⟨out,b,H⟩:=Qtc (g:=g) (w:=w) (fun i=>some (i*P.cellsOf e,P.cellsOf e)) (rep n z) _ r c (c.map (· * P.cellsOf e)) (c.map fun _=>P.cellsOf e) xs us hx hfl l (by simp[l]) (by simp[l])
  (fun j x i o s hxj W C y=>by
   simp only[Zag,Zd] at C y;obtain⟨p,hp,rfl⟩:=C;obtain⟨p',hp',rfl⟩:=y;rw[W] at hp;cases hp;have:=I (i,x) (Zn (i:=j) (by grind));simp only[Zc,beq_iff_eq,decide_eq_true_eq] at this;refine⟨this.1.1,this.1.2,?_,rfl⟩;rw[A]
   calc i*P.cellsOf e+P.cellsOf e=(i+1)*P.cellsOf e:=by rw[Zv];omega
    _<=n*P.cellsOf e:=Zbi _ this.2)
 have B:V.ons (There σ.M) (Qi4 (rep n z) ((c.zip xs).map fun(i,x)=>(i*P.cellsOf e,x.cells))):=by
  refine Q01 _ _ (Q43 (ons_mono (by simp) z (ons_lt (n:=0) z (U 0))) n) fun q hq=>?_;simp only[Zl] at hq;obtain⟨⟨p,x⟩,E,rfl⟩:=hq;exact Qof (Qiq.1 R x (Qzy E))
 have e1:((c.map (· * P.cellsOf e)).zip xs).map (fun p=>(p.1,p.2.cells))=(c.zip xs).map fun(i,x)=>(i*P.cellsOf e,x.cells):=by
  rw[List.zip_map_left,Zap];rfl
 rw[e1] at H;obtain⟨g',O⟩:=h.alloc (dst:=dst) (v:=.sl (P.cellsOf e) κ 0 n n) (val:=.slice (some ⟨w.heap.size,0,none⟩) n n) (e:=e) hd J u m H B There.self (fun g' w' hg=>Q64.2 (by rw[hg]));refine⟨_,_,g',?_,O⟩;have E:=Qpl zv.cells (by omega) n;rw[f] at E;unfold madeCells at E;have S:¬(16777216<n*P.cellsOf e):=by omega
 have Q:∀w,(sizeOf e).run P w = .ok (P.cellsOf e) w:=fun w=>by rw[Qhk P X,Qfj P X]
 by_cases T:n*P.cellsOf e=0
 ·have:n=0:=by
   grind [Nat.mul_eq_zero]
  simp_all[absurd,List.replicate_zero,List.flatten_nil,List.zip_nil_left,Go.Instr.fill,Zh,Go.Instr.buildSlice,Go.run_underlying,Go.newRow,Qpj,Go.Array.range_zero']
 ·rw[<-E] at b;rw[f] at b;simp[Instr.buildSlice,run_underlying ht,Q,Qpj P X L,S,T,f,b,newRow]
end
end Go.Abs
end
section
namespace Go.Abs
open Go
section
variable(P:Program){g:G}{w:World}{n0 nt:Nat}{g0:G}{w0:World}{σ:St}{a:Act}
theorem Qyj{v:V}(h:∀sz l,v ≠ .own sz l):v.top=v.dem:=by
 cases v<;>first|rfl|exact absurd rfl (h _ _)
theorem Qzz(f:MR g w σ.M σ.nb){k:Nat}{cs:List V}(j:σ.M k=some (.cells cs))(c:Array Value):
  Kept g w g (w.setRow (g.box k) c) (There σ.M) (fun o=>o ≠ .box k):=by
 obtain⟨_,hb,_⟩:=f.box k _ j;refine⟨⟨fun _ _ h=>h,fun b o d=>?_⟩,fun _ _=>rfl,fun b e i=>⟨rfl,?_,fun _=>Zk⟩⟩
 ·have:b≠g.box k:=by rintro rfl;exact (f.imm _ _ d).2 k hb
  exact Qew (setRow_other w _ _ _ this)
 ·have:b≠g.box k:=by rintro rfl;exact e hb
  exact setRow_other w _ _ _ this
theorem Qnn{o:Owner}{i k:Nat}(h:o ≠ .box k):o.sub i ≠ .box k:=by
 cases o<;>simp_all[Owner.sub]
theorem SR.row(h:SR n0 nt g0 w0 σ a w g){k:Nat}{cs q:List V}{us H:List Value}{e:TypeId}{f:Owner->Owner}(p:∀o j,f o = .box j↔o = .box j)(C:∀o,Prot o->f o=o)(hk:σ.M k=some (.cells cs))(hh:w.heap[g.box k]? = some (.cells H.toArray e (0,0)))(L:RVs (g.re f) (w.setRow (g.box k) us.toArray) q (.box k) 0 us)(h1:∀u∈us,u.oneCell'=true){Q : Sl}{O : Act}(hs:∀t,RV (g.re f) (w.setRow (g.box k) us.toArray) (Q t) (.slot t []) (O.tmps.getD t undef))(R:O.tmps.size=a.tmps.size)(hd:O.defers=a.defers)(J:∀t,(Q t).on (There σ.M))(honn:V.ons (There σ.M) q)(hout:k<n0->V.ons (· < n0) q)(I:∀j cs',j≠k->σ.M j=some (.cells cs')->∀i c u,cs'[i]? = some c->RV g w c (.cell j i) u->RV (g.re f) w c (.cell j i) u)(y:∀j i sz l u,RV g w (.own sz l) (.cell j i) u->RV (g.re f) w (.own sz l) (.cell j i) u):
  SR n0 nt g0 w0 ⟨Q,σ.M.put k (.cells q),σ.nb⟩ O (w.setRow (g.box k) us.toArray) (g.re f):=by
 obtain⟨A,hb,_⟩:=h.mem.box k _ hk;have d:=Qzz (g:=g) (w:=w) h.mem hk us.toArray;have v:Kept (g.re f) w (g.re f) (w.setRow (g.box k) us.toArray) (There σ.M) (fun o=>o ≠ .box k):=
  ⟨d.imm,fun _ _=>rfl,fun b E r=>⟨rfl,(d.own b (fun e=>E (by
   show f (g.own b)=_
   grind)) r).2.1,fun _=>Zk⟩⟩
 have n:∀j,There σ.M j->There (σ.M.put k (.cells q)) j:=fun j m=>m.put;refine h.step ?_ ?_ hs R hd (fun t=>Qf8 n _ (J t)) ?_ ?_
 ·refine⟨fun j b m=>?_,fun b o U=>?_⟩
  ·simp only[Mem.put] at m;split at m
   ·rename_i he;subst he;cases m;refine⟨A,(p _ _).2 hb,us,e,setRow_heap w _ _ _ e _ hh,L,h1⟩
   ·rename_i z;obtain⟨k1,k2,X⟩:=h.mem.box j b m;refine⟨k1,(p _ _).2 k2,?_⟩;cases b with
    |mp es c =>
     obtain⟨N,B,s⟩:=X;have F:g.box j≠g.box k:=by
      grind
     exact⟨N,(setRow_other w _ _ _ F).trans B,Qll (g:=g.re f) v (fun _=>by simp) (Qbhd (g:=g) (g':=g.re f) (Imm.refl _ _) (fun sz l i u hv=>y j i sz l u hv) s)⟩
    |cells cs' =>
     obtain⟨vs,e',B,s,T⟩:=X;have F:g.box j≠g.box k:=by
      grind
     refine⟨vs,e',(setRow_other w _ _ _ F).trans B,(Qc8 _ _ _ _).2 ⟨Qp0 s,fun i c u hc hu=>?_⟩,T⟩;have S:=((Qc8 _ _ _ _).1 s).2 i c u hc hu;have h2:=I j cs' z m i c u hc (by simpa[Owner.sub] using S);have x : Kept (g.re f) w (g.re f) (w.setRow (g.box k) us.toArray) (There σ.M) (fun o=>o ≠ .box k):=
      ⟨d.imm,fun _ _=>rfl,fun b E r=>⟨rfl,(d.own b (fun e=>E ((p _ _).2 e)) r).2.1,fun _=>Zk⟩⟩
     have:=Qdq x (fun _ i h=>Qnn h) (by simp) c (.cell j i) u (by simp) (Qft (h.mOn j cs' m) hc) h2;simpa[Owner.sub] using this
  ·obtain⟨h3,h4⟩:=h.mem.imm b o U;refine⟨by rw[setRow_size];exact h3,fun j e=>h4 j ((p _ _).1 e)⟩
 ·refine⟨rfl,rfl,rfl,by simp,d.imm,fun _ _=>rfl,fun b W ho=>?_⟩;have z:g.own b ≠ .box k:=by intro e;rw[e] at ho;exact ho
  exact⟨C _ ho,(d.own b z W).2.1,fun _=>Zk⟩
 ·intro j cs' m;simp only[Mem.put] at m;split at m
  ·grind [ons_mono]
  ·exact ons_mono n _ (h.mOn j cs' m)
 ·intro j cs' m r;simp only[Mem.put] at m;split at m
  ·grind
  ·exact h.out j cs' m r
theorem Ql0{α:Type}(a:List α)(b:List α)(off n:Nat)(hb:b.length=n)(c:off+n<=a.length)(i:Nat):
  (a.take off++b++a.drop (off+n))[i]? = if i<off then a[i]? else if i<off+n then b[i-off]? else a[i]?:=by
 grind
theorem Qbd9(h:SR n0 nt g0 w0 σ a w g)(t:TypeId){d:TypeDesc}(hd:P.underlying t=some d){p v r:V}{up B:Value}{κ:Nat}{M' : Mem}(hp:RF g w p up)(hpon:p.on (There σ.M))(F:v.on (There σ.M))(tk:Option Nat)(H:match tk with|none=>RF g w v B/\Flat v|some t0=>v=σ.s t0/\B=a.tmps.getD t0 undef)(X:Ql n0 κ (.store (P.cellsOf t)) [p,v] σ.M=some (r,M')):
  ∃w' g',(Instr.storeAt t up B).run P w = .ok () w'/\SR n0 nt g0 w0 ⟨(match tk with|none=>σ.s|some t0=>σ.s.put t0 v.dem),M',σ.nb⟩ a w' g':=by
 have key:∃k off cs,p = .ptr k off/\Qei v=true/\σ.M k=some (.cells cs)/\v.topS.cells.length=P.cellsOf t/\off+P.cellsOf t<=cs.length/\(n0<=k\/v.lt n0=true) /\
   M'=σ.M.put k (.cells (cs.take off++v.topS.cells++cs.drop (off+P.cellsOf t))):=by
  cases p<;>try (simp[Ql] at X;done)
  rename_i k off;simp only[Ql] at X;split at X<;>try (cases X;done)
  rename_i h1 h2;split at X<;>try (cases X;done)
  rename_i cs N;split at X<;>try (cases X;done)
  rename_i hc;simp only[Zc,decide_eq_true_eq,Zat] at hc;cases X;refine⟨k,off,cs,rfl,?_,N,hc.1.1,hc.1.2,hc.2,rfl⟩;cases v<;>simp_all[Qei]
 obtain⟨k,off,cs,rfl,hok,N,hlen,hle,hsc,rfl⟩:=key;rw[Qry] at hp;subst hp;obtain⟨hkb,hbo,m,e,hh,hr,h1⟩:=h.mem.box k _ N;obtain⟨hvl,hrv⟩:=(Qc8 _ _ _ _).1 hr;obtain⟨i,hi⟩:=Qjp P hd;have O:∀(f:Owner->Owner)(z:List V)(x:List Value)(s' : Sl),(∀o j,f o = .box j↔o = .box j)->(∀o,Prot o->f o=o) ->
   v.topS.cells=z->B.cells.toList=x->x.length=z.length->(∀u∈x,u.oneCell'=true) ->
   (∀(j:Nat)c u,z[j]? = some c->x[j]? = some u->RV (g.re f) w c (.cell k (off+j)) u) ->
   (∀j i c u,c.on (There σ.M)->RV g w c (.cell j i) u->RV (g.re f) w c (.cell j i) u) ->
   (∀t,RV (g.re f) w (s' t) (.slot t []) (a.tmps.getD t undef))->(∀t,(s' t).on (There σ.M)) ->
   ∃w' g',(Instr.storeAt t (.pointer (some ⟨g.box k,off,none⟩)) B).run P w = .ok () w'/\SR n0 nt g0 w0 ⟨s',σ.M.put k (.cells (cs.take off++z++cs.drop (off+P.cellsOf t))),σ.nb⟩ a w' g':=by
  intro f z x s' hbj hfr hncs hnus hnl hn1 hnr J hs' R;have T:z.length=P.cellsOf t:=by grind
  have hst:=run_storeCells_at (P:=P) (g.box k) off e x 0 m.toArray w hh (by simp;omega) hn1;simp only[Nat.add_zero] at hst;have hrow:(m.toArray.toList.take off++x++m.toArray.toList.drop (off+x.length))=m.take off++x++m.drop (off+P.cellsOf t):=by rw[hnl,T]
  rw[hrow] at hst;have U:=Qzz (g:=g) (w:=w) h.mem N (m.take off++x++m.drop (off+P.cellsOf t)).toArray;have hboxk:f (.box k) = .box k:=(hbj _ k).2 rfl;have hkept' : Kept (g.re f) w (g.re f) (w.setRow (g.box k) (m.take off++x++m.drop (off+P.cellsOf t)).toArray) (There σ.M) (fun o=>o ≠ .box k):=
   ⟨U.imm,fun _ _=>rfl,fun b hbk A=>⟨rfl,(U.own b (fun e=>hbk (by
    show f (g.own b)=_;rw[e];exact hboxk)) A).2.1,fun _=>Zk⟩⟩
  have C:∀c ℓ u,ℓ ≠ .box k->c.on (There σ.M)->RV (g.re f) w c ℓ u->RV (g.re f) (w.setRow (g.box k) (m.take off++x++m.drop (off+P.cellsOf t)).toArray) c ℓ u :=
   fun c ℓ u hℓ hc H=>Qdq hkept' (fun _ i h=>Qnn h) (by simp) c ℓ u hℓ hc H
  have honn:V.ons (There σ.M) z:=by grind [Qof,Qbcu]
  refine⟨_,g.re f,?_,SR.row h hbj hfr N hh ((Qc8 _ _ _ _).2 ⟨by simp[hvl,hnl],fun j c u hc I=>?_⟩) (fun u I=>?_) (fun t=>C _ _ _ (by simp) (R t) (hs' t)) rfl rfl R ?_ (fun A=>?_) (fun j cs' _ hj i c u hc hru=>J j i c u (Qft (h.mOn j cs' hj) hc) hru) (fun j i sz l u H=>J j i (.own sz l) u trivial H)⟩
  ·have hcs:B.cells.size=P.cellsOf t:=by grind
   simp_all[Go.Instr.storeAt,Go.Instr.sureAddr,Go.storeVar,Go.Sem.run_bind,Go.Sem.run_pure,Go.Result.andThen_ok,Qhk,Qfj]
  ·rw[Ql0 cs z off _ T hle] at hc;rw[Ql0 m x off _ (by omega) (by omega)] at I;simp only[Zz,Owner.sub];split at hc
   ·rename_i A;rw[if_pos A] at I;exact C _ _ _ (by simp) (Qft (h.mOn k cs N) hc) (J k j c u (Qft (h.mOn k cs N) hc) (by grind [Owner.sub]))
   ·rename_i hge;rw[if_neg hge] at I;split at hc
    ·rename_i A;rw[if_pos A] at I
     grind [Qft]
    ·rename_i hge2;rw[if_neg hge2] at I;exact C _ _ _ (by simp) (Qft (h.mOn k cs N) hc) (J k j c u (Qft (h.mOn k cs N) hc) (by grind [Owner.sub]))
  ·grind
  ·exact Qfk.2 ⟨Qfk.2 ⟨Qn7 _ (h.mOn k cs N),honn⟩,Qn8 _ (h.mOn k cs N)⟩
  ·have hvlt:v.lt n0=true:=by
    grind
   have:=(Qbcu (p:=(· < n0)) v).2 (Qbkz v hvlt);have hc':=Qof this;rw[hncs] at hc';exact Qfk.2 ⟨Qfk.2 ⟨Qn7 _ (h.out k cs N A),hc'⟩,Qn8 _ (h.out k cs N A)⟩
 have y:v.topS=v.dem->RF g w v.dem B->(∀t,RV g w ((match tk with|none=>σ.s|some t0=>σ.s.put t0 v.dem) t) (.slot t []) (a.tmps.getD t undef))->(∀t,((match tk with|none=>σ.s|some t0=>σ.s.put t0 v.dem) t).on (There σ.M)) ->
   ∃w' g',(Instr.storeAt t (.pointer (some ⟨g.box k,off,none⟩)) B).run P w = .ok () w'/\SR n0 nt g0 w0 ⟨(match tk with|none=>σ.s|some t0=>σ.s.put t0 v.dem),σ.M.put k (.cells (cs.take off++v.topS.cells++cs.drop (off+P.cellsOf t))),σ.nb⟩ a w' g':=by
  intro hno hrf hsl hsl';have hok' : Qei v.dem=true:=by cases v<;>simp_all[Qei,V.dem]
  obtain⟨k1,k2,k3⟩:=Q87 (Qd4 v) hrf hok';have hm:=O id v.dem.cells B.cells.toList;rw[hno] at hm |-;exact hm _ (fun _ _=>Zk) (fun _ _=>rfl) rfl rfl k1 k3 (fun j c u hc I=>k2 j c u hc I _) (fun j i c u _ H=>H) hsl hsl'
 cases tk with
 |none =>
  obtain⟨hrf,hfl⟩:=H;refine y (by rw[Qbad hfl];exact hfl.symm) (by rw[hfl];exact hrf) h.slots h.onS
 |some t0 =>
  obtain⟨hvs,huv⟩:=H;have n:=h.slots t0;rw[<-hvs,<-huv] at n;have Q:∀(f:Owner->Owner),RV (g.re f) w v.dem (.slot t0 []) B->(∀t,t≠t0->RV (g.re f) w (σ.s t) (.slot t []) (a.tmps.getD t undef))->∀t,RV (g.re f) w (σ.s.put t0 v.dem t) (.slot t []) (a.tmps.getD t undef):=by
   grind [Sl.put]
  have S : ∀t,(σ.s.put t0 v.dem t).on (There σ.M):=by
   intro t;simp only[Sl.put];split
   ·exact (Qd3 v).2 F
   ·exact h.onS t
  by_cases hown:∃sz l,v = .own sz l
  ·obtain⟨sz,l,rfl⟩:=hown;have E:=Kept.ex g w (.slot t0 []) (.cell k off) (There σ.M);have hsub:∀(ℓ:Owner)(i:Nat),ℓ ≠ .slot t0 []->ℓ.sub i ≠ .slot t0 []:=by
    intro ℓ i L;cases ℓ<;>simp_all[Owner.sub]
   have hcells:(V.own sz l).topS.cells=[.own sz l]:=rfl;have huc:B.cells.toList=[B]:=by
    have:=Qkx n;simp only[RD] at this;obtain⟨a,cap,rfl,_⟩:=this;rfl
   refine O (ex (.slot t0 []) (.cell k off)) [.own sz l] [B] _ (fun o j=>?_) (fun o ho=>?_) hcells huc rfl (fun u I=>?_) (fun j c u hc I=>?_) (fun j i c u hc H=>Qdq E hsub (by simp) c _ u (by simp) hc H) (Q _ ?_ ?_) S
   ·unfold ex;grind
   ·unfold ex;rw[if_neg];rintro rfl;exact ho
   ·simp at I;subst I;exact Q2o (Qkx n)
   ·grind [Q7l]
   ·exact Qlz (E.weaken (fun _ h=>h) (by rintro o rfl;simp)) (Qd4 _) ((Qd3 _).2 F) (Qie _ _ (.slot t0 []) _ n)
   ·intro t L;exact Qdq E hsub (by simp) _ _ _ (by simp[L]) (h.onS t) (h.slots t)
  ·by_cases hagg:∃W,v = .agg W
   ·obtain⟨W,rfl⟩:=hagg;obtain⟨f,hfo,hfs,hf1,hfb⟩ : ∃f:Owner->Owner,(∀o,(∀t p,o ≠ .slot t p)->f o=o)/\(∀t p,t≠t0->f (.slot t p) = .slot t p)/\(∀j,f (.slot t0 [j]) = .cell k (off+j))/\∀o j,f o = .box j↔o = .box j:=by
     refine⟨fun o=>match o with
      |.slot t [j]=>if t=t0 then .cell k (off+j) else o
      |o=>o,fun o ho=>?_,fun t p L=>?_,fun j=>by simp,fun o j=>?_⟩
     ·grind
     all_goals grind
    have E:=Kept.re g w f (There σ.M);simp only[RV] at n;obtain⟨vs2,huvs,hrs,hone⟩:=n;obtain⟨hvl2,hrv2⟩:=(Qc8 _ _ _ _).1 hrs;have honv:V.ons (There σ.M) W:=F;have hcell:Kept g w (g.re f) w (There σ.M) (fun o=>(∃k c,o = .cell k c)\/o = .ext):=
     E.weaken (fun _ h=>h) (by grind)
    have hslt:∀t,t≠t0->Kept g w (g.re f) w (There σ.M) (fun o=>(∃q,o = .slot t q)\/o = .ext):=by
     intro t L;refine E.weaken (fun _ h=>h) ?_
     grind
    have hflat:∀{c:V}{ℓ ℓ' : Owner}{u:Value},c.on (There σ.M)->RV g w c ℓ u->RV (g.re f) w c.dem ℓ' u :=
     fun{c ℓ ℓ' u}hon H=>Qlz (E.weaken (fun _ h=>h) (by grind)) (Qd4 _) ((Qd3 _).2 hon) (Qie _ _ ℓ _ H)
    refine O f (own1 W) vs2 _ hfb (fun o ho=>hfo o fun t p e=>by rw[e] at ho;exact ho) rfl (by rw[huvs];rfl) (by rw[Q0z,Zu];exact hvl2) hone (fun j c u hc I=>?_) (fun j i c u hc H=>?_) (Q _ ?_ ?_) S
    ·rw[Q0z,Zag,Zd] at hc;obtain⟨c',hc',rfl⟩:=hc;have hr:=hrv2 j c' u hc' I;by_cases ho:∃sz l,c' = .own sz l
     ·obtain⟨sz,l,rfl⟩:=ho;exact Qbme (by simpa[Owner.sub] using hr) (hf1 j)
     grind [Qyj,Qft]
    ·refine Qdq hcell ?_ (.inr rfl) c _ u (.inl ⟨j,i,rfl⟩) hc H;rintro ℓ i (⟨k,c,rfl⟩|rfl)
     ·exact .inl ⟨k,c,rfl⟩
     ·exact .inr rfl
    ·exact hflat F (show RV g w (.agg W) (.slot t0 []) B by grind [RV])
    ·intro t L;refine Qdq (hslt t L) ?_ (.inr rfl) _ _ _ (.inl ⟨[],rfl⟩) (h.onS t) (h.slots t);rintro ℓ i' (⟨q,rfl⟩|rfl)
     ·exact .inl ⟨i'::q,rfl⟩
     ·exact .inr rfl
   have hrf:RF g w v.dem B:=Qwx n;have hno:v.topS=v.dem:=by
    cases v<;>first|rfl|grind|grind
   exact y hno hrf (Q id (by have:=hrf (.slot t0 []);exact this) (fun t _=>h.slots t)) S
end
end Go.Abs
end
section
namespace Go.Abs
open Go
section
variable(P:Program){g:G}{w:World}{n0 nt:Nat}{g0:G}{w0:World}{σ:St}{a:Act}
theorem Qlm{o:Owner}{i t:Nat}(h:o ≠ .slot t []):o.sub i ≠ .slot t []:=by cases o<;>simp_all[Owner.sub]
structure Src(g:G)(w:World)(sz:Nat)(ys:List (List D))(u:Value)(us:List Value):Prop where
 len:us.length=ys.length*sz
 shape:∃ad c,u = .slice ad ys.length c/\((ys=[]/\True)\/∃b o,ad=some ⟨b,o,none⟩/\∀j x,us[j]? = some x->w.cell? ⟨b,o+j,none⟩=some x)
 sizes:∀y∈ys,y.length=sz
 rd:∀i y j d x,ys[i]? = some y->y[j]? = some d->us[i*sz+j]? = some x->RD g.imm w d x
 one:∀x∈us,x.oneCell'=true
theorem Q7m{sz:Nat}:∀(l:List (List D))(b o:Nat),RDL g.imm w sz b l o ->
  ∃us:List Value,us.length=l.length*sz/\(∀(j:Nat)x,us[j]? = some x->w.cell? ⟨b,o+j,none⟩=some x)/\(∀y∈l,y.length=sz) /\
   (∀(i:Nat)y(j:Nat)d x,l[i]? = some y->y[j]? = some d->us[i*sz+j]? = some x->RD g.imm w d x)/\∀x∈us,x.oneCell'=true
 |[],b,o,_=>⟨[],by simp,by simp,by simp,by simp,by simp⟩
 |y::l,b,o,h=>by
  simp only[RDL] at h;obtain⟨m,hc,hr⟩:=h;obtain⟨us,A,z,n,v,t⟩:=Q7m l b (o+sz) hr;have e:∃vs:List Value,vs.length=y.length/\(∀(j:Nat)x,vs[j]? = some x->w.cell? ⟨b,o+j,none⟩=some x)/\(∀(j:Nat)d x,y[j]? = some d->vs[j]? = some x->RD g.imm w d x)/\∀x∈vs,x.oneCell'=true:=by
   clear A z n v t hr m
   induction y generalizing o with
   |nil=>simp_all
   |cons d y s =>
    simp only[RDc] at hc;obtain⟨_,⟨u,C,F⟩,hc⟩:=hc;obtain⟨vs,k,r,q,p⟩:=s (o+1) hc;refine⟨u::vs,by simp[k],fun j x f=>?_,fun j H x f c=>?_,fun x c=>?_⟩
    ·grind
    ·grind
    ·simp at c;rcases c with rfl|c
     all_goals grind [Q2o]
  obtain⟨vs,k,r,q,p⟩:=e;refine⟨vs++us,by grind,fun j x f=>?_,by simp[m];exact n,fun i B j d x E f c=>?_,fun x c=>?_⟩
  ·grind
  ·cases i with
   |zero =>
    grind
   |succ i =>
    grind
  grind
theorem Qux:∀{vs:List V}{ds:List D},toDs vs=some ds->ds.length=vs.length/\∀(j:Nat)v d,vs[j]? = some v->ds[j]? = some d->v.toD=some d
 |[],ds,h=>by simp[toDs] at h;subst h;exact⟨rfl,by simp⟩
 |v::vs,ds,h=>by
  simp only[toDs] at h;split at h
  ·rename_i x xs f b;cases h;obtain⟨k,i⟩:=Qux b;refine⟨by simp[k],fun j v' d c e=>?_⟩;cases j with
   |zero=>simp at c e;subst c e;exact f
   |succ j=>exact i j v' d (by simpa using c) (by simpa using e)
  ·cases h
theorem Qwz{v:V}{d:D}{ℓ:Owner}{u:Value}(h:v.toD=some d)(b:RV g w v ℓ u):RD g.imm w d u:=by
 cases v<;>simp only[V.toD] at h<;>try (cases h;done)
 ·cases h;simpa[RV] using b
 ·cases h;exact Qkx b
 ·cases h;simp only[RV] at b;obtain⟨c,rfl⟩:=b;simp[RD]
 ·cases h;exact Qyg b
theorem Qtd:∀(k n:Nat)(l:List D),l.length=k*n->(Qi3 n k l).length=k/\(∀y∈Qi3 n k l,y.length=n)/\∀(i:Nat)y(j:Nat)d,(Qi3 n k l)[i]? = some y->y[j]? = some d->l[i*n+j]? = some d
 |0,n,l,h=>by simp[Qi3]
 |k+1,n,l,h=>by
  simp only[Qi3];have e:n<=l.length:=by grind
  obtain⟨b,p,o⟩:=Qtd k n (l.drop n) (by grind);refine⟨by simp[b],fun y c=>?_,fun i y j d m f=>?_⟩
  ·grind
  ·cases i with
   |zero =>
    grind
   |succ i =>
    grind
theorem Qte{M:Mem}{nb:Nat}(H:MR g w M nb){sz:Nat}{x:V}{ys:List (List D)}{ℓ:Owner}{u:Value}(e:RV g w x ℓ u)(c:Qgy M sz x=some ys):∃us,Src g w sz ys u us:=by
 have lst:∀l,RD g.imm w (.lst sz l) u->∃us,Src g w sz l u us:=by
  intro l h;simp only[RD] at h;obtain⟨N,cap,rfl,_,n⟩:=h;rcases n with rfl|⟨b,o,rfl,n⟩
  ·exact⟨[],by simp,⟨N,cap,rfl,.inl ⟨rfl,trivial⟩⟩,by simp,by simp,by simp⟩
  ·obtain⟨us,s,r,q,t,I⟩:=Q7m l b o n;exact⟨us,s,⟨_,cap,rfl,.inr ⟨b,o,rfl,r⟩⟩,q,t,I⟩
 cases x<;>try (simp[Qgy] at c;done)
 case d dx =>
  cases dx<;>simp only[Qgy] at c<;>try (cases c;done)
  grind [RV]
 case own sz' l =>
  simp only[Qgy] at c;split at c<;>cases c;rename_i h;subst h;exact lst _ (Qkx e)
 case ownT sz' l =>
  simp only[Qgy] at c;split at c<;>cases c;rename_i h;subst h;exact lst _ (Qyg e)
 case nils sz' =>
  simp only[Qgy] at c;split at c<;>cases c;rename_i h;subst h;exact lst _ (Qwz rfl e)
 case sl sz' k off len cap =>
  simp only[Qgy] at c;split at c<;>try (cases c;done)
  rename_i h;subst h;split at c<;>try (cases c;done)
  rename_i cs A;split at c<;>try (cases c;done)
  rename_i m;simp only[Zd] at c;obtain⟨ds,p,rfl⟩:=c;obtain⟨us,s,r,q,t⟩:=Q40 H A off _ m;obtain⟨E,F⟩:=Qux p;have f : ds.length=len*sz':=by grind
  obtain⟨v,L,J⟩:=Qtd len sz' ds f;simp only[RV] at e;subst e;refine⟨us,by rw[v,s],⟨_,cap,by rw[v],.inr ⟨g.box k,off,rfl,r⟩⟩,L,fun i y j d x C B e=>?_,q⟩;have Q:=J i y j d C B;have z:=(Zm.1 e).1;have O:=Zj (show i*sz'+j<((cs.drop off).take (len*sz')).length by grind)
  grind [Qwz]
theorem Q31(w:World)(t s e r : TypeId)(i:TypeInfo)(v:P.underlying t=some (.slice e))(y:P.info? e=some i)(b f h:Nat)(k:Array Value)(z:w.heap[b]? = some (.cells k r (0,0)))(q:Addr)(m c:Nat)(d:List Value)(x:d.length=m*i.size)(n:∀j u,d[j]? = some u->w.cell? (q.add j)=some u)(B:∀u∈d,u.oneCell'=true)(l:f+m<=h)(p:f*i.size+d.length<=k.size):
  (Builtin.append_ #[t,t] s #[.slice (some ⟨b,0,none⟩) f h,.slice (some q) m c]).run P w =
   .ok (.slice (some ⟨b,0,none⟩) (f+m) h) (w.setRow b (k.toList.take (f*i.size)++d++k.toList.drop (f*i.size+d.length)).toArray):=by
 have A:=run_firstCells_some (P:=P) w i.size m q m c d x n;have o:=run_storeCells_at (P:=P) b (f*i.size) r d 0 k w z (by simpa using p) B;simp only[Nat.add_zero] at o;simp[Builtin.append_,run_underlying v,sizeOf,typeInfo,y,Builtin.lenOf,l,A,Addr.add_lit,o]
theorem Qtf(w:World)(t v e s : TypeId)(i:TypeInfo)(x:P.underlying t=some (.slice e))(z:P.info? e=some i)(b o f h:Nat)(k:Array Value)(A:w.heap[b]? = some (.cells k s (0,0)))(r:Addr)(m c:Nat)(d:List Value)(y:d.length=m*i.size)(n:∀j u,d[j]? = some u->w.cell? (r.add j)=some u)(C:∀u∈d,u.oneCell'=true)(l:f+m<=h)(q:o+f*i.size+d.length<=k.size):
  (Builtin.append_ #[t,t] v #[.slice (some ⟨b,o,none⟩) f h,.slice (some r) m c]).run P w =
   .ok (.slice (some ⟨b,o,none⟩) (f+m) h) (w.setRow b (k.toList.take (o+f*i.size)++d++k.toList.drop (o+f*i.size+d.length)).toArray):=by
 have B:=run_firstCells_some (P:=P) w i.size m r m c d y n;have p:=run_storeCells_at (P:=P) b (o+f*i.size) s d 0 k w A (by simpa using q) C;simp only[Nat.add_zero] at p;simp[Builtin.append_,run_underlying x,sizeOf,typeInfo,z,Builtin.lenOf,l,B,Addr.add_lit,p]
theorem Q02(w:World)(t f e:TypeId)(i:TypeInfo)(h:P.underlying t=some (.slice e))(k:P.info? e=some i)(base:Option Addr)(n b:Nat)(j:n<=b)(d:Option Addr)(c:Nat):
  (Builtin.append_ #[t,t] f #[.slice base n b,.slice d 0 c]).run P w = .ok (.slice base n b) w:=by
 cases base<;>cases d<;>simp[Builtin.append_,run_underlying h,sizeOf,typeInfo,k,Builtin.lenOf,j,Builtin.firstCells,loadCells,loadCellsFrom,storeCells]
end
end Go.Abs
end
section
namespace Go.Abs
open Go
section
variable(P:Program){g:G}{w:World}{n0 nt:Nat}{g0:G}{w0:World}{σ:St}{a:Act}
theorem Qyk{imm:Nat->Nat->Prop}{w:World}{sz b:Nat}:∀{l c : List (List D)}{o:Nat},RDL imm w sz b l o->RDL imm w sz b c (o+l.length*sz)->RDL imm w sz b (l++c) o
 |[],c,o,_,h=>by simpa using h
 |x::l,c,o,h,d=>by
  simp only[RDL,Zaq] at h |-;refine⟨h.1,h.2.1,Qyk h.2.2 ?_⟩
  rwa [show o+(x::l).length*sz=o+sz+l.length*sz from by simp[Zv];omega] at d
theorem Q9a{imm:Nat->Nat->Prop}{w' : World}{sz b o:Nat}{ys:List (List D)}{us:List Value}(m:us.length=ys.length*sz)(c:∀y∈ys,y.length=sz)(l:∀(i:Nat)y(j:Nat)d x,ys[i]? = some y->y[j]? = some d->us[i*sz+j]? = some x->RD imm w' d x)(hc:∀(j:Nat)x,us[j]? = some x->w'.cell? ⟨b,o+j,none⟩=some x/\imm b (o+j)):RDL imm w' sz b ys o:=by
 refine Q3l fun i y k=>⟨c y (Zn k),Qzi fun j d n=>?_⟩;have h:=(Zm.1 k).1;have f:=(Zm.1 n).1;rw[c y (Zn k)] at f;have e:i*sz+j<us.length:=by
  rw[m]
  calc i*sz+j<i*sz+sz:=by omega
   _=(i+1)*sz:=by rw[Zv];omega
   _<=ys.length*sz:=Zbi _ h
 obtain⟨q,p⟩:=hc _ _ (Zj e)
 grind
theorem SR.grow(h:SR n0 nt g0 w0 σ a w g){dst:Option Nat}(z:∀d,dst=some d->d<nt){w' : World}{g' : G}{v:V}{val:Value}(t0:Nat)(x:MR g' w' σ.M σ.nb)(c:Kept g w g' w' (There σ.M) (fun o=>o ≠ .slot t0 []))(p:w'.os=w.os)(f:w'.tape=w.tape)(m:w'.output=w.output)(j:w.heap.size<=w'.heap.size)(n:∀k,g'.box k=g.box k)(u:∀d,dst=some d->RV g' w' v (.slot d []) val)(l:v.on (There σ.M)):
  SR n0 nt g0 w0 ⟨Qbe (σ.s.put t0 (σ.s t0).dem) dst v,σ.M,σ.nb⟩ (a.put dst val) w' g':=by
 refine h.step x ⟨p,f,m,j,c.imm,fun k _=>n k,fun b hb ho=>c.own b (by intro e;rw[e] at ho;exact ho) hb⟩
  (Qf9 (fun d r=>by rw[h.size];exact z d r) (fun t _=>?_) u) (Qg9 _ _ _) (Qeo _ _ _) (Qga (fun t=>?_) l) h.mOn h.out
 ·simp only[Sl.put];split
  ·rename_i y;subst y;exact Qlz (c.weaken (fun _ h=>h) (by rintro o rfl;simp)) (Qd4 _) ((Qd3 _).2 (h.onS t)) (Qie _ _ (.slot t []) _ (h.slots t))
  ·rename_i q;exact Qdq c (fun _ i h=>Qlm h) (by simp) _ _ _ (by simp[q]) (h.onS t) (h.slots t)
 ·simp only[Sl.put];split
  ·exact (Qd3 _).2 (h.onS t0)
  ·exact h.onS t
theorem Qbai{κ sz bytes:Nat}{s x v:V}{M M' : Mem}(b:Ql n0 κ (.append sz bytes) [s,x] M=some (v,M')):
  M'=M/\∃ys,Qgy M sz x=some ys /\
   ((∃l,s = .own sz l/\l.length+ys.length<=lim/\bytes<=128/\0<sz/\v = .own sz (l++ys)) \/
    (s = .nils sz/\ys.length<=lim/\bytes<=128/\v = .own sz ys) \/
    (∃l,s = .ownT sz l/\l.length+ys.length<=lim/\bytes<=128/\0<sz/\v = .ownT sz (l++ys)) \/
    (∃k off len cap l,s = .sl sz k off len cap/\Qgy M sz s=some l/\((ys.length=0/\len=0/\cap=0/\v = .own sz [])\/(ys.length=0/\len<=cap/\v=s)\/(0<ys.length/\cap<len+ys.length/\l.length+ys.length<=lim/\bytes<=128/\0<sz/\v = .own sz (l++ys))))):=by
 cases s<;>try (simp[Ql] at b;done)
 case own sz' l =>
  simp only[Ql] at b
  grind
 case nils sz' =>
  simp only[Ql] at b
  grind
 case ownT sz' l =>
  simp only[Ql] at b
  grind
 case sl sz' k off len cap =>
  simp only[Ql] at b;split at b<;>try (cases b;done)
  rename_i l ys e d;have c:sz'=sz:=by
   grind [Qgy]
  grind
theorem Q7n{κ sz bytes:Nat}{s x v:V}{M M' : Mem}(b:Ql n0 κ (.appw sz bytes) [s,x] M=some (v,M')):
  ((∃k off len cap,s = .sl sz k off len cap)\/∃sz',s = .nils sz')/\(Ql n0 κ (.append sz bytes) [s,x] M=some (v,M') \/
  ∃k off len cap cs ys,s = .sl sz k off len cap/\M k=some (.cells cs)/\Qgy M sz x=some ys/\0<ys.length/\0<sz/\len+ys.length<=cap/\off+(len+ys.length)*sz<=cs.length/\(∀y∈ys,y.length=sz) /\
   v = .sl sz k off (len+ys.length) cap/\M'=M.put k (.cells (cs.take (off+len*sz)++ys.flatten.map V.d++cs.drop (off+len*sz+ys.length*sz)))):=by
 cases s<;>try (simp[Ql] at b;done)
 case nils sz'=>exact⟨.inr ⟨_,rfl⟩,.inl b⟩
 case sl sz' k off len cap =>
  simp only[Ql] at b;split at b<;>try (cases b;done)
  rename_i l ys cs h f i;have c:sz'=sz:=by
   grind [Qgy]
  subst c;refine⟨.inl ⟨k,off,len,cap,rfl⟩,?_⟩;by_cases e:ys.length=0
  ·simp_all[Ql,if_pos]
  ·rw[if_neg e] at b;by_cases hr:len+ys.length<=cap
   ·rw[if_pos hr] at b;split at b<;>try (cases b;done)
    grind
   simp_all[if_neg,Ql]
theorem Qbhm{sz:Nat}:∀{ys:List (List D)},(∀y∈ys,y.length=sz)->ys.flatten.length=ys.length*sz/\∀n d,ys.flatten[n]? = some d->∃i j y,n=i*sz+j/\ys[i]? = some y/\y[j]? = some d
 |[],_=>⟨by simp,fun n d h=>by simp at h⟩
 |y::ys,h=>by
  obtain⟨l,k⟩:=Qbhm (ys:=ys) fun z e=>h z (by simp[e]);have f:=h y (by simp);refine⟨by simp[l,f,Zv];omega,fun n d b=>?_⟩;rw[Zaz] at b;by_cases c:n<y.length
  ·rw[Zay c] at b;exact⟨0,n,y,by omega,by simp,b⟩
  ·rw[Zau (by omega)] at b;obtain⟨i,j,z,m,e2,e3⟩:=k _ d b;exact⟨i+1,j,z,by rw[Zv];omega,by simpa using e2,e3⟩
theorem SR.newblock(h:SR n0 nt g0 w0 σ a w g){dst:Option Nat}(hd:∀d,dst=some d->d<nt)(t0:Nat){sz:Nat}{l ys:List (List D)}{W U:Value}{c f zeros:List Value}(r:Src g w sz l W c)(t:Src g w sz ys U f){n:Nat}(C:l.length+ys.length<=n)(A:n<=maxLen)(X:zeros.length=(n-(l.length+ys.length))*sz)(H:∀u∈zeros,u.oneCell'=true)(e:TypeId):
  ∃g',SR n0 nt g0 w0 ⟨Qbe (σ.s.put t0 (σ.s t0).dem) dst (.own sz (l++ys)),σ.M,σ.nb⟩ (a.put dst (.slice (some ⟨w.heap.size,0,none⟩) (l.length+ys.length) n))
   (w.drew.alloc (.cells (c++f++zeros).toArray e)) g':=by
 let T:=dst.getD 0;let g' : G:={ box:=g.box,imm:=fun b o=>g.imm b o\/(b=w.heap.size/\o<(l.length+ys.length)*sz),own:=fun b=>if b=w.heap.size then .slot T [] else g.own b };let w':=w.drew.alloc (.cells (c++f++zeros).toArray e);have O:∀b o,b<w.heap.size->w'.cell? ⟨b,o,none⟩=w.cell? ⟨b,o,none⟩:=fun b o hb=>by
  have:=World.cell?_alloc_past (w:=w.drew) (.cells (c++f++zeros).toArray e) b o (by simpa using hb);exact this
 have z:∀o,w'.cell? ⟨w.heap.size,o,none⟩=(c++f++zeros)[o]?:=fun o=>by
  have:=World.cell?_alloc_at (w:=w.drew) (c++f++zeros).toArray e w.heap.size o (by simp)
  grind
 have L:∀o,¬g.imm w.heap.size o:=fun o ho=>by have:=(h.mem.imm _ _ ho).1;omega
 have Q:Imm g.imm g'.imm w w':=⟨fun b o hb=>.inl hb,fun b o hb=>Qew (RowKit.Below.heap_alloc w.drew _ b (by simpa using (h.mem.imm b o hb).1))⟩;have m:Kept g w g' w' (There σ.M) (fun o=>o ≠ .slot t0 []):=by
  refine⟨Q,fun _ _=>rfl,fun b _ I=>⟨?_,?_,fun o=>?_⟩⟩
  ·grind
  ·exact RowKit.Below.heap_alloc w.drew _ b (by simpa using I)
  grind
 have B:∀b o,g'.imm b o->b<w'.heap.size/\∀k,g'.own b ≠ .box k:=by
  rintro b o (hb|⟨rfl,_⟩)
  ·obtain⟨F,E⟩:=h.mem.imm b o hb;refine⟨by simp[w'];omega,fun k=>?_⟩
   grind
  ·refine⟨by simp[w'],fun k=>by simp[g']⟩
 have q:(c++f).length=(l.length+ys.length)*sz:=by rw[Zx,r.len,t.len,Zv]
 have v:RDL g'.imm w' sz w.heap.size (l++ys) 0:=by
  refine Qyk ?_ ?_
  ·refine Q9a r.len r.sizes (fun i y j d x F E R=>Qgk Q d x (r.rd i y j d x F E R)) fun j x S=>?_
   grind
  ·refine Q9a t.len t.sizes (fun i y j d x F E R=>Qgk Q d x (t.rd i y j d x F E R)) fun j x S=>?_;have J:=(Zm.1 S).1;refine⟨?_,.inr ⟨rfl,?_⟩⟩
   ·rw[Zz,z,Zbm,Zau (by rw[r.len];omega),r.len]
    grind
   ·rw[t.len] at J;rw[Zv];omega
 have hm:MR g' w' σ.M σ.nb:=h.mem.kept m h.mOn (fun _ i h=>Qlm h) (by simp) (fun _ _=>by simp) B;refine⟨g',h.grow hd t0 hm m rfl rfl rfl (by simp) (fun _=>rfl) (fun d N=>?_) trivial⟩;simp only[RV];refine .inr ⟨w.heap.size,n,(c++f++zeros).toArray,e,by simp,by simp[g',T,N],?_,by simpa using C,A,⟨?_,?_⟩,fun o=>?_,v⟩
 ·exact heap_alloc_new w.drew _
 ·simp only[List.size_toArray,Zx] at q |-;rw[X,q,<-Zv];congr 1;omega
 ·intro u p;simp only[Zp] at p;rcases p with (p|p)|p
  ·exact r.one u p
  ·exact t.one u p
  ·exact H u p
 grind
theorem SR.newlit(h:SR n0 nt g0 w0 σ a w g){d:Nat}(z:d<nt){x:D}{u:Value}(t:RD g.imm w x u)(r:u.oneCell'=true)(e:TypeId):
  ∃g',SR n0 nt g0 w0 ⟨Qbe σ.s (some d) (.own 1 [[x]]),σ.M,σ.nb⟩ (a.put (some d) (.slice (some ⟨w.heap.size,0,none⟩) 1 1)) (w.alloc (.cells #[u] e)) g':=by
 let g' : G:={ box:=g.box,imm:=fun b o=>g.imm b o\/(b=w.heap.size/\o<1),own:=fun b=>if b=w.heap.size then .slot d [] else g.own b };let w':=w.alloc (.cells #[u] e);have p:∀b o,b<w.heap.size->w'.cell? ⟨b,o,none⟩=w.cell? ⟨b,o,none⟩:=fun b o hb=>World.cell?_alloc_past (w:=w) (.cells #[u] e) b o hb;have l:w'.cell? ⟨w.heap.size,0,none⟩=some u:=by
  exact (World.cell?_alloc_at (w:=w) #[u] e w.heap.size 0 rfl).trans rfl
 have n:∀o,¬g.imm w.heap.size o:=fun o ho=>by have:=(h.mem.imm _ _ ho).1;omega
 have q:Imm g.imm g'.imm w w':=⟨fun b o hb=>.inl hb,fun b o hb=>Qew (RowKit.Below.heap_alloc w _ b (h.mem.imm b o hb).1)⟩;have c:Kept g w g' w' (There σ.M) (fun o=>o ≠ .slot d []):=by
  refine⟨q,fun _ _=>rfl,fun b _ y=>⟨?_,?_,fun o=>?_⟩⟩
  all_goals grind [Go.RowKit.Below.heap_alloc]
 have m:∀b o,g'.imm b o->b<w'.heap.size/\∀k,g'.own b ≠ .box k:=by
  rintro b o (hb|⟨rfl,_⟩)
  ·obtain⟨r,B⟩:=h.mem.imm b o hb;refine⟨by simp[w'];omega,fun k=>?_⟩
   grind
  ·refine⟨by simp[w'],fun k=>by simp[g']⟩
 have v:MR g' w' σ.M σ.nb:=h.mem.kept c h.mOn (fun _ i h=>Qlm h) (by simp) (fun _ _=>by simp) m;have j:Qbe (σ.s.put d (σ.s d).dem) (some d) (.own 1 [[x]])=Qbe σ.s (some d) (.own 1 [[x]]):=by
  funext i;simp only[Qbe,Sl.put];split<;>rfl
 refine⟨g',j ▸ h.grow (dst:=some d) (fun A f=>by cases f;exact z) d v c rfl rfl rfl (by simp) (fun _=>rfl) (fun A f=>?_) trivial⟩;cases f;simp only[RV];refine .inr ⟨w.heap.size,1,#[u],e,by simp,by simp[g'],heap_alloc_new w _,by simp,by simp[maxLen],⟨by simp,by simpa using r⟩,fun o=>?_,?_⟩
 ·grind
 ·simp only[RDL,RDc];exact⟨rfl,⟨.inr ⟨rfl,by omega⟩,⟨u,l,Qgk q x u t⟩,trivial⟩,trivial⟩
theorem SR.allocD(h:SR n0 nt g0 w0 σ a w g){dst:Option Nat}(F:∀d,dst=some d->d<nt){ds:List D}{us:List Value}(L:us.length=ds.length)(hr:∀(j:Nat)x u,ds[j]? = some x->us[j]? = some u->RD g.imm w x u){sz n:Nat}(B:ds.length=n*sz)(e:TypeId):
  ∃g',SR n0 nt g0 w0 ⟨Qbe σ.s dst (.d (.lst sz (Qi3 sz n ds))),σ.M,σ.nb⟩ (a.put dst (.slice (some ⟨w.heap.size,0,none⟩) n n)) (w.alloc (.cells us.toArray e)) g':=by
 let g' : G:={ box:=g.box,imm:=fun b o=>g.imm b o\/(b=w.heap.size/\o<ds.length),own:=fun b=>if b=w.heap.size then .ext else g.own b };let w':=w.alloc (.cells us.toArray e);have f:∀o,w'.cell? ⟨w.heap.size,o,none⟩=us[o]?:=fun o =>
  (World.cell?_alloc_at (w:=w) us.toArray e w.heap.size o rfl).trans (by simp)
 have p:∀o,¬g.imm w.heap.size o:=fun o ho=>by have:=(h.mem.imm _ _ ho).1;omega
 have r:Imm g.imm g'.imm w w':=⟨fun b o hb=>.inl hb,fun b o hb=>Qew (RowKit.Below.heap_alloc w _ b (h.mem.imm b o hb).1)⟩;have c:Kept g w g' w' (There σ.M) (fun _=>True):=by
  refine⟨r,fun _ _=>rfl,fun b _ m=>⟨?_,?_,fun o=>?_⟩⟩
  all_goals grind [Go.RowKit.Below.heap_alloc]
 have l:∀b o,g'.imm b o->b<w'.heap.size/\∀k,g'.own b ≠ .box k:=by
  rintro b o (hb|⟨rfl,_⟩)
  ·obtain⟨v,N⟩:=h.mem.imm b o hb;refine⟨by simp[w'];omega,fun k=>?_⟩
   grind
  ·refine⟨by simp[w'],fun k=>by simp[g']⟩
 have C:MR g' w' σ.M σ.nb:=h.mem.kept c h.mOn (fun _ _ h=>h) trivial (fun _ _=>trivial) l;refine⟨g',h.step C ⟨rfl,rfl,rfl,by simp,r,fun _ _=>rfl,fun b hb _=>c.own b trivial hb⟩ (Qf9 (fun d q=>by rw[h.size];exact F d q) (fun t _=>Qdq c (fun _ _ h=>h) trivial _ _ _ trivial (h.onS t) (h.slots t)) (fun d _=>?_)) (Qg9 _ _ _) (Qeo _ _ _) (Qga h.onS trivial) h.mOn h.out⟩;obtain⟨J,I,H⟩:=Qtd n sz ds B;simp only[RV,RD,J];refine⟨_,n,rfl,Ze _,.inr ⟨w.heap.size,0,rfl,Q3l fun i x A=>⟨I x (Zn A),Qzi fun j y E=>?_⟩⟩⟩;have v:=H i x j y A E;have m:=(Zm.1 v).1;obtain⟨u,z⟩ : ∃u,us[i*sz+j]? = some u:=⟨_,Zj (by omega)⟩;refine⟨.inr ⟨rfl,by omega⟩,u,?_,Qgk r y u (hr _ y u v z)⟩;rw[f,Zz];exact z
theorem Qbne(h:SR n0 nt g0 w0 σ a w g){dst:Option Nat}(hd:∀d,dst=some d->d<nt)(t e:TypeId)(ht:P.underlying t=some (.slice e)){z:List V}(hz:Qsj P e=some z)(n:Nat)(hn:n*P.cellsOf e<=65536)(f:List Nat){xs:List V}{us:List Value}{v:V}{κ:Nat}{M' : Mem}(U:∀x∈xs,Flat x)(hx:RFs g w xs us)(hs:Ql n0 κ (.blit (P.cellsOf e) n z f) xs σ.M=some (v,M')):
  ∃val w' g',(Instr.buildSlice t n (f.zip us).toArray).run P w = .ok val w'/\SR n0 nt g0 w0 ⟨Qbe σ.s dst v,M',σ.nb⟩ (a.put dst val) w' g':=by
 obtain⟨i,X,T,J,I,hlt⟩:=Qkc P hz;have l : (if f.length=xs.length&&decide (0<P.cellsOf e)&&z.length==P.cellsOf e&&(f.zip xs).all (fun(i,x)=>Qei x&&x.cells.length==P.cellsOf e&&decide (i<n))
   then (toDs (Qi4 (rep n z) ((f.zip xs).map fun(i,x)=>(i*P.cellsOf e,x.cells)))).map fun ds=>(V.d (.lst (P.cellsOf e) (Qi3 (P.cellsOf e) n ds)),σ.M) else none)=some (v,M'):=by cases xs<;>exact hs
 split at l<;>try (cases l;done)
 rename_i hc;simp only[Zc,decide_eq_true_eq,beq_iff_eq,Zt] at hc;obtain⟨⟨⟨y,hsz⟩,L⟩,q⟩:=hc;simp only[Zd,Zf] at l;obtain⟨ds,H,rfl,rfl⟩:=l;have hcl:=(I g w).len;have r:X.cells.size=P.cellsOf e:=by grind
 have k:(rep n z).length=n*P.cellsOf e:=by simp[rep,L]
 have A:=CR.rep (I g w) n;obtain⟨out,b,m⟩:=Qtc (g:=g) (w:=w) (fun i=>some (i*P.cellsOf e,P.cellsOf e)) (rep n z) _ A f (f.map (· * P.cellsOf e)) (f.map fun _=>P.cellsOf e) xs us hx U y (by simp[y]) (by simp[y])
  (fun j x i o s hxj S C B=>by
   simp only[Zag,Zd] at C B;obtain⟨p,hp,rfl⟩:=C;obtain⟨p',hp',rfl⟩:=B;rw[S] at hp;cases hp;have:=q (i,x) (Zn (i:=j) (by grind));simp only[Zc,beq_iff_eq,decide_eq_true_eq] at this;refine⟨this.1.1,this.1.2,?_,rfl⟩;rw[k]
   calc i*P.cellsOf e+P.cellsOf e=(i+1)*P.cellsOf e:=by rw[Zv];omega
    _<=n*P.cellsOf e:=Zbi _ this.2)
 have e1:((f.map (· * P.cellsOf e)).zip xs).map (fun p=>(p.1,p.2.cells))=(f.zip xs).map fun(i,x)=>(i*P.cellsOf e,x.cells):=by
  rw[List.zip_map_left,Zap];rfl
 rw[e1] at m;generalize hF:(Qi4 (rep n z) ((f.zip xs).map fun(i,x)=>(i*P.cellsOf e,x.cells)))=F at H m;obtain⟨hdl,W⟩:=Qux H;have hlen:=m.len;have hfl2:F.length=n*P.cellsOf e:=by
  rw[<-hF];rw[Q3o,k];intro p hp;simp only[Zl] at hp;obtain⟨⟨i,x⟩,E,rfl⟩:=hp;have:=q (i,x) E;simp only[Zc,beq_iff_eq,decide_eq_true_eq] at this;simp only;rw[this.1.2,k]
  calc i*P.cellsOf e+P.cellsOf e=(i+1)*P.cellsOf e:=by rw[Zv];omega
   _<=n*P.cellsOf e:=Zbi _ this.2
 obtain⟨g',N⟩:=h.allocD (dst:=dst) hd (ds:=ds) (us:=out) (by omega) (fun j x u hj hu=>by
  obtain⟨c,hc⟩ : ∃c,F[j]? = some c:=⟨_,Zj (by have:=(Zm.1 hj).1;omega)⟩;exact Qwz (W j c x hc hj) (m.rf j c u hc hu .ext)) (sz:=P.cellsOf e) (n:=n) (by omega) e
 refine⟨_,_,g',?_,N⟩;have E:=Qpl X.cells (by omega) n;rw[r] at E;unfold madeCells at E;have Q:¬(16777216<n*P.cellsOf e):=by omega
 have O:∀w,(sizeOf e).run P w = .ok (P.cellsOf e) w:=fun w=>by rw[Qhk P T,Qfj P T]
 by_cases R:n*P.cellsOf e=0
 ·have:n=0:=by
   grind [Nat.mul_eq_zero]
  simp_all[absurd,List.replicate_zero,List.flatten_nil,List.zip_nil_left,Go.Instr.fill,Zh,Go.Instr.buildSlice,Go.run_underlying,Go.newRow,Qpj,Go.Array.range_zero']
 ·rw[<-E] at b;rw[r] at b;simp[Instr.buildSlice,run_underlying ht,O,Qpj P T J,Q,R,r,b,newRow]
theorem Qbnf{s b : Sl}{M:Mem}{nb:Nat}{a:Act}(h:SR n0 nt g0 w0 ⟨s,M,nb⟩ a w g)(c:∀i,b i=s i\/∃sz l,s i = .own sz l/\b i = .ownT sz l):SR n0 nt g0 w0 ⟨b,M,nb⟩ a w g:={
 mem:=h.mem
 slots:=fun t=>by
  rcases c t with e|⟨sz,l,e1,e2⟩
  ·show RV g w (b t) _ _;rw[e];exact h.slots t
  ·show RV g w (b t) _ _;have:=h.slots t
   grind [Qbct]
 size:=h.size
 defers:=h.defers
 onS:=fun t=>by
  rcases c t with e|⟨sz,l,e1,e2⟩
  ·show (b t).on _;rw[e];exact h.onS t
  ·show (b t).on _;rw[e2];trivial
 onM:=h.onM
 top:=h.top
 fr:=h.fr }
theorem Qbaj(h:SR n0 nt g0 w0 σ a w g){dst:Option Nat}(hd:∀d,dst=some d->d<nt)(t ty e:TypeId)(ht:P.underlying t=some (.slice e)){z:List V}(hz:Qsj P e=some z)(hzl:z.length=P.cellsOf e)(t0:Nat){x v:V}{ux:Value}{ℓx:Owner}{κ:Nat}{M' : Mem}(hx:RV g w x ℓx ux)(hs:Ql n0 κ (.append (P.cellsOf e) (P.bytesOf e)) [σ.s t0,x] σ.M=some (v,M')):
  ∃val w' g',(Builtin.append_ #[t,t] ty #[a.tmps.getD t0 undef,ux]).run P w = .ok val w'/\SR n0 nt g0 w0 ⟨Qbe (σ.s.put t0 (σ.s t0).dem) dst v,M',σ.nb⟩ (a.put dst val) w' g':=by
 obtain⟨rfl,ys,hy,hcases⟩:=Qbai hs;obtain⟨i,zv,hi,hzv,hcz,_⟩:=Qkc P hz;have hz1:∀q,∀u∈(Builtin.zeroCells zv.cells q).toList,u.oneCell'=true:=by
  intro q u hu;refine (hcz g w).one u ?_;simp only[Builtin.zeroCells] at hu;have B : ∃a,a<q*zv.cells.size/\zv.cells[a % zv.cells.size]! = u:=by simpa using hu
  obtain⟨j,hj,rfl⟩:=B
  grind [Nat.eq_zero_or_pos,Nat.mod_lt]
 have W:i.size=P.cellsOf e:=(Qfj P hi).symm;have hby:i.bytes=P.bytesOf e:=by simp[Program.bytesOf,hi]
 have hzs:zv.cells.size=P.cellsOf e:=by have:=(hcz g w).len;grind
 obtain⟨p,C⟩:=Qte h.mem hx hy;have r:=h.slots t0;have J:Kept g w g w (There σ.M) (fun o=>o ≠ .slot t0 []):=⟨Imm.refl _ _,fun _ _=>rfl,fun _ _ _=>⟨rfl,rfl,fun _=>Zk⟩⟩;obtain⟨adx,cx,hux,X⟩:=C.shape;have grow:∀(l:List (List D))(u0:Value)(A:List Value)(base:Option Addr)(m:Nat),Src g w (P.cellsOf e) l u0 A->u0 = .slice base l.length m->m<l.length+ys.length->(base=none->l=[]/\m=0) ->
   l.length+ys.length<=lim->P.bytesOf e<=128->0<ys.length ->
   ∃val w' g',(Builtin.append_ #[t,t] ty #[u0,ux]).run P w = .ok val w'/\SR n0 nt g0 w0 ⟨Qbe (σ.s.put t0 (σ.s t0).dem) dst (.own (P.cellsOf e) (l++ys)),σ.M,σ.nb⟩ (a.put dst val) w' g':=by
  intro l u0 A base m N hu0 hcap R S E hpos;rcases X with⟨rfl,_⟩|⟨bx,ox,rfl,hcx⟩
  ·simp at hpos
  ·have L:∀j u,p[j]? = some u->w.cell? ((⟨bx,ox,none⟩ : Addr).add j)=some u:=fun j u hj=>by rw[Qho];exact hcx j u hj
   have hb128:(l.length+ys.length)*i.bytes<=140737488355328:=by
    rw[hby]
    calc (l.length+ys.length)*P.bytesOf e<=lim*128:=Nat.mul_le_mul S E
     _<=140737488355328:=by simp[lim]
   have hmaxl:l.length+ys.length<=maxLen:=by grind [lim,Go.maxLen]
   have hge:=grownCap_ge w (l.length+ys.length) m e;have hle:=grownCap_le_maxLen w (l.length+ys.length) m e hmaxl;have hzeros:∀q,(Builtin.zeroCells zv.cells q).toList.length=q*P.cellsOf e:=fun q=>by simp[size_zeroCells,hzs]
   obtain⟨g',hsr⟩:=h.newblock (w:=w) hd t0 N C (zeros:=(Builtin.zeroCells zv.cells (grownCap w (l.length+ys.length) m e-(l.length+ys.length))).toList) hge hle (hzeros _) (hz1 _) e;refine⟨_,_,g',?_,hsr⟩;rw[hu0,hux];cases base with
   |none =>
    obtain⟨rfl,rfl⟩:=R rfl;have holds:A=[]:=Zan (by simpa using N.len);subst holds;have:=run_append_nil (P:=P) w t ty e i zv ht hi hzv ⟨bx,ox,none⟩ ys.length cx p (by rw[W];exact C.len) L hpos (by grind [lim]) (by simp at hb128;omega);have earr:∀zc:Array Value,(([]:List Value)++p++zc.toList).toArray=p.toArray++zc:=fun zc=>by apply Array.ext';simp
    grind
   |some ad =>
    obtain⟨ad',c',B,hsh⟩:=N.shape;rw[hu0] at B;injection B with e1 _ e3
    have holds:∀j u,A[j]? = some u->w.cell? (ad.add j)=some u:=by
     intro j u hj;rcases hsh with⟨rfl,_⟩|⟨b,o,hb,hc⟩
     ·have:A=[]:=Zan (by simpa using N.len);subst this;simp at hj
     grind [Qho]
    have:=run_append_grow (P:=P) w t ty e i zv ht hi hzv ad l.length m A (by rw[W];exact N.len) holds ⟨bx,ox,none⟩ ys.length cx p (by rw[W];exact C.len) L hcap (by simp only[lim] at S;omega) (growslice_fits (by omega) hb128);have earr:∀zc:Array Value,(A++p++zc.toList).toArray=A.toArray++p.toArray++zc:=fun zc=>by apply Array.ext';simp
    grind
 have F:∀(base:Option Addr)(n m:Nat),a.tmps.getD t0 undef = .slice base n m->n<=m->ys.length=0->(Builtin.append_ #[t,t] ty #[a.tmps.getD t0 undef,ux]).run P w = .ok (a.tmps.getD t0 undef) w:=by
  grind [Q02]
 rcases hcases with⟨l,hsown,S,E,hpos,rfl⟩|⟨hsnil,S,E,rfl⟩|⟨l,hsown,S,E,hpos,rfl⟩|⟨k,off,len,m,l,hssl,hel,hcases⟩
 ·rw[hsown] at r;have hon:(V.own (P.cellsOf e) (l++ys)).on (There σ.M):=trivial;by_cases h0:ys.length=0
  ·have R:ys=[]:=Zan h0;subst R;simp only[Zar] at hon |-;have O:∃base m,a.tmps.getD t0 undef = .slice base l.length m/\l.length<=m:=by
    have:=Qkx r
    grind [RD]
   obtain⟨base,m,hu,hn⟩:=O;have hkx:=Kept.ex g w (.slot t0 []) (.slot (dst.getD 0) []) (There σ.M);refine⟨_,w,g.re (ex (.slot t0 []) (.slot (dst.getD 0) [])),F base l.length m hu hn rfl,h.grow hd t0 ?_ hkx rfl rfl rfl (Ze _) (fun _=>rfl) (fun d hd'=>by grind [Q7l]) hon⟩;refine h.mem.kept hkx h.mOn (fun _ i h=>Qlm h) (by simp) (fun _ _=>by simp) fun b o hb=>?_;obtain⟨h1,h2⟩:=h.mem.imm b o hb
   grind [G.re,ex]
  ·obtain⟨A,N⟩:=Qte (sz:=P.cellsOf e) h.mem r (ys:=l) (by simp[Qgy]);simp only[RV] at r;rcases r with⟨⟨base,hu⟩,rfl⟩|⟨b,m,f,e',hu,hb,hh,hlc,hcm,⟨hvs,hvone⟩,him,hrow⟩
   ·grind
   ·by_cases I:l.length+ys.length<=m
    ·rcases X with⟨rfl,_⟩|⟨bx,ox,hax,hcx⟩
     ·simp at h0
     ·subst hax;have L:∀j u,p[j]? = some u->w.cell? ((⟨bx,ox,none⟩ : Addr).add j)=some u:=fun j u hj=>by rw[Qho];exact hcx j u hj
      have hfit:l.length*i.size+p.length<=f.size:=by
       rw[C.len,hvs,W,<-Zv];exact Zbi _ I
      have Q:=Q31 P w t ty e e' i ht hi b l.length m f hh ⟨bx,ox,none⟩ ys.length cx p (by rw[W];exact C.len) L C.one I hfit;rw[W] at Q;generalize H:(f.toList.take (l.length*P.cellsOf e)++p++f.toList.drop (l.length*P.cellsOf e+p.length))=row at Q;have hrg:∀j,row[j]? = if j<l.length*P.cellsOf e then f[j]? else if j<l.length*P.cellsOf e+p.length then p[j-l.length*P.cellsOf e]? else f[j]?:=by
       intro j;rw[<-H,Ql0 f.toList p _ _ rfl (by grind)];simp
      have hlt:b<w.heap.size:=(Zaf.1 hh).1;let g' : G:={ box:=g.box,imm:=fun c o=>g.imm c o\/(c=b/\o<(l.length+ys.length)*P.cellsOf e),own:=fun c=>ex (.slot t0 []) (.slot (dst.getD 0) []) (g.own c) };have hI:Imm g.imm g'.imm w (w.setRow b row.toArray):=by
       refine⟨fun _ _ hc=>.inl hc,fun c o hc=>?_⟩;by_cases U:c=b
       ·subst U;refine Q7g hh (setRow_heap w c f row.toArray e' (0,0) hh) ?_;have ho:=(him o).1 hc;rw[cell_setRow_same w c o f row.toArray e' (0,0) hh];have:w.cell? ⟨c,o,none⟩=f[o]?:=by simp[World.cell?,hh]
        grind
       ·exact Qew (setRow_other w b c _ U)
      have T:Kept g w g' (w.setRow b row.toArray) (There σ.M) (fun o=>o ≠ .slot t0 []):=by
       refine⟨hI,fun _ _=>rfl,fun c hc hclt=>?_⟩;have U:c≠b:=by rintro rfl;exact hc hb
       exact⟨by simp only[g',ex];rw[if_neg hc],setRow_other w b c _ U,fun o=>by simp[g',U]⟩
      have hm:MR g' (w.setRow b row.toArray) σ.M σ.nb:=by
       refine h.mem.kept T h.mOn (fun _ i h=>Qlm h) (by simp) (fun _ _=>by simp) ?_;rintro c o (hc|⟨rfl,_⟩)
       ·obtain⟨h1,h2⟩:=h.mem.imm c o hc
        grind [Go.setRow_size,ex]
       ·refine⟨by rw[setRow_size];exact hlt,fun k=>?_⟩;simp only[g',ex];rw[if_pos hb];simp
      refine⟨_,_,g',by rw[hu,hux];exact Q,h.grow hd t0 hm T rfl rfl rfl (by simp) (fun _=>rfl) (fun d hd'=>?_) hon⟩;simp only[RV];refine .inr ⟨b,m,row.toArray,e',by simp,by simp only[g',ex];grind,setRow_heap w b f _ e' (0,0) hh,by simpa using I,hcm,⟨?_,?_⟩,fun o=>?_,?_⟩
      ·grind
      ·intro u B;rw[<-H] at B;simp only[Zp] at B;rcases B with (B|B)|B
       ·grind
       ·exact C.one u B
       grind
      ·rw[Zx]
       grind
      ·refine Qyk (RDL_mono hI _ b l 0 hrow) (Q9a C.len C.sizes (fun i y j d x h1 h2 h3=>Qgk hI d x (C.rd i y j d x h1 h2 h3)) fun j x hj=>?_);have hj':=(Zm.1 hj).1;refine⟨?_,.inr ⟨rfl,by rw[C.len] at hj';rw[Zv];omega⟩⟩;rw[cell_setRow_same w b _ f row.toArray e' (0,0) hh]
       simp_all[if_neg,if_pos]
    grind
 ·rw[hsnil] at r;obtain⟨A,N⟩:=Qte (sz:=P.cellsOf e) h.mem r (ys:=[]) (by simp[Qgy]);simp only[RV] at r;obtain⟨base,hu⟩:=r;by_cases h0:ys.length=0
  ·have R:ys=[]:=Zan h0;subst R;refine⟨_,w,g,F _ 0 0 hu (Ze _) rfl,h.grow hd t0 h.mem J rfl rfl rfl (Ze _) (fun _=>rfl) (fun d hd'=>?_) trivial⟩
   simp_all[RV,trivial]
  ·have:=grow [] _ A base 0 N hu (by simp;omega) (fun _=>⟨rfl,rfl⟩) (by simpa using S) E (by omega);simpa using this
 ·rw[hsown] at r;have hon:(V.ownT (P.cellsOf e) (l++ys)).on (There σ.M):=trivial;by_cases h0:ys.length=0
  ·have R:ys=[]:=Zan h0;subst R;simp only[Zar] at hon |-;have O:∃base m,a.tmps.getD t0 undef = .slice base l.length m/\l.length<=m:=by
    have:=Qyg r
    grind [RD]
   obtain⟨base,m,hu,hn⟩:=O;have hkx:=Kept.ex g w (.slot t0 []) (.slot (dst.getD 0) []) (There σ.M);refine⟨_,w,g.re (ex (.slot t0 []) (.slot (dst.getD 0) [])),F base l.length m hu hn rfl,h.grow hd t0 ?_ hkx rfl rfl rfl (Ze _) (fun _=>rfl) (fun d hd'=>by grind [Qbnd]) hon⟩;refine h.mem.kept hkx h.mOn (fun _ i h=>Qlm h) (by simp) (fun _ _=>by simp) fun b o hb=>?_;obtain⟨h1,h2⟩:=h.mem.imm b o hb
   grind [G.re,ex]
  ·obtain⟨A,N⟩:=Qte (sz:=P.cellsOf e) h.mem r (ys:=l) (by simp[Qgy]);have growT:∀(l:List (List D))(u0:Value)(A:List Value)(base:Option Addr)(m:Nat),Src g w (P.cellsOf e) l u0 A->u0 = .slice base l.length m->m<l.length+ys.length->(base=none->l=[]/\m=0) ->
     l.length+ys.length<=lim ->
     ∃val w' g',(Builtin.append_ #[t,t] ty #[u0,ux]).run P w = .ok val w'/\SR n0 nt g0 w0 ⟨Qbe (σ.s.put t0 (σ.s t0).dem) dst (.ownT (P.cellsOf e) (l++ys)),σ.M,σ.nb⟩ (a.put dst val) w' g':=by
    intro l u0 A base m a1 a2 a3 a4 a5;obtain⟨val,w',g',r1,r2⟩:=grow l u0 A base m a1 a2 a3 a4 a5 E (by omega);refine⟨val,w',g',r1,Qbnf r2 fun i=>?_⟩;cases dst with
    |none=>exact .inl rfl
    |some d =>
     simp only[Qbe,Sl.put]
     grind
   simp only[RV] at r;rcases r with⟨⟨base,hu⟩,rfl⟩|⟨b,o0,m,f,e',hu,hb,hh,hlc,hcm,⟨hvs,hvone⟩,him,hrow⟩
   ·grind
   ·by_cases I:l.length+ys.length<=m
    ·rcases X with⟨rfl,_⟩|⟨bx,ox,hax,hcx⟩
     ·simp at h0
     ·subst hax;have L:∀j u,p[j]? = some u->w.cell? ((⟨bx,ox,none⟩ : Addr).add j)=some u:=fun j u hj=>by rw[Qho];exact hcx j u hj
      have hfit:o0+l.length*i.size+p.length<=f.size:=by
       rw[C.len,hvs,W,Nat.add_assoc,<-Zv];exact Nat.add_le_add_left (Zbi _ I) _
      have Q:=Qtf P w t ty e e' i ht hi b o0 l.length m f hh ⟨bx,ox,none⟩ ys.length cx p (by rw[W];exact C.len) L C.one I hfit;rw[W] at Q;generalize H:(f.toList.take (o0+l.length*P.cellsOf e)++p++f.toList.drop (o0+l.length*P.cellsOf e+p.length))=row at Q;have hrg:∀j,row[j]? = if j<o0+l.length*P.cellsOf e then f[j]? else if j<o0+l.length*P.cellsOf e+p.length then p[j-(o0+l.length*P.cellsOf e)]? else f[j]?:=by
       intro j;rw[<-H,Ql0 f.toList p _ _ rfl (by grind)];simp
      have hlt:b<w.heap.size:=(Zaf.1 hh).1;let g' : G:={ box:=g.box,imm:=fun c o=>g.imm c o\/(c=b/\o<o0+(l.length+ys.length)*P.cellsOf e),own:=fun c=>ex (.slot t0 []) (.slot (dst.getD 0) []) (g.own c) };have hI:Imm g.imm g'.imm w (w.setRow b row.toArray):=by
       refine⟨fun _ _ hc=>.inl hc,fun c o hc=>?_⟩;by_cases U:c=b
       ·subst U;refine Q7g hh (setRow_heap w c f row.toArray e' (0,0) hh) ?_;have ho:=(him o).1 hc;rw[cell_setRow_same w c o f row.toArray e' (0,0) hh];have:w.cell? ⟨c,o,none⟩=f[o]?:=by simp[World.cell?,hh]
        grind
       ·exact Qew (setRow_other w b c _ U)
      have T:Kept g w g' (w.setRow b row.toArray) (There σ.M) (fun o=>o ≠ .slot t0 []):=by
       refine⟨hI,fun _ _=>rfl,fun c hc hclt=>?_⟩;have U:c≠b:=by rintro rfl;exact hc hb
       exact⟨by simp only[g',ex];rw[if_neg hc],setRow_other w b c _ U,fun o=>by simp[g',U]⟩
      have hm:MR g' (w.setRow b row.toArray) σ.M σ.nb:=by
       refine h.mem.kept T h.mOn (fun _ i h=>Qlm h) (by simp) (fun _ _=>by simp) ?_;rintro c o (hc|⟨rfl,_⟩)
       ·obtain⟨h1,h2⟩:=h.mem.imm c o hc
        grind [Go.setRow_size,ex]
       ·refine⟨by rw[setRow_size];exact hlt,fun k=>?_⟩;simp only[g',ex];rw[if_pos hb];simp
      refine⟨_,_,g',by rw[hu,hux];exact Q,h.grow hd t0 hm T rfl rfl rfl (by simp) (fun _=>rfl) (fun d hd'=>?_) hon⟩;simp only[RV];refine .inr ⟨b,o0,m,row.toArray,e',by simp,by simp only[g',ex];grind,setRow_heap w b f _ e' (0,0) hh,by simpa using I,hcm,⟨?_,?_⟩,fun o=>?_,?_⟩
      ·grind
      ·intro u B;rw[<-H] at B;simp only[Zp] at B;rcases B with (B|B)|B
       ·grind
       ·exact C.one u B
       grind
      ·rw[Zx]
       grind
      ·refine Qyk (RDL_mono hI _ b l o0 hrow) (Q9a C.len C.sizes (fun i y j d x h1 h2 h3=>Qgk hI d x (C.rd i y j d x h1 h2 h3)) fun j x hj=>?_);have hj':=(Zm.1 hj).1;refine⟨?_,.inr ⟨rfl,by rw[C.len] at hj';rw[Zv];omega⟩⟩;rw[cell_setRow_same w b _ f row.toArray e' (0,0) hh];have:=hrg (o0+l.length*P.cellsOf e+j);rw[if_neg (by omega),if_pos (by omega),show o0+l.length*P.cellsOf e+j-(o0+l.length*P.cellsOf e)=j from by omega,hj] at this;simpa using this
    grind
 ·rw[hssl] at r;obtain⟨A,N⟩:=Qte h.mem r (by rw[<-hssl];exact hel);have hu:a.tmps.getD t0 undef = .slice (some ⟨g.box k,off,none⟩) len m:=by simpa[RV] using r
  have hlen:l.length=len:=by
   obtain⟨_,_,h1,_⟩:=N.shape
   grind
  rcases hcases with⟨h0,rfl,rfl,rfl⟩|⟨h0,hlc,rfl⟩|⟨hpos,hcl,S,E,_,rfl⟩
  ·refine⟨_,w,g,F _ 0 0 hu (Ze _) h0,h.grow hd t0 h.mem J rfl rfl rfl (Ze _) (fun _=>rfl) (fun d hd'=>?_) trivial⟩
   simp_all[RV,trivial]
  ·refine⟨_,w,g,F _ len m hu hlc h0,h.grow hd t0 h.mem J rfl rfl rfl (Ze _) (fun _=>rfl) (fun d hd'=>?_) (h.onS t0)⟩
   grind [RV]
  grind
theorem Qbng(h:SR n0 nt g0 w0 σ a w g){dst:Option Nat}(hd:∀d,dst=some d->d<nt)(t W e:TypeId)(ht:P.underlying t=some (.slice e)){z:List V}(hz:Qsj P e=some z)(X:z.length=P.cellsOf e)(t0:Nat){x v:V}{ux:Value}{N:Owner}{κ:Nat}{M' : Mem}(hx:RV g w x N ux)(hs:Ql n0 κ (.appw (P.cellsOf e) (P.bytesOf e)) [σ.s t0,x] σ.M=some (v,M')):
  ∃val w' g',(Builtin.append_ #[t,t] W #[a.tmps.getD t0 undef,ux]).run P w = .ok val w'/\SR n0 nt g0 w0 ⟨Qbe σ.s dst v,M',σ.nb⟩ (a.put dst val) w' g':=by
 obtain⟨hs0,hs|⟨k,off,len,U,cs,ys,hsl,m,hy,R,hsz0,I,hle,hys,rfl,rfl⟩⟩:=Q7n hs
 ·obtain⟨val,w',g',h1,h2⟩:=Qbaj P h hd t W e ht hz X t0 hx hs;have e0:σ.s.put t0 (σ.s t0).dem=σ.s:=by
   funext i;simp only[Sl.put];split
   ·rename_i e;subst e;rcases hs0 with⟨_,_,_,_,e⟩|⟨_,e⟩<;>rw[e]<;>rfl
   ·rfl
  grind
 ·obtain⟨i,zv,hi,_,_,_⟩:=Qkc P hz;have Q:i.size=P.cellsOf e:=(Qfj P hi).symm;obtain⟨o,A⟩:=Qte h.mem hx hy;obtain⟨adx,cx,hux,F⟩:=A.shape;have C:=h.slots t0;rw[hsl] at C;have hu:a.tmps.getD t0 undef = .slice (some ⟨g.box k,off,none⟩) len U:=by simpa[RV] using C
  obtain⟨hkb,hbo,n,e',hh,hr,h1⟩:=h.mem.box k _ m;obtain⟨hvl,hrv⟩:=(Qc8 _ _ _ _).1 hr;obtain⟨hfl,hfa⟩:=Qbhm hys;rcases F with⟨rfl,_⟩|⟨bx,ox,rfl,hcx⟩
  ·simp at R
  have J:∀j u,o[j]? = some u->w.cell? ((⟨bx,ox,none⟩ : Addr).add j)=some u:=fun j u hj=>by rw[Qho];exact hcx j u hj
  have S:=A.len;have hmul:(len+ys.length)*P.cellsOf e=len*P.cellsOf e+ys.length*P.cellsOf e:=Zv _ _ _;have H:=Qtf P w t W e e' i ht hi (g.box k) off len U n.toArray hh ⟨bx,ox,none⟩ ys.length cx o (by rw[Q];exact A.len) J A.one I (by grind);rw[Q,S] at H;have E:=Qzz (g:=g) (w:=w) h.mem m (n.toArray.toList.take (off+len*P.cellsOf e)++o++n.toArray.toList.drop (off+len*P.cellsOf e+ys.length*P.cellsOf e)).toArray;have r:∀c ℓ u,ℓ ≠ .box k->c.on (There σ.M)->RV g w c ℓ u->RV g (w.setRow (g.box k) (n.toArray.toList.take (off+len*P.cellsOf e)++o++n.toArray.toList.drop (off+len*P.cellsOf e+ys.length*P.cellsOf e)).toArray) c ℓ u :=
   fun c ℓ u O hc hv=>Qdq E (fun _ i h=>Qnn h) (by simp) c ℓ u O hc hv
  have hT:There (σ.M.put k (.cells (cs.take (off+len*P.cellsOf e)++ys.flatten.map V.d++cs.drop (off+len*P.cellsOf e+ys.length*P.cellsOf e)))) k:=There.self;have hTk:There σ.M k:=by simp[There,m]
  refine⟨_,_,g,by rw[hu,hux];exact H,SR.row h (f:=id) (fun _ _=>Zk) (fun _ _=>rfl) m hh ((Qc8 _ _ _ _).2 ⟨by grind,fun j c u hc b=>?_⟩) (fun u b=>?_)
   (Qf9 (fun d L=>by rw[h.size];exact hd d L) (fun t _=>r _ _ _ (by simp) (h.onS t) (h.slots t)) (fun d _=>by simp only[RV];rfl)) (Qg9 _ _ _) (Qeo _ _ _) (Qga (fun t=>h.onS t) hTk) ?_ (fun B=>?_) (fun j cs' _ hj i c u hc hru=>hru) (fun j i sz l u hv=>hv)⟩
  ·rw[Ql0 cs _ _ _ (by grind) (by omega)] at hc;rw[Ql0 n o _ _ S (by omega)] at b;simp only[Zz,Owner.sub];split at hc
   ·rename_i B;rw[if_pos B] at b;exact r _ _ _ (by simp) (Qft (h.mOn k cs m) hc) (by grind [Owner.sub])
   ·rename_i hge;rw[if_neg hge] at b;split at hc
    ·rename_i B;rw[if_pos B] at b;rw[Zag] at hc;obtain⟨d,L,rfl⟩:=Zd.1 hc;obtain⟨p,q,y,e1,e2,e3⟩:=hfa _ d L;have:=A.rd p y q d u e2 e3 (by rw[<-e1];exact b);simp only[RV];exact Qgk E.imm d u this
    ·rename_i T;rw[if_neg T] at b;exact r _ _ _ (by simp) (Qft (h.mOn k cs m) hc) (by grind [Owner.sub])
  ·rcases Zp.1 b with b|b
   ·rcases Zp.1 b with b|b
    ·grind
    ·exact A.one u b
   grind
  ·exact Qfk.2 ⟨Qfk.2 ⟨Qn7 _ (h.mOn k cs m),Qbk5 _⟩,Qn8 _ (h.mOn k cs m)⟩
  ·exact Qfk.2 ⟨Qfk.2 ⟨Qn7 _ (h.out k cs m B),Qbk5 _⟩,Qn8 _ (h.out k cs m B)⟩
end
end Go.Abs
end
section
namespace Go.Abs
open Go
section
variable(P:Program){g:G}{w:World}{n0 nt:Nat}{g0:G}{w0:World}{σ:St}{a:Act}
def relab(t d:Nat):Owner->Owner
 |.slot b p=>if b=t then .slot d p else .slot b p
 |o=>o
theorem Qp8(t d:Nat)(o:Owner)(i:Nat):relab t d (o.sub i)=(relab t d o).sub i:=by
 cases o<;>simp[relab,Owner.sub]
 grind
theorem Q45{t d b : Nat}(h:b ≠ t)(p:List Nat):relab t d (.slot b p) = .slot b p:=by simp[relab,h]
theorem Q7o(t d:Nat)(p:List Nat):relab t d (.slot t p) = .slot d p:=by simp[relab]
theorem Qbak{t d:Nat}{o:Owner}{k:Nat}:relab t d o = .box k↔o = .box k:=by
 cases o<;>simp[relab];split<;>simp
theorem MR.relab(j:MR g w σ.M σ.nb)(t d:Nat):MR (g.re (relab t d)) w σ.M σ.nb:=by
 refine⟨fun k b p=>?_,fun b o hb=>⟨(j.imm b o hb).1,fun k e=>(j.imm b o hb).2 k (Qbak.1 e)⟩⟩;obtain⟨r,q,n⟩:=j.box k b p;refine⟨r,Qbak.2 q,?_⟩;cases b with
 |mp es c =>
  obtain⟨h,l,hr⟩:=n;exact⟨h,l,Qbaf (g:=g) (g':=g.re (Abs.relab t d)) (Imm.refl _ _) (fun b i m _=>⟨by simp[G.re,Abs.relab,m],rfl,fun _=>Zk⟩) hr⟩
 |cells cs =>
  obtain⟨f,e,l,hr,ho⟩:=n;exact⟨f,e,l,RVs_re (Qp8 t d) rfl cs (.box k) 0 f hr,ho⟩
theorem Qbhn(h:SR n0 nt g0 w0 σ a w g)(t0 d:Nat)(m:d<nt):
  ∃g',SR n0 nt g0 w0 ⟨Qbe (σ.s.put t0 (σ.s t0).dem) (some d) (σ.s t0),σ.M,σ.nb⟩ (a.put (some d) (a.tmps.getD t0 undef)) w g':=by
 have f:∀o,Prot o->Abs.relab t0 d o=o:=by intro o ho;cases o<;>first|rfl|exact ho.elim
 refine⟨g.re (Abs.relab t0 d),h.step (h.mem.relab t0 d) ?_ (Qf9 (fun n c=>by cases c;rw[h.size];exact m) (fun t k=>?_) (fun n c=>?_)) (Qg9 _ _ _) (Qeo _ _ _)
  (Qga (fun t=>?_) (h.onS t0)) h.mOn h.out⟩
 ·exact⟨rfl,rfl,rfl,Ze _,Imm.refl _ _,fun _ _=>rfl,fun b hb ho=>⟨f _ ho,rfl,fun _=>Zk⟩⟩
 ·have j:t≠d:=fun e=>k (by rw[e]);simp only[Sl.put];split
  ·rename_i l;subst l;have:=Qrj (Qp8 t d) rfl (σ.s t).dem .ext _ (Qie _ _ .ext _ (h.slots t));exact Qmf (Qd4 _) this
  ·rename_i i;have:=Qrj (Qp8 t0 d) rfl (σ.s t) _ _ (h.slots t)
   rwa [Q45 i] at this
 ·cases c;have:=Qrj (Qp8 t0 d) rfl (σ.s t0) _ _ (h.slots t0)
  rwa [Q7o] at this
 ·simp only[Sl.put];split
  ·exact (Qd3 _).2 (h.onS t0)
  ·exact h.onS t
theorem MR.re_slots(e:MR g w σ.M σ.nb)(d:MOn (There σ.M) σ.M){f:Owner->Owner}(j:∀o,(∀t p,o ≠ .slot t p)->f o=o)(hb:∀t p k,f (.slot t p) ≠ .box k):MR (g.re f) w σ.M σ.nb:=by
 refine e.kept ((Kept.re g w f (There σ.M)).weaken (fun _ h=>h) j) d (fun ℓ i h t p=>?_) (fun _ _=>by simp) (fun _ _ _ _=>by simp) (fun b o c=>⟨(e.imm b o c).1,fun k=>?_⟩)
 ·cases ℓ<;>first|exact absurd rfl (h _ _)|simp[Owner.sub]
 ·have l:=(e.imm b o c).2 k;show f (g.own b) ≠ .box k
  grind
theorem MR.ex_slot(s:MR g w σ.M σ.nb)(n:MOn (There σ.M) σ.M)(t:Nat)(p:List Nat)(y:Owner)(C:∀k,y ≠ .box k):MR (g.re (ex (.slot t p) y)) w σ.M σ.nb:=by
 have f:=Kept.ex g w (.slot t p) y (There σ.M);have j:∀b o,g.imm b o->b<w.heap.size/\∀k,ex (.slot t p) y (g.own b) ≠ .box k:=by
  intro b o hb;obtain⟨z,B⟩:=s.imm b o hb
  grind [ex]
 refine⟨fun k b v=>?_,j⟩;obtain⟨z,B,x⟩:=s.box k b v;refine⟨z,by simp_all[G.re,ex,if_neg],?_⟩;cases b with
 |mp es c =>
  obtain⟨l,r,hr⟩:=x;exact⟨l,r,Qll (g:=g) (g':=g.re (ex (.slot t p) y)) f (fun _=>by simp) hr⟩
 |cells cs =>
  obtain⟨d,e,r,hr,ho⟩:=x;refine⟨d,e,r,(Qc8 _ _ _ _).2 ⟨Qp0 hr,fun i c u hc A=>?_⟩,ho⟩;have m:=((Qc8 _ _ _ _).1 hr).2 i c u hc A;have q:Kept g w (g.re (ex (.slot t p) y)) w (There σ.M) (fun o=>(∃k c,o = .cell k c)\/o = .ext):=
   f.weaken (fun _ h=>h) (by grind)
  refine Qdq q ?_ (.inr rfl) c _ u (.inl ⟨k,0+i,rfl⟩) (Qft (n k cs v) hc) m;rintro ℓ i (⟨k,c,rfl⟩|rfl)
  ·exact .inl ⟨k,c,rfl⟩
  ·exact .inr rfl
theorem Qbea(h:SR n0 nt g0 w0 σ a w g)(t0 d:Nat)(p:d<nt){v:V}{val:Value}(k:RV g w v (.slot t0 []) val)(i:v.on (There σ.M)):
  ∃g',SR n0 nt g0 w0 ⟨Qbe (σ.s.put t0 (σ.s t0).dem) (some d) v,σ.M,σ.nb⟩ (a.put (some d) val) w g':=by
 have f:∀o,Prot o->Abs.relab t0 d o=o:=by intro o ho;cases o<;>first|rfl|exact ho.elim
 refine⟨g.re (Abs.relab t0 d),h.step (h.mem.relab t0 d) ?_ (Qf9 (fun q c=>by cases c;rw[h.size];exact p) (fun t m=>?_) (fun q c=>?_)) (Qg9 _ _ _) (Qeo _ _ _)
  (Qga (fun t=>?_) i) h.mOn h.out⟩
 ·exact⟨rfl,rfl,rfl,Ze _,Imm.refl _ _,fun _ _=>rfl,fun b hb ho=>⟨f _ ho,rfl,fun _=>Zk⟩⟩
 ·have l:t≠d:=fun e=>m (by rw[e]);simp only[Sl.put];split
  ·rename_i n;subst n;have:=Qrj (Qp8 t d) rfl (σ.s t).dem .ext _ (Qie _ _ .ext _ (h.slots t));exact Qmf (Qd4 _) this
  ·rename_i j;have:=Qrj (Qp8 t0 d) rfl (σ.s t) _ _ (h.slots t)
   rwa [Q45 j] at this
 ·cases c;have:=Qrj (Qp8 t0 d) rfl v _ _ k
  rwa [Q7o] at this
 ·simp only[Sl.put];split
  ·exact (Qd3 _).2 (h.onS t0)
  ·exact h.onS t
theorem Qbk8(t e:TypeId)(A:P.underlying t=some (.slice e))(J:P.cellsOf e≠0){l:List (List D)}{ℓ:Owner}{u:Value}(v:RV g w (.ownT (P.cellsOf e) l) ℓ u)(k:IntKind)(n:Int)(I:0<=n)(H:n<=l.length):
  ∃val,(Instr.sliceAt t u (some (.int k n)) none none).run P w = .ok val w/\RV g w (.ownT (P.cellsOf e) (l.drop n.toNat)) ℓ val:=by
 have j:∀(p:Option Addr)(len c:Nat),n<=len->len<=c->(Instr.sliceAt t (.slice p len c) (some (.int k n)) none none).run P w = .ok (sliced p n.toNat len c (P.cellsOf e)) w:=by
  intro p len c B hc;have:=Qyi (g:=g) (w:=w) P t e A J (some (.int k n)) none (bs:=[.d (.int k n)]) (la:=some n) (hb:=none) ⟨_,_,rfl,RF_d.2 (by simp[RD]),rfl⟩ rfl p len c I (by simpa using B) (by simp) hc;simpa using this
 simp only[RV] at v;rcases v with⟨⟨p,rfl⟩,rfl⟩|⟨b,z,c,h,L,rfl,hb,E,r,F,⟨q,f⟩,s,m⟩
 ·simp_all[RV,Go.sliced]
 ·refine⟨_,j _ l.length c H r,?_⟩;simp only[RV];by_cases C:c=n.toNat
  ·simp_all[Go.sliced,if_pos,Zan,List.length_drop]
  ·refine .inr ⟨b,z+n.toNat*P.cellsOf e,c-n.toNat,h,L,?_,hb,E,by grind,by omega,⟨?_,f⟩,fun o=>?_,Q3l fun i x y=>?_⟩
   ·simp only[sliced];rw[if_neg C];simp[Qho]
   ·rw[q,Nat.add_assoc,<-Zv];congr 2;omega
   ·rw[s o,List.length_drop,Nat.add_assoc,<-Zv,show n.toNat+(l.length-n.toNat)=l.length from by omega]
   ·rw[Zbs] at y;have:=Qzu m _ _ y
    grind
theorem Qbcy(h:SR n0 nt g0 w0 σ a w g)(t0 i d:Nat)(Q:d<nt){v:V}{vs:List V}(R:σ.s t0 = .tup vs)(J:vs[i]? = some v):
  ∃val g',(Instr.extract (a.tmps.getD t0 undef) i).run P w = .ok val w /\
   SR n0 nt g0 w0 ⟨Qbe (σ.s.put t0 (.tup (vs.set i v.dem))) (some d) v.top,σ.M,σ.nb⟩ (a.put (some d) val) w g':=by
 have f:=h.slots t0;have x:=h.onS t0;rw[R] at f x;simp only[RV] at f;obtain⟨us,F,hr⟩:=f;obtain⟨C,hr⟩:=(Qc8 _ _ _ _).1 hr;have O:=(Zm.1 J).1;have H:=Zj (show i<us.length by omega);have A:=hr i v _ J H;simp only[Zz,Owner.sub] at A;have p:(Instr.extract (a.tmps.getD t0 undef) i).run P w = .ok us[i] w:=by
  simp_all[Go.Instr.extract,Zj]
 have n : V.ons (There σ.M) vs:=x;have y:v.on (There σ.M):=Qft n J;have z : ∀t,(σ.s.put t0 (.tup (vs.set i v.dem)) t).on (There σ.M):=by
  intro t;simp only[Sl.put];split
  ·grind [V.on,Q2q,Qd3]
  ·exact h.onS t
 have m:∀g' : G,(∀(j:Nat)c u,j≠i->vs[j]? = some c->us[j]? = some u->RV g' w c (.slot t0 [j]) u)->RV g' w v.dem (.slot t0 [i]) us[i]->RV g' w (.tup (vs.set i v.dem)) (.slot t0 []) (a.tmps.getD t0 undef):=by
  intro g' h1 h2;simp only[RV];refine⟨us,F,(Qc8 _ _ _ _).2 ⟨by simp[C],fun j c u hc S=>?_⟩⟩;simp only[Zz,Owner.sub]
  grind
 by_cases r:∃sz l,v = .own sz l
 ·obtain⟨sz,l,rfl⟩:=r;have B:=Kept.ex g w (.slot t0 [i]) (.slot d []) (There σ.M);refine⟨us[i],g.re (ex (.slot t0 [i]) (.slot d [])),p,h.step (h.mem.ex_slot h.mOn t0 [i] _ (by simp)) ?_ (Qf9 (fun L k=>by cases k;rw[h.size];exact Q) (fun t T=>?_) (fun L k=>?_)) (Qg9 _ _ _) (Qeo _ _ _)
   (Qga z trivial) h.mOn h.out⟩
  ·exact⟨rfl,rfl,rfl,Ze _,Imm.refl _ _,fun _ _=>rfl,fun b hb ho=>⟨by simp only[G.re,ex];rw[if_neg (by intro e;rw[e] at ho;exact ho)],rfl,fun _=>Zk⟩⟩
  ·simp only[Sl.put];split
   ·rename_i W;subst W;refine m _ (fun j c u X hc S=>?_) ?_
    ·have I:Kept g w (g.re (ex (.slot t [i]) (.slot d []))) w (There σ.M) (fun o=>(∃q,o = .slot t (q++[j]))\/o = .ext):=by
      refine B.weaken (fun _ h=>h) ?_;rintro o (⟨q,rfl⟩|rfl)
      ·intro e;injection e with _ e
       have:=congrArg List.getLast? e
       grind
      ·simp
     refine Qdq I ?_ (.inr rfl) c _ u (.inl ⟨[],rfl⟩) (Qft n hc) ?_
     ·rintro ℓ E (⟨q,rfl⟩|rfl)
      ·exact .inl ⟨E::q,rfl⟩
      ·exact .inr rfl
     grind [Owner.sub]
    ·exact Qlz (B.weaken (fun _ h=>h) (by rintro o rfl;simp)) (Qd4 _) ((Qd3 _).2 y) (Qie _ _ (.slot t [i]) _ A)
   ·rename_i U;have I:Kept g w (g.re (ex (.slot t0 [i]) (.slot d []))) w (There σ.M) (fun o=>(∃q,o = .slot t q)\/o = .ext):=by
     refine B.weaken (fun _ h=>h) ?_
     grind
    refine Qdq I ?_ (.inr rfl) _ _ _ (.inl ⟨[],rfl⟩) (h.onS t) (h.slots t);rintro ℓ E (⟨q,rfl⟩|rfl)
    ·exact .inl ⟨E::q,rfl⟩
    ·exact .inr rfl
  ·cases k;exact Q7l A
 ·have N:v.top=v.dem:=Qyj fun sz l e=>r ⟨sz,l,e⟩;refine⟨us[i],g,p,h.step h.mem (Fr.refl _ _ _) (Qf9 (fun L k=>by cases k;rw[h.size];exact Q) (fun t T=>?_) (fun L k=>?_)) (Qg9 _ _ _) (Qeo _ _ _)
   (Qga z ((Q7i v).2 y)) h.mOn h.out⟩
  ·simp only[Sl.put];split
   ·grind [Owner.sub,Qie]
   ·exact h.slots t
  grind [Qie]
theorem Qbf4{x v:V}{u:Value}{i κ:Nat}{M M' : Mem}(h:Flat x)(p:RF g w x u)(f:Ql n0 κ (.extract i) [x] M=some (v,M')):
  M'=M/\∃val,(Instr.extract u i).run P w = .ok val w/\RF g w v val:=by
 cases x<;>try (simp[Ql] at f;done)
 rename_i vs;simp only[Ql,Zd,Zf] at f;obtain⟨c,hc,rfl,rfl⟩:=f;have o:=p .free;simp only[RV] at o;obtain⟨us,rfl,hr⟩:=o;obtain⟨m,hr⟩:=(Qc8 _ _ _ _).1 hr;have n:=(Zm.1 hc).1;have e:=hr i c _ hc (Zj (show i<us.length by omega));have b:c.dem=c:=by
  have j : V.dems vs=vs:=by simpa[Flat,V.dem] using h
  have k : (V.dems vs)[i]? = some c:=by rw[j];exact hc
  obtain⟨q,_,rfl⟩:=Q4e k;exact Qd4 q
 have d:c.top=c:=by
  rw[Qyj];exact b;rintro sz l rfl;simp[V.dem] at b
 rw[d];exact⟨rfl,us[i],by simp_all[Go.Instr.extract,Zj],fun ℓ=>Qmf b e⟩
theorem Qbk9(h:SR n0 nt g0 w0 σ a w g){dst:Option Nat}(hd:∀d,dst=some d->d<nt)(t e:TypeId)(ht:P.underlying t=some (.slice e)){p v:V}{up:Value}{κ:Nat}{M' : Mem}(hp:RF g w p up)(hpon:p.on (There σ.M))(hs:Ql n0 κ .loadT [p] σ.M=some (v,M')):
  ∃val g',(Instr.loadAt t up).run P w = .ok val w/\SR n0 nt g0 w0 ⟨Qbe σ.s dst v,M',σ.nb⟩ (a.put dst val) w g':=by
 have key:∃k off cs x,p = .ptr k off/\σ.M k=some (.cells cs)/\cs[off]? = some x/\v=x.top/\M'=σ.M.put k (.cells (cs.set off x.dem)):=by
  cases p<;>try (simp[Ql] at hs;done)
  rename_i k off;simp only[Ql] at hs
  grind
 obtain⟨k,off,cs,x,rfl,S,hx,rfl,rfl⟩:=key;rw[Qry] at hp;subst hp;obtain⟨hkb,U,F,et,hh,hr,h1⟩:=h.mem.box k _ S;obtain⟨hvl,hrv⟩:=(Qc8 _ _ _ _).1 hr;obtain⟨u,hu,N,_⟩:=Qyh h.mem S hx;have hA:Qic P t=false:=by simp[Qic,ht]
 have H:(Instr.loadAt t (.pointer (some ⟨g.box k,off,none⟩))).run P w = .ok u w:=by simp[Instr.loadAt,Instr.sureAddr,Q4z P t ht hA _ u hu]
 have r:x.on (There σ.M):=Qft (h.mOn k cs S) hx;have f:∀j,There σ.M j->There (σ.M.put k (.cells (cs.set off x.dem))) j:=fun j m=>m.put;have hvu:F[off]? = some u:=by
  grind [Go.World.cell?]
 have mem:∀g' : G,g'.box=g.box->g'.imm=g.imm->(∀o j,g'.own o = .box j↔g.own o = .box j)->(∀j i c u,(j≠k\/i≠off)->c.on (There σ.M)->RV g w c (.cell j i) u->RV g' w c (.cell j i) u)->RV g' w x.dem (.cell k off) u ->
   MR g' w (σ.M.put k (.cells (cs.set off x.dem))) σ.nb:=by
  intro g' hb hi ho hc hx';refine⟨fun j b m=>?_,fun b o U=>?_⟩
  ·simp only[Mem.put] at m;split at m
   ·rename_i he;subst he;cases m;refine⟨hkb,by grind,F,et,by rw[hb];exact hh,(Qc8 _ _ _ _).2 ⟨by simp[hvl],fun i c z n L=>?_⟩,h1⟩;simp only[Zz,Owner.sub];rw[List.getElem?_set] at n;split at n
    ·grind
    ·rename_i E;have A:=hrv i c z n L;simp only[Zz,Owner.sub] at A;exact hc _ _ _ _ (.inr fun e=>E e.symm) (Qft (h.mOn j cs S) n) A
   ·rename_i E;obtain⟨k1,k2,k3⟩:=h.mem.box j b m;refine⟨k1,by grind,?_⟩;cases b with
    |mp es c =>
     obtain⟨W,T,C⟩:=k3;exact⟨W,by rw[hb];exact T,Qbhd (g:=g) (by rw[hi];exact Imm.refl _ _) (fun sz l i u hv=>hc j i (.own sz l) u (.inl E) trivial hv) C⟩
    |cells cs' =>
     obtain⟨vs,e',T,C,ho'⟩:=k3;refine⟨vs,e',by rw[hb];exact T,(Qc8 _ _ _ _).2 ⟨Qp0 C,fun i c z n L=>?_⟩,ho'⟩;have A:=((Qc8 _ _ _ _).1 C).2 i c z n L;simp only[Zz,Owner.sub] at A |-;exact hc _ _ _ _ (.inl E) (Qft (h.mOn j cs' m) n) A
  ·rw[hi] at U;obtain⟨h3,h4⟩:=h.mem.imm b o U
   grind
 have J:MOn (There (σ.M.put k (.cells (cs.set off x.dem)))) (σ.M.put k (.cells (cs.set off x.dem))):=by
  intro j cs' m;simp only[Mem.put] at m;split at m
  ·cases m;exact ons_mono f _ (Q2q _ (h.mOn k cs S) ((Qd3 x).2 r))
  ·exact ons_mono f _ (h.mOn j cs' m)
 have B:∀j cs',(σ.M.put k (.cells (cs.set off x.dem))) j=some (.cells cs')->j<n0->V.ons (· < n0) cs':=by
  intro j cs' m O;simp only[Mem.put] at m;split at m
  ·rename_i he;subst he;cases m;exact Q2q _ (h.out j cs S O) ((Qd3 x).2 (Qft (h.out j cs S O) hx))
  ·exact h.out j cs' m O
 by_cases I:∃sz l,x = .own sz l
 ·obtain⟨sz,l,rfl⟩:=I;have Q:=Kept.ex g w (.cell k off) (.slot (dst.getD 0) []) (There σ.M);refine⟨u,g.re (ex (.cell k off) (.slot (dst.getD 0) [])),H,h.step (mem _ rfl rfl (fun o j=>?_) (fun j i c z hji hon L=>?_) ?_) ?_ (Qf9 (fun X y=>by rw[h.size];exact hd X y) (fun t ht=>?_) (fun X y=>?_)) (Qg9 _ _ _) (Qeo _ _ _)
   (Qga (fun t=>Qf8 f _ (h.onS t)) trivial) J B⟩
  ·simp only[G.re,ex]
   grind
  ·have R : Kept g w (g.re (ex (.cell k off) (.slot (dst.getD 0) []))) w (There σ.M) (fun o=>o = .cell j i\/o = .ext):=
    Q.weaken (fun _ h=>h) (by grind)
   refine Qdq R ?_ (.inr rfl) c _ z (.inl rfl) hon L;rintro ℓ i' (rfl|rfl)
   ·exact .inl rfl
   ·exact .inr rfl
  ·exact Qlz (Q.weaken (fun _ h=>h) (by rintro o rfl;simp)) (Qd4 _) ((Qd3 _).2 r) (Qie _ _ (.cell k off) _ N)
  ·exact⟨rfl,rfl,rfl,Ze _,Imm.refl _ _,fun _ _=>rfl,fun b hb ho=>⟨by simp only[G.re,ex];rw[if_neg (by intro e;rw[e] at ho;exact ho)],rfl,fun _=>Zk⟩⟩
  ·have R : Kept g w (g.re (ex (.cell k off) (.slot (dst.getD 0) []))) w (There σ.M) (fun o=>(∃t q,o = .slot t q)\/o = .ext):=
    Q.weaken (fun _ h=>h) (by grind)
   refine Qdq R ?_ (.inr rfl) _ _ _ (.inl ⟨t,[],rfl⟩) (h.onS t) (h.slots t);rintro ℓ i' (⟨t,q,rfl⟩|rfl)
   ·exact .inl ⟨t,i'::q,rfl⟩
   ·exact .inr rfl
  ·simp only[y,Option.getD_some];exact Q7l N
 ·have htop:x.top=x.dem:=Qyj fun sz l e=>I ⟨sz,l,e⟩;refine⟨u,g,H,h.step (mem g rfl rfl (fun _ _=>Zk) (fun j i c z _ _ L=>L) (Qie _ _ _ _ N)) (Fr.refl _ _ _) (Qf9 (fun X y=>by rw[h.size];exact hd X y) (fun t _=>h.slots t) (fun X _=>by grind [Qie])) (Qg9 _ _ _) (Qeo _ _ _)
   (Qga (fun t=>Qf8 f _ (h.onS t)) (Qf8 f _ ((Q7i x).2 r))) J B⟩
end
end Go.Abs
end
section
namespace Go.Abs
open Go
section
variable(P:Program){g:G}{w:World}{n0 nt:Nat}{g0:G}{w0:World}{σ:St}{a:Act}
theorem Qbal{b:TypeId}{v:Value}{x:V}(h:Qbd0 P b v=some x):RF g w x v/\∀p,x.on p:=by
 unfold Qbd0 at h;split at h<;>try (cases h;done)
 ·cases h;exact⟨by rw[RF_d];simp[RD],fun _=>trivial⟩
 ·cases h;exact⟨by rw[RF_d];simp[RD],fun _=>trivial⟩
 ·cases h;exact⟨by rw[RF_d];simp[RD],fun _=>trivial⟩
 ·cases h;exact⟨fun ℓ=>by simp[RV],fun _=>trivial⟩
 ·cases h;exact⟨fun ℓ=>by simp[RV],fun _=>trivial⟩
 ·cases h;exact⟨fun ℓ=>by simp[RV],fun _=>trivial⟩
 ·cases h;exact⟨fun ℓ=>by simp[RV],fun _=>trivial⟩
 ·split at h<;>cases h;exact⟨fun ℓ=>by simp[RV],fun _=>trivial⟩
theorem Qtg(h:SR n0 nt g0 w0 σ a w g){b:TypeId}{x:Operand}{ar:Arg}(hc:Qgj P b x=some ar):
  (∃t,x = .tmp t/\ar = .t t/\RV g w (σ.s t) (.slot t []) (a.eval x)/\(σ.s t).on (There σ.M))\/(Q63 x=false/\(∃c,ar = .c c/\RF g w c (a.eval x)/\c.on (There σ.M))):=by
 cases x<;>simp only[Qgj] at hc
 case tmp t=>cases hc;exact .inl ⟨t,rfl,rfl,h.slots t,h.onS t⟩
 case const v =>
  simp only[Zd] at hc;obtain⟨c,hc,rfl⟩:=hc;obtain⟨e,d⟩:=Qbal P hc;exact .inr ⟨rfl,c,rfl,e,d _⟩
 case global=>cases hc
 case func f =>
  cases hc;exact .inr ⟨rfl,_,rfl,fun ℓ=>by simp[RV,RVs,Act.eval],by simp[V.on,V.ons]⟩
theorem Qhg(h:SR n0 nt g0 w0 σ a w g){e:TypeId}{x:Operand}{ar:Arg}(hc:Qgj P e x=some ar):
  RF g w (ar.val σ.s).dem (a.eval x)/\(ar.val σ.s).on (There σ.M):=by
 rcases Qtg P h hc with⟨t,rfl,rfl,d,b⟩|⟨_,c,rfl,d,b⟩
 ·exact⟨Qwx d,b⟩
 ·exact⟨Qwx (d .free),b⟩
theorem Qej(h:SR n0 nt g0 w0 σ a w g)(b:Nat->TypeId):∀(i:Nat)(xs:List Operand)(c:List Arg),Qe1 P b i xs=some c ->
  RFs g w (V.dems (c.map (·.val σ.s))) (xs.map a.eval)/\V.ons (There σ.M) (V.dems (c.map (·.val σ.s)))
 |i,[],c,hc=>by simp[Qe1] at hc;subst hc;exact⟨rfl,trivial⟩
 |i,x::xs,c,hc=>by
  simp only[Qe1] at hc;split at hc<;>cases hc;rename_i ar e d has;obtain⟨l,k⟩:=Qhg P h d;obtain⟨j,f⟩:=Qej h b (i+1) xs e has;exact⟨⟨_,_,rfl,l,j⟩,(Qd3 _).2 k,f⟩
theorem Qjz{xs:List V}:∀x∈V.dems xs,Flat x:=by
 intro x b;obtain⟨j,d,rfl⟩:=Zao b;obtain⟨c,_,h⟩:=Q4e (Zj d);rw[h];exact Qd4 c
def Gives(P:Program)(n0 nt:Nat)(g0:G)(w0:World)(o:Oper)(a:Act)(w:World)(b : St):Prop :=
 (∃val w' g',(execOp a.eval o).run P w = .ok (.value val) w'/\SR n0 nt g0 w0 b (a.put o.dst val) w' g') \/
 (∃w' g',(execOp a.eval o).run P w = .ok .skip w'/\SR n0 nt g0 w0 b (a.put o.dst undef) w' g')
theorem Gives.wp{o:Oper}{b : St}{Q:Exit->Act->World->Prop}(h:Gives P n0 nt g0 w0 o a w b){K:Act->World->Prop}(d:∀e w' g',SR n0 nt g0 w0 b e w' g'->K e w'):o.wp P a w K Q:=by
 unfold Oper.wp;rcases h with⟨val,w',g',hr,c⟩|⟨w',g',hr,c⟩
 ·rw[hr];exact d _ _ g' c
 ·rw[hr];exact d _ _ g' c
theorem Qbam{T:Tk}{o:Oper}{k:K}{c:List Arg}{tk:Bool}(hc:Qjo P T o=some (k,c,tk)):k.okz:=by
 have d:∀{t z},Qsj P t=some z->∀p,V.ons p z:=fun h p=>by
  obtain⟨_,_,_,_,_,b⟩:=Qkc P h;exact ons_mono (by simp) _ (ons_lt (n:=0) _ (b 0))
 unfold Qjo Qzs at hc
 repeat' split at hc
 all_goals grind [Option.map_eq_some_iff,Option.bind_eq_some_iff,Option.some.injEq,Prod.mk.injEq,K.okz]
theorem Q46{n0 κ:Nat}{z:List V}{b:List (Nat×Nat)}{xs:List V}{M:Mem}:Ql n0 κ (.build z b) xs M=(if b.length=(own1 xs).length&&(b.zip (own1 xs)).all (fun(p,x)=>Qei x&&x.cells.length==p.2&&decide (p.1+p.2<=z.length))
  then some (V.agg (Qi4 z ((b.zip (own1 xs)).map fun(p,x)=>(p.1,x.cells))),M) else none):=by cases xs<;>rfl
theorem Qban(R:Nat->V->V->Prop):∀(k b : List (Nat×List V))(z e : List V),z.length=e.length->(∀(i:Nat)(c d : V),z[i]? = some c->e[i]? = some d->R i c d)->k.length=b.length ->
  (∀(j:Nat)(q f : Nat×List V),k[j]? = some q->b[j]? = some f->q.1=f.1/\q.2.length=f.2.length/\q.1+q.2.length<=z.length/\∀(i:Nat)(c d : V),q.2[i]? = some c->f.2[i]? = some d->R (q.1+i) c d) ->
  (Qi4 z k).length=(Qi4 e b).length/\∀(i:Nat)(c d : V),(Qi4 z k)[i]? = some c->(Qi4 e b)[i]? = some d->R i c d
 |[],[],z,e,m,r,_,_=>⟨m,r⟩
 |[],_::_,_,_,_,_,h,_=>by simp at h
 |_::_,[],_,_,_,_,h,_=>by simp at h
 |(off,vs)::k,(p,l)::b,z,e,m,r,hp,s=>by
  obtain⟨v,u,t,y⟩:=s 0 _ _ rfl rfl;simp only at v u t y;subst v;simp only[Qi4];refine Qban R k b _ _ (by simp[m,u]) (fun i c d hc o=>?_) (by simpa using hp) fun j q f x n=>?_
  ·rw[Ql0 z vs off _ rfl t] at hc;rw[Ql0 e l off _ rfl (by omega)] at o
   grind
  ·obtain⟨E,C,B,A⟩:=s (j+1) q f (by simpa using x) (by simpa using n)
   grind
theorem Qrz:∀(b:List Arg)(s s0:Sl)(t:Nat),(Arg.t t∈b/\Q5 s b (V.dems (b.map (·.val s0))) t=(s0 t).dem)\/(Arg.t t∉b/\Q5 s b (V.dems (b.map (·.val s0))) t=s t)
 |[],s,s0,t=>.inr ⟨by simp,by simp[V.dems,Q5]⟩
 |a::b,s,s0,t=>by
  simp only[Zb,V.dems,Q5];rcases Qrz b (a.putTo s (a.val s0).dem) s0 t with⟨f,d⟩|⟨f,d⟩
  ·grind
  ·rw[d];cases a with
   |c v=>exact .inr ⟨by simpa using f,rfl⟩
   |t i =>
    by_cases e:t=i
    all_goals simp_all[Arg.putTo,Sl.put,Arg.val]
theorem Qbho(b:Nat->TypeId):∀(i:Nat)(xs:List Operand)(c:List Arg),Qe1 P b i xs=some c->∀(j:Nat)(ar:Arg),c[j]? = some ar->∃x e,xs[j]? = some x/\Qgj P e x=some ar
 |i,[],c,hc,j,ar,h=>by grind [Qe1]
 |i,x::xs,c,hc,j,ar,h=>by
  simp only[Qe1] at hc;split at hc<;>cases hc;rename_i k d f has;cases j with
  |zero=>grind
  |succ j=>simpa using Qbho b (i+1) xs d has j ar (by simpa using h)
theorem Qbeb:∀l:List V,(V.dems l).length=l.length
 |[]=>rfl
 |x::l=>by simp[V.dems,Qbeb l]
theorem Qbcz(h:SR n0 nt g0 w0 σ a w g)(b:List Arg):(∀t,RV g w (Q5 σ.s b (V.dems (b.map (·.val σ.s))) t) (.slot t []) (a.tmps.getD t undef))/\∀t,(Q5 σ.s b (V.dems (b.map (·.val σ.s))) t).on (There σ.M):=by
 refine⟨fun t=>?_,fun t=>?_⟩
 ·rcases Qrz b σ.s σ.s t with⟨_,e⟩|⟨_,e⟩
  ·rw[e];exact Qie _ _ _ _ (h.slots t)
  ·rw[e];exact h.slots t
 ·rcases Qrz b σ.s σ.s t with⟨_,e⟩|⟨_,e⟩
  ·rw[e];exact (Qd3 _).2 (h.onS t)
  ·rw[e];exact h.onS t
theorem Qbec:∀{b:List Arg},nodA b=true->∀(i j t:Nat),b[i]? = some (Arg.t t)->b[j]? = some (Arg.t t)->i=j
 |[],_,_,_,_,h,_=>by simp at h
 |a::b,c,i,j,t,h1,d=>by
  have e:nodA b=true:=by cases a<;>simp_all[nodA]
  have key:∀k:Nat,a=Arg.t t->b[k]? = some (Arg.t t)->False:=by
   rintro k rfl f;simp only[nodA,Zc,Zt] at c;have:=c.1 _ (Zn f);simp at this
  cases i with
  |zero =>
   grind
  |succ i =>
   cases j with
   |zero=>grind
   |succ j=>simp at h1 d;exact congrArg _ (Qbec e i j t h1 d)
open Classical in
theorem Qbla{c:List Arg}(m:nodA c=true)(d:Nat)(pos:Nat->Nat):∃f:Owner->Owner,(∀j t,c[j]? = some (Arg.t t)->f (.slot t []) = .slot d [pos j])/\∀o,(∀t,Arg.t t∈c->o ≠ .slot t [])->f o=o:=by
 refine⟨fun o=>if h:∃j t,c[j]? = some (Arg.t t)/\o = .slot t [] then .slot d [pos h.choose] else o,fun j t k=>?_,fun o ho=>?_⟩
 ·have h:∃l e,c[l]? = some (Arg.t e)/\Owner.slot t [] = .slot e []:=⟨j,t,k,rfl⟩;simp only;rw[dif_pos h];obtain⟨e,i,b⟩:=h.choose_spec;injection b with b _
  subst b;rw[Qbec m _ j _ i k]
 ·simp only;rw[dif_neg];rintro⟨j,t,i,b⟩;exact ho t (Zn i) b
def mark(nb j:Nat)(x:V)(u:Value):V :=
 match x with
 |.own sz _=>match u with
  |.slice (some _) n cap=>if cap=0 then .nils sz else .sl sz (nb+j) 0 n cap
  |_=>.nils sz
 |x=>x.dem
theorem Qbhp{nb j:Nat}{x:V}{u:Value}:Flat (mark nb j x u):=by
 unfold mark;split
 ·split
  ·split<;>rfl
  ·rfl
 ·exact Qd4 _
theorem Q4f{nb j sz:Nat}{l:List (List D)}{u:Value}:Qei (mark nb j (.own sz l) u)=true/\(mark nb j (.own sz l) u).cells=[mark nb j (.own sz l) u]:=by
 simp only[mark];split
 ·split<;>exact⟨rfl,rfl⟩
 ·exact⟨rfl,rfl⟩
theorem Qbed{nb j:Nat}{x:V}{u:Value}(h:∀sz l,x ≠ .own sz l):mark nb j x u=x.top:=by
 rw[Qyj h];cases x<;>first|rfl|exact absurd rfl (h _ _)
def blkU:Value->Nat
 |.slice (some a) _ _=>a.block
 |_=>0
theorem Qbhq(h:SR n0 nt g0 w0 σ a w g){d:Nat}(hd:d<nt){ctx:Nat->TypeId}{i0:Nat}{ops:List Operand}{B:List Arg}(has:Qe1 P ctx i0 ops=some B)(hnd:nodA B=true){z:List V}{F:List (Nat×Nat)}(hzz:(K.build z F).okz){R:Sem Value}{v:V}{κ:Nat}{M' : Mem}(hB:∀(g' : G)(W : List V)(v' : V)(M'' : Mem),(∀x∈W,Flat x)->RFs g' w W (ops.map a.eval)->Ql n0 κ (.build z F) W σ.M=some (v',M'')->∃val,R.run P w = .ok val w/\RF g' w v' val)(hs:Ql n0 κ (.build z F) (B.map (·.val σ.s)) σ.M=some (v,M')):
  M'=σ.M/\∃val g',R.run P w = .ok val w/\SR n0 nt g0 w0 ⟨Qbe (Q5 σ.s B (V.dems (B.map (·.val σ.s)))) (some d) v,σ.M,σ.nb⟩ (a.put (some d) val) w g':=by
 obtain⟨T,hons⟩:=Qej P h ctx i0 ops B has;obtain⟨hps,hpo⟩:=Qbcz h B;have hraw:V.ons (There σ.M) (B.map (·.val σ.s)):=by
  grind [V.ons,There,V.dems,ons_dems]
 have S:=(Q89 hzz hs hraw h.mOn).1;generalize hxs:B.map (·.val σ.s)=xs at *
 rw[Q46] at hs;split at hs<;>cases hs;rename_i hc;refine⟨rfl,?_⟩;simp only[Zc,decide_eq_true_eq,Zt] at hc;obtain⟨hcl,hca⟩:=hc;have hol:(own1 xs).length=xs.length:=by rw[Q0z,Zu]
 have hul:(ops.map a.eval).length=xs.length:=by rw[Qje T,Qbeb]
 generalize hus:ops.map a.eval=us at *
 have E:∀(j sz:Nat)(l:List (List D))(u:Value),xs[j]? = some (.own sz l)->us[j]? = some u->((∃C,u = .slice C 0 0)/\l=[])\/∃t0 b r,B[j]? = some (Arg.t t0)/\RV g w (.own sz l) (.slot t0 []) u/\u = .slice (some ⟨b,0,none⟩) l.length r/\l.length<=r:=by
  intro j sz l u H hu0;obtain⟨ar,har,hav⟩ : ∃ar,B[j]? = some ar/\ar.val σ.s = .own sz l:=by
   grind
  obtain⟨x0,ty,hx0,hca0⟩:=Qbho P ctx i0 ops B has j ar har;have N:a.eval x0=u:=by grind
  have key:∀ℓ,RV g w (.own sz l) ℓ u->((∃C,u = .slice C 0 0)/\l=[])\/∃b r,u = .slice (some ⟨b,0,none⟩) l.length r/\g.own b=ℓ/\l.length<=r:=by
   intro ℓ hv;simp only[RV] at hv
   grind
  rcases Qtg P h hca0 with⟨t0,rfl,rfl,h1,_⟩|⟨_,c,rfl,h1,_⟩
  ·grind [Arg.val]
  ·simp only[Arg.val] at hav;subst hav;rw[N] at h1;rcases key _ (h1 .free) with hn|⟨b,r,k1,k2,_⟩
   ·exact .inl hn
   ·rcases key _ (h1 .ext) with hn|⟨b',cap',k1',k2',_⟩
    all_goals grind
 let ms:List V:=(List.range xs.length).map fun j=>mark σ.nb j (xs.getD j .und) (us.getD j undef);let g' : G:={ g with box:=fun k=>if k<σ.nb then g.box k else blkU (us.getD (k-σ.nb) undef) };have hms:∀(j:Nat)(m:V),ms[j]? = some m->∃x u,xs[j]? = some x/\us[j]? = some u/\m=mark σ.nb j x u:=by
  grind
 have hml:ms.length=xs.length:=by simp[ms]
 have hfl:∀x∈ms,Flat x:=by
  intro x H;obtain⟨j,hj⟩:=List.getElem?_of_mem H;obtain⟨_,_,_,_,rfl⟩:=hms j x hj;exact Qbhp
 have hnb:∀k,There σ.M k->k<σ.nb:=by
  intro k Q;obtain⟨bx,hbx⟩:=Zab.1 Q;exact (h.mem.box k bx hbx).1
 have hg' : Kept g w g' w (There σ.M) (fun _=>True):=⟨⟨fun _ _ h=>h,fun _ _ _=>rfl⟩,fun k Q=>by simp[g',hnb k Q],fun b _ _=>⟨rfl,rfl,fun _=>Zk⟩⟩;have hmu:∀(j sz:Nat)(l:List (List D))(u:Value)(ℓ:Owner)(u' : Value),xs[j]? = some (.own sz l)->us[j]? = some u->(RV g' w (mark σ.nb j (.own sz l) u) ℓ u' ↔ (((∃C,u = .slice C 0 0)/\∃C,u' = .slice C 0 0)\/((¬ ∃C,u = .slice C 0 0)/\u'=u))):=by
  intro j sz l u ℓ u' H N;have hbox:g'.box (σ.nb+j)=blkU u:=by
   grind
  rcases E j sz l u H N with⟨⟨C,rfl⟩,rfl⟩|⟨t0,b,r,_,_,rfl,hle⟩
  ·have:mark σ.nb j (.own sz []) (.slice C 0 0) = .nils sz:=by cases C<;>rfl
   rw[this];simp only[RV];exact⟨fun h=>.inl ⟨⟨C,rfl⟩,h⟩,fun h=>h.elim (·.2) fun h=>absurd ⟨C,rfl⟩ h.1⟩
  ·by_cases hc:r=0
   ·subst hc;have hl:l.length=0:=by omega
    rw[hl];have:mark σ.nb j (.own sz l) (.slice (some ⟨b,0,none⟩) 0 0) = .nils sz:=rfl;rw[this];simp only[RV];exact⟨fun h=>.inl ⟨⟨_,rfl⟩,h⟩,fun h=>h.elim (·.2) fun h=>absurd ⟨_,rfl⟩ h.1⟩
   ·have:mark σ.nb j (.own sz l) (.slice (some ⟨b,0,none⟩) l.length r) = .sl sz (σ.nb+j) 0 l.length r:=by simp only[mark];rw[if_neg hc]
    rw[this];simp only[RV,hbox,blkU]
    grind
 have hrfs' : RFs g' w ms us:=by
  have:∀(ys:List V)(us:List Value),us.length=ys.length->(∀(j:Nat)(y:V)(u:Value),ys[j]? = some y->us[j]? = some u->RF g' w y u)->RFs g' w ys us:=by
   intro ys
   induction ys with
   |nil=>intro us hl _;exact Zan (by simpa using hl)
   |cons y ys ih =>
    intro us hl hh;cases us with
    |nil=>simp at hl
    |cons u us=>exact⟨u,us,rfl,hh 0 y u rfl rfl,ih us (by simpa using hl) fun j y' u' hy N=>hh (j+1) y' u' (by simpa using hy) (by simpa using N)⟩
  refine this _ _ (by omega) fun j y u hy X=>?_;obtain⟨x,u2,H,hu2,rfl⟩:=hms j y hy;rw[X] at hu2;cases hu2;have hdx:(V.dems xs)[j]? = some x.dem:=by
   have:∀(l:List V)(j:Nat)(x:V),l[j]? = some x->(V.dems l)[j]? = some x.dem:=by
    intro l
    induction l with
    |nil=>intro j x h;simp at h
    |cons y l ih =>
     intro j x h;cases j with
     |zero=>simp at h;subst h;rfl
     |succ j=>grind [V.dems]
   exact this _ _ _ H
  by_cases ho:∃sz l,x = .own sz l
  ·obtain⟨sz,l,rfl⟩:=ho;intro ℓ;rw[hmu j sz l u ℓ u H X]
   grind
  ·have hno:∀sz l,x ≠ .own sz l:=fun sz l e=>ho ⟨sz,l,e⟩;rw[Qbed hno,Qyj hno];intro ℓ;exact Qdq hg' (fun _ _ _=>trivial) trivial x.dem ℓ u trivial (Qft hons hdx) (Qus T j _ u hdx X ℓ)
 let Rl:Nat->V->V->Prop:=fun i c c'=>c=c' \/ ∃j sz l u,xs[j]? = some (.own sz l)/\us[j]? = some u/\(F.map (·.1)).getD j 0=i/\c = .own sz l/\c'=mark σ.nb j (.own sz l) u;have J:∀(j:Nat)(x:V)(m:V),(own1 xs)[j]? = some x->ms[j]? = some m->x=m\/∃sz l u,xs[j]? = some (.own sz l)/\us[j]? = some u/\x = .own sz l/\m=mark σ.nb j (.own sz l) u:=by
  intro j x m H hm;obtain⟨x',u,hx',N,rfl⟩:=hms j m hm;rw[Q0z,Zag,hx'] at H;simp only[Zad,Zh] at H;subst H;by_cases ho:∃sz l,x' = .own sz l
  ·obtain⟨sz,l,rfl⟩:=ho;exact .inr ⟨sz,l,u,hx',N,rfl,rfl⟩
  grind [Qbed]
 have hst:Ql n0 κ (.build z F) ms σ.M=some (.agg (Qi4 z ((F.zip ms).map fun(p,x)=>(p.1,x.cells))),σ.M):=by
  rw[Q46,Q4x hfl,if_pos];simp only[Zc,decide_eq_true_eq,Zt];refine⟨by omega,fun q O=>?_⟩;obtain⟨j,hj⟩:=List.getElem?_of_mem O;obtain⟨q1,q2⟩:=q;rw[Zbz] at hj;simp only at hj;have hjl:j<(own1 xs).length:=by grind
  have hox:=Zj hjl;have n:=hca (q1,(own1 xs)[j]) (Zn (i:=j) (by grind));simp only[Zc,beq_iff_eq,decide_eq_true_eq] at n |-;rcases J j _ _ hox hj.2 with he|⟨sz,l,u,_,_,he,rfl⟩
  ·rw[<-he];exact n
  ·rw[he] at n;refine⟨⟨Q4f.1,?_⟩,n.2⟩;rw[Q4f.2];exact n.1.2
 obtain⟨val,hr,hrf⟩:=hB g' _ _ _ hfl hrfs' hst;have hrel:=Qban Rl ((F.zip (own1 xs)).map fun(p,x)=>(p.1,x.cells)) ((F.zip ms).map fun(p,x)=>(p.1,x.cells)) z z rfl (fun i c c' hc A=>by grind) (by simp;omega) (fun j q q' O n=>by
  rw[Zag,Zd] at O n;obtain⟨⟨p1,x1⟩,O,rfl⟩:=O;obtain⟨⟨p2,x2⟩,n,rfl⟩:=n;have hmem:=Zn O;rw[Zbz] at O n;simp only at O n;obtain⟨hq1,hq2⟩:=O;obtain⟨U,hq2'⟩:=n;rw[hq1] at U;cases U;have hok:=hca (p1,x1) hmem;simp only[Zc,beq_iff_eq,decide_eq_true_eq] at hok;have hlen:x1.cells.length=p1.2:=hok.1.2;rcases J j _ _ hq2 hq2' with rfl|⟨sz,l,u,ex,eu,rfl,rfl⟩
  ·grind
  ·refine⟨rfl,by show _=(mark σ.nb j (.own sz l) u).cells.length;rw[Q4f.2];rfl,by simp only;omega,fun i c c' hc A=>.inr ?_⟩;have hc:(V.own sz l).cells[i]? = some c:=hc;have A : (mark σ.nb j (.own sz l) u).cells[i]? = some c':=A;rw[Q4f.2] at A;simp only[V.cells] at hc
   grind)
 obtain⟨f,hf1,hf2⟩:=Qbla hnd d fun j=>(F.map (·.1)).getD j 0;have hfs:∀t p,(Arg.t t∉B\/p≠[])->f (.slot t p) = .slot t p:=by
  grind
 have hfo:∀o,(∀t p,o ≠ .slot t p)->f o=o:=fun o ho=>hf2 o fun t _=>ho t [];have hfb:∀t p k,f (.slot t p) ≠ .box k:=by
  grind [List.getElem?_of_mem]
 have hkx:=Kept.re g w f (There σ.M);refine⟨val,g.re f,hr,h.step (h.mem.re_slots h.mOn hfo hfb) ?_ (Qf9 (fun d' hd'=>by cases hd';rw[h.size];exact hd) (fun t ht=>?_) (fun d' hd'=>?_)) (Qg9 _ _ _) (Qeo _ _ _) (Qga hpo S) h.mOn h.out⟩
 ·exact⟨rfl,rfl,rfl,Ze _,Imm.refl _ _,fun _ _=>rfl,fun b hb ho=>⟨hfo _ fun t p e=>by rw[e] at ho;exact ho,rfl,fun _=>Zk⟩⟩
 ·by_cases hm:Arg.t t∈B
  ·rcases Qrz B σ.s σ.s t with⟨_,e⟩|⟨hn,_⟩
   ·rw[hxs] at e;rw[e];exact Qlz (hkx.weaken (fun _ h=>h) (by grind)) (Qd4 _) ((Qd3 _).2 (h.onS t)) (Qie _ _ (.slot t []) _ (h.slots t))
   ·exact absurd hm hn
  ·have Q:Kept g w (g.re f) w (There σ.M) (fun o=>(∃q,o = .slot t q)\/o = .ext):=by
    refine hkx.weaken (fun _ h=>h) ?_
    grind
   refine Qdq Q ?_ (.inr rfl) _ _ _ (.inl ⟨[],rfl⟩) (hpo t) (hps t);rintro ℓ i' (⟨q,rfl⟩|rfl)
   ·exact .inl ⟨i'::q,rfl⟩
   ·exact .inr rfl
 ·cases hd';have hv:=hrf (.slot d []);simp only[RV] at hv |-;obtain⟨us',hval,hrs,hone⟩:=hv;refine⟨us',hval,(Qc8 _ _ _ _).2 ⟨by grind [Qp0],fun i c u hc N=>?_⟩,hone⟩;have honv:V.ons (There σ.M) (Qi4 z ((F.zip (own1 xs)).map fun(p,x)=>(p.1,x.cells))):=S;have hlt:i<(Qi4 z ((F.zip ms).map fun(p,x)=>(p.1,x.cells))).length:=by
   grind
  have A:=Zj hlt;have I:=((Qc8 _ _ _ _).1 hrs).2 i _ u A N;rcases hrel.2 i c _ hc A with he|⟨j,sz,l,uj,ex,eu,hpj,rfl,he⟩
  ·rw[<-he] at I;have Q:Kept g' w (g.re f) w (There σ.M) (fun o=>(∃q,o = .slot d (q++[i]))\/o = .ext):=by
    refine⟨⟨fun b o hb=>hb,fun _ _ _=>rfl⟩,fun k Q=>by simp[g',hnb k Q,G.re],fun b hb _=>⟨?_,rfl,fun o=>Zk⟩⟩;show f (g.own b)=g.own b;have hb:(∃q,g.own b = .slot d (q++[i]))\/g.own b = .ext:=hb;rcases hb with⟨q,hb⟩|hb
    ·rw[hb];exact hfs _ _ (.inr (by simp))
    grind
   refine Qdq Q ?_ (.inr rfl) c _ u (.inl ⟨[],by simp[Owner.sub]⟩) (Qft honv hc) I;rintro ℓ i' (⟨q,rfl⟩|rfl)
   ·exact .inl ⟨i'::q,rfl⟩
   ·exact .inr rfl
  ·rw[he,hmu j sz l uj _ u ex eu] at I;rcases E j sz l uj ex eu with⟨had,rfl⟩|⟨t0,b,r,hat,hv0,L,_⟩
   ·rcases I with⟨_,hn⟩|⟨hn,_⟩
    ·simp only[RV];grind
    ·exact absurd had hn
   ·rcases I with⟨⟨C,h0⟩,⟨ad',rfl⟩⟩|⟨_,rfl⟩
    ·rw[h0] at L;injection L with _ L _
     have:l=[]:=Zan L.symm;subst this;simp only[RV];exact .inl ⟨⟨_,rfl⟩,trivial⟩
    grind [Qbme,Owner.sub]
end
end Go.Abs
end
section
namespace Go.Abs
open Go Go.MapKept
section
variable(P:Program){g:G}{w:World}{n0 nt:Nat}{g0:G}{w0:World}{σ:St}{a:Act}
theorem Qyl{c:CK}{v:V}{u:Value}(e:c.ok v=true)(hr:RF g w v u):(∃n,∃k,c = .int k/\v = .d (.int k n)/\u = .int k n)\/(∃s,c = .str/\v = .d (.str s)/\u = .string s)\/(∃b,c = .bool/\v = .d (.bool b)/\u = .bool b):=by
 cases v with
 |d x =>
  cases x<;>cases c<;>simp[CK.ok] at e
  ·subst e;exact .inl ⟨_,_,rfl,rfl,Qp7 hr⟩
  ·exact .inr (.inr ⟨_,rfl,rfl,Q41 hr⟩)
  ·exact .inr (.inl ⟨_,rfl,rfl,Qbf3 hr⟩)
 |_=>cases c<;>simp[CK.ok] at e
theorem Q03{c:CK}{v v' : V}{u d : Value}(j:c.ok v=true)(i:c.ok v'=true)(h:RF g w v u)(f:RF g w v' d):Qkb v v'=true↔u=d:=by
 rcases Qyl j h with⟨n,k,rfl,rfl,rfl⟩|⟨s,rfl,rfl,rfl⟩|⟨b,rfl,rfl,rfl⟩<;>rcases Qyl i f with⟨n',k',e,rfl,rfl⟩|⟨s',e,rfl,rfl⟩|⟨b',e,rfl,rfl⟩<;>cases e<;>simp[Qkb,bytes_beq]
theorem Qbc0:∀{b:List CK}{cs:List V},okCs b cs=true->cs.length=b.length
 |[],[],_=>rfl
 |k::b,c::cs,h=>by simp only[okCs,Zc] at h;simp[Qbc0 h.2]
 |[],_::_,h=>by simp[okCs] at h
 |_::_,[],h=>by simp[okCs] at h
theorem Q7p:∀{e:List CK}{cs cs' : List V}{us b : List Value},okCs e cs=true->okCs e cs'=true->RFs g w cs us->RFs g w cs' b->(Qrw cs cs'=true↔us=b)
 |[],[],[],us,b,_,_,h,f=>by grind [RFs,Qrw]
 |k::e,c::cs,l::cs',_,_,h1,d,⟨u,us,rfl,h,t1⟩,⟨j,b,rfl,f,i⟩=>by
  simp only[okCs,Zc] at h1 d;simp only[Qrw,Zc,Q03 h1.1 d.1 h f,Q7p h1.2 d.2 t1 i,Zo]
 |_::_,[],_,_,_,h1,_,_,_=>by simp[okCs] at h1
 |_::_,_::_,[],_,_,_,d,_,_=>by simp[okCs] at d
 |[],_::_,_,_,_,h1,_,_,_=>by simp[okCs] at h1
 |[],[],_::_,_,_,_,d,_,_=>by simp[okCs] at d
theorem Qth{cs:List V}{b:List CK}{u:Value}(ho:okCs b cs=true)(h:RF g w (.agg cs) u):∃us:List Value,u = .agg us.toArray/\RFs g w cs us:=by
 have f:(V.agg cs).dem = .agg cs:=by
  simp only[V.dem];congr 1;clear h
  induction cs generalizing b with
  |nil=>rfl
  |cons c cs d =>
   cases b with
   |nil=>simp[okCs] at ho
   |cons k b =>
    simp only[okCs,Zc] at ho;have:c.dem=c:=by
     cases c<;>first|rfl|(cases k<;>simp[CK.ok] at ho)
    simp only[V.dems,this,d ho.2]
 obtain⟨us,rfl,e,hr,l⟩:=Q3m f h;refine⟨us,rfl,?_⟩;clear h f l
 induction cs generalizing us b with
 |nil=>grind [RFs,List.eq_nil_of_length_eq_zero]
 |cons c cs d =>
  cases us with
  |nil=>simp at e
  |cons u us =>
   cases b with
   |nil=>simp[okCs] at ho
   |cons k b =>
    simp only[okCs,Zc] at ho;exact⟨u,us,rfl,hr 0 c u rfl rfl,d ho.2 us (by simpa using e) fun j m x hc i=>hr (j+1) m x (by simpa using hc) (by simpa using i)⟩
structure KLaw(P:Program)(g:G)(w:World)(kt:TypeId)(kd:MK):Prop where
 check:∀(em:Bool){v:V}{u:Value},kd.ok v=true->RF g w v u->(Instr.checkKey em 10000 kt u).run P w = .ok () w
 stays:∀{v:V}{u:Value},kd.ok v=true->RF g w v u->(Instr.keyThatStays u u).run P w = .ok u w
 same:∀{v v' : V}{u u' : Value},kd.ok v=true->kd.ok v'=true->RF g w v u->RF g w v' u'->(Qfs v v'=true↔u=u')
 find:∀{key:V}{u:Value}(l:List (V×MapEntry)),kd.ok key=true->RF g w key u->(∀p∈l,kd.ok p.1=true/\RF g w p.1 p.2.key) ->
  ((Instr.findKey kt u (l.map (·.2))).run P w = .ok none w/\∀p∈l,p.2.key≠u) \/
  ∃(j:Nat)(p:V×MapEntry),(Instr.findKey kt u (l.map (·.2))).run P w = .ok (some (j,p.2.val)) w/\l[j]? = some p/\p.2.key=u/\∀i q,i<j->l[i]? = some q->q.2.key≠u
theorem Q7q{d:TypeDesc}{u:Value}(m:IsKey d u):∀(l:List (V×MapEntry))(i:Nat),(∀p∈l,IsKey d p.2.key) ->
  (Instr.findNow d u (l.map (·.2)) i=some none/\∀p∈l,p.2.key≠u) \/
  ∃(j:Nat)(p:V×MapEntry),Instr.findNow d u (l.map (·.2)) i=some (some (i+j,p.2.val))/\l[j]? = some p/\p.2.key=u/\∀i q,i<j->l[i]? = some q->q.2.key≠u
 |[],i,_=>.inl ⟨rfl,by simp⟩
 |p::l,i,h=>by
  obtain⟨b,hb,c⟩:=sameNow_of_keys m (h p (by simp));cases b with
  |true=>exact .inr ⟨0,p,by simp[Instr.findNow,hb],rfl,(c.1 rfl).symm,by omega⟩
  |false =>
   have s:p.2.key≠u:=fun e=>by grind
   rcases Q7q m l (i+1) (fun q n=>h q (by simp[n])) with⟨f,k⟩|⟨j,q,f,k,o,v⟩
   ·refine .inl ⟨by simp[Instr.findNow,hb,f],fun q n=>?_⟩
    grind
   ·refine .inr ⟨j+1,q,by simp[Instr.findNow,hb,f];omega,by simpa using k,o,fun x t y r=>?_⟩
    grind
theorem Q7r{d:TypeId}{u:Value}:∀(l:List (V×MapEntry))(i:Nat),(∀p∈l,∃b:Bool,(Op.equal d u p.2.key).run P w = .ok b w/\(b=true↔u=p.2.key)) ->
  ((Instr.findAsking d u (l.map (·.2)) i).run P w = .ok none w/\∀p∈l,p.2.key≠u) \/
  ∃(j:Nat)(p:V×MapEntry),(Instr.findAsking d u (l.map (·.2)) i).run P w = .ok (some (i+j,p.2.val)) w/\l[j]? = some p/\p.2.key=u/\∀i q,i<j->l[i]? = some q->q.2.key≠u
 |[],i,_=>.inl ⟨by simp[Instr.findAsking],by simp⟩
 |p::l,i,h=>by
  obtain⟨b,hb,c⟩:=h p (by simp);cases b with
  |true=>exact .inr ⟨0,p,by simp[Instr.findAsking,hb],rfl,(c.1 rfl).symm,by omega⟩
  |false =>
   have r:p.2.key≠u:=fun e=>by grind
   rcases Q7r l (i+1) (fun q m=>h q (by simp[m])) with⟨f,k⟩|⟨j,q,f,k,n,t⟩
   ·refine .inl ⟨by simp[Instr.findAsking,hb,f],fun q m=>?_⟩
    grind
   ·refine .inr ⟨j+1,q,by simp[Instr.findAsking,hb,f,Nat.add_assoc,Nat.add_comm 1 j],by simpa using k,n,fun v s x o=>?_⟩
    grind
theorem Q9b{e:TypeId}{d:TypeDesc}{kd:MK}(i:P.underlying e=some d)(f:∀(v:V)(u:Value),kd.ok v=true->RF g w v u->IsKey d u)(h:∀{v v' : V}{u c : Value},kd.ok v=true->kd.ok v'=true->RF g w v u->RF g w v' c->(Qfs v v'=true↔u=c)):KLaw P g w e kd where
 check:=fun em v u b hr=>run_checkKey i (f _ _ b hr) em 9999
 stays:=fun b hr=>run_keyThatStays (f _ _ b hr)
 same:=h
 find:=fun{key u}l hkey hu hl=>by
  grind [Q7q,Go.MapKept.run_findKey]
theorem Quy{t:TypeId}{c:CK}(h:Qpi P t=some c):Qjd P t=some (match c with | .int _=>0 | .bool=>1 | .str=>2):=by
 grind [Qpi,Qjd]
def CK.code:CK->Nat
 |.int _=>0
 |.bool=>1
 |.str=>2
theorem Q7s:∀{e:List CK}{xs ys:List V},okCs e xs=true->okCs e ys=true->Qec (e.map CK.code) xs ys=some (Qrw xs ys)
 |[],[],[],_,_=>rfl
 |k::e,x::xs,y::ys,h1,c=>by
  simp only[okCs,Zc] at h1 c;have f:=Q7s h1.2 c.2;cases x with
  |d a =>
   cases y with
   |d b =>
    cases a<;>cases b<;>cases k<;>simp[CK.ok] at h1 c
    ·obtain⟨rfl,_⟩:=h1;obtain⟨rfl,_⟩:=c;simp[CK.code,Qec,f,Qrw,Qkb]
    ·simp[CK.code,Qec,f,Qrw,Qkb]
    ·simp[CK.code,Qec,f,Qrw,Qkb,beq_toListBytes]
   |_=>cases k<;>simp[CK.ok] at c
  |_=>cases k<;>simp[CK.ok] at h1
 |_::_,[],_,h1,_=>by simp[okCs] at h1
 |_::_,_::_,[],_,c=>by simp[okCs] at c
 |[],_::_,_,h1,_=>by simp[okCs] at h1
 |[],[],_::_,_,c=>by simp[okCs] at c
theorem Qzk:∀{d:List CK}{cs:List V}{us:List Value},okCs d cs=true->RFs g w cs us->∀n,(us.zip us).all (fun p=>Instr.sameBits n p.1 p.2)=true
 |[],[],us,_,h,_=>by simp_all[RFs]
 |k::d,c::cs,_,h1,⟨u,us,rfl,e,t1⟩,n=>by
  simp only[okCs,Zc] at h1;simp only[List.zip_cons_cons,Zbc,Zc];refine⟨?_,Qzk h1.2 t1 n⟩;rcases Qyl h1.1 e with⟨n,k,rfl,rfl,rfl⟩|⟨s,rfl,rfl,rfl⟩|⟨b,rfl,rfl,rfl⟩<;>simp[Instr.sameBits,bytes_beq]
 |_::_,[],_,h1,_,_=>by simp[okCs] at h1
 |[],_::_,_,h1,_,_=>by simp[okCs] at h1
theorem Qbhr{m:TypeId}{s:List CK}(R:P.underlying m=none\/∃d,P.underlying m=some d/\((∃n e,d = .array n e)\/∃C,d = .struct C))(I:Qkq P m=some (s.map CK.code))(o:∀(em:Bool){cs:List V}{us:List Value},okCs s cs=true->RFs g w cs us->(Instr.checkKey em 10000 m (.agg us.toArray)).run P w = .ok () w):KLaw P g w m (.st s):=by
 have f:∀{v:V},(MK.st s).ok v=true->∃cs,v = .agg cs/\okCs s cs=true:=by
  intro v h;cases v<;>simp[MK.ok] at h;exact⟨_,rfl,h⟩
 have k:∀{v v' : V}{u E : Value},(MK.st s).ok v=true->(MK.st s).ok v'=true->RF g w v u->RF g w v' E->(Qfs v v'=true↔u=E):=by
  intro v v' u E S A M y;obtain⟨cs,rfl,i⟩:=f S;obtain⟨cs',rfl,z⟩:=f A;obtain⟨us,rfl,q⟩:=Qth i M;obtain⟨t,rfl,B⟩:=Qth z y;rw[show Qfs (.agg cs) (.agg cs')=Qrw cs cs' from rfl,Q7p i z q B];simp
 obtain⟨d,R,L⟩ : ∃d,P.underlying m=some d/\((∃n e,d = .array n e)\/∃C,d = .struct C):=by
  grind [Qkq]
 refine⟨fun em v u h r=>?_,fun{v u}h r=>?_,k,fun{key u}l hkey hu hl=>?_⟩
 ·obtain⟨cs,rfl,i⟩:=f h;obtain⟨us,rfl,q⟩:=Qth i r;exact o em i q
 ·obtain⟨cs,rfl,i⟩:=f h;obtain⟨us,rfl,q⟩:=Qth i r;have:=Qzk i q 9999
  simp_all[Go.Instr.sameBits,beq_self_eq_true,Zbe,Go.Instr.keyThatStays]
 ·have Q:∀p∈l,∃b:Bool,(Op.equal m u p.2.key).run P w = .ok b w/\(b=true↔u=p.2.key):=by
   intro p hp;obtain⟨A,y⟩:=hl p hp;obtain⟨pv,pe⟩:=p;simp only at A y;obtain⟨cs,rfl,i⟩:=f hkey;obtain⟨cs',rfl,z⟩:=f A;have N:=k hkey A hu y;obtain⟨us,rfl,q⟩:=Qth i hu;obtain⟨t,H,B⟩:=Qth z y;refine⟨Qrw cs cs',?_,N⟩;rw[show (pe.key) = .agg t.toArray from H];exact (Qbd6 P m I (Qje q) (fun j c x hc F=>Qus q j c x hc F) (Qje B) (fun j c x hc F=>Qus B j c x hc F) (Q7s i z)).1
  have O:(Instr.findKey m u (l.map (·.2))).run P w=(Instr.findAsking m u (l.map (·.2)) 0).run P w:=by
   have J:Instr.findNow d u (l.map (·.2)) 0=none\/l=[]:=by
    cases l with
    |nil=>exact .inr rfl
    |cons p l =>
     refine .inl ?_;rcases L with⟨n,e,rfl⟩|⟨C,rfl⟩<;>simp[Instr.findNow,Instr.sameNow]
   rcases J with h|rfl
   all_goals simp_all[Go.Instr.findKey,Go.run_underlying,Go.Result.andThen,Go.Instr.findNow,Go.Instr.findAsking]
  grind [Q7r]
theorem Q7t{t:TypeId}{c:CK}(hc:Qpi P t=some c)(em:Bool)(n:Nat){v:V}{u:Value}(d:c.ok v=true)(hr:RF g w v u):(Instr.checkKey em (n+1) t u).run P w = .ok () w:=by
 unfold Qpi at hc;split at hc<;>cases hc
 all_goals
  rename_i f;rcases Qyl d hr with⟨n,k,e,rfl,rfl⟩|⟨s,e,rfl,rfl⟩|⟨b,e,rfl,rfl⟩<;>cases e;refine run_checkKey f ?_ em _;simp[IsKey]
theorem Q3q{em : Bool}{n : Nat}{X : Array Value}{body : Field → PUnit → Sem (ForInStep PUnit)}(hb : ∀ (f : Field) (u : Value), f.name ≠ "_" → (part f.type X f.offset).run P w = .ok u w → (Instr.checkKey em (n + 1) f.type u).run P w = .ok () w → (body f PUnit.unit).run P w = .ok (.yield PUnit.unit) w) :
  ∀ (fs:List Field) (i:Nat) (ks:List CK) (codes:List Nat) (cs:List V),fs.mapM (fun f=>Qpi P f.type)=some ks→Qid P i fs=some codes→okCs ks cs=true →
  (∀ (j:Nat) (c:V),cs[j]? = some c→∃ u,X[i+j]? = some u∧RF g w c u)→(forIn fs PUnit.unit body).run P w = .ok PUnit.unit w
 | [],i,ks,codes,cs,_,_,_,_=>by simp
 | f::fs,i,ks,codes,cs,hm,hf,ho,hx=>by
  simp only [List.mapM_cons,Option.bind_eq_bind,Option.bind_eq_some_iff,Option.pure_def,Option.some.injEq] at hm;obtain ⟨k,hk,ks',hm,rfl⟩:=hm;simp only [Qid] at hf;split at hf<;>try (cases hf;done)
  rename_i hn;split at hf<;>try (cases hf;done)
  rename_i c1 cs1 hc1 hc2;cases cs with
  | nil=>simp [okCs] at ho
  | cons c cs =>
   simp only [okCs,Bool.and_eq_true] at ho;obtain ⟨u,hu,ru⟩:=hx 0 c rfl;have hp:=Q00 (w:=w) P (Quy P hk) (Z:=X) (o:=f.offset) (u:=u) (by rw [hn.1];exact hu);have hck:=Q7t (g:=g) (w:=w) P hk em n ho.1 ru;have ih:=Q3q hb fs (i+1) ks' cs1 cs hm hc2 ho.2 fun j c' hc'=>by
    obtain ⟨u',h1,h2⟩:=hx (j+1) c' (by simpa using hc')
    grind
   simp_all
theorem Q47{em:Bool}{n:Nat}{X:Array Value}{e:TypeId}{k:CK}(b:Qpi P e=some k){body:Nat->PUnit->Sem (ForInStep PUnit)}(hb:∀(j:Nat)(u:Value),(part e X j).run P w = .ok u w->(Instr.checkKey em (n+1) e u).run P w = .ok () w->(body j PUnit.unit).run P w = .ok (.yield PUnit.unit) w):
  ∀(m i:Nat)(cs:List V),okCs (List.replicate m k) cs=true ->
  (∀(j:Nat)(c:V),cs[j]? = some c->∃u,X[i+j]? = some u/\RF g w c u)->(forIn (List.range' i m) PUnit.unit body).run P w = .ok PUnit.unit w
 |0,i,cs,_,_=>by simp
 |m+1,i,cs,ho,f=>by
  cases cs with
  |nil=>simp[Zbu,okCs] at ho
  |cons c cs =>
   simp only[Zbu,okCs,Zc] at ho;obtain⟨u,l,h⟩:=f 0 c rfl;have hp:=Q00 (w:=w) P (Quy P b) (Z:=X) (o:=i) (u:=u) l;have p:=Q7t (g:=g) (w:=w) P b em n ho.1 h;have s:=Q47 b hb m (i+1) cs ho.2 fun j q d=>by
    obtain⟨r,v,t⟩:=f (j+1) q (by simpa using d)
    grind
   grind [List.range'_succ,Go.Sem.run_bind,Go.Result.andThen_ok]
theorem Q48:∀(l:List Field)(i:Nat)(h:List CK)(b:List Nat),l.mapM (fun f=>Qpi P f.type)=some h->Qid P i l=some b->b=h.map CK.code
 |[],i,h,b,d,c=>by grind [Qid]
 |f::l,i,h,b,d,c=>by
  simp only[List.mapM_cons,Zbv,Zas,Option.pure_def,Zh] at d;obtain⟨k,o,j,d,rfl⟩:=d;simp only[Qid] at c;split at c<;>try (cases c;done)
  split at c<;>try (cases c;done)
  rename_i p n e m;cases c;rw[Quy P o] at e;cases e;rw[Q48 l _ j n d m];cases k<;>rfl
theorem Q49{s:TypeId}{kd:MK}(h:Q83 P s=some kd):KLaw P g w s kd:=by
 unfold Q83 at h;split at h<;>try (cases h;done)
 ·rename_i k l;cases h;refine Q9b P l (fun v u m hr=>?_) fun{v v' u u'}t h2 r1 r2=>?_
  ·cases v<;>simp[MK.ok] at m;rename_i x;cases x<;>simp[MK.ok] at m;have:=Qp7 hr;subst this;exact m
  ·have F:∀v,(MK.int k).ok v=true->(CK.int k).ok v=true/\∀v',Qfs v v'=Qkb v v':=by
    intro v h;cases v with
    |d x=>cases x<;>simp[MK.ok] at h<;>exact⟨by simp[CK.ok,h],fun v'=>by cases v'<;>rfl⟩
    |_=>simp[MK.ok] at h
   grind [Q03]
 ·rename_i l;cases h;refine Q9b P l (fun v u m hr=>?_) fun{v v' u u'}t h2 r1 r2=>?_
  ·cases v<;>simp[MK.ok] at m;rename_i x;cases x<;>simp[MK.ok] at m;have:=Qbf3 hr;subst this;trivial
  ·have F:∀v,(MK.str).ok v=true->(CK.str).ok v=true/\∀v',Qfs v v'=Qkb v v':=by
    intro v h;cases v with
    |d x=>cases x<;>simp[MK.ok] at h<;>exact⟨by simp[CK.ok,h],fun v'=>by cases v'<;>rfl⟩
    |_=>simp[MK.ok] at h
   grind [Q03]
 ·rename_i l;cases h;refine Q9b P l (fun v u m hr=>?_) fun{v v' u u'}t h2 r1 r2=>?_
  ·cases v<;>simp[MK.ok] at m;rename_i x;cases x<;>simp[MK.ok] at m;have:=Q41 hr;subst this;trivial
  ·have F:∀v,(MK.bool).ok v=true->(CK.bool).ok v=true/\∀v',Qfs v v'=Qkb v v':=by
    intro v h;cases v with
    |d x=>cases x<;>simp[MK.ok] at h<;>exact⟨by simp[CK.ok,h],fun v'=>by cases v'<;>rfl⟩
    |_=>simp[MK.ok] at h
   grind [Q03,bool]
 ·rename_i B l;split at h<;>try (cases h;done)
  rename_i z;obtain⟨i,b⟩:=Zab.1 z;simp only[Zd] at h;obtain⟨y,o,rfl⟩:=h;have p:Qid P 0 B.toList=some i:=by
   grind [Qkq]
  have A:i=y.map CK.code:=Q48 P B.toList 0 y i o p;refine Qbhr P (.inr ⟨_,l,.inr ⟨_,rfl⟩⟩) (by rw[b,A]) fun em cs us ho hr=>?_;show (Instr.checkKey em (9999+1) s _).run P w=_;unfold Instr.checkKey;simp only[Sem.run_bind,run_underlying l,Result.andThen_ok];rw[<-Array.forIn_toList];refine (congrArg (fun r=>Result.andThen r _) (Q3q (g:=g) (em:=em) (n:=9998) (X:=us.toArray) P (fun f u O hp q=>?_) B.toList 0 y i cs o p ho fun j c hc=>?_)).trans rfl
  ·simp_all
  ·have J:=Qje hr;have L:j<cs.length:=(Zm.1 hc).1;exact⟨us[j]'(by omega),by simp,Qus hr j c _ hc (by simp)⟩
 ·rename_i n e l;split at h<;>try (cases h;done)
  rename_i z;obtain⟨i,b⟩:=Zab.1 z;simp only[Zd] at h;obtain⟨k,C,rfl⟩:=h;unfold Qkq at b;rw[l] at b;simp only at b;split at b<;>try (cases b;done)
  rename_i E;simp only[Zd] at b;obtain⟨N,I,rfl⟩:=b;obtain⟨H,M⟩:=Zab.1 E.1;have t:H.size=1:=by grind [Go.Program.cellsOf]
  refine Qbhr P (.inr ⟨_,l,.inl ⟨_,_,rfl⟩⟩) ?_ fun em cs us ho hr=>?_
  ·unfold Qkq;rw[l];simp only[if_pos E,Quy P C,Zad,List.map_replicate];cases k<;>rfl
  ·show (Instr.checkKey em (9999+1) s _).run P w=_;unfold Instr.checkKey;simp only[Sem.run_bind,run_underlying l,Result.andThen_ok];simp only[Std.Legacy.Range.forIn_eq_forIn_range',Std.Legacy.Range.size,Nat.sub_zero,Nat.add_one_sub_one,Nat.div_one];refine (congrArg (fun r=>Result.andThen r _) (Q47 (g:=g) (em:=em) (n:=9998) (X:=us.toArray) P C (fun j u hp q=>?_) n 0 cs ho fun j c hc=>?_)).trans rfl
   ·simp only[Sem.run_bind,Qhk P M,t,Nat.mul_one,hp,Result.andThen_ok,q,Sem.run_pure]
   ·have J:=Qje hr;have L:j<cs.length:=(Zm.1 hc).1;exact⟨us[j]'(by omega),by simp,Qus hr j c _ hc (by simp)⟩
theorem Qbmf{v:V}{u:Value}{ℓ:Owner}(b:v.dat=true)(h:RV g w v ℓ u):RF g w v u:=fun _=>Qvp (Imm.refl _ _) b h
theorem Qbao{k:Nat}{es:List (V×V×Nat)}{b:List MapEntry}(h:RM g w k es b):b.length=es.length:=by
 induction es generalizing b with
 |nil=>grind [RM]
 |cons x r c=>simp only[RM] at h;grind
theorem Q7u{key:V}:∀{es:List (V×V×Nat)},(∀x∈es,Qfs key x.1=false)->Qhf key es=none
 |[],_=>rfl
 |(k,v,b)::es,h=>by
  have d:Qfs key k=false:=h (k,v,b) (by simp);simp[Qhf,d,Q7u fun x c=>h x (List.mem_cons_of_mem _ c)]
theorem Qbee{key:V}:∀{es:List (V×V×Nat)}{j:Nat}{x:V×V×Nat},es[j]? = some x->Qfs key x.1=true->(∀i y,i<j->es[i]? = some y->Qfs key y.1=false)->Qhf key es=some (j,x.2.1)
 |[],j,x,h,_,_=>by simp at h
 |(k,v,b)::es,0,x,h,h1,_=>by
  grind [Qhf]
 |(k,v,b)::es,j+1,x,h,h1,c=>by
  have e:Qfs key k=false:=c 0 (k,v,b) (by omega) rfl;have:=Qbee (key:=key) (es:=es) (j:=j) (x:=x) (by simpa using h) h1 fun i y f d=>c (i+1) y (by omega) (by simpa using d);simp[Qhf,e,this]
theorem Qblb{k:Nat}:∀{es:List (V×V×Nat)}{b:List MapEntry},RM g w k es b->∀(i:Nat)(x:V×V×Nat),es[i]? = some x->∃e,b[i]? = some e/\RF g w x.1 e.key/\x.2.1.mv=true/\RV g w x.2.1 (.cell k x.2.2) e.val/\e.born=x.2.2
 |[],_,h,i,x,c=>by simp at c
 |y::r,_,h,0,x,c=>by
  simp only[RM] at h;obtain⟨e,t,rfl,⟨n,m⟩,⟨l,j⟩,f,d⟩:=h;simp at c;subst c;exact⟨e,rfl,Qbmf n m,l,j,f⟩
 |y::r,_,h,i+1,x,c=>by
  simp only[RM] at h;obtain⟨e,t,rfl,_,_,_,d⟩:=h;simpa using Qblb d i x (by simpa using c)
theorem Q5a{r:TypeId}{kd:MK}(B:KLaw P g w r kd){key:V}{u:Value}(c:kd.ok key=true)(t:RF g w key u){k:Nat}{es:List (V×V×Nat)}{b:List MapEntry}(hr:RM g w k es b)(ha:kd.all es=true):
  (Qhf key es=none/\(Instr.findKey r u b).run P w = .ok none w) \/
  ∃(j:Nat)(v:V)(e:MapEntry)(x:V×V×Nat),Qhf key es=some (j,v)/\es[j]? = some x/\x.2.1=v/\b[j]? = some e/\e.key=u/\e.born=x.2.2/\(Instr.findKey r u b).run P w = .ok (some (j,e.val)) w/\v.mv=true/\RV g w v (.cell k x.2.2) e.val:=by
 have m:=Qbao hr;have Q:((es.map (·.1)).zip b).map (·.2)=b:=by
  rw[List.map_snd_zip];simp[m]
 have h:∀(i:Nat)(p:V×MapEntry),((es.map (·.1)).zip b)[i]? = some p->∃x,es[i]? = some x/\x.1=p.1/\b[i]? = some p.2/\kd.ok p.1=true/\RF g w p.1 p.2.key:=by
  intro i p hp;rw[Zbz] at hp;obtain⟨f,n⟩:=hp;rw[Zag,Zd] at f;obtain⟨x,l,E⟩:=f;obtain⟨e,d,o,_⟩:=Qblb hr i x l;rw[n] at d;cases d;refine⟨x,l,E,n,?_,by rw[<-E];exact o⟩;rw[<-E];exact Zt.1 ha x (Zn l)
 have C:∀p∈(es.map (·.1)).zip b,kd.ok p.1=true/\RF g w p.1 p.2.key:=by
  grind [List.getElem?_of_mem]
 have A:∀(i:Nat)(x:V×V×Nat),es[i]? = some x->(∀p,((es.map (·.1)).zip b)[i]? = some p->p.2.key≠u)->Qfs key x.1=false:=by
  intro i x l z;obtain⟨e,d,o,_⟩:=Qblb hr i x l;have hp:((es.map (·.1)).zip b)[i]? = some (x.1,e):=by
   grind
  obtain⟨_,_,_,_,U,T⟩:=h i _ hp;cases hk:Qfs key x.1 with
  |false=>rfl
  |true=>exact absurd ((B.same c U t T).1 hk).symm (z _ hp)
 rcases B.find _ c t C with⟨f,n⟩|⟨j,p,f,n,d,o⟩
 ·grind [Q7u,List.getElem?_of_mem,List.mem_of_getElem?]
 ·rw[Q] at f;obtain⟨x,s,O,H,N,M⟩:=h j p n;obtain⟨e,F,W,L,J,I⟩:=Qblb hr j x s;rw[H] at F;cases F;refine .inr ⟨j,x.2.1,p.2,x,Qbee s ?_ fun i y S R=>A i y R fun q z=>o i q S z,s,rfl,H,d,I,f,L,J⟩;rw[O];exact (B.same c N t M).2 d.symm
theorem Qbhs{vs:List V}{us:List Value}(h:RFs g w vs us):RF g w (.tup vs) (.tuple us.toArray):=by
 intro ℓ;simp only[RV];exact⟨us,rfl,(Qc8 _ _ _ _).2 ⟨Qje h,fun i c u hc b=>Qus h i c u hc b _⟩⟩
theorem Q04{v:V}{u:Value}(h:RF g w v u):RF g w (Qws v) u:=by
 cases v<;>try exact h
 rename_i sz;have:=h .free;simp only[RV] at this;obtain⟨a,rfl⟩:=this;rw[Qws,RF_d];simp[RD]
theorem Qbap{t:TypeId}{z:V}(h:Qbd1 P t=some z):∃e,(zeroValue t).run P w = .ok e w/\RF g w z e:=by
 unfold Qbd1 at h;split at h<;>try (cases h;done)
 ·rename_i cs o l b;cases h;obtain⟨i,e,k,f,n,_⟩:=Qkc P l;rw[k] at b;simp only[Za] at b;rw[f] at b;cases b;refine⟨_,Qpj P k f w,fun ℓ=>?_⟩;have hc:=n g w;simp only[RV];refine⟨o.toList,by simp,(Qc8 _ _ _ _).2 ⟨by rw[Zu];exact hc.len,fun j c u p r=>?_⟩,hc.one⟩;rw[Zag,Zd] at p;obtain⟨v,m,rfl⟩:=p;exact Q04 (hc.rf j v u m r) _
 ·rename_i c e s l b;cases h;obtain⟨i,q,k,f,n,_⟩:=Qkc P l;rw[k] at b;simp only[Za] at b;rw[f] at b;cases b;refine⟨_,Qpj P k f w,?_⟩;have hc:=n g w;have d:e.cells.toList=[e]:=by
   grind [absurd,Go.Value.cells]
  rw[d] at hc;exact Q04 (hc.rf 0 _ _ rfl rfl)
theorem Qp9{t:TypeId}{b:TypeId}{kd:MK}{z:V}(h:Qld P t=some (b,kd,z)):∃e,P.underlying t=some (.map b e)/\Q83 P b=some kd/\Qbd1 P e=some z/\z.dat=true:=by
 unfold Qld at h
 grind
theorem Qbc1{k:Nat}{u:Value}(h:RF g w (.mp k) u):u = .map (some (g.box k)):=by
 have:=h .free;simpa[RV] using this
theorem Qbnh(t m:TypeId){k e:TypeId}(j:P.underlying t=some (.map k e)){M:Mem}{nb:Nat}(p:MR g w M nb){x v:V}{u:Value}{n0 κ:Nat}{M' : Mem}(f:RF g w x u)(o:Ql n0 κ .lenm [x] M=some (v,M')):
  M'=M/\∃val,(Builtin.len_ #[t] m #[u]).run P w = .ok val w/\RF g w v val:=by
 obtain⟨rfl,⟨b,es,c,d,i,rfl⟩|⟨es,c,d,rfl⟩⟩:=Q88 o
 ·cases d;have n:=Qbc1 f;subst n;obtain⟨_,_,l,h,hr⟩:=p.box b _ i;refine⟨rfl,goInt es.length,?_,by rw[RF_d];simp[RD,goInt]⟩;simp[Builtin.len_,run_underlying j,MapKept.run_getObj_map h,Result.andThen,Qbao hr]
 ·cases d;rw[RF_d] at f;simp only[RD] at f;obtain⟨b,rfl,_,h⟩:=f;refine⟨rfl,goInt es.length,?_,by rw[RF_d];simp[RD,goInt]⟩;simp[Builtin.len_,run_underlying j,MapKept.run_getObj_map (Q84 h),Result.andThen]
theorem Qbht{g:G}{w:World}{ℓ:Owner}{u:Value}(h:(Qod u).dat1=true):RV g w (Qod u) ℓ u/\u.oneCell'=true:=by
 cases u<;>simp[Qod,V.dat1] at h<;>exact⟨by simp[Qod,RV,RD],rfl⟩
theorem Q7v{g:G}{w:World}{ℓ:Owner}:∀{us:List Value}{i:Nat},(us.map Qod).all V.dat1=true->RVs g w (us.map Qod) ℓ i us/\∀u∈us,u.oneCell'=true
 |[],_,_=>by simp[RVs]
 |u::us,i,h=>by
  simp only[Zb,Zbc,Zc] at h;obtain⟨c,f⟩:=Q7v (g:=g) (w:=w) (ℓ:=ℓ) (us:=us) (i:=i+1) h.2;obtain⟨b,d⟩:=Qbht (g:=g) (w:=w) (ℓ:=ℓ.sub i) h.1;refine⟨⟨u,us,rfl,b,c⟩,fun x e=>?_⟩
  grind
theorem Qbef{g:G}{w:World}{ℓ:Owner}{u:Value}(h:(Qv2 u).dat=true):RV g w (Qv2 u) ℓ u:=by
 cases u with
 |agg vs =>
  obtain⟨c,b⟩:=Q7v (g:=g) (w:=w) (ℓ:=ℓ) (us:=vs.toList) (i:=0) h
  grind [Qv2,RV]
 |_=>grind [Qv2,Qod,V.dat,RV,RD]
theorem Qboq{c:CK}{v:V}(h:c.ok v=true):v.dat1=true:=by
 cases v with
 |d x=>rfl
 |_=>cases c<;>simp[CK.ok] at h
theorem Qbeg:∀{b:List CK}{cs:List V},okCs b cs=true->cs.all V.dat1=true
 |[],[],_=>rfl
 |k::b,c::cs,h=>by simp only[okCs,Zc] at h;simp[Qboq h.1,Qbeg h.2]
 |[],_::_,h=>by simp[okCs] at h
 |_::_,[],h=>by simp[okCs] at h
theorem Qbhu{kd:MK}{v:V}(h:kd.ok v=true):v.dat=true:=by
 cases v with
 |d x=>rfl
 |agg cs =>
  cases kd<;>simp[MK.ok] at h;exact Qbeg h
 |_=>cases kd<;>simp[MK.ok] at h
theorem Qbhv{g:G}{w:World}{kd:MK}{k:Nat}:∀{b:List MapEntry},kd.all (b.map entV)=true->((b.map entV).all fun e=>e.2.1.dat)=true->RM g w k (b.map entV) b
 |[],_,_=>by simp[RM]
 |e::b,d,c=>by
  simp only[MK.all,Zb,Zbc,Zc] at d c;simp only[Zb,RM];exact⟨e,b,rfl,⟨Qbhu d.1,Qbef (Qbhu d.1)⟩,⟨Qzh c.1,Qbef c.1⟩,rfl,Qbhv d.2 c.2⟩
theorem Qbhw(t:TypeId){J:TypeId}{kd:MK}{z:V}(C:Qld P t=some (J,kd,z))(c:Bool){M:Mem}{nb:Nat}(hM:MR g w M nb){x y v:V}{u uk:Value}{n0 κ:Nat}{M' : Mem}(s:RF g w x u)(N:RF g w y uk)(X:Ql n0 κ (.lookup kd c z) [x,y] M=some (v,M')):
  M'=M/\∃val,(Instr.lookup t u uk c).run P w = .ok val w/\RF g w v val:=by
 obtain⟨rfl,b,L,es,d,cl,rfl,o,hr,q,F,f⟩ : M'=M/\∃b L es d cl,u = .map (some b)/\w.heap[b]? = some (.map (List.toArray d) cl)/\RM g w L es d/\Qbk4 kd c z y v es:=by
  obtain⟨rfl,⟨b,key,es,cl,l,H,h⟩|⟨key,d,cl,l,h0,h⟩⟩:=Q2p X
  ·cases l;obtain⟨_,_,d,o,hr⟩:=hM.box b _ H;exact⟨rfl,_,_,es,d,cl,Qbc1 s,o,hr,h⟩
  ·cases l;rw[RF_d] at s;simp only[RD] at s;obtain⟨b,rfl,_,o⟩:=s;exact⟨rfl,b,0,_,d,cl,rfl,Q84 o,Qbhv h.2.1 h0,h⟩
 obtain⟨et,O,E,W,U⟩:=Qp9 P C;have k:=Q49 (g:=g) (w:=w) P E;obtain⟨A,B,p⟩:=Qbap (g:=g) (w:=w) P W;refine⟨rfl,?_⟩;have r:∀em,(Instr.checkKey em 10000 J uk).run P w = .ok () w:=fun em=>k.check em q N;rcases Q5a P k q N hr F with⟨I,S⟩|⟨j,v',e,x,I,S,f3,f4,f5,f6,f7,f8,R⟩
 ·have m:=S;rcases f with⟨i,T,n,_,_⟩|⟨n,Q,rfl⟩
  ·rw[I] at n;cases n
  ·refine⟨if c then .tuple #[A,.bool false] else A,?_,?_⟩
   ·simp[Instr.lookup,run_underlying O,MapKept.run_getObj_map o,r,m,B,Result.andThen]
   ·cases c
    ·exact p
    ·exact Qbhs (us:=[A,.bool false]) ⟨_,_,rfl,p,_,_,rfl,by rw[RF_d];simp[RD],rfl⟩
 ·have m:=f7;rcases f with⟨i,T,n,Q,rfl⟩|⟨n,Q,rfl⟩
  ·rw[I] at n;cases n;refine⟨if c then .tuple #[e.val,.bool true] else e.val,?_,?_⟩
   ·simp[Instr.lookup,run_underlying O,MapKept.run_getObj_map o,r,m,Result.andThen]
   ·cases c
    ·exact fun ℓ=>Qie _ _ ℓ _ R
    ·exact Qbhs (us:=[e.val,.bool true]) ⟨_,_,rfl,fun ℓ=>Qie _ _ ℓ _ R,_,_,rfl,by rw[RF_d];simp[RD],rfl⟩
  grind
end
end Go.Abs
end
section
namespace Go.Abs
open Go Go.MapKept
section
variable(P:Program){g:G}{w:World}{n0 nt:Nat}{g0:G}{w0:World}{σ:St}{a:Act}
theorem SR.allocm(h:SR n0 nt g0 w0 σ a w g){dst:Option Nat}{κ:Nat}(v:∀d,dst=some d->d<nt)(r:n0<=κ)(m : κ<σ.nb)(l:σ.M κ=none):
  ∃g',SR n0 nt g0 w0 ⟨Qbe σ.s dst (.mp κ),σ.M.put κ (.mp [] 0),σ.nb⟩ (a.put dst (.map (some w.heap.size))) (w.alloc (.map #[] 0)) g':=by
 let g' : G:={ box:=fun k=>if k=κ then w.heap.size else g.box k,imm:=g.imm,own:=fun b=>if b=w.heap.size then .box κ else g.own b };have c:Kept g w g' (w.alloc (.map #[] 0)) (There σ.M) (fun _=>True):=by
  refine⟨⟨fun _ _ hb=>hb,fun b o hb=>?_⟩,fun k e=>?_,fun b _ hb=>⟨?_,?_,fun _=>Zk⟩⟩
  ·exact Qew (RowKit.Below.heap_alloc w _ b (h.mem.imm b o hb).1)
  ·have:k≠κ:=by rintro rfl;simp[There,l] at e
   simp[g',this]
  all_goals grind [Go.RowKit.Below.heap_alloc]
 have f:∀t,RV g' (w.alloc (.map #[] 0)) (σ.s t) (.slot t []) (a.tmps.getD t undef):=fun t =>
  Qdq c (fun _ _ h=>h) trivial _ _ _ trivial (h.onS t) (h.slots t)
 have j:∀b o,g'.imm b o->b<(w.alloc (.map #[] 0)).heap.size/\∀k,g'.own b ≠ .box k:=by
  intro b o hb;obtain⟨y,x⟩:=h.mem.imm b o hb
  grind [Go.World.size_alloc]
 have u:=h.mem.kept c h.mOn (fun _ _ h=>h) trivial (fun _ _=>trivial) j;have i:∀k,There σ.M k->There (σ.M.put κ (.mp [] 0)) k:=fun k e=>e.put;refine⟨g',h.step ?_ ?_ (Qf9 (fun d q=>by rw[h.size];exact v d q) (fun t _=>f t) (fun d _=>by simp[RV,g'])) (Qg9 _ _ _) (Qeo _ _ _) (Qga (fun t=>Qf8 i _ (h.onS t)) There.self) ?_ ?_⟩
 ·refine⟨fun k b e=>?_,j⟩;simp only[Mem.put] at e;split at e
  ·rename_i p;subst p;cases e;refine⟨m,by simp[g'],[],?_,rfl⟩;simp only[g',if_true];exact (heap_alloc w _).1
  ·exact u.box k b e
 ·exact⟨rfl,rfl,rfl,by simp,c.imm,fun k e=>(by
   grind),fun b hb _=>c.own b trivial hb⟩
 ·intro k cs' e;simp only[Mem.put] at e;split at e
  ·cases e
  ·exact ons_mono i _ (h.mOn k cs' e)
 ·intro k cs' e n;simp only[Mem.put] at e;rw[if_neg (by omega)] at e;exact h.out k cs' e n
theorem Qblc(h:SR n0 nt g0 w0 σ a w g){dst:Option Nat}(y:∀d,dst=some d->d<nt)(t:TypeId){k e:TypeId}(p:P.underlying t=some (.map k e)){xs:List V}{us:List Value}(o:RFs g w xs us){v:V}{κ:Nat}{M' : Mem}(f:n0<=κ)(c : κ<σ.nb)(r:Option Value)(hr:us=r.toList)(x:Ql n0 κ .mkmap xs σ.M=some (v,M')):
  ∃val w' g',(Instr.makeMap t r).run P w = .ok val w'/\SR n0 nt g0 w0 ⟨Qbe σ.s dst v,M',σ.nb⟩ (a.put dst val) w' g':=by
 obtain⟨i,b,rfl,rfl⟩:=Qbah x;obtain⟨g',j⟩:=h.allocm (dst:=dst) y f c b;refine⟨_,_,g',?_,j⟩;rcases i with rfl|⟨q,n,rfl⟩
 ·simp_all[RFs,Go.Instr.makeMap,Go.Result.andThen]
 ·obtain⟨u,m,rfl,z,l⟩:=o;simp only[RFs] at l;subst l;have:=Qp7 z;subst this;cases r with
  |none=>simp at hr
  |some r =>
   simp at hr;subst hr;simp[Instr.makeMap,run_underlying p,asInt,asIntOf,Result.andThen]
theorem SR.mapput(h:SR n0 nt g0 w0 σ a w g){k:Nat}{es z : List (V×V×Nat)}{cl cl' : Nat}{F f : List MapEntry}(S:σ.M k=some (.mp es cl))(T:w.heap[g.box k]? = some (.map F.toArray cl))(hr:RM g w k z f){dst:Option Nat}(W:∀d,dst=some d->d<nt){v:V}{val:Value}(R:∀w',Imm g.imm g.imm w w'->RF g w' v val)(B:∀p,v.on p):
  SR n0 nt g0 w0 ⟨Qbe σ.s dst v,σ.M.put k (.mp z cl'),σ.nb⟩ (a.put dst val) { w with heap:=w.heap.setIfInBounds (g.box k) (.map f.toArray cl') } g:=by
 obtain⟨u,hb,_⟩:=h.mem.box k _ S;obtain⟨H,q⟩:=heap_set (o':=.map f.toArray cl') T;have c:Kept g w g { w with heap:=w.heap.setIfInBounds (g.box k) (.map f.toArray cl') } (There σ.M) (fun o=>o ≠ .box k):=by
  refine⟨⟨fun _ _ h=>h,fun b o y=>?_⟩,fun _ _=>rfl,fun b X C=>⟨rfl,?_,fun _=>Zk⟩⟩
  ·have:b≠g.box k:=by rintro rfl;exact (h.mem.imm _ _ y).2 k hb
   exact Qew (q b this)
  grind
 have n:∀t,RV g { w with heap:=w.heap.setIfInBounds (g.box k) (.map f.toArray cl') } (σ.s t) (.slot t []) (a.tmps.getD t undef):=fun t =>
  Qdq c (fun _ i h=>Qnn h) (by simp) _ _ _ (by simp) (h.onS t) (h.slots t)
 have m:∀j,There σ.M j->There (σ.M.put k (.mp z cl')) j:=fun j l=>l.put;refine h.step ?_ ?_ (Qf9 (fun d L=>by rw[h.size];exact W d L) (fun t _=>n t) (fun d _=>R _ c.imm _)) (Qg9 _ _ _) (Qeo _ _ _) (Qga (fun t=>Qf8 m _ (h.onS t)) (B _)) ?_ ?_
 ·refine⟨fun j b l=>?_,fun b o y=>?_⟩
  ·simp only[Mem.put] at l;split at l
   ·rename_i U;subst U;cases l;exact⟨u,hb,f,H,Qll (g:=g) (g':=g) c (fun _=>by simp) hr⟩
   ·rename_i J;obtain⟨Q,O,N⟩:=h.mem.box j b l;have E:g.box j≠g.box k:=by
     grind
    refine⟨Q,O,?_⟩;cases b with
    |mp es2 c2 =>
     obtain⟨A,x,r⟩:=N;exact⟨A,(q _ E).trans x,Qll (g:=g) (g':=g) c (fun _=>by simp) r⟩
    |cells cs' =>
     obtain⟨vs,e',x,r,I⟩:=N;refine⟨vs,e',(q _ E).trans x,RVs_mono c (fun _ i h=>Qnn h) (by simp) cs' (.box j) 0 vs ?_ (h.mOn j cs' l) r,I⟩
     grind
  ·obtain⟨h3,h4⟩:=h.mem.imm b o y
   grind
 ·refine⟨rfl,rfl,rfl,by simp,c.imm,fun _ _=>rfl,fun b hb' ho=>?_⟩;have J:g.own b ≠ .box k:=by intro e;rw[e] at ho;exact ho
  grind
 ·intro j cs' l;simp only[Mem.put] at l;split at l
  ·cases l
  ·exact ons_mono m _ (h.mOn j cs' l)
 ·intro j cs' l C;simp only[Mem.put] at l;split at l
  ·cases l
  ·exact h.out j cs' l C
theorem Q5b{d:Nat}{es:List (V×V×Nat)}{c:List MapEntry}{k v:V}{uk i:Value}{b:Nat}(hr:RM g w d es c)(m:k.dat=true)(h : RV g w k .ext uk)(l:v.mv=true)(f : RV g w v (.cell d b) i):
  RM g w d (es++[(k,v,b)]) (c++[{ key:=uk,val:=i,born:=b }]):=by
 induction es generalizing c with
 |nil=>simp only[RM] at hr;subst hr;exact⟨_,[],rfl,⟨m,h⟩,⟨l,f⟩,rfl,rfl⟩
 |cons x r j =>
  simp only[RM] at hr;obtain⟨e,t,rfl,q,p,o,n⟩:=hr;exact⟨e,t++[_],rfl,q,p,o,j n⟩
theorem Qbaq{f:Nat}{k v:V}{uk l:Value}(n:k.dat=true)(d : RV g w k .ext uk)(m:v.mv=true):∀{es:List (V×V×Nat)}{b:List MapEntry}(i:Nat),(∀x,es[i]? = some x->RV g w v (.cell f x.2.2) l)->RM g w f es b ->
  RM g w f (modM k v i es) (b.modify i fun e=>{ e with key:=uk,val:=l })
 |[],_,i,_,hr=>by grind [RM,modM]
 |x::r,_,0,c,hr=>by
  simp only[RM] at hr;obtain⟨e,t,rfl,p,o,j,h⟩:=hr;exact⟨_,t,rfl,⟨n,d⟩,⟨m,c x rfl⟩,j,h⟩
 |x::r,_,i+1,c,hr=>by
  simp only[RM] at hr;obtain⟨e,t,rfl,p,o,j,h⟩:=hr;exact⟨e,_,rfl,p,o,j,Qbaq n d m i (fun y q=>c y (by simpa using q)) h⟩
theorem Qbeh:∀{b:List CK}{cs:List V},okCs b cs=true->cs.all V.dat1=true
 |[],[],_=>rfl
 |k::b,c::cs,h=>by
  simp only[okCs,Zc] at h;have:c.dat1=true:=by cases c<;>first|rfl|(cases k<;>simp[CK.ok] at h)
  simp[this,Qbeh h.2]
 |[],_::_,h=>by simp[okCs] at h
 |_::_,[],h=>by simp[okCs] at h
theorem Q5c{kd:MK}{v:V}(h:kd.ok v=true):v.dat=true:=by
 cases v<;>cases kd<;>simp_all[MK.ok,V.dat];exact fun x b=>Zt.1 (Qbeh h) x b
theorem Qn9(l:List MapEntry)(i:Nat)(f:MapEntry->MapEntry):l.toArray.modify i f=(l.modify i f).toArray :=by grind
theorem Q5d{v:V}(h:v.dat=true):(Qws v).dat=true:=by
 cases v<;>first|exact h|rfl
theorem Qbar(h:SR n0 nt g0 w0 σ a w g){dst:Option Nat}(Q:∀d,dst=some d->d<nt)(t:TypeId){L:TypeId}{kd:MK}{z:V}(C:Qld P t=some (L,kd,z)){x y u v:V}{J uk I:Value}{κ:Nat}{M' : Mem}(T:RF g w x J)(n:RF g w y uk)(N:RF g w u I)(U:Ql n0 κ (.mapset kd) [x,y,u] σ.M=some (v,M')):
  ∃w',(Instr.mapUpdate t J uk I).run P w = .ok () w'/\SR n0 nt g0 w0 ⟨Qbe σ.s dst v,M',σ.nb⟩ (a.put dst undef) w' g:=by
 obtain⟨b,key,u',es,cl,r,l,f,F,i,rfl,rfl⟩:=Q7k U;cases r;have A:=Qbc1 T;subst A;obtain⟨et,O,E,hz,S⟩:=Qp9 P C;obtain⟨_,_,q,m,hr⟩:=h.mem.box b _ l;have c:=Q49 (g:=g) (w:=w) P E;have o:∀em,(Instr.checkKey em 10000 L uk).run P w = .ok () w:=fun em=>c.check em f n;have B:=c.stays f n;rcases Q5a P c f n hr F with⟨H,R⟩|⟨j,v',e,x,H,R,f3,f4,f5,f6,X,f8,f9⟩
 ·have k:=R;rw[H];refine⟨_,?_,h.mapput (cl':=cl+1) l m (Q5b hr (Q5c f) (n _) (Qzh (Q5d i)) (Q04 N _)) Q (fun _ _ _=>by simp[RV]) (fun p=>by simp[V.on])⟩;simp[Instr.mapUpdate,run_underlying O,MapKept.run_getObj_map m,o,k,MapKept.run_setObj_map _ m,Result.andThen]
 ·have k:=X;rw[H];refine⟨_,?_,h.mapput (cl':=cl) l m (Qbaq (Q5c f) (n _) (Qzh (Q5d i)) j (fun _ _=>Q04 N _) hr) Q (fun _ _ _=>by simp[RV]) (fun p=>by simp[V.on])⟩;have W:q[j]? = some e:=f4;simp[Instr.mapUpdate,run_underlying O,MapKept.run_getObj_map m,o,k,W,f5,B,MapKept.run_setObj_map _ m,Result.andThen,Qn9]
theorem Qbc2(h:SR n0 nt g0 w0 σ a w g){dst:Option Nat}(hd:∀d,dst=some d->d<nt)(t:TypeId){kt:TypeId}{kd:MK}{z:V}(T:Qld P t=some (kt,kd,z)){x y v:V}{um uk:Value}{κ:Nat}{M' : Mem}(hx:RF g w x um)(I:RF g w y uk)(hs:Ql n0 κ (.mapentry kd z) [x,y] σ.M=some (v,M')):
  ∃val w',(Instr.mapEntry t um uk).run P w = .ok val w'/\SR n0 nt g0 w0 ⟨Qbe σ.s dst v,M',σ.nb⟩ (a.put dst val) w' g:=by
 obtain⟨b,key,es,cl,Q,B,l,X,r,o⟩:=Q3p hs;cases Q;have R:=Qbc1 hx;subst R;obtain⟨et,ht,W,hz,_⟩:=Qp9 P T;obtain⟨_,_,f,E,hr⟩:=h.mem.box b _ B;have k:=Q49 (g:=g) (w:=w) P W;obtain⟨zv,O,F⟩:=Qbap (g:=g) (w:=w) P hz;have L:∀em,(Instr.checkKey em 10000 kt uk).run P w = .ok () w:=fun em=>k.check em l I;have S:=k.stays l I;have m:∀{v:V}{val:Value}(c:Nat),v.dat=true->RF g w v val->∀w',Imm g.imm g.imm w w'->RF g w' (.tup [v,.d (.int .i64 c)]) (.tuple #[val,goInt c]):=fun{v val}c hv hf w' him =>
  Qbhs (us:=[val,goInt c]) ⟨_,_,rfl,fun _=>Qvp (g':=g) him hv (hf .ext),_,_,rfl,by rw[RF_d];simp[RD,goInt],rfl⟩
 have n:∀{v:V}(c:Nat),v.dat=true->∀p,(V.tup [v,.d (.int .i64 c)]).on p:=fun{v}c hv p=>⟨Qwv hv,trivial,trivial⟩;rcases Q5a P k l I hr X with⟨f1,N⟩|⟨j,v',e,x,f1,N,f3,f4,f5,f6,f7,f8,f9⟩
 ·have A:=N;rcases o with⟨i,u,e,C,_⟩|⟨C,rfl,rfl⟩
  ·rw[f1] at C;cases C
  ·refine⟨.tuple #[zv,goInt cl],_,?_,h.mapput (cl':=cl+1) B E (Q5b hr (Q5c l) (I _) (Qzh r) (F _)) hd (m cl r F) (n cl r)⟩;simp[Instr.mapEntry,run_underlying ht,MapKept.run_getObj_map E,L,A,O,MapKept.run_setObj_map _ E,Result.andThen]
 ·have A:=f7;rcases o with⟨i,u,e2,C,h2,h3,rfl,rfl⟩|⟨C,_⟩
  ·rw[f1] at C;cases C;rw[N] at h3;cases h3;have hj:f[j]? = some e:=f4;refine⟨.tuple #[e.val,goInt e.born],{ w with heap:=w.heap.setIfInBounds (g.box b) (.map (f.modify j fun q=>{ q with key:=uk,val:=e.val }).toArray cl) },?_,?_⟩
   rotate_left
   ·have J:=Qbaq (Q5c l) (I .ext) f8 j (fun y H=>by rw[N] at H;cases H;exact f9) hr;have:=h.mapput (cl':=cl) B E J hd (m x.2.2 h2 (Qbmf h2 f9)) (n _ h2)
    grind
   ·have U:f.modify j (fun q=>{ q with key:=uk })=f.modify j (fun q=>{ q with key:=uk,val:=e.val }):=by
     apply List.ext_getElem?
     grind
    simp[Instr.mapEntry,run_underlying ht,MapKept.run_getObj_map E,L,A,hj,f5,S,MapKept.run_setObj_map _ E,Result.andThen,Qn9,U]
  grind
theorem Qbhx{b:Int}{f:Nat}:∀{es:List (V×V×Nat)}{c:List MapEntry},RM g w f es c->c.findIdx? (fun e=>(e.born:Int)==b)=Q81 b es
 |[],_,h=>by simp only[RM] at h;subst h;rfl
 |x::r,_,h=>by
  simp only[RM] at h;obtain⟨e,t,rfl,_,_,d,i⟩:=h;obtain⟨k,j,l⟩:=x;simp only at d;subst d;rw[List.findIdx?_cons,Qbhx i];simp only[Q81]
theorem Qbmg{d:Nat}:∀{es:List (V×V×Nat)}{b:List MapEntry},RM g w d es b->∀(i:Nat)(x:V×V×Nat),es[i]? = some x->∃e,b[i]? = some e/\(x.1.dat=true/\RV g w x.1 .ext e.key)/\e.born=x.2.2
 |[],_,h,i,x,c=>by simp at c
 |y::r,_,h,0,x,c=>by
  simp only[RM] at h
  grind
 |y::r,_,h,i+1,x,c=>by
  simp only[RM] at h;obtain⟨e,t,rfl,_,_,_,f⟩:=h;simpa using Qbmg f i x (by simpa using c)
theorem Q9c(h:SR n0 nt g0 w0 σ a w g){dst:Option Nat}(N:∀d,dst=some d->d<nt)(t:TypeId){x y u v:V}{C uk l:Value}{κ:Nat}{M' : Mem}(I:RF g w x C)(H:RF g w y uk)(J:RF g w u l)(L:Ql n0 κ .entrystore [x,y,u] σ.M=some (v,M')):
  ∃w',(Instr.entryStore t C uk l).run P w = .ok () w'/\SR n0 nt g0 w0 ⟨Qbe σ.s dst v,M',σ.nb⟩ (a.put dst undef) w' g:=by
 obtain⟨b,O,Q,es,cl,i,T,m,k,j,B,A,rfl,rfl⟩:=Qzj L;cases m;have n:=Qbc1 I;subst n;have o:=Qp7 H;subst o;obtain⟨_,_,c,z,hr⟩:=h.mem.box b _ k;obtain⟨e,S,⟨F,E⟩,R⟩:=Qbmg hr i _ A;have f:c.findIdx? (fun e=>(e.born:Int)==O)=some i:=by rw[Qbhx hr,B]
 refine⟨_,?_,h.mapput (cl':=cl) k z (Qbaq (uk:=e.key) F E (Qzh (Q5d j)) i (fun _ _=>Q04 J _) hr) N (fun _ _ _=>by simp[RV]) (fun p=>by simp[V.on])⟩;have r:c.modify i (fun q=>{ q with val:=l })=c.modify i (fun q=>{ q with key:=e.key,val:=l }):=by
  apply List.ext_getElem?
  grind
 simp[Instr.entryStore,MapKept.run_getObj_map z,asInt,asIntOf,f,MapKept.run_setObj_map _ z,Result.andThen,Qn9,r]
end
end Go.Abs
end
