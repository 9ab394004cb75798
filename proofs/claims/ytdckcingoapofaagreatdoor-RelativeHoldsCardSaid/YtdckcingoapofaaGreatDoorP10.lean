/-
  Part 10 of the proof: see the last text.
-/
import Derived.Test.YtdckcingoapofaaGreatDoorP9
set_option linter.unusedVariables false
set_option linter.unusedSimpArgs false
set_option linter.unusedSectionVars false
section
namespace Go.Abs
open Go
section
variable{a:Qa}(h:Right a)
include h
theorem Q5p:Qkv a=some (edM a):=by
 unfold Qkv Qdt;obtain⟨fuel,e,d⟩ : ∃f,Q2=f/\1099511627776<=f:=⟨_,rfl,Ze _⟩;have hl:a.zD.length<big:=h.small.1.2.2;rw[e];have:=Q4e (F:=(fun(g:Int×List ((Int×Int)×Int)->Option (List ((Int×Int)×Int)))((x2,c3):Int×(List ((Int×Int)×Int)))=>(if (x2<(a.zD.length:Int)) then ((getO a.zD x2).bind fun b=>g ((IntKind.wrap .i64 (x2+1)),(setM c3 (b.From,b.Event) b.To))) else some c3))) (l:=a.zD) (fun j(p:List ((Int×Int)×Int))=>(j,p)) (fun c x=>setM c (x.From,x.Event) x.To) (fun _ _=>True) some hl d (fun k n s i _=>by
  simp_all[if_pos,Qy,Za]) (fun _ _ _ _=>trivial) (fun k s _=>by
  grind) (s0:=[]) trivial
 exact (congrArg (fun w=>Option.bind w _) this).trans rfl
theorem Qgz(s e:Int):Qba (edM a) s e=some (Q3 a s e):=by
 unfold Qba Qf;rw[Qbl8 h];by_cases b:0<=Q3 a s e
 ·have c:s>=0:=by
   grind [Qbv]
  rw[decide_eq_true b,if_pos rfl,Za,decide_eq_true c,if_pos rfl,Qbl9 h b]
 ·rw[decide_eq_false b,if_neg (by simp),Za,if_neg (by simp)]
  grind [Qbv,absurd]
theorem Q25{s:Int}{w:List Int}(j:w.length<big):Qi5 (edM a) s w=some (runE a s w):=by
 unfold Qi5 Qc6;obtain⟨fuel,c,l⟩ : ∃f,Q2=f/\1099511627776<=f:=⟨_,rfl,Ze _⟩;have hb:w.length<1000000000000:=j;rw[c];have:=Qjj (F:=(fun(g:Int×Int->Option Int)((state4,x5):Int×Int)=>(if (x5<(w.length:Int)) then ((getO w x5).bind fun e=>((Qba (edM a) state4 e).bind fun b=>g (b,(IntKind.wrap .i64 (x5+1))))) else some state4))) (len:=w.length) (fun n(s:Int)=>(s,(n:Int))) (fun n s=>True) (fun n s=>some (runE a s (w.drop n))) (fun k n s d _ i=>by
  dsimp only;rw[if_pos (by omega),Qy d,Za,Qgz h,Za,Qw (by omega),i _ trivial,Zal d,runE]) (fun k s _=>by
  dsimp only;rw[if_neg (by omega),List.drop_of_length_le (Ze _)];rfl) fuel 0 s (Zv _) (by omega) trivial
 grind
end
structure Q9c(p:Qg)(A B m:Qa)(T U:List (List Int)):Prop where
 e2:Qbj [p.Plant,p.Ambient]=some (A,T,0)
 e3:Qbj [p.Plant,p.Ambient,p.Requirement]=some (B,U,0)
 hA:Prd [p.Plant,p.Ambient] A T
 hB:Prd [p.Plant,p.Ambient,p.Requirement] B U
 eA:PrdE [p.Plant,p.Ambient] A T
 eB:PrdE [p.Plant,p.Ambient,p.Requirement] B U
 aA:A.zB=p.Plant.zB
 aB:B.zB=p.Plant.zB
 lang:Qhz p=some (m,0)
 rm:Right m
 am:m.zB=p.Plant.zB
 gen:∀w,genP B w=(decide (0<m.zF)&&decide (0<=runE m 0 w))
 cl:Qh8 B=some m
 fnl:∀v v',0<=runE B 0 v->runE B 0 v=runE B 0 v'->0<B.zF->runE m 0 v=runE m 0 v'
theorem Q9d{a:Qa}(ha:Right a):∀(v:List Int)(s:Int),s∈Qee a->0<=runE a s v->runE (Qgi a) ((Qee a).idxOf s:Int) v=((Qee a).idxOf (runE a s v):Int)
 |[],s,_,_=>rfl
 |e::v,s,c,d=>by
  have hl:=Q86 ha;rw[runE] at d |-;rw[runE];have f:0<=Q3 a s e:=by
   grind [Qbv,Qi7]
  have b:=Qba2 ha hl c e
  simp_all[if_pos,Q9d,Qba3]
theorem ProbW.lang{p:Qg}(h:ProbW p):∃A B m T U,Q9c p A B m T U:=by
 obtain⟨A,T,e2,hA,eA⟩:=Qbib (Qbmm h.few2 (by simp)) (by simp);obtain⟨B,U,e3,hB,eB⟩:=Qbib (Qbmm h.few3 (by simp)) (by simp);have aA:A.zB=p.Plant.zB:=Qbmn h.pr (fun a ha=>by simp at ha;subst ha;exact h.sa) hA.ev;have aB:B.zB=p.Plant.zB:=Qbmn h.pr (fun a ha=>by
  simp only[Zaj,List.not_mem_nil,or_false] at ha;rcases ha with rfl|rfl
  ·exact h.sa
  ·exact h.sr) hB.ev
 obtain⟨m,R,n,e,u,s,x,b⟩:=Qbmo hB.r;refine⟨A,B,m,T,U,e2,e3,hA,hB,eA,eB,aA,aB,Qbgg h e3 hB.r aB n,e,u.trans aB,Qbco hB.r e s b,Qbgf hB.r n,fun v v' l k f=>?_⟩;have hc:=Qit hB.r;have j:(0:Int)∈Qee B:=by
  have hp:=(Qij hB.r).2.1;rw[if_pos f] at hp;exact hp.subset (by simp)
 have i:=Q9d hB.r v 0 j l;have g:=Q9d hB.r v' 0 j (by rw[<-k];exact l);rw[<-k] at g;have d:0<(Qgi B).zF:=(Qbe1 hB.r).2 f;have c:((Qee B).idxOf (0:Int):Int)=0:=by
  have hp:=(Qij hB.r).2.1;rw[if_pos f] at hp;obtain⟨t,o⟩:=hp;rw[<-o];simp
 rw[c] at i g;have w:0<=runE (Qgi B) 0 v:=by rw[i];omega
 rcases b.run e (Qri hc) v 0 0 (b.z d) with⟨_,q⟩|q1
 ·rw[Qpa] at q;omega
 ·rcases b.run e (Qri hc) v' 0 0 (b.z d) with⟨_,q⟩|q2
  ·rw[Qpa] at q;omega
  ·rw[Qpa,i] at q1;rw[Qpa,g] at q2;exact b.fn _ _ _ q1 q2
def sysP(p:Qg)(A m:Qa)(T:List (List Int)):Qh :=
 ⟨p,p.Plant.zB,edM m,edM A,T.map fun t=>ati t 0,edM p.Plant,A.zF==0,⟨0,if m.zF==0 then -1 else 0⟩⟩
theorem Qbe3{p:Qg}(h:ProbW p){A B m:Qa}{T U:List (List Int)}(hl:Q9c p A B m T U):Qhs p=some (sysP p A m T,true,m,0):=by
 unfold Qhs Qbo;obtain⟨fuel,d,l⟩ : ∃f,Q2=f/\1099511627776<=f:=⟨_,rfl,Ze _⟩;have q:=hl.hA.n;rw[d,hl.lang,Za];dsimp only;rw[if_neg (by simp),hl.e2,Za];dsimp only;rw[if_neg (by simp),Q5p hl.rm,Za,Q5p hl.hA.r,Za,Q5p h.pr,Za];refine Qu0 (P:=fun r:List Int×List Int×List Qb×List Int=>r.2.2.2=T.map fun t=>ati t 0) (Q:=fun r:Option (Qh×Bool×Qa×Int)=>r=some (sysP p A m T,true,m,0)) ?_ ?_
 ·refine Qbh (fun x:Int×List Int×List Int×List Qb×List Int=>∃i:Nat,x.1=(i:Int)/\i<=T.length/\x.2.2.2.2=(T.take i).map fun t=>ati t 0) (fun x=>T.length-x.1.toNat) (fun _ r=>∃v:List Int×List Int×List Qb×List Int,r=some v/\v.2.2.2=T.map fun t=>ati t 0) (fun k x c g=>?_) fuel _ ⟨0,rfl,by omega,rfl⟩ (by dsimp only;omega);obtain⟨i,c,s,e⟩:=c;obtain⟨x,z,y,u,w⟩:=x;dsimp only at c e;subst c e;dsimp only;by_cases b:i<T.length
  ·have j:=hl.hA.t _ (Zq b);have hl:=j.len;have o:getO T[i] 0=some (ati T[i] 0):=by
    rw[show (0:Int)=((0:Nat):Int) from rfl,Qy (by rw[hl];simp:0<T[i].length)]
    simp_all[ati,at0,Zbu]
   rw[if_pos (by omega),Qy b,Za,o,Za,Qbb (by grind [List.length_map,List.length_take,List.length_cons,List.length_nil,lim]),Za,Qw (by omega)];refine g _ ⟨i+1,rfl,by omega,?_⟩ (by dsimp only;omega)
   grind [List.take_succ_eq_append_getElem]
  ·rw[if_neg (by omega)]
   grind
 grind [sysP]
section
variable{p:Qg}(h:ProbW p){A B m:Qa}{T U:List (List Int)}(hl:Q9c p A B m T U)
include h hl
theorem Qbjd{k:Nat}{s:List Int}(g:T[k]? = some s){e:Int}(i:e∈p.Plant.zB):
  Q3 A (k:Int) e = -1\/∃(t:List Int)(k' : Nat),T[k']? = some t/\Q3 A (k:Int) e=(k' : Int)/\ati t 0=Q3 p.Plant (ati s 0) e/\0<=Q3 p.Plant (ati s 0) e:=by
 have d:=hl.eA.stp k s g e (by rw[hl.aA];exact i);rcases d with⟨_,b⟩|⟨t,k',b,n,l⟩
 ·exact .inl b
 ·refine .inr ⟨t,k',n,l,?_⟩;have f:=hl.hA.t s (Zm g);have c:=f.len
  match s,c with
  |x::y::[],_ =>
   simp only[Qwb,Qbgb,i,if_true] at b;by_cases j:0<=Q3 p.Plant x e
   ·rw[if_pos j] at b;cases hq:(if e∈p.Ambient.zB then (if 0<=Q3 p.Ambient y e then some (Q3 p.Ambient y e) else none) else some y) with
    |none=>grind
    |some z =>
     rw[hq] at b;simp at b;subst b;exact⟨rfl,j⟩
   grind
theorem Q9e:∀(w:List Int)(k:Nat)(s:List Int),T[k]? = some s->0<=runE A (k:Int) w->∃(k' : Nat)(t:List Int),runE A (k:Int) w=(k' : Int)/\T[k']? = some t/\ati t 0=runE p.Plant (ati s 0) w/\0<=runE p.Plant (ati s 0) w
 |[],k,s,d,_=>⟨k,s,rfl,d,rfl,by
  have c:=hl.hA.t s (Zm d);have b:=c.len;have:=c.get 0 (by simp) (by rw[b];simp);simp only[runE,ati,at0,Zbu];rw[show ((0:Int).toNat)=0 from rfl,Zk (by rw[b];simp)];exact this.1⟩
 |e::w,k,s,d,f=>by
  rw[runE] at f |-;have hr:0<=Q3 A (k:Int) e:=by
   rcases Qbv hl.hA.r (k:Int) e with h1|h1
   ·rw[h1,Qi7 hl.hA.r] at f;omega
   ·exact h1.1
  have q:e∈p.Plant.zB:=by
   rcases Qbv hl.hA.r (k:Int) e with h1|h1
   ·omega
   ·rw[<-hl.aA];exact h1.2.2.2.2
  rcases Qbjd h hl d q with h1|⟨t,k',h1,h2,h3,h4⟩
  ·omega
  ·rw[h2] at f |-;obtain⟨o,g,n,l,j,i⟩:=Q9e w k' t h1 f;rw[runE,<-h3];exact⟨o,g,n,l,j,i⟩
omit h in
theorem Q5q(w:List Int):(0<=runE m (if m.zF==0 then -1 else 0) w)↔genP B w=true:=by
 rw[hl.gen];have:=hl.rm.st;by_cases b:m.zF=0
 ·rw[if_pos (by simp[b]),Qi7 hl.rm,decide_eq_false (by omega:¬0<m.zF)];simp
 ·rw[if_neg (by simp[b]),decide_eq_true (by omega:0<m.zF)];simp
end
end Go.Abs
end
section
namespace Go.Abs
open Go
def obsW(a w:List Int):List Int:=w.filter fun e=>decide (e∈a)
theorem Qbe4{F:(List Int×Int->Option (List Int))->List Int×Int->Option (List Int)}{l:List Int}(q:Int->Bool)(hl:l.length<big)(step:∀(k:List Int×Int->Option (List Int))(n:Nat)(s:List Int)(h:n<l.length),s.length<=n->F k (s,(n:Int))=k ((if q l[n] then s++[l[n]] else s),IntKind.wrap .i64 ((n:Int)+1)))(a:∀(k:List Int×Int->Option (List Int))(s:List Int),F k (s,(l.length:Int))=some s):Qbq F Q2 ([],0)=some (l.filter q):=by
 have hb:l.length<1000000000000:=hl;have:=Qjj (F:=F) (len:=l.length) (fun n(s:List Int)=>(s,(n:Int))) (fun n s=>s.length<=n) (fun n s=>some (s++(l.drop n).filter q)) (fun k n s c d b=>by
  grind [Go.step,Qw,List.drop_eq_getElem_cons]) (fun k s _=>by rw[a k s];simp) Q2 0 [] (Zv _) (by unfold Q2;omega) (Ze _)
 simpa using this
theorem Q5r{a w:List Int}(c:a.Pairwise (· < ·))(ho:a.length<big)(b:w.length<big):Qmd w a=some (obsW a w):=by
 unfold Qmd Qdu;have hb:w.length<1000000000000:=b;refine (congrArg (fun w=>Option.bind w _) (Qbe4 (l:=w) (fun e=>decide (e∈a)) b (fun k n s d f=>?_) (fun k s=>?_))).trans rfl
 ·dsimp only;rw[if_pos (by omega),Qy d,Za,Qm1 c ho,Za];cases decide (w[n]∈a) with
  |true=>rw[if_pos rfl,if_pos rfl,Qbb (by grind [List.length_cons,List.length_nil,lim]),Za,Za]
  |false=>rfl
 grind
theorem Q0l{l:List Int}{v:Int}(hl:l.length<big):Qd3 l v=some (decide (v∈l)):=Qbhw hl
theorem Qbje{a w:List Int}(ho:a.length<big)(b:w.length<big):Qhk a w=some (obsW a w):=by
 unfold Qhk Qda;have hb:w.length<1000000000000:=b;refine (congrArg (fun w=>Option.bind w _) (Qbe4 (l:=w) (fun e=>decide (e∈a)) b (fun k n s c d=>?_) (fun k s=>?_))).trans rfl
 ·dsimp only;rw[if_pos (by omega),Qy c,Za,Q0l ho,Za];cases decide (w[n]∈a) with
  |true=>rw[if_pos rfl,if_pos rfl,Za,Qbb (by grind [List.length_cons,List.length_nil,lim]),Za,Za]
  |false=>rfl
 grind
theorem Qbe5{s t:List Int}(h:s.length<big):Qt6 s t=some (decide (s=t)):=by
 unfold Qt6 Qjm
 grind [Qg4,Decidable.decide,Qbes]
def Q67(p:Qg)(A B:Qa)(w:Q4):Bool :=
 decide (w.Event∈p.Controllable)&&(decide (obsW p.Observable w.Word=obsW p.Observable w.Other)&&(genP B (w.Word++[w.Event])&&(genP A w.Other&&(genP p.Plant (w.Other++[w.Event]) && !genP B (w.Other++[w.Event])))))
section
variable{p:Qg}(h:ProbW p){A B m:Qa}{T U:List (List Int)}(hl:Q9c p A B m T U)
include h hl
theorem Qbbc{k:Nat}{t:List Int}(d:T[k]? = some t)(y e:Int):Qd5 (sysP p A m T) ⟨(k:Int),y⟩ e=some (decide (0<=Q3 p.Plant (ati t 0) e)&&decide (Q3 m y e<0)):=by
 unfold Qd5 Q0 sysP;dsimp only;have a:k<(T.map fun t=>ati t 0).length:=by grind
 have b:(T.map fun t=>ati t 0)[k]=ati t 0:=by
  grind
 rw[Qy a,Za,b,Qgz h.pr,Za];by_cases c:0<=Q3 p.Plant (ati t 0) e
 ·rw[if_pos (by omega),Qgz hl.rm,Za,decide_eq_true c,Zae]
 grind
theorem Qbjf{w:Q4}(I:w.Word.length<100000000)(ho:w.Other.length<100000000):Qkw p w=some (Q67 p A B w,0):=by
 unfold Qkw Qe0;have hb:(100000000:Nat)<big:=by unfold big;decide
 rw[Qbe3 h hl,Za];dsimp only;rw[if_pos rfl,if_neg (by simp),Za];have u:=hl.hA.r.st;unfold Q67;by_cases n:A.zF=0
 ·rw[show (sysP p A m T).empty_=true from by unfold sysP;simp[n],if_pos rfl];have:genP A w.Other=false:=by rw[genE hl.hA.r,decide_eq_false (by omega:¬0<A.zF)];rfl
  rw[this];simp
 ·rw[show (sysP p A m T).empty_=false from by unfold sysP;simp[n],if_neg (by simp)];have H:(sysP p A m T).language_=edM m:=rfl;have e2:(sysP p A m T).ambient_=edM A:=rfl;have e3:(sysP p A m T).start_.language_=if m.zF==0 then -1 else 0:=rfl;have a:T≠[]:=by
   intro e;have:=hl.hA.st
   grind
  have j:=hl.eA.z a;rw[H,e2,e3,Q25 hl.rm (by omega),Za,Q25 hl.hA.r (by omega),Za,Q25 hl.rm (by omega),Za,Qo7 (by have:=h.ce.len;omega),Za];by_cases hc:w.Event∈p.Controllable
  ·rw[decide_eq_true hc,if_pos rfl,Zae];have y:genP B (w.Word++[w.Event])=(decide (0<=runE m (if m.zF==0 then -1 else 0) w.Word)&&decide (0<=Q3 m (runE m (if m.zF==0 then -1 else 0) w.Word) w.Event)):=by
    rw[Zbr,<-Q5q hl,Qiu];simp only[runE,Zc,decide_eq_true_eq];constructor
    ·intro q;refine⟨?_,q⟩;rcases Qbv hl.rm (runE m (if m.zF==0 then -1 else 0) w.Word) w.Event with f|f
     all_goals grind
    ·exact fun q=>q.2
   have E:genP B (w.Other++[w.Event])=decide (0<=Q3 m (runE m (if m.zF==0 then -1 else 0) w.Other) w.Event):=by
    rw[Zbr,<-Q5q hl,Qiu];simp only[runE,decide_eq_true_eq]
   have F:genP A w.Other=decide (0<=runE A 0 w.Other):=by rw[genE hl.hA.r,decide_eq_true (by omega:0<A.zF),Zae]
   rw[y,E,F];by_cases f:0<=runE m (if m.zF==0 then -1 else 0) w.Word
   ·rw[decide_eq_true f,Zae,if_neg (by omega)];by_cases l:0<=runE A 0 w.Other
    ·rw[decide_eq_true l,Zae,if_neg (by omega),Qgz hl.rm,Za,Za];obtain⟨k,t,i,s,g,o⟩:=Q9e h hl w.Other 0 _ j l;rw[show (((0:Nat):Int))=0 from rfl] at i;have d:ati (List.replicate [p.Plant,p.Ambient].length (0:Int)) 0=0:=rfl;rw[d] at g o;have b:0<p.Plant.zF:=by
      have c:=hl.hA.t _ (Zm j);have:=c.get 0 (by simp) (by simp)
      grind
     have C:genP p.Plant (w.Other++[w.Event])=decide (0<=Q3 p.Plant (ati t 0) w.Event):=by
      rw[genE h.pr,decide_eq_true b,Zae,Qiu,<-g]
      rfl
     rw[C];by_cases x:0<=Q3 m (runE m (if m.zF==0 then -1 else 0) w.Word) w.Event
     ·rw[decide_eq_true x,Zae,decide_eq_false (by omega:¬Q3 m (runE m (if m.zF==0 then -1 else 0) w.Word) w.Event<0),if_neg (by simp)];rw[Q5r h.oe.so (by have:=h.oe.len;omega) (by omega),Za,Q5r h.oe.so (by have:=h.oe.len;omega) (by omega),Za,Qbe5 (by grind [obsW,List.length_filter_le]),Za];by_cases v:obsW p.Observable w.Word=obsW p.Observable w.Other
      ·rw[decide_eq_true v,if_pos rfl,i,Qbbc h hl s,Za,Zae]
       grind
      grind
     grind
    grind
   grind
  grind
end
end Go.Abs
end
section
namespace Go.Abs
open Go
def wlt:List Int->List Int->Bool
 |a::v,b::w=>decide (a<b)||(decide (a=b)&&wlt v w)
 |_,_=>false
theorem Qbic:∀{v w:List Int},v.length=w.length->wlt v w=true->∀a b,wlt (v++[a]) (w++[b])=true
 |[],_,_,h,_,_=>by simp[wlt] at h
 |_::_,[],_,h,_,_=>by simp[wlt] at h
 |x::v,y::w,c,h,a,b=>by
  simp only[wlt,Zau,Zc,decide_eq_true_eq,Zaw] at h |-;rcases h with h|⟨h1,h2⟩
  ·exact .inl h
  ·exact .inr ⟨h1,Qbic (by simpa using c) h2 a b⟩
theorem Qbid:∀(v:List Int){a b:Int},a<b->wlt (v++[a]) (v++[b])=true
 |[],a,b,h=>by simp[wlt,h]
 |x::v,a,b,h=>by simp[wlt,Qbid v h]
theorem Qbe6:∀{u v w:List Int},wlt u v=true->wlt v w=true->wlt u w=true
 |[],_,_,h,_=>by simp[wlt] at h
 |_::_,[],_,h,_=>by simp[wlt] at h
 |_::_,_::_,[],_,h=>by simp[wlt] at h
 |x::u,y::v,z::w,h,k=>by
  simp only[wlt,Zau,Zc,decide_eq_true_eq] at h k |-;rcases h with h|⟨h1,h2⟩
  ·rcases k with k|⟨k1,k2⟩
   ·left;omega
   ·left;omega
  ·rcases k with k|⟨k1,k2⟩
   ·left;omega
   ·exact .inr ⟨by omega,Qbe6 h2 k2⟩
theorem Qbbd:∀v:List Int,wlt v v=false
 |[]=>rfl
 |x::v=>by simp[wlt,Qbbd v]
def slt(v w:List Int):Prop:=v.length<w.length\/(v.length=w.length/\wlt v w=true)
def sle(v w:List Int):Prop:=v=w\/slt v w
theorem Q4l{u v w:List Int}(h:slt u v)(k:slt v w):slt u w:=by
 rcases h with h|⟨h1,h2⟩
 ·rcases k with k|⟨k1,k2⟩
  ·left;omega
  ·left;omega
 ·rcases k with k|⟨k1,k2⟩
  ·left;omega
  ·exact .inr ⟨by omega,Qbe6 h2 k2⟩
theorem Qbjg(v:List Int):¬slt v v:=by
 rintro (h|⟨_,h⟩)
 ·omega
 ·rw[Qbbd] at h;cases h
theorem Q4m{u v w:List Int}(h:sle u v)(k:sle v w):sle u w:=by
 rcases h with rfl|h
 ·exact k
 ·rcases k with rfl|k
  ·exact .inr h
  ·exact .inr (Q4l h k)
theorem Qbqw{u v w:List Int}(h:sle u v)(k:slt v w):slt u w:=by
 rcases h with rfl|h
 ·exact k
 ·exact Q4l h k
theorem Qbie{u v:List Int}(h:sle u v)(k:sle v u):u=v:=by
 rcases h with h|h
 ·exact h
 ·rcases k with k|k
  all_goals grind [absurd,Q4l,Qbjg]
theorem Qbif{v w:List Int}(h:slt v w)(a b:Int):slt (v++[a]) (w++[b]):=by
 rcases h with h|⟨h1,h2⟩
 ·left;simp;omega
 ·exact .inr ⟨by simp[h1],Qbic h1 h2 a b⟩
theorem Qbod{v w:List Int}(h:sle v w)(e:Int):sle (v++[e]) (w++[e]):=by
 rcases h with rfl|h
 ·exact .inl rfl
 ·exact .inr (Qbif h e e)
theorem Q4n(v:List Int)(e:Int):slt v (v++[e]):=.inl (by simp)
section
variable{S:Type}(stp:S->Int->Option S)(al:List Int)(s0:S)
def dl(s:S):List Int->Option S
 |[]=>some s
 |e::w=>(stp s e).bind fun t=>dl t w
theorem Qbcp(w:List Int)(e:Int):∀s:S,dl stp s (w++[e])=(dl stp s w).bind fun t=>stp t e:=by
 induction w with
 |nil=>intro s;simp[dl]
 |cons x w a =>
  intro s;simp only[Zaw,dl];cases stp s x with
  |none=>rfl
  |some t=>grind
structure BQ(i:Nat)(done:List Int)(L:List (S×List Int)):Prop where
 root:L[0]? = some (s0,[])
 run:∀z∈L,dl stp s0 z.2=some z.1
 srt:∀(j k:Nat)y z,j<k->L[j]? = some y->L[k]? = some z->slt y.2 z.2
 nod:∀(j k:Nat)y z,j<k->L[j]? = some y->L[k]? = some z->y.1≠z.1
 par:∀z∈L,z.2=[]\/∃(j:Nat)(y:S×List Int)(e:Int),(j<i\/j=i/\e∈done)/\L[j]? = some y/\z.2=y.2++[e]
 cov:∀(j:Nat)(y:S×List Int)(e:Int)(s:S),L[j]? = some y->(j<i/\e∈al\/j=i/\e∈done)->stp y.1 e=some s->∃(k:Nat)(z:S×List Int),L[k]? = some z/\z.1=s/\sle z.2 (y.2++[e])
variable{stp al s0}
theorem BQ.start:BQ stp al s0 0 [] [(s0,[])]:=by
 refine⟨rfl,fun z a=>?_,fun j k y z d c b=>?_,fun j k y z d c b=>?_,fun z a=>?_,fun j y e s d c b=>?_⟩
 ·simp only[Zak] at a;subst a;rfl
 all_goals grind
theorem BQ.below{i:Nat}{done:List Int}{L:List (S×List Int)}(h:BQ stp al s0 i done L){x:S×List Int}(a:L[i]? = some x){e:Int}(c:∀y∈done,y<e):∀z∈L,slt z.2 (x.2++[e]):=by
 intro z b;rcases h.par z b with h1|⟨j,y,e',hj,hy,h1⟩
 ·rw[h1];left;simp
 ·rw[h1];rcases hj with hj|⟨rfl,hd⟩
  ·exact Qbif (h.srt j i y x hj hy a) e' e
  ·rw[a] at hy;cases hy;exact .inr ⟨by simp,Qbid _ (c e' hd)⟩
theorem BQ.keep{i:Nat}{done:List Int}{L:List (S×List Int)}(h:BQ stp al s0 i done L){x:S×List Int}(d:L[i]? = some x){e:Int}(n:∀y∈done,y<e)(m:∀s,stp x.1 e=some s->∃z∈L,z.1=s):BQ stp al s0 i (done++[e]) L:=by
 have hb:=h.below d n;refine⟨h.root,h.run,h.srt,h.nod,fun z a=>?_,fun j y f s b p c=>?_⟩
 ·rcases h.par z a with h1|⟨j,y,e',hj,hy,h1⟩
  ·exact .inl h1
  ·exact .inr ⟨j,y,e',by grind,hy,h1⟩
 ·by_cases l:j<i/\f∈al\/j=i/\f∈done
  ·exact h.cov j y f s b l c
  ·have g:j=i/\f=e:=by
    grind
   obtain⟨rfl,rfl⟩:=g;rw[d] at b;cases b;obtain⟨z,a,o⟩:=m s c;obtain⟨k,q,e2⟩:=Zah a;exact⟨k,z,by grind,o,.inr (hb z a)⟩
theorem BQ.add{i:Nat}{done:List Int}{L:List (S×List Int)}(h:BQ stp al s0 i done L){x:S×List Int}(g:L[i]? = some x){e:Int}(B:∀y∈done,y<e){s:S}(p:stp x.1 e=some s)(H:∀z∈L,z.1≠s):BQ stp al s0 i (done++[e]) (L++[(s,x.2++[e])]):=by
 have hb:=h.below g B;have n:=Zm g;have l:(L++[(s,x.2++[e])])[L.length]? = some (s,x.2++[e]):=by simp
 have I:=(Zn.1 g).1;refine⟨Qu1 h.root,fun z a=>?_,fun j k y z c C o=>?_,fun j k y z c C o=>?_,fun z a=>?_,fun j y f t F E m=>?_⟩
 ·rcases Zr.1 a with a|a
  ·exact h.run z a
  ·simp only[Zak] at a;subst a;dsimp only;rw[Qbcp,h.run x n,Za,p]
 ·have d:L[j]? = some y:=by
   grind
  rcases Qxf o with q|⟨_,rfl⟩
  ·exact h.srt j k y z c d q
  grind
 ·have d:L[j]? = some y:=by
   grind
  rcases Qxf o with q|⟨_,rfl⟩
  ·exact h.nod j k y z c d q
  grind
 ·rcases Zr.1 a with a|a
  ·rcases h.par z a with c|⟨j,y,e',hj,d,c⟩
   ·exact .inl c
   ·exact .inr ⟨j,y,e',by grind,Qu1 d,c⟩
  ·simp only[Zak] at a;subst a;exact .inr ⟨i,x,e,.inr ⟨rfl,by simp⟩,Qu1 g,rfl⟩
 ·have b : L[j]? = some y:=by
   grind
  by_cases u:j<i/\f∈al\/j=i/\f∈done
  ·obtain⟨k,z,A,w,v⟩:=h.cov j y f t b u m;exact⟨k,z,Qu1 A,w,v⟩
  ·have r:j=i/\f=e:=by
    grind
   obtain⟨rfl,rfl⟩:=r;rw[g] at b;cases b;rw[p] at m;cases m;exact⟨L.length,_,l,rfl,.inl rfl⟩
theorem BQ.next{i:Nat}{L:List (S×List Int)}(h:BQ stp al s0 i al L):BQ stp al s0 (i+1) [] L:=by
 refine⟨h.root,h.run,h.srt,h.nod,fun z c=>?_,fun j y f s b d a=>h.cov j y f s b ?_ a⟩
 ·rcases h.par z c with h1|⟨j,y,e',hj,hy,h1⟩
  ·exact .inl h1
  ·exact .inr ⟨j,y,e',.inl (by grind),hy,h1⟩
 grind
theorem BQ.nodup{i:Nat}{done:List Int}{L:List (S×List Int)}(h:BQ stp al s0 i done L):(L.map (·.1)).Nodup:=by
 rw[List.Nodup,Zbj];intro j k c b a;simp only[Zt] at c b;simp only[List.getElem_map];exact h.nod j k _ _ a (Zk c) (Zk b)
theorem BQ.cover{i:Nat}{L:List (S×List Int)}(h:BQ stp al s0 i [] L)(d:∀s e t,stp s e=some t->e∈al):∀(n:Nat)(v:List Int)(s:S),v.length=n->dl stp s0 v=some s->(∃(k:Nat)(z:S×List Int),L[k]? = some z/\z.1=s/\sle z.2 v)\/∃x,L[i]? = some x/\slt x.2 v
 |0,v,s,g,a=>by
  have:v=[]:=Zao g;subst this;simp only[dl,Zh] at a;subst a;exact .inl ⟨0,_,h.root,rfl,.inl rfl⟩
 |n+1,v,s,g,a=>by
  have c:v≠[]:=by grind
  obtain⟨u,e,rfl⟩ : ∃u e,v=u++[e]:=⟨v.dropLast,v.getLast c,(Zce c).symm⟩;rw[Qbcp] at a;cases hu:dl stp s0 u with
  |none=>rw[hu] at a;cases a
  |some t =>
   rw[hu,Za] at a;have j:u.length=n:=by simpa using g
   rcases BQ.cover h d n u t j hu with⟨k,z,b,rfl,p⟩|⟨x,b,B⟩
   ·by_cases o:k<i
    ·obtain⟨k',r,A,y,w⟩:=h.cov k z e s b (.inl ⟨o,d _ _ _ a⟩) a
     grind [Q4m,Qbod]
    ·have m:=(Zn.1 b).1;obtain⟨x,f⟩ : ∃x,L[i]? = some x:=⟨L[i]'(by omega),Zk (by omega)⟩;refine .inr ⟨x,f,?_⟩;have l:sle x.2 z.2:=by
      by_cases q:i=k
      ·subst q;rw[f] at b;cases b;exact .inl rfl
      ·exact .inr (h.srt i k x z (by omega) f b)
     exact Qbqw (Q4m l p) (Q4n u e)
   grind [Q4l,Q4n]
theorem BQ.least{i:Nat}{L:List (S×List Int)}(h:BQ stp al s0 i [] L)(d:∀s e t,stp s e=some t->e∈al){P:S->Prop}(c:∀(j:Nat)y,j<i->L[j]? = some y->¬P y.1){x:S×List Int}(b:L[i]? = some x){v:List Int}{s:S}(g:dl stp s0 v=some s)(l:P s):sle x.2 v:=by
 rcases h.cover d _ v s rfl g with⟨k,z,a,rfl,m⟩|⟨p,a,n⟩
 ·have f:¬k<i:=fun f=>c k z f a l;refine Q4m ?_ m;by_cases o:i=k
  ·subst o;rw[b] at a;cases a;exact .inl rfl
  ·exact .inr (h.srt i k x z (by omega) b a)
 ·rw[b] at a;cases a;exact .inr n
theorem BQ.none{L:List (S×List Int)}(h:BQ stp al s0 L.length [] L)(a:∀s e t,stp s e=some t->e∈al){P:S->Prop}(b:∀(j:Nat)y,L[j]? = some y->¬P y.1){v:List Int}{s:S}(c:dl stp s0 v=some s):¬P s:=by
 rcases h.cover a _ v s rfl c with⟨k,z,d,rfl,g⟩|⟨f,d,i⟩
 all_goals grind
end
end Go.Abs
end
section
namespace Go.Abs
open Go
theorem Q9f{α a:Type}{o:Option α}{x:α}{K:α->Option a}{r:Option a}(h:o=some x)(b:K x=r):o.bind K=r:=by rw[h];exact b
theorem Qbqx{α a:Type}{o:Option α}{K:α->Option a}{r:Option a}(P:α->Prop)(h:∃x,o=some x/\P x)(b:∀x,P x->K x=r):o.bind K=r:=by
 grind
theorem Qboe{α a:Type}{o:Option α}{K:α->Option a}{Q:a->Prop}(P:α->Prop)(h:∃x,o=some x/\P x)(b:∀x,P x->∃y,K x=some y/\Q y):∃y,o.bind K=some y/\Q y:=by
 grind
theorem swoI:Go.Sort.SWO Qhe:=⟨fun x=>by simp[Qhe],fun x y z b a=>by simp[Qhe] at *;omega,fun x y z b a=>by simp[Qhe] at *;omega⟩
theorem Qbms{l:List Int}(h:l.Nodup):(Qj5 Qhe l).Pairwise (· < ·)/\∀x,x∈Qj5 Qhe l↔x∈l:=by
 have hp:=Qmy Qhe l;refine⟨?_,fun x=>hp.mem_iff⟩;have a:=Qnz swoI l;have b:=(hp.nodup_iff).2 h;exact (a.and b).imp fun⟨c,d⟩=>by simp[Qhe] at c;omega
inductive Rch(a:Qa)(ev fr:List Int):Int->Prop where
 |base {s:Int}:s∈fr->Rch a ev fr s
 |step {x:Qb}:Rch a ev fr x.From->x∈a.zD->x.Event∈ev->Rch a ev fr x.To
theorem Qbmt{n:Int}{i:Nat}(h:i<n.toNat):(upto n)[i]'(by rw[Qky];exact h)=(i:Int):=by simp[upto]
open Classical in
noncomputable def Qwd(a:Qa)(fr ev:List Int):List Int:=(upto a.zF).filter fun s=>decide (Rch a ev fr s)
theorem Qxg(a:Qa)(fr ev:List Int):(Qwd a fr ev).Pairwise (· < ·):=(Q82 _).filter _
theorem Q0z{a:Qa}{fr ev:List Int}{s:Int}:s∈Qwd a fr ev↔(0<=s/\s<a.zF)/\Rch a ev fr s:=by
 simp[Qwd,Zp,Qpj,decide_eq_true_eq]
theorem Rch.range{a:Qa}(h:Right a){ev fr:List Int}(d:∀s∈fr,0<=s/\s<a.zF){s:Int}(hr:Rch a ev fr s):0<=s/\s<a.zF:=by
 induction hr with
 |base c=>exact d _ c
 |step _ b _ _=>have:=h.ed0 _ b;grind
theorem Q9g{a:Qa}(h:Right a){fr ev:List Int}(b:∀s∈fr,0<=s/\s<a.zF){s:Int}:s∈Qwd a fr ev↔Rch a ev fr s:=by
 rw[Q0z];exact⟨fun h=>h.2,fun hr=>⟨hr.range h b,hr⟩⟩
theorem Rch.mono{a:Qa}{ev fr b : List Int}(f:∀s∈fr,Rch a ev b s){s:Int}(hr:Rch a ev fr s):Rch a ev b s:=by
 induction hr with
 |base e=>exact f _ e
 |step _ d he c=>exact .step c d he
theorem Q6d{a:Qa}{fr b ev:List Int}(h:∀s,s∈fr↔s∈b):Qwd a fr ev=Qwd a b ev:=by
 refine Q9b (Qxg _ _ _) (Qxg _ _ _) fun x=>?_;rw[Q0z,Q0z];have:Rch a ev fr x↔Rch a ev b x:=⟨Rch.mono fun s c=>.base ((h s).1 c),Rch.mono fun s c=>.base ((h s).2 c)⟩;rw[this]
theorem Qbe7{a:Qa}(h:Right a){fr ev l:List Int}(f:∀s∈fr,0<=s/\s<a.zF)(e:l.Pairwise (· < ·))(j:∀s∈l,Rch a ev fr s)(i:∀s∈fr,s∈l)(g:∀x∈a.zD,x.From∈l->x.Event∈ev->x.To∈l):l=Qwd a fr ev:=by
 refine Q9b e (Qxg _ _ _) fun x=>?_;rw[Q9g h f];refine⟨j x,fun hr=>?_⟩
 induction hr with
 |base d=>exact i _ d
 |step _ c he b=>exact g _ c b he
def Qu2(a:Qa)(b:List Int):List Int:=a.zB.filter fun x=>!decide (x∈b)
def Q6e(a:Qa)(b:List Int)(e:Int):List Int:=b.flatMap fun s=>((outP a s).filter fun x=>x.Event==e).map (·.To)
noncomputable def Q4o(a:Qa)(b c:List Int)(e:Int):List Int:=Qwd a (Q6e a c e) (Qu2 a b)
noncomputable def Qt9(a:Qa)(b:List Int):List Int:=if a.zF=0 then [] else Qwd a [0] (Qu2 a b)
noncomputable def estP(a:Qa)(b c:List Int):List Int:=c.foldl (Q4o a b) (Qt9 a b)
structure Sts(a:Qa)(l:List Int):Prop where
 rg:∀s∈l,0<=s/\s<a.zF
 so:l.Pairwise (· < ·)
theorem Sts.len{a:Qa}{l:List Int}(h:Sts a l):l.length<=a.zF.toNat:=by
 have:=Qkb (a:=0) (b:=a.zF) h.so h.rg;omega
theorem Qbbe(a:Qa)(fr ev:List Int):Sts a (Qwd a fr ev):=⟨fun s b=>(Q0z.1 b).1,Qxg _ _ _⟩
theorem Qbe8(a:Qa)(b c:List Int)(e:Int):Sts a (Q4o a b c e):=Qbbe _ _ _
theorem Qbbf(a:Qa)(b:List Int):Sts a (Qt9 a b):=by
 unfold Qt9;split
 ·exact⟨by simp,by simp⟩
 ·exact Qbbe _ _ _
theorem Q0m{a:Qa}{b:List Int}{e t:Int}:t∈Q6e a b e↔∃x∈a.zD,x.From∈b/\x.Event=e/\x.To=t:=by
 simp only[Q6e,outP,List.mem_flatMap,Zl,Zp,beq_iff_eq]
 grind
theorem Qxh{a:Qa}(h:Right a){b:List Int}{e:Int}:∀s∈Q6e a b e,0<=s/\s<a.zF:=by
 intro s d;obtain⟨x,c,_,_,rfl⟩:=Q0m.1 d;exact⟨(h.ed0 x c).2.2.1,(h.ed0 x c).2.2.2.1⟩
theorem Qbbg{a:Qa}(h:Right a)(b:List Int):(Qu2 a b).length<big:=by
 have:=h.small.2.1;have:(Qu2 a b).length<=a.zB.length:=Zbk _ _;unfold big;omega
theorem Q26{α a R:Type}{F:(List a×Int->Option R)->List a×Int->Option R}{l:List α}{fuel:Nat}(p:α->Bool)(f:α->a)(b:List a->Option R)(step:∀(k:List a×Int->Option R)(n:Nat)(h:n<l.length)(s:List a),s.length<=n->F k (s,(n:Int))=k (if p l[n] then s++[f l[n]] else s,((n+1:Nat):Int)))(c:∀(k:List a×Int->Option R)(s:List a),F k (s,(l.length:Int))=b s)(g:l.length<fuel):Qbq F fuel ([],0)=b ((l.filter p).map f):=by
 refine (Qjj (len:=l.length) (fun n(s:List a)=>(s,(n:Int))) (fun n s=>s=((l.take n).filter p).map f) (fun n s=>b ((l.filter p).map f)) ?_ ?_ fuel 0 [] (Zv _) (by omega) (by simp))
 ·rintro k n s e rfl d
  grind [Go.step,List.length_map,Nat.le_trans,List.length_filter_le,List.length_take,List.take_succ_eq_append_getElem]
 grind
theorem Qbbh{a:Qa}(h:Right a){b:List Int}(ho:b.length<big):Qgb a b=some (Qu2 a b):=by
 have f:=h.small.2.1;unfold Qgb Qbx;refine Q9f (x:=Qu2 a b) ?_ rfl;rw[Q26 (l:=a.zB) (fun x=>!decide (x∈b)) id some ?_ ?_ (by unfold Q2;omega)]
 ·simp[Qu2]
 ·intro k n d s e;dsimp only;rw[if_pos (by omega),Qy d];simp only[Za];rw[Q0l ho];simp only[Za];by_cases c:a.zB[n]∈b
  ·simp only[c,decide_true,if_true,Bool.not_true,Zg,if_false,Za];rw[Qw (by omega)]
  ·simp only[c,decide_false,Zg,if_false,Bool.not_false,if_true]
   grind [Qbb,List.length_cons,List.length_nil,lim,Qw]
 grind
theorem Qbjh{l:List Int}{n:Int}(c:l.length<big)(f:0<=n)(e:n<=4096):Qh6 l n=some ((upto n).filter fun x=>decide (x∈l)):=by
 unfold Qh6 Qdi;refine Q9f (x:=(upto n).filter fun x=>decide (x∈l)) ?_ rfl;rw[Q26 (l:=upto n) (fun x=>decide (x∈l)) id some ?_ ?_ (by rw[Qky];unfold Q2;omega)]
 ·simp
 ·intro k m b s d;rw[Qky] at b;dsimp only;rw[if_pos (by omega),Q0l c,Qbmt b];simp only[Za];by_cases a:(m:Int)∈l
  ·simp only[a,decide_true,if_true]
   grind [Qbb,List.length_cons,List.length_nil,lim,Qw]
  ·simp only[a,decide_false,Zg,if_false,Za];rw[Qw (by omega)]
 ·intro k s;dsimp only;rw[if_neg (by rw[Qky];omega)]
structure RI(a:Qa)(ev fr o:List Int):Prop where
 rch:∀s∈o,Rch a ev fr s
 sub:∃ad,o=fr++ad/\Fnd a ad
theorem RI.len{a:Qa}{ev fr o:List Int}(h:RI a ev fr o):o.length<=fr.length+a.zF.toNat:=by
 obtain⟨c,rfl,b⟩:=h.sub;have:=b.len
 grind
theorem RI.base{a:Qa}{ev fr o:List Int}(h:RI a ev fr o):∀s∈fr,s∈o:=by
 obtain⟨c,rfl,b⟩:=h.sub
 grind
theorem Qbe9{a:Qa}(h:Right a){fr ev:List Int}(J:∀s∈fr,0<=s/\s<a.zF)(X:fr.length<=1000000000)(S:ev.length<big):Qgy a fr ev=some (Qwd a fr ev):=by
 have w:=h.st;have N:=h.small.2.2.2;unfold Qgy Qb2;refine Q9f (x:=fr) (by grind [Qbb,List.length_nil,lim]) ?_;refine Qbqx (fun o=>RI a ev fr o/\∀s∈o,∀x∈a.zD,x.From=s->x.Event∈ev->x.To∈o) ?_ ?_
 ·refine Qbh (fun x=>∃i:Nat,x.2=(i:Int)/\i<=x.1.length/\RI a ev fr x.1/\∀j s,j<i->x.1[j]? = some s->∀g ∈ a.zD,g.From=s->g.Event∈ev->g.To∈x.1) (fun x=>fr.length+a.zF.toNat+1-x.2.toNat)
   (fun x r=>∃o,r=some o/\RI a ev fr o/\∀s∈o,∀x∈a.zD,x.From=s->x.Event∈ev->x.To∈o) ?_ Q2 _ ?_ ?_
  ·rintro k ⟨o,_⟩ ⟨i,rfl,hi,hI,hc⟩ ih;dsimp only at hi hI hc |-;have E:=hI.len;by_cases P:i<o.length
   ·rw[if_pos (by omega)];generalize f:o[i]=s;have R:o[i]? = some s:=by grind
    refine Qboe (fun o'=>RI a ev fr o'/\o <+: o'/\∀x∈a.zD,x.From=s->x.Event∈ev->x.To∈o') ?_ ?_
    ·refine Qbh (fun x=>∃n:Nat,x.2=(n:Int)/\n<=a.zD.length/\RI a ev fr x.1/\o <+: x.1/\∀g ∈ a.zD.take n,g.From=s->g.Event∈ev->g.To∈x.1) (fun x=>a.zD.length-x.2.toNat)
      (fun x r=>∃o',r=some o'/\RI a ev fr o'/\o <+: o'/\∀x∈a.zD,x.From=s->x.Event∈ev->x.To∈o') ?_ Q2 _ ?_ ?_
     ·rintro k ⟨o2,_⟩ ⟨n,rfl,hn,hI2,hp,hc2⟩ ih;dsimp only at hn hI2 hp hc2 |-;have H:=hI2.len;by_cases c:n<a.zD.length
      ·rw[if_pos (by omega),Qy c];have F:getO o2 (i:Int)=some s:=by
        rw[Q0e];refine⟨by omega,?_⟩;obtain⟨r,rfl⟩:=hp
        grind
       have b:a.zD[n]∈a.zD:=Zq c;have d:=h.ed0 _ b;rw[F];simp only[Za];rw[Q0l S];have C:a.zD.take (n+1)=a.zD.take n++[a.zD[n]]:=Zaq c;generalize a.zD[n]=x at b d C |-;have skip:¬(x.From=s/\x.Event∈ev/\x.To∉o2)->∃o',k (o2,IntKind.wrap .i64 ((n:Int)+1))=some o'/\RI a ev fr o'/\o <+: o'/\∀x∈a.zD,x.From=s->x.Event∈ev->x.To∈o':=by
        intro O;rw[Qw (by omega)];refine ih _ ⟨n+1,rfl,by omega,hI2,hp,fun y M A z=>?_⟩ (by simp only;omega)
        grind
       by_cases p:x.From=s
       ·rw[if_pos (by simp[p])];by_cases m:x.Event∈ev
        ·simp only[m,decide_true,if_true,Za];rw[Q0l (by unfold big;omega)];by_cases T:x.To∈o2
         ·grind
         ·simp only[T,decide_false,Bool.not_false,Za,if_true];rw[Qbb (by grind [List.length_cons,List.length_nil,lim])];simp only[Za];rw[Qw (by omega)];refine ih _ ⟨n+1,rfl,by omega,⟨fun t l=>?_,?_⟩,hp.trans (Zbt _ _),fun y M A z=>?_⟩ (by simp only;omega)
          ·rcases Zr.1 l with l|l
           ·exact hI2.rch t l
           ·simp only[Zak] at l;subst l;refine .step (hI2.rch x.From ?_) b m;rw[p];exact hp.subset (Zm R)
          ·obtain⟨U,rfl,L⟩:=hI2.sub;refine⟨U++[x.To],by rw[Zbs],?_,?_⟩
           ·rw[List.nodup_append];refine⟨L.nd,by simp,fun u q v W e=>?_⟩
            grind
           ·intro u q;rcases Zr.1 q with q|q
            ·exact L.rg u q
            grind
          grind
        ·simp only[m,decide_false,Zg,if_false,Za]
         grind
       grind
      grind
     ·grind
     grind [Int.toNat_zero,Q2]
    ·rintro o' ⟨hI',hp,hc'⟩;have:=hp.length_le;have Q:=hI'.len;rw[Qw (by omega)];refine ih _ ⟨i+1,rfl,by simp only;omega,hI',fun j t I l x B p m=>?_⟩ (by simp only;omega);obtain⟨r,hr⟩:=hp
     grind
   ·rw[if_neg (by omega)];refine⟨o,rfl,hI,fun s f x B p m=>?_⟩
    grind [List.getElem?_of_mem,List.getElem?_eq_some_iff]
  ·exact⟨0,rfl,Zv _,⟨fun s f=>.base f,[],by simp,by simp,by simp⟩,fun j s I=>absurd I (by omega)⟩
  grind [Int.toNat_zero,Q2]
 ·rintro o ⟨hI,hc⟩;have E:=hI.len;refine Q9f (x:=(upto a.zF).filter fun x=>decide (x∈o)) (Qbjh (by unfold big;omega) w.1 w.2) ?_;congr 1;refine Qbe7 h J ((Q82 _).filter _) (fun s f=>?_) (fun s f=>?_) fun x B p m=>?_
  ·have:=(Zp.1 f).2;exact hI.rch s (by simpa using this)
  ·exact Zp.2 ⟨Qpj.2 (J s f),by simpa using hI.base s f⟩
  ·have d:=h.ed0 x B;have:=(Zp.1 p).2;exact Zp.2 ⟨Qpj.2 ⟨d.2.2.1,d.2.2.2.1⟩,by grind⟩
theorem Qbof{a:Qa}(h:Right a){c b:List Int}(ho:c.length<big)(p:b.length<big)(e:Int):Qi4 a c b e=some (Q4o a c b e):=by
 have m:=h.small.2.2.2;unfold Qi4 Qd8;refine Q9f (x:=(a.zD.filter fun x=>x.Event==e&&decide (x.From∈b)).map (·.To)) ?_ ?_
 ·rw[Q26 (l:=a.zD) (fun x=>x.Event==e&&decide (x.From∈b)) (·.To) some ?_ ?_ (by unfold Q2;omega)]
  ·intro k n o s g;dsimp only;rw[if_pos (by omega),Qy o];simp only[Za];by_cases f:a.zD[n].Event=e
   ·rw[if_pos (by simp[f]),Q0l p];simp only[Za];by_cases j:a.zD[n].From∈b
    ·simp only[f,j,decide_true,if_true,BEq.rfl,Zav,Za]
     grind [Qbb,List.length_cons,List.length_nil,lim,Qw]
    ·simp only[f,j,decide_false,Zg,if_false,Bool.and_false,Za];rw[Qw (by omega)]
   ·have:(a.zD[n].Event==e)=false:=by simp[f]
    rw[if_neg (by simp[f])];simp only[this,Bool.false_and,Zg,if_false,Za];rw[Qw (by omega)]
  grind
 ·rw[Qbbh h ho];simp only[Za];have d:∀t,t∈(a.zD.filter fun x=>x.Event==e&&decide (x.From∈b)).map (·.To)↔t∈Q6e a b e:=by
   intro t;rw[Q0m]
   grind
  have i:((a.zD.filter fun x=>x.Event==e&&decide (x.From∈b)).map (·.To)).length<=131072:=by
   grind
  rw[Qbe9 h (fun s g=>Qxh h s ((d s).1 g)) (by omega) (Qbbg h c)];simp only[Za];rw[Q4o,Q6d d]
theorem Qbmu{a:Qa}(h:Right a){b:List Int}(ho:b.length<big):Qis a b=some (Qt9 a b):=by
 unfold Qis Qdz Qt9;have d:=h.st;by_cases c:a.zF=0
 ·grind
 ·rw[if_neg (by simp[c]),if_neg c,Qbbh h ho];simp only[Za];rw[Qbe9 h (fun s e=>by grind) (by simp) (Qbbg h b)]
  rfl
end Go.Abs
end
section
namespace Go.Abs
open Go
theorem Q00(ob u v:List Int):obsW ob (u++v)=obsW ob u++obsW ob v:=by unfold obsW;rw[List.filter_append]
theorem Q4p(ob:List Int)(e:Int):obsW ob [e]=if e∈ob then [e] else []:=by
 grind [obsW]
theorem Q68{ob u:List Int}:obsW ob u=[]↔∀e∈u,e∉ob:=by
 unfold obsW
 simp_all
theorem Qbbi{ob:List Int}{o:List Int}{e:Int}:∀(n:Nat)(u:List Int),u.length=n->obsW ob u=o++[e]->∃d c,u=d++e::c/\obsW ob d=o/\obsW ob c=[]/\e∈ob
 |0,u,k,h=>by
  grind [List.eq_nil_of_length_eq_zero,obsW]
 |n+1,u,k,h=>by
  have b:u≠[]:=by grind
  obtain⟨w,f,rfl⟩ : ∃w f,u=w++[f]:=⟨u.dropLast,u.getLast b,(Zce b).symm⟩;rw[Q00,Q4p] at h;by_cases g:f∈ob
  ·rw[if_pos g] at h;obtain⟨j,i⟩:=List.append_inj' h rfl;simp only[Zo,and_true] at i;subst i;exact⟨w,[],rfl,j,rfl,g⟩
  ·rw[if_neg g,Zas] at h;obtain⟨d,c,rfl,j,i,l⟩:=Qbbi n w (by simpa using k) h;exact⟨d,c++[f],by simp,j,by rw[Q00,i,Q4p,if_neg g];rfl,l⟩
section
variable{a:Qa}(h:Right a)
include h
theorem Qbcq:∀(u:List Int)(s:Int),0<=runE a s u->∀e∈u,e∈a.zB
 |[],s,_,e,he=>by cases he
 |f::u,s,b,e,he=>by
  rw[runE] at b;have hr:0<=Q3 a s f:=by
   grind [Qbv,Qi7]
  rcases Qbv h s f with h1|h1
  ·omega
  ·rcases Zaj.1 he with rfl|he
   ·exact h1.2.2.2.2
   ·exact Qbcq u _ b e he
theorem Q4q{s e t:Int}(c:Q3 a s e=t)(d:0<=t):∃x∈a.zD,x.From=s/\x.Event=e/\x.To=t:=by
 subst c;obtain⟨x,b,f⟩:=(Qne h).1 d;have j:=Qs7 h b;obtain⟨i,g⟩:=Zp.1 b
 grind
theorem Q4r{x:Qb}(b:x∈a.zD):Q3 a x.From x.Event=x.To:=Qs7 h (Zp.2 ⟨b,by simp⟩)
theorem Qbmv{ev fr:List Int}(t:∀s∈fr,0<=s){x:Int}:Rch a ev fr x↔∃s∈fr,∃u,(∀e∈u,e∈ev)/\runE a s u=x/\0<=x:=by
 constructor
 ·intro hr
  induction hr with
  |base b=>exact⟨_,b,[],by simp,rfl,t _ b⟩
  |step hr i j d =>
   rename_i y;obtain⟨s,b,u,l,c,k⟩:=d;have r:=h.ed0 y i;refine⟨s,b,u++[y.Event],fun e q=>?_,?_,r.2.2.1⟩
   ·grind
   ·rw[Qiu,c];show Q3 a y.From y.Event=y.To;exact Q4r h i
 ·rintro⟨s,b,u,l,c,k⟩;have key:∀(u:List Int)(s:Int),Rch a ev fr s->(∀e∈u,e∈ev)->0<=runE a s u->Rch a ev fr (runE a s u):=by
   intro u
   induction u with
   |nil=>intro s b _ _;exact b
   |cons f u d =>
    intro s b n g;rw[runE] at g |-;have hr:0<=Q3 a s f:=by
     grind [Qbv,Qi7]
    obtain⟨y,o,v,e2,e3⟩:=Q4q h (rfl:Q3 a s f=_) hr;refine d _ ?_ (fun e j=>n e (by simp[j])) g;rw[<-e3];exact .step (by rw[v];exact b) o (by grind)
  rw[<-c];exact key u s (.base b) l (by rw[c];exact k)
theorem Qxi{ob:List Int}:∀(n:Nat)(o:List Int),o.length=n->(∀e∈o,e∈ob)->∀x,x∈estP a ob o↔0<a.zF/\0<=x/\∃u,obsW ob u=o/\runE a 0 u=x
 |0,o,r,_,x=>by
  have:o=[]:=Zao r;subst this;have L:=h.st;show x∈Qt9 a ob↔_;unfold Qt9;by_cases N:a.zF=0
  ·grind
  ·rw[if_neg N,Q9g h (fun s d=>by grind),Qbmv h (fun s d=>by simp at d;omega)];constructor
   ·rintro⟨s,d,u,g,c,b⟩;simp at d;subst d;refine⟨by omega,b,u,Q68.2 fun e l=>?_,c⟩;have:=(Zp.1 (g e l)).2;simpa using this
   ·rintro⟨_,b,u,g,c⟩;refine⟨0,by simp,u,fun e l=>Zp.2 ⟨Qbcq h u 0 (by rw[c];exact b) e l,?_⟩,c,b⟩;simpa using Q68.1 g e l
 |n+1,o,r,ho,x=>by
  have q:o≠[]:=by grind
  obtain⟨p,e,rfl⟩ : ∃p e,o=p++[e]:=⟨o.dropLast,o.getLast q,(Zce q).symm⟩;have I:=Qxi n p (by simpa using r) fun f k=>ho f (by simp[k]);have l:e∈ob:=ho e (by simp);have O:estP a ob (p++[e])=Q4o a ob (estP a ob p) e:=by unfold estP;grind
  rw[O,Q4o,Q9g h (Qxh h),Qbmv h (fun s d=>(Qxh h s d).1)];constructor
  ·rintro⟨t,J,i,g,c,b⟩;obtain⟨y,E,C,z,w⟩:=Q0m.1 J;obtain⟨v,Q,j,F,P⟩:=(I _).1 C;refine⟨v,b,j++e::i,?_,?_⟩
   ·rw[Q00,F,show e::i=[e]++i from rfl,Q00,Q4p,if_pos l,Q68.2 fun f k=>?_]
    ·simp
    ·have:=(Zp.1 (g f k)).2;simpa using this
   grind [Qiu,runE,Q4r]
  ·rintro⟨v,b,u,g,c⟩;obtain⟨j,i,rfl,R,H,_⟩:=Qbbi _ u rfl g;rw[Qiu,runE] at c;have hr:0<=Q3 a (runE a 0 j) e:=by
    grind [Qbv,runE,Qi7]
   have M:0<=runE a 0 j:=by
    grind [Qbv,runE]
   obtain⟨y,E,C,z,w⟩:=Q4q h (rfl:Q3 a (runE a 0 j) e=_) hr;refine⟨Q3 a (runE a 0 j) e,Q0m.2 ⟨y,E,?_,z,w⟩,i,fun f k=>Zp.2 ⟨Qbcq h i _ (by rw[c];exact b) f k,by simpa using Q68.1 H f k⟩,c,b⟩
   grind
end
abbrev Cf:=Int×Int×List Int
def k0(a:Qa):Int:=if a.zF=0 then -1 else 0
noncomputable def stpC(A a:Qa)(ob:List Int)(s:Cf)(e:Int):Option Cf :=
 if 0<=Q3 A s.1 e then some (Q3 A s.1 e,Q3 a s.2.1 e,if e∈ob then Q4o a ob s.2.2 e else s.2.2) else none
noncomputable def s0C(a:Qa)(ob:List Int):Cf:=(0,k0 a,Qt9 a ob)
theorem Q9h{A a:Qa}(hA:Right A){ob:List Int}:∀s e t,stpC A a ob s e=some t->e∈A.zB:=by
 grind [stpC,Qbv]
theorem Qs9{A a:Qa}(hA:Right A)(ob:List Int):∀(n:Nat)(v:List Int),v.length=n->dl (stpC A a ob) (s0C a ob) v=if 0<=runE A 0 v then some (runE A 0 v,runE a (k0 a) v,estP a ob (obsW ob v)) else none
 |0,v,c=>by
  have:v=[]:=Zao c;subst this
  rfl
 |n+1,v,c=>by
  have b:v≠[]:=by intro q;rw[q] at c;simp at c
  obtain⟨w,e,rfl⟩ : ∃w e,v=w++[e]:=⟨v.dropLast,v.getLast b,(Zce b).symm⟩;rw[Qbcp,Qs9 hA ob n w (by simpa using c)];have eA:runE A 0 (w++[e])=Q3 A (runE A 0 w) e:=by rw[Qiu];rfl
  have i:runE a (k0 a) (w++[e])=Q3 a (runE a (k0 a) w) e:=by rw[Qiu];rfl
  rw[eA,i];by_cases g:0<=runE A 0 w
  ·rw[if_pos g,Za];unfold stpC;dsimp only;by_cases f:0<=Q3 A (runE A 0 w) e
   ·rw[if_pos f,if_pos f,Q00,Q4p];by_cases d:e∈ob
    ·rw[if_pos d,if_pos d];unfold estP;rw[List.foldl_append];rfl
    ·rw[if_neg d,if_neg d,Zas]
   ·rw[if_neg f,if_neg f]
  ·rw[if_neg g,Option.bind_none,if_neg];rcases Qbv hA (runE A 0 w) e with q|q
   ·omega
   ·exact absurd q.2.2.1 g
def LgA(a:Qa)(w:List Int):Prop:=0<=runE a (k0 a) w
theorem Qbgi{a:Qa}(h:Right a)(w:List Int):genP a w=true↔LgA a w:=by
 rw[genE h];have b:=h.st;unfold LgA k0;by_cases c:a.zF=0
 ·simp_all[if_pos,Qi7,decide_eq_false]
 grind
def RefC(p:Qg)(T:List (List Int))(a:Qa)(s:Cf)(e:Int):Prop :=
 e∈p.Controllable/\0<=Q3 p.Plant (ati (T.getD s.1.toNat []) 0) e/\Q3 a s.2.1 e<0/\∃x∈s.2.2,0<=Q3 a x e
def RefW(p:Qg)(B:Qa)(v:List Int)(e:Int):Prop :=
 e∈p.Controllable/\0<=runE p.Plant 0 (v++[e])/\¬LgA B (v++[e])/\∃u,obsW p.Observable u=obsW p.Observable v/\LgA B (u++[e])
theorem Q4s{a:Qa}(h:0<a.zF):k0 a=0:=by unfold k0;rw[if_neg (by omega)]
section
variable{p:Qg}(h:ProbW p){A B m:Qa}{T U:List (List Int)}(hl:Q9c p A B m T U)
include h hl
theorem Q5s{a:Qa}(ha:Right a)(l:∀w,LgA a w↔LgA B w)(J:0<A.zF){v:List Int}{s:Cf}(i:dl (stpC A a p.Observable) (s0C a p.Observable) v=some s)(e:Int):RefC p T a s e↔RefW p B v e:=by
 rw[Qs9 hl.hA.r _ _ v rfl] at i;by_cases o:0<=runE A 0 v
 ·rw[if_pos o] at i;cases i;unfold RefC RefW;dsimp only;have c:T≠[]:=by
   intro q;have:=hl.hA.st
   grind
  obtain⟨k,t,C,O,n,N⟩:=Q9e h hl v 0 _ (hl.eA.z c) o;rw[show (((0:Nat):Int))=0 from rfl] at C;have j:ati (List.replicate [p.Plant,p.Ambient].length (0:Int)) 0=0:=rfl;rw[j] at n;have I:T.getD (runE A 0 v).toNat []=t:=by
   grind
  rw[I,n];have L:runE p.Plant 0 (v++[e])=Q3 p.Plant (runE p.Plant 0 v) e:=by rw[Qiu];rfl
  have e2:Q3 a (runE a (k0 a) v) e=runE a (k0 a) (v++[e]):=by rw[Qiu];rfl
  rw[L,e2,<-l];have b:∀e∈obsW p.Observable v,e∈p.Observable:=fun e H=>by
   have:=(Zp.1 H).2;simpa using this
  refine and_congr_right fun _=>and_congr_right fun _=>and_congr (by unfold LgA;omega) ?_;constructor
  ·rintro⟨x,E,q⟩;obtain⟨y,M,u,g,f⟩:=(Qxi ha _ _ rfl b x).1 E;refine⟨u,g,(l _).1 ?_⟩;unfold LgA;rw[Qiu,Q4s y,f];exact q
  ·rintro⟨u,g,f⟩;have r5:=(l _).2 f;unfold LgA at r5;rw[Qiu] at r5;have d:0<=runE a (k0 a) u:=by
    rcases Qbv ha (runE a (k0 a) u) e with q|q
    ·have:runE a (runE a (k0 a) u) [e]=Q3 a (runE a (k0 a) u) e:=rfl;omega
    ·exact q.2.2.1
   have F:=ha.st;have hp:0<a.zF:=by
    refine Zcc fun q=>?_;unfold k0 at d;rw[if_pos (by omega),Qi7 ha] at d;omega
   rw[Q4s hp] at r5 d;exact⟨runE a 0 u,(Qxi ha _ _ rfl b _).2 ⟨hp,d,u,g,rfl⟩,r5⟩
 grind
omit h in
theorem Qbfa(w:List Int):LgA m w↔LgA B w:=by
 rw[<-Qbgi hl.hB.r,<-Q5q hl];unfold LgA k0;by_cases q:m.zF=0
 ·rw[if_pos q,if_pos (by simp[q])]
 ·rw[if_neg q,if_neg (by simp[q])]
end
end Go.Abs
end
section
namespace Go.Abs
open Go
theorem Q0n{a:Qa}{ob:List Int}(o:List Int):Sts a (estP a ob o):=by
 unfold estP;rcases List.eq_nil_or_concat o with rfl|⟨l,x,rfl⟩
 all_goals grind [Qbbf,Qbe8]
def trT(t:Qm):Cf×List Int:=((t.c_,t.k_,t.estimate_),t.word_)
theorem Qxj{α a:Type}{f:α->a}{l:List α}{i:Nat}{x:α}(h:l[i]? = some x):(l.map f)[i]? = some (f x):=by grind
theorem Q69{α a:Type}{f:α->a}{l:List α}{i:Nat}{y:a}(h:(l.map f)[i]? = some y):∃x,l[i]? = some x/\y=f x:=by
 grind
section
variable{p:Qg}(h:ProbW p){A B m:Qa}{T U:List (List Int)}(hl:Q9c p A B m T U)
include h hl
theorem Qbog{t:Qm}(g:t.estimate_.length<big)(j:t.word_.length<1000000)(e:Int):
  ∃nt b,Qf9 ⟨p,A,B,T.map fun t=>ati t 0⟩ t e=some (nt,b)/\match stpC A B p.Observable (trT t).1 e with
   |none=>b=false
   |some s=>b=true/\trT nt=(s,t.word_++[e]):=by
 unfold Qf9 Qco;dsimp only;have ho:=h.oe.len;have a:p.Observable.length<big:=by unfold big;omega
 rw[Qkc hl.hA.r.small.1,Za,Qbb (by simp only[Zar];unfold lim;omega),Za,Zbo,Qbb (by grind [List.length_cons,List.length_nil,lim]),Za];unfold stpC trT;dsimp only;by_cases i:0<=Q3 A t.c_ e
 ·rw[if_neg (by omega)];have c:(if t.k_>=0 then (Q8 B t.k_ e).bind fun d=>some d else some (-1))=some (Q3 B t.k_ e):=by
   by_cases c:t.k_>=0
   ·rw[if_pos c,Qkc hl.hB.r.small.1,Za]
   ·rw[if_neg c];rcases Qbv hl.hB.r t.k_ e with q|q
    all_goals grind
  rw[c,Za,Qbhx a,Za];by_cases f:e∈p.Observable
  ·rw[decide_eq_true f,if_pos rfl,Qbof hl.hB.r a g,Za]
   grind
  simp_all
 ·rw[if_pos (by omega)];exact⟨_,_,rfl,by rw[if_neg i]⟩
omit h hl in
theorem Qboh{l:List Qm}{nt:Qm}{b:Bool}(Q:l.length<100000)(P:∀z∈l,z.estimate_.length<big){fuel:Nat}(R:1099511627776<=fuel):
  Qbq (fun L((d,c):Bool×Int)=>(((if (c<(l.length:Int)) then some d else some false)).bind fun(J:Bool)=>(if J then ((((getO l c).bind fun I=>(if (I.c_ != nt.c_) then some true else ((getO l c).bind fun H=>(if (H.k_ != nt.k_) then some true else ((getO l c).bind fun F=>((Qdr F.estimate_ nt.estimate_).bind fun e=>some (!e)))))))).bind fun(j:Bool)=>L (j,(IntKind.wrap .i64 (c+1)))) else some d))) fuel (b,0)=some (b&&decide (∀z∈l,(trT z).1≠(trT nt).1)):=by
 refine Qbh (fun x:Bool×Int=>∃n:Nat,x.2=(n:Int)/\n<=l.length/\x.1=(b&&decide (∀z∈l.take n,(trT z).1≠(trT nt).1))) (fun x=>l.length-x.2.toNat) (fun _ r=>r=some (b&&decide (∀z∈l,(trT z).1≠(trT nt).1))) (fun k x w O=>?_) fuel (b,0) ⟨0,rfl,by omega,by simp⟩ (by dsimp only;omega);obtain⟨N,x⟩:=x;obtain⟨n,w,W,a⟩:=w;dsimp only at w a;subst w;dsimp only;by_cases g:n<l.length
 ·rw[if_pos (by omega),Za];cases his:N with
  |false =>
   rw[if_neg (by simp)];rw[his] at a;congr 1
   symm
   have a:=a.symm;rw[Bool.and_eq_false_iff] at a |-;rcases a with a|a
   ·exact .inl a
   ·refine .inr ?_;simp only[decide_eq_false_iff_not] at a |-;exact fun q=>a fun z v=>q z (Zbx v)
  |true =>
   rw[if_pos rfl];rw[his] at a;have t:=(Zc _ _).mp a.symm;have u:=of_decide_eq_true t.2;have v:=Zq g;have f:=P _ v;have s:l.take (n+1)=l.take n++[l[n]]:=Zaq g;have M:getO l (n:Int)=some l[n]:=Qy g;generalize l[n]=z at v f s M;have o:(if (z.c_ != nt.c_) then some true else (if (z.k_ != nt.k_) then some true else ((Qdr z.estimate_ nt.estimate_).bind fun e=>some (!e))))=some (decide ((trT z).1≠(trT nt).1)):=by
    unfold trT;dsimp only;by_cases E:z.c_=nt.c_
    ·rw[if_neg (by simp[E])];by_cases C:z.k_=nt.k_
     ·rw[if_neg (by simp[C]),Qbch (by unfold big at f;exact f),Za];by_cases S:z.estimate_=nt.estimate_<;>simp[E,C,S]
     ·rw[if_pos (by simp[C])];simp[C]
    ·rw[if_pos (by simp[E])];simp[E]
   simp only[M,Za];rw[o,Za,Qw (by omega)];refine O _ ⟨n+1,rfl,by omega,?_⟩ (by dsimp only;omega);dsimp only;rw[t.1,Zae,Zbr];simp only[decide_eq_true_eq,s];constructor
   ·intro q y i;rcases Zr.1 i with i|i
    ·exact u y i
    ·simp only[Zak] at i;subst i;exact q
   ·intro q;exact q z (by simp)
 ·rw[if_neg (by omega),Za,if_neg (by simp)];have:n=l.length:=by omega
  subst this;rw[Zaz] at a;rw[a]
structure TrQ(A B:Qa)(ob:List Int)(i:Nat)(done:List Int)(l:List Qm):Prop where
 q:BQ (stpC A B ob) A.zB (s0C B ob) i done (l.map trT)
 wl:∀(j:Nat)y,l[j]? = some y->y.word_.length<=j
omit h in
theorem TrQ.est{i:Nat}{done:List Int}{l:List Qm}(f:TrQ A B p.Observable i done l):∀z∈l,z.estimate_.length<big:=by
 intro z d;have b:=f.q.run (trT z) (Zl.2 ⟨z,d,rfl⟩);rw[Qs9 hl.hA.r _ _ _ rfl] at b;split at b
 ·have c:=Zbe b;unfold trT at c;dsimp only at c;have g:z.estimate_=estP B p.Observable (obsW p.Observable z.word_):=(congrArg (fun x:Cf=>x.2.2) c).symm;have:=(Q0n (a:=B) (ob:=p.Observable) (obsW p.Observable z.word_)).len;have e:=hl.hB.r.st;rw[g];unfold big;omega
 ·cases b
theorem Qbji:∃l b,Qe9 ⟨p,A,B,T.map fun t=>ati t 0⟩=some (l,b)/\(b=true->(A.zF=0->l=[])/\(0<A.zF->TrQ A B p.Observable l.length [] l/\l.length<=600))/\(b=false->l=[]):=by
 unfold Qe9 Qb8;obtain⟨fuel,hfu,hge⟩ : ∃f,Q2=f/\1099511627776<=f:=⟨_,rfl,Ze _⟩;have ho:=h.oe.len;have hob:p.Observable.length<big:=by unfold big;omega
 have hal:=h.pe.len;rw[<-hl.aA] at hal;have hBst:=hl.hB.r.st;have hAst:=hl.hA.r.st;rw[hfu];dsimp only;have o:Qfy ⟨p,A,B,T.map fun t=>ati t 0⟩=some (⟨0,k0 B,Qt9 B p.Observable,[]⟩,decide (A.zF>0)):=by
  unfold Qfy Qcj;dsimp only;rw[Qbmu hl.hB.r hob,Za];unfold k0
  grind
 rw[o,Za];dsimp only;by_cases h0:A.zF=0
 ·rw[decide_eq_false (by omega:¬A.zF>0),if_neg (by simp),Za];dsimp only;obtain⟨f,rfl⟩ : ∃f,fuel=f+1:=⟨fuel-1,by omega⟩;refine⟨[],true,?_,fun _=>⟨fun _=>rfl,fun q=>by omega⟩,fun _=>rfl⟩;simp[Qbq]
 ·rw[decide_eq_true (by omega:A.zF>0),if_pos rfl,Qbb (by grind [List.length_cons,List.length_nil,lim]),Za,Za];dsimp only;refine Qbh (fun x:List Qm×Int=>∃i:Nat,x.2=(i:Int)/\i<=x.1.length/\TrQ A B p.Observable i [] x.1/\x.1.length<=600) (fun x=>601-x.2.toNat) (fun _ r=>∃l b,r=some (l,b)/\(b=true->(A.zF=0->l=[])/\(0<A.zF->TrQ A B p.Observable l.length [] l/\l.length<=600))/\(b=false->l=[])) (fun k x d ih=>?_) fuel _ ⟨0,rfl,by simp,⟨BQ.start,fun j y R=>?_⟩,by simp⟩ (by dsimp only;omega)
  ·obtain⟨l,x⟩:=x;obtain⟨i,d,hi,hQ,hln⟩:=d;dsimp only at d hi hQ hln;subst d;dsimp only;by_cases hlt:i<l.length
   ·rw[if_pos (by omega)];refine Qu0 (P:=fun v : List Qm=>TrQ A B p.Observable i A.zB v/\l.length<=v.length) (Q:=fun r=>∃l b,r=some (l,b)/\(b=true->(A.zF=0->l=[])/\(0<A.zF->TrQ A B p.Observable l.length [] l/\l.length<=600))/\(b=false->l=[])) ?_ ?_
    ·refine Qbh (fun x:List Qm×Int=>∃n:Nat,x.2=(n:Int)/\n<=A.zB.length/\TrQ A B p.Observable i (A.zB.take n) x.1/\l.length<=x.1.length/\x.1.length<=600+n) (fun x=>A.zB.length-x.2.toNat) (fun _ r=>∃v : List Qm,r=some v/\TrQ A B p.Observable i A.zB v/\l.length<=v.length) (fun k2 x d F=>?_) fuel _ ⟨0,rfl,by omega,by simpa using hQ,Ze _,by dsimp only;omega⟩ (by dsimp only;omega);obtain⟨u,x⟩:=x;obtain⟨n,d,hn,a,M,hl3⟩:=d;dsimp only at d a M hl3;subst d;dsimp only;by_cases J:n<A.zB.length
     ·have N:i<u.length:=by omega
      have H:u[i]? = some u[i]:=Zk N;have W:getO u (i:Int)=some u[i]:=Qy N;have S:=Zq N;have E:=a.est hl _ S;have hwl:=a.wl i _ H;generalize u[i]=t at H W S E hwl;have g:A.zB.take (n+1)=A.zB.take n++[A.zB[n]]:=Zaq J;have c:∀z∈A.zB.take n,z<A.zB[n]:=fun z X=>by
       obtain⟨j,R,rfl⟩:=Zah X;rw[Zbm] at R;rw[List.getElem_take];exact Zbj.1 hl.hA.r.al j n (by omega) J (by omega)
      have C:getO A.zB (n:Int)=some A.zB[n]:=Qy J;generalize A.zB[n]=e at g c C;rw[if_pos (by omega),W,Za,C,Za];obtain⟨nt,b,hst,O⟩:=Qbog h hl E (by omega) e;rw[hst,Za];dsimp only;rw[Qboh (by omega) (fun z X=>a.est hl z X) hge,Za];have L:(u.map trT)[i]? = some (trT t):=Qxj H;cases hs:stpC A B p.Observable (trT t).1 e with
      |none =>
       rw[hs] at O;dsimp only at O;subst O;rw[Bool.false_and,if_neg (by simp),Za];dsimp only;rw[Qw (by omega)];refine F _ ⟨n+1,rfl,by omega,⟨?_,a.wl⟩,M,by dsimp only;omega⟩ (by dsimp only;omega);rw[g];exact a.q.keep L c fun s q=>by rw[hs] at q;cases q
      |some s =>
       rw[hs] at O;dsimp only at O;obtain⟨rfl,I⟩:=O;rw[Zae,I];by_cases w:∀z∈u,(trT z).1≠s
       ·rw[decide_eq_true w,if_pos rfl,Qbb (by grind [List.length_cons,List.length_nil,lim]),Za,Za];dsimp only;rw[Qw (by omega)];refine F _ ⟨n+1,rfl,by omega,⟨?_,fun j y R=>?_⟩,by simp;omega,by simp;omega⟩ (by dsimp only;omega)
        ·rw[g,Zbi,List.map_singleton,I];refine a.q.add L c hs fun z X=>?_
         grind
        ·rcases Qxf R with R|⟨rfl,rfl⟩
         ·exact a.wl j y R
         ·have:y.word_=t.word_++[e]:=congrArg Prod.snd I
          grind
       ·rw[decide_eq_false w,if_neg (by simp),Za];dsimp only;rw[Qw (by omega)];refine F _ ⟨n+1,rfl,by omega,⟨?_,a.wl⟩,M,by dsimp only;omega⟩ (by dsimp only;omega);rw[g];refine a.q.keep L c fun s' q=>?_
        grind
     grind
    ·rintro v ⟨hQ',hle⟩;by_cases h6:(v.length:Int)>600
     ·simp_all
     ·rw[if_neg h6,Qw (by omega)];exact ih _ ⟨i+1,rfl,by dsimp only;omega,⟨hQ'.q.next,hQ'.wl⟩,by dsimp only;omega⟩ (by dsimp only;omega)
   ·rw[if_neg (by omega)]
    grind
  grind
end
end Go.Abs
end
section
namespace Go.Abs
open Go
theorem Q27{α:Type}{x o:List α}{e:α}:x++[e] <+: o↔x <+: o/\o[x.length]? = some e:=by
 constructor
 ·rintro⟨t,rfl⟩
  grind
 ·rintro⟨⟨t,rfl⟩,h⟩;rw[Zax (Ze _),Nat.sub_self] at h;cases t with
  |nil=>cases h
  |cons f t =>
   simp_all
abbrev Sp:=Int×Int
def Q5t(ob o:List Int)(d e:Int):Option Int:=if e∈ob then (if o[d.toNat]? = some e then some (d+1) else none) else some d
def stp2(a:Qa)(ob o:List Int)(s:Sp)(e:Int):Option Sp:=if 0<=Q3 a s.1 e then (Q5t ob o s.2 e).map fun d=>(Q3 a s.1 e,d) else none
theorem Q4t{a:Qa}{ob o:List Int}{s:Sp}{e:Int}(b:Q5t ob o s.2 e=none):stp2 a ob o s e=none:=by
 grind [stp2]
section
variable{a:Qa}(h:Right a){ob o:List Int}
include h
theorem Qbcr:∀s e t,stp2 a ob o s e=some t->e∈a.zB:=by
 grind [stp2,Qbv]
theorem Q5u:∀(n:Nat)(u:List Int),u.length=n->∀s:Sp,dl (stp2 a ob o) (0,0) u=some s↔s=(runE a 0 u,((obsW ob u).length:Int))/\0<=runE a 0 u/\obsW ob u <+: o
 |0,u,g,s=>by
  have:u=[]:=Zao g;subst this;simp only[dl,Zh,runE,obsW,List.filter_nil,Zar]
  grind
 |n+1,u,g,s=>by
  have f:u≠[]:=by intro q;rw[q] at g;simp at g
  obtain⟨w,e,rfl⟩ : ∃w e,u=w++[e]:=⟨u.dropLast,u.getLast f,(Zce f).symm⟩;have l:=Q5u n w (by simpa using g);rw[Qbcp];have r:runE a 0 (w++[e])=Q3 a (runE a 0 w) e:=by rw[Qiu];rfl
  rw[r,Q00,Q4p];have d:0<=Q3 a (runE a 0 w) e->0<=runE a 0 w:=fun q=>by
   rcases Qbv h (runE a 0 w) e with b|b
   ·omega
   ·exact b.2.2.1
  cases hd:dl (stp2 a ob o) (0,0) w with
  |none =>
   rw[Option.bind_none];constructor
   ·intro q;cases q
   ·rintro⟨_,p,b⟩;have m:obsW ob w <+: o:=by
     by_cases c:e∈ob
     ·rw[if_pos c] at b;exact (Q27.1 b).1
     ·rw[if_neg c,Zas] at b;exact b
    have:=(l (runE a 0 w,((obsW ob w).length:Int))).2 ⟨rfl,d p,m⟩;rw[hd] at this;cases this
  |some t =>
   obtain⟨rfl,v,k⟩:=(l t).1 hd;rw[Za];unfold stp2 Q5t;dsimp only;by_cases i:0<=Q3 a (runE a 0 w) e
   ·rw[if_pos i];by_cases c:e∈ob
    ·rw[if_pos c,if_pos c,Zay];by_cases j:o[(obsW ob w).length]? = some e
     ·rw[if_pos j,Zad];constructor
      ·intro q;refine⟨?_,i,Q27.2 ⟨k,j⟩⟩;rw[<-Zbe q];simp
      ·rintro⟨rfl,_⟩;simp
     ·rw[if_neg j,Option.map_none];constructor
      ·intro q;cases q
      ·rintro⟨_,_,q⟩;exact absurd (Q27.1 q).2 j
    ·rw[if_neg c,if_neg c,Zad,Zas];constructor
     ·intro q;exact⟨(Zbe q).symm,i,k⟩
     ·rintro⟨rfl,_⟩;rfl
   ·rw[if_neg i];constructor
    ·intro q;cases q
    ·rintro⟨_,q,_⟩;exact absurd q i
end
def trN(t:Qbl):Sp×List Int:=((t.state_,t.done_),t.word_)
def Qbmw(a:Qa)(o:List Int):List Sp:=(upto a.zF).flatMap fun s=>(upto (o.length+1)).map fun d=>(s,d)
theorem Qbmx(a:Qa)(o:List Int):(Qbmw a o).length=a.zF.toNat*(o.length+1):=by
 unfold Qbmw;rw[List.length_flatMap];have:((upto a.zF).map fun s=>((upto ((o.length:Int)+1)).map fun d=>(s,d)).length)=List.replicate a.zF.toNat (o.length+1):=by
  refine List.ext_getElem (by simp[Qky]) fun n c b=>?_;simp[Qky]
 rw[this];simp
theorem Qbmy{a:Qa}{o:List Int}{s d:Int}(c:0<=s/\s<a.zF)(b:0<=d/\d<=o.length):(s,d)∈Qbmw a o:=by
 unfold Qbmw;exact List.mem_flatMap.2 ⟨s,Qpj.2 c,Zl.2 ⟨d,Qpj.2 ⟨b.1,by omega⟩,rfl⟩⟩
section
variable{a:Qa}(h:Right a){ob o:List Int}
include h
theorem Qbpf(e:0<a.zF){i:Nat}{done:List Int}{L:List (Sp×List Int)}(b:BQ (stp2 a ob o) a.zB (0,0) i done L):L.length<=a.zF.toNat*(o.length+1):=by
 have:=Qt8 b.nodup (m:=Qbmw a o) fun x d=>by
  obtain⟨z,c,rfl⟩:=Zl.1 d;have f:=(Q5u h _ _ rfl _).1 (b.run z c);have hr:=Qro h z.2 0 (Zba _) e
  grind [Qbmy]
 rwa [Zt,Qbmx] at this
structure LfQ(a:Qa)(ob o:List Int)(i:Nat)(done:List Int)(l:List Qbl):Prop where
 q:BQ (stp2 a ob o) a.zB (0,0) i done (l.map trN)
 wl:∀(j:Nat)y,l[j]? = some y->y.word_.length<=j
omit h in
theorem Qbqy{l:List Qbl}{s d:Int}{b:Bool}(B:l.length<1000000000){fuel:Nat}(C:1099511627776<=fuel):
  Qbq (fun v((c,f):Bool×Int)=>(if (f<(l.length:Int)) then (((if c then some true else ((getO l f).bind fun i=>(if (i.state_==s) then ((getO l f).bind fun g=>some (g.done_==d)) else some false)))).bind fun(e:Bool)=>v (e,(IntKind.wrap .i64 (f+1)))) else some c)) fuel (b,0)=some (b||l.any fun z=>decide ((trN z).1=(s,d))):=by
 refine Qbh (fun x:Bool×Int=>∃n:Nat,x.2=(n:Int)/\n<=l.length/\x.1=(b||(l.take n).any fun z=>decide ((trN z).1=(s,d)))) (fun x=>l.length-x.2.toNat) (fun _ r=>r=some (b||l.any fun z=>decide ((trN z).1=(s,d)))) (fun k x q A=>?_) fuel (b,0) ⟨0,rfl,by omega,by simp⟩ (by dsimp only;omega);obtain⟨w,x⟩:=x;obtain⟨n,q,F,t⟩:=q;dsimp only at q t;subst q;dsimp only;by_cases p:n<l.length
 ·have m:l.take (n+1)=l.take n++[l[n]]:=Zaq p;have y:getO l (n:Int)=some l[n]:=Qy p;generalize l[n]=z at m y;have j:(if w=true then some true else ((getO l (n:Int)).bind fun i=>(if (i.state_==s) then ((getO l (n:Int)).bind fun g=>some (g.done_==d)) else some false)))=some (b||(l.take (n+1)).any fun z=>decide ((trN z).1=(s,d))):=by
   have e2:(b||(l.take (n+1)).any fun z=>decide ((trN z).1=(s,d)))=(w||decide ((trN z).1=(s,d))):=by
    rw[t,Bool.or_assoc,m,List.any_append];simp
   rw[e2];cases w with
   |true=>rfl
   |false =>
    rw[if_neg (by simp),y,Za,Za,Bool.false_or];unfold trN;dsimp only;by_cases u:z.state_=s
    ·rw[if_pos (by simp[u])];congr 1;by_cases E:z.done_=d<;>simp[u,E]
    ·rw[if_neg (by simp[u])];simp[u]
  rw[if_pos (by omega),j,Za,Qw (by omega)];exact A _ ⟨n+1,rfl,by omega,rfl⟩ (by dsimp only;omega)
 ·rw[if_neg (by omega)];have:n=l.length:=by omega
  subst this;rw[Zaz] at t;rw[t]
def Qyq(a:Qa)(ob o:List Int)(v:List Int):Prop:=0<a.zF/\obsW ob v=o/\0<=runE a 0 v/\runE a 0 v∈a.zC
theorem Qboi(hob:ob.length<big)(ho:o.length<=1000):∃u b,Qhg a ob o true=some (u,b)/\(b=true->Qyq a ob o u/\∀v,Qyq a ob o v->sle u v)/\(b=false->∀v,¬Qyq a ob o v):=by
 unfold Qhg Qd9;obtain⟨fuel,hfu,hge⟩ : ∃f,Q2=f/\1099511627776<=f:=⟨_,rfl,Ze _⟩;have hst:=h.st;have N:=h.small;rw[hfu];by_cases h0:a.zF>0
 ·rw[if_pos h0,Qbb (by grind [List.length_cons,List.length_nil,lim]),Za,Za];have hmul:a.zF.toNat*(o.length+1)<=4096*1001:=Nat.mul_le_mul (by omega) (by omega);have R:∀{i:Nat}{done:List Int}{l:List Qbl},LfQ a ob o i done l->l.length<=4100096:=fun hq=>by
   have:=Qbpf h h0 hq.q
   grind
  refine Qbh (fun x:List Qbl×Int=>∃i:Nat,x.2=(i:Int)/\i<=x.1.length/\LfQ a ob o i [] x.1/\∀(j:Nat)y,j<i->x.1[j]? = some y->¬(y.done_=o.length/\y.state_∈a.zC)) (fun x=>4100097-x.2.toNat) (fun _ r=>∃u b,r=some (u,b)/\(b=true->Qyq a ob o u/\∀v,Qyq a ob o v->sle u v)/\(b=false->∀v,¬Qyq a ob o v)) (fun k x M ih=>?_) fuel _ ⟨0,rfl,by simp,⟨BQ.start,fun j y E=>?_⟩,fun j y E=>by omega⟩ (by dsimp only;omega)
  ·obtain⟨l,x⟩:=x;obtain⟨i,M,hi,hQ,O⟩:=M;dsimp only at M hi hQ O;subst M;dsimp only;have hll:=R hQ;have goal:∀v,Qyq a ob o v->∃s,dl (stp2 a ob o) (0,0) v=some s/\(s.2=o.length/\s.1∈a.zC):=fun v C=>by
    refine⟨(runE a 0 v,((obsW ob v).length:Int)),(Q5u h _ _ rfl _).2 ⟨rfl,C.2.2.1,by rw[C.2.1];exact Zbl _⟩,by dsimp only;rw[C.2.1],C.2.2.2⟩
   by_cases X:i<l.length
   ·have L:l[i]? = some l[i]:=Zk X;have hgo:getO l (i:Int)=some l[i]:=Qy X;have hxm:=Zq X;have hwl:=hQ.wl i _ L;generalize hti:l[i]=t at L hgo hxm hwl;have hmx:(l.map trN)[i]? = some (trN t):=Qxj L;have g:=(Q5u h _ _ rfl _).1 (hQ.q.run (trN t) (Zm hmx));have hpl:=g.2.2.length_le;have e1:t.state_=runE a 0 t.word_:=congrArg Prod.fst g.1;have e2:t.done_=((obsW ob t.word_).length:Int):=congrArg Prod.snd g.1;have hcond:((getO l (i:Int)).bind fun x13=>(if (x13.done_==(o.length:Int)) then (if true=true then ((getO l (i:Int)).bind fun x17=>((Qd3 a.zC x17.state_).bind fun x20=>some x20)) else some true) else some false))=some (decide (t.done_=o.length/\t.state_∈a.zC)):=by
     rw[hgo,Za];by_cases q:t.done_=o.length
     ·rw[if_pos (by simp[q]),if_pos rfl,Za,Q0l N.1.2.1,Za]
      grind
     grind
    rw[if_pos (by omega),hcond,Za];by_cases hg:t.done_=o.length/\t.state_∈a.zC
    ·rw[decide_eq_true hg,if_pos rfl,hgo,Za];refine⟨_,_,rfl,fun _=>⟨⟨h0,?_,by rw[<-e1];have:=g.2.1;rw[e1];exact this,by rw[<-e1];exact hg.2⟩,fun v C=>?_⟩,fun q=>by cases q⟩
     ·obtain⟨r,hr⟩:=g.2.2;have hl2:(obsW ob t.word_).length=o.length:=by have:=hg.1;omega
      have:r=[]:=by
       have:=congrArg List.length hr;rw[Zy] at this;unfold trN at this
       simp_all
      rw[this,Zas] at hr;exact hr
     ·obtain⟨s,U,p⟩:=goal v C;exact hQ.q.least (Qbcr h) (P:=fun s=>s.2=o.length/\s.1∈a.zC) (fun j y E hy=>by
       obtain⟨y',J,rfl⟩:=Q69 hy;exact O j y' E J) hmx U p
    ·rw[decide_eq_false hg,if_neg (by simp)];refine Qbh (fun x:List Qbl×Int=>∃n:Nat,x.2=(n:Int)/\n<=a.zB.length/\LfQ a ob o i (a.zB.take n) x.1/\l <+: x.1) (fun x=>a.zB.length-x.2.toNat) (fun _ r=>∃u b,r=some (u,b)/\(b=true->Qyq a ob o u/\∀v,Qyq a ob o v->sle u v)/\(b=false->∀v,¬Qyq a ob o v)) (fun k2 x M ih2=>?_) fuel _ ⟨0,rfl,by omega,by simpa using hQ,Zbl _⟩ (by grind);obtain⟨A,x⟩:=x;obtain⟨n,M,hn,c,w⟩:=M;dsimp only at M c w;subst M;dsimp only;have hl2:=R c;by_cases W:n<a.zB.length
     ·have hx3:A[i]? = some t:=Qgh w L;have hi2:=(Zn.1 hx3).1;have hgo2:getO A (i:Int)=some t:=by grind [Qy,List.getElem?_eq_getElem]
      have Q:(A.map trN)[i]? = some (trN t):=Qxj hx3;have T:a.zB.take (n+1)=a.zB.take n++[a.zB[n]]:=Zaq W;have B:∀z∈a.zB.take n,z<a.zB[n]:=fun z hz=>by
       obtain⟨j,E,rfl⟩:=Zah hz;rw[Zbm] at E;rw[List.getElem_take];exact Zbj.1 h.al j n (by omega) W (by omega)
      have S:getO a.zB (n:Int)=some a.zB[n]:=Qy W;generalize a.zB[n]=e at T B S;unfold letJ;rw[if_pos (by omega),S,Za,hgo2,Za,Qkc N.1,Za,Za,Q0l hob];dsimp only;rw[Za];have skip:(∀s,stp2 a ob o (trN t).1 e=some s->∃z∈A,(trN z).1=s)->∃u b,k2 (A,IntKind.wrap .i64 ((n:Int)+1))=some (u,b)/\(b=true->Qyq a ob o u/\∀v,Qyq a ob o v->sle u v)/\(b=false->∀v,¬Qyq a ob o v):=fun hk=>by
       rw[Qw (by have:=N.2.1;omega)];refine ih2 _ ⟨n+1,rfl,by omega,⟨?_,c.wl⟩,w⟩ (by dsimp only;omega);rw[T];refine c.q.keep Q B fun s hs=>?_
       grind
      have hd0:0<=t.done_:=by rw[e2];omega
      have go:∀d:Int,Q5t ob o t.done_ e=some d->∃u b,(((Qbq (fun k48((m,I):Bool×Int)=>(if (I<(A.length:Int)) then (((if m then some true else ((getO A I).bind fun x51=>(if (x51.state_==Q3 a t.state_ e) then ((getO A I).bind fun x54=>some (x54.done_==d)) else some false)))).bind fun(H:Bool)=>k48 (H,(IntKind.wrap .i64 (I+1)))) else some m)) fuel (decide (Q3 a t.state_ e<0),0)).bind fun(F:Bool)=>(if F then some (A,Q3 a t.state_ e,d,[]) else ((some t).bind fun x59=>((appO [] x59.word_).bind fun x61=>((appO x61 [e]).bind fun x63=>((appO A [(Qbl.mk (Q3 a t.state_ e) d x63)]).bind fun x65=>some (x65,Q3 a t.state_ e,d,x63))))))).bind fun((l68,next69,next70,next71):(List Qbl)×Int×Int×(List Int))=>k2 (l68,(IntKind.wrap .i64 ((n:Int)+1))))=some (u,b)/\(b=true->Qyq a ob o u/\∀v,Qyq a ob o v->sle u v)/\(b=false->∀v,¬Qyq a ob o v):=fun d hd=>by
       rw[Qbqy (by omega) hge,Za];have p:stp2 a ob o (trN t).1 e=if 0<=Q3 a t.state_ e then some (Q3 a t.state_ e,d) else none:=by
        grind [stp2,trN]
       by_cases hneg:Q3 a t.state_ e<0
       ·grind
       ·rw[decide_eq_false hneg,Bool.false_or];rw[if_pos (by omega)] at p;by_cases hex:(A.any fun z=>decide ((trN z).1=(Q3 a t.state_ e,d)))=true
        ·grind
        ·rw[if_neg hex,Za,Qbb (by simp only[Zar];unfold lim;omega),Za,Zbo,Qbb (by grind [List.length_cons,List.length_nil,lim]),Za,Qbb (by grind [List.length_cons,List.length_nil,lim]),Za,Za];dsimp only;rw[Qw (by have:=N.2.1;omega)];refine ih2 _ ⟨n+1,rfl,by omega,⟨?_,fun j y E=>?_⟩,List.IsPrefix.trans w (Zbt _ _)⟩ (by dsimp only;omega)
         ·rw[T,Zbi,List.map_singleton];refine c.q.add Q B p fun z hz=>?_
          grind
         ·rcases Qxf E with E|⟨rfl,rfl⟩
          ·exact c.wl j y E
          grind
      by_cases hm:e∈ob
      ·rw[decide_eq_true hm,if_pos rfl];by_cases hdl:t.done_=o.length
       ·rw[if_pos (by simp[hdl]),Za,if_pos rfl,Za];refine skip fun s hs=>?_;rw[Q4t (by unfold Q5t trN;grind)] at hs;cases hs
       ·rw[if_neg (by simp[hdl])];have hlt3:t.done_.toNat<o.length:=by
         have:(obsW ob t.word_).length<=o.length:=hpl;omega
        obtain⟨dn,hdn⟩ : ∃dn:Nat,t.done_=(dn:Int):=⟨t.done_.toNat,by omega⟩;rw[hdn,Qy (by omega:dn<o.length),Za,Za];by_cases he:o[dn]'(by omega)=e
        ·rw[if_neg (by simp[he]),Qw (by omega)];refine go _ ?_;unfold Q5t
         grind
        ·rw[if_pos (by simp[he]),Za];refine skip fun s hs=>?_;rw[Q4t (by unfold Q5t trN;grind)] at hs;cases hs
      ·rw[decide_eq_false hm,if_neg (by simp)];refine go _ ?_;unfold Q5t;rw[if_neg hm]
     ·rw[if_neg (by omega)];have:n=a.zB.length:=by omega
      subst this;rw[Zaz] at c;have hle:=w.length_le;rw[Qw (by omega)];refine ih _ ⟨i+1,rfl,by dsimp only;omega,⟨c.q.next,c.wl⟩,fun j y E hy=>?_⟩ (by dsimp only;omega);dsimp only at hy;by_cases hji:j<i
      ·refine O j y hji ?_;obtain⟨r,rfl⟩:=w
       grind
      grind [Qgh]
   ·rw[if_neg (by omega)];have:i=l.length:=by omega
    subst this;refine⟨[],false,rfl,fun q=>(by cases q),fun _ v C=>?_⟩;obtain⟨s,U,p⟩:=goal v C;have hQ':=hQ.q;rw[<-Zt (f:=trN)] at hQ';refine hQ'.none (Qbcr h) (P:=fun s=>s.2=o.length/\s.1∈a.zC) (fun j y hy=>?_) U p;obtain⟨y',J,rfl⟩:=Q69 hy;exact O j y' ((Zn.1 J).1) J
  grind
 ·rw[if_neg h0,Za];obtain⟨f,rfl⟩ : ∃f,fuel=f+1:=⟨fuel-1,by omega⟩;refine⟨[],false,by simp[Qbq],fun q=>(by cases q),fun _ v C=>absurd C.1 h0⟩
end
end Go.Abs
end
section
namespace Go.Abs
open Go
def Qbjj(p:Qg)(B:Qa)(v:List Int)(e:Int)(u:List Int):Prop:=obsW p.Observable u=obsW p.Observable v/\LgA B (u++[e])
structure LeastW(p:Qg)(A B:Qa)(w:Q4):Prop where
 run:0<=runE A 0 w.Other
 ref:RefW p B w.Other w.Event
 lst:∀v e,0<=runE A 0 v->RefW p B v e->sle w.Other v
 ev:∀e,RefW p B w.Other e->w.Event<=e
 goal:Qbjj p B w.Other w.Event w.Word
 wl:∀u,Qbjj p B w.Other w.Event u->sle w.Word u
theorem LeastW.eq{p:Qg}{A B:Qa}{w w' : Q4}(h:LeastW p A B w)(d : LeastW p A B w'):w=w':=by
 have e:w.Other=w'.Other:=Qbie (h.lst _ _ d.run d.ref) (d.lst _ _ h.run h.ref);have e2:w.Event=w'.Event:=by
  have g:=h.ev w'.Event (by rw[e];exact d.ref);have f:=d.ev w.Event (by rw[<-e];exact h.ref);omega
 have e3:w.Word=w'.Word:=Qbie (h.wl _ (by rw[e,e2];exact d.goal)) (d.wl _ (by rw[<-e,<-e2];exact h.goal));obtain⟨a,b,c⟩:=w
 simp_all
theorem Qbmz{F:(Int->Option Bool)->Int->Option Bool}{l:List Int}(q:Int->Bool)(hl:l.length<1000000000){fuel:Nat}(b:1099511627776<=fuel)(step:∀(k:Int->Option Bool)(n:Nat)(h:n<l.length),F k (n:Int)=if q l[n] then some true else k (IntKind.wrap .i64 ((n:Int)+1)))(a:∀(k:Int->Option Bool),F k (l.length:Int)=some false):Qbq F fuel 0=some (l.any q):=by
 refine (Qle (len:=l.length) (fun n=>some ((l.drop n).any q)) (by omega) (fun k n d c=>?_) (fun k=>?_)).trans (by simp)
 all_goals grind [Go.step,Qw,List.drop_eq_getElem_cons]
section
variable{p:Qg}(h:ProbW p){A B m:Qa}{T U:List (List Int)}(hl:Q9c p A B m T U)
include h hl
theorem Qbgj{t:Qm}(hc:0<=t.c_/\t.c_<T.length)(u:t.estimate_.length<1000000000)(e:Int):
  ∃b,Qfa ⟨p,A,B,T.map fun t=>ati t 0⟩ t e=some b/\(b=true↔RefC p T B (trT t).1 e):=by
 unfold Qfa Qb9;obtain⟨fuel,i,g⟩ : ∃f,Q2=f/\1099511627776<=f:=⟨_,rfl,Ze _⟩;rw[i];dsimp only;have j:=h.ce.len;obtain⟨c,w⟩ : ∃c:Nat,t.c_=(c:Int):=⟨t.c_.toNat,by omega⟩;have v:c<T.length:=by omega
 have s:getO (T.map fun t=>ati t 0) t.c_=some (ati (T.getD t.c_.toNat []) 0):=by
  grind [Qy]
 have a:(if t.k_>=0 then (Q8 B t.k_ e).bind fun d=>some (decide (d>=0)) else some false)=some (decide (0<=Q3 B t.k_ e)):=by
  by_cases a:t.k_>=0
  ·rw[if_pos a,Qkc hl.hB.r.small.1,Za]
  ·rw[if_neg a];rcases Qbv hl.hB.r t.k_ e with q|q
   all_goals simp_all
 rw[Qbhx (by unfold big;omega),Za,a];unfold RefC trT;dsimp only;by_cases C:e∈p.Controllable
 ·rw[decide_eq_true C,if_pos rfl,s,Za,Qkc h.pr.small.1,Za];by_cases z:Q3 p.Plant (ati (T.getD t.c_.toNat []) 0) e<0
  ·grind
  ·rw[if_neg z,Za];by_cases y:0<=Q3 B t.k_ e
   ·grind
   ·rw[decide_eq_false y,if_neg (by simp)];refine⟨_,Qbmz (l:=t.estimate_) (fun x=>decide (Q3 B x e>=0)) u g (fun k n o=>?_) (fun k=>?_),?_⟩
    ·rw[if_pos (by omega),Qy o,Za,Qkc hl.hB.r.small.1,Za]
     grind
    all_goals grind
 grind
theorem Qboj{v:List Int}{e:Int}(hv:v.length<=1000)(hr:RefW p B v e):∃ms u b,
  Qbq (fun y((c,l,j,d):Int×(List Int)×(List Int)×(List Int))=>(if (c<B.zF) then ((((Q8 (Qa.mk B.zB B.zF d B.zD) c e).bind fun t=>(if (t>=0) then ((appO d [c]).bind fun n=>some n) else some d))).bind fun(w:List Int)=>y ((IntKind.wrap .i64 (c+1)),l,j,w)) else some (l,j,d))) Q2 (0,[],[],[])=some ([],[],ms) /\
  Qhg (Qa.mk B.zB B.zF ms B.zD) p.Observable (obsW p.Observable v) true=some (u,b)/\Qbjj p B v e u/\∀g,Qbjj p B v e g->sle u g:=by
 have Q:=hl.hB.r.st;have hB:=hl.hB.r;have S:=h.oe.len;have C:∃ms,Qbq (fun y((c,l,j,d):Int×(List Int)×(List Int)×(List Int))=>(if (c<B.zF) then ((((Q8 (Qa.mk B.zB B.zF d B.zD) c e).bind fun t=>(if (t>=0) then ((appO d [c]).bind fun n=>some n) else some d))).bind fun(w:List Int)=>y ((IntKind.wrap .i64 (c+1)),l,j,w)) else some (l,j,d))) Q2 (0,[],[],[])=some ([],[],ms)/\ms=(upto B.zF).filter fun s=>decide (0<=Q3 B s e):=by
  have L:B.zF=((B.zF.toNat:Nat):Int):=by omega
  refine Qbh (fun x:Int×List Int×List Int×List Int=>∃i:Nat,x=((i:Int),[],[],(upto (i:Int)).filter fun s=>decide (0<=Q3 B s e))/\i<=B.zF.toNat) (fun x=>B.zF.toNat-x.1.toNat) (fun _ r=>∃ms,r=some ([],[],ms)/\ms=(upto B.zF).filter fun s=>decide (0<=Q3 B s e)) (fun k x J I=>?_) Q2 _ ⟨0,rfl,by omega⟩ (by dsimp only;unfold Q2;omega);obtain⟨i,rfl,hi⟩:=J;dsimp only;by_cases X:i<B.zF.toNat
  ·have M:((upto (i:Int)).filter fun s=>decide (0<=Q3 B s e)).length<=i:=by
    grind [List.length_filter_le,Decidable.decide,Q3,upto,Qky]
   have z:Q8 (Qa.mk B.zB B.zF ((upto (i:Int)).filter fun s=>decide (0<=Q3 B s e)) B.zD) (i:Int) e=some (Q3 B (i:Int) e):=
    (Qkc (a:=Qa.mk B.zB B.zF ((upto (i:Int)).filter fun s=>decide (0<=Q3 B s e)) B.zD) ⟨hB.small.1.1,(by grind),hB.small.1.2.2⟩)
   have P:upto ((i+1:Nat):Int)=upto (i:Int)++[(i:Int)]:=by
    simp[upto,Zay,List.range_succ,Zbi]
   rw[if_pos (by omega),z,Za];by_cases q:Q3 B (i:Int) e>=0
   ·rw[if_pos q,Qbb (by grind [List.length_cons,List.length_nil,lim]),Za,Za,Qw (by omega)];refine I _ ⟨i+1,?_,by omega⟩ (by dsimp only;omega)
    grind
   ·rw[if_neg q,Za,Qw (by omega)];refine I _ ⟨i+1,?_,by omega⟩ (by dsimp only;omega)
    grind
  grind
 obtain⟨ms,W,H⟩:=C;have hR:Right ⟨B.zB,B.zF,ms,B.zD⟩:=⟨hB.al0,hB.al,hB.st,fun x J=>by grind [Qpj],by grind [Q82],hB.ed0,hB.ed⟩;have F:∀(u:List Int)(s:Int),runE ⟨B.zB,B.zF,ms,B.zD⟩ s u=runE B s u:=by
  intro u
  induction u with
  |nil=>intro s;rfl
  |cons f u I=>intro s;rw[runE,runE];exact I _
 have R:(obsW p.Observable v).length<=v.length:=Zbk _ _;obtain⟨u,b,g1,g2,g3⟩:=Qboi hR (ob:=p.Observable) (o:=obsW p.Observable v) (by unfold big;omega) (by omega);have E:∀g,Qyq ⟨B.zB,B.zF,ms,B.zD⟩ p.Observable (obsW p.Observable v) g ↔ Qbjj p B v e g:=by
  intro g;unfold Qyq Qbjj;rw[F,H];unfold LgA;rw[Qiu];have e1:runE B (runE B (k0 B) g) [e]=Q3 B (runE B (k0 B) g) e:=rfl
  grind [Q4s,runE,k0,Qbv,Qpj]
 have hb:b=true:=by
  cases b with
  |true=>rfl
  |false =>
   obtain⟨g,O,N⟩:=hr.2.2.2;exact absurd ((E g).2 ⟨O,N⟩) (g3 rfl g)
 grind
def BdC(p:Qg)(A B:Qa):Prop:=∃D:List Cf,D.length<=600/\∀v s,dl (stpC A B p.Observable) (s0C B p.Observable) v=some s->s∈D
theorem Qbjk:∃w c g,Qfb ⟨p,A,B,T.map fun t=>ati t 0⟩=some (w,c,g)/\(g=true->(c=false->w=⟨[],[],0⟩/\(0<A.zF->∀v e,0<=runE A 0 v->¬RefW p B v e))/\(c=true->LeastW p A B w/\0<A.zF)/\(0<A.zF->BdC p A B)):=by
 unfold Qfb Qca;obtain⟨fuel,L,hge⟩ : ∃f,Q2=f/\1099511627776<=f:=⟨_,rfl,Ze _⟩;obtain⟨l,H,ht,hf1,hf2⟩:=Qbji h hl;have hoe:=h.oe.len;have hpal:=h.pe.len;rw[ht,Za];dsimp only;have hfu2:=L;by_cases E:H=true/\0<A.zF
 ·obtain⟨rfl,o⟩:=E;obtain⟨X,hl6⟩:=(hf1 rfl).2 o;have hbd:0<A.zF->BdC p A B:=fun _=>⟨(l.map trT).map (·.1),by simpa using hl6,fun v s hv=>by
   have hQc:BQ (stpC A B p.Observable) A.zB (s0C B p.Observable) l.length [] (l.map trT):=X.q;rcases hQc.cover (Q9h hl.hA.r) _ v s rfl hv with⟨k',z,W,c2,_⟩|⟨z,W,_⟩
   all_goals grind⟩
  have M:∀t∈l,dl (stpC A B p.Observable) (s0C B p.Observable) t.word_=some (trT t).1/\(0<=t.c_/\t.c_<T.length)/\0<=runE A 0 t.word_:=fun t Q=>by
   have h1:=X.q.run (trT t) (Zl.2 ⟨t,Q,rfl⟩);have h2:=h1;rw[Qs9 hl.hA.r _ _ _ rfl] at h2;split at h2
   ·rename_i h3;have h4:t.c_=runE A 0 t.word_:=(congrArg (fun x:Cf=>x.1) (Zbe h2)).symm;have h5:=Qro hl.hA.r t.word_ 0 (Zba _) o;have h6:=hl.hA.st;have h7:(trT t).2=t.word_:=rfl
    grind
   ·cases h2
  have C:∀t∈l,∀e,RefC p T B (trT t).1 e↔RefW p B t.word_ e:=fun t Q e=>Q5s h hl hl.hB.r (fun _=>Zj) o (M t Q).1 e;have plantEv:∀v e,RefW p B v e->e∈p.Plant.zB:=fun v e hr=>Qbcq h.pr (v++[e]) 0 hr.2.1 e (by simp);rw[L];refine Qbh (fun x:Int=>∃i:Nat,x=(i:Int)/\i<=l.length/\∀(j:Nat)t,j<i->l[j]? = some t->∀e,¬RefW p B t.word_ e) (fun x=>l.length-x.toNat) (fun _ r=>∃w c g,r=some (w,c,g)/\(g=true->(c=false->w=⟨[],[],0⟩/\(0<A.zF->∀v e,0<=runE A 0 v->¬RefW p B v e))/\(c=true->LeastW p A B w/\0<A.zF)/\(0<A.zF->BdC p A B))) (fun k x hx ih=>?_) fuel 0 ⟨0,rfl,by omega,fun j t hj=>by omega⟩ (by omega);obtain⟨i,rfl,hi,hno⟩:=hx;by_cases S:i<l.length
  ·have J:l[i]? = some l[i]:=Zk S;have hgo:getO l (i:Int)=some l[i]:=Qy S;have I:=Zq S;have O:=X.est hl _ I;have hwl:=X.wl i _ J;generalize l[i]=t at J hgo I O hwl;obtain⟨n1,n2,n3⟩:=M t I;rw[if_pos (by omega)];refine Qbh (fun x:Int=>∃n:Nat,x=(n:Int)/\n<=p.Plant.zB.length/\∀e∈p.Plant.zB.take n,¬RefW p B t.word_ e) (fun x=>p.Plant.zB.length-x.toNat) (fun _ r=>∃w c g,r=some (w,c,g)/\(g=true->(c=false->w=⟨[],[],0⟩/\(0<A.zF->∀v e,0<=runE A 0 v->¬RefW p B v e))/\(c=true->LeastW p A B w/\0<A.zF)/\(0<A.zF->BdC p A B))) (fun k2 x hx ih2=>?_) fuel 0 ⟨0,rfl,by omega,by simp⟩ (by omega);obtain⟨n,rfl,hn,hne⟩:=hx;by_cases R:n<p.Plant.zB.length
   ·have htk:p.Plant.zB.take (n+1)=p.Plant.zB.take n++[p.Plant.zB[n]]:=Zaq R;have N:getO p.Plant.zB (n:Int)=some p.Plant.zB[n]:=Qy R;have hord:∀y∈p.Plant.zB,y<p.Plant.zB[n]->y∈p.Plant.zB.take n:=fun y hy hlt2=>by
     obtain⟨j,hj,rfl⟩:=Zah hy;have hjn:j<n:=by
      refine Zcc fun q=>?_;by_cases e1:j=n
      ·subst e1;omega
      ·have:=Zbj.1 h.pr.al n j R hj (by omega);omega
     exact List.mem_take_iff_getElem.2 ⟨j,by omega,rfl⟩
    generalize p.Plant.zB[n]=e at htk N hord;obtain⟨b,hb1,hb2⟩:=Qbgj h hl n2 (by unfold big at O;have:=(Q0n (a:=B) (ob:=p.Observable) (obsW p.Observable t.word_)).len;have h8:=n1;rw[Qs9 hl.hA.r _ _ _ rfl,if_pos n3] at h8;have h9:t.estimate_=estP B p.Observable (obsW p.Observable t.word_):=(congrArg (fun x:Cf=>x.2.2) (Zbe h8)).symm;have:=hl.hB.r.st;rw[h9];omega) e;rw[if_pos (by omega),N,Za,hgo,Za,hb1,Za];rw[C t I e] at hb2;cases b with
    |false =>
     rw[if_neg (by simp),Qw (by omega)];refine ih2 _ ⟨n+1,rfl,by omega,fun y hy=>?_⟩ (by omega)
     grind
    |true =>
     have hr:=hb2.1 rfl;obtain⟨ms,u,b2,w1,w2,w3,w4⟩:=Qboj h hl (v:=t.word_) (e:=e) (by omega) hr;rw[if_pos rfl];rw[L] at w1;rw[w1,Za];dsimp only;rw[Za,Qbje (by unfold big;omega) (by unfold big;omega),Za,w2,Za];dsimp only;rw[Za];refine⟨_,_,_,rfl,fun _=>⟨fun q=>(by cases q),fun _=>⟨⟨n3,hr,fun v e' hv hr'=>?_,fun e' hr'=>?_,w3,w4⟩,o⟩,hbd⟩⟩
     ·have hmx:(l.map trT)[i]? = some (trT t):=Qxj J;have F:dl (stpC A B p.Observable) (s0C B p.Observable) v=some (runE A 0 v,runE B (k0 B) v,estP B p.Observable (obsW p.Observable v)):=by
       rw[Qs9 hl.hA.r _ _ _ rfl,if_pos hv]
      have hQi:BQ (stpC A B p.Observable) A.zB (s0C B p.Observable) l.length [] (l.map trT):=X.q;rcases hQi.cover (Q9h hl.hA.r) _ v _ rfl F with⟨k',z,W,c2,c3⟩|⟨z,W,_⟩
      ·obtain⟨P,d,rfl⟩:=Q69 W;have hr2:RefW p B P.word_ e':=(C P (Zm d) e').1 (by
        rw[c2];exact (Q5s h hl hl.hB.r (fun _=>Zj) o F e').2 hr')
       have hki:¬k'<i:=fun q=>hno k' P q d e' hr2;refine Q4m ?_ c3;by_cases e1:k'=i
       ·subst e1;rw[J] at d;cases d;exact .inl rfl
       ·exact .inr (hQi.srt i k' _ _ (by omega) hmx (Qxj d))
      grind
     grind
   ·rw[if_neg (by omega),Qw (by omega)];refine ih _ ⟨i+1,rfl,by omega,fun j P hj d e hr=>?_⟩ (by omega)
    grind
  ·rw[if_neg (by omega)];have:i=l.length:=by omega
   subst this;refine⟨_,_,_,rfl,fun _=>⟨fun _=>⟨rfl,fun _ v e hv hr=>?_⟩,fun q=>(by cases q),hbd⟩⟩;have F:dl (stpC A B p.Observable) (s0C B p.Observable) v=some (runE A 0 v,runE B (k0 B) v,estP B p.Observable (obsW p.Observable v)):=by
    rw[Qs9 hl.hA.r _ _ _ rfl,if_pos hv]
   rcases X.q.cover (Q9h hl.hA.r) _ v _ rfl F with⟨k',z,W,c2,c3⟩|⟨z,W,_⟩
   ·obtain⟨P,d,rfl⟩:=Q69 W;exact hno k' P ((Zn.1 d).1) d e ((C P (Zm d) e).1 (by
     rw[c2];exact (Q5s h hl hl.hB.r (fun _=>Zj) o F e).2 hr))
   grind
 ·have hle:l=[]:=by
   cases H with
   |false=>exact hf2 rfl
   |true =>
    refine (hf1 rfl).1 ?_;have:=hl.hA.r.st
    grind
  subst hle;rw[L];obtain⟨f,rfl⟩ : ∃f,fuel=f+1:=⟨fuel-1,by omega⟩;refine⟨⟨[],[],0⟩,false,H,by simp[Qbq],fun q=>⟨fun _=>⟨rfl,fun q2=>absurd ⟨q,q2⟩ E⟩,fun q2=>(by cases q2),fun q2=>absurd ⟨q,q2⟩ E⟩⟩
end
end Go.Abs
end
section
namespace Go.Abs
open Go
theorem Qbgk{l:List Int}(h:l.Pairwise (· <= ·)):(Lib.compact l).Pairwise (· < ·):=by
 unfold Lib.compact Lib.compactUpTo;rw[Zbw];refine List.Pairwise.imp_of_mem ?_ (List.pairwise_lt_range.filter _);intro i j r n o;have c:=Zp.1 n;have a:j<l.length:=List.mem_range.1 c.1;have d:=c.2;simp only[Lib.keeps,decide_eq_true_eq] at d;have f:l.toArray[j]! ≠ l.toArray[j-1]!:=d.resolve_left (by omega);have e:∀k,k<l.length->l.toArray[k]! = l[k]!:=fun k d=>by simp[d]
 have b:∀p q,p<=q->q<l.length->l[p]! <= l[q]!:=fun p q m g=>by
  rw[getElem!_pos l p (by omega),getElem!_pos l q g];rcases Zam p q with hlt|hge
  ·grind [List.pairwise_iff_getElem]
  grind
 rw[e i (by omega),e j a];rw[e j a,e (j-1) (by omega)] at f;have t:=b i (j-1) (by omega) (by omega);have s:=b (j-1) j (by omega) a;omega
theorem Qbok{l:List Int}{x:Int}:x∈Lib.compact l↔x∈l:=by
 unfold Lib.compact Lib.compactUpTo;rw[Zl];constructor
 ·grind
 ·intro c;have b:l.idxOf x<l.length:=List.idxOf_lt_length_of_mem c;have a:∀k(h:k<l.length),l.toArray[k]! = l[k]:=fun k h=>by simp[h]
  refine⟨l.idxOf x,Zp.2 ⟨List.mem_range.2 b,?_⟩,by grind⟩;simp only[Lib.keeps,decide_eq_true_eq];by_cases e:l.idxOf x=0
  ·exact .inl e
  ·refine .inr ?_;rw[a _ b,a _ (by omega),List.getElem_idxOf b];intro d;have:=List.not_of_lt_findIdx (p:=(· == x)) (xs:=l) (i:=l.idxOf x-1) (by show _<l.idxOf x;omega);simp[<-d] at this
end Go.Abs
end
section
namespace Go.Abs
open Go
theorem Qbm0{l:List Int}(h:l.Pairwise (· < ·)):Lib.compact l=l:=Q9b (Qbgk (h.imp fun q=>by omega)) h fun x=>Qbok
section
variable{p:Qg}(h:ProbW p){A B m:Qa}{T U:List (List Int)}(hl:Q9c p A B m T U)
include h
theorem Q9i(e:Int):Qc1 (sysP p A m T) e=some (decide (e∈p.Observable)):=by
 unfold Qc1 Qu;show (Qck p.Observable e).bind _=_;rw[Qo7 (by have:=h.oe.len;unfold big;omega)];rfl
include hl
structure StI(m:Qa)(ob fr:List Int)(i:Nat)(done:List Int)(o:List Int):Prop where
 nd:o.Nodup
 rch:∀s∈o,Rch m (Qu2 m ob) fr s
 sub:∀s∈fr,s∈o
 cl:∀(j:Nat)s e,o[j]? = some s->(j<i/\e∈m.zB\/j=i/\e∈done)->e∉ob->0<=Q3 m s e->Q3 m s e∈o
theorem Q9j{fr:List Int}(hf:∀s∈fr,0<=s/\s<m.zF)(hn:fr.Nodup):Qfs (sysP p A m T) fr=some (Qwd m fr (Qu2 m p.Observable)):=by
 unfold Qfs Qbi;obtain⟨fuel,hfu,hge⟩ : ∃f,Q2=f/\1099511627776<=f:=⟨_,rfl,Ze _⟩;have E:=hl.rm;have hst:=E.st;have hal:=h.pe.len;have hev:(sysP p A m T).events_=m.zB:=by rw[hl.am];rfl
 have hlg:(sysP p A m T).language_=edM m:=rfl;rw[<-hl.am] at hal;have u:∀{i:Nat}{done o:List Int},StI m p.Observable fr i done o->o.length<=4096:=fun l=>by
  have:=Qt8 l.nd (m:=upto m.zF) fun s d=>Qpj.2 ((l.rch s d).range E hf);rw[Qky] at this;omega
 have hfl:fr.length<=4096:=by
  have:=Qt8 hn (m:=upto m.zF) fun s d=>Qpj.2 (hf s d);rw[Qky] at this;omega
 rw[hfu,Q0y (by unfold lim;omega),Za,hev,hlg];refine Qu0 (P:=fun o:List Int=>StI m p.Observable fr o.length [] o) (Q:=fun r=>r=some (Qwd m fr (Qu2 m p.Observable))) ?_ ?_
 ·refine Qbh (fun x:List Int×Int=>∃i:Nat,x.2=(i:Int)/\i<=x.1.length/\StI m p.Observable fr i [] x.1) (fun x=>4097-x.2.toNat) (fun _ r=>∃o,r=some o/\StI m p.Observable fr o.length [] o) (fun k x g ih=>?_) fuel (fr,0) ⟨0,rfl,Zv _,hn,fun s d=>.base d,fun s d=>d,fun j s e _ q=>(by grind)⟩ (by dsimp only;omega);obtain⟨o,x⟩:=x;obtain⟨i,g,hi,l⟩:=g;dsimp only at g hi l;subst g;dsimp only;have hol:=u l;by_cases hlt:i<o.length
  ·have N:o[i]? = some o[i]:=Zk hlt;generalize o[i]=s at N;rw[if_pos (by omega)];refine Qu0 (P:=fun o' : List Int=>StI m p.Observable fr i m.zB o'/\o <+: o') (Q:=fun r=>∃o,r=some o/\StI m p.Observable fr o.length [] o) ?_ ?_
   ·refine Qbh (fun x:List Int×Int=>∃n:Nat,x.2=(n:Int)/\n<=m.zB.length/\StI m p.Observable fr i (m.zB.take n) x.1/\o <+: x.1) (fun x=>m.zB.length-x.2.toNat) (fun _ r=>∃o',r=some o'/\StI m p.Observable fr i m.zB o'/\o <+: o') (fun k2 x g L=>?_) fuel _ ⟨0,rfl,by omega,by simpa using l,Zbl _⟩ (by dsimp only;omega);obtain⟨H,x⟩:=x;obtain⟨n,g,hnn,c,hp⟩:=g;dsimp only at g c hp;subst g;dsimp only;have hol2:=u c;by_cases C:n<m.zB.length
    ·have M:H[i]? = some s:=Qgh hp N;have hi2:=(Zn.1 M).1;have S:getO H (i:Int)=some s:=by grind [Qy,List.getElem?_eq_getElem]
     have htk:m.zB.take (n+1)=m.zB.take n++[m.zB[n]]:=Zaq C;have z:getO m.zB (n:Int)=some m.zB[n]:=Qy C;have W:=Zq C;generalize m.zB[n]=e at htk z W;rw[if_pos (by omega),z,Za,S,Za,Qgz E,Za];have skip:(e∉p.Observable->0<=Q3 m s e->Q3 m s e∈H)->∃o',k2 (H,IntKind.wrap .i64 ((n:Int)+1))=some o'/\StI m p.Observable fr i m.zB o'/\o <+: o':=fun hk=>by
      rw[Qw (by omega)];refine L _ ⟨n+1,rfl,by omega,⟨c.nd,c.rch,c.sub,fun j F v q1 q2 J I=>?_⟩,hp⟩ (by dsimp only;omega);by_cases q5:j<i/\v ∈ m.zB\/j=i/\v ∈ m.zB.take n
      ·exact c.cl j F v q1 q5 J I
      grind
     by_cases h0:Q3 m s e>=0
     ·rw[if_pos h0,Q9i h,Za];by_cases O:e∈p.Observable
      ·grind
      ·rw[decide_eq_false O,if_neg (by simp),Qo7 (by unfold big;omega),Za,Za];by_cases R:Q3 m s e∈H
       ·grind
       ·rw[decide_eq_false R,if_pos (by rfl),Qbb (by grind [List.length_cons,List.length_nil,lim]),Za,Za,Qw (by omega)];refine L _ ⟨n+1,rfl,by omega,⟨?_,fun t w=>?_,fun t w=>List.mem_append_left _ (c.sub t w),fun j F v q1 q2 J I=>?_⟩,List.IsPrefix.trans hp (Zbt _ _)⟩ (by dsimp only;omega)
        ·rw[List.nodup_append];refine⟨c.nd,by simp,fun a ha b hb=>?_⟩
         grind
        ·rcases Zr.1 w with w|w
         ·exact c.rch t w
         ·simp only[Zak] at w;subst w;obtain⟨y,hy,e1,e2,e3⟩:=Q4q E (rfl:Q3 m s e=_) h0;rw[<-e3];exact .step (by rw[e1];exact c.rch s (Zm M)) hy (by rw[e2];exact Zp.2 ⟨W,by simpa using O⟩)
        ·have q1' : H[j]? = some F:=by
          grind
         by_cases q5:j<i/\v ∈ m.zB\/j=i/\v ∈ m.zB.take n
         ·exact List.mem_append_left _ (c.cl j F v q1' q5 J I)
         grind
     grind
    grind
   ·rintro o' ⟨hI',hp⟩;have hle:=hp.length_le;rw[Qw (by omega)];refine ih _ ⟨i+1,rfl,by dsimp only;omega,⟨hI'.nd,hI'.rch,hI'.sub,fun j F v q1 q2 J I=>hI'.cl j F v q1 ?_ J I⟩⟩ (by dsimp only;omega)
    grind
  grind
 ·intro o l;have hol:=u l;obtain⟨r1,X⟩:=Qbms l.nd;have hsl:(Qj5 Qhe o).length=o.length:=Qny _ _;rw[show Qbn0 o=some (Qj5 Qhe o) from by unfold Qbn0;rw[if_pos (by unfold lim;omega)],Za,show Q61 (Qj5 Qhe o)=some (Lib.compact (Qj5 Qhe o)) from by unfold Q61;rw[if_pos (by rw[hsl];unfold lim;omega)],Za,Qbm0 r1];congr 1;refine Qbe7 E hf r1 (fun s d=>l.rch s ((X s).1 d)) (fun s d=>(X s).2 (l.sub s d)) fun x g h1 h2=>(X _).2 ?_;obtain⟨j,hj⟩:=List.getElem?_of_mem ((X _).1 h1);have hjl:=(Zn.1 hj).1;obtain⟨e1,e2⟩:=Zp.1 h2;have d:=Q4r E g;have:=l.cl j x.From x.Event hj (.inl ⟨hjl,e1⟩) (by simpa using e2) (by rw[d];exact (E.ed0 x g).2.2.1)
  rwa [d] at this
theorem Qbfb{l:List Int}(n:Sts m l)(e:Int):Qe5 (sysP p A m T) l e=some (Q4o m p.Observable l e):=by
 unfold Qe5 Qcu;obtain⟨fuel,w,J⟩ : ∃f,Q2=f/\1099511627776<=f:=⟨_,rfl,Ze _⟩;have d:=hl.rm;have H:=d.st;have I:=n.len;have v:(sysP p A m T).language_=edM m:=rfl;rw[w,v];refine Qu0 (P:=fun o:List Int=>o.Nodup/\∀t,t∈o↔t∈Q6e m l e) (Q:=fun r=>r=some (Q4o m p.Observable l e)) ?_ ?_
 ·refine Qbh (fun x:List Int×Int=>∃i:Nat,x.2=(i:Int)/\i<=l.length/\x.1.length<=i/\x.1.Nodup/\∀t,t∈x.1↔0<=t/\∃s∈l.take i,Q3 m s e=t) (fun x=>l.length-x.2.toNat) (fun _ r=>∃o:List Int,r=some o/\o.Nodup/\∀t,t∈o↔t∈Q6e m l e) (fun k x c z=>?_) fuel _ ⟨0,rfl,by omega,by simp,by simp,by simp⟩ (by dsimp only;omega);obtain⟨o,x⟩:=x;obtain⟨i,c,N,q,b,a⟩:=c;dsimp only at c q b a;subst c;dsimp only;by_cases g:i<l.length
  ·have j:l.take (i+1)=l.take i++[l[i]]:=Zaq g;have C:getO l (i:Int)=some l[i]:=Qy g;generalize l[i]=s at j C;rw[if_pos (by omega),C,Za,Qgz d,Za];have skip:(0<=Q3 m s e->Q3 m s e∈o)->∃o' : List Int,k (o,IntKind.wrap .i64 ((i:Int)+1))=some o'/\o'.Nodup/\∀t,t∈o' ↔ t∈Q6e m l e:=fun M=>by
    rw[Qw (by omega)];refine z _ ⟨i+1,rfl,by omega,by dsimp only;omega,b,fun t=>?_⟩ (by dsimp only;omega)
    grind
   by_cases L:Q3 m s e>=0
   ·rw[if_pos L,Qo7 (by unfold big;omega),Za,Za];by_cases u:Q3 m s e∈o
    ·grind
    ·rw[decide_eq_false u,if_pos (by rfl),Qbb (by grind [List.length_cons,List.length_nil,lim]),Za,Za,Qw (by omega)];refine z _ ⟨i+1,rfl,by omega,by simp;omega,?_,fun t=>?_⟩ (by dsimp only;omega)
     all_goals grind
   grind
  ·rw[if_neg (by omega)];have:i=l.length:=by omega
   subst this;rw[Zaz] at a;refine⟨o,rfl,b,fun t=>?_⟩;rw[a,Q0m];constructor
   ·grind [Q4q]
   ·rintro⟨x,c,F,E,y⟩;have:=Q4r d c;rw[E,y] at this;exact⟨by rw[<-y];exact (d.ed0 x c).2.2.1,x.From,F,this⟩
 ·rintro o ⟨b,a⟩;rw[Q9j h hl (fun s n=>Qxh d s ((a s).1 n)) b,Za];rw[Q4o,Q6d a]
theorem Qbfc:Qgm (sysP p A m T)=some (Qt9 m p.Observable):=by
 unfold Qgm Qcs Qt9;have b:=hl.rm.st;have c:(sysP p A m T).start_.language_=if m.zF==0 then -1 else 0:=rfl;rw[c];by_cases a:m.zF=0
 ·grind
 ·rw[if_neg (by simp[a]),if_neg a,Q9j h hl (fun s d=>by grind) (by simp)];rfl
end
end Go.Abs
end
section
namespace Go.Abs
open Go
def spN(z:Sp×List Int):Qs:=⟨z.1.1,z.1.2⟩
theorem Qbm1{y z:Sp×List Int}(h:spN y=spN z):y.1=z.1:=by
 grind [spN,Qs.mk.injEq,Prod.ext]
structure LsQ(a:Qa)(ob o:List Int)(i:Nat)(done:List Int)(L:List (Sp×List Int))(l:List Qs)(c:List (Qs×List Int)):Prop where
 q:BQ (stp2 a ob o) a.zB (0,0) i done L
 wl:∀(j:Nat)z,L[j]? = some z->z.2.length<=j
 ql:l=(L.drop i).map spN
 has:∀s,hasM c s=true↔∃z∈L,spN z=s
 get:∀z∈L,getM c (spN z) []=z.2
 cl:c.length=L.length
section
variable{p:Qg}(h:ProbW p){A B m:Qa}{T U:List (List Int)}(hl:Q9c p A B m T U)
include h hl
theorem Qbgl{k:Nat}{t:List Int}(N:T[k]? = some t){y:Int}{l w:List Int}(d:l.length<big):∃r,Qf8 (sysP p A m T) ⟨⟨(k:Int),y⟩,l,w⟩=some r/\((r = -1/\∀e,¬RefC p T m ((k:Int),y,l) e)\/(0<=r/\RefC p T m ((k:Int),y,l) r/\∀e,RefC p T m ((k:Int),y,l) e->r<=e)):=by
 unfold Qf8 Qcm;have u:=h.pe.len;have o:(sysP p A m T).events_=m.zB:=by rw[hl.am];rfl
 have i:(sysP p A m T).p_=p:=rfl;rw[<-hl.am] at u;have S:T.getD ((k:Int)).toNat []=t:=by grind
 have F:∀e,RefC p T m ((k:Int),y,l) e↔e∈p.Controllable/\0<=Q3 p.Plant (ati t 0) e/\Q3 m y e<0/\∃x∈l,0<=Q3 m x e:=fun e=>by
  grind [RefC]
 have I:∀e,RefC p T m ((k:Int),y,l) e->e∈m.zB:=fun e R=>by
  obtain⟨_,_,_,x,_,q⟩:=(F e).1 R;rcases Qbv hl.rm x e with q2|q2
  ·omega
  ·exact q2.2.2.2.2
 rw[o,i];refine Qbh (fun x:Int=>∃n:Nat,x=(n:Int)/\n<=m.zB.length/\∀e∈m.zB.take n,¬RefC p T m ((k:Int),y,l) e) (fun x=>m.zB.length-x.toNat) (fun _ r=>∃a,r=some a/\((a = -1/\∀e,¬RefC p T m ((k:Int),y,l) e)\/(0<=a/\RefC p T m ((k:Int),y,l) a/\∀e,RefC p T m ((k:Int),y,l) e->a<=e))) (fun H x M J=>?_) Q2 0 ⟨0,rfl,by omega,by simp⟩ (by unfold Q2;omega);obtain⟨n,rfl,X,O⟩:=M;by_cases b:n<m.zB.length
 ·have g:m.zB.take (n+1)=m.zB.take n++[m.zB[n]]:=Zaq b;have C:getO m.zB (n:Int)=some m.zB[n]:=Qy b;have c:∀z∈m.zB,z<m.zB[n]->z∈m.zB.take n:=fun z L v=>by
   obtain⟨j,Q,rfl⟩:=Zah L;have P:j<n:=by
    refine Zcc fun q=>?_;by_cases W:j=n
    ·subst W;omega
    ·have:=Zbj.1 hl.rm.al n j b Q (by omega);omega
   exact List.mem_take_iff_getElem.2 ⟨j,by omega,rfl⟩
  have s:=hl.rm.al0 _ (Zq b);generalize m.zB[n]=e at g C c s;unfold letJ;rw[if_pos (by omega),C];dsimp only;rw[Za];have skip:¬RefC p T m ((k:Int),y,l) e->∃a,H (IntKind.wrap .i64 ((n:Int)+1))=some a/\((a = -1/\∀e,¬RefC p T m ((k:Int),y,l) e)\/(0<=a/\RefC p T m ((k:Int),y,l) a/\∀e,RefC p T m ((k:Int),y,l) e->a<=e)):=fun hr=>by
   rw[Qw (by omega)];refine J _ ⟨n+1,rfl,by omega,fun f hf=>?_⟩ (by omega)
   grind
  rw[Qo7 (by have:=h.ce.len;unfold big;omega),Za];by_cases hc:e∈p.Controllable
  ·rw[decide_eq_true hc,if_pos rfl,Qbbc h hl N,Za,Za];by_cases E:0<=Q3 p.Plant (ati t 0) e/\Q3 m y e<0
   ·rw[decide_eq_true E.1,decide_eq_true E.2,if_neg (by simp)];rw[Q9a (p:=fun x=>decide (0<=Q3 m x e)) (fun x=>?_) d,Za]
    ·grind
    ·show Qft x (sysP p A m T) e=_;unfold Qft Qcd;show (Qba (edM m) x e).bind _=_;rw[Qgz hl.rm,Za]
   grind
  grind
 grind
theorem Qbol{o:List Int}{e:Int}(ho:o.length<=5000)(h0:0<m.zF)(hex:∃u,obsW p.Observable u=o/\0<=runE m 0 (u++[e])):∃u,Qhj (sysP p A m T) o e=some u/\u.length<=20484096/\obsW p.Observable u=o/\0<=runE m 0 (u++[e])/\∀v,obsW p.Observable v=o->0<=runE m 0 (v++[e])->sle u v:=by
 unfold Qhj Qc9;obtain⟨fuel,hfu,hge⟩ : ∃f,Q2=f/\1099511627776<=f:=⟨_,rfl,Ze _⟩;have X:=hl.rm;have hst:=X.st;have hal:=h.pe.len;have hev:(sysP p A m T).events_=m.zB:=by rw[hl.am];rfl
 have hlg:(sysP p A m T).language_=edM m:=rfl;rw[<-hl.am] at hal;rw[hfu,hev,hlg];have hmul:m.zF.toNat*(o.length+1)<=4096*5001:=Nat.mul_le_mul (by omega) (by omega);have hlen:∀{i:Nat}{done:List Int}{L l c},LsQ m p.Observable o i done L l c->L.length<=20484096:=fun hq=>by
  have:=Qbpf X h0 hq.q;omega
 have e1:∀w,runE m 0 (w++[e])=Q3 m (runE m 0 w) e:=fun w=>by rw[Qiu];rfl
 have goal:∀v,obsW p.Observable v=o->0<=runE m 0 (v++[e])->∃s,dl (stp2 m p.Observable o) (0,0) v=some s/\(s.2=o.length/\0<=Q3 m s.1 e):=fun v h1 h2=>by
  rw[e1] at h2;have h3:0<=runE m 0 v:=by
   grind [Qbv,runE]
  exact⟨(runE m 0 v,((obsW p.Observable v).length:Int)),(Q5u X _ _ rfl _).2 ⟨rfl,h3,by rw[h1];exact Zbl _⟩,by dsimp only;rw[h1],h2⟩
 refine Qbh (fun x:List Qs×List (Qs×List Int)=>∃(i:Nat)(L:List (Sp×List Int)),i<=L.length/\LsQ m p.Observable o i [] L x.1 x.2/\∀(j:Nat)z,j<i->L[j]? = some z->¬(z.1.2=o.length/\0<=Q3 m z.1.1 e)) (fun x=>(40968194-2*x.2.length)+x.1.length) (fun _ r=>∃u,r=some u/\u.length<=20484096/\obsW p.Observable u=o/\0<=runE m 0 (u++[e])/\∀v,obsW p.Observable v=o->0<=runE m 0 (v++[e])->sle u v) (fun k x hx ih=>?_) fuel ([(Qs.mk 0 0)],(setM ([]:List (Qs×(List Int))) (Qs.mk 0 0) [])) ⟨0,[((0,0),[])],by simp,⟨BQ.start,fun j z hj=>?_,rfl,fun s=>?_,fun z hz=>?_,rfl⟩,fun j z hj=>by omega⟩ ?_
 ·obtain⟨l,c⟩:=x;obtain⟨i,L,hi,J,Q⟩:=hx;dsimp only at J Q |-;have hLl:=hlen J;have hll:l.length=L.length-i:=by rw[J.ql];simp
  by_cases hlt:i<L.length
  ·have C:L[i]? = some L[i]:=Zk hlt;generalize L[i]=z at C;have hzm:=Zm C;have hgo:getO l 0=some (spN z):=by
    rw[Q0e];refine⟨Zba _,?_⟩;rw[J.ql,Zai,Zbv];simp[C]
   have hget:=J.get z hzm;have t:=(Q5u X _ _ rfl _).1 (J.q.run z hzm);have hpl:=t.2.2.length_le;have z1:z.1.1=runE m 0 z.2:=congrArg Prod.fst t.1;have z2:z.1.2=((obsW p.Observable z.2).length:Int):=congrArg Prod.snd t.1;have hcond:(if ((spN z).done_==(o.length:Int)) then ((Qba (edM m) (spN z).state_ e).bind fun x12=>some (decide (x12>=0))) else some false)=some (decide (z.1.2=o.length/\0<=Q3 m z.1.1 e)):=by
    unfold spN;dsimp only;by_cases q:z.1.2=o.length
    ·simp_all[if_pos,Qgz,Za,Zbr]
    grind
   rw[if_pos (by omega),hgo,Za,hcond,Za];by_cases hg:z.1.2=o.length/\0<=Q3 m z.1.1 e
   ·rw[decide_eq_true hg,if_pos rfl,hget];refine⟨_,rfl,(by have:=J.wl i z C;omega),?_,by grind,fun v h1 h2=>?_⟩
    ·obtain⟨r,hr⟩:=t.2.2;have hl2:(obsW p.Observable z.2).length=o.length:=by have:=hg.1;omega
     have:r=[]:=by
      have:=congrArg List.length hr;rw[Zy] at this
      simp_all
     grind
    ·obtain⟨s,hs1,E⟩:=goal v h1 h2;exact J.q.least (Qbcr X) (P:=fun s=>s.2=o.length/\0<=Q3 m s.1 e) Q C hs1 E
   ·rw[decide_eq_false hg,if_neg (by simp)];refine Qbh (fun x:List Qs×Int×List (Qs×List Int)=>∃(n:Nat)(N:List (Sp×List Int)),x.2.1=(n:Int)/\n<=m.zB.length/\LsQ m p.Observable o i (m.zB.take n) N x.1 x.2.2/\L <+: N) (fun x=>m.zB.length-x.2.1.toNat) (fun _ r=>∃u,r=some u/\u.length<=20484096/\obsW p.Observable u=o/\0<=runE m 0 (u++[e])/\∀v,obsW p.Observable v=o->0<=runE m 0 (v++[e])->sle u v) (fun k2 x hx ih2=>?_) fuel (l,0,c) ⟨0,L,rfl,by omega,by simpa using J,Zbl _⟩ (by dsimp only;omega);obtain⟨l2,x,c2⟩:=x;obtain⟨n,N,hx,hn,a,F⟩:=hx;dsimp only at hx a F;subst hx;dsimp only;have hL2:=hlen a;have hle2:=F.length_le;have hll2:l2.length=N.length-i:=by rw[a.ql];simp
    by_cases hn2:n<m.zB.length
    ·have O:N[i]? = some z:=Qgh F C;have hzm2:=Zm O;have htk:m.zB.take (n+1)=m.zB.take n++[m.zB[n]]:=Zaq hn2;have I:∀y∈m.zB.take n,y<m.zB[n]:=fun y g=>by
      obtain⟨j,hj,rfl⟩:=Zah g;rw[Zbm] at hj;rw[List.getElem_take];exact Zbj.1 X.al j n (by omega) hn2 (by omega)
     have hge2:getO m.zB (n:Int)=some m.zB[n]:=Qy hn2;generalize m.zB[n]=f at htk I hge2;unfold letJ;rw[if_pos (by omega),hge2,Za,Qgz X,Za];dsimp only;have hsp1:(spN z).state_=z.1.1:=rfl;have hsp2:(spN z).done_=z.1.2:=rfl;rw[hsp1,hsp2];have hwl:=a.wl i z O;have skip:(∀s,stp2 m p.Observable o z.1 f=some s->∃y∈N,y.1=s)->∃u,k2 (l2,IntKind.wrap .i64 ((n:Int)+1),c2)=some u/\u.length<=20484096/\obsW p.Observable u=o/\0<=runE m 0 (u++[e])/\∀v,obsW p.Observable v=o->0<=runE m 0 (v++[e])->sle u v:=fun hk=>by
      rw[Qw (by omega)];refine ih2 _ ⟨n+1,N,rfl,by omega,⟨?_,a.wl,a.ql,a.has,a.get,a.cl⟩,F⟩ (by dsimp only;omega);rw[htk];exact a.q.keep O I hk
     by_cases W:Q3 m z.1.1 f<0
     ·rw[if_pos W,Za];refine skip fun s M=>?_;unfold stp2 at M
      grind
     ·rw[if_neg W,Q9i h,Za];have hd0:0<=z.1.2:=by rw[z2];omega
      have go:∀d:Int,Q5t p.Observable o z.1.2 f=some d->∃u,((if (hasM c2 (Qs.mk (Q3 m z.1.1 f) d))=true then some (l2,c2,Q3 m z.1.1 f,d) else ((Qcf (getM c2 (spN z) [])).bind fun x36=>((appO x36 [f]).bind fun x37=>((appO l2 [(Qs.mk (Q3 m z.1.1 f) d)]).bind fun x39=>some (x39,(setM c2 (Qs.mk (Q3 m z.1.1 f) d) x37),Q3 m z.1.1 f,d))))).bind fun((l42,c43,z44,z45):(List Qs)×(List (Qs×(List Int)))×Int×Int)=>k2 (l42,(IntKind.wrap .i64 ((n:Int)+1)),c43))=some u/\u.length<=20484096/\obsW p.Observable u=o/\0<=runE m 0 (u++[e])/\∀v,obsW p.Observable v=o->0<=runE m 0 (v++[e])->sle u v:=fun d hd=>by
       have E:stp2 m p.Observable o z.1 f=some (Q3 m z.1.1 f,d):=by
        unfold stp2
        grind
       have R:Qs.mk (Q3 m z.1.1 f) d=spN ((Q3 m z.1.1 f,d),z.2++[f]):=rfl;by_cases b:hasM c2 (Qs.mk (Q3 m z.1.1 f) d)=true
       ·rw[if_pos b,Za];refine skip fun s M=>?_;rw[E] at M;cases M;obtain⟨y,g,hy2⟩:=(a.has _).1 b;exact⟨y,g,Qbm1 (hy2.trans R)⟩
       ·rw[if_neg b,a.get z hzm2,Q0y (by unfold lim;omega),Za,Qbb (by grind [List.length_cons,List.length_nil,lim]),Za,Qbb (by grind [List.length_cons,List.length_nil,lim]),Za,Za];dsimp only;rw[Qw (by omega)];have S:∀y∈N,y.1≠(Q3 m z.1.1 f,d):=fun y g q=>b ((a.has _).2 ⟨y,g,by unfold spN;rw[q]⟩);refine ih2 _ ⟨n+1,N++[((Q3 m z.1.1 f,d),z.2++[f])],rfl,by omega,⟨?_,fun j y hj=>?_,?_,fun s=>?_,fun y g=>?_,?_⟩,List.IsPrefix.trans F (Zbt _ _)⟩ (by dsimp only;omega)
        ·rw[htk];exact a.q.add O I E S
        ·rcases Qxf hj with hj|⟨rfl,rfl⟩
         ·exact a.wl j y hj
         grind
        ·rw[List.drop_append_of_le_length (by omega),Zbi,<-a.ql]
         rfl
        ·rw[Q4h,Zau,decide_eq_true_eq,a.has]
         grind
        ·rw[Q4i];rcases Zr.1 g with g|g
         ·rw[if_neg fun q=>S y g (Qbm1 (q.trans R)),a.get y g]
         grind
        ·rw[Qr2 (by simpa using b),Zy,Zy,a.cl];rfl
      by_cases H:f∈p.Observable
      ·rw[decide_eq_true H,if_pos rfl];by_cases hdl:z.1.2=o.length
       ·rw[if_pos (by simp[hdl]),Za,if_pos rfl,Za];refine skip fun s M=>?_;rw[Q4t (by unfold Q5t;rw[if_pos H,if_neg (by grind)])] at M;cases M
       ·rw[if_neg (by simp[hdl])];have hlt3:z.1.2.toNat<o.length:=by omega
        obtain⟨dn,hdn⟩ : ∃dn:Nat,z.1.2=(dn:Int):=⟨z.1.2.toNat,by omega⟩;rw[hdn,Qy (by omega:dn<o.length),Za,Za];by_cases he:o[dn]'(by omega)=f
        ·rw[if_neg (by simp[he]),Qw (by omega)];refine go _ ?_;unfold Q5t;rw[if_pos H,if_pos (by rw[hdn,Zay,Zk (by omega),he]),hdn];simp
        ·rw[if_pos (by simp[he]),Za];refine skip fun s M=>?_;rw[Q4t (by unfold Q5t;rw[if_pos H,if_neg (by grind [Int.toNat_natCast,List.getElem?_eq_getElem])])] at M;cases M
      ·rw[decide_eq_false H,if_neg (by simp)];refine go _ ?_;unfold Q5t;rw[if_neg H]
    ·rw[if_neg (by omega)];have:n=m.zB.length:=by omega
     subst this;rw[Zaz] at a;have hsl:slcO l2 1 (l2.length:Int)=some (l2.drop 1):=by
      unfold slcO;rw[if_pos ⟨by omega,by omega,Zba _⟩,Zay,Zaz];rfl
     rw[hsl,Za];refine ih _ ⟨i+1,N,by omega,⟨a.q.next,a.wl,?_,a.has,a.get,a.cl⟩,fun j y hj g=>?_⟩ ?_
     ·dsimp only;rw[a.ql,<-List.map_drop,List.drop_drop]
     ·by_cases hji:j<i
      ·refine Q j y hji ?_;obtain⟨r,rfl⟩:=F
       grind
      grind [Qgh]
     ·dsimp only;rw[a.cl,J.cl,List.length_drop];omega
  ·rw[if_neg (by omega)];have:i=L.length:=by omega
   subst this;obtain⟨v,h1,h2⟩:=hex;obtain⟨s,hs1,E⟩:=goal v h1 h2;exact absurd E (J.q.none (Qbcr X) (P:=fun s=>s.2=o.length/\0<=Q3 m s.1 e) (fun j y g=>Q j y ((Zn.1 g).1) g) hs1)
 ·grind
 ·dsimp only;rw[Q4h];simp[hasM,spN,eq_comm]
 ·simp only[Zak] at hz;subst hz
  rfl
 grind
end
end Go.Abs
end
section
namespace Go.Abs
open Go
theorem Qn8:∀(u:Nat),∀c∈Lib.decDigits u,48<=c.toNat/\c.toNat<=57:=by
 intro u
 induction u using Nat.strongRecOn with
 |_ u a =>
  intro c hc;rw[Lib.decDigits] at hc;split at hc
  ·rename_i h;simp at hc;subst hc;simp;omega
  ·rename_i h;rcases Zr.1 hc with hc|hc
   ·grind
   ·simp at hc;subst hc;have:u % 10<10:=Nat.mod_lt _ (by decide);simp;omega
def valD(l:List UInt8):Nat:=l.foldl (fun v c=>v*10+(c.toNat-48)) 0
theorem Qbig:∀(u:Nat),valD (Lib.decDigits u)=u:=by
 intro u
 induction u using Nat.strongRecOn with
 |_ u b =>
  rw[Lib.decDigits];split
  ·rename_i h;simp[valD];omega
  ·rename_i h;have a:=b (u / 10) (by omega);unfold valD at a |-;rw[List.foldl_append,a];have:u % 10<10:=Nat.mod_lt _ (by decide);simp;omega
theorem Qbih{u v:Nat}(h:Lib.decDigits u=Lib.decDigits v):u=v:=by
 have:=congrArg valD h
 rwa [Qbig,Qbig] at this
theorem Qbm2{x y:Int}(h:Lib.itoa x=Lib.itoa y):x=y:=by
 unfold Lib.itoa at h;by_cases b:x<0
 ·rw[if_pos b] at h;by_cases a:y<0
  ·rw[if_pos a] at h;have:=Qbih (List.cons.inj h).2;omega
  ·rw[if_neg a] at h;have:=Qn8 y.toNat 45 (by rw[<-h];simp);simp at this
 ·rw[if_neg b] at h;by_cases a:y<0
  ·rw[if_pos a] at h;have:=Qn8 x.toNat 45 (by rw[h];simp);simp at this
  ·rw[if_neg a] at h;have:=Qbih h;omega
theorem Qbfd(x:Int):(32:UInt8)∉Lib.itoa x:=by
 intro h;unfold Lib.itoa at h;split at h
 ·rcases Zaj.1 h with h|h
  ·cases h
  ·have:=Qn8 _ _ h;simp at this
 ·have:=Qn8 _ _ h;simp at this
theorem Qbrw:∀{a b r s:List UInt8},(32:UInt8)∉a->(32:UInt8)∉b->a++32::r=b++32::s->a=b/\r=s
 |[],[],r,s,_,_,h=>⟨rfl,(List.cons.inj h).2⟩
 |[],y::b,r,s,_,hb,h=>by
  grind
 |x::a,[],r,s,ha,_,h=>by
  grind
 |x::a,y::b,r,s,ha,hb,h=>by
  obtain⟨f,e⟩:=List.cons.inj h;obtain⟨d,c⟩:=Qbrw (fun q=>ha (List.mem_cons_of_mem _ q)) (fun q=>hb (List.mem_cons_of_mem _ q)) e;exact⟨by rw[f,d],c⟩
theorem Qbfe:∀{l m:List Int},Qz2 l=Qz2 m->l=m
 |[],[],_=>rfl
 |[],y::m,h=>by
  have:=congrArg List.length h;simp[Qz2] at this
 |x::l,[],h=>by
  have:=congrArg List.length h;simp[Qz2] at this
 |x::l,y::m,h=>by
  have e:∀(z:Int)k,Qz2 (z::k)=Lib.itoa z++32::Qz2 k:=fun z k=>by simp[Qz2]
  rw[e,e] at h;obtain⟨b,a⟩:=Qbrw (Qbfd x) (Qbfd y) h;rw[Qbm2 b,Qbfe a]
theorem Qbii{l m:List Int}(h:keyT l=keyT m):l=m:=by
 unfold keyT at h;have:=congrArg (fun b:ByteArray=>b.data.toList) h
 grind [Qbfe]
theorem Qbij{a:Qa}(ha:Right a){x y:Int}{l:List Int}(hl:Sts a l)(f : -1<=x/\x<=5000)(e : -1<=y/\y<=5000):Qbi3 ⟨x,y⟩ l=some (keyT (x::y::l)):=by
 unfold Qbi3;have c:=ha.st;have d:=hl.len;rw[if_pos];refine⟨by unfold lim;omega,fun z b=>?_⟩;simp only[Zaj] at b;rcases b with rfl|rfl|b
 ·omega
 ·omega
 ·have:=hl.rg z b;omega
def trH(t:Qb5):Cf×List Int:=((t.at_.ambient_,t.at_.language_,t.states_),t.word_)
structure HdQ(A m:Qa)(ob:List Int)(i:Nat)(done:List Int)(l:List Qb5)(c:List (ByteArray×Bool)):Prop where
 q:BQ (stpC A m ob) A.zB (s0C m ob) i done (l.map trH)
 wl:∀(j:Nat)y,l[j]? = some y->y.word_.length<=j
 has:∀(x y:Int)(st:List Int),getM c (keyT (x::y::st)) false=true↔∃z∈l,(trH z).1=(x,y,st)
def Qbm3(p:Qg)(A B m:Qa)(w:Q4)(b:Bool)(e:Int):Prop :=
 (e=3/\0<A.zF/\∃L:List (Cf×List Int),4096<L.length/\(L.map (·.1)).Nodup/\∀z∈L,dl (stpC A m p.Observable) (s0C m p.Observable) z.2=some z.1) \/
 (e=0/\(b=true->w=⟨[],[],0⟩/\(0<A.zF->∀v f,0<=runE A 0 v->¬RefW p B v f))/\(b=false->LeastW p A B w/\0<A.zF/\w.Word.length<100000000/\w.Other.length<100000000))
section
variable{p:Qg}(h:ProbW p){A B m:Qa}{T U:List (List Int)}(hl:Q9c p A B m T U)
include h hl
omit h in
theorem Qbm4(x y f:Int):Qe3 (sysP p A m T) ⟨x,y⟩ f=some (⟨Q3 A x f,Q3 m y f⟩,decide (Q3 A x f>=0)):=by
 unfold Qe3 Q5;show (Qba (edM A) x f).bind _=_;rw[Qgz hl.hA.r,Za];show (Qba (edM m) y f).bind _=_;rw[Qgz hl.rm,Za]
omit h in
theorem HdQ.node{i:Nat}{done:List Int}{l:List Qb5}{c:List (ByteArray×Bool)}(f:HdQ A m p.Observable i done l c):∀z∈l,dl (stpC A m p.Observable) (s0C m p.Observable) z.word_=some (trH z).1/\0<=runE A 0 z.word_/\z.at_.ambient_=runE A 0 z.word_/\z.at_.language_=runE m (k0 m) z.word_/\z.states_=estP m p.Observable (obsW p.Observable z.word_):=fun z e=>by
 have d:=f.q.run (trH z) (Zl.2 ⟨z,e,rfl⟩);have a:=d;rw[Qs9 hl.hA.r _ _ _ rfl] at a;have g:(trH z).2=z.word_:=rfl;rw[g] at a;split at a
 ·rename_i j;have b:=Zbe a;exact⟨d,j,(congrArg (fun x:Cf=>x.1) b).symm,(congrArg (fun x:Cf=>x.2.1) b).symm,(congrArg (fun x:Cf=>x.2.2) b).symm⟩
 ·cases a
theorem Qbom:∃w b e,Qj7 p=some (w,b,e)/\Qbm3 p A B m w b e:=by
 unfold Qj7 Qcx;obtain⟨fuel,hfu,hge⟩ : ∃f,Q2=f/\1099511627776<=f:=⟨_,rfl,Ze _⟩;have hm:=hl.rm;have hst:=hm.st;have hA:=hl.hA.r;have hAst:=hA.st;have hoe:=h.oe.len;have hal:=h.pe.len;have hev:(sysP p A m T).events_=A.zB:=by rw[hl.aA];rfl
 rw[<-hl.aA] at hal;rw[hfu,Qbe3 h hl,Za];dsimp only;rw[if_pos rfl,if_neg (by simp)];by_cases h0:A.zF=0
 ·rw[show (sysP p A m T).empty_=true from by unfold sysP;simp[h0],if_pos rfl];exact⟨_,_,_,rfl,.inr ⟨rfl,fun _=>⟨rfl,fun q=>by omega⟩,fun q=>by cases q⟩⟩
 ·have H:0<A.zF:=by omega
  have R:(sysP p A m T).start_=⟨0,k0 m⟩:=by
   grind [sysP,k0]
  have hk0 : -1<=k0 m/\k0 m<=0:=by unfold k0;split<;>omega
  have hlang:∀v,-1<=runE m (k0 m) v/\runE m (k0 m) v<=4096:=fun v=>by
   unfold k0;split
   ·rw[Qi7 hm];omega
   ·rcases Qro hm v 0 (Zba _) (by omega) with q|q<;>omega
  have hstep:∀y f,-1<=Q3 m y f/\Q3 m y f<=4096:=fun y f=>by
   grind [Qbv]
  have O:∀y f,-1<=Q3 A y f/\Q3 A y f<=4096:=fun y f=>by
   grind [Qbv]
  have X:∀v,0<=runE A 0 v->dl (stpC A m p.Observable) (s0C m p.Observable) v=some (runE A 0 v,runE m (k0 m) v,estP m p.Observable (obsW p.Observable v)):=fun v hv=>by
   rw[Qs9 hA _ _ _ rfl,if_pos hv]
  rw[show (sysP p A m T).empty_=false from by unfold sysP;simp[h0],if_neg (by simp),Qbfc h hl,Za,R,Qbij hm (Qbbf m p.Observable) (by omega) (by omega),Za,hev];refine Qbh (fun x:List Qb5×Int×List (ByteArray×Bool)=>∃i:Nat,x.2.1=(i:Int)/\i<=x.1.length/\x.1.length<=4096/\HdQ A m p.Observable i [] x.1 x.2.2/\∀(j:Nat)z,j<i->x.1[j]? = some z->∀e,¬RefC p T m (trH z).1 e) (fun x=>4097-x.2.1.toNat) (fun _ r=>∃w b e,r=some (w,b,e)/\Qbm3 p A B m w b e) (fun k x N ih=>?_) fuel ([(Qb5.mk ⟨0,k0 m⟩ (Qt9 m p.Observable) [])],0,(setM ([]:List (ByteArray×Bool)) (keyT (0::k0 m::Qt9 m p.Observable)) true)) ⟨0,rfl,by simp,by simp,⟨BQ.start,fun j y S=>?_,fun x y st=>?_⟩,fun j z S=>by omega⟩ (by dsimp only;omega)
  ·obtain⟨l,x,c⟩:=x;obtain⟨i,N,hi,hll,hQ,hno⟩:=N;dsimp only at N hi hll hQ hno;subst N;dsimp only;by_cases hlt:i<l.length
   ·have J:l[i]? = some l[i]:=Zk hlt;have hgo:getO l (i:Int)=some l[i]:=Qy hlt;generalize l[i]=z at J hgo;have hzm:=Zm J;obtain⟨n1,n2,n3,n4,n5⟩:=hQ.node hl z hzm;have hwl:=hQ.wl i z J;have hmx:(l.map trH)[i]? = some (trH z):=Qxj J;have href:∀e,RefC p T m (trH z).1 e↔RefW p B z.word_ e:=fun e=>Q5s h hl hm (Qbfa hl) H n1 e;have hrg:=Qro hA z.word_ 0 (Zba _) H;have hTl:=hl.hA.st;have hsts:Sts m z.states_:=by rw[n5];exact Q0n _
    have hla:=hlang z.word_;rw[<-n4] at hla;rw[<-n3] at hrg;clear n4 n5;obtain⟨⟨amb,lang⟩,d,t⟩:=z;dsimp only at *
    obtain⟨a,rfl⟩ : ∃a:Nat,amb=(a:Int):=⟨amb.toNat,by omega⟩;have haT:a<T.length:=by omega
    have hT:T[a]? = some T[a]:=Zk haT;have hsl:=hsts.len;obtain⟨r,hr1,F⟩:=Qbgl h hl hT (y:=lang) (l:=d) (w:=t) (by unfold big;omega);have htr:(trH ⟨⟨(a:Int),lang⟩,d,t⟩).1=((a:Int),lang,d):=rfl;rw[<-htr] at F;rw[if_pos (by omega),hgo,Za,hr1,Za];dsimp only;have hwb:(obsW p.Observable t).length<=t.length:=Zbk _ _;rcases F with⟨rfl,F⟩|⟨hr0,F,hr3⟩
    ·rw[if_neg (by omega)];refine Qu0 (P:=fun v:List Qb5×List (ByteArray×Bool)=>HdQ A m p.Observable i A.zB v.1 v.2/\l <+: v.1) (Q:=fun r=>∃w b e,r=some (w,b,e)/\Qbm3 p A B m w b e) ?_ ?_
     ·refine Qbh (fun x:List Qb5×Int×List (ByteArray×Bool)=>∃n:Nat,x.2.1=(n:Int)/\n<=A.zB.length/\HdQ A m p.Observable i (A.zB.take n) x.1 x.2.2/\l <+: x.1/\x.1.length<=l.length+n) (fun x=>A.zB.length-x.2.1.toNat) (fun _ r=>∃v:List Qb5×List (ByteArray×Bool),r=some v/\HdQ A m p.Observable i A.zB v.1 v.2/\l <+: v.1) (fun k2 x N ih2=>?_) fuel (l,0,c) ⟨0,rfl,by omega,by simpa using hQ,Zbl _,by dsimp only;omega⟩ (by dsimp only;omega);obtain⟨l2,x,c2⟩:=x;obtain⟨n,N,hn,g,E,hl2⟩:=N;dsimp only at N g E hl2;subst N;dsimp only;by_cases hn2:n<A.zB.length
      ·have hx3:=Qgh E J;have hmx2:(l2.map trH)[i]? = some (trH ⟨⟨(a:Int),lang⟩,d,t⟩):=Qxj hx3;have htk:A.zB.take (n+1)=A.zB.take n++[A.zB[n]]:=Zaq hn2;have L:∀y∈A.zB.take n,y<A.zB[n]:=fun y hy=>by
        obtain⟨j,S,rfl⟩:=Zah hy;rw[Zbm] at S;rw[List.getElem_take];exact Zbj.1 hA.al j n (by omega) hn2 (by omega)
       have hge2:getO A.zB (n:Int)=some A.zB[n]:=Qy hn2;generalize A.zB[n]=f at htk L hge2;rw[if_pos (by omega),hge2,Za,Qbm4 hl,Za];dsimp only;have skip:(∀s,stpC A m p.Observable ((a:Int),lang,d) f=some s->∃y∈l2,(trH y).1=s)->∃v:List Qb5×List (ByteArray×Bool),k2 (l2,IntKind.wrap .i64 ((n:Int)+1),c2)=some v/\HdQ A m p.Observable i A.zB v.1 v.2/\l <+: v.1:=fun hk=>by
        rw[Qw (by omega)];refine ih2 _ ⟨n+1,rfl,by omega,⟨?_,g.wl,g.has⟩,E,by dsimp only;omega⟩ (by dsimp only;omega);rw[htk];refine g.q.keep hmx2 L fun s hs=>?_
        grind
       by_cases hs0:0<=Q3 A (a:Int) f
       ·have hy48:((Qc1 (sysP p A m T) f).bind fun x44=>(if x44=true then ((Qe5 (sysP p A m T) d f).bind fun x47=>some x47) else some d))=some (if f∈p.Observable then Q4o m p.Observable d f else d):=by
         rw[Q9i h,Za];by_cases hmo:f∈p.Observable
         ·rw[decide_eq_true hmo,if_pos rfl,Qbfb h hl hsts,Za,if_pos hmo]
         grind
        have hs2:stpC A m p.Observable ((a:Int),lang,d) f=some (Q3 A (a:Int) f,Q3 m lang f,if f∈p.Observable then Q4o m p.Observable d f else d):=by
         unfold stpC;rw[if_pos hs0]
        have hst2:Sts m (if f∈p.Observable then Q4o m p.Observable d f else d):=by
         grind [Qbe8]
        rw[decide_eq_true (by omega),if_pos rfl,Q0y (by unfold lim;omega),Za,Qbb (by grind [List.length_cons,List.length_nil,lim]),Za,hy48,Za];generalize (if f∈p.Observable then Q4o m p.Observable d f else d)=st2 at hs2 hst2;have e1:=hstep lang f;have e2:=O (a:Int) f;rw[Qbij hm hst2 (by omega) (by omega),Za];by_cases W:getM c2 (keyT (Q3 A (a:Int) f::Q3 m lang f::st2)) false=true
        ·rw[if_pos W,Za];refine skip fun s hs=>?_;rw[hs2] at hs;cases hs;exact (g.has _ _ _).1 W
        ·rw[if_neg W,Qbb (by grind [List.length_cons,List.length_nil,lim]),Za,Za];dsimp only;rw[Qw (by omega)];have hnew:∀y∈l2,(trH y).1≠(Q3 A (a:Int) f,Q3 m lang f,st2):=fun y hy q=>W ((g.has _ _ _).2 ⟨y,hy,q⟩);refine ih2 _ ⟨n+1,rfl,by omega,⟨?_,fun j y S=>?_,fun x y st=>?_⟩,List.IsPrefix.trans E (Zbt _ _),by simp;omega⟩ (by dsimp only;omega)
         ·rw[htk,Zbi,List.map_singleton];refine g.q.add hmx2 L hs2 fun y hy=>?_
          grind
         ·rcases Qxf S with S|⟨rfl,rfl⟩
          ·exact g.wl j y S
          grind
         ·dsimp only;rw[Q0i];constructor
          ·intro q;split at q
           ·rename_i q2;have q3:=Qbii q2;simp only[Zo] at q3;obtain⟨rfl,rfl,rfl⟩:=q3;exact⟨_,List.mem_append_right _ (Zak.2 rfl),rfl⟩
           ·obtain⟨z,M,I⟩:=(g.has _ _ _).1 q
            grind
          ·rintro⟨z,M,I⟩;rcases Zr.1 M with M|M
           ·have q:=(g.has _ _ _).2 ⟨z,M,I⟩;rw[q];split<;>rfl
           ·simp only[Zak] at M;subst M;have q:(Q3 A (a:Int) f,Q3 m lang f,st2)=(x,y,st):=I
            grind
       ·rw[decide_eq_false (by omega),if_neg (by simp),Za];dsimp only;refine skip fun s hs=>?_;unfold stpC at hs
        grind
      ·rw[if_neg (by omega)]
       grind
     ·rintro⟨l',c'⟩ ⟨C,E⟩;dsimp only at C E |-;have hle:=E.length_le;by_cases h4:(l'.length:Int)>4096
      ·rw[if_pos h4];refine⟨_,_,_,rfl,.inl ⟨rfl,H,l'.map trH,by grind,C.q.nodup,C.q.run⟩⟩
      ·rw[if_neg h4,Qw (by omega)];refine ih _ ⟨i+1,rfl,by dsimp only;omega,by dsimp only;omega,⟨C.q.next,C.wl,C.has⟩,fun j y S hy=>?_⟩ (by dsimp only;omega);dsimp only at hy;by_cases hji:j<i
       ·refine hno j y hji ?_;obtain⟨r,rfl⟩:=E
        grind
       grind [Qgh]
    ·have hrw:=(href r).1 F;have h0m:0<m.zF:=by
      obtain⟨_,_,_,x,_,q⟩:=F
      grind
     have hkz:=Q4s h0m;have toB:∀v,0<=runE m 0 v↔LgA B v:=fun v=>by
      rw[<-Qbfa hl];unfold LgA;rw[hkz]
     obtain⟨u,u1,u5,u2,u3,u4⟩:=Qbol h hl (o:=obsW p.Observable t) (e:=r) (by omega) h0m (by
      obtain⟨_,_,_,u,q1,q2⟩:=hrw
      grind)
     rw[if_pos hr0,Q5r h.oe.so (by unfold big;omega) (by unfold big;omega),Za,u1,Za];refine⟨_,_,_,rfl,.inr ⟨rfl,fun q=>(by cases q),fun _=>⟨⟨n2,hrw,fun v e hv hr'=>?_,fun e hr'=>hr3 e ((href e).2 hr'),⟨u2,(toB _).1 u3⟩,fun u' hu'=>u4 u' hu'.1 ((toB _).2 hu'.2)⟩,H,(by grind),(by grind)⟩⟩⟩;refine hQ.q.least (Q9h hA) (P:=fun s=>∃e,RefC p T m s e) (fun j y S hy=>?_) hmx (X v hv) ⟨e,(Q5s h hl hm (Qbfa hl) H (X v hv) e).2 hr'⟩
     grind
   ·rw[if_neg (by omega)];have:i=l.length:=by omega
    subst this;refine⟨_,_,_,rfl,.inr ⟨rfl,fun _=>⟨rfl,fun _ v e hv hr=>?_⟩,fun q=>by cases q⟩⟩;have C:=hQ.q;rw[<-Zt (f:=trH)] at C;refine C.none (Q9h hA) (P:=fun s=>∃e,RefC p T m s e) (fun j y hy=>?_) (X v hv) ⟨e,(Q5s h hl hm (Qbfa hl) H (X v hv) e).2 hr⟩
    grind
  ·grind
  ·dsimp only;rw[Q0i];constructor
   ·intro q;split at q
    ·rename_i q2;have q3:=Qbii q2;simp only[Zo] at q3;obtain⟨rfl,rfl,rfl⟩:=q3;exact⟨_,Zak.2 rfl,rfl⟩
    ·simp[getM] at q
   ·rintro⟨z,M,I⟩;simp only[Zak] at M;subst M;have q:((0:Int),k0 m,Qt9 m p.Observable)=(x,y,st):=I
    grind
end
end Go.Abs
end
section
namespace Go.Abs
open Go
theorem Qbgm{a:Qa}(h:Right a){w:List Int}(b:LgA a w):0<a.zF:=by
 have c:=h.st;refine Zcc fun q=>?_;unfold LgA k0 at b;rw[if_pos (by omega),Qi7 h] at b;omega
theorem Qbm5{a:Qa}(h:Right a){w:List Int}(b:¬LgA a w):runE a (k0 a) w = -1:=by
 have c:=h.st;unfold LgA at b;by_cases q:0<a.zF
 ·rw[Q4s q] at b |-;rcases Qro h w 0 (Zba _) q with q2|q2
  ·exact q2
  ·omega
 ·unfold k0;rw[if_pos (by omega),Qi7 h]
section
variable{p:Qg}(h:ProbW p){A B m:Qa}{T U:List (List Int)}(hl:Q9c p A B m T U)
include hl
theorem Qbon{v v' : List Int}(b:runE B (k0 B) v=runE B (k0 B) v'):runE m (k0 m) v=runE m (k0 m) v':=by
 by_cases q:LgA B v
 ·have d : LgA B v':=by unfold LgA at *;rw[<-b];exact q
  have a:=Qbgm hl.hB.r q;have c:=Qbgm hl.rm ((Qbfa hl v).2 q);rw[Q4s c];unfold LgA at q;rw[Q4s a] at b q;exact hl.fnl v v' q b a
 ·have d : ¬LgA B v':=by unfold LgA at *;rw[<-b];exact q
  rw[Qbm5 hl.rm fun x=>q ((Qbfa hl v).1 x),Qbm5 hl.rm fun x=>d ((Qbfa hl v').1 x)]
theorem Qbm6{ob o o' : List Int}(ho:∀e∈o,e∈ob)(b : ∀e∈o',e∈ob)(l:estP B ob o=estP B ob o'):∀x∈estP m ob o,x∈estP m ob o':=by
 intro x k;obtain⟨g,f,u,j,d⟩:=(Qxi hl.rm _ o rfl ho x).1 k;have g1:LgA m u:=by unfold LgA;rw[Q4s g,d];exact f
 have g2:=(Qbfa hl u).1 g1;have a:=Qbgm hl.hB.r g2;unfold LgA at g2;rw[Q4s a] at g2;have i:runE B 0 u∈estP B ob o:=(Qxi hl.hB.r _ o rfl ho _).2 ⟨a,g2,u,j,rfl⟩;rw[l] at i;obtain⟨_,_,c,s3,s4⟩:=(Qxi hl.hB.r _ o' rfl b _).1 i;have:=hl.fnl u c g2 s4.symm a;exact (Qxi hl.rm _ o' rfl b x).2 ⟨g,f,c,s3,by rw[<-this];exact d⟩
theorem Qboo{ob o o' : List Int}(ho:∀e∈o,e∈ob)(a : ∀e∈o',e∈ob)(b:estP B ob o=estP B ob o'):estP m ob o=estP m ob o' :=
 Q9b (Q0n o).so (Q0n o').so fun x=>⟨Qbm6 hl ho a b x,Qbm6 hl a ho b.symm x⟩
theorem Qbm7(hb:BdC p A B){L:List (Cf×List Int)}(n:(L.map (·.1)).Nodup)(hr:∀z∈L,dl (stpC A m p.Observable) (s0C m p.Observable) z.2=some z.1):L.length<=600:=by
 obtain⟨D,t,o⟩:=hb;have d:∀w:List Int,∀e∈obsW p.Observable w,e∈p.Observable:=fun w e f=>by
  have:=(Zp.1 f).2;simpa using this
 have c:∀z∈L,0<=runE A 0 z.2/\z.1=(runE A 0 z.2,runE m (k0 m) z.2,estP m p.Observable (obsW p.Observable z.2)):=fun z c=>by
  have g:=hr z c;rw[Qs9 hl.hA.r _ _ _ rfl] at g;split at g
  ·exact⟨by assumption,(Zbe g).symm⟩
  ·cases g
 have:=Qt8 (l:=L.map fun z=>((runE A 0 z.2,runE B (k0 B) z.2,estP B p.Observable (obsW p.Observable z.2)):Cf)) (m:=D) ?_ ?_
 ·rw[Zt] at this;omega
 ·refine Zbw.2 (List.Pairwise.imp_of_mem (fun{a b}ha hb hne f=>hne ?_) (Zbw.1 n));obtain⟨_,s⟩:=c a ha;obtain⟨_,q⟩:=c b hb;have j:=congrArg (fun x:Cf=>x.1) f;have e2:=congrArg (fun x:Cf=>x.2.1) f;have e3:=congrArg (fun x:Cf=>x.2.2) f;dsimp only at j e2 e3;rw[s,q,j,Qbon hl e2,Qboo hl (d _) (d _) e3]
 ·intro x k;obtain⟨z,i,rfl⟩:=Zl.1 k;refine o z.2 _ ?_;rw[Qs9 hl.hA.r _ _ _ rfl,if_pos (c z i).1]
include h
theorem Qbcs{w:Q4}(a:LeastW p A B w)(c:0<A.zF):Q67 p A B w=true:=by
 unfold Q67;obtain⟨f,d,e,u,k,r5⟩:=a.ref;have g1:genP B (w.Word++[w.Event])=true:=(Qbgi hl.hB.r _).2 a.goal.2;have g2:genP A w.Other=true:=by rw[genE hl.hA.r,decide_eq_true c,decide_eq_true a.run];rfl
 have b:0<p.Plant.zF:=by
  have g:=h.pr.st;refine Zcc fun q=>?_;rw[Qiu] at d;have:runE p.Plant (runE p.Plant 0 w.Other) [w.Event]=Q3 p.Plant (runE p.Plant 0 w.Other) w.Event:=rfl;rcases Qbv h.pr (runE p.Plant 0 w.Other) w.Event with q2|q2<;>omega
 have j:genP p.Plant (w.Other++[w.Event])=true:=by rw[genE h.pr,decide_eq_true b,decide_eq_true d];rfl
 have i:genP B (w.Other++[w.Event])=false:=by
  cases q:genP B (w.Other++[w.Event]) with
  |false=>rfl
  |true=>exact absurd ((Qbgi hl.hB.r _).1 q) e
 rw[g1,g2,j,i,decide_eq_true f,decide_eq_true a.goal.1];rfl
end
theorem Qbjl{s:Qb6}(h:Qbmj s):Qhd s=some true:=by
 unfold Qhd Qhb;rw[Qbi5,Za,if_pos rfl];obtain⟨p,hp,f⟩:=Qbml h;obtain⟨A,B,m,T,U,hl⟩:=f.lang;obtain⟨w',a,l,r,u⟩:=Qbjk f hl;rw[hp,Za,Qbmp f hl.e2 hl.hA hl.e3,Za];dsimp only;rw[r,Za];dsimp only;cases l with
 |false=>rw[if_neg (by simp)]
 |true =>
  rw[if_pos rfl];obtain⟨n,g,v⟩:=u rfl;obtain⟨w,b,e,t,hr⟩:=Qbom f hl;rw[t,Za];dsimp only;rw[if_pos rfl];rcases hr with⟨rfl,k,L,x,q,o⟩|⟨rfl,i,c⟩
  ·have:=Qbm7 hl (v k) q o;omega
  ·have j:b = !a/\w=w':=by
    cases b with
    |true =>
     cases a with
     |true=>exact absurd (g rfl).1.ref ((i rfl).2 (g rfl).2 _ _ (g rfl).1.run)
     |false=>exact⟨rfl,(i rfl).1.trans (n rfl).1.symm⟩
    |false =>
     cases a with
     |true=>exact⟨rfl,(c rfl).1.eq (g rfl).1⟩
     |false=>exact absurd (c rfl).1.ref ((n rfl).2 (c rfl).2.1 _ _ (c rfl).1.run)
   obtain⟨rfl,rfl⟩:=j;have d:w.Word.length<100000000/\w.Other.length<100000000:=by
    cases a with
    |true=>exact⟨(c rfl).2.2.1,(c rfl).2.2.2⟩
    |false=>rw[(i rfl).1];exact⟨by simp,by simp⟩
   rw[if_neg (by simp),if_neg (by cases a<;>simp),Qbch (by omega),Za,decide_eq_true rfl,if_pos rfl,Qbch (by omega),Za,decide_eq_true rfl,if_pos rfl,Za,if_neg (by simp)];cases a with
   |false=>rfl
   |true =>
    rw[if_neg (by simp),Qbjf f hl d.1 d.2,Qbcs f hl (c rfl).1 (c rfl).2.1]
    rfl
end Go.Abs
end
