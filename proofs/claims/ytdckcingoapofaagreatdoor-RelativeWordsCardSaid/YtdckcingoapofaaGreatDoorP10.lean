/-
  Part 10 of the proof: see the last text.
-/
import Derived.Test.YtdckcingoapofaaGreatDoorP9
set_option linter.unusedVariables false
set_option linter.unusedSimpArgs false
set_option linter.unusedSectionVars false
section
namespace Go.Abs
open Go
def wlt:List Int->List Int->Bool
 |a::v,b::w=>decide (a<b)||(decide (a=b)&&wlt v w)
 |_,_=>false
theorem Qbfp:∀{v w:List Int},v.length=w.length->wlt v w=true->∀a b,wlt (v++[a]) (w++[b])=true
 |[],_,_,h,_,_=>by simp[wlt] at h
 |_::_,[],_,h,_,_=>by simp[wlt] at h
 |x::v,y::w,c,h,a,b=>by
  simp only[wlt,Zat,Zc,decide_eq_true_eq,Zaq] at h |-;rcases h with h|⟨h1,h2⟩
  ·exact .inl h
  ·exact .inr ⟨h1,Qbfp (by simpa using c) h2 a b⟩
theorem Qbfq:∀(v:List Int){a b:Int},a<b->wlt (v++[a]) (v++[b])=true
 |[],a,b,h=>by simp[wlt,h]
 |x::v,a,b,h=>by simp[wlt,Qbfq v h]
theorem Qbch:∀{u v w:List Int},wlt u v=true->wlt v w=true->wlt u w=true
 |[],_,_,h,_=>by simp[wlt] at h
 |_::_,[],_,h,_=>by simp[wlt] at h
 |_::_,_::_,[],_,h=>by simp[wlt] at h
 |x::u,y::v,z::w,h,k=>by
  simp only[wlt,Zat,Zc,decide_eq_true_eq] at h k |-;rcases h with h|⟨h1,h2⟩
  ·rcases k with k|⟨k1,k2⟩
   ·left;omega
   ·left;omega
  ·rcases k with k|⟨k1,k2⟩
   ·left;omega
   ·exact .inr ⟨by omega,Qbch h2 k2⟩
theorem Q8w:∀v:List Int,wlt v v=false
 |[]=>rfl
 |x::v=>by simp[wlt,Q8w v]
def slt(v w:List Int):Prop:=v.length<w.length\/(v.length=w.length/\wlt v w=true)
def sle(v w:List Int):Prop:=v=w\/slt v w
theorem Q2f{u v w:List Int}(h:slt u v)(k:slt v w):slt u w:=by
 rcases h with h|⟨h1,h2⟩
 ·rcases k with k|⟨k1,k2⟩
  ·left;omega
  ·left;omega
 ·rcases k with k|⟨k1,k2⟩
  ·left;omega
  ·exact .inr ⟨by omega,Qbch h2 k2⟩
theorem Qbg0(v:List Int):¬slt v v:=by
 rintro (h|⟨_,h⟩)
 ·omega
 ·rw[Q8w] at h;cases h
theorem Q6v{u v w:List Int}(h:sle u v)(k:sle v w):sle u w:=by
 rcases h with rfl|h
 ·exact k
 ·rcases k with rfl|k
  ·exact .inr h
  ·exact .inr (Q2f h k)
theorem Qbog{u v w:List Int}(h:sle u v)(k:slt v w):slt u w:=by
 rcases h with rfl|h
 ·exact k
 ·exact Q2f h k
theorem Qbfr{u v:List Int}(h:sle u v)(k:sle v u):u=v:=by
 rcases h with h|h
 ·exact h
 ·rcases k with k|k
  all_goals grind [absurd,Q2f,Qbg0]
theorem Qbfs{v w:List Int}(h:slt v w)(a b:Int):slt (v++[a]) (w++[b]):=by
 rcases h with h|⟨h1,h2⟩
 ·left;simp;omega
 ·exact .inr ⟨by simp[h1],Qbfp h1 h2 a b⟩
theorem Qbl4{v w:List Int}(h:sle v w)(e:Int):sle (v++[e]) (w++[e]):=by
 rcases h with rfl|h
 ·exact .inl rfl
 ·exact .inr (Qbfs h e e)
theorem Q2g(v:List Int)(e:Int):slt v (v++[e]):=.inl (by simp)
section
variable{S:Type}(stp:S->Int->Option S)(al:List Int)(s0:S)
def dl(s:S):List Int->Option S
 |[]=>some s
 |e::w=>(stp s e).bind fun t=>dl t w
theorem Q95(w:List Int)(e:Int):∀s:S,dl stp s (w++[e])=(dl stp s w).bind fun t=>stp t e:=by
 induction w with
 |nil=>intro s;simp[dl]
 |cons x w a =>
  intro s;simp only[Zaq,dl];cases stp s x with
  |none=>rfl
  |some t=>grind
structure BQ(i:Nat)(done:List Int)(L:List (S×List Int)):Prop where
 root:L[0]? = some (s0,[])
 run:∀z∈L,dl stp s0 z.2=some z.1
 srt:∀(j k:Nat)y z,j<k->L[j]? = some y->L[k]? = some z->slt y.2 z.2
 nod:∀(j k:Nat)y z,j<k->L[j]? = some y->L[k]? = some z->y.1≠z.1
 par:∀z∈L,z.2=[]\/∃(j:Nat)(y:S×List Int)(e:Int),(j<i\/j=i/\e∈done)/\L[j]? = some y/\z.2=y.2++[e]
 cov:∀(j:Nat)(y:S×List Int)(e:Int)(s:S),L[j]? = some y->(j<i/\e∈al\/j=i/\e∈done)->stp y.1 e=some s->∃(k:Nat)(z:S×List Int),L[k]? = some z/\z.1=s/\sle z.2 (y.2++[e])
variable{stp al s0}
theorem BQ.start:BQ stp al s0 0 [] [(s0,[])]:=by
 refine⟨rfl,fun z a=>?_,fun j k y z d c b=>?_,fun j k y z d c b=>?_,fun z a=>?_,fun j y e s d c b=>?_⟩
 ·simp only[Zal] at a;subst a;rfl
 all_goals grind
theorem BQ.below{i:Nat}{done:List Int}{L:List (S×List Int)}(h:BQ stp al s0 i done L){x:S×List Int}(a:L[i]? = some x){e:Int}(c:∀y∈done,y<e):∀z∈L,slt z.2 (x.2++[e]):=by
 intro z b;rcases h.par z b with h1|⟨j,y,e',hj,hy,h1⟩
 ·rw[h1];left;simp
 ·rw[h1];rcases hj with hj|⟨rfl,hd⟩
  ·exact Qbfs (h.srt j i y x hj hy a) e' e
  ·rw[a] at hy;cases hy;exact .inr ⟨by simp,Qbfq _ (c e' hd)⟩
theorem BQ.keep{i:Nat}{done:List Int}{L:List (S×List Int)}(h:BQ stp al s0 i done L){x:S×List Int}(d:L[i]? = some x){e:Int}(n:∀y∈done,y<e)(m:∀s,stp x.1 e=some s->∃z∈L,z.1=s):BQ stp al s0 i (done++[e]) L:=by
 have hb:=h.below d n;refine⟨h.root,h.run,h.srt,h.nod,fun z a=>?_,fun j y f s b p c=>?_⟩
 ·rcases h.par z a with h1|⟨j,y,e',hj,hy,h1⟩
  ·exact .inl h1
  ·exact .inr ⟨j,y,e',by grind,hy,h1⟩
 ·by_cases l:j<i/\f∈al\/j=i/\f∈done
  ·exact h.cov j y f s b l c
  ·have g:j=i/\f=e:=by
    grind
   obtain⟨rfl,rfl⟩:=g;rw[d] at b;cases b;obtain⟨z,a,o⟩:=m s c;obtain⟨k,q,e2⟩:=Zao a;exact⟨k,z,by grind,o,.inr (hb z a)⟩
theorem BQ.add{i:Nat}{done:List Int}{L:List (S×List Int)}(h:BQ stp al s0 i done L){x:S×List Int}(g:L[i]? = some x){e:Int}(B:∀y∈done,y<e){s:S}(p:stp x.1 e=some s)(H:∀z∈L,z.1≠s):BQ stp al s0 i (done++[e]) (L++[(s,x.2++[e])]):=by
 have hb:=h.below g B;have n:=Zn g;have l:(L++[(s,x.2++[e])])[L.length]? = some (s,x.2++[e]):=by simp
 have I:=(Zm.1 g).1;refine⟨Qta h.root,fun z a=>?_,fun j k y z c C o=>?_,fun j k y z c C o=>?_,fun z a=>?_,fun j y f t F E m=>?_⟩
 ·rcases Zp.1 a with a|a
  ·exact h.run z a
  ·simp only[Zal] at a;subst a;dsimp only;rw[Q95,h.run x n,Za,p]
 ·have d:L[j]? = some y:=by
   grind
  rcases Q2b o with q|⟨_,rfl⟩
  ·exact h.srt j k y z c d q
  grind
 ·have d:L[j]? = some y:=by
   grind
  rcases Q2b o with q|⟨_,rfl⟩
  ·exact h.nod j k y z c d q
  grind
 ·rcases Zp.1 a with a|a
  ·rcases h.par z a with c|⟨j,y,e',hj,d,c⟩
   ·exact .inl c
   ·exact .inr ⟨j,y,e',by grind,Qta d,c⟩
  ·simp only[Zal] at a;subst a;exact .inr ⟨i,x,e,.inr ⟨rfl,by simp⟩,Qta g,rfl⟩
 ·have b : L[j]? = some y:=by
   grind
  by_cases u:j<i/\f∈al\/j=i/\f∈done
  ·obtain⟨k,z,A,w,v⟩:=h.cov j y f t b u m;exact⟨k,z,Qta A,w,v⟩
  ·have r:j=i/\f=e:=by
    grind
   obtain⟨rfl,rfl⟩:=r;rw[g] at b;cases b;rw[p] at m;cases m;exact⟨L.length,_,l,rfl,.inl rfl⟩
theorem BQ.next{i:Nat}{L:List (S×List Int)}(h:BQ stp al s0 i al L):BQ stp al s0 (i+1) [] L:=by
 refine⟨h.root,h.run,h.srt,h.nod,fun z c=>?_,fun j y f s b d a=>h.cov j y f s b ?_ a⟩
 ·rcases h.par z c with h1|⟨j,y,e',hj,hy,h1⟩
  ·exact .inl h1
  ·exact .inr ⟨j,y,e',.inl (by grind),hy,h1⟩
 grind
theorem BQ.nodup{i:Nat}{done:List Int}{L:List (S×List Int)}(h:BQ stp al s0 i done L):(L.map (·.1)).Nodup:=by
 rw[List.Nodup,Zbr];intro j k c b a;simp only[Zu] at c b;simp only[List.getElem_map];exact h.nod j k _ _ a (Zj c) (Zj b)
theorem BQ.cover{i:Nat}{L:List (S×List Int)}(h:BQ stp al s0 i [] L)(d:∀s e t,stp s e=some t->e∈al):∀(n:Nat)(v:List Int)(s:S),v.length=n->dl stp s0 v=some s->(∃(k:Nat)(z:S×List Int),L[k]? = some z/\z.1=s/\sle z.2 v)\/∃x,L[i]? = some x/\slt x.2 v
 |0,v,s,g,a=>by
  have:v=[]:=Zan g;subst this;simp only[dl,Zh] at a;subst a;exact .inl ⟨0,_,h.root,rfl,.inl rfl⟩
 |n+1,v,s,g,a=>by
  have c:v≠[]:=by grind
  obtain⟨u,e,rfl⟩ : ∃u e,v=u++[e]:=⟨v.dropLast,v.getLast c,(Zby c).symm⟩;rw[Q95] at a;cases hu:dl stp s0 u with
  |none=>rw[hu] at a;cases a
  |some t =>
   rw[hu,Za] at a;have j:u.length=n:=by simpa using g
   rcases BQ.cover h d n u t j hu with⟨k,z,b,rfl,p⟩|⟨x,b,B⟩
   ·by_cases o:k<i
    ·obtain⟨k',r,A,y,w⟩:=h.cov k z e s b (.inl ⟨o,d _ _ _ a⟩) a
     grind [Q6v,Qbl4]
    ·have m:=(Zm.1 b).1;obtain⟨x,f⟩ : ∃x,L[i]? = some x:=⟨L[i]'(by omega),Zj (by omega)⟩;refine .inr ⟨x,f,?_⟩;have l:sle x.2 z.2:=by
      by_cases q:i=k
      ·subst q;rw[f] at b;cases b;exact .inl rfl
      ·exact .inr (h.srt i k x z (by omega) f b)
     exact Qbog (Q6v l p) (Q2g u e)
   grind [Q2f,Q2g]
theorem BQ.least{i:Nat}{L:List (S×List Int)}(h:BQ stp al s0 i [] L)(d:∀s e t,stp s e=some t->e∈al){P:S->Prop}(c:∀(j:Nat)y,j<i->L[j]? = some y->¬P y.1){x:S×List Int}(b:L[i]? = some x){v:List Int}{s:S}(g:dl stp s0 v=some s)(l:P s):sle x.2 v:=by
 rcases h.cover d _ v s rfl g with⟨k,z,a,rfl,m⟩|⟨p,a,n⟩
 ·have f:¬k<i:=fun f=>c k z f a l;refine Q6v ?_ m;by_cases o:i=k
  ·subst o;rw[b] at a;cases a;exact .inl rfl
  ·exact .inr (h.srt i k x z (by omega) b a)
 ·rw[b] at a;cases a;exact .inr n
theorem BQ.none{L:List (S×List Int)}(h:BQ stp al s0 L.length [] L)(a:∀s e t,stp s e=some t->e∈al){P:S->Prop}(b:∀(j:Nat)y,L[j]? = some y->¬P y.1){v:List Int}{s:S}(c:dl stp s0 v=some s):¬P s:=by
 rcases h.cover a _ v s rfl c with⟨k,z,d,rfl,g⟩|⟨f,d,i⟩
 all_goals grind
end
end Go.Abs
end
section
namespace Go.Abs
open Go
theorem Qboh{α a:Type}{o:Option α}{x:α}{K:α->Option a}{r:Option a}(h:o=some x)(b:K x=r):o.bind K=r:=by rw[h];exact b
theorem swoI:Go.Sort.SWO Qgq:=⟨fun x=>by simp[Qgq],fun x y z b a=>by simp[Qgq] at *;omega,fun x y z b a=>by simp[Qgq] at *;omega⟩
theorem Qbkg{l:List Int}(h:l.Nodup):(Qi8 Qgq l).Pairwise (· < ·)/\∀x,x∈Qi8 Qgq l↔x∈l:=by
 have hp:=Qlv Qgq l;refine⟨?_,fun x=>hp.mem_iff⟩;have a:=Qmy swoI l;have b:=(hp.nodup_iff).2 h;exact (a.and b).imp fun⟨c,d⟩=>by simp[Qgq] at c;omega
inductive Rch(a:Qa)(ev fr:List Int):Int->Prop where
 |base {s:Int}:s∈fr->Rch a ev fr s
 |step {x:Qb}:Rch a ev fr x.From->x∈a.zD->x.Event∈ev->Rch a ev fr x.To
open Classical in
noncomputable def Qv1(a:Qa)(fr ev:List Int):List Int:=(upto a.zF).filter fun s=>decide (Rch a ev fr s)
theorem Qvn(a:Qa)(fr ev:List Int):(Qv1 a fr ev).Pairwise (· < ·):=(Qbjj _).filter _
theorem Qyr{a:Qa}{fr ev:List Int}{s:Int}:s∈Qv1 a fr ev↔(0<=s/\s<a.zF)/\Rch a ev fr s:=by
 simp[Qv1,Zq,Qyo,decide_eq_true_eq]
theorem Rch.range{a:Qa}(h:Right a){ev fr:List Int}(d:∀s∈fr,0<=s/\s<a.zF){s:Int}(hr:Rch a ev fr s):0<=s/\s<a.zF:=by
 induction hr with
 |base c=>exact d _ c
 |step _ b _ _=>have:=h.ed0 _ b;grind
theorem Q6w{a:Qa}(h:Right a){fr ev:List Int}(b:∀s∈fr,0<=s/\s<a.zF){s:Int}:s∈Qv1 a fr ev↔Rch a ev fr s:=by
 rw[Qyr];exact⟨fun h=>h.2,fun hr=>⟨hr.range h b,hr⟩⟩
theorem Rch.mono{a:Qa}{ev fr b : List Int}(f:∀s∈fr,Rch a ev b s){s:Int}(hr:Rch a ev fr s):Rch a ev b s:=by
 induction hr with
 |base e=>exact f _ e
 |step _ d he c=>exact .step c d he
theorem Qbci{a:Qa}{fr b ev:List Int}(h:∀s,s∈fr↔s∈b):Qv1 a fr ev=Qv1 a b ev:=by
 refine Q93 (Qvn _ _ _) (Qvn _ _ _) fun x=>?_;rw[Qyr,Qyr];have:Rch a ev fr x↔Rch a ev b x:=⟨Rch.mono fun s c=>.base ((h s).1 c),Rch.mono fun s c=>.base ((h s).2 c)⟩;rw[this]
theorem Qbkh{a:Qa}(h:Right a){fr ev l:List Int}(f:∀s∈fr,0<=s/\s<a.zF)(e:l.Pairwise (· < ·))(j:∀s∈l,Rch a ev fr s)(i:∀s∈fr,s∈l)(g:∀x∈a.zD,x.From∈l->x.Event∈ev->x.To∈l):l=Qv1 a fr ev:=by
 refine Q93 e (Qvn _ _ _) fun x=>?_;rw[Q6w h f];refine⟨j x,fun hr=>?_⟩
 induction hr with
 |base d=>exact i _ d
 |step _ c he b=>exact g _ c b he
def Qbg1(a:Qa)(b:List Int):List Int:=a.zB.filter fun x=>decide (x∈b)
def Q6x(a:Qa)(b:List Int):List Int:=a.zB.filter fun x=>!decide (x∈b)
def Q6y(a:Qa)(b:List Int)(e:Int):List Int:=b.flatMap fun s=>((outP a s).filter fun x=>x.Event==e).map (·.To)
noncomputable def Q4c(a:Qa)(b c:List Int)(e:Int):List Int:=Qv1 a (Q6y a c e) (Q6x a b)
noncomputable def Qye(a:Qa)(b:List Int):List Int:=if a.zF=0 then [] else Qv1 a [0] (Q6x a b)
noncomputable def estP(a:Qa)(b c:List Int):List Int:=c.foldl (Q4c a b) (Qye a b)
structure Sts(a:Qa)(l:List Int):Prop where
 rg:∀s∈l,0<=s/\s<a.zF
 so:l.Pairwise (· < ·)
theorem Sts.len{a:Qa}{l:List Int}(h:Sts a l):l.length<=a.zF.toNat:=by
 have:=Qjf (a:=0) (b:=a.zF) h.so h.rg;omega
theorem Q8x(a:Qa)(fr ev:List Int):Sts a (Qv1 a fr ev):=⟨fun s b=>(Qyr.1 b).1,Qvn _ _ _⟩
theorem Qbcj(a:Qa)(b c:List Int)(e:Int):Sts a (Q4c a b c e):=Q8x _ _ _
theorem Q8y(a:Qa)(b:List Int):Sts a (Qye a b):=by
 unfold Qye;split
 ·exact⟨by simp,by simp⟩
 ·exact Q8x _ _ _
theorem Q2h{a:Qa}{b:List Int}{e t:Int}:t∈Q6y a b e↔∃x∈a.zD,x.From∈b/\x.Event=e/\x.To=t:=by
 simp only[Q6y,outP,List.mem_flatMap,Zl,Zq,beq_iff_eq]
 grind
theorem Q0w{a:Qa}(h:Right a){b:List Int}{e:Int}:∀s∈Q6y a b e,0<=s/\s<a.zF:=by
 intro s d;obtain⟨x,c,_,_,rfl⟩:=Q2h.1 d;exact⟨(h.ed0 x c).2.2.1,(h.ed0 x c).2.2.2.1⟩
theorem Qbdt{α a R:Type}{F:(List a×Int->Option R)->List a×Int->Option R}{l:List α}{fuel:Nat}(p:α->Bool)(f:α->a)(b:List a->Option R)(step:∀(k:List a×Int->Option R)(n:Nat)(h:n<l.length)(s:List a),s.length<=n->F k (s,(n:Int))=k (if p l[n] then s++[f l[n]] else s,((n+1:Nat):Int)))(c:∀(k:List a×Int->Option R)(s:List a),F k (s,(l.length:Int))=b s)(g:l.length<fuel):Qbp F fuel ([],0)=b ((l.filter p).map f):=by
 refine (Qhx (len:=l.length) (fun n(s:List a)=>(s,(n:Int))) (fun n s=>s=((l.take n).filter p).map f) (fun n s=>b ((l.filter p).map f)) ?_ ?_ fuel 0 [] (Zw _) (by omega) (by simp))
 ·rintro k n s e rfl d
  grind [Go.step,List.length_map,Nat.le_trans,List.length_filter_le,List.length_take,List.take_succ_eq_append_getElem]
 grind
structure RI(a:Qa)(ev fr o:List Int):Prop where
 rch:∀s∈o,Rch a ev fr s
 sub:∃ad,o=fr++ad/\Fnd a ad
theorem RI.len{a:Qa}{ev fr o:List Int}(h:RI a ev fr o):o.length<=fr.length+a.zF.toNat:=by
 obtain⟨c,rfl,b⟩:=h.sub;have:=b.len
 grind
theorem RI.base{a:Qa}{ev fr o:List Int}(h:RI a ev fr o):∀s∈fr,s∈o:=by
 obtain⟨c,rfl,b⟩:=h.sub
 grind
end Go.Abs
end
section
namespace Go.Abs
open Go
theorem Qys(ob u v:List Int):obsW ob (u++v)=obsW ob u++obsW ob v:=by unfold obsW;rw[List.filter_append]
theorem Q2i(ob:List Int)(e:Int):obsW ob [e]=if e∈ob then [e] else []:=by
 grind [obsW]
theorem Q4s{ob u:List Int}:obsW ob u=[]↔∀e∈u,e∉ob:=by
 unfold obsW
 simp_all
theorem Q8z{ob:List Int}{o:List Int}{e:Int}:∀(n:Nat)(u:List Int),u.length=n->obsW ob u=o++[e]->∃d c,u=d++e::c/\obsW ob d=o/\obsW ob c=[]/\e∈ob
 |0,u,k,h=>by
  grind [List.eq_nil_of_length_eq_zero,obsW]
 |n+1,u,k,h=>by
  have b:u≠[]:=by grind
  obtain⟨w,f,rfl⟩ : ∃w f,u=w++[f]:=⟨u.dropLast,u.getLast b,(Zby b).symm⟩;rw[Qys,Q2i] at h;by_cases g:f∈ob
  ·rw[if_pos g] at h;obtain⟨j,i⟩:=List.append_inj' h rfl;simp only[Zo,and_true] at i;subst i;exact⟨w,[],rfl,j,rfl,g⟩
  ·rw[if_neg g,Zar] at h;obtain⟨d,c,rfl,j,i,l⟩:=Q8z n w (by simpa using k) h;exact⟨d,c++[f],by simp,j,by rw[Qys,i,Q2i,if_neg g];rfl,l⟩
section
variable{a:Qa}(h:Right a)
include h
theorem Q6z:∀(u:List Int)(s:Int),0<=runE a s u->∀e∈u,e∈a.zB
 |[],s,_,e,he=>by cases he
 |f::u,s,b,e,he=>by
  rw[runE] at b;have hr:0<=Q1 a s f:=by
   grind [Qb0,Qi2]
  rcases Qb0 h s f with h1|h1
  ·omega
  ·rcases Zah.1 he with rfl|he
   ·exact h1.2.2.2.2
   ·exact Q6z u _ b e he
theorem Q2j{s e t:Int}(c:Q1 a s e=t)(d:0<=t):∃x∈a.zD,x.From=s/\x.Event=e/\x.To=t:=by
 subst c;obtain⟨x,b,f⟩:=(Qmb h).1 d;have j:=Qou h b;obtain⟨i,g⟩:=Zq.1 b
 grind
theorem Q2k{x:Qb}(b:x∈a.zD):Q1 a x.From x.Event=x.To:=Qou h (Zq.2 ⟨b,by simp⟩)
theorem Qbki{ev fr:List Int}(t:∀s∈fr,0<=s){x:Int}:Rch a ev fr x↔∃s∈fr,∃u,(∀e∈u,e∈ev)/\runE a s u=x/\0<=x:=by
 constructor
 ·intro hr
  induction hr with
  |base b=>exact⟨_,b,[],by simp,rfl,t _ b⟩
  |step hr i j d =>
   rename_i y;obtain⟨s,b,u,l,c,k⟩:=d;have r:=h.ed0 y i;refine⟨s,b,u++[y.Event],fun e q=>?_,?_,r.2.2.1⟩
   ·grind
   ·rw[Qlk,c];show Q1 a y.From y.Event=y.To;exact Q2k h i
 ·rintro⟨s,b,u,l,c,k⟩;have key:∀(u:List Int)(s:Int),Rch a ev fr s->(∀e∈u,e∈ev)->0<=runE a s u->Rch a ev fr (runE a s u):=by
   intro u
   induction u with
   |nil=>intro s b _ _;exact b
   |cons f u d =>
    intro s b n g;rw[runE] at g |-;have hr:0<=Q1 a s f:=by
     grind [Qb0,Qi2]
    obtain⟨y,o,v,e2,e3⟩:=Q2j h (rfl:Q1 a s f=_) hr;refine d _ ?_ (fun e j=>n e (by simp[j])) g;rw[<-e3];exact .step (by rw[v];exact b) o (by grind)
  rw[<-c];exact key u s (.base b) l (by rw[c];exact k)
theorem Q96{ob:List Int}:∀(n:Nat)(o:List Int),o.length=n->(∀e∈o,e∈ob)->∀x,x∈estP a ob o↔0<a.zF/\0<=x/\∃u,obsW ob u=o/\runE a 0 u=x
 |0,o,r,_,x=>by
  have:o=[]:=Zan r;subst this;have L:=h.st;show x∈Qye a ob↔_;unfold Qye;by_cases N:a.zF=0
  ·grind
  ·rw[if_neg N,Q6w h (fun s d=>by grind),Qbki h (fun s d=>by simp at d;omega)];constructor
   ·rintro⟨s,d,u,g,c,b⟩;simp at d;subst d;refine⟨by omega,b,u,Q4s.2 fun e l=>?_,c⟩;have:=(Zq.1 (g e l)).2;simpa using this
   ·rintro⟨_,b,u,g,c⟩;refine⟨0,by simp,u,fun e l=>Zq.2 ⟨Q6z h u 0 (by rw[c];exact b) e l,?_⟩,c,b⟩;simpa using Q4s.1 g e l
 |n+1,o,r,ho,x=>by
  have q:o≠[]:=by grind
  obtain⟨p,e,rfl⟩ : ∃p e,o=p++[e]:=⟨o.dropLast,o.getLast q,(Zby q).symm⟩;have I:=Q96 n p (by simpa using r) fun f k=>ho f (by simp[k]);have l:e∈ob:=ho e (by simp);have O:estP a ob (p++[e])=Q4c a ob (estP a ob p) e:=by unfold estP;grind
  rw[O,Q4c,Q6w h (Q0w h),Qbki h (fun s d=>(Q0w h s d).1)];constructor
  ·rintro⟨t,J,i,g,c,b⟩;obtain⟨y,E,C,z,w⟩:=Q2h.1 J;obtain⟨v,Q,j,F,P⟩:=(I _).1 C;refine⟨v,b,j++e::i,?_,?_⟩
   ·rw[Qys,F,show e::i=[e]++i from rfl,Qys,Q2i,if_pos l,Q4s.2 fun f k=>?_]
    ·simp
    ·have:=(Zq.1 (g f k)).2;simpa using this
   grind [Qlk,runE,Q2k]
  ·rintro⟨v,b,u,g,c⟩;obtain⟨j,i,rfl,R,H,_⟩:=Q8z _ u rfl g;rw[Qlk,runE] at c;have hr:0<=Q1 a (runE a 0 j) e:=by
    grind [Qb0,runE,Qi2]
   have M:0<=runE a 0 j:=by
    grind [Qb0,runE]
   obtain⟨y,E,C,z,w⟩:=Q2j h (rfl:Q1 a (runE a 0 j) e=_) hr;refine⟨Q1 a (runE a 0 j) e,Q2h.2 ⟨y,E,?_,z,w⟩,i,fun f k=>Zq.2 ⟨Q6z h i _ (by rw[c];exact b) f k,by simpa using Q4s.1 H f k⟩,c,b⟩
   grind
end
abbrev Cf:=Int×Int×List Int
def k0(a:Qa):Int:=if a.zF=0 then -1 else 0
noncomputable def stpC(A a:Qa)(ob:List Int)(s:Cf)(e:Int):Option Cf :=
 if 0<=Q1 A s.1 e then some (Q1 A s.1 e,Q1 a s.2.1 e,if e∈ob then Q4c a ob s.2.2 e else s.2.2) else none
noncomputable def s0C(a:Qa)(ob:List Int):Cf:=(0,k0 a,Qye a ob)
theorem Qbkj{A a:Qa}(hA:Right A){ob:List Int}:∀s e t,stpC A a ob s e=some t->e∈A.zB:=by
 grind [stpC,Qb0]
theorem Q97{A a:Qa}(hA:Right A)(ob:List Int):∀(n:Nat)(v:List Int),v.length=n->dl (stpC A a ob) (s0C a ob) v=if 0<=runE A 0 v then some (runE A 0 v,runE a (k0 a) v,estP a ob (obsW ob v)) else none
 |0,v,c=>by
  have:v=[]:=Zan c;subst this
  rfl
 |n+1,v,c=>by
  have b:v≠[]:=by intro q;rw[q] at c;simp at c
  obtain⟨w,e,rfl⟩ : ∃w e,v=w++[e]:=⟨v.dropLast,v.getLast b,(Zby b).symm⟩;rw[Q95,Q97 hA ob n w (by simpa using c)];have eA:runE A 0 (w++[e])=Q1 A (runE A 0 w) e:=by rw[Qlk];rfl
  have i:runE a (k0 a) (w++[e])=Q1 a (runE a (k0 a) w) e:=by rw[Qlk];rfl
  rw[eA,i];by_cases g:0<=runE A 0 w
  ·rw[if_pos g,Za];unfold stpC;dsimp only;by_cases f:0<=Q1 A (runE A 0 w) e
   ·rw[if_pos f,if_pos f,Qys,Q2i];by_cases d:e∈ob
    ·rw[if_pos d,if_pos d];unfold estP;rw[List.foldl_append];rfl
    ·rw[if_neg d,if_neg d,Zar]
   ·rw[if_neg f,if_neg f]
  ·rw[if_neg g,Option.bind_none,if_neg];rcases Qb0 hA (runE A 0 w) e with q|q
   ·omega
   ·exact absurd q.2.2.1 g
def LgA(a:Qa)(w:List Int):Prop:=0<=runE a (k0 a) w
theorem Qbdu{a:Qa}(h:Right a)(w:List Int):genP a w=true↔LgA a w:=by
 rw[genE h];have b:=h.st;unfold LgA k0;by_cases c:a.zF=0
 ·simp_all[if_pos,Qi2,decide_eq_false]
 grind
def RefC(p:Qf)(T:List (List Int))(a:Qa)(s:Cf)(e:Int):Prop :=
 e∈p.Controllable/\0<=Q1 p.Plant (ati (T.getD s.1.toNat []) 0) e/\Q1 a s.2.1 e<0/\∃x∈s.2.2,0<=Q1 a x e
def RefW(p:Qf)(B:Qa)(v:List Int)(e:Int):Prop :=
 e∈p.Controllable/\0<=runE p.Plant 0 (v++[e])/\¬LgA B (v++[e])/\∃u,obsW p.Observable u=obsW p.Observable v/\LgA B (u++[e])
theorem Qbft{a:Qa}(h:0<a.zF):k0 a=0:=by unfold k0;rw[if_neg (by omega)]
section
variable{p:Qf}(h:ProbW p){A B m:Qa}{T U:List (List Int)}(hl:Q6t p A B m T U)
include h hl
theorem Qbdv{a:Qa}(ha:Right a)(l:∀w,LgA a w↔LgA B w)(J:0<A.zF){v:List Int}{s:Cf}(i:dl (stpC A a p.Observable) (s0C a p.Observable) v=some s)(e:Int):RefC p T a s e↔RefW p B v e:=by
 rw[Q97 hl.hA.r _ _ v rfl] at i;by_cases o:0<=runE A 0 v
 ·rw[if_pos o] at i;cases i;unfold RefC RefW;dsimp only;have c:T≠[]:=by
   intro q;have:=hl.hA.st
   grind
  obtain⟨k,t,C,O,n,N⟩:=Qbcf h hl v 0 _ (hl.eA.z c) o;rw[show (((0:Nat):Int))=0 from rfl] at C;have j:ati (List.replicate [p.Plant,p.Ambient].length (0:Int)) 0=0:=rfl;rw[j] at n;have I:T.getD (runE A 0 v).toNat []=t:=by
   grind
  rw[I,n];have L:runE p.Plant 0 (v++[e])=Q1 p.Plant (runE p.Plant 0 v) e:=by rw[Qlk];rfl
  have e2:Q1 a (runE a (k0 a) v) e=runE a (k0 a) (v++[e]):=by rw[Qlk];rfl
  rw[L,e2,<-l];have b:∀e∈obsW p.Observable v,e∈p.Observable:=fun e H=>by
   have:=(Zq.1 H).2;simpa using this
  refine and_congr_right fun _=>and_congr_right fun _=>and_congr (by unfold LgA;omega) ?_;constructor
  ·rintro⟨x,E,q⟩;obtain⟨y,M,u,g,f⟩:=(Q96 ha _ _ rfl b x).1 E;refine⟨u,g,(l _).1 ?_⟩;unfold LgA;rw[Qlk,Qbft y,f];exact q
  ·rintro⟨u,g,f⟩;have r5:=(l _).2 f;unfold LgA at r5;rw[Qlk] at r5;have d:0<=runE a (k0 a) u:=by
    rcases Qb0 ha (runE a (k0 a) u) e with q|q
    ·have:runE a (runE a (k0 a) u) [e]=Q1 a (runE a (k0 a) u) e:=rfl;omega
    ·exact q.2.2.1
   have F:=ha.st;have hp:0<a.zF:=by
    refine Zca fun q=>?_;unfold k0 at d;rw[if_pos (by omega),Qi2 ha] at d;omega
   rw[Qbft hp] at r5 d;exact⟨runE a 0 u,(Q96 ha _ _ rfl b _).2 ⟨hp,d,u,g,rfl⟩,r5⟩
 grind
omit h in
theorem Qbg2(w:List Int):LgA m w↔LgA B w:=by
 rw[<-Qbdu hl.hB.r,<-Qbgx hl];unfold LgA k0;by_cases q:m.zF=0
 ·rw[if_pos q,if_pos (by simp[q])]
 ·rw[if_neg q,if_neg (by simp[q])]
end
end Go.Abs
end
section
namespace Go.Abs
open Go
theorem Qbkk{a:Qa}{ob:List Int}(o:List Int):Sts a (estP a ob o):=by
 unfold estP;rcases List.eq_nil_or_concat o with rfl|⟨l,x,rfl⟩
 all_goals grind [Q8y,Qbcj]
theorem Qbfu{α a:Type}{f:α->a}{l:List α}{i:Nat}{x:α}(h:l[i]? = some x):(l.map f)[i]? = some (f x):=by grind
section
variable{p:Qf}(h:ProbW p){A B m:Qa}{T U:List (List Int)}(hl:Q6t p A B m T U)
include h hl
end
end Go.Abs
end
section
namespace Go.Abs
open Go
theorem Q0x{α:Type}{x o:List α}{e:α}:x++[e] <+: o↔x <+: o/\o[x.length]? = some e:=by
 constructor
 ·rintro⟨t,rfl⟩
  grind
 ·rintro⟨⟨t,rfl⟩,h⟩;rw[Zau (Ze _),Nat.sub_self] at h;cases t with
  |nil=>cases h
  |cons f t =>
   simp_all
abbrev Sp:=Int×Int
def Qbck(ob o:List Int)(d e:Int):Option Int:=if e∈ob then (if o[d.toNat]? = some e then some (d+1) else none) else some d
def stp2(a:Qa)(ob o:List Int)(s:Sp)(e:Int):Option Sp:=if 0<=Q1 a s.1 e then (Qbck ob o s.2 e).map fun d=>(Q1 a s.1 e,d) else none
theorem Qbcl{a:Qa}{ob o:List Int}{s:Sp}{e:Int}(b:Qbck ob o s.2 e=none):stp2 a ob o s e=none:=by
 grind [stp2]
section
variable{a:Qa}(h:Right a){ob o:List Int}
include h
theorem Qbkl:∀s e t,stp2 a ob o s e=some t->e∈a.zB:=by
 grind [stp2,Qb0]
theorem Q98:∀(n:Nat)(u:List Int),u.length=n->∀s:Sp,dl (stp2 a ob o) (0,0) u=some s↔s=(runE a 0 u,((obsW ob u).length:Int))/\0<=runE a 0 u/\obsW ob u <+: o
 |0,u,g,s=>by
  have:u=[]:=Zan g;subst this;simp only[dl,Zh,runE,obsW,List.filter_nil,Zaj]
  grind
 |n+1,u,g,s=>by
  have f:u≠[]:=by intro q;rw[q] at g;simp at g
  obtain⟨w,e,rfl⟩ : ∃w e,u=w++[e]:=⟨u.dropLast,u.getLast f,(Zby f).symm⟩;have l:=Q98 n w (by simpa using g);rw[Q95];have r:runE a 0 (w++[e])=Q1 a (runE a 0 w) e:=by rw[Qlk];rfl
  rw[r,Qys,Q2i];have d:0<=Q1 a (runE a 0 w) e->0<=runE a 0 w:=fun q=>by
   rcases Qb0 h (runE a 0 w) e with b|b
   ·omega
   ·exact b.2.2.1
  cases hd:dl (stp2 a ob o) (0,0) w with
  |none =>
   rw[Option.bind_none];constructor
   ·intro q;cases q
   ·rintro⟨_,p,b⟩;have m:obsW ob w <+: o:=by
     by_cases c:e∈ob
     ·rw[if_pos c] at b;exact (Q0x.1 b).1
     ·rw[if_neg c,Zar] at b;exact b
    have:=(l (runE a 0 w,((obsW ob w).length:Int))).2 ⟨rfl,d p,m⟩;rw[hd] at this;cases this
  |some t =>
   obtain⟨rfl,v,k⟩:=(l t).1 hd;rw[Za];unfold stp2 Qbck;dsimp only;by_cases i:0<=Q1 a (runE a 0 w) e
   ·rw[if_pos i];by_cases c:e∈ob
    ·rw[if_pos c,if_pos c,Zaw];by_cases j:o[(obsW ob w).length]? = some e
     ·rw[if_pos j,Zad];constructor
      ·intro q;refine⟨?_,i,Q0x.2 ⟨k,j⟩⟩;rw[<-Zbq q];simp
      ·rintro⟨rfl,_⟩;simp
     ·rw[if_neg j,Option.map_none];constructor
      ·intro q;cases q
      ·rintro⟨_,_,q⟩;exact absurd (Q0x.1 q).2 j
    ·rw[if_neg c,if_neg c,Zad,Zar];constructor
     ·intro q;exact⟨(Zbq q).symm,i,k⟩
     ·rintro⟨rfl,_⟩;rfl
   ·rw[if_neg i];constructor
    ·intro q;cases q
    ·rintro⟨_,q,_⟩;exact absurd q i
end
def Qbkm(a:Qa)(o:List Int):List Sp:=(upto a.zF).flatMap fun s=>(upto (o.length+1)).map fun d=>(s,d)
theorem Qbkn(a:Qa)(o:List Int):(Qbkm a o).length=a.zF.toNat*(o.length+1):=by
 unfold Qbkm;rw[List.length_flatMap];have:((upto a.zF).map fun s=>((upto ((o.length:Int)+1)).map fun d=>(s,d)).length)=List.replicate a.zF.toNat (o.length+1):=by
  refine List.ext_getElem (by simp[Qpy]) fun n c b=>?_;simp[Qpy]
 rw[this];simp
theorem Qbko{a:Qa}{o:List Int}{s d:Int}(c:0<=s/\s<a.zF)(b:0<=d/\d<=o.length):(s,d)∈Qbkm a o:=by
 unfold Qbkm;exact List.mem_flatMap.2 ⟨s,Qyo.2 c,Zl.2 ⟨d,Qyo.2 ⟨b.1,by omega⟩,rfl⟩⟩
section
variable{a:Qa}(h:Right a){ob o:List Int}
include h
theorem Qbpf(e:0<a.zF){i:Nat}{done:List Int}{L:List (Sp×List Int)}(b:BQ (stp2 a ob o) a.zB (0,0) i done L):L.length<=a.zF.toNat*(o.length+1):=by
 have:=Qvl b.nodup (m:=Qbkm a o) fun x d=>by
  obtain⟨z,c,rfl⟩:=Zl.1 d;have f:=(Q98 h _ _ rfl _).1 (b.run z c);have hr:=Qyq h z.2 0 (Zbg _) e
  grind [Qbko]
 rwa [Zu,Qbkn] at this
end
end Go.Abs
end
section
namespace Go.Abs
open Go
def Qbpg(p:Qf)(B:Qa)(v:List Int)(e:Int)(u:List Int):Prop:=obsW p.Observable u=obsW p.Observable v/\LgA B (u++[e])
structure LeastW(p:Qf)(A B:Qa)(w:Qb6):Prop where
 run:0<=runE A 0 w.Other
 ref:RefW p B w.Other w.Event
 lst:∀v e,0<=runE A 0 v->RefW p B v e->sle w.Other v
 ev:∀e,RefW p B w.Other e->w.Event<=e
 goal:Qbpg p B w.Other w.Event w.Word
 wl:∀u,Qbpg p B w.Other w.Event u->sle w.Word u
theorem LeastW.eq{p:Qf}{A B:Qa}{w w' : Qb6}(h:LeastW p A B w)(d : LeastW p A B w'):w=w':=by
 have e:w.Other=w'.Other:=Qbfr (h.lst _ _ d.run d.ref) (d.lst _ _ h.run h.ref);have e2:w.Event=w'.Event:=by
  have g:=h.ev w'.Event (by rw[e];exact d.ref);have f:=d.ev w.Event (by rw[<-e];exact h.ref);omega
 have e3:w.Word=w'.Word:=Qbfr (h.wl _ (by rw[e,e2];exact d.goal)) (d.wl _ (by rw[<-e,<-e2];exact h.goal));obtain⟨a,b,c⟩:=w
 simp_all
section
variable{p:Qf}(h:ProbW p){A B m:Qa}{T U:List (List Int)}(hl:Q6t p A B m T U)
include h hl
end
end Go.Abs
end
section
namespace Go.Abs
open Go
theorem Qbdw{l:List Int}(h:l.Pairwise (· <= ·)):(Lib.compact l).Pairwise (· < ·):=by
 unfold Lib.compact Lib.compactUpTo;rw[List.pairwise_map];refine List.Pairwise.imp_of_mem ?_ (List.pairwise_lt_range.filter _);intro i j r n o;have c:=Zq.1 n;have a:j<l.length:=List.mem_range.1 c.1;have d:=c.2;simp only[Lib.keeps,decide_eq_true_eq] at d;have f:l.toArray[j]! ≠ l.toArray[j-1]!:=d.resolve_left (by omega);have e:∀k,k<l.length->l.toArray[k]! = l[k]!:=fun k d=>by simp[d]
 have b:∀p q,p<=q->q<l.length->l[p]! <= l[q]!:=fun p q m g=>by
  rw[getElem!_pos l p (by omega),getElem!_pos l q g];rcases Zak p q with hlt|hge
  ·grind [List.pairwise_iff_getElem]
  grind
 rw[e i (by omega),e j a];rw[e j a,e (j-1) (by omega)] at f;have t:=b i (j-1) (by omega) (by omega);have s:=b (j-1) j (by omega) a;omega
theorem Qbl5{l:List Int}{x:Int}:x∈Lib.compact l↔x∈l:=by
 unfold Lib.compact Lib.compactUpTo;rw[Zl];constructor
 ·grind
 ·intro c;have b:l.idxOf x<l.length:=List.idxOf_lt_length_of_mem c;have a:∀k(h:k<l.length),l.toArray[k]! = l[k]:=fun k h=>by simp[h]
  refine⟨l.idxOf x,Zq.2 ⟨List.mem_range.2 b,?_⟩,by grind⟩;simp only[Lib.keeps,decide_eq_true_eq];by_cases e:l.idxOf x=0
  ·exact .inl e
  ·refine .inr ?_;rw[a _ b,a _ (by omega),List.getElem_idxOf b];intro d;have:=List.not_of_lt_findIdx (p:=(· == x)) (xs:=l) (i:=l.idxOf x-1) (by show _<l.idxOf x;omega);simp[<-d] at this
end Go.Abs
end
section
namespace Go.Abs
open Go
theorem Qbkp{l:List Int}(h:l.Pairwise (· < ·)):Lib.compact l=l:=Q93 (Qbdw (h.imp fun q=>by omega)) h fun x=>Qbl5
section
variable{p:Qf}(h:ProbW p){A B m:Qa}{T U:List (List Int)}(hl:Q6t p A B m T U)
include h
theorem Q60(e:Int):Qcu (sysP p A m T) e=some (decide (e∈p.Observable)):=by
 unfold Qcu Qs;show (Qbs p.Observable e).bind _=_;rw[Qnz (by have:=h.oe.len;unfold big;omega)];rfl
include hl
structure StI(m:Qa)(ob fr:List Int)(i:Nat)(done:List Int)(o:List Int):Prop where
 nd:o.Nodup
 rch:∀s∈o,Rch m (Q6x m ob) fr s
 sub:∀s∈fr,s∈o
 cl:∀(j:Nat)s e,o[j]? = some s->(j<i/\e∈m.zB\/j=i/\e∈done)->e∉ob->0<=Q1 m s e->Q1 m s e∈o
theorem Q61{fr:List Int}(hf:∀s∈fr,0<=s/\s<m.zF)(hn:fr.Nodup):Qe9 (sysP p A m T) fr=some (Qv1 m fr (Q6x m p.Observable)):=by
 unfold Qe9 Qbb;obtain⟨fuel,hfu,hge⟩ : ∃f,Q0=f/\1099511627776<=f:=⟨_,rfl,Ze _⟩;have E:=hl.rm;have hst:=E.st;have hal:=h.pe.len;have hev:(sysP p A m T).events_=m.zB:=by rw[hl.am];rfl
 have hlg:(sysP p A m T).language_=edM m:=rfl;rw[<-hl.am] at hal;have u:∀{i:Nat}{done o:List Int},StI m p.Observable fr i done o->o.length<=4096:=fun l=>by
  have:=Qvl l.nd (m:=upto m.zF) fun s d=>Qyo.2 ((l.rch s d).range E hf);rw[Qpy] at this;omega
 have hfl:fr.length<=4096:=by
  have:=Qvl hn (m:=upto m.zF) fun s d=>Qyo.2 (hf s d);rw[Qpy] at this;omega
 rw[hfu,Qvm (by unfold lim;omega),Za,hev,hlg];refine Qyc (P:=fun o:List Int=>StI m p.Observable fr o.length [] o) (Q:=fun r=>r=some (Qv1 m fr (Q6x m p.Observable))) ?_ ?_
 ·refine Qb1 (fun x:List Int×Int=>∃i:Nat,x.2=(i:Int)/\i<=x.1.length/\StI m p.Observable fr i [] x.1) (fun x=>4097-x.2.toNat) (fun _ r=>∃o,r=some o/\StI m p.Observable fr o.length [] o) (fun k x g ih=>?_) fuel (fr,0) ⟨0,rfl,Zw _,hn,fun s d=>.base d,fun s d=>d,fun j s e _ q=>(by grind)⟩ (by dsimp only;omega);obtain⟨o,x⟩:=x;obtain⟨i,g,hi,l⟩:=g;dsimp only at g hi l;subst g;dsimp only;have hol:=u l;by_cases hlt:i<o.length
  ·have N:o[i]? = some o[i]:=Zj hlt;generalize o[i]=s at N;rw[if_pos (by omega)];refine Qyc (P:=fun o' : List Int=>StI m p.Observable fr i m.zB o'/\o <+: o') (Q:=fun r=>∃o,r=some o/\StI m p.Observable fr o.length [] o) ?_ ?_
   ·refine Qb1 (fun x:List Int×Int=>∃n:Nat,x.2=(n:Int)/\n<=m.zB.length/\StI m p.Observable fr i (m.zB.take n) x.1/\o <+: x.1) (fun x=>m.zB.length-x.2.toNat) (fun _ r=>∃o',r=some o'/\StI m p.Observable fr i m.zB o'/\o <+: o') (fun k2 x g L=>?_) fuel _ ⟨0,rfl,by omega,by simpa using l,Zbp _⟩ (by dsimp only;omega);obtain⟨H,x⟩:=x;obtain⟨n,g,hnn,c,hp⟩:=g;dsimp only at g c hp;subst g;dsimp only;have hol2:=u c;by_cases C:n<m.zB.length
    ·have M:H[i]? = some s:=Qg2 hp N;have hi2:=(Zm.1 M).1;have S:getO H (i:Int)=some s:=by grind [Qy,List.getElem?_eq_getElem]
     have htk:m.zB.take (n+1)=m.zB.take n++[m.zB[n]]:=Zbj C;have z:getO m.zB (n:Int)=some m.zB[n]:=Qy C;have W:=Zr C;generalize m.zB[n]=e at htk z W;rw[if_pos (by omega),z,Za,S,Za,Qhz E,Za];have skip:(e∉p.Observable->0<=Q1 m s e->Q1 m s e∈H)->∃o',k2 (H,IntKind.wrap .i64 ((n:Int)+1))=some o'/\StI m p.Observable fr i m.zB o'/\o <+: o':=fun hk=>by
      rw[Qx (by omega)];refine L _ ⟨n+1,rfl,by omega,⟨c.nd,c.rch,c.sub,fun j F v q1 q2 J I=>?_⟩,hp⟩ (by dsimp only;omega);by_cases q5:j<i/\v ∈ m.zB\/j=i/\v ∈ m.zB.take n
      ·exact c.cl j F v q1 q5 J I
      grind
     by_cases h0:Q1 m s e>=0
     ·rw[if_pos h0,Q60 h,Za];by_cases O:e∈p.Observable
      ·grind
      ·rw[decide_eq_false O,if_neg (by simp),Qnz (by unfold big;omega),Za,Za];by_cases R:Q1 m s e∈H
       ·grind
       ·rw[decide_eq_false R,if_pos (by rfl),Qbm (by grind [List.length_cons,List.length_nil,lim]),Za,Za,Qx (by omega)];refine L _ ⟨n+1,rfl,by omega,⟨?_,fun t w=>?_,fun t w=>List.mem_append_left _ (c.sub t w),fun j F v q1 q2 J I=>?_⟩,List.IsPrefix.trans hp (List.prefix_append _ _)⟩ (by dsimp only;omega)
        ·rw[List.nodup_append];refine⟨c.nd,by simp,fun a ha b hb=>?_⟩
         grind
        ·rcases Zp.1 w with w|w
         ·exact c.rch t w
         ·simp only[Zal] at w;subst w;obtain⟨y,hy,e1,e2,e3⟩:=Q2j E (rfl:Q1 m s e=_) h0;rw[<-e3];exact .step (by rw[e1];exact c.rch s (Zn M)) hy (by rw[e2];exact Zq.2 ⟨W,by simpa using O⟩)
        ·have q1' : H[j]? = some F:=by
          grind
         by_cases q5:j<i/\v ∈ m.zB\/j=i/\v ∈ m.zB.take n
         ·exact List.mem_append_left _ (c.cl j F v q1' q5 J I)
         grind
     grind
    grind
   ·rintro o' ⟨hI',hp⟩;have hle:=hp.length_le;rw[Qx (by omega)];refine ih _ ⟨i+1,rfl,by dsimp only;omega,⟨hI'.nd,hI'.rch,hI'.sub,fun j F v q1 q2 J I=>hI'.cl j F v q1 ?_ J I⟩⟩ (by dsimp only;omega)
    grind
  grind
 ·intro o l;have hol:=u l;obtain⟨r1,X⟩:=Qbkg l.nd;have hsl:(Qi8 Qgq o).length=o.length:=Qmx _ _;rw[show Qblq o=some (Qi8 Qgq o) from by unfold Qblq;rw[if_pos (by unfold lim;omega)],Za,show Q4n (Qi8 Qgq o)=some (Lib.compact (Qi8 Qgq o)) from by unfold Q4n;rw[if_pos (by rw[hsl];unfold lim;omega)],Za,Qbkp r1];congr 1;refine Qbkh E hf r1 (fun s d=>l.rch s ((X s).1 d)) (fun s d=>(X s).2 (l.sub s d)) fun x g h1 h2=>(X _).2 ?_;obtain⟨j,hj⟩:=List.getElem?_of_mem ((X _).1 h1);have hjl:=(Zm.1 hj).1;obtain⟨e1,e2⟩:=Zq.1 h2;have d:=Q2k E g;have:=l.cl j x.From x.Event hj (.inl ⟨hjl,e1⟩) (by simpa using e2) (by rw[d];exact (E.ed0 x g).2.2.1)
  rwa [d] at this
theorem Qbcm{l:List Int}(n:Sts m l)(e:Int):Qer (sysP p A m T) l e=some (Q4c m p.Observable l e):=by
 unfold Qer Qck;obtain⟨fuel,w,J⟩ : ∃f,Q0=f/\1099511627776<=f:=⟨_,rfl,Ze _⟩;have d:=hl.rm;have H:=d.st;have I:=n.len;have v:(sysP p A m T).language_=edM m:=rfl;rw[w,v];refine Qyc (P:=fun o:List Int=>o.Nodup/\∀t,t∈o↔t∈Q6y m l e) (Q:=fun r=>r=some (Q4c m p.Observable l e)) ?_ ?_
 ·refine Qb1 (fun x:List Int×Int=>∃i:Nat,x.2=(i:Int)/\i<=l.length/\x.1.length<=i/\x.1.Nodup/\∀t,t∈x.1↔0<=t/\∃s∈l.take i,Q1 m s e=t) (fun x=>l.length-x.2.toNat) (fun _ r=>∃o:List Int,r=some o/\o.Nodup/\∀t,t∈o↔t∈Q6y m l e) (fun k x c z=>?_) fuel _ ⟨0,rfl,by omega,by simp,by simp,by simp⟩ (by dsimp only;omega);obtain⟨o,x⟩:=x;obtain⟨i,c,N,q,b,a⟩:=c;dsimp only at c q b a;subst c;dsimp only;by_cases g:i<l.length
  ·have j:l.take (i+1)=l.take i++[l[i]]:=Zbj g;have C:getO l (i:Int)=some l[i]:=Qy g;generalize l[i]=s at j C;rw[if_pos (by omega),C,Za,Qhz d,Za];have skip:(0<=Q1 m s e->Q1 m s e∈o)->∃o' : List Int,k (o,IntKind.wrap .i64 ((i:Int)+1))=some o'/\o'.Nodup/\∀t,t∈o' ↔ t∈Q6y m l e:=fun M=>by
    rw[Qx (by omega)];refine z _ ⟨i+1,rfl,by omega,by dsimp only;omega,b,fun t=>?_⟩ (by dsimp only;omega)
    grind
   by_cases L:Q1 m s e>=0
   ·rw[if_pos L,Qnz (by unfold big;omega),Za,Za];by_cases u:Q1 m s e∈o
    ·grind
    ·rw[decide_eq_false u,if_pos (by rfl),Qbm (by grind [List.length_cons,List.length_nil,lim]),Za,Za,Qx (by omega)];refine z _ ⟨i+1,rfl,by omega,by simp;omega,?_,fun t=>?_⟩ (by dsimp only;omega)
     all_goals grind
   grind
  ·rw[if_neg (by omega)];have:i=l.length:=by omega
   subst this;rw[Zbf] at a;refine⟨o,rfl,b,fun t=>?_⟩;rw[a,Q2h];constructor
   ·grind [Q2j]
   ·rintro⟨x,c,F,E,y⟩;have:=Q2k d c;rw[E,y] at this;exact⟨by rw[<-y];exact (d.ed0 x c).2.2.1,x.From,F,this⟩
 ·rintro o ⟨b,a⟩;rw[Q61 h hl (fun s n=>Q0w d s ((a s).1 n)) b,Za];rw[Q4c,Qbci a]
theorem Qbcn:Qf4 (sysP p A m T)=some (Qye m p.Observable):=by
 unfold Qf4 Qci Qye;have b:=hl.rm.st;have c:(sysP p A m T).start_.language_=if m.zF==0 then -1 else 0:=rfl;rw[c];by_cases a:m.zF=0
 ·grind
 ·rw[if_neg (by simp[a]),if_neg a,Q61 h hl (fun s d=>by grind) (by simp)];rfl
end
end Go.Abs
end
section
namespace Go.Abs
open Go
def spN(z:Sp×List Int):Qr:=⟨z.1.1,z.1.2⟩
theorem Qbkq{y z:Sp×List Int}(h:spN y=spN z):y.1=z.1:=by
 grind [spN,Qr.mk.injEq,Prod.ext]
structure LsQ(a:Qa)(ob o:List Int)(i:Nat)(done:List Int)(L:List (Sp×List Int))(l:List Qr)(c:List (Qr×List Int)):Prop where
 q:BQ (stp2 a ob o) a.zB (0,0) i done L
 wl:∀(j:Nat)z,L[j]? = some z->z.2.length<=j
 ql:l=(L.drop i).map spN
 has:∀s,hasM c s=true↔∃z∈L,spN z=s
 get:∀z∈L,getM c (spN z) []=z.2
 cl:c.length=L.length
section
variable{p:Qf}(h:ProbW p){A B m:Qa}{T U:List (List Int)}(hl:Q6t p A B m T U)
include h hl
theorem Qbdx{k:Nat}{t:List Int}(N:T[k]? = some t){y:Int}{l w:List Int}(d:l.length<big):∃r,Qfp (sysP p A m T) ⟨⟨(k:Int),y⟩,l,w⟩=some r/\((r = -1/\∀e,¬RefC p T m ((k:Int),y,l) e)\/(0<=r/\RefC p T m ((k:Int),y,l) r/\∀e,RefC p T m ((k:Int),y,l) e->r<=e)):=by
 unfold Qfp Qcb;have u:=h.pe.len;have o:(sysP p A m T).events_=m.zB:=by rw[hl.am];rfl
 have i:(sysP p A m T).p_=p:=rfl;rw[<-hl.am] at u;have S:T.getD ((k:Int)).toNat []=t:=by grind
 have F:∀e,RefC p T m ((k:Int),y,l) e↔e∈p.Controllable/\0<=Q1 p.Plant (ati t 0) e/\Q1 m y e<0/\∃x∈l,0<=Q1 m x e:=fun e=>by
  grind [RefC]
 have I:∀e,RefC p T m ((k:Int),y,l) e->e∈m.zB:=fun e R=>by
  obtain⟨_,_,_,x,_,q⟩:=(F e).1 R;rcases Qb0 hl.rm x e with q2|q2
  ·omega
  ·exact q2.2.2.2.2
 rw[o,i];refine Qb1 (fun x:Int=>∃n:Nat,x=(n:Int)/\n<=m.zB.length/\∀e∈m.zB.take n,¬RefC p T m ((k:Int),y,l) e) (fun x=>m.zB.length-x.toNat) (fun _ r=>∃a,r=some a/\((a = -1/\∀e,¬RefC p T m ((k:Int),y,l) e)\/(0<=a/\RefC p T m ((k:Int),y,l) a/\∀e,RefC p T m ((k:Int),y,l) e->a<=e))) (fun H x M J=>?_) Q0 0 ⟨0,rfl,by omega,by simp⟩ (by unfold Q0;omega);obtain⟨n,rfl,X,O⟩:=M;by_cases b:n<m.zB.length
 ·have g:m.zB.take (n+1)=m.zB.take n++[m.zB[n]]:=Zbj b;have C:getO m.zB (n:Int)=some m.zB[n]:=Qy b;have c:∀z∈m.zB,z<m.zB[n]->z∈m.zB.take n:=fun z L v=>by
   obtain⟨j,Q,rfl⟩:=Zao L;have P:j<n:=by
    refine Zca fun q=>?_;by_cases W:j=n
    ·subst W;omega
    ·have:=Zbr.1 hl.rm.al n j b Q (by omega);omega
   exact List.mem_take_iff_getElem.2 ⟨j,by omega,rfl⟩
  have s:=hl.rm.al0 _ (Zr b);generalize m.zB[n]=e at g C c s;unfold letJ;rw[if_pos (by omega),C];dsimp only;rw[Za];have skip:¬RefC p T m ((k:Int),y,l) e->∃a,H (IntKind.wrap .i64 ((n:Int)+1))=some a/\((a = -1/\∀e,¬RefC p T m ((k:Int),y,l) e)\/(0<=a/\RefC p T m ((k:Int),y,l) a/\∀e,RefC p T m ((k:Int),y,l) e->a<=e)):=fun hr=>by
   rw[Qx (by omega)];refine J _ ⟨n+1,rfl,by omega,fun f hf=>?_⟩ (by omega)
   grind
  rw[Qnz (by have:=h.ce.len;unfold big;omega),Za];by_cases hc:e∈p.Controllable
  ·rw[decide_eq_true hc,if_pos rfl,Qbgz h hl N,Za,Za];by_cases E:0<=Q1 p.Plant (ati t 0) e/\Q1 m y e<0
   ·rw[decide_eq_true E.1,decide_eq_true E.2,if_neg (by simp)];rw[Q6s (p:=fun x=>decide (0<=Q1 m x e)) (fun x=>?_) d,Za]
    ·grind
    ·show Qfb x (sysP p A m T) e=_;unfold Qfb Qb3;show (Qbl (edM m) x e).bind _=_;rw[Qhz hl.rm,Za]
   grind
  grind
 grind
theorem Qbl6{o:List Int}{e:Int}(ho:o.length<=5000)(h0:0<m.zF)(hex:∃u,obsW p.Observable u=o/\0<=runE m 0 (u++[e])):∃u,Qgt (sysP p A m T) o e=some u/\u.length<=20484096/\obsW p.Observable u=o/\0<=runE m 0 (u++[e])/\∀v,obsW p.Observable v=o->0<=runE m 0 (v++[e])->sle u v:=by
 unfold Qgt Qc2;obtain⟨fuel,hfu,hge⟩ : ∃f,Q0=f/\1099511627776<=f:=⟨_,rfl,Ze _⟩;have X:=hl.rm;have hst:=X.st;have hal:=h.pe.len;have hev:(sysP p A m T).events_=m.zB:=by rw[hl.am];rfl
 have hlg:(sysP p A m T).language_=edM m:=rfl;rw[<-hl.am] at hal;rw[hfu,hev,hlg];have hmul:m.zF.toNat*(o.length+1)<=4096*5001:=Nat.mul_le_mul (by omega) (by omega);have hlen:∀{i:Nat}{done:List Int}{L l c},LsQ m p.Observable o i done L l c->L.length<=20484096:=fun hq=>by
  have:=Qbpf X h0 hq.q;omega
 have e1:∀w,runE m 0 (w++[e])=Q1 m (runE m 0 w) e:=fun w=>by rw[Qlk];rfl
 have goal:∀v,obsW p.Observable v=o->0<=runE m 0 (v++[e])->∃s,dl (stp2 m p.Observable o) (0,0) v=some s/\(s.2=o.length/\0<=Q1 m s.1 e):=fun v h1 h2=>by
  rw[e1] at h2;have h3:0<=runE m 0 v:=by
   grind [Qb0,runE]
  exact⟨(runE m 0 v,((obsW p.Observable v).length:Int)),(Q98 X _ _ rfl _).2 ⟨rfl,h3,by rw[h1];exact Zbp _⟩,by dsimp only;rw[h1],h2⟩
 refine Qb1 (fun x:List Qr×List (Qr×List Int)=>∃(i:Nat)(L:List (Sp×List Int)),i<=L.length/\LsQ m p.Observable o i [] L x.1 x.2/\∀(j:Nat)z,j<i->L[j]? = some z->¬(z.1.2=o.length/\0<=Q1 m z.1.1 e)) (fun x=>(40968194-2*x.2.length)+x.1.length) (fun _ r=>∃u,r=some u/\u.length<=20484096/\obsW p.Observable u=o/\0<=runE m 0 (u++[e])/\∀v,obsW p.Observable v=o->0<=runE m 0 (v++[e])->sle u v) (fun k x hx ih=>?_) fuel ([(Qr.mk 0 0)],(setM ([]:List (Qr×(List Int))) (Qr.mk 0 0) [])) ⟨0,[((0,0),[])],by simp,⟨BQ.start,fun j z hj=>?_,rfl,fun s=>?_,fun z hz=>?_,rfl⟩,fun j z hj=>by omega⟩ ?_
 ·obtain⟨l,c⟩:=x;obtain⟨i,L,hi,J,Q⟩:=hx;dsimp only at J Q |-;have hLl:=hlen J;have hll:l.length=L.length-i:=by rw[J.ql];simp
  by_cases hlt:i<L.length
  ·have C:L[i]? = some L[i]:=Zj hlt;generalize L[i]=z at C;have hzm:=Zn C;have hgo:getO l 0=some (spN z):=by
    rw[Quj];refine⟨Zbg _,?_⟩;rw[J.ql,Zag,Zbs];simp[C]
   have hget:=J.get z hzm;have t:=(Q98 X _ _ rfl _).1 (J.q.run z hzm);have hpl:=t.2.2.length_le;have z1:z.1.1=runE m 0 z.2:=congrArg Prod.fst t.1;have z2:z.1.2=((obsW p.Observable z.2).length:Int):=congrArg Prod.snd t.1;have hcond:(if ((spN z).done_==(o.length:Int)) then ((Qbl (edM m) (spN z).state_ e).bind fun x12=>some (decide (x12>=0))) else some false)=some (decide (z.1.2=o.length/\0<=Q1 m z.1.1 e)):=by
    unfold spN;dsimp only;by_cases q:z.1.2=o.length
    ·simp_all[if_pos,Qhz,Za,Bool.eq_iff_iff]
    grind
   rw[if_pos (by omega),hgo,Za,hcond,Za];by_cases hg:z.1.2=o.length/\0<=Q1 m z.1.1 e
   ·rw[decide_eq_true hg,if_pos rfl,hget];refine⟨_,rfl,(by have:=J.wl i z C;omega),?_,by grind,fun v h1 h2=>?_⟩
    ·obtain⟨r,hr⟩:=t.2.2;have hl2:(obsW p.Observable z.2).length=o.length:=by have:=hg.1;omega
     have:r=[]:=by
      have:=congrArg List.length hr;rw[Zx] at this
      simp_all
     grind
    ·obtain⟨s,hs1,E⟩:=goal v h1 h2;exact J.q.least (Qbkl X) (P:=fun s=>s.2=o.length/\0<=Q1 m s.1 e) Q C hs1 E
   ·rw[decide_eq_false hg,if_neg (by simp)];refine Qb1 (fun x:List Qr×Int×List (Qr×List Int)=>∃(n:Nat)(N:List (Sp×List Int)),x.2.1=(n:Int)/\n<=m.zB.length/\LsQ m p.Observable o i (m.zB.take n) N x.1 x.2.2/\L <+: N) (fun x=>m.zB.length-x.2.1.toNat) (fun _ r=>∃u,r=some u/\u.length<=20484096/\obsW p.Observable u=o/\0<=runE m 0 (u++[e])/\∀v,obsW p.Observable v=o->0<=runE m 0 (v++[e])->sle u v) (fun k2 x hx ih2=>?_) fuel (l,0,c) ⟨0,L,rfl,by omega,by simpa using J,Zbp _⟩ (by dsimp only;omega);obtain⟨l2,x,c2⟩:=x;obtain⟨n,N,hx,hn,a,F⟩:=hx;dsimp only at hx a F;subst hx;dsimp only;have hL2:=hlen a;have hle2:=F.length_le;have hll2:l2.length=N.length-i:=by rw[a.ql];simp
    by_cases hn2:n<m.zB.length
    ·have O:N[i]? = some z:=Qg2 F C;have hzm2:=Zn O;have htk:m.zB.take (n+1)=m.zB.take n++[m.zB[n]]:=Zbj hn2;have I:∀y∈m.zB.take n,y<m.zB[n]:=fun y g=>by
      obtain⟨j,hj,rfl⟩:=Zao g;rw[Zbl] at hj;rw[List.getElem_take];exact Zbr.1 X.al j n (by omega) hn2 (by omega)
     have hge2:getO m.zB (n:Int)=some m.zB[n]:=Qy hn2;generalize m.zB[n]=f at htk I hge2;unfold letJ;rw[if_pos (by omega),hge2,Za,Qhz X,Za];dsimp only;have hsp1:(spN z).state_=z.1.1:=rfl;have hsp2:(spN z).done_=z.1.2:=rfl;rw[hsp1,hsp2];have hwl:=a.wl i z O;have skip:(∀s,stp2 m p.Observable o z.1 f=some s->∃y∈N,y.1=s)->∃u,k2 (l2,IntKind.wrap .i64 ((n:Int)+1),c2)=some u/\u.length<=20484096/\obsW p.Observable u=o/\0<=runE m 0 (u++[e])/\∀v,obsW p.Observable v=o->0<=runE m 0 (v++[e])->sle u v:=fun hk=>by
      rw[Qx (by omega)];refine ih2 _ ⟨n+1,N,rfl,by omega,⟨?_,a.wl,a.ql,a.has,a.get,a.cl⟩,F⟩ (by dsimp only;omega);rw[htk];exact a.q.keep O I hk
     by_cases W:Q1 m z.1.1 f<0
     ·rw[if_pos W,Za];refine skip fun s M=>?_;unfold stp2 at M
      grind
     ·rw[if_neg W,Q60 h,Za];have hd0:0<=z.1.2:=by rw[z2];omega
      have go:∀d:Int,Qbck p.Observable o z.1.2 f=some d->∃u,((if (hasM c2 (Qr.mk (Q1 m z.1.1 f) d))=true then some (l2,c2,Q1 m z.1.1 f,d) else ((Qbd (getM c2 (spN z) [])).bind fun x36=>((appO x36 [f]).bind fun x37=>((appO l2 [(Qr.mk (Q1 m z.1.1 f) d)]).bind fun x39=>some (x39,(setM c2 (Qr.mk (Q1 m z.1.1 f) d) x37),Q1 m z.1.1 f,d))))).bind fun((l42,c43,z44,z45):(List Qr)×(List (Qr×(List Int)))×Int×Int)=>k2 (l42,(IntKind.wrap .i64 ((n:Int)+1)),c43))=some u/\u.length<=20484096/\obsW p.Observable u=o/\0<=runE m 0 (u++[e])/\∀v,obsW p.Observable v=o->0<=runE m 0 (v++[e])->sle u v:=fun d hd=>by
       have E:stp2 m p.Observable o z.1 f=some (Q1 m z.1.1 f,d):=by
        unfold stp2
        grind
       have R:Qr.mk (Q1 m z.1.1 f) d=spN ((Q1 m z.1.1 f,d),z.2++[f]):=rfl;by_cases b:hasM c2 (Qr.mk (Q1 m z.1.1 f) d)=true
       ·rw[if_pos b,Za];refine skip fun s M=>?_;rw[E] at M;cases M;obtain⟨y,g,hy2⟩:=(a.has _).1 b;exact⟨y,g,Qbkq (hy2.trans R)⟩
       ·rw[if_neg b,a.get z hzm2,Qvm (by unfold lim;omega),Za,Qbm (by grind [List.length_cons,List.length_nil,lim]),Za,Qbm (by grind [List.length_cons,List.length_nil,lim]),Za,Za];dsimp only;rw[Qx (by omega)];have S:∀y∈N,y.1≠(Q1 m z.1.1 f,d):=fun y g q=>b ((a.has _).2 ⟨y,g,by unfold spN;rw[q]⟩);refine ih2 _ ⟨n+1,N++[((Q1 m z.1.1 f,d),z.2++[f])],rfl,by omega,⟨?_,fun j y hj=>?_,?_,fun s=>?_,fun y g=>?_,?_⟩,List.IsPrefix.trans F (List.prefix_append _ _)⟩ (by dsimp only;omega)
        ·rw[htk];exact a.q.add O I E S
        ·rcases Q2b hj with hj|⟨rfl,rfl⟩
         ·exact a.wl j y hj
         grind
        ·rw[List.drop_append_of_le_length (by omega),Zbn,<-a.ql]
         rfl
        ·rw[Q19,Zat,decide_eq_true_eq,a.has]
         grind
        ·rw[Q2a];rcases Zp.1 g with g|g
         ·rw[if_neg fun q=>S y g (Qbkq (q.trans R)),a.get y g]
         grind
        ·rw[Qqj (by simpa using b),Zx,Zx,a.cl];rfl
      by_cases H:f∈p.Observable
      ·rw[decide_eq_true H,if_pos rfl];by_cases hdl:z.1.2=o.length
       ·rw[if_pos (by simp[hdl]),Za,if_pos rfl,Za];refine skip fun s M=>?_;rw[Qbcl (by unfold Qbck;rw[if_pos H,if_neg (by grind)])] at M;cases M
       ·rw[if_neg (by simp[hdl])];have hlt3:z.1.2.toNat<o.length:=by omega
        obtain⟨dn,hdn⟩ : ∃dn:Nat,z.1.2=(dn:Int):=⟨z.1.2.toNat,by omega⟩;rw[hdn,Qy (by omega:dn<o.length),Za,Za];by_cases he:o[dn]'(by omega)=f
        ·rw[if_neg (by simp[he]),Qx (by omega)];refine go _ ?_;unfold Qbck;rw[if_pos H,if_pos (by rw[hdn,Zaw,Zj (by omega),he]),hdn];simp
        ·rw[if_pos (by simp[he]),Za];refine skip fun s M=>?_;rw[Qbcl (by unfold Qbck;rw[if_pos H,if_neg (by grind [Int.toNat_natCast,List.getElem?_eq_getElem])])] at M;cases M
      ·rw[decide_eq_false H,if_neg (by simp)];refine go _ ?_;unfold Qbck;rw[if_neg H]
    ·rw[if_neg (by omega)];have:n=m.zB.length:=by omega
     subst this;rw[Zbf] at a;have hsl:slcO l2 1 (l2.length:Int)=some (l2.drop 1):=by
      unfold slcO;rw[if_pos ⟨by omega,by omega,Zbg _⟩,Zaw,Zbf];rfl
     rw[hsl,Za];refine ih _ ⟨i+1,N,by omega,⟨a.q.next,a.wl,?_,a.has,a.get,a.cl⟩,fun j y hj g=>?_⟩ ?_
     ·dsimp only;rw[a.ql,<-List.map_drop,List.drop_drop]
     ·by_cases hji:j<i
      ·refine Q j y hji ?_;obtain⟨r,rfl⟩:=F
       grind
      grind [Qg2]
     ·dsimp only;rw[a.cl,J.cl,List.length_drop];omega
  ·rw[if_neg (by omega)];have:i=L.length:=by omega
   subst this;obtain⟨v,h1,h2⟩:=hex;obtain⟨s,hs1,E⟩:=goal v h1 h2;exact absurd E (J.q.none (Qbkl X) (P:=fun s=>s.2=o.length/\0<=Q1 m s.1 e) (fun j y g=>Q j y ((Zm.1 g).1) g) hs1)
 ·grind
 ·dsimp only;rw[Q19];simp[hasM,spN,eq_comm]
 ·simp only[Zal] at hz;subst hz
  rfl
 grind
end
end Go.Abs
end
section
namespace Go.Abs
open Go
theorem Qm5:∀(u:Nat),∀c∈Lib.decDigits u,48<=c.toNat/\c.toNat<=57:=by
 intro u
 induction u using Nat.strongRecOn with
 |_ u a =>
  intro c hc;rw[Lib.decDigits] at hc;split at hc
  ·rename_i h;simp at hc;subst hc;simp;omega
  ·rename_i h;rcases Zp.1 hc with hc|hc
   ·grind
   ·simp at hc;subst hc;have:u % 10<10:=Nat.mod_lt _ (by decide);simp;omega
def valD(l:List UInt8):Nat:=l.foldl (fun v c=>v*10+(c.toNat-48)) 0
theorem Qbfv:∀(u:Nat),valD (Lib.decDigits u)=u:=by
 intro u
 induction u using Nat.strongRecOn with
 |_ u b =>
  rw[Lib.decDigits];split
  ·rename_i h;simp[valD];omega
  ·rename_i h;have a:=b (u / 10) (by omega);unfold valD at a |-;rw[List.foldl_append,a];have:u % 10<10:=Nat.mod_lt _ (by decide);simp;omega
theorem Qbfw{u v:Nat}(h:Lib.decDigits u=Lib.decDigits v):u=v:=by
 have:=congrArg valD h
 rwa [Qbfv,Qbfv] at this
theorem Qbkr{x y:Int}(h:Lib.itoa x=Lib.itoa y):x=y:=by
 unfold Lib.itoa at h;by_cases b:x<0
 ·rw[if_pos b] at h;by_cases a:y<0
  ·rw[if_pos a] at h;have:=Qbfw (List.cons.inj h).2;omega
  ·rw[if_neg a] at h;have:=Qm5 y.toNat 45 (by rw[<-h];simp);simp at this
 ·rw[if_neg b] at h;by_cases a:y<0
  ·rw[if_pos a] at h;have:=Qm5 x.toNat 45 (by rw[h];simp);simp at this
  ·rw[if_neg a] at h;have:=Qbfw h;omega
theorem Qbco(x:Int):(32:UInt8)∉Lib.itoa x:=by
 intro h;unfold Lib.itoa at h;split at h
 ·rcases Zah.1 h with h|h
  ·cases h
  ·have:=Qm5 _ _ h;simp at this
 ·have:=Qm5 _ _ h;simp at this
theorem Qbph:∀{a b r s:List UInt8},(32:UInt8)∉a->(32:UInt8)∉b->a++32::r=b++32::s->a=b/\r=s
 |[],[],r,s,_,_,h=>⟨rfl,(List.cons.inj h).2⟩
 |[],y::b,r,s,_,hb,h=>by
  grind
 |x::a,[],r,s,ha,_,h=>by
  grind
 |x::a,y::b,r,s,ha,hb,h=>by
  obtain⟨f,e⟩:=List.cons.inj h;obtain⟨d,c⟩:=Qbph (fun q=>ha (List.mem_cons_of_mem _ q)) (fun q=>hb (List.mem_cons_of_mem _ q)) e;exact⟨by rw[f,d],c⟩
theorem Qbcp:∀{l m:List Int},Qxy l=Qxy m->l=m
 |[],[],_=>rfl
 |[],y::m,h=>by
  have:=congrArg List.length h;simp[Qxy] at this
 |x::l,[],h=>by
  have:=congrArg List.length h;simp[Qxy] at this
 |x::l,y::m,h=>by
  have e:∀(z:Int)k,Qxy (z::k)=Lib.itoa z++32::Qxy k:=fun z k=>by simp[Qxy]
  rw[e,e] at h;obtain⟨b,a⟩:=Qbph (Qbco x) (Qbco y) h;rw[Qbkr b,Qbcp a]
theorem Qbfx{l m:List Int}(h:keyT l=keyT m):l=m:=by
 unfold keyT at h;have:=congrArg (fun b:ByteArray=>b.data.toList) h
 grind [Qbcp]
theorem Qbfy{a:Qa}(ha:Right a){x y:Int}{l:List Int}(hl:Sts a l)(f : -1<=x/\x<=5000)(e : -1<=y/\y<=5000):Qbgl ⟨x,y⟩ l=some (keyT (x::y::l)):=by
 unfold Qbgl;have c:=ha.st;have d:=hl.len;rw[if_pos];refine⟨by unfold lim;omega,fun z b=>?_⟩;simp only[Zah] at b;rcases b with rfl|rfl|b
 ·omega
 ·omega
 ·have:=hl.rg z b;omega
def trH(t:Qbx):Cf×List Int:=((t.at_.ambient_,t.at_.language_,t.states_),t.word_)
structure HdQ(A m:Qa)(ob:List Int)(i:Nat)(done:List Int)(l:List Qbx)(c:List (ByteArray×Bool)):Prop where
 q:BQ (stpC A m ob) A.zB (s0C m ob) i done (l.map trH)
 wl:∀(j:Nat)y,l[j]? = some y->y.word_.length<=j
 has:∀(x y:Int)(st:List Int),getM c (keyT (x::y::st)) false=true↔∃z∈l,(trH z).1=(x,y,st)
def Qbks(p:Qf)(A B m:Qa)(w:Qb6)(b:Bool)(e:Int):Prop :=
 (e=3/\0<A.zF/\∃L:List (Cf×List Int),4096<L.length/\(L.map (·.1)).Nodup/\∀z∈L,dl (stpC A m p.Observable) (s0C m p.Observable) z.2=some z.1) \/
 (e=0/\(b=true->w=⟨[],[],0⟩/\(0<A.zF->∀v f,0<=runE A 0 v->¬RefW p B v f))/\(b=false->LeastW p A B w/\0<A.zF/\w.Word.length<100000000/\w.Other.length<100000000))
section
variable{p:Qf}(h:ProbW p){A B m:Qa}{T U:List (List Int)}(hl:Q6t p A B m T U)
include h hl
omit h in
theorem Qbkt(x y f:Int):Qep (sysP p A m T) ⟨x,y⟩ f=some (⟨Q1 A x f,Q1 m y f⟩,decide (Q1 A x f>=0)):=by
 unfold Qep Qz;show (Qbl (edM A) x f).bind _=_;rw[Qhz hl.hA.r,Za];show (Qbl (edM m) y f).bind _=_;rw[Qhz hl.rm,Za]
omit h in
theorem HdQ.node{i:Nat}{done:List Int}{l:List Qbx}{c:List (ByteArray×Bool)}(f:HdQ A m p.Observable i done l c):∀z∈l,dl (stpC A m p.Observable) (s0C m p.Observable) z.word_=some (trH z).1/\0<=runE A 0 z.word_/\z.at_.ambient_=runE A 0 z.word_/\z.at_.language_=runE m (k0 m) z.word_/\z.states_=estP m p.Observable (obsW p.Observable z.word_):=fun z e=>by
 have d:=f.q.run (trH z) (Zl.2 ⟨z,e,rfl⟩);have a:=d;rw[Q97 hl.hA.r _ _ _ rfl] at a;have g:(trH z).2=z.word_:=rfl;rw[g] at a;split at a
 ·rename_i j;have b:=Zbq a;exact⟨d,j,(congrArg (fun x:Cf=>x.1) b).symm,(congrArg (fun x:Cf=>x.2.1) b).symm,(congrArg (fun x:Cf=>x.2.2) b).symm⟩
 ·cases a
theorem Qbl7:∃w b e,Qjb p=some (w,b,e)/\Qbks p A B m w b e:=by
 unfold Qjb Qcq;obtain⟨fuel,hfu,hge⟩ : ∃f,Q0=f/\1099511627776<=f:=⟨_,rfl,Ze _⟩;have hm:=hl.rm;have hst:=hm.st;have hA:=hl.hA.r;have hAst:=hA.st;have hoe:=h.oe.len;have hal:=h.pe.len;have hev:(sysP p A m T).events_=A.zB:=by rw[hl.aA];rfl
 rw[<-hl.aA] at hal;rw[hfu,Qbke h hl,Za];dsimp only;rw[if_pos rfl,if_neg (by simp)];by_cases h0:A.zF=0
 ·rw[show (sysP p A m T).empty_=true from by unfold sysP;simp[h0],if_pos rfl];exact⟨_,_,_,rfl,.inr ⟨rfl,fun _=>⟨rfl,fun q=>by omega⟩,fun q=>by cases q⟩⟩
 ·have H:0<A.zF:=by omega
  have R:(sysP p A m T).start_=⟨0,k0 m⟩:=by
   grind [sysP,k0]
  have hk0 : -1<=k0 m/\k0 m<=0:=by unfold k0;split<;>omega
  have hlang:∀v,-1<=runE m (k0 m) v/\runE m (k0 m) v<=4096:=fun v=>by
   unfold k0;split
   ·rw[Qi2 hm];omega
   ·rcases Qyq hm v 0 (Zbg _) (by omega) with q|q<;>omega
  have hstep:∀y f,-1<=Q1 m y f/\Q1 m y f<=4096:=fun y f=>by
   grind [Qb0]
  have O:∀y f,-1<=Q1 A y f/\Q1 A y f<=4096:=fun y f=>by
   grind [Qb0]
  have X:∀v,0<=runE A 0 v->dl (stpC A m p.Observable) (s0C m p.Observable) v=some (runE A 0 v,runE m (k0 m) v,estP m p.Observable (obsW p.Observable v)):=fun v hv=>by
   rw[Q97 hA _ _ _ rfl,if_pos hv]
  rw[show (sysP p A m T).empty_=false from by unfold sysP;simp[h0],if_neg (by simp),Qbcn h hl,Za,R,Qbfy hm (Q8y m p.Observable) (by omega) (by omega),Za,hev];refine Qb1 (fun x:List Qbx×Int×List (ByteArray×Bool)=>∃i:Nat,x.2.1=(i:Int)/\i<=x.1.length/\x.1.length<=4096/\HdQ A m p.Observable i [] x.1 x.2.2/\∀(j:Nat)z,j<i->x.1[j]? = some z->∀e,¬RefC p T m (trH z).1 e) (fun x=>4097-x.2.1.toNat) (fun _ r=>∃w b e,r=some (w,b,e)/\Qbks p A B m w b e) (fun k x N ih=>?_) fuel ([(Qbx.mk ⟨0,k0 m⟩ (Qye m p.Observable) [])],0,(setM ([]:List (ByteArray×Bool)) (keyT (0::k0 m::Qye m p.Observable)) true)) ⟨0,rfl,by simp,by simp,⟨BQ.start,fun j y S=>?_,fun x y st=>?_⟩,fun j z S=>by omega⟩ (by dsimp only;omega)
  ·obtain⟨l,x,c⟩:=x;obtain⟨i,N,hi,hll,hQ,hno⟩:=N;dsimp only at N hi hll hQ hno;subst N;dsimp only;by_cases hlt:i<l.length
   ·have J:l[i]? = some l[i]:=Zj hlt;have hgo:getO l (i:Int)=some l[i]:=Qy hlt;generalize l[i]=z at J hgo;have hzm:=Zn J;obtain⟨n1,n2,n3,n4,n5⟩:=hQ.node hl z hzm;have hwl:=hQ.wl i z J;have hmx:(l.map trH)[i]? = some (trH z):=Qbfu J;have href:∀e,RefC p T m (trH z).1 e↔RefW p B z.word_ e:=fun e=>Qbdv h hl hm (Qbg2 hl) H n1 e;have hrg:=Qyq hA z.word_ 0 (Zbg _) H;have hTl:=hl.hA.st;have hsts:Sts m z.states_:=by rw[n5];exact Qbkk _
    have hla:=hlang z.word_;rw[<-n4] at hla;rw[<-n3] at hrg;clear n4 n5;obtain⟨⟨amb,lang⟩,d,t⟩:=z;dsimp only at *
    obtain⟨a,rfl⟩ : ∃a:Nat,amb=(a:Int):=⟨amb.toNat,by omega⟩;have haT:a<T.length:=by omega
    have hT:T[a]? = some T[a]:=Zj haT;have hsl:=hsts.len;obtain⟨r,hr1,F⟩:=Qbdx h hl hT (y:=lang) (l:=d) (w:=t) (by unfold big;omega);have htr:(trH ⟨⟨(a:Int),lang⟩,d,t⟩).1=((a:Int),lang,d):=rfl;rw[<-htr] at F;rw[if_pos (by omega),hgo,Za,hr1,Za];dsimp only;have hwb:(obsW p.Observable t).length<=t.length:=Zax _ _;rcases F with⟨rfl,F⟩|⟨hr0,F,hr3⟩
    ·rw[if_neg (by omega)];refine Qyc (P:=fun v:List Qbx×List (ByteArray×Bool)=>HdQ A m p.Observable i A.zB v.1 v.2/\l <+: v.1) (Q:=fun r=>∃w b e,r=some (w,b,e)/\Qbks p A B m w b e) ?_ ?_
     ·refine Qb1 (fun x:List Qbx×Int×List (ByteArray×Bool)=>∃n:Nat,x.2.1=(n:Int)/\n<=A.zB.length/\HdQ A m p.Observable i (A.zB.take n) x.1 x.2.2/\l <+: x.1/\x.1.length<=l.length+n) (fun x=>A.zB.length-x.2.1.toNat) (fun _ r=>∃v:List Qbx×List (ByteArray×Bool),r=some v/\HdQ A m p.Observable i A.zB v.1 v.2/\l <+: v.1) (fun k2 x N ih2=>?_) fuel (l,0,c) ⟨0,rfl,by omega,by simpa using hQ,Zbp _,by dsimp only;omega⟩ (by dsimp only;omega);obtain⟨l2,x,c2⟩:=x;obtain⟨n,N,hn,g,E,hl2⟩:=N;dsimp only at N g E hl2;subst N;dsimp only;by_cases hn2:n<A.zB.length
      ·have hx3:=Qg2 E J;have hmx2:(l2.map trH)[i]? = some (trH ⟨⟨(a:Int),lang⟩,d,t⟩):=Qbfu hx3;have htk:A.zB.take (n+1)=A.zB.take n++[A.zB[n]]:=Zbj hn2;have L:∀y∈A.zB.take n,y<A.zB[n]:=fun y hy=>by
        obtain⟨j,S,rfl⟩:=Zao hy;rw[Zbl] at S;rw[List.getElem_take];exact Zbr.1 hA.al j n (by omega) hn2 (by omega)
       have hge2:getO A.zB (n:Int)=some A.zB[n]:=Qy hn2;generalize A.zB[n]=f at htk L hge2;rw[if_pos (by omega),hge2,Za,Qbkt hl,Za];dsimp only;have skip:(∀s,stpC A m p.Observable ((a:Int),lang,d) f=some s->∃y∈l2,(trH y).1=s)->∃v:List Qbx×List (ByteArray×Bool),k2 (l2,IntKind.wrap .i64 ((n:Int)+1),c2)=some v/\HdQ A m p.Observable i A.zB v.1 v.2/\l <+: v.1:=fun hk=>by
        rw[Qx (by omega)];refine ih2 _ ⟨n+1,rfl,by omega,⟨?_,g.wl,g.has⟩,E,by dsimp only;omega⟩ (by dsimp only;omega);rw[htk];refine g.q.keep hmx2 L fun s hs=>?_
        grind
       by_cases hs0:0<=Q1 A (a:Int) f
       ·have hy48:((Qcu (sysP p A m T) f).bind fun x44=>(if x44=true then ((Qer (sysP p A m T) d f).bind fun x47=>some x47) else some d))=some (if f∈p.Observable then Q4c m p.Observable d f else d):=by
         rw[Q60 h,Za];by_cases hmo:f∈p.Observable
         ·rw[decide_eq_true hmo,if_pos rfl,Qbcm h hl hsts,Za,if_pos hmo]
         grind
        have hs2:stpC A m p.Observable ((a:Int),lang,d) f=some (Q1 A (a:Int) f,Q1 m lang f,if f∈p.Observable then Q4c m p.Observable d f else d):=by
         unfold stpC;rw[if_pos hs0]
        have hst2:Sts m (if f∈p.Observable then Q4c m p.Observable d f else d):=by
         grind [Qbcj]
        rw[decide_eq_true (by omega),if_pos rfl,Qvm (by unfold lim;omega),Za,Qbm (by grind [List.length_cons,List.length_nil,lim]),Za,hy48,Za];generalize (if f∈p.Observable then Q4c m p.Observable d f else d)=st2 at hs2 hst2;have e1:=hstep lang f;have e2:=O (a:Int) f;rw[Qbfy hm hst2 (by omega) (by omega),Za];by_cases W:getM c2 (keyT (Q1 A (a:Int) f::Q1 m lang f::st2)) false=true
        ·rw[if_pos W,Za];refine skip fun s hs=>?_;rw[hs2] at hs;cases hs;exact (g.has _ _ _).1 W
        ·rw[if_neg W,Qbm (by grind [List.length_cons,List.length_nil,lim]),Za,Za];dsimp only;rw[Qx (by omega)];have hnew:∀y∈l2,(trH y).1≠(Q1 A (a:Int) f,Q1 m lang f,st2):=fun y hy q=>W ((g.has _ _ _).2 ⟨y,hy,q⟩);refine ih2 _ ⟨n+1,rfl,by omega,⟨?_,fun j y S=>?_,fun x y st=>?_⟩,List.IsPrefix.trans E (List.prefix_append _ _),by simp;omega⟩ (by dsimp only;omega)
         ·rw[htk,Zbn,List.map_singleton];refine g.q.add hmx2 L hs2 fun y hy=>?_
          grind
         ·rcases Q2b S with S|⟨rfl,rfl⟩
          ·exact g.wl j y S
          grind
         ·dsimp only;rw[Qx9];constructor
          ·intro q;split at q
           ·rename_i q2;have q3:=Qbfx q2;simp only[Zo] at q3;obtain⟨rfl,rfl,rfl⟩:=q3;exact⟨_,List.mem_append_right _ (Zal.2 rfl),rfl⟩
           ·obtain⟨z,M,I⟩:=(g.has _ _ _).1 q
            grind
          ·rintro⟨z,M,I⟩;rcases Zp.1 M with M|M
           ·have q:=(g.has _ _ _).2 ⟨z,M,I⟩;rw[q];split<;>rfl
           ·simp only[Zal] at M;subst M;have q:(Q1 A (a:Int) f,Q1 m lang f,st2)=(x,y,st):=I
            grind
       ·rw[decide_eq_false (by omega),if_neg (by simp),Za];dsimp only;refine skip fun s hs=>?_;unfold stpC at hs
        grind
      ·rw[if_neg (by omega)]
       grind
     ·rintro⟨l',c'⟩ ⟨C,E⟩;dsimp only at C E |-;have hle:=E.length_le;by_cases h4:(l'.length:Int)>4096
      ·rw[if_pos h4];refine⟨_,_,_,rfl,.inl ⟨rfl,H,l'.map trH,by grind,C.q.nodup,C.q.run⟩⟩
      ·rw[if_neg h4,Qx (by omega)];refine ih _ ⟨i+1,rfl,by dsimp only;omega,by dsimp only;omega,⟨C.q.next,C.wl,C.has⟩,fun j y S hy=>?_⟩ (by dsimp only;omega);dsimp only at hy;by_cases hji:j<i
       ·refine hno j y hji ?_;obtain⟨r,rfl⟩:=E
        grind
       grind [Qg2]
    ·have hrw:=(href r).1 F;have h0m:0<m.zF:=by
      obtain⟨_,_,_,x,_,q⟩:=F
      grind
     have hkz:=Qbft h0m;have toB:∀v,0<=runE m 0 v↔LgA B v:=fun v=>by
      rw[<-Qbg2 hl];unfold LgA;rw[hkz]
     obtain⟨u,u1,u5,u2,u3,u4⟩:=Qbl6 h hl (o:=obsW p.Observable t) (e:=r) (by omega) h0m (by
      obtain⟨_,_,_,u,q1,q2⟩:=hrw
      grind)
     rw[if_pos hr0,Qbgy h.oe.so (by unfold big;omega) (by unfold big;omega),Za,u1,Za];refine⟨_,_,_,rfl,.inr ⟨rfl,fun q=>(by cases q),fun _=>⟨⟨n2,hrw,fun v e hv hr'=>?_,fun e hr'=>hr3 e ((href e).2 hr'),⟨u2,(toB _).1 u3⟩,fun u' hu'=>u4 u' hu'.1 ((toB _).2 hu'.2)⟩,H,(by grind),(by grind)⟩⟩⟩;refine hQ.q.least (Qbkj hA) (P:=fun s=>∃e,RefC p T m s e) (fun j y S hy=>?_) hmx (X v hv) ⟨e,(Qbdv h hl hm (Qbg2 hl) H (X v hv) e).2 hr'⟩
     grind
   ·rw[if_neg (by omega)];have:i=l.length:=by omega
    subst this;refine⟨_,_,_,rfl,.inr ⟨rfl,fun _=>⟨rfl,fun _ v e hv hr=>?_⟩,fun q=>by cases q⟩⟩;have C:=hQ.q;rw[<-Zu (f:=trH)] at C;refine C.none (Qbkj hA) (P:=fun s=>∃e,RefC p T m s e) (fun j y hy=>?_) (X v hv) ⟨e,(Qbdv h hl hm (Qbg2 hl) H (X v hv) e).2 hr⟩
    grind
  ·grind
  ·dsimp only;rw[Qx9];constructor
   ·intro q;split at q
    ·rename_i q2;have q3:=Qbfx q2;simp only[Zo] at q3;obtain⟨rfl,rfl,rfl⟩:=q3;exact⟨_,Zal.2 rfl,rfl⟩
    ·simp[getM] at q
   ·rintro⟨z,M,I⟩;simp only[Zal] at M;subst M;have q:((0:Int),k0 m,Qye m p.Observable)=(x,y,st):=I
    grind
end
end Go.Abs
end
section
namespace Go.Abs
open Go
theorem Qboi{a:Qa}(h:Right a){w:List Int}(b:LgA a w):0<a.zF:=by
 have c:=h.st;refine Zca fun q=>?_;unfold LgA k0 at b;rw[if_pos (by omega),Qi2 h] at b;omega
section
variable{p:Qf}(h:ProbW p){A B m:Qa}{T U:List (List Int)}(hl:Q6t p A B m T U)
include hl
include h
end
end Go.Abs
end
section
namespace Go.Abs
open Go
def kids(a:Qa)(x:Qp):List Qp:=(outP a x.state_).map fun e=>⟨x.word_++[e.Event],e.To⟩
def wq(a:Qa)(most:Int):Nat->Nat->List Qp->Option (List Qp)
 |0,_,all=>some all
 |fuel+1,i,all=>match all[i]? with
  |none=>some all
  |some x=>if (x.word_.length:Int)=most then some all else if (all++kids a x).length>1024 then none else wq a most fuel (i+1) (all++kids a x)
theorem Qbfz{a:Qa}(h:Right a)(s:Int):(outP a s).length<=a.zB.length:=by
 have:=congrArg List.length (Qn0 h s);rw[Zu] at this;rw[this];exact Zax _ _
section
variable{a:Qa}(h:Right a)
include h
theorem Qbku(fuel:Nat)(w:1099511627776<=fuel){all:List Qp}{i:Nat}{x:Qp}(q:all[i]? = some x)(s:all.length<=2000)(y:x.word_.length<=2000):
  Qbp (fun o((b,d):(List Qp)×Int)=>(if (d<((outP a x.state_).length:Int)) then ((getO (outP a x.state_) d).bind fun f=>((getO b (i:Int)).bind fun m=>((Qbd m.word_).bind fun l=>((appO l [f.Event]).bind fun j=>((appO b [(Qp.mk j f.To)]).bind fun g=>o (g,(IntKind.wrap .i64 (d+1)))))))) else some b)) fuel (all,0)=some (all++kids a x):=by
 have z:=Qbfz h x.state_;have u:=h.small.2.1;refine (Qhx (len:=(outP a x.state_).length) (fun n(c:List Qp)=>(c,(n:Int))) (fun n c=>c=all++((outP a x.state_).take n).map fun e=>⟨x.word_++[e.Event],e.To⟩) (fun n c=>some (all++kids a x)) ?_ ?_ fuel 0 all (Zw _) (by omega) (by simp))
 ·intro k n c r p t;subst p;dsimp only;have v:getO (all++((outP a x.state_).take n).map fun e=>(⟨x.word_++[e.Event],e.To⟩ : Qp)) (i:Int)=some x:=by
   rw[Quj];refine⟨by omega,?_⟩;have:=(Zm.1 q).1;rw[Zaw,Zay this];exact q
  rw[if_pos (by omega),Qy r];simp only[Za];rw[v];simp only[Za];rw[Qvm (by unfold lim;omega)];simp only[Za];rw[Qbm (by simp only[Zs,Zaj];unfold lim;omega)];simp only[Za];rw[Qbm (by simp only[Zs,Zaj,Zx,Zu,Zbl];unfold lim;omega)];simp only[Za];rw[Qx (by omega)];refine t _ ?_;rw[Zbj r,Zbn,Zbm];rfl
 ·intro k c p;subst p;dsimp only;rw[if_neg (by omega),Zbf];rfl
theorem Q62{x y:Qp}(b:y∈kids a x):y.word_.length=x.word_.length+1:=by
 obtain⟨e,_,rfl⟩:=Zl.1 b;simp
theorem Qbg3{x y:Qp}(c:y∈kids a x):0<=y.state_/\y.state_<a.zF:=by
 obtain⟨e,b,rfl⟩:=Zl.1 c;unfold outP at b;have:=h.ed0 e (Zq.1 b).1;simp only;omega
structure QOk(a:Qa)(i:Nat)(all:List Qp):Prop where
 le:i<=all.length
 ln:all.length<=1024
 wl:∀x∈all,x.word_.length<=i
 sr:∀x∈all,0<=x.state_/\x.state_<a.zF
theorem QOk.next{i:Nat}{all:List Qp}(q:QOk a i all){x:Qp}(c:all[i]? = some x)(e:(all++kids a x).length<=1024):QOk a (i+1) (all++kids a x):=by
 have f:=(Zm.1 c).1;have d:=Zn c;refine⟨by simp only[Zx];omega,e,fun y b=>?_,fun y b=>?_⟩
 ·rcases Zp.1 b with b|b
  ·have:=q.wl y b;omega
  ·have:=Q62 h b;have:=q.wl x d;omega
 ·rcases Zp.1 b with b|b
  ·exact q.sr y b
  ·exact Qbg3 h b
def Qzq(a:Qa)(b:Bool)(all:List Qp):List (List Int):=(all.filter fun x=>!b||decide (x.state_∈a.zC)).map (·.word_)
theorem Qbdy(fuel:Nat)(E:1099511627776<=fuel)(b:Bool){all:List Qp}(z:all.length<=2000)(C:∀x∈all,x.word_.length<=2000):
  ((Qbp (fun p((e,d):(List (List Int))×Int)=>(if (d<(all.length:Int)) then ((((getO all d).bind fun c=>(((if b then ((Qbs a.zC c.state_).bind fun g=>some g) else some true)).bind fun(m:Bool)=>(if m then ((appO [] c.word_).bind fun j=>((appO e [j]).bind fun i=>some (i,c.word_,c.state_))) else some (e,c.word_,c.state_))))).bind fun((o,t,s):(List (List Int))×(List Int)×Int)=>p (o,(IntKind.wrap .i64 (d+1)))) else some e)) fuel ([],0)).bind fun(q:List (List Int))=>some (q,(0:Int)))=some (Qzq a b all,0):=by
 have r:=h.small.1;have:=Qbjg (l:=all) (f:=fun x=>if (!b||decide (x.state_∈a.zC))=true then some x.word_ else none) (fuel:=fuel) (F:=fun p((e,d):(List (List Int))×Int)=>(if (d<(all.length:Int)) then ((((getO all d).bind fun c=>(((if b then ((Qbs a.zC c.state_).bind fun g=>some g) else some true)).bind fun(m:Bool)=>(if m then ((appO [] c.word_).bind fun j=>((appO e [j]).bind fun i=>some (i,c.word_,c.state_))) else some (e,c.word_,c.state_))))).bind fun((o,t,s):(List (List Int))×(List Int)×Int)=>p (o,(IntKind.wrap .i64 (d+1)))) else some e)) (by unfold big;omega) (by omega) (by
  intro k u n y A;dsimp only;have B:=C _ (Zr y);rw[if_pos (by omega),Qy y];simp only[Za];rw[Qnz r.2.1];have hb:(if b=true then (some (decide (all[n].state_∈a.zC))).bind (fun g=>some g) else some true)=some (!b||decide (all[n].state_∈a.zC)):=by cases b<;>rfl
  rw[hb];simp only[Za];by_cases hc:(!b||decide (all[n].state_∈a.zC))=true
  ·rw[if_pos hc,if_pos hc,Qbm (by simp only[Zaj];unfold lim;omega)];simp only[Za,Zbh];rw[Qbm (by simp only[Zs,Zaj];unfold lim;omega)];rfl
  ·rw[if_neg hc,if_neg hc];simp) (by
  intro k u;dsimp only;rw[if_neg (by omega)])
 refine (congrArg (fun w=>Option.bind w _) this).trans ?_;rw[Za];congr 2;unfold Qzq;generalize all=l
 induction l with
 |nil=>rfl
 |cons x l v =>
  by_cases hc:(!b||decide (x.state_∈a.zC))=true
  ·rw[List.filterMap_cons,List.filter_cons,if_pos hc,if_pos hc,v];rfl
  ·rw[List.filterMap_cons,List.filter_cons,if_neg hc,if_neg hc,v]
theorem Qbg4(d:Bool)(most:Int)(fuel:Nat)(E:1099511627776<=fuel)(i:Nat)(all:List Qp)(q:QOk a i all)(J:List Qp->Option (List (List Int)×Int))(P:∀all:List Qp,all.length<=2000->(∀x∈all,x.word_.length<=2000)->J all=some (Qzq a d all,0)):
  Qbp (fun z((b,e):(List Qp)×Int)=>(if (e<(b.length:Int)) then ((getO b e).bind fun w=>(if ((w.word_.length:Int)==most) then J b else ((((getO b e).bind fun v=>((Qfg a v.state_).bind fun m=>Qbp (fun y((c,g):(List Qp)×Int)=>(if (g<(m.length:Int)) then ((getO m g).bind fun l=>((getO c e).bind fun u=>((Qbd u.word_).bind fun t=>((appO t [l.Event]).bind fun s=>((appO c [(Qp.mk s l.To)]).bind fun p=>y (p,(IntKind.wrap .i64 (g+1)))))))) else some c)) fuel (b,0)))).bind fun(f:List Qp)=>(if ((f.length:Int)>1024) then some ([],3) else z (f,(IntKind.wrap .i64 (e+1))))))) else J b)) fuel (all,(i:Int)) =
  some (match wq a most (1025-i) i all with|none=>([],3)|some all=>(Qzq a d all,0)):=by
 have B:=h.small.1;have L:=h.st;have key:=Qb1 (F:=(fun(z:List Qp×Int->Option (List (List Int)×Int))((b,e):(List Qp)×Int)=>(if (e<(b.length:Int)) then ((getO b e).bind fun w=>(if ((w.word_.length:Int)==most) then J b else ((((getO b e).bind fun v=>((Qfg a v.state_).bind fun m=>Qbp (fun y((c,g):(List Qp)×Int)=>(if (g<(m.length:Int)) then ((getO m g).bind fun l=>((getO c e).bind fun u=>((Qbd u.word_).bind fun t=>((appO t [l.Event]).bind fun s=>((appO c [(Qp.mk s l.To)]).bind fun p=>y (p,(IntKind.wrap .i64 (g+1)))))))) else some c)) fuel (b,0)))).bind fun(f:List Qp)=>(if ((f.length:Int)>1024) then some ([],3) else z (f,(IntKind.wrap .i64 (e+1))))))) else J b)))
  (fun x=>∃i:Nat,x.2=(i:Int)/\QOk a i x.1) (fun x=>1025-x.2.toNat) (fun x r=>∀i:Nat,x.2=(i:Int)->r=some (match wq a most (1025-i) i x.1 with|none=>([],3)|some all=>(Qzq a d all,0))) (by
   rintro k ⟨all,_⟩ ⟨i,rfl,q⟩ ih j hj;replace q:QOk a i all:=q;obtain rfl:i=j:=by have:(i:Int)=j:=hj;omega
   have o:J all=some (Qzq a d all,0):=P all (by have:=q.ln;omega) fun x H=>by have:=q.wl x H;have:=q.le;have:=q.ln;omega
   have O:=q.le;have N:=q.ln;dsimp only;rw[show 1025-i=(1024-i)+1 from by omega];by_cases n:i<all.length
   ·have C:=Zj n;have M:=q.sr _ (Zr n);have I:=q.wl _ (Zr n);simp only[wq,C];rw[if_pos (by omega),Qy n];simp only[Za];by_cases A:(all[i].word_.length:Int)=most
    ·rw[if_pos (by simpa using A),if_pos A,o]
    ·rw[if_neg (by simpa using A),if_neg A,Qbmx h B (by omega) (by omega)];simp only[Za];rw[Qbku h fuel E C (by omega) (by omega)];simp only[Za];by_cases hb:(all++kids a all[i]).length>1024
     ·rw[if_pos (by omega),if_pos hb]
     ·rw[if_neg (by omega),if_neg hb,Qx (by omega)];have:=ih (all++kids a all[i],((i+1:Nat):Int)) ⟨i+1,rfl,q.next h C (by omega)⟩ (by simp only;omega) (i+1) rfl;rw[this,show 1025-(i+1)=1024-i from by omega]
   ·rw[if_neg (by omega),o];have:all[i]? = none:=List.getElem?_eq_none_iff.2 (by omega);simp only[wq,this]) fuel (all,(i:Int)) ⟨i,rfl,q⟩ (by simp only;omega)
 exact key i rfl
theorem Qbl8(most:Int)(b:Bool):Qfz a most b=some (if most<0\/most>4096 then ([],(2:Int)) else if a.zF=0 then ([],0) else match wq a most 1025 0 [⟨[],0⟩] with|none=>([],3)|some all=>(Qzq a b all,0)):=by
 have i:=h.st;unfold Qfz Qed;obtain⟨fuel,e,d⟩ : ∃f,Q0=f/\1099511627776<=f:=⟨_,rfl,Ze _⟩;rw[e,Qvj h,Za,if_neg (by simp)];by_cases c:most<0\/most>4096
 ·rw[if_pos c];rcases c with c|c
  ·simp[c]
  ·rw[if_neg (by omega)];simp[c]
 ·rw[if_neg c,if_neg (by omega)];simp only[Za,show decide (most>4096)=false from by simp;omega,Zg,if_false];by_cases g:a.zF=0
  ·simp[g]
  ·rw[if_neg (by simpa using g),if_neg g];unfold letJ;exact Qbg4 h b most fuel d 0 [⟨[],0⟩] ⟨by simp,by simp,by simp,by simp;omega⟩ _ fun all c j=>Qbdy h fuel d b c j
end
end Go.Abs
end
section
namespace Go.Abs
open Go
def wt:Nat->Nat
 |0=>781
 |1=>156
 |2=>31
 |3=>6
 |_=>1
theorem Qboj{l:Nat}(h:l<4):wt l=1+5*wt (l+1):=by
 match l,h with
 |0,_=>rfl
 |1,_=>rfl
 |2,_=>rfl
 |3,_=>rfl
theorem Qbpi:∀l,1<=wt l
 |0=>by decide
 |1=>by decide
 |2=>by decide
 |3=>by decide
 |_+4=>Ze 1
def wsum(l:List Qp):Nat:=(l.map fun x=>wt x.word_.length).sum
theorem Qbkv:∀l:List Qp,l.length<=wsum l
 |[]=>Ze _
 |x::l=>by
  have:=Qbkv l;have:=Qbpi x.word_.length;unfold wsum at *
  simp only[Zb,List.sum_cons,Zs];omega
theorem Qbdz(l m:List Qp):wsum (l++m)=wsum l+wsum m:=by simp[wsum]
theorem Q80{n:Nat}:∀l:List Qp,(∀x∈l,x.word_.length=n)->wsum l=l.length*wt n
 |[],_=>by simp[wsum]
 |x::l,h=>by
  have b:=Q80 l fun y c=>h y (by simp[c]);unfold wsum at *
  simp only[Zb,List.sum_cons,Zs,h x (by simp),b,Nat.succ_mul];omega
theorem Qbcq{a:Qa}{e:Int}:∀(w:List Int)(s t:Int)(n:Nat),runP a s n w=(t,((n+w.length:Nat):Int))->runP a s n (w++[e])=if 0<=Q1 a t e then (Q1 a t e,((n+w.length+1:Nat):Int)) else (t,((n+w.length:Nat):Int))
 |[],s,t,n,h=>by
  simp only[runP,Zf] at h;obtain⟨rfl,_⟩:=h;simp[runP]
 |x::w,s,t,n,h=>by
  simp only[Zaq,runP] at h |-;by_cases b:0<=Q1 a s x
  ·rw[if_pos b] at h |-;have:=Qbcq (e:=e) w (Q1 a s x) t (n+1) (by rw[h];simp only[Zs];congr 2;omega);rw[this];simp only[Zs];rw[show n+1+w.length=n+(w.length+1) from by omega]
  grind
section
variable{a:Qa}(h:Right a)(h5:a.zB.length<=5){most:Nat}(h4:most<=4)
structure QW(a:Qa)(most i:Nat)(all:List Qp):Prop extends QOk a i all where
 ml:∀x∈all,x.word_.length<=most
 rn:∀x∈all,runP a 0 0 x.word_=(x.state_,(x.word_.length:Int))
 ws:i+wsum (all.drop i)<=781
include h h5 h4
theorem QW.next{i:Nat}{all:List Qp}(q:QW a most i all){x:Qp}(k:all[i]? = some x)(z:x.word_.length≠most):QW a most (i+1) (all++kids a x)/\(all++kids a x).length<=1024:=by
 obtain⟨t,j⟩:=Zm.1 k;have c:=Zn k;have r:=q.ml x c;have l:(kids a x).length<=5:=by
  grind [Qbfz,kids,List.length_map]
 have g:=q.ws;rw[Zai t,j] at g;have w:wsum (x::all.drop (i+1))=wt x.word_.length+wsum (all.drop (i+1)):=by simp[wsum]
 rw[w,Qboj (by omega)] at g;have s:=Q80 (n:=x.word_.length+1) (kids a x) fun y b=>Q62 h b;have v:(all++kids a x).drop (i+1)=all.drop (i+1)++kids a x:=by grind
 have o:(kids a x).length*wt (x.word_.length+1)<=5*wt (x.word_.length+1):=Zbi _ l;have f : i+1+wsum ((all++kids a x).drop (i+1))<=781:=by rw[v,Qbdz,s];omega
 have d:(all++kids a x).length<=1024:=by
  grind [Qbkv,kids,List.length_drop]
 refine⟨⟨q.toQOk.next h k d,fun y b=>?_,fun y b=>?_,f⟩,d⟩
 ·rcases Zp.1 b with b|b
  ·exact q.ml y b
  ·have:=Q62 h b;omega
 ·rcases Zp.1 b with b|b
  ·exact q.rn y b
  ·obtain⟨e,m,rfl⟩:=Zl.1 b;have hr:=q.rn x c;have p:=Qou h m;have u:0<=e.To:=by unfold outP at m;exact (h.ed0 e (Zq.1 m).1).2.2.1
   simp_all[Qbcq,if_pos]
end
theorem Qbcr{s t:List (List Int)}(g:s.length<big)(f:∀x∈s,x.length<big):Qf6 s t=some (decide (s=t)):=by
 have h:s.length<1000000000000:=g;unfold Qf6 Qcl;by_cases b:s.length=t.length
 ·rw[if_neg (by simp[b])];refine Q12 (fun i:Int=>∃n:Nat,i=n/\n<=s.length/\s.take n=t.take n) (fun i=>s.length-i.toNat) _ ⟨0,rfl,by omega,by simp⟩ (by unfold Q0;omega) ?_;rintro k _ ⟨n,rfl,hn,he⟩ ih;by_cases c:n<s.length
  ·rw[if_pos (by omega),Qy c,Qy (by omega:n<t.length)];simp only[Za];rw[Qbfj (f _ (Zr c))];simp only[Za];by_cases d:s[n]=t[n]
   ·rw[if_pos (by simpa using d),Qx (by omega)];exact ih _ ⟨n+1,rfl,by omega,Q3w c (by omega) he d⟩ (by omega)
   ·rw[if_neg (by simpa using d)];have:s≠t:=fun e=>d (by subst e;rfl);simp[this]
  grind
 ·rw[if_pos (by simp;omega)];have:s≠t:=fun e=>b (by rw[e]);simp[this]
section
variable{a:Qa}(h:Right a)(h5:a.zB.length<=5){most:Nat}(h4:most<=4)
include h h5 h4
theorem Qbkw:∀(f i:Nat)(all:List Qp),QW a most i all->∃b,wq a most f i all=some b/\∃j,QW a most j b
 |0,i,all,q=>⟨all,rfl,i,q⟩
 |f+1,i,all,q=>by
  unfold wq;cases hg:all[i]? with
  |none=>grind
  |some x =>
   dsimp only;by_cases d:x.word_.length=most
   ·grind
   ·obtain⟨c,e⟩:=q.next h h5 h4 hg d;rw[if_neg (by omega),if_neg (by omega)];exact Qbkw f (i+1) _ c
theorem Qbcs:∃l,Qfz a most false=some (l,0)/\l.length<=1024/\∀w∈l,w.length<=most/\0<a.zF/\∃t,runP a 0 0 w=(t,(w.length:Int)):=by
 rw[Qbl8 h];rw[if_neg (by omega)];by_cases g:a.zF=0
 ·simp_all
 ·have e:=h.st;rw[if_neg g];obtain⟨b,f,j,q⟩:=Qbkw h h5 h4 1025 0 [⟨[],0⟩] ⟨⟨by simp,by simp,by simp,by simp;omega⟩,by simp,by simp[runP],by simp[wsum,wt]⟩;rw[f];refine⟨Qzq a false b,rfl,?_,fun w d=>?_⟩
  ·simp only[Qzq,Zu];exact Zac (Zax _ _) q.ln
  ·simp only[Qzq,Zl,Zq] at d;obtain⟨x,⟨c,_⟩,rfl⟩:=d;exact⟨q.ml x c,by omega,x.state_,q.rn x c⟩
end
theorem Qbf0{a:Qa}(h:Right a){b:List Int}(ho:b.length<big):Qia a b=some (Qbg1 a b):=by
 have f:=h.small.2.1;unfold Qia Qdf;refine Qboh (x:=Qbg1 a b) ?_ rfl;rw[Qbdt (l:=a.zB) (fun x=>decide (x∈b)) id some ?_ ?_ (by unfold Q0;omega)]
 ·simp[Qbg1]
 ·intro k n d s e;dsimp only;rw[if_pos (by omega),Qy d];simp only[Za];rw[Qbkf ho];simp only[Za];by_cases c:a.zB[n]∈b
  ·simp only[c,decide_true,if_true]
   grind [Qbm,List.length_cons,List.length_nil,lim,Qx]
  ·simp only[c,decide_false,Zg,if_false,Za];rw[Qx (by omega)]
 grind
end Go.Abs
end
section
namespace Go.Abs
open Go
theorem Qbkx{F:(Int->Option Bool)->Int->Option Bool}{len:Nat}{R:Option Bool->Prop}(g:len<1000000000){fuel:Nat}(e:1099511627776<=fuel)(step:∀(k:Int->Option Bool)(n:Nat),n<len->R (k ((n+1:Nat):Int))->R (F k (n:Int)))(a:∀(k:Int->Option Bool),R (F k (len:Int))):R (Qbp F fuel 0):=by
 refine Qb1 (fun x:Int=>∃n:Nat,x=(n:Int)/\n<=len) (fun x=>len-x.toNat) (fun _ r=>R r) (fun k x d c=>?_) fuel 0 ⟨0,rfl,by omega⟩ (by omega);obtain⟨n,rfl,f⟩:=d;by_cases b:n<len
 ·exact step k n b (c _ ⟨n+1,rfl,by omega⟩ (by omega))
 ·have:n=len:=by omega
  subst this;exact a k
theorem Qbg5{s:Qby}(h:Qbj7 s):Qgo s=some true:=by
 unfold Qgo Qgm;obtain⟨fuel,hfu,C⟩ : ∃f,Q0=f/\1099511627776<=f:=⟨_,rfl,Ze _⟩;rw[hfu,Qbgn,Za,if_pos rfl];obtain⟨p,hp,d⟩:=Qbj9 h;obtain⟨A,B,m,T,U,a⟩:=d.lang;obtain⟨mA,RA,g1,g2,g3,g4,g5,g6⟩:=Qbcb a.hA.r;obtain⟨w,b,e,hh,hr⟩:=Qbl7 d a;have hoe:=d.oe.len;have hce:=d.ce.len;have y:=d.pe.len;rw[hp,Za,hh,Za];dsimp only;rw[a.lang,Za];dsimp only;rw[Qbgv d a.e2 a.hA.r a.aA g1,Za];dsimp only;rcases hr with⟨rfl,_⟩|⟨rfl,r1,r2⟩
 ·rw[if_pos (by simp)]
 ·rw[if_neg (by simp),if_neg (by simp),if_neg (by simp)];simp only[bne_self_eq_false,Za,Zg,if_false];cases b with
  |false =>
   rw[if_neg (by simp),Qbf0 d.pr (by unfold big;omega),Za,Qbcr (by unfold big;simp) (fun x c=>by
    simp only[Zal] at c;subst c;have:(Qbg1 p.Plant p.Observable).length<=p.Plant.zB.length:=Zax _ _;unfold big;omega),Za]
   obtain⟨hw,hA0,_⟩:=r2 rfl;obtain⟨q1,M,q3,u,q4,n⟩:=hw.ref;have F:=Q6z d.pr _ 0 M;rw[if_neg (by
    simp only[decide_eq_true_eq];intro he;have he:Qbg1 p.Plant p.Observable=p.Plant.zB:=(List.cons.inj he).1;have E:∀x∈p.Plant.zB,x∈p.Observable:=fun x c=>by
     rw[<-he] at c;have:=(Zq.1 c).2;simpa using this
    have same:∀v:List Int,(∀x∈v,x∈p.Plant.zB)->obsW p.Observable v=v:=fun v hv=>List.filter_eq_self.2 fun x c=>by simpa using E x (hv x c)
    have hu:∀x∈u,x∈p.Plant.zB:=fun x c=>by
     have hB0:=Qboi a.hB.r n;unfold LgA at n;rw[Qbft hB0] at n;have:=Q6z a.hB.r _ 0 n x (List.mem_append_left _ c)
     rwa [a.aB] at this
    rw[same u hu,same w.Other fun x c=>F x (List.mem_append_left _ c)] at q4;subst q4;exact q3 n),Qbf0 d.pr (by unfold big;omega),Za]
   have z:w.Event∈Qbg1 p.Plant p.Controllable:=Zq.2 ⟨F _ (by simp),by simpa using q1⟩;have:=List.length_pos_of_mem z;rw[decide_eq_true (by omega)]
  |true =>
   rw[if_pos rfl];obtain⟨_,X⟩:=r1 rfl;obtain⟨L,P,l2,l3⟩:=Qbcs a.rm (by rw[a.am];exact y) (most:=3) (by omega);obtain⟨N,O,n2,n3⟩:=Qbcs g2 (by rw[g3,a.aA];exact y) (most:=2) (by omega);replace P:Qfz m 3 false=some (L,0):=P;replace O:Qfz mA 2 false=some (N,0):=O;rw[P,Za];dsimp only;rw[O,Za];dsimp only;simp only[bne_self_eq_false,Za,Zg,if_false];refine Qbkx (len:=L.length) (R:=fun r=>r=some true) (by omega) C (fun k i hi Q=>?_) (fun k=>?_)
   ·rw[if_pos (by omega)];unfold letJ;rw[Qy hi];have I:=l3 _ (Zr hi);generalize L[i]=W at I;obtain⟨w1,w2,t,w3⟩:=I;simp only[Za];rw[Qx (by omega)];by_cases hW:W=[]
    ·subst hW;rw[if_pos (by simp)];exact Q
    ·obtain⟨u,f,rfl⟩ : ∃u f,W=u++[f]:=⟨W.dropLast,W.getLast hW,(Zby hW).symm⟩;have hLB:LgA B (u++[f]):=(Qbg2 a _).1 ((Qbdu a.rm _).1 (by
      unfold genP;rw[w3,decide_eq_true w2];simp))
     have o:(u++[f]).length=u.length+1:=by simp
     rw[o] at w1;rw[if_neg (by simp;omega),o,Q13 (by omega) (by omega),Nat.add_sub_cancel];rw[show slcO (u++[f]) 0 (u.length:Int)=some u from by
      unfold slcO;rw[if_pos ⟨by omega,by omega,by simp;omega⟩];simp]
     rw[show getO (u++[f]) (u.length:Int)=some f from by
      rw[Quj];refine⟨by omega,?_⟩;simp]
     simp only[Za];rw[Qblv (by unfold big;omega),Za];by_cases hc:f∈p.Controllable
     ·rw[decide_eq_true hc,if_pos rfl];refine Qbkx (len:=N.length) (R:=fun r=>r=some true) (by omega) C (fun k2 j hj g=>?_) (fun k2=>?_)
      ·rw[if_pos (by omega),Qy hj];have H:=n3 _ (Zr hj);generalize N[j]=v at H;obtain⟨v1,v2,t2,v3⟩:=H;simp only[Za];have l:genP A v=true:=by
        rw[Q2e a.hA.r g2 g4 g6,<-genE g2];unfold genP;rw[v3,decide_eq_true v2];simp
       rw[genE a.hA.r,Zc,decide_eq_true_eq,decide_eq_true_eq] at l;rw[Qbm (by simp only[Zaj];unfold lim;omega),Za,Zbh,Qbm (by simp only[Zs,Zaj];unfold lim;omega),Za,Q8v (by unfold big;omega) (by unfold big;omega),Za,Q8v (by unfold big;omega) (by unfold big;omega),Za,Qbfj (by have:(obsW p.Observable u).length<=u.length:=Zax _ _;omega),Za,Qx (by omega)];by_cases S:obsW p.Observable u=obsW p.Observable v
       ·rw[decide_eq_true S,if_pos rfl,Qyd d.pr (by simp;unfold big;omega),Za];by_cases J:genP p.Plant (v++[f])=true
        ·have hgm:genP m (v++[f])=true:=by
          refine Zca fun q=>X l.1 v f l.2 ⟨hc,?_,fun M=>q ((Qbdu a.rm _).2 ((Qbg2 a _).2 M)),u,S,hLB⟩;rw[genE d.pr,Zc,decide_eq_true_eq,decide_eq_true_eq] at J;exact J.2
         rw[if_pos J,Qyd a.rm (by simp;unfold big;omega),Za,hgm,Za,if_neg (by simp)];exact g
        ·rw[if_neg J,Za,if_neg (by simp)];exact g
       ·rw[decide_eq_false S,if_neg (by simp),Za,if_neg (by simp)];exact g
      ·rw[if_neg (by omega)];exact Q
     ·rw[decide_eq_false hc,if_neg (by simp)];exact Q
   ·rw[if_neg (by omega)]
end Go.Abs
end
