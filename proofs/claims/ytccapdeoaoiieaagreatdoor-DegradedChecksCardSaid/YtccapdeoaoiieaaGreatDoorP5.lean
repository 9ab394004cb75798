/-
  Part 5 of the proof: see the last text.
-/
import Derived.Test.YtccapdeoaoiieaaGreatDoorP4
set_option linter.unusedVariables false
set_option linter.unusedSimpArgs false
set_option linter.unusedSectionVars false
section
namespace Go.Abs
open Go
def Q46 (C:Ctx) (n0 pc:Nat):List COp→St→St→Prop
 | [],σ,σ'=>σ'=σ
 | o::os,σ,σ'=>∃ σ1,Stp C n0 pc o σ σ1∧Q46 C n0 pc os σ1 σ'
theorem Q6e {C:Ctx} {n0 pc:Nat}:∀ {os:List COp} {σ:St} {Q:St→Prop},(∀ o∈os,o.kind.isNil=false)→Q5r C n0 pc os σ Q→∃ σ',Q46 C n0 pc os σ σ'∧Q σ'
 | [],σ,Q,_,h=>⟨σ,rfl,h⟩
 | o::os,σ,Q,hn,h=>by
  obtain ⟨σ1,h1,h2⟩:=Qbe2 (hn o (by simp)) h;obtain ⟨σ',h3,h4⟩:=Q6e (fun o ho=>hn o (by simp [ho])) h2;exact ⟨σ',⟨σ1,h1,h3⟩,h4⟩
theorem Alike.symm {o:COp} {s s' : Sl} (h:Alike o s s'):Alike o s' s:=by
 refine ⟨fun t w hg=>(h.1 t w hg).symm,fun a ha=>?_⟩;have:=h.2 a ha
 grind
theorem Q35 (x y:V) (n m:Nat):Qkv x.dem n y m=Qkv x n y m:=by
 cases x<;>first|rfl|(cases y<;>rfl)
theorem Q2o (x y:V) (n m:Nat):Qkv x n y.dem m=Qkv x n y m:=by
 cases y<;>first|rfl|(cases x<;>rfl)
theorem Q6f {x x' y y' : V} {n m:Nat} (hx:x'.dem=x.dem) (hy:y'.dem=y.dem):Qkv x' n y' m=Qkv x n y m:=by
 rw [← Q35 x',← Q35 x,hx,← Q2o _ y',← Q2o _ y,hy]
theorem Qbe5 {C:Ctx} {n0 pc:Nat} {o:COp} {σ σ' : St} (h:Stp C n0 pc o σ σ') {t:Nat} (ht:o.dst≠some t):(σ'.s t).dem=(σ.s t).dem:=by
 obtain ⟨v,_,hs⟩:=h;rw [hs];have:Qbd (Qba σ.s o.args (pv o σ.s)) o.dst v t=Qba σ.s o.args (pv o σ.s) t:=by
  cases hd:o.dst with
  | none=>rfl
  | some d =>
   have:t≠d:=fun e=>ht (by rw [hd,e]);simp [Qbd,Sl.put,this]
 grind [Q2i,Qba5]
theorem Q6g {C:Ctx} {n0 pc:Nat}:∀ {os:List COp} {σ σ' : St},Q46 C n0 pc os σ σ'→∀ {t:Nat},(∀ o∈os,o.dst≠some t)→(σ'.s t).dem=(σ.s t).dem
 | [],σ,σ',h,t,_=>by rw [show σ'=σ from h]
 | o::os,σ,σ',⟨σ1,h1,h2⟩,t,ht=>(Q6g h2 fun o ho=>ht o (by simp [ho])).trans (Qbe5 h1 (ht o (by simp)))
theorem Qbdf {C:Ctx} {n0 pc:Nat} {a b:COp} {ps:List Pair} (hcm:Qp3 pc a b=some ps) {σ σ1 σ2:St} (hsa:Qba9 n0 σ.nb a σ.s σ.M) (hsb:Qba9 n0 σ.nb b σ.s σ.M)
  (hap:∀ p∈ps,Qkv (σ.s p.a) p.n (σ.s p.b) p.m=true) (ha:Stp C n0 pc a σ σ1) (hb:Stp C n0 pc b σ1 σ2):∃ σ1',Stp C n0 pc b σ σ1'∧Stp C n0 pc a σ1' σ2:=by
 have hsl:a.slotsApart b=true:=by
  grind [Qp3]
 obtain ⟨va,hca,hs1⟩:=ha;obtain ⟨vb,hcb,hs2⟩:=hb;obtain ⟨k1,k2,k3⟩:=Q9k hsl σ.s va vb;rw [← hs1] at k1 k3;obtain ⟨M1',nb1',h1,h2⟩:=Qbbb hcm hsa hsb hap hca (k1.symm.core hcb);refine ⟨⟨_,M1',nb1'⟩,⟨vb,h1,rfl⟩,va,k2.core h2,?_⟩;rw [hs2];exact k3
section
variable {P:Program} {C:Ctx} {n0 nt:Nat} {g0:G} {w0:World}
def Real (n0 nt:Nat) (g0:G) (w0:World) (σ:St):Prop:=∃ a w g,SR n0 nt g0 w0 σ a w g
theorem Qbe6 {o:Oper} {a:Act} {w:World} {KK:Act→World→Prop} (h:o.wp P a w KK fun _ _ _=>False):∃ a' w',KK a' w':=by
 unfold Oper.wp at h;generalize (execOp a.eval o).run P w=r at h;cases r with
 | ok n w' =>
  cases n with
  | value v=>exact ⟨_,_,h⟩
  | skip=>exact ⟨_,_,h⟩
  | defer d=>exact ⟨_,_,h⟩
  | enter f args =>
   obtain ⟨e,w2,fr,h1,_⟩:=(h:Calls P f args w' _) [];cases e with
   | returned v=>exact ⟨_,_,h1⟩
   | panicked c=>exact h1.elim
   | outgrown=>obtain ⟨_,_,h⟩:=h1;exact h.elim
  | row row args =>
   obtain ⟨v,w2,h1,_⟩:=(h:Rows P row args w' _) (Frame.enter P 0 #[] .normal) [];exact ⟨_,_,h1⟩
  | _=>exact h.elim
 | halt x w'=>cases x<;>exact h.elim
theorem Real.step (hC:Qba0 P g0 w0 C) {T:Tk} {ops:Array Oper} {o:Oper} {c:COp} (hc:Qiz P T nt ops o=some c) {pc:Nat} {σ σ' : St} (h:Real n0 nt g0 w0 σ) (hs:Stp C n0 pc c σ σ'):Real n0 nt g0 w0 σ':=by
 obtain ⟨a,w,g,hsr⟩:=h;have:=Q42 (QQ:=fun _ _ _=>False) hC hc hsr (Qba2 (Q:=(· = σ')) hs rfl) (KK:=fun _ _=>Real n0 nt g0 w0 σ') fun σ2 a' w' g' hq hs'=>by subst hq;exact ⟨_,_,_,hs'⟩
 grind [Qbe6]
theorem Q1a {T:Tk} {ops:Array Oper} {o:Oper} {c:COp} (hc:Qiz P T nt ops o=some c) {σ:St} (h:Real n0 nt g0 w0 σ):Qba9 n0 σ.nb c σ.s σ.M:=by
 obtain ⟨a,w,g,hsr⟩:=h;obtain ⟨hdst,hd⟩:=Q33 hc;have hc':=hc;unfold Qiz at hc;split at hc<;>try (cases hc;done)
 rename_i k as tk hk;split at hc<;>try (cases hc;done)
 rename_i hcond;simp only [Bool.and_eq_true,decide_eq_true_eq,List.all_eq_true] at hcond;have hargs:c.args=as:=by
  grind
 have hons:V.ons (There σ.M) (c.args.map (·.val σ.s)):=by
  rw [Qh0];intro v hv;obtain ⟨x,hx,rfl⟩:=List.mem_map.1 hv;cases x with
  | t i=>exact hsr.onS i
  | c v =>
   have h1:=hcond.2 _ (hargs ▸ hx);simp only [Qbfw] at h1;exact Qdp (fun k hk=>absurd hk (Nat.not_lt_zero k)) v (Qbcx v h1)
 refine ⟨?_,?_,fun k hk=>?_⟩
 ·show V.ons (There σ.M) _
  grind [COp.xs,ons_dems]
 ·have ht:=hsr.top;cases hd' : c.dst with
  | none=>grind
  | some d=>grind
 ·obtain ⟨b,hb⟩:=Option.isSome_iff_exists.1 hk;exact (hsr.mem.box k b hb).1
theorem Q9n (hC:Qba0 P g0 w0 C) {T:Tk} {ops:Array Oper} {pc:Nat} {b:COp} {post:List COp} {σe:St} (hb:∃ o,Qiz P T nt ops o=some b) :
  ∀ (pre:List COp) (σ:St),(∀ c∈pre,∃ o,Qiz P T nt ops o=some c) →
  (∀ (pre1:List COp) a pre2,pre=pre1++a::pre2→∃ ps,Qp3 pc a b=some ps∧∀ p∈ps,Qkv (σe.s p.a) p.n (σe.s p.b) p.m=true∧∀ c∈(a::pre2)++b::post,c.dst≠some p.a∧c.dst≠some p.b) →
  Real n0 nt g0 w0 σ→Q46 C n0 pc (pre++b::post) σ σe→Q46 C n0 pc (b::(pre++post)) σ σe:=by
 intro pre
 induction pre with
 | nil=>grind
 | cons a pre ih =>
  intro σ hc hcm hr h;obtain ⟨σ1,h1,h2⟩:=h;obtain ⟨o,ho⟩:=hc a (by simp);obtain ⟨σ2,h3,h4⟩:=ih σ1 (fun c hc'=>hc c (by simp [hc'])) (fun pre1 a' pre2 e=>hcm (a::pre1) a' pre2 (by rw [e];rfl)) (hr.step hC ho h1) h2;obtain ⟨ps,hp1,hp2⟩:=hcm [] a pre rfl;obtain ⟨ob,hob⟩:=hb;have hap:∀ p∈ps,Qkv (σ.s p.a) p.n (σ.s p.b) p.m=true:=by
   intro p hp;obtain ⟨q1,q2⟩:=hp2 p hp;have hch:Q46 C n0 pc (a::(pre++b::post)) σ σe:=⟨σ1,h1,h2⟩
   grind [Q6f,Q6g]
  obtain ⟨σ1',k1,k2⟩:=Qbdf hp1 (Q1a ho hr) (Q1a hob hr) hap h1 h3;exact ⟨σ1',k1,σ2,k2,h4⟩
theorem Q8o {ops:List Oper} (L:Nat→Prop) (hL:∀ (j:Nat) o,ops[j]? = some o→L j→∀ e∈Qu6 o,L e) :
  ∀ (rest:List Oper) (acc:List Nat),acc.length+rest.length=ops.length→rest=ops.drop acc.length →
  (∀ (j:Nat) l o,acc[j]? = some l→ops[j]? = some o→(∀ e∈Qu6 o,L e)→∀ x,l.testBit x=true→L x) →
  ∀ (j:Nat) l o,(rest.foldl (fun acc o=>acc++[(Qu6 o).foldl (fun l e=>l ||| 2 ^ e ||| acc.getD e 0) 0]) acc)[j]? = some l→ops[j]? = some o→(∀ e∈Qu6 o,L e)→∀ x,l.testBit x=true→L x
 | [],acc,_,_,hI=>hI
 | o::rest,acc,hlen,hrest,hI=>by
  simp only [List.foldl_cons];have hget:ops[acc.length]? = some o:=by
   have:(ops.drop acc.length)[0]? = some o:=by rw [← hrest];rfl
   simpa using this
  refine Q8o L hL rest _ (by simp at hlen ⊢;omega) ?_ ?_
  ·have:rest=(ops.drop acc.length).drop 1:=by rw [← hrest];rfl
   simp_all
  ·intro j l o' hj ho' hb;by_cases hlt:j<acc.length
   ·grind
   ·have hjl:j=acc.length:=by
     grind
    subst hjl;rw [List.getElem?_append_right (Nat.le_refl _),Nat.sub_self,List.getElem?_cons_zero,Option.some.injEq] at hj;rw [hget] at ho';cases ho';subst hj;have:∀ (es:List Nat) (l0:Nat),(∀ e∈es,L e)→(∀ x,l0.testBit x=true→L x)→∀ x,(es.foldl (fun l e=>l ||| 2 ^ e ||| acc.getD e 0) l0).testBit x=true→L x:=by
     intro es
     induction es with
     | nil=>intro l0 _ h;exact h
     | cons e es ih =>
      intro l0 h1 h2;simp only [List.foldl_cons];refine ih _ (fun e' he'=>h1 e' (by simp [he'])) fun x hx=>?_
      grind
    grind
theorem Qbbc {ops:List Oper} (L:Nat→Prop) (hL:∀ (j:Nat) o,ops[j]? = some o→L j→∀ e∈Qu6 o,L e) {j:Nat} {o:Oper} (ho:ops[j]? = some o) (hb:∀ e∈Qu6 o,L e):∀ x,((ancs ops).getD j 0).testBit x=true→L x:=by
 intro x hx;cases hj:(ancs ops)[j]? with
 | none=>grind
 | some l =>
  simp [List.getD,hj] at hx;exact Q8o L hL ops [] (by simp) (by simp) (by simp) j l o hj ho hb x hx
theorem Q1s {α:Type} {l:List α} {i:Nat} {x:α}:(i,x)∈enum l↔l[i]? = some x:=by
 simp_all [enum,List.mem_iff_getElem?,List.getElem?_zip_eq_some,List.getElem?_eq_some_iff]
theorem Q6h {pc:Nat} {an:List Nat} {ops:List COp} {l:List Pair} (h:Qt2 pc an ops=some l) {i j:Nat} {a b:COp} (hi:ops[i]? = some a) (hj:ops[j]? = some b) (hij:i<j) (han:(an.getD j 0).testBit i=false) :
  ∃ m,Qp3 pc a b=some m∧m.all (Qxh ops i (an.getD j 0))=true∧∀ p∈m,p∈l:=by
 unfold Qt2 at h;let inner:=fun (q:Nat×COp) (acc:Option (List Pair)) (r:Nat×COp)=>(match acc with
    | none=>none
    | some l=>if decide (q.1<r.1) && !(an.getD r.1 0).testBit q.1 then
      match Qp3 pc q.2 r.2 with
      | some m=>if m.all (Qxh ops q.1 (an.getD r.1 0)) then some (l++m) else none
      | none=>none
     else some l:Option (List Pair))
 have hinner:∀ (q:Nat×COp) (rs:List (Nat×COp)) (acc:Option (List Pair)) (l:List Pair),rs.foldl (inner q) acc=some l→∃ l0,acc=some l0∧(∀ p∈l0,p∈l) ∧
   ∀ r∈rs,q.1<r.1→(an.getD r.1 0).testBit q.1=false→∃ m,Qp3 pc q.2 r.2=some m∧m.all (Qxh ops q.1 (an.getD r.1 0))=true∧∀ p∈m,p∈l:=by
  intro q rs
  induction rs with
  | nil=>grind
  | cons r rs ih =>
   intro acc l h;simp only [List.foldl_cons] at h;obtain ⟨l1,h1,h2,h3⟩:=ih _ l h;cases acc with
   | none=>simp [inner] at h1
   | some l0 =>
    grind
 have houter:∀ (qs rs:List (Nat×COp)) (acc:Option (List Pair)) (l:List Pair),qs.foldl (fun acc q=>rs.foldl (inner q) acc) acc=some l→∃ l0,acc=some l0∧(∀ p∈l0,p∈l) ∧
   ∀ q∈qs,∀ r∈rs,q.1<r.1→(an.getD r.1 0).testBit q.1=false→∃ m,Qp3 pc q.2 r.2=some m∧m.all (Qxh ops q.1 (an.getD r.1 0))=true∧∀ p∈m,p∈l:=by
  intro qs rs
  induction qs with
  | nil=>grind
  | cons q qs ih =>
   intro acc l h;simp only [List.foldl_cons] at h;obtain ⟨l1,h1,h2,h3⟩:=ih _ l h;obtain ⟨l0,h4,h5,h6⟩:=hinner q rs acc l1 h1
   grind
 obtain ⟨_,_,_,h3⟩:=houter (enum ops) (enum ops) (some []) l h;exact h3 (i,a) (Q1s.2 hi) (j,b) (Q1s.2 hj) hij han
end
end Go.Abs
end
section
namespace Go.Abs
open Go
instance:Inhabited COp:=⟨{ dst:=none,kind:=.mov,args:=[],tk:=false,guard:=none }⟩
theorem Q9o (e:Edge):Region.binds .any e=Q1m e:=by
 grind [Go.Region.binds,Q1m]
def left (n:Nat) (listed:Array Bool):List Nat:=(List.range n).filter fun i=>!listed.getD i true
theorem Q1t {n:Nat} {listed:Array Bool} (hs:listed.size=n) {i:Nat}:i∈left n listed↔i<n∧listed.getD i false=false:=by
 unfold left
 grind
theorem Q6i {l:Array Bool} {x:Nat}:l.getD x false=true↔l[x]? = some true:=by
 rw [Array.getD_eq_getD_getElem?];cases l[x]? <;> simp
theorem Q2p (n:Nat) (listed:Array Bool):(left n listed).Pairwise (· < ·):=List.pairwise_lt_range.filter _
theorem Qbbd {n:Nat} {listed:Array Bool} (hs:listed.size=n) {i:Nat} {l1 l2:List Nat} (h:left n listed=l1++i::l2):left n (listed.setIfInBounds i true)=l1++l2:=by
 have h1:left n (listed.setIfInBounds i true)=(left n listed).filter (· ≠ i):=by
  unfold left;rw [List.filter_filter];apply List.filter_congr;intro j hj;have hj' : j<listed.size:=by simp at hj;omega
  by_cases e:j=i
  all_goals simp_all [Array.getD,Array.getElem_setIfInBounds,Ne.symm]
 have hp:=Q2p n listed;rw [h] at hp;rw [h1,h,List.filter_append,List.filter_cons]
 grind [List.pairwise_cons,List.filter_eq_self]
mutual
theorem Qbbe:∀ v:V,v.on fun _=>True
 | .ptr ..=>trivial
 | .sl ..=>trivial
 | .mp _=>trivial
 | .agg cs=>ons_true cs
 | .tup cs=>ons_true cs
 | .clo _ cs=>ons_true cs
 | .und=>trivial
 | .d _=>trivial
 | .own ..=>trivial
 | .ownT ..=>trivial
 | .ownV ..=>trivial
 | .nilp=>trivial
 | .f _=>trivial
 | .nils _=>trivial
 | .cref _=>trivial
theorem ons_true:∀ vs:List V,V.ons (fun _=>True) vs
 | []=>trivial
 | v::vs=>⟨Qbbe v,ons_true vs⟩
end
section
variable {P:Program} {C:Ctx} {n0 nt:Nat} {g0:G} {w0:World}
theorem Q9p (hC:Qba0 P g0 w0 C) {T:Tk} {ops:Array Oper} {cs:List COp} (hcs:ops.toList.mapM (Qiz P T nt ops)=some cs) {id pc:Nat} {ps:List Pair}
  (hup:Q90 ops.toList=true) (hm:P.follows .mixedOrders=true) (hnil:∀ c∈cs,c.kind.isNil=false) (hps:Qt2 pc (ancs ops.toList) cs=some ps) {Q:St→Prop} {QQ:Exit→Act→World→Prop}
  (hQ:∀ σ' a' w' g',Q σ'→SR n0 nt g0 w0 σ' a' w' g'→QQ .normal a' w') {σ:St} {a:Act} {w:World} {g:G} (h:SR n0 nt g0 w0 σ a w g)
  (hr:Q5r C n0 pc cs σ fun σ'=>(ps.all fun p=>Qkv (σ'.s p.a) p.n (σ'.s p.b) p.m)=true∧Q σ'):(Code.region id ops true).wp P QQ a w:=by
 obtain ⟨hlen,hget⟩:=Qim hcs;obtain ⟨σe,hch,hap,hq⟩:=Q6e hnil hr;have hlen' : cs.length=ops.size:=by rw [hlen];simp
 have hcomp:∀ i,i<ops.size→∃ o,ops[i]? = some o∧cs[i]? = some cs[i]! ∧ Qiz P T nt ops o=some cs[i]!:=by
  intro i hi;have h2:cs[i]? = some cs[i]!:=by
   grind
  exact ⟨ops[i],by simp [hi],h2,hget i _ _ (by simp [hi]) h2⟩
 have key:∀ (fuel:Nat) (listed:Array Bool) (σ:St) (a:Act) (w:World) (g:G),listed.size=ops.size→(left ops.size listed).length=fuel →
   (∀ (j:Nat) o,ops.toList[j]? = some o→listed.getD j false=true→∀ e∈Qu6 o,listed.getD e false=true) →
   Q46 C n0 pc ((left ops.size listed).map (cs[·]!)) σ σe→SR n0 nt g0 w0 σ a w g→wpAny P .any ops QQ fuel listed a w:=by
  intro fuel
  induction fuel with
  | zero =>
   intro listed σ a w g hs hl hcl hch hsr;have hnil:left ops.size listed=[]:=List.eq_nil_of_length_eq_zero hl;rw [hnil] at hch;have:σe=σ:=hch;subst this;refine ⟨?_,hQ _ _ _ g hq hsr⟩
   grind [left,List.filter_eq_nil_iff,Go.Region.ready]
  | succ fuel ih =>
   intro listed σ a w g hs hl hcl hch hsr;have hsorted:=Q2p ops.size listed;have hready:∀ i o,ops[i]? = some o→(i∈Region.ready .any ops listed↔i∈left ops.size listed∧∀ e∈Qu6 o,listed.getD e false=true):=by
    intro i o ho;unfold Region.ready left;simp only [List.mem_filter,ho,Option.map_some,Option.getD_some,Bool.and_eq_true,Array.all_eq_true',Q9o,Bool.or_eq_true,Bool.not_eq_true'];constructor
    ·rintro ⟨h1,h2,h3⟩;refine ⟨⟨h1,h2⟩,fun e he=>?_⟩;simp only [Qu6,List.mem_map,List.mem_filter] at he
     grind
    ·rintro ⟨⟨h1,h2⟩,h3⟩;refine ⟨h1,h2,fun x hx=>?_⟩;cases hb:Q1m x with
     | false=>exact .inl rfl
     | true=>exact .inr (h3 x.on (by simp only [Qu6,List.mem_map,List.mem_filter];grind))
   refine ⟨fun hnone=>?_,fun i hi=>?_⟩
   ·exfalso;cases hle:left ops.size listed with
    | nil=>grind
    | cons i rest =>
     have him:i∈left ops.size listed:=by rw [hle];simp
     obtain ⟨hin,_⟩:=(Q1t hs).1 him;obtain ⟨o,ho,_,_⟩:=hcomp i hin;have:i∈Region.ready .any ops listed:=by
      refine (hready i o ho).2 ⟨him,fun e he=>?_⟩;have hlt:e<i:=by
       unfold Q90 at hup;rw [List.all_eq_true] at hup;have:=hup (i,o) (Q1s.2 (by simpa using ho))
       grind
      cases hle2:listed.getD e false with
      | true=>rfl
      | false =>
       have:e∈left ops.size listed:=(Q1t hs).2 ⟨by omega,hle2⟩;rw [hle] at this hsorted;rcases List.mem_cons.1 this with rfl|this
       all_goals grind [List.pairwise_cons]
     grind
   ·have hin:i<ops.size:=by
     grind [Go.Region.ready]
    obtain ⟨o,ho,hci,hco⟩:=hcomp i hin;obtain ⟨him,hbase⟩:=(hready i o ho).1 hi;obtain ⟨l1,l2,hl12⟩:=List.append_of_mem him;have hnext:=Qbbd hs hl12;have hanc:∀ x,((ancs ops.toList).getD i 0).testBit x=true→listed.getD x false=true:=Qbbc (fun x=>listed.getD x false=true) hcl (by simpa using ho) hbase;have hmf:Q46 C n0 pc (cs[i]! :: (l1++l2).map (cs[·]!)) σ σe:=by
     rw [hl12,List.map_append,List.map_cons] at hch;rw [List.map_append];refine Q9n (P:=P) (nt:=nt) (g0:=g0) (w0:=w0) (T:=T) (ops:=ops) hC ⟨o,hco⟩ _ σ (fun c hc=>?_) (fun pre1 x pre2 he=>?_) ⟨a,w,g,hsr⟩ hch
     ·grind
     ·obtain ⟨k1,k2,hk,hk1,hk2⟩:=List.map_eq_append_iff.1 he;obtain ⟨j,k3,rfl,rfl,hk3⟩:=List.map_eq_cons_iff.1 hk2;subst hk;have hjl:j∈left ops.size listed:=by rw [hl12];simp
      obtain ⟨hjn,hju⟩:=(Q1t hs).1 hjl;have hso:=hsorted;rw [hl12] at hso;have hso2:=List.pairwise_append.1 hso;have hji:j<i:=hso2.2.2 j (by simp) i (by simp);have hge:∀ k∈(j::k3)++i::l2,j≤k:=by
       intro k hk;have h5:((j::k3)++i::l2).Pairwise (· < ·):=by
        grind
       simp only [List.cons_append] at h5 hk;rcases List.mem_cons.1 hk with rfl|hk
       ·exact Nat.le_refl _
       ·exact Nat.le_of_lt ((List.pairwise_cons.1 h5).1 k hk)
      have hnanc:((ancs ops.toList).getD i 0).testBit j=false:=by
       grind
      obtain ⟨oj,_,hcj,_⟩:=hcomp j hjn;obtain ⟨m,hm1,hm2,hm3⟩:=Q6h hps hcj hci hji hnanc;refine ⟨m,hm1,fun p hp=>⟨List.all_eq_true.1 hap p (hm3 p hp),fun c hc=>?_⟩⟩;have hc' : ∃ k∈(j::k3)++i::l2,cs[k]! = c:=by
       rw [← hk3] at hc;rcases List.mem_append.1 hc with hc|hc
       ·rcases List.mem_cons.1 hc with rfl|hc
        ·grind
        ·obtain ⟨k,hk,rfl⟩:=List.mem_map.1 hc
         grind
       ·rcases List.mem_cons.1 hc with rfl|hc
        ·grind
        ·obtain ⟨k,hk,rfl⟩:=List.mem_map.1 hc
         grind
      obtain ⟨k,hk,rfl⟩:=hc';have hkj:=hge k hk;have hkl:k∈left ops.size listed:=by
       grind
      obtain ⟨hkn,hku⟩:=(Q1t hs).1 hkl;obtain ⟨_,_,hck,_⟩:=hcomp k hkn;have hpk:=List.all_eq_true.1 hm2 p hp;unfold Qxh at hpk;have:=List.all_eq_true.1 hpk (k,cs[k]!) (Q1s.2 hck)
      grind
    obtain ⟨σ1,hst,hrest⟩:=hmf;have:=Q42 (QQ:=QQ) hC hco hsr (Qba2 (Q:=fun σ'=>Q46 C n0 pc ((l1++l2).map (cs[·]!)) σ' σe) hst hrest) (KK:=wpAny P .any ops QQ fuel (listed.setIfInBounds i true)) fun σ' a' w' g' hq' hs'=>by
     refine ih _ σ' a' w' g' (by simp [hs]) ?_ (fun j oj hoj hj e he=>?_) ?_ hs'
     ·grind
     ·have hset:∀ x,listed.getD x false=true→(listed.setIfInBounds i true).getD x false=true:=by
       intro x hx;rw [Q6i] at hx ⊢;rw [Array.getElem?_setIfInBounds];split
       all_goals grind
      by_cases hji:j=i
      ·grind
      ·refine hset e (hcl j oj hoj ?_ e he);rw [Q6i] at hj ⊢
       grind
     ·rw [hnext];exact hq'
    grind [Go.wpOp]
 refine wp_region_any hm (key ops.size _ σ a _ g (by simp) ?_ (fun j o _ hj=>?_) ?_ ?_)
 ·have:left ops.size (Array.replicate ops.size false)=List.range ops.size:=by
   simp_all [left,List.filter_eq_self,Array.getD]
  rw [this];simp
 ·simp_all [Array.getD,Array.size_replicate]
 ·have:(left ops.size (Array.replicate ops.size false)).map (cs[·]!)=cs:=by
   have h1:left ops.size (Array.replicate ops.size false)=List.range ops.size:=by
    simp_all [left,List.filter_eq_self,Array.getD]
   rw [h1];apply List.ext_getElem
   all_goals grind
  rw [this];exact hch
 ·have hk:Kept g w g { w with drawn:=w.drawn+1 } (fun _=>True) fun _=>True:=⟨⟨fun _ _ h=>h,fun _ _ _=>rfl⟩,fun _ _=>rfl,fun _ _ _=>⟨rfl,rfl,fun _=>Iff.rfl⟩⟩;have hall:(∀ v:V,v.on fun _=>True)∧∀ vs:List V,V.ons (fun _=>True) vs:=by
   grind [Qbbe,Qh0]
  refine ⟨⟨fun k b hb=>?_,h.mem.imm⟩,fun t=>Qch hk (fun _ _ h=>h) trivial _ _ _ trivial (hall.1 _) (h.slots t),h.size,h.defers,h.onS,h.onM,h.top,?_⟩
  ·obtain ⟨h1,h2,h3⟩:=h.mem.box k b hb;refine ⟨h1,h2,?_⟩;cases b with
   | mp es c =>
    obtain ⟨ents,k1,k2⟩:=h3;exact ⟨ents,k1,Qi8 (g:=g) (g':=g) hk (fun _=>trivial) k2⟩
   | cells cs =>
    obtain ⟨vals,e,k1,k2,k3⟩:=h3;exact ⟨vals,e,k1,RVs_mono hk (fun _ _ h=>h) trivial _ _ _ _ trivial (hall.2 _) k2,k3⟩
  ·exact ⟨h.fr.os,h.fr.tape,h.fr.output,h.fr.size,⟨h.fr.imm.mono,h.fr.imm.look⟩,h.fr.box,h.fr.old⟩
end
end Go.Abs
end
section
namespace Go.Abs
open Go
theorem Qbbf (P:Nat→Bool) (vs:List V):Qdl.go P vs=vs.map (Qdl P):=by
 induction vs with
 | nil=>rfl
 | cons v vs ih=>simp [Qdl.go,ih]
mutual
theorem Qbbg {g:G} {w:World} (P:Nat→Bool):∀ (v:V) (ℓ:Owner) (u:Value),RV g w v ℓ u→RV g w (Qdl P v) ℓ u
 | .und,_,_,h=>by simp [Qdl,RV]
 | .d x,_,_,h=>by simpa [Qdl] using h
 | .agg cs,ℓ,u,h=>by
  simp only [Qdl,RV] at h ⊢;obtain ⟨vs,rfl,h,h1⟩:=h;exact ⟨vs,rfl,RVs_kill P cs ℓ 0 vs h,h1⟩
 | .tup cs,ℓ,u,h=>by
  simp only [Qdl,RV] at h ⊢;obtain ⟨vs,rfl,h⟩:=h;exact ⟨vs,rfl,RVs_kill P cs ℓ 0 vs h⟩
 | .own ..,_,_,h=>by simpa [Qdl] using h
 | .ownT ..,_,_,h=>by simpa [Qdl] using h
 | .ownV ..,_,_,h=>by simpa [Qdl] using h
 | .ptr k o,_,_,h=>by
  simp only [Qdl];split
  ·simp [RV]
  ·exact h
 | .nilp,_,_,h=>by simpa [Qdl] using h
 | .f _,_,_,h=>by simpa [Qdl] using h
 | .nils _,_,_,h=>by simpa [Qdl] using h
 | .cref _,_,_,h=>by simpa [Qdl] using h
 | .sl ..,_,_,h=>by
  simp only [Qdl];split
  ·simp [RV]
  ·exact h
 | .clo f cs,_,u,h=>by
  simp only [Qdl,RV] at h ⊢;obtain ⟨vs,rfl,h⟩:=h;exact ⟨vs,rfl,RVs_kill P cs .ext 0 vs h⟩
 | .mp k,_,_,h=>by
  simp only [Qdl];split
  ·simp [RV]
  ·exact h
theorem RVs_kill {g:G} {w:World} (P:Nat→Bool):∀ (cs:List V) (ℓ:Owner) (i:Nat) (us:List Value),RVs g w cs ℓ i us→RVs g w (Qdl.go P cs) ℓ i us
 | [],_,_,_,h=>by simpa [Qdl.go,RVs] using h
 | c::cs,ℓ,i,us,h=>by
  simp only [Qdl.go,RVs] at h ⊢;obtain ⟨u,us,rfl,h1,h2⟩:=h;exact ⟨u,us,rfl,Qbbg P c _ u h1,RVs_kill P cs ℓ (i+1) us h2⟩
end
mutual
theorem Qbbh {p:Nat→Prop} (P:Nat→Bool):∀ v:V,v.on p→(Qdl P v).on fun k=>p k∧P k=false
 | .ptr k o,h=>by simp only [Qdl];split<;>simp_all [V.on]
 | .sl ..,h=>by simp only [Qdl];split<;>simp_all [V.on]
 | .mp k,h=>by simp only [Qdl];split<;>simp_all [V.on]
 | .agg cs,h=>by simp only [Qdl,V.on];exact ons_kill P cs h
 | .tup cs,h=>by simp only [Qdl,V.on];exact ons_kill P cs h
 | .clo _ cs,h=>by simp only [Qdl,V.on];exact ons_kill P cs h
 | .und,_=>trivial
 | .d _,_=>trivial
 | .own ..,_=>trivial
 | .ownT ..,_=>trivial
 | .ownV ..,_=>trivial
 | .nilp,_=>trivial
 | .f _,_=>trivial
 | .nils _,_=>trivial
 | .cref _,_=>trivial
theorem ons_kill {p:Nat→Prop} (P:Nat→Bool):∀ vs:List V,V.ons p vs→V.ons (fun k=>p k∧P k=false) (Qdl.go P vs)
 | [],_=>trivial
 | v::vs,h=>⟨Qbbh P v h.1,ons_kill P vs h.2⟩
end
mutual
theorem Qbd7 {p q:Nat→Prop}:∀ (v:V),v.on p→v.on q→v.on fun k=>p k∧q k
 | .ptr _ _,h1,h2=>⟨h1,h2⟩
 | .sl ..,h1,h2=>⟨h1,h2⟩
 | .mp _,h1,h2=>⟨h1,h2⟩
 | .agg cs,h1,h2=>ons_and cs h1 h2
 | .tup cs,h1,h2=>ons_and cs h1 h2
 | .clo _ cs,h1,h2=>ons_and cs h1 h2
 | .und,_,_=>trivial
 | .d _,_,_=>trivial
 | .own ..,_,_=>trivial
 | .ownT ..,_,_=>trivial
 | .ownV ..,_,_=>trivial
 | .nilp,_,_=>trivial
 | .f _,_,_=>trivial
 | .nils _,_,_=>trivial
 | .cref _,_,_=>trivial
theorem ons_and {p q:Nat→Prop}:∀ (vs:List V),V.ons p vs→V.ons q vs→V.ons (fun k=>p k∧q k) vs
 | [],_,_=>trivial
 | v::vs,h1,h2=>⟨Qbd7 v h1.1 h2.1,ons_and vs h1.2 h2.2⟩
end
section
variable {P:Program} {C:Ctx} {n0 nt:Nat} {g0:G} {w0:World}
theorem Qbbi {n0:Nat} {sites:List Nat} {k:Nat} (h:Qjq n0 sites k=true):n0≤k:=by
 simp only [Qjq,List.any_eq_true,beq_iff_eq] at h
 grind
theorem Q1u {σ:St} {a:Act} {w:World} {g:G} (h:SR n0 nt g0 w0 σ a w g) (sites:List Nat):SR n0 nt g0 w0 (Ql2 n0 sites σ) a w g:=by
 have hthere:∀ k,(There σ.M k∧Qjq n0 sites k=false)→There (Ql2 n0 sites σ).M k:=by
  rintro k ⟨h1,h2⟩;simp only [There,Ql2,h2,Bool.false_eq_true,if_false] at h1 ⊢
  grind
 refine ⟨⟨fun k b hk=>?_,h.mem.imm⟩,fun t=>Qbbg _ _ _ _ (h.slots t),h.size,h.defers,fun t=>Qdp hthere _ (Qbbh _ _ (h.onS t)),fun k cs hk=>?_,h.top,h.fr⟩
 ·simp only [Ql2] at hk;split at hk
  ·cases hk
  ·split at hk
   ·exact h.mem.box k b hk
   ·split at hk
    ·rename_i cs hcs;cases hk;obtain ⟨h1,h2,vals,e,hh,hr,ho⟩:=h.mem.box k _ hcs;refine ⟨h1,h2,vals,e,hh,?_,ho⟩;rw [← Qbbf];exact RVs_kill _ _ _ _ _ hr
    ·exact h.mem.box k b hk
 ·simp only [Ql2] at hk;split at hk
  ·cases hk
  ·rename_i hns;split at hk
   ·rename_i hlt;have h2:=(h.onM k cs hk).2 hlt;have h1:=(h.onM k cs hk).1;refine ⟨?_,fun _=>h2⟩;rw [Qh0] at h1 h2 ⊢;intro v hv;have hb:v.on fun k=>There σ.M k∧k<n0:=Qbd7 v (h1 v hv) (h2 v hv);refine Qdp (fun k hk=>hthere k ⟨hk.1,?_⟩) v hb
    grind [Qjq,Qbbi]
   ·split at hk
    ·rename_i hge _ cs' hcs;cases hk;refine ⟨?_,fun hlt=>absurd hlt hge⟩;rw [← Qbbf];exact ons_mono hthere _ (ons_kill _ _ (h.onM k cs' hcs).1)
    grind
theorem Q6j {p:Nat→Prop} (h:∃ n,p n):∃ n,p n∧∀ m,p m→n≤m:=by
 obtain ⟨n,hn⟩:=h
 induction n using Nat.strongRecOn with
 | _ n ih =>
  grind
open Classical in
noncomputable def Qbbj (p:Nat→Prop):Nat:=if h:∃ n,p n then Classical.choose (Q6j h) else 0
theorem Q9q {p:Nat→Prop} (h:∃ n,p n):p (Qbbj p):=by
 unfold Qbbj;grind
theorem Qbdg {p:Nat→Prop} {n:Nat} (h:p n):Qbbj p≤n:=by
 have hx:∃ n,p n:=⟨n,h⟩;unfold Qbbj;grind
def Ex.to:Ex→Exit
 | .norm=>.normal
 | .exit id=>.exit id
 | .ret=>.ret
def lift (n0 nt:Nat) (g0:G) (w0:World) (Q:Ex→St→Prop):Exit→Act→World→Prop :=
 fun e a w=>∃ x σ g,e=x.to∧Q x σ∧SR n0 nt g0 w0 σ a w g
structure Env where
 P:Program
 n0:Nat
 nt:Nat
 g0:G
 w0:World
 T:Tk
 tab:Tab P g0 w0
def Tr (Γ:Env) (cc:CC) (σ:St) (Q:Ex→St→Prop):Prop :=
 ∀ c,Qt3 Γ.P Γ.T Γ.nt c=some cc→∀ a w g,SR Γ.n0 Γ.nt Γ.g0 Γ.w0 σ a w g→c.wp Γ.P (lift Γ.n0 Γ.nt Γ.g0 Γ.w0 Q) a w
def Wk (v v' : V):Prop:=∀ g w ℓ u,RV g w v ℓ u→RV g w v' ℓ u
def pos:List Res→Nat→Option Nat
 | [],_=>none
 | .t i::rs,t=>if i=t then some 0 else (pos rs t).map (· + 1)
 | .cell .. :: rs,t=>(pos rs t).map (· + 1)
def Q0h (ts:List Res) (single:Bool):Owner→Owner
 | .slot t q=>if single then (if pos ts t=some 0 then .res q else .slot t q) else
   match pos ts t with
   | some j=>.res (q++[j])
   | none=>.slot t q
 | o=>o
theorem Qwe (ts:List Res) (s:Bool) (o:Owner) (i:Nat):Q0h ts s (o.sub i)=(Q0h ts s o).sub i:=by
 cases o<;>try rfl
 rename_i t q;cases s with
 | true =>
  simp only [Q0h,Owner.sub,if_true];split<;>rfl
 | false =>
  simp only [Q0h,Owner.sub,Bool.false_eq_true,if_false];split<;>rfl
theorem Q6k {ts:List Res} {s:Bool} {o:Owner} {k:Nat}:Q0h ts s o = .box k↔o = .box k:=by
 cases o<;>try rfl
 cases s with
 | true=>simp only [Q0h,if_true];split<;>simp
 | false=>simp only [Q0h,Bool.false_eq_true,if_false];split<;>simp
theorem Q36 {ts:List Res} {s:Bool} {o:Owner} (h:Prot o):Q0h ts s o=o:=by
 cases o<;>first|exact h.elim|rfl
theorem Qbbk {m κ:Nat} {ag:Bool} {n:Nat} {p v:V} {M M' : Mem} (h:Qm m κ (.load ag n) [p] M=some (v,M')):Flat v:=by
 cases p<;>try (simp [Qm] at h;done)
 ·rename_i k off;simp only [Qm] at h;split at h<;>try (cases h;done)
  rename_i cs hk;split at h<;>try (cases h;done)
  split at h
  ·cases h;simp [Flat,V.dem,dems_dems]
  ·simp only [Option.map_eq_some_iff,Prod.mk.injEq] at h;obtain ⟨x,_,rfl,_⟩:=h;exact Qdj x
 ·rename_i cs;simp only [Qm] at h;split at h<;>try (cases h;done)
  split at h
  ·cases h;have:∀ l:List D,V.dems (l.map V.d)=l.map V.d:=by
    intro l;induction l with
    | nil=>rfl
    | cons a l ih=>simp [V.dems,V.dem,ih]
   simp only [Flat,V.dem,this]
  ·simp only [Option.map_eq_some_iff,Prod.mk.injEq] at h;obtain ⟨x,_,rfl,_⟩:=h
   rfl
theorem Qbf7 {σ:St} {a:Act} {w:World} {g:G} (h:SR n0 nt g0 w0 σ a w g) {rv:ResultVar} {rs:Res} (hc:Qt4 P nt rv=some rs) {r:V} (hr:rs.val σ=some r) :
  (∃ v,((match rv with | .tmp t=>pure (a.tmps.getD t undef) | .cell p t=>do loadVar t (← asAddr (a.tmps.getD p undef)):Sem Value)).run P w = .ok v w∧r.on (There σ.M) ∧
   ((∃ t,rs = .t t∧r=σ.s t∧RV g w r (.slot t []) v)∨((∃ p ag n,rs = .cell p ag n)∧Flat r∧RF g w r v))):=by
 cases rv with
 | tmp t =>
  simp only [Qt4] at hc;split at hc<;>cases hc;simp only [Res.val,Option.some.injEq] at hr;subst hr;exact ⟨_,rfl,h.onS t,.inl ⟨t,rfl,rfl,h.slots t⟩⟩
 | cell p t =>
  simp only [Qt4] at hc;split at hc<;>cases hc;rename_i hp;obtain ⟨d,hd⟩:=Option.isSome_iff_exists.1 hp.2;simp only [Res.val,Option.map_eq_some_iff] at hr;obtain ⟨⟨r',M'⟩,hst,rfl⟩:=hr;have hpp:(∃ k o,σ.s p = .ptr k o)∨∃ cs,σ.s p = .cref cs:=by
   cases hv:σ.s p<;>rw [hv] at hst<;>try (simp [Qm] at hst;done)
   all_goals grind
  have hf:Flat (σ.s p):=by rcases hpp with ⟨k,o,e⟩|⟨cs,e⟩<;>rw [e]<;>rfl
  have hrf:RF g w (σ.s p) (a.tmps.getD p undef):=fun ℓ=>Ql6 hf (h.slots p);have hu:∃ ad,a.tmps.getD p undef = .pointer (some ad):=by
   grind [Qm0,Qt5]
  obtain ⟨ad,hu⟩:=hu;obtain ⟨_,val,hrun,hval⟩:=Qbaa P h.mem t hd hrf hst;refine ⟨val,?_,?_,.inr ⟨⟨_,_,_,rfl⟩,Qbbk hst,hval⟩⟩
  ·grind [Go.Instr.loadAt,Go.Instr.sureAddr,Go.Sem.run_bind,Go.Sem.run_pure,Go.Result.andThen_ok,Go.asAddr]
  ·obtain ⟨h1,_,_⟩:=Q4x (k:=.load (Qgp P t) (P.cellsOf t)) trivial hst ⟨h.onS p,trivial⟩ h.mOn
   grind
def Q37 (tmps:Array Value) (rv:ResultVar):Sem Value :=
 match rv with
 | .tmp t=>pure (tmps.getD t undef)
 | .cell p t=>do loadVar t (← asAddr (tmps.getD p undef))
theorem Qbbl {σ:St} {a:Act} {w:World} {g:G} (h:SR n0 nt g0 w0 σ a w g):∀ (rvs:List ResultVar) (rss:List Res) (rs:List V),rvs.mapM (Qt4 P nt)=some rss→rss.mapM (Res.val σ)=some rs →
  ∃ vs:List Value,(rvs.mapM (Q37 a.tmps)).run P w = .ok vs w∧vs.length=rs.length∧rs.length=rss.length∧V.ons (There σ.M) rs ∧
   ∀ (j:Nat) r v s,rs[j]? = some r→vs[j]? = some v→rss[j]? = some s→(∃ t,s = .t t∧r=σ.s t∧RV g w r (.slot t []) v)∨((∃ p ag n,s = .cell p ag n)∧Flat r∧RF g w r v)
 | [],rss,rs,hc,hr=>by
  simp at hc;subst hc;simp at hr;subst hr;exact ⟨[],by simp,rfl,rfl,trivial,by simp⟩
 | rv::rvs,rss,rs,hc,hr=>by
  simp only [List.mapM_cons,Option.bind_eq_bind,Option.bind_eq_some_iff,Option.pure_def,Option.some.injEq] at hc;obtain ⟨s,hs,rss',hss,rfl⟩:=hc;simp only [List.mapM_cons,Option.bind_eq_bind,Option.bind_eq_some_iff,Option.pure_def,Option.some.injEq] at hr;obtain ⟨r,hr1,rs',hr2,rfl⟩:=hr;obtain ⟨v,h1,h2,h3⟩:=Qbf7 h hs hr1;obtain ⟨vs,k1,k2,k3,k4,k5⟩:=Qbbl h rvs rss' rs' hss hr2;have h1' : (Q37 a.tmps rv).run P w = .ok v w:=h1;refine ⟨v::vs,by simp_all,by simp [k2],by simp [k3],⟨h2,k4⟩,fun j r' v' s' hj1 hj2 hj3=>?_⟩;cases j with
  | zero=>grind
  | succ j=>grind
theorem Q7s:∀ (rss:List Res) (j t:Nat),(Qpi rss).Nodup→rss[j]? = some (.t t)→pos rss t=some j
 | [],j,t,_,h=>by simp at h
 | s::rss,j,t,hn,h=>by
  cases j with
  | zero =>
   grind [pos]
  | succ j =>
   have h' : rss[j]? = some (.t t):=by simpa using h
   have hm:t∈Qpi rss:=by
    simp only [Qpi,List.mem_filterMap];exact ⟨.t t,List.mem_of_getElem? h',rfl⟩
   cases s with
   | t i =>
    have hn' : i∉Qpi rss∧(Qpi rss).Nodup:=by simpa [Qpi] using hn
    have hne:i≠t:=by grind
    simp [pos,hne,Q7s rss j t hn'.2 h']
   | cell p ag n =>
    have hn' : (Qpi rss).Nodup:=by simpa [Qpi] using hn
    simp [pos,Q7s rss j t hn' h']
def Fin (rs:List Res) (r:V) (M' : Mem) (nb' : Nat):Ex→St→Prop:=fun e σ =>
 (e = .norm∨e = .ret)∧∃ r',Qn4 σ rs=some r'∧Wk r' r∧(∀ k b,M' k=some b→σ.M k=some b)∧r.on (There M')∧MOn (There M') M'∧∀ k,There M' k→k<nb'
def Fin2 (n0:Nat) (rs:List Res) (r:V) (M' : Mem) (nb' : Nat):Ex→St→Prop:=fun e σ =>
 (e = .norm∨e = .ret)∧∃ r',Qn4 σ rs=some r'∧Wk r' r∧(∀ k b,M' k=some b→σ.M k=some b) ∧
  (r'.on (There σ.M)→(∀ k cs,σ.M k=some (.cells cs)→V.ons (There σ.M) cs∧(k<n0→V.ons (· < n0) cs))→(∀ k,There σ.M k→k<σ.nb)→r.on (There M')∧MOn (There M') M'∧∀ k,There M' k→k<nb')
def TrF (Γ:Env) (f:FuncId) (cc:CC) (σ:St) (Q:Ex→St→Prop):Prop :=
 ∀ c,(Γ.P.funcs[f]?).bind (·.body)=some c→Qt3 Γ.P Γ.T Γ.nt c=some cc→∀ a w g,SR Γ.n0 Γ.nt Γ.g0 Γ.w0 σ a w g→c.wp Γ.P (lift Γ.n0 Γ.nt Γ.g0 Γ.w0 Q) a w
theorem Q8p {f:FuncId} {cf:CFn} (hcf:Qr P f=some cf) {args:List V} {M:Mem} {nb nb' : Nat} {r:V} {M' : Mem} (hM0:∀ k,nb≤k→M k=none) (hargs:args.length=cf.np) (hnb:nb≤nb')
  {w:World} {g:G} {us:List Value} (htab:Tab P g w) (hm:MR g w M nb) (hMon:MOn (There M) M) (hus:RAs g w 0 args us) (hons:V.ons (There M) args)
  (hrun:∀ Γ:Env,Γ.P=P→Γ.n0=nb→Γ.nt=cf.nt→Γ.g0=g→Γ.w0=w→TrF Γ f cf.body ⟨Qkb args,M,nb+cf.nt⟩ (Fin2 nb cf.res r M' nb')) :
  Qh2 P f=true∧Calls P f us.toArray w fun e w'=>∃ v g',e = .returned v∧MR g' w' M' nb'∧RV g' w' r (.res []) v∧r.on (There M')∧MOn (There M') M'∧Fr nb g w g' w':=by
 unfold Qr at hcf;split at hcf<;>try (cases hcf;done)
 rename_i fn hfn;split at hcf<;>try (cases hcf;done)
 rename_i code hbody;split at hcf<;>try (cases hcf;done)
 rename_i b rss hb hrss;split at hcf<;>try (cases hcf;done)
 rename_i hnd;obtain ⟨hnd,hnp,hname⟩:=hnd;cases hcf;simp only at hargs hrun;refine ⟨by grind [Qh2,Q1z],?_⟩;have hlen:us.length=args.length:=hus.length;let a0:Act:={ tmps:=us.toArray++Array.replicate (fn.ntmps-us.toArray.size) undef,defers:=[] };have hsz:a0.tmps.size=fn.ntmps:=by simp [a0];omega
 have hinit:∀ t,RV g w (Qkb args t) (.slot t []) (a0.tmps.getD t undef):=by
  intro t;rcases Nat.lt_or_ge t args.length with hlt|hge
  ·have h1:Qkb args t=args[t]:=by simp [Qkb,hlt]
   have h2:a0.tmps.getD t undef=us[t]'(by omega):=by
    simp only [a0,Array.getD_eq_getD_getElem?]
    grind
   rw [h1,h2];have:=hus.get t _ _ (List.getElem?_eq_getElem hlt) (List.getElem?_eq_getElem (by omega));rwa [Nat.zero_add] at this
  grind [Qkb,RV]
 have hSR:SR nb fn.ntmps g w ⟨Qkb args,M,nb+fn.ntmps⟩ a0 w g:=by
  refine ⟨⟨fun k b hk=>?_,hm.imm⟩,hinit,hsz,rfl,fun t=>?_,fun k cs hk=>⟨hMon k cs hk,fun hlt=>?_⟩,Nat.le_refl _,Fr.refl _ _ _⟩
  ·obtain ⟨h1,h2⟩:=hm.box k b hk
   grind
  ·rcases Nat.lt_or_ge t args.length with hlt|hge
   ·have h1:Qkb args t=args[t]:=by simp [Qkb,hlt]
    show (Qkb args t).on _;rw [h1];exact Qe3 hons (List.getElem?_eq_getElem hlt)
   ·have h1:Qkb args t = .und:=by simp [Qkb,hge]
    show (Qkb args t).on _;rw [h1];trivial
  ·refine ons_mono (fun j hj=>?_) cs (hMon k cs hk)
   grind [Nat.lt_or_ge,There]
 let Γ:Env:={ P,n0:=nb,nt:=fn.ntmps,g0:=g,w0:=w,T:=Q92 P code,tab:=htab };refine calls_of_wp hfn hbody (wp_mono (hrun Γ rfl rfl rfl rfl rfl code (by show (P.funcs[f]?).bind _=_;rw [hfn];exact hbody) hb a0 w g hSR) ?_);rintro e a' w' ⟨x,σ,g',rfl,⟨hx,r',hres,hwk,hM1,hfacts⟩,hs⟩;have hs:SR nb fn.ntmps g w σ a' w' g':=hs;have fin:∀ (fr:Owner→Owner) (v:Value),(∀ o i,fr (o.sub i)=(fr o).sub i)→fr .ext = .ext→(∀ o k,fr o = .box k↔o = .box k)→(∀ o,Prot o→fr o=o)→r'.on (There σ.M)→RV (g'.re fr) w' r' (.res []) v →
   ∃ v' g'',Ending.returned v = .returned v'∧MR g'' w' M' nb'∧RV g'' w' r (.res []) v'∧r.on (There M')∧MOn (There M') M'∧Fr nb g w g'' w':=by
  intro fr v h1 h2 h3 h4 h6 h5;obtain ⟨hron,hMon',hM2⟩:=hfacts h6 (fun k cs hk=>hs.onM k cs hk) (fun k hk=>by obtain ⟨b,hb⟩:=Option.isSome_iff_exists.1 hk;exact (hs.mem.box k b hb).1);have hmr:=hs.mem.re h1 h2 h3;refine ⟨v,g'.re fr,rfl,⟨fun k b hk=>?_,hmr.imm⟩,hwk _ _ _ _ h5,hron,hMon',?_⟩
  ·obtain ⟨_,k2⟩:=hmr.box k b (hM1 k b hk)
   simp_all [There]
  ·have hf:=hs.fr;exact ⟨hf.os,hf.tape,hf.output,hf.size,hf.imm,hf.box,fun b hb ho=>by
    obtain ⟨q1,q2,q3⟩:=hf.old b hb ho;refine ⟨?_,q2,q3⟩;show fr (g'.own b)=_;rw [q1];exact h4 _ ho⟩
 have hend:∃ v,(results fn a'.tmps).run P w' = .ok v w'∧∃ v' g'',Ending.returned v = .returned v'∧MR g'' w' M' nb'∧RV g'' w' r (.res []) v'∧r.on (There M')∧MOn (There M') M'∧Fr nb g w g'' w':=by
  have hresrun:∀ vs:List Value,(fn.results.toList.mapM (Q37 a'.tmps)).run P w' = .ok vs w'→(results fn a'.tmps).run P w' = .ok (if h:vs.length=1 then vs[0] else .tuple vs.toArray) w':=by
   intro vs hvs;show ((do let vs ← fn.results.mapM (Q37 a'.tmps);pure (if h:vs.size=1 then vs[0] else .tuple vs)):Sem Value).run P w'=_;rw [Array.mapM_eq_mapM_toList];simp [hvs]
  cases hrs:rss.mapM (Res.val σ) with
  | none =>
   exfalso;cases rss with
   | nil=>simp at hrs
   | cons s rss =>
    cases rss with
    | nil=>grind [Qn4]
    | cons s' rss=>grind [Qn4]
  | some rs =>
   obtain ⟨vs,k1,k2,k3,k4,k5⟩:=Qbbl hs _ _ _ hrss hrs;refine ⟨_,hresrun vs k1,?_⟩;by_cases hone:rss.length=1
   ·match rss,hone with
    | [s],_ =>
     simp only [Qn4] at hres;simp only [List.mapM_cons,List.mapM_nil,hres,Option.bind_eq_bind,Option.bind_some,Option.pure_def,Option.some.injEq] at hrs;subst hrs
     match vs,k2 with
     | [v],_ =>
      simp only [List.length_singleton,dite_true,List.getElem_cons_zero];have hk5:=k5 0 r' v s rfl rfl rfl;rcases hk5 with ⟨t,rfl,rfl,hrv⟩|⟨_,_,hrf⟩
      ·refine fin (Q0h [.t t] true) v (Qwe _ _) rfl (fun o k=>Q6k) (fun o ho=>Q36 ho) k4.1 ?_;have:=Qrg (Qwe [.t t] true) rfl _ _ _ hrv;simpa [Q0h,pos] using this
      ·exact fin id v (fun _ _=>rfl) rfl (fun _ _=>Iff.rfl) (fun _ _=>rfl) k4.1 (hrf _)
   ·have hvl:¬ vs.length=1:=by omega
    rw [dif_neg hvl];have hres' : r' = .tup rs:=by
     match rss,hone,hres,hrs with
     | [],_,hres,hrs=>grind [Qn4,Option.some.injEq]
     | s::s'::rss,_,hres,hrs=>grind [Qn4,Option.some.injEq]
    subst hres';refine fin (Q0h rss false) _ (Qwe _ _) rfl (fun o k=>Q6k) (fun o ho=>Q36 ho) k4 ?_;simp only [RV];refine ⟨vs,rfl,(Qci _ _ _ _).2 ⟨k2,fun j c u hc hu=>?_⟩⟩;have hjl:=(List.getElem?_eq_some_iff.1 hc).1;have hsj:=List.getElem?_eq_getElem (show j<rss.length by omega);simp only [Nat.zero_add,Owner.sub];rcases k5 j c u _ hc hu hsj with ⟨t,hst,hct,hrv⟩|⟨_,hfl,hrf⟩
    ·have:=Qrg (Qwe rss false) rfl _ _ _ hrv;have hp:=Q7s rss j t hnd (by rw [hsj,hst]);simpa [Q0h,hp] using this
    ·exact Ql6 hfl (Qrg (f:=Q0h rss false) (Qwe _ _) rfl _ _ _ (hrf .ext))
 have hd:a'.defers=[]:=hs.defers;obtain ⟨v,hv,hpost⟩:=hend;rcases hx with rfl|rfl
 ·exact ⟨hd,v,hv,hpost⟩
 ·exact ⟨hd,v,hv,hpost⟩
theorem Qbbm {f:FuncId} {cf:CFn} (hcf:Qr P f=some cf) {args:List V} {M:Mem} {nb nb' : Nat} {r:V} {M' : Mem} (hM0:∀ k,nb≤k→M k=none) (hargs:args.length=cf.np) (hnb:nb≤nb')
  {w:World} {g:G} {us:List Value} (htab:Tab P g w) (hm:MR g w M nb) (hMon:MOn (There M) M) (hus:RAs g w 0 args us) (hons:V.ons (There M) args)
  (hrun:∀ Γ:Env,Γ.P=P→Γ.n0=nb→Γ.nt=cf.nt→Γ.g0=g→Γ.w0=w→Tr Γ cf.body ⟨Qkb args,M,nb+cf.nt⟩ (Fin2 nb cf.res r M' nb')) :
  Qh2 P f=true∧Calls P f us.toArray w fun e w'=>∃ v g',e = .returned v∧MR g' w' M' nb'∧RV g' w' r (.res []) v∧r.on (There M')∧MOn (There M') M'∧Fr nb g w g' w' :=
 Q8p hcf hM0 hargs hnb htab hm hMon hus hons fun Γ h1 h2 h3 h4 h5 c _=>hrun Γ h1 h2 h3 h4 h5 c
theorem Qbbn {f:FuncId} {cf:CFn} (hcf:Qr P f=some cf) {args:List V} {M:Mem} {nb nb' : Nat} {r:V} {M' : Mem} (hM0:∀ k,nb≤k→M k=none) (hargs:args.length=cf.np) (hnb:nb≤nb')
  (hrun:∀ Γ:Env,Γ.P=P→Γ.n0=nb→Γ.nt=cf.nt→Tr Γ cf.body ⟨Qkb args,M,nb+cf.nt⟩ (Fin2 nb cf.res r M' nb')):ACalls P f args M nb r M' nb':=by
 refine ⟨?_,hnb,fun w g us ht hm hMon hus hons=>(Qbbm hcf hM0 hargs hnb ht hm hMon hus hons fun Γ h1 h2 h3 _ _=>hrun Γ h1 h2 h3).2⟩
 grind [Inhabited.default,Qr,Qh2,Q1z]
def away:Owner→Owner:=fun _=>.ext
theorem Qbdh (o:Owner) (i:Nat):away (o.sub i)=(away o).sub i:=rfl
def Qwf:V→Bool
 | .d _ | .own _ _ | .nils _ | .nilp | .und=>true
 | .agg cs=>go cs
 | .tup vs=>go vs
 | _=>false
where go:List V→Bool
 | []=>true
 | v::vs=>Qwf v&&go vs
section
variable {g g' : G} {w:World} (hi:∀ b o,g.imm b o↔g'.imm b o) (ho:∀ b,g.own b ≠ .ext→g.own b ≠ .free→g'.own b=g.own b)
include hi ho
mutual
theorem Q8q:∀ (v:V) (ℓ:Owner) (u:Value),Qwf v=true→(ℓ ≠ .ext∧ℓ ≠ .free)→RV g w v ℓ u→RV g' w v ℓ u
 | .und,_,_,_,_,_=>by simp [RV]
 | .d x,_,u,_,_,h=>by
  simp only [RV] at h ⊢;exact Qfl ⟨fun b o h=>(hi b o).1 h,fun _ _ _=>rfl⟩ x u h
 | .agg cs,ℓ,u,hr,hl,h=>by
  simp only [RV,Qwf] at h hr ⊢;obtain ⟨vs,rfl,h,h1⟩:=h;exact ⟨vs,rfl,RVs_resOK cs ℓ 0 vs hr hl h,h1⟩
 | .tup cs,ℓ,u,hr,hl,h=>by
  simp only [RV,Qwf] at h hr ⊢;obtain ⟨vs,rfl,h⟩:=h;exact ⟨vs,rfl,RVs_resOK cs ℓ 0 vs hr hl h⟩
 | .own sz l,ℓ,u,_,hl,h=>by
  simp only [RV] at h ⊢;rcases h with h|⟨b,cap,vals,e,h1,h2,h3,h4,h5,h6,h7,h8⟩
  ·exact .inl h
  ·exact .inr ⟨b,cap,vals,e,h1,(ho b (by rw [h2];exact hl.1) (by rw [h2];exact hl.2)).trans h2,h3,h4,h5,h6,fun o=>((hi b o).symm).trans (h7 o),RDL_mono ⟨fun b o h=>(hi b o).1 h,fun _ _ _=>rfl⟩ sz b l 0 h8⟩
 | .ownT sz l,ℓ,u,_,hl,h=>by
  simp only [RV] at h ⊢;rcases h with h|⟨b,o0,cap,vals,e,h1,h2,h3,h4,h5,h6,h7,h8⟩
  ·exact .inl h
  ·exact .inr ⟨b,o0,cap,vals,e,h1,(ho b (by rw [h2];exact hl.1) (by rw [h2];exact hl.2)).trans h2,h3,h4,h5,h6,fun o=>((hi b o).symm).trans (h7 o),RDL_mono ⟨fun b o h=>(hi b o).1 h,fun _ _ _=>rfl⟩ sz b l o0 h8⟩
 | .ownV ..,_,_,hr,_,_=>by simp [Qwf] at hr
 | .nilp,_,_,_,_,h=>by simpa [RV] using h
 | .nils _,_,_,_,_,h=>by simpa [RV] using h
 | .f _,_,_,hr,_,_=>by simp [Qwf] at hr
 | .ptr ..,_,_,hr,_,_=>by simp [Qwf] at hr
 | .cref _,_,_,hr,_,_=>by simp [Qwf] at hr
 | .sl ..,_,_,hr,_,_=>by simp [Qwf] at hr
 | .clo ..,_,_,hr,_,_=>by simp [Qwf] at hr
 | .mp _,_,_,hr,_,_=>by simp [Qwf] at hr
theorem RVs_resOK:∀ (cs:List V) (ℓ:Owner) (i:Nat) (us:List Value),Qwf.go cs=true→(ℓ ≠ .ext∧ℓ ≠ .free)→RVs g w cs ℓ i us→RVs g' w cs ℓ i us
 | [],_,_,_,_,_,h=>by simpa [RVs] using h
 | c::cs,ℓ,i,us,hr,hl,h=>by
  simp only [Qwf.go,Bool.and_eq_true] at hr;simp only [RVs] at h ⊢;obtain ⟨u,us',rfl,h1,h2⟩:=h;have hne:ℓ.sub i ≠ .ext:=by cases ℓ<;>simp_all [Owner.sub]
  exact ⟨u,us',rfl,Q8q c (ℓ.sub i) u hr.1 ⟨hne,by cases ℓ<;>simp_all [Owner.sub]⟩ h1,RVs_resOK cs ℓ (i+1) us' hr.2 hl h2⟩
end
end
mutual
def V.toF:V→V
 | .d (.lst sz l)=>.f (.lst sz l)
 | .agg cs=>.agg (V.toFs cs)
 | v=>v
def V.toFs:List V→List V
 | []=>[]
 | v::vs=>v.toF::V.toFs vs
end
theorem Qbf8 {imm imm' : Nat→Nat→Prop} {w:World} (h:∀ b o,imm b o→Qru w b o→imm' b o):∀ (x:D) (u:Value),RD imm w x u→RD imm' w x u:=by
 have:=@Qfl imm (fun b o=>imm b o∧Qru w b o);have key:(∀ (x:D) (u:Value),RD imm w x u→RD (fun b o=>imm b o∧Qru w b o) w x u):=by
  intro x;exact Q5s x
 intro x u hx;exact Qfl ⟨fun b o hb=>h b o hb.1 hb.2,fun _ _ _=>rfl⟩ x u (key x u hx)
theorem Qbe7 {f:FuncId} {cf:CFn} (hcf:Qr P f=some cf) {args:List V} {nb:Nat} {r:V} (hr0:r.lt 0=true) (hr1:Qwf r=true) (hfl:V.dems args=args)
  (hrun:∀ (g0:G) (w0:World) (us:List Value),(∀ b,g0.own b = .ext)→(∀ b o,g0.imm b o→b<w0.heap.size)→RFs g0 w0 args us →
   ∃ args',RFs g0 w0 args' us∧(∀ x∈args',Flat x)∧V.lt.go 0 args'=true∧args'.length=cf.np ∧
    ∀ Γ:Env,Γ.P=P→Γ.n0=nb→Γ.nt=cf.nt→Γ.g0=g0→Γ.w0=w0→TrF Γ f cf.body ⟨Qkb args',fun _=>none,nb+cf.nt⟩ (Fin2 nb cf.res r (fun _=>none) nb)) (M:Mem):ACalls P f args M nb r M nb:=by
 refine ACalls.mkT' ?_ (Nat.le_refl _) hfl fun w g us ht hm hMon hus hfl hons=>?_
 ·grind [Qr,Qh2,Q1z]
 have hp:∀ b,(g.re away).own b = .ext:=fun b=>rfl;have himm:∀ b o,(g.re away).imm b o→b<w.heap.size:=fun b o h=>(hm.imm b o h).1;obtain ⟨args',h1,h2,h3,h4,h5⟩:=hrun (g.re away) w us hp himm (Q1q Qbdh rfl hfl hus);have hm1:MR (g.re away) w (fun _=>none) nb:=⟨fun k b h=>(by cases h),fun b o h=>⟨himm b o h,fun k e=>by
  grind⟩⟩
 refine Calls.mono (Q8p hcf (fun _ _=>rfl) h4 (Nat.le_refl _) (ht.re rfl) hm1 (fun k cs h=>by cases h) (RAs.of_flat h1) (ons_mono (fun k hk=>absurd hk (Nat.not_lt_zero k)) _ (ons_lt args' h3)) h5).2 ?_;rintro e w' ⟨v,g',rfl,hmr,hrv,_,_,hf⟩;have hold:∀ b,b<w.heap.size→g'.own b=away (g.own b)∧w'.heap[b]? = w.heap[b]? ∧ ∀ o,g'.imm b o↔g.imm b o:=fun b hb=>hf.old b hb (by rw [hp b];trivial);let g2:G:=⟨g.box,g'.imm,fun b=>if b<w.heap.size then g.own b else g'.own b⟩;have hown:∀ b,b<w.heap.size→g2.own b=g.own b:=fun b hb=>by simp [g2,hb]
 have hown' : ∀ b,¬ b<w.heap.size→g2.own b=g'.own b:=fun b hb=>by simp [g2,hb]
 have hk2:Kept g w g2 w' (There M) (fun _=>True):=by
  refine ⟨⟨fun b o h=>hf.imm.mono b o h,fun b o h=>hf.imm.look b o h⟩,fun k _=>rfl,fun b _ hlt=>⟨hown b hlt,(hold b hlt).2.1,(hold b hlt).2.2⟩⟩
 refine ⟨v,g2,rfl,⟨fun k b hk=>?_,fun b o hb=>?_⟩,?_,Qdp (fun k hk=>absurd hk (Nat.not_lt_zero k)) _ (Qbcx r hr0),hMon,?_⟩
 ·obtain ⟨k1,k2,k3⟩:=hm.box k b hk;cases b with
  | mp es c =>
   obtain ⟨ents,hh,hr⟩:=k3;have hlt:g.box k<w.heap.size:=(Array.getElem?_eq_some_iff.1 hh).1;exact ⟨k1,(hown _ hlt).trans k2,ents,(hold _ hlt).2.1.trans hh,Qi8 (g:=g) (g':=g2) hk2 (fun _=>trivial) hr⟩
  | cells cs =>
   obtain ⟨vals,e,hh,hr,ho⟩:=k3;have hlt:g.box k<w.heap.size:=(Array.getElem?_eq_some_iff.1 hh).1;refine ⟨k1,(hown _ hlt).trans k2,vals,e,(hold _ hlt).2.1.trans hh,RVs_mono hk2 (fun _ _ _=>trivial) trivial _ _ _ _ trivial (hMon k cs hk) hr,ho⟩
 ·obtain ⟨k1,k2⟩:=hmr.imm b o hb;refine ⟨k1,fun k=>?_⟩;by_cases hlt:b<w.heap.size
  ·rw [hown b hlt];exact (hm.imm b o (((hold b hlt).2.2 o).1 hb)).2 k
  grind
 ·refine Q8q (g:=g') (g':=g2) (fun b o=>Iff.rfl) (fun b hb _=>?_) r _ v hr1 (by simp) hrv;by_cases hlt:b<w.heap.size
  ·exact absurd (hold b hlt).1 hb
  ·exact hown' b hlt
 ·exact ⟨hf.os,hf.tape,hf.output,hf.size,⟨fun b o h=>hf.imm.mono b o h,fun b o h=>hf.imm.look b o h⟩,fun _ _=>rfl,fun b hlt _=>⟨hown b hlt,(hold b hlt).2.1,(hold b hlt).2.2⟩⟩
theorem Qbd8 {f:FuncId} {cf:CFn} (hcf:Qr P f=some cf) {args:List V} {nb:Nat} {r:V} (hr0:r.lt 0=true) (hr1:Qwf r=true) (hfl:V.dems args=args)
  (hrun:∀ (g0:G) (w0:World) (us:List Value),(∀ b,g0.own b = .ext)→(∀ b o,g0.imm b o→b<w0.heap.size)→RFs g0 w0 args us →
   ∃ args',RFs g0 w0 args' us∧(∀ x∈args',Flat x)∧V.lt.go 0 args'=true∧args'.length=cf.np ∧
    ∀ Γ:Env,Γ.P=P→Γ.n0=nb→Γ.nt=cf.nt→Γ.g0=g0→Γ.w0=w0→Tr Γ cf.body ⟨Qkb args',fun _=>none,nb+cf.nt⟩ (Fin2 nb cf.res r (fun _=>none) nb)) (M:Mem):ACalls P f args M nb r M nb :=
 Qbe7 hcf hr0 hr1 hfl (fun g0 w0 us h1 h2 h3=>let ⟨args',k1,k2,k3,k4,k5⟩:=hrun g0 w0 us h1 h2 h3;⟨args',k1,k2,k3,k4,fun Γ a1 a2 a3 a4 a5 c _=>k5 Γ a1 a2 a3 a4 a5 c⟩) M
theorem Qbf9 {f:FuncId} {cf:CFn} (hcf:Qr P f=some cf) {args:List V} {M:Mem} {nb nb' : Nat} {r:V} {M' : Mem} (hM0:∀ k,nb≤k→M k=none) (hargs:args.length=cf.np) (hnb:nb≤nb')
  (hrun:∀ Γ:Env,Γ.P=P→Γ.n0=nb→Γ.nt=cf.nt→Tr Γ cf.body ⟨Qkb args,M,nb+cf.nt⟩ (Fin cf.res r M' nb')):ACalls P f args M nb r M' nb' :=
 Qbbn hcf hM0 hargs hnb fun Γ h1 h2 h3 c hc a w g hs=>wp_mono (hrun Γ h1 h2 h3 c hc a w g hs) fun _ _ _ ⟨x,σ',g',he,⟨k1,r',k2,k3,k4,k5,k6,k7⟩,hs'⟩=>⟨x,σ',g',he,⟨k1,r',k2,k3,k4,fun _ _ _=>⟨k5,k6,k7⟩⟩,hs'⟩
end
end Go.Abs
end
section
namespace Go.Abs
open Go
def WeakSt (Γ:Env) (σ σ' : St):Prop:=∀ a w g,SR Γ.n0 Γ.nt Γ.g0 Γ.w0 σ a w g→∃ g',SR Γ.n0 Γ.nt Γ.g0 Γ.w0 σ' a w g'
theorem WeakSt.refl {Γ:Env} (σ:St):WeakSt Γ σ σ:=fun _ _ g h=>⟨g,h⟩
theorem WeakSt.trans {Γ:Env} {σ σ' σ'' : St} (h:WeakSt Γ σ σ') (k:WeakSt Γ σ' σ''):WeakSt Γ σ σ'':=fun a w g hs=>let ⟨g',h'⟩:=h a w g hs;k a w g' h'
variable {Γ:Env} {σ:St} {Q:Ex→St→Prop}
theorem Tr.weak {cc:CC} {σ' : St} (h:WeakSt Γ σ σ') (k:Tr Γ cc σ' Q):Tr Γ cc σ Q:=fun c hc a w g hs=>let ⟨g',h'⟩:=h a w g hs;k c hc a w g' h'
theorem Tr.mono {cc:CC} {Q' : Ex→St→Prop} (h:Tr Γ cc σ Q) (k:∀ e σ',Q e σ'→Q' e σ'):Tr Γ cc σ Q':=fun c hc a w g hs =>
 wp_mono (h c hc a w g hs) fun _ _ _ ⟨x,σ',g',he,hq,hs'⟩=>⟨x,σ',g',he,k _ _ hq,hs'⟩
theorem Q47 {P:Program} {T:Tk} {nt:Nat} {ops:Array Oper} {draw:Bool} {cc:CC} (h:Qlp P T nt ops draw=some cc):∃ cs pc ps,cc = .region cs pc ps:=by
 unfold Qlp at h
 grind
theorem Qqf {P:Program} {T:Tk} {nt:Nat} {ops:Array Oper} {draw:Bool} {cc:CC} (h:Q93 (Qlp P T nt ops draw)=some cc):(∃ cs pc ps,cc = .region cs pc ps)∨cc = .dead:=by
 cases hr:Qlp P T nt ops draw with
 | none=>rw [hr] at h;cases h;exact .inr rfl
 | some c=>rw [hr] at h;cases h;exact .inl (Q47 hr)
theorem Q0i {o:Option CC} {cs:List COp} {pc:Nat} {ps:List Pair} (h:Q93 o=some (.region cs pc ps)):o=some (.region cs pc ps):=by
 cases o with
 | none=>cases h
 | some c=>exact h
theorem Tr.skip (h:Q .norm σ):Tr Γ .skip σ Q:=by
 intro c hc a w g hs;cases c<;>simp only [Qt3] at hc<;>try (cases hc;done)
 ·exact wp_skip ⟨.norm,σ,g,rfl,h,hs⟩
 ·grind [Qqf]
 ·split at hc<;>cases hc
 ·split at hc<;>cases hc
 ·simp at hc
 ·simp at hc
theorem Tr.exit {id:Nat} (h:Q (.exit id) σ):Tr Γ (.exit id) σ Q:=by
 intro c hc a w g hs;cases c<;>simp only [Qt3] at hc<;>try (cases hc;done)
 ·grind [Qqf]
 ·split at hc<;>cases hc
 ·split at hc<;>cases hc
 ·simp at hc
 ·simp at hc
 ·cases hc;exact wp_exit ⟨.exit id,σ,g,rfl,h,hs⟩
theorem Tr.ret (h:Q .ret σ):Tr Γ .ret σ Q:=by
 intro c hc a w g hs;cases c<;>simp only [Qt3] at hc<;>try (cases hc;done)
 ·grind [Qqf]
 ·split at hc<;>cases hc
 ·split at hc<;>cases hc
 ·simp at hc
 ·simp at hc
 ·exact wp_ret ⟨.ret,σ,g,rfl,h,hs⟩
def Qbbo (Γ:Env) (b:CC) (Q:Ex→St→Prop):Ex→St→Prop
 | .norm,σ'=>Tr Γ b σ' Q
 | .exit i,σ'=>Q (.exit i) σ'
 | .ret,σ'=>Q .ret σ'
theorem Tr.seq {x y:CC} (h:Tr Γ x σ (Qbbo Γ y Q)):Tr Γ (.seq x y) σ Q:=by
 intro c hc a w g hs;cases c<;>simp only [Qt3] at hc<;>try (cases hc;done)
 ·grind [Qqf]
 ·split at hc<;>cases hc;rename_i hx hy;refine wp_seq (wp_mono (h _ hx a w g hs) ?_);rintro e a' w' ⟨e',σ',g',rfl,hq,hs'⟩;cases e' with
  | norm=>exact hq _ hy a' w' g' hs'
  | exit id=>exact ⟨.exit id,σ',g',rfl,hq,hs'⟩
  | ret=>exact ⟨.ret,σ',g',rfl,hq,hs'⟩
 ·split at hc<;>cases hc
 ·simp at hc
 ·simp at hc
theorem Tr.cond {q:Arg} {x y:CC} {b:Bool} (hb:q.val σ.s = .d (.bool b)) (hx:b=true→Tr Γ x σ Q) (hy:b=false→Tr Γ y σ Q):Tr Γ (.cond q x y) σ Q:=by
 intro c hc a w g hs;cases c<;>simp only [Qt3] at hc<;>try (cases hc;done)
 ·grind [Qqf]
 ·split at hc<;>cases hc
 ·split at hc<;>cases hc;rename_i ha hcx hcy;obtain ⟨h1,_⟩:=Qg2 Γ.P hs ha;rw [hb] at h1;refine wp_cond (Q05 (by simpa [V.dem] using h1)) ?_;cases b with
  | true=>exact hx rfl _ hcx a w g hs
  | false=>exact hy rfl _ hcy a w g hs
 ·simp at hc
 ·simp at hc
def inB (id:Nat) (Q:Ex→St→Prop):Ex→St→Prop
 | .exit i,σ'=>bif Nat.beq i id then Q .norm σ' else Q (.exit i) σ'
 | .norm,σ'=>Q .norm σ'
 | .ret,σ'=>Q .ret σ'
theorem Tr.block {id:Nat} {x:CC} (h:Tr Γ x σ (inB id Q)):Tr Γ (.block id x) σ Q:=by
 intro c hc a w g hs;cases c<;>simp only [Qt3] at hc<;>try (cases hc;done)
 ·grind [Qqf]
 ·split at hc<;>cases hc
 ·split at hc<;>cases hc
 ·rename_i bid bc;simp only [Option.map_eq_some_iff,CC.block.injEq] at hc;obtain ⟨cx,hx,rfl,rfl⟩:=hc;refine wp_block (wp_mono (h _ hx a w g hs) ?_);rintro e a' w' ⟨e',σ',g',rfl,hq,hs'⟩;cases e' with
  | norm=>exact ⟨.norm,σ',g',rfl,hq,hs'⟩
  | exit id' =>
   simp only [Ex.to,Exit.inBlock];simp only [inB] at hq;split
   ·rename_i he;subst he;rw [show Nat.beq id' id'=true from by simp] at hq;exact ⟨.norm,σ',g',rfl,hq,hs'⟩
   ·rename_i he;have:Nat.beq id' bid=false:=by
     grind [Nat.beq,absurd,Nat.eq_of_beq_eq_true]
    rw [this] at hq;exact ⟨.exit id',σ',g',rfl,hq,hs'⟩
  | ret=>exact ⟨.ret,σ',g',rfl,hq,hs'⟩
 ·simp at hc
def Qc0 {X R:Type} (F:(X→Option R)→X→Option R):Nat→X→Option R
 | 0,_=>none
 | n+1,x=>F (Qc0 F n) x
def Qbe8 {X R:Type} (Γ:Env) (sites:List Nat) (mk:X→St) (rec' : X→Option R) (r:R) (Q:Ex→St→Prop):Ex→St→Prop
 | .norm,σ'=>∃ x',rec' x'=some r∧WeakSt Γ (Ql2 Γ.n0 sites σ') (mk x')
 | .exit i,σ'=>Q (.exit i) σ'
 | .ret,σ'=>Q .ret σ'
theorem Tr.loop {X R:Type} {F:(X→Option R)→X→Option R} {mk:X→St} {n:Nat} {x0:X} {r:R} {sites:List Nat} {x:CC} (h:Qc0 F n x0=some r) (h0:WeakSt Γ (Ql2 Γ.n0 sites σ) (mk x0))
  (body:∀ (rec' : X→Option R) y,F rec' y=some r→Tr Γ x (mk y) (Qbe8 Γ sites mk rec' r Q)):Tr Γ (.loop sites x) σ Q:=by
 intro c hc a w g hs;cases c<;>simp only [Qt3] at hc<;>try (cases hc;done)
 ·grind [Qqf]
 ·split at hc<;>cases hc
 ·split at hc<;>cases hc
 ·simp at hc
 rename_i cb;simp only [Option.map_eq_some_iff,CC.loop.injEq] at hc;obtain ⟨cx,hx,rfl,rfl⟩:=hc;let S:Nat→Act→World→Prop:=fun n a w=>∃ y g,Qc0 F n y=some r∧SR Γ.n0 Γ.nt Γ.g0 Γ.w0 (mk y) a w g;let μ:Act→World→Nat:=fun a w=>Qbbj fun n=>S n a w;obtain ⟨g',h'⟩:=h0 a w g (Q1u hs _);refine wp_loop (fun a w=>∃ n,S n a w) μ ⟨n,x0,g',h,h'⟩ ?_;intro a w hI;obtain ⟨y,g,hn,hy⟩:=Q9q hI;change Qc0 F (μ a w) y=some r at hn;generalize μ a w=m at hn;cases m with
 | zero=>cases hn
 | succ m =>
  refine wp_mono (body (Qc0 F m) y hn cb hx a w g hy) ?_;rintro e a' w' ⟨e',σ',g',rfl,hq,hs'⟩;cases e' with
  | norm =>
   obtain ⟨x',hr,hw⟩:=hq;obtain ⟨g2,h2⟩:=hw a' w' g' (Q1u hs' _);have hI' : ∃ n,S n a' w':=⟨m,x',g2,hr,h2⟩;exact ⟨hI',Nat.lt_succ_of_le (Qbdg (p:=fun n=>S n a' w') ⟨x',g2,hr,h2⟩)⟩
  | exit id=>exact ⟨.exit id,σ',g',rfl,hq,hs'⟩
  | ret=>exact ⟨.ret,σ',g',rfl,hq,hs'⟩
def Qbga {X R:Type} (Γ:Env) (mk:X→St) (J:X→Option R) (r:R) (Q:Ex→St→Prop):Ex→St→Prop
 | .norm,σ'=>∃ x',J x'=some r∧WeakSt Γ σ' (mk x')
 | .exit i,σ'=>Q (.exit i) σ'
 | .ret,σ'=>Q .ret σ'
theorem Tr.cut {X R:Type} {x y:CC} (mk:X→St) (J:X→Option R) (r:R) (hy:∀ z,J z=some r→Tr Γ y (mk z) Q) (hx:Tr Γ x σ (Qbga Γ mk J r Q)):Tr Γ (.seq x y) σ Q:=by
 refine Tr.seq (hx.mono ?_);intro e σ' hq;cases e with
 | norm=>obtain ⟨z,hj,hw⟩:=hq;exact (hy z hj).weak hw
 | exit id=>exact hq
 | ret=>exact hq
theorem Q38 (Γ:Env):Qba0 Γ.P Γ.g0 Γ.w0 (ACalls Γ.P):=⟨Γ.tab,fun _ _ _ _ _ _ _ h=>h⟩
def Q0j (Γ:Env):List COp→St→(St→Prop)→Prop
 | [],σ,Q=>∃ σ',WeakSt Γ σ σ'∧Q σ'
 | o::os,σ,Q=>∃ σ',WeakSt Γ σ σ'∧o.run (ACalls Γ.P) Γ.n0 0 σ' fun σ''=>Q0j Γ os σ'' Q
theorem Q6l {os:List COp} {σ σ' : St} {Q:St→Prop} (h:WeakSt Γ σ σ') (k:Q0j Γ os σ' Q):Q0j Γ os σ Q:=by
 cases os with
 | nil=>obtain ⟨σ2,h2,k⟩:=k;exact ⟨σ2,h.trans h2,k⟩
 | cons o os=>obtain ⟨σ2,h2,k⟩:=k;exact ⟨σ2,h.trans h2,k⟩
theorem Q48 {ops:Array Oper} {cs:List COp} (hcs:ops.toList.mapM (Qiz Γ.P Γ.T Γ.nt ops)=some cs) {Q:St→Prop} {QQ:Exit→Act→World→Prop}
  (hQ:∀ σ' a' w' g',Q σ'→SR Γ.n0 Γ.nt Γ.g0 Γ.w0 σ' a' w' g'→QQ .normal a' w'):∀ (m j:Nat) (σ:St) (a:Act) (w:World) (g:G),j+m=ops.size→SR Γ.n0 Γ.nt Γ.g0 Γ.w0 σ a w g →
  Q0j Γ (cs.drop j) σ Q→wpOps Γ.P ops QQ (List.range' j m) a w:=by
 obtain ⟨hlen,hget⟩:=Qim hcs;intro m
 induction m with
 | zero =>
  intro j σ a w g hj h hr;have:cs.drop j=[]:=List.drop_eq_nil_of_le (by rw [hlen];simp;omega);rw [this] at hr;obtain ⟨σ',hw,hq⟩:=hr;obtain ⟨g2,h2⟩:=hw a w g h;exact hQ _ _ _ g2 hq h2
 | succ m ih =>
  intro j σ a w g hj h hr;have hjl:j<cs.length:=by rw [hlen];simp;omega
  have hjo:j<ops.size:=by omega
  rw [List.drop_eq_getElem_cons hjl] at hr;obtain ⟨σ1,hw1,hr⟩:=hr;obtain ⟨g1,h⟩:=hw1 a w g h;have hc:Qiz Γ.P Γ.T Γ.nt ops ops[j]=some cs[j]:=hget j ops[j] cs[j] (by simp [hjo]) (List.getElem?_eq_getElem hjl);have:=Q42 (QQ:=QQ) (Q38 Γ) hc h hr (KK:=wpOps Γ.P ops QQ (List.range' (j+1) m)) fun σ' a' w' g' hq hs=>ih (j+1) σ' a' w' g' (by omega) hs hq
  grind [List.range'_succ,Go.wpOps,Array.getElem?_eq_getElem]
theorem Tr.region {cs:List COp} (h:Q0j Γ cs σ (Q .norm)):Tr Γ (.region cs 9 []) σ Q:=by
 intro c hc a w g hs;cases c<;>simp only [Qt3] at hc<;>try (cases hc;done)
 case region id ops draw =>
  have hc:=Q0i hc;unfold Qlp at hc;split at hc<;>try (cases hc;done)
  rename_i cs' hcs;cases draw with
  | true =>
   grind
  | false =>
   simp only [Bool.false_eq_true,if_false,Option.some.injEq,CC.region.injEq,true_and,and_true] at hc;subst hc;refine wp_region ?_;rw [List.range_eq_range'];exact Q48 (Γ:=Γ) hcs (Q:=Q .norm) (fun σ' a' w' g' hq hs'=>⟨.norm,σ',g',rfl,hq,hs'⟩) ops.size 0 σ a w g (by omega) hs (by simpa using h)
 ·split at hc<;>cases hc
 ·split at hc<;>cases hc
 ·simp at hc
 ·simp at hc
def Qpz (ps:List Pair) (σ:St):Bool:=ps.all fun p=>Qkv (σ.s p.a) p.n (σ.s p.b) p.m
theorem Tr.regionD {cs:List COp} {pc:Nat} {ps:List Pair} (hpc:pc≠9) (h:Q5r (ACalls Γ.P) Γ.n0 pc cs σ fun σ'=>Qpz ps σ'=true∧Q .norm σ'):Tr Γ (.region cs pc ps) σ Q:=by
 intro c hc a w g hs;cases c<;>simp only [Qt3] at hc<;>try (cases hc;done)
 case region id ops draw =>
  have hc:=Q0i hc;unfold Qlp at hc;split at hc<;>try (cases hc;done)
  rename_i cs' hcs;cases draw with
  | false=>grind
  | true =>
   simp only [if_true] at hc;split at hc<;>try (cases hc;done)
   rename_i hcond;simp only [Bool.or_eq_true,Bool.not_eq_true',not_or,Bool.not_eq_false,Bool.not_eq_true] at hcond;obtain ⟨⟨hup,hm⟩,hn⟩:=hcond;have hnil:∀ c∈cs',c.kind.isNil=false:=by
    grind
   have fin:Qt2 pc (ancs ops.toList) cs'=some ps→cs'=cs→(Code.region id ops true).wp Γ.P (lift Γ.n0 Γ.nt Γ.g0 Γ.w0 Q) a w:=by
    intro hps he;subst he;exact Q9p (Q38 Γ) hcs hup hm hnil hps (Q:=fun σ'=>Q .norm σ') (fun σ' a' w' g' hq hs=>⟨.norm,σ',g',rfl,hq,hs⟩) hs h
   grind
 ·split at hc<;>cases hc
 ·split at hc<;>cases hc
 ·simp at hc
 ·simp at hc
structure WkV (v v' : V):Prop where
 rd:Wk v v'
 on:∀ p,v.on p→v'.on p
theorem WkV.refl (v:V):WkV v v:=⟨fun _ _ _ _ h=>h,fun _ h=>h⟩
theorem WkV.same {v v' : V} (h:v=v'):WkV v v':=h ▸ .refl v
theorem sm {v v' : V} (h:v=v'):WkV v v':=h ▸ .refl v
theorem WkV.und (v:V):WkV v .und:=⟨fun _ _ _ _ _=>by simp [RV],fun _ _=>trivial⟩
theorem WkV.dem (v:V):WkV v v.dem:=⟨fun _ _ ℓ _ h=>Qha v ℓ ℓ _ h,fun _ h=>(Qdn v).2 h⟩
theorem WkV.dem' {v v' : V} (h:v.dem=v'):WkV v v':=h ▸ .dem v
theorem WkV.ownT (sz:Nat) (l:List (List D)):WkV (.own sz l) (.ownT sz l):=⟨fun _ _ _ _ h=>Q7e h,fun _ _=>trivial⟩
inductive WkVs:List V→List V→Prop where
 | nil:WkVs [] []
 | cons {v v' : V} {vs vs' : List V} (h:WkV v v') (t:WkVs vs vs'):WkVs (v::vs) (v'::vs')
theorem WkVs.rd {vs vs' : List V} (h:WkVs vs vs'):∀ g w ℓ i us,RVs g w vs ℓ i us→RVs g w vs' ℓ i us:=by
 induction h with
 | nil=>grind
 | cons h t ih =>
  intro g w ℓ i us hv;simp only [RVs] at hv ⊢;obtain ⟨u,us',rfl,h1,h2⟩:=hv;exact ⟨u,us',rfl,h.rd _ _ _ _ h1,ih _ _ _ _ _ h2⟩
theorem WkVs.on {vs vs' : List V} (h:WkVs vs vs'):∀ p,V.ons p vs→V.ons p vs':=by
 induction h with
 | nil=>exact fun _ h=>h
 | cons h t ih=>exact fun p hv=>⟨h.on p hv.1,ih p hv.2⟩
theorem WkVs.refl:∀ vs:List V,WkVs vs vs
 | []=>.nil
 | v::vs=>.cons (.refl v) (WkVs.refl vs)
theorem WkV.tup {vs vs' : List V} (h:WkVs vs vs'):WkV (.tup vs) (.tup vs'):=by
 refine ⟨fun g w ℓ u hv=>?_,fun p hv=>h.on p hv⟩;simp only [RV] at hv ⊢;obtain ⟨us,rfl,hv⟩:=hv;exact ⟨us,rfl,h.rd _ _ _ _ _ hv⟩
theorem WkV.agg {vs vs' : List V} (h:WkVs vs vs'):WkV (.agg vs) (.agg vs'):=by
 refine ⟨fun g w ℓ u hv=>?_,fun p hv=>h.on p hv⟩;simp only [RV] at hv ⊢;obtain ⟨us,rfl,hv,h1⟩:=hv;exact ⟨us,rfl,h.rd _ _ _ _ _ hv,h1⟩
def look:List (Nat×V)→Sl
 | [],_=>.und
 | (t,v)::E,i=>bif Nat.beq i t then v else look E i
def WkL (s:Sl):List (Nat×V)→Prop
 | []=>True
 | (t,v)::E=>WkV (s t) v∧WkL s E
theorem Qcj (E:List (Nat×V)) (t:Nat) (v:V):(look E).put t v=look ((t,v)::E):=by
 funext i
 simp_all [Sl.put,look,Nat.beq,Nat.eq_of_beq_eq_true]
def Qbu:List (Nat×Bx)→Nat→Option Bx
 | [],_=>none
 | (t,b)::L,i=>bif Nat.beq i t then some b else Qbu L i
def Ql (n0:Nat) (L:List (Nat×Bx)) (M0:Mem):Mem:=fun k=>if k<n0 then M0 k else Qbu L (k-n0)
theorem Qbt {n0:Nat} {L:List (Nat×Bx)} {M0:Mem} {t:Nat}:Ql n0 L M0 (n0+t)=Qbu L t:=by
 simp_all [Ql,Nat.add_sub_cancel_left,if_neg]
theorem Q8 {n0:Nat} {L:List (Nat×Bx)} {M0:Mem} {k:Nat} (h:k<n0):Ql n0 L M0 k=M0 k:=by
 simp [Ql,h]
theorem Qn7 {n0:Nat} {M0:Mem} (h:∀ k,n0≤k→M0 k=none):Ql n0 [] M0=M0:=by
 funext k;simp only [Ql];split
 ·rfl
 ·exact (h k (by omega)).symm
theorem Qeu {n0:Nat} {L:List (Nat×Bx)} {M0:Mem} {t:Nat} {b:Bx}:(Ql n0 L M0).put (n0+t) b=Ql n0 ((t,b)::L) M0:=by
 funext k;simp only [Mem.put,Ql,Qbu];by_cases h:k=n0+t
 ·subst h;rw [if_pos rfl,if_neg (by omega)];simp
 ·rw [if_neg h];by_cases hk:k<n0
  ·simp [hk]
  ·simp only [hk,if_false]
   grind [Nat.beq,Nat.eq_of_beq_eq_true]
theorem Qfv {n0:Nat} {L:List (Nat×Bx)} {M0:Mem} {k:Nat} {b:Bx} (h:k<n0):(Ql n0 L M0).put k b=Ql n0 L (M0.put k b):=by
 grind [Mem.put,Ql]
def KL (n0:Nat) (sites:List Nat) (s:Sl):List (Nat×V)→Prop
 | []=>True
 | (t,v)::E=>WkV (Qdl (Qjq n0 sites) (s t)) v∧KL n0 sites s E
theorem KL.at {n0:Nat} {sites:List Nat} {s:Sl}:∀ {E:List (Nat×V)},KL n0 sites s E→∀ t,WkV (Qdl (Qjq n0 sites) (s t)) (look E t)
 | [],_,t=>.und _
 | (u,v)::E,h,t=>by
  simp only [look];cases hb:Nat.beq t u with
  | true=>have:=Nat.eq_of_beq_eq_true hb;subst this;exact h.1
  | false=>exact KL.at h.2 t
def KB (n0:Nat) (sites:List Nat) (L:List (Nat×Bx)):List (Nat×Bx)→Prop
 | []=>True
 | (t,.cells cs')::L'=>(∃ cs,Qbu L t=some (.cells cs)∧sites.all (fun u=>!Nat.beq t u)=true∧WkVs (cs.map (Qdl (Qjq n0 sites))) cs')∧KB n0 sites L L'
 | (t,.mp es c)::L'=>(Qbu L t=some (.mp es c)∧sites.all (fun u=>!Nat.beq t u)=true)∧KB n0 sites L L'
abbrev bxs (L:List (Nat×Bx)):List (Nat×Bx):=L
theorem KB.at {n0:Nat} {sites:List Nat} {L:List (Nat×Bx)}:∀ {L' : List (Nat×Bx)},KB n0 sites L L'→∀ t b,Qbu L' t=some b→sites.all (fun u=>!Nat.beq t u)=true ∧
  ((∃ cs' cs,b = .cells cs'∧Qbu L t=some (.cells cs)∧WkVs (cs.map (Qdl (Qjq n0 sites))) cs')∨∃ es c,b = .mp es c∧Qbu L t=some (.mp es c))
 | [],_,t,b,hb=>by simp [Qbu] at hb
 | (u,.cells cs')::L',h,t,b,hb=>by
  simp only [Qbu] at hb;cases hbe:Nat.beq t u with
  | true =>
   have:=Nat.eq_of_beq_eq_true hbe;subst this;rw [hbe] at hb;simp only [cond_true,Option.some.injEq] at hb;obtain ⟨cs,h1,h2,h3⟩:=h.1
   grind
  | false =>
   rw [hbe] at hb;exact KB.at h.2 t b hb
 | (u,.mp es c)::L',h,t,b,hb=>by
  simp only [Qbu] at hb;cases hbe:Nat.beq t u with
  | true =>
   have:=Nat.eq_of_beq_eq_true hbe;subst this;rw [hbe] at hb;simp only [cond_true,Option.some.injEq] at hb;exact ⟨h.1.2,.inr ⟨es,c,hb.symm,h.1.1⟩⟩
  | false =>
   rw [hbe] at hb;exact KB.at h.2 t b hb
theorem Qs0:∀ {L:List (Nat×Bx)} {t:Nat} {b:Bx},Qbu L t=some b→∃ p∈L,p.1=t
 | [],_,_,h=>by simp [Qbu] at h
 | (u,c)::L,t,b,h=>by
  simp only [Qbu] at h;cases hbe:Nat.beq t u with
  | true=>exact ⟨(u,c),by simp,(Nat.eq_of_beq_eq_true hbe).symm⟩
  | false =>
   rw [hbe] at h;obtain ⟨p,hp,e⟩:=Qs0 h;exact ⟨p,by simp [hp],e⟩
theorem Qxo:∀ {L:List (Nat×Bx)} {p:Nat×Bx},p∈L→(Qbu L p.1).isSome=true
 | (u,c)::L,p,h=>by
  simp only [Qbu];cases hbe:Nat.beq p.1 u with
  | true=>rfl
  | false =>
   rcases List.mem_cons.1 h with rfl|h
   ·simp at hbe
   ·exact Qxo h
theorem Qqg {n0 t:Nat} {sites:List Nat}:Qjq n0 sites (n0+t)=sites.any fun u=>Nat.beq t u:=by
 unfold Qjq;congr 1;funext u;cases hb:Nat.beq t u with
 | true=>simp_all
 | false =>
  have:t≠u:=fun e=>by subst e;simp at hb
  simp [this]
theorem Qnn {n0 k:Nat} {sites:List Nat} (h:k<n0):Qjq n0 sites k=false:=by
 grind [Qjq,Qbbi]
theorem Q8r {sites:List Nat} {s1 s' : Sl} {E:List (Nat×V)} {L:List (Nat×Bx)} {L' : List (Nat×Bx)} {M0:Mem} {nb:Nat} (hE:∀ t,WkV (s1 t) (s' t)) (hL:KB Γ.n0 sites L L')
  (hk:(L.all fun p=>sites.any (Nat.beq p.1)||L'.any fun q=>Nat.beq p.1 q.1)=true) :
  WeakSt Γ ⟨s1,(Ql2 Γ.n0 sites ⟨look E,Ql Γ.n0 L M0,nb⟩).M,nb⟩ ⟨s',Ql Γ.n0 (bxs L') M0,nb⟩:=by
 intro a w g hs;have hbase:∀ k,k<Γ.n0→(Ql2 Γ.n0 sites ⟨look E,Ql Γ.n0 L M0,nb⟩).M k=M0 k:=by
  simp_all [Ql2,Qnn,Bool.false_eq_true,if_false,if_true,Q8]
 have hown:∀ t cs,sites.all (fun u=>!Nat.beq t u)=true→Qbu L t=some (.cells cs)→(Ql2 Γ.n0 sites ⟨look E,Ql Γ.n0 L M0,nb⟩).M (Γ.n0+t)=some (.cells (cs.map (Qdl (Qjq Γ.n0 sites)))):=by
  intro t cs h1 h2;have h3:Qjq Γ.n0 sites (Γ.n0+t)=false:=by
   simp_all [Qqg,List.any_eq_false,List.all_eq_true,Bool.not_eq_true']
  have h4:¬ Γ.n0+t<Γ.n0:=by omega
  have h5:Ql Γ.n0 L M0 (Γ.n0+t)=some (.cells cs):=by rw [Qbt];exact h2
  simp only [Ql2,h3,Bool.false_eq_true,if_false,h4,h5]
 have hownm:∀ t es c,sites.all (fun u=>!Nat.beq t u)=true→Qbu L t=some (.mp es c)→(Ql2 Γ.n0 sites ⟨look E,Ql Γ.n0 L M0,nb⟩).M (Γ.n0+t)=some (.mp es c):=by
  intro t es c h1 h2;have h3:Qjq Γ.n0 sites (Γ.n0+t)=false:=by
   simp_all [Qqg,List.any_eq_false,List.all_eq_true,Bool.not_eq_true']
  have h4:¬ Γ.n0+t<Γ.n0:=by omega
  have h5:Ql Γ.n0 L M0 (Γ.n0+t)=some (.mp es c):=by rw [Qbt];exact h2
  simp only [Ql2,h3,Bool.false_eq_true,if_false,h4,h5]
 have hsplit:∀ k,k<Γ.n0∨∃ t,k=Γ.n0+t:=fun k=>by
  rcases Nat.lt_or_ge k Γ.n0 with h|h
  ·exact .inl h
  ·exact .inr ⟨k-Γ.n0,by omega⟩
 have hthere:∀ k,There (Ql2 Γ.n0 sites ⟨look E,Ql Γ.n0 L M0,nb⟩).M k→There (Ql Γ.n0 (bxs L') M0) k:=by
  intro k hk';rcases hsplit k with h|⟨t,rfl⟩
  ·grind [There,Q8]
  ·simp only [There,Qbt];have h4:¬ Γ.n0+t<Γ.n0:=by omega
   have h6:Qjq Γ.n0 sites (Γ.n0+t)=false:=by
    grind [Qjq,There,Ql2]
   have h7:∃ b,Qbu L t=some b:=by
    cases hb:Qbu L t with
    | some b=>exact ⟨b,rfl⟩
    | none =>
     have h5:Ql Γ.n0 L M0 (Γ.n0+t)=none:=by rw [Qbt];exact hb
     simp only [There,Ql2,h6,Bool.false_eq_true,if_false,h4,h5] at hk';cases hk'
   obtain ⟨b,hb⟩:=h7;obtain ⟨p,hp,rfl⟩:=Qs0 hb;have:=List.all_eq_true.1 hk p hp;rw [Qqg] at h6;rw [Bool.or_eq_true] at this;rcases this with h8|h8
   ·rw [h6] at h8;cases h8
   ·obtain ⟨q,hq,he⟩:=List.any_eq_true.1 h8
    grind [Nat.eq_of_beq_eq_true,Qxo]
 refine ⟨g,⟨⟨fun k b hb=>?_,hs.mem.imm⟩,fun t=>(hE t).rd _ _ _ _ (hs.slots t),hs.size,hs.defers,fun t=>Qdp hthere _ ((hE t).on _ (hs.onS t)),fun k cs hb=>?_,hs.top,hs.fr⟩⟩
 ·rcases hsplit k with h|⟨t,rfl⟩
  ·have hb' : (Ql2 Γ.n0 sites ⟨look E,Ql Γ.n0 L M0,nb⟩).M k=some b:=by grind [Q8]
   exact hs.mem.box k b hb'
  ·have hb' : Qbu (bxs L') t=some b:=by rw [← hb];exact Qbt.symm
   obtain ⟨h2,⟨cs',cs,rfl,h1,h3⟩|⟨es,c,rfl,h1⟩⟩:=hL.at t b hb'
   ·obtain ⟨k1,k2,vals,e,k3,k4,k5⟩:=hs.mem.box _ _ (hown t cs h2 h1);exact ⟨k1,k2,vals,e,k3,h3.rd _ _ _ _ _ k4,k5⟩
   ·exact hs.mem.box _ _ (hownm t es c h2 h1)
 ·rcases hsplit k with h|⟨t,rfl⟩
  ·have hb' : (Ql2 Γ.n0 sites ⟨look E,Ql Γ.n0 L M0,nb⟩).M k=some (.cells cs):=by grind [Q8]
   obtain ⟨k1,k2⟩:=hs.onM k cs hb';exact ⟨ons_mono hthere _ k1,k2⟩
  ·have hb' : Qbu (bxs L') t=some (.cells cs):=by rw [← hb];exact Qbt.symm
   obtain ⟨h2,⟨cs',cs0,he,h1,h3⟩|⟨es,c,he,h1⟩⟩:=hL.at t _ hb'<;>cases he;obtain ⟨k1,k2⟩:=hs.onM _ _ (hown t cs0 h2 h1);exact ⟨ons_mono hthere _ (h3.on _ k1),fun hlt=>absurd hlt (by omega)⟩
theorem Q39 {sites:List Nat} {E E' : List (Nat×V)} {L:List (Nat×Bx)} {L' : List (Nat×Bx)} {M0:Mem} {nb:Nat} (hE:KL Γ.n0 sites (look E) E') (hL:KB Γ.n0 sites L L')
  (hk:(L.all fun p=>sites.any (Nat.beq p.1)||L'.any fun q=>Nat.beq p.1 q.1)=true) :
  WeakSt Γ (Ql2 Γ.n0 sites ⟨look E,Ql Γ.n0 L M0,nb⟩) ⟨look E',Ql Γ.n0 (bxs L') M0,nb⟩:=Q8r (E:=E) (s1:=(Ql2 Γ.n0 sites ⟨look E,Ql Γ.n0 L M0,nb⟩).s) hE.at hL hk
theorem Ql8 (sites:List Nat) {E E' : List (Nat×V)} {L:List (Nat×Bx)} {L' : List (Nat×Bx)} {M0:Mem} {nb:Nat} (hE:KL Γ.n0 sites (look E) E') (hL:KB Γ.n0 sites L L')
  (hk:(L.all fun p=>sites.any (Nat.beq p.1)||L'.any fun q=>Nat.beq p.1 q.1)=true) :
  WeakSt Γ ⟨look E,Ql Γ.n0 L M0,nb⟩ ⟨look E',Ql Γ.n0 (bxs L') M0,nb⟩ :=
 WeakSt.trans (fun a w g hs=>⟨g,Q1u hs sites⟩) (Q39 hE hL hk)
theorem kPtr {n0 t o:Nat} {sites:List Nat} (h:sites.any (fun u=>Nat.beq t u)=false):WkV (Qdl (Qjq n0 sites) (.ptr (n0+t) o)) (.ptr (n0+t) o):=by
 refine .same ?_;simp [Qdl,Qqg,h]
theorem Qys {n0 k o:Nat} {sites:List Nat} (h:k<n0):WkV (Qdl (Qjq n0 sites) (.ptr k o)) (.ptr k o):=by
 refine .same ?_;simp [Qdl,Qnn h]
theorem kSl {n0 t sz o n c:Nat} {sites:List Nat} (h:sites.any (fun u=>Nat.beq t u)=false):WkV (Qdl (Qjq n0 sites) (.sl sz (n0+t) o n c)) (.sl sz (n0+t) o n c):=by
 refine .same ?_;simp [Qdl,Qqg,h]
theorem kSlB {n0 k sz o n c:Nat} {sites:List Nat} (h:k<n0):WkV (Qdl (Qjq n0 sites) (.sl sz k o n c)) (.sl sz k o n c):=by
 refine .same ?_;simp [Qdl,Qnn h]
theorem WkVs.same {vs vs' : List V} (h:vs=vs'):WkVs vs vs':=h ▸ .refl vs
end Go.Abs
end
section
namespace Go.Abs
open Go
variable {Γ:Env} {pc d nb:Nat} {os:List COp} {E:List (Nat×V)} {M M' M0:Mem} {L:List (Nat×Bx)} {Q:St→Prop} {σ:St}
def RnP (Γ:Env) (pc:Nat) (os:List COp) (σ:St) (Q:St→Prop):Prop :=
 bif Nat.beq pc 9 then Q0j Γ os σ Q else Q5r (ACalls Γ.P) Γ.n0 pc os σ Q
structure Rn (Γ:Env) (pc:Nat) (os:List COp) (σ:St) (Q:St→Prop):Prop where
 run:RnP Γ pc os σ Q
theorem Tr.rgn {cs:List COp} {Q:Ex→St→Prop} (h:Rn Γ 9 cs σ (Q .norm)):Tr Γ (.region cs 9 []) σ Q:=Tr.region h.run
theorem Tr.rgnD {cs:List COp} {Q:Ex→St→Prop} {pc:Nat} {ps:List Pair} (hpc:pc≠9) (h:Rn Γ pc cs σ fun σ'=>Qpz ps σ'=true∧Q .norm σ'):Tr Γ (.region cs pc ps) σ Q:=by
 refine Tr.regionD hpc ?_;have h:=h.run;unfold RnP at h;have:Nat.beq pc 9=false:=by
  cases hb:Nat.beq pc 9 with
  | false=>rfl
  | true=>exact absurd (Nat.eq_of_beq_eq_true hb) hpc
 rw [this] at h;exact h
theorem Rn.weak {σ' : St} (h:WeakSt Γ σ σ') (k:Rn Γ 9 os σ' Q):Rn Γ 9 os σ Q:=⟨Q6l h k.run⟩
theorem Rn.nil (h:Q σ):Rn Γ pc [] σ Q:=by
 refine ⟨?_⟩;unfold RnP;cases Nat.beq pc 9 with
 | true=>exact ⟨σ,.refl _,h⟩
 | false=>exact h
theorem COp.run_mono {C:Ctx} {n0 pc:Nat} {o:COp} {σ:St} {Q Q' : St→Prop} (h:o.run C n0 pc σ Q) (k:∀ σ',Q σ'→Q' σ'):o.run C n0 pc σ Q':=by
 unfold COp.run at *
 cases hw:o.wanted σ.s with
 | none=>rw [hw] at h;exact h.elim
 | some b =>
  rw [hw] at h;cases b with
  | false=>exact k _ h
  | true =>
   simp only at h ⊢;cases hc:o.kind.isCall with
   | true =>
    rw [hc] at h;simp only [if_true] at h ⊢;cases hcal:o.callee σ.s with
    | none=>rw [hcal] at h;exact h.elim
    | some fa =>
     rw [hcal] at h;simp only at h ⊢
     match pc,h with
     | 0,⟨r,M,nb,h1,h2,h3,h4⟩=>exact ⟨r,M,nb,h1,h2,h3,k _ h4⟩
     | 1,⟨r,Δ,nb,h1,h4⟩=>exact ⟨r,Δ,nb,h1,k _ h4⟩
     | n+2,h =>
      have h:(if n<8 then _ else _):=h;show (if n<8 then _ else _);by_cases hn8:n<8
      ·rw [if_pos hn8] at h ⊢;obtain ⟨r,h1,h4⟩:=h;exact ⟨r,h1,k _ h4⟩
      ·rw [if_neg hn8] at h ⊢;obtain ⟨r,W,Δ,nb,h1,h2,h3,h5,h4⟩:=h;exact ⟨r,W,Δ,nb,h1,h2,h3,h5,k _ h4⟩
   | false =>
    rw [hc] at h;simp only [Bool.false_eq_true,if_false] at h ⊢;cases hn:o.kind.isNil with
    | true =>
     rw [hn] at h;simp only [if_true] at h ⊢;unfold COp.runN at h ⊢;split at h
     ·obtain ⟨hp,r,M,nb,h1,h2,h3,h4⟩:=h;exact ⟨hp,r,M,nb,h1,h2,h3,k _ h4⟩
     cases hl:Q1y (o.xs σ.s) with
     | none=>rw [hl] at h;exact h.elim
     | some n=>rw [hl] at h;exact fun b hb=>k _ (h b hb)
    | false =>
     rw [hn] at h;simp only [Bool.false_eq_true,if_false] at h ⊢;cases hs:o.step n0 σ with
     | none=>rw [hs] at h;exact h.elim
     | some σ'=>rw [hs] at h;exact k _ h
def pcOf (pc:Nat):Nat:=bif Nat.beq pc 9 then 0 else pc
def one (n:Nat):Bool:=Nat.beq n 1||Nat.ble 10 n
theorem Rn.cons {o:COp} (h:o.run (ACalls Γ.P) Γ.n0 (pcOf pc) σ fun σ'=>Rn Γ pc os σ' Q):Rn Γ pc (o::os) σ Q:=by
 have h:=COp.run_mono h (Q':=fun σ'=>RnP Γ pc os σ' Q) fun _ h=>h.run;refine ⟨?_⟩;unfold RnP pcOf at *
 cases hb:Nat.beq pc 9 with
 | true=>rw [hb] at h;exact ⟨σ,.refl _,h⟩
 | false=>rw [hb] at h;exact h
def Wn (E:List (Nat×V)):Option (Nat×Bool)→Prop
 | none=>True
 | some (g,w)=>look E g = .d (.bool w)
theorem gw {g:Nat} {b w:Bool} (h:look E g = .d (.bool b)) (hb:b=w):Wn E (some (g,w)):=hb ▸ h
theorem Wn.wanted {gd:Option (Nat×Bool)} (h:Wn E gd) (dst:Option Nat) (k:K) (as:List Arg) (tk:Bool):COp.wanted ⟨dst,k,as,tk,gd⟩ (look E)=some true:=by
 unfold COp.wanted;cases gd with
 | none=>rfl
 | some p =>
  obtain ⟨g,w⟩:=p;have h:look E g = .d (.bool w):=h;simp [h]
def Nw (E:List (Nat×V)) (g:Nat) (want:Bool):Prop:=look E g = .d (.bool (!want))∨look E g = .tup []
theorem nw {g:Nat} {b w:Bool} (h:look E g = .d (.bool b)) (hb:b = !w):Nw E g w:=.inl (hb ▸ h)
theorem nu {g:Nat} {w:Bool} (h:look E g = .tup []):Nw E g w:=.inr h
theorem Rn.gF {dst:Option Nat} {k:K} {as:List Arg} {tk:Bool} {g:Nat} {want:Bool} (hg:Nw E g want) (h:Rn Γ pc os ⟨Qbd (look E) dst (.tup []),M,nb⟩ Q):Rn Γ pc (⟨dst,k,as,tk,some (g,want)⟩::os) ⟨look E,M,nb⟩ Q:=by
 refine Rn.cons ?_;have hw:COp.wanted ⟨dst,k,as,tk,some (g,want)⟩ (look E)=some false:=by
  rcases hg with hg|hg<;>simp [COp.wanted,hg]
 unfold COp.run;rw [hw];exact h
theorem Rn.sk {t:Nat} {k:K} {as:List Arg} {tk:Bool} {g:Nat} {want:Bool} (hg:Nw E g want) (h:Rn Γ pc os ⟨look ((t,.tup [])::E),M,nb⟩ Q):Rn Γ pc (⟨some t,k,as,tk,some (g,want)⟩::os) ⟨look E,M,nb⟩ Q:=by
 refine Rn.gF hg ?_;rw [show Qbd (look E) (some t) (.tup [])=look ((t,.tup [])::E) from Qcj E t _];exact h
variable {gd:Option (Nat×Bool)}
theorem Rn.k {k:K} {as:List Arg} {v:V} (hw:Wn E gd) (hc:k.isCall=false) (hn:k.isNil=false) (hk:Qm Γ.n0 (Γ.n0+d) k (V.dems (as.map (·.val (look E)))) M=some (v,M'))
  (h:Rn Γ pc os ⟨look ((d,v)::E),M',nb⟩ Q):Rn Γ pc (⟨some d,k,as,false,gd⟩::os) ⟨look E,M,nb⟩ Q:=by
 refine Rn.cons ?_;unfold COp.run;rw [hw.wanted];simp only [hc,hn,Bool.false_eq_true,if_false,COp.step,COp.xs,Option.getD_some,hk,Qbd];rw [Qcj];exact h
theorem Rn.kT {k:K} {as:List Arg} {v:V} {E' : List (Nat×V)} (hw:Wn E gd) (hc:k.isCall=false) (hn:k.isNil=false) (hk:Qm Γ.n0 (Γ.n0+d) k (as.map (·.val (look E))) M=some (v,M'))
  (hp:∀ i,(Qba (look E) as (Qb4 k (as.map (·.val (look E))))).put d v i=look E' i)
  (h:Rn Γ pc os ⟨look E',M',nb⟩ Q):Rn Γ pc (⟨some d,k,as,true,gd⟩::os) ⟨look E,M,nb⟩ Q:=by
 refine Rn.cons ?_;unfold COp.run;rw [hw.wanted];simp only [hc,hn,Bool.false_eq_true,if_false,COp.step,COp.xs,Option.getD_some,hk,Qbd,if_true];have:(Qba (look E) as (Qb4 k (as.map (·.val (look E))))).put d v=look E':=funext hp;rw [this];exact h
theorem Rn.kS {n:Nat} {as:List Arg} {tk:Bool} {v:V} {E' : List (Nat×V)} (hw:Wn E gd) (hk:Qm Γ.n0 (Γ.n0+0) (.store n) (if tk then as.map (·.val (look E)) else V.dems (as.map (·.val (look E)))) M=some (v,M'))
  (hp:∀ i,(if tk then Qba (look E) as (Qb4 (.store n) (as.map (·.val (look E)))) else look E) i=look E' i)
  (h:Rn Γ pc os ⟨look E',M',nb⟩ Q):Rn Γ pc (⟨none,.store n,as,tk,gd⟩::os) ⟨look E,M,nb⟩ Q:=by
 refine Rn.cons ?_;unfold COp.run;rw [hw.wanted];have hk' : Qm Γ.n0 (Γ.n0+(none:Option Nat).getD 0) (.store n) (COp.xs ⟨none,.store n,as,tk,gd⟩ (look E)) M=some (v,M'):=hk;simp only [show (K.store n).isCall=false from rfl,show (K.store n).isNil=false from rfl,Bool.false_eq_true,if_false,COp.step,hk',Qbd];have hp' : (if tk=true then Qba (look E) as (Qb4 (.store n) (COp.xs ⟨none,.store n,as,tk,gd⟩ (look E))) else look E)=look E':=by
  funext i;rw [← hp i];cases tk<;>simp [COp.xs]
 rw [hp'];exact h
variable {a b c:Arg} {x y:D}
theorem Rn.mov {v:V} (hw:Wn E gd) (ha:(a.val (look E)).dem=v) (h:Rn Γ pc os ⟨look ((d,v)::E),M,nb⟩ Q):Rn Γ pc (⟨some d,.mov,[a],false,gd⟩::os) ⟨look E,M,nb⟩ Q:=by
 refine Rn.k hw rfl rfl ?_ h;simp [V.dems,Qm,ha]
theorem Rn.movD (hw:Wn E gd) (ha:a.val (look E) = .d x) (h:Rn Γ pc os ⟨look ((d,.d x)::E),M,nb⟩ Q):Rn Γ pc (⟨some d,.mov,[a],false,gd⟩::os) ⟨look E,M,nb⟩ Q :=
 Rn.mov hw (by rw [ha];rfl) h
theorem Rn.movTF {t:Nat} {v:V} (hw:Wn E gd) (ha:look E t=v) (hf:v.dem=v) (h:Rn Γ pc os ⟨look ((d,v)::E),M,nb⟩ Q):Rn Γ pc (⟨some d,.mov,[.t t],true,gd⟩::os) ⟨look E,M,nb⟩ Q:=by
 refine Rn.kT hw rfl rfl (v:=v) (by simp [Arg.val,ha,Qm]) (fun i=>?_) h;simp only [List.map_cons,List.map_nil,Arg.val,ha,Qb4,hf,Qba,Arg.putTo];rw [← Qcj];have:(look E).put t v=look E:=by
  funext i;simp only [Sl.put];split
  ·rename_i e;subst e;exact ha.symm
  ·rfl
 rw [this]
theorem Rn.movTC {v:V} (hw:Wn E gd) (h:Rn Γ pc os ⟨look ((d,v)::E),M,nb⟩ Q):Rn Γ pc (⟨some d,.mov,[.c v],true,gd⟩::os) ⟨look E,M,nb⟩ Q:=by
 refine Rn.kT hw rfl rfl (v:=v) (by simp [Arg.val,Qm]) (fun i=>?_) h;simp only [List.map_cons,List.map_nil,Arg.val,Qb4,Qba,Arg.putTo];rw [← Qcj]
theorem Rn.movTO {t sz:Nat} {l:List (List D)} (hw:Wn E gd) (ha:look E t = .own sz l) (h:Rn Γ pc os ⟨look ((d,.own sz l)::(t,.d (.lst sz l))::E),M,nb⟩ Q):Rn Γ pc (⟨some d,.mov,[.t t],true,gd⟩::os) ⟨look E,M,nb⟩ Q:=by
 refine Rn.kT hw rfl rfl (v:=.own sz l) (by simp [Arg.val,ha,Qm]) (fun i=>?_) h;simp only [List.map_cons,List.map_nil,Arg.val,ha,Qb4,V.dem,Qba,Arg.putTo];rw [← Qcj,← Qcj]
theorem Rn.bin {op:BinOp} {tb:Bool} {z:D} (hw:Wn E gd) (ha:a.val (look E) = .d x) (hb:b.val (look E) = .d y) (hz:binD op tb x y=some z) (h:Rn Γ pc os ⟨look ((d,.d z)::E),M,nb⟩ Q):Rn Γ pc (⟨some d,.bin op tb,[a,b],false,gd⟩::os) ⟨look E,M,nb⟩ Q:=by
 refine Rn.k hw rfl rfl ?_ h;simp [ha,hb,V.dems,V.dem,Qm,hz]
theorem Rn.un {op:UnOp} {z:D} (hw:Wn E gd) (ha:a.val (look E) = .d x) (hz:unD op x=some z) (h:Rn Γ pc os ⟨look ((d,.d z)::E),M,nb⟩ Q):Rn Γ pc (⟨some d,.un op,[a],false,gd⟩::os) ⟨look E,M,nb⟩ Q:=by
 refine Rn.k hw rfl rfl ?_ h;simp [ha,V.dems,V.dem,Qm,hz]
theorem Rn.conv {k k' : IntKind} {n:Int} (hw:Wn E gd) (ha:a.val (look E) = .d (.int k' n)) (h:Rn Γ pc os ⟨look ((d,.d (.int k (k.wrap n)))::E),M,nb⟩ Q):Rn Γ pc (⟨some d,.conv k,[a],false,gd⟩::os) ⟨look E,M,nb⟩ Q:=by
 refine Rn.k hw rfl rfl ?_ h;simp [ha,V.dems,V.dem,Qm]
theorem Rn.eqa {neg r:Bool} {ks:List Nat} {xs ys:List V} (hw:Wn E gd) (ha:(a.val (look E)).dem = .agg xs) (hb:(b.val (look E)).dem = .agg ys) (hz:Qd6 ks xs ys=some r) (h:Rn Γ pc os ⟨look ((d,.d (.bool (bif neg then !r else r)))::E),M,nb⟩ Q):Rn Γ pc (⟨some d,.eqa neg ks,[a,b],false,gd⟩::os) ⟨look E,M,nb⟩ Q:=by
 refine Rn.k hw rfl rfl ?_ h;cases neg<;>simp [ha,hb,V.dems,Qm,hz]
theorem Rn.pickT {v:V} {q:Bool} (hw:Wn E gd) (hq:c.val (look E) = .d (.bool q)) (hb:q=true) (ha:(a.val (look E)).dem=v) (h:Rn Γ pc os ⟨look ((d,v)::E),M,nb⟩ Q):Rn Γ pc (⟨some d,.pick,[c,a,b],false,gd⟩::os) ⟨look E,M,nb⟩ Q:=by
 subst hb;refine Rn.k hw rfl rfl ?_ h;simp [hq,V.dems,V.dem,Qm,ha]
theorem Rn.pickF {v:V} {q:Bool} (hw:Wn E gd) (hq:c.val (look E) = .d (.bool q)) (hb:q=false) (ha:(b.val (look E)).dem=v) (h:Rn Γ pc os ⟨look ((d,v)::E),M,nb⟩ Q):Rn Γ pc (⟨some d,.pick,[c,a,b],false,gd⟩::os) ⟨look E,M,nb⟩ Q:=by
 subst hb;refine Rn.k hw rfl rfl ?_ h;simp [hq,V.dems,V.dem,Qm,ha]
theorem Rn.max2 {k:IntKind} {m n:Int} (hw:Wn E gd) (ha:a.val (look E) = .d (.int k m)) (hb:b.val (look E) = .d (.int k n)) (h:Rn Γ pc os ⟨look ((d,.d (.int k (if n>m then n else m)))::E),M,nb⟩ Q):Rn Γ pc (⟨some d,.max2,[a,b],false,gd⟩::os) ⟨look E,M,nb⟩ Q:=by
 refine Rn.k hw rfl rfl ?_ h;simp [ha,hb,V.dems,V.dem,Qm]
theorem Rn.min2 {k:IntKind} {m n:Int} (hw:Wn E gd) (ha:a.val (look E) = .d (.int k m)) (hb:b.val (look E) = .d (.int k n)) (h:Rn Γ pc os ⟨look ((d,.d (.int k (if n<m then n else m)))::E),M,nb⟩ Q):Rn Γ pc (⟨some d,.min2,[a,b],false,gd⟩::os) ⟨look E,M,nb⟩ Q:=by
 refine Rn.k hw rfl rfl ?_ h;simp [ha,hb,V.dems,V.dem,Qm]
variable {α:Type} {e:α→List D} {xs:List α} {sz:Nat}
theorem Rn.lenD (hw:Wn E gd) (ha:(a.val (look E)).dem = .d (.lst sz (xs.map e))) (h:Rn Γ pc os ⟨look ((d,.d (.int .i64 xs.length))::E),M,nb⟩ Q):Rn Γ pc (⟨some d,.len,[a],false,gd⟩::os) ⟨look E,M,nb⟩ Q:=by
 refine Rn.k hw rfl rfl ?_ h;simp [ha,V.dems,Qm]
theorem Rn.lenS {s:ByteArray} (hw:Wn E gd) (ha:a.val (look E) = .d (.str s)) (h:Rn Γ pc os ⟨look ((d,.d (.int .i64 s.size))::E),M,nb⟩ Q):Rn Γ pc (⟨some d,.lens,[a],false,gd⟩::os) ⟨look E,M,nb⟩ Q:=by
 refine Rn.k hw rfl rfl ?_ h;simp [ha,V.dems,V.dem,Qm]
def getO (l:List α) (i:Int):Option α:=if 0≤i then l[i.toNat]? else none
def slcO (l:List α) (lo hi:Int):Option (List α):=if 0≤lo∧lo≤hi∧hi≤l.length then some ((l.take hi.toNat).drop lo.toNat) else none
def appO (l m:List α):Option (List α):=if l.length+m.length≤lim then some (l++m) else none
theorem Rn.idxD {k:IntKind} {i:Int} {x:α} (hw:Wn E gd) (ha:(a.val (look E)).dem = .d (.lst sz (xs.map e))) (hb:b.val (look E) = .d (.int k i)) (hx:getO xs i=some x) (h:Rn Γ pc os ⟨look ((d,.cref (e x))::E),M,nb⟩ Q):Rn Γ pc (⟨some d,.idx sz,[a,b],false,gd⟩::os) ⟨look E,M,nb⟩ Q:=by
 refine Rn.k hw rfl rfl ?_ h;unfold getO at hx;split at hx<;>try (cases hx;done)
 rename_i h0;simp [ha,hb,V.dems,V.dem,Qm,h0,hx]
theorem Rn.loadC {cs:List D} (hw:Wn E gd) (ha:a.val (look E) = .cref (x::cs)) (h:Rn Γ pc os ⟨look ((d,.d x)::E),M,nb⟩ Q):Rn Γ pc (⟨some d,.load false 1,[a],false,gd⟩::os) ⟨look E,M,nb⟩ Q:=by
 refine Rn.k hw rfl rfl ?_ h;simp [ha,V.dems,V.dem,Qm]
theorem Rn.loadCA {cs:List D} {vs:List V} {n:Nat} (hw:Wn E gd) (ha:a.val (look E) = .cref cs) (hn:Nat.ble n cs.length=true) (hv:(cs.take n).map .d=vs) (h:Rn Γ pc os ⟨look ((d,.agg vs)::E),M,nb⟩ Q):Rn Γ pc (⟨some d,.load true n,[a],false,gd⟩::os) ⟨look E,M,nb⟩ Q:=by
 refine Rn.k hw rfl rfl ?_ h;have:=Nat.le_of_ble_eq_true hn;simp [ha,V.dems,V.dem,Qm,this,hv]
theorem Rn.fldC {cs:List D} {off:Nat} (hw:Wn E gd) (ha:a.val (look E) = .cref cs) (h:Rn Γ pc os ⟨look ((d,.cref (cs.drop off))::E),M,nb⟩ Q):Rn Γ pc (⟨some d,.fld off,[a],false,gd⟩::os) ⟨look E,M,nb⟩ Q:=by
 refine Rn.k hw rfl rfl ?_ h;simp [ha,V.dems,V.dem,Qm]
theorem Rn.fldP {k o off o' : Nat} (hw:Wn E gd) (ha:a.val (look E) = .ptr k o) (ho:o+off=o') (h:Rn Γ pc os ⟨look ((d,.ptr k o')::E),M,nb⟩ Q):Rn Γ pc (⟨some d,.fld off,[a],false,gd⟩::os) ⟨look E,M,nb⟩ Q:=by
 refine Rn.k hw rfl rfl ?_ h;subst ho;simp [ha,V.dems,V.dem,Qm]
theorem Rn.nilchkP {k o:Nat} (hw:Wn E gd) (ha:a.val (look E) = .ptr k o) (h:Rn Γ pc os ⟨look ((d,.ptr k o)::E),M,nb⟩ Q):Rn Γ pc (⟨some d,.nilchk,[a],false,gd⟩::os) ⟨look E,M,nb⟩ Q:=by
 refine Rn.k hw rfl rfl ?_ h;simp [ha,V.dems,V.dem,Qm]
theorem Rn.build {as:List Arg} {z:List V} {ps:List (Nat×Nat)} {v:V} (hw:Wn E gd) (hk:Qm Γ.n0 (Γ.n0+d) (.build z ps) (V.dems (as.map (·.val (look E)))) M=some (v,M)) (h:Rn Γ pc os ⟨look ((d,v)::E),M,nb⟩ Q):Rn Γ pc (⟨some d,.build z ps,as,false,gd⟩::os) ⟨look E,M,nb⟩ Q :=
 Rn.k hw rfl rfl hk h
theorem Rn.ext {i:Nat} {vs:List V} {v:V} (hw:Wn E gd) (ha:(a.val (look E)).dem = .tup vs) (hv:vs[i]? = some v) (ht:v.top=v) (h:Rn Γ pc os ⟨look ((d,v)::E),M,nb⟩ Q):Rn Γ pc (⟨some d,.extract i,[a],false,gd⟩::os) ⟨look E,M,nb⟩ Q:=by
 refine Rn.k hw rfl rfl ?_ h;simp [ha,V.dems,Qm,hv,ht]
theorem Rn.extTD {t i:Nat} {vs:List V} {x:D} (hw:Wn E gd) (ha:look E t = .tup vs) (hv:vs[i]? = some (.d x)) (hs:vs.set i (.d x)=vs) (h:Rn Γ pc os ⟨look ((d,.d x)::E),M,nb⟩ Q):Rn Γ pc (⟨some d,.extract i,[.t t],true,gd⟩::os) ⟨look E,M,nb⟩ Q:=by
 refine Rn.kT hw rfl rfl (v:=.d x) (by simp [Arg.val,ha,Qm,hv,V.top,V.dem]) (fun j=>?_) h;simp only [List.map_cons,List.map_nil,Arg.val,ha,Qb4,hv,V.dem,hs,Qba,Arg.putTo];rw [← Qcj];have:(look E).put t (.tup vs)=look E:=by
  funext i;simp only [Sl.put];split
  ·rename_i e;subst e;exact ha.symm
  ·rfl
 rw [this]
theorem Q49 {l:List α} {lo hi:Int} {ys:List α} (h:slcO l lo hi=some ys):0≤lo∧lo≤hi∧hi≤l.length∧(((l.map e).take hi.toNat).drop lo.toNat)=ys.map e:=by
 unfold slcO at h;split at h<;>cases h;rename_i hc;refine ⟨hc.1,hc.2.1,hc.2.2,by simp [List.map_drop,List.map_take]⟩
theorem Rn.slcL {k:IntKind} {lo:Int} {ys:List α} (hw:Wn E gd) (ha:(a.val (look E)).dem = .d (.lst sz (xs.map e))) (hb:b.val (look E) = .d (.int k lo)) (hx:slcO xs lo xs.length=some ys) (h:Rn Γ pc os ⟨look ((d,.d (.lst sz (ys.map e)))::E),M,nb⟩ Q) :
  Rn Γ pc (⟨some d,.slice sz true false,[a,b],false,gd⟩::os) ⟨look E,M,nb⟩ Q:=by
 refine Rn.k hw rfl rfl ?_ h;obtain ⟨h1,h2,h3,h4⟩:=Q49 (e:=e) hx;have h5:(xs.map e).take xs.length=xs.map e:=by rw [List.take_of_length_le (by simp)]
 simp only [Int.toNat_natCast,h5] at h4;simp [ha,hb,V.dems,V.dem,Qm,h1,h2,h4,h5]
theorem Rn.slcH {k:IntKind} {hi:Int} {ys:List α} (hw:Wn E gd) (ha:(a.val (look E)).dem = .d (.lst sz (xs.map e))) (hb:b.val (look E) = .d (.int k hi)) (hx:slcO xs 0 hi=some ys) (h:Rn Γ pc os ⟨look ((d,.d (.lst sz (ys.map e)))::E),M,nb⟩ Q) :
  Rn Γ pc (⟨some d,.slice sz false true,[a,b],false,gd⟩::os) ⟨look E,M,nb⟩ Q:=by
 refine Rn.k hw rfl rfl ?_ h;obtain ⟨h1,h2,h3,h4⟩:=Q49 (e:=e) hx;simp only [Int.toNat_zero,List.drop_zero] at h4;simp [ha,hb,V.dems,V.dem,Qm,h2,h3,h4]
theorem Rn.app {t bytes:Nat} {ys zs:List α} {src:V} (hw:Wn E gd) (ha:look E t = .own sz (xs.map e)) (hb:b.val (look E)=src) (hf:src.dem=src) (hs:Qf8 M sz src=some (ys.map e)) (hx:appO xs ys=some zs) (hbd:(Nat.ble bytes 128&&Nat.ble 1 sz)=true)
  (h:Rn Γ pc os ⟨look ((d,.own sz (zs.map e))::(t,.d (.lst sz (xs.map e)))::E),M,nb⟩ Q):Rn Γ pc (⟨some d,.append sz bytes,[.t t,b],true,gd⟩::os) ⟨look E,M,nb⟩ Q:=by
 unfold appO at hx;split at hx<;>cases hx;rename_i hl;simp only [Bool.and_eq_true] at hbd;have h1:=Nat.le_of_ble_eq_true hbd.1;have h2:0<sz:=Nat.le_of_ble_eq_true hbd.2;have hm:[Arg.t t,b].map (fun x=>x.val (look E))=[V.own sz (xs.map e),src]:=by
  simp only [List.map_cons,List.map_nil,hb];rw [show (Arg.t t).val (look E)=_ from ha]
 refine Rn.kT hw rfl rfl (v:=.own sz ((xs++ys).map e)) ?_ (fun i=>?_) h
 ·rw [hm];simp [Qm,hs,h1,h2,hl]
 ·rw [hm];simp only [Qb4,hf,show (V.own sz (xs.map e)).dem = .d (.lst sz (xs.map e)) from rfl,Qba,show ∀ s v,(Arg.t t).putTo s v=s.put t v from fun _ _=>rfl];have hz:∀ s:Sl,b.val s=src→b.putTo s src=s:=by
   intro s hs;cases b with
   | c v=>rfl
   | t u =>
    simp only [Arg.val] at hs;funext i;simp only [Arg.putTo,Sl.put];split
    ·rename_i e;subst e;exact hs.symm
    ·rfl
  rw [hz]
  ·rw [Qcj,Qcj]
  ·cases b with
   | c v=>exact hb
   | t u =>
    have:u≠t:=by
     rintro rfl;simp only [Arg.val] at hb;rw [ha] at hb;subst hb;simp [V.dem] at hf
    simp only [Arg.val,Sl.put,this,if_false];exact hb
theorem Rn.slcT {t:Nat} {k:IntKind} {lo:Int} {ys:List α} (hw:Wn E gd) (ha:look E t = .own sz (xs.map e)∨look E t = .ownT sz (xs.map e)) (hb:b.val (look E) = .d (.int k lo)) (hx:slcO xs lo xs.length=some ys)
  (h:Rn Γ pc os ⟨look ((d,.ownT sz (ys.map e))::(t,.d (.lst sz (xs.map e)))::E),M,nb⟩ Q):Rn Γ pc (⟨some d,.slcT sz,[.t t,b],true,gd⟩::os) ⟨look E,M,nb⟩ Q:=by
 obtain ⟨h1,h2,h3,h4⟩:=Q49 (e:=e) hx;have h5:(xs.map e).take xs.length=xs.map e:=by rw [List.take_of_length_le (by simp)]
 simp only [Int.toNat_natCast,h5] at h4;have hm:∀ v,look E t=v→[Arg.t t,b].map (fun x=>x.val (look E))=[v,V.d (.int k lo)]:=by
  intro v hv;simp only [List.map_cons,List.map_nil,hb];rw [show (Arg.t t).val (look E)=_ from hv]
 have hd:(look E t).dem = .d (.lst sz (xs.map e)):=by rcases ha with ha|ha<;>rw [ha]<;>rfl
 have hne:∀ u,b = .t u→u≠t:=by
  rintro u rfl rfl;simp only [Arg.val] at hb;rw [hb] at hd;cases hd
 refine Rn.kT hw rfl rfl (v:=.ownT sz (ys.map e)) ?_ (fun i=>?_) h
 ·rcases ha with ha|ha<;>rw [hm _ ha]<;>simp [Qm,h1,h2,h4]
 ·rw [hm _ rfl];simp only [Qb4,hd,Qba,show ∀ s v,(Arg.t t).putTo s v=s.put t v from fun _ _=>rfl];have hz:∀ s:Sl,b.val s = .d (.int k lo)→b.putTo s (.d (.int k lo))=s:=by
   intro s hs;cases b with
   | c v=>rfl
   | t u =>
    simp only [Arg.val] at hs;funext i;simp only [Arg.putTo,Sl.put];split
    ·rename_i e;subst e;exact hs.symm
    ·rfl
  rw [hz]
  ·rw [Qcj,Qcj]
  ·cases b with
   | c v=>exact hb
   | t u=>simp only [Arg.val,Sl.put,hne u rfl,if_false];exact hb
end Go.Abs
end
section
namespace Go.Abs
open Go
variable {Γ : Env} {pc d nb : Nat} {os : List COp} {E : List (Nat × V)} {M M' M0 : Mem} {L : List (Nat × Bx)} {Q : St → Prop} {σ : St} {gd : Option (Nat × Bool)} {a b c : Arg}
theorem Qqh (h : (Qbu L d).isNone = true) : (Ql Γ.n0 L M0 (Γ.n0 + d)).isNone = true := by rw [Qbt]; exact h
theorem Rn.box {n : Nat} {v : V} {cs : List V} (hw : Wn E gd) (ha : (a.val (look E)).dem = v) (hv : Qdy v = true) (hc : v.cells = cs) (hn : Nat.beq cs.length n = true) (hf : (Qbu L d).isNone = true)
  (h : Rn Γ pc os ⟨look ((d, .ptr (Γ.n0 + d) 0) :: E), Ql Γ.n0 ((d, .cells cs) :: L) M0, nb⟩ Q) : Rn Γ pc (⟨some d, .box n, [a], false, gd⟩ :: os) ⟨look E, Ql Γ.n0 L M0, nb⟩ Q := by
 refine Rn.k hw rfl rfl ?_ h
 have hfr := Qqh (Γ := Γ) (M0 := M0) hf
 have hn' : v.cells.length = n := by rw [hc]; exact Nat.eq_of_beq_eq_true hn
 simp only [List.map_cons, List.map_nil, V.dems, ha, Qm]
 cases v <;> first | (simp [Qdy] at hv; done) | (simp only [hn', hfr, decide_true, Bool.and_self, if_true, Qeu]; rw [← hc])
theorem Rn.alloc {z : List V} (hw : Wn E gd) (hf : (Qbu L d).isNone = true)
  (h : Rn Γ pc os ⟨look ((d, .ptr (Γ.n0 + d) 0) :: E), Ql Γ.n0 ((d, .cells z) :: L) M0, nb⟩ Q) : Rn Γ pc (⟨some d, .alloc z, [], false, gd⟩ :: os) ⟨look E, Ql Γ.n0 L M0, nb⟩ Q := by
 refine Rn.k hw rfl rfl ?_ h
 simp only [List.map_nil, V.dems, Qm, Qqh (Γ := Γ) (M0 := M0) hf, if_true, Qeu]
theorem Rn.bslice {sz n : Nat} {z : List V} {ps : List Nat} {as : List Arg} {xs cs : List V} (hw : Wn E gd) (ha : V.dems (as.map (·.val (look E))) = xs) (hf : (Qbu L d).isNone = true)
  (hc : (Nat.beq ps.length xs.length && decide (0 < sz) && z.length == sz && (ps.zip xs).all (fun (i, x) => Qdy x && x.cells.length == sz && decide (i < n))) = true)
  (hcs : Qiy (rep n z) ((ps.zip xs).map fun (i, x) => (i * sz, x.cells)) = cs)
  (h : Rn Γ pc os ⟨look ((d, .sl sz (Γ.n0 + d) 0 n n) :: E), Ql Γ.n0 ((d, .cells cs) :: L) M0, nb⟩ Q) : Rn Γ pc (⟨some d, .bslice sz n z ps, as, false, gd⟩ :: os) ⟨look E, Ql Γ.n0 L M0, nb⟩ Q := by
 refine Rn.k hw rfl rfl ?_ h
 rw [ha]
 simp only [Bool.and_eq_true] at hc
 have h1 : ps.length = xs.length := Nat.eq_of_beq_eq_true hc.1.1.1
 have hs : Qm Γ.n0 (Γ.n0 + d) (.bslice sz n z ps) xs (Ql Γ.n0 L M0) = (if ps.length = xs.length && decide (0 < sz) && z.length == sz && (ps.zip xs).all (fun (i, x) => Qdy x && x.cells.length == sz && decide (i < n)) && (Ql Γ.n0 L M0 (Γ.n0 + d)).isNone
  then some (.sl sz (Γ.n0 + d) 0 n n, (Ql Γ.n0 L M0).put (Γ.n0 + d) (.cells (Qiy (rep n z) ((ps.zip xs).map fun (i, x) => (i * sz, x.cells))))) else none) := by cases xs <;> rfl
 rw [hs, if_pos, Qeu, hcs]
 simp only [Bool.and_eq_true, Qqh (Γ := Γ) (M0 := M0) hf, and_true]
 exact ⟨⟨⟨by simpa using h1, hc.1.1.2⟩, hc.1.2⟩, hc.2⟩
theorem Qbf {t : Nat} {bx : Bx} (h : Qbu L t = some bx) : Ql Γ.n0 L M0 (Γ.n0 + t) = some bx := by rw [Qbt]; exact h
theorem Rn.load {k off n : Nat} {ag : Bool} {cs : List V} {v : V} (hw : Wn E gd) (ha : a.val (look E) = .ptr k off) (hM : M k = some (.cells cs)) (hn : Nat.ble (off + n) cs.length = true) (hv : (if ag then some (.agg (V.dems ((cs.drop off).take n))) else (cs[off]?).map (·.dem)) = some v)
  (h : Rn Γ pc os ⟨look ((d, v) :: E), M, nb⟩ Q) : Rn Γ pc (⟨some d, .load ag n, [a], false, gd⟩ :: os) ⟨look E, M, nb⟩ Q := by
 refine Rn.k hw rfl rfl ?_ h
 have := Nat.le_of_ble_eq_true hn
 simp only [List.map_cons, List.map_nil, V.dems, ha, V.dem, Qm, hM, this, if_true]
 cases ag with
 | true => simp only [if_true, Option.some.injEq] at hv ⊢; rw [hv]
 | false =>
  simp only [Bool.false_eq_true, if_false, Option.map_eq_some_iff] at hv ⊢
  obtain ⟨x, hx, rfl⟩ := hv
  exact ⟨x, hx, rfl⟩
theorem Qbh {k : Nat} {bx : Bx} (hk : k < Γ.n0) (h : M0 k = some bx) : Ql Γ.n0 L M0 k = some bx := by rw [Q8 hk]; exact h
theorem Rn.loadT {t off sz : Nat} {l : List (List D)} {cs cs' : List V} (hw : Wn E gd) (ha : a.val (look E) = .ptr (Γ.n0 + t) off) (hM : Qbu L t = some (.cells cs)) (hx : cs[off]? = some (.own sz l)) (hcs : cs.set off (.d (.lst sz l)) = cs')
  (h : Rn Γ pc os ⟨look ((d, .own sz l) :: E), Ql Γ.n0 ((t, .cells cs') :: L) M0, nb⟩ Q) : Rn Γ pc (⟨some d, .loadT, [a], false, gd⟩ :: os) ⟨look E, Ql Γ.n0 L M0, nb⟩ Q := by
 refine Rn.k hw rfl rfl ?_ h
 simp only [List.map_cons, List.map_nil, V.dems, ha, V.dem, Qm, Qbf hM, hx, Option.map_some, V.topL, V.top]
 rw [← hcs, Qeu]
theorem Rn.store {t off n : Nat} {v : V} {cs cs' : List V} (hw : Wn E gd) (ha : a.val (look E) = .ptr (Γ.n0 + t) off) (hb : (b.val (look E)).dem = v) (hv : Qdy v = true) (hM : Qbu L t = some (.cells cs))
  (hn : (Nat.beq v.cells.length n && Nat.ble (off + n) cs.length) = true) (hcs : cs.take off ++ v.cells ++ cs.drop (off + n) = cs')
  (h : Rn Γ pc os ⟨look E, Ql Γ.n0 ((t, .cells cs') :: L) M0, nb⟩ Q) : Rn Γ pc (⟨none, .store n, [a, b], false, gd⟩ :: os) ⟨look E, Ql Γ.n0 L M0, nb⟩ Q := by
 simp only [Bool.and_eq_true] at hn
 have h1 : v.cells.length = n := Nat.eq_of_beq_eq_true hn.1
 have h2 := Nat.le_of_ble_eq_true hn.2
 have hf : v.dem = v := by rw [← hb]; exact Qdj _
 have ht : v.topS = v := Q12 hf
 refine Rn.kS (v := .und) hw ?_ (fun _ => rfl) h
 simp only [Bool.false_eq_true, if_false, List.map_cons, List.map_nil, V.dems, ha, V.dem, hb]
 simp only [Qm]
 cases v <;> first
  | (simp [Qdy] at hv; done)
  | (simp only [Qbf hM, ht, h1, h2, decide_true, Bool.true_and, Nat.le_add_right, Bool.true_or, if_true]; rw [← hcs, Qeu])
theorem Rn.storeO {t u off sz : Nat} {l : List (List D)} {cs cs' : List V} (hw : Wn E gd) (ha : a.val (look E) = .ptr (Γ.n0 + t) off) (hb : look E u = .own sz l) (hM : Qbu L t = some (.cells cs))
  (hn : Nat.ble (off + 1) cs.length = true) (hcs : cs.take off ++ [.own sz l] ++ cs.drop (off + 1) = cs')
  (h : Rn Γ pc os ⟨look ((u, .d (.lst sz l)) :: E), Ql Γ.n0 ((t, .cells cs') :: L) M0, nb⟩ Q) : Rn Γ pc (⟨none, .store 1, [a, .t u], true, gd⟩ :: os) ⟨look E, Ql Γ.n0 L M0, nb⟩ Q := by
 have h2 := Nat.le_of_ble_eq_true hn
 have hm : [a, Arg.t u].map (fun x => x.val (look E)) = [V.ptr (Γ.n0 + t) off, .own sz l] := by simp only [List.map_cons, List.map_nil, ha]; rw [show (Arg.t u).val (look E) = _ from hb]
 refine Rn.kS (v := .und) hw ?_ (fun i => ?_) h
 ·simp only [if_true, hm]
  simp only [Qm, Qbf hM, V.topS, V.cells, List.length_cons, List.length_nil, h2, decide_true, Bool.true_and, Nat.le_add_right, Bool.true_or, if_true]
  rw [← hcs, Qeu]
 ·simp only [if_true, hm, Qb4, Qba, V.dem]
  have : a.putTo (look E) (.ptr (Γ.n0 + t) off) = look E := by
   cases a with
   | c v => rfl
   | t j =>
    simp only [Arg.val] at ha
    funext i; simp only [Arg.putTo, Sl.put]; split
    ·rename_i e; subst e; exact ha.symm
    ·rfl
  rw [this, show (Arg.t u).putTo (look E) (.d (.lst sz l)) = (look E).put u (.d (.lst sz l)) from rfl, Qcj]
theorem Q2q {sz : Nat} {l : List (List D)} : Qf8 M sz (.d (.lst sz l)) = some l := by simp [Qf8]
theorem Q2r {sz t off len cap : Nat} {cs : List V} {l : List (List D)} (hM : Qbu L t = some (.cells cs)) (hle : Nat.ble (off + len * sz) cs.length = true) (hl : (toDs ((cs.drop off).take (len * sz))).map (Qix sz len) = some l) :
  Qf8 (Ql Γ.n0 L M0) sz (.sl sz (Γ.n0 + t) off len cap) = some l := by
 have := Nat.le_of_ble_eq_true hle
 simp [Qf8, Qbf hM, this, hl]
theorem Rn.call {f : FuncId} {as : List Arg} {args : List V} {r : V} (hw : Wn E gd) (ha : V.dems (as.map (·.val (look E))) = args) (hC : ∀ M nb, ACalls Γ.P f args M nb r M nb) (hpc : one (pcOf pc) = true → ∀ k, nb ≤ k → M k = none)
  (h : Rn Γ pc os ⟨look ((d, r) :: E), M, nb⟩ Q) : Rn Γ pc (⟨some d, .call f, as, false, gd⟩ :: os) ⟨look E, M, nb⟩ Q := by
 refine Rn.cons ?_
 unfold COp.run
 rw [hw.wanted]
 simp only [show (K.call f).isCall = true from rfl, if_true, COp.callee, ha]
 have h' : Rn Γ pc os ⟨Qbd (look E) (some d) r, M, nb⟩ Q := by
  rw [show Qbd (look E) (some d) r = look ((d, r) :: E) from Qcj E d r]; exact h
 match hp : pcOf pc with
 | 0 => exact ⟨r, M, nb, hC _ _, fun _ h => h, fun _ _ _ _ => .inl rfl, h'⟩
 | 1 =>
  refine ⟨r, fun _ => none, nb, fun M2 _ h2 => ?_, ?_⟩
  ·have : M2.over nb (fun _ => none) = M2 := by
    funext k; simp only [Mem.over]; split
    ·rfl
    ·exact (h2 k (by omega)).symm
   rw [this]; exact hC _ _
  ·have : M.over nb (fun _ => none) = M := by
    funext k; simp only [Mem.over]; split
    ·rfl
    ·exact (hpc (by rw [hp]; rfl) k (by omega)).symm
   rw [this]; exact h'
 | n + 2 =>
  show (if n < 8 then _ else _)
  by_cases hn8 : n < 8
  ·rw [if_pos hn8]; exact ⟨r, hC, h'⟩
  ·rw [if_neg hn8]
   have h1 : one (pcOf pc) = true := by rw [hp]; unfold one; rw [show Nat.ble 10 (n + 2) = true from Nat.ble_eq_true_of_le (by omega), Bool.or_true]
   refine ⟨r, fun _ => none, fun _ => none, nb, .inr fun _ => rfl, fun _ h => (by cases h), fun _ _ _ h => (by cases h), fun M2 _ h2 => ?_, ?_⟩
   ·rw [Qg9 fun _ => rfl]
    have : M2.over nb (fun _ => none) = M2 := by
     funext k; simp only [Mem.over]; split
     ·rfl
     ·exact (h2 k (by omega)).symm
    rw [this]; exact hC _ _
   ·rw [Qg9 fun _ => rfl]
    have : M.over nb (fun _ => none) = M := by
     funext k; simp only [Mem.over]; split
     ·rfl
     ·exact (hpc h1 k (by omega)).symm
    rw [this]; exact h'
def FinP (rs : List Res) (r : V) (n0 : Nat) (M0 : Mem) : Ex → St → Prop := fun e σ =>
 (e = .norm ∨ e = .ret) ∧ ∃ r', Qn4 σ rs = some r' ∧ Wk r' r ∧ r.on (There M0) ∧ ∀ k, k < n0 → σ.M k = M0 k
theorem Qp0 {P : Program} {f : FuncId} {args : List V} {M M' : Mem} {nb nb' : Nat} {r : V} (hb : Qh2 P f = true) (hn : nb ≤ nb') (h : ¬ (∀ k, nb ≤ k → M k = none)) : ACalls P f args M nb r M' nb' := by
 refine ⟨hb, hn, fun w g us _ hm => ?_⟩
 refine absurd (fun k hk => ?_) h
 cases hM : M k with
 | none => rfl
 | some b => have := (hm.box k b hM).1; omega
theorem Qhh {P : Program} {f : FuncId} {cf : CFn} (hcf : Qr P f = some cf) : Qh2 P f = true := by
 unfold Qr at hcf
 split at hcf <;> try (cases hcf; done)
 rename_i fn hfn
 split at hcf <;> try (cases hcf; done)
 rename_i code hbody
 split at hcf <;> try (cases hcf; done)
 split at hcf <;> try (cases hcf; done)
 rename_i hnd
 obtain ⟨hnd, hnp, hname⟩ := hnd
 simp [Qh2, hfn, hbody, Q1z] at hname ⊢; exact hname
theorem Qde {P : Program} {f : FuncId} {cf : CFn} (hcf : Qr P f = some cf) {args : List V} {r : V} (hargs : Nat.beq args.length cf.np = true)
  (hrun : ∀ (Γ : Env) (M : Mem), Γ.P = P → Γ.nt = cf.nt → (∀ k, Γ.n0 ≤ k → M k = none) → Tr Γ cf.body ⟨Qkb args, Ql Γ.n0 [] M, Γ.n0 + cf.nt⟩ (FinP cf.res r Γ.n0 M)) : ∀ M nb, ACalls P f args M nb r M nb := by
 intro M nb
 by_cases hM : ∀ k, nb ≤ k → M k = none
 case neg => exact Qp0 (Qhh hcf) (Nat.le_refl _) hM
 by_cases hon : MOn (There M) M
 case neg => exact ⟨Qhh hcf, Nat.le_refl _, fun w g us _ hm h => absurd h hon⟩
 refine Qbf9 hcf hM (Nat.eq_of_beq_eq_true hargs) (Nat.le_refl _) fun Γ hP hn ht => ?_
 have h := hrun Γ M hP ht (by rw [hn]; exact hM)
 rw [Qn7 (by rw [hn]; exact hM), hn] at h
 refine h.mono ?_
 rintro e σ' ⟨he, r', h1, h2, h3, h4⟩
 have hlt : ∀ k, There M k → k < nb := fun k hk => by
  rcases Nat.lt_or_ge k nb with h | h
  ·exact h
  ·simp [There, hM k h] at hk
 refine ⟨he, r', h1, h2, fun k b hk => ?_, h3, hon, hlt⟩
 rw [h4 k (hlt k (by simp [There, hk]))]; exact hk
theorem Q6m : ∀ (args : List V) (i : Nat), look ((List.range' i args.length).zip args) = fun t => if t < i then .und else args.getD (t - i) .und
 | [], i => by funext t; simp [look]
 | v :: vs, i => by
  funext t
  simp only [List.length_cons, List.range'_succ, List.zip_cons_cons, look, Q6m vs (i + 1)]
  cases hb : Nat.beq t i with
  | true => have := Nat.eq_of_beq_eq_true hb; subst this; simp
  | false =>
   have : t ≠ i := fun e => by subst e; simp at hb
   by_cases hlt : t < i
   ·have : t < i + 1 := by omega
    simp [hlt, this]
   ·have h1 : ¬ t < i + 1 := by omega
    have h2 : t - i = (t - (i + 1)) + 1 := by omega
    simp [hlt, h1, h2]
theorem Qbbp {args : List V} {E : List (Nat × V)} (h : (List.range' 0 args.length).zip args = E) : Qkb args = look E := by
 rw [← h, Q6m]
 funext t
 simp [Qkb]
theorem Tr.init {cc : CC} {args : List V} {Q : Ex → St → Prop} (E : List (Nat × V)) (h : (List.range' 0 args.length).zip args = E) (k : Tr Γ cc ⟨look E, M, nb⟩ Q) : Tr Γ cc ⟨Qkb args, M, nb⟩ Q := by
 rw [Qbbp h]; exact k
theorem ifT {R : Type} {p : Prop} [Decidable p] {A B : Option R} {r : R} (hb : decide p = true) (h : (if p then A else B) = some r) : A = some r := by rwa [if_pos (of_decide_eq_true hb)] at h
theorem ifF {R : Type} {p : Prop} [Decidable p] {A B : Option R} {r : R} (hb : decide p = false) (h : (if p then A else B) = some r) : B = some r := by rwa [if_neg (of_decide_eq_false hb)] at h
theorem bT {R : Type} {b : Bool} {A B : Option R} {r : R} (hb : b = true) (h : (if b then A else B) = some r) : A = some r := by subst hb; simpa using h
theorem bF {R : Type} {b : Bool} {A B : Option R} {r : R} (hb : b = false) (h : (if b then A else B) = some r) : B = some r := by subst hb; simpa using h
theorem bnd {X R : Type} {A : Option X} {g : X → Option R} {r : R} (h : A.bind g = some r) : ∃ x, A = some x ∧ g x = some r := Option.bind_eq_some_iff.1 h
theorem nT {b : Bool} (h : b = true) : (!b) = false := by subst h; rfl
theorem nF {b : Bool} (h : b = false) : (!b) = true := by subst h; rfl
theorem nT' {b : Bool} (h : (!b) = true) : b = false := by cases b <;> simp_all
theorem nF' {b : Bool} (h : (!b) = false) : b = true := by cases b <;> simp_all
def Qbe9 {X : Type} (Γ : Env) (mk : X → St) (z : X) (Q : Ex → St → Prop) : Ex → St → Prop
 | .norm, σ' => WeakSt Γ σ' (mk z)
 | .exit i, σ' => Q (.exit i) σ'
 | .ret, σ' => Q .ret σ'
theorem Tr.cutB {X R : Type} {x y : CC} {Q : Ex → St → Prop} (mk : X → St) {A : Option X} {g : X → Option R} {r : R} (h : A.bind g = some r) (hx : ∀ z, A = some z → Tr Γ x σ (Qbe9 Γ mk z Q)) (hy : ∀ z, g z = some r → Tr Γ y (mk z) Q) : Tr Γ (.seq x y) σ Q := by
 obtain ⟨z, h1, h2⟩ := bnd h
 refine Tr.seq ((hx z h1).mono ?_)
 intro e σ' hq
 cases e with
 | norm => exact (hy z h2).weak hq
 | exit id => exact hq
 | ret => exact hq
def letJ {X R : Type} (J : X → Option R) (body : (X → Option R) → Option R) : Option R := body J
theorem Tr.cutJ {X R : Type} {x y : CC} {Q : Ex → St → Prop} (mk : X → St) {J : X → Option R} {body : (X → Option R) → Option R} {r : R} (h : letJ J body = some r)
  (hx : ∀ J', body J' = some r → Tr Γ x σ (Qbga Γ mk J' r Q)) (hy : ∀ z, J z = some r → Tr Γ y (mk z) Q) : Tr Γ (.seq x y) σ Q := Tr.cut mk J r hy (hx J h)
def eI (k : IntKind) (n : Int) : List D := [.int k n]
abbrev i_ (n : Int) : V := .d (.int .i64 n)
abbrev b_ (b : Bool) : V := .d (.bool b)
abbrev l_ (l : List Int) : V := .d (.lst 1 (List.map (eI .i64) l))
def eB (b : Bool) : List D := [.bool b]
def eS (s : ByteArray) : List D := [.str s]
def eL {α : Type} (sz : Nat) (e : α → List D) (l : List α) : List D := [.lst sz (List.map e l)]
theorem toN {y : CC} {Q : Ex → St → Prop} (h : Tr Γ y σ Q) : Qbbo Γ y Q .norm σ := h
theorem Tr.condF {q : Arg} {x y : CC} {b : Bool} {Q : Ex → St → Prop} (hb : q.val σ.s = .d (.bool b)) (h : b = false) (hy : Tr Γ y σ Q) : Tr Γ (.cond q x y) σ Q := Tr.cond hb (fun h' => by rw [h] at h'; cases h') fun _ => hy
theorem Qbbq {G : Prop} (b : Bool) (h1 : b = true → G) (h2 : b = false → G) : G := by cases b; exact h2 rfl; exact h1 rfl
theorem pc9 {p : Prop} : one (pcOf 9) = true → p := by intro h; cases h
theorem pc0 {p : Prop} : one (pcOf 0) = true → p := by intro h; cases h
theorem pc2 {p : Prop} : one (pcOf 2) = true → p := by intro h; cases h
theorem Q6n {n0 nt : Nat} {L : List (Nat × Bx)} {M0 : Mem} (hM : ∀ k, n0 ≤ k → M0 k = none) (hL : (L.all fun p => Nat.blt p.1 nt) = true) : ∀ k, n0 + nt ≤ k → Ql n0 L M0 k = none := by
 intro k hk
 simp only [Ql]
 rw [if_neg (by omega)]
 cases hb : Qbu L (k - n0) with
 | none => rfl
 | some b =>
  obtain ⟨p, hp, he⟩ := Qs0 hb
  have := List.all_eq_true.1 hL p hp
  have := Nat.le_of_ble_eq_true this
  omega
theorem Q0k {E : List (Nat × V)} {n0 p t off n nb : Nat} {ag : Bool} {cs : List V} {v : V} (hp : look E p = .ptr (n0 + t) off) (hM : Qbu L t = some (.cells cs)) (hn : Nat.ble (off + n) cs.length = true) (hv : (if ag then some (.agg (V.dems ((cs.drop off).take n))) else (cs[off]?).map (·.dem)) = some v) :
  Res.val ⟨look E, Ql n0 L M0, nb⟩ (.cell p ag n) = some v := by
 have := Nat.le_of_ble_eq_true hn
 have hb : Ql n0 L M0 (n0 + t) = some (.cells cs) := by rw [Qbt]; exact hM
 simp only [Res.val, hp, Qm, hb, this, if_true]
 cases ag with
 | true => simp only [if_true, Option.some.injEq] at hv ⊢; rw [hv]; rfl
 | false =>
  simp only [Bool.false_eq_true, if_false] at hv ⊢
  rw [Option.map_map]
  rw [← hv]; congr 1
theorem res2 {x y : Res} {v w : V} (h1 : x.val σ = some v) (h2 : y.val σ = some w) : Qn4 σ [x, y] = some (.tup [v, w]) := by simp [Qn4, h1, h2]
theorem res3 {x y z : Res} {v w u : V} (h1 : x.val σ = some v) (h2 : y.val σ = some w) (h3 : z.val σ = some u) : Qn4 σ [x, y, z] = some (.tup [v, w, u]) := by simp [Qn4, h1, h2, h3]
def shlO (k : IntKind) (a b : Int) : Option Int := if b < 0 then none else some (k.wrap (a * 2 ^ (min b.toNat k.bits)))
def shrO (k : IntKind) (a b : Int) : Option Int := if b < 0 then none else some (a.fdiv (2 ^ (min b.toNat k.bits)))
def andI (k : IntKind) (a b : Int) : Int := k.wrap ((BitVec.ofInt k.bits a) &&& (BitVec.ofInt k.bits b)).toNat
def orI (k : IntKind) (a b : Int) : Int := k.wrap ((BitVec.ofInt k.bits a) ||| (BitVec.ofInt k.bits b)).toNat
theorem Qbfa {k k' : IntKind} {tb : Bool} {x y z : Int} (h : shlO k x y = some z) : binD .shl tb (.int k x) (.int k' y) = some (.int k z) := by
 unfold shlO at h; split at h <;> cases h
 simp [binD, *]
theorem Qbfb {k k' : IntKind} {tb : Bool} {x y z : Int} (h : shrO k x y = some z) : binD .shr tb (.int k x) (.int k' y) = some (.int k z) := by
 unfold shrO at h; split at h <;> cases h
 simp [binD, *]
end Go.Abs
end
section
namespace Go.Abs
open Go
variable {Γ:Env} {pc d nb:Nat} {os:List COp} {E:List (Nat×V)} {M M' M0:Mem} {L:List (Nat×Bx)} {Q:St→Prop} {σ:St} {gd:Option (Nat×Bool)} {a b c:Arg}
def Ext (M M2:Mem):Prop:=∀ k b,M k=some b→M2 k=some b
theorem Ext.refl (M:Mem):Ext M M:=fun _ _ h=>h
theorem Ext.trans {A B C:Mem} (h:Ext A B) (k:Ext B C):Ext A C:=fun i b hi=>k i b (h i b hi)
theorem ltB {n0:Nat} (hM:∀ k,n0≤k→M0 k=none) {k:Nat} {b:Bx} (h:M0 k=some b):k<n0:=by
 rcases Nat.lt_or_ge k n0 with hk|hk
 ·exact hk
 ·rw [hM k hk] at h;cases h
theorem Q4a {n0:Nat} (hM:∀ k,n0≤k→M0 k=none):Ext M0 (Ql n0 L M0):=fun k b h=>by rw [Q8 (ltB hM h)];exact h
theorem Qfm {n0:Nat} (hM:∀ k,n0≤k→M0 k=none) {k:Nat} {b:Bx} (h:M0 k=some b):Ql n0 L M0 k=some b:=Q4a hM k b h
theorem Rn.callM {f:FuncId} {as:List Arg} {args:List V} {r:V} (hw:Wn E gd) (ha:V.dems (as.map (·.val (look E)))=args) (hC:∀ M2 nb2,nb≤nb2→Ext M M2→ACalls Γ.P f args M2 nb2 r M2 nb2) (hp2:(Nat.ble (pcOf pc) 1||Nat.ble 10 (pcOf pc))=true) (hpc:one (pcOf pc)=true→∀ k,nb≤k→M k=none)
  (h:Rn Γ pc os ⟨look ((d,r)::E),M,nb⟩ Q):Rn Γ pc (⟨some d,.call f,as,false,gd⟩::os) ⟨look E,M,nb⟩ Q:=by
 refine Rn.cons ?_;unfold COp.run;rw [hw.wanted];simp only [show (K.call f).isCall=true from rfl,if_true,COp.callee,ha];have h' : Rn Γ pc os ⟨Qbd (look E) (some d) r,M,nb⟩ Q:=by
  rw [show Qbd (look E) (some d) r=look ((d,r)::E) from Qcj E d r];exact h
 match hp:pcOf pc with
 | 0=>exact ⟨r,M,nb,hC _ _ (Nat.le_refl _) (Ext.refl _),fun _ h=>h,fun _ _ _ _=>.inl rfl,h'⟩
 | 1 =>
  refine ⟨r,fun _=>none,nb,fun M2 h1 h2=>?_,?_⟩
  ·have:M2.over nb (fun _=>none)=M2:=by
    funext k;simp only [Mem.over];split
    ·rfl
    ·exact (h2 k (by omega)).symm
   rw [this];exact hC _ _ (Nat.le_refl _) fun k b hk=>by rw [h1 k (by simp [hk])];exact hk
  ·have:M.over nb (fun _=>none)=M:=by
    funext k;simp only [Mem.over];split
    ·rfl
    ·exact (hpc (by rw [hp];rfl) k (by omega)).symm
   rw [this];exact h'
 | n+2 =>
  have hn8:¬ n<8:=by
   intro hn;rw [hp] at hp2;simp only [Bool.or_eq_true,Nat.ble_eq] at hp2;omega
  have h1:one (pcOf pc)=true:=by rw [hp];unfold one;rw [show Nat.ble 10 (n+2)=true from Nat.ble_eq_true_of_le (by omega),Bool.or_true]
  show (if n<8 then _ else _);rw [if_neg hn8];refine ⟨r,fun _=>none,fun _=>none,nb,.inr fun _=>rfl,fun _ h=>(by cases h),fun _ _ _ h=>(by cases h),fun M2 h3 h2=>?_,?_⟩
  ·rw [Qg9 fun _=>rfl];have:M2.over nb (fun _=>none)=M2:=by
    funext k;simp only [Mem.over];split
    ·rfl
    ·exact (h2 k (by omega)).symm
   rw [this];exact hC _ _ (Nat.le_refl _) fun k b hk=>by rw [h3 k (by simp [hk])];exact hk
  ·rw [Qg9 fun _=>rfl];have:M.over nb (fun _=>none)=M:=by
    funext k;simp only [Mem.over];split
    ·rfl
    ·exact (hpc h1 k (by omega)).symm
   rw [this];exact h'
theorem Rn.callvM {t:Nat} {f:FuncId} {caps:List V} {as:List Arg} {args:List V} {r:V} (hw:Wn E gd) (ht:look E t = .clo f caps) (ha:V.dems (as.map (·.val (look E)))++V.dems caps=args) (hC:∀ M2 nb2,nb≤nb2→Ext M M2→ACalls Γ.P f args M2 nb2 r M2 nb2) (hp2:(Nat.ble (pcOf pc) 1||Nat.ble 10 (pcOf pc))=true) (hpc:one (pcOf pc)=true→∀ k,nb≤k→M k=none)
  (h:Rn Γ pc os ⟨look ((d,r)::E),M,nb⟩ Q):Rn Γ pc (⟨some d,.callv,.t t::as,false,gd⟩::os) ⟨look E,M,nb⟩ Q:=by
 refine Rn.cons ?_;unfold COp.run;rw [hw.wanted];simp only [show K.callv.isCall=true from rfl,if_true,COp.callee,List.map_cons,show (Arg.t t).val (look E) = .clo f caps from ht,ha];have h' : Rn Γ pc os ⟨Qbd (look E) (some d) r,M,nb⟩ Q:=by
  rw [show Qbd (look E) (some d) r=look ((d,r)::E) from Qcj E d r];exact h
 match hp:pcOf pc with
 | 0=>exact ⟨r,M,nb,hC _ _ (Nat.le_refl _) (Ext.refl _),fun _ h=>h,fun _ _ _ _=>.inl rfl,h'⟩
 | 1 =>
  refine ⟨r,fun _=>none,nb,fun M2 h1 h2=>?_,?_⟩
  ·have:M2.over nb (fun _=>none)=M2:=by
    funext k;simp only [Mem.over];split
    ·rfl
    ·exact (h2 k (by omega)).symm
   rw [this];exact hC _ _ (Nat.le_refl _) fun k b hk=>by rw [h1 k (by simp [hk])];exact hk
  ·have:M.over nb (fun _=>none)=M:=by
    funext k;simp only [Mem.over];split
    ·rfl
    ·exact (hpc (by rw [hp];rfl) k (by omega)).symm
   rw [this];exact h'
 | n+2 =>
  have hn8:¬ n<8:=by
   intro hn;rw [hp] at hp2;simp only [Bool.or_eq_true,Nat.ble_eq] at hp2;omega
  have h1:one (pcOf pc)=true:=by rw [hp];unfold one;rw [show Nat.ble 10 (n+2)=true from Nat.ble_eq_true_of_le (by omega),Bool.or_true]
  show (if n<8 then _ else _);rw [if_neg hn8];refine ⟨r,fun _=>none,fun _=>none,nb,.inr fun _=>rfl,fun _ h=>(by cases h),fun _ _ _ h=>(by cases h),fun M2 h3 h2=>?_,?_⟩
  ·rw [Qg9 fun _=>rfl];have:M2.over nb (fun _=>none)=M2:=by
    funext k;simp only [Mem.over];split
    ·rfl
    ·exact (h2 k (by omega)).symm
   rw [this];exact hC _ _ (Nat.le_refl _) fun k b hk=>by rw [h3 k (by simp [hk])];exact hk
  ·rw [Qg9 fun _=>rfl];have:M.over nb (fun _=>none)=M:=by
    funext k;simp only [Mem.over];split
    ·rfl
    ·exact (hpc h1 k (by omega)).symm
   rw [this];exact h'
theorem Qkw {P:Program} {f:FuncId} {cf:CFn} (hcf:Qr P f=some cf) {args:List V} {r:V} (hargs:Nat.beq args.length cf.np=true) (M:Mem) (nb:Nat)
  (hrun:∀ (Γ:Env),Γ.P=P→Γ.nt=cf.nt→Γ.n0=nb→(∀ k,Γ.n0≤k→M k=none)→Tr Γ cf.body ⟨Qkb args,Ql Γ.n0 [] M,Γ.n0+cf.nt⟩ (FinP cf.res r Γ.n0 M)):ACalls P f args M nb r M nb:=by
 by_cases hM:∀ k,nb≤k→M k=none
 case neg=>exact Qp0 (Qhh hcf) (Nat.le_refl _) hM
 by_cases hon:MOn (There M) M
 case neg=>exact ⟨Qhh hcf,Nat.le_refl _,fun w g us _ hm h=>absurd h hon⟩
 refine Qbf9 hcf hM (Nat.eq_of_beq_eq_true hargs) (Nat.le_refl _) fun Γ hP hn ht=>?_;have h:=hrun Γ hP ht hn (by rw [hn];exact hM);rw [Qn7 (by rw [hn];exact hM),hn] at h;refine h.mono ?_;rintro e σ' ⟨he,r',h1,h2,h3,h4⟩;have hlt:∀ k,There M k→k<nb:=fun k hk=>by
  rcases Nat.lt_or_ge k nb with h|h
  ·exact h
  ·simp [There,hM k h] at hk
 refine ⟨he,r',h1,h2,fun k b hk=>?_,h3,hon,hlt⟩;rw [h4 k (hlt k (by simp [There,hk]))];exact hk
mutual
theorem Q6o {n0:Nat} {sites:List Nat}:∀ v:V,v.on (· < n0)→Qdl (Qjq n0 sites) v=v
 | .und,_=>rfl
 | .d _,_=>rfl
 | .agg cs,h=>by simp only [Qdl];rw [kills_base cs h]
 | .tup cs,h=>by simp only [Qdl];rw [kills_base cs h]
 | .own ..,_=>rfl
 | .ownT ..,_=>rfl
 | .ownV ..,_=>rfl
 | .ptr k o,h=>by simp only [Qdl];rw [Qnn h];rfl
 | .nilp,_=>rfl
 | .f _,_=>rfl
 | .nils _,_=>rfl
 | .cref _,_=>rfl
 | .sl sz k o n c,h=>by simp only [Qdl];rw [Qnn h];rfl
 | .clo _ cs,h=>by simp only [Qdl];rw [kills_base cs h]
 | .mp k,h=>by simp only [Qdl];rw [Qnn h];rfl
theorem kills_base {n0:Nat} {sites:List Nat}:∀ vs:List V,V.ons (· < n0) vs→Qdl.go (Qjq n0 sites) vs=vs
 | [],_=>rfl
 | v::vs,h=>by simp only [Qdl.go];rw [Q6o v h.1,kills_base vs h.2]
end
theorem kFun {n0:Nat} {sites:List Nat} {g:FuncId} {cp:List V} (hM:∀ k,n0≤k→M0 k=none) (h:V.ons (There M0) cp):WkV (Qdl (Qjq n0 sites) (.clo g cp)) (.clo g cp):=by
 refine .same (Q6o _ (ons_mono (fun k hk=>?_) _ h));obtain ⟨b,hb⟩:=Option.isSome_iff_exists.1 hk;exact ltB hM hb
theorem Qyt {k:Nat} {b:Bx} (h:M k=some b):There M k:=by simp [There,h]
theorem Qbgb {cp:List V} (hx:Ext M M') (h:V.ons (There M) cp):V.ons (There M') cp:=ons_mono (fun k hk=>by
 obtain ⟨b,hb⟩:=Option.isSome_iff_exists.1 hk;exact Qyt (hx k b hb)) _ h
end Go.Abs
end
