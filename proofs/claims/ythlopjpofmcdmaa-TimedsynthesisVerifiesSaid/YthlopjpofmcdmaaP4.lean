/-
  Part 4 of the proof: see the last text.
-/
import Derived.Test.YthlopjpofmcdmaaP3
import Derived.Orders
set_option linter.unusedVariables false
set_option linter.unusedSimpArgs false
set_option linter.unusedSectionVars false
section
namespace Go.Abs
open Go
def CallStp (C:Ctx) (n0 pc:Nat) (d:Option Nat) (f:FuncId) (args:List V) (M:Mem) (nb:Nat) (r:V) (M' : Mem) (nb' : Nat):Prop :=
 match pc with
 | 0=>C f args M nb r M' nb'∧(∀ k,(M k).isSome=true→(M' k).isSome=true)∧(∀ k cs,k<n0→M' k=some (.cells cs)→M' k=M k∨V.lt.go n0 cs=true)
 | 1=>∃ Δ,(∀ M2:Mem,(∀ k,(M k).isSome=true→M2 k=M k)→(∀ k,nb≤k→M2 k=none)→C f args M2 nb r (M2.over nb Δ) nb')∧M'=M.over nb Δ
 | n+2=>if n<8 then (∀ M nb,C f args M nb r M nb)∧M'=M∧nb'=nb
  else ∃ W Δ,(wrs (n-8) d=true∨∀ k,W k=none)∧(∀ k,(W k).isSome=true→(M k).isSome=true)∧(∀ k cs,k<n0→W k=some (.cells cs)→V.lt.go n0 cs=true) ∧
   (∀ M2:Mem,(∀ k,(M k).isSome=true→M2 k=M k)→(∀ k,nb≤k→M2 k=none)→C f args M2 nb r ((M2.patch W).over nb Δ) nb')∧M'=(M.patch W).over nb Δ
def Core (C:Ctx) (n0 pc:Nat) (o:COp) (s:Sl) (M:Mem) (nb:Nat) (v:V) (M' : Mem) (nb' : Nat):Prop :=
 match o.wanted s with
 | some true =>
  if o.kind.isCall then ∃ f args,o.callee s=some (f,args)∧CallStp C n0 pc o.dst f args M nb v M' nb'
  else if o.kind.isNil then False
  else Qk n0 (n0+o.dst.getD 0) o.kind (o.xs s) M=some (v,M')∧nb'=nb
 | some false=>v = .tup []∧M'=M∧nb'=nb
 | none=>False
def pv (o:COp) (s:Sl):List V:=if o.wanted s=some true∧o.kind.isCall=false∧o.tk=true then Qb1 o.kind (o.xs s) else []
def Stp (C:Ctx) (n0 pc:Nat) (o:COp) (σ σ' : St):Prop :=
 ∃ v,Core C n0 pc o σ.s σ.M σ.nb v σ'.M σ'.nb∧σ'.s=Qbf (Q5 σ.s o.args (pv o σ.s)) o.dst v
theorem Qeg (s:Sl) (as:List Arg):Q5 s as []=s:=by cases as<;>rfl
theorem Qber {C:Ctx} {n0 pc:Nat} {o:COp} {σ:St} {Q:St→Prop} (hn:o.kind.isNil=false) (h:o.run C n0 pc σ Q):∃ σ',Stp C n0 pc o σ σ'∧Q σ':=by
 unfold COp.run at h;cases hw:o.wanted σ.s with
 | none=>grind
 | some b =>
  rw [hw] at h;cases b with
  | false =>
   refine ⟨_,⟨.tup [],?_,?_⟩,h⟩
   ·simp [Core,hw]
   ·simp [pv,hw,Qeg]
  | true =>
   simp only at h;cases hcall:o.kind.isCall with
   | true =>
    rw [hcall] at h;simp only [if_true] at h;cases hcal:o.callee σ.s with
    | none=>grind
    | some fa =>
     obtain ⟨f,args⟩:=fa;rw [hcal] at h;simp only at h;have hpv:pv o σ.s=[]:=by simp [pv,hcall]
     match pc,h with
     | 0,⟨r,M,nb,h1,h2,h3,h4⟩=>exact ⟨_,⟨r,by simp only [Core,hw,hcall,if_true];exact ⟨f,args,hcal,h1,h2,h3⟩,by rw [hpv,Qeg]⟩,h4⟩
     | 1,⟨r,Δ,nb,h1,h4⟩=>exact ⟨_,⟨r,by simp only [Core,hw,hcall,if_true];exact ⟨f,args,hcal,Δ,h1,rfl⟩,by rw [hpv,Qeg]⟩,h4⟩
     | n+2,h =>
      have h:(if n<8 then _ else _):=h;by_cases hn8:n<8
      ·rw [if_pos hn8] at h;obtain ⟨r,h1,h4⟩:=h;exact ⟨_,⟨r,by simp only [Core,hw,hcall,if_true];exact ⟨f,args,hcal,(by show (if n<8 then _ else _);grind)⟩,by rw [hpv,Qeg]⟩,h4⟩
      ·rw [if_neg hn8] at h;obtain ⟨r,W,Δ,nb,h1,h2,h3,h5,h4⟩:=h;exact ⟨_,⟨r,by simp only [Core,hw,hcall,if_true];exact ⟨f,args,hcal,(by show (if n<8 then _ else _);grind)⟩,by rw [hpv,Qeg]⟩,h4⟩
   | false =>
    rw [hcall,hn] at h;simp only [Bool.false_eq_true,if_false] at h;cases hst:o.step n0 σ with
    | none=>grind
    | some σ' =>
     rw [hst] at h;refine ⟨σ',?_,h⟩;unfold COp.step at hst;simp only at hst;split at hst<;>cases hst;rename_i v M hk;refine ⟨v,by simp [Core,hw,hcall,hn,hk],?_⟩
     grind [pv,Qeg]
theorem Q95 {C:Ctx} {n0 pc:Nat} {o:COp} {σ σ' : St} {Q:St→Prop} (h:Stp C n0 pc o σ σ') (hq:Q σ'):o.run C n0 pc σ Q:=by
 obtain ⟨v,hc,hs⟩:=h;unfold Core at hc;unfold COp.run;cases hw:o.wanted σ.s with
 | none=>grind
 | some b =>
  rw [hw] at hc;cases b with
  | false =>
   obtain ⟨rfl,h1,h2⟩:=hc;simp only [pv,hw] at hs;simp [Qeg] at hs;show Q _;rw [← hs,← h2,← h1];exact hq
  | true =>
   simp only at hc ⊢;cases hcall:o.kind.isCall with
   | true =>
    rw [hcall] at hc;simp only [if_true] at hc ⊢;obtain ⟨f,args,hcal,hcc⟩:=hc;rw [hcal];simp only;have hpv:pv o σ.s=[]:=by simp [pv,hcall]
    rw [hpv,Qeg] at hs
    match pc,hcc with
    | 0,⟨h1,h2,h3⟩=>exact ⟨v,σ'.M,σ'.nb,h1,h2,h3,by rw [← hs];exact hq⟩
    | 1,⟨Δ,h1,h2⟩=>exact ⟨v,Δ,σ'.nb,h1,by rw [← hs,← h2];exact hq⟩
    | n+2,hcc =>
     have hcc:(if n<8 then _ else _):=hcc;show (if n<8 then _ else _);by_cases hn8:n<8
     ·rw [if_pos hn8] at hcc ⊢;obtain ⟨h1,h2,h3⟩:=hcc;exact ⟨v,h1,by rw [← hs,← h2,← h3];exact hq⟩
     ·rw [if_neg hn8] at hcc ⊢;obtain ⟨W,Δ,h1,h2,h3,h4,h5⟩:=hcc;exact ⟨v,W,Δ,σ'.nb,h1,h2,h3,h4,by rw [← hs,← h5];exact hq⟩
   | false =>
    rw [hcall] at hc;simp only [Bool.false_eq_true,if_false] at hc ⊢;cases hn:o.kind.isNil with
    | true=>grind
    | false =>
     rw [hn] at hc;simp only [Bool.false_eq_true,if_false] at hc ⊢;obtain ⟨h1,h2⟩:=hc;have:o.step n0 σ=some σ':=by
      unfold COp.step;simp only [h1,Option.some.injEq];have hs' : σ'.s=Qbf (if o.tk=true then Q5 σ.s o.args (Qb1 o.kind (o.xs σ.s)) else σ.s) o.dst v:=by
       grind [pv,Qeg]
      rw [← hs',← h2]
     rw [this];exact hq
theorem Q96 (s:Sl) {t u:Nat} (v x:V) (h:t≠u):(s.put t v).put u x=(s.put u x).put t v:=by
 grind [Sl.put]
theorem Qsi:∀ (as:List Arg) (vs:List V) (s:Sl) (t:Nat) (x:V),(∀ a∈as,t∉a.slot)→Q5 (s.put t x) as vs=(Q5 s as vs).put t x
 | [],_,_,_,_,_=>by simp [Q5]
 | a::as,[],_,_,_,_=>rfl
 | a::as,v::vs,s,t,x,h=>by
  simp only [Q5];have ha:=h a (by simp);cases a with
  | c w=>exact Qsi as vs s t x fun a h'=>h a (by simp [h'])
  | t i =>
   have hne:t≠i:=by simpa [Arg.slot] using ha
   simp only [Arg.putTo];rw [Q96 _ _ _ hne];exact Qsi as vs (s.put i v) t x fun a h'=>h a (by simp [h'])
theorem Qt7:∀ (bs:List Arg) (ws:List V) (s:Sl) (as:List Arg) (vs:List V),(∀ a∈as,∀ b∈bs,∀ t∈b.slot,t∉a.slot)→Q5 (Q5 s bs ws) as vs=Q5 (Q5 s as vs) bs ws
 | [],_,_,_,_,_=>by simp [Q5]
 | b::bs,[],_,_,_,_=>rfl
 | b::bs,w::ws,s,as,vs,h=>by
  simp only [Q5];rw [Qt7 bs ws _ as vs fun a ha b' hb'=>h a ha b' (by simp [hb'])];congr 1;cases b with
  | c w=>rfl
  | t i =>
   simp only [Arg.putTo];exact Qsi as vs s i w fun a ha=>h a ha (.t i) (by simp) i (by simp [Arg.slot])
theorem Qsj:∀ (as:List Arg) (vs:List V) (s:Sl) (t:Nat),(∀ a∈as,t∉a.slot)→Q5 s as vs t=s t
 | [],_,_,_,_=>by simp [Q5]
 | a::as,[],_,_,_=>rfl
 | a::as,v::vs,s,t,h=>by
  simp only [Q5];rw [Qsj as vs _ t fun a h'=>h a (by simp [h'])];have ha:=h a (by simp);cases a with
  | c w=>rfl
  | t i =>
   have hne:t≠i:=by simpa [Arg.slot] using ha
   simp [Arg.putTo,Sl.put,hne]
theorem Q4d (k:K) (xs:List V):V.dems (Qb1 k xs)=V.dems xs:=by
 unfold Qb1;split<;>simp [V.dems,Qef,dems_dems];rename_i i vs;split
 ·rename_i v hv;simp only [V.dem];congr 1;have:∀ (vs:List V) (i:Nat) (v:V),vs[i]? = some v→V.dems (vs.set i v.dem)=V.dems vs:=by
   intro vs
   induction vs with
   | nil=>intro i v h;simp at h
   | cons a vs ih =>
    intro i v h;cases i with
    | zero=>grind [V.dems,Qef]
    | succ i=>grind [V.dems]
  exact this vs i v hv
 ·rfl
theorem Qla:∀ vs:List V,V.dems vs=vs.map V.dem
 | []=>rfl
 | v::vs=>by simp [V.dems,Qla vs]
theorem Qz8:∀ (as:List Arg) (vs:List V) (s:Sl),V.dems vs=V.dems (as.map (·.val s))∨vs=[]→∀ t,(Q5 s as vs t).dem=(s t).dem:=by
 intro as vs s h;rcases h with h|rfl
 case inr=>intro t;rw [Qeg]
 suffices H:∀ (as:List Arg) (vs:List V) (s s0:Sl),(∀ t,(s t).dem=(s0 t).dem)→V.dems vs=V.dems (as.map (·.val s0))→∀ t,(Q5 s as vs t).dem=(s0 t).dem from H as vs s s (fun _=>rfl) h
 intro as
 induction as with
 | nil=>simp_all [Q5]
 | cons a as ih =>
  intro vs s s0 h1 h2 t;cases vs with
  | nil=>exact h1 t
  | cons v vs =>
   simp only [List.map_cons,V.dems,List.cons.injEq] at h2;simp only [Q5];refine ih vs _ s0 (fun t=>?_) h2.2 t;cases a with
   | c w=>exact h1 t
   | t i =>
    simp only [Arg.putTo,Sl.put];split
    ·rename_i he;subst he;exact h2.1
    ·exact h1 t
def Alike (o:COp) (s s' : Sl):Prop :=
 (∀ t w,o.guard=some (t,w)→s' t=s t)∧∀ a∈o.args,if o.tk then a.val s'=a.val s else (a.val s').dem=(a.val s).dem
theorem Alike.wanted {o:COp} {s s' : Sl} (h:Alike o s s'):o.wanted s'=o.wanted s:=by
 unfold COp.wanted;split
 ·rfl
 ·rename_i t w hg;rw [h.1 t w hg]
theorem Alike.xs {o:COp} {s s' : Sl} (h:Alike o s s'):o.xs s'=o.xs s:=by
 unfold COp.xs;have h2:=h.2;split
 all_goals simp_all [if_true,List.map_congr_left,Qla,List.map_map]
theorem Alike.dems {o:COp} {s s' : Sl} (h:Alike o s s'):V.dems (o.args.map (·.val s'))=V.dems (o.args.map (·.val s)):=by
 rw [Qla,Qla,List.map_map,List.map_map];refine List.map_congr_left fun a ha=>?_;have h2:=h.2 a ha
 grind
theorem Q97 {v:V} {f:FuncId} {cs:List V}:v.dem = .clo f cs↔v = .clo f cs:=by
 cases v<;>simp [V.dem]
theorem Q55 {o:COp} {s s' : Sl} (h:V.dems (o.args.map (·.val s'))=V.dems (o.args.map (·.val s))):o.callee s'=o.callee s:=by
 unfold COp.callee;split
 ·rw [h]
 ·revert h;generalize o.args.map (·.val s')=xs';generalize o.args.map (·.val s)=xs;intro h;cases xs with
  | nil =>
   grind [V.dems]
  | cons x xs =>
   cases xs' with
   | nil=>simp [V.dems] at h
   | cons x' xs' =>
    simp only [V.dems,List.cons.injEq] at h;obtain ⟨h1,h2⟩:=h;by_cases hx:∃ f cs,x = .clo f cs
    ·obtain ⟨f,cs,rfl⟩:=hx;have:x' = .clo f cs:=Q97.1 (h1.trans rfl)
     grind
    ·have hx' : ¬ ∃ f cs,x' = .clo f cs:=by
      rintro ⟨f,cs,rfl⟩;exact hx ⟨f,cs,Q97.1 (h1.symm.trans rfl)⟩
     grind
 ·rfl
theorem Alike.core {C:Ctx} {n0 pc:Nat} {o:COp} {s s' : Sl} (h:Alike o s s') {M:Mem} {nb:Nat} {v:V} {M' : Mem} {nb' : Nat} (hc:Core C n0 pc o s M nb v M' nb'):Core C n0 pc o s' M nb v M' nb':=by
 unfold Core at *
 rw [h.wanted,h.xs,Q55 h.dems];exact hc
theorem Alike.pv {o:COp} {s s' : Sl} (h:Alike o s s'):Abs.pv o s'=Abs.pv o s:=by
 unfold Abs.pv;rw [h.wanted,h.xs]
theorem Q98 (o:COp) (s:Sl):V.dems (pv o s)=V.dems (o.args.map (·.val s))∨pv o s=[]:=by
 unfold pv;split
 ·rename_i h;left;rw [Q4d];simp [COp.xs,h.2.2]
 ·exact .inr rfl
theorem Qh9 {o:COp} {t:Nat}:t∈o.argSlots↔∃ a∈o.args,t∈a.slot:=by simp [COp.argSlots]
theorem Qmn {a b:List Nat} (h:Qyn a b=true) {x:Nat} (hx:x∈a):x∉b:=by
 grind [Qyn,List.all_eq_true,Bool.not_eq_true',decide_eq_false_iff_not]
theorem Qz9 {a b:COp} (h1:∀ d,a.dst=some d→d∉b.reads) (h2:a.tk=true→b.tk=true→∀ t∈a.argSlots,t∉b.argSlots) (h3:a.tk=true→∀ t∈a.argSlots,∀ u w,b.guard=some (u,w)→t≠u)
  (s:Sl) (v:V):Alike b s (Qbf (Q5 s a.args (pv a s)) a.dst v):=by
 have hd:∀ t,t∈b.reads→Qbf (Q5 s a.args (pv a s)) a.dst v t=Q5 s a.args (pv a s) t:=by
  intro t ht;cases hd:a.dst with
  | none=>rfl
  | some d =>
   have:t≠d:=fun e=>h1 d hd (e ▸ ht);simp [Qbf,Sl.put,this]
 refine ⟨fun t w hg=>?_,fun x hx=>?_⟩
 ·rw [hd t (by simp [COp.reads,hg])];by_cases ht:a.tk=true
  ·exact Qsj _ _ _ _ fun y hy hty=>h3 ht t (Qh9.2 ⟨y,hy,hty⟩) t w hg rfl
  simp_all [pv,Qeg]
 ·cases x with
  | c w=>simp [Arg.val]
  | t i =>
   have hi:i∈b.reads:=by grind [COp.reads,Qh9,Arg.slot]
   simp only [Arg.val];rw [hd i hi];split
   ·rename_i hb;by_cases ht:a.tk=true
    ·exact Qsj _ _ _ _ fun y hy hty=>h2 ht hb i (Qh9.2 ⟨y,hy,hty⟩) (Qh9.2 ⟨_,hx,by simp [Arg.slot]⟩)
    simp_all [pv,Qeg]
   ·exact Qz8 _ _ _ (Q98 a s) i
theorem Q22 (s:Sl) {x y:Option Nat} (v u:V) (h:∀ d,x=some d→y≠some d):Qbf (Qbf s x v) y u=Qbf (Qbf s y u) x v:=by
 cases x with
 | none=>rfl
 | some t =>
  cases y with
  | none=>rfl
  | some t'=>exact Q96 s v u fun e=>h t rfl (by rw [e])
theorem Qvv (as:List Arg) (vs:List V) (s:Sl) {x:Option Nat} (v:V) (h:∀ d,x=some d→∀ a∈as,d∉a.slot):Q5 (Qbf s x v) as vs=Qbf (Q5 s as vs) x v:=by
 cases x with
 | none=>rfl
 | some t=>exact Qsi as vs s t v (h t rfl)
theorem Q8h {a b:COp} (h:a.slotsApart b=true) (s:Sl) (va vb:V) :
  let s1:=Qbf (Q5 s a.args (pv a s)) a.dst va;let s1':=Qbf (Q5 s b.args (pv b s)) b.dst vb
  Alike b s s1∧Alike a s s1'∧Qbf (Q5 s1 b.args (pv b s1)) b.dst vb=Qbf (Q5 s1' a.args (pv a s1')) a.dst va:=by
 simp only [COp.slotsApart,Bool.and_eq_true,Bool.or_eq_true,Bool.not_eq_true'] at h;obtain ⟨⟨⟨⟨⟨h1,h2⟩,h3⟩,h4⟩,h5⟩,h6⟩:=h;have e1:∀ d,a.dst=some d→d∉b.reads:=fun d hd=>Qmn h1 (by simp [hd]);have e2:∀ d,a.dst=some d→b.dst≠some d:=fun d hd hb=>Qmn h2 (x:=d) (by simp [hd]) (by simp [hb]);have e3:∀ d,b.dst=some d→d∉a.reads:=fun d hd=>Qmn h3 (by simp [hd]);have e4:a.tk=true→b.tk=true→∀ t∈a.argSlots,t∉b.argSlots:=fun ha hb t ht=>by
  grind [Qmn,COp.soft]
 have e5:a.tk=true→∀ t∈a.argSlots,∀ u w,b.guard=some (u,w)→t≠u:=fun ha t ht u w hg=>by
  rcases h5 with h5|h5
  ·rw [ha] at h5;cases h5
  ·have:=Qmn h5 (x:=t) (by simpa [COp.soft,ha] using ht);simpa [hg] using this
 have e6:b.tk=true→∀ t∈b.argSlots,∀ u w,a.guard=some (u,w)→t≠u:=fun hb t ht u w hg=>by
  grind [Qmn,COp.soft]
 have k1:=Qz9 e1 e4 e5 s va;have k2:=Qz9 e3 (fun hb ha t ht h'=>e4 ha hb t h' ht) e6 s vb;refine ⟨k1,k2,?_⟩;rw [k1.pv,k2.pv];rw [Qvv _ _ _ _ fun d hd x hx hdx=>e1 d hd (by grind [COp.reads,Qh9]),
  Qvv _ _ _ _ fun d hd x hx hdx=>e3 d hd (by grind [COp.reads,Qh9]),
  Q22 _ _ _ e2]
 congr 2;by_cases ha:pv a s=[]
 ·rw [ha,Qeg,Qeg]
 ·by_cases hb:pv b s=[]
  ·rw [hb,Qeg,Qeg]
  ·have hta:a.tk=true:=by
    grind [absurd,pv]
   have htb:b.tk=true:=by
    grind [absurd,pv]
   exact Qt7 _ _ _ _ _ fun x hx y hy t ht htx=>e4 hta htb t (Qh9.2 ⟨y,hy,ht⟩) (Qh9.2 ⟨x,hx,htx⟩)
end Go.Abs
end
section
namespace Go.Abs
open Go
theorem Q8i {n0 κ:Nat} {k:K} {xs:List V} {M M' : Mem} {v:V} (hk:k.eff = .pure) (h:Qk n0 κ k xs M=some (v,M')):M'=M∧∀ M2,Qk n0 κ k xs M2=some (v,M2):=by
 cases k<;>simp only [K.eff] at hk<;>(try cases hk)<;>unfold Qk at h<;>(split at h<;>try (cases h;done))<;>(try (rename_i heq;cases heq))
 all_goals simp only [Qk]
 all_goals (repeat' split at h)<;>first
  | (cases h;done)
  | (simp only [Option.some.injEq,Prod.mk.injEq] at h;obtain ⟨rfl,rfl⟩:=h;simp_all;done)
  | (simp only [Option.map_eq_some_iff,Prod.mk.injEq] at h;obtain ⟨x,hx,h1,h2⟩:=h;subst h1 h2;simp_all;done)
  | (cases h;exact ⟨rfl,fun M2=>if_pos (by assumption)⟩)
  | (dsimp only at h;split at h<;>cases h;exact ⟨rfl,fun M2=>if_pos (by assumption)⟩)
  | (cases h;subst_vars;exact ⟨rfl,fun M2=>by rw [if_pos rfl,if_neg (by assumption)]⟩)
  | skip
def dmV:V→V
 | .own sz l=>.d (.lst sz l)
 | v=>v
theorem Qbes {u:V} (h:u.mv=true):u.dem=dmV u:=by
 rcases Qsa h with h|⟨sz,l,rfl⟩
 ·rw [Qv3 h];cases u<;>first|rfl|simp [V.dat] at h
 ·rfl
theorem Qbf1 {u u2:V} (h:u.mv=true) (hd:dmV u2=dmV u):u2.mv=true:=by
 cases u2 with
 | own _ _=>rfl
 | _ =>
  rcases Qsa h with h|⟨sz,l,rfl⟩
  ·have:dmV u=u:=by cases u<;>first|rfl|simp [V.dat] at h
   grind [dmV,Qwx]
  ·simp only [dmV] at hd
   first|(cases hd;rfl)|(cases hd;done)
def dmE (e:V×V×Nat):V×V×Nat:=(e.1,dmV e.2.1,e.2.2)
theorem Q56 {kd:MK}:∀ {es:List (V×V×Nat)},kd.all (es.map dmE)=kd.all es
 | []=>rfl
 | e::es=>by
  have:=Q56 (kd:=kd) (es:=es);simp only [MK.all] at this ⊢;simp only [List.map_cons,List.all_cons,this,dmE]
theorem Q23 {key:V}:∀ {es:List (V×V×Nat)},Qgz key (es.map dmE)=(Qgz key es).map fun p=>(p.1,dmV p.2)
 | []=>rfl
 | (k,v,b)::es=>by
  simp only [List.map_cons,dmE,Qgz];split
  ·rfl
  ·rw [Q23];cases Qgz key es<;>rfl
theorem Q0a {key:V}:∀ {es:List (V×V×Nat)} {i:Nat} {u:V},Qgz key es=some (i,u)→∃ e,es[i]? = some e∧e.2.1=u
 | [],i,u,h=>by simp [Qgz] at h
 | (k,v,b)::es,i,u,h=>by
  simp only [Qgz] at h;split at h
  ·cases h;exact ⟨_,rfl,rfl⟩
  ·cases hf:Qgz key es with
   | none=>rw [hf] at h;cases h
   | some p=>rw [hf] at h;cases h;simpa using Q0a hf
theorem Q99 {sz:Nat} {l:List (List D)}:∀ {es:List (V×V×Nat)} {i:Nat} {e:V×V×Nat},es[i]? = some e→e.2.1 = .own sz l→(modM e.1 (.d (.lst sz l)) i es).map dmE=es.map dmE
 | [],i,e,h,_=>by simp at h
 | (k,v,b)::es,0,e,h,hv=>by
  grind [modM,dmE,dmV]
 | (k,v,b)::es,i+1,e,h,hv=>by
  simp only [modM,List.map_cons,Q99 (show es[i]? = some e from by simpa using h) hv]
def Bx.dm:Bx→Bx
 | .cells cs=>.cells (V.dems cs)
 | .mp es c=>.mp (es.map fun e=>(e.1,dmV e.2.1,e.2.2)) c
def Qpl (p:Nat→Prop) (M M2:Mem):Prop:=∀ k,p k→(M2 k).map Bx.dm=(M k).map Bx.dm
theorem Qbet (v:V):v.dem.toD=v.toD:=by cases v<;>rfl
theorem Q0b:∀ vs:List V,toDs (V.dems vs)=toDs vs
 | []=>rfl
 | v::vs=>by simp [V.dems,toDs,Qbet,Q0b vs]
theorem Q7d {M M2:Mem} {k:Nat} {cs:List V} (h:(M2 k).map Bx.dm=(M k).map Bx.dm) (hk:M k=some (.cells cs)):∃ cs',M2 k=some (.cells cs')∧V.dems cs'=V.dems cs:=by
 rw [hk] at h;cases h2:M2 k with
 | none=>rw [h2] at h;simp at h
 | some b =>
  rw [h2] at h;cases b with
  | cells cs'=>exact ⟨cs',rfl,by simpa [Bx.dm] using h⟩
  | mp es=>simp [Bx.dm] at h
theorem Qbf2 {M M2:Mem} {k:Nat} {es:List (V×V×Nat)} {c:Nat} (h:(M2 k).map Bx.dm=(M k).map Bx.dm) (hk:M k=some (.mp es c)):∃ es2,M2 k=some (.mp es2 c)∧es2.map dmE=es.map dmE:=by
 rw [hk] at h;cases h2:M2 k with
 | none=>rw [h2] at h;simp at h
 | some b =>
  rw [h2] at h;cases b with
  | cells cs'=>simp [Bx.dm] at h
  | mp es' c' =>
   simp only [Option.map_some,Bx.dm,Option.some.injEq,Bx.mp.injEq] at h;obtain ⟨h1,rfl⟩:=h;exact ⟨es',rfl,h1⟩
theorem Qjg {p:Nat→Prop} {M M2:Mem} (h:Qpl p M M2) {sz:Nat} {v:V} (hv:v.on p) {l:List (List D)} (he:Qe4 M sz v=some l):Qe4 M2 sz v=some l:=by
 by_cases hs:∃ sz' k off len cap,v = .sl sz' k off len cap
 case neg =>
  cases v with
  | sl a b c d e=>grind
  | d x=>cases x<;>exact he
  | _=>exact he
 obtain ⟨sz',k,off,len,cap,rfl⟩:=hs;simp only [Qe4] at he ⊢;split at he<;>try (cases he;done)
 rename_i hsz;rw [if_pos hsz];split at he<;>try (cases he;done)
 rename_i cs hk;obtain ⟨cs',hk',hd⟩:=Q7d (h k hv) hk;rw [hk'];have hl:cs'.length=cs.length:=by
  have:=congrArg List.length hd;simpa [Qla] using this
 simp only [hl];split at he<;>try (cases he;done)
 rename_i hle;rw [if_pos hle];have:toDs ((cs'.drop off).take (len*sz))=toDs ((cs.drop off).take (len*sz)):=by
  rw [← Q0b,← Q0b ((cs.drop off).take _)]
  grind [Qla,List.map_take,List.map_drop]
 rw [this];exact he
theorem Q0c {n0 κ:Nat} {k:K} (hm:(∃ kd c z,k = .lookup kd c z)∨k = .lenm) {xs:List V} {M M' : Mem} {v:V} (h:Qk n0 κ k xs M=some (v,M')):M'=M∧∀ p M2,Qpl p M M2→V.ons p xs→Qk n0 κ k xs M2=some (v,M2):=by
 rcases hm with ⟨kd,c,z,rfl⟩|rfl
 ·obtain ⟨rfl,⟨b,key,es,cl,rfl,hM,h1,h2,h3⟩|⟨key,ents,cl,rfl,h0,h1,h2,h3⟩⟩:=Qx1 h
  ·refine ⟨rfl,fun p M2 ha hp=>?_⟩;obtain ⟨es2,this,hes⟩:=Qbf2 (ha b hp.1) hM;have hall:kd.all es2=true:=by rw [← Q56,hes,Q56];exact h2
   have hfind:(Qgz key es2).map (fun p=>(p.1,dmV p.2))=(Qgz key es).map fun p=>(p.1,dmV p.2):=by rw [← Q23,hes,Q23]
   rcases h3 with ⟨i,u,f1,f2,rfl⟩|⟨f1,f2,rfl⟩
   ·rw [f1] at hfind;cases hf:Qgz key es2 with
    | none=>grind
    | some q =>
     obtain ⟨j,u2⟩:=q;rw [hf] at hfind;simp only [Option.map_some,Option.some.injEq,Prod.mk.injEq] at hfind;obtain ⟨rfl,hu⟩:=hfind
     grind [Qbf1,Qbes,Qk]
   grind [Qgz,Qk]
  ·refine ⟨rfl,fun p M2 ha hp=>?_⟩;rcases h3 with ⟨i,u,f1,f2,rfl⟩|⟨f1,f2,rfl⟩
   all_goals simp_all [Q0a,List.all_eq_true,List.mem_of_getElem?,Qk,Bool.and_self,if_true,Qv3]
 ·obtain ⟨rfl,⟨b,es,c,rfl,hM,rfl⟩|⟨es,c,rfl,rfl⟩⟩:=Q2u h
  ·refine ⟨rfl,fun p M2 ha hp=>?_⟩;obtain ⟨es2,this,hes⟩:=Qbf2 (ha b hp.1) hM;have hl:=congrArg List.length hes
   grind [List.length_map,Qk]
  ·exact ⟨rfl,fun p M2 ha hp=>rfl⟩
theorem Qgg {n0 κ:Nat} {k:K} {xs:List V} {M M' : Mem} {v:V} (hk:k.eff = .read) (h:Qk n0 κ k xs M=some (v,M')):M'=M∧∀ p M2,Qpl p M M2→V.ons p xs→Qk n0 κ k xs M2=some (v,M2):=by
 cases k<;>simp only [K.eff] at hk<;>(try cases hk)<;>(try exact Q0c (.inl ⟨_,_,_,rfl⟩) h)<;>(try exact Q0c (.inr rfl) h)<;>unfold Qk at h<;>(split at h<;>try (cases h;done))<;>(try (rename_i heq;cases heq))
 ·rename_i ag n _ _ k off;split at h<;>try (cases h;done)
  rename_i cs hk;split at h<;>try (cases h;done)
  rename_i hle;refine ⟨(by
   grind),fun p M2 ha hp=>?_⟩
  obtain ⟨cs',hk',hd⟩:=Q7d (ha k hp.1) hk;have hl:cs'.length=cs.length:=by
   have:=congrArg List.length hd;simpa [Qla] using this
  simp only [Qk,hk',hl,if_pos hle];split at h
  ·simp_all [if_true,Option.some.injEq,Prod.mk.injEq,and_true,V.agg.injEq,Qla,List.map_take,List.map_drop]
  ·rename_i hag;simp only [Option.map_eq_some_iff,Prod.mk.injEq] at h;obtain ⟨x,hx,rfl,rfl⟩:=h;simp only [hag];have h3:=congrArg (fun l=>l[off]?) hd
   grind [Qla]
 ·split at h<;>try (cases h;done)
  rename_i hle;simp only [Qk,if_pos hle]
  grind
 ·split at h<;>try (cases h;done)
  ·cases h;exact ⟨rfl,fun p M2 _ _=>rfl⟩
  ·cases h;exact ⟨rfl,fun p M2 _ _=>rfl⟩
  ·cases h;exact ⟨rfl,fun p M2 _ _=>rfl⟩
  ·cases h;exact ⟨rfl,fun p M2 _ _=>rfl⟩
 ·split at h<;>try (cases h;done)
  rename_i ys hys;split at h<;>try (cases h;done)
  rename_i hc;cases h;refine ⟨rfl,fun p M2 ha hp=>?_⟩;simp only [Qk,Qjg ha hp.2.1 hys,if_pos hc]
 ·split at h<;>try (cases h;done)
  rename_i ys hys;split at h<;>try (cases h;done)
  rename_i hc;cases h;refine ⟨rfl,fun p M2 ha hp=>?_⟩;simp only [Qk,Qjg ha hp.2.1 hys,if_pos hc]
 ·split at h<;>try (cases h;done)
  rename_i ys hys;split at h<;>try (cases h;done)
  rename_i hc;cases h;refine ⟨rfl,fun p M2 ha hp=>?_⟩;simp only [Qk,Qjg ha hp.2.1 hys,if_pos hc]
 ·split at h<;>try (cases h;done)
  rename_i l ys hl hys;refine ⟨?_,fun p M2 ha hp=>?_⟩
  ·grind
  ·simp only [Qk,Qjg ha hp.2.1 hys,Qjg ha hp.1 hl]
   grind
theorem Qif {n0 κ:Nat} {k:K} {xs:List V} {M M' : Mem} {v:V} (hk:k.eff = .alloc) (h:Qk n0 κ k xs M=some (v,M')) :
  M κ=none∧∃ b,M'=M.put κ b∧∀ M2,M2 κ=none→Qk n0 κ k xs M2=some (v,M2.put κ b):=by
 cases k<;>simp only [K.eff] at hk<;>(try cases hk)<;>unfold Qk at h<;>(split at h<;>try (cases h;done))<;>(try (rename_i heq;cases heq))
 ·rename_i n _ _ x;split at h<;>try (cases h;done)
  split at h<;>try (cases h;done)
  rename_i hne1 hne2 hc;cases h;simp only [Bool.and_eq_true,decide_eq_true_eq,Option.isNone_iff_eq_none] at hc;refine ⟨hc.2,_,rfl,fun M2 h2=>?_⟩;simp only [Qk,h2,hc.1];cases x<;>first|exact (hne1 rfl).elim|exact (hne2 _ rfl).elim|simp
 ·split at h<;>try (cases h;done)
  rename_i hc;cases h;simp only [Option.isNone_iff_eq_none] at hc;exact ⟨hc,_,rfl,fun M2 h2=>by simp [Qk,h2]⟩
 ·split at h<;>try (cases h;done)
  rename_i hc;cases h;have hc':=hc;simp only [Bool.and_eq_true,Option.isNone_iff_eq_none] at hc';refine ⟨hc'.2,_,rfl,fun M2 h2=>?_⟩;rw [hc'.2] at hc;simp only [Qk,h2];exact if_pos hc
 ·grind
 ·split at h<;>try (cases h;done)
  rename_i hc;cases h;have hc':=hc;simp only [Bool.and_eq_true,Option.isNone_iff_eq_none] at hc';refine ⟨hc'.2,_,rfl,fun M2 h2=>?_⟩
  simp_all [Qk,if_pos]
 all_goals
  split at h<;>try (cases h;done)
  rename_i hc;cases h;simp only [Option.isNone_iff_eq_none] at hc;exact ⟨hc,_,rfl,fun M2 h2=>by simp [Qk,h2]⟩
theorem Qpf {n0 κ:Nat} {xs:List V} {M M' : Mem} {v:V} (h:Qk n0 κ .loadT xs M=some (v,M')) :
  ∃ k off cs x,xs=[.ptr k off]∧M k=some (.cells cs)∧cs[off]? = some x∧v=x.top∧M'=M.put k (.cells (cs.set off x.dem)):=by
 unfold Qk at h;split at h<;>(try (rename_i heq;cases heq))<;>try (cases h;done)
 grind
theorem Qrm {n0 κ k off:Nat} {cs:List V} {x:V} {M:Mem} (hk:M k=some (.cells cs)) (hx:cs[off]? = some x) :
  Qk n0 κ .loadT [.ptr k off] M=some (x.top,M.put k (.cells (cs.set off x.dem))):=by
 simp [Qk,hk,hx]
theorem Qv9 {n0 κ n:Nat} {xs:List V} {M M' : Mem} {v:V} (h:Qk n0 κ (.store n) xs M=some (v,M')) :
  ∃ k off x cs,xs=[.ptr k off,x]∧M k=some (.cells cs)∧x.topS.cells.length=n∧off+n≤cs.length∧v = .und∧M'=M.put k (.cells (cs.take off++x.topS.cells++cs.drop (off+n))):=by
 unfold Qk at h;split at h<;>(try (rename_i heq;cases heq))<;>try (cases h;done)
 rename_i k off x;split at h<;>try (cases h;done)
 split at h<;>try (cases h;done)
 rename_i cs hk;split at h<;>try (cases h;done)
 grind
theorem Qsk (M:Mem) {k j:Nat} (b c:Bx) (h:k≠j):(M.put k b).put j c=(M.put j c).put k b:=by
 funext i;simp only [Mem.put]
 grind
theorem Qbaa (M:Mem) (k:Nat) (b c:Bx):(M.put k b).put k c=M.put k c:=by
 grind [Mem.put]
theorem Qht (M:Mem) (k:Nat) (b:Bx):(M.put k b) k=some b:=by simp [Mem.put]
theorem Qcu (M:Mem) {k j:Nat} (b:Bx) (h:j≠k):(M.put k b) j=M j:=by simp [Mem.put,h]
theorem Q0d {p:Nat→Prop} {M:Mem} {κ:Nat} (b:Bx) (hp:∀ k,p k→(M k).isSome=true) (hκ:M κ=none):Qpl p M (M.put κ b)∧Qpl p (M.put κ b) M:=by
 have:∀ k,p k→(M.put κ b) k=M k:=fun k hk=>Qcu _ _ fun e=>by grind
 exact ⟨fun k hk=>by rw [this k hk],fun k hk=>by rw [this k hk]⟩
theorem Qbcn {cs:List V} {off:Nat} {x:V} (hx:cs[off]? = some x):V.dems (cs.set off x.dem)=V.dems cs:=by
 rw [Qla,Qla,List.map_set,Qef];apply List.ext_getElem?
 grind
theorem Qot {n0 κ:Nat} {kd:MK} {z:V} {xs:List V} {M M' : Mem} {v:V} (hs:Qk n0 κ (.lookupT kd z) xs M=some (v,M')) :
  ∃ k key b,xs=[.mp k,key]∧M k=some b∧((∃ b',M'=M.put k b'∧(∀ p,Qpl p M (M.put k b')∧Qpl p (M.put k b') M)∧∀ M2:Mem,M2 k=some b→Qk n0 κ (.lookupT kd z) xs M2=some (v,M2.put k b')) ∨
   (M'=M∧∀ M2:Mem,M2 k=some b→Qk n0 κ (.lookupT kd z) xs M2=some (v,M2))):=by
 obtain ⟨k,key,es,cl,rfl,h1,h2,h3,h4,h5⟩:=Qv5 hs;refine ⟨k,key,_,rfl,h1,?_⟩;rcases h5 with ⟨i,sz,l,e,h6,h7,rfl,rfl⟩|⟨h6,h7,rfl,rfl⟩
 ·refine .inl ⟨_,rfl,fun p=>?_,fun M2 hM2=>by grind [Qk]⟩;obtain ⟨e',he,heu⟩:=Q0a h6;rw [h7] at he;cases he;have hd:=Q99 h7 heu;have hag:∀ j,((M.put k (.mp (modM e.1 (.d (.lst sz l)) i es) cl)) j).map Bx.dm=(M j).map Bx.dm:=by
   intro j;simp only [Mem.put];split
   ·rename_i hj;subst hj;rw [h1];simp only [Option.map_some,Bx.dm,Option.some.injEq,Bx.mp.injEq,and_true];exact hd
   ·rfl
  exact ⟨fun j _=>hag j,fun j _=>(hag j).symm⟩
 ·exact .inr ⟨rfl,fun M2 hM2=>by simp [Qk,hM2,h2,h3,h4,h6,h7]⟩
theorem Q1x {M:Mem} {k off:Nat} {cs:List V} {x:V} (hk:M k=some (.cells cs)) (hx:cs[off]? = some x) (p:Nat→Prop) :
  Qpl p M (M.put k (.cells (cs.set off x.dem)))∧Qpl p (M.put k (.cells (cs.set off x.dem))) M:=by
 have:∀ i,((M.put k (.cells (cs.set off x.dem))) i).map Bx.dm=(M i).map Bx.dm:=by
  grind [Qht,Bx.dm,Qbcn,Qcu]
 exact ⟨fun i _=>this i,fun i _=>(this i).symm⟩
theorem Q8j {n0 κ k off n k' off' n' : Nat} {ag:Bool} {M:Mem} {cs vs:List V} {v:V} {M1:Mem} (h:Qk n0 κ (.load ag n) [.ptr k off] M=some (v,M1)) (hk:M k'=some (.cells cs)) (hvs:vs.length=n') (hle:off'+n'≤cs.length)
  (hap:Qi5 (.ptr k off) (max n 1) (.ptr k' off') n'=true):Qk n0 κ (.load ag n) [.ptr k off] (M.put k' (.cells (cs.take off'++vs++cs.drop (off'+n'))))=some (v,M.put k' (.cells (cs.take off'++vs++cs.drop (off'+n')))):=by
 by_cases hkk:k=k'
 ·subst hkk;simp only [Qk,hk] at h;split at h<;>try (cases h;done)
  rename_i hle2;have hlen:(cs.take off'++vs++cs.drop (off'+n')).length=cs.length:=by simp;omega
  simp only [Qk,Qht,hlen,if_pos hle2];have hap' : off+max n 1≤off' ∨ off'+n'≤off:=by simpa [Qi5] using hap
  have hget:∀ i,off≤i→i<off+max n 1→(cs.take off'++vs++cs.drop (off'+n'))[i]? = cs[i]?:=by
   intro i h1 h2;rcases hap' with h3|h3
   ·grind
   ·rw [List.getElem?_append_right (by simp;omega)];simp only [List.length_append,List.length_take,List.getElem?_drop];congr 1;omega
  have htk:((cs.take off'++vs++cs.drop (off'+n')).drop off).take n=(cs.drop off).take n:=by
   apply List.ext_getElem?
   grind
  rw [htk,hget off (Nat.le_refl _) (by omega)]
  grind
 ·obtain ⟨rfl,hr⟩:=Qgg rfl h;exact hr (· = k) _ (fun i hi=>by rw [hi,Qcu _ _ hkk]) ⟨rfl,trivial⟩
theorem Qbab {n0 κ sz bytes sz' k off len cap:Nat} {x:V} {l ys:List (List D)} {cs:List V} {M M' : Mem} {v:V} (hl:Qe4 M sz (.sl sz' k off len cap)=some l) (hy:Qe4 M sz x=some ys) (hM:M k=some (.cells cs)) (hag:∀ k' b',Qpl (· ≠ k') M (M.put k' b'))
  (h:(if ys.length=0 then (if len=0&&cap=0 then some (V.own sz [],M) else if len≤cap then some (.sl sz' k off len cap,M) else none)
   else if len+ys.length≤cap then
    (if decide (0<sz)&&decide (off+(len+ys.length)*sz≤cs.length)&&ys.all (fun y=>y.length==sz) then
     some (.sl sz' k off (len+ys.length) cap,M.put k (.cells (cs.take (off+len*sz)++ys.flatten.map V.d++cs.drop (off+len*sz+ys.length*sz)))) else none)
   else if decide (cap<len+ys.length)&&decide (l.length+ys.length≤lim)&&decide (bytes≤128)&&decide (0<sz) then some (.own sz (l++ys),M) else none)=some (v,M')) :
  ∃ f:Mem→Mem,M'=f M∧(f=id∨∃ b,f=fun M=>M.put k b) ∧
   ∀ k' b',k' ≠ k→x.on (· ≠ k')→Qk n0 κ (.appw sz bytes) [.sl sz' k off len cap,x] (M.put k' b')=some (v,f (M.put k' b')):=by
 have again:∀ k' b',k' ≠ k→x.on (· ≠ k')→Qe4 (M.put k' b') sz (.sl sz' k off len cap)=some l∧Qe4 (M.put k' b') sz x=some ys∧(M.put k' b') k=some (.cells cs):=fun k' b' hk hx =>
  ⟨Qjg (v:=.sl sz' k off len cap) (hag k' b') (by show k≠k';exact fun e=>hk e.symm) hl,Qjg (hag k' b') hx hy,by grind [Qcu]⟩
 by_cases h0:ys.length=0
 ·rw [if_pos h0] at h;refine ⟨id,?_,.inl rfl,fun k' b' hk hx=>?_⟩
  ·grind
  ·obtain ⟨a1,a2,a3⟩:=again k' b' hk hx;simp only [Qk,a1,a2,a3,if_pos h0]
   grind
 ·rw [if_neg h0] at h;by_cases hr:len+ys.length≤cap
  ·rw [if_pos hr] at h;split at h<;>cases h;rename_i hc;refine ⟨_,rfl,.inr ⟨_,rfl⟩,fun k' b' hk hx=>?_⟩
   simp_all [Qk,if_neg,if_pos]
  ·rw [if_neg hr] at h;split at h<;>cases h;rename_i hc;refine ⟨id,rfl,.inl rfl,fun k' b' hk hx=>?_⟩
   simp_all [Qk,if_neg,if_pos]
theorem Q7e {n0 κ sz bytes:Nat} {xs:List V} {M M' : Mem} {v:V} (h:Qk n0 κ (.appw sz bytes) xs M=some (v,M')) :
  ∃ s x,xs=[s,x]∧(∃ ys,Qe4 M sz x=some ys)∧∃ k,∃ f:Mem→Mem,M'=f M∧(f=id∨(∃ sz' off len cap,s = .sl sz' k off len cap)∧∃ b,f=fun M=>M.put k b) ∧
   ∀ k' b',((∃ sz' off len cap,s = .sl sz' k off len cap)→k' ≠ k)→x.on (· ≠ k')→Qk n0 κ (.appw sz bytes) xs (M.put k' b')=some (v,f (M.put k' b')):=by
 have hag:∀ k' b',Qpl (· ≠ k') M (M.put k' b'):=fun k' b' j hj=>by rw [Qcu _ _ hj]
 unfold Qk at h;split at h<;>(try (rename_i heq;cases heq))<;>try (cases h;done)
 case _ =>
  rename_i sz' k off len cap x;split at h<;>try (cases h;done)
  rename_i l ys cs hl hy hM;refine ⟨_,x,rfl,⟨ys,hy⟩,k,?_⟩;obtain ⟨f,h1,h2,h3⟩:=Qbab (n0:=n0) (κ:=κ) (bytes:=bytes) (v:=v) (M':=M') hl hy hM hag h;exact ⟨f,h1,h2.imp id fun h=>⟨⟨_,_,_,_,rfl⟩,h⟩,fun k' b' hk hx=>h3 k' b' (hk ⟨_,_,_,_,rfl⟩) hx⟩
 case _ =>
  rename_i sz' x;split at h<;>try (cases h;done)
  rename_i ys hy;split at h<;>cases h;rename_i hc;refine ⟨_,x,rfl,⟨ys,hy⟩,0,id,rfl,.inl rfl,fun k' b' _ hx=>?_⟩;simp only [Qk,Qjg (hag k' b') hx hy,if_pos hc];rfl
theorem Q57 {n0 κ n k off:Nat} {x v:V} {M1 M2 M:Mem} (h:Qk n0 κ (.store n) [.ptr k off,x] M1=some (v,M2)) (hk:M k=M1 k) :
  ∃ b,M2=M1.put k b∧Qk n0 κ (.store n) [.ptr k off,x] M=some (v,M.put k b):=by
 obtain ⟨k',off',x',cs,hx,hM,h1,h2,rfl,rfl⟩:=Qv9 h;cases hx;refine ⟨_,rfl,?_⟩;cases x<;>(try (simp [Qk] at h;done))<;>simp only [Qk,hM] at h<;>simp only [Qk,hk,hM]<;>(grind)<;>(grind)
end Go.Abs
end
section
namespace Go.Abs
open Go
variable {C:Ctx} {n0 pc:Nat}
def Free (C:Ctx) (n0 pc:Nat) (o:COp) (s:Sl) (v:V):Prop:=∀ M nb,Core C n0 pc o s M nb v M nb
inductive Does (C:Ctx) (n0 pc:Nat) (o:COp) (s:Sl) (M:Mem) (nb:Nat) (v:V) (M' : Mem) (nb' : Nat):Prop where
 | free (h:Free C n0 pc o s v) (h1:M'=M) (h2:nb'=nb)
 | op (hw:o.wanted s=some true) (hc:o.kind.isCall=false) (hn:o.kind.isNil=false) (he:o.kind.eff ≠ .pure) (h:Qk n0 (n0+o.dst.getD 0) o.kind (o.xs s) M=some (v,M')) (h2:nb'=nb)
 | call (f:FuncId) (args:List V) (hw:o.wanted s=some true) (hc:o.kind.isCall=true) (hcal:o.callee s=some (f,args)) (hpc:pc≤1∨10≤pc) (h:CallStp C n0 pc o.dst f args M nb v M' nb')
theorem Core.does {o:COp} {s:Sl} {M:Mem} {nb:Nat} {v:V} {M' : Mem} {nb' : Nat} (h:Core C n0 pc o s M nb v M' nb'):Does C n0 pc o s M nb v M' nb':=by
 have h0:=h;unfold Core at h;cases hw:o.wanted s with
 | none=>grind
 | some b =>
  rw [hw] at h;cases b with
  | false =>
   obtain ⟨rfl,rfl,rfl⟩:=h;exact .free (fun M nb=>by simp [Core,hw]) rfl rfl
  | true =>
   simp only at h;cases hcall:o.kind.isCall with
   | true =>
    rw [hcall] at h;simp only [if_true] at h;obtain ⟨f,args,hcal,hcc⟩:=h
    match pc,hcc with
    | 0,hcc=>exact .call f args hw hcall hcal (by omega) hcc
    | 1,hcc=>exact .call f args hw hcall hcal (by omega) hcc
    | n+2,hcc =>
     by_cases hn8:n<8
     ·have hcc:(if n<8 then _ else _):=hcc;rw [if_pos hn8] at hcc;obtain ⟨h1,h2,h3⟩:=hcc;exact .free (fun M nb=>by simp only [Core,hw,hcall,if_true];exact ⟨f,args,hcal,(by show (if n<8 then _ else _);grind)⟩) h2 h3
     ·exact .call f args hw hcall hcal (by omega) hcc
   | false =>
    rw [hcall] at h;simp only [Bool.false_eq_true,if_false] at h;cases hn:o.kind.isNil with
    | true=>rw [hn] at h;simp at h
    | false =>
     rw [hn] at h;simp only [Bool.false_eq_true,if_false] at h;obtain ⟨h1,h2⟩:=h;by_cases he:o.kind.eff = .pure
     ·obtain ⟨k1,k2⟩:=Q8i he h1;exact .free (fun M nb=>by simp [Core,hw,hcall,hn,k2]) k1 h2
     ·exact .op hw hcall hn he h1 h2
theorem Q24 {o:COp} {s:Sl} (hw:o.wanted s=some true) (hc:o.kind.isCall=false) (hn:o.kind.isNil=false) {M:Mem} {nb:Nat} {v:V} {M' : Mem} (h:Qk n0 (n0+o.dst.getD 0) o.kind (o.xs s) M=some (v,M')):Core C n0 pc o s M nb v M' nb:=by
 simp [Core,hw,hc,hn,h]
structure Qbac (n0 nb:Nat) (o:COp) (s:Sl) (M:Mem):Prop where
 xs:V.ons (fun k=>(M k).isSome=true) (o.xs s)
 key:n0+o.dst.getD 0<nb
 low:∀ k,(M k).isSome=true→k<nb
theorem Qq1 {a b:COp} {s:Sl} {M M1 M2:Mem} {nb nb1 nb2:Nat} {va vb:V} (hf:Free C n0 pc a s va∧M1=M∧nb1=nb∨Free C n0 pc b s vb∧M2=M1∧nb2=nb1)
  (ha:Core C n0 pc a s M nb va M1 nb1) (hb:Core C n0 pc b s M1 nb1 vb M2 nb2) :
  ∃ M1' nb1',Core C n0 pc b s M nb vb M1' nb1'∧Core C n0 pc a s M1' nb1' va M2 nb2:=by
 rcases hf with ⟨hf,rfl,rfl⟩|⟨hf,rfl,rfl⟩
 ·exact ⟨M2,nb2,hb,hf _ _⟩
 ·exact ⟨M,nb,hf _ _,ha⟩
theorem Qvw {o:COp} (hc:o.kind.isCall=false):o.eff pc=o.kind.eff∨(o.eff pc = .other):=by
 unfold COp.eff;cases hk:o.kind<;>simp_all [K.eff,K.isCall]<;>(cases o.dst<;>simp)
theorem Qbad {o:COp} (h:o.eff pc = .alloc):o.kind.eff = .alloc∧o.dst.isSome=true:=by
 grind [COp.eff,absurd]
theorem Qy9 {o:COp} (hc:o.kind.isCall=true) (hpc:pc≤1∨10≤pc):o.eff pc = .call∧(pc=1∨10≤pc∧wrs (pc-10) o.dst≠true)∨o.eff pc = .gen∨o.eff pc = .callw∧10≤pc:=by
 unfold COp.eff;have:o.kind.eff = .call:=by cases hk:o.kind<;>simp_all [K.eff,K.isCall]
 grind
theorem Qfy {M W:Mem} (h:∀ k,W k=none):M.patch W=M:=by
 funext k;simp [Mem.patch,h k]
theorem CallStp.over {d:Option Nat} {f:FuncId} {args:List V} {M:Mem} {nb:Nat} {r:V} {M' : Mem} {nb' : Nat} (hpc:pc=1∨10≤pc):CallStp C n0 pc d f args M nb r M' nb' ↔
  ∃ W Δ,(10≤pc∧wrs (pc-10) d=true∨∀ k,W k=none)∧(∀ k,(W k).isSome=true→(M k).isSome=true)∧(∀ k cs,k<n0→W k=some (.cells cs)→V.lt.go n0 cs=true) ∧
   (∀ M2:Mem,(∀ k,(M k).isSome=true→M2 k=M k)→(∀ k,nb≤k→M2 k=none)→C f args M2 nb r ((M2.patch W).over nb Δ) nb')∧M'=(M.patch W).over nb Δ:=by
 rcases hpc with rfl|h10
 ·constructor
  ·rintro ⟨Δ,h1,h2⟩;exact ⟨fun _=>none,Δ,.inr fun _=>rfl,by simp,by simp,by simpa only [Qfy (fun _=>rfl)] using h1,by simpa only [Qfy (fun _=>rfl)] using h2⟩
  ·rintro ⟨W,Δ,h0,_,_,h1,h2⟩;have h0:∀ k,W k=none:=by
    grind
   exact ⟨Δ,by simpa only [Qfy h0] using h1,by simpa only [Qfy h0] using h2⟩
 ·obtain ⟨n,rfl⟩ : ∃ n,pc=n+2:=⟨pc-2,by omega⟩;have hn8:¬ n<8:=by omega
  have he:n+2-10=n-8:=by omega
  show (if n<8 then _ else _)↔_
  grind
theorem Qpm {o:COp} {s:Sl} {p:Nat} {rest:List Arg} (hargs:o.args = .t p::rest) {k off:Nat} {xs:List V} (h:o.xs s = .ptr k off::xs):s p = .ptr k off:=by
 unfold COp.xs at h;rw [hargs] at h;split at h
 ·grind [Arg.val,List.cons.injEq]
 ·simp only [List.map_cons,Arg.val,V.dems,List.cons.injEq] at h;have:=h.1;cases hv:s p<;>rw [hv] at this<;>simp_all [V.dem]
theorem Q7f {o:COp} {s:Sl} {q:Nat} {rest:List Arg} (hargs:o.args = .t q::rest) {sz k off len cap:Nat} {xs:List V} (h:o.xs s = .sl sz k off len cap::xs):s q = .sl sz k off len cap:=by
 unfold COp.xs at h;rw [hargs] at h;split at h
 ·grind [Arg.val,List.cons.injEq]
 ·simp only [List.map_cons,Arg.val,V.dems,List.cons.injEq] at h;have:=h.1;cases hv:s q<;>rw [hv] at this<;>simp_all [V.dem]
theorem Qbae {a b:COp} {ps:List Pair} (hcm:Qph pc a b=some ps) {s:Sl} {M M1 M2:Mem} {nb nb1 nb2:Nat} {va vb:V} (hsa:Qbac n0 nb a s M) (hsb:Qbac n0 nb b s M)
  (hap:∀ p∈ps,Qi5 (s p.a) p.n (s p.b) p.m=true) (ha:Core C n0 pc a s M nb va M1 nb1) (hb:Core C n0 pc b s M1 nb1 vb M2 nb2) :
  ∃ M1' nb1',Core C n0 pc b s M nb vb M1' nb1'∧Core C n0 pc a s M1' nb1' va M2 nb2:=by
 have hsl:a.slotsApart b=true:=by
  grind [Qph]
 unfold Qph at hcm;rw [if_pos hsl] at hcm;rcases ha.does with ⟨hf,h1,h2⟩|⟨hwa,hca,hna,hea,hra,h2a⟩|⟨f,args,hwa,hca,hcala,hpca,hcc⟩
 ·exact Qq1 (.inl ⟨hf,h1,h2⟩) ha hb
 ·rcases hb.does with ⟨hf,h1,h2⟩|⟨hwb,hcb,hnb,heb,hrb,h2b⟩|⟨f,args,hwb,hcb,hcalb,hpcb,hcc⟩
  ·exact Qq1 (.inr ⟨hf,h1,h2⟩) ha hb
  ·subst h2a h2b;have fin:∀ M1',Qk n0 (n0+b.dst.getD 0) b.kind (b.xs s) M=some (vb,M1')→Qk n0 (n0+a.dst.getD 0) a.kind (a.xs s) M1'=some (va,M2) →
     ∃ M1' nb1',Core C n0 pc b s M nb2 vb M1' nb1'∧Core C n0 pc a s M1' nb1' va M2 nb2:=fun M1' h1 h2=>⟨M1',nb2,Q24 hwb hcb hnb h1,Q24 hwa hca hna h2⟩
   have pa:a.eff pc ≠ .pure:=by
    grind [Qvw]
   have pb:b.eff pc ≠ .pure:=by
    grind [Qvw]
   have ka:∀ e,a.eff pc=e→e ≠ .other→a.kind.eff=e:=fun e h h'=>by
    grind [Qvw,absurd]
   have kb:∀ e,b.eff pc=e→e ≠ .other→b.kind.eff=e:=fun e h h'=>by
    grind [Qvw,absurd]
   cases ea:a.eff pc<;>cases eb:b.eff pc<;>rw [ea,eb] at hcm<;>(try (simp at hcm;done))<;>(try (exact absurd ea pa))<;>(try (exact absurd eb pb))
   all_goals first
    | (exfalso;have:=ka _ ea (by simp);have hx:=hca;revert this hx;cases a.kind<;>simp [K.eff,K.isCall];done)
    | (exfalso;have:=kb _ eb (by simp);have hx:=hcb;revert this hx;cases b.kind<;>simp [K.eff,K.isCall];done)
    | skip
   ·obtain ⟨rfl,_⟩:=Qgg (ka _ ea (by simp)) hra;obtain ⟨rfl,_⟩:=Qgg (kb _ eb (by simp)) hrb;exact fin _ hrb hra
   ·obtain ⟨rfl,h1⟩:=Qgg (ka _ ea (by simp)) hra;obtain ⟨h2,bx,rfl,h3⟩:=Qif (kb _ eb (by simp)) hrb;exact fin _ hrb (h1 _ _ (Q0d bx (fun _ h=>h) h2).1 hsa.xs)
   ·obtain ⟨rfl,h1⟩:=Qgg (ka _ ea (by simp)) hra;have kt:b.kind = .loadT:=by have:=kb _ eb (by simp);revert this;cases b.kind<;>simp [K.eff]
    rw [kt] at hrb;obtain ⟨k,off,cs,x,hx1,hx2,hx3,hx4,rfl⟩:=Qpf hrb;rw [← kt] at hrb;exact fin _ hrb (h1 _ _ (Q1x hx2 hx3 _).1 hsa.xs)
   ·obtain ⟨rfl,h1⟩:=Qgg (ka _ ea (by simp)) hra;obtain ⟨n',kt⟩ : ∃ n',b.kind = .store n':=by have:=kb _ eb (by simp);revert this;cases b.kind<;>simp [K.eff]
    have hrb0:=hrb;rw [kt] at hrb;obtain ⟨k',off',x,cs,hx1,hx2,hx3,hx4,rfl,rfl⟩:=Qv9 hrb;simp only at hcm;split at hcm<;>try (cases hcm;done)
    rename_i p n q m hpa hpb;cases hcm;have hap':=hap ⟨p,n,q,m⟩ (by simp);simp only at hap';unfold COp.place at hpb;split at hpb<;>(try (cases hpb;done))
    ·grind
    ·grind
    rename_i n0' q' xb hk hargs;rw [kt] at hk;cases hk;cases hpb;rw [Qpm hargs hx1] at hap';unfold COp.place at hpa;split at hpa<;>(try (cases hpa;done))
    ·rename_i ag nl p' hka hargsa;cases hpa;refine fin _ (by rw [kt];exact hrb) ?_;have hxa:∃ pv,a.xs s=[pv]:=by
      grind [COp.xs,Arg.val,V.dems]
     obtain ⟨pv,hpv⟩:=hxa;rw [hka,hpv] at hra h1 ⊢;cases pv with
     | ptr k off =>
      rw [Qpm hargsa hpv] at hap';exact Q8j hra hx2 hx3 hx4 hap'
     | cref cs'=>exact h1 (fun _=>False) _ (fun _ h=>h.elim) (by simp [V.ons,V.on])
     | _=>simp [Qk] at hra
    all_goals grind [COp.eff,K.eff]
   ·obtain ⟨rfl,h1⟩:=Qgg (ka _ ea (by simp)) hra;obtain ⟨kd,z,kt⟩ : ∃ kd z,b.kind = .lookupT kd z:=by have:=kb _ eb (by simp);revert this;cases b.kind<;>simp [K.eff]
    have hrb0:=hrb;rw [kt] at hrb;obtain ⟨k,key,bx,hx1,hx2,⟨b',rfl,hag,_⟩|⟨rfl,_⟩⟩:=Qot hrb
    ·exact fin _ hrb0 (h1 _ _ (hag _).1 hsa.xs)
    ·exact fin _ hrb0 hra
   ·obtain ⟨h2,bx,rfl,h3⟩:=Qif (ka _ ea (by simp)) hra;obtain ⟨rfl,h1⟩:=Qgg (kb _ eb (by simp)) hrb;exact fin _ (h1 _ _ (Q0d bx (fun _ h=>h) h2).2 hsb.xs) hra
   ·obtain ⟨h2,bx,rfl,h3⟩:=Qif (ka _ ea (by simp)) hra;obtain ⟨h4,by',rfl,h5⟩:=Qif (kb _ eb (by simp)) hrb;have hne:n0+a.dst.getD 0≠n0+b.dst.getD 0:=by
     grind [Qht]
    simp_all [Qcu,Ne.symm,Qsk]
   ·obtain ⟨h2,bx,rfl,h3⟩:=Qif (ka _ ea (by simp)) hra;have kt:b.kind = .loadT:=by have:=kb _ eb (by simp);revert this;cases b.kind<;>simp [K.eff]
    rw [kt] at hrb;obtain ⟨k,off,cs,x,hx1,hx2,hx3,rfl,rfl⟩:=Qpf hrb;have hk:(M k).isSome=true:=by have:=hsb.xs;rw [hx1] at this;exact this.1
    have hne:k≠n0+a.dst.getD 0:=fun e=>by grind
    rw [Qcu _ _ hne] at hx2;refine fin _ (by rw [kt,hx1];exact Qrm hx2 hx3) ?_;rw [Qsk _ _ _ (Ne.symm hne)];exact h3 _ (by rw [Qcu _ _ (Ne.symm hne)];exact h2)
   ·obtain ⟨h2,bx,rfl,h3⟩:=Qif (ka _ ea (by simp)) hra;obtain ⟨kd,z,kt⟩ : ∃ kd z,b.kind = .lookupT kd z:=by have:=kb _ eb (by simp);revert this;cases b.kind<;>simp [K.eff]
    rw [kt] at hrb;obtain ⟨k,key,bk,hx1,hx2,hres⟩:=Qot hrb;have hk:(M k).isSome=true:=by have:=hsb.xs;rw [hx1] at this;exact this.1
    have hne:k≠n0+a.dst.getD 0:=fun e=>by grind
    rw [Qcu _ _ hne] at hx2;rcases hres with ⟨b',rfl,_,hag⟩|⟨rfl,hag⟩
    ·refine fin _ (by rw [kt];exact hag M hx2) ?_;rw [Qsk _ _ _ (Ne.symm hne)];exact h3 _ (by rw [Qcu _ _ (Ne.symm hne)];exact h2)
    grind
   ·have kt:a.kind = .loadT:=by have:=ka _ ea (by simp);revert this;cases a.kind<;>simp [K.eff]
    have hra0:=hra;rw [kt] at hra;obtain ⟨k,off,cs,x,hx1,hx2,hx3,hx4,rfl⟩:=Qpf hra;obtain ⟨rfl,h1⟩:=Qgg (kb _ eb (by simp)) hrb;exact fin _ (h1 _ _ (Q1x hx2 hx3 _).2 hsb.xs) hra0
   ·have kt:a.kind = .loadT:=by have:=ka _ ea (by simp);revert this;cases a.kind<;>simp [K.eff]
    rw [kt] at hra;obtain ⟨k,off,cs,x,hx1,hx2,hx3,rfl,rfl⟩:=Qpf hra;obtain ⟨h2,bx,rfl,h3⟩:=Qif (kb _ eb (by simp)) hrb;have hne:k≠n0+b.dst.getD 0:=fun e=>by rw [e,Qht] at h2;cases h2
    simp_all [Qcu,Ne.symm,Qsk,Qrm]
   ·have kt:a.kind = .loadT:=by have:=ka _ ea (by simp);revert this;cases a.kind<;>simp [K.eff]
    have kt' : b.kind = .loadT:=by have:=kb _ eb (by simp);revert this;cases b.kind<;>simp [K.eff]
    rw [kt] at hra;rw [kt'] at hrb;obtain ⟨k,off,cs,x,hx1,hx2,hx3,rfl,rfl⟩:=Qpf hra;obtain ⟨k',off',cs',x',hy1,hy2,hy3,rfl,rfl⟩:=Qpf hrb;simp only at hcm;split at hcm<;>try (cases hcm;done)
    rename_i p n q m hpa hpb;cases hcm;have hap':=hap ⟨p,n,q,m⟩ (by simp);simp only at hap';obtain ⟨rfl,hsp⟩ : n=1∧s p = .ptr k off:=by
     unfold COp.place at hpa;split at hpa<;>(try (cases hpa;done))
     ·grind
     ·rename_i hargs;cases hpa;exact ⟨rfl,Qpm hargs hx1⟩
     grind
    obtain ⟨rfl,hsq⟩ : m=1∧s q = .ptr k' off':=by
     unfold COp.place at hpb;split at hpb<;>(try (cases hpb;done))
     ·grind
     ·rename_i hargs;cases hpb;exact ⟨rfl,Qpm hargs hy1⟩
     grind
    rw [hsp,hsq] at hap';by_cases hkk:k'=k
    ·grind [Qi5,Qht,List.getElem?_set_ne,Qrm,Qbaa,List.set_comm]
    ·rw [Qcu _ _ hkk] at hy2;refine fin (M.put k' (.cells (cs'.set off' x'.dem))) (by grind [Qrm]) ?_;rw [kt,hx1,Qsk _ _ _ (Ne.symm hkk)];exact Qrm (by rw [Qcu _ _ (Ne.symm hkk)];exact hx2) hx3
   ·obtain ⟨kd,z,kt⟩ : ∃ kd z,a.kind = .lookupT kd z:=by have:=ka _ ea (by simp);revert this;cases a.kind<;>simp [K.eff]
    have hra0:=hra;rw [kt] at hra;obtain ⟨rfl,h1⟩:=Qgg (kb _ eb (by simp)) hrb;obtain ⟨k,key,bx,hx1,hx2,⟨b',rfl,hag,_⟩|⟨rfl,_⟩⟩:=Qot hra
    ·exact fin _ (h1 _ _ (hag _).2 hsb.xs) hra0
    ·exact fin _ hrb hra0
   ·obtain ⟨kd,z,kt⟩ : ∃ kd z,a.kind = .lookupT kd z:=by have:=ka _ ea (by simp);revert this;cases a.kind<;>simp [K.eff]
    rw [kt] at hra;obtain ⟨k,key,bk,hx1,hx2,hres⟩:=Qot hra;obtain ⟨h2,bx,rfl,h3⟩:=Qif (kb _ eb (by simp)) hrb;rcases hres with ⟨b',rfl,_,hag⟩|⟨rfl,hag⟩
    ·have hne:k≠n0+b.dst.getD 0:=fun e=>by rw [e,Qht] at h2;cases h2
     simp_all [Qcu,Ne.symm,Qsk]
    grind [Qcu]
   ·obtain ⟨sz,bytes,kt⟩ : ∃ sz bytes,a.kind = .appw sz bytes:=by have:=ka _ ea (by simp);revert this;cases a.kind<;>simp [K.eff]
    have hra0:=hra;rw [kt] at hra;obtain ⟨s1,x,hx1,_,k,f,rfl,hf,hmv⟩:=Q7e hra;obtain ⟨rfl,h1⟩:=Qgg (kb _ eb (by simp)) hrb;simp only at hcm;split at hcm<;>try (cases hcm;done)
    rename_i q xx p m hargs hpb;cases hcm;have hap1:=hap ⟨q,0,p,m⟩ (by simp);simp only at hap1;rcases hf with rfl|⟨⟨sz',off,len,cap,rfl⟩,bx,rfl⟩
    ·exact fin _ hrb hra0
    ·rw [Q7f hargs hx1] at hap1;unfold COp.place at hpb;split at hpb<;>(try (cases hpb;done))
     ·rename_i ag nl p' hkb hargsb;cases hpb;have hxb:∃ pv,b.xs s=[pv]:=by
       grind [COp.xs,Arg.val,V.dems]
      obtain ⟨pv,hpv⟩:=hxb;cases pv with
      | ptr k' off' =>
       rw [Qpm hargsb hpv] at hap1;have hne:k' ≠ k:=by simpa only [Qi5,decide_eq_true_eq] using hap1
       exact fin _ (h1 (fun j=>j=k') M (fun j hj=>by grind [Bx.dm,Qcu]) (by rw [hpv];exact ⟨rfl,trivial⟩)) hra0
      | cref cs'=>exact fin _ (h1 (fun _=>False) M (fun _ h=>h.elim) (by rw [hpv];simp [V.ons,V.on])) hra0
      | _=>rw [hkb,hpv] at hrb;simp [Qk] at hrb
     all_goals grind [COp.eff,K.eff]
   ·obtain ⟨sz,bytes,kt⟩ : ∃ sz bytes,a.kind = .appw sz bytes:=by have:=ka _ ea (by simp);revert this;cases a.kind<;>simp [K.eff]
    obtain ⟨n',kt'⟩ : ∃ n',b.kind = .store n':=by have:=kb _ eb (by simp);revert this;cases b.kind<;>simp [K.eff]
    rw [kt] at hra;obtain ⟨s1,x,hx1,⟨ys,hys⟩,k,f,rfl,hf,hmv⟩:=Q7e hra;rw [kt'] at hrb;obtain ⟨k',off',y,cs,hy1,hy2,_⟩:=Qv9 hrb;simp only at hcm;split at hcm<;>try (cases hcm;done)
    rename_i q xx p m hargs hpb;cases hcm;have hap1:=hap ⟨q,0,p,m⟩ (by simp);have hap2:=hap ⟨xx,0,p,m⟩ (by simp);simp only at hap1 hap2;unfold COp.place at hpb;split at hpb<;>(try (cases hpb;done))
    ·grind
    ·grind
    rename_i n0' q' xb hk hargsb;cases hpb;rw [Qpm hargsb hy1] at hap2;have hne:(∃ sz' off len cap,s1 = .sl sz' k off len cap)→k' ≠ k:=by
     rintro ⟨sz',off,len,cap,rfl⟩;rw [Q7f hargs hx1,Qpm hargsb hy1] at hap1;simpa only [Qi5,decide_eq_true_eq] using hap1
    have hxon:x.on (· ≠ k'):=by
     have hx2:x.dem=(s xx).dem:=by
      grind [COp.xs,Arg.val,List.cons.injEq,V.dems,Qef]
     cases x<;>simp only [Qe4] at hys<;>(try (cases hys;done))<;>(try trivial);rename_i sz2 j o2 l2 c2;have:s xx = .sl sz2 j o2 l2 c2:=by
      cases hv:s xx<;>rw [hv] at hx2<;>simp_all [V.dem]
     rw [this] at hap2;simp only [Qi5,decide_eq_true_eq] at hap2;exact fun e=>hap2 e.symm
    rw [hy1] at hrb;have hMk:M k'=(f M) k':=by
     rcases hf with rfl|⟨hsl,bx,rfl⟩
     all_goals simp_all [Qcu]
    obtain ⟨bx,rfl,hst⟩:=Q57 hrb hMk;refine fin (M.put k' bx) (by rw [kt',hy1];exact hst) ?_;rw [kt,hmv k' bx hne hxon];congr 2;rcases hf with rfl|⟨hsl,by',rfl⟩
    all_goals grind [Qsk]
  ·rcases Qy9 hcb hpcb with ⟨eb,hp1⟩|eb|⟨eb,_⟩
   ·cases ea:a.eff pc<;>rw [ea,eb] at hcm<;>(try (simp at hcm;done))
    ·grind [Qvw,absurd]
    ·have ka:a.kind.eff = .read:=by grind [Qvw]
     obtain ⟨rfl,h1⟩:=Qgg ka hra;subst h2a;have hcc0:=hcc;obtain ⟨W,Δ,h0,hW,hW2,hcc1,rfl⟩:=(CallStp.over (hp1.imp id (·.1))).1 hcc;have h0:∀ k,W k=none:=by
      grind
     refine ⟨(M1.patch W).over nb1 Δ,nb2,?_,?_⟩
     ·grind
     ·simp only [Core,hwa,hca,hna,Bool.false_eq_true,if_false];exact ⟨h1 (fun k=>(M1 k).isSome=true) _ (fun k hk=>by simp only [Mem.over,hsa.low k hk,if_true,Qfy h0]) hsa.xs,trivial⟩
   all_goals grind [Qvw,absurd]
 ·rcases hb.does with ⟨hf,h1,h2⟩|⟨hwb,hcb,hnb,heb,hrb,h2b⟩|⟨f',args',hwb,hcb,hcalb,hpcb,hcc'⟩
  ·exact Qq1 (.inr ⟨hf,h1,h2⟩) ha hb
  ·subst h2b;have over:(pc=1∨10≤pc)→b.eff pc = .alloc→∃ M1' nb1',Core C n0 pc b s M nb vb M1' nb1'∧Core C n0 pc a s M1' nb1' va M2 nb2:=by
    intro hp1 eb;obtain ⟨W,Δ,h0,hW,hW2,hcc1,rfl⟩:=(CallStp.over hp1).1 hcc;obtain ⟨kb,_⟩:=Qbad eb;obtain ⟨h1,bx,rfl,h3⟩:=Qif kb hrb;have hlt:n0+b.dst.getD 0<nb:=hsb.key;have hMW:W (n0+b.dst.getD 0)=none∧M (n0+b.dst.getD 0)=none:=by
     simp only [Mem.over,hlt,if_true,Mem.patch] at h1
     grind
    obtain ⟨hWn,hM⟩:=hMW;refine ⟨_,nb,Q24 hwb hcb hnb (h3 M hM),?_⟩;simp only [Core,hwa,hca,if_true];refine ⟨f,args,hcala,(CallStp.over hp1).2 ⟨W,Δ,h0,fun k hk=>?_,hW2,fun M2 h4 h5=>hcc1 M2 (fun k hk=>?_) h5,?_⟩⟩
    ·grind [Mem.put]
    ·have hne:k≠n0+b.dst.getD 0:=fun e=>by rw [e,hM] at hk;cases hk
     grind [Qcu]
    ·funext k;simp only [Mem.over,Mem.put,Mem.patch];by_cases hk:k=n0+b.dst.getD 0
     ·subst hk;simp [hlt,hWn]
     ·simp [hk]
   rcases Qy9 hca hpca with ⟨ea,hp1⟩|ea|⟨ea,hp1⟩
   ·cases eb:b.eff pc<;>(try (rw [ea,eb] at hcm;simp at hcm;done))
    ·rcases Qvw (pc:=pc) hcb with h|h<;>rw [eb] at h
     ·exact absurd h.symm heb
     ·cases h
    ·have kb:b.kind.eff = .read:=by rcases Qvw (pc:=pc) hcb with h|h<;>rw [eb] at h;exact h.symm;cases h
     obtain ⟨rfl,h1⟩:=Qgg kb hrb;obtain ⟨W,Δ,h0,hW,hW2,hcc1,rfl⟩:=(CallStp.over (hp1.imp id (·.1))).1 hcc;have h0:∀ k,W k=none:=by
      rcases h0 with ⟨h,h'⟩|h
      ·rcases hp1 with h2|⟨_,h2⟩
       ·omega
       ·exact absurd h' h2
      ·exact h
     refine ⟨M,nb,Q24 hwb hcb hnb (h1 (fun k=>(M k).isSome=true) _ (fun k hk=>by simp only [Mem.over,hsb.low k hk,if_true,Qfy h0]) hsb.xs),ha⟩
    ·exact over (hp1.imp id (·.1)) eb
   all_goals grind [Qvw,absurd]
  ·rcases Qy9 hca hpca with ⟨ea,_⟩|ea|⟨ea,_⟩<;>rcases Qy9 hcb hpcb with ⟨eb,_⟩|eb|⟨eb,_⟩<;>rw [ea,eb] at hcm<;>simp at hcm
end Go.Abs
end
section
namespace Go.Abs
open Go
def Q25 (C:Ctx) (n0 pc:Nat):List COp→St→St→Prop
 | [],σ,σ'=>σ'=σ
 | o::os,σ,σ'=>∃ σ1,Stp C n0 pc o σ σ1∧Q25 C n0 pc os σ1 σ'
theorem Q4e {C:Ctx} {n0 pc:Nat}:∀ {os:List COp} {σ:St} {Q:St→Prop},(∀ o∈os,o.kind.isNil=false)→Q3v C n0 pc os σ Q→∃ σ',Q25 C n0 pc os σ σ'∧Q σ'
 | [],σ,Q,_,h=>⟨σ,rfl,h⟩
 | o::os,σ,Q,hn,h=>by
  obtain ⟨σ1,h1,h2⟩:=Qber (hn o (by simp)) h;obtain ⟨σ',h3,h4⟩:=Q4e (fun o ho=>hn o (by simp [ho])) h2;exact ⟨σ',⟨σ1,h1,h3⟩,h4⟩
theorem Alike.symm {o:COp} {s s' : Sl} (h:Alike o s s'):Alike o s' s:=by
 refine ⟨fun t w hg=>(h.1 t w hg).symm,fun a ha=>?_⟩;have:=h.2 a ha
 grind
theorem Q1y (x y:V) (n m:Nat):Qi5 x.dem n y m=Qi5 x n y m:=by
 cases x<;>first|rfl|(cases y<;>rfl)
theorem Q0e (x y:V) (n m:Nat):Qi5 x n y.dem m=Qi5 x n y m:=by
 cases y<;>first|rfl|(cases x<;>rfl)
theorem Q4f {x x' y y' : V} {n m:Nat} (hx:x'.dem=x.dem) (hy:y'.dem=y.dem):Qi5 x' n y' m=Qi5 x n y m:=by
 rw [← Q1y x',← Q1y x,hx,← Q0e _ y',← Q0e _ y,hy]
theorem Qbeu {C:Ctx} {n0 pc:Nat} {o:COp} {σ σ' : St} (h:Stp C n0 pc o σ σ') {t:Nat} (ht:o.dst≠some t):(σ'.s t).dem=(σ.s t).dem:=by
 obtain ⟨v,_,hs⟩:=h;rw [hs];have:Qbf (Q5 σ.s o.args (pv o σ.s)) o.dst v t=Q5 σ.s o.args (pv o σ.s) t:=by
  cases hd:o.dst with
  | none=>rfl
  | some d =>
   have:t≠d:=fun e=>ht (by rw [hd,e]);simp [Qbf,Sl.put,this]
 grind [Qz8,Q98]
theorem Q4g {C:Ctx} {n0 pc:Nat}:∀ {os:List COp} {σ σ' : St},Q25 C n0 pc os σ σ'→∀ {t:Nat},(∀ o∈os,o.dst≠some t)→(σ'.s t).dem=(σ.s t).dem
 | [],σ,σ',h,t,_=>by rw [show σ'=σ from h]
 | o::os,σ,σ',⟨σ1,h1,h2⟩,t,ht=>(Q4g h2 fun o ho=>ht o (by simp [ho])).trans (Qbeu h1 (ht o (by simp)))
theorem Qbco {C:Ctx} {n0 pc:Nat} {a b:COp} {ps:List Pair} (hcm:Qph pc a b=some ps) {σ σ1 σ2:St} (hsa:Qbac n0 σ.nb a σ.s σ.M) (hsb:Qbac n0 σ.nb b σ.s σ.M)
  (hap:∀ p∈ps,Qi5 (σ.s p.a) p.n (σ.s p.b) p.m=true) (ha:Stp C n0 pc a σ σ1) (hb:Stp C n0 pc b σ1 σ2):∃ σ1',Stp C n0 pc b σ σ1'∧Stp C n0 pc a σ1' σ2:=by
 have hsl:a.slotsApart b=true:=by
  grind [Qph]
 obtain ⟨va,hca,hs1⟩:=ha;obtain ⟨vb,hcb,hs2⟩:=hb;obtain ⟨k1,k2,k3⟩:=Q8h hsl σ.s va vb;rw [← hs1] at k1 k3;obtain ⟨M1',nb1',h1,h2⟩:=Qbae hcm hsa hsb hap hca (k1.symm.core hcb);refine ⟨⟨_,M1',nb1'⟩,⟨vb,h1,rfl⟩,va,k2.core h2,?_⟩;rw [hs2];exact k3
section
variable {P:Program} {C:Ctx} {n0 nt:Nat} {g0:G} {w0:World}
def Real (n0 nt:Nat) (g0:G) (w0:World) (σ:St):Prop:=∃ a w g,SR n0 nt g0 w0 σ a w g
theorem Qbev {o:Oper} {a:Act} {w:World} {KK:Act→World→Prop} (h:o.wp P a w KK fun _ _ _=>False):∃ a' w',KK a' w':=by
 unfold Oper.wp at h;generalize (execOp a.eval o).run P w=r at h;cases r with
 | ok n w' =>
  cases n with
  | value v=>exact ⟨_,_,h⟩
  | skip=>exact ⟨_,_,h⟩
  | defer d=>exact ⟨_,_,h⟩
  | enter f args =>
   obtain ⟨e,w2,fr,h1,_⟩:=(h:Calls P f args w' _) [];cases e with
   | returned v=>exact ⟨_,_,h1⟩
   | panicked c=>exact h1.elim
   | outgrown=>obtain ⟨_,_,h⟩:=h1;exact h.elim
  | row row args =>
   obtain ⟨v,w2,h1,_⟩:=(h:Rows P row args w' _) (Frame.enter P 0 #[] .normal) [];exact ⟨_,_,h1⟩
  | _=>exact h.elim
 | halt x w'=>cases x<;>exact h.elim
theorem Real.step (hC:Q93 P C) {T:Tk} {ops:Array Oper} {o:Oper} {c:COp} (hc:Qkd P T nt ops o=some c) {pc:Nat} {σ σ' : St} (h:Real n0 nt g0 w0 σ) (hs:Stp C n0 pc c σ σ'):Real n0 nt g0 w0 σ':=by
 obtain ⟨a,w,g,hsr⟩:=h;have:=Q21 (QQ:=fun _ _ _=>False) hC hc hsr (Q95 (Q:=(· = σ')) hs rfl) (KK:=fun _ _=>Real n0 nt g0 w0 σ') fun σ2 a' w' g' hq hs'=>by subst hq;exact ⟨_,_,_,hs'⟩
 grind [Qbev]
theorem Qyu {T:Tk} {ops:Array Oper} {o:Oper} {c:COp} (hc:Qkd P T nt ops o=some c) {σ:St} (h:Real n0 nt g0 w0 σ):Qbac n0 σ.nb c σ.s σ.M:=by
 obtain ⟨a,w,g,hsr⟩:=h;obtain ⟨hdst,hd⟩:=Q1w hc;have hc':=hc;unfold Qkd at hc;split at hc<;>try (cases hc;done)
 rename_i k as tk hk;split at hc<;>try (cases hc;done)
 rename_i hcond;simp only [Bool.and_eq_true,decide_eq_true_eq,List.all_eq_true] at hcond;have hargs:c.args=as:=by
  grind
 have hons:V.ons (There σ.M) (c.args.map (·.val σ.s)):=by
  rw [Qiw];intro v hv;obtain ⟨x,hx,rfl⟩:=List.mem_map.1 hv;cases x with
  | t i=>exact hsr.onS i
  | c v =>
   have h1:=hcond.2 _ (hargs ▸ hx);simp only [Qbfq] at h1;exact Qgj (fun k hk=>absurd hk (Nat.not_lt_zero k)) v (Qbb6 v h1)
 refine ⟨?_,?_,fun k hk=>?_⟩
 ·show V.ons (There σ.M) _
  grind [COp.xs,ons_dems]
 ·have ht:=hsr.top;cases hd' : c.dst with
  | none=>grind
  | some d=>grind
 ·obtain ⟨b,hb⟩:=Option.isSome_iff_exists.1 hk;exact (hsr.mem.box k b hb).1
theorem Q8k (hC:Q93 P C) {T:Tk} {ops:Array Oper} {pc:Nat} {b:COp} {post:List COp} {σe:St} (hb:∃ o,Qkd P T nt ops o=some b) :
  ∀ (pre:List COp) (σ:St),(∀ c∈pre,∃ o,Qkd P T nt ops o=some c) →
  (∀ (pre1:List COp) a pre2,pre=pre1++a::pre2→∃ ps,Qph pc a b=some ps∧∀ p∈ps,Qi5 (σe.s p.a) p.n (σe.s p.b) p.m=true∧∀ c∈(a::pre2)++b::post,c.dst≠some p.a∧c.dst≠some p.b) →
  Real n0 nt g0 w0 σ→Q25 C n0 pc (pre++b::post) σ σe→Q25 C n0 pc (b::(pre++post)) σ σe:=by
 intro pre
 induction pre with
 | nil=>grind
 | cons a pre ih =>
  intro σ hc hcm hr h;obtain ⟨σ1,h1,h2⟩:=h;obtain ⟨o,ho⟩:=hc a (by simp);obtain ⟨σ2,h3,h4⟩:=ih σ1 (fun c hc'=>hc c (by simp [hc'])) (fun pre1 a' pre2 e=>hcm (a::pre1) a' pre2 (by rw [e];rfl)) (hr.step hC ho h1) h2;obtain ⟨ps,hp1,hp2⟩:=hcm [] a pre rfl;obtain ⟨ob,hob⟩:=hb;have hap:∀ p∈ps,Qi5 (σ.s p.a) p.n (σ.s p.b) p.m=true:=by
   intro p hp;obtain ⟨q1,q2⟩:=hp2 p hp;have hch:Q25 C n0 pc (a::(pre++b::post)) σ σe:=⟨σ1,h1,h2⟩
   grind [Q4f,Q4g]
  obtain ⟨σ1',k1,k2⟩:=Qbco hp1 (Qyu ho hr) (Qyu hob hr) hap h1 h3;exact ⟨σ1',k1,σ2,k2,h4⟩
theorem Q7g {ops:List Oper} (L:Nat→Prop) (hL:∀ (j:Nat) o,ops[j]? = some o→L j→∀ e∈Qtb o,L e) :
  ∀ (rest:List Oper) (acc:List Nat),acc.length+rest.length=ops.length→rest=ops.drop acc.length →
  (∀ (j:Nat) l o,acc[j]? = some l→ops[j]? = some o→(∀ e∈Qtb o,L e)→∀ x,l.testBit x=true→L x) →
  ∀ (j:Nat) l o,(rest.foldl (fun acc o=>acc++[(Qtb o).foldl (fun l e=>l ||| 2 ^ e ||| acc.getD e 0) 0]) acc)[j]? = some l→ops[j]? = some o→(∀ e∈Qtb o,L e)→∀ x,l.testBit x=true→L x
 | [],acc,_,_,hI=>hI
 | o::rest,acc,hlen,hrest,hI=>by
  simp only [List.foldl_cons];have hget:ops[acc.length]? = some o:=by
   have:(ops.drop acc.length)[0]? = some o:=by rw [← hrest];rfl
   simpa using this
  refine Q7g L hL rest _ (by simp at hlen ⊢;omega) ?_ ?_
  ·have:rest=(ops.drop acc.length).drop 1:=by rw [← hrest];rfl
   simp_all
  ·intro j l o' hj ho' hb;by_cases hlt:j<acc.length
   ·grind
   ·have hjl:j=acc.length:=by
     grind
    subst hjl;rw [List.getElem?_append_right (Nat.le_refl _),Nat.sub_self,List.getElem?_cons_zero,Option.some.injEq] at hj;rw [hget] at ho';cases ho';subst hj;have:∀ (es:List Nat) (l0:Nat),(∀ e∈es,L e)→(∀ x,l0.testBit x=true→L x)→∀ x,(es.foldl (fun l e=>l ||| 2 ^ e ||| acc.getD e 0) l0).testBit x=true→L x:=by
     intro es
     induction es with
     | nil=>intro l0 _ h;exact h
     | cons e es ih =>
      intro l0 h1 h2;simp only [List.foldl_cons];refine ih _ (fun e' he'=>h1 e' (by simp [he'])) fun x hx=>?_
      grind
    grind
theorem Qbaf {ops:List Oper} (L:Nat→Prop) (hL:∀ (j:Nat) o,ops[j]? = some o→L j→∀ e∈Qtb o,L e) {j:Nat} {o:Oper} (ho:ops[j]? = some o) (hb:∀ e∈Qtb o,L e):∀ x,((ancs ops).getD j 0).testBit x=true→L x:=by
 intro x hx;cases hj:(ancs ops)[j]? with
 | none=>grind
 | some l =>
  simp [List.getD,hj] at hx;exact Q7g L hL ops [] (by simp) (by simp) (by simp) j l o hj ho hb x hx
theorem Qza {α:Type} {l:List α} {i:Nat} {x:α}:(i,x)∈enum l↔l[i]? = some x:=by
 simp_all [enum,List.mem_iff_getElem?,List.getElem?_zip_eq_some,List.getElem?_eq_some_iff]
theorem Q4h {pc:Nat} {an:List Nat} {ops:List COp} {l:List Pair} (h:Qr9 pc an ops=some l) {i j:Nat} {a b:COp} (hi:ops[i]? = some a) (hj:ops[j]? = some b) (hij:i<j) (han:(an.getD j 0).testBit i=false) :
  ∃ m,Qph pc a b=some m∧m.all (Qu4 ops i (an.getD j 0))=true∧∀ p∈m,p∈l:=by
 unfold Qr9 at h;let inner:=fun (q:Nat×COp) (acc:Option (List Pair)) (r:Nat×COp)=>(match acc with
    | none=>none
    | some l=>if decide (q.1<r.1) && !(an.getD r.1 0).testBit q.1 then
      match Qph pc q.2 r.2 with
      | some m=>if m.all (Qu4 ops q.1 (an.getD r.1 0)) then some (l++m) else none
      | none=>none
     else some l:Option (List Pair))
 have hinner:∀ (q:Nat×COp) (rs:List (Nat×COp)) (acc:Option (List Pair)) (l:List Pair),rs.foldl (inner q) acc=some l→∃ l0,acc=some l0∧(∀ p∈l0,p∈l) ∧
   ∀ r∈rs,q.1<r.1→(an.getD r.1 0).testBit q.1=false→∃ m,Qph pc q.2 r.2=some m∧m.all (Qu4 ops q.1 (an.getD r.1 0))=true∧∀ p∈m,p∈l:=by
  intro q rs
  induction rs with
  | nil=>grind
  | cons r rs ih =>
   intro acc l h;simp only [List.foldl_cons] at h;obtain ⟨l1,h1,h2,h3⟩:=ih _ l h;cases acc with
   | none=>simp [inner] at h1
   | some l0 =>
    grind
 have houter:∀ (qs rs:List (Nat×COp)) (acc:Option (List Pair)) (l:List Pair),qs.foldl (fun acc q=>rs.foldl (inner q) acc) acc=some l→∃ l0,acc=some l0∧(∀ p∈l0,p∈l) ∧
   ∀ q∈qs,∀ r∈rs,q.1<r.1→(an.getD r.1 0).testBit q.1=false→∃ m,Qph pc q.2 r.2=some m∧m.all (Qu4 ops q.1 (an.getD r.1 0))=true∧∀ p∈m,p∈l:=by
  intro qs rs
  induction qs with
  | nil=>grind
  | cons q qs ih =>
   intro acc l h;simp only [List.foldl_cons] at h;obtain ⟨l1,h1,h2,h3⟩:=ih _ l h;obtain ⟨l0,h4,h5,h6⟩:=hinner q rs acc l1 h1
   grind
 obtain ⟨_,_,_,h3⟩:=houter (enum ops) (enum ops) (some []) l h;exact h3 (i,a) (Qza.2 hi) (j,b) (Qza.2 hj) hij han
end
end Go.Abs
end
section
namespace Go.Abs
open Go
instance:Inhabited COp:=⟨{ dst:=none,kind:=.mov,args:=[],tk:=false,guard:=none }⟩
theorem Q8l (e:Edge):Region.binds .any e=Qy5 e:=by
 grind [Go.Region.binds,Qy5]
def left (n:Nat) (listed:Array Bool):List Nat:=(List.range n).filter fun i=>!listed.getD i true
theorem Qzb {n:Nat} {listed:Array Bool} (hs:listed.size=n) {i:Nat}:i∈left n listed↔i<n∧listed.getD i false=false:=by
 unfold left
 grind
theorem Q4i {l:Array Bool} {x:Nat}:l.getD x false=true↔l[x]? = some true:=by
 rw [Array.getD_eq_getD_getElem?];cases l[x]? <;> simp
theorem Q0f (n:Nat) (listed:Array Bool):(left n listed).Pairwise (· < ·):=List.pairwise_lt_range.filter _
theorem Qbag {n:Nat} {listed:Array Bool} (hs:listed.size=n) {i:Nat} {l1 l2:List Nat} (h:left n listed=l1++i::l2):left n (listed.setIfInBounds i true)=l1++l2:=by
 have h1:left n (listed.setIfInBounds i true)=(left n listed).filter (· ≠ i):=by
  unfold left;rw [List.filter_filter];apply List.filter_congr;intro j hj;have hj' : j<listed.size:=by simp at hj;omega
  by_cases e:j=i
  all_goals simp_all [Array.getD,Array.getElem_setIfInBounds,Ne.symm]
 have hp:=Q0f n listed;rw [h] at hp;rw [h1,h,List.filter_append,List.filter_cons]
 grind [List.pairwise_cons,List.filter_eq_self]
mutual
theorem Q58:∀ v:V,v.on fun _=>True
 | .ptr ..=>trivial
 | .sl ..=>trivial
 | .mp _=>trivial
 | .agg cs=>ons_true cs
 | .tup cs=>ons_true cs
 | .clo _ cs=>ons_true cs
 | .und=>trivial
 | .d _=>trivial
 | .own ..=>trivial
 | .ownT ..=>trivial
 | .nilp=>trivial
 | .f _=>trivial
 | .nils _=>trivial
 | .cref _=>trivial
theorem ons_true:∀ vs:List V,V.ons (fun _=>True) vs
 | []=>trivial
 | v::vs=>⟨Q58 v,ons_true vs⟩
end
section
variable {P:Program} {C:Ctx} {n0 nt:Nat} {g0:G} {w0:World}
theorem Q8m (hC:Q93 P C) {T:Tk} {ops:Array Oper} {cs:List COp} (hcs:ops.toList.mapM (Qkd P T nt ops)=some cs) {id pc:Nat} {ps:List Pair}
  (hup:Q89 ops.toList=true) (hm:P.follows .mixedOrders=true) (hnil:∀ c∈cs,c.kind.isNil=false) (hps:Qr9 pc (ancs ops.toList) cs=some ps) {Q:St→Prop} {QQ:Exit→Act→World→Prop}
  (hQ:∀ σ' a' w' g',Q σ'→SR n0 nt g0 w0 σ' a' w' g'→QQ .normal a' w') {σ:St} {a:Act} {w:World} {g:G} (h:SR n0 nt g0 w0 σ a w g)
  (hr:Q3v C n0 pc cs σ fun σ'=>(ps.all fun p=>Qi5 (σ'.s p.a) p.n (σ'.s p.b) p.m)=true∧Q σ'):(Code.region id ops true).wp P QQ a w:=by
 obtain ⟨hlen,hget⟩:=Qos hcs;obtain ⟨σe,hch,hap,hq⟩:=Q4e hnil hr;have hlen' : cs.length=ops.size:=by rw [hlen];simp
 have hcomp:∀ i,i<ops.size→∃ o,ops[i]? = some o∧cs[i]? = some cs[i]! ∧ Qkd P T nt ops o=some cs[i]!:=by
  intro i hi;have h2:cs[i]? = some cs[i]!:=by
   grind
  exact ⟨ops[i],by simp [hi],h2,hget i _ _ (by simp [hi]) h2⟩
 have key:∀ (fuel:Nat) (listed:Array Bool) (σ:St) (a:Act) (w:World) (g:G),listed.size=ops.size→(left ops.size listed).length=fuel →
   (∀ (j:Nat) o,ops.toList[j]? = some o→listed.getD j false=true→∀ e∈Qtb o,listed.getD e false=true) →
   Q25 C n0 pc ((left ops.size listed).map (cs[·]!)) σ σe→SR n0 nt g0 w0 σ a w g→wpAny P .any ops QQ fuel listed a w:=by
  intro fuel
  induction fuel with
  | zero =>
   intro listed σ a w g hs hl hcl hch hsr;have hnil:left ops.size listed=[]:=List.eq_nil_of_length_eq_zero hl;rw [hnil] at hch;have:σe=σ:=hch;subst this;refine ⟨?_,hQ _ _ _ g hq hsr⟩
   grind [left,List.filter_eq_nil_iff,Go.Region.ready]
  | succ fuel ih =>
   intro listed σ a w g hs hl hcl hch hsr;have hsorted:=Q0f ops.size listed;have hready:∀ i o,ops[i]? = some o→(i∈Region.ready .any ops listed↔i∈left ops.size listed∧∀ e∈Qtb o,listed.getD e false=true):=by
    intro i o ho;unfold Region.ready left;simp only [List.mem_filter,ho,Option.map_some,Option.getD_some,Bool.and_eq_true,Array.all_eq_true',Q8l,Bool.or_eq_true,Bool.not_eq_true'];constructor
    ·rintro ⟨h1,h2,h3⟩;refine ⟨⟨h1,h2⟩,fun e he=>?_⟩;simp only [Qtb,List.mem_map,List.mem_filter] at he
     grind
    ·rintro ⟨⟨h1,h2⟩,h3⟩;refine ⟨h1,h2,fun x hx=>?_⟩;cases hb:Qy5 x with
     | false=>exact .inl rfl
     | true=>exact .inr (h3 x.on (by simp only [Qtb,List.mem_map,List.mem_filter];grind))
   refine ⟨fun hnone=>?_,fun i hi=>?_⟩
   ·exfalso;cases hle:left ops.size listed with
    | nil=>grind
    | cons i rest =>
     have him:i∈left ops.size listed:=by rw [hle];simp
     obtain ⟨hin,_⟩:=(Qzb hs).1 him;obtain ⟨o,ho,_,_⟩:=hcomp i hin;have:i∈Region.ready .any ops listed:=by
      refine (hready i o ho).2 ⟨him,fun e he=>?_⟩;have hlt:e<i:=by
       unfold Q89 at hup;rw [List.all_eq_true] at hup;have:=hup (i,o) (Qza.2 (by simpa using ho))
       grind
      cases hle2:listed.getD e false with
      | true=>rfl
      | false =>
       have:e∈left ops.size listed:=(Qzb hs).2 ⟨by omega,hle2⟩;rw [hle] at this hsorted;rcases List.mem_cons.1 this with rfl|this
       all_goals grind [List.pairwise_cons]
     grind
   ·have hin:i<ops.size:=by
     grind [Go.Region.ready]
    obtain ⟨o,ho,hci,hco⟩:=hcomp i hin;obtain ⟨him,hbase⟩:=(hready i o ho).1 hi;obtain ⟨l1,l2,hl12⟩:=List.append_of_mem him;have hnext:=Qbag hs hl12;have hanc:∀ x,((ancs ops.toList).getD i 0).testBit x=true→listed.getD x false=true:=Qbaf (fun x=>listed.getD x false=true) hcl (by simpa using ho) hbase;have hmf:Q25 C n0 pc (cs[i]! :: (l1++l2).map (cs[·]!)) σ σe:=by
     rw [hl12,List.map_append,List.map_cons] at hch;rw [List.map_append];refine Q8k (P:=P) (nt:=nt) (g0:=g0) (w0:=w0) (T:=T) (ops:=ops) hC ⟨o,hco⟩ _ σ (fun c hc=>?_) (fun pre1 x pre2 he=>?_) ⟨a,w,g,hsr⟩ hch
     ·grind
     ·obtain ⟨k1,k2,hk,hk1,hk2⟩:=List.map_eq_append_iff.1 he;obtain ⟨j,k3,rfl,rfl,hk3⟩:=List.map_eq_cons_iff.1 hk2;subst hk;have hjl:j∈left ops.size listed:=by rw [hl12];simp
      obtain ⟨hjn,hju⟩:=(Qzb hs).1 hjl;have hso:=hsorted;rw [hl12] at hso;have hso2:=List.pairwise_append.1 hso;have hji:j<i:=hso2.2.2 j (by simp) i (by simp);have hge:∀ k∈(j::k3)++i::l2,j≤k:=by
       intro k hk;have h5:((j::k3)++i::l2).Pairwise (· < ·):=by
        grind
       simp only [List.cons_append] at h5 hk;rcases List.mem_cons.1 hk with rfl|hk
       ·exact Nat.le_refl _
       ·exact Nat.le_of_lt ((List.pairwise_cons.1 h5).1 k hk)
      have hnanc:((ancs ops.toList).getD i 0).testBit j=false:=by
       grind
      obtain ⟨oj,_,hcj,_⟩:=hcomp j hjn;obtain ⟨m,hm1,hm2,hm3⟩:=Q4h hps hcj hci hji hnanc;refine ⟨m,hm1,fun p hp=>⟨List.all_eq_true.1 hap p (hm3 p hp),fun c hc=>?_⟩⟩;have hc' : ∃ k∈(j::k3)++i::l2,cs[k]! = c:=by
       rw [← hk3] at hc;rcases List.mem_append.1 hc with hc|hc
       ·rcases List.mem_cons.1 hc with rfl|hc
        ·grind
        ·obtain ⟨k,hk,rfl⟩:=List.mem_map.1 hc
         grind
       ·rcases List.mem_cons.1 hc with rfl|hc
        ·grind
        ·obtain ⟨k,hk,rfl⟩:=List.mem_map.1 hc
         grind
      obtain ⟨k,hk,rfl⟩:=hc';have hkj:=hge k hk;have hkl:k∈left ops.size listed:=by
       grind
      obtain ⟨hkn,hku⟩:=(Qzb hs).1 hkl;obtain ⟨_,_,hck,_⟩:=hcomp k hkn;have hpk:=List.all_eq_true.1 hm2 p hp;unfold Qu4 at hpk;have:=List.all_eq_true.1 hpk (k,cs[k]!) (Qza.2 hck)
      grind
    obtain ⟨σ1,hst,hrest⟩:=hmf;have:=Q21 (QQ:=QQ) hC hco hsr (Q95 (Q:=fun σ'=>Q25 C n0 pc ((l1++l2).map (cs[·]!)) σ' σe) hst hrest) (KK:=wpAny P .any ops QQ fuel (listed.setIfInBounds i true)) fun σ' a' w' g' hq' hs'=>by
     refine ih _ σ' a' w' g' (by simp [hs]) ?_ (fun j oj hoj hj e he=>?_) ?_ hs'
     ·grind
     ·have hset:∀ x,listed.getD x false=true→(listed.setIfInBounds i true).getD x false=true:=by
       intro x hx;rw [Q4i] at hx ⊢;rw [Array.getElem?_setIfInBounds];split
       all_goals grind
      by_cases hji:j=i
      ·grind
      ·refine hset e (hcl j oj hoj ?_ e he);rw [Q4i] at hj ⊢
       grind
     ·rw [hnext];exact hq'
    grind [Go.wpOp]
 refine wp_region_any hm (key ops.size _ σ a _ g (by simp) ?_ (fun j o _ hj=>?_) ?_ ?_)
 ·have:left ops.size (Array.replicate ops.size false)=List.range ops.size:=by
   simp_all [left,List.filter_eq_self,Array.getD]
  rw [this];simp
 ·simp_all [Array.getD,Array.size_replicate]
 ·have:(left ops.size (Array.replicate ops.size false)).map (cs[·]!)=cs:=by
   have h1:left ops.size (Array.replicate ops.size false)=List.range ops.size:=by
    simp_all [left,List.filter_eq_self,Array.getD]
   rw [h1];apply List.ext_getElem
   all_goals grind
  rw [this];exact hch
 ·have hk:Kept g w g { w with drawn:=w.drawn+1 } (fun _=>True) fun _=>True:=⟨⟨fun _ _ h=>h,fun _ _ _=>rfl⟩,fun _ _=>rfl,fun _ _ _=>⟨rfl,rfl,fun _=>Iff.rfl⟩⟩;have hall:(∀ v:V,v.on fun _=>True)∧∀ vs:List V,V.ons (fun _=>True) vs:=by
   grind [Q58,Qiw]
  refine ⟨⟨fun k b hb=>?_,h.mem.imm⟩,fun t=>Qfl hk (fun _ _ h=>h) trivial _ _ _ trivial (hall.1 _) (h.slots t),h.size,h.defers,h.onS,h.onM,h.top,?_⟩
  ·obtain ⟨h1,h2,h3⟩:=h.mem.box k b hb;refine ⟨h1,h2,?_⟩;cases b with
   | mp es c =>
    obtain ⟨ents,k1,k2⟩:=h3;exact ⟨ents,k1,Qn6 (g:=g) (g':=g) hk (fun _=>trivial) k2⟩
   | cells cs =>
    obtain ⟨vals,e,k1,k2,k3⟩:=h3;exact ⟨vals,e,k1,RVs_mono hk (fun _ _ h=>h) trivial _ _ _ _ trivial (hall.2 _) k2,k3⟩
  ·exact ⟨h.fr.os,h.fr.tape,h.fr.output,h.fr.size,⟨h.fr.imm.mono,h.fr.imm.look⟩,h.fr.box,h.fr.old⟩
end
end Go.Abs
end
section
namespace Go.Abs
open Go
theorem Qbah (P:Nat→Bool) (vs:List V):Qdq.go P vs=vs.map (Qdq P):=by
 induction vs with
 | nil=>rfl
 | cons v vs ih=>simp [Qdq.go,ih]
mutual
theorem Qbai {g:G} {w:World} (P:Nat→Bool):∀ (v:V) (ℓ:Owner) (u:Value),RV g w v ℓ u→RV g w (Qdq P v) ℓ u
 | .und,_,_,h=>by simp [Qdq,RV]
 | .d x,_,_,h=>by simpa [Qdq] using h
 | .agg cs,ℓ,u,h=>by
  simp only [Qdq,RV] at h ⊢;obtain ⟨vs,rfl,h,h1⟩:=h;exact ⟨vs,rfl,RVs_kill P cs ℓ 0 vs h,h1⟩
 | .tup cs,ℓ,u,h=>by
  simp only [Qdq,RV] at h ⊢;obtain ⟨vs,rfl,h⟩:=h;exact ⟨vs,rfl,RVs_kill P cs ℓ 0 vs h⟩
 | .own ..,_,_,h=>by simpa [Qdq] using h
 | .ownT ..,_,_,h=>by simpa [Qdq] using h
 | .ptr k o,_,_,h=>by
  simp only [Qdq];split
  ·simp [RV]
  ·exact h
 | .nilp,_,_,h=>by simpa [Qdq] using h
 | .f _,_,_,h=>by simpa [Qdq] using h
 | .nils _,_,_,h=>by simpa [Qdq] using h
 | .cref _,_,_,h=>by simpa [Qdq] using h
 | .sl ..,_,_,h=>by
  simp only [Qdq];split
  ·simp [RV]
  ·exact h
 | .clo f cs,_,u,h=>by
  simp only [Qdq,RV] at h ⊢;obtain ⟨vs,rfl,h⟩:=h;exact ⟨vs,rfl,RVs_kill P cs .ext 0 vs h⟩
 | .mp k,_,_,h=>by
  simp only [Qdq];split
  ·simp [RV]
  ·exact h
theorem RVs_kill {g:G} {w:World} (P:Nat→Bool):∀ (cs:List V) (ℓ:Owner) (i:Nat) (us:List Value),RVs g w cs ℓ i us→RVs g w (Qdq.go P cs) ℓ i us
 | [],_,_,_,h=>by simpa [Qdq.go,RVs] using h
 | c::cs,ℓ,i,us,h=>by
  simp only [Qdq.go,RVs] at h ⊢;obtain ⟨u,us,rfl,h1,h2⟩:=h;exact ⟨u,us,rfl,Qbai P c _ u h1,RVs_kill P cs ℓ (i+1) us h2⟩
end
mutual
theorem Qbaj {p:Nat→Prop} (P:Nat→Bool):∀ v:V,v.on p→(Qdq P v).on fun k=>p k∧P k=false
 | .ptr k o,h=>by simp only [Qdq];split<;>simp_all [V.on]
 | .sl ..,h=>by simp only [Qdq];split<;>simp_all [V.on]
 | .mp k,h=>by simp only [Qdq];split<;>simp_all [V.on]
 | .agg cs,h=>by simp only [Qdq,V.on];exact ons_kill P cs h
 | .tup cs,h=>by simp only [Qdq,V.on];exact ons_kill P cs h
 | .clo _ cs,h=>by simp only [Qdq,V.on];exact ons_kill P cs h
 | .und,_=>trivial
 | .d _,_=>trivial
 | .own ..,_=>trivial
 | .ownT ..,_=>trivial
 | .nilp,_=>trivial
 | .f _,_=>trivial
 | .nils _,_=>trivial
 | .cref _,_=>trivial
theorem ons_kill {p:Nat→Prop} (P:Nat→Bool):∀ vs:List V,V.ons p vs→V.ons (fun k=>p k∧P k=false) (Qdq.go P vs)
 | [],_=>trivial
 | v::vs,h=>⟨Qbaj P v h.1,ons_kill P vs h.2⟩
end
mutual
theorem Qbdt {p q:Nat→Prop}:∀ (v:V),v.on p→v.on q→v.on fun k=>p k∧q k
 | .ptr _ _,h1,h2=>⟨h1,h2⟩
 | .sl ..,h1,h2=>⟨h1,h2⟩
 | .mp _,h1,h2=>⟨h1,h2⟩
 | .agg cs,h1,h2=>ons_and cs h1 h2
 | .tup cs,h1,h2=>ons_and cs h1 h2
 | .clo _ cs,h1,h2=>ons_and cs h1 h2
 | .und,_,_=>trivial
 | .d _,_,_=>trivial
 | .own ..,_,_=>trivial
 | .ownT ..,_,_=>trivial
 | .nilp,_,_=>trivial
 | .f _,_,_=>trivial
 | .nils _,_,_=>trivial
 | .cref _,_,_=>trivial
theorem ons_and {p q:Nat→Prop}:∀ (vs:List V),V.ons p vs→V.ons q vs→V.ons (fun k=>p k∧q k) vs
 | [],_,_=>trivial
 | v::vs,h1,h2=>⟨Qbdt v h1.1 h2.1,ons_and vs h1.2 h2.2⟩
end
section
variable {P:Program} {C:Ctx} {n0 nt:Nat} {g0:G} {w0:World}
theorem Qbak {n0:Nat} {sites:List Nat} {k:Nat} (h:Qjf n0 sites k=true):n0≤k:=by
 simp only [Qjf,List.any_eq_true,beq_iff_eq] at h
 grind
theorem Qzc {σ:St} {a:Act} {w:World} {g:G} (h:SR n0 nt g0 w0 σ a w g) (sites:List Nat):SR n0 nt g0 w0 (Qk4 n0 sites σ) a w g:=by
 have hthere:∀ k,(There σ.M k∧Qjf n0 sites k=false)→There (Qk4 n0 sites σ).M k:=by
  rintro k ⟨h1,h2⟩;simp only [There,Qk4,h2,Bool.false_eq_true,if_false] at h1 ⊢
  grind
 refine ⟨⟨fun k b hk=>?_,h.mem.imm⟩,fun t=>Qbai _ _ _ _ (h.slots t),h.size,h.defers,fun t=>Qgj hthere _ (Qbaj _ _ (h.onS t)),fun k cs hk=>?_,h.top,h.fr⟩
 ·simp only [Qk4] at hk;split at hk
  ·cases hk
  ·split at hk
   ·exact h.mem.box k b hk
   ·split at hk
    ·rename_i cs hcs;cases hk;obtain ⟨h1,h2,vals,e,hh,hr,ho⟩:=h.mem.box k _ hcs;refine ⟨h1,h2,vals,e,hh,?_,ho⟩;rw [← Qbah];exact RVs_kill _ _ _ _ _ hr
    ·exact h.mem.box k b hk
 ·simp only [Qk4] at hk;split at hk
  ·cases hk
  ·rename_i hns;split at hk
   ·rename_i hlt;have h2:=(h.onM k cs hk).2 hlt;have h1:=(h.onM k cs hk).1;refine ⟨?_,fun _=>h2⟩;rw [Qiw] at h1 h2 ⊢;intro v hv;have hb:v.on fun k=>There σ.M k∧k<n0:=Qbdt v (h1 v hv) (h2 v hv);refine Qgj (fun k hk=>hthere k ⟨hk.1,?_⟩) v hb
    grind [Qjf,Qbak]
   ·split at hk
    ·rename_i hge _ cs' hcs;cases hk;refine ⟨?_,fun hlt=>absurd hlt hge⟩;rw [← Qbah];exact ons_mono hthere _ (ons_kill _ _ (h.onM k cs' hcs).1)
    grind
theorem Qnh {p:Nat→Prop} (h:∃ n,p n):∃ n,p n∧∀ m,p m→n≤m:=by
 obtain ⟨n,hn⟩:=h
 induction n using Nat.strongRecOn with
 | _ n ih =>
  grind
open Classical in
noncomputable def Qbal (p:Nat→Prop):Nat:=if h:∃ n,p n then Classical.choose (Qnh h) else 0
theorem Q8n {p:Nat→Prop} (h:∃ n,p n):p (Qbal p):=by
 unfold Qbal;grind
theorem Qbcp {p:Nat→Prop} {n:Nat} (h:p n):Qbal p≤n:=by
 have hx:∃ n,p n:=⟨n,h⟩;unfold Qbal;grind
def Ex.to:Ex→Exit
 | .norm=>.normal
 | .exit id=>.exit id
 | .ret=>.ret
def lift (n0 nt:Nat) (g0:G) (w0:World) (Q:Ex→St→Prop):Exit→Act→World→Prop :=
 fun e a w=>∃ x σ g,e=x.to∧Q x σ∧SR n0 nt g0 w0 σ a w g
structure Env where
 P:Program
 n0:Nat
 nt:Nat
 g0:G
 w0:World
 T:Tk
def Tr (Γ:Env) (cc:CC) (σ:St) (Q:Ex→St→Prop):Prop :=
 ∀ c,Qt0 Γ.P Γ.T Γ.nt c=some cc→∀ a w g,SR Γ.n0 Γ.nt Γ.g0 Γ.w0 σ a w g→c.wp Γ.P (lift Γ.n0 Γ.nt Γ.g0 Γ.w0 Q) a w
def Wk (v v' : V):Prop:=∀ g w ℓ u,RV g w v ℓ u→RV g w v' ℓ u
def pos:List Res→Nat→Option Nat
 | [],_=>none
 | .t i::rs,t=>if i=t then some 0 else (pos rs t).map (· + 1)
 | .cell .. :: rs,t=>(pos rs t).map (· + 1)
def Qx4 (ts:List Res) (single:Bool):Owner→Owner
 | .slot t q=>if single then (if pos ts t=some 0 then .res q else .slot t q) else
   match pos ts t with
   | some j=>.res (q++[j])
   | none=>.slot t q
 | o=>o
theorem Qt8 (ts:List Res) (s:Bool) (o:Owner) (i:Nat):Qx4 ts s (o.sub i)=(Qx4 ts s o).sub i:=by
 cases o<;>try rfl
 rename_i t q;cases s with
 | true =>
  simp only [Qx4,Owner.sub,if_true];split<;>rfl
 | false =>
  simp only [Qx4,Owner.sub,Bool.false_eq_true,if_false];split<;>rfl
theorem Q4j {ts:List Res} {s:Bool} {o:Owner} {k:Nat}:Qx4 ts s o = .box k↔o = .box k:=by
 cases o<;>try rfl
 cases s with
 | true=>simp only [Qx4,if_true];split<;>simp
 | false=>simp only [Qx4,Bool.false_eq_true,if_false];split<;>simp
theorem Q1z {ts:List Res} {s:Bool} {o:Owner} (h:Prot o):Qx4 ts s o=o:=by
 cases o<;>first|exact h.elim|rfl
theorem Qbam {m κ:Nat} {ag:Bool} {n:Nat} {p v:V} {M M' : Mem} (h:Qk m κ (.load ag n) [p] M=some (v,M')):Flat v:=by
 cases p<;>try (simp [Qk] at h;done)
 ·rename_i k off;simp only [Qk] at h;split at h<;>try (cases h;done)
  rename_i cs hk;split at h<;>try (cases h;done)
  split at h
  ·cases h;simp [Flat,V.dem,dems_dems]
  ·simp only [Option.map_eq_some_iff,Prod.mk.injEq] at h;obtain ⟨x,_,rfl,_⟩:=h;exact Qef x
 ·rename_i cs;simp only [Qk] at h;split at h<;>try (cases h;done)
  split at h
  ·cases h;have:∀ l:List D,V.dems (l.map V.d)=l.map V.d:=by
    intro l;induction l with
    | nil=>rfl
    | cons a l ih=>simp [V.dems,V.dem,ih]
   simp only [Flat,V.dem,this]
  ·simp only [Option.map_eq_some_iff,Prod.mk.injEq] at h;obtain ⟨x,_,rfl,_⟩:=h
   rfl
theorem Qbf3 {σ:St} {a:Act} {w:World} {g:G} (h:SR n0 nt g0 w0 σ a w g) {rv:ResultVar} {rs:Res} (hc:Qzj P nt rv=some rs) {r:V} (hr:rs.val σ=some r) :
  (∃ v,((match rv with | .tmp t=>pure (a.tmps.getD t undef) | .cell p t=>do loadVar t (← asAddr (a.tmps.getD p undef)):Sem Value)).run P w = .ok v w∧r.on (There σ.M) ∧
   ((∃ t,rs = .t t∧r=σ.s t∧RV g w r (.slot t []) v)∨((∃ p ag n,rs = .cell p ag n)∧Flat r∧RF g w r v))):=by
 cases rv with
 | tmp t =>
  simp only [Qzj] at hc;split at hc<;>cases hc;simp only [Res.val,Option.some.injEq] at hr;subst hr;exact ⟨_,rfl,h.onS t,.inl ⟨t,rfl,rfl,h.slots t⟩⟩
 | cell p t =>
  simp only [Qzj] at hc;split at hc<;>cases hc;rename_i hp;obtain ⟨d,hd⟩:=Option.isSome_iff_exists.1 hp.2;simp only [Res.val,Option.map_eq_some_iff] at hr;obtain ⟨⟨r',M'⟩,hst,rfl⟩:=hr;have hpp:(∃ k o,σ.s p = .ptr k o)∨∃ cs,σ.s p = .cref cs:=by
   cases hv:σ.s p<;>rw [hv] at hst<;>try (simp [Qk] at hst;done)
   all_goals grind
  have hf:Flat (σ.s p):=by rcases hpp with ⟨k,o,e⟩|⟨cs,e⟩<;>rw [e]<;>rfl
  have hrf:RF g w (σ.s p) (a.tmps.getD p undef):=fun ℓ=>Qqz hf (h.slots p);have hu:∃ ad,a.tmps.getD p undef = .pointer (some ad):=by
   grind [Qqm,Qsb]
  obtain ⟨ad,hu⟩:=hu;obtain ⟨_,val,hrun,hval⟩:=Q9g P h.mem t hd hrf hst;refine ⟨val,?_,?_,.inr ⟨⟨_,_,_,rfl⟩,Qbam hst,hval⟩⟩
  ·grind [Go.Instr.loadAt,Go.Instr.sureAddr,Go.Sem.run_bind,Go.Sem.run_pure,Go.Result.andThen_ok,Go.asAddr]
  ·obtain ⟨h1,_,_⟩:=Q2v (k:=.load (Qhy P t) (P.cellsOf t)) trivial hst ⟨h.onS p,trivial⟩ h.mOn
   grind
def Q7h (tmps:Array Value) (rv:ResultVar):Sem Value :=
 match rv with
 | .tmp t=>pure (tmps.getD t undef)
 | .cell p t=>do loadVar t (← asAddr (tmps.getD p undef))
theorem Qban {σ:St} {a:Act} {w:World} {g:G} (h:SR n0 nt g0 w0 σ a w g):∀ (rvs:List ResultVar) (rss:List Res) (rs:List V),rvs.mapM (Qzj P nt)=some rss→rss.mapM (Res.val σ)=some rs →
  ∃ vs:List Value,(rvs.mapM (Q7h a.tmps)).run P w = .ok vs w∧vs.length=rs.length∧rs.length=rss.length∧V.ons (There σ.M) rs ∧
   ∀ (j:Nat) r v s,rs[j]? = some r→vs[j]? = some v→rss[j]? = some s→(∃ t,s = .t t∧r=σ.s t∧RV g w r (.slot t []) v)∨((∃ p ag n,s = .cell p ag n)∧Flat r∧RF g w r v)
 | [],rss,rs,hc,hr=>by
  simp at hc;subst hc;simp at hr;subst hr;exact ⟨[],by simp,rfl,rfl,trivial,by simp⟩
 | rv::rvs,rss,rs,hc,hr=>by
  simp only [List.mapM_cons,Option.bind_eq_bind,Option.bind_eq_some_iff,Option.pure_def,Option.some.injEq] at hc;obtain ⟨s,hs,rss',hss,rfl⟩:=hc;simp only [List.mapM_cons,Option.bind_eq_bind,Option.bind_eq_some_iff,Option.pure_def,Option.some.injEq] at hr;obtain ⟨r,hr1,rs',hr2,rfl⟩:=hr;obtain ⟨v,h1,h2,h3⟩:=Qbf3 h hs hr1;obtain ⟨vs,k1,k2,k3,k4,k5⟩:=Qban h rvs rss' rs' hss hr2;have h1' : (Q7h a.tmps rv).run P w = .ok v w:=h1;refine ⟨v::vs,by simp_all,by simp [k2],by simp [k3],⟨h2,k4⟩,fun j r' v' s' hj1 hj2 hj3=>?_⟩;cases j with
  | zero=>grind
  | succ j=>grind
theorem Q59:∀ (rss:List Res) (j t:Nat),(Qoq rss).Nodup→rss[j]? = some (.t t)→pos rss t=some j
 | [],j,t,_,h=>by simp at h
 | s::rss,j,t,hn,h=>by
  cases j with
  | zero =>
   grind [pos]
  | succ j =>
   have h' : rss[j]? = some (.t t):=by simpa using h
   have hm:t∈Qoq rss:=by
    simp only [Qoq,List.mem_filterMap];exact ⟨.t t,List.mem_of_getElem? h',rfl⟩
   cases s with
   | t i =>
    have hn' : i∉Qoq rss∧(Qoq rss).Nodup:=by simpa [Qoq] using hn
    have hne:i≠t:=by grind
    simp [pos,hne,Q59 rss j t hn'.2 h']
   | cell p ag n =>
    have hn' : (Qoq rss).Nodup:=by simpa [Qoq] using hn
    simp [pos,Q59 rss j t hn' h']
def Fin (rs:List Res) (r:V) (M' : Mem) (nb' : Nat):Ex→St→Prop:=fun e σ =>
 (e = .norm∨e = .ret)∧∃ r',Ql6 σ rs=some r'∧Wk r' r∧(∀ k b,M' k=some b→σ.M k=some b)∧r.on (There M')∧MOn (There M') M'∧∀ k,There M' k→k<nb'
def Fin2 (n0:Nat) (rs:List Res) (r:V) (M' : Mem) (nb' : Nat):Ex→St→Prop:=fun e σ =>
 (e = .norm∨e = .ret)∧∃ r',Ql6 σ rs=some r'∧Wk r' r∧(∀ k b,M' k=some b→σ.M k=some b) ∧
  (r'.on (There σ.M)→(∀ k cs,σ.M k=some (.cells cs)→V.ons (There σ.M) cs∧(k<n0→V.ons (· < n0) cs))→(∀ k,There σ.M k→k<σ.nb)→r.on (There M')∧MOn (There M') M'∧∀ k,There M' k→k<nb')
theorem Qbao {f:FuncId} {cf:CFn} (hcf:Qv P f=some cf) {args:List V} {M:Mem} {nb nb' : Nat} {r:V} {M' : Mem} (hM0:∀ k,nb≤k→M k=none) (hargs:args.length=cf.np) (hnb:nb≤nb')
  {w:World} {g:G} {us:List Value} (hm:MR g w M nb) (hMon:MOn (There M) M) (hus:RFs g w args us) (hfl:∀ x∈args,Flat x) (hons:V.ons (There M) args)
  (hrun:∀ Γ:Env,Γ.P=P→Γ.n0=nb→Γ.nt=cf.nt→Γ.g0=g→Γ.w0=w→Tr Γ cf.body ⟨Qn5 args,M,nb+cf.nt⟩ (Fin2 nb cf.res r M' nb')) :
  Qk9 P f=true∧Calls P f us.toArray w fun e w'=>∃ v g',e = .returned v∧MR g' w' M' nb'∧RV g' w' r (.res []) v∧r.on (There M')∧MOn (There M') M'∧Fr nb g w g' w':=by
 unfold Qv at hcf;split at hcf<;>try (cases hcf;done)
 rename_i fn hfn;split at hcf<;>try (cases hcf;done)
 rename_i code hbody;split at hcf<;>try (cases hcf;done)
 rename_i b rss hb hrss;split at hcf<;>try (cases hcf;done)
 rename_i hnd;obtain ⟨hnd,hnp,hname⟩:=hnd;cases hcf;simp only at hargs hrun;refine ⟨by grind [Qk9,Qzk],?_⟩;have hlen:us.length=args.length:=Qh0 hus;let a0:Act:={ tmps:=us.toArray++Array.replicate (fn.ntmps-us.toArray.size) undef,defers:=[] };have hsz:a0.tmps.size=fn.ntmps:=by simp [a0];omega
 have hinit:∀ t,RV g w (Qn5 args t) (.slot t []) (a0.tmps.getD t undef):=by
  intro t;rcases Nat.lt_or_ge t args.length with hlt|hge
  ·have h1:Qn5 args t=args[t]:=by simp [Qn5,hlt]
   have h2:a0.tmps.getD t undef=us[t]'(by omega):=by
    simp only [a0,Array.getD_eq_getD_getElem?]
    grind
   rw [h1,h2];exact Qq0 hus t _ _ (List.getElem?_eq_getElem hlt) (List.getElem?_eq_getElem _) _
  grind [Qn5,RV]
 have hSR:SR nb fn.ntmps g w ⟨Qn5 args,M,nb+fn.ntmps⟩ a0 w g:=by
  refine ⟨⟨fun k b hk=>?_,hm.imm⟩,hinit,hsz,rfl,fun t=>?_,fun k cs hk=>⟨hMon k cs hk,fun hlt=>?_⟩,Nat.le_refl _,Fr.refl _ _ _⟩
  ·obtain ⟨h1,h2⟩:=hm.box k b hk
   grind
  ·rcases Nat.lt_or_ge t args.length with hlt|hge
   ·have h1:Qn5 args t=args[t]:=by simp [Qn5,hlt]
    show (Qn5 args t).on _;rw [h1];exact Qfe hons (List.getElem?_eq_getElem hlt)
   ·have h1:Qn5 args t = .und:=by simp [Qn5,hge]
    show (Qn5 args t).on _;rw [h1];trivial
  ·refine ons_mono (fun j hj=>?_) cs (hMon k cs hk)
   grind [Nat.lt_or_ge,There]
 let Γ:Env:={ P,n0:=nb,nt:=fn.ntmps,g0:=g,w0:=w,T:=Qbdn code };refine calls_of_wp hfn hbody (wp_mono (hrun Γ rfl rfl rfl rfl rfl code hb a0 w g hSR) ?_);rintro e a' w' ⟨x,σ,g',rfl,⟨hx,r',hres,hwk,hM1,hfacts⟩,hs⟩;have hs:SR nb fn.ntmps g w σ a' w' g':=hs;have fin:∀ (fr:Owner→Owner) (v:Value),(∀ o i,fr (o.sub i)=(fr o).sub i)→fr .ext = .ext→(∀ o k,fr o = .box k↔o = .box k)→(∀ o,Prot o→fr o=o)→r'.on (There σ.M)→RV (g'.re fr) w' r' (.res []) v →
   ∃ v' g'',Ending.returned v = .returned v'∧MR g'' w' M' nb'∧RV g'' w' r (.res []) v'∧r.on (There M')∧MOn (There M') M'∧Fr nb g w g'' w':=by
  intro fr v h1 h2 h3 h4 h6 h5;obtain ⟨hron,hMon',hM2⟩:=hfacts h6 (fun k cs hk=>hs.onM k cs hk) (fun k hk=>by obtain ⟨b,hb⟩:=Option.isSome_iff_exists.1 hk;exact (hs.mem.box k b hb).1);have hmr:=hs.mem.re h1 h2 h3;refine ⟨v,g'.re fr,rfl,⟨fun k b hk=>?_,hmr.imm⟩,hwk _ _ _ _ h5,hron,hMon',?_⟩
  ·obtain ⟨_,k2⟩:=hmr.box k b (hM1 k b hk)
   simp_all [There]
  ·have hf:=hs.fr;exact ⟨hf.os,hf.tape,hf.output,hf.size,hf.imm,hf.box,fun b hb ho=>by
    obtain ⟨q1,q2,q3⟩:=hf.old b hb ho;refine ⟨?_,q2,q3⟩;show fr (g'.own b)=_;rw [q1];exact h4 _ ho⟩
 have hend:∃ v,(results fn a'.tmps).run P w' = .ok v w'∧∃ v' g'',Ending.returned v = .returned v'∧MR g'' w' M' nb'∧RV g'' w' r (.res []) v'∧r.on (There M')∧MOn (There M') M'∧Fr nb g w g'' w':=by
  have hresrun:∀ vs:List Value,(fn.results.toList.mapM (Q7h a'.tmps)).run P w' = .ok vs w'→(results fn a'.tmps).run P w' = .ok (if h:vs.length=1 then vs[0] else .tuple vs.toArray) w':=by
   intro vs hvs;show ((do let vs ← fn.results.mapM (Q7h a'.tmps);pure (if h:vs.size=1 then vs[0] else .tuple vs)):Sem Value).run P w'=_;rw [Array.mapM_eq_mapM_toList];simp [hvs]
  cases hrs:rss.mapM (Res.val σ) with
  | none =>
   exfalso;cases rss with
   | nil=>simp at hrs
   | cons s rss =>
    cases rss with
    | nil=>grind [Ql6]
    | cons s' rss=>grind [Ql6]
  | some rs =>
   obtain ⟨vs,k1,k2,k3,k4,k5⟩:=Qban hs _ _ _ hrss hrs;refine ⟨_,hresrun vs k1,?_⟩;by_cases hone:rss.length=1
   ·match rss,hone with
    | [s],_ =>
     simp only [Ql6] at hres;simp only [List.mapM_cons,List.mapM_nil,hres,Option.bind_eq_bind,Option.bind_some,Option.pure_def,Option.some.injEq] at hrs;subst hrs
     match vs,k2 with
     | [v],_ =>
      simp only [List.length_singleton,dite_true,List.getElem_cons_zero];have hk5:=k5 0 r' v s rfl rfl rfl;rcases hk5 with ⟨t,rfl,rfl,hrv⟩|⟨_,_,hrf⟩
      ·refine fin (Qx4 [.t t] true) v (Qt8 _ _) rfl (fun o k=>Q4j) (fun o ho=>Q1z ho) k4.1 ?_;have:=Qw1 (Qt8 [.t t] true) rfl _ _ _ hrv;simpa [Qx4,pos] using this
      ·exact fin id v (fun _ _=>rfl) rfl (fun _ _=>Iff.rfl) (fun _ _=>rfl) k4.1 (hrf _)
   ·have hvl:¬ vs.length=1:=by omega
    rw [dif_neg hvl];have hres' : r' = .tup rs:=by
     match rss,hone,hres,hrs with
     | [],_,hres,hrs=>grind [Ql6,Option.some.injEq]
     | s::s'::rss,_,hres,hrs=>grind [Ql6,Option.some.injEq]
    subst hres';refine fin (Qx4 rss false) _ (Qt8 _ _) rfl (fun o k=>Q4j) (fun o ho=>Q1z ho) k4 ?_;simp only [RV];refine ⟨vs,rfl,(Qdb _ _ _ _).2 ⟨k2,fun j c u hc hu=>?_⟩⟩;have hjl:=(List.getElem?_eq_some_iff.1 hc).1;have hsj:=List.getElem?_eq_getElem (show j<rss.length by omega);simp only [Nat.zero_add,Owner.sub];rcases k5 j c u _ hc hu hsj with ⟨t,hst,hct,hrv⟩|⟨_,hfl,hrf⟩
    ·have:=Qw1 (Qt8 rss false) rfl _ _ _ hrv;have hp:=Q59 rss j t hnd (by rw [hsj,hst]);simpa [Qx4,hp] using this
    ·exact Qqz hfl (Qw1 (f:=Qx4 rss false) (Qt8 _ _) rfl _ _ _ (hrf .ext))
 have hd:a'.defers=[]:=hs.defers;obtain ⟨v,hv,hpost⟩:=hend;rcases hx with rfl|rfl
 ·exact ⟨hd,v,hv,hpost⟩
 ·exact ⟨hd,v,hv,hpost⟩
theorem Qbap {f:FuncId} {cf:CFn} (hcf:Qv P f=some cf) {args:List V} {M:Mem} {nb nb' : Nat} {r:V} {M' : Mem} (hM0:∀ k,nb≤k→M k=none) (hargs:args.length=cf.np) (hnb:nb≤nb')
  (hrun:∀ Γ:Env,Γ.P=P→Γ.n0=nb→Γ.nt=cf.nt→Tr Γ cf.body ⟨Qn5 args,M,nb+cf.nt⟩ (Fin2 nb cf.res r M' nb')):ACalls P f args M nb r M' nb':=by
 refine ⟨?_,hnb,fun w g us hm hMon hfresh hus hfl hons=>(Qbao hcf hM0 hargs hnb hm hMon hus hfl hons fun Γ h1 h2 h3 _ _=>hrun Γ h1 h2 h3).2⟩
 grind [Inhabited.default,Qv,Qk9,Qzk]
def away:Owner→Owner:=fun _=>.ext
theorem Qbcq (o:Owner) (i:Nat):away (o.sub i)=(away o).sub i:=rfl
def Qw7:V→Bool
 | .d _ | .own _ _ | .nils _ | .nilp | .und=>true
 | .agg cs=>go cs
 | .tup vs=>go vs
 | _=>false
where go:List V→Bool
 | []=>true
 | v::vs=>Qw7 v&&go vs
section
variable {g g' : G} {w:World} (hi:∀ b o,g.imm b o↔g'.imm b o) (ho:∀ b,g.own b ≠ .ext→g'.own b=g.own b)
include hi ho
mutual
theorem Q7i:∀ (v:V) (ℓ:Owner) (u:Value),Qw7 v=true→ℓ ≠ .ext→RV g w v ℓ u→RV g' w v ℓ u
 | .und,_,_,_,_,_=>by simp [RV]
 | .d x,_,u,_,_,h=>by
  simp only [RV] at h ⊢;exact Qf9 ⟨fun b o h=>(hi b o).1 h,fun _ _ _=>rfl⟩ x u h
 | .agg cs,ℓ,u,hr,hl,h=>by
  simp only [RV,Qw7] at h hr ⊢;obtain ⟨vs,rfl,h,h1⟩:=h;exact ⟨vs,rfl,RVs_resOK cs ℓ 0 vs hr hl h,h1⟩
 | .tup cs,ℓ,u,hr,hl,h=>by
  simp only [RV,Qw7] at h hr ⊢;obtain ⟨vs,rfl,h⟩:=h;exact ⟨vs,rfl,RVs_resOK cs ℓ 0 vs hr hl h⟩
 | .own sz l,ℓ,u,_,hl,h=>by
  simp only [RV] at h ⊢;rcases h with h|⟨b,cap,vals,e,h1,h2,h3,h4,h5,h6,h7,h8⟩
  ·exact .inl h
  ·exact .inr ⟨b,cap,vals,e,h1,(ho b (by rw [h2];exact hl)).trans h2,h3,h4,h5,h6,fun o=>((hi b o).symm).trans (h7 o),RDL_mono ⟨fun b o h=>(hi b o).1 h,fun _ _ _=>rfl⟩ sz b l 0 h8⟩
 | .ownT sz l,ℓ,u,_,hl,h=>by
  simp only [RV] at h ⊢;rcases h with h|⟨b,o0,cap,vals,e,h1,h2,h3,h4,h5,h6,h7,h8⟩
  ·exact .inl h
  ·exact .inr ⟨b,o0,cap,vals,e,h1,(ho b (by rw [h2];exact hl)).trans h2,h3,h4,h5,h6,fun o=>((hi b o).symm).trans (h7 o),RDL_mono ⟨fun b o h=>(hi b o).1 h,fun _ _ _=>rfl⟩ sz b l o0 h8⟩
 | .nilp,_,_,_,_,h=>by simpa [RV] using h
 | .nils _,_,_,_,_,h=>by simpa [RV] using h
 | .f _,_,_,hr,_,_=>by simp [Qw7] at hr
 | .ptr ..,_,_,hr,_,_=>by simp [Qw7] at hr
 | .cref _,_,_,hr,_,_=>by simp [Qw7] at hr
 | .sl ..,_,_,hr,_,_=>by simp [Qw7] at hr
 | .clo ..,_,_,hr,_,_=>by simp [Qw7] at hr
 | .mp _,_,_,hr,_,_=>by simp [Qw7] at hr
theorem RVs_resOK:∀ (cs:List V) (ℓ:Owner) (i:Nat) (us:List Value),Qw7.go cs=true→ℓ ≠ .ext→RVs g w cs ℓ i us→RVs g' w cs ℓ i us
 | [],_,_,_,_,_,h=>by simpa [RVs] using h
 | c::cs,ℓ,i,us,hr,hl,h=>by
  simp only [Qw7.go,Bool.and_eq_true] at hr;simp only [RVs] at h ⊢;obtain ⟨u,us',rfl,h1,h2⟩:=h;have hne:ℓ.sub i ≠ .ext:=by cases ℓ<;>simp_all [Owner.sub]
  exact ⟨u,us',rfl,Q7i c (ℓ.sub i) u hr.1 hne h1,RVs_resOK cs ℓ (i+1) us' hr.2 hl h2⟩
end
end
mutual
def V.toF:V→V
 | .d (.lst sz l)=>.f (.lst sz l)
 | .agg cs=>.agg (V.toFs cs)
 | v=>v
def V.toFs:List V→List V
 | []=>[]
 | v::vs=>v.toF::V.toFs vs
end
theorem Qbf4 {imm imm' : Nat→Nat→Prop} {w:World} (h:∀ b o,imm b o→Qt1 w b o→imm' b o):∀ (x:D) (u:Value),RD imm w x u→RD imm' w x u:=by
 have:=@Qf9 imm (fun b o=>imm b o∧Qt1 w b o);have key:(∀ (x:D) (u:Value),RD imm w x u→RD (fun b o=>imm b o∧Qt1 w b o) w x u):=by
  intro x;exact Q3w x
 intro x u hx;exact Qf9 ⟨fun b o hb=>h b o hb.1 hb.2,fun _ _ _=>rfl⟩ x u (key x u hx)
theorem Qbf5 {f:FuncId} {cf:CFn} (hcf:Qv P f=some cf) {args:List V} {nb:Nat} {r:V} (hr0:r.lt 0=true) (hr1:Qw7 r=true)
  (hrun:∀ (g0:G) (w0:World) (us:List Value),(∀ b,g0.own b = .ext)→(∀ b o,g0.imm b o→b<w0.heap.size)→RFs g0 w0 args us →
   ∃ args',RFs g0 w0 args' us∧(∀ x∈args',Flat x)∧V.lt.go 0 args'=true∧args'.length=cf.np ∧
    ∀ Γ:Env,Γ.P=P→Γ.n0=nb→Γ.nt=cf.nt→Γ.g0=g0→Γ.w0=w0→Tr Γ cf.body ⟨Qn5 args',fun _=>none,nb+cf.nt⟩ (Fin2 nb cf.res r (fun _=>none) nb)) (M:Mem):ACalls P f args M nb r M nb:=by
 refine ⟨?_,Nat.le_refl _,fun w g us hm hMon hfresh hus hfl hons=>?_⟩
 ·grind [Qv,Qk9,Qzk]
 have hp:∀ b,(g.re away).own b = .ext:=fun b=>rfl;have himm:∀ b o,(g.re away).imm b o→b<w.heap.size:=fun b o h=>(hm.imm b o h).1;obtain ⟨args',h1,h2,h3,h4,h5⟩:=hrun (g.re away) w us hp himm (Q20 Qbcq rfl hfl hus);have hm1:MR (g.re away) w (fun _=>none) nb:=⟨fun k b h=>(by cases h),fun b o h=>⟨himm b o h,fun k e=>by
  grind⟩⟩
 refine Calls.mono (Qbao hcf (fun _ _=>rfl) h4 (Nat.le_refl _) hm1 (fun k cs h=>by cases h) h1 h2 (ons_mono (fun k hk=>absurd hk (Nat.not_lt_zero k)) _ (ons_lt args' h3)) h5).2 ?_;rintro e w' ⟨v,g',rfl,hmr,hrv,_,_,hf⟩;have hold:∀ b,b<w.heap.size→g'.own b=away (g.own b)∧w'.heap[b]? = w.heap[b]? ∧ ∀ o,g'.imm b o↔g.imm b o:=fun b hb=>hf.old b hb (by rw [hp b];trivial);let g2:G:=⟨g.box,g'.imm,fun b=>if b<w.heap.size then g.own b else g'.own b⟩;have hown:∀ b,b<w.heap.size→g2.own b=g.own b:=fun b hb=>by simp [g2,hb]
 have hown' : ∀ b,¬ b<w.heap.size→g2.own b=g'.own b:=fun b hb=>by simp [g2,hb]
 have hk2:Kept g w g2 w' (There M) (fun _=>True):=by
  refine ⟨⟨fun b o h=>hf.imm.mono b o h,fun b o h=>hf.imm.look b o h⟩,fun k _=>rfl,fun b _ hlt=>⟨hown b hlt,(hold b hlt).2.1,(hold b hlt).2.2⟩⟩
 refine ⟨v,g2,rfl,⟨fun k b hk=>?_,fun b o hb=>?_⟩,?_,Qgj (fun k hk=>absurd hk (Nat.not_lt_zero k)) _ (Qbb6 r hr0),hMon,?_⟩
 ·obtain ⟨k1,k2,k3⟩:=hm.box k b hk;cases b with
  | mp es c =>
   obtain ⟨ents,hh,hr⟩:=k3;have hlt:g.box k<w.heap.size:=(Array.getElem?_eq_some_iff.1 hh).1;exact ⟨k1,(hown _ hlt).trans k2,ents,(hold _ hlt).2.1.trans hh,Qn6 (g:=g) (g':=g2) hk2 (fun _=>trivial) hr⟩
  | cells cs =>
   obtain ⟨vals,e,hh,hr,ho⟩:=k3;have hlt:g.box k<w.heap.size:=(Array.getElem?_eq_some_iff.1 hh).1;refine ⟨k1,(hown _ hlt).trans k2,vals,e,(hold _ hlt).2.1.trans hh,RVs_mono hk2 (fun _ _ _=>trivial) trivial _ _ _ _ trivial (hMon k cs hk) hr,ho⟩
 ·obtain ⟨k1,k2⟩:=hmr.imm b o hb;refine ⟨k1,fun k=>?_⟩;by_cases hlt:b<w.heap.size
  ·rw [hown b hlt];exact (hm.imm b o (((hold b hlt).2.2 o).1 hb)).2 k
  grind
 ·refine Q7i (g:=g') (g':=g2) (fun b o=>Iff.rfl) (fun b hb=>?_) r _ v hr1 (by simp) hrv;by_cases hlt:b<w.heap.size
  ·exact absurd (hold b hlt).1 hb
  ·exact hown' b hlt
 ·exact ⟨hf.os,hf.tape,hf.output,hf.size,⟨fun b o h=>hf.imm.mono b o h,fun b o h=>hf.imm.look b o h⟩,fun _ _=>rfl,fun b hlt _=>⟨hown b hlt,(hold b hlt).2.1,(hold b hlt).2.2⟩⟩
theorem Qbew {f:FuncId} {cf:CFn} (hcf:Qv P f=some cf) {args:List V} {M:Mem} {nb nb' : Nat} {r:V} {M' : Mem} (hM0:∀ k,nb≤k→M k=none) (hargs:args.length=cf.np) (hnb:nb≤nb')
  (hrun:∀ Γ:Env,Γ.P=P→Γ.n0=nb→Γ.nt=cf.nt→Tr Γ cf.body ⟨Qn5 args,M,nb+cf.nt⟩ (Fin cf.res r M' nb')):ACalls P f args M nb r M' nb' :=
 Qbap hcf hM0 hargs hnb fun Γ h1 h2 h3 c hc a w g hs=>wp_mono (hrun Γ h1 h2 h3 c hc a w g hs) fun _ _ _ ⟨x,σ',g',he,⟨k1,r',k2,k3,k4,k5,k6,k7⟩,hs'⟩=>⟨x,σ',g',he,⟨k1,r',k2,k3,k4,fun _ _ _=>⟨k5,k6,k7⟩⟩,hs'⟩
end
end Go.Abs
end
section
namespace Go.Abs
open Go
def WeakSt (Γ:Env) (σ σ' : St):Prop:=∀ a w g,SR Γ.n0 Γ.nt Γ.g0 Γ.w0 σ a w g→∃ g',SR Γ.n0 Γ.nt Γ.g0 Γ.w0 σ' a w g'
theorem WeakSt.refl {Γ:Env} (σ:St):WeakSt Γ σ σ:=fun _ _ g h=>⟨g,h⟩
theorem WeakSt.trans {Γ:Env} {σ σ' σ'' : St} (h:WeakSt Γ σ σ') (k:WeakSt Γ σ' σ''):WeakSt Γ σ σ'':=fun a w g hs=>let ⟨g',h'⟩:=h a w g hs;k a w g' h'
variable {Γ:Env} {σ:St} {Q:Ex→St→Prop}
theorem Tr.weak {cc:CC} {σ' : St} (h:WeakSt Γ σ σ') (k:Tr Γ cc σ' Q):Tr Γ cc σ Q:=fun c hc a w g hs=>let ⟨g',h'⟩:=h a w g hs;k c hc a w g' h'
theorem Tr.mono {cc:CC} {Q' : Ex→St→Prop} (h:Tr Γ cc σ Q) (k:∀ e σ',Q e σ'→Q' e σ'):Tr Γ cc σ Q':=fun c hc a w g hs =>
 wp_mono (h c hc a w g hs) fun _ _ _ ⟨x,σ',g',he,hq,hs'⟩=>⟨x,σ',g',he,k _ _ hq,hs'⟩
theorem Q26 {P:Program} {T:Tk} {nt:Nat} {ops:Array Oper} {draw:Bool} {cc:CC} (h:Qml P T nt ops draw=some cc):∃ cs pc ps,cc = .region cs pc ps:=by
 unfold Qml at h
 grind
theorem Qpn {P:Program} {T:Tk} {nt:Nat} {ops:Array Oper} {draw:Bool} {cc:CC} (h:Q9b (Qml P T nt ops draw)=some cc):(∃ cs pc ps,cc = .region cs pc ps)∨cc = .dead:=by
 cases hr:Qml P T nt ops draw with
 | none=>rw [hr] at h;cases h;exact .inr rfl
 | some c=>rw [hr] at h;cases h;exact .inl (Q26 hr)
theorem Q10 {o:Option CC} {cs:List COp} {pc:Nat} {ps:List Pair} (h:Q9b o=some (.region cs pc ps)):o=some (.region cs pc ps):=by
 cases o with
 | none=>cases h
 | some c=>exact h
theorem Tr.skip (h:Q .norm σ):Tr Γ .skip σ Q:=by
 intro c hc a w g hs;cases c<;>simp only [Qt0] at hc<;>try (cases hc;done)
 ·exact wp_skip ⟨.norm,σ,g,rfl,h,hs⟩
 ·grind [Qpn]
 ·split at hc<;>cases hc
 ·split at hc<;>cases hc
 ·simp at hc
 ·simp at hc
theorem Tr.exit {id:Nat} (h:Q (.exit id) σ):Tr Γ (.exit id) σ Q:=by
 intro c hc a w g hs;cases c<;>simp only [Qt0] at hc<;>try (cases hc;done)
 ·grind [Qpn]
 ·split at hc<;>cases hc
 ·split at hc<;>cases hc
 ·simp at hc
 ·simp at hc
 ·cases hc;exact wp_exit ⟨.exit id,σ,g,rfl,h,hs⟩
theorem Tr.ret (h:Q .ret σ):Tr Γ .ret σ Q:=by
 intro c hc a w g hs;cases c<;>simp only [Qt0] at hc<;>try (cases hc;done)
 ·grind [Qpn]
 ·split at hc<;>cases hc
 ·split at hc<;>cases hc
 ·simp at hc
 ·simp at hc
 ·exact wp_ret ⟨.ret,σ,g,rfl,h,hs⟩
def Qbex (Γ:Env) (b:CC) (Q:Ex→St→Prop):Ex→St→Prop
 | .norm,σ'=>Tr Γ b σ' Q
 | .exit i,σ'=>Q (.exit i) σ'
 | .ret,σ'=>Q .ret σ'
theorem Tr.seq {x y:CC} (h:Tr Γ x σ (Qbex Γ y Q)):Tr Γ (.seq x y) σ Q:=by
 intro c hc a w g hs;cases c<;>simp only [Qt0] at hc<;>try (cases hc;done)
 ·grind [Qpn]
 ·split at hc<;>cases hc;rename_i hx hy;refine wp_seq (wp_mono (h _ hx a w g hs) ?_);rintro e a' w' ⟨e',σ',g',rfl,hq,hs'⟩;cases e' with
  | norm=>exact hq _ hy a' w' g' hs'
  | exit id=>exact ⟨.exit id,σ',g',rfl,hq,hs'⟩
  | ret=>exact ⟨.ret,σ',g',rfl,hq,hs'⟩
 ·split at hc<;>cases hc
 ·simp at hc
 ·simp at hc
theorem Tr.cond {q:Arg} {x y:CC} {b:Bool} (hb:q.val σ.s = .d (.bool b)) (hx:b=true→Tr Γ x σ Q) (hy:b=false→Tr Γ y σ Q):Tr Γ (.cond q x y) σ Q:=by
 intro c hc a w g hs;cases c<;>simp only [Qt0] at hc<;>try (cases hc;done)
 ·grind [Qpn]
 ·split at hc<;>cases hc
 ·split at hc<;>cases hc;rename_i ha hcx hcy;obtain ⟨h1,_⟩:=Qh2 Γ.P hs ha;rw [hb] at h1;refine wp_cond (Qzs (by simpa [V.dem] using h1)) ?_;cases b with
  | true=>exact hx rfl _ hcx a w g hs
  | false=>exact hy rfl _ hcy a w g hs
 ·simp at hc
 ·simp at hc
def inB (id:Nat) (Q:Ex→St→Prop):Ex→St→Prop
 | .exit i,σ'=>bif Nat.beq i id then Q .norm σ' else Q (.exit i) σ'
 | .norm,σ'=>Q .norm σ'
 | .ret,σ'=>Q .ret σ'
theorem Tr.block {id:Nat} {x:CC} (h:Tr Γ x σ (inB id Q)):Tr Γ (.block id x) σ Q:=by
 intro c hc a w g hs;cases c<;>simp only [Qt0] at hc<;>try (cases hc;done)
 ·grind [Qpn]
 ·split at hc<;>cases hc
 ·split at hc<;>cases hc
 ·rename_i bid bc;simp only [Option.map_eq_some_iff,CC.block.injEq] at hc;obtain ⟨cx,hx,rfl,rfl⟩:=hc;refine wp_block (wp_mono (h _ hx a w g hs) ?_);rintro e a' w' ⟨e',σ',g',rfl,hq,hs'⟩;cases e' with
  | norm=>exact ⟨.norm,σ',g',rfl,hq,hs'⟩
  | exit id' =>
   simp only [Ex.to,Exit.inBlock];simp only [inB] at hq;split
   ·rename_i he;subst he;rw [show Nat.beq id' id'=true from by simp] at hq;exact ⟨.norm,σ',g',rfl,hq,hs'⟩
   ·rename_i he;have:Nat.beq id' bid=false:=by
     grind [Nat.beq,absurd,Nat.eq_of_beq_eq_true]
    rw [this] at hq;exact ⟨.exit id',σ',g',rfl,hq,hs'⟩
  | ret=>exact ⟨.ret,σ',g',rfl,hq,hs'⟩
 ·simp at hc
def Qbv {X R:Type} (F:(X→Option R)→X→Option R):Nat→X→Option R
 | 0,_=>none
 | n+1,x=>F (Qbv F n) x
def Qbey {X R:Type} (Γ:Env) (sites:List Nat) (mk:X→St) (rec' : X→Option R) (r:R) (Q:Ex→St→Prop):Ex→St→Prop
 | .norm,σ'=>∃ x',rec' x'=some r∧WeakSt Γ (Qk4 Γ.n0 sites σ') (mk x')
 | .exit i,σ'=>Q (.exit i) σ'
 | .ret,σ'=>Q .ret σ'
theorem Tr.loop {X R:Type} {F:(X→Option R)→X→Option R} {mk:X→St} {n:Nat} {x0:X} {r:R} {sites:List Nat} {x:CC} (h:Qbv F n x0=some r) (h0:WeakSt Γ (Qk4 Γ.n0 sites σ) (mk x0))
  (body:∀ (rec' : X→Option R) y,F rec' y=some r→Tr Γ x (mk y) (Qbey Γ sites mk rec' r Q)):Tr Γ (.loop sites x) σ Q:=by
 intro c hc a w g hs;cases c<;>simp only [Qt0] at hc<;>try (cases hc;done)
 ·grind [Qpn]
 ·split at hc<;>cases hc
 ·split at hc<;>cases hc
 ·simp at hc
 rename_i cb;simp only [Option.map_eq_some_iff,CC.loop.injEq] at hc;obtain ⟨cx,hx,rfl,rfl⟩:=hc;let S:Nat→Act→World→Prop:=fun n a w=>∃ y g,Qbv F n y=some r∧SR Γ.n0 Γ.nt Γ.g0 Γ.w0 (mk y) a w g;let μ:Act→World→Nat:=fun a w=>Qbal fun n=>S n a w;obtain ⟨g',h'⟩:=h0 a w g (Qzc hs _);refine wp_loop (fun a w=>∃ n,S n a w) μ ⟨n,x0,g',h,h'⟩ ?_;intro a w hI;obtain ⟨y,g,hn,hy⟩:=Q8n hI;change Qbv F (μ a w) y=some r at hn;generalize μ a w=m at hn;cases m with
 | zero=>cases hn
 | succ m =>
  refine wp_mono (body (Qbv F m) y hn cb hx a w g hy) ?_;rintro e a' w' ⟨e',σ',g',rfl,hq,hs'⟩;cases e' with
  | norm =>
   obtain ⟨x',hr,hw⟩:=hq;obtain ⟨g2,h2⟩:=hw a' w' g' (Qzc hs' _);have hI' : ∃ n,S n a' w':=⟨m,x',g2,hr,h2⟩;exact ⟨hI',Nat.lt_succ_of_le (Qbcp (p:=fun n=>S n a' w') ⟨x',g2,hr,h2⟩)⟩
  | exit id=>exact ⟨.exit id,σ',g',rfl,hq,hs'⟩
  | ret=>exact ⟨.ret,σ',g',rfl,hq,hs'⟩
def Qbf6 {X R:Type} (Γ:Env) (mk:X→St) (J:X→Option R) (r:R) (Q:Ex→St→Prop):Ex→St→Prop
 | .norm,σ'=>∃ x',J x'=some r∧WeakSt Γ σ' (mk x')
 | .exit i,σ'=>Q (.exit i) σ'
 | .ret,σ'=>Q .ret σ'
theorem Tr.cut {X R:Type} {x y:CC} (mk:X→St) (J:X→Option R) (r:R) (hy:∀ z,J z=some r→Tr Γ y (mk z) Q) (hx:Tr Γ x σ (Qbf6 Γ mk J r Q)):Tr Γ (.seq x y) σ Q:=by
 refine Tr.seq (hx.mono ?_);intro e σ' hq;cases e with
 | norm=>obtain ⟨z,hj,hw⟩:=hq;exact (hy z hj).weak hw
 | exit id=>exact hq
 | ret=>exact hq
theorem Q11 (P:Program):Q93 P (ACalls P):=fun _ _ _ _ _ _ _ h=>h
def Qx5 (Γ:Env):List COp→St→(St→Prop)→Prop
 | [],σ,Q=>∃ σ',WeakSt Γ σ σ'∧Q σ'
 | o::os,σ,Q=>∃ σ',WeakSt Γ σ σ'∧o.run (ACalls Γ.P) Γ.n0 0 σ' fun σ''=>Qx5 Γ os σ'' Q
theorem Q4k {os:List COp} {σ σ' : St} {Q:St→Prop} (h:WeakSt Γ σ σ') (k:Qx5 Γ os σ' Q):Qx5 Γ os σ Q:=by
 cases os with
 | nil=>obtain ⟨σ2,h2,k⟩:=k;exact ⟨σ2,h.trans h2,k⟩
 | cons o os=>obtain ⟨σ2,h2,k⟩:=k;exact ⟨σ2,h.trans h2,k⟩
theorem Q27 {ops:Array Oper} {cs:List COp} (hcs:ops.toList.mapM (Qkd Γ.P Γ.T Γ.nt ops)=some cs) {Q:St→Prop} {QQ:Exit→Act→World→Prop}
  (hQ:∀ σ' a' w' g',Q σ'→SR Γ.n0 Γ.nt Γ.g0 Γ.w0 σ' a' w' g'→QQ .normal a' w'):∀ (m j:Nat) (σ:St) (a:Act) (w:World) (g:G),j+m=ops.size→SR Γ.n0 Γ.nt Γ.g0 Γ.w0 σ a w g →
  Qx5 Γ (cs.drop j) σ Q→wpOps Γ.P ops QQ (List.range' j m) a w:=by
 obtain ⟨hlen,hget⟩:=Qos hcs;intro m
 induction m with
 | zero =>
  intro j σ a w g hj h hr;have:cs.drop j=[]:=List.drop_eq_nil_of_le (by rw [hlen];simp;omega);rw [this] at hr;obtain ⟨σ',hw,hq⟩:=hr;obtain ⟨g2,h2⟩:=hw a w g h;exact hQ _ _ _ g2 hq h2
 | succ m ih =>
  intro j σ a w g hj h hr;have hjl:j<cs.length:=by rw [hlen];simp;omega
  have hjo:j<ops.size:=by omega
  rw [List.drop_eq_getElem_cons hjl] at hr;obtain ⟨σ1,hw1,hr⟩:=hr;obtain ⟨g1,h⟩:=hw1 a w g h;have hc:Qkd Γ.P Γ.T Γ.nt ops ops[j]=some cs[j]:=hget j ops[j] cs[j] (by simp [hjo]) (List.getElem?_eq_getElem hjl);have:=Q21 (QQ:=QQ) (Q11 Γ.P) hc h hr (KK:=wpOps Γ.P ops QQ (List.range' (j+1) m)) fun σ' a' w' g' hq hs=>ih (j+1) σ' a' w' g' (by omega) hs hq
  grind [List.range'_succ,Go.wpOps,Array.getElem?_eq_getElem]
theorem Tr.region {cs:List COp} (h:Qx5 Γ cs σ (Q .norm)):Tr Γ (.region cs 9 []) σ Q:=by
 intro c hc a w g hs;cases c<;>simp only [Qt0] at hc<;>try (cases hc;done)
 case region id ops draw =>
  have hc:=Q10 hc;unfold Qml at hc;split at hc<;>try (cases hc;done)
  rename_i cs' hcs;cases draw with
  | true =>
   grind
  | false =>
   simp only [Bool.false_eq_true,if_false,Option.some.injEq,CC.region.injEq,true_and,and_true] at hc;subst hc;refine wp_region ?_;rw [List.range_eq_range'];exact Q27 (Γ:=Γ) hcs (Q:=Q .norm) (fun σ' a' w' g' hq hs'=>⟨.norm,σ',g',rfl,hq,hs'⟩) ops.size 0 σ a w g (by omega) hs (by simpa using h)
 ·split at hc<;>cases hc
 ·split at hc<;>cases hc
 ·simp at hc
 ·simp at hc
def Qmo (ps:List Pair) (σ:St):Bool:=ps.all fun p=>Qi5 (σ.s p.a) p.n (σ.s p.b) p.m
theorem Tr.regionD {cs:List COp} {pc:Nat} {ps:List Pair} (hpc:pc≠9) (h:Q3v (ACalls Γ.P) Γ.n0 pc cs σ fun σ'=>Qmo ps σ'=true∧Q .norm σ'):Tr Γ (.region cs pc ps) σ Q:=by
 intro c hc a w g hs;cases c<;>simp only [Qt0] at hc<;>try (cases hc;done)
 case region id ops draw =>
  have hc:=Q10 hc;unfold Qml at hc;split at hc<;>try (cases hc;done)
  rename_i cs' hcs;cases draw with
  | false=>grind
  | true =>
   simp only [if_true] at hc;split at hc<;>try (cases hc;done)
   rename_i hcond;simp only [Bool.or_eq_true,Bool.not_eq_true',not_or,Bool.not_eq_false,Bool.not_eq_true] at hcond;obtain ⟨⟨hup,hm⟩,hn⟩:=hcond;have hnil:∀ c∈cs',c.kind.isNil=false:=by
    grind
   have fin:Qr9 pc (ancs ops.toList) cs'=some ps→cs'=cs→(Code.region id ops true).wp Γ.P (lift Γ.n0 Γ.nt Γ.g0 Γ.w0 Q) a w:=by
    intro hps he;subst he;exact Q8m (Q11 Γ.P) hcs hup hm hnil hps (Q:=fun σ'=>Q .norm σ') (fun σ' a' w' g' hq hs=>⟨.norm,σ',g',rfl,hq,hs⟩) hs h
   grind
 ·split at hc<;>cases hc
 ·split at hc<;>cases hc
 ·simp at hc
 ·simp at hc
structure WkV (v v' : V):Prop where
 rd:Wk v v'
 on:∀ p,v.on p→v'.on p
theorem WkV.refl (v:V):WkV v v:=⟨fun _ _ _ _ h=>h,fun _ h=>h⟩
theorem WkV.same {v v' : V} (h:v=v'):WkV v v':=h ▸ .refl v
theorem sm {v v' : V} (h:v=v'):WkV v v':=h ▸ .refl v
theorem WkV.und (v:V):WkV v .und:=⟨fun _ _ _ _ _=>by simp [RV],fun _ _=>trivial⟩
theorem WkV.dem (v:V):WkV v v.dem:=⟨fun _ _ ℓ _ h=>Qh8 v ℓ ℓ _ h,fun _ h=>(Qem v).2 h⟩
theorem WkV.dem' {v v' : V} (h:v.dem=v'):WkV v v':=h ▸ .dem v
theorem WkV.ownT (sz:Nat) (l:List (List D)):WkV (.own sz l) (.ownT sz l):=⟨fun _ _ _ _ h=>Q5t h,fun _ _=>trivial⟩
theorem WkV.trans {a b c:V} (h:WkV a b) (k:WkV b c):WkV a c:=⟨fun g w ℓ u hv=>k.rd g w ℓ u (h.rd g w ℓ u hv),fun p hp=>k.on p (h.on p hp)⟩
inductive WkVs:List V→List V→Prop where
 | nil:WkVs [] []
 | cons {v v' : V} {vs vs' : List V} (h:WkV v v') (t:WkVs vs vs'):WkVs (v::vs) (v'::vs')
theorem WkVs.rd {vs vs' : List V} (h:WkVs vs vs'):∀ g w ℓ i us,RVs g w vs ℓ i us→RVs g w vs' ℓ i us:=by
 induction h with
 | nil=>grind
 | cons h t ih =>
  intro g w ℓ i us hv;simp only [RVs] at hv ⊢;obtain ⟨u,us',rfl,h1,h2⟩:=hv;exact ⟨u,us',rfl,h.rd _ _ _ _ h1,ih _ _ _ _ _ h2⟩
theorem WkVs.on {vs vs' : List V} (h:WkVs vs vs'):∀ p,V.ons p vs→V.ons p vs':=by
 induction h with
 | nil=>exact fun _ h=>h
 | cons h t ih=>exact fun p hv=>⟨h.on p hv.1,ih p hv.2⟩
theorem WkVs.refl:∀ vs:List V,WkVs vs vs
 | []=>.nil
 | v::vs=>.cons (.refl v) (WkVs.refl vs)
theorem WkV.tup {vs vs' : List V} (h:WkVs vs vs'):WkV (.tup vs) (.tup vs'):=by
 refine ⟨fun g w ℓ u hv=>?_,fun p hv=>h.on p hv⟩;simp only [RV] at hv ⊢;obtain ⟨us,rfl,hv⟩:=hv;exact ⟨us,rfl,h.rd _ _ _ _ _ hv⟩
theorem WkV.agg {vs vs' : List V} (h:WkVs vs vs'):WkV (.agg vs) (.agg vs'):=by
 refine ⟨fun g w ℓ u hv=>?_,fun p hv=>h.on p hv⟩;simp only [RV] at hv ⊢;obtain ⟨us,rfl,hv,h1⟩:=hv;exact ⟨us,rfl,h.rd _ _ _ _ _ hv,h1⟩
def look:List (Nat×V)→Sl
 | [],_=>.und
 | (t,v)::E,i=>bif Nat.beq i t then v else look E i
def WkL (s:Sl):List (Nat×V)→Prop
 | []=>True
 | (t,v)::E=>WkV (s t) v∧WkL s E
theorem WkL.at {s:Sl}:∀ {E:List (Nat×V)},WkL s E→∀ t,WkV (s t) (look E t)
 | [],_,t=>.und _
 | (u,v)::E,h,t=>by
  simp only [look];cases hb:Nat.beq t u with
  | true=>have:=Nat.eq_of_beq_eq_true hb;subst this;exact h.1
  | false=>exact WkL.at h.2 t
theorem Qdt (E:List (Nat×V)) (t:Nat) (v:V):(look E).put t v=look ((t,v)::E):=by
 funext i
 simp_all [Sl.put,look,Nat.beq,Nat.eq_of_beq_eq_true]
def Qbo:List (Nat×Bx)→Nat→Option Bx
 | [],_=>none
 | (t,b)::L,i=>bif Nat.beq i t then some b else Qbo L i
def Ql (n0:Nat) (L:List (Nat×Bx)) (M0:Mem):Mem:=fun k=>if k<n0 then M0 k else Qbo L (k-n0)
theorem Qci {n0:Nat} {L:List (Nat×Bx)} {M0:Mem} {t:Nat}:Ql n0 L M0 (n0+t)=Qbo L t:=by
 simp_all [Ql,Nat.add_sub_cancel_left,if_neg]
theorem Qb7 {n0:Nat} {L:List (Nat×Bx)} {M0:Mem} {k:Nat} (h:k<n0):Ql n0 L M0 k=M0 k:=by
 simp [Ql,h]
theorem Qrn {n0:Nat} {M0:Mem} (h:∀ k,n0≤k→M0 k=none):Ql n0 [] M0=M0:=by
 funext k;simp only [Ql];split
 ·rfl
 ·exact (h k (by omega)).symm
theorem Qee {n0:Nat} {L:List (Nat×Bx)} {M0:Mem} {t:Nat} {b:Bx}:(Ql n0 L M0).put (n0+t) b=Ql n0 ((t,b)::L) M0:=by
 funext k;simp only [Mem.put,Ql,Qbo];by_cases h:k=n0+t
 ·subst h;rw [if_pos rfl,if_neg (by omega)];simp
 ·rw [if_neg h];by_cases hk:k<n0
  ·simp [hk]
  ·simp only [hk,if_false]
   grind [Nat.beq,Nat.eq_of_beq_eq_true]
theorem Qsl {n0:Nat} {L:List (Nat×Bx)} {M0:Mem} {k:Nat} {b:Bx} (h:k<n0):(Ql n0 L M0).put k b=Ql n0 L (M0.put k b):=by
 grind [Mem.put,Ql]
def KL (n0:Nat) (sites:List Nat) (s:Sl):List (Nat×V)→Prop
 | []=>True
 | (t,v)::E=>WkV (Qdq (Qjf n0 sites) (s t)) v∧KL n0 sites s E
theorem KL.at {n0:Nat} {sites:List Nat} {s:Sl}:∀ {E:List (Nat×V)},KL n0 sites s E→∀ t,WkV (Qdq (Qjf n0 sites) (s t)) (look E t)
 | [],_,t=>.und _
 | (u,v)::E,h,t=>by
  simp only [look];cases hb:Nat.beq t u with
  | true=>have:=Nat.eq_of_beq_eq_true hb;subst this;exact h.1
  | false=>exact KL.at h.2 t
def KB (n0:Nat) (sites:List Nat) (L:List (Nat×Bx)):List (Nat×Bx)→Prop
 | []=>True
 | (t,.cells cs')::L'=>(∃ cs,Qbo L t=some (.cells cs)∧sites.all (fun u=>!Nat.beq t u)=true∧WkVs (cs.map (Qdq (Qjf n0 sites))) cs')∧KB n0 sites L L'
 | (t,.mp es c)::L'=>(Qbo L t=some (.mp es c)∧sites.all (fun u=>!Nat.beq t u)=true)∧KB n0 sites L L'
abbrev bxs (L:List (Nat×Bx)):List (Nat×Bx):=L
theorem KB.at {n0:Nat} {sites:List Nat} {L:List (Nat×Bx)}:∀ {L' : List (Nat×Bx)},KB n0 sites L L'→∀ t b,Qbo L' t=some b→sites.all (fun u=>!Nat.beq t u)=true ∧
  ((∃ cs' cs,b = .cells cs'∧Qbo L t=some (.cells cs)∧WkVs (cs.map (Qdq (Qjf n0 sites))) cs')∨∃ es c,b = .mp es c∧Qbo L t=some (.mp es c))
 | [],_,t,b,hb=>by simp [Qbo] at hb
 | (u,.cells cs')::L',h,t,b,hb=>by
  simp only [Qbo] at hb;cases hbe:Nat.beq t u with
  | true =>
   have:=Nat.eq_of_beq_eq_true hbe;subst this;rw [hbe] at hb;simp only [cond_true,Option.some.injEq] at hb;obtain ⟨cs,h1,h2,h3⟩:=h.1
   grind
  | false =>
   rw [hbe] at hb;exact KB.at h.2 t b hb
 | (u,.mp es c)::L',h,t,b,hb=>by
  simp only [Qbo] at hb;cases hbe:Nat.beq t u with
  | true =>
   have:=Nat.eq_of_beq_eq_true hbe;subst this;rw [hbe] at hb;simp only [cond_true,Option.some.injEq] at hb;exact ⟨h.1.2,.inr ⟨es,c,hb.symm,h.1.1⟩⟩
  | false =>
   rw [hbe] at hb;exact KB.at h.2 t b hb
theorem Qt9:∀ {L:List (Nat×Bx)} {t:Nat} {b:Bx},Qbo L t=some b→∃ p∈L,p.1=t
 | [],_,_,h=>by simp [Qbo] at h
 | (u,c)::L,t,b,h=>by
  simp only [Qbo] at h;cases hbe:Nat.beq t u with
  | true=>exact ⟨(u,c),by simp,(Nat.eq_of_beq_eq_true hbe).symm⟩
  | false =>
   rw [hbe] at h;obtain ⟨p,hp,e⟩:=Qt9 h;exact ⟨p,by simp [hp],e⟩
theorem Qx6:∀ {L:List (Nat×Bx)} {p:Nat×Bx},p∈L→(Qbo L p.1).isSome=true
 | (u,c)::L,p,h=>by
  simp only [Qbo];cases hbe:Nat.beq p.1 u with
  | true=>rfl
  | false =>
   rcases List.mem_cons.1 h with rfl|h
   ·simp at hbe
   ·exact Qx6 h
theorem Qpo {n0 t:Nat} {sites:List Nat}:Qjf n0 sites (n0+t)=sites.any fun u=>Nat.beq t u:=by
 unfold Qjf;congr 1;funext u;cases hb:Nat.beq t u with
 | true=>simp_all
 | false =>
  have:t≠u:=fun e=>by subst e;simp at hb
  simp [this]
theorem Qmp {n0 k:Nat} {sites:List Nat} (h:k<n0):Qjf n0 sites k=false:=by
 grind [Qjf,Qbak]
theorem Q7j {sites:List Nat} {s1 s' : Sl} {E:List (Nat×V)} {L:List (Nat×Bx)} {L' : List (Nat×Bx)} {M0:Mem} {nb:Nat} (hE:∀ t,WkV (s1 t) (s' t)) (hL:KB Γ.n0 sites L L')
  (hk:(L.all fun p=>sites.any (Nat.beq p.1)||L'.any fun q=>Nat.beq p.1 q.1)=true) :
  WeakSt Γ ⟨s1,(Qk4 Γ.n0 sites ⟨look E,Ql Γ.n0 L M0,nb⟩).M,nb⟩ ⟨s',Ql Γ.n0 (bxs L') M0,nb⟩:=by
 intro a w g hs;have hbase:∀ k,k<Γ.n0→(Qk4 Γ.n0 sites ⟨look E,Ql Γ.n0 L M0,nb⟩).M k=M0 k:=by
  simp_all [Qk4,Qmp,Bool.false_eq_true,if_false,if_true,Qb7]
 have hown:∀ t cs,sites.all (fun u=>!Nat.beq t u)=true→Qbo L t=some (.cells cs)→(Qk4 Γ.n0 sites ⟨look E,Ql Γ.n0 L M0,nb⟩).M (Γ.n0+t)=some (.cells (cs.map (Qdq (Qjf Γ.n0 sites)))):=by
  intro t cs h1 h2;have h3:Qjf Γ.n0 sites (Γ.n0+t)=false:=by
   simp_all [Qpo,List.any_eq_false,List.all_eq_true,Bool.not_eq_true']
  have h4:¬ Γ.n0+t<Γ.n0:=by omega
  have h5:Ql Γ.n0 L M0 (Γ.n0+t)=some (.cells cs):=by rw [Qci];exact h2
  simp only [Qk4,h3,Bool.false_eq_true,if_false,h4,h5]
 have hownm:∀ t es c,sites.all (fun u=>!Nat.beq t u)=true→Qbo L t=some (.mp es c)→(Qk4 Γ.n0 sites ⟨look E,Ql Γ.n0 L M0,nb⟩).M (Γ.n0+t)=some (.mp es c):=by
  intro t es c h1 h2;have h3:Qjf Γ.n0 sites (Γ.n0+t)=false:=by
   simp_all [Qpo,List.any_eq_false,List.all_eq_true,Bool.not_eq_true']
  have h4:¬ Γ.n0+t<Γ.n0:=by omega
  have h5:Ql Γ.n0 L M0 (Γ.n0+t)=some (.mp es c):=by rw [Qci];exact h2
  simp only [Qk4,h3,Bool.false_eq_true,if_false,h4,h5]
 have hsplit:∀ k,k<Γ.n0∨∃ t,k=Γ.n0+t:=fun k=>by
  rcases Nat.lt_or_ge k Γ.n0 with h|h
  ·exact .inl h
  ·exact .inr ⟨k-Γ.n0,by omega⟩
 have hthere:∀ k,There (Qk4 Γ.n0 sites ⟨look E,Ql Γ.n0 L M0,nb⟩).M k→There (Ql Γ.n0 (bxs L') M0) k:=by
  intro k hk';rcases hsplit k with h|⟨t,rfl⟩
  ·grind [There,Qb7]
  ·simp only [There,Qci];have h4:¬ Γ.n0+t<Γ.n0:=by omega
   have h6:Qjf Γ.n0 sites (Γ.n0+t)=false:=by
    grind [Qjf,There,Qk4]
   have h7:∃ b,Qbo L t=some b:=by
    cases hb:Qbo L t with
    | some b=>exact ⟨b,rfl⟩
    | none =>
     have h5:Ql Γ.n0 L M0 (Γ.n0+t)=none:=by rw [Qci];exact hb
     simp only [There,Qk4,h6,Bool.false_eq_true,if_false,h4,h5] at hk';cases hk'
   obtain ⟨b,hb⟩:=h7;obtain ⟨p,hp,rfl⟩:=Qt9 hb;have:=List.all_eq_true.1 hk p hp;rw [Qpo] at h6;rw [Bool.or_eq_true] at this;rcases this with h8|h8
   ·rw [h6] at h8;cases h8
   ·obtain ⟨q,hq,he⟩:=List.any_eq_true.1 h8
    grind [Nat.eq_of_beq_eq_true,Qx6]
 refine ⟨g,⟨⟨fun k b hb=>?_,hs.mem.imm⟩,fun t=>(hE t).rd _ _ _ _ (hs.slots t),hs.size,hs.defers,fun t=>Qgj hthere _ ((hE t).on _ (hs.onS t)),fun k cs hb=>?_,hs.top,hs.fr⟩⟩
 ·rcases hsplit k with h|⟨t,rfl⟩
  ·have hb' : (Qk4 Γ.n0 sites ⟨look E,Ql Γ.n0 L M0,nb⟩).M k=some b:=by grind [Qb7]
   exact hs.mem.box k b hb'
  ·have hb' : Qbo (bxs L') t=some b:=by rw [← hb];exact Qci.symm
   obtain ⟨h2,⟨cs',cs,rfl,h1,h3⟩|⟨es,c,rfl,h1⟩⟩:=hL.at t b hb'
   ·obtain ⟨k1,k2,vals,e,k3,k4,k5⟩:=hs.mem.box _ _ (hown t cs h2 h1);exact ⟨k1,k2,vals,e,k3,h3.rd _ _ _ _ _ k4,k5⟩
   ·exact hs.mem.box _ _ (hownm t es c h2 h1)
 ·rcases hsplit k with h|⟨t,rfl⟩
  ·have hb' : (Qk4 Γ.n0 sites ⟨look E,Ql Γ.n0 L M0,nb⟩).M k=some (.cells cs):=by grind [Qb7]
   obtain ⟨k1,k2⟩:=hs.onM k cs hb';exact ⟨ons_mono hthere _ k1,k2⟩
  ·have hb' : Qbo (bxs L') t=some (.cells cs):=by rw [← hb];exact Qci.symm
   obtain ⟨h2,⟨cs',cs0,he,h1,h3⟩|⟨es,c,he,h1⟩⟩:=hL.at t _ hb'<;>cases he;obtain ⟨k1,k2⟩:=hs.onM _ _ (hown t cs0 h2 h1);exact ⟨ons_mono hthere _ (h3.on _ k1),fun hlt=>absurd hlt (by omega)⟩
theorem Q12 {sites:List Nat} {E E' : List (Nat×V)} {L:List (Nat×Bx)} {L' : List (Nat×Bx)} {M0:Mem} {nb:Nat} (hE:KL Γ.n0 sites (look E) E') (hL:KB Γ.n0 sites L L')
  (hk:(L.all fun p=>sites.any (Nat.beq p.1)||L'.any fun q=>Nat.beq p.1 q.1)=true) :
  WeakSt Γ (Qk4 Γ.n0 sites ⟨look E,Ql Γ.n0 L M0,nb⟩) ⟨look E',Ql Γ.n0 (bxs L') M0,nb⟩:=Q7j (E:=E) (s1:=(Qk4 Γ.n0 sites ⟨look E,Ql Γ.n0 L M0,nb⟩).s) hE.at hL hk
theorem Qga (sites:List Nat) {E E' : List (Nat×V)} {L:List (Nat×Bx)} {L' : List (Nat×Bx)} {M0:Mem} {nb:Nat} (hE:KL Γ.n0 sites (look E) E') (hL:KB Γ.n0 sites L L')
  (hk:(L.all fun p=>sites.any (Nat.beq p.1)||L'.any fun q=>Nat.beq p.1 q.1)=true) :
  WeakSt Γ ⟨look E,Ql Γ.n0 L M0,nb⟩ ⟨look E',Ql Γ.n0 (bxs L') M0,nb⟩ :=
 WeakSt.trans (fun a w g hs=>⟨g,Qzc hs sites⟩) (Q12 hE hL hk)
theorem kPtr {n0 t o:Nat} {sites:List Nat} (h:sites.any (fun u=>Nat.beq t u)=false):WkV (Qdq (Qjf n0 sites) (.ptr (n0+t) o)) (.ptr (n0+t) o):=by
 refine .same ?_;simp [Qdq,Qpo,h]
theorem Qbf7 {n0 k o:Nat} {sites:List Nat} (h:k<n0):WkV (Qdq (Qjf n0 sites) (.ptr k o)) (.ptr k o):=by
 refine .same ?_;simp [Qdq,Qmp h]
theorem kSl {n0 t sz o n c:Nat} {sites:List Nat} (h:sites.any (fun u=>Nat.beq t u)=false):WkV (Qdq (Qjf n0 sites) (.sl sz (n0+t) o n c)) (.sl sz (n0+t) o n c):=by
 refine .same ?_;simp [Qdq,Qpo,h]
theorem kSlB {n0 k sz o n c:Nat} {sites:List Nat} (h:k<n0):WkV (Qdq (Qjf n0 sites) (.sl sz k o n c)) (.sl sz k o n c):=by
 refine .same ?_;simp [Qdq,Qmp h]
theorem WkVs.same {vs vs' : List V} (h:vs=vs'):WkVs vs vs':=h ▸ .refl vs
end Go.Abs
end
