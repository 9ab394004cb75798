/-
  Part 4 of the proof: see the last text.
-/
import Derived.Test.YtccapdeoaoiieaaGreatDoorP3
import Derived.Lib.LaidTab
import Derived.Lib.ItoaMem
import Derived.Orders
set_option linter.unusedVariables false
set_option linter.unusedSimpArgs false
set_option linter.unusedSectionVars false
section
namespace Go.Abs
open Go
section
variable (P:Program) {g:G} {w:World} {n0 nt:Nat} {g0:G} {w0:World} {σ:St} {a:Act}
theorem Qg3 (s:Sem Value) {val:Value} {w' : World} (h:s.run P w = .ok val w'):((do pure (Next.value (← s)):Sem Next)).run P w = .ok (.value val) w':=by simp [h]
theorem Q6a (s:Sem Unit) {w' : World} (h:s.run P w = .ok () w'):((do s;pure Next.skip:Sem Next)).run P w = .ok .skip w':=by simp [h]
theorem Qbf2 {v:V} {sz k off len cap:Nat} (h:v.dem = .sl sz k off len cap):v = .sl sz k off len cap:=by
 cases v<;>simp [V.dem] at h ⊢;exact h
theorem Q8k {s s' : Sl} {M:Mem} {nb:Nat} {a:Act} (h:SR n0 nt g0 w0 ⟨s,M,nb⟩ a w g) (he:∀ i,s' i=s i):SR n0 nt g0 w0 ⟨s',M,nb⟩ a w g :=by simp_all [funext]
theorem Qzj (ps:Array (Nat×Operand)) (f:Operand→Value):((ps.toList.map (·.1)).zip ((ps.toList.map (·.2)).map f)).toArray=ps.map fun (i,x)=>(i,f x):=by
 grind
theorem Qbgz {s s' : Sl} {M:Mem} {nb:Nat} {a:Act} (h:SR n0 nt g0 w0 ⟨s,M,nb⟩ a w g) (he:∀ i,s' i=s i∨s' i=(s i).dem):SR n0 nt g0 w0 ⟨s',M,nb⟩ a w g:={
 mem:=h.mem
 slots:=fun t=>by
  rcases he t with e|e
  ·show RV g w (s' t) _ _;rw [e];exact h.slots t
  ·show RV g w (s' t) _ _;rw [e];exact Qha _ _ _ _ (h.slots t)
 size:=h.size
 defers:=h.defers
 onS:=fun t=>by
  rcases he t with e|e
  ·show (s' t).on _;rw [e];exact h.onS t
  ·show (s' t).on _;rw [e];exact (Qdn _).2 (h.onS t)
 onM:=h.onM
 top:=h.top
 fr:=h.fr }
theorem Qbe0 (args:Array Operand) (f:Operand→Value) (hs:args.size=1):∃ u,args.map f = #[u]∧args.toList.map f=[u]:=by
 cases args with
 | mk l =>
  match l,hs with
  | [x],_=>simp_all
theorem Qbdc (ts:Array TypeId) (hs:ts.size=1):ts = #[ts.getD 0 0]:=by
 cases ts with
 | mk l =>
  match l,hs with
  | [x],_=>simp
theorem Qbax (args:Array Operand) (f:Operand→Value) (hs:args.size=2):∃ u v,args.map f = #[u,v]∧args.toList.map f=[u,v]:=by
 cases args with
 | mk l =>
  match l,hs with
  | [x,y],_=>simp_all
theorem Qbay {u:Value} {xs:List V} (h:RFs g w xs [u]):∃ x,xs=[x]∧RF g w x u:=by
 match xs,h with
 | x::xs,⟨u',us,e,r,h⟩ =>
  simp only [List.cons.injEq] at e;obtain ⟨rfl,rfl⟩:=e;have hl:=Qf3 h
  grind
theorem Q2f {u v:Value} {xs:List V} (h:RFs g w xs [u,v]):∃ x y,xs=[x,y]∧RF g w x u∧RF g w y v:=by
 match xs,h with
 | x::xs,⟨u',us,e,r,h⟩ =>
  simp only [List.cons.injEq] at e;obtain ⟨rfl,rfl⟩:=e;obtain ⟨y,rfl,r'⟩:=Qbay h
  grind
theorem Q2g {u v x:Value} {xs:List V} (h:RFs g w xs [u,v,x]):∃ a b c,xs=[a,b,c]∧RF g w a u∧RF g w b v∧RF g w c x:=by
 match xs,h with
 | [a,b,c],⟨u1,us1,e1,r1,u2,us2,e2,r2,u3,us3,e3,r3,e4⟩ =>
  grind
 | [],h=>simp [RFs] at h
 | [_],⟨_,_,e1,_,e2⟩=>grind [RFs]
 | [_,_],⟨_,_,e1,_,_,_,e2,_,e3⟩=>grind [RFs]
 | _::_::_::_::_,⟨_,_,e1,_,_,_,e2,_,_,_,e3,_,_,_,e4,_⟩=>grind
theorem Qbf3 {nt:Nat} {dst:Option Nat} (h:∀ d,dst=some d→d<nt) (h0:0<nt):dst.getD 0<nt:=by
 cases dst with
 | none=>exact h0
 | some d=>exact h d rfl
theorem Q2h (h:SR n0 nt g0 w0 σ a w g) {ctx:Nat→TypeId} {m k x:Operand} {as:List Arg} (has:Qek P ctx 0 [m,k,x]=some as) {L:List Nat} (hT:inL L (tmpO x)=true) (t:TypeId) {kt:TypeId} {kd:MK} {z:V} (hmk:Qla P t=some (kt,kd,z)) {v:V} {κ:Nat} {M' : Mem}
  (hst:Qm n0 κ (.mapsetT kd) (as.map (·.val σ.s)) σ.M=some (v,M')) :
  ∃ w' g',(Instr.mapUpdate t (a.eval m) (a.eval k) (a.eval x)).run P w = .ok () w'∧SR n0 nt g0 w0 ⟨Qba σ.s as (Qb4 (.mapsetT kd) (as.map (·.val σ.s))),M',σ.nb⟩ a w' g':=by
 obtain ⟨t0,rfl⟩ : ∃ t0,x = .tmp t0:=by
  cases x<;>simp [tmpO,inL] at hT;exact ⟨_,rfl⟩
 simp only [Qek] at has;cases hm:Qe1 P (ctx 0) m with
 | none=>grind
 | some am =>
  cases hk:Qe1 P (ctx (0+1)) k with
  | none=>grind
  | some ak =>
   rw [hm,hk] at has;simp only [Qe1,Option.some.injEq] at has;subst has;obtain ⟨m1,m2⟩:=Qg2 P h hm;obtain ⟨k1,k2⟩:=Qg2 P h hk;simp only [List.map_cons,List.map_nil,Arg.val] at hst;obtain ⟨b,key,sz,l,es,cl,hxs,hMk,hk1,hk2,rfl,rfl⟩:=Qyn hst;simp only [List.cons.injEq,and_true] at hxs;obtain ⟨e1,e2,e3⟩:=hxs;have q1:(am.val σ.s).dem=am.val σ.s:=by
    have:am.val σ.s = .mp b:=e1;rw [this];rfl
   have q2:(ak.val σ.s).dem=ak.val σ.s:=by
    have:ak.val σ.s=key:=e2;rw [this];exact Qr7 (Qbar hk1)
   rw [q1] at m1;rw [q2] at k1;obtain ⟨w',g',hr,hsr⟩:=Q9h P h t hmk m1 k1 (t0:=t0) hst;refine ⟨w',g',hr,Q8k hsr fun i=>?_⟩;simp only [List.map_cons,List.map_nil,Qb4,Qba,Arg.putTo,Sl.put];by_cases hi:i=t0
   ·simp only [hi,if_true];rfl
   ·simp only [hi,if_false];cases ak with
    | c v =>
     cases am with
     | c u=>rfl
     | t im =>
      simp only [Sl.put];split
      ·rename_i he;subst he;rfl
      ·rfl
    | t ik =>
     simp only [Sl.put];split
     ·rename_i he;subst he;rfl
     ·cases am with
      | c u=>rfl
      | t im =>
       simp only [Sl.put];split
       ·rename_i he;subst he;rfl
       ·rfl
theorem Qcy (h:SR n0 nt g0 w0 σ a w g) {o:Oper} (hd:∀ d,o.dst=some d→d<nt) {k:K} (hz:k.okz) {as:List Arg} {v:V} {M' : Mem} {κ:Nat}
  (hs:Qm n0 κ k (V.dems (as.map (·.val σ.s))) σ.M=some (v,M')) (hon:V.ons (There σ.M) (V.dems (as.map (·.val σ.s)))) (hr:M'=σ.M∧∃ val,(execOp a.eval o).run P w = .ok (.value val) w∧RF g w v val) :
  Gives P n0 nt g0 w0 o a w ⟨Qbd σ.s o.dst v,M',σ.nb⟩:=by
 obtain ⟨rfl,val,hrun,hrf⟩:=hr;exact .inl ⟨val,w,g,hrun,h.pure hd (fun _ _=>hrf _) (Q4x hz hs hon h.mOn).1⟩
theorem Qbf4 (h:SR n0 nt g0 w0 σ a w g) {d:Nat} (hd:d<nt) (t e:TypeId) (ht:P.underlying t=some (.slice e)) {z0:V} (hz:Qrf P e=some [z0]) (h1:P.cellsOf e=1) {x:D} {u:Value} (hx:RF g w (.d x) u) :
  ∃ val w' g',(Instr.buildSlice t 1 #[(0,u)]).run P w = .ok val w'∧SR n0 nt g0 w0 ⟨Qbd σ.s (some d) (.own 1 [[x]]),σ.M,σ.nb⟩ (a.put (some d) val) w' g':=by
 obtain ⟨i,zv,hi,hzv,hcz,hlt⟩:=Qji P hz;have hcl:=(hcz g w).len;have hzs:zv.cells.size=1:=by simpa using hcl
 obtain ⟨out,hfill,hcr⟩:=Qsv (g:=g) (w:=w) (fun i=>some (i*1,1)) (rep 1 [z0]) _ (CR.rep (hcz g w) 1) [0] [0] [1] [.d x] [u] ⟨u,[],rfl,hx,rfl⟩ (fun y hy=>by simp only [List.mem_singleton] at hy;subst hy;rfl) rfl rfl rfl
  (fun j y i o s hxj hij hoj hsj=>by
   cases j with
   | succ j=>simp at hxj
   | zero =>
    simp only [List.getElem?_cons_zero,Option.some.injEq] at hxj hij hoj hsj;subst hxj hij hoj hsj;exact ⟨rfl,rfl,by simp [rep],rfl⟩)
 have e1:Qiy (rep 1 [z0]) (([0].zip [V.d x]).map fun p=>(p.1,p.2.cells))=[.d x]:=rfl;rw [e1] at hcr;have hl:=hcr.len
 match out,hl,hcr with
 | [v],_,hcr =>
  obtain ⟨g',hsr⟩:=h.newlit hd (RF_d.1 (hcr.rf 0 (.d x) v rfl rfl)) (hcr.one v (by simp)) e;refine ⟨_,_,g',?_,hsr⟩;have hm:=Qpk zv.cells (by omega) 1;rw [hzs] at hm;unfold madeCells at hm;have hso:∀ w,(sizeOf e).run P w = .ok (P.cellsOf e) w:=fun w=>by rw [Qf4 P hi,Qdx P hi]
  rw [← hm] at hfill;simp only [List.zip_cons_cons,List.zip_nil_left,hzs,Nat.mul_one] at hfill;simp [Instr.buildSlice,run_underlying ht,hso,Qpj P hi hzv,h1,hzs,newRow];rw [hfill];simp
theorem Q9i {κ sz:Nat} {x i v:V} {M M' : Mem} (hs:Qm n0 κ (.slcT sz) [x,i] M=some (v,M')) :
  M'=M∧∃ k n l,i = .d (.int k n)∧0≤n∧n≤(l.length:Int)∧((x = .d (.lst sz l)∧v = .d (.lst sz (l.drop n.toNat)))∨((x = .ownT sz l∨x = .own sz l)∧v = .ownT sz (l.drop n.toNat))):=by
 cases i
 case d di =>
  cases di
  case int k n =>
   cases x
   case d dx =>
    cases dx
    case lst sz' l =>
     simp only [Qm] at hs;split at hs<;>cases hs;rename_i hc;simp only [Bool.and_eq_true,decide_eq_true_eq] at hc;obtain ⟨⟨rfl,n1⟩,n2⟩:=hc;exact ⟨rfl,k,n,l,rfl,n1,n2,.inl ⟨rfl,rfl⟩⟩
    all_goals (simp [Qm] at hs)
   case own sz' l =>
    simp only [Qm] at hs;split at hs<;>cases hs;rename_i hc;simp only [Bool.and_eq_true,decide_eq_true_eq] at hc;obtain ⟨⟨rfl,n1⟩,n2⟩:=hc;exact ⟨rfl,k,n,l,rfl,n1,n2,.inr ⟨.inr rfl,rfl⟩⟩
   case ownT sz' l =>
    simp only [Qm] at hs;split at hs<;>cases hs;rename_i hc;simp only [Bool.and_eq_true,decide_eq_true_eq] at hc;obtain ⟨⟨rfl,n1⟩,n2⟩:=hc;exact ⟨rfl,k,n,l,rfl,n1,n2,.inr ⟨.inl rfl,rfl⟩⟩
   all_goals (simp [Qm] at hs)
  all_goals (simp [Qm] at hs)
 all_goals (simp [Qm] at hs)
theorem Qbe1 (h:SR n0 nt g0 w0 σ a w g) (t e:TypeId) (ht:P.underlying t=some (.slice e)) (h0:P.cellsOf e≠0) (t0 d:Nat) (hd:d<nt) {lv:Operand} {a1:Arg} (ha1:Qe1 P t lv=some a1) {κ:Nat} {v:V} {M' : Mem}
  (hst:Qm n0 κ (.slcT (P.cellsOf e)) [Arg.val σ.s (.t t0),a1.val σ.s] σ.M=some (v,M')) :
  ∃ val g',(Instr.sliceAt t (a.eval (.tmp t0)) (some (a.eval lv)) none none).run P w = .ok val w ∧
   SR n0 nt g0 w0 ⟨Qbd (Qba σ.s [Arg.t t0,a1] (Qb4 (.slcT (P.cellsOf e)) [Arg.val σ.s (.t t0),a1.val σ.s])) (some d) v,M',σ.nb⟩ (a.put (some d) val) w g':=by
 obtain ⟨hi1,hi2⟩:=Qg2 P h ha1;obtain ⟨rfl,k,n,l,hiv,n1,n2,hcase⟩:=Q9i hst;rw [hiv] at hi1;have hev:a.eval lv = .int k n:=Qov hi1;have hsl:∀ j,Qba σ.s [Arg.t t0,a1] (Qb4 (.slcT (P.cellsOf e)) [Arg.val σ.s (.t t0),a1.val σ.s]) j=σ.s.put t0 (σ.s t0).dem j:=by
  intro j;simp only [Qb4,Qba,Arg.putTo];cases a1 with
  | c c=>rfl
  | t t1 =>
   simp only [Arg.val] at hiv ⊢;simp only [Sl.put];by_cases hj:j=t1
   ·subst hj;rw [if_pos rfl];split
    ·rename_i he;subst he;rw [hiv];rfl
    ·rfl
   ·rw [if_neg hj]
 rw [hev,funext hsl];have hslot:=h.slots t0;have hae:a.eval (.tmp t0)=a.tmps.getD t0 undef:=rfl;rw [hae];rcases hcase with ⟨hx,rfl⟩|⟨hx,rfl⟩
 ·rw [show σ.s t0=_ from hx] at hslot;obtain ⟨_,val,hr,hrf⟩:=Q75 (n0:=0) (κ:=0) (M:=σ.M) P t e ht h0 (some (.int k n)) none (bs:=[.d (.int k n)]) (Qv6 hslot) ⟨_,_,rfl,RF_d.2 (by simp [RD]),rfl⟩ (v:=.d (.lst (P.cellsOf e) (l.drop n.toNat))) (M':=σ.M) (by
   simp_all [Qyl,Option.isSome,Qn5,Option.getD,V.dem,if_pos])
  obtain ⟨g',hsr⟩:=Q8b h t0 d hd (hrf _) trivial
  grind
 ·have hrv:RV g w (.ownT (P.cellsOf e) l) (.slot t0 []) (a.tmps.getD t0 undef):=by
   rcases hx with hx|hx
   ·rwa [show σ.s t0=_ from hx] at hslot
   ·rw [show σ.s t0=_ from hx] at hslot;exact Q7e hslot
  obtain ⟨val,hr,hv⟩:=Qbc6 P t e ht h0 hrv k n n1 n2;obtain ⟨g',hsr⟩:=Q8b h t0 d hd hv trivial
  grind
set_option maxHeartbeats 1000000 in
theorem Q9j {T:Tk} {ops:Array Oper} {o:Oper} {c:COp} (hc:Qiz P T nt ops o=some c) (hcall:c.kind.isCall=false) (hnil:c.kind.isNil=false)
  (h:SR n0 nt g0 w0 σ a w g) {σ' : St} (hs:c.step n0 σ=some σ'):Gives P n0 nt g0 w0 o a w σ':=by
 obtain ⟨k,as,tk,hk,hd,hnt,hcd,hck,hca,hct⟩ : ∃ k as tk,Qe2 P T o=some (k,as,tk)∧(∀ d,o.dst=some d→d<nt)∧0<nt∧c.dst=o.dst∧c.kind=k∧c.args=as∧c.tk=tk:=by
  unfold Qiz at hc;split at hc<;>try (cases hc;done)
  rename_i k as tk hk;split at hc<;>try (cases hc;done)
  rename_i hcond;simp only [Bool.and_eq_true,decide_eq_true_eq] at hcond;refine ⟨k,as,tk,hk,fun d hd=>?_,hcond.1.1,?_⟩
  ·have:=hcond.1.2;rw [hd] at this;simpa [Q7d] using this
  ·split at hc
   ·cases hc;exact ⟨rfl,rfl,rfl,rfl⟩
   ·split at hc<;>cases hc;exact ⟨rfl,rfl,rfl,rfl⟩
 have hz:=Q53 P hk;simp only [COp.step,COp.xs,hcd,hck,hca,hct] at hs;rw [hck] at hcall hnil;clear hcd hck hca hct hc;have hκ:n0≤n0+o.dst.getD 0:=by omega
 have hκ' : n0+o.dst.getD 0<σ.nb:=by
  have h1:=h.top;have h2:=Qbf3 hd hnt;omega
 generalize n0+o.dst.getD 0=κ at hs hκ hκ';have plain:tk=false→∃ v M',Qm n0 κ k (V.dems (as.map (·.val σ.s))) σ.M=some (v,M')∧σ'=⟨Qbd σ.s o.dst v,M',σ.nb⟩:=by
  rintro rfl;simp only [Bool.false_eq_true,if_false] at hs;split at hs<;>cases hs;rename_i v M heq;exact ⟨v,M,heq,rfl⟩
 unfold Qe2 at hk;cases hop:o.op<;>rw [hop] at hk<;>simp only at hk<;>try (cases hk;done)
 case move x =>
  simp only [Option.map_eq_some_iff,Prod.mk.injEq] at hk;obtain ⟨ar,har,rfl,rfl,htk⟩:=hk;cases tk with
  | false =>
   obtain ⟨v,M',hst,rfl⟩:=plain rfl;obtain ⟨h1,h2⟩:=Qg2 P h har;refine Qcy P h hd hz hst ⟨(Qdn _).2 h2,trivial⟩ ?_;simp only [List.map_cons,List.map_nil,V.dems,Qm,Option.some.injEq,Prod.mk.injEq] at hst;obtain ⟨rfl,rfl⟩:=hst;exact ⟨rfl,_,by simp [execOp,hop],h1⟩
  | true =>
   rcases Qlq P h har with ⟨t,rfl,rfl,h1,h2⟩|⟨hx,cv,rfl,hc1,hc2⟩
   ·cases hdst:o.dst with
    | none=>simp [hdst,inL,Q3f] at htk
    | some d =>
     simp only [if_true,List.map_cons,List.map_nil,Qm,Arg.val,Qb4] at hs;cases hs;obtain ⟨g',hsr⟩:=Qbak h t d (hd d hdst);refine .inl ⟨_,w,g',by simp only [execOp,hop];rfl,?_⟩;rw [hdst];exact hsr
   ·simp only [if_true,List.map_cons,List.map_nil,Qm,Arg.val,Qb4] at hs;cases hs;refine .inl ⟨_,w,g,by simp only [execOp,hop];rfl,?_⟩;exact h.pure hd (fun _ _=>hc1 _) hc2
 case assign x =>
  simp only [Option.map_eq_some_iff,Prod.mk.injEq] at hk;obtain ⟨ar,har,rfl,rfl,htk⟩:=hk;cases tk with
  | false =>
   obtain ⟨v,M',hst,rfl⟩:=plain rfl;obtain ⟨h1,h2⟩:=Qg2 P h har;refine Qcy P h hd hz hst ⟨(Qdn _).2 h2,trivial⟩ ?_;simp only [List.map_cons,List.map_nil,V.dems,Qm,Option.some.injEq,Prod.mk.injEq] at hst;obtain ⟨rfl,rfl⟩:=hst;exact ⟨rfl,_,by simp [execOp,hop],h1⟩
  | true =>
   rcases Qlq P h har with ⟨t,rfl,rfl,h1,h2⟩|⟨hx,cv,rfl,hc1,hc2⟩
   ·simp only [if_true,List.map_cons,List.map_nil,Qm,Arg.val,Qb4] at hs;cases hs;cases hdst:o.dst with
    | none =>
     refine .inl ⟨_,w,g,by simp only [execOp,hop];rfl,?_⟩;rw [hdst];refine h.step h.mem (Fr.refl _ _ _) (fun t'=>?_) (Qge _ _ _) (Qd7 _ _ _) (fun t'=>?_) h.mOn h.out
     ·simp only [Qbd,Qba,Arg.putTo,Sl.put,Act.put];split
      ·rename_i he;subst he;exact Qha _ _ _ _ (h.slots t')
      ·exact h.slots t'
     ·simp only [Qbd,Qba,Arg.putTo,Sl.put];split
      ·exact (Qdn _).2 h2
      ·exact h.onS t'
    | some d =>
     obtain ⟨g',hsr⟩:=Qbak h t d (hd d hdst);refine .inl ⟨_,w,g',by simp only [execOp,hop];rfl,?_⟩;rw [hdst];exact hsr
   ·simp only [if_true,List.map_cons,List.map_nil,Qm,Arg.val,Qb4] at hs;cases hs;refine .inl ⟨_,w,g,by simp only [execOp,hop];rfl,?_⟩;exact h.pure hd (fun _ _=>hc1 _) hc2
 case pick x y z =>
  simp only [Option.map_eq_some_iff,Prod.mk.injEq] at hk;obtain ⟨as',has,rfl,rfl,rfl⟩:=hk;obtain ⟨v,M',hst,rfl⟩:=plain rfl;obtain ⟨h1,h2⟩:=Qeh P h _ _ _ _ has;refine Qcy P h hd hz hst h2 ?_;generalize V.dems (as'.map (·.val σ.s))=xs at hst h1
  match xs,h1 with
  | [x',y',z'],⟨u1,us1,e1,r1,u2,us2,e2,r2,u3,us3,e3,r3,e4⟩ =>
   simp only [List.map_cons,List.map_nil,List.cons.injEq] at e1;obtain ⟨rfl,rfl⟩:=e1;simp only [List.cons.injEq] at e2;obtain ⟨rfl,rfl⟩:=e2;simp only [List.cons.injEq] at e3;obtain ⟨rfl,rfl⟩:=e3;obtain ⟨hM,val,hr,hrf⟩:=Qbet P r1 r2 r3 hst;exact ⟨hM,val,by simpa [execOp,hop] using hr,hrf⟩
 case alloc e =>
  simp only [Option.map_eq_some_iff,Prod.mk.injEq] at hk;obtain ⟨z,hze,rfl,rfl,rfl⟩:=hk;obtain ⟨v,M',hst,rfl⟩:=plain rfl;obtain ⟨val,w',g',hr,hsr⟩:=Qbc4 P h hd e hze hκ hκ' hst;exact .inl ⟨val,w',g',by simp only [execOp,hop];exact Qg3 P _ hr,hsr⟩
 case box e x =>
  simp only [Option.map_eq_some_iff,Prod.mk.injEq] at hk;obtain ⟨ar,har,rfl,rfl,rfl⟩:=hk;obtain ⟨v,M',hst,rfl⟩:=plain rfl;obtain ⟨h1,h2⟩:=Qg2 P h har;obtain ⟨val,w',g',hr,hsr⟩:=Qbfz P h hd e hκ hκ' (Qdj _) h1 ((Qdn _).2 h2) hst;exact .inl ⟨val,w',g',by simp only [execOp,hop];exact Qg3 P _ hr,hsr⟩
 case load t x =>
  split at hk<;>try (cases hk;done)
  rename_i ar har;obtain ⟨h1,h2⟩:=Qg2 P h har;split at hk
  ·rename_i hsl;simp only [Option.some.injEq,Prod.mk.injEq] at hk;obtain ⟨rfl,rfl,rfl⟩:=hk;obtain ⟨v,M',hst,rfl⟩:=plain rfl;simp only [Bool.and_eq_true] at hsl;have ht:∃ e,P.underlying t=some (.slice e):=by
    have:=hsl.1;unfold Qt1 at this;split at this
    ·exact ⟨_,by assumption⟩
    ·cases this
   obtain ⟨e,ht⟩:=ht;obtain ⟨val,g',hr,hsr⟩:=Qbc7 P h hd t e ht h1 ((Qdn _).2 h2) hst;exact .inl ⟨val,w,g',by simp only [execOp,hop];exact Qg3 P _ hr,hsr⟩
  ·split at hk<;>try (cases hk;done)
   rename_i hu;obtain ⟨d,hu⟩:=Option.isSome_iff_exists.1 hu;simp only [Option.some.injEq,Prod.mk.injEq] at hk;obtain ⟨rfl,rfl,rfl⟩:=hk;obtain ⟨v,M',hst,rfl⟩:=plain rfl;refine Qcy P h hd hz hst ⟨(Qdn _).2 h2,trivial⟩ ?_;obtain ⟨hM,val,hr,hrf⟩:=Qbaa P h.mem t hu h1 hst;exact ⟨hM,val,by simp only [execOp,hop];exact Qg3 P _ hr,hrf⟩
 case store t p x =>
  split at hk<;>try (cases hk;done)
  rename_i pa xa hpa hxa;split at hk<;>try (cases hk;done)
  rename_i hu;simp only [Bool.and_eq_true,Option.isNone_iff_eq_none] at hu;obtain ⟨hu,hdst⟩:=hu;obtain ⟨d,hu⟩:=Option.isSome_iff_exists.1 hu;simp only [Option.some.injEq,Prod.mk.injEq] at hk;obtain ⟨rfl,rfl,htk⟩:=hk;obtain ⟨hp1,hp2⟩:=Qg2 P h hpa;cases tk with
  | false =>
   obtain ⟨v,M',hst,rfl⟩:=plain rfl;obtain ⟨hx1,hx2⟩:=Qg2 P h hxa;obtain ⟨w',g',hr,hsr⟩:=Q8a P h t hu hp1 ((Qdn _).2 hp2) ((Qdn _).2 hx2) none ⟨hx1,Qdj _⟩ hst;refine .inr ⟨w',g',by simp only [execOp,hop];exact Q6a P _ hr,?_⟩;rw [hdst];exact hsr
  | true =>
   simp only [if_true,List.map_cons,List.map_nil] at hs;split at hs<;>cases hs;rename_i v M' hst;rcases Qlq P h hxa with ⟨t0,rfl,rfl,h1,h2⟩|⟨hx,_⟩
   ·have hpf:(pa.val σ.s).dem=pa.val σ.s∧(∃ k o,pa.val σ.s = .ptr k o):=by
     cases hpv:pa.val σ.s<;>rw [hpv] at hst<;>try (simp [Qm] at hst;done)
     exact ⟨rfl,_,_,rfl⟩
    obtain ⟨hpf,k0,o0,hpk⟩:=hpf;rw [hpf] at hp1;obtain ⟨w',g',hr,hsr⟩:=Q8a P h t hu hp1 hp2 h2 (some t0) ⟨rfl,rfl⟩ hst;refine .inr ⟨w',g',by simp only [execOp,hop];exact Q6a P _ hr,?_⟩;rw [hdst];refine Q8k hsr (fun i=>?_);cases pa with
    | c v=>rfl
    | t i0 =>
     simp only [Qbd,Qba,Qb4,Arg.putTo,Sl.put,Arg.val];split
     ·rfl
     ·split
      ·rename_i he;subst he;rfl
      ·rfl
   ·simp [hx] at htk
 case nilCheck x =>
  simp only [Option.map_eq_some_iff,Prod.mk.injEq] at hk;obtain ⟨ar,har,rfl,rfl,rfl⟩:=hk;obtain ⟨v,M',hst,rfl⟩:=plain rfl;obtain ⟨h1,h2⟩:=Qg2 P h har;exact Qcy P h hd hz hst ⟨(Qdn _).2 h2,trivial⟩ (Qbab P h1 hst o a x hop rfl)
 case unOp op t x =>
  simp only [Option.map_eq_some_iff,Prod.mk.injEq] at hk;obtain ⟨ar,har,rfl,rfl,rfl⟩:=hk;obtain ⟨v,M',hst,rfl⟩:=plain rfl;obtain ⟨h1,h2⟩:=Qg2 P h har;refine Qcy P h hd hz hst ⟨(Qdn _).2 h2,trivial⟩ ?_;simp only [List.map_cons,List.map_nil,V.dems] at hst;generalize (ar.val σ.s).dem=xv at hst h1;cases xv<;>try (simp [Qm] at hst;done)
  simp only [Qm,Option.map_eq_some_iff,Prod.mk.injEq] at hst;obtain ⟨c,hc,rfl,rfl⟩:=hst;obtain ⟨val,hr,hrf⟩:=Qbgy P op h1 hc;exact ⟨rfl,val,by simp only [execOp,hop];exact Qg3 P _ hr,hrf⟩
 case fieldAddr s x f =>
  split at hk<;>try (cases hk;done)
  rename_i fs hfs;split at hk<;>try (cases hk;done)
  rename_i fd ar hfd har;split at hk<;>try (cases hk;done)
  rename_i h0;cases hk;obtain ⟨v,M',hst,rfl⟩:=plain rfl;obtain ⟨h1,h2⟩:=Qg2 P h har;obtain ⟨hM,val,hr,hrf⟩:=Qbac P s fs hfs f fd hfd h0 h1 hst;exact Qcy P h hd hz hst ⟨(Qdn _).2 h2,trivial⟩ ⟨hM,val,by simp only [execOp,hop];exact Qg3 P _ hr,hrf⟩
 case extract x i =>
  simp only [Option.map_eq_some_iff,Prod.mk.injEq] at hk;obtain ⟨ar,har,rfl,rfl,htk⟩:=hk;cases tk with
  | false =>
   obtain ⟨v,M',hst,rfl⟩:=plain rfl;obtain ⟨h1,h2⟩:=Qg2 P h har;obtain ⟨hM,val,hr,hrf⟩:=Q9f P (Qdj _) h1 hst;exact Qcy P h hd hz hst ⟨(Qdn _).2 h2,trivial⟩ ⟨hM,val,by simp only [execOp,hop];exact Qg3 P _ hr,hrf⟩
  | true =>
   rcases Qlq P h har with ⟨t0,rfl,rfl,h1,h2⟩|⟨hx,_⟩
   ·simp only [if_true,List.map_cons,List.map_nil] at hs;split at hs<;>cases hs;rename_i v M' hst;simp only [Arg.val] at hst;cases hv:σ.s t0<;>rw [hv] at hst<;>try (simp [Qm] at hst;done)
    rename_i vs;simp only [Qm,Option.map_eq_some_iff,Prod.mk.injEq] at hst;obtain ⟨c,hc,rfl,rfl⟩:=hst;cases hdst:o.dst with
    | none=>simp [hdst] at htk
    | some d =>
     obtain ⟨val,g',hr,hsr⟩:=Q7k P h t0 i d (hd d hdst) hv hc;refine .inl ⟨val,w,g',by simp only [execOp,hop];exact Qg3 P _ hr,?_⟩;rw [hdst];have hsl:Qba σ.s [Arg.t t0] (Qb4 (.extract i) [Arg.val σ.s (.t t0)])=σ.s.put t0 (.tup (vs.set i c.dem)):=by
      simp only [Arg.val,hv,Qb4,hc];rfl
     rw [hsl];exact hsr
   ·simp [hx] at htk
 case binOp op xt x y yt =>
  split at hk<;>try (cases hk;done)
  rename_i xa ya hxa hya;obtain ⟨hx1,hx2⟩:=Qg2 P h hxa;obtain ⟨hy1,hy2⟩:=Qg2 P h hya;have scal:∀ tb,k = .bin op tb→as=[xa,ya]→tk=false→(tb=true→P.underlying xt=some .bool)→Gives P n0 nt g0 w0 o a w σ':=by
   rintro tb rfl rfl rfl htb;obtain ⟨v,M',hst,rfl⟩:=plain rfl;refine Qcy P h hd hz hst ⟨(Qdn _).2 hx2,(Qdn _).2 hy2,trivial⟩ ?_;simp only [List.map_cons,List.map_nil,V.dems] at hst;generalize (xa.val σ.s).dem=xv at hst hx1;generalize (ya.val σ.s).dem=yv at hst hy1;cases xv<;>try (simp [Qm] at hst;done)
   cases yv<;>try (simp [Qm] at hst;done)
   simp only [Qm,Option.map_eq_some_iff,Prod.mk.injEq] at hst;obtain ⟨c,hc,rfl,rfl⟩:=hst;obtain ⟨val,hr,hrf⟩:=Qbfx P op tb xt htb x y hx1 hy1 hc;exact ⟨rfl,val,by simp only [execOp,hop];exact Qg3 P _ hr,hrf⟩
  split at hk<;>try (cases hk;done)
  ·split at hk<;>try (cases hk;done)
   ·cases hk;simp [K.isNil] at hnil
   ·cases hk;simp [K.isNil] at hnil
  ·rename_i pt hu;have sub:∀ neg,(op = .eql∧neg=false∨op = .neq∧neg=true)→y = .const (.pointer none)→k = .pnil neg→as=[xa]→tk=false→Gives P n0 nt g0 w0 o a w σ':=by
    rintro neg hop' rfl rfl rfl rfl;obtain ⟨v,M',hst,rfl⟩:=plain rfl;refine Qcy P h hd hz hst ⟨(Qdn _).2 hx2,trivial⟩ ?_;simp only [List.map_cons,List.map_nil,V.dems] at hst;generalize (xa.val σ.s).dem=xv at hst hx1;have hpt:P.underlying xt=some (.pointer (P.pointee xt)):=by simp [Program.pointee,hu]
    obtain ⟨p,hp,rfl,rfl⟩ : ∃ p:Option Addr,a.eval x = .pointer p∧v = .d (.bool (if neg then !p.isNone else p.isNone))∧M'=σ.M:=by
     have hu1:=hx1 .free;simp only [Qm,Option.map_eq_some_iff,Prod.mk.injEq] at hst;obtain ⟨c,hc,rfl,rfl⟩:=hst;cases xv<;>simp only [nilP] at hc<;>cases hc<;>simp only [RV] at hu1
     ·exact ⟨_,hu1,rfl,rfl⟩
     ·exact ⟨_,hu1,rfl,rfl⟩
     ·obtain ⟨b,o',hu1,_⟩:=hu1;exact ⟨_,hu1,rfl,rfl⟩
    refine ⟨rfl,.bool (if neg then !p.isNone else p.isNone),?_,by rw [RF_d];simp [RD]⟩;simp only [execOp,hop];refine Qg3 P _ ?_;have hev:a.eval (.const (.pointer none)) = .pointer none:=rfl;rw [hp,hev,Sem.run_bind,Qp6 P _ _ _ _ _ _ rfl w,Result.andThen_ok];rcases hop' with ⟨rfl,rfl⟩|⟨rfl,rfl⟩
    ·exact run_eql_pointer_nil w xt p hpt
    ·exact run_neq_pointer_nil w xt p hpt
   split at hk<;>try (cases hk;done)
   ·cases hk;exact sub false (.inl ⟨rfl,rfl⟩) rfl rfl rfl rfl
   ·cases hk;exact sub true (.inr ⟨rfl,rfl⟩) rfl rfl rfl rfl
  ·cases hk;exact scal false rfl rfl rfl (by simp)
  ·cases hk;exact scal false rfl rfl rfl (by simp)
  ·rename_i hu;cases hk;exact scal true rfl rfl rfl (fun _=>hu)
  ·rename_i fs hu;have sub:∀ neg ks,(op = .eql∧neg=false∨op = .neq∧neg=true)→Qle P xt=some ks→k = .eqa neg ks→as=[xa,ya]→tk=false→Gives P n0 nt g0 w0 o a w σ':=by
    rintro neg ks hop' hks rfl rfl rfl;obtain ⟨v,M',hst,rfl⟩:=plain rfl;refine Qcy P h hd hz hst ⟨(Qdn _).2 hx2,(Qdn _).2 hy2,trivial⟩ ?_;simp only [List.map_cons,List.map_nil,V.dems] at hst;have hfx:=Qdj (xa.val σ.s);have hfy:=Qdj (ya.val σ.s);generalize (xa.val σ.s).dem=xv at hst hx1 hfx;generalize (ya.val σ.s).dem=yv at hst hy1 hfy;cases xv<;>try (simp [Qm] at hst;done)
    cases yv<;>try (simp [Qm] at hst;done)
    simp only [Qm,Option.map_eq_some_iff,Prod.mk.injEq] at hst;obtain ⟨b,hb,rfl,rfl⟩:=hst;obtain ⟨vs,hvs,hl,hr,_⟩:=Q06 hfx hx1;obtain ⟨vs',hvs',hl',hr',_⟩:=Q06 hfy hy1;have:=Qbd3 P xt hks hl hr hl' hr' hb;refine ⟨rfl,.bool (if neg then !b else b),?_,by rw [RF_d];simp [RD]⟩;simp only [execOp,hop];refine Qg3 P _ ?_;rw [hvs,hvs'];rcases hop' with ⟨rfl,rfl⟩|⟨rfl,rfl⟩
    ·exact this.1 x y
    ·exact this.2 x y
   split at hk<;>try (cases hk;done)
   ·simp only [Option.map_eq_some_iff,Prod.mk.injEq] at hk;obtain ⟨ks,hks,rfl,rfl,rfl⟩:=hk;exact sub false ks (.inl ⟨rfl,rfl⟩) hks rfl rfl rfl
   ·simp only [Option.map_eq_some_iff,Prod.mk.injEq] at hk;obtain ⟨ks,hks,rfl,rfl,rfl⟩:=hk;exact sub true ks (.inr ⟨rfl,rfl⟩) hks rfl rfl rfl
  ·rename_i n0' e0' hu;have sub:∀ neg ks,(op = .eql∧neg=false∨op = .neq∧neg=true)→Qle P xt=some ks→k = .eqa neg ks→as=[xa,ya]→tk=false→Gives P n0 nt g0 w0 o a w σ':=by
    rintro neg ks hop' hks rfl rfl rfl;obtain ⟨v,M',hst,rfl⟩:=plain rfl;refine Qcy P h hd hz hst ⟨(Qdn _).2 hx2,(Qdn _).2 hy2,trivial⟩ ?_;simp only [List.map_cons,List.map_nil,V.dems] at hst;have hfx:=Qdj (xa.val σ.s);have hfy:=Qdj (ya.val σ.s);generalize (xa.val σ.s).dem=xv at hst hx1 hfx;generalize (ya.val σ.s).dem=yv at hst hy1 hfy;cases xv<;>try (simp [Qm] at hst;done)
    cases yv<;>try (simp [Qm] at hst;done)
    simp only [Qm,Option.map_eq_some_iff,Prod.mk.injEq] at hst;obtain ⟨b,hb,rfl,rfl⟩:=hst;obtain ⟨vs,hvs,hl,hr,_⟩:=Q06 hfx hx1;obtain ⟨vs',hvs',hl',hr',_⟩:=Q06 hfy hy1;have:=Qbd3 P xt hks hl hr hl' hr' hb;refine ⟨rfl,.bool (if neg then !b else b),?_,by rw [RF_d];simp [RD]⟩;simp only [execOp,hop];refine Qg3 P _ ?_;rw [hvs,hvs'];rcases hop' with ⟨rfl,rfl⟩|⟨rfl,rfl⟩
    ·exact this.1 x y
    ·exact this.2 x y
   split at hk<;>try (cases hk;done)
   ·simp only [Option.map_eq_some_iff,Prod.mk.injEq] at hk;obtain ⟨ks,hks,rfl,rfl,rfl⟩:=hk;exact sub false ks (.inl ⟨rfl,rfl⟩) hks rfl rfl rfl
   ·simp only [Option.map_eq_some_iff,Prod.mk.injEq] at hk;obtain ⟨ks,hks,rfl,rfl,rfl⟩:=hk;exact sub true ks (.inr ⟨rfl,rfl⟩) hks rfl rfl rfl
 case convert s d x =>
  simp only [Option.bind_eq_some_iff] at hk;obtain ⟨ar,har,hk⟩:=hk;obtain ⟨h1,h2⟩:=Qg2 P h har;split at hk<;>try (cases hk;done)
  ·rename_i k' k hs' hd';cases hk;obtain ⟨v,M',hst,rfl⟩:=plain rfl;refine Qcy P h hd hz hst ⟨(Qdn _).2 h2,trivial⟩ ?_;simp only [List.map_cons,List.map_nil,V.dems] at hst;generalize (ar.val σ.s).dem=xv at hst h1;cases xv<;>try (simp [Qm] at hst;done)
   rename_i dx;cases dx<;>try (simp [Qm] at hst;done)
   simp only [Qm,Option.some.injEq,Prod.mk.injEq] at hst;obtain ⟨rfl,rfl⟩:=hst;obtain ⟨val,hr,hrf⟩:=Qben P s d k (by simp [hs']) hd' h1;exact ⟨rfl,val,by simp only [execOp,hop];exact Qg3 P _ hr,hrf⟩
  ·rename_i e hs' hd';split at hk<;>try (cases hk;done)
   rename_i he;cases hk;obtain ⟨v,M',hst,rfl⟩:=plain rfl;refine Qcy P h hd hz hst ⟨(Qdn _).2 h2,trivial⟩ ?_;simp only [List.map_cons,List.map_nil,V.dems] at hst;generalize (ar.val σ.s).dem=xv at hst h1;cases xv<;>try (simp [Qm] at hst;done)
   rename_i dx;cases dx<;>try (simp [Qm] at hst;done)
   simp only [Qm,Option.map_eq_some_iff,Prod.mk.injEq] at hst;obtain ⟨ns,hn,rfl,rfl⟩:=hst;obtain ⟨val,hr,hrf⟩:=Qbeo P s d e hs' he hd' hn h1;exact ⟨rfl,val,by simp only [execOp,hop];exact Qg3 P _ hr,hrf⟩
 case makeFunc fn first cap =>
  cases fn<;>simp only at hk<;>try (cases hk;done)
  rename_i f;split at hk<;>try (cases hk;done)
  rename_i h0;simp only [Option.map_eq_some_iff,Prod.mk.injEq] at hk;obtain ⟨as',has,rfl,rfl,rfl⟩:=hk;obtain ⟨v,M',hst,rfl⟩:=plain rfl;obtain ⟨h1,h2⟩:=Qeh P h _ _ _ _ has;obtain ⟨hM,hrf⟩:=Qbeu f h1 hst;refine Qcy P h hd hz hst h2 ⟨hM,_,?_,hrf⟩;have hf:first = #[]:=Array.eq_empty_of_size_eq_zero h0
  subst hf;simp only [execOp,hop];refine Qg3 P _ ?_;have e:(cap.toList.map a.eval).toArray=cap.map a.eval:=by apply Array.ext';simp
  rw [e];simp only [Instr.makeFunc,Array.map_empty,Sem.run_pure]
 case makeSlice t l c =>
  split at hk<;>try (cases hk;done)
  rename_i e ht;split at hk<;>try (cases hk;done)
  rename_i z as' hze has;simp only [Option.some.injEq,Prod.mk.injEq] at hk;obtain ⟨rfl,rfl,rfl⟩:=hk;obtain ⟨v,M',hst,rfl⟩:=plain rfl;obtain ⟨h1,h2⟩:=Qeh P h _ _ _ _ has;generalize V.dems (as'.map (·.val σ.s))=xs at hst h1
  match xs,h1 with
  | [x',y'],⟨u1,us1,e1,r1,u2,us2,e2,r2,e3⟩ =>
   simp only [List.map_cons,List.map_nil,List.cons.injEq] at e1;obtain ⟨rfl,rfl⟩:=e1;simp only [List.cons.injEq] at e2;obtain ⟨rfl,rfl⟩:=e2;obtain ⟨val,w',g',hr,hsr⟩:=Qbc5 P h hd t e ht hze hκ hκ' r1 r2 hst;exact .inl ⟨val,w',g',by simp only [execOp,hop];exact Qg3 P _ hr,hsr⟩
 case buildSlice t n ps =>
  split at hk<;>try (cases hk;done)
  rename_i e ht;split at hk
  ·rename_i hlit;simp only [Bool.and_eq_true] at hlit;cases hdst:o.dst with
   | none=>rw [hdst] at hlit;simp [inL] at hlit
   | some d =>
    unfold Qp2 at hk;split at hk<;>try (cases hk;done)
    rename_i _ _ _ z0 u hze hps;split at hk<;>try (cases hk;done)
    rename_i x hcx;split at hk<;>try (cases hk;done)
    rename_i h1;simp only [Option.some.injEq,Prod.mk.injEq] at hk;obtain ⟨rfl,rfl,rfl⟩:=hk;simp only [if_true,List.map_cons,List.map_nil,Arg.val,Qm,Qf8] at hs;split at hs<;>cases hs;rename_i v M' hst;split at hst<;>cases hst;obtain ⟨val,w',g',hr,hsr⟩:=Qbf4 P h (hd d hdst) t e ht hze h1 (Q52 P hcx).1;refine .inl ⟨val,w',g',?_,by rw [hdst];exact hsr⟩;simp only [execOp,hop];refine Qg3 P _ ?_;rw [← hr];have:ps = #[(0,.const u)]:=by apply Array.ext';simpa using hps
    subst this;have:a.eval (.const u)=u:=rfl;simp [this]
  split at hk
  ·split at hk<;>try (cases hk;done)
   rename_i z as' hze has;split at hk<;>try (cases hk;done)
   rename_i hn;simp only [Option.some.injEq,Prod.mk.injEq] at hk;obtain ⟨rfl,rfl,rfl⟩:=hk;obtain ⟨v,M',hst,rfl⟩:=plain rfl;obtain ⟨h1,h2⟩:=Qeh P h _ _ _ _ has;obtain ⟨val,w',g',hr,hsr⟩:=Qbew P h hd t e ht hze n hn _ Qjs h1 hst;refine .inl ⟨val,w',g',?_,hsr⟩;simp only [execOp,hop];refine Qg3 P _ ?_;rw [← hr,Qzj]
  split at hk<;>try (cases hk;done)
  rename_i z as' hze has;split at hk<;>try (cases hk;done)
  rename_i hn;simp only [Option.some.injEq,Prod.mk.injEq] at hk;obtain ⟨rfl,rfl,rfl⟩:=hk;obtain ⟨v,M',hst,rfl⟩:=plain rfl;obtain ⟨h1,h2⟩:=Qeh P h _ _ _ _ has;obtain ⟨val,w',g',hr,hsr⟩:=Qbai P h hd t e ht hze n hn _ hκ hκ' Qjs h1 h2 hst;refine .inl ⟨val,w',g',?_,hsr⟩;simp only [execOp,hop];refine Qg3 P _ ?_;rw [← hr,Qzj]
 case slice t x lo hi mx =>
  cases mx with
  | some _=>cases hk
  | none =>
   simp only at hk;split at hk<;>try (cases hk;done)
   rename_i e ht;split at hk<;>try (cases hk;done)
   rename_i h0;split at hk
   ·rename_i hcond;simp only [Bool.and_eq_true] at hcond;obtain ⟨⟨⟨hdc,hxt⟩,hlo⟩,hhi⟩:=hcond;cases hi with
    | some _=>simp at hhi
    | none =>
    cases lo with
    | none=>simp at hlo
    | some lv =>
    simp only [Option.map_eq_some_iff,Prod.mk.injEq] at hk;obtain ⟨as',has,rfl,rfl,rfl⟩:=hk;simp only [Option.toList,List.cons_append,List.nil_append,Qek] at has;split at has<;>try (cases has;done)
    rename_i a0 as1 ha0 has1;cases has;split at has1<;>try (cases has1;done)
    rename_i a1 as2 ha1 has2;cases has2;cases has1;obtain ⟨d,hdst⟩ : ∃ d,o.dst=some d:=by
     cases hdd:o.dst with
     | none=>rw [hdd] at hdc;simp [inL] at hdc
     | some d=>exact ⟨d,rfl⟩
    simp only [if_true,List.map_cons,List.map_nil] at hs;split at hs<;>cases hs;rename_i v M' hst;rcases Qlq P h ha0 with ⟨t0,rfl,rfl,h1,h2⟩|⟨hx,_⟩
    ·obtain ⟨val,g',hr,hsr⟩:=Qbe1 P h t e ht h0 t0 d (hd d hdst) ha1 hst;refine .inl ⟨val,w,g',by simp only [execOp,hop];exact Qg3 P _ hr,?_⟩;rw [hdst];exact hsr
    ·simp [hx] at hxt
   split at hk<;>try (cases hk;done)
   rename_i as' has;simp only [Option.some.injEq,Prod.mk.injEq] at hk;obtain ⟨rfl,rfl,rfl⟩:=hk;obtain ⟨v,M',hst,rfl⟩:=plain rfl;obtain ⟨h1,h2⟩:=Qeh P h _ _ _ _ has;refine Qcy P h hd hz hst h2 ?_;generalize V.dems (as'.map (·.val σ.s))=xs at hst h1
   match xs,h1 with
   | x'::bs,⟨u1,us1,e1,r1,e2⟩ =>
    simp only [List.cons_append,List.nil_append,List.map_cons,List.cons.injEq] at e1;obtain ⟨rfl,rfl⟩:=e1;obtain ⟨hM,val,hr,hrf⟩:=Q75 P t e ht h0 (lo.map a.eval) (hi.map a.eval) r1 (by cases lo<;>cases hi<;>simpa using e2) (by simpa using hst);exact ⟨hM,val,by simp only [execOp,hop];exact Qg3 P _ (by simpa using hr),hrf⟩
 case field t x f =>
  split at hk<;>try (cases hk;done)
  rename_i fs hfs;split at hk<;>try (cases hk;done)
  rename_i fd ar hfd har;split at hk<;>try (cases hk;done)
  rename_i hu;obtain ⟨d,hu⟩:=Option.isSome_iff_exists.1 hu;cases hk;obtain ⟨v,M',hst,rfl⟩:=plain rfl;obtain ⟨h1,h2⟩:=Qg2 P h har;obtain ⟨hM,val,hr,hrf⟩:=Qbc1 P t fs hfs f fd hfd hu (Qdj _) h1 hst;exact Qcy P h hd hz hst ⟨(Qdn _).2 h2,trivial⟩ ⟨hM,val,by simp only [execOp,hop];exact Qg3 P _ hr,hrf⟩
 case indexAddr t x i =>
  split at hk<;>try (cases hk;done)
  ·rename_i e ht;simp only [Option.bind_eq_some_iff] at hk;obtain ⟨as',has,hk⟩:=hk;split at hk<;>try (cases hk;done)
   rename_i h0;cases hk;obtain ⟨v,M',hst,rfl⟩:=plain rfl;obtain ⟨h1,h2⟩:=Qeh P h _ _ _ _ has;refine Qcy P h hd hz hst h2 ?_;generalize V.dems (as.map (·.val σ.s))=xs at hst h1
   match xs,h1 with
   | [x',y'],⟨u1,us1,e1,r1,u2,us2,e2,r2,e3⟩ =>
    simp only [List.map_cons,List.map_nil,List.cons.injEq] at e1;obtain ⟨rfl,rfl⟩:=e1;simp only [List.cons.injEq] at e2;obtain ⟨rfl,rfl⟩:=e2;obtain ⟨hM,val,hr,hrf⟩:=Qbd2 P t e ht h0 r1 r2 hst;exact ⟨hM,val,by simp only [execOp,hop];exact Qg3 P _ hr,hrf⟩
  ·rename_i n e ht;simp only [Option.bind_eq_some_iff] at hk;obtain ⟨as',has,hk⟩:=hk;split at hk<;>try (cases hk;done)
   rename_i h0;cases hk;obtain ⟨v,M',hst,rfl⟩:=plain rfl;obtain ⟨h1,h2⟩:=Qeh P h _ _ _ _ has;refine Qcy P h hd hz hst h2 ?_;generalize V.dems (as.map (·.val σ.s))=xs at hst h1
   match xs,h1 with
   | [x',y'],⟨u1,us1,e1,r1,u2,us2,e2,r2,e3⟩ =>
    simp only [List.map_cons,List.map_nil,List.cons.injEq] at e1;obtain ⟨rfl,rfl⟩:=e1;simp only [List.cons.injEq] at e2;obtain ⟨rfl,rfl⟩:=e2;obtain ⟨hM,val,hr,hrf⟩:=Qbad P t e n ht h0 r1 r2 hst;exact ⟨hM,val,by simp only [execOp,hop];exact Qg3 P _ hr,hrf⟩
 case index t x i =>
  split at hk<;>try (cases hk;done)
  ·rename_i n e ht;split at hk<;>try (cases hk;done)
   rename_i hu;have hu:∃ d,P.underlying e=some d:=by
    cases hd' : P.underlying e with
    | none=>simp [hd'] at hu
    | some d=>exact ⟨d,rfl⟩
   obtain ⟨d,hu⟩:=hu;simp only [Option.map_eq_some_iff,Prod.mk.injEq] at hk;obtain ⟨as',has,rfl,rfl,rfl⟩:=hk;obtain ⟨v,M',hst,rfl⟩:=plain rfl;obtain ⟨h1,h2⟩:=Qeh P h _ _ _ _ has;refine Qcy P h hd hz hst h2 ?_;have hfl:∀ x∈V.dems (as'.map (·.val σ.s)),Flat x:=Qjs;generalize V.dems (as'.map (·.val σ.s))=xs at hst h1 hfl
   match xs,h1 with
   | [x',y'],⟨u1,us1,e1,r1,u2,us2,e2,r2,e3⟩ =>
    simp only [List.map_cons,List.map_nil,List.cons.injEq] at e1;obtain ⟨rfl,rfl⟩:=e1;simp only [List.cons.injEq] at e2;obtain ⟨rfl,rfl⟩:=e2;obtain ⟨hM,val,hr,hrf⟩:=Qbae P t e n ht hu (hfl _ (by simp)) r1 r2 hst;exact ⟨hM,val,by simp only [execOp,hop];exact Qg3 P _ hr,hrf⟩
  ·rename_i ht;simp only [Option.map_eq_some_iff,Prod.mk.injEq] at hk;obtain ⟨as',has,rfl,rfl,rfl⟩:=hk;obtain ⟨v,M',hst,rfl⟩:=plain rfl;obtain ⟨h1,h2⟩:=Qeh P h _ _ _ _ has;refine Qcy P h hd hz hst h2 ?_;generalize V.dems (as'.map (·.val σ.s))=xs at hst h1
   match xs,h1 with
   | [x',y'],⟨u1,us1,e1,r1,u2,us2,e2,r2,e3⟩ =>
    simp only [List.map_cons,List.map_nil,List.cons.injEq] at e1;obtain ⟨rfl,rfl⟩:=e1;simp only [List.cons.injEq] at e2;obtain ⟨rfl,rfl⟩:=e2;obtain ⟨hM,val,hr,hrf⟩:=Qbeq P t ht r1 r2 hst;exact ⟨hM,val,by simp only [execOp,hop];exact Qg3 P _ hr,hrf⟩
 case build t ps =>
  split at hk<;>try (cases hk;done)
  ·rename_i fs z ht hze;split at hk<;>try (cases hk;done)
   rename_i hft;simp only [List.all_eq_true] at hft;split at hk<;>try (cases hk;done)
   rename_i pl as' hpl has;simp only [Option.some.injEq,Prod.mk.injEq] at hk;obtain ⟨rfl,rfl,htk⟩:=hk;cases tk with
   | false =>
    obtain ⟨v,M',hst,rfl⟩:=plain rfl;obtain ⟨h1,h2⟩:=Qeh P h _ _ _ _ has;obtain ⟨hM,val,hr,hrf⟩:=Qv8 P t fs ht hze _ pl hpl hft Qjs h1 hst;refine Qcy P h hd hz hst h2 ⟨hM,val,?_,hrf⟩;simp only [execOp,hop];exact Qg3 P _ (by rw [← hr,Qzj])
   | true =>
    cases hdst:o.dst with
    | none=>simp [hdst] at htk
    | some d =>
     simp only [if_true,Qb4] at hs;split at hs<;>cases hs;rename_i v M' hst;obtain ⟨rfl,val,g',hr,hsr⟩:=Qban P h (hd d hdst) has (by simp only [Bool.and_eq_true] at htk;exact htk.1.2) hz (R:=Instr.build t ((ps.toList.map (·.1)).zip ((ps.toList.map (·.2)).map a.eval)).toArray) (fun g2 xs' v' M'' hfl hrf hst'=>(Qv8 P t fs ht hze _ pl hpl hft hfl hrf hst').2) hst;refine .inl ⟨val,w,g',?_,?_⟩
     ·simp only [execOp,hop];exact Qg3 P _ (by rw [← hr,Qzj])
     ·rw [hdst];exact hsr
  ·rename_i n e z ht hze;split at hk<;>try (cases hk;done)
   rename_i hie;simp only [Option.map_eq_some_iff,Prod.mk.injEq] at hk;obtain ⟨as',has,rfl,rfl,rfl⟩:=hk;obtain ⟨v,M',hst,rfl⟩:=plain rfl;obtain ⟨h1,h2⟩:=Qeh P h _ _ _ _ has;obtain ⟨hM,val,hr,hrf⟩:=Q3g P t e n ht (by cases hq:P.info? e with|none=>simp [hq] at hie|some _=>rfl) hze (ps.toList.map (·.1)) Qjs h1 (by rw [List.map_map];exact hst);refine Qcy P h hd hz hst h2 ⟨hM,val,?_,hrf⟩;simp only [execOp,hop];exact Qg3 P _ (by rw [← hr,Qzj])
 case makeMap t r =>
  split at hk<;>try (cases hk;done)
  rename_i kt et ht;simp only [Option.map_eq_some_iff,Prod.mk.injEq] at hk;obtain ⟨as',has,rfl,rfl,rfl⟩:=hk;obtain ⟨v,M',hst,rfl⟩:=plain rfl;obtain ⟨h1,h2⟩:=Qeh P h _ _ _ _ has;obtain ⟨val,w',g',hr,hsr⟩:=Qbda P h hd t ht h1 hκ hκ' (r.map a.eval) (by cases r<;>rfl) hst;exact .inl ⟨val,w',g',by simp only [execOp,hop];exact Qg3 P _ hr,hsr⟩
 case lookup t x i c =>
  split at hk<;>try (cases hk;done)
  rename_i kt kd z hmk;simp only [Option.map_eq_some_iff,Prod.mk.injEq] at hk;obtain ⟨as',has,rfl,rfl,rfl⟩:=hk;obtain ⟨v,M',hst,rfl⟩:=plain rfl;obtain ⟨h1,h2⟩:=Qeh P h _ _ _ _ has;have old:∀ {k' : K},k' = .lookup kd c z→k'.okz→Qm n0 κ k' (V.dems (as'.map (·.val σ.s))) σ.M=some (v,M')→Gives P n0 nt g0 w0 o a w ⟨Qbd σ.s o.dst v,M',σ.nb⟩:=by
   rintro _ rfl hz hst;refine Qcy P h hd hz hst h2 ?_;generalize V.dems (as'.map (·.val σ.s))=xs at hst h1;obtain ⟨x',y',rfl,r1,r2⟩:=Q2f (by simpa using h1);obtain ⟨hM,val,hr,hrf⟩:=Qbat P t hmk c h.mem r1 r2 hst;exact ⟨hM,val,by simp only [execOp,hop];exact Qg3 P _ hr,hrf⟩
  cases hzn:Q9y P t with
  | none=>rw [hzn] at hst hz;exact old rfl hz hst
  | some zn =>
   rw [hzn] at hst hz;simp only at hst hz;by_cases hT:(!c&&inL T.mpt o.dst)=true
   ·rw [if_pos hT] at hst;obtain rfl:c=false:=by
     cases c
     ·rfl
     ·simp at hT
    generalize V.dems (as'.map (·.val σ.s))=xs at hst h1;obtain ⟨x',y',rfl,r1,r2⟩:=Q2f (by simpa using h1);obtain ⟨val,g',hr,hsr⟩:=Q9g P h hd t hmk hzn r1 r2 hst;exact .inl ⟨val,w,g',by simp only [execOp,hop];exact Qg3 P _ hr,hsr⟩
   ·rw [if_neg hT] at hst hz;exact old rfl hz hst
 case mapUpdate t m k x =>
  split at hk<;>try (cases hk;done)
  rename_i kt kd z kt' et hmk ht;split at hk<;>try (cases hk;done)
  rename_i hdst;simp only [Option.map_eq_some_iff] at hk;obtain ⟨as',has,hk⟩:=hk;by_cases hT:inL T.mpt (tmpO x)=true
  ·rw [if_pos hT] at hk;simp only [Prod.mk.injEq] at hk;obtain ⟨rfl,rfl,rfl⟩:=hk;simp only [if_true] at hs;split at hs<;>cases hs;rename_i v M' hst;obtain ⟨w',g',hr,hsr⟩:=Q2h P h has hT t hmk hst;refine .inr ⟨w',g',by simp only [execOp,hop];exact Q6a P _ hr,?_⟩;rw [Option.isNone_iff_eq_none.1 hdst];exact hsr
  rw [if_neg hT] at hk;simp only [Prod.mk.injEq] at hk;obtain ⟨rfl,rfl,rfl⟩:=hk;obtain ⟨v,M',hst,rfl⟩:=plain rfl;obtain ⟨h1,h2⟩:=Qeh P h _ _ _ _ has;generalize V.dems (as'.map (·.val σ.s))=xs at hst h1;obtain ⟨x',y',z',rfl,r1,r2,r3⟩:=Q2g (by simpa using h1);obtain ⟨w',hr,hsr⟩:=Q59 P h hd t hmk r1 r2 r3 hst;exact .inr ⟨w',g,by simp only [execOp,hop];exact Q6a P _ hr,hsr⟩
 case insert t m k x =>
  split at hk<;>try (cases hk;done)
  rename_i kt kd z kt' et hmk ht;split at hk<;>try (cases hk;done)
  rename_i hdst;simp only [Option.map_eq_some_iff] at hk;obtain ⟨as',has,hk⟩:=hk;by_cases hT:inL T.mpt (tmpO x)=true
  ·rw [if_pos hT] at hk;simp only [Prod.mk.injEq] at hk;obtain ⟨rfl,rfl,rfl⟩:=hk;simp only [if_true] at hs;split at hs<;>cases hs;rename_i v M' hst;obtain ⟨w',g',hr,hsr⟩:=Q2h P h has hT t hmk hst;refine .inr ⟨w',g',by simp only [execOp,hop];exact Q6a P _ hr,?_⟩;rw [Option.isNone_iff_eq_none.1 hdst];exact hsr
  rw [if_neg hT] at hk;simp only [Prod.mk.injEq] at hk;obtain ⟨rfl,rfl,rfl⟩:=hk;obtain ⟨v,M',hst,rfl⟩:=plain rfl;obtain ⟨h1,h2⟩:=Qeh P h _ _ _ _ has;generalize V.dems (as'.map (·.val σ.s))=xs at hst h1;obtain ⟨x',y',z',rfl,r1,r2,r3⟩:=Q2g (by simpa using h1);obtain ⟨w',hr,hsr⟩:=Q59 P h hd t hmk r1 r2 r3 hst;exact .inr ⟨w',g,by simp only [execOp,hop];exact Q6a P _ hr,hsr⟩
 case mapEntry t m k =>
  split at hk<;>try (cases hk;done)
  rename_i kt kd z hmk;simp only [Option.map_eq_some_iff,Prod.mk.injEq] at hk;obtain ⟨as',has,rfl,rfl,rfl⟩:=hk;obtain ⟨v,M',hst,rfl⟩:=plain rfl;obtain ⟨h1,h2⟩:=Qeh P h _ _ _ _ has;generalize V.dems (as'.map (·.val σ.s))=xs at hst h1;obtain ⟨x',y',rfl,r1,r2⟩:=Q2f (by simpa using h1);obtain ⟨val,w',hr,hsr⟩:=Q7n P h hd t hmk r1 r2 hst;exact .inl ⟨val,w',g,by simp only [execOp,hop];exact Qg3 P _ hr,hsr⟩
 case entryStore t m st x =>
  split at hk<;>try (cases hk;done)
  split at hk<;>try (cases hk;done)
  rename_i hdst;simp only [Option.map_eq_some_iff,Prod.mk.injEq] at hk;obtain ⟨as',has,rfl,rfl,rfl⟩:=hk;obtain ⟨v,M',hst,rfl⟩:=plain rfl;obtain ⟨h1,h2⟩:=Qeh P h _ _ _ _ has;generalize V.dems (as'.map (·.val σ.s))=xs at hst h1;obtain ⟨x',y',z',rfl,r1,r2,r3⟩:=Q2g (by simpa using h1);obtain ⟨w',hr,hsr⟩:=Q40 P h hd t r1 r2 r3 hst;exact .inr ⟨w',g,by simp only [execOp,hop];exact Q6a P _ hr,hsr⟩
 case call cl =>
  cases hcl:cl.callee<;>rw [hcl] at hk<;>(try simp only at hk)
  case invoke=>cases hk
  case value f =>
   cases f<;>(try simp only at hk)<;>try (cases hk;done)
   ·simp only [Option.map_eq_some_iff,Prod.mk.injEq] at hk;obtain ⟨as',has,rfl,rfl,rfl⟩:=hk;simp [K.isCall] at hcall
   ·split at hk<;>try (cases hk;done)
    simp only [Option.map_eq_some_iff,Prod.mk.injEq] at hk;obtain ⟨as',has,rfl,rfl,rfl⟩:=hk;exfalso;cases hco:inL T.co o.dst<;>simp [hco,K.isCall,K.isNil] at hcall hnil
  case builtin b =>
   have hex:∀ val w',((builtin b cl.argTypes o.type (cl.args.map fun | .const _=>true|_=>false) (cl.args.map a.eval)).run P w = .ok (.value val) w')→(execOp a.eval o).run P w = .ok (.value val) w':=by
    intro val w' hr;simp only [execOp,hop,resolve,hcl,invoke,Sem.run_bind,Sem.run_pure,Result.andThen_ok];exact hr
   cases b<;>simp only at hk<;>try (cases hk;done)
   case append =>
    split at hk<;>try (cases hk;done)
    rename_i e e' ht ht' hsize;split at hk<;>try (cases hk;done)
    rename_i htt;split at hk<;>try (cases hk;done)
    rename_i z t0 as' hze has;split at hk<;>try (cases hk;done)
    rename_i hzl;split at hk
    ·simp only [Option.some.injEq,Prod.mk.injEq] at hk;obtain ⟨rfl,rfl,rfl⟩:=hk;obtain ⟨x0,x1,hargs⟩ : ∃ x0 x1,cl.args = #[x0,x1]:=by
      cases hl:cl.args with
      | mk l =>
       rw [hl] at hsize
       match l,hsize with
       | [x0,x1],_=>exact ⟨x0,x1,rfl⟩
     rw [hargs] at has;simp only [Qek] at has;split at has<;>try (cases has;done)
     rename_i a0 as0 ha0 has0;split at has0<;>try (cases has0;done)
     rename_i a1 as1 ha1 has1;simp only [Option.some.injEq] at has1;subst has1;simp only [Option.some.injEq] at has0;subst has0;simp only [Option.some.injEq,List.cons.injEq] at has;obtain ⟨rfl,rfl⟩:=has;obtain ⟨v,M',hst,rfl⟩:=plain rfl;simp only [List.map_cons,List.map_nil,V.dems] at hst;rcases Qlq P h ha0 with ⟨t1,hx0,htt1,h1,h2⟩|⟨_,c0,hc0,_⟩
     ·cases htt1;have hx1:∃ ℓ,RV g w (a1.val σ.s).dem ℓ (a.eval x1):=by
       rcases Qlq P h ha1 with ⟨t2,_,rfl,k1,_⟩|⟨_,c1,rfl,k1,_⟩
       ·exact ⟨.free,Qha _ _ _ _ k1⟩
       ·exact ⟨.free,Qha _ _ _ _ (k1 .free)⟩
      obtain ⟨ℓ,hx1⟩:=hx1;have hsl:((Arg.t t0).val σ.s).dem=σ.s t0:=by
       rcases (Q3s hst).1 with ⟨k,off,len,cap,e1⟩|⟨_,e1⟩
       ·have:σ.s t0 = .sl (P.cellsOf e) k off len cap:=Qbf2 e1;simp only [Arg.val,this,V.dem]
       ·have e1:(σ.s t0).dem=_:=e1;show (σ.s t0).dem=σ.s t0;cases hv:σ.s t0<;>rw [hv] at e1<;>first|rfl|cases e1
      rw [hsl] at hst;obtain ⟨val,w',g',hr,hsr⟩:=Qbey P h hd (cl.argTypes.getD 0 0) o.type e ht hze hzl t0 hx1 hst;refine .inl ⟨val,w',g',hex val w' ?_,hsr⟩;refine Qg3 P _ ?_;rw [htt,hargs];subst hx0;simpa [Act.eval] using hr
     ·cases hc0
    simp only [Option.some.injEq,Prod.mk.injEq] at hk;obtain ⟨rfl,rfl,rfl⟩:=hk;obtain ⟨x0,x1,hargs⟩ : ∃ x0 x1,cl.args = #[x0,x1]:=by
     cases hl:cl.args with
     | mk l =>
      rw [hl] at hsize
      match l,hsize with
      | [x0,x1],_=>exact ⟨x0,x1,rfl⟩
    rw [hargs] at has;simp only [Qek] at has;split at has<;>try (cases has;done)
    rename_i a0 as0 ha0 has0;split at has0<;>try (cases has0;done)
    rename_i a1 as1 ha1 has1;simp only [Option.some.injEq] at has1;subst has1;simp only [Option.some.injEq] at has0;subst has0;simp only [Option.some.injEq,List.cons.injEq] at has;obtain ⟨rfl,rfl⟩:=has;simp only [if_true,List.map_cons,List.map_nil] at hs;split at hs<;>cases hs;rename_i v M' hst;rcases Qlq P h ha0 with ⟨t1,hx0,htt1,h1,h2⟩|⟨_,c0,hc0,_⟩
    ·cases htt1;have hx1:∃ ℓ,RV g w (a1.val σ.s) ℓ (a.eval x1):=by
      rcases Qlq P h ha1 with ⟨t2,_,rfl,k1,_⟩|⟨_,c1,rfl,k1,_⟩
      ·exact ⟨_,k1⟩
      ·exact ⟨.free,k1 _⟩
     obtain ⟨ℓ,hx1⟩:=hx1;obtain ⟨val,w',g',hr,hsr⟩:=Q50 P h hd (cl.argTypes.getD 0 0) o.type e ht hze hzl t0 hx1 hst;refine .inl ⟨val,w',g',hex val w' ?_,?_⟩
     ·refine Qg3 P _ ?_;rw [htt,hargs];subst hx0;simpa [Act.eval] using hr
     ·refine Qbgz hsr (fun i=>?_);have key:∀ i,Qba σ.s [Arg.t t0,a1] (Qb4 (.append (P.cellsOf e) (P.bytesOf e)) [Arg.val σ.s (.t t0),a1.val σ.s]) i=σ.s.put t0 (σ.s t0).dem i∨Qba σ.s [Arg.t t0,a1] (Qb4 (.append (P.cellsOf e) (P.bytesOf e)) [Arg.val σ.s (.t t0),a1.val σ.s]) i=(σ.s.put t0 (σ.s t0).dem i).dem:=by
       intro i;cases a1 with
       | c v=>exact .inl rfl
       | t j =>
        simp only [Qb4,Qba,Arg.putTo,Sl.put,Arg.val];by_cases hij:i=j
        ·subst hij;right;rw [if_pos rfl];split
         ·rename_i he;subst he;exact (Qdj _).symm
         ·rfl
        ·left;rw [if_neg hij]
      cases o.dst with
      | none=>exact key i
      | some d =>
       simp only [Qbd,Sl.put];split
       ·exact .inl rfl
       ·exact key i
    ·cases hc0
   case len =>
    split at hk<;>try (cases hk;done)
    rename_i hsz;simp only [Option.bind_eq_some_iff] at hk;obtain ⟨as',has,hk⟩:=hk;obtain ⟨h1,h2⟩:=Qeh P h _ _ _ _ has;obtain ⟨u,hu1,hu2⟩:=Qbe0 cl.args a.eval hsz.1;rw [hu2] at h1;obtain ⟨x',hx',r1⟩:=Qbay h1;have hty:=Qbdc cl.argTypes hsz.2;split at hk<;>try (cases hk;done)
    ·rename_i e ht;cases hk;obtain ⟨v,M',hst,rfl⟩:=plain rfl;refine Qcy P h hd hz hst h2 ?_;rw [hx'] at hst;obtain ⟨hM,val,hr,hrf⟩:=Qbfy P (cl.argTypes.getD 0 0) o.type e ht h.mem r1 hst;refine ⟨hM,val,hex val w ?_,hrf⟩;refine Qg3 P _ ?_;rw [hty,hu1];exact hr
    ·rename_i km em ht;cases hk;obtain ⟨v,M',hst,rfl⟩:=plain rfl;refine Qcy P h hd hz hst h2 ?_;rw [hx'] at hst;obtain ⟨hM,val,hr,hrf⟩:=Qbez P (cl.argTypes.getD 0 0) o.type ht h.mem r1 hst;refine ⟨hM,val,hex val w ?_,hrf⟩;refine Qg3 P _ ?_;rw [hty,hu1];exact hr
    ·rename_i ht;cases hk;obtain ⟨v,M',hst,rfl⟩:=plain rfl;refine Qcy P h hd hz hst h2 ?_;rw [hx'] at hst;obtain ⟨hM,val,hr,hrf⟩:=Qbep P (cl.argTypes.getD 0 0) o.type ht r1 hst;refine ⟨hM,val,hex val w ?_,hrf⟩;refine Qg3 P _ ?_;rw [hty,hu1];exact hr
   case max =>
    split at hk<;>try (cases hk;done)
    rename_i hsz;simp only [Option.map_eq_some_iff,Prod.mk.injEq] at hk;obtain ⟨as',has,rfl,rfl,rfl⟩:=hk;obtain ⟨h1,h2⟩:=Qeh P h _ _ _ _ has;obtain ⟨u1,u2,hu1,hu2⟩:=Qbax cl.args a.eval hsz;rw [hu2] at h1;obtain ⟨x',y',hx',r1,r2⟩:=Q2f h1;obtain ⟨v,M',hst,rfl⟩:=plain rfl;refine Qcy P h hd hz hst h2 ?_;rw [hx'] at hst;obtain ⟨hM,val,hr,hrf⟩:=Qber P cl.argTypes o.type r1 r2 hst;refine ⟨hM,val,hex val w (Qg3 P _ ?_),hrf⟩;rw [hu1];exact hr
   case min =>
    split at hk<;>try (cases hk;done)
    rename_i hsz;simp only [Option.map_eq_some_iff,Prod.mk.injEq] at hk;obtain ⟨as',has,rfl,rfl,rfl⟩:=hk;obtain ⟨h1,h2⟩:=Qeh P h _ _ _ _ has;obtain ⟨u1,u2,hu1,hu2⟩:=Qbax cl.args a.eval hsz;rw [hu2] at h1;obtain ⟨x',y',hx',r1,r2⟩:=Q2f h1;obtain ⟨v,M',hst,rfl⟩:=plain rfl;refine Qcy P h hd hz hst h2 ?_;rw [hx'] at hst;obtain ⟨hM,val,hr,hrf⟩:=Qbes P cl.argTypes o.type r1 r2 hst;refine ⟨hM,val,hex val w (Qg3 P _ ?_),hrf⟩;rw [hu1];exact hr
end
end Go.Abs
end
section
namespace Go.Abs
open Go
def Qh2 (P : Program) (f : FuncId) : Bool := (P.funcs[f]?).any fun fn => fn.body.isSome && fn.name != "runtime.NumGoroutine"
def RAs (g:G) (w:World):Nat→List V→List Value→Prop
 | _,[],us=>us=[]
 | j,x::xs,us=>∃ u us',us=u::us'∧RV g w x (.slot j []) u∧RAs g w (j+1) xs us'
theorem RAs.of_flat {g:G} {w:World}:∀ {j:Nat} {xs:List V} {us:List Value},RFs g w xs us→RAs g w j xs us
 | _,[],_,h=>h
 | _,_::_,_,⟨u,us',e,h1,h2⟩=>⟨u,us',e,h1 _,RAs.of_flat h2⟩
theorem RAs.flat {g:G} {w:World}:∀ {j:Nat} {xs:List V} {us:List Value},(∀ x∈xs,Flat x)→RAs g w j xs us→RFs g w xs us
 | _,[],_,_,h=>h
 | _,_::_,_,hf,⟨u,us',e,h1,h2⟩=>⟨u,us',e,fun _=>Ql6 (hf _ (List.mem_cons_self ..)) h1,RAs.flat (fun x hx=>hf x (List.mem_cons_of_mem _ hx)) h2⟩
theorem RAs.length {g:G} {w:World}:∀ {j:Nat} {xs:List V} {us:List Value},RAs g w j xs us→us.length=xs.length
 | _,[],_,h=>by simp [RAs] at h;simp [h]
 | _,_::_,_,⟨u,us',e,_,h2⟩=>by subst e;simp [RAs.length h2]
theorem RAs.get {g:G} {w:World}:∀ {j:Nat} {xs:List V} {us:List Value},RAs g w j xs us→∀ (t:Nat) x u,xs[t]? = some x→us[t]? = some u→RV g w x (.slot (j+t) []) u
 | _,[],_,_,t,x,u,hx,_=>by simp at hx
 | j,_::_,_,⟨u0,us',e,h1,h2⟩,t,x,u,hx,hu=>by
  subst e;cases t with
  | zero=>simp at hx hu;subst hx hu;exact h1
  | succ t=>have:=RAs.get h2 t x u (by simpa using hx) (by simpa using hu);rwa [show j+1+t=j+(t+1) by omega] at this
def Tab (P : Program) (g : G) (w : World) : Prop := ∀ gl, P.globalNamed "internal/strconv.uint64pow10" = some gl → gl < w.heap.size ∧ g.own gl = .ext ∧ Lib.TabIs P w "internal/strconv.uint64pow10" .u64 Lib.pow10Tab
theorem Tab.fr {P:Program} {n0:Nat} {g0 g:G} {w0 w:World} (h:Tab P g0 w0) (hf:Fr n0 g0 w0 g w):Tab P g w:=by
 intro gl hg;obtain ⟨h1,h2,h3⟩:=h gl hg;obtain ⟨k1,k2,_⟩:=hf.old gl h1 (by rw [h2];trivial);refine ⟨Nat.lt_of_lt_of_le h1 hf.size,k1.trans h2,?_⟩;unfold Lib.TabIs World.var? at h3 ⊢;rw [hg] at h3 ⊢;simp only [Option.bind_some] at h3 ⊢;rw [k2];exact h3
theorem Tab.re {P:Program} {g:G} {w:World} (h:Tab P g w) {f:Owner→Owner} (he:f .ext = .ext):Tab P (g.re f) w:=fun gl hg =>
 have ⟨h1,h2,h3⟩:=h gl hg
 ⟨h1,by show f (g.own gl)=_;rw [h2,he],h3⟩
def ACalls (P:Program):Ctx:=fun f args M nb r M' nb' =>
 Qh2 P f=true∧nb≤nb'∧∀ (w:World) (g:G) (us:List Value),Tab P g w→MR g w M nb→MOn (There M) M→RAs g w 0 args us→V.ons (There M) args →
  Calls P f us.toArray w fun e w'=>∃ v g',e = .returned v∧MR g' w' M' nb'∧RV g' w' r (.res []) v∧r.on (There M')∧MOn (There M') M'∧Fr nb g w g' w'
theorem ACalls.mk' {P:Program} {f:FuncId} {args:List V} {M M' : Mem} {nb nb' : Nat} {r:V} (hb:Qh2 P f=true) (hn:nb≤nb') (hfl:V.dems args=args)
  (h:∀ (w:World) (g:G) (us:List Value),MR g w M nb→MOn (There M) M→RFs g w args us→(∀ x∈args,Flat x)→V.ons (There M) args →
   Calls P f us.toArray w fun e w'=>∃ v g',e = .returned v∧MR g' w' M' nb'∧RV g' w' r (.res []) v∧r.on (There M')∧MOn (There M') M'∧Fr nb g w g' w'):ACalls P f args M nb r M' nb' :=
 have hf:∀ x∈args,Flat x:=by rw [← hfl];exact Qjs
 ⟨hb,hn,fun w g us _ hm hMon hus hons=>h w g us hm hMon (hus.flat hf) hf hons⟩
theorem ACalls.mkT' {P:Program} {f:FuncId} {args:List V} {M M' : Mem} {nb nb' : Nat} {r:V} (hb:Qh2 P f=true) (hn:nb≤nb') (hfl:V.dems args=args)
  (h:∀ (w:World) (g:G) (us:List Value),Tab P g w→MR g w M nb→MOn (There M) M→RFs g w args us→(∀ x∈args,Flat x)→V.ons (There M) args →
   Calls P f us.toArray w fun e w'=>∃ v g',e = .returned v∧MR g' w' M' nb'∧RV g' w' r (.res []) v∧r.on (There M')∧MOn (There M') M'∧Fr nb g w g' w'):ACalls P f args M nb r M' nb' :=
 have hf:∀ x∈args,Flat x:=by rw [← hfl];exact Qjs
 ⟨hb,hn,fun w g us ht hm hMon hus hons=>h w g us ht hm hMon (hus.flat hf) hf hons⟩
def hide:Owner→Owner
 | .slot t p=>.hid 0 t p
 | .res p=>.ext
 | .hid n t p=>.hid (n+1) t p
 | o=>o
def Qqb (tt:Option Nat) (i:Nat):Owner→Owner
 | .slot t p=>if tt=some t then .slot i p else .hid 0 t p
 | .res p=>.ext
 | .hid n t p=>.hid (n+1) t p
 | o=>o
theorem Qqc (tt:Option Nat) (j:Nat) (o:Owner) (i:Nat):Qqb tt j (o.sub i)=(Qqb tt j o).sub i:=by
 cases o<;>try rfl
 simp only [Qqb,Owner.sub];split<;>rfl
theorem Qbaz {tt:Option Nat} {j:Nat} {o:Owner} {k:Nat}:Qqb tt j o = .box k↔o = .box k:=by
 cases o<;>simp [Qqb];split<;>simp
def Qry (d:Nat):Owner→Owner
 | .slot _ _=>.ext
 | .res p=>.slot d p
 | .hid 0 t p=>.slot t p
 | .hid (n+1) t p=>.hid n t p
 | o=>o
theorem Q41 (o:Owner) (i:Nat):hide (o.sub i)=(hide o).sub i:=by cases o<;>rfl
theorem Qnl (d:Nat) (o:Owner) (i:Nat):Qry d (o.sub i)=(Qry d o).sub i:=by
 cases o<;>try rfl
 rename_i n t p;cases n<;>rfl
theorem Qbdd {o:Owner} {k:Nat}:hide o = .box k↔o = .box k:=by cases o<;>simp [hide]
theorem Q3z {d:Nat} {o:Owner} {k:Nat}:Qry d o = .box k↔o = .box k:=by
 cases o<;>try simp [Qry]
 grind
theorem MR.re {g:G} {w:World} {M:Mem} {nb:Nat} (hm:MR g w M nb) {f:Owner→Owner} (hs:∀ o i,f (o.sub i)=(f o).sub i) (he:f .ext = .ext) (hb:∀ o k,f o = .box k↔o = .box k):MR (g.re f) w M nb:=by
 refine ⟨fun k b hk=>?_,fun b o hbo=>⟨(hm.imm b o hbo).1,fun k e=>(hm.imm b o hbo).2 k ((hb _ _).1 e)⟩⟩;obtain ⟨h1,h2,h3⟩:=hm.box k b hk;refine ⟨h1,(hb _ _).2 h2,?_⟩;cases b with
 | mp es c =>
  obtain ⟨ents,hh,hr⟩:=h3;exact ⟨ents,hh,Q5w (g:=g) (g':=g.re f) (Imm.refl _ _) (fun b i hbi _=>⟨by show f (g.own b)=_;rw [hbi];have:=hs (.box k) i;rwa [(hb (.box k) k).2 rfl] at this,rfl,fun _=>Iff.rfl⟩) hr⟩
 | cells cs =>
  obtain ⟨vals,e,hh,hr,ho⟩:=h3;have:=RVs_re hs he cs (.box k) 0 vals hr;rw [(hb (.box k) k).2 rfl] at this;exact ⟨vals,e,hh,this,ho⟩
section
variable (P:Program) {g:G} {w:World} {n0 nt:Nat} {g0:G} {w0:World} {σ:St} {a:Act}
theorem Q1q {g:G} {w:World} {f:Owner→Owner} (hs:∀ o i,f (o.sub i)=(f o).sub i) (he:f .ext = .ext):∀ {vs:List V} {us:List Value},(∀ x∈vs,Flat x)→RFs g w vs us→RFs (g.re f) w vs us
 | [],us,_,h=>h
 | v::vs,us,hf,⟨u,us',e,r,h⟩=>⟨u,us',e,fun ℓ=>Ql6 (hf v (by simp)) (Qrg hs he v .ext u (r .ext)),Q1q hs he (fun x hx=>hf x (by simp [hx])) h⟩
theorem MR.blk {M:Mem} {nb:Nat} (hm:MR g w M nb) {k:Nat} {b:Bx} (hb:M k=some b):g.box k<w.heap.size:=by
 obtain ⟨_,_,h⟩:=hm.box k b hb;cases b with
 | cells cs=>obtain ⟨_,_,h,_⟩:=h;exact (Array.getElem?_eq_some_iff.1 h).1
 | mp es c=>obtain ⟨_,h,_⟩:=h;exact (Array.getElem?_eq_some_iff.1 h).1
theorem SR.behind (h:SR n0 nt g0 w0 σ a w g) {g2:G} {w2:World} {M' : Mem} {nb' : Nat} {r:V} {v:Value} {dst:Option Nat} (hd:∀ d,dst=some d→d<nt)
  (hm:MR g2 w2 M' nb') (hr:RV g2 w2 r (.res []) v) (hron:r.on (There M')) (hM:MOn (There M') M') (hf:Fr σ.nb (g.re hide) w g2 w2) (hnb:σ.nb≤nb')
  (hkeep:∀ k,There σ.M k→There M' k) (hout:∀ k cs,M' k=some (.cells cs)→k<n0→V.ons (· < n0) cs) :
  SR n0 nt g0 w0 ⟨Qbd σ.s dst r,M',nb'⟩ (a.put dst v) w2 (g2.re (Qry (dst.getD 0))):=by
 have hkept:Kept (g.re hide) w g2 w2 (There σ.M) Prot:=by
  refine ⟨hf.imm,fun k hk=>?_,fun b hb hlt=>hf.old b hlt hb⟩;obtain ⟨b,hb⟩:=Option.isSome_iff_exists.1 hk;exact hf.box k ⟨(h.mem.box k b hb).1,h.mem.blk hb⟩
 have hps:∀ ℓ i,Prot ℓ→Prot (ℓ.sub i):=by intro ℓ i hp;cases ℓ<;>simp_all [Prot,Owner.sub]
 refine ⟨hm.re (Qnl _) rfl (fun o k=>Q3z),Qfi (fun d hd'=>by rw [h.size];exact hd d hd') (fun t ht=>?_) (fun d hd'=>?_),(Qge _ _ _).trans h.size,(Qd7 _ _ _).trans h.defers,
  Qfj (fun t=>Qdp hkeep _ (h.onS t)) hron,fun k cs hk=>⟨hM k cs hk,hout k cs hk⟩,Nat.le_trans h.top hnb,?_⟩
 ·have h1:=Qrg Q41 rfl _ _ _ (h.slots t);have h2:=Qch hkept hps trivial _ _ _ (show Prot (hide (.slot t [])) from trivial) (h.onS t) h1;exact Qrg (Qnl _) rfl _ _ _ h2
 ·have:=Qrg (Qnl (dst.getD 0)) rfl _ _ _ hr;simpa [Qry,hd'] using this
 ·have hle:n0≤σ.nb:=by have:=h.top;omega
  have hfr:=h.fr;refine ⟨hf.os.trans hfr.os,hf.tape.trans hfr.tape,hf.output.trans hfr.output,Nat.le_trans hfr.size hf.size,⟨fun b o hb=>hf.imm.mono b o (hfr.imm.mono b o hb),fun b o hb=>(hf.imm.look b o (hfr.imm.mono b o hb)).trans (hfr.imm.look b o hb)⟩,
   fun k hk=>(hf.box k ⟨by omega,by show g.box k<_;rw [hfr.box k hk];exact Nat.lt_of_lt_of_le hk.2 hfr.size⟩).trans (hfr.box k hk),fun b hb ho=>?_⟩
  obtain ⟨h1,h2,h3⟩:=hfr.old b hb ho;have hp:Prot ((g.re hide).own b):=by
   show Prot (hide (g.own b));rw [h1];cases hq:g0.own b<;>rw [hq] at ho<;>first|exact ho.elim|exact trivial
  obtain ⟨k1,k2,k3⟩:=hf.old b (Nat.lt_of_lt_of_le hb hfr.size) hp;refine ⟨?_,k2.trans h2,fun o=>(k3 o).trans (h3 o)⟩;show Qry _ (g2.own b)=_;rw [k1];show Qry _ (hide (g.own b))=_;rw [h1];cases hq:g0.own b<;>rw [hq] at ho<;>first|exact ho.elim|rfl
theorem SR.behindO (h:SR n0 nt g0 w0 σ a w g) {tt:Option Nat} {i:Nat} {g2:G} {w2:World} {M' : Mem} {nb' : Nat} {r:V} {v:Value} {dst:Option Nat} (hd:∀ d,dst=some d→d<nt)
  (hm:MR g2 w2 M' nb') (hr:RV g2 w2 r (.res []) v) (hron:r.on (There M')) (hM:MOn (There M') M') (hf:Fr σ.nb (g.re (Qqb tt i)) w g2 w2) (hnb:σ.nb≤nb')
  (hkeep:∀ k,There σ.M k→There M' k) (hout:∀ k cs,M' k=some (.cells cs)→k<n0→V.ons (· < n0) cs) :
  SR n0 nt g0 w0 ⟨Qbd (Qt0 σ.s tt) dst r,M',nb'⟩ (a.put dst v) w2 (g2.re (Qry (dst.getD 0))):=by
 have hkept:Kept (g.re (Qqb tt i)) w g2 w2 (There σ.M) Prot:=by
  refine ⟨hf.imm,fun k hk=>?_,fun b hb hlt=>hf.old b hlt hb⟩;obtain ⟨b,hb⟩:=Option.isSome_iff_exists.1 hk;exact hf.box k ⟨(h.mem.box k b hb).1,h.mem.blk hb⟩
 have hps:∀ ℓ i,Prot ℓ→Prot (ℓ.sub i):=by intro ℓ i hp;cases ℓ<;>simp_all [Prot,Owner.sub]
 have htk:∀ t,tt=some t→Qt0 σ.s tt t=(σ.s t).dem:=by rintro t rfl;simp [Qt0,Sl.put]
 have htn:∀ t,tt≠some t→Qt0 σ.s tt t=σ.s t:=by
  intro t ht;cases tt with
  | none=>rfl
  | some t'=>simp only [Qt0,Sl.put];rw [if_neg];rintro rfl;exact ht rfl
 refine ⟨hm.re (Qnl _) rfl (fun o k=>Q3z),Qfi (fun d hd'=>by rw [h.size];exact hd d hd') (fun t ht=>?_) (fun d hd'=>?_),(Qge _ _ _).trans h.size,(Qd7 _ _ _).trans h.defers,
  Qfj (fun t=>?_) hron,fun k cs hk=>⟨hM k cs hk,hout k cs hk⟩,Nat.le_trans h.top hnb,?_⟩
 ·by_cases ht:tt=some t
  ·rw [htk t ht];have h1:=Qrg (f:=Qqb tt i) (Qqc tt i) rfl _ _ _ (Qha _ _ .ext _ (h.slots t));have h2:=Qch hkept hps trivial _ _ _ (show Prot (Qqb tt i .ext) from trivial) ((Qdn _).2 (h.onS t)) h1;exact Ql6 (Qdj _) (Qrg (Qnl _) rfl _ _ _ h2)
  ·rw [htn t ht];have e:Qqb tt i (.slot t []) = .hid 0 t []:=by simp [Qqb,ht]
   have h1:=Qrg (f:=Qqb tt i) (Qqc tt i) rfl _ _ _ (h.slots t);rw [e] at h1;have h2:=Qch hkept hps trivial _ _ _ (show Prot (.hid 0 t []) from trivial) (h.onS t) h1;exact Qrg (Qnl _) rfl _ _ _ h2
 ·have:=Qrg (Qnl (dst.getD 0)) rfl _ _ _ hr;simpa [Qry,hd'] using this
 ·by_cases ht:tt=some t
  ·rw [htk t ht];exact (Qdn _).2 (Qdp hkeep _ (h.onS t))
  ·rw [htn t ht];exact Qdp hkeep _ (h.onS t)
 ·have hle:n0≤σ.nb:=by have:=h.top;omega
  have hfr:=h.fr;refine ⟨hf.os.trans hfr.os,hf.tape.trans hfr.tape,hf.output.trans hfr.output,Nat.le_trans hfr.size hf.size,⟨fun b o hb=>hf.imm.mono b o (hfr.imm.mono b o hb),fun b o hb=>(hf.imm.look b o (hfr.imm.mono b o hb)).trans (hfr.imm.look b o hb)⟩,
   fun k hk=>(hf.box k ⟨by omega,by show g.box k<_;rw [hfr.box k hk];exact Nat.lt_of_lt_of_le hk.2 hfr.size⟩).trans (hfr.box k hk),fun b hb ho=>?_⟩
  obtain ⟨h1,h2,h3⟩:=hfr.old b hb ho;have hp:Prot ((g.re (Qqb tt i)).own b):=by
   show Prot (Qqb tt i (g.own b));rw [h1];cases hq:g0.own b<;>rw [hq] at ho<;>first|exact ho.elim|exact trivial
  obtain ⟨k1,k2,k3⟩:=hf.old b (Nat.lt_of_lt_of_le hb hfr.size) hp;refine ⟨?_,k2.trans h2,fun o=>(k3 o).trans (h3 o)⟩;show Qry _ (g2.own b)=_;rw [k1];show Qry _ (Qqb tt i (g.own b))=_;rw [h1];cases hq:g0.own b<;>rw [hq] at ho<;>first|exact ho.elim|rfl
theorem Q30 (h:SR n0 nt g0 w0 σ a w g) (ctx:Nat→TypeId) (tt:Option Nat):∀ (i j k:Nat) (xs:List Operand) (as:List Arg),Qek P ctx k xs=some as→Qtz i as=tt →
  RAs (g.re (Qqb tt (j+i))) w j (Qyj σ.s i as) (xs.map a.eval)∧V.ons (There σ.M) (Qyj σ.s i as)
 | i,j,k,[],as,hc,ht=>by simp [Qek] at hc;subst hc;cases i<;>exact ⟨rfl,trivial⟩
 | 0,j,k,x::xs,as,hc,ht=>by
  simp only [Qek] at hc;split at hc<;>cases hc;rename_i ar as' har has;obtain ⟨h3,h4⟩:=Qeh P h ctx (k+1) xs as' has;obtain ⟨h1,h2⟩:=Qg2 P h har;have hrest:=Q1q (Qqc tt (j+0)) rfl Qjs h3;have hd:RV (g.re (Qqb tt (j+0))) w (ar.val σ.s).dem (.slot j []) (a.eval x):=Ql6 (Qdj _) (Qrg (Qqc tt (j+0)) rfl _ .ext _ (h1 .ext));refine ⟨⟨_,_,rfl,?_,RAs.of_flat hrest⟩,?_,h4⟩
  ·rcases Qlq P h har with ⟨t,rfl,rfl,k1,k2⟩|⟨_,c,rfl,k1,k2⟩
   ·have k1:RV g w (σ.s t) (.slot t []) (a.eval (.tmp t)):=k1;have hd:RV (g.re (Qqb tt (j+0))) w (σ.s t).dem (.slot j []) (a.eval (.tmp t)):=hd;show RV _ _ (σ.s t).top _ _;by_cases ho:∃ sz l,σ.s t = .own sz l
    ·obtain ⟨sz,l,ho⟩:=ho;rw [ho] at k1 ⊢;have:=Qrg (f:=Qqb tt (j+0)) (Qqc tt (j+0)) rfl _ _ _ k1;have e2:Qqb tt (j+0) (.slot t []) = .slot j []:=by
      rw [← ht];simp [Qqb,Qtz]
     rw [e2] at this;exact this
    ·have e3:(σ.s t).top=(σ.s t).dem:=by
      cases hv:σ.s t<;>first|rfl|exact absurd ⟨_,_,hv⟩ ho
     rw [e3];exact hd
   ·exact hd
  ·rcases Qlq P h har with ⟨t,rfl,rfl,k1,k2⟩|⟨_,c,rfl,k1,k2⟩
   ·exact (Q5u _).2 h2
   ·exact (Qdn _).2 h2
 | i+1,j,k,x::xs,as,hc,ht=>by
  simp only [Qek] at hc;split at hc<;>cases hc;rename_i ar as' har has;obtain ⟨h1,h2⟩:=Qg2 P h har;obtain ⟨h3,h4⟩:=Q30 h ctx tt i (j+1) (k+1) xs as' has (by simpa [Qtz] using ht);rw [show j+1+i=j+(i+1) by omega] at h3;exact ⟨⟨_,_,rfl,Ql6 (Qdj _) (Qrg (Qqc tt (j+(i+1))) rfl _ .ext _ (h1 .ext)),h3⟩,(Qdn _).2 h2,h4⟩
theorem Qwc {f:FuncId} (hb:Qh2 P f=true) (args:Array Value) (w:World):(callFunc f args).run P w = .ok (.enter f args) w:=by
 unfold Qh2 at hb;cases hf:P.funcs[f]? with
 | none=>simp [hf] at hb
 | some fn =>
  simp only [hf,Option.any_some,Bool.and_eq_true,bne_iff_ne,ne_eq] at hb
  have h1 : (fn.name == "runtime.NumGoroutine") = false := by simpa using hb.2
  have h2:fn.body.isNone=false:=by simp_all
  have h3 : ¬ fn.name = "runtime.NumGoroutine" := hb.2
  have h4:¬ fn.body=none:=by intro e;simp [e] at h2
  simp [callFunc,hf,h3,h4]
theorem Q31 {g:G} {w:World}:∀ {xs ys:List V} {us vs:List Value},RFs g w xs us→RFs g w ys vs→RFs g w (xs++ys) (us++vs)
 | [],ys,us,vs,h,k=>by grind [RFs]
 | x::xs,ys,us,vs,⟨u,us',e,r,h⟩,k=>by subst e;exact ⟨u,us'++vs,by simp,r,Q31 h k⟩
theorem Q32 {g:G} {w:World}:∀ {cs:List V} {i:Nat} {us:List Value},RVs g w (V.dems cs) .free i us→RFs g w (V.dems cs) us
 | [],i,us,h=>by simpa [V.dems,RVs,RFs] using h
 | c::cs,i,us,h=>by
  simp only [V.dems,RVs] at h;obtain ⟨u,us',rfl,h1,h2⟩:=h;exact ⟨u,us',rfl,fun ℓ=>Ql6 (Qdj c) h1,Q32 h2⟩
end
end Go.Abs
end
section
namespace Go.Abs
open Go
section
variable {P:Program} {C:Ctx} {g:G} {w:World} {n0 nt:Nat} {g0:G} {w0:World} {σ:St} {a:Act}
theorem Q7o {T:Tk} {ops:Array Oper} {o:Oper} {c:COp} (hc:Qiz P T nt ops o=some c) (hcall:c.kind.isCall=true) (h:SR n0 nt g0 w0 σ a w g) {f:FuncId} {args:List V} (hcal:c.callee σ.s=some (f,args)) (hb:Qh2 P f=true) :
  c.dst=o.dst∧(∀ d,o.dst=some d→d<nt)∧∃ us:List Value,(execOp a.eval o).run P w = .ok (.enter f us.toArray) w∧RFs g w args us∧(∀ x∈args,Flat x)∧V.ons (There σ.M) args:=by
 obtain ⟨k,as,tk,hk,hd,hcd,hck,hca⟩ : ∃ k as tk,Qe2 P T o=some (k,as,tk)∧(∀ d,o.dst=some d→d<nt)∧c.dst=o.dst∧c.kind=k∧c.args=as:=by
  unfold Qiz at hc;split at hc<;>try (cases hc;done)
  rename_i k as tk hk;split at hc<;>try (cases hc;done)
  rename_i hcond;simp only [Bool.and_eq_true,decide_eq_true_eq] at hcond;refine ⟨k,as,tk,hk,fun d hd=>?_,?_⟩
  ·grind [Q7d]
  grind
 refine ⟨hcd,hd,?_⟩;rw [hck] at hcall;simp only [COp.callee,hck,hca] at hcal;clear hcd hck hca hc;have nocall:∀ {k:K},k.isCall=true→(∃ f,k = .call f)∨k = .callv:=by intro k hk;cases k<;>simp_all [K.isCall]
 have hcl:∃ cl x,o.op = .call cl∧cl.callee = .value x:=by
  unfold Qe2 Qp2 at hk;cases hop:o.op<;>rw [hop] at hk<;>(try simp only at hk)
  case call cl =>
   cases hcl:cl.callee with
   | value x=>grind
   | invoke=>rw [hcl] at hk;cases hk
   | builtin b =>
    grind [Option.bind_eq_some_iff,Option.map_eq_some_iff,Option.some.injEq,Prod.mk.injEq,K.isCall]
  all_goals
   exfalso
   (repeat' split at hk)<;>first
    | (cases hk;done)
    | (simp only [Option.bind_eq_some_iff,Option.map_eq_some_iff,Option.some.injEq,Prod.mk.injEq] at hk;grind [K.isCall])
 obtain ⟨cl,x,hop,hcl⟩:=hcl;unfold Qe2 at hk;rw [hop] at hk;simp only [hcl] at hk;cases x<;>(try simp only at hk)<;>try (cases hk;done)
 case tmp t =>
  simp only [Option.map_eq_some_iff,Prod.mk.injEq] at hk;obtain ⟨as',has,rfl,rfl,rfl⟩:=hk;simp only [List.map_cons,Arg.val] at hcal;cases hst:σ.s t<;>rw [hst] at hcal<;>simp only at hcal<;>try (cases hcal;done)
  rename_i f' caps;simp only [Option.some.injEq,Prod.mk.injEq] at hcal;obtain ⟨rfl,rfl⟩:=hcal;obtain ⟨h1,h2⟩:=Qeh P h _ _ _ _ has;have hslot:=h.slots t;have hon:=h.onS t;rw [hst] at hslot hon;simp only [RV] at hslot;obtain ⟨vs,hvs,hr⟩:=hslot;refine ⟨cl.args.toList.map a.eval++vs,?_,?_,?_,?_⟩
  ·have hev:a.eval (.tmp t) = .func (.func f') #[] vs.toArray:=hvs;have e:cl.args.map a.eval++vs.toArray=(cl.args.toList.map a.eval++vs).toArray:=by apply Array.ext';simp
   grind [Go.execOp,Go.resolve,Go.Sem.run_bind,Go.Deferred.ofValue,Go.Sem.run_pure,Go.Result.andThen_ok,Go.invoke,Qwc]
  ·exact Q31 h1 (Q32 (RVs_dem caps .ext .free 0 0 vs hr))
  ·grind [Qjs]
  ·exact Qfa.2 ⟨h2,(ons_dems caps).2 hon⟩
 case func f' =>
  split at hk<;>try (cases hk;done)
  simp only [Option.map_eq_some_iff,Prod.mk.injEq] at hk;obtain ⟨as',has,hkk,rfl,rfl⟩:=hk;cases hco:inL T.co o.dst with
  | true=>rw [hco] at hkk;subst hkk;cases hcall
  | false =>
  rw [hco] at hkk;have hkk:K.call f'=_:=hkk;subst hkk;simp only [Option.some.injEq,Prod.mk.injEq] at hcal;obtain ⟨rfl,rfl⟩:=hcal;obtain ⟨h1,h2⟩:=Qeh P h _ _ _ _ has;refine ⟨cl.args.toList.map a.eval,?_,h1,Qjs,h2⟩;have hev:a.eval (.func f') = .func (.func f') #[] #[]:=rfl;have e:cl.args.map a.eval ++ #[]=(cl.args.toList.map a.eval).toArray:=by apply Array.ext';simp
  grind [Go.execOp,Go.resolve,Go.Sem.run_bind,Go.Deferred.ofValue,Go.Sem.run_pure,Go.Result.andThen_ok,Go.invoke,Qwc]
def Qba0 (P:Program) (g0:G) (w0:World) (C:Ctx):Prop:=Tab P g0 w0∧∀ f args M nb r M' nb',C f args M nb r M' nb'→ACalls P f args M nb r M' nb'
theorem Q6b {T:Tk} {ops:Array Oper} {o:Oper} {c:COp} (hc:Qiz P T nt ops o=some c) {f:FuncId} {i:Nat} (hck:c.kind = .callO f i) (h:SR n0 nt g0 w0 σ a w g) (hb:Qh2 P f=true) :
  c.dst=o.dst∧(∀ d,o.dst=some d→d<nt)∧∃ us:List Value,(execOp a.eval o).run P w = .ok (.enter f us.toArray) w∧RAs (g.re (Qqb (Qtz i c.args) i)) w 0 (Qyj σ.s i c.args) us∧V.ons (There σ.M) (Qyj σ.s i c.args):=by
 obtain ⟨k,as,tk,hk,hd,hcd,hck',hca⟩ : ∃ k as tk,Qe2 P T o=some (k,as,tk)∧(∀ d,o.dst=some d→d<nt)∧c.dst=o.dst∧c.kind=k∧c.args=as:=by
  unfold Qiz at hc;split at hc<;>try (cases hc;done)
  rename_i k as tk hk;split at hc<;>try (cases hc;done)
  rename_i hcond;simp only [Bool.and_eq_true,decide_eq_true_eq] at hcond;refine ⟨k,as,tk,hk,fun d hd=>?_,?_⟩
  ·grind [Q7d]
  grind
 refine ⟨hcd,hd,?_⟩;rw [hck] at hck';subst hck';rw [hca];clear hcd hck hca hc;have hcl:∃ cl g',o.op = .call cl∧cl.callee = .value (.func g'):=by
  unfold Qe2 Qp2 at hk;cases hop:o.op<;>rw [hop] at hk<;>(try simp only at hk)
  case call cl =>
   cases hcl:cl.callee with
   | value x =>
    rw [hcl] at hk;cases x with
    | func g'=>exact ⟨cl,g',rfl,hcl⟩
    | tmp t=>simp at hk
    | _=>simp at hk
   | invoke=>rw [hcl] at hk;cases hk
   | builtin b =>
    grind [Option.bind_eq_some_iff,Option.map_eq_some_iff,Option.some.injEq,Prod.mk.injEq]
  all_goals
   exfalso
   (repeat' split at hk)<;>first
    | (cases hk;done)
    | (simp only [Option.bind_eq_some_iff,Option.map_eq_some_iff,Option.some.injEq,Prod.mk.injEq] at hk;grind)
 obtain ⟨cl,f',hop,hcl⟩:=hcl;unfold Qe2 at hk;rw [hop] at hk;simp only [hcl] at hk;split at hk<;>try (cases hk;done)
 simp only [Option.map_eq_some_iff,Prod.mk.injEq] at hk;obtain ⟨as',has,hkk,rfl,rfl⟩:=hk;split at hkk<;>cases hkk;obtain ⟨h1,h2⟩:=Q30 P h _ _ _ 0 _ _ _ has rfl;rw [Nat.zero_add] at h1;refine ⟨cl.args.toList.map a.eval,?_,h1,h2⟩;have hev:∀ f,a.eval (.func f) = .func (.func f) #[] #[]:=fun _=>rfl;have e:cl.args.map a.eval ++ #[]=(cl.args.toList.map a.eval).toArray:=by apply Array.ext';simp
 grind [Go.execOp,Go.resolve,Go.Sem.run_bind,Go.Deferred.ofValue,Go.Sem.run_pure,Go.Result.andThen_ok,Go.invoke,Qwc]
theorem Q6c {T:Tk} {ops:Array Oper} {o:Oper} {c:COp} (hc:Qiz P T nt ops o=some c) :
  (o.guard=none∧c.guard=none)∨∃ j want t,o.guard=some (j,want)∧(ops[j]?).bind (·.dst)=some t∧c.guard=some (t,want):=by
 unfold Qiz at hc
 grind
theorem Q33 {T:Tk} {ops:Array Oper} {o:Oper} {c:COp} (hc:Qiz P T nt ops o=some c):c.dst=o.dst∧∀ d,o.dst=some d→d<nt:=by
 unfold Qiz at hc;split at hc<;>try (cases hc;done)
 split at hc<;>try (cases hc;done)
 rename_i hcond;simp only [Bool.and_eq_true,decide_eq_true_eq] at hcond;have hd:∀ d,o.dst=some d→d<nt:=fun d hd=>by grind [Q7d]
 grind
theorem Qba1 (h:SR n0 nt g0 w0 σ a w g) {T:Tk} {ops:Array Oper} {o:Oper} {c:COp} (hc:Qiz P T nt ops o=some c) {b:Bool} (hw:c.wanted σ.s=some b) :
  Region.wanted o (yielded ops a.tmps)=b:=by
 rcases Q6c hc with ⟨h1,h2⟩|⟨j,want,t,h1,h2,h3⟩
 ·grind [COp.wanted,Option.some.injEq,Go.Region.wanted]
 ·simp only [COp.wanted,h3] at hw;have hslot:=h.slots t;cases hs:σ.s t<;>rw [hs] at hw hslot<;>(try simp only at hw)<;>try (cases hw;done)
  ·rename_i dx;cases dx<;>(try simp only at hw)<;>try (cases hw;done)
   rename_i q;simp only [Option.some.injEq] at hw;simp only [RV,RD] at hslot;have hy:yielded ops a.tmps j=some q:=by
    simp only [yielded,h2,Option.bind_some];cases ht:a.tmps[t]? with
    | none=>simp [ht,undef] at hslot
    | some v =>
     simp_all
   grind [Go.Region.wanted]
  ·rename_i vs;cases vs with
   | cons=>simp at hw
   | nil =>
    simp only [Option.some.injEq] at hw;subst hw;simp only [RV,RVs] at hslot;obtain ⟨vs,hv,rfl⟩:=hslot;have hy:yielded ops a.tmps j=none:=by
     simp only [yielded,h2,Option.bind_some];cases ht:a.tmps[t]? with
     | none=>rfl
     | some v=>simp_all
    simp [Region.wanted,h1,hy]
theorem Q3h {T:Tk} {o:Oper} {k:K} {as:List Arg} {tk:Bool} (hk:Qe2 P T o=some (k,as,tk)) (hn:k.isNil=true) (hno:∀ f i,k ≠ .callO f i) :
  ∃ op t x ar e,o.op = .binOp op t x (.const (.slice none 0 0)) (match o.op with | .binOp _ _ _ _ yt=>yt|_=>0)∧Qe1 P t x=some ar∧as=[ar]∧tk=false∧P.underlying t=some (.slice e)∧(op = .eql∧k = .isnil false∨op = .neq∧k = .isnil true):=by
 unfold Qe2 Qp2 at hk;cases hop:o.op<;>rw [hop] at hk<;>(try simp only at hk)
 case binOp op t x y yt =>
  split at hk<;>try (cases hk;done)
  rename_i xa ya hxa hya;split at hk<;>try (cases hk;done)
  ·grind
  all_goals grind [Option.bind_eq_some_iff,Option.map_eq_some_iff,Option.some.injEq,Prod.mk.injEq,K.isNil]
 all_goals
  grind [Option.bind_eq_some_iff,Option.map_eq_some_iff,Option.some.injEq,Prod.mk.injEq,K.isNil]
theorem Q42 (hC:Qba0 P g0 w0 C) {T:Tk} {ops:Array Oper} {o:Oper} {c:COp} (hc:Qiz P T nt ops o=some c) {pc:Nat} {Q:St→Prop} (h:SR n0 nt g0 w0 σ a w g) (hrun:c.run C n0 pc σ Q)
  {KK:Act→World→Prop} {QQ:Exit→Act→World→Prop} (hK:∀ σ' a' w' g',Q σ'→SR n0 nt g0 w0 σ' a' w' g'→KK a' w') :
  if Region.wanted o (yielded ops a.tmps) then o.wp P a w KK QQ else KK (a.put o.dst undef) w:=by
 obtain ⟨hdst,hd⟩:=Q33 hc;unfold COp.run at hrun;cases hw:c.wanted σ.s with
 | none=>grind
 | some b =>
  rw [Qba1 h hc hw];rw [hw] at hrun;cases b with
  | false =>
   simp only [Bool.false_eq_true,if_false];refine hK _ _ _ g hrun ?_;rw [hdst];exact h.pure hd (fun _ _=>by simp [RV,RVs,undef]) trivial
  | true =>
   simp only [if_true] at hrun ⊢;cases hcall:c.kind.isCall with
   | true =>
    rw [hcall] at hrun;simp only [if_true] at hrun;cases hcal:c.callee σ.s with
    | none=>grind
    | some fa =>
     obtain ⟨f,args⟩:=fa;rw [hcal] at hrun;simp only at hrun;have key:∀ r M nb,C f args σ.M σ.nb r M nb→(∀ k,(σ.M k).isSome=true→(M k).isSome=true)→(∀ k cs,k<n0→M k=some (.cells cs)→M k=σ.M k∨V.lt.go n0 cs=true)→Q ⟨Qbd σ.s c.dst r,M,nb⟩→o.wp P a w KK QQ:=by
      intro r M nb hCc hkeep hout hq;obtain ⟨hbody,hnb,hcalls⟩:=hC.2 _ _ _ _ _ _ _ hCc;obtain ⟨_,_,us,hex,hus,hfl,hons⟩:=Q7o hc hcall h hcal hbody;unfold Oper.wp;rw [hex];have hm:=h.mem.re Q41 rfl (fun o k=>Qbdd);have hus':=Q1q Q41 rfl hfl hus;refine (hcalls w (g.re hide) us ((hC.1.fr h.fr).re rfl) hm h.mOn (RAs.of_flat hus') hons).mono ?_;rintro e w' ⟨v,g',rfl,hm',hr',hron,hMon,hfr⟩;refine hK _ _ _ (g'.re (Qry (o.dst.getD 0))) hq ?_;rw [hdst];refine h.behind hd hm' hr' hron hMon hfr hnb hkeep fun k cs hk hlt=>?_;rcases hout k cs hlt hk with he|hl
      ·exact h.out k cs (he ▸ hk) hlt
      ·exact ons_lt cs hl
     match pc,hrun with
     | 0,⟨r,M,nb,h1,h2,h3,h4⟩=>grind
     | 1,⟨r,Δ,nb,h1,h4⟩ =>
      have hin:∀ k,(σ.M k).isSome=true→k<σ.nb:=fun k hk=>by
       obtain ⟨b,hb⟩:=Option.isSome_iff_exists.1 hk;exact (h.mem.box k b hb).1
      refine key r (σ.M.over σ.nb Δ) nb (h1 σ.M (fun _ _=>rfl) fun k hk=>?_) (fun k hk=>?_) (fun k cs hlt hk=>.inl ?_) h4
      ·cases hM:σ.M k with
       | none=>rfl
       | some b=>grind
      ·simp only [Mem.over,hin k hk,if_true];exact hk
      ·have:=h.top;simp only [Mem.over,show k<σ.nb by omega,if_true]
     | n+2,hrun =>
      have hrun:(if n<8 then _ else _):=hrun;split at hrun
      ·grind
      ·obtain ⟨r,W,Δ,nb,_,hW,hW2,h1,h4⟩:=hrun;have hin:∀ k,(σ.M k).isSome=true→k<σ.nb:=fun k hk=>by
        obtain ⟨b,hb⟩:=Option.isSome_iff_exists.1 hk;exact (h.mem.box k b hb).1
       refine key r ((σ.M.patch W).over σ.nb Δ) nb (h1 σ.M (fun _ _=>rfl) fun k hk=>?_) (fun k hk=>?_) (fun k cs hlt hk=>?_) h4
       ·cases hM:σ.M k with
        | none=>rfl
        | some b=>grind
       ·simp only [Mem.over,hin k hk,if_true,Mem.patch]
        grind
       ·have:=h.top;simp only [Mem.over,show k<σ.nb by omega,if_true,Mem.patch] at hk ⊢
        grind
   | false =>
    rw [hcall] at hrun;simp only [Bool.false_eq_true,if_false] at hrun;cases hnil:c.kind.isNil with
    | true =>
     rw [hnil] at hrun;simp only [if_true] at hrun;by_cases hO:∃ f i,c.kind = .callO f i
     ·obtain ⟨f,i,hO⟩:=hO;simp only [COp.runN,hO] at hrun;obtain ⟨_,r,M,nb,hCc,hkeep,hout,hq⟩:=hrun;obtain ⟨hbody,hnb,hcalls⟩:=hC.2 _ _ _ _ _ _ _ hCc;obtain ⟨_,_,us,hex,hus,hons⟩:=Q6b hc hO h hbody;unfold Oper.wp;rw [hex];have hm:=h.mem.re (f:=Qqb (Qtz i c.args) i) (Qqc _ _) rfl (fun o k=>Qbaz);refine (hcalls w _ us ((hC.1.fr h.fr).re rfl) hm h.mOn hus hons).mono ?_;rintro e w' ⟨v,g',rfl,hm',hr',hron,hMon,hfr⟩;refine hK _ _ _ (g'.re (Qry (o.dst.getD 0))) hq ?_;rw [hdst];refine h.behindO hd hm' hr' hron hMon hfr hnb hkeep fun k cs hk hlt=>?_;rcases hout k cs hlt hk with he|hl
      ·exact h.out k cs (he ▸ hk) hlt
      ·exact ons_lt cs hl
     have hrun:(match Q1y (c.xs σ.s) with
      | some n=>∀ b:Bool,(b=true→n=0)→Q { σ with s:=Qbd σ.s c.dst (.d (.bool (if c.kind.negNil then !b else b))) }
      | none=>False):=by
      unfold COp.runN at hrun;split at hrun
      ·rename_i f i hkk;exact absurd ⟨f,i,hkk⟩ hO
      ·exact hrun
     obtain ⟨k,as,tk,hk,hck,hca,hct⟩ : ∃ k as tk,Qe2 P T o=some (k,as,tk)∧c.kind=k∧c.args=as∧c.tk=tk:=by
      unfold Qiz at hc
      grind
     obtain ⟨op,t,x,ar,e,hop,har,rfl,rfl,hu,hkk⟩:=Q3h hk (by rw [← hck];exact hnil) (fun f i e=>hO ⟨f,i,by rw [hck];exact e⟩);obtain ⟨h1,h2⟩:=Qg2 P h har;simp only [COp.xs,hct,hca,Bool.false_eq_true,if_false,List.map_cons,List.map_nil,V.dems] at hrun;have hsl:∃ (m:Nat) (ad:Option Addr) (ln cap:Nat),Q1y [(ar.val σ.s).dem]=some m∧a.eval x = .slice ad ln cap∧(ad.isNone=true→m=0):=by
      have ofD:∀ (l:List (List D)) (sz:Nat),RD g.imm w (.lst sz l) (a.eval x)→∃ (ad:Option Addr) (ln cap:Nat),a.eval x = .slice ad ln cap∧(ad.isNone=true→l.length=0):=by
       intro l sz hrd;simp only [RD] at hrd
       grind
      cases hv:(ar.val σ.s).dem<;>rw [hv] at hrun h1<;>(try (simp [Q1y] at hrun;done))
      ·rename_i dx;cases dx<;>(try (simp [Q1y] at hrun;done));obtain ⟨ad,ln,cap,k1,k2⟩:=ofD _ _ (RF_d.1 h1);exact ⟨_,ad,ln,cap,rfl,k1,k2⟩
      ·grind [Qdj,V.dem]
      ·have h2:=h1 .free;simp only [RV] at h2;obtain ⟨ad,h2⟩:=h2;exact ⟨0,ad,0,0,rfl,h2,fun _=>rfl⟩
      ·have h2:=h1 .free;simp only [RV] at h2
       grind
     obtain ⟨m,ad,ln,cap,hl,hval,hld⟩:=hsl;rw [hl] at hrun;simp only at hrun;have hb:=hrun ad.isNone hld;have hres:(execOp a.eval o).run P w = .ok (.value (.bool (if c.kind.negNil then !ad.isNone else ad.isNone))) w:=by
      simp only [execOp];rw [hop];simp only;refine Qg3 P _ ?_;have hev:a.eval (.const (.slice none 0 0)) = .slice none 0 0:=rfl;rw [hval,hev,Sem.run_bind,Qp6 P _ _ _ _ _ _ rfl w,Result.andThen_ok];rcases hkk with ⟨rfl,rfl⟩|⟨rfl,rfl⟩
      ·rw [hck];exact Lib.run_eql_slice_nil w t e ad ln cap 0 0 hu
      ·rw [hck];exact run_neq_slice_nil_any w t e ad ln cap 0 0 hu
     unfold Oper.wp;rw [hres];refine hK _ _ _ g hb ?_;rw [hdst];exact h.pure hd (fun _ _=>by simp [RV,RD]) trivial
    | false =>
     rw [hnil] at hrun;simp only [Bool.false_eq_true,if_false] at hrun;cases hst:c.step n0 σ with
     | none=>grind
     | some σ' =>
      rw [hst] at hrun;exact (Q9j P hc hcall hnil h hst).wp P fun a' w' g' hs=>hK _ _ _ g' hrun hs
end
end Go.Abs
end
section
namespace Go.Abs
open Go
def CallStp (C:Ctx) (n0 pc:Nat) (d:Option Nat) (f:FuncId) (args:List V) (M:Mem) (nb:Nat) (r:V) (M' : Mem) (nb' : Nat):Prop :=
 match pc with
 | 0=>C f args M nb r M' nb'∧(∀ k,(M k).isSome=true→(M' k).isSome=true)∧(∀ k cs,k<n0→M' k=some (.cells cs)→M' k=M k∨V.lt.go n0 cs=true)
 | 1=>∃ Δ,(∀ M2:Mem,(∀ k,(M k).isSome=true→M2 k=M k)→(∀ k,nb≤k→M2 k=none)→C f args M2 nb r (M2.over nb Δ) nb')∧M'=M.over nb Δ
 | n+2=>if n<8 then (∀ M nb,C f args M nb r M nb)∧M'=M∧nb'=nb
  else ∃ W Δ,(wrs (n-8) d=true∨∀ k,W k=none)∧(∀ k,(W k).isSome=true→(M k).isSome=true)∧(∀ k cs,k<n0→W k=some (.cells cs)→V.lt.go n0 cs=true) ∧
   (∀ M2:Mem,(∀ k,(M k).isSome=true→M2 k=M k)→(∀ k,nb≤k→M2 k=none)→C f args M2 nb r ((M2.patch W).over nb Δ) nb')∧M'=(M.patch W).over nb Δ
def Core (C:Ctx) (n0 pc:Nat) (o:COp) (s:Sl) (M:Mem) (nb:Nat) (v:V) (M' : Mem) (nb' : Nat):Prop :=
 match o.wanted s with
 | some true =>
  if o.kind.isCall then ∃ f args,o.callee s=some (f,args)∧CallStp C n0 pc o.dst f args M nb v M' nb'
  else if o.kind.isNil then False
  else Qm n0 (n0+o.dst.getD 0) o.kind (o.xs s) M=some (v,M')∧nb'=nb
 | some false=>v = .tup []∧M'=M∧nb'=nb
 | none=>False
def pv (o:COp) (s:Sl):List V:=if o.wanted s=some true∧o.kind.isCall=false∧o.tk=true then Qb4 o.kind (o.xs s) else []
def Stp (C:Ctx) (n0 pc:Nat) (o:COp) (σ σ' : St):Prop :=
 ∃ v,Core C n0 pc o σ.s σ.M σ.nb v σ'.M σ'.nb∧σ'.s=Qbd (Qba σ.s o.args (pv o σ.s)) o.dst v
theorem Qeb (s:Sl) (as:List Arg):Qba s as []=s:=by cases as<;>rfl
theorem Qbe2 {C:Ctx} {n0 pc:Nat} {o:COp} {σ:St} {Q:St→Prop} (hn:o.kind.isNil=false) (h:o.run C n0 pc σ Q):∃ σ',Stp C n0 pc o σ σ'∧Q σ':=by
 unfold COp.run at h;cases hw:o.wanted σ.s with
 | none=>grind
 | some b =>
  rw [hw] at h;cases b with
  | false =>
   refine ⟨_,⟨.tup [],?_,?_⟩,h⟩
   ·simp [Core,hw]
   ·simp [pv,hw,Qeb]
  | true =>
   simp only at h;cases hcall:o.kind.isCall with
   | true =>
    rw [hcall] at h;simp only [if_true] at h;cases hcal:o.callee σ.s with
    | none=>grind
    | some fa =>
     obtain ⟨f,args⟩:=fa;rw [hcal] at h;simp only at h;have hpv:pv o σ.s=[]:=by simp [pv,hcall]
     match pc,h with
     | 0,⟨r,M,nb,h1,h2,h3,h4⟩=>exact ⟨_,⟨r,by simp only [Core,hw,hcall,if_true];exact ⟨f,args,hcal,h1,h2,h3⟩,by rw [hpv,Qeb]⟩,h4⟩
     | 1,⟨r,Δ,nb,h1,h4⟩=>exact ⟨_,⟨r,by simp only [Core,hw,hcall,if_true];exact ⟨f,args,hcal,Δ,h1,rfl⟩,by rw [hpv,Qeb]⟩,h4⟩
     | n+2,h =>
      have h:(if n<8 then _ else _):=h;by_cases hn8:n<8
      ·rw [if_pos hn8] at h;obtain ⟨r,h1,h4⟩:=h;exact ⟨_,⟨r,by simp only [Core,hw,hcall,if_true];exact ⟨f,args,hcal,(by show (if n<8 then _ else _);grind)⟩,by rw [hpv,Qeb]⟩,h4⟩
      ·rw [if_neg hn8] at h;obtain ⟨r,W,Δ,nb,h1,h2,h3,h5,h4⟩:=h;exact ⟨_,⟨r,by simp only [Core,hw,hcall,if_true];exact ⟨f,args,hcal,(by show (if n<8 then _ else _);grind)⟩,by rw [hpv,Qeb]⟩,h4⟩
   | false =>
    rw [hcall,hn] at h;simp only [Bool.false_eq_true,if_false] at h;cases hst:o.step n0 σ with
    | none=>grind
    | some σ' =>
     rw [hst] at h;refine ⟨σ',?_,h⟩;unfold COp.step at hst;simp only at hst;split at hst<;>cases hst;rename_i v M hk;refine ⟨v,by simp [Core,hw,hcall,hn,hk],?_⟩
     grind [pv,Qeb]
theorem Qba2 {C:Ctx} {n0 pc:Nat} {o:COp} {σ σ' : St} {Q:St→Prop} (h:Stp C n0 pc o σ σ') (hq:Q σ'):o.run C n0 pc σ Q:=by
 obtain ⟨v,hc,hs⟩:=h;unfold Core at hc;unfold COp.run;cases hw:o.wanted σ.s with
 | none=>grind
 | some b =>
  rw [hw] at hc;cases b with
  | false =>
   obtain ⟨rfl,h1,h2⟩:=hc;simp only [pv,hw] at hs;simp [Qeb] at hs;show Q _;rw [← hs,← h2,← h1];exact hq
  | true =>
   simp only at hc ⊢;cases hcall:o.kind.isCall with
   | true =>
    rw [hcall] at hc;simp only [if_true] at hc ⊢;obtain ⟨f,args,hcal,hcc⟩:=hc;rw [hcal];simp only;have hpv:pv o σ.s=[]:=by simp [pv,hcall]
    rw [hpv,Qeb] at hs
    match pc,hcc with
    | 0,⟨h1,h2,h3⟩=>exact ⟨v,σ'.M,σ'.nb,h1,h2,h3,by rw [← hs];exact hq⟩
    | 1,⟨Δ,h1,h2⟩=>exact ⟨v,Δ,σ'.nb,h1,by rw [← hs,← h2];exact hq⟩
    | n+2,hcc =>
     have hcc:(if n<8 then _ else _):=hcc;show (if n<8 then _ else _);by_cases hn8:n<8
     ·rw [if_pos hn8] at hcc ⊢;obtain ⟨h1,h2,h3⟩:=hcc;exact ⟨v,h1,by rw [← hs,← h2,← h3];exact hq⟩
     ·rw [if_neg hn8] at hcc ⊢;obtain ⟨W,Δ,h1,h2,h3,h4,h5⟩:=hcc;exact ⟨v,W,Δ,σ'.nb,h1,h2,h3,h4,by rw [← hs,← h5];exact hq⟩
   | false =>
    rw [hcall] at hc;simp only [Bool.false_eq_true,if_false] at hc ⊢;cases hn:o.kind.isNil with
    | true=>grind
    | false =>
     rw [hn] at hc;simp only [Bool.false_eq_true,if_false] at hc ⊢;obtain ⟨h1,h2⟩:=hc;have:o.step n0 σ=some σ':=by
      unfold COp.step;simp only [h1,Option.some.injEq];have hs' : σ'.s=Qbd (if o.tk=true then Qba σ.s o.args (Qb4 o.kind (o.xs σ.s)) else σ.s) o.dst v:=by
       grind [pv,Qeb]
      rw [← hs',← h2]
     rw [this];exact hq
theorem Qba3 (s:Sl) {t u:Nat} (v x:V) (h:t≠u):(s.put t v).put u x=(s.put u x).put t v:=by
 grind [Sl.put]
theorem Qud:∀ (as:List Arg) (vs:List V) (s:Sl) (t:Nat) (x:V),(∀ a∈as,t∉a.slot)→Qba (s.put t x) as vs=(Qba s as vs).put t x
 | [],_,_,_,_,_=>by simp [Qba]
 | a::as,[],_,_,_,_=>rfl
 | a::as,v::vs,s,t,x,h=>by
  simp only [Qba];have ha:=h a (by simp);cases a with
  | c w=>exact Qud as vs s t x fun a h'=>h a (by simp [h'])
  | t i =>
   have hne:t≠i:=by simpa [Arg.slot] using ha
   simp only [Arg.putTo];rw [Qba3 _ _ _ hne];exact Qud as vs (s.put i v) t x fun a h'=>h a (by simp [h'])
theorem Qwd:∀ (bs:List Arg) (ws:List V) (s:Sl) (as:List Arg) (vs:List V),(∀ a∈as,∀ b∈bs,∀ t∈b.slot,t∉a.slot)→Qba (Qba s bs ws) as vs=Qba (Qba s as vs) bs ws
 | [],_,_,_,_,_=>by simp [Qba]
 | b::bs,[],_,_,_,_=>rfl
 | b::bs,w::ws,s,as,vs,h=>by
  simp only [Qba];rw [Qwd bs ws _ as vs fun a ha b' hb'=>h a ha b' (by simp [hb'])];congr 1;cases b with
  | c w=>rfl
  | t i =>
   simp only [Arg.putTo];exact Qud as vs s i w fun a ha=>h a ha (.t i) (by simp) i (by simp [Arg.slot])
theorem Que:∀ (as:List Arg) (vs:List V) (s:Sl) (t:Nat),(∀ a∈as,t∉a.slot)→Qba s as vs t=s t
 | [],_,_,_,_=>by simp [Qba]
 | a::as,[],_,_,_=>rfl
 | a::as,v::vs,s,t,h=>by
  simp only [Qba];rw [Que as vs _ t fun a h'=>h a (by simp [h'])];have ha:=h a (by simp);cases a with
  | c w=>rfl
  | t i =>
   have hne:t≠i:=by simpa [Arg.slot] using ha
   simp [Arg.putTo,Sl.put,hne]
theorem Q6d (k:K) (xs:List V):V.dems (Qb4 k xs)=V.dems xs:=by
 unfold Qb4;split<;>simp [V.dems,Qdj,dems_dems];rename_i i vs;split
 ·rename_i v hv;simp only [V.dem];congr 1;have:∀ (vs:List V) (i:Nat) (v:V),vs[i]? = some v→V.dems (vs.set i v.dem)=V.dems vs:=by
   intro vs
   induction vs with
   | nil=>intro i v h;simp at h
   | cons a vs ih =>
    intro i v h;cases i with
    | zero=>grind [V.dems,Qdj]
    | succ i=>grind [V.dems]
  exact this vs i v hv
 ·rfl
theorem Ql7:∀ vs:List V,V.dems vs=vs.map V.dem
 | []=>rfl
 | v::vs=>by simp [V.dems,Ql7 vs]
theorem Q2i:∀ (as:List Arg) (vs:List V) (s:Sl),V.dems vs=V.dems (as.map (·.val s))∨vs=[]→∀ t,(Qba s as vs t).dem=(s t).dem:=by
 intro as vs s h;rcases h with h|rfl
 case inr=>intro t;rw [Qeb]
 suffices H:∀ (as:List Arg) (vs:List V) (s s0:Sl),(∀ t,(s t).dem=(s0 t).dem)→V.dems vs=V.dems (as.map (·.val s0))→∀ t,(Qba s as vs t).dem=(s0 t).dem from H as vs s s (fun _=>rfl) h
 intro as
 induction as with
 | nil=>simp_all [Qba]
 | cons a as ih =>
  intro vs s s0 h1 h2 t;cases vs with
  | nil=>exact h1 t
  | cons v vs =>
   simp only [List.map_cons,V.dems,List.cons.injEq] at h2;simp only [Qba];refine ih vs _ s0 (fun t=>?_) h2.2 t;cases a with
   | c w=>exact h1 t
   | t i =>
    simp only [Arg.putTo,Sl.put];split
    ·rename_i he;subst he;exact h2.1
    ·exact h1 t
def Alike (o:COp) (s s' : Sl):Prop :=
 (∀ t w,o.guard=some (t,w)→s' t=s t)∧∀ a∈o.args,if o.tk then a.val s'=a.val s else (a.val s').dem=(a.val s).dem
theorem Alike.wanted {o:COp} {s s' : Sl} (h:Alike o s s'):o.wanted s'=o.wanted s:=by
 unfold COp.wanted;split
 ·rfl
 ·rename_i t w hg;rw [h.1 t w hg]
theorem Alike.xs {o:COp} {s s' : Sl} (h:Alike o s s'):o.xs s'=o.xs s:=by
 unfold COp.xs;have h2:=h.2;split
 all_goals simp_all [if_true,List.map_congr_left,Ql7,List.map_map]
theorem Alike.dems {o:COp} {s s' : Sl} (h:Alike o s s'):V.dems (o.args.map (·.val s'))=V.dems (o.args.map (·.val s)):=by
 rw [Ql7,Ql7,List.map_map,List.map_map];refine List.map_congr_left fun a ha=>?_;have h2:=h.2 a ha
 grind
theorem Qba4 {v:V} {f:FuncId} {cs:List V}:v.dem = .clo f cs↔v = .clo f cs:=by
 cases v<;>simp [V.dem]
theorem Q7p {o:COp} {s s' : Sl} (h:V.dems (o.args.map (·.val s'))=V.dems (o.args.map (·.val s))):o.callee s'=o.callee s:=by
 unfold COp.callee;split
 ·rw [h]
 ·revert h;generalize o.args.map (·.val s')=xs';generalize o.args.map (·.val s)=xs;intro h;cases xs with
  | nil =>
   grind [V.dems]
  | cons x xs =>
   cases xs' with
   | nil=>simp [V.dems] at h
   | cons x' xs' =>
    simp only [V.dems,List.cons.injEq] at h;obtain ⟨h1,h2⟩:=h;by_cases hx:∃ f cs,x = .clo f cs
    ·obtain ⟨f,cs,rfl⟩:=hx;have:x' = .clo f cs:=Qba4.1 (h1.trans rfl)
     grind
    ·have hx' : ¬ ∃ f cs,x' = .clo f cs:=by
      rintro ⟨f,cs,rfl⟩;exact hx ⟨f,cs,Qba4.1 (h1.symm.trans rfl)⟩
     grind
 ·rfl
theorem Alike.core {C:Ctx} {n0 pc:Nat} {o:COp} {s s' : Sl} (h:Alike o s s') {M:Mem} {nb:Nat} {v:V} {M' : Mem} {nb' : Nat} (hc:Core C n0 pc o s M nb v M' nb'):Core C n0 pc o s' M nb v M' nb':=by
 unfold Core at *
 rw [h.wanted,h.xs,Q7p h.dems];exact hc
theorem Alike.pv {o:COp} {s s' : Sl} (h:Alike o s s'):Abs.pv o s'=Abs.pv o s:=by
 unfold Abs.pv;rw [h.wanted,h.xs]
theorem Qba5 (o:COp) (s:Sl):V.dems (pv o s)=V.dems (o.args.map (·.val s))∨pv o s=[]:=by
 unfold pv;split
 ·rename_i h;left;rw [Q6d];simp [COp.xs,h.2.2]
 ·exact .inr rfl
theorem Qih {o:COp} {t:Nat}:t∈o.argSlots↔∃ a∈o.args,t∈a.slot:=by simp [COp.argSlots]
theorem Qnm {a b:List Nat} (h:Q03 a b=true) {x:Nat} (hx:x∈a):x∉b:=by
 grind [Q03,List.all_eq_true,Bool.not_eq_true',decide_eq_false_iff_not]
theorem Q2j {a b:COp} (h1:∀ d,a.dst=some d→d∉b.reads) (h2:a.tk=true→b.tk=true→∀ t∈a.argSlots,t∉b.argSlots) (h3:a.tk=true→∀ t∈a.argSlots,∀ u w,b.guard=some (u,w)→t≠u)
  (s:Sl) (v:V):Alike b s (Qbd (Qba s a.args (pv a s)) a.dst v):=by
 have hd:∀ t,t∈b.reads→Qbd (Qba s a.args (pv a s)) a.dst v t=Qba s a.args (pv a s) t:=by
  intro t ht;cases hd:a.dst with
  | none=>rfl
  | some d =>
   have:t≠d:=fun e=>h1 d hd (e ▸ ht);simp [Qbd,Sl.put,this]
 refine ⟨fun t w hg=>?_,fun x hx=>?_⟩
 ·rw [hd t (by simp [COp.reads,hg])];by_cases ht:a.tk=true
  ·exact Que _ _ _ _ fun y hy hty=>h3 ht t (Qih.2 ⟨y,hy,hty⟩) t w hg rfl
  simp_all [pv,Qeb]
 ·cases x with
  | c w=>simp [Arg.val]
  | t i =>
   have hi:i∈b.reads:=by grind [COp.reads,Qih,Arg.slot]
   simp only [Arg.val];rw [hd i hi];split
   ·rename_i hb;by_cases ht:a.tk=true
    ·exact Que _ _ _ _ fun y hy hty=>h2 ht hb i (Qih.2 ⟨y,hy,hty⟩) (Qih.2 ⟨_,hx,by simp [Arg.slot]⟩)
    simp_all [pv,Qeb]
   ·exact Q2i _ _ _ (Qba5 a s) i
theorem Q43 (s:Sl) {x y:Option Nat} (v u:V) (h:∀ d,x=some d→y≠some d):Qbd (Qbd s x v) y u=Qbd (Qbd s y u) x v:=by
 cases x with
 | none=>rfl
 | some t =>
  cases y with
  | none=>rfl
  | some t'=>exact Qba3 s v u fun e=>h t rfl (by rw [e])
theorem Qyg (as:List Arg) (vs:List V) (s:Sl) {x:Option Nat} (v:V) (h:∀ d,x=some d→∀ a∈as,d∉a.slot):Qba (Qbd s x v) as vs=Qbd (Qba s as vs) x v:=by
 cases x with
 | none=>rfl
 | some t=>exact Qud as vs s t v (h t rfl)
theorem Q9k {a b:COp} (h:a.slotsApart b=true) (s:Sl) (va vb:V) :
  let s1:=Qbd (Qba s a.args (pv a s)) a.dst va;let s1':=Qbd (Qba s b.args (pv b s)) b.dst vb
  Alike b s s1∧Alike a s s1'∧Qbd (Qba s1 b.args (pv b s1)) b.dst vb=Qbd (Qba s1' a.args (pv a s1')) a.dst va:=by
 simp only [COp.slotsApart,Bool.and_eq_true,Bool.or_eq_true,Bool.not_eq_true'] at h;obtain ⟨⟨⟨⟨⟨h1,h2⟩,h3⟩,h4⟩,h5⟩,h6⟩:=h;have e1:∀ d,a.dst=some d→d∉b.reads:=fun d hd=>Qnm h1 (by simp [hd]);have e2:∀ d,a.dst=some d→b.dst≠some d:=fun d hd hb=>Qnm h2 (x:=d) (by simp [hd]) (by simp [hb]);have e3:∀ d,b.dst=some d→d∉a.reads:=fun d hd=>Qnm h3 (by simp [hd]);have e4:a.tk=true→b.tk=true→∀ t∈a.argSlots,t∉b.argSlots:=fun ha hb t ht=>by
  grind [Qnm,COp.soft]
 have e5:a.tk=true→∀ t∈a.argSlots,∀ u w,b.guard=some (u,w)→t≠u:=fun ha t ht u w hg=>by
  rcases h5 with h5|h5
  ·rw [ha] at h5;cases h5
  ·have:=Qnm h5 (x:=t) (by simpa [COp.soft,ha] using ht);simpa [hg] using this
 have e6:b.tk=true→∀ t∈b.argSlots,∀ u w,a.guard=some (u,w)→t≠u:=fun hb t ht u w hg=>by
  grind [Qnm,COp.soft]
 have k1:=Q2j e1 e4 e5 s va;have k2:=Q2j e3 (fun hb ha t ht h'=>e4 ha hb t h' ht) e6 s vb;refine ⟨k1,k2,?_⟩;rw [k1.pv,k2.pv];rw [Qyg _ _ _ _ fun d hd x hx hdx=>e1 d hd (by grind [COp.reads,Qih]),
  Qyg _ _ _ _ fun d hd x hx hdx=>e3 d hd (by grind [COp.reads,Qih]),
  Q43 _ _ _ e2]
 congr 2;by_cases ha:pv a s=[]
 ·rw [ha,Qeb,Qeb]
 ·by_cases hb:pv b s=[]
  ·rw [hb,Qeb,Qeb]
  ·have hta:a.tk=true:=by
    grind [absurd,pv]
   have htb:b.tk=true:=by
    grind [absurd,pv]
   exact Qwd _ _ _ _ _ fun x hx y hy t ht htx=>e4 hta htb t (Qih.2 ⟨y,hy,ht⟩) (Qih.2 ⟨x,hx,htx⟩)
end Go.Abs
end
section
namespace Go.Abs
open Go
theorem Q9l {n0 κ:Nat} {k:K} {xs:List V} {M M' : Mem} {v:V} (hk:k.eff = .pure) (h:Qm n0 κ k xs M=some (v,M')):M'=M∧∀ M2,Qm n0 κ k xs M2=some (v,M2):=by
 cases k
 case blit sz n z ps =>
  have e:∀ M,Qm n0 κ (.blit sz n z ps) xs M=(if ps.length=xs.length&&decide (0<sz)&&z.length==sz&&(ps.zip xs).all (fun (i,x)=>Qdy x&&x.cells.length==sz&&decide (i<n))
   then (toDs (Qiy (rep n z) ((ps.zip xs).map fun (i,x)=>(i*sz,x.cells)))).map fun ds=>(V.d (.lst sz (Qix sz n ds)),M) else none):=fun M=>by cases xs<;>rfl
  rw [e] at h;split at h<;>try (cases h;done)
  rename_i hc;simp only [Option.map_eq_some_iff,Prod.mk.injEq] at h;obtain ⟨ds,hds,rfl,rfl⟩:=h;exact ⟨rfl,fun M2=>by rw [e,if_pos hc,hds];rfl⟩
 all_goals simp only [K.eff] at hk<;>(try cases hk)<;>unfold Qm at h<;>(split at h<;>try (cases h;done))<;>(try (rename_i heq;cases heq))
 all_goals simp only [Qm]
 all_goals (repeat' split at h)<;>first
  | (cases h;done)
  | (simp only [Option.some.injEq,Prod.mk.injEq] at h;obtain ⟨rfl,rfl⟩:=h;simp_all;done)
  | (simp only [Option.map_eq_some_iff,Prod.mk.injEq] at h;obtain ⟨x,hx,h1,h2⟩:=h;subst h1 h2;simp_all;done)
  | (cases h;exact ⟨rfl,fun M2=>if_pos (by assumption)⟩)
  | (dsimp only at h;split at h<;>cases h;exact ⟨rfl,fun M2=>if_pos (by assumption)⟩)
  | (cases h;subst_vars;exact ⟨rfl,fun M2=>by rw [if_pos rfl,if_neg (by assumption)]⟩)
  | skip
def dmV:V→V
 | .own sz l=>.d (.lst sz l)
 | v=>v
theorem Qbe3 {u:V} (h:u.mv=true):u.dem=dmV u:=by
 rcases Qrv h with h|⟨sz,l,rfl⟩
 ·rw [Qr7 h];cases u<;>first|rfl|simp [V.dat] at h
 ·rfl
theorem Qbf5 {u u2:V} (h:u.mv=true) (hd:dmV u2=dmV u):u2.mv=true:=by
 cases u2 with
 | own _ _=>rfl
 | _ =>
  rcases Qrv h with h|⟨sz,l,rfl⟩
  ·have:dmV u=u:=by cases u<;>first|rfl|simp [V.dat] at h
   grind [dmV,Qu7]
  ·simp only [dmV] at hd
   first|(cases hd;rfl)|(cases hd;done)
def dmE (e:V×V×Nat):V×V×Nat:=(e.1,dmV e.2.1,e.2.2)
theorem Q7q {kd:MK}:∀ {es:List (V×V×Nat)},kd.all (es.map dmE)=kd.all es
 | []=>rfl
 | e::es=>by
  have:=Q7q (kd:=kd) (es:=es);simp only [MK.all] at this ⊢;simp only [List.map_cons,List.all_cons,this,dmE]
theorem Q44 {key:V}:∀ {es:List (V×V×Nat)},Qg1 key (es.map dmE)=(Qg1 key es).map fun p=>(p.1,dmV p.2)
 | []=>rfl
 | (k,v,b)::es=>by
  simp only [List.map_cons,dmE,Qg1];split
  ·rfl
  ·rw [Q44];cases Qg1 key es<;>rfl
theorem Q2k {key:V}:∀ {es:List (V×V×Nat)} {i:Nat} {u:V},Qg1 key es=some (i,u)→∃ e,es[i]? = some e∧e.2.1=u
 | [],i,u,h=>by simp [Qg1] at h
 | (k,v,b)::es,i,u,h=>by
  simp only [Qg1] at h;split at h
  ·cases h;exact ⟨_,rfl,rfl⟩
  ·cases hf:Qg1 key es with
   | none=>rw [hf] at h;cases h
   | some p=>rw [hf] at h;cases h;simpa using Q2k hf
theorem Qba6 {sz:Nat} {l:List (List D)}:∀ {es:List (V×V×Nat)} {i:Nat} {e:V×V×Nat},es[i]? = some e→e.2.1 = .own sz l→(modM e.1 (.d (.lst sz l)) i es).map dmE=es.map dmE
 | [],i,e,h,_=>by simp at h
 | (k,v,b)::es,0,e,h,hv=>by
  grind [modM,dmE,dmV]
 | (k,v,b)::es,i+1,e,h,hv=>by
  simp only [modM,List.map_cons,Qba6 (show es[i]? = some e from by simpa using h) hv]
def Bx.dm:Bx→Bx
 | .cells cs=>.cells (V.dems cs)
 | .mp es c=>.mp (es.map fun e=>(e.1,dmV e.2.1,e.2.2)) c
def Qqd (p:Nat→Prop) (M M2:Mem):Prop:=∀ k,p k→(M2 k).map Bx.dm=(M k).map Bx.dm
theorem Qbe4 (v:V):v.dem.toD=v.toD:=by cases v<;>rfl
theorem Q2l:∀ vs:List V,toDs (V.dems vs)=toDs vs
 | []=>rfl
 | v::vs=>by simp [V.dems,toDs,Qbe4,Q2l vs]
theorem Q8l {M M2:Mem} {k:Nat} {cs:List V} (h:(M2 k).map Bx.dm=(M k).map Bx.dm) (hk:M k=some (.cells cs)):∃ cs',M2 k=some (.cells cs')∧V.dems cs'=V.dems cs:=by
 rw [hk] at h;cases h2:M2 k with
 | none=>rw [h2] at h;simp at h
 | some b =>
  rw [h2] at h;cases b with
  | cells cs'=>exact ⟨cs',rfl,by simpa [Bx.dm] using h⟩
  | mp es=>simp [Bx.dm] at h
theorem Qbf6 {M M2:Mem} {k:Nat} {es:List (V×V×Nat)} {c:Nat} (h:(M2 k).map Bx.dm=(M k).map Bx.dm) (hk:M k=some (.mp es c)):∃ es2,M2 k=some (.mp es2 c)∧es2.map dmE=es.map dmE:=by
 rw [hk] at h;cases h2:M2 k with
 | none=>rw [h2] at h;simp at h
 | some b =>
  rw [h2] at h;cases b with
  | cells cs'=>simp [Bx.dm] at h
  | mp es' c' =>
   simp only [Option.map_some,Bx.dm,Option.some.injEq,Bx.mp.injEq] at h;obtain ⟨h1,rfl⟩:=h;exact ⟨es',rfl,h1⟩
theorem Qin {p:Nat→Prop} {M M2:Mem} (h:Qqd p M M2) {sz:Nat} {v:V} (hv:v.on p) {l:List (List D)} (he:Qf8 M sz v=some l):Qf8 M2 sz v=some l:=by
 by_cases hs:∃ sz' k off len cap,v = .sl sz' k off len cap
 case neg =>
  cases v with
  | sl a b c d e=>grind
  | d x=>cases x<;>exact he
  | _=>exact he
 obtain ⟨sz',k,off,len,cap,rfl⟩:=hs;simp only [Qf8] at he ⊢;split at he<;>try (cases he;done)
 rename_i hsz;rw [if_pos hsz];split at he<;>try (cases he;done)
 rename_i cs hk;obtain ⟨cs',hk',hd⟩:=Q8l (h k hv) hk;rw [hk'];have hl:cs'.length=cs.length:=by
  have:=congrArg List.length hd;simpa [Ql7] using this
 simp only [hl];split at he<;>try (cases he;done)
 rename_i hle;rw [if_pos hle];have:toDs ((cs'.drop off).take (len*sz))=toDs ((cs.drop off).take (len*sz)):=by
  rw [← Q2l,← Q2l ((cs.drop off).take _)]
  grind [Ql7,List.map_take,List.map_drop]
 rw [this];exact he
theorem Q2m {n0 κ:Nat} {k:K} (hm:(∃ kd c z,k = .lookup kd c z)∨k = .lenm) {xs:List V} {M M' : Mem} {v:V} (h:Qm n0 κ k xs M=some (v,M')):M'=M∧∀ p M2,Qqd p M M2→V.ons p xs→Qm n0 κ k xs M2=some (v,M2):=by
 rcases hm with ⟨kd,c,z,rfl⟩|rfl
 ·obtain ⟨rfl,⟨b,key,es,cl,rfl,hM,h1,h2,h3⟩|⟨key,ents,cl,rfl,h0,h1,h2,h3⟩⟩:=Q0e h
  ·refine ⟨rfl,fun p M2 ha hp=>?_⟩;obtain ⟨es2,this,hes⟩:=Qbf6 (ha b hp.1) hM;have hall:kd.all es2=true:=by rw [← Q7q,hes,Q7q];exact h2
   have hfind:(Qg1 key es2).map (fun p=>(p.1,dmV p.2))=(Qg1 key es).map fun p=>(p.1,dmV p.2):=by rw [← Q44,hes,Q44]
   rcases h3 with ⟨i,u,f1,f2,rfl⟩|⟨f1,f2,rfl⟩
   ·rw [f1] at hfind;cases hf:Qg1 key es2 with
    | none=>grind
    | some q =>
     obtain ⟨j,u2⟩:=q;rw [hf] at hfind;simp only [Option.map_some,Option.some.injEq,Prod.mk.injEq] at hfind;obtain ⟨rfl,hu⟩:=hfind
     grind [Qbf5,Qbe3,Qm]
   grind [Qg1,Qm]
  ·refine ⟨rfl,fun p M2 ha hp=>?_⟩;rcases h3 with ⟨i,u,f1,f2,rfl⟩|⟨f1,f2,rfl⟩
   all_goals simp_all [Q2k,List.all_eq_true,List.mem_of_getElem?,Qm,Bool.and_self,if_true,Qr7]
 ·obtain ⟨rfl,⟨b,es,c,rfl,hM,rfl⟩|⟨es,c,rfl,rfl⟩⟩:=Q4w h
  ·refine ⟨rfl,fun p M2 ha hp=>?_⟩;obtain ⟨es2,this,hes⟩:=Qbf6 (ha b hp.1) hM;have hl:=congrArg List.length hes
   grind [List.length_map,Qm]
  ·exact ⟨rfl,fun p M2 ha hp=>rfl⟩
theorem Qgm {n0 κ:Nat} {k:K} {xs:List V} {M M' : Mem} {v:V} (hk:k.eff = .read) (h:Qm n0 κ k xs M=some (v,M')):M'=M∧∀ p M2,Qqd p M M2→V.ons p xs→Qm n0 κ k xs M2=some (v,M2):=by
 cases k<;>simp only [K.eff] at hk<;>(try cases hk)<;>(try exact Q2m (.inl ⟨_,_,_,rfl⟩) h)<;>(try exact Q2m (.inr rfl) h)<;>unfold Qm at h<;>(split at h<;>try (cases h;done))<;>(try (rename_i heq;cases heq))
 ·rename_i ag n _ _ k off;split at h<;>try (cases h;done)
  rename_i cs hk;split at h<;>try (cases h;done)
  rename_i hle;refine ⟨(by
   grind),fun p M2 ha hp=>?_⟩
  obtain ⟨cs',hk',hd⟩:=Q8l (ha k hp.1) hk;have hl:cs'.length=cs.length:=by
   have:=congrArg List.length hd;simpa [Ql7] using this
  simp only [Qm,hk',hl,if_pos hle];split at h
  ·simp_all [if_true,Option.some.injEq,Prod.mk.injEq,and_true,V.agg.injEq,Ql7,List.map_take,List.map_drop]
  ·rename_i hag;simp only [Option.map_eq_some_iff,Prod.mk.injEq] at h;obtain ⟨x,hx,rfl,rfl⟩:=h;simp only [hag];have h3:=congrArg (fun l=>l[off]?) hd
   grind [Ql7]
 ·split at h<;>try (cases h;done)
  rename_i hle;simp only [Qm,if_pos hle]
  grind
 ·split at h<;>try (cases h;done)
  ·cases h;exact ⟨rfl,fun p M2 _ _=>rfl⟩
  ·cases h;exact ⟨rfl,fun p M2 _ _=>rfl⟩
  ·cases h;exact ⟨rfl,fun p M2 _ _=>rfl⟩
  ·cases h;exact ⟨rfl,fun p M2 _ _=>rfl⟩
 ·split at h<;>try (cases h;done)
  rename_i ys hys;split at h<;>try (cases h;done)
  rename_i hc;cases h;refine ⟨rfl,fun p M2 ha hp=>?_⟩;simp only [Qm,Qin ha hp.2.1 hys,if_pos hc]
 ·split at h<;>try (cases h;done)
  rename_i ys hys;split at h<;>try (cases h;done)
  rename_i hc;cases h;refine ⟨rfl,fun p M2 ha hp=>?_⟩;simp only [Qm,Qin ha hp.2.1 hys,if_pos hc]
 ·split at h<;>try (cases h;done)
  rename_i ys hys;split at h<;>try (cases h;done)
  rename_i hc;cases h;refine ⟨rfl,fun p M2 ha hp=>?_⟩;simp only [Qm,Qin ha hp.2.1 hys,if_pos hc]
 ·split at h<;>try (cases h;done)
  rename_i ys hys;split at h<;>try (cases h;done)
  rename_i hc;cases h;refine ⟨rfl,fun p M2 ha hp=>?_⟩;simp only [Qm,Qin ha hp.2.1 hys,if_pos hc]
 ·split at h<;>try (cases h;done)
  rename_i l ys hl hys;refine ⟨?_,fun p M2 ha hp=>?_⟩
  ·grind
  ·simp only [Qm,Qin ha hp.2.1 hys,Qin ha hp.1 hl]
   grind
theorem Qio {n0 κ:Nat} {k:K} {xs:List V} {M M' : Mem} {v:V} (hk:k.eff = .alloc) (h:Qm n0 κ k xs M=some (v,M')) :
  M κ=none∧∃ b,M'=M.put κ b∧∀ M2,M2 κ=none→Qm n0 κ k xs M2=some (v,M2.put κ b):=by
 cases k<;>simp only [K.eff] at hk<;>(try cases hk)<;>unfold Qm at h<;>(split at h<;>try (cases h;done))<;>(try (rename_i heq;cases heq))
 ·rename_i n _ _ x;split at h<;>try (cases h;done)
  split at h<;>try (cases h;done)
  rename_i hne1 hne2 hc;cases h;simp only [Bool.and_eq_true,decide_eq_true_eq,Option.isNone_iff_eq_none] at hc;refine ⟨hc.2,_,rfl,fun M2 h2=>?_⟩;simp only [Qm,h2,hc.1];cases x<;>first|exact (hne1 rfl).elim|exact (hne2 _ rfl).elim|simp
 ·split at h<;>try (cases h;done)
  rename_i hc;cases h;simp only [Option.isNone_iff_eq_none] at hc;exact ⟨hc,_,rfl,fun M2 h2=>by simp [Qm,h2]⟩
 ·split at h<;>try (cases h;done)
  rename_i hc;cases h;have hc':=hc;simp only [Bool.and_eq_true,Option.isNone_iff_eq_none] at hc';refine ⟨hc'.2,_,rfl,fun M2 h2=>?_⟩;rw [hc'.2] at hc;simp only [Qm,h2];exact if_pos hc
 ·grind
 ·split at h<;>try (cases h;done)
  rename_i hc;cases h;have hc':=hc;simp only [Bool.and_eq_true,Option.isNone_iff_eq_none] at hc';refine ⟨hc'.2,_,rfl,fun M2 h2=>?_⟩
  simp_all [Qm,if_pos]
 all_goals
  split at h<;>try (cases h;done)
  rename_i hc;cases h;simp only [Option.isNone_iff_eq_none] at hc;exact ⟨hc,_,rfl,fun M2 h2=>by simp [Qm,h2]⟩
theorem Qpy {n0 κ:Nat} {xs:List V} {M M' : Mem} {v:V} (h:Qm n0 κ .loadT xs M=some (v,M')) :
  ∃ k off cs x,xs=[.ptr k off]∧M k=some (.cells cs)∧cs[off]? = some x∧v=x.topL∧M'=M.put k (.cells (cs.set off x.dem)):=by
 unfold Qm at h;split at h<;>(try (rename_i heq;cases heq))<;>try (cases h;done)
 grind
theorem Qsz {n0 κ k off:Nat} {cs:List V} {x:V} {M:Mem} (hk:M k=some (.cells cs)) (hx:cs[off]? = some x) :
  Qm n0 κ .loadT [.ptr k off] M=some (x.topL,M.put k (.cells (cs.set off x.dem))):=by
 simp [Qm,hk,hx]
theorem Qyr {n0 κ n:Nat} {xs:List V} {M M' : Mem} {v:V} (h:Qm n0 κ (.store n) xs M=some (v,M')) :
  ∃ k off x cs,xs=[.ptr k off,x]∧M k=some (.cells cs)∧x.topS.cells.length=n∧off+n≤cs.length∧v = .und∧M'=M.put k (.cells (cs.take off++x.topS.cells++cs.drop (off+n))):=by
 unfold Qm at h;split at h<;>(try (rename_i heq;cases heq))<;>try (cases h;done)
 rename_i k off x;split at h<;>try (cases h;done)
 split at h<;>try (cases h;done)
 rename_i cs hk;split at h<;>try (cases h;done)
 grind
theorem Quf (M:Mem) {k j:Nat} (b c:Bx) (h:k≠j):(M.put k b).put j c=(M.put j c).put k b:=by
 funext i;simp only [Mem.put]
 grind
theorem Qba7 (M:Mem) (k:Nat) (b c:Bx):(M.put k b).put k c=M.put k c:=by
 grind [Mem.put]
theorem Qht (M:Mem) (k:Nat) (b:Bx):(M.put k b) k=some b:=by simp [Mem.put]
theorem Qcz (M:Mem) {k j:Nat} (b:Bx) (h:j≠k):(M.put k b) j=M j:=by simp [Mem.put,h]
theorem Q2n {p:Nat→Prop} {M:Mem} {κ:Nat} (b:Bx) (hp:∀ k,p k→(M k).isSome=true) (hκ:M κ=none):Qqd p M (M.put κ b)∧Qqd p (M.put κ b) M:=by
 have:∀ k,p k→(M.put κ b) k=M k:=fun k hk=>Qcz _ _ fun e=>by grind
 exact ⟨fun k hk=>by rw [this k hk],fun k hk=>by rw [this k hk]⟩
theorem Qbde {cs:List V} {off:Nat} {x:V} (hx:cs[off]? = some x):V.dems (cs.set off x.dem)=V.dems cs:=by
 rw [Ql7,Ql7,List.map_set,Qdj];apply List.ext_getElem?
 grind
theorem Qpl {n0 κ:Nat} {kd:MK} {z:V} {xs:List V} {M M' : Mem} {v:V} (hs:Qm n0 κ (.lookupT kd z) xs M=some (v,M')) :
  ∃ k key b,xs=[.mp k,key]∧M k=some b∧((∃ b',M'=M.put k b'∧(∀ p,Qqd p M (M.put k b')∧Qqd p (M.put k b') M)∧∀ M2:Mem,M2 k=some b→Qm n0 κ (.lookupT kd z) xs M2=some (v,M2.put k b')) ∨
   (M'=M∧∀ M2:Mem,M2 k=some b→Qm n0 κ (.lookupT kd z) xs M2=some (v,M2))):=by
 obtain ⟨k,key,es,cl,rfl,h1,h2,h3,h4,h5⟩:=Qym hs;refine ⟨k,key,_,rfl,h1,?_⟩;rcases h5 with ⟨i,sz,l,e,h6,h7,rfl,rfl⟩|⟨h6,h7,rfl,rfl⟩
 ·refine .inl ⟨_,rfl,fun p=>?_,fun M2 hM2=>by grind [Qm]⟩;obtain ⟨e',he,heu⟩:=Q2k h6;rw [h7] at he;cases he;have hd:=Qba6 h7 heu;have hag:∀ j,((M.put k (.mp (modM e.1 (.d (.lst sz l)) i es) cl)) j).map Bx.dm=(M j).map Bx.dm:=by
   intro j;simp only [Mem.put];split
   ·rename_i hj;subst hj;rw [h1];simp only [Option.map_some,Bx.dm,Option.some.injEq,Bx.mp.injEq,and_true];exact hd
   ·rfl
  exact ⟨fun j _=>hag j,fun j _=>(hag j).symm⟩
 ·exact .inr ⟨rfl,fun M2 hM2=>by simp [Qm,hM2,h2,h3,h4,h6,h7]⟩
theorem Q34 {M:Mem} {k off:Nat} {cs:List V} {x:V} (hk:M k=some (.cells cs)) (hx:cs[off]? = some x) (p:Nat→Prop) :
  Qqd p M (M.put k (.cells (cs.set off x.dem)))∧Qqd p (M.put k (.cells (cs.set off x.dem))) M:=by
 have:∀ i,((M.put k (.cells (cs.set off x.dem))) i).map Bx.dm=(M i).map Bx.dm:=by
  grind [Qht,Bx.dm,Qbde,Qcz]
 exact ⟨fun i _=>this i,fun i _=>(this i).symm⟩
theorem Q9m {n0 κ k off n k' off' n' : Nat} {ag:Bool} {M:Mem} {cs vs:List V} {v:V} {M1:Mem} (h:Qm n0 κ (.load ag n) [.ptr k off] M=some (v,M1)) (hk:M k'=some (.cells cs)) (hvs:vs.length=n') (hle:off'+n'≤cs.length)
  (hap:Qkv (.ptr k off) (max n 1) (.ptr k' off') n'=true):Qm n0 κ (.load ag n) [.ptr k off] (M.put k' (.cells (cs.take off'++vs++cs.drop (off'+n'))))=some (v,M.put k' (.cells (cs.take off'++vs++cs.drop (off'+n')))):=by
 by_cases hkk:k=k'
 ·subst hkk;simp only [Qm,hk] at h;split at h<;>try (cases h;done)
  rename_i hle2;have hlen:(cs.take off'++vs++cs.drop (off'+n')).length=cs.length:=by simp;omega
  simp only [Qm,Qht,hlen,if_pos hle2];have hap' : off+max n 1≤off' ∨ off'+n'≤off:=by simpa [Qkv] using hap
  have hget:∀ i,off≤i→i<off+max n 1→(cs.take off'++vs++cs.drop (off'+n'))[i]? = cs[i]?:=by
   intro i h1 h2;rcases hap' with h3|h3
   ·grind
   ·rw [List.getElem?_append_right (by simp;omega)];simp only [List.length_append,List.length_take,List.getElem?_drop];congr 1;omega
  have htk:((cs.take off'++vs++cs.drop (off'+n')).drop off).take n=(cs.drop off).take n:=by
   apply List.ext_getElem?
   grind
  rw [htk,hget off (Nat.le_refl _) (by omega)]
  grind
 ·obtain ⟨rfl,hr⟩:=Qgm rfl h;exact hr (· = k) _ (fun i hi=>by rw [hi,Qcz _ _ hkk]) ⟨rfl,trivial⟩
theorem Qba8 {n0 κ sz bytes sz' k off len cap:Nat} {x:V} {l ys:List (List D)} {cs:List V} {M M' : Mem} {v:V} (hl:Qf8 M sz (.sl sz' k off len cap)=some l) (hy:Qf8 M sz x=some ys) (hM:M k=some (.cells cs)) (hag:∀ k' b',Qqd (· ≠ k') M (M.put k' b'))
  (h:(if ys.length=0 then (if len=0&&cap=0 then some (V.own sz [],M) else if len≤cap then some (.sl sz' k off len cap,M) else none)
   else if len+ys.length≤cap then
    (if decide (0<sz)&&decide (off+(len+ys.length)*sz≤cs.length)&&ys.all (fun y=>y.length==sz) then
     some (.sl sz' k off (len+ys.length) cap,M.put k (.cells (cs.take (off+len*sz)++ys.flatten.map V.d++cs.drop (off+len*sz+ys.length*sz)))) else none)
   else if decide (cap<len+ys.length)&&decide (l.length+ys.length≤lim)&&decide (bytes≤128)&&decide (0<sz) then some (.own sz (l++ys),M) else none)=some (v,M')) :
  ∃ f:Mem→Mem,M'=f M∧(f=id∨∃ b,f=fun M=>M.put k b) ∧
   ∀ k' b',k' ≠ k→x.on (· ≠ k')→Qm n0 κ (.appw sz bytes) [.sl sz' k off len cap,x] (M.put k' b')=some (v,f (M.put k' b')):=by
 have again:∀ k' b',k' ≠ k→x.on (· ≠ k')→Qf8 (M.put k' b') sz (.sl sz' k off len cap)=some l∧Qf8 (M.put k' b') sz x=some ys∧(M.put k' b') k=some (.cells cs):=fun k' b' hk hx =>
  ⟨Qin (v:=.sl sz' k off len cap) (hag k' b') (by show k≠k';exact fun e=>hk e.symm) hl,Qin (hag k' b') hx hy,by grind [Qcz]⟩
 by_cases h0:ys.length=0
 ·rw [if_pos h0] at h;refine ⟨id,?_,.inl rfl,fun k' b' hk hx=>?_⟩
  ·grind
  ·obtain ⟨a1,a2,a3⟩:=again k' b' hk hx;simp only [Qm,a1,a2,a3,if_pos h0]
   grind
 ·rw [if_neg h0] at h;by_cases hr:len+ys.length≤cap
  ·rw [if_pos hr] at h;split at h<;>cases h;rename_i hc;refine ⟨_,rfl,.inr ⟨_,rfl⟩,fun k' b' hk hx=>?_⟩
   simp_all [Qm,if_neg,if_pos]
  ·rw [if_neg hr] at h;split at h<;>cases h;rename_i hc;refine ⟨id,rfl,.inl rfl,fun k' b' hk hx=>?_⟩
   simp_all [Qm,if_neg,if_pos]
theorem Q8m {n0 κ sz bytes:Nat} {xs:List V} {M M' : Mem} {v:V} (h:Qm n0 κ (.appw sz bytes) xs M=some (v,M')) :
  ∃ s x,xs=[s,x]∧(∃ ys,Qf8 M sz x=some ys)∧∃ k,∃ f:Mem→Mem,M'=f M∧(f=id∨(∃ sz' off len cap,s = .sl sz' k off len cap)∧∃ b,f=fun M=>M.put k b) ∧
   ∀ k' b',((∃ sz' off len cap,s = .sl sz' k off len cap)→k' ≠ k)→x.on (· ≠ k')→Qm n0 κ (.appw sz bytes) xs (M.put k' b')=some (v,f (M.put k' b')):=by
 have hag:∀ k' b',Qqd (· ≠ k') M (M.put k' b'):=fun k' b' j hj=>by rw [Qcz _ _ hj]
 unfold Qm at h;split at h<;>(try (rename_i heq;cases heq))<;>try (cases h;done)
 case _ =>
  rename_i sz' k off len cap x;split at h<;>try (cases h;done)
  rename_i l ys cs hl hy hM;refine ⟨_,x,rfl,⟨ys,hy⟩,k,?_⟩;obtain ⟨f,h1,h2,h3⟩:=Qba8 (n0:=n0) (κ:=κ) (bytes:=bytes) (v:=v) (M':=M') hl hy hM hag h;exact ⟨f,h1,h2.imp id fun h=>⟨⟨_,_,_,_,rfl⟩,h⟩,fun k' b' hk hx=>h3 k' b' (hk ⟨_,_,_,_,rfl⟩) hx⟩
 case _ =>
  rename_i sz' x;split at h<;>try (cases h;done)
  rename_i ys hy;split at h<;>cases h;rename_i hc;refine ⟨_,x,rfl,⟨ys,hy⟩,0,id,rfl,.inl rfl,fun k' b' _ hx=>?_⟩;simp only [Qm,Qin (hag k' b') hx hy,if_pos hc];rfl
theorem Q7r {n0 κ n k off:Nat} {x v:V} {M1 M2 M:Mem} (h:Qm n0 κ (.store n) [.ptr k off,x] M1=some (v,M2)) (hk:M k=M1 k) :
  ∃ b,M2=M1.put k b∧Qm n0 κ (.store n) [.ptr k off,x] M=some (v,M.put k b):=by
 obtain ⟨k',off',x',cs,hx,hM,h1,h2,rfl,rfl⟩:=Qyr h;cases hx;refine ⟨_,rfl,?_⟩;cases x<;>(try (simp [Qm] at h;done))<;>simp only [Qm,hM] at h<;>simp only [Qm,hk,hM]<;>(grind)<;>(grind)
end Go.Abs
end
section
namespace Go.Abs
open Go
set_option maxHeartbeats 1000000
variable {C:Ctx} {n0 pc:Nat}
def Free (C:Ctx) (n0 pc:Nat) (o:COp) (s:Sl) (v:V):Prop:=∀ M nb,Core C n0 pc o s M nb v M nb
inductive Does (C:Ctx) (n0 pc:Nat) (o:COp) (s:Sl) (M:Mem) (nb:Nat) (v:V) (M' : Mem) (nb' : Nat):Prop where
 | free (h:Free C n0 pc o s v) (h1:M'=M) (h2:nb'=nb)
 | op (hw:o.wanted s=some true) (hc:o.kind.isCall=false) (hn:o.kind.isNil=false) (he:o.kind.eff ≠ .pure) (h:Qm n0 (n0+o.dst.getD 0) o.kind (o.xs s) M=some (v,M')) (h2:nb'=nb)
 | call (f:FuncId) (args:List V) (hw:o.wanted s=some true) (hc:o.kind.isCall=true) (hcal:o.callee s=some (f,args)) (hpc:pc≤1∨10≤pc) (h:CallStp C n0 pc o.dst f args M nb v M' nb')
theorem Core.does {o:COp} {s:Sl} {M:Mem} {nb:Nat} {v:V} {M' : Mem} {nb' : Nat} (h:Core C n0 pc o s M nb v M' nb'):Does C n0 pc o s M nb v M' nb':=by
 have h0:=h;unfold Core at h;cases hw:o.wanted s with
 | none=>grind
 | some b =>
  rw [hw] at h;cases b with
  | false =>
   obtain ⟨rfl,rfl,rfl⟩:=h;exact .free (fun M nb=>by simp [Core,hw]) rfl rfl
  | true =>
   simp only at h;cases hcall:o.kind.isCall with
   | true =>
    rw [hcall] at h;simp only [if_true] at h;obtain ⟨f,args,hcal,hcc⟩:=h
    match pc,hcc with
    | 0,hcc=>exact .call f args hw hcall hcal (by omega) hcc
    | 1,hcc=>exact .call f args hw hcall hcal (by omega) hcc
    | n+2,hcc =>
     by_cases hn8:n<8
     ·have hcc:(if n<8 then _ else _):=hcc;rw [if_pos hn8] at hcc;obtain ⟨h1,h2,h3⟩:=hcc;exact .free (fun M nb=>by simp only [Core,hw,hcall,if_true];exact ⟨f,args,hcal,(by show (if n<8 then _ else _);grind)⟩) h2 h3
     ·exact .call f args hw hcall hcal (by omega) hcc
   | false =>
    rw [hcall] at h;simp only [Bool.false_eq_true,if_false] at h;cases hn:o.kind.isNil with
    | true=>rw [hn] at h;simp at h
    | false =>
     rw [hn] at h;simp only [Bool.false_eq_true,if_false] at h;obtain ⟨h1,h2⟩:=h;by_cases he:o.kind.eff = .pure
     ·obtain ⟨k1,k2⟩:=Q9l he h1;exact .free (fun M nb=>by simp [Core,hw,hcall,hn,k2]) k1 h2
     ·exact .op hw hcall hn he h1 h2
theorem Q45 {o:COp} {s:Sl} (hw:o.wanted s=some true) (hc:o.kind.isCall=false) (hn:o.kind.isNil=false) {M:Mem} {nb:Nat} {v:V} {M' : Mem} (h:Qm n0 (n0+o.dst.getD 0) o.kind (o.xs s) M=some (v,M')):Core C n0 pc o s M nb v M' nb:=by
 simp [Core,hw,hc,hn,h]
structure Qba9 (n0 nb:Nat) (o:COp) (s:Sl) (M:Mem):Prop where
 xs:V.ons (fun k=>(M k).isSome=true) (o.xs s)
 key:n0+o.dst.getD 0<nb
 low:∀ k,(M k).isSome=true→k<nb
theorem Qr9 {a b:COp} {s:Sl} {M M1 M2:Mem} {nb nb1 nb2:Nat} {va vb:V} (hf:Free C n0 pc a s va∧M1=M∧nb1=nb∨Free C n0 pc b s vb∧M2=M1∧nb2=nb1)
  (ha:Core C n0 pc a s M nb va M1 nb1) (hb:Core C n0 pc b s M1 nb1 vb M2 nb2) :
  ∃ M1' nb1',Core C n0 pc b s M nb vb M1' nb1'∧Core C n0 pc a s M1' nb1' va M2 nb2:=by
 rcases hf with ⟨hf,rfl,rfl⟩|⟨hf,rfl,rfl⟩
 ·exact ⟨M2,nb2,hb,hf _ _⟩
 ·exact ⟨M,nb,hf _ _,ha⟩
theorem Qyh {o:COp} (hc:o.kind.isCall=false):o.eff pc=o.kind.eff∨(o.eff pc = .other):=by
 unfold COp.eff;cases hk:o.kind<;>simp_all [K.eff,K.isCall]<;>(cases o.dst<;>simp)
theorem Qbba {o:COp} (h:o.eff pc = .alloc):o.kind.eff = .alloc∧o.dst.isSome=true:=by
 grind [COp.eff,absurd]
theorem Q1r {o:COp} (hc:o.kind.isCall=true) (hpc:pc≤1∨10≤pc):o.eff pc = .call∧(pc=1∨10≤pc∧wrs (pc-10) o.dst≠true)∨o.eff pc = .gen∨o.eff pc = .callw∧10≤pc:=by
 unfold COp.eff;have:o.kind.eff = .call:=by cases hk:o.kind<;>simp_all [K.eff,K.isCall]
 grind
theorem Qg9 {M W:Mem} (h:∀ k,W k=none):M.patch W=M:=by
 funext k;simp [Mem.patch,h k]
theorem CallStp.over {d:Option Nat} {f:FuncId} {args:List V} {M:Mem} {nb:Nat} {r:V} {M' : Mem} {nb' : Nat} (hpc:pc=1∨10≤pc):CallStp C n0 pc d f args M nb r M' nb' ↔
  ∃ W Δ,(10≤pc∧wrs (pc-10) d=true∨∀ k,W k=none)∧(∀ k,(W k).isSome=true→(M k).isSome=true)∧(∀ k cs,k<n0→W k=some (.cells cs)→V.lt.go n0 cs=true) ∧
   (∀ M2:Mem,(∀ k,(M k).isSome=true→M2 k=M k)→(∀ k,nb≤k→M2 k=none)→C f args M2 nb r ((M2.patch W).over nb Δ) nb')∧M'=(M.patch W).over nb Δ:=by
 rcases hpc with rfl|h10
 ·constructor
  ·rintro ⟨Δ,h1,h2⟩;exact ⟨fun _=>none,Δ,.inr fun _=>rfl,by simp,by simp,by simpa only [Qg9 (fun _=>rfl)] using h1,by simpa only [Qg9 (fun _=>rfl)] using h2⟩
  ·rintro ⟨W,Δ,h0,_,_,h1,h2⟩;have h0:∀ k,W k=none:=by
    grind
   exact ⟨Δ,by simpa only [Qg9 h0] using h1,by simpa only [Qg9 h0] using h2⟩
 ·obtain ⟨n,rfl⟩ : ∃ n,pc=n+2:=⟨pc-2,by omega⟩;have hn8:¬ n<8:=by omega
  have he:n+2-10=n-8:=by omega
  show (if n<8 then _ else _)↔_
  grind
theorem Qqe {o:COp} {s:Sl} {p:Nat} {rest:List Arg} (hargs:o.args = .t p::rest) {k off:Nat} {xs:List V} (h:o.xs s = .ptr k off::xs):s p = .ptr k off:=by
 unfold COp.xs at h;rw [hargs] at h;split at h
 ·grind [Arg.val,List.cons.injEq]
 ·simp only [List.map_cons,Arg.val,V.dems,List.cons.injEq] at h;have:=h.1;cases hv:s p<;>rw [hv] at this<;>simp_all [V.dem]
theorem Q8n {o:COp} {s:Sl} {q:Nat} {rest:List Arg} (hargs:o.args = .t q::rest) {sz k off len cap:Nat} {xs:List V} (h:o.xs s = .sl sz k off len cap::xs):s q = .sl sz k off len cap:=by
 unfold COp.xs at h;rw [hargs] at h;split at h
 ·grind [Arg.val,List.cons.injEq]
 ·simp only [List.map_cons,Arg.val,V.dems,List.cons.injEq] at h;have:=h.1;cases hv:s q<;>rw [hv] at this<;>simp_all [V.dem]
theorem Qbbb {a b:COp} {ps:List Pair} (hcm:Qp3 pc a b=some ps) {s:Sl} {M M1 M2:Mem} {nb nb1 nb2:Nat} {va vb:V} (hsa:Qba9 n0 nb a s M) (hsb:Qba9 n0 nb b s M)
  (hap:∀ p∈ps,Qkv (s p.a) p.n (s p.b) p.m=true) (ha:Core C n0 pc a s M nb va M1 nb1) (hb:Core C n0 pc b s M1 nb1 vb M2 nb2) :
  ∃ M1' nb1',Core C n0 pc b s M nb vb M1' nb1'∧Core C n0 pc a s M1' nb1' va M2 nb2:=by
 have hsl:a.slotsApart b=true:=by
  grind [Qp3]
 unfold Qp3 at hcm;rw [if_pos hsl] at hcm;rcases ha.does with ⟨hf,h1,h2⟩|⟨hwa,hca,hna,hea,hra,h2a⟩|⟨f,args,hwa,hca,hcala,hpca,hcc⟩
 ·exact Qr9 (.inl ⟨hf,h1,h2⟩) ha hb
 ·rcases hb.does with ⟨hf,h1,h2⟩|⟨hwb,hcb,hnb,heb,hrb,h2b⟩|⟨f,args,hwb,hcb,hcalb,hpcb,hcc⟩
  ·exact Qr9 (.inr ⟨hf,h1,h2⟩) ha hb
  ·subst h2a h2b;have fin:∀ M1',Qm n0 (n0+b.dst.getD 0) b.kind (b.xs s) M=some (vb,M1')→Qm n0 (n0+a.dst.getD 0) a.kind (a.xs s) M1'=some (va,M2) →
     ∃ M1' nb1',Core C n0 pc b s M nb2 vb M1' nb1'∧Core C n0 pc a s M1' nb1' va M2 nb2:=fun M1' h1 h2=>⟨M1',nb2,Q45 hwb hcb hnb h1,Q45 hwa hca hna h2⟩
   have pa:a.eff pc ≠ .pure:=by
    grind [Qyh]
   have pb:b.eff pc ≠ .pure:=by
    grind [Qyh]
   have ka:∀ e,a.eff pc=e→e ≠ .other→a.kind.eff=e:=fun e h h'=>by
    grind [Qyh,absurd]
   have kb:∀ e,b.eff pc=e→e ≠ .other→b.kind.eff=e:=fun e h h'=>by
    grind [Qyh,absurd]
   cases ea:a.eff pc<;>cases eb:b.eff pc<;>rw [ea,eb] at hcm<;>(try (simp at hcm;done))<;>(try (exact absurd ea pa))<;>(try (exact absurd eb pb))
   all_goals first
    | (exfalso;have:=ka _ ea (by simp);have hx:=hca;revert this hx;cases a.kind<;>simp [K.eff,K.isCall];done)
    | (exfalso;have:=kb _ eb (by simp);have hx:=hcb;revert this hx;cases b.kind<;>simp [K.eff,K.isCall];done)
    | skip
   ·obtain ⟨rfl,_⟩:=Qgm (ka _ ea (by simp)) hra;obtain ⟨rfl,_⟩:=Qgm (kb _ eb (by simp)) hrb;exact fin _ hrb hra
   ·obtain ⟨rfl,h1⟩:=Qgm (ka _ ea (by simp)) hra;obtain ⟨h2,bx,rfl,h3⟩:=Qio (kb _ eb (by simp)) hrb;exact fin _ hrb (h1 _ _ (Q2n bx (fun _ h=>h) h2).1 hsa.xs)
   ·obtain ⟨rfl,h1⟩:=Qgm (ka _ ea (by simp)) hra;have kt:b.kind = .loadT:=by have:=kb _ eb (by simp);revert this;cases b.kind<;>simp [K.eff]
    rw [kt] at hrb;obtain ⟨k,off,cs,x,hx1,hx2,hx3,hx4,rfl⟩:=Qpy hrb;rw [← kt] at hrb;exact fin _ hrb (h1 _ _ (Q34 hx2 hx3 _).1 hsa.xs)
   ·obtain ⟨rfl,h1⟩:=Qgm (ka _ ea (by simp)) hra;obtain ⟨n',kt⟩ : ∃ n',b.kind = .store n':=by have:=kb _ eb (by simp);revert this;cases b.kind<;>simp [K.eff]
    have hrb0:=hrb;rw [kt] at hrb;obtain ⟨k',off',x,cs,hx1,hx2,hx3,hx4,rfl,rfl⟩:=Qyr hrb;simp only at hcm;split at hcm<;>try (cases hcm;done)
    rename_i p n q m hpa hpb;cases hcm;have hap':=hap ⟨p,n,q,m⟩ (by simp);simp only at hap';unfold COp.place at hpb;split at hpb<;>(try (cases hpb;done))
    ·grind
    ·grind
    rename_i n0' q' xb hk hargs;rw [kt] at hk;cases hk;cases hpb;rw [Qqe hargs hx1] at hap';unfold COp.place at hpa;split at hpa<;>(try (cases hpa;done))
    ·rename_i ag nl p' hka hargsa;cases hpa;refine fin _ (by rw [kt];exact hrb) ?_;have hxa:∃ pv,a.xs s=[pv]:=by
      grind [COp.xs,Arg.val,V.dems]
     obtain ⟨pv,hpv⟩:=hxa;rw [hka,hpv] at hra h1 ⊢;cases pv with
     | ptr k off =>
      rw [Qqe hargsa hpv] at hap';exact Q9m hra hx2 hx3 hx4 hap'
     | cref cs'=>exact h1 (fun _=>False) _ (fun _ h=>h.elim) (by simp [V.ons,V.on])
     | _=>simp [Qm] at hra
    all_goals grind [COp.eff,K.eff]
   ·obtain ⟨rfl,h1⟩:=Qgm (ka _ ea (by simp)) hra;obtain ⟨kd,z,kt⟩ : ∃ kd z,b.kind = .lookupT kd z:=by have:=kb _ eb (by simp);revert this;cases b.kind<;>simp [K.eff]
    have hrb0:=hrb;rw [kt] at hrb;obtain ⟨k,key,bx,hx1,hx2,⟨b',rfl,hag,_⟩|⟨rfl,_⟩⟩:=Qpl hrb
    ·exact fin _ hrb0 (h1 _ _ (hag _).1 hsa.xs)
    ·exact fin _ hrb0 hra
   ·obtain ⟨h2,bx,rfl,h3⟩:=Qio (ka _ ea (by simp)) hra;obtain ⟨rfl,h1⟩:=Qgm (kb _ eb (by simp)) hrb;exact fin _ (h1 _ _ (Q2n bx (fun _ h=>h) h2).2 hsb.xs) hra
   ·obtain ⟨h2,bx,rfl,h3⟩:=Qio (ka _ ea (by simp)) hra;obtain ⟨h4,by',rfl,h5⟩:=Qio (kb _ eb (by simp)) hrb;have hne:n0+a.dst.getD 0≠n0+b.dst.getD 0:=by
     grind [Qht]
    simp_all [Qcz,Ne.symm,Quf]
   ·obtain ⟨h2,bx,rfl,h3⟩:=Qio (ka _ ea (by simp)) hra;have kt:b.kind = .loadT:=by have:=kb _ eb (by simp);revert this;cases b.kind<;>simp [K.eff]
    rw [kt] at hrb;obtain ⟨k,off,cs,x,hx1,hx2,hx3,rfl,rfl⟩:=Qpy hrb;have hk:(M k).isSome=true:=by have:=hsb.xs;rw [hx1] at this;exact this.1
    have hne:k≠n0+a.dst.getD 0:=fun e=>by grind
    rw [Qcz _ _ hne] at hx2;refine fin _ (by rw [kt,hx1];exact Qsz hx2 hx3) ?_;rw [Quf _ _ _ (Ne.symm hne)];exact h3 _ (by rw [Qcz _ _ (Ne.symm hne)];exact h2)
   ·obtain ⟨h2,bx,rfl,h3⟩:=Qio (ka _ ea (by simp)) hra;obtain ⟨kd,z,kt⟩ : ∃ kd z,b.kind = .lookupT kd z:=by have:=kb _ eb (by simp);revert this;cases b.kind<;>simp [K.eff]
    rw [kt] at hrb;obtain ⟨k,key,bk,hx1,hx2,hres⟩:=Qpl hrb;have hk:(M k).isSome=true:=by have:=hsb.xs;rw [hx1] at this;exact this.1
    have hne:k≠n0+a.dst.getD 0:=fun e=>by grind
    rw [Qcz _ _ hne] at hx2;rcases hres with ⟨b',rfl,_,hag⟩|⟨rfl,hag⟩
    ·refine fin _ (by rw [kt];exact hag M hx2) ?_;rw [Quf _ _ _ (Ne.symm hne)];exact h3 _ (by rw [Qcz _ _ (Ne.symm hne)];exact h2)
    grind
   ·have kt:a.kind = .loadT:=by have:=ka _ ea (by simp);revert this;cases a.kind<;>simp [K.eff]
    have hra0:=hra;rw [kt] at hra;obtain ⟨k,off,cs,x,hx1,hx2,hx3,hx4,rfl⟩:=Qpy hra;obtain ⟨rfl,h1⟩:=Qgm (kb _ eb (by simp)) hrb;exact fin _ (h1 _ _ (Q34 hx2 hx3 _).2 hsb.xs) hra0
   ·have kt:a.kind = .loadT:=by have:=ka _ ea (by simp);revert this;cases a.kind<;>simp [K.eff]
    rw [kt] at hra;obtain ⟨k,off,cs,x,hx1,hx2,hx3,rfl,rfl⟩:=Qpy hra;obtain ⟨h2,bx,rfl,h3⟩:=Qio (kb _ eb (by simp)) hrb;have hne:k≠n0+b.dst.getD 0:=fun e=>by rw [e,Qht] at h2;cases h2
    simp_all [Qcz,Ne.symm,Quf,Qsz]
   ·have kt:a.kind = .loadT:=by have:=ka _ ea (by simp);revert this;cases a.kind<;>simp [K.eff]
    have kt' : b.kind = .loadT:=by have:=kb _ eb (by simp);revert this;cases b.kind<;>simp [K.eff]
    rw [kt] at hra;rw [kt'] at hrb;obtain ⟨k,off,cs,x,hx1,hx2,hx3,rfl,rfl⟩:=Qpy hra;obtain ⟨k',off',cs',x',hy1,hy2,hy3,rfl,rfl⟩:=Qpy hrb;simp only at hcm;split at hcm<;>try (cases hcm;done)
    rename_i p n q m hpa hpb;cases hcm;have hap':=hap ⟨p,n,q,m⟩ (by simp);simp only at hap';obtain ⟨rfl,hsp⟩ : n=1∧s p = .ptr k off:=by
     unfold COp.place at hpa;split at hpa<;>(try (cases hpa;done))
     ·grind
     ·rename_i hargs;cases hpa;exact ⟨rfl,Qqe hargs hx1⟩
     grind
    obtain ⟨rfl,hsq⟩ : m=1∧s q = .ptr k' off':=by
     unfold COp.place at hpb;split at hpb<;>(try (cases hpb;done))
     ·grind
     ·rename_i hargs;cases hpb;exact ⟨rfl,Qqe hargs hy1⟩
     grind
    rw [hsp,hsq] at hap';by_cases hkk:k'=k
    ·grind [Qkv,Qht,List.getElem?_set_ne,Qsz,Qba7,List.set_comm]
    ·rw [Qcz _ _ hkk] at hy2;refine fin (M.put k' (.cells (cs'.set off' x'.dem))) (by grind [Qsz]) ?_;rw [kt,hx1,Quf _ _ _ (Ne.symm hkk)];exact Qsz (by rw [Qcz _ _ (Ne.symm hkk)];exact hx2) hx3
   ·obtain ⟨kd,z,kt⟩ : ∃ kd z,a.kind = .lookupT kd z:=by have:=ka _ ea (by simp);revert this;cases a.kind<;>simp [K.eff]
    have hra0:=hra;rw [kt] at hra;obtain ⟨rfl,h1⟩:=Qgm (kb _ eb (by simp)) hrb;obtain ⟨k,key,bx,hx1,hx2,⟨b',rfl,hag,_⟩|⟨rfl,_⟩⟩:=Qpl hra
    ·exact fin _ (h1 _ _ (hag _).2 hsb.xs) hra0
    ·exact fin _ hrb hra0
   ·obtain ⟨kd,z,kt⟩ : ∃ kd z,a.kind = .lookupT kd z:=by have:=ka _ ea (by simp);revert this;cases a.kind<;>simp [K.eff]
    rw [kt] at hra;obtain ⟨k,key,bk,hx1,hx2,hres⟩:=Qpl hra;obtain ⟨h2,bx,rfl,h3⟩:=Qio (kb _ eb (by simp)) hrb;rcases hres with ⟨b',rfl,_,hag⟩|⟨rfl,hag⟩
    ·have hne:k≠n0+b.dst.getD 0:=fun e=>by rw [e,Qht] at h2;cases h2
     simp_all [Qcz,Ne.symm,Quf]
    grind [Qcz]
   ·obtain ⟨sz,bytes,kt⟩ : ∃ sz bytes,a.kind = .appw sz bytes:=by have:=ka _ ea (by simp);revert this;cases a.kind<;>simp [K.eff]
    have hra0:=hra;rw [kt] at hra;obtain ⟨s1,x,hx1,_,k,f,rfl,hf,hmv⟩:=Q8m hra;obtain ⟨rfl,h1⟩:=Qgm (kb _ eb (by simp)) hrb;simp only at hcm;split at hcm<;>try (cases hcm;done)
    rename_i q xx p m hargs hpb;cases hcm;have hap1:=hap ⟨q,0,p,m⟩ (by simp);simp only at hap1;rcases hf with rfl|⟨⟨sz',off,len,cap,rfl⟩,bx,rfl⟩
    ·exact fin _ hrb hra0
    ·rw [Q8n hargs hx1] at hap1;unfold COp.place at hpb;split at hpb<;>(try (cases hpb;done))
     ·rename_i ag nl p' hkb hargsb;cases hpb;have hxb:∃ pv,b.xs s=[pv]:=by
       grind [COp.xs,Arg.val,V.dems]
      obtain ⟨pv,hpv⟩:=hxb;cases pv with
      | ptr k' off' =>
       rw [Qqe hargsb hpv] at hap1;have hne:k' ≠ k:=by simpa only [Qkv,decide_eq_true_eq] using hap1
       exact fin _ (h1 (fun j=>j=k') M (fun j hj=>by grind [Bx.dm,Qcz]) (by rw [hpv];exact ⟨rfl,trivial⟩)) hra0
      | cref cs'=>exact fin _ (h1 (fun _=>False) M (fun _ h=>h.elim) (by rw [hpv];simp [V.ons,V.on])) hra0
      | _=>rw [hkb,hpv] at hrb;simp [Qm] at hrb
     all_goals grind [COp.eff,K.eff]
   ·obtain ⟨sz,bytes,kt⟩ : ∃ sz bytes,a.kind = .appw sz bytes:=by have:=ka _ ea (by simp);revert this;cases a.kind<;>simp [K.eff]
    obtain ⟨n',kt'⟩ : ∃ n',b.kind = .store n':=by have:=kb _ eb (by simp);revert this;cases b.kind<;>simp [K.eff]
    rw [kt] at hra;obtain ⟨s1,x,hx1,⟨ys,hys⟩,k,f,rfl,hf,hmv⟩:=Q8m hra;rw [kt'] at hrb;obtain ⟨k',off',y,cs,hy1,hy2,_⟩:=Qyr hrb;simp only at hcm;split at hcm<;>try (cases hcm;done)
    rename_i q xx p m hargs hpb;cases hcm;have hap1:=hap ⟨q,0,p,m⟩ (by simp);have hap2:=hap ⟨xx,0,p,m⟩ (by simp);simp only at hap1 hap2;unfold COp.place at hpb;split at hpb<;>(try (cases hpb;done))
    ·grind
    ·grind
    rename_i n0' q' xb hk hargsb;cases hpb;rw [Qqe hargsb hy1] at hap2;have hne:(∃ sz' off len cap,s1 = .sl sz' k off len cap)→k' ≠ k:=by
     rintro ⟨sz',off,len,cap,rfl⟩;rw [Q8n hargs hx1,Qqe hargsb hy1] at hap1;simpa only [Qkv,decide_eq_true_eq] using hap1
    have hxon:x.on (· ≠ k'):=by
     have hx2:x.dem=(s xx).dem:=by
      grind [COp.xs,Arg.val,List.cons.injEq,V.dems,Qdj]
     cases x<;>simp only [Qf8] at hys<;>(try (cases hys;done))<;>(try trivial);rename_i sz2 j o2 l2 c2;have:s xx = .sl sz2 j o2 l2 c2:=by
      cases hv:s xx<;>rw [hv] at hx2<;>simp_all [V.dem]
     rw [this] at hap2;simp only [Qkv,decide_eq_true_eq] at hap2;exact fun e=>hap2 e.symm
    rw [hy1] at hrb;have hMk:M k'=(f M) k':=by
     rcases hf with rfl|⟨hsl,bx,rfl⟩
     all_goals simp_all [Qcz]
    obtain ⟨bx,rfl,hst⟩:=Q7r hrb hMk;refine fin (M.put k' bx) (by rw [kt',hy1];exact hst) ?_;rw [kt,hmv k' bx hne hxon];congr 2;rcases hf with rfl|⟨hsl,by',rfl⟩
    all_goals grind [Quf]
  ·rcases Q1r hcb hpcb with ⟨eb,hp1⟩|eb|⟨eb,_⟩
   ·cases ea:a.eff pc<;>rw [ea,eb] at hcm<;>(try (simp at hcm;done))
    ·grind [Qyh,absurd]
    ·have ka:a.kind.eff = .read:=by grind [Qyh]
     obtain ⟨rfl,h1⟩:=Qgm ka hra;subst h2a;have hcc0:=hcc;obtain ⟨W,Δ,h0,hW,hW2,hcc1,rfl⟩:=(CallStp.over (hp1.imp id (·.1))).1 hcc;have h0:∀ k,W k=none:=by
      grind
     refine ⟨(M1.patch W).over nb1 Δ,nb2,?_,?_⟩
     ·grind
     ·simp only [Core,hwa,hca,hna,Bool.false_eq_true,if_false];exact ⟨h1 (fun k=>(M1 k).isSome=true) _ (fun k hk=>by simp only [Mem.over,hsa.low k hk,if_true,Qg9 h0]) hsa.xs,trivial⟩
   all_goals grind [Qyh,absurd]
 ·rcases hb.does with ⟨hf,h1,h2⟩|⟨hwb,hcb,hnb,heb,hrb,h2b⟩|⟨f',args',hwb,hcb,hcalb,hpcb,hcc'⟩
  ·exact Qr9 (.inr ⟨hf,h1,h2⟩) ha hb
  ·subst h2b;have over:(pc=1∨10≤pc)→b.eff pc = .alloc→∃ M1' nb1',Core C n0 pc b s M nb vb M1' nb1'∧Core C n0 pc a s M1' nb1' va M2 nb2:=by
    intro hp1 eb;obtain ⟨W,Δ,h0,hW,hW2,hcc1,rfl⟩:=(CallStp.over hp1).1 hcc;obtain ⟨kb,_⟩:=Qbba eb;obtain ⟨h1,bx,rfl,h3⟩:=Qio kb hrb;have hlt:n0+b.dst.getD 0<nb:=hsb.key;have hMW:W (n0+b.dst.getD 0)=none∧M (n0+b.dst.getD 0)=none:=by
     simp only [Mem.over,hlt,if_true,Mem.patch] at h1
     grind
    obtain ⟨hWn,hM⟩:=hMW;refine ⟨_,nb,Q45 hwb hcb hnb (h3 M hM),?_⟩;simp only [Core,hwa,hca,if_true];refine ⟨f,args,hcala,(CallStp.over hp1).2 ⟨W,Δ,h0,fun k hk=>?_,hW2,fun M2 h4 h5=>hcc1 M2 (fun k hk=>?_) h5,?_⟩⟩
    ·grind [Mem.put]
    ·have hne:k≠n0+b.dst.getD 0:=fun e=>by rw [e,hM] at hk;cases hk
     grind [Qcz]
    ·funext k;simp only [Mem.over,Mem.put,Mem.patch];by_cases hk:k=n0+b.dst.getD 0
     ·subst hk;simp [hlt,hWn]
     ·simp [hk]
   rcases Q1r hca hpca with ⟨ea,hp1⟩|ea|⟨ea,hp1⟩
   ·cases eb:b.eff pc<;>(try (rw [ea,eb] at hcm;simp at hcm;done))
    ·rcases Qyh (pc:=pc) hcb with h|h<;>rw [eb] at h
     ·exact absurd h.symm heb
     ·cases h
    ·have kb:b.kind.eff = .read:=by rcases Qyh (pc:=pc) hcb with h|h<;>rw [eb] at h;exact h.symm;cases h
     obtain ⟨rfl,h1⟩:=Qgm kb hrb;obtain ⟨W,Δ,h0,hW,hW2,hcc1,rfl⟩:=(CallStp.over (hp1.imp id (·.1))).1 hcc;have h0:∀ k,W k=none:=by
      rcases h0 with ⟨h,h'⟩|h
      ·rcases hp1 with h2|⟨_,h2⟩
       ·omega
       ·exact absurd h' h2
      ·exact h
     refine ⟨M,nb,Q45 hwb hcb hnb (h1 (fun k=>(M k).isSome=true) _ (fun k hk=>by simp only [Mem.over,hsb.low k hk,if_true,Qg9 h0]) hsb.xs),ha⟩
    ·exact over (hp1.imp id (·.1)) eb
   all_goals grind [Qyh,absurd]
  ·rcases Q1r hca hpca with ⟨ea,_⟩|ea|⟨ea,_⟩<;>rcases Q1r hcb hpcb with ⟨eb,_⟩|eb|⟨eb,_⟩<;>rw [ea,eb] at hcm<;>simp at hcm
end Go.Abs
end
