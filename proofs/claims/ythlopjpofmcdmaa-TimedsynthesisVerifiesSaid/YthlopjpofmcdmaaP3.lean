/-
  Part 3 of the proof: see the last text.
-/
import Derived.Test.YthlopjpofmcdmaaP2
import Derived.MapKept
set_option linter.unusedVariables false
set_option linter.unusedSimpArgs false
set_option linter.unusedSectionVars false
section
namespace Go.Abs
open Go Go.MapKept
section
variable (P:Program) {g:G} {w:World} {n0 nt:Nat} {g0:G} {w0:World} {σ:St} {a:Act}
theorem Qvd {c:CK} {v:V} {u:Value} (hv:c.ok v=true) (hr:RF g w v u):(∃ n,∃ k,c = .int k∧v = .d (.int k n)∧u = .int k n)∨(∃ s,c = .str∧v = .d (.str s)∧u = .string s)∨(∃ b,c = .bool∧v = .d (.bool b)∧u = .bool b):=by
 cases v with
 | d x =>
  cases x<;>cases c<;>simp [CK.ok] at hv
  ·subst hv;exact .inl ⟨_,_,rfl,rfl,Qpi hr⟩
  ·exact .inr (.inr ⟨_,rfl,rfl,Qzs hr⟩)
  ·exact .inr (.inl ⟨_,rfl,rfl,Q79 hr⟩)
 | _=>cases c<;>simp [CK.ok] at hv
theorem Qw4 {c:CK} {v v' : V} {u u' : Value} (h1:c.ok v=true) (h2:c.ok v'=true) (r1:RF g w v u) (r2:RF g w v' u'):Qm8 v v'=true↔u=u':=by
 rcases Qvd h1 r1 with ⟨n,k,rfl,rfl,rfl⟩|⟨s,rfl,rfl,rfl⟩|⟨b,rfl,rfl,rfl⟩<;>rcases Qvd h2 r2 with ⟨n',k',e,rfl,rfl⟩|⟨s',e,rfl,rfl⟩|⟨b',e,rfl,rfl⟩<;>cases e<;>simp [Qm8,bytes_beq]
theorem Q50:∀ {ks:List CK} {cs:List V},okCs ks cs=true→cs.length=ks.length
 | [],[],_=>rfl
 | k::ks,c::cs,h=>by simp only [okCs,Bool.and_eq_true] at h;simp [Q50 h.2]
 | [],_::_,h=>by simp [okCs] at h
 | _::_,[],h=>by simp [okCs] at h
theorem Q1n:∀ {ks:List CK} {cs cs' : List V} {us us' : List Value},okCs ks cs=true→okCs ks cs'=true→RFs g w cs us→RFs g w cs' us'→(Qtz cs cs'=true↔us=us')
 | [],[],[],us,us',_,_,r1,r2=>by grind [RFs,Qtz]
 | k::ks,c::cs,c'::cs',_,_,h1,h2,⟨u,us,rfl,r1,t1⟩,⟨u',us',rfl,r2,t2⟩=>by
  simp only [okCs,Bool.and_eq_true] at h1 h2;simp only [Qtz,Bool.and_eq_true,Qw4 h1.1 h2.1 r1 r2,Q1n h1.2 h2.2 t1 t2,List.cons.injEq]
 | _::_,[],_,_,_,h1,_,_,_=>by simp [okCs] at h1
 | _::_,_::_,[],_,_,_,h2,_,_=>by simp [okCs] at h2
 | [],_::_,_,_,_,h1,_,_,_=>by simp [okCs] at h1
 | [],[],_::_,_,_,_,h2,_,_=>by simp [okCs] at h2
theorem Qrl {cs:List V} {ks:List CK} {u:Value} (ho:okCs ks cs=true) (h:RF g w (.agg cs) u):∃ us:List Value,u = .agg us.toArray∧RFs g w cs us:=by
 have hf:(V.agg cs).dem = .agg cs:=by
  simp only [V.dem];congr 1;clear h
  induction cs generalizing ks with
  | nil=>rfl
  | cons c cs ih =>
   cases ks with
   | nil=>simp [okCs] at ho
   | cons k ks =>
    simp only [okCs,Bool.and_eq_true] at ho;have:c.dem=c:=by
     cases c<;>first|rfl|(cases k<;>simp [CK.ok] at ho)
    simp only [V.dems,this,ih ho.2]
 obtain ⟨us,rfl,hl,hr,h5⟩:=Qyp hf h;refine ⟨us,rfl,?_⟩;clear h hf h5
 induction cs generalizing us ks with
 | nil=>grind [RFs,List.eq_nil_of_length_eq_zero]
 | cons c cs ih =>
  cases us with
  | nil=>simp at hl
  | cons u us =>
   cases ks with
   | nil=>simp [okCs] at ho
   | cons k ks =>
    simp only [okCs,Bool.and_eq_true] at ho;exact ⟨u,us,rfl,hr 0 c u rfl rfl,ih ho.2 us (by simpa using hl) fun j c' x hc hx=>hr (j+1) c' x (by simpa using hc) (by simpa using hx)⟩
structure KLaw (P:Program) (g:G) (w:World) (kt:TypeId) (kd:MK):Prop where
 check:∀ (em:Bool) {v:V} {u:Value},kd.ok v=true→RF g w v u→(Instr.checkKey em 10000 kt u).run P w = .ok () w
 stays:∀ {v:V} {u:Value},kd.ok v=true→RF g w v u→(Instr.keyThatStays u u).run P w = .ok u w
 same:∀ {v v' : V} {u u' : Value},kd.ok v=true→kd.ok v'=true→RF g w v u→RF g w v' u'→(Qhx v v'=true↔u=u')
 find:∀ {key:V} {u:Value} (l:List (V×MapEntry)),kd.ok key=true→RF g w key u→(∀ p∈l,kd.ok p.1=true∧RF g w p.1 p.2.key) →
  ((Instr.findKey kt u (l.map (·.2))).run P w = .ok none w∧∀ p∈l,p.2.key≠u) ∨
  ∃ (j:Nat) (p:V×MapEntry),(Instr.findKey kt u (l.map (·.2))).run P w = .ok (some (j,p.2.val)) w∧l[j]? = some p∧p.2.key=u∧∀ i q,i<j→l[i]? = some q→q.2.key≠u
theorem Q1o {d:TypeDesc} {u:Value} (hu:IsKey d u):∀ (l:List (V×MapEntry)) (i:Nat),(∀ p∈l,IsKey d p.2.key) →
  (Instr.findNow d u (l.map (·.2)) i=some none∧∀ p∈l,p.2.key≠u) ∨
  ∃ (j:Nat) (p:V×MapEntry),Instr.findNow d u (l.map (·.2)) i=some (some (i+j,p.2.val))∧l[j]? = some p∧p.2.key=u∧∀ i q,i<j→l[i]? = some q→q.2.key≠u
 | [],i,_=>.inl ⟨rfl,by simp⟩
 | p::l,i,h=>by
  obtain ⟨b,hb,hiff⟩:=sameNow_of_keys hu (h p (by simp));cases b with
  | true=>exact .inr ⟨0,p,by simp [Instr.findNow,hb],rfl,(hiff.1 rfl).symm,by omega⟩
  | false =>
   have hne:p.2.key≠u:=fun e=>by grind
   rcases Q1o hu l (i+1) (fun q hq=>h q (by simp [hq])) with ⟨k1,k2⟩|⟨j,q,k1,k2,k3,k4⟩
   ·refine .inl ⟨by simp [Instr.findNow,hb,k1],fun q hq=>?_⟩
    grind
   ·refine .inr ⟨j+1,q,by simp [Instr.findNow,hb,k1];omega,by simpa using k2,k3,fun i' q' hi hq'=>?_⟩
    grind
theorem Q1p {kt:TypeId} {u:Value}:∀ (l:List (V×MapEntry)) (i:Nat),(∀ p∈l,∃ b:Bool,(Op.equal kt u p.2.key).run P w = .ok b w∧(b=true↔u=p.2.key)) →
  ((Instr.findAsking kt u (l.map (·.2)) i).run P w = .ok none w∧∀ p∈l,p.2.key≠u) ∨
  ∃ (j:Nat) (p:V×MapEntry),(Instr.findAsking kt u (l.map (·.2)) i).run P w = .ok (some (i+j,p.2.val)) w∧l[j]? = some p∧p.2.key=u∧∀ i q,i<j→l[i]? = some q→q.2.key≠u
 | [],i,_=>.inl ⟨by simp [Instr.findAsking],by simp⟩
 | p::l,i,h=>by
  obtain ⟨b,hb,hiff⟩:=h p (by simp);cases b with
  | true=>exact .inr ⟨0,p,by simp [Instr.findAsking,hb],rfl,(hiff.1 rfl).symm,by omega⟩
  | false =>
   have hne:p.2.key≠u:=fun e=>by grind
   rcases Q1p l (i+1) (fun q hq=>h q (by simp [hq])) with ⟨k1,k2⟩|⟨j,q,k1,k2,k3,k4⟩
   ·refine .inl ⟨by simp [Instr.findAsking,hb,k1],fun q hq=>?_⟩
    grind
   ·refine .inr ⟨j+1,q,by simp [Instr.findAsking,hb,k1,Nat.add_assoc,Nat.add_comm 1 j],by simpa using k2,k3,fun i' q' hi hq'=>?_⟩
    grind
theorem Q2x {kt:TypeId} {d:TypeDesc} {kd:MK} (hd:P.underlying kt=some d) (hk:∀ (v:V) (u:Value),kd.ok v=true→RF g w v u→IsKey d u)
  (hs:∀ {v v' : V} {u u' : Value},kd.ok v=true→kd.ok v'=true→RF g w v u→RF g w v' u'→(Qhx v v'=true↔u=u')):KLaw P g w kt kd where
 check:=fun em v u hv hr=>run_checkKey hd (hk _ _ hv hr) em 9999
 stays:=fun hv hr=>run_keyThatStays (hk _ _ hv hr)
 same:=hs
 find:=fun {key u} l hkey hu hl=>by
  grind [Q1o,Go.MapKept.run_findKey]
theorem Qsh {t:TypeId} {c:CK} (h:Qor P t=some c):Qit P t=some (match c with | .int _=>0 | .bool=>1 | .str=>2):=by
 grind [Qor,Qit]
def CK.code:CK→Nat
 | .int _=>0
 | .bool=>1
 | .str=>2
theorem Q1q:∀ {ks:List CK} {xs ys:List V},okCs ks xs=true→okCs ks ys=true→Qd8 (ks.map CK.code) xs ys=some (Qtz xs ys)
 | [],[],[],_,_=>rfl
 | k::ks,x::xs,y::ys,h1,h2=>by
  simp only [okCs,Bool.and_eq_true] at h1 h2;have ih:=Q1q h1.2 h2.2;cases x with
  | d a =>
   cases y with
   | d b =>
    cases a<;>cases b<;>cases k<;>simp [CK.ok] at h1 h2
    ·obtain ⟨rfl,_⟩:=h1;obtain ⟨rfl,_⟩:=h2;simp [CK.code,Qd8,ih,Qtz,Qm8]
    ·simp [CK.code,Qd8,ih,Qtz,Qm8]
    ·simp [CK.code,Qd8,ih,Qtz,Qm8,beq_toListBytes]
   | _=>cases k<;>simp [CK.ok] at h2
  | _=>cases k<;>simp [CK.ok] at h1
 | _::_,[],_,h1,_=>by simp [okCs] at h1
 | _::_,_::_,[],_,h2=>by simp [okCs] at h2
 | [],_::_,_,h1,_=>by simp [okCs] at h1
 | [],[],_::_,_,h2=>by simp [okCs] at h2
theorem Qvu:∀ {ks:List CK} {cs:List V} {us:List Value},okCs ks cs=true→RFs g w cs us→∀ n,(us.zip us).all (fun p=>Instr.sameBits n p.1 p.2)=true
 | [],[],us,_,h,_=>by simp_all [RFs]
 | k::ks,c::cs,_,h1,⟨u,us,rfl,r1,t1⟩,n=>by
  simp only [okCs,Bool.and_eq_true] at h1;simp only [List.zip_cons_cons,List.all_cons,Bool.and_eq_true];refine ⟨?_,Qvu h1.2 t1 n⟩;rcases Qvd h1.1 r1 with ⟨n,k,rfl,rfl,rfl⟩|⟨s,rfl,rfl,rfl⟩|⟨b,rfl,rfl,rfl⟩<;>simp [Instr.sameBits,bytes_beq]
 | _::_,[],_,h1,_,_=>by simp [okCs] at h1
 | [],_::_,_,h1,_,_=>by simp [okCs] at h1
theorem Q9s {kt:TypeId} {ks:List CK} (hd:P.underlying kt=none∨∃ d,P.underlying kt=some d∧((∃ n e,d = .array n e)∨∃ fs,d = .struct fs)) (hks:Qj7 P kt=some (ks.map CK.code))
  (hcheck:∀ (em:Bool) {cs:List V} {us:List Value},okCs ks cs=true→RFs g w cs us→(Instr.checkKey em 10000 kt (.agg us.toArray)).run P w = .ok () w):KLaw P g w kt (.st ks):=by
 have hex:∀ {v:V},(MK.st ks).ok v=true→∃ cs,v = .agg cs∧okCs ks cs=true:=by
  intro v h;cases v<;>simp [MK.ok] at h;exact ⟨_,rfl,h⟩
 have hsame:∀ {v v' : V} {u u' : Value},(MK.st ks).ok v=true→(MK.st ks).ok v'=true→RF g w v u→RF g w v' u'→(Qhx v v'=true↔u=u'):=by
  intro v v' u u' h1 h2 r1 r2;obtain ⟨cs,rfl,o1⟩:=hex h1;obtain ⟨cs',rfl,o2⟩:=hex h2;obtain ⟨us,rfl,q1⟩:=Qrl o1 r1;obtain ⟨us',rfl,q2⟩:=Qrl o2 r2;rw [show Qhx (.agg cs) (.agg cs')=Qtz cs cs' from rfl,Q1n o1 o2 q1 q2];simp
 obtain ⟨d,hd,hdd⟩ : ∃ d,P.underlying kt=some d∧((∃ n e,d = .array n e)∨∃ fs,d = .struct fs):=by
  grind [Qj7]
 refine ⟨fun em v u h r=>?_,fun {v u} h r=>?_,hsame,fun {key u} l hkey hu hl=>?_⟩
 ·obtain ⟨cs,rfl,o1⟩:=hex h;obtain ⟨us,rfl,q1⟩:=Qrl o1 r;exact hcheck em o1 q1
 ·obtain ⟨cs,rfl,o1⟩:=hex h;obtain ⟨us,rfl,q1⟩:=Qrl o1 r;have:=Qvu o1 q1 9999
  simp_all [Go.Instr.sameBits,beq_self_eq_true,Bool.true_and,Go.Instr.keyThatStays]
 ·have heq:∀ p∈l,∃ b:Bool,(Op.equal kt u p.2.key).run P w = .ok b w∧(b=true↔u=p.2.key):=by
   intro p hp;obtain ⟨h2,r2⟩:=hl p hp;obtain ⟨pv,pe⟩:=p;simp only at h2 r2;obtain ⟨cs,rfl,o1⟩:=hex hkey;obtain ⟨cs',rfl,o2⟩:=hex h2;have hs:=hsame hkey h2 hu r2;obtain ⟨us,rfl,q1⟩:=Qrl o1 hu;obtain ⟨us',hu',q2⟩:=Qrl o2 r2;refine ⟨Qtz cs cs',?_,hs⟩;rw [show (pe.key) = .agg us'.toArray from hu'];exact (Q60 P kt hks (Qh0 q1) (fun j c x hc hx=>Qq0 q1 j c x hc hx) (Qh0 q2) (fun j c x hc hx=>Qq0 q2 j c x hc hx) (Q1q o1 o2)).1
  have hfk:(Instr.findKey kt u (l.map (·.2))).run P w=(Instr.findAsking kt u (l.map (·.2)) 0).run P w:=by
   have hfn:Instr.findNow d u (l.map (·.2)) 0=none∨l=[]:=by
    cases l with
    | nil=>exact .inr rfl
    | cons p l =>
     refine .inl ?_;rcases hdd with ⟨n,e,rfl⟩|⟨fs,rfl⟩<;>simp [Instr.findNow,Instr.sameNow]
   rcases hfn with h|rfl
   all_goals simp_all [Go.Instr.findKey,Go.run_underlying,Go.Result.andThen,Go.Instr.findNow,Go.Instr.findAsking]
  grind [Q1p]
theorem Q1r {t:TypeId} {c:CK} (hc:Qor P t=some c) (em:Bool) (n:Nat) {v:V} {u:Value} (hv:c.ok v=true) (hr:RF g w v u):(Instr.checkKey em (n+1) t u).run P w = .ok () w:=by
 unfold Qor at hc;split at hc<;>cases hc
 all_goals
  rename_i ht;rcases Qvd hv hr with ⟨n,k,e,rfl,rfl⟩|⟨s,e,rfl,rfl⟩|⟨b,e,rfl,rfl⟩<;>cases e;refine run_checkKey ht ?_ em _;simp [IsKey]
theorem Qys {em : Bool} {n : Nat} {X : Array Value} {body : Field → PUnit → Sem (ForInStep PUnit)} (hb : ∀ (f : Field) (u : Value), f.name ≠ "_" → (part f.type X f.offset).run P w = .ok u w → (Instr.checkKey em (n + 1) f.type u).run P w = .ok () w → (body f PUnit.unit).run P w = .ok (.yield PUnit.unit) w) :
  ∀ (fs:List Field) (i:Nat) (ks:List CK) (codes:List Nat) (cs:List V),fs.mapM (fun f=>Qor P f.type)=some ks→Qhz P i fs=some codes→okCs ks cs=true →
  (∀ (j:Nat) (c:V),cs[j]? = some c→∃ u,X[i+j]? = some u∧RF g w c u)→(forIn fs PUnit.unit body).run P w = .ok PUnit.unit w
 | [],i,ks,codes,cs,_,_,_,_=>by simp
 | f::fs,i,ks,codes,cs,hm,hf,ho,hx=>by
  simp only [List.mapM_cons,Option.bind_eq_bind,Option.bind_eq_some_iff,Option.pure_def,Option.some.injEq] at hm;obtain ⟨k,hk,ks',hm,rfl⟩:=hm;simp only [Qhz] at hf;split at hf<;>try (cases hf;done)
  rename_i hn;split at hf<;>try (cases hf;done)
  rename_i c1 cs1 hc1 hc2;cases cs with
  | nil=>simp [okCs] at ho
  | cons c cs =>
   simp only [okCs,Bool.and_eq_true] at ho;obtain ⟨u,hu,ru⟩:=hx 0 c rfl;have hp:=Qwz (w:=w) P (Qsh P hk) (Z:=X) (o:=f.offset) (u:=u) (by rw [hn.1];exact hu);have hck:=Q1r (g:=g) (w:=w) P hk em n ho.1 ru;have ih:=Qys hb fs (i+1) ks' cs1 cs hm hc2 ho.2 fun j c' hc'=>by
    obtain ⟨u',h1,h2⟩:=hx (j+1) c' (by simpa using hc')
    grind
   simp_all
theorem Qzy {em:Bool} {n:Nat} {X:Array Value} {e:TypeId} {k:CK} (hk:Qor P e=some k) {body:Nat→PUnit→Sem (ForInStep PUnit)} (hb:∀ (j:Nat) (u:Value),(part e X j).run P w = .ok u w→(Instr.checkKey em (n+1) e u).run P w = .ok () w→(body j PUnit.unit).run P w = .ok (.yield PUnit.unit) w) :
  ∀ (m i:Nat) (cs:List V),okCs (List.replicate m k) cs=true →
  (∀ (j:Nat) (c:V),cs[j]? = some c→∃ u,X[i+j]? = some u∧RF g w c u)→(forIn (List.range' i m) PUnit.unit body).run P w = .ok PUnit.unit w
 | 0,i,cs,_,_=>by simp
 | m+1,i,cs,ho,hx=>by
  cases cs with
  | nil=>simp [List.replicate_succ,okCs] at ho
  | cons c cs =>
   simp only [List.replicate_succ,okCs,Bool.and_eq_true] at ho;obtain ⟨u,hu,ru⟩:=hx 0 c rfl;have hp:=Qwz (w:=w) P (Qsh P hk) (Z:=X) (o:=i) (u:=u) hu;have hck:=Q1r (g:=g) (w:=w) P hk em n ho.1 ru;have ih:=Qzy hk hb m (i+1) cs ho.2 fun j c' hc'=>by
    obtain ⟨u',h1,h2⟩:=hx (j+1) c' (by simpa using hc')
    grind
   grind [List.range'_succ,Go.Sem.run_bind,Go.Result.andThen_ok]
theorem Qzz:∀ (l:List Field) (i:Nat) (ks:List CK) (codes:List Nat),l.mapM (fun f=>Qor P f.type)=some ks→Qhz P i l=some codes→codes=ks.map CK.code
 | [],i,ks,codes,hks,hfk=>by grind [Qhz]
 | f::l,i,ks,codes,hks,hfk=>by
  simp only [List.mapM_cons,Option.bind_eq_bind,Option.bind_eq_some_iff,Option.pure_def,Option.some.injEq] at hks;obtain ⟨k,hk,ks',hks,rfl⟩:=hks;simp only [Qhz] at hfk;split at hfk<;>try (cases hfk;done)
  split at hfk<;>try (cases hfk;done)
  rename_i c1 cs1 hc1 hc2;cases hfk;rw [Qsh P hk] at hc1;cases hc1;rw [Qzz l _ ks' cs1 hks hc2];cases k<;>rfl
theorem Qz0 {kt:TypeId} {kd:MK} (h:Q2m P kt=some kd):KLaw P g w kt kd:=by
 unfold Q2m at h;split at h<;>try (cases h;done)
 ·rename_i k hd;cases h;refine Q2x P hd (fun v u hv hr=>?_) fun {v v' u u'} h1 h2 r1 r2=>?_
  ·cases v<;>simp [MK.ok] at hv;rename_i x;cases x<;>simp [MK.ok] at hv;have:=Qpi hr;subst this;exact hv
  ·have ck:∀ v,(MK.int k).ok v=true→(CK.int k).ok v=true∧∀ v',Qhx v v'=Qm8 v v':=by
    intro v h;cases v with
    | d x=>cases x<;>simp [MK.ok] at h<;>exact ⟨by simp [CK.ok,h],fun v'=>by cases v'<;>rfl⟩
    | _=>simp [MK.ok] at h
   grind [Qw4]
 ·rename_i hd;cases h;refine Q2x P hd (fun v u hv hr=>?_) fun {v v' u u'} h1 h2 r1 r2=>?_
  ·cases v<;>simp [MK.ok] at hv;rename_i x;cases x<;>simp [MK.ok] at hv;have:=Q79 hr;subst this;trivial
  ·have ck:∀ v,(MK.str).ok v=true→(CK.str).ok v=true∧∀ v',Qhx v v'=Qm8 v v':=by
    intro v h;cases v with
    | d x=>cases x<;>simp [MK.ok] at h<;>exact ⟨by simp [CK.ok,h],fun v'=>by cases v'<;>rfl⟩
    | _=>simp [MK.ok] at h
   grind [Qw4]
 ·rename_i hd;cases h;refine Q2x P hd (fun v u hv hr=>?_) fun {v v' u u'} h1 h2 r1 r2=>?_
  ·cases v<;>simp [MK.ok] at hv;rename_i x;cases x<;>simp [MK.ok] at hv;have:=Qzs hr;subst this;trivial
  ·have ck:∀ v,(MK.bool).ok v=true→(CK.bool).ok v=true∧∀ v',Qhx v v'=Qm8 v v':=by
    intro v h;cases v with
    | d x=>cases x<;>simp [MK.ok] at h<;>exact ⟨by simp [CK.ok,h],fun v'=>by cases v'<;>rfl⟩
    | _=>simp [MK.ok] at h
   grind [Qw4,bool]
 ·rename_i fs hd;split at h<;>try (cases h;done)
  rename_i he;obtain ⟨codes,hcodes⟩:=Option.isSome_iff_exists.1 he;simp only [Option.map_eq_some_iff] at h;obtain ⟨ks,hks,rfl⟩:=h;have hfk:Qhz P 0 fs.toList=some codes:=by
   grind [Qj7]
  have hcc:codes=ks.map CK.code:=Qzz P fs.toList 0 ks codes hks hfk;refine Q9s P (.inr ⟨_,hd,.inr ⟨_,rfl⟩⟩) (by rw [hcodes,hcc]) fun em cs us ho hr=>?_;show (Instr.checkKey em (9999+1) kt _).run P w=_;unfold Instr.checkKey;simp only [Sem.run_bind,run_underlying hd,Result.andThen_ok];rw [← Array.forIn_toList];refine (congrArg (fun r=>Result.andThen r _) (Qys (g:=g) (em:=em) (n:=9998) (X:=us.toArray) P (fun f u hn hp hck=>?_) fs.toList 0 ks codes cs hks hfk ho fun j c hc=>?_)).trans rfl
  ·simp_all
  ·have hl:=Qh0 hr;have hj:j<cs.length:=(List.getElem?_eq_some_iff.1 hc).1;exact ⟨us[j]'(by omega),by simp,Qq0 hr j c _ hc (by simp)⟩
 ·rename_i n e hd;split at h<;>try (cases h;done)
  rename_i he;obtain ⟨codes,hcodes⟩:=Option.isSome_iff_exists.1 he;simp only [Option.map_eq_some_iff] at h;obtain ⟨k,hk,rfl⟩:=h;unfold Qj7 at hcodes;rw [hd] at hcodes;simp only at hcodes;split at hcodes<;>try (cases hcodes;done)
  rename_i hg;simp only [Option.map_eq_some_iff] at hcodes;obtain ⟨sk,hsk,rfl⟩:=hcodes;obtain ⟨i0,hi⟩:=Option.isSome_iff_exists.1 hg.1;have h1:i0.size=1:=by grind [Go.Program.cellsOf]
  refine Q9s P (.inr ⟨_,hd,.inl ⟨_,_,rfl⟩⟩) ?_ fun em cs us ho hr=>?_
  ·unfold Qj7;rw [hd];simp only [if_pos hg,Qsh P hk,Option.map_some,List.map_replicate];cases k<;>rfl
  ·show (Instr.checkKey em (9999+1) kt _).run P w=_;unfold Instr.checkKey;simp only [Sem.run_bind,run_underlying hd,Result.andThen_ok];simp only [Std.Legacy.Range.forIn_eq_forIn_range',Std.Legacy.Range.size,Nat.sub_zero,Nat.add_one_sub_one,Nat.div_one];refine (congrArg (fun r=>Result.andThen r _) (Qzy (g:=g) (em:=em) (n:=9998) (X:=us.toArray) P hk (fun j u hp hck=>?_) n 0 cs ho fun j c hc=>?_)).trans rfl
   ·simp only [Sem.run_bind,Qh1 P hi,h1,Nat.mul_one,hp,Result.andThen_ok,hck,Sem.run_pure]
   ·have hl:=Qh0 hr;have hj:j<cs.length:=(List.getElem?_eq_some_iff.1 hc).1;exact ⟨us[j]'(by omega),by simp,Qq0 hr j c _ hc (by simp)⟩
theorem Qbdr {v:V} {u:Value} {ℓ:Owner} (hd:v.dat=true) (h:RV g w v ℓ u):RF g w v u:=fun _=>Qtc (Imm.refl _ _) hd h
theorem Q38 {k:Nat} {es:List (V×V×Nat)} {ents:List MapEntry} (h:RM g w k es ents):ents.length=es.length:=by
 induction es generalizing ents with
 | nil=>grind [RM]
 | cons x r ih=>simp only [RM] at h;grind
theorem Q1s {key:V}:∀ {es:List (V×V×Nat)},(∀ x∈es,Qhx key x.1=false)→Qgz key es=none
 | [],_=>rfl
 | (k,v,b)::es,h=>by
  have h1:Qhx key k=false:=h (k,v,b) (by simp);simp [Qgz,h1,Q1s fun x hx=>h x (List.mem_cons_of_mem _ hx)]
theorem Q68 {key:V}:∀ {es:List (V×V×Nat)} {j:Nat} {x:V×V×Nat},es[j]? = some x→Qhx key x.1=true→(∀ i y,i<j→es[i]? = some y→Qhx key y.1=false)→Qgz key es=some (j,x.2.1)
 | [],j,x,h,_,_=>by simp at h
 | (k,v,b)::es,0,x,h,h1,_=>by
  grind [Qgz]
 | (k,v,b)::es,j+1,x,h,h1,h2=>by
  have h3:Qhx key k=false:=h2 0 (k,v,b) (by omega) rfl;have:=Q68 (key:=key) (es:=es) (j:=j) (x:=x) (by simpa using h) h1 fun i y hi hy=>h2 (i+1) y (by omega) (by simpa using hy);simp [Qgz,h3,this]
theorem Qbci {k:Nat}:∀ {es:List (V×V×Nat)} {ents:List MapEntry},RM g w k es ents→∀ (i:Nat) (x:V×V×Nat),es[i]? = some x→∃ e,ents[i]? = some e∧RF g w x.1 e.key∧x.2.1.mv=true∧RV g w x.2.1 (.cell k x.2.2) e.val∧e.born=x.2.2
 | [],_,h,i,x,hx=>by simp at hx
 | y::r,_,h,0,x,hx=>by
  simp only [RM] at h;obtain ⟨e,t,rfl,⟨a1,a2⟩,⟨b1,b2⟩,h3,h4⟩:=h;simp at hx;subst hx;exact ⟨e,rfl,Qbdr a1 a2,b1,b2,h3⟩
 | y::r,_,h,i+1,x,hx=>by
  simp only [RM] at h;obtain ⟨e,t,rfl,_,_,_,h4⟩:=h;simpa using Qbci h4 i x (by simpa using hx)
theorem Qz1 {kt:TypeId} {kd:MK} (hl:KLaw P g w kt kd) {key:V} {u:Value} (hkey:kd.ok key=true) (hu:RF g w key u) {k:Nat} {es:List (V×V×Nat)} {ents:List MapEntry} (hr:RM g w k es ents) (ha:kd.all es=true) :
  (Qgz key es=none∧(Instr.findKey kt u ents).run P w = .ok none w) ∨
  ∃ (j:Nat) (v:V) (e:MapEntry) (x:V×V×Nat),Qgz key es=some (j,v)∧es[j]? = some x∧x.2.1=v∧ents[j]? = some e∧e.key=u∧e.born=x.2.2∧(Instr.findKey kt u ents).run P w = .ok (some (j,e.val)) w∧v.mv=true∧RV g w v (.cell k x.2.2) e.val:=by
 have hlen:=Q38 hr;have hz:((es.map (·.1)).zip ents).map (·.2)=ents:=by
  rw [List.map_snd_zip];simp [hlen]
 have hzi:∀ (i:Nat) (p:V×MapEntry),((es.map (·.1)).zip ents)[i]? = some p→∃ x,es[i]? = some x∧x.1=p.1∧ents[i]? = some p.2∧kd.ok p.1=true∧RF g w p.1 p.2.key:=by
  intro i p hp;rw [List.getElem?_zip_eq_some] at hp;obtain ⟨h1,h2⟩:=hp;rw [List.getElem?_map,Option.map_eq_some_iff] at h1;obtain ⟨x,hx,e1⟩:=h1;obtain ⟨e,h3,h4,_⟩:=Qbci hr i x hx;rw [h2] at h3;cases h3;refine ⟨x,hx,e1,h2,?_,by rw [← e1];exact h4⟩;rw [← e1];exact List.all_eq_true.1 ha x (List.mem_of_getElem? hx)
 have hal:∀ p∈(es.map (·.1)).zip ents,kd.ok p.1=true∧RF g w p.1 p.2.key:=by
  grind [List.getElem?_of_mem]
 have hne:∀ (i:Nat) (x:V×V×Nat),es[i]? = some x→(∀ p,((es.map (·.1)).zip ents)[i]? = some p→p.2.key≠u)→Qhx key x.1=false:=by
  intro i x hx hq;obtain ⟨e,h3,h4,_⟩:=Qbci hr i x hx;have hp:((es.map (·.1)).zip ents)[i]? = some (x.1,e):=by
   grind
  obtain ⟨_,_,_,_,h5,h6⟩:=hzi i _ hp;cases hk:Qhx key x.1 with
  | false=>rfl
  | true=>exact absurd ((hl.same hkey h5 hu h6).1 hk).symm (hq _ hp)
 rcases hl.find _ hkey hu hal with ⟨h1,h2⟩|⟨j,p,h1,h2,h3,h4⟩
 ·grind [Q1s,List.getElem?_of_mem,List.mem_of_getElem?]
 ·rw [hz] at h1;obtain ⟨x,k1,k2,k3,k4,k5⟩:=hzi j p h2;obtain ⟨e,q1,q2,q3,q4,q5⟩:=Qbci hr j x k1;rw [k3] at q1;cases q1;refine .inr ⟨j,x.2.1,p.2,x,Q68 k1 ?_ fun i y hi hy=>hne i y hy fun q hq=>h4 i q hi hq,k1,rfl,k3,h3,q5,h1,q3,q4⟩;rw [k2];exact (hl.same hkey k4 hu k5).2 h3.symm
theorem Q9t {vs:List V} {us:List Value} (h:RFs g w vs us):RF g w (.tup vs) (.tuple us.toArray):=by
 intro ℓ;simp only [RV];exact ⟨us,rfl,(Qdb _ _ _ _).2 ⟨Qh0 h,fun i c u hc hu=>Qq0 h i c u hc hu _⟩⟩
theorem Qw5 {v:V} {u:Value} (h:RF g w v u):RF g w (Qvk v) u:=by
 cases v<;>try exact h
 rename_i sz;have:=h .free;simp only [RV] at this;obtain ⟨a,rfl⟩:=this;rw [Qvk,RF_d];simp [RD]
theorem Q39 {t:TypeId} {z:V} (h:Q6v P t=some z):∃ zv,(zeroValue t).run P w = .ok zv w∧RF g w z zv:=by
 unfold Q6v at h;split at h<;>try (cases h;done)
 ·rename_i cs arr hz hi;cases h;obtain ⟨i,zv,h1,h2,h3,_⟩:=Qkq P hz;rw [h1] at hi;simp only [Option.bind_some] at hi;rw [h2] at hi;cases hi;refine ⟨_,Qse P h1 h2 w,fun ℓ=>?_⟩;have hc:=h3 g w;simp only [RV];refine ⟨arr.toList,by simp,(Qdb _ _ _ _).2 ⟨by rw [List.length_map];exact hc.len,fun j c u hj hu=>?_⟩,hc.one⟩;rw [List.getElem?_map,Option.map_eq_some_iff] at hj;obtain ⟨c',hj',rfl⟩:=hj;exact Qw5 (hc.rf j c' u hj' hu) _
 ·rename_i c zv hna hz hi;cases h;obtain ⟨i,zv',h1,h2,h3,_⟩:=Qkq P hz;rw [h1] at hi;simp only [Option.bind_some] at hi;rw [h2] at hi;cases hi;refine ⟨_,Qse P h1 h2 w,?_⟩;have hc:=h3 g w;have hcells:zv.cells.toList=[zv]:=by
   grind [absurd,Go.Value.cells]
  rw [hcells] at hc;exact Qw5 (hc.rf 0 _ _ rfl rfl)
theorem Qpk {t:TypeId} {kt:TypeId} {kd:MK} {z:V} (h:Qkp P t=some (kt,kd,z)):∃ e,P.underlying t=some (.map kt e)∧Q2m P kt=some kd∧Q6v P e=some z∧z.dat=true:=by
 unfold Qkp at h
 grind
theorem Q51 {k:Nat} {u:Value} (h:RF g w (.mp k) u):u = .map (some (g.box k)):=by
 have:=h .free;simpa [RV] using this
theorem Qbeo (t ty:TypeId) {k e:TypeId} (ht:P.underlying t=some (.map k e)) {M:Mem} {nb:Nat} (hM:MR g w M nb) {x v:V} {u:Value} {n0 κ:Nat} {M' : Mem} (hx:RF g w x u) (hs:Qk n0 κ .lenm [x] M=some (v,M')) :
  M'=M∧∃ val,(Builtin.len_ #[t] ty #[u]).run P w = .ok val w∧RF g w v val:=by
 obtain ⟨rfl,⟨b,es,c,hxs,hMk,rfl⟩|⟨es,c,hxs,rfl⟩⟩:=Q2u hs
 ·cases hxs;have hu:=Q51 hx;subst hu;obtain ⟨_,_,ents,hh,hr⟩:=hM.box b _ hMk;refine ⟨rfl,goInt es.length,?_,by rw [RF_d];simp [RD,goInt]⟩;simp [Builtin.len_,run_underlying ht,MapKept.run_getObj_map hh,Result.andThen,Q38 hr]
 ·cases hxs;rw [RF_d] at hx;simp only [RD] at hx;obtain ⟨b,rfl,_,hh⟩:=hx;refine ⟨rfl,goInt es.length,?_,by rw [RF_d];simp [RD,goInt]⟩;simp [Builtin.len_,run_underlying ht,MapKept.run_getObj_map (Q2o hh),Result.andThen]
theorem Q9u {g:G} {w:World} {ℓ:Owner} {u:Value} (h:(Qwu u).dat1=true):RV g w (Qwu u) ℓ u∧u.oneCell'=true:=by
 cases u<;>simp [Qwu,V.dat1] at h<;>exact ⟨by simp [Qwu,RV,RD],rfl⟩
theorem Q1t {g:G} {w:World} {ℓ:Owner}:∀ {us:List Value} {i:Nat},(us.map Qwu).all V.dat1=true→RVs g w (us.map Qwu) ℓ i us∧∀ u∈us,u.oneCell'=true
 | [],_,_=>by simp [RVs]
 | u::us,i,h=>by
  simp only [List.map_cons,List.all_cons,Bool.and_eq_true] at h;obtain ⟨h1,h2⟩:=Q1t (g:=g) (w:=w) (ℓ:=ℓ) (us:=us) (i:=i+1) h.2;obtain ⟨k1,k2⟩:=Q9u (g:=g) (w:=w) (ℓ:=ℓ.sub i) h.1;refine ⟨⟨u,us,rfl,k1,h1⟩,fun x hx=>?_⟩
  grind
theorem Q69 {g:G} {w:World} {ℓ:Owner} {u:Value} (h:(Q3t u).dat=true):RV g w (Q3t u) ℓ u:=by
 cases u with
 | agg vs =>
  obtain ⟨h1,h2⟩:=Q1t (g:=g) (w:=w) (ℓ:=ℓ) (us:=vs.toList) (i:=0) h
  grind [Q3t,RV]
 | _=>grind [Q3t,Qwu,V.dat,RV,RD]
theorem Qbfw {c:CK} {v:V} (h:c.ok v=true):v.dat1=true:=by
 cases v with
 | d x=>rfl
 | _=>cases c<;>simp [CK.ok] at h
theorem Q7a:∀ {ks:List CK} {cs:List V},okCs ks cs=true→cs.all V.dat1=true
 | [],[],_=>rfl
 | k::ks,c::cs,h=>by simp only [okCs,Bool.and_eq_true] at h;simp [Qbfw h.1,Q7a h.2]
 | [],_::_,h=>by simp [okCs] at h
 | _::_,[],h=>by simp [okCs] at h
theorem Q9v {kd:MK} {v:V} (h:kd.ok v=true):v.dat=true:=by
 cases v with
 | d x=>rfl
 | agg cs =>
  cases kd<;>simp [MK.ok] at h;exact Q7a h
 | _=>cases kd<;>simp [MK.ok] at h
theorem Q9w {g:G} {w:World} {kd:MK} {k:Nat}:∀ {ents:List MapEntry},kd.all (ents.map entV)=true→((ents.map entV).all fun e=>e.2.1.dat)=true→RM g w k (ents.map entV) ents
 | [],_,_=>by simp [RM]
 | e::ents,h1,h2=>by
  simp only [MK.all,List.map_cons,List.all_cons,Bool.and_eq_true] at h1 h2;simp only [List.map_cons,RM];exact ⟨e,ents,rfl,⟨Q9v h1.1,Q69 (Q9v h1.1)⟩,⟨Qwx h2.1,Q69 h2.1⟩,rfl,Q9w h1.2 h2.2⟩
theorem Q9x (t:TypeId) {kt:TypeId} {kd:MK} {z:V} (hmk:Qkp P t=some (kt,kd,z)) (c:Bool) {M:Mem} {nb:Nat} (hM:MR g w M nb) {x y v:V} {u uk:Value} {n0 κ:Nat} {M' : Mem}
  (hx:RF g w x u) (hy:RF g w y uk) (hs:Qk n0 κ (.lookup kd c z) [x,y] M=some (v,M')) :
  M'=M∧∃ val,(Instr.lookup t u uk c).run P w = .ok val w∧RF g w v val:=by
 obtain ⟨rfl,b,kk,es,ents,cl,rfl,hh,hr,hk1,hk2,hres⟩ : M'=M∧∃ b kk es ents cl,u = .map (some b)∧w.heap[b]? = some (.map (List.toArray ents) cl)∧RM g w kk es ents∧Qbcb kd c z y v es:=by
  obtain ⟨rfl,⟨b,key,es,cl,hxs,hMk,h⟩|⟨key,ents,cl,hxs,h0,h⟩⟩:=Qx1 hs
  ·cases hxs;obtain ⟨_,_,ents,hh,hr⟩:=hM.box b _ hMk;exact ⟨rfl,_,_,es,ents,cl,Q51 hx,hh,hr,h⟩
  ·cases hxs;rw [RF_d] at hx;simp only [RD] at hx;obtain ⟨b,rfl,_,hh⟩:=hx;exact ⟨rfl,b,0,_,ents,cl,rfl,Q2o hh,Q9w h.2.1 h0,h⟩
 obtain ⟨et,ht,hkk,hz,hzd⟩:=Qpk P hmk;have hlaw:=Qz0 (g:=g) (w:=w) P hkk;obtain ⟨zv,hzr,hzf⟩:=Q39 (g:=g) (w:=w) P hz;refine ⟨rfl,?_⟩;have hck:∀ em,(Instr.checkKey em 10000 kt uk).run P w = .ok () w:=fun em=>hlaw.check em hk1 hy;rcases Qz1 P hlaw hk1 hy hr hk2 with ⟨f1,f2⟩|⟨j,v',e,x,f1,f2,f3,f4,f5,f6,f7,f8,f9⟩
 ·have hfk:=f2;rcases hres with ⟨i,uu,h1,_,_⟩|⟨h1,h2,rfl⟩
  ·rw [f1] at h1;cases h1
  ·refine ⟨if c then .tuple #[zv,.bool false] else zv,?_,?_⟩
   ·simp [Instr.lookup,run_underlying ht,MapKept.run_getObj_map hh,hck,hfk,hzr,Result.andThen]
   ·cases c
    ·exact hzf
    ·exact Q9t (us:=[zv,.bool false]) ⟨_,_,rfl,hzf,_,_,rfl,by rw [RF_d];simp [RD],rfl⟩
 ·have hfk:=f7;rcases hres with ⟨i,uu,h1,h2,rfl⟩|⟨h1,h2,rfl⟩
  ·rw [f1] at h1;cases h1;refine ⟨if c then .tuple #[e.val,.bool true] else e.val,?_,?_⟩
   ·simp [Instr.lookup,run_underlying ht,MapKept.run_getObj_map hh,hck,hfk,Result.andThen]
   ·cases c
    ·exact fun ℓ=>Qh8 _ _ ℓ _ f9
    ·exact Q9t (us:=[e.val,.bool true]) ⟨_,_,rfl,fun ℓ=>Qh8 _ _ ℓ _ f9,_,_,rfl,by rw [RF_d];simp [RD],rfl⟩
  grind
end
end Go.Abs
end
section
namespace Go.Abs
open Go Go.MapKept
section
variable (P:Program) {g:G} {w:World} {n0 nt:Nat} {g0:G} {w0:World} {σ:St} {a:Act}
theorem SR.allocm (h:SR n0 nt g0 w0 σ a w g) {dst:Option Nat} {κ:Nat} (hd:∀ d,dst=some d→d<nt) (hκ:n0≤κ) (hκ' : κ<σ.nb) (hfree:σ.M κ=none) :
  ∃ g',SR n0 nt g0 w0 ⟨Qbf σ.s dst (.mp κ),σ.M.put κ (.mp [] 0),σ.nb⟩ (a.put dst (.map (some w.heap.size))) (w.alloc (.map #[] 0)) g':=by
 let g' : G:={ box:=fun k=>if k=κ then w.heap.size else g.box k,imm:=g.imm,own:=fun b=>if b=w.heap.size then .box κ else g.own b };have hkept:Kept g w g' (w.alloc (.map #[] 0)) (There σ.M) (fun _=>True):=by
  refine ⟨⟨fun _ _ hb=>hb,fun b o hb=>?_⟩,fun k hk=>?_,fun b _ hb=>⟨?_,?_,fun _=>Iff.rfl⟩⟩
  ·exact Qgi (RowKit.Below.heap_alloc w _ b (h.mem.imm b o hb).1)
  ·have:k≠κ:=by rintro rfl;simp [There,hfree] at hk
   simp [g',this]
  all_goals grind [Go.RowKit.Below.heap_alloc]
 have hslots:∀ t,RV g' (w.alloc (.map #[] 0)) (σ.s t) (.slot t []) (a.tmps.getD t undef):=fun t =>
  Qfl hkept (fun _ _ h=>h) trivial _ _ _ trivial (h.onS t) (h.slots t)
 have himm:∀ b o,g'.imm b o→b<(w.alloc (.map #[] 0)).heap.size∧∀ k,g'.own b ≠ .box k:=by
  intro b o hb;obtain ⟨h1,h2⟩:=h.mem.imm b o hb
  grind [Go.World.size_alloc]
 have hm:=h.mem.kept hkept h.mOn (fun _ _ h=>h) trivial (fun _ _=>trivial) himm;have hmon:∀ k,There σ.M k→There (σ.M.put κ (.mp [] 0)) k:=fun k hk=>hk.put;refine ⟨g',h.step ?_ ?_ (Qgk (fun d hd'=>by rw [h.size];exact hd d hd') (fun t _=>hslots t) (fun d _=>by simp [RV,g'])) (Qhs _ _ _) (Qe2 _ _ _) (Qgl (fun t=>Qgj hmon _ (h.onS t)) There.self) ?_ ?_⟩
 ·refine ⟨fun k b hk=>?_,himm⟩;simp only [Mem.put] at hk;split at hk
  ·rename_i heq;subst heq;cases hk;refine ⟨hκ',by simp [g'],[],?_,rfl⟩;simp only [g',if_true];exact (heap_alloc w _).1
  ·exact hm.box k b hk
 ·exact ⟨rfl,rfl,rfl,by simp,hkept.imm,fun k hk=>(by
   grind),fun b hb _=>hkept.own b trivial hb⟩
 ·intro k cs' hk;simp only [Mem.put] at hk;split at hk
  ·cases hk
  ·exact ons_mono hmon _ (h.mOn k cs' hk)
 ·intro k cs' hk hlt;simp only [Mem.put] at hk;rw [if_neg (by omega)] at hk;exact h.out k cs' hk hlt
theorem Qbcj (h:SR n0 nt g0 w0 σ a w g) {dst:Option Nat} (hd:∀ d,dst=some d→d<nt) (t:TypeId) {k e:TypeId} (ht:P.underlying t=some (.map k e)) {xs:List V} {us:List Value} (hx:RFs g w xs us) {v:V} {κ:Nat} {M' : Mem} (hκ:n0≤κ) (hκ' : κ<σ.nb)
  (r:Option Value) (hr:us=r.toList) (hs:Qk n0 κ .mkmap xs σ.M=some (v,M')) :
  ∃ val w' g',(Instr.makeMap t r).run P w = .ok val w'∧SR n0 nt g0 w0 ⟨Qbf σ.s dst v,M',σ.nb⟩ (a.put dst val) w' g':=by
 obtain ⟨hxs,hfree,rfl,rfl⟩:=Q31 hs;obtain ⟨g',hsr⟩:=h.allocm (dst:=dst) hd hκ hκ' hfree;refine ⟨_,_,g',?_,hsr⟩;rcases hxs with rfl|⟨q,n,rfl⟩
 ·simp_all [RFs,Go.Instr.makeMap,Go.Result.andThen]
 ·obtain ⟨u,us',rfl,h1,h2⟩:=hx;simp only [RFs] at h2;subst h2;have:=Qpi h1;subst this;cases r with
  | none=>simp at hr
  | some r =>
   simp at hr;subst hr;simp [Instr.makeMap,run_underlying ht,asInt,asIntOf,Result.andThen]
theorem SR.mapput (h:SR n0 nt g0 w0 σ a w g) {k:Nat} {es es' : List (V×V×Nat)} {cl cl' : Nat} {ents ents' : List MapEntry} (hk:σ.M k=some (.mp es cl)) (hh:w.heap[g.box k]? = some (.map ents.toArray cl)) (hr:RM g w k es' ents')
  {dst:Option Nat} (hd:∀ d,dst=some d→d<nt) {v:V} {val:Value} (hv:∀ w',Imm g.imm g.imm w w'→RF g w' v val) (hvon:∀ p,v.on p) :
  SR n0 nt g0 w0 ⟨Qbf σ.s dst v,σ.M.put k (.mp es' cl'),σ.nb⟩ (a.put dst val) { w with heap:=w.heap.setIfInBounds (g.box k) (.map ents'.toArray cl') } g:=by
 obtain ⟨hltnb,hb,_⟩:=h.mem.box k _ hk;obtain ⟨hs1,hs2⟩:=heap_set (o':=.map ents'.toArray cl') hh;have hkept:Kept g w g { w with heap:=w.heap.setIfInBounds (g.box k) (.map ents'.toArray cl') } (There σ.M) (fun o=>o ≠ .box k):=by
  refine ⟨⟨fun _ _ h=>h,fun b o hbo=>?_⟩,fun _ _=>rfl,fun b hbk hlt=>⟨rfl,?_,fun _=>Iff.rfl⟩⟩
  ·have:b≠g.box k:=by rintro rfl;exact (h.mem.imm _ _ hbo).2 k hb
   exact Qgi (hs2 b this)
  grind
 have hslots:∀ t,RV g { w with heap:=w.heap.setIfInBounds (g.box k) (.map ents'.toArray cl') } (σ.s t) (.slot t []) (a.tmps.getD t undef):=fun t =>
  Qfl hkept (fun _ i h=>Qmm h) (by simp) _ _ _ (by simp) (h.onS t) (h.slots t)
 have hthere:∀ j,There σ.M j→There (σ.M.put k (.mp es' cl')) j:=fun j hj=>hj.put;refine h.step ?_ ?_ (Qgk (fun d hd'=>by rw [h.size];exact hd d hd') (fun t _=>hslots t) (fun d _=>hv _ hkept.imm _)) (Qhs _ _ _) (Qe2 _ _ _) (Qgl (fun t=>Qgj hthere _ (h.onS t)) (hvon _)) ?_ ?_
 ·refine ⟨fun j b hj=>?_,fun b o hbo=>?_⟩
  ·simp only [Mem.put] at hj;split at hj
   ·rename_i he;subst he;cases hj;exact ⟨hltnb,hb,ents',hs1,Qn6 (g:=g) (g':=g) hkept (fun _=>by simp) hr⟩
   ·rename_i hne;obtain ⟨k1,k2,k3⟩:=h.mem.box j b hj;have hbj:g.box j≠g.box k:=by
     grind
    refine ⟨k1,k2,?_⟩;cases b with
    | mp es2 c2 =>
     obtain ⟨ents2,hh',hr'⟩:=k3;exact ⟨ents2,(hs2 _ hbj).trans hh',Qn6 (g:=g) (g':=g) hkept (fun _=>by simp) hr'⟩
    | cells cs' =>
     obtain ⟨vs,e',hh',hr',ho'⟩:=k3;refine ⟨vs,e',(hs2 _ hbj).trans hh',RVs_mono hkept (fun _ i h=>Qmm h) (by simp) cs' (.box j) 0 vs ?_ (h.mOn j cs' hj) hr',ho'⟩
     grind
  ·obtain ⟨h3,h4⟩:=h.mem.imm b o hbo
   grind
 ·refine ⟨rfl,rfl,rfl,by simp,hkept.imm,fun _ _=>rfl,fun b hb' ho=>?_⟩;have hne:g.own b ≠ .box k:=by intro e;rw [e] at ho;exact ho
  grind
 ·intro j cs' hj;simp only [Mem.put] at hj;split at hj
  ·cases hj
  ·exact ons_mono hthere _ (h.mOn j cs' hj)
 ·intro j cs' hj hlt;simp only [Mem.put] at hj;split at hj
  ·cases hj
  ·exact h.out j cs' hj hlt
theorem Qz2 {kb:Nat} {es:List (V×V×Nat)} {ents:List MapEntry} {k v:V} {uk uv:Value} {b:Nat} (hr:RM g w kb es ents) (hk:k.dat=true) (hk' : RV g w k .ext uk) (hv:v.mv=true) (hv' : RV g w v (.cell kb b) uv) :
  RM g w kb (es++[(k,v,b)]) (ents++[{ key:=uk,val:=uv,born:=b }]):=by
 induction es generalizing ents with
 | nil=>simp only [RM] at hr;subst hr;exact ⟨_,[],rfl,⟨hk,hk'⟩,⟨hv,hv'⟩,rfl,rfl⟩
 | cons x r ih =>
  simp only [RM] at hr;obtain ⟨e,t,rfl,h1,h2,h3,h4⟩:=hr;exact ⟨e,t++[_],rfl,h1,h2,h3,ih h4⟩
theorem Q4a {kb:Nat} {k v:V} {uk uv:Value} (hk:k.dat=true) (hk' : RV g w k .ext uk) (hv:v.mv=true):∀ {es:List (V×V×Nat)} {ents:List MapEntry} (i:Nat),(∀ x,es[i]? = some x→RV g w v (.cell kb x.2.2) uv)→RM g w kb es ents →
  RM g w kb (modM k v i es) (ents.modify i fun e=>{ e with key:=uk,val:=uv })
 | [],_,i,_,hr=>by grind [RM,modM]
 | x::r,_,0,hv',hr=>by
  simp only [RM] at hr;obtain ⟨e,t,rfl,h1,h2,h3,h4⟩:=hr;exact ⟨_,t,rfl,⟨hk,hk'⟩,⟨hv,hv' x rfl⟩,h3,h4⟩
 | x::r,_,i+1,hv',hr=>by
  simp only [RM] at hr;obtain ⟨e,t,rfl,h1,h2,h3,h4⟩:=hr;exact ⟨e,_,rfl,h1,h2,h3,Q4a hk hk' hv i (fun y hy=>hv' y (by simpa using hy)) h4⟩
theorem Q7b:∀ {ks:List CK} {cs:List V},okCs ks cs=true→cs.all V.dat1=true
 | [],[],_=>rfl
 | k::ks,c::cs,h=>by
  simp only [okCs,Bool.and_eq_true] at h;have:c.dat1=true:=by cases c<;>first|rfl|(cases k<;>simp [CK.ok] at h)
  simp [this,Q7b h.2]
 | [],_::_,h=>by simp [okCs] at h
 | _::_,[],h=>by simp [okCs] at h
theorem Qz3 {kd:MK} {v:V} (h:kd.ok v=true):v.dat=true:=by
 cases v<;>cases kd<;>simp_all [MK.ok,V.dat];exact fun x hx=>List.all_eq_true.1 (Q7b h) x hx
theorem Qnd (l:List MapEntry) (i:Nat) (f:MapEntry→MapEntry):l.toArray.modify i f=(l.modify i f).toArray :=by grind
theorem Qz4 {v:V} (h:v.dat=true):(Qvk v).dat=true:=by
 cases v<;>first|exact h|rfl
theorem Q4b (h:SR n0 nt g0 w0 σ a w g) {dst:Option Nat} (hd:∀ d,dst=some d→d<nt) (t:TypeId) {kt:TypeId} {kd:MK} {z:V} (hmk:Qkp P t=some (kt,kd,z)) {x y u v:V} {um uk uv:Value} {κ:Nat} {M' : Mem}
  (hx:RF g w x um) (hy:RF g w y uk) (hu:RF g w u uv) (hs:Qk n0 κ (.mapset kd) [x,y,u] σ.M=some (v,M')) :
  ∃ w',(Instr.mapUpdate t um uk uv).run P w = .ok () w'∧SR n0 nt g0 w0 ⟨Qbf σ.s dst v,M',σ.nb⟩ (a.put dst undef) w' g:=by
 obtain ⟨b,key,u',es,cl,hxs,hMk,hk1,hk2,hdat,rfl,rfl⟩:=Q1i hs;cases hxs;have hum:=Q51 hx;subst hum;obtain ⟨et,ht,hkk,hz,hzd⟩:=Qpk P hmk;obtain ⟨_,_,ents,hh,hr⟩:=h.mem.box b _ hMk;have hlaw:=Qz0 (g:=g) (w:=w) P hkk;have hck:∀ em,(Instr.checkKey em 10000 kt uk).run P w = .ok () w:=fun em=>hlaw.check em hk1 hy;have hst:=hlaw.stays hk1 hy;rcases Qz1 P hlaw hk1 hy hr hk2 with ⟨f1,f2⟩|⟨j,v',e,x,f1,f2,f3,f4,f5,f6,f7,f8,f9⟩
 ·have hfk:=f2;rw [f1];refine ⟨_,?_,h.mapput (cl':=cl+1) hMk hh (Qz2 hr (Qz3 hk1) (hy _) (Qwx (Qz4 hdat)) (Qw5 hu _)) hd (fun _ _ _=>by simp [RV]) (fun p=>by simp [V.on])⟩;simp [Instr.mapUpdate,run_underlying ht,MapKept.run_getObj_map hh,hck,hfk,MapKept.run_setObj_map _ hh,Result.andThen]
 ·have hfk:=f7;rw [f1];refine ⟨_,?_,h.mapput (cl':=cl) hMk hh (Q4a (Qz3 hk1) (hy _) (Qwx (Qz4 hdat)) j (fun _ _=>Qw5 hu _) hr) hd (fun _ _ _=>by simp [RV]) (fun p=>by simp [V.on])⟩;have hj:ents[j]? = some e:=f4;simp [Instr.mapUpdate,run_underlying ht,MapKept.run_getObj_map hh,hck,hfk,hj,f5,hst,MapKept.run_setObj_map _ hh,Result.andThen,Qnd]
theorem Q52 (h:SR n0 nt g0 w0 σ a w g) {dst:Option Nat} (hd:∀ d,dst=some d→d<nt) (t:TypeId) {kt:TypeId} {kd:MK} {z:V} (hmk:Qkp P t=some (kt,kd,z)) {x y v:V} {um uk:Value} {κ:Nat} {M' : Mem}
  (hx:RF g w x um) (hy:RF g w y uk) (hs:Qk n0 κ (.mapentry kd z) [x,y] σ.M=some (v,M')) :
  ∃ val w',(Instr.mapEntry t um uk).run P w = .ok val w'∧SR n0 nt g0 w0 ⟨Qbf σ.s dst v,M',σ.nb⟩ (a.put dst val) w' g:=by
 obtain ⟨b,key,es,cl,hxs,hMk,hk1,hk2,hzd,hres⟩:=Qyr hs;cases hxs;have hum:=Q51 hx;subst hum;obtain ⟨et,ht,hkk,hz,_⟩:=Qpk P hmk;obtain ⟨_,_,ents,hh,hr⟩:=h.mem.box b _ hMk;have hlaw:=Qz0 (g:=g) (w:=w) P hkk;obtain ⟨zv,hzr,hzf⟩:=Q39 (g:=g) (w:=w) P hz;have hck:∀ em,(Instr.checkKey em 10000 kt uk).run P w = .ok () w:=fun em=>hlaw.check em hk1 hy;have hst:=hlaw.stays hk1 hy;have htup:∀ {v:V} {val:Value} (c:Nat),v.dat=true→RF g w v val→∀ w',Imm g.imm g.imm w w'→RF g w' (.tup [v,.d (.int .i64 c)]) (.tuple #[val,goInt c]):=fun {v val} c hv hf w' him =>
  Q9t (us:=[val,goInt c]) ⟨_,_,rfl,fun _=>Qtc (g':=g) him hv (hf .ext),_,_,rfl,by rw [RF_d];simp [RD,goInt],rfl⟩
 have hton:∀ {v:V} (c:Nat),v.dat=true→∀ p,(V.tup [v,.d (.int .i64 c)]).on p:=fun {v} c hv p=>⟨Qt2 hv,trivial,trivial⟩;rcases Qz1 P hlaw hk1 hy hr hk2 with ⟨f1,f2⟩|⟨j,v',e,x,f1,f2,f3,f4,f5,f6,f7,f8,f9⟩
 ·have hfk:=f2;rcases hres with ⟨i,u,e,h1,_⟩|⟨h1,rfl,rfl⟩
  ·rw [f1] at h1;cases h1
  ·refine ⟨.tuple #[zv,goInt cl],_,?_,h.mapput (cl':=cl+1) hMk hh (Qz2 hr (Qz3 hk1) (hy _) (Qwx hzd) (hzf _)) hd (htup cl hzd hzf) (hton cl hzd)⟩;simp [Instr.mapEntry,run_underlying ht,MapKept.run_getObj_map hh,hck,hfk,hzr,MapKept.run_setObj_map _ hh,Result.andThen]
 ·have hfk:=f7;rcases hres with ⟨i,u,e2,h1,h2,h3,rfl,rfl⟩|⟨h1,_⟩
  ·rw [f1] at h1;cases h1;rw [f2] at h3;cases h3;have hj:ents[j]? = some e:=f4;refine ⟨.tuple #[e.val,goInt e.born],{ w with heap:=w.heap.setIfInBounds (g.box b) (.map (ents.modify j fun q=>{ q with key:=uk,val:=e.val }).toArray cl) },?_,?_⟩
   rotate_left
   ·have hmod:=Q4a (Qz3 hk1) (hy .ext) f8 j (fun y hy'=>by rw [f2] at hy';cases hy';exact f9) hr;have:=h.mapput (cl':=cl) hMk hh hmod hd (htup x.2.2 h2 (Qbdr h2 f9)) (hton _ h2)
    grind
   ·have hme:ents.modify j (fun q=>{ q with key:=uk })=ents.modify j (fun q=>{ q with key:=uk,val:=e.val }):=by
     apply List.ext_getElem?
     grind
    simp [Instr.mapEntry,run_underlying ht,MapKept.run_getObj_map hh,hck,hfk,hj,f5,hst,MapKept.run_setObj_map _ hh,Result.andThen,Qnd,hme]
  grind
theorem Q9y {b:Int} {kb:Nat}:∀ {es:List (V×V×Nat)} {ents:List MapEntry},RM g w kb es ents→ents.findIdx? (fun e=>(e.born:Int)==b)=Q2k b es
 | [],_,h=>by simp only [RM] at h;subst h;rfl
 | x::r,_,h=>by
  simp only [RM] at h;obtain ⟨e,t,rfl,_,_,h3,h4⟩:=h;obtain ⟨xk,xv,xb⟩:=x;simp only at h3;subst h3;rw [List.findIdx?_cons,Q9y h4];simp only [Q2k]
theorem Qbds {kb:Nat}:∀ {es:List (V×V×Nat)} {ents:List MapEntry},RM g w kb es ents→∀ (i:Nat) (x:V×V×Nat),es[i]? = some x→∃ e,ents[i]? = some e∧(x.1.dat=true∧RV g w x.1 .ext e.key)∧e.born=x.2.2
 | [],_,h,i,x,hx=>by simp at hx
 | y::r,_,h,0,x,hx=>by
  simp only [RM] at h
  grind
 | y::r,_,h,i+1,x,hx=>by
  simp only [RM] at h;obtain ⟨e,t,rfl,_,_,_,h4⟩:=h;simpa using Qbds h4 i x (by simpa using hx)
theorem Q2y (h:SR n0 nt g0 w0 σ a w g) {dst:Option Nat} (hd:∀ d,dst=some d→d<nt) (t:TypeId) {x y u v:V} {um uk uv:Value} {κ:Nat} {M' : Mem}
  (hx:RF g w x um) (hy:RF g w y uk) (hu:RF g w u uv) (hs:Qk n0 κ .entrystore [x,y,u] σ.M=some (v,M')) :
  ∃ w',(Instr.entryStore t um uk uv).run P w = .ok () w'∧SR n0 nt g0 w0 ⟨Qbf σ.s dst v,M',σ.nb⟩ (a.put dst undef) w' g:=by
 obtain ⟨b,bn,u',es,cl,i,e0,hxs,hMk,hdat,hbn,he0,rfl,rfl⟩:=Qvt hs;cases hxs;have hum:=Q51 hx;subst hum;have huk:=Qpi hy;subst huk;obtain ⟨_,_,ents,hh,hr⟩:=h.mem.box b _ hMk;obtain ⟨e,k1,⟨k2,k3⟩,k4⟩:=Qbds hr i _ he0;have hidx:ents.findIdx? (fun e=>(e.born:Int)==bn)=some i:=by rw [Q9y hr,hbn]
 refine ⟨_,?_,h.mapput (cl':=cl) hMk hh (Q4a (uk:=e.key) k2 k3 (Qwx (Qz4 hdat)) i (fun _ _=>Qw5 hu _) hr) hd (fun _ _ _=>by simp [RV]) (fun p=>by simp [V.on])⟩;have hme:ents.modify i (fun q=>{ q with val:=uv })=ents.modify i (fun q=>{ q with key:=e.key,val:=uv }):=by
  apply List.ext_getElem?
  grind
 simp [Instr.entryStore,MapKept.run_getObj_map hh,asInt,asIntOf,hidx,MapKept.run_setObj_map _ hh,Result.andThen,Qnd,hme]
end
end Go.Abs
end
section
namespace Go.Abs
open Go Go.MapKept
section
variable (P:Program) {g:G} {w:World} {n0 nt:Nat} {g0:G} {w0:World} {σ:St} {a:Act}
theorem SR.mapre (h:SR n0 nt g0 w0 σ a w g) {k:Nat} {es es' : List (V×V×Nat)} {cl cl' : Nat} {ents' : List MapEntry} (hk:σ.M k=some (.mp es cl)) {x y:Owner} (hx:∀ j,x ≠ .box j) (hxp:¬ Prot x) (hxe:x ≠ .ext) (hy:∀ j,y ≠ .box j)
  (hsub:∀ o i,o ≠ .box k→o≠x→o.sub i≠x) (hcell:∀ j i,j≠k→x ≠ .cell j i) {w' : World} (hoff:∀ b,b≠g.box k→w'.heap[b]? = w.heap[b]?) (hat:w'.heap[g.box k]? = some (.map ents'.toArray cl'))
  (hw:w'.os=w.os∧w'.tape=w.tape∧w'.output=w.output∧w'.heap.size=w.heap.size) (hr:RM (g.re (ex x y)) w' k es' ents')
  {s' : Sl} {a' : Act} (hs:∀ t,RV (g.re (ex x y)) w' (s' t) (.slot t []) (a'.tmps.getD t undef)) (hsz:a'.tmps.size=a.tmps.size) (hd:a'.defers=a.defers) (hons:∀ t,(s' t).on (There σ.M)) :
  SR n0 nt g0 w0 ⟨s',σ.M.put k (.mp es' cl'),σ.nb⟩ a' w' (g.re (ex x y)):=by
 obtain ⟨hltnb,hb,_⟩:=h.mem.box k _ hk;have hbx:∀ j,ex x y (.box j) = .box j:=fun j=>by unfold ex;grind
 have hkept:Kept g w (g.re (ex x y)) w' (There σ.M) (fun o=>o ≠ .box k∧o≠x):=by
  refine ⟨⟨fun _ _ h=>h,fun b o hbo=>?_⟩,fun _ _=>rfl,fun b hbk hlt=>⟨by simp [G.re,ex,hbk.2],?_,fun _=>Iff.rfl⟩⟩
  ·have:b≠g.box k:=by rintro rfl;exact (h.mem.imm _ _ hbo).2 k hb
   exact Qgi (hoff b this)
  grind
 have hks:∀ o i,o ≠ .box k∧o≠x→o.sub i ≠ .box k∧o.sub i≠x:=fun o i ho=>⟨Qmm ho.1,hsub o i ho.1 ho.2⟩;have hke:(Owner.ext ≠ .box k∧Owner.ext≠x):=⟨by simp,fun e=>hxe e.symm⟩;have hthere:∀ j,There σ.M j→There (σ.M.put k (.mp es' cl')) j:=fun j hj=>hj.put;refine h.step ?_ ?_ hs hsz hd (fun t=>Qgj hthere _ (hons t)) ?_ ?_
 ·refine ⟨fun j b hj=>?_,fun b o hbo=>?_⟩
  ·simp only [Mem.put] at hj;split at hj
   ·rename_i he;subst he;cases hj;exact ⟨hltnb,by show ex x y (g.own (g.box j))=_;rw [hb,hbx],ents',hat,hr⟩
   ·rename_i hne;obtain ⟨k1,k2,k3⟩:=h.mem.box j b hj;have hbj:g.box j≠g.box k:=by
     grind
    refine ⟨k1,by show ex x y (g.own (g.box j))=_;rw [k2,hbx],?_⟩;cases b with
    | mp es2 c2 =>
     obtain ⟨ents2,hh',hr'⟩:=k3;exact ⟨ents2,(hoff _ hbj).trans hh',Qn6 (g:=g) hkept (fun i=>⟨by simp,fun e=>hcell j i hne e.symm⟩) hr'⟩
    | cells cs' =>
     obtain ⟨vs,e',hh',hr',ho'⟩:=k3;refine ⟨vs,e',(hoff _ hbj).trans hh',RVs_mono hkept hks hke cs' (.box j) 0 vs ⟨?_,fun e=>hx j e.symm⟩ (h.mOn j cs' hj) hr',ho'⟩
     grind
  ·obtain ⟨h3,h4⟩:=h.mem.imm b o hbo
   grind [G.re,ex]
 ·refine ⟨hw.1,hw.2.1,hw.2.2.1,by grind,hkept.imm,fun _ _=>rfl,fun b hb' ho=>?_⟩;have hne:g.own b ≠ .box k:=by intro e;rw [e] at ho;exact ho
  have hne2:g.own b≠x:=by grind
  exact ⟨by simp [G.re,ex,hne2],(hkept.own b ⟨hne,hne2⟩ hb').2.1,fun _=>Iff.rfl⟩
 ·intro j cs' hj;simp only [Mem.put] at hj;split at hj
  ·cases hj
  ·exact ons_mono hthere _ (h.mOn j cs' hj)
 ·intro j cs' hj hlt;simp only [Mem.put] at hj;split at hj
  ·cases hj
  ·exact h.out j cs' hj hlt
theorem Q9z:∀ {n:Nat} {es:List (V×V×Nat)},upM n es=true→∀ x∈es,n≤x.2.2
 | _,[],_,x,hx=>by simp at hx
 | n,e::es,h,x,hx=>by
  simp only [upM,Bool.and_eq_true,decide_eq_true_eq] at h;rcases List.mem_cons.1 hx with rfl|hx
  ·exact h.1
  ·have:=Q9z h.2 x hx;omega
theorem Q90 {k:Nat} {y:Owner} {st:Nat}:∀ {n:Nat} {es:List (V×V×Nat)} {ents:List MapEntry} (i:Nat) {x:V×V×Nat} {sz:Nat} {l:List (List D)},upM n es=true→es[i]? = some x→x.2.1 = .own sz l→x.2.2=st→RM g w k es ents →
  RM (g.re (ex (.cell k st) y)) w k (modM x.1 (.d (.lst sz l)) i es) ents
 | _,[],_,i,x,sz,l,_,hx,_,_,_=>by simp at hx
 | n,e::es,_,0,x,sz,l,hu,hx,hv,hst,hr=>by
  simp only [upM,Bool.and_eq_true,decide_eq_true_eq] at hu;simp at hx;subst hx;simp only [RM] at hr;obtain ⟨q,t,rfl,⟨a1,a2⟩,⟨b1,b2⟩,h3,h4⟩:=hr;rw [hv] at b2;refine ⟨q,t,rfl,⟨a1,Qtc (g:=g) (g':=g.re (ex (.cell k st) y)) (Imm.refl _ _) a1 a2⟩,⟨rfl,?_⟩,h3,?_⟩
  ·have:=Qh8 (g:=g) (w:=w) (.own sz l) (.cell k e.2.2) (.cell k e.2.2) _ b2;exact Qtc (g:=g) (g':=g.re (ex (.cell k st) y)) (v:=.d (.lst sz l)) (Imm.refl _ _) rfl this
  ·have hlt:=Q9z hu.2;clear h3 a1 a2 b1 b2
   induction es generalizing t with
   | nil=>simpa [RM] using h4
   | cons z es ih =>
    simp only [RM] at h4 ⊢;obtain ⟨q2,t2,rfl,⟨a1,a2⟩,⟨b1,b2⟩,h3,h4⟩:=h4;have hz:z.2.2≠st:=by grind
    refine ⟨q2,t2,rfl,⟨a1,Qtc (g:=g) (g':=g.re (ex (.cell k st) y)) (Imm.refl _ _) a1 a2⟩,⟨b1,?_⟩,h3,?_⟩
    ·rcases Qsa b1 with b1|⟨sz2,l2,e2⟩
     ·exact Qtc (g:=g) (g':=g.re (ex (.cell k st) y)) (Imm.refl _ _) b1 b2
     ·rw [e2] at b2 ⊢;exact Q2q (g:=g) (g':=g.re (ex (.cell k st) y)) (Imm.refl _ _) (fun b hb _=>⟨by show ex _ _ (g.own b)=_;simp_all [ex,if_neg],rfl,fun _=>Iff.rfl⟩) b2
    ·simp only [upM,Bool.and_eq_true,decide_eq_true_eq] at hu;exact ih ⟨hu.1,(by
      have:∀ {m m' : Nat} {r:List (V×V×Nat)},m'≤m→upM m r=true→upM m' r=true:=fun {m m' r} hm hr=>by
       cases r with
       | nil=>rfl
       | cons c r=>simp only [upM,Bool.and_eq_true,decide_eq_true_eq] at hr ⊢;grind
      grind)⟩ t2 h4 (fun c hc=>hlt c (by simp [hc]))
 | n,e::es,_,i+1,x,sz,l,hu,hx,hv,hst,hr=>by
  simp only [upM,Bool.and_eq_true,decide_eq_true_eq] at hu;simp only [RM] at hr;obtain ⟨q,t,rfl,⟨a1,a2⟩,⟨b1,b2⟩,h3,h4⟩:=hr;have hx' : es[i]? = some x:=by simpa using hx
  have hle:=Q9z hu.2 x (List.mem_of_getElem? hx');refine ⟨q,t,rfl,⟨a1,Qtc (g:=g) (g':=g.re (ex (.cell k st) y)) (Imm.refl _ _) a1 a2⟩,⟨b1,?_⟩,h3,Q90 i hu.2 hx' hv hst h4⟩;rcases Qsa b1 with b1|⟨sz2,l2,e2⟩
  ·exact Qtc (g:=g) (g':=g.re (ex (.cell k st) y)) (Imm.refl _ _) b1 b2
  ·rw [e2] at b2 ⊢;exact Q2q (g:=g) (g':=g.re (ex (.cell k st) y)) (Imm.refl _ _) (fun b hb _=>⟨by show ex _ _ (g.own b)=_;rw [hb];unfold ex;grind,rfl,fun _=>Iff.rfl⟩) b2
theorem Qbck {t kt e:TypeId} {z:V} (ht:P.underlying t=some (.map kt e)) (h:Q88 P t=some z):z.dat=true∧∃ zv,(zeroValue e).run P w = .ok zv w∧RF g w z zv:=by
 unfold Q88 at h;rw [ht] at h;simp only at h;split at h<;>try (cases h;done)
 rename_i sz zv hna hz hi;cases h;obtain ⟨i,zv',h1,h2,h3,_⟩:=Qkq P hz;rw [h1] at hi;simp only [Option.bind_some] at hi;rw [h2] at hi;cases hi;refine ⟨rfl,_,Qse P h1 h2 w,?_⟩;have hc:=h3 g w;have hcells:zv.cells.toList=[zv]:=by
  cases zv<;>first|rfl|exact absurd rfl (hna _ _ hz)|skip
  all_goals simp_all [Value.cells]
 rw [hcells] at hc;exact hc.rf 0 _ _ rfl rfl
theorem Q8b (h:SR n0 nt g0 w0 σ a w g) {dst:Option Nat} (hd:∀ d,dst=some d→d<nt) (t:TypeId) {kt:TypeId} {kd:MK} {z z0:V} (hmk:Qkp P t=some (kt,kd,z0)) (hzn:Q88 P t=some z) {x y v:V} {um uk:Value} {κ:Nat} {M' : Mem}
  (hx:RF g w x um) (hy:RF g w y uk) (hs:Qk n0 κ (.lookupT kd z) [x,y] σ.M=some (v,M')) :
  ∃ val g',(Instr.lookup t um uk false).run P w = .ok val w∧SR n0 nt g0 w0 ⟨Qbf σ.s dst v,M',σ.nb⟩ (a.put dst val) w g':=by
 obtain ⟨b,key,es,cl,hxs,hMk,hk1,hk2,hup,hres⟩:=Qv5 hs;cases hxs;have hum:=Q51 hx;subst hum;obtain ⟨et,ht,hkk,hz,_⟩:=Qpk P hmk;obtain ⟨_,hown,ents,hh,hr⟩:=h.mem.box b _ hMk;have hlaw:=Qz0 (g:=g) (w:=w) P hkk;obtain ⟨_,zv,hzr,hzf⟩:=Qbck (g:=g) (w:=w) P ht hzn;have hck:∀ em,(Instr.checkKey em 10000 kt uk).run P w = .ok () w:=fun em=>hlaw.check em hk1 hy;rcases Qz1 P hlaw hk1 hy hr hk2 with ⟨f1,f2⟩|⟨j,v',e,x,f1,f2,f3,f4,f5,f6,f7,f8,f9⟩
 ·rcases hres with ⟨i,sz,l,e,h1,_⟩|⟨h1,h2,rfl,rfl⟩
  ·rw [f1] at h1;cases h1
  ·refine ⟨zv,g,?_,h.pure hd (fun _ _=>hzf _) (Qt2 h2)⟩;have hfk:=f2;simp [Instr.lookup,run_underlying ht,MapKept.run_getObj_map hh,hck,hfk,hzr,Result.andThen]
 ·rcases hres with ⟨i,sz,l,e0,h1,h2,rfl,rfl⟩|⟨h1,_⟩
  ·rw [f1] at h1;cases h1;rw [f2] at h2;cases h2;have hfk:=f7;refine ⟨e.val,g.re (ex (.cell b x.2.2) (.slot (dst.getD 0) [])),?_,?_⟩
   ·simp [Instr.lookup,run_underlying ht,MapKept.run_getObj_map hh,hck,hfk,Result.andThen]
   ·have hkx:=Kept.ex g w (.cell b x.2.2) (.slot (dst.getD 0) []) (There σ.M);refine h.mapre hMk (x:=.cell b x.2.2) (by simp) (by simp [Prot]) (by simp) (by simp) ?_ ?_ (fun _ _=>rfl) hh ⟨rfl,rfl,rfl,rfl⟩ (Q90 j hup f2 f3 rfl hr) (Qgk (fun d' hd'=>by rw [h.size];exact hd d' hd') (fun t ht=>?_) (fun d' hd'=>?_)) (Qhs _ _ _) (Qe2 _ _ _) (Qgl h.onS trivial)
    ·intro o i h1 h2;cases o<;>simp_all [Owner.sub]
    ·grind
    ·have hk' : Kept g w (g.re (ex (.cell b x.2.2) (.slot (dst.getD 0) []))) w (There σ.M) (fun o=>(∃ t q,o = .slot t q)∨o = .ext) :=
      hkx.weaken (fun _ h=>h) (by grind)
     refine Qfl hk' ?_ (.inr rfl) _ _ _ (.inl ⟨t,[],rfl⟩) (h.onS t) (h.slots t);rintro ℓ i' (⟨t,q,rfl⟩|rfl)
     ·exact .inl ⟨t,i'::q,rfl⟩
     ·exact .inr rfl
    grind [Q1j]
  grind
theorem Q8c (h:SR n0 nt g0 w0 σ a w g) (t:TypeId) {kt:TypeId} {kd:MK} {z:V} (hmk:Qkp P t=some (kt,kd,z)) {x y v:V} {um uk:Value} {t0:Nat} {κ:Nat} {M' : Mem}
  (hx:RF g w x um) (hy:RF g w y uk) (hs:Qk n0 κ (.mapsetT kd) [x,y,σ.s t0] σ.M=some (v,M')) :
  ∃ w' g',(Instr.mapUpdate t um uk (a.tmps.getD t0 undef)).run P w = .ok () w'∧SR n0 nt g0 w0 ⟨σ.s.put t0 (σ.s t0).dem,M',σ.nb⟩ a w' g':=by
 obtain ⟨b,key,sz,l,es,cl,hxs,hMk,hk1,hk2,rfl,rfl⟩:=Qv6 hs;simp only [List.cons.injEq,and_true] at hxs;obtain ⟨rfl,rfl,hv⟩:=hxs;have hum:=Q51 hx;subst hum;obtain ⟨et,ht,hkk,hz,hzd⟩:=Qpk P hmk;obtain ⟨_,hown,ents,hh,hr⟩:=h.mem.box b _ hMk;have hlaw:=Qz0 (g:=g) (w:=w) P hkk;have hck:∀ em,(Instr.checkKey em 10000 kt uk).run P w = .ok () w:=fun em=>hlaw.check em hk1 hy;have hst:=hlaw.stays hk1 hy;have hslot:=h.slots t0;rw [hv] at hslot;have fin:∀ (st cl' : Nat) (es' : List (V×V×Nat)) (ents' : List MapEntry),(∀ {w' : World},Imm g.imm g.imm w w'→(∀ c,c≠g.box b→w'.heap[c]? = w.heap[c]?)→RM (g.re (ex (.slot t0 []) (.cell b st))) w' b es' ents') →
   SR n0 nt g0 w0 ⟨σ.s.put t0 (σ.s t0).dem,σ.M.put b (.mp es' cl'),σ.nb⟩ a { w with heap:=w.heap.setIfInBounds (g.box b) (.map ents'.toArray cl') } (g.re (ex (.slot t0 []) (.cell b st))):=by
  intro st cl' es' ents' hrm;obtain ⟨hs1,hs2⟩:=heap_set (o':=.map ents'.toArray cl') hh;have hkx:=Kept.ex g w (.slot t0 []) (.cell b st) (There σ.M);have himm:Imm g.imm g.imm w { w with heap:=w.heap.setIfInBounds (g.box b) (.map ents'.toArray cl') }:=⟨fun _ _ h=>h,fun c o hco=>by
   have:c≠g.box b:=by rintro rfl;exact (h.mem.imm _ _ hco).2 b hown
   exact Qgi (hs2 c this)⟩
  have hkept:Kept g w (g.re (ex (.slot t0 []) (.cell b st))) { w with heap:=w.heap.setIfInBounds (g.box b) (.map ents'.toArray cl') } (There σ.M) (fun o=>o ≠ .box b∧o ≠ .slot t0 []) :=
   ⟨himm,fun _ _=>rfl,fun c hc _=>⟨by simp [G.re,ex,hc.2],hs2 c (by grind),fun _=>Iff.rfl⟩⟩
  have hks:∀ (o:Owner) i,o ≠ .box b∧o ≠ .slot t0 []→o.sub i ≠ .box b∧o.sub i ≠ .slot t0 []:=fun o i ho=>⟨Qmm ho.1,by cases o<;>simp_all [Owner.sub]⟩;refine h.mapre (w':={ w with heap:=w.heap.setIfInBounds (g.box b) (.map ents'.toArray cl') }) hMk (x:=.slot t0 []) (by simp) (by simp [Prot]) (by simp) (by simp) (fun o i h1 h2=>(hks o i ⟨h1,h2⟩).2) (by simp) hs2 hs1 ⟨rfl,rfl,rfl,by simp⟩ (hrm himm hs2) (fun t=>?_) rfl rfl (fun t=>?_)
  ·simp only [Sl.put];split
   ·rename_i he;subst he;rw [hv];have:=Qh8 (g:=g) (w:=w) (.own sz l) (.slot t []) (.slot t []) _ hslot;exact Qtc (g:=g) (g':=g.re (ex (.slot t []) (.cell b st))) (v:=.d (.lst sz l)) himm rfl this
   ·rename_i hne;exact Qfl hkept hks ⟨by simp,by simp⟩ _ _ _ ⟨by simp,by simp [hne]⟩ (h.onS t) (h.slots t)
  ·simp only [Sl.put];split
   ·exact (Qem _).2 (h.onS t0)
   ·exact h.onS t
 have hrm0:∀ (st:Nat) {w' : World},Imm g.imm g.imm w w'→(∀ c,c≠g.box b→w'.heap[c]? = w.heap[c]?)→RM (g.re (ex (.slot t0 []) (.cell b st))) w' b es ents:=fun st {w'} hi hc =>
  Q3z (g:=g) (g':=g.re (ex (.slot t0 []) (.cell b st))) hi (fun c i hci _=>⟨by show ex _ _ (g.own c)=_;simp_all [ex,if_neg],hc c (by grind),fun _=>Iff.rfl⟩) hr
 have hval:∀ (st:Nat) {w' : World},Imm g.imm g.imm w w'→(∀ c,c≠g.box b→w'.heap[c]? = w.heap[c]?)→RV (g.re (ex (.slot t0 []) (.cell b st))) w' (.own sz l) (.cell b st) (a.tmps.getD t0 undef):=fun st {w'} hi hc=>by
  have:=Q1j (b:=.cell b st) hslot;refine Q2q (g:=g.re (ex (.slot t0 []) (.cell b st))) (g':=g.re (ex (.slot t0 []) (.cell b st))) (w:=w) hi (fun c hco _=>⟨hco,hc c ?_,fun _=>Iff.rfl⟩) this;rintro rfl;have h2:ex (.slot t0 []) (.cell b st) (g.own (g.box b)) = .cell b st:=hco
  simp_all [ex,if_neg]
 have hkey:∀ (st:Nat) {w' : World},Imm g.imm g.imm w w'→RV (g.re (ex (.slot t0 []) (.cell b st))) w' y .ext uk:=fun st {w'} hi=>Qtc (g:=g) (g':=g.re (ex (.slot t0 []) (.cell b st))) hi (Qz3 hk1) (hy .ext);rcases Qz1 P hlaw hk1 hy hr hk2 with ⟨f1,f2⟩|⟨j,v',e,x,f1,f2,f3,f4,f5,f6,f7,f8,f9⟩
 ·have hfk:=f2;rw [f1];refine ⟨_,_,?_,fin cl (cl+1) _ (ents++[{ key:=uk,val:=a.tmps.getD t0 undef,born:=cl }]) (fun hi hc=>Qz2 (hrm0 cl hi hc) (Qz3 hk1) (hkey cl hi) rfl (hval cl hi hc))⟩;simp [Instr.mapUpdate,run_underlying ht,MapKept.run_getObj_map hh,hck,hfk,MapKept.run_setObj_map _ hh,Result.andThen]
 ·have hfk:=f7;rw [f1];refine ⟨_,_,?_,fin x.2.2 cl _ (ents.modify j fun q=>{ q with key:=uk,val:=a.tmps.getD t0 undef }) (fun hi hc=>Q4a (Qz3 hk1) (hkey _ hi) rfl j (fun y hy'=>by grind) (hrm0 _ hi hc))⟩;have hj:ents[j]? = some e:=f4;simp [Instr.mapUpdate,run_underlying ht,MapKept.run_getObj_map hh,hck,hfk,hj,f5,hst,MapKept.run_setObj_map _ hh,Result.andThen,Qnd]
end
end Go.Abs
end
section
namespace Go.Abs
open Go
section
variable (P:Program) {g:G} {w:World} {n0 nt:Nat} {g0:G} {w0:World} {σ:St} {a:Act}
theorem Qio (s:Sem Value) {val:Value} {w' : World} (h:s.run P w = .ok val w'):((do pure (Next.value (← s)):Sem Next)).run P w = .ok (.value val) w':=by simp [h]
theorem Q53 (s:Sem Unit) {w' : World} (h:s.run P w = .ok () w'):((do s;pure Next.skip:Sem Next)).run P w = .ok .skip w':=by simp [h]
theorem Qbfx {v:V} {sz k off len cap:Nat} (h:v.dem = .sl sz k off len cap):v = .sl sz k off len cap:=by
 cases v<;>simp [V.dem] at h ⊢;exact h
theorem Q7c {s s' : Sl} {M:Mem} {nb:Nat} {a:Act} (h:SR n0 nt g0 w0 ⟨s,M,nb⟩ a w g) (he:∀ i,s' i=s i):SR n0 nt g0 w0 ⟨s',M,nb⟩ a w g :=by simp_all [funext]
theorem Qy8 (ps:Array (Nat×Operand)) (f:Operand→Value):((ps.toList.map (·.1)).zip ((ps.toList.map (·.2)).map f)).toArray=ps.map fun (i,x)=>(i,f x):=by
 grind
theorem Qbgz {s s' : Sl} {M:Mem} {nb:Nat} {a:Act} (h:SR n0 nt g0 w0 ⟨s,M,nb⟩ a w g) (he:∀ i,s' i=s i∨s' i=(s i).dem):SR n0 nt g0 w0 ⟨s',M,nb⟩ a w g:={
 mem:=h.mem
 slots:=fun t=>by
  rcases he t with e|e
  ·show RV g w (s' t) _ _;rw [e];exact h.slots t
  ·show RV g w (s' t) _ _;rw [e];exact Qh8 _ _ _ _ (h.slots t)
 size:=h.size
 defers:=h.defers
 onS:=fun t=>by
  rcases he t with e|e
  ·show (s' t).on _;rw [e];exact h.onS t
  ·show (s' t).on _;rw [e];exact (Qem _).2 (h.onS t)
 onM:=h.onM
 top:=h.top
 fr:=h.fr }
theorem Qbep (args:Array Operand) (f:Operand→Value) (hs:args.size=1):∃ u,args.map f = #[u]∧args.toList.map f=[u]:=by
 cases args with
 | mk l =>
  match l,hs with
  | [x],_=>simp_all
theorem Qbcl (ts:Array TypeId) (hs:ts.size=1):ts = #[ts.getD 0 0]:=by
 cases ts with
 | mk l =>
  match l,hs with
  | [x],_=>simp
theorem Q91 (args:Array Operand) (f:Operand→Value) (hs:args.size=2):∃ u v,args.map f = #[u,v]∧args.toList.map f=[u,v]:=by
 cases args with
 | mk l =>
  match l,hs with
  | [x,y],_=>simp_all
theorem Q92 {u:Value} {xs:List V} (h:RFs g w xs [u]):∃ x,xs=[x]∧RF g w x u:=by
 match xs,h with
 | x::xs,⟨u',us,e,r,h⟩ =>
  simp only [List.cons.injEq] at e;obtain ⟨rfl,rfl⟩:=e;have hl:=Qh0 h
  grind
theorem Qz5 {u v:Value} {xs:List V} (h:RFs g w xs [u,v]):∃ x y,xs=[x,y]∧RF g w x u∧RF g w y v:=by
 match xs,h with
 | x::xs,⟨u',us,e,r,h⟩ =>
  simp only [List.cons.injEq] at e;obtain ⟨rfl,rfl⟩:=e;obtain ⟨y,rfl,r'⟩:=Q92 h
  grind
theorem Qz6 {u v x:Value} {xs:List V} (h:RFs g w xs [u,v,x]):∃ a b c,xs=[a,b,c]∧RF g w a u∧RF g w b v∧RF g w c x:=by
 match xs,h with
 | [a,b,c],⟨u1,us1,e1,r1,u2,us2,e2,r2,u3,us3,e3,r3,e4⟩ =>
  grind
 | [],h=>simp [RFs] at h
 | [_],⟨_,_,e1,_,e2⟩=>grind [RFs]
 | [_,_],⟨_,_,e1,_,_,_,e2,_,e3⟩=>grind [RFs]
 | _::_::_::_::_,⟨_,_,e1,_,_,_,e2,_,_,_,e3,_,_,_,e4,_⟩=>grind
theorem Qbfy {nt:Nat} {dst:Option Nat} (h:∀ d,dst=some d→d<nt) (h0:0<nt):dst.getD 0<nt:=by
 cases dst with
 | none=>exact h0
 | some d=>exact h d rfl
theorem Qz7 (h:SR n0 nt g0 w0 σ a w g) {ctx:Nat→TypeId} {m k x:Operand} {as:List Arg} (has:Qfg P ctx 0 [m,k,x]=some as) {L:List Nat} (hT:inL L (tmpO x)=true) (t:TypeId) {kt:TypeId} {kd:MK} {z:V} (hmk:Qkp P t=some (kt,kd,z)) {v:V} {κ:Nat} {M' : Mem}
  (hst:Qk n0 κ (.mapsetT kd) (as.map (·.val σ.s)) σ.M=some (v,M')) :
  ∃ w' g',(Instr.mapUpdate t (a.eval m) (a.eval k) (a.eval x)).run P w = .ok () w'∧SR n0 nt g0 w0 ⟨Q5 σ.s as (Qb1 (.mapsetT kd) (as.map (·.val σ.s))),M',σ.nb⟩ a w' g':=by
 obtain ⟨t0,rfl⟩ : ∃ t0,x = .tmp t0:=by
  cases x<;>simp [tmpO,inL] at hT;exact ⟨_,rfl⟩
 simp only [Qfg] at has;cases hm:Qf1 P (ctx 0) m with
 | none=>grind
 | some am =>
  cases hk:Qf1 P (ctx (0+1)) k with
  | none=>grind
  | some ak =>
   rw [hm,hk] at has;simp only [Qf1,Option.some.injEq] at has;subst has;obtain ⟨m1,m2⟩:=Qh2 P h hm;obtain ⟨k1,k2⟩:=Qh2 P h hk;simp only [List.map_cons,List.map_nil,Arg.val] at hst;obtain ⟨b,key,sz,l,es,cl,hxs,hMk,hk1,hk2,rfl,rfl⟩:=Qv6 hst;simp only [List.cons.injEq,and_true] at hxs;obtain ⟨e1,e2,e3⟩:=hxs;have q1:(am.val σ.s).dem=am.val σ.s:=by
    have:am.val σ.s = .mp b:=e1;rw [this];rfl
   have q2:(ak.val σ.s).dem=ak.val σ.s:=by
    have:ak.val σ.s=key:=e2;rw [this];exact Qv3 (Q9v hk1)
   rw [q1] at m1;rw [q2] at k1;obtain ⟨w',g',hr,hsr⟩:=Q8c P h t hmk m1 k1 (t0:=t0) hst;refine ⟨w',g',hr,Q7c hsr fun i=>?_⟩;simp only [List.map_cons,List.map_nil,Qb1,Q5,Arg.putTo,Sl.put];by_cases hi:i=t0
   ·simp only [hi,if_true];rfl
   ·simp only [hi,if_false];cases ak with
    | c v =>
     cases am with
     | c u=>rfl
     | t im =>
      simp only [Sl.put];split
      ·rename_i he;subst he;rfl
      ·rfl
    | t ik =>
     simp only [Sl.put];split
     ·rename_i he;subst he;rfl
     ·cases am with
      | c u=>rfl
      | t im =>
       simp only [Sl.put];split
       ·rename_i he;subst he;rfl
       ·rfl
theorem Qc8 (h:SR n0 nt g0 w0 σ a w g) {o:Oper} (hd:∀ d,o.dst=some d→d<nt) {k:K} (hz:k.okz) {as:List Arg} {v:V} {M' : Mem} {κ:Nat}
  (hs:Qk n0 κ k (V.dems (as.map (·.val σ.s))) σ.M=some (v,M')) (hon:V.ons (There σ.M) (V.dems (as.map (·.val σ.s)))) (hr:M'=σ.M∧∃ val,(execOp a.eval o).run P w = .ok (.value val) w∧RF g w v val) :
  Gives P n0 nt g0 w0 o a w ⟨Qbf σ.s o.dst v,M',σ.nb⟩:=by
 obtain ⟨rfl,val,hrun,hrf⟩:=hr;exact .inl ⟨val,w,g,hrun,h.pure hd (fun _ _=>hrf _) (Q2v hz hs hon h.mOn).1⟩
theorem Qbfz (h:SR n0 nt g0 w0 σ a w g) {d:Nat} (hd:d<nt) (t e:TypeId) (ht:P.underlying t=some (.slice e)) {z0:V} (hz:Qr7 P e=some [z0]) (h1:P.cellsOf e=1) {x:D} {u:Value} (hx:RF g w (.d x) u) :
  ∃ val w' g',(Instr.buildSlice t 1 #[(0,u)]).run P w = .ok val w'∧SR n0 nt g0 w0 ⟨Qbf σ.s (some d) (.own 1 [[x]]),σ.M,σ.nb⟩ (a.put (some d) val) w' g':=by
 obtain ⟨i,zv,hi,hzv,hcz,hlt⟩:=Qkq P hz;have hcl:=(hcz g w).len;have hzs:zv.cells.size=1:=by simpa using hcl
 obtain ⟨out,hfill,hcr⟩:=Qu8 (g:=g) (w:=w) (fun i=>some (i*1,1)) (rep 1 [z0]) _ (CR.rep (hcz g w) 1) [0] [0] [1] [.d x] [u] ⟨u,[],rfl,hx,rfl⟩ (fun y hy=>by simp only [List.mem_singleton] at hy;subst hy;rfl) rfl rfl rfl
  (fun j y i o s hxj hij hoj hsj=>by
   cases j with
   | succ j=>simp at hxj
   | zero =>
    simp only [List.getElem?_cons_zero,Option.some.injEq] at hxj hij hoj hsj;subst hxj hij hoj hsj;exact ⟨rfl,rfl,by simp [rep],rfl⟩)
 have e1:Qk7 (rep 1 [z0]) (([0].zip [V.d x]).map fun p=>(p.1,p.2.cells))=[.d x]:=rfl;rw [e1] at hcr;have hl:=hcr.len
 match out,hl,hcr with
 | [v],_,hcr =>
  obtain ⟨g',hsr⟩:=h.newlit hd (RF_d.1 (hcr.rf 0 (.d x) v rfl rfl)) (hcr.one v (by simp)) e;refine ⟨_,_,g',?_,hsr⟩;have hm:=Qsg zv.cells (by omega) 1;rw [hzs] at hm;unfold madeCells at hm;have hso:∀ w,(sizeOf e).run P w = .ok (P.cellsOf e) w:=fun w=>by rw [Qh1 P hi,Qfd P hi]
  rw [← hm] at hfill;simp only [List.zip_cons_cons,List.zip_nil_left,hzs,Nat.mul_one] at hfill;simp [Instr.buildSlice,run_underlying ht,hso,Qse P hi hzv,h1,hzs,newRow];rw [hfill];simp
theorem Q8d {κ sz:Nat} {x i v:V} {M M' : Mem} (hs:Qk n0 κ (.slcT sz) [x,i] M=some (v,M')) :
  M'=M∧∃ k n l,i = .d (.int k n)∧0≤n∧n≤(l.length:Int)∧((x = .d (.lst sz l)∧v = .d (.lst sz (l.drop n.toNat)))∨((x = .ownT sz l∨x = .own sz l)∧v = .ownT sz (l.drop n.toNat))):=by
 cases i
 case d di =>
  cases di
  case int k n =>
   cases x
   case d dx =>
    cases dx
    case lst sz' l =>
     simp only [Qk] at hs;split at hs<;>cases hs;rename_i hc;simp only [Bool.and_eq_true,decide_eq_true_eq] at hc;obtain ⟨⟨rfl,n1⟩,n2⟩:=hc;exact ⟨rfl,k,n,l,rfl,n1,n2,.inl ⟨rfl,rfl⟩⟩
    all_goals (simp [Qk] at hs)
   case own sz' l =>
    simp only [Qk] at hs;split at hs<;>cases hs;rename_i hc;simp only [Bool.and_eq_true,decide_eq_true_eq] at hc;obtain ⟨⟨rfl,n1⟩,n2⟩:=hc;exact ⟨rfl,k,n,l,rfl,n1,n2,.inr ⟨.inr rfl,rfl⟩⟩
   case ownT sz' l =>
    simp only [Qk] at hs;split at hs<;>cases hs;rename_i hc;simp only [Bool.and_eq_true,decide_eq_true_eq] at hc;obtain ⟨⟨rfl,n1⟩,n2⟩:=hc;exact ⟨rfl,k,n,l,rfl,n1,n2,.inr ⟨.inl rfl,rfl⟩⟩
   all_goals (simp [Qk] at hs)
  all_goals (simp [Qk] at hs)
 all_goals (simp [Qk] at hs)
theorem Qbeq (h:SR n0 nt g0 w0 σ a w g) (t e:TypeId) (ht:P.underlying t=some (.slice e)) (h0:P.cellsOf e≠0) (t0 d:Nat) (hd:d<nt) {lv:Operand} {a1:Arg} (ha1:Qf1 P t lv=some a1) {κ:Nat} {v:V} {M' : Mem}
  (hst:Qk n0 κ (.slcT (P.cellsOf e)) [Arg.val σ.s (.t t0),a1.val σ.s] σ.M=some (v,M')) :
  ∃ val g',(Instr.sliceAt t (a.eval (.tmp t0)) (some (a.eval lv)) none none).run P w = .ok val w ∧
   SR n0 nt g0 w0 ⟨Qbf (Q5 σ.s [Arg.t t0,a1] (Qb1 (.slcT (P.cellsOf e)) [Arg.val σ.s (.t t0),a1.val σ.s])) (some d) v,M',σ.nb⟩ (a.put (some d) val) w g':=by
 obtain ⟨hi1,hi2⟩:=Qh2 P h ha1;obtain ⟨rfl,k,n,l,hiv,n1,n2,hcase⟩:=Q8d hst;rw [hiv] at hi1;have hev:a.eval lv = .int k n:=Qpi hi1;have hsl:∀ j,Q5 σ.s [Arg.t t0,a1] (Qb1 (.slcT (P.cellsOf e)) [Arg.val σ.s (.t t0),a1.val σ.s]) j=σ.s.put t0 (σ.s t0).dem j:=by
  intro j;simp only [Qb1,Q5,Arg.putTo];cases a1 with
  | c c=>rfl
  | t t1 =>
   simp only [Arg.val] at hiv ⊢;simp only [Sl.put];by_cases hj:j=t1
   ·subst hj;rw [if_pos rfl];split
    ·rename_i he;subst he;rw [hiv];rfl
    ·rfl
   ·rw [if_neg hj]
 rw [hev,funext hsl];have hslot:=h.slots t0;have hae:a.eval (.tmp t0)=a.tmps.getD t0 undef:=rfl;rw [hae];rcases hcase with ⟨hx,rfl⟩|⟨hx,rfl⟩
 ·rw [show σ.s t0=_ from hx] at hslot;obtain ⟨_,val,hr,hrf⟩:=Q6y (n0:=0) (κ:=0) (M:=σ.M) P t e ht h0 (some (.int k n)) none (bs:=[.d (.int k n)]) (Qt3 hslot) ⟨_,_,rfl,RF_d.2 (by simp [RD]),rfl⟩ (v:=.d (.lst (P.cellsOf e) (l.drop n.toNat))) (M':=σ.M) (by
   simp_all [Qv4,Option.isSome,Qne,Option.getD,V.dem,if_pos])
  obtain ⟨g',hsr⟩:=Q64 h t0 d hd (hrf _) trivial
  grind
 ·have hrv:RV g w (.ownT (P.cellsOf e) l) (.slot t0 []) (a.tmps.getD t0 undef):=by
   rcases hx with hx|hx
   ·rwa [show σ.s t0=_ from hx] at hslot
   ·rw [show σ.s t0=_ from hx] at hslot;exact Q5t hslot
  obtain ⟨val,hr,hv⟩:=Qbcf P t e ht h0 hrv k n n1 n2;obtain ⟨g',hsr⟩:=Q64 h t0 d hd hv trivial
  grind
set_option maxHeartbeats 1000000 in
theorem Q8e {T:Tk} {ops:Array Oper} {o:Oper} {c:COp} (hc:Qkd P T nt ops o=some c) (hcall:c.kind.isCall=false) (hnil:c.kind.isNil=false)
  (h:SR n0 nt g0 w0 σ a w g) {σ' : St} (hs:c.step n0 σ=some σ'):Gives P n0 nt g0 w0 o a w σ':=by
 obtain ⟨k,as,tk,hk,hd,hnt,hcd,hck,hca,hct⟩ : ∃ k as tk,Qk8 P T o=some (k,as,tk)∧(∀ d,o.dst=some d→d<nt)∧0<nt∧c.dst=o.dst∧c.kind=k∧c.args=as∧c.tk=tk:=by
  unfold Qkd at hc;split at hc<;>try (cases hc;done)
  rename_i k as tk hk;split at hc<;>try (cases hc;done)
  rename_i hcond;simp only [Bool.and_eq_true,decide_eq_true_eq] at hcond;refine ⟨k,as,tk,hk,fun d hd=>?_,hcond.1.1,?_⟩
  ·have:=hcond.1.2;rw [hd] at this;simpa [Qbb5] using this
  ·split at hc
   ·cases hc;exact ⟨rfl,rfl,rfl,rfl⟩
   ·split at hc<;>cases hc;exact ⟨rfl,rfl,rfl,rfl⟩
 have hz:=Q36 P hk;simp only [COp.step,COp.xs,hcd,hck,hca,hct] at hs;rw [hck] at hcall hnil;clear hcd hck hca hct hc;have hκ:n0≤n0+o.dst.getD 0:=by omega
 have hκ' : n0+o.dst.getD 0<σ.nb:=by
  have h1:=h.top;have h2:=Qbfy hd hnt;omega
 generalize n0+o.dst.getD 0=κ at hs hκ hκ';have plain:tk=false→∃ v M',Qk n0 κ k (V.dems (as.map (·.val σ.s))) σ.M=some (v,M')∧σ'=⟨Qbf σ.s o.dst v,M',σ.nb⟩:=by
  rintro rfl;simp only [Bool.false_eq_true,if_false] at hs;split at hs<;>cases hs;rename_i v M heq;exact ⟨v,M,heq,rfl⟩
 unfold Qk8 at hk;cases hop:o.op<;>rw [hop] at hk<;>simp only at hk<;>try (cases hk;done)
 case move x =>
  simp only [Option.map_eq_some_iff,Prod.mk.injEq] at hk;obtain ⟨ar,har,rfl,rfl,htk⟩:=hk;cases tk with
  | false =>
   obtain ⟨v,M',hst,rfl⟩:=plain rfl;obtain ⟨h1,h2⟩:=Qh2 P h har;refine Qc8 P h hd hz hst ⟨(Qem _).2 h2,trivial⟩ ?_;simp only [List.map_cons,List.map_nil,V.dems,Qk,Option.some.injEq,Prod.mk.injEq] at hst;obtain ⟨rfl,rfl⟩:=hst;exact ⟨rfl,_,by simp [execOp,hop],h1⟩
  | true =>
   rcases Qt6 P h har with ⟨t,rfl,rfl,h1,h2⟩|⟨hx,cv,rfl,hc1,hc2⟩
   ·cases hdst:o.dst with
    | none=>simp [hdst,inL,Q09] at htk
    | some d =>
     simp only [if_true,List.map_cons,List.map_nil,Qk,Arg.val,Qb1] at hs;cases hs;obtain ⟨g',hsr⟩:=Q9o h t d (hd d hdst);refine .inl ⟨_,w,g',by simp only [execOp,hop];rfl,?_⟩;rw [hdst];exact hsr
   ·simp only [if_true,List.map_cons,List.map_nil,Qk,Arg.val,Qb1] at hs;cases hs;refine .inl ⟨_,w,g,by simp only [execOp,hop];rfl,?_⟩;exact h.pure hd (fun _ _=>hc1 _) hc2
 case assign x =>
  simp only [Option.map_eq_some_iff,Prod.mk.injEq] at hk;obtain ⟨ar,har,rfl,rfl,htk⟩:=hk;cases tk with
  | false =>
   obtain ⟨v,M',hst,rfl⟩:=plain rfl;obtain ⟨h1,h2⟩:=Qh2 P h har;refine Qc8 P h hd hz hst ⟨(Qem _).2 h2,trivial⟩ ?_;simp only [List.map_cons,List.map_nil,V.dems,Qk,Option.some.injEq,Prod.mk.injEq] at hst;obtain ⟨rfl,rfl⟩:=hst;exact ⟨rfl,_,by simp [execOp,hop],h1⟩
  | true =>
   rcases Qt6 P h har with ⟨t,rfl,rfl,h1,h2⟩|⟨hx,cv,rfl,hc1,hc2⟩
   ·simp only [if_true,List.map_cons,List.map_nil,Qk,Arg.val,Qb1] at hs;cases hs;cases hdst:o.dst with
    | none =>
     refine .inl ⟨_,w,g,by simp only [execOp,hop];rfl,?_⟩;rw [hdst];refine h.step h.mem (Fr.refl _ _ _) (fun t'=>?_) (Qhs _ _ _) (Qe2 _ _ _) (fun t'=>?_) h.mOn h.out
     ·simp only [Qbf,Q5,Arg.putTo,Sl.put,Act.put];split
      ·rename_i he;subst he;exact Qh8 _ _ _ _ (h.slots t')
      ·exact h.slots t'
     ·simp only [Qbf,Q5,Arg.putTo,Sl.put];split
      ·exact (Qem _).2 h2
      ·exact h.onS t'
    | some d =>
     obtain ⟨g',hsr⟩:=Q9o h t d (hd d hdst);refine .inl ⟨_,w,g',by simp only [execOp,hop];rfl,?_⟩;rw [hdst];exact hsr
   ·simp only [if_true,List.map_cons,List.map_nil,Qk,Arg.val,Qb1] at hs;cases hs;refine .inl ⟨_,w,g,by simp only [execOp,hop];rfl,?_⟩;exact h.pure hd (fun _ _=>hc1 _) hc2
 case pick x y z =>
  simp only [Option.map_eq_some_iff,Prod.mk.injEq] at hk;obtain ⟨as',has,rfl,rfl,rfl⟩:=hk;obtain ⟨v,M',hst,rfl⟩:=plain rfl;obtain ⟨h1,h2⟩:=Qep P h _ _ _ _ has;refine Qc8 P h hd hz hst h2 ?_;generalize V.dems (as'.map (·.val σ.s))=xs at hst h1
  match xs,h1 with
  | [x',y',z'],⟨u1,us1,e1,r1,u2,us2,e2,r2,u3,us3,e3,r3,e4⟩ =>
   simp only [List.map_cons,List.map_nil,List.cons.injEq] at e1;obtain ⟨rfl,rfl⟩:=e1;simp only [List.cons.injEq] at e2;obtain ⟨rfl,rfl⟩:=e2;simp only [List.cons.injEq] at e3;obtain ⟨rfl,rfl⟩:=e3;obtain ⟨hM,val,hr,hrf⟩:=Qbei P r1 r2 r3 hst;exact ⟨hM,val,by simpa [execOp,hop] using hr,hrf⟩
 case alloc e =>
  simp only [Option.map_eq_some_iff,Prod.mk.injEq] at hk;obtain ⟨z,hze,rfl,rfl,rfl⟩:=hk;obtain ⟨v,M',hst,rfl⟩:=plain rfl;obtain ⟨val,w',g',hr,hsr⟩:=Qbcd P h hd e hze hκ hκ' hst;exact .inl ⟨val,w',g',by simp only [execOp,hop];exact Qio P _ hr,hsr⟩
 case box e x =>
  simp only [Option.map_eq_some_iff,Prod.mk.injEq] at hk;obtain ⟨ar,har,rfl,rfl,rfl⟩:=hk;obtain ⟨v,M',hst,rfl⟩:=plain rfl;obtain ⟨h1,h2⟩:=Qh2 P h har;obtain ⟨val,w',g',hr,hsr⟩:=Qbfv P h hd e hκ hκ' (Qef _) h1 ((Qem _).2 h2) hst;exact .inl ⟨val,w',g',by simp only [execOp,hop];exact Qio P _ hr,hsr⟩
 case load t x =>
  split at hk<;>try (cases hk;done)
  rename_i ar har;obtain ⟨h1,h2⟩:=Qh2 P h har;split at hk
  ·rename_i hsl;simp only [Option.some.injEq,Prod.mk.injEq] at hk;obtain ⟨rfl,rfl,rfl⟩:=hk;obtain ⟨v,M',hst,rfl⟩:=plain rfl;simp only [Bool.and_eq_true] at hsl;have ht:∃ e,P.underlying t=some (.slice e):=by
    have:=hsl.1;unfold Qr8 at this;split at this
    ·exact ⟨_,by assumption⟩
    ·cases this
   obtain ⟨e,ht⟩:=ht;obtain ⟨val,g',hr,hsr⟩:=Qbcg P h hd t e ht h1 ((Qem _).2 h2) hst;exact .inl ⟨val,w,g',by simp only [execOp,hop];exact Qio P _ hr,hsr⟩
  ·split at hk<;>try (cases hk;done)
   rename_i hu;obtain ⟨d,hu⟩:=Option.isSome_iff_exists.1 hu;simp only [Option.some.injEq,Prod.mk.injEq] at hk;obtain ⟨rfl,rfl,rfl⟩:=hk;obtain ⟨v,M',hst,rfl⟩:=plain rfl;refine Qc8 P h hd hz hst ⟨(Qem _).2 h2,trivial⟩ ?_;obtain ⟨hM,val,hr,hrf⟩:=Q9g P h.mem t hu h1 hst;exact ⟨hM,val,by simp only [execOp,hop];exact Qio P _ hr,hrf⟩
 case store t p x =>
  split at hk<;>try (cases hk;done)
  rename_i pa xa hpa hxa;split at hk<;>try (cases hk;done)
  rename_i hu;simp only [Bool.and_eq_true,Option.isNone_iff_eq_none] at hu;obtain ⟨hu,hdst⟩:=hu;obtain ⟨d,hu⟩:=Option.isSome_iff_exists.1 hu;simp only [Option.some.injEq,Prod.mk.injEq] at hk;obtain ⟨rfl,rfl,htk⟩:=hk;obtain ⟨hp1,hp2⟩:=Qh2 P h hpa;cases tk with
  | false =>
   obtain ⟨v,M',hst,rfl⟩:=plain rfl;obtain ⟨hx1,hx2⟩:=Qh2 P h hxa;obtain ⟨w',g',hr,hsr⟩:=Q63 P h t hu hp1 ((Qem _).2 hp2) ((Qem _).2 hx2) none ⟨hx1,Qef _⟩ hst;refine .inr ⟨w',g',by simp only [execOp,hop];exact Q53 P _ hr,?_⟩;rw [hdst];exact hsr
  | true =>
   simp only [if_true,List.map_cons,List.map_nil] at hs;split at hs<;>cases hs;rename_i v M' hst;rcases Qt6 P h hxa with ⟨t0,rfl,rfl,h1,h2⟩|⟨hx,_⟩
   ·have hpf:(pa.val σ.s).dem=pa.val σ.s∧(∃ k o,pa.val σ.s = .ptr k o):=by
     cases hpv:pa.val σ.s<;>rw [hpv] at hst<;>try (simp [Qk] at hst;done)
     exact ⟨rfl,_,_,rfl⟩
    obtain ⟨hpf,k0,o0,hpk⟩:=hpf;rw [hpf] at hp1;obtain ⟨w',g',hr,hsr⟩:=Q63 P h t hu hp1 hp2 h2 (some t0) ⟨rfl,rfl⟩ hst;refine .inr ⟨w',g',by simp only [execOp,hop];exact Q53 P _ hr,?_⟩;rw [hdst];refine Q7c hsr (fun i=>?_);cases pa with
    | c v=>rfl
    | t i0 =>
     simp only [Qbf,Q5,Qb1,Arg.putTo,Sl.put,Arg.val];split
     ·rfl
     ·split
      ·rename_i he;subst he;rfl
      ·rfl
   ·simp [hx] at htk
 case nilCheck x =>
  simp only [Option.map_eq_some_iff,Prod.mk.injEq] at hk;obtain ⟨ar,har,rfl,rfl,rfl⟩:=hk;obtain ⟨v,M',hst,rfl⟩:=plain rfl;obtain ⟨h1,h2⟩:=Qh2 P h har;exact Qc8 P h hd hz hst ⟨(Qem _).2 h2,trivial⟩ (Q9h P h1 hst o a x hop rfl)
 case unOp op t x =>
  simp only [Option.map_eq_some_iff,Prod.mk.injEq] at hk;obtain ⟨ar,har,rfl,rfl,rfl⟩:=hk;obtain ⟨v,M',hst,rfl⟩:=plain rfl;obtain ⟨h1,h2⟩:=Qh2 P h har;refine Qc8 P h hd hz hst ⟨(Qem _).2 h2,trivial⟩ ?_;simp only [List.map_cons,List.map_nil,V.dems] at hst;generalize (ar.val σ.s).dem=xv at hst h1;cases xv<;>try (simp [Qk] at hst;done)
  simp only [Qk,Option.map_eq_some_iff,Prod.mk.injEq] at hst;obtain ⟨c,hc,rfl,rfl⟩:=hst;obtain ⟨val,hr,hrf⟩:=Qbgy P op h1 hc;exact ⟨rfl,val,by simp only [execOp,hop];exact Qio P _ hr,hrf⟩
 case fieldAddr s x f =>
  split at hk<;>try (cases hk;done)
  rename_i fs hfs;split at hk<;>try (cases hk;done)
  rename_i fd ar hfd har;split at hk<;>try (cases hk;done)
  rename_i h0;cases hk;obtain ⟨v,M',hst,rfl⟩:=plain rfl;obtain ⟨h1,h2⟩:=Qh2 P h har;obtain ⟨hM,val,hr,hrf⟩:=Qbfs P s fs hfs f fd hfd h0 h1 hst;exact Qc8 P h hd hz hst ⟨(Qem _).2 h2,trivial⟩ ⟨hM,val,by simp only [execOp,hop];exact Qio P _ hr,hrf⟩
 case extract x i =>
  simp only [Option.map_eq_some_iff,Prod.mk.injEq] at hk;obtain ⟨ar,har,rfl,rfl,htk⟩:=hk;cases tk with
  | false =>
   obtain ⟨v,M',hst,rfl⟩:=plain rfl;obtain ⟨h1,h2⟩:=Qh2 P h har;obtain ⟨hM,val,hr,hrf⟩:=Q8a P (Qef _) h1 hst;exact Qc8 P h hd hz hst ⟨(Qem _).2 h2,trivial⟩ ⟨hM,val,by simp only [execOp,hop];exact Qio P _ hr,hrf⟩
  | true =>
   rcases Qt6 P h har with ⟨t0,rfl,rfl,h1,h2⟩|⟨hx,_⟩
   ·simp only [if_true,List.map_cons,List.map_nil] at hs;split at hs<;>cases hs;rename_i v M' hst;simp only [Arg.val] at hst;cases hv:σ.s t0<;>rw [hv] at hst<;>try (simp [Qk] at hst;done)
    rename_i vs;simp only [Qk,Option.map_eq_some_iff,Prod.mk.injEq] at hst;obtain ⟨c,hc,rfl,rfl⟩:=hst;cases hdst:o.dst with
    | none=>simp [hdst] at htk
    | some d =>
     obtain ⟨val,g',hr,hsr⟩:=Q5y P h t0 i d (hd d hdst) hv hc;refine .inl ⟨val,w,g',by simp only [execOp,hop];exact Qio P _ hr,?_⟩;rw [hdst];have hsl:Q5 σ.s [Arg.t t0] (Qb1 (.extract i) [Arg.val σ.s (.t t0)])=σ.s.put t0 (.tup (vs.set i c.dem)):=by
      simp only [Arg.val,hv,Qb1,hc];rfl
     rw [hsl];exact hsr
   ·simp [hx] at htk
 case binOp op xt x y yt =>
  split at hk<;>try (cases hk;done)
  rename_i xa ya hxa hya;obtain ⟨hx1,hx2⟩:=Qh2 P h hxa;obtain ⟨hy1,hy2⟩:=Qh2 P h hya;have scal:∀ tb,k = .bin op tb→as=[xa,ya]→tk=false→(tb=true→P.underlying xt=some .bool)→Gives P n0 nt g0 w0 o a w σ':=by
   rintro tb rfl rfl rfl htb;obtain ⟨v,M',hst,rfl⟩:=plain rfl;refine Qc8 P h hd hz hst ⟨(Qem _).2 hx2,(Qem _).2 hy2,trivial⟩ ?_;simp only [List.map_cons,List.map_nil,V.dems] at hst;generalize (xa.val σ.s).dem=xv at hst hx1;generalize (ya.val σ.s).dem=yv at hst hy1;cases xv<;>try (simp [Qk] at hst;done)
   cases yv<;>try (simp [Qk] at hst;done)
   simp only [Qk,Option.map_eq_some_iff,Prod.mk.injEq] at hst;obtain ⟨c,hc,rfl,rfl⟩:=hst;obtain ⟨val,hr,hrf⟩:=Qbfr P op tb xt htb x y hx1 hy1 hc;exact ⟨rfl,val,by simp only [execOp,hop];exact Qio P _ hr,hrf⟩
  split at hk<;>try (cases hk;done)
  ·split at hk<;>try (cases hk;done)
   ·cases hk;simp [K.isNil] at hnil
   ·cases hk;simp [K.isNil] at hnil
  ·cases hk;exact scal false rfl rfl rfl (by simp)
  ·cases hk;exact scal false rfl rfl rfl (by simp)
  ·rename_i hu;cases hk;exact scal true rfl rfl rfl (fun _=>hu)
  ·rename_i fs hu;have sub:∀ neg ks,(op = .eql∧neg=false∨op = .neq∧neg=true)→Qj7 P xt=some ks→k = .eqa neg ks→as=[xa,ya]→tk=false→Gives P n0 nt g0 w0 o a w σ':=by
    rintro neg ks hop' hks rfl rfl rfl;obtain ⟨v,M',hst,rfl⟩:=plain rfl;refine Qc8 P h hd hz hst ⟨(Qem _).2 hx2,(Qem _).2 hy2,trivial⟩ ?_;simp only [List.map_cons,List.map_nil,V.dems] at hst;have hfx:=Qef (xa.val σ.s);have hfy:=Qef (ya.val σ.s);generalize (xa.val σ.s).dem=xv at hst hx1 hfx;generalize (ya.val σ.s).dem=yv at hst hy1 hfy;cases xv<;>try (simp [Qk] at hst;done)
    cases yv<;>try (simp [Qk] at hst;done)
    simp only [Qk,Option.map_eq_some_iff,Prod.mk.injEq] at hst;obtain ⟨b,hb,rfl,rfl⟩:=hst;obtain ⟨vs,hvs,hl,hr,_⟩:=Qyp hfx hx1;obtain ⟨vs',hvs',hl',hr',_⟩:=Qyp hfy hy1;have:=Qbdp P xt hks hl hr hl' hr' hb;refine ⟨rfl,.bool (if neg then !b else b),?_,by rw [RF_d];simp [RD]⟩;simp only [execOp,hop];refine Qio P _ ?_;rw [hvs,hvs'];rcases hop' with ⟨rfl,rfl⟩|⟨rfl,rfl⟩
    ·exact this.1 x y
    ·exact this.2 x y
   split at hk<;>try (cases hk;done)
   ·simp only [Option.map_eq_some_iff,Prod.mk.injEq] at hk;obtain ⟨ks,hks,rfl,rfl,rfl⟩:=hk;exact sub false ks (.inl ⟨rfl,rfl⟩) hks rfl rfl rfl
   ·simp only [Option.map_eq_some_iff,Prod.mk.injEq] at hk;obtain ⟨ks,hks,rfl,rfl,rfl⟩:=hk;exact sub true ks (.inr ⟨rfl,rfl⟩) hks rfl rfl rfl
  ·rename_i n0' e0' hu;have sub:∀ neg ks,(op = .eql∧neg=false∨op = .neq∧neg=true)→Qj7 P xt=some ks→k = .eqa neg ks→as=[xa,ya]→tk=false→Gives P n0 nt g0 w0 o a w σ':=by
    rintro neg ks hop' hks rfl rfl rfl;obtain ⟨v,M',hst,rfl⟩:=plain rfl;refine Qc8 P h hd hz hst ⟨(Qem _).2 hx2,(Qem _).2 hy2,trivial⟩ ?_;simp only [List.map_cons,List.map_nil,V.dems] at hst;have hfx:=Qef (xa.val σ.s);have hfy:=Qef (ya.val σ.s);generalize (xa.val σ.s).dem=xv at hst hx1 hfx;generalize (ya.val σ.s).dem=yv at hst hy1 hfy;cases xv<;>try (simp [Qk] at hst;done)
    cases yv<;>try (simp [Qk] at hst;done)
    simp only [Qk,Option.map_eq_some_iff,Prod.mk.injEq] at hst;obtain ⟨b,hb,rfl,rfl⟩:=hst;obtain ⟨vs,hvs,hl,hr,_⟩:=Qyp hfx hx1;obtain ⟨vs',hvs',hl',hr',_⟩:=Qyp hfy hy1;have:=Qbdp P xt hks hl hr hl' hr' hb;refine ⟨rfl,.bool (if neg then !b else b),?_,by rw [RF_d];simp [RD]⟩;simp only [execOp,hop];refine Qio P _ ?_;rw [hvs,hvs'];rcases hop' with ⟨rfl,rfl⟩|⟨rfl,rfl⟩
    ·exact this.1 x y
    ·exact this.2 x y
   split at hk<;>try (cases hk;done)
   ·simp only [Option.map_eq_some_iff,Prod.mk.injEq] at hk;obtain ⟨ks,hks,rfl,rfl,rfl⟩:=hk;exact sub false ks (.inl ⟨rfl,rfl⟩) hks rfl rfl rfl
   ·simp only [Option.map_eq_some_iff,Prod.mk.injEq] at hk;obtain ⟨ks,hks,rfl,rfl,rfl⟩:=hk;exact sub true ks (.inr ⟨rfl,rfl⟩) hks rfl rfl rfl
 case convert s d x =>
  simp only [Option.bind_eq_some_iff] at hk;obtain ⟨ar,har,hk⟩:=hk;obtain ⟨h1,h2⟩:=Qh2 P h har;split at hk<;>try (cases hk;done)
  ·rename_i k' k hs' hd';cases hk;obtain ⟨v,M',hst,rfl⟩:=plain rfl;refine Qc8 P h hd hz hst ⟨(Qem _).2 h2,trivial⟩ ?_;simp only [List.map_cons,List.map_nil,V.dems] at hst;generalize (ar.val σ.s).dem=xv at hst h1;cases xv<;>try (simp [Qk] at hst;done)
   rename_i dx;cases dx<;>try (simp [Qk] at hst;done)
   simp only [Qk,Option.some.injEq,Prod.mk.injEq] at hst;obtain ⟨rfl,rfl⟩:=hst;obtain ⟨val,hr,hrf⟩:=Qbed P s d k (by simp [hs']) hd' h1;exact ⟨rfl,val,by simp only [execOp,hop];exact Qio P _ hr,hrf⟩
 case makeFunc fn first cap =>
  cases fn<;>simp only at hk<;>try (cases hk;done)
  rename_i f;split at hk<;>try (cases hk;done)
  rename_i h0;simp only [Option.map_eq_some_iff,Prod.mk.injEq] at hk;obtain ⟨as',has,rfl,rfl,rfl⟩:=hk;obtain ⟨v,M',hst,rfl⟩:=plain rfl;obtain ⟨h1,h2⟩:=Qep P h _ _ _ _ has;obtain ⟨hM,hrf⟩:=Qbej f h1 hst;refine Qc8 P h hd hz hst h2 ⟨hM,_,?_,hrf⟩;have hf:first = #[]:=Array.eq_empty_of_size_eq_zero h0
  subst hf;simp only [execOp,hop];refine Qio P _ ?_;have e:(cap.toList.map a.eval).toArray=cap.map a.eval:=by apply Array.ext';simp
  rw [e];simp only [Instr.makeFunc,Array.map_empty,Sem.run_pure]
 case makeSlice t l c =>
  split at hk<;>try (cases hk;done)
  rename_i e ht;split at hk<;>try (cases hk;done)
  rename_i z as' hze has;simp only [Option.some.injEq,Prod.mk.injEq] at hk;obtain ⟨rfl,rfl,rfl⟩:=hk;obtain ⟨v,M',hst,rfl⟩:=plain rfl;obtain ⟨h1,h2⟩:=Qep P h _ _ _ _ has;generalize V.dems (as'.map (·.val σ.s))=xs at hst h1
  match xs,h1 with
  | [x',y'],⟨u1,us1,e1,r1,u2,us2,e2,r2,e3⟩ =>
   simp only [List.map_cons,List.map_nil,List.cons.injEq] at e1;obtain ⟨rfl,rfl⟩:=e1;simp only [List.cons.injEq] at e2;obtain ⟨rfl,rfl⟩:=e2;obtain ⟨val,w',g',hr,hsr⟩:=Qbce P h hd t e ht hze hκ hκ' r1 r2 hst;exact .inl ⟨val,w',g',by simp only [execOp,hop];exact Qio P _ hr,hsr⟩
 case buildSlice t n ps =>
  split at hk<;>try (cases hk;done)
  rename_i e ht;split at hk
  ·rename_i hlit;simp only [Bool.and_eq_true] at hlit;cases hdst:o.dst with
   | none=>rw [hdst] at hlit;simp [inL] at hlit
   | some d =>
    unfold Qxy at hk;split at hk<;>try (cases hk;done)
    rename_i _ _ _ z0 u hze hps;split at hk<;>try (cases hk;done)
    rename_i x hcx;split at hk<;>try (cases hk;done)
    rename_i h1;simp only [Option.some.injEq,Prod.mk.injEq] at hk;obtain ⟨rfl,rfl,rfl⟩:=hk;simp only [if_true,List.map_cons,List.map_nil,Arg.val,Qk,Qe4] at hs;split at hs<;>cases hs;rename_i v M' hst;split at hst<;>cases hst;obtain ⟨val,w',g',hr,hsr⟩:=Qbfz P h (hd d hdst) t e ht hze h1 (Q35 P hcx).1;refine .inl ⟨val,w',g',?_,by rw [hdst];exact hsr⟩;simp only [execOp,hop];refine Qio P _ ?_;rw [← hr];have:ps = #[(0,.const u)]:=by apply Array.ext';simpa using hps
    subst this;have:a.eval (.const u)=u:=rfl;simp [this]
  split at hk<;>try (cases hk;done)
  rename_i z as' hze has;split at hk<;>try (cases hk;done)
  rename_i hn;simp only [Option.some.injEq,Prod.mk.injEq] at hk;obtain ⟨rfl,rfl,rfl⟩:=hk;obtain ⟨v,M',hst,rfl⟩:=plain rfl;obtain ⟨h1,h2⟩:=Qep P h _ _ _ _ has;obtain ⟨val,w',g',hr,hsr⟩:=Q9m P h hd t e ht hze n hn _ hκ hκ' Qng h1 h2 hst;refine .inl ⟨val,w',g',?_,hsr⟩;simp only [execOp,hop];refine Qio P _ ?_;rw [← hr,Qy8]
 case slice t x lo hi mx =>
  cases mx with
  | some _=>cases hk
  | none =>
   simp only at hk;split at hk<;>try (cases hk;done)
   rename_i e ht;split at hk<;>try (cases hk;done)
   rename_i h0;split at hk
   ·rename_i hcond;simp only [Bool.and_eq_true] at hcond;obtain ⟨⟨⟨hdc,hxt⟩,hlo⟩,hhi⟩:=hcond;cases hi with
    | some _=>simp at hhi
    | none =>
    cases lo with
    | none=>simp at hlo
    | some lv =>
    simp only [Option.map_eq_some_iff,Prod.mk.injEq] at hk;obtain ⟨as',has,rfl,rfl,rfl⟩:=hk;simp only [Option.toList,List.cons_append,List.nil_append,Qfg] at has;split at has<;>try (cases has;done)
    rename_i a0 as1 ha0 has1;cases has;split at has1<;>try (cases has1;done)
    rename_i a1 as2 ha1 has2;cases has2;cases has1;obtain ⟨d,hdst⟩ : ∃ d,o.dst=some d:=by
     cases hdd:o.dst with
     | none=>rw [hdd] at hdc;simp [inL] at hdc
     | some d=>exact ⟨d,rfl⟩
    simp only [if_true,List.map_cons,List.map_nil] at hs;split at hs<;>cases hs;rename_i v M' hst;rcases Qt6 P h ha0 with ⟨t0,rfl,rfl,h1,h2⟩|⟨hx,_⟩
    ·obtain ⟨val,g',hr,hsr⟩:=Qbeq P h t e ht h0 t0 d (hd d hdst) ha1 hst;refine .inl ⟨val,w,g',by simp only [execOp,hop];exact Qio P _ hr,?_⟩;rw [hdst];exact hsr
    ·simp [hx] at hxt
   split at hk<;>try (cases hk;done)
   rename_i as' has;simp only [Option.some.injEq,Prod.mk.injEq] at hk;obtain ⟨rfl,rfl,rfl⟩:=hk;obtain ⟨v,M',hst,rfl⟩:=plain rfl;obtain ⟨h1,h2⟩:=Qep P h _ _ _ _ has;refine Qc8 P h hd hz hst h2 ?_;generalize V.dems (as'.map (·.val σ.s))=xs at hst h1
   match xs,h1 with
   | x'::bs,⟨u1,us1,e1,r1,e2⟩ =>
    simp only [List.cons_append,List.nil_append,List.map_cons,List.cons.injEq] at e1;obtain ⟨rfl,rfl⟩:=e1;obtain ⟨hM,val,hr,hrf⟩:=Q6y P t e ht h0 (lo.map a.eval) (hi.map a.eval) r1 (by cases lo<;>cases hi<;>simpa using e2) (by simpa using hst);exact ⟨hM,val,by simp only [execOp,hop];exact Qio P _ (by simpa using hr),hrf⟩
 case field t x f =>
  split at hk<;>try (cases hk;done)
  rename_i fs hfs;split at hk<;>try (cases hk;done)
  rename_i fd ar hfd har;split at hk<;>try (cases hk;done)
  rename_i hu;obtain ⟨d,hu⟩:=Option.isSome_iff_exists.1 hu;cases hk;obtain ⟨v,M',hst,rfl⟩:=plain rfl;obtain ⟨h1,h2⟩:=Qh2 P h har;obtain ⟨hM,val,hr,hrf⟩:=Qbca P t fs hfs f fd hfd hu (Qef _) h1 hst;exact Qc8 P h hd hz hst ⟨(Qem _).2 h2,trivial⟩ ⟨hM,val,by simp only [execOp,hop];exact Qio P _ hr,hrf⟩
 case indexAddr t x i =>
  split at hk<;>try (cases hk;done)
  ·rename_i e ht;simp only [Option.bind_eq_some_iff] at hk;obtain ⟨as',has,hk⟩:=hk;split at hk<;>try (cases hk;done)
   rename_i h0;cases hk;obtain ⟨v,M',hst,rfl⟩:=plain rfl;obtain ⟨h1,h2⟩:=Qep P h _ _ _ _ has;refine Qc8 P h hd hz hst h2 ?_;generalize V.dems (as.map (·.val σ.s))=xs at hst h1
   match xs,h1 with
   | [x',y'],⟨u1,us1,e1,r1,u2,us2,e2,r2,e3⟩ =>
    simp only [List.map_cons,List.map_nil,List.cons.injEq] at e1;obtain ⟨rfl,rfl⟩:=e1;simp only [List.cons.injEq] at e2;obtain ⟨rfl,rfl⟩:=e2;obtain ⟨hM,val,hr,hrf⟩:=Qbft P t e ht h0 r1 r2 hst;exact ⟨hM,val,by simp only [execOp,hop];exact Qio P _ hr,hrf⟩
  ·rename_i n e ht;simp only [Option.bind_eq_some_iff] at hk;obtain ⟨as',has,hk⟩:=hk;split at hk<;>try (cases hk;done)
   rename_i h0;cases hk;obtain ⟨v,M',hst,rfl⟩:=plain rfl;obtain ⟨h1,h2⟩:=Qep P h _ _ _ _ has;refine Qc8 P h hd hz hst h2 ?_;generalize V.dems (as.map (·.val σ.s))=xs at hst h1
   match xs,h1 with
   | [x',y'],⟨u1,us1,e1,r1,u2,us2,e2,r2,e3⟩ =>
    simp only [List.map_cons,List.map_nil,List.cons.injEq] at e1;obtain ⟨rfl,rfl⟩:=e1;simp only [List.cons.injEq] at e2;obtain ⟨rfl,rfl⟩:=e2;obtain ⟨hM,val,hr,hrf⟩:=Q9i P t e n ht h0 r1 r2 hst;exact ⟨hM,val,by simp only [execOp,hop];exact Qio P _ hr,hrf⟩
 case index t x i =>
  split at hk<;>try (cases hk;done)
  ·rename_i n e ht;split at hk<;>try (cases hk;done)
   rename_i hu;have hu:∃ d,P.underlying e=some d:=by
    cases hd' : P.underlying e with
    | none=>simp [hd'] at hu
    | some d=>exact ⟨d,rfl⟩
   obtain ⟨d,hu⟩:=hu;simp only [Option.map_eq_some_iff,Prod.mk.injEq] at hk;obtain ⟨as',has,rfl,rfl,rfl⟩:=hk;obtain ⟨v,M',hst,rfl⟩:=plain rfl;obtain ⟨h1,h2⟩:=Qep P h _ _ _ _ has;refine Qc8 P h hd hz hst h2 ?_;have hfl:∀ x∈V.dems (as'.map (·.val σ.s)),Flat x:=Qng;generalize V.dems (as'.map (·.val σ.s))=xs at hst h1 hfl
   match xs,h1 with
   | [x',y'],⟨u1,us1,e1,r1,u2,us2,e2,r2,e3⟩ =>
    simp only [List.map_cons,List.map_nil,List.cons.injEq] at e1;obtain ⟨rfl,rfl⟩:=e1;simp only [List.cons.injEq] at e2;obtain ⟨rfl,rfl⟩:=e2;obtain ⟨hM,val,hr,hrf⟩:=Q9j P t e n ht hu (hfl _ (by simp)) r1 r2 hst;exact ⟨hM,val,by simp only [execOp,hop];exact Qio P _ hr,hrf⟩
  ·rename_i ht;simp only [Option.map_eq_some_iff,Prod.mk.injEq] at hk;obtain ⟨as',has,rfl,rfl,rfl⟩:=hk;obtain ⟨v,M',hst,rfl⟩:=plain rfl;obtain ⟨h1,h2⟩:=Qep P h _ _ _ _ has;refine Qc8 P h hd hz hst h2 ?_;generalize V.dems (as'.map (·.val σ.s))=xs at hst h1
   match xs,h1 with
   | [x',y'],⟨u1,us1,e1,r1,u2,us2,e2,r2,e3⟩ =>
    simp only [List.map_cons,List.map_nil,List.cons.injEq] at e1;obtain ⟨rfl,rfl⟩:=e1;simp only [List.cons.injEq] at e2;obtain ⟨rfl,rfl⟩:=e2;obtain ⟨hM,val,hr,hrf⟩:=Qbef P t ht r1 r2 hst;exact ⟨hM,val,by simp only [execOp,hop];exact Qio P _ hr,hrf⟩
 case build t ps =>
  split at hk<;>try (cases hk;done)
  ·rename_i fs z ht hze;split at hk<;>try (cases hk;done)
   rename_i hft;simp only [List.all_eq_true] at hft;split at hk<;>try (cases hk;done)
   rename_i pl as' hpl has;simp only [Option.some.injEq,Prod.mk.injEq] at hk;obtain ⟨rfl,rfl,htk⟩:=hk;cases tk with
   | false =>
    obtain ⟨v,M',hst,rfl⟩:=plain rfl;obtain ⟨h1,h2⟩:=Qep P h _ _ _ _ has;obtain ⟨hM,val,hr,hrf⟩:=Qt5 P t fs ht hze _ pl hpl hft Qng h1 hst;refine Qc8 P h hd hz hst h2 ⟨hM,val,?_,hrf⟩;simp only [execOp,hop];exact Qio P _ (by rw [← hr,Qy8])
   | true =>
    cases hdst:o.dst with
    | none=>simp [hdst] at htk
    | some d =>
     simp only [if_true,Qb1] at hs;split at hs<;>cases hs;rename_i v M' hst;obtain ⟨rfl,val,g',hr,hsr⟩:=Q9r P h (hd d hdst) has (by simp only [Bool.and_eq_true] at htk;exact htk.1.2) hz (R:=Instr.build t ((ps.toList.map (·.1)).zip ((ps.toList.map (·.2)).map a.eval)).toArray) (fun g2 xs' v' M'' hfl hrf hst'=>(Qt5 P t fs ht hze _ pl hpl hft hfl hrf hst').2) hst;refine .inl ⟨val,w,g',?_,?_⟩
     ·simp only [execOp,hop];exact Qio P _ (by rw [← hr,Qy8])
     ·rw [hdst];exact hsr
  ·rename_i n e z ht hze;split at hk<;>try (cases hk;done)
   rename_i hie;simp only [Option.map_eq_some_iff,Prod.mk.injEq] at hk;obtain ⟨as',has,rfl,rfl,rfl⟩:=hk;obtain ⟨v,M',hst,rfl⟩:=plain rfl;obtain ⟨h1,h2⟩:=Qep P h _ _ _ _ has;obtain ⟨hM,val,hr,hrf⟩:=Q1a P t e n ht (by cases hq:P.info? e with|none=>simp [hq] at hie|some _=>rfl) hze (ps.toList.map (·.1)) Qng h1 (by rw [List.map_map];exact hst);refine Qc8 P h hd hz hst h2 ⟨hM,val,?_,hrf⟩;simp only [execOp,hop];exact Qio P _ (by rw [← hr,Qy8])
 case makeMap t r =>
  split at hk<;>try (cases hk;done)
  rename_i kt et ht;simp only [Option.map_eq_some_iff,Prod.mk.injEq] at hk;obtain ⟨as',has,rfl,rfl,rfl⟩:=hk;obtain ⟨v,M',hst,rfl⟩:=plain rfl;obtain ⟨h1,h2⟩:=Qep P h _ _ _ _ has;obtain ⟨val,w',g',hr,hsr⟩:=Qbcj P h hd t ht h1 hκ hκ' (r.map a.eval) (by cases r<;>rfl) hst;exact .inl ⟨val,w',g',by simp only [execOp,hop];exact Qio P _ hr,hsr⟩
 case lookup t x i c =>
  split at hk<;>try (cases hk;done)
  rename_i kt kd z hmk;simp only [Option.map_eq_some_iff,Prod.mk.injEq] at hk;obtain ⟨as',has,rfl,rfl,rfl⟩:=hk;obtain ⟨v,M',hst,rfl⟩:=plain rfl;obtain ⟨h1,h2⟩:=Qep P h _ _ _ _ has;have old:∀ {k' : K},k' = .lookup kd c z→k'.okz→Qk n0 κ k' (V.dems (as'.map (·.val σ.s))) σ.M=some (v,M')→Gives P n0 nt g0 w0 o a w ⟨Qbf σ.s o.dst v,M',σ.nb⟩:=by
   rintro _ rfl hz hst;refine Qc8 P h hd hz hst h2 ?_;generalize V.dems (as'.map (·.val σ.s))=xs at hst h1;obtain ⟨x',y',rfl,r1,r2⟩:=Qz5 (by simpa using h1);obtain ⟨hM,val,hr,hrf⟩:=Q9x P t hmk c h.mem r1 r2 hst;exact ⟨hM,val,by simp only [execOp,hop];exact Qio P _ hr,hrf⟩
  cases hzn:Q88 P t with
  | none=>rw [hzn] at hst hz;exact old rfl hz hst
  | some zn =>
   rw [hzn] at hst hz;simp only at hst hz;by_cases hT:(!c&&inL T.mpt o.dst)=true
   ·rw [if_pos hT] at hst;obtain rfl:c=false:=by
     cases c
     ·rfl
     ·simp at hT
    generalize V.dems (as'.map (·.val σ.s))=xs at hst h1;obtain ⟨x',y',rfl,r1,r2⟩:=Qz5 (by simpa using h1);obtain ⟨val,g',hr,hsr⟩:=Q8b P h hd t hmk hzn r1 r2 hst;exact .inl ⟨val,w,g',by simp only [execOp,hop];exact Qio P _ hr,hsr⟩
   ·rw [if_neg hT] at hst hz;exact old rfl hz hst
 case mapUpdate t m k x =>
  split at hk<;>try (cases hk;done)
  rename_i kt kd z kt' et hmk ht;split at hk<;>try (cases hk;done)
  rename_i hdst;simp only [Option.map_eq_some_iff] at hk;obtain ⟨as',has,hk⟩:=hk;by_cases hT:inL T.mpt (tmpO x)=true
  ·rw [if_pos hT] at hk;simp only [Prod.mk.injEq] at hk;obtain ⟨rfl,rfl,rfl⟩:=hk;simp only [if_true] at hs;split at hs<;>cases hs;rename_i v M' hst;obtain ⟨w',g',hr,hsr⟩:=Qz7 P h has hT t hmk hst;refine .inr ⟨w',g',by simp only [execOp,hop];exact Q53 P _ hr,?_⟩;rw [Option.isNone_iff_eq_none.1 hdst];exact hsr
  rw [if_neg hT] at hk;simp only [Prod.mk.injEq] at hk;obtain ⟨rfl,rfl,rfl⟩:=hk;obtain ⟨v,M',hst,rfl⟩:=plain rfl;obtain ⟨h1,h2⟩:=Qep P h _ _ _ _ has;generalize V.dems (as'.map (·.val σ.s))=xs at hst h1;obtain ⟨x',y',z',rfl,r1,r2,r3⟩:=Qz6 (by simpa using h1);obtain ⟨w',hr,hsr⟩:=Q4b P h hd t hmk r1 r2 r3 hst;exact .inr ⟨w',g,by simp only [execOp,hop];exact Q53 P _ hr,hsr⟩
 case insert t m k x =>
  split at hk<;>try (cases hk;done)
  rename_i kt kd z kt' et hmk ht;split at hk<;>try (cases hk;done)
  rename_i hdst;simp only [Option.map_eq_some_iff] at hk;obtain ⟨as',has,hk⟩:=hk;by_cases hT:inL T.mpt (tmpO x)=true
  ·rw [if_pos hT] at hk;simp only [Prod.mk.injEq] at hk;obtain ⟨rfl,rfl,rfl⟩:=hk;simp only [if_true] at hs;split at hs<;>cases hs;rename_i v M' hst;obtain ⟨w',g',hr,hsr⟩:=Qz7 P h has hT t hmk hst;refine .inr ⟨w',g',by simp only [execOp,hop];exact Q53 P _ hr,?_⟩;rw [Option.isNone_iff_eq_none.1 hdst];exact hsr
  rw [if_neg hT] at hk;simp only [Prod.mk.injEq] at hk;obtain ⟨rfl,rfl,rfl⟩:=hk;obtain ⟨v,M',hst,rfl⟩:=plain rfl;obtain ⟨h1,h2⟩:=Qep P h _ _ _ _ has;generalize V.dems (as'.map (·.val σ.s))=xs at hst h1;obtain ⟨x',y',z',rfl,r1,r2,r3⟩:=Qz6 (by simpa using h1);obtain ⟨w',hr,hsr⟩:=Q4b P h hd t hmk r1 r2 r3 hst;exact .inr ⟨w',g,by simp only [execOp,hop];exact Q53 P _ hr,hsr⟩
 case mapEntry t m k =>
  split at hk<;>try (cases hk;done)
  rename_i kt kd z hmk;simp only [Option.map_eq_some_iff,Prod.mk.injEq] at hk;obtain ⟨as',has,rfl,rfl,rfl⟩:=hk;obtain ⟨v,M',hst,rfl⟩:=plain rfl;obtain ⟨h1,h2⟩:=Qep P h _ _ _ _ has;generalize V.dems (as'.map (·.val σ.s))=xs at hst h1;obtain ⟨x',y',rfl,r1,r2⟩:=Qz5 (by simpa using h1);obtain ⟨val,w',hr,hsr⟩:=Q52 P h hd t hmk r1 r2 hst;exact .inl ⟨val,w',g,by simp only [execOp,hop];exact Qio P _ hr,hsr⟩
 case entryStore t m st x =>
  split at hk<;>try (cases hk;done)
  split at hk<;>try (cases hk;done)
  rename_i hdst;simp only [Option.map_eq_some_iff,Prod.mk.injEq] at hk;obtain ⟨as',has,rfl,rfl,rfl⟩:=hk;obtain ⟨v,M',hst,rfl⟩:=plain rfl;obtain ⟨h1,h2⟩:=Qep P h _ _ _ _ has;generalize V.dems (as'.map (·.val σ.s))=xs at hst h1;obtain ⟨x',y',z',rfl,r1,r2,r3⟩:=Qz6 (by simpa using h1);obtain ⟨w',hr,hsr⟩:=Q2y P h hd t r1 r2 r3 hst;exact .inr ⟨w',g,by simp only [execOp,hop];exact Q53 P _ hr,hsr⟩
 case call cl =>
  cases hcl:cl.callee<;>rw [hcl] at hk<;>(try simp only at hk)
  case invoke=>cases hk
  case value f =>
   cases f<;>(try simp only at hk)<;>try (cases hk;done)
   ·simp only [Option.map_eq_some_iff,Prod.mk.injEq] at hk;obtain ⟨as',has,rfl,rfl,rfl⟩:=hk;simp [K.isCall] at hcall
   ·split at hk<;>try (cases hk;done)
    simp only [Option.map_eq_some_iff,Prod.mk.injEq] at hk;obtain ⟨as',has,rfl,rfl,rfl⟩:=hk;simp [K.isCall] at hcall
  case builtin b =>
   have hex:∀ val w',((builtin b cl.argTypes o.type (cl.args.map fun | .const _=>true|_=>false) (cl.args.map a.eval)).run P w = .ok (.value val) w')→(execOp a.eval o).run P w = .ok (.value val) w':=by
    intro val w' hr;simp only [execOp,hop,resolve,hcl,invoke,Sem.run_bind,Sem.run_pure,Result.andThen_ok];exact hr
   cases b<;>simp only at hk<;>try (cases hk;done)
   case append =>
    split at hk<;>try (cases hk;done)
    rename_i e e' ht ht' hsize;split at hk<;>try (cases hk;done)
    rename_i htt;split at hk<;>try (cases hk;done)
    rename_i z t0 as' hze has;split at hk<;>try (cases hk;done)
    rename_i hzl;split at hk
    ·simp only [Option.some.injEq,Prod.mk.injEq] at hk;obtain ⟨rfl,rfl,rfl⟩:=hk;obtain ⟨x0,x1,hargs⟩ : ∃ x0 x1,cl.args = #[x0,x1]:=by
      cases hl:cl.args with
      | mk l =>
       rw [hl] at hsize
       match l,hsize with
       | [x0,x1],_=>exact ⟨x0,x1,rfl⟩
     rw [hargs] at has;simp only [Qfg] at has;split at has<;>try (cases has;done)
     rename_i a0 as0 ha0 has0;split at has0<;>try (cases has0;done)
     rename_i a1 as1 ha1 has1;simp only [Option.some.injEq] at has1;subst has1;simp only [Option.some.injEq] at has0;subst has0;simp only [Option.some.injEq,List.cons.injEq] at has;obtain ⟨rfl,rfl⟩:=has;obtain ⟨v,M',hst,rfl⟩:=plain rfl;simp only [List.map_cons,List.map_nil,V.dems] at hst;rcases Qt6 P h ha0 with ⟨t1,hx0,htt1,h1,h2⟩|⟨_,c0,hc0,_⟩
     ·cases htt1;have hx1:∃ ℓ,RV g w (a1.val σ.s).dem ℓ (a.eval x1):=by
       rcases Qt6 P h ha1 with ⟨t2,_,rfl,k1,_⟩|⟨_,c1,rfl,k1,_⟩
       ·exact ⟨.free,Qh8 _ _ _ _ k1⟩
       ·exact ⟨.free,Qh8 _ _ _ _ (k1 .free)⟩
      obtain ⟨ℓ,hx1⟩:=hx1;have hsl:((Arg.t t0).val σ.s).dem=σ.s t0:=by
       rcases (Q1l hst).1 with ⟨k,off,len,cap,e1⟩|⟨_,e1⟩
       ·have:σ.s t0 = .sl (P.cellsOf e) k off len cap:=Qbfx e1;simp only [Arg.val,this,V.dem]
       ·have e1:(σ.s t0).dem=_:=e1;show (σ.s t0).dem=σ.s t0;cases hv:σ.s t0<;>rw [hv] at e1<;>first|rfl|cases e1
      rw [hsl] at hst;obtain ⟨val,w',g',hr,hsr⟩:=Qben P h hd (cl.argTypes.getD 0 0) o.type e ht hze hzl t0 hx1 hst;refine .inl ⟨val,w',g',hex val w' ?_,hsr⟩;refine Qio P _ ?_;rw [htt,hargs];subst hx0;simpa [Act.eval] using hr
     ·cases hc0
    simp only [Option.some.injEq,Prod.mk.injEq] at hk;obtain ⟨rfl,rfl,rfl⟩:=hk;obtain ⟨x0,x1,hargs⟩ : ∃ x0 x1,cl.args = #[x0,x1]:=by
     cases hl:cl.args with
     | mk l =>
      rw [hl] at hsize
      match l,hsize with
      | [x0,x1],_=>exact ⟨x0,x1,rfl⟩
    rw [hargs] at has;simp only [Qfg] at has;split at has<;>try (cases has;done)
    rename_i a0 as0 ha0 has0;split at has0<;>try (cases has0;done)
    rename_i a1 as1 ha1 has1;simp only [Option.some.injEq] at has1;subst has1;simp only [Option.some.injEq] at has0;subst has0;simp only [Option.some.injEq,List.cons.injEq] at has;obtain ⟨rfl,rfl⟩:=has;simp only [if_true,List.map_cons,List.map_nil] at hs;split at hs<;>cases hs;rename_i v M' hst;rcases Qt6 P h ha0 with ⟨t1,hx0,htt1,h1,h2⟩|⟨_,c0,hc0,_⟩
    ·cases htt1;have hx1:∃ ℓ,RV g w (a1.val σ.s) ℓ (a.eval x1):=by
      rcases Qt6 P h ha1 with ⟨t2,_,rfl,k1,_⟩|⟨_,c1,rfl,k1,_⟩
      ·exact ⟨_,k1⟩
      ·exact ⟨.free,k1 _⟩
     obtain ⟨ℓ,hx1⟩:=hx1;obtain ⟨val,w',g',hr,hsr⟩:=Q33 P h hd (cl.argTypes.getD 0 0) o.type e ht hze hzl t0 hx1 hst;refine .inl ⟨val,w',g',hex val w' ?_,?_⟩
     ·refine Qio P _ ?_;rw [htt,hargs];subst hx0;simpa [Act.eval] using hr
     ·refine Qbgz hsr (fun i=>?_);have key:∀ i,Q5 σ.s [Arg.t t0,a1] (Qb1 (.append (P.cellsOf e) (P.bytesOf e)) [Arg.val σ.s (.t t0),a1.val σ.s]) i=σ.s.put t0 (σ.s t0).dem i∨Q5 σ.s [Arg.t t0,a1] (Qb1 (.append (P.cellsOf e) (P.bytesOf e)) [Arg.val σ.s (.t t0),a1.val σ.s]) i=(σ.s.put t0 (σ.s t0).dem i).dem:=by
       intro i;cases a1 with
       | c v=>exact .inl rfl
       | t j =>
        simp only [Qb1,Q5,Arg.putTo,Sl.put,Arg.val];by_cases hij:i=j
        ·subst hij;right;rw [if_pos rfl];split
         ·rename_i he;subst he;exact (Qef _).symm
         ·rfl
        ·left;rw [if_neg hij]
      cases o.dst with
      | none=>exact key i
      | some d =>
       simp only [Qbf,Sl.put];split
       ·exact .inl rfl
       ·exact key i
    ·cases hc0
   case len =>
    split at hk<;>try (cases hk;done)
    rename_i hsz;simp only [Option.bind_eq_some_iff] at hk;obtain ⟨as',has,hk⟩:=hk;obtain ⟨h1,h2⟩:=Qep P h _ _ _ _ has;obtain ⟨u,hu1,hu2⟩:=Qbep cl.args a.eval hsz.1;rw [hu2] at h1;obtain ⟨x',hx',r1⟩:=Q92 h1;have hty:=Qbcl cl.argTypes hsz.2;split at hk<;>try (cases hk;done)
    ·rename_i e ht;cases hk;obtain ⟨v,M',hst,rfl⟩:=plain rfl;refine Qc8 P h hd hz hst h2 ?_;rw [hx'] at hst;obtain ⟨hM,val,hr,hrf⟩:=Qbfu P (cl.argTypes.getD 0 0) o.type e ht h.mem r1 hst;refine ⟨hM,val,hex val w ?_,hrf⟩;refine Qio P _ ?_;rw [hty,hu1];exact hr
    ·rename_i km em ht;cases hk;obtain ⟨v,M',hst,rfl⟩:=plain rfl;refine Qc8 P h hd hz hst h2 ?_;rw [hx'] at hst;obtain ⟨hM,val,hr,hrf⟩:=Qbeo P (cl.argTypes.getD 0 0) o.type ht h.mem r1 hst;refine ⟨hM,val,hex val w ?_,hrf⟩;refine Qio P _ ?_;rw [hty,hu1];exact hr
    ·rename_i ht;cases hk;obtain ⟨v,M',hst,rfl⟩:=plain rfl;refine Qc8 P h hd hz hst h2 ?_;rw [hx'] at hst;obtain ⟨hM,val,hr,hrf⟩:=Qbee P (cl.argTypes.getD 0 0) o.type ht r1 hst;refine ⟨hM,val,hex val w ?_,hrf⟩;refine Qio P _ ?_;rw [hty,hu1];exact hr
   case max =>
    split at hk<;>try (cases hk;done)
    rename_i hsz;simp only [Option.map_eq_some_iff,Prod.mk.injEq] at hk;obtain ⟨as',has,rfl,rfl,rfl⟩:=hk;obtain ⟨h1,h2⟩:=Qep P h _ _ _ _ has;obtain ⟨u1,u2,hu1,hu2⟩:=Q91 cl.args a.eval hsz;rw [hu2] at h1;obtain ⟨x',y',hx',r1,r2⟩:=Qz5 h1;obtain ⟨v,M',hst,rfl⟩:=plain rfl;refine Qc8 P h hd hz hst h2 ?_;rw [hx'] at hst;obtain ⟨hM,val,hr,hrf⟩:=Qbeg P cl.argTypes o.type r1 r2 hst;refine ⟨hM,val,hex val w (Qio P _ ?_),hrf⟩;rw [hu1];exact hr
   case min =>
    split at hk<;>try (cases hk;done)
    rename_i hsz;simp only [Option.map_eq_some_iff,Prod.mk.injEq] at hk;obtain ⟨as',has,rfl,rfl,rfl⟩:=hk;obtain ⟨h1,h2⟩:=Qep P h _ _ _ _ has;obtain ⟨u1,u2,hu1,hu2⟩:=Q91 cl.args a.eval hsz;rw [hu2] at h1;obtain ⟨x',y',hx',r1,r2⟩:=Qz5 h1;obtain ⟨v,M',hst,rfl⟩:=plain rfl;refine Qc8 P h hd hz hst h2 ?_;rw [hx'] at hst;obtain ⟨hM,val,hr,hrf⟩:=Qbeh P cl.argTypes o.type r1 r2 hst;refine ⟨hM,val,hex val w (Qio P _ ?_),hrf⟩;rw [hu1];exact hr
end
end Go.Abs
end
section
namespace Go.Abs
open Go
def Qk9 (P : Program) (f : FuncId) : Bool := (P.funcs[f]?).any fun fn => fn.body.isSome && fn.name != "runtime.NumGoroutine"
def Qbf0 (g:G):Prop:=∀ b,(∀ t p,g.own b ≠ .slot t p)∧∀ p,g.own b ≠ .res p
def ACalls (P:Program):Ctx:=fun f args M nb r M' nb' =>
 Qk9 P f=true∧nb≤nb'∧∀ (w:World) (g:G) (us:List Value),MR g w M nb→MOn (There M) M→Qbf0 g→RFs g w args us→(∀ x∈args,Flat x)→V.ons (There M) args →
  Calls P f us.toArray w fun e w'=>∃ v g',e = .returned v∧MR g' w' M' nb'∧RV g' w' r (.res []) v∧r.on (There M')∧MOn (There M') M'∧Fr nb g w g' w'
def hide:Owner→Owner
 | .slot t p=>.hid 0 t p
 | .res p=>.ext
 | .hid n t p=>.hid (n+1) t p
 | o=>o
def Qw6 (d:Nat):Owner→Owner
 | .slot _ _=>.ext
 | .res p=>.slot d p
 | .hid 0 t p=>.slot t p
 | .hid (n+1) t p=>.hid n t p
 | o=>o
theorem Q2z (o:Owner) (i:Nat):hide (o.sub i)=(hide o).sub i:=by cases o<;>rfl
theorem Qx3 (d:Nat) (o:Owner) (i:Nat):Qw6 d (o.sub i)=(Qw6 d o).sub i:=by
 cases o<;>try rfl
 rename_i n t p;cases n<;>rfl
theorem Qbcm {o:Owner} {k:Nat}:hide o = .box k↔o = .box k:=by cases o<;>simp [hide]
theorem Q8f {d:Nat} {o:Owner} {k:Nat}:Qw6 d o = .box k↔o = .box k:=by
 cases o<;>try simp [Qw6]
 grind
theorem MR.re {g:G} {w:World} {M:Mem} {nb:Nat} (hm:MR g w M nb) {f:Owner→Owner} (hs:∀ o i,f (o.sub i)=(f o).sub i) (he:f .ext = .ext) (hb:∀ o k,f o = .box k↔o = .box k):MR (g.re f) w M nb:=by
 refine ⟨fun k b hk=>?_,fun b o hbo=>⟨(hm.imm b o hbo).1,fun k e=>(hm.imm b o hbo).2 k ((hb _ _).1 e)⟩⟩;obtain ⟨h1,h2,h3⟩:=hm.box k b hk;refine ⟨h1,(hb _ _).2 h2,?_⟩;cases b with
 | mp es c =>
  obtain ⟨ents,hh,hr⟩:=h3;exact ⟨ents,hh,Q3z (g:=g) (g':=g.re f) (Imm.refl _ _) (fun b i hbi _=>⟨by show f (g.own b)=_;rw [hbi];have:=hs (.box k) i;rwa [(hb (.box k) k).2 rfl] at this,rfl,fun _=>Iff.rfl⟩) hr⟩
 | cells cs =>
  obtain ⟨vals,e,hh,hr,ho⟩:=h3;have:=RVs_re hs he cs (.box k) 0 vals hr;rw [(hb (.box k) k).2 rfl] at this;exact ⟨vals,e,hh,this,ho⟩
section
variable (P:Program) {g:G} {w:World} {n0 nt:Nat} {g0:G} {w0:World} {σ:St} {a:Act}
theorem Q20 {g:G} {w:World} {f:Owner→Owner} (hs:∀ o i,f (o.sub i)=(f o).sub i) (he:f .ext = .ext):∀ {vs:List V} {us:List Value},(∀ x∈vs,Flat x)→RFs g w vs us→RFs (g.re f) w vs us
 | [],us,_,h=>h
 | v::vs,us,hf,⟨u,us',e,r,h⟩=>⟨u,us',e,fun ℓ=>Qqz (hf v (by simp)) (Qw1 hs he v .ext u (r .ext)),Q20 hs he (fun x hx=>hf x (by simp [hx])) h⟩
theorem SR.behind (h:SR n0 nt g0 w0 σ a w g) {g2:G} {w2:World} {M' : Mem} {nb' : Nat} {r:V} {v:Value} {dst:Option Nat} (hd:∀ d,dst=some d→d<nt)
  (hm:MR g2 w2 M' nb') (hr:RV g2 w2 r (.res []) v) (hron:r.on (There M')) (hM:MOn (There M') M') (hf:Fr σ.nb (g.re hide) w g2 w2) (hnb:σ.nb≤nb')
  (hkeep:∀ k,There σ.M k→There M' k) (hout:∀ k cs,M' k=some (.cells cs)→k<n0→V.ons (· < n0) cs) :
  SR n0 nt g0 w0 ⟨Qbf σ.s dst r,M',nb'⟩ (a.put dst v) w2 (g2.re (Qw6 (dst.getD 0))):=by
 have hkept:Kept (g.re hide) w g2 w2 (There σ.M) Prot:=by
  refine ⟨hf.imm,fun k hk=>?_,fun b hb hlt=>hf.old b hlt hb⟩;obtain ⟨b,hb⟩:=Option.isSome_iff_exists.1 hk;exact hf.box k (h.mem.box k b hb).1
 have hps:∀ ℓ i,Prot ℓ→Prot (ℓ.sub i):=by intro ℓ i hp;cases ℓ<;>simp_all [Prot,Owner.sub]
 refine ⟨hm.re (Qx3 _) rfl (fun o k=>Q8f),Qgk (fun d hd'=>by rw [h.size];exact hd d hd') (fun t ht=>?_) (fun d hd'=>?_),(Qhs _ _ _).trans h.size,(Qe2 _ _ _).trans h.defers,
  Qgl (fun t=>Qgj hkeep _ (h.onS t)) hron,fun k cs hk=>⟨hM k cs hk,hout k cs hk⟩,Nat.le_trans h.top hnb,?_⟩
 ·have h1:=Qw1 Q2z rfl _ _ _ (h.slots t);have h2:=Qfl hkept hps trivial _ _ _ (show Prot (hide (.slot t [])) from trivial) (h.onS t) h1;exact Qw1 (Qx3 _) rfl _ _ _ h2
 ·have:=Qw1 (Qx3 (dst.getD 0)) rfl _ _ _ hr;simpa [Qw6,hd'] using this
 ·have hle:n0≤σ.nb:=by have:=h.top;omega
  have hfr:=h.fr;refine ⟨hf.os.trans hfr.os,hf.tape.trans hfr.tape,hf.output.trans hfr.output,Nat.le_trans hfr.size hf.size,⟨fun b o hb=>hf.imm.mono b o (hfr.imm.mono b o hb),fun b o hb=>(hf.imm.look b o (hfr.imm.mono b o hb)).trans (hfr.imm.look b o hb)⟩,
   fun k hk=>(hf.box k (by omega)).trans (hfr.box k hk),fun b hb ho=>?_⟩
  obtain ⟨h1,h2,h3⟩:=hfr.old b hb ho;have hp:Prot ((g.re hide).own b):=by
   show Prot (hide (g.own b));rw [h1];cases hq:g0.own b<;>rw [hq] at ho<;>first|exact ho.elim|exact trivial
  obtain ⟨k1,k2,k3⟩:=hf.old b (Nat.lt_of_lt_of_le hb hfr.size) hp;refine ⟨?_,k2.trans h2,fun o=>(k3 o).trans (h3 o)⟩;show Qw6 _ (g2.own b)=_;rw [k1];show Qw6 _ (hide (g.own b))=_;rw [h1];cases hq:g0.own b<;>rw [hq] at ho<;>first|exact ho.elim|rfl
theorem Q8g (g:G):Qbf0 (g.re hide):=by
 intro b;constructor
 ·intro t p;show hide (g.own b)≠_;cases g.own b<;>simp [hide]
 ·intro p;show hide (g.own b)≠_;cases g.own b<;>simp [hide]
theorem Qyt {f:FuncId} (hb:Qk9 P f=true) (args:Array Value) (w:World):(callFunc f args).run P w = .ok (.enter f args) w:=by
 unfold Qk9 at hb;cases hf:P.funcs[f]? with
 | none=>simp [hf] at hb
 | some fn =>
  simp only [hf,Option.any_some,Bool.and_eq_true,bne_iff_ne,ne_eq] at hb
  have h1 : (fn.name == "runtime.NumGoroutine") = false := by simpa using hb.2
  have h2:fn.body.isNone=false:=by simp_all
  have h3 : ¬ fn.name = "runtime.NumGoroutine" := hb.2
  have h4:¬ fn.body=none:=by intro e;simp [e] at h2
  simp [callFunc,hf,h3,h4]
theorem Q1u {g:G} {w:World}:∀ {xs ys:List V} {us vs:List Value},RFs g w xs us→RFs g w ys vs→RFs g w (xs++ys) (us++vs)
 | [],ys,us,vs,h,k=>by grind [RFs]
 | x::xs,ys,us,vs,⟨u,us',e,r,h⟩,k=>by subst e;exact ⟨u,us'++vs,by simp,r,Q1u h k⟩
theorem Q1v {g:G} {w:World}:∀ {cs:List V} {i:Nat} {us:List Value},RVs g w (V.dems cs) .free i us→RFs g w (V.dems cs) us
 | [],i,us,h=>by simpa [V.dems,RVs,RFs] using h
 | c::cs,i,us,h=>by
  simp only [V.dems,RVs] at h;obtain ⟨u,us',rfl,h1,h2⟩:=h;exact ⟨u,us',rfl,fun ℓ=>Qqz (Qef c) h1,Q1v h2⟩
end
end Go.Abs
end
section
namespace Go.Abs
open Go
section
variable {P:Program} {C:Ctx} {g:G} {w:World} {n0 nt:Nat} {g0:G} {w0:World} {σ:St} {a:Act}
theorem Q54 {T:Tk} {ops:Array Oper} {o:Oper} {c:COp} (hc:Qkd P T nt ops o=some c) (hcall:c.kind.isCall=true) (h:SR n0 nt g0 w0 σ a w g) {f:FuncId} {args:List V} (hcal:c.callee σ.s=some (f,args)) (hb:Qk9 P f=true) :
  c.dst=o.dst∧(∀ d,o.dst=some d→d<nt)∧∃ us:List Value,(execOp a.eval o).run P w = .ok (.enter f us.toArray) w∧RFs g w args us∧(∀ x∈args,Flat x)∧V.ons (There σ.M) args:=by
 obtain ⟨k,as,tk,hk,hd,hcd,hck,hca⟩ : ∃ k as tk,Qk8 P T o=some (k,as,tk)∧(∀ d,o.dst=some d→d<nt)∧c.dst=o.dst∧c.kind=k∧c.args=as:=by
  unfold Qkd at hc;split at hc<;>try (cases hc;done)
  rename_i k as tk hk;split at hc<;>try (cases hc;done)
  rename_i hcond;simp only [Bool.and_eq_true,decide_eq_true_eq] at hcond;refine ⟨k,as,tk,hk,fun d hd=>?_,?_⟩
  ·grind [Qbb5]
  grind
 refine ⟨hcd,hd,?_⟩;rw [hck] at hcall;simp only [COp.callee,hck,hca] at hcal;clear hcd hck hca hc;have nocall:∀ {k:K},k.isCall=true→(∃ f,k = .call f)∨k = .callv:=by intro k hk;cases k<;>simp_all [K.isCall]
 have hcl:∃ cl x,o.op = .call cl∧cl.callee = .value x:=by
  unfold Qk8 Qxy at hk;cases hop:o.op<;>rw [hop] at hk<;>(try simp only at hk)
  case call cl =>
   cases hcl:cl.callee with
   | value x=>grind
   | invoke=>rw [hcl] at hk;cases hk
   | builtin b =>
    grind [Option.bind_eq_some_iff,Option.map_eq_some_iff,Option.some.injEq,Prod.mk.injEq,K.isCall]
  all_goals
   exfalso
   (repeat' split at hk)<;>first
    | (cases hk;done)
    | (simp only [Option.bind_eq_some_iff,Option.map_eq_some_iff,Option.some.injEq,Prod.mk.injEq] at hk;grind [K.isCall])
 obtain ⟨cl,x,hop,hcl⟩:=hcl;unfold Qk8 at hk;rw [hop] at hk;simp only [hcl] at hk;cases x<;>(try simp only at hk)<;>try (cases hk;done)
 case tmp t =>
  simp only [Option.map_eq_some_iff,Prod.mk.injEq] at hk;obtain ⟨as',has,rfl,rfl,rfl⟩:=hk;simp only [List.map_cons,Arg.val] at hcal;cases hst:σ.s t<;>rw [hst] at hcal<;>simp only at hcal<;>try (cases hcal;done)
  rename_i f' caps;simp only [Option.some.injEq,Prod.mk.injEq] at hcal;obtain ⟨rfl,rfl⟩:=hcal;obtain ⟨h1,h2⟩:=Qep P h _ _ _ _ has;have hslot:=h.slots t;have hon:=h.onS t;rw [hst] at hslot hon;simp only [RV] at hslot;obtain ⟨vs,hvs,hr⟩:=hslot;refine ⟨cl.args.toList.map a.eval++vs,?_,?_,?_,?_⟩
  ·have hev:a.eval (.tmp t) = .func (.func f') #[] vs.toArray:=hvs;have e:cl.args.map a.eval++vs.toArray=(cl.args.toList.map a.eval++vs).toArray:=by apply Array.ext';simp
   grind [Go.execOp,Go.resolve,Go.Sem.run_bind,Go.Deferred.ofValue,Go.Sem.run_pure,Go.Result.andThen_ok,Go.invoke,Qyt]
  ·exact Q1u h1 (Q1v (RVs_dem caps .ext .free 0 0 vs hr))
  ·grind [Qng]
  ·exact Qen.2 ⟨h2,(ons_dems caps).2 hon⟩
 case func f' =>
  split at hk<;>try (cases hk;done)
  simp only [Option.map_eq_some_iff,Prod.mk.injEq] at hk;obtain ⟨as',has,rfl,rfl,rfl⟩:=hk;simp only [Option.some.injEq,Prod.mk.injEq] at hcal;obtain ⟨rfl,rfl⟩:=hcal;obtain ⟨h1,h2⟩:=Qep P h _ _ _ _ has;refine ⟨cl.args.toList.map a.eval,?_,h1,Qng,h2⟩;have hev:a.eval (.func f') = .func (.func f') #[] #[]:=rfl;have e:cl.args.map a.eval ++ #[]=(cl.args.toList.map a.eval).toArray:=by apply Array.ext';simp
  grind [Go.execOp,Go.resolve,Go.Sem.run_bind,Go.Deferred.ofValue,Go.Sem.run_pure,Go.Result.andThen_ok,Go.invoke,Qyt]
def Q93 (P:Program) (C:Ctx):Prop:=∀ f args M nb r M' nb',C f args M nb r M' nb'→ACalls P f args M nb r M' nb'
theorem Q4c {T:Tk} {ops:Array Oper} {o:Oper} {c:COp} (hc:Qkd P T nt ops o=some c) :
  (o.guard=none∧c.guard=none)∨∃ j want t,o.guard=some (j,want)∧(ops[j]?).bind (·.dst)=some t∧c.guard=some (t,want):=by
 unfold Qkd at hc
 grind
theorem Q1w {T:Tk} {ops:Array Oper} {o:Oper} {c:COp} (hc:Qkd P T nt ops o=some c):c.dst=o.dst∧∀ d,o.dst=some d→d<nt:=by
 unfold Qkd at hc;split at hc<;>try (cases hc;done)
 split at hc<;>try (cases hc;done)
 rename_i hcond;simp only [Bool.and_eq_true,decide_eq_true_eq] at hcond;have hd:∀ d,o.dst=some d→d<nt:=fun d hd=>by grind [Qbb5]
 grind
theorem Q94 (h:SR n0 nt g0 w0 σ a w g) {T:Tk} {ops:Array Oper} {o:Oper} {c:COp} (hc:Qkd P T nt ops o=some c) {b:Bool} (hw:c.wanted σ.s=some b) :
  Region.wanted o (yielded ops a.tmps)=b:=by
 rcases Q4c hc with ⟨h1,h2⟩|⟨j,want,t,h1,h2,h3⟩
 ·grind [COp.wanted,Option.some.injEq,Go.Region.wanted]
 ·simp only [COp.wanted,h3] at hw;have hslot:=h.slots t;cases hs:σ.s t<;>rw [hs] at hw hslot<;>(try simp only at hw)<;>try (cases hw;done)
  ·rename_i dx;cases dx<;>(try simp only at hw)<;>try (cases hw;done)
   rename_i q;simp only [Option.some.injEq] at hw;simp only [RV,RD] at hslot;have hy:yielded ops a.tmps j=some q:=by
    simp only [yielded,h2,Option.bind_some];cases ht:a.tmps[t]? with
    | none=>simp [ht,undef] at hslot
    | some v =>
     simp_all
   grind [Go.Region.wanted]
  ·rename_i vs;cases vs with
   | cons=>simp at hw
   | nil =>
    simp only [Option.some.injEq] at hw;subst hw;simp only [RV,RVs] at hslot;obtain ⟨vs,hv,rfl⟩:=hslot;have hy:yielded ops a.tmps j=none:=by
     simp only [yielded,h2,Option.bind_some];cases ht:a.tmps[t]? with
     | none=>rfl
     | some v=>simp_all
    simp [Region.wanted,h1,hy]
theorem Q1b {T:Tk} {o:Oper} {k:K} {as:List Arg} {tk:Bool} (hk:Qk8 P T o=some (k,as,tk)) (hn:k.isNil=true) :
  ∃ op t x ar e,o.op = .binOp op t x (.const (.slice none 0 0)) (match o.op with | .binOp _ _ _ _ yt=>yt|_=>0)∧Qf1 P t x=some ar∧as=[ar]∧tk=false∧P.underlying t=some (.slice e)∧(op = .eql∧k = .isnil false∨op = .neq∧k = .isnil true):=by
 unfold Qk8 Qxy at hk;cases hop:o.op<;>rw [hop] at hk<;>(try simp only at hk)
 case binOp op t x y yt =>
  split at hk<;>try (cases hk;done)
  rename_i xa ya hxa hya;split at hk<;>try (cases hk;done)
  ·grind
  all_goals grind [Option.bind_eq_some_iff,Option.map_eq_some_iff,Option.some.injEq,Prod.mk.injEq,K.isNil]
 all_goals
  grind [Option.bind_eq_some_iff,Option.map_eq_some_iff,Option.some.injEq,Prod.mk.injEq,K.isNil]
theorem Q21 (hC:Q93 P C) {T:Tk} {ops:Array Oper} {o:Oper} {c:COp} (hc:Qkd P T nt ops o=some c) {pc:Nat} {Q:St→Prop} (h:SR n0 nt g0 w0 σ a w g) (hrun:c.run C n0 pc σ Q)
  {KK:Act→World→Prop} {QQ:Exit→Act→World→Prop} (hK:∀ σ' a' w' g',Q σ'→SR n0 nt g0 w0 σ' a' w' g'→KK a' w') :
  if Region.wanted o (yielded ops a.tmps) then o.wp P a w KK QQ else KK (a.put o.dst undef) w:=by
 obtain ⟨hdst,hd⟩:=Q1w hc;unfold COp.run at hrun;cases hw:c.wanted σ.s with
 | none=>grind
 | some b =>
  rw [Q94 h hc hw];rw [hw] at hrun;cases b with
  | false =>
   simp only [Bool.false_eq_true,if_false];refine hK _ _ _ g hrun ?_;rw [hdst];exact h.pure hd (fun _ _=>by simp [RV,RVs,undef]) trivial
  | true =>
   simp only [if_true] at hrun ⊢;cases hcall:c.kind.isCall with
   | true =>
    rw [hcall] at hrun;simp only [if_true] at hrun;cases hcal:c.callee σ.s with
    | none=>grind
    | some fa =>
     obtain ⟨f,args⟩:=fa;rw [hcal] at hrun;simp only at hrun;have key:∀ r M nb,C f args σ.M σ.nb r M nb→(∀ k,(σ.M k).isSome=true→(M k).isSome=true)→(∀ k cs,k<n0→M k=some (.cells cs)→M k=σ.M k∨V.lt.go n0 cs=true)→Q ⟨Qbf σ.s c.dst r,M,nb⟩→o.wp P a w KK QQ:=by
      intro r M nb hCc hkeep hout hq;obtain ⟨hbody,hnb,hcalls⟩:=hC _ _ _ _ _ _ _ hCc;obtain ⟨_,_,us,hex,hus,hfl,hons⟩:=Q54 hc hcall h hcal hbody;unfold Oper.wp;rw [hex];have hm:=h.mem.re Q2z rfl (fun o k=>Qbcm);have hus':=Q20 Q2z rfl hfl hus;refine (hcalls w (g.re hide) us hm h.mOn (Q8g g) hus' hfl hons).mono ?_;rintro e w' ⟨v,g',rfl,hm',hr',hron,hMon,hfr⟩;refine hK _ _ _ (g'.re (Qw6 (o.dst.getD 0))) hq ?_;rw [hdst];refine h.behind hd hm' hr' hron hMon hfr hnb hkeep fun k cs hk hlt=>?_;rcases hout k cs hlt hk with he|hl
      ·exact h.out k cs (he ▸ hk) hlt
      ·exact ons_lt cs hl
     match pc,hrun with
     | 0,⟨r,M,nb,h1,h2,h3,h4⟩=>grind
     | 1,⟨r,Δ,nb,h1,h4⟩ =>
      have hin:∀ k,(σ.M k).isSome=true→k<σ.nb:=fun k hk=>by
       obtain ⟨b,hb⟩:=Option.isSome_iff_exists.1 hk;exact (h.mem.box k b hb).1
      refine key r (σ.M.over σ.nb Δ) nb (h1 σ.M (fun _ _=>rfl) fun k hk=>?_) (fun k hk=>?_) (fun k cs hlt hk=>.inl ?_) h4
      ·cases hM:σ.M k with
       | none=>rfl
       | some b=>grind
      ·simp only [Mem.over,hin k hk,if_true];exact hk
      ·have:=h.top;simp only [Mem.over,show k<σ.nb by omega,if_true]
     | n+2,hrun =>
      have hrun:(if n<8 then _ else _):=hrun;split at hrun
      ·grind
      ·obtain ⟨r,W,Δ,nb,_,hW,hW2,h1,h4⟩:=hrun;have hin:∀ k,(σ.M k).isSome=true→k<σ.nb:=fun k hk=>by
        obtain ⟨b,hb⟩:=Option.isSome_iff_exists.1 hk;exact (h.mem.box k b hb).1
       refine key r ((σ.M.patch W).over σ.nb Δ) nb (h1 σ.M (fun _ _=>rfl) fun k hk=>?_) (fun k hk=>?_) (fun k cs hlt hk=>?_) h4
       ·cases hM:σ.M k with
        | none=>rfl
        | some b=>grind
       ·simp only [Mem.over,hin k hk,if_true,Mem.patch]
        grind
       ·have:=h.top;simp only [Mem.over,show k<σ.nb by omega,if_true,Mem.patch] at hk ⊢
        grind
   | false =>
    rw [hcall] at hrun;simp only [Bool.false_eq_true,if_false] at hrun;cases hnil:c.kind.isNil with
    | true =>
     rw [hnil] at hrun;simp only [if_true] at hrun;obtain ⟨k,as,tk,hk,hck,hca,hct⟩ : ∃ k as tk,Qk8 P T o=some (k,as,tk)∧c.kind=k∧c.args=as∧c.tk=tk:=by
      unfold Qkd at hc
      grind
     obtain ⟨op,t,x,ar,e,hop,har,rfl,rfl,hu,hkk⟩:=Q1b hk (by rw [← hck];exact hnil);obtain ⟨h1,h2⟩:=Qh2 P h har;simp only [COp.xs,hct,hca,Bool.false_eq_true,if_false,List.map_cons,List.map_nil,V.dems] at hrun;have hsl:∃ (m:Nat) (ad:Option Addr) (ln cap:Nat),Q1e [(ar.val σ.s).dem]=some m∧a.eval x = .slice ad ln cap∧(ad.isNone=true→m=0):=by
      have ofD:∀ (l:List (List D)) (sz:Nat),RD g.imm w (.lst sz l) (a.eval x)→∃ (ad:Option Addr) (ln cap:Nat),a.eval x = .slice ad ln cap∧(ad.isNone=true→l.length=0):=by
       intro l sz hrd;simp only [RD] at hrd
       grind
      cases hv:(ar.val σ.s).dem<;>rw [hv] at hrun h1<;>(try (simp [Q1e] at hrun;done))
      ·rename_i dx;cases dx<;>(try (simp [Q1e] at hrun;done));obtain ⟨ad,ln,cap,k1,k2⟩:=ofD _ _ (RF_d.1 h1);exact ⟨_,ad,ln,cap,rfl,k1,k2⟩
      ·grind [Qef,V.dem]
      ·have h2:=h1 .free;simp only [RV] at h2;obtain ⟨ad,h2⟩:=h2;exact ⟨0,ad,0,0,rfl,h2,fun _=>rfl⟩
      ·have h2:=h1 .free;simp only [RV] at h2
       grind
     obtain ⟨m,ad,ln,cap,hl,hval,hld⟩:=hsl;rw [hl] at hrun;simp only at hrun;have hb:=hrun ad.isNone hld;have hres:(execOp a.eval o).run P w = .ok (.value (.bool (if c.kind.negNil then !ad.isNone else ad.isNone))) w:=by
      simp only [execOp];rw [hop];simp only;refine Qio P _ ?_;have hev:a.eval (.const (.slice none 0 0)) = .slice none 0 0:=rfl;rw [hval,hev,Sem.run_bind,Qsc P _ _ _ _ _ _ rfl w,Result.andThen_ok];rcases hkk with ⟨rfl,rfl⟩|⟨rfl,rfl⟩
      ·rw [hck];exact Lib.run_eql_slice_nil w t e ad ln cap 0 0 hu
      ·rw [hck];exact run_neq_slice_nil_any w t e ad ln cap 0 0 hu
     unfold Oper.wp;rw [hres];refine hK _ _ _ g hb ?_;rw [hdst];exact h.pure hd (fun _ _=>by simp [RV,RD]) trivial
    | false =>
     rw [hnil] at hrun;simp only [Bool.false_eq_true,if_false] at hrun;cases hst:c.step n0 σ with
     | none=>grind
     | some σ' =>
      rw [hst] at hrun;exact (Q8e P hc hcall hnil h hst).wp P fun a' w' g' hs=>hK _ _ _ g' hrun hs
end
end Go.Abs
end
