/-
  Part 2 of the proof: see the last text.
-/
import Derived.Test.YtdckcingoapofaaGreatDoorP1
import Derived.MapKept
import Derived.Orders
set_option linter.unusedVariables false
set_option linter.unusedSimpArgs false
set_option linter.unusedSectionVars false
section
namespace Go.Abs
open Go Go.MapKept
section
variable (P:Program) {g:G} {w:World} {n0 nt:Nat} {g0:G} {w0:World} {σ:St} {a:Act}
theorem Qx6 {c:CK} {v:V} {u:Value} (hv:c.ok v=true) (hr:RF g w v u):(∃ n,∃ k,c = .int k∧v = .d (.int k n)∧u = .int k n)∨(∃ s,c = .str∧v = .d (.str s)∧u = .string s)∨(∃ b,c = .bool∧v = .d (.bool b)∧u = .bool b):=by
 cases v with
 | d x =>
  cases x<;>cases c<;>simp [CK.ok] at hv
  ·subst hv;exact .inl ⟨_,_,rfl,rfl,Qpx hr⟩
  ·exact .inr (.inr ⟨_,rfl,rfl,Q4d hr⟩)
  ·exact .inr (.inl ⟨_,rfl,rfl,Qbee hr⟩)
 | _=>cases c<;>simp [CK.ok] at hv
theorem Q0m {c:CK} {v v' : V} {u u' : Value} (h1:c.ok v=true) (h2:c.ok v'=true) (r1:RF g w v u) (r2:RF g w v' u'):Qju v v'=true↔u=u':=by
 rcases Qx6 h1 r1 with ⟨n,k,rfl,rfl,rfl⟩|⟨s,rfl,rfl,rfl⟩|⟨b,rfl,rfl,rfl⟩<;>rcases Qx6 h2 r2 with ⟨n',k',e,rfl,rfl⟩|⟨s',e,rfl,rfl⟩|⟨b',e,rfl,rfl⟩<;>cases e<;>simp [Qju,bytes_beq]
theorem Qbbq:∀ {ks:List CK} {cs:List V},okCs ks cs=true→cs.length=ks.length
 | [],[],_=>rfl
 | k::ks,c::cs,h=>by simp only [okCs,Bool.and_eq_true] at h;simp [Qbbq h.2]
 | [],_::_,h=>by simp [okCs] at h
 | _::_,[],h=>by simp [okCs] at h
theorem Q6u:∀ {ks:List CK} {cs cs' : List V} {us us' : List Value},okCs ks cs=true→okCs ks cs'=true→RFs g w cs us→RFs g w cs' us'→(Qrn cs cs'=true↔us=us')
 | [],[],[],us,us',_,_,r1,r2=>by grind [RFs,Qrn]
 | k::ks,c::cs,c'::cs',_,_,h1,h2,⟨u,us,rfl,r1,t1⟩,⟨u',us',rfl,r2,t2⟩=>by
  simp only [okCs,Bool.and_eq_true] at h1 h2;simp only [Qrn,Bool.and_eq_true,Q0m h1.1 h2.1 r1 r2,Q6u h1.2 h2.2 t1 t2,List.cons.injEq]
 | _::_,[],_,_,_,h1,_,_,_=>by simp [okCs] at h1
 | _::_,_::_,[],_,_,_,h2,_,_=>by simp [okCs] at h2
 | [],_::_,_,_,_,h1,_,_,_=>by simp [okCs] at h1
 | [],[],_::_,_,_,_,h2,_,_=>by simp [okCs] at h2
theorem Qs6 {cs:List V} {ks:List CK} {u:Value} (ho:okCs ks cs=true) (h:RF g w (.agg cs) u):∃ us:List Value,u = .agg us.toArray∧RFs g w cs us:=by
 have hf:(V.agg cs).dem = .agg cs:=by
  simp only [V.dem];congr 1;clear h
  induction cs generalizing ks with
  | nil=>rfl
  | cons c cs ih =>
   cases ks with
   | nil=>simp [okCs] at ho
   | cons k ks =>
    simp only [okCs,Bool.and_eq_true] at ho;have:c.dem=c:=by
     cases c<;>first|rfl|(cases k<;>simp [CK.ok] at ho)
    simp only [V.dems,this,ih ho.2]
 obtain ⟨us,rfl,hl,hr,h5⟩:=Q20 hf h;refine ⟨us,rfl,?_⟩;clear h hf h5
 induction cs generalizing us ks with
 | nil=>grind [RFs,List.eq_nil_of_length_eq_zero]
 | cons c cs ih =>
  cases us with
  | nil=>simp at hl
  | cons u us =>
   cases ks with
   | nil=>simp [okCs] at ho
   | cons k ks =>
    simp only [okCs,Bool.and_eq_true] at ho;exact ⟨u,us,rfl,hr 0 c u rfl rfl,ih ho.2 us (by simpa using hl) fun j c' x hc hx=>hr (j+1) c' x (by simpa using hc) (by simpa using hx)⟩
structure KLaw (P:Program) (g:G) (w:World) (kt:TypeId) (kd:MK):Prop where
 check:∀ (em:Bool) {v:V} {u:Value},kd.ok v=true→RF g w v u→(Instr.checkKey em 10000 kt u).run P w = .ok () w
 stays:∀ {v:V} {u:Value},kd.ok v=true→RF g w v u→(Instr.keyThatStays u u).run P w = .ok u w
 same:∀ {v v' : V} {u u' : Value},kd.ok v=true→kd.ok v'=true→RF g w v u→RF g w v' u'→(Qfk v v'=true↔u=u')
 find:∀ {key:V} {u:Value} (l:List (V×MapEntry)),kd.ok key=true→RF g w key u→(∀ p∈l,kd.ok p.1=true∧RF g w p.1 p.2.key) →
  ((Instr.findKey kt u (l.map (·.2))).run P w = .ok none w∧∀ p∈l,p.2.key≠u) ∨
  ∃ (j:Nat) (p:V×MapEntry),(Instr.findKey kt u (l.map (·.2))).run P w = .ok (some (j,p.2.val)) w∧l[j]? = some p∧p.2.key=u∧∀ i q,i<j→l[i]? = some q→q.2.key≠u
theorem Q6v {d:TypeDesc} {u:Value} (hu:IsKey d u):∀ (l:List (V×MapEntry)) (i:Nat),(∀ p∈l,IsKey d p.2.key) →
  (Instr.findNow d u (l.map (·.2)) i=some none∧∀ p∈l,p.2.key≠u) ∨
  ∃ (j:Nat) (p:V×MapEntry),Instr.findNow d u (l.map (·.2)) i=some (some (i+j,p.2.val))∧l[j]? = some p∧p.2.key=u∧∀ i q,i<j→l[i]? = some q→q.2.key≠u
 | [],i,_=>.inl ⟨rfl,by simp⟩
 | p::l,i,h=>by
  obtain ⟨b,hb,hiff⟩:=sameNow_of_keys hu (h p (by simp));cases b with
  | true=>exact .inr ⟨0,p,by simp [Instr.findNow,hb],rfl,(hiff.1 rfl).symm,by omega⟩
  | false =>
   have hne:p.2.key≠u:=fun e=>by grind
   rcases Q6v hu l (i+1) (fun q hq=>h q (by simp [hq])) with ⟨k1,k2⟩|⟨j,q,k1,k2,k3,k4⟩
   ·refine .inl ⟨by simp [Instr.findNow,hb,k1],fun q hq=>?_⟩
    grind
   ·refine .inr ⟨j+1,q,by simp [Instr.findNow,hb,k1];omega,by simpa using k2,k3,fun i' q' hi hq'=>?_⟩
    grind
theorem Q6w {kt:TypeId} {u:Value}:∀ (l:List (V×MapEntry)) (i:Nat),(∀ p∈l,∃ b:Bool,(Op.equal kt u p.2.key).run P w = .ok b w∧(b=true↔u=p.2.key)) →
  ((Instr.findAsking kt u (l.map (·.2)) i).run P w = .ok none w∧∀ p∈l,p.2.key≠u) ∨
  ∃ (j:Nat) (p:V×MapEntry),(Instr.findAsking kt u (l.map (·.2)) i).run P w = .ok (some (i+j,p.2.val)) w∧l[j]? = some p∧p.2.key=u∧∀ i q,i<j→l[i]? = some q→q.2.key≠u
 | [],i,_=>.inl ⟨by simp [Instr.findAsking],by simp⟩
 | p::l,i,h=>by
  obtain ⟨b,hb,hiff⟩:=h p (by simp);cases b with
  | true=>exact .inr ⟨0,p,by simp [Instr.findAsking,hb],rfl,(hiff.1 rfl).symm,by omega⟩
  | false =>
   have hne:p.2.key≠u:=fun e=>by grind
   rcases Q6w l (i+1) (fun q hq=>h q (by simp [hq])) with ⟨k1,k2⟩|⟨j,q,k1,k2,k3,k4⟩
   ·refine .inl ⟨by simp [Instr.findAsking,hb,k1],fun q hq=>?_⟩
    grind
   ·refine .inr ⟨j+1,q,by simp [Instr.findAsking,hb,k1,Nat.add_assoc,Nat.add_comm 1 j],by simpa using k2,k3,fun i' q' hi hq'=>?_⟩
    grind
theorem Q8d {kt:TypeId} {d:TypeDesc} {kd:MK} (hd:P.underlying kt=some d) (hk:∀ (v:V) (u:Value),kd.ok v=true→RF g w v u→IsKey d u)
  (hs:∀ {v v' : V} {u u' : Value},kd.ok v=true→kd.ok v'=true→RF g w v u→RF g w v' u'→(Qfk v v'=true↔u=u')):KLaw P g w kt kd where
 check:=fun em v u hv hr=>run_checkKey hd (hk _ _ hv hr) em 9999
 stays:=fun hv hr=>run_keyThatStays (hk _ _ hv hr)
 same:=hs
 find:=fun {key u} l hkey hu hl=>by
  grind [Q6v,Go.MapKept.run_findKey]
theorem Quj {t:TypeId} {c:CK} (h:Qpa P t=some c):Qiw P t=some (match c with | .int _=>0 | .bool=>1 | .str=>2):=by
 grind [Qpa,Qiw]
def CK.code:CK→Nat
 | .int _=>0
 | .bool=>1
 | .str=>2
theorem Q6x:∀ {ks:List CK} {xs ys:List V},okCs ks xs=true→okCs ks ys=true→Qd6 (ks.map CK.code) xs ys=some (Qrn xs ys)
 | [],[],[],_,_=>rfl
 | k::ks,x::xs,y::ys,h1,h2=>by
  simp only [okCs,Bool.and_eq_true] at h1 h2;have ih:=Q6x h1.2 h2.2;cases x with
  | d a =>
   cases y with
   | d b =>
    cases a<;>cases b<;>cases k<;>simp [CK.ok] at h1 h2
    ·obtain ⟨rfl,_⟩:=h1;obtain ⟨rfl,_⟩:=h2;simp [CK.code,Qd6,ih,Qrn,Qju]
    ·simp [CK.code,Qd6,ih,Qrn,Qju]
    ·simp [CK.code,Qd6,ih,Qrn,Qju,beq_toListBytes]
   | _=>cases k<;>simp [CK.ok] at h2
  | _=>cases k<;>simp [CK.ok] at h1
 | _::_,[],_,h1,_=>by simp [okCs] at h1
 | _::_,_::_,[],_,h2=>by simp [okCs] at h2
 | [],_::_,_,h1,_=>by simp [okCs] at h1
 | [],[],_::_,_,h2=>by simp [okCs] at h2
theorem Qy5:∀ {ks:List CK} {cs:List V} {us:List Value},okCs ks cs=true→RFs g w cs us→∀ n,(us.zip us).all (fun p=>Instr.sameBits n p.1 p.2)=true
 | [],[],us,_,h,_=>by simp_all [RFs]
 | k::ks,c::cs,_,h1,⟨u,us,rfl,r1,t1⟩,n=>by
  simp only [okCs,Bool.and_eq_true] at h1;simp only [List.zip_cons_cons,List.all_cons,Bool.and_eq_true];refine ⟨?_,Qy5 h1.2 t1 n⟩;rcases Qx6 h1.1 r1 with ⟨n,k,rfl,rfl,rfl⟩|⟨s,rfl,rfl,rfl⟩|⟨b,rfl,rfl,rfl⟩<;>simp [Instr.sameBits,bytes_beq]
 | _::_,[],_,h1,_,_=>by simp [okCs] at h1
 | [],_::_,_,h1,_,_=>by simp [okCs] at h1
theorem Qbft {kt:TypeId} {ks:List CK} (hd:P.underlying kt=none∨∃ d,P.underlying kt=some d∧((∃ n e,d = .array n e)∨∃ fs,d = .struct fs)) (hks:Qj9 P kt=some (ks.map CK.code))
  (hcheck:∀ (em:Bool) {cs:List V} {us:List Value},okCs ks cs=true→RFs g w cs us→(Instr.checkKey em 10000 kt (.agg us.toArray)).run P w = .ok () w):KLaw P g w kt (.st ks):=by
 have hex:∀ {v:V},(MK.st ks).ok v=true→∃ cs,v = .agg cs∧okCs ks cs=true:=by
  intro v h;cases v<;>simp [MK.ok] at h;exact ⟨_,rfl,h⟩
 have hsame:∀ {v v' : V} {u u' : Value},(MK.st ks).ok v=true→(MK.st ks).ok v'=true→RF g w v u→RF g w v' u'→(Qfk v v'=true↔u=u'):=by
  intro v v' u u' h1 h2 r1 r2;obtain ⟨cs,rfl,o1⟩:=hex h1;obtain ⟨cs',rfl,o2⟩:=hex h2;obtain ⟨us,rfl,q1⟩:=Qs6 o1 r1;obtain ⟨us',rfl,q2⟩:=Qs6 o2 r2;rw [show Qfk (.agg cs) (.agg cs')=Qrn cs cs' from rfl,Q6u o1 o2 q1 q2];simp
 obtain ⟨d,hd,hdd⟩ : ∃ d,P.underlying kt=some d∧((∃ n e,d = .array n e)∨∃ fs,d = .struct fs):=by
  grind [Qj9]
 refine ⟨fun em v u h r=>?_,fun {v u} h r=>?_,hsame,fun {key u} l hkey hu hl=>?_⟩
 ·obtain ⟨cs,rfl,o1⟩:=hex h;obtain ⟨us,rfl,q1⟩:=Qs6 o1 r;exact hcheck em o1 q1
 ·obtain ⟨cs,rfl,o1⟩:=hex h;obtain ⟨us,rfl,q1⟩:=Qs6 o1 r;have:=Qy5 o1 q1 9999
  simp_all [Go.Instr.sameBits,beq_self_eq_true,Bool.true_and,Go.Instr.keyThatStays]
 ·have heq:∀ p∈l,∃ b:Bool,(Op.equal kt u p.2.key).run P w = .ok b w∧(b=true↔u=p.2.key):=by
   intro p hp;obtain ⟨h2,r2⟩:=hl p hp;obtain ⟨pv,pe⟩:=p;simp only at h2 r2;obtain ⟨cs,rfl,o1⟩:=hex hkey;obtain ⟨cs',rfl,o2⟩:=hex h2;have hs:=hsame hkey h2 hu r2;obtain ⟨us,rfl,q1⟩:=Qs6 o1 hu;obtain ⟨us',hu',q2⟩:=Qs6 o2 r2;refine ⟨Qrn cs cs',?_,hs⟩;rw [show (pe.key) = .agg us'.toArray from hu'];exact (Qbcu P kt hks (Qix q1) (fun j c x hc hx=>Qud q1 j c x hc hx) (Qix q2) (fun j c x hc hx=>Qud q2 j c x hc hx) (Q6x o1 o2)).1
  have hfk:(Instr.findKey kt u (l.map (·.2))).run P w=(Instr.findAsking kt u (l.map (·.2)) 0).run P w:=by
   have hfn:Instr.findNow d u (l.map (·.2)) 0=none∨l=[]:=by
    cases l with
    | nil=>exact .inr rfl
    | cons p l =>
     refine .inl ?_;rcases hdd with ⟨n,e,rfl⟩|⟨fs,rfl⟩<;>simp [Instr.findNow,Instr.sameNow]
   rcases hfn with h|rfl
   all_goals simp_all [Go.Instr.findKey,Go.run_underlying,Go.Result.andThen,Go.Instr.findNow,Go.Instr.findAsking]
  grind [Q6w]
theorem Q6y {t:TypeId} {c:CK} (hc:Qpa P t=some c) (em:Bool) (n:Nat) {v:V} {u:Value} (hv:c.ok v=true) (hr:RF g w v u):(Instr.checkKey em (n+1) t u).run P w = .ok () w:=by
 unfold Qpa at hc;split at hc<;>cases hc
 all_goals
  rename_i ht;rcases Qx6 hv hr with ⟨n,k,e,rfl,rfl⟩|⟨s,e,rfl,rfl⟩|⟨b,e,rfl,rfl⟩<;>cases e;refine run_checkKey ht ?_ em _;simp [IsKey]
theorem Q24 {em : Bool} {n : Nat} {X : Array Value} {body : Field → PUnit → Sem (ForInStep PUnit)} (hb : ∀ (f : Field) (u : Value), f.name ≠ "_" → (part f.type X f.offset).run P w = .ok u w → (Instr.checkKey em (n + 1) f.type u).run P w = .ok () w → (body f PUnit.unit).run P w = .ok (.yield PUnit.unit) w) :
  ∀ (fs:List Field) (i:Nat) (ks:List CK) (codes:List Nat) (cs:List V),fs.mapM (fun f=>Qpa P f.type)=some ks→Qh0 P i fs=some codes→okCs ks cs=true →
  (∀ (j:Nat) (c:V),cs[j]? = some c→∃ u,X[i+j]? = some u∧RF g w c u)→(forIn fs PUnit.unit body).run P w = .ok PUnit.unit w
 | [],i,ks,codes,cs,_,_,_,_=>by simp
 | f::fs,i,ks,codes,cs,hm,hf,ho,hx=>by
  simp only [List.mapM_cons,Option.bind_eq_bind,Option.bind_eq_some_iff,Option.pure_def,Option.some.injEq] at hm;obtain ⟨k,hk,ks',hm,rfl⟩:=hm;simp only [Qh0] at hf;split at hf<;>try (cases hf;done)
  rename_i hn;split at hf<;>try (cases hf;done)
  rename_i c1 cs1 hc1 hc2;cases cs with
  | nil=>simp [okCs] at ho
  | cons c cs =>
   simp only [okCs,Bool.and_eq_true] at ho;obtain ⟨u,hu,ru⟩:=hx 0 c rfl;have hp:=Q0j (w:=w) P (Quj P hk) (Z:=X) (o:=f.offset) (u:=u) (by rw [hn.1];exact hu);have hck:=Q6y (g:=g) (w:=w) P hk em n ho.1 ru;have ih:=Q24 hb fs (i+1) ks' cs1 cs hm hc2 ho.2 fun j c' hc'=>by
    obtain ⟨u',h1,h2⟩:=hx (j+1) c' (by simpa using hc')
    grind
   simp_all
theorem Q4j {em:Bool} {n:Nat} {X:Array Value} {e:TypeId} {k:CK} (hk:Qpa P e=some k) {body:Nat→PUnit→Sem (ForInStep PUnit)} (hb:∀ (j:Nat) (u:Value),(part e X j).run P w = .ok u w→(Instr.checkKey em (n+1) e u).run P w = .ok () w→(body j PUnit.unit).run P w = .ok (.yield PUnit.unit) w) :
  ∀ (m i:Nat) (cs:List V),okCs (List.replicate m k) cs=true →
  (∀ (j:Nat) (c:V),cs[j]? = some c→∃ u,X[i+j]? = some u∧RF g w c u)→(forIn (List.range' i m) PUnit.unit body).run P w = .ok PUnit.unit w
 | 0,i,cs,_,_=>by simp
 | m+1,i,cs,ho,hx=>by
  cases cs with
  | nil=>simp [List.replicate_succ,okCs] at ho
  | cons c cs =>
   simp only [List.replicate_succ,okCs,Bool.and_eq_true] at ho;obtain ⟨u,hu,ru⟩:=hx 0 c rfl;have hp:=Q0j (w:=w) P (Quj P hk) (Z:=X) (o:=i) (u:=u) hu;have hck:=Q6y (g:=g) (w:=w) P hk em n ho.1 ru;have ih:=Q4j hk hb m (i+1) cs ho.2 fun j c' hc'=>by
    obtain ⟨u',h1,h2⟩:=hx (j+1) c' (by simpa using hc')
    grind
   grind [List.range'_succ,Go.Sem.run_bind,Go.Result.andThen_ok]
theorem Q4k:∀ (l:List Field) (i:Nat) (ks:List CK) (codes:List Nat),l.mapM (fun f=>Qpa P f.type)=some ks→Qh0 P i l=some codes→codes=ks.map CK.code
 | [],i,ks,codes,hks,hfk=>by grind [Qh0]
 | f::l,i,ks,codes,hks,hfk=>by
  simp only [List.mapM_cons,Option.bind_eq_bind,Option.bind_eq_some_iff,Option.pure_def,Option.some.injEq] at hks;obtain ⟨k,hk,ks',hks,rfl⟩:=hks;simp only [Qh0] at hfk;split at hfk<;>try (cases hfk;done)
  split at hfk<;>try (cases hfk;done)
  rename_i c1 cs1 hc1 hc2;cases hfk;rw [Quj P hk] at hc1;cases hc1;rw [Q4k l _ ks' cs1 hks hc2];cases k<;>rfl
theorem Q4l {kt:TypeId} {kd:MK} (h:Q75 P kt=some kd):KLaw P g w kt kd:=by
 unfold Q75 at h;split at h<;>try (cases h;done)
 ·rename_i k hd;cases h;refine Q8d P hd (fun v u hv hr=>?_) fun {v v' u u'} h1 h2 r1 r2=>?_
  ·cases v<;>simp [MK.ok] at hv;rename_i x;cases x<;>simp [MK.ok] at hv;have:=Qpx hr;subst this;exact hv
  ·have ck:∀ v,(MK.int k).ok v=true→(CK.int k).ok v=true∧∀ v',Qfk v v'=Qju v v':=by
    intro v h;cases v with
    | d x=>cases x<;>simp [MK.ok] at h<;>exact ⟨by simp [CK.ok,h],fun v'=>by cases v'<;>rfl⟩
    | _=>simp [MK.ok] at h
   grind [Q0m]
 ·rename_i hd;cases h;refine Q8d P hd (fun v u hv hr=>?_) fun {v v' u u'} h1 h2 r1 r2=>?_
  ·cases v<;>simp [MK.ok] at hv;rename_i x;cases x<;>simp [MK.ok] at hv;have:=Qbee hr;subst this;trivial
  ·have ck:∀ v,(MK.str).ok v=true→(CK.str).ok v=true∧∀ v',Qfk v v'=Qju v v':=by
    intro v h;cases v with
    | d x=>cases x<;>simp [MK.ok] at h<;>exact ⟨by simp [CK.ok,h],fun v'=>by cases v'<;>rfl⟩
    | _=>simp [MK.ok] at h
   grind [Q0m]
 ·rename_i hd;cases h;refine Q8d P hd (fun v u hv hr=>?_) fun {v v' u u'} h1 h2 r1 r2=>?_
  ·cases v<;>simp [MK.ok] at hv;rename_i x;cases x<;>simp [MK.ok] at hv;have:=Q4d hr;subst this;trivial
  ·have ck:∀ v,(MK.bool).ok v=true→(CK.bool).ok v=true∧∀ v',Qfk v v'=Qju v v':=by
    intro v h;cases v with
    | d x=>cases x<;>simp [MK.ok] at h<;>exact ⟨by simp [CK.ok,h],fun v'=>by cases v'<;>rfl⟩
    | _=>simp [MK.ok] at h
   grind [Q0m,bool]
 ·rename_i fs hd;split at h<;>try (cases h;done)
  rename_i he;obtain ⟨codes,hcodes⟩:=Option.isSome_iff_exists.1 he;simp only [Option.map_eq_some_iff] at h;obtain ⟨ks,hks,rfl⟩:=h;have hfk:Qh0 P 0 fs.toList=some codes:=by
   grind [Qj9]
  have hcc:codes=ks.map CK.code:=Q4k P fs.toList 0 ks codes hks hfk;refine Qbft P (.inr ⟨_,hd,.inr ⟨_,rfl⟩⟩) (by rw [hcodes,hcc]) fun em cs us ho hr=>?_;show (Instr.checkKey em (9999+1) kt _).run P w=_;unfold Instr.checkKey;simp only [Sem.run_bind,run_underlying hd,Result.andThen_ok];rw [← Array.forIn_toList];refine (congrArg (fun r=>Result.andThen r _) (Q24 (g:=g) (em:=em) (n:=9998) (X:=us.toArray) P (fun f u hn hp hck=>?_) fs.toList 0 ks codes cs hks hfk ho fun j c hc=>?_)).trans rfl
  ·simp_all
  ·have hl:=Qix hr;have hj:j<cs.length:=(List.getElem?_eq_some_iff.1 hc).1;exact ⟨us[j]'(by omega),by simp,Qud hr j c _ hc (by simp)⟩
 ·rename_i n e hd;split at h<;>try (cases h;done)
  rename_i he;obtain ⟨codes,hcodes⟩:=Option.isSome_iff_exists.1 he;simp only [Option.map_eq_some_iff] at h;obtain ⟨k,hk,rfl⟩:=h;unfold Qj9 at hcodes;rw [hd] at hcodes;simp only at hcodes;split at hcodes<;>try (cases hcodes;done)
  rename_i hg;simp only [Option.map_eq_some_iff] at hcodes;obtain ⟨sk,hsk,rfl⟩:=hcodes;obtain ⟨i0,hi⟩:=Option.isSome_iff_exists.1 hg.1;have h1:i0.size=1:=by grind [Go.Program.cellsOf]
  refine Qbft P (.inr ⟨_,hd,.inl ⟨_,_,rfl⟩⟩) ?_ fun em cs us ho hr=>?_
  ·unfold Qj9;rw [hd];simp only [if_pos hg,Quj P hk,Option.map_some,List.map_replicate];cases k<;>rfl
  ·show (Instr.checkKey em (9999+1) kt _).run P w=_;unfold Instr.checkKey;simp only [Sem.run_bind,run_underlying hd,Result.andThen_ok];simp only [Std.Legacy.Range.forIn_eq_forIn_range',Std.Legacy.Range.size,Nat.sub_zero,Nat.add_one_sub_one,Nat.div_one];refine (congrArg (fun r=>Result.andThen r _) (Q4j (g:=g) (em:=em) (n:=9998) (X:=us.toArray) P hk (fun j u hp hck=>?_) n 0 cs ho fun j c hc=>?_)).trans rfl
   ·simp only [Sem.run_bind,Qhc P hi,h1,Nat.mul_one,hp,Result.andThen_ok,hck,Sem.run_pure]
   ·have hl:=Qix hr;have hj:j<cs.length:=(List.getElem?_eq_some_iff.1 hc).1;exact ⟨us[j]'(by omega),by simp,Qud hr j c _ hc (by simp)⟩
theorem Qbjw {v:V} {u:Value} {ℓ:Owner} (hd:v.dat=true) (h:RV g w v ℓ u):RF g w v u:=fun _=>Qu8 (Imm.refl _ _) hd h
theorem Q9o {k:Nat} {es:List (V×V×Nat)} {ents:List MapEntry} (h:RM g w k es ents):ents.length=es.length:=by
 induction es generalizing ents with
 | nil=>grind [RM]
 | cons x r ih=>simp only [RM] at h;grind
theorem Q6z {key:V}:∀ {es:List (V×V×Nat)},(∀ x∈es,Qfk key x.1=false)→Qg6 key es=none
 | [],_=>rfl
 | (k,v,b)::es,h=>by
  have h1:Qfk key k=false:=h (k,v,b) (by simp);simp [Qg6,h1,Q6z fun x hx=>h x (List.mem_cons_of_mem _ hx)]
theorem Qbc2 {key:V}:∀ {es:List (V×V×Nat)} {j:Nat} {x:V×V×Nat},es[j]? = some x→Qfk key x.1=true→(∀ i y,i<j→es[i]? = some y→Qfk key y.1=false)→Qg6 key es=some (j,x.2.1)
 | [],j,x,h,_,_=>by simp at h
 | (k,v,b)::es,0,x,h,h1,_=>by
  grind [Qg6]
 | (k,v,b)::es,j+1,x,h,h1,h2=>by
  have h3:Qfk key k=false:=h2 0 (k,v,b) (by omega) rfl;have:=Qbc2 (key:=key) (es:=es) (j:=j) (x:=x) (by simpa using h) h1 fun i y hi hy=>h2 (i+1) y (by omega) (by simpa using hy);simp [Qg6,h3,this]
theorem Qbiu {k:Nat}:∀ {es:List (V×V×Nat)} {ents:List MapEntry},RM g w k es ents→∀ (i:Nat) (x:V×V×Nat),es[i]? = some x→∃ e,ents[i]? = some e∧RF g w x.1 e.key∧x.2.1.mv=true∧RV g w x.2.1 (.cell k x.2.2) e.val∧e.born=x.2.2
 | [],_,h,i,x,hx=>by simp at hx
 | y::r,_,h,0,x,hx=>by
  simp only [RM] at h;obtain ⟨e,t,rfl,⟨a1,a2⟩,⟨b1,b2⟩,h3,h4⟩:=h;simp at hx;subst hx;exact ⟨e,rfl,Qbjw a1 a2,b1,b2,h3⟩
 | y::r,_,h,i+1,x,hx=>by
  simp only [RM] at h;obtain ⟨e,t,rfl,_,_,_,h4⟩:=h;simpa using Qbiu h4 i x (by simpa using hx)
theorem Q4m {kt:TypeId} {kd:MK} (hl:KLaw P g w kt kd) {key:V} {u:Value} (hkey:kd.ok key=true) (hu:RF g w key u) {k:Nat} {es:List (V×V×Nat)} {ents:List MapEntry} (hr:RM g w k es ents) (ha:kd.all es=true) :
  (Qg6 key es=none∧(Instr.findKey kt u ents).run P w = .ok none w) ∨
  ∃ (j:Nat) (v:V) (e:MapEntry) (x:V×V×Nat),Qg6 key es=some (j,v)∧es[j]? = some x∧x.2.1=v∧ents[j]? = some e∧e.key=u∧e.born=x.2.2∧(Instr.findKey kt u ents).run P w = .ok (some (j,e.val)) w∧v.mv=true∧RV g w v (.cell k x.2.2) e.val:=by
 have hlen:=Q9o hr;have hz:((es.map (·.1)).zip ents).map (·.2)=ents:=by
  rw [List.map_snd_zip];simp [hlen]
 have hzi:∀ (i:Nat) (p:V×MapEntry),((es.map (·.1)).zip ents)[i]? = some p→∃ x,es[i]? = some x∧x.1=p.1∧ents[i]? = some p.2∧kd.ok p.1=true∧RF g w p.1 p.2.key:=by
  intro i p hp;rw [List.getElem?_zip_eq_some] at hp;obtain ⟨h1,h2⟩:=hp;rw [List.getElem?_map,Option.map_eq_some_iff] at h1;obtain ⟨x,hx,e1⟩:=h1;obtain ⟨e,h3,h4,_⟩:=Qbiu hr i x hx;rw [h2] at h3;cases h3;refine ⟨x,hx,e1,h2,?_,by rw [← e1];exact h4⟩;rw [← e1];exact List.all_eq_true.1 ha x (List.mem_of_getElem? hx)
 have hal:∀ p∈(es.map (·.1)).zip ents,kd.ok p.1=true∧RF g w p.1 p.2.key:=by
  grind [List.getElem?_of_mem]
 have hne:∀ (i:Nat) (x:V×V×Nat),es[i]? = some x→(∀ p,((es.map (·.1)).zip ents)[i]? = some p→p.2.key≠u)→Qfk key x.1=false:=by
  intro i x hx hq;obtain ⟨e,h3,h4,_⟩:=Qbiu hr i x hx;have hp:((es.map (·.1)).zip ents)[i]? = some (x.1,e):=by
   grind
  obtain ⟨_,_,_,_,h5,h6⟩:=hzi i _ hp;cases hk:Qfk key x.1 with
  | false=>rfl
  | true=>exact absurd ((hl.same hkey h5 hu h6).1 hk).symm (hq _ hp)
 rcases hl.find _ hkey hu hal with ⟨h1,h2⟩|⟨j,p,h1,h2,h3,h4⟩
 ·grind [Q6z,List.getElem?_of_mem,List.mem_of_getElem?]
 ·rw [hz] at h1;obtain ⟨x,k1,k2,k3,k4,k5⟩:=hzi j p h2;obtain ⟨e,q1,q2,q3,q4,q5⟩:=Qbiu hr j x k1;rw [k3] at q1;cases q1;refine .inr ⟨j,x.2.1,p.2,x,Qbc2 k1 ?_ fun i y hi hy=>hne i y hy fun q hq=>h4 i q hi hq,k1,rfl,k3,h3,q5,h1,q3,q4⟩;rw [k2];exact (hl.same hkey k4 hu k5).2 h3.symm
theorem Qbfu {vs:List V} {us:List Value} (h:RFs g w vs us):RF g w (.tup vs) (.tuple us.toArray):=by
 intro ℓ;simp only [RV];exact ⟨us,rfl,(Qcx _ _ _ _).2 ⟨Qix h,fun i c u hc hu=>Qud h i c u hc hu _⟩⟩
theorem Q0n {v:V} {u:Value} (h:RF g w v u):RF g w (Qwb v) u:=by
 cases v<;>try exact h
 rename_i sz;have:=h .free;simp only [RV] at this;obtain ⟨a,rfl⟩:=this;rw [Qwb,RF_d];simp [RD]
theorem Q9p {t:TypeId} {z:V} (h:Qbcp P t=some z):∃ zv,(zeroValue t).run P w = .ok zv w∧RF g w z zv:=by
 unfold Qbcp at h;split at h<;>try (cases h;done)
 ·rename_i cs arr hz hi;cases h;obtain ⟨i,zv,h1,h2,h3,_⟩:=Qjv P hz;rw [h1] at hi;simp only [Option.bind_some] at hi;rw [h2] at hi;cases hi;refine ⟨_,Qpb P h1 h2 w,fun ℓ=>?_⟩;have hc:=h3 g w;simp only [RV];refine ⟨arr.toList,by simp,(Qcx _ _ _ _).2 ⟨by rw [List.length_map];exact hc.len,fun j c u hj hu=>?_⟩,hc.one⟩;rw [List.getElem?_map,Option.map_eq_some_iff] at hj;obtain ⟨c',hj',rfl⟩:=hj;exact Q0n (hc.rf j c' u hj' hu) _
 ·rename_i c zv hna hz hi;cases h;obtain ⟨i,zv',h1,h2,h3,_⟩:=Qjv P hz;rw [h1] at hi;simp only [Option.bind_some] at hi;rw [h2] at hi;cases hi;refine ⟨_,Qpb P h1 h2 w,?_⟩;have hc:=h3 g w;have hcells:zv.cells.toList=[zv]:=by
   grind [absurd,Go.Value.cells]
  rw [hcells] at hc;exact Q0n (hc.rf 0 _ _ rfl rfl)
theorem Qpz {t:TypeId} {kt:TypeId} {kd:MK} {z:V} (h:Qk3 P t=some (kt,kd,z)):∃ e,P.underlying t=some (.map kt e)∧Q75 P kt=some kd∧Qbcp P e=some z∧z.dat=true:=by
 unfold Qk3 at h
 grind
theorem Qbbr {k:Nat} {u:Value} (h:RF g w (.mp k) u):u = .map (some (g.box k)):=by
 have:=h .free;simpa [RV] using this
theorem Qbkw (t ty:TypeId) {k e:TypeId} (ht:P.underlying t=some (.map k e)) {M:Mem} {nb:Nat} (hM:MR g w M nb) {x v:V} {u:Value} {n0 κ:Nat} {M' : Mem} (hx:RF g w x u) (hs:Qi n0 κ .lenm [x] M=some (v,M')) :
  M'=M∧∃ val,(Builtin.len_ #[t] ty #[u]).run P w = .ok val w∧RF g w v val:=by
 obtain ⟨rfl,⟨b,es,c,hxs,hMk,rfl⟩|⟨es,c,hxs,rfl⟩⟩:=Q8a hs
 ·cases hxs;have hu:=Qbbr hx;subst hu;obtain ⟨_,_,ents,hh,hr⟩:=hM.box b _ hMk;refine ⟨rfl,goInt es.length,?_,by rw [RF_d];simp [RD,goInt]⟩;simp [Builtin.len_,run_underlying ht,MapKept.run_getObj_map hh,Result.andThen,Q9o hr]
 ·cases hxs;rw [RF_d] at hx;simp only [RD] at hx;obtain ⟨b,rfl,_,hh⟩:=hx;refine ⟨rfl,goInt es.length,?_,by rw [RF_d];simp [RD,goInt]⟩;simp [Builtin.len_,run_underlying ht,MapKept.run_getObj_map (Q76 hh),Result.andThen]
theorem Qbfv {g:G} {w:World} {ℓ:Owner} {u:Value} (h:(Qn4 u).dat1=true):RV g w (Qn4 u) ℓ u∧u.oneCell'=true:=by
 cases u<;>simp [Qn4,V.dat1] at h<;>exact ⟨by simp [Qn4,RV,RD],rfl⟩
theorem Q60 {g:G} {w:World} {ℓ:Owner}:∀ {us:List Value} {i:Nat},(us.map Qn4).all V.dat1=true→RVs g w (us.map Qn4) ℓ i us∧∀ u∈us,u.oneCell'=true
 | [],_,_=>by simp [RVs]
 | u::us,i,h=>by
  simp only [List.map_cons,List.all_cons,Bool.and_eq_true] at h;obtain ⟨h1,h2⟩:=Q60 (g:=g) (w:=w) (ℓ:=ℓ) (us:=us) (i:=i+1) h.2;obtain ⟨k1,k2⟩:=Qbfv (g:=g) (w:=w) (ℓ:=ℓ.sub i) h.1;refine ⟨⟨u,us,rfl,k1,h1⟩,fun x hx=>?_⟩
  grind
theorem Qbc3 {g:G} {w:World} {ℓ:Owner} {u:Value} (h:(Qvl u).dat=true):RV g w (Qvl u) ℓ u:=by
 cases u with
 | agg vs =>
  obtain ⟨h1,h2⟩:=Q60 (g:=g) (w:=w) (ℓ:=ℓ) (us:=vs.toList) (i:=0) h
  grind [Qvl,RV]
 | _=>grind [Qvl,Qn4,V.dat,RV,RD]
theorem Qbl2 {c:CK} {v:V} (h:c.ok v=true):v.dat1=true:=by
 cases v with
 | d x=>rfl
 | _=>cases c<;>simp [CK.ok] at h
theorem Qbc4:∀ {ks:List CK} {cs:List V},okCs ks cs=true→cs.all V.dat1=true
 | [],[],_=>rfl
 | k::ks,c::cs,h=>by simp only [okCs,Bool.and_eq_true] at h;simp [Qbl2 h.1,Qbc4 h.2]
 | [],_::_,h=>by simp [okCs] at h
 | _::_,[],h=>by simp [okCs] at h
theorem Qbfw {kd:MK} {v:V} (h:kd.ok v=true):v.dat=true:=by
 cases v with
 | d x=>rfl
 | agg cs =>
  cases kd<;>simp [MK.ok] at h;exact Qbc4 h
 | _=>cases kd<;>simp [MK.ok] at h
theorem Qbfx {g:G} {w:World} {kd:MK} {k:Nat}:∀ {ents:List MapEntry},kd.all (ents.map entV)=true→((ents.map entV).all fun e=>e.2.1.dat)=true→RM g w k (ents.map entV) ents
 | [],_,_=>by simp [RM]
 | e::ents,h1,h2=>by
  simp only [MK.all,List.map_cons,List.all_cons,Bool.and_eq_true] at h1 h2;simp only [List.map_cons,RM];exact ⟨e,ents,rfl,⟨Qbfw h1.1,Qbc3 (Qbfw h1.1)⟩,⟨Qy2 h2.1,Qbc3 h2.1⟩,rfl,Qbfx h1.2 h2.2⟩
theorem Qbfy (t:TypeId) {kt:TypeId} {kd:MK} {z:V} (hmk:Qk3 P t=some (kt,kd,z)) (c:Bool) {M:Mem} {nb:Nat} (hM:MR g w M nb) {x y v:V} {u uk:Value} {n0 κ:Nat} {M' : Mem}
  (hx:RF g w x u) (hy:RF g w y uk) (hs:Qi n0 κ (.lookup kd c z) [x,y] M=some (v,M')) :
  M'=M∧∃ val,(Instr.lookup t u uk c).run P w = .ok val w∧RF g w v val:=by
 obtain ⟨rfl,b,kk,es,ents,cl,rfl,hh,hr,hk1,hk2,hres⟩ : M'=M∧∃ b kk es ents cl,u = .map (some b)∧w.heap[b]? = some (.map (List.toArray ents) cl)∧RM g w kk es ents∧Qbin kd c z y v es:=by
  obtain ⟨rfl,⟨b,key,es,cl,hxs,hMk,h⟩|⟨key,ents,cl,hxs,h0,h⟩⟩:=Q13 hs
  ·cases hxs;obtain ⟨_,_,ents,hh,hr⟩:=hM.box b _ hMk;exact ⟨rfl,_,_,es,ents,cl,Qbbr hx,hh,hr,h⟩
  ·cases hxs;rw [RF_d] at hx;simp only [RD] at hx;obtain ⟨b,rfl,_,hh⟩:=hx;exact ⟨rfl,b,0,_,ents,cl,rfl,Q76 hh,Qbfx h.2.1 h0,h⟩
 obtain ⟨et,ht,hkk,hz,hzd⟩:=Qpz P hmk;have hlaw:=Q4l (g:=g) (w:=w) P hkk;obtain ⟨zv,hzr,hzf⟩:=Q9p (g:=g) (w:=w) P hz;refine ⟨rfl,?_⟩;have hck:∀ em,(Instr.checkKey em 10000 kt uk).run P w = .ok () w:=fun em=>hlaw.check em hk1 hy;rcases Q4m P hlaw hk1 hy hr hk2 with ⟨f1,f2⟩|⟨j,v',e,x,f1,f2,f3,f4,f5,f6,f7,f8,f9⟩
 ·have hfk:=f2;rcases hres with ⟨i,uu,h1,_,_⟩|⟨h1,h2,rfl⟩
  ·rw [f1] at h1;cases h1
  ·refine ⟨if c then .tuple #[zv,.bool false] else zv,?_,?_⟩
   ·simp [Instr.lookup,run_underlying ht,MapKept.run_getObj_map hh,hck,hfk,hzr,Result.andThen]
   ·cases c
    ·exact hzf
    ·exact Qbfu (us:=[zv,.bool false]) ⟨_,_,rfl,hzf,_,_,rfl,by rw [RF_d];simp [RD],rfl⟩
 ·have hfk:=f7;rcases hres with ⟨i,uu,h1,h2,rfl⟩|⟨h1,h2,rfl⟩
  ·rw [f1] at h1;cases h1;refine ⟨if c then .tuple #[e.val,.bool true] else e.val,?_,?_⟩
   ·simp [Instr.lookup,run_underlying ht,MapKept.run_getObj_map hh,hck,hfk,Result.andThen]
   ·cases c
    ·exact fun ℓ=>Qh1 _ _ ℓ _ f9
    ·exact Qbfu (us:=[e.val,.bool true]) ⟨_,_,rfl,fun ℓ=>Qh1 _ _ ℓ _ f9,_,_,rfl,by rw [RF_d];simp [RD],rfl⟩
  grind
end
end Go.Abs
end
section
namespace Go.Abs
open Go Go.MapKept
section
variable (P:Program) {g:G} {w:World} {n0 nt:Nat} {g0:G} {w0:World} {σ:St} {a:Act}
theorem SR.allocm (h:SR n0 nt g0 w0 σ a w g) {dst:Option Nat} {κ:Nat} (hd:∀ d,dst=some d→d<nt) (hκ:n0≤κ) (hκ' : κ<σ.nb) (hfree:σ.M κ=none) :
  ∃ g',SR n0 nt g0 w0 ⟨Qbe σ.s dst (.mp κ),σ.M.put κ (.mp [] 0),σ.nb⟩ (a.put dst (.map (some w.heap.size))) (w.alloc (.map #[] 0)) g':=by
 let g' : G:={ box:=fun k=>if k=κ then w.heap.size else g.box k,imm:=g.imm,own:=fun b=>if b=w.heap.size then .box κ else g.own b };have hkept:Kept g w g' (w.alloc (.map #[] 0)) (There σ.M) (fun _=>True):=by
  refine ⟨⟨fun _ _ hb=>hb,fun b o hb=>?_⟩,fun k hk=>?_,fun b _ hb=>⟨?_,?_,fun _=>Iff.rfl⟩⟩
  ·exact Qe4 (RowKit.Below.heap_alloc w _ b (h.mem.imm b o hb).1)
  ·have:k≠κ:=by rintro rfl;simp [There,hfree] at hk
   simp [g',this]
  all_goals grind [Go.RowKit.Below.heap_alloc]
 have hslots:∀ t,RV g' (w.alloc (.map #[] 0)) (σ.s t) (.slot t []) (a.tmps.getD t undef):=fun t =>
  Qdh hkept (fun _ _ h=>h) trivial _ _ _ trivial (h.onS t) (h.slots t)
 have himm:∀ b o,g'.imm b o→b<(w.alloc (.map #[] 0)).heap.size∧∀ k,g'.own b ≠ .box k:=by
  intro b o hb;obtain ⟨h1,h2⟩:=h.mem.imm b o hb
  grind [Go.World.size_alloc]
 have hm:=h.mem.kept hkept h.mOn (fun _ _ h=>h) trivial (fun _ _=>trivial) himm;have hmon:∀ k,There σ.M k→There (σ.M.put κ (.mp [] 0)) k:=fun k hk=>hk.put;refine ⟨g',h.step ?_ ?_ (Qfy (fun d hd'=>by rw [h.size];exact hd d hd') (fun t _=>hslots t) (fun d _=>by simp [RV,g'])) (Qgz _ _ _) (Qei _ _ _) (Qfz (fun t=>Qfx hmon _ (h.onS t)) There.self) ?_ ?_⟩
 ·refine ⟨fun k b hk=>?_,himm⟩;simp only [Mem.put] at hk;split at hk
  ·rename_i heq;subst heq;cases hk;refine ⟨hκ',by simp [g'],[],?_,rfl⟩;simp only [g',if_true];exact (heap_alloc w _).1
  ·exact hm.box k b hk
 ·exact ⟨rfl,rfl,rfl,by simp,hkept.imm,fun k hk=>(by
   grind),fun b hb _=>hkept.own b trivial hb⟩
 ·intro k cs' hk;simp only [Mem.put] at hk;split at hk
  ·cases hk
  ·exact ons_mono hmon _ (h.mOn k cs' hk)
 ·intro k cs' hk hlt;simp only [Mem.put] at hk;rw [if_neg (by omega)] at hk;exact h.out k cs' hk hlt
theorem Qbiv (h:SR n0 nt g0 w0 σ a w g) {dst:Option Nat} (hd:∀ d,dst=some d→d<nt) (t:TypeId) {k e:TypeId} (ht:P.underlying t=some (.map k e)) {xs:List V} {us:List Value} (hx:RFs g w xs us) {v:V} {κ:Nat} {M' : Mem} (hκ:n0≤κ) (hκ' : κ<σ.nb)
  (r:Option Value) (hr:us=r.toList) (hs:Qi n0 κ .mkmap xs σ.M=some (v,M')) :
  ∃ val w' g',(Instr.makeMap t r).run P w = .ok val w'∧SR n0 nt g0 w0 ⟨Qbe σ.s dst v,M',σ.nb⟩ (a.put dst val) w' g':=by
 obtain ⟨hxs,hfree,rfl,rfl⟩:=Q9h hs;obtain ⟨g',hsr⟩:=h.allocm (dst:=dst) hd hκ hκ' hfree;refine ⟨_,_,g',?_,hsr⟩;rcases hxs with rfl|⟨q,n,rfl⟩
 ·simp_all [RFs,Go.Instr.makeMap,Go.Result.andThen]
 ·obtain ⟨u,us',rfl,h1,h2⟩:=hx;simp only [RFs] at h2;subst h2;have:=Qpx h1;subst this;cases r with
  | none=>simp at hr
  | some r =>
   simp at hr;subst hr;simp [Instr.makeMap,run_underlying ht,asInt,asIntOf,Result.andThen]
theorem SR.mapput (h:SR n0 nt g0 w0 σ a w g) {k:Nat} {es es' : List (V×V×Nat)} {cl cl' : Nat} {ents ents' : List MapEntry} (hk:σ.M k=some (.mp es cl)) (hh:w.heap[g.box k]? = some (.map ents.toArray cl)) (hr:RM g w k es' ents')
  {dst:Option Nat} (hd:∀ d,dst=some d→d<nt) {v:V} {val:Value} (hv:∀ w',Imm g.imm g.imm w w'→RF g w' v val) (hvon:∀ p,v.on p) :
  SR n0 nt g0 w0 ⟨Qbe σ.s dst v,σ.M.put k (.mp es' cl'),σ.nb⟩ (a.put dst val) { w with heap:=w.heap.setIfInBounds (g.box k) (.map ents'.toArray cl') } g:=by
 obtain ⟨hltnb,hb,_⟩:=h.mem.box k _ hk;obtain ⟨hs1,hs2⟩:=heap_set (o':=.map ents'.toArray cl') hh;have hkept:Kept g w g { w with heap:=w.heap.setIfInBounds (g.box k) (.map ents'.toArray cl') } (There σ.M) (fun o=>o ≠ .box k):=by
  refine ⟨⟨fun _ _ h=>h,fun b o hbo=>?_⟩,fun _ _=>rfl,fun b hbk hlt=>⟨rfl,?_,fun _=>Iff.rfl⟩⟩
  ·have:b≠g.box k:=by rintro rfl;exact (h.mem.imm _ _ hbo).2 k hb
   exact Qe4 (hs2 b this)
  grind
 have hslots:∀ t,RV g { w with heap:=w.heap.setIfInBounds (g.box k) (.map ents'.toArray cl') } (σ.s t) (.slot t []) (a.tmps.getD t undef):=fun t =>
  Qdh hkept (fun _ i h=>Qnh h) (by simp) _ _ _ (by simp) (h.onS t) (h.slots t)
 have hthere:∀ j,There σ.M j→There (σ.M.put k (.mp es' cl')) j:=fun j hj=>hj.put;refine h.step ?_ ?_ (Qfy (fun d hd'=>by rw [h.size];exact hd d hd') (fun t _=>hslots t) (fun d _=>hv _ hkept.imm _)) (Qgz _ _ _) (Qei _ _ _) (Qfz (fun t=>Qfx hthere _ (h.onS t)) (hvon _)) ?_ ?_
 ·refine ⟨fun j b hj=>?_,fun b o hbo=>?_⟩
  ·simp only [Mem.put] at hj;split at hj
   ·rename_i he;subst he;cases hj;exact ⟨hltnb,hb,ents',hs1,Qk9 (g:=g) (g':=g) hkept (fun _=>by simp) hr⟩
   ·rename_i hne;obtain ⟨k1,k2,k3⟩:=h.mem.box j b hj;have hbj:g.box j≠g.box k:=by
     grind
    refine ⟨k1,k2,?_⟩;cases b with
    | mp es2 c2 =>
     obtain ⟨ents2,hh',hr'⟩:=k3;exact ⟨ents2,(hs2 _ hbj).trans hh',Qk9 (g:=g) (g':=g) hkept (fun _=>by simp) hr'⟩
    | cells cs' =>
     obtain ⟨vs,e',hh',hr',ho'⟩:=k3;refine ⟨vs,e',(hs2 _ hbj).trans hh',RVs_mono hkept (fun _ i h=>Qnh h) (by simp) cs' (.box j) 0 vs ?_ (h.mOn j cs' hj) hr',ho'⟩
     grind
  ·obtain ⟨h3,h4⟩:=h.mem.imm b o hbo
   grind
 ·refine ⟨rfl,rfl,rfl,by simp,hkept.imm,fun _ _=>rfl,fun b hb' ho=>?_⟩;have hne:g.own b ≠ .box k:=by intro e;rw [e] at ho;exact ho
  grind
 ·intro j cs' hj;simp only [Mem.put] at hj;split at hj
  ·cases hj
  ·exact ons_mono hthere _ (h.mOn j cs' hj)
 ·intro j cs' hj hlt;simp only [Mem.put] at hj;split at hj
  ·cases hj
  ·exact h.out j cs' hj hlt
theorem Q4n {kb:Nat} {es:List (V×V×Nat)} {ents:List MapEntry} {k v:V} {uk uv:Value} {b:Nat} (hr:RM g w kb es ents) (hk:k.dat=true) (hk' : RV g w k .ext uk) (hv:v.mv=true) (hv' : RV g w v (.cell kb b) uv) :
  RM g w kb (es++[(k,v,b)]) (ents++[{ key:=uk,val:=uv,born:=b }]):=by
 induction es generalizing ents with
 | nil=>simp only [RM] at hr;subst hr;exact ⟨_,[],rfl,⟨hk,hk'⟩,⟨hv,hv'⟩,rfl,rfl⟩
 | cons x r ih =>
  simp only [RM] at hr;obtain ⟨e,t,rfl,h1,h2,h3,h4⟩:=hr;exact ⟨e,t++[_],rfl,h1,h2,h3,ih h4⟩
theorem Q9q {kb:Nat} {k v:V} {uk uv:Value} (hk:k.dat=true) (hk' : RV g w k .ext uk) (hv:v.mv=true):∀ {es:List (V×V×Nat)} {ents:List MapEntry} (i:Nat),(∀ x,es[i]? = some x→RV g w v (.cell kb x.2.2) uv)→RM g w kb es ents →
  RM g w kb (modM k v i es) (ents.modify i fun e=>{ e with key:=uk,val:=uv })
 | [],_,i,_,hr=>by grind [RM,modM]
 | x::r,_,0,hv',hr=>by
  simp only [RM] at hr;obtain ⟨e,t,rfl,h1,h2,h3,h4⟩:=hr;exact ⟨_,t,rfl,⟨hk,hk'⟩,⟨hv,hv' x rfl⟩,h3,h4⟩
 | x::r,_,i+1,hv',hr=>by
  simp only [RM] at hr;obtain ⟨e,t,rfl,h1,h2,h3,h4⟩:=hr;exact ⟨e,_,rfl,h1,h2,h3,Q9q hk hk' hv i (fun y hy=>hv' y (by simpa using hy)) h4⟩
theorem Qbc5:∀ {ks:List CK} {cs:List V},okCs ks cs=true→cs.all V.dat1=true
 | [],[],_=>rfl
 | k::ks,c::cs,h=>by
  simp only [okCs,Bool.and_eq_true] at h;have:c.dat1=true:=by cases c<;>first|rfl|(cases k<;>simp [CK.ok] at h)
  simp [this,Qbc5 h.2]
 | [],_::_,h=>by simp [okCs] at h
 | _::_,[],h=>by simp [okCs] at h
theorem Q4o {kd:MK} {v:V} (h:kd.ok v=true):v.dat=true:=by
 cases v<;>cases kd<;>simp_all [MK.ok,V.dat];exact fun x hx=>List.all_eq_true.1 (Qbc5 h) x hx
theorem Qn0 (l:List MapEntry) (i:Nat) (f:MapEntry→MapEntry):l.toArray.modify i f=(l.modify i f).toArray :=by grind
theorem Q4p {v:V} (h:v.dat=true):(Qwb v).dat=true:=by
 cases v<;>first|exact h|rfl
theorem Q9r (h:SR n0 nt g0 w0 σ a w g) {dst:Option Nat} (hd:∀ d,dst=some d→d<nt) (t:TypeId) {kt:TypeId} {kd:MK} {z:V} (hmk:Qk3 P t=some (kt,kd,z)) {x y u v:V} {um uk uv:Value} {κ:Nat} {M' : Mem}
  (hx:RF g w x um) (hy:RF g w y uk) (hu:RF g w u uv) (hs:Qi n0 κ (.mapset kd) [x,y,u] σ.M=some (v,M')) :
  ∃ w',(Instr.mapUpdate t um uk uv).run P w = .ok () w'∧SR n0 nt g0 w0 ⟨Qbe σ.s dst v,M',σ.nb⟩ (a.put dst undef) w' g:=by
 obtain ⟨b,key,u',es,cl,hxs,hMk,hk1,hk2,hdat,rfl,rfl⟩:=Q6p hs;cases hxs;have hum:=Qbbr hx;subst hum;obtain ⟨et,ht,hkk,hz,hzd⟩:=Qpz P hmk;obtain ⟨_,_,ents,hh,hr⟩:=h.mem.box b _ hMk;have hlaw:=Q4l (g:=g) (w:=w) P hkk;have hck:∀ em,(Instr.checkKey em 10000 kt uk).run P w = .ok () w:=fun em=>hlaw.check em hk1 hy;have hst:=hlaw.stays hk1 hy;rcases Q4m P hlaw hk1 hy hr hk2 with ⟨f1,f2⟩|⟨j,v',e,x,f1,f2,f3,f4,f5,f6,f7,f8,f9⟩
 ·have hfk:=f2;rw [f1];refine ⟨_,?_,h.mapput (cl':=cl+1) hMk hh (Q4n hr (Q4o hk1) (hy _) (Qy2 (Q4p hdat)) (Q0n hu _)) hd (fun _ _ _=>by simp [RV]) (fun p=>by simp [V.on])⟩;simp [Instr.mapUpdate,run_underlying ht,MapKept.run_getObj_map hh,hck,hfk,MapKept.run_setObj_map _ hh,Result.andThen]
 ·have hfk:=f7;rw [f1];refine ⟨_,?_,h.mapput (cl':=cl) hMk hh (Q9q (Q4o hk1) (hy _) (Qy2 (Q4p hdat)) j (fun _ _=>Q0n hu _) hr) hd (fun _ _ _=>by simp [RV]) (fun p=>by simp [V.on])⟩;have hj:ents[j]? = some e:=f4;simp [Instr.mapUpdate,run_underlying ht,MapKept.run_getObj_map hh,hck,hfk,hj,f5,hst,MapKept.run_setObj_map _ hh,Result.andThen,Qn0]
theorem Qbbs (h:SR n0 nt g0 w0 σ a w g) {dst:Option Nat} (hd:∀ d,dst=some d→d<nt) (t:TypeId) {kt:TypeId} {kd:MK} {z:V} (hmk:Qk3 P t=some (kt,kd,z)) {x y v:V} {um uk:Value} {κ:Nat} {M' : Mem}
  (hx:RF g w x um) (hy:RF g w y uk) (hs:Qi n0 κ (.mapentry kd z) [x,y] σ.M=some (v,M')) :
  ∃ val w',(Instr.mapEntry t um uk).run P w = .ok val w'∧SR n0 nt g0 w0 ⟨Qbe σ.s dst v,M',σ.nb⟩ (a.put dst val) w' g:=by
 obtain ⟨b,key,es,cl,hxs,hMk,hk1,hk2,hzd,hres⟩:=Q23 hs;cases hxs;have hum:=Qbbr hx;subst hum;obtain ⟨et,ht,hkk,hz,_⟩:=Qpz P hmk;obtain ⟨_,_,ents,hh,hr⟩:=h.mem.box b _ hMk;have hlaw:=Q4l (g:=g) (w:=w) P hkk;obtain ⟨zv,hzr,hzf⟩:=Q9p (g:=g) (w:=w) P hz;have hck:∀ em,(Instr.checkKey em 10000 kt uk).run P w = .ok () w:=fun em=>hlaw.check em hk1 hy;have hst:=hlaw.stays hk1 hy;have htup:∀ {v:V} {val:Value} (c:Nat),v.dat=true→RF g w v val→∀ w',Imm g.imm g.imm w w'→RF g w' (.tup [v,.d (.int .i64 c)]) (.tuple #[val,goInt c]):=fun {v val} c hv hf w' him =>
  Qbfu (us:=[val,goInt c]) ⟨_,_,rfl,fun _=>Qu8 (g':=g) him hv (hf .ext),_,_,rfl,by rw [RF_d];simp [RD,goInt],rfl⟩
 have hton:∀ {v:V} (c:Nat),v.dat=true→∀ p,(V.tup [v,.d (.int .i64 c)]).on p:=fun {v} c hv p=>⟨Qwe hv,trivial,trivial⟩;rcases Q4m P hlaw hk1 hy hr hk2 with ⟨f1,f2⟩|⟨j,v',e,x,f1,f2,f3,f4,f5,f6,f7,f8,f9⟩
 ·have hfk:=f2;rcases hres with ⟨i,u,e,h1,_⟩|⟨h1,rfl,rfl⟩
  ·rw [f1] at h1;cases h1
  ·refine ⟨.tuple #[zv,goInt cl],_,?_,h.mapput (cl':=cl+1) hMk hh (Q4n hr (Q4o hk1) (hy _) (Qy2 hzd) (hzf _)) hd (htup cl hzd hzf) (hton cl hzd)⟩;simp [Instr.mapEntry,run_underlying ht,MapKept.run_getObj_map hh,hck,hfk,hzr,MapKept.run_setObj_map _ hh,Result.andThen]
 ·have hfk:=f7;rcases hres with ⟨i,u,e2,h1,h2,h3,rfl,rfl⟩|⟨h1,_⟩
  ·rw [f1] at h1;cases h1;rw [f2] at h3;cases h3;have hj:ents[j]? = some e:=f4;refine ⟨.tuple #[e.val,goInt e.born],{ w with heap:=w.heap.setIfInBounds (g.box b) (.map (ents.modify j fun q=>{ q with key:=uk,val:=e.val }).toArray cl) },?_,?_⟩
   rotate_left
   ·have hmod:=Q9q (Q4o hk1) (hy .ext) f8 j (fun y hy'=>by rw [f2] at hy';cases hy';exact f9) hr;have:=h.mapput (cl':=cl) hMk hh hmod hd (htup x.2.2 h2 (Qbjw h2 f9)) (hton _ h2)
    grind
   ·have hme:ents.modify j (fun q=>{ q with key:=uk })=ents.modify j (fun q=>{ q with key:=uk,val:=e.val }):=by
     apply List.ext_getElem?
     grind
    simp [Instr.mapEntry,run_underlying ht,MapKept.run_getObj_map hh,hck,hfk,hj,f5,hst,MapKept.run_setObj_map _ hh,Result.andThen,Qn0,hme]
  grind
theorem Qbfz {b:Int} {kb:Nat}:∀ {es:List (V×V×Nat)} {ents:List MapEntry},RM g w kb es ents→ents.findIdx? (fun e=>(e.born:Int)==b)=Q73 b es
 | [],_,h=>by simp only [RM] at h;subst h;rfl
 | x::r,_,h=>by
  simp only [RM] at h;obtain ⟨e,t,rfl,_,_,h3,h4⟩:=h;obtain ⟨xk,xv,xb⟩:=x;simp only at h3;subst h3;rw [List.findIdx?_cons,Qbfz h4];simp only [Q73]
theorem Qbjx {kb:Nat}:∀ {es:List (V×V×Nat)} {ents:List MapEntry},RM g w kb es ents→∀ (i:Nat) (x:V×V×Nat),es[i]? = some x→∃ e,ents[i]? = some e∧(x.1.dat=true∧RV g w x.1 .ext e.key)∧e.born=x.2.2
 | [],_,h,i,x,hx=>by simp at hx
 | y::r,_,h,0,x,hx=>by
  simp only [RM] at h
  grind
 | y::r,_,h,i+1,x,hx=>by
  simp only [RM] at h;obtain ⟨e,t,rfl,_,_,_,h4⟩:=h;simpa using Qbjx h4 i x (by simpa using hx)
theorem Q8e (h:SR n0 nt g0 w0 σ a w g) {dst:Option Nat} (hd:∀ d,dst=some d→d<nt) (t:TypeId) {x y u v:V} {um uk uv:Value} {κ:Nat} {M' : Mem}
  (hx:RF g w x um) (hy:RF g w y uk) (hu:RF g w u uv) (hs:Qi n0 κ .entrystore [x,y,u] σ.M=some (v,M')) :
  ∃ w',(Instr.entryStore t um uk uv).run P w = .ok () w'∧SR n0 nt g0 w0 ⟨Qbe σ.s dst v,M',σ.nb⟩ (a.put dst undef) w' g:=by
 obtain ⟨b,bn,u',es,cl,i,e0,hxs,hMk,hdat,hbn,he0,rfl,rfl⟩:=Qy4 hs;cases hxs;have hum:=Qbbr hx;subst hum;have huk:=Qpx hy;subst huk;obtain ⟨_,_,ents,hh,hr⟩:=h.mem.box b _ hMk;obtain ⟨e,k1,⟨k2,k3⟩,k4⟩:=Qbjx hr i _ he0;have hidx:ents.findIdx? (fun e=>(e.born:Int)==bn)=some i:=by rw [Qbfz hr,hbn]
 refine ⟨_,?_,h.mapput (cl':=cl) hMk hh (Q9q (uk:=e.key) k2 k3 (Qy2 (Q4p hdat)) i (fun _ _=>Q0n hu _) hr) hd (fun _ _ _=>by simp [RV]) (fun p=>by simp [V.on])⟩;have hme:ents.modify i (fun q=>{ q with val:=uv })=ents.modify i (fun q=>{ q with key:=e.key,val:=uv }):=by
  apply List.ext_getElem?
  grind
 simp [Instr.entryStore,MapKept.run_getObj_map hh,asInt,asIntOf,hidx,MapKept.run_setObj_map _ hh,Result.andThen,Qn0,hme]
end
end Go.Abs
end
section
namespace Go.Abs
open Go Go.MapKept
section
variable (P:Program) {g:G} {w:World} {n0 nt:Nat} {g0:G} {w0:World} {σ:St} {a:Act}
theorem SR.mapre (h:SR n0 nt g0 w0 σ a w g) {k:Nat} {es es' : List (V×V×Nat)} {cl cl' : Nat} {ents' : List MapEntry} (hk:σ.M k=some (.mp es cl)) {x y:Owner} (hx:∀ j,x ≠ .box j) (hxp:¬ Prot x) (hxe:x ≠ .ext) (hy:∀ j,y ≠ .box j)
  (hsub:∀ o i,o ≠ .box k→o≠x→o.sub i≠x) (hcell:∀ j i,j≠k→x ≠ .cell j i) {w' : World} (hoff:∀ b,b≠g.box k→w'.heap[b]? = w.heap[b]?) (hat:w'.heap[g.box k]? = some (.map ents'.toArray cl'))
  (hw:w'.os=w.os∧w'.tape=w.tape∧w'.output=w.output∧w'.heap.size=w.heap.size) (hr:RM (g.re (ex x y)) w' k es' ents')
  {s' : Sl} {a' : Act} (hs:∀ t,RV (g.re (ex x y)) w' (s' t) (.slot t []) (a'.tmps.getD t undef)) (hsz:a'.tmps.size=a.tmps.size) (hd:a'.defers=a.defers) (hons:∀ t,(s' t).on (There σ.M)) :
  SR n0 nt g0 w0 ⟨s',σ.M.put k (.mp es' cl'),σ.nb⟩ a' w' (g.re (ex x y)):=by
 obtain ⟨hltnb,hb,_⟩:=h.mem.box k _ hk;have hbx:∀ j,ex x y (.box j) = .box j:=fun j=>by unfold ex;grind
 have hkept:Kept g w (g.re (ex x y)) w' (There σ.M) (fun o=>o ≠ .box k∧o≠x):=by
  refine ⟨⟨fun _ _ h=>h,fun b o hbo=>?_⟩,fun _ _=>rfl,fun b hbk hlt=>⟨by simp [G.re,ex,hbk.2],?_,fun _=>Iff.rfl⟩⟩
  ·have:b≠g.box k:=by rintro rfl;exact (h.mem.imm _ _ hbo).2 k hb
   exact Qe4 (hoff b this)
  grind
 have hks:∀ o i,o ≠ .box k∧o≠x→o.sub i ≠ .box k∧o.sub i≠x:=fun o i ho=>⟨Qnh ho.1,hsub o i ho.1 ho.2⟩;have hke:(Owner.ext ≠ .box k∧Owner.ext≠x):=⟨by simp,fun e=>hxe e.symm⟩;have hthere:∀ j,There σ.M j→There (σ.M.put k (.mp es' cl')) j:=fun j hj=>hj.put;refine h.step ?_ ?_ hs hsz hd (fun t=>Qfx hthere _ (hons t)) ?_ ?_
 ·refine ⟨fun j b hj=>?_,fun b o hbo=>?_⟩
  ·simp only [Mem.put] at hj;split at hj
   ·rename_i he;subst he;cases hj;exact ⟨hltnb,by show ex x y (g.own (g.box j))=_;rw [hb,hbx],ents',hat,hr⟩
   ·rename_i hne;obtain ⟨k1,k2,k3⟩:=h.mem.box j b hj;have hbj:g.box j≠g.box k:=by
     grind
    refine ⟨k1,by show ex x y (g.own (g.box j))=_;rw [k2,hbx],?_⟩;cases b with
    | mp es2 c2 =>
     obtain ⟨ents2,hh',hr'⟩:=k3;exact ⟨ents2,(hoff _ hbj).trans hh',Qk9 (g:=g) hkept (fun i=>⟨by simp,fun e=>hcell j i hne e.symm⟩) hr'⟩
    | cells cs' =>
     obtain ⟨vs,e',hh',hr',ho'⟩:=k3;refine ⟨vs,e',(hoff _ hbj).trans hh',RVs_mono hkept hks hke cs' (.box j) 0 vs ⟨?_,fun e=>hx j e.symm⟩ (h.mOn j cs' hj) hr',ho'⟩
     grind
  ·obtain ⟨h3,h4⟩:=h.mem.imm b o hbo
   grind [G.re,ex]
 ·refine ⟨hw.1,hw.2.1,hw.2.2.1,by grind,hkept.imm,fun _ _=>rfl,fun b hb' ho=>?_⟩;have hne:g.own b ≠ .box k:=by intro e;rw [e] at ho;exact ho
  have hne2:g.own b≠x:=by grind
  exact ⟨by simp [G.re,ex,hne2],(hkept.own b ⟨hne,hne2⟩ hb').2.1,fun _=>Iff.rfl⟩
 ·intro j cs' hj;simp only [Mem.put] at hj;split at hj
  ·cases hj
  ·exact ons_mono hthere _ (h.mOn j cs' hj)
 ·intro j cs' hj hlt;simp only [Mem.put] at hj;split at hj
  ·cases hj
  ·exact h.out j cs' hj hlt
theorem Qbf0:∀ {n:Nat} {es:List (V×V×Nat)},upM n es=true→∀ x∈es,n≤x.2.2
 | _,[],_,x,hx=>by simp at hx
 | n,e::es,h,x,hx=>by
  simp only [upM,Bool.and_eq_true,decide_eq_true_eq] at h;rcases List.mem_cons.1 hx with rfl|hx
  ·exact h.1
  ·have:=Qbf0 h.2 x hx;omega
theorem Qbf1 {k:Nat} {y:Owner} {st:Nat}:∀ {n:Nat} {es:List (V×V×Nat)} {ents:List MapEntry} (i:Nat) {x:V×V×Nat} {sz:Nat} {l:List (List D)},upM n es=true→es[i]? = some x→x.2.1 = .own sz l→x.2.2=st→RM g w k es ents →
  RM (g.re (ex (.cell k st) y)) w k (modM x.1 (.d (.lst sz l)) i es) ents
 | _,[],_,i,x,sz,l,_,hx,_,_,_=>by simp at hx
 | n,e::es,_,0,x,sz,l,hu,hx,hv,hst,hr=>by
  simp only [upM,Bool.and_eq_true,decide_eq_true_eq] at hu;simp at hx;subst hx;simp only [RM] at hr;obtain ⟨q,t,rfl,⟨a1,a2⟩,⟨b1,b2⟩,h3,h4⟩:=hr;rw [hv] at b2;refine ⟨q,t,rfl,⟨a1,Qu8 (g:=g) (g':=g.re (ex (.cell k st) y)) (Imm.refl _ _) a1 a2⟩,⟨rfl,?_⟩,h3,?_⟩
  ·have:=Qh1 (g:=g) (w:=w) (.own sz l) (.cell k e.2.2) (.cell k e.2.2) _ b2;exact Qu8 (g:=g) (g':=g.re (ex (.cell k st) y)) (v:=.d (.lst sz l)) (Imm.refl _ _) rfl this
  ·have hlt:=Qbf0 hu.2;clear h3 a1 a2 b1 b2
   induction es generalizing t with
   | nil=>simpa [RM] using h4
   | cons z es ih =>
    simp only [RM] at h4 ⊢;obtain ⟨q2,t2,rfl,⟨a1,a2⟩,⟨b1,b2⟩,h3,h4⟩:=h4;have hz:z.2.2≠st:=by grind
    refine ⟨q2,t2,rfl,⟨a1,Qu8 (g:=g) (g':=g.re (ex (.cell k st) y)) (Imm.refl _ _) a1 a2⟩,⟨b1,?_⟩,h3,?_⟩
    ·rcases Qro b1 with b1|⟨sz2,l2,e2⟩
     ·exact Qu8 (g:=g) (g':=g.re (ex (.cell k st) y)) (Imm.refl _ _) b1 b2
     ·rw [e2] at b2 ⊢;exact Q78 (g:=g) (g':=g.re (ex (.cell k st) y)) (Imm.refl _ _) (fun b hb _=>⟨by show ex _ _ (g.own b)=_;simp_all [ex,if_neg],rfl,fun _=>Iff.rfl⟩) b2
    ·simp only [upM,Bool.and_eq_true,decide_eq_true_eq] at hu;exact ih ⟨hu.1,(by
      have:∀ {m m' : Nat} {r:List (V×V×Nat)},m'≤m→upM m r=true→upM m' r=true:=fun {m m' r} hm hr=>by
       cases r with
       | nil=>rfl
       | cons c r=>simp only [upM,Bool.and_eq_true,decide_eq_true_eq] at hr ⊢;grind
      grind)⟩ t2 h4 (fun c hc=>hlt c (by simp [hc]))
 | n,e::es,_,i+1,x,sz,l,hu,hx,hv,hst,hr=>by
  simp only [upM,Bool.and_eq_true,decide_eq_true_eq] at hu;simp only [RM] at hr;obtain ⟨q,t,rfl,⟨a1,a2⟩,⟨b1,b2⟩,h3,h4⟩:=hr;have hx' : es[i]? = some x:=by simpa using hx
  have hle:=Qbf0 hu.2 x (List.mem_of_getElem? hx');refine ⟨q,t,rfl,⟨a1,Qu8 (g:=g) (g':=g.re (ex (.cell k st) y)) (Imm.refl _ _) a1 a2⟩,⟨b1,?_⟩,h3,Qbf1 i hu.2 hx' hv hst h4⟩;rcases Qro b1 with b1|⟨sz2,l2,e2⟩
  ·exact Qu8 (g:=g) (g':=g.re (ex (.cell k st) y)) (Imm.refl _ _) b1 b2
  ·rw [e2] at b2 ⊢;exact Q78 (g:=g) (g':=g.re (ex (.cell k st) y)) (Imm.refl _ _) (fun b hb _=>⟨by show ex _ _ (g.own b)=_;rw [hb];unfold ex;grind,rfl,fun _=>Iff.rfl⟩) b2
theorem Qbiw {t kt e:TypeId} {z:V} (ht:P.underlying t=some (.map kt e)) (h:Qbe8 P t=some z):z.dat=true∧∃ zv,(zeroValue e).run P w = .ok zv w∧RF g w z zv:=by
 unfold Qbe8 at h;rw [ht] at h;simp only at h;split at h<;>try (cases h;done)
 rename_i sz zv hna hz hi;cases h;obtain ⟨i,zv',h1,h2,h3,_⟩:=Qjv P hz;rw [h1] at hi;simp only [Option.bind_some] at hi;rw [h2] at hi;cases hi;refine ⟨rfl,_,Qpb P h1 h2 w,?_⟩;have hc:=h3 g w;have hcells:zv.cells.toList=[zv]:=by
  cases zv<;>first|rfl|exact absurd rfl (hna _ _ hz)|skip
  all_goals simp_all [Value.cells]
 rw [hcells] at hc;exact hc.rf 0 _ _ rfl rfl
theorem Qbeg (h:SR n0 nt g0 w0 σ a w g) {dst:Option Nat} (hd:∀ d,dst=some d→d<nt) (t:TypeId) {kt:TypeId} {kd:MK} {z z0:V} (hmk:Qk3 P t=some (kt,kd,z0)) (hzn:Qbe8 P t=some z) {x y v:V} {um uk:Value} {κ:Nat} {M' : Mem}
  (hx:RF g w x um) (hy:RF g w y uk) (hs:Qi n0 κ (.lookupT kd z) [x,y] σ.M=some (v,M')) :
  ∃ val g',(Instr.lookup t um uk false).run P w = .ok val w∧SR n0 nt g0 w0 ⟨Qbe σ.s dst v,M',σ.nb⟩ (a.put dst val) w g':=by
 obtain ⟨b,key,es,cl,hxs,hMk,hk1,hk2,hup,hres⟩:=Qzg hs;cases hxs;have hum:=Qbbr hx;subst hum;obtain ⟨et,ht,hkk,hz,_⟩:=Qpz P hmk;obtain ⟨_,hown,ents,hh,hr⟩:=h.mem.box b _ hMk;have hlaw:=Q4l (g:=g) (w:=w) P hkk;obtain ⟨_,zv,hzr,hzf⟩:=Qbiw (g:=g) (w:=w) P ht hzn;have hck:∀ em,(Instr.checkKey em 10000 kt uk).run P w = .ok () w:=fun em=>hlaw.check em hk1 hy;rcases Q4m P hlaw hk1 hy hr hk2 with ⟨f1,f2⟩|⟨j,v',e,x,f1,f2,f3,f4,f5,f6,f7,f8,f9⟩
 ·rcases hres with ⟨i,sz,l,e,h1,_⟩|⟨h1,h2,rfl,rfl⟩
  ·rw [f1] at h1;cases h1
  ·refine ⟨zv,g,?_,h.pure hd (fun _ _=>hzf _) (Qwe h2)⟩;have hfk:=f2;simp [Instr.lookup,run_underlying ht,MapKept.run_getObj_map hh,hck,hfk,hzr,Result.andThen]
 ·rcases hres with ⟨i,sz,l,e0,h1,h2,rfl,rfl⟩|⟨h1,_⟩
  ·rw [f1] at h1;cases h1;rw [f2] at h2;cases h2;have hfk:=f7;refine ⟨e.val,g.re (ex (.cell b x.2.2) (.slot (dst.getD 0) [])),?_,?_⟩
   ·simp [Instr.lookup,run_underlying ht,MapKept.run_getObj_map hh,hck,hfk,Result.andThen]
   ·have hkx:=Kept.ex g w (.cell b x.2.2) (.slot (dst.getD 0) []) (There σ.M);refine h.mapre hMk (x:=.cell b x.2.2) (by simp) (by simp [Prot]) (by simp) (by simp) ?_ ?_ (fun _ _=>rfl) hh ⟨rfl,rfl,rfl,rfl⟩ (Qbf1 j hup f2 f3 rfl hr) (Qfy (fun d' hd'=>by rw [h.size];exact hd d' hd') (fun t ht=>?_) (fun d' hd'=>?_)) (Qgz _ _ _) (Qei _ _ _) (Qfz h.onS trivial)
    ·intro o i h1 h2;cases o<;>simp_all [Owner.sub]
    ·grind
    ·have hk' : Kept g w (g.re (ex (.cell b x.2.2) (.slot (dst.getD 0) []))) w (There σ.M) (fun o=>(∃ t q,o = .slot t q)∨o = .ext) :=
      hkx.weaken (fun _ h=>h) (by grind)
     refine Qdh hk' ?_ (.inr rfl) _ _ _ (.inl ⟨t,[],rfl⟩) (h.onS t) (h.slots t);rintro ℓ i' (⟨t,q,rfl⟩|rfl)
     ·exact .inl ⟨t,i'::q,rfl⟩
     ·exact .inr rfl
    grind [Q6q]
  grind
theorem Qbeh (h:SR n0 nt g0 w0 σ a w g) (t:TypeId) {kt:TypeId} {kd:MK} {z:V} (hmk:Qk3 P t=some (kt,kd,z)) {x y v:V} {um uk:Value} {t0:Nat} {κ:Nat} {M' : Mem}
  (hx:RF g w x um) (hy:RF g w y uk) (hs:Qi n0 κ (.mapsetT kd) [x,y,σ.s t0] σ.M=some (v,M')) :
  ∃ w' g',(Instr.mapUpdate t um uk (a.tmps.getD t0 undef)).run P w = .ok () w'∧SR n0 nt g0 w0 ⟨σ.s.put t0 (σ.s t0).dem,M',σ.nb⟩ a w' g':=by
 obtain ⟨b,key,sz,l,es,cl,hxs,hMk,hk1,hk2,rfl,rfl⟩:=Qzh hs;simp only [List.cons.injEq,and_true] at hxs;obtain ⟨rfl,rfl,hv⟩:=hxs;have hum:=Qbbr hx;subst hum;obtain ⟨et,ht,hkk,hz,hzd⟩:=Qpz P hmk;obtain ⟨_,hown,ents,hh,hr⟩:=h.mem.box b _ hMk;have hlaw:=Q4l (g:=g) (w:=w) P hkk;have hck:∀ em,(Instr.checkKey em 10000 kt uk).run P w = .ok () w:=fun em=>hlaw.check em hk1 hy;have hst:=hlaw.stays hk1 hy;have hslot:=h.slots t0;rw [hv] at hslot;have fin:∀ (st cl' : Nat) (es' : List (V×V×Nat)) (ents' : List MapEntry),(∀ {w' : World},Imm g.imm g.imm w w'→(∀ c,c≠g.box b→w'.heap[c]? = w.heap[c]?)→RM (g.re (ex (.slot t0 []) (.cell b st))) w' b es' ents') →
   SR n0 nt g0 w0 ⟨σ.s.put t0 (σ.s t0).dem,σ.M.put b (.mp es' cl'),σ.nb⟩ a { w with heap:=w.heap.setIfInBounds (g.box b) (.map ents'.toArray cl') } (g.re (ex (.slot t0 []) (.cell b st))):=by
  intro st cl' es' ents' hrm;obtain ⟨hs1,hs2⟩:=heap_set (o':=.map ents'.toArray cl') hh;have hkx:=Kept.ex g w (.slot t0 []) (.cell b st) (There σ.M);have himm:Imm g.imm g.imm w { w with heap:=w.heap.setIfInBounds (g.box b) (.map ents'.toArray cl') }:=⟨fun _ _ h=>h,fun c o hco=>by
   have:c≠g.box b:=by rintro rfl;exact (h.mem.imm _ _ hco).2 b hown
   exact Qe4 (hs2 c this)⟩
  have hkept:Kept g w (g.re (ex (.slot t0 []) (.cell b st))) { w with heap:=w.heap.setIfInBounds (g.box b) (.map ents'.toArray cl') } (There σ.M) (fun o=>o ≠ .box b∧o ≠ .slot t0 []) :=
   ⟨himm,fun _ _=>rfl,fun c hc _=>⟨by simp [G.re,ex,hc.2],hs2 c (by grind),fun _=>Iff.rfl⟩⟩
  have hks:∀ (o:Owner) i,o ≠ .box b∧o ≠ .slot t0 []→o.sub i ≠ .box b∧o.sub i ≠ .slot t0 []:=fun o i ho=>⟨Qnh ho.1,by cases o<;>simp_all [Owner.sub]⟩;refine h.mapre (w':={ w with heap:=w.heap.setIfInBounds (g.box b) (.map ents'.toArray cl') }) hMk (x:=.slot t0 []) (by simp) (by simp [Prot]) (by simp) (by simp) (fun o i h1 h2=>(hks o i ⟨h1,h2⟩).2) (by simp) hs2 hs1 ⟨rfl,rfl,rfl,by simp⟩ (hrm himm hs2) (fun t=>?_) rfl rfl (fun t=>?_)
  ·simp only [Sl.put];split
   ·rename_i he;subst he;rw [hv];have:=Qh1 (g:=g) (w:=w) (.own sz l) (.slot t []) (.slot t []) _ hslot;exact Qu8 (g:=g) (g':=g.re (ex (.slot t []) (.cell b st))) (v:=.d (.lst sz l)) himm rfl this
   ·rename_i hne;exact Qdh hkept hks ⟨by simp,by simp⟩ _ _ _ ⟨by simp,by simp [hne]⟩ (h.onS t) (h.slots t)
  ·simp only [Sl.put];split
   ·exact (Qdy _).2 (h.onS t0)
   ·exact h.onS t
 have hrm0:∀ (st:Nat) {w' : World},Imm g.imm g.imm w w'→(∀ c,c≠g.box b→w'.heap[c]? = w.heap[c]?)→RM (g.re (ex (.slot t0 []) (.cell b st))) w' b es ents:=fun st {w'} hi hc =>
  Q9f (g:=g) (g':=g.re (ex (.slot t0 []) (.cell b st))) hi (fun c i hci _=>⟨by show ex _ _ (g.own c)=_;simp_all [ex,if_neg],hc c (by grind),fun _=>Iff.rfl⟩) hr
 have hval:∀ (st:Nat) {w' : World},Imm g.imm g.imm w w'→(∀ c,c≠g.box b→w'.heap[c]? = w.heap[c]?)→RV (g.re (ex (.slot t0 []) (.cell b st))) w' (.own sz l) (.cell b st) (a.tmps.getD t0 undef):=fun st {w'} hi hc=>by
  have:=Q6q (b:=.cell b st) hslot;refine Q78 (g:=g.re (ex (.slot t0 []) (.cell b st))) (g':=g.re (ex (.slot t0 []) (.cell b st))) (w:=w) hi (fun c hco _=>⟨hco,hc c ?_,fun _=>Iff.rfl⟩) this;rintro rfl;have h2:ex (.slot t0 []) (.cell b st) (g.own (g.box b)) = .cell b st:=hco
  simp_all [ex,if_neg]
 have hkey:∀ (st:Nat) {w' : World},Imm g.imm g.imm w w'→RV (g.re (ex (.slot t0 []) (.cell b st))) w' y .ext uk:=fun st {w'} hi=>Qu8 (g:=g) (g':=g.re (ex (.slot t0 []) (.cell b st))) hi (Q4o hk1) (hy .ext);rcases Q4m P hlaw hk1 hy hr hk2 with ⟨f1,f2⟩|⟨j,v',e,x,f1,f2,f3,f4,f5,f6,f7,f8,f9⟩
 ·have hfk:=f2;rw [f1];refine ⟨_,_,?_,fin cl (cl+1) _ (ents++[{ key:=uk,val:=a.tmps.getD t0 undef,born:=cl }]) (fun hi hc=>Q4n (hrm0 cl hi hc) (Q4o hk1) (hkey cl hi) rfl (hval cl hi hc))⟩;simp [Instr.mapUpdate,run_underlying ht,MapKept.run_getObj_map hh,hck,hfk,MapKept.run_setObj_map _ hh,Result.andThen]
 ·have hfk:=f7;rw [f1];refine ⟨_,_,?_,fin x.2.2 cl _ (ents.modify j fun q=>{ q with key:=uk,val:=a.tmps.getD t0 undef }) (fun hi hc=>Q9q (Q4o hk1) (hkey _ hi) rfl j (fun y hy'=>by grind) (hrm0 _ hi hc))⟩;have hj:ents[j]? = some e:=f4;simp [Instr.mapUpdate,run_underlying ht,MapKept.run_getObj_map hh,hck,hfk,hj,f5,hst,MapKept.run_setObj_map _ hh,Result.andThen,Qn0]
end
end Go.Abs
end
section
namespace Go.Abs
open Go
section
variable (P:Program) {g:G} {w:World} {n0 nt:Nat} {g0:G} {w0:World} {σ:St} {a:Act}
theorem Qid (s:Sem Value) {val:Value} {w' : World} (h:s.run P w = .ok val w'):((do pure (Next.value (← s)):Sem Next)).run P w = .ok (.value val) w':=by simp [h]
theorem Qbbt (s:Sem Unit) {w' : World} (h:s.run P w = .ok () w'):((do s;pure Next.skip:Sem Next)).run P w = .ok .skip w':=by simp [h]
theorem Qbl3 {v:V} {sz k off len cap:Nat} (h:v.dem = .sl sz k off len cap):v = .sl sz k off len cap:=by
 cases v<;>simp [V.dem] at h ⊢;exact h
theorem Qbc6 {s s' : Sl} {M:Mem} {nb:Nat} {a:Act} (h:SR n0 nt g0 w0 ⟨s,M,nb⟩ a w g) (he:∀ i,s' i=s i):SR n0 nt g0 w0 ⟨s',M,nb⟩ a w g :=by simp_all [funext]
theorem Q0o (ps:Array (Nat×Operand)) (f:Operand→Value):((ps.toList.map (·.1)).zip ((ps.toList.map (·.2)).map f)).toArray=ps.map fun (i,x)=>(i,f x):=by
 grind
theorem Qbmv {s s' : Sl} {M:Mem} {nb:Nat} {a:Act} (h:SR n0 nt g0 w0 ⟨s,M,nb⟩ a w g) (he:∀ i,s' i=s i∨s' i=(s i).dem):SR n0 nt g0 w0 ⟨s',M,nb⟩ a w g:={
 mem:=h.mem
 slots:=fun t=>by
  rcases he t with e|e
  ·show RV g w (s' t) _ _;rw [e];exact h.slots t
  ·show RV g w (s' t) _ _;rw [e];exact Qh1 _ _ _ _ (h.slots t)
 size:=h.size
 defers:=h.defers
 onS:=fun t=>by
  rcases he t with e|e
  ·show (s' t).on _;rw [e];exact h.onS t
  ·show (s' t).on _;rw [e];exact (Qdy _).2 (h.onS t)
 onM:=h.onM
 top:=h.top
 fr:=h.fr }
theorem Qbkx (args:Array Operand) (f:Operand→Value) (hs:args.size=1):∃ u,args.map f = #[u]∧args.toList.map f=[u]:=by
 cases args with
 | mk l =>
  match l,hs with
  | [x],_=>simp_all
theorem Qbix (ts:Array TypeId) (hs:ts.size=1):ts = #[ts.getD 0 0]:=by
 cases ts with
 | mk l =>
  match l,hs with
  | [x],_=>simp
theorem Qbf2 (args:Array Operand) (f:Operand→Value) (hs:args.size=2):∃ u v,args.map f = #[u,v]∧args.toList.map f=[u,v]:=by
 cases args with
 | mk l =>
  match l,hs with
  | [x,y],_=>simp_all
theorem Qbf3 {u:Value} {xs:List V} (h:RFs g w xs [u]):∃ x,xs=[x]∧RF g w x u:=by
 match xs,h with
 | x::xs,⟨u',us,e,r,h⟩ =>
  simp only [List.cons.injEq] at e;obtain ⟨rfl,rfl⟩:=e;have hl:=Qix h
  grind
theorem Q4q {u v:Value} {xs:List V} (h:RFs g w xs [u,v]):∃ x y,xs=[x,y]∧RF g w x u∧RF g w y v:=by
 match xs,h with
 | x::xs,⟨u',us,e,r,h⟩ =>
  simp only [List.cons.injEq] at e;obtain ⟨rfl,rfl⟩:=e;obtain ⟨y,rfl,r'⟩:=Qbf3 h
  grind
theorem Q4r {u v x:Value} {xs:List V} (h:RFs g w xs [u,v,x]):∃ a b c,xs=[a,b,c]∧RF g w a u∧RF g w b v∧RF g w c x:=by
 match xs,h with
 | [a,b,c],⟨u1,us1,e1,r1,u2,us2,e2,r2,u3,us3,e3,r3,e4⟩ =>
  grind
 | [],h=>simp [RFs] at h
 | [_],⟨_,_,e1,_,e2⟩=>grind [RFs]
 | [_,_],⟨_,_,e1,_,_,_,e2,_,e3⟩=>grind [RFs]
 | _::_::_::_::_,⟨_,_,e1,_,_,_,e2,_,_,_,e3,_,_,_,e4,_⟩=>grind
theorem Qbl4 {nt:Nat} {dst:Option Nat} (h:∀ d,dst=some d→d<nt) (h0:0<nt):dst.getD 0<nt:=by
 cases dst with
 | none=>exact h0
 | some d=>exact h d rfl
theorem Q4s (h:SR n0 nt g0 w0 σ a w g) {ctx:Nat→TypeId} {m k x:Operand} {as:List Arg} (has:Qeu P ctx 0 [m,k,x]=some as) {L:List Nat} (hT:inL L (tmpO x)=true) (t:TypeId) {kt:TypeId} {kd:MK} {z:V} (hmk:Qk3 P t=some (kt,kd,z)) {v:V} {κ:Nat} {M' : Mem}
  (hst:Qi n0 κ (.mapsetT kd) (as.map (·.val σ.s)) σ.M=some (v,M')) :
  ∃ w' g',(Instr.mapUpdate t (a.eval m) (a.eval k) (a.eval x)).run P w = .ok () w'∧SR n0 nt g0 w0 ⟨Q4 σ.s as (Qbz (.mapsetT kd) (as.map (·.val σ.s))),M',σ.nb⟩ a w' g':=by
 obtain ⟨t0,rfl⟩ : ∃ t0,x = .tmp t0:=by
  cases x<;>simp [tmpO,inL] at hT;exact ⟨_,rfl⟩
 simp only [Qeu] at has;cases hm:Qgd P (ctx 0) m with
 | none=>grind
 | some am =>
  cases hk:Qgd P (ctx (0+1)) k with
  | none=>grind
  | some ak =>
   rw [hm,hk] at has;simp only [Qgd,Option.some.injEq] at has;subst has;obtain ⟨m1,m2⟩:=Qg7 P h hm;obtain ⟨k1,k2⟩:=Qg7 P h hk;simp only [List.map_cons,List.map_nil,Arg.val] at hst;obtain ⟨b,key,sz,l,es,cl,hxs,hMk,hk1,hk2,rfl,rfl⟩:=Qzh hst;simp only [List.cons.injEq,and_true] at hxs;obtain ⟨e1,e2,e3⟩:=hxs;have q1:(am.val σ.s).dem=am.val σ.s:=by
    have:am.val σ.s = .mp b:=e1;rw [this];rfl
   have q2:(ak.val σ.s).dem=ak.val σ.s:=by
    have:ak.val σ.s=key:=e2;rw [this];exact Qwf (Qbfw hk1)
   rw [q1] at m1;rw [q2] at k1;obtain ⟨w',g',hr,hsr⟩:=Qbeh P h t hmk m1 k1 (t0:=t0) hst;refine ⟨w',g',hr,Qbc6 hsr fun i=>?_⟩;simp only [List.map_cons,List.map_nil,Qbz,Q4,Arg.putTo,Sl.put];by_cases hi:i=t0
   ·simp only [hi,if_true];rfl
   ·simp only [hi,if_false];cases ak with
    | c v =>
     cases am with
     | c u=>rfl
     | t im =>
      simp only [Sl.put];split
      ·rename_i he;subst he;rfl
      ·rfl
    | t ik =>
     simp only [Sl.put];split
     ·rename_i he;subst he;rfl
     ·cases am with
      | c u=>rfl
      | t im =>
       simp only [Sl.put];split
       ·rename_i he;subst he;rfl
       ·rfl
theorem Qcw (h:SR n0 nt g0 w0 σ a w g) {o:Oper} (hd:∀ d,o.dst=some d→d<nt) {k:K} (hz:k.okz) {as:List Arg} {v:V} {M' : Mem} {κ:Nat}
  (hs:Qi n0 κ k (V.dems (as.map (·.val σ.s))) σ.M=some (v,M')) (hon:V.ons (There σ.M) (V.dems (as.map (·.val σ.s)))) (hr:M'=σ.M∧∃ val,(execOp a.eval o).run P w = .ok (.value val) w∧RF g w v val) :
  Gives P n0 nt g0 w0 o a w ⟨Qbe σ.s o.dst v,M',σ.nb⟩:=by
 obtain ⟨rfl,val,hrun,hrf⟩:=hr;exact .inl ⟨val,w,g,hrun,h.pure hd (fun _ _=>hrf _) (Q8b hz hs hon h.mOn).1⟩
theorem Qbl5 (h:SR n0 nt g0 w0 σ a w g) {d:Nat} (hd:d<nt) (t e:TypeId) (ht:P.underlying t=some (.slice e)) {z0:V} (hz:Qsb P e=some [z0]) (h1:P.cellsOf e=1) {x:D} {u:Value} (hx:RF g w (.d x) u) :
  ∃ val w' g',(Instr.buildSlice t 1 #[(0,u)]).run P w = .ok val w'∧SR n0 nt g0 w0 ⟨Qbe σ.s (some d) (.own 1 [[x]]),σ.M,σ.nb⟩ (a.put (some d) val) w' g':=by
 obtain ⟨i,zv,hi,hzv,hcz,hlt⟩:=Qjv P hz;have hcl:=(hcz g w).len;have hzs:zv.cells.size=1:=by simpa using hcl
 obtain ⟨out,hfill,hcr⟩:=Qs1 (g:=g) (w:=w) (fun i=>some (i*1,1)) (rep 1 [z0]) _ (CR.rep (hcz g w) 1) [0] [0] [1] [.d x] [u] ⟨u,[],rfl,hx,rfl⟩ (fun y hy=>by simp only [List.mem_singleton] at hy;subst hy;rfl) rfl rfl rfl
  (fun j y i o s hxj hij hoj hsj=>by
   cases j with
   | succ j=>simp at hxj
   | zero =>
    simp only [List.getElem?_cons_zero,Option.some.injEq] at hxj hij hoj hsj;subst hxj hij hoj hsj;exact ⟨rfl,rfl,by simp [rep],rfl⟩)
 have e1:Qir (rep 1 [z0]) (([0].zip [V.d x]).map fun p=>(p.1,p.2.cells))=[.d x]:=rfl;rw [e1] at hcr;have hl:=hcr.len
 match out,hl,hcr with
 | [v],_,hcr =>
  obtain ⟨g',hsr⟩:=h.newlit hd (RF_d.1 (hcr.rf 0 (.d x) v rfl rfl)) (hcr.one v (by simp)) e;refine ⟨_,_,g',?_,hsr⟩;have hm:=Qpd zv.cells (by omega) 1;rw [hzs] at hm;unfold madeCells at hm;have hso:∀ w,(sizeOf e).run P w = .ok (P.cellsOf e) w:=fun w=>by rw [Qhc P hi,Qfc P hi]
  rw [← hm] at hfill;simp only [List.zip_cons_cons,List.zip_nil_left,hzs,Nat.mul_one] at hfill;simp [Instr.buildSlice,run_underlying ht,hso,Qpb P hi hzv,h1,hzs,newRow];rw [hfill];simp
theorem Qbei {κ sz:Nat} {x i v:V} {M M' : Mem} (hs:Qi n0 κ (.slcT sz) [x,i] M=some (v,M')) :
  M'=M∧∃ k n l,i = .d (.int k n)∧0≤n∧n≤(l.length:Int)∧((x = .d (.lst sz l)∧v = .d (.lst sz (l.drop n.toNat)))∨((x = .ownT sz l∨x = .own sz l)∧v = .ownT sz (l.drop n.toNat))):=by
 cases i
 case d di =>
  cases di
  case int k n =>
   cases x
   case d dx =>
    cases dx
    case lst sz' l =>
     simp only [Qi] at hs;split at hs<;>cases hs;rename_i hc;simp only [Bool.and_eq_true,decide_eq_true_eq] at hc;obtain ⟨⟨rfl,n1⟩,n2⟩:=hc;exact ⟨rfl,k,n,l,rfl,n1,n2,.inl ⟨rfl,rfl⟩⟩
    all_goals (simp [Qi] at hs)
   case own sz' l =>
    simp only [Qi] at hs;split at hs<;>cases hs;rename_i hc;simp only [Bool.and_eq_true,decide_eq_true_eq] at hc;obtain ⟨⟨rfl,n1⟩,n2⟩:=hc;exact ⟨rfl,k,n,l,rfl,n1,n2,.inr ⟨.inr rfl,rfl⟩⟩
   case ownT sz' l =>
    simp only [Qi] at hs;split at hs<;>cases hs;rename_i hc;simp only [Bool.and_eq_true,decide_eq_true_eq] at hc;obtain ⟨⟨rfl,n1⟩,n2⟩:=hc;exact ⟨rfl,k,n,l,rfl,n1,n2,.inr ⟨.inl rfl,rfl⟩⟩
   all_goals (simp [Qi] at hs)
  all_goals (simp [Qi] at hs)
 all_goals (simp [Qi] at hs)
theorem Qbky (h:SR n0 nt g0 w0 σ a w g) (t e:TypeId) (ht:P.underlying t=some (.slice e)) (h0:P.cellsOf e≠0) (t0 d:Nat) (hd:d<nt) {lv:Operand} {a1:Arg} (ha1:Qgd P t lv=some a1) {κ:Nat} {v:V} {M' : Mem}
  (hst:Qi n0 κ (.slcT (P.cellsOf e)) [Arg.val σ.s (.t t0),a1.val σ.s] σ.M=some (v,M')) :
  ∃ val g',(Instr.sliceAt t (a.eval (.tmp t0)) (some (a.eval lv)) none none).run P w = .ok val w ∧
   SR n0 nt g0 w0 ⟨Qbe (Q4 σ.s [Arg.t t0,a1] (Qbz (.slcT (P.cellsOf e)) [Arg.val σ.s (.t t0),a1.val σ.s])) (some d) v,M',σ.nb⟩ (a.put (some d) val) w g':=by
 obtain ⟨hi1,hi2⟩:=Qg7 P h ha1;obtain ⟨rfl,k,n,l,hiv,n1,n2,hcase⟩:=Qbei hst;rw [hiv] at hi1;have hev:a.eval lv = .int k n:=Qpx hi1;have hsl:∀ j,Q4 σ.s [Arg.t t0,a1] (Qbz (.slcT (P.cellsOf e)) [Arg.val σ.s (.t t0),a1.val σ.s]) j=σ.s.put t0 (σ.s t0).dem j:=by
  intro j;simp only [Qbz,Q4,Arg.putTo];cases a1 with
  | c c=>rfl
  | t t1 =>
   simp only [Arg.val] at hiv ⊢;simp only [Sl.put];by_cases hj:j=t1
   ·subst hj;rw [if_pos rfl];split
    ·rename_i he;subst he;rw [hiv];rfl
    ·rfl
   ·rw [if_neg hj]
 rw [hev,funext hsl];have hslot:=h.slots t0;have hae:a.eval (.tmp t0)=a.tmps.getD t0 undef:=rfl;rw [hae];rcases hcase with ⟨hx,rfl⟩|⟨hx,rfl⟩
 ·rw [show σ.s t0=_ from hx] at hslot;obtain ⟨_,val,hr,hrf⟩:=Qbcs (n0:=0) (κ:=0) (M:=σ.M) P t e ht h0 (some (.int k n)) none (bs:=[.d (.int k n)]) (Qwg hslot) ⟨_,_,rfl,RF_d.2 (by simp [RD]),rfl⟩ (v:=.d (.lst (P.cellsOf e) (l.drop n.toNat))) (M':=σ.M) (by
   simp_all [Qzf,Option.isSome,Qn5,Option.getD,V.dem,if_pos])
  obtain ⟨g',hsr⟩:=Qbcy h t0 d hd (hrf _) trivial
  grind
 ·have hrv:RV g w (.ownT (P.cellsOf e) l) (.slot t0 []) (a.tmps.getD t0 undef):=by
   rcases hx with hx|hx
   ·rwa [show σ.s t0=_ from hx] at hslot
   ·rw [show σ.s t0=_ from hx] at hslot;exact Qbbj hslot
  obtain ⟨val,hr,hv⟩:=Qbir P t e ht h0 hrv k n n1 n2;obtain ⟨g',hsr⟩:=Qbcy h t0 d hd hv trivial
  grind
set_option maxHeartbeats 1000000 in
theorem Qbej {T:Tk} {ops:Array Oper} {o:Oper} {c:COp} (hc:Qji P T nt ops o=some c) (hcall:c.kind.isCall=false) (hnil:c.kind.isNil=false)
  (h:SR n0 nt g0 w0 σ a w g) {σ' : St} (hs:c.step n0 σ=some σ'):Gives P n0 nt g0 w0 o a w σ':=by
 obtain ⟨k,as,tk,hk,hd,hnt,hcd,hck,hca,hct⟩ : ∃ k as tk,Qi6 P T o=some (k,as,tk)∧(∀ d,o.dst=some d→d<nt)∧0<nt∧c.dst=o.dst∧c.kind=k∧c.args=as∧c.tk=tk:=by
  unfold Qji at hc;split at hc<;>try (cases hc;done)
  rename_i k as tk hk;split at hc<;>try (cases hc;done)
  rename_i hcond;simp only [Bool.and_eq_true,decide_eq_true_eq] at hcond;refine ⟨k,as,tk,hk,fun d hd=>?_,hcond.1.1,?_⟩
  ·have:=hcond.1.2;rw [hd] at this;simpa [Qbe9] using this
  ·split at hc
   ·cases hc;exact ⟨rfl,rfl,rfl,rfl⟩
   ·split at hc<;>cases hc;exact ⟨rfl,rfl,rfl,rfl⟩
 have hz:=Q9m P hk;simp only [COp.step,COp.xs,hcd,hck,hca,hct] at hs;rw [hck] at hcall hnil;clear hcd hck hca hct hc;have hκ:n0≤n0+o.dst.getD 0:=by omega
 have hκ' : n0+o.dst.getD 0<σ.nb:=by
  have h1:=h.top;have h2:=Qbl4 hd hnt;omega
 generalize n0+o.dst.getD 0=κ at hs hκ hκ';have plain:tk=false→∃ v M',Qi n0 κ k (V.dems (as.map (·.val σ.s))) σ.M=some (v,M')∧σ'=⟨Qbe σ.s o.dst v,M',σ.nb⟩:=by
  rintro rfl;simp only [Bool.false_eq_true,if_false] at hs;split at hs<;>cases hs;rename_i v M heq;exact ⟨v,M,heq,rfl⟩
 unfold Qi6 at hk;cases hop:o.op<;>rw [hop] at hk<;>simp only at hk<;>try (cases hk;done)
 case move x =>
  simp only [Option.map_eq_some_iff,Prod.mk.injEq] at hk;obtain ⟨ar,har,rfl,rfl,htk⟩:=hk;cases tk with
  | false =>
   obtain ⟨v,M',hst,rfl⟩:=plain rfl;obtain ⟨h1,h2⟩:=Qg7 P h har;refine Qcw P h hd hz hst ⟨(Qdy _).2 h2,trivial⟩ ?_;simp only [List.map_cons,List.map_nil,V.dems,Qi,Option.some.injEq,Prod.mk.injEq] at hst;obtain ⟨rfl,rfl⟩:=hst;exact ⟨rfl,_,by simp [execOp,hop],h1⟩
  | true =>
   rcases Qs5 P h har with ⟨t,rfl,rfl,h1,h2⟩|⟨hx,cv,rfl,hc1,hc2⟩
   ·cases hdst:o.dst with
    | none=>simp [hdst,inL,Q59] at htk
    | some d =>
     simp only [if_true,List.map_cons,List.map_nil,Qi,Arg.val,Qbz] at hs;cases hs;obtain ⟨g',hsr⟩:=Qbfp h t d (hd d hdst);refine .inl ⟨_,w,g',by simp only [execOp,hop];rfl,?_⟩;rw [hdst];exact hsr
   ·simp only [if_true,List.map_cons,List.map_nil,Qi,Arg.val,Qbz] at hs;cases hs;refine .inl ⟨_,w,g,by simp only [execOp,hop];rfl,?_⟩;exact h.pure hd (fun _ _=>hc1 _) hc2
 case assign x =>
  simp only [Option.map_eq_some_iff,Prod.mk.injEq] at hk;obtain ⟨ar,har,rfl,rfl,htk⟩:=hk;cases tk with
  | false =>
   obtain ⟨v,M',hst,rfl⟩:=plain rfl;obtain ⟨h1,h2⟩:=Qg7 P h har;refine Qcw P h hd hz hst ⟨(Qdy _).2 h2,trivial⟩ ?_;simp only [List.map_cons,List.map_nil,V.dems,Qi,Option.some.injEq,Prod.mk.injEq] at hst;obtain ⟨rfl,rfl⟩:=hst;exact ⟨rfl,_,by simp [execOp,hop],h1⟩
  | true =>
   rcases Qs5 P h har with ⟨t,rfl,rfl,h1,h2⟩|⟨hx,cv,rfl,hc1,hc2⟩
   ·simp only [if_true,List.map_cons,List.map_nil,Qi,Arg.val,Qbz] at hs;cases hs;cases hdst:o.dst with
    | none =>
     refine .inl ⟨_,w,g,by simp only [execOp,hop];rfl,?_⟩;rw [hdst];refine h.step h.mem (Fr.refl _ _ _) (fun t'=>?_) (Qgz _ _ _) (Qei _ _ _) (fun t'=>?_) h.mOn h.out
     ·simp only [Qbe,Q4,Arg.putTo,Sl.put,Act.put];split
      ·rename_i he;subst he;exact Qh1 _ _ _ _ (h.slots t')
      ·exact h.slots t'
     ·simp only [Qbe,Q4,Arg.putTo,Sl.put];split
      ·exact (Qdy _).2 h2
      ·exact h.onS t'
    | some d =>
     obtain ⟨g',hsr⟩:=Qbfp h t d (hd d hdst);refine .inl ⟨_,w,g',by simp only [execOp,hop];rfl,?_⟩;rw [hdst];exact hsr
   ·simp only [if_true,List.map_cons,List.map_nil,Qi,Arg.val,Qbz] at hs;cases hs;refine .inl ⟨_,w,g,by simp only [execOp,hop];rfl,?_⟩;exact h.pure hd (fun _ _=>hc1 _) hc2
 case pick x y z =>
  simp only [Option.map_eq_some_iff,Prod.mk.injEq] at hk;obtain ⟨as',has,rfl,rfl,rfl⟩:=hk;obtain ⟨v,M',hst,rfl⟩:=plain rfl;obtain ⟨h1,h2⟩:=Qec P h _ _ _ _ has;refine Qcw P h hd hz hst h2 ?_;generalize V.dems (as'.map (·.val σ.s))=xs at hst h1
  match xs,h1 with
  | [x',y',z'],⟨u1,us1,e1,r1,u2,us2,e2,r2,u3,us3,e3,r3,e4⟩ =>
   simp only [List.map_cons,List.map_nil,List.cons.injEq] at e1;obtain ⟨rfl,rfl⟩:=e1;simp only [List.cons.injEq] at e2;obtain ⟨rfl,rfl⟩:=e2;simp only [List.cons.injEq] at e3;obtain ⟨rfl,rfl⟩:=e3;obtain ⟨hM,val,hr,hrf⟩:=Qbkp P r1 r2 r3 hst;exact ⟨hM,val,by simpa [execOp,hop] using hr,hrf⟩
 case alloc e =>
  simp only [Option.map_eq_some_iff,Prod.mk.injEq] at hk;obtain ⟨z,hze,rfl,rfl,rfl⟩:=hk;obtain ⟨v,M',hst,rfl⟩:=plain rfl;obtain ⟨val,w',g',hr,hsr⟩:=Qbip P h hd e hze hκ hκ' hst;exact .inl ⟨val,w',g',by simp only [execOp,hop];exact Qid P _ hr,hsr⟩
 case box e x =>
  simp only [Option.map_eq_some_iff,Prod.mk.injEq] at hk;obtain ⟨ar,har,rfl,rfl,rfl⟩:=hk;obtain ⟨v,M',hst,rfl⟩:=plain rfl;obtain ⟨h1,h2⟩:=Qg7 P h har;obtain ⟨val,w',g',hr,hsr⟩:=Qbl1 P h hd e hκ hκ' (Qdz _) h1 ((Qdy _).2 h2) hst;exact .inl ⟨val,w',g',by simp only [execOp,hop];exact Qid P _ hr,hsr⟩
 case load t x =>
  split at hk<;>try (cases hk;done)
  rename_i ar har;obtain ⟨h1,h2⟩:=Qg7 P h har;split at hk
  ·rename_i hsl;simp only [Option.some.injEq,Prod.mk.injEq] at hk;obtain ⟨rfl,rfl,rfl⟩:=hk;obtain ⟨v,M',hst,rfl⟩:=plain rfl;simp only [Bool.and_eq_true] at hsl;have ht:∃ e,P.underlying t=some (.slice e):=by
    have:=hsl.1;unfold Qua at this;split at this
    ·exact ⟨_,by assumption⟩
    ·cases this
   obtain ⟨e,ht⟩:=ht;obtain ⟨val,g',hr,hsr⟩:=Qbis P h hd t e ht h1 ((Qdy _).2 h2) hst;exact .inl ⟨val,w,g',by simp only [execOp,hop];exact Qid P _ hr,hsr⟩
  ·split at hk<;>try (cases hk;done)
   rename_i hu;obtain ⟨d,hu⟩:=Option.isSome_iff_exists.1 hu;simp only [Option.some.injEq,Prod.mk.injEq] at hk;obtain ⟨rfl,rfl,rfl⟩:=hk;obtain ⟨v,M',hst,rfl⟩:=plain rfl;refine Qcw P h hd hz hst ⟨(Qdy _).2 h2,trivial⟩ ?_;obtain ⟨hM,val,hr,hrf⟩:=Qbfh P h.mem t hu h1 hst;exact ⟨hM,val,by simp only [execOp,hop];exact Qid P _ hr,hrf⟩
 case store t p x =>
  split at hk<;>try (cases hk;done)
  rename_i pa xa hpa hxa;split at hk<;>try (cases hk;done)
  rename_i hu;simp only [Bool.and_eq_true,Option.isNone_iff_eq_none] at hu;obtain ⟨hu,hdst⟩:=hu;obtain ⟨d,hu⟩:=Option.isSome_iff_exists.1 hu;simp only [Option.some.injEq,Prod.mk.injEq] at hk;obtain ⟨rfl,rfl,htk⟩:=hk;obtain ⟨hp1,hp2⟩:=Qg7 P h hpa;cases tk with
  | false =>
   obtain ⟨v,M',hst,rfl⟩:=plain rfl;obtain ⟨hx1,hx2⟩:=Qg7 P h hxa;obtain ⟨w',g',hr,hsr⟩:=Qbcx P h t hu hp1 ((Qdy _).2 hp2) ((Qdy _).2 hx2) none ⟨hx1,Qdz _⟩ hst;refine .inr ⟨w',g',by simp only [execOp,hop];exact Qbbt P _ hr,?_⟩;rw [hdst];exact hsr
  | true =>
   simp only [if_true,List.map_cons,List.map_nil] at hs;split at hs<;>cases hs;rename_i v M' hst;rcases Qs5 P h hxa with ⟨t0,rfl,rfl,h1,h2⟩|⟨hx,_⟩
   ·have hpf:(pa.val σ.s).dem=pa.val σ.s∧(∃ k o,pa.val σ.s = .ptr k o):=by
     cases hpv:pa.val σ.s<;>rw [hpv] at hst<;>try (simp [Qi] at hst;done)
     exact ⟨rfl,_,_,rfl⟩
    obtain ⟨hpf,k0,o0,hpk⟩:=hpf;rw [hpf] at hp1;obtain ⟨w',g',hr,hsr⟩:=Qbcx P h t hu hp1 hp2 h2 (some t0) ⟨rfl,rfl⟩ hst;refine .inr ⟨w',g',by simp only [execOp,hop];exact Qbbt P _ hr,?_⟩;rw [hdst];refine Qbc6 hsr (fun i=>?_);cases pa with
    | c v=>rfl
    | t i0 =>
     simp only [Qbe,Q4,Qbz,Arg.putTo,Sl.put,Arg.val];split
     ·rfl
     ·split
      ·rename_i he;subst he;rfl
      ·rfl
   ·simp [hx] at htk
 case nilCheck x =>
  simp only [Option.map_eq_some_iff,Prod.mk.injEq] at hk;obtain ⟨ar,har,rfl,rfl,rfl⟩:=hk;obtain ⟨v,M',hst,rfl⟩:=plain rfl;obtain ⟨h1,h2⟩:=Qg7 P h har;exact Qcw P h hd hz hst ⟨(Qdy _).2 h2,trivial⟩ (Qbfi P h1 hst o a x hop rfl)
 case unOp op t x =>
  simp only [Option.map_eq_some_iff,Prod.mk.injEq] at hk;obtain ⟨ar,har,rfl,rfl,rfl⟩:=hk;obtain ⟨v,M',hst,rfl⟩:=plain rfl;obtain ⟨h1,h2⟩:=Qg7 P h har;refine Qcw P h hd hz hst ⟨(Qdy _).2 h2,trivial⟩ ?_;simp only [List.map_cons,List.map_nil,V.dems] at hst;generalize (ar.val σ.s).dem=xv at hst h1;cases xv<;>try (simp [Qi] at hst;done)
  simp only [Qi,Option.map_eq_some_iff,Prod.mk.injEq] at hst;obtain ⟨c,hc,rfl,rfl⟩:=hst;obtain ⟨val,hr,hrf⟩:=Qbmu P op h1 hc;exact ⟨rfl,val,by simp only [execOp,hop];exact Qid P _ hr,hrf⟩
 case fieldAddr s x f =>
  split at hk<;>try (cases hk;done)
  rename_i fs hfs;split at hk<;>try (cases hk;done)
  rename_i fd ar hfd har;split at hk<;>try (cases hk;done)
  rename_i h0;cases hk;obtain ⟨v,M',hst,rfl⟩:=plain rfl;obtain ⟨h1,h2⟩:=Qg7 P h har;obtain ⟨hM,val,hr,hrf⟩:=Qbly P s fs hfs f fd hfd h0 h1 hst;exact Qcw P h hd hz hst ⟨(Qdy _).2 h2,trivial⟩ ⟨hM,val,by simp only [execOp,hop];exact Qid P _ hr,hrf⟩
 case extract x i =>
  simp only [Option.map_eq_some_iff,Prod.mk.injEq] at hk;obtain ⟨ar,har,rfl,rfl,htk⟩:=hk;cases tk with
  | false =>
   obtain ⟨v,M',hst,rfl⟩:=plain rfl;obtain ⟨h1,h2⟩:=Qg7 P h har;obtain ⟨hM,val,hr,hrf⟩:=Qbef P (Qdz _) h1 hst;exact Qcw P h hd hz hst ⟨(Qdy _).2 h2,trivial⟩ ⟨hM,val,by simp only [execOp,hop];exact Qid P _ hr,hrf⟩
  | true =>
   rcases Qs5 P h har with ⟨t0,rfl,rfl,h1,h2⟩|⟨hx,_⟩
   ·simp only [if_true,List.map_cons,List.map_nil] at hs;split at hs<;>cases hs;rename_i v M' hst;simp only [Arg.val] at hst;cases hv:σ.s t0<;>rw [hv] at hst<;>try (simp [Qi] at hst;done)
    rename_i vs;simp only [Qi,Option.map_eq_some_iff,Prod.mk.injEq] at hst;obtain ⟨c,hc,rfl,rfl⟩:=hst;cases hdst:o.dst with
    | none=>simp [hdst] at htk
    | some d =>
     obtain ⟨val,g',hr,hsr⟩:=Qbbo P h t0 i d (hd d hdst) hv hc;refine .inl ⟨val,w,g',by simp only [execOp,hop];exact Qid P _ hr,?_⟩;rw [hdst];have hsl:Q4 σ.s [Arg.t t0] (Qbz (.extract i) [Arg.val σ.s (.t t0)])=σ.s.put t0 (.tup (vs.set i c.dem)):=by
      simp only [Arg.val,hv,Qbz,hc];rfl
     rw [hsl];exact hsr
   ·simp [hx] at htk
 case binOp op xt x y yt =>
  split at hk<;>try (cases hk;done)
  rename_i xa ya hxa hya;obtain ⟨hx1,hx2⟩:=Qg7 P h hxa;obtain ⟨hy1,hy2⟩:=Qg7 P h hya;have scal:∀ tb,k = .bin op tb→as=[xa,ya]→tk=false→(tb=true→P.underlying xt=some .bool)→Gives P n0 nt g0 w0 o a w σ':=by
   rintro tb rfl rfl rfl htb;obtain ⟨v,M',hst,rfl⟩:=plain rfl;refine Qcw P h hd hz hst ⟨(Qdy _).2 hx2,(Qdy _).2 hy2,trivial⟩ ?_;simp only [List.map_cons,List.map_nil,V.dems] at hst;generalize (xa.val σ.s).dem=xv at hst hx1;generalize (ya.val σ.s).dem=yv at hst hy1;cases xv<;>try (simp [Qi] at hst;done)
   cases yv<;>try (simp [Qi] at hst;done)
   simp only [Qi,Option.map_eq_some_iff,Prod.mk.injEq] at hst;obtain ⟨c,hc,rfl,rfl⟩:=hst;obtain ⟨val,hr,hrf⟩:=Qblx P op tb xt htb x y hx1 hy1 hc;exact ⟨rfl,val,by simp only [execOp,hop];exact Qid P _ hr,hrf⟩
  split at hk<;>try (cases hk;done)
  ·split at hk<;>try (cases hk;done)
   ·cases hk;simp [K.isNil] at hnil
   ·cases hk;simp [K.isNil] at hnil
  ·cases hk;exact scal false rfl rfl rfl (by simp)
  ·cases hk;exact scal false rfl rfl rfl (by simp)
  ·rename_i hu;cases hk;exact scal true rfl rfl rfl (fun _=>hu)
  ·rename_i fs hu;have sub:∀ neg ks,(op = .eql∧neg=false∨op = .neq∧neg=true)→Qj9 P xt=some ks→k = .eqa neg ks→as=[xa,ya]→tk=false→Gives P n0 nt g0 w0 o a w σ':=by
    rintro neg ks hop' hks rfl rfl rfl;obtain ⟨v,M',hst,rfl⟩:=plain rfl;refine Qcw P h hd hz hst ⟨(Qdy _).2 hx2,(Qdy _).2 hy2,trivial⟩ ?_;simp only [List.map_cons,List.map_nil,V.dems] at hst;have hfx:=Qdz (xa.val σ.s);have hfy:=Qdz (ya.val σ.s);generalize (xa.val σ.s).dem=xv at hst hx1 hfx;generalize (ya.val σ.s).dem=yv at hst hy1 hfy;cases xv<;>try (simp [Qi] at hst;done)
    cases yv<;>try (simp [Qi] at hst;done)
    simp only [Qi,Option.map_eq_some_iff,Prod.mk.injEq] at hst;obtain ⟨b,hb,rfl,rfl⟩:=hst;obtain ⟨vs,hvs,hl,hr,_⟩:=Q20 hfx hx1;obtain ⟨vs',hvs',hl',hr',_⟩:=Q20 hfy hy1;have:=Qbju P xt hks hl hr hl' hr' hb;refine ⟨rfl,.bool (if neg then !b else b),?_,by rw [RF_d];simp [RD]⟩;simp only [execOp,hop];refine Qid P _ ?_;rw [hvs,hvs'];rcases hop' with ⟨rfl,rfl⟩|⟨rfl,rfl⟩
    ·exact this.1 x y
    ·exact this.2 x y
   split at hk<;>try (cases hk;done)
   ·simp only [Option.map_eq_some_iff,Prod.mk.injEq] at hk;obtain ⟨ks,hks,rfl,rfl,rfl⟩:=hk;exact sub false ks (.inl ⟨rfl,rfl⟩) hks rfl rfl rfl
   ·simp only [Option.map_eq_some_iff,Prod.mk.injEq] at hk;obtain ⟨ks,hks,rfl,rfl,rfl⟩:=hk;exact sub true ks (.inr ⟨rfl,rfl⟩) hks rfl rfl rfl
  ·rename_i n0' e0' hu;have sub:∀ neg ks,(op = .eql∧neg=false∨op = .neq∧neg=true)→Qj9 P xt=some ks→k = .eqa neg ks→as=[xa,ya]→tk=false→Gives P n0 nt g0 w0 o a w σ':=by
    rintro neg ks hop' hks rfl rfl rfl;obtain ⟨v,M',hst,rfl⟩:=plain rfl;refine Qcw P h hd hz hst ⟨(Qdy _).2 hx2,(Qdy _).2 hy2,trivial⟩ ?_;simp only [List.map_cons,List.map_nil,V.dems] at hst;have hfx:=Qdz (xa.val σ.s);have hfy:=Qdz (ya.val σ.s);generalize (xa.val σ.s).dem=xv at hst hx1 hfx;generalize (ya.val σ.s).dem=yv at hst hy1 hfy;cases xv<;>try (simp [Qi] at hst;done)
    cases yv<;>try (simp [Qi] at hst;done)
    simp only [Qi,Option.map_eq_some_iff,Prod.mk.injEq] at hst;obtain ⟨b,hb,rfl,rfl⟩:=hst;obtain ⟨vs,hvs,hl,hr,_⟩:=Q20 hfx hx1;obtain ⟨vs',hvs',hl',hr',_⟩:=Q20 hfy hy1;have:=Qbju P xt hks hl hr hl' hr' hb;refine ⟨rfl,.bool (if neg then !b else b),?_,by rw [RF_d];simp [RD]⟩;simp only [execOp,hop];refine Qid P _ ?_;rw [hvs,hvs'];rcases hop' with ⟨rfl,rfl⟩|⟨rfl,rfl⟩
    ·exact this.1 x y
    ·exact this.2 x y
   split at hk<;>try (cases hk;done)
   ·simp only [Option.map_eq_some_iff,Prod.mk.injEq] at hk;obtain ⟨ks,hks,rfl,rfl,rfl⟩:=hk;exact sub false ks (.inl ⟨rfl,rfl⟩) hks rfl rfl rfl
   ·simp only [Option.map_eq_some_iff,Prod.mk.injEq] at hk;obtain ⟨ks,hks,rfl,rfl,rfl⟩:=hk;exact sub true ks (.inr ⟨rfl,rfl⟩) hks rfl rfl rfl
 case convert s d x =>
  simp only [Option.bind_eq_some_iff] at hk;obtain ⟨ar,har,hk⟩:=hk;obtain ⟨h1,h2⟩:=Qg7 P h har;split at hk<;>try (cases hk;done)
  ·rename_i k' k hs' hd';cases hk;obtain ⟨v,M',hst,rfl⟩:=plain rfl;refine Qcw P h hd hz hst ⟨(Qdy _).2 h2,trivial⟩ ?_;simp only [List.map_cons,List.map_nil,V.dems] at hst;generalize (ar.val σ.s).dem=xv at hst h1;cases xv<;>try (simp [Qi] at hst;done)
   rename_i dx;cases dx<;>try (simp [Qi] at hst;done)
   simp only [Qi,Option.some.injEq,Prod.mk.injEq] at hst;obtain ⟨rfl,rfl⟩:=hst;obtain ⟨val,hr,hrf⟩:=Qbkj P s d k (by simp [hs']) hd' h1;exact ⟨rfl,val,by simp only [execOp,hop];exact Qid P _ hr,hrf⟩
  ·rename_i e hs' hd';split at hk<;>try (cases hk;done)
   rename_i he;cases hk;obtain ⟨v,M',hst,rfl⟩:=plain rfl;refine Qcw P h hd hz hst ⟨(Qdy _).2 h2,trivial⟩ ?_;simp only [List.map_cons,List.map_nil,V.dems] at hst;generalize (ar.val σ.s).dem=xv at hst h1;cases xv<;>try (simp [Qi] at hst;done)
   rename_i dx;cases dx<;>try (simp [Qi] at hst;done)
   simp only [Qi,Option.map_eq_some_iff,Prod.mk.injEq] at hst;obtain ⟨ns,hn,rfl,rfl⟩:=hst;obtain ⟨val,hr,hrf⟩:=Qbkk P s d e hs' he hd' hn h1;exact ⟨rfl,val,by simp only [execOp,hop];exact Qid P _ hr,hrf⟩
 case makeFunc fn first cap =>
  cases fn<;>simp only at hk<;>try (cases hk;done)
  rename_i f;split at hk<;>try (cases hk;done)
  rename_i h0;simp only [Option.map_eq_some_iff,Prod.mk.injEq] at hk;obtain ⟨as',has,rfl,rfl,rfl⟩:=hk;obtain ⟨v,M',hst,rfl⟩:=plain rfl;obtain ⟨h1,h2⟩:=Qec P h _ _ _ _ has;obtain ⟨hM,hrf⟩:=Qbkq f h1 hst;refine Qcw P h hd hz hst h2 ⟨hM,_,?_,hrf⟩;have hf:first = #[]:=Array.eq_empty_of_size_eq_zero h0
  subst hf;simp only [execOp,hop];refine Qid P _ ?_;have e:(cap.toList.map a.eval).toArray=cap.map a.eval:=by apply Array.ext';simp
  rw [e];simp only [Instr.makeFunc,Array.map_empty,Sem.run_pure]
 case makeSlice t l c =>
  split at hk<;>try (cases hk;done)
  rename_i e ht;split at hk<;>try (cases hk;done)
  rename_i z as' hze has;simp only [Option.some.injEq,Prod.mk.injEq] at hk;obtain ⟨rfl,rfl,rfl⟩:=hk;obtain ⟨v,M',hst,rfl⟩:=plain rfl;obtain ⟨h1,h2⟩:=Qec P h _ _ _ _ has;generalize V.dems (as'.map (·.val σ.s))=xs at hst h1
  match xs,h1 with
  | [x',y'],⟨u1,us1,e1,r1,u2,us2,e2,r2,e3⟩ =>
   simp only [List.map_cons,List.map_nil,List.cons.injEq] at e1;obtain ⟨rfl,rfl⟩:=e1;simp only [List.cons.injEq] at e2;obtain ⟨rfl,rfl⟩:=e2;obtain ⟨val,w',g',hr,hsr⟩:=Qbiq P h hd t e ht hze hκ hκ' r1 r2 hst;exact .inl ⟨val,w',g',by simp only [execOp,hop];exact Qid P _ hr,hsr⟩
 case buildSlice t n ps =>
  split at hk<;>try (cases hk;done)
  rename_i e ht;split at hk
  ·rename_i hlit;simp only [Bool.and_eq_true] at hlit;cases hdst:o.dst with
   | none=>rw [hdst] at hlit;simp [inL] at hlit
   | some d =>
    unfold Qzc at hk;split at hk<;>try (cases hk;done)
    rename_i _ _ _ z0 u hze hps;split at hk<;>try (cases hk;done)
    rename_i x hcx;split at hk<;>try (cases hk;done)
    rename_i h1;simp only [Option.some.injEq,Prod.mk.injEq] at hk;obtain ⟨rfl,rfl,rfl⟩:=hk;simp only [if_true,List.map_cons,List.map_nil,Arg.val,Qi,Qgn] at hs;split at hs<;>cases hs;rename_i v M' hst;split at hst<;>cases hst;obtain ⟨val,w',g',hr,hsr⟩:=Qbl5 P h (hd d hdst) t e ht hze h1 (Q9l P hcx).1;refine .inl ⟨val,w',g',?_,by rw [hdst];exact hsr⟩;simp only [execOp,hop];refine Qid P _ ?_;rw [← hr];have:ps = #[(0,.const u)]:=by apply Array.ext';simpa using hps
    subst this;have:a.eval (.const u)=u:=rfl;simp [this]
  split at hk
  ·split at hk<;>try (cases hk;done)
   rename_i z as' hze has;split at hk<;>try (cases hk;done)
   rename_i hn;simp only [Option.some.injEq,Prod.mk.injEq] at hk;obtain ⟨rfl,rfl,rfl⟩:=hk;obtain ⟨v,M',hst,rfl⟩:=plain rfl;obtain ⟨h1,h2⟩:=Qec P h _ _ _ _ has;obtain ⟨val,w',g',hr,hsr⟩:=Qbkt P h hd t e ht hze n hn _ Qki h1 hst;refine .inl ⟨val,w',g',?_,hsr⟩;simp only [execOp,hop];refine Qid P _ ?_;rw [← hr,Q0o]
  split at hk<;>try (cases hk;done)
  rename_i z as' hze has;split at hk<;>try (cases hk;done)
  rename_i hn;simp only [Option.some.injEq,Prod.mk.injEq] at hk;obtain ⟨rfl,rfl,rfl⟩:=hk;obtain ⟨v,M',hst,rfl⟩:=plain rfl;obtain ⟨h1,h2⟩:=Qec P h _ _ _ _ has;obtain ⟨val,w',g',hr,hsr⟩:=Qbfn P h hd t e ht hze n hn _ hκ hκ' Qki h1 h2 hst;refine .inl ⟨val,w',g',?_,hsr⟩;simp only [execOp,hop];refine Qid P _ ?_;rw [← hr,Q0o]
 case slice t x lo hi mx =>
  cases mx with
  | some _=>cases hk
  | none =>
   simp only at hk;split at hk<;>try (cases hk;done)
   rename_i e ht;split at hk<;>try (cases hk;done)
   rename_i h0;split at hk
   ·rename_i hcond;simp only [Bool.and_eq_true] at hcond;obtain ⟨⟨⟨hdc,hxt⟩,hlo⟩,hhi⟩:=hcond;cases hi with
    | some _=>simp at hhi
    | none =>
    cases lo with
    | none=>simp at hlo
    | some lv =>
    simp only [Option.map_eq_some_iff,Prod.mk.injEq] at hk;obtain ⟨as',has,rfl,rfl,rfl⟩:=hk;simp only [Option.toList,List.cons_append,List.nil_append,Qeu] at has;split at has<;>try (cases has;done)
    rename_i a0 as1 ha0 has1;cases has;split at has1<;>try (cases has1;done)
    rename_i a1 as2 ha1 has2;cases has2;cases has1;obtain ⟨d,hdst⟩ : ∃ d,o.dst=some d:=by
     cases hdd:o.dst with
     | none=>rw [hdd] at hdc;simp [inL] at hdc
     | some d=>exact ⟨d,rfl⟩
    simp only [if_true,List.map_cons,List.map_nil] at hs;split at hs<;>cases hs;rename_i v M' hst;rcases Qs5 P h ha0 with ⟨t0,rfl,rfl,h1,h2⟩|⟨hx,_⟩
    ·obtain ⟨val,g',hr,hsr⟩:=Qbky P h t e ht h0 t0 d (hd d hdst) ha1 hst;refine .inl ⟨val,w,g',by simp only [execOp,hop];exact Qid P _ hr,?_⟩;rw [hdst];exact hsr
    ·simp [hx] at hxt
   split at hk<;>try (cases hk;done)
   rename_i as' has;simp only [Option.some.injEq,Prod.mk.injEq] at hk;obtain ⟨rfl,rfl,rfl⟩:=hk;obtain ⟨v,M',hst,rfl⟩:=plain rfl;obtain ⟨h1,h2⟩:=Qec P h _ _ _ _ has;refine Qcw P h hd hz hst h2 ?_;generalize V.dems (as'.map (·.val σ.s))=xs at hst h1
   match xs,h1 with
   | x'::bs,⟨u1,us1,e1,r1,e2⟩ =>
    simp only [List.cons_append,List.nil_append,List.map_cons,List.cons.injEq] at e1;obtain ⟨rfl,rfl⟩:=e1;obtain ⟨hM,val,hr,hrf⟩:=Qbcs P t e ht h0 (lo.map a.eval) (hi.map a.eval) r1 (by cases lo<;>cases hi<;>simpa using e2) (by simpa using hst);exact ⟨hM,val,by simp only [execOp,hop];exact Qid P _ (by simpa using hr),hrf⟩
 case field t x f =>
  split at hk<;>try (cases hk;done)
  rename_i fs hfs;split at hk<;>try (cases hk;done)
  rename_i fd ar hfd har;split at hk<;>try (cases hk;done)
  rename_i hu;obtain ⟨d,hu⟩:=Option.isSome_iff_exists.1 hu;cases hk;obtain ⟨v,M',hst,rfl⟩:=plain rfl;obtain ⟨h1,h2⟩:=Qg7 P h har;obtain ⟨hM,val,hr,hrf⟩:=Qbim P t fs hfs f fd hfd hu (Qdz _) h1 hst;exact Qcw P h hd hz hst ⟨(Qdy _).2 h2,trivial⟩ ⟨hM,val,by simp only [execOp,hop];exact Qid P _ hr,hrf⟩
 case indexAddr t x i =>
  split at hk<;>try (cases hk;done)
  ·rename_i e ht;simp only [Option.bind_eq_some_iff] at hk;obtain ⟨as',has,hk⟩:=hk;split at hk<;>try (cases hk;done)
   rename_i h0;cases hk;obtain ⟨v,M',hst,rfl⟩:=plain rfl;obtain ⟨h1,h2⟩:=Qec P h _ _ _ _ has;refine Qcw P h hd hz hst h2 ?_;generalize V.dems (as.map (·.val σ.s))=xs at hst h1
   match xs,h1 with
   | [x',y'],⟨u1,us1,e1,r1,u2,us2,e2,r2,e3⟩ =>
    simp only [List.map_cons,List.map_nil,List.cons.injEq] at e1;obtain ⟨rfl,rfl⟩:=e1;simp only [List.cons.injEq] at e2;obtain ⟨rfl,rfl⟩:=e2;obtain ⟨hM,val,hr,hrf⟩:=Qblz P t e ht h0 r1 r2 hst;exact ⟨hM,val,by simp only [execOp,hop];exact Qid P _ hr,hrf⟩
  ·rename_i n e ht;simp only [Option.bind_eq_some_iff] at hk;obtain ⟨as',has,hk⟩:=hk;split at hk<;>try (cases hk;done)
   rename_i h0;cases hk;obtain ⟨v,M',hst,rfl⟩:=plain rfl;obtain ⟨h1,h2⟩:=Qec P h _ _ _ _ has;refine Qcw P h hd hz hst h2 ?_;generalize V.dems (as.map (·.val σ.s))=xs at hst h1
   match xs,h1 with
   | [x',y'],⟨u1,us1,e1,r1,u2,us2,e2,r2,e3⟩ =>
    simp only [List.map_cons,List.map_nil,List.cons.injEq] at e1;obtain ⟨rfl,rfl⟩:=e1;simp only [List.cons.injEq] at e2;obtain ⟨rfl,rfl⟩:=e2;obtain ⟨hM,val,hr,hrf⟩:=Qbfj P t e n ht h0 r1 r2 hst;exact ⟨hM,val,by simp only [execOp,hop];exact Qid P _ hr,hrf⟩
 case index t x i =>
  split at hk<;>try (cases hk;done)
  ·rename_i n e ht;split at hk<;>try (cases hk;done)
   rename_i hu;have hu:∃ d,P.underlying e=some d:=by
    cases hd' : P.underlying e with
    | none=>simp [hd'] at hu
    | some d=>exact ⟨d,rfl⟩
   obtain ⟨d,hu⟩:=hu;simp only [Option.map_eq_some_iff,Prod.mk.injEq] at hk;obtain ⟨as',has,rfl,rfl,rfl⟩:=hk;obtain ⟨v,M',hst,rfl⟩:=plain rfl;obtain ⟨h1,h2⟩:=Qec P h _ _ _ _ has;refine Qcw P h hd hz hst h2 ?_;have hfl:∀ x∈V.dems (as'.map (·.val σ.s)),Flat x:=Qki;generalize V.dems (as'.map (·.val σ.s))=xs at hst h1 hfl
   match xs,h1 with
   | [x',y'],⟨u1,us1,e1,r1,u2,us2,e2,r2,e3⟩ =>
    simp only [List.map_cons,List.map_nil,List.cons.injEq] at e1;obtain ⟨rfl,rfl⟩:=e1;simp only [List.cons.injEq] at e2;obtain ⟨rfl,rfl⟩:=e2;obtain ⟨hM,val,hr,hrf⟩:=Qbfk P t e n ht hu (hfl _ (by simp)) r1 r2 hst;exact ⟨hM,val,by simp only [execOp,hop];exact Qid P _ hr,hrf⟩
  ·rename_i ht;simp only [Option.map_eq_some_iff,Prod.mk.injEq] at hk;obtain ⟨as',has,rfl,rfl,rfl⟩:=hk;obtain ⟨v,M',hst,rfl⟩:=plain rfl;obtain ⟨h1,h2⟩:=Qec P h _ _ _ _ has;refine Qcw P h hd hz hst h2 ?_;generalize V.dems (as'.map (·.val σ.s))=xs at hst h1
   match xs,h1 with
   | [x',y'],⟨u1,us1,e1,r1,u2,us2,e2,r2,e3⟩ =>
    simp only [List.map_cons,List.map_nil,List.cons.injEq] at e1;obtain ⟨rfl,rfl⟩:=e1;simp only [List.cons.injEq] at e2;obtain ⟨rfl,rfl⟩:=e2;obtain ⟨hM,val,hr,hrf⟩:=Qbkm P t ht r1 r2 hst;exact ⟨hM,val,by simp only [execOp,hop];exact Qid P _ hr,hrf⟩
 case build t ps =>
  split at hk<;>try (cases hk;done)
  ·rename_i fs z ht hze;split at hk<;>try (cases hk;done)
   rename_i hft;simp only [List.all_eq_true] at hft;split at hk<;>try (cases hk;done)
   rename_i pl as' hpl has;simp only [Option.some.injEq,Prod.mk.injEq] at hk;obtain ⟨rfl,rfl,htk⟩:=hk;cases tk with
   | false =>
    obtain ⟨v,M',hst,rfl⟩:=plain rfl;obtain ⟨h1,h2⟩:=Qec P h _ _ _ _ has;obtain ⟨hM,val,hr,hrf⟩:=Qwh P t fs ht hze _ pl hpl hft Qki h1 hst;refine Qcw P h hd hz hst h2 ⟨hM,val,?_,hrf⟩;simp only [execOp,hop];exact Qid P _ (by rw [← hr,Q0o])
   | true =>
    cases hdst:o.dst with
    | none=>simp [hdst] at htk
    | some d =>
     simp only [if_true,Qbz] at hs;split at hs<;>cases hs;rename_i v M' hst;obtain ⟨rfl,val,g',hr,hsr⟩:=Qbfs P h (hd d hdst) has (by simp only [Bool.and_eq_true] at htk;exact htk.1.2) hz (R:=Instr.build t ((ps.toList.map (·.1)).zip ((ps.toList.map (·.2)).map a.eval)).toArray) (fun g2 xs' v' M'' hfl hrf hst'=>(Qwh P t fs ht hze _ pl hpl hft hfl hrf hst').2) hst;refine .inl ⟨val,w,g',?_,?_⟩
     ·simp only [execOp,hop];exact Qid P _ (by rw [← hr,Q0o])
     ·rw [hdst];exact hsr
  ·rename_i n e z ht hze;split at hk<;>try (cases hk;done)
   rename_i hie;simp only [Option.map_eq_some_iff,Prod.mk.injEq] at hk;obtain ⟨as',has,rfl,rfl,rfl⟩:=hk;obtain ⟨v,M',hst,rfl⟩:=plain rfl;obtain ⟨h1,h2⟩:=Qec P h _ _ _ _ has;obtain ⟨hM,val,hr,hrf⟩:=Q6b P t e n ht (by cases hq:P.info? e with|none=>simp [hq] at hie|some _=>rfl) hze (ps.toList.map (·.1)) Qki h1 (by rw [List.map_map];exact hst);refine Qcw P h hd hz hst h2 ⟨hM,val,?_,hrf⟩;simp only [execOp,hop];exact Qid P _ (by rw [← hr,Q0o])
 case makeMap t r =>
  split at hk<;>try (cases hk;done)
  rename_i kt et ht;simp only [Option.map_eq_some_iff,Prod.mk.injEq] at hk;obtain ⟨as',has,rfl,rfl,rfl⟩:=hk;obtain ⟨v,M',hst,rfl⟩:=plain rfl;obtain ⟨h1,h2⟩:=Qec P h _ _ _ _ has;obtain ⟨val,w',g',hr,hsr⟩:=Qbiv P h hd t ht h1 hκ hκ' (r.map a.eval) (by cases r<;>rfl) hst;exact .inl ⟨val,w',g',by simp only [execOp,hop];exact Qid P _ hr,hsr⟩
 case lookup t x i c =>
  split at hk<;>try (cases hk;done)
  rename_i kt kd z hmk;simp only [Option.map_eq_some_iff,Prod.mk.injEq] at hk;obtain ⟨as',has,rfl,rfl,rfl⟩:=hk;obtain ⟨v,M',hst,rfl⟩:=plain rfl;obtain ⟨h1,h2⟩:=Qec P h _ _ _ _ has;have old:∀ {k' : K},k' = .lookup kd c z→k'.okz→Qi n0 κ k' (V.dems (as'.map (·.val σ.s))) σ.M=some (v,M')→Gives P n0 nt g0 w0 o a w ⟨Qbe σ.s o.dst v,M',σ.nb⟩:=by
   rintro _ rfl hz hst;refine Qcw P h hd hz hst h2 ?_;generalize V.dems (as'.map (·.val σ.s))=xs at hst h1;obtain ⟨x',y',rfl,r1,r2⟩:=Q4q (by simpa using h1);obtain ⟨hM,val,hr,hrf⟩:=Qbfy P t hmk c h.mem r1 r2 hst;exact ⟨hM,val,by simp only [execOp,hop];exact Qid P _ hr,hrf⟩
  cases hzn:Qbe8 P t with
  | none=>rw [hzn] at hst hz;exact old rfl hz hst
  | some zn =>
   rw [hzn] at hst hz;simp only at hst hz;by_cases hT:(!c&&inL T.mpt o.dst)=true
   ·rw [if_pos hT] at hst;obtain rfl:c=false:=by
     cases c
     ·rfl
     ·simp at hT
    generalize V.dems (as'.map (·.val σ.s))=xs at hst h1;obtain ⟨x',y',rfl,r1,r2⟩:=Q4q (by simpa using h1);obtain ⟨val,g',hr,hsr⟩:=Qbeg P h hd t hmk hzn r1 r2 hst;exact .inl ⟨val,w,g',by simp only [execOp,hop];exact Qid P _ hr,hsr⟩
   ·rw [if_neg hT] at hst hz;exact old rfl hz hst
 case mapUpdate t m k x =>
  split at hk<;>try (cases hk;done)
  rename_i kt kd z kt' et hmk ht;split at hk<;>try (cases hk;done)
  rename_i hdst;simp only [Option.map_eq_some_iff] at hk;obtain ⟨as',has,hk⟩:=hk;by_cases hT:inL T.mpt (tmpO x)=true
  ·rw [if_pos hT] at hk;simp only [Prod.mk.injEq] at hk;obtain ⟨rfl,rfl,rfl⟩:=hk;simp only [if_true] at hs;split at hs<;>cases hs;rename_i v M' hst;obtain ⟨w',g',hr,hsr⟩:=Q4s P h has hT t hmk hst;refine .inr ⟨w',g',by simp only [execOp,hop];exact Qbbt P _ hr,?_⟩;rw [Option.isNone_iff_eq_none.1 hdst];exact hsr
  rw [if_neg hT] at hk;simp only [Prod.mk.injEq] at hk;obtain ⟨rfl,rfl,rfl⟩:=hk;obtain ⟨v,M',hst,rfl⟩:=plain rfl;obtain ⟨h1,h2⟩:=Qec P h _ _ _ _ has;generalize V.dems (as'.map (·.val σ.s))=xs at hst h1;obtain ⟨x',y',z',rfl,r1,r2,r3⟩:=Q4r (by simpa using h1);obtain ⟨w',hr,hsr⟩:=Q9r P h hd t hmk r1 r2 r3 hst;exact .inr ⟨w',g,by simp only [execOp,hop];exact Qbbt P _ hr,hsr⟩
 case insert t m k x =>
  split at hk<;>try (cases hk;done)
  rename_i kt kd z kt' et hmk ht;split at hk<;>try (cases hk;done)
  rename_i hdst;simp only [Option.map_eq_some_iff] at hk;obtain ⟨as',has,hk⟩:=hk;by_cases hT:inL T.mpt (tmpO x)=true
  ·rw [if_pos hT] at hk;simp only [Prod.mk.injEq] at hk;obtain ⟨rfl,rfl,rfl⟩:=hk;simp only [if_true] at hs;split at hs<;>cases hs;rename_i v M' hst;obtain ⟨w',g',hr,hsr⟩:=Q4s P h has hT t hmk hst;refine .inr ⟨w',g',by simp only [execOp,hop];exact Qbbt P _ hr,?_⟩;rw [Option.isNone_iff_eq_none.1 hdst];exact hsr
  rw [if_neg hT] at hk;simp only [Prod.mk.injEq] at hk;obtain ⟨rfl,rfl,rfl⟩:=hk;obtain ⟨v,M',hst,rfl⟩:=plain rfl;obtain ⟨h1,h2⟩:=Qec P h _ _ _ _ has;generalize V.dems (as'.map (·.val σ.s))=xs at hst h1;obtain ⟨x',y',z',rfl,r1,r2,r3⟩:=Q4r (by simpa using h1);obtain ⟨w',hr,hsr⟩:=Q9r P h hd t hmk r1 r2 r3 hst;exact .inr ⟨w',g,by simp only [execOp,hop];exact Qbbt P _ hr,hsr⟩
 case mapEntry t m k =>
  split at hk<;>try (cases hk;done)
  rename_i kt kd z hmk;simp only [Option.map_eq_some_iff,Prod.mk.injEq] at hk;obtain ⟨as',has,rfl,rfl,rfl⟩:=hk;obtain ⟨v,M',hst,rfl⟩:=plain rfl;obtain ⟨h1,h2⟩:=Qec P h _ _ _ _ has;generalize V.dems (as'.map (·.val σ.s))=xs at hst h1;obtain ⟨x',y',rfl,r1,r2⟩:=Q4q (by simpa using h1);obtain ⟨val,w',hr,hsr⟩:=Qbbs P h hd t hmk r1 r2 hst;exact .inl ⟨val,w',g,by simp only [execOp,hop];exact Qid P _ hr,hsr⟩
 case entryStore t m st x =>
  split at hk<;>try (cases hk;done)
  split at hk<;>try (cases hk;done)
  rename_i hdst;simp only [Option.map_eq_some_iff,Prod.mk.injEq] at hk;obtain ⟨as',has,rfl,rfl,rfl⟩:=hk;obtain ⟨v,M',hst,rfl⟩:=plain rfl;obtain ⟨h1,h2⟩:=Qec P h _ _ _ _ has;generalize V.dems (as'.map (·.val σ.s))=xs at hst h1;obtain ⟨x',y',z',rfl,r1,r2,r3⟩:=Q4r (by simpa using h1);obtain ⟨w',hr,hsr⟩:=Q8e P h hd t r1 r2 r3 hst;exact .inr ⟨w',g,by simp only [execOp,hop];exact Qbbt P _ hr,hsr⟩
 case call cl =>
  cases hcl:cl.callee<;>rw [hcl] at hk<;>(try simp only at hk)
  case invoke=>cases hk
  case value f =>
   cases f<;>(try simp only at hk)<;>try (cases hk;done)
   ·simp only [Option.map_eq_some_iff,Prod.mk.injEq] at hk;obtain ⟨as',has,rfl,rfl,rfl⟩:=hk;simp [K.isCall] at hcall
   ·split at hk<;>try (cases hk;done)
    simp only [Option.map_eq_some_iff,Prod.mk.injEq] at hk;obtain ⟨as',has,rfl,rfl,rfl⟩:=hk;exfalso;cases hco:inL T.co o.dst<;>simp [hco,K.isCall,K.isNil] at hcall hnil
  case builtin b =>
   have hex:∀ val w',((builtin b cl.argTypes o.type (cl.args.map fun | .const _=>true|_=>false) (cl.args.map a.eval)).run P w = .ok (.value val) w')→(execOp a.eval o).run P w = .ok (.value val) w':=by
    intro val w' hr;simp only [execOp,hop,resolve,hcl,invoke,Sem.run_bind,Sem.run_pure,Result.andThen_ok];exact hr
   cases b<;>simp only at hk<;>try (cases hk;done)
   case append =>
    split at hk<;>try (cases hk;done)
    rename_i e e' ht ht' hsize;split at hk<;>try (cases hk;done)
    rename_i htt;split at hk<;>try (cases hk;done)
    rename_i z t0 as' hze has;split at hk<;>try (cases hk;done)
    rename_i hzl;split at hk
    ·simp only [Option.some.injEq,Prod.mk.injEq] at hk;obtain ⟨rfl,rfl,rfl⟩:=hk;obtain ⟨x0,x1,hargs⟩ : ∃ x0 x1,cl.args = #[x0,x1]:=by
      cases hl:cl.args with
      | mk l =>
       rw [hl] at hsize
       match l,hsize with
       | [x0,x1],_=>exact ⟨x0,x1,rfl⟩
     rw [hargs] at has;simp only [Qeu] at has;split at has<;>try (cases has;done)
     rename_i a0 as0 ha0 has0;split at has0<;>try (cases has0;done)
     rename_i a1 as1 ha1 has1;simp only [Option.some.injEq] at has1;subst has1;simp only [Option.some.injEq] at has0;subst has0;simp only [Option.some.injEq,List.cons.injEq] at has;obtain ⟨rfl,rfl⟩:=has;obtain ⟨v,M',hst,rfl⟩:=plain rfl;simp only [List.map_cons,List.map_nil,V.dems] at hst;rcases Qs5 P h ha0 with ⟨t1,hx0,htt1,h1,h2⟩|⟨_,c0,hc0,_⟩
     ·cases htt1;have hx1:∃ ℓ,RV g w (a1.val σ.s).dem ℓ (a.eval x1):=by
       rcases Qs5 P h ha1 with ⟨t2,_,rfl,k1,_⟩|⟨_,c1,rfl,k1,_⟩
       ·exact ⟨.free,Qh1 _ _ _ _ k1⟩
       ·exact ⟨.free,Qh1 _ _ _ _ (k1 .free)⟩
      obtain ⟨ℓ,hx1⟩:=hx1;have hsl:((Arg.t t0).val σ.s).dem=σ.s t0:=by
       rcases (Q6s hst).1 with ⟨k,off,len,cap,e1⟩|⟨_,e1⟩
       ·have:σ.s t0 = .sl (P.cellsOf e) k off len cap:=Qbl3 e1;simp only [Arg.val,this,V.dem]
       ·have e1:(σ.s t0).dem=_:=e1;show (σ.s t0).dem=σ.s t0;cases hv:σ.s t0<;>rw [hv] at e1<;>first|rfl|cases e1
      rw [hsl] at hst;obtain ⟨val,w',g',hr,hsr⟩:=Qbkv P h hd (cl.argTypes.getD 0 0) o.type e ht hze hzl t0 hx1 hst;refine .inl ⟨val,w',g',hex val w' ?_,hsr⟩;refine Qid P _ ?_;rw [htt,hargs];subst hx0;simpa [Act.eval] using hr
     ·cases hc0
    simp only [Option.some.injEq,Prod.mk.injEq] at hk;obtain ⟨rfl,rfl,rfl⟩:=hk;obtain ⟨x0,x1,hargs⟩ : ∃ x0 x1,cl.args = #[x0,x1]:=by
     cases hl:cl.args with
     | mk l =>
      rw [hl] at hsize
      match l,hsize with
      | [x0,x1],_=>exact ⟨x0,x1,rfl⟩
    rw [hargs] at has;simp only [Qeu] at has;split at has<;>try (cases has;done)
    rename_i a0 as0 ha0 has0;split at has0<;>try (cases has0;done)
    rename_i a1 as1 ha1 has1;simp only [Option.some.injEq] at has1;subst has1;simp only [Option.some.injEq] at has0;subst has0;simp only [Option.some.injEq,List.cons.injEq] at has;obtain ⟨rfl,rfl⟩:=has;simp only [if_true,List.map_cons,List.map_nil] at hs;split at hs<;>cases hs;rename_i v M' hst;rcases Qs5 P h ha0 with ⟨t1,hx0,htt1,h1,h2⟩|⟨_,c0,hc0,_⟩
    ·cases htt1;have hx1:∃ ℓ,RV g w (a1.val σ.s) ℓ (a.eval x1):=by
      rcases Qs5 P h ha1 with ⟨t2,_,rfl,k1,_⟩|⟨_,c1,rfl,k1,_⟩
      ·exact ⟨_,k1⟩
      ·exact ⟨.free,k1 _⟩
     obtain ⟨ℓ,hx1⟩:=hx1;obtain ⟨val,w',g',hr,hsr⟩:=Q9j P h hd (cl.argTypes.getD 0 0) o.type e ht hze hzl t0 hx1 hst;refine .inl ⟨val,w',g',hex val w' ?_,?_⟩
     ·refine Qid P _ ?_;rw [htt,hargs];subst hx0;simpa [Act.eval] using hr
     ·refine Qbmv hsr (fun i=>?_);have key:∀ i,Q4 σ.s [Arg.t t0,a1] (Qbz (.append (P.cellsOf e) (P.bytesOf e)) [Arg.val σ.s (.t t0),a1.val σ.s]) i=σ.s.put t0 (σ.s t0).dem i∨Q4 σ.s [Arg.t t0,a1] (Qbz (.append (P.cellsOf e) (P.bytesOf e)) [Arg.val σ.s (.t t0),a1.val σ.s]) i=(σ.s.put t0 (σ.s t0).dem i).dem:=by
       intro i;cases a1 with
       | c v=>exact .inl rfl
       | t j =>
        simp only [Qbz,Q4,Arg.putTo,Sl.put,Arg.val];by_cases hij:i=j
        ·subst hij;right;rw [if_pos rfl];split
         ·rename_i he;subst he;exact (Qdz _).symm
         ·rfl
        ·left;rw [if_neg hij]
      cases o.dst with
      | none=>exact key i
      | some d =>
       simp only [Qbe,Sl.put];split
       ·exact .inl rfl
       ·exact key i
    ·cases hc0
   case len =>
    split at hk<;>try (cases hk;done)
    rename_i hsz;simp only [Option.bind_eq_some_iff] at hk;obtain ⟨as',has,hk⟩:=hk;obtain ⟨h1,h2⟩:=Qec P h _ _ _ _ has;obtain ⟨u,hu1,hu2⟩:=Qbkx cl.args a.eval hsz.1;rw [hu2] at h1;obtain ⟨x',hx',r1⟩:=Qbf3 h1;have hty:=Qbix cl.argTypes hsz.2;split at hk<;>try (cases hk;done)
    ·rename_i e ht;cases hk;obtain ⟨v,M',hst,rfl⟩:=plain rfl;refine Qcw P h hd hz hst h2 ?_;rw [hx'] at hst;obtain ⟨hM,val,hr,hrf⟩:=Qbl0 P (cl.argTypes.getD 0 0) o.type e ht h.mem r1 hst;refine ⟨hM,val,hex val w ?_,hrf⟩;refine Qid P _ ?_;rw [hty,hu1];exact hr
    ·rename_i km em ht;cases hk;obtain ⟨v,M',hst,rfl⟩:=plain rfl;refine Qcw P h hd hz hst h2 ?_;rw [hx'] at hst;obtain ⟨hM,val,hr,hrf⟩:=Qbkw P (cl.argTypes.getD 0 0) o.type ht h.mem r1 hst;refine ⟨hM,val,hex val w ?_,hrf⟩;refine Qid P _ ?_;rw [hty,hu1];exact hr
    ·rename_i ht;cases hk;obtain ⟨v,M',hst,rfl⟩:=plain rfl;refine Qcw P h hd hz hst h2 ?_;rw [hx'] at hst;obtain ⟨hM,val,hr,hrf⟩:=Qbkl P (cl.argTypes.getD 0 0) o.type ht r1 hst;refine ⟨hM,val,hex val w ?_,hrf⟩;refine Qid P _ ?_;rw [hty,hu1];exact hr
   case max =>
    split at hk<;>try (cases hk;done)
    rename_i hsz;simp only [Option.map_eq_some_iff,Prod.mk.injEq] at hk;obtain ⟨as',has,rfl,rfl,rfl⟩:=hk;obtain ⟨h1,h2⟩:=Qec P h _ _ _ _ has;obtain ⟨u1,u2,hu1,hu2⟩:=Qbf2 cl.args a.eval hsz;rw [hu2] at h1;obtain ⟨x',y',hx',r1,r2⟩:=Q4q h1;obtain ⟨v,M',hst,rfl⟩:=plain rfl;refine Qcw P h hd hz hst h2 ?_;rw [hx'] at hst;obtain ⟨hM,val,hr,hrf⟩:=Qbkn P cl.argTypes o.type r1 r2 hst;refine ⟨hM,val,hex val w (Qid P _ ?_),hrf⟩;rw [hu1];exact hr
   case min =>
    split at hk<;>try (cases hk;done)
    rename_i hsz;simp only [Option.map_eq_some_iff,Prod.mk.injEq] at hk;obtain ⟨as',has,rfl,rfl,rfl⟩:=hk;obtain ⟨h1,h2⟩:=Qec P h _ _ _ _ has;obtain ⟨u1,u2,hu1,hu2⟩:=Qbf2 cl.args a.eval hsz;rw [hu2] at h1;obtain ⟨x',y',hx',r1,r2⟩:=Q4q h1;obtain ⟨v,M',hst,rfl⟩:=plain rfl;refine Qcw P h hd hz hst h2 ?_;rw [hx'] at hst;obtain ⟨hM,val,hr,hrf⟩:=Qbko P cl.argTypes o.type r1 r2 hst;refine ⟨hM,val,hex val w (Qid P _ ?_),hrf⟩;rw [hu1];exact hr
end
end Go.Abs
end
section
namespace Go.Abs
open Go
def Qii (P : Program) (f : FuncId) : Bool := (P.funcs[f]?).any fun fn => fn.body.isSome && fn.name != "runtime.NumGoroutine"
def RAs (g:G) (w:World):Nat→List V→List Value→Prop
 | _,[],us=>us=[]
 | j,x::xs,us=>∃ u us',us=u::us'∧RV g w x (.slot j []) u∧RAs g w (j+1) xs us'
theorem RAs.of_flat {g:G} {w:World}:∀ {j:Nat} {xs:List V} {us:List Value},RFs g w xs us→RAs g w j xs us
 | _,[],_,h=>h
 | _,_::_,_,⟨u,us',e,h1,h2⟩=>⟨u,us',e,h1 _,RAs.of_flat h2⟩
theorem RAs.flat {g:G} {w:World}:∀ {j:Nat} {xs:List V} {us:List Value},(∀ x∈xs,Flat x)→RAs g w j xs us→RFs g w xs us
 | _,[],_,_,h=>h
 | _,_::_,_,hf,⟨u,us',e,h1,h2⟩=>⟨u,us',e,fun _=>Ql9 (hf _ (List.mem_cons_self ..)) h1,RAs.flat (fun x hx=>hf x (List.mem_cons_of_mem _ hx)) h2⟩
theorem RAs.length {g:G} {w:World}:∀ {j:Nat} {xs:List V} {us:List Value},RAs g w j xs us→us.length=xs.length
 | _,[],_,h=>by simp [RAs] at h;simp [h]
 | _,_::_,_,⟨u,us',e,_,h2⟩=>by subst e;simp [RAs.length h2]
theorem RAs.get {g:G} {w:World}:∀ {j:Nat} {xs:List V} {us:List Value},RAs g w j xs us→∀ (t:Nat) x u,xs[t]? = some x→us[t]? = some u→RV g w x (.slot (j+t) []) u
 | _,[],_,_,t,x,u,hx,_=>by simp at hx
 | j,_::_,_,⟨u0,us',e,h1,h2⟩,t,x,u,hx,hu=>by
  subst e;cases t with
  | zero=>simp at hx hu;subst hx hu;exact h1
  | succ t=>have:=RAs.get h2 t x u (by simpa using hx) (by simpa using hu);rwa [show j+1+t=j+(t+1) by omega] at this
def ACalls (P:Program):Ctx:=fun f args M nb r M' nb' =>
 Qii P f=true∧nb≤nb'∧∀ (w:World) (g:G) (us:List Value),MR g w M nb→MOn (There M) M→RAs g w 0 args us→V.ons (There M) args →
  Calls P f us.toArray w fun e w'=>∃ v g',e = .returned v∧MR g' w' M' nb'∧RV g' w' r (.res []) v∧r.on (There M')∧MOn (There M') M'∧Fr nb g w g' w'
theorem ACalls.mk' {P:Program} {f:FuncId} {args:List V} {M M' : Mem} {nb nb' : Nat} {r:V} (hb:Qii P f=true) (hn:nb≤nb') (hfl:V.dems args=args)
  (h:∀ (w:World) (g:G) (us:List Value),MR g w M nb→MOn (There M) M→RFs g w args us→(∀ x∈args,Flat x)→V.ons (There M) args →
   Calls P f us.toArray w fun e w'=>∃ v g',e = .returned v∧MR g' w' M' nb'∧RV g' w' r (.res []) v∧r.on (There M')∧MOn (There M') M'∧Fr nb g w g' w'):ACalls P f args M nb r M' nb' :=
 have hf:∀ x∈args,Flat x:=by rw [← hfl];exact Qki
 ⟨hb,hn,fun w g us hm hMon hus hons=>h w g us hm hMon (hus.flat hf) hf hons⟩
def hide:Owner→Owner
 | .slot t p=>.hid 0 t p
 | .res p=>.ext
 | .hid n t p=>.hid (n+1) t p
 | o=>o
def Qp0 (tt:Option Nat) (i:Nat):Owner→Owner
 | .slot t p=>if tt=some t then .slot i p else .hid 0 t p
 | .res p=>.ext
 | .hid n t p=>.hid (n+1) t p
 | o=>o
theorem Qp1 (tt:Option Nat) (j:Nat) (o:Owner) (i:Nat):Qp0 tt j (o.sub i)=(Qp0 tt j o).sub i:=by
 cases o<;>try rfl
 simp only [Qp0,Owner.sub];split<;>rfl
theorem Qbf4 {tt:Option Nat} {j:Nat} {o:Owner} {k:Nat}:Qp0 tt j o = .box k↔o = .box k:=by
 cases o<;>simp [Qp0];split<;>simp
def Qrr (d:Nat):Owner→Owner
 | .slot _ _=>.ext
 | .res p=>.slot d p
 | .hid 0 t p=>.slot t p
 | .hid (n+1) t p=>.hid n t p
 | o=>o
theorem Q8f (o:Owner) (i:Nat):hide (o.sub i)=(hide o).sub i:=by cases o<;>rfl
theorem Qni (d:Nat) (o:Owner) (i:Nat):Qrr d (o.sub i)=(Qrr d o).sub i:=by
 cases o<;>try rfl
 rename_i n t p;cases n<;>rfl
theorem Qbiy {o:Owner} {k:Nat}:hide o = .box k↔o = .box k:=by cases o<;>simp [hide]
theorem Q61 {d:Nat} {o:Owner} {k:Nat}:Qrr d o = .box k↔o = .box k:=by
 cases o<;>try simp [Qrr]
 grind
theorem MR.re {g:G} {w:World} {M:Mem} {nb:Nat} (hm:MR g w M nb) {f:Owner→Owner} (hs:∀ o i,f (o.sub i)=(f o).sub i) (he:f .ext = .ext) (hb:∀ o k,f o = .box k↔o = .box k):MR (g.re f) w M nb:=by
 refine ⟨fun k b hk=>?_,fun b o hbo=>⟨(hm.imm b o hbo).1,fun k e=>(hm.imm b o hbo).2 k ((hb _ _).1 e)⟩⟩;obtain ⟨h1,h2,h3⟩:=hm.box k b hk;refine ⟨h1,(hb _ _).2 h2,?_⟩;cases b with
 | mp es c =>
  obtain ⟨ents,hh,hr⟩:=h3;exact ⟨ents,hh,Q9f (g:=g) (g':=g.re f) (Imm.refl _ _) (fun b i hbi _=>⟨by show f (g.own b)=_;rw [hbi];have:=hs (.box k) i;rwa [(hb (.box k) k).2 rfl] at this,rfl,fun _=>Iff.rfl⟩) hr⟩
 | cells cs =>
  obtain ⟨vals,e,hh,hr,ho⟩:=h3;have:=RVs_re hs he cs (.box k) 0 vals hr;rw [(hb (.box k) k).2 rfl] at this;exact ⟨vals,e,hh,this,ho⟩
section
variable (P:Program) {g:G} {w:World} {n0 nt:Nat} {g0:G} {w0:World} {σ:St} {a:Act}
theorem Q3r {g:G} {w:World} {f:Owner→Owner} (hs:∀ o i,f (o.sub i)=(f o).sub i) (he:f .ext = .ext):∀ {vs:List V} {us:List Value},(∀ x∈vs,Flat x)→RFs g w vs us→RFs (g.re f) w vs us
 | [],us,_,h=>h
 | v::vs,us,hf,⟨u,us',e,r,h⟩=>⟨u,us',e,fun ℓ=>Ql9 (hf v (by simp)) (Qrb hs he v .ext u (r .ext)),Q3r hs he (fun x hx=>hf x (by simp [hx])) h⟩
theorem SR.behind (h:SR n0 nt g0 w0 σ a w g) {g2:G} {w2:World} {M' : Mem} {nb' : Nat} {r:V} {v:Value} {dst:Option Nat} (hd:∀ d,dst=some d→d<nt)
  (hm:MR g2 w2 M' nb') (hr:RV g2 w2 r (.res []) v) (hron:r.on (There M')) (hM:MOn (There M') M') (hf:Fr σ.nb (g.re hide) w g2 w2) (hnb:σ.nb≤nb')
  (hkeep:∀ k,There σ.M k→There M' k) (hout:∀ k cs,M' k=some (.cells cs)→k<n0→V.ons (· < n0) cs) :
  SR n0 nt g0 w0 ⟨Qbe σ.s dst r,M',nb'⟩ (a.put dst v) w2 (g2.re (Qrr (dst.getD 0))):=by
 have hkept:Kept (g.re hide) w g2 w2 (There σ.M) Prot:=by
  refine ⟨hf.imm,fun k hk=>?_,fun b hb hlt=>hf.old b hlt hb⟩;obtain ⟨b,hb⟩:=Option.isSome_iff_exists.1 hk;exact hf.box k (h.mem.box k b hb).1
 have hps:∀ ℓ i,Prot ℓ→Prot (ℓ.sub i):=by intro ℓ i hp;cases ℓ<;>simp_all [Prot,Owner.sub]
 refine ⟨hm.re (Qni _) rfl (fun o k=>Q61),Qfy (fun d hd'=>by rw [h.size];exact hd d hd') (fun t ht=>?_) (fun d hd'=>?_),(Qgz _ _ _).trans h.size,(Qei _ _ _).trans h.defers,
  Qfz (fun t=>Qfx hkeep _ (h.onS t)) hron,fun k cs hk=>⟨hM k cs hk,hout k cs hk⟩,Nat.le_trans h.top hnb,?_⟩
 ·have h1:=Qrb Q8f rfl _ _ _ (h.slots t);have h2:=Qdh hkept hps trivial _ _ _ (show Prot (hide (.slot t [])) from trivial) (h.onS t) h1;exact Qrb (Qni _) rfl _ _ _ h2
 ·have:=Qrb (Qni (dst.getD 0)) rfl _ _ _ hr;simpa [Qrr,hd'] using this
 ·have hle:n0≤σ.nb:=by have:=h.top;omega
  have hfr:=h.fr;refine ⟨hf.os.trans hfr.os,hf.tape.trans hfr.tape,hf.output.trans hfr.output,Nat.le_trans hfr.size hf.size,⟨fun b o hb=>hf.imm.mono b o (hfr.imm.mono b o hb),fun b o hb=>(hf.imm.look b o (hfr.imm.mono b o hb)).trans (hfr.imm.look b o hb)⟩,
   fun k hk=>(hf.box k (by omega)).trans (hfr.box k hk),fun b hb ho=>?_⟩
  obtain ⟨h1,h2,h3⟩:=hfr.old b hb ho;have hp:Prot ((g.re hide).own b):=by
   show Prot (hide (g.own b));rw [h1];cases hq:g0.own b<;>rw [hq] at ho<;>first|exact ho.elim|exact trivial
  obtain ⟨k1,k2,k3⟩:=hf.old b (Nat.lt_of_lt_of_le hb hfr.size) hp;refine ⟨?_,k2.trans h2,fun o=>(k3 o).trans (h3 o)⟩;show Qrr _ (g2.own b)=_;rw [k1];show Qrr _ (hide (g.own b))=_;rw [h1];cases hq:g0.own b<;>rw [hq] at ho<;>first|exact ho.elim|rfl
theorem SR.behindO (h:SR n0 nt g0 w0 σ a w g) {tt:Option Nat} {i:Nat} {g2:G} {w2:World} {M' : Mem} {nb' : Nat} {r:V} {v:Value} {dst:Option Nat} (hd:∀ d,dst=some d→d<nt)
  (hm:MR g2 w2 M' nb') (hr:RV g2 w2 r (.res []) v) (hron:r.on (There M')) (hM:MOn (There M') M') (hf:Fr σ.nb (g.re (Qp0 tt i)) w g2 w2) (hnb:σ.nb≤nb')
  (hkeep:∀ k,There σ.M k→There M' k) (hout:∀ k cs,M' k=some (.cells cs)→k<n0→V.ons (· < n0) cs) :
  SR n0 nt g0 w0 ⟨Qbe (Qt9 σ.s tt) dst r,M',nb'⟩ (a.put dst v) w2 (g2.re (Qrr (dst.getD 0))):=by
 have hkept:Kept (g.re (Qp0 tt i)) w g2 w2 (There σ.M) Prot:=by
  refine ⟨hf.imm,fun k hk=>?_,fun b hb hlt=>hf.old b hlt hb⟩;obtain ⟨b,hb⟩:=Option.isSome_iff_exists.1 hk;exact hf.box k (h.mem.box k b hb).1
 have hps:∀ ℓ i,Prot ℓ→Prot (ℓ.sub i):=by intro ℓ i hp;cases ℓ<;>simp_all [Prot,Owner.sub]
 have htk:∀ t,tt=some t→Qt9 σ.s tt t=(σ.s t).dem:=by rintro t rfl;simp [Qt9,Sl.put]
 have htn:∀ t,tt≠some t→Qt9 σ.s tt t=σ.s t:=by
  intro t ht;cases tt with
  | none=>rfl
  | some t'=>simp only [Qt9,Sl.put];rw [if_neg];rintro rfl;exact ht rfl
 refine ⟨hm.re (Qni _) rfl (fun o k=>Q61),Qfy (fun d hd'=>by rw [h.size];exact hd d hd') (fun t ht=>?_) (fun d hd'=>?_),(Qgz _ _ _).trans h.size,(Qei _ _ _).trans h.defers,
  Qfz (fun t=>?_) hron,fun k cs hk=>⟨hM k cs hk,hout k cs hk⟩,Nat.le_trans h.top hnb,?_⟩
 ·by_cases ht:tt=some t
  ·rw [htk t ht];have h1:=Qrb (f:=Qp0 tt i) (Qp1 tt i) rfl _ _ _ (Qh1 _ _ .ext _ (h.slots t));have h2:=Qdh hkept hps trivial _ _ _ (show Prot (Qp0 tt i .ext) from trivial) ((Qdy _).2 (h.onS t)) h1;exact Ql9 (Qdz _) (Qrb (Qni _) rfl _ _ _ h2)
  ·rw [htn t ht];have e:Qp0 tt i (.slot t []) = .hid 0 t []:=by simp [Qp0,ht]
   have h1:=Qrb (f:=Qp0 tt i) (Qp1 tt i) rfl _ _ _ (h.slots t);rw [e] at h1;have h2:=Qdh hkept hps trivial _ _ _ (show Prot (.hid 0 t []) from trivial) (h.onS t) h1;exact Qrb (Qni _) rfl _ _ _ h2
 ·have:=Qrb (Qni (dst.getD 0)) rfl _ _ _ hr;simpa [Qrr,hd'] using this
 ·by_cases ht:tt=some t
  ·rw [htk t ht];exact (Qdy _).2 (Qfx hkeep _ (h.onS t))
  ·rw [htn t ht];exact Qfx hkeep _ (h.onS t)
 ·have hle:n0≤σ.nb:=by have:=h.top;omega
  have hfr:=h.fr;refine ⟨hf.os.trans hfr.os,hf.tape.trans hfr.tape,hf.output.trans hfr.output,Nat.le_trans hfr.size hf.size,⟨fun b o hb=>hf.imm.mono b o (hfr.imm.mono b o hb),fun b o hb=>(hf.imm.look b o (hfr.imm.mono b o hb)).trans (hfr.imm.look b o hb)⟩,
   fun k hk=>(hf.box k (by omega)).trans (hfr.box k hk),fun b hb ho=>?_⟩
  obtain ⟨h1,h2,h3⟩:=hfr.old b hb ho;have hp:Prot ((g.re (Qp0 tt i)).own b):=by
   show Prot (Qp0 tt i (g.own b));rw [h1];cases hq:g0.own b<;>rw [hq] at ho<;>first|exact ho.elim|exact trivial
  obtain ⟨k1,k2,k3⟩:=hf.old b (Nat.lt_of_lt_of_le hb hfr.size) hp;refine ⟨?_,k2.trans h2,fun o=>(k3 o).trans (h3 o)⟩;show Qrr _ (g2.own b)=_;rw [k1];show Qrr _ (Qp0 tt i (g.own b))=_;rw [h1];cases hq:g0.own b<;>rw [hq] at ho<;>first|exact ho.elim|rfl
theorem Q62 (h:SR n0 nt g0 w0 σ a w g) (ctx:Nat→TypeId) (tt:Option Nat):∀ (i j k:Nat) (xs:List Operand) (as:List Arg),Qeu P ctx k xs=some as→Qt8 i as=tt →
  RAs (g.re (Qp0 tt (j+i))) w j (Qzb σ.s i as) (xs.map a.eval)∧V.ons (There σ.M) (Qzb σ.s i as)
 | i,j,k,[],as,hc,ht=>by simp [Qeu] at hc;subst hc;cases i<;>exact ⟨rfl,trivial⟩
 | 0,j,k,x::xs,as,hc,ht=>by
  simp only [Qeu] at hc;split at hc<;>cases hc;rename_i ar as' har has;obtain ⟨h3,h4⟩:=Qec P h ctx (k+1) xs as' has;obtain ⟨h1,h2⟩:=Qg7 P h har;have hrest:=Q3r (Qp1 tt (j+0)) rfl Qki h3;have hd:RV (g.re (Qp0 tt (j+0))) w (ar.val σ.s).dem (.slot j []) (a.eval x):=Ql9 (Qdz _) (Qrb (Qp1 tt (j+0)) rfl _ .ext _ (h1 .ext));refine ⟨⟨_,_,rfl,?_,RAs.of_flat hrest⟩,?_,h4⟩
  ·rcases Qs5 P h har with ⟨t,rfl,rfl,k1,k2⟩|⟨_,c,rfl,k1,k2⟩
   ·have k1:RV g w (σ.s t) (.slot t []) (a.eval (.tmp t)):=k1;have hd:RV (g.re (Qp0 tt (j+0))) w (σ.s t).dem (.slot j []) (a.eval (.tmp t)):=hd;show RV _ _ (σ.s t).top _ _;by_cases ho:∃ sz l,σ.s t = .own sz l
    ·obtain ⟨sz,l,ho⟩:=ho;rw [ho] at k1 ⊢;have:=Qrb (f:=Qp0 tt (j+0)) (Qp1 tt (j+0)) rfl _ _ _ k1;have e2:Qp0 tt (j+0) (.slot t []) = .slot j []:=by
      rw [← ht];simp [Qp0,Qt8]
     rw [e2] at this;exact this
    ·have e3:(σ.s t).top=(σ.s t).dem:=by
      cases hv:σ.s t<;>first|rfl|exact absurd ⟨_,_,hv⟩ ho
     rw [e3];exact hd
   ·exact hd
  ·rcases Qs5 P h har with ⟨t,rfl,rfl,k1,k2⟩|⟨_,c,rfl,k1,k2⟩
   ·exact (Q6n _).2 h2
   ·exact (Qdy _).2 h2
 | i+1,j,k,x::xs,as,hc,ht=>by
  simp only [Qeu] at hc;split at hc<;>cases hc;rename_i ar as' har has;obtain ⟨h1,h2⟩:=Qg7 P h har;obtain ⟨h3,h4⟩:=Q62 h ctx tt i (j+1) (k+1) xs as' has (by simpa [Qt8] using ht);rw [show j+1+i=j+(i+1) by omega] at h3;exact ⟨⟨_,_,rfl,Ql9 (Qdz _) (Qrb (Qp1 tt (j+(i+1))) rfl _ .ext _ (h1 .ext)),h3⟩,(Qdy _).2 h2,h4⟩
theorem Qwj {f:FuncId} (hb:Qii P f=true) (args:Array Value) (w:World):(callFunc f args).run P w = .ok (.enter f args) w:=by
 unfold Qii at hb;cases hf:P.funcs[f]? with
 | none=>simp [hf] at hb
 | some fn =>
  simp only [hf,Option.any_some,Bool.and_eq_true,bne_iff_ne,ne_eq] at hb
  have h1 : (fn.name == "runtime.NumGoroutine") = false := by simpa using hb.2
  have h2:fn.body.isNone=false:=by simp_all
  have h3 : ¬ fn.name = "runtime.NumGoroutine" := hb.2
  have h4:¬ fn.body=none:=by intro e;simp [e] at h2
  simp [callFunc,hf,h3,h4]
theorem Q63 {g:G} {w:World}:∀ {xs ys:List V} {us vs:List Value},RFs g w xs us→RFs g w ys vs→RFs g w (xs++ys) (us++vs)
 | [],ys,us,vs,h,k=>by grind [RFs]
 | x::xs,ys,us,vs,⟨u,us',e,r,h⟩,k=>by subst e;exact ⟨u,us'++vs,by simp,r,Q63 h k⟩
theorem Q64 {g:G} {w:World}:∀ {cs:List V} {i:Nat} {us:List Value},RVs g w (V.dems cs) .free i us→RFs g w (V.dems cs) us
 | [],i,us,h=>by simpa [V.dems,RVs,RFs] using h
 | c::cs,i,us,h=>by
  simp only [V.dems,RVs] at h;obtain ⟨u,us',rfl,h1,h2⟩:=h;exact ⟨u,us',rfl,fun ℓ=>Ql9 (Qdz c) h1,Q64 h2⟩
end
end Go.Abs
end
section
namespace Go.Abs
open Go
section
variable {P:Program} {C:Ctx} {g:G} {w:World} {n0 nt:Nat} {g0:G} {w0:World} {σ:St} {a:Act}
theorem Qbbu {T:Tk} {ops:Array Oper} {o:Oper} {c:COp} (hc:Qji P T nt ops o=some c) (hcall:c.kind.isCall=true) (h:SR n0 nt g0 w0 σ a w g) {f:FuncId} {args:List V} (hcal:c.callee σ.s=some (f,args)) (hb:Qii P f=true) :
  c.dst=o.dst∧(∀ d,o.dst=some d→d<nt)∧∃ us:List Value,(execOp a.eval o).run P w = .ok (.enter f us.toArray) w∧RFs g w args us∧(∀ x∈args,Flat x)∧V.ons (There σ.M) args:=by
 obtain ⟨k,as,tk,hk,hd,hcd,hck,hca⟩ : ∃ k as tk,Qi6 P T o=some (k,as,tk)∧(∀ d,o.dst=some d→d<nt)∧c.dst=o.dst∧c.kind=k∧c.args=as:=by
  unfold Qji at hc;split at hc<;>try (cases hc;done)
  rename_i k as tk hk;split at hc<;>try (cases hc;done)
  rename_i hcond;simp only [Bool.and_eq_true,decide_eq_true_eq] at hcond;refine ⟨k,as,tk,hk,fun d hd=>?_,?_⟩
  ·grind [Qbe9]
  grind
 refine ⟨hcd,hd,?_⟩;rw [hck] at hcall;simp only [COp.callee,hck,hca] at hcal;clear hcd hck hca hc;have nocall:∀ {k:K},k.isCall=true→(∃ f,k = .call f)∨k = .callv:=by intro k hk;cases k<;>simp_all [K.isCall]
 have hcl:∃ cl x,o.op = .call cl∧cl.callee = .value x:=by
  unfold Qi6 Qzc at hk;cases hop:o.op<;>rw [hop] at hk<;>(try simp only at hk)
  case call cl =>
   cases hcl:cl.callee with
   | value x=>grind
   | invoke=>rw [hcl] at hk;cases hk
   | builtin b =>
    grind [Option.bind_eq_some_iff,Option.map_eq_some_iff,Option.some.injEq,Prod.mk.injEq,K.isCall]
  all_goals
   exfalso
   (repeat' split at hk)<;>first
    | (cases hk;done)
    | (simp only [Option.bind_eq_some_iff,Option.map_eq_some_iff,Option.some.injEq,Prod.mk.injEq] at hk;grind [K.isCall])
 obtain ⟨cl,x,hop,hcl⟩:=hcl;unfold Qi6 at hk;rw [hop] at hk;simp only [hcl] at hk;cases x<;>(try simp only at hk)<;>try (cases hk;done)
 case tmp t =>
  simp only [Option.map_eq_some_iff,Prod.mk.injEq] at hk;obtain ⟨as',has,rfl,rfl,rfl⟩:=hk;simp only [List.map_cons,Arg.val] at hcal;cases hst:σ.s t<;>rw [hst] at hcal<;>simp only at hcal<;>try (cases hcal;done)
  rename_i f' caps;simp only [Option.some.injEq,Prod.mk.injEq] at hcal;obtain ⟨rfl,rfl⟩:=hcal;obtain ⟨h1,h2⟩:=Qec P h _ _ _ _ has;have hslot:=h.slots t;have hon:=h.onS t;rw [hst] at hslot hon;simp only [RV] at hslot;obtain ⟨vs,hvs,hr⟩:=hslot;refine ⟨cl.args.toList.map a.eval++vs,?_,?_,?_,?_⟩
  ·have hev:a.eval (.tmp t) = .func (.func f') #[] vs.toArray:=hvs;have e:cl.args.map a.eval++vs.toArray=(cl.args.toList.map a.eval++vs).toArray:=by apply Array.ext';simp
   grind [Go.execOp,Go.resolve,Go.Sem.run_bind,Go.Deferred.ofValue,Go.Sem.run_pure,Go.Result.andThen_ok,Go.invoke,Qwj]
  ·exact Q63 h1 (Q64 (RVs_dem caps .ext .free 0 0 vs hr))
  ·grind [Qki]
  ·exact Qfd.2 ⟨h2,(ons_dems caps).2 hon⟩
 case func f' =>
  split at hk<;>try (cases hk;done)
  simp only [Option.map_eq_some_iff,Prod.mk.injEq] at hk;obtain ⟨as',has,hkk,rfl,rfl⟩:=hk;cases hco:inL T.co o.dst with
  | true=>rw [hco] at hkk;subst hkk;cases hcall
  | false =>
  rw [hco] at hkk;have hkk:K.call f'=_:=hkk;subst hkk;simp only [Option.some.injEq,Prod.mk.injEq] at hcal;obtain ⟨rfl,rfl⟩:=hcal;obtain ⟨h1,h2⟩:=Qec P h _ _ _ _ has;refine ⟨cl.args.toList.map a.eval,?_,h1,Qki,h2⟩;have hev:a.eval (.func f') = .func (.func f') #[] #[]:=rfl;have e:cl.args.map a.eval ++ #[]=(cl.args.toList.map a.eval).toArray:=by apply Array.ext';simp
  grind [Go.execOp,Go.resolve,Go.Sem.run_bind,Go.Deferred.ofValue,Go.Sem.run_pure,Go.Result.andThen_ok,Go.invoke,Qwj]
def Qbf5 (P:Program) (C:Ctx):Prop:=∀ f args M nb r M' nb',C f args M nb r M' nb'→ACalls P f args M nb r M' nb'
theorem Q9s {T:Tk} {ops:Array Oper} {o:Oper} {c:COp} (hc:Qji P T nt ops o=some c) {f:FuncId} {i:Nat} (hck:c.kind = .callO f i) (h:SR n0 nt g0 w0 σ a w g) (hb:Qii P f=true) :
  c.dst=o.dst∧(∀ d,o.dst=some d→d<nt)∧∃ us:List Value,(execOp a.eval o).run P w = .ok (.enter f us.toArray) w∧RAs (g.re (Qp0 (Qt8 i c.args) i)) w 0 (Qzb σ.s i c.args) us∧V.ons (There σ.M) (Qzb σ.s i c.args):=by
 obtain ⟨k,as,tk,hk,hd,hcd,hck',hca⟩ : ∃ k as tk,Qi6 P T o=some (k,as,tk)∧(∀ d,o.dst=some d→d<nt)∧c.dst=o.dst∧c.kind=k∧c.args=as:=by
  unfold Qji at hc;split at hc<;>try (cases hc;done)
  rename_i k as tk hk;split at hc<;>try (cases hc;done)
  rename_i hcond;simp only [Bool.and_eq_true,decide_eq_true_eq] at hcond;refine ⟨k,as,tk,hk,fun d hd=>?_,?_⟩
  ·grind [Qbe9]
  grind
 refine ⟨hcd,hd,?_⟩;rw [hck] at hck';subst hck';rw [hca];clear hcd hck hca hc;have hcl:∃ cl g',o.op = .call cl∧cl.callee = .value (.func g'):=by
  unfold Qi6 Qzc at hk;cases hop:o.op<;>rw [hop] at hk<;>(try simp only at hk)
  case call cl =>
   cases hcl:cl.callee with
   | value x =>
    rw [hcl] at hk;cases x with
    | func g'=>exact ⟨cl,g',rfl,hcl⟩
    | tmp t=>simp at hk
    | _=>simp at hk
   | invoke=>rw [hcl] at hk;cases hk
   | builtin b =>
    grind [Option.bind_eq_some_iff,Option.map_eq_some_iff,Option.some.injEq,Prod.mk.injEq]
  all_goals
   exfalso
   (repeat' split at hk)<;>first
    | (cases hk;done)
    | (simp only [Option.bind_eq_some_iff,Option.map_eq_some_iff,Option.some.injEq,Prod.mk.injEq] at hk;grind)
 obtain ⟨cl,f',hop,hcl⟩:=hcl;unfold Qi6 at hk;rw [hop] at hk;simp only [hcl] at hk;split at hk<;>try (cases hk;done)
 simp only [Option.map_eq_some_iff,Prod.mk.injEq] at hk;obtain ⟨as',has,hkk,rfl,rfl⟩:=hk;split at hkk<;>cases hkk;obtain ⟨h1,h2⟩:=Q62 P h _ _ _ 0 _ _ _ has rfl;rw [Nat.zero_add] at h1;refine ⟨cl.args.toList.map a.eval,?_,h1,h2⟩;have hev:∀ f,a.eval (.func f) = .func (.func f) #[] #[]:=fun _=>rfl;have e:cl.args.map a.eval ++ #[]=(cl.args.toList.map a.eval).toArray:=by apply Array.ext';simp
 grind [Go.execOp,Go.resolve,Go.Sem.run_bind,Go.Deferred.ofValue,Go.Sem.run_pure,Go.Result.andThen_ok,Go.invoke,Qwj]
theorem Q9t {T:Tk} {ops:Array Oper} {o:Oper} {c:COp} (hc:Qji P T nt ops o=some c) :
  (o.guard=none∧c.guard=none)∨∃ j want t,o.guard=some (j,want)∧(ops[j]?).bind (·.dst)=some t∧c.guard=some (t,want):=by
 unfold Qji at hc
 grind
theorem Q65 {T:Tk} {ops:Array Oper} {o:Oper} {c:COp} (hc:Qji P T nt ops o=some c):c.dst=o.dst∧∀ d,o.dst=some d→d<nt:=by
 unfold Qji at hc;split at hc<;>try (cases hc;done)
 split at hc<;>try (cases hc;done)
 rename_i hcond;simp only [Bool.and_eq_true,decide_eq_true_eq] at hcond;have hd:∀ d,o.dst=some d→d<nt:=fun d hd=>by grind [Qbe9]
 grind
theorem Qbf6 (h:SR n0 nt g0 w0 σ a w g) {T:Tk} {ops:Array Oper} {o:Oper} {c:COp} (hc:Qji P T nt ops o=some c) {b:Bool} (hw:c.wanted σ.s=some b) :
  Region.wanted o (yielded ops a.tmps)=b:=by
 rcases Q9t hc with ⟨h1,h2⟩|⟨j,want,t,h1,h2,h3⟩
 ·grind [COp.wanted,Option.some.injEq,Go.Region.wanted]
 ·simp only [COp.wanted,h3] at hw;have hslot:=h.slots t;cases hs:σ.s t<;>rw [hs] at hw hslot<;>(try simp only at hw)<;>try (cases hw;done)
  ·rename_i dx;cases dx<;>(try simp only at hw)<;>try (cases hw;done)
   rename_i q;simp only [Option.some.injEq] at hw;simp only [RV,RD] at hslot;have hy:yielded ops a.tmps j=some q:=by
    simp only [yielded,h2,Option.bind_some];cases ht:a.tmps[t]? with
    | none=>simp [ht,undef] at hslot
    | some v =>
     simp_all
   grind [Go.Region.wanted]
  ·rename_i vs;cases vs with
   | cons=>simp at hw
   | nil =>
    simp only [Option.some.injEq] at hw;subst hw;simp only [RV,RVs] at hslot;obtain ⟨vs,hv,rfl⟩:=hslot;have hy:yielded ops a.tmps j=none:=by
     simp only [yielded,h2,Option.bind_some];cases ht:a.tmps[t]? with
     | none=>rfl
     | some v=>simp_all
    simp [Region.wanted,h1,hy]
theorem Q6c {T:Tk} {o:Oper} {k:K} {as:List Arg} {tk:Bool} (hk:Qi6 P T o=some (k,as,tk)) (hn:k.isNil=true) (hno:∀ f i,k ≠ .callO f i) :
  ∃ op t x ar e,o.op = .binOp op t x (.const (.slice none 0 0)) (match o.op with | .binOp _ _ _ _ yt=>yt|_=>0)∧Qgd P t x=some ar∧as=[ar]∧tk=false∧P.underlying t=some (.slice e)∧(op = .eql∧k = .isnil false∨op = .neq∧k = .isnil true):=by
 unfold Qi6 Qzc at hk;cases hop:o.op<;>rw [hop] at hk<;>(try simp only at hk)
 case binOp op t x y yt =>
  split at hk<;>try (cases hk;done)
  rename_i xa ya hxa hya;split at hk<;>try (cases hk;done)
  ·grind
  all_goals grind [Option.bind_eq_some_iff,Option.map_eq_some_iff,Option.some.injEq,Prod.mk.injEq,K.isNil]
 all_goals
  grind [Option.bind_eq_some_iff,Option.map_eq_some_iff,Option.some.injEq,Prod.mk.injEq,K.isNil]
theorem Q8g (hC:Qbf5 P C) {T:Tk} {ops:Array Oper} {o:Oper} {c:COp} (hc:Qji P T nt ops o=some c) {pc:Nat} {Q:St→Prop} (h:SR n0 nt g0 w0 σ a w g) (hrun:c.run C n0 pc σ Q)
  {KK:Act→World→Prop} {QQ:Exit→Act→World→Prop} (hK:∀ σ' a' w' g',Q σ'→SR n0 nt g0 w0 σ' a' w' g'→KK a' w') :
  if Region.wanted o (yielded ops a.tmps) then o.wp P a w KK QQ else KK (a.put o.dst undef) w:=by
 obtain ⟨hdst,hd⟩:=Q65 hc;unfold COp.run at hrun;cases hw:c.wanted σ.s with
 | none=>grind
 | some b =>
  rw [Qbf6 h hc hw];rw [hw] at hrun;cases b with
  | false =>
   simp only [Bool.false_eq_true,if_false];refine hK _ _ _ g hrun ?_;rw [hdst];exact h.pure hd (fun _ _=>by simp [RV,RVs,undef]) trivial
  | true =>
   simp only [if_true] at hrun ⊢;cases hcall:c.kind.isCall with
   | true =>
    rw [hcall] at hrun;simp only [if_true] at hrun;cases hcal:c.callee σ.s with
    | none=>grind
    | some fa =>
     obtain ⟨f,args⟩:=fa;rw [hcal] at hrun;simp only at hrun;have key:∀ r M nb,C f args σ.M σ.nb r M nb→(∀ k,(σ.M k).isSome=true→(M k).isSome=true)→(∀ k cs,k<n0→M k=some (.cells cs)→M k=σ.M k∨V.lt.go n0 cs=true)→Q ⟨Qbe σ.s c.dst r,M,nb⟩→o.wp P a w KK QQ:=by
      intro r M nb hCc hkeep hout hq;obtain ⟨hbody,hnb,hcalls⟩:=hC _ _ _ _ _ _ _ hCc;obtain ⟨_,_,us,hex,hus,hfl,hons⟩:=Qbbu hc hcall h hcal hbody;unfold Oper.wp;rw [hex];have hm:=h.mem.re Q8f rfl (fun o k=>Qbiy);have hus':=Q3r Q8f rfl hfl hus;refine (hcalls w (g.re hide) us hm h.mOn (RAs.of_flat hus') hons).mono ?_;rintro e w' ⟨v,g',rfl,hm',hr',hron,hMon,hfr⟩;refine hK _ _ _ (g'.re (Qrr (o.dst.getD 0))) hq ?_;rw [hdst];refine h.behind hd hm' hr' hron hMon hfr hnb hkeep fun k cs hk hlt=>?_;rcases hout k cs hlt hk with he|hl
      ·exact h.out k cs (he ▸ hk) hlt
      ·exact ons_lt cs hl
     match pc,hrun with
     | 0,⟨r,M,nb,h1,h2,h3,h4⟩=>grind
     | 1,⟨r,Δ,nb,h1,h4⟩ =>
      have hin:∀ k,(σ.M k).isSome=true→k<σ.nb:=fun k hk=>by
       obtain ⟨b,hb⟩:=Option.isSome_iff_exists.1 hk;exact (h.mem.box k b hb).1
      refine key r (σ.M.over σ.nb Δ) nb (h1 σ.M (fun _ _=>rfl) fun k hk=>?_) (fun k hk=>?_) (fun k cs hlt hk=>.inl ?_) h4
      ·cases hM:σ.M k with
       | none=>rfl
       | some b=>grind
      ·simp only [Mem.over,hin k hk,if_true];exact hk
      ·have:=h.top;simp only [Mem.over,show k<σ.nb by omega,if_true]
     | n+2,hrun =>
      have hrun:(if n<8 then _ else _):=hrun;split at hrun
      ·grind
      ·obtain ⟨r,W,Δ,nb,_,hW,hW2,h1,h4⟩:=hrun;have hin:∀ k,(σ.M k).isSome=true→k<σ.nb:=fun k hk=>by
        obtain ⟨b,hb⟩:=Option.isSome_iff_exists.1 hk;exact (h.mem.box k b hb).1
       refine key r ((σ.M.patch W).over σ.nb Δ) nb (h1 σ.M (fun _ _=>rfl) fun k hk=>?_) (fun k hk=>?_) (fun k cs hlt hk=>?_) h4
       ·cases hM:σ.M k with
        | none=>rfl
        | some b=>grind
       ·simp only [Mem.over,hin k hk,if_true,Mem.patch]
        grind
       ·have:=h.top;simp only [Mem.over,show k<σ.nb by omega,if_true,Mem.patch] at hk ⊢
        grind
   | false =>
    rw [hcall] at hrun;simp only [Bool.false_eq_true,if_false] at hrun;cases hnil:c.kind.isNil with
    | true =>
     rw [hnil] at hrun;simp only [if_true] at hrun;by_cases hO:∃ f i,c.kind = .callO f i
     ·obtain ⟨f,i,hO⟩:=hO;simp only [COp.runN,hO] at hrun;obtain ⟨_,r,M,nb,hCc,hkeep,hout,hq⟩:=hrun;obtain ⟨hbody,hnb,hcalls⟩:=hC _ _ _ _ _ _ _ hCc;obtain ⟨_,_,us,hex,hus,hons⟩:=Q9s hc hO h hbody;unfold Oper.wp;rw [hex];have hm:=h.mem.re (f:=Qp0 (Qt8 i c.args) i) (Qp1 _ _) rfl (fun o k=>Qbf4);refine (hcalls w _ us hm h.mOn hus hons).mono ?_;rintro e w' ⟨v,g',rfl,hm',hr',hron,hMon,hfr⟩;refine hK _ _ _ (g'.re (Qrr (o.dst.getD 0))) hq ?_;rw [hdst];refine h.behindO hd hm' hr' hron hMon hfr hnb hkeep fun k cs hk hlt=>?_;rcases hout k cs hlt hk with he|hl
      ·exact h.out k cs (he ▸ hk) hlt
      ·exact ons_lt cs hl
     have hrun:(match Q35 (c.xs σ.s) with
      | some n=>∀ b:Bool,(b=true→n=0)→Q { σ with s:=Qbe σ.s c.dst (.d (.bool (if c.kind.negNil then !b else b))) }
      | none=>False):=by
      unfold COp.runN at hrun;split at hrun
      ·rename_i f i hkk;exact absurd ⟨f,i,hkk⟩ hO
      ·exact hrun
     obtain ⟨k,as,tk,hk,hck,hca,hct⟩ : ∃ k as tk,Qi6 P T o=some (k,as,tk)∧c.kind=k∧c.args=as∧c.tk=tk:=by
      unfold Qji at hc
      grind
     obtain ⟨op,t,x,ar,e,hop,har,rfl,rfl,hu,hkk⟩:=Q6c hk (by rw [← hck];exact hnil) (fun f i e=>hO ⟨f,i,by rw [hck];exact e⟩);obtain ⟨h1,h2⟩:=Qg7 P h har;simp only [COp.xs,hct,hca,Bool.false_eq_true,if_false,List.map_cons,List.map_nil,V.dems] at hrun;have hsl:∃ (m:Nat) (ad:Option Addr) (ln cap:Nat),Q35 [(ar.val σ.s).dem]=some m∧a.eval x = .slice ad ln cap∧(ad.isNone=true→m=0):=by
      have ofD:∀ (l:List (List D)) (sz:Nat),RD g.imm w (.lst sz l) (a.eval x)→∃ (ad:Option Addr) (ln cap:Nat),a.eval x = .slice ad ln cap∧(ad.isNone=true→l.length=0):=by
       intro l sz hrd;simp only [RD] at hrd
       grind
      cases hv:(ar.val σ.s).dem<;>rw [hv] at hrun h1<;>(try (simp [Q35] at hrun;done))
      ·rename_i dx;cases dx<;>(try (simp [Q35] at hrun;done));obtain ⟨ad,ln,cap,k1,k2⟩:=ofD _ _ (RF_d.1 h1);exact ⟨_,ad,ln,cap,rfl,k1,k2⟩
      ·grind [Qdz,V.dem]
      ·have h2:=h1 .free;simp only [RV] at h2;obtain ⟨ad,h2⟩:=h2;exact ⟨0,ad,0,0,rfl,h2,fun _=>rfl⟩
      ·have h2:=h1 .free;simp only [RV] at h2
       grind
     obtain ⟨m,ad,ln,cap,hl,hval,hld⟩:=hsl;rw [hl] at hrun;simp only at hrun;have hb:=hrun ad.isNone hld;have hres:(execOp a.eval o).run P w = .ok (.value (.bool (if c.kind.negNil then !ad.isNone else ad.isNone))) w:=by
      simp only [execOp];rw [hop];simp only;refine Qid P _ ?_;have hev:a.eval (.const (.slice none 0 0)) = .slice none 0 0:=rfl;rw [hval,hev,Sem.run_bind,Quf P _ _ _ _ _ _ rfl w,Result.andThen_ok];rcases hkk with ⟨rfl,rfl⟩|⟨rfl,rfl⟩
      ·rw [hck];exact Lib.run_eql_slice_nil w t e ad ln cap 0 0 hu
      ·rw [hck];exact run_neq_slice_nil_any w t e ad ln cap 0 0 hu
     unfold Oper.wp;rw [hres];refine hK _ _ _ g hb ?_;rw [hdst];exact h.pure hd (fun _ _=>by simp [RV,RD]) trivial
    | false =>
     rw [hnil] at hrun;simp only [Bool.false_eq_true,if_false] at hrun;cases hst:c.step n0 σ with
     | none=>grind
     | some σ' =>
      rw [hst] at hrun;exact (Qbej P hc hcall hnil h hst).wp P fun a' w' g' hs=>hK _ _ _ g' hrun hs
end
end Go.Abs
end
section
namespace Go.Abs
open Go
def CallStp (C:Ctx) (n0 pc:Nat) (d:Option Nat) (f:FuncId) (args:List V) (M:Mem) (nb:Nat) (r:V) (M' : Mem) (nb' : Nat):Prop :=
 match pc with
 | 0=>C f args M nb r M' nb'∧(∀ k,(M k).isSome=true→(M' k).isSome=true)∧(∀ k cs,k<n0→M' k=some (.cells cs)→M' k=M k∨V.lt.go n0 cs=true)
 | 1=>∃ Δ,(∀ M2:Mem,(∀ k,(M k).isSome=true→M2 k=M k)→(∀ k,nb≤k→M2 k=none)→C f args M2 nb r (M2.over nb Δ) nb')∧M'=M.over nb Δ
 | n+2=>if n<8 then (∀ M nb,C f args M nb r M nb)∧M'=M∧nb'=nb
  else ∃ W Δ,(wrs (n-8) d=true∨∀ k,W k=none)∧(∀ k,(W k).isSome=true→(M k).isSome=true)∧(∀ k cs,k<n0→W k=some (.cells cs)→V.lt.go n0 cs=true) ∧
   (∀ M2:Mem,(∀ k,(M k).isSome=true→M2 k=M k)→(∀ k,nb≤k→M2 k=none)→C f args M2 nb r ((M2.patch W).over nb Δ) nb')∧M'=(M.patch W).over nb Δ
def Core (C:Ctx) (n0 pc:Nat) (o:COp) (s:Sl) (M:Mem) (nb:Nat) (v:V) (M' : Mem) (nb' : Nat):Prop :=
 match o.wanted s with
 | some true =>
  if o.kind.isCall then ∃ f args,o.callee s=some (f,args)∧CallStp C n0 pc o.dst f args M nb v M' nb'
  else if o.kind.isNil then False
  else Qi n0 (n0+o.dst.getD 0) o.kind (o.xs s) M=some (v,M')∧nb'=nb
 | some false=>v = .tup []∧M'=M∧nb'=nb
 | none=>False
def pv (o:COp) (s:Sl):List V:=if o.wanted s=some true∧o.kind.isCall=false∧o.tk=true then Qbz o.kind (o.xs s) else []
def Stp (C:Ctx) (n0 pc:Nat) (o:COp) (σ σ' : St):Prop :=
 ∃ v,Core C n0 pc o σ.s σ.M σ.nb v σ'.M σ'.nb∧σ'.s=Qbe (Q4 σ.s o.args (pv o σ.s)) o.dst v
theorem Qd9 (s:Sl) (as:List Arg):Q4 s as []=s:=by cases as<;>rfl
theorem Qbkz {C:Ctx} {n0 pc:Nat} {o:COp} {σ:St} {Q:St→Prop} (hn:o.kind.isNil=false) (h:o.run C n0 pc σ Q):∃ σ',Stp C n0 pc o σ σ'∧Q σ':=by
 unfold COp.run at h;cases hw:o.wanted σ.s with
 | none=>grind
 | some b =>
  rw [hw] at h;cases b with
  | false =>
   refine ⟨_,⟨.tup [],?_,?_⟩,h⟩
   ·simp [Core,hw]
   ·simp [pv,hw,Qd9]
  | true =>
   simp only at h;cases hcall:o.kind.isCall with
   | true =>
    rw [hcall] at h;simp only [if_true] at h;cases hcal:o.callee σ.s with
    | none=>grind
    | some fa =>
     obtain ⟨f,args⟩:=fa;rw [hcal] at h;simp only at h;have hpv:pv o σ.s=[]:=by simp [pv,hcall]
     match pc,h with
     | 0,⟨r,M,nb,h1,h2,h3,h4⟩=>exact ⟨_,⟨r,by simp only [Core,hw,hcall,if_true];exact ⟨f,args,hcal,h1,h2,h3⟩,by rw [hpv,Qd9]⟩,h4⟩
     | 1,⟨r,Δ,nb,h1,h4⟩=>exact ⟨_,⟨r,by simp only [Core,hw,hcall,if_true];exact ⟨f,args,hcal,Δ,h1,rfl⟩,by rw [hpv,Qd9]⟩,h4⟩
     | n+2,h =>
      have h:(if n<8 then _ else _):=h;by_cases hn8:n<8
      ·rw [if_pos hn8] at h;obtain ⟨r,h1,h4⟩:=h;exact ⟨_,⟨r,by simp only [Core,hw,hcall,if_true];exact ⟨f,args,hcal,(by show (if n<8 then _ else _);grind)⟩,by rw [hpv,Qd9]⟩,h4⟩
      ·rw [if_neg hn8] at h;obtain ⟨r,W,Δ,nb,h1,h2,h3,h5,h4⟩:=h;exact ⟨_,⟨r,by simp only [Core,hw,hcall,if_true];exact ⟨f,args,hcal,(by show (if n<8 then _ else _);grind)⟩,by rw [hpv,Qd9]⟩,h4⟩
   | false =>
    rw [hcall,hn] at h;simp only [Bool.false_eq_true,if_false] at h;cases hst:o.step n0 σ with
    | none=>grind
    | some σ' =>
     rw [hst] at h;refine ⟨σ',?_,h⟩;unfold COp.step at hst;simp only at hst;split at hst<;>cases hst;rename_i v M hk;refine ⟨v,by simp [Core,hw,hcall,hn,hk],?_⟩
     grind [pv,Qd9]
theorem Qbf7 {C:Ctx} {n0 pc:Nat} {o:COp} {σ σ' : St} {Q:St→Prop} (h:Stp C n0 pc o σ σ') (hq:Q σ'):o.run C n0 pc σ Q:=by
 obtain ⟨v,hc,hs⟩:=h;unfold Core at hc;unfold COp.run;cases hw:o.wanted σ.s with
 | none=>grind
 | some b =>
  rw [hw] at hc;cases b with
  | false =>
   obtain ⟨rfl,h1,h2⟩:=hc;simp only [pv,hw] at hs;simp [Qd9] at hs;show Q _;rw [← hs,← h2,← h1];exact hq
  | true =>
   simp only at hc ⊢;cases hcall:o.kind.isCall with
   | true =>
    rw [hcall] at hc;simp only [if_true] at hc ⊢;obtain ⟨f,args,hcal,hcc⟩:=hc;rw [hcal];simp only;have hpv:pv o σ.s=[]:=by simp [pv,hcall]
    rw [hpv,Qd9] at hs
    match pc,hcc with
    | 0,⟨h1,h2,h3⟩=>exact ⟨v,σ'.M,σ'.nb,h1,h2,h3,by rw [← hs];exact hq⟩
    | 1,⟨Δ,h1,h2⟩=>exact ⟨v,Δ,σ'.nb,h1,by rw [← hs,← h2];exact hq⟩
    | n+2,hcc =>
     have hcc:(if n<8 then _ else _):=hcc;show (if n<8 then _ else _);by_cases hn8:n<8
     ·rw [if_pos hn8] at hcc ⊢;obtain ⟨h1,h2,h3⟩:=hcc;exact ⟨v,h1,by rw [← hs,← h2,← h3];exact hq⟩
     ·rw [if_neg hn8] at hcc ⊢;obtain ⟨W,Δ,h1,h2,h3,h4,h5⟩:=hcc;exact ⟨v,W,Δ,σ'.nb,h1,h2,h3,h4,by rw [← hs,← h5];exact hq⟩
   | false =>
    rw [hcall] at hc;simp only [Bool.false_eq_true,if_false] at hc ⊢;cases hn:o.kind.isNil with
    | true=>grind
    | false =>
     rw [hn] at hc;simp only [Bool.false_eq_true,if_false] at hc ⊢;obtain ⟨h1,h2⟩:=hc;have:o.step n0 σ=some σ':=by
      unfold COp.step;simp only [h1,Option.some.injEq];have hs' : σ'.s=Qbe (if o.tk=true then Q4 σ.s o.args (Qbz o.kind (o.xs σ.s)) else σ.s) o.dst v:=by
       grind [pv,Qd9]
      rw [← hs',← h2]
     rw [this];exact hq
theorem Qbf8 (s:Sl) {t u:Nat} (v x:V) (h:t≠u):(s.put t v).put u x=(s.put u x).put t v:=by
 grind [Sl.put]
theorem Quk:∀ (as:List Arg) (vs:List V) (s:Sl) (t:Nat) (x:V),(∀ a∈as,t∉a.slot)→Q4 (s.put t x) as vs=(Q4 s as vs).put t x
 | [],_,_,_,_,_=>by simp [Q4]
 | a::as,[],_,_,_,_=>rfl
 | a::as,v::vs,s,t,x,h=>by
  simp only [Q4];have ha:=h a (by simp);cases a with
  | c w=>exact Quk as vs s t x fun a h'=>h a (by simp [h'])
  | t i =>
   have hne:t≠i:=by simpa [Arg.slot] using ha
   simp only [Arg.putTo];rw [Qbf8 _ _ _ hne];exact Quk as vs (s.put i v) t x fun a h'=>h a (by simp [h'])
theorem Qwk:∀ (bs:List Arg) (ws:List V) (s:Sl) (as:List Arg) (vs:List V),(∀ a∈as,∀ b∈bs,∀ t∈b.slot,t∉a.slot)→Q4 (Q4 s bs ws) as vs=Q4 (Q4 s as vs) bs ws
 | [],_,_,_,_,_=>by simp [Q4]
 | b::bs,[],_,_,_,_=>rfl
 | b::bs,w::ws,s,as,vs,h=>by
  simp only [Q4];rw [Qwk bs ws _ as vs fun a ha b' hb'=>h a ha b' (by simp [hb'])];congr 1;cases b with
  | c w=>rfl
  | t i =>
   simp only [Arg.putTo];exact Quk as vs s i w fun a ha=>h a ha (.t i) (by simp) i (by simp [Arg.slot])
theorem Qul:∀ (as:List Arg) (vs:List V) (s:Sl) (t:Nat),(∀ a∈as,t∉a.slot)→Q4 s as vs t=s t
 | [],_,_,_,_=>by simp [Q4]
 | a::as,[],_,_,_=>rfl
 | a::as,v::vs,s,t,h=>by
  simp only [Q4];rw [Qul as vs _ t fun a h'=>h a (by simp [h'])];have ha:=h a (by simp);cases a with
  | c w=>rfl
  | t i =>
   have hne:t≠i:=by simpa [Arg.slot] using ha
   simp [Arg.putTo,Sl.put,hne]
theorem Q9u (k:K) (xs:List V):V.dems (Qbz k xs)=V.dems xs:=by
 unfold Qbz;split<;>simp [V.dems,Qdz,dems_dems];rename_i i vs;split
 ·rename_i v hv;simp only [V.dem];congr 1;have:∀ (vs:List V) (i:Nat) (v:V),vs[i]? = some v→V.dems (vs.set i v.dem)=V.dems vs:=by
   intro vs
   induction vs with
   | nil=>intro i v h;simp at h
   | cons a vs ih =>
    intro i v h;cases i with
    | zero=>grind [V.dems,Qdz]
    | succ i=>grind [V.dems]
  exact this vs i v hv
 ·rfl
theorem Qma:∀ vs:List V,V.dems vs=vs.map V.dem
 | []=>rfl
 | v::vs=>by simp [V.dems,Qma vs]
theorem Q4t:∀ (as:List Arg) (vs:List V) (s:Sl),V.dems vs=V.dems (as.map (·.val s))∨vs=[]→∀ t,(Q4 s as vs t).dem=(s t).dem:=by
 intro as vs s h;rcases h with h|rfl
 case inr=>intro t;rw [Qd9]
 suffices H:∀ (as:List Arg) (vs:List V) (s s0:Sl),(∀ t,(s t).dem=(s0 t).dem)→V.dems vs=V.dems (as.map (·.val s0))→∀ t,(Q4 s as vs t).dem=(s0 t).dem from H as vs s s (fun _=>rfl) h
 intro as
 induction as with
 | nil=>simp_all [Q4]
 | cons a as ih =>
  intro vs s s0 h1 h2 t;cases vs with
  | nil=>exact h1 t
  | cons v vs =>
   simp only [List.map_cons,V.dems,List.cons.injEq] at h2;simp only [Q4];refine ih vs _ s0 (fun t=>?_) h2.2 t;cases a with
   | c w=>exact h1 t
   | t i =>
    simp only [Arg.putTo,Sl.put];split
    ·rename_i he;subst he;exact h2.1
    ·exact h1 t
def Alike (o:COp) (s s' : Sl):Prop :=
 (∀ t w,o.guard=some (t,w)→s' t=s t)∧∀ a∈o.args,if o.tk then a.val s'=a.val s else (a.val s').dem=(a.val s).dem
theorem Alike.wanted {o:COp} {s s' : Sl} (h:Alike o s s'):o.wanted s'=o.wanted s:=by
 unfold COp.wanted;split
 ·rfl
 ·rename_i t w hg;rw [h.1 t w hg]
theorem Alike.xs {o:COp} {s s' : Sl} (h:Alike o s s'):o.xs s'=o.xs s:=by
 unfold COp.xs;have h2:=h.2;split
 all_goals simp_all [if_true,List.map_congr_left,Qma,List.map_map]
theorem Alike.dems {o:COp} {s s' : Sl} (h:Alike o s s'):V.dems (o.args.map (·.val s'))=V.dems (o.args.map (·.val s)):=by
 rw [Qma,Qma,List.map_map,List.map_map];refine List.map_congr_left fun a ha=>?_;have h2:=h.2 a ha
 grind
theorem Qbf9 {v:V} {f:FuncId} {cs:List V}:v.dem = .clo f cs↔v = .clo f cs:=by
 cases v<;>simp [V.dem]
theorem Qbbv {o:COp} {s s' : Sl} (h:V.dems (o.args.map (·.val s'))=V.dems (o.args.map (·.val s))):o.callee s'=o.callee s:=by
 unfold COp.callee;split
 ·rw [h]
 ·revert h;generalize o.args.map (·.val s')=xs';generalize o.args.map (·.val s)=xs;intro h;cases xs with
  | nil =>
   grind [V.dems]
  | cons x xs =>
   cases xs' with
   | nil=>simp [V.dems] at h
   | cons x' xs' =>
    simp only [V.dems,List.cons.injEq] at h;obtain ⟨h1,h2⟩:=h;by_cases hx:∃ f cs,x = .clo f cs
    ·obtain ⟨f,cs,rfl⟩:=hx;have:x' = .clo f cs:=Qbf9.1 (h1.trans rfl)
     grind
    ·have hx' : ¬ ∃ f cs,x' = .clo f cs:=by
      rintro ⟨f,cs,rfl⟩;exact hx ⟨f,cs,Qbf9.1 (h1.symm.trans rfl)⟩
     grind
 ·rfl
theorem Alike.core {C:Ctx} {n0 pc:Nat} {o:COp} {s s' : Sl} (h:Alike o s s') {M:Mem} {nb:Nat} {v:V} {M' : Mem} {nb' : Nat} (hc:Core C n0 pc o s M nb v M' nb'):Core C n0 pc o s' M nb v M' nb':=by
 unfold Core at *
 rw [h.wanted,h.xs,Qbbv h.dems];exact hc
theorem Alike.pv {o:COp} {s s' : Sl} (h:Alike o s s'):Abs.pv o s'=Abs.pv o s:=by
 unfold Abs.pv;rw [h.wanted,h.xs]
theorem Qbga (o:COp) (s:Sl):V.dems (pv o s)=V.dems (o.args.map (·.val s))∨pv o s=[]:=by
 unfold pv;split
 ·rename_i h;left;rw [Q9u];simp [COp.xs,h.2.2]
 ·exact .inr rfl
theorem Qie {o:COp} {t:Nat}:t∈o.argSlots↔∃ a∈o.args,t∈a.slot:=by simp [COp.argSlots]
theorem Qnj {a b:List Nat} (h:Q2x a b=true) {x:Nat} (hx:x∈a):x∉b:=by
 grind [Q2x,List.all_eq_true,Bool.not_eq_true',decide_eq_false_iff_not]
theorem Q4u {a b:COp} (h1:∀ d,a.dst=some d→d∉b.reads) (h2:a.tk=true→b.tk=true→∀ t∈a.argSlots,t∉b.argSlots) (h3:a.tk=true→∀ t∈a.argSlots,∀ u w,b.guard=some (u,w)→t≠u)
  (s:Sl) (v:V):Alike b s (Qbe (Q4 s a.args (pv a s)) a.dst v):=by
 have hd:∀ t,t∈b.reads→Qbe (Q4 s a.args (pv a s)) a.dst v t=Q4 s a.args (pv a s) t:=by
  intro t ht;cases hd:a.dst with
  | none=>rfl
  | some d =>
   have:t≠d:=fun e=>h1 d hd (e ▸ ht);simp [Qbe,Sl.put,this]
 refine ⟨fun t w hg=>?_,fun x hx=>?_⟩
 ·rw [hd t (by simp [COp.reads,hg])];by_cases ht:a.tk=true
  ·exact Qul _ _ _ _ fun y hy hty=>h3 ht t (Qie.2 ⟨y,hy,hty⟩) t w hg rfl
  simp_all [pv,Qd9]
 ·cases x with
  | c w=>simp [Arg.val]
  | t i =>
   have hi:i∈b.reads:=by grind [COp.reads,Qie,Arg.slot]
   simp only [Arg.val];rw [hd i hi];split
   ·rename_i hb;by_cases ht:a.tk=true
    ·exact Qul _ _ _ _ fun y hy hty=>h2 ht hb i (Qie.2 ⟨y,hy,hty⟩) (Qie.2 ⟨_,hx,by simp [Arg.slot]⟩)
    simp_all [pv,Qd9]
   ·exact Q4t _ _ _ (Qbga a s) i
theorem Q8h (s:Sl) {x y:Option Nat} (v u:V) (h:∀ d,x=some d→y≠some d):Qbe (Qbe s x v) y u=Qbe (Qbe s y u) x v:=by
 cases x with
 | none=>rfl
 | some t =>
  cases y with
  | none=>rfl
  | some t'=>exact Qbf8 s v u fun e=>h t rfl (by rw [e])
theorem Qy6 (as:List Arg) (vs:List V) (s:Sl) {x:Option Nat} (v:V) (h:∀ d,x=some d→∀ a∈as,d∉a.slot):Q4 (Qbe s x v) as vs=Qbe (Q4 s as vs) x v:=by
 cases x with
 | none=>rfl
 | some t=>exact Quk as vs s t v (h t rfl)
theorem Qbek {a b:COp} (h:a.slotsApart b=true) (s:Sl) (va vb:V) :
  let s1:=Qbe (Q4 s a.args (pv a s)) a.dst va;let s1':=Qbe (Q4 s b.args (pv b s)) b.dst vb
  Alike b s s1∧Alike a s s1'∧Qbe (Q4 s1 b.args (pv b s1)) b.dst vb=Qbe (Q4 s1' a.args (pv a s1')) a.dst va:=by
 simp only [COp.slotsApart,Bool.and_eq_true,Bool.or_eq_true,Bool.not_eq_true'] at h;obtain ⟨⟨⟨⟨⟨h1,h2⟩,h3⟩,h4⟩,h5⟩,h6⟩:=h;have e1:∀ d,a.dst=some d→d∉b.reads:=fun d hd=>Qnj h1 (by simp [hd]);have e2:∀ d,a.dst=some d→b.dst≠some d:=fun d hd hb=>Qnj h2 (x:=d) (by simp [hd]) (by simp [hb]);have e3:∀ d,b.dst=some d→d∉a.reads:=fun d hd=>Qnj h3 (by simp [hd]);have e4:a.tk=true→b.tk=true→∀ t∈a.argSlots,t∉b.argSlots:=fun ha hb t ht=>by
  grind [Qnj,COp.soft]
 have e5:a.tk=true→∀ t∈a.argSlots,∀ u w,b.guard=some (u,w)→t≠u:=fun ha t ht u w hg=>by
  rcases h5 with h5|h5
  ·rw [ha] at h5;cases h5
  ·have:=Qnj h5 (x:=t) (by simpa [COp.soft,ha] using ht);simpa [hg] using this
 have e6:b.tk=true→∀ t∈b.argSlots,∀ u w,a.guard=some (u,w)→t≠u:=fun hb t ht u w hg=>by
  grind [Qnj,COp.soft]
 have k1:=Q4u e1 e4 e5 s va;have k2:=Q4u e3 (fun hb ha t ht h'=>e4 ha hb t h' ht) e6 s vb;refine ⟨k1,k2,?_⟩;rw [k1.pv,k2.pv];rw [Qy6 _ _ _ _ fun d hd x hx hdx=>e1 d hd (by grind [COp.reads,Qie]),
  Qy6 _ _ _ _ fun d hd x hx hdx=>e3 d hd (by grind [COp.reads,Qie]),
  Q8h _ _ _ e2]
 congr 2;by_cases ha:pv a s=[]
 ·rw [ha,Qd9,Qd9]
 ·by_cases hb:pv b s=[]
  ·rw [hb,Qd9,Qd9]
  ·have hta:a.tk=true:=by
    grind [absurd,pv]
   have htb:b.tk=true:=by
    grind [absurd,pv]
   exact Qwk _ _ _ _ _ fun x hx y hy t ht htx=>e4 hta htb t (Qie.2 ⟨y,hy,ht⟩) (Qie.2 ⟨x,hx,htx⟩)
end Go.Abs
end
section
namespace Go.Abs
open Go
theorem Qbel {n0 κ:Nat} {k:K} {xs:List V} {M M' : Mem} {v:V} (hk:k.eff = .pure) (h:Qi n0 κ k xs M=some (v,M')):M'=M∧∀ M2,Qi n0 κ k xs M2=some (v,M2):=by
 cases k
 case blit sz n z ps =>
  have e:∀ M,Qi n0 κ (.blit sz n z ps) xs M=(if ps.length=xs.length&&decide (0<sz)&&z.length==sz&&(ps.zip xs).all (fun (i,x)=>Qeb x&&x.cells.length==sz&&decide (i<n))
   then (toDs (Qir (rep n z) ((ps.zip xs).map fun (i,x)=>(i*sz,x.cells)))).map fun ds=>(V.d (.lst sz (Qiq sz n ds)),M) else none):=fun M=>by cases xs<;>rfl
  rw [e] at h;split at h<;>try (cases h;done)
  rename_i hc;simp only [Option.map_eq_some_iff,Prod.mk.injEq] at h;obtain ⟨ds,hds,rfl,rfl⟩:=h;exact ⟨rfl,fun M2=>by rw [e,if_pos hc,hds];rfl⟩
 all_goals simp only [K.eff] at hk<;>(try cases hk)<;>unfold Qi at h<;>(split at h<;>try (cases h;done))<;>(try (rename_i heq;cases heq))
 all_goals simp only [Qi]
 all_goals (repeat' split at h)<;>first
  | (cases h;done)
  | (simp only [Option.some.injEq,Prod.mk.injEq] at h;obtain ⟨rfl,rfl⟩:=h;simp_all;done)
  | (simp only [Option.map_eq_some_iff,Prod.mk.injEq] at h;obtain ⟨x,hx,h1,h2⟩:=h;subst h1 h2;simp_all;done)
  | (cases h;exact ⟨rfl,fun M2=>if_pos (by assumption)⟩)
  | (dsimp only at h;split at h<;>cases h;exact ⟨rfl,fun M2=>if_pos (by assumption)⟩)
  | (cases h;subst_vars;exact ⟨rfl,fun M2=>by rw [if_pos rfl,if_neg (by assumption)]⟩)
  | skip
def dmV:V→V
 | .own sz l=>.d (.lst sz l)
 | v=>v
theorem Qbk0 {u:V} (h:u.mv=true):u.dem=dmV u:=by
 rcases Qro h with h|⟨sz,l,rfl⟩
 ·rw [Qwf h];cases u<;>first|rfl|simp [V.dat] at h
 ·rfl
theorem Qbl6 {u u2:V} (h:u.mv=true) (hd:dmV u2=dmV u):u2.mv=true:=by
 cases u2 with
 | own _ _=>rfl
 | _ =>
  rcases Qro h with h|⟨sz,l,rfl⟩
  ·have:dmV u=u:=by cases u<;>first|rfl|simp [V.dat] at h
   grind [dmV,Qy2]
  ·simp only [dmV] at hd
   first|(cases hd;rfl)|(cases hd;done)
def dmE (e:V×V×Nat):V×V×Nat:=(e.1,dmV e.2.1,e.2.2)
theorem Qbbw {kd:MK}:∀ {es:List (V×V×Nat)},kd.all (es.map dmE)=kd.all es
 | []=>rfl
 | e::es=>by
  have:=Qbbw (kd:=kd) (es:=es);simp only [MK.all] at this ⊢;simp only [List.map_cons,List.all_cons,this,dmE]
theorem Q8i {key:V}:∀ {es:List (V×V×Nat)},Qg6 key (es.map dmE)=(Qg6 key es).map fun p=>(p.1,dmV p.2)
 | []=>rfl
 | (k,v,b)::es=>by
  simp only [List.map_cons,dmE,Qg6];split
  ·rfl
  ·rw [Q8i];cases Qg6 key es<;>rfl
theorem Q4v {key:V}:∀ {es:List (V×V×Nat)} {i:Nat} {u:V},Qg6 key es=some (i,u)→∃ e,es[i]? = some e∧e.2.1=u
 | [],i,u,h=>by simp [Qg6] at h
 | (k,v,b)::es,i,u,h=>by
  simp only [Qg6] at h;split at h
  ·cases h;exact ⟨_,rfl,rfl⟩
  ·cases hf:Qg6 key es with
   | none=>rw [hf] at h;cases h
   | some p=>rw [hf] at h;cases h;simpa using Q4v hf
theorem Qbgb {sz:Nat} {l:List (List D)}:∀ {es:List (V×V×Nat)} {i:Nat} {e:V×V×Nat},es[i]? = some e→e.2.1 = .own sz l→(modM e.1 (.d (.lst sz l)) i es).map dmE=es.map dmE
 | [],i,e,h,_=>by simp at h
 | (k,v,b)::es,0,e,h,hv=>by
  grind [modM,dmE,dmV]
 | (k,v,b)::es,i+1,e,h,hv=>by
  simp only [modM,List.map_cons,Qbgb (show es[i]? = some e from by simpa using h) hv]
def Bx.dm:Bx→Bx
 | .cells cs=>.cells (V.dems cs)
 | .mp es c=>.mp (es.map fun e=>(e.1,dmV e.2.1,e.2.2)) c
def Qp2 (p:Nat→Prop) (M M2:Mem):Prop:=∀ k,p k→(M2 k).map Bx.dm=(M k).map Bx.dm
theorem Qbk1 (v:V):v.dem.toD=v.toD:=by cases v<;>rfl
theorem Q4w:∀ vs:List V,toDs (V.dems vs)=toDs vs
 | []=>rfl
 | v::vs=>by simp [V.dems,toDs,Qbk1,Q4w vs]
theorem Qbc7 {M M2:Mem} {k:Nat} {cs:List V} (h:(M2 k).map Bx.dm=(M k).map Bx.dm) (hk:M k=some (.cells cs)):∃ cs',M2 k=some (.cells cs')∧V.dems cs'=V.dems cs:=by
 rw [hk] at h;cases h2:M2 k with
 | none=>rw [h2] at h;simp at h
 | some b =>
  rw [h2] at h;cases b with
  | cells cs'=>exact ⟨cs',rfl,by simpa [Bx.dm] using h⟩
  | mp es=>simp [Bx.dm] at h
theorem Qbl7 {M M2:Mem} {k:Nat} {es:List (V×V×Nat)} {c:Nat} (h:(M2 k).map Bx.dm=(M k).map Bx.dm) (hk:M k=some (.mp es c)):∃ es2,M2 k=some (.mp es2 c)∧es2.map dmE=es.map dmE:=by
 rw [hk] at h;cases h2:M2 k with
 | none=>rw [h2] at h;simp at h
 | some b =>
  rw [h2] at h;cases b with
  | cells cs'=>simp [Bx.dm] at h
  | mp es' c' =>
   simp only [Option.map_some,Bx.dm,Option.some.injEq,Bx.mp.injEq] at h;obtain ⟨h1,rfl⟩:=h;exact ⟨es',rfl,h1⟩
theorem Qjj {p:Nat→Prop} {M M2:Mem} (h:Qp2 p M M2) {sz:Nat} {v:V} (hv:v.on p) {l:List (List D)} (he:Qgn M sz v=some l):Qgn M2 sz v=some l:=by
 by_cases hs:∃ sz' k off len cap,v = .sl sz' k off len cap
 case neg =>
  cases v with
  | sl a b c d e=>grind
  | d x=>cases x<;>exact he
  | _=>exact he
 obtain ⟨sz',k,off,len,cap,rfl⟩:=hs;simp only [Qgn] at he ⊢;split at he<;>try (cases he;done)
 rename_i hsz;rw [if_pos hsz];split at he<;>try (cases he;done)
 rename_i cs hk;obtain ⟨cs',hk',hd⟩:=Qbc7 (h k hv) hk;rw [hk'];have hl:cs'.length=cs.length:=by
  have:=congrArg List.length hd;simpa [Qma] using this
 simp only [hl];split at he<;>try (cases he;done)
 rename_i hle;rw [if_pos hle];have:toDs ((cs'.drop off).take (len*sz))=toDs ((cs.drop off).take (len*sz)):=by
  rw [← Q4w,← Q4w ((cs.drop off).take _)]
  grind [Qma,List.map_take,List.map_drop]
 rw [this];exact he
theorem Q4x {n0 κ:Nat} {k:K} (hm:(∃ kd c z,k = .lookup kd c z)∨k = .lenm) {xs:List V} {M M' : Mem} {v:V} (h:Qi n0 κ k xs M=some (v,M')):M'=M∧∀ p M2,Qp2 p M M2→V.ons p xs→Qi n0 κ k xs M2=some (v,M2):=by
 rcases hm with ⟨kd,c,z,rfl⟩|rfl
 ·obtain ⟨rfl,⟨b,key,es,cl,rfl,hM,h1,h2,h3⟩|⟨key,ents,cl,rfl,h0,h1,h2,h3⟩⟩:=Q13 h
  ·refine ⟨rfl,fun p M2 ha hp=>?_⟩;obtain ⟨es2,this,hes⟩:=Qbl7 (ha b hp.1) hM;have hall:kd.all es2=true:=by rw [← Qbbw,hes,Qbbw];exact h2
   have hfind:(Qg6 key es2).map (fun p=>(p.1,dmV p.2))=(Qg6 key es).map fun p=>(p.1,dmV p.2):=by rw [← Q8i,hes,Q8i]
   rcases h3 with ⟨i,u,f1,f2,rfl⟩|⟨f1,f2,rfl⟩
   ·rw [f1] at hfind;cases hf:Qg6 key es2 with
    | none=>grind
    | some q =>
     obtain ⟨j,u2⟩:=q;rw [hf] at hfind;simp only [Option.map_some,Option.some.injEq,Prod.mk.injEq] at hfind;obtain ⟨rfl,hu⟩:=hfind
     grind [Qbl6,Qbk0,Qi]
   grind [Qg6,Qi]
  ·refine ⟨rfl,fun p M2 ha hp=>?_⟩;rcases h3 with ⟨i,u,f1,f2,rfl⟩|⟨f1,f2,rfl⟩
   all_goals simp_all [Q4v,List.all_eq_true,List.mem_of_getElem?,Qi,Bool.and_self,if_true,Qwf]
 ·obtain ⟨rfl,⟨b,es,c,rfl,hM,rfl⟩|⟨es,c,rfl,rfl⟩⟩:=Q8a h
  ·refine ⟨rfl,fun p M2 ha hp=>?_⟩;obtain ⟨es2,this,hes⟩:=Qbl7 (ha b hp.1) hM;have hl:=congrArg List.length hes
   grind [List.length_map,Qi]
  ·exact ⟨rfl,fun p M2 ha hp=>rfl⟩
theorem Qgo {n0 κ:Nat} {k:K} {xs:List V} {M M' : Mem} {v:V} (hk:k.eff = .read) (h:Qi n0 κ k xs M=some (v,M')):M'=M∧∀ p M2,Qp2 p M M2→V.ons p xs→Qi n0 κ k xs M2=some (v,M2):=by
 cases k<;>simp only [K.eff] at hk<;>(try cases hk)<;>(try exact Q4x (.inl ⟨_,_,_,rfl⟩) h)<;>(try exact Q4x (.inr rfl) h)<;>unfold Qi at h<;>(split at h<;>try (cases h;done))<;>(try (rename_i heq;cases heq))
 ·rename_i ag n _ _ k off;split at h<;>try (cases h;done)
  rename_i cs hk;split at h<;>try (cases h;done)
  rename_i hle;refine ⟨(by
   grind),fun p M2 ha hp=>?_⟩
  obtain ⟨cs',hk',hd⟩:=Qbc7 (ha k hp.1) hk;have hl:cs'.length=cs.length:=by
   have:=congrArg List.length hd;simpa [Qma] using this
  simp only [Qi,hk',hl,if_pos hle];split at h
  ·simp_all [if_true,Option.some.injEq,Prod.mk.injEq,and_true,V.agg.injEq,Qma,List.map_take,List.map_drop]
  ·rename_i hag;simp only [Option.map_eq_some_iff,Prod.mk.injEq] at h;obtain ⟨x,hx,rfl,rfl⟩:=h;simp only [hag];have h3:=congrArg (fun l=>l[off]?) hd
   grind [Qma]
 ·split at h<;>try (cases h;done)
  rename_i hle;simp only [Qi,if_pos hle]
  grind
 ·split at h<;>try (cases h;done)
  ·cases h;exact ⟨rfl,fun p M2 _ _=>rfl⟩
  ·cases h;exact ⟨rfl,fun p M2 _ _=>rfl⟩
  ·cases h;exact ⟨rfl,fun p M2 _ _=>rfl⟩
  ·cases h;exact ⟨rfl,fun p M2 _ _=>rfl⟩
 ·split at h<;>try (cases h;done)
  rename_i ys hys;split at h<;>try (cases h;done)
  rename_i hc;cases h;refine ⟨rfl,fun p M2 ha hp=>?_⟩;simp only [Qi,Qjj ha hp.2.1 hys,if_pos hc]
 ·split at h<;>try (cases h;done)
  rename_i ys hys;split at h<;>try (cases h;done)
  rename_i hc;cases h;refine ⟨rfl,fun p M2 ha hp=>?_⟩;simp only [Qi,Qjj ha hp.2.1 hys,if_pos hc]
 ·split at h<;>try (cases h;done)
  rename_i ys hys;split at h<;>try (cases h;done)
  rename_i hc;cases h;refine ⟨rfl,fun p M2 ha hp=>?_⟩;simp only [Qi,Qjj ha hp.2.1 hys,if_pos hc]
 ·split at h<;>try (cases h;done)
  rename_i l ys hl hys;refine ⟨?_,fun p M2 ha hp=>?_⟩
  ·grind
  ·simp only [Qi,Qjj ha hp.2.1 hys,Qjj ha hp.1 hl]
   grind
theorem Qij {n0 κ:Nat} {k:K} {xs:List V} {M M' : Mem} {v:V} (hk:k.eff = .alloc) (h:Qi n0 κ k xs M=some (v,M')) :
  M κ=none∧∃ b,M'=M.put κ b∧∀ M2,M2 κ=none→Qi n0 κ k xs M2=some (v,M2.put κ b):=by
 cases k<;>simp only [K.eff] at hk<;>(try cases hk)<;>unfold Qi at h<;>(split at h<;>try (cases h;done))<;>(try (rename_i heq;cases heq))
 ·rename_i n _ _ x;split at h<;>try (cases h;done)
  split at h<;>try (cases h;done)
  rename_i hne1 hne2 hc;cases h;simp only [Bool.and_eq_true,decide_eq_true_eq,Option.isNone_iff_eq_none] at hc;refine ⟨hc.2,_,rfl,fun M2 h2=>?_⟩;simp only [Qi,h2,hc.1];cases x<;>first|exact (hne1 rfl).elim|exact (hne2 _ rfl).elim|simp
 ·split at h<;>try (cases h;done)
  rename_i hc;cases h;simp only [Option.isNone_iff_eq_none] at hc;exact ⟨hc,_,rfl,fun M2 h2=>by simp [Qi,h2]⟩
 ·split at h<;>try (cases h;done)
  rename_i hc;cases h;have hc':=hc;simp only [Bool.and_eq_true,Option.isNone_iff_eq_none] at hc';refine ⟨hc'.2,_,rfl,fun M2 h2=>?_⟩;rw [hc'.2] at hc;simp only [Qi,h2];exact if_pos hc
 ·grind
 ·split at h<;>try (cases h;done)
  rename_i hc;cases h;have hc':=hc;simp only [Bool.and_eq_true,Option.isNone_iff_eq_none] at hc';refine ⟨hc'.2,_,rfl,fun M2 h2=>?_⟩
  simp_all [Qi,if_pos]
 all_goals
  split at h<;>try (cases h;done)
  rename_i hc;cases h;simp only [Option.isNone_iff_eq_none] at hc;exact ⟨hc,_,rfl,fun M2 h2=>by simp [Qi,h2]⟩
theorem Qps {n0 κ:Nat} {xs:List V} {M M' : Mem} {v:V} (h:Qi n0 κ .loadT xs M=some (v,M')) :
  ∃ k off cs x,xs=[.ptr k off]∧M k=some (.cells cs)∧cs[off]? = some x∧v=x.top∧M'=M.put k (.cells (cs.set off x.dem)):=by
 unfold Qi at h;split at h<;>(try (rename_i heq;cases heq))<;>try (cases h;done)
 grind
theorem Qs7 {n0 κ k off:Nat} {cs:List V} {x:V} {M:Mem} (hk:M k=some (.cells cs)) (hx:cs[off]? = some x) :
  Qi n0 κ .loadT [.ptr k off] M=some (x.top,M.put k (.cells (cs.set off x.dem))):=by
 simp [Qi,hk,hx]
theorem Qzk {n0 κ n:Nat} {xs:List V} {M M' : Mem} {v:V} (h:Qi n0 κ (.store n) xs M=some (v,M')) :
  ∃ k off x cs,xs=[.ptr k off,x]∧M k=some (.cells cs)∧x.topS.cells.length=n∧off+n≤cs.length∧v = .und∧M'=M.put k (.cells (cs.take off++x.topS.cells++cs.drop (off+n))):=by
 unfold Qi at h;split at h<;>(try (rename_i heq;cases heq))<;>try (cases h;done)
 rename_i k off x;split at h<;>try (cases h;done)
 split at h<;>try (cases h;done)
 rename_i cs hk;split at h<;>try (cases h;done)
 grind
theorem Qum (M:Mem) {k j:Nat} (b c:Bx) (h:k≠j):(M.put k b).put j c=(M.put j c).put k b:=by
 funext i;simp only [Mem.put]
 grind
theorem Qbgc (M:Mem) (k:Nat) (b c:Bx):(M.put k b).put k c=M.put k c:=by
 grind [Mem.put]
theorem Qg0 (M:Mem) (k:Nat) (b:Bx):(M.put k b) k=some b:=by simp [Mem.put]
theorem Qcf (M:Mem) {k j:Nat} (b:Bx) (h:j≠k):(M.put k b) j=M j:=by simp [Mem.put,h]
theorem Q4y {p:Nat→Prop} {M:Mem} {κ:Nat} (b:Bx) (hp:∀ k,p k→(M k).isSome=true) (hκ:M κ=none):Qp2 p M (M.put κ b)∧Qp2 p (M.put κ b) M:=by
 have:∀ k,p k→(M.put κ b) k=M k:=fun k hk=>Qcf _ _ fun e=>by grind
 exact ⟨fun k hk=>by rw [this k hk],fun k hk=>by rw [this k hk]⟩
theorem Qbiz {cs:List V} {off:Nat} {x:V} (hx:cs[off]? = some x):V.dems (cs.set off x.dem)=V.dems cs:=by
 rw [Qma,Qma,List.map_set,Qdz];apply List.ext_getElem?
 grind
theorem Qpe {n0 κ:Nat} {kd:MK} {z:V} {xs:List V} {M M' : Mem} {v:V} (hs:Qi n0 κ (.lookupT kd z) xs M=some (v,M')) :
  ∃ k key b,xs=[.mp k,key]∧M k=some b∧((∃ b',M'=M.put k b'∧(∀ p,Qp2 p M (M.put k b')∧Qp2 p (M.put k b') M)∧∀ M2:Mem,M2 k=some b→Qi n0 κ (.lookupT kd z) xs M2=some (v,M2.put k b')) ∨
   (M'=M∧∀ M2:Mem,M2 k=some b→Qi n0 κ (.lookupT kd z) xs M2=some (v,M2))):=by
 obtain ⟨k,key,es,cl,rfl,h1,h2,h3,h4,h5⟩:=Qzg hs;refine ⟨k,key,_,rfl,h1,?_⟩;rcases h5 with ⟨i,sz,l,e,h6,h7,rfl,rfl⟩|⟨h6,h7,rfl,rfl⟩
 ·refine .inl ⟨_,rfl,fun p=>?_,fun M2 hM2=>by grind [Qi]⟩;obtain ⟨e',he,heu⟩:=Q4v h6;rw [h7] at he;cases he;have hd:=Qbgb h7 heu;have hag:∀ j,((M.put k (.mp (modM e.1 (.d (.lst sz l)) i es) cl)) j).map Bx.dm=(M j).map Bx.dm:=by
   intro j;simp only [Mem.put];split
   ·rename_i hj;subst hj;rw [h1];simp only [Option.map_some,Bx.dm,Option.some.injEq,Bx.mp.injEq,and_true];exact hd
   ·rfl
  exact ⟨fun j _=>hag j,fun j _=>(hag j).symm⟩
 ·exact .inr ⟨rfl,fun M2 hM2=>by simp [Qi,hM2,h2,h3,h4,h6,h7]⟩
theorem Q66 {M:Mem} {k off:Nat} {cs:List V} {x:V} (hk:M k=some (.cells cs)) (hx:cs[off]? = some x) (p:Nat→Prop) :
  Qp2 p M (M.put k (.cells (cs.set off x.dem)))∧Qp2 p (M.put k (.cells (cs.set off x.dem))) M:=by
 have:∀ i,((M.put k (.cells (cs.set off x.dem))) i).map Bx.dm=(M i).map Bx.dm:=by
  grind [Qg0,Bx.dm,Qbiz,Qcf]
 exact ⟨fun i _=>this i,fun i _=>(this i).symm⟩
theorem Qbem {n0 κ k off n k' off' n' : Nat} {ag:Bool} {M:Mem} {cs vs:List V} {v:V} {M1:Mem} (h:Qi n0 κ (.load ag n) [.ptr k off] M=some (v,M1)) (hk:M k'=some (.cells cs)) (hvs:vs.length=n') (hle:off'+n'≤cs.length)
  (hap:Ql8 (.ptr k off) (max n 1) (.ptr k' off') n'=true):Qi n0 κ (.load ag n) [.ptr k off] (M.put k' (.cells (cs.take off'++vs++cs.drop (off'+n'))))=some (v,M.put k' (.cells (cs.take off'++vs++cs.drop (off'+n')))):=by
 by_cases hkk:k=k'
 ·subst hkk;simp only [Qi,hk] at h;split at h<;>try (cases h;done)
  rename_i hle2;have hlen:(cs.take off'++vs++cs.drop (off'+n')).length=cs.length:=by simp;omega
  simp only [Qi,Qg0,hlen,if_pos hle2];have hap' : off+max n 1≤off' ∨ off'+n'≤off:=by simpa [Ql8] using hap
  have hget:∀ i,off≤i→i<off+max n 1→(cs.take off'++vs++cs.drop (off'+n'))[i]? = cs[i]?:=by
   intro i h1 h2;rcases hap' with h3|h3
   ·grind
   ·rw [List.getElem?_append_right (by simp;omega)];simp only [List.length_append,List.length_take,List.getElem?_drop];congr 1;omega
  have htk:((cs.take off'++vs++cs.drop (off'+n')).drop off).take n=(cs.drop off).take n:=by
   apply List.ext_getElem?
   grind
  rw [htk,hget off (Nat.le_refl _) (by omega)]
  grind
 ·obtain ⟨rfl,hr⟩:=Qgo rfl h;exact hr (· = k) _ (fun i hi=>by rw [hi,Qcf _ _ hkk]) ⟨rfl,trivial⟩
theorem Qbgd {n0 κ sz bytes sz' k off len cap:Nat} {x:V} {l ys:List (List D)} {cs:List V} {M M' : Mem} {v:V} (hl:Qgn M sz (.sl sz' k off len cap)=some l) (hy:Qgn M sz x=some ys) (hM:M k=some (.cells cs)) (hag:∀ k' b',Qp2 (· ≠ k') M (M.put k' b'))
  (h:(if ys.length=0 then (if len=0&&cap=0 then some (V.own sz [],M) else if len≤cap then some (.sl sz' k off len cap,M) else none)
   else if len+ys.length≤cap then
    (if decide (0<sz)&&decide (off+(len+ys.length)*sz≤cs.length)&&ys.all (fun y=>y.length==sz) then
     some (.sl sz' k off (len+ys.length) cap,M.put k (.cells (cs.take (off+len*sz)++ys.flatten.map V.d++cs.drop (off+len*sz+ys.length*sz)))) else none)
   else if decide (cap<len+ys.length)&&decide (l.length+ys.length≤lim)&&decide (bytes≤128)&&decide (0<sz) then some (.own sz (l++ys),M) else none)=some (v,M')) :
  ∃ f:Mem→Mem,M'=f M∧(f=id∨∃ b,f=fun M=>M.put k b) ∧
   ∀ k' b',k' ≠ k→x.on (· ≠ k')→Qi n0 κ (.appw sz bytes) [.sl sz' k off len cap,x] (M.put k' b')=some (v,f (M.put k' b')):=by
 have again:∀ k' b',k' ≠ k→x.on (· ≠ k')→Qgn (M.put k' b') sz (.sl sz' k off len cap)=some l∧Qgn (M.put k' b') sz x=some ys∧(M.put k' b') k=some (.cells cs):=fun k' b' hk hx =>
  ⟨Qjj (v:=.sl sz' k off len cap) (hag k' b') (by show k≠k';exact fun e=>hk e.symm) hl,Qjj (hag k' b') hx hy,by grind [Qcf]⟩
 by_cases h0:ys.length=0
 ·rw [if_pos h0] at h;refine ⟨id,?_,.inl rfl,fun k' b' hk hx=>?_⟩
  ·grind
  ·obtain ⟨a1,a2,a3⟩:=again k' b' hk hx;simp only [Qi,a1,a2,a3,if_pos h0]
   grind
 ·rw [if_neg h0] at h;by_cases hr:len+ys.length≤cap
  ·rw [if_pos hr] at h;split at h<;>cases h;rename_i hc;refine ⟨_,rfl,.inr ⟨_,rfl⟩,fun k' b' hk hx=>?_⟩
   simp_all [Qi,if_neg,if_pos]
  ·rw [if_neg hr] at h;split at h<;>cases h;rename_i hc;refine ⟨id,rfl,.inl rfl,fun k' b' hk hx=>?_⟩
   simp_all [Qi,if_neg,if_pos]
theorem Qbc8 {n0 κ sz bytes:Nat} {xs:List V} {M M' : Mem} {v:V} (h:Qi n0 κ (.appw sz bytes) xs M=some (v,M')) :
  ∃ s x,xs=[s,x]∧(∃ ys,Qgn M sz x=some ys)∧∃ k,∃ f:Mem→Mem,M'=f M∧(f=id∨(∃ sz' off len cap,s = .sl sz' k off len cap)∧∃ b,f=fun M=>M.put k b) ∧
   ∀ k' b',((∃ sz' off len cap,s = .sl sz' k off len cap)→k' ≠ k)→x.on (· ≠ k')→Qi n0 κ (.appw sz bytes) xs (M.put k' b')=some (v,f (M.put k' b')):=by
 have hag:∀ k' b',Qp2 (· ≠ k') M (M.put k' b'):=fun k' b' j hj=>by rw [Qcf _ _ hj]
 unfold Qi at h;split at h<;>(try (rename_i heq;cases heq))<;>try (cases h;done)
 case _ =>
  rename_i sz' k off len cap x;split at h<;>try (cases h;done)
  rename_i l ys cs hl hy hM;refine ⟨_,x,rfl,⟨ys,hy⟩,k,?_⟩;obtain ⟨f,h1,h2,h3⟩:=Qbgd (n0:=n0) (κ:=κ) (bytes:=bytes) (v:=v) (M':=M') hl hy hM hag h;exact ⟨f,h1,h2.imp id fun h=>⟨⟨_,_,_,_,rfl⟩,h⟩,fun k' b' hk hx=>h3 k' b' (hk ⟨_,_,_,_,rfl⟩) hx⟩
 case _ =>
  rename_i sz' x;split at h<;>try (cases h;done)
  rename_i ys hy;split at h<;>cases h;rename_i hc;refine ⟨_,x,rfl,⟨ys,hy⟩,0,id,rfl,.inl rfl,fun k' b' _ hx=>?_⟩;simp only [Qi,Qjj (hag k' b') hx hy,if_pos hc];rfl
theorem Qbbx {n0 κ n k off:Nat} {x v:V} {M1 M2 M:Mem} (h:Qi n0 κ (.store n) [.ptr k off,x] M1=some (v,M2)) (hk:M k=M1 k) :
  ∃ b,M2=M1.put k b∧Qi n0 κ (.store n) [.ptr k off,x] M=some (v,M.put k b):=by
 obtain ⟨k',off',x',cs,hx,hM,h1,h2,rfl,rfl⟩:=Qzk h;cases hx;refine ⟨_,rfl,?_⟩;cases x<;>(try (simp [Qi] at h;done))<;>simp only [Qi,hM] at h<;>simp only [Qi,hk,hM]<;>(grind)<;>(grind)
end Go.Abs
end
section
namespace Go.Abs
open Go
set_option maxHeartbeats 1000000
variable {C:Ctx} {n0 pc:Nat}
def Free (C:Ctx) (n0 pc:Nat) (o:COp) (s:Sl) (v:V):Prop:=∀ M nb,Core C n0 pc o s M nb v M nb
inductive Does (C:Ctx) (n0 pc:Nat) (o:COp) (s:Sl) (M:Mem) (nb:Nat) (v:V) (M' : Mem) (nb' : Nat):Prop where
 | free (h:Free C n0 pc o s v) (h1:M'=M) (h2:nb'=nb)
 | op (hw:o.wanted s=some true) (hc:o.kind.isCall=false) (hn:o.kind.isNil=false) (he:o.kind.eff ≠ .pure) (h:Qi n0 (n0+o.dst.getD 0) o.kind (o.xs s) M=some (v,M')) (h2:nb'=nb)
 | call (f:FuncId) (args:List V) (hw:o.wanted s=some true) (hc:o.kind.isCall=true) (hcal:o.callee s=some (f,args)) (hpc:pc≤1∨10≤pc) (h:CallStp C n0 pc o.dst f args M nb v M' nb')
theorem Core.does {o:COp} {s:Sl} {M:Mem} {nb:Nat} {v:V} {M' : Mem} {nb' : Nat} (h:Core C n0 pc o s M nb v M' nb'):Does C n0 pc o s M nb v M' nb':=by
 have h0:=h;unfold Core at h;cases hw:o.wanted s with
 | none=>grind
 | some b =>
  rw [hw] at h;cases b with
  | false =>
   obtain ⟨rfl,rfl,rfl⟩:=h;exact .free (fun M nb=>by simp [Core,hw]) rfl rfl
  | true =>
   simp only at h;cases hcall:o.kind.isCall with
   | true =>
    rw [hcall] at h;simp only [if_true] at h;obtain ⟨f,args,hcal,hcc⟩:=h
    match pc,hcc with
    | 0,hcc=>exact .call f args hw hcall hcal (by omega) hcc
    | 1,hcc=>exact .call f args hw hcall hcal (by omega) hcc
    | n+2,hcc =>
     by_cases hn8:n<8
     ·have hcc:(if n<8 then _ else _):=hcc;rw [if_pos hn8] at hcc;obtain ⟨h1,h2,h3⟩:=hcc;exact .free (fun M nb=>by simp only [Core,hw,hcall,if_true];exact ⟨f,args,hcal,(by show (if n<8 then _ else _);grind)⟩) h2 h3
     ·exact .call f args hw hcall hcal (by omega) hcc
   | false =>
    rw [hcall] at h;simp only [Bool.false_eq_true,if_false] at h;cases hn:o.kind.isNil with
    | true=>rw [hn] at h;simp at h
    | false =>
     rw [hn] at h;simp only [Bool.false_eq_true,if_false] at h;obtain ⟨h1,h2⟩:=h;by_cases he:o.kind.eff = .pure
     ·obtain ⟨k1,k2⟩:=Qbel he h1;exact .free (fun M nb=>by simp [Core,hw,hcall,hn,k2]) k1 h2
     ·exact .op hw hcall hn he h1 h2
theorem Q8j {o:COp} {s:Sl} (hw:o.wanted s=some true) (hc:o.kind.isCall=false) (hn:o.kind.isNil=false) {M:Mem} {nb:Nat} {v:V} {M' : Mem} (h:Qi n0 (n0+o.dst.getD 0) o.kind (o.xs s) M=some (v,M')):Core C n0 pc o s M nb v M' nb:=by
 simp [Core,hw,hc,hn,h]
structure Qbge (n0 nb:Nat) (o:COp) (s:Sl) (M:Mem):Prop where
 xs:V.ons (fun k=>(M k).isSome=true) (o.xs s)
 key:n0+o.dst.getD 0<nb
 low:∀ k,(M k).isSome=true→k<nb
theorem Qsc {a b:COp} {s:Sl} {M M1 M2:Mem} {nb nb1 nb2:Nat} {va vb:V} (hf:Free C n0 pc a s va∧M1=M∧nb1=nb∨Free C n0 pc b s vb∧M2=M1∧nb2=nb1)
  (ha:Core C n0 pc a s M nb va M1 nb1) (hb:Core C n0 pc b s M1 nb1 vb M2 nb2) :
  ∃ M1' nb1',Core C n0 pc b s M nb vb M1' nb1'∧Core C n0 pc a s M1' nb1' va M2 nb2:=by
 rcases hf with ⟨hf,rfl,rfl⟩|⟨hf,rfl,rfl⟩
 ·exact ⟨M2,nb2,hb,hf _ _⟩
 ·exact ⟨M,nb,hf _ _,ha⟩
theorem Qy7 {o:COp} (hc:o.kind.isCall=false):o.eff pc=o.kind.eff∨(o.eff pc = .other):=by
 unfold COp.eff;cases hk:o.kind<;>simp_all [K.eff,K.isCall]<;>(cases o.dst<;>simp)
theorem Qbgf {o:COp} (h:o.eff pc = .alloc):o.kind.eff = .alloc∧o.dst.isSome=true:=by
 grind [COp.eff,absurd]
theorem Q3s {o:COp} (hc:o.kind.isCall=true) (hpc:pc≤1∨10≤pc):o.eff pc = .call∧(pc=1∨10≤pc∧wrs (pc-10) o.dst≠true)∨o.eff pc = .gen∨o.eff pc = .callw∧10≤pc:=by
 unfold COp.eff;have:o.kind.eff = .call:=by cases hk:o.kind<;>simp_all [K.eff,K.isCall]
 grind
theorem Qhd {M W:Mem} (h:∀ k,W k=none):M.patch W=M:=by
 funext k;simp [Mem.patch,h k]
theorem CallStp.over {d:Option Nat} {f:FuncId} {args:List V} {M:Mem} {nb:Nat} {r:V} {M' : Mem} {nb' : Nat} (hpc:pc=1∨10≤pc):CallStp C n0 pc d f args M nb r M' nb' ↔
  ∃ W Δ,(10≤pc∧wrs (pc-10) d=true∨∀ k,W k=none)∧(∀ k,(W k).isSome=true→(M k).isSome=true)∧(∀ k cs,k<n0→W k=some (.cells cs)→V.lt.go n0 cs=true) ∧
   (∀ M2:Mem,(∀ k,(M k).isSome=true→M2 k=M k)→(∀ k,nb≤k→M2 k=none)→C f args M2 nb r ((M2.patch W).over nb Δ) nb')∧M'=(M.patch W).over nb Δ:=by
 rcases hpc with rfl|h10
 ·constructor
  ·rintro ⟨Δ,h1,h2⟩;exact ⟨fun _=>none,Δ,.inr fun _=>rfl,by simp,by simp,by simpa only [Qhd (fun _=>rfl)] using h1,by simpa only [Qhd (fun _=>rfl)] using h2⟩
  ·rintro ⟨W,Δ,h0,_,_,h1,h2⟩;have h0:∀ k,W k=none:=by
    grind
   exact ⟨Δ,by simpa only [Qhd h0] using h1,by simpa only [Qhd h0] using h2⟩
 ·obtain ⟨n,rfl⟩ : ∃ n,pc=n+2:=⟨pc-2,by omega⟩;have hn8:¬ n<8:=by omega
  have he:n+2-10=n-8:=by omega
  show (if n<8 then _ else _)↔_
  grind
theorem Qp3 {o:COp} {s:Sl} {p:Nat} {rest:List Arg} (hargs:o.args = .t p::rest) {k off:Nat} {xs:List V} (h:o.xs s = .ptr k off::xs):s p = .ptr k off:=by
 unfold COp.xs at h;rw [hargs] at h;split at h
 ·grind [Arg.val,List.cons.injEq]
 ·simp only [List.map_cons,Arg.val,V.dems,List.cons.injEq] at h;have:=h.1;cases hv:s p<;>rw [hv] at this<;>simp_all [V.dem]
theorem Qbc9 {o:COp} {s:Sl} {q:Nat} {rest:List Arg} (hargs:o.args = .t q::rest) {sz k off len cap:Nat} {xs:List V} (h:o.xs s = .sl sz k off len cap::xs):s q = .sl sz k off len cap:=by
 unfold COp.xs at h;rw [hargs] at h;split at h
 ·grind [Arg.val,List.cons.injEq]
 ·simp only [List.map_cons,Arg.val,V.dems,List.cons.injEq] at h;have:=h.1;cases hv:s q<;>rw [hv] at this<;>simp_all [V.dem]
theorem Qbgg {a b:COp} {ps:List Pair} (hcm:Qpw pc a b=some ps) {s:Sl} {M M1 M2:Mem} {nb nb1 nb2:Nat} {va vb:V} (hsa:Qbge n0 nb a s M) (hsb:Qbge n0 nb b s M)
  (hap:∀ p∈ps,Ql8 (s p.a) p.n (s p.b) p.m=true) (ha:Core C n0 pc a s M nb va M1 nb1) (hb:Core C n0 pc b s M1 nb1 vb M2 nb2) :
  ∃ M1' nb1',Core C n0 pc b s M nb vb M1' nb1'∧Core C n0 pc a s M1' nb1' va M2 nb2:=by
 have hsl:a.slotsApart b=true:=by
  grind [Qpw]
 unfold Qpw at hcm;rw [if_pos hsl] at hcm;rcases ha.does with ⟨hf,h1,h2⟩|⟨hwa,hca,hna,hea,hra,h2a⟩|⟨f,args,hwa,hca,hcala,hpca,hcc⟩
 ·exact Qsc (.inl ⟨hf,h1,h2⟩) ha hb
 ·rcases hb.does with ⟨hf,h1,h2⟩|⟨hwb,hcb,hnb,heb,hrb,h2b⟩|⟨f,args,hwb,hcb,hcalb,hpcb,hcc⟩
  ·exact Qsc (.inr ⟨hf,h1,h2⟩) ha hb
  ·subst h2a h2b;have fin:∀ M1',Qi n0 (n0+b.dst.getD 0) b.kind (b.xs s) M=some (vb,M1')→Qi n0 (n0+a.dst.getD 0) a.kind (a.xs s) M1'=some (va,M2) →
     ∃ M1' nb1',Core C n0 pc b s M nb2 vb M1' nb1'∧Core C n0 pc a s M1' nb1' va M2 nb2:=fun M1' h1 h2=>⟨M1',nb2,Q8j hwb hcb hnb h1,Q8j hwa hca hna h2⟩
   have pa:a.eff pc ≠ .pure:=by
    grind [Qy7]
   have pb:b.eff pc ≠ .pure:=by
    grind [Qy7]
   have ka:∀ e,a.eff pc=e→e ≠ .other→a.kind.eff=e:=fun e h h'=>by
    grind [Qy7,absurd]
   have kb:∀ e,b.eff pc=e→e ≠ .other→b.kind.eff=e:=fun e h h'=>by
    grind [Qy7,absurd]
   cases ea:a.eff pc<;>cases eb:b.eff pc<;>rw [ea,eb] at hcm<;>(try (simp at hcm;done))<;>(try (exact absurd ea pa))<;>(try (exact absurd eb pb))
   all_goals first
    | (exfalso;have:=ka _ ea (by simp);have hx:=hca;revert this hx;cases a.kind<;>simp [K.eff,K.isCall];done)
    | (exfalso;have:=kb _ eb (by simp);have hx:=hcb;revert this hx;cases b.kind<;>simp [K.eff,K.isCall];done)
    | skip
   ·obtain ⟨rfl,_⟩:=Qgo (ka _ ea (by simp)) hra;obtain ⟨rfl,_⟩:=Qgo (kb _ eb (by simp)) hrb;exact fin _ hrb hra
   ·obtain ⟨rfl,h1⟩:=Qgo (ka _ ea (by simp)) hra;obtain ⟨h2,bx,rfl,h3⟩:=Qij (kb _ eb (by simp)) hrb;exact fin _ hrb (h1 _ _ (Q4y bx (fun _ h=>h) h2).1 hsa.xs)
   ·obtain ⟨rfl,h1⟩:=Qgo (ka _ ea (by simp)) hra;have kt:b.kind = .loadT:=by have:=kb _ eb (by simp);revert this;cases b.kind<;>simp [K.eff]
    rw [kt] at hrb;obtain ⟨k,off,cs,x,hx1,hx2,hx3,hx4,rfl⟩:=Qps hrb;rw [← kt] at hrb;exact fin _ hrb (h1 _ _ (Q66 hx2 hx3 _).1 hsa.xs)
   ·obtain ⟨rfl,h1⟩:=Qgo (ka _ ea (by simp)) hra;obtain ⟨n',kt⟩ : ∃ n',b.kind = .store n':=by have:=kb _ eb (by simp);revert this;cases b.kind<;>simp [K.eff]
    have hrb0:=hrb;rw [kt] at hrb;obtain ⟨k',off',x,cs,hx1,hx2,hx3,hx4,rfl,rfl⟩:=Qzk hrb;simp only at hcm;split at hcm<;>try (cases hcm;done)
    rename_i p n q m hpa hpb;cases hcm;have hap':=hap ⟨p,n,q,m⟩ (by simp);simp only at hap';unfold COp.place at hpb;split at hpb<;>(try (cases hpb;done))
    ·grind
    ·grind
    rename_i n0' q' xb hk hargs;rw [kt] at hk;cases hk;cases hpb;rw [Qp3 hargs hx1] at hap';unfold COp.place at hpa;split at hpa<;>(try (cases hpa;done))
    ·rename_i ag nl p' hka hargsa;cases hpa;refine fin _ (by rw [kt];exact hrb) ?_;have hxa:∃ pv,a.xs s=[pv]:=by
      grind [COp.xs,Arg.val,V.dems]
     obtain ⟨pv,hpv⟩:=hxa;rw [hka,hpv] at hra h1 ⊢;cases pv with
     | ptr k off =>
      rw [Qp3 hargsa hpv] at hap';exact Qbem hra hx2 hx3 hx4 hap'
     | cref cs'=>exact h1 (fun _=>False) _ (fun _ h=>h.elim) (by simp [V.ons,V.on])
     | _=>simp [Qi] at hra
    all_goals grind [COp.eff,K.eff]
   ·obtain ⟨rfl,h1⟩:=Qgo (ka _ ea (by simp)) hra;obtain ⟨kd,z,kt⟩ : ∃ kd z,b.kind = .lookupT kd z:=by have:=kb _ eb (by simp);revert this;cases b.kind<;>simp [K.eff]
    have hrb0:=hrb;rw [kt] at hrb;obtain ⟨k,key,bx,hx1,hx2,⟨b',rfl,hag,_⟩|⟨rfl,_⟩⟩:=Qpe hrb
    ·exact fin _ hrb0 (h1 _ _ (hag _).1 hsa.xs)
    ·exact fin _ hrb0 hra
   ·obtain ⟨h2,bx,rfl,h3⟩:=Qij (ka _ ea (by simp)) hra;obtain ⟨rfl,h1⟩:=Qgo (kb _ eb (by simp)) hrb;exact fin _ (h1 _ _ (Q4y bx (fun _ h=>h) h2).2 hsb.xs) hra
   ·obtain ⟨h2,bx,rfl,h3⟩:=Qij (ka _ ea (by simp)) hra;obtain ⟨h4,by',rfl,h5⟩:=Qij (kb _ eb (by simp)) hrb;have hne:n0+a.dst.getD 0≠n0+b.dst.getD 0:=by
     grind [Qg0]
    simp_all [Qcf,Ne.symm,Qum]
   ·obtain ⟨h2,bx,rfl,h3⟩:=Qij (ka _ ea (by simp)) hra;have kt:b.kind = .loadT:=by have:=kb _ eb (by simp);revert this;cases b.kind<;>simp [K.eff]
    rw [kt] at hrb;obtain ⟨k,off,cs,x,hx1,hx2,hx3,rfl,rfl⟩:=Qps hrb;have hk:(M k).isSome=true:=by have:=hsb.xs;rw [hx1] at this;exact this.1
    have hne:k≠n0+a.dst.getD 0:=fun e=>by grind
    rw [Qcf _ _ hne] at hx2;refine fin _ (by rw [kt,hx1];exact Qs7 hx2 hx3) ?_;rw [Qum _ _ _ (Ne.symm hne)];exact h3 _ (by rw [Qcf _ _ (Ne.symm hne)];exact h2)
   ·obtain ⟨h2,bx,rfl,h3⟩:=Qij (ka _ ea (by simp)) hra;obtain ⟨kd,z,kt⟩ : ∃ kd z,b.kind = .lookupT kd z:=by have:=kb _ eb (by simp);revert this;cases b.kind<;>simp [K.eff]
    rw [kt] at hrb;obtain ⟨k,key,bk,hx1,hx2,hres⟩:=Qpe hrb;have hk:(M k).isSome=true:=by have:=hsb.xs;rw [hx1] at this;exact this.1
    have hne:k≠n0+a.dst.getD 0:=fun e=>by grind
    rw [Qcf _ _ hne] at hx2;rcases hres with ⟨b',rfl,_,hag⟩|⟨rfl,hag⟩
    ·refine fin _ (by rw [kt];exact hag M hx2) ?_;rw [Qum _ _ _ (Ne.symm hne)];exact h3 _ (by rw [Qcf _ _ (Ne.symm hne)];exact h2)
    grind
   ·have kt:a.kind = .loadT:=by have:=ka _ ea (by simp);revert this;cases a.kind<;>simp [K.eff]
    have hra0:=hra;rw [kt] at hra;obtain ⟨k,off,cs,x,hx1,hx2,hx3,hx4,rfl⟩:=Qps hra;obtain ⟨rfl,h1⟩:=Qgo (kb _ eb (by simp)) hrb;exact fin _ (h1 _ _ (Q66 hx2 hx3 _).2 hsb.xs) hra0
   ·have kt:a.kind = .loadT:=by have:=ka _ ea (by simp);revert this;cases a.kind<;>simp [K.eff]
    rw [kt] at hra;obtain ⟨k,off,cs,x,hx1,hx2,hx3,rfl,rfl⟩:=Qps hra;obtain ⟨h2,bx,rfl,h3⟩:=Qij (kb _ eb (by simp)) hrb;have hne:k≠n0+b.dst.getD 0:=fun e=>by rw [e,Qg0] at h2;cases h2
    simp_all [Qcf,Ne.symm,Qum,Qs7]
   ·have kt:a.kind = .loadT:=by have:=ka _ ea (by simp);revert this;cases a.kind<;>simp [K.eff]
    have kt' : b.kind = .loadT:=by have:=kb _ eb (by simp);revert this;cases b.kind<;>simp [K.eff]
    rw [kt] at hra;rw [kt'] at hrb;obtain ⟨k,off,cs,x,hx1,hx2,hx3,rfl,rfl⟩:=Qps hra;obtain ⟨k',off',cs',x',hy1,hy2,hy3,rfl,rfl⟩:=Qps hrb;simp only at hcm;split at hcm<;>try (cases hcm;done)
    rename_i p n q m hpa hpb;cases hcm;have hap':=hap ⟨p,n,q,m⟩ (by simp);simp only at hap';obtain ⟨rfl,hsp⟩ : n=1∧s p = .ptr k off:=by
     unfold COp.place at hpa;split at hpa<;>(try (cases hpa;done))
     ·grind
     ·rename_i hargs;cases hpa;exact ⟨rfl,Qp3 hargs hx1⟩
     grind
    obtain ⟨rfl,hsq⟩ : m=1∧s q = .ptr k' off':=by
     unfold COp.place at hpb;split at hpb<;>(try (cases hpb;done))
     ·grind
     ·rename_i hargs;cases hpb;exact ⟨rfl,Qp3 hargs hy1⟩
     grind
    rw [hsp,hsq] at hap';by_cases hkk:k'=k
    ·grind [Ql8,Qg0,List.getElem?_set_ne,Qs7,Qbgc,List.set_comm]
    ·rw [Qcf _ _ hkk] at hy2;refine fin (M.put k' (.cells (cs'.set off' x'.dem))) (by grind [Qs7]) ?_;rw [kt,hx1,Qum _ _ _ (Ne.symm hkk)];exact Qs7 (by rw [Qcf _ _ (Ne.symm hkk)];exact hx2) hx3
   ·obtain ⟨kd,z,kt⟩ : ∃ kd z,a.kind = .lookupT kd z:=by have:=ka _ ea (by simp);revert this;cases a.kind<;>simp [K.eff]
    have hra0:=hra;rw [kt] at hra;obtain ⟨rfl,h1⟩:=Qgo (kb _ eb (by simp)) hrb;obtain ⟨k,key,bx,hx1,hx2,⟨b',rfl,hag,_⟩|⟨rfl,_⟩⟩:=Qpe hra
    ·exact fin _ (h1 _ _ (hag _).2 hsb.xs) hra0
    ·exact fin _ hrb hra0
   ·obtain ⟨kd,z,kt⟩ : ∃ kd z,a.kind = .lookupT kd z:=by have:=ka _ ea (by simp);revert this;cases a.kind<;>simp [K.eff]
    rw [kt] at hra;obtain ⟨k,key,bk,hx1,hx2,hres⟩:=Qpe hra;obtain ⟨h2,bx,rfl,h3⟩:=Qij (kb _ eb (by simp)) hrb;rcases hres with ⟨b',rfl,_,hag⟩|⟨rfl,hag⟩
    ·have hne:k≠n0+b.dst.getD 0:=fun e=>by rw [e,Qg0] at h2;cases h2
     simp_all [Qcf,Ne.symm,Qum]
    grind [Qcf]
   ·obtain ⟨sz,bytes,kt⟩ : ∃ sz bytes,a.kind = .appw sz bytes:=by have:=ka _ ea (by simp);revert this;cases a.kind<;>simp [K.eff]
    have hra0:=hra;rw [kt] at hra;obtain ⟨s1,x,hx1,_,k,f,rfl,hf,hmv⟩:=Qbc8 hra;obtain ⟨rfl,h1⟩:=Qgo (kb _ eb (by simp)) hrb;simp only at hcm;split at hcm<;>try (cases hcm;done)
    rename_i q xx p m hargs hpb;cases hcm;have hap1:=hap ⟨q,0,p,m⟩ (by simp);simp only at hap1;rcases hf with rfl|⟨⟨sz',off,len,cap,rfl⟩,bx,rfl⟩
    ·exact fin _ hrb hra0
    ·rw [Qbc9 hargs hx1] at hap1;unfold COp.place at hpb;split at hpb<;>(try (cases hpb;done))
     ·rename_i ag nl p' hkb hargsb;cases hpb;have hxb:∃ pv,b.xs s=[pv]:=by
       grind [COp.xs,Arg.val,V.dems]
      obtain ⟨pv,hpv⟩:=hxb;cases pv with
      | ptr k' off' =>
       rw [Qp3 hargsb hpv] at hap1;have hne:k' ≠ k:=by simpa only [Ql8,decide_eq_true_eq] using hap1
       exact fin _ (h1 (fun j=>j=k') M (fun j hj=>by grind [Bx.dm,Qcf]) (by rw [hpv];exact ⟨rfl,trivial⟩)) hra0
      | cref cs'=>exact fin _ (h1 (fun _=>False) M (fun _ h=>h.elim) (by rw [hpv];simp [V.ons,V.on])) hra0
      | _=>rw [hkb,hpv] at hrb;simp [Qi] at hrb
     all_goals grind [COp.eff,K.eff]
   ·obtain ⟨sz,bytes,kt⟩ : ∃ sz bytes,a.kind = .appw sz bytes:=by have:=ka _ ea (by simp);revert this;cases a.kind<;>simp [K.eff]
    obtain ⟨n',kt'⟩ : ∃ n',b.kind = .store n':=by have:=kb _ eb (by simp);revert this;cases b.kind<;>simp [K.eff]
    rw [kt] at hra;obtain ⟨s1,x,hx1,⟨ys,hys⟩,k,f,rfl,hf,hmv⟩:=Qbc8 hra;rw [kt'] at hrb;obtain ⟨k',off',y,cs,hy1,hy2,_⟩:=Qzk hrb;simp only at hcm;split at hcm<;>try (cases hcm;done)
    rename_i q xx p m hargs hpb;cases hcm;have hap1:=hap ⟨q,0,p,m⟩ (by simp);have hap2:=hap ⟨xx,0,p,m⟩ (by simp);simp only at hap1 hap2;unfold COp.place at hpb;split at hpb<;>(try (cases hpb;done))
    ·grind
    ·grind
    rename_i n0' q' xb hk hargsb;cases hpb;rw [Qp3 hargsb hy1] at hap2;have hne:(∃ sz' off len cap,s1 = .sl sz' k off len cap)→k' ≠ k:=by
     rintro ⟨sz',off,len,cap,rfl⟩;rw [Qbc9 hargs hx1,Qp3 hargsb hy1] at hap1;simpa only [Ql8,decide_eq_true_eq] using hap1
    have hxon:x.on (· ≠ k'):=by
     have hx2:x.dem=(s xx).dem:=by
      grind [COp.xs,Arg.val,List.cons.injEq,V.dems,Qdz]
     cases x<;>simp only [Qgn] at hys<;>(try (cases hys;done))<;>(try trivial);rename_i sz2 j o2 l2 c2;have:s xx = .sl sz2 j o2 l2 c2:=by
      cases hv:s xx<;>rw [hv] at hx2<;>simp_all [V.dem]
     rw [this] at hap2;simp only [Ql8,decide_eq_true_eq] at hap2;exact fun e=>hap2 e.symm
    rw [hy1] at hrb;have hMk:M k'=(f M) k':=by
     rcases hf with rfl|⟨hsl,bx,rfl⟩
     all_goals simp_all [Qcf]
    obtain ⟨bx,rfl,hst⟩:=Qbbx hrb hMk;refine fin (M.put k' bx) (by rw [kt',hy1];exact hst) ?_;rw [kt,hmv k' bx hne hxon];congr 2;rcases hf with rfl|⟨hsl,by',rfl⟩
    all_goals grind [Qum]
  ·rcases Q3s hcb hpcb with ⟨eb,hp1⟩|eb|⟨eb,_⟩
   ·cases ea:a.eff pc<;>rw [ea,eb] at hcm<;>(try (simp at hcm;done))
    ·grind [Qy7,absurd]
    ·have ka:a.kind.eff = .read:=by grind [Qy7]
     obtain ⟨rfl,h1⟩:=Qgo ka hra;subst h2a;have hcc0:=hcc;obtain ⟨W,Δ,h0,hW,hW2,hcc1,rfl⟩:=(CallStp.over (hp1.imp id (·.1))).1 hcc;have h0:∀ k,W k=none:=by
      grind
     refine ⟨(M1.patch W).over nb1 Δ,nb2,?_,?_⟩
     ·grind
     ·simp only [Core,hwa,hca,hna,Bool.false_eq_true,if_false];exact ⟨h1 (fun k=>(M1 k).isSome=true) _ (fun k hk=>by simp only [Mem.over,hsa.low k hk,if_true,Qhd h0]) hsa.xs,trivial⟩
   all_goals grind [Qy7,absurd]
 ·rcases hb.does with ⟨hf,h1,h2⟩|⟨hwb,hcb,hnb,heb,hrb,h2b⟩|⟨f',args',hwb,hcb,hcalb,hpcb,hcc'⟩
  ·exact Qsc (.inr ⟨hf,h1,h2⟩) ha hb
  ·subst h2b;have over:(pc=1∨10≤pc)→b.eff pc = .alloc→∃ M1' nb1',Core C n0 pc b s M nb vb M1' nb1'∧Core C n0 pc a s M1' nb1' va M2 nb2:=by
    intro hp1 eb;obtain ⟨W,Δ,h0,hW,hW2,hcc1,rfl⟩:=(CallStp.over hp1).1 hcc;obtain ⟨kb,_⟩:=Qbgf eb;obtain ⟨h1,bx,rfl,h3⟩:=Qij kb hrb;have hlt:n0+b.dst.getD 0<nb:=hsb.key;have hMW:W (n0+b.dst.getD 0)=none∧M (n0+b.dst.getD 0)=none:=by
     simp only [Mem.over,hlt,if_true,Mem.patch] at h1
     grind
    obtain ⟨hWn,hM⟩:=hMW;refine ⟨_,nb,Q8j hwb hcb hnb (h3 M hM),?_⟩;simp only [Core,hwa,hca,if_true];refine ⟨f,args,hcala,(CallStp.over hp1).2 ⟨W,Δ,h0,fun k hk=>?_,hW2,fun M2 h4 h5=>hcc1 M2 (fun k hk=>?_) h5,?_⟩⟩
    ·grind [Mem.put]
    ·have hne:k≠n0+b.dst.getD 0:=fun e=>by rw [e,hM] at hk;cases hk
     grind [Qcf]
    ·funext k;simp only [Mem.over,Mem.put,Mem.patch];by_cases hk:k=n0+b.dst.getD 0
     ·subst hk;simp [hlt,hWn]
     ·simp [hk]
   rcases Q3s hca hpca with ⟨ea,hp1⟩|ea|⟨ea,hp1⟩
   ·cases eb:b.eff pc<;>(try (rw [ea,eb] at hcm;simp at hcm;done))
    ·rcases Qy7 (pc:=pc) hcb with h|h<;>rw [eb] at h
     ·exact absurd h.symm heb
     ·cases h
    ·have kb:b.kind.eff = .read:=by rcases Qy7 (pc:=pc) hcb with h|h<;>rw [eb] at h;exact h.symm;cases h
     obtain ⟨rfl,h1⟩:=Qgo kb hrb;obtain ⟨W,Δ,h0,hW,hW2,hcc1,rfl⟩:=(CallStp.over (hp1.imp id (·.1))).1 hcc;have h0:∀ k,W k=none:=by
      rcases h0 with ⟨h,h'⟩|h
      ·rcases hp1 with h2|⟨_,h2⟩
       ·omega
       ·exact absurd h' h2
      ·exact h
     refine ⟨M,nb,Q8j hwb hcb hnb (h1 (fun k=>(M k).isSome=true) _ (fun k hk=>by simp only [Mem.over,hsb.low k hk,if_true,Qhd h0]) hsb.xs),ha⟩
    ·exact over (hp1.imp id (·.1)) eb
   all_goals grind [Qy7,absurd]
  ·rcases Q3s hca hpca with ⟨ea,_⟩|ea|⟨ea,_⟩<;>rcases Q3s hcb hpcb with ⟨eb,_⟩|eb|⟨eb,_⟩<;>rw [ea,eb] at hcm<;>simp at hcm
end Go.Abs
end
section
namespace Go.Abs
open Go
def Q8k (C:Ctx) (n0 pc:Nat):List COp→St→St→Prop
 | [],σ,σ'=>σ'=σ
 | o::os,σ,σ'=>∃ σ1,Stp C n0 pc o σ σ1∧Q8k C n0 pc os σ1 σ'
theorem Q9v {C:Ctx} {n0 pc:Nat}:∀ {os:List COp} {σ:St} {Q:St→Prop},(∀ o∈os,o.kind.isNil=false)→Q9b C n0 pc os σ Q→∃ σ',Q8k C n0 pc os σ σ'∧Q σ'
 | [],σ,Q,_,h=>⟨σ,rfl,h⟩
 | o::os,σ,Q,hn,h=>by
  obtain ⟨σ1,h1,h2⟩:=Qbkz (hn o (by simp)) h;obtain ⟨σ',h3,h4⟩:=Q9v (fun o ho=>hn o (by simp [ho])) h2;exact ⟨σ',⟨σ1,h1,h3⟩,h4⟩
theorem Alike.symm {o:COp} {s s' : Sl} (h:Alike o s s'):Alike o s' s:=by
 refine ⟨fun t w hg=>(h.1 t w hg).symm,fun a ha=>?_⟩;have:=h.2 a ha
 grind
theorem Q67 (x y:V) (n m:Nat):Ql8 x.dem n y m=Ql8 x n y m:=by
 cases x<;>first|rfl|(cases y<;>rfl)
theorem Q4z (x y:V) (n m:Nat):Ql8 x n y.dem m=Ql8 x n y m:=by
 cases y<;>first|rfl|(cases x<;>rfl)
theorem Q9w {x x' y y' : V} {n m:Nat} (hx:x'.dem=x.dem) (hy:y'.dem=y.dem):Ql8 x' n y' m=Ql8 x n y m:=by
 rw [← Q67 x',← Q67 x,hx,← Q4z _ y',← Q4z _ y,hy]
theorem Qbk2 {C:Ctx} {n0 pc:Nat} {o:COp} {σ σ' : St} (h:Stp C n0 pc o σ σ') {t:Nat} (ht:o.dst≠some t):(σ'.s t).dem=(σ.s t).dem:=by
 obtain ⟨v,_,hs⟩:=h;rw [hs];have:Qbe (Q4 σ.s o.args (pv o σ.s)) o.dst v t=Q4 σ.s o.args (pv o σ.s) t:=by
  cases hd:o.dst with
  | none=>rfl
  | some d =>
   have:t≠d:=fun e=>ht (by rw [hd,e]);simp [Qbe,Sl.put,this]
 grind [Q4t,Qbga]
theorem Q9x {C:Ctx} {n0 pc:Nat}:∀ {os:List COp} {σ σ' : St},Q8k C n0 pc os σ σ'→∀ {t:Nat},(∀ o∈os,o.dst≠some t)→(σ'.s t).dem=(σ.s t).dem
 | [],σ,σ',h,t,_=>by rw [show σ'=σ from h]
 | o::os,σ,σ',⟨σ1,h1,h2⟩,t,ht=>(Q9x h2 fun o ho=>ht o (by simp [ho])).trans (Qbk2 h1 (ht o (by simp)))
theorem Qbi0 {C:Ctx} {n0 pc:Nat} {a b:COp} {ps:List Pair} (hcm:Qpw pc a b=some ps) {σ σ1 σ2:St} (hsa:Qbge n0 σ.nb a σ.s σ.M) (hsb:Qbge n0 σ.nb b σ.s σ.M)
  (hap:∀ p∈ps,Ql8 (σ.s p.a) p.n (σ.s p.b) p.m=true) (ha:Stp C n0 pc a σ σ1) (hb:Stp C n0 pc b σ1 σ2):∃ σ1',Stp C n0 pc b σ σ1'∧Stp C n0 pc a σ1' σ2:=by
 have hsl:a.slotsApart b=true:=by
  grind [Qpw]
 obtain ⟨va,hca,hs1⟩:=ha;obtain ⟨vb,hcb,hs2⟩:=hb;obtain ⟨k1,k2,k3⟩:=Qbek hsl σ.s va vb;rw [← hs1] at k1 k3;obtain ⟨M1',nb1',h1,h2⟩:=Qbgg hcm hsa hsb hap hca (k1.symm.core hcb);refine ⟨⟨_,M1',nb1'⟩,⟨vb,h1,rfl⟩,va,k2.core h2,?_⟩;rw [hs2];exact k3
section
variable {P:Program} {C:Ctx} {n0 nt:Nat} {g0:G} {w0:World}
def Real (n0 nt:Nat) (g0:G) (w0:World) (σ:St):Prop:=∃ a w g,SR n0 nt g0 w0 σ a w g
theorem Qbk3 {o:Oper} {a:Act} {w:World} {KK:Act→World→Prop} (h:o.wp P a w KK fun _ _ _=>False):∃ a' w',KK a' w':=by
 unfold Oper.wp at h;generalize (execOp a.eval o).run P w=r at h;cases r with
 | ok n w' =>
  cases n with
  | value v=>exact ⟨_,_,h⟩
  | skip=>exact ⟨_,_,h⟩
  | defer d=>exact ⟨_,_,h⟩
  | enter f args =>
   obtain ⟨e,w2,fr,h1,_⟩:=(h:Calls P f args w' _) [];cases e with
   | returned v=>exact ⟨_,_,h1⟩
   | panicked c=>exact h1.elim
   | outgrown=>obtain ⟨_,_,h⟩:=h1;exact h.elim
  | row row args =>
   obtain ⟨v,w2,h1,_⟩:=(h:Rows P row args w' _) (Frame.enter P 0 #[] .normal) [];exact ⟨_,_,h1⟩
  | _=>exact h.elim
 | halt x w'=>cases x<;>exact h.elim
theorem Real.step (hC:Qbf5 P C) {T:Tk} {ops:Array Oper} {o:Oper} {c:COp} (hc:Qji P T nt ops o=some c) {pc:Nat} {σ σ' : St} (h:Real n0 nt g0 w0 σ) (hs:Stp C n0 pc c σ σ'):Real n0 nt g0 w0 σ':=by
 obtain ⟨a,w,g,hsr⟩:=h;have:=Q8g (QQ:=fun _ _ _=>False) hC hc hsr (Qbf7 (Q:=(· = σ')) hs rfl) (KK:=fun _ _=>Real n0 nt g0 w0 σ') fun σ2 a' w' g' hq hs'=>by subst hq;exact ⟨_,_,_,hs'⟩
 grind [Qbk3]
theorem Q25 {T:Tk} {ops:Array Oper} {o:Oper} {c:COp} (hc:Qji P T nt ops o=some c) {σ:St} (h:Real n0 nt g0 w0 σ):Qbge n0 σ.nb c σ.s σ.M:=by
 obtain ⟨a,w,g,hsr⟩:=h;obtain ⟨hdst,hd⟩:=Q65 hc;have hc':=hc;unfold Qji at hc;split at hc<;>try (cases hc;done)
 rename_i k as tk hk;split at hc<;>try (cases hc;done)
 rename_i hcond;simp only [Bool.and_eq_true,decide_eq_true_eq,List.all_eq_true] at hcond;have hargs:c.args=as:=by
  grind
 have hons:V.ons (There σ.M) (c.args.map (·.val σ.s)):=by
  rw [Qih];intro v hv;obtain ⟨x,hx,rfl⟩:=List.mem_map.1 hv;cases x with
  | t i=>exact hsr.onS i
  | c v =>
   have h1:=hcond.2 _ (hargs ▸ hx);simp only [Qblw] at h1;exact Qfx (fun k hk=>absurd hk (Nat.not_lt_zero k)) v (Qbii v h1)
 refine ⟨?_,?_,fun k hk=>?_⟩
 ·show V.ons (There σ.M) _
  grind [COp.xs,ons_dems]
 ·have ht:=hsr.top;cases hd' : c.dst with
  | none=>grind
  | some d=>grind
 ·obtain ⟨b,hb⟩:=Option.isSome_iff_exists.1 hk;exact (hsr.mem.box k b hb).1
theorem Qben (hC:Qbf5 P C) {T:Tk} {ops:Array Oper} {pc:Nat} {b:COp} {post:List COp} {σe:St} (hb:∃ o,Qji P T nt ops o=some b) :
  ∀ (pre:List COp) (σ:St),(∀ c∈pre,∃ o,Qji P T nt ops o=some c) →
  (∀ (pre1:List COp) a pre2,pre=pre1++a::pre2→∃ ps,Qpw pc a b=some ps∧∀ p∈ps,Ql8 (σe.s p.a) p.n (σe.s p.b) p.m=true∧∀ c∈(a::pre2)++b::post,c.dst≠some p.a∧c.dst≠some p.b) →
  Real n0 nt g0 w0 σ→Q8k C n0 pc (pre++b::post) σ σe→Q8k C n0 pc (b::(pre++post)) σ σe:=by
 intro pre
 induction pre with
 | nil=>grind
 | cons a pre ih =>
  intro σ hc hcm hr h;obtain ⟨σ1,h1,h2⟩:=h;obtain ⟨o,ho⟩:=hc a (by simp);obtain ⟨σ2,h3,h4⟩:=ih σ1 (fun c hc'=>hc c (by simp [hc'])) (fun pre1 a' pre2 e=>hcm (a::pre1) a' pre2 (by rw [e];rfl)) (hr.step hC ho h1) h2;obtain ⟨ps,hp1,hp2⟩:=hcm [] a pre rfl;obtain ⟨ob,hob⟩:=hb;have hap:∀ p∈ps,Ql8 (σ.s p.a) p.n (σ.s p.b) p.m=true:=by
   intro p hp;obtain ⟨q1,q2⟩:=hp2 p hp;have hch:Q8k C n0 pc (a::(pre++b::post)) σ σe:=⟨σ1,h1,h2⟩
   grind [Q9w,Q9x]
  obtain ⟨σ1',k1,k2⟩:=Qbi0 hp1 (Q25 ho hr) (Q25 hob hr) hap h1 h3;exact ⟨σ1',k1,σ2,k2,h4⟩
theorem Qbda {ops:List Oper} (L:Nat→Prop) (hL:∀ (j:Nat) o,ops[j]? = some o→L j→∀ e∈Qu7 o,L e) :
  ∀ (rest:List Oper) (acc:List Nat),acc.length+rest.length=ops.length→rest=ops.drop acc.length →
  (∀ (j:Nat) l o,acc[j]? = some l→ops[j]? = some o→(∀ e∈Qu7 o,L e)→∀ x,l.testBit x=true→L x) →
  ∀ (j:Nat) l o,(rest.foldl (fun acc o=>acc++[(Qu7 o).foldl (fun l e=>l ||| 2 ^ e ||| acc.getD e 0) 0]) acc)[j]? = some l→ops[j]? = some o→(∀ e∈Qu7 o,L e)→∀ x,l.testBit x=true→L x
 | [],acc,_,_,hI=>hI
 | o::rest,acc,hlen,hrest,hI=>by
  simp only [List.foldl_cons];have hget:ops[acc.length]? = some o:=by
   have:(ops.drop acc.length)[0]? = some o:=by rw [← hrest];rfl
   simpa using this
  refine Qbda L hL rest _ (by simp at hlen ⊢;omega) ?_ ?_
  ·have:rest=(ops.drop acc.length).drop 1:=by rw [← hrest];rfl
   simp_all
  ·intro j l o' hj ho' hb;by_cases hlt:j<acc.length
   ·grind
   ·have hjl:j=acc.length:=by
     grind
    subst hjl;rw [List.getElem?_append_right (Nat.le_refl _),Nat.sub_self,List.getElem?_cons_zero,Option.some.injEq] at hj;rw [hget] at ho';cases ho';subst hj;have:∀ (es:List Nat) (l0:Nat),(∀ e∈es,L e)→(∀ x,l0.testBit x=true→L x)→∀ x,(es.foldl (fun l e=>l ||| 2 ^ e ||| acc.getD e 0) l0).testBit x=true→L x:=by
     intro es
     induction es with
     | nil=>intro l0 _ h;exact h
     | cons e es ih =>
      intro l0 h1 h2;simp only [List.foldl_cons];refine ih _ (fun e' he'=>h1 e' (by simp [he'])) fun x hx=>?_
      grind
    grind
theorem Qbgh {ops:List Oper} (L:Nat→Prop) (hL:∀ (j:Nat) o,ops[j]? = some o→L j→∀ e∈Qu7 o,L e) {j:Nat} {o:Oper} (ho:ops[j]? = some o) (hb:∀ e∈Qu7 o,L e):∀ x,((ancs ops).getD j 0).testBit x=true→L x:=by
 intro x hx;cases hj:(ancs ops)[j]? with
 | none=>grind
 | some l =>
  simp [List.getD,hj] at hx;exact Qbda L hL ops [] (by simp) (by simp) (by simp) j l o hj ho hb x hx
theorem Q3t {α:Type} {l:List α} {i:Nat} {x:α}:(i,x)∈enum l↔l[i]? = some x:=by
 simp_all [enum,List.mem_iff_getElem?,List.getElem?_zip_eq_some,List.getElem?_eq_some_iff]
theorem Q9y {pc:Nat} {an:List Nat} {ops:List COp} {l:List Pair} (h:Qub pc an ops=some l) {i j:Nat} {a b:COp} (hi:ops[i]? = some a) (hj:ops[j]? = some b) (hij:i<j) (han:(an.getD j 0).testBit i=false) :
  ∃ m,Qpw pc a b=some m∧m.all (Qx0 ops i (an.getD j 0))=true∧∀ p∈m,p∈l:=by
 unfold Qub at h;let inner:=fun (q:Nat×COp) (acc:Option (List Pair)) (r:Nat×COp)=>(match acc with
    | none=>none
    | some l=>if decide (q.1<r.1) && !(an.getD r.1 0).testBit q.1 then
      match Qpw pc q.2 r.2 with
      | some m=>if m.all (Qx0 ops q.1 (an.getD r.1 0)) then some (l++m) else none
      | none=>none
     else some l:Option (List Pair))
 have hinner:∀ (q:Nat×COp) (rs:List (Nat×COp)) (acc:Option (List Pair)) (l:List Pair),rs.foldl (inner q) acc=some l→∃ l0,acc=some l0∧(∀ p∈l0,p∈l) ∧
   ∀ r∈rs,q.1<r.1→(an.getD r.1 0).testBit q.1=false→∃ m,Qpw pc q.2 r.2=some m∧m.all (Qx0 ops q.1 (an.getD r.1 0))=true∧∀ p∈m,p∈l:=by
  intro q rs
  induction rs with
  | nil=>grind
  | cons r rs ih =>
   intro acc l h;simp only [List.foldl_cons] at h;obtain ⟨l1,h1,h2,h3⟩:=ih _ l h;cases acc with
   | none=>simp [inner] at h1
   | some l0 =>
    grind
 have houter:∀ (qs rs:List (Nat×COp)) (acc:Option (List Pair)) (l:List Pair),qs.foldl (fun acc q=>rs.foldl (inner q) acc) acc=some l→∃ l0,acc=some l0∧(∀ p∈l0,p∈l) ∧
   ∀ q∈qs,∀ r∈rs,q.1<r.1→(an.getD r.1 0).testBit q.1=false→∃ m,Qpw pc q.2 r.2=some m∧m.all (Qx0 ops q.1 (an.getD r.1 0))=true∧∀ p∈m,p∈l:=by
  intro qs rs
  induction qs with
  | nil=>grind
  | cons q qs ih =>
   intro acc l h;simp only [List.foldl_cons] at h;obtain ⟨l1,h1,h2,h3⟩:=ih _ l h;obtain ⟨l0,h4,h5,h6⟩:=hinner q rs acc l1 h1
   grind
 obtain ⟨_,_,_,h3⟩:=houter (enum ops) (enum ops) (some []) l h;exact h3 (i,a) (Q3t.2 hi) (j,b) (Q3t.2 hj) hij han
end
end Go.Abs
end
section
namespace Go.Abs
open Go
instance:Inhabited COp:=⟨{ dst:=none,kind:=.mov,args:=[],tk:=false,guard:=none }⟩
theorem Qbeo (e:Edge):Region.binds .any e=Q3o e:=by
 grind [Go.Region.binds,Q3o]
def left (n:Nat) (listed:Array Bool):List Nat:=(List.range n).filter fun i=>!listed.getD i true
theorem Q3u {n:Nat} {listed:Array Bool} (hs:listed.size=n) {i:Nat}:i∈left n listed↔i<n∧listed.getD i false=false:=by
 unfold left
 grind
theorem Q9z {l:Array Bool} {x:Nat}:l.getD x false=true↔l[x]? = some true:=by
 rw [Array.getD_eq_getD_getElem?];cases l[x]? <;> simp
theorem Q40 (n:Nat) (listed:Array Bool):(left n listed).Pairwise (· < ·):=List.pairwise_lt_range.filter _
theorem Qbgi {n:Nat} {listed:Array Bool} (hs:listed.size=n) {i:Nat} {l1 l2:List Nat} (h:left n listed=l1++i::l2):left n (listed.setIfInBounds i true)=l1++l2:=by
 have h1:left n (listed.setIfInBounds i true)=(left n listed).filter (· ≠ i):=by
  unfold left;rw [List.filter_filter];apply List.filter_congr;intro j hj;have hj' : j<listed.size:=by simp at hj;omega
  by_cases e:j=i
  all_goals simp_all [Array.getD,Array.getElem_setIfInBounds,Ne.symm]
 have hp:=Q40 n listed;rw [h] at hp;rw [h1,h,List.filter_append,List.filter_cons]
 grind [List.pairwise_cons,List.filter_eq_self]
mutual
theorem Qbby:∀ v:V,v.on fun _=>True
 | .ptr ..=>trivial
 | .sl ..=>trivial
 | .mp _=>trivial
 | .agg cs=>ons_true cs
 | .tup cs=>ons_true cs
 | .clo _ cs=>ons_true cs
 | .und=>trivial
 | .d _=>trivial
 | .own ..=>trivial
 | .ownT ..=>trivial
 | .nilp=>trivial
 | .f _=>trivial
 | .nils _=>trivial
 | .cref _=>trivial
theorem ons_true:∀ vs:List V,V.ons (fun _=>True) vs
 | []=>trivial
 | v::vs=>⟨Qbby v,ons_true vs⟩
end
section
variable {P:Program} {C:Ctx} {n0 nt:Nat} {g0:G} {w0:World}
theorem Qbep (hC:Qbf5 P C) {T:Tk} {ops:Array Oper} {cs:List COp} (hcs:ops.toList.mapM (Qji P T nt ops)=some cs) {id pc:Nat} {ps:List Pair}
  (hup:Qbfa ops.toList=true) (hm:P.follows .mixedOrders=true) (hnil:∀ c∈cs,c.kind.isNil=false) (hps:Qub pc (ancs ops.toList) cs=some ps) {Q:St→Prop} {QQ:Exit→Act→World→Prop}
  (hQ:∀ σ' a' w' g',Q σ'→SR n0 nt g0 w0 σ' a' w' g'→QQ .normal a' w') {σ:St} {a:Act} {w:World} {g:G} (h:SR n0 nt g0 w0 σ a w g)
  (hr:Q9b C n0 pc cs σ fun σ'=>(ps.all fun p=>Ql8 (σ'.s p.a) p.n (σ'.s p.b) p.m)=true∧Q σ'):(Code.region id ops true).wp P QQ a w:=by
 obtain ⟨hlen,hget⟩:=Qpc hcs;obtain ⟨σe,hch,hap,hq⟩:=Q9v hnil hr;have hlen' : cs.length=ops.size:=by rw [hlen];simp
 have hcomp:∀ i,i<ops.size→∃ o,ops[i]? = some o∧cs[i]? = some cs[i]! ∧ Qji P T nt ops o=some cs[i]!:=by
  intro i hi;have h2:cs[i]? = some cs[i]!:=by
   grind
  exact ⟨ops[i],by simp [hi],h2,hget i _ _ (by simp [hi]) h2⟩
 have key:∀ (fuel:Nat) (listed:Array Bool) (σ:St) (a:Act) (w:World) (g:G),listed.size=ops.size→(left ops.size listed).length=fuel →
   (∀ (j:Nat) o,ops.toList[j]? = some o→listed.getD j false=true→∀ e∈Qu7 o,listed.getD e false=true) →
   Q8k C n0 pc ((left ops.size listed).map (cs[·]!)) σ σe→SR n0 nt g0 w0 σ a w g→wpAny P .any ops QQ fuel listed a w:=by
  intro fuel
  induction fuel with
  | zero =>
   intro listed σ a w g hs hl hcl hch hsr;have hnil:left ops.size listed=[]:=List.eq_nil_of_length_eq_zero hl;rw [hnil] at hch;have:σe=σ:=hch;subst this;refine ⟨?_,hQ _ _ _ g hq hsr⟩
   grind [left,List.filter_eq_nil_iff,Go.Region.ready]
  | succ fuel ih =>
   intro listed σ a w g hs hl hcl hch hsr;have hsorted:=Q40 ops.size listed;have hready:∀ i o,ops[i]? = some o→(i∈Region.ready .any ops listed↔i∈left ops.size listed∧∀ e∈Qu7 o,listed.getD e false=true):=by
    intro i o ho;unfold Region.ready left;simp only [List.mem_filter,ho,Option.map_some,Option.getD_some,Bool.and_eq_true,Array.all_eq_true',Qbeo,Bool.or_eq_true,Bool.not_eq_true'];constructor
    ·rintro ⟨h1,h2,h3⟩;refine ⟨⟨h1,h2⟩,fun e he=>?_⟩;simp only [Qu7,List.mem_map,List.mem_filter] at he
     grind
    ·rintro ⟨⟨h1,h2⟩,h3⟩;refine ⟨h1,h2,fun x hx=>?_⟩;cases hb:Q3o x with
     | false=>exact .inl rfl
     | true=>exact .inr (h3 x.on (by simp only [Qu7,List.mem_map,List.mem_filter];grind))
   refine ⟨fun hnone=>?_,fun i hi=>?_⟩
   ·exfalso;cases hle:left ops.size listed with
    | nil=>grind
    | cons i rest =>
     have him:i∈left ops.size listed:=by rw [hle];simp
     obtain ⟨hin,_⟩:=(Q3u hs).1 him;obtain ⟨o,ho,_,_⟩:=hcomp i hin;have:i∈Region.ready .any ops listed:=by
      refine (hready i o ho).2 ⟨him,fun e he=>?_⟩;have hlt:e<i:=by
       unfold Qbfa at hup;rw [List.all_eq_true] at hup;have:=hup (i,o) (Q3t.2 (by simpa using ho))
       grind
      cases hle2:listed.getD e false with
      | true=>rfl
      | false =>
       have:e∈left ops.size listed:=(Q3u hs).2 ⟨by omega,hle2⟩;rw [hle] at this hsorted;rcases List.mem_cons.1 this with rfl|this
       all_goals grind [List.pairwise_cons]
     grind
   ·have hin:i<ops.size:=by
     grind [Go.Region.ready]
    obtain ⟨o,ho,hci,hco⟩:=hcomp i hin;obtain ⟨him,hbase⟩:=(hready i o ho).1 hi;obtain ⟨l1,l2,hl12⟩:=List.append_of_mem him;have hnext:=Qbgi hs hl12;have hanc:∀ x,((ancs ops.toList).getD i 0).testBit x=true→listed.getD x false=true:=Qbgh (fun x=>listed.getD x false=true) hcl (by simpa using ho) hbase;have hmf:Q8k C n0 pc (cs[i]! :: (l1++l2).map (cs[·]!)) σ σe:=by
     rw [hl12,List.map_append,List.map_cons] at hch;rw [List.map_append];refine Qben (P:=P) (nt:=nt) (g0:=g0) (w0:=w0) (T:=T) (ops:=ops) hC ⟨o,hco⟩ _ σ (fun c hc=>?_) (fun pre1 x pre2 he=>?_) ⟨a,w,g,hsr⟩ hch
     ·grind
     ·obtain ⟨k1,k2,hk,hk1,hk2⟩:=List.map_eq_append_iff.1 he;obtain ⟨j,k3,rfl,rfl,hk3⟩:=List.map_eq_cons_iff.1 hk2;subst hk;have hjl:j∈left ops.size listed:=by rw [hl12];simp
      obtain ⟨hjn,hju⟩:=(Q3u hs).1 hjl;have hso:=hsorted;rw [hl12] at hso;have hso2:=List.pairwise_append.1 hso;have hji:j<i:=hso2.2.2 j (by simp) i (by simp);have hge:∀ k∈(j::k3)++i::l2,j≤k:=by
       intro k hk;have h5:((j::k3)++i::l2).Pairwise (· < ·):=by
        grind
       simp only [List.cons_append] at h5 hk;rcases List.mem_cons.1 hk with rfl|hk
       ·exact Nat.le_refl _
       ·exact Nat.le_of_lt ((List.pairwise_cons.1 h5).1 k hk)
      have hnanc:((ancs ops.toList).getD i 0).testBit j=false:=by
       grind
      obtain ⟨oj,_,hcj,_⟩:=hcomp j hjn;obtain ⟨m,hm1,hm2,hm3⟩:=Q9y hps hcj hci hji hnanc;refine ⟨m,hm1,fun p hp=>⟨List.all_eq_true.1 hap p (hm3 p hp),fun c hc=>?_⟩⟩;have hc' : ∃ k∈(j::k3)++i::l2,cs[k]! = c:=by
       rw [← hk3] at hc;rcases List.mem_append.1 hc with hc|hc
       ·rcases List.mem_cons.1 hc with rfl|hc
        ·grind
        ·obtain ⟨k,hk,rfl⟩:=List.mem_map.1 hc
         grind
       ·rcases List.mem_cons.1 hc with rfl|hc
        ·grind
        ·obtain ⟨k,hk,rfl⟩:=List.mem_map.1 hc
         grind
      obtain ⟨k,hk,rfl⟩:=hc';have hkj:=hge k hk;have hkl:k∈left ops.size listed:=by
       grind
      obtain ⟨hkn,hku⟩:=(Q3u hs).1 hkl;obtain ⟨_,_,hck,_⟩:=hcomp k hkn;have hpk:=List.all_eq_true.1 hm2 p hp;unfold Qx0 at hpk;have:=List.all_eq_true.1 hpk (k,cs[k]!) (Q3t.2 hck)
      grind
    obtain ⟨σ1,hst,hrest⟩:=hmf;have:=Q8g (QQ:=QQ) hC hco hsr (Qbf7 (Q:=fun σ'=>Q8k C n0 pc ((l1++l2).map (cs[·]!)) σ' σe) hst hrest) (KK:=wpAny P .any ops QQ fuel (listed.setIfInBounds i true)) fun σ' a' w' g' hq' hs'=>by
     refine ih _ σ' a' w' g' (by simp [hs]) ?_ (fun j oj hoj hj e he=>?_) ?_ hs'
     ·grind
     ·have hset:∀ x,listed.getD x false=true→(listed.setIfInBounds i true).getD x false=true:=by
       intro x hx;rw [Q9z] at hx ⊢;rw [Array.getElem?_setIfInBounds];split
       all_goals grind
      by_cases hji:j=i
      ·grind
      ·refine hset e (hcl j oj hoj ?_ e he);rw [Q9z] at hj ⊢
       grind
     ·rw [hnext];exact hq'
    grind [Go.wpOp]
 refine wp_region_any hm (key ops.size _ σ a _ g (by simp) ?_ (fun j o _ hj=>?_) ?_ ?_)
 ·have:left ops.size (Array.replicate ops.size false)=List.range ops.size:=by
   simp_all [left,List.filter_eq_self,Array.getD]
  rw [this];simp
 ·simp_all [Array.getD,Array.size_replicate]
 ·have:(left ops.size (Array.replicate ops.size false)).map (cs[·]!)=cs:=by
   have h1:left ops.size (Array.replicate ops.size false)=List.range ops.size:=by
    simp_all [left,List.filter_eq_self,Array.getD]
   rw [h1];apply List.ext_getElem
   all_goals grind
  rw [this];exact hch
 ·have hk:Kept g w g { w with drawn:=w.drawn+1 } (fun _=>True) fun _=>True:=⟨⟨fun _ _ h=>h,fun _ _ _=>rfl⟩,fun _ _=>rfl,fun _ _ _=>⟨rfl,rfl,fun _=>Iff.rfl⟩⟩;have hall:(∀ v:V,v.on fun _=>True)∧∀ vs:List V,V.ons (fun _=>True) vs:=by
   grind [Qbby,Qih]
  refine ⟨⟨fun k b hb=>?_,h.mem.imm⟩,fun t=>Qdh hk (fun _ _ h=>h) trivial _ _ _ trivial (hall.1 _) (h.slots t),h.size,h.defers,h.onS,h.onM,h.top,?_⟩
  ·obtain ⟨h1,h2,h3⟩:=h.mem.box k b hb;refine ⟨h1,h2,?_⟩;cases b with
   | mp es c =>
    obtain ⟨ents,k1,k2⟩:=h3;exact ⟨ents,k1,Qk9 (g:=g) (g':=g) hk (fun _=>trivial) k2⟩
   | cells cs =>
    obtain ⟨vals,e,k1,k2,k3⟩:=h3;exact ⟨vals,e,k1,RVs_mono hk (fun _ _ h=>h) trivial _ _ _ _ trivial (hall.2 _) k2,k3⟩
  ·exact ⟨h.fr.os,h.fr.tape,h.fr.output,h.fr.size,⟨h.fr.imm.mono,h.fr.imm.look⟩,h.fr.box,h.fr.old⟩
end
end Go.Abs
end
section
namespace Go.Abs
open Go
theorem Qbgj (P:Nat→Bool) (vs:List V):Qdx.go P vs=vs.map (Qdx P):=by
 induction vs with
 | nil=>rfl
 | cons v vs ih=>simp [Qdx.go,ih]
mutual
theorem Qbgk {g:G} {w:World} (P:Nat→Bool):∀ (v:V) (ℓ:Owner) (u:Value),RV g w v ℓ u→RV g w (Qdx P v) ℓ u
 | .und,_,_,h=>by simp [Qdx,RV]
 | .d x,_,_,h=>by simpa [Qdx] using h
 | .agg cs,ℓ,u,h=>by
  simp only [Qdx,RV] at h ⊢;obtain ⟨vs,rfl,h,h1⟩:=h;exact ⟨vs,rfl,RVs_kill P cs ℓ 0 vs h,h1⟩
 | .tup cs,ℓ,u,h=>by
  simp only [Qdx,RV] at h ⊢;obtain ⟨vs,rfl,h⟩:=h;exact ⟨vs,rfl,RVs_kill P cs ℓ 0 vs h⟩
 | .own ..,_,_,h=>by simpa [Qdx] using h
 | .ownT ..,_,_,h=>by simpa [Qdx] using h
 | .ptr k o,_,_,h=>by
  simp only [Qdx];split
  ·simp [RV]
  ·exact h
 | .nilp,_,_,h=>by simpa [Qdx] using h
 | .f _,_,_,h=>by simpa [Qdx] using h
 | .nils _,_,_,h=>by simpa [Qdx] using h
 | .cref _,_,_,h=>by simpa [Qdx] using h
 | .sl ..,_,_,h=>by
  simp only [Qdx];split
  ·simp [RV]
  ·exact h
 | .clo f cs,_,u,h=>by
  simp only [Qdx,RV] at h ⊢;obtain ⟨vs,rfl,h⟩:=h;exact ⟨vs,rfl,RVs_kill P cs .ext 0 vs h⟩
 | .mp k,_,_,h=>by
  simp only [Qdx];split
  ·simp [RV]
  ·exact h
theorem RVs_kill {g:G} {w:World} (P:Nat→Bool):∀ (cs:List V) (ℓ:Owner) (i:Nat) (us:List Value),RVs g w cs ℓ i us→RVs g w (Qdx.go P cs) ℓ i us
 | [],_,_,_,h=>by simpa [Qdx.go,RVs] using h
 | c::cs,ℓ,i,us,h=>by
  simp only [Qdx.go,RVs] at h ⊢;obtain ⟨u,us,rfl,h1,h2⟩:=h;exact ⟨u,us,rfl,Qbgk P c _ u h1,RVs_kill P cs ℓ (i+1) us h2⟩
end
mutual
theorem Qbgl {p:Nat→Prop} (P:Nat→Bool):∀ v:V,v.on p→(Qdx P v).on fun k=>p k∧P k=false
 | .ptr k o,h=>by simp only [Qdx];split<;>simp_all [V.on]
 | .sl ..,h=>by simp only [Qdx];split<;>simp_all [V.on]
 | .mp k,h=>by simp only [Qdx];split<;>simp_all [V.on]
 | .agg cs,h=>by simp only [Qdx,V.on];exact ons_kill P cs h
 | .tup cs,h=>by simp only [Qdx,V.on];exact ons_kill P cs h
 | .clo _ cs,h=>by simp only [Qdx,V.on];exact ons_kill P cs h
 | .und,_=>trivial
 | .d _,_=>trivial
 | .own ..,_=>trivial
 | .ownT ..,_=>trivial
 | .nilp,_=>trivial
 | .f _,_=>trivial
 | .nils _,_=>trivial
 | .cref _,_=>trivial
theorem ons_kill {p:Nat→Prop} (P:Nat→Bool):∀ vs:List V,V.ons p vs→V.ons (fun k=>p k∧P k=false) (Qdx.go P vs)
 | [],_=>trivial
 | v::vs,h=>⟨Qbgl P v h.1,ons_kill P vs h.2⟩
end
mutual
theorem Qbjy {p q:Nat→Prop}:∀ (v:V),v.on p→v.on q→v.on fun k=>p k∧q k
 | .ptr _ _,h1,h2=>⟨h1,h2⟩
 | .sl ..,h1,h2=>⟨h1,h2⟩
 | .mp _,h1,h2=>⟨h1,h2⟩
 | .agg cs,h1,h2=>ons_and cs h1 h2
 | .tup cs,h1,h2=>ons_and cs h1 h2
 | .clo _ cs,h1,h2=>ons_and cs h1 h2
 | .und,_,_=>trivial
 | .d _,_,_=>trivial
 | .own ..,_,_=>trivial
 | .ownT ..,_,_=>trivial
 | .nilp,_,_=>trivial
 | .f _,_,_=>trivial
 | .nils _,_,_=>trivial
 | .cref _,_,_=>trivial
theorem ons_and {p q:Nat→Prop}:∀ (vs:List V),V.ons p vs→V.ons q vs→V.ons (fun k=>p k∧q k) vs
 | [],_,_=>trivial
 | v::vs,h1,h2=>⟨Qbjy v h1.1 h2.1,ons_and vs h1.2 h2.2⟩
end
section
variable {P:Program} {C:Ctx} {n0 nt:Nat} {g0:G} {w0:World}
theorem Qbgm {n0:Nat} {sites:List Nat} {k:Nat} (h:Qjh n0 sites k=true):n0≤k:=by
 simp only [Qjh,List.any_eq_true,beq_iff_eq] at h
 grind
theorem Q3v {σ:St} {a:Act} {w:World} {g:G} (h:SR n0 nt g0 w0 σ a w g) (sites:List Nat):SR n0 nt g0 w0 (Ql4 n0 sites σ) a w g:=by
 have hthere:∀ k,(There σ.M k∧Qjh n0 sites k=false)→There (Ql4 n0 sites σ).M k:=by
  rintro k ⟨h1,h2⟩;simp only [There,Ql4,h2,Bool.false_eq_true,if_false] at h1 ⊢
  grind
 refine ⟨⟨fun k b hk=>?_,h.mem.imm⟩,fun t=>Qbgk _ _ _ _ (h.slots t),h.size,h.defers,fun t=>Qfx hthere _ (Qbgl _ _ (h.onS t)),fun k cs hk=>?_,h.top,h.fr⟩
 ·simp only [Ql4] at hk;split at hk
  ·cases hk
  ·split at hk
   ·exact h.mem.box k b hk
   ·split at hk
    ·rename_i cs hcs;cases hk;obtain ⟨h1,h2,vals,e,hh,hr,ho⟩:=h.mem.box k _ hcs;refine ⟨h1,h2,vals,e,hh,?_,ho⟩;rw [← Qbgj];exact RVs_kill _ _ _ _ _ hr
    ·exact h.mem.box k b hk
 ·simp only [Ql4] at hk;split at hk
  ·cases hk
  ·rename_i hns;split at hk
   ·rename_i hlt;have h2:=(h.onM k cs hk).2 hlt;have h1:=(h.onM k cs hk).1;refine ⟨?_,fun _=>h2⟩;rw [Qih] at h1 h2 ⊢;intro v hv;have hb:v.on fun k=>There σ.M k∧k<n0:=Qbjy v (h1 v hv) (h2 v hv);refine Qfx (fun k hk=>hthere k ⟨hk.1,?_⟩) v hb
    grind [Qjh,Qbgm]
   ·split at hk
    ·rename_i hge _ cs' hcs;cases hk;refine ⟨?_,fun hlt=>absurd hlt hge⟩;rw [← Qbgj];exact ons_mono hthere _ (ons_kill _ _ (h.onM k cs' hcs).1)
    grind
theorem Q90 {p:Nat→Prop} (h:∃ n,p n):∃ n,p n∧∀ m,p m→n≤m:=by
 obtain ⟨n,hn⟩:=h
 induction n using Nat.strongRecOn with
 | _ n ih =>
  grind
open Classical in
noncomputable def Qbgn (p:Nat→Prop):Nat:=if h:∃ n,p n then Classical.choose (Q90 h) else 0
theorem Qbeq {p:Nat→Prop} (h:∃ n,p n):p (Qbgn p):=by
 unfold Qbgn;grind
theorem Qbi1 {p:Nat→Prop} {n:Nat} (h:p n):Qbgn p≤n:=by
 have hx:∃ n,p n:=⟨n,h⟩;unfold Qbgn;grind
def Ex.to:Ex→Exit
 | .norm=>.normal
 | .exit id=>.exit id
 | .ret=>.ret
def lift (n0 nt:Nat) (g0:G) (w0:World) (Q:Ex→St→Prop):Exit→Act→World→Prop :=
 fun e a w=>∃ x σ g,e=x.to∧Q x σ∧SR n0 nt g0 w0 σ a w g
structure Env where
 P:Program
 n0:Nat
 nt:Nat
 g0:G
 w0:World
 T:Tk
def Tr (Γ:Env) (cc:CC) (σ:St) (Q:Ex→St→Prop):Prop :=
 ∀ c,Qwc Γ.P Γ.T Γ.nt c=some cc→∀ a w g,SR Γ.n0 Γ.nt Γ.g0 Γ.w0 σ a w g→c.wp Γ.P (lift Γ.n0 Γ.nt Γ.g0 Γ.w0 Q) a w
def Wk (v v' : V):Prop:=∀ g w ℓ u,RV g w v ℓ u→RV g w v' ℓ u
def pos:List Res→Nat→Option Nat
 | [],_=>none
 | .t i::rs,t=>if i=t then some 0 else (pos rs t).map (· + 1)
 | .cell .. :: rs,t=>(pos rs t).map (· + 1)
def Q15 (ts:List Res) (single:Bool):Owner→Owner
 | .slot t q=>if single then (if pos ts t=some 0 then .res q else .slot t q) else
   match pos ts t with
   | some j=>.res (q++[j])
   | none=>.slot t q
 | o=>o
theorem Qwl (ts:List Res) (s:Bool) (o:Owner) (i:Nat):Q15 ts s (o.sub i)=(Q15 ts s o).sub i:=by
 cases o<;>try rfl
 rename_i t q;cases s with
 | true =>
  simp only [Q15,Owner.sub,if_true];split<;>rfl
 | false =>
  simp only [Q15,Owner.sub,Bool.false_eq_true,if_false];split<;>rfl
theorem Q91 {ts:List Res} {s:Bool} {o:Owner} {k:Nat}:Q15 ts s o = .box k↔o = .box k:=by
 cases o<;>try rfl
 cases s with
 | true=>simp only [Q15,if_true];split<;>simp
 | false=>simp only [Q15,Bool.false_eq_true,if_false];split<;>simp
theorem Q68 {ts:List Res} {s:Bool} {o:Owner} (h:Prot o):Q15 ts s o=o:=by
 cases o<;>first|exact h.elim|rfl
theorem Qbgo {m κ:Nat} {ag:Bool} {n:Nat} {p v:V} {M M' : Mem} (h:Qi m κ (.load ag n) [p] M=some (v,M')):Flat v:=by
 cases p<;>try (simp [Qi] at h;done)
 ·rename_i k off;simp only [Qi] at h;split at h<;>try (cases h;done)
  rename_i cs hk;split at h<;>try (cases h;done)
  split at h
  ·cases h;simp [Flat,V.dem,dems_dems]
  ·simp only [Option.map_eq_some_iff,Prod.mk.injEq] at h;obtain ⟨x,_,rfl,_⟩:=h;exact Qdz x
 ·rename_i cs;simp only [Qi] at h;split at h<;>try (cases h;done)
  split at h
  ·cases h;have:∀ l:List D,V.dems (l.map V.d)=l.map V.d:=by
    intro l;induction l with
    | nil=>rfl
    | cons a l ih=>simp [V.dems,V.dem,ih]
   simp only [Flat,V.dem,this]
  ·simp only [Option.map_eq_some_iff,Prod.mk.injEq] at h;obtain ⟨x,_,rfl,_⟩:=h
   rfl
theorem Qbl8 {σ:St} {a:Act} {w:World} {g:G} (h:SR n0 nt g0 w0 σ a w g) {rv:ResultVar} {rs:Res} (hc:Q36 P nt rv=some rs) {r:V} (hr:rs.val σ=some r) :
  (∃ v,((match rv with | .tmp t=>pure (a.tmps.getD t undef) | .cell p t=>do loadVar t (← asAddr (a.tmps.getD p undef)):Sem Value)).run P w = .ok v w∧r.on (There σ.M) ∧
   ((∃ t,rs = .t t∧r=σ.s t∧RV g w r (.slot t []) v)∨((∃ p ag n,rs = .cell p ag n)∧Flat r∧RF g w r v))):=by
 cases rv with
 | tmp t =>
  simp only [Q36] at hc;split at hc<;>cases hc;simp only [Res.val,Option.some.injEq] at hr;subst hr;exact ⟨_,rfl,h.onS t,.inl ⟨t,rfl,rfl,h.slots t⟩⟩
 | cell p t =>
  simp only [Q36] at hc;split at hc<;>cases hc;rename_i hp;obtain ⟨d,hd⟩:=Option.isSome_iff_exists.1 hp.2;simp only [Res.val,Option.map_eq_some_iff] at hr;obtain ⟨⟨r',M'⟩,hst,rfl⟩:=hr;have hpp:(∃ k o,σ.s p = .ptr k o)∨∃ cs,σ.s p = .cref cs:=by
   cases hv:σ.s p<;>rw [hv] at hst<;>try (simp [Qi] at hst;done)
   all_goals grind
  have hf:Flat (σ.s p):=by rcases hpp with ⟨k,o,e⟩|⟨cs,e⟩<;>rw [e]<;>rfl
  have hrf:RF g w (σ.s p) (a.tmps.getD p undef):=fun ℓ=>Ql9 hf (h.slots p);have hu:∃ ad,a.tmps.getD p undef = .pointer (some ad):=by
   grind [Qrp,Quc]
  obtain ⟨ad,hu⟩:=hu;obtain ⟨_,val,hrun,hval⟩:=Qbfh P h.mem t hd hrf hst;refine ⟨val,?_,?_,.inr ⟨⟨_,_,_,rfl⟩,Qbgo hst,hval⟩⟩
  ·grind [Go.Instr.loadAt,Go.Instr.sureAddr,Go.Sem.run_bind,Go.Sem.run_pure,Go.Result.andThen_ok,Go.asAddr]
  ·obtain ⟨h1,_,_⟩:=Q8b (k:=.load (Qhz P t) (P.cellsOf t)) trivial hst ⟨h.onS p,trivial⟩ h.mOn
   grind
def Qbdb (tmps:Array Value) (rv:ResultVar):Sem Value :=
 match rv with
 | .tmp t=>pure (tmps.getD t undef)
 | .cell p t=>do loadVar t (← asAddr (tmps.getD p undef))
theorem Qbgp {σ:St} {a:Act} {w:World} {g:G} (h:SR n0 nt g0 w0 σ a w g):∀ (rvs:List ResultVar) (rss:List Res) (rs:List V),rvs.mapM (Q36 P nt)=some rss→rss.mapM (Res.val σ)=some rs →
  ∃ vs:List Value,(rvs.mapM (Qbdb a.tmps)).run P w = .ok vs w∧vs.length=rs.length∧rs.length=rss.length∧V.ons (There σ.M) rs ∧
   ∀ (j:Nat) r v s,rs[j]? = some r→vs[j]? = some v→rss[j]? = some s→(∃ t,s = .t t∧r=σ.s t∧RV g w r (.slot t []) v)∨((∃ p ag n,s = .cell p ag n)∧Flat r∧RF g w r v)
 | [],rss,rs,hc,hr=>by
  simp at hc;subst hc;simp at hr;subst hr;exact ⟨[],by simp,rfl,rfl,trivial,by simp⟩
 | rv::rvs,rss,rs,hc,hr=>by
  simp only [List.mapM_cons,Option.bind_eq_bind,Option.bind_eq_some_iff,Option.pure_def,Option.some.injEq] at hc;obtain ⟨s,hs,rss',hss,rfl⟩:=hc;simp only [List.mapM_cons,Option.bind_eq_bind,Option.bind_eq_some_iff,Option.pure_def,Option.some.injEq] at hr;obtain ⟨r,hr1,rs',hr2,rfl⟩:=hr;obtain ⟨v,h1,h2,h3⟩:=Qbl8 h hs hr1;obtain ⟨vs,k1,k2,k3,k4,k5⟩:=Qbgp h rvs rss' rs' hss hr2;have h1' : (Qbdb a.tmps rv).run P w = .ok v w:=h1;refine ⟨v::vs,by simp_all,by simp [k2],by simp [k3],⟨h2,k4⟩,fun j r' v' s' hj1 hj2 hj3=>?_⟩;cases j with
  | zero=>grind
  | succ j=>grind
theorem Qbbz:∀ (rss:List Res) (j t:Nat),(Qo9 rss).Nodup→rss[j]? = some (.t t)→pos rss t=some j
 | [],j,t,_,h=>by simp at h
 | s::rss,j,t,hn,h=>by
  cases j with
  | zero =>
   grind [pos]
  | succ j =>
   have h' : rss[j]? = some (.t t):=by simpa using h
   have hm:t∈Qo9 rss:=by
    simp only [Qo9,List.mem_filterMap];exact ⟨.t t,List.mem_of_getElem? h',rfl⟩
   cases s with
   | t i =>
    have hn' : i∉Qo9 rss∧(Qo9 rss).Nodup:=by simpa [Qo9] using hn
    have hne:i≠t:=by grind
    simp [pos,hne,Qbbz rss j t hn'.2 h']
   | cell p ag n =>
    have hn' : (Qo9 rss).Nodup:=by simpa [Qo9] using hn
    simp [pos,Qbbz rss j t hn' h']
def Fin (rs:List Res) (r:V) (M' : Mem) (nb' : Nat):Ex→St→Prop:=fun e σ =>
 (e = .norm∨e = .ret)∧∃ r',Qoz σ rs=some r'∧Wk r' r∧(∀ k b,M' k=some b→σ.M k=some b)∧r.on (There M')∧MOn (There M') M'∧∀ k,There M' k→k<nb'
def Fin2 (n0:Nat) (rs:List Res) (r:V) (M' : Mem) (nb' : Nat):Ex→St→Prop:=fun e σ =>
 (e = .norm∨e = .ret)∧∃ r',Qoz σ rs=some r'∧Wk r' r∧(∀ k b,M' k=some b→σ.M k=some b) ∧
  (r'.on (There σ.M)→(∀ k cs,σ.M k=some (.cells cs)→V.ons (There σ.M) cs∧(k<n0→V.ons (· < n0) cs))→(∀ k,There σ.M k→k<σ.nb)→r.on (There M')∧MOn (There M') M'∧∀ k,There M' k→k<nb')
theorem Qbgq {f:FuncId} {cf:CFn} (hcf:Qn P f=some cf) {args:List V} {M:Mem} {nb nb' : Nat} {r:V} {M' : Mem} (hM0:∀ k,nb≤k→M k=none) (hargs:args.length=cf.np) (hnb:nb≤nb')
  {w:World} {g:G} {us:List Value} (hm:MR g w M nb) (hMon:MOn (There M) M) (hus:RAs g w 0 args us) (hons:V.ons (There M) args)
  (hrun:∀ Γ:Env,Γ.P=P→Γ.n0=nb→Γ.nt=cf.nt→Γ.g0=g→Γ.w0=w→Tr Γ cf.body ⟨Qpv args,M,nb+cf.nt⟩ (Fin2 nb cf.res r M' nb')) :
  Qii P f=true∧Calls P f us.toArray w fun e w'=>∃ v g',e = .returned v∧MR g' w' M' nb'∧RV g' w' r (.res []) v∧r.on (There M')∧MOn (There M') M'∧Fr nb g w g' w':=by
 unfold Qn at hcf;split at hcf<;>try (cases hcf;done)
 rename_i fn hfn;split at hcf<;>try (cases hcf;done)
 rename_i code hbody;split at hcf<;>try (cases hcf;done)
 rename_i b rss hb hrss;split at hcf<;>try (cases hcf;done)
 rename_i hnd;obtain ⟨hnd,hnp,hname⟩:=hnd;cases hcf;simp only at hargs hrun;refine ⟨by grind [Qii,Q37],?_⟩;have hlen:us.length=args.length:=hus.length;let a0:Act:={ tmps:=us.toArray++Array.replicate (fn.ntmps-us.toArray.size) undef,defers:=[] };have hsz:a0.tmps.size=fn.ntmps:=by simp [a0];omega
 have hinit:∀ t,RV g w (Qpv args t) (.slot t []) (a0.tmps.getD t undef):=by
  intro t;rcases Nat.lt_or_ge t args.length with hlt|hge
  ·have h1:Qpv args t=args[t]:=by simp [Qpv,hlt]
   have h2:a0.tmps.getD t undef=us[t]'(by omega):=by
    simp only [a0,Array.getD_eq_getD_getElem?]
    grind
   rw [h1,h2];have:=hus.get t _ _ (List.getElem?_eq_getElem hlt) (List.getElem?_eq_getElem (by omega));rwa [Nat.zero_add] at this
  grind [Qpv,RV]
 have hSR:SR nb fn.ntmps g w ⟨Qpv args,M,nb+fn.ntmps⟩ a0 w g:=by
  refine ⟨⟨fun k b hk=>?_,hm.imm⟩,hinit,hsz,rfl,fun t=>?_,fun k cs hk=>⟨hMon k cs hk,fun hlt=>?_⟩,Nat.le_refl _,Fr.refl _ _ _⟩
  ·obtain ⟨h1,h2⟩:=hm.box k b hk
   grind
  ·rcases Nat.lt_or_ge t args.length with hlt|hge
   ·have h1:Qpv args t=args[t]:=by simp [Qpv,hlt]
    show (Qpv args t).on _;rw [h1];exact Qfl hons (List.getElem?_eq_getElem hlt)
   ·have h1:Qpv args t = .und:=by simp [Qpv,hge]
    show (Qpv args t).on _;rw [h1];trivial
  ·refine ons_mono (fun j hj=>?_) cs (hMon k cs hk)
   grind [Nat.lt_or_ge,There]
 let Γ:Env:={ P,n0:=nb,nt:=fn.ntmps,g0:=g,w0:=w,T:=Qbjs P code };refine calls_of_wp hfn hbody (wp_mono (hrun Γ rfl rfl rfl rfl rfl code hb a0 w g hSR) ?_);rintro e a' w' ⟨x,σ,g',rfl,⟨hx,r',hres,hwk,hM1,hfacts⟩,hs⟩;have hs:SR nb fn.ntmps g w σ a' w' g':=hs;have fin:∀ (fr:Owner→Owner) (v:Value),(∀ o i,fr (o.sub i)=(fr o).sub i)→fr .ext = .ext→(∀ o k,fr o = .box k↔o = .box k)→(∀ o,Prot o→fr o=o)→r'.on (There σ.M)→RV (g'.re fr) w' r' (.res []) v →
   ∃ v' g'',Ending.returned v = .returned v'∧MR g'' w' M' nb'∧RV g'' w' r (.res []) v'∧r.on (There M')∧MOn (There M') M'∧Fr nb g w g'' w':=by
  intro fr v h1 h2 h3 h4 h6 h5;obtain ⟨hron,hMon',hM2⟩:=hfacts h6 (fun k cs hk=>hs.onM k cs hk) (fun k hk=>by obtain ⟨b,hb⟩:=Option.isSome_iff_exists.1 hk;exact (hs.mem.box k b hb).1);have hmr:=hs.mem.re h1 h2 h3;refine ⟨v,g'.re fr,rfl,⟨fun k b hk=>?_,hmr.imm⟩,hwk _ _ _ _ h5,hron,hMon',?_⟩
  ·obtain ⟨_,k2⟩:=hmr.box k b (hM1 k b hk)
   simp_all [There]
  ·have hf:=hs.fr;exact ⟨hf.os,hf.tape,hf.output,hf.size,hf.imm,hf.box,fun b hb ho=>by
    obtain ⟨q1,q2,q3⟩:=hf.old b hb ho;refine ⟨?_,q2,q3⟩;show fr (g'.own b)=_;rw [q1];exact h4 _ ho⟩
 have hend:∃ v,(results fn a'.tmps).run P w' = .ok v w'∧∃ v' g'',Ending.returned v = .returned v'∧MR g'' w' M' nb'∧RV g'' w' r (.res []) v'∧r.on (There M')∧MOn (There M') M'∧Fr nb g w g'' w':=by
  have hresrun:∀ vs:List Value,(fn.results.toList.mapM (Qbdb a'.tmps)).run P w' = .ok vs w'→(results fn a'.tmps).run P w' = .ok (if h:vs.length=1 then vs[0] else .tuple vs.toArray) w':=by
   intro vs hvs;show ((do let vs ← fn.results.mapM (Qbdb a'.tmps);pure (if h:vs.size=1 then vs[0] else .tuple vs)):Sem Value).run P w'=_;rw [Array.mapM_eq_mapM_toList];simp [hvs]
  cases hrs:rss.mapM (Res.val σ) with
  | none =>
   exfalso;cases rss with
   | nil=>simp at hrs
   | cons s rss =>
    cases rss with
    | nil=>grind [Qoz]
    | cons s' rss=>grind [Qoz]
  | some rs =>
   obtain ⟨vs,k1,k2,k3,k4,k5⟩:=Qbgp hs _ _ _ hrss hrs;refine ⟨_,hresrun vs k1,?_⟩;by_cases hone:rss.length=1
   ·match rss,hone with
    | [s],_ =>
     simp only [Qoz] at hres;simp only [List.mapM_cons,List.mapM_nil,hres,Option.bind_eq_bind,Option.bind_some,Option.pure_def,Option.some.injEq] at hrs;subst hrs
     match vs,k2 with
     | [v],_ =>
      simp only [List.length_singleton,dite_true,List.getElem_cons_zero];have hk5:=k5 0 r' v s rfl rfl rfl;rcases hk5 with ⟨t,rfl,rfl,hrv⟩|⟨_,_,hrf⟩
      ·refine fin (Q15 [.t t] true) v (Qwl _ _) rfl (fun o k=>Q91) (fun o ho=>Q68 ho) k4.1 ?_;have:=Qrb (Qwl [.t t] true) rfl _ _ _ hrv;simpa [Q15,pos] using this
      ·exact fin id v (fun _ _=>rfl) rfl (fun _ _=>Iff.rfl) (fun _ _=>rfl) k4.1 (hrf _)
   ·have hvl:¬ vs.length=1:=by omega
    rw [dif_neg hvl];have hres' : r' = .tup rs:=by
     match rss,hone,hres,hrs with
     | [],_,hres,hrs=>grind [Qoz,Option.some.injEq]
     | s::s'::rss,_,hres,hrs=>grind [Qoz,Option.some.injEq]
    subst hres';refine fin (Q15 rss false) _ (Qwl _ _) rfl (fun o k=>Q91) (fun o ho=>Q68 ho) k4 ?_;simp only [RV];refine ⟨vs,rfl,(Qcx _ _ _ _).2 ⟨k2,fun j c u hc hu=>?_⟩⟩;have hjl:=(List.getElem?_eq_some_iff.1 hc).1;have hsj:=List.getElem?_eq_getElem (show j<rss.length by omega);simp only [Nat.zero_add,Owner.sub];rcases k5 j c u _ hc hu hsj with ⟨t,hst,hct,hrv⟩|⟨_,hfl,hrf⟩
    ·have:=Qrb (Qwl rss false) rfl _ _ _ hrv;have hp:=Qbbz rss j t hnd (by rw [hsj,hst]);simpa [Q15,hp] using this
    ·exact Ql9 hfl (Qrb (f:=Q15 rss false) (Qwl _ _) rfl _ _ _ (hrf .ext))
 have hd:a'.defers=[]:=hs.defers;obtain ⟨v,hv,hpost⟩:=hend;rcases hx with rfl|rfl
 ·exact ⟨hd,v,hv,hpost⟩
 ·exact ⟨hd,v,hv,hpost⟩
theorem Qbjz {f:FuncId} {cf:CFn} (hcf:Qn P f=some cf) {args:List V} {M:Mem} {nb nb' : Nat} {r:V} {M' : Mem} (hM0:∀ k,nb≤k→M k=none) (hargs:args.length=cf.np) (hnb:nb≤nb')
  (hrun:∀ Γ:Env,Γ.P=P→Γ.n0=nb→Γ.nt=cf.nt→Tr Γ cf.body ⟨Qpv args,M,nb+cf.nt⟩ (Fin2 nb cf.res r M' nb')):ACalls P f args M nb r M' nb':=by
 refine ⟨?_,hnb,fun w g us hm hMon hus hons=>(Qbgq hcf hM0 hargs hnb hm hMon hus hons fun Γ h1 h2 h3 _ _=>hrun Γ h1 h2 h3).2⟩
 grind [Inhabited.default,Qn,Qii,Q37]
def away:Owner→Owner:=fun _=>.ext
theorem Qbi2 (o:Owner) (i:Nat):away (o.sub i)=(away o).sub i:=rfl
def Q0p:V→Bool
 | .d _ | .own _ _ | .nils _ | .nilp | .und=>true
 | .agg cs=>go cs
 | .tup vs=>go vs
 | _=>false
where go:List V→Bool
 | []=>true
 | v::vs=>Q0p v&&go vs
section
variable {g g' : G} {w:World} (hi:∀ b o,g.imm b o↔g'.imm b o) (ho:∀ b,g.own b ≠ .ext→g.own b ≠ .free→g'.own b=g.own b)
include hi ho
mutual
theorem Qbdc:∀ (v:V) (ℓ:Owner) (u:Value),Q0p v=true→(ℓ ≠ .ext∧ℓ ≠ .free)→RV g w v ℓ u→RV g' w v ℓ u
 | .und,_,_,_,_,_=>by simp [RV]
 | .d x,_,u,_,_,h=>by
  simp only [RV] at h ⊢;exact Qge ⟨fun b o h=>(hi b o).1 h,fun _ _ _=>rfl⟩ x u h
 | .agg cs,ℓ,u,hr,hl,h=>by
  simp only [RV,Q0p] at h hr ⊢;obtain ⟨vs,rfl,h,h1⟩:=h;exact ⟨vs,rfl,RVs_resOK cs ℓ 0 vs hr hl h,h1⟩
 | .tup cs,ℓ,u,hr,hl,h=>by
  simp only [RV,Q0p] at h hr ⊢;obtain ⟨vs,rfl,h⟩:=h;exact ⟨vs,rfl,RVs_resOK cs ℓ 0 vs hr hl h⟩
 | .own sz l,ℓ,u,_,hl,h=>by
  simp only [RV] at h ⊢;rcases h with h|⟨b,cap,vals,e,h1,h2,h3,h4,h5,h6,h7,h8⟩
  ·exact .inl h
  ·exact .inr ⟨b,cap,vals,e,h1,(ho b (by rw [h2];exact hl.1) (by rw [h2];exact hl.2)).trans h2,h3,h4,h5,h6,fun o=>((hi b o).symm).trans (h7 o),RDL_mono ⟨fun b o h=>(hi b o).1 h,fun _ _ _=>rfl⟩ sz b l 0 h8⟩
 | .ownT sz l,ℓ,u,_,hl,h=>by
  simp only [RV] at h ⊢;rcases h with h|⟨b,o0,cap,vals,e,h1,h2,h3,h4,h5,h6,h7,h8⟩
  ·exact .inl h
  ·exact .inr ⟨b,o0,cap,vals,e,h1,(ho b (by rw [h2];exact hl.1) (by rw [h2];exact hl.2)).trans h2,h3,h4,h5,h6,fun o=>((hi b o).symm).trans (h7 o),RDL_mono ⟨fun b o h=>(hi b o).1 h,fun _ _ _=>rfl⟩ sz b l o0 h8⟩
 | .nilp,_,_,_,_,h=>by simpa [RV] using h
 | .nils _,_,_,_,_,h=>by simpa [RV] using h
 | .f _,_,_,hr,_,_=>by simp [Q0p] at hr
 | .ptr ..,_,_,hr,_,_=>by simp [Q0p] at hr
 | .cref _,_,_,hr,_,_=>by simp [Q0p] at hr
 | .sl ..,_,_,hr,_,_=>by simp [Q0p] at hr
 | .clo ..,_,_,hr,_,_=>by simp [Q0p] at hr
 | .mp _,_,_,hr,_,_=>by simp [Q0p] at hr
theorem RVs_resOK:∀ (cs:List V) (ℓ:Owner) (i:Nat) (us:List Value),Q0p.go cs=true→(ℓ ≠ .ext∧ℓ ≠ .free)→RVs g w cs ℓ i us→RVs g' w cs ℓ i us
 | [],_,_,_,_,_,h=>by simpa [RVs] using h
 | c::cs,ℓ,i,us,hr,hl,h=>by
  simp only [Q0p.go,Bool.and_eq_true] at hr;simp only [RVs] at h ⊢;obtain ⟨u,us',rfl,h1,h2⟩:=h;have hne:ℓ.sub i ≠ .ext:=by cases ℓ<;>simp_all [Owner.sub]
  exact ⟨u,us',rfl,Qbdc c (ℓ.sub i) u hr.1 ⟨hne,by cases ℓ<;>simp_all [Owner.sub]⟩ h1,RVs_resOK cs ℓ (i+1) us' hr.2 hl h2⟩
end
end
mutual
def V.toF:V→V
 | .d (.lst sz l)=>.f (.lst sz l)
 | .agg cs=>.agg (V.toFs cs)
 | v=>v
def V.toFs:List V→List V
 | []=>[]
 | v::vs=>v.toF::V.toFs vs
end
theorem Qbl9 {imm imm' : Nat→Nat→Prop} {w:World} (h:∀ b o,imm b o→Qwd w b o→imm' b o):∀ (x:D) (u:Value),RD imm w x u→RD imm' w x u:=by
 have:=@Qge imm (fun b o=>imm b o∧Qwd w b o);have key:(∀ (x:D) (u:Value),RD imm w x u→RD (fun b o=>imm b o∧Qwd w b o) w x u):=by
  intro x;exact Q9c x
 intro x u hx;exact Qge ⟨fun b o hb=>h b o hb.1 hb.2,fun _ _ _=>rfl⟩ x u (key x u hx)
theorem Qbma {f:FuncId} {cf:CFn} (hcf:Qn P f=some cf) {args:List V} {nb:Nat} {r:V} (hr0:r.lt 0=true) (hr1:Q0p r=true) (hfl:V.dems args=args)
  (hrun:∀ (g0:G) (w0:World) (us:List Value),(∀ b,g0.own b = .ext)→(∀ b o,g0.imm b o→b<w0.heap.size)→RFs g0 w0 args us →
   ∃ args',RFs g0 w0 args' us∧(∀ x∈args',Flat x)∧V.lt.go 0 args'=true∧args'.length=cf.np ∧
    ∀ Γ:Env,Γ.P=P→Γ.n0=nb→Γ.nt=cf.nt→Γ.g0=g0→Γ.w0=w0→Tr Γ cf.body ⟨Qpv args',fun _=>none,nb+cf.nt⟩ (Fin2 nb cf.res r (fun _=>none) nb)) (M:Mem):ACalls P f args M nb r M nb:=by
 refine ACalls.mk' ?_ (Nat.le_refl _) hfl fun w g us hm hMon hus hfl hons=>?_
 ·grind [Qn,Qii,Q37]
 have hp:∀ b,(g.re away).own b = .ext:=fun b=>rfl;have himm:∀ b o,(g.re away).imm b o→b<w.heap.size:=fun b o h=>(hm.imm b o h).1;obtain ⟨args',h1,h2,h3,h4,h5⟩:=hrun (g.re away) w us hp himm (Q3r Qbi2 rfl hfl hus);have hm1:MR (g.re away) w (fun _=>none) nb:=⟨fun k b h=>(by cases h),fun b o h=>⟨himm b o h,fun k e=>by
  grind⟩⟩
 refine Calls.mono (Qbgq hcf (fun _ _=>rfl) h4 (Nat.le_refl _) hm1 (fun k cs h=>by cases h) (RAs.of_flat h1) (ons_mono (fun k hk=>absurd hk (Nat.not_lt_zero k)) _ (ons_lt args' h3)) h5).2 ?_;rintro e w' ⟨v,g',rfl,hmr,hrv,_,_,hf⟩;have hold:∀ b,b<w.heap.size→g'.own b=away (g.own b)∧w'.heap[b]? = w.heap[b]? ∧ ∀ o,g'.imm b o↔g.imm b o:=fun b hb=>hf.old b hb (by rw [hp b];trivial);let g2:G:=⟨g.box,g'.imm,fun b=>if b<w.heap.size then g.own b else g'.own b⟩;have hown:∀ b,b<w.heap.size→g2.own b=g.own b:=fun b hb=>by simp [g2,hb]
 have hown' : ∀ b,¬ b<w.heap.size→g2.own b=g'.own b:=fun b hb=>by simp [g2,hb]
 have hk2:Kept g w g2 w' (There M) (fun _=>True):=by
  refine ⟨⟨fun b o h=>hf.imm.mono b o h,fun b o h=>hf.imm.look b o h⟩,fun k _=>rfl,fun b _ hlt=>⟨hown b hlt,(hold b hlt).2.1,(hold b hlt).2.2⟩⟩
 refine ⟨v,g2,rfl,⟨fun k b hk=>?_,fun b o hb=>?_⟩,?_,Qfx (fun k hk=>absurd hk (Nat.not_lt_zero k)) _ (Qbii r hr0),hMon,?_⟩
 ·obtain ⟨k1,k2,k3⟩:=hm.box k b hk;cases b with
  | mp es c =>
   obtain ⟨ents,hh,hr⟩:=k3;have hlt:g.box k<w.heap.size:=(Array.getElem?_eq_some_iff.1 hh).1;exact ⟨k1,(hown _ hlt).trans k2,ents,(hold _ hlt).2.1.trans hh,Qk9 (g:=g) (g':=g2) hk2 (fun _=>trivial) hr⟩
  | cells cs =>
   obtain ⟨vals,e,hh,hr,ho⟩:=k3;have hlt:g.box k<w.heap.size:=(Array.getElem?_eq_some_iff.1 hh).1;refine ⟨k1,(hown _ hlt).trans k2,vals,e,(hold _ hlt).2.1.trans hh,RVs_mono hk2 (fun _ _ _=>trivial) trivial _ _ _ _ trivial (hMon k cs hk) hr,ho⟩
 ·obtain ⟨k1,k2⟩:=hmr.imm b o hb;refine ⟨k1,fun k=>?_⟩;by_cases hlt:b<w.heap.size
  ·rw [hown b hlt];exact (hm.imm b o (((hold b hlt).2.2 o).1 hb)).2 k
  grind
 ·refine Qbdc (g:=g') (g':=g2) (fun b o=>Iff.rfl) (fun b hb _=>?_) r _ v hr1 (by simp) hrv;by_cases hlt:b<w.heap.size
  ·exact absurd (hold b hlt).1 hb
  ·exact hown' b hlt
 ·exact ⟨hf.os,hf.tape,hf.output,hf.size,⟨fun b o h=>hf.imm.mono b o h,fun b o h=>hf.imm.look b o h⟩,fun _ _=>rfl,fun b hlt _=>⟨hown b hlt,(hold b hlt).2.1,(hold b hlt).2.2⟩⟩
theorem Qbmb {f:FuncId} {cf:CFn} (hcf:Qn P f=some cf) {args:List V} {M:Mem} {nb nb' : Nat} {r:V} {M' : Mem} (hM0:∀ k,nb≤k→M k=none) (hargs:args.length=cf.np) (hnb:nb≤nb')
  (hrun:∀ Γ:Env,Γ.P=P→Γ.n0=nb→Γ.nt=cf.nt→Tr Γ cf.body ⟨Qpv args,M,nb+cf.nt⟩ (Fin cf.res r M' nb')):ACalls P f args M nb r M' nb' :=
 Qbjz hcf hM0 hargs hnb fun Γ h1 h2 h3 c hc a w g hs=>wp_mono (hrun Γ h1 h2 h3 c hc a w g hs) fun _ _ _ ⟨x,σ',g',he,⟨k1,r',k2,k3,k4,k5,k6,k7⟩,hs'⟩=>⟨x,σ',g',he,⟨k1,r',k2,k3,k4,fun _ _ _=>⟨k5,k6,k7⟩⟩,hs'⟩
end
end Go.Abs
end
section
namespace Go.Abs
open Go
def WeakSt (Γ:Env) (σ σ' : St):Prop:=∀ a w g,SR Γ.n0 Γ.nt Γ.g0 Γ.w0 σ a w g→∃ g',SR Γ.n0 Γ.nt Γ.g0 Γ.w0 σ' a w g'
theorem WeakSt.refl {Γ:Env} (σ:St):WeakSt Γ σ σ:=fun _ _ g h=>⟨g,h⟩
theorem WeakSt.trans {Γ:Env} {σ σ' σ'' : St} (h:WeakSt Γ σ σ') (k:WeakSt Γ σ' σ''):WeakSt Γ σ σ'':=fun a w g hs=>let ⟨g',h'⟩:=h a w g hs;k a w g' h'
variable {Γ:Env} {σ:St} {Q:Ex→St→Prop}
theorem Tr.weak {cc:CC} {σ' : St} (h:WeakSt Γ σ σ') (k:Tr Γ cc σ' Q):Tr Γ cc σ Q:=fun c hc a w g hs=>let ⟨g',h'⟩:=h a w g hs;k c hc a w g' h'
theorem Tr.mono {cc:CC} {Q' : Ex→St→Prop} (h:Tr Γ cc σ Q) (k:∀ e σ',Q e σ'→Q' e σ'):Tr Γ cc σ Q':=fun c hc a w g hs =>
 wp_mono (h c hc a w g hs) fun _ _ _ ⟨x,σ',g',he,hq,hs'⟩=>⟨x,σ',g',he,k _ _ hq,hs'⟩
theorem Q8l {P:Program} {T:Tk} {nt:Nat} {ops:Array Oper} {draw:Bool} {cc:CC} (h:Qng P T nt ops draw=some cc):∃ cs pc ps,cc = .region cs pc ps:=by
 unfold Qng at h
 grind
theorem Qp4 {P:Program} {T:Tk} {nt:Nat} {ops:Array Oper} {draw:Bool} {cc:CC} (h:Qbfc (Qng P T nt ops draw)=some cc):(∃ cs pc ps,cc = .region cs pc ps)∨cc = .dead:=by
 cases hr:Qng P T nt ops draw with
 | none=>rw [hr] at h;cases h;exact .inr rfl
 | some c=>rw [hr] at h;cases h;exact .inl (Q8l hr)
theorem Q69 {o:Option CC} {cs:List COp} {pc:Nat} {ps:List Pair} (h:Qbfc o=some (.region cs pc ps)):o=some (.region cs pc ps):=by
 cases o with
 | none=>cases h
 | some c=>exact h
theorem Tr.skip (h:Q .norm σ):Tr Γ .skip σ Q:=by
 intro c hc a w g hs;cases c<;>simp only [Qwc] at hc<;>try (cases hc;done)
 ·exact wp_skip ⟨.norm,σ,g,rfl,h,hs⟩
 ·grind [Qp4]
 ·split at hc<;>cases hc
 ·split at hc<;>cases hc
 ·simp at hc
 ·simp at hc
theorem Tr.exit {id:Nat} (h:Q (.exit id) σ):Tr Γ (.exit id) σ Q:=by
 intro c hc a w g hs;cases c<;>simp only [Qwc] at hc<;>try (cases hc;done)
 ·grind [Qp4]
 ·split at hc<;>cases hc
 ·split at hc<;>cases hc
 ·simp at hc
 ·simp at hc
 ·cases hc;exact wp_exit ⟨.exit id,σ,g,rfl,h,hs⟩
theorem Tr.ret (h:Q .ret σ):Tr Γ .ret σ Q:=by
 intro c hc a w g hs;cases c<;>simp only [Qwc] at hc<;>try (cases hc;done)
 ·grind [Qp4]
 ·split at hc<;>cases hc
 ·split at hc<;>cases hc
 ·simp at hc
 ·simp at hc
 ·exact wp_ret ⟨.ret,σ,g,rfl,h,hs⟩
def Qbgr (Γ:Env) (b:CC) (Q:Ex→St→Prop):Ex→St→Prop
 | .norm,σ'=>Tr Γ b σ' Q
 | .exit i,σ'=>Q (.exit i) σ'
 | .ret,σ'=>Q .ret σ'
theorem Tr.seq {x y:CC} (h:Tr Γ x σ (Qbgr Γ y Q)):Tr Γ (.seq x y) σ Q:=by
 intro c hc a w g hs;cases c<;>simp only [Qwc] at hc<;>try (cases hc;done)
 ·grind [Qp4]
 ·split at hc<;>cases hc;rename_i hx hy;refine wp_seq (wp_mono (h _ hx a w g hs) ?_);rintro e a' w' ⟨e',σ',g',rfl,hq,hs'⟩;cases e' with
  | norm=>exact hq _ hy a' w' g' hs'
  | exit id=>exact ⟨.exit id,σ',g',rfl,hq,hs'⟩
  | ret=>exact ⟨.ret,σ',g',rfl,hq,hs'⟩
 ·split at hc<;>cases hc
 ·simp at hc
 ·simp at hc
theorem Tr.cond {q:Arg} {x y:CC} {b:Bool} (hb:q.val σ.s = .d (.bool b)) (hx:b=true→Tr Γ x σ Q) (hy:b=false→Tr Γ y σ Q):Tr Γ (.cond q x y) σ Q:=by
 intro c hc a w g hs;cases c<;>simp only [Qwc] at hc<;>try (cases hc;done)
 ·grind [Qp4]
 ·split at hc<;>cases hc
 ·split at hc<;>cases hc;rename_i ha hcx hcy;obtain ⟨h1,_⟩:=Qg7 Γ.P hs ha;rw [hb] at h1;refine wp_cond (Q4d (by simpa [V.dem] using h1)) ?_;cases b with
  | true=>exact hx rfl _ hcx a w g hs
  | false=>exact hy rfl _ hcy a w g hs
 ·simp at hc
 ·simp at hc
def inB (id:Nat) (Q:Ex→St→Prop):Ex→St→Prop
 | .exit i,σ'=>bif Nat.beq i id then Q .norm σ' else Q (.exit i) σ'
 | .norm,σ'=>Q .norm σ'
 | .ret,σ'=>Q .ret σ'
theorem Tr.block {id:Nat} {x:CC} (h:Tr Γ x σ (inB id Q)):Tr Γ (.block id x) σ Q:=by
 intro c hc a w g hs;cases c<;>simp only [Qwc] at hc<;>try (cases hc;done)
 ·grind [Qp4]
 ·split at hc<;>cases hc
 ·split at hc<;>cases hc
 ·rename_i bid bc;simp only [Option.map_eq_some_iff,CC.block.injEq] at hc;obtain ⟨cx,hx,rfl,rfl⟩:=hc;refine wp_block (wp_mono (h _ hx a w g hs) ?_);rintro e a' w' ⟨e',σ',g',rfl,hq,hs'⟩;cases e' with
  | norm=>exact ⟨.norm,σ',g',rfl,hq,hs'⟩
  | exit id' =>
   simp only [Ex.to,Exit.inBlock];simp only [inB] at hq;split
   ·rename_i he;subst he;rw [show Nat.beq id' id'=true from by simp] at hq;exact ⟨.norm,σ',g',rfl,hq,hs'⟩
   ·rename_i he;have:Nat.beq id' bid=false:=by
     grind [Nat.beq,absurd,Nat.eq_of_beq_eq_true]
    rw [this] at hq;exact ⟨.exit id',σ',g',rfl,hq,hs'⟩
  | ret=>exact ⟨.ret,σ',g',rfl,hq,hs'⟩
 ·simp at hc
def Qbx {X R:Type} (F:(X→Option R)→X→Option R):Nat→X→Option R
 | 0,_=>none
 | n+1,x=>F (Qbx F n) x
def Qbk4 {X R:Type} (Γ:Env) (sites:List Nat) (mk:X→St) (rec' : X→Option R) (r:R) (Q:Ex→St→Prop):Ex→St→Prop
 | .norm,σ'=>∃ x',rec' x'=some r∧WeakSt Γ (Ql4 Γ.n0 sites σ') (mk x')
 | .exit i,σ'=>Q (.exit i) σ'
 | .ret,σ'=>Q .ret σ'
theorem Tr.loop {X R:Type} {F:(X→Option R)→X→Option R} {mk:X→St} {n:Nat} {x0:X} {r:R} {sites:List Nat} {x:CC} (h:Qbx F n x0=some r) (h0:WeakSt Γ (Ql4 Γ.n0 sites σ) (mk x0))
  (body:∀ (rec' : X→Option R) y,F rec' y=some r→Tr Γ x (mk y) (Qbk4 Γ sites mk rec' r Q)):Tr Γ (.loop sites x) σ Q:=by
 intro c hc a w g hs;cases c<;>simp only [Qwc] at hc<;>try (cases hc;done)
 ·grind [Qp4]
 ·split at hc<;>cases hc
 ·split at hc<;>cases hc
 ·simp at hc
 rename_i cb;simp only [Option.map_eq_some_iff,CC.loop.injEq] at hc;obtain ⟨cx,hx,rfl,rfl⟩:=hc;let S:Nat→Act→World→Prop:=fun n a w=>∃ y g,Qbx F n y=some r∧SR Γ.n0 Γ.nt Γ.g0 Γ.w0 (mk y) a w g;let μ:Act→World→Nat:=fun a w=>Qbgn fun n=>S n a w;obtain ⟨g',h'⟩:=h0 a w g (Q3v hs _);refine wp_loop (fun a w=>∃ n,S n a w) μ ⟨n,x0,g',h,h'⟩ ?_;intro a w hI;obtain ⟨y,g,hn,hy⟩:=Qbeq hI;change Qbx F (μ a w) y=some r at hn;generalize μ a w=m at hn;cases m with
 | zero=>cases hn
 | succ m =>
  refine wp_mono (body (Qbx F m) y hn cb hx a w g hy) ?_;rintro e a' w' ⟨e',σ',g',rfl,hq,hs'⟩;cases e' with
  | norm =>
   obtain ⟨x',hr,hw⟩:=hq;obtain ⟨g2,h2⟩:=hw a' w' g' (Q3v hs' _);have hI' : ∃ n,S n a' w':=⟨m,x',g2,hr,h2⟩;exact ⟨hI',Nat.lt_succ_of_le (Qbi1 (p:=fun n=>S n a' w') ⟨x',g2,hr,h2⟩)⟩
  | exit id=>exact ⟨.exit id,σ',g',rfl,hq,hs'⟩
  | ret=>exact ⟨.ret,σ',g',rfl,hq,hs'⟩
def Qbmc {X R:Type} (Γ:Env) (mk:X→St) (J:X→Option R) (r:R) (Q:Ex→St→Prop):Ex→St→Prop
 | .norm,σ'=>∃ x',J x'=some r∧WeakSt Γ σ' (mk x')
 | .exit i,σ'=>Q (.exit i) σ'
 | .ret,σ'=>Q .ret σ'
theorem Tr.cut {X R:Type} {x y:CC} (mk:X→St) (J:X→Option R) (r:R) (hy:∀ z,J z=some r→Tr Γ y (mk z) Q) (hx:Tr Γ x σ (Qbmc Γ mk J r Q)):Tr Γ (.seq x y) σ Q:=by
 refine Tr.seq (hx.mono ?_);intro e σ' hq;cases e with
 | norm=>obtain ⟨z,hj,hw⟩:=hq;exact (hy z hj).weak hw
 | exit id=>exact hq
 | ret=>exact hq
theorem Q7a (P:Program):Qbf5 P (ACalls P):=fun _ _ _ _ _ _ _ h=>h
def Q16 (Γ:Env):List COp→St→(St→Prop)→Prop
 | [],σ,Q=>∃ σ',WeakSt Γ σ σ'∧Q σ'
 | o::os,σ,Q=>∃ σ',WeakSt Γ σ σ'∧o.run (ACalls Γ.P) Γ.n0 0 σ' fun σ''=>Q16 Γ os σ'' Q
theorem Q92 {os:List COp} {σ σ' : St} {Q:St→Prop} (h:WeakSt Γ σ σ') (k:Q16 Γ os σ' Q):Q16 Γ os σ Q:=by
 cases os with
 | nil=>obtain ⟨σ2,h2,k⟩:=k;exact ⟨σ2,h.trans h2,k⟩
 | cons o os=>obtain ⟨σ2,h2,k⟩:=k;exact ⟨σ2,h.trans h2,k⟩
theorem Q8m {ops:Array Oper} {cs:List COp} (hcs:ops.toList.mapM (Qji Γ.P Γ.T Γ.nt ops)=some cs) {Q:St→Prop} {QQ:Exit→Act→World→Prop}
  (hQ:∀ σ' a' w' g',Q σ'→SR Γ.n0 Γ.nt Γ.g0 Γ.w0 σ' a' w' g'→QQ .normal a' w'):∀ (m j:Nat) (σ:St) (a:Act) (w:World) (g:G),j+m=ops.size→SR Γ.n0 Γ.nt Γ.g0 Γ.w0 σ a w g →
  Q16 Γ (cs.drop j) σ Q→wpOps Γ.P ops QQ (List.range' j m) a w:=by
 obtain ⟨hlen,hget⟩:=Qpc hcs;intro m
 induction m with
 | zero =>
  intro j σ a w g hj h hr;have:cs.drop j=[]:=List.drop_eq_nil_of_le (by rw [hlen];simp;omega);rw [this] at hr;obtain ⟨σ',hw,hq⟩:=hr;obtain ⟨g2,h2⟩:=hw a w g h;exact hQ _ _ _ g2 hq h2
 | succ m ih =>
  intro j σ a w g hj h hr;have hjl:j<cs.length:=by rw [hlen];simp;omega
  have hjo:j<ops.size:=by omega
  rw [List.drop_eq_getElem_cons hjl] at hr;obtain ⟨σ1,hw1,hr⟩:=hr;obtain ⟨g1,h⟩:=hw1 a w g h;have hc:Qji Γ.P Γ.T Γ.nt ops ops[j]=some cs[j]:=hget j ops[j] cs[j] (by simp [hjo]) (List.getElem?_eq_getElem hjl);have:=Q8g (QQ:=QQ) (Q7a Γ.P) hc h hr (KK:=wpOps Γ.P ops QQ (List.range' (j+1) m)) fun σ' a' w' g' hq hs=>ih (j+1) σ' a' w' g' (by omega) hs hq
  grind [List.range'_succ,Go.wpOps,Array.getElem?_eq_getElem]
theorem Tr.region {cs:List COp} (h:Q16 Γ cs σ (Q .norm)):Tr Γ (.region cs 9 []) σ Q:=by
 intro c hc a w g hs;cases c<;>simp only [Qwc] at hc<;>try (cases hc;done)
 case region id ops draw =>
  have hc:=Q69 hc;unfold Qng at hc;split at hc<;>try (cases hc;done)
  rename_i cs' hcs;cases draw with
  | true =>
   grind
  | false =>
   simp only [Bool.false_eq_true,if_false,Option.some.injEq,CC.region.injEq,true_and,and_true] at hc;subst hc;refine wp_region ?_;rw [List.range_eq_range'];exact Q8m (Γ:=Γ) hcs (Q:=Q .norm) (fun σ' a' w' g' hq hs'=>⟨.norm,σ',g',rfl,hq,hs'⟩) ops.size 0 σ a w g (by omega) hs (by simpa using h)
 ·split at hc<;>cases hc
 ·split at hc<;>cases hc
 ·simp at hc
 ·simp at hc
def Qx7 (ps:List Pair) (σ:St):Bool:=ps.all fun p=>Ql8 (σ.s p.a) p.n (σ.s p.b) p.m
theorem Tr.regionD {cs:List COp} {pc:Nat} {ps:List Pair} (hpc:pc≠9) (h:Q9b (ACalls Γ.P) Γ.n0 pc cs σ fun σ'=>Qx7 ps σ'=true∧Q .norm σ'):Tr Γ (.region cs pc ps) σ Q:=by
 intro c hc a w g hs;cases c<;>simp only [Qwc] at hc<;>try (cases hc;done)
 case region id ops draw =>
  have hc:=Q69 hc;unfold Qng at hc;split at hc<;>try (cases hc;done)
  rename_i cs' hcs;cases draw with
  | false=>grind
  | true =>
   simp only [if_true] at hc;split at hc<;>try (cases hc;done)
   rename_i hcond;simp only [Bool.or_eq_true,Bool.not_eq_true',not_or,Bool.not_eq_false,Bool.not_eq_true] at hcond;obtain ⟨⟨hup,hm⟩,hn⟩:=hcond;have hnil:∀ c∈cs',c.kind.isNil=false:=by
    grind
   have fin:Qub pc (ancs ops.toList) cs'=some ps→cs'=cs→(Code.region id ops true).wp Γ.P (lift Γ.n0 Γ.nt Γ.g0 Γ.w0 Q) a w:=by
    intro hps he;subst he;exact Qbep (Q7a Γ.P) hcs hup hm hnil hps (Q:=fun σ'=>Q .norm σ') (fun σ' a' w' g' hq hs=>⟨.norm,σ',g',rfl,hq,hs⟩) hs h
   grind
 ·split at hc<;>cases hc
 ·split at hc<;>cases hc
 ·simp at hc
 ·simp at hc
structure WkV (v v' : V):Prop where
 rd:Wk v v'
 on:∀ p,v.on p→v'.on p
theorem WkV.refl (v:V):WkV v v:=⟨fun _ _ _ _ h=>h,fun _ h=>h⟩
theorem WkV.same {v v' : V} (h:v=v'):WkV v v':=h ▸ .refl v
theorem sm {v v' : V} (h:v=v'):WkV v v':=h ▸ .refl v
theorem WkV.und (v:V):WkV v .und:=⟨fun _ _ _ _ _=>by simp [RV],fun _ _=>trivial⟩
theorem WkV.dem (v:V):WkV v v.dem:=⟨fun _ _ ℓ _ h=>Qh1 v ℓ ℓ _ h,fun _ h=>(Qdy v).2 h⟩
theorem WkV.dem' {v v' : V} (h:v.dem=v'):WkV v v':=h ▸ .dem v
theorem WkV.ownT (sz:Nat) (l:List (List D)):WkV (.own sz l) (.ownT sz l):=⟨fun _ _ _ _ h=>Qbbj h,fun _ _=>trivial⟩
theorem WkV.trans {a b c:V} (h:WkV a b) (k:WkV b c):WkV a c:=⟨fun g w ℓ u hv=>k.rd g w ℓ u (h.rd g w ℓ u hv),fun p hp=>k.on p (h.on p hp)⟩
inductive WkVs:List V→List V→Prop where
 | nil:WkVs [] []
 | cons {v v' : V} {vs vs' : List V} (h:WkV v v') (t:WkVs vs vs'):WkVs (v::vs) (v'::vs')
theorem WkVs.rd {vs vs' : List V} (h:WkVs vs vs'):∀ g w ℓ i us,RVs g w vs ℓ i us→RVs g w vs' ℓ i us:=by
 induction h with
 | nil=>grind
 | cons h t ih =>
  intro g w ℓ i us hv;simp only [RVs] at hv ⊢;obtain ⟨u,us',rfl,h1,h2⟩:=hv;exact ⟨u,us',rfl,h.rd _ _ _ _ h1,ih _ _ _ _ _ h2⟩
theorem WkVs.on {vs vs' : List V} (h:WkVs vs vs'):∀ p,V.ons p vs→V.ons p vs':=by
 induction h with
 | nil=>exact fun _ h=>h
 | cons h t ih=>exact fun p hv=>⟨h.on p hv.1,ih p hv.2⟩
theorem WkVs.refl:∀ vs:List V,WkVs vs vs
 | []=>.nil
 | v::vs=>.cons (.refl v) (WkVs.refl vs)
theorem WkV.tup {vs vs' : List V} (h:WkVs vs vs'):WkV (.tup vs) (.tup vs'):=by
 refine ⟨fun g w ℓ u hv=>?_,fun p hv=>h.on p hv⟩;simp only [RV] at hv ⊢;obtain ⟨us,rfl,hv⟩:=hv;exact ⟨us,rfl,h.rd _ _ _ _ _ hv⟩
theorem WkV.agg {vs vs' : List V} (h:WkVs vs vs'):WkV (.agg vs) (.agg vs'):=by
 refine ⟨fun g w ℓ u hv=>?_,fun p hv=>h.on p hv⟩;simp only [RV] at hv ⊢;obtain ⟨us,rfl,hv,h1⟩:=hv;exact ⟨us,rfl,h.rd _ _ _ _ _ hv,h1⟩
def look:List (Nat×V)→Sl
 | [],_=>.und
 | (t,v)::E,i=>bif Nat.beq i t then v else look E i
def WkL (s:Sl):List (Nat×V)→Prop
 | []=>True
 | (t,v)::E=>WkV (s t) v∧WkL s E
theorem WkL.at {s:Sl}:∀ {E:List (Nat×V)},WkL s E→∀ t,WkV (s t) (look E t)
 | [],_,t=>.und _
 | (u,v)::E,h,t=>by
  simp only [look];cases hb:Nat.beq t u with
  | true=>have:=Nat.eq_of_beq_eq_true hb;subst this;exact h.1
  | false=>exact WkL.at h.2 t
theorem Qc1 (E:List (Nat×V)) (t:Nat) (v:V):(look E).put t v=look ((t,v)::E):=by
 funext i
 simp_all [Sl.put,look,Nat.beq,Nat.eq_of_beq_eq_true]
def Qb8:List (Nat×Bx)→Nat→Option Bx
 | [],_=>none
 | (t,b)::L,i=>bif Nat.beq i t then some b else Qb8 L i
def Qo (n0:Nat) (L:List (Nat×Bx)) (M0:Mem):Mem:=fun k=>if k<n0 then M0 k else Qb8 L (k-n0)
theorem Qdm {n0:Nat} {L:List (Nat×Bx)} {M0:Mem} {t:Nat}:Qo n0 L M0 (n0+t)=Qb8 L t:=by
 simp_all [Qo,Nat.add_sub_cancel_left,if_neg]
theorem Qev {n0:Nat} {L:List (Nat×Bx)} {M0:Mem} {k:Nat} (h:k<n0):Qo n0 L M0 k=M0 k:=by
 simp [Qo,h]
theorem Q0q {n0:Nat} {M0:Mem} (h:∀ k,n0≤k→M0 k=none):Qo n0 [] M0=M0:=by
 funext k;simp only [Qo];split
 ·rfl
 ·exact (h k (by omega)).symm
theorem Qd7 {n0:Nat} {L:List (Nat×Bx)} {M0:Mem} {t:Nat} {b:Bx}:(Qo n0 L M0).put (n0+t) b=Qo n0 ((t,b)::L) M0:=by
 funext k;simp only [Mem.put,Qo,Qb8];by_cases h:k=n0+t
 ·subst h;rw [if_pos rfl,if_neg (by omega)];simp
 ·rw [if_neg h];by_cases hk:k<n0
  ·simp [hk]
  ·simp only [hk,if_false]
   grind [Nat.beq,Nat.eq_of_beq_eq_true]
theorem Qun {n0:Nat} {L:List (Nat×Bx)} {M0:Mem} {k:Nat} {b:Bx} (h:k<n0):(Qo n0 L M0).put k b=Qo n0 L (M0.put k b):=by
 grind [Mem.put,Qo]
def KL (n0:Nat) (sites:List Nat) (s:Sl):List (Nat×V)→Prop
 | []=>True
 | (t,v)::E=>WkV (Qdx (Qjh n0 sites) (s t)) v∧KL n0 sites s E
theorem KL.at {n0:Nat} {sites:List Nat} {s:Sl}:∀ {E:List (Nat×V)},KL n0 sites s E→∀ t,WkV (Qdx (Qjh n0 sites) (s t)) (look E t)
 | [],_,t=>.und _
 | (u,v)::E,h,t=>by
  simp only [look];cases hb:Nat.beq t u with
  | true=>have:=Nat.eq_of_beq_eq_true hb;subst this;exact h.1
  | false=>exact KL.at h.2 t
def KB (n0:Nat) (sites:List Nat) (L:List (Nat×Bx)):List (Nat×Bx)→Prop
 | []=>True
 | (t,.cells cs')::L'=>(∃ cs,Qb8 L t=some (.cells cs)∧sites.all (fun u=>!Nat.beq t u)=true∧WkVs (cs.map (Qdx (Qjh n0 sites))) cs')∧KB n0 sites L L'
 | (t,.mp es c)::L'=>(Qb8 L t=some (.mp es c)∧sites.all (fun u=>!Nat.beq t u)=true)∧KB n0 sites L L'
abbrev bxs (L:List (Nat×Bx)):List (Nat×Bx):=L
theorem KB.at {n0:Nat} {sites:List Nat} {L:List (Nat×Bx)}:∀ {L' : List (Nat×Bx)},KB n0 sites L L'→∀ t b,Qb8 L' t=some b→sites.all (fun u=>!Nat.beq t u)=true ∧
  ((∃ cs' cs,b = .cells cs'∧Qb8 L t=some (.cells cs)∧WkVs (cs.map (Qdx (Qjh n0 sites))) cs')∨∃ es c,b = .mp es c∧Qb8 L t=some (.mp es c))
 | [],_,t,b,hb=>by simp [Qb8] at hb
 | (u,.cells cs')::L',h,t,b,hb=>by
  simp only [Qb8] at hb;cases hbe:Nat.beq t u with
  | true =>
   have:=Nat.eq_of_beq_eq_true hbe;subst this;rw [hbe] at hb;simp only [cond_true,Option.some.injEq] at hb;obtain ⟨cs,h1,h2,h3⟩:=h.1
   grind
  | false =>
   rw [hbe] at hb;exact KB.at h.2 t b hb
 | (u,.mp es c)::L',h,t,b,hb=>by
  simp only [Qb8] at hb;cases hbe:Nat.beq t u with
  | true =>
   have:=Nat.eq_of_beq_eq_true hbe;subst this;rw [hbe] at hb;simp only [cond_true,Option.some.injEq] at hb;exact ⟨h.1.2,.inr ⟨es,c,hb.symm,h.1.1⟩⟩
  | false =>
   rw [hbe] at hb;exact KB.at h.2 t b hb
theorem Q0r:∀ {L:List (Nat×Bx)} {t:Nat} {b:Bx},Qb8 L t=some b→∃ p∈L,p.1=t
 | [],_,_,h=>by simp [Qb8] at h
 | (u,c)::L,t,b,h=>by
  simp only [Qb8] at h;cases hbe:Nat.beq t u with
  | true=>exact ⟨(u,c),by simp,(Nat.eq_of_beq_eq_true hbe).symm⟩
  | false =>
   rw [hbe] at h;obtain ⟨p,hp,e⟩:=Q0r h;exact ⟨p,by simp [hp],e⟩
theorem Q17:∀ {L:List (Nat×Bx)} {p:Nat×Bx},p∈L→(Qb8 L p.1).isSome=true
 | (u,c)::L,p,h=>by
  simp only [Qb8];cases hbe:Nat.beq p.1 u with
  | true=>rfl
  | false =>
   rcases List.mem_cons.1 h with rfl|h
   ·simp at hbe
   ·exact Q17 h
theorem Qp5 {n0 t:Nat} {sites:List Nat}:Qjh n0 sites (n0+t)=sites.any fun u=>Nat.beq t u:=by
 unfold Qjh;congr 1;funext u;cases hb:Nat.beq t u with
 | true=>simp_all
 | false =>
  have:t≠u:=fun e=>by subst e;simp at hb
  simp [this]
theorem Qpt {n0 k:Nat} {sites:List Nat} (h:k<n0):Qjh n0 sites k=false:=by
 grind [Qjh,Qbgm]
theorem Qbdd {sites:List Nat} {s1 s' : Sl} {E:List (Nat×V)} {L:List (Nat×Bx)} {L' : List (Nat×Bx)} {M0:Mem} {nb:Nat} (hE:∀ t,WkV (s1 t) (s' t)) (hL:KB Γ.n0 sites L L')
  (hk:(L.all fun p=>sites.any (Nat.beq p.1)||L'.any fun q=>Nat.beq p.1 q.1)=true) :
  WeakSt Γ ⟨s1,(Ql4 Γ.n0 sites ⟨look E,Qo Γ.n0 L M0,nb⟩).M,nb⟩ ⟨s',Qo Γ.n0 (bxs L') M0,nb⟩:=by
 intro a w g hs;have hbase:∀ k,k<Γ.n0→(Ql4 Γ.n0 sites ⟨look E,Qo Γ.n0 L M0,nb⟩).M k=M0 k:=by
  simp_all [Ql4,Qpt,Bool.false_eq_true,if_false,if_true,Qev]
 have hown:∀ t cs,sites.all (fun u=>!Nat.beq t u)=true→Qb8 L t=some (.cells cs)→(Ql4 Γ.n0 sites ⟨look E,Qo Γ.n0 L M0,nb⟩).M (Γ.n0+t)=some (.cells (cs.map (Qdx (Qjh Γ.n0 sites)))):=by
  intro t cs h1 h2;have h3:Qjh Γ.n0 sites (Γ.n0+t)=false:=by
   simp_all [Qp5,List.any_eq_false,List.all_eq_true,Bool.not_eq_true']
  have h4:¬ Γ.n0+t<Γ.n0:=by omega
  have h5:Qo Γ.n0 L M0 (Γ.n0+t)=some (.cells cs):=by rw [Qdm];exact h2
  simp only [Ql4,h3,Bool.false_eq_true,if_false,h4,h5]
 have hownm:∀ t es c,sites.all (fun u=>!Nat.beq t u)=true→Qb8 L t=some (.mp es c)→(Ql4 Γ.n0 sites ⟨look E,Qo Γ.n0 L M0,nb⟩).M (Γ.n0+t)=some (.mp es c):=by
  intro t es c h1 h2;have h3:Qjh Γ.n0 sites (Γ.n0+t)=false:=by
   simp_all [Qp5,List.any_eq_false,List.all_eq_true,Bool.not_eq_true']
  have h4:¬ Γ.n0+t<Γ.n0:=by omega
  have h5:Qo Γ.n0 L M0 (Γ.n0+t)=some (.mp es c):=by rw [Qdm];exact h2
  simp only [Ql4,h3,Bool.false_eq_true,if_false,h4,h5]
 have hsplit:∀ k,k<Γ.n0∨∃ t,k=Γ.n0+t:=fun k=>by
  rcases Nat.lt_or_ge k Γ.n0 with h|h
  ·exact .inl h
  ·exact .inr ⟨k-Γ.n0,by omega⟩
 have hthere:∀ k,There (Ql4 Γ.n0 sites ⟨look E,Qo Γ.n0 L M0,nb⟩).M k→There (Qo Γ.n0 (bxs L') M0) k:=by
  intro k hk';rcases hsplit k with h|⟨t,rfl⟩
  ·grind [There,Qev]
  ·simp only [There,Qdm];have h4:¬ Γ.n0+t<Γ.n0:=by omega
   have h6:Qjh Γ.n0 sites (Γ.n0+t)=false:=by
    grind [Qjh,There,Ql4]
   have h7:∃ b,Qb8 L t=some b:=by
    cases hb:Qb8 L t with
    | some b=>exact ⟨b,rfl⟩
    | none =>
     have h5:Qo Γ.n0 L M0 (Γ.n0+t)=none:=by rw [Qdm];exact hb
     simp only [There,Ql4,h6,Bool.false_eq_true,if_false,h4,h5] at hk';cases hk'
   obtain ⟨b,hb⟩:=h7;obtain ⟨p,hp,rfl⟩:=Q0r hb;have:=List.all_eq_true.1 hk p hp;rw [Qp5] at h6;rw [Bool.or_eq_true] at this;rcases this with h8|h8
   ·rw [h6] at h8;cases h8
   ·obtain ⟨q,hq,he⟩:=List.any_eq_true.1 h8
    grind [Nat.eq_of_beq_eq_true,Q17]
 refine ⟨g,⟨⟨fun k b hb=>?_,hs.mem.imm⟩,fun t=>(hE t).rd _ _ _ _ (hs.slots t),hs.size,hs.defers,fun t=>Qfx hthere _ ((hE t).on _ (hs.onS t)),fun k cs hb=>?_,hs.top,hs.fr⟩⟩
 ·rcases hsplit k with h|⟨t,rfl⟩
  ·have hb' : (Ql4 Γ.n0 sites ⟨look E,Qo Γ.n0 L M0,nb⟩).M k=some b:=by grind [Qev]
   exact hs.mem.box k b hb'
  ·have hb' : Qb8 (bxs L') t=some b:=by rw [← hb];exact Qdm.symm
   obtain ⟨h2,⟨cs',cs,rfl,h1,h3⟩|⟨es,c,rfl,h1⟩⟩:=hL.at t b hb'
   ·obtain ⟨k1,k2,vals,e,k3,k4,k5⟩:=hs.mem.box _ _ (hown t cs h2 h1);exact ⟨k1,k2,vals,e,k3,h3.rd _ _ _ _ _ k4,k5⟩
   ·exact hs.mem.box _ _ (hownm t es c h2 h1)
 ·rcases hsplit k with h|⟨t,rfl⟩
  ·have hb' : (Ql4 Γ.n0 sites ⟨look E,Qo Γ.n0 L M0,nb⟩).M k=some (.cells cs):=by grind [Qev]
   obtain ⟨k1,k2⟩:=hs.onM k cs hb';exact ⟨ons_mono hthere _ k1,k2⟩
  ·have hb' : Qb8 (bxs L') t=some (.cells cs):=by rw [← hb];exact Qdm.symm
   obtain ⟨h2,⟨cs',cs0,he,h1,h3⟩|⟨es,c,he,h1⟩⟩:=hL.at t _ hb'<;>cases he;obtain ⟨k1,k2⟩:=hs.onM _ _ (hown t cs0 h2 h1);exact ⟨ons_mono hthere _ (h3.on _ k1),fun hlt=>absurd hlt (by omega)⟩
theorem Q7b {sites:List Nat} {E E' : List (Nat×V)} {L:List (Nat×Bx)} {L' : List (Nat×Bx)} {M0:Mem} {nb:Nat} (hE:KL Γ.n0 sites (look E) E') (hL:KB Γ.n0 sites L L')
  (hk:(L.all fun p=>sites.any (Nat.beq p.1)||L'.any fun q=>Nat.beq p.1 q.1)=true) :
  WeakSt Γ (Ql4 Γ.n0 sites ⟨look E,Qo Γ.n0 L M0,nb⟩) ⟨look E',Qo Γ.n0 (bxs L') M0,nb⟩:=Qbdd (E:=E) (s1:=(Ql4 Γ.n0 sites ⟨look E,Qo Γ.n0 L M0,nb⟩).s) hE.at hL hk
theorem Qhg (sites:List Nat) {E E' : List (Nat×V)} {L:List (Nat×Bx)} {L' : List (Nat×Bx)} {M0:Mem} {nb:Nat} (hE:KL Γ.n0 sites (look E) E') (hL:KB Γ.n0 sites L L')
  (hk:(L.all fun p=>sites.any (Nat.beq p.1)||L'.any fun q=>Nat.beq p.1 q.1)=true) :
  WeakSt Γ ⟨look E,Qo Γ.n0 L M0,nb⟩ ⟨look E',Qo Γ.n0 (bxs L') M0,nb⟩ :=
 WeakSt.trans (fun a w g hs=>⟨g,Q3v hs sites⟩) (Q7b hE hL hk)
theorem kPtr {n0 t o:Nat} {sites:List Nat} (h:sites.any (fun u=>Nat.beq t u)=false):WkV (Qdx (Qjh n0 sites) (.ptr (n0+t) o)) (.ptr (n0+t) o):=by
 refine .same ?_;simp [Qdx,Qp5,h]
theorem Qbmw {n0 k o:Nat} {sites:List Nat} (h:k<n0):WkV (Qdx (Qjh n0 sites) (.ptr k o)) (.ptr k o):=by
 refine .same ?_;simp [Qdx,Qpt h]
theorem kSl {n0 t sz o n c:Nat} {sites:List Nat} (h:sites.any (fun u=>Nat.beq t u)=false):WkV (Qdx (Qjh n0 sites) (.sl sz (n0+t) o n c)) (.sl sz (n0+t) o n c):=by
 refine .same ?_;simp [Qdx,Qp5,h]
theorem WkVs.same {vs vs' : List V} (h:vs=vs'):WkVs vs vs':=h ▸ .refl vs
end Go.Abs
end
section
namespace Go.Abs
open Go
variable {Γ:Env} {pc d nb:Nat} {os:List COp} {E:List (Nat×V)} {M M' M0:Mem} {L:List (Nat×Bx)} {Q:St→Prop} {σ:St}
def RnP (Γ:Env) (pc:Nat) (os:List COp) (σ:St) (Q:St→Prop):Prop :=
 bif Nat.beq pc 9 then Q16 Γ os σ Q else Q9b (ACalls Γ.P) Γ.n0 pc os σ Q
structure Rn (Γ:Env) (pc:Nat) (os:List COp) (σ:St) (Q:St→Prop):Prop where
 run:RnP Γ pc os σ Q
theorem Tr.rgn {cs:List COp} {Q:Ex→St→Prop} (h:Rn Γ 9 cs σ (Q .norm)):Tr Γ (.region cs 9 []) σ Q:=Tr.region h.run
theorem Tr.rgnD {cs:List COp} {Q:Ex→St→Prop} {pc:Nat} {ps:List Pair} (hpc:pc≠9) (h:Rn Γ pc cs σ fun σ'=>Qx7 ps σ'=true∧Q .norm σ'):Tr Γ (.region cs pc ps) σ Q:=by
 refine Tr.regionD hpc ?_;have h:=h.run;unfold RnP at h;have:Nat.beq pc 9=false:=by
  cases hb:Nat.beq pc 9 with
  | false=>rfl
  | true=>exact absurd (Nat.eq_of_beq_eq_true hb) hpc
 rw [this] at h;exact h
theorem Rn.weak {σ' : St} (h:WeakSt Γ σ σ') (k:Rn Γ 9 os σ' Q):Rn Γ 9 os σ Q:=⟨Q92 h k.run⟩
theorem Rn.nil (h:Q σ):Rn Γ pc [] σ Q:=by
 refine ⟨?_⟩;unfold RnP;cases Nat.beq pc 9 with
 | true=>exact ⟨σ,.refl _,h⟩
 | false=>exact h
theorem COp.run_mono {C:Ctx} {n0 pc:Nat} {o:COp} {σ:St} {Q Q' : St→Prop} (h:o.run C n0 pc σ Q) (k:∀ σ',Q σ'→Q' σ'):o.run C n0 pc σ Q':=by
 unfold COp.run at *
 cases hw:o.wanted σ.s with
 | none=>rw [hw] at h;exact h.elim
 | some b =>
  rw [hw] at h;cases b with
  | false=>exact k _ h
  | true =>
   simp only at h ⊢;cases hc:o.kind.isCall with
   | true =>
    rw [hc] at h;simp only [if_true] at h ⊢;cases hcal:o.callee σ.s with
    | none=>rw [hcal] at h;exact h.elim
    | some fa =>
     rw [hcal] at h;simp only at h ⊢
     match pc,h with
     | 0,⟨r,M,nb,h1,h2,h3,h4⟩=>exact ⟨r,M,nb,h1,h2,h3,k _ h4⟩
     | 1,⟨r,Δ,nb,h1,h4⟩=>exact ⟨r,Δ,nb,h1,k _ h4⟩
     | n+2,h =>
      have h:(if n<8 then _ else _):=h;show (if n<8 then _ else _);by_cases hn8:n<8
      ·rw [if_pos hn8] at h ⊢;obtain ⟨r,h1,h4⟩:=h;exact ⟨r,h1,k _ h4⟩
      ·rw [if_neg hn8] at h ⊢;obtain ⟨r,W,Δ,nb,h1,h2,h3,h5,h4⟩:=h;exact ⟨r,W,Δ,nb,h1,h2,h3,h5,k _ h4⟩
   | false =>
    rw [hc] at h;simp only [Bool.false_eq_true,if_false] at h ⊢;cases hn:o.kind.isNil with
    | true =>
     rw [hn] at h;simp only [if_true] at h ⊢;unfold COp.runN at h ⊢;split at h
     ·obtain ⟨hp,r,M,nb,h1,h2,h3,h4⟩:=h;exact ⟨hp,r,M,nb,h1,h2,h3,k _ h4⟩
     cases hl:Q35 (o.xs σ.s) with
     | none=>rw [hl] at h;exact h.elim
     | some n=>rw [hl] at h;exact fun b hb=>k _ (h b hb)
    | false =>
     rw [hn] at h;simp only [Bool.false_eq_true,if_false] at h ⊢;cases hs:o.step n0 σ with
     | none=>rw [hs] at h;exact h.elim
     | some σ'=>rw [hs] at h;exact k _ h
def pcOf (pc:Nat):Nat:=bif Nat.beq pc 9 then 0 else pc
def one (n:Nat):Bool:=Nat.beq n 1||Nat.ble 10 n
theorem Rn.cons {o:COp} (h:o.run (ACalls Γ.P) Γ.n0 (pcOf pc) σ fun σ'=>Rn Γ pc os σ' Q):Rn Γ pc (o::os) σ Q:=by
 have h:=COp.run_mono h (Q':=fun σ'=>RnP Γ pc os σ' Q) fun _ h=>h.run;refine ⟨?_⟩;unfold RnP pcOf at *
 cases hb:Nat.beq pc 9 with
 | true=>rw [hb] at h;exact ⟨σ,.refl _,h⟩
 | false=>rw [hb] at h;exact h
def Wn (E:List (Nat×V)):Option (Nat×Bool)→Prop
 | none=>True
 | some (g,w)=>look E g = .d (.bool w)
theorem gw {g:Nat} {b w:Bool} (h:look E g = .d (.bool b)) (hb:b=w):Wn E (some (g,w)):=hb ▸ h
theorem Wn.wanted {gd:Option (Nat×Bool)} (h:Wn E gd) (dst:Option Nat) (k:K) (as:List Arg) (tk:Bool):COp.wanted ⟨dst,k,as,tk,gd⟩ (look E)=some true:=by
 unfold COp.wanted;cases gd with
 | none=>rfl
 | some p =>
  obtain ⟨g,w⟩:=p;have h:look E g = .d (.bool w):=h;simp [h]
def Nw (E:List (Nat×V)) (g:Nat) (want:Bool):Prop:=look E g = .d (.bool (!want))∨look E g = .tup []
theorem nw {g:Nat} {b w:Bool} (h:look E g = .d (.bool b)) (hb:b = !w):Nw E g w:=.inl (hb ▸ h)
theorem nu {g:Nat} {w:Bool} (h:look E g = .tup []):Nw E g w:=.inr h
theorem Rn.gF {dst:Option Nat} {k:K} {as:List Arg} {tk:Bool} {g:Nat} {want:Bool} (hg:Nw E g want) (h:Rn Γ pc os ⟨Qbe (look E) dst (.tup []),M,nb⟩ Q):Rn Γ pc (⟨dst,k,as,tk,some (g,want)⟩::os) ⟨look E,M,nb⟩ Q:=by
 refine Rn.cons ?_;have hw:COp.wanted ⟨dst,k,as,tk,some (g,want)⟩ (look E)=some false:=by
  rcases hg with hg|hg<;>simp [COp.wanted,hg]
 unfold COp.run;rw [hw];exact h
theorem Rn.sk {t:Nat} {k:K} {as:List Arg} {tk:Bool} {g:Nat} {want:Bool} (hg:Nw E g want) (h:Rn Γ pc os ⟨look ((t,.tup [])::E),M,nb⟩ Q):Rn Γ pc (⟨some t,k,as,tk,some (g,want)⟩::os) ⟨look E,M,nb⟩ Q:=by
 refine Rn.gF hg ?_;rw [show Qbe (look E) (some t) (.tup [])=look ((t,.tup [])::E) from Qc1 E t _];exact h
variable {gd:Option (Nat×Bool)}
theorem Rn.k {k:K} {as:List Arg} {v:V} (hw:Wn E gd) (hc:k.isCall=false) (hn:k.isNil=false) (hk:Qi Γ.n0 (Γ.n0+d) k (V.dems (as.map (·.val (look E)))) M=some (v,M'))
  (h:Rn Γ pc os ⟨look ((d,v)::E),M',nb⟩ Q):Rn Γ pc (⟨some d,k,as,false,gd⟩::os) ⟨look E,M,nb⟩ Q:=by
 refine Rn.cons ?_;unfold COp.run;rw [hw.wanted];simp only [hc,hn,Bool.false_eq_true,if_false,COp.step,COp.xs,Option.getD_some,hk,Qbe];rw [Qc1];exact h
theorem Rn.kT {k:K} {as:List Arg} {v:V} {E' : List (Nat×V)} (hw:Wn E gd) (hc:k.isCall=false) (hn:k.isNil=false) (hk:Qi Γ.n0 (Γ.n0+d) k (as.map (·.val (look E))) M=some (v,M'))
  (hp:∀ i,(Q4 (look E) as (Qbz k (as.map (·.val (look E))))).put d v i=look E' i)
  (h:Rn Γ pc os ⟨look E',M',nb⟩ Q):Rn Γ pc (⟨some d,k,as,true,gd⟩::os) ⟨look E,M,nb⟩ Q:=by
 refine Rn.cons ?_;unfold COp.run;rw [hw.wanted];simp only [hc,hn,Bool.false_eq_true,if_false,COp.step,COp.xs,Option.getD_some,hk,Qbe,if_true];have:(Q4 (look E) as (Qbz k (as.map (·.val (look E))))).put d v=look E':=funext hp;rw [this];exact h
theorem Rn.kS {n:Nat} {as:List Arg} {tk:Bool} {v:V} {E' : List (Nat×V)} (hw:Wn E gd) (hk:Qi Γ.n0 (Γ.n0+0) (.store n) (if tk then as.map (·.val (look E)) else V.dems (as.map (·.val (look E)))) M=some (v,M'))
  (hp:∀ i,(if tk then Q4 (look E) as (Qbz (.store n) (as.map (·.val (look E)))) else look E) i=look E' i)
  (h:Rn Γ pc os ⟨look E',M',nb⟩ Q):Rn Γ pc (⟨none,.store n,as,tk,gd⟩::os) ⟨look E,M,nb⟩ Q:=by
 refine Rn.cons ?_;unfold COp.run;rw [hw.wanted];have hk' : Qi Γ.n0 (Γ.n0+(none:Option Nat).getD 0) (.store n) (COp.xs ⟨none,.store n,as,tk,gd⟩ (look E)) M=some (v,M'):=hk;simp only [show (K.store n).isCall=false from rfl,show (K.store n).isNil=false from rfl,Bool.false_eq_true,if_false,COp.step,hk',Qbe];have hp' : (if tk=true then Q4 (look E) as (Qbz (.store n) (COp.xs ⟨none,.store n,as,tk,gd⟩ (look E))) else look E)=look E':=by
  funext i;rw [← hp i];cases tk<;>simp [COp.xs]
 rw [hp'];exact h
variable {a b c:Arg} {x y:D}
theorem Rn.mov {v:V} (hw:Wn E gd) (ha:(a.val (look E)).dem=v) (h:Rn Γ pc os ⟨look ((d,v)::E),M,nb⟩ Q):Rn Γ pc (⟨some d,.mov,[a],false,gd⟩::os) ⟨look E,M,nb⟩ Q:=by
 refine Rn.k hw rfl rfl ?_ h;simp [V.dems,Qi,ha]
theorem Rn.movD (hw:Wn E gd) (ha:a.val (look E) = .d x) (h:Rn Γ pc os ⟨look ((d,.d x)::E),M,nb⟩ Q):Rn Γ pc (⟨some d,.mov,[a],false,gd⟩::os) ⟨look E,M,nb⟩ Q :=
 Rn.mov hw (by rw [ha];rfl) h
theorem Rn.movTF {t:Nat} {v:V} (hw:Wn E gd) (ha:look E t=v) (hf:v.dem=v) (h:Rn Γ pc os ⟨look ((d,v)::E),M,nb⟩ Q):Rn Γ pc (⟨some d,.mov,[.t t],true,gd⟩::os) ⟨look E,M,nb⟩ Q:=by
 refine Rn.kT hw rfl rfl (v:=v) (by simp [Arg.val,ha,Qi]) (fun i=>?_) h;simp only [List.map_cons,List.map_nil,Arg.val,ha,Qbz,hf,Q4,Arg.putTo];rw [← Qc1];have:(look E).put t v=look E:=by
  funext i;simp only [Sl.put];split
  ·rename_i e;subst e;exact ha.symm
  ·rfl
 rw [this]
theorem Rn.movTC {v:V} (hw:Wn E gd) (h:Rn Γ pc os ⟨look ((d,v)::E),M,nb⟩ Q):Rn Γ pc (⟨some d,.mov,[.c v],true,gd⟩::os) ⟨look E,M,nb⟩ Q:=by
 refine Rn.kT hw rfl rfl (v:=v) (by simp [Arg.val,Qi]) (fun i=>?_) h;simp only [List.map_cons,List.map_nil,Arg.val,Qbz,Q4,Arg.putTo];rw [← Qc1]
theorem Rn.movTO {t sz:Nat} {l:List (List D)} (hw:Wn E gd) (ha:look E t = .own sz l) (h:Rn Γ pc os ⟨look ((d,.own sz l)::(t,.d (.lst sz l))::E),M,nb⟩ Q):Rn Γ pc (⟨some d,.mov,[.t t],true,gd⟩::os) ⟨look E,M,nb⟩ Q:=by
 refine Rn.kT hw rfl rfl (v:=.own sz l) (by simp [Arg.val,ha,Qi]) (fun i=>?_) h;simp only [List.map_cons,List.map_nil,Arg.val,ha,Qbz,V.dem,Q4,Arg.putTo];rw [← Qc1,← Qc1]
theorem Rn.bin {op:BinOp} {tb:Bool} {z:D} (hw:Wn E gd) (ha:a.val (look E) = .d x) (hb:b.val (look E) = .d y) (hz:binD op tb x y=some z) (h:Rn Γ pc os ⟨look ((d,.d z)::E),M,nb⟩ Q):Rn Γ pc (⟨some d,.bin op tb,[a,b],false,gd⟩::os) ⟨look E,M,nb⟩ Q:=by
 refine Rn.k hw rfl rfl ?_ h;simp [ha,hb,V.dems,V.dem,Qi,hz]
theorem Rn.un {op:UnOp} {z:D} (hw:Wn E gd) (ha:a.val (look E) = .d x) (hz:unD op x=some z) (h:Rn Γ pc os ⟨look ((d,.d z)::E),M,nb⟩ Q):Rn Γ pc (⟨some d,.un op,[a],false,gd⟩::os) ⟨look E,M,nb⟩ Q:=by
 refine Rn.k hw rfl rfl ?_ h;simp [ha,V.dems,V.dem,Qi,hz]
theorem Rn.conv {k k' : IntKind} {n:Int} (hw:Wn E gd) (ha:a.val (look E) = .d (.int k' n)) (h:Rn Γ pc os ⟨look ((d,.d (.int k (k.wrap n)))::E),M,nb⟩ Q):Rn Γ pc (⟨some d,.conv k,[a],false,gd⟩::os) ⟨look E,M,nb⟩ Q:=by
 refine Rn.k hw rfl rfl ?_ h;simp [ha,V.dems,V.dem,Qi]
theorem Rn.eqa {neg r:Bool} {ks:List Nat} {xs ys:List V} (hw:Wn E gd) (ha:(a.val (look E)).dem = .agg xs) (hb:(b.val (look E)).dem = .agg ys) (hz:Qd6 ks xs ys=some r) (h:Rn Γ pc os ⟨look ((d,.d (.bool (bif neg then !r else r)))::E),M,nb⟩ Q):Rn Γ pc (⟨some d,.eqa neg ks,[a,b],false,gd⟩::os) ⟨look E,M,nb⟩ Q:=by
 refine Rn.k hw rfl rfl ?_ h;cases neg<;>simp [ha,hb,V.dems,Qi,hz]
theorem Rn.pickT {v:V} {q:Bool} (hw:Wn E gd) (hq:c.val (look E) = .d (.bool q)) (hb:q=true) (ha:(a.val (look E)).dem=v) (h:Rn Γ pc os ⟨look ((d,v)::E),M,nb⟩ Q):Rn Γ pc (⟨some d,.pick,[c,a,b],false,gd⟩::os) ⟨look E,M,nb⟩ Q:=by
 subst hb;refine Rn.k hw rfl rfl ?_ h;simp [hq,V.dems,V.dem,Qi,ha]
theorem Rn.pickF {v:V} {q:Bool} (hw:Wn E gd) (hq:c.val (look E) = .d (.bool q)) (hb:q=false) (ha:(b.val (look E)).dem=v) (h:Rn Γ pc os ⟨look ((d,v)::E),M,nb⟩ Q):Rn Γ pc (⟨some d,.pick,[c,a,b],false,gd⟩::os) ⟨look E,M,nb⟩ Q:=by
 subst hb;refine Rn.k hw rfl rfl ?_ h;simp [hq,V.dems,V.dem,Qi,ha]
theorem Rn.max2 {k:IntKind} {m n:Int} (hw:Wn E gd) (ha:a.val (look E) = .d (.int k m)) (hb:b.val (look E) = .d (.int k n)) (h:Rn Γ pc os ⟨look ((d,.d (.int k (if n>m then n else m)))::E),M,nb⟩ Q):Rn Γ pc (⟨some d,.max2,[a,b],false,gd⟩::os) ⟨look E,M,nb⟩ Q:=by
 refine Rn.k hw rfl rfl ?_ h;simp [ha,hb,V.dems,V.dem,Qi]
theorem Rn.min2 {k:IntKind} {m n:Int} (hw:Wn E gd) (ha:a.val (look E) = .d (.int k m)) (hb:b.val (look E) = .d (.int k n)) (h:Rn Γ pc os ⟨look ((d,.d (.int k (if n<m then n else m)))::E),M,nb⟩ Q):Rn Γ pc (⟨some d,.min2,[a,b],false,gd⟩::os) ⟨look E,M,nb⟩ Q:=by
 refine Rn.k hw rfl rfl ?_ h;simp [ha,hb,V.dems,V.dem,Qi]
variable {α:Type} {e:α→List D} {xs:List α} {sz:Nat}
theorem Rn.lenD (hw:Wn E gd) (ha:(a.val (look E)).dem = .d (.lst sz (xs.map e))) (h:Rn Γ pc os ⟨look ((d,.d (.int .i64 xs.length))::E),M,nb⟩ Q):Rn Γ pc (⟨some d,.len,[a],false,gd⟩::os) ⟨look E,M,nb⟩ Q:=by
 refine Rn.k hw rfl rfl ?_ h;simp [ha,V.dems,Qi]
def getO (l:List α) (i:Int):Option α:=if 0≤i then l[i.toNat]? else none
def slcO (l:List α) (lo hi:Int):Option (List α):=if 0≤lo∧lo≤hi∧hi≤l.length then some ((l.take hi.toNat).drop lo.toNat) else none
def appO (l m:List α):Option (List α):=if l.length+m.length≤lim then some (l++m) else none
theorem Rn.idxD {k:IntKind} {i:Int} {x:α} (hw:Wn E gd) (ha:(a.val (look E)).dem = .d (.lst sz (xs.map e))) (hb:b.val (look E) = .d (.int k i)) (hx:getO xs i=some x) (h:Rn Γ pc os ⟨look ((d,.cref (e x))::E),M,nb⟩ Q):Rn Γ pc (⟨some d,.idx sz,[a,b],false,gd⟩::os) ⟨look E,M,nb⟩ Q:=by
 refine Rn.k hw rfl rfl ?_ h;unfold getO at hx;split at hx<;>try (cases hx;done)
 rename_i h0;simp [ha,hb,V.dems,V.dem,Qi,h0,hx]
theorem Rn.loadC {cs:List D} (hw:Wn E gd) (ha:a.val (look E) = .cref (x::cs)) (h:Rn Γ pc os ⟨look ((d,.d x)::E),M,nb⟩ Q):Rn Γ pc (⟨some d,.load false 1,[a],false,gd⟩::os) ⟨look E,M,nb⟩ Q:=by
 refine Rn.k hw rfl rfl ?_ h;simp [ha,V.dems,V.dem,Qi]
theorem Rn.loadCA {cs:List D} {vs:List V} {n:Nat} (hw:Wn E gd) (ha:a.val (look E) = .cref cs) (hn:Nat.ble n cs.length=true) (hv:(cs.take n).map .d=vs) (h:Rn Γ pc os ⟨look ((d,.agg vs)::E),M,nb⟩ Q):Rn Γ pc (⟨some d,.load true n,[a],false,gd⟩::os) ⟨look E,M,nb⟩ Q:=by
 refine Rn.k hw rfl rfl ?_ h;have:=Nat.le_of_ble_eq_true hn;simp [ha,V.dems,V.dem,Qi,this,hv]
theorem Rn.fldC {cs:List D} {off:Nat} (hw:Wn E gd) (ha:a.val (look E) = .cref cs) (h:Rn Γ pc os ⟨look ((d,.cref (cs.drop off))::E),M,nb⟩ Q):Rn Γ pc (⟨some d,.fld off,[a],false,gd⟩::os) ⟨look E,M,nb⟩ Q:=by
 refine Rn.k hw rfl rfl ?_ h;simp [ha,V.dems,V.dem,Qi]
theorem Rn.fldP {k o off o' : Nat} (hw:Wn E gd) (ha:a.val (look E) = .ptr k o) (ho:o+off=o') (h:Rn Γ pc os ⟨look ((d,.ptr k o')::E),M,nb⟩ Q):Rn Γ pc (⟨some d,.fld off,[a],false,gd⟩::os) ⟨look E,M,nb⟩ Q:=by
 refine Rn.k hw rfl rfl ?_ h;subst ho;simp [ha,V.dems,V.dem,Qi]
theorem Rn.nilchkP {k o:Nat} (hw:Wn E gd) (ha:a.val (look E) = .ptr k o) (h:Rn Γ pc os ⟨look ((d,.ptr k o)::E),M,nb⟩ Q):Rn Γ pc (⟨some d,.nilchk,[a],false,gd⟩::os) ⟨look E,M,nb⟩ Q:=by
 refine Rn.k hw rfl rfl ?_ h;simp [ha,V.dems,V.dem,Qi]
theorem Rn.build {as:List Arg} {z:List V} {ps:List (Nat×Nat)} {v:V} (hw:Wn E gd) (hk:Qi Γ.n0 (Γ.n0+d) (.build z ps) (V.dems (as.map (·.val (look E)))) M=some (v,M)) (h:Rn Γ pc os ⟨look ((d,v)::E),M,nb⟩ Q):Rn Γ pc (⟨some d,.build z ps,as,false,gd⟩::os) ⟨look E,M,nb⟩ Q :=
 Rn.k hw rfl rfl hk h
theorem Rn.ext {i:Nat} {vs:List V} {v:V} (hw:Wn E gd) (ha:(a.val (look E)).dem = .tup vs) (hv:vs[i]? = some v) (ht:v.top=v) (h:Rn Γ pc os ⟨look ((d,v)::E),M,nb⟩ Q):Rn Γ pc (⟨some d,.extract i,[a],false,gd⟩::os) ⟨look E,M,nb⟩ Q:=by
 refine Rn.k hw rfl rfl ?_ h;simp [ha,V.dems,Qi,hv,ht]
theorem Rn.extTD {t i:Nat} {vs:List V} {x:D} (hw:Wn E gd) (ha:look E t = .tup vs) (hv:vs[i]? = some (.d x)) (hs:vs.set i (.d x)=vs) (h:Rn Γ pc os ⟨look ((d,.d x)::E),M,nb⟩ Q):Rn Γ pc (⟨some d,.extract i,[.t t],true,gd⟩::os) ⟨look E,M,nb⟩ Q:=by
 refine Rn.kT hw rfl rfl (v:=.d x) (by simp [Arg.val,ha,Qi,hv,V.top,V.dem]) (fun j=>?_) h;simp only [List.map_cons,List.map_nil,Arg.val,ha,Qbz,hv,V.dem,hs,Q4,Arg.putTo];rw [← Qc1];have:(look E).put t (.tup vs)=look E:=by
  funext i;simp only [Sl.put];split
  ·rename_i e;subst e;exact ha.symm
  ·rfl
 rw [this]
theorem Q3w {l:List α} {lo hi:Int} {ys:List α} (h:slcO l lo hi=some ys):0≤lo∧lo≤hi∧hi≤l.length∧(((l.map e).take hi.toNat).drop lo.toNat)=ys.map e:=by
 unfold slcO at h;split at h<;>cases h;rename_i hc;refine ⟨hc.1,hc.2.1,hc.2.2,by simp [List.map_drop,List.map_take]⟩
theorem Rn.slc2 {k k' : IntKind} {lo hi:Int} {ys:List α} (hw:Wn E gd) (ha:(a.val (look E)).dem = .d (.lst sz (xs.map e))) (hb:b.val (look E) = .d (.int k lo)) (hc:c.val (look E) = .d (.int k' hi)) (hx:slcO xs lo hi=some ys) (h:Rn Γ pc os ⟨look ((d,.d (.lst sz (ys.map e)))::E),M,nb⟩ Q) :
  Rn Γ pc (⟨some d,.slice sz true true,[a,b,c],false,gd⟩::os) ⟨look E,M,nb⟩ Q:=by
 refine Rn.k hw rfl rfl ?_ h;obtain ⟨h1,h2,h3,h4⟩:=Q3w (e:=e) hx;simp [ha,hb,hc,V.dems,V.dem,Qi,h1,h2,h3,h4]
theorem Rn.slcH {k:IntKind} {hi:Int} {ys:List α} (hw:Wn E gd) (ha:(a.val (look E)).dem = .d (.lst sz (xs.map e))) (hb:b.val (look E) = .d (.int k hi)) (hx:slcO xs 0 hi=some ys) (h:Rn Γ pc os ⟨look ((d,.d (.lst sz (ys.map e)))::E),M,nb⟩ Q) :
  Rn Γ pc (⟨some d,.slice sz false true,[a,b],false,gd⟩::os) ⟨look E,M,nb⟩ Q:=by
 refine Rn.k hw rfl rfl ?_ h;obtain ⟨h1,h2,h3,h4⟩:=Q3w (e:=e) hx;simp only [Int.toNat_zero,List.drop_zero] at h4;simp [ha,hb,V.dems,V.dem,Qi,h2,h3,h4]
theorem Rn.app {t bytes:Nat} {ys zs:List α} {src:V} (hw:Wn E gd) (ha:look E t = .own sz (xs.map e)) (hb:b.val (look E)=src) (hf:src.dem=src) (hs:Qgn M sz src=some (ys.map e)) (hx:appO xs ys=some zs) (hbd:(Nat.ble bytes 128&&Nat.ble 1 sz)=true)
  (h:Rn Γ pc os ⟨look ((d,.own sz (zs.map e))::(t,.d (.lst sz (xs.map e)))::E),M,nb⟩ Q):Rn Γ pc (⟨some d,.append sz bytes,[.t t,b],true,gd⟩::os) ⟨look E,M,nb⟩ Q:=by
 unfold appO at hx;split at hx<;>cases hx;rename_i hl;simp only [Bool.and_eq_true] at hbd;have h1:=Nat.le_of_ble_eq_true hbd.1;have h2:0<sz:=Nat.le_of_ble_eq_true hbd.2;have hm:[Arg.t t,b].map (fun x=>x.val (look E))=[V.own sz (xs.map e),src]:=by
  simp only [List.map_cons,List.map_nil,hb];rw [show (Arg.t t).val (look E)=_ from ha]
 refine Rn.kT hw rfl rfl (v:=.own sz ((xs++ys).map e)) ?_ (fun i=>?_) h
 ·rw [hm];simp [Qi,hs,h1,h2,hl]
 ·rw [hm];simp only [Qbz,hf,show (V.own sz (xs.map e)).dem = .d (.lst sz (xs.map e)) from rfl,Q4,show ∀ s v,(Arg.t t).putTo s v=s.put t v from fun _ _=>rfl];have hz:∀ s:Sl,b.val s=src→b.putTo s src=s:=by
   intro s hs;cases b with
   | c v=>rfl
   | t u =>
    simp only [Arg.val] at hs;funext i;simp only [Arg.putTo,Sl.put];split
    ·rename_i e;subst e;exact hs.symm
    ·rfl
  rw [hz]
  ·rw [Qc1,Qc1]
  ·cases b with
   | c v=>exact hb
   | t u =>
    have:u≠t:=by
     rintro rfl;simp only [Arg.val] at hb;rw [ha] at hb;subst hb;simp [V.dem] at hf
    simp only [Arg.val,Sl.put,this,if_false];exact hb
theorem Rn.appT {t bytes:Nat} {ys zs:List α} {src:V} (hw:Wn E gd) (ha:look E t = .ownT sz (xs.map e)) (hb:b.val (look E)=src) (hf:src.dem=src) (hs:Qgn M sz src=some (ys.map e)) (hx:appO xs ys=some zs) (hbd:(Nat.ble bytes 128&&Nat.ble 1 sz)=true)
  (h:Rn Γ pc os ⟨look ((d,.ownT sz (zs.map e))::(t,.d (.lst sz (xs.map e)))::E),M,nb⟩ Q):Rn Γ pc (⟨some d,.append sz bytes,[.t t,b],true,gd⟩::os) ⟨look E,M,nb⟩ Q:=by
 unfold appO at hx;split at hx<;>cases hx;rename_i hl;simp only [Bool.and_eq_true] at hbd;have h1:=Nat.le_of_ble_eq_true hbd.1;have h2:0<sz:=Nat.le_of_ble_eq_true hbd.2;have hm:[Arg.t t,b].map (fun x=>x.val (look E))=[V.ownT sz (xs.map e),src]:=by
  simp only [List.map_cons,List.map_nil,hb];rw [show (Arg.t t).val (look E)=_ from ha]
 refine Rn.kT hw rfl rfl (v:=.ownT sz ((xs++ys).map e)) ?_ (fun i=>?_) h
 ·rw [hm];simp [Qi,hs,h1,h2,hl]
 ·rw [hm];simp only [Qbz,hf,show (V.ownT sz (xs.map e)).dem = .d (.lst sz (xs.map e)) from rfl,Q4,show ∀ s v,(Arg.t t).putTo s v=s.put t v from fun _ _=>rfl];have hz:∀ s:Sl,b.val s=src→b.putTo s src=s:=by
   intro s hs;cases b with
   | c v=>rfl
   | t u =>
    simp only [Arg.val] at hs;funext i;simp only [Arg.putTo,Sl.put];split
    ·rename_i e;subst e;exact hs.symm
    ·rfl
  rw [hz]
  ·rw [Qc1,Qc1]
  ·cases b with
   | c v=>exact hb
   | t u =>
    have:u≠t:=by
     rintro rfl;simp only [Arg.val] at hb;rw [ha] at hb;subst hb;simp [V.dem] at hf
    simp only [Arg.val,Sl.put,this,if_false];exact hb
theorem Rn.slcT {t:Nat} {k:IntKind} {lo:Int} {ys:List α} (hw:Wn E gd) (ha:look E t = .own sz (xs.map e)∨look E t = .ownT sz (xs.map e)) (hb:b.val (look E) = .d (.int k lo)) (hx:slcO xs lo xs.length=some ys)
  (h:Rn Γ pc os ⟨look ((d,.ownT sz (ys.map e))::(t,.d (.lst sz (xs.map e)))::E),M,nb⟩ Q):Rn Γ pc (⟨some d,.slcT sz,[.t t,b],true,gd⟩::os) ⟨look E,M,nb⟩ Q:=by
 obtain ⟨h1,h2,h3,h4⟩:=Q3w (e:=e) hx;have h5:(xs.map e).take xs.length=xs.map e:=by rw [List.take_of_length_le (by simp)]
 simp only [Int.toNat_natCast,h5] at h4;have hm:∀ v,look E t=v→[Arg.t t,b].map (fun x=>x.val (look E))=[v,V.d (.int k lo)]:=by
  intro v hv;simp only [List.map_cons,List.map_nil,hb];rw [show (Arg.t t).val (look E)=_ from hv]
 have hd:(look E t).dem = .d (.lst sz (xs.map e)):=by rcases ha with ha|ha<;>rw [ha]<;>rfl
 have hne:∀ u,b = .t u→u≠t:=by
  rintro u rfl rfl;simp only [Arg.val] at hb;rw [hb] at hd;cases hd
 refine Rn.kT hw rfl rfl (v:=.ownT sz (ys.map e)) ?_ (fun i=>?_) h
 ·rcases ha with ha|ha<;>rw [hm _ ha]<;>simp [Qi,h1,h2,h4]
 ·rw [hm _ rfl];simp only [Qbz,hd,Q4,show ∀ s v,(Arg.t t).putTo s v=s.put t v from fun _ _=>rfl];have hz:∀ s:Sl,b.val s = .d (.int k lo)→b.putTo s (.d (.int k lo))=s:=by
   intro s hs;cases b with
   | c v=>rfl
   | t u =>
    simp only [Arg.val] at hs;funext i;simp only [Arg.putTo,Sl.put];split
    ·rename_i e;subst e;exact hs.symm
    ·rfl
  rw [hz]
  ·rw [Qc1,Qc1]
  ·cases b with
   | c v=>exact hb
   | t u=>simp only [Arg.val,Sl.put,hne u rfl,if_false];exact hb
theorem Rn.slcTD {t:Nat} {k:IntKind} {lo:Int} {ys:List α} (hw:Wn E gd) (ha:look E t = .d (.lst sz (xs.map e))) (hb:b.val (look E) = .d (.int k lo)) (hx:slcO xs lo xs.length=some ys)
  (h:Rn Γ pc os ⟨look ((d,.d (.lst sz (ys.map e)))::E),M,nb⟩ Q):Rn Γ pc (⟨some d,.slcT sz,[.t t,b],true,gd⟩::os) ⟨look E,M,nb⟩ Q:=by
 obtain ⟨h1,h2,h3,h4⟩:=Q3w (e:=e) hx;have h5:(xs.map e).take xs.length=xs.map e:=by rw [List.take_of_length_le (by simp)]
 simp only [Int.toNat_natCast,h5] at h4;have hm:[Arg.t t,b].map (fun x=>x.val (look E))=[V.d (.lst sz (xs.map e)),V.d (.int k lo)]:=by
  simp only [List.map_cons,List.map_nil,hb];rw [show (Arg.t t).val (look E)=_ from ha]
 have hz:∀ (b:Arg) (v:V) (s:Sl),b.val s=v→b.putTo s v=s:=by
  intro b v s hs;cases b with
  | c v=>rfl
  | t u =>
   simp only [Arg.val] at hs;funext i;simp only [Arg.putTo,Sl.put];split
   ·rename_i e;subst e;exact hs.symm
   ·rfl
 refine Rn.kT hw rfl rfl (v:=.d (.lst sz (ys.map e))) ?_ (fun i=>?_) h
 ·rw [hm];simp [Qi,h1,h2,h4]
 ·rw [hm];simp only [Qbz,V.dem,Q4];rw [hz (.t t) _ _ ha,hz b _ _ hb,Qc1]
theorem Rn.movTOT {t sz:Nat} {l:List (List D)} (hw:Wn E gd) (ha:look E t = .ownT sz l) (h:Rn Γ pc os ⟨look ((d,.ownT sz l)::(t,.d (.lst sz l))::E),M,nb⟩ Q):Rn Γ pc (⟨some d,.mov,[.t t],true,gd⟩::os) ⟨look E,M,nb⟩ Q:=by
 refine Rn.kT hw rfl rfl (v:=.ownT sz l) (by simp [Arg.val,ha,Qi]) (fun i=>?_) h;simp only [List.map_cons,List.map_nil,Arg.val,ha,Qbz,V.dem,Q4,Arg.putTo];rw [← Qc1,← Qc1]
end Go.Abs
end
