/-
  Part 13 of the proof: see the last text.
-/
import Derived.Test.YtjngkimolkhdmaaGreatP12
import Derived.KernelRfl
set_option linter.unusedVariables false
set_option linter.unusedSimpArgs false
set_option linter.unusedSectionVars false
section
namespace Go.Abs
open Go
theorem Sts.err {a:Qa} {l:List Int} (h:Sts a l):Qgq a.zH none l=0:=Qjz.2 ⟨h.rg,h.so,fun y hy=>by cases hy⟩
theorem Sts.big {a:Qa} (ha:Right a) {l:List Int} (h:Sts a l):l.length<Abs.big:=by have:=h.len;have:=ha.st;unfold Abs.big;omega
theorem EvSet.big {l:List Int} (h:EvSet l):l.length<Abs.big:=by have:=h.len;unfold Abs.big;omega
theorem Qbag {a:Qa} (h:Right a) {onto obs:List Int} (ho:EvSet onto) (hl:obs.length<big):Qhb a onto obs=some (if (obs.all fun x=>decide (x∈Qqe a onto))=true then (estP a onto obs,0) else ([],9)):=by
 have hst:=h.st;unfold Qhb Qc1;rw [Q1v h ho.big,ho.err];simp only [Option.bind_some,show ((0:Int) != 0)=false from rfl,Bool.false_eq_true,if_false];rw [Q5y h ho.big];simp only [Option.bind_some];rw [Q4g h hl];simp only [Option.bind_some];by_cases hk:(obs.all fun x=>decide (x∈Qqe a onto))=true
 ·rw [if_pos hk,if_pos hk,Qbhy h onto];simp only [Option.bind_some];refine Qfj (x:=estP a onto obs) ?_ rfl;refine (Q5x (l:=obs) (fun n (s:List Int)=>(s,(n:Int))) (Q1a a onto) (fun s=>some s) (fun n s=>Sts a s) ?_ ?_ (by unfold Qbb;unfold Abs.big at hl;omega) _ (Q1b a onto)).trans rfl
  ·intro k n hn s hs;refine ⟨Q4d _ _ _ _,?_⟩;have:=hs.len;dsimp only;rw [if_pos (by omega),Qbf hn];simp only [Option.bind_some];rw [Qbc5 h hs.rg (by omega)];simp only [Option.bind_some];rw [Qy (by unfold Abs.big at hl;omega)]
  ·intro k s _;dsimp only;rw [if_neg (by omega)]
 ·rw [if_neg hk,if_neg hk]
theorem Qz8 {a:Qa} {onto:List Int}:∀ (obs:List Int),Sts a (estP a onto obs):=by
 intro obs;unfold estP;rcases List.eq_nil_or_concat obs with rfl|⟨l,x,rfl⟩
 ·exact Q1b _ _
 ·rw [List.concat_eq_append,List.foldl_append];exact Q4d _ _ _ _
theorem Qbgg {a:Qa} {o o' : List Int} (h:∀ x∈a.zD,x∈o↔x∈o'):Qqe a o=Qqe a o'∧Qif a o=Qif a o':=by
 unfold Qqe Qif;exact ⟨List.filter_congr fun x hx=>decide_eq_decide.2 (h x hx),List.filter_congr fun x hx=>by rw [decide_eq_decide.2 (h x hx)]⟩
theorem Qbgh {a:Qa} {o o' : List Int} (h:∀ x∈a.zD,x∈o↔x∈o') (w:List Int):estP a o w=estP a o' w:=by
 have e:=(Qbgg h).2;have h1:Q1a a o=Q1a a o':=by funext s x;unfold Q1a;rw [e]
 unfold estP Qvy;rw [h1,e]
def okW (ev:List Qc) (a:Qa) (w:List Int):Bool:=w.all fun x=>decide (x∈obsE ev)&&decide (x∈a.zD)
theorem Qbah {ev:List Qc} {a:Qa} {w:List Int} (he:ev.length≤32) (ha:a.zD.length<big) (hw:w.length<big):Qfx ev a w=some (if okW ev a w then 0 else 9):=by
 have hb:w.length<1000000000000:=hw;unfold Qfx Qcg okW;refine (Qil (len:=w.length) (fun k=>some (if (w.drop k).all (fun x=>decide (x∈obsE ev)&&decide (x∈a.zD)) then 0 else 9)) (by unfold Qbb;omega) ?_ ?_).trans (by simp)
 ·intro k i hi ih
  try dsimp only
  rw [if_pos (by omega),Qxr (by unfold big;omega)];simp only [Option.bind_some];rw [Qbf hi];simp only [Option.bind_some];rw [Qbkl (Qwk he).big];simp only [Option.bind_some];rw [Qy (by omega),ih,List.drop_eq_getElem_cons hi,List.all_cons];by_cases h1:w[i]∈obsE ev
  ·rw [decide_eq_true h1,if_pos rfl,Qbkl ha];simp only [Option.bind_some];by_cases h2:w[i]∈a.zD<;>simp [h2]
  ·rw [decide_eq_false h1,if_neg (by simp)];simp
 ·intro k;simp
theorem Q9d {w:List Int} {f:Int→Option Bool} {p:Int→Bool} (hf:∀ x,f x=some (p x)) (hw:w.length<big):Qca w f=some (w.any p):=by
 have hb:w.length<1000000000000:=hw;unfold Qca Qu Qgt Qce;obtain ⟨fuel,hfu,hge⟩ : ∃ f,Qbb=f∧1099511627776≤f:=⟨_,rfl,Nat.le_refl _⟩;rw [hfu];have hloop:∀ (F:(Int→Option Int)→Int→Option Int),(∀ k (i:Nat) (hi:i<w.length),F k (i:Int)=if p w[i] then some (i:Int) else k (IntKind.wrap .i64 ((i:Int)+1)))→(∀ k,F k (w.length:Int)=some (-1))→∃ z,Qb5 F fuel 0=some z∧(decide (z≥0))=w.any p:=by
  intro F h1 h2;refine Qc6 (fun x=>∃ n:Nat,x=(n:Int)∧n≤w.length∧(w.drop n).any p=w.any p) (fun x=>w.length-x.toNat) (fun x r=>∃ z,r=some z∧(decide (z≥0))=w.any p) ?_ fuel _ ⟨0,rfl,Nat.zero_le _,by simp⟩ (by omega);rintro k _ ⟨n,rfl,hn,he⟩ ih;by_cases hlt:n<w.length
  ·rw [h1 k n hlt];rw [List.drop_eq_getElem_cons hlt,List.any_cons] at he;by_cases hp:p w[n]=true
   ·rw [if_pos hp];rw [hp,Bool.true_or] at he;exact ⟨_,rfl,by rw [← he];simp⟩
   ·rw [if_neg hp,Qy (by omega)];rw [Bool.not_eq_true] at hp;rw [hp,Bool.false_or] at he;exact ih _ ⟨n+1,rfl,by omega,he⟩ (by simp only [Int.toNat_natCast];omega)
  ·obtain rfl:n=w.length:=by omega
   rw [h2];rw [List.drop_eq_nil_of_le (Nat.le_refl _)] at he;exact ⟨-1,rfl,by rw [← he];rfl⟩
 have key' : ∀ (F:(Int→Option Int)→Int→Option Int),(∀ k (i:Nat) (hi:i<w.length),F k (i:Int)=if p w[i] then some (i:Int) else k (IntKind.wrap .i64 ((i:Int)+1)))→(∀ k,F k (w.length:Int)=some (-1))→((Qb5 F fuel 0).bind fun x13=>some (decide (x13≥0)))=some (w.any p):=fun F h1 h2=>by
  obtain ⟨z,h3,h4⟩:=hloop F h1 h2;rw [h3,← h4];rfl
 refine key' _ ?_ ?_
 ·intro k i hi;rw [if_pos (by omega),Qbf hi];simp only [Option.bind_some,hf]
 ·intro k;rw [if_neg (by omega)]
section
variable {ev:List Qc} {a b:Qa} {l:List Lab}
theorem Q1x (hp:Plt ev a) (hb:Lbd ev a b l) {w:List Int} (hw:w.length<big):Qe5 ev a w=some (if okW ev a w then (Qi9 l (estP b (obsE ev) w),0) else ([],9)):=by
 have hs:=hp.r.small;have hol:=(Qwk hp.len).len;unfold Qe5 Q0;rw [Qz7 hp];simp only [Option.bind_some,show ((0:Int) != 0)=false from rfl,Bool.false_eq_true,if_false];rw [Qxq (by have:=hp.len;unfold big;omega) hp.chk];simp only [Option.bind_some];obtain ⟨R,h1,h2,h3⟩:=Q9c (Qwk hp.len).so hp.r.al (by unfold big;omega);rw [h1];simp only [Option.bind_some];have hR:EvSet R:=⟨fun x hx=>(Qwk hp.len).rg x ((h3 x).1 hx).1,h2⟩;rw [Q9d (p:=fun x=>!decide (x∈R)) (fun x=>by unfold Qiw Qcr;rw [Q62 h2 hR.big];rfl) hw];have hany:(w.any fun x=>!decide (x∈R)) = !okW ev a w:=by
  unfold okW;rw [List.not_all_eq_any_not];congr 1;funext x;congr 1;rw [← Bool.decide_and,decide_eq_decide];exact h3 x
 simp only [Option.bind_some];rw [hany];by_cases hk:okW ev a w=true
 ·rw [if_neg (by simp [hk]),if_pos hk,hb.p];simp only [Option.bind_some,show ((0:Int) != 0)=false from rfl,Bool.false_eq_true,if_false];have hall:(w.all fun x=>decide (x∈Qqe b R))=true:=by
   rw [List.all_eq_true];intro x hx;have:=List.all_eq_true.1 hk x hx;rw [decide_eq_true_eq,Qqe,List.mem_filter,hb.al];simp only [Bool.and_eq_true,decide_eq_true_eq] at this ⊢;exact ⟨this.2,(h3 x).2 this⟩
  rw [Qbag hb.r hR hw,if_pos hall];simp only [Option.bind_some];have hsm:∀ x∈b.zD,x∈R↔x∈obsE ev:=fun x hx=>⟨fun h=>((h3 x).1 h).1,fun h=>(h3 x).2 ⟨h,by rw [← hb.al];exact hx⟩⟩;rw [Qbgh hsm];have hS:=Qz8 (a:=b) (onto:=obsE ev) w;rw [Qbh3 (hS.big hb.r) (fun x hx=>by have:=hS.rg x hx;have:=hb.n;omega)]
  rfl
 ·rw [Bool.not_eq_true] at hk;rw [hk]
  rfl
end
theorem Q4k (l:List Lab) (s:List Int):(Qi9 l s).length=s.length:=by simp [Qi9]
def bitC (c:Int) (x:Lab):Int:=andI .i64 (x.Classes.fdiv (2 ^ (min (IntKind.wrap .i64 (c-1)).toNat IntKind.i64.bits))) 1
theorem Q1c (s:Int):0≤andI .i64 s 1∧andI .i64 s 1≤1:=by
 unfold andI;have h:((BitVec.ofInt IntKind.i64.bits s) &&& (BitVec.ofInt IntKind.i64.bits 1)).toNat≤1:=by
  rw [BitVec.toNat_and];have:(BitVec.ofInt IntKind.i64.bits 1).toNat=1:=by decide
  rw [this,Nat.and_one_is_mod];omega
 generalize ((BitVec.ofInt IntKind.i64.bits s) &&& (BitVec.ofInt IntKind.i64.bits 1)).toNat=n at h;rw [Qlb (by omega) (by omega)];omega
def cntC (c:Int) (l:List Lab):Int:=(l.map (bitC c)).sum
theorem Qbai (c:Int):∀ l:List Lab,0≤cntC c l∧cntC c l≤l.length
 | []=>by simp [cntC]
 | x::l=>by
  have:=Qbai c l;have:=Q1c (x.Classes.fdiv (2 ^ (min (IntKind.wrap .i64 (c-1)).toNat IntKind.i64.bits)));have e:cntC c (x::l)=bitC c x+cntC c l:=by simp [cntC]
  rw [e];unfold bitC;simp only [List.length_cons];omega
theorem Qbb5 {c:Int} (hc:0≤IntKind.wrap .i64 (c-1)) {l:List Lab} (hl:l.length<big) {fuel:Nat} (hf:l.length<fuel) {F:(Int×Int→Option Int)→Int×Int→Option Int}
  (hF:∀ (k:Int×Int→Option Int) (n:Int) (i:Nat) (h:i<l.length),F k (n,(i:Int))=((shrO .i64 l[i].Classes (IntKind.wrap .i64 (c-1))).bind fun s=>k (IntKind.wrap .i64 (n+andI .i64 s 1),IntKind.wrap .i64 ((i:Int)+1))))
  (hlast:∀ (k:Int×Int→Option Int) (n:Int),F k (n,(l.length:Int))=some n):Qb5 F fuel (0,0)=some (cntC c l):=by
 have hb:l.length<1000000000000:=hl;refine (Qez (len:=l.length) (fun i (n:Int)=>(n,(i:Int))) (fun i n=>0≤n∧n≤i) (fun i n=>some (n+cntC c (l.drop i))) ?_ ?_ fuel 0 0 (Nat.zero_le _) (by omega) (by omega)).trans (by simp)
 ·intro k i n hi hn ih;rw [hF k n i hi];have h1:=Q1c (l[i].Classes.fdiv (2 ^ (min (IntKind.wrap .i64 (c-1)).toNat IntKind.i64.bits)));have h2:shrO .i64 l[i].Classes (IntKind.wrap .i64 (c-1))=some (l[i].Classes.fdiv (2 ^ (min (IntKind.wrap .i64 (c-1)).toNat IntKind.i64.bits))):=by unfold shrO;rw [if_neg (by omega)]
  rw [h2];simp only [Option.bind_some];rw [Qy (by omega),Qlb (by omega) (by omega),ih _ (by omega),List.drop_eq_getElem_cons hi];have e:cntC c (l[i]::l.drop (i+1))=bitC c l[i]+cntC c (l.drop (i+1)):=by unfold cntC;rw [List.map_cons,List.sum_cons]
  rw [e];unfold bitC;congr 1;omega
 ·intro k n _;rw [hlast];simp [cntC]
theorem Q65 {c:Int} (h:1≤c∧c≤4):0≤IntKind.wrap .i64 (c-1):=by rw [Qlb (by omega) (by omega)];omega
theorem Qbh9 {c:Int} (h:1≤c∧c≤4) {l:List Lab} (hl:l.length<big):Qj5 l c=some (cntC c l):=by
 have hb:l.length<1000000000000:=hl;unfold Qj5 Qeg;refine Qfj (Qbb5 (Q65 h) hl (by unfold Qbb;omega) ?_ ?_) rfl
 ·intro k n i hi;dsimp only;rw [if_pos (by omega),Qbf hi]
  rfl
 ·intro k n;dsimp only;rw [if_neg (by omega)]
def Qz9 (c:Int) (l:List Lab):Int:=if cntC c l=0 then 1 else if cntC c l=l.length then 2 else 3
theorem Qbaj {c:Int} (h:1≤c∧c≤4) {l:List Lab} (hl:l.length<big):Qf9 l c=some (Qz9 c l):=by
 have hb:l.length<1000000000000:=hl;unfold Qf9 Qcn;refine Qfj (Qbb5 (Q65 h) hl (by unfold Qbb;omega) ?_ ?_) ?_
 ·intro k n i hi;dsimp only;rw [if_pos (by omega),Qbf hi]
  rfl
 ·intro k n;dsimp only;rw [if_neg (by omega)]
 ·unfold Qz9;by_cases h1:cntC c l=0
  ·rw [if_pos (by simp [h1]),if_pos h1]
  ·rw [if_neg (by simp [h1]),if_neg h1];by_cases h2:cntC c l=l.length
   ·rw [if_pos (by simp [h2]),if_pos h2]
   ·rw [if_neg (by simpa using h2),if_neg h2]
theorem Qbak {c:Int} {l:List Lab} (hl:l.length<big):Qgm l c=some (if c<1∨4<c then (0,2) else if l=[] then (0,12) else (Qz9 c l,0)):=by
 unfold Qgm Qb0 Qfi Qbl;have e:(if c<1 then some true else some (decide (c>4)))=some (decide (c<1∨4<c)):=by by_cases h:c<1<;>simp [h]
 rw [e];simp only [Option.bind_some];by_cases h:c<1∨4<c
 ·rw [decide_eq_true h,if_pos rfl,if_pos h]
 ·rw [decide_eq_false h,if_neg (by simp),if_neg h];cases l with
  | nil=>rfl
  | cons x l =>
   rw [if_neg (by simp;omega),if_neg (by simp),Qbh9 (by omega) hl];simp only [Option.bind_some];unfold Qz9;by_cases h1:cntC c (x::l)=0
   ·rw [if_pos (by simp [h1]),if_pos h1]
   ·rw [if_neg (by simp [h1]),if_neg h1];by_cases h2:cntC c (x::l)=(x::l).length
    ·rw [if_pos (by simp [h2]),if_pos h2]
    ·rw [if_neg (by simpa using h2),if_neg h2]
theorem Q0a {s t:List Int} (h:s.length<1000000000000):Qnm s t=some (decide (s=t)):=by
 unfold Qnm Qcs;rw [Qbfs h];rfl
end Go.Abs
end
section
namespace Go.Abs
open Go
def kids (a:Qa) (x:Qn):List Qn:=(outP a x.state_).map fun e=>⟨x.word_++[e.Event],e.To⟩
def wq (a:Qa) (most:Int):Nat→Nat→List Qn→Option (List Qn)
 | 0,_,all=>some all
 | fuel+1,i,all=>match all[i]? with
  | none=>some all
  | some x=>if (x.word_.length:Int)=most then some all else if (all++kids a x).length>1024 then none else wq a most fuel (i+1) (all++kids a x)
theorem Qbia {a:Qa} (h:Right a) (s:Int):(outP a s).length≤a.zD.length:=by
 have:=congrArg List.length (Qp4 h s);rw [List.length_map] at this;rw [this];exact List.length_filter_le _ _
section
variable {a:Qa} (h:Right a)
include h
theorem Qbgi (fuel:Nat) (hfu:1099511627776≤fuel) {all:List Qn} {i:Nat} {x:Qn} (hx:all[i]? = some x) (hall:all.length≤2000) (hw:x.word_.length≤2000) :
  Qb5 (fun k24 ((all22,x23):(List Qn)×Int)=>(if (x23<((outP a x.state_).length:Int)) then ((getO (outP a x.state_) x23).bind fun x26=>((getO all22 (i:Int)).bind fun x28=>((Qcb x28.word_).bind fun x31=>((appO x31 [x26.Event]).bind fun x32=>((appO all22 [(Qn.mk x32 x26.To)]).bind fun x34=>k24 (x34,(IntKind.wrap .i64 (x23+1)))))))) else some all22)) fuel (all,0)=some (all++kids a x):=by
 have hl:=Qbia h x.state_;have hsm:=h.small.2.1;refine (Qez (len:=(outP a x.state_).length) (fun n (acc:List Qn)=>(acc,(n:Int))) (fun n acc=>acc=all++((outP a x.state_).take n).map fun e=>⟨x.word_++[e.Event],e.To⟩) (fun n acc=>some (all++kids a x)) ?_ ?_ fuel 0 all (Nat.zero_le _) (by omega) (by simp))
 ·intro k n acc hn hi ih;subst hi;dsimp only;have hg:getO (all++((outP a x.state_).take n).map fun e=>(⟨x.word_++[e.Event],e.To⟩ : Qn)) (i:Int)=some x:=by
   rw [Qey];refine ⟨by omega,?_⟩;have:=(List.getElem?_eq_some_iff.1 hx).1;rw [Int.toNat_natCast,List.getElem?_append_left this];exact hx
  rw [if_pos (by omega),Qbf hn];simp only [Option.bind_some];rw [hg];simp only [Option.bind_some];rw [Q60 (by unfold lim;omega)];simp only [Option.bind_some];rw [Qby (by simp only [List.length_cons,List.length_nil];unfold lim;omega)];simp only [Option.bind_some];rw [Qby (by simp only [List.length_cons,List.length_nil,List.length_append,List.length_map,List.length_take];unfold lim;omega)];simp only [Option.bind_some];rw [Qy (by omega)];refine ih _ ?_;rw [List.take_succ_eq_append_getElem hn,List.map_append,List.append_assoc];rfl
 ·intro k acc hi;subst hi;dsimp only;rw [if_neg (by omega),List.take_length];rfl
theorem Qbgj {x y:Qn} (hy:y∈kids a x):y.word_.length=x.word_.length+1:=by
 obtain ⟨e,_,rfl⟩:=List.mem_map.1 hy;simp
theorem Qbdg {x y:Qn} (hy:y∈kids a x):0≤y.state_∧y.state_<a.zH:=by
 obtain ⟨e,he,rfl⟩:=List.mem_map.1 hy;unfold outP at he;have:=h.ed0 e (List.mem_filter.1 he).1;simp only;omega
structure QOk (a:Qa) (i:Nat) (all:List Qn):Prop where
 le:i≤all.length
 ln:all.length≤1024
 wl:∀ x∈all,x.word_.length≤i
 sr:∀ x∈all,0≤x.state_∧x.state_<a.zH
theorem QOk.next {i:Nat} {all:List Qn} (q:QOk a i all) {x:Qn} (hx:all[i]? = some x) (hl:(all++kids a x).length≤1024):QOk a (i+1) (all++kids a x):=by
 have hi:=(List.getElem?_eq_some_iff.1 hx).1;have hm:=List.mem_of_getElem? hx;refine ⟨by simp only [List.length_append];omega,hl,fun y hy=>?_,fun y hy=>?_⟩
 ·rcases List.mem_append.1 hy with hy|hy
  ·have:=q.wl y hy;omega
  ·have:=Qbgj h hy;have:=q.wl x hm;omega
 ·rcases List.mem_append.1 hy with hy|hy
  ·exact q.sr y hy
  ·exact Qbdg h hy
def Q0b (a:Qa) (marked:Bool) (all:List Qn):List (List Int):=(all.filter fun x=>!marked||decide (x.state_∈a.zF)).map (·.word_)
theorem Qbal (fuel:Nat) (hfu:1099511627776≤fuel) (marked:Bool) {all:List Qn} (hall:all.length≤2000) (hw:∀ x∈all,x.word_.length≤2000) :
  ((Qb5 (fun k41 ((l39,x40):(List (List Int))×Int)=>(if (x40<(all.length:Int)) then ((((getO all x40).bind fun x43=>(((if marked then ((Q5 a.zF x43.state_).bind fun x47=>some x47) else some true)).bind fun (x48:Bool)=>(if x48 then ((appO [] x43.word_).bind fun x50=>((appO l39 [x50]).bind fun x52=>some (x52,x43.word_,x43.state_))) else some (l39,x43.word_,x43.state_))))).bind fun ((l54,c55,c56):(List (List Int))×(List Int)×Int)=>k41 (l54,(IntKind.wrap .i64 (x40+1)))) else some l39)) fuel ([],0)).bind fun (l57:List (List Int))=>some (l57,(0:Int)))=some (Q0b a marked all,0):=by
 have hsm:=h.small.1;have:=Qbfu (l:=all) (f:=fun x=>if (!marked||decide (x.state_∈a.zF))=true then some x.word_ else none) (fuel:=fuel) (F:=fun k41 ((l39,x40):(List (List Int))×Int)=>(if (x40<(all.length:Int)) then ((((getO all x40).bind fun x43=>(((if marked then ((Q5 a.zF x43.state_).bind fun x47=>some x47) else some true)).bind fun (x48:Bool)=>(if x48 then ((appO [] x43.word_).bind fun x50=>((appO l39 [x50]).bind fun x52=>some (x52,x43.word_,x43.state_))) else some (l39,x43.word_,x43.state_))))).bind fun ((l54,c55,c56):(List (List Int))×(List Int)×Int)=>k41 (l54,(IntKind.wrap .i64 (x40+1)))) else some l39)) (by unfold big;omega) (by omega) (by
  intro k acc n hn hacc;dsimp only;have hwl:=hw _ (List.getElem_mem hn);rw [if_pos (by omega),Qbf hn];simp only [Option.bind_some];rw [Qjy hsm.2.1];have hb:(if marked=true then (some (decide (all[n].state_∈a.zF))).bind (fun x47=>some x47) else some true)=some (!marked||decide (all[n].state_∈a.zF)):=by cases marked<;>rfl
  rw [hb];simp only [Option.bind_some];by_cases hc:(!marked||decide (all[n].state_∈a.zF))=true
  ·rw [if_pos hc,if_pos hc,Qby (by simp only [List.length_nil];unfold lim;omega)];simp only [Option.bind_some,List.nil_append];rw [Qby (by simp only [List.length_cons,List.length_nil];unfold lim;omega)];rfl
  ·rw [if_neg hc,if_neg hc];simp) (by
  intro k acc;dsimp only;rw [if_neg (by omega)])
 refine (congrArg (fun w=>Option.bind w _) this).trans ?_;rw [Option.bind_some];congr 2;unfold Q0b;generalize all=l
 induction l with
 | nil=>rfl
 | cons x l ih =>
  by_cases hc:(!marked||decide (x.state_∈a.zF))=true
  ·rw [List.filterMap_cons,List.filter_cons,if_pos hc,if_pos hc,ih];rfl
  ·rw [List.filterMap_cons,List.filter_cons,if_neg hc,if_neg hc,ih]
theorem Qbdh (marked:Bool) (most:Int) (fuel:Nat) (hfu:1099511627776≤fuel) (i:Nat) (all:List Qn) (q:QOk a i all) (J:List Qn→Option (List (List Int)×Int)) (hJ:∀ all:List Qn,all.length≤2000→(∀ x∈all,x.word_.length≤2000)→J all=some (Q0b a marked all,0)) :
  Qb5 (fun k13 ((all11,i12):(List Qn)×Int)=>(if (i12<(all11.length:Int)) then ((getO all11 i12).bind fun x15=>(if ((x15.word_.length:Int)==most) then J all11 else ((((getO all11 i12).bind fun x18=>((Qgp a x18.state_).bind fun x21=>Qb5 (fun k24 ((all22,x23):(List Qn)×Int)=>(if (x23<(x21.length:Int)) then ((getO x21 x23).bind fun x26=>((getO all22 i12).bind fun x28=>((Qcb x28.word_).bind fun x31=>((appO x31 [x26.Event]).bind fun x32=>((appO all22 [(Qn.mk x32 x26.To)]).bind fun x34=>k24 (x34,(IntKind.wrap .i64 (x23+1)))))))) else some all22)) fuel (all11,0)))).bind fun (all36:List Qn)=>(if ((all36.length:Int)>1024) then some ([],3) else k13 (all36,(IntKind.wrap .i64 (i12+1))))))) else J all11)) fuel (all,(i:Int)) =
  some (match wq a most (1025-i) i all with|none=>([],3)|some all=>(Q0b a marked all,0)):=by
 have hsm:=h.small.1;have hst:=h.st;have key:=Qc6 (F:=(fun (k13:List Qn×Int→Option (List (List Int)×Int)) ((all11,i12):(List Qn)×Int)=>(if (i12<(all11.length:Int)) then ((getO all11 i12).bind fun x15=>(if ((x15.word_.length:Int)==most) then J all11 else ((((getO all11 i12).bind fun x18=>((Qgp a x18.state_).bind fun x21=>Qb5 (fun k24 ((all22,x23):(List Qn)×Int)=>(if (x23<(x21.length:Int)) then ((getO x21 x23).bind fun x26=>((getO all22 i12).bind fun x28=>((Qcb x28.word_).bind fun x31=>((appO x31 [x26.Event]).bind fun x32=>((appO all22 [(Qn.mk x32 x26.To)]).bind fun x34=>k24 (x34,(IntKind.wrap .i64 (x23+1)))))))) else some all22)) fuel (all11,0)))).bind fun (all36:List Qn)=>(if ((all36.length:Int)>1024) then some ([],3) else k13 (all36,(IntKind.wrap .i64 (i12+1))))))) else J all11)))
  (fun x=>∃ i:Nat,x.2=(i:Int)∧QOk a i x.1) (fun x=>1025-x.2.toNat) (fun x r=>∀ i:Nat,x.2=(i:Int)→r=some (match wq a most (1025-i) i x.1 with|none=>([],3)|some all=>(Q0b a marked all,0))) (by
   rintro k ⟨all,_⟩ ⟨i,rfl,q⟩ ih j hj;replace q:QOk a i all:=q;obtain rfl:i=j:=by have:(i:Int)=j:=hj;omega
   have hfin:J all=some (Q0b a marked all,0):=hJ all (by have:=q.ln;omega) fun x hx=>by have:=q.wl x hx;have:=q.le;have:=q.ln;omega
   have hle:=q.le;have hln:=q.ln;dsimp only;rw [show 1025-i=(1024-i)+1 from by omega];by_cases hlt:i<all.length
   ·have hg:=List.getElem?_eq_getElem hlt;have hsr:=q.sr _ (List.getElem_mem hlt);have hwl:=q.wl _ (List.getElem_mem hlt);simp only [wq,hg];rw [if_pos (by omega),Qbf hlt];simp only [Option.bind_some];by_cases hm:(all[i].word_.length:Int)=most
    ·rw [if_pos (by simpa using hm),if_pos hm,hfin]
    ·rw [if_neg (by simpa using hm),if_neg hm,Qbi0 h hsm (by omega) (by omega)];simp only [Option.bind_some];rw [Qbgi h fuel hfu hg (by omega) (by omega)];simp only [Option.bind_some];by_cases hb:(all++kids a all[i]).length>1024
     ·rw [if_pos (by omega),if_pos hb]
     ·rw [if_neg (by omega),if_neg hb,Qy (by omega)];have:=ih (all++kids a all[i],((i+1:Nat):Int)) ⟨i+1,rfl,q.next h hg (by omega)⟩ (by simp only;omega) (i+1) rfl;rw [this,show 1025-(i+1)=1024-i from by omega]
   ·rw [if_neg (by omega),hfin];have:all[i]? = none:=List.getElem?_eq_none_iff.2 (by omega);simp only [wq,this]) fuel (all,(i:Int)) ⟨i,rfl,q⟩ (by simp only;omega)
 exact key i rfl
theorem Qbib (most:Int) (marked:Bool):Qgj a most marked=some (if most<0∨most>4096 then ([],(2:Int)) else if a.zH=0 then ([],0) else match wq a most 1025 0 [⟨[],0⟩] with|none=>([],3)|some all=>(Q0b a marked all,0)):=by
 have hst:=h.st;unfold Qgj Qek;obtain ⟨fuel,hfu,hge⟩ : ∃ f,Qbb=f∧1099511627776≤f:=⟨_,rfl,Nat.le_refl _⟩;rw [hfu,Qyn h,Option.bind_some,if_neg (by simp)];by_cases h1:most<0∨most>4096
 ·rw [if_pos h1];rcases h1 with h1|h1
  ·simp [h1]
  ·rw [if_neg (by omega)];simp [h1]
 ·rw [if_neg h1,if_neg (by omega)];simp only [Option.bind_some,show decide (most>4096)=false from by simp;omega,Bool.false_eq_true,if_false];by_cases h0:a.zH=0
  ·simp [h0]
  ·rw [if_neg (by simpa using h0),if_neg h0];unfold letJ;exact Qbdh h marked most fuel hge 0 [⟨[],0⟩] ⟨by simp,by simp,by simp,by simp;omega⟩ _ fun all h1 h2=>Qbal h fuel hge marked h1 h2
end
end Go.Abs
end
section
namespace Go.Abs
open Go
def obsW (onto w:List Int):List Int:=w.filter fun e=>decide (e∈onto)
theorem Qv4 {a:Qa} {e:Int}:∀ (w:List Int) (s t:Int) (n:Nat),runP a s n w=(t,((n+w.length:Nat):Int))→runP a s n (w++[e])=if 0≤Qec a t e then (Qec a t e,((n+w.length+1:Nat):Int)) else (t,((n+w.length:Nat):Int))
 | [],s,t,n,h=>by
  simp only [runP,Prod.mk.injEq] at h;obtain ⟨rfl,_⟩:=h;simp [runP]
 | x::w,s,t,n,h=>by
  simp only [List.cons_append,runP] at h ⊢;by_cases h0:0≤Qec a s x
  ·rw [if_pos h0] at h ⊢;have:=Qv4 (e:=e) w (Qec a s x) t (n+1) (by rw [h];simp only [List.length_cons];congr 2;omega);rw [this];simp only [List.length_cons];rw [show n+1+w.length=n+(w.length+1) from by omega]
  grind
def wlt:List Int→List Int→Bool
 | a::v,b::w=>decide (a<b)||(decide (a=b)&&wlt v w)
 | _,_=>false
theorem Qbb6:∀ {v w:List Int},v.length=w.length→wlt v w=true→∀ a b,wlt (v++[a]) (w++[b])=true
 | [],_,_,h,_,_=>by simp [wlt] at h
 | _::_,[],_,h,_,_=>by simp [wlt] at h
 | x::v,y::w,hl,h,a,b=>by
  simp only [wlt,Bool.or_eq_true,Bool.and_eq_true,decide_eq_true_eq,List.cons_append] at h ⊢;rcases h with h|⟨h1,h2⟩
  ·exact .inl h
  ·exact .inr ⟨h1,Qbb6 (by simpa using hl) h2 a b⟩
theorem Q66:∀ (v:List Int) {a b:Int},a<b→wlt (v++[a]) (v++[b])=true
 | [],a,b,h=>by simp [wlt,h]
 | x::v,a,b,h=>by simp [wlt,Q66 v h]
theorem Q9e:∀ {u v w:List Int},wlt u v=true→wlt v w=true→wlt u w=true
 | [],_,_,h,_=>by simp [wlt] at h
 | _::_,[],_,h,_=>by simp [wlt] at h
 | _::_,_::_,[],_,h=>by simp [wlt] at h
 | x::u,y::v,z::w,h,k=>by
  simp only [wlt,Bool.or_eq_true,Bool.and_eq_true,decide_eq_true_eq] at h k ⊢;rcases h with h|⟨h1,h2⟩
  ·rcases k with k|⟨k1,k2⟩
   ·left;omega
   ·left;omega
  ·rcases k with k|⟨k1,k2⟩
   ·left;omega
   ·exact .inr ⟨by omega,Q9e h2 k2⟩
def slt (v w:List Int):Prop:=v.length<w.length∨(v.length=w.length∧wlt v w=true)
def sle (v w:List Int):Prop:=v=w∨slt v w
theorem Q9f {u v w:List Int} (h:slt u v) (k:slt v w):slt u w:=by
 rcases h with h|⟨h1,h2⟩
 ·rcases k with k|⟨k1,k2⟩
  ·left;omega
  ·left;omega
 ·rcases k with k|⟨k1,k2⟩
  ·left;omega
  ·exact .inr ⟨by omega,Q9e h2 k2⟩
theorem Q9g {u v w:List Int} (h:sle u v) (k:sle v w):sle u w:=by
 rcases h with rfl|h
 ·exact k
 ·rcases k with rfl|k
  ·exact .inr h
  ·exact .inr (Q9f h k)
theorem Q67 {v w:List Int} (h:slt v w) (a b:Int):slt (v++[a]) (w++[b]):=by
 rcases h with h|⟨h1,h2⟩
 ·left;simp;omega
 ·exact .inr ⟨by simp [h1],Qbb6 h1 h2 a b⟩
theorem Qbic {v w:List Int} (h:sle v w) (e:Int):sle (v++[e]) (w++[e]):=by
 rcases h with rfl|h
 ·exact .inl rfl
 ·exact .inr (Q67 h e e)
theorem Qbgk {v w:List Int} (h:sle v w):v.length≤w.length:=by
 rcases h with rfl|h|⟨h,_⟩<;>omega
theorem Qbid {v w:List Int} (h:sle v w) (e:Int):sle v (w++[e]):=by
 have:=Qbgk h;exact .inr (.inl (by simp;omega))
theorem Qv5 (onto w:List Int) (e:Int):obsW onto (w++[e])=if e∈onto then obsW onto w++[e] else obsW onto w:=by
 unfold obsW;rw [List.filter_append];by_cases h:e∈onto<;>simp [h]
theorem Q0c {a:Qa} {e:Int}:∀ (w:List Int) (s t:Int) (n:Nat),runP a s n (w++[e])=(t,((n+(w++[e]).length:Nat):Int))→∃ s',runP a s n w=(s',((n+w.length:Nat):Int))∧0≤Qec a s' e∧t=Qec a s' e
 | [],s,t,n,h=>by
  simp only [List.nil_append,runP] at h;split at h
  ·rename_i h0;exact ⟨s,rfl,h0,(Prod.mk.inj h).1.symm⟩
  ·have:=(Prod.mk.inj h).2;simp at this;omega
 | x::w,s,t,n,h=>by
  simp only [List.cons_append,runP] at h ⊢;split at h
  ·rename_i h0;rw [if_pos h0];obtain ⟨s',h1,h2,h3⟩:=Q0c w (Qec a s x) t (n+1) (by rw [h];simp only [List.length_append,List.length_cons,List.length_nil];congr 2;omega);exact ⟨s',by rw [h1];simp only [List.length_cons];congr 2;omega,h2,h3⟩
  ·have:=(Prod.mk.inj h).2;simp only [List.length_append,List.length_cons,List.length_nil] at this;omega
section
variable {a:Qa} (h:Right a) {m:Bool} {onto obs:List Int}
structure KI (a:Qa) (m:Bool) (onto obs:List Int) (i:Nat) (x:Qm) (pr:List Qe) (L:List Qm):Prop where
 xi:L[i]? = some x
 rt:L[0]? = some ⟨0,0,[]⟩
 srt:∀ (j k:Nat) y z,j<k→L[j]? = some y→L[k]? = some z→slt y.word_ z.word_
 par:∀ z∈L,z.word_=[]∨(∃ (j:Nat) (y:Qm) (e:Int),j<i∧L[j]? = some y∧z.word_=y.word_++[e])∨∃ y∈pr,z.word_=x.word_++[y.Event]
 run:∀ z∈L,runP a 0 0 z.word_=(z.state_,(z.word_.length:Int))∧0≤z.done_∧z.done_≤obs.length∧obsW onto z.word_=obs.take z.done_.toNat
 don:∀ (j:Nat) y,j<i→L[j]? = some y→¬ Q4h a obs m y=true∧∀ p∈outP a y.state_,∀ d,Qyr onto obs y.done_ p.Event=some d→∃ (k:Nat) (z:Qm),L[k]? = some z∧Qe0 z=⟨p.To,d⟩∧sle z.word_ (y.word_++[p.Event])
 kid:∀ p∈pr,∀ d,Qyr onto obs x.done_ p.Event=some d→∃ (k:Nat) (z:Qm),L[k]? = some z∧Qe0 z=⟨p.To,d⟩∧sle z.word_ (x.word_++[p.Event])
theorem KI.below {i:Nat} {x:Qm} {pr:List Qe} {L:List Qm} (q:KI a m onto obs i x pr L) {e:Int} (he:∀ y∈pr,y.Event<e):∀ z∈L,slt z.word_ (x.word_++[e]):=by
 intro z hz;rcases q.par z hz with h|⟨j,y,e',hj,hy,h⟩|⟨y,hy,h⟩
 ·rw [h];left;simp
 ·rw [h];exact Q67 (q.srt j i y x hj hy q.xi) e' e
 ·rw [h];exact .inr ⟨by simp,Q66 _ (he y hy)⟩
include h
theorem KI.add {i:Nat} {x:Qm} {pr:List Qe} {L:List Qm} (q:KI a m onto obs i x pr L) {p:Qe} (hp:p∈outP a x.state_) (he:∀ y∈pr,y.Event<p.Event):KI a m onto obs i x (pr++[p]) (addN onto obs x L p):=by
 have hb:=q.below he;have keep:(∀ d,Qyr onto obs x.done_ p.Event=some d→∃ (k:Nat) (z:Qm),L[k]? = some z∧Qe0 z=⟨p.To,d⟩∧sle z.word_ (x.word_++[p.Event]))→KI a m onto obs i x (pr++[p]) L:=fun hk=>{
  xi:=q.xi
  rt:=q.rt
  srt:=q.srt
  par:=fun z hz=>by
   rcases q.par z hz with h|h|⟨y,hy,h⟩
   ·exact .inl h
   ·exact .inr (.inl h)
   ·exact .inr (.inr ⟨y,List.mem_append_left _ hy,h⟩)
  run:=q.run
  don:=q.don
  kid:=fun y hy=>by
   rcases List.mem_append.1 hy with hy|hy
   ·exact q.kid y hy
   ·rw [List.mem_singleton.1 hy];exact hk }
 unfold addN;cases hd:Qyr onto obs x.done_ p.Event with
 | none=>exact keep fun d hd'=>by rw [hd] at hd';cases hd'
 | some d =>
  dsimp only;split
  ·rename_i hany;refine keep fun d' hd'=>?_;rw [hd] at hd';cases hd';obtain ⟨z,hz,hpz⟩:=List.any_eq_true.1 hany;obtain ⟨k,hk⟩:=List.getElem?_of_mem hz;exact ⟨k,z,hk,by simpa using hpz,.inr (hb z hz)⟩
  ·have hil:=(List.getElem?_eq_some_iff.1 q.xi).1;have hold:∀ {j:Nat} {y:Qm},L[j]? = some y→(L++[(⟨p.To,d,x.word_++[p.Event]⟩ : Qm)])[j]? = some y:=fun {j y} hj=>by
    rw [List.getElem?_append_left (List.getElem?_eq_some_iff.1 hj).1];exact hj
   have hx:=q.run x (List.mem_of_getElem? q.xi);have hto:0≤p.To:=(h.ed0 p (List.mem_filter.1 hp).1).2.2.1;have hstep:=Qku h hp;refine ⟨hold q.xi,hold q.rt,fun j k y z hjk hy hz=>?_,fun z hz=>?_,fun z hz=>?_,fun j y hj hy=>?_,fun y hy d' hd'=>?_⟩
   ·have hkl:=(List.getElem?_eq_some_iff.1 hz).1;simp only [List.length_append,List.length_cons,List.length_nil] at hkl;rw [List.getElem?_append_left (by omega)] at hy;rcases Nat.lt_or_ge k L.length with hk|hk
    ·rw [List.getElem?_append_left hk] at hz;exact q.srt j k y z hjk hy hz
    ·have:k=L.length:=by omega
     subst this;simp at hz;subst hz;exact hb y (List.mem_of_getElem? hy)
   ·rcases List.mem_append.1 hz with hz|hz
    ·rcases q.par z hz with h|⟨j,y,e,h1,h2,h3⟩|⟨y,hy,h⟩
     ·exact .inl h
     ·exact .inr (.inl ⟨j,y,e,h1,hold h2,h3⟩)
     ·exact .inr (.inr ⟨y,List.mem_append_left _ hy,h⟩)
    ·rw [List.mem_singleton.1 hz];exact .inr (.inr ⟨p,by simp,rfl⟩)
   ·rcases List.mem_append.1 hz with hz|hz
    ·exact q.run z hz
    ·rw [List.mem_singleton.1 hz];dsimp only;have hr:=Qv4 (a:=a) (e:=p.Event) x.word_ 0 x.state_ 0 (by rw [hx.1];simp);rw [hstep,if_pos hto] at hr;refine ⟨by rw [hr];simp,?_⟩;unfold Qyr at hd;rw [Qv5];by_cases hon:p.Event∈onto
     ·rw [if_pos hon] at hd ⊢;split at hd
      ·cases hd
      ·rename_i hc;cases hd;have hc1:¬ x.done_=obs.length:=fun e=>hc (.inl e);have hc2:getO obs x.done_=some p.Event:=Classical.byContradiction fun e=>hc (.inr e);have:=(Qey.1 hc2).2;refine ⟨by omega,by omega,?_⟩;rw [hx.2.2.2,show (x.done_+1).toNat=x.done_.toNat+1 from by omega,List.take_add_one,this]
       rfl
     ·rw [if_neg hon] at hd ⊢;cases hd;exact hx.2
   ·rw [List.getElem?_append_left (by omega)] at hy;obtain ⟨k1,k2⟩:=q.don j y hj hy;refine ⟨k1,fun p' hp' d' hd'=>?_⟩;obtain ⟨k,z,m1,m2,m3⟩:=k2 p' hp' d' hd';exact ⟨k,z,hold m1,m2,m3⟩
   ·rcases List.mem_append.1 hy with hy|hy
    ·obtain ⟨k,z,m1,m2,m3⟩:=q.kid y hy d' hd';exact ⟨k,z,hold m1,m2,m3⟩
    ·rw [List.mem_singleton.1 hy] at hd' ⊢;rw [hd] at hd';cases hd';exact ⟨L.length,⟨p.To,d,x.word_++[p.Event]⟩,by simp,rfl,.inl rfl⟩
theorem KI.fold {i:Nat} {x:Qm}:∀ (es pr:List Qe) (L:List Qm),(∀ p∈es,p∈outP a x.state_)→(pr++es).Pairwise (fun p q=>p.Event<q.Event)→KI a m onto obs i x pr L→KI a m onto obs i x (pr++es) (es.foldl (addN onto obs x) L)
 | [],pr,L,_,_,q=>by simpa using q
 | p::es,pr,L,hes,hs,q=>by
  have h1:=q.add h (hes p (by simp)) fun y hy=>(List.pairwise_append.1 hs).2.2 y hy p (by simp);have:=KI.fold es (pr++[p]) _ (fun y hy=>hes y (by simp [hy])) (by rw [List.append_assoc];exact hs) h1;rw [List.append_assoc] at this;exact this
theorem Qbb7 (s:Int):(outP a s).Pairwise fun p q=>p.Event<q.Event:=by
 have:=Qp4 h s;have h2:((outP a s).map (·.Event)).Pairwise (· < ·):=by rw [this];exact h.al.filter _
 exact List.pairwise_map.1 h2
structure QL (a:Qa) (m:Bool) (onto obs:List Int) (i:Nat) (L:List Qm):Prop where
 rt:L[0]? = some ⟨0,0,[]⟩
 srt:∀ (j k:Nat) y z,j<k→L[j]? = some y→L[k]? = some z→slt y.word_ z.word_
 par:∀ z∈L,z.word_=[]∨∃ (j:Nat) (y:Qm) (e:Int),j<i∧L[j]? = some y∧z.word_=y.word_++[e]
 run:∀ z∈L,runP a 0 0 z.word_=(z.state_,(z.word_.length:Int))∧0≤z.done_∧z.done_≤obs.length∧obsW onto z.word_=obs.take z.done_.toNat
 don:∀ (j:Nat) y,j<i→L[j]? = some y→¬ Q4h a obs m y=true∧∀ p∈outP a y.state_,∀ d,Qyr onto obs y.done_ p.Event=some d→∃ (k:Nat) (z:Qm),L[k]? = some z∧Qe0 z=⟨p.To,d⟩∧sle z.word_ (y.word_++[p.Event])
theorem QL.next {i:Nat} {x:Qm} {L:List Qm} (q:QL a m onto obs i L) (hx:L[i]? = some x) (hg:¬ Q4h a obs m x=true):QL a m onto obs (i+1) ((outP a x.state_).foldl (addN onto obs x) L):=by
 have k0:KI a m onto obs i x [] L:=⟨hx,q.rt,q.srt,fun z hz=>(q.par z hz).elim .inl fun h=>.inr (.inl h),q.run,q.don,by simp⟩;have k:=KI.fold h (outP a x.state_) [] L (fun p hp=>hp) (Qbb7 h x.state_) k0;rw [List.nil_append] at k;refine ⟨k.rt,k.srt,fun z hz=>?_,k.run,fun j y hj hy=>?_⟩
 ·rcases k.par z hz with h|⟨j,y,e,h1,h2,h3⟩|⟨y,hy,h⟩
  ·exact .inl h
  ·exact .inr ⟨j,y,e,by omega,h2,h3⟩
  ·exact .inr ⟨i,x,y.Event,by omega,k.xi,h⟩
 ·rcases Nat.lt_or_ge j i with hji|hji
  ·exact k.don j y hji hy
  ·have:j=i:=by omega
   subst this;rw [k.xi] at hy;cases hy;exact ⟨hg,k.kid⟩
theorem QL.chain {i:Nat} {L:List Qm} (q:QL a m onto obs i L):∀ (n:Nat) (u:List Int) (s:Int),u.length=n→runP a 0 0 u=(s,(u.length:Int))→obsW onto u <+: obs →
  (∃ (j:Nat) (z:Qm),j<i∧L[j]? = some z∧Qe0 z=⟨s,((obsW onto u).length:Int)⟩∧sle z.word_ u)∨∃ x,L[i]? = some x∧sle x.word_ u
 | 0,u,s,hn,hr,hp=>by
  have:u=[]:=List.eq_nil_of_length_eq_zero hn;subst this;have hs:s=0:=by simp [runP] at hr;exact hr.symm
  subst hs;rcases Nat.eq_zero_or_pos i with rfl|hi
  ·exact .inr ⟨_,q.rt,.inl rfl⟩
  ·exact .inl ⟨0,_,hi,q.rt,rfl,.inl rfl⟩
 | n+1,u,s,hn,hr,hp=>by
  obtain ⟨u',e,rfl⟩ : ∃ u' e,u=u'++[e]:=by
   rcases List.eq_nil_or_concat u with rfl|⟨l,x,rfl⟩
   ·simp at hn
   ·exact ⟨l,x,by simp⟩
  obtain ⟨s',r1,r2,rfl⟩:=Q0c u' 0 s 0 (by rw [hr];simp);rw [Nat.zero_add] at r1;have hp' : obsW onto u' <+: obs:=by
   refine List.IsPrefix.trans ?_ hp;rw [Qv5];split
   ·exact List.prefix_append _ _
   ·exact List.prefix_refl _
  rcases QL.chain q n u' s' (by simpa using hn) r1 hp' with ⟨j,z,hj,hz,hpl,hle⟩|⟨x,hx,hle⟩
  ·obtain ⟨p,hpm,hpe⟩:=(Qj0 h).1 r2;have hz1:z.state_=s':=congrArg Qk.state_ hpl;have hz2:z.done_=((obsW onto u').length:Int):=congrArg Qk.done_ hpl;rw [← hz1] at hpm;have hto:p.To=Qec a s' e:=by have:=Qku h hpm;rw [hz1,hpe] at this;exact this.symm
   have hnd:Qyr onto obs z.done_ p.Event=some ((obsW onto (u'++[e])).length:Int):=by
    unfold Qyr;rw [hpe,Qv5];by_cases hon:e∈onto
    ·rw [if_pos hon,if_pos hon];rw [Qv5,if_pos hon] at hp;obtain ⟨t,ht⟩:=hp;have hg:getO obs z.done_=some e:=by
      rw [Qey,hz2];refine ⟨by omega,?_⟩;rw [← ht];simp
     have hlen:(obsW onto u').length<obs.length:=by
      have:=congrArg List.length ht;simp only [List.length_append,List.length_cons,List.length_nil] at this;omega
     rw [if_neg (by rw [hg];simp<;>omega)];simp [hz2]
    ·rw [if_neg hon,if_neg hon,hz2]
   obtain ⟨k,z',m1,m2,m3⟩:=(q.don j z hj hz).2 p hpm _ hnd;rw [hto] at m2;rw [hpe] at m3;have hle' : sle z'.word_ (u'++[e]):=Q9g m3 (Qbic hle e);rcases Nat.lt_or_ge k i with hk|hk
   ·exact .inl ⟨k,z',hk,m1,m2,hle'⟩
   ·have hkl:=(List.getElem?_eq_some_iff.1 m1).1;refine .inr ⟨L[i],List.getElem?_eq_getElem (by omega),?_⟩;rcases Nat.eq_or_lt_of_le hk with rfl|hik
    ·have:L[i]=z':=by rw [List.getElem?_eq_getElem (by omega)] at m1;exact Option.some.inj m1
     rw [this];exact hle'
    ·exact Q9g (.inr (q.srt i k _ z' hik (List.getElem?_eq_getElem (by omega)) m1)) hle'
  ·exact .inr ⟨x,hx,Qbid hle e⟩
theorem Q53 (h0:0<a.zH) {w:List Int} {t:Int} (hw:runP a 0 0 w=(t,(w.length:Int))) (ho:obsW onto w=obs) (hm:(!m||decide (t∈a.zF))=true):∀ (f i:Nat) (L:List Qm),QL a m onto obs i L→Nodes a obs.length L→i≤L.length→Qhh a obs+1≤i+f →
  (Qn2 a onto obs m f i L).2=true∧sle (Qn2 a onto obs m f i L).1 w
 | 0,i,L,q,hN,hi,hf=>by
  have:L.length≤Qhh a obs:=hN.len;omega
 | f+1,i,L,q,hN,hi,hf=>by
  obtain ⟨x,hx,hle⟩ : ∃ x,L[i]? = some x∧sle x.word_ w:=by
   rcases q.chain h w.length w t rfl hw (by rw [ho];exact List.prefix_refl _) with ⟨j,z,hj,hz,hpl,_⟩|hr
   ·refine absurd ?_ (q.don j z hj hz).1;have e1:z.done_=(obs.length:Int):=by have:=congrArg Qk.done_ hpl;rw [ho] at this;exact this
    have e2:z.state_=t:=congrArg Qk.state_ hpl;unfold Q4h;rw [e1,e2,hm];simp
   ·exact hr
  unfold Qn2;rw [hx];dsimp only;by_cases hg:Q4h a obs m x=true
  ·rw [if_pos hg];exact ⟨rfl,hle⟩
  ·rw [if_neg hg];obtain ⟨h1,h2⟩:=Nodes.fold (onto:=onto) (l:=outP a x.state_) rfl hN hx fun y hy=>by
    have:=h.ed0 y (List.mem_filter.1 hy).1;exact ⟨this.2.2.1,this.2.2.2.1⟩
   have hil:=(List.getElem?_eq_some_iff.1 hx).1;exact Q53 h0 hw ho hm f (i+1) _ (q.next h hx hg) h1 (by have:=h2.length_le;omega) (by omega)
theorem Q54:∀ (f i:Nat) (L:List Qm),QL a m onto obs i L →
  Qn2 a onto obs m f i L=([],false)∨((Qn2 a onto obs m f i L).2=true∧obsW onto (Qn2 a onto obs m f i L).1=obs∧∃ s,runP a 0 0 (Qn2 a onto obs m f i L).1=(s,((Qn2 a onto obs m f i L).1.length:Int))∧(!m||decide (s∈a.zF))=true)
 | 0,i,L,q=>.inl rfl
 | f+1,i,L,q=>by
  unfold Qn2;cases hx:L[i]? with
  | none=>exact .inl rfl
  | some x =>
   dsimp only;by_cases hg:Q4h a obs m x=true
   ·rw [if_pos hg];have hxr:=q.run x (List.mem_of_getElem? hx);unfold Q4h at hg;simp only [Bool.and_eq_true,decide_eq_true_eq] at hg;exact .inr ⟨rfl,by rw [hxr.2.2.2,hg.1];simp,x.state_,hxr.1,hg.2⟩
   ·rw [if_neg hg];exact Q54 f (i+1) _ (q.next h hx hg)
end
theorem Qbb8 {a:Qa} {m:Bool} {onto obs:List Int}:QL a m onto obs 0 [⟨0,0,[]⟩]:=by
 refine ⟨rfl,fun j k y z hjk hy hz=>?_,fun z hz=>?_,fun z hz=>?_,fun j y hj=>by omega⟩
 ·have h1:=(List.getElem?_eq_some_iff.1 hy).1;have h2:=(List.getElem?_eq_some_iff.1 hz).1;simp at h1 h2;omega
 ·simp at hz;subst hz;exact .inl rfl
 ·simp at hz;subst hz;simp [runP,obsW]
end Go.Abs
end
section
namespace Go.Abs
open Go
section
variable {a:Qa} (h:Right a)
structure WS (a:Qa) (most:Int) (i:Nat) (all:List Qn):Prop where
 rt:all[0]? = some ⟨[],0⟩
 srt:∀ (j k:Nat) y z,j<k→all[j]? = some y→all[k]? = some z→slt y.word_ z.word_
 par:∀ z∈all,z.word_=[]∨∃ (j:Nat) (y:Qn) (e:Int),j<i∧all[j]? = some y∧z.word_=y.word_++[e]
 run:∀ z∈all,runP a 0 0 z.word_=(z.state_,(z.word_.length:Int))
 don:∀ (j:Nat) y,j<i→all[j]? = some y→((y.word_.length:Nat):Int)≠most∧∀ p∈outP a y.state_,⟨y.word_++[p.Event],p.To⟩∈all
 ml:∀ z∈all,((z.word_.length:Nat):Int)≤most
include h
theorem WS.next {most:Int} {i:Nat} {all:List Qn} (q:WS a most i all) {x:Qn} (hx:all[i]? = some x) (hm:((x.word_.length:Nat):Int)≠most):WS a most (i+1) (all++kids a x):=by
 have hil:=(List.getElem?_eq_some_iff.1 hx).1;have hxr:=q.run x (List.mem_of_getElem? hx);have hold:∀ {j:Nat} {y:Qn},all[j]? = some y→(all++kids a x)[j]? = some y:=fun {j y} hj=>by
  rw [List.getElem?_append_left (List.getElem?_eq_some_iff.1 hj).1];exact hj
 have hbelow:∀ y∈all,∀ e,slt y.word_ (x.word_++[e]):=by
  intro y hy e;rcases q.par y hy with h|⟨j,y',e',hj,hy',h⟩
  ·rw [h];left;simp
  ·rw [h];exact Q67 (q.srt j i y' x hj hy' hx) e' e
 have hkid:∀ {k:Nat} {z:Qn},(kids a x)[k]? = some z→∃ p∈outP a x.state_,(outP a x.state_)[k]? = some p∧z=⟨x.word_++[p.Event],p.To⟩:=by
  intro k z hz;unfold kids at hz;rw [List.getElem?_map] at hz;cases hp:(outP a x.state_)[k]? with
  | none=>rw [hp] at hz;cases hz
  | some p=>rw [hp] at hz;cases hz;exact ⟨p,List.mem_of_getElem? hp,rfl,rfl⟩
 refine ⟨hold q.rt,fun j k y z hjk hy hz=>?_,fun z hz=>?_,fun z hz=>?_,fun j y hj hy=>?_,fun z hz=>?_⟩
 ·rcases Nat.lt_or_ge k all.length with hk|hk
  ·rw [List.getElem?_append_left hk] at hz;rw [List.getElem?_append_left (by omega)] at hy;exact q.srt j k y z hjk hy hz
  ·rw [List.getElem?_append_right hk] at hz;obtain ⟨p,hp,hpk,rfl⟩:=hkid hz;rcases Nat.lt_or_ge j all.length with hj|hj
   ·rw [List.getElem?_append_left hj] at hy;exact hbelow y (List.mem_of_getElem? hy) _
   ·rw [List.getElem?_append_right hj] at hy;obtain ⟨p',hp',hpj,rfl⟩:=hkid hy;have ho:=Qbb7 h x.state_;have h1:=(List.getElem?_eq_some_iff.1 hpj);have h2:=(List.getElem?_eq_some_iff.1 hpk);obtain ⟨l1,e1⟩:=h1;obtain ⟨l2,e2⟩:=h2;have:=List.pairwise_iff_getElem.1 ho _ _ l1 l2 (by omega);rw [e1,e2] at this;exact .inr ⟨by simp,Q66 _ this⟩
 ·rcases List.mem_append.1 hz with hz|hz
  ·rcases q.par z hz with h|⟨j,y,e,h1,h2,h3⟩
   ·exact .inl h
   ·exact .inr ⟨j,y,e,by omega,hold h2,h3⟩
  ·obtain ⟨k,hk⟩:=List.getElem?_of_mem hz;obtain ⟨p,hp,_,rfl⟩:=hkid hk;exact .inr ⟨i,x,p.Event,by omega,hold hx,rfl⟩
 ·rcases List.mem_append.1 hz with hz|hz
  ·exact q.run z hz
  ·obtain ⟨k,hk⟩:=List.getElem?_of_mem hz;obtain ⟨p,hp,_,rfl⟩:=hkid hk;have hto:0≤p.To:=(h.ed0 p (List.mem_filter.1 hp).1).2.2.1;have hr:=Qv4 (a:=a) (e:=p.Event) x.word_ 0 x.state_ 0 (by rw [hxr];simp);rw [Qku h hp,if_pos hto] at hr;dsimp only;rw [hr];simp
 ·rcases Nat.lt_or_ge j i with hji|hji
  ·rw [List.getElem?_append_left (by omega)] at hy;obtain ⟨k1,k2⟩:=q.don j y hji hy;exact ⟨k1,fun p hp=>List.mem_append_left _ (k2 p hp)⟩
  ·have:j=i:=by omega
   subst this;rw [hold hx] at hy;cases hy;exact ⟨hm,fun p hp=>List.mem_append_right _ (List.mem_map.2 ⟨p,hp,rfl⟩)⟩
 ·rcases List.mem_append.1 hz with hz|hz
  ·exact q.ml z hz
  ·obtain ⟨k,hk⟩:=List.getElem?_of_mem hz;obtain ⟨p,hp,_,rfl⟩:=hkid hk;have:=q.ml x (List.mem_of_getElem? hx);simp only [List.length_append,List.length_cons,List.length_nil];omega
theorem Qblt {most:Int}:∀ (f i:Nat) (all fin:List Qn),WS a most i all→QOk a i all→1025≤f+i→wq a most f i all=some fin →
  ∃ j,WS a most j fin∧QOk a j fin∧(j=fin.length∨∃ x,fin[j]? = some x∧((x.word_.length:Nat):Int)=most)
 | 0,i,all,fin,q,k,hf,e=>by
  have:=k.le;have:=k.ln;omega
 | f+1,i,all,fin,q,k,hf,e=>by
  unfold wq at e;cases hx:all[i]? with
  | none =>
   rw [hx] at e;cases e;have:=k.le;have:=List.getElem?_eq_none_iff.1 hx;exact ⟨i,q,k,.inl (by omega)⟩
  | some x =>
   rw [hx] at e;dsimp only at e;by_cases hm:((x.word_.length:Nat):Int)=most
   ·rw [if_pos hm] at e;cases e;exact ⟨i,q,k,.inr ⟨x,hx,hm⟩⟩
   ·rw [if_neg hm] at e;by_cases hl:(all++kids a x).length>1024
    ·rw [if_pos hl] at e;cases e
    ·rw [if_neg hl] at e;exact Qblt f (i+1) _ fin (q.next h hx hm) (k.next h hx (by omega)) (by omega) e
theorem WS.all_of {most:Int} {j:Nat} {fin:List Qn} (q:WS a most j fin) (k:QOk a j fin) (hend:j=fin.length∨∃ x,fin[j]? = some x∧((x.word_.length:Nat):Int)=most):∀ (n:Nat) (u:List Int) (s:Int),u.length=n→(n:Int)≤most→runP a 0 0 u=(s,(u.length:Int))→⟨u,s⟩∈fin
 | 0,u,s,hn,hmo,hr=>by
  have:u=[]:=List.eq_nil_of_length_eq_zero hn;subst this;have hs:s=0:=by simp [runP] at hr;exact hr.symm
  subst hs;exact List.mem_of_getElem? q.rt
 | n+1,u,s,hn,hmo,hr=>by
  obtain ⟨u',e,rfl⟩ : ∃ u' e,u=u'++[e]:=by
   rcases List.eq_nil_or_concat u with rfl|⟨l,x,rfl⟩
   ·simp at hn
   ·exact ⟨l,x,by simp⟩
  obtain ⟨s',r1,r2,rfl⟩:=Q0c u' 0 s 0 (by rw [hr];simp);rw [Nat.zero_add] at r1;have hul:u'.length=n:=by simpa using hn
  have hm:=WS.all_of q k hend n u' s' hul (by omega) r1;obtain ⟨i,hi⟩:=List.getElem?_of_mem hm;have hil:=(List.getElem?_eq_some_iff.1 hi).1;rcases Nat.lt_or_ge i j with hij|hij
  ·obtain ⟨p,hp,rfl⟩:=(Qj0 h).1 r2;have:=(q.don i _ hij hi).2 p hp;rw [Qku h hp];exact this
  ·exfalso;rcases hend with rfl|⟨x,hx,hxm⟩
   ·omega
   ·have:x.word_.length≤u'.length:=by
     rcases Nat.eq_or_lt_of_le hij with e|e
     ·subst e;rw [hx] at hi;cases hi;exact Nat.le_refl _
     ·rcases q.srt j i x _ e hx hi with h|h
      ·exact Nat.le_of_lt h
      ·exact Nat.le_of_eq h.1
    omega
theorem Qbdi (h0:0<a.zH) {most:Int} (hm:0≤most∧most≤4096):Qgj a most false=some ([],3)∨∃ l,Qgj a most false=some (l,0)∧l.length≤1024 ∧
  (∀ w∈l,(w.length:Int)≤most∧w.length≤2000∧∃ s,runP a 0 0 w=(s,(w.length:Int)))∧(∀ (u:List Int) s,(u.length:Int)≤most→runP a 0 0 u=(s,(u.length:Int))→u∈l)∧∀ (j k:Nat) y z,j<k→l[j]? = some y→l[k]? = some z→slt y z:=by
 rw [Qbib h,if_neg (by omega),if_neg (by omega)];have w0:WS a most 0 [⟨[],0⟩]:=by
  refine ⟨rfl,fun j k y z hjk hy hz=>?_,fun z hz=>?_,fun z hz=>?_,fun j y hj=>by omega,fun z hz=>by simp at hz;subst hz;simp;omega⟩
  ·have h1:=(List.getElem?_eq_some_iff.1 hy).1;have h2:=(List.getElem?_eq_some_iff.1 hz).1;simp at h1 h2;omega
  ·simp at hz;subst hz;exact .inl rfl
  ·simp at hz;subst hz;simp [runP]
 have k0:QOk a 0 [⟨[],0⟩]:=⟨by simp,by simp,by simp,by simp;omega⟩;cases hw:wq a most 1025 0 [⟨[],0⟩] with
 | none=>exact .inl rfl
 | some fin =>
  right;obtain ⟨j,q,k,hend⟩:=Qblt h 1025 0 _ fin w0 k0 (by omega) hw;have hch:Q0b a false fin=fin.map (·.word_):=by
   unfold Q0b;congr 1;exact List.filter_eq_self.2 (fun x _=>by simp)
  refine ⟨_,rfl,by rw [hch,List.length_map];exact k.ln,fun w hw=>?_,fun u s hu hr=>?_,fun i k' y z hik hy hz=>?_⟩
  ·rw [hch] at hw;obtain ⟨x,hx,rfl⟩:=List.mem_map.1 hw;have h1:=k.wl x hx;have h2:=k.le;have h3:=k.ln;exact ⟨q.ml x hx,by omega,x.state_,q.run x hx⟩
  ·rw [hch];exact List.mem_map.2 ⟨_,q.all_of h k hend u.length u s rfl hu hr,rfl⟩
  ·rw [hch,List.getElem?_map] at hy hz;cases hy' : fin[i]? with
   | none=>rw [hy'] at hy;cases hy
   | some y' =>
    cases hz' : fin[k']? with
    | none=>rw [hz'] at hz;cases hz
    | some z' =>
     rw [hy'] at hy;cases hy;rw [hz'] at hz;cases hz;exact q.srt i k' y' z' hik hy' hz'
end
end Go.Abs
end
section
namespace Go.Abs
open Go
section
variable {ev:List Qc} {a b:Qa} {l:List Lab}
theorem Qbb9 (hp:Plt ev a):∀ n,n≤(labs ev a n).1.length→(∀ m<n,m<(labs ev a m).1.length)→∀ k<n,∀ x,(labs ev a n).1[k]? = some x →
  ((labs ev a n).2.2.filter fun z=>z.From==(k:Int))=(outP a x.State).map (fun y=>⟨(k:Int),y.Event,((labs ev a n).1.idxOf (toL ev x y):Int)⟩)∧∀ y∈outP a x.State,toL ev x y∈(labs ev a n).1
 | 0,_,_,k,hk,_,_=>by omega
 | n+1,_,hlt,k,hk,x,hx=>by
  have hn:=hlt n (by omega);have hI:=labI hp n (by omega) (fun m hm=>hlt m (by omega));obtain ⟨x',hx',e⟩:=Q2i hn;have hpre:=Qz4 (ev:=ev) (a:=a) n;have hE:(labs ev a (n+1)).2.2=(labs ev a n).2.2++(outP a x'.State).map fun y=>⟨(n:Int),y.Event,((labs ev a (n+1)).1.idxOf (toL ev x' y):Int)⟩:=by
   rw [e];exact Q64 _ _
  have hmem:∀ y∈outP a x'.State,toL ev x' y∈(labs ev a (n+1)).1:=by rw [e];exact Q63 _ _
  rw [hE,List.filter_append];rcases Nat.lt_or_ge k n with h|h
  ·have hxk:(labs ev a n).1[k]? = some x:=by
    obtain ⟨r,hr⟩:=hpre;rw [← hr,List.getElem?_append_left (by omega)] at hx;exact hx
   obtain ⟨h1,h2⟩:=Qbb9 hp n (by omega) (fun m hm=>hlt m (by omega)) k h x hxk;have h3:(((outP a x'.State).map fun y=>(⟨(n:Int),y.Event,((labs ev a (n+1)).1.idxOf (toL ev x' y):Int)⟩ : Qe)).filter fun z=>z.From==(k:Int))=[]:=by
    rw [List.filter_eq_nil_iff];intro z hz;obtain ⟨y,hy,rfl⟩:=List.mem_map.1 hz;simp;omega
   rw [h1,h3,List.append_nil];refine ⟨List.map_congr_left fun y hy=>?_,fun y hy=>hpre.subset (h2 y hy)⟩;rw [Qbf7 hpre (h2 y hy)]
  ·obtain rfl:k=n:=by omega
   have hxx:x=x':=by
    obtain ⟨r,hr⟩:=hpre;rw [← hr,List.getElem?_append_left hn,hx'] at hx;exact (Option.some.inj hx).symm
   subst hxx;have h3:((labs ev a k).2.2.filter fun z=>z.From==(k:Int))=[]:=by
    rw [List.filter_eq_nil_iff];intro z hz;have:=hI.er z hz;simp;omega
   rw [h3,List.nil_append];refine ⟨List.filter_eq_self.2 fun z hz=>?_,hmem⟩;obtain ⟨y,hy,rfl⟩:=List.mem_map.1 hz;simp
structure Lbx (ev:List Qc) (a b:Qa) (l:List Lab):Prop where
 l0:l[0]? = some ⟨0,0⟩
 rg:∀ x∈l,(0≤x.State∧x.State<a.zH)∧0≤x.Classes∧x.Classes<16
 out:∀ (k:Nat) x,l[k]? = some x→outP b (k:Int)=(outP a x.State).map (fun y=>⟨(k:Int),y.Event,(l.idxOf (toL ev x y):Int)⟩)∧∀ y∈outP a x.State,toL ev x y∈l
theorem Qblu (hp:Plt ev a) (hb:Lbd ev a b l) (h0:0<a.zH):Lbx ev a b l:=by
 obtain ⟨N,hN⟩:=Qbf8 hp h0;have h1:=Qbb3 hp h0 hN;rw [hb.p] at h1;cases h1;have hB:=Qz5 hp h0 N;refine ⟨Qo1 (Qbh2 (Nat.zero_le N)) rfl,hB.ok,fun k x hx=>?_⟩;have hk:=(List.getElem?_eq_some_iff.1 hx).1;exact Qbb9 hp N (by have:=hN.1;omega) hN.2 k (by have:=hN.1;omega) x hx
theorem Qbkn {l:List Lab} {t:Lab} (h:t∈l):l[l.idxOf t]? = some t:=by
 have:=List.idxOf_lt_length_iff.2 h;rw [List.getElem?_eq_getElem this,List.getElem_idxOf]
theorem Qbca (hp:Plt ev a) (hr:Right b) (hx:Lbx ev a b l) {k:Nat} {x:Lab} (hk:l[k]? = some x) (e:Int) :
  (0≤Qec b (k:Int) e↔0≤Qec a x.State e)∧(0≤Qec a x.State e→∃ j:Nat,Qec b (k:Int) e=(j:Int)∧l[j]? = some ⟨Qec a x.State e,orI .i64 x.Classes (bitE ev e)⟩):=by
 obtain ⟨h1,h2⟩:=hx.out k x hk;have hfw:0≤Qec a x.State e→∃ j:Nat,Qec b (k:Int) e=(j:Int)∧l[j]? = some ⟨Qec a x.State e,orI .i64 x.Classes (bitE ev e)⟩:=by
  intro h;obtain ⟨y,hy,rfl⟩:=(Qj0 hp.r).1 h;have hz:(⟨(k:Int),y.Event,(l.idxOf (toL ev x y):Int)⟩ : Qe)∈outP b (k:Int):=by rw [h1];exact List.mem_map.2 ⟨y,hy,rfl⟩
  have:=Qku hr hz;refine ⟨l.idxOf (toL ev x y),this,?_⟩;rw [Qbkn (h2 y hy),Qku hp.r hy]
  rfl
 refine ⟨⟨fun h=>?_,fun h=>?_⟩,hfw⟩
 ·obtain ⟨z,hz,rfl⟩:=(Qj0 hr).1 h;rw [h1] at hz;obtain ⟨y,hy,rfl⟩:=List.mem_map.1 hz;exact (Qj0 hp.r).2 ⟨y,hy,rfl⟩
 ·obtain ⟨j,hj,_⟩:=hfw h;rw [hj];omega
def clsW (ev:List Qc) (w:List Int):Int:=w.foldl (fun c e=>orI .i64 c (bitE ev e)) 0
theorem Q0d (w:List Int) (e:Int):clsW ev (w++[e])=orI .i64 (clsW ev w) (bitE ev e):=by simp [clsW,List.foldl_append]
theorem Qbgl (hp:Plt ev a) (hr:Right b) (hx:Lbx ev a b l):∀ (n:Nat) (w:List Int) (s:Int),w.length=n→runP a 0 0 w=(s,(w.length:Int))→∃ k:Nat,runP b 0 0 w=((k:Int),(w.length:Int))∧l[k]? = some ⟨s,clsW ev w⟩
 | 0,w,s,hn,h=>by
  have:w=[]:=List.eq_nil_of_length_eq_zero hn;subst this;have hs:s=0:=by simp [runP] at h;exact h.symm
  subst hs;exact ⟨0,rfl,hx.l0⟩
 | n+1,w,s,hn,h=>by
  obtain ⟨u,e,rfl⟩ : ∃ u e,w=u++[e]:=by
   rcases List.eq_nil_or_concat w with rfl|⟨l,x,rfl⟩
   ·simp at hn
   ·exact ⟨l,x,by simp⟩
  obtain ⟨s',r1,r2,rfl⟩:=Q0c u 0 s 0 (by rw [h];simp);rw [Nat.zero_add] at r1;obtain ⟨k,h1,h2⟩:=Qbgl hp hr hx n u s' (by simpa using hn) r1;obtain ⟨_,h3⟩:=Qbca hp hr hx h2 e;obtain ⟨j,h4,h5⟩:=h3 r2;have hs:=Qv4 (a:=b) (e:=e) u 0 (k:Int) 0 (by rw [h1];simp);rw [h4,if_pos (by omega)] at hs;exact ⟨j,by rw [hs];simp,by rw [Q0d];exact h5⟩
theorem Q68 (hp:Plt ev a) (hr:Right b) (hx:Lbx ev a b l):∀ (n:Nat) (w:List Int) (k:Int),w.length=n→runP b 0 0 w=(k,(w.length:Int))→∃ (j:Nat) (s:Int),k=(j:Int)∧runP a 0 0 w=(s,(w.length:Int))∧l[j]? = some ⟨s,clsW ev w⟩
 | 0,w,k,hn,h=>by
  have:w=[]:=List.eq_nil_of_length_eq_zero hn;subst this;have hs:k=0:=by simp [runP] at h;exact h.symm
  subst hs;exact ⟨0,0,rfl,rfl,hx.l0⟩
 | n+1,w,k,hn,h=>by
  obtain ⟨u,e,rfl⟩ : ∃ u e,w=u++[e]:=by
   rcases List.eq_nil_or_concat w with rfl|⟨l,x,rfl⟩
   ·simp at hn
   ·exact ⟨l,x,by simp⟩
  obtain ⟨k',r1,r2,rfl⟩:=Q0c u 0 k 0 (by rw [h];simp);rw [Nat.zero_add] at r1;obtain ⟨j,s,rfl,h1,h2⟩:=Q68 hp hr hx n u k' (by simpa using hn) r1;obtain ⟨h3,h4⟩:=Qbca hp hr hx h2 e;have h5:=h3.1 r2;obtain ⟨i,h6,h7⟩:=h4 h5;have hs:=Qv4 (a:=a) (e:=e) u 0 s 0 (by rw [h1];simp);rw [if_pos h5] at hs;exact ⟨i,Qec a s e,h6,by rw [hs];simp,by rw [Q0d];exact h7⟩
end
def fltE (ev:List Qc) (e:Int):Int:=match getO ev e with
 | some x=>x.Fault
 | none=>0
theorem Qbie (ev:List Qc) (e:Int):bitE ev e=if 0<fltE ev e then 2 ^ (fltE ev e-1).toNat else 0:=by
 unfold bitE fltE;cases getO ev e<;>rfl
def orB (c f k:Nat):Bool:=decide (bitC ((k:Int)+1) ⟨0,orI .i64 (c:Int) (if (0:Int)<(f:Int) then 2 ^ ((f:Int)-1).toNat else 0)⟩=1)==(decide (bitC ((k:Int)+1) ⟨0,(c:Int)⟩=1)||decide ((f:Int)=(k:Int)+1))
theorem Qbko:((List.range 16).all fun c=>(List.range 5).all fun f=>(List.range 4).all fun k=>orB c f k)=true:=by kernel_rfl
theorem Q55 (c s s' k:Int):bitC c ⟨s,k⟩=bitC c ⟨s',k⟩:=rfl
theorem Qblv {c f k:Int} (hc:0≤c∧c<16) (hf:0≤f∧f≤4) (hk:1≤k∧k≤4) (s s' : Int):bitC k ⟨s,orI .i64 c (if 0<f then 2 ^ (f-1).toNat else 0)⟩=1↔bitC k ⟨s',c⟩=1∨f=k:=by
 have h:=List.all_eq_true.1 (List.all_eq_true.1 (List.all_eq_true.1 Qbko c.toNat (by simp;omega)) f.toNat (by simp;omega)) (k-1).toNat (by simp;omega);unfold orB at h;rw [show ((c.toNat:Nat):Int)=c from by omega,show ((f.toNat:Nat):Int)=f from by omega,show (((k-1).toNat:Nat):Int)+1=k from by omega] at h;rw [beq_iff_eq,← Bool.decide_or,decide_eq_decide] at h;rw [Q55 k s 0,Q55 k s' 0];exact h
section
variable {ev:List Qc} {a:Qa}
theorem Qblw (hp:Plt ev a) (e:Int):0≤fltE ev e∧fltE ev e≤4:=by
 unfold fltE;cases hx:getO ev e with
 | none=>simp
 | some x=>exact hp.flt x (List.mem_of_getElem? (Qey.1 hx).2)
theorem Qbgm (hp:Plt ev a):∀ (n:Nat) (w:List Int),w.length=n→0≤clsW ev w∧clsW ev w<16
 | 0,w,hn=>by
  have:w=[]:=List.eq_nil_of_length_eq_zero hn;subst this;simp [clsW]
 | n+1,w,hn=>by
  obtain ⟨u,e,rfl⟩ : ∃ u e,w=u++[e]:=by
   rcases List.eq_nil_or_concat w with rfl|⟨l,x,rfl⟩
   ·simp at hn
   ·exact ⟨l,x,by simp⟩
  rw [Q0d];exact (Qbkk (Qbgm hp n u (by simpa using hn)) (Qbf5 hp e)).1
def fltW (ev:List Qc) (c:Int) (w:List Int):Bool:=w.any fun e=>decide (fltE ev e=c)
theorem Q1d (hp:Plt ev a) {c:Int} (hc:1≤c∧c≤4) (s:Int):∀ (n:Nat) (w:List Int),w.length=n→(bitC c ⟨s,clsW ev w⟩=1↔fltW ev c w=true)
 | 0,w,hn=>by
  have:w=[]:=List.eq_nil_of_length_eq_zero hn;subst this;have:((List.range 4).all fun k=>decide (bitC ((k:Int)+1) ⟨0,0⟩=0))=true:=by kernel_rfl
  have h:=List.all_eq_true.1 this (c-1).toNat (by simp;omega);rw [show (((c-1).toNat:Nat):Int)+1=c from by omega,decide_eq_true_eq] at h;have e:bitC c ⟨s,clsW ev []⟩=0:=h;rw [e];simp [fltW]
 | n+1,w,hn=>by
  obtain ⟨u,e,rfl⟩ : ∃ u e,w=u++[e]:=by
   rcases List.eq_nil_or_concat w with rfl|⟨l,x,rfl⟩
   ·simp at hn
   ·exact ⟨l,x,by simp⟩
  have ih:=Q1d hp hc s n u (by simpa using hn);rw [Q0d,Qbie,Qblv (Qbgm hp u.length u rfl) (Qblw hp e) hc s s,ih];simp [fltW]
end
section
variable {b:Qa} (h:Right b) {onto:List Int}
theorem Qbcb:∀ (u v:List Int) (s t:Int) (n:Nat),runP b s n u=(t,((n+u.length:Nat):Int))→runP b s n (u++v)=runP b t (n+u.length) v
 | [],v,s,t,n,hr=>by
  simp only [runP,Prod.mk.injEq] at hr;obtain ⟨rfl,_⟩:=hr;simp
 | x::u,v,s,t,n,hr=>by
  simp only [List.cons_append,runP] at hr ⊢;by_cases h0:0≤Qec b s x
  ·rw [if_pos h0] at hr ⊢;have:=Qbcb u v (Qec b s x) t (n+1) (by rw [hr];simp only [List.length_cons];congr 2;omega);rw [this];simp only [List.length_cons];rw [show n+1+u.length=n+(u.length+1) from by omega]
  ·rw [if_neg h0] at hr;have:=(Prod.mk.inj hr).2;simp only [List.length_cons] at this;omega
theorem Q1e:∀ (v:List Int) (s:Int) (n m:Nat),(runP b s n v).1=(runP b s m v).1∧(runP b s n v).2-n=(runP b s m v).2-m
 | [],s,n,m=>by simp [runP]
 | x::v,s,n,m=>by
  simp only [runP];by_cases h0:0≤Qec b s x
  ·rw [if_pos h0,if_pos h0];have:=Q1e v (Qec b s x) (n+1) (m+1);exact ⟨this.1,by have:=this.2;omega⟩
  ·rw [if_neg h0,if_neg h0];simp
def Led (b:Qa) (s:Int) (w:List Int) (t:Int):Prop:=runP b s 0 w=(t,(w.length:Int))
theorem Led.nil (s:Int):Led b s [] s:=rfl
theorem Led.at {s t:Int} {w:List Int} (hr:Led b s w t) (n:Nat):runP b s n w=(t,((n+w.length:Nat):Int)):=by
 have h1:=Q1e (b:=b) w s n 0;unfold Led at hr;rw [hr] at h1;exact Prod.ext h1.1 (by have:=h1.2;simp only at this ⊢;omega)
theorem Led.app {s t r:Int} {u v:List Int} (h1:Led b s u t) (h2:Led b t v r):Led b s (u++v) r:=by
 unfold Led;rw [Qbcb u v s t 0 (by rw [h1];simp),h2.at];simp
theorem Led.one {s e:Int} (h0:0≤Qec b s e):Led b s [e] (Qec b s e):=by simp [Led,runP,h0]
theorem Led.split:∀ {u v:List Int} {s r:Int},Led b s (u++v) r→∃ t,Led b s u t∧Led b t v r
 | [],v,s,r,hr=>⟨s,rfl,hr⟩
 | x::u,v,s,r,hr=>by
  unfold Led at hr;simp only [List.cons_append,runP] at hr;split at hr
  ·rename_i h0;have h1:Led b (Qec b s x) (u++v) r:=by
    have:=Q1e (b:=b) (u++v) (Qec b s x) 0 1;rw [hr] at this;exact Prod.ext this.1 (by have:=this.2;simp only [List.length_cons] at this ⊢;omega)
   obtain ⟨t,h2,h3⟩:=Led.split h1;exact ⟨t,(Led.one h0).app h2,h3⟩
  ·have:=(Prod.mk.inj hr).2;simp only [List.length_cons] at this;omega
theorem Led.step {s t e:Int} (hr:Led b s [e] t):0≤Qec b s e∧t=Qec b s e:=by
 unfold Led at hr;simp only [runP] at hr;split at hr
 ·rename_i h0;exact ⟨h0,(Prod.mk.inj hr).1.symm⟩
 ·have:=(Prod.mk.inj hr).2;simp at this
include h
theorem Led.edge {s t e:Int} (hr:Led b s [e] t):∃ x∈b.zG,x.From=s∧x.Event=e∧x.To=t:=by
 obtain ⟨h1,rfl⟩:=hr.step;obtain ⟨x,hx,rfl⟩:=(Qj0 h).1 h1;have hx':=List.mem_filter.1 hx;exact ⟨x,hx'.1,by simpa using hx'.2,rfl,(Qku h hx).symm⟩
theorem Qbcc {x:Qe} (hx:x∈b.zG):Led b x.From [x.Event] x.To:=by
 have hm:x∈outP b x.From:=List.mem_filter.2 ⟨hx,by simp⟩;have e:=Qku h hm;have h0:=(h.ed0 x hx).2.2.1;have:=Led.one (b:=b) (s:=x.From) (e:=x.Event) (by rw [e];exact h0);rw [e] at this;exact this
theorem Qbgn {er fr:List Int} {t:Int}:Rch b er fr t↔∃ s∈fr,∃ v,(∀ e∈v,e∈er)∧Led b s v t:=by
 constructor
 ·intro hr
  induction hr with
  | base hs=>exact ⟨_,hs,[],by simp,.nil _⟩
  | step _ hx he ih =>
   obtain ⟨s,hs,v,hv,hl⟩:=ih;refine ⟨s,hs,v++[_],fun e h'=>?_,hl.app (Qbcc h hx)⟩;rcases List.mem_append.1 h' with h'|h'
   ·exact hv e h'
   ·rw [List.mem_singleton.1 h'];exact he
 ·rintro ⟨s,hs,v,hv,hl⟩;have:∀ (n:Nat) (v:List Int) (t:Int),v.length=n→(∀ e∈v,e∈er)→Led b s v t→Rch b er fr t:=by
   intro n
   induction n with
   | zero =>
    intro v t hn _ hl;have:v=[]:=List.eq_nil_of_length_eq_zero hn;subst this;have:t=s:=by unfold Led at hl;simp [runP] at hl;exact hl.symm
    rw [this];exact .base hs
   | succ n ih =>
    intro v t hn hv hl;obtain ⟨u,e,rfl⟩ : ∃ u e,v=u++[e]:=by
     rcases List.eq_nil_or_concat v with rfl|⟨l,x,rfl⟩
     ·simp at hn
     ·exact ⟨l,x,by simp⟩
    obtain ⟨t',h1,h2⟩:=Led.split hl;obtain ⟨x,hx,rfl,rfl,rfl⟩:=h2.edge h;exact .step (ih u _ (by simpa using hn) (fun e he=>hv e (List.mem_append_left _ he)) h1) hx (hv _ (by simp))
  exact this v.length v t rfl hv hl
theorem Q2j:∀ {w:List Int} {s t:Int},Led b s w t→∀ e∈w,e∈b.zD
 | [],_,_,_,e,he=>by cases he
 | x::w,s,t,hr,e,he=>by
  obtain ⟨r,h1,h2⟩:=Led.split (u:=[x]) (v:=w) hr;obtain ⟨y,hy,_,hy2,_⟩:=h1.edge h;rcases List.mem_cons.1 he with rfl|he
  ·rw [← hy2];exact (h.ed0 y hy).2.2.2.2
  ·exact Q2j h2 e he
omit h in
theorem Qbcd (u v:List Int):obsW onto (u++v)=obsW onto u++obsW onto v:=by simp [obsW]
omit h in
theorem Q9h {v:List Int} (hv:∀ e∈v,e∉onto):obsW onto v=[]:=by
 unfold obsW;rw [List.filter_eq_nil_iff];intro e he;simpa using hv e he
omit h in
theorem Qbgo:∀ {u o:List Int} {e:Int},obsW onto u=o++[e]→∃ u' v,u=u'++[e]++v∧obsW onto u'=o∧e∈onto∧∀ x∈v,x∉onto:=by
 have key:∀ (n:Nat) (u o:List Int) (e:Int),u.length=n→obsW onto u=o++[e]→∃ u' v,u=u'++[e]++v∧obsW onto u'=o∧e∈onto∧∀ x∈v,x∉onto:=by
  intro n
  induction n with
  | zero =>
   intro u o e hn ho;have:u=[]:=List.eq_nil_of_length_eq_zero hn;subst this;simp [obsW] at ho
  | succ n ih =>
   intro u o e hn ho;obtain ⟨w,x,rfl⟩ : ∃ w x,u=w++[x]:=by
    rcases List.eq_nil_or_concat u with rfl|⟨l,x,rfl⟩
    ·simp at hn
    ·exact ⟨l,x,by simp⟩
   rw [Qv5] at ho;by_cases hx:x∈onto
   ·rw [if_pos hx] at ho;obtain ⟨h1,h2⟩:=List.append_inj' ho rfl;have:x=e:=by simpa using h2
    subst this;exact ⟨w,[],by simp,h1,hx,by simp⟩
   ·rw [if_neg hx] at ho;obtain ⟨u',v,h1,h2,h3,h4⟩:=ih w o e (by simpa using hn) ho;refine ⟨u',v++[x],by rw [h1];simp,h2,h3,fun y hy=>?_⟩;rcases List.mem_append.1 hy with hy|hy
    ·exact h4 y hy
    ·rw [List.mem_singleton.1 hy];exact hx
 exact fun {u o e} ho=>key u.length u o e rfl ho
theorem Qbgp (h0:0<b.zH):∀ (n:Nat) (o:List Int),o.length=n→(∀ e∈o,e∈onto)→∀ k,k∈estP b onto o↔∃ u,Led b 0 u k∧obsW onto u=o
 | 0,o,hn,hon,k=>by
  have:o=[]:=List.eq_nil_of_length_eq_zero hn;subst this;have e:estP b onto []=Qqv b [0] (Qif b onto):=by unfold estP Qvy;rw [List.foldl_nil,if_neg (by omega)]
  rw [e,Q4a h (fun s hs=>by simp at hs;subst hs;omega),Qbgn h];constructor
  ·rintro ⟨s,hs,v,hv,hl⟩;have:s=0:=by simpa using hs
   subst this;refine ⟨v,hl,Q9h fun e he=>?_⟩;have:=hv e he;unfold Qif at this;simpa using (List.mem_filter.1 this).2
  ·rintro ⟨u,hl,ho⟩;refine ⟨0,by simp,u,fun e he=>?_,hl⟩;unfold Qif;refine List.mem_filter.2 ⟨Q2j h hl e he,?_⟩;unfold obsW at ho;simpa using List.filter_eq_nil_iff.1 ho e he
 | n+1,o,hn,hon,k=>by
  obtain ⟨o',x,rfl⟩ : ∃ o' x,o=o'++[x]:=by
   rcases List.eq_nil_or_concat o with rfl|⟨l,x,rfl⟩
   ·simp at hn
   ·exact ⟨l,x,by simp⟩
  have ih:=Qbgp h0 n o' (by simpa using hn) (fun e he=>hon e (List.mem_append_left _ he));have hx:x∈onto:=hon x (by simp);have e:estP b onto (o'++[x])=Qqv b (Qp5 b (estP b onto o') x) (Qif b onto):=by simp [estP,List.foldl_append,Q1a]
  rw [e,Q4a h (Q4f h),Qbgn h];constructor
  ·rintro ⟨s,hs,v,hv,hl⟩;obtain ⟨y,hy,hyf,rfl,rfl⟩:=Q4e.1 hs;obtain ⟨u,hu,ho⟩:=(ih _).1 hyf;refine ⟨u++[y.Event]++v,(hu.app (Qbcc h hy)).app hl,?_⟩;rw [Qbcd,Qbcd,ho,Q9h (v:=v) fun e he=>by
    have:=hv e he;unfold Qif at this;simpa using (List.mem_filter.1 this).2]
   have:obsW onto [y.Event]=[y.Event]:=by simp [obsW,hx]
   rw [this];simp
  ·rintro ⟨u,hl,ho⟩;obtain ⟨u',v,rfl,h1,_,h3⟩:=Qbgo ho;obtain ⟨t,h4,h5⟩:=Led.split hl;obtain ⟨r,h6,h7⟩:=Led.split h4;obtain ⟨y,hy,rfl,rfl,rfl⟩:=h7.edge h;refine ⟨y.To,Q4e.2 ⟨y,hy,(ih _).2 ⟨u',h6,h1⟩,rfl,rfl⟩,v,fun e he=>?_,h5⟩;unfold Qif;exact List.mem_filter.2 ⟨Q2j h h5 e he,by simpa using h3 e he⟩
end
end Go.Abs
end
section
namespace Go.Abs
open Go
def mkC (c o:Int):Nat→List Lab→List Int
 | _,[]=>[]
 | i,x::l=>(if bitC c x=o then [(i:Int)] else [])++mkC c o (i+1) l
theorem Qbce {c o:Int}:∀ {l:List Lab} {i:Nat},∀ x∈mkC c o i l,(i:Int)≤x∧x<(i:Int)+l.length
 | [],i,x,hx=>by simp [mkC] at hx
 | y::l,i,x,hx=>by
  simp only [mkC,List.mem_append] at hx;rcases hx with hx|hx
  ·split at hx<;>simp at hx;subst hx;simp only [List.length_cons];omega
  ·have:=Qbce x hx;simp only [List.length_cons];omega
theorem Qbcf {c o:Int}:∀ {l:List Lab} {i:Nat},(mkC c o i l).Pairwise (· < ·)
 | [],i=>by simp [mkC]
 | y::l,i=>by
  simp only [mkC];rw [List.pairwise_append];refine ⟨by split<;>simp,Qbcf,fun p hp q hq=>?_⟩;have:=Qbce q hq;split at hp<;>simp at hp;subst hp;omega
theorem Qbam {c o:Int}:∀ {l:List Lab} {i k:Nat},((i+k:Nat):Int)∈mkC c o i l↔∃ x,l[k]? = some x∧bitC c x=o
 | [],i,k=>by simp [mkC]
 | y::l,i,k=>by
  simp only [mkC,List.mem_append];cases k with
  | zero =>
   have h2:¬ ((i+0:Nat):Int)∈mkC c o (i+1) l:=fun h=>by have:=Qbce _ h;omega
   simp only [h2,or_false,List.getElem?_cons_zero,Option.some.injEq,exists_eq_left'];split<;>rename_i h<;>simp [h]
  | succ k =>
   have h1:¬ ((i+(k+1):Nat):Int)∈(if bitC c y=o then [(i:Int)] else []):=by split<;>simp<;>omega
   have e:((i+(k+1):Nat):Int)=((i+1+k:Nat):Int):=by omega
   simp only [h1,false_or,List.getElem?_cons_succ];rw [e,Qbam]
abbrev Qv6 (b:Qa) (m:List Int):Qa:=⟨b.zD,b.zH,m,b.zG⟩
theorem Q69 {b:Qa} {m:List Int}:∀ (w:List Int) (s:Int) (n:Nat),runP (Qv6 b m) s n w=runP b s n w
 | [],s,n=>rfl
 | x::w,s,n=>by
  simp only [runP];rw [show Qec (Qv6 b m) s x=Qec b s x from rfl,Q69 w]
noncomputable def Qns (b:Qa) (l:List Lab) (ev:List Qc) (w:List Int) (c o:Int):List Int :=
 (Qn2 (Qv6 b (mkC c o 0 l)) (obsE ev) w true (Qhh (Qv6 b (mkC c o 0 l)) w+1) 0 [⟨0,0,[]⟩]).1
section
variable {ev:List Qc} {a b:Qa} {l:List Lab}
theorem Q9i (hb:Lbd ev a b l) (c o:Int):Right (Qv6 b (mkC c o 0 l)):=by
 have h:=hb.r;exact ⟨h.al0,h.al,h.st,fun x hx=>by have:=Qbce x hx;have:=hb.n;simp only;omega,Qbcf,h.ed0,h.ed⟩
theorem Qbif (hb:Lbd ev a b l) {w:List Int} (hk:okW ev a w=true) (m:List Int):(w.all fun x=>decide (x∈Qqe (Qv6 b m) (obsE ev)))=true:=by
 rw [List.all_eq_true];intro x hx;have:=List.all_eq_true.1 hk x hx;rw [decide_eq_true_eq,Qqe,List.mem_filter];simp only [Bool.and_eq_true,decide_eq_true_eq] at this ⊢;exact ⟨by rw [hb.al];exact this.2,this.1⟩
theorem Q4l (hp:Plt ev a) (hb:Lbd ev a b l) (h0:0<b.zH) {c o:Int} (hc:1≤c∧c≤4) {w:List Int} (hw:w.length≤1000) (hk:okW ev a w=true) (m:List Int) :
  Qhd o (Qv6 b m) l c ev w=some (Qns b l ev w c o,Qv6 b (mkC c o 0 l)):=by
 have hfew:=hb.few;unfold Qhd Qcm;refine Qfj (x:=mkC c o 0 l) ?_ ?_
 ·refine (Qez (len:=l.length) (fun n (acc:List Int)=>((n:Int),acc)) (fun n acc=>acc.length≤n) (fun n acc=>some (acc++mkC c o n (l.drop n))) ?_ ?_ Qbb 0 [] (Nat.zero_le _) (by unfold Qbb;omega) (Nat.le_refl _)).trans (by simp)
  ·intro k n acc hn hi ih;dsimp only;rw [if_pos (by omega),Qbf hn];simp only [Option.bind_some];have h2:shrO .i64 l[n].Classes (IntKind.wrap .i64 (c-1))=some (l[n].Classes.fdiv (2 ^ (min (IntKind.wrap .i64 (c-1)).toNat IntKind.i64.bits))):=by unfold shrO;rw [if_neg (by have:=Q65 hc;omega)]
   rw [h2];simp only [Option.bind_some];rw [Qy (by omega),List.drop_eq_getElem_cons hn];by_cases h:bitC c l[n]=o
   ·have h' : (andI .i64 (l[n].Classes.fdiv (2 ^ (min (IntKind.wrap .i64 (c-1)).toNat IntKind.i64.bits))) 1==o)=true:=by rw [beq_iff_eq];exact h
    rw [if_pos h',Qby (by simp only [List.length_cons,List.length_nil];unfold lim;omega)];simp only [Option.bind_some];rw [ih _ (by simp;omega)];simp [mkC,h]
   ·have h' : ¬ (andI .i64 (l[n].Classes.fdiv (2 ^ (min (IntKind.wrap .i64 (c-1)).toNat IntKind.i64.bits))) 1==o)=true:=by rw [beq_iff_eq];exact h
    rw [if_neg h'];simp only [Option.bind_some];rw [ih _ (by omega)];simp [mkC,h]
  ·intro k acc hi;dsimp only;rw [if_neg (by omega)];simp [mkC]
 ·dsimp only;rw [Qxq (by have:=hp.len;unfold big;omega) hp.chk];simp only [Option.bind_some];have:=Qbki (Q9i hb c o) (Qwk hp.len) hw true h0 (Qbif hb hk _);rw [this]
  rfl
theorem Qbgq (hp:Plt ev a) (hb:Lbd ev a b l) (hx:Lbx ev a b l) (h0:0<b.zH) {c o:Int} (hc:1≤c∧c≤4) (ho:o=0∨o=1) {w:List Int} (hw:w.length≤1000) :
  (Qns b l ev w c o=[]∧∀ u s,runP a 0 0 u=(s,(u.length:Int))→obsW (obsE ev) u=w→fltW ev c u≠decide (o=1)) ∨
  ((Qns b l ev w c o).length<1000000000∧(∃ s,runP a 0 0 (Qns b l ev w c o)=(s,((Qns b l ev w c o).length:Int)))∧obsW (obsE ev) (Qns b l ev w c o)=w∧fltW ev c (Qns b l ev w c o)=decide (o=1) ∧
   ∀ u s,runP a 0 0 u=(s,(u.length:Int))→obsW (obsE ev) u=w→fltW ev c u=decide (o=1)→sle (Qns b l ev w c o) u):=by
 have hR:=Q9i hb c o;have hN:=Qbad (a:=Qv6 b (mkC c o 0 l)) h0 w.length;have hfl:∀ (u:List Int) (x:Lab),x.Classes=clsW ev u→(bitC c x=o↔fltW ev c u=decide (o=1)):=by
  intro u x hx;have h1:=Q1d hp hc x.State u.length u rfl;have h2:bitC c x=bitC c ⟨x.State,clsW ev u⟩:=by rw [← hx]
  have h3:=Q1c (x.Classes.fdiv (2 ^ (min (IntKind.wrap .i64 (c-1)).toNat IntKind.i64.bits)));have h4:bitC c x=0∨bitC c x=1:=by unfold bitC;omega
  rw [← h2] at h1;rcases ho with rfl|rfl
  ·rcases h4 with h|h
   ·rw [h] at h1 ⊢;simp only [show ¬ ((0:Int)=1) from by decide,false_iff] at h1;simpa using h1
   ·rw [h] at h1 ⊢;simp only [true_iff] at h1;simp [h1]
  ·rw [h1];simp
 have hleast:∀ u s,runP a 0 0 u=(s,(u.length:Int))→obsW (obsE ev) u=w→fltW ev c u=decide (o=1) →
   (Qn2 (Qv6 b (mkC c o 0 l)) (obsE ev) w true (Qhh (Qv6 b (mkC c o 0 l)) w+1) 0 [⟨0,0,[]⟩]).2=true∧sle (Qns b l ev w c o) u:=by
  intro u s hr hob hf;obtain ⟨k,h1,h2⟩:=Qbgl hp hb.r hx u.length u s rfl hr;refine Q53 hR h0 (w:=u) (t:=(k:Int)) (by rw [Q69];exact h1) hob ?_ (Qhh (Qv6 b (mkC c o 0 l)) w+1) 0 _ Qbb8 hN (Nat.zero_le _) (by omega);have:(k:Int)∈mkC c o 0 l:=by
   have:=(Qbam (c:=c) (o:=o) (l:=l) (i:=0) (k:=k)).2 ⟨_,h2,(hfl u _ rfl).2 hf⟩;simpa using this
  simp [this]
 rcases Q54 hR (Qhh (Qv6 b (mkC c o 0 l)) w+1) 0 [⟨0,0,[]⟩] (Qbb8 (onto:=obsE ev) (obs:=w) (m:=true)) with h|⟨h1,h2,s,h3,h4⟩
 ·left;refine ⟨by unfold Qns;rw [h],fun u s hr hob hf=>?_⟩;have:=(hleast u s hr hob hf).1;rw [h] at this;cases this
 ·right;have hlen:(Qns b l ev w c o).length≤Qhh (Qv6 b (mkC c o 0 l)) w:=Q9a _ 0 _ 0 (fun z hz=>by simp at hz;subst hz;simp only;omega) hR hN (Nat.zero_le _);have hnn:=Q87 hR hw;rw [Q69] at h3;obtain ⟨j,t,rfl,h5,h6⟩:=Q68 hp hb.r hx _ _ s rfl h3;refine ⟨by omega,⟨t,h5⟩,h2,?_,fun u s hr hob hf=>(hleast u s hr hob hf).2⟩;have h7:(j:Int)∈mkC c o 0 l:=by simpa using h4
  obtain ⟨x,hx1,hx2⟩:=(Qbam (c:=c) (o:=o) (l:=l) (i:=0) (k:=j)).1 (by simpa using h7);have e:x=⟨t,clsW ev (Qn2 (Qv6 b (mkC c o 0 l)) (obsE ev) w true (Qhh (Qv6 b (mkC c o 0 l)) w+1) 0 [⟨0,0,[]⟩]).1⟩:=by rw [hx1] at h6;exact Option.some.inj h6
  exact (hfl _ x (by rw [e];rfl)).1 hx2
theorem Qbcg {c:Int}:∀ {L:List Lab},cntC c L=0↔∀ x∈L,bitC c x=0
 | []=>by simp [cntC]
 | x::L=>by
  have ih:=Qbcg (c:=c) (L:=L);have h1:=Qbai c L;have h2:=Q1c (x.Classes.fdiv (2 ^ (min (IntKind.wrap .i64 (c-1)).toNat IntKind.i64.bits)));have e:cntC c (x::L)=bitC c x+cntC c L:=by unfold cntC;rw [List.map_cons,List.sum_cons]
  have h3:0≤bitC c x:=h2.1;rw [e];simp only [List.mem_cons,forall_eq_or_imp,← ih];omega
theorem Qbgr {c:Int}:∀ {L:List Lab},cntC c L=L.length↔∀ x∈L,bitC c x=1
 | []=>by simp [cntC]
 | x::L=>by
  have ih:=Qbgr (c:=c) (L:=L);have h1:=Qbai c L;have h2:=Q1c (x.Classes.fdiv (2 ^ (min (IntKind.wrap .i64 (c-1)).toNat IntKind.i64.bits)));have e:cntC c (x::L)=bitC c x+cntC c L:=by unfold cntC;rw [List.map_cons,List.sum_cons]
  have h3:bitC c x≤1:=h2.2;rw [e];simp only [List.mem_cons,forall_eq_or_imp,← ih,List.length_cons];omega
theorem Qbdj (hp:Plt ev a) (hb:Lbd ev a b l) (hx:Lbx ev a b l) (h0:0<b.zH) {c:Int} (hc:1≤c∧c≤4) {w:List Int} (hk:okW ev a w=true) (hne:Qi9 l (estP b (obsE ev) w)≠[]) :
  (Qz9 c (Qi9 l (estP b (obsE ev) w))=1↔∀ u s,runP a 0 0 u=(s,(u.length:Int))→obsW (obsE ev) u=w→fltW ev c u=false) ∧
  (Qz9 c (Qi9 l (estP b (obsE ev) w))=2↔∀ u s,runP a 0 0 u=(s,(u.length:Int))→obsW (obsE ev) u=w→fltW ev c u=true):=by
 have hon:∀ e∈w,e∈obsE ev:=fun e he=>by
  have:=List.all_eq_true.1 hk e he;simp only [Bool.and_eq_true,decide_eq_true_eq] at this;exact this.1
 have hmem:=Qbgp hb.r (onto:=obsE ev) h0 w.length w rfl hon;have hbit:∀ x:Lab,bitC c x=0∨bitC c x=1:=fun x=>by
  have:=Q1c (x.Classes.fdiv (2 ^ (min (IntKind.wrap .i64 (c-1)).toNat IntKind.i64.bits)));unfold bitC;omega
 have hall:∀ (P:Lab→Prop) ,(∀ x∈Qi9 l (estP b (obsE ev) w),P x)↔∀ u s,runP a 0 0 u=(s,(u.length:Int))→obsW (obsE ev) u=w→P ⟨s,clsW ev u⟩:=by
  intro P;constructor
  ·intro h u s hr ho;obtain ⟨k,h1,h2⟩:=Qbgl hp hb.r hx u.length u s rfl hr;have hm:(k:Int)∈estP b (obsE ev) w:=(hmem k).2 ⟨u,h1,ho⟩;refine h _ (List.mem_map.2 ⟨(k:Int),hm,?_⟩);have:getO l (k:Int)=some ⟨s,clsW ev u⟩:=by rw [Qey];exact ⟨by omega,by simpa using h2⟩
   rw [this];rfl
  ·intro h x hx';obtain ⟨k,hm,rfl⟩:=List.mem_map.1 hx';obtain ⟨u,hu,ho⟩:=(hmem k).1 hm;obtain ⟨j,s,rfl,h1,h2⟩:=Q68 hp hb.r hx u.length u k rfl hu;have:getO l (j:Int)=some ⟨s,clsW ev u⟩:=by rw [Qey];exact ⟨by omega,by simpa using h2⟩
   rw [this];exact h u s h1 ho
 have hpos:0<(Qi9 l (estP b (obsE ev) w)).length:=List.length_pos_iff.2 hne;have h1:Qz9 c (Qi9 l (estP b (obsE ev) w))=1↔cntC c (Qi9 l (estP b (obsE ev) w))=0:=by
  unfold Qz9;split
  ·rename_i h;simp [h]
  ·rename_i h;split<;>simp [h]
 have h2:Qz9 c (Qi9 l (estP b (obsE ev) w))=2↔cntC c (Qi9 l (estP b (obsE ev) w))=(Qi9 l (estP b (obsE ev) w)).length:=by
  unfold Qz9;split
  ·rename_i h;omega
  ·rename_i h;split
   ·rename_i h2;simp [h2]
   ·rename_i h2;simp [h2]
 rw [h1,h2,Qbcg,Qbgr,hall (fun x=>bitC c x=0),hall (fun x=>bitC c x=1)];refine ⟨⟨fun h u s hr ho=>?_,fun h u s hr ho=>?_⟩,⟨fun h u s hr ho=>?_,fun h u s hr ho=>?_⟩⟩
 ·have h3:=h u s hr ho;have:=Q1d hp hc s u.length u rfl;rw [h3] at this;simpa using this
 ·have h3:=h u s hr ho;have:=Q1d hp hc s u.length u rfl;rw [h3] at this;rcases hbit ⟨s,clsW ev u⟩ with h4|h4
  ·exact h4
  ·exact absurd (this.1 h4) (by simp)
 ·exact (Q1d hp hc s u.length u rfl).1 (h u s hr ho)
 ·exact (Q1d hp hc s u.length u rfl).2 (h u s hr ho)
end
end Go.Abs
end
section
namespace Go.Abs
open Go
theorem Qrc {onto w:List Int} (hs:onto.Pairwise (· < ·)) (ho:onto.length<big) (hw:w.length<big):Qmx w onto=some (obsW onto w):=by
 have hb:w.length<1000000000000:=hw;unfold Qmx Qfk;refine Qfj (x:=obsW onto w) ?_ rfl;refine (Qez (len:=w.length) (fun n (acc:List Int)=>(acc,(n:Int))) (fun n acc=>acc.length≤n) (fun n acc=>some (acc++obsW onto (w.drop n))) ?_ ?_ Qbb 0 [] (Nat.zero_le _) (by unfold Qbb;omega) (Nat.le_refl _)).trans (by simp)
 ·intro k n acc hn hi ih;dsimp only;rw [if_pos (by omega),Qbf hn];simp only [Option.bind_some];rw [Q62 hs ho,Qy (by omega),List.drop_eq_getElem_cons hn];simp only [Option.bind_some];unfold obsW at ih ⊢;rw [List.filter_cons];by_cases h:w[n]∈onto
  ·rw [decide_eq_true h,if_pos rfl,if_pos rfl,Qby (by simp only [List.length_cons,List.length_nil];unfold lim;omega)];simp only [Option.bind_some];rw [ih _ (by simp;omega)];simp
  ·rw [decide_eq_false h,if_neg (by simp),if_neg (by simp)];simp only [Option.bind_some];rw [ih _ (by omega)]
 ·intro k acc hi;dsimp only;rw [if_neg (by omega),List.drop_eq_nil_of_le (Nat.le_refl _)];simp [obsW]
theorem Qbgs:∀ {w:List Int},¬ slt w w:=by
 have h:∀ w:List Int,wlt w w=false:=by
  intro w
  induction w with
  | nil=>rfl
  | cons x w ih=>simp [wlt,ih]
 intro w hs;rcases hs with hs|⟨_,hs⟩
 ·omega
 ·rw [h] at hs;cases hs
section
variable {ev:List Qc} {a:Qa}
theorem Q4m (hp:Plt ev a) {w:List Int} (hw:w.length<big) (hal:∀ e∈w,e∈a.zD) (c:Int):Qgv ev w c=some (fltW ev c w):=by
 have hb:w.length<1000000000000:=hw;unfold Qgv Qcf fltW;refine (Qil (len:=w.length) (fun k=>some ((w.drop k).any fun e=>decide (fltE ev e=c))) (by unfold Qbb;omega) ?_ ?_).trans (by simp)
 ·intro k i hi ih
  try dsimp only
  have hm:=hal _ (List.getElem_mem hi);have h1:=hp.al _ hm;have h2:=hp.r.al0 _ hm;rw [if_pos (by omega),Qbf hi,Qy (by omega),ih,List.drop_eq_getElem_cons hi,List.any_cons];simp only [Option.bind_some];have hg:getO ev w[i]=some (ev[w[i].toNat]'(by omega)):=by rw [Qey];exact ⟨h2.1,List.getElem?_eq_getElem (by omega)⟩
  have hf:fltE ev w[i]=(ev[w[i].toNat]'(by omega)).Fault:=by unfold fltE;rw [hg]
  rw [hg,hf];simp only [Option.bind_some];by_cases h:(ev[w[i].toNat]'(by omega)).Fault=c<;>simp [h]
 ·intro k;simp
theorem Qbdk (hp:Plt ev a) {b:Qa} {l:List Lab} (hb:Lbd ev a b l) {w:List Int} (hw:w.length≤1000) (c:Int) :
  Qgn ev a w c=some (if c<1∨4<c then ([],[],0,2) else if okW ev a w=true then (if Qi9 l (estP b (obsE ev) w)=[] then ([],[],0,10) else (Qns b l ev w c 1,Qns b l ev w c 0,Qz9 c (Qi9 l (estP b (obsE ev) w)),0)) else ([],[],0,9)):=by
 have hwb:w.length<big:=by unfold big;omega
 unfold Qgn Qb1;rw [Qz7 hp];simp only [Option.bind_some,show ((0:Int) != 0)=false from rfl,Bool.false_eq_true,if_false];have e:Qfi c=some (decide (c<1∨4<c)):=by unfold Qfi Qbl;by_cases h:c<1<;>simp [h]
 rw [e];simp only [Option.bind_some];by_cases hc:c<1∨4<c
 ·rw [decide_eq_true hc,if_pos rfl,if_pos hc]
 rw [decide_eq_false hc,if_neg (by simp),if_neg hc,Q1x hp hb hwb];simp only [Option.bind_some];by_cases hk:okW ev a w=true
 ·rw [if_pos hk,if_pos hk];have hL:(Qi9 l (estP b (obsE ev) w)).length<big:=by rw [Q4k];exact (Qz8 w).big hb.r
  simp only [show ((0:Int) != 0)=false from rfl,Bool.false_eq_true,if_false];rw [Qbak hL,if_neg hc];by_cases h0:Qi9 l (estP b (obsE ev) w)=[]
  ·rw [if_pos h0,if_pos h0]
   rfl
  ·rw [if_neg h0,if_neg h0];simp only [Option.bind_some,show ((0:Int) != 0)=false from rfl,Bool.false_eq_true,if_false];have hpos:0<b.zH:=by
    have hst:=hb.r.st;rcases Int.lt_or_le 0 b.zH with h|h
    ·exact h
    ·exfalso;refine h0 ?_;have hz:b.zH=0:=by omega
     have:=(Qz8 (a:=b) (onto:=obsE ev) w).len;rw [hz] at this;have:estP b (obsE ev) w=[]:=List.eq_nil_of_length_eq_zero (by simpa using this);rw [this];rfl
   rw [hb.p];simp only [Option.bind_some];have hset:b=Qv6 b b.zF:=rfl;have h1:=Q4l (o:=1) hp hb hpos (c:=c) (by omega) hw hk b.zF;have h2:=Q4l (o:=0) hp hb hpos (c:=c) (by omega) hw hk (mkC c 1 0 l);rw [← hset] at h1;rw [h1];simp only [Option.bind_some];rw [h2]
   rfl
 ·rw [if_neg hk,if_neg hk]
  rfl
end
theorem Qban:IntKind.wrap .i64 (IntKind.wrap .i64 0)=0:=by decide
theorem Q9j {p:Qbq} (hw:Qbgf p) (w:List Int) (c:Int):Qex p w c=some true:=by
 unfold Qex Qev;obtain ⟨fuel,hfu,hge⟩ : ∃ f,Qbb=f∧1099511627776≤f:=⟨_,rfl,Nat.le_refl _⟩;rw [hfu,Qbda];simp only [Option.bind_some,if_true];by_cases h8:3<w.length
 ·rw [decide_eq_true (by omega),if_pos rfl]
 rw [decide_eq_false (by omega),if_neg (by simp)];have hwb:w.length<big:=by unfold big;omega
 obtain ⟨ev,a,hM,hp,hev,hst,-,-⟩:=Qbh6 hw;obtain ⟨b,l,hb⟩:=Qblq hp;have hevl:ev.length<big:=by rw [hev.len];decide
 have hs:=hp.r.small;rw [hM];simp only [Option.bind_some];rw [Qbdk hp hb (by omega)];simp only [Option.bind_some];have e:(if c<1 then some true else some (decide (c>4)))=some (decide (c<1∨4<c)):=by by_cases h:c<1<;>simp [h]
 rw [e];simp only [Option.bind_some];rw [Qbah hp.len hs.1.1 hwb,Q1x hp hb hwb];by_cases hc:c<1∨4<c
 ·rw [decide_eq_true hc,if_pos hc];cases okW ev a w<;>simp [Qban]
 rw [decide_eq_false hc,if_neg hc];simp only [Bool.false_eq_true,if_false,Option.bind_some];by_cases hkn:okW ev a w=false
 ·rw [hkn];simp [Qban]
 have hk:okW ev a w=true:=by simpa using hkn
 rw [if_pos hk,if_pos hk,if_pos hk];simp only [Option.bind_some];by_cases hE:Qi9 l (estP b (obsE ev) w)=[]
 ·rw [if_pos hE,hE];simp [Qban]
 rw [if_neg hE];have hc' : 1≤c∧c≤4:=by omega
 have hL:(Qi9 l (estP b (obsE ev) w)).length<big:=by rw [Q4k];exact (Qz8 w).big hb.r
 have hlen0:(((Qi9 l (estP b (obsE ev) w)).length:Int)==0)=false:=by
  rw [beq_eq_false_iff_ne];intro h;exact hE (List.eq_nil_of_length_eq_zero (by omega))
 have hpos:0<b.zH:=by
  have hst:=hb.r.st;rcases Int.lt_or_le 0 b.zH with h|h
  ·exact h
  ·exfalso;refine hE ?_;have hz:b.zH=0:=by omega
   have:=(Qz8 (a:=b) (onto:=obsE ev) w).len;rw [hz] at this;have:estP b (obsE ev) w=[]:=List.eq_nil_of_length_eq_zero (by simpa using this);rw [this];rfl
 have hpa:0<a.zH:=by
  have hst:=hp.r.st;rcases Int.lt_or_le 0 a.zH with h|h
  ·exact h
  ·have:=hb.z.1 (by omega);omega
 have hx:=Qblu hp hb hpa;obtain ⟨hv1,hv2⟩:=Qbdj hp hb hx hpos hc' hk hE;simp only [beq_self_eq_true,if_true,Option.bind_some,hlen0,Bool.false_eq_true,if_false,bne_self_eq_false];rw [Qbaj hc' hL];simp only [Option.bind_some,bne_self_eq_false,Bool.false_eq_true,if_false];rw [Qxr hevl];simp only [Option.bind_some];have hOs:=(Qwk hp.len);have hsay:=fun o (ho:o=0∨o=1)=>Qbgq hp hb hx hpos (o:=o) hc' ho (w:=w) (by omega);have hval:∀ o,(o=0∨o=1)→Qz9 c (Qi9 l (estP b (obsE ev) w))≠(if o=1 then 1 else 2)→(Qns b l ev w c o).length<1000000000∧(∃ s,runP a 0 0 (Qns b l ev w c o)=(s,((Qns b l ev w c o).length:Int)))∧obsW (obsE ev) (Qns b l ev w c o)=w∧fltW ev c (Qns b l ev w c o)=decide (o=1):=by
  intro o ho hv;rcases hsay o ho with ⟨_,hno⟩|⟨q1,q2,q3,q4,_⟩
  ·exfalso;rcases ho with rfl|rfl
   ·refine hv ?_;rw [if_neg (by decide),hv2];intro u s hr hob;have:=hno u s hr hob;simpa using this
   ·refine hv ?_;rw [if_pos rfl,hv1];intro u s hr hob;have:=hno u s hr hob;simpa using this
  ·exact ⟨q1,q2,q3,q4⟩
 have hnil:∀ o,(o=0∨o=1)→Qz9 c (Qi9 l (estP b (obsE ev) w))=(if o=1 then 1 else 2)→Qns b l ev w c o=[]:=by
  intro o ho hv;rcases hsay o ho with ⟨h,_⟩|⟨_,⟨s,q2⟩,q3,q4,_⟩
  ·exact h
  ·exfalso;rcases ho with rfl|rfl
   ·rw [if_neg (by decide)] at hv;have:=hv2.1 hv _ s q2 q3;rw [this] at q4;simp at q4
   ·rw [if_pos rfl] at hv;have:=hv1.1 hv _ s q2 q3;rw [this] at q4;simp at q4
 have hleast:∀ o,(o=0∨o=1)→∀ u s,runP a 0 0 u=(s,(u.length:Int))→obsW (obsE ev) u=w→fltW ev c u=decide (o=1)→sle (Qns b l ev w c o) u∧(∃ s,runP a 0 0 (Qns b l ev w c o)=(s,((Qns b l ev w c o).length:Int)))∧obsW (obsE ev) (Qns b l ev w c o)=w∧fltW ev c (Qns b l ev w c o)=decide (o=1):=by
  intro o ho u s hr hob hf;rcases hsay o ho with ⟨_,hno⟩|⟨_,q2,q3,q4,q5⟩
  ·exact absurd hf (hno u s hr hob)
  ·exact ⟨q5 u s hr hob hf,q2,q3,q4⟩
 have v1:=hval 1 (.inr rfl);have v0:=hval 0 (.inl rfl);have n1:=hnil 1 (.inr rfl);have n0:=hnil 0 (.inl rfl);have l1:=hleast 1 (.inr rfl);have l0:=hleast 0 (.inl rfl);rw [if_pos rfl] at v1 n1;rw [if_neg (by decide)] at v0 n0;rw [decide_eq_true rfl] at v1 l1;rw [decide_eq_false (by decide)] at v0 l0;clear hval hnil hleast hsay hv1 hv2;generalize Qns b l ev w c 1=z1 at v1 n1 l1 ⊢;generalize Qns b l ev w c 0=z0 at v0 n0 l0 ⊢;generalize Qz9 c (Qi9 l (estP b (obsE ev) w))=V at v1 n1 v0 n0 ⊢;have hgen:∀ z:List Int,(∃ s,runP a 0 0 z=(s,(z.length:Int)))→genP a z=true:=by
  rintro z ⟨s,hr⟩;unfold genP;rw [hr,decide_eq_true hpa];simp
 have halph:∀ z:List Int,(∃ s,runP a 0 0 z=(s,(z.length:Int)))→∀ e∈z,e∈a.zD:=by
  rintro z ⟨s,hr⟩;exact Q2j hp.r (show Led a 0 z s from hr)
 refine Qez (len:=2) (fun n (_:Unit)=>(n:Int)) (fun _ _=>True) (fun _ _=>some true) ?_ ?_ fuel 0 () (by omega) (by omega) trivial
 ·intro k n _ hn _ ih;have hcase:n=0∨n=1:=by omega
  rcases hcase with rfl|rfl
  ·have hih:k (IntKind.wrap .i64 (((0:Nat):Int)+1))=some true:=ih () trivial;rw [if_pos (by omega)];simp only [letJ];rw [show getO [z1,z0] ((0:Nat):Int)=some z1 from rfl];simp only [Option.bind_some];by_cases hV:V=1
   ·rw [if_pos (by rfl),if_pos (by simp [hV]),n1 hV];exact hih
   ·obtain ⟨q1,q2,q3,q4⟩:=v1 hV;have hzb:z1.length<big:=by unfold big;omega
    rw [if_pos (by rfl),if_neg (by simpa using hV),if_neg (by decide)];simp only [Option.bind_some,Bool.false_eq_true,if_false];rw [Q1u hp.r hzb,hgen z1 q2];simp only [Option.bind_some,if_true,bne_self_eq_false,Bool.false_eq_true,if_false];rw [Qrc hOs.so hOs.big hzb,q3];simp only [Option.bind_some];rw [Q0a (by omega)];simp only [Option.bind_some,decide_true,if_true];rw [Q4m hp hzb (halph z1 q2),q4];exact hih
  ·have hih:k (IntKind.wrap .i64 (((1:Nat):Int)+1))=some true:=ih () trivial;rw [if_pos (by omega)];simp only [letJ];rw [show getO [z1,z0] ((1:Nat):Int)=some z0 from rfl];simp only [Option.bind_some];by_cases hV:V=2
   ·rw [if_neg (by decide),if_pos (by rfl)];simp only [Option.bind_some];rw [if_pos (by simp [hV]),n0 hV];exact hih
   ·obtain ⟨q1,q2,q3,q4⟩:=v0 hV;have hzb:z0.length<big:=by unfold big;omega
    rw [if_neg (by decide),if_pos (by rfl)];simp only [Option.bind_some];rw [if_neg (by simpa using hV)];rw [Q1u hp.r hzb,hgen z0 q2];simp only [Option.bind_some,if_true,bne_self_eq_false,Bool.false_eq_true,if_false];rw [Qrc hOs.so hOs.big hzb,q3];simp only [Option.bind_some];rw [Q0a (by omega)];simp only [Option.bind_some,decide_true,if_true];rw [Q4m hp hzb (halph z0 q2),q4];exact hih
 ·intro k _ _;rw [if_neg (by omega)];rcases Qbdi hp.r hpa (most:=5) (by omega) with h3|⟨ls,h3,hll,hlr,hlc,hlo⟩
  ·rw [h3];rfl
  rw [h3];simp only [Option.bind_some];rw [if_neg (by simp)];have hfirst:∀ (o:Bool) (z:List Int),(∀ u s,runP a 0 0 u=(s,(u.length:Int))→obsW (obsE ev) u=w→fltW ev c u=o→sle z u∧(∃ s,runP a 0 0 z=(s,(z.length:Int)))∧obsW (obsE ev) z=w∧fltW ev c z=o) →
    ∀ (i:Nat) u,ls[i]? = some u→obsW (obsE ev) u=w→fltW ev c u=o→(¬ ∃ (j:Nat) (v:List Int),j<i∧ls[j]? = some v∧obsW (obsE ev) v=w∧fltW ev c v=o)→z=u:=by
   intro o z hz i u hi hob hf hno;obtain ⟨h5,_,s,hr⟩:=hlr u (List.mem_of_getElem? hi);obtain ⟨k1,⟨t,k2⟩,k3,k4⟩:=hz u s hr hob hf;have hzl:=Qbgk k1;obtain ⟨j,hj⟩:=List.getElem?_of_mem (hlc z t (by omega) k2);rcases k1 with k1|k1
   ·exact k1
   ·exfalso;rcases Nat.lt_trichotomy j i with h|h|h
    ·exact hno ⟨j,z,h,hj,k3,k4⟩
    ·subst h;rw [hi] at hj;cases hj;exact Qbgs k1
    ·exact Qbgs (Q9f k1 (hlo i j u z h hi hj))
  refine Qc6 (fun x=>∃ (i:Nat) (s1 s0:Bool),x=(z1,z0,(i:Int),s1,s0)∧i≤ls.length∧(s1=true↔∃ (j:Nat) (v:List Int),j<i∧ls[j]? = some v∧obsW (obsE ev) v=w∧fltW ev c v=true)∧(s0=true↔∃ (j:Nat) (v:List Int),j<i∧ls[j]? = some v∧obsW (obsE ev) v=w∧fltW ev c v=false)) (fun x=>ls.length-x.2.2.1.toNat) (fun x r=>r=some true) ?_ fuel _ ⟨0,false,false,rfl,Nat.zero_le _,by simp,by simp⟩ (by simp only [Int.toNat_zero];omega);rintro k' _ ⟨i,s1,s0,rfl,hi,hs1,hs0⟩ ih';dsimp only;by_cases hlt:i<ls.length
  ·rw [if_pos (by omega)];simp only [letJ];rw [Qbf hlt];have hgi:ls[i]? = some ls[i]:=List.getElem?_eq_getElem hlt;generalize ls[i]=u at hgi ⊢;obtain ⟨h5,h6,s,hr⟩:=hlr u (List.mem_of_getElem? hgi);have hub:u.length<big:=by unfold big;omega
   simp only [Option.bind_some];rw [Qrc hOs.so hOs.big hub];simp only [Option.bind_some];have hobl:(obsW (obsE ev) u).length<1000000000000:=Nat.lt_of_le_of_lt (List.length_filter_le _ _) hub;rw [Q0a hobl];simp only [Option.bind_some];have hnext:∀ (P:List Int→Prop),(∃ (j:Nat) (v:List Int),j<i+1∧ls[j]? = some v∧P v)↔(∃ (j:Nat) (v:List Int),j<i∧ls[j]? = some v∧P v)∨P u:=by
    intro P;constructor
    ·rintro ⟨j,v,hj,hv,hP⟩;rcases Nat.lt_or_ge j i with h|h
     ·exact .inl ⟨j,v,h,hv,hP⟩
     ·have:j=i:=by omega
      subst this;rw [hgi] at hv;cases hv;exact .inr hP
    ·rintro (⟨j,v,hj,hv,hP⟩|hP)
     ·exact ⟨j,v,by omega,hv,hP⟩
     ·exact ⟨i,u,by omega,hgi,hP⟩
   have hgo:∀ s1' s0' : Bool,(s1'=true↔(s1=true∨(obsW (obsE ev) u=w∧fltW ev c u=true)))→(s0'=true↔(s0=true∨(obsW (obsE ev) u=w∧fltW ev c u=false)))→k' (z1,z0,IntKind.wrap .i64 ((i:Int)+1),s1',s0')=some true:=by
    intro s1' s0' e1 e0;rw [Qy (by omega)];exact ih' _ ⟨i+1,s1',s0',rfl,by omega,by rw [hnext (fun v=>obsW (obsE ev) v=w∧fltW ev c v=true),← hs1];exact e1,by rw [hnext (fun v=>obsW (obsE ev) v=w∧fltW ev c v=false),← hs0];exact e0⟩ (by simp only [Int.toNat_natCast];omega)
   by_cases hob:obsW (obsE ev) u=w
   ·rw [decide_eq_true hob,if_pos rfl,Q4m hp hub (halph u ⟨s,hr⟩)];simp only [Option.bind_some];cases hf:fltW ev c u with
    | true =>
     simp only [if_true,Option.bind_some];cases hs:s1 with
     | true =>
      simp only [if_true,Option.bind_some,Bool.false_eq_true,if_false];exact hgo _ _ (by simp [hob,hf]) (by simp [hf])
     | false =>
      have hz:=hfirst true z1 l1 i u hgi hob hf (fun h=>by rw [← hs1,hs] at h;cases h);have hzl:z1.length<1000000000000:=by rw [hz];exact hub
      simp only [Bool.false_eq_true,if_false];rw [Q0a hzl];simp only [Option.bind_some,hz,decide_true,Bool.not_true,Bool.false_eq_true,if_false,if_true];rw [← hz];exact hgo _ _ (by simp [hob,hf]) (by simp [hf])
    | false =>
     simp only [Bool.false_eq_true,if_false,Option.bind_some,show ¬ ((1:Int)=0) from by decide,if_true];cases hs:s0 with
     | true =>
      simp only [if_true,Option.bind_some,Bool.false_eq_true,if_false,show ¬ ((1:Int)=0) from by decide];exact hgo _ _ (by simp [hf]) (by simp [hob,hf])
     | false =>
      have hz:=hfirst false z0 l0 i u hgi hob hf (fun h=>by rw [← hs0,hs] at h;cases h);have hzl:z0.length<1000000000000:=by rw [hz];exact hub
      simp only [Bool.false_eq_true,if_false];rw [Q0a hzl];simp only [Option.bind_some,hz,decide_true,Bool.not_true,Bool.false_eq_true,if_false,if_true,show ¬ ((1:Int)=0) from by decide];rw [← hz];exact hgo _ _ (by simp [hf]) (by simp [hob,hf])
   ·rw [decide_eq_false hob,if_neg (by simp)];exact hgo _ _ (by simp [hob]) (by simp [hob])
  ·rw [if_neg (by omega)]
end Go.Abs
end
