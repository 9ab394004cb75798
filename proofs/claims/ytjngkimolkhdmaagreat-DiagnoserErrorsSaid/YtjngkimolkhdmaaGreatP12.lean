/-
  Part 12 of the proof: see the last text.
-/
import Derived.Test.YtjngkimolkhdmaaGreatP11
set_option linter.unusedVariables false
set_option linter.unusedSimpArgs false
set_option linter.unusedSectionVars false
section
namespace Go.Abs
open Go
theorem Sts.err {a:Qa} {l:List Int} (h:Sts a l):Qfp a.zH none l=0:=Qig.2 ⟨h.rg,h.so,fun y hy=>by cases hy⟩
theorem Sts.big {a:Qa} (ha:Right a) {l:List Int} (h:Sts a l):l.length<Abs.big:=by have:=h.len;have:=ha.st;unfold Abs.big;omega
theorem EvSet.big {l:List Int} (h:EvSet l):l.length<Abs.big:=by have:=h.len;unfold Abs.big;omega
theorem Qzo {a:Qa} (h:Right a) {onto obs:List Int} (ho:EvSet onto) (hl:obs.length<big):Qe2 a onto obs=some (if (obs.all fun x=>decide (x∈Qio a onto))=true then (estP a onto obs,0) else ([],9)):=by
 have hst:=h.st;unfold Qe2 Qbf;rw [Qw7 h ho.big,ho.err];simp only [Option.bind_some,show ((0:Int) != 0)=false from rfl,Bool.false_eq_true,if_false];rw [Q0y h ho.big];simp only [Option.bind_some];rw [Q44 h hl];simp only [Option.bind_some];by_cases hk:(obs.all fun x=>decide (x∈Qio a onto))=true
 ·rw [if_pos hk,if_pos hk,Q6j h onto];simp only [Option.bind_some];refine Qfw (x:=estP a onto obs) ?_ rfl;refine (Q0x (l:=obs) (fun n (s:List Int)=>(s,(n:Int))) (Qul a onto) (fun s=>some s) (fun n s=>Sts a s) ?_ ?_ (by unfold Qbx;unfold Abs.big at hl;omega) _ (Qmk a onto)).trans rfl
  ·intro k n hn s hs;refine ⟨Qvo _ _ _ _,?_⟩;have:=hs.len;dsimp only;rw [if_pos (by omega),Qb7 hn];simp only [Option.bind_some];rw [Q01 h hs.rg (by omega)];simp only [Option.bind_some];rw [Qbl (by unfold Abs.big at hl;omega)]
  ·intro k s _;dsimp only;rw [if_neg (by omega)]
 ·rw [if_neg hk,if_neg hk]
theorem Qbbu {a:Qa} {onto:List Int}:∀ (obs:List Int),Sts a (estP a onto obs):=by
 intro obs;unfold estP;rcases List.eq_nil_or_concat obs with rfl|⟨l,x,rfl⟩
 ·exact Qmk _ _
 ·rw [List.concat_eq_append,List.foldl_append];exact Qvo _ _ _ _
theorem Qbad {a:Qa} {o o' : List Int} (h:∀ x∈a.zD,x∈o↔x∈o'):Qio a o=Qio a o'∧Qkq a o=Qkq a o':=by
 unfold Qio Qkq;exact ⟨List.filter_congr fun x hx=>decide_eq_decide.2 (h x hx),List.filter_congr fun x hx=>by rw [decide_eq_decide.2 (h x hx)]⟩
theorem Q35 {a:Qa} {o o' : List Int} (h:∀ x∈a.zD,x∈o↔x∈o') (w:List Int):estP a o w=estP a o' w:=by
 have e:=(Qbad h).2;have h1:Qul a o=Qul a o':=by funext s x;unfold Qul;rw [e]
 unfold estP Qsc;rw [h1,e]
def okW (ev:List Qd) (a:Qa) (w:List Int):Bool:=w.all fun x=>decide (x∈obsE ev)&&decide (x∈a.zD)
theorem Q36 {w:List Int} {f:Int→Option Bool} {p:Int→Bool} (hf:∀ x,f x=some (p x)) (hw:w.length<big):Qb6 w f=some (w.any p):=by
 have hb:w.length<1000000000000:=hw;unfold Qb6 Qs Qfs Qb9;obtain ⟨fuel,hfu,hge⟩ : ∃ f,Qbx=f∧1099511627776≤f:=⟨_,rfl,Nat.le_refl _⟩;rw [hfu];have hloop:∀ (F:(Int→Option Int)→Int→Option Int),(∀ k (i:Nat) (hi:i<w.length),F k (i:Int)=if p w[i] then some (i:Int) else k (IntKind.wrap .i64 ((i:Int)+1)))→(∀ k,F k (w.length:Int)=some (-1))→∃ z,Qdm F fuel 0=some z∧(decide (z≥0))=w.any p:=by
  intro F h1 h2;refine Qdt (fun x=>∃ n:Nat,x=(n:Int)∧n≤w.length∧(w.drop n).any p=w.any p) (fun x=>w.length-x.toNat) (fun x r=>∃ z,r=some z∧(decide (z≥0))=w.any p) ?_ fuel _ ⟨0,rfl,Nat.zero_le _,by simp⟩ (by omega);rintro k _ ⟨n,rfl,hn,he⟩ ih;by_cases hlt:n<w.length
  ·rw [h1 k n hlt];rw [List.drop_eq_getElem_cons hlt,List.any_cons] at he;by_cases hp:p w[n]=true
   ·rw [if_pos hp];rw [hp,Bool.true_or] at he;exact ⟨_,rfl,by rw [← he];simp⟩
   ·rw [if_neg hp,Qbl (by omega)];rw [Bool.not_eq_true] at hp;rw [hp,Bool.false_or] at he;exact ih _ ⟨n+1,rfl,by omega,he⟩ (by simp only [Int.toNat_natCast];omega)
  ·obtain rfl:n=w.length:=by omega
   rw [h2];rw [List.drop_eq_nil_of_le (Nat.le_refl _)] at he;exact ⟨-1,rfl,by rw [← he];rfl⟩
 have key' : ∀ (F:(Int→Option Int)→Int→Option Int),(∀ k (i:Nat) (hi:i<w.length),F k (i:Int)=if p w[i] then some (i:Int) else k (IntKind.wrap .i64 ((i:Int)+1)))→(∀ k,F k (w.length:Int)=some (-1))→((Qdm F fuel 0).bind fun x13=>some (decide (x13≥0)))=some (w.any p):=fun F h1 h2=>by
  obtain ⟨z,h3,h4⟩:=hloop F h1 h2;rw [h3,← h4];rfl
 refine key' _ ?_ ?_
 ·intro k i hi;rw [if_pos (by omega),Qb7 hi];simp only [Option.bind_some,hf]
 ·intro k;rw [if_neg (by omega)]
section
variable {ev:List Qd} {a b:Qa} {l:List Lab}
theorem Q37 (hp:Plt ev a) (hb:Lbd ev a b l) {w:List Int} (hw:w.length<big):Qcy ev a w=some (if okW ev a w then (Q08 l (estP b (obsE ev) w),0) else ([],9)):=by
 have hs:=hp.r.small;have hol:=(Qqc hp.len).len;unfold Qcy Qx;rw [Qzn hp];simp only [Option.bind_some,show ((0:Int) != 0)=false from rfl,Bool.false_eq_true,if_false];rw [Qkw (by have:=hp.len;unfold big;omega) hp.chk];simp only [Option.bind_some];obtain ⟨R,h1,h2,h3⟩:=Qxa (Qqc hp.len).so hp.r.al (by unfold big;omega);rw [h1];simp only [Option.bind_some];have hR:EvSet R:=⟨fun x hx=>(Qqc hp.len).rg x ((h3 x).1 hx).1,h2⟩;rw [Q36 (p:=fun x=>!decide (x∈R)) (fun x=>by unfold Qhh Qch;rw [Q6m h2 hR.big];rfl) hw];have hany:(w.any fun x=>!decide (x∈R)) = !okW ev a w:=by
  unfold okW;rw [List.not_all_eq_any_not];congr 1;funext x;congr 1;rw [← Bool.decide_and,decide_eq_decide];exact h3 x
 simp only [Option.bind_some];rw [hany];by_cases hk:okW ev a w=true
 ·rw [if_neg (by simp [hk]),if_pos hk,hb.p];simp only [Option.bind_some,show ((0:Int) != 0)=false from rfl,Bool.false_eq_true,if_false];have hall:(w.all fun x=>decide (x∈Qio b R))=true:=by
   rw [List.all_eq_true];intro x hx;have:=List.all_eq_true.1 hk x hx;rw [decide_eq_true_eq,Qio,List.mem_filter,hb.al];simp only [Bool.and_eq_true,decide_eq_true_eq] at this ⊢;exact ⟨this.2,(h3 x).2 this⟩
  rw [Qzo hb.r hR hw,if_pos hall];simp only [Option.bind_some];have hsm:∀ x∈b.zD,x∈R↔x∈obsE ev:=fun x hx=>⟨fun h=>((h3 x).1 h).1,fun h=>(h3 x).2 ⟨h,by rw [← hb.al];exact hx⟩⟩;rw [Q35 hsm];have hS:=Qbbu (a:=b) (onto:=obsE ev) w;rw [Q6r (hS.big hb.r) (fun x hx=>by have:=hS.rg x hx;have:=hb.n;omega)]
  rfl
 ·rw [Bool.not_eq_true] at hk;rw [hk]
  rfl
end
end Go.Abs
end
section
namespace Go.Abs
open Go
def dErr (ev:List Qd) (a:Qa):Int:=if Qxi ev≠0 then Qxi ev else if Qgm a≠0 then Qgm a else if a.zD.any fun x=>decide (x≥(ev.length:Int)) then 2 else 0
theorem Qbbv {l:List Int} (hs:l.Pairwise (· < ·)) (h:0<l.length) (n:Int):(l.any fun x=>decide (x≥n))=decide (l[l.length-1]'(by omega)≥n):=by
 rw [Bool.eq_iff_iff,List.any_eq_true,decide_eq_true_eq];constructor
 ·rintro ⟨x,hx,hn⟩;obtain ⟨i,hi,rfl⟩:=List.getElem_of_mem hx;have:=of_decide_eq_true hn;rcases Nat.lt_or_ge i (l.length-1) with h1|h1
  ·have:=List.pairwise_iff_getElem.1 hs i (l.length-1) hi (by omega) h1;omega
  ·have:i=l.length-1:=by omega
   subst this;omega
 ·intro h1;exact ⟨_,List.getElem_mem _,decide_eq_true h1⟩
section
variable {ev:List Qd} {a:Qa}
theorem Qbcf (h:Qxi ev≠0):dErr ev a=Qxi ev:=by unfold dErr;rw [if_pos h]
theorem Qbcg (h:Qxi ev=0) (h2:Qgm a≠0):dErr ev a=Qgm a:=by unfold dErr;rw [if_neg (by simp [h]),if_pos h2]
theorem Qbch (h:Qxi ev=0) (h2:Qgm a=0):dErr ev a=if a.zD.any fun x=>decide (x≥(ev.length:Int)) then 2 else 0:=by unfold dErr;rw [if_neg (by simp [h]),if_neg (by simp [h2])]
theorem Q7l (hl:ev.length<big) (hn:∀ x∈ev,x.Name.size<big) (hs:small a):Qcs ev a=some (dErr ev a):=by
 unfold Qcs Qw;rw [Qwr hl hn];simp only [Option.bind_some];by_cases h1:Qxi ev=0
 ·rw [h1,if_neg (by simp),Qvk hs];simp only [Option.bind_some];by_cases h2:Qgm a=0
  ·rw [Qbch h1 h2,h2,if_neg (by simp)];have hr:=Qvl.1 h2;have hal:=hs.1;unfold big at hal;by_cases h3:a.zD.length=0
   ·rw [if_neg (by omega),List.length_eq_zero_iff.1 h3];rfl
   ·rw [if_pos (by omega),Qvj (by omega) (by omega),Qb7 (by omega)];simp only [Option.bind_some];rw [Qbbv hr.al (by omega)];split<;>rename_i h<;>simp_all
  ·rw [Qbcg h1 h2,if_pos (by simpa using h2)]
 ·rw [Qbcf h1,if_pos (by simpa using h1)]
theorem Qbae (hl:ev.length<big) (hn:∀ x∈ev,x.Name.size<big) (hs:small a):Qf8 ev a=some (dErr ev a):=by
 unfold Qf8 Qcq;rw [Qwr hl hn];simp only [Option.bind_some];by_cases h1:Qxi ev=0
 ·rw [h1,if_neg (by simp),Qvk hs];simp only [Option.bind_some];by_cases h2:Qgm a=0
  ·rw [Qbch h1 h2,h2,if_neg (by simp)];have hal:=hs.1;unfold big at hal;refine (Qnk (len:=a.zD.length) (fun k=>some (if (a.zD.drop k).any (fun x=>decide (x≥(ev.length:Int))) then 2 else 0)) (by unfold Qbx;omega) ?_ ?_).trans (by simp)
   ·intro k i hi ih
    try dsimp only
    rw [if_pos (by omega),Qb7 hi];simp only [Option.bind_some];rw [Qbl (by omega),ih,List.drop_eq_getElem_cons hi,List.any_cons];by_cases h:a.zD[i]≥(ev.length:Int)<;>simp [h]
   ·intro k;simp
  ·rw [Qbcg h1 h2,if_pos (by simpa using h2)]
 ·rw [Qbcf h1,if_pos (by simpa using h1)]
theorem Qbdz (hl:ev.length<big) (hn:∀ x∈ev,x.Name.size<big) (he:dErr ev a=0) (hst:a.zH≤30∨Qgm a≠0):Plt ev a:=by
 unfold dErr at he;split at he
 ·rename_i h;exact absurd he h
 rename_i h1;split at he
 ·rename_i h;exact absurd he h
 rename_i h2;split at he
 ·omega
 rename_i h3;refine Qbe4 hl hn (Decidable.not_not.1 h1) (Qvl.1 (Decidable.not_not.1 h2)) (by omega) fun x hx=>?_;rcases Int.lt_or_le x ev.length with h|h
 ·exact h
 ·exact absurd (List.any_eq_true.2 ⟨x,hx,decide_eq_true h⟩) h3
abbrev Q7m:Qa:=⟨[],0,[],[]⟩
theorem Q7n:small Q7m:=⟨by simp [big],by simp [big],by simp [big]⟩
theorem Qbaf (hc:Qcs ev a=some (dErr ev a)) (h:dErr ev a≠0):Qb1 ev a=some (Q7m,[],dErr ev a)∧Qct ev a=some (⟨Q7m,[]⟩,dErr ev a)∧Qcy ev a []=some ([],dErr ev a) ∧
  Qdy ev a [] 0=some ([],[],0,dErr ev a)∧Qfo ev a=some (⟨Q7m,[],[],[],[]⟩,false,dErr ev a):=by
 have hb:(dErr ev a != 0)=true:=by simpa using h
 have hL:Qb1 ev a=some (Q7m,[],dErr ev a):=by
  unfold Qb1 Qt;rw [hc];simp only [Option.bind_some];rw [if_pos hb]
 refine ⟨hL,?_,?_,?_,?_⟩
 ·unfold Qct Qbv;rw [hL];simp only [Option.bind_some];rw [if_pos hb]
 ·unfold Qcy Qx;rw [hc];simp only [Option.bind_some];rw [if_pos hb]
 ·unfold Qdy Qbk;rw [hc];simp only [Option.bind_some];rw [if_pos hb]
 ·unfold Qfo Qeb;rw [hL];simp only [Option.bind_some];rw [if_pos hb]
theorem Qbfa (hp:Plt ev a) {b:Qa} {l:List Lab} (hb:Lbd ev a b l):(a.zH=0∧Qfo ev a=some (⟨Q7m,[],[],[],[]⟩,false,12)) ∨
  ∃ R,EvSet R∧(∀ x,x∈R↔x∈obsE ev∧x∈a.zD)∧0<a.zH∧Qfo ev a=some (⟨b,l,R,estP b (obsE ev) [],[]⟩,true,0):=by
 have hol:=(Qqc hp.len).len;have hs:=hp.r.small;unfold Qfo Qeb;rw [hb.p];simp only [Option.bind_some,show ((0:Int) != 0)=false from rfl,Bool.false_eq_true,if_false];by_cases h0:a.zH=0
 ·exact .inl ⟨h0,by rw [if_pos (by simp [h0])]⟩
 ·right;obtain ⟨R,h1,h2,h3⟩:=Qxa (Qqc hp.len).so hp.r.al (by unfold big;omega);have hR:EvSet R:=⟨fun x hx=>(Qqc hp.len).rg x ((h3 x).1 hx).1,h2⟩;refine ⟨R,hR,h3,by have:=hp.r.st;omega,?_⟩;rw [if_neg (by simp [h0]),Qkw (by have:=hp.len;unfold big;omega) hp.chk];simp only [Option.bind_some];rw [h1];simp only [Option.bind_some];unfold Qgd Qb5;dsimp only;rw [Qzo hb.r hR (by simp [big]),if_pos (by rfl)];have hsm:∀ x∈b.zD,x∈R↔x∈obsE ev:=fun x hx=>⟨fun h=>((h3 x).1 h).1,fun h=>(h3 x).2 ⟨h,by rw [← hb.al];exact hx⟩⟩;rw [Q35 hsm]
  rfl
end
theorem Qbag:IntKind.wrap .i64 (IntKind.wrap .i64 0)=0:=by decide
theorem Qbfb {a:Qa}:∃ f,Qg1 a=some f∧(f=true→small a∧(a.zH≤30∨Qgm a≠0)):=by
 unfold Qg1 Qda;by_cases h1:a.zD.length≤10
 ·by_cases h2:a.zF.length≤10
  ·by_cases h3:a.zG.length≤10
   ·have hs:small a:=⟨by unfold big;omega,by unfold big;omega,by unfold big;omega⟩;rw [if_pos (by omega),if_pos (by omega),if_pos (by omega)];by_cases h4:a.zH≤30
    ·rw [if_pos h4];exact ⟨_,rfl,fun _=>⟨hs,.inl h4⟩⟩
    ·rw [if_neg h4,Qvk hs];exact ⟨_,rfl,fun h=>⟨hs,.inr (by simpa using h)⟩⟩
   ·rw [if_pos (by omega),if_pos (by omega),if_neg (by omega)];exact ⟨_,rfl,fun h=>by cases h⟩
  ·rw [if_pos (by omega),if_neg (by omega)];exact ⟨_,rfl,fun h=>by cases h⟩
 ·rw [if_neg (by omega)];exact ⟨_,rfl,fun h=>by cases h⟩
theorem Q6s (ev:List Qd) (a:Qa):Qeu ev a=some true:=by
 unfold Qeu Qet;obtain ⟨fuel,hfu,hge⟩ : ∃ f,Qbx=f∧1099511627776≤f:=⟨_,rfl,Nat.le_refl _⟩;rw [hfu,Q7i];simp only [Option.bind_some,if_true];by_cases h8:(ev.length:Int)>8
 ·rw [if_pos h8];simp only [Option.bind_some,if_true]
 rw [if_neg h8];obtain ⟨f,hf,hf2⟩:=Qbfb (a:=a);rw [hf];simp only [Option.bind_some];cases f with
 | false=>rfl
 | true =>
 obtain ⟨hs,hst⟩:=hf2 rfl;simp only [Bool.not_true,Bool.false_eq_true,if_false];have hl:ev.length<big:=by unfold big;omega
 refine Qdt (fun x=>∃ n:Nat,x=(n:Int)∧n≤ev.length∧∀ i x,i<n→ev[i]? = some x→x.Name.size≤40) (fun x=>ev.length-x.toNat) (fun x r=>r=some true) ?_ fuel _ ⟨0,rfl,Nat.zero_le _,fun i x h=>by omega⟩ (by unfold big at hl;omega);rintro k _ ⟨n,rfl,hn,hnm⟩ ih;by_cases hlt:n<ev.length
 ·rw [if_pos (by omega),Qb7 hlt];simp only [Option.bind_some];by_cases h4:(ev[n].Name.size:Int)>40
  ·rw [if_pos h4]
  ·rw [if_neg h4,Qbl (by unfold big at hl;omega)];refine ih _ ⟨n+1,rfl,by omega,fun i x hi hx=>?_⟩ (by simp only [Int.toNat_natCast];omega);rcases Nat.lt_or_ge i n with h|h
   ·exact hnm i x h hx
   ·obtain rfl:i=n:=by omega
    rw [List.getElem?_eq_getElem hlt] at hx;cases hx;omega
 ·rw [if_neg (by omega)];have hnb:∀ x∈ev,x.Name.size<big:=fun x hx=>by
   obtain ⟨i,hi⟩:=List.getElem?_of_mem hx;have h1:=(List.getElem?_eq_some_iff.1 hi).1;have:=hnm i x (by omega) hi;unfold big;omega
  have hc:=Q7l hl hnb hs;rw [Qbae hl hnb hs,hc];by_cases h0:dErr ev a=0
  ·have hp:=Qbdz hl hnb h0 hst;obtain ⟨b,l,hb⟩:=Qbe9 hp;obtain ⟨r,sets,e,hP,hB⟩:=Qbbs hp hb;rw [h0];simp only [Option.bind_some];rw [hb.p];simp only [Option.bind_some];have hEst:=Q37 hp hb (w:=[]) (by simp [big]);rw [if_pos (by rfl)] at hEst;have hEx:Qdy ev a [] 0=some ([],[],0,2):=by
    unfold Qdy Qbk;rw [hc,h0];simp only [Option.bind_some,show ((0:Int) != 0)=false from rfl,Bool.false_eq_true,if_false]
    rfl
   have hW:∀ e',e'=3→12<b.zH→Qgl ev a e'=some true:=by
    rintro _ rfl h12;unfold Qgl Qcj;rw [hb.w];simp only [Option.bind_some];rw [if_pos (by rfl),decide_eq_true h12]
   rcases Qbfa hp hb with ⟨hz,hN⟩|⟨R,_,_,hz,hN⟩<;>rcases hB with ⟨rfl,h12,hB⟩|⟨rfl,hsl,hss,hrs,hB⟩<;>rw [hB]<;>simp only [Option.bind_some]<;>rw [hEst]<;>simp only [Option.bind_some]<;>rw [hEx]<;>simp only [Option.bind_some]<;>rw [hN]<;>simp only [Option.bind_some,if_true,Bool.false_eq_true,if_false]<;>(try rw [hW 3 rfl h12])<;>simp [hz,Qbag]
  ·obtain ⟨q1,q2,q3,q4,q5⟩:=Qbaf hc h0;have hb:(dErr ev a != 0)=true:=by simpa using h0
   simp only [Option.bind_some];rw [q1];simp only [Option.bind_some];rw [q2];simp only [Option.bind_some];rw [q3];simp only [Option.bind_some];rw [q4];simp only [Option.bind_some];rw [q5];simp only [Option.bind_some,Bool.false_eq_true,if_false];rw [Qbe7 Q7n];simp [h0,Qbag]
end Go.Abs
end
