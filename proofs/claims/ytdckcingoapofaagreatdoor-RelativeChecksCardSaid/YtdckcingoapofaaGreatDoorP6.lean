/-
  Part 6 of the proof: see the last text.
-/
import Derived.Test.YtdckcingoapofaaGreatDoorP5
import Derived.ChangeSame
import Derived.ChangeVars
import Derived.JoinedOf
import Derived.LaidLaws
import Derived.LaidHandle
import Derived.LaidMore
import Derived.SevenTiedAt
set_option linter.unusedVariables false
set_option linter.unusedSimpArgs false
set_option linter.unusedSectionVars false
section
namespace Go.Abs
open Go
theorem Q1o {l:List Int} {n:Int} (hl:l.length<big):Qg0 l n=some (Qcs n none l):=by
 unfold Qg0 Qdd;refine (Qoa (len:=l.length) (fun k=>some (Qcs n (ahead l k) (l.drop k))) (by unfold Qbp;unfold big at hl;omega) ?_ ?_).trans (by simp [Qhd])
 ·intro k i hi ih;have hb:i<1000000000000:=by unfold big at hl;omega
  rw [Qug hi]
  try dsimp only
  rw [if_pos (by omega),Qhu hi,Qls (by omega),ih];simp only [Option.bind_some];by_cases h1:l[i]<0
  ·simp [h1]
  ·by_cases h2:l[i]≥n
   ·simp [h1,h2]
   ·by_cases h0:0<i
    ·rw [Que h0 (by omega),Qhu (by omega:i-1<l.length),Quf l h0 (by omega)];by_cases h3:l[i]≤l[i-1]<;>simp [h1,h2,h3,h0]
    ·obtain rfl:i=0:=by omega
     simp [h1,h2,Qhd]
 ·intro k;simp [Qcs]
theorem Qba6 {l m:List Int} (hl:l.Pairwise (· < ·)) (hm:m.Pairwise (· < ·)) (h1:l.length<big) (h2:m.length<1000000):Qi2 l m=some (l.filter fun x=>decide (x∉m)):=by
 unfold Qi2 Qed Qi1 Qb9;obtain ⟨fuel,hfu,hge⟩ : ∃ f,Qbp=f∧1099511627776≤f:=⟨_,rfl,Nat.le_refl _⟩;rw [hfu];have hg:∀ (x:Int) (l:List Int),getO (x::l) 0=some x:=fun x l=>Qhu (l:=x::l) (n:=0) (by simp);have hd:∀ (x:Int) (l:List Int),slcO (x::l) 1 ((x::l).length:Int)=some l:=fun x l=>by
  grind [Qba4,List.take_length]
 have hk:∀ p q,Qj9 p q=some (p && !q):=fun p q=>by cases p<;>cases q<;>rfl
 rw [Qba3 (fun x:List Int×List Int×List Int=>x.1.Pairwise (· < ·)∧x.2.1.Pairwise (· < ·)∧x.2.2.length+x.1.length<big∧x.2.2++x.1.filter (fun z=>decide (z∉x.2.1))=l.filter fun z=>decide (z∉m)) (fun x=>x.1.length+x.2.1.length) (some (l.filter fun z=>decide (z∉m))) ⟨hl,hm,by simpa using h1,by simp⟩ (by grind) ?_]
 ·rfl
 rintro k ⟨a,b,out⟩ ⟨ha,hb,ho,he⟩ ih;dsimp only at ha hb ho he ih ⊢
 match a,b with
 | [],[]=>simpa using he
 | [],y::ys =>
  simp_all
 | x::xs,[] =>
  rw [show ((([]:List Int).length:Nat):Int)=0 from rfl];have hp:(((x::xs).length:Nat):Int)>0:=by grind
  rw [if_pos hp,Option.bind_some,if_pos rfl,if_pos hp,if_pos (by rfl),Option.bind_some,if_neg (by omega),Option.bind_some,if_pos rfl,hg,hd];simp only [Option.bind_some,hk,Bool.true_and,Bool.not_false,Bool.false_eq_true,if_false,if_true];simp only [List.length_cons] at ho;rw [Q46 (by simp only [List.length_cons,List.length_nil];unfold lim;unfold big at ho;omega),Option.bind_some]
  grind
 | x::xs,y::ys =>
  obtain ⟨ha1,ha2⟩:=List.pairwise_cons.1 ha;obtain ⟨hb1,hb2⟩:=List.pairwise_cons.1 hb;have hp:(((x::xs).length:Nat):Int)>0:=by grind
  have hq:(((y::ys).length:Nat):Int)>0:=by grind
  have hp0:((((x::xs).length:Nat):Int)==0)=false:=by grind
  have hq0:((((y::ys).length:Nat):Int)==0)=false:=by grind
  rw [if_pos hp,Option.bind_some,if_pos rfl,if_pos hp,if_neg (by rw [hq0];simp),hg,hg,Option.bind_some,Option.bind_some,Option.bind_some,if_pos hq,if_neg (by rw [hp0];simp),Option.bind_some,Option.bind_some,Option.bind_some,hd,hd];simp only [List.length_cons] at ho;rcases Int.lt_trichotomy x y with hxy|rfl|hxy
  ·have e1:decide (x≤y)=true:=decide_eq_true (by omega);have e2:decide (y≤x)=false:=decide_eq_false (by omega);simp only [e1,e2,Option.bind_some,hk,Bool.not_false,Bool.true_and,if_true,Bool.false_eq_true,if_false];rw [Q46 (by simp only [List.length_cons,List.length_nil];unfold lim;unfold big at ho;omega),Option.bind_some]
   grind
  ·have e1:decide (x≤x)=true:=decide_eq_true (by omega);simp only [e1,Option.bind_some,hk,Bool.not_true,Bool.and_false,if_true,Bool.false_eq_true,if_false]
   grind [List.filter_cons_of_neg,List.filter_congr]
  ·have e1:decide (x≤y)=false:=decide_eq_false (by omega);have e2:decide (y≤x)=true:=decide_eq_true (by omega);simp only [e1,e2,Option.bind_some,hk,Bool.false_and,if_true,Bool.false_eq_true,if_false];refine ih (x::xs,ys,out) ⟨ha,hb2,by grind,?_⟩ (by simp);rw [← he];congr 1;refine List.filter_congr fun z hz=>?_
   grind
theorem Q47 {l m:List Int} (hl:l.Pairwise (· < ·)) (hm:m.Pairwise (· < ·)) (h1:l.length<big) (h2:m.length<1000000):Qfe l m=some (decide (∀ x∈l,x∈m)):=by
 unfold Qfe Qd4;rw [Qba6 hl hm h1 h2,Option.bind_some];congr 1;rw [Bool.eq_iff_iff]
 simp_all
def inAl (l m:List Int):Bool:=decide (∀ x∈l,x∈m)
def Qpc (p:Qi):Int :=
 if Q9 p.Plant≠0 then Q9 p.Plant else if Q9 p.Ambient≠0 then Q9 p.Ambient else if Q9 p.Requirement≠0 then Q9 p.Requirement else
 if inAl p.Ambient.zB p.Plant.zB=false then 9 else if inAl p.Requirement.zB p.Plant.zB=false then 9 else
 if Qcs 32 none p.Observable≠0 then Qcs 32 none p.Observable else Qcs 32 none p.Controllable
structure Q96 (p:Qi):Prop where
 hp:Q5x p.Plant
 ha:Q5x p.Ambient
 hr:Q5x p.Requirement
 ho:p.Observable.length<big
 hc:p.Controllable.length<big
theorem Qwp {p:Qi} (h:Q96 p):Qf0 p=some (Qpc p):=by
 unfold Qf0 Qbh Qpc;obtain ⟨f,hf⟩ : ∃ f,Qbp=f+4:=⟨1099511627772,rfl⟩;rw [hf];have g0:getO [p.Plant,p.Ambient,p.Requirement] 0=some p.Plant:=rfl;have g1:getO [p.Plant,p.Ambient,p.Requirement] 1=some p.Ambient:=rfl;have g2:getO [p.Plant,p.Ambient,p.Requirement] 2=some p.Requirement:=rfl;have a0:getO [p.Ambient,p.Requirement] 0=some p.Ambient:=rfl;have a1:getO [p.Ambient,p.Requirement] 1=some p.Requirement:=rfl;have o0:getO [p.Observable,p.Controllable] 0=some p.Observable:=rfl;have o1:getO [p.Observable,p.Controllable] 1=some p.Controllable:=rfl;have w1:IntKind.wrap .i64 (0+1)=1:=by decide
 have w2:IntKind.wrap .i64 (1+1)=2:=by decide
 have w3:IntKind.wrap .i64 (2+1)=3:=by decide
 simp only [Qcl,g0,g1,g2,a0,a1,o0,o1,w1,w2,w3,Option.bind_some,Q3t h.hp,Q3t h.ha,Q3t h.hr,Q1o h.ho,Q1o h.hc];by_cases e0:Q9 p.Plant=0
 ·by_cases e1:Q9 p.Ambient=0
  ·by_cases e2:Q9 p.Requirement=0
   ·have r0:=Q1n.1 e0;have r1:=Q1n.1 e1;have r2:=Q1n.1 e2;have hm:p.Plant.zB.length<1000000:=by have:=Q2z r0.al r0.al0;omega
    rw [show Qfe p.Ambient.zB p.Plant.zB=some (inAl p.Ambient.zB p.Plant.zB) from Q47 r1.al r0.al h.ha.1 hm,show Qfe p.Requirement.zB p.Plant.zB=some (inAl p.Requirement.zB p.Plant.zB) from Q47 r2.al r0.al h.hr.1 hm];cases s1:inAl p.Ambient.zB p.Plant.zB with
    | true =>
     cases s2:inAl p.Requirement.zB p.Plant.zB with
     | true =>
      by_cases l1:Qcs 32 none p.Observable=0
      ·by_cases l2:Qcs 32 none p.Controllable=0<;>simp [e0,e1,e2,s1,s2,l1,l2]
      ·simp [e0,e1,e2,s1,s2,l1]
     | false=>simp [e0,e1,e2,s1,s2]
    | false=>simp [e0,e1,e2,s1]
   ·simp [e0,e1,e2]
  ·simp [e0,e1]
 ·simp [e0]
section
variable {p:Qi} (h:Q96 p) (hc:Qpc p≠0)
include h hc
theorem Q5z:Qhq p=some (⟨[],0,[],[]⟩,Qpc p):=by
 unfold Qhq Qdq;rw [Qwp h];simp [hc]
theorem Qy5:Qfl p=some (⟨[],0,[],[]⟩,Qpc p):=by
 unfold Qfl Qbn;rw [Qwp h];simp [hc]
theorem Qur:∃ s a,Qen p=some (s,false,a,Qpc p):=by
 unfold Qen Qv;rw [Qy5 h hc];simp only [Option.bind_some];rw [if_pos (by simpa using hc)];exact ⟨_,_,rfl⟩
theorem Q97:Qha p=some (⟨[],[],0⟩,false,Qpc p):=by
 unfold Qha Qb1;obtain ⟨s,a,e⟩:=Qur h hc;rw [e];simp [hc]
theorem Q50 (w:Qbf):Qhr p w=some (false,Qpc p):=by
 unfold Qhr Qdr;obtain ⟨s,a,e⟩:=Qur h hc;rw [e];simp [hc]
theorem Qba7:Qke p=some (⟨[],0,[],[]⟩,Qpc p):=by
 unfold Qke Qev;obtain ⟨s,a,e⟩:=Qur h hc;rw [e];simp [hc]
theorem Q48:Qfm p=some (⟨[],0,[],[]⟩,0,Qpc p):=by
 unfold Qfm Qbo;obtain ⟨s,a,e⟩:=Qur h hc;rw [e];simp [hc]
end
theorem Qba8 {l:List Int} {v:Int} (hl:l.length<big):Qfn l v=some (decide (v∈l)):=Qbbv hl
def hasL (l:List Qa) (pl:List Int) (w i:Int):Option Int :=
  Qcl (fun k44 ((want42,n43):Int×Int)=>((getO l i).bind fun x45=>(if (n43<(x45.zB.length:Int)) then ((((getO l i).bind fun x48=>((getO x48.zB n43).bind fun x50=>((Qfn pl x50).bind fun x53=>(if x53 then some want42 else some 9))))).bind fun (want55:Int)=>k44 (want55,(IntKind.wrap .i64 (n43+1)))) else some want42))) Qbp (w,0)
theorem Q7a {l:List Qa} {i:Int} {a:Qa} {pl:List Int} (ha:getO l i=some a) (hal:a.zB.length<big) (hpl:pl.length<big) (w:Int) :
  hasL l pl w i=some (if inAl a.zB pl then w else 9):=by
 unfold hasL;refine (Q69 (len:=a.zB.length) (fun k (s:Int)=>(s,(k:Int))) (fun k s=>some (if inAl (a.zB.drop k) pl then s else 9)) ?_ ?_ Qbp 0 w (by omega) (by unfold Qbp;unfold big at hal;omega)).trans (by simp)
 ·intro k i s hi ih;have hb:i<1000000000000:=by unfold big at hal;omega
  dsimp only at ih ⊢;have hd:inAl (a.zB.drop i) pl=(decide (a.zB[i]∈pl)&&inAl (a.zB.drop (i+1)) pl):=by
   rw [List.drop_eq_getElem_cons hi];unfold inAl;rw [Bool.eq_iff_iff];simp only [List.forall_mem_cons,decide_eq_true_eq,Bool.and_eq_true]
  rw [hd,ha,Option.bind_some,if_pos (by omega),Option.bind_some,Qhu hi,Option.bind_some,Qba8 hpl,Option.bind_some,Qls (by omega)];by_cases hm:a.zB[i]∈pl
  ·rw [if_pos (by simpa using hm),Option.bind_some,ih];simp [hm]
  ·rw [if_neg (by simpa using hm),Option.bind_some,ih];simp [hm]
 ·intro k s;simp [ha,inAl]
theorem Q51 {X R:Type} {F:(X→Option R)→X→Option R} {n:Nat} (hn:4≤n) (x:X):Qcl F n x=F (F (F (F (Qcl F (n-4))))) x:=by
 obtain ⟨m,rfl⟩ : ∃ m,n=m+4:=⟨n-4,by omega⟩
 rfl
theorem Q7w (p:Qi):Qey p=some true:=by
 unfold Qey Qew;have hge:4≤Qbp:=by unfold Qbp;decide
 have e:∀ w i,Qcl (fun k44 ((want42,n43):Int×Int)=>((getO [p.Plant,p.Ambient,p.Requirement] i).bind fun x45=>(if (n43<(x45.zB.length:Int)) then ((((getO [p.Plant,p.Ambient,p.Requirement] i).bind fun x48=>((getO x48.zB n43).bind fun x50=>((Qfn p.Plant.zB x50).bind fun x53=>(if x53 then some want42 else some 9))))).bind fun (want55:Int)=>k44 (want55,(IntKind.wrap .i64 (n43+1)))) else some want42))) Qbp (w,0)=hasL [p.Plant,p.Ambient,p.Requirement] p.Plant.zB w i:=fun _ _=>rfl;simp only [e,Q7v,Option.bind_some];clear e;have g0:getO [p.Plant,p.Ambient,p.Requirement] 0=some p.Plant:=rfl;have g1:getO [p.Plant,p.Ambient,p.Requirement] 1=some p.Ambient:=rfl;have g2:getO [p.Plant,p.Ambient,p.Requirement] 2=some p.Requirement:=rfl;have w1:IntKind.wrap .i64 (0+1)=1:=by decide
 have w2:IntKind.wrap .i64 (1+1)=2:=by decide
 have w3:IntKind.wrap .i64 (2+1)=3:=by decide
 have w0:IntKind.wrap .i64 0=0:=by decide
 have w00:IntKind.wrap .i64 (0+0)=0:=by decide
 rw [Q51 hge];by_cases hs:(p.Plant.zB.length≤8∧p.Plant.zC.length≤8∧p.Plant.zD.length≤8)∧(p.Ambient.zB.length≤8∧p.Ambient.zC.length≤8∧p.Ambient.zD.length≤8)∧(p.Requirement.zB.length≤8∧p.Requirement.zC.length≤8∧p.Requirement.zD.length≤8)
 ·obtain ⟨⟨h1,h2,h3⟩,⟨h4,h5,h6⟩,⟨h7,h8,h9⟩⟩:=hs;have n1:¬ ((p.Plant.zB.length:Int)>8):=by omega
  have n2:¬ ((p.Plant.zC.length:Int)>8):=by omega
  have n3:¬ ((p.Plant.zD.length:Int)>8):=by omega
  have n4:¬ ((p.Ambient.zB.length:Int)>8):=by omega
  have n5:¬ ((p.Ambient.zC.length:Int)>8):=by omega
  have n6:¬ ((p.Ambient.zD.length:Int)>8):=by omega
  have n7:¬ ((p.Requirement.zB.length:Int)>8):=by omega
  have n8:¬ ((p.Requirement.zC.length:Int)>8):=by omega
  have n9:¬ ((p.Requirement.zD.length:Int)>8):=by omega
  have t0:((0:Int)<3)=True:=by decide
  have t1:((1:Int)<3)=True:=by decide
  have t2:((2:Int)<3)=True:=by decide
  have t3:((3:Int)<3)=False:=by decide
  simp only [t0,t1,t2,t3,g0,g1,g2,w1,w2,w3,Option.bind_some,n1,n2,n3,n4,n5,n6,n7,n8,n9,if_true,if_false,decide_false,Bool.false_eq_true];by_cases ho:p.Observable.length≤8∧p.Controllable.length≤8
  ·obtain ⟨h10,h11⟩:=ho;have n10:¬ ((p.Observable.length:Int)>8):=by omega
   have n11:¬ ((p.Controllable.length:Int)>8):=by omega
   have hb:8<big:=by unfold big;decide
   have h:Q96 p:=⟨⟨by omega,by omega,by omega⟩,⟨by omega,by omega,by omega⟩,⟨by omega,by omega,by omega⟩,by omega,by omega⟩;have l1:=fun w=>Q7a (l:=[p.Plant,p.Ambient,p.Requirement]) (i:=1) g1 h.ha.1 h.hp.1 w;have l2:=fun w=>Q7a (l:=[p.Plant,p.Ambient,p.Requirement]) (i:=2) g2 h.hr.1 h.hp.1 w;simp only [n10,n11,if_false,decide_false,Option.bind_some,Bool.false_eq_true];have lA:Qcl (fun k27 ((want25,i26):Int×Int)=>(((if (i26<3) then some (want25==0) else some false)).bind fun (x29:Bool)=>(if x29 then ((getO [p.Plant,p.Ambient,p.Requirement] i26).bind fun x31=>((Qex x31).bind fun x34=>k27 (x34,(IntKind.wrap .i64 (i26+1))))) else some want25))) Qbp (0,0)=some (if Q9 p.Plant≠0 then Q9 p.Plant else if Q9 p.Ambient≠0 then Q9 p.Ambient else Q9 p.Requirement):=by
    rw [Q51 hge];simp only [t0,t1,t2,t3,g0,g1,g2,w1,w2,w3,Option.bind_some,if_true,if_false,Qwo h.hp,Qwo h.ha,Qwo h.hr];by_cases e0:Q9 p.Plant=0
    ·by_cases e1:Q9 p.Ambient=0
     ·simp [e0,e1]
     ·simp [e0,e1]
    ·simp [e0]
   have lB:∀ w,Qcl (fun k38 ((want36,i37):Int×Int)=>(((if (i37<3) then some (want36==0) else some false)).bind fun (x40:Bool)=>(if x40 then ((hasL [p.Plant,p.Ambient,p.Requirement] p.Plant.zB want36 i37).bind fun (want56:Int)=>k38 (want56,(IntKind.wrap .i64 (i37+1)))) else some want36))) Qbp (w,1)=some (if w≠0 then w else if inAl p.Ambient.zB p.Plant.zB=false then 9 else if inAl p.Requirement.zB p.Plant.zB=false then 9 else 0):=by
    intro w;rw [Q51 hge];simp only [t0,t1,t2,t3,w1,w2,w3,l1,l2,Option.bind_some,if_true,if_false];by_cases e0:w=0
    ·subst e0;cases inAl p.Ambient.zB p.Plant.zB<;>cases inAl p.Requirement.zB p.Plant.zB<;>simp
    ·simp [e0]
   have hW:(if (if (if Q9 p.Plant≠0 then Q9 p.Plant else if Q9 p.Ambient≠0 then Q9 p.Ambient else Q9 p.Requirement)≠0 then (if Q9 p.Plant≠0 then Q9 p.Plant else if Q9 p.Ambient≠0 then Q9 p.Ambient else Q9 p.Requirement) else if inAl p.Ambient.zB p.Plant.zB=false then 9 else if inAl p.Requirement.zB p.Plant.zB=false then 9 else 0)=0 then (if Qcs 32 none p.Observable≠0 then Qcs 32 none p.Observable else Qcs 32 none p.Controllable) else (if (if Q9 p.Plant≠0 then Q9 p.Plant else if Q9 p.Ambient≠0 then Q9 p.Ambient else Q9 p.Requirement)≠0 then (if Q9 p.Plant≠0 then Q9 p.Plant else if Q9 p.Ambient≠0 then Q9 p.Ambient else Q9 p.Requirement) else if inAl p.Ambient.zB p.Plant.zB=false then 9 else if inAl p.Requirement.zB p.Plant.zB=false then 9 else 0))=Qpc p:=by
    unfold Qpc;by_cases e0:Q9 p.Plant=0
    ·by_cases e1:Q9 p.Ambient=0
     ·by_cases e2:Q9 p.Requirement=0
      ·cases inAl p.Ambient.zB p.Plant.zB<;>cases inAl p.Requirement.zB p.Plant.zB<;>simp [e0,e1,e2]
      ·simp [e0,e1,e2]
     ·simp [e0,e1]
    ·simp [e0]
   generalize (if Q9 p.Plant≠0 then Q9 p.Plant else if Q9 p.Ambient≠0 then Q9 p.Ambient else Q9 p.Requirement)=wA at lA hW;have hB:=lB wA;clear lB;generalize (if wA≠0 then wA else if inAl p.Ambient.zB p.Plant.zB=false then 9 else if inAl p.Requirement.zB p.Plant.zB=false then 9 else 0)=wB at hB hW;rw [lA,Option.bind_some,hB,Option.bind_some,Quq h.ho,Quq h.hc,Qwp h];have key:∀ (K:Int→Option Bool),((if (wB==0)=true then ((some (Qcs 32 none p.Observable)).bind fun x60=>some x60) else some wB).bind fun want61=>((if (want61==0)=true then ((some (Qcs 32 none p.Controllable)).bind fun x64=>some x64) else some want61).bind K))=K (Qpc p):=by
    intro K;rw [← hW];by_cases b0:wB=0
    ·by_cases b1:Qcs 32 none p.Observable=0<;>simp [b0,b1]
    ·simp [b0]
   rw [key];by_cases hc:Qpc p=0
   ·simp [hc]
   ·simp only [Option.bind_some,Q5z h hc,Qy5 h hc,Q97 h hc,Q50 h hc,Qba7 h hc,Q48 h hc];simp [hc,w0,w00]
  ·have n10:(p.Observable.length:Int)>8∨(p.Controllable.length:Int)>8:=by omega
   by_cases h10:(p.Observable.length:Int)>8
   ·simp [h10]
   ·have h11:(p.Controllable.length:Int)>8:=by omega
    simp [h10,h11]
 ·have t0:((0:Int)<3)=True:=by decide
  have t1:((1:Int)<3)=True:=by decide
  have t2:((2:Int)<3)=True:=by decide
  simp only [t0,t1,t2,g0,g1,g2,w1,w2,w3,Option.bind_some,if_true];by_cases n1:(p.Plant.zB.length:Int)>8
  ·simp [n1]
  by_cases n2:(p.Plant.zC.length:Int)>8
  ·simp [n1,n2]
  by_cases n3:(p.Plant.zD.length:Int)>8
  ·simp [n1,n2,n3]
  by_cases n4:(p.Ambient.zB.length:Int)>8
  ·simp [n1,n2,n3,n4]
  by_cases n5:(p.Ambient.zC.length:Int)>8
  ·simp [n1,n2,n3,n4,n5]
  by_cases n6:(p.Ambient.zD.length:Int)>8
  ·simp [n1,n2,n3,n4,n5,n6]
  by_cases n7:(p.Requirement.zB.length:Int)>8
  ·simp [n1,n2,n3,n4,n5,n6,n7]
  by_cases n8:(p.Requirement.zC.length:Int)>8
  ·simp [n1,n2,n3,n4,n5,n6,n7,n8]
  by_cases n9:(p.Requirement.zD.length:Int)>8
  ·simp [n1,n2,n3,n4,n5,n6,n7,n8,n9]
  exact absurd ⟨⟨by omega,by omega,by omega⟩,⟨by omega,by omega,by omega⟩,⟨by omega,by omega,by omega⟩⟩ hs
end Go.Abs
end
section
namespace Go.Abs
open Go Go.ChangeShapes Go.WideShapes Go.ChangeAt Go.RowKit
theorem Q98 {X:World→Array Value→Prop} (hX:∀ (w w' : World) (args:Array Value),w.heap=w'.heap→X w args→X w' args) {C:Checked} {f:FuncId} {fn:Func} {s:ChangeSpec} {conds:List PathCond} {bt:TypeId} {os:Os} {H:Type} {enc:TypeId×Value→H}
  (own:ownKnob C.prog.godebug=none) (started:os.Started) (noInit:C.prog.inits.idxOf? f=none) (hfn:C.prog.funcs[f]? = some fn)
  (witness:∃ (w:World) (tape:Tape) (i:Input),w.os=os∧(w.forCall tape i).Shaped C.prog∧i.vars=[]∧Input.okWide C.prog (w.forCall tape i) .any w.heap.size f i ∧
   ((s.pre enc C.prog fn conds false (w.forCall tape i).memory i.args∧X (w.forCall tape i).memory i.args)∧sizedMet enc C.prog fn (OpenSpec.ofChange s) false (w.forCall tape i).memory i.args)∧({}:Assume).holds C.prog (lone (Frame.enter C.prog f i.args .normal) [] (w.forCall tape i)))
  (hvars:s.vars=[]) (hres:fn.resultTypes = #[bt]) (hbt:C.prog.underlying bt=some .bool)
  (hl:laidOutB C.prog=true) (hread:∀ t∈fn.params.toList,C.prog.readableRec t=true∧t<C.prog.types.size)
  (hspec:∀ ds:List (DataW H),ds.length=fn.params.size→s.fn H ds={ results:=[.lit (.bool true)],args:=ds })
  (law:Qbdr C.prog f fn.params.toList) :
  ReturnsInHanded {} C os f .any (fun w args=>(s.pre enc C.prog fn conds false w args∧X w args)∧sizedMet enc C.prog fn (OpenSpec.ofChange s) false w args) (s.post enc C.prog fn false true false false):=by
 refine returnsInHanded_of_change_and hX own started noInit hfn witness ?_;intro W base args ds gs before hval hW hcnd _ _ _;have hW':=hW;obtain ⟨p,q,hA,hV,hps,hfz,hnd⟩:=hW;rw [hvars] at hV;obtain ⟨rfl,rfl⟩ : gs=[]∧q=[]:=by
  cases gs with
  | nil=>exact ⟨rfl,hV⟩
  | cons _ _=>exact hV.elim
 obtain ⟨vs,h1,h2,h3,h4⟩:=law (fun j t u ht hu=>hval j t u (by simpa using ht) (by simpa using hu)) hA;obtain ⟨hb,_,h5⟩:=h4 (fun _=>none) 0;have hlv:∀ b o,live W b o→b<W.heap.size:=by
  intro b o h;simp only [live] at h;obtain ⟨v,hv⟩:=Option.isSome_iff_exists.1 h;unfold World.cell? at hv;split at hv
  ·rename_i hh;exact (Array.getElem?_eq_some_iff.1 hh).1
  ·cases hv
 have hmr:MR ⟨fun _=>0,live W,fun _=>.ext⟩ W (fun _=>none) 0:=⟨fun k b h=>(by cases h),fun b o h=>⟨hlv b o h,fun k h=>by cases h⟩⟩;have h6:=h5 W ⟨fun _=>0,live W,fun _=>.ext⟩ args.toList hmr (fun k cs h=>by cases h) (RAs.of_flat h1) (ons_mono (fun k hk=>absurd hk (Nat.not_lt_zero k)) _ (ons_lt vs h3));refine Calls.mono h6 fun e W' ⟨v,g',he,_,hr,_,_,hf⟩=>?_;subst he;have hv:v = .bool true:=by simpa [RV,RD] using hr
 subst hv;have hbelow:Below W.heap.size W W':=⟨hf.os,hf.tape,hf.output,hf.size,fun k hk=>(hf.old k hk trivial).2.1⟩;have hrl:(Value.bool true).resultList fn.resultTypes.size=[.bool true]:=by rw [hres];rfl
 have hsp:s.fn H (ds++[])={ results:=[.lit (.bool true)],args:=ds }:=by
  rw [List.append_nil];exact hspec ds (by have:=(Q1l hA).1;simpa using this)
 have hlt:∀ p∈before,p.block<W.heap.size:=fun x hx=>hW'.lt x hx;have hst:∀ sp:Nat→Bool,(∀ p∈before,sp p.block=true)→DataW.TrodAll enc C.prog W' 0 sp true fn.params.toList args.toList ds before:=by
  intro sp hsp';have e:p=before:=by rw [hps,List.append_nil]
  subst e;exact Qxv hl hread hA (fun x hx=>hbelow.same (hlt x hx)) hsp'
 refine ⟨_,rfl,ds,[],before,[],before,[],hW',?_,?_,?_,World.keptBut_mono (fun p hp=>⟨hp,.inr (.inl hp)⟩) (hbelow.frame (· ∈ before)),fun h=>by cases h⟩
 ·rw [hsp,hrl,hres];exact ⟨[],[],⟨1,by simp [DataW.trod,Value.cells,hbt]⟩,rfl,rfl⟩
 ·rw [hsp];exact hst _ fun p hp=>by simpa using hlt p hp
 ·rw [hsp,hvars];rfl
end Go.Abs
end
