/-
  Part 12 of the proof: see the last text.
-/
import Derived.Test.YtjngkimolkhdmaaGreatP11
import Derived.KernelRfl
set_option linter.unusedVariables false
set_option linter.unusedSimpArgs false
set_option linter.unusedSectionVars false
section
namespace Go.Abs
open Go
theorem Qbcj {s:ByteArray} (hs:s.size<big):∃ b,Qfx s=some b:=by
 have hb:s.size<1000000000000:=hs;unfold Qfx Qd7;refine Qd0 (fun x=>∃ n:Nat,x=(n:Int)∧n≤s.size) (fun x=>s.size-x.toNat) (fun x r=>∃ b,r=some b) ?_ Qbe _ ⟨0,rfl,Nat.zero_le _⟩ (by unfold Qbe;omega);rintro k _ ⟨n,rfl,hn⟩ ih;by_cases hlt:n<s.size
 ·rw [if_pos (by omega)];have hc:∃ c,chrO s (n:Int)=some c:=by unfold chrO;rw [dif_pos ⟨by omega,by omega⟩];exact ⟨_,rfl⟩
  obtain ⟨c,hc⟩:=hc;rw [hc];simp only [Option.bind_some];have key:∀ (o:Option Bool) (K:Bool→Option Bool),(∃ x,o=some x)→(∀ x,∃ y,K x=some y)→∃ y,o.bind K=some y:=fun o K ⟨x,h⟩ h2=>by rw [h];exact h2 x
  refine key _ _ ?_ fun letter=>key _ _ ?_ fun z=>?_
  ·repeat' split
   all_goals exact ⟨_,rfl⟩
  ·repeat' split
   all_goals exact ⟨_,rfl⟩
  ·split
   ·exact ⟨_,rfl⟩
   ·rw [Q7 (by omega)];exact ih _ ⟨n+1,rfl,by omega⟩ (by simp only [Int.toNat_natCast];omega)
 ·rw [if_neg (by omega)];split<;>exact ⟨_,rfl⟩
def Q1v (s:ByteArray):Bool:=decide (Qfx s=some true)
theorem Qbck {s:ByteArray} (hs:s.size<big):Qfx s=some (Q1v s):=by
 obtain ⟨b,h⟩:=Qbcj hs;unfold Q1v;rw [h];cases b<;>simp
def Q1w (k:ByteArray) (seen:List ByteArray):Bool:=seen.any fun z=>decide (k=z)
def Qua:List ByteArray→List Qc→Int
 | _,[]=>0
 | seen,x::l=>if Q1v x.Name=false then 7 else if Q1w x.Name seen=true then 8 else if x.Fault<0∨x.Fault>4 then 2 else if x.Fault≠0∧(x.Controllable=true∨x.Observable=true) then 13 else Qua (x.Name::seen) l
def Q9x (ev:List Qc):Int:=if 32<ev.length then 3 else Qua [] ev
theorem Q9y {ev:List Qc} (hl:ev.length<big) (hn:∀ x∈ev,x.Name.size<big):Qfl ev=some (Q9x ev):=by
 have hb:ev.length<1000000000000:=hl;unfold Qfl Qce Q9x;by_cases h32:32<ev.length
 ·rw [if_pos (by omega),if_pos h32]
 rw [if_neg (by omega),if_neg h32];refine Qd0 (fun x=>∃ (n:Nat) (c:List (ByteArray×Bool)) (seen:List ByteArray),x=((n:Int),c)∧n≤ev.length∧(∀ k,getM c k false=Q1w k seen)∧Qua seen (ev.drop n)=Qua [] ev) (fun x=>ev.length-x.1.toNat) (fun x r=>r=some (Qua [] ev)) ?_ Qbe _ ⟨0,[],[],rfl,Nat.zero_le _,fun k=>rfl,by simp⟩ (by simp only [Int.toNat_zero];unfold Qbe;omega);rintro k _ ⟨n,c,seen,rfl,hle,hc,he⟩ ih;dsimp only;by_cases hlt:n<ev.length
 ·rw [if_pos (by omega),Qbp hlt];have hx:=hn _ (List.getElem_mem hlt);rw [List.drop_eq_getElem_cons hlt] at he;generalize ev[n]=x at hx he ⊢;simp only [Option.bind_some];rw [Qbck hx];simp only [Option.bind_some];simp only [Qua] at he;by_cases h1:Q1v x.Name=false
  ·rw [if_pos h1] at he;rw [h1,if_neg (by simp),he]
  ·rw [if_neg h1] at he;rw [Bool.not_eq_false] at h1;rw [h1,if_pos rfl,hc];by_cases h2:Q1w x.Name seen=true
   ·rw [if_pos h2] at he;rw [if_pos h2,he]
   ·rw [if_neg h2] at he;rw [if_neg h2];have e3:(if x.Fault<0 then some true else some (decide (x.Fault>4)))=some (decide (x.Fault<0∨x.Fault>4)):=by
     by_cases h:x.Fault<0<;>simp [h]
    rw [e3];simp only [Option.bind_some];by_cases h3:x.Fault<0∨x.Fault>4
    ·rw [if_pos h3] at he;rw [decide_eq_true h3,if_pos rfl,he]
    ·rw [if_neg h3] at he;rw [decide_eq_false h3,if_neg (by simp)];have e4:(if x.Fault != 0 then (if x.Controllable then some true else some x.Observable) else some false)=some (decide (x.Fault≠0∧(x.Controllable=true∨x.Observable=true))):=by
      by_cases h:x.Fault=0<;>cases x.Controllable<;>cases x.Observable<;>simp [h]
     rw [e4];simp only [Option.bind_some];by_cases h4:x.Fault≠0∧(x.Controllable=true∨x.Observable=true)
     ·rw [if_pos h4] at he;rw [decide_eq_true h4,if_pos rfl,he]
     ·rw [if_neg h4] at he;rw [decide_eq_false h4,if_neg (by simp),Q7 (by omega)];exact ih _ ⟨n+1,_,_,rfl,by omega,fun k=>by rw [Qxv,hc];by_cases h:k=x.Name<;>simp [h,Q1w],he⟩ (by simp only [Int.toNat_natCast];omega)
 ·rw [if_neg (by omega)];have:ev.drop n=[]:=List.drop_eq_nil_of_le (by omega);rw [this] at he;rw [← he];rfl
theorem Q27:∀ {l:List Qc} {seen:List ByteArray},Qua seen l=0→∀ x∈l,0≤x.Fault∧x.Fault≤4
 | [],_,_,x,hx=>by cases hx
 | y::l,seen,h,x,hx=>by
  simp only [Qua] at h;split at h
  ·omega
  split at h
  ·omega
  split at h
  ·omega
  rename_i h3;split at h
  ·omega
  rcases List.mem_cons.1 hx with rfl|hx
  ·omega
  ·exact Q27 h x hx
theorem Qbhj {ev:List Qc} {a:Qa} (hl:ev.length<big) (hn:∀ x∈ev,x.Name.size<big) (he:Q9x ev=0) (hr:Right a) (hst:a.zH≤200) (hal:∀ x∈a.zD,x<ev.length):Plt ev a:=by
 have h:=he;unfold Q9x at h;split at h
 ·omega
 exact ⟨hr,hst,hal,Q27 h,by rw [Q9y hl hn,he],by omega⟩
def obsE (ev:List Qc):List Int:=(upto ev.length).filter fun i=>match getO ev i with|some x=>x.Observable|none=>false
theorem Qbd1 {ev:List Qc} (h:ev.length≤32):EvSet (obsE ev):=by
 refine ⟨fun x hx=>?_,(Q52 _).filter _⟩;have:=Q8o.1 (List.mem_filter.1 hx).1;omega
def selF (p:Qc→Bool) (ev:List Qc) (n:Nat):List Int:=((upto ev.length).drop n).filter fun i=>match getO ev i with|some x=>p x|none=>false
theorem Qbcl {p:Qc→Bool} {ev:List Qc} {n:Nat} (h:n<ev.length):selF p ev n=(if p ev[n] then [(n:Int)] else [])++selF p ev (n+1):=by
 unfold selF;rw [List.drop_eq_getElem_cons (by rw [Qzs];simpa using h),Qbdt (n:=(ev.length:Int)) (by simpa using h),List.filter_cons,Qbp h];dsimp only;by_cases h:p ev[n]=true<;>simp [h]
theorem Q8z {p:Qc→Bool} {ev:List Qc} (hl:ev.length<big) {fuel:Nat} (hf:ev.length<fuel) {F:(List Int×Int→Option (List Int))→List Int×Int→Option (List Int)}
  (hF:∀ (k:List Int×Int→Option (List Int)) (acc:List Int) (n:Nat) (h:n<ev.length),acc.length≤n→F k (acc,(n:Int))=k (if p ev[n] then acc++[(n:Int)] else acc,IntKind.wrap .i64 ((n:Int)+1)))
  (hlast:∀ (k:List Int×Int→Option (List Int)) (acc:List Int),F k (acc,(ev.length:Int))=some acc):Qcj F fuel ([],0)=some (selF p ev 0):=by
 have hb:ev.length<1000000000000:=hl;refine (Qhd (len:=ev.length) (fun n (acc:List Int)=>(acc,(n:Int))) (fun n acc=>acc.length≤n) (fun n acc=>some (acc++selF p ev n)) ?_ ?_ fuel 0 [] (Nat.zero_le _) (by omega) (Nat.le_refl _)).trans (by simp)
 ·intro k n acc hn hi ih;rw [hF k acc n hn hi,Q7 (by omega),ih _ (by by_cases h:p ev[n]=true<;>simp [h]<;>omega),Qbcl hn];by_cases h:p ev[n]=true<;>simp [h]
 ·intro k acc _;have:selF p ev ev.length=[]:=by unfold selF;rw [List.drop_eq_nil_of_le (by rw [Qzs];simp)];rfl
  rw [hlast,this];simp
theorem Qbcm {p:Qc→Bool} {ev:List Qc} (hl:ev.length<big) {f:Qc→Option Bool} (hf:∀ x,f x=some (p x)):Qi5 ev f=some (selF p ev 0):=by
 have hb:ev.length<1000000000000:=hl;unfold Qi5 Qd8;refine Qfm (Q8z (p:=p) hl (by unfold Qbe;omega) ?_ ?_) rfl
 ·intro k acc n hn hacc;dsimp only;rw [if_pos (by omega),Qbp hn];simp only [Option.bind_some,hf];cases p ev[n]
  ·rfl
  ·rw [if_pos rfl,Qb7 (by simp only [List.length_cons,List.length_nil];unfold lim;omega)];rfl
 ·intro k acc;dsimp only;rw [if_neg (by omega)]
theorem Qvw {ev:List Qc} (hl:ev.length<big) (hc:Qfl ev=some 0):Qdy ev=some (obsE ev):=by
 unfold Qdy Qu Qit Qct;rw [hc];simp only [Option.bind_some,show ((0:Int) != 0)=false from rfl,Bool.false_eq_true,if_false];rw [Qbcm (f:=Qj4) (p:=fun x=>x.Observable) hl (fun x=>rfl)]
 rfl
theorem Qvx {ev:List Qc} (hl:ev.length<big):Qes ev=some (obsE ev):=by
 have hb:ev.length<1000000000000:=hl;unfold Qes Qb3;refine Qfm (Q8z (p:=fun x=>x.Observable) hl (by unfold Qbe;omega) ?_ ?_) rfl
 ·intro k acc n hn hacc;dsimp only;rw [if_pos (by omega),Qbp hn];simp only [Option.bind_some];cases ev[n].Observable
  ·rfl
  ·rw [if_pos rfl,Qb7 (by simp only [List.length_cons,List.length_nil];unfold lim;omega)];rfl
 ·intro k acc;dsimp only;rw [if_neg (by omega)]
theorem Qbh2 {l:List Int} {v:Int} (hl:l.length<big):Qhm l v=some (decide (v∈l)):=by
 unfold Qhm Qdh;refine (Qkr (len:=l.length) (fun k=>some (decide (v∈l.drop k))) (by unfold Qbe;unfold big at hl;omega) ?_ ?_).trans (by simp)
 ·intro k i hi ih;have hb:i<1000000000000:=by unfold big at hl;omega
  try dsimp only
  rw [if_pos (by omega),Qbp hi,Q7 (by omega),ih,List.drop_eq_getElem_cons hi];simp only [Option.bind_some,List.mem_cons];by_cases h:l[i]=v
  ·simp [h]
  ·have:¬ v=l[i]:=fun e=>h e.symm;simp [h,this]
 ·intro k;simp
theorem Qbex (x y:Lab):((x.State==y.State)&&((x.Classes==y.Classes)&&true))=decide (x=y):=by
 obtain ⟨s,c⟩:=x;obtain ⟨s',c'⟩:=y;rw [Bool.eq_iff_iff];simp
theorem Qbhk {l:List Lab} {v:Lab} (hl:l.length<big):Qg0 l v=some (if v∈l then (l.idxOf v:Int) else -1):=by
 unfold Qg0 Qc4;refine (Qkr (len:=l.length) (fun k=>some (if v∈l.drop k then ((k+(l.drop k).idxOf v:Nat):Int) else -1)) (by unfold Qbe;unfold big at hl;omega) ?_ ?_).trans (by simp)
 ·intro k i hi ih;have hb:i<1000000000000:=by unfold big at hl;omega
  try dsimp only
  rw [if_pos (by omega),Qbp hi,Q7 (by omega),ih,List.drop_eq_getElem_cons hi];simp only [Option.bind_some,List.mem_cons,List.idxOf_cons,Qbex];by_cases h:v=l[i]
  ·simp [← h]
  ·have:¬ l[i]=v:=fun e=>h e.symm;have hbq:(l[i]==v)=false:=by simp [this]
   by_cases h2:v∈l.drop (i+1)<;>simp [h,h2,hbq,this];omega
 ·intro k;simp
theorem Qbcn {s t:List Lab} (h:s.length<1000000000000):Qem s t=some (decide (s=t)):=by
 unfold Qem Qw;by_cases hl:s.length=t.length
 ·rw [if_neg (by simp [hl])];have:=Q1d (ne:=fun x y:Lab=>!((x.State==y.State)&&((x.Classes==y.Classes)&&true))) (fun x y=>by rw [Qbex];simp) hl h;simp only [← Qber] at this;exact this
 ·rw [if_pos (by simp;omega)];have:s≠t:=fun e=>hl (by rw [e]);simp [this]
theorem Qbco {s t:List (List Lab)} (h:s.length<1000000000000) (hs:∀ x∈s,x.length<1000000000000):Qfq s t=some (decide (s=t)):=by
 unfold Qfq Qcg;by_cases hl:s.length=t.length
 ·rw [if_neg (by simp [hl])];refine Q8j (fun i:Int=>∃ n:Nat,i=n∧n≤s.length∧s.take n=t.take n) (fun i=>s.length-i.toNat) _ ⟨0,rfl,by omega,by simp⟩ (by unfold Qbe;omega) ?_;rintro k _ ⟨n,rfl,hn,he⟩ ih;by_cases hlt:n<s.length
  ·rw [if_pos (by omega),Qbp hlt,Qbp (by omega:n<t.length)];simp only [Option.bind_some,Qbcn (hs _ (List.getElem_mem hlt))];by_cases hx:s[n]=t[n]
   ·rw [if_pos (by simp [hx]),Q7 (by omega)];exact ih _ ⟨n+1,rfl,by omega,Qy9 hlt (by omega) he hx⟩ (by omega)
   ·rw [if_neg (by simp [hx])];have:s≠t:=fun e=>hx (by subst e;rfl);simp [this]
  ·rw [if_neg (by omega)];have e:n=s.length:=by omega
   have:s=t:=by
    rw [e,List.take_length,hl,List.take_length] at he;exact he
   simp [this]
 ·rw [if_pos (by simp;omega)];have:s≠t:=fun e=>hl (by rw [e]);simp [this]
theorem Qbhl {a:Qa} (h:small a):Qg1 a=some (decide (a=⟨[],0,[],[]⟩)):=by
 unfold Qg1 Qc5;rw [Qxo h];rfl
def Qvy (l:List Lab) (set:List Int):List Lab:=set.map fun i=>(getO l i).getD ⟨0,0⟩
theorem Qbd2 {l:List Lab} {set:List Int} (hs:set.length<big) (hr:∀ x∈set,0≤x∧x<l.length):Qgl l set=some (Qvy l set):=by
 have hb:set.length<1000000000000:=hs;unfold Qgl Qbz;refine Qfm (Qyp (f:=fun i=>(getO l i).getD ⟨0,0⟩) hs (by unfold Qbe;omega) ?_ ?_) rfl
 ·intro k acc n hn;dsimp only;rw [if_pos (by omega),Qbp hn];have h:=hr _ (List.getElem_mem hn);have hg:getO l set[n]=some (l[set[n].toNat]'(by omega)):=by rw [Qhc];exact ⟨h.1,List.getElem?_eq_getElem (by omega)⟩
  simp only [Option.bind_some,hg,Option.getD_some]
 ·intro k acc;dsimp only;rw [if_neg (by omega)]
theorem Qbd3 {l:List Lab} {set:List Int} (hs:set.length<big) (hr:∀ x∈set,0≤x∧x<l.length):Qfe l set=some (Qvy l set):=by
 have hb:set.length<1000000000000:=hs;unfold Qfe Qcb;refine Qfm (Qyp (f:=fun i=>(getO l i).getD ⟨0,0⟩) hs (by unfold Qbe;omega) ?_ ?_) rfl
 ·intro k acc n hn;dsimp only;rw [if_pos (by omega),Qbp hn];have h:=hr _ (List.getElem_mem hn);have hg:getO l set[n]=some (l[set[n].toNat]'(by omega)):=by rw [Qhc];exact ⟨h.1,List.getElem?_eq_getElem (by omega)⟩
  simp only [Option.bind_some,hg,Option.getD_some]
 ·intro k acc;dsimp only;rw [if_neg (by omega)]
end Go.Abs
end
section
namespace Go.Abs
open Go
variable {ev:List Qc} {a:Qa}
theorem Qbhm (hp:Plt ev a) {S:List Lab} (hB:LbI a S) {x:Lab} (hx:x∈S) {y:Qe} (hy:y∈a.zG):Qgz ev x y=some (toL ev x y):=by
 have hb:=Qbci hp hy;have hc:=(Qbhi (hB.ok x hx).2 (Qbew hp y.Event)).2;unfold Qiu Qed at hb;unfold Qgz Qc3 toL;cases hg:getO ev y.Event with
 | none=>rw [hg] at hb;cases hb
 | some z =>
  rw [hg] at hb;simp only [Option.bind_some] at hb ⊢;by_cases hf:z.Fault>0
  ·rw [if_pos hf] at hb ⊢;cases hs:shlO .i64 1 (IntKind.wrap .i64 (z.Fault-1)) with
   | none=>rw [hs] at hb;cases hb
   | some s =>
    rw [hs] at hb;simp only [Option.bind_some,Option.some.injEq] at hb ⊢;rw [hb]
  ·rw [if_neg hf] at hb ⊢;simp only [Option.some.injEq] at hb;rw [← hb,hc]
theorem Qbcp (hp:Plt ev a) (h0:0<a.zH) {N:Nat} (hN:LabN ev a N):Qcx ev a=some (labA ev a N,(labs ev a N).1):=by
 have hs:=hp.r.small;have hst:=hp.r.st;have hNl:=hN.le hp h0;unfold Qcx Qbc;obtain ⟨fuel,hfu,hge⟩ : ∃ f,Qbe=f∧1099511627776≤f:=⟨_,rfl,Nat.le_refl _⟩;rw [hfu,if_neg (by simp;omega)];refine Qfm (x:=((labs ev a N).1,[],[],[],(labs ev a N).2.1,(labs ev a N).2.2)) ?_ (by dsimp only;rw [hN.1];rfl);refine Qd0 (fun x=>∃ (n:Nat),n≤N∧x=((labs ev a n).1,(n:Int),[],[],[],(labs ev a n).2.1,(labs ev a n).2.2)) (fun x=>N-x.2.1.toNat) (fun x r=>r=some ((labs ev a N).1,[],[],[],(labs ev a N).2.1,(labs ev a N).2.2)) ?_ fuel _ ⟨0,Nat.zero_le _,rfl⟩ (by simp only [Int.toNat_zero];omega);rintro k _ ⟨n,hn,rfl⟩ ih;dsimp only;by_cases hlt:n<N
 ·have hnl:=hN.2 n hlt;have hI:=labI hp n (by omega) (fun m hm=>hN.2 m (by omega));have hB:=Qzv hp h0 n;obtain ⟨x,hx,e⟩:=Q4a hnl;have hxm:=List.mem_of_getElem? hx;have hll:=Qxy hp h0 n;have hml:(labs ev a n).2.1.length≤n:=by have:=Qff hI.ms hI.mr;simpa using this
  have hel:=hI.el;rw [if_pos (by omega),getB hx];simp only [Option.bind_some];rw [Qbh2 hs.1.2.1];simp only [Option.bind_some];refine Qfm (x:=((labs ev a (n+1)).1,(labs ev a (n+1)).2.1,(labs ev a (n+1)).2.2)) ?_ (by dsimp only;rw [Q7 (by omega)];exact ih _ ⟨n+1,by omega,rfl⟩ (by simp only;omega));refine Qfm (x:=(labs ev a (n+1)).2.1) ?_ ?_
  ·rw [e];by_cases hm:x.State∈a.zF
   ·rw [decide_eq_true hm,if_pos rfl,if_pos hm,Qb7 (by simp only [List.length_cons,List.length_nil];unfold lim;omega)]
    rfl
   ·rw [decide_eq_false hm,if_neg (by simp),if_neg hm]
  have hof:(outP a x.State)=a.zG.filter fun y=>y.From==x.State:=rfl;have hof2:=Q7f hp.r x.State;refine Qd0 (fun z=>∃ (m:Nat) (S:List Lab) (r:List Qe),z=(S,(m:Int),r)∧m≤a.zG.length∧S[n]? = some x∧LbI a S∧r.length≤32*n+m ∧
   ((a.zG.drop m).filter fun y=>y.From==x.State).foldl (Qpu ev n x) (S,r)=((labs ev a (n+1)).1,(labs ev a (n+1)).2.2)) (fun z=>a.zG.length-z.2.1.toNat) (fun z r=>r=some ((labs ev a (n+1)).1,(labs ev a (n+1)).2.1,(labs ev a (n+1)).2.2)) ?_ fuel _ ⟨0,_,_,rfl,Nat.zero_le _,hx,hB,by omega,by rw [e,List.drop_zero,← hof]⟩ (by simp only [Int.toNat_zero];omega)
  rintro k' _ ⟨m,S,r,rfl,hm,hgs,hBS,hrl,hf⟩ ih';dsimp only;by_cases hlm:m<a.zG.length
  ·have hye:=List.getElem_mem hlm;rw [if_pos (by omega),Qbp hlm,getB hgs];rw [List.drop_eq_getElem_cons hlm] at hf;generalize a.zG[m]=y at hye hf ⊢;simp only [Option.bind_some];rw [List.filter_cons] at hf;have hSl:=hBS.len;have hst2:=hp.st;by_cases hfr:y.From=x.State
   ·rw [if_pos (by simp [hfr])] at hf;rw [if_neg (by simp [hfr]),Qbhm hp hBS (List.mem_of_getElem? hgs) hye];simp only [Option.bind_some];rw [Qbhk (by unfold big;omega)];simp only [Option.bind_some];have htl:=hBS.to hp (List.mem_of_getElem? hgs) hye;rw [List.foldl_cons] at hf;by_cases hin:toL ev x y∈S
    ·have hi:Qt9 S (toL ev x y)=S:=by unfold Qt9;rw [if_pos hin]
     rw [if_pos hin,if_neg (by omega)];simp only [Option.bind_some];rw [Qb7 (by simp only [List.length_cons,List.length_nil];unfold lim;omega)];simp only [Option.bind_some];rw [Q7 (by omega)];refine ih' _ ⟨m+1,S,_,rfl,by omega,hgs,hBS,by rw [List.length_append];simp only [List.length_cons,List.length_nil];omega,?_⟩ (by simp only;omega);rw [← hf];unfold Qpu;rw [hi]
    ·have hi:Qt9 S (toL ev x y)=S++[toL ev x y]:=by unfold Qt9;rw [if_neg hin]
     rw [if_neg hin,if_pos (by omega),Qb7 (by simp only [List.length_cons,List.length_nil];unfold lim;omega)];simp only [Option.bind_some];rw [Qb7 (by simp only [List.length_cons,List.length_nil];unfold lim;omega)];simp only [Option.bind_some];rw [Q7 (by omega)];have hBi:=hBS.add htl;rw [hi] at hBi;refine ih' _ ⟨m+1,S++[toL ev x y],_,rfl,by omega,by rw [List.getElem?_append_left (List.getElem?_eq_some_iff.1 hgs).1];exact hgs,hBi,by rw [List.length_append];simp only [List.length_cons,List.length_nil];omega,?_⟩ (by simp only;omega);rw [← hf];unfold Qpu;rw [hi,List.idxOf_append,if_neg hin];simp
   ·rw [if_neg (by simp [hfr])] at hf;rw [if_pos (by simp [hfr])];simp only [Option.bind_some];rw [Q7 (by omega)];exact ih' _ ⟨m+1,S,r,rfl,by omega,hgs,hBS,by omega,hf⟩ (by simp only;omega)
  ·rw [if_neg (by omega)];have hd:a.zG.drop m=[]:=List.drop_eq_nil_of_le (by omega);rw [hd,List.filter_nil,List.foldl_nil,Prod.mk.injEq] at hf;obtain ⟨rfl,rfl⟩:=hf
   rfl
 ·obtain rfl:n=N:=by omega
  rw [if_neg (by have:=hN.1;omega)]
theorem Q7g (h0:a.zH=0):Qcx ev a=some (⟨a.zD,0,[],[]⟩,[]):=by
 unfold Qcx Qbc;rw [if_pos (by simp [h0])]
structure Lbd (ev:List Qc) (a b:Qa) (l:List Lab):Prop where
 p:Qc0 ev a=some (b,l,0)
 w:Qcx ev a=some (b,l)
 r:Right b
 n:b.zH=l.length
 z:a.zH=0↔b.zH=0
 al:b.zD=a.zD
 few:l.length≤3200
theorem Qbhn (hp:Plt ev a):∃ b l,Lbd ev a b l:=by
 by_cases h0:a.zH=0
 ·exact ⟨_,_,Q9w hp h0,Q7g h0,⟨hp.r.al0,hp.r.al,⟨Int.le_refl _,by simp⟩,fun x hx=>by simp at hx,List.Pairwise.nil,fun x hx=>by simp at hx,List.Pairwise.nil⟩,rfl,by simp [h0],rfl,by simp⟩
 ·have hpos:0<a.zH:=by have:=hp.r.st;omega
  obtain ⟨N,hN⟩:=Qbgf hp hpos;have h1:1≤N:=by
   rcases Nat.eq_zero_or_pos N with h|h
   ·subst h;have:=hN.1;simp [labs] at this
   ·exact h
  have:=hN.le hp hpos;exact ⟨_,_,Qbdy hp hpos hN,Qbcp hp hpos hN,Q9v hp hpos hN,by rw [hN.1];rfl,by simp [labA];omega,rfl,by rw [hN.1];exact this⟩
theorem Qbd4 (hp:Plt ev a) {b:Qa} {l:List Lab} (hb:Lbd ev a b l):∃ r sets e,Qdt b (obsE ev)=some (r,sets,e) ∧
  ((e=3∧12<b.zH∧Qd9 ev a=some (⟨⟨[],0,[],[]⟩,[]⟩,3))∨(e=0∧sets.length≤4096∧(∀ s∈sets,Sts b s)∧small r∧Qd9 ev a=some (⟨r,sets.map (Qvy l)⟩,0))):=by
 have hev:ev.length<big:=by have:=hp.len;unfold big;omega
 obtain ⟨⟨r,sets,e⟩,hP,hR⟩:=Q9t hb.r (Qbd1 hp.len);refine ⟨r,sets,e,hP,?_⟩;have hB:∀ sets r,Qdt b (obsE ev)=some (r,sets,0)→sets.length≤4096→(∀ s∈sets,Sts b s)→Qd9 ev a=some (⟨r,sets.map (Qvy l)⟩,0):=by
  intro sets r hP hl hs;unfold Qd9 Qb0;obtain ⟨fuel,hfu,hge⟩ : ∃ f,Qbe=f∧1099511627776≤f:=⟨_,rfl,Nat.le_refl _⟩;rw [hfu,hb.p];simp only [Option.bind_some,show ((0:Int) != 0)=false from rfl,Bool.false_eq_true,if_false];rw [Qvw hev hp.chk];simp only [Option.bind_some];rw [hP];simp only [Option.bind_some,show ((0:Int) != 0)=false from rfl,Bool.false_eq_true,if_false];refine Qfm (x:=([],[],[],[],sets.map (Qvy l))) ?_ rfl;refine (Qhd (len:=sets.length) (fun n (acc:List (List Lab))=>((n:Int),[],[],[],[],acc)) (fun n acc=>acc.length=n) (fun n acc=>some ([],[],[],[],acc++(sets.drop n).map (Qvy l))) ?_ ?_ fuel 0 [] (Nat.zero_le _) (by omega) rfl).trans (by simp)
  ·intro k n acc hn hi ih;dsimp only;have hS:=hs _ (List.getElem_mem hn);have hSl:=hS.len;have hst:=hb.r.st;rw [if_pos (by omega),Qbp hn];simp only [Option.bind_some];rw [Qbd2 (by unfold big;omega) (fun x hx=>by have:=hS.rg x hx;have:=hb.n;omega)];simp only [Option.bind_some];rw [Qb7 (by simp only [List.length_cons,List.length_nil];unfold lim;omega)];simp only [Option.bind_some];rw [Q7 (by omega),ih _ (by simp [hi]),List.drop_eq_getElem_cons hn];simp only [List.map_cons,List.append_assoc,List.cons_append,List.nil_append]
  ·intro k acc hi;dsimp only;rw [if_neg (by omega)];simp
 by_cases h0:b.zH=0
 ·rw [if_pos h0] at hR;cases hR;exact .inr ⟨rfl,by simp,fun s hs=>by simp at hs,⟨by have:=Qzt hb.r (obsE ev);dsimp only;unfold big;omega,by simp [big],by simp [big]⟩,hB _ _ hP (by simp) (fun s hs=>by simp at hs)⟩
 ·rw [if_neg h0] at hR;have hpos:0<b.zH:=by have:=hb.r.st;omega
  rcases hR with ⟨n,hn,hle,hR⟩|⟨n,hgt,hR⟩
  ·cases hR;have hE:=Qt8 hpos (obsE ev) n;have hS:∀ s∈estB b (obsE ev) n,Sts b s:=fun s hs=>(hE.ok s hs).1;refine .inr ⟨rfl,by omega,hS,?_,hB _ _ hP (by omega) hS⟩;have h1:=Qzt hb.r (obsE ev);have h2:=Q7e (a:=b) (estB b (obsE ev) n) 0;have h3:=Q7d hb.r (onto:=obsE ev) (S:=estB b (obsE ev) n) (estB b (obsE ev) n) 0;exact ⟨by simp only [autN];unfold big;omega,by simp only [autN];unfold big;omega,by simp only [autN];unfold big;omega⟩
  ·cases hR;refine .inl ⟨rfl,?_,?_⟩
   ·have hE:=Qt8 hpos (obsE ev) n;rcases Int.lt_or_le 12 b.zH with h|h
    ·exact h
    ·have:=Qbd0 hE (n:=12) h;omega
   ·unfold Qd9 Qb0;rw [hb.p];simp only [Option.bind_some,show ((0:Int) != 0)=false from rfl,Bool.false_eq_true,if_false];rw [Qvw hev hp.chk];simp only [Option.bind_some];rw [hP]
    rfl
end Go.Abs
end
section
namespace Go.Abs
open Go
def nmE (n:Nat):ByteArray:=strB [IntKind.wrap .u8 (97+IntKind.wrap .u8 (n:Int))]
def mkEv (n:Nat) (x:Int):Qc:=if 48≤x∧x<52 then ⟨nmE n,false,false,false,x-47⟩ else ⟨nmE n,andI .u8 x 1==1,andI .u8 x 2==2,andI .u8 x 4==4,0⟩
def evL:Nat→List Int→List Qc
 | _,[]=>[]
 | n,x::t=>mkEv n x::evL (n+1) t
theorem Q6g (n:Nat) (x:Int):(mkEv n x).Name=nmE n:=by unfold mkEv;split<;>rfl
theorem Qbgg {n:Nat} {x:Int} (hx:0≤x∧x<256):(0≤(mkEv n x).Fault∧(mkEv n x).Fault≤4)∧((mkEv n x).Fault≠0→(mkEv n x).Controllable=false∧(mkEv n x).Observable=false):=by
 unfold mkEv;split
 ·exact ⟨⟨by dsimp only;omega,by dsimp only;omega⟩,fun _=>⟨rfl,rfl⟩⟩
 ·exact ⟨⟨by simp,by simp⟩,fun h=>absurd rfl h⟩
theorem Qbho {F:Int×Int×Int×Int×Int} {n:Nat} {x:Int} (h:[F.1,F.2.1,F.2.2.1,F.2.2.2.1,F.2.2.2.2][n]? = some x):rowO [F.1,F.2.1,F.2.2.1,F.2.2.2.1,F.2.2.2.2] (Int.toNat (n:Int)*1)=some x:=by
 unfold rowO;rw [Int.toNat_natCast,Nat.mul_one];exact h
theorem Q9z {F:Int×Int×Int×Int×Int} (hF:∀ x∈[F.1,F.2.1,F.2.2.1,F.2.2.2.1,F.2.2.2.2],0≤x∧x<256):Qf4 F=some (evL 0 [F.1,F.2.1,F.2.2.1,F.2.2.2.1,F.2.2.2.2]):=by
 unfold Qf4 Qcm;obtain ⟨fuel,hfu,hge⟩ : ∃ f,Qbe=f∧1099511627776≤f:=⟨_,rfl,Nat.le_refl _⟩;rw [hfu];have hL:[F.1,F.2.1,F.2.2.1,F.2.2.2.1,F.2.2.2.2].length=5:=rfl;have hat:=fun n x=>Qbho (F:=F) (n:=n) (x:=x);generalize [F.1,F.2.1,F.2.2.1,F.2.2.2.1,F.2.2.2.2]=L at hF hL hat ⊢;refine Qfm (x:=evL 0 L) ?_ rfl;refine (Qhd (len:=5) (fun n (acc:List Qc)=>(acc,(n:Int))) (fun n acc=>acc.length=n) (fun n acc=>some (acc++evL n (L.drop n))) ?_ ?_ fuel 0 [] (by omega) (by omega) rfl).trans (by simp)
 ·intro k n acc hn hi ih;have hlt:n<L.length:=by omega
  have hx:=hF _ (List.getElem_mem hlt);have hr:=hat n _ (List.getElem?_eq_getElem hlt);have hin:inO 5 (n:Int)=some ():=by unfold inO;rw [if_pos ⟨by omega,by omega⟩]
  rw [List.drop_eq_getElem_cons hlt];generalize L[n]=x at hx hr ⊢;dsimp only;rw [if_pos (by omega),hin];simp only [Option.bind_some,hr];have hfin:(appO acc [mkEv n x]).bind (fun x33=>k (x33,IntKind.wrap .i64 ((n:Int)+1)))=some (acc++evL n (x::L.drop (n+1))):=by
   rw [Qb7 (by simp only [List.length_cons,List.length_nil];unfold lim;omega),Option.bind_some,Q7 (by omega),ih _ (by simp [hi])];simp [evL]
  by_cases h1:x≥48
  ·rw [if_pos h1];simp only [Option.bind_some];by_cases h2:x<52
   ·rw [decide_eq_true h2,if_pos rfl];simp only [Option.bind_some];rw [show IntKind.wrap .i64 ((IntKind.wrap .i64 x)-47)=x-47 from by rw [Qr0 (x:=x) (by omega) (by omega),Qr0 (by omega) (by omega)]];have:mkEv n x=⟨nmE n,false,false,false,x-47⟩:=by unfold mkEv;rw [if_pos ⟨h1,h2⟩]
    rw [this] at hfin;exact hfin
   ·rw [decide_eq_false h2,if_neg (by simp)];simp only [Option.bind_some];have:mkEv n x=⟨nmE n,andI .u8 x 1==1,andI .u8 x 2==2,andI .u8 x 4==4,0⟩:=by unfold mkEv;rw [if_neg (by omega)]
    rw [this] at hfin;exact hfin
  ·rw [if_neg h1];simp only [Option.bind_some];rw [if_neg (by simp)];simp only [Option.bind_some];have:mkEv n x=⟨nmE n,andI .u8 x 1==1,andI .u8 x 2==2,andI .u8 x 4==4,0⟩:=by unfold mkEv;rw [if_neg (by omega)]
   rw [this] at hfin;exact hfin
 ·intro k acc hi;dsimp only;rw [if_neg (by omega),List.drop_eq_nil_of_le (by omega)];simp [evL]
theorem Qub {seen:List ByteArray} {n:Nat} {x:Int} {l:List Qc} (hx:0≤x∧x<256) (h1:Q1v (nmE n)=true) (h2:Q1w (nmE n) seen=false):Qua seen (mkEv n x::l)=Qua (nmE n::seen) l:=by
 obtain ⟨h3,h4⟩:=Qbgg (n:=n) hx;simp only [Qua,Q6g];rw [if_neg (by simp [h1]),if_neg (by simp [h2]),if_neg (by omega),if_neg];rintro ⟨h5,h6⟩;obtain ⟨h7,h8⟩:=h4 h5;rw [h7,h8] at h6;simp at h6
theorem Qbd5:(Q1v (nmE 0)&&Q1v (nmE 1)&&Q1v (nmE 2)&&Q1v (nmE 3)&&Q1v (nmE 4) && !Q1w (nmE 0) [] && !Q1w (nmE 1) [nmE 0] && !Q1w (nmE 2) [nmE 1,nmE 0] && !Q1w (nmE 3) [nmE 2,nmE 1,nmE 0] && !Q1w (nmE 4) [nmE 3,nmE 2,nmE 1,nmE 0])=true:=by kernel_rfl
theorem Qbd6:(decide ((nmE 0).size=1)&&decide ((nmE 1).size=1)&&decide ((nmE 2).size=1)&&decide ((nmE 3).size=1)&&decide ((nmE 4).size=1))=true:=by kernel_rfl
structure Evf (ev:List Qc):Prop where
 len:ev.length=5
 err:Q9x ev=0
 nm:∀ x∈ev,x.Name.size<big
theorem Qbhp {F:Int×Int×Int×Int×Int} (hF:∀ x∈[F.1,F.2.1,F.2.2.1,F.2.2.2.1,F.2.2.2.2],0≤x∧x<256):Evf (evL 0 [F.1,F.2.1,F.2.2.1,F.2.2.2.1,F.2.2.2.2]):=by
 obtain ⟨a,b,c,d,e⟩:=F;have hn:=Qbd5;have hz:=Qbd6;simp only [Bool.and_eq_true,Bool.not_eq_true',decide_eq_true_eq] at hn hz;simp only [List.mem_cons,List.not_mem_nil,or_false,forall_eq_or_imp,forall_eq] at hF;refine ⟨rfl,?_,?_⟩
 ·unfold Q9x;rw [if_neg (by simp [evL])];simp only [evL];rw [Qub hF.1 (by simp [hn]) (by simp [hn]),Qub hF.2.1 (by simp [hn]) (by simp [hn]),Qub hF.2.2.1 (by simp [hn]) (by simp [hn]),Qub hF.2.2.2.1 (by simp [hn]) (by simp [hn]),Qub hF.2.2.2.2 (by simp [hn]) (by simp [hn])]
  rfl
 ·intro x hx;simp only [evL,List.mem_cons,List.not_mem_nil,or_false] at hx;rcases hx with rfl|rfl|rfl|rfl|rfl<;>rw [Q6g]<;>(try simp only [Nat.zero_add,Nat.reduceAdd])<;>unfold big<;>omega
structure Qbcq (p:Qbk):Prop where
 ev:0≤p.Events∧p.Events<256
 gr:Qbeu p.Graph
 fl:∀ x∈[p.Flags.1,p.Flags.2.1,p.Flags.2.2.1,p.Flags.2.2.2.1,p.Flags.2.2.2.2],0≤x∧x<256
theorem Qbd7 {p:Qbk} (hp:Qbcq p):∃ ev a,Qgy p=some (ev,a)∧Plt ev a∧Evf ev∧a.zH≤5∧Evs a.zD∧a.zD.length≤5:=by
 obtain ⟨al,hal,hE⟩:=Qbcb hp.ev.1 hp.ev.2;obtain ⟨m,hm,rfl,hmk,hst⟩:=Qbgb hE hp.gr;have hev:=Qbhp hp.fl;refine ⟨_,Qt5 m,?_,?_,hev,?_,hE,hE.len⟩
 ·unfold Qgy Qc2;rw [Q9z hp.fl];simp only [Option.bind_some];rw [hal];simp only [Option.bind_some];rw [hmk];rfl
 ·refine Qbhj (by rw [hev.len];decide) hev.nm hev.err (Q5z hm) ?_ (fun x hx=>by rw [hev.len];have:=hE.rg x hx;omega);have h1:=(Quo hm).1.len;simp only [Qt5];omega
 ·have h1:=(Quo hm).1.len;simp only [Qt5];omega
end Go.Abs
end
section
namespace Go.Proofs
open Go Go.Abs
theorem Qbd8 {x:Int} (h:wfI .u8 x):0≤x∧x<256:=by
 unfold wfI at h;simp [Lit.wf,IntKind.min,IntKind.max,IntKind.bits,IntKind.signed] at h;omega
theorem Qbhr {p:Qbk} (h:W_29 p):Qbcq p:=by
 unfold W_29 W_22 W_26 W_24 W_23 W_27 W_5 at h;obtain ⟨h0,⟨h1,h2,⟨a1,a2,a3,a4,a5⟩,⟨b1,b2,b3,b4,b5⟩,⟨c1,c2,c3,c4,c5⟩,⟨d1,d2,d3,d4,d5⟩,⟨e1,e2,e3,e4,e5⟩⟩,f1,f2,f3,f4,f5⟩:=h;refine ⟨Qbd8 h0,⟨Qbd8 h1,fun x hx=>?_⟩,fun x hx=>?_⟩
 ·simp only [List.mem_cons,List.not_mem_nil,or_false] at hx;rcases hx with rfl|rfl|rfl|rfl|rfl|rfl|rfl|rfl|rfl|rfl|rfl|rfl|rfl|rfl|rfl|rfl|rfl|rfl|rfl|rfl|rfl|rfl|rfl|rfl|rfl<;>exact Qbd8 (by assumption)
 ·simp only [List.mem_cons,List.not_mem_nil,or_false] at hx;rcases hx with rfl|rfl|rfl|rfl|rfl<;>exact Qbd8 (by assumption)
end Go.Proofs
end
section
namespace Go.Abs
open Go
theorem Q90 (l:List Lab) (s:List Int):(Qvy l s).length=s.length:=by simp [Qvy]
theorem Q80 {p:Qbk} (hw:Qbcq p):Qe1 p=some true:=by
 obtain ⟨ev,a,hM,hp,hev,hst,-,-⟩:=Qbd7 hw;obtain ⟨b,l,hb⟩:=Qbhn hp;have hevl:ev.length<big:=by rw [hev.len];decide
 have hfew:=hb.few;have hbs:=hb.r.small.1;obtain ⟨r,sets,e,hP,hB⟩:=Qbd4 hp hb;unfold Qe1 Qe0;obtain ⟨fuel,hfu,hge⟩ : ∃ f,Qbe=f∧1099511627776≤f:=⟨_,rfl,Nat.le_refl _⟩;rw [hfu,Q9u];simp only [Option.bind_some,if_true];rw [hM];simp only [Option.bind_some];rw [hb.p];simp only [Option.bind_some];rcases hB with ⟨rfl,h12,hB⟩|⟨rfl,hsl,hss,hrs,hB⟩
 ·rw [hB];simp only [Option.bind_some];rw [hb.w];simp only [Option.bind_some];rw [Qvx hevl];simp only [Option.bind_some];rw [hP];simp only [Option.bind_some];have hwide:Qen ev a 3=some true:=by
   unfold Qen Qcp;rw [hb.w];simp only [Option.bind_some];rw [if_pos (by rfl),decide_eq_true h12]
  rw [hwide];simp only [Option.bind_some,if_true];rw [if_pos (by rfl),if_pos (by rfl),Qxo hbs];simp only [Option.bind_some,decide_true,if_true];rw [Qbcn (by omega)];simp only [Option.bind_some,decide_true,if_true];rw [Qbhl ⟨by simp [big],by simp [big],by simp [big]⟩];simp
 ·rw [hB];simp only [Option.bind_some];rw [hb.w];simp only [Option.bind_some];rw [Qvx hevl];simp only [Option.bind_some];rw [hP];simp only [Option.bind_some];have hwide:Qen ev a 0=some false:=by
   unfold Qen Qcp;rw [hb.w]
   rfl
  rw [hwide];simp only [Option.bind_some,Bool.false_eq_true,if_false];refine Qfm (x:=sets.map (Qvy l)) ?_ ?_
  ·refine Qyp (f:=Qvy l) (by unfold big;omega) (by omega) ?_ ?_
   ·intro k acc n hn;dsimp only;have hS:=hss _ (List.getElem_mem hn);have hSl:=hS.len;have hbst:=hb.r.st;rw [if_pos (by omega),Qbp hn];simp only [Option.bind_some];rw [Qbd3 (by unfold big;omega) (fun x hx=>by have:=hS.rg x hx;have:=hb.n;omega)]
    rfl
   ·intro k acc;dsimp only;rw [if_neg (by omega)]
  ·rw [if_pos (by rfl),if_pos (by rfl),if_pos (by rfl),Qxo hbs];simp only [Option.bind_some,decide_true,if_true];rw [Qbcn (by omega)];simp only [Option.bind_some,decide_true,if_true];rw [Qxo hrs];simp only [Option.bind_some,decide_true,if_true];rw [Qbco (by rw [List.length_map];omega) (fun x hx=>by
    obtain ⟨s,hs,rfl⟩:=List.mem_map.1 hx;have:=(hss s hs).len;have:=hb.r.st;rw [Q90];omega)]
   simp
end Go.Abs
end
