/-
  Part 12 of the proof: see the last text.
-/
import Derived.Test.YtjngkimolkhdmaaGreatP11
import Derived.KernelRfl
set_option linter.unusedVariables false
set_option linter.unusedSimpArgs false
set_option linter.unusedSectionVars false
section
namespace Go.Abs
open Go
variable {ev:List Qd} {a:Qa}
theorem Q2q (hp:Plt ev a):Qgk ev a=some 0:=by
 unfold Qgk Qbl;rw [hp.chk];simp only [Option.bind_some,show ((0:Int) != 0)=false from rfl,Bool.false_eq_true,if_false];rw [Q75 hp.r];simp only [Option.bind_some,show ((0:Int) != 0)=false from rfl,Bool.false_eq_true,if_false];have hl:=hp.r.small.2.1;by_cases h0:a.zD.length=0
 ·rw [if_neg (by omega)];rfl
 ·rw [if_pos (by omega),Q2f (by omega) (by omega),Qb3 (by omega)];have:=hp.al (a.zD[a.zD.length-1]'(by omega)) (List.getElem_mem _);simp only [Option.bind_some];rw [decide_eq_false (by omega)]
  rfl
structure KB2 (S:List Lab) (c:List (Lab×Int)):Prop where
 has:∀ t,hasM c t=decide (t∈S)
 get:∀ t∈S,getM c t 0=(S.idxOf t:Int)
theorem KB2.first (t:Lab):KB2 [t] (setM ([]:List (Lab×Int)) t 0):=by
 refine ⟨fun m=>?_,fun m hm=>?_⟩
 ·rw [Qyk];have:hasM ([]:List (Lab×Int)) m=false:=rfl;rw [this,Bool.or_false];simp
 ·rw [List.mem_singleton] at hm;subst hm;rw [Qyl,if_pos rfl];simp
theorem KB2.add {S:List Lab} {c:List (Lab×Int)} (h:KB2 S c) {t:Lab} (hm:t∉S):KB2 (S++[t]) (setM c t (S.length:Int)):=by
 refine ⟨fun m=>?_,fun m hm'=>?_⟩
 ·rw [Qyk,h.has m,← Bool.decide_or];apply decide_eq_decide.2;rw [List.mem_append,List.mem_singleton];exact or_comm
 ·rw [Qyl];rw [List.mem_append,List.mem_singleton] at hm';rcases hm' with hm'|rfl
  ·rw [if_neg (fun e=>hm (by rw [← e];exact hm')),h.get m hm',List.idxOf_append,if_pos hm']
  ·rw [if_pos rfl,List.idxOf_append,if_neg hm];simp
theorem Qbdf (hp:Plt ev a) {y:Qf} (hy:y∈a.zG):Qjm ev y.Event=some (bitE ev y.Event):=by
 have he:=(hp.r.ed0 y hy).2.2.2.2;have h1:=hp.al _ he;have h2:=hp.r.al0 _ he;unfold Qjm Qeu bitE;cases hx:getO ev y.Event with
 | none =>
  exfalso;have:getO ev ((y.Event.toNat:Nat):Int)=some ev[y.Event.toNat]:=Qb3 (by omega);rw [show ((y.Event.toNat:Nat):Int)=y.Event from by omega,hx] at this;cases this
 | some x =>
  have hm:=hp.flt x (List.mem_of_getElem? (Qjq.1 hx).2);simp only [Option.bind_some];by_cases hf:x.Fault>0
  ·rw [if_pos hf,if_pos (by omega)];have:x.Fault=1∨x.Fault=2∨x.Fault=3∨x.Fault=4:=by omega
   rcases this with e|e|e|e<;>rw [e]<;>rfl
  ·rw [if_neg hf,if_neg (by omega)]
theorem Q38 (h:Right a) {fuel:Nat} (hfu:1099511627776≤fuel):(Qct (fun k12 ((x10,c11):Int×(List (List Qf)))=>(if (x10<(a.zG.length:Int)) then ((getO a.zG x10).bind fun x14=>((inO (Int.toNat a.zH) x14.From).bind fun u16=>((getO c11 x14.From).bind fun x18=>((appO x18 [x14]).bind fun x20=>((inO (Int.toNat a.zH) x14.From).bind fun u22=>((setO c11 x14.From x20).bind fun x24=>k12 ((IntKind.wrap .i64 (x10+1)),x24))))))) else some c11)) fuel (0,List.replicate a.zH.toNat []))=some (Q0d a):=by
 have hs:=h.small;have hst:=h.st;refine (Qh4 (len:=a.zG.length) (fun n (c:List (List Qf))=>((n:Int),c)) (fun n c=>c.length=a.zH.toNat∧∀ s:Nat,s<a.zH.toNat→c[s]? = some ((a.zG.take n).filter fun x=>x.From==(s:Int))) (fun n c=>some (Q0d a)) ?_ ?_ fuel 0 _ (Nat.zero_le _) (by omega) ⟨by simp,fun s hs=>by simp [hs]⟩)
 ·intro k n c hn ⟨i1,i2⟩ ih;have he:=h.ed0 _ (List.getElem_mem hn);dsimp only;rw [if_pos (by omega),Qb3 hn];simp only [Option.bind_some];have hin:inO (Int.toNat a.zH) a.zG[n].From=some ():=by unfold inO;rw [if_pos ⟨he.1,by omega⟩]
  have hto:((a.zG[n].From.toNat:Nat):Int)=a.zG[n].From:=by omega
  have hg:getO c a.zG[n].From=some ((a.zG.take n).filter fun x=>x.From==a.zG[n].From):=by
   rw [Qjq];refine ⟨he.1,?_⟩;rw [i2 _ (by omega),hto]
  have hfl:((a.zG.take n).filter fun x=>x.From==a.zG[n].From).length≤a.zG.length:=Nat.le_trans (List.length_filter_le _ _) (by rw [List.length_take];omega);rw [hin,hg];simp only [Option.bind_some];rw [Qck (by simp only [List.length_cons,List.length_nil];unfold lim;omega)];simp only [Option.bind_some];unfold setO;rw [if_pos ⟨he.1,by omega⟩,Qbd (by omega)];simp only [Option.bind_some];refine ih _ ⟨by simp [i1],fun s hs=>?_⟩;rw [List.getElem?_set,List.take_succ_eq_append_getElem hn,List.filter_append];split
  ·rename_i hss;subst hss;rw [if_pos (by omega),hto];simp
  ·rename_i hss;have:¬ a.zG[n].From=(s:Int):=by omega
   rw [i2 s hs];simp [this]
 ·intro k c ⟨i1,i2⟩;dsimp only;rw [if_neg (by omega)];congr 1;refine List.ext_getElem? fun s=>?_;by_cases hs:s<a.zH.toNat
  ·rw [i2 s hs,Q2l a hs,List.take_length];rfl
  ·rw [List.getElem?_eq_none (by omega),List.getElem?_eq_none (by rw [Quz];omega)]
theorem getB {S:List Lab} {n:Nat} {x:Lab} (h:S[n]? = some x):getO S (n:Int)=some x:=by rw [Qjq];exact ⟨by omega,by simpa using h⟩
theorem Qbew (hp:Plt ev a) (h0:0<a.zH) {N:Nat} (hN:LabN ev a N):Qde ev a=some (labA ev a N,(labs ev a N).1,0):=by
 have hs:=hp.r.small;have hst:=hp.r.st;have hNl:=hN.le hp h0;unfold Qde Q6;obtain ⟨fuel,hfu,hge⟩ : ∃ f,Qbp=f∧1099511627776≤f:=⟨_,rfl,Nat.le_refl _⟩;rw [hfu,Q2q hp];simp only [Option.bind_some,show ((0:Int) != 0)=false from rfl,Bool.false_eq_true,if_false];rw [Q0o (by unfold lim;omega)];refine Qgc rfl ?_;refine Qgc (x:=List.replicate a.zH.toNat []) (by unfold mkO;rw [if_pos ⟨hst.1,by unfold lim;omega⟩]) ?_;refine Qgc (Q38 hp.r hge) ?_;rw [if_pos (by omega),Qck (by simp [lim])];simp only [Option.bind_some,List.nil_append];refine Qdr (fun x=>∃ (n:Nat) (c:List (Lab×Int)),n≤N∧KB2 (labs ev a n).1 c∧x=((labs ev a n).1,(n:Int),[],[],[],(labs ev a n).2.1,(labs ev a n).2.2,c)) (fun x=>N-x.2.1.toNat) (fun x r=>r=some (labA ev a N,(labs ev a N).1,0)) ?_ fuel _ ⟨0,_,Nat.zero_le _,.first _,rfl⟩ (by simp only [Int.toNat_zero];omega);rintro k _ ⟨n,c,hn,hK,rfl⟩ ih;dsimp only;by_cases hlt:n<N
 ·have hnl:=hN.2 n hlt;have hI:=labI hp n (by omega) (fun m hm=>hN.2 m (by omega));have hB:=Q0r hp h0 n;obtain ⟨x,hx,e⟩:=Q5b hnl;have hxm:=List.mem_of_getElem? hx;have hxs:=(hB.ok x hxm).1;have hll:=Qyo hp h0 n;have hll':=Qyo hp h0 (n+1);have hml:(labs ev a n).2.1.length≤n:=by have:=Qgl hI.ms hI.mr;simpa using this
  have hel:=hI.el;rw [if_pos (by omega),getB hx];simp only [Option.bind_some];rw [Q5a hp.r.ma hs.1.2.1];simp only [Option.bind_some];refine Qgc (x:=(labs ev a (n+1)).2.1) ?_ ?_
  ·rw [e];by_cases hm:x.State∈a.zF
   ·rw [decide_eq_true hm,if_pos rfl,if_pos hm,Qck (by simp only [List.length_cons,List.length_nil];unfold lim;omega)]
    rfl
   ·rw [decide_eq_false hm,if_neg (by simp),if_neg hm]
  have hin:inO (Int.toNat a.zH) x.State=some ():=by unfold inO;rw [if_pos ⟨hxs.1,by omega⟩]
  rw [hin,Q48 hxs];simp only [Option.bind_some];have hof:=Q8a hp.r x.State;have hoe:∀ y∈outP a x.State,y∈a.zG:=fun y hy=>(List.mem_filter.1 hy).1;generalize hO:outP a x.State=O at e hof hoe ⊢;refine Qdr (fun z=>∃ (m:Nat) (S:List Lab) (r:List Qf) (c:List (Lab×Int)),z=(S,(m:Int),r,c)∧m≤O.length∧S[n]? = some x∧LbI a S∧r.length≤32*n+m∧KB2 S c ∧
   (O.drop m).foldl (Qqv ev n x) (S,r)=((labs ev a (n+1)).1,(labs ev a (n+1)).2.2)) (fun z=>O.length-z.2.1.toNat) (fun z r=>r=some (labA ev a N,(labs ev a N).1,0)) ?_ fuel _ ⟨0,_,_,c,rfl,Nat.zero_le _,hx,hB,by omega,hK,by rw [e];rfl⟩ (by simp only [Int.toNat_zero];omega)
  rintro k' _ ⟨m,S,r,c,rfl,hm,hgs,hBS,hrl,hKS,hf⟩ ih';dsimp only;by_cases hlm:m<O.length
  ·have hye:=hoe _ (List.getElem_mem hlm);rw [if_pos (by omega),Qb3 hlm,getB hgs];rw [List.drop_eq_getElem_cons hlm] at hf;generalize O[m]=y at hye hf ⊢;simp only [Option.bind_some];rw [Qbdf hp hye];simp only [Option.bind_some];simp only [letJ];have ht:(Qb.mk y.To (orI .i64 x.Classes (bitE ev y.Event)))=toL ev x y:=rfl;rw [ht,hKS.has];have hSl:=hBS.len;have hst2:=hp.st;have htl:=hBS.to hp (List.mem_of_getElem? hgs) hye;by_cases hin:toL ev x y∈S
   ·have hi:Qu0 S (toL ev x y)=S:=by unfold Qu0;rw [if_pos hin]
    rw [decide_eq_true hin,if_pos rfl];rw [hKS.get _ hin,Qck (by simp only [List.length_cons,List.length_nil];unfold lim;omega)];simp only [Option.bind_some];rw [Qbd (by omega)];refine ih' _ ⟨m+1,S,_,c,rfl,by omega,hgs,hBS,by rw [List.length_append];simp only [List.length_cons,List.length_nil];omega,hKS,?_⟩ (by simp only;omega);rw [List.foldl_cons] at hf;rw [← hf];unfold Qqv;rw [hi]
   ·have hi:Qu0 S (toL ev x y)=S++[toL ev x y]:=by unfold Qu0;rw [if_neg hin]
    rw [decide_eq_false hin,if_neg (by simp),if_neg (by simp;omega),Qck (by simp only [List.length_cons,List.length_nil];unfold lim;omega)];simp only [Option.bind_some];have hK2:=hKS.add hin;rw [hK2.get _ (by simp),Qck (by simp only [List.length_cons,List.length_nil];unfold lim;omega)];simp only [Option.bind_some];rw [Qbd (by omega)];have hBi:=hBS.add htl;rw [hi] at hBi;refine ih' _ ⟨m+1,S++[toL ev x y],_,_,rfl,by omega,by rw [List.getElem?_append_left (List.getElem?_eq_some_iff.1 hgs).1];exact hgs,hBi,by rw [List.length_append];simp only [List.length_cons,List.length_nil];omega,hK2,?_⟩ (by simp only;omega);rw [List.foldl_cons] at hf;rw [← hf];unfold Qqv;rw [hi]
  ·rw [if_neg (by omega)];have hd:O.drop m=[]:=List.drop_eq_nil_of_le (by omega);rw [hd,List.foldl_nil,Prod.mk.injEq] at hf;obtain ⟨rfl,rfl⟩:=hf;rw [Qbd (by omega)];exact ih _ ⟨n+1,c,by omega,hKS,rfl⟩ (by simp only;omega)
 ·obtain rfl:n=N:=by omega
  rw [if_neg (by have:=hN.1;omega),hN.1]
  rfl
theorem Qbaq (hp:Plt ev a) (h0:a.zH=0):Qde ev a=some (⟨a.zD,0,[],[]⟩,[],0):=by
 have hs:=hp.r.small;unfold Qde Q6;obtain ⟨fuel,hfu,hge⟩ : ∃ f,Qbp=f∧1099511627776≤f:=⟨_,rfl,Nat.le_refl _⟩;rw [hfu,Q2q hp];simp only [Option.bind_some,show ((0:Int) != 0)=false from rfl,Bool.false_eq_true,if_false];rw [Q0o (by unfold lim;omega)];refine Qgc rfl ?_;refine Qgc (x:=List.replicate a.zH.toNat []) (by unfold mkO;rw [if_pos ⟨by omega,by unfold lim;omega⟩]) ?_;refine Qgc (Q38 hp.r hge) ?_;rw [if_neg (by omega)];obtain ⟨f,rfl⟩ : ∃ f,fuel=f+1:=⟨fuel-1,by omega⟩
 rfl
end Go.Abs
end
section
namespace Go.Abs
open Go
structure Proj (a:Qa) (onto:List Int) (S:List (List Int)):Prop where
 es:Ests a S
 first:S[0]? = some (Qwi a onto)
 cl:∀ s∈S,∀ e∈Qsz a onto,Qv6 a onto s e≠[]→Qv6 a onto s e∈S
 form:∀ s∈S,∃ fr,(∀ t∈fr,0≤t∧t<a.zH)∧s=Qs5 a fr (Ql8 a onto)
section
variable {a:Qa} {onto:List Int} {S:List (List Int)}
variable (h:Right a) (hP:Proj a onto S)
include h hP
end
end Go.Abs
end
section
namespace Go.Abs
open Go
theorem Qbdg {s:ByteArray} (hs:s.size<big):∃ b,Qgi s=some b:=by
 have hb:s.size<1000000000000:=hs;unfold Qgi Qej;refine Qdr (fun x=>∃ n:Nat,x=(n:Int)∧n≤s.size) (fun x=>s.size-x.toNat) (fun x r=>∃ b,r=some b) ?_ Qbp _ ⟨0,rfl,Nat.zero_le _⟩ (by unfold Qbp;omega);rintro k _ ⟨n,rfl,hn⟩ ih;by_cases hlt:n<s.size
 ·rw [if_pos (by omega)];have hc:∃ c,chrO s (n:Int)=some c:=by unfold chrO;rw [dif_pos ⟨by omega,by omega⟩];exact ⟨_,rfl⟩
  obtain ⟨c,hc⟩:=hc;rw [hc];simp only [Option.bind_some];have key:∀ (o:Option Bool) (K:Bool→Option Bool),(∃ x,o=some x)→(∀ x,∃ y,K x=some y)→∃ y,o.bind K=some y:=fun o K ⟨x,h⟩ h2=>by rw [h];exact h2 x
  refine key _ _ ?_ fun letter=>key _ _ ?_ fun z=>?_
  ·repeat' split
   all_goals exact ⟨_,rfl⟩
  ·repeat' split
   all_goals exact ⟨_,rfl⟩
  ·split
   ·exact ⟨_,rfl⟩
   ·rw [Qbd (by omega)];exact ih _ ⟨n+1,rfl,by omega⟩ (by simp only [Int.toNat_natCast];omega)
 ·rw [if_neg (by omega)];split<;>exact ⟨_,rfl⟩
def Q2x (s:ByteArray):Bool:=decide (Qgi s=some true)
theorem Qbdh {s:ByteArray} (hs:s.size<big):Qgi s=some (Q2x s):=by
 obtain ⟨b,h⟩:=Qbdg hs;unfold Q2x;rw [h];cases b<;>simp
def Q2y (k:ByteArray) (seen:List ByteArray):Bool:=seen.any fun z=>decide (k=z)
def Qu1:List ByteArray→List Qd→Int
 | _,[]=>0
 | seen,x::l=>if Q2x x.Name=false then 7 else if Q2y x.Name seen=true then 8 else if x.Fault<0∨x.Fault>4 then 2 else if x.Fault≠0∧(x.Controllable=true∨x.Observable=true) then 13 else Qu1 (x.Name::seen) l
def Qbar (ev:List Qd):Int:=if 32<ev.length then 3 else Qu1 [] ev
theorem Qbas {ev:List Qd} (hl:ev.length<big) (hn:∀ x∈ev,x.Name.size<big):Qf3 ev=some (Qbar ev):=by
 have hb:ev.length<1000000000000:=hl;unfold Qf3 Qcr Qbar;by_cases h32:32<ev.length
 ·rw [if_pos (by omega),if_pos h32]
 rw [if_neg (by omega),if_neg h32];refine Qdr (fun x=>∃ (n:Nat) (c:List (ByteArray×Bool)) (seen:List ByteArray),x=((n:Int),c)∧n≤ev.length∧(∀ k,getM c k false=Q2y k seen)∧Qu1 seen (ev.drop n)=Qu1 [] ev) (fun x=>ev.length-x.1.toNat) (fun x r=>r=some (Qu1 [] ev)) ?_ Qbp _ ⟨0,[],[],rfl,Nat.zero_le _,fun k=>rfl,by simp⟩ (by simp only [Int.toNat_zero];unfold Qbp;omega);rintro k _ ⟨n,c,seen,rfl,hle,hc,he⟩ ih;dsimp only;by_cases hlt:n<ev.length
 ·rw [if_pos (by omega),Qb3 hlt];have hx:=hn _ (List.getElem_mem hlt);rw [List.drop_eq_getElem_cons hlt] at he;generalize ev[n]=x at hx he ⊢;simp only [Option.bind_some];rw [Qbdh hx];simp only [Option.bind_some];simp only [Qu1] at he;by_cases h1:Q2x x.Name=false
  ·rw [if_pos h1] at he;rw [h1,if_neg (by simp),he]
  ·rw [if_neg h1] at he;rw [Bool.not_eq_false] at h1;rw [h1,if_pos rfl,hc];by_cases h2:Q2y x.Name seen=true
   ·rw [if_pos h2] at he;rw [if_pos h2,he]
   ·rw [if_neg h2] at he;rw [if_neg h2];have e3:(if x.Fault<0 then some true else some (decide (x.Fault>4)))=some (decide (x.Fault<0∨x.Fault>4)):=by
     by_cases h:x.Fault<0<;>simp [h]
    rw [e3];simp only [Option.bind_some];by_cases h3:x.Fault<0∨x.Fault>4
    ·rw [if_pos h3] at he;rw [decide_eq_true h3,if_pos rfl,he]
    ·rw [if_neg h3] at he;rw [decide_eq_false h3,if_neg (by simp)];have e4:(if x.Fault != 0 then (if x.Controllable then some true else some x.Observable) else some false)=some (decide (x.Fault≠0∧(x.Controllable=true∨x.Observable=true))):=by
      by_cases h:x.Fault=0<;>cases x.Controllable<;>cases x.Observable<;>simp [h]
     rw [e4];simp only [Option.bind_some];by_cases h4:x.Fault≠0∧(x.Controllable=true∨x.Observable=true)
     ·rw [if_pos h4] at he;rw [decide_eq_true h4,if_pos rfl,he]
     ·rw [if_neg h4] at he;rw [decide_eq_false h4,if_neg (by simp),Qbd (by omega)];exact ih _ ⟨n+1,_,_,rfl,by omega,fun k=>by rw [Qym,hc];by_cases h:k=x.Name<;>simp [h,Q2y],he⟩ (by simp only [Int.toNat_natCast];omega)
 ·rw [if_neg (by omega)];have:ev.drop n=[]:=List.drop_eq_nil_of_le (by omega);rw [this] at he;rw [← he];rfl
theorem Q39:∀ {l:List Qd} {seen:List ByteArray},Qu1 seen l=0→∀ x∈l,0≤x.Fault∧x.Fault≤4
 | [],_,_,x,hx=>by cases hx
 | y::l,seen,h,x,hx=>by
  simp only [Qu1] at h;split at h
  ·omega
  split at h
  ·omega
  split at h
  ·omega
  rename_i h3;split at h
  ·omega
  rcases List.mem_cons.1 hx with rfl|hx
  ·omega
  ·exact Q39 h x hx
theorem Qbii {ev:List Qd} {a:Qa} (hl:ev.length<big) (hn:∀ x∈ev,x.Name.size<big) (he:Qbar ev=0) (hr:Right a) (hst:a.zH≤200) (hal:∀ x∈a.zD,x<ev.length):Plt ev a:=by
 have h:=he;unfold Qbar at h;split at h
 ·omega
 exact ⟨hr,hst,hal,Q39 h,by rw [Qbas hl hn,he],by omega⟩
def obsE (ev:List Qd):List Int:=(upto ev.length).filter fun i=>match getO ev i with|some x=>x.Observable|none=>false
theorem Qs0 {ev:List Qd} (h:ev.length≤32):EvSet (obsE ev):=by
 refine ⟨fun x hx=>?_,(Q64 _).filter _⟩;have:=Q9n.1 (List.mem_filter.1 hx).1;omega
def selF (p:Qd→Bool) (ev:List Qd) (n:Nat):List Int:=((upto ev.length).drop n).filter fun i=>match getO ev i with|some x=>p x|none=>false
theorem Qbdi {p:Qd→Bool} {ev:List Qd} {n:Nat} (h:n<ev.length):selF p ev n=(if p ev[n] then [(n:Int)] else [])++selF p ev (n+1):=by
 unfold selF;rw [List.drop_eq_getElem_cons (by rw [Q0p];simpa using h),Qbeq (n:=(ev.length:Int)) (by simpa using h),List.filter_cons,Qb3 h];dsimp only;by_cases h:p ev[n]=true<;>simp [h]
theorem Q9x {p:Qd→Bool} {ev:List Qd} (hl:ev.length<big) {fuel:Nat} (hf:ev.length<fuel) {F:(List Int×Int→Option (List Int))→List Int×Int→Option (List Int)}
  (hF:∀ (k:List Int×Int→Option (List Int)) (acc:List Int) (n:Nat) (h:n<ev.length),acc.length≤n→F k (acc,(n:Int))=k (if p ev[n] then acc++[(n:Int)] else acc,IntKind.wrap .i64 ((n:Int)+1)))
  (hlast:∀ (k:List Int×Int→Option (List Int)) (acc:List Int),F k (acc,(ev.length:Int))=some acc):Qct F fuel ([],0)=some (selF p ev 0):=by
 have hb:ev.length<1000000000000:=hl;refine (Qh4 (len:=ev.length) (fun n (acc:List Int)=>(acc,(n:Int))) (fun n acc=>acc.length≤n) (fun n acc=>some (acc++selF p ev n)) ?_ ?_ fuel 0 [] (Nat.zero_le _) (by omega) (Nat.le_refl _)).trans (by simp)
 ·intro k n acc hn hi ih;rw [hF k acc n hn hi,Qbd (by omega),ih _ (by by_cases h:p ev[n]=true<;>simp [h]<;>omega),Qbdi hn];by_cases h:p ev[n]=true<;>simp [h]
 ·intro k acc _;have:selF p ev ev.length=[]:=by unfold selF;rw [List.drop_eq_nil_of_le (by rw [Q0p];simp)];rfl
  rw [hlast,this];simp
theorem Qbdj {p:Qd→Bool} {ev:List Qd} (hl:ev.length<big) {f:Qd→Option Bool} (hf:∀ x,f x=some (p x)):Qjv ev f=some (selF p ev 0):=by
 have hb:ev.length<1000000000000:=hl;unfold Qjv Qek;refine Qgc (Q9x (p:=p) hl (by unfold Qbp;omega) ?_ ?_) rfl
 ·intro k acc n hn hacc;dsimp only;rw [if_pos (by omega),Qb3 hn];simp only [Option.bind_some,hf];cases p ev[n]
  ·rfl
  ·rw [if_pos rfl,Qck (by simp only [List.length_cons,List.length_nil];unfold lim;omega)];rfl
 ·intro k acc;dsimp only;rw [if_neg (by omega)]
theorem Qwj {ev:List Qd} (hl:ev.length<big) (hc:Qf3 ev=some 0):Qdl ev=some (obsE ev):=by
 unfold Qdl Qt Qjl Qc7;rw [hc];simp only [Option.bind_some,show ((0:Int) != 0)=false from rfl,Bool.false_eq_true,if_false];rw [Qbdj (f:=Qku) (p:=fun x=>x.Observable) hl (fun x=>rfl)]
 rfl
theorem Q2z {ev:List Qd} (hl:ev.length<big):Qe7 ev=some (obsE ev):=by
 have hb:ev.length<1000000000000:=hl;unfold Qe7 Qcb;refine Qgc (Q9x (p:=fun x=>x.Observable) hl (by unfold Qbp;omega) ?_ ?_) rfl
 ·intro k acc n hn hacc;dsimp only;rw [if_pos (by omega),Qb3 hn];simp only [Option.bind_some];cases ev[n].Observable
  ·rfl
  ·rw [if_pos rfl,Qck (by simp only [List.length_cons,List.length_nil];unfold lim;omega)];rfl
 ·intro k acc;dsimp only;rw [if_neg (by omega)]
theorem Qbhb {l:List Int} {v:Int} (hl:l.length<big):Qgp l v=some (decide (v∈l)):=by
 unfold Qgp Qbt;refine (Qkj (len:=l.length) (fun k=>some (decide (v∈l.drop k))) (by unfold Qbp;unfold big at hl;omega) ?_ ?_).trans (by simp)
 ·intro k i hi ih;have hb:i<1000000000000:=by unfold big at hl;omega
  try dsimp only
  rw [if_pos (by omega),Qb3 hi,Qbd (by omega),ih,List.drop_eq_getElem_cons hi];simp only [Option.bind_some,List.mem_cons];by_cases h:l[i]=v
  ·simp [h]
  ·have:¬ v=l[i]:=fun e=>h e.symm;simp [h,this]
 ·intro k;simp
theorem Qbfr (x y:Lab):((x.State==y.State)&&((x.Classes==y.Classes)&&true))=decide (x=y):=by
 obtain ⟨s,c⟩:=x;obtain ⟨s',c'⟩:=y;rw [Bool.eq_iff_iff];simp
theorem Qbij {l:List Lab} {v:Lab} (hl:l.length<big):Qht l v=some (if v∈l then (l.idxOf v:Int) else -1):=by
 unfold Qht Qdj;refine (Qkj (len:=l.length) (fun k=>some (if v∈l.drop k then ((k+(l.drop k).idxOf v:Nat):Int) else -1)) (by unfold Qbp;unfold big at hl;omega) ?_ ?_).trans (by simp)
 ·intro k i hi ih;have hb:i<1000000000000:=by unfold big at hl;omega
  try dsimp only
  rw [if_pos (by omega),Qb3 hi,Qbd (by omega),ih,List.drop_eq_getElem_cons hi];simp only [Option.bind_some,List.mem_cons,List.idxOf_cons,Qbfr];by_cases h:v=l[i]
  ·simp [← h]
  ·have:¬ l[i]=v:=fun e=>h e.symm;have hbq:(l[i]==v)=false:=by simp [this]
   by_cases h2:v∈l.drop (i+1)<;>simp [h,h2,hbq,this];omega
 ·intro k;simp
theorem Qbik {s t:List Lab} (h:s.length<1000000000000):Qe3 s t=some (decide (s=t)):=by
 unfold Qe3 Qbo;by_cases hl:s.length=t.length
 ·rw [if_neg (by simp [hl])];have:=Q6u (ne:=fun x y:Lab=>!((x.State==y.State)&&((x.Classes==y.Classes)&&true))) (fun x y=>by rw [Qbfr];simp) hl h;simp only [← Qbie] at this;exact this
 ·rw [if_pos (by simp;omega)];have:s≠t:=fun e=>hl (by rw [e]);simp [this]
def Qwk (l:List Lab) (set:List Int):List Lab:=set.map fun i=>(getO l i).getD ⟨0,0⟩
theorem Q9y {l:List Lab} {set:List Int} (hs:set.length<big) (hr:∀ x∈set,0≤x∧x<l.length):Qfw l set=some (Qwk l set):=by
 have hb:set.length<1000000000000:=hs;unfold Qfw Qbi;refine Qgc (Qbaj (f:=fun i=>(getO l i).getD ⟨0,0⟩) hs (by unfold Qbp;omega) ?_ ?_) rfl
 ·intro k acc n hn;dsimp only;rw [if_pos (by omega),Qb3 hn];have h:=hr _ (List.getElem_mem hn);have hg:getO l set[n]=some (l[set[n].toNat]'(by omega)):=by rw [Qjq];exact ⟨h.1,List.getElem?_eq_getElem (by omega)⟩
  simp only [Option.bind_some,hg,Option.getD_some]
 ·intro k acc;dsimp only;rw [if_neg (by omega)]
end Go.Abs
end
section
namespace Go.Abs
open Go
variable {ev:List Qd} {a:Qa}
theorem Qbil (hp:Plt ev a) {S:List Lab} (hB:LbI a S) {x:Lab} (hx:x∈S) {y:Qf} (hy:y∈a.zG):Qhs ev x y=some (toL ev x y):=by
 have hb:=Qbdf hp hy;have hc:=(Qbih (hB.ok x hx).2 (Qbfq hp y.Event)).2;unfold Qjm Qeu at hb;unfold Qhs Qdi toL;cases hg:getO ev y.Event with
 | none=>rw [hg] at hb;cases hb
 | some z =>
  rw [hg] at hb;simp only [Option.bind_some] at hb ⊢;by_cases hf:z.Fault>0
  ·rw [if_pos hf] at hb ⊢;cases hs:shlO .i64 1 (IntKind.wrap .i64 (z.Fault-1)) with
   | none=>rw [hs] at hb;cases hb
   | some s =>
    rw [hs] at hb;simp only [Option.bind_some,Option.some.injEq] at hb ⊢;rw [hb]
  ·rw [if_neg hf] at hb ⊢;simp only [Option.some.injEq] at hb;rw [← hb,hc]
theorem Qbdk (hp:Plt ev a) (h0:0<a.zH) {N:Nat} (hN:LabN ev a N):Qeo ev a=some (labA ev a N,(labs ev a N).1):=by
 have hs:=hp.r.small;have hst:=hp.r.st;have hNl:=hN.le hp h0;unfold Qeo Qha;obtain ⟨fuel,hfu,hge⟩ : ∃ f,Qbp=f∧1099511627776≤f:=⟨_,rfl,Nat.le_refl _⟩;rw [hfu,if_neg (by simp;omega)];refine Qgc (x:=((labs ev a N).1,[],[],[],(labs ev a N).2.1,(labs ev a N).2.2)) ?_ (by dsimp only;rw [hN.1];rfl);refine Qdr (fun x=>∃ (n:Nat),n≤N∧x=((labs ev a n).1,(n:Int),[],[],[],(labs ev a n).2.1,(labs ev a n).2.2)) (fun x=>N-x.2.1.toNat) (fun x r=>r=some ((labs ev a N).1,[],[],[],(labs ev a N).2.1,(labs ev a N).2.2)) ?_ fuel _ ⟨0,Nat.zero_le _,rfl⟩ (by simp only [Int.toNat_zero];omega);rintro k _ ⟨n,hn,rfl⟩ ih;dsimp only;by_cases hlt:n<N
 ·have hnl:=hN.2 n hlt;have hI:=labI hp n (by omega) (fun m hm=>hN.2 m (by omega));have hB:=Q0r hp h0 n;obtain ⟨x,hx,e⟩:=Q5b hnl;have hxm:=List.mem_of_getElem? hx;have hll:=Qyo hp h0 n;have hml:(labs ev a n).2.1.length≤n:=by have:=Qgl hI.ms hI.mr;simpa using this
  have hel:=hI.el;rw [if_pos (by omega),getB hx];simp only [Option.bind_some];rw [Qbhb hs.1.2.1];simp only [Option.bind_some];refine Qgc (x:=((labs ev a (n+1)).1,(labs ev a (n+1)).2.1,(labs ev a (n+1)).2.2)) ?_ (by dsimp only;rw [Qbd (by omega)];exact ih _ ⟨n+1,by omega,rfl⟩ (by simp only;omega));refine Qgc (x:=(labs ev a (n+1)).2.1) ?_ ?_
  ·rw [e];by_cases hm:x.State∈a.zF
   ·rw [decide_eq_true hm,if_pos rfl,if_pos hm,Qck (by simp only [List.length_cons,List.length_nil];unfold lim;omega)]
    rfl
   ·rw [decide_eq_false hm,if_neg (by simp),if_neg hm]
  have hof:(outP a x.State)=a.zG.filter fun y=>y.From==x.State:=rfl;have hof2:=Q8a hp.r x.State;refine Qdr (fun z=>∃ (m:Nat) (S:List Lab) (r:List Qf),z=(S,(m:Int),r)∧m≤a.zG.length∧S[n]? = some x∧LbI a S∧r.length≤32*n+m ∧
   ((a.zG.drop m).filter fun y=>y.From==x.State).foldl (Qqv ev n x) (S,r)=((labs ev a (n+1)).1,(labs ev a (n+1)).2.2)) (fun z=>a.zG.length-z.2.1.toNat) (fun z r=>r=some ((labs ev a (n+1)).1,(labs ev a (n+1)).2.1,(labs ev a (n+1)).2.2)) ?_ fuel _ ⟨0,_,_,rfl,Nat.zero_le _,hx,hB,by omega,by rw [e,List.drop_zero,← hof]⟩ (by simp only [Int.toNat_zero];omega)
  rintro k' _ ⟨m,S,r,rfl,hm,hgs,hBS,hrl,hf⟩ ih';dsimp only;by_cases hlm:m<a.zG.length
  ·have hye:=List.getElem_mem hlm;rw [if_pos (by omega),Qb3 hlm,getB hgs];rw [List.drop_eq_getElem_cons hlm] at hf;generalize a.zG[m]=y at hye hf ⊢;simp only [Option.bind_some];rw [List.filter_cons] at hf;have hSl:=hBS.len;have hst2:=hp.st;by_cases hfr:y.From=x.State
   ·rw [if_pos (by simp [hfr])] at hf;rw [if_neg (by simp [hfr]),Qbil hp hBS (List.mem_of_getElem? hgs) hye];simp only [Option.bind_some];rw [Qbij (by unfold big;omega)];simp only [Option.bind_some];have htl:=hBS.to hp (List.mem_of_getElem? hgs) hye;rw [List.foldl_cons] at hf;by_cases hin:toL ev x y∈S
    ·have hi:Qu0 S (toL ev x y)=S:=by unfold Qu0;rw [if_pos hin]
     rw [if_pos hin,if_neg (by omega)];simp only [Option.bind_some];rw [Qck (by simp only [List.length_cons,List.length_nil];unfold lim;omega)];simp only [Option.bind_some];rw [Qbd (by omega)];refine ih' _ ⟨m+1,S,_,rfl,by omega,hgs,hBS,by rw [List.length_append];simp only [List.length_cons,List.length_nil];omega,?_⟩ (by simp only;omega);rw [← hf];unfold Qqv;rw [hi]
    ·have hi:Qu0 S (toL ev x y)=S++[toL ev x y]:=by unfold Qu0;rw [if_neg hin]
     rw [if_neg hin,if_pos (by omega),Qck (by simp only [List.length_cons,List.length_nil];unfold lim;omega)];simp only [Option.bind_some];rw [Qck (by simp only [List.length_cons,List.length_nil];unfold lim;omega)];simp only [Option.bind_some];rw [Qbd (by omega)];have hBi:=hBS.add htl;rw [hi] at hBi;refine ih' _ ⟨m+1,S++[toL ev x y],_,rfl,by omega,by rw [List.getElem?_append_left (List.getElem?_eq_some_iff.1 hgs).1];exact hgs,hBi,by rw [List.length_append];simp only [List.length_cons,List.length_nil];omega,?_⟩ (by simp only;omega);rw [← hf];unfold Qqv;rw [hi,List.idxOf_append,if_neg hin];simp
   ·rw [if_neg (by simp [hfr])] at hf;rw [if_pos (by simp [hfr])];simp only [Option.bind_some];rw [Qbd (by omega)];exact ih' _ ⟨m+1,S,r,rfl,by omega,hgs,hBS,by omega,hf⟩ (by simp only;omega)
  ·rw [if_neg (by omega)];have hd:a.zG.drop m=[]:=List.drop_eq_nil_of_le (by omega);rw [hd,List.filter_nil,List.foldl_nil,Prod.mk.injEq] at hf;obtain ⟨rfl,rfl⟩:=hf
   rfl
 ·obtain rfl:n=N:=by omega
  rw [if_neg (by have:=hN.1;omega)]
theorem Q8b (h0:a.zH=0):Qeo ev a=some (⟨a.zD,0,[],[]⟩,[]):=by
 unfold Qeo Qha;rw [if_pos (by simp [h0])]
structure Lbd (ev:List Qd) (a b:Qa) (l:List Lab):Prop where
 p:Qde ev a=some (b,l,0)
 w:Qeo ev a=some (b,l)
 r:Right b
 n:b.zH=l.length
 z:a.zH=0↔b.zH=0
 al:b.zD=a.zD
 few:l.length≤3200
theorem Qbim (hp:Plt ev a):∃ b l,Lbd ev a b l:=by
 by_cases h0:a.zH=0
 ·exact ⟨_,_,Qbaq hp h0,Q8b h0,⟨hp.r.al0,hp.r.al,⟨Int.le_refl _,by simp⟩,fun x hx=>by simp at hx,List.Pairwise.nil,fun x hx=>by simp at hx,List.Pairwise.nil⟩,rfl,by simp [h0],rfl,by simp⟩
 ·have hpos:0<a.zH:=by have:=hp.r.st;omega
  obtain ⟨N,hN⟩:=Qbha hp hpos;have h1:1≤N:=by
   rcases Nat.eq_zero_or_pos N with h|h
   ·subst h;have:=hN.1;simp [labs] at this
   ·exact h
  have:=hN.le hp hpos;exact ⟨_,_,Qbew hp hpos hN,Qbdk hp hpos hN,Qbap hp hpos hN,by rw [hN.1];rfl,by simp [labA];omega,rfl,by rw [hN.1];exact this⟩
end Go.Abs
end
section
namespace Go.Abs
open Go
def nmE (n:Nat):ByteArray:=strB [IntKind.wrap .u8 (97+IntKind.wrap .u8 (n:Int))]
def mkEv (n:Nat) (x:Int):Qd:=if 48≤x∧x<52 then ⟨nmE n,false,false,false,x-47⟩ else ⟨nmE n,andI .u8 x 1==1,andI .u8 x 2==2,andI .u8 x 4==4,0⟩
def evL:Nat→List Int→List Qd
 | _,[]=>[]
 | n,x::t=>mkEv n x::evL (n+1) t
theorem Q7c (n:Nat) (x:Int):(mkEv n x).Name=nmE n:=by unfold mkEv;split<;>rfl
theorem Qbhc {n:Nat} {x:Int} (hx:0≤x∧x<256):(0≤(mkEv n x).Fault∧(mkEv n x).Fault≤4)∧((mkEv n x).Fault≠0→(mkEv n x).Controllable=false∧(mkEv n x).Observable=false):=by
 unfold mkEv;split
 ·exact ⟨⟨by dsimp only;omega,by dsimp only;omega⟩,fun _=>⟨rfl,rfl⟩⟩
 ·exact ⟨⟨by simp,by simp⟩,fun h=>absurd rfl h⟩
theorem Qbin {F:Int×Int×Int×Int×Int} {n:Nat} {x:Int} (h:[F.1,F.2.1,F.2.2.1,F.2.2.2.1,F.2.2.2.2][n]? = some x):rowO [F.1,F.2.1,F.2.2.1,F.2.2.2.1,F.2.2.2.2] (Int.toNat (n:Int)*1)=some x:=by
 unfold rowO;rw [Int.toNat_natCast,Nat.mul_one];exact h
theorem Qbat {F:Int×Int×Int×Int×Int} (hF:∀ x∈[F.1,F.2.1,F.2.2.1,F.2.2.2.1,F.2.2.2.2],0≤x∧x<256):Qgv F=some (evL 0 [F.1,F.2.1,F.2.2.1,F.2.2.2.1,F.2.2.2.2]):=by
 unfold Qgv Qc1;obtain ⟨fuel,hfu,hge⟩ : ∃ f,Qbp=f∧1099511627776≤f:=⟨_,rfl,Nat.le_refl _⟩;rw [hfu];have hL:[F.1,F.2.1,F.2.2.1,F.2.2.2.1,F.2.2.2.2].length=5:=rfl;have hat:=fun n x=>Qbin (F:=F) (n:=n) (x:=x);generalize [F.1,F.2.1,F.2.2.1,F.2.2.2.1,F.2.2.2.2]=L at hF hL hat ⊢;refine Qgc (x:=evL 0 L) ?_ rfl;refine (Qh4 (len:=5) (fun n (acc:List Qd)=>(acc,(n:Int))) (fun n acc=>acc.length=n) (fun n acc=>some (acc++evL n (L.drop n))) ?_ ?_ fuel 0 [] (by omega) (by omega) rfl).trans (by simp)
 ·intro k n acc hn hi ih;have hlt:n<L.length:=by omega
  have hx:=hF _ (List.getElem_mem hlt);have hr:=hat n _ (List.getElem?_eq_getElem hlt);have hin:inO 5 (n:Int)=some ():=by unfold inO;rw [if_pos ⟨by omega,by omega⟩]
  rw [List.drop_eq_getElem_cons hlt];generalize L[n]=x at hx hr ⊢;dsimp only;rw [if_pos (by omega),hin];simp only [Option.bind_some,hr];have hfin:(appO acc [mkEv n x]).bind (fun x33=>k (x33,IntKind.wrap .i64 ((n:Int)+1)))=some (acc++evL n (x::L.drop (n+1))):=by
   rw [Qck (by simp only [List.length_cons,List.length_nil];unfold lim;omega),Option.bind_some,Qbd (by omega),ih _ (by simp [hi])];simp [evL]
  by_cases h1:x≥48
  ·rw [if_pos h1];simp only [Option.bind_some];by_cases h2:x<52
   ·rw [decide_eq_true h2,if_pos rfl];simp only [Option.bind_some];rw [show IntKind.wrap .i64 ((IntKind.wrap .i64 x)-47)=x-47 from by rw [Qnk (x:=x) (by omega) (by omega),Qnk (by omega) (by omega)]];have:mkEv n x=⟨nmE n,false,false,false,x-47⟩:=by unfold mkEv;rw [if_pos ⟨h1,h2⟩]
    rw [this] at hfin;exact hfin
   ·rw [decide_eq_false h2,if_neg (by simp)];simp only [Option.bind_some];have:mkEv n x=⟨nmE n,andI .u8 x 1==1,andI .u8 x 2==2,andI .u8 x 4==4,0⟩:=by unfold mkEv;rw [if_neg (by omega)]
    rw [this] at hfin;exact hfin
  ·rw [if_neg h1];simp only [Option.bind_some];rw [if_neg (by simp)];simp only [Option.bind_some];have:mkEv n x=⟨nmE n,andI .u8 x 1==1,andI .u8 x 2==2,andI .u8 x 4==4,0⟩:=by unfold mkEv;rw [if_neg (by omega)]
   rw [this] at hfin;exact hfin
 ·intro k acc hi;dsimp only;rw [if_neg (by omega),List.drop_eq_nil_of_le (by omega)];simp [evL]
theorem Qu2 {seen:List ByteArray} {n:Nat} {x:Int} {l:List Qd} (hx:0≤x∧x<256) (h1:Q2x (nmE n)=true) (h2:Q2y (nmE n) seen=false):Qu1 seen (mkEv n x::l)=Qu1 (nmE n::seen) l:=by
 obtain ⟨h3,h4⟩:=Qbhc (n:=n) hx;simp only [Qu1,Q7c];rw [if_neg (by simp [h1]),if_neg (by simp [h2]),if_neg (by omega),if_neg];rintro ⟨h5,h6⟩;obtain ⟨h7,h8⟩:=h4 h5;rw [h7,h8] at h6;simp at h6
theorem Qbex:(Q2x (nmE 0)&&Q2x (nmE 1)&&Q2x (nmE 2)&&Q2x (nmE 3)&&Q2x (nmE 4) && !Q2y (nmE 0) [] && !Q2y (nmE 1) [nmE 0] && !Q2y (nmE 2) [nmE 1,nmE 0] && !Q2y (nmE 3) [nmE 2,nmE 1,nmE 0] && !Q2y (nmE 4) [nmE 3,nmE 2,nmE 1,nmE 0])=true:=by kernel_rfl
theorem Qbey:(decide ((nmE 0).size=1)&&decide ((nmE 1).size=1)&&decide ((nmE 2).size=1)&&decide ((nmE 3).size=1)&&decide ((nmE 4).size=1))=true:=by kernel_rfl
structure Evf (ev:List Qd):Prop where
 len:ev.length=5
 err:Qbar ev=0
 nm:∀ x∈ev,x.Name.size<big
theorem Qbio {F:Int×Int×Int×Int×Int} (hF:∀ x∈[F.1,F.2.1,F.2.2.1,F.2.2.2.1,F.2.2.2.2],0≤x∧x<256):Evf (evL 0 [F.1,F.2.1,F.2.2.1,F.2.2.2.1,F.2.2.2.2]):=by
 obtain ⟨a,b,c,d,e⟩:=F;have hn:=Qbex;have hz:=Qbey;simp only [Bool.and_eq_true,Bool.not_eq_true',decide_eq_true_eq] at hn hz;simp only [List.mem_cons,List.not_mem_nil,or_false,forall_eq_or_imp,forall_eq] at hF;refine ⟨rfl,?_,?_⟩
 ·unfold Qbar;rw [if_neg (by simp [evL])];simp only [evL];rw [Qu2 hF.1 (by simp [hn]) (by simp [hn]),Qu2 hF.2.1 (by simp [hn]) (by simp [hn]),Qu2 hF.2.2.1 (by simp [hn]) (by simp [hn]),Qu2 hF.2.2.2.1 (by simp [hn]) (by simp [hn]),Qu2 hF.2.2.2.2 (by simp [hn]) (by simp [hn])]
  rfl
 ·intro x hx;simp only [evL,List.mem_cons,List.not_mem_nil,or_false] at hx;rcases hx with rfl|rfl|rfl|rfl|rfl<;>rw [Q7c]<;>(try simp only [Nat.zero_add,Nat.reduceAdd])<;>unfold big<;>omega
structure Qbdl (p:Qbs):Prop where
 ev:0≤p.Events∧p.Events<256
 gr:Qbfp p.Graph
 fl:∀ x∈[p.Flags.1,p.Flags.2.1,p.Flags.2.2.1,p.Flags.2.2.2.1,p.Flags.2.2.2.2],0≤x∧x<256
theorem Qbez {p:Qbs} (hp:Qbdl p):∃ ev a,Qhr p=some (ev,a)∧Plt ev a∧Evf ev∧a.zH≤5∧Evs a.zD∧a.zD.length≤5:=by
 obtain ⟨al,hal,hE⟩:=Qbc9 hp.ev.1 hp.ev.2;obtain ⟨m,hm,rfl,hmk,hst⟩:=Qbg5 hE hp.gr;have hev:=Qbio hp.fl;refine ⟨_,Qux m,?_,?_,hev,?_,hE,hE.len⟩
 ·unfold Qhr Qdh;rw [Qbat hp.fl];simp only [Option.bind_some];rw [hal];simp only [Option.bind_some];rw [hmk];rfl
 ·refine Qbii (by rw [hev.len];decide) hev.nm hev.err (Q60 hm) ?_ (fun x hx=>by rw [hev.len];have:=hE.rg x hx;omega);have h1:=(Qve hm).1.len;simp only [Qux];omega
 ·have h1:=(Qve hm).1.len;simp only [Qux];omega
end Go.Abs
end
section
namespace Go.Proofs
open Go Go.Abs
theorem Qbe0 {x:Int} (h:wfI .u8 x):0≤x∧x<256:=by
 unfold wfI at h;simp [Lit.wf,IntKind.min,IntKind.max,IntKind.bits,IntKind.signed] at h;omega
theorem Qbis {p:Qbs} (h:W_29 p):Qbdl p:=by
 unfold W_29 W_22 W_26 W_24 W_23 W_27 W_5 at h;obtain ⟨h0,⟨h1,h2,⟨a1,a2,a3,a4,a5⟩,⟨b1,b2,b3,b4,b5⟩,⟨c1,c2,c3,c4,c5⟩,⟨d1,d2,d3,d4,d5⟩,⟨e1,e2,e3,e4,e5⟩⟩,f1,f2,f3,f4,f5⟩:=h;refine ⟨Qbe0 h0,⟨Qbe0 h1,fun x hx=>?_⟩,fun x hx=>?_⟩
 ·simp only [List.mem_cons,List.not_mem_nil,or_false] at hx;rcases hx with rfl|rfl|rfl|rfl|rfl|rfl|rfl|rfl|rfl|rfl|rfl|rfl|rfl|rfl|rfl|rfl|rfl|rfl|rfl|rfl|rfl|rfl|rfl|rfl|rfl<;>exact Qbe0 (by assumption)
 ·simp only [List.mem_cons,List.not_mem_nil,or_false] at hx;rcases hx with rfl|rfl|rfl|rfl|rfl<;>exact Qbe0 (by assumption)
end Go.Proofs
end
section
namespace Go.Abs
open Go
structure Mrg (kp:Bool→Bool→Bool) (l m a b out:List Int):Prop where
 sa:a.Pairwise (· < ·)
 sb:b.Pairwise (· < ·)
 so:out.Pairwise (· < ·)
 oa:∀ o∈out,∀ x∈a,o<x
 ob:∀ o∈out,∀ x∈b,o<x
 ln:out.length+a.length+b.length<big
 eq:∀ x,(x∈out∨kp (decide (x∈a)) (decide (x∈b))=true)↔kp (decide (x∈l)) (decide (x∈m))=true
theorem Mrg.step {kp:Bool→Bool→Bool} (h0:kp false false=false) {l m a b out a' b' : List Int} {z:Int} {p q:Bool} (h:Mrg kp l m a b out) (ha:a=if p then z::a' else a') (hb:b=if q then z::b' else b') (hpq:p=true∨q=true)
  (hza:∀ x∈a',z<x) (hzb:∀ x∈b',z<x):Mrg kp l m a' b' (if kp p q then out++[z] else out):=by
 have ma:∀ x,x∈a↔(p=true∧x=z)∨x∈a':=fun x=>by rw [ha];cases p<;>simp
 have mb:∀ x,x∈b↔(q=true∧x=z)∨x∈b':=fun x=>by rw [hb];cases q<;>simp
 have hoz:∀ o∈out,o<z:=fun o ho=>by
  rcases hpq with rfl|rfl
  ·exact h.oa o ho z ((ma z).2 (.inl ⟨rfl,rfl⟩))
  ·exact h.ob o ho z ((mb z).2 (.inl ⟨rfl,rfl⟩))
 have hm:∀ o,o∈(if kp p q then out++[z] else out)↔o∈out∨(kp p q=true∧o=z):=fun o=>by cases kp p q<;>simp
 have hza' : z∉a':=fun hx=>by have:=hza z hx;omega
 have hzb' : z∉b':=fun hx=>by have:=hzb z hx;omega
 refine ⟨?_,?_,?_,?_,?_,?_,fun x=>?_⟩
 ·have:=h.sa;rw [ha] at this;cases p
  ·exact this
  ·exact (List.pairwise_cons.1 this).2
 ·have:=h.sb;rw [hb] at this;cases q
  ·exact this
  ·exact (List.pairwise_cons.1 this).2
 ·cases kp p q
  ·exact h.so
  ·simp only [if_true];rw [List.pairwise_append];exact ⟨h.so,by simp,fun o ho y hy=>by simp at hy;subst hy;exact hoz o ho⟩
 ·intro o ho x hx;rcases (hm o).1 ho with ho|⟨_,rfl⟩
  ·exact h.oa o ho x ((ma x).2 (.inr hx))
  ·exact hza x hx
 ·intro o ho x hx;rcases (hm o).1 ho with ho|⟨_,rfl⟩
  ·exact h.ob o ho x ((mb x).2 (.inr hx))
  ·exact hzb x hx
 ·have h1:=h.ln;have h2:a.length=a'.length+if p then 1 else 0:=by rw [ha];cases p<;>simp
  have h3:b.length=b'.length+if q then 1 else 0:=by rw [hb];cases q<;>simp
  have h4:(if kp p q then out++[z] else out).length≤out.length+1:=by split<;>simp
  rcases hpq with rfl|rfl<;>simp at h2 h3<;>omega
 ·rw [← h.eq x,hm];by_cases hx:x=z
  ·subst hx;have e1:decide (x∈a)=p:=by rw [Bool.eq_iff_iff,decide_eq_true_eq,ma];simp [hza']
   have e2:decide (x∈b)=q:=by rw [Bool.eq_iff_iff,decide_eq_true_eq,mb];simp [hzb']
   rw [e1,e2,decide_eq_false hza',decide_eq_false hzb',h0];simp
  ·have e1:decide (x∈a)=decide (x∈a'):=decide_eq_decide.2 (by rw [ma];simp [hx]);have e2:decide (x∈b)=decide (x∈b'):=decide_eq_decide.2 (by rw [mb];simp [hx]);rw [e1,e2];simp [hx]
theorem Qbe1 {kp:Bool→Bool→Bool} {keep:Bool→Bool→Option Bool} (hk:∀ p q,keep p q=some (kp p q)) (h0:kp false false=false) {l m:List Int} (hl:l.Pairwise (· < ·)) (hm:m.Pairwise (· < ·)) (hlm:l.length+m.length<big) :
  ∃ R,Qkn l m keep=some R∧R.Pairwise (· < ·)∧∀ x,x∈R↔kp (decide (x∈l)) (decide (x∈m))=true:=by
 unfold Qkn Qe4;obtain ⟨fuel,hfu,hge⟩ : ∃ f,Qbp=f∧1099511627776≤f:=⟨_,rfl,Nat.le_refl _⟩;rw [hfu];have hg:∀ (x:Int) (l:List Int),getO (x::l) 0=some x:=fun x l=>Qb3 (l:=x::l) (n:=0) (by simp);have hd:∀ (x:Int) (l:List Int),slcO (x::l) 1 ((x::l).length:Int)=some l:=fun x l=>by
  have:=Q9j (l:=x::l) (i:=1) (j:=(x::l).length) (by simp) (by simp);rw [List.take_length] at this;exact this
 have key:=Qdr (F:=fun (k14:List Int×List Int×List Int→Option (List Int)) ((a11,b12,out13):(List Int)×(List Int)×(List Int))=>(((if ((a11.length:Int)>0) then some true else some (decide ((b12.length:Int)>0)))).bind fun (x16:Bool)=>(if x16 then (((if ((a11.length:Int)>0) then (if ((b12.length:Int)==0) then some true else ((getO a11 0).bind fun x20=>((getO b12 0).bind fun x22=>some (decide (x20≤x22))))) else some false)).bind fun (inA24:Bool)=>(((if ((b12.length:Int)>0) then (if ((a11.length:Int)==0) then some true else ((getO b12 0).bind fun x27=>((getO a11 0).bind fun x29=>some (decide (x27≤x29))))) else some false)).bind fun (inB31:Bool)=>(((if inA24 then ((getO a11 0).bind fun x33=>((slcO a11 1 (a11.length:Int)).bind fun x35=>some (x35,x33))) else some (a11,0))).bind fun ((a37,x38):(List Int)×Int)=>(((if inB31 then ((getO b12 0).bind fun x40=>((slcO b12 1 (b12.length:Int)).bind fun x42=>some (x42,x40))) else some (b12,x38))).bind fun ((b44,x45):(List Int)×Int)=>((keep inA24 inB31).bind fun x47=>(if x47 then ((appO out13 [x45]).bind fun x49=>k14 (a37,b44,x49)) else k14 (a37,b44,out13))))))) else some out13)))
  (fun x:List Int×List Int×List Int=>Mrg kp l m x.1 x.2.1 x.2.2) (fun x=>x.1.length+x.2.1.length) (fun _ r=>∃ R,r=some R∧R.Pairwise (· < ·)∧∀ x,x∈R↔kp (decide (x∈l)) (decide (x∈m))=true) ?_ fuel (l,m,[]) ⟨hl,hm,by simp,by simp,by simp,by simpa using hlm,by simp⟩ (by unfold big at hlm;dsimp only;omega)
 ·obtain ⟨R,h1,h2,h3⟩:=key;exact ⟨R,by rw [h1];rfl,h2,h3⟩
 rintro k ⟨a,b,out⟩ h ih;dsimp only at h ih ⊢;have hln:=h.ln;have happ:∀ z:Int,out.length+1≤big→appO out [z]=some (out++[z]):=fun z hz=>Qck (by simp only [List.length_cons,List.length_nil];unfold lim;unfold big at hz;omega);have fin:∀ (a' b' : List Int) (z:Int) (p q:Bool),out.length+1≤big→Mrg kp l m a' b' (if kp p q then out++[z] else out)→a'.length+b'.length<a.length+b.length →
   ∃ R,((keep p q).bind fun x47=>if x47 then ((appO out [z]).bind fun x49=>k (a',b',x49)) else k (a',b',out))=some R∧R.Pairwise (· < ·)∧∀ x,x∈R↔kp (decide (x∈l)) (decide (x∈m))=true:=by
  intro a' b' z p q hz hM hlt;rw [hk,happ z hz];simp only [Option.bind_some];have:=ih (a',b',if kp p q then out++[z] else out) hM hlt;cases hkp:kp p q<;>simp only [hkp,Bool.false_eq_true,if_false,if_true] at this ⊢ <;> exact this
 match a,b,h,fin,hln with
 | [],[],h,fin,hln =>
  refine ⟨out,by simp,h.so,fun x=>?_⟩;rw [← h.eq x];simp [h0]
 | [],y::ys,h,fin,hln =>
  rw [show ((([]:List Int).length:Nat):Int)=0 from rfl];have hp:(((y::ys).length:Nat):Int)>0:=by simp only [List.length_cons];omega
  rw [if_neg (by omega),Option.bind_some,if_pos (by simp)];rw [if_neg (by omega),Option.bind_some,if_pos hp,if_pos (by rfl),Option.bind_some,if_neg (by simp),Option.bind_some,if_pos rfl,hg,hd];simp only [Option.bind_some];exact fin [] ys y false true (by simp only [List.length_cons] at hln;omega) (h.step h0 (z:=y) (p:=false) (q:=true) rfl rfl (.inr rfl) (by simp) (List.pairwise_cons.1 h.sb).1) (by simp)
 | x::xs,[],h,fin,hln =>
  rw [show ((([]:List Int).length:Nat):Int)=0 from rfl];have hp:(((x::xs).length:Nat):Int)>0:=by simp only [List.length_cons];omega
  rw [if_pos hp,Option.bind_some,if_pos rfl,if_pos hp,if_pos (by rfl),Option.bind_some,if_neg (by omega),Option.bind_some,if_pos rfl,hg,hd];simp only [Option.bind_some,Bool.false_eq_true,if_false];exact fin xs [] x true false (by simp only [List.length_cons] at hln;omega) (h.step h0 (z:=x) (p:=true) (q:=false) rfl rfl (.inl rfl) (List.pairwise_cons.1 h.sa).1 (by simp)) (by simp)
 | x::xs,y::ys,h,fin,hln =>
  obtain ⟨ha1,ha2⟩:=List.pairwise_cons.1 h.sa;obtain ⟨hb1,hb2⟩:=List.pairwise_cons.1 h.sb;have hp:(((x::xs).length:Nat):Int)>0:=by simp only [List.length_cons];omega
  have hq:(((y::ys).length:Nat):Int)>0:=by simp only [List.length_cons];omega
  have hp0:((((x::xs).length:Nat):Int)==0)=false:=by simp only [beq_eq_false_iff_ne];omega
  have hq0:((((y::ys).length:Nat):Int)==0)=false:=by simp only [beq_eq_false_iff_ne];omega
  rw [if_pos hp,Option.bind_some,if_pos rfl,if_pos hp,if_neg (by rw [hq0];simp),hg,hg,Option.bind_some,Option.bind_some,Option.bind_some,if_pos hq,if_neg (by rw [hp0];simp),Option.bind_some,Option.bind_some,Option.bind_some,hd,hd];simp only [List.length_cons] at hln;rcases Int.lt_trichotomy x y with hxy|rfl|hxy
  ·have e1:decide (x≤y)=true:=decide_eq_true (by omega);have e2:decide (y≤x)=false:=decide_eq_false (by omega);simp only [e1,e2,Option.bind_some,if_true,Bool.false_eq_true,if_false];exact fin xs (y::ys) x true false (by omega) (h.step h0 (z:=x) (p:=true) (q:=false) rfl rfl (.inl rfl) ha1 (fun z hz=>by
    rcases List.mem_cons.1 hz with rfl|hz
    ·exact hxy
    ·have:=hb1 z hz;omega)) (by simp)
  ·have e1:decide (x≤x)=true:=decide_eq_true (by omega);simp only [e1,Option.bind_some,if_true];exact fin xs ys x true true (by omega) (h.step h0 (z:=x) (p:=true) (q:=true) rfl rfl (.inl rfl) ha1 hb1) (by simp;omega)
  ·have e1:decide (x≤y)=false:=decide_eq_false (by omega);have e2:decide (y≤x)=true:=decide_eq_true (by omega);simp only [e1,e2,Option.bind_some,if_true,Bool.false_eq_true,if_false];exact fin (x::xs) ys y false true (by omega) (h.step h0 (z:=y) (p:=false) (q:=true) rfl rfl (.inr rfl) (fun z hz=>by
    rcases List.mem_cons.1 hz with rfl|hz
    ·exact hxy
    ·have:=ha1 z hz;omega) hb1) (by simp)
end Go.Abs
end
section
namespace Go.Abs
open Go
theorem Qz4 {l m:List Int} (hl:l.Pairwise (· < ·)) (hm:m.Pairwise (· < ·)) (hlm:l.length+m.length<big) :
  ∃ R,Qf7 l m=some R∧R.Pairwise (· < ·)∧∀ x,x∈R↔x∈l∧x∈m:=by
 unfold Qf7 Qbv;obtain ⟨R,h1,h2,h3⟩:=Qbe1 (kp:=fun p q=>p&&q) (keep:=Qiu) (fun p q=>by cases p<;>cases q<;>rfl) rfl hl hm hlm;exact ⟨R,by rw [h1];rfl,h2,fun x=>by rw [h3];simp⟩
end Go.Abs
end
section
namespace Go.Abs
open Go
theorem Sts.err {a:Qa} {l:List Int} (h:Sts a l):Qgr a.zH none l=0:=Qjr.2 ⟨h.rg,h.so,fun y hy=>by cases hy⟩
theorem Sts.big {a:Qa} (ha:Right a) {l:List Int} (h:Sts a l):l.length<Abs.big:=by have:=h.len;have:=ha.st;unfold Abs.big;omega
theorem EvSet.big {l:List Int} (h:EvSet l):l.length<Abs.big:=by have:=h.len;unfold Abs.big;omega
theorem Qxh {a:Qa} (h:Right a) {onto obs:List Int} (ho:EvSet onto) (hl:obs.length<big):Qfr a onto obs=some (if (obs.all fun x=>decide (x∈Qsz a onto))=true then (estP a onto obs,0) else ([],9)):=by
 have hst:=h.st;unfold Qfr Qbq;rw [Qz2 h ho.big,ho.err];simp only [Option.bind_some,show ((0:Int) != 0)=false from rfl,Bool.false_eq_true,if_false];rw [Q34 h ho.big];simp only [Option.bind_some];rw [Q2n h hl];simp only [Option.bind_some];by_cases hk:(obs.all fun x=>decide (x∈Qsz a onto))=true
 ·rw [if_pos hk,if_pos hk,Qbet h onto];simp only [Option.bind_some];refine Qgc (x:=estP a onto obs) ?_ rfl;refine (Q33 (l:=obs) (fun n (s:List Int)=>(s,(n:Int))) (Qv6 a onto) (fun s=>some s) (fun n s=>Sts a s) ?_ ?_ (by unfold Qbp;unfold Abs.big at hl;omega) _ (Qzk a onto)).trans rfl
  ·intro k n hn s hs;refine ⟨Q2m _ _ _ _,?_⟩;have:=hs.len;dsimp only;rw [if_pos (by omega),Qb3 hn];simp only [Option.bind_some];rw [Q37 h hs.rg (by omega)];simp only [Option.bind_some];rw [Qbd (by unfold Abs.big at hl;omega)]
  ·intro k s _;dsimp only;rw [if_neg (by omega)]
 ·rw [if_neg hk,if_neg hk]
theorem Q0s {a:Qa} {onto:List Int}:∀ (obs:List Int),Sts a (estP a onto obs):=by
 intro obs;unfold estP;rcases List.eq_nil_or_concat obs with rfl|⟨l,x,rfl⟩
 ·exact Qzk _ _
 ·rw [List.concat_eq_append,List.foldl_append];exact Q2m _ _ _ _
theorem Q7d {a:Qa} {o o' : List Int} (h:∀ x∈a.zD,x∈o↔x∈o'):Qsz a o=Qsz a o'∧Ql8 a o=Ql8 a o':=by
 unfold Qsz Ql8;exact ⟨List.filter_congr fun x hx=>decide_eq_decide.2 (h x hx),List.filter_congr fun x hx=>by rw [decide_eq_decide.2 (h x hx)]⟩
theorem Q2r {a:Qa} {o o' : List Int} (h:∀ x∈a.zD,x∈o↔x∈o') (w:List Int):estP a o w=estP a o' w:=by
 have e:=(Q7d h).2;have h1:Qv6 a o=Qv6 a o':=by funext s x;unfold Qv6;rw [e]
 unfold estP Qwi;rw [h1,e]
def okW (ev:List Qd) (a:Qa) (w:List Int):Bool:=w.all fun x=>decide (x∈obsE ev)&&decide (x∈a.zD)
theorem Q8c {ev:List Qd} {a:Qa} {w:List Int} (he:ev.length≤32) (ha:a.zD.length<big) (hw:w.length<big):Qfx ev a w=some (if okW ev a w then 0 else 9):=by
 have hb:w.length<1000000000000:=hw;unfold Qfx Qcn okW;refine (Qkj (len:=w.length) (fun k=>some (if (w.drop k).all (fun x=>decide (x∈obsE ev)&&decide (x∈a.zD)) then 0 else 9)) (by unfold Qbp;omega) ?_ ?_).trans (by simp)
 ·intro k i hi ih
  try dsimp only
  rw [if_pos (by omega),Q2z (by unfold big;omega)];simp only [Option.bind_some];rw [Qb3 hi];simp only [Option.bind_some];rw [Qbhb (Qs0 he).big];simp only [Option.bind_some];rw [Qbd (by omega),ih,List.drop_eq_getElem_cons hi,List.all_cons];by_cases h1:w[i]∈obsE ev
  ·rw [decide_eq_true h1,if_pos rfl,Qbhb ha];simp only [Option.bind_some];by_cases h2:w[i]∈a.zD<;>simp [h2]
  ·rw [decide_eq_false h1,if_neg (by simp)];simp
 ·intro k;simp
theorem Q7e {w:List Int} {f:Int→Option Bool} {p:Int→Bool} (hf:∀ x,f x=some (p x)) (hw:w.length<big):Qcg w f=some (w.any p):=by
 have hb:w.length<1000000000000:=hw;unfold Qcg Qw Qgu Qcl;obtain ⟨fuel,hfu,hge⟩ : ∃ f,Qbp=f∧1099511627776≤f:=⟨_,rfl,Nat.le_refl _⟩;rw [hfu];have hloop:∀ (F:(Int→Option Int)→Int→Option Int),(∀ k (i:Nat) (hi:i<w.length),F k (i:Int)=if p w[i] then some (i:Int) else k (IntKind.wrap .i64 ((i:Int)+1)))→(∀ k,F k (w.length:Int)=some (-1))→∃ z,Qct F fuel 0=some z∧(decide (z≥0))=w.any p:=by
  intro F h1 h2;refine Qdr (fun x=>∃ n:Nat,x=(n:Int)∧n≤w.length∧(w.drop n).any p=w.any p) (fun x=>w.length-x.toNat) (fun x r=>∃ z,r=some z∧(decide (z≥0))=w.any p) ?_ fuel _ ⟨0,rfl,Nat.zero_le _,by simp⟩ (by omega);rintro k _ ⟨n,rfl,hn,he⟩ ih;by_cases hlt:n<w.length
  ·rw [h1 k n hlt];rw [List.drop_eq_getElem_cons hlt,List.any_cons] at he;by_cases hp:p w[n]=true
   ·rw [if_pos hp];rw [hp,Bool.true_or] at he;exact ⟨_,rfl,by rw [← he];simp⟩
   ·rw [if_neg hp,Qbd (by omega)];rw [Bool.not_eq_true] at hp;rw [hp,Bool.false_or] at he;exact ih _ ⟨n+1,rfl,by omega,he⟩ (by simp only [Int.toNat_natCast];omega)
  ·obtain rfl:n=w.length:=by omega
   rw [h2];rw [List.drop_eq_nil_of_le (Nat.le_refl _)] at he;exact ⟨-1,rfl,by rw [← he];rfl⟩
 have key' : ∀ (F:(Int→Option Int)→Int→Option Int),(∀ k (i:Nat) (hi:i<w.length),F k (i:Int)=if p w[i] then some (i:Int) else k (IntKind.wrap .i64 ((i:Int)+1)))→(∀ k,F k (w.length:Int)=some (-1))→((Qct F fuel 0).bind fun x13=>some (decide (x13≥0)))=some (w.any p):=fun F h1 h2=>by
  obtain ⟨z,h3,h4⟩:=hloop F h1 h2;rw [h3,← h4];rfl
 refine key' _ ?_ ?_
 ·intro k i hi;rw [if_pos (by omega),Qb3 hi];simp only [Option.bind_some,hf]
 ·intro k;rw [if_neg (by omega)]
section
variable {ev:List Qd} {a b:Qa} {l:List Lab}
theorem Qz5 (hp:Plt ev a) (hb:Lbd ev a b l) {w:List Int} (hw:w.length<big):Qd5 ev a w=some (if okW ev a w then (Qwk l (estP b (obsE ev) w),0) else ([],9)):=by
 have hs:=hp.r.small;have hol:=(Qs0 hp.len).len;unfold Qd5 Q5;rw [Q2q hp];simp only [Option.bind_some,show ((0:Int) != 0)=false from rfl,Bool.false_eq_true,if_false];rw [Qwj (by have:=hp.len;unfold big;omega) hp.chk];simp only [Option.bind_some];obtain ⟨R,h1,h2,h3⟩:=Qz4 (Qs0 hp.len).so hp.r.al (by unfold big;omega);rw [h1];simp only [Option.bind_some];have hR:EvSet R:=⟨fun x hx=>(Qs0 hp.len).rg x ((h3 x).1 hx).1,h2⟩;rw [Q7e (p:=fun x=>!decide (x∈R)) (fun x=>by unfold Qiv Qc0;rw [Q5a h2 hR.big];rfl) hw];have hany:(w.any fun x=>!decide (x∈R)) = !okW ev a w:=by
  unfold okW;rw [List.not_all_eq_any_not];congr 1;funext x;congr 1;rw [← Bool.decide_and,decide_eq_decide];exact h3 x
 simp only [Option.bind_some];rw [hany];by_cases hk:okW ev a w=true
 ·rw [if_neg (by simp [hk]),if_pos hk,hb.p];simp only [Option.bind_some,show ((0:Int) != 0)=false from rfl,Bool.false_eq_true,if_false];have hall:(w.all fun x=>decide (x∈Qsz b R))=true:=by
   rw [List.all_eq_true];intro x hx;have:=List.all_eq_true.1 hk x hx;rw [decide_eq_true_eq,Qsz,List.mem_filter,hb.al];simp only [Bool.and_eq_true,decide_eq_true_eq] at this ⊢;exact ⟨this.2,(h3 x).2 this⟩
  rw [Qxh hb.r hR hw,if_pos hall];simp only [Option.bind_some];have hsm:∀ x∈b.zD,x∈R↔x∈obsE ev:=fun x hx=>⟨fun h=>((h3 x).1 h).1,fun h=>(h3 x).2 ⟨h,by rw [← hb.al];exact hx⟩⟩;rw [Q2r hsm];have hS:=Q0s (a:=b) (onto:=obsE ev) w;rw [Q9y (hS.big hb.r) (fun x hx=>by have:=hS.rg x hx;have:=hb.n;omega)]
  rfl
 ·rw [Bool.not_eq_true] at hk;rw [hk]
  rfl
end
theorem Q8d (l:List Lab) (s:List Int):(Qwk l s).length=s.length:=by simp [Qwk]
def bitC (c:Int) (x:Lab):Int:=andI .i64 (x.Classes.fdiv (2 ^ (min (IntKind.wrap .i64 (c-1)).toNat IntKind.i64.bits))) 1
theorem Qbhd (s:Int):0≤andI .i64 s 1∧andI .i64 s 1≤1:=by
 unfold andI;have h:((BitVec.ofInt IntKind.i64.bits s) &&& (BitVec.ofInt IntKind.i64.bits 1)).toNat≤1:=by
  rw [BitVec.toNat_and];have:(BitVec.ofInt IntKind.i64.bits 1).toNat=1:=by decide
  rw [this,Nat.and_one_is_mod];omega
 generalize ((BitVec.ofInt IntKind.i64.bits s) &&& (BitVec.ofInt IntKind.i64.bits 1)).toNat=n at h;rw [Qnk (by omega) (by omega)];omega
def cntC (c:Int) (l:List Lab):Int:=(l.map (bitC c)).sum
theorem Qbe2 {c:Int} (hc:0≤IntKind.wrap .i64 (c-1)) {l:List Lab} (hl:l.length<big) {fuel:Nat} (hf:l.length<fuel) {F:(Int×Int→Option Int)→Int×Int→Option Int}
  (hF:∀ (k:Int×Int→Option Int) (n:Int) (i:Nat) (h:i<l.length),F k (n,(i:Int))=((shrO .i64 l[i].Classes (IntKind.wrap .i64 (c-1))).bind fun s=>k (IntKind.wrap .i64 (n+andI .i64 s 1),IntKind.wrap .i64 ((i:Int)+1))))
  (hlast:∀ (k:Int×Int→Option Int) (n:Int),F k (n,(l.length:Int))=some n):Qct F fuel (0,0)=some (cntC c l):=by
 have hb:l.length<1000000000000:=hl;refine (Qh4 (len:=l.length) (fun i (n:Int)=>(n,(i:Int))) (fun i n=>0≤n∧n≤i) (fun i n=>some (n+cntC c (l.drop i))) ?_ ?_ fuel 0 0 (Nat.zero_le _) (by omega) (by omega)).trans (by simp)
 ·intro k i n hi hn ih;rw [hF k n i hi];have h1:=Qbhd (l[i].Classes.fdiv (2 ^ (min (IntKind.wrap .i64 (c-1)).toNat IntKind.i64.bits)));have h2:shrO .i64 l[i].Classes (IntKind.wrap .i64 (c-1))=some (l[i].Classes.fdiv (2 ^ (min (IntKind.wrap .i64 (c-1)).toNat IntKind.i64.bits))):=by unfold shrO;rw [if_neg (by omega)]
  rw [h2];simp only [Option.bind_some];rw [Qbd (by omega),Qnk (by omega) (by omega),ih _ (by omega),List.drop_eq_getElem_cons hi];have e:cntC c (l[i]::l.drop (i+1))=bitC c l[i]+cntC c (l.drop (i+1)):=by unfold cntC;rw [List.map_cons,List.sum_cons]
  rw [e];unfold bitC;congr 1;omega
 ·intro k n _;rw [hlast];simp [cntC]
theorem Qbe3 {c:Int} (h:1≤c∧c≤4):0≤IntKind.wrap .i64 (c-1):=by rw [Qnk (by omega) (by omega)];omega
theorem Qbe4 {c:Int} (h:1≤c∧c≤4) {l:List Lab} (hl:l.length<big):Qjw l c=some (cntC c l):=by
 have hb:l.length<1000000000000:=hl;unfold Qjw Qel;refine Qgc (Qbe2 (Qbe3 h) hl (by unfold Qbp;omega) ?_ ?_) rfl
 ·intro k n i hi;dsimp only;rw [if_pos (by omega),Qb3 hi]
  rfl
 ·intro k n;dsimp only;rw [if_neg (by omega)]
def Qbip (c:Int) (l:List Lab):Int:=if cntC c l=0 then 1 else if cntC c l=l.length then 2 else 3
theorem Q2s {c:Int} {l:List Lab} (hl:l.length<big):Qdd l c=some (if c<1∨4<c then (0,2) else if l=[] then (0,12) else (Qbip c l,0)):=by
 unfold Qdd Qz Qh3 Qbm;have e:(if c<1 then some true else some (decide (c>4)))=some (decide (c<1∨4<c)):=by by_cases h:c<1<;>simp [h]
 rw [e];simp only [Option.bind_some];by_cases h:c<1∨4<c
 ·rw [decide_eq_true h,if_pos rfl,if_pos h]
 ·rw [decide_eq_false h,if_neg (by simp),if_neg h];cases l with
  | nil=>rfl
  | cons x l =>
   rw [if_neg (by simp;omega),if_neg (by simp),Qbe4 (by omega) hl];simp only [Option.bind_some];unfold Qbip;by_cases h1:cntC c (x::l)=0
   ·rw [if_pos (by simp [h1]),if_pos h1]
   ·rw [if_neg (by simp [h1]),if_neg h1];by_cases h2:cntC c (x::l)=(x::l).length
    ·rw [if_pos (by simp [h2]),if_pos h2]
    ·rw [if_neg (by simpa using h2),if_neg h2]
theorem Q0t {s t:List Int} (h:s.length<1000000000000):Qk1 s t=some (decide (s=t)):=by
 unfold Qk1 Qdf;rw [Qbc3 h];rfl
end Go.Abs
end
section
namespace Go.Abs
open Go
section
variable {ev:List Qd} {a:Qa}
abbrev Qbi4:Qa:=⟨[],0,[],[]⟩
theorem Qbiq (hp:Plt ev a) {b:Qa} {l:List Lab} (hb:Lbd ev a b l):(a.zH=0∧Qjo ev a=some (⟨Qbi4,[],[],[],[]⟩,false,12)) ∨
  ∃ R,EvSet R∧(∀ x,x∈R↔x∈obsE ev∧x∈a.zD)∧0<a.zH∧Qjo ev a=some (⟨b,l,R,estP b (obsE ev) [],[]⟩,true,0):=by
 have hol:=(Qs0 hp.len).len;have hs:=hp.r.small;unfold Qjo Qfq;rw [hb.p];simp only [Option.bind_some,show ((0:Int) != 0)=false from rfl,Bool.false_eq_true,if_false];by_cases h0:a.zH=0
 ·exact .inl ⟨h0,by rw [if_pos (by simp [h0])]⟩
 ·right;obtain ⟨R,h1,h2,h3⟩:=Qz4 (Qs0 hp.len).so hp.r.al (by unfold big;omega);have hR:EvSet R:=⟨fun x hx=>(Qs0 hp.len).rg x ((h3 x).1 hx).1,h2⟩;refine ⟨R,hR,h3,by have:=hp.r.st;omega,?_⟩;rw [if_neg (by simp [h0]),Qwj (by have:=hp.len;unfold big;omega) hp.chk];simp only [Option.bind_some];rw [h1];simp only [Option.bind_some];unfold Qcx Qba;dsimp only;rw [Qxh hb.r hR (by simp [big]),if_pos (by rfl)];have hsm:∀ x∈b.zD,x∈R↔x∈obsE ev:=fun x hx=>⟨fun h=>((h3 x).1 h).1,fun h=>(h3 x).2 ⟨h,by rw [← hb.al];exact hx⟩⟩;rw [Q2r hsm]
  rfl
end
end Go.Abs
end
section
namespace Go.Abs
open Go
theorem Qbhe {a:Qa} (h:Right a) {onto est:List Int} (ho:EvSet onto) (he:Sts a est) (e:Int):Qjx a onto est e=some (if e∈Qsz a onto then (Qv6 a onto est e,0) else ([],9)):=by
 have hel:=he.len;have hst:=h.st;unfold Qjx Qem;rw [Qz2 h ho.big,ho.err];simp only [Option.bind_some,show ((0:Int) != 0)=false from rfl,Bool.false_eq_true,if_false];rw [Qz1 (he.big h),he.err];simp only [Option.bind_some,show ((0:Int) != 0)=false from rfl,Bool.false_eq_true,if_false];rw [Q34 h ho.big];simp only [Option.bind_some];rw [Q2n h (by simp [Abs.big])];simp only [Option.bind_some,List.all_cons,List.all_nil,Bool.and_true];by_cases hk:e∈Qsz a onto
 ·simp only [hk,decide_true,if_true];rw [Q37 h he.rg (by omega)]
  rfl
 ·simp only [hk,decide_false,Bool.false_eq_true,if_false]
section
variable {ev:List Qd} {a b:Qa} {l:List Lab} {R:List Int}
noncomputable def monM (ev:List Qd) (b:Qa) (l:List Lab) (R seen:List Int):Qj:=⟨b,l,R,estP b (obsE ev) seen,seen⟩
structure MonR (ev:List Qd) (a b:Qa) (R:List Int):Prop where
 set:EvSet R
 mem:∀ x,x∈R↔x∈obsE ev∧x∈a.zD
theorem MonR.same (hb:Lbd ev a b l) (hR:MonR ev a b R):∀ x∈b.zD,x∈R↔x∈obsE ev:=fun x hx=>⟨fun h=>((hR.mem x).1 h).1,fun h=>(hR.mem x).2 ⟨h,by rw [← hb.al];exact hx⟩⟩
theorem Qbe5 (hb:Lbd ev a b l) (hR:MonR ev a b R) (est seen:List Int):Qcx ⟨b,l,R,est,seen⟩=some (monM ev b l R []):=by
 unfold Qcx Qba;dsimp only;rw [Qxh hb.r hR.set (by simp [big]),if_pos (by rfl),Q2r (hR.same hb)]
 rfl
theorem Qbhf (x:Int):okW ev a [x]=(decide (x∈obsE ev)&&decide (x∈a.zD)):=by simp [okW]
theorem Qbe6 (s:List Int) (x:Int):okW ev a (s++[x])=(okW ev a s&&okW ev a [x]):=by simp [okW]
theorem Qbdm (o s:List Int) (x:Int):estP b o (s++[x])=Qv6 b o (estP b o s) x:=by simp [estP,List.foldl_append]
theorem Q8e (hp:Plt ev a) (hb:Lbd ev a b l) (hR:MonR ev a b R) {seen:List Int} (hl:seen.length≤8) (x:Int) :
  Qey (monM ev b l R seen) x=some (if okW ev a [x]=true then (if estP b (obsE ev) (seen++[x])=[] then (10,monM ev b l R seen) else (0,monM ev b l R (seen++[x]))) else (9,monM ev b l R seen)):=by
 unfold monM Qey Qb7;dsimp only;rw [Q5a hR.set.so hR.set.big];simp only [Option.bind_some];have hm:decide (x∈R)=okW ev a [x]:=by rw [Qbhf,← Bool.decide_and,decide_eq_decide];exact hR.mem x
 rw [hm];by_cases hk:okW ev a [x]=true
 ·rw [if_pos hk,if_pos hk,show (((seen.length:Nat):Int)==4096)=false from by simp;omega];simp only [Bool.false_eq_true,if_false];have hxR:x∈R:=by rw [hk] at hm;exact of_decide_eq_true hm
  have hkept:x∈Qsz b R:=by
   unfold Qsz;rw [List.mem_filter];exact ⟨by rw [hb.al];exact ((hR.mem x).1 hxR).2,decide_eq_true hxR⟩
  rw [Qbhe hb.r hR.set (Q0s seen),if_pos hkept];have hn:Qv6 b R (estP b (obsE ev) seen) x=estP b (obsE ev) (seen++[x]):=by
   rw [Qbdm];unfold Qv6;rw [(Q7d (hR.same hb)).2]
  simp only [Option.bind_some];rw [hn];cases hE:estP b (obsE ev) (seen++[x]) with
  | nil=>rfl
  | cons y ys =>
   rw [show ((((y::ys).length:Nat):Int)==0)=false from by simp;omega,Qck (by simp only [List.length_cons,List.length_nil];unfold lim;omega)];simp only [Bool.false_eq_true,if_false,Option.bind_some];rw [if_neg (by simp)]
 ·rw [if_neg hk,if_neg hk]
theorem Qbdn {seen:List Int} (hl:seen.length≤8):Qfi (monM ev b l R seen)=some (monM ev b l R seen):=by
 unfold monM Qfi Qcf;dsimp only;rw [Q0o (by unfold lim;omega)];rfl
theorem Qyp {seen:List Int} (hl:seen.length≤9):Qen (monM ev b l R seen)=some seen:=by
 unfold monM Qen Qb9;dsimp only;rw [Q0o (by unfold lim;omega)];rfl
theorem Qz6 (hb:Lbd ev a b l) (seen:List Int):Qcy (monM ev b l R seen)=some (Qwk l (estP b (obsE ev) seen)):=by
 unfold monM Qcy Q7;dsimp only;have hS:=Q0s (a:=b) (onto:=obsE ev) seen;rw [Q9y (hS.big hb.r) (fun x hx=>by have:=hS.rg x hx;have:=hb.n;omega)];rfl
theorem Qbau (l:List Lab) (s:List Int):((Qwk l s).length:Int)==0↔s=[]:=by
 cases s with
 | nil=>simp [Qwk]
 | cons x s=>simp [Qwk];omega
end
theorem Qbav {p:Qbs} (hw:Qbdl p) (w:List Int) (rs:Int):Qf5 p w rs=some true:=by
 unfold Qf5 Qf2;obtain ⟨fuel,hfu,hge⟩ : ∃ f,Qbp=f∧1099511627776≤f:=⟨_,rfl,Nat.le_refl _⟩;rw [hfu,Qbao];simp only [Option.bind_some,if_true];by_cases h8:8<w.length
 ·rw [decide_eq_true (by omega),if_pos rfl]
 rw [decide_eq_false (by omega),if_neg (by simp)];obtain ⟨ev,a,hM,hp,hev,hst,-,-⟩:=Qbez hw;obtain ⟨b,l,hb⟩:=Qbim hp;have hs:=hp.r.small;rw [hM];simp only [Option.bind_some];rcases Qbiq hp hb with ⟨hz,hN⟩|⟨R,hR1,hR2,hz,hN⟩
 ·rw [hN];simp [hz]
 have hR:MonR ev a b R:=⟨hR1,hR2⟩;rw [hN];simp only [Option.bind_some,if_true];rw [if_neg (by simp;omega),if_neg (by simp)];refine Qdr (fun x=>∃ (n:Nat) (seen:List Int),n≤w.length∧seen.length≤n∧okW ev a seen=true∧x=(seen,(n:Int),b.zD,b.zH,b.zF,b.zG,l,R,estP b (obsE ev) seen,seen)) (fun x=>w.length-x.2.1.toNat) (fun x r=>r=some true) ?_ fuel _ ⟨0,[],Nat.zero_le _,by simp,rfl,rfl⟩ (by simp only [Int.toNat_zero];omega);rintro k _ ⟨n,seen0,hn,hsl0,hok0,rfl⟩ ih;dsimp only;by_cases hlt:n<w.length
 ·rw [if_pos (by omega)];have hreset:∃ seen:List Int,seen.length≤n∧okW ev a seen=true∧(if ((IntKind.wrap .i64 (Int.tmod rs 12))==(n:Int))=true then ((Qcx (Qj.mk (Qa.mk b.zD b.zH b.zF b.zG) l R (estP b (obsE ev) seen0) seen0)).bind fun c34=>some (([]:List Int),c34.automaton_.zD,c34.automaton_.zH,c34.automaton_.zF,c34.automaton_.zG,c34.labels_,c34.observable_,c34.estimate_,c34.seen_)) else some (seen0,b.zD,b.zH,b.zF,b.zG,l,R,estP b (obsE ev) seen0,seen0))=some (seen,b.zD,b.zH,b.zF,b.zG,l,R,estP b (obsE ev) seen,seen):=by
   by_cases h:((IntKind.wrap .i64 (Int.tmod rs 12))==(n:Int))=true
   ·refine ⟨[],by simp,rfl,?_⟩;rw [if_pos h,Qbe5 hb hR];rfl
   ·exact ⟨seen0,hsl0,hok0,by rw [if_neg h]⟩
  obtain ⟨seen,hsl,hok,hres⟩:=hreset;rw [hres];simp only [Option.bind_some];have hmon:Qj.mk (Qa.mk b.zD b.zH b.zF b.zG) l R (estP b (obsE ev) seen) seen=monM ev b l R seen:=rfl;rw [hmon,Qbdn (by omega)];simp only [Option.bind_some];rw [Qb3 hlt];simp only [Option.bind_some];rw [Q8e hp hb hR (by omega)];simp only [Option.bind_some];have hsl1:slcO w (n:Int) (IntKind.wrap .i64 ((n:Int)+1))=some [w[n]]:=by
   rw [Qbd (by omega),Q9j (by omega) (by omega),List.take_succ_eq_append_getElem hlt,List.drop_left' (by simp;omega)]
  rw [hsl1];simp only [Option.bind_some];generalize w[n]=x;rw [Q8c hp.len hs.1.1 (by simp [big])];simp only [Option.bind_some];rw [Qck (by simp only [List.length_nil];unfold lim;omega)];simp only [Option.bind_some,List.nil_append];rw [Qck (by simp only [List.length_cons,List.length_nil];unfold lim;omega)];simp only [Option.bind_some];have hfin:∀ (seen' : List Int),seen'.length≤n+1→okW ev a seen'=true →
    ((Qd5 ev a seen').bind fun (r78,r79)=>(((if (r79 != 0) then some true else ((Qcy (monM ev b l R seen')).bind fun x82=>((Qe3 x82 r78).bind fun x84=>(if x84 then ((Qen (monM ev b l R seen')).bind fun x87=>((Qk1 x87 seen').bind fun x89=>some (!x89))) else some true))))).bind fun (x90:Bool)=>(if x90 then some false else Qct (fun k93 (class92:Int)=>(if (class92≤5) then ((Qdx (monM ev b l R seen') class92).bind fun (r96,r97)=>((Qdd r78 class92).bind fun (r99,r100)=>(((if (r96 != r99) then some true else some (r97 != r100))).bind fun (x102:Bool)=>(if x102 then some false else k93 (IntKind.wrap .i64 (class92+1)))))) else k (seen',(IntKind.wrap .i64 ((n:Int)+1)),(monM ev b l R seen').automaton_.zD,(monM ev b l R seen').automaton_.zH,(monM ev b l R seen').automaton_.zF,(monM ev b l R seen').automaton_.zG,(monM ev b l R seen').labels_,(monM ev b l R seen').observable_,(monM ev b l R seen').estimate_,(monM ev b l R seen').seen_))) fuel 0)))=some true:=by
   intro seen' hl' hok';rw [Qz5 hp hb (by unfold big;omega),if_pos hok'];simp only [Option.bind_some];have hL:(Qwk l (estP b (obsE ev) seen')).length<big:=by rw [Q8d];exact (Q0s seen').big hb.r
   rw [if_neg (by simp),Qz6 hb];simp only [Option.bind_some];rw [Qbik hL];simp only [Option.bind_some,decide_true,if_true];rw [Qyp (by omega)];simp only [Option.bind_some];rw [Q0t (by omega)];simp only [Option.bind_some,decide_true,Bool.not_true,Bool.false_eq_true,if_false];refine Qdr (fun x=>∃ m:Nat,x=(m:Int)∧m≤6) (fun x=>6-x.toNat) (fun x r=>r=some true) ?_ fuel _ ⟨0,rfl,by omega⟩ (by simp only [Int.toNat_zero];omega);rintro k' _ ⟨m,rfl,hm⟩ ih';by_cases hm6:m<6
   ·rw [if_pos (by omega)];have hv:Qdx (monM ev b l R seen') (m:Int)=Qdd (Qwk l (estP b (obsE ev) seen')) (m:Int):=by
     unfold Qdx Qb8;rw [Qz6 hb];simp only [Option.bind_some];rw [Q2s hL];rfl
    rw [hv,Q2s hL];simp only [Option.bind_some];rw [if_neg (by simp),Qbd (by omega)];simp only [Option.bind_some,bne_self_eq_false,Bool.false_eq_true,if_false];exact ih' _ ⟨m+1,rfl,by omega⟩ (by simp only [Int.toNat_natCast];omega)
   ·rw [if_neg (by omega),Qbd (by omega)];exact ih _ ⟨n+1,seen',by omega,hl',hok',rfl⟩ (by simp only [Int.toNat_natCast];omega)
  have hfs:=hfin seen (by omega) hok;rw [Qyp (by omega)] at hfs;simp only [Option.bind_some] at hfs;by_cases hk:okW ev a [x]=true
  ·rw [if_pos hk,if_pos hk];have hoks:okW ev a (seen++[x])=true:=by rw [Qbe6,hok,hk];rfl
   rw [if_pos (by rfl),Qz5 hp hb (by simp;unfold big;omega),if_pos hoks];simp only [Option.bind_some];by_cases hE:estP b (obsE ev) (seen++[x])=[]
   ·rw [if_pos hE,if_pos (by rw [hE];rfl)];simp only [Option.bind_some];rw [if_neg (by simp),Qyp (by omega)];simp only [Option.bind_some];rw [Q0t (by omega)];simp only [Option.bind_some,decide_true,Bool.not_true,Bool.false_eq_true,if_false];rw [if_neg (by simp)];simp only [Option.bind_some];exact hfs
   ·rw [if_neg hE,if_neg (by rw [Qbau];exact hE)];simp only [Option.bind_some];rw [if_neg (by simp),Qyp (by omega)];simp only [Option.bind_some];rw [Q0t (by omega)];simp only [Option.bind_some,decide_true,Bool.not_true,Bool.false_eq_true,if_false];rw [if_pos (by rfl)];simp only [Option.bind_some];exact hfin (seen++[x]) (by simp;omega) hoks
  ·rw [if_neg hk,if_neg hk,if_neg (by simp)];simp only [Option.bind_some];rw [if_neg (by simp),Qyp (by omega)];simp only [Option.bind_some];rw [Q0t (by omega)];simp only [Option.bind_some,decide_true,Bool.not_true,Bool.false_eq_true,if_false];rw [if_neg (by simp)];simp only [Option.bind_some];exact hfs
 ·rw [if_neg (by omega)]
end Go.Abs
end
