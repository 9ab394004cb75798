/-
  Part 12 of the proof: see the last text.
-/
import Derived.Test.YtjngkimolkhdmaaGreatP11
import Derived.KernelRfl
set_option linter.unusedVariables false
set_option linter.unusedSimpArgs false
set_option linter.unusedSectionVars false
section
namespace Go.Abs
open Go
theorem Q53 {l:List Int} {v:Int} (hs:l.Pairwise (· < ·)) (hl:l.length<big):Qe6 l v=some (decide (v∈l)):=by
 unfold Qe6 Q3;obtain ⟨n,h⟩:=Qbej (v:=v) hs hl;rw [h];rfl
abbrev Lab:=Qb
def bitE (ev:List Qe) (e:Int):Int:=match getO ev e with
 | some x=>if 0<x.Fault then 2 ^ (x.Fault-1).toNat else 0
 | none=>0
def toL (ev:List Qe) (x:Lab) (y:Qg):Lab:=⟨y.To,orI .i64 x.Classes (bitE ev y.Event)⟩
def Qu9 (o:List Lab) (t:Lab):List Lab:=if t∈o then o else o++[t]
def Qqn (ev:List Qe) (i:Nat) (x:Lab) (c:List Lab×List Qg) (y:Qg):List Lab×List Qg :=
 (Qu9 c.1 (toL ev x y),c.2++[⟨(i:Int),y.Event,((Qu9 c.1 (toL ev x y)).idxOf (toL ev x y):Int)⟩])
def labs (ev:List Qe) (a:Qa):Nat→List Lab×List Int×List Qg
 | 0=>([⟨0,0⟩],[],[])
 | n+1=>match (labs ev a n).1[n]? with
  | some x=>(((outP a x.State).foldl (Qqn ev n x) ((labs ev a n).1,(labs ev a n).2.2)).1,if x.State∈a.zF then (labs ev a n).2.1++[(n:Int)] else (labs ev a n).2.1,((outP a x.State).foldl (Qqn ev n x) ((labs ev a n).1,(labs ev a n).2.2)).2)
  | none=>labs ev a n
structure Plt (ev:List Qe) (a:Qa):Prop where
 r:Right a
 st:a.zH≤200
 al:∀ x∈a.zD,x<ev.length
 flt:∀ x∈ev,0≤x.Fault∧x.Fault≤4
 chk:Qfs ev=some 0
 len:ev.length≤32
theorem Qbka:((List.range 16).all fun c=>(List.range 16).all fun b=>decide (0≤orI .i64 (c:Int) (b:Int)∧orI .i64 (c:Int) (b:Int)<16)&&decide (orI .i64 (c:Int) 0=(c:Int)))=true:=by kernel_rfl
theorem Qbi6 {c b:Int} (hc:0≤c∧c<16) (hb:0≤b∧b<16):(0≤orI .i64 c b∧orI .i64 c b<16)∧orI .i64 c 0=c:=by
 have h:=List.all_eq_true.1 (List.all_eq_true.1 Qbka c.toNat (by simp;omega)) b.toNat (by simp;omega);rw [show ((c.toNat:Nat):Int)=c from by omega,show ((b.toNat:Nat):Int)=b from by omega] at h;simpa using h
theorem Qbeq {ev:List Qe} {a:Qa} (h:Plt ev a) (e:Int):0≤bitE ev e∧bitE ev e<16:=by
 unfold bitE;cases hx:getO ev e with
 | none=>simp
 | some x =>
  have hm:=h.flt x (List.mem_of_getElem? (Qfm.1 hx).2);dsimp only;split
  ·obtain ⟨h1,h2⟩:=hm;have:x.Fault=1∨x.Fault=2∨x.Fault=3∨x.Fault=4:=by omega
   rcases this with e|e|e|e<;>rw [e]<;>decide
  ·simp
theorem Qy8 {o:List Lab} {t x:Lab}:x∈Qu9 o t↔x∈o∨x=t:=by
 unfold Qu9;split
 ·rename_i h;exact ⟨.inl,fun e=>e.elim id fun e=>by rw [e];exact h⟩
 ·simp
theorem Qber (o:List Lab) (t:Lab):o <+: Qu9 o t:=by
 unfold Qu9;split
 ·exact List.prefix_refl o
 ·exact List.prefix_append o _
theorem Qbes {o F:List Lab} (h:o <+: F) {t:Lab} (ht:t∈o):F.idxOf t=o.idxOf t:=by
 obtain ⟨r,rfl⟩:=h;rw [List.idxOf_append,if_pos ht]
structure LbI (a:Qa) (S:List Lab):Prop where
 nd:S.Nodup
 ok:∀ x∈S,(0≤x.State∧x.State<a.zH)∧0≤x.Classes∧x.Classes<16
theorem LbI.len {a:Qa} {S:List Lab} (h:LbI a S):S.length≤16*a.zH.toNat:=by
 have hn:(S.map fun x=>x.State*16+x.Classes).Nodup:=by
  refine List.pairwise_map.2 ((List.Pairwise.and_mem.1 h.nd).imp fun {x y} ⟨hx,hy,hne⟩ e=>hne ?_);obtain ⟨p1,p2⟩:=h.ok x hx;obtain ⟨q1,q2⟩:=h.ok y hy;obtain ⟨s,c⟩:=x;obtain ⟨s',c'⟩:=y;simp only [Qb.mk.injEq];dsimp only at *
  omega
 have:=Qbeo (N:=16*a.zH.toNat) hn (fun x hx=>by
  obtain ⟨y,hy,rfl⟩:=List.mem_map.1 hx;obtain ⟨p1,p2⟩:=h.ok y hy;omega)
 simpa using this
theorem LbI.add {a:Qa} {S:List Lab} (h:LbI a S) {t:Lab} (ht:(0≤t.State∧t.State<a.zH)∧0≤t.Classes∧t.Classes<16):LbI a (Qu9 S t):=by
 refine ⟨?_,fun x hx=>(Qy8.1 hx).elim (h.ok x) (fun e=>by rw [e];exact ht)⟩;unfold Qu9;split
 ·exact h.nd
 ·rename_i hn;rw [List.nodup_append];exact ⟨h.nd,by simp,fun x hx y hy e=>by simp at hy;subst hy;subst e;exact hn hx⟩
theorem LbI.to {ev:List Qe} {a:Qa} (hp:Plt ev a) {S:List Lab} (h:LbI a S) {x:Lab} (hx:x∈S) {y:Qg} (hy:y∈a.zG):(0≤(toL ev x y).State∧(toL ev x y).State<a.zH)∧0≤(toL ev x y).Classes∧(toL ev x y).Classes<16:=by
 have he:=hp.r.ed0 y hy;exact ⟨⟨he.2.2.1,he.2.2.2.1⟩,(Qbi6 (h.ok x hx).2 (Qbeq hp y.Event)).1⟩
theorem Q1b {ev:List Qe} {i:Nat} {x:Lab}:∀ (ys:List Qg) (c:List Lab×List Qg),c.1 <+: (ys.foldl (Qqn ev i x) c).1
 | [],c=>List.prefix_refl _
 | y::ys,c=>(Qber c.1 (toL ev x y)).trans (Q1b ys (Qqn ev i x c y))
theorem Q54 {ev:List Qe} {i:Nat} {x:Lab}:∀ (ys:List Qg) (c:List Lab×List Qg),∀ y∈ys,toL ev x y∈(ys.foldl (Qqn ev i x) c).1
 | [],c,y,hy=>by cases hy
 | z::ys,c,y,hy=>by
  rcases List.mem_cons.1 hy with rfl|hy
  ·exact (Q1b ys (Qqn ev i x c y)).subset (Qy8.2 (.inr rfl))
  ·exact Q54 ys _ y hy
theorem Q55 {ev:List Qe} {i:Nat} {x:Lab}:∀ (ys:List Qg) (c:List Lab×List Qg),
  (ys.foldl (Qqn ev i x) c).2=c.2++ys.map fun y=>⟨(i:Int),y.Event,((ys.foldl (Qqn ev i x) c).1.idxOf (toL ev x y):Int)⟩
 | [],c=>by simp
 | y::ys,c=>by
  rw [List.foldl_cons,Q55 ys,List.map_cons];have h1:((ys.foldl (Qqn ev i x) (Qqn ev i x c y)).1.idxOf (toL ev x y))=(Qu9 c.1 (toL ev x y)).idxOf (toL ev x y):=Qbes (Q1b ys (Qqn ev i x c y)) (Qy8.2 (.inr rfl));rw [h1];simp [Qqn]
theorem Qba0 {ev:List Qe} {a:Qa} (hp:Plt ev a) {i:Nat} {x:Lab}:∀ (ys:List Qg) (c:List Lab×List Qg),LbI a c.1→x∈c.1→(∀ y∈ys,y∈a.zG)→LbI a (ys.foldl (Qqn ev i x) c).1
 | [],c,h,_,_=>h
 | y::ys,c,h,hx,hy=>Qba0 hp ys _ (h.add (h.to hp hx (hy y (by simp)))) (Qy8.2 (.inl hx)) (fun z hz=>hy z (by simp [hz]))
section
variable {ev:List Qe} {a:Qa}
theorem Qy9 (n:Nat):(labs ev a n).1 <+: (labs ev a (n+1)).1:=by
 show _ <+: (match (labs ev a n).1[n]? with|some x=>_|none=>_:List Lab×List Int×List Qg).1;split
 ·dsimp only;exact Q1b (outP a _) ((labs ev a n).1,(labs ev a n).2.2)
 ·exact List.prefix_refl _
theorem Qbgh {n m:Nat} (h:n≤m):(labs ev a n).1 <+: (labs ev a m).1:=by
 induction h with
 | refl=>exact List.prefix_refl _
 | step _ ih=>exact ih.trans (Qy9 _)
theorem Qza (hp:Plt ev a) (h0:0<a.zH):∀ n,LbI a (labs ev a n).1
 | 0=>⟨by simp [labs],fun x hx=>by simp [labs] at hx;subst hx;simp;omega⟩
 | n+1=>by
  have ih:=Qza hp h0 n;show LbI a (match (labs ev a n).1[n]? with|some x=>_|none=>_:List Lab×List Int×List Qg).1;split
  ·rename_i x hx;exact Qba0 hp _ _ ih (List.mem_of_getElem? hx) (fun y hy=>(List.mem_filter.1 hy).1)
  ·exact ih
theorem Qzb (hp:Plt ev a) (h0:0<a.zH) (n:Nat):(labs ev a n).1.length≤3200:=by
 have:=(Qza hp h0 n).len;have:=hp.st;omega
def LabN (ev:List Qe) (a:Qa) (N:Nat):Prop:=(labs ev a N).1.length=N∧∀ n<N,n<(labs ev a n).1.length
theorem Qbet (hp:Plt ev a) (h0:0<a.zH):∃ N,LabN ev a N:=by
 have key:∀ m,(labs ev a m).1.length≤m→∃ N,LabN ev a N:=by
  intro m
  induction m using Nat.strongRecOn with
  | ind m ih =>
   intro h1;by_cases hex:∃ n,n<m∧(labs ev a n).1.length≤n
   ·obtain ⟨n,hn,h⟩:=hex;exact ih n hn h
   ·have hlt:∀ n<m,n<(labs ev a n).1.length:=fun n hn=>by
     rcases Nat.lt_or_ge n (labs ev a n).1.length with h|h
     ·exact h
     ·exact absurd ⟨n,hn,h⟩ hex
    refine ⟨m,?_,hlt⟩;cases m with
    | zero=>simp [labs] at h1
    | succ k =>
     have:=hlt k (by omega);have:=(Qy9 (ev:=ev) (a:=a) k).length_le;omega
 exact key 3200 (Qzb hp h0 _)
theorem LabN.le (hp:Plt ev a) (h0:0<a.zH) {N:Nat} (h:LabN ev a N):N≤3200:=by have:=Qzb hp h0 N;have:=h.1;omega
def labA (ev:List Qe) (a:Qa) (N:Nat):Qa:=⟨a.zD,(N:Int),(labs ev a N).2.1,(labs ev a N).2.2⟩
theorem Q1c {n:Nat} (h:n<(labs ev a n).1.length):∃ x,(labs ev a n).1[n]? = some x∧labs ev a (n+1)=(((outP a x.State).foldl (Qqn ev n x) ((labs ev a n).1,(labs ev a n).2.2)).1,if x.State∈a.zF then (labs ev a n).2.1++[(n:Int)] else (labs ev a n).2.1,((outP a x.State).foldl (Qqn ev n x) ((labs ev a n).1,(labs ev a n).2.2)).2):=by
 refine ⟨_,List.getElem?_eq_getElem h,?_⟩;show (match (labs ev a n).1[n]? with|some x=>_|none=>_:List Lab×List Int×List Qg)=_;rw [List.getElem?_eq_getElem h]
theorem Qba1 (h:Right a) (s:Int):(outP a s).Pairwise fun x y=>x.Event<y.Event:=by
 have h1:(outP a s).Pairwise Qkq:=h.ed.filter _;refine (List.Pairwise.and_mem.1 h1).imp fun {x y} ⟨hx,hy,hk⟩=>?_;have e1:x.From=s:=by simpa using (List.mem_filter.1 hx).2
 have e2:y.From=s:=by simpa using (List.mem_filter.1 hy).2
 unfold Qkq at hk;omega
structure LabI (ev:List Qe) (a:Qa) (n:Nat):Prop where
 mr:∀ x∈(labs ev a n).2.1,0≤x∧x<n
 ms:(labs ev a n).2.1.Pairwise (· < ·)
 er:∀ x∈(labs ev a n).2.2,0≤x.From∧x.From<n∧0≤x.To∧x.To<((labs ev a n).1.length:Nat)∧x.Event∈a.zD
 es:(labs ev a n).2.2.Pairwise Qkq
 el:(labs ev a n).2.2.length≤32*n
theorem Q9g (h:Right a) (s:Int):(outP a s).length≤32:=by
 have h1:=Qba1 h s;have h2:((outP a s).map (·.Event)).Pairwise (· < ·):=List.pairwise_map.2 h1;have:=Qf6 (a:=0) (b:=32) h2 fun x hx=>by
  obtain ⟨y,hy,rfl⟩:=List.mem_map.1 hx;exact h.al0 _ (h.ed0 y ((List.mem_filter.1 hy).1)).2.2.2.2
 simpa using this
theorem labI (hp:Plt ev a):∀ n,n≤(labs ev a n).1.length→(∀ m<n,m<(labs ev a m).1.length)→LabI ev a n
 | 0,_,_=>⟨by simp [labs],by simp [labs],by simp [labs],by simp [labs],by simp [labs]⟩
 | n+1,_,hlt=>by
  have hn:=hlt n (by omega);have ih:=labI hp n (by omega) (fun m hm=>hlt m (by omega));obtain ⟨x,hx,e⟩:=Q1c hn;have hpre:=Qy9 (ev:=ev) (a:=a) n;have hle:=hpre.length_le;have hE:(labs ev a (n+1)).2.2=(labs ev a n).2.2++(outP a x.State).map fun y=>⟨(n:Int),y.Event,((labs ev a (n+1)).1.idxOf (toL ev x y):Int)⟩:=by
   rw [e];exact Q55 _ _
  have hM:(labs ev a (n+1)).2.1=if x.State∈a.zF then (labs ev a n).2.1++[(n:Int)] else (labs ev a n).2.1:=by rw [e]
  have hmem:∀ y∈outP a x.State,toL ev x y∈(labs ev a (n+1)).1:=by rw [e];exact Q54 _ _
  refine ⟨?_,?_,?_,?_,?_⟩
  ·intro z hz;rw [hM] at hz;have:z∈(labs ev a n).2.1∨z=(n:Int):=by split at hz<;>simp_all
   rcases this with h|h
   ·have:=ih.mr z h;omega
   ·omega
  ·rw [hM];split
   ·rw [List.pairwise_append];refine ⟨ih.ms,by simp,fun p hp q hq=>?_⟩;have:=ih.mr p hp;simp at hq;omega
   ·exact ih.ms
  ·intro z hz;rw [hE] at hz;rcases List.mem_append.1 hz with h|h
   ·have:=ih.er z h;exact ⟨this.1,by omega,this.2.2.1,by omega,this.2.2.2.2⟩
   ·obtain ⟨y,hy,rfl⟩:=List.mem_map.1 h;have hi:=List.idxOf_lt_length_iff.2 (hmem y hy);exact ⟨by simp,by simp;omega,by simp,by simp;exact hi,(hp.r.ed0 y ((List.mem_filter.1 hy).1)).2.2.2.2⟩
  ·rw [hE,List.pairwise_append];refine ⟨ih.es,List.pairwise_map.2 ((Qba1 hp.r _).imp fun h=>.inr ⟨rfl,h⟩),fun p hp' q hq=>?_⟩;obtain ⟨y,hy,rfl⟩:=List.mem_map.1 hq;have:=ih.er p hp';exact .inl this.2.1
  ·rw [hE,List.length_append,List.length_map];have:=ih.el;have:=Q9g hp.r x.State;omega
theorem LabN.labI (hp:Plt ev a) {N:Nat} (h:LabN ev a N):LabI ev a N:=Go.Abs.labI hp N (by have:=h.1;omega) h.2
theorem Qbb4 (hp:Plt ev a) (h0:0<a.zH) {N:Nat} (h:LabN ev a N):Right (labA ev a N):=by
 have hi:=h.labI hp;have hl:=h.le hp h0;have he:=hi.er;rw [h.1] at he;exact ⟨hp.r.al0,hp.r.al,⟨by simp [labA],by simp [labA];omega⟩,hi.mr,hi.ms,he,hi.es⟩
end
end Go.Abs
end
section
namespace Go.Abs
open Go
variable {ev:List Qe} {a:Qa}
theorem Q3h (hp:Plt ev a):Qf5 ev a=some 0:=by
 unfold Qf5 Qbd;rw [hp.chk];simp only [Option.bind_some,show ((0:Int) != 0)=false from rfl,Bool.false_eq_true,if_false];rw [Q25 hp.r];simp only [Option.bind_some,show ((0:Int) != 0)=false from rfl,Bool.false_eq_true,if_false];have hl:=hp.r.small.2.1;by_cases h0:a.zD.length=0
 ·rw [if_neg (by omega)];rfl
 ·rw [if_pos (by omega),Q23 (by omega) (by omega),Qbg (by omega)];have:=hp.al (a.zD[a.zD.length-1]'(by omega)) (List.getElem_mem _);simp only [Option.bind_some];rw [decide_eq_false (by omega)]
  rfl
structure KB2 (S:List Lab) (c:List (Lab×Int)):Prop where
 has:∀ t,hasM c t=decide (t∈S)
 get:∀ t∈S,getM c t 0=(S.idxOf t:Int)
theorem KB2.first (t:Lab):KB2 [t] (setM ([]:List (Lab×Int)) t 0):=by
 refine ⟨fun m=>?_,fun m hm=>?_⟩
 ·rw [Q3f];have:hasM ([]:List (Lab×Int)) m=false:=rfl;rw [this,Bool.or_false];simp
 ·rw [List.mem_singleton] at hm;subst hm;rw [Q3g,if_pos rfl];simp
theorem KB2.add {S:List Lab} {c:List (Lab×Int)} (h:KB2 S c) {t:Lab} (hm:t∉S):KB2 (S++[t]) (setM c t (S.length:Int)):=by
 refine ⟨fun m=>?_,fun m hm'=>?_⟩
 ·rw [Q3f,h.has m,← Bool.decide_or];apply decide_eq_decide.2;rw [List.mem_append,List.mem_singleton];exact or_comm
 ·rw [Q3g];rw [List.mem_append,List.mem_singleton] at hm';rcases hm' with hm'|rfl
  ·rw [if_neg (fun e=>hm (by rw [← e];exact hm')),h.get m hm',List.idxOf_append,if_pos hm']
  ·rw [if_pos rfl,List.idxOf_append,if_neg hm];simp
theorem Qbeu (hp:Plt ev a) {y:Qg} (hy:y∈a.zG):Qi7 ev y.Event=some (bitE ev y.Event):=by
 have he:=(hp.r.ed0 y hy).2.2.2.2;have h1:=hp.al _ he;have h2:=hp.r.al0 _ he;unfold Qi7 Qed bitE;cases hx:getO ev y.Event with
 | none =>
  exfalso;have:getO ev ((y.Event.toNat:Nat):Int)=some ev[y.Event.toNat]:=Qbg (by omega);rw [show ((y.Event.toNat:Nat):Int)=y.Event from by omega,hx] at this;cases this
 | some x =>
  have hm:=hp.flt x (List.mem_of_getElem? (Qfm.1 hx).2);simp only [Option.bind_some];by_cases hf:x.Fault>0
  ·rw [if_pos hf,if_pos (by omega)];have:x.Fault=1∨x.Fault=2∨x.Fault=3∨x.Fault=4:=by omega
   rcases this with e|e|e|e<;>rw [e]<;>rfl
  ·rw [if_neg hf,if_neg (by omega)]
theorem Q42 (h:Right a) {fuel:Nat} (hfu:1099511627776≤fuel):(Qb9 (fun k12 ((x10,c11):Int×(List (List Qg)))=>(if (x10<(a.zG.length:Int)) then ((getO a.zG x10).bind fun x14=>((inO (Int.toNat a.zH) x14.From).bind fun u16=>((getO c11 x14.From).bind fun x18=>((appO x18 [x14]).bind fun x20=>((inO (Int.toNat a.zH) x14.From).bind fun u22=>((setO c11 x14.From x20).bind fun x24=>k12 ((IntKind.wrap .i64 (x10+1)),x24))))))) else some c11)) fuel (0,List.replicate a.zH.toNat []))=some (Q0z a):=by
 have hs:=h.small;have hst:=h.st;refine (Qfn (len:=a.zG.length) (fun n (c:List (List Qg))=>((n:Int),c)) (fun n c=>c.length=a.zH.toNat∧∀ s:Nat,s<a.zH.toNat→c[s]? = some ((a.zG.take n).filter fun x=>x.From==(s:Int))) (fun n c=>some (Q0z a)) ?_ ?_ fuel 0 _ (Nat.zero_le _) (by omega) ⟨by simp,fun s hs=>by simp [hs]⟩)
 ·intro k n c hn ⟨i1,i2⟩ ih;have he:=h.ed0 _ (List.getElem_mem hn);dsimp only;rw [if_pos (by omega),Qbg hn];simp only [Option.bind_some];have hin:inO (Int.toNat a.zH) a.zG[n].From=some ():=by unfold inO;rw [if_pos ⟨he.1,by omega⟩]
  have hto:((a.zG[n].From.toNat:Nat):Int)=a.zG[n].From:=by omega
  have hg:getO c a.zG[n].From=some ((a.zG.take n).filter fun x=>x.From==a.zG[n].From):=by
   rw [Qfm];refine ⟨he.1,?_⟩;rw [i2 _ (by omega),hto]
  have hfl:((a.zG.take n).filter fun x=>x.From==a.zG[n].From).length≤a.zG.length:=Nat.le_trans (List.length_filter_le _ _) (by rw [List.length_take];omega);rw [hin,hg];simp only [Option.bind_some];rw [Qb4 (by simp only [List.length_cons,List.length_nil];unfold lim;omega)];simp only [Option.bind_some];unfold setO;rw [if_pos ⟨he.1,by omega⟩,Qy (by omega)];simp only [Option.bind_some];refine ih _ ⟨by simp [i1],fun s hs=>?_⟩;rw [List.getElem?_set,List.take_succ_eq_append_getElem hn,List.filter_append];split
  ·rename_i hss;subst hss;rw [if_pos (by omega),hto];simp
  ·rename_i hss;have:¬ a.zG[n].From=(s:Int):=by omega
   rw [i2 s hs];simp [this]
 ·intro k c ⟨i1,i2⟩;dsimp only;rw [if_neg (by omega)];congr 1;refine List.ext_getElem? fun s=>?_;by_cases hs:s<a.zH.toNat
  ·rw [i2 s hs,Q3c a hs,List.take_length];rfl
  ·rw [List.getElem?_eq_none (by omega),List.getElem?_eq_none (by rw [Qu8];omega)]
theorem getB {S:List Lab} {n:Nat} {x:Lab} (h:S[n]? = some x):getO S (n:Int)=some x:=by rw [Qfm];exact ⟨by omega,by simpa using h⟩
theorem Qba2 (hp:Plt ev a) (h0:0<a.zH) {N:Nat} (hN:LabN ev a N):Qdl ev a=some (labA ev a N,(labs ev a N).1,0):=by
 have hs:=hp.r.small;have hst:=hp.r.st;have hNl:=hN.le hp h0;unfold Qdl Q8;obtain ⟨fuel,hfu,hge⟩ : ∃ f,Q9=f∧1099511627776≤f:=⟨_,rfl,Nat.le_refl _⟩;rw [hfu,Q3h hp];simp only [Option.bind_some,show ((0:Int) != 0)=false from rfl,Bool.false_eq_true,if_false];rw [Qbau (by unfold lim;omega)];refine Qek rfl ?_;refine Qek (x:=List.replicate a.zH.toNat []) (by unfold mkO;rw [if_pos ⟨hst.1,by unfold lim;omega⟩]) ?_;refine Qek (Q42 hp.r hge) ?_;rw [if_pos (by omega),Qb4 (by simp [lim])];simp only [Option.bind_some,List.nil_append];refine Qcx (fun x=>∃ (n:Nat) (c:List (Lab×Int)),n≤N∧KB2 (labs ev a n).1 c∧x=((labs ev a n).1,(n:Int),[],[],[],(labs ev a n).2.1,(labs ev a n).2.2,c)) (fun x=>N-x.2.1.toNat) (fun x r=>r=some (labA ev a N,(labs ev a N).1,0)) ?_ fuel _ ⟨0,_,Nat.zero_le _,.first _,rfl⟩ (by simp only [Int.toNat_zero];omega);rintro k _ ⟨n,c,hn,hK,rfl⟩ ih;dsimp only;by_cases hlt:n<N
 ·have hnl:=hN.2 n hlt;have hI:=labI hp n (by omega) (fun m hm=>hN.2 m (by omega));have hB:=Qza hp h0 n;obtain ⟨x,hx,e⟩:=Q1c hnl;have hxm:=List.mem_of_getElem? hx;have hxs:=(hB.ok x hxm).1;have hll:=Qzb hp h0 n;have hll':=Qzb hp h0 (n+1);have hml:(labs ev a n).2.1.length≤n:=by have:=Qf6 hI.ms hI.mr;simpa using this
  have hel:=hI.el;rw [if_pos (by omega),getB hx];simp only [Option.bind_some];rw [Q53 hp.r.ma hs.1.2.1];simp only [Option.bind_some];refine Qek (x:=(labs ev a (n+1)).2.1) ?_ ?_
  ·rw [e];by_cases hm:x.State∈a.zF
   ·rw [decide_eq_true hm,if_pos rfl,if_pos hm,Qb4 (by simp only [List.length_cons,List.length_nil];unfold lim;omega)]
    rfl
   ·rw [decide_eq_false hm,if_neg (by simp),if_neg hm]
  have hin:inO (Int.toNat a.zH) x.State=some ():=by unfold inO;rw [if_pos ⟨hxs.1,by omega⟩]
  rw [hin,Q52 hxs];simp only [Option.bind_some];have hof:=Q9g hp.r x.State;have hoe:∀ y∈outP a x.State,y∈a.zG:=fun y hy=>(List.mem_filter.1 hy).1;generalize hO:outP a x.State=O at e hof hoe ⊢;refine Qcx (fun z=>∃ (m:Nat) (S:List Lab) (r:List Qg) (c:List (Lab×Int)),z=(S,(m:Int),r,c)∧m≤O.length∧S[n]? = some x∧LbI a S∧r.length≤32*n+m∧KB2 S c ∧
   (O.drop m).foldl (Qqn ev n x) (S,r)=((labs ev a (n+1)).1,(labs ev a (n+1)).2.2)) (fun z=>O.length-z.2.1.toNat) (fun z r=>r=some (labA ev a N,(labs ev a N).1,0)) ?_ fuel _ ⟨0,_,_,c,rfl,Nat.zero_le _,hx,hB,by omega,hK,by rw [e];rfl⟩ (by simp only [Int.toNat_zero];omega)
  rintro k' _ ⟨m,S,r,c,rfl,hm,hgs,hBS,hrl,hKS,hf⟩ ih';dsimp only;by_cases hlm:m<O.length
  ·have hye:=hoe _ (List.getElem_mem hlm);rw [if_pos (by omega),Qbg hlm,getB hgs];rw [List.drop_eq_getElem_cons hlm] at hf;generalize O[m]=y at hye hf ⊢;simp only [Option.bind_some];rw [Qbeu hp hye];simp only [Option.bind_some];simp only [letJ];have ht:(Qb.mk y.To (orI .i64 x.Classes (bitE ev y.Event)))=toL ev x y:=rfl;rw [ht,hKS.has];have hSl:=hBS.len;have hst2:=hp.st;have htl:=hBS.to hp (List.mem_of_getElem? hgs) hye;by_cases hin:toL ev x y∈S
   ·have hi:Qu9 S (toL ev x y)=S:=by unfold Qu9;rw [if_pos hin]
    rw [decide_eq_true hin,if_pos rfl];rw [hKS.get _ hin,Qb4 (by simp only [List.length_cons,List.length_nil];unfold lim;omega)];simp only [Option.bind_some];rw [Qy (by omega)];refine ih' _ ⟨m+1,S,_,c,rfl,by omega,hgs,hBS,by rw [List.length_append];simp only [List.length_cons,List.length_nil];omega,hKS,?_⟩ (by simp only;omega);rw [List.foldl_cons] at hf;rw [← hf];unfold Qqn;rw [hi]
   ·have hi:Qu9 S (toL ev x y)=S++[toL ev x y]:=by unfold Qu9;rw [if_neg hin]
    rw [decide_eq_false hin,if_neg (by simp),if_neg (by simp;omega),Qb4 (by simp only [List.length_cons,List.length_nil];unfold lim;omega)];simp only [Option.bind_some];have hK2:=hKS.add hin;rw [hK2.get _ (by simp),Qb4 (by simp only [List.length_cons,List.length_nil];unfold lim;omega)];simp only [Option.bind_some];rw [Qy (by omega)];have hBi:=hBS.add htl;rw [hi] at hBi;refine ih' _ ⟨m+1,S++[toL ev x y],_,_,rfl,by omega,by rw [List.getElem?_append_left (List.getElem?_eq_some_iff.1 hgs).1];exact hgs,hBi,by rw [List.length_append];simp only [List.length_cons,List.length_nil];omega,hK2,?_⟩ (by simp only;omega);rw [List.foldl_cons] at hf;rw [← hf];unfold Qqn;rw [hi]
  ·rw [if_neg (by omega)];have hd:O.drop m=[]:=List.drop_eq_nil_of_le (by omega);rw [hd,List.foldl_nil,Prod.mk.injEq] at hf;obtain ⟨rfl,rfl⟩:=hf;rw [Qy (by omega)];exact ih _ ⟨n+1,c,by omega,hKS,rfl⟩ (by simp only;omega)
 ·obtain rfl:n=N:=by omega
  rw [if_neg (by have:=hN.1;omega),hN.1]
  rfl
theorem Qbb5 (hp:Plt ev a) (h0:a.zH=0):Qdl ev a=some (⟨a.zD,0,[],[]⟩,[],0):=by
 have hs:=hp.r.small;unfold Qdl Q8;obtain ⟨fuel,hfu,hge⟩ : ∃ f,Q9=f∧1099511627776≤f:=⟨_,rfl,Nat.le_refl _⟩;rw [hfu,Q3h hp];simp only [Option.bind_some,show ((0:Int) != 0)=false from rfl,Bool.false_eq_true,if_false];rw [Qbau (by unfold lim;omega)];refine Qek rfl ?_;refine Qek (x:=List.replicate a.zH.toNat []) (by unfold mkO;rw [if_pos ⟨by omega,by unfold lim;omega⟩]) ?_;refine Qek (Q42 hp.r hge) ?_;rw [if_neg (by omega)];obtain ⟨f,rfl⟩ : ∃ f,fuel=f+1:=⟨fuel-1,by omega⟩
 rfl
end Go.Abs
end
section
namespace Go.Abs
open Go
structure Proj (a:Qa) (onto:List Int) (S:List (List Int)):Prop where
 es:Ests a S
 first:S[0]? = some (Q0p a onto)
 cl:∀ s∈S,∀ e∈Qx3 a onto,Q3s a onto s e≠[]→Q3s a onto s e∈S
 form:∀ s∈S,∃ fr,(∀ t∈fr,0≤t∧t<a.zH)∧s=Qrv a fr (Qic a onto)
section
variable {a:Qa} {onto:List Int} {S:List (List Int)}
variable (h:Right a) (hP:Proj a onto S)
include h hP
end
end Go.Abs
end
section
namespace Go.Abs
open Go
theorem Qbev {s:ByteArray} (hs:s.size<big):∃ b,Qf4 s=some b:=by
 have hb:s.size<1000000000000:=hs;unfold Qf4 Qd3;refine Qcx (fun x=>∃ n:Nat,x=(n:Int)∧n≤s.size) (fun x=>s.size-x.toNat) (fun x r=>∃ b,r=some b) ?_ Q9 _ ⟨0,rfl,Nat.zero_le _⟩ (by unfold Q9;omega);rintro k _ ⟨n,rfl,hn⟩ ih;by_cases hlt:n<s.size
 ·rw [if_pos (by omega)];have hc:∃ c,chrO s (n:Int)=some c:=by unfold chrO;rw [dif_pos ⟨by omega,by omega⟩];exact ⟨_,rfl⟩
  obtain ⟨c,hc⟩:=hc;rw [hc];simp only [Option.bind_some];have key:∀ (o:Option Bool) (K:Bool→Option Bool),(∃ x,o=some x)→(∀ x,∃ y,K x=some y)→∃ y,o.bind K=some y:=fun o K ⟨x,h⟩ h2=>by rw [h];exact h2 x
  refine key _ _ ?_ fun letter=>key _ _ ?_ fun z=>?_
  ·repeat' split
   all_goals exact ⟨_,rfl⟩
  ·repeat' split
   all_goals exact ⟨_,rfl⟩
  ·split
   ·exact ⟨_,rfl⟩
   ·rw [Qy (by omega)];exact ih _ ⟨n+1,rfl,by omega⟩ (by simp only [Int.toNat_natCast];omega)
 ·rw [if_neg (by omega)];split<;>exact ⟨_,rfl⟩
def Q3t (s:ByteArray):Bool:=decide (Qf4 s=some true)
theorem Qbew {s:ByteArray} (hs:s.size<big):Qf4 s=some (Q3t s):=by
 obtain ⟨b,h⟩:=Qbev hs;unfold Q3t;rw [h];cases b<;>simp
def Q3u (k:ByteArray) (seen:List ByteArray):Bool:=seen.any fun z=>decide (k=z)
def Qp9:List ByteArray→List Qe→Int
 | _,[]=>0
 | seen,x::l=>if Q3t x.Name=false then 7 else if Q3u x.Name seen=true then 8 else if x.Fault<0∨x.Fault>4 then 2 else if x.Fault≠0∧(x.Controllable=true∨x.Observable=true) then 13 else Qp9 (x.Name::seen) l
def Q9h (ev:List Qe):Int:=if 32<ev.length then 3 else Qp9 [] ev
theorem Qbb6 {ev:List Qe} (hl:ev.length<big) (hn:∀ x∈ev,x.Name.size<big):Qfs ev=some (Q9h ev):=by
 have hb:ev.length<1000000000000:=hl;unfold Qfs Qcb Q9h;by_cases h32:32<ev.length
 ·rw [if_pos (by omega),if_pos h32]
 rw [if_neg (by omega),if_neg h32];refine Qcx (fun x=>∃ (n:Nat) (c:List (ByteArray×Bool)) (seen:List ByteArray),x=((n:Int),c)∧n≤ev.length∧(∀ k,getM c k false=Q3u k seen)∧Qp9 seen (ev.drop n)=Qp9 [] ev) (fun x=>ev.length-x.1.toNat) (fun x r=>r=some (Qp9 [] ev)) ?_ Q9 _ ⟨0,[],[],rfl,Nat.zero_le _,fun k=>rfl,by simp⟩ (by simp only [Int.toNat_zero];unfold Q9;omega);rintro k _ ⟨n,c,seen,rfl,hle,hc,he⟩ ih;dsimp only;by_cases hlt:n<ev.length
 ·rw [if_pos (by omega),Qbg hlt];have hx:=hn _ (List.getElem_mem hlt);rw [List.drop_eq_getElem_cons hlt] at he;generalize ev[n]=x at hx he ⊢;simp only [Option.bind_some];rw [Qbew hx];simp only [Option.bind_some];simp only [Qp9] at he;by_cases h1:Q3t x.Name=false
  ·rw [if_pos h1] at he;rw [h1,if_neg (by simp),he]
  ·rw [if_neg h1] at he;rw [Bool.not_eq_false] at h1;rw [h1,if_pos rfl,hc];by_cases h2:Q3u x.Name seen=true
   ·rw [if_pos h2] at he;rw [if_pos h2,he]
   ·rw [if_neg h2] at he;rw [if_neg h2];have e3:(if x.Fault<0 then some true else some (decide (x.Fault>4)))=some (decide (x.Fault<0∨x.Fault>4)):=by
     by_cases h:x.Fault<0<;>simp [h]
    rw [e3];simp only [Option.bind_some];by_cases h3:x.Fault<0∨x.Fault>4
    ·rw [if_pos h3] at he;rw [decide_eq_true h3,if_pos rfl,he]
    ·rw [if_neg h3] at he;rw [decide_eq_false h3,if_neg (by simp)];have e4:(if x.Fault != 0 then (if x.Controllable then some true else some x.Observable) else some false)=some (decide (x.Fault≠0∧(x.Controllable=true∨x.Observable=true))):=by
      by_cases h:x.Fault=0<;>cases x.Controllable<;>cases x.Observable<;>simp [h]
     rw [e4];simp only [Option.bind_some];by_cases h4:x.Fault≠0∧(x.Controllable=true∨x.Observable=true)
     ·rw [if_pos h4] at he;rw [decide_eq_true h4,if_pos rfl,he]
     ·rw [if_neg h4] at he;rw [decide_eq_false h4,if_neg (by simp),Qy (by omega)];exact ih _ ⟨n+1,_,_,rfl,by omega,fun k=>by rw [Q8d,hc];by_cases h:k=x.Name<;>simp [h,Q3u],he⟩ (by simp only [Int.toNat_natCast];omega)
 ·rw [if_neg (by omega)];have:ev.drop n=[]:=List.drop_eq_nil_of_le (by omega);rw [this] at he;rw [← he];rfl
theorem Q43:∀ {l:List Qe} {seen:List ByteArray},Qp9 seen l=0→∀ x∈l,0≤x.Fault∧x.Fault≤4
 | [],_,_,x,hx=>by cases hx
 | y::l,seen,h,x,hx=>by
  simp only [Qp9] at h;split at h
  ·omega
  split at h
  ·omega
  split at h
  ·omega
  rename_i h3;split at h
  ·omega
  rcases List.mem_cons.1 hx with rfl|hx
  ·omega
  ·exact Q43 h x hx
theorem Qbhi {ev:List Qe} {a:Qa} (hl:ev.length<big) (hn:∀ x∈ev,x.Name.size<big) (he:Q9h ev=0) (hr:Right a) (hst:a.zH≤200) (hal:∀ x∈a.zD,x<ev.length):Plt ev a:=by
 have h:=he;unfold Q9h at h;split at h
 ·omega
 exact ⟨hr,hst,hal,Q43 h,by rw [Qbb6 hl hn,he],by omega⟩
def obsE (ev:List Qe):List Int:=(upto ev.length).filter fun i=>match getO ev i with|some x=>x.Observable|none=>false
theorem Qzc {ev:List Qe} (h:ev.length≤32):EvSet (obsE ev):=by
 refine ⟨fun x hx=>?_,(Q76 _).filter _⟩;have:=Qbav.1 (List.mem_filter.1 hx).1;omega
def selF (p:Qe→Bool) (ev:List Qe) (n:Nat):List Int:=((upto ev.length).drop n).filter fun i=>match getO ev i with|some x=>p x|none=>false
theorem Qbex {p:Qe→Bool} {ev:List Qe} {n:Nat} (h:n<ev.length):selF p ev n=(if p ev[n] then [(n:Int)] else [])++selF p ev (n+1):=by
 unfold selF;rw [List.drop_eq_getElem_cons (by rw [Q1a];simpa using h),Qbgd (n:=(ev.length:Int)) (by simpa using h),List.filter_cons,Qbg h];dsimp only;by_cases h:p ev[n]=true<;>simp [h]
theorem Qba3 {p:Qe→Bool} {ev:List Qe} (hl:ev.length<big) {fuel:Nat} (hf:ev.length<fuel) {F:(List Int×Int→Option (List Int))→List Int×Int→Option (List Int)}
  (hF:∀ (k:List Int×Int→Option (List Int)) (acc:List Int) (n:Nat) (h:n<ev.length),acc.length≤n→F k (acc,(n:Int))=k (if p ev[n] then acc++[(n:Int)] else acc,IntKind.wrap .i64 ((n:Int)+1)))
  (hlast:∀ (k:List Int×Int→Option (List Int)) (acc:List Int),F k (acc,(ev.length:Int))=some acc):Qb9 F fuel ([],0)=some (selF p ev 0):=by
 have hb:ev.length<1000000000000:=hl;refine (Qfn (len:=ev.length) (fun n (acc:List Int)=>(acc,(n:Int))) (fun n acc=>acc.length≤n) (fun n acc=>some (acc++selF p ev n)) ?_ ?_ fuel 0 [] (Nat.zero_le _) (by omega) (Nat.le_refl _)).trans (by simp)
 ·intro k n acc hn hi ih;rw [hF k acc n hn hi,Qy (by omega),ih _ (by by_cases h:p ev[n]=true<;>simp [h]<;>omega),Qbex hn];by_cases h:p ev[n]=true<;>simp [h]
 ·intro k acc _;have:selF p ev ev.length=[]:=by unfold selF;rw [List.drop_eq_nil_of_le (by rw [Q1a];simp)];rfl
  rw [hlast,this];simp
theorem Qbey {p:Qe→Bool} {ev:List Qe} (hl:ev.length<big) {f:Qe→Option Bool} (hf:∀ x,f x=some (p x)):Qji ev f=some (selF p ev 0):=by
 have hb:ev.length<1000000000000:=hl;unfold Qji Qd4;refine Qek (Qba3 (p:=p) hl (by unfold Q9;omega) ?_ ?_) rfl
 ·intro k acc n hn hacc;dsimp only;rw [if_pos (by omega),Qbg hn];simp only [Option.bind_some,hf];cases p ev[n]
  ·rfl
  ·rw [if_pos rfl,Qb4 (by simp only [List.length_cons,List.length_nil];unfold lim;omega)];rfl
 ·intro k acc;dsimp only;rw [if_neg (by omega)]
theorem Q3v {ev:List Qe} (hl:ev.length<big) (hc:Qfs ev=some 0):Qdv ev=some (obsE ev):=by
 unfold Qdv Qr Qi6 Qcq;rw [hc];simp only [Option.bind_some,show ((0:Int) != 0)=false from rfl,Bool.false_eq_true,if_false];rw [Qbey (f:=Qkl) (p:=fun x=>x.Observable) hl (fun x=>rfl)]
 rfl
theorem Qwz {ev:List Qe} (hl:ev.length<big):Qew ev=some (obsE ev):=by
 have hb:ev.length<1000000000000:=hl;unfold Qew Qbr;refine Qek (Qba3 (p:=fun x=>x.Observable) hl (by unfold Q9;omega) ?_ ?_) rfl
 ·intro k acc n hn hacc;dsimp only;rw [if_pos (by omega),Qbg hn];simp only [Option.bind_some];cases ev[n].Observable
  ·rfl
  ·rw [if_pos rfl,Qb4 (by simp only [List.length_cons,List.length_nil];unfold lim;omega)];rfl
 ·intro k acc;dsimp only;rw [if_neg (by omega)]
theorem Qbkr {l:List Int} {v:Int} (hl:l.length<big):Qht l v=some (decide (v∈l)):=by
 unfold Qht Qdf;refine (Qj5 (len:=l.length) (fun k=>some (decide (v∈l.drop k))) (by unfold Q9;unfold big at hl;omega) ?_ ?_).trans (by simp)
 ·intro k i hi ih;have hb:i<1000000000000:=by unfold big at hl;omega
  try dsimp only
  rw [if_pos (by omega),Qbg hi,Qy (by omega),ih,List.drop_eq_getElem_cons hi];simp only [Option.bind_some,List.mem_cons];by_cases h:l[i]=v
  ·simp [h]
  ·have:¬ v=l[i]:=fun e=>h e.symm;simp [h,this]
 ·intro k;simp
theorem Qbkb (x y:Lab):((x.State==y.State)&&((x.Classes==y.Classes)&&true))=decide (x=y):=by
 obtain ⟨s,c⟩:=x;obtain ⟨s',c'⟩:=y;rw [Bool.eq_iff_iff];simp
theorem Qbhj {l:List Lab} {v:Lab} (hl:l.length<big):Qeq l v=some (if v∈l then (l.idxOf v:Int) else -1):=by
 unfold Qeq Qba;refine (Qj5 (len:=l.length) (fun k=>some (if v∈l.drop k then ((k+(l.drop k).idxOf v:Nat):Int) else -1)) (by unfold Q9;unfold big at hl;omega) ?_ ?_).trans (by simp)
 ·intro k i hi ih;have hb:i<1000000000000:=by unfold big at hl;omega
  try dsimp only
  rw [if_pos (by omega),Qbg hi,Qy (by omega),ih,List.drop_eq_getElem_cons hi];simp only [Option.bind_some,List.mem_cons,List.idxOf_cons,Qbkb];by_cases h:v=l[i]
  ·simp [← h]
  ·have:¬ l[i]=v:=fun e=>h e.symm;have hbq:(l[i]==v)=false:=by simp [this]
   by_cases h2:v∈l.drop (i+1)<;>simp [h,h2,hbq,this];omega
 ·intro k;simp
def Qjd (l:List Lab) (set:List Int):List Lab:=set.map fun i=>(getO l i).getD ⟨0,0⟩
theorem Qbgi {l:List Lab} {set:List Int} (hs:set.length<big) (hr:∀ x∈set,0≤x∧x<l.length):Qgt l set=some (Qjd l set):=by
 have hb:set.length<1000000000000:=hs;unfold Qgt Qbx;refine Qek (Qbby (f:=fun i=>(getO l i).getD ⟨0,0⟩) hs (by unfold Q9;omega) ?_ ?_) rfl
 ·intro k acc n hn;dsimp only;rw [if_pos (by omega),Qbg hn];have h:=hr _ (List.getElem_mem hn);have hg:getO l set[n]=some (l[set[n].toNat]'(by omega)):=by rw [Qfm];exact ⟨h.1,List.getElem?_eq_getElem (by omega)⟩
  simp only [Option.bind_some,hg,Option.getD_some]
 ·intro k acc;dsimp only;rw [if_neg (by omega)]
end Go.Abs
end
section
namespace Go.Abs
open Go
variable {ev:List Qe} {a:Qa}
theorem Qbhk (hp:Plt ev a) {S:List Lab} (hB:LbI a S) {x:Lab} (hx:x∈S) {y:Qg} (hy:y∈a.zG):Qfw ev x y=some (toL ev x y):=by
 have hb:=Qbeu hp hy;have hc:=(Qbi6 (hB.ok x hx).2 (Qbeq hp y.Event)).2;unfold Qi7 Qed at hb;unfold Qfw Qbm toL;cases hg:getO ev y.Event with
 | none=>rw [hg] at hb;cases hb
 | some z =>
  rw [hg] at hb;simp only [Option.bind_some] at hb ⊢;by_cases hf:z.Fault>0
  ·rw [if_pos hf] at hb ⊢;cases hs:shlO .i64 1 (IntKind.wrap .i64 (z.Fault-1)) with
   | none=>rw [hs] at hb;cases hb
   | some s =>
    rw [hs] at hb;simp only [Option.bind_some,Option.some.injEq] at hb ⊢;rw [hb]
  ·rw [if_neg hf] at hb ⊢;simp only [Option.some.injEq] at hb;rw [← hb,hc]
theorem Qbez (hp:Plt ev a) (h0:0<a.zH) {N:Nat} (hN:LabN ev a N):Qd8 ev a=some (labA ev a N,(labs ev a N).1):=by
 have hs:=hp.r.small;have hst:=hp.r.st;have hNl:=hN.le hp h0;unfold Qd8 Qgq;obtain ⟨fuel,hfu,hge⟩ : ∃ f,Q9=f∧1099511627776≤f:=⟨_,rfl,Nat.le_refl _⟩;rw [hfu,if_neg (by simp;omega)];refine Qek (x:=((labs ev a N).1,[],[],[],(labs ev a N).2.1,(labs ev a N).2.2)) ?_ (by dsimp only;rw [hN.1];rfl);refine Qcx (fun x=>∃ (n:Nat),n≤N∧x=((labs ev a n).1,(n:Int),[],[],[],(labs ev a n).2.1,(labs ev a n).2.2)) (fun x=>N-x.2.1.toNat) (fun x r=>r=some ((labs ev a N).1,[],[],[],(labs ev a N).2.1,(labs ev a N).2.2)) ?_ fuel _ ⟨0,Nat.zero_le _,rfl⟩ (by simp only [Int.toNat_zero];omega);rintro k _ ⟨n,hn,rfl⟩ ih;dsimp only;by_cases hlt:n<N
 ·have hnl:=hN.2 n hlt;have hI:=labI hp n (by omega) (fun m hm=>hN.2 m (by omega));have hB:=Qza hp h0 n;obtain ⟨x,hx,e⟩:=Q1c hnl;have hxm:=List.mem_of_getElem? hx;have hll:=Qzb hp h0 n;have hml:(labs ev a n).2.1.length≤n:=by have:=Qf6 hI.ms hI.mr;simpa using this
  have hel:=hI.el;rw [if_pos (by omega),getB hx];simp only [Option.bind_some];rw [Qbkr hs.1.2.1];simp only [Option.bind_some];refine Qek (x:=((labs ev a (n+1)).1,(labs ev a (n+1)).2.1,(labs ev a (n+1)).2.2)) ?_ (by dsimp only;rw [Qy (by omega)];exact ih _ ⟨n+1,by omega,rfl⟩ (by simp only;omega));refine Qek (x:=(labs ev a (n+1)).2.1) ?_ ?_
  ·rw [e];by_cases hm:x.State∈a.zF
   ·rw [decide_eq_true hm,if_pos rfl,if_pos hm,Qb4 (by simp only [List.length_cons,List.length_nil];unfold lim;omega)]
    rfl
   ·rw [decide_eq_false hm,if_neg (by simp),if_neg hm]
  have hof:(outP a x.State)=a.zG.filter fun y=>y.From==x.State:=rfl;have hof2:=Q9g hp.r x.State;refine Qcx (fun z=>∃ (m:Nat) (S:List Lab) (r:List Qg),z=(S,(m:Int),r)∧m≤a.zG.length∧S[n]? = some x∧LbI a S∧r.length≤32*n+m ∧
   ((a.zG.drop m).filter fun y=>y.From==x.State).foldl (Qqn ev n x) (S,r)=((labs ev a (n+1)).1,(labs ev a (n+1)).2.2)) (fun z=>a.zG.length-z.2.1.toNat) (fun z r=>r=some ((labs ev a (n+1)).1,(labs ev a (n+1)).2.1,(labs ev a (n+1)).2.2)) ?_ fuel _ ⟨0,_,_,rfl,Nat.zero_le _,hx,hB,by omega,by rw [e,List.drop_zero,← hof]⟩ (by simp only [Int.toNat_zero];omega)
  rintro k' _ ⟨m,S,r,rfl,hm,hgs,hBS,hrl,hf⟩ ih';dsimp only;by_cases hlm:m<a.zG.length
  ·have hye:=List.getElem_mem hlm;rw [if_pos (by omega),Qbg hlm,getB hgs];rw [List.drop_eq_getElem_cons hlm] at hf;generalize a.zG[m]=y at hye hf ⊢;simp only [Option.bind_some];rw [List.filter_cons] at hf;have hSl:=hBS.len;have hst2:=hp.st;by_cases hfr:y.From=x.State
   ·rw [if_pos (by simp [hfr])] at hf;rw [if_neg (by simp [hfr]),Qbhk hp hBS (List.mem_of_getElem? hgs) hye];simp only [Option.bind_some];rw [Qbhj (by unfold big;omega)];simp only [Option.bind_some];have htl:=hBS.to hp (List.mem_of_getElem? hgs) hye;rw [List.foldl_cons] at hf;by_cases hin:toL ev x y∈S
    ·have hi:Qu9 S (toL ev x y)=S:=by unfold Qu9;rw [if_pos hin]
     rw [if_pos hin,if_neg (by omega)];simp only [Option.bind_some];rw [Qb4 (by simp only [List.length_cons,List.length_nil];unfold lim;omega)];simp only [Option.bind_some];rw [Qy (by omega)];refine ih' _ ⟨m+1,S,_,rfl,by omega,hgs,hBS,by rw [List.length_append];simp only [List.length_cons,List.length_nil];omega,?_⟩ (by simp only;omega);rw [← hf];unfold Qqn;rw [hi]
    ·have hi:Qu9 S (toL ev x y)=S++[toL ev x y]:=by unfold Qu9;rw [if_neg hin]
     rw [if_neg hin,if_pos (by omega),Qb4 (by simp only [List.length_cons,List.length_nil];unfold lim;omega)];simp only [Option.bind_some];rw [Qb4 (by simp only [List.length_cons,List.length_nil];unfold lim;omega)];simp only [Option.bind_some];rw [Qy (by omega)];have hBi:=hBS.add htl;rw [hi] at hBi;refine ih' _ ⟨m+1,S++[toL ev x y],_,rfl,by omega,by rw [List.getElem?_append_left (List.getElem?_eq_some_iff.1 hgs).1];exact hgs,hBi,by rw [List.length_append];simp only [List.length_cons,List.length_nil];omega,?_⟩ (by simp only;omega);rw [← hf];unfold Qqn;rw [hi,List.idxOf_append,if_neg hin];simp
   ·rw [if_neg (by simp [hfr])] at hf;rw [if_pos (by simp [hfr])];simp only [Option.bind_some];rw [Qy (by omega)];exact ih' _ ⟨m+1,S,r,rfl,by omega,hgs,hBS,by omega,hf⟩ (by simp only;omega)
  ·rw [if_neg (by omega)];have hd:a.zG.drop m=[]:=List.drop_eq_nil_of_le (by omega);rw [hd,List.filter_nil,List.foldl_nil,Prod.mk.injEq] at hf;obtain ⟨rfl,rfl⟩:=hf
   rfl
 ·obtain rfl:n=N:=by omega
  rw [if_neg (by have:=hN.1;omega)]
theorem Q9i (h0:a.zH=0):Qd8 ev a=some (⟨a.zD,0,[],[]⟩,[]):=by
 unfold Qd8 Qgq;rw [if_pos (by simp [h0])]
structure Lbd (ev:List Qe) (a b:Qa) (l:List Lab):Prop where
 p:Qdl ev a=some (b,l,0)
 w:Qd8 ev a=some (b,l)
 r:Right b
 n:b.zH=l.length
 z:a.zH=0↔b.zH=0
 al:b.zD=a.zD
 few:l.length≤3200
theorem Qbhl (hp:Plt ev a):∃ b l,Lbd ev a b l:=by
 by_cases h0:a.zH=0
 ·exact ⟨_,_,Qbb5 hp h0,Q9i h0,⟨hp.r.al0,hp.r.al,⟨Int.le_refl _,by simp⟩,fun x hx=>by simp at hx,List.Pairwise.nil,fun x hx=>by simp at hx,List.Pairwise.nil⟩,rfl,by simp [h0],rfl,by simp⟩
 ·have hpos:0<a.zH:=by have:=hp.r.st;omega
  obtain ⟨N,hN⟩:=Qbet hp hpos;have h1:1≤N:=by
   rcases Nat.eq_zero_or_pos N with h|h
   ·subst h;have:=hN.1;simp [labs] at this
   ·exact h
  have:=hN.le hp hpos;exact ⟨_,_,Qba2 hp hpos hN,Qbez hp hpos hN,Qbb4 hp hpos hN,by rw [hN.1];rfl,by simp [labA];omega,rfl,by rw [hN.1];exact this⟩
end Go.Abs
end
section
namespace Go.Abs
open Go
def nmE (n:Nat):ByteArray:=strB [IntKind.wrap .u8 (97+IntKind.wrap .u8 (n:Int))]
def mkEv (n:Nat) (x:Int):Qe:=if 48≤x∧x<52 then ⟨nmE n,false,false,false,x-47⟩ else ⟨nmE n,andI .u8 x 1==1,andI .u8 x 2==2,andI .u8 x 4==4,0⟩
def evL:Nat→List Int→List Qe
 | _,[]=>[]
 | n,x::t=>mkEv n x::evL (n+1) t
theorem Q8e (n:Nat) (x:Int):(mkEv n x).Name=nmE n:=by unfold mkEv;split<;>rfl
theorem Qbi7 {n:Nat} {x:Int} (hx:0≤x∧x<256):(0≤(mkEv n x).Fault∧(mkEv n x).Fault≤4)∧((mkEv n x).Fault≠0→(mkEv n x).Controllable=false∧(mkEv n x).Observable=false):=by
 unfold mkEv;split
 ·exact ⟨⟨by dsimp only;omega,by dsimp only;omega⟩,fun _=>⟨rfl,rfl⟩⟩
 ·exact ⟨⟨by simp,by simp⟩,fun h=>absurd rfl h⟩
theorem Qbkc {F:Int×Int×Int×Int×Int} {n:Nat} {x:Int} (h:[F.1,F.2.1,F.2.2.1,F.2.2.2.1,F.2.2.2.2][n]? = some x):rowO [F.1,F.2.1,F.2.2.1,F.2.2.2.1,F.2.2.2.2] (Int.toNat (n:Int)*1)=some x:=by
 unfold rowO;rw [Int.toNat_natCast,Nat.mul_one];exact h
theorem Qbb7 {F:Int×Int×Int×Int×Int} (hF:∀ x∈[F.1,F.2.1,F.2.2.1,F.2.2.2.1,F.2.2.2.2],0≤x∧x<256):Qgb F=some (evL 0 [F.1,F.2.1,F.2.2.1,F.2.2.2.1,F.2.2.2.2]):=by
 unfold Qgb Qcj;obtain ⟨fuel,hfu,hge⟩ : ∃ f,Q9=f∧1099511627776≤f:=⟨_,rfl,Nat.le_refl _⟩;rw [hfu];have hL:[F.1,F.2.1,F.2.2.1,F.2.2.2.1,F.2.2.2.2].length=5:=rfl;have hat:=fun n x=>Qbkc (F:=F) (n:=n) (x:=x);generalize [F.1,F.2.1,F.2.2.1,F.2.2.2.1,F.2.2.2.2]=L at hF hL hat ⊢;refine Qek (x:=evL 0 L) ?_ rfl;refine (Qfn (len:=5) (fun n (acc:List Qe)=>(acc,(n:Int))) (fun n acc=>acc.length=n) (fun n acc=>some (acc++evL n (L.drop n))) ?_ ?_ fuel 0 [] (by omega) (by omega) rfl).trans (by simp)
 ·intro k n acc hn hi ih;have hlt:n<L.length:=by omega
  have hx:=hF _ (List.getElem_mem hlt);have hr:=hat n _ (List.getElem?_eq_getElem hlt);have hin:inO 5 (n:Int)=some ():=by unfold inO;rw [if_pos ⟨by omega,by omega⟩]
  rw [List.drop_eq_getElem_cons hlt];generalize L[n]=x at hx hr ⊢;dsimp only;rw [if_pos (by omega),hin];simp only [Option.bind_some,hr];have hfin:(appO acc [mkEv n x]).bind (fun x33=>k (x33,IntKind.wrap .i64 ((n:Int)+1)))=some (acc++evL n (x::L.drop (n+1))):=by
   rw [Qb4 (by simp only [List.length_cons,List.length_nil];unfold lim;omega),Option.bind_some,Qy (by omega),ih _ (by simp [hi])];simp [evL]
  by_cases h1:x≥48
  ·rw [if_pos h1];simp only [Option.bind_some];by_cases h2:x<52
   ·rw [decide_eq_true h2,if_pos rfl];simp only [Option.bind_some];rw [show IntKind.wrap .i64 ((IntKind.wrap .i64 x)-47)=x-47 from by rw [Qkp (x:=x) (by omega) (by omega),Qkp (by omega) (by omega)]];have:mkEv n x=⟨nmE n,false,false,false,x-47⟩:=by unfold mkEv;rw [if_pos ⟨h1,h2⟩]
    rw [this] at hfin;exact hfin
   ·rw [decide_eq_false h2,if_neg (by simp)];simp only [Option.bind_some];have:mkEv n x=⟨nmE n,andI .u8 x 1==1,andI .u8 x 2==2,andI .u8 x 4==4,0⟩:=by unfold mkEv;rw [if_neg (by omega)]
    rw [this] at hfin;exact hfin
  ·rw [if_neg h1];simp only [Option.bind_some];rw [if_neg (by simp)];simp only [Option.bind_some];have:mkEv n x=⟨nmE n,andI .u8 x 1==1,andI .u8 x 2==2,andI .u8 x 4==4,0⟩:=by unfold mkEv;rw [if_neg (by omega)]
   rw [this] at hfin;exact hfin
 ·intro k acc hi;dsimp only;rw [if_neg (by omega),List.drop_eq_nil_of_le (by omega)];simp [evL]
theorem Qva {seen:List ByteArray} {n:Nat} {x:Int} {l:List Qe} (hx:0≤x∧x<256) (h1:Q3t (nmE n)=true) (h2:Q3u (nmE n) seen=false):Qp9 seen (mkEv n x::l)=Qp9 (nmE n::seen) l:=by
 obtain ⟨h3,h4⟩:=Qbi7 (n:=n) hx;simp only [Qp9,Q8e];rw [if_neg (by simp [h1]),if_neg (by simp [h2]),if_neg (by omega),if_neg];rintro ⟨h5,h6⟩;obtain ⟨h7,h8⟩:=h4 h5;rw [h7,h8] at h6;simp at h6
theorem Qbgj:(Q3t (nmE 0)&&Q3t (nmE 1)&&Q3t (nmE 2)&&Q3t (nmE 3)&&Q3t (nmE 4) && !Q3u (nmE 0) [] && !Q3u (nmE 1) [nmE 0] && !Q3u (nmE 2) [nmE 1,nmE 0] && !Q3u (nmE 3) [nmE 2,nmE 1,nmE 0] && !Q3u (nmE 4) [nmE 3,nmE 2,nmE 1,nmE 0])=true:=by kernel_rfl
theorem Qbgk:(decide ((nmE 0).size=1)&&decide ((nmE 1).size=1)&&decide ((nmE 2).size=1)&&decide ((nmE 3).size=1)&&decide ((nmE 4).size=1))=true:=by kernel_rfl
structure Evf (ev:List Qe):Prop where
 len:ev.length=5
 err:Q9h ev=0
 nm:∀ x∈ev,x.Name.size<big
theorem Qbkd {F:Int×Int×Int×Int×Int} (hF:∀ x∈[F.1,F.2.1,F.2.2.1,F.2.2.2.1,F.2.2.2.2],0≤x∧x<256):Evf (evL 0 [F.1,F.2.1,F.2.2.1,F.2.2.2.1,F.2.2.2.2]):=by
 obtain ⟨a,b,c,d,e⟩:=F;have hn:=Qbgj;have hz:=Qbgk;simp only [Bool.and_eq_true,Bool.not_eq_true',decide_eq_true_eq] at hn hz;simp only [List.mem_cons,List.not_mem_nil,or_false,forall_eq_or_imp,forall_eq] at hF;refine ⟨rfl,?_,?_⟩
 ·unfold Q9h;rw [if_neg (by simp [evL])];simp only [evL];rw [Qva hF.1 (by simp [hn]) (by simp [hn]),Qva hF.2.1 (by simp [hn]) (by simp [hn]),Qva hF.2.2.1 (by simp [hn]) (by simp [hn]),Qva hF.2.2.2.1 (by simp [hn]) (by simp [hn]),Qva hF.2.2.2.2 (by simp [hn]) (by simp [hn])]
  rfl
 ·intro x hx;simp only [evL,List.mem_cons,List.not_mem_nil,or_false] at hx;rcases hx with rfl|rfl|rfl|rfl|rfl<;>rw [Q8e]<;>(try simp only [Nat.zero_add,Nat.reduceAdd])<;>unfold big<;>omega
structure Qbe0 (p:Qbj):Prop where
 ev:0≤p.Events∧p.Events<256
 gr:Qbhh p.Graph
 fl:∀ x∈[p.Flags.1,p.Flags.2.1,p.Flags.2.2.1,p.Flags.2.2.2.1,p.Flags.2.2.2.2],0≤x∧x<256
theorem Qbgl {p:Qbj} (hp:Qbe0 p):∃ ev a,Qg8 p=some (ev,a)∧Plt ev a∧Evf ev∧a.zH≤5∧Evs a.zD∧a.zD.length≤5:=by
 obtain ⟨al,hal,hE⟩:=Qbem hp.ev.1 hp.ev.2;obtain ⟨m,hm,rfl,hmk,hst⟩:=Qbi4 hE hp.gr;have hev:=Qbkd hp.fl;refine ⟨_,Qu6 m,?_,?_,hev,?_,hE,hE.len⟩
 ·unfold Qg8 Qc1;rw [Qbb7 hp.fl];simp only [Option.bind_some];rw [hal];simp only [Option.bind_some];rw [hmk];rfl
 ·refine Qbhi (by rw [hev.len];decide) hev.nm hev.err (Q71 hm) ?_ (fun x hx=>by rw [hev.len];have:=hE.rg x hx;omega);have h1:=(Qvq hm).1.len;simp only [Qu6];omega
 ·have h1:=(Qvq hm).1.len;simp only [Qu6];omega
end Go.Abs
end
section
namespace Go.Proofs
open Go Go.Abs
theorem Qbgm {x:Int} (h:wfI .u8 x):0≤x∧x<256:=by
 unfold wfI at h;simp [Lit.wf,IntKind.min,IntKind.max,IntKind.bits,IntKind.signed] at h;omega
theorem Qbkh {p:Qbj} (h:W_29 p):Qbe0 p:=by
 unfold W_29 W_22 W_26 W_24 W_23 W_27 W_5 at h;obtain ⟨h0,⟨h1,h2,⟨a1,a2,a3,a4,a5⟩,⟨b1,b2,b3,b4,b5⟩,⟨c1,c2,c3,c4,c5⟩,⟨d1,d2,d3,d4,d5⟩,⟨e1,e2,e3,e4,e5⟩⟩,f1,f2,f3,f4,f5⟩:=h;refine ⟨Qbgm h0,⟨Qbgm h1,fun x hx=>?_⟩,fun x hx=>?_⟩
 ·simp only [List.mem_cons,List.not_mem_nil,or_false] at hx;rcases hx with rfl|rfl|rfl|rfl|rfl|rfl|rfl|rfl|rfl|rfl|rfl|rfl|rfl|rfl|rfl|rfl|rfl|rfl|rfl|rfl|rfl|rfl|rfl|rfl|rfl<;>exact Qbgm (by assumption)
 ·simp only [List.mem_cons,List.not_mem_nil,or_false] at hx;rcases hx with rfl|rfl|rfl|rfl|rfl<;>exact Qbgm (by assumption)
end Go.Proofs
end
section
namespace Go.Abs
open Go
structure Mrg (kp:Bool→Bool→Bool) (l m a b out:List Int):Prop where
 sa:a.Pairwise (· < ·)
 sb:b.Pairwise (· < ·)
 so:out.Pairwise (· < ·)
 oa:∀ o∈out,∀ x∈a,o<x
 ob:∀ o∈out,∀ x∈b,o<x
 ln:out.length+a.length+b.length<big
 eq:∀ x,(x∈out∨kp (decide (x∈a)) (decide (x∈b))=true)↔kp (decide (x∈l)) (decide (x∈m))=true
theorem Mrg.step {kp:Bool→Bool→Bool} (h0:kp false false=false) {l m a b out a' b' : List Int} {z:Int} {p q:Bool} (h:Mrg kp l m a b out) (ha:a=if p then z::a' else a') (hb:b=if q then z::b' else b') (hpq:p=true∨q=true)
  (hza:∀ x∈a',z<x) (hzb:∀ x∈b',z<x):Mrg kp l m a' b' (if kp p q then out++[z] else out):=by
 have ma:∀ x,x∈a↔(p=true∧x=z)∨x∈a':=fun x=>by rw [ha];cases p<;>simp
 have mb:∀ x,x∈b↔(q=true∧x=z)∨x∈b':=fun x=>by rw [hb];cases q<;>simp
 have hoz:∀ o∈out,o<z:=fun o ho=>by
  rcases hpq with rfl|rfl
  ·exact h.oa o ho z ((ma z).2 (.inl ⟨rfl,rfl⟩))
  ·exact h.ob o ho z ((mb z).2 (.inl ⟨rfl,rfl⟩))
 have hm:∀ o,o∈(if kp p q then out++[z] else out)↔o∈out∨(kp p q=true∧o=z):=fun o=>by cases kp p q<;>simp
 have hza' : z∉a':=fun hx=>by have:=hza z hx;omega
 have hzb' : z∉b':=fun hx=>by have:=hzb z hx;omega
 refine ⟨?_,?_,?_,?_,?_,?_,fun x=>?_⟩
 ·have:=h.sa;rw [ha] at this;cases p
  ·exact this
  ·exact (List.pairwise_cons.1 this).2
 ·have:=h.sb;rw [hb] at this;cases q
  ·exact this
  ·exact (List.pairwise_cons.1 this).2
 ·cases kp p q
  ·exact h.so
  ·simp only [if_true];rw [List.pairwise_append];exact ⟨h.so,by simp,fun o ho y hy=>by simp at hy;subst hy;exact hoz o ho⟩
 ·intro o ho x hx;rcases (hm o).1 ho with ho|⟨_,rfl⟩
  ·exact h.oa o ho x ((ma x).2 (.inr hx))
  ·exact hza x hx
 ·intro o ho x hx;rcases (hm o).1 ho with ho|⟨_,rfl⟩
  ·exact h.ob o ho x ((mb x).2 (.inr hx))
  ·exact hzb x hx
 ·have h1:=h.ln;have h2:a.length=a'.length+if p then 1 else 0:=by rw [ha];cases p<;>simp
  have h3:b.length=b'.length+if q then 1 else 0:=by rw [hb];cases q<;>simp
  have h4:(if kp p q then out++[z] else out).length≤out.length+1:=by split<;>simp
  rcases hpq with rfl|rfl<;>simp at h2 h3<;>omega
 ·rw [← h.eq x,hm];by_cases hx:x=z
  ·subst hx;have e1:decide (x∈a)=p:=by rw [Bool.eq_iff_iff,decide_eq_true_eq,ma];simp [hza']
   have e2:decide (x∈b)=q:=by rw [Bool.eq_iff_iff,decide_eq_true_eq,mb];simp [hzb']
   rw [e1,e2,decide_eq_false hza',decide_eq_false hzb',h0];simp
  ·have e1:decide (x∈a)=decide (x∈a'):=decide_eq_decide.2 (by rw [ma];simp [hx]);have e2:decide (x∈b)=decide (x∈b'):=decide_eq_decide.2 (by rw [mb];simp [hx]);rw [e1,e2];simp [hx]
theorem Qba4 {kp:Bool→Bool→Bool} {keep:Bool→Bool→Option Bool} (hk:∀ p q,keep p q=some (kp p q)) (h0:kp false false=false) {l m:List Int} (hl:l.Pairwise (· < ·)) (hm:m.Pairwise (· < ·)) (hlm:l.length+m.length<big) :
  ∃ R,Qh1 l m keep=some R∧R.Pairwise (· < ·)∧∀ x,x∈R↔kp (decide (x∈l)) (decide (x∈m))=true:=by
 unfold Qh1 Qcc;obtain ⟨fuel,hfu,hge⟩ : ∃ f,Q9=f∧1099511627776≤f:=⟨_,rfl,Nat.le_refl _⟩;rw [hfu];have hg:∀ (x:Int) (l:List Int),getO (x::l) 0=some x:=fun x l=>Qbg (l:=x::l) (n:=0) (by simp);have hd:∀ (x:Int) (l:List Int),slcO (x::l) 1 ((x::l).length:Int)=some l:=fun x l=>by
  have:=Q5y (l:=x::l) (i:=1) (j:=(x::l).length) (by simp) (by simp);rw [List.take_length] at this;exact this
 have key:=Qcx (F:=fun (k14:List Int×List Int×List Int→Option (List Int)) ((a11,b12,out13):(List Int)×(List Int)×(List Int))=>(((if ((a11.length:Int)>0) then some true else some (decide ((b12.length:Int)>0)))).bind fun (x16:Bool)=>(if x16 then (((if ((a11.length:Int)>0) then (if ((b12.length:Int)==0) then some true else ((getO a11 0).bind fun x20=>((getO b12 0).bind fun x22=>some (decide (x20≤x22))))) else some false)).bind fun (inA24:Bool)=>(((if ((b12.length:Int)>0) then (if ((a11.length:Int)==0) then some true else ((getO b12 0).bind fun x27=>((getO a11 0).bind fun x29=>some (decide (x27≤x29))))) else some false)).bind fun (inB31:Bool)=>(((if inA24 then ((getO a11 0).bind fun x33=>((slcO a11 1 (a11.length:Int)).bind fun x35=>some (x35,x33))) else some (a11,0))).bind fun ((a37,x38):(List Int)×Int)=>(((if inB31 then ((getO b12 0).bind fun x40=>((slcO b12 1 (b12.length:Int)).bind fun x42=>some (x42,x40))) else some (b12,x38))).bind fun ((b44,x45):(List Int)×Int)=>((keep inA24 inB31).bind fun x47=>(if x47 then ((appO out13 [x45]).bind fun x49=>k14 (a37,b44,x49)) else k14 (a37,b44,out13))))))) else some out13)))
  (fun x:List Int×List Int×List Int=>Mrg kp l m x.1 x.2.1 x.2.2) (fun x=>x.1.length+x.2.1.length) (fun _ r=>∃ R,r=some R∧R.Pairwise (· < ·)∧∀ x,x∈R↔kp (decide (x∈l)) (decide (x∈m))=true) ?_ fuel (l,m,[]) ⟨hl,hm,by simp,by simp,by simp,by simpa using hlm,by simp⟩ (by unfold big at hlm;dsimp only;omega)
 ·obtain ⟨R,h1,h2,h3⟩:=key;exact ⟨R,by rw [h1];rfl,h2,h3⟩
 rintro k ⟨a,b,out⟩ h ih;dsimp only at h ih ⊢;have hln:=h.ln;have happ:∀ z:Int,out.length+1≤big→appO out [z]=some (out++[z]):=fun z hz=>Qb4 (by simp only [List.length_cons,List.length_nil];unfold lim;unfold big at hz;omega);have fin:∀ (a' b' : List Int) (z:Int) (p q:Bool),out.length+1≤big→Mrg kp l m a' b' (if kp p q then out++[z] else out)→a'.length+b'.length<a.length+b.length →
   ∃ R,((keep p q).bind fun x47=>if x47 then ((appO out [z]).bind fun x49=>k (a',b',x49)) else k (a',b',out))=some R∧R.Pairwise (· < ·)∧∀ x,x∈R↔kp (decide (x∈l)) (decide (x∈m))=true:=by
  intro a' b' z p q hz hM hlt;rw [hk,happ z hz];simp only [Option.bind_some];have:=ih (a',b',if kp p q then out++[z] else out) hM hlt;cases hkp:kp p q<;>simp only [hkp,Bool.false_eq_true,if_false,if_true] at this ⊢ <;> exact this
 match a,b,h,fin,hln with
 | [],[],h,fin,hln =>
  refine ⟨out,by simp,h.so,fun x=>?_⟩;rw [← h.eq x];simp [h0]
 | [],y::ys,h,fin,hln =>
  rw [show ((([]:List Int).length:Nat):Int)=0 from rfl];have hp:(((y::ys).length:Nat):Int)>0:=by simp only [List.length_cons];omega
  rw [if_neg (by omega),Option.bind_some,if_pos (by simp)];rw [if_neg (by omega),Option.bind_some,if_pos hp,if_pos (by rfl),Option.bind_some,if_neg (by simp),Option.bind_some,if_pos rfl,hg,hd];simp only [Option.bind_some];exact fin [] ys y false true (by simp only [List.length_cons] at hln;omega) (h.step h0 (z:=y) (p:=false) (q:=true) rfl rfl (.inr rfl) (by simp) (List.pairwise_cons.1 h.sb).1) (by simp)
 | x::xs,[],h,fin,hln =>
  rw [show ((([]:List Int).length:Nat):Int)=0 from rfl];have hp:(((x::xs).length:Nat):Int)>0:=by simp only [List.length_cons];omega
  rw [if_pos hp,Option.bind_some,if_pos rfl,if_pos hp,if_pos (by rfl),Option.bind_some,if_neg (by omega),Option.bind_some,if_pos rfl,hg,hd];simp only [Option.bind_some,Bool.false_eq_true,if_false];exact fin xs [] x true false (by simp only [List.length_cons] at hln;omega) (h.step h0 (z:=x) (p:=true) (q:=false) rfl rfl (.inl rfl) (List.pairwise_cons.1 h.sa).1 (by simp)) (by simp)
 | x::xs,y::ys,h,fin,hln =>
  obtain ⟨ha1,ha2⟩:=List.pairwise_cons.1 h.sa;obtain ⟨hb1,hb2⟩:=List.pairwise_cons.1 h.sb;have hp:(((x::xs).length:Nat):Int)>0:=by simp only [List.length_cons];omega
  have hq:(((y::ys).length:Nat):Int)>0:=by simp only [List.length_cons];omega
  have hp0:((((x::xs).length:Nat):Int)==0)=false:=by simp only [beq_eq_false_iff_ne];omega
  have hq0:((((y::ys).length:Nat):Int)==0)=false:=by simp only [beq_eq_false_iff_ne];omega
  rw [if_pos hp,Option.bind_some,if_pos rfl,if_pos hp,if_neg (by rw [hq0];simp),hg,hg,Option.bind_some,Option.bind_some,Option.bind_some,if_pos hq,if_neg (by rw [hp0];simp),Option.bind_some,Option.bind_some,Option.bind_some,hd,hd];simp only [List.length_cons] at hln;rcases Int.lt_trichotomy x y with hxy|rfl|hxy
  ·have e1:decide (x≤y)=true:=decide_eq_true (by omega);have e2:decide (y≤x)=false:=decide_eq_false (by omega);simp only [e1,e2,Option.bind_some,if_true,Bool.false_eq_true,if_false];exact fin xs (y::ys) x true false (by omega) (h.step h0 (z:=x) (p:=true) (q:=false) rfl rfl (.inl rfl) ha1 (fun z hz=>by
    rcases List.mem_cons.1 hz with rfl|hz
    ·exact hxy
    ·have:=hb1 z hz;omega)) (by simp)
  ·have e1:decide (x≤x)=true:=decide_eq_true (by omega);simp only [e1,Option.bind_some,if_true];exact fin xs ys x true true (by omega) (h.step h0 (z:=x) (p:=true) (q:=true) rfl rfl (.inl rfl) ha1 hb1) (by simp;omega)
  ·have e1:decide (x≤y)=false:=decide_eq_false (by omega);have e2:decide (y≤x)=true:=decide_eq_true (by omega);simp only [e1,e2,Option.bind_some,if_true,Bool.false_eq_true,if_false];exact fin (x::xs) ys y false true (by omega) (h.step h0 (z:=y) (p:=false) (q:=true) rfl rfl (.inr rfl) (fun z hz=>by
    rcases List.mem_cons.1 hz with rfl|hz
    ·exact hxy
    ·have:=ha1 z hz;omega) hb1) (by simp)
end Go.Abs
end
section
namespace Go.Abs
open Go
theorem Q8f {l m:List Int} (hl:l.Pairwise (· < ·)) (hm:m.Pairwise (· < ·)) (hlm:l.length+m.length<big) :
  ∃ R,Qg6 l m=some R∧R.Pairwise (· < ·)∧∀ x,x∈R↔x∈l∧x∈m:=by
 unfold Qg6 Qcy;obtain ⟨R,h1,h2,h3⟩:=Qba4 (kp:=fun p q=>p&&q) (keep:=Qia) (fun p q=>by cases p<;>cases q<;>rfl) rfl hl hm hlm;exact ⟨R,by rw [h1];rfl,h2,fun x=>by rw [h3];simp⟩
end Go.Abs
end
section
namespace Go.Abs
open Go
theorem Sts.big {a:Qa} (ha:Right a) {l:List Int} (h:Sts a l):l.length<Abs.big:=by have:=h.len;have:=ha.st;unfold Abs.big;omega
theorem EvSet.big {l:List Int} (h:EvSet l):l.length<Abs.big:=by have:=h.len;unfold Abs.big;omega
theorem Q9j {a:Qa} (h:Right a) {onto obs:List Int} (ho:EvSet onto) (hl:obs.length<big):Qgs a onto obs=some (if (obs.all fun x=>decide (x∈Qx3 a onto))=true then (estP a onto obs,0) else ([],9)):=by
 have hst:=h.st;unfold Qgs Qcr;rw [Q8c h ho.big,ho.err];simp only [Option.bind_some,show ((0:Int) != 0)=false from rfl,Bool.false_eq_true,if_false];rw [Qbb1 h ho.big];simp only [Option.bind_some];rw [Q9f h hl];simp only [Option.bind_some];by_cases hk:(obs.all fun x=>decide (x∈Qx3 a onto))=true
 ·rw [if_pos hk,if_pos hk,Qbgg h onto];simp only [Option.bind_some];refine Qek (x:=estP a onto obs) ?_ rfl;refine (Q4x (l:=obs) (fun n (s:List Int)=>(s,(n:Int))) (Q3s a onto) (fun s=>some s) (fun n s=>Sts a s) ?_ ?_ (by unfold Q9;unfold Abs.big at hl;omega) _ (Q40 a onto)).trans rfl
  ·intro k n hn s hs;refine ⟨Q79 _ _ _ _,?_⟩;have:=hs.len;dsimp only;rw [if_pos (by omega),Qbg hn];simp only [Option.bind_some];rw [Qbb2 h hs.rg (by omega)];simp only [Option.bind_some];rw [Qy (by unfold Abs.big at hl;omega)]
  ·intro k s _;dsimp only;rw [if_neg (by omega)]
 ·rw [if_neg hk,if_neg hk]
theorem Q56 {a:Qa} {onto:List Int}:∀ (obs:List Int),Sts a (estP a onto obs):=by
 intro obs;unfold estP;rcases List.eq_nil_or_concat obs with rfl|⟨l,x,rfl⟩
 ·exact Q40 _ _
 ·rw [List.concat_eq_append,List.foldl_append];exact Q79 _ _ _ _
theorem Qbe1 {a:Qa} {o o' : List Int} (h:∀ x∈a.zD,x∈o↔x∈o'):Qx3 a o=Qx3 a o'∧Qic a o=Qic a o':=by
 unfold Qx3 Qic;exact ⟨List.filter_congr fun x hx=>decide_eq_decide.2 (h x hx),List.filter_congr fun x hx=>by rw [decide_eq_decide.2 (h x hx)]⟩
theorem Qbe2 {a:Qa} {o o' : List Int} (h:∀ x∈a.zD,x∈o↔x∈o') (w:List Int):estP a o w=estP a o' w:=by
 have e:=(Qbe1 h).2;have h1:Q3s a o=Q3s a o':=by funext s x;unfold Q3s;rw [e]
 unfold estP Q0p;rw [h1,e]
def okW (ev:List Qe) (a:Qa) (w:List Int):Bool:=w.all fun x=>decide (x∈obsE ev)&&decide (x∈a.zD)
theorem Q8g {w:List Int} {f:Int→Option Bool} {p:Int→Bool} (hf:∀ x,f x=some (p x)) (hw:w.length<big):Qb3 w f=some (w.any p):=by
 have hb:w.length<1000000000000:=hw;unfold Qb3 Qq Qga Qb8;obtain ⟨fuel,hfu,hge⟩ : ∃ f,Q9=f∧1099511627776≤f:=⟨_,rfl,Nat.le_refl _⟩;rw [hfu];have hloop:∀ (F:(Int→Option Int)→Int→Option Int),(∀ k (i:Nat) (hi:i<w.length),F k (i:Int)=if p w[i] then some (i:Int) else k (IntKind.wrap .i64 ((i:Int)+1)))→(∀ k,F k (w.length:Int)=some (-1))→∃ z,Qb9 F fuel 0=some z∧(decide (z≥0))=w.any p:=by
  intro F h1 h2;refine Qcx (fun x=>∃ n:Nat,x=(n:Int)∧n≤w.length∧(w.drop n).any p=w.any p) (fun x=>w.length-x.toNat) (fun x r=>∃ z,r=some z∧(decide (z≥0))=w.any p) ?_ fuel _ ⟨0,rfl,Nat.zero_le _,by simp⟩ (by omega);rintro k _ ⟨n,rfl,hn,he⟩ ih;by_cases hlt:n<w.length
  ·rw [h1 k n hlt];rw [List.drop_eq_getElem_cons hlt,List.any_cons] at he;by_cases hp:p w[n]=true
   ·rw [if_pos hp];rw [hp,Bool.true_or] at he;exact ⟨_,rfl,by rw [← he];simp⟩
   ·rw [if_neg hp,Qy (by omega)];rw [Bool.not_eq_true] at hp;rw [hp,Bool.false_or] at he;exact ih _ ⟨n+1,rfl,by omega,he⟩ (by simp only [Int.toNat_natCast];omega)
  ·obtain rfl:n=w.length:=by omega
   rw [h2];rw [List.drop_eq_nil_of_le (Nat.le_refl _)] at he;exact ⟨-1,rfl,by rw [← he];rfl⟩
 have key' : ∀ (F:(Int→Option Int)→Int→Option Int),(∀ k (i:Nat) (hi:i<w.length),F k (i:Int)=if p w[i] then some (i:Int) else k (IntKind.wrap .i64 ((i:Int)+1)))→(∀ k,F k (w.length:Int)=some (-1))→((Qb9 F fuel 0).bind fun x13=>some (decide (x13≥0)))=some (w.any p):=fun F h1 h2=>by
  obtain ⟨z,h3,h4⟩:=hloop F h1 h2;rw [h3,← h4];rfl
 refine key' _ ?_ ?_
 ·intro k i hi;rw [if_pos (by omega),Qbg hi];simp only [Option.bind_some,hf]
 ·intro k;rw [if_neg (by omega)]
section
variable {ev:List Qe} {a b:Qa} {l:List Lab}
theorem Q0q (hp:Plt ev a) (hb:Lbd ev a b l) {w:List Int} (hw:w.length<big):Qep ev a w=some (if okW ev a w then (Qjd l (estP b (obsE ev) w),0) else ([],9)):=by
 have hs:=hp.r.small;have hol:=(Qzc hp.len).len;unfold Qep Qt;rw [Q3h hp];simp only [Option.bind_some,show ((0:Int) != 0)=false from rfl,Bool.false_eq_true,if_false];rw [Q3v (by have:=hp.len;unfold big;omega) hp.chk];simp only [Option.bind_some];obtain ⟨R,h1,h2,h3⟩:=Q8f (Qzc hp.len).so hp.r.al (by unfold big;omega);rw [h1];simp only [Option.bind_some];have hR:EvSet R:=⟨fun x hx=>(Qzc hp.len).rg x ((h3 x).1 hx).1,h2⟩;rw [Q8g (p:=fun x=>!decide (x∈R)) (fun x=>by unfold Qib Qci;rw [Q53 h2 hR.big];rfl) hw];have hany:(w.any fun x=>!decide (x∈R)) = !okW ev a w:=by
  unfold okW;rw [List.not_all_eq_any_not];congr 1;funext x;congr 1;rw [← Bool.decide_and,decide_eq_decide];exact h3 x
 simp only [Option.bind_some];rw [hany];by_cases hk:okW ev a w=true
 ·rw [if_neg (by simp [hk]),if_pos hk,hb.p];simp only [Option.bind_some,show ((0:Int) != 0)=false from rfl,Bool.false_eq_true,if_false];have hall:(w.all fun x=>decide (x∈Qx3 b R))=true:=by
   rw [List.all_eq_true];intro x hx;have:=List.all_eq_true.1 hk x hx;rw [decide_eq_true_eq,Qx3,List.mem_filter,hb.al];simp only [Bool.and_eq_true,decide_eq_true_eq] at this ⊢;exact ⟨this.2,(h3 x).2 this⟩
  rw [Q9j hb.r hR hw,if_pos hall];simp only [Option.bind_some];have hsm:∀ x∈b.zD,x∈R↔x∈obsE ev:=fun x hx=>⟨fun h=>((h3 x).1 h).1,fun h=>(h3 x).2 ⟨h,by rw [← hb.al];exact hx⟩⟩;rw [Qbe2 hsm];have hS:=Q56 (a:=b) (onto:=obsE ev) w;rw [Qbgi (hS.big hb.r) (fun x hx=>by have:=hS.rg x hx;have:=hb.n;omega)]
  rfl
 ·rw [Bool.not_eq_true] at hk;rw [hk]
  rfl
end
theorem Q3i (l:List Lab) (s:List Int):(Qjd l s).length=s.length:=by simp [Qjd]
def bitC (c:Int) (x:Lab):Int:=andI .i64 (x.Classes.fdiv (2 ^ (min (IntKind.wrap .i64 (c-1)).toNat IntKind.i64.bits))) 1
theorem Q3j (s:Int):0≤andI .i64 s 1∧andI .i64 s 1≤1:=by
 unfold andI;have h:((BitVec.ofInt IntKind.i64.bits s) &&& (BitVec.ofInt IntKind.i64.bits 1)).toNat≤1:=by
  rw [BitVec.toNat_and];have:(BitVec.ofInt IntKind.i64.bits 1).toNat=1:=by decide
  rw [this,Nat.and_one_is_mod];omega
 generalize ((BitVec.ofInt IntKind.i64.bits s) &&& (BitVec.ofInt IntKind.i64.bits 1)).toNat=n at h;rw [Qkp (by omega) (by omega)];omega
def cntC (c:Int) (l:List Lab):Int:=(l.map (bitC c)).sum
theorem Q57 (c:Int):∀ l:List Lab,0≤cntC c l∧cntC c l≤l.length
 | []=>by simp [cntC]
 | x::l=>by
  have:=Q57 c l;have:=Q3j (x.Classes.fdiv (2 ^ (min (IntKind.wrap .i64 (c-1)).toNat IntKind.i64.bits)));have e:cntC c (x::l)=bitC c x+cntC c l:=by simp [cntC]
  rw [e];unfold bitC;simp only [List.length_cons];omega
theorem Qbgn {c:Int} (hc:0≤IntKind.wrap .i64 (c-1)) {l:List Lab} (hl:l.length<big) {fuel:Nat} (hf:l.length<fuel) {F:(Int×Int→Option Int)→Int×Int→Option Int}
  (hF:∀ (k:Int×Int→Option Int) (n:Int) (i:Nat) (h:i<l.length),F k (n,(i:Int))=((shrO .i64 l[i].Classes (IntKind.wrap .i64 (c-1))).bind fun s=>k (IntKind.wrap .i64 (n+andI .i64 s 1),IntKind.wrap .i64 ((i:Int)+1))))
  (hlast:∀ (k:Int×Int→Option Int) (n:Int),F k (n,(l.length:Int))=some n):Qb9 F fuel (0,0)=some (cntC c l):=by
 have hb:l.length<1000000000000:=hl;refine (Qfn (len:=l.length) (fun i (n:Int)=>(n,(i:Int))) (fun i n=>0≤n∧n≤i) (fun i n=>some (n+cntC c (l.drop i))) ?_ ?_ fuel 0 0 (Nat.zero_le _) (by omega) (by omega)).trans (by simp)
 ·intro k i n hi hn ih;rw [hF k n i hi];have h1:=Q3j (l[i].Classes.fdiv (2 ^ (min (IntKind.wrap .i64 (c-1)).toNat IntKind.i64.bits)));have h2:shrO .i64 l[i].Classes (IntKind.wrap .i64 (c-1))=some (l[i].Classes.fdiv (2 ^ (min (IntKind.wrap .i64 (c-1)).toNat IntKind.i64.bits))):=by unfold shrO;rw [if_neg (by omega)]
  rw [h2];simp only [Option.bind_some];rw [Qy (by omega),Qkp (by omega) (by omega),ih _ (by omega),List.drop_eq_getElem_cons hi];have e:cntC c (l[i]::l.drop (i+1))=bitC c l[i]+cntC c (l.drop (i+1)):=by unfold cntC;rw [List.map_cons,List.sum_cons]
  rw [e];unfold bitC;congr 1;omega
 ·intro k n _;rw [hlast];simp [cntC]
theorem Qbgo {c:Int} (h:1≤c∧c≤4):0≤IntKind.wrap .i64 (c-1):=by rw [Qkp (by omega) (by omega)];omega
theorem Qbgp {c:Int} (h:1≤c∧c≤4) {l:List Lab} (hl:l.length<big):Qhh l c=some (cntC c l):=by
 have hb:l.length<1000000000000:=hl;unfold Qhh Qb5;refine Qek (Qbgn (Qbgo h) hl (by unfold Q9;omega) ?_ ?_) rfl
 ·intro k n i hi;dsimp only;rw [if_pos (by omega),Qbg hi]
  rfl
 ·intro k n;dsimp only;rw [if_neg (by omega)]
def Qsy (c:Int) (l:List Lab):Int:=if cntC c l=0 then 1 else if cntC c l=l.length then 2 else 3
def clsP (p:Int→Bool) (n:Nat):List Int:=(([1,2,3,4]:List Int).drop n).filter p
theorem Q8h {p:Int→Bool} {n:Nat} (h:n<4):clsP p n=(if p ((n:Int)+1) then [(n:Int)+1] else [])++clsP p (n+1):=by
 have:n=0∨n=1∨n=2∨n=3:=by omega
 rcases this with rfl|rfl|rfl|rfl<;>simp only [clsP,List.drop_zero,List.drop_succ_cons,List.filter_cons,List.drop_nil,List.filter_nil]<;>(split<;>rename_i h1)<;>simp_all
theorem Qbb8 {l:List Lab} (hl:l.length<big) (h0:l≠[]):Qhs l=some (clsP (fun c=>decide (Qsy c l=2)) 0,clsP (fun c=>decide (Qsy c l≠1)) 0):=by
 have hpos:0<l.length:=List.length_pos_iff.2 h0;unfold Qhs Qde;obtain ⟨fuel,hfu,hge⟩ : ∃ f,Q9=f∧1099511627776≤f:=⟨_,rfl,Nat.le_refl _⟩;rw [hfu];refine Qek (x:=(clsP (fun c=>decide (Qsy c l=2)) 0,clsP (fun c=>decide (Qsy c l≠1)) 0)) ?_ rfl;refine (Qfn (len:=4) (fun n (s:List Int×List Int)=>(s.1,s.2,(n:Int)+1)) (fun n s=>s.1.length≤n∧s.2.length≤n) (fun n s=>some (s.1++clsP (fun c=>decide (Qsy c l=2)) n,s.2++clsP (fun c=>decide (Qsy c l≠1)) n)) ?_ ?_ fuel 0 ([],[]) (by omega) (by omega) (by simp)).trans (by simp)
 ·intro k n s hn hi ih;dsimp only;rw [if_pos (by omega)];simp only [Option.bind_some];rw [decide_eq_true (by omega),if_pos rfl,Qbgp (by omega) hl];simp only [Option.bind_some];have hw:IntKind.wrap .i64 ((n:Int)+1+1)=((n+1:Nat):Int)+1:=by rw [Qkp (by omega) (by omega)];omega
  rw [hw];have hc:=Q57 ((n:Int)+1) l;have hv2:(Qsy ((n:Int)+1) l=2)↔cntC ((n:Int)+1) l=l.length:=by
   unfold Qsy;split
   ·rename_i h;omega
   ·split<;>omega
  have hv1:(Qsy ((n:Int)+1) l≠1)↔cntC ((n:Int)+1) l>0:=by
   unfold Qsy;split
   ·rename_i h;omega
   ·split<;>omega
  refine Qek (x:=((if cntC ((n:Int)+1) l=l.length then s.1++[(n:Int)+1] else s.1),(if cntC ((n:Int)+1) l>0 then s.2++[(n:Int)+1] else s.2))) ?_ ?_
  ·refine Qek (x:=if cntC ((n:Int)+1) l=l.length then s.1++[(n:Int)+1] else s.1) ?_ ?_
   ·by_cases h:cntC ((n:Int)+1) l=l.length
    ·rw [if_pos (by simpa using h),if_pos h,Qb4 (by simp only [List.length_cons,List.length_nil];unfold lim;omega)];rfl
    ·rw [if_neg (by simpa using h),if_neg h]
   ·by_cases h:cntC ((n:Int)+1) l>0
    ·rw [if_pos h,if_pos h,Qb4 (by simp only [List.length_cons,List.length_nil];unfold lim;omega)];rfl
    ·rw [if_neg h,if_neg h]
  ·dsimp only;rw [ih (_,_) (by constructor<;>(dsimp only;split<;>(try simp only [List.length_append,List.length_cons,List.length_nil])<;>omega)),Q8h hn,Q8h hn];simp only [decide_eq_true_eq,hv2,hv1];generalize cntC ((n:Int)+1) l=q;have e1:(if q=l.length then s.1++[(n:Int)+1] else s.1)=s.1++(if q=l.length then [(n:Int)+1] else []):=by split<;>simp
   have e2:(if q>0 then s.2++[(n:Int)+1] else s.2)=s.2++(if q>0 then [(n:Int)+1] else []):=by split<;>simp
   rw [e1,e2,List.append_assoc,List.append_assoc]
 ·intro k s hi;dsimp only;rw [if_neg (by omega)];simp [clsP]
end Go.Abs
end
section
namespace Go.Abs
open Go
section
variable {a:Qa} (h:Right a)
include h
end
end Go.Abs
end
section
namespace Go.Abs
open Go
def obsW (onto w:List Int):List Int:=w.filter fun e=>decide (e∈onto)
theorem Q3k {a:Qa} {e:Int}:∀ (w:List Int) (s t:Int) (n:Nat),runP a s n w=(t,((n+w.length:Nat):Int))→runP a s n (w++[e])=if 0≤Qea a t e then (Qea a t e,((n+w.length+1:Nat):Int)) else (t,((n+w.length:Nat):Int))
 | [],s,t,n,h=>by
  simp only [runP,Prod.mk.injEq] at h;obtain ⟨rfl,_⟩:=h;simp [runP]
 | x::w,s,t,n,h=>by
  simp only [List.cons_append,runP] at h ⊢;by_cases h0:0≤Qea a s x
  ·rw [if_pos h0] at h ⊢;have:=Q3k (e:=e) w (Qea a s x) t (n+1) (by rw [h];simp only [List.length_cons];congr 2;omega);rw [this];simp only [List.length_cons];rw [show n+1+w.length=n+(w.length+1) from by omega]
  grind
theorem Q8i (onto w:List Int) (e:Int):obsW onto (w++[e])=if e∈onto then obsW onto w++[e] else obsW onto w:=by
 unfold obsW;rw [List.filter_append];by_cases h:e∈onto<;>simp [h]
theorem Q58 {a:Qa} {e:Int}:∀ (w:List Int) (s t:Int) (n:Nat),runP a s n (w++[e])=(t,((n+(w++[e]).length:Nat):Int))→∃ s',runP a s n w=(s',((n+w.length:Nat):Int))∧0≤Qea a s' e∧t=Qea a s' e
 | [],s,t,n,h=>by
  simp only [List.nil_append,runP] at h;split at h
  ·rename_i h0;exact ⟨s,rfl,h0,(Prod.mk.inj h).1.symm⟩
  ·have:=(Prod.mk.inj h).2;simp at this;omega
 | x::w,s,t,n,h=>by
  simp only [List.cons_append,runP] at h ⊢;split at h
  ·rename_i h0;rw [if_pos h0];obtain ⟨s',h1,h2,h3⟩:=Q58 w (Qea a s x) t (n+1) (by rw [h];simp only [List.length_append,List.length_cons,List.length_nil];congr 2;omega);exact ⟨s',by rw [h1];simp only [List.length_cons];congr 2;omega,h2,h3⟩
  ·have:=(Prod.mk.inj h).2;simp only [List.length_append,List.length_cons,List.length_nil] at this;omega
section
variable {a:Qa} (h:Right a) {m:Bool} {onto obs:List Int}
include h
end
end Go.Abs
end
section
namespace Go.Abs
open Go
section
variable {a:Qa} (h:Right a)
include h
end
end Go.Abs
end
section
namespace Go.Abs
open Go
section
variable {ev:List Qe} {a b:Qa} {l:List Lab}
theorem Qba5 (hp:Plt ev a):∀ n,n≤(labs ev a n).1.length→(∀ m<n,m<(labs ev a m).1.length)→∀ k<n,∀ x,(labs ev a n).1[k]? = some x →
  ((labs ev a n).2.2.filter fun z=>z.From==(k:Int))=(outP a x.State).map (fun y=>⟨(k:Int),y.Event,((labs ev a n).1.idxOf (toL ev x y):Int)⟩)∧∀ y∈outP a x.State,toL ev x y∈(labs ev a n).1
 | 0,_,_,k,hk,_,_=>by omega
 | n+1,_,hlt,k,hk,x,hx=>by
  have hn:=hlt n (by omega);have hI:=labI hp n (by omega) (fun m hm=>hlt m (by omega));obtain ⟨x',hx',e⟩:=Q1c hn;have hpre:=Qy9 (ev:=ev) (a:=a) n;have hE:(labs ev a (n+1)).2.2=(labs ev a n).2.2++(outP a x'.State).map fun y=>⟨(n:Int),y.Event,((labs ev a (n+1)).1.idxOf (toL ev x' y):Int)⟩:=by
   rw [e];exact Q55 _ _
  have hmem:∀ y∈outP a x'.State,toL ev x' y∈(labs ev a (n+1)).1:=by rw [e];exact Q54 _ _
  rw [hE,List.filter_append];rcases Nat.lt_or_ge k n with h|h
  ·have hxk:(labs ev a n).1[k]? = some x:=by
    obtain ⟨r,hr⟩:=hpre;rw [← hr,List.getElem?_append_left (by omega)] at hx;exact hx
   obtain ⟨h1,h2⟩:=Qba5 hp n (by omega) (fun m hm=>hlt m (by omega)) k h x hxk;have h3:(((outP a x'.State).map fun y=>(⟨(n:Int),y.Event,((labs ev a (n+1)).1.idxOf (toL ev x' y):Int)⟩ : Qg)).filter fun z=>z.From==(k:Int))=[]:=by
    rw [List.filter_eq_nil_iff];intro z hz;obtain ⟨y,hy,rfl⟩:=List.mem_map.1 hz;simp;omega
   rw [h1,h3,List.append_nil];refine ⟨List.map_congr_left fun y hy=>?_,fun y hy=>hpre.subset (h2 y hy)⟩;rw [Qbes hpre (h2 y hy)]
  ·obtain rfl:k=n:=by omega
   have hxx:x=x':=by
    obtain ⟨r,hr⟩:=hpre;rw [← hr,List.getElem?_append_left hn,hx'] at hx;exact (Option.some.inj hx).symm
   subst hxx;have h3:((labs ev a k).2.2.filter fun z=>z.From==(k:Int))=[]:=by
    rw [List.filter_eq_nil_iff];intro z hz;have:=hI.er z hz;simp;omega
   rw [h3,List.nil_append];refine ⟨List.filter_eq_self.2 fun z hz=>?_,hmem⟩;obtain ⟨y,hy,rfl⟩:=List.mem_map.1 hz;simp
structure Lbx (ev:List Qe) (a b:Qa) (l:List Lab):Prop where
 l0:l[0]? = some ⟨0,0⟩
 rg:∀ x∈l,(0≤x.State∧x.State<a.zH)∧0≤x.Classes∧x.Classes<16
 out:∀ (k:Nat) x,l[k]? = some x→outP b (k:Int)=(outP a x.State).map (fun y=>⟨(k:Int),y.Event,(l.idxOf (toL ev x y):Int)⟩)∧∀ y∈outP a x.State,toL ev x y∈l
theorem Qbhm (hp:Plt ev a) (hb:Lbd ev a b l) (h0:0<a.zH):Lbx ev a b l:=by
 obtain ⟨N,hN⟩:=Qbet hp h0;have h1:=Qba2 hp h0 hN;rw [hb.p] at h1;cases h1;have hB:=Qza hp h0 N;refine ⟨Qvp (Qbgh (Nat.zero_le N)) rfl,hB.ok,fun k x hx=>?_⟩;have hk:=(List.getElem?_eq_some_iff.1 hx).1;exact Qba5 hp N (by have:=hN.1;omega) hN.2 k (by have:=hN.1;omega) x hx
theorem Qbi8 {l:List Lab} {t:Lab} (h:t∈l):l[l.idxOf t]? = some t:=by
 have:=List.idxOf_lt_length_iff.2 h;rw [List.getElem?_eq_getElem this,List.getElem_idxOf]
theorem Qba6 (hp:Plt ev a) (hr:Right b) (hx:Lbx ev a b l) {k:Nat} {x:Lab} (hk:l[k]? = some x) (e:Int) :
  (0≤Qea b (k:Int) e↔0≤Qea a x.State e)∧(0≤Qea a x.State e→∃ j:Nat,Qea b (k:Int) e=(j:Int)∧l[j]? = some ⟨Qea a x.State e,orI .i64 x.Classes (bitE ev e)⟩):=by
 obtain ⟨h1,h2⟩:=hx.out k x hk;have hfw:0≤Qea a x.State e→∃ j:Nat,Qea b (k:Int) e=(j:Int)∧l[j]? = some ⟨Qea a x.State e,orI .i64 x.Classes (bitE ev e)⟩:=by
  intro h;obtain ⟨y,hy,rfl⟩:=(Qm7 hp.r).1 h;have hz:(⟨(k:Int),y.Event,(l.idxOf (toL ev x y):Int)⟩ : Qg)∈outP b (k:Int):=by rw [h1];exact List.mem_map.2 ⟨y,hy,rfl⟩
  have:=Qrt hr hz;refine ⟨l.idxOf (toL ev x y),this,?_⟩;rw [Qbi8 (h2 y hy),Qrt hp.r hy]
  rfl
 refine ⟨⟨fun h=>?_,fun h=>?_⟩,hfw⟩
 ·obtain ⟨z,hz,rfl⟩:=(Qm7 hr).1 h;rw [h1] at hz;obtain ⟨y,hy,rfl⟩:=List.mem_map.1 hz;exact (Qm7 hp.r).2 ⟨y,hy,rfl⟩
 ·obtain ⟨j,hj,_⟩:=hfw h;rw [hj];omega
def clsW (ev:List Qe) (w:List Int):Int:=w.foldl (fun c e=>orI .i64 c (bitE ev e)) 0
theorem Qvb (w:List Int) (e:Int):clsW ev (w++[e])=orI .i64 (clsW ev w) (bitE ev e):=by simp [clsW,List.foldl_append]
theorem Qbe3 (hp:Plt ev a) (hr:Right b) (hx:Lbx ev a b l):∀ (n:Nat) (w:List Int) (s:Int),w.length=n→runP a 0 0 w=(s,(w.length:Int))→∃ k:Nat,runP b 0 0 w=((k:Int),(w.length:Int))∧l[k]? = some ⟨s,clsW ev w⟩
 | 0,w,s,hn,h=>by
  have:w=[]:=List.eq_nil_of_length_eq_zero hn;subst this;have hs:s=0:=by simp [runP] at h;exact h.symm
  subst hs;exact ⟨0,rfl,hx.l0⟩
 | n+1,w,s,hn,h=>by
  obtain ⟨u,e,rfl⟩ : ∃ u e,w=u++[e]:=by
   rcases List.eq_nil_or_concat w with rfl|⟨l,x,rfl⟩
   ·simp at hn
   ·exact ⟨l,x,by simp⟩
  obtain ⟨s',r1,r2,rfl⟩:=Q58 u 0 s 0 (by rw [h];simp);rw [Nat.zero_add] at r1;obtain ⟨k,h1,h2⟩:=Qbe3 hp hr hx n u s' (by simpa using hn) r1;obtain ⟨_,h3⟩:=Qba6 hp hr hx h2 e;obtain ⟨j,h4,h5⟩:=h3 r2;have hs:=Q3k (a:=b) (e:=e) u 0 (k:Int) 0 (by rw [h1];simp);rw [h4,if_pos (by omega)] at hs;exact ⟨j,by rw [hs];simp,by rw [Qvb];exact h5⟩
theorem Q59 (hp:Plt ev a) (hr:Right b) (hx:Lbx ev a b l):∀ (n:Nat) (w:List Int) (k:Int),w.length=n→runP b 0 0 w=(k,(w.length:Int))→∃ (j:Nat) (s:Int),k=(j:Int)∧runP a 0 0 w=(s,(w.length:Int))∧l[j]? = some ⟨s,clsW ev w⟩
 | 0,w,k,hn,h=>by
  have:w=[]:=List.eq_nil_of_length_eq_zero hn;subst this;have hs:k=0:=by simp [runP] at h;exact h.symm
  subst hs;exact ⟨0,0,rfl,rfl,hx.l0⟩
 | n+1,w,k,hn,h=>by
  obtain ⟨u,e,rfl⟩ : ∃ u e,w=u++[e]:=by
   rcases List.eq_nil_or_concat w with rfl|⟨l,x,rfl⟩
   ·simp at hn
   ·exact ⟨l,x,by simp⟩
  obtain ⟨k',r1,r2,rfl⟩:=Q58 u 0 k 0 (by rw [h];simp);rw [Nat.zero_add] at r1;obtain ⟨j,s,rfl,h1,h2⟩:=Q59 hp hr hx n u k' (by simpa using hn) r1;obtain ⟨h3,h4⟩:=Qba6 hp hr hx h2 e;have h5:=h3.1 r2;obtain ⟨i,h6,h7⟩:=h4 h5;have hs:=Q3k (a:=a) (e:=e) u 0 s 0 (by rw [h1];simp);rw [if_pos h5] at hs;exact ⟨i,Qea a s e,h6,by rw [hs];simp,by rw [Qvb];exact h7⟩
end
def fltE (ev:List Qe) (e:Int):Int:=match getO ev e with
 | some x=>x.Fault
 | none=>0
theorem Q6a (ev:List Qe) (e:Int):bitE ev e=if 0<fltE ev e then 2 ^ (fltE ev e-1).toNat else 0:=by
 unfold bitE fltE;cases getO ev e<;>rfl
def orB (c f k:Nat):Bool:=decide (bitC ((k:Int)+1) ⟨0,orI .i64 (c:Int) (if (0:Int)<(f:Int) then 2 ^ ((f:Int)-1).toNat else 0)⟩=1)==(decide (bitC ((k:Int)+1) ⟨0,(c:Int)⟩=1)||decide ((f:Int)=(k:Int)+1))
theorem Qbi9:((List.range 16).all fun c=>(List.range 5).all fun f=>(List.range 4).all fun k=>orB c f k)=true:=by kernel_rfl
theorem Q44 (c s s' k:Int):bitC c ⟨s,k⟩=bitC c ⟨s',k⟩:=rfl
theorem Qbke {c f k:Int} (hc:0≤c∧c<16) (hf:0≤f∧f≤4) (hk:1≤k∧k≤4) (s s' : Int):bitC k ⟨s,orI .i64 c (if 0<f then 2 ^ (f-1).toNat else 0)⟩=1↔bitC k ⟨s',c⟩=1∨f=k:=by
 have h:=List.all_eq_true.1 (List.all_eq_true.1 (List.all_eq_true.1 Qbi9 c.toNat (by simp;omega)) f.toNat (by simp;omega)) (k-1).toNat (by simp;omega);unfold orB at h;rw [show ((c.toNat:Nat):Int)=c from by omega,show ((f.toNat:Nat):Int)=f from by omega,show (((k-1).toNat:Nat):Int)+1=k from by omega] at h;rw [beq_iff_eq,← Bool.decide_or,decide_eq_decide] at h;rw [Q44 k s 0,Q44 k s' 0];exact h
section
variable {ev:List Qe} {a:Qa}
theorem Qbkf (hp:Plt ev a) (e:Int):0≤fltE ev e∧fltE ev e≤4:=by
 unfold fltE;cases hx:getO ev e with
 | none=>simp
 | some x=>exact hp.flt x (List.mem_of_getElem? (Qfm.1 hx).2)
theorem Q9k (hp:Plt ev a):∀ (n:Nat) (w:List Int),w.length=n→0≤clsW ev w∧clsW ev w<16
 | 0,w,hn=>by
  have:w=[]:=List.eq_nil_of_length_eq_zero hn;subst this;simp [clsW]
 | n+1,w,hn=>by
  obtain ⟨u,e,rfl⟩ : ∃ u e,w=u++[e]:=by
   rcases List.eq_nil_or_concat w with rfl|⟨l,x,rfl⟩
   ·simp at hn
   ·exact ⟨l,x,by simp⟩
  rw [Qvb];exact (Qbi6 (Q9k hp n u (by simpa using hn)) (Qbeq hp e)).1
def fltW (ev:List Qe) (c:Int) (w:List Int):Bool:=w.any fun e=>decide (fltE ev e=c)
theorem Q3l (hp:Plt ev a) {c:Int} (hc:1≤c∧c≤4) (s:Int):∀ (n:Nat) (w:List Int),w.length=n→(bitC c ⟨s,clsW ev w⟩=1↔fltW ev c w=true)
 | 0,w,hn=>by
  have:w=[]:=List.eq_nil_of_length_eq_zero hn;subst this;have:((List.range 4).all fun k=>decide (bitC ((k:Int)+1) ⟨0,0⟩=0))=true:=by kernel_rfl
  have h:=List.all_eq_true.1 this (c-1).toNat (by simp;omega);rw [show (((c-1).toNat:Nat):Int)+1=c from by omega,decide_eq_true_eq] at h;have e:bitC c ⟨s,clsW ev []⟩=0:=h;rw [e];simp [fltW]
 | n+1,w,hn=>by
  obtain ⟨u,e,rfl⟩ : ∃ u e,w=u++[e]:=by
   rcases List.eq_nil_or_concat w with rfl|⟨l,x,rfl⟩
   ·simp at hn
   ·exact ⟨l,x,by simp⟩
  have ih:=Q3l hp hc s n u (by simpa using hn);rw [Qvb,Q6a,Qbke (Q9k hp u.length u rfl) (Qbkf hp e) hc s s,ih];simp [fltW]
end
section
variable {b:Qa} (h:Right b) {onto:List Int}
theorem Qba7:∀ (u v:List Int) (s t:Int) (n:Nat),runP b s n u=(t,((n+u.length:Nat):Int))→runP b s n (u++v)=runP b t (n+u.length) v
 | [],v,s,t,n,hr=>by
  simp only [runP,Prod.mk.injEq] at hr;obtain ⟨rfl,_⟩:=hr;simp
 | x::u,v,s,t,n,hr=>by
  simp only [List.cons_append,runP] at hr ⊢;by_cases h0:0≤Qea b s x
  ·rw [if_pos h0] at hr ⊢;have:=Qba7 u v (Qea b s x) t (n+1) (by rw [hr];simp only [List.length_cons];congr 2;omega);rw [this];simp only [List.length_cons];rw [show n+1+u.length=n+(u.length+1) from by omega]
  ·rw [if_neg h0] at hr;have:=(Prod.mk.inj hr).2;simp only [List.length_cons] at this;omega
theorem Qz9:∀ (v:List Int) (s:Int) (n m:Nat),(runP b s n v).1=(runP b s m v).1∧(runP b s n v).2-n=(runP b s m v).2-m
 | [],s,n,m=>by simp [runP]
 | x::v,s,n,m=>by
  simp only [runP];by_cases h0:0≤Qea b s x
  ·rw [if_pos h0,if_pos h0];have:=Qz9 v (Qea b s x) (n+1) (m+1);exact ⟨this.1,by have:=this.2;omega⟩
  ·rw [if_neg h0,if_neg h0];simp
def Led (b:Qa) (s:Int) (w:List Int) (t:Int):Prop:=runP b s 0 w=(t,(w.length:Int))
theorem Led.nil (s:Int):Led b s [] s:=rfl
theorem Led.at {s t:Int} {w:List Int} (hr:Led b s w t) (n:Nat):runP b s n w=(t,((n+w.length:Nat):Int)):=by
 have h1:=Qz9 (b:=b) w s n 0;unfold Led at hr;rw [hr] at h1;exact Prod.ext h1.1 (by have:=h1.2;simp only at this ⊢;omega)
theorem Led.app {s t r:Int} {u v:List Int} (h1:Led b s u t) (h2:Led b t v r):Led b s (u++v) r:=by
 unfold Led;rw [Qba7 u v s t 0 (by rw [h1];simp),h2.at];simp
theorem Led.one {s e:Int} (h0:0≤Qea b s e):Led b s [e] (Qea b s e):=by simp [Led,runP,h0]
theorem Led.split:∀ {u v:List Int} {s r:Int},Led b s (u++v) r→∃ t,Led b s u t∧Led b t v r
 | [],v,s,r,hr=>⟨s,rfl,hr⟩
 | x::u,v,s,r,hr=>by
  unfold Led at hr;simp only [List.cons_append,runP] at hr;split at hr
  ·rename_i h0;have h1:Led b (Qea b s x) (u++v) r:=by
    have:=Qz9 (b:=b) (u++v) (Qea b s x) 0 1;rw [hr] at this;exact Prod.ext this.1 (by have:=this.2;simp only [List.length_cons] at this ⊢;omega)
   obtain ⟨t,h2,h3⟩:=Led.split h1;exact ⟨t,(Led.one h0).app h2,h3⟩
  ·have:=(Prod.mk.inj hr).2;simp only [List.length_cons] at this;omega
theorem Led.step {s t e:Int} (hr:Led b s [e] t):0≤Qea b s e∧t=Qea b s e:=by
 unfold Led at hr;simp only [runP] at hr;split at hr
 ·rename_i h0;exact ⟨h0,(Prod.mk.inj hr).1.symm⟩
 ·have:=(Prod.mk.inj hr).2;simp at this
include h
theorem Led.edge {s t e:Int} (hr:Led b s [e] t):∃ x∈b.zG,x.From=s∧x.Event=e∧x.To=t:=by
 obtain ⟨h1,rfl⟩:=hr.step;obtain ⟨x,hx,rfl⟩:=(Qm7 h).1 h1;have hx':=List.mem_filter.1 hx;exact ⟨x,hx'.1,by simpa using hx'.2,rfl,(Qrt h hx).symm⟩
theorem Q6b {x:Qg} (hx:x∈b.zG):Led b x.From [x.Event] x.To:=by
 have hm:x∈outP b x.From:=List.mem_filter.2 ⟨hx,by simp⟩;have e:=Qrt h hm;have h0:=(h.ed0 x hx).2.2.1;have:=Led.one (b:=b) (s:=x.From) (e:=x.Event) (by rw [e];exact h0);rw [e] at this;exact this
theorem Qbe4 {er fr:List Int} {t:Int}:Rch b er fr t↔∃ s∈fr,∃ v,(∀ e∈v,e∈er)∧Led b s v t:=by
 constructor
 ·intro hr
  induction hr with
  | base hs=>exact ⟨_,hs,[],by simp,.nil _⟩
  | step _ hx he ih =>
   obtain ⟨s,hs,v,hv,hl⟩:=ih;refine ⟨s,hs,v++[_],fun e h'=>?_,hl.app (Q6b h hx)⟩;rcases List.mem_append.1 h' with h'|h'
   ·exact hv e h'
   ·rw [List.mem_singleton.1 h'];exact he
 ·rintro ⟨s,hs,v,hv,hl⟩;have:∀ (n:Nat) (v:List Int) (t:Int),v.length=n→(∀ e∈v,e∈er)→Led b s v t→Rch b er fr t:=by
   intro n
   induction n with
   | zero =>
    intro v t hn _ hl;have:v=[]:=List.eq_nil_of_length_eq_zero hn;subst this;have:t=s:=by unfold Led at hl;simp [runP] at hl;exact hl.symm
    rw [this];exact .base hs
   | succ n ih =>
    intro v t hn hv hl;obtain ⟨u,e,rfl⟩ : ∃ u e,v=u++[e]:=by
     rcases List.eq_nil_or_concat v with rfl|⟨l,x,rfl⟩
     ·simp at hn
     ·exact ⟨l,x,by simp⟩
    obtain ⟨t',h1,h2⟩:=Led.split hl;obtain ⟨x,hx,rfl,rfl,rfl⟩:=h2.edge h;exact .step (ih u _ (by simpa using hn) (fun e he=>hv e (List.mem_append_left _ he)) h1) hx (hv _ (by simp))
  exact this v.length v t rfl hv hl
theorem Q1d:∀ {w:List Int} {s t:Int},Led b s w t→∀ e∈w,e∈b.zD
 | [],_,_,_,e,he=>by cases he
 | x::w,s,t,hr,e,he=>by
  obtain ⟨r,h1,h2⟩:=Led.split (u:=[x]) (v:=w) hr;obtain ⟨y,hy,_,hy2,_⟩:=h1.edge h;rcases List.mem_cons.1 he with rfl|he
  ·rw [← hy2];exact (h.ed0 y hy).2.2.2.2
  ·exact Q1d h2 e he
omit h in
theorem Qba8 (u v:List Int):obsW onto (u++v)=obsW onto u++obsW onto v:=by simp [obsW]
omit h in
theorem Q8j {v:List Int} (hv:∀ e∈v,e∉onto):obsW onto v=[]:=by
 unfold obsW;rw [List.filter_eq_nil_iff];intro e he;simpa using hv e he
omit h in
theorem Q8k:∀ {u o:List Int} {e:Int},obsW onto u=o++[e]→∃ u' v,u=u'++[e]++v∧obsW onto u'=o∧e∈onto∧∀ x∈v,x∉onto:=by
 have key:∀ (n:Nat) (u o:List Int) (e:Int),u.length=n→obsW onto u=o++[e]→∃ u' v,u=u'++[e]++v∧obsW onto u'=o∧e∈onto∧∀ x∈v,x∉onto:=by
  intro n
  induction n with
  | zero =>
   intro u o e hn ho;have:u=[]:=List.eq_nil_of_length_eq_zero hn;subst this;simp [obsW] at ho
  | succ n ih =>
   intro u o e hn ho;obtain ⟨w,x,rfl⟩ : ∃ w x,u=w++[x]:=by
    rcases List.eq_nil_or_concat u with rfl|⟨l,x,rfl⟩
    ·simp at hn
    ·exact ⟨l,x,by simp⟩
   rw [Q8i] at ho;by_cases hx:x∈onto
   ·rw [if_pos hx] at ho;obtain ⟨h1,h2⟩:=List.append_inj' ho rfl;have:x=e:=by simpa using h2
    subst this;exact ⟨w,[],by simp,h1,hx,by simp⟩
   ·rw [if_neg hx] at ho;obtain ⟨u',v,h1,h2,h3,h4⟩:=ih w o e (by simpa using hn) ho;refine ⟨u',v++[x],by rw [h1];simp,h2,h3,fun y hy=>?_⟩;rcases List.mem_append.1 hy with hy|hy
    ·exact h4 y hy
    ·rw [List.mem_singleton.1 hy];exact hx
 exact fun {u o e} ho=>key u.length u o e rfl ho
theorem Q9l (h0:0<b.zH):∀ (n:Nat) (o:List Int),o.length=n→(∀ e∈o,e∈onto)→∀ k,k∈estP b onto o↔∃ u,Led b 0 u k∧obsW onto u=o
 | 0,o,hn,hon,k=>by
  have:o=[]:=List.eq_nil_of_length_eq_zero hn;subst this;have e:estP b onto []=Qrv b [0] (Qic b onto):=by unfold estP Q0p;rw [List.foldl_nil,if_neg (by omega)]
  rw [e,Q3a h (fun s hs=>by simp at hs;subst hs;omega),Qbe4 h];constructor
  ·rintro ⟨s,hs,v,hv,hl⟩;have:s=0:=by simpa using hs
   subst this;refine ⟨v,hl,Q8j fun e he=>?_⟩;have:=hv e he;unfold Qic at this;simpa using (List.mem_filter.1 this).2
  ·rintro ⟨u,hl,ho⟩;refine ⟨0,by simp,u,fun e he=>?_,hl⟩;unfold Qic;refine List.mem_filter.2 ⟨Q1d h hl e he,?_⟩;unfold obsW at ho;simpa using List.filter_eq_nil_iff.1 ho e he
 | n+1,o,hn,hon,k=>by
  obtain ⟨o',x,rfl⟩ : ∃ o' x,o=o'++[x]:=by
   rcases List.eq_nil_or_concat o with rfl|⟨l,x,rfl⟩
   ·simp at hn
   ·exact ⟨l,x,by simp⟩
  have ih:=Q9l h0 n o' (by simpa using hn) (fun e he=>hon e (List.mem_append_left _ he));have hx:x∈onto:=hon x (by simp);have e:estP b onto (o'++[x])=Qrv b (Qpk b (estP b onto o') x) (Qic b onto):=by simp [estP,List.foldl_append,Q3s]
  rw [e,Q3a h (Q3e h),Qbe4 h];constructor
  ·rintro ⟨s,hs,v,hv,hl⟩;obtain ⟨y,hy,hyf,rfl,rfl⟩:=Q3d.1 hs;obtain ⟨u,hu,ho⟩:=(ih _).1 hyf;refine ⟨u++[y.Event]++v,(hu.app (Q6b h hy)).app hl,?_⟩;rw [Qba8,Qba8,ho,Q8j (v:=v) fun e he=>by
    have:=hv e he;unfold Qic at this;simpa using (List.mem_filter.1 this).2]
   have:obsW onto [y.Event]=[y.Event]:=by simp [obsW,hx]
   rw [this];simp
  ·rintro ⟨u,hl,ho⟩;obtain ⟨u',v,rfl,h1,_,h3⟩:=Q8k ho;obtain ⟨t,h4,h5⟩:=Led.split hl;obtain ⟨r,h6,h7⟩:=Led.split h4;obtain ⟨y,hy,rfl,rfl,rfl⟩:=h7.edge h;refine ⟨y.To,Q3d.2 ⟨y,hy,(ih _).2 ⟨u',h6,h1⟩,rfl,rfl⟩,v,fun e he=>?_,h5⟩;unfold Qic;exact List.mem_filter.2 ⟨Q1d h h5 e he,by simpa using h3 e he⟩
end
end Go.Abs
end
section
namespace Go.Abs
open Go
section
variable {ev:List Qe} {a b:Qa} {l:List Lab}
theorem Qba9 {c:Int}:∀ {L:List Lab},cntC c L=0↔∀ x∈L,bitC c x=0
 | []=>by simp [cntC]
 | x::L=>by
  have ih:=Qba9 (c:=c) (L:=L);have h1:=Q57 c L;have h2:=Q3j (x.Classes.fdiv (2 ^ (min (IntKind.wrap .i64 (c-1)).toNat IntKind.i64.bits)));have e:cntC c (x::L)=bitC c x+cntC c L:=by unfold cntC;rw [List.map_cons,List.sum_cons]
  have h3:0≤bitC c x:=h2.1;rw [e];simp only [List.mem_cons,forall_eq_or_imp,← ih];omega
theorem Qbe5 {c:Int}:∀ {L:List Lab},cntC c L=L.length↔∀ x∈L,bitC c x=1
 | []=>by simp [cntC]
 | x::L=>by
  have ih:=Qbe5 (c:=c) (L:=L);have h1:=Q57 c L;have h2:=Q3j (x.Classes.fdiv (2 ^ (min (IntKind.wrap .i64 (c-1)).toNat IntKind.i64.bits)));have e:cntC c (x::L)=bitC c x+cntC c L:=by unfold cntC;rw [List.map_cons,List.sum_cons]
  have h3:bitC c x≤1:=h2.2;rw [e];simp only [List.mem_cons,forall_eq_or_imp,← ih,List.length_cons];omega
theorem Q45 (hp:Plt ev a) (hb:Lbd ev a b l) (hx:Lbx ev a b l) (h0:0<b.zH) {c:Int} (hc:1≤c∧c≤4) {w:List Int} (hk:okW ev a w=true) (hne:Qjd l (estP b (obsE ev) w)≠[]) :
  (Qsy c (Qjd l (estP b (obsE ev) w))=1↔∀ u s,runP a 0 0 u=(s,(u.length:Int))→obsW (obsE ev) u=w→fltW ev c u=false) ∧
  (Qsy c (Qjd l (estP b (obsE ev) w))=2↔∀ u s,runP a 0 0 u=(s,(u.length:Int))→obsW (obsE ev) u=w→fltW ev c u=true):=by
 have hon:∀ e∈w,e∈obsE ev:=fun e he=>by
  have:=List.all_eq_true.1 hk e he;simp only [Bool.and_eq_true,decide_eq_true_eq] at this;exact this.1
 have hmem:=Q9l hb.r (onto:=obsE ev) h0 w.length w rfl hon;have hbit:∀ x:Lab,bitC c x=0∨bitC c x=1:=fun x=>by
  have:=Q3j (x.Classes.fdiv (2 ^ (min (IntKind.wrap .i64 (c-1)).toNat IntKind.i64.bits)));unfold bitC;omega
 have hall:∀ (P:Lab→Prop) ,(∀ x∈Qjd l (estP b (obsE ev) w),P x)↔∀ u s,runP a 0 0 u=(s,(u.length:Int))→obsW (obsE ev) u=w→P ⟨s,clsW ev u⟩:=by
  intro P;constructor
  ·intro h u s hr ho;obtain ⟨k,h1,h2⟩:=Qbe3 hp hb.r hx u.length u s rfl hr;have hm:(k:Int)∈estP b (obsE ev) w:=(hmem k).2 ⟨u,h1,ho⟩;refine h _ (List.mem_map.2 ⟨(k:Int),hm,?_⟩);have:getO l (k:Int)=some ⟨s,clsW ev u⟩:=by rw [Qfm];exact ⟨by omega,by simpa using h2⟩
   rw [this];rfl
  ·intro h x hx';obtain ⟨k,hm,rfl⟩:=List.mem_map.1 hx';obtain ⟨u,hu,ho⟩:=(hmem k).1 hm;obtain ⟨j,s,rfl,h1,h2⟩:=Q59 hp hb.r hx u.length u k rfl hu;have:getO l (j:Int)=some ⟨s,clsW ev u⟩:=by rw [Qfm];exact ⟨by omega,by simpa using h2⟩
   rw [this];exact h u s h1 ho
 have hpos:0<(Qjd l (estP b (obsE ev) w)).length:=List.length_pos_iff.2 hne;have h1:Qsy c (Qjd l (estP b (obsE ev) w))=1↔cntC c (Qjd l (estP b (obsE ev) w))=0:=by
  unfold Qsy;split
  ·rename_i h;simp [h]
  ·rename_i h;split<;>simp [h]
 have h2:Qsy c (Qjd l (estP b (obsE ev) w))=2↔cntC c (Qjd l (estP b (obsE ev) w))=(Qjd l (estP b (obsE ev) w)).length:=by
  unfold Qsy;split
  ·rename_i h;omega
  ·rename_i h;split
   ·rename_i h2;simp [h2]
   ·rename_i h2;simp [h2]
 rw [h1,h2,Qba9,Qbe5,hall (fun x=>bitC c x=0),hall (fun x=>bitC c x=1)];refine ⟨⟨fun h u s hr ho=>?_,fun h u s hr ho=>?_⟩,⟨fun h u s hr ho=>?_,fun h u s hr ho=>?_⟩⟩
 ·have h3:=h u s hr ho;have:=Q3l hp hc s u.length u rfl;rw [h3] at this;simpa using this
 ·have h3:=h u s hr ho;have:=Q3l hp hc s u.length u rfl;rw [h3] at this;rcases hbit ⟨s,clsW ev u⟩ with h4|h4
  ·exact h4
  ·exact absurd (this.1 h4) (by simp)
 ·exact (Q3l hp hc s u.length u rfl).1 (h u s hr ho)
 ·exact (Q3l hp hc s u.length u rfl).2 (h u s hr ho)
end
end Go.Abs
end
section
namespace Go.Abs
open Go
theorem Qw0 {onto w:List Int} (hs:onto.Pairwise (· < ·)) (ho:onto.length<big) (hw:w.length<big):Qma w onto=some (obsW onto w):=by
 have hb:w.length<1000000000000:=hw;unfold Qma Qe7;refine Qek (x:=obsW onto w) ?_ rfl;refine (Qfn (len:=w.length) (fun n (acc:List Int)=>(acc,(n:Int))) (fun n acc=>acc.length≤n) (fun n acc=>some (acc++obsW onto (w.drop n))) ?_ ?_ Q9 0 [] (Nat.zero_le _) (by unfold Q9;omega) (Nat.le_refl _)).trans (by simp)
 ·intro k n acc hn hi ih;dsimp only;rw [if_pos (by omega),Qbg hn];simp only [Option.bind_some];rw [Q53 hs ho,Qy (by omega),List.drop_eq_getElem_cons hn];simp only [Option.bind_some];unfold obsW at ih ⊢;rw [List.filter_cons];by_cases h:w[n]∈onto
  ·rw [decide_eq_true h,if_pos rfl,if_pos rfl,Qb4 (by simp only [List.length_cons,List.length_nil];unfold lim;omega)];simp only [Option.bind_some];rw [ih _ (by simp;omega)];simp
  ·rw [decide_eq_false h,if_neg (by simp),if_neg (by simp)];simp only [Option.bind_some];rw [ih _ (by omega)]
 ·intro k acc hi;dsimp only;rw [if_neg (by omega),List.drop_eq_nil_of_le (Nat.le_refl _)];simp [obsW]
section
variable {ev:List Qe} {a:Qa}
end
end Go.Abs
end
section
namespace Go.Abs
open Go
def Qbe6 (more:Int) (i:Int):Bool:=andI .u8 (more.fdiv (2 ^ (min i.toNat IntKind.u8.bits))) 1==1
def wdE (more:Int) (i:Nat) (x:Qe):Qe:=if Qbe6 more (i:Int)=true∧x.Fault=0 then ⟨x.Name,x.Controllable,true,x.zC,x.Fault⟩ else x
def wdL (more:Int):Nat→List Qe→List Qe
 | _,[]=>[]
 | i,x::l=>wdE more i x::wdL more (i+1) l
theorem Q6c (more:Int) (i:Nat) (x:Qe):(wdE more i x).Name=x.Name∧(wdE more i x).Fault=x.Fault∧(wdE more i x).Controllable=x.Controllable∧(x.Observable=true→(wdE more i x).Observable=true)∧(x.Fault≠0→wdE more i x=x):=by
 unfold wdE;split
 ·rename_i h;exact ⟨rfl,rfl,rfl,fun _=>rfl,fun h2=>absurd h.2 h2⟩
 ·exact ⟨rfl,rfl,rfl,fun h=>h,fun _=>rfl⟩
theorem Qvc {more:Int}:∀ {l:List Qe} {i:Nat},(wdL more i l).length=l.length
 | [],_=>rfl
 | x::l,i=>by simp [wdL,Qvc]
theorem Q6d {more:Int}:∀ {l:List Qe} {i k:Nat},(wdL more i l)[k]? = (l[k]?).map (wdE more (i+k))
 | [],i,k=>by simp [wdL]
 | x::l,i,0=>by simp [wdL]
 | x::l,i,k+1=>by
  simp only [wdL,List.getElem?_cons_succ];rw [Q6d];congr 2;omega
theorem Qbe7 {more:Int}:∀ {l:List Qe} {i:Nat} {seen:List ByteArray},Qp9 seen (wdL more i l)=Qp9 seen l
 | [],_,_=>rfl
 | x::l,i,seen=>by
  obtain ⟨h1,h2,h3,h4,h5⟩:=Q6c more i x;simp only [wdL,Qp9,h1,h2,h3];have ih:=Qbe7 (more:=more) (l:=l) (i:=i+1) (seen:=x.Name::seen);rw [ih];by_cases hf:x.Fault=0
  ·simp [hf]
  ·rw [h5 hf]
section
variable {ev:List Qe} {a:Qa}
theorem Qbgq (hp:Plt ev a) (hev:Evf ev) (more:Int):Plt (wdL more 0 ev) a:=by
 have hl:=hp.len;refine Qbhi (by rw [Qvc];unfold big;omega) (fun x hx=>?_) ?_ hp.r hp.st (fun x hx=>by rw [Qvc];exact hp.al x hx)
 ·obtain ⟨k,hk⟩:=List.getElem?_of_mem hx;rw [Q6d] at hk;cases hy:ev[k]? with
  | none=>rw [hy] at hk;cases hk
  | some y =>
   rw [hy] at hk;cases hk;rw [(Q6c more _ y).1];exact hev.nm y (List.mem_of_getElem? hy)
 ·have:=hev.err;unfold Q9h at this ⊢;rw [Qvc,Qbe7];exact this
theorem Qbba (more:Int) (e:Int):getO (wdL more 0 ev) e=(getO ev e).map (wdE more e.toNat):=by
 unfold getO;split
 ·rw [Q6d,Nat.zero_add]
 ·rfl
theorem Qbgr (more:Int) (e:Int):fltE (wdL more 0 ev) e=fltE ev e:=by
 unfold fltE;rw [Qbba];cases getO ev e with
 | none=>rfl
 | some x=>exact (Q6c more _ x).2.1
theorem Qbbb (more:Int) (w:List Int):clsW (wdL more 0 ev) w=clsW ev w:=by
 unfold clsW;congr 1;funext c e;rw [Q6a,Q6a,Qbgr]
theorem Qbbc (more:Int):∀ e∈obsE ev,e∈obsE (wdL more 0 ev):=by
 intro e he;unfold obsE at he ⊢;obtain ⟨h1,h2⟩:=List.mem_filter.1 he;refine List.mem_filter.2 ⟨by rw [Qvc];exact h1,?_⟩;rw [Qbba];cases hx:getO ev e with
 | none=>rw [hx] at h2;cases h2
 | some x =>
  rw [hx] at h2;exact (Q6c more _ x).2.2.2.1 h2
theorem Q8l {o o' : List Int} (h:∀ e∈o,e∈o') (w:List Int):obsW o (obsW o' w)=obsW o w:=by
 unfold obsW;rw [List.filter_filter];refine List.filter_congr fun e _=>?_;by_cases h1:e∈o
 ·simp [h1,h e h1]
 ·simp [h1]
theorem Q9m (hp:Plt ev a) {w:List Int} (hal:∀ e∈w,e∈a.zD):okW ev a (obsW (obsE ev) w)=true:=by
 unfold okW;rw [List.all_eq_true];intro e he;have:=List.mem_filter.1 he;simp only [Bool.and_eq_true,decide_eq_true_eq];exact ⟨by simpa using this.2,hal e this.1⟩
theorem Q9n (hp:Plt ev a) {b:Qa} {l:List Lab} (hb:Lbd ev a b l) (h0:0<a.zH) {o:List Int} (hk:okW ev a o=true) (x:Lab) :
  x∈Qjd l (estP b (obsE ev) o)↔∃ u s,runP a 0 0 u=(s,(u.length:Int))∧obsW (obsE ev) u=o∧x=⟨s,clsW ev u⟩:=by
 have hx:=Qbhm hp hb h0;have hpos:0<b.zH:=by
  have hst:=hb.r.st;rcases Int.lt_or_le 0 b.zH with h|h
  ·exact h
  ·have:=hb.z.2 (by omega);omega
 have hon:∀ e∈o,e∈obsE ev:=fun e he=>by
  have:=List.all_eq_true.1 hk e he;simp only [Bool.and_eq_true,decide_eq_true_eq] at this;exact this.1
 have hmem:=Q9l hb.r (onto:=obsE ev) hpos o.length o rfl hon;constructor
 ·intro h;obtain ⟨k,hm,rfl⟩:=List.mem_map.1 h;obtain ⟨u,hu,ho⟩:=(hmem k).1 hm;obtain ⟨j,s,rfl,h1,h2⟩:=Q59 hp hb.r hx u.length u k rfl hu;have:getO l (j:Int)=some ⟨s,clsW ev u⟩:=by rw [Qfm];exact ⟨by omega,by simpa using h2⟩
  rw [this];exact ⟨u,s,h1,ho,rfl⟩
 ·rintro ⟨u,s,hr,ho,rfl⟩;obtain ⟨k,h1,h2⟩:=Qbe3 hp hb.r hx u.length u s rfl hr;refine List.mem_map.2 ⟨(k:Int),(hmem k).2 ⟨u,h1,ho⟩,?_⟩;have:getO l (k:Int)=some ⟨s,clsW ev u⟩:=by rw [Qfm];exact ⟨by omega,by simpa using h2⟩
  rw [this];rfl
theorem Qbe8 {l m:List Int} (hl:l.Pairwise (· < ·)) (hm:m.Pairwise (· < ·)) (hlm:l.length+m.length<big) (h:∀ x∈l,x∈m):Qjm l m=some true:=by
 unfold Qjm Qd7 Qnh Qes;obtain ⟨R,h1,h2,h3⟩:=Qba4 (kp:=fun p q=>p && !q) (keep:=Qlb) (fun p q=>by cases p<;>cases q<;>rfl) rfl hl hm hlm;rw [h1];have:R=[]:=by
  cases R with
  | nil=>rfl
  | cons x R =>
   have:=(h3 x).1 (by simp);simp only [Bool.and_eq_true,decide_eq_true_eq,Bool.not_eq_true',decide_eq_false_iff_not] at this;exact absurd (h x this.1) this.2
 rw [this];rfl
theorem Qbe9 (p:Int→Bool):(clsP p 0).Pairwise (· < ·):=List.Pairwise.filter _ (by decide)
theorem Qbgs (p:Int→Bool):(clsP p 0).length≤4:=List.length_filter_le _ _
theorem Qbbd {p:Int→Bool} {c:Int}:c∈clsP p 0↔(1≤c∧c≤4)∧p c=true:=by
 unfold clsP;rw [List.drop_zero,List.mem_filter];simp only [List.mem_cons,List.not_mem_nil,or_false];constructor
 ·rintro ⟨h,h2⟩;exact ⟨by omega,h2⟩
 ·rintro ⟨h,h2⟩;exact ⟨by omega,h2⟩
end
theorem Q6e {l:List Lab} {x:Lab} (hl:l.length<big) (h:x∈l):∃ i:Nat,Qeq l x=some (i:Int):=⟨_,by rw [Qbhj hl,if_pos h]⟩
theorem Qbfa {ev:List Qe} (hl:ev.length<big) (more:Int) {fuel:Nat} (hfu:1099511627776≤fuel) :
  Qb9 (fun k28 ((i26,wide27):Int×(List Qe))=>(if (i26<(ev.length:Int)) then ((((((shrO .u8 more i26).bind fun s30=>(if ((andI .u8 s30 1)==1) then ((inO ev.length i26).bind fun u33=>((getO wide27 i26).bind fun x35=>some (x35.Fault==0))) else some false))).bind fun (x37:Bool)=>(if x37 then ((inO ev.length i26).bind fun u39=>((updO wide27 i26 (fun (z41:Qe)=>(Qe.mk z41.Name z41.Controllable true z41.zC z41.Fault))).bind fun wide42=>some wide42)) else some wide27))).bind fun (wide44:List Qe)=>k28 ((IntKind.wrap .i64 (i26+1)),wide44)) else some wide27)) fuel (0,ev)=some (wdL more 0 ev):=by
 have hb:ev.length<1000000000000:=hl;refine (Qfn (len:=ev.length) (fun n (acc:List Qe)=>((n:Int),acc)) (fun n acc=>acc=(wdL more 0 ev).take n++ev.drop n) (fun n acc=>some (wdL more 0 ev)) ?_ ?_ fuel 0 _ (Nat.zero_le _) (by omega) (by simp)).trans rfl
 ·rintro k n _ hn rfl ih;dsimp only;have hgn:ev[n]? = some ev[n]:=List.getElem?_eq_getElem hn;have hwn:(wdL more 0 ev)[n]? = some (wdE more n ev[n]):=by rw [Q6d,hgn,Nat.zero_add];rfl
  have hwl:n<(wdL more 0 ev).length:=by rw [Qvc];exact hn
  have htl:((wdL more 0 ev).take n).length=n:=by rw [List.length_take];omega
  have hcur:getO ((wdL more 0 ev).take n++ev.drop n) (n:Int)=some ev[n]:=by
   rw [Qfm];refine ⟨by omega,?_⟩;rw [Int.toNat_natCast,List.getElem?_append_right (by omega),htl,Nat.sub_self,List.getElem?_drop,Nat.add_zero,hgn]
  have hset:∀ y,((wdL more 0 ev).take n++ev.drop n).set n y=(wdL more 0 ev).take n++y::ev.drop (n+1):=by
   intro y;rw [List.set_append_right _ _ (by omega),htl,Nat.sub_self,List.drop_eq_getElem_cons hn,List.set_cons_zero]
  have hnext:(wdL more 0 ev).take n++wdE more n ev[n]::ev.drop (n+1)=(wdL more 0 ev).take (n+1)++ev.drop (n+1):=by
   rw [List.take_add_one,hwn];simp
  have hin:inO ev.length (n:Int)=some ():=by unfold inO;rw [if_pos ⟨by omega,by omega⟩]
  have hsh:shrO .u8 more (n:Int)=some (more.fdiv (2 ^ (min (n:Int).toNat IntKind.u8.bits))):=by unfold shrO;rw [if_neg (by omega)]
  rw [if_pos (by omega),hsh];simp only [Option.bind_some];have hm:(andI .u8 (more.fdiv (2 ^ (min (n:Int).toNat IntKind.u8.bits))) 1==1)=Qbe6 more (n:Int):=rfl;rw [hm,hin,hcur];simp only [Option.bind_some];by_cases hc:Qbe6 more (n:Int)=true∧ev[n].Fault=0
  ·rw [if_pos hc.1];simp only [Option.bind_some];rw [if_pos (by simp [hc.2])];have hu:updO ((wdL more 0 ev).take n++ev.drop n) (n:Int) (fun (z41:Qe)=>(Qe.mk z41.Name z41.Controllable true z41.zC z41.Fault))=some ((wdL more 0 ev).take (n+1)++ev.drop (n+1)):=by
    unfold updO;rw [hcur];simp only [Option.bind_some];unfold setO;rw [if_pos ⟨by omega,by simp only [Int.toNat_natCast,List.length_append,List.length_drop];omega⟩,Int.toNat_natCast,hset,← hnext];unfold wdE;rw [if_pos hc]
   rw [hu];simp only [Option.bind_some];rw [Qy (by omega)];exact ih _ rfl
  ·have hb2:(if Qbe6 more (n:Int)=true then some (ev[n].Fault==0) else some false)=some false:=by
    by_cases h1:Qbe6 more (n:Int)=true
    ·rw [if_pos h1];have:¬ ev[n].Fault=0:=fun h=>hc ⟨h1,h⟩;simp [this]
    ·rw [if_neg h1]
   rw [hb2];simp only [Option.bind_some,Bool.false_eq_true,if_false];rw [Qy (by omega)];refine ih _ ?_;rw [← hnext];have:wdE more n ev[n]=ev[n]:=by unfold wdE;rw [if_neg hc]
   rw [this,← List.drop_eq_getElem_cons hn]
 ·rintro k _ rfl;dsimp only;rw [if_neg (by omega),List.drop_eq_nil_of_le (Nat.le_refl _),List.append_nil,List.take_of_length_le (by rw [Qvc];exact Nat.le_refl _)]
theorem Qbb9 {p:Qbj} (hw:Qbe0 p) (w:List Int) (more:Int):Qfl p w more=some true:=by
 unfold Qfl Qfi;obtain ⟨fuel,hfu,hge⟩ : ∃ f,Q9=f∧1099511627776≤f:=⟨_,rfl,Nat.le_refl _⟩;rw [hfu,Qbb3];simp only [Option.bind_some,if_true];by_cases h8:6<w.length
 ·rw [decide_eq_true (by omega),if_pos rfl]
 rw [decide_eq_false (by omega),if_neg (by simp)];have hwb:w.length<big:=by unfold big;omega
 obtain ⟨ev,a,hM,hp,hev,hst,-,-⟩:=Qbgl hw;obtain ⟨b,l,hb⟩:=Qbhl hp;have hevl:ev.length<big:=by rw [hev.len];decide
 have hs:=hp.r.small;rw [hM];simp only [Option.bind_some];rw [Q72 hp.r hwb];simp only [Option.bind_some];by_cases hg:genP a w=false
 ·rw [hg];simp
 have hg:genP a w=true:=by simpa using hg
 rw [hg];simp only [if_true,bne_self_eq_false,Option.bind_some,Bool.false_eq_true,if_false];have hpa:0<a.zH:=by
  unfold genP at hg;simp only [Bool.and_eq_true,decide_eq_true_eq] at hg;exact hg.1
 have hrun:∃ t,runP a 0 0 w=(t,(w.length:Int)):=by
  unfold genP at hg;simp only [Bool.and_eq_true,beq_iff_eq] at hg;exact ⟨_,Prod.ext rfl hg.2⟩
 obtain ⟨t,hrun⟩:=hrun;have hled:Led a 0 w t:=hrun;have hal:=Q1d hp.r hled;rw [Qb4 (by simp only [List.length_nil,hev.len];decide)];simp only [Option.bind_some,List.nil_append];have hne:neO ev=some ():=by
  cases hE:ev with
  | nil=>have:=hev.len;rw [hE] at this;cases this
  | cons x l=>rfl
 rw [hne];simp only [Option.bind_some];refine Qek (Qbfa hevl more hge) ?_;have hpw:=Qbgq hp hev more;obtain ⟨b2,l2,hb2⟩:=Qbhl hpw;have hwl:(wdL more 0 ev).length=ev.length:=Qvc;rw [show lenO (wdL more 0 ev) ev.length=some () from by unfold lenO;rw [if_pos hwl]];simp only [Option.bind_some];have hwel:(wdL more 0 ev).length<big:=by rw [hwl];exact hevl
 have hOs:=Qzc hp.len;have hOw:=Qzc hpw.len;let cer:Nat→List Int:=fun k=>clsP (fun c=>decide (Qsy c (Qjd l (estP b (obsE ev) (obsW (obsE ev) (w.take k))))=2)) 0;have hstate:∀ k,∃ s,Led a 0 (w.take k) s:=fun k=>by
  have h:Led a 0 (w.take k++w.drop k) t:=by rw [List.take_append_drop];exact hled
  obtain ⟨s,h1,_⟩:=Led.split h;exact ⟨s,h1⟩
 refine Qcx (fun x=>∃ (k:Nat) (s:Int) (bef:List Int),x=(bef,(k:Int),s,clsW ev (w.take k))∧k≤w.length+1∧(k≤w.length→Led a 0 (w.take k) s)∧bef.Pairwise (· < ·)∧bef.length≤4∧(k≤w.length→∀ c∈bef,c∈cer k)) (fun x=>w.length+2-x.2.1.toNat) (fun x r=>r=some true) ?_ fuel _ ⟨0,0,[],rfl,by omega,fun _=>Led.nil 0,List.Pairwise.nil,by simp,fun _ c hc=>by cases hc⟩ (by simp only [Int.toNat_zero];omega);rintro k _ ⟨n,s,bef,rfl,hn,hs1,hbp,hbl,hbc⟩ ih;dsimp only;by_cases hlt:n≤w.length
 ·have hcer:=hbc hlt;have hs1:=hs1 hlt;have halp:∀ e∈w.take n,e∈a.zD:=fun e he=>hal e (List.mem_of_mem_take he);have htl:(w.take n).length≤w.length:=by rw [List.length_take];omega
  have htb:(w.take n).length<big:=by unfold big;omega
  have hsl:slcO w 0 (n:Int)=some (w.take n):=by
   have:=Q5y (l:=w) (i:=0) (j:=n) (by omega) hlt;simpa using this
  have hk1:=Q9m hp halp;have hk2:=Q9m hpw halp;have ho1:(obsW (obsE ev) (w.take n)).length<big:=Nat.lt_of_le_of_lt (List.length_filter_le _ _) htb;have ho2:(obsW (obsE (wdL more 0 ev)) (w.take n)).length<big:=Nat.lt_of_le_of_lt (List.length_filter_le _ _) htb;rw [if_pos (by omega)];simp only [letJ];rw [hsl];simp only [Option.bind_some];rw [Qwz hevl];simp only [Option.bind_some];rw [Qw0 hOs.so hOs.big htb];simp only [Option.bind_some];rw [Q0q hp hb ho1,if_pos hk1];simp only [Option.bind_some];rw [Qwz hwel];simp only [Option.bind_some];rw [Qw0 hOw.so hOw.big htb];simp only [Option.bind_some];rw [Q0q hpw hb2 ho2,if_pos hk2];simp only [Option.bind_some];have hm1:=fun x=>Q9n hp hb hpa hk1 x;have hm2:=fun x=>Q9n hpw hb2 hpa hk2 x;have hl1:(Qjd l (estP b (obsE ev) (obsW (obsE ev) (w.take n)))).length<big:=by rw [Q3i];exact (Q56 _).big hb.r
  have hl2:(Qjd l2 (estP b2 (obsE (wdL more 0 ev)) (obsW (obsE (wdL more 0 ev)) (w.take n)))).length<big:=by rw [Q3i];exact (Q56 _).big hb2.r
  have hce:∀ c,c∈cer n↔(1≤c∧c≤4)∧Qsy c (Qjd l (estP b (obsE ev) (obsW (obsE ev) (w.take n))))=2:=fun c=>by
   show c∈clsP _ 0↔_;rw [Qbbd,decide_eq_true_eq]
  have hcl:cer n=clsP (fun c=>decide (Qsy c (Qjd l (estP b (obsE ev) (obsW (obsE ev) (w.take n))))=2)) 0:=rfl;generalize hL1:Qjd l (estP b (obsE ev) (obsW (obsE ev) (w.take n)))=L1 at hm1 hl1 hce hcl ⊢;generalize Qjd l2 (estP b2 (obsE (wdL more 0 ev)) (obsW (obsE (wdL more 0 ev)) (w.take n)))=L2 at hm2 hl2 ⊢;have hx1:(⟨s,clsW ev (w.take n)⟩ : Lab)∈L1:=(hm1 _).2 ⟨w.take n,s,hs1,rfl,rfl⟩;have hx2:(⟨s,clsW ev (w.take n)⟩ : Lab)∈L2:=(hm2 _).2 ⟨w.take n,s,hs1,rfl,by rw [Qbbb]⟩;have hsub:∀ x∈L2,x∈L1:=by
   intro x hx;obtain ⟨u,r,h1,h2,rfl⟩:=(hm2 x).1 hx;refine (hm1 _).2 ⟨u,r,h1,?_,by rw [Qbbb]⟩;rw [← Q8l (Qbbc more) u,h2,Q8l (Qbbc more)]
  have hne1:L1≠[]:=fun h=>by rw [h] at hx1;cases hx1
  rw [Qbb8 hl1 hne1,← hcl];simp only [Option.bind_some,bne_self_eq_false,Bool.false_eq_true,if_false];obtain ⟨i1,hi1⟩:=Q6e hl1 hx1;obtain ⟨i2,hi2⟩:=Q6e hl2 hx2;have hcr:(cer n).Pairwise (· < ·):=Qbe9 _;have hcn:(cer n).length≤4:=Qbgs _;rw [hi1];simp only [Option.bind_some];rw [if_neg (by omega),hi2];simp only [Option.bind_some];rw [if_neg (by omega),Qbe8 hbp hcr (by unfold big;omega) hcer];simp only [Option.bind_some,Bool.not_true,Bool.false_eq_true,if_false];refine Qcx (fun x=>∃ i:Nat,x=(i:Int)∧i≤L2.length) (fun x=>L2.length-x.toNat) (fun x r=>r=some true) ?_ fuel _ ⟨0,rfl,Nat.zero_le _⟩ (by simp only [Int.toNat_zero];unfold big at hl2;omega);rintro k' _ ⟨i,rfl,hi⟩ ih';by_cases hil:i<L2.length
  ·rw [if_pos (by omega),Qbg hil];simp only [Option.bind_some];obtain ⟨j,hj⟩:=Q6e hl1 (hsub _ (List.getElem_mem hil));rw [hj];simp only [Option.bind_some];rw [if_neg (by omega),Qy (by unfold big at hl2;omega)];exact ih' _ ⟨i+1,rfl,by omega⟩ (by simp only [Int.toNat_natCast];omega)
  ·rw [if_neg (by omega)];have hel:=hs.2.2.2;have hwn:IntKind.wrap .i64 ((n:Int)+1)=((n+1:Nat):Int):=Qy (by omega);refine Qcx (fun x=>∃ j:Nat,x=(j:Int)∧j≤a.zG.length∧∀ (q:Nat) y,q<j→a.zG[q]? = some y→¬ (y.From=s∧w[n]? = some y.Event)) (fun x=>a.zG.length-x.toNat) (fun x r=>r=some true) ?_ fuel _ ⟨0,rfl,Nat.zero_le _,fun q y hq=>by omega⟩ (by simp only [Int.toNat_zero];omega);rintro k2 _ ⟨j,rfl,hj,hno⟩ ih2;by_cases hjl:j<a.zG.length
   ·rw [if_pos (by omega),Qbg hjl];have hye:=List.getElem_mem hjl;have hgj:a.zG[j]? = some a.zG[j]:=List.getElem?_eq_getElem hjl;generalize a.zG[j]=y at hye hgj ⊢;simp only [Option.bind_some];by_cases hc:y.From=s∧w[n]? = some y.Event
    ·obtain ⟨hc1,hc2⟩:=hc;have hnl:=(List.getElem?_eq_some_iff.1 hc2).1;have hgw:getO w (n:Int)=some y.Event:=by rw [Qfm];exact ⟨by omega,by simpa using hc2⟩
     rw [if_pos (by omega),if_pos (by simp [hc1]),hgw];simp only [Option.bind_some,beq_self_eq_true,if_true];have hst1:0≤s∧s<a.zH:=by have:=hp.r.ed0 y hye;omega
     have hB:LbI a [(⟨s,clsW ev (w.take n)⟩ : Lab)]:=⟨by simp,fun x hx=>by rw [List.mem_singleton.1 hx];exact ⟨hst1,Q9k hp _ _ rfl⟩⟩;rw [Qbhk hp hB (List.mem_singleton.2 rfl) hye];simp only [Option.bind_some];have htk:w.take (n+1)=w.take n++[y.Event]:=by rw [List.take_add_one,hc2];rfl
     rw [hwn];have hcls:(toL ev ⟨s,clsW ev (w.take n)⟩ y).Classes=clsW ev (w.take (n+1)):=by rw [htk,Qvb];rfl
     rw [hcls];refine ih _ ⟨n+1,_,cer n,rfl,by omega,fun _=>?_,hcr,hcn,fun _ c hc=>?_⟩ (by simp only [Int.toNat_natCast];omega)
     ·rw [htk];have h1:=Q6b hp.r hye;rw [hc1] at h1;exact hs1.app h1
     ·obtain ⟨hc3,hc4⟩:=(hce c).1 hc;have hx:=Qbhm hp hb hpa;have hpos:0<b.zH:=by
       have hst:=hb.r.st;rcases Int.lt_or_le 0 b.zH with h|h
       ·exact h
       ·have:=hb.z.2 (by omega);omega
      rw [← hL1] at hc4 hne1;have hv:=(Q45 hp hb hx hpos hc3 hk1 hne1).2.1 hc4;have halp2:∀ e∈w.take (n+1),e∈a.zD:=fun e he=>hal e (List.mem_of_mem_take he);have hk3:=Q9m hp halp2;have hm3:=fun x=>Q9n hp hb hpa hk3 x;have hne3:Qjd l (estP b (obsE ev) (obsW (obsE ev) (w.take (n+1))))≠[]:=fun h=>by
       obtain ⟨s2,hs2⟩:=hstate (n+1);have:=(hm3 ⟨s2,clsW ev (w.take (n+1))⟩).2 ⟨_,s2,hs2,rfl,rfl⟩;rw [h] at this;cases this
      show c∈clsP _ 0;rw [Qbbd,decide_eq_true_eq];refine ⟨hc3,(Q45 hp hb hx hpos hc3 hk3 hne3).2.2 fun u r hr hob=>?_⟩;rw [htk,Q8i] at hob;by_cases hon:y.Event∈obsE ev
      ·rw [if_pos hon] at hob;obtain ⟨u',v,rfl,h1,_,_⟩:=Q8k hob;obtain ⟨r1,h2,_⟩:=Led.split (show Led a 0 (u'++[y.Event]++v) r from hr);obtain ⟨r2,h3,_⟩:=Led.split h2;have:=hv u' r2 h3 h1;unfold fltW at this ⊢;rw [List.any_append,List.any_append,this];rfl
      ·rw [if_neg hon] at hob;exact hv u r hr hob
    ·have hcond:(if (n:Int)<(w.length:Int) then (if (y.From==s)=true then ((getO w (n:Int)).bind fun x101=>some (y.Event==x101)) else some false) else some false)=some false:=by
      by_cases h1:n<w.length
      ·rw [if_pos (by omega)];by_cases h2:y.From=s
       ·rw [if_pos (by simp [h2]),Qbg h1];simp only [Option.bind_some];have:¬ y.Event=w[n]:=fun h=>hc ⟨h2,by rw [h];exact List.getElem?_eq_getElem h1⟩;simp [this]
       ·rw [if_neg (by simp [h2])]
      ·rw [if_neg (by omega)]
     rw [hcond];simp only [Option.bind_some,Bool.false_eq_true,if_false];rw [Qy (by omega)];refine ih2 _ ⟨j+1,rfl,by omega,fun q y' hq hy'=>?_⟩ (by simp only [Int.toNat_natCast];omega);rcases Nat.lt_or_ge q j with h|h
     ·exact hno q y' h hy'
     ·obtain rfl:q=j:=by omega
      rw [hgj] at hy';cases hy';exact hc
   ·rw [if_neg (by omega),hwn];have hend:n=w.length:=by
     rcases Nat.lt_or_ge n w.length with h|h
     ·exfalso;obtain ⟨s2,hs2⟩:=hstate (n+1);have htk:w.take (n+1)=w.take n++[w[n]]:=List.take_succ_eq_append_getElem h;rw [htk] at hs2;obtain ⟨r,h1,h2⟩:=Led.split hs2;have hrs:r=s:=by
       have e1:runP a 0 0 (w.take n)=(r,((w.take n).length:Int)):=h1;have e2:runP a 0 0 (w.take n)=(s,((w.take n).length:Int)):=hs1;rw [e1] at e2;exact (Prod.mk.inj e2).1
      subst hrs;obtain ⟨y,hy,hy1,hy2,_⟩:=h2.edge hp.r;obtain ⟨q,hq⟩:=List.getElem?_of_mem hy;have hql:=(List.getElem?_eq_some_iff.1 hq).1;exact hno q y (by omega) hq ⟨hy1,by rw [List.getElem?_eq_getElem h,hy2]⟩
     ·omega
    have htk:w.take (n+1)=w.take n:=by rw [List.take_of_length_le (by omega),List.take_of_length_le (by omega)]
    rw [← htk];exact ih _ ⟨n+1,s,cer n,rfl,by omega,fun h=>by omega,hcr,hcn,fun h=>by omega⟩ (by simp only [Int.toNat_natCast];omega)
 ·rw [if_neg (by omega)]
end Go.Abs
end
