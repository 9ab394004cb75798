/-
  Part 11 of the proof: see the last text.
-/
import Derived.Test.YtjngkimolkhdmaaGreatP10
import Derived.KernelRfl
set_option linter.unusedVariables false
set_option linter.unusedSimpArgs false
set_option linter.unusedSectionVars false
section
namespace Go.Abs
open Go
def Qmf (x y:Qf):Prop:=x.From<y.From∨x.From=y.From∧x.Event<y.Event
instance (x y:Qf):Decidable (Qmf x y):=by unfold Qmf;infer_instance
structure Right (a:Qa):Prop where
 al0:∀ x∈a.zD,0≤x∧x<32
 al:a.zD.Pairwise (· < ·)
 st:0≤a.zH∧a.zH≤4096
 ma0:∀ x∈a.zF,0≤x∧x<a.zH
 ma:a.zF.Pairwise (· < ·)
 ed0:∀ x∈a.zG,0≤x.From∧x.From<a.zH∧0≤x.To∧x.To<a.zH∧x.Event∈a.zD
 ed:a.zG.Pairwise Qmf
theorem Qi4 {n:Int}:∀ {l:List Int} {p:Option Int},Qf6 n p l=0↔(∀ x∈l,0≤x∧x<n)∧l.Pairwise (· < ·)∧∀ y,p=some y→∀ x∈l,y<x
 | [],p=>by simp [Qf6]
 | x::xs,p=>by
  rw [Qf6];split
  ·rename_i h;refine ⟨fun h=>by omega,fun hh=>?_⟩;have:=hh.1 x (by simp);omega
  ·rename_i h;split
   ·rename_i h2;obtain ⟨y,hy,hxy⟩:=h2;refine ⟨fun h=>by omega,fun hh=>?_⟩;have:=hh.2.2 y hy x (by simp);omega
   ·rename_i h2;rw [Qi4];constructor
    ·rintro ⟨k1,k2,k3⟩;refine ⟨fun z hz=>?_,List.pairwise_cons.2 ⟨fun z hz=>k3 x rfl z hz,k2⟩,fun y hy z hz=>?_⟩
     ·rcases List.mem_cons.1 hz with rfl|hz
      ·omega
      ·exact k1 z hz
     ·have hyx:y<x:=by
       rcases Int.lt_or_le y x with h|h
       ·exact h
       ·exact absurd ⟨y,hy,h⟩ h2
      rcases List.mem_cons.1 hz with rfl|hz
      ·exact hyx
      ·have:=k3 x rfl z hz;omega
    ·rintro ⟨k1,k2,k3⟩;obtain ⟨k4,k5⟩:=List.pairwise_cons.1 k2;exact ⟨fun z hz=>k1 z (by simp [hz]),k5,fun y hy z hz=>by cases hy;exact k4 z hz⟩
theorem Qrx {al:List Int} {n:Int}:∀ {l:List Qf} {p:Option Qf},Qj0 al n p l=0↔(∀ x∈l,0≤x.From∧x.From<n∧0≤x.To∧x.To<n∧x.Event∈al)∧l.Pairwise Qmf∧∀ y,p=some y→∀ x∈l,Qmf y x
 | [],p=>by simp [Qj0]
 | x::xs,p=>by
  have tr:∀ a b c:Qf,Qmf a b→Qmf b c→Qmf a c:=fun a b c h k=>by unfold Qmf at *;omega
  rw [Qj0];split
  ·rename_i h;refine ⟨fun h=>by omega,fun hh=>?_⟩;have:=hh.1 x (by simp);omega
  ·rename_i h;split
   ·rename_i h2;refine ⟨fun h=>by omega,fun hh=>?_⟩;exact absurd (hh.1 x (by simp)).2.2.2.2 h2
   ·rename_i hal;split
    ·rename_i h2;obtain ⟨y,hy,hxy⟩:=h2;refine ⟨fun h=>by omega,fun hh=>?_⟩;have:=hh.2.2 y hy x (by simp);unfold Qmf at this;omega
    ·rename_i h2;rw [Qrx];constructor
     ·rintro ⟨k1,k2,k3⟩;refine ⟨fun z hz=>?_,List.pairwise_cons.2 ⟨fun z hz=>k3 x rfl z hz,k2⟩,fun y hy z hz=>?_⟩
      ·rcases List.mem_cons.1 hz with rfl|hz
       ·exact ⟨by omega,by omega,by omega,by omega,Decidable.not_not.1 hal⟩
       ·exact k1 z hz
      ·have hyx:Qmf y x:=by
        apply Decidable.byContradiction;intro h;exact h2 ⟨y,hy,by unfold Qmf at h;omega⟩
       rcases List.mem_cons.1 hz with rfl|hz
       ·exact hyx
       ·exact tr _ _ _ hyx (k3 x rfl z hz)
     ·rintro ⟨k1,k2,k3⟩;obtain ⟨k4,k5⟩:=List.pairwise_cons.1 k2;exact ⟨fun z hz=>k1 z (by simp [hz]),k5,fun y hy z hz=>by cases hy;exact k4 z hz⟩
theorem Q5c {a:Qa}:Qrw a=0↔Right a:=by
 unfold Qrw;constructor
 ·intro h;split at h
  ·rename_i h1;exact absurd h h1
  rename_i h1;split at h
  ·omega
  split at h
  ·omega
  split at h
  ·rename_i h4;exact absurd h h4
  rename_i h4;have q1:=Qi4.1 (Decidable.not_not.1 h1);have q2:=Qi4.1 (Decidable.not_not.1 h4);have q3:=Qrx.1 h;exact ⟨q1.1,q1.2.1,⟨by omega,by omega⟩,q2.1,q2.2.1,q3.1,q3.2.1⟩
 ·intro h;have q1:Qf6 32 none a.zD=0:=Qi4.2 ⟨h.al0,h.al,fun y hy=>by cases hy⟩;have q2:Qf6 a.zH none a.zF=0:=Qi4.2 ⟨h.ma0,h.ma,fun y hy=>by cases hy⟩;have q3:Qj0 a.zD a.zH none a.zG=0:=Qrx.2 ⟨h.ed0,h.ed,fun y hy=>by cases hy⟩;have:=h.st;rw [if_neg (by simp [q1]),if_neg (by omega),if_neg (by omega),if_neg (by simp [q2]),q3]
def outP (a:Qa) (s:Int):List Qf:=a.zG.filter fun x=>x.From==s
def Qkw (a:Qa) (s e:Int):Int:=match a.zG.find? fun x=>x.From==s&&x.Event==e with
 | some x=>x.To
 | none=>-1
section
variable {a:Qa} (h:Right a) (hs:small a)
include h hs
omit h in
theorem Q2i {s e:Int}:Qcr a s e=some (Qkw a s e):=by
 have hb:a.zG.length<1000000000000:=hs.2.2;unfold Qcr Qbo;refine (Qju (len:=a.zG.length) (fun k=>some (match (a.zG.drop k).find? (fun x=>x.From==s&&x.Event==e) with|some x=>x.To|none=>-1)) (by unfold Qbd;omega) ?_ ?_).trans (by simp [Qkw])
 ·intro k i hi ih;rw [if_pos (by omega),Qbp hi,Q9 (by omega),ih,List.drop_eq_getElem_cons hi];simp only [Option.bind_some,List.find?_cons];cases h1:a.zG[i].From==s<;>cases h2:a.zG[i].Event==e<;>simp [h1,h2]
 ·intro k;simp
end
theorem Q6r {a:Qa} (h:Right a) (s e:Int):Qkw a s e = -1∨0≤Qkw a s e∧Qkw a s e<a.zH∧0≤s∧s<a.zH∧e∈a.zD:=by
 unfold Qkw;split
 ·rename_i x hx;have hm:=List.mem_of_find?_eq_some hx;have hp:=List.find?_some hx;obtain ⟨k1,k2,k3,k4,k5⟩:=h.ed0 x hm;simp at hp;exact .inr ⟨k3,k4,by omega,by omega,hp.2 ▸ k5⟩
 ·exact .inl rfl
theorem Q5d {a:Qa} (h:Right a) {s e:Int}:0≤Qkw a s e↔∃ x∈outP a s,x.Event=e:=by
 unfold Qkw outP;split
 ·rename_i x hx;have hm:=List.mem_of_find?_eq_some hx;have hp:=List.find?_some hx;simp at hp;refine ⟨fun _=>⟨x,by simp [hm,hp.1],hp.2⟩,fun _=>(h.ed0 x hm).2.2.1⟩
 ·rename_i hx;have:=List.find?_eq_none.1 hx;refine ⟨fun h=>by omega,?_⟩;rintro ⟨x,h1,h2⟩;simp at h1;exact absurd (by simp [h1.2,h2]) (this x h1.1)
theorem Qwd {a:Qa} (h:Right a) (s:Int):(outP a s).map (·.Event)=a.zD.filter fun e=>decide (0≤Qkw a s e):=by
 refine Q9c ?_ (h.al.filter _) fun e=>?_
 ·rw [List.pairwise_map];have h1:(outP a s).Pairwise Qmf:=h.ed.filter _;have h2:∀ x∈outP a s,x.From=s:=fun x hx=>by unfold outP at hx;simp at hx;exact hx.2
  exact List.Pairwise.imp_of_mem (fun {x y} hx hy hk=>by have:=h2 x hx;have:=h2 y hy;unfold Qmf at hk;omega) h1
 ·simp only [List.mem_map,List.mem_filter,decide_eq_true_eq,Q5d h];constructor
  ·rintro ⟨x,hx,rfl⟩;refine ⟨?_,x,hx,rfl⟩;unfold outP at hx;simp at hx;exact (h.ed0 x hx.1).2.2.2.2
  ·rintro ⟨_,x,hx,rfl⟩;exact ⟨x,hx,rfl⟩
theorem Q5e {a:Qa} (h:Right a) {s:Int} {x:Qf} (hx:x∈outP a s):Qkw a s x.Event=x.To:=by
 unfold outP at hx;simp at hx;unfold Qkw;split
 ·rename_i y hy;have hm:=List.mem_of_find?_eq_some hy;have hp:=List.find?_some hy;simp at hp;have:x=y:=by
   rcases Classical.em (x=y) with e|hne
   ·exact e
   ·exfalso;have hk:Qmf x y∨Qmf y x:=by
     have:=List.pairwise_iff_getElem.1 h.ed;obtain ⟨i,hi,rfl⟩:=List.getElem_of_mem hx.1;obtain ⟨j,hj,rfl⟩:=List.getElem_of_mem hm;rcases Nat.lt_trichotomy i j with hij|hij|hij
     ·exact .inl (this i j hi hj hij)
     ·subst hij;exact absurd rfl hne
     ·exact .inr (this j i hj hi hij)
    unfold Qmf at hk;omega
  rw [this]
 ·rename_i hn;exact absurd (by simp [hx.2]) (List.find?_eq_none.1 hn x hx.1)
end Go.Abs
end
section
namespace Go.Abs
open Go
theorem Right.small {a:Qa} (h:Right a):small a∧a.zD.length≤32∧a.zF.length≤4096∧a.zG.length≤131072:=by
 have h1:=Qf2 h.al h.al0;have h2:=Qf2 h.ma h.ma0;have h3:(a.zG.map fun x=>x.From*32+x.Event).Pairwise (· < ·):=by
  rw [List.pairwise_map];refine List.Pairwise.imp_of_mem (fun {x y} hx hy hk=>?_) h.ed;have:=h.al0 _ (h.ed0 x hx).2.2.2.2;have:=h.al0 _ (h.ed0 y hy).2.2.2.2;unfold Qmf at hk;omega
 have h4:=Qf2 (a:=0) (b:=131072) h3 (by
  intro z hz;obtain ⟨x,hx,rfl⟩:=List.mem_map.1 hz;have:=h.al0 _ (h.ed0 x hx).2.2.2.2;have:=h.ed0 x hx;have:=h.st;omega)
 rw [List.length_map] at h4;have:=h.st;refine ⟨⟨?_,?_,?_⟩,?_,?_,?_⟩<;>(try unfold big)<;>omega
theorem Q6s {a:Qa} (h:Right a):Qf0 a=some 0:=by rw [Q78 h.small.1,Q5c.2 h]
theorem Q2j {α β:Type} {l:List α} {f:α→β} {fuel:Nat} (hl:l.length<big) (hf:l.length<fuel) {F:(List β×Int→Option (List β))→List β×Int→Option (List β)}
  (hF:∀ (k:List β×Int→Option (List β)) (acc:List β) (n:Nat) (h:n<l.length),F k (acc,(n:Int))=(appO acc [f l[n]]).bind fun x=>k (x,IntKind.wrap .i64 ((n:Int)+1)))
  (hlast:∀ (k:List β×Int→Option (List β)) (acc:List β),F k (acc,(l.length:Int))=some acc):Qcd F fuel ([],0)=some (l.map f):=by
 have hb:l.length<1000000000000:=hl;refine (Qfr (len:=l.length) (fun n (acc:List β)=>(acc,(n:Int))) (fun n acc=>acc.length≤n) (fun n acc=>some (acc++(l.drop n).map f)) ?_ ?_ fuel 0 [] (Nat.zero_le _) (by omega) (Nat.le_refl _)).trans (by simp)
 ·intro k n acc hn hi ih;rw [hF k acc n hn,Qb1 (by simp only [List.length_cons,List.length_nil];unfold lim;omega),Option.bind_some,Q9 (by omega),ih _ (by simp;omega),List.drop_eq_getElem_cons hn];simp only [List.map_cons,List.append_assoc,List.cons_append,List.nil_append]
 ·intro k acc _;rw [hlast];simp
end Go.Abs
end
section
namespace Go.Abs
open Go
def ins (o:List Int) (t:Int):List Int:=if t∈o then o else o++[t]
def Qqv (a:Qa) (s:Int):List Int:=(outP a s).map (·.To)
def bfs (a:Qa):Nat→Nat→List Int→List Int
 | 0,_,o=>o
 | fuel+1,i,o=>match o[i]? with
  | some s=>bfs a fuel (i+1) ((Qqv a s).foldl ins o)
  | none=>o
def Qmg (a:Qa):List Int:=bfs a (a.zH.toNat+1) 0 (if 0<a.zH then [0] else [])
structure Fnd (a:Qa) (o:List Int):Prop where
 nd:o.Nodup
 rg:∀ s∈o,0≤s∧s<a.zH
theorem Fnd.len {a:Qa} {o:List Int} (h:Fnd a o):o.length≤a.zH.toNat:=by
 have hO:Go.Sort.SWO Qfw:=⟨fun x=>by simp [Qfw],fun x y z h1 h2=>by simp [Qfw] at *;omega,fun x y z h1 h2=>by simp [Qfw] at *;omega⟩;have hp:=Qoh Qfw o;have hs:=Qnf hO o;have hn:(Qm0 Qfw o).Nodup:=(hp.nodup_iff).2 h.nd;have hlt:(Qm0 Qfw o).Pairwise (· < ·):=by
  have:(Qm0 Qfw o).Pairwise fun x y=>Qfw y x=false∧x≠y:=hs.and hn;exact this.imp fun ⟨h1,h2⟩=>by simp [Qfw] at h1;omega
 have:=Qf2 hlt (a:=0) (b:=a.zH) fun x hx=>h.rg x (hp.mem_iff.1 hx);rw [Qne] at this;simpa using this
theorem Q0z {o:List Int} {t x:Int}:x∈ins o t↔x∈o∨x=t:=by
 unfold ins;split
 ·rename_i h;constructor
  ·exact .inl
  ·rintro (h'|rfl)
   ·exact h'
   ·exact h
 ·simp
theorem Qbfu (o:List Int) (t:Int):o <+: ins o t:=by
 unfold ins;split
 ·exact List.prefix_refl o
 ·exact List.prefix_append o [t]
theorem Fnd.ins {a:Qa} {o:List Int} (h:Fnd a o) {t:Int} (ht:0≤t∧t<a.zH):Fnd a (ins o t):=by
 refine ⟨?_,fun s hs=>?_⟩
 ·unfold Go.Abs.ins;split
  ·exact h.nd
  ·rename_i hn;rw [List.nodup_append];exact ⟨h.nd,by simp,fun x hx y hy=>by simp at hy;subst hy;exact fun e=>hn (e ▸ hx)⟩
 ·rcases Q0z.1 hs with hs|rfl
  ·exact h.rg s hs
  ·exact ht
theorem Qtv {a:Qa}:∀ {ts o:List Int},Fnd a o→(∀ t∈ts,0≤t∧t<a.zH)→Fnd a (ts.foldl ins o)∧o <+: ts.foldl ins o∧(∀ t∈ts,t∈ts.foldl ins o)∧∀ x∈ts.foldl ins o,x∈o∨x∈ts
 | [],o,h,_=>⟨h,List.prefix_refl o,by simp,fun x hx=>.inl hx⟩
 | t::ts,o,h,ht=>by
  obtain ⟨h1,h2,h3,h4⟩:=Qtv (ts:=ts) (h.ins (ht t (by simp))) fun t ht'=>ht t (by simp [ht']);refine ⟨h1,(Qbfu o t).trans h2,fun x hx=>?_,fun x hx=>?_⟩
  ·rcases List.mem_cons.1 hx with rfl|hx
   ·exact h2.subset (Q0z.2 (.inr rfl))
   ·exact h3 x hx
  ·rcases h4 x hx with h5|h5
   ·rcases Q0z.1 h5 with h6|rfl
    ·exact .inl h6
    ·exact .inr (by simp)
   ·exact .inr (by simp [h5])
theorem Qwe {a:Qa} (h:Right a) (s:Int):∀ t∈Qqv a s,0≤t∧t<a.zH:=by
 intro t ht;unfold Qqv outP at ht;obtain ⟨x,hx,rfl⟩:=List.mem_map.1 ht;have:=h.ed0 x ((List.mem_filter.1 hx).1);omega
theorem Qyb {α:Type} {l m:List α} (h:l <+: m) {i:Nat} {x:α} (hx:l[i]? = some x):m[i]? = some x:=by
 obtain ⟨t,rfl⟩:=h;have:=(List.getElem?_eq_some_iff.1 hx).1;rw [List.getElem?_append_left this];exact hx
theorem Q3m {a:Qa} (h:Right a):∀ (fuel i:Nat) (o:List Int),Fnd a o→i≤o.length→a.zH.toNat+1≤fuel+i→(∀ j s,j<i→o[j]? = some s→∀ t∈Qqv a s,t∈o) →
  Fnd a (bfs a fuel i o)∧o <+: bfs a fuel i o∧∀ s∈bfs a fuel i o,∀ t∈Qqv a s,t∈bfs a fuel i o
 | 0,i,o,hf,hi,hfu,_=>by have:=hf.len;omega
 | fuel+1,i,o,hf,hi,hfu,hc=>by
  unfold bfs;cases hg:o[i]? with
  | none =>
   dsimp only;refine ⟨hf,List.prefix_refl o,fun s hs t ht=>?_⟩;obtain ⟨j,hj⟩:=List.getElem?_of_mem hs;have hlt:=(List.getElem?_eq_some_iff.1 hj).1;exact hc j s (by have:=List.getElem?_eq_none_iff.1 hg;omega) hj t ht
  | some s =>
   dsimp only;obtain ⟨h1,h2,h3,_⟩:=Qtv hf (Qwe h s);have hlen:i<o.length:=(List.getElem?_eq_some_iff.1 hg).1;have hle:=h2.length_le;obtain ⟨k1,k2,k3⟩:=Q3m h fuel (i+1) ((Qqv a s).foldl ins o) h1 (by omega) (by omega) (fun j s' hj hs' t ht=>by
    by_cases hji:j<i
    ·have hjl:j<o.length:=by omega
     have:o[j]? = some s':=by
      have:=Qyb h2 (List.getElem?_eq_getElem hjl);rw [hs'] at this;rw [List.getElem?_eq_getElem hjl];exact this.symm
     exact h2.subset (hc j s' hji this t ht)
    ·obtain rfl:j=i:=by omega
     have:=Qyb h2 hg;rw [hs'] at this;cases this;exact h3 t ht)
   exact ⟨k1,h2.trans k2,k3⟩
theorem Qug {a:Qa} (h:Right a):Fnd a (Qmg a)∧(if 0<a.zH then [0] else []) <+: Qmg a∧∀ s∈Qmg a,∀ t∈Qqv a s,t∈Qmg a :=
 Q3m h _ 0 _ ⟨by split<;>simp,fun s hs=>by split at hs<;>simp at hs;subst hs;omega⟩ (Nat.zero_le _) (by omega) fun j s hj=>by omega
def Qvg (m:List Int):Nat→List Int→List Int
 | _,[]=>[]
 | i,s::t=>(if s∈m then [(i:Int)] else [])++Qvg m (i+1) t
def rowP (a:Qa) (F:List Int) (i:Nat) (s:Int):List Qf:=(outP a s).map fun x=>⟨(i:Int),x.Event,(F.idxOf x.To:Int)⟩
def Qvh (a:Qa) (F:List Int):Nat→List Int→List Qf
 | _,[]=>[]
 | i,s::t=>rowP a F i s++Qvh a F (i+1) t
def Qtw (a:Qa):Qa:=⟨a.zD,((Qmg a).length:Int),Qvg a.zF 0 (Qmg a),Qvh a (Qmg a) 0 (Qmg a)⟩
theorem Qtx {m:List Int}:∀ {l:List Int} {i:Nat},∀ x∈Qvg m i l,(i:Int)≤x∧x<(i+l.length:Nat)
 | [],i,x,hx=>by simp [Qvg] at hx
 | s::t,i,x,hx=>by
  simp only [Qvg,List.mem_append] at hx;rcases hx with hx|hx
  ·split at hx<;>simp at hx;subst hx;simp only [List.length_cons];omega
  ·have:=Qtx x hx;simp only [List.length_cons];omega
theorem Qxd {m:List Int}:∀ {l:List Int} {i:Nat},(Qvg m i l).Pairwise (· < ·)
 | [],i=>.nil
 | s::t,i=>by
  simp only [Qvg];rw [List.pairwise_append];refine ⟨by split<;>simp,Qxd,fun x hx y hy=>?_⟩;have:=Qtx y hy;split at hx<;>simp at hx;omega
theorem Qwf {a:Qa} {F:List Int}:∀ {l:List Int} {i:Nat},∀ x∈Qvh a F i l,(i:Int)≤x.From∧x.From<(i+l.length:Nat)∧∃ s∈l,∃ y∈outP a s,x.Event=y.Event∧x.To=(F.idxOf y.To:Int)
 | [],i,x,hx=>by simp [Qvh] at hx
 | s::t,i,x,hx=>by
  simp only [Qvh,List.mem_append] at hx;rcases hx with hx|hx
  ·obtain ⟨y,hy,rfl⟩:=List.mem_map.1 hx;simp only [List.length_cons];exact ⟨by omega,by omega,s,by simp,y,hy,rfl,rfl⟩
  ·obtain ⟨h1,h2,s',h3,h4⟩:=Qwf x hx;simp only [List.length_cons];exact ⟨by omega,by omega,s',by simp [h3],h4⟩
theorem Qxe {a:Qa} (h:Right a) {F:List Int}:∀ {l:List Int} {i:Nat},(Qvh a F i l).Pairwise Qmf
 | [],i=>.nil
 | s::t,i=>by
  simp only [Qvh];rw [List.pairwise_append];refine ⟨?_,Qxe h,fun x hx y hy=>?_⟩
  ·unfold rowP;rw [List.pairwise_map];have h1:(outP a s).Pairwise Qmf:=h.ed.filter _;have h2:∀ x∈outP a s,x.From=s:=fun x hx=>by unfold outP at hx;simp at hx;exact hx.2
   exact List.Pairwise.imp_of_mem (fun {x y} hx hy hk=>by have:=h2 x hx;have:=h2 y hy;unfold Qmf at hk;exact .inr ⟨rfl,by show x.Event<y.Event;omega⟩) h1
  ·obtain ⟨z,_,rfl⟩:=List.mem_map.1 hx;have:=(Qwf y hy).1;unfold Qmf;simp only;omega
theorem Q5f {a:Qa} (h:Right a):Right (Qtw a):=by
 obtain ⟨h1,h2,h3⟩:=Qug h;have hl:=h1.len;have hst:=h.st;refine ⟨h.al0,h.al,⟨by simp only [Qtw];omega,by simp only [Qtw];omega⟩,fun x hx=>?_,Qxd,fun x hx=>?_,Qxe h⟩
 ·have:=Qtx x hx;simp only [Qtw];omega
 ·obtain ⟨k1,k2,s,hs,y,hy,k3,k4⟩:=Qwf x hx;have hy' : y.To∈Qmg a:=h3 s hs y.To (List.mem_map.2 ⟨y,hy,rfl⟩);have:=List.idxOf_lt_length_iff.2 hy';simp only [Qtw];refine ⟨by omega,by omega,by omega,by omega,?_⟩;rw [k3];unfold outP at hy;exact (h.ed0 y ((List.mem_filter.1 hy).1)).2.2.2.2
end Go.Abs
end
section
namespace Go.Abs
open Go
theorem Q79 {l:List Int} (hl:l.length≤lim):Qff l=some ⟨l,0,[],[]⟩:=by
 unfold Qff Qbe;rw [Qb1 (by simpa using hl)];rfl
theorem Q6t {l:List Int} {v:Int} (hl:l.length<big):Qfg l v=some (if v∈l then (l.idxOf v:Int) else -1):=by
 have hb:l.length<1000000000000:=hl;unfold Qfg Qcz;refine (Qju (len:=l.length) (fun k=>some (if v∈l.drop k then ((k+(l.drop k).idxOf v:Nat):Int) else -1)) (by unfold Qbd;omega) ?_ ?_).trans (by simp)
 ·intro k i hi ih;rw [if_pos (by omega),Qbp hi,Q9 (by omega),ih,List.drop_eq_getElem_cons hi];simp only [Option.bind_some,List.mem_cons,List.idxOf_cons];by_cases h:v=l[i]
  ·simp [← h]
  ·have h' : ¬ l[i]=v:=fun e=>h e.symm;have hbq:(l[i]==v)=false:=by simp [h']
   by_cases h2:v∈l.drop (i+1)<;>simp [h,h2,hbq];omega
 ·intro k;simp
theorem Qyt {a:Qa} (h:Right a) (s:Int):Qqv a s=(a.zD.filter fun e=>decide (0≤Qkw a s e)).map (Qkw a s):=by
 rw [← Qwd h,List.map_map];unfold Qqv;exact List.map_congr_left fun x hx=>(Q5e h hx).symm
theorem Q2k {a:Qa} (s:Int):∀ (al o:List Int),al.foldl (fun o e=>if 0≤Qkw a s e then ins o (Qkw a s e) else o) o=((al.filter fun e=>decide (0≤Qkw a s e)).map (Qkw a s)).foldl ins o
 | [],o=>rfl
 | e::al,o=>by
  by_cases hx:0≤Qkw a s e<;>simp [List.filter_cons,hx,Q2k s al]
theorem Q8a {a:Qa} {fuel i:Nat} {o:List Int} (hi:i<o.length):bfs a (fuel+1) i o=bfs a fuel (i+1) ((Qqv a o[i]).foldl ins o):=by
 conv=>lhs;unfold bfs
 rw [List.getElem?_eq_getElem hi]
theorem Qbbw {a:Qa} {fuel:Nat} {o:List Int}:bfs a fuel o.length o=o:=by
 cases fuel with
 | zero=>rfl
 | succ n=>unfold bfs;simp
section
variable {a:Qa} (h:Right a)
include h
theorem Q9d (fuel:Nat) (hfu:1099511627776≤fuel) {s:Int} {o:List Int} {i:Nat} (hf:Fnd a o) (hi:o[i]? = some s) :
  Qcd (fun k12 ((out10,k11):(List Int)×Int)=>(if (k11<(a.zD.length:Int)) then ((((getO out10 (i:Int)).bind fun x14=>((getO a.zD k11).bind fun x16=>((Qcr a x14 x16).bind fun x19=>(((if (x19≥0) then ((Qdj out10 x19).bind fun x22=>some (!x22)) else some false)).bind fun (x23:Bool)=>(if x23 then ((appO out10 [x19]).bind fun x25=>some x25) else some out10)))))).bind fun (out27:List Int)=>k12 (out27,(IntKind.wrap .i64 (k11+1)))) else some out10)) fuel (o,0)=some ((Qqv a s).foldl ins o):=by
 have hs:=h.small.1;have hst:=h.st;have hb:a.zD.length<1000000000000:=hs.1;rw [Qyt h,← Q2k];refine (Qfr (len:=a.zD.length) (fun n (acc:List Int)=>(acc,(n:Int))) (fun n acc=>Fnd a acc∧acc[i]? = some s) (fun n acc=>some ((a.zD.drop n).foldl (fun o e=>if 0≤Qkw a s e then ins o (Qkw a s e) else o) acc)) ?_ ?_ fuel 0 o (Nat.zero_le _) (by omega) ⟨hf,hi⟩).trans (by simp)
 ·intro k n acc hn ⟨k1,k2⟩ ih;have hlen:=k1.len;have hg:getO acc (i:Int)=some s:=by rw [Qhw];exact ⟨by omega,by simpa using k2⟩
  dsimp only;rw [if_pos (by omega),hg,Qbp hn];simp only [Option.bind_some];rw [Q2i hs,Q9 (by omega)];simp only [Option.bind_some];rw [Qbeh (by unfold big;omega),List.drop_eq_getElem_cons hn,List.foldl_cons];rcases Q6r h s a.zD[n] with hr|hr
  ·rw [hr];simp only [show ¬ ((-1:Int)≥0) from by omega,show ¬ ((0:Int) ≤ -1) from by omega,if_false,Option.bind_some,Bool.false_eq_true];exact ih _ ⟨k1,k2⟩
  ·have hge:Qkw a s a.zD[n]≥0:=hr.1;by_cases hm:Qkw a s a.zD[n]∈acc
   ·simp only [hge,hm,decide_true,Bool.not_true,if_true,Option.bind_some,Bool.false_eq_true,if_false,hr.1,ins];exact ih _ ⟨k1,k2⟩
   ·simp only [hge,hm,decide_false,Bool.not_false,if_true,Option.bind_some,hr.1,ins,if_false];rw [Qb1 (by simp only [List.length_cons,List.length_nil];unfold lim;omega)];simp only [Option.bind_some];have hi':=k1.ins (t:=Qkw a s a.zD[n]) ⟨hr.1,hr.2.1⟩;unfold ins at hi';rw [if_neg hm] at hi';exact ih _ ⟨hi',Qyb (List.prefix_append acc _) k2⟩
 ·intro k acc _;dsimp only;rw [if_neg (by omega)];simp
theorem Q6u:Qgr a=some (Qmg a):=by
 have hs:=h.small.1;have hst:=h.st;unfold Qgr Qcy;obtain ⟨fuel,hfu,hge⟩ : ∃ f,Qbd=f∧1099511627776≤f:=⟨_,rfl,Nat.le_refl _⟩;rw [hfu];have hloop:∀ o:List Int,Fnd a o→Qcd (fun (k8:List Int×Int→Option (List Int)) ((out6,i7):(List Int)×Int)=>(if (i7<(out6.length:Int)) then ((Qcd (fun k12 ((out10,k11):(List Int)×Int)=>(if (k11<(a.zD.length:Int)) then ((((getO out10 i7).bind fun x14=>((getO a.zD k11).bind fun x16=>((Qcr a x14 x16).bind fun x19=>(((if (x19≥0) then ((Qdj out10 x19).bind fun x22=>some (!x22)) else some false)).bind fun (x23:Bool)=>(if x23 then ((appO out10 [x19]).bind fun x25=>some x25) else some out10)))))).bind fun (out27:List Int)=>k12 (out27,(IntKind.wrap .i64 (k11+1)))) else some out10)) fuel (out6,0)).bind fun (out28:List Int)=>k8 (out28,(IntKind.wrap .i64 (i7+1)))) else some out6)) fuel (o,0)=some (bfs a (a.zH.toNat+1) 0 o):=by
  intro o ho;have:=Qd0 (F:=fun (k8:List Int×Int→Option (List Int)) ((out6,i7):(List Int)×Int)=>(if (i7<(out6.length:Int)) then ((Qcd (fun k12 ((out10,k11):(List Int)×Int)=>(if (k11<(a.zD.length:Int)) then ((((getO out10 i7).bind fun x14=>((getO a.zD k11).bind fun x16=>((Qcr a x14 x16).bind fun x19=>(((if (x19≥0) then ((Qdj out10 x19).bind fun x22=>some (!x22)) else some false)).bind fun (x23:Bool)=>(if x23 then ((appO out10 [x19]).bind fun x25=>some x25) else some out10)))))).bind fun (out27:List Int)=>k12 (out27,(IntKind.wrap .i64 (k11+1)))) else some out10)) fuel (out6,0)).bind fun (out28:List Int)=>k8 (out28,(IntKind.wrap .i64 (i7+1)))) else some out6))
   (fun x=>∃ i:Nat,x.2=(i:Int)∧i≤x.1.length∧Fnd a x.1) (fun x=>a.zH.toNat+1-x.2.toNat) (fun x r=>r=some (bfs a (a.zH.toNat+1-x.2.toNat) x.2.toNat x.1)) (by
    rintro k ⟨o,i⟩ ⟨i,rfl,hi,hf⟩ ih;replace hi:i≤o.length:=hi;replace hf:Fnd a o:=hf;have hl:=hf.len;dsimp only;by_cases hlt:i<o.length
    ·rw [if_pos (by omega),Q9d h fuel hge hf (List.getElem?_eq_getElem hlt),Option.bind_some,Q9 (by omega)];obtain ⟨q1,q2,_,_⟩:=Qtv hf (Qwe h o[i]);have hle:=q2.length_le;rw [ih _ ⟨i+1,rfl,by simp only;omega,q1⟩ (by simp only;omega)];simp only [Int.toNat_natCast];rw [show a.zH.toNat+1-i=(a.zH.toNat+1-(i+1))+1 from by omega,Q8a hlt]
    ·rw [if_neg (by omega)];obtain rfl:i=o.length:=by omega
     simp only [Int.toNat_natCast,Qbbw]) fuel (o,0) ⟨0,rfl,Nat.zero_le _,ho⟩ (by simp only;omega)
  simpa using this
 by_cases h0:0<a.zH
 ·rw [if_pos (by omega),Qb1 (by simp only [List.length_cons,List.length_nil];unfold lim;omega)];simp only [Option.bind_some];rw [show ([]++[0]:List Int)=[0] from rfl,hloop [0] ⟨by simp,fun s hs=>by simp at hs;subst hs;omega⟩];simp only [Option.bind_some,Qmg,if_pos h0]
 ·rw [if_neg (by omega)];simp only [Option.bind_some];rw [hloop [] ⟨by simp,fun s hs=>by simp at hs⟩];simp only [Option.bind_some,Qmg,if_neg h0]
theorem Q2l (fuel:Nat) (hfu:1099511627776≤fuel) {F:List Int} (hF:Fnd a F) (hcl:∀ s∈F,∀ t∈Qqv a s,t∈F) {s:Int} {i:Nat} (hi:F[i]? = some s) (ms:List Int) (es:List Qf) (hes:es.length≤200000) :
  Qcd (fun (k24:Int×List Qf→Option (List Int×List Qf)) ((k22,out23):Int×(List Qf))=>(if (k22<(a.zD.length:Int)) then ((((getO F (i:Int)).bind fun x26=>((getO a.zD k22).bind fun x28=>((Qcr a x26 x28).bind fun x31=>(if (x31≥0) then ((getO a.zD k22).bind fun x33=>((Qfg F x31).bind fun x36=>((appO out23 [(Qf.mk (i:Int) x33 x36)]).bind fun x37=>some x37))) else some out23))))).bind fun (out39:List Qf)=>k24 ((IntKind.wrap .i64 (k22+1)),out39)) else some (ms,out23))) fuel (0,es)=some (ms,es++rowP a F i s):=by
 have hs:=h.small.1;have hst:=h.st;have hal:=h.small.2.1;have hb:a.zD.length<1000000000000:=hs.1;have hFl:=hF.len;have hrow:rowP a F i s=(a.zD.filter fun e=>decide (0≤Qkw a s e)).map fun e=>⟨(i:Int),e,(F.idxOf (Qkw a s e):Int)⟩:=by
  rw [← Qwd h,List.map_map];unfold rowP;exact List.map_congr_left fun x hx=>by simp only [Function.comp];rw [Q5e h hx]
 rw [hrow];refine (Qfr (len:=a.zD.length) (fun n (acc:List Qf)=>((n:Int),acc)) (fun n acc=>acc.length≤200000+n) (fun n acc=>some (ms,acc++((a.zD.drop n).filter fun e=>decide (0≤Qkw a s e)).map fun e=>⟨(i:Int),e,(F.idxOf (Qkw a s e):Int)⟩)) ?_ ?_ fuel 0 es (Nat.zero_le _) (by omega) (by omega)).trans (by simp)
 ·intro k n acc hn k1 ih;have hg:getO F (i:Int)=some s:=by rw [Qhw];exact ⟨by omega,by simpa using hi⟩
  dsimp only;rw [if_pos (by omega),hg,Qbp hn];simp only [Option.bind_some];rw [Q2i hs,Q9 (by omega)];simp only [Option.bind_some];rw [List.drop_eq_getElem_cons hn,List.filter_cons];by_cases hr:0≤Qkw a s a.zD[n]
  ·have hm:Qkw a s a.zD[n]∈F:=hcl s (List.mem_of_getElem? hi) _ (by rw [Qyt h];exact List.mem_map.2 ⟨_,List.mem_filter.2 ⟨List.getElem_mem hn,by simpa using hr⟩,rfl⟩);rw [if_pos hr,Q6t (by unfold big;omega),if_pos hm];simp only [Option.bind_some];rw [Qb1 (by simp only [List.length_cons,List.length_nil];unfold lim;omega)];simp only [Option.bind_some];rw [ih _ (by simp only [List.length_append,List.length_cons,List.length_nil];omega)];simp only [hr,decide_true,if_true,List.map_cons,List.append_assoc,List.cons_append,List.nil_append]
  ·rw [if_neg (by omega)];simp only [Option.bind_some];rw [ih _ (by omega)];simp only [hr,decide_false,Bool.false_eq_true,if_false]
 ·intro k acc _;dsimp only;rw [if_neg (by omega)];simp
theorem Qbdj {F:List Int} {i:Nat} {s:Int}:(rowP a F i s).length≤32:=by
 have:=h.small.2.1;have h1:(rowP a F i s).length=((outP a s).map (·.Event)).length:=by simp [rowP]
 rw [h1,Qwd h];exact Nat.le_trans (List.length_filter_le _ _) this
theorem Q00:Qe7 a=some (Qtw a):=by
 have hs:=h.small.1;have hst:=h.st;have hal:=h.small.2.1;have hb:a.zD.length<1000000000000:=hs.1;obtain ⟨hF,_,hcl⟩:=Qug h;have hFl:=hF.len;unfold Qe7 Qb4;obtain ⟨fuel,hfu,hge⟩ : ∃ f,Qbd=f∧1099511627776≤f:=⟨_,rfl,Nat.le_refl _⟩;rw [hfu,Q6u h,Option.bind_some,Q79 (by unfold lim;omega),Option.bind_some];unfold Qtw;generalize Qmg a=F at hF hcl hFl;show Option.bind (Qcd _ fuel (((0:Nat):Int),[],[],[],[],[])) _=_;rw [Qfr (len:=F.length) (R:=List Int×List Int×List Qf×List Int×List Qf) (fun n (acc:List Int×List Qf)=>((n:Int),([]:List Int),([]:List Int),([]:List Qf),acc.1,acc.2)) (fun n acc=>acc.1.length≤n∧acc.2.length≤32*n)
  (fun n acc=>some (([]:List Int),([]:List Int),([]:List Qf),acc.1++Qvg a.zF n (F.drop n),acc.2++Qvh a F n (F.drop n))) ?_ ?_ fuel 0 ([],[]) (Nat.zero_le _) (by omega) ⟨Nat.zero_le _,Nat.zero_le _⟩]
 ·simp
 ·rintro k n ⟨ms,es⟩ hn ⟨k1,k2⟩ ih;replace k1:ms.length≤n:=k1;replace k2:es.length≤32*n:=k2;have hg:=List.getElem?_eq_getElem hn;dsimp only;rw [if_pos (by omega),Qbp hn];simp only [Option.bind_some];rw [Qbeh hs.2.1];simp only [Option.bind_some];have hrl:=Qbdj h (F:=F) (i:=n) (s:=F[n]);rw [List.drop_eq_getElem_cons hn];simp only [Qvg,Qvh];by_cases hm:F[n]∈a.zF
  ·simp only [hm,decide_true,if_true];rw [Qb1 (by simp only [List.length_cons,List.length_nil];unfold lim;omega)];simp only [Option.bind_some];have:=Q2l h fuel hge hF hcl hg (ms++[(n:Int)]) es (by omega);rw [Qbp hn] at this;simp only [Option.bind_some] at this;rw [this];simp only [Option.bind_some];rw [Q9 (by omega),ih (ms++[(n:Int)],es++rowP a F n F[n]) ⟨by simp only [List.length_append,List.length_cons,List.length_nil];omega,by simp only [List.length_append];omega⟩];simp only [List.append_assoc]
  ·simp only [hm,decide_false,Bool.false_eq_true,if_false,Option.bind_some];have:=Q2l h fuel hge hF hcl hg ms es (by omega);rw [Qbp hn] at this;simp only [Option.bind_some] at this;rw [this];simp only [Option.bind_some];rw [Q9 (by omega),ih (ms,es++rowP a F n F[n]) ⟨by simp only;omega,by simp only [List.length_append];omega⟩];simp only [List.append_assoc,List.nil_append]
 ·rintro k ⟨ms,es⟩ _;dsimp only;rw [if_neg (by omega)];simp [Qvg,Qvh]
end
end Go.Abs
end
section
namespace Go.Abs
open Go
theorem Qbfv (x y:Int):Qjs x y=some (decide (x<y)):=by
 unfold Qjs Qfv Qoi Qeg;simp
theorem Qbdk (x:Int):Qic x=some false:=by
 unfold Qic Qda;simp
theorem Qbbx {l:List Int} (h:l.Pairwise (· < ·)) (v:Int):l.Pairwise fun a b=>decide (b<v)=true→decide (a<v)=true :=
 h.imp fun h=>by simp;omega
theorem Qbby {l:List Int} {v:Int} (hs:l.Pairwise (· < ·)) (hl:l.length<big):∃ n,Qe6 l v=some (n,decide (v∈l)):=by
 have hc:=fun n h=>Q2g (p:=fun x:Int=>decide (x<v)) (Qbbx hs v) n h;have hcl:(l.filter fun x=>decide (x<v)).length≤l.length:=List.length_filter_le _ _;generalize (l.filter fun x=>decide (x<v)).length=c at hc hcl;have hb:l.length<1000000000000:=hl;unfold Qe6 Qb3;obtain ⟨fuel,hfu,hge⟩ : ∃ f,Qbd=f∧1099511627776≤f:=⟨_,rfl,Nat.le_refl _⟩;rw [hfu];have hloop:=Qd0 (F:=fun (k5:Int×Int→Option Int) ((i3,j4):Int×Int)=>(if (i3<j4) then ((getO l (IntKind.wrap .i64 (Int.fdiv (IntKind.wrap .u64 (IntKind.wrap .i64 (i3+j4))) (2 ^ (min (Int.toNat 1) (IntKind.bits .u64)))))).bind fun x7=>((Qjs x7 v).bind fun x10=>(if x10 then k5 ((IntKind.wrap .i64 ((IntKind.wrap .i64 (Int.fdiv (IntKind.wrap .u64 (IntKind.wrap .i64 (i3+j4))) (2 ^ (min (Int.toNat 1) (IntKind.bits .u64)))))+1)),j4) else k5 (i3,(IntKind.wrap .i64 (Int.fdiv (IntKind.wrap .u64 (IntKind.wrap .i64 (i3+j4))) (2 ^ (min (Int.toNat 1) (IntKind.bits .u64))))))))) else some i3))
  (fun x=>∃ i j:Nat,x=((i:Int),(j:Int))∧i≤c∧c≤j∧j≤l.length) (fun x=>(x.2-x.1).toNat) (fun _ r=>r=some (c:Int)) (by
   rintro k _ ⟨i,j,rfl,h1,h2,h3⟩ ih;dsimp only;by_cases hij:i<j
   ·rw [if_pos (by omega),Qbg2 (by omega) (by omega)];have hm:(i+j) / 2<l.length:=by omega
    rw [Qbp hm];simp only [Option.bind_some];rw [Qbfv];simp only [Option.bind_some];have hcm:=hc ((i+j) / 2) hm;by_cases hlt:l[(i+j) / 2]<v
    ·rw [if_pos (by simpa using hlt),Q9 (by omega)];have:(i+j) / 2<c:=hcm.1 (by simpa using hlt);exact ih _ ⟨_,_,rfl,by omega,h2,h3⟩ (by simp only;omega)
    ·rw [if_neg (by simpa using hlt)];have:¬ (i+j) / 2<c:=fun h=>hlt (by simpa using hcm.2 h);exact ih _ ⟨_,_,rfl,h1,by omega,by omega⟩ (by simp only;omega)
   ·rw [if_neg (by omega)];have:i=c:=by omega
    rw [this]) fuel (0,(l.length:Int)) ⟨0,l.length,rfl,by omega,hcl,Nat.le_refl _⟩ (by simp only;omega)
 rw [hloop];simp only [Option.bind_some];have hmem:v∈l↔∃ h:c<l.length,l[c]=v:=by
  constructor
  ·intro hv;obtain ⟨j,hj,rfl⟩:=List.getElem_of_mem hv;have h1:¬ j<c:=fun h=>by have:=(hc j hj).2 h;simp at this
   have h2:c<l.length:=by omega
   refine ⟨h2,?_⟩;have h3:¬ l[c]<l[j]:=fun h=>by have:=(hc c h2).1 (by simpa using h);omega
   rcases Nat.lt_or_ge c j with h|h
   ·have:=List.pairwise_iff_getElem.1 hs c j h2 hj h;omega
   ·have:c=j:=by omega
    subst this;rfl
  ·rintro ⟨h,rfl⟩;exact List.getElem_mem h
 by_cases hlt:c<l.length
 ·rw [if_pos (by omega),Qbp hlt];simp only [Option.bind_some];by_cases he:l[c]=v
  ·rw [if_pos (by simpa using he)];exact ⟨_,by rw [decide_eq_true (hmem.2 ⟨hlt,he⟩)]⟩
  ·rw [if_neg (by simpa using he),Qbdk];exact ⟨_,by rw [decide_eq_false (fun h=>he (hmem.1 h).2)];rfl⟩
 ·rw [if_neg (by omega)];exact ⟨_,by rw [decide_eq_false (fun h=>hlt (hmem.1 h).1)]⟩
theorem Q8b {l:List Int} (hl:l.length≤lim):Qgp l=some l:=by
 unfold Qgp Qby;rw [Qb1 (by simpa using hl)];cases l<;>simp [nilO]
structure Num (a:Qa) (o num:List Int):Prop where
 len:num.length=a.zH.toNat
 at1:∀ s:Nat,s<a.zH.toNat→num[s]? = some (if (s:Int)∈o then (o.idxOf (s:Int):Int) else -1)
theorem Num.get {a:Qa} {o num:List Int} (h:Num a o num) {t:Int} (ht:0≤t∧t<a.zH):getO num t=some (if t∈o then (o.idxOf t:Int) else -1):=by
 rw [Qhw];refine ⟨ht.1,?_⟩;have:=h.at1 t.toNat (by omega)
 rwa [show ((t.toNat:Nat):Int)=t from by omega] at this
theorem Num.set {a:Qa} {o num:List Int} (h:Num a o num) {t:Int} (ht:0≤t∧t<a.zH) (hn:t∉o):∃ num',setO num t (o.length:Int)=some num'∧Num a (o++[t]) num':=by
 refine ⟨num.set t.toNat (o.length:Int),by unfold setO;rw [if_pos ⟨ht.1,by rw [h.len];omega⟩],by rw [List.length_set];exact h.len,fun s hs=>?_⟩;rw [List.getElem?_set];by_cases he:t.toNat=s
 ·subst he;rw [if_pos rfl,if_pos (by rw [h.len];omega),show ((t.toNat:Nat):Int)=t from by omega,if_pos (by simp),List.idxOf_append,if_neg hn];simp
 ·rw [if_neg he,h.at1 s hs];have hne:(s:Int)≠t:=by omega
  by_cases hm:(s:Int)∈o
  ·rw [if_pos hm,if_pos (by simp [hm]),List.idxOf_append,if_pos hm]
  ·rw [if_neg hm,if_neg (by simp [hm,hne])]
section
variable {a:Qa} (h:Right a)
include h
end
end Go.Abs
end
section
namespace Go.Abs
open Go
section
variable {a:Qa} (h:Right a)
include h
omit h in
theorem Q01 {w:List Int} {p:Int→Bool} {f:Int→Option Bool} (hf:∀ x,f x=some (p x)) (hw:w.length<big):Qb5 w f=some (w.any p):=by
 have hb:w.length<1000000000000:=hw;unfold Qb5 Qr Qf9 Qca;obtain ⟨fuel,hfu,hge⟩ : ∃ f,Qbd=f∧1099511627776≤f:=⟨_,rfl,Nat.le_refl _⟩;rw [hfu];have:=Qju (F:=fun (k10:Int→Option Int) (x9:Int)=>(if (x9<(w.length:Int)) then ((getO w x9).bind fun x12=>((f x12).bind fun x15=>(if x15 then some x9 else k10 (IntKind.wrap .i64 (x9+1))))) else some (-1))) (len:=w.length) (fuel:=fuel)
  (fun n=>some (if (w.drop n).any p then ((n+(w.drop n).findIdx p:Nat):Int) else -1)) (by omega) (by
   intro k n hn ih;rw [if_pos (by omega),Qbp hn,Q9 (by omega),ih];simp only [Option.bind_some,hf];rw [List.drop_eq_getElem_cons hn];cases hp:p w[n] with
   | true=>simp only [List.any_cons,hp,Bool.true_or,if_true,List.findIdx_cons,cond_true,Nat.add_zero]
   | false =>
    simp only [List.any_cons,hp,Bool.false_or,List.findIdx_cons,cond_false,Bool.false_eq_true,if_false];rw [show n+1+(w.drop (n+1)).findIdx p=n+((w.drop (n+1)).findIdx p+1) from by omega]) (by intro k;simp)
 rw [this];simp only [Option.bind_some,List.drop_zero,Nat.zero_add];cases w.any p<;>simp
end
end Go.Abs
end
section
namespace Go.Abs
open Go
theorem Q5g {P:Int→Prop}:∀ (ts o:List Int),(∀ s∈o,P s)→(∀ t∈ts,P t)→∀ s∈ts.foldl ins o,P s
 | [],o,h,_=>h
 | t::ts,o,h,ht=>Q5g ts (ins o t) (fun s hs=>by
   rcases Q0z.1 hs with hs|rfl
   ·exact h s hs
   ·exact ht _ (by simp)) fun u hu=>ht u (by simp [hu])
theorem Q5h {a:Qa} {P:Int→Prop} (hP:∀ s,P s→∀ t∈Qqv a s,P t):∀ (fuel i:Nat) (o:List Int),(∀ s∈o,P s)→∀ s∈bfs a fuel i o,P s
 | 0,i,o,h=>h
 | fuel+1,i,o,h=>by
  unfold bfs;cases hg:o[i]? with
  | none=>exact h
  | some s=>exact Q5h hP fuel (i+1) _ (Q5g _ _ h (hP s (h s (List.mem_of_getElem? hg))))
structure Like (a b:Qa) (φ:Int→Int):Prop where
 al:b.zD=a.zD
 st:0<b.zH↔0<a.zH
 zero:0<a.zH→φ 0=0
 inj:∀ s∈Qmg a,∀ t∈Qmg a,φ s=φ t→s=t
 out:∀ s∈Qmg a,outP b (φ s)=(outP a s).map fun x=>⟨φ s,x.Event,φ x.To⟩
 ma:∀ s∈Qmg a,(φ s∈b.zF↔s∈a.zF)
section
variable {F:List Int} {φ:Int→Int} (inj:∀ s∈F,∀ t∈F,φ s=φ t→s=t)
include inj
end
section
variable {a b:Qa} {φ:Int→Int} (ha:Right a) (hb:Right b) (h:Like a b φ)
include ha h
include hb
end
section
variable {a b:Qa} {φ:Int→Int} (ha:Right a) (hb:Right b) (h:Like a b φ)
include ha h
end
end Go.Abs
end
section
namespace Go.Abs
open Go
theorem Qem {α β:Type} {o:Option α} {x:α} {K:α→Option β} {r:Option β} (h:o=some x) (h2:K x=r):o.bind K=r:=by rw [h];exact h2
theorem Q2m {X S R α:Type} {F:(X→Option R)→X→Option R} {l:List α} {fuel:Nat} (mk:Nat→S→X) (f:S→α→S) (fin:S→Option R) (I:Nat→S→Prop)
  (step:∀ (k:X→Option R) (n:Nat) (h:n<l.length) (s:S),I n s→I (n+1) (f s l[n])∧F k (mk n s)=k (mk (n+1) (f s l[n]))) (last:∀ (k:X→Option R) (s:S),I l.length s→F k (mk l.length s)=fin s)
  (hf:l.length<fuel) (s0:S) (h0:I 0 s0):Qcd F fuel (mk 0 s0)=fin (l.foldl f s0):=by
 have:=Qfr (F:=F) (len:=l.length) mk I (fun n s=>fin ((l.drop n).foldl f s)) (fun k n s hn hi ih=>by
  obtain ⟨h1,h2⟩:=step k n hn s hi;rw [h2,ih _ h1,List.drop_eq_getElem_cons hn,List.foldl_cons]) (fun k s hi=>by rw [last k s hi];simp) fuel 0 s0 (Nat.zero_le _) (by omega) h0
 simpa using this
theorem Qbfw {l m:List Int} (hl:l.Pairwise (· < ·)) (hm:m.Pairwise (· < ·)) (h:∀ x,x∈l↔x∈m):l=m:=by
 refine List.Perm.eq_of_pairwise (le:=(· < ·)) (fun a b _ _ h1 h2=>by omega) hl hm ?_;rw [List.perm_ext_iff_of_nodup (hl.imp fun h=>by omega) (hm.imp fun h=>by omega)];exact h
theorem swoI:Go.Sort.SWO Qfw:=⟨fun x=>by simp [Qfw],fun x y z h1 h2=>by simp [Qfw] at *;omega,fun x y z h1 h2=>by simp [Qfw] at *;omega⟩
theorem Q5i {l:List Int} (h:l.Nodup):(Qm0 Qfw l).Pairwise (· < ·)∧∀ x,x∈Qm0 Qfw l↔x∈l:=by
 have hp:=Qoh Qfw l;refine ⟨?_,fun x=>hp.mem_iff⟩;have hs:=Qnf swoI l;have hn:=(hp.nodup_iff).2 h;exact (hs.and hn).imp fun ⟨h1,h2⟩=>by simp [Qfw] at h1;omega
inductive Rch (a:Qa) (ev fr:List Int):Int→Prop where
 | base {s:Int}:s∈fr→Rch a ev fr s
 | step {x:Qf}:Rch a ev fr x.From→x∈a.zG→x.Event∈ev→Rch a ev fr x.To
def upto (n:Int):List Int:=(List.range n.toNat).map fun (i:Nat)=>(i:Int)
theorem Q8c {n x:Int}:x∈upto n↔0≤x∧x<n:=by
 simp only [upto,List.mem_map,List.mem_range];constructor
 ·rintro ⟨i,hi,rfl⟩;omega
 ·rintro ⟨h1,h2⟩;exact ⟨x.toNat,by omega,by omega⟩
theorem Q5j (n:Int):(upto n).Pairwise (· < ·):=by
 unfold upto;rw [List.pairwise_map];exact List.pairwise_lt_range.imp fun h=>by omega
theorem Qzc (n:Int):(upto n).length=n.toNat:=by simp [upto]
theorem Qbdl {n:Int} {i:Nat} (h:i<n.toNat):(upto n)[i]'(by rw [Qzc];exact h)=(i:Int):=by simp [upto]
open Classical in
noncomputable def Qr2 (a:Qa) (fr ev:List Int):List Int:=(upto a.zH).filter fun s=>decide (Rch a ev fr s)
theorem Q02 (a:Qa) (fr ev:List Int):(Qr2 a fr ev).Pairwise (· < ·):=(Q5j _).filter _
theorem Qyc {a:Qa} {fr ev:List Int} {s:Int}:s∈Qr2 a fr ev↔(0≤s∧s<a.zH)∧Rch a ev fr s:=by
 classical
 simp only [Qr2,List.mem_filter,Q8c,decide_eq_true_eq]
theorem Rch.range {a:Qa} (h:Right a) {ev fr:List Int} (hf:∀ s∈fr,0≤s∧s<a.zH) {s:Int} (hr:Rch a ev fr s):0≤s∧s<a.zH:=by
 induction hr with
 | base hs=>exact hf _ hs
 | step _ hx _ _=>have:=h.ed0 _ hx;exact ⟨this.2.2.1,this.2.2.2.1⟩
theorem Qbbz {a:Qa} (h:Right a) {fr ev:List Int} (hf:∀ s∈fr,0≤s∧s<a.zH) {s:Int}:s∈Qr2 a fr ev↔Rch a ev fr s:=by
 rw [Qyc];exact ⟨fun h=>h.2,fun hr=>⟨hr.range h hf,hr⟩⟩
theorem Rch.mono {a:Qa} {ev fr fr' : List Int} (hf:∀ s∈fr,Rch a ev fr' s) {s:Int} (hr:Rch a ev fr s):Rch a ev fr' s:=by
 induction hr with
 | base hs=>exact hf _ hs
 | step _ hx he ih=>exact .step ih hx he
theorem Qbb0 {a:Qa} (h:Right a) {fr ev l:List Int} (hf:∀ s∈fr,0≤s∧s<a.zH) (hl:l.Pairwise (· < ·)) (h1:∀ s∈l,Rch a ev fr s) (h2:∀ s∈fr,s∈l)
  (h3:∀ x∈a.zG,x.From∈l→x.Event∈ev→x.To∈l):l=Qr2 a fr ev:=by
 refine Qbfw hl (Q02 _ _ _) fun x=>?_;rw [Qbbz h hf];refine ⟨h1 x,fun hr=>?_⟩
 induction hr with
 | base hs=>exact h2 _ hs
 | step _ hx he ih=>exact h3 _ hx ih he
def Qng (a:Qa) (ev:List Int):Qa:={ a with zG:=a.zG.filter fun x=>decide (x.Event∈ev) }
theorem Q03 {a:Qa} (h:Right a) (ev:List Int):Right (Qng a ev) :=
 ⟨h.al0,h.al,h.st,h.ma0,h.ma,fun x hx=>h.ed0 x (List.mem_filter.1 hx).1,h.ed.filter _⟩
theorem Q9e (a:Qa) (ev:List Int) (s:Int):Qqv (Qng a ev) s=((outP a s).filter fun x=>decide (x.Event∈ev)).map (·.To):=by
 simp only [Qqv,outP,Qng,List.filter_filter];congr 1;exact List.filter_congr fun x _=>Bool.and_comm _ _
theorem Q8d {a:Qa} {s t:Int}:t∈Qqv a s↔∃ x∈a.zG,x.From=s∧x.To=t:=by
 simp only [Qqv,outP,List.mem_map,List.mem_filter,beq_iff_eq];constructor
 ·rintro ⟨x,⟨h1,h2⟩,h3⟩;exact ⟨x,h1,h2,h3⟩
 ·rintro ⟨x,h1,h2,h3⟩;exact ⟨x,⟨h1,h2⟩,h3⟩
theorem Q5k {a:Qa} (h:Right a) {ev fr o:List Int} (hf:∀ s∈fr,0≤s∧s<a.zH) (ho:∀ s,s∈o↔s∈fr) (hn:o.Nodup) :
  Fnd (Qng a ev) (bfs (Qng a ev) (a.zH.toNat+1) 0 o)∧Qm0 Qfw (bfs (Qng a ev) (a.zH.toNat+1) 0 o)=Qr2 a fr ev:=by
 have hr:=Q03 h ev;have hfo:Fnd (Qng a ev) o:=⟨hn,fun s hs=>hf s ((ho s).1 hs)⟩;obtain ⟨q1,q2,q3⟩:=Q3m hr (a.zH.toNat+1) 0 o hfo (Nat.zero_le _) (by show a.zH.toNat+1≤_;omega) (fun j s hj=>by omega);obtain ⟨r1,r2⟩:=Q5i q1.nd;refine ⟨q1,Qbb0 h hf r1 (fun s hs=>?_) (fun s hs=>?_) (fun x hx hfx hex=>?_)⟩
 ·have hs:=(r2 s).1 hs;refine Q5h (a:=Qng a ev) (P:=Rch a ev fr) (fun s hs t ht=>?_) _ 0 o (fun s hs=>.base ((ho s).1 hs)) s hs;obtain ⟨x,hx,rfl,rfl⟩:=Q8d.1 ht;obtain ⟨hx,he⟩:=List.mem_filter.1 hx;exact .step hs hx (by simpa using he)
 ·exact (r2 s).2 (q2.subset ((ho s).2 hs))
 ·exact (r2 _).2 (q3 _ ((r2 _).1 hfx) _ (Q8d.2 ⟨x,List.mem_filter.2 ⟨hx,by simpa using hex⟩,rfl,rfl⟩))
theorem Qxf:∀ (ts o:List Int) (x:Int),x∈ts.foldl ins o↔x∈o∨x∈ts
 | [],o,x=>by simp
 | t::ts,o,x=>by
  simp only [List.foldl_cons,Qxf ts,Q0z,List.mem_cons];constructor
  ·rintro ((h|h)|h)
   ·exact .inl h
   ·exact .inr (.inl h)
   ·exact .inr (.inr h)
  ·rintro (h|h|h)
   ·exact .inl (.inl h)
   ·exact .inl (.inr h)
   ·exact .inr h
end Go.Abs
end
section
namespace Go.Abs
open Go
def Qty (a:Qa) (onto:List Int):List Int:=a.zD.filter fun x=>decide (x∈onto)
def Qli (a:Qa) (onto:List Int):List Int:=a.zD.filter fun x=>!decide (x∈onto)
def Qy1 (a:Qa):List (List Qf):=(upto a.zH).map (outP a)
def obsP (a:Qa) (onto:List Int):Qm:=⟨Qy1 a,Qty a onto,Qli a onto,a.zF⟩
theorem Qtz (a:Qa):(Qy1 a).length=a.zH.toNat:=by simp [Qy1,Qzc]
theorem Q04 (a:Qa) {s:Nat} (h:s<a.zH.toNat):(Qy1 a)[s]? = some (outP a (s:Int)):=by
 simp only [Qy1,upto,List.getElem?_map,List.getElem?_range h,Option.map_some]
theorem Q3n {a:Qa} {s:Int} (h:0≤s∧s<a.zH):getO (Qy1 a) s=some (outP a s):=by
 rw [Qhw];refine ⟨h.1,?_⟩;rw [Q04 a (by omega)];congr 2;omega
theorem Qyd (onto:List Int):∀ (l k e:List Int),l.foldl (fun (s:List Int×List Int) x=>if x∈onto then (s.1++[x],s.2) else (s.1,s.2++[x])) (k,e)=(k++l.filter (fun x=>decide (x∈onto)),e++l.filter fun x=>!decide (x∈onto))
 | [],k,e=>by simp
 | x::l,k,e=>by
  rw [List.foldl_cons];by_cases hx:x∈onto
  ·rw [if_pos hx,Qyd onto l];simp [hx]
  ·rw [if_neg hx,Qyd onto l];simp [hx]
theorem Q9f {a:Qa} (h:Right a) {onto:List Int} (ho:onto.length<big):Qeq a onto=some (obsP a onto):=by
 have hs:=h.small;have hst:=h.st;unfold Qeq Q1;refine Qem (x:=List.replicate a.zH.toNat []) (by unfold mkO;rw [if_pos ⟨hst.1,by unfold lim;omega⟩]) ?_;refine Qem (x:=Qy1 a) ?_ ?_
 ·refine (Qfr (len:=a.zG.length) (fun n (c:List (List Qf))=>((n:Int),c)) (fun n c=>c.length=a.zH.toNat∧∀ s:Nat,s<a.zH.toNat→c[s]? = some ((a.zG.take n).filter fun x=>x.From==(s:Int))) (fun n c=>some (Qy1 a)) ?_ ?_ Qbd 0 _ (Nat.zero_le _) (by unfold Qbd;omega) ⟨by simp,fun s hs=>by simp [hs]⟩)
  ·intro k n c hn ⟨i1,i2⟩ ih;have he:=h.ed0 _ (List.getElem_mem hn);dsimp only;rw [if_pos (by omega),Qbp hn];simp only [Option.bind_some];have hin:inO (Int.toNat a.zH) a.zG[n].From=some ():=by unfold inO;rw [if_pos ⟨he.1,by omega⟩]
   have hto:((a.zG[n].From.toNat:Nat):Int)=a.zG[n].From:=by omega
   have hg:getO c a.zG[n].From=some ((a.zG.take n).filter fun x=>x.From==a.zG[n].From):=by
    rw [Qhw];refine ⟨he.1,?_⟩;rw [i2 _ (by omega),hto]
   have hfl:((a.zG.take n).filter fun x=>x.From==a.zG[n].From).length≤a.zG.length:=Nat.le_trans (List.length_filter_le _ _) (by rw [List.length_take];omega);rw [hin,hg];simp only [Option.bind_some];rw [Qb1 (by simp only [List.length_cons,List.length_nil];unfold lim;omega)];simp only [Option.bind_some];unfold setO;rw [if_pos ⟨he.1,by omega⟩,Q9 (by omega)];simp only [Option.bind_some];refine ih _ ⟨by simp [i1],fun s hs=>?_⟩;rw [List.getElem?_set,List.take_succ_eq_append_getElem hn,List.filter_append];split
   ·rename_i hss;subst hss;rw [if_pos (by omega),hto];simp
   ·rename_i hss;have:¬ a.zG[n].From=(s:Int):=by omega
    rw [i2 s hs];simp [this]
  ·intro k c ⟨i1,i2⟩;dsimp only;rw [if_neg (by omega)];congr 1;refine List.ext_getElem? fun s=>?_;by_cases hs:s<a.zH.toNat
   ·rw [i2 s hs,Q04 a hs,List.take_length];rfl
   ·rw [List.getElem?_eq_none (by omega),List.getElem?_eq_none (by rw [Qtz];omega)]
 ·refine Qem (x:=([],[],[],[],Qty a onto,Qli a onto)) ?_ ?_
  ·refine (Q2m (l:=a.zD) (fun n (s:List Int×List Int)=>((n:Int),[],[],[],[],s.1,s.2)) (fun (s:List Int×List Int) x=>if x∈onto then (s.1++[x],s.2) else (s.1,s.2++[x])) (fun s=>some ([],[],[],[],s.1,s.2)) (fun n s=>s.1.length≤n∧s.2.length≤n) ?_ ?_ (by unfold Qbd;omega) ([],[]) ⟨by simp,by simp⟩).trans ?_
   ·intro k n hn s ⟨i1,i2⟩;by_cases hx:a.zD[n]∈onto
    ·rw [if_pos hx];refine ⟨⟨by simp;omega,by simp;omega⟩,?_⟩;dsimp only;rw [if_pos (by omega),Qbp hn];simp only [Option.bind_some];rw [Qoo ho];simp only [Option.bind_some,hx,decide_true,if_true];rw [Qb1 (by simp only [List.length_cons,List.length_nil];unfold lim;omega),Q9 (by omega)]
     rfl
    ·rw [if_neg hx];refine ⟨⟨by simp;omega,by simp;omega⟩,?_⟩;dsimp only;rw [if_pos (by omega),Qbp hn];simp only [Option.bind_some];rw [Qoo ho];simp only [Option.bind_some,hx,decide_false,Bool.false_eq_true,if_false];rw [Qb1 (by simp only [List.length_cons,List.length_nil];unfold lim;omega),Q9 (by omega)]
     rfl
   ·intro k s _;dsimp only;rw [if_neg (by omega)]
   ·rw [Qyd];rfl
  ·dsimp only;unfold lenO;rw [if_pos (by rw [Qtz])]
   rfl
structure Seen (n:Nat) (l:List Int) (c:List Bool):Prop where
 len:c.length=n
 at1:∀ s:Nat,s<n→c[s]? = some (decide ((s:Int)∈l))
theorem Seen.start (n:Nat):Seen n [] (List.replicate n false):=⟨by simp,fun s hs=>by simp [hs]⟩
theorem Qbei {n:Nat} {l:List Int} {c:List Bool} (h:Seen n l c) {x:Int} (hx:0≤x∧x<n) (hl:l.length<big):∃ c',Qba x c l=some (c',ins l x)∧Seen n (ins l x) c':=by
 have hg:getO c x=some (decide (x∈l)):=by
  rw [Qhw];refine ⟨hx.1,?_⟩;rw [h.at1 _ (by omega)];congr 2;rw [show ((x.toNat:Nat):Int)=x from by omega]
 unfold Qba Qbh;have hin:inO c.length x=some ():=by unfold inO;rw [if_pos ⟨hx.1,by rw [h.len];omega⟩]
 rw [hin,hg];simp only [Option.bind_some];by_cases hm:x∈l
 ·rw [if_pos (by simp [hm])];exact ⟨c,by simp [ins,hm],by simpa [ins,hm] using h⟩
 ·rw [if_neg (by simp [hm])];unfold setO;rw [if_pos ⟨hx.1,by rw [h.len];omega⟩];simp only [Option.bind_some];rw [Qb1 (by simp only [List.length_cons,List.length_nil];unfold big at hl;unfold lim;omega)];refine ⟨c.set x.toNat true,by simp [ins,hm],?_⟩;simp only [ins,hm,if_false];refine ⟨by simp [h.len],fun s hs=>?_⟩;rw [List.getElem?_set];split
  ·rename_i e;subst e;rw [if_pos (by rw [h.len];exact hs)];simp;omega
  ·rename_i e;rw [h.at1 s hs];have:¬ (s:Int)=x:=by omega
   simp [this]
theorem Q8e {a:Qa} (h:Right a) {onto fr ev:List Int} (hf:∀ s∈fr,0≤s∧s<a.zH) (hfl:fr.length<big) (hev:ev.length<big) :
  Qdh (obsP a onto) fr ev=some (Qr2 a fr ev):=by
 have hst:=h.st;have hsm:=h.small;have hr:=Q03 h ev;have hlen:((obsP a onto).out_.length:Int)=a.zH:=by show ((Qy1 a).length:Int)=_;rw [Qtz];omega
 unfold Qdh Qz;rw [hlen];refine Qem (x:=List.replicate a.zH.toNat false) (by unfold mkO;rw [if_pos ⟨hst.1,by unfold lim;omega⟩]) ?_;have hF0:Fnd (Qng a ev) (fr.foldl ins []):=(Qtv (a:=Qng a ev) ⟨by simp,by simp⟩ hf).1;have hlo:∀ {o:List Int},Fnd (Qng a ev) o→o.length≤a.zH.toNat:=fun h=>h.len;obtain ⟨c1,hc1,h1⟩ : ∃ c1,Seen a.zH.toNat (fr.foldl ins []) c1∧Qcd (fun (k9:Int×List Int×List Bool→Option (List Int×List Bool)) ((x6,l7,c8):Int×(List Int)×(List Bool))=>(if (x6<(fr.length:Int)) then ((getO fr x6).bind fun x11=>((lenO c8 (Int.toNat a.zH)).bind fun _=>((Qba x11 c8 l7).bind fun (c14,c15)=>k9 ((IntKind.wrap .i64 (x6+1)),c15,c14)))) else some (l7,c8))) Qbd (0,[],List.replicate a.zH.toNat false)=some (fr.foldl ins [],c1):=by
  have:=Qd0 (F:=fun (k9:Int×List Int×List Bool→Option (List Int×List Bool)) ((x6,l7,c8):Int×(List Int)×(List Bool))=>(if (x6<(fr.length:Int)) then ((getO fr x6).bind fun x11=>((lenO c8 (Int.toNat a.zH)).bind fun _=>((Qba x11 c8 l7).bind fun (c14,c15)=>k9 ((IntKind.wrap .i64 (x6+1)),c15,c14)))) else some (l7,c8)))
   (fun x=>∃ n:Nat,x.1=(n:Int)∧n≤fr.length∧Fnd (Qng a ev) x.2.1∧Seen a.zH.toNat x.2.1 x.2.2∧(fr.drop n).foldl ins x.2.1=fr.foldl ins []) (fun x=>fr.length-x.1.toNat)
   (fun x r=>∃ c1,Seen a.zH.toNat (fr.foldl ins []) c1∧r=some (fr.foldl ins [],c1)) (by
    rintro k ⟨_,l,c⟩ ⟨n,rfl,hn,hF,hS,he⟩ ih;replace hF:Fnd (Qng a ev) l:=hF;replace hS:Seen a.zH.toNat l c:=hS;have hll:=hlo hF;dsimp only at he ⊢;by_cases hlt:n<fr.length
    ·rw [if_pos (by omega),Qbp hlt];simp only [Option.bind_some];have hx:=hf _ (List.getElem_mem hlt);obtain ⟨c',hadd,hS'⟩:=Qbei hS (x:=fr[n]) ⟨hx.1,by omega⟩ (by unfold big;omega);unfold lenO;rw [if_pos hS.len];simp only [Option.bind_some];rw [hadd];simp only [Option.bind_some];rw [Q9 (by unfold big at hfl;omega)];rw [List.drop_eq_getElem_cons hlt,List.foldl_cons] at he;exact ih _ ⟨n+1,rfl,by omega,hF.ins hx,hS',he⟩ (by simp only;omega)
    ·rw [if_neg (by omega)];have:fr.drop n=[]:=List.drop_eq_nil_of_le (by omega);rw [this] at he;exact ⟨c,by rw [← he];exact hS,by rw [← he];rfl⟩) Qbd (0,[],List.replicate a.zH.toNat false) ⟨0,rfl,by omega,⟨by simp,by simp⟩,Seen.start _,rfl⟩ (by simp only [Int.toNat_zero];unfold Qbd;unfold big at hfl;omega)
  exact this
 refine Qem h1 ?_;dsimp only;obtain ⟨c2,h2⟩ : ∃ c2,Qcd (fun (k22:Int×List Int×List Bool→Option (List Int×List Bool)) ((i19,l20,c21):Int×(List Int)×(List Bool))=>(if (i19<(l20.length:Int)) then ((((getO l20 i19).bind fun x24=>((getO (obsP a onto).out_ x24).bind fun x26=>Qcd (fun (k31:Int×List Int×List Bool→Option (List Int×List Bool)) ((x28,l29,c30):Int×(List Int)×(List Bool))=>(if (x28<(x26.length:Int)) then ((((getO x26 x28).bind fun x33=>((Qbk ev x33.Event).bind fun x36=>(if x36 then ((lenO c30 (Int.toNat a.zH)).bind fun _=>((Qba x33.To c30 l29).bind fun (c39,c40)=>some (c40,c39,x33.From,x33.Event,x33.To))) else some (l29,c30,x33.From,x33.Event,x33.To))))).bind fun ((l42,c43,c44,c45,c46):(List Int)×(List Bool)×Int×Int×Int)=>k31 ((IntKind.wrap .i64 (x28+1)),l42,c43)) else some (l29,c30))) Qbd (0,l20,c21)))).bind fun ((l47,c48):(List Int)×(List Bool))=>k22 ((IntKind.wrap .i64 (i19+1)),l47,c48)) else some (l20,c21))) Qbd (0,fr.foldl ins [],c1)=some (bfs (Qng a ev) (a.zH.toNat+1) 0 (fr.foldl ins []),c2):=by
  have:=Qd0 (F:=fun (k22:Int×List Int×List Bool→Option (List Int×List Bool)) ((i19,l20,c21):Int×(List Int)×(List Bool))=>(if (i19<(l20.length:Int)) then ((((getO l20 i19).bind fun x24=>((getO (obsP a onto).out_ x24).bind fun x26=>Qcd (fun (k31:Int×List Int×List Bool→Option (List Int×List Bool)) ((x28,l29,c30):Int×(List Int)×(List Bool))=>(if (x28<(x26.length:Int)) then ((((getO x26 x28).bind fun x33=>((Qbk ev x33.Event).bind fun x36=>(if x36 then ((lenO c30 (Int.toNat a.zH)).bind fun _=>((Qba x33.To c30 l29).bind fun (c39,c40)=>some (c40,c39,x33.From,x33.Event,x33.To))) else some (l29,c30,x33.From,x33.Event,x33.To))))).bind fun ((l42,c43,c44,c45,c46):(List Int)×(List Bool)×Int×Int×Int)=>k31 ((IntKind.wrap .i64 (x28+1)),l42,c43)) else some (l29,c30))) Qbd (0,l20,c21)))).bind fun ((l47,c48):(List Int)×(List Bool))=>k22 ((IntKind.wrap .i64 (i19+1)),l47,c48)) else some (l20,c21)))
   (fun x=>∃ i:Nat,x.1=(i:Int)∧i≤x.2.1.length∧Fnd (Qng a ev) x.2.1∧Seen a.zH.toNat x.2.1 x.2.2) (fun x=>a.zH.toNat+1-x.1.toNat)
   (fun x r=>∃ c2,r=some (bfs (Qng a ev) (a.zH.toNat+1-x.1.toNat) x.1.toNat x.2.1,c2)) (by
    rintro k ⟨_,l,c⟩ ⟨i,rfl,hi,hF,hS⟩ ih;replace hi:i≤l.length:=hi;replace hF:Fnd (Qng a ev) l:=hF;replace hS:Seen a.zH.toNat l c:=hS;have hll:=hlo hF;dsimp only;by_cases hlt:i<l.length
    ·rw [if_pos (by omega),Qbp hlt];have hx:=hF.rg _ (List.getElem_mem hlt);have hx:0≤l[i]∧l[i]<a.zH:=hx;simp only [Option.bind_some];rw [show getO (obsP a onto).out_ l[i]=_ from Q3n hx];simp only [Option.bind_some];have hlo2:(outP a l[i]).length≤a.zG.length:=List.length_filter_le _ _;obtain ⟨c',hF',hS',hin⟩ : ∃ c',Fnd (Qng a ev) ((Qqv (Qng a ev) l[i]).foldl ins l)∧Seen a.zH.toNat ((Qqv (Qng a ev) l[i]).foldl ins l) c'∧Qcd (fun (k31:Int×List Int×List Bool→Option (List Int×List Bool)) ((x28,l29,c30):Int×(List Int)×(List Bool))=>(if (x28<((outP a l[i]).length:Int)) then ((((getO (outP a l[i]) x28).bind fun x33=>((Qbk ev x33.Event).bind fun x36=>(if x36 then ((lenO c30 (Int.toNat a.zH)).bind fun _=>((Qba x33.To c30 l29).bind fun (c39,c40)=>some (c40,c39,x33.From,x33.Event,x33.To))) else some (l29,c30,x33.From,x33.Event,x33.To))))).bind fun ((l42,c43,c44,c45,c46):(List Int)×(List Bool)×Int×Int×Int)=>k31 ((IntKind.wrap .i64 (x28+1)),l42,c43)) else some (l29,c30))) Qbd (0,l,c)=some ((Qqv (Qng a ev) l[i]).foldl ins l,c'):=by
      rw [Q9e];have:=Qd0 (F:=fun (k31:Int×List Int×List Bool→Option (List Int×List Bool)) ((x28,l29,c30):Int×(List Int)×(List Bool))=>(if (x28<((outP a l[i]).length:Int)) then ((((getO (outP a l[i]) x28).bind fun x33=>((Qbk ev x33.Event).bind fun x36=>(if x36 then ((lenO c30 (Int.toNat a.zH)).bind fun _=>((Qba x33.To c30 l29).bind fun (c39,c40)=>some (c40,c39,x33.From,x33.Event,x33.To))) else some (l29,c30,x33.From,x33.Event,x33.To))))).bind fun ((l42,c43,c44,c45,c46):(List Int)×(List Bool)×Int×Int×Int)=>k31 ((IntKind.wrap .i64 (x28+1)),l42,c43)) else some (l29,c30)))
       (fun x=>∃ n:Nat,x.1=(n:Int)∧n≤(outP a l[i]).length∧Fnd (Qng a ev) x.2.1∧Seen a.zH.toNat x.2.1 x.2.2∧((((outP a l[i]).drop n).filter fun x=>decide (x.Event∈ev)).map (·.To)).foldl ins x.2.1=(((outP a l[i]).filter fun x=>decide (x.Event∈ev)).map (·.To)).foldl ins l) (fun x=>(outP a l[i]).length-x.1.toNat)
       (fun x r=>∃ c1,Fnd (Qng a ev) ((((outP a l[i]).filter fun x=>decide (x.Event∈ev)).map (·.To)).foldl ins l)∧Seen a.zH.toNat ((((outP a l[i]).filter fun x=>decide (x.Event∈ev)).map (·.To)).foldl ins l) c1∧r=some ((((outP a l[i]).filter fun x=>decide (x.Event∈ev)).map (·.To)).foldl ins l,c1)) (by
        rintro k ⟨_,l2,c2⟩ ⟨n,rfl,hn,hF,hS,he⟩ ih;replace hF:Fnd (Qng a ev) l2:=hF;replace hS:Seen a.zH.toNat l2 c2:=hS;have hll:=hlo hF;dsimp only at he ⊢;by_cases hlt2:n<(outP a l[i]).length
        ·rw [if_pos (by omega),Qbp hlt2];simp only [Option.bind_some];rw [Qoo hev];rw [List.drop_eq_getElem_cons hlt2,List.filter_cons] at he;have hed:(outP a l[i])[n]∈a.zG:=(List.mem_filter.1 (List.getElem_mem hlt2)).1;have hto:=(h.ed0 _ hed).2.2;by_cases hx:(outP a l[i])[n].Event∈ev
         ·simp only [Option.bind_some,hx,decide_true,if_true] at he ⊢;obtain ⟨c',hadd,hS'⟩:=Qbei hS (x:=(outP a l[i])[n].To) ⟨hto.1,by omega⟩ (by unfold big;omega);unfold lenO;rw [if_pos hS.len];simp only [Option.bind_some];rw [hadd];simp only [Option.bind_some];rw [Q9 (by omega)];exact ih _ ⟨n+1,rfl,by omega,hF.ins ⟨hto.1,hto.2.1⟩,hS',he⟩ (by simp only;omega)
         ·simp only [Option.bind_some,hx,decide_false,Bool.false_eq_true,if_false] at he ⊢;rw [Q9 (by omega)];exact ih _ ⟨n+1,rfl,by omega,hF,hS,he⟩ (by simp only;omega)
        ·rw [if_neg (by omega)];have:(outP a l[i]).drop n=[]:=List.drop_eq_nil_of_le (by omega);rw [this] at he;simp only [List.filter_nil,List.map_nil,List.foldl_nil] at he;exact ⟨c2,by rw [← he];exact hF,by rw [← he];exact hS,by rw [← he]⟩) Qbd (0,l,c) ⟨0,rfl,Nat.zero_le _,hF,hS,rfl⟩ (by simp only [Int.toNat_zero];unfold Qbd;omega)
      exact this
     rw [hin];simp only [Option.bind_some];rw [Q9 (by omega)];have hpre:=(Qtv hF (Qwe hr l[i])).2.1;obtain ⟨c3,hc3⟩:=ih ((i+1:Nat),_,c') ⟨i+1,rfl,by have:=hpre.length_le;simp only;omega,hF',hS'⟩ (by simp only;omega);refine ⟨c3,hc3.trans ?_⟩;simp only [Int.toNat_natCast];rw [show a.zH.toNat+1-i=(a.zH.toNat+1-(i+1))+1 from by omega,Q8a hlt]
    ·rw [if_neg (by omega)];obtain rfl:i=l.length:=by omega
     exact ⟨c,by simp only [Int.toNat_natCast,Qbbw]⟩) Qbd (0,fr.foldl ins [],c1) ⟨0,rfl,Nat.zero_le _,hF0,hc1⟩ (by simp only [Int.toNat_zero];unfold Qbd;omega)
  simpa using this
 refine Qem h2 ?_;dsimp only;obtain ⟨q1,q2⟩:=Q5k h (ev:=ev) hf (o:=fr.foldl ins []) (fun s=>by rw [Qxf];simp) hF0.nd;have hql:=hlo q1;unfold Qbfm;rw [if_pos (by unfold lim;omega),q2]
 rfl
end Go.Abs
end
section
namespace Go.Abs
open Go
structure Evs (l:List Int):Prop where
 rg:∀ x∈l,0≤x∧x<5
 so:l.Pairwise (· < ·)
theorem Evs.len {l:List Int} (h:Evs l):l.length≤5:=by have:=Qf2 h.so h.rg;simpa using this
def Qbdm:List Int→Bool
 | []=>true
 | x::xs=>xs.all (fun y=>decide (x<y))&&Qbdm xs
theorem Q5l:∀ {l:List Int},Qbdm l=true→l.Pairwise (· < ·)
 | [],_=>.nil
 | x::xs,h=>by
  simp only [Qbdm,Bool.and_eq_true,List.all_eq_true,decide_eq_true_eq] at h;exact List.pairwise_cons.2 ⟨h.1,Q5l h.2⟩
def evB (s:Nat):Bool:=match Qex (s:Int) with
 | some l=>Qbdm l&&l.all fun x=>decide (0≤x)&&decide (x<5)
 | none=>false
theorem Qbfx:(List.range 256).all evB=true:=by kernel_rfl
theorem Qbb1 {s:Int} (h0:0≤s) (h1:s<256):∃ l,Qex s=some l∧Evs l:=by
 have:=List.all_eq_true.1 Qbfx s.toNat (List.mem_range.2 (by omega));unfold evB at this;rw [show ((s.toNat:Nat):Int)=s from by omega] at this;split at this
 ·rename_i l hl;simp only [Bool.and_eq_true,List.all_eq_true,decide_eq_true_eq] at this;exact ⟨l,hl,fun x hx=>this.2 x hx,Q5l this.1⟩
 ·cases this
structure Mks (n:Nat) (ms:List Int):Prop where
 rg:∀ x∈ms,0≤x∧x<n
 so:ms.Pairwise (· < ·)
structure Eds (al:List Int) (N:Int) (i k:Nat) (es:List Qf):Prop where
 rg:∀ x∈es,0≤x.From∧0≤x.To∧x.To<N∧x.Event∈al∧(x.From<i∨x.From=i∧∃ j:Nat,j<k∧al[j]? = some x.Event)
 so:es.Pairwise Qmf
 ln:es.length≤5*i+k
theorem Mks.up {n:Nat} {ms:List Int} (h:Mks n ms):Mks (n+1) ms:=⟨fun x hx=>by have:=h.rg x hx;omega,h.so⟩
theorem Mks.add {n:Nat} {ms:List Int} (h:Mks n ms):Mks (n+1) (ms++[(n:Int)]):=by
 refine ⟨fun x hx=>?_,?_⟩
 ·rcases List.mem_append.1 hx with hx|hx
  ·have:=h.rg x hx;omega
  ·simp at hx;omega
 ·rw [List.pairwise_append];exact ⟨h.so,by simp,fun x hx y hy=>by simp at hy;have:=h.rg x hx;omega⟩
theorem Mks.len {n:Nat} {ms:List Int} (h:Mks n ms):ms.length≤n:=by have:=Qf2 h.so h.rg;simpa using this
section
variable {al:List Int} (hal:Evs al) {N:Int} {i k:Nat} {es:List Qf}
theorem Eds.up (h:Eds al N i k es):Eds al N i (k+1) es:=⟨fun x hx=>by
 obtain ⟨h1,h2,h3,h4,h5⟩:=h.rg x hx;refine ⟨h1,h2,h3,h4,?_⟩;rcases h5 with h5|⟨h5,j,h6,h7⟩
 ·exact .inl h5
 ·exact .inr ⟨h5,j,by omega,h7⟩,h.so,by have:=h.ln;omega⟩
theorem Eds.next (h:Eds al N i k es) (hk:k≤5):Eds al N (i+1) 0 es:=⟨fun x hx=>by
 obtain ⟨h1,h2,h3,h4,h5⟩:=h.rg x hx;exact ⟨h1,h2,h3,h4,.inl (by rcases h5 with h5|⟨h5,_⟩<;>omega)⟩,h.so,by have:=h.ln;omega⟩
include hal in
theorem Eds.add (h:Eds al N i k es) (hk:k<al.length) {t:Int} (ht:0≤t∧t<N):Eds al N i (k+1) (es++[⟨(i:Int),al[k],t⟩]):=by
 refine ⟨fun x hx=>?_,?_,by have:=h.ln;simp only [List.length_append,List.length_cons,List.length_nil];omega⟩
 ·rcases List.mem_append.1 hx with hx|hx
  ·exact h.up.rg x hx
  ·simp at hx;subst hx;exact ⟨by simp only;omega,ht.1,ht.2,List.getElem_mem hk,.inr ⟨rfl,k,by omega,List.getElem?_eq_getElem hk⟩⟩
 ·rw [List.pairwise_append];refine ⟨h.so,by simp,fun x hx y hy=>?_⟩;simp at hy;subst hy;obtain ⟨_,_,_,_,h5⟩:=h.rg x hx;rcases h5 with h5|⟨h5,j,h6,h7⟩
  ·exact .inl h5
  ·refine .inr ⟨h5,?_⟩;obtain ⟨h8,h9⟩:=List.getElem?_eq_some_iff.1 h7;rw [← h9];exact List.pairwise_iff_getElem.1 hal.so j k h8 hk h6
end
structure Qbej (g:Qcl):Prop where
 st:0≤g.zH∧g.zH<256
 tos:∀ x∈[g.To.1.1,g.To.1.2.1,g.To.1.2.2.1,g.To.1.2.2.2.1,g.To.1.2.2.2.2,g.To.2.1.1,g.To.2.1.2.1,g.To.2.1.2.2.1,g.To.2.1.2.2.2.1,g.To.2.1.2.2.2.2,g.To.2.2.1.1,g.To.2.2.1.2.1,g.To.2.2.1.2.2.1,g.To.2.2.1.2.2.2.1,g.To.2.2.1.2.2.2.2,g.To.2.2.2.1.1,g.To.2.2.2.1.2.1,g.To.2.2.2.1.2.2.1,g.To.2.2.2.1.2.2.2.1,g.To.2.2.2.1.2.2.2.2,g.To.2.2.2.2.1,g.To.2.2.2.2.2.1,g.To.2.2.2.2.2.2.1,g.To.2.2.2.2.2.2.2.1,g.To.2.2.2.2.2.2.2.2],0≤x∧x<256
theorem Q8f {al:List Int} (hal:Evs al) (fuel:Nat) (hfu:1099511627776≤fuel) {L:List Int} (hL:L.length=25) (hL2:∀ x∈L,0≤x∧x<256) {N:Int} (hN:1≤N∧N≤5) {i:Nat} (hi:(i:Int)<N) {ms:List Int} {es:List Qf} (hes:Eds al N i 0 es) :
  ∃ es',Eds al N (i+1) 0 es'∧Qcd (fun (k25:Int×List Qf→Option (List Int×List Qf)) ((k23,a24):Int×(List Qf))=>(((if (k23<(al.length:Int)) then some (decide (k23<5)) else some false)).bind fun (x27:Bool)=>(if x27 then ((((inO 5 (i:Int)).bind fun _=>((inO 5 k23).bind fun _=>((rowO L (Int.toNat (i:Int)*5+Int.toNat k23*1)).bind fun x31=>((remO .i64 (IntKind.wrap .i64 x31) (IntKind.wrap .i64 (N+2))).bind fun s33=>(if (s33<N) then ((getO al k23).bind fun x36=>((appO a24 [(Qf.mk (i:Int) x36 s33)]).bind fun x38=>some x38)) else some a24)))))).bind fun (a40:List Qf)=>k25 ((IntKind.wrap .i64 (k23+1)),a40)) else some (ms,a24)))) fuel (0,es)=some (ms,es'):=by
 have hl:=hal.len;have:=Qd0 (F:=fun (k25:Int×List Qf→Option (List Int×List Qf)) ((k23,a24):Int×(List Qf))=>(((if (k23<(al.length:Int)) then some (decide (k23<5)) else some false)).bind fun (x27:Bool)=>(if x27 then ((((inO 5 (i:Int)).bind fun _=>((inO 5 k23).bind fun _=>((rowO L (Int.toNat (i:Int)*5+Int.toNat k23*1)).bind fun x31=>((remO .i64 (IntKind.wrap .i64 x31) (IntKind.wrap .i64 (N+2))).bind fun s33=>(if (s33<N) then ((getO al k23).bind fun x36=>((appO a24 [(Qf.mk (i:Int) x36 s33)]).bind fun x38=>some x38)) else some a24)))))).bind fun (a40:List Qf)=>k25 ((IntKind.wrap .i64 (k23+1)),a40)) else some (ms,a24))))
  (fun x=>∃ k:Nat,x.1=(k:Int)∧k≤al.length∧Eds al N i k x.2) (fun x=>al.length-x.1.toNat) (fun _ r=>∃ es',r=some (ms,es')∧Eds al N (i+1) 0 es') (by
   rintro kk ⟨k,es⟩ ⟨k,rfl,hk,he⟩ ih;replace he:Eds al N i k es:=he;replace hk:k≤al.length:=hk;dsimp only;by_cases hlt:k<al.length
   ·rw [if_pos (by omega)];simp only [Option.bind_some,show decide ((k:Int)<5)=true from by simp;omega,if_true];rw [show inO 5 (i:Int)=some () from by unfold inO;rw [if_pos (by omega)],show inO 5 (k:Int)=some () from by unfold inO;rw [if_pos (by omega)]];simp only [Option.bind_some,Int.toNat_natCast];have hidx:i*5+k*1<L.length:=by omega
    have hx:=hL2 _ (List.getElem_mem hidx);rw [show rowO L (i*5+k*1)=some L[i*5+k*1] from by unfold rowO;exact List.getElem?_eq_getElem hidx];simp only [Option.bind_some];rw [Qkv (x:=L[i*5+k*1]) (by omega) (by omega),Qkv (x:=N+2) (by omega) (by omega),show remO .i64 L[i*5+k*1] (N+2)=some (L[i*5+k*1].tmod (N+2)) from by unfold remO;rw [if_neg (by omega)]];simp only [Option.bind_some];have hmod:0≤L[i*5+k*1].tmod (N+2):=Int.tmod_nonneg _ hx.1;have hln:=he.ln;by_cases hm:L[i*5+k*1].tmod (N+2)<N
    ·rw [if_pos hm,Qbp hlt];simp only [Option.bind_some];rw [Qb1 (by simp only [List.length_cons,List.length_nil];unfold lim;omega)];simp only [Option.bind_some];rw [Q9 (by omega)];exact ih _ ⟨k+1,rfl,hlt,he.add hal hlt ⟨hmod,hm⟩⟩ (by simp only;omega)
    ·rw [if_neg hm];simp only [Option.bind_some];rw [Q9 (by omega)];exact ih _ ⟨k+1,rfl,hlt,he.up⟩ (by simp only;omega)
   ·rw [if_neg (by omega)];exact ⟨es,rfl,he.next (by omega)⟩) fuel (0,es) ⟨0,rfl,Nat.zero_le _,hes⟩ (by simp only;omega)
 obtain ⟨es',h1,h2⟩:=this;exact ⟨es',h2,h1⟩
theorem Q6v {al:List Int} (hal:Evs al):Right ⟨al,0,[],[]⟩ :=
 ⟨fun x hx=>by have:=hal.rg x hx;omega,hal.so,⟨by simp,by simp⟩,by simp,.nil,by simp,.nil⟩
theorem Qbfy {al:List Int} (hal:Evs al) {g:Qcl} (hg:Qbej g):∃ m,Right m∧m.zD=al∧Qg2 al g=some (Qtw m)∧m.zH≤5:=by
 have hl:=hal.len;obtain ⟨hst,hto⟩:=hg;unfold Qg2 Qc4;obtain ⟨fuel,hfu,hge⟩ : ∃ f,Qbd=f∧1099511627776≤f:=⟨_,rfl,Nat.le_refl _⟩;rw [hfu,Q79 (by unfold lim;omega)];simp only [Option.bind_some];by_cases h250:g.zH≥250
 ·rw [if_pos h250];exact ⟨⟨al,0,[],[]⟩,Q6v hal,rfl,rfl,by simp⟩
 rw [if_neg h250];have hL:[g.To.1.1,g.To.1.2.1,g.To.1.2.2.1,g.To.1.2.2.2.1,g.To.1.2.2.2.2,g.To.2.1.1,g.To.2.1.2.1,g.To.2.1.2.2.1,g.To.2.1.2.2.2.1,g.To.2.1.2.2.2.2,g.To.2.2.1.1,g.To.2.2.1.2.1,g.To.2.2.1.2.2.1,g.To.2.2.1.2.2.2.1,g.To.2.2.1.2.2.2.2,g.To.2.2.2.1.1,g.To.2.2.2.1.2.1,g.To.2.2.2.1.2.2.1,g.To.2.2.2.1.2.2.2.1,g.To.2.2.2.1.2.2.2.2,g.To.2.2.2.2.1,g.To.2.2.2.2.2.1,g.To.2.2.2.2.2.2.1,g.To.2.2.2.2.2.2.2.1,g.To.2.2.2.2.2.2.2.2].length=25:=rfl;generalize [g.To.1.1,g.To.1.2.1,g.To.1.2.2.1,g.To.1.2.2.2.1,g.To.1.2.2.2.2,g.To.2.1.1,g.To.2.1.2.1,g.To.2.1.2.2.1,g.To.2.1.2.2.2.1,g.To.2.1.2.2.2.2,g.To.2.2.1.1,g.To.2.2.1.2.1,g.To.2.2.1.2.2.1,g.To.2.2.1.2.2.2.1,g.To.2.2.1.2.2.2.2,g.To.2.2.2.1.1,g.To.2.2.2.1.2.1,g.To.2.2.2.1.2.2.1,g.To.2.2.2.1.2.2.2.1,g.To.2.2.2.1.2.2.2.2,g.To.2.2.2.2.1,g.To.2.2.2.2.2.1,g.To.2.2.2.2.2.2.1,g.To.2.2.2.2.2.2.2.1,g.To.2.2.2.2.2.2.2.2]=L at hto hL ⊢;have hmod:0≤g.zH.tmod 5∧g.zH.tmod 5<5:=⟨Int.tmod_nonneg _ hst.1,Int.tmod_lt_of_pos _ (by omega)⟩;have hN:1≤IntKind.wrap .i64 (1+(IntKind.wrap .i64 (Int.tmod g.zH 5)))∧IntKind.wrap .i64 (1+(IntKind.wrap .i64 (Int.tmod g.zH 5)))≤5:=by
  rw [Qkv (x:=g.zH.tmod 5) (by omega) (by omega),Qkv (by omega) (by omega)];omega
 generalize IntKind.wrap .i64 (1+(IntKind.wrap .i64 (Int.tmod g.zH 5)))=N at hN ⊢;have hloop:=Qd0 (F:=(fun (k15:Int×List Int×List Int×List Qf×Int×List Int×List Qf→Option (List Int×List Int×List Qf×Int×List Int×List Qf)) ((i8,c9,c10,c11,a12,a13,a14):Int×(List Int)×(List Int)×(List Qf)×Int×(List Int)×(List Qf))=>(if (i8<a12) then ((((((shrO .u8 g.Marks i8).bind fun s17=>(if ((andI .u8 s17 1)==1) then ((appO a13 [i8]).bind fun x20=>some x20) else some a13))).bind fun (a22:List Int)=>Qcd (fun k25 ((k23,a24):Int×(List Qf))=>(((if (k23<(al.length:Int)) then some (decide (k23<5)) else some false)).bind fun (x27:Bool)=>(if x27 then ((((inO 5 i8).bind fun _=>((inO 5 k23).bind fun _=>((rowO L (Int.toNat i8*5+Int.toNat k23*1)).bind fun x31=>((remO .i64 (IntKind.wrap .i64 x31) (IntKind.wrap .i64 (a12+2))).bind fun s33=>(if (s33<a12) then ((getO al k23).bind fun x36=>((appO a24 [(Qf.mk i8 x36 s33)]).bind fun x38=>some x38)) else some a24)))))).bind fun (a40:List Qf)=>k25 ((IntKind.wrap .i64 (k23+1)),a40)) else some (a22,a24)))) fuel (0,a14))).bind fun ((a41,a42):(List Int)×(List Qf))=>k15 ((IntKind.wrap .i64 (i8+1)),c9,c10,c11,a12,a41,a42)) else some (c9,c10,c11,a12,a13,a14))))
  (fun x=>∃ (i:Nat) (ms:List Int) (es:List Qf),x=((i:Int),[],[],[],N,ms,es)∧(i:Int)≤N∧Mks i ms∧Eds al N i 0 es) (fun x=>(N-x.1).toNat)
  (fun _ r=>∃ (i:Nat) (ms:List Int) (es:List Qf),r=some ([],[],[],N,ms,es)∧(i:Int)=N∧Mks i ms∧Eds al N i 0 es) (by
   rintro k _ ⟨i,ms,es,rfl,hi,hm,he⟩ ih;dsimp only;by_cases hlt:(i:Int)<N
   ·rw [if_pos hlt,show shrO .u8 g.Marks (i:Int)=some (g.Marks.fdiv (2 ^ (min (Int.toNat (i:Int)) (IntKind.bits .u8)))) from by unfold shrO;rw [if_neg (by omega)]];simp only [Option.bind_some];have hml:=hm.len;by_cases hb:(andI .u8 (g.Marks.fdiv (2 ^ (min (Int.toNat (i:Int)) (IntKind.bits .u8)))) 1==1)=true
    ·rw [if_pos hb,Qb1 (by simp only [List.length_cons,List.length_nil];unfold lim;omega)];simp only [Option.bind_some];obtain ⟨es',h1,h2⟩:=Q8f hal fuel hge hL hto hN hlt (ms:=ms++[(i:Int)]) he;rw [h2];simp only [Option.bind_some];rw [Q9 (by omega)];exact ih _ ⟨i+1,_,_,rfl,by omega,hm.add,h1⟩ (by simp only;omega)
    ·rw [if_neg hb];simp only [Option.bind_some];obtain ⟨es',h1,h2⟩:=Q8f hal fuel hge hL hto hN hlt (ms:=ms) he;rw [h2];simp only [Option.bind_some];rw [Q9 (by omega)];exact ih _ ⟨i+1,_,_,rfl,by omega,hm.up,h1⟩ (by simp only;omega)
   ·rw [if_neg hlt];exact ⟨i,ms,es,rfl,by omega,hm,he⟩) fuel (0,[],[],[],N,[],[]) ⟨0,[],[],rfl,by omega,⟨by simp,.nil⟩,⟨by simp,.nil,by simp⟩⟩ (by simp only;omega)
 obtain ⟨i,ms,es,h1,h2,h3,h4⟩:=hloop;rw [h1];simp only [Option.bind_some];have hr:Right ⟨al,N,ms,es⟩:=⟨fun x hx=>by have:=hal.rg x hx;omega,hal.so,⟨by simp only;omega,by simp only;omega⟩,fun x hx=>by have:=h3.rg x hx;simp only;omega,h3.so,fun x hx=>by
  obtain ⟨k1,k2,k3,k4,k5⟩:=h4.rg x hx;refine ⟨k1,?_,k2,k3,k4⟩;rcases k5 with k5|⟨_,j,k6,_⟩
  ·simp only;omega
  ·omega,h4.so⟩
 rw [Q00 hr];exact ⟨_,hr,rfl,rfl,by simp only;omega⟩
end Go.Abs
end
section
namespace Go.Abs
open Go
def Qpc (a:Qa) (est:List Int) (e:Int):List Int:=est.flatMap fun s=>((outP a s).filter fun x=>x.Event==e).map (·.To)
noncomputable def Qy2 (a:Qa) (onto est:List Int) (e:Int):List Int:=Qr2 a (Qpc a est e) (Qli a onto)
noncomputable def Qvi (a:Qa) (onto:List Int):List Int:=if a.zH=0 then [] else Qr2 a [0] (Qli a onto)
noncomputable def estP (a:Qa) (onto obs:List Int):List Int:=obs.foldl (Qy2 a onto) (Qvi a onto)
structure Sts (a:Qa) (l:List Int):Prop where
 rg:∀ s∈l,0≤s∧s<a.zH
 so:l.Pairwise (· < ·)
theorem Sts.len {a:Qa} {l:List Int} (h:Sts a l):l.length≤a.zH.toNat:=by
 have:=Qf2 (a:=0) (b:=a.zH) h.so h.rg;omega
theorem Q2n (a:Qa) (fr ev:List Int):Sts a (Qr2 a fr ev):=⟨fun s hs=>(Qyc.1 hs).1,Q02 _ _ _⟩
theorem Q05 (a:Qa) (onto est:List Int) (e:Int):Sts a (Qy2 a onto est e):=Q2n _ _ _
theorem Qye (a:Qa) (onto:List Int):Sts a (Qvi a onto):=by
 unfold Qvi;split
 ·exact ⟨by simp,by simp⟩
 ·exact Q2n _ _ _
theorem Qbb2 {a:Qa} {est:List Int} {e t:Int}:t∈Qpc a est e↔∃ x∈a.zG,x.From∈est∧x.Event=e∧x.To=t:=by
 simp only [Qpc,outP,List.mem_flatMap,List.mem_map,List.mem_filter,beq_iff_eq];constructor
 ·rintro ⟨s,hs,x,⟨⟨h1,h2⟩,h3⟩,h4⟩;exact ⟨x,h1,by rw [h2];exact hs,h3,h4⟩
 ·rintro ⟨x,h1,h2,h3,h4⟩;exact ⟨x.From,h2,x,⟨⟨h1,rfl⟩,h3⟩,h4⟩
theorem Q6w {a:Qa} (h:Right a) {est:List Int} {e:Int}:∀ s∈Qpc a est e,0≤s∧s<a.zH:=by
 intro s hs;obtain ⟨x,hx,_,_,rfl⟩:=Qbb2.1 hs;exact ⟨(h.ed0 x hx).2.2.1,(h.ed0 x hx).2.2.2.1⟩
theorem Q8g {α β:Type} {f:α→List β} {m:Nat}:∀ {l:List α},(∀ x∈l,(f x).length≤m)→(l.flatMap f).length≤m*l.length
 | [],_=>by simp
 | x::l,h=>by
  have h1:=h x (by simp);have h2:=Q8g (l:=l) fun y hy=>h y (by simp [hy]);simp only [List.flatMap_cons,List.length_append,List.length_cons,Nat.mul_succ];omega
theorem Qbfz (a:Qa) (s e:Int):((outP a s).filter fun x=>x.Event==e).length≤a.zG.length:=Nat.le_trans (List.length_filter_le _ _) (List.length_filter_le _ _)
theorem Q5m {a:Qa} (h:Right a) {est:List Int} (hl:est.length≤5000) (e:Int):(Qpc a est e).length≤131072*5000:=by
 have:=Q8g (f:=fun s=>((outP a s).filter fun x=>x.Event==e).map (·.To)) (m:=131072) (l:=est) fun s _=>by
  have:=Qbfz a s e;have:=h.small.2.2.2;rw [List.length_map];omega
 exact Nat.le_trans this (Nat.mul_le_mul_left _ hl)
theorem Q2o {a:Qa} (h:Right a) (onto:List Int):(Qli a onto).length<big:=by
 have:=h.small.2.1;have:(Qli a onto).length≤a.zD.length:=List.length_filter_le _ _;unfold big;omega
theorem Qbdn {a:Qa} (h:Right a) (onto:List Int):(Qty a onto).length≤32:=by
 have:=h.small.2.1;have:(Qty a onto).length≤a.zD.length:=List.length_filter_le _ _;omega
theorem Q9g {a:Qa} (h:Right a) {onto est:List Int} (he:∀ s∈est,0≤s∧s<a.zH) (hl:est.length≤5000) (e:Int) :
  Qdq (obsP a onto) est e=some (Qy2 a onto est e):=by
 have hsm:=h.small;have hmax:=Q5m h hl e;unfold Qdq Q2;refine Qem (x:=Qpc a est e) ?_ ?_
 ·refine (Qfr (len:=est.length) (fun n (l:List Int)=>(l,(n:Int))) (fun n l=>l=Qpc a (est.take n) e) (fun n l=>some (Qpc a est e)) ?_ ?_ Qbd 0 [] (Nat.zero_le _) (by unfold Qbd;omega) (by simp [Qpc]))
  ·rintro k n l hn rfl ih;have hx:=he _ (List.getElem_mem hn);dsimp only;rw [if_pos (by omega),Qbp hn];simp only [Option.bind_some];rw [show getO (obsP a onto).out_ est[n]=_ from Q3n hx];simp only [Option.bind_some];have hol:(outP a est[n]).length≤131072:=Nat.le_trans (List.length_filter_le _ _) hsm.2.2.2;have hml:(Qpc a (est.take n) e).length≤131072*5000:=Q5m h (by rw [List.length_take];omega) e;refine Qem (x:=Qpc a (est.take n) e++((outP a est[n]).filter fun x=>x.Event==e).map (·.To)) ?_ ?_
   ·refine (Qfr (len:=(outP a est[n]).length) (fun m (l:List Int)=>(l,(m:Int))) (fun m l=>l=Qpc a (est.take n) e++(((outP a est[n]).take m).filter fun x=>x.Event==e).map (·.To)) (fun m l=>some (Qpc a (est.take n) e++((outP a est[n]).filter fun x=>x.Event==e).map (·.To))) ?_ ?_ Qbd 0 _ (Nat.zero_le _) (by unfold Qbd;omega) (by simp))
    ·rintro k m l hm rfl ih;dsimp only;rw [if_pos (by omega),Qbp hm];simp only [Option.bind_some];have hfl:((((outP a est[n]).take m).filter fun x=>x.Event==e).map (·.To)).length≤131072:=by
      rw [List.length_map];exact Nat.le_trans (List.length_filter_le _ _) (by rw [List.length_take];omega)
     by_cases hx:(outP a est[n])[m].Event=e
     ·rw [if_pos (by simp [hx]),Qb1 (by rw [List.length_append];simp only [List.length_cons,List.length_nil];unfold lim;omega)];simp only [Option.bind_some];rw [Q9 (by omega)];refine ih _ ?_;rw [List.take_succ_eq_append_getElem hm,List.filter_append,List.map_append,List.append_assoc];simp [hx]
     ·rw [if_neg (by simp [hx])];simp only [Option.bind_some];rw [Q9 (by omega)];refine ih _ ?_;rw [List.take_succ_eq_append_getElem hm,List.filter_append,List.map_append];simp [hx]
    ·rintro k l rfl;dsimp only;rw [if_neg (by omega),List.take_length]
   ·rw [Q9 (by omega)];refine ih _ ?_;rw [List.take_succ_eq_append_getElem hn];simp only [Qpc,List.flatMap_append,List.flatMap_cons,List.flatMap_nil,List.append_nil]
  ·rintro k l rfl;dsimp only;rw [if_neg (by omega),List.take_length]
 ·rw [show (obsP a onto).erased_=Qli a onto from rfl,Q8e h (Q6w h) (by unfold big;omega) (Q2o h onto)]
  rfl
theorem Qbdo {a:Qa} (h:Right a) (onto:List Int):Qdi (obsP a onto)=some (Qvi a onto):=by
 have hst:=h.st;unfold Qdi Q0;have hlen:((obsP a onto).out_.length:Int)=a.zH:=by show ((Qy1 a).length:Int)=_;rw [Qtz];omega
 rw [hlen];unfold Qvi;by_cases h0:a.zH=0
 ·rw [if_pos (by simp [h0]),if_pos h0]
 ·rw [if_neg (by simp [h0]),if_neg h0,show (obsP a onto).erased_=Qli a onto from rfl,Q8e h (fun s hs=>by simp at hs;subst hs;omega) (by unfold big;simp) (Q2o h onto)]
  rfl
theorem Q6x {a:Qa} (h:Right a) {onto obs:List Int} (hl:obs.length<big):Qdg (obsP a onto) obs=some (obs.all fun x=>decide (x∈Qty a onto)):=by
 have hk:=Qbdn h onto;unfold Qdg Qy;rw [Q01 (p:=fun x=>!decide (x∈Qty a onto)) (fun x=>by
  unfold Qfo Qbr;rw [show (obsP a onto).kept_=Qty a onto from rfl,Qoo (by unfold big;omega)];rfl) hl]
 simp only [Option.bind_some];congr 1;rw [List.not_any_eq_all_not];simp
theorem Q5n {l:List Int} {n:Int} (hl:l.length<big):Qiy l n=some (Qf6 n none l):=Qwc hl
theorem Qbb3 {a:Qa} (h:small a) {ev:List Int} (hl:ev.length<big):Qel a ev=some (if Qrw a=0 then Qf6 32 none ev else Qrw a):=by
 unfold Qel Qbb;rw [Q78 h];simp only [Option.bind_some];by_cases h0:Qrw a=0
 ·rw [if_neg (by simp [h0]),if_pos h0,Q5n hl];rfl
 ·rw [if_pos (by simp [h0]),if_neg h0]
theorem Q5o {a:Qa} (h:Right a) {ev:List Int} (hl:ev.length<big):Qel a ev=some (Qf6 32 none ev):=by
 rw [Qbb3 h.small.1 hl,if_pos (Q5c.2 h)]
structure EvSet (l:List Int):Prop where
 rg:∀ x∈l,0≤x∧x<32
 so:l.Pairwise (· < ·)
theorem EvSet.err {l:List Int} (h:EvSet l):Qf6 32 none l=0:=Qi4.2 ⟨h.rg,h.so,fun y hy=>by cases hy⟩
theorem EvSet.len {l:List Int} (h:EvSet l):l.length≤32:=by have:=Qf2 (a:=0) (b:=32) h.so h.rg;omega
theorem Evs.set {l:List Int} (h:Evs l):EvSet l:=⟨fun x hx=>by have:=h.rg x hx;omega,h.so⟩
theorem Q5p {l:List Int} {N:Nat} (hn:l.Nodup) (hr:∀ x∈l,0≤x∧x<N):l.length≤N:=by
 obtain ⟨h1,h2⟩:=Q5i hn;have:=Qf2 (a:=0) (b:=N) h1 fun x hx=>hr x ((h2 x).1 hx);rw [Qne] at this;omega
end Go.Abs
end
section
namespace Go.Abs
open Go
theorem Qxg {κ β:Type} [DecidableEq κ] {v:β} {k k' : κ}:∀ {m:List (κ×β)},hasM (setM m k v) k'=(decide (k'=k)||hasM m k')
 | []=>by simp only [setM,hasM,List.any_cons,List.any_nil];rw [Bool.eq_iff_iff];simp
 | (q,w)::m=>by
  have ih:=Qxg (v:=v) (k:=k) (k':=k') (m:=m);simp only [setM];by_cases h:k=q
  ·subst h;simp only [beq_self_eq_true,if_true,Qp2];rw [Bool.eq_iff_iff];simp
  ·have:(k==q)=false:=by simp [h]
   simp only [this,Bool.false_eq_true,if_false,Qp2];rw [ih];cases (k'==q)<;>cases decide (k'=k)<;>rfl
theorem Qxh {κ β:Type} [DecidableEq κ] {z v:β} {k k' : κ}:∀ {m:List (κ×β)},getM (setM m k v) k' z=if k'=k then v else getM m k' z
 | []=>by
  simp only [setM,getM];by_cases h:k'=k
  ·subst h;simp
  ·have:(k'==k)=false:=by simp [h]
   simp [this,h]
 | (q,w)::m=>by
  have ih:=Qxh (z:=z) (v:=v) (k:=k) (k':=k') (m:=m);simp only [setM];by_cases h:k=q
  ·subst h;simp only [beq_self_eq_true,if_true,getM];by_cases h2:k'=k
   ·subst h2;simp
   ·have:(k'==k)=false:=by simp [h2]
    simp [this,h2]
  ·have e:(k==q)=false:=by simp [h]
   simp only [e,Bool.false_eq_true,if_false,getM];by_cases h2:k'=q
   ·subst h2;have:¬ k'=k:=fun e=>h e.symm;simp [this]
   ·have:(k'==q)=false:=by simp [h2]
    simp only [this,Bool.false_eq_true,if_false,ih]
structure Qck where
 state_:Int
 done_:Int
 word_:List Int
 deriving DecidableEq
def Qpd (z:Qck):Qn:=⟨z.state_,z.done_⟩
def Qbf0 (onto obs:List Int) (done e:Int):Option Int:=if e∈onto then (if done=obs.length∨getO obs done≠some e then none else some (done+1)) else some done
def addN (onto obs:List Int) (x:Qck) (L:List Qck) (y:Qf):List Qck :=
 match Qbf0 onto obs x.done_ y.Event with
 | none=>L
 | some d=>if (L.any fun z=>decide (Qpd z=⟨y.To,d⟩)) then L else L++[⟨y.To,d,x.word_++[y.Event]⟩]
structure Nodes (a:Qa) (n:Nat) (L:List Qck):Prop where
 rg:∀ z∈L,(0≤z.state_∧z.state_<a.zH)∧0≤z.done_∧z.done_≤n
 nd:(L.map Qpd).Nodup
 wl:∀ (j:Nat) z,L[j]? = some z→z.word_.length≤j
theorem Nodes.len {a:Qa} {n:Nat} {L:List Qck} (h:Nodes a n L):L.length≤a.zH.toNat*(n+1):=by
 have h1:((L.map Qpd).map fun p=>p.state_*((n:Int)+1)+p.done_).Nodup:=by
  refine List.Pairwise.map _ (S:=fun a b=>a≠b) (fun p q h=>h) ?_;refine List.Pairwise.imp_of_mem (fun {p q} hp hq hne=>?_) h.nd;obtain ⟨z,hz,rfl⟩:=List.mem_map.1 hp;obtain ⟨y,hy,rfl⟩:=List.mem_map.1 hq;have hz:=h.rg z hz;have hy:=h.rg y hy;intro e;refine hne ?_;simp only [Qpd] at e ⊢;have e1:z.state_=y.state_:=by
   rcases Int.lt_trichotomy z.state_ y.state_ with hlt|heq|hgt
   ·exfalso;have:(z.state_+1)*((n:Int)+1)≤y.state_*((n:Int)+1):=Int.mul_le_mul_of_nonneg_right (by omega) (by omega);rw [Int.add_mul] at this;omega
   ·exact heq
   ·exfalso;have:(y.state_+1)*((n:Int)+1)≤z.state_*((n:Int)+1):=Int.mul_le_mul_of_nonneg_right (by omega) (by omega);rw [Int.add_mul] at this;omega
  rw [e1] at e ⊢;have:z.done_=y.done_:=by omega
  rw [this]
 have:=Q5p (N:=a.zH.toNat*(n+1)) h1 fun x hx=>by
  obtain ⟨p,hp,rfl⟩:=List.mem_map.1 hx;obtain ⟨z,hz,rfl⟩:=List.mem_map.1 hp;have hz:=h.rg z hz;simp only [Qpd];have h0:0≤z.state_*((n:Int)+1):=Int.mul_nonneg hz.1.1 (by omega);have h2:(z.state_+1)*((n:Int)+1)≤a.zH*((n:Int)+1):=Int.mul_le_mul_of_nonneg_right (by omega) (by omega);rw [Int.add_mul] at h2;have e:((a.zH.toNat*(n+1):Nat):Int)=a.zH*((n:Int)+1):=by
   rw [Int.natCast_mul,Int.natCast_add,Int.natCast_one,Int.toNat_of_nonneg (by omega)]
  rw [e];omega
 simpa using this
structure KW (L:List Qck) (c:List (Qn×List Int)):Prop where
 has:∀ p,hasM c p=L.any fun z=>decide (Qpd z=p)
 get:∀ z∈L,getM c (Qpd z) []=z.word_
theorem KW.add {a:Qa} {n:Nat} {L:List Qck} {c:List (Qn×List Int)} (h:KW L c) (z:Qck) (hz:(L.any fun y=>decide (Qpd y=Qpd z))=false):KW (L++[z]) (setM c (Qpd z) z.word_):=by
 refine ⟨fun p=>?_,fun y hy=>?_⟩
 ·rw [Qxg,h.has,List.any_append];simp only [List.any_cons,List.any_nil,Bool.or_false];rw [Bool.or_comm];congr 1;exact decide_eq_decide.2 ⟨fun e=>e.symm,fun e=>e.symm⟩
 ·rw [Qxh];rw [List.mem_append,List.mem_singleton] at hy;rcases hy with hy|rfl
  ·have:¬ Qpd y=Qpd z:=fun e=>by
    have:=List.any_eq_false.1 hz y hy;simp [e] at this
   rw [if_neg this,h.get y hy]
  ·rw [if_pos rfl]
theorem Nodes.add {a:Qa} {n:Nat} {L:List Qck} (h:Nodes a n L) {onto obs:List Int} (ho:obs.length=n) {x:Qck} {i:Nat} (hx:L[i]? = some x) {y:Qf} (hy:0≤y.To∧y.To<a.zH):Nodes a n (addN onto obs x L y)∧L <+: addN onto obs x L y:=by
 unfold addN;cases hd:Qbf0 onto obs x.done_ y.Event with
 | none=>exact ⟨h,List.prefix_refl L⟩
 | some d =>
  dsimp only;split
  ·exact ⟨h,List.prefix_refl L⟩
  ·rename_i hn;have hn:(L.any fun z=>decide (Qpd z=⟨y.To,d⟩))=false:=by simpa using hn
   have hxm:=h.rg x (List.mem_of_getElem? hx);have hdr:0≤d∧d≤n:=by
    unfold Qbf0 at hd;split at hd
    ·split at hd
     ·cases hd
     ·rename_i hc;cases hd;have:¬ x.done_=obs.length:=fun e=>hc (.inl e);omega
    ·cases hd;exact hxm.2
   refine ⟨⟨fun z hz=>?_,?_,fun j z hz=>?_⟩,List.prefix_append L _⟩
   ·rcases List.mem_append.1 hz with hz|hz
    ·exact h.rg z hz
    ·simp at hz;subst hz;exact ⟨hy,hdr⟩
   ·rw [List.map_append,List.nodup_append];refine ⟨h.nd,by simp,fun p hp q hq e=>?_⟩;simp at hq;subst hq;subst e;obtain ⟨z,hz,hpz⟩:=List.mem_map.1 hp;have:=List.any_eq_false.1 hn z hz;rw [hpz] at this;simp [Qpd] at this
   ·rw [List.getElem?_append] at hz;split at hz
    ·exact h.wl j z hz
    ·rename_i hlt;have hi:=(List.getElem?_eq_some_iff.1 hx).1;have hwl:=h.wl i x hx;have:j-L.length=0:=by
      have:=(List.getElem?_eq_some_iff.1 hz).1;simp at this;omega
     rw [this] at hz;simp at hz;subst hz;simp only [List.length_append,List.length_cons,List.length_nil];omega
end Go.Abs
end
section
namespace Go.Abs
open Go
end Go.Abs
end
section
namespace Go.Abs
open Go
theorem bytes_beq (a b:ByteArray):(a==b)=decide (a=b):=by
 cases a;cases b;rw [Bool.eq_iff_iff];simp only [decide_eq_true_eq,ByteArray.mk.injEq];exact beq_iff_eq (α:=Array UInt8)
theorem Qr3 {x y:Int} (hx:0≤x∧x<256) (hy:0≤y∧y<256) (h:x.toNat.toUInt8=y.toNat.toUInt8):x=y:=by
 have:=congrArg UInt8.toNat h;simp only [Nat.toUInt8,UInt8.toNat_ofNat'] at this;omega
theorem Qyu {r:Int} (h0:1≤r) (h1:r≤50000) :
  (r≤127∧Lib.encodeRuneZ r=[r])∨(128≤r∧r≤2047∧Lib.encodeRuneZ r=[192+r / 64,128+r % 64])∨(2048≤r∧Lib.encodeRuneZ r=[224+r / 4096,128+r / 64 % 64,128+r % 64]):=by
 by_cases h2:r≤127
 ·exact .inl ⟨h2,Lib.encodeRuneZ_one (by omega) h2⟩
 ·by_cases h3:r≤2047
  ·exact .inr (.inl ⟨by omega,h3,Lib.encodeRuneZ_two (by omega) h3⟩)
  ·exact .inr (.inr ⟨by omega,Lib.encodeRuneZ_three (.inl ⟨by omega,by omega⟩)⟩)
theorem Q9h {r q:Int} (hr:1≤r∧r≤50000) (hq:1≤q∧q≤50000) {s t:List UInt8} (h:Lib.encodeRune r++s=Lib.encodeRune q++t):r=q∧s=t:=by
 unfold Lib.encodeRune at h;rcases Qyu hr.1 hr.2 with ⟨a1,a2⟩|⟨a0,a1,a2⟩|⟨a1,a2⟩<;>rcases Qyu hq.1 hq.2 with ⟨b1,b2⟩|⟨b0,b1,b2⟩|⟨b1,b2⟩<;>rw [a2,b2] at h <;>
  simp only [List.map_cons,List.map_nil,List.cons_append,List.nil_append,List.cons.injEq] at h
 ·exact ⟨Qr3 (by omega) (by omega) h.1,h.2⟩
 ·have:=Qr3 (by omega) (by omega) h.1;omega
 ·have:=Qr3 (by omega) (by omega) h.1;omega
 ·have:=Qr3 (by omega) (by omega) h.1;omega
 ·have e1:=Qr3 (by omega) (by omega) h.1;have e2:=Qr3 (by omega) (by omega) h.2.1;exact ⟨by omega,h.2.2⟩
 ·have:=Qr3 (by omega) (by omega) h.1;omega
 ·have:=Qr3 (by omega) (by omega) h.1;omega
 ·have:=Qr3 (by omega) (by omega) h.1;omega
 ·have e1:=Qr3 (by omega) (by omega) h.1;have e2:=Qr3 (by omega) (by omega) h.2.1;have e3:=Qr3 (by omega) (by omega) h.2.2.1;exact ⟨by omega,h.2.2.2⟩
theorem Q5q (r:Int):Lib.encodeRune r≠[]:=by
 unfold Lib.encodeRune Lib.encodeRuneZ;split
 ·simp
 ·split
  ·simp
  ·split
   ·simp
   ·split<;>simp
theorem Q8h:∀ {l m:List Int},(∀ x∈l,0≤x∧x<50000)→(∀ x∈m,0≤x∧x<50000)→(l.flatMap fun x=>Lib.encodeRune (x+1))=(m.flatMap fun x=>Lib.encodeRune (x+1))→l=m
 | [],[],_,_,_=>rfl
 | [],y::m,_,_,h=>by
  simp only [List.flatMap_nil,List.flatMap_cons] at h;exact absurd (List.append_eq_nil_iff.1 h.symm).1 (Q5q _)
 | x::l,[],_,_,h=>by
  simp only [List.flatMap_nil,List.flatMap_cons] at h;exact absurd (List.append_eq_nil_iff.1 h).1 (Q5q _)
 | x::l,y::m,hl,hm,h=>by
  simp only [List.flatMap_cons] at h;have hx:=hl x (by simp);have hy:=hm y (by simp);obtain ⟨h1,h2⟩:=Q9h ⟨by omega,by omega⟩ ⟨by omega,by omega⟩ h;rw [Q8h (fun z hz=>hl z (by simp [hz])) (fun z hz=>hm z (by simp [hz])) h2,show x=y from by omega]
theorem Q3o {l m:List Int} (hl:∀ x∈l,0≤x∧x<50000) (hm:∀ x∈m,0≤x∧x<50000) (h:keyB l=keyB m):l=m:=by
 unfold keyB at h;have h:=congrArg (fun b:ByteArray=>b.data.toList) h;simp only [List.toList_toArray] at h;exact Q8h hl hm h
structure KM (S:List (List Int)) (c:List (ByteArray×Int)):Prop where
 has:∀ n,(∀ x∈n,0≤x∧x<50000)→hasM c (keyB n)=decide (n∈S)
 get:∀ n∈S,getM c (keyB n) 0=(S.idxOf n:Int)
 rg:∀ n∈S,∀ x∈n,0≤x∧x<50000
theorem Q06 {β:Type} {v:β} {k k' : ByteArray}:∀ {m:List (ByteArray×β)},hasM (setM m k v) k'=(decide (k'=k)||hasM m k')
 | []=>by simp [setM,hasM,bytes_beq]
 | (q,w)::m=>by
  have ih:=Q06 (v:=v) (k:=k) (k':=k') (m:=m);simp only [setM];by_cases h:k=q
  ·subst h;simp only [bytes_beq,decide_true,if_true,Qp2];by_cases h2:k'=k<;>simp [h2,bytes_beq]
  ·simp only [bytes_beq,h,decide_false,Bool.false_eq_true,if_false,Qp2];rw [ih];cases decide (k'=q)<;>cases decide (k'=k)<;>rfl
theorem Qxi {β:Type} {z v:β} {k k' : ByteArray}:∀ {m:List (ByteArray×β)},getM (setM m k v) k' z=if k'=k then v else getM m k' z
 | []=>by simp [setM,getM,bytes_beq]
 | (q,w)::m=>by
  have ih:=Qxi (z:=z) (v:=v) (k:=k) (k':=k') (m:=m);simp only [setM];by_cases h:k=q
  ·subst h;simp only [bytes_beq,decide_true,if_true,getM];by_cases h2:k'=k
   ·subst h2;simp
   ·simp [h2]
  ·simp only [bytes_beq,h,decide_false,Bool.false_eq_true,if_false,getM];by_cases h2:k'=q
   ·subst h2;have:¬ k'=k:=fun e=>h e.symm;simp [this]
   ·simp only [h2,decide_false,Bool.false_eq_true,if_false,ih]
theorem KM.first {n:List Int} (hn:∀ x∈n,0≤x∧x<50000):KM [n] (setM ([]:List (ByteArray×Int)) (keyB n) 0):=by
 refine ⟨fun m hm=>?_,fun m hm=>?_,fun m hm=>?_⟩
 ·rw [Q06];have:hasM ([]:List (ByteArray×Int)) (keyB m)=false:=rfl;rw [this,Bool.or_false];apply decide_eq_decide.2;rw [List.mem_singleton];exact ⟨fun h=>Q3o hm hn h,fun h=>by rw [h]⟩
 ·rw [List.mem_singleton] at hm;subst hm;rw [Qxi,if_pos rfl];simp
 ·rw [List.mem_singleton] at hm;subst hm;exact hn
theorem KM.add {S:List (List Int)} {c:List (ByteArray×Int)} (h:KM S c) {n:List Int} (hn:∀ x∈n,0≤x∧x<50000) (hm:n∉S):KM (S++[n]) (setM c (keyB n) (S.length:Int)):=by
 refine ⟨fun m hm'=>?_,fun m hm'=>?_,fun m hm'=>?_⟩
 ·rw [Q06,h.has m hm',← Bool.decide_or];apply decide_eq_decide.2;rw [List.mem_append,List.mem_singleton];constructor
  ·rintro (e|e)
   ·exact .inr (Q3o hm' hn e)
   ·exact .inl e
  ·rintro (e|e)
   ·exact .inr e
   ·exact .inl (by rw [e])
 ·rw [Qxi];rw [List.mem_append,List.mem_singleton] at hm';rcases hm' with hm'|rfl
  ·rw [if_neg (fun e=>hm (by rw [← Q3o (h.rg m hm') hn e];exact hm')),h.get m hm',List.idxOf_append,if_pos hm']
  ·rw [if_pos rfl,List.idxOf_append,if_neg hm];simp
 ·rw [List.mem_append,List.mem_singleton] at hm';rcases hm' with hm'|rfl
  ·exact h.rg m hm'
  ·exact hn
end Go.Abs
end
section
namespace Go.Abs
open Go
def insL (o:List (List Int)) (t:List Int):List (List Int):=if t∈o then o else o++[t]
noncomputable def Qbf1 (a:Qa) (onto est:List Int) (l:List Int):List (Int×List Int):=l.filterMap fun x=>if Qy2 a onto est x=[] then none else some (x,Qy2 a onto est x)
def Qbb4 (S:List (List Int)) (row:List (Int×List Int)):List (List Int):=row.foldl (fun o p=>insL o p.2) S
theorem Qbdp {o:List (List Int)} {t x:List Int}:x∈insL o t↔x∈o∨x=t:=by
 unfold insL;split
 ·rename_i h;exact ⟨.inl,fun e=>e.elim id fun e=>by rw [e];exact h⟩
 ·simp
theorem Q9i {o:List (List Int)} (h:o.Nodup) (t:List Int):(insL o t).Nodup:=by
 unfold insL;split
 ·exact h
 ·rename_i hn;rw [List.nodup_append];exact ⟨h,by simp,fun x hx y hy e=>by simp at hy;subst hy;subst e;exact hn hx⟩
theorem Q07:∀ (row:List (Int×List Int)) {S:List (List Int)},S.Nodup→(Qbb4 S row).Nodup
 | [],S,h=>h
 | p::row,S,h=>Q07 row (Q9i h p.2)
theorem Q5r:∀ (row:List (Int×List Int)) (S:List (List Int)) (x:List Int),x∈Qbb4 S row↔x∈S∨∃ p∈row,p.2=x
 | [],S,x=>by simp [Qbb4]
 | p::row,S,x=>by
  show x∈Qbb4 (insL S p.2) row↔_;rw [Q5r row,Qbdp];simp only [List.mem_cons,exists_eq_or_imp];constructor
  ·rintro ((h|h)|h)
   ·exact .inl h
   ·exact .inr (.inl h.symm)
   ·exact .inr (.inr h)
  ·rintro (h|h|h)
   ·exact .inl (.inl h)
   ·exact .inl (.inr h.symm)
   ·exact .inr h
theorem Qbb5 {a:Qa} {onto est l:List Int} {p:Int×List Int}:p∈Qbf1 a onto est l↔p.1∈l∧p.2=Qy2 a onto est p.1∧p.2≠[]:=by
 obtain ⟨x,n⟩:=p;simp only [Qbf1,List.mem_filterMap];constructor
 ·rintro ⟨y,hy,h⟩;split at h
  ·cases h
  ·rename_i hne;cases h;exact ⟨hy,rfl,hne⟩
 ·rintro ⟨h1,h2,h3⟩;refine ⟨x,h1,?_⟩;subst h2;rw [if_neg h3]
structure Ests (a:Qa) (S:List (List Int)):Prop where
 nd:S.Nodup
 ok:∀ s∈S,Sts a s∧s≠[]
theorem Ests.grow {a:Qa} {S:List (List Int)} (h:Ests a S) (onto est l:List Int):Ests a (Qbb4 S (Qbf1 a onto est l)):=by
 refine ⟨Q07 _ h.nd,fun s hs=>?_⟩;rcases (Q5r _ _ _).1 hs with hs|⟨p,hp,rfl⟩
 ·exact h.ok s hs
 ·obtain ⟨_,h2,h3⟩:=Qbb5.1 hp;exact ⟨by rw [h2];exact Q05 _ _ _ _,h3⟩
theorem Qbdq {a:Qa} (h:0<a.zH) (onto:List Int):Qvi a onto≠[]:=by
 unfold Qvi;rw [if_neg (by omega)];intro e;have:(0:Int)∈Qr2 a [0] (Qli a onto):=Qyc.2 ⟨by omega,.base (by simp)⟩;rw [e] at this;simp at this
theorem Ests.first {a:Qa} (h:0<a.zH) (onto:List Int):Ests a [Qvi a onto] :=
 ⟨by simp,fun s hs=>by simp at hs;subst hs;exact ⟨Qye _ _,Qbdq h onto⟩⟩
theorem Sts.lt {a:Qa} (h:Right a) {l:List Int} (hl:Sts a l):∀ x∈l,0≤x∧x<50000:=fun x hx=>by
 have:=hl.rg x hx;have:=h.st;omega
end Go.Abs
end
section
namespace Go.Abs
open Go
end Go.Abs
end
section
namespace Go.Abs
open Go
section
variable {a b:Qa} {φ:Int→Int} (ha:Right a) (hb:Right b) (h:Like a b φ)
include ha hb h
end
end Go.Abs
end
section
namespace Go.Abs
open Go
def Qbg4 (b:Qa) (onto:List Int):Prop:=∀ x∈b.zG,x.Event∉onto→x.To=x.From
section
variable {b:Qa} (hb:Right b) {onto:List Int} (hs:Qbg4 b onto)
include hb hs
end
end Go.Abs
end
section
namespace Go.Abs
open Go
section
variable {b:Qa} (hb:Right b) {onto:List Int} (hs:Qbg4 b onto)
include hb hs
end
end Go.Abs
end
section
namespace Go.Abs
open Go
end Go.Abs
end
section
namespace Go.Abs
open Go
end Go.Abs
end
section
namespace Go.Abs
open Go
set_option maxRecDepth 100000
set_option maxHeartbeats 4000000
theorem Q9j:Qiz=some true:=by kernel_rfl
end Go.Abs
end
section
namespace Go.Abs
open Go
theorem Q8i {l:List Int} {v:Int} (hs:l.Pairwise (· < ·)) (hl:l.length<big):Qf4 l v=some (decide (v∈l)):=by
 unfold Qf4 Qbv;obtain ⟨n,h⟩:=Qbby (v:=v) hs hl;rw [h];rfl
abbrev Lab:=Qb
def bitE (ev:List Qd) (e:Int):Int:=match getO ev e with
 | some x=>if 0<x.Fault then 2 ^ (x.Fault-1).toNat else 0
 | none=>0
def toL (ev:List Qd) (x:Lab) (y:Qf):Lab:=⟨y.To,orI .i64 x.Classes (bitE ev y.Event)⟩
def Qt0 (o:List Lab) (t:Lab):List Lab:=if t∈o then o else o++[t]
def Qps (ev:List Qd) (i:Nat) (x:Lab) (c:List Lab×List Qf) (y:Qf):List Lab×List Qf :=
 (Qt0 c.1 (toL ev x y),c.2++[⟨(i:Int),y.Event,((Qt0 c.1 (toL ev x y)).idxOf (toL ev x y):Int)⟩])
def labs (ev:List Qd) (a:Qa):Nat→List Lab×List Int×List Qf
 | 0=>([⟨0,0⟩],[],[])
 | n+1=>match (labs ev a n).1[n]? with
  | some x=>(((outP a x.State).foldl (Qps ev n x) ((labs ev a n).1,(labs ev a n).2.2)).1,if x.State∈a.zF then (labs ev a n).2.1++[(n:Int)] else (labs ev a n).2.1,((outP a x.State).foldl (Qps ev n x) ((labs ev a n).1,(labs ev a n).2.2)).2)
  | none=>labs ev a n
structure Plt (ev:List Qd) (a:Qa):Prop where
 r:Right a
 st:a.zH≤200
 al:∀ x∈a.zD,x<ev.length
 flt:∀ x∈ev,0≤x.Fault∧x.Fault≤4
 chk:Qfn ev=some 0
 len:ev.length≤32
theorem Qbg5:((List.range 16).all fun c=>(List.range 16).all fun b=>decide (0≤orI .i64 (c:Int) (b:Int)∧orI .i64 (c:Int) (b:Int)<16)&&decide (orI .i64 (c:Int) 0=(c:Int)))=true:=by kernel_rfl
theorem Qbg6 {c b:Int} (hc:0≤c∧c<16) (hb:0≤b∧b<16):(0≤orI .i64 c b∧orI .i64 c b<16)∧orI .i64 c 0=c:=by
 have h:=List.all_eq_true.1 (List.all_eq_true.1 Qbg5 c.toNat (by simp;omega)) b.toNat (by simp;omega);rw [show ((c.toNat:Nat):Int)=c from by omega,show ((b.toNat:Nat):Int)=b from by omega] at h;simpa using h
theorem Qbek {ev:List Qd} {a:Qa} (h:Plt ev a) (e:Int):0≤bitE ev e∧bitE ev e<16:=by
 unfold bitE;cases hx:getO ev e with
 | none=>simp
 | some x =>
  have hm:=h.flt x (List.mem_of_getElem? (Qhw.1 hx).2);dsimp only;split
  ·obtain ⟨h1,h2⟩:=hm;have:x.Fault=1∨x.Fault=2∨x.Fault=3∨x.Fault=4:=by omega
   rcases this with e|e|e|e<;>rw [e]<;>decide
  ·simp
theorem Qxj {o:List Lab} {t x:Lab}:x∈Qt0 o t↔x∈o∨x=t:=by
 unfold Qt0;split
 ·rename_i h;exact ⟨.inl,fun e=>e.elim id fun e=>by rw [e];exact h⟩
 ·simp
theorem Qbb6 (o:List Lab) (t:Lab):o <+: Qt0 o t:=by
 unfold Qt0;split
 ·exact List.prefix_refl o
 ·exact List.prefix_append o _
theorem Qbf2 {o F:List Lab} (h:o <+: F) {t:Lab} (ht:t∈o):F.idxOf t=o.idxOf t:=by
 obtain ⟨r,rfl⟩:=h;rw [List.idxOf_append,if_pos ht]
structure LbI (a:Qa) (S:List Lab):Prop where
 nd:S.Nodup
 ok:∀ x∈S,(0≤x.State∧x.State<a.zH)∧0≤x.Classes∧x.Classes<16
theorem LbI.len {a:Qa} {S:List Lab} (h:LbI a S):S.length≤16*a.zH.toNat:=by
 have hn:(S.map fun x=>x.State*16+x.Classes).Nodup:=by
  refine List.pairwise_map.2 ((List.Pairwise.and_mem.1 h.nd).imp fun {x y} ⟨hx,hy,hne⟩ e=>hne ?_);obtain ⟨p1,p2⟩:=h.ok x hx;obtain ⟨q1,q2⟩:=h.ok y hy;obtain ⟨s,c⟩:=x;obtain ⟨s',c'⟩:=y;simp only [Qb.mk.injEq];dsimp only at *
  omega
 have:=Q5p (N:=16*a.zH.toNat) hn (fun x hx=>by
  obtain ⟨y,hy,rfl⟩:=List.mem_map.1 hx;obtain ⟨p1,p2⟩:=h.ok y hy;omega)
 simpa using this
theorem LbI.add {a:Qa} {S:List Lab} (h:LbI a S) {t:Lab} (ht:(0≤t.State∧t.State<a.zH)∧0≤t.Classes∧t.Classes<16):LbI a (Qt0 S t):=by
 refine ⟨?_,fun x hx=>(Qxj.1 hx).elim (h.ok x) (fun e=>by rw [e];exact ht)⟩;unfold Qt0;split
 ·exact h.nd
 ·rename_i hn;rw [List.nodup_append];exact ⟨h.nd,by simp,fun x hx y hy e=>by simp at hy;subst hy;subst e;exact hn hx⟩
theorem LbI.to {ev:List Qd} {a:Qa} (hp:Plt ev a) {S:List Lab} (h:LbI a S) {x:Lab} (hx:x∈S) {y:Qf} (hy:y∈a.zG):(0≤(toL ev x y).State∧(toL ev x y).State<a.zH)∧0≤(toL ev x y).Classes∧(toL ev x y).Classes<16:=by
 have he:=hp.r.ed0 y hy;exact ⟨⟨he.2.2.1,he.2.2.2.1⟩,(Qbg6 (h.ok x hx).2 (Qbek hp y.Event)).1⟩
theorem Qzd {ev:List Qd} {i:Nat} {x:Lab}:∀ (ys:List Qf) (c:List Lab×List Qf),c.1 <+: (ys.foldl (Qps ev i x) c).1
 | [],c=>List.prefix_refl _
 | y::ys,c=>(Qbb6 c.1 (toL ev x y)).trans (Qzd ys (Qps ev i x c y))
theorem Q8j {ev:List Qd} {i:Nat} {x:Lab}:∀ (ys:List Qf) (c:List Lab×List Qf),∀ y∈ys,toL ev x y∈(ys.foldl (Qps ev i x) c).1
 | [],c,y,hy=>by cases hy
 | z::ys,c,y,hy=>by
  rcases List.mem_cons.1 hy with rfl|hy
  ·exact (Qzd ys (Qps ev i x c y)).subset (Qxj.2 (.inr rfl))
  ·exact Q8j ys _ y hy
theorem Q8k {ev:List Qd} {i:Nat} {x:Lab}:∀ (ys:List Qf) (c:List Lab×List Qf),
  (ys.foldl (Qps ev i x) c).2=c.2++ys.map fun y=>⟨(i:Int),y.Event,((ys.foldl (Qps ev i x) c).1.idxOf (toL ev x y):Int)⟩
 | [],c=>by simp
 | y::ys,c=>by
  rw [List.foldl_cons,Q8k ys,List.map_cons];have h1:((ys.foldl (Qps ev i x) (Qps ev i x c y)).1.idxOf (toL ev x y))=(Qt0 c.1 (toL ev x y)).idxOf (toL ev x y):=Qbf2 (Qzd ys (Qps ev i x c y)) (Qxj.2 (.inr rfl));rw [h1];simp [Qps]
theorem Q8l {ev:List Qd} {a:Qa} (hp:Plt ev a) {i:Nat} {x:Lab}:∀ (ys:List Qf) (c:List Lab×List Qf),LbI a c.1→x∈c.1→(∀ y∈ys,y∈a.zG)→LbI a (ys.foldl (Qps ev i x) c).1
 | [],c,h,_,_=>h
 | y::ys,c,h,hx,hy=>Q8l hp ys _ (h.add (h.to hp hx (hy y (by simp)))) (Qxj.2 (.inl hx)) (fun z hz=>hy z (by simp [hz]))
section
variable {ev:List Qd} {a:Qa}
theorem Q5s (n:Nat):(labs ev a n).1 <+: (labs ev a (n+1)).1:=by
 show _ <+: (match (labs ev a n).1[n]? with|some x=>_|none=>_:List Lab×List Int×List Qf).1;split
 ·dsimp only;exact Qzd (outP a _) ((labs ev a n).1,(labs ev a n).2.2)
 ·exact List.prefix_refl _
theorem Qze (hp:Plt ev a) (h0:0<a.zH):∀ n,LbI a (labs ev a n).1
 | 0=>⟨by simp [labs],fun x hx=>by simp [labs] at hx;subst hx;simp;omega⟩
 | n+1=>by
  have ih:=Qze hp h0 n;show LbI a (match (labs ev a n).1[n]? with|some x=>_|none=>_:List Lab×List Int×List Qf).1;split
  ·rename_i x hx;exact Q8l hp _ _ ih (List.mem_of_getElem? hx) (fun y hy=>(List.mem_filter.1 hy).1)
  ·exact ih
theorem Qxk (hp:Plt ev a) (h0:0<a.zH) (n:Nat):(labs ev a n).1.length≤3200:=by
 have:=(Qze hp h0 n).len;have:=hp.st;omega
def LabN (ev:List Qd) (a:Qa) (N:Nat):Prop:=(labs ev a N).1.length=N∧∀ n<N,n<(labs ev a n).1.length
theorem Qbf3 (hp:Plt ev a) (h0:0<a.zH):∃ N,LabN ev a N:=by
 have key:∀ m,(labs ev a m).1.length≤m→∃ N,LabN ev a N:=by
  intro m
  induction m using Nat.strongRecOn with
  | ind m ih =>
   intro h1;by_cases hex:∃ n,n<m∧(labs ev a n).1.length≤n
   ·obtain ⟨n,hn,h⟩:=hex;exact ih n hn h
   ·have hlt:∀ n<m,n<(labs ev a n).1.length:=fun n hn=>by
     rcases Nat.lt_or_ge n (labs ev a n).1.length with h|h
     ·exact h
     ·exact absurd ⟨n,hn,h⟩ hex
    refine ⟨m,?_,hlt⟩;cases m with
    | zero=>simp [labs] at h1
    | succ k =>
     have:=hlt k (by omega);have:=(Q5s (ev:=ev) (a:=a) k).length_le;omega
 exact key 3200 (Qxk hp h0 _)
theorem LabN.le (hp:Plt ev a) (h0:0<a.zH) {N:Nat} (h:LabN ev a N):N≤3200:=by have:=Qxk hp h0 N;have:=h.1;omega
def labA (ev:List Qd) (a:Qa) (N:Nat):Qa:=⟨a.zD,(N:Int),(labs ev a N).2.1,(labs ev a N).2.2⟩
theorem Q3p {n:Nat} (h:n<(labs ev a n).1.length):∃ x,(labs ev a n).1[n]? = some x∧labs ev a (n+1)=(((outP a x.State).foldl (Qps ev n x) ((labs ev a n).1,(labs ev a n).2.2)).1,if x.State∈a.zF then (labs ev a n).2.1++[(n:Int)] else (labs ev a n).2.1,((outP a x.State).foldl (Qps ev n x) ((labs ev a n).1,(labs ev a n).2.2)).2):=by
 refine ⟨_,List.getElem?_eq_getElem h,?_⟩;show (match (labs ev a n).1[n]? with|some x=>_|none=>_:List Lab×List Int×List Qf)=_;rw [List.getElem?_eq_getElem h]
theorem Q8m (h:Right a) (s:Int):(outP a s).Pairwise fun x y=>x.Event<y.Event:=by
 have h1:(outP a s).Pairwise Qmf:=h.ed.filter _;refine (List.Pairwise.and_mem.1 h1).imp fun {x y} ⟨hx,hy,hk⟩=>?_;have e1:x.From=s:=by simpa using (List.mem_filter.1 hx).2
 have e2:y.From=s:=by simpa using (List.mem_filter.1 hy).2
 unfold Qmf at hk;omega
structure LabI (ev:List Qd) (a:Qa) (n:Nat):Prop where
 mr:∀ x∈(labs ev a n).2.1,0≤x∧x<n
 ms:(labs ev a n).2.1.Pairwise (· < ·)
 er:∀ x∈(labs ev a n).2.2,0≤x.From∧x.From<n∧0≤x.To∧x.To<((labs ev a n).1.length:Nat)∧x.Event∈a.zD
 es:(labs ev a n).2.2.Pairwise Qmf
 el:(labs ev a n).2.2.length≤32*n
theorem Q6y (h:Right a) (s:Int):(outP a s).length≤32:=by
 have h1:=Q8m h s;have h2:((outP a s).map (·.Event)).Pairwise (· < ·):=List.pairwise_map.2 h1;have:=Qf2 (a:=0) (b:=32) h2 fun x hx=>by
  obtain ⟨y,hy,rfl⟩:=List.mem_map.1 hx;exact h.al0 _ (h.ed0 y ((List.mem_filter.1 hy).1)).2.2.2.2
 simpa using this
theorem labI (hp:Plt ev a):∀ n,n≤(labs ev a n).1.length→(∀ m<n,m<(labs ev a m).1.length)→LabI ev a n
 | 0,_,_=>⟨by simp [labs],by simp [labs],by simp [labs],by simp [labs],by simp [labs]⟩
 | n+1,_,hlt=>by
  have hn:=hlt n (by omega);have ih:=labI hp n (by omega) (fun m hm=>hlt m (by omega));obtain ⟨x,hx,e⟩:=Q3p hn;have hpre:=Q5s (ev:=ev) (a:=a) n;have hle:=hpre.length_le;have hE:(labs ev a (n+1)).2.2=(labs ev a n).2.2++(outP a x.State).map fun y=>⟨(n:Int),y.Event,((labs ev a (n+1)).1.idxOf (toL ev x y):Int)⟩:=by
   rw [e];exact Q8k _ _
  have hM:(labs ev a (n+1)).2.1=if x.State∈a.zF then (labs ev a n).2.1++[(n:Int)] else (labs ev a n).2.1:=by rw [e]
  have hmem:∀ y∈outP a x.State,toL ev x y∈(labs ev a (n+1)).1:=by rw [e];exact Q8j _ _
  refine ⟨?_,?_,?_,?_,?_⟩
  ·intro z hz;rw [hM] at hz;have:z∈(labs ev a n).2.1∨z=(n:Int):=by split at hz<;>simp_all
   rcases this with h|h
   ·have:=ih.mr z h;omega
   ·omega
  ·rw [hM];split
   ·rw [List.pairwise_append];refine ⟨ih.ms,by simp,fun p hp q hq=>?_⟩;have:=ih.mr p hp;simp at hq;omega
   ·exact ih.ms
  ·intro z hz;rw [hE] at hz;rcases List.mem_append.1 hz with h|h
   ·have:=ih.er z h;exact ⟨this.1,by omega,this.2.2.1,by omega,this.2.2.2.2⟩
   ·obtain ⟨y,hy,rfl⟩:=List.mem_map.1 h;have hi:=List.idxOf_lt_length_iff.2 (hmem y hy);exact ⟨by simp,by simp;omega,by simp,by simp;exact hi,(hp.r.ed0 y ((List.mem_filter.1 hy).1)).2.2.2.2⟩
  ·rw [hE,List.pairwise_append];refine ⟨ih.es,List.pairwise_map.2 ((Q8m hp.r _).imp fun h=>.inr ⟨rfl,h⟩),fun p hp' q hq=>?_⟩;obtain ⟨y,hy,rfl⟩:=List.mem_map.1 hq;have:=ih.er p hp';exact .inl this.2.1
  ·rw [hE,List.length_append,List.length_map];have:=ih.el;have:=Q6y hp.r x.State;omega
theorem LabN.labI (hp:Plt ev a) {N:Nat} (h:LabN ev a N):LabI ev a N:=Go.Abs.labI hp N (by have:=h.1;omega) h.2
theorem Q9k (hp:Plt ev a) (h0:0<a.zH) {N:Nat} (h:LabN ev a N):Right (labA ev a N):=by
 have hi:=h.labI hp;have hl:=h.le hp h0;have he:=hi.er;rw [h.1] at he;exact ⟨hp.r.al0,hp.r.al,⟨by simp [labA],by simp [labA];omega⟩,hi.mr,hi.ms,he,hi.es⟩
end
end Go.Abs
end
section
namespace Go.Abs
open Go
variable {ev:List Qd} {a:Qa}
theorem Q08 (hp:Plt ev a):Qf1 ev a=some 0:=by
 unfold Qf1 Qbf;rw [hp.chk];simp only [Option.bind_some,show ((0:Int) != 0)=false from rfl,Bool.false_eq_true,if_false];rw [Q6s hp.r];simp only [Option.bind_some,show ((0:Int) != 0)=false from rfl,Bool.false_eq_true,if_false];have hl:=hp.r.small.2.1;by_cases h0:a.zD.length=0
 ·rw [if_neg (by omega)];rfl
 ·rw [if_pos (by omega),Q0y (by omega) (by omega),Qbp (by omega)];have:=hp.al (a.zD[a.zD.length-1]'(by omega)) (List.getElem_mem _);simp only [Option.bind_some];rw [decide_eq_false (by omega)]
  rfl
structure KB2 (S:List Lab) (c:List (Lab×Int)):Prop where
 has:∀ t,hasM c t=decide (t∈S)
 get:∀ t∈S,getM c t 0=(S.idxOf t:Int)
theorem KB2.first (t:Lab):KB2 [t] (setM ([]:List (Lab×Int)) t 0):=by
 refine ⟨fun m=>?_,fun m hm=>?_⟩
 ·rw [Qxg];have:hasM ([]:List (Lab×Int)) m=false:=rfl;rw [this,Bool.or_false];simp
 ·rw [List.mem_singleton] at hm;subst hm;rw [Qxh,if_pos rfl];simp
theorem KB2.add {S:List Lab} {c:List (Lab×Int)} (h:KB2 S c) {t:Lab} (hm:t∉S):KB2 (S++[t]) (setM c t (S.length:Int)):=by
 refine ⟨fun m=>?_,fun m hm'=>?_⟩
 ·rw [Qxg,h.has m,← Bool.decide_or];apply decide_eq_decide.2;rw [List.mem_append,List.mem_singleton];exact or_comm
 ·rw [Qxh];rw [List.mem_append,List.mem_singleton] at hm';rcases hm' with hm'|rfl
  ·rw [if_neg (fun e=>hm (by rw [← e];exact hm')),h.get m hm',List.idxOf_append,if_pos hm']
  ·rw [if_pos rfl,List.idxOf_append,if_neg hm];simp
theorem Qbb7 (hp:Plt ev a) {y:Qf} (hy:y∈a.zG):Qix ev y.Event=some (bitE ev y.Event):=by
 have he:=(hp.r.ed0 y hy).2.2.2.2;have h1:=hp.al _ he;have h2:=hp.r.al0 _ he;unfold Qix Qeh bitE;cases hx:getO ev y.Event with
 | none =>
  exfalso;have:getO ev ((y.Event.toNat:Nat):Int)=some ev[y.Event.toNat]:=Qbp (by omega);rw [show ((y.Event.toNat:Nat):Int)=y.Event from by omega,hx] at this;cases this
 | some x =>
  have hm:=hp.flt x (List.mem_of_getElem? (Qhw.1 hx).2);simp only [Option.bind_some];by_cases hf:x.Fault>0
  ·rw [if_pos hf,if_pos (by omega)];have:x.Fault=1∨x.Fault=2∨x.Fault=3∨x.Fault=4:=by omega
   rcases this with e|e|e|e<;>rw [e]<;>rfl
  ·rw [if_neg hf,if_neg (by omega)]
theorem Q2p (h:Right a) {fuel:Nat} (hfu:1099511627776≤fuel):(Qcd (fun k12 ((x10,c11):Int×(List (List Qf)))=>(if (x10<(a.zG.length:Int)) then ((getO a.zG x10).bind fun x14=>((inO (Int.toNat a.zH) x14.From).bind fun u16=>((getO c11 x14.From).bind fun x18=>((appO x18 [x14]).bind fun x20=>((inO (Int.toNat a.zH) x14.From).bind fun u22=>((setO c11 x14.From x20).bind fun x24=>k12 ((IntKind.wrap .i64 (x10+1)),x24))))))) else some c11)) fuel (0,List.replicate a.zH.toNat []))=some (Qy1 a):=by
 have hs:=h.small;have hst:=h.st;refine (Qfr (len:=a.zG.length) (fun n (c:List (List Qf))=>((n:Int),c)) (fun n c=>c.length=a.zH.toNat∧∀ s:Nat,s<a.zH.toNat→c[s]? = some ((a.zG.take n).filter fun x=>x.From==(s:Int))) (fun n c=>some (Qy1 a)) ?_ ?_ fuel 0 _ (Nat.zero_le _) (by omega) ⟨by simp,fun s hs=>by simp [hs]⟩)
 ·intro k n c hn ⟨i1,i2⟩ ih;have he:=h.ed0 _ (List.getElem_mem hn);dsimp only;rw [if_pos (by omega),Qbp hn];simp only [Option.bind_some];have hin:inO (Int.toNat a.zH) a.zG[n].From=some ():=by unfold inO;rw [if_pos ⟨he.1,by omega⟩]
  have hto:((a.zG[n].From.toNat:Nat):Int)=a.zG[n].From:=by omega
  have hg:getO c a.zG[n].From=some ((a.zG.take n).filter fun x=>x.From==a.zG[n].From):=by
   rw [Qhw];refine ⟨he.1,?_⟩;rw [i2 _ (by omega),hto]
  have hfl:((a.zG.take n).filter fun x=>x.From==a.zG[n].From).length≤a.zG.length:=Nat.le_trans (List.length_filter_le _ _) (by rw [List.length_take];omega);rw [hin,hg];simp only [Option.bind_some];rw [Qb1 (by simp only [List.length_cons,List.length_nil];unfold lim;omega)];simp only [Option.bind_some];unfold setO;rw [if_pos ⟨he.1,by omega⟩,Q9 (by omega)];simp only [Option.bind_some];refine ih _ ⟨by simp [i1],fun s hs=>?_⟩;rw [List.getElem?_set,List.take_succ_eq_append_getElem hn,List.filter_append];split
  ·rename_i hss;subst hss;rw [if_pos (by omega),hto];simp
  ·rename_i hss;have:¬ a.zG[n].From=(s:Int):=by omega
   rw [i2 s hs];simp [this]
 ·intro k c ⟨i1,i2⟩;dsimp only;rw [if_neg (by omega)];congr 1;refine List.ext_getElem? fun s=>?_;by_cases hs:s<a.zH.toNat
  ·rw [i2 s hs,Q04 a hs,List.take_length];rfl
  ·rw [List.getElem?_eq_none (by omega),List.getElem?_eq_none (by rw [Qtz];omega)]
theorem getB {S:List Lab} {n:Nat} {x:Lab} (h:S[n]? = some x):getO S (n:Int)=some x:=by rw [Qhw];exact ⟨by omega,by simpa using h⟩
theorem Qbdr (hp:Plt ev a) (h0:0<a.zH) {N:Nat} (hN:LabN ev a N):Qdn ev a=some (labA ev a N,(labs ev a N).1,0):=by
 have hs:=hp.r.small;have hst:=hp.r.st;have hNl:=hN.le hp h0;unfold Qdn Qbc;obtain ⟨fuel,hfu,hge⟩ : ∃ f,Qbd=f∧1099511627776≤f:=⟨_,rfl,Nat.le_refl _⟩;rw [hfu,Q08 hp];simp only [Option.bind_some,show ((0:Int) != 0)=false from rfl,Bool.false_eq_true,if_false];rw [Q8b (by unfold lim;omega)];refine Qem rfl ?_;refine Qem (x:=List.replicate a.zH.toNat []) (by unfold mkO;rw [if_pos ⟨hst.1,by unfold lim;omega⟩]) ?_;refine Qem (Q2p hp.r hge) ?_;rw [if_pos (by omega),Qb1 (by simp [lim])];simp only [Option.bind_some,List.nil_append];refine Qd0 (fun x=>∃ (n:Nat) (c:List (Lab×Int)),n≤N∧KB2 (labs ev a n).1 c∧x=((labs ev a n).1,(n:Int),[],[],[],(labs ev a n).2.1,(labs ev a n).2.2,c)) (fun x=>N-x.2.1.toNat) (fun x r=>r=some (labA ev a N,(labs ev a N).1,0)) ?_ fuel _ ⟨0,_,Nat.zero_le _,.first _,rfl⟩ (by simp only [Int.toNat_zero];omega);rintro k _ ⟨n,c,hn,hK,rfl⟩ ih;dsimp only;by_cases hlt:n<N
 ·have hnl:=hN.2 n hlt;have hI:=labI hp n (by omega) (fun m hm=>hN.2 m (by omega));have hB:=Qze hp h0 n;obtain ⟨x,hx,e⟩:=Q3p hnl;have hxm:=List.mem_of_getElem? hx;have hxs:=(hB.ok x hxm).1;have hll:=Qxk hp h0 n;have hll':=Qxk hp h0 (n+1);have hml:(labs ev a n).2.1.length≤n:=by have:=Qf2 hI.ms hI.mr;simpa using this
  have hel:=hI.el;rw [if_pos (by omega),getB hx];simp only [Option.bind_some];rw [Q8i hp.r.ma hs.1.2.1];simp only [Option.bind_some];refine Qem (x:=(labs ev a (n+1)).2.1) ?_ ?_
  ·rw [e];by_cases hm:x.State∈a.zF
   ·rw [decide_eq_true hm,if_pos rfl,if_pos hm,Qb1 (by simp only [List.length_cons,List.length_nil];unfold lim;omega)]
    rfl
   ·rw [decide_eq_false hm,if_neg (by simp),if_neg hm]
  have hin:inO (Int.toNat a.zH) x.State=some ():=by unfold inO;rw [if_pos ⟨hxs.1,by omega⟩]
  rw [hin,Q3n hxs];simp only [Option.bind_some];have hof:=Q6y hp.r x.State;have hoe:∀ y∈outP a x.State,y∈a.zG:=fun y hy=>(List.mem_filter.1 hy).1;generalize hO:outP a x.State=O at e hof hoe ⊢;refine Qd0 (fun z=>∃ (m:Nat) (S:List Lab) (r:List Qf) (c:List (Lab×Int)),z=(S,(m:Int),r,c)∧m≤O.length∧S[n]? = some x∧LbI a S∧r.length≤32*n+m∧KB2 S c ∧
   (O.drop m).foldl (Qps ev n x) (S,r)=((labs ev a (n+1)).1,(labs ev a (n+1)).2.2)) (fun z=>O.length-z.2.1.toNat) (fun z r=>r=some (labA ev a N,(labs ev a N).1,0)) ?_ fuel _ ⟨0,_,_,c,rfl,Nat.zero_le _,hx,hB,by omega,hK,by rw [e];rfl⟩ (by simp only [Int.toNat_zero];omega)
  rintro k' _ ⟨m,S,r,c,rfl,hm,hgs,hBS,hrl,hKS,hf⟩ ih';dsimp only;by_cases hlm:m<O.length
  ·have hye:=hoe _ (List.getElem_mem hlm);rw [if_pos (by omega),Qbp hlm,getB hgs];rw [List.drop_eq_getElem_cons hlm] at hf;generalize O[m]=y at hye hf ⊢;simp only [Option.bind_some];rw [Qbb7 hp hye];simp only [Option.bind_some];simp only [letJ];have ht:(Qb.mk y.To (orI .i64 x.Classes (bitE ev y.Event)))=toL ev x y:=rfl;rw [ht,hKS.has];have hSl:=hBS.len;have hst2:=hp.st;have htl:=hBS.to hp (List.mem_of_getElem? hgs) hye;by_cases hin:toL ev x y∈S
   ·have hi:Qt0 S (toL ev x y)=S:=by unfold Qt0;rw [if_pos hin]
    rw [decide_eq_true hin,if_pos rfl];rw [hKS.get _ hin,Qb1 (by simp only [List.length_cons,List.length_nil];unfold lim;omega)];simp only [Option.bind_some];rw [Q9 (by omega)];refine ih' _ ⟨m+1,S,_,c,rfl,by omega,hgs,hBS,by rw [List.length_append];simp only [List.length_cons,List.length_nil];omega,hKS,?_⟩ (by simp only;omega);rw [List.foldl_cons] at hf;rw [← hf];unfold Qps;rw [hi]
   ·have hi:Qt0 S (toL ev x y)=S++[toL ev x y]:=by unfold Qt0;rw [if_neg hin]
    rw [decide_eq_false hin,if_neg (by simp),if_neg (by simp;omega),Qb1 (by simp only [List.length_cons,List.length_nil];unfold lim;omega)];simp only [Option.bind_some];have hK2:=hKS.add hin;rw [hK2.get _ (by simp),Qb1 (by simp only [List.length_cons,List.length_nil];unfold lim;omega)];simp only [Option.bind_some];rw [Q9 (by omega)];have hBi:=hBS.add htl;rw [hi] at hBi;refine ih' _ ⟨m+1,S++[toL ev x y],_,_,rfl,by omega,by rw [List.getElem?_append_left (List.getElem?_eq_some_iff.1 hgs).1];exact hgs,hBi,by rw [List.length_append];simp only [List.length_cons,List.length_nil];omega,hK2,?_⟩ (by simp only;omega);rw [List.foldl_cons] at hf;rw [← hf];unfold Qps;rw [hi]
  ·rw [if_neg (by omega)];have hd:O.drop m=[]:=List.drop_eq_nil_of_le (by omega);rw [hd,List.foldl_nil,Prod.mk.injEq] at hf;obtain ⟨rfl,rfl⟩:=hf;rw [Q9 (by omega)];exact ih _ ⟨n+1,c,by omega,hKS,rfl⟩ (by simp only;omega)
 ·obtain rfl:n=N:=by omega
  rw [if_neg (by have:=hN.1;omega),hN.1]
  rfl
theorem Q9l (hp:Plt ev a) (h0:a.zH=0):Qdn ev a=some (⟨a.zD,0,[],[]⟩,[],0):=by
 have hs:=hp.r.small;unfold Qdn Qbc;obtain ⟨fuel,hfu,hge⟩ : ∃ f,Qbd=f∧1099511627776≤f:=⟨_,rfl,Nat.le_refl _⟩;rw [hfu,Q08 hp];simp only [Option.bind_some,show ((0:Int) != 0)=false from rfl,Bool.false_eq_true,if_false];rw [Q8b (by unfold lim;omega)];refine Qem rfl ?_;refine Qem (x:=List.replicate a.zH.toNat []) (by unfold mkO;rw [if_pos ⟨by omega,by unfold lim;omega⟩]) ?_;refine Qem (Q2p hp.r hge) ?_;rw [if_neg (by omega)];obtain ⟨f,rfl⟩ : ∃ f,fuel=f+1:=⟨fuel-1,by omega⟩
 rfl
end Go.Abs
end
section
namespace Go.Abs
open Go
structure Proj (a:Qa) (onto:List Int) (S:List (List Int)):Prop where
 es:Ests a S
 first:S[0]? = some (Qvi a onto)
 cl:∀ s∈S,∀ e∈Qty a onto,Qy2 a onto s e≠[]→Qy2 a onto s e∈S
 form:∀ s∈S,∃ fr,(∀ t∈fr,0≤t∧t<a.zH)∧s=Qr2 a fr (Qli a onto)
section
variable {a:Qa} {onto:List Int} {S:List (List Int)}
variable (h:Right a) (hP:Proj a onto S)
include h hP
end
end Go.Abs
end
section
namespace Go.Abs
open Go
theorem Qbb8 {s:ByteArray} (hs:s.size<big):∃ b,Qfz s=some b:=by
 have hb:s.size<1000000000000:=hs;unfold Qfz Qd8;refine Qd0 (fun x=>∃ n:Nat,x=(n:Int)∧n≤s.size) (fun x=>s.size-x.toNat) (fun x r=>∃ b,r=some b) ?_ Qbd _ ⟨0,rfl,Nat.zero_le _⟩ (by unfold Qbd;omega);rintro k _ ⟨n,rfl,hn⟩ ih;by_cases hlt:n<s.size
 ·rw [if_pos (by omega)];have hc:∃ c,chrO s (n:Int)=some c:=by unfold chrO;rw [dif_pos ⟨by omega,by omega⟩];exact ⟨_,rfl⟩
  obtain ⟨c,hc⟩:=hc;rw [hc];simp only [Option.bind_some];have key:∀ (o:Option Bool) (K:Bool→Option Bool),(∃ x,o=some x)→(∀ x,∃ y,K x=some y)→∃ y,o.bind K=some y:=fun o K ⟨x,h⟩ h2=>by rw [h];exact h2 x
  refine key _ _ ?_ fun letter=>key _ _ ?_ fun z=>?_
  ·repeat' split
   all_goals exact ⟨_,rfl⟩
  ·repeat' split
   all_goals exact ⟨_,rfl⟩
  ·split
   ·exact ⟨_,rfl⟩
   ·rw [Q9 (by omega)];exact ih _ ⟨n+1,rfl,by omega⟩ (by simp only [Int.toNat_natCast];omega)
 ·rw [if_neg (by omega)];split<;>exact ⟨_,rfl⟩
def Q1f (s:ByteArray):Bool:=decide (Qfz s=some true)
theorem Qbb9 {s:ByteArray} (hs:s.size<big):Qfz s=some (Q1f s):=by
 obtain ⟨b,h⟩:=Qbb8 hs;unfold Q1f;rw [h];cases b<;>simp
def Q1g (k:ByteArray) (seen:List ByteArray):Bool:=seen.any fun z=>decide (k=z)
def Qt1:List ByteArray→List Qd→Int
 | _,[]=>0
 | seen,x::l=>if Q1f x.Name=false then 7 else if Q1g x.Name seen=true then 8 else if x.Fault<0∨x.Fault>4 then 2 else if x.Fault≠0∧(x.Controllable=true∨x.Observable=true) then 13 else Qt1 (x.Name::seen) l
def Q9m (ev:List Qd):Int:=if 32<ev.length then 3 else Qt1 [] ev
theorem Q9n {ev:List Qd} (hl:ev.length<big) (hn:∀ x∈ev,x.Name.size<big):Qfn ev=some (Q9m ev):=by
 have hb:ev.length<1000000000000:=hl;unfold Qfn Qcg Q9m;by_cases h32:32<ev.length
 ·rw [if_pos (by omega),if_pos h32]
 rw [if_neg (by omega),if_neg h32];refine Qd0 (fun x=>∃ (n:Nat) (c:List (ByteArray×Bool)) (seen:List ByteArray),x=((n:Int),c)∧n≤ev.length∧(∀ k,getM c k false=Q1g k seen)∧Qt1 seen (ev.drop n)=Qt1 [] ev) (fun x=>ev.length-x.1.toNat) (fun x r=>r=some (Qt1 [] ev)) ?_ Qbd _ ⟨0,[],[],rfl,Nat.zero_le _,fun k=>rfl,by simp⟩ (by simp only [Int.toNat_zero];unfold Qbd;omega);rintro k _ ⟨n,c,seen,rfl,hle,hc,he⟩ ih;dsimp only;by_cases hlt:n<ev.length
 ·rw [if_pos (by omega),Qbp hlt];have hx:=hn _ (List.getElem_mem hlt);rw [List.drop_eq_getElem_cons hlt] at he;generalize ev[n]=x at hx he ⊢;simp only [Option.bind_some];rw [Qbb9 hx];simp only [Option.bind_some];simp only [Qt1] at he;by_cases h1:Q1f x.Name=false
  ·rw [if_pos h1] at he;rw [h1,if_neg (by simp),he]
  ·rw [if_neg h1] at he;rw [Bool.not_eq_false] at h1;rw [h1,if_pos rfl,hc];by_cases h2:Q1g x.Name seen=true
   ·rw [if_pos h2] at he;rw [if_pos h2,he]
   ·rw [if_neg h2] at he;rw [if_neg h2];have e3:(if x.Fault<0 then some true else some (decide (x.Fault>4)))=some (decide (x.Fault<0∨x.Fault>4)):=by
     by_cases h:x.Fault<0<;>simp [h]
    rw [e3];simp only [Option.bind_some];by_cases h3:x.Fault<0∨x.Fault>4
    ·rw [if_pos h3] at he;rw [decide_eq_true h3,if_pos rfl,he]
    ·rw [if_neg h3] at he;rw [decide_eq_false h3,if_neg (by simp)];have e4:(if x.Fault != 0 then (if x.Controllable then some true else some x.Observable) else some false)=some (decide (x.Fault≠0∧(x.Controllable=true∨x.Observable=true))):=by
      by_cases h:x.Fault=0<;>cases x.Controllable<;>cases x.Observable<;>simp [h]
     rw [e4];simp only [Option.bind_some];by_cases h4:x.Fault≠0∧(x.Controllable=true∨x.Observable=true)
     ·rw [if_pos h4] at he;rw [decide_eq_true h4,if_pos rfl,he]
     ·rw [if_neg h4] at he;rw [decide_eq_false h4,if_neg (by simp),Q9 (by omega)];exact ih _ ⟨n+1,_,_,rfl,by omega,fun k=>by rw [Qxi,hc];by_cases h:k=x.Name<;>simp [h,Q1g],he⟩ (by simp only [Int.toNat_natCast];omega)
 ·rw [if_neg (by omega)];have:ev.drop n=[]:=List.drop_eq_nil_of_le (by omega);rw [this] at he;rw [← he];rfl
theorem Q2q:∀ {l:List Qd} {seen:List ByteArray},Qt1 seen l=0→∀ x∈l,0≤x.Fault∧x.Fault≤4
 | [],_,_,x,hx=>by cases hx
 | y::l,seen,h,x,hx=>by
  simp only [Qt1] at h;split at h
  ·omega
  split at h
  ·omega
  split at h
  ·omega
  rename_i h3;split at h
  ·omega
  rcases List.mem_cons.1 hx with rfl|hx
  ·omega
  ·exact Q2q h x hx
theorem Qbg7 {ev:List Qd} {a:Qa} (hl:ev.length<big) (hn:∀ x∈ev,x.Name.size<big) (he:Q9m ev=0) (hr:Right a) (hst:a.zH≤200) (hal:∀ x∈a.zD,x<ev.length):Plt ev a:=by
 have h:=he;unfold Q9m at h;split at h
 ·omega
 exact ⟨hr,hst,hal,Q2q h,by rw [Q9n hl hn,he],by omega⟩
def obsE (ev:List Qd):List Int:=(upto ev.length).filter fun i=>match getO ev i with|some x=>x.Observable|none=>false
theorem Qxl {ev:List Qd} (h:ev.length≤32):EvSet (obsE ev):=by
 refine ⟨fun x hx=>?_,(Q5j _).filter _⟩;have:=Q8c.1 (List.mem_filter.1 hx).1;omega
def selF (p:Qd→Bool) (ev:List Qd) (n:Nat):List Int:=((upto ev.length).drop n).filter fun i=>match getO ev i with|some x=>p x|none=>false
theorem Qbca {p:Qd→Bool} {ev:List Qd} {n:Nat} (h:n<ev.length):selF p ev n=(if p ev[n] then [(n:Int)] else [])++selF p ev (n+1):=by
 unfold selF;rw [List.drop_eq_getElem_cons (by rw [Qzc];simpa using h),Qbdl (n:=(ev.length:Int)) (by simpa using h),List.filter_cons,Qbp h];dsimp only;by_cases h:p ev[n]=true<;>simp [h]
theorem Q8n {p:Qd→Bool} {ev:List Qd} (hl:ev.length<big) {fuel:Nat} (hf:ev.length<fuel) {F:(List Int×Int→Option (List Int))→List Int×Int→Option (List Int)}
  (hF:∀ (k:List Int×Int→Option (List Int)) (acc:List Int) (n:Nat) (h:n<ev.length),acc.length≤n→F k (acc,(n:Int))=k (if p ev[n] then acc++[(n:Int)] else acc,IntKind.wrap .i64 ((n:Int)+1)))
  (hlast:∀ (k:List Int×Int→Option (List Int)) (acc:List Int),F k (acc,(ev.length:Int))=some acc):Qcd F fuel ([],0)=some (selF p ev 0):=by
 have hb:ev.length<1000000000000:=hl;refine (Qfr (len:=ev.length) (fun n (acc:List Int)=>(acc,(n:Int))) (fun n acc=>acc.length≤n) (fun n acc=>some (acc++selF p ev n)) ?_ ?_ fuel 0 [] (Nat.zero_le _) (by omega) (Nat.le_refl _)).trans (by simp)
 ·intro k n acc hn hi ih;rw [hF k acc n hn hi,Q9 (by omega),ih _ (by by_cases h:p ev[n]=true<;>simp [h]<;>omega),Qbca hn];by_cases h:p ev[n]=true<;>simp [h]
 ·intro k acc _;have:selF p ev ev.length=[]:=by unfold selF;rw [List.drop_eq_nil_of_le (by rw [Qzc];simp)];rfl
  rw [hlast,this];simp
theorem Qbcb {p:Qd→Bool} {ev:List Qd} (hl:ev.length<big) {f:Qd→Option Bool} (hf:∀ x,f x=some (p x)):Qi9 ev f=some (selF p ev 0):=by
 have hb:ev.length<1000000000000:=hl;unfold Qi9 Qd9;refine Qem (Q8n (p:=p) hl (by unfold Qbd;omega) ?_ ?_) rfl
 ·intro k acc n hn hacc;dsimp only;rw [if_pos (by omega),Qbp hn];simp only [Option.bind_some,hf];cases p ev[n]
  ·rfl
  ·rw [if_pos rfl,Qb1 (by simp only [List.length_cons,List.length_nil];unfold lim;omega)];rfl
 ·intro k acc;dsimp only;rw [if_neg (by omega)]
theorem Q1h {ev:List Qd} (hl:ev.length<big) (hc:Qfn ev=some 0):Qdy ev=some (obsE ev):=by
 unfold Qdy Qt Qiw Qcv;rw [hc];simp only [Option.bind_some,show ((0:Int) != 0)=false from rfl,Bool.false_eq_true,if_false];rw [Qbcb (f:=Qj8) (p:=fun x=>x.Observable) hl (fun x=>rfl)]
 rfl
theorem Qvj {ev:List Qd} (hl:ev.length<big):Qdr ev=some (obsE ev):=by
 have hb:ev.length<1000000000000:=hl;unfold Qdr Q3;refine Qem (Q8n (p:=fun x=>x.Observable) hl (by unfold Qbd;omega) ?_ ?_) rfl
 ·intro k acc n hn hacc;dsimp only;rw [if_pos (by omega),Qbp hn];simp only [Option.bind_some];cases ev[n].Observable
  ·rfl
  ·rw [if_pos rfl,Qb1 (by simp only [List.length_cons,List.length_nil];unfold lim;omega)];rfl
 ·intro k acc;dsimp only;rw [if_neg (by omega)]
theorem Qbf4 {l:List Int} {v:Int} (hl:l.length<big):Qf5 l v=some (decide (v∈l)):=by
 unfold Qf5 Qbm;refine (Qju (len:=l.length) (fun k=>some (decide (v∈l.drop k))) (by unfold Qbd;unfold big at hl;omega) ?_ ?_).trans (by simp)
 ·intro k i hi ih;have hb:i<1000000000000:=by unfold big at hl;omega
  try dsimp only
  rw [if_pos (by omega),Qbp hi,Q9 (by omega),ih,List.drop_eq_getElem_cons hi];simp only [Option.bind_some,List.mem_cons];by_cases h:l[i]=v
  ·simp [h]
  ·have:¬ v=l[i]:=fun e=>h e.symm;simp [h,this]
 ·intro k;simp
theorem Qbel (x y:Lab):((x.State==y.State)&&((x.Classes==y.Classes)&&true))=decide (x=y):=by
 obtain ⟨s,c⟩:=x;obtain ⟨s',c'⟩:=y;rw [Bool.eq_iff_iff];simp
theorem Qbg8 {l:List Lab} {v:Lab} (hl:l.length<big):Qg5 l v=some (if v∈l then (l.idxOf v:Int) else -1):=by
 unfold Qg5 Qc7;refine (Qju (len:=l.length) (fun k=>some (if v∈l.drop k then ((k+(l.drop k).idxOf v:Nat):Int) else -1)) (by unfold Qbd;unfold big at hl;omega) ?_ ?_).trans (by simp)
 ·intro k i hi ih;have hb:i<1000000000000:=by unfold big at hl;omega
  try dsimp only
  rw [if_pos (by omega),Qbp hi,Q9 (by omega),ih,List.drop_eq_getElem_cons hi];simp only [Option.bind_some,List.mem_cons,List.idxOf_cons,Qbel];by_cases h:v=l[i]
  ·simp [← h]
  ·have:¬ l[i]=v:=fun e=>h e.symm;have hbq:(l[i]==v)=false:=by simp [this]
   by_cases h2:v∈l.drop (i+1)<;>simp [h,h2,hbq,this];omega
 ·intro k;simp
theorem Qbg9 {s t:List Lab} (h:s.length<1000000000000):Qes s t=some (decide (s=t)):=by
 unfold Qes Qbi;by_cases hl:s.length=t.length
 ·rw [if_neg (by simp [hl])];have:=Q49 (ne:=fun x y:Lab=>!((x.State==y.State)&&((x.Classes==y.Classes)&&true))) (fun x y=>by rw [Qbel];simp) hl h;simp only [← Qbg3] at this;exact this
 ·rw [if_pos (by simp;omega)];have:s≠t:=fun e=>hl (by rw [e]);simp [this]
def Qyv (l:List Lab) (set:List Int):List Lab:=set.map fun i=>(getO l i).getD ⟨0,0⟩
theorem Qbds {l:List Lab} {set:List Int} (hs:set.length<big) (hr:∀ x∈set,0≤x∧x<l.length):Qgq l set=some (Qyv l set):=by
 have hb:set.length<1000000000000:=hs;unfold Qgq Qbz;refine Qem (Q2j (f:=fun i=>(getO l i).getD ⟨0,0⟩) hs (by unfold Qbd;omega) ?_ ?_) rfl
 ·intro k acc n hn;dsimp only;rw [if_pos (by omega),Qbp hn];have h:=hr _ (List.getElem_mem hn);have hg:getO l set[n]=some (l[set[n].toNat]'(by omega)):=by rw [Qhw];exact ⟨h.1,List.getElem?_eq_getElem (by omega)⟩
  simp only [Option.bind_some,hg,Option.getD_some]
 ·intro k acc;dsimp only;rw [if_neg (by omega)]
theorem Qbdt {l:List Lab} {set:List Int} (hs:set.length<big) (hr:∀ x∈set,0≤x∧x<l.length):Qeb l set=some (Qyv l set):=by
 have hb:set.length<1000000000000:=hs;unfold Qeb Qcc;refine Qem (Q2j (f:=fun i=>(getO l i).getD ⟨0,0⟩) hs (by unfold Qbd;omega) ?_ ?_) rfl
 ·intro k acc n hn;dsimp only;rw [if_pos (by omega),Qbp hn];have h:=hr _ (List.getElem_mem hn);have hg:getO l set[n]=some (l[set[n].toNat]'(by omega)):=by rw [Qhw];exact ⟨h.1,List.getElem?_eq_getElem (by omega)⟩
  simp only [Option.bind_some,hg,Option.getD_some]
 ·intro k acc;dsimp only;rw [if_neg (by omega)]
end Go.Abs
end
section
namespace Go.Abs
open Go
variable {ev:List Qd} {a:Qa}
theorem Qbha (hp:Plt ev a) {S:List Lab} (hB:LbI a S) {x:Lab} (hx:x∈S) {y:Qf} (hy:y∈a.zG):Qg4 ev x y=some (toL ev x y):=by
 have hb:=Qbb7 hp hy;have hc:=(Qbg6 (hB.ok x hx).2 (Qbek hp y.Event)).2;unfold Qix Qeh at hb;unfold Qg4 Qc6 toL;cases hg:getO ev y.Event with
 | none=>rw [hg] at hb;cases hb
 | some z =>
  rw [hg] at hb;simp only [Option.bind_some] at hb ⊢;by_cases hf:z.Fault>0
  ·rw [if_pos hf] at hb ⊢;cases hs:shlO .i64 1 (IntKind.wrap .i64 (z.Fault-1)) with
   | none=>rw [hs] at hb;cases hb
   | some s =>
    rw [hs] at hb;simp only [Option.bind_some,Option.some.injEq] at hb ⊢;rw [hb]
  ·rw [if_neg hf] at hb ⊢;simp only [Option.some.injEq] at hb;rw [← hb,hc]
theorem Qbcc (hp:Plt ev a) (h0:0<a.zH) {N:Nat} (hN:LabN ev a N):Qdk ev a=some (labA ev a N,(labs ev a N).1):=by
 have hs:=hp.r.small;have hst:=hp.r.st;have hNl:=hN.le hp h0;unfold Qdk Qci;obtain ⟨fuel,hfu,hge⟩ : ∃ f,Qbd=f∧1099511627776≤f:=⟨_,rfl,Nat.le_refl _⟩;rw [hfu,if_neg (by simp;omega)];refine Qem (x:=((labs ev a N).1,[],[],[],(labs ev a N).2.1,(labs ev a N).2.2)) ?_ (by dsimp only;rw [hN.1];rfl);refine Qd0 (fun x=>∃ (n:Nat),n≤N∧x=((labs ev a n).1,(n:Int),[],[],[],(labs ev a n).2.1,(labs ev a n).2.2)) (fun x=>N-x.2.1.toNat) (fun x r=>r=some ((labs ev a N).1,[],[],[],(labs ev a N).2.1,(labs ev a N).2.2)) ?_ fuel _ ⟨0,Nat.zero_le _,rfl⟩ (by simp only [Int.toNat_zero];omega);rintro k _ ⟨n,hn,rfl⟩ ih;dsimp only;by_cases hlt:n<N
 ·have hnl:=hN.2 n hlt;have hI:=labI hp n (by omega) (fun m hm=>hN.2 m (by omega));have hB:=Qze hp h0 n;obtain ⟨x,hx,e⟩:=Q3p hnl;have hxm:=List.mem_of_getElem? hx;have hll:=Qxk hp h0 n;have hml:(labs ev a n).2.1.length≤n:=by have:=Qf2 hI.ms hI.mr;simpa using this
  have hel:=hI.el;rw [if_pos (by omega),getB hx];simp only [Option.bind_some];rw [Qbf4 hs.1.2.1];simp only [Option.bind_some];refine Qem (x:=((labs ev a (n+1)).1,(labs ev a (n+1)).2.1,(labs ev a (n+1)).2.2)) ?_ (by dsimp only;rw [Q9 (by omega)];exact ih _ ⟨n+1,by omega,rfl⟩ (by simp only;omega));refine Qem (x:=(labs ev a (n+1)).2.1) ?_ ?_
  ·rw [e];by_cases hm:x.State∈a.zF
   ·rw [decide_eq_true hm,if_pos rfl,if_pos hm,Qb1 (by simp only [List.length_cons,List.length_nil];unfold lim;omega)]
    rfl
   ·rw [decide_eq_false hm,if_neg (by simp),if_neg hm]
  have hof:(outP a x.State)=a.zG.filter fun y=>y.From==x.State:=rfl;have hof2:=Q6y hp.r x.State;refine Qd0 (fun z=>∃ (m:Nat) (S:List Lab) (r:List Qf),z=(S,(m:Int),r)∧m≤a.zG.length∧S[n]? = some x∧LbI a S∧r.length≤32*n+m ∧
   ((a.zG.drop m).filter fun y=>y.From==x.State).foldl (Qps ev n x) (S,r)=((labs ev a (n+1)).1,(labs ev a (n+1)).2.2)) (fun z=>a.zG.length-z.2.1.toNat) (fun z r=>r=some ((labs ev a (n+1)).1,(labs ev a (n+1)).2.1,(labs ev a (n+1)).2.2)) ?_ fuel _ ⟨0,_,_,rfl,Nat.zero_le _,hx,hB,by omega,by rw [e,List.drop_zero,← hof]⟩ (by simp only [Int.toNat_zero];omega)
  rintro k' _ ⟨m,S,r,rfl,hm,hgs,hBS,hrl,hf⟩ ih';dsimp only;by_cases hlm:m<a.zG.length
  ·have hye:=List.getElem_mem hlm;rw [if_pos (by omega),Qbp hlm,getB hgs];rw [List.drop_eq_getElem_cons hlm] at hf;generalize a.zG[m]=y at hye hf ⊢;simp only [Option.bind_some];rw [List.filter_cons] at hf;have hSl:=hBS.len;have hst2:=hp.st;by_cases hfr:y.From=x.State
   ·rw [if_pos (by simp [hfr])] at hf;rw [if_neg (by simp [hfr]),Qbha hp hBS (List.mem_of_getElem? hgs) hye];simp only [Option.bind_some];rw [Qbg8 (by unfold big;omega)];simp only [Option.bind_some];have htl:=hBS.to hp (List.mem_of_getElem? hgs) hye;rw [List.foldl_cons] at hf;by_cases hin:toL ev x y∈S
    ·have hi:Qt0 S (toL ev x y)=S:=by unfold Qt0;rw [if_pos hin]
     rw [if_pos hin,if_neg (by omega)];simp only [Option.bind_some];rw [Qb1 (by simp only [List.length_cons,List.length_nil];unfold lim;omega)];simp only [Option.bind_some];rw [Q9 (by omega)];refine ih' _ ⟨m+1,S,_,rfl,by omega,hgs,hBS,by rw [List.length_append];simp only [List.length_cons,List.length_nil];omega,?_⟩ (by simp only;omega);rw [← hf];unfold Qps;rw [hi]
    ·have hi:Qt0 S (toL ev x y)=S++[toL ev x y]:=by unfold Qt0;rw [if_neg hin]
     rw [if_neg hin,if_pos (by omega),Qb1 (by simp only [List.length_cons,List.length_nil];unfold lim;omega)];simp only [Option.bind_some];rw [Qb1 (by simp only [List.length_cons,List.length_nil];unfold lim;omega)];simp only [Option.bind_some];rw [Q9 (by omega)];have hBi:=hBS.add htl;rw [hi] at hBi;refine ih' _ ⟨m+1,S++[toL ev x y],_,rfl,by omega,by rw [List.getElem?_append_left (List.getElem?_eq_some_iff.1 hgs).1];exact hgs,hBi,by rw [List.length_append];simp only [List.length_cons,List.length_nil];omega,?_⟩ (by simp only;omega);rw [← hf];unfold Qps;rw [hi,List.idxOf_append,if_neg hin];simp
   ·rw [if_neg (by simp [hfr])] at hf;rw [if_pos (by simp [hfr])];simp only [Option.bind_some];rw [Q9 (by omega)];exact ih' _ ⟨m+1,S,r,rfl,by omega,hgs,hBS,by omega,hf⟩ (by simp only;omega)
  ·rw [if_neg (by omega)];have hd:a.zG.drop m=[]:=List.drop_eq_nil_of_le (by omega);rw [hd,List.filter_nil,List.foldl_nil,Prod.mk.injEq] at hf;obtain ⟨rfl,rfl⟩:=hf
   rfl
 ·obtain rfl:n=N:=by omega
  rw [if_neg (by have:=hN.1;omega)]
theorem Q6z (h0:a.zH=0):Qdk ev a=some (⟨a.zD,0,[],[]⟩,[]):=by
 unfold Qdk Qci;rw [if_pos (by simp [h0])]
structure Lbd (ev:List Qd) (a b:Qa) (l:List Lab):Prop where
 p:Qdn ev a=some (b,l,0)
 w:Qdk ev a=some (b,l)
 r:Right b
 n:b.zH=l.length
 z:a.zH=0↔b.zH=0
 al:b.zD=a.zD
 few:l.length≤3200
theorem Qbhb (hp:Plt ev a):∃ b l,Lbd ev a b l:=by
 by_cases h0:a.zH=0
 ·exact ⟨_,_,Q9l hp h0,Q6z h0,⟨hp.r.al0,hp.r.al,⟨Int.le_refl _,by simp⟩,fun x hx=>by simp at hx,List.Pairwise.nil,fun x hx=>by simp at hx,List.Pairwise.nil⟩,rfl,by simp [h0],rfl,by simp⟩
 ·have hpos:0<a.zH:=by have:=hp.r.st;omega
  obtain ⟨N,hN⟩:=Qbf3 hp hpos;have h1:1≤N:=by
   rcases Nat.eq_zero_or_pos N with h|h
   ·subst h;have:=hN.1;simp [labs] at this
   ·exact h
  have:=hN.le hp hpos;exact ⟨_,_,Qbdr hp hpos hN,Qbcc hp hpos hN,Q9k hp hpos hN,by rw [hN.1];rfl,by simp [labA];omega,rfl,by rw [hN.1];exact this⟩
end Go.Abs
end
