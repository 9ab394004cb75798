/-
  Part 11 of the proof: see the last text.
-/
import Derived.Test.YtjngkimolkhdmaaGreatP10
import Derived.KernelRfl
set_option linter.unusedVariables false
set_option linter.unusedSimpArgs false
set_option linter.unusedSectionVars false
section
namespace Go.Abs
open Go
def ins (o:List Int) (t:Int):List Int:=if t∈o then o else o++[t]
def Quk (a:Qa) (s:Int):List Int:=(outP a s).map (·.To)
def bfs (a:Qa):Nat→Nat→List Int→List Int
 | 0,_,o=>o
 | fuel+1,i,o=>match o[i]? with
  | some s=>bfs a fuel (i+1) ((Quk a s).foldl ins o)
  | none=>o
def Q6c (a:Qa):List Int:=bfs a (a.zH.toNat+1) 0 (if 0<a.zH then [0] else [])
structure Fnd (a:Qa) (o:List Int):Prop where
 nd:o.Nodup
 rg:∀ s∈o,0≤s∧s<a.zH
theorem Fnd.len {a:Qa} {o:List Int} (h:Fnd a o):o.length≤a.zH.toNat:=by
 have hO:Go.Sort.SWO Qfh:=⟨fun x=>by simp [Qfh],fun x y z h1 h2=>by simp [Qfh] at *;omega,fun x y z h1 h2=>by simp [Qfh] at *;omega⟩;have hp:=Qne Qfh o;have hs:=Qmf hO o;have hn:(Qly Qfh o).Nodup:=(hp.nodup_iff).2 h.nd;have hlt:(Qly Qfh o).Pairwise (· < ·):=by
  have:(Qly Qfh o).Pairwise fun x y=>Qfh y x=false∧x≠y:=hs.and hn;exact this.imp fun ⟨h1,h2⟩=>by simp [Qfh] at h1;omega
 have:=Qe3 hlt (a:=0) (b:=a.zH) fun x hx=>h.rg x (hp.mem_iff.1 hx);rw [Qjz] at this;simpa using this
theorem Qzd {o:List Int} {t x:Int}:x∈ins o t↔x∈o∨x=t:=by
 unfold ins;split
 ·rename_i h;constructor
  ·exact .inl
  ·rintro (h'|rfl)
   ·exact h'
   ·exact h
 ·simp
theorem Qbdr (o:List Int) (t:Int):o <+: ins o t:=by
 unfold ins;split
 ·exact List.prefix_refl o
 ·exact List.prefix_append o [t]
theorem Fnd.ins {a:Qa} {o:List Int} (h:Fnd a o) {t:Int} (ht:0≤t∧t<a.zH):Fnd a (ins o t):=by
 refine ⟨?_,fun s hs=>?_⟩
 ·unfold Go.Abs.ins;split
  ·exact h.nd
  ·rename_i hn;rw [List.nodup_append];exact ⟨h.nd,by simp,fun x hx y hy=>by simp at hy;subst hy;exact fun e=>hn (e ▸ hx)⟩
 ·rcases Qzd.1 hs with hs|rfl
  ·exact h.rg s hs
  ·exact ht
theorem Qvm {a:Qa}:∀ {ts o:List Int},Fnd a o→(∀ t∈ts,0≤t∧t<a.zH)→Fnd a (ts.foldl ins o)∧o <+: ts.foldl ins o∧(∀ t∈ts,t∈ts.foldl ins o)∧∀ x∈ts.foldl ins o,x∈o∨x∈ts
 | [],o,h,_=>⟨h,List.prefix_refl o,by simp,fun x hx=>.inl hx⟩
 | t::ts,o,h,ht=>by
  obtain ⟨h1,h2,h3,h4⟩:=Qvm (ts:=ts) (h.ins (ht t (by simp))) fun t ht'=>ht t (by simp [ht']);refine ⟨h1,(Qbdr o t).trans h2,fun x hx=>?_,fun x hx=>?_⟩
  ·rcases List.mem_cons.1 hx with rfl|hx
   ·exact h2.subset (Qzd.2 (.inr rfl))
   ·exact h3 x hx
  ·rcases h4 x hx with h5|h5
   ·rcases Qzd.1 h5 with h6|rfl
    ·exact .inl h6
    ·exact .inr (by simp)
   ·exact .inr (by simp [h5])
theorem Qze {a:Qa} (h:Right a) (s:Int):∀ t∈Quk a s,0≤t∧t<a.zH:=by
 intro t ht;unfold Quk outP at ht;obtain ⟨x,hx,rfl⟩:=List.mem_map.1 ht;have:=h.ed0 x ((List.mem_filter.1 hx).1);omega
theorem Q0w {α:Type} {l m:List α} (h:l <+: m) {i:Nat} {x:α} (hx:l[i]? = some x):m[i]? = some x:=by
 obtain ⟨t,rfl⟩:=h;have:=(List.getElem?_eq_some_iff.1 hx).1;rw [List.getElem?_append_left this];exact hx
theorem Q6d {a:Qa} (h:Right a):∀ (fuel i:Nat) (o:List Int),Fnd a o→i≤o.length→a.zH.toNat+1≤fuel+i→(∀ j s,j<i→o[j]? = some s→∀ t∈Quk a s,t∈o) →
  Fnd a (bfs a fuel i o)∧o <+: bfs a fuel i o∧∀ s∈bfs a fuel i o,∀ t∈Quk a s,t∈bfs a fuel i o
 | 0,i,o,hf,hi,hfu,_=>by have:=hf.len;omega
 | fuel+1,i,o,hf,hi,hfu,hc=>by
  unfold bfs;cases hg:o[i]? with
  | none =>
   dsimp only;refine ⟨hf,List.prefix_refl o,fun s hs t ht=>?_⟩;obtain ⟨j,hj⟩:=List.getElem?_of_mem hs;have hlt:=(List.getElem?_eq_some_iff.1 hj).1;exact hc j s (by have:=List.getElem?_eq_none_iff.1 hg;omega) hj t ht
  | some s =>
   dsimp only;obtain ⟨h1,h2,h3,_⟩:=Qvm hf (Qze h s);have hlen:i<o.length:=(List.getElem?_eq_some_iff.1 hg).1;have hle:=h2.length_le;obtain ⟨k1,k2,k3⟩:=Q6d h fuel (i+1) ((Quk a s).foldl ins o) h1 (by omega) (by omega) (fun j s' hj hs' t ht=>by
    by_cases hji:j<i
    ·have hjl:j<o.length:=by omega
     have:o[j]? = some s':=by
      have:=Q0w h2 (List.getElem?_eq_getElem hjl);rw [hs'] at this;rw [List.getElem?_eq_getElem hjl];exact this.symm
     exact h2.subset (hc j s' hji this t ht)
    ·obtain rfl:j=i:=by omega
     have:=Q0w h2 hg;rw [hs'] at this;cases this;exact h3 t ht)
   exact ⟨k1,h2.trans k2,k3⟩
end Go.Abs
end
section
namespace Go.Abs
open Go
theorem Qbbh {a:Qa} {fuel i:Nat} {o:List Int} (hi:i<o.length):bfs a (fuel+1) i o=bfs a fuel (i+1) ((Quk a o[i]).foldl ins o):=by
 conv=>lhs;unfold bfs
 rw [List.getElem?_eq_getElem hi]
theorem Qbds {a:Qa} {fuel:Nat} {o:List Int}:bfs a fuel o.length o=o:=by
 cases fuel with
 | zero=>rfl
 | succ n=>unfold bfs;simp
section
variable {a:Qa} (h:Right a)
include h
end
end Go.Abs
end
section
namespace Go.Abs
open Go
theorem Qbdt (x y:Int):Qi3 x y=some (decide (x<y)):=by
 unfold Qi3 Qfg Qnf Qd6;simp
theorem Qbbi (x:Int):Qho x=some false:=by
 unfold Qho Qc2;simp
theorem Q9w {l:List Int} (h:l.Pairwise (· < ·)) (v:Int):l.Pairwise fun a b=>decide (b<v)=true→decide (a<v)=true :=
 h.imp fun h=>by simp;omega
theorem Q9x {l:List Int} {v:Int} (hs:l.Pairwise (· < ·)) (hl:l.length<big):∃ n,Qev l v=some (n,decide (v∈l)):=by
 have hc:=fun n h=>Q0u (p:=fun x:Int=>decide (x<v)) (Q9w hs v) n h;have hcl:(l.filter fun x=>decide (x<v)).length≤l.length:=List.length_filter_le _ _;generalize (l.filter fun x=>decide (x<v)).length=c at hc hcl;have hb:l.length<1000000000000:=hl;unfold Qev Qb4;obtain ⟨fuel,hfu,hge⟩ : ∃ f,Qbx=f∧1099511627776≤f:=⟨_,rfl,Nat.le_refl _⟩;rw [hfu];have hloop:=Qdt (F:=fun (k5:Int×Int→Option Int) ((i3,j4):Int×Int)=>(if (i3<j4) then ((getO l (IntKind.wrap .i64 (Int.fdiv (IntKind.wrap .u64 (IntKind.wrap .i64 (i3+j4))) (2 ^ (min (Int.toNat 1) (IntKind.bits .u64)))))).bind fun x7=>((Qi3 x7 v).bind fun x10=>(if x10 then k5 ((IntKind.wrap .i64 ((IntKind.wrap .i64 (Int.fdiv (IntKind.wrap .u64 (IntKind.wrap .i64 (i3+j4))) (2 ^ (min (Int.toNat 1) (IntKind.bits .u64)))))+1)),j4) else k5 (i3,(IntKind.wrap .i64 (Int.fdiv (IntKind.wrap .u64 (IntKind.wrap .i64 (i3+j4))) (2 ^ (min (Int.toNat 1) (IntKind.bits .u64))))))))) else some i3))
  (fun x=>∃ i j:Nat,x=((i:Int),(j:Int))∧i≤c∧c≤j∧j≤l.length) (fun x=>(x.2-x.1).toNat) (fun _ r=>r=some (c:Int)) (by
   rintro k _ ⟨i,j,rfl,h1,h2,h3⟩ ih;dsimp only;by_cases hij:i<j
   ·rw [if_pos (by omega),Qbex (by omega) (by omega)];have hm:(i+j) / 2<l.length:=by omega
    rw [Qb7 hm];simp only [Option.bind_some];rw [Qbdt];simp only [Option.bind_some];have hcm:=hc ((i+j) / 2) hm;by_cases hlt:l[(i+j) / 2]<v
    ·rw [if_pos (by simpa using hlt),Qbl (by omega)];have:(i+j) / 2<c:=hcm.1 (by simpa using hlt);exact ih _ ⟨_,_,rfl,by omega,h2,h3⟩ (by simp only;omega)
    ·rw [if_neg (by simpa using hlt)];have:¬ (i+j) / 2<c:=fun h=>hlt (by simpa using hcm.2 h);exact ih _ ⟨_,_,rfl,h1,by omega,by omega⟩ (by simp only;omega)
   ·rw [if_neg (by omega)];have:i=c:=by omega
    rw [this]) fuel (0,(l.length:Int)) ⟨0,l.length,rfl,by omega,hcl,Nat.le_refl _⟩ (by simp only;omega)
 rw [hloop];simp only [Option.bind_some];have hmem:v∈l↔∃ h:c<l.length,l[c]=v:=by
  constructor
  ·intro hv;obtain ⟨j,hj,rfl⟩:=List.getElem_of_mem hv;have h1:¬ j<c:=fun h=>by have:=(hc j hj).2 h;simp at this
   have h2:c<l.length:=by omega
   refine ⟨h2,?_⟩;have h3:¬ l[c]<l[j]:=fun h=>by have:=(hc c h2).1 (by simpa using h);omega
   rcases Nat.lt_or_ge c j with h|h
   ·have:=List.pairwise_iff_getElem.1 hs c j h2 hj h;omega
   ·have:c=j:=by omega
    subst this;rfl
  ·rintro ⟨h,rfl⟩;exact List.getElem_mem h
 by_cases hlt:c<l.length
 ·rw [if_pos (by omega),Qb7 hlt];simp only [Option.bind_some];by_cases he:l[c]=v
  ·rw [if_pos (by simpa using he)];exact ⟨_,by rw [decide_eq_true (hmem.2 ⟨hlt,he⟩)]⟩
  ·rw [if_neg (by simpa using he),Qbbi];exact ⟨_,by rw [decide_eq_false (fun h=>he (hmem.1 h).2)];rfl⟩
 ·rw [if_neg (by omega)];exact ⟨_,by rw [decide_eq_false (fun h=>hlt (hmem.1 h).1)]⟩
theorem Q6e {l:List Int} (hl:l.length≤lim):Qf5 l=some l:=by
 unfold Qf5 Qbz;rw [Qc3 (by simpa using hl)];cases l<;>simp [nilO]
structure Num (a:Qa) (o num:List Int):Prop where
 len:num.length=a.zH.toNat
 at1:∀ s:Nat,s<a.zH.toNat→num[s]? = some (if (s:Int)∈o then (o.idxOf (s:Int):Int) else -1)
theorem Num.get {a:Qa} {o num:List Int} (h:Num a o num) {t:Int} (ht:0≤t∧t<a.zH):getO num t=some (if t∈o then (o.idxOf t:Int) else -1):=by
 rw [Qi5];refine ⟨ht.1,?_⟩;have:=h.at1 t.toNat (by omega)
 rwa [show ((t.toNat:Nat):Int)=t from by omega] at this
theorem Num.set {a:Qa} {o num:List Int} (h:Num a o num) {t:Int} (ht:0≤t∧t<a.zH) (hn:t∉o):∃ num',setO num t (o.length:Int)=some num'∧Num a (o++[t]) num':=by
 refine ⟨num.set t.toNat (o.length:Int),by unfold setO;rw [if_pos ⟨ht.1,by rw [h.len];omega⟩],by rw [List.length_set];exact h.len,fun s hs=>?_⟩;rw [List.getElem?_set];by_cases he:t.toNat=s
 ·subst he;rw [if_pos rfl,if_pos (by rw [h.len];omega),show ((t.toNat:Nat):Int)=t from by omega,if_pos (by simp),List.idxOf_append,if_neg hn];simp
 ·rw [if_neg he,h.at1 s hs];have hne:(s:Int)≠t:=by omega
  by_cases hm:(s:Int)∈o
  ·rw [if_pos hm,if_pos (by simp [hm]),List.idxOf_append,if_pos hm]
  ·rw [if_neg hm,if_neg (by simp [hm,hne])]
section
variable {a:Qa} (h:Right a)
include h
end
end Go.Abs
end
section
namespace Go.Abs
open Go
section
variable {a:Qa} (h:Right a)
include h
omit h in
theorem Qsa {w:List Int} {p:Int→Bool} {f:Int→Option Bool} (hf:∀ x,f x=some (p x)) (hw:w.length<big):Qb6 w f=some (w.any p):=by
 have hb:w.length<1000000000000:=hw;unfold Qb6 Qs Qfs Qb9;obtain ⟨fuel,hfu,hge⟩ : ∃ f,Qbx=f∧1099511627776≤f:=⟨_,rfl,Nat.le_refl _⟩;rw [hfu];have:=Qnk (F:=fun (k10:Int→Option Int) (x9:Int)=>(if (x9<(w.length:Int)) then ((getO w x9).bind fun x12=>((f x12).bind fun x15=>(if x15 then some x9 else k10 (IntKind.wrap .i64 (x9+1))))) else some (-1))) (len:=w.length) (fuel:=fuel)
  (fun n=>some (if (w.drop n).any p then ((n+(w.drop n).findIdx p:Nat):Int) else -1)) (by omega) (by
   intro k n hn ih;rw [if_pos (by omega),Qb7 hn,Qbl (by omega),ih];simp only [Option.bind_some,hf];rw [List.drop_eq_getElem_cons hn];cases hp:p w[n] with
   | true=>simp only [List.any_cons,hp,Bool.true_or,if_true,List.findIdx_cons,cond_true,Nat.add_zero]
   | false =>
    simp only [List.any_cons,hp,Bool.false_or,List.findIdx_cons,cond_false,Bool.false_eq_true,if_false];rw [show n+1+(w.drop (n+1)).findIdx p=n+((w.drop (n+1)).findIdx p+1) from by omega]) (by intro k;simp)
 rw [this];simp only [Option.bind_some,List.drop_zero,Nat.zero_add];cases w.any p<;>simp
end
end Go.Abs
end
section
namespace Go.Abs
open Go
theorem Q3t {P:Int→Prop}:∀ (ts o:List Int),(∀ s∈o,P s)→(∀ t∈ts,P t)→∀ s∈ts.foldl ins o,P s
 | [],o,h,_=>h
 | t::ts,o,h,ht=>Q3t ts (ins o t) (fun s hs=>by
   rcases Qzd.1 hs with hs|rfl
   ·exact h s hs
   ·exact ht _ (by simp)) fun u hu=>ht u (by simp [hu])
theorem Q3u {a:Qa} {P:Int→Prop} (hP:∀ s,P s→∀ t∈Quk a s,P t):∀ (fuel i:Nat) (o:List Int),(∀ s∈o,P s)→∀ s∈bfs a fuel i o,P s
 | 0,i,o,h=>h
 | fuel+1,i,o,h=>by
  unfold bfs;cases hg:o[i]? with
  | none=>exact h
  | some s=>exact Q3u hP fuel (i+1) _ (Q3t _ _ h (hP s (h s (List.mem_of_getElem? hg))))
structure Like (a b:Qa) (φ:Int→Int):Prop where
 al:b.zD=a.zD
 st:0<b.zH↔0<a.zH
 zero:0<a.zH→φ 0=0
 inj:∀ s∈Q6c a,∀ t∈Q6c a,φ s=φ t→s=t
 out:∀ s∈Q6c a,outP b (φ s)=(outP a s).map fun x=>⟨φ s,x.Event,φ x.To⟩
 ma:∀ s∈Q6c a,(φ s∈b.zF↔s∈a.zF)
section
variable {F:List Int} {φ:Int→Int} (inj:∀ s∈F,∀ t∈F,φ s=φ t→s=t)
include inj
end
section
variable {a b:Qa} {φ:Int→Int} (ha:Right a) (hb:Right b) (h:Like a b φ)
include ha h
include hb
end
section
variable {a b:Qa} {φ:Int→Int} (ha:Right a) (hb:Right b) (h:Like a b φ)
include ha h
end
end Go.Abs
end
section
namespace Go.Abs
open Go
theorem Qfw {α β:Type} {o:Option α} {x:α} {K:α→Option β} {r:Option β} (h:o=some x) (h2:K x=r):o.bind K=r:=by rw [h];exact h2
theorem Qbdu {α β:Type} {o:Option α} {x:α} {K:α→Option β} {Q:β→Prop} (h:o=some x) (h2:∃ y,K x=some y∧Q y):∃ y,o.bind K=some y∧Q y:=by rw [h];exact h2
theorem Qbbj {α β:Type} {o:Option α} {K:α→Option β} {Q:β→Prop} (P:α→Prop) (h:∃ x,o=some x∧P x) (h2:∀ x,P x→∃ y,K x=some y∧Q y):∃ y,o.bind K=some y∧Q y:=by
 obtain ⟨x,h,hp⟩:=h;rw [h];exact h2 x hp
theorem Q0x {X S R α:Type} {F:(X→Option R)→X→Option R} {l:List α} {fuel:Nat} (mk:Nat→S→X) (f:S→α→S) (fin:S→Option R) (I:Nat→S→Prop)
  (step:∀ (k:X→Option R) (n:Nat) (h:n<l.length) (s:S),I n s→I (n+1) (f s l[n])∧F k (mk n s)=k (mk (n+1) (f s l[n]))) (last:∀ (k:X→Option R) (s:S),I l.length s→F k (mk l.length s)=fin s)
  (hf:l.length<fuel) (s0:S) (h0:I 0 s0):Qdm F fuel (mk 0 s0)=fin (l.foldl f s0):=by
 have:=Qj2 (F:=F) (len:=l.length) mk I (fun n s=>fin ((l.drop n).foldl f s)) (fun k n s hn hi ih=>by
  obtain ⟨h1,h2⟩:=step k n hn s hi;rw [h2,ih _ h1,List.drop_eq_getElem_cons hn,List.foldl_cons]) (fun k s hi=>by rw [last k s hi];simp) fuel 0 s0 (Nat.zero_le _) (by omega) h0
 simpa using this
theorem Q9y {l m:List Int} (hl:l.Pairwise (· < ·)) (hm:m.Pairwise (· < ·)) (h:∀ x,x∈l↔x∈m):l=m:=by
 refine List.Perm.eq_of_pairwise (le:=(· < ·)) (fun a b _ _ h1 h2=>by omega) hl hm ?_;rw [List.perm_ext_iff_of_nodup (hl.imp fun h=>by omega) (hm.imp fun h=>by omega)];exact h
theorem swoI:Go.Sort.SWO Qfh:=⟨fun x=>by simp [Qfh],fun x y z h1 h2=>by simp [Qfh] at *;omega,fun x y z h1 h2=>by simp [Qfh] at *;omega⟩
theorem Qzf {l:List Int} (h:l.Nodup):(Qly Qfh l).Pairwise (· < ·)∧∀ x,x∈Qly Qfh l↔x∈l:=by
 have hp:=Qne Qfh l;refine ⟨?_,fun x=>hp.mem_iff⟩;have hs:=Qmf swoI l;have hn:=(hp.nodup_iff).2 h;exact (hs.and hn).imp fun ⟨h1,h2⟩=>by simp [Qfh] at h1;omega
inductive Rch (a:Qa) (ev fr:List Int):Int→Prop where
 | base {s:Int}:s∈fr→Rch a ev fr s
 | step {x:Qi}:Rch a ev fr x.From→x∈a.zG→x.Event∈ev→Rch a ev fr x.To
def upto (n:Int):List Int:=(List.range n.toNat).map fun (i:Nat)=>(i:Int)
theorem Q6f {n x:Int}:x∈upto n↔0≤x∧x<n:=by
 simp only [upto,List.mem_map,List.mem_range];constructor
 ·rintro ⟨i,hi,rfl⟩;omega
 ·rintro ⟨h1,h2⟩;exact ⟨x.toNat,by omega,by omega⟩
theorem Q3v (n:Int):(upto n).Pairwise (· < ·):=by
 unfold upto;rw [List.pairwise_map];exact List.pairwise_lt_range.imp fun h=>by omega
theorem Qxs (n:Int):(upto n).length=n.toNat:=by simp [upto]
theorem Qbbk {n:Int} {i:Nat} (h:i<n.toNat):(upto n)[i]'(by rw [Qxs];exact h)=(i:Int):=by simp [upto]
open Classical in
noncomputable def Qqh (a:Qa) (fr ev:List Int):List Int:=(upto a.zH).filter fun s=>decide (Rch a ev fr s)
theorem Qzg (a:Qa) (fr ev:List Int):(Qqh a fr ev).Pairwise (· < ·):=(Q3v _).filter _
theorem Qwo {a:Qa} {fr ev:List Int} {s:Int}:s∈Qqh a fr ev↔(0≤s∧s<a.zH)∧Rch a ev fr s:=by
 classical
 simp only [Qqh,List.mem_filter,Q6f,decide_eq_true_eq]
theorem Rch.range {a:Qa} (h:Right a) {ev fr:List Int} (hf:∀ s∈fr,0≤s∧s<a.zH) {s:Int} (hr:Rch a ev fr s):0≤s∧s<a.zH:=by
 induction hr with
 | base hs=>exact hf _ hs
 | step _ hx _ _=>have:=h.ed0 _ hx;exact ⟨this.2.2.1,this.2.2.2.1⟩
theorem Q9z {a:Qa} (h:Right a) {fr ev:List Int} (hf:∀ s∈fr,0≤s∧s<a.zH) {s:Int}:s∈Qqh a fr ev↔Rch a ev fr s:=by
 rw [Qwo];exact ⟨fun h=>h.2,fun hr=>⟨hr.range h hf,hr⟩⟩
theorem Rch.mono {a:Qa} {ev fr fr' : List Int} (hf:∀ s∈fr,Rch a ev fr' s) {s:Int} (hr:Rch a ev fr s):Rch a ev fr' s:=by
 induction hr with
 | base hs=>exact hf _ hs
 | step _ hx he ih=>exact .step ih hx he
theorem Q90 {a:Qa} (h:Right a) {fr ev l:List Int} (hf:∀ s∈fr,0≤s∧s<a.zH) (hl:l.Pairwise (· < ·)) (h1:∀ s∈l,Rch a ev fr s) (h2:∀ s∈fr,s∈l)
  (h3:∀ x∈a.zG,x.From∈l→x.Event∈ev→x.To∈l):l=Qqh a fr ev:=by
 refine Q9y hl (Qzg _ _ _) fun x=>?_;rw [Q9z h hf];refine ⟨h1 x,fun hr=>?_⟩
 induction hr with
 | base hs=>exact h2 _ hs
 | step _ hx he ih=>exact h3 _ hx ih he
def Qmg (a:Qa) (ev:List Int):Qa:={ a with zG:=a.zG.filter fun x=>decide (x.Event∈ev) }
theorem Qzh {a:Qa} (h:Right a) (ev:List Int):Right (Qmg a ev) :=
 ⟨h.al0,h.al,h.st,h.ma0,h.ma,fun x hx=>h.ed0 x (List.mem_filter.1 hx).1,h.ed.filter _⟩
theorem Q7f (a:Qa) (ev:List Int) (s:Int):Quk (Qmg a ev) s=((outP a s).filter fun x=>decide (x.Event∈ev)).map (·.To):=by
 simp only [Quk,outP,Qmg,List.filter_filter];congr 1;exact List.filter_congr fun x _=>Bool.and_comm _ _
theorem Q6g {a:Qa} {s t:Int}:t∈Quk a s↔∃ x∈a.zG,x.From=s∧x.To=t:=by
 simp only [Quk,outP,List.mem_map,List.mem_filter,beq_iff_eq];constructor
 ·rintro ⟨x,⟨h1,h2⟩,h3⟩;exact ⟨x,h1,h2,h3⟩
 ·rintro ⟨x,h1,h2,h3⟩;exact ⟨x,⟨h1,h2⟩,h3⟩
theorem Q3w {a:Qa} (h:Right a) {ev fr o:List Int} (hf:∀ s∈fr,0≤s∧s<a.zH) (ho:∀ s,s∈o↔s∈fr) (hn:o.Nodup) :
  Fnd (Qmg a ev) (bfs (Qmg a ev) (a.zH.toNat+1) 0 o)∧Qly Qfh (bfs (Qmg a ev) (a.zH.toNat+1) 0 o)=Qqh a fr ev:=by
 have hr:=Qzh h ev;have hfo:Fnd (Qmg a ev) o:=⟨hn,fun s hs=>hf s ((ho s).1 hs)⟩;obtain ⟨q1,q2,q3⟩:=Q6d hr (a.zH.toNat+1) 0 o hfo (Nat.zero_le _) (by show a.zH.toNat+1≤_;omega) (fun j s hj=>by omega);obtain ⟨r1,r2⟩:=Qzf q1.nd;refine ⟨q1,Q90 h hf r1 (fun s hs=>?_) (fun s hs=>?_) (fun x hx hfx hex=>?_)⟩
 ·have hs:=(r2 s).1 hs;refine Q3u (a:=Qmg a ev) (P:=Rch a ev fr) (fun s hs t ht=>?_) _ 0 o (fun s hs=>.base ((ho s).1 hs)) s hs;obtain ⟨x,hx,rfl,rfl⟩:=Q6g.1 ht;obtain ⟨hx,he⟩:=List.mem_filter.1 hx;exact .step hs hx (by simpa using he)
 ·exact (r2 s).2 (q2.subset ((ho s).2 hs))
 ·exact (r2 _).2 (q3 _ ((r2 _).1 hfx) _ (Q6g.2 ⟨x,List.mem_filter.2 ⟨hx,by simpa using hex⟩,rfl,rfl⟩))
theorem Qvn:∀ (ts o:List Int) (x:Int),x∈ts.foldl ins o↔x∈o∨x∈ts
 | [],o,x=>by simp
 | t::ts,o,x=>by
  simp only [List.foldl_cons,Qvn ts,Qzd,List.mem_cons];constructor
  ·rintro ((h|h)|h)
   ·exact .inl h
   ·exact .inr (.inl h)
   ·exact .inr (.inr h)
  ·rintro (h|h|h)
   ·exact .inl (.inl h)
   ·exact .inl (.inr h)
   ·exact .inr h
end Go.Abs
end
section
namespace Go.Abs
open Go
def Qio (a:Qa) (onto:List Int):List Int:=a.zD.filter fun x=>decide (x∈onto)
def Qkq (a:Qa) (onto:List Int):List Int:=a.zD.filter fun x=>!decide (x∈onto)
def Qxh (a:Qa):List (List Qi):=(upto a.zH).map (outP a)
def obsP (a:Qa) (onto:List Int):Qk:=⟨Qxh a,Qio a onto,Qkq a onto,a.zF⟩
theorem Qsb (a:Qa):(Qxh a).length=a.zH.toNat:=by simp [Qxh,Qxs]
theorem Qzi (a:Qa) {s:Nat} (h:s<a.zH.toNat):(Qxh a)[s]? = some (outP a (s:Int)):=by
 simp only [Qxh,upto,List.getElem?_map,List.getElem?_range h,Option.map_some]
theorem Q15 {a:Qa} {s:Int} (h:0≤s∧s<a.zH):getO (Qxh a) s=some (outP a s):=by
 rw [Qi5];refine ⟨h.1,?_⟩;rw [Qzi a (by omega)];congr 2;omega
theorem Qwp (onto:List Int):∀ (l k e:List Int),l.foldl (fun (s:List Int×List Int) x=>if x∈onto then (s.1++[x],s.2) else (s.1,s.2++[x])) (k,e)=(k++l.filter (fun x=>decide (x∈onto)),e++l.filter fun x=>!decide (x∈onto))
 | [],k,e=>by simp
 | x::l,k,e=>by
  rw [List.foldl_cons];by_cases hx:x∈onto
  ·rw [if_pos hx,Qwp onto l];simp [hx]
  ·rw [if_neg hx,Qwp onto l];simp [hx]
theorem Q0y {a:Qa} (h:Right a) {onto:List Int} (ho:onto.length<big):Qeg a onto=some (obsP a onto):=by
 have hs:=h.small;have hst:=h.st;unfold Qeg Q5;refine Qfw (x:=List.replicate a.zH.toNat []) (by unfold mkO;rw [if_pos ⟨hst.1,by unfold lim;omega⟩]) ?_;refine Qfw (x:=Qxh a) ?_ ?_
 ·refine (Qj2 (len:=a.zG.length) (fun n (c:List (List Qi))=>((n:Int),c)) (fun n c=>c.length=a.zH.toNat∧∀ s:Nat,s<a.zH.toNat→c[s]? = some ((a.zG.take n).filter fun x=>x.From==(s:Int))) (fun n c=>some (Qxh a)) ?_ ?_ Qbx 0 _ (Nat.zero_le _) (by unfold Qbx;omega) ⟨by simp,fun s hs=>by simp [hs]⟩)
  ·intro k n c hn ⟨i1,i2⟩ ih;have he:=h.ed0 _ (List.getElem_mem hn);dsimp only;rw [if_pos (by omega),Qb7 hn];simp only [Option.bind_some];have hin:inO (Int.toNat a.zH) a.zG[n].From=some ():=by unfold inO;rw [if_pos ⟨he.1,by omega⟩]
   have hto:((a.zG[n].From.toNat:Nat):Int)=a.zG[n].From:=by omega
   have hg:getO c a.zG[n].From=some ((a.zG.take n).filter fun x=>x.From==a.zG[n].From):=by
    rw [Qi5];refine ⟨he.1,?_⟩;rw [i2 _ (by omega),hto]
   have hfl:((a.zG.take n).filter fun x=>x.From==a.zG[n].From).length≤a.zG.length:=Nat.le_trans (List.length_filter_le _ _) (by rw [List.length_take];omega);rw [hin,hg];simp only [Option.bind_some];rw [Qc3 (by simp only [List.length_cons,List.length_nil];unfold lim;omega)];simp only [Option.bind_some];unfold setO;rw [if_pos ⟨he.1,by omega⟩,Qbl (by omega)];simp only [Option.bind_some];refine ih _ ⟨by simp [i1],fun s hs=>?_⟩;rw [List.getElem?_set,List.take_succ_eq_append_getElem hn,List.filter_append];split
   ·rename_i hss;subst hss;rw [if_pos (by omega),hto];simp
   ·rename_i hss;have:¬ a.zG[n].From=(s:Int):=by omega
    rw [i2 s hs];simp [this]
  ·intro k c ⟨i1,i2⟩;dsimp only;rw [if_neg (by omega)];congr 1;refine List.ext_getElem? fun s=>?_;by_cases hs:s<a.zH.toNat
   ·rw [i2 s hs,Qzi a hs,List.take_length];rfl
   ·rw [List.getElem?_eq_none (by omega),List.getElem?_eq_none (by rw [Qsb];omega)]
 ·refine Qfw (x:=([],[],[],[],Qio a onto,Qkq a onto)) ?_ ?_
  ·refine (Q0x (l:=a.zD) (fun n (s:List Int×List Int)=>((n:Int),[],[],[],[],s.1,s.2)) (fun (s:List Int×List Int) x=>if x∈onto then (s.1++[x],s.2) else (s.1,s.2++[x])) (fun s=>some ([],[],[],[],s.1,s.2)) (fun n s=>s.1.length≤n∧s.2.length≤n) ?_ ?_ (by unfold Qbx;omega) ([],[]) ⟨by simp,by simp⟩).trans ?_
   ·intro k n hn s ⟨i1,i2⟩;by_cases hx:a.zD[n]∈onto
    ·rw [if_pos hx];refine ⟨⟨by simp;omega,by simp;omega⟩,?_⟩;dsimp only;rw [if_pos (by omega),Qb7 hn];simp only [Option.bind_some];rw [Qkp ho];simp only [Option.bind_some,hx,decide_true,if_true];rw [Qc3 (by simp only [List.length_cons,List.length_nil];unfold lim;omega),Qbl (by omega)]
     rfl
    ·rw [if_neg hx];refine ⟨⟨by simp;omega,by simp;omega⟩,?_⟩;dsimp only;rw [if_pos (by omega),Qb7 hn];simp only [Option.bind_some];rw [Qkp ho];simp only [Option.bind_some,hx,decide_false,Bool.false_eq_true,if_false];rw [Qc3 (by simp only [List.length_cons,List.length_nil];unfold lim;omega),Qbl (by omega)]
     rfl
   ·intro k s _;dsimp only;rw [if_neg (by omega)]
   ·rw [Qwp];rfl
  ·dsimp only;unfold lenO;rw [if_pos (by rw [Qsb])]
   rfl
structure Seen (n:Nat) (l:List Int) (c:List Bool):Prop where
 len:c.length=n
 at1:∀ s:Nat,s<n→c[s]? = some (decide ((s:Int)∈l))
theorem Seen.start (n:Nat):Seen n [] (List.replicate n false):=⟨by simp,fun s hs=>by simp [hs]⟩
theorem Qbcc {n:Nat} {l:List Int} {c:List Bool} (h:Seen n l c) {x:Int} (hx:0≤x∧x<n) (hl:l.length<big):∃ c',Qba x c l=some (c',ins l x)∧Seen n (ins l x) c':=by
 have hg:getO c x=some (decide (x∈l)):=by
  rw [Qi5];refine ⟨hx.1,?_⟩;rw [h.at1 _ (by omega)];congr 2;rw [show ((x.toNat:Nat):Int)=x from by omega]
 unfold Qba Qbd;have hin:inO c.length x=some ():=by unfold inO;rw [if_pos ⟨hx.1,by rw [h.len];omega⟩]
 rw [hin,hg];simp only [Option.bind_some];by_cases hm:x∈l
 ·rw [if_pos (by simp [hm])];exact ⟨c,by simp [ins,hm],by simpa [ins,hm] using h⟩
 ·rw [if_neg (by simp [hm])];unfold setO;rw [if_pos ⟨hx.1,by rw [h.len];omega⟩];simp only [Option.bind_some];rw [Qc3 (by simp only [List.length_cons,List.length_nil];unfold big at hl;unfold lim;omega)];refine ⟨c.set x.toNat true,by simp [ins,hm],?_⟩;simp only [ins,hm,if_false];refine ⟨by simp [h.len],fun s hs=>?_⟩;rw [List.getElem?_set];split
  ·rename_i e;subst e;rw [if_pos (by rw [h.len];exact hs)];simp;omega
  ·rename_i e;rw [h.at1 s hs];have:¬ (s:Int)=x:=by omega
   simp [this]
theorem Q6h {a:Qa} (h:Right a) {onto fr ev:List Int} (hf:∀ s∈fr,0≤s∧s<a.zH) (hfl:fr.length<big) (hev:ev.length<big) :
  Qde (obsP a onto) fr ev=some (Qqh a fr ev):=by
 have hst:=h.st;have hsm:=h.small;have hr:=Qzh h ev;have hlen:((obsP a onto).out_.length:Int)=a.zH:=by show ((Qxh a).length:Int)=_;rw [Qsb];omega
 unfold Qde Q2;rw [hlen];refine Qfw (x:=List.replicate a.zH.toNat false) (by unfold mkO;rw [if_pos ⟨hst.1,by unfold lim;omega⟩]) ?_;have hF0:Fnd (Qmg a ev) (fr.foldl ins []):=(Qvm (a:=Qmg a ev) ⟨by simp,by simp⟩ hf).1;have hlo:∀ {o:List Int},Fnd (Qmg a ev) o→o.length≤a.zH.toNat:=fun h=>h.len;obtain ⟨c1,hc1,h1⟩ : ∃ c1,Seen a.zH.toNat (fr.foldl ins []) c1∧Qdm (fun (k9:Int×List Int×List Bool→Option (List Int×List Bool)) ((x6,l7,c8):Int×(List Int)×(List Bool))=>(if (x6<(fr.length:Int)) then ((getO fr x6).bind fun x11=>((lenO c8 (Int.toNat a.zH)).bind fun _=>((Qba x11 c8 l7).bind fun (c14,c15)=>k9 ((IntKind.wrap .i64 (x6+1)),c15,c14)))) else some (l7,c8))) Qbx (0,[],List.replicate a.zH.toNat false)=some (fr.foldl ins [],c1):=by
  have:=Qdt (F:=fun (k9:Int×List Int×List Bool→Option (List Int×List Bool)) ((x6,l7,c8):Int×(List Int)×(List Bool))=>(if (x6<(fr.length:Int)) then ((getO fr x6).bind fun x11=>((lenO c8 (Int.toNat a.zH)).bind fun _=>((Qba x11 c8 l7).bind fun (c14,c15)=>k9 ((IntKind.wrap .i64 (x6+1)),c15,c14)))) else some (l7,c8)))
   (fun x=>∃ n:Nat,x.1=(n:Int)∧n≤fr.length∧Fnd (Qmg a ev) x.2.1∧Seen a.zH.toNat x.2.1 x.2.2∧(fr.drop n).foldl ins x.2.1=fr.foldl ins []) (fun x=>fr.length-x.1.toNat)
   (fun x r=>∃ c1,Seen a.zH.toNat (fr.foldl ins []) c1∧r=some (fr.foldl ins [],c1)) (by
    rintro k ⟨_,l,c⟩ ⟨n,rfl,hn,hF,hS,he⟩ ih;replace hF:Fnd (Qmg a ev) l:=hF;replace hS:Seen a.zH.toNat l c:=hS;have hll:=hlo hF;dsimp only at he ⊢;by_cases hlt:n<fr.length
    ·rw [if_pos (by omega),Qb7 hlt];simp only [Option.bind_some];have hx:=hf _ (List.getElem_mem hlt);obtain ⟨c',hadd,hS'⟩:=Qbcc hS (x:=fr[n]) ⟨hx.1,by omega⟩ (by unfold big;omega);unfold lenO;rw [if_pos hS.len];simp only [Option.bind_some];rw [hadd];simp only [Option.bind_some];rw [Qbl (by unfold big at hfl;omega)];rw [List.drop_eq_getElem_cons hlt,List.foldl_cons] at he;exact ih _ ⟨n+1,rfl,by omega,hF.ins hx,hS',he⟩ (by simp only;omega)
    ·rw [if_neg (by omega)];have:fr.drop n=[]:=List.drop_eq_nil_of_le (by omega);rw [this] at he;exact ⟨c,by rw [← he];exact hS,by rw [← he];rfl⟩) Qbx (0,[],List.replicate a.zH.toNat false) ⟨0,rfl,by omega,⟨by simp,by simp⟩,Seen.start _,rfl⟩ (by simp only [Int.toNat_zero];unfold Qbx;unfold big at hfl;omega)
  exact this
 refine Qfw h1 ?_;dsimp only;obtain ⟨c2,h2⟩ : ∃ c2,Qdm (fun (k22:Int×List Int×List Bool→Option (List Int×List Bool)) ((i19,l20,c21):Int×(List Int)×(List Bool))=>(if (i19<(l20.length:Int)) then ((((getO l20 i19).bind fun x24=>((getO (obsP a onto).out_ x24).bind fun x26=>Qdm (fun (k31:Int×List Int×List Bool→Option (List Int×List Bool)) ((x28,l29,c30):Int×(List Int)×(List Bool))=>(if (x28<(x26.length:Int)) then ((((getO x26 x28).bind fun x33=>((Qbh ev x33.Event).bind fun x36=>(if x36 then ((lenO c30 (Int.toNat a.zH)).bind fun _=>((Qba x33.To c30 l29).bind fun (c39,c40)=>some (c40,c39,x33.From,x33.Event,x33.To))) else some (l29,c30,x33.From,x33.Event,x33.To))))).bind fun ((l42,c43,c44,c45,c46):(List Int)×(List Bool)×Int×Int×Int)=>k31 ((IntKind.wrap .i64 (x28+1)),l42,c43)) else some (l29,c30))) Qbx (0,l20,c21)))).bind fun ((l47,c48):(List Int)×(List Bool))=>k22 ((IntKind.wrap .i64 (i19+1)),l47,c48)) else some (l20,c21))) Qbx (0,fr.foldl ins [],c1)=some (bfs (Qmg a ev) (a.zH.toNat+1) 0 (fr.foldl ins []),c2):=by
  have:=Qdt (F:=fun (k22:Int×List Int×List Bool→Option (List Int×List Bool)) ((i19,l20,c21):Int×(List Int)×(List Bool))=>(if (i19<(l20.length:Int)) then ((((getO l20 i19).bind fun x24=>((getO (obsP a onto).out_ x24).bind fun x26=>Qdm (fun (k31:Int×List Int×List Bool→Option (List Int×List Bool)) ((x28,l29,c30):Int×(List Int)×(List Bool))=>(if (x28<(x26.length:Int)) then ((((getO x26 x28).bind fun x33=>((Qbh ev x33.Event).bind fun x36=>(if x36 then ((lenO c30 (Int.toNat a.zH)).bind fun _=>((Qba x33.To c30 l29).bind fun (c39,c40)=>some (c40,c39,x33.From,x33.Event,x33.To))) else some (l29,c30,x33.From,x33.Event,x33.To))))).bind fun ((l42,c43,c44,c45,c46):(List Int)×(List Bool)×Int×Int×Int)=>k31 ((IntKind.wrap .i64 (x28+1)),l42,c43)) else some (l29,c30))) Qbx (0,l20,c21)))).bind fun ((l47,c48):(List Int)×(List Bool))=>k22 ((IntKind.wrap .i64 (i19+1)),l47,c48)) else some (l20,c21)))
   (fun x=>∃ i:Nat,x.1=(i:Int)∧i≤x.2.1.length∧Fnd (Qmg a ev) x.2.1∧Seen a.zH.toNat x.2.1 x.2.2) (fun x=>a.zH.toNat+1-x.1.toNat)
   (fun x r=>∃ c2,r=some (bfs (Qmg a ev) (a.zH.toNat+1-x.1.toNat) x.1.toNat x.2.1,c2)) (by
    rintro k ⟨_,l,c⟩ ⟨i,rfl,hi,hF,hS⟩ ih;replace hi:i≤l.length:=hi;replace hF:Fnd (Qmg a ev) l:=hF;replace hS:Seen a.zH.toNat l c:=hS;have hll:=hlo hF;dsimp only;by_cases hlt:i<l.length
    ·rw [if_pos (by omega),Qb7 hlt];have hx:=hF.rg _ (List.getElem_mem hlt);have hx:0≤l[i]∧l[i]<a.zH:=hx;simp only [Option.bind_some];rw [show getO (obsP a onto).out_ l[i]=_ from Q15 hx];simp only [Option.bind_some];have hlo2:(outP a l[i]).length≤a.zG.length:=List.length_filter_le _ _;obtain ⟨c',hF',hS',hin⟩ : ∃ c',Fnd (Qmg a ev) ((Quk (Qmg a ev) l[i]).foldl ins l)∧Seen a.zH.toNat ((Quk (Qmg a ev) l[i]).foldl ins l) c'∧Qdm (fun (k31:Int×List Int×List Bool→Option (List Int×List Bool)) ((x28,l29,c30):Int×(List Int)×(List Bool))=>(if (x28<((outP a l[i]).length:Int)) then ((((getO (outP a l[i]) x28).bind fun x33=>((Qbh ev x33.Event).bind fun x36=>(if x36 then ((lenO c30 (Int.toNat a.zH)).bind fun _=>((Qba x33.To c30 l29).bind fun (c39,c40)=>some (c40,c39,x33.From,x33.Event,x33.To))) else some (l29,c30,x33.From,x33.Event,x33.To))))).bind fun ((l42,c43,c44,c45,c46):(List Int)×(List Bool)×Int×Int×Int)=>k31 ((IntKind.wrap .i64 (x28+1)),l42,c43)) else some (l29,c30))) Qbx (0,l,c)=some ((Quk (Qmg a ev) l[i]).foldl ins l,c'):=by
      rw [Q7f];have:=Qdt (F:=fun (k31:Int×List Int×List Bool→Option (List Int×List Bool)) ((x28,l29,c30):Int×(List Int)×(List Bool))=>(if (x28<((outP a l[i]).length:Int)) then ((((getO (outP a l[i]) x28).bind fun x33=>((Qbh ev x33.Event).bind fun x36=>(if x36 then ((lenO c30 (Int.toNat a.zH)).bind fun _=>((Qba x33.To c30 l29).bind fun (c39,c40)=>some (c40,c39,x33.From,x33.Event,x33.To))) else some (l29,c30,x33.From,x33.Event,x33.To))))).bind fun ((l42,c43,c44,c45,c46):(List Int)×(List Bool)×Int×Int×Int)=>k31 ((IntKind.wrap .i64 (x28+1)),l42,c43)) else some (l29,c30)))
       (fun x=>∃ n:Nat,x.1=(n:Int)∧n≤(outP a l[i]).length∧Fnd (Qmg a ev) x.2.1∧Seen a.zH.toNat x.2.1 x.2.2∧((((outP a l[i]).drop n).filter fun x=>decide (x.Event∈ev)).map (·.To)).foldl ins x.2.1=(((outP a l[i]).filter fun x=>decide (x.Event∈ev)).map (·.To)).foldl ins l) (fun x=>(outP a l[i]).length-x.1.toNat)
       (fun x r=>∃ c1,Fnd (Qmg a ev) ((((outP a l[i]).filter fun x=>decide (x.Event∈ev)).map (·.To)).foldl ins l)∧Seen a.zH.toNat ((((outP a l[i]).filter fun x=>decide (x.Event∈ev)).map (·.To)).foldl ins l) c1∧r=some ((((outP a l[i]).filter fun x=>decide (x.Event∈ev)).map (·.To)).foldl ins l,c1)) (by
        rintro k ⟨_,l2,c2⟩ ⟨n,rfl,hn,hF,hS,he⟩ ih;replace hF:Fnd (Qmg a ev) l2:=hF;replace hS:Seen a.zH.toNat l2 c2:=hS;have hll:=hlo hF;dsimp only at he ⊢;by_cases hlt2:n<(outP a l[i]).length
        ·rw [if_pos (by omega),Qb7 hlt2];simp only [Option.bind_some];rw [Qkp hev];rw [List.drop_eq_getElem_cons hlt2,List.filter_cons] at he;have hed:(outP a l[i])[n]∈a.zG:=(List.mem_filter.1 (List.getElem_mem hlt2)).1;have hto:=(h.ed0 _ hed).2.2;by_cases hx:(outP a l[i])[n].Event∈ev
         ·simp only [Option.bind_some,hx,decide_true,if_true] at he ⊢;obtain ⟨c',hadd,hS'⟩:=Qbcc hS (x:=(outP a l[i])[n].To) ⟨hto.1,by omega⟩ (by unfold big;omega);unfold lenO;rw [if_pos hS.len];simp only [Option.bind_some];rw [hadd];simp only [Option.bind_some];rw [Qbl (by omega)];exact ih _ ⟨n+1,rfl,by omega,hF.ins ⟨hto.1,hto.2.1⟩,hS',he⟩ (by simp only;omega)
         ·simp only [Option.bind_some,hx,decide_false,Bool.false_eq_true,if_false] at he ⊢;rw [Qbl (by omega)];exact ih _ ⟨n+1,rfl,by omega,hF,hS,he⟩ (by simp only;omega)
        ·rw [if_neg (by omega)];have:(outP a l[i]).drop n=[]:=List.drop_eq_nil_of_le (by omega);rw [this] at he;simp only [List.filter_nil,List.map_nil,List.foldl_nil] at he;exact ⟨c2,by rw [← he];exact hF,by rw [← he];exact hS,by rw [← he]⟩) Qbx (0,l,c) ⟨0,rfl,Nat.zero_le _,hF,hS,rfl⟩ (by simp only [Int.toNat_zero];unfold Qbx;omega)
      exact this
     rw [hin];simp only [Option.bind_some];rw [Qbl (by omega)];have hpre:=(Qvm hF (Qze hr l[i])).2.1;obtain ⟨c3,hc3⟩:=ih ((i+1:Nat),_,c') ⟨i+1,rfl,by have:=hpre.length_le;simp only;omega,hF',hS'⟩ (by simp only;omega);refine ⟨c3,hc3.trans ?_⟩;simp only [Int.toNat_natCast];rw [show a.zH.toNat+1-i=(a.zH.toNat+1-(i+1))+1 from by omega,Qbbh hlt]
    ·rw [if_neg (by omega)];obtain rfl:i=l.length:=by omega
     exact ⟨c,by simp only [Int.toNat_natCast,Qbds]⟩) Qbx (0,fr.foldl ins [],c1) ⟨0,rfl,Nat.zero_le _,hF0,hc1⟩ (by simp only [Int.toNat_zero];unfold Qbx;omega)
  simpa using this
 refine Qfw h2 ?_;dsimp only;obtain ⟨q1,q2⟩:=Q3w h (ev:=ev) hf (o:=fr.foldl ins []) (fun s=>by rw [Qvn];simp) hF0.nd;have hql:=hlo q1;unfold Qbdi;rw [if_pos (by unfold lim;omega),q2]
 rfl
end Go.Abs
end
section
namespace Go.Abs
open Go
structure Evs (l:List Int):Prop where
 rg:∀ x∈l,0≤x∧x<5
 so:l.Pairwise (· < ·)
theorem Evs.len {l:List Int} (h:Evs l):l.length≤5:=by have:=Qe3 h.so h.rg;simpa using this
structure Mks (n:Nat) (ms:List Int):Prop where
 rg:∀ x∈ms,0≤x∧x<n
 so:ms.Pairwise (· < ·)
structure Eds (al:List Int) (N:Int) (i k:Nat) (es:List Qi):Prop where
 rg:∀ x∈es,0≤x.From∧0≤x.To∧x.To<N∧x.Event∈al∧(x.From<i∨x.From=i∧∃ j:Nat,j<k∧al[j]? = some x.Event)
 so:es.Pairwise Qr9
 ln:es.length≤5*i+k
theorem Mks.up {n:Nat} {ms:List Int} (h:Mks n ms):Mks (n+1) ms:=⟨fun x hx=>by have:=h.rg x hx;omega,h.so⟩
theorem Mks.add {n:Nat} {ms:List Int} (h:Mks n ms):Mks (n+1) (ms++[(n:Int)]):=by
 refine ⟨fun x hx=>?_,?_⟩
 ·rcases List.mem_append.1 hx with hx|hx
  ·have:=h.rg x hx;omega
  ·simp at hx;omega
 ·rw [List.pairwise_append];exact ⟨h.so,by simp,fun x hx y hy=>by simp at hy;have:=h.rg x hx;omega⟩
theorem Mks.len {n:Nat} {ms:List Int} (h:Mks n ms):ms.length≤n:=by have:=Qe3 h.so h.rg;simpa using this
section
variable {al:List Int} (hal:Evs al) {N:Int} {i k:Nat} {es:List Qi}
theorem Eds.up (h:Eds al N i k es):Eds al N i (k+1) es:=⟨fun x hx=>by
 obtain ⟨h1,h2,h3,h4,h5⟩:=h.rg x hx;refine ⟨h1,h2,h3,h4,?_⟩;rcases h5 with h5|⟨h5,j,h6,h7⟩
 ·exact .inl h5
 ·exact .inr ⟨h5,j,by omega,h7⟩,h.so,by have:=h.ln;omega⟩
theorem Eds.next (h:Eds al N i k es) (hk:k≤5):Eds al N (i+1) 0 es:=⟨fun x hx=>by
 obtain ⟨h1,h2,h3,h4,h5⟩:=h.rg x hx;exact ⟨h1,h2,h3,h4,.inl (by rcases h5 with h5|⟨h5,_⟩<;>omega)⟩,h.so,by have:=h.ln;omega⟩
include hal in
theorem Eds.add (h:Eds al N i k es) (hk:k<al.length) {t:Int} (ht:0≤t∧t<N):Eds al N i (k+1) (es++[⟨(i:Int),al[k],t⟩]):=by
 refine ⟨fun x hx=>?_,?_,by have:=h.ln;simp only [List.length_append,List.length_cons,List.length_nil];omega⟩
 ·rcases List.mem_append.1 hx with hx|hx
  ·exact h.up.rg x hx
  ·simp at hx;subst hx;exact ⟨by simp only;omega,ht.1,ht.2,List.getElem_mem hk,.inr ⟨rfl,k,by omega,List.getElem?_eq_getElem hk⟩⟩
 ·rw [List.pairwise_append];refine ⟨h.so,by simp,fun x hx y hy=>?_⟩;simp at hy;subst hy;obtain ⟨_,_,_,_,h5⟩:=h.rg x hx;rcases h5 with h5|⟨h5,j,h6,h7⟩
  ·exact .inl h5
  ·refine .inr ⟨h5,?_⟩;obtain ⟨h8,h9⟩:=List.getElem?_eq_some_iff.1 h7;rw [← h9];exact List.pairwise_iff_getElem.1 hal.so j k h8 hk h6
end
end Go.Abs
end
section
namespace Go.Abs
open Go
def Qn3 (a:Qa) (est:List Int) (e:Int):List Int:=est.flatMap fun s=>((outP a s).filter fun x=>x.Event==e).map (·.To)
noncomputable def Qul (a:Qa) (onto est:List Int) (e:Int):List Int:=Qqh a (Qn3 a est e) (Qkq a onto)
noncomputable def Qsc (a:Qa) (onto:List Int):List Int:=if a.zH=0 then [] else Qqh a [0] (Qkq a onto)
noncomputable def estP (a:Qa) (onto obs:List Int):List Int:=obs.foldl (Qul a onto) (Qsc a onto)
structure Sts (a:Qa) (l:List Int):Prop where
 rg:∀ s∈l,0≤s∧s<a.zH
 so:l.Pairwise (· < ·)
theorem Sts.len {a:Qa} {l:List Int} (h:Sts a l):l.length≤a.zH.toNat:=by
 have:=Qe3 (a:=0) (b:=a.zH) h.so h.rg;omega
theorem Q0z (a:Qa) (fr ev:List Int):Sts a (Qqh a fr ev):=⟨fun s hs=>(Qwo.1 hs).1,Qzg _ _ _⟩
theorem Qvo (a:Qa) (onto est:List Int) (e:Int):Sts a (Qul a onto est e):=Q0z _ _ _
theorem Qmk (a:Qa) (onto:List Int):Sts a (Qsc a onto):=by
 unfold Qsc;split
 ·exact ⟨by simp,by simp⟩
 ·exact Q0z _ _ _
theorem Q91 {a:Qa} {est:List Int} {e t:Int}:t∈Qn3 a est e↔∃ x∈a.zG,x.From∈est∧x.Event=e∧x.To=t:=by
 simp only [Qn3,outP,List.mem_flatMap,List.mem_map,List.mem_filter,beq_iff_eq];constructor
 ·rintro ⟨s,hs,x,⟨⟨h1,h2⟩,h3⟩,h4⟩;exact ⟨x,h1,by rw [h2];exact hs,h3,h4⟩
 ·rintro ⟨x,h1,h2,h3,h4⟩;exact ⟨x.From,h2,x,⟨⟨h1,rfl⟩,h3⟩,h4⟩
theorem Q42 {a:Qa} (h:Right a) {est:List Int} {e:Int}:∀ s∈Qn3 a est e,0≤s∧s<a.zH:=by
 intro s hs;obtain ⟨x,hx,_,_,rfl⟩:=Q91.1 hs;exact ⟨(h.ed0 x hx).2.2.1,(h.ed0 x hx).2.2.2.1⟩
theorem Q6i {α β:Type} {f:α→List β} {m:Nat}:∀ {l:List α},(∀ x∈l,(f x).length≤m)→(l.flatMap f).length≤m*l.length
 | [],_=>by simp
 | x::l,h=>by
  have h1:=h x (by simp);have h2:=Q6i (l:=l) fun y hy=>h y (by simp [hy]);simp only [List.flatMap_cons,List.length_append,List.length_cons,Nat.mul_succ];omega
theorem Qbdv (a:Qa) (s e:Int):((outP a s).filter fun x=>x.Event==e).length≤a.zG.length:=Nat.le_trans (List.length_filter_le _ _) (List.length_filter_le _ _)
theorem Q3x {a:Qa} (h:Right a) {est:List Int} (hl:est.length≤5000) (e:Int):(Qn3 a est e).length≤131072*5000:=by
 have:=Q6i (f:=fun s=>((outP a s).filter fun x=>x.Event==e).map (·.To)) (m:=131072) (l:=est) fun s _=>by
  have:=Qbdv a s e;have:=h.small.2.2.2;rw [List.length_map];omega
 exact Nat.le_trans this (Nat.mul_le_mul_left _ hl)
theorem Q00 {a:Qa} (h:Right a) (onto:List Int):(Qkq a onto).length<big:=by
 have:=h.small.2.1;have:(Qkq a onto).length≤a.zD.length:=List.length_filter_le _ _;unfold big;omega
theorem Qvp {a:Qa} (h:Right a) (onto:List Int):(Qio a onto).length≤32:=by
 have:=h.small.2.1;have:(Qio a onto).length≤a.zD.length:=List.length_filter_le _ _;omega
theorem Q01 {a:Qa} (h:Right a) {onto est:List Int} (he:∀ s∈est,0≤s∧s<a.zH) (hl:est.length≤5000) (e:Int) :
  Qdk (obsP a onto) est e=some (Qul a onto est e):=by
 have hsm:=h.small;have hmax:=Q3x h hl e;unfold Qdk Q6;refine Qfw (x:=Qn3 a est e) ?_ ?_
 ·refine (Qj2 (len:=est.length) (fun n (l:List Int)=>(l,(n:Int))) (fun n l=>l=Qn3 a (est.take n) e) (fun n l=>some (Qn3 a est e)) ?_ ?_ Qbx 0 [] (Nat.zero_le _) (by unfold Qbx;omega) (by simp [Qn3]))
  ·rintro k n l hn rfl ih;have hx:=he _ (List.getElem_mem hn);dsimp only;rw [if_pos (by omega),Qb7 hn];simp only [Option.bind_some];rw [show getO (obsP a onto).out_ est[n]=_ from Q15 hx];simp only [Option.bind_some];have hol:(outP a est[n]).length≤131072:=Nat.le_trans (List.length_filter_le _ _) hsm.2.2.2;have hml:(Qn3 a (est.take n) e).length≤131072*5000:=Q3x h (by rw [List.length_take];omega) e;refine Qfw (x:=Qn3 a (est.take n) e++((outP a est[n]).filter fun x=>x.Event==e).map (·.To)) ?_ ?_
   ·refine (Qj2 (len:=(outP a est[n]).length) (fun m (l:List Int)=>(l,(m:Int))) (fun m l=>l=Qn3 a (est.take n) e++(((outP a est[n]).take m).filter fun x=>x.Event==e).map (·.To)) (fun m l=>some (Qn3 a (est.take n) e++((outP a est[n]).filter fun x=>x.Event==e).map (·.To))) ?_ ?_ Qbx 0 _ (Nat.zero_le _) (by unfold Qbx;omega) (by simp))
    ·rintro k m l hm rfl ih;dsimp only;rw [if_pos (by omega),Qb7 hm];simp only [Option.bind_some];have hfl:((((outP a est[n]).take m).filter fun x=>x.Event==e).map (·.To)).length≤131072:=by
      rw [List.length_map];exact Nat.le_trans (List.length_filter_le _ _) (by rw [List.length_take];omega)
     by_cases hx:(outP a est[n])[m].Event=e
     ·rw [if_pos (by simp [hx]),Qc3 (by rw [List.length_append];simp only [List.length_cons,List.length_nil];unfold lim;omega)];simp only [Option.bind_some];rw [Qbl (by omega)];refine ih _ ?_;rw [List.take_succ_eq_append_getElem hm,List.filter_append,List.map_append,List.append_assoc];simp [hx]
     ·rw [if_neg (by simp [hx])];simp only [Option.bind_some];rw [Qbl (by omega)];refine ih _ ?_;rw [List.take_succ_eq_append_getElem hm,List.filter_append,List.map_append];simp [hx]
    ·rintro k l rfl;dsimp only;rw [if_neg (by omega),List.take_length]
   ·rw [Qbl (by omega)];refine ih _ ?_;rw [List.take_succ_eq_append_getElem hn];simp only [Qn3,List.flatMap_append,List.flatMap_cons,List.flatMap_nil,List.append_nil]
  ·rintro k l rfl;dsimp only;rw [if_neg (by omega),List.take_length]
 ·rw [show (obsP a onto).erased_=Qkq a onto from rfl,Q6h h (Q42 h) (by unfold big;omega) (Q00 h onto)]
  rfl
theorem Q6j {a:Qa} (h:Right a) (onto:List Int):Qdf (obsP a onto)=some (Qsc a onto):=by
 have hst:=h.st;unfold Qdf Q3;have hlen:((obsP a onto).out_.length:Int)=a.zH:=by show ((Qxh a).length:Int)=_;rw [Qsb];omega
 rw [hlen];unfold Qsc;by_cases h0:a.zH=0
 ·rw [if_pos (by simp [h0]),if_pos h0]
 ·rw [if_neg (by simp [h0]),if_neg h0,show (obsP a onto).erased_=Qkq a onto from rfl,Q6h h (fun s hs=>by simp at hs;subst hs;omega) (by unfold big;simp) (Q00 h onto)]
  rfl
theorem Q43 {a:Qa} (h:Right a) {onto est:List Int} (hl:est.length<big):Qdp (obsP a onto) est=some (est.any fun x=>decide (x∈a.zF)):=by
 have hm:=h.small.2.2.1;unfold Qdp Qbj;rw [Qsa (p:=fun x=>decide (x∈a.zF)) (fun x=>by
  unfold Qel Qbc;rw [show (obsP a onto).marked_=a.zF from rfl,Qkp (by unfold big;omega)];rfl) hl]
 rfl
theorem Q44 {a:Qa} (h:Right a) {onto obs:List Int} (hl:obs.length<big):Qdd (obsP a onto) obs=some (obs.all fun x=>decide (x∈Qio a onto)):=by
 have hk:=Qvp h onto;unfold Qdd Q1;rw [Qsa (p:=fun x=>!decide (x∈Qio a onto)) (fun x=>by
  unfold Qe9 Qbp;rw [show (obsP a onto).kept_=Qio a onto from rfl,Qkp (by unfold big;omega)];rfl) hl]
 simp only [Option.bind_some];congr 1;rw [List.not_any_eq_all_not];simp
theorem Q3y {l:List Int} {n:Int} (hl:l.length<big):Qib l n=some (Qfp n none l):=Quj hl
theorem Q92 {a:Qa} (h:small a) {ev:List Int} (hl:ev.length<big):Qec a ev=some (if Qgm a=0 then Qfp 32 none ev else Qgm a):=by
 unfold Qec Qbb;rw [Qvk h];simp only [Option.bind_some];by_cases h0:Qgm a=0
 ·rw [if_neg (by simp [h0]),if_pos h0,Q3y hl];rfl
 ·rw [if_pos (by simp [h0]),if_neg h0]
theorem Qw7 {a:Qa} (h:Right a) {ev:List Int} (hl:ev.length<big):Qec a ev=some (Qfp 32 none ev):=by
 rw [Q92 h.small.1 hl,if_pos (Qvl.2 h)]
structure EvSet (l:List Int):Prop where
 rg:∀ x∈l,0≤x∧x<32
 so:l.Pairwise (· < ·)
theorem EvSet.err {l:List Int} (h:EvSet l):Qfp 32 none l=0:=Qig.2 ⟨h.rg,h.so,fun y hy=>by cases hy⟩
theorem EvSet.len {l:List Int} (h:EvSet l):l.length≤32:=by have:=Qe3 (a:=0) (b:=32) h.so h.rg;omega
theorem Evs.set {l:List Int} (h:Evs l):EvSet l:=⟨fun x hx=>by have:=h.rg x hx;omega,h.so⟩
theorem Q3z {l:List Int} {N:Nat} (hn:l.Nodup) (hr:∀ x∈l,0≤x∧x<N):l.length≤N:=by
 obtain ⟨h1,h2⟩:=Qzf hn;have:=Qe3 (a:=0) (b:=N) h1 fun x hx=>hr x ((h2 x).1 hx);rw [Qjz] at this;omega
end Go.Abs
end
section
namespace Go.Abs
open Go
theorem Qvq {κ β:Type} [DecidableEq κ] {v:β} {k k' : κ}:∀ {m:List (κ×β)},hasM (setM m k v) k'=(decide (k'=k)||hasM m k')
 | []=>by simp only [setM,hasM,List.any_cons,List.any_nil];rw [Bool.eq_iff_iff];simp
 | (q,w)::m=>by
  have ih:=Qvq (v:=v) (k:=k) (k':=k') (m:=m);simp only [setM];by_cases h:k=q
  ·subst h;simp only [beq_self_eq_true,if_true,Qor];rw [Bool.eq_iff_iff];simp
  ·have:(k==q)=false:=by simp [h]
   simp only [this,Bool.false_eq_true,if_false,Qor];rw [ih];cases (k'==q)<;>cases decide (k'=k)<;>rfl
theorem Qvr {κ β:Type} [DecidableEq κ] {z v:β} {k k' : κ}:∀ {m:List (κ×β)},getM (setM m k v) k' z=if k'=k then v else getM m k' z
 | []=>by
  simp only [setM,getM];by_cases h:k'=k
  ·subst h;simp
  ·have:(k'==k)=false:=by simp [h]
   simp [this,h]
 | (q,w)::m=>by
  have ih:=Qvr (z:=z) (v:=v) (k:=k) (k':=k') (m:=m);simp only [setM];by_cases h:k=q
  ·subst h;simp only [beq_self_eq_true,if_true,getM];by_cases h2:k'=k
   ·subst h2;simp
   ·have:(k'==k)=false:=by simp [h2]
    simp [this,h2]
  ·have e:(k==q)=false:=by simp [h]
   simp only [e,Bool.false_eq_true,if_false,getM];by_cases h2:k'=q
   ·subst h2;have:¬ k'=k:=fun e=>h e.symm;simp [this]
   ·have:(k'==q)=false:=by simp [h2]
    simp only [this,Bool.false_eq_true,if_false,ih]
structure Qce where
 state_:Int
 done_:Int
 word_:List Int
 deriving DecidableEq
def Qn4 (z:Qce):Qm:=⟨z.state_,z.done_⟩
def Qbdw (onto obs:List Int) (done e:Int):Option Int:=if e∈onto then (if done=obs.length∨getO obs done≠some e then none else some (done+1)) else some done
def addN (onto obs:List Int) (x:Qce) (L:List Qce) (y:Qi):List Qce :=
 match Qbdw onto obs x.done_ y.Event with
 | none=>L
 | some d=>if (L.any fun z=>decide (Qn4 z=⟨y.To,d⟩)) then L else L++[⟨y.To,d,x.word_++[y.Event]⟩]
structure Nodes (a:Qa) (n:Nat) (L:List Qce):Prop where
 rg:∀ z∈L,(0≤z.state_∧z.state_<a.zH)∧0≤z.done_∧z.done_≤n
 nd:(L.map Qn4).Nodup
 wl:∀ (j:Nat) z,L[j]? = some z→z.word_.length≤j
theorem Nodes.len {a:Qa} {n:Nat} {L:List Qce} (h:Nodes a n L):L.length≤a.zH.toNat*(n+1):=by
 have h1:((L.map Qn4).map fun p=>p.state_*((n:Int)+1)+p.done_).Nodup:=by
  refine List.Pairwise.map _ (S:=fun a b=>a≠b) (fun p q h=>h) ?_;refine List.Pairwise.imp_of_mem (fun {p q} hp hq hne=>?_) h.nd;obtain ⟨z,hz,rfl⟩:=List.mem_map.1 hp;obtain ⟨y,hy,rfl⟩:=List.mem_map.1 hq;have hz:=h.rg z hz;have hy:=h.rg y hy;intro e;refine hne ?_;simp only [Qn4] at e ⊢;have e1:z.state_=y.state_:=by
   rcases Int.lt_trichotomy z.state_ y.state_ with hlt|heq|hgt
   ·exfalso;have:(z.state_+1)*((n:Int)+1)≤y.state_*((n:Int)+1):=Int.mul_le_mul_of_nonneg_right (by omega) (by omega);rw [Int.add_mul] at this;omega
   ·exact heq
   ·exfalso;have:(y.state_+1)*((n:Int)+1)≤z.state_*((n:Int)+1):=Int.mul_le_mul_of_nonneg_right (by omega) (by omega);rw [Int.add_mul] at this;omega
  rw [e1] at e ⊢;have:z.done_=y.done_:=by omega
  rw [this]
 have:=Q3z (N:=a.zH.toNat*(n+1)) h1 fun x hx=>by
  obtain ⟨p,hp,rfl⟩:=List.mem_map.1 hx;obtain ⟨z,hz,rfl⟩:=List.mem_map.1 hp;have hz:=h.rg z hz;simp only [Qn4];have h0:0≤z.state_*((n:Int)+1):=Int.mul_nonneg hz.1.1 (by omega);have h2:(z.state_+1)*((n:Int)+1)≤a.zH*((n:Int)+1):=Int.mul_le_mul_of_nonneg_right (by omega) (by omega);rw [Int.add_mul] at h2;have e:((a.zH.toNat*(n+1):Nat):Int)=a.zH*((n:Int)+1):=by
   rw [Int.natCast_mul,Int.natCast_add,Int.natCast_one,Int.toNat_of_nonneg (by omega)]
  rw [e];omega
 simpa using this
structure KW (L:List Qce) (c:List (Qm×List Int)):Prop where
 has:∀ p,hasM c p=L.any fun z=>decide (Qn4 z=p)
 get:∀ z∈L,getM c (Qn4 z) []=z.word_
theorem KW.add {a:Qa} {n:Nat} {L:List Qce} {c:List (Qm×List Int)} (h:KW L c) (z:Qce) (hz:(L.any fun y=>decide (Qn4 y=Qn4 z))=false):KW (L++[z]) (setM c (Qn4 z) z.word_):=by
 refine ⟨fun p=>?_,fun y hy=>?_⟩
 ·rw [Qvq,h.has,List.any_append];simp only [List.any_cons,List.any_nil,Bool.or_false];rw [Bool.or_comm];congr 1;exact decide_eq_decide.2 ⟨fun e=>e.symm,fun e=>e.symm⟩
 ·rw [Qvr];rw [List.mem_append,List.mem_singleton] at hy;rcases hy with hy|rfl
  ·have:¬ Qn4 y=Qn4 z:=fun e=>by
    have:=List.any_eq_false.1 hz y hy;simp [e] at this
   rw [if_neg this,h.get y hy]
  ·rw [if_pos rfl]
theorem Nodes.add {a:Qa} {n:Nat} {L:List Qce} (h:Nodes a n L) {onto obs:List Int} (ho:obs.length=n) {x:Qce} {i:Nat} (hx:L[i]? = some x) {y:Qi} (hy:0≤y.To∧y.To<a.zH):Nodes a n (addN onto obs x L y)∧L <+: addN onto obs x L y:=by
 unfold addN;cases hd:Qbdw onto obs x.done_ y.Event with
 | none=>exact ⟨h,List.prefix_refl L⟩
 | some d =>
  dsimp only;split
  ·exact ⟨h,List.prefix_refl L⟩
  ·rename_i hn;have hn:(L.any fun z=>decide (Qn4 z=⟨y.To,d⟩))=false:=by simpa using hn
   have hxm:=h.rg x (List.mem_of_getElem? hx);have hdr:0≤d∧d≤n:=by
    unfold Qbdw at hd;split at hd
    ·split at hd
     ·cases hd
     ·rename_i hc;cases hd;have:¬ x.done_=obs.length:=fun e=>hc (.inl e);omega
    ·cases hd;exact hxm.2
   refine ⟨⟨fun z hz=>?_,?_,fun j z hz=>?_⟩,List.prefix_append L _⟩
   ·rcases List.mem_append.1 hz with hz|hz
    ·exact h.rg z hz
    ·simp at hz;subst hz;exact ⟨hy,hdr⟩
   ·rw [List.map_append,List.nodup_append];refine ⟨h.nd,by simp,fun p hp q hq e=>?_⟩;simp at hq;subst hq;subst e;obtain ⟨z,hz,hpz⟩:=List.mem_map.1 hp;have:=List.any_eq_false.1 hn z hz;rw [hpz] at this;simp [Qn4] at this
   ·rw [List.getElem?_append] at hz;split at hz
    ·exact h.wl j z hz
    ·rename_i hlt;have hi:=(List.getElem?_eq_some_iff.1 hx).1;have hwl:=h.wl i x hx;have:j-L.length=0:=by
      have:=(List.getElem?_eq_some_iff.1 hz).1;simp at this;omega
     rw [this] at hz;simp at hz;subst hz;simp only [List.length_append,List.length_cons,List.length_nil];omega
end Go.Abs
end
section
namespace Go.Abs
open Go
end Go.Abs
end
section
namespace Go.Abs
open Go
theorem bytes_beq (a b:ByteArray):(a==b)=decide (a=b):=by
 cases a;cases b;rw [Bool.eq_iff_iff];simp only [decide_eq_true_eq,ByteArray.mk.injEq];exact beq_iff_eq (α:=Array UInt8)
theorem Qqi {x y:Int} (hx:0≤x∧x<256) (hy:0≤y∧y<256) (h:x.toNat.toUInt8=y.toNat.toUInt8):x=y:=by
 have:=congrArg UInt8.toNat h;simp only [Nat.toUInt8,UInt8.toNat_ofNat'] at this;omega
theorem Qw8 {r:Int} (h0:1≤r) (h1:r≤50000) :
  (r≤127∧Lib.encodeRuneZ r=[r])∨(128≤r∧r≤2047∧Lib.encodeRuneZ r=[192+r / 64,128+r % 64])∨(2048≤r∧Lib.encodeRuneZ r=[224+r / 4096,128+r / 64 % 64,128+r % 64]):=by
 by_cases h2:r≤127
 ·exact .inl ⟨h2,Lib.encodeRuneZ_one (by omega) h2⟩
 ·by_cases h3:r≤2047
  ·exact .inr (.inl ⟨by omega,h3,Lib.encodeRuneZ_two (by omega) h3⟩)
  ·exact .inr (.inr ⟨by omega,Lib.encodeRuneZ_three (.inl ⟨by omega,by omega⟩)⟩)
theorem Q7g {r q:Int} (hr:1≤r∧r≤50000) (hq:1≤q∧q≤50000) {s t:List UInt8} (h:Lib.encodeRune r++s=Lib.encodeRune q++t):r=q∧s=t:=by
 unfold Lib.encodeRune at h;rcases Qw8 hr.1 hr.2 with ⟨a1,a2⟩|⟨a0,a1,a2⟩|⟨a1,a2⟩<;>rcases Qw8 hq.1 hq.2 with ⟨b1,b2⟩|⟨b0,b1,b2⟩|⟨b1,b2⟩<;>rw [a2,b2] at h <;>
  simp only [List.map_cons,List.map_nil,List.cons_append,List.nil_append,List.cons.injEq] at h
 ·exact ⟨Qqi (by omega) (by omega) h.1,h.2⟩
 ·have:=Qqi (by omega) (by omega) h.1;omega
 ·have:=Qqi (by omega) (by omega) h.1;omega
 ·have:=Qqi (by omega) (by omega) h.1;omega
 ·have e1:=Qqi (by omega) (by omega) h.1;have e2:=Qqi (by omega) (by omega) h.2.1;exact ⟨by omega,h.2.2⟩
 ·have:=Qqi (by omega) (by omega) h.1;omega
 ·have:=Qqi (by omega) (by omega) h.1;omega
 ·have:=Qqi (by omega) (by omega) h.1;omega
 ·have e1:=Qqi (by omega) (by omega) h.1;have e2:=Qqi (by omega) (by omega) h.2.1;have e3:=Qqi (by omega) (by omega) h.2.2.1;exact ⟨by omega,h.2.2.2⟩
theorem Q30 (r:Int):Lib.encodeRune r≠[]:=by
 unfold Lib.encodeRune Lib.encodeRuneZ;split
 ·simp
 ·split
  ·simp
  ·split
   ·simp
   ·split<;>simp
theorem Q6k:∀ {l m:List Int},(∀ x∈l,0≤x∧x<50000)→(∀ x∈m,0≤x∧x<50000)→(l.flatMap fun x=>Lib.encodeRune (x+1))=(m.flatMap fun x=>Lib.encodeRune (x+1))→l=m
 | [],[],_,_,_=>rfl
 | [],y::m,_,_,h=>by
  simp only [List.flatMap_nil,List.flatMap_cons] at h;exact absurd (List.append_eq_nil_iff.1 h.symm).1 (Q30 _)
 | x::l,[],_,_,h=>by
  simp only [List.flatMap_nil,List.flatMap_cons] at h;exact absurd (List.append_eq_nil_iff.1 h).1 (Q30 _)
 | x::l,y::m,hl,hm,h=>by
  simp only [List.flatMap_cons] at h;have hx:=hl x (by simp);have hy:=hm y (by simp);obtain ⟨h1,h2⟩:=Q7g ⟨by omega,by omega⟩ ⟨by omega,by omega⟩ h;rw [Q6k (fun z hz=>hl z (by simp [hz])) (fun z hz=>hm z (by simp [hz])) h2,show x=y from by omega]
theorem Q16 {l m:List Int} (hl:∀ x∈l,0≤x∧x<50000) (hm:∀ x∈m,0≤x∧x<50000) (h:keyB l=keyB m):l=m:=by
 unfold keyB at h;have h:=congrArg (fun b:ByteArray=>b.data.toList) h;simp only [List.toList_toArray] at h;exact Q6k hl hm h
theorem Qbcd {l:List Int} (hl:l.length≤lim) (hx:∀ x∈l,0≤x∧x<50000):keyS l=some (keyB l):=by
 unfold keyS;rw [if_pos ⟨hl,hx⟩]
structure KM (S:List (List Int)) (c:List (ByteArray×Int)):Prop where
 has:∀ n,(∀ x∈n,0≤x∧x<50000)→hasM c (keyB n)=decide (n∈S)
 get:∀ n∈S,getM c (keyB n) 0=(S.idxOf n:Int)
 rg:∀ n∈S,∀ x∈n,0≤x∧x<50000
theorem Qzj {β:Type} {v:β} {k k' : ByteArray}:∀ {m:List (ByteArray×β)},hasM (setM m k v) k'=(decide (k'=k)||hasM m k')
 | []=>by simp [setM,hasM,bytes_beq]
 | (q,w)::m=>by
  have ih:=Qzj (v:=v) (k:=k) (k':=k') (m:=m);simp only [setM];by_cases h:k=q
  ·subst h;simp only [bytes_beq,decide_true,if_true,Qor];by_cases h2:k'=k<;>simp [h2,bytes_beq]
  ·simp only [bytes_beq,h,decide_false,Bool.false_eq_true,if_false,Qor];rw [ih];cases decide (k'=q)<;>cases decide (k'=k)<;>rfl
theorem Qvs {β:Type} {z v:β} {k k' : ByteArray}:∀ {m:List (ByteArray×β)},getM (setM m k v) k' z=if k'=k then v else getM m k' z
 | []=>by simp [setM,getM,bytes_beq]
 | (q,w)::m=>by
  have ih:=Qvs (z:=z) (v:=v) (k:=k) (k':=k') (m:=m);simp only [setM];by_cases h:k=q
  ·subst h;simp only [bytes_beq,decide_true,if_true,getM];by_cases h2:k'=k
   ·subst h2;simp
   ·simp [h2]
  ·simp only [bytes_beq,h,decide_false,Bool.false_eq_true,if_false,getM];by_cases h2:k'=q
   ·subst h2;have:¬ k'=k:=fun e=>h e.symm;simp [this]
   ·simp only [h2,decide_false,Bool.false_eq_true,if_false,ih]
theorem KM.first {n:List Int} (hn:∀ x∈n,0≤x∧x<50000):KM [n] (setM ([]:List (ByteArray×Int)) (keyB n) 0):=by
 refine ⟨fun m hm=>?_,fun m hm=>?_,fun m hm=>?_⟩
 ·rw [Qzj];have:hasM ([]:List (ByteArray×Int)) (keyB m)=false:=rfl;rw [this,Bool.or_false];apply decide_eq_decide.2;rw [List.mem_singleton];exact ⟨fun h=>Q16 hm hn h,fun h=>by rw [h]⟩
 ·rw [List.mem_singleton] at hm;subst hm;rw [Qvs,if_pos rfl];simp
 ·rw [List.mem_singleton] at hm;subst hm;exact hn
theorem KM.add {S:List (List Int)} {c:List (ByteArray×Int)} (h:KM S c) {n:List Int} (hn:∀ x∈n,0≤x∧x<50000) (hm:n∉S):KM (S++[n]) (setM c (keyB n) (S.length:Int)):=by
 refine ⟨fun m hm'=>?_,fun m hm'=>?_,fun m hm'=>?_⟩
 ·rw [Qzj,h.has m hm',← Bool.decide_or];apply decide_eq_decide.2;rw [List.mem_append,List.mem_singleton];constructor
  ·rintro (e|e)
   ·exact .inr (Q16 hm' hn e)
   ·exact .inl e
  ·rintro (e|e)
   ·exact .inr e
   ·exact .inl (by rw [e])
 ·rw [Qvs];rw [List.mem_append,List.mem_singleton] at hm';rcases hm' with hm'|rfl
  ·rw [if_neg (fun e=>hm (by rw [← Q16 (h.rg m hm') hn e];exact hm')),h.get m hm',List.idxOf_append,if_pos hm']
  ·rw [if_pos rfl,List.idxOf_append,if_neg hm];simp
 ·rw [List.mem_append,List.mem_singleton] at hm';rcases hm' with hm'|rfl
  ·exact h.rg m hm'
  ·exact hn
end Go.Abs
end
section
namespace Go.Abs
open Go
def insL (o:List (List Int)) (t:List Int):List (List Int):=if t∈o then o else o++[t]
noncomputable def Qvt (a:Qa) (onto est:List Int) (l:List Int):List (Int×List Int):=l.filterMap fun x=>if Qul a onto est x=[] then none else some (x,Qul a onto est x)
noncomputable def rowN (a:Qa) (onto est:List Int):List (Int×List Int):=Qvt a onto est (Qio a onto)
def Qwq (S:List (List Int)) (row:List (Int×List Int)):List (List Int):=row.foldl (fun o p=>insL o p.2) S
def rowE (S:List (List Int)) (i:Nat) (row:List (Int×List Int)):List Qi:=row.map fun p=>⟨(i:Int),p.1,(S.idxOf p.2:Int)⟩
noncomputable def estB (a:Qa) (onto:List Int):Nat→List (List Int)
 | 0=>[Qsc a onto]
 | i+1=>match (estB a onto i)[i]? with
  | some s=>Qwq (estB a onto i) (rowN a onto s)
  | none=>estB a onto i
noncomputable def edN (a:Qa) (onto:List Int) (S:List (List Int)):Nat→List (List Int)→List Qi
 | _,[]=>[]
 | i,s::t=>rowE S i (rowN a onto s)++edN a onto S (i+1) t
def mkN (a:Qa):Nat→List (List Int)→List Int
 | _,[]=>[]
 | i,s::t=>(if s.any (fun x=>decide (x∈a.zF)) then [(i:Int)] else [])++mkN a (i+1) t
noncomputable def autN (a:Qa) (onto:List Int) (S:List (List Int)):Qa:=⟨Qio a onto,(S.length:Int),mkN a 0 S,edN a onto S 0 S⟩
theorem Q17 {o:List (List Int)} {t x:List Int}:x∈insL o t↔x∈o∨x=t:=by
 unfold insL;split
 ·rename_i h;exact ⟨.inl,fun e=>e.elim id fun e=>by rw [e];exact h⟩
 ·simp
theorem Q6l (o:List (List Int)) (t:List Int):o <+: insL o t:=by
 unfold insL;split
 ·exact List.prefix_refl o
 ·exact List.prefix_append o _
theorem Q02 {o:List (List Int)} (h:o.Nodup) (t:List Int):(insL o t).Nodup:=by
 unfold insL;split
 ·exact h
 ·rename_i hn;rw [List.nodup_append];exact ⟨h,by simp,fun x hx y hy e=>by simp at hy;subst hy;subst e;exact hn hx⟩
theorem Qzk:∀ (row:List (Int×List Int)) (S:List (List Int)),S <+: Qwq S row
 | [],S=>List.prefix_refl S
 | p::row,S=>(Q6l S p.2).trans (Qzk row (insL S p.2))
theorem Qzl:∀ (row:List (Int×List Int)) {S:List (List Int)},S.Nodup→(Qwq S row).Nodup
 | [],S,h=>h
 | p::row,S,h=>Qzl row (Q02 h p.2)
theorem Qzm:∀ (row:List (Int×List Int)) (S:List (List Int)) (x:List Int),x∈Qwq S row↔x∈S∨∃ p∈row,p.2=x
 | [],S,x=>by simp [Qwq]
 | p::row,S,x=>by
  show x∈Qwq (insL S p.2) row↔_;rw [Qzm row,Q17];simp only [List.mem_cons,exists_eq_or_imp];constructor
  ·rintro ((h|h)|h)
   ·exact .inl h
   ·exact .inr (.inl h.symm)
   ·exact .inr (.inr h)
  ·rintro (h|h|h)
   ·exact .inl (.inl h)
   ·exact .inl (.inr h.symm)
   ·exact .inr h
theorem Q31:∀ (row:List (Int×List Int)) (S:List (List Int)),(Qwq S row).length≤S.length+row.length
 | [],S=>by simp [Qwq]
 | p::row,S=>by
  have:=Q31 row (insL S p.2);have h2:(insL S p.2).length≤S.length+1:=by unfold insL;split<;>simp
  show (Qwq (insL S p.2) row).length≤_;simp only [List.length_cons];omega
theorem Q93 {a:Qa} {onto est l:List Int} {p:Int×List Int}:p∈Qvt a onto est l↔p.1∈l∧p.2=Qul a onto est p.1∧p.2≠[]:=by
 obtain ⟨x,n⟩:=p;simp only [Qvt,List.mem_filterMap];constructor
 ·rintro ⟨y,hy,h⟩;split at h
  ·cases h
  ·rename_i hne;cases h;exact ⟨hy,rfl,hne⟩
 ·rintro ⟨h1,h2,h3⟩;refine ⟨x,h1,?_⟩;subst h2;rw [if_neg h3]
theorem Q32 {a:Qa} {onto est l:List Int}:(Qvt a onto est l).length≤l.length:=List.length_filterMap_le _ _
theorem Q03 {o F:List (List Int)} (h:o <+: F) {t:List Int} (ht:t∈o):F.idxOf t=o.idxOf t:=by
 obtain ⟨r,rfl⟩:=h;rw [List.idxOf_append,if_pos ht]
structure Ests (a:Qa) (S:List (List Int)):Prop where
 nd:S.Nodup
 ok:∀ s∈S,Sts a s∧s≠[]
theorem Ests.grow {a:Qa} {S:List (List Int)} (h:Ests a S) (onto est l:List Int):Ests a (Qwq S (Qvt a onto est l)):=by
 refine ⟨Qzl _ h.nd,fun s hs=>?_⟩;rcases (Qzm _ _ _).1 hs with hs|⟨p,hp,rfl⟩
 ·exact h.ok s hs
 ·obtain ⟨_,h2,h3⟩:=Q93.1 hp;exact ⟨by rw [h2];exact Qvo _ _ _ _,h3⟩
theorem Qbbl {a:Qa} (h:0<a.zH) (onto:List Int):Qsc a onto≠[]:=by
 unfold Qsc;rw [if_neg (by omega)];intro e;have:(0:Int)∈Qqh a [0] (Qkq a onto):=Qwo.2 ⟨by omega,.base (by simp)⟩;rw [e] at this;simp at this
theorem Ests.first {a:Qa} (h:0<a.zH) (onto:List Int):Ests a [Qsc a onto] :=
 ⟨by simp,fun s hs=>by simp at hs;subst hs;exact ⟨Qmk _ _,Qbbl h onto⟩⟩
theorem Qsd {a:Qa} (h:0<a.zH) (onto:List Int):∀ i,Ests a (estB a onto i)
 | 0=>.first h onto
 | i+1=>by
  unfold estB;split
  ·exact (Qsd h onto i).grow _ _ _
  ·exact Qsd h onto i
theorem Q94 {a:Qa} {onto:List Int} (i:Nat):estB a onto i <+: estB a onto (i+1):=by
 conv=>rhs;unfold estB
 split
 ·exact Qzk _ _
 ·exact List.prefix_refl _
theorem Q04 {a:Qa} {onto:List Int} {S:List (List Int)}:∀ (l m:List (List Int)) (i:Nat),edN a onto S i (l++m)=edN a onto S i l++edN a onto S (i+l.length) m
 | [],m,i=>by simp [edN]
 | s::l,m,i=>by
  simp only [List.cons_append,edN,Q04 l m,List.length_cons,List.append_assoc];rw [show i+1+l.length=i+(l.length+1) from by omega]
theorem Q05 {a:Qa}:∀ (l m:List (List Int)) (i:Nat),mkN a i (l++m)=mkN a i l++mkN a (i+l.length) m
 | [],m,i=>by simp [mkN]
 | s::l,m,i=>by
  simp only [List.cons_append,mkN,Q05 l m,List.length_cons,List.append_assoc];rw [show i+1+l.length=i+(l.length+1) from by omega]
theorem Q95 {a:Qa} {onto:List Int} {S T:List (List Int)} (h:S <+: T):∀ (l:List (List Int)) (i:Nat),(∀ s∈l,∀ p∈rowN a onto s,p.2∈S)→edN a onto T i l=edN a onto S i l
 | [],i,_=>rfl
 | s::l,i,hl=>by
  simp only [edN];rw [Q95 h l (i+1) fun t ht=>hl t (by simp [ht])];congr 1;refine List.map_congr_left fun p hp=>?_;rw [Q03 h (hl s (by simp) p hp)]
theorem Q45 {a:Qa} (h:Right a) {onto:List Int} {S:List (List Int)}:∀ (l:List (List Int)) (i:Nat),(edN a onto S i l).length≤32*l.length
 | [],i=>by simp [edN]
 | s::l,i=>by
  have:=Q45 h (onto:=onto) (S:=S) l (i+1);have h1:(rowN a onto s).length≤(Qio a onto).length:=Q32;have h2:=Qvp h onto;simp only [edN,rowE,List.length_append,List.length_map,List.length_cons];omega
theorem Q46 {a:Qa}:∀ (l:List (List Int)) (i:Nat),(mkN a i l).length≤l.length
 | [],i=>by simp [mkN]
 | s::l,i=>by
  have:=Q46 (a:=a) l (i+1);simp only [mkN,List.length_append,List.length_cons];split<;>simp<;>omega
theorem Sts.lt {a:Qa} (h:Right a) {l:List Int} (hl:Sts a l):∀ x∈l,0≤x∧x<50000:=fun x hx=>by
 have:=hl.rg x hx;have:=h.st;omega
end Go.Abs
end
section
namespace Go.Abs
open Go
def Qbez (a:Qa) (onto:List Int) (r:Qa×List (List Int)×Int):Prop :=
 (∃ n,(estB a onto n).length=n∧n≤4096∧r=(autN a onto (estB a onto n),estB a onto n,0))∨(∃ n,4096<(estB a onto n).length∧r=(⟨[],0,[],[]⟩,[],3))
theorem Qbe0 {α:Type} (l:List α):((l.length:Int)==0)=decide (l=[]):=by
 cases l with
 | nil=>rfl
 | cons x l=>simp;omega
theorem Q7h {a:Qa} (h:Right a) {onto:List Int} (ho:EvSet onto) :
  ∃ r,Qeh a onto=some r∧(if a.zH=0 then r=(⟨Qio a onto,0,[],[]⟩,[],0) else Qbez a onto r):=by
 have hol:=ho.len;have hkl:=Qvp h onto;have hst:=h.st;have hob:onto.length<big:=by unfold big;omega
 unfold Qeh Qcu;rw [Qw7 h hob,ho.err];simp only [Option.bind_some,show ((0:Int) != 0)=false from rfl,Bool.false_eq_true,if_false];rw [Q0y h hob];simp only [Option.bind_some];by_cases h0:a.zH=0
 ·rw [if_pos (by simp [h0])];simp only [h0,if_true];exact ⟨_,rfl,rfl⟩
 ·have hpos:0<a.zH:=by omega
  rw [if_neg (by simp [h0]),Q6j h onto];simp only [h0,if_false];simp only [Option.bind_some];have hsl:=(Qmk a onto).len;rw [Qbcd (by unfold lim;omega) ((Qmk a onto).lt h)];simp only [Option.bind_some];refine Qdt (fun x=>∃ (n:Nat) (c:List (ByteArray×Int)),n≤(estB a onto n).length∧(estB a onto n).length≤4096∧KM (estB a onto n) c∧(∀ i s,i<n→(estB a onto n)[i]? = some s→∀ p∈rowN a onto s,p.2∈estB a onto n) ∧
    x=(estB a onto n,(n:Int),[],[],[],mkN a 0 ((estB a onto n).take n),edN a onto (estB a onto n) 0 ((estB a onto n).take n),c)) (fun x=>5000-x.2.1.toNat) (fun x r=>∃ y,r=some y∧Qbez a onto y) ?_ Qbx _ ?_ ?_
  ·rintro k _ ⟨n,c,hn,hlen,hK,hcl,rfl⟩ ih;have hE:=Qsd hpos onto n;dsimp only;by_cases hlt:n<(estB a onto n).length
   ·rw [if_pos (by omega),Qb7 hlt];generalize hs:(estB a onto n)[n]=s;have hg:(estB a onto n)[n]? = some s:=by rw [List.getElem?_eq_getElem hlt,hs]
    have hsS:Sts a s:=(hE.ok s (List.mem_of_getElem? hg)).1;have hsl:=hsS.len;simp only [Option.bind_some];rw [Q43 h (by unfold big;omega)];simp only [Option.bind_some];have hml:=Q46 (a:=a) ((estB a onto n).take n) 0;rw [List.length_take] at hml;have hel:=Q45 h (onto:=onto) (S:=estB a onto n) ((estB a onto n).take n) 0;rw [List.length_take] at hel;have htake:(estB a onto n).take (n+1)=(estB a onto n).take n++[s]:=by rw [List.take_succ_eq_append_getElem hlt,hs]
    have hpre:=Q94 (a:=a) (onto:=onto) n;have hstep:estB a onto (n+1)=Qwq (estB a onto n) (rowN a onto s):=by
     show (match (estB a onto n)[n]? with|some s=>_|none=>_)=_;rw [hg]
    have hlen' : (estB a onto (n+1)).length≤(estB a onto n).length+32:=by
     rw [hstep];have:=Q31 (rowN a onto s) (estB a onto n);have h2:(rowN a onto s).length≤(Qio a onto).length:=Q32;omega
    have htake2:(estB a onto (n+1)).take (n+1)=(estB a onto n).take (n+1):=by
     obtain ⟨r,hr⟩:=hpre;rw [← hr,List.take_append_of_le_length (by omega)]
    refine Qbdu (x:=mkN a 0 ((estB a onto n).take (n+1))) ?_ ?_
    ·rw [htake,Q05];simp only [mkN,List.append_nil,List.length_take,Nat.zero_add,Nat.min_eq_left (Nat.le_of_lt hlt)];by_cases hm:s.any (fun x=>decide (x∈a.zF))=true
     ·rw [if_pos hm,if_pos hm,Qc3 (by simp only [List.length_cons,List.length_nil];unfold lim;omega)]
      rfl
     ·rw [if_neg hm,if_neg hm,List.append_nil]
    refine Qbbj (fun y=>∃ c',KM (estB a onto (n+1)) c'∧y=(estB a onto (n+1),edN a onto (estB a onto n) 0 ((estB a onto n).take n)++rowE (estB a onto (n+1)) n (rowN a onto s),c')) ?_ ?_
    ·refine Qdt (fun x=>∃ (m:Nat) (S:List (List Int)) (r:List Qi) (c:List (ByteArray×Int)),x=(S,(m:Int),r,c)∧m≤(Qio a onto).length∧S[n]? = some s∧Ests a S∧S.length≤4096+m∧r.length≤32*4096+m∧KM S c ∧
      Qwq S (Qvt a onto s ((Qio a onto).drop m))=estB a onto (n+1)∧r++rowE (estB a onto (n+1)) n (Qvt a onto s ((Qio a onto).drop m))=edN a onto (estB a onto n) 0 ((estB a onto n).take n)++rowE (estB a onto (n+1)) n (rowN a onto s))
      (fun x=>(Qio a onto).length-x.2.1.toNat) (fun x r=>∃ y,r=some y∧∃ c',KM (estB a onto (n+1)) c'∧y=(estB a onto (n+1),edN a onto (estB a onto n) 0 ((estB a onto n).take n)++rowE (estB a onto (n+1)) n (rowN a onto s),c')) ?_ Qbx _ ?_ ?_
     ·rintro k _ ⟨m,S,r,c,rfl,hm,hgs,hES,hSl,hrl,hKS,hg1,hg2⟩ ih;dsimp only;by_cases hlm:m<(Qio a onto).length
      ·rw [show (obsP a onto).kept_=Qio a onto from rfl,if_pos (by omega),Qb7 hlm];have hgn:getO S (n:Int)=some s:=by rw [Qi5];exact ⟨by omega,by simpa using hgs⟩
       simp only [Option.bind_some];rw [hgn];simp only [Option.bind_some];rw [Q01 h hsS.rg (by omega)];simp only [Option.bind_some,Qbe0];rw [List.drop_eq_getElem_cons hlm] at hg1 hg2;generalize (Qio a onto)[m]=x at hg1 hg2 ⊢;have hNS:=Qvo a onto s x;have hcons:Qvt a onto s (x::(Qio a onto).drop (m+1))=if Qul a onto s x=[] then Qvt a onto s ((Qio a onto).drop (m+1)) else (x,Qul a onto s x)::Qvt a onto s ((Qio a onto).drop (m+1)):=by
        simp only [Qvt,List.filterMap_cons];split<;>simp_all
       rw [hcons] at hg1 hg2;generalize hN:Qul a onto s x=N at hg1 hg2 hNS ⊢;by_cases hne:N=[]
       ·rw [if_pos hne] at hg1 hg2;simp only [hne,decide_true,if_true,Option.bind_some];rw [Qbl (by omega)];exact ih _ ⟨m+1,S,r,c,rfl,by omega,hgs,hES,by omega,by omega,hKS,hg1,hg2⟩ (by simp only;omega)
       ·rw [if_neg hne] at hg1 hg2;have hNl:=hNS.len;simp only [hne,decide_false,Bool.false_eq_true,if_false];rw [Qbcd (by unfold lim;omega) (hNS.lt h)];simp only [Option.bind_some];rw [hKS.has N (hNS.lt h)];have hg1' : Qwq (insL S N) (Qvt a onto s ((Qio a onto).drop (m+1)))=estB a onto (n+1):=hg1;have hfin:insL S N <+: estB a onto (n+1):=by rw [← hg1'];exact Qzk _ _
        have hmemN:N∈insL S N:=Q17.2 (.inr rfl);have hidx:(estB a onto (n+1)).idxOf N=(insL S N).idxOf N:=Q03 hfin hmemN;have hg2' : (r++[(⟨(n:Int),x,((insL S N).idxOf N:Int)⟩ : Qi)])++rowE (estB a onto (n+1)) n (Qvt a onto s ((Qio a onto).drop (m+1)))=edN a onto (estB a onto n) 0 ((estB a onto n).take n)++rowE (estB a onto (n+1)) n (rowN a onto s):=by
         rw [← hg2,← hidx,List.append_assoc]
         rfl
        have hESi:Ests a (insL S N):=⟨Q02 hES.nd N,fun t ht=>by
         rcases Q17.1 ht with ht|rfl
         ·exact hES.ok t ht
         ·exact ⟨hNS,hne⟩⟩
        have hgsi:(insL S N)[n]? = some s:=by
         obtain ⟨q,hq⟩:=Q6l S N;rw [← hq,List.getElem?_append_left (List.getElem?_eq_some_iff.1 hgs).1];exact hgs
        have hli:(insL S N).length≤S.length+1:=by unfold insL;split<;>simp
        by_cases hin:N∈S
        ·have hi:insL S N=S:=by unfold insL;rw [if_pos hin]
         rw [if_pos (by simp [hin]),hKS.get N hin];simp only [Option.bind_some];rw [Qc3 (by simp only [List.length_cons,List.length_nil];unfold lim;omega)];simp only [Option.bind_some];rw [Qbl (by omega)];rw [hi] at hg1' hg2';exact ih _ ⟨m+1,S,_,c,rfl,by omega,hgs,hES,by omega,by rw [List.length_append];simp only [List.length_cons,List.length_nil];omega,hKS,hg1',hg2'⟩ (by simp only;omega)
        ·have hi:insL S N=S++[N]:=by unfold insL;rw [if_neg hin]
         have hix:(insL S N).idxOf N=S.length:=by rw [hi,List.idxOf_append,if_neg hin];simp
         rw [if_neg (by simp [hin]),Qc3 (by simp only [List.length_cons,List.length_nil];unfold lim;omega)];simp only [Option.bind_some];rw [Qc3 (by simp only [List.length_cons,List.length_nil];unfold lim;omega)];simp only [Option.bind_some];rw [Qbl (by omega)];have hKadd:=hKS.add (hNS.lt h) hin;rw [hix] at hg2';rw [hi] at hg1' hESi hgsi;exact ih _ ⟨m+1,S++[N],_,_,rfl,by omega,hgsi,hESi,by simp;omega,by rw [List.length_append];simp only [List.length_cons,List.length_nil];omega,hKadd,hg1',hg2'⟩ (by simp only;omega)
      ·rw [show (obsP a onto).kept_=Qio a onto from rfl,if_neg (by omega)];have hd:(Qio a onto).drop m=[]:=List.drop_eq_nil_of_le (by omega);rw [hd] at hg1 hg2;have hg1:S=estB a onto (n+1):=hg1;subst hg1;simp only [Qvt,List.filterMap_nil,rowE,List.map_nil,List.append_nil] at hg2;exact ⟨_,rfl,c,hKS,by rw [hg2];rfl⟩
     ·exact ⟨0,_,_,c,rfl,Nat.zero_le _,hg,hE,by omega,by omega,hK,by rw [List.drop_zero,hstep];rfl,by rw [List.drop_zero];rfl⟩
     ·simp only [Int.toNat_zero];unfold Qbx;omega
    ·rintro _ ⟨c',hK',rfl⟩;dsimp only;have hrows:∀ i t,i<n+1→(estB a onto (n+1))[i]? = some t→∀ p∈rowN a onto t,p.2∈estB a onto (n+1):=by
      intro i t hi ht p hp;obtain ⟨q,hq⟩:=id hpre;rcases Nat.lt_or_ge i n with hin|hin
      ·rw [← hq,List.getElem?_append_left (by omega)] at ht;exact hpre.subset (hcl i t hin ht p hp)
      ·obtain rfl:i=n:=by omega
       rw [← hq,List.getElem?_append_left hlt,hg] at ht;cases ht;rw [hstep];exact (Qzm _ _ _).2 (.inr ⟨p,hp,rfl⟩)
     have hed:edN a onto (estB a onto n) 0 ((estB a onto n).take n)++rowE (estB a onto (n+1)) n (rowN a onto s)=edN a onto (estB a onto (n+1)) 0 ((estB a onto (n+1)).take (n+1)):=by
      rw [htake2,htake,Q04];simp only [edN,List.append_nil,List.length_take,Nat.zero_add,Nat.min_eq_left (Nat.le_of_lt hlt)];congr 1;refine (Q95 hpre _ _ fun t ht p hp=>?_).symm;obtain ⟨i,hi⟩:=List.getElem?_of_mem ht;have hilt:=(List.getElem?_eq_some_iff.1 hi).1;rw [List.length_take] at hilt;rw [List.getElem?_take,if_pos (by omega)] at hi;exact hcl i t (by omega) hi p hp
     rw [hed];by_cases hbig:4096<(estB a onto (n+1)).length
     ·rw [if_pos (by omega)];exact ⟨_,rfl,.inr ⟨n+1,hbig,rfl⟩⟩
     ·rw [if_neg (by omega),Qbl (by omega)];have:=hpre.length_le;refine ih _ ⟨n+1,c',by omega,by omega,hK',hrows,?_⟩ (by simp only;omega);rw [htake2]
   ·rw [if_neg (by omega)];have hnn:(estB a onto n).length=n:=by omega
    refine ⟨_,rfl,.inl ⟨n,hnn,by omega,?_⟩⟩;rw [List.take_of_length_le (by omega)]
    rfl
  ·refine ⟨0,_,Nat.zero_le _,by simp [estB],.first ((Qmk a onto).lt h),fun i s hi=>by omega,rfl⟩
  ·simp only [Int.toNat_zero];unfold Qbx;omega
end Go.Abs
end
section
namespace Go.Abs
open Go
section
variable {a b:Qa} {φ:Int→Int} (ha:Right a) (hb:Right b) (h:Like a b φ)
include ha hb h
end
end Go.Abs
end
section
namespace Go.Abs
open Go
def Qbe1 (b:Qa) (onto:List Int):Prop:=∀ x∈b.zG,x.Event∉onto→x.To=x.From
section
variable {b:Qa} (hb:Right b) {onto:List Int} (hs:Qbe1 b onto)
include hb hs
end
end Go.Abs
end
section
namespace Go.Abs
open Go
section
variable {b:Qa} (hb:Right b) {onto:List Int} (hs:Qbe1 b onto)
include hb hs
end
end Go.Abs
end
section
namespace Go.Abs
open Go
end Go.Abs
end
section
namespace Go.Abs
open Go
end Go.Abs
end
section
namespace Go.Abs
open Go
set_option maxRecDepth 100000
set_option maxHeartbeats 4000000
theorem Q7i:Qic=some true:=by kernel_rfl
end Go.Abs
end
section
namespace Go.Abs
open Go
theorem Q6m {l:List Int} {v:Int} (hs:l.Pairwise (· < ·)) (hl:l.length<big):Qfn l v=some (decide (v∈l)):=by
 unfold Qfn Qbu;obtain ⟨n,h⟩:=Q9x (v:=v) hs hl;rw [h];rfl
abbrev Lab:=Qb
def bitE (ev:List Qd) (e:Int):Int:=match getO ev e with
 | some x=>if 0<x.Fault then 2 ^ (x.Fault-1).toNat else 0
 | none=>0
def toL (ev:List Qd) (x:Lab) (y:Qi):Lab:=⟨y.To,orI .i64 x.Classes (bitE ev y.Event)⟩
def Qse (o:List Lab) (t:Lab):List Lab:=if t∈o then o else o++[t]
def Qog (ev:List Qd) (i:Nat) (x:Lab) (c:List Lab×List Qi) (y:Qi):List Lab×List Qi :=
 (Qse c.1 (toL ev x y),c.2++[⟨(i:Int),y.Event,((Qse c.1 (toL ev x y)).idxOf (toL ev x y):Int)⟩])
def labs (ev:List Qd) (a:Qa):Nat→List Lab×List Int×List Qi
 | 0=>([⟨0,0⟩],[],[])
 | n+1=>match (labs ev a n).1[n]? with
  | some x=>(((outP a x.State).foldl (Qog ev n x) ((labs ev a n).1,(labs ev a n).2.2)).1,if x.State∈a.zF then (labs ev a n).2.1++[(n:Int)] else (labs ev a n).2.1,((outP a x.State).foldl (Qog ev n x) ((labs ev a n).1,(labs ev a n).2.2)).2)
  | none=>labs ev a n
structure Plt (ev:List Qd) (a:Qa):Prop where
 r:Right a
 st:a.zH≤200
 al:∀ x∈a.zD,x<ev.length
 flt:∀ x∈ev,0≤x.Fault∧x.Fault≤4
 chk:Qej ev=some 0
 len:ev.length≤32
theorem Qbe2:((List.range 16).all fun c=>(List.range 16).all fun b=>decide (0≤orI .i64 (c:Int) (b:Int)∧orI .i64 (c:Int) (b:Int)<16)&&decide (orI .i64 (c:Int) 0=(c:Int)))=true:=by kernel_rfl
theorem Qbe3 {c b:Int} (hc:0≤c∧c<16) (hb:0≤b∧b<16):(0≤orI .i64 c b∧orI .i64 c b<16)∧orI .i64 c 0=c:=by
 have h:=List.all_eq_true.1 (List.all_eq_true.1 Qbe2 c.toNat (by simp;omega)) b.toNat (by simp;omega);rw [show ((c.toNat:Nat):Int)=c from by omega,show ((b.toNat:Nat):Int)=b from by omega] at h;simpa using h
theorem Qbce {ev:List Qd} {a:Qa} (h:Plt ev a) (e:Int):0≤bitE ev e∧bitE ev e<16:=by
 unfold bitE;cases hx:getO ev e with
 | none=>simp
 | some x =>
  have hm:=h.flt x (List.mem_of_getElem? (Qi5.1 hx).2);dsimp only;split
  ·obtain ⟨h1,h2⟩:=hm;have:x.Fault=1∨x.Fault=2∨x.Fault=3∨x.Fault=4:=by omega
   rcases this with e|e|e|e<;>rw [e]<;>decide
  ·simp
theorem Qvu {o:List Lab} {t x:Lab}:x∈Qse o t↔x∈o∨x=t:=by
 unfold Qse;split
 ·rename_i h;exact ⟨.inl,fun e=>e.elim id fun e=>by rw [e];exact h⟩
 ·simp
theorem Q96 (o:List Lab) (t:Lab):o <+: Qse o t:=by
 unfold Qse;split
 ·exact List.prefix_refl o
 ·exact List.prefix_append o _
theorem Qbdx {o F:List Lab} (h:o <+: F) {t:Lab} (ht:t∈o):F.idxOf t=o.idxOf t:=by
 obtain ⟨r,rfl⟩:=h;rw [List.idxOf_append,if_pos ht]
structure LbI (a:Qa) (S:List Lab):Prop where
 nd:S.Nodup
 ok:∀ x∈S,(0≤x.State∧x.State<a.zH)∧0≤x.Classes∧x.Classes<16
theorem LbI.len {a:Qa} {S:List Lab} (h:LbI a S):S.length≤16*a.zH.toNat:=by
 have hn:(S.map fun x=>x.State*16+x.Classes).Nodup:=by
  refine List.pairwise_map.2 ((List.Pairwise.and_mem.1 h.nd).imp fun {x y} ⟨hx,hy,hne⟩ e=>hne ?_);obtain ⟨p1,p2⟩:=h.ok x hx;obtain ⟨q1,q2⟩:=h.ok y hy;obtain ⟨s,c⟩:=x;obtain ⟨s',c'⟩:=y;simp only [Qb.mk.injEq];dsimp only at *
  omega
 have:=Q3z (N:=16*a.zH.toNat) hn (fun x hx=>by
  obtain ⟨y,hy,rfl⟩:=List.mem_map.1 hx;obtain ⟨p1,p2⟩:=h.ok y hy;omega)
 simpa using this
theorem LbI.add {a:Qa} {S:List Lab} (h:LbI a S) {t:Lab} (ht:(0≤t.State∧t.State<a.zH)∧0≤t.Classes∧t.Classes<16):LbI a (Qse S t):=by
 refine ⟨?_,fun x hx=>(Qvu.1 hx).elim (h.ok x) (fun e=>by rw [e];exact ht)⟩;unfold Qse;split
 ·exact h.nd
 ·rename_i hn;rw [List.nodup_append];exact ⟨h.nd,by simp,fun x hx y hy e=>by simp at hy;subst hy;subst e;exact hn hx⟩
theorem LbI.to {ev:List Qd} {a:Qa} (hp:Plt ev a) {S:List Lab} (h:LbI a S) {x:Lab} (hx:x∈S) {y:Qi} (hy:y∈a.zG):(0≤(toL ev x y).State∧(toL ev x y).State<a.zH)∧0≤(toL ev x y).Classes∧(toL ev x y).Classes<16:=by
 have he:=hp.r.ed0 y hy;exact ⟨⟨he.2.2.1,he.2.2.2.1⟩,(Qbe3 (h.ok x hx).2 (Qbce hp y.Event)).1⟩
theorem Qxt {ev:List Qd} {i:Nat} {x:Lab}:∀ (ys:List Qi) (c:List Lab×List Qi),c.1 <+: (ys.foldl (Qog ev i x) c).1
 | [],c=>List.prefix_refl _
 | y::ys,c=>(Q96 c.1 (toL ev x y)).trans (Qxt ys (Qog ev i x c y))
theorem Q6n {ev:List Qd} {i:Nat} {x:Lab}:∀ (ys:List Qi) (c:List Lab×List Qi),∀ y∈ys,toL ev x y∈(ys.foldl (Qog ev i x) c).1
 | [],c,y,hy=>by cases hy
 | z::ys,c,y,hy=>by
  rcases List.mem_cons.1 hy with rfl|hy
  ·exact (Qxt ys (Qog ev i x c y)).subset (Qvu.2 (.inr rfl))
  ·exact Q6n ys _ y hy
theorem Q6o {ev:List Qd} {i:Nat} {x:Lab}:∀ (ys:List Qi) (c:List Lab×List Qi),
  (ys.foldl (Qog ev i x) c).2=c.2++ys.map fun y=>⟨(i:Int),y.Event,((ys.foldl (Qog ev i x) c).1.idxOf (toL ev x y):Int)⟩
 | [],c=>by simp
 | y::ys,c=>by
  rw [List.foldl_cons,Q6o ys,List.map_cons];have h1:((ys.foldl (Qog ev i x) (Qog ev i x c y)).1.idxOf (toL ev x y))=(Qse c.1 (toL ev x y)).idxOf (toL ev x y):=Qbdx (Qxt ys (Qog ev i x c y)) (Qvu.2 (.inr rfl));rw [h1];simp [Qog]
theorem Q6p {ev:List Qd} {a:Qa} (hp:Plt ev a) {i:Nat} {x:Lab}:∀ (ys:List Qi) (c:List Lab×List Qi),LbI a c.1→x∈c.1→(∀ y∈ys,y∈a.zG)→LbI a (ys.foldl (Qog ev i x) c).1
 | [],c,h,_,_=>h
 | y::ys,c,h,hx,hy=>Q6p hp ys _ (h.add (h.to hp hx (hy y (by simp)))) (Qvu.2 (.inl hx)) (fun z hz=>hy z (by simp [hz]))
section
variable {ev:List Qd} {a:Qa}
theorem Q33 (n:Nat):(labs ev a n).1 <+: (labs ev a (n+1)).1:=by
 show _ <+: (match (labs ev a n).1[n]? with|some x=>_|none=>_:List Lab×List Int×List Qi).1;split
 ·dsimp only;exact Qxt (outP a _) ((labs ev a n).1,(labs ev a n).2.2)
 ·exact List.prefix_refl _
theorem Qxu (hp:Plt ev a) (h0:0<a.zH):∀ n,LbI a (labs ev a n).1
 | 0=>⟨by simp [labs],fun x hx=>by simp [labs] at hx;subst hx;simp;omega⟩
 | n+1=>by
  have ih:=Qxu hp h0 n;show LbI a (match (labs ev a n).1[n]? with|some x=>_|none=>_:List Lab×List Int×List Qi).1;split
  ·rename_i x hx;exact Q6p hp _ _ ih (List.mem_of_getElem? hx) (fun y hy=>(List.mem_filter.1 hy).1)
  ·exact ih
theorem Qvv (hp:Plt ev a) (h0:0<a.zH) (n:Nat):(labs ev a n).1.length≤3200:=by
 have:=(Qxu hp h0 n).len;have:=hp.st;omega
def LabN (ev:List Qd) (a:Qa) (N:Nat):Prop:=(labs ev a N).1.length=N∧∀ n<N,n<(labs ev a n).1.length
theorem Qbdy (hp:Plt ev a) (h0:0<a.zH):∃ N,LabN ev a N:=by
 have key:∀ m,(labs ev a m).1.length≤m→∃ N,LabN ev a N:=by
  intro m
  induction m using Nat.strongRecOn with
  | ind m ih =>
   intro h1;by_cases hex:∃ n,n<m∧(labs ev a n).1.length≤n
   ·obtain ⟨n,hn,h⟩:=hex;exact ih n hn h
   ·have hlt:∀ n<m,n<(labs ev a n).1.length:=fun n hn=>by
     rcases Nat.lt_or_ge n (labs ev a n).1.length with h|h
     ·exact h
     ·exact absurd ⟨n,hn,h⟩ hex
    refine ⟨m,?_,hlt⟩;cases m with
    | zero=>simp [labs] at h1
    | succ k =>
     have:=hlt k (by omega);have:=(Q33 (ev:=ev) (a:=a) k).length_le;omega
 exact key 3200 (Qvv hp h0 _)
theorem LabN.le (hp:Plt ev a) (h0:0<a.zH) {N:Nat} (h:LabN ev a N):N≤3200:=by have:=Qvv hp h0 N;have:=h.1;omega
def labA (ev:List Qd) (a:Qa) (N:Nat):Qa:=⟨a.zD,(N:Int),(labs ev a N).2.1,(labs ev a N).2.2⟩
theorem Q18 {n:Nat} (h:n<(labs ev a n).1.length):∃ x,(labs ev a n).1[n]? = some x∧labs ev a (n+1)=(((outP a x.State).foldl (Qog ev n x) ((labs ev a n).1,(labs ev a n).2.2)).1,if x.State∈a.zF then (labs ev a n).2.1++[(n:Int)] else (labs ev a n).2.1,((outP a x.State).foldl (Qog ev n x) ((labs ev a n).1,(labs ev a n).2.2)).2):=by
 refine ⟨_,List.getElem?_eq_getElem h,?_⟩;show (match (labs ev a n).1[n]? with|some x=>_|none=>_:List Lab×List Int×List Qi)=_;rw [List.getElem?_eq_getElem h]
theorem Q6q (h:Right a) (s:Int):(outP a s).Pairwise fun x y=>x.Event<y.Event:=by
 have h1:(outP a s).Pairwise Qr9:=h.ed.filter _;refine (List.Pairwise.and_mem.1 h1).imp fun {x y} ⟨hx,hy,hk⟩=>?_;have e1:x.From=s:=by simpa using (List.mem_filter.1 hx).2
 have e2:y.From=s:=by simpa using (List.mem_filter.1 hy).2
 unfold Qr9 at hk;omega
structure LabI (ev:List Qd) (a:Qa) (n:Nat):Prop where
 mr:∀ x∈(labs ev a n).2.1,0≤x∧x<n
 ms:(labs ev a n).2.1.Pairwise (· < ·)
 er:∀ x∈(labs ev a n).2.2,0≤x.From∧x.From<n∧0≤x.To∧x.To<((labs ev a n).1.length:Nat)∧x.Event∈a.zD
 es:(labs ev a n).2.2.Pairwise Qr9
 el:(labs ev a n).2.2.length≤32*n
theorem Q47 (h:Right a) (s:Int):(outP a s).length≤32:=by
 have h1:=Q6q h s;have h2:((outP a s).map (·.Event)).Pairwise (· < ·):=List.pairwise_map.2 h1;have:=Qe3 (a:=0) (b:=32) h2 fun x hx=>by
  obtain ⟨y,hy,rfl⟩:=List.mem_map.1 hx;exact h.al0 _ (h.ed0 y ((List.mem_filter.1 hy).1)).2.2.2.2
 simpa using this
theorem labI (hp:Plt ev a):∀ n,n≤(labs ev a n).1.length→(∀ m<n,m<(labs ev a m).1.length)→LabI ev a n
 | 0,_,_=>⟨by simp [labs],by simp [labs],by simp [labs],by simp [labs],by simp [labs]⟩
 | n+1,_,hlt=>by
  have hn:=hlt n (by omega);have ih:=labI hp n (by omega) (fun m hm=>hlt m (by omega));obtain ⟨x,hx,e⟩:=Q18 hn;have hpre:=Q33 (ev:=ev) (a:=a) n;have hle:=hpre.length_le;have hE:(labs ev a (n+1)).2.2=(labs ev a n).2.2++(outP a x.State).map fun y=>⟨(n:Int),y.Event,((labs ev a (n+1)).1.idxOf (toL ev x y):Int)⟩:=by
   rw [e];exact Q6o _ _
  have hM:(labs ev a (n+1)).2.1=if x.State∈a.zF then (labs ev a n).2.1++[(n:Int)] else (labs ev a n).2.1:=by rw [e]
  have hmem:∀ y∈outP a x.State,toL ev x y∈(labs ev a (n+1)).1:=by rw [e];exact Q6n _ _
  refine ⟨?_,?_,?_,?_,?_⟩
  ·intro z hz;rw [hM] at hz;have:z∈(labs ev a n).2.1∨z=(n:Int):=by split at hz<;>simp_all
   rcases this with h|h
   ·have:=ih.mr z h;omega
   ·omega
  ·rw [hM];split
   ·rw [List.pairwise_append];refine ⟨ih.ms,by simp,fun p hp q hq=>?_⟩;have:=ih.mr p hp;simp at hq;omega
   ·exact ih.ms
  ·intro z hz;rw [hE] at hz;rcases List.mem_append.1 hz with h|h
   ·have:=ih.er z h;exact ⟨this.1,by omega,this.2.2.1,by omega,this.2.2.2.2⟩
   ·obtain ⟨y,hy,rfl⟩:=List.mem_map.1 h;have hi:=List.idxOf_lt_length_iff.2 (hmem y hy);exact ⟨by simp,by simp;omega,by simp,by simp;exact hi,(hp.r.ed0 y ((List.mem_filter.1 hy).1)).2.2.2.2⟩
  ·rw [hE,List.pairwise_append];refine ⟨ih.es,List.pairwise_map.2 ((Q6q hp.r _).imp fun h=>.inr ⟨rfl,h⟩),fun p hp' q hq=>?_⟩;obtain ⟨y,hy,rfl⟩:=List.mem_map.1 hq;have:=ih.er p hp';exact .inl this.2.1
  ·rw [hE,List.length_append,List.length_map];have:=ih.el;have:=Q47 hp.r x.State;omega
theorem LabN.labI (hp:Plt ev a) {N:Nat} (h:LabN ev a N):LabI ev a N:=Go.Abs.labI hp N (by have:=h.1;omega) h.2
theorem Q7j (hp:Plt ev a) (h0:0<a.zH) {N:Nat} (h:LabN ev a N):Right (labA ev a N):=by
 have hi:=h.labI hp;have hl:=h.le hp h0;have he:=hi.er;rw [h.1] at he;exact ⟨hp.r.al0,hp.r.al,⟨by simp [labA],by simp [labA];omega⟩,hi.mr,hi.ms,he,hi.es⟩
end
end Go.Abs
end
section
namespace Go.Abs
open Go
variable {ev:List Qd} {a:Qa}
theorem Qzn (hp:Plt ev a):Qcs ev a=some 0:=by
 unfold Qcs Qw;rw [hp.chk];simp only [Option.bind_some,show ((0:Int) != 0)=false from rfl,Bool.false_eq_true,if_false];rw [Q41 hp.r];simp only [Option.bind_some,show ((0:Int) != 0)=false from rfl,Bool.false_eq_true,if_false];have hl:=hp.r.small.2.1;by_cases h0:a.zD.length=0
 ·rw [if_neg (by omega)];rfl
 ·rw [if_pos (by omega),Qvj (by omega) (by omega),Qb7 (by omega)];have:=hp.al (a.zD[a.zD.length-1]'(by omega)) (List.getElem_mem _);simp only [Option.bind_some];rw [decide_eq_false (by omega)]
  rfl
structure KB2 (S:List Lab) (c:List (Lab×Int)):Prop where
 has:∀ t,hasM c t=decide (t∈S)
 get:∀ t∈S,getM c t 0=(S.idxOf t:Int)
theorem KB2.first (t:Lab):KB2 [t] (setM ([]:List (Lab×Int)) t 0):=by
 refine ⟨fun m=>?_,fun m hm=>?_⟩
 ·rw [Qvq];have:hasM ([]:List (Lab×Int)) m=false:=rfl;rw [this,Bool.or_false];simp
 ·rw [List.mem_singleton] at hm;subst hm;rw [Qvr,if_pos rfl];simp
theorem KB2.add {S:List Lab} {c:List (Lab×Int)} (h:KB2 S c) {t:Lab} (hm:t∉S):KB2 (S++[t]) (setM c t (S.length:Int)):=by
 refine ⟨fun m=>?_,fun m hm'=>?_⟩
 ·rw [Qvq,h.has m,← Bool.decide_or];apply decide_eq_decide.2;rw [List.mem_append,List.mem_singleton];exact or_comm
 ·rw [Qvr];rw [List.mem_append,List.mem_singleton] at hm';rcases hm' with hm'|rfl
  ·rw [if_neg (fun e=>hm (by rw [← e];exact hm')),h.get m hm',List.idxOf_append,if_pos hm']
  ·rw [if_pos rfl,List.idxOf_append,if_neg hm];simp
theorem Q97 (hp:Plt ev a) {y:Qi} (hy:y∈a.zG):Qia ev y.Event=some (bitE ev y.Event):=by
 have he:=(hp.r.ed0 y hy).2.2.2.2;have h1:=hp.al _ he;have h2:=hp.r.al0 _ he;unfold Qia Qd7 bitE;cases hx:getO ev y.Event with
 | none =>
  exfalso;have:getO ev ((y.Event.toNat:Nat):Int)=some ev[y.Event.toNat]:=Qb7 (by omega);rw [show ((y.Event.toNat:Nat):Int)=y.Event from by omega,hx] at this;cases this
 | some x =>
  have hm:=hp.flt x (List.mem_of_getElem? (Qi5.1 hx).2);simp only [Option.bind_some];by_cases hf:x.Fault>0
  ·rw [if_pos hf,if_pos (by omega)];have:x.Fault=1∨x.Fault=2∨x.Fault=3∨x.Fault=4:=by omega
   rcases this with e|e|e|e<;>rw [e]<;>rfl
  ·rw [if_neg hf,if_neg (by omega)]
theorem Q06 (h:Right a) {fuel:Nat} (hfu:1099511627776≤fuel):(Qdm (fun k12 ((x10,c11):Int×(List (List Qi)))=>(if (x10<(a.zG.length:Int)) then ((getO a.zG x10).bind fun x14=>((inO (Int.toNat a.zH) x14.From).bind fun u16=>((getO c11 x14.From).bind fun x18=>((appO x18 [x14]).bind fun x20=>((inO (Int.toNat a.zH) x14.From).bind fun u22=>((setO c11 x14.From x20).bind fun x24=>k12 ((IntKind.wrap .i64 (x10+1)),x24))))))) else some c11)) fuel (0,List.replicate a.zH.toNat []))=some (Qxh a):=by
 have hs:=h.small;have hst:=h.st;refine (Qj2 (len:=a.zG.length) (fun n (c:List (List Qi))=>((n:Int),c)) (fun n c=>c.length=a.zH.toNat∧∀ s:Nat,s<a.zH.toNat→c[s]? = some ((a.zG.take n).filter fun x=>x.From==(s:Int))) (fun n c=>some (Qxh a)) ?_ ?_ fuel 0 _ (Nat.zero_le _) (by omega) ⟨by simp,fun s hs=>by simp [hs]⟩)
 ·intro k n c hn ⟨i1,i2⟩ ih;have he:=h.ed0 _ (List.getElem_mem hn);dsimp only;rw [if_pos (by omega),Qb7 hn];simp only [Option.bind_some];have hin:inO (Int.toNat a.zH) a.zG[n].From=some ():=by unfold inO;rw [if_pos ⟨he.1,by omega⟩]
  have hto:((a.zG[n].From.toNat:Nat):Int)=a.zG[n].From:=by omega
  have hg:getO c a.zG[n].From=some ((a.zG.take n).filter fun x=>x.From==a.zG[n].From):=by
   rw [Qi5];refine ⟨he.1,?_⟩;rw [i2 _ (by omega),hto]
  have hfl:((a.zG.take n).filter fun x=>x.From==a.zG[n].From).length≤a.zG.length:=Nat.le_trans (List.length_filter_le _ _) (by rw [List.length_take];omega);rw [hin,hg];simp only [Option.bind_some];rw [Qc3 (by simp only [List.length_cons,List.length_nil];unfold lim;omega)];simp only [Option.bind_some];unfold setO;rw [if_pos ⟨he.1,by omega⟩,Qbl (by omega)];simp only [Option.bind_some];refine ih _ ⟨by simp [i1],fun s hs=>?_⟩;rw [List.getElem?_set,List.take_succ_eq_append_getElem hn,List.filter_append];split
  ·rename_i hss;subst hss;rw [if_pos (by omega),hto];simp
  ·rename_i hss;have:¬ a.zG[n].From=(s:Int):=by omega
   rw [i2 s hs];simp [this]
 ·intro k c ⟨i1,i2⟩;dsimp only;rw [if_neg (by omega)];congr 1;refine List.ext_getElem? fun s=>?_;by_cases hs:s<a.zH.toNat
  ·rw [i2 s hs,Qzi a hs,List.take_length];rfl
  ·rw [List.getElem?_eq_none (by omega),List.getElem?_eq_none (by rw [Qsb];omega)]
theorem getB {S:List Lab} {n:Nat} {x:Lab} (h:S[n]? = some x):getO S (n:Int)=some x:=by rw [Qi5];exact ⟨by omega,by simpa using h⟩
theorem Qbbm (hp:Plt ev a) (h0:0<a.zH) {N:Nat} (hN:LabN ev a N):Qb1 ev a=some (labA ev a N,(labs ev a N).1,0):=by
 have hs:=hp.r.small;have hst:=hp.r.st;have hNl:=hN.le hp h0;unfold Qb1 Qt;obtain ⟨fuel,hfu,hge⟩ : ∃ f,Qbx=f∧1099511627776≤f:=⟨_,rfl,Nat.le_refl _⟩;rw [hfu,Qzn hp];simp only [Option.bind_some,show ((0:Int) != 0)=false from rfl,Bool.false_eq_true,if_false];rw [Q6e (by unfold lim;omega)];refine Qfw rfl ?_;refine Qfw (x:=List.replicate a.zH.toNat []) (by unfold mkO;rw [if_pos ⟨hst.1,by unfold lim;omega⟩]) ?_;refine Qfw (Q06 hp.r hge) ?_;rw [if_pos (by omega),Qc3 (by simp [lim])];simp only [Option.bind_some,List.nil_append];refine Qdt (fun x=>∃ (n:Nat) (c:List (Lab×Int)),n≤N∧KB2 (labs ev a n).1 c∧x=((labs ev a n).1,(n:Int),[],[],[],(labs ev a n).2.1,(labs ev a n).2.2,c)) (fun x=>N-x.2.1.toNat) (fun x r=>r=some (labA ev a N,(labs ev a N).1,0)) ?_ fuel _ ⟨0,_,Nat.zero_le _,.first _,rfl⟩ (by simp only [Int.toNat_zero];omega);rintro k _ ⟨n,c,hn,hK,rfl⟩ ih;dsimp only;by_cases hlt:n<N
 ·have hnl:=hN.2 n hlt;have hI:=labI hp n (by omega) (fun m hm=>hN.2 m (by omega));have hB:=Qxu hp h0 n;obtain ⟨x,hx,e⟩:=Q18 hnl;have hxm:=List.mem_of_getElem? hx;have hxs:=(hB.ok x hxm).1;have hll:=Qvv hp h0 n;have hll':=Qvv hp h0 (n+1);have hml:(labs ev a n).2.1.length≤n:=by have:=Qe3 hI.ms hI.mr;simpa using this
  have hel:=hI.el;rw [if_pos (by omega),getB hx];simp only [Option.bind_some];rw [Q6m hp.r.ma hs.1.2.1];simp only [Option.bind_some];refine Qfw (x:=(labs ev a (n+1)).2.1) ?_ ?_
  ·rw [e];by_cases hm:x.State∈a.zF
   ·rw [decide_eq_true hm,if_pos rfl,if_pos hm,Qc3 (by simp only [List.length_cons,List.length_nil];unfold lim;omega)]
    rfl
   ·rw [decide_eq_false hm,if_neg (by simp),if_neg hm]
  have hin:inO (Int.toNat a.zH) x.State=some ():=by unfold inO;rw [if_pos ⟨hxs.1,by omega⟩]
  rw [hin,Q15 hxs];simp only [Option.bind_some];have hof:=Q47 hp.r x.State;have hoe:∀ y∈outP a x.State,y∈a.zG:=fun y hy=>(List.mem_filter.1 hy).1;generalize hO:outP a x.State=O at e hof hoe ⊢;refine Qdt (fun z=>∃ (m:Nat) (S:List Lab) (r:List Qi) (c:List (Lab×Int)),z=(S,(m:Int),r,c)∧m≤O.length∧S[n]? = some x∧LbI a S∧r.length≤32*n+m∧KB2 S c ∧
   (O.drop m).foldl (Qog ev n x) (S,r)=((labs ev a (n+1)).1,(labs ev a (n+1)).2.2)) (fun z=>O.length-z.2.1.toNat) (fun z r=>r=some (labA ev a N,(labs ev a N).1,0)) ?_ fuel _ ⟨0,_,_,c,rfl,Nat.zero_le _,hx,hB,by omega,hK,by rw [e];rfl⟩ (by simp only [Int.toNat_zero];omega)
  rintro k' _ ⟨m,S,r,c,rfl,hm,hgs,hBS,hrl,hKS,hf⟩ ih';dsimp only;by_cases hlm:m<O.length
  ·have hye:=hoe _ (List.getElem_mem hlm);rw [if_pos (by omega),Qb7 hlm,getB hgs];rw [List.drop_eq_getElem_cons hlm] at hf;generalize O[m]=y at hye hf ⊢;simp only [Option.bind_some];rw [Q97 hp hye];simp only [Option.bind_some];simp only [letJ];have ht:(Qb.mk y.To (orI .i64 x.Classes (bitE ev y.Event)))=toL ev x y:=rfl;rw [ht,hKS.has];have hSl:=hBS.len;have hst2:=hp.st;have htl:=hBS.to hp (List.mem_of_getElem? hgs) hye;by_cases hin:toL ev x y∈S
   ·have hi:Qse S (toL ev x y)=S:=by unfold Qse;rw [if_pos hin]
    rw [decide_eq_true hin,if_pos rfl];rw [hKS.get _ hin,Qc3 (by simp only [List.length_cons,List.length_nil];unfold lim;omega)];simp only [Option.bind_some];rw [Qbl (by omega)];refine ih' _ ⟨m+1,S,_,c,rfl,by omega,hgs,hBS,by rw [List.length_append];simp only [List.length_cons,List.length_nil];omega,hKS,?_⟩ (by simp only;omega);rw [List.foldl_cons] at hf;rw [← hf];unfold Qog;rw [hi]
   ·have hi:Qse S (toL ev x y)=S++[toL ev x y]:=by unfold Qse;rw [if_neg hin]
    rw [decide_eq_false hin,if_neg (by simp),if_neg (by simp;omega),Qc3 (by simp only [List.length_cons,List.length_nil];unfold lim;omega)];simp only [Option.bind_some];have hK2:=hKS.add hin;rw [hK2.get _ (by simp),Qc3 (by simp only [List.length_cons,List.length_nil];unfold lim;omega)];simp only [Option.bind_some];rw [Qbl (by omega)];have hBi:=hBS.add htl;rw [hi] at hBi;refine ih' _ ⟨m+1,S++[toL ev x y],_,_,rfl,by omega,by rw [List.getElem?_append_left (List.getElem?_eq_some_iff.1 hgs).1];exact hgs,hBi,by rw [List.length_append];simp only [List.length_cons,List.length_nil];omega,hK2,?_⟩ (by simp only;omega);rw [List.foldl_cons] at hf;rw [← hf];unfold Qog;rw [hi]
  ·rw [if_neg (by omega)];have hd:O.drop m=[]:=List.drop_eq_nil_of_le (by omega);rw [hd,List.foldl_nil,Prod.mk.injEq] at hf;obtain ⟨rfl,rfl⟩:=hf;rw [Qbl (by omega)];exact ih _ ⟨n+1,c,by omega,hKS,rfl⟩ (by simp only;omega)
 ·obtain rfl:n=N:=by omega
  rw [if_neg (by have:=hN.1;omega),hN.1]
  rfl
theorem Q7k (hp:Plt ev a) (h0:a.zH=0):Qb1 ev a=some (⟨a.zD,0,[],[]⟩,[],0):=by
 have hs:=hp.r.small;unfold Qb1 Qt;obtain ⟨fuel,hfu,hge⟩ : ∃ f,Qbx=f∧1099511627776≤f:=⟨_,rfl,Nat.le_refl _⟩;rw [hfu,Qzn hp];simp only [Option.bind_some,show ((0:Int) != 0)=false from rfl,Bool.false_eq_true,if_false];rw [Q6e (by unfold lim;omega)];refine Qfw rfl ?_;refine Qfw (x:=List.replicate a.zH.toNat []) (by unfold mkO;rw [if_pos ⟨by omega,by unfold lim;omega⟩]) ?_;refine Qfw (Q06 hp.r hge) ?_;rw [if_neg (by omega)];obtain ⟨f,rfl⟩ : ∃ f,fuel=f+1:=⟨fuel-1,by omega⟩
 rfl
end Go.Abs
end
section
namespace Go.Abs
open Go
structure Proj (a:Qa) (onto:List Int) (S:List (List Int)):Prop where
 es:Ests a S
 first:S[0]? = some (Qsc a onto)
 cl:∀ s∈S,∀ e∈Qio a onto,Qul a onto s e≠[]→Qul a onto s e∈S
 form:∀ s∈S,∃ fr,(∀ t∈fr,0≤t∧t<a.zH)∧s=Qqh a fr (Qkq a onto)
section
variable {a:Qa} {onto:List Int} {S:List (List Int)}
variable (h:Right a) (hP:Proj a onto S)
include h hP
end
def Q34 (l:List Int):Nat:=l.foldr (fun x n=>n ||| 2 ^ x.toNat) 0
theorem Qsr:∀ {l:List Int},(∀ x∈l,0≤x)→∀ k:Nat,(Q34 l).testBit k=decide ((k:Int)∈l)
 | [],_,k=>by simp [Q34]
 | x::l,h,k=>by
  have ih:=Qsr (l:=l) (fun y hy=>h y (by simp [hy])) k;have hx:=h x (by simp);show ((Q34 l) ||| 2 ^ x.toNat).testBit k=_;rw [Nat.testBit_or,ih,Nat.testBit_two_pow];rw [Bool.eq_iff_iff];simp only [Bool.or_eq_true,decide_eq_true_eq,List.mem_cons];constructor
  ·rintro (h|h)
   ·exact .inr h
   ·left;omega
  ·rintro (h|h)
   ·right;omega
   ·exact .inl h
theorem Qbbn {l:List Int} {n:Nat} (h:∀ x∈l,0≤x∧x<n):Q34 l<2 ^ n:=by
 refine Nat.lt_pow_two_of_testBit _ fun i hi=>?_;rw [Qsr (fun x hx=>(h x hx).1)];simp only [decide_eq_false_iff_not];intro hm;have:=h _ hm;omega
theorem Qbbo {a:Qa} {S:List (List Int)} (hS:Ests a S) {n:Nat} (hn:a.zH≤n):S.length≤2 ^ n:=by
 have h1:(S.map fun s=>((Q34 s:Nat):Int)).Nodup:=by
  refine List.Pairwise.map _ (S:=fun a b=>a≠b) (fun p q h=>h) ?_;refine List.Pairwise.imp_of_mem (fun {s t} hs ht hne e=>hne ?_) hS.nd;have hs:=(hS.ok s hs).1;have ht:=(hS.ok t ht).1;have e:Q34 s=Q34 t:=by omega
  refine Q9y hs.so ht.so fun x=>?_;by_cases hx:0≤x
  ·have k1:=Qsr (fun y hy=>(hs.rg y hy).1) x.toNat;have k2:=Qsr (fun y hy=>(ht.rg y hy).1) x.toNat;rw [e,k2] at k1;have:=decide_eq_decide.1 k1;rw [show ((x.toNat:Nat):Int)=x from by omega] at this;exact this.symm
  ·exact ⟨fun h=>absurd (hs.rg x h).1 hx,fun h=>absurd (ht.rg x h).1 hx⟩
 have hb:∀ x∈(S.map fun s=>((Q34 s:Nat):Int)),0≤x∧x<((2 ^ n:Nat):Int):=fun x hx=>by
  obtain ⟨s,hs,rfl⟩:=List.mem_map.1 hx;have:=Qbbn (l:=s) (n:=n) fun y hy=>by have:=(hS.ok s hs).1.rg y hy;omega
  omega
 obtain ⟨h3,h4⟩:=Qzf h1;generalize 2 ^ n=N at hb ⊢;have:=Qe3 (a:=0) (b:=(N:Int)) h3 fun x hx=>hb x ((h4 x).1 hx);rw [Qjz,List.length_map] at this;omega
end Go.Abs
end
section
namespace Go.Abs
open Go
theorem Q98 {s:ByteArray} (hs:s.size<big):∃ b,Qfm s=some b:=by
 have hb:s.size<1000000000000:=hs;unfold Qfm Qd0;refine Qdt (fun x=>∃ n:Nat,x=(n:Int)∧n≤s.size) (fun x=>s.size-x.toNat) (fun x r=>∃ b,r=some b) ?_ Qbx _ ⟨0,rfl,Nat.zero_le _⟩ (by unfold Qbx;omega);rintro k _ ⟨n,rfl,hn⟩ ih;by_cases hlt:n<s.size
 ·rw [if_pos (by omega)];have hc:∃ c,chrO s (n:Int)=some c:=by unfold chrO;rw [dif_pos ⟨by omega,by omega⟩];exact ⟨_,rfl⟩
  obtain ⟨c,hc⟩:=hc;rw [hc];simp only [Option.bind_some];have key:∀ (o:Option Bool) (K:Bool→Option Bool),(∃ x,o=some x)→(∀ x,∃ y,K x=some y)→∃ y,o.bind K=some y:=fun o K ⟨x,h⟩ h2=>by rw [h];exact h2 x
  refine key _ _ ?_ fun letter=>key _ _ ?_ fun z=>?_
  ·repeat' split
   all_goals exact ⟨_,rfl⟩
  ·repeat' split
   all_goals exact ⟨_,rfl⟩
  ·split
   ·exact ⟨_,rfl⟩
   ·rw [Qbl (by omega)];exact ih _ ⟨n+1,rfl,by omega⟩ (by simp only [Int.toNat_natCast];omega)
 ·rw [if_neg (by omega)];split<;>exact ⟨_,rfl⟩
def Qbbp (s:ByteArray):Bool:=decide (Qfm s=some true)
theorem Q99 {s:ByteArray} (hs:s.size<big):Qfm s=some (Qbbp s):=by
 obtain ⟨b,h⟩:=Q98 hs;unfold Qbbp;rw [h];cases b<;>simp
def Qbbq (k:ByteArray) (seen:List ByteArray):Bool:=seen.any fun z=>decide (k=z)
def Qw9:List ByteArray→List Qd→Int
 | _,[]=>0
 | seen,x::l=>if Qbbp x.Name=false then 7 else if Qbbq x.Name seen=true then 8 else if x.Fault<0∨x.Fault>4 then 2 else if x.Fault≠0∧(x.Controllable=true∨x.Observable=true) then 13 else Qw9 (x.Name::seen) l
def Qxi (ev:List Qd):Int:=if 32<ev.length then 3 else Qw9 [] ev
theorem Qwr {ev:List Qd} (hl:ev.length<big) (hn:∀ x∈ev,x.Name.size<big):Qej ev=some (Qxi ev):=by
 have hb:ev.length<1000000000000:=hl;unfold Qej Qbi Qxi;by_cases h32:32<ev.length
 ·rw [if_pos (by omega),if_pos h32]
 rw [if_neg (by omega),if_neg h32];refine Qdt (fun x=>∃ (n:Nat) (c:List (ByteArray×Bool)) (seen:List ByteArray),x=((n:Int),c)∧n≤ev.length∧(∀ k,getM c k false=Qbbq k seen)∧Qw9 seen (ev.drop n)=Qw9 [] ev) (fun x=>ev.length-x.1.toNat) (fun x r=>r=some (Qw9 [] ev)) ?_ Qbx _ ⟨0,[],[],rfl,Nat.zero_le _,fun k=>rfl,by simp⟩ (by simp only [Int.toNat_zero];unfold Qbx;omega);rintro k _ ⟨n,c,seen,rfl,hle,hc,he⟩ ih;dsimp only;by_cases hlt:n<ev.length
 ·rw [if_pos (by omega),Qb7 hlt];have hx:=hn _ (List.getElem_mem hlt);rw [List.drop_eq_getElem_cons hlt] at he;generalize ev[n]=x at hx he ⊢;simp only [Option.bind_some];rw [Q99 hx];simp only [Option.bind_some];simp only [Qw9] at he;by_cases h1:Qbbp x.Name=false
  ·rw [if_pos h1] at he;rw [h1,if_neg (by simp),he]
  ·rw [if_neg h1] at he;rw [Bool.not_eq_false] at h1;rw [h1,if_pos rfl,hc];by_cases h2:Qbbq x.Name seen=true
   ·rw [if_pos h2] at he;rw [if_pos h2,he]
   ·rw [if_neg h2] at he;rw [if_neg h2];have e3:(if x.Fault<0 then some true else some (decide (x.Fault>4)))=some (decide (x.Fault<0∨x.Fault>4)):=by
     by_cases h:x.Fault<0<;>simp [h]
    rw [e3];simp only [Option.bind_some];by_cases h3:x.Fault<0∨x.Fault>4
    ·rw [if_pos h3] at he;rw [decide_eq_true h3,if_pos rfl,he]
    ·rw [if_neg h3] at he;rw [decide_eq_false h3,if_neg (by simp)];have e4:(if x.Fault != 0 then (if x.Controllable then some true else some x.Observable) else some false)=some (decide (x.Fault≠0∧(x.Controllable=true∨x.Observable=true))):=by
      by_cases h:x.Fault=0<;>cases x.Controllable<;>cases x.Observable<;>simp [h]
     rw [e4];simp only [Option.bind_some];by_cases h4:x.Fault≠0∧(x.Controllable=true∨x.Observable=true)
     ·rw [if_pos h4] at he;rw [decide_eq_true h4,if_pos rfl,he]
     ·rw [if_neg h4] at he;rw [decide_eq_false h4,if_neg (by simp),Qbl (by omega)];exact ih _ ⟨n+1,_,_,rfl,by omega,fun k=>by rw [Qvs,hc];by_cases h:k=x.Name<;>simp [h,Qbbq],he⟩ (by simp only [Int.toNat_natCast];omega)
 ·rw [if_neg (by omega)];have:ev.drop n=[]:=List.drop_eq_nil_of_le (by omega);rw [this] at he;rw [← he];rfl
theorem Q07:∀ {l:List Qd} {seen:List ByteArray},Qw9 seen l=0→∀ x∈l,0≤x.Fault∧x.Fault≤4
 | [],_,_,x,hx=>by cases hx
 | y::l,seen,h,x,hx=>by
  simp only [Qw9] at h;split at h
  ·omega
  split at h
  ·omega
  split at h
  ·omega
  rename_i h3;split at h
  ·omega
  rcases List.mem_cons.1 hx with rfl|hx
  ·omega
  ·exact Q07 h x hx
theorem Qbe4 {ev:List Qd} {a:Qa} (hl:ev.length<big) (hn:∀ x∈ev,x.Name.size<big) (he:Qxi ev=0) (hr:Right a) (hst:a.zH≤200) (hal:∀ x∈a.zD,x<ev.length):Plt ev a:=by
 have h:=he;unfold Qxi at h;split at h
 ·omega
 exact ⟨hr,hst,hal,Q07 h,by rw [Qwr hl hn,he],by omega⟩
def obsE (ev:List Qd):List Int:=(upto ev.length).filter fun i=>match getO ev i with|some x=>x.Observable|none=>false
theorem Qqc {ev:List Qd} (h:ev.length≤32):EvSet (obsE ev):=by
 refine ⟨fun x hx=>?_,(Q3v _).filter _⟩;have:=Q6f.1 (List.mem_filter.1 hx).1;omega
def selF (p:Qd→Bool) (ev:List Qd) (n:Nat):List Int:=((upto ev.length).drop n).filter fun i=>match getO ev i with|some x=>p x|none=>false
theorem Qbaa {p:Qd→Bool} {ev:List Qd} {n:Nat} (h:n<ev.length):selF p ev n=(if p ev[n] then [(n:Int)] else [])++selF p ev (n+1):=by
 unfold selF;rw [List.drop_eq_getElem_cons (by rw [Qxs];simpa using h),Qbbk (n:=(ev.length:Int)) (by simpa using h),List.filter_cons,Qb7 h];dsimp only;by_cases h:p ev[n]=true<;>simp [h]
theorem Qbbr {p:Qd→Bool} {ev:List Qd} (hl:ev.length<big) {fuel:Nat} (hf:ev.length<fuel) {F:(List Int×Int→Option (List Int))→List Int×Int→Option (List Int)}
  (hF:∀ (k:List Int×Int→Option (List Int)) (acc:List Int) (n:Nat) (h:n<ev.length),acc.length≤n→F k (acc,(n:Int))=k (if p ev[n] then acc++[(n:Int)] else acc,IntKind.wrap .i64 ((n:Int)+1)))
  (hlast:∀ (k:List Int×Int→Option (List Int)) (acc:List Int),F k (acc,(ev.length:Int))=some acc):Qdm F fuel ([],0)=some (selF p ev 0):=by
 have hb:ev.length<1000000000000:=hl;refine (Qj2 (len:=ev.length) (fun n (acc:List Int)=>(acc,(n:Int))) (fun n acc=>acc.length≤n) (fun n acc=>some (acc++selF p ev n)) ?_ ?_ fuel 0 [] (Nat.zero_le _) (by omega) (Nat.le_refl _)).trans (by simp)
 ·intro k n acc hn hi ih;rw [hF k acc n hn hi,Qbl (by omega),ih _ (by by_cases h:p ev[n]=true<;>simp [h]<;>omega),Qbaa hn];by_cases h:p ev[n]=true<;>simp [h]
 ·intro k acc _;have:selF p ev ev.length=[]:=by unfold selF;rw [List.drop_eq_nil_of_le (by rw [Qxs];simp)];rfl
  rw [hlast,this];simp
theorem Qbab {p:Qd→Bool} {ev:List Qd} (hl:ev.length<big) {f:Qd→Option Bool} (hf:∀ x,f x=some (p x)):Qil ev f=some (selF p ev 0):=by
 have hb:ev.length<1000000000000:=hl;unfold Qil Qd1;refine Qfw (Qbbr (p:=p) hl (by unfold Qbx;omega) ?_ ?_) rfl
 ·intro k acc n hn hacc;dsimp only;rw [if_pos (by omega),Qb7 hn];simp only [Option.bind_some,hf];cases p ev[n]
  ·rfl
  ·rw [if_pos rfl,Qc3 (by simp only [List.length_cons,List.length_nil];unfold lim;omega)];rfl
 ·intro k acc;dsimp only;rw [if_neg (by omega)]
theorem Qkw {ev:List Qd} (hl:ev.length<big) (hc:Qej ev=some 0):Qc0 ev=some (obsE ev):=by
 unfold Qc0 Qr Qh9 Qcn;rw [hc];simp only [Option.bind_some,show ((0:Int) != 0)=false from rfl,Bool.false_eq_true,if_false];rw [Qbab (f:=Qji) (p:=fun x=>x.Observable) hl (fun x=>rfl)]
 rfl
theorem Qbfo {l:List Int} {v:Int} (hl:l.length<big):Qg3 l v=some (decide (v∈l)):=by
 unfold Qg3 Qdc;refine (Qnk (len:=l.length) (fun k=>some (decide (v∈l.drop k))) (by unfold Qbx;unfold big at hl;omega) ?_ ?_).trans (by simp)
 ·intro k i hi ih;have hb:i<1000000000000:=by unfold big at hl;omega
  try dsimp only
  rw [if_pos (by omega),Qb7 hi,Qbl (by omega),ih,List.drop_eq_getElem_cons hi];simp only [Option.bind_some,List.mem_cons];by_cases h:l[i]=v
  ·simp [h]
  ·have:¬ v=l[i]:=fun e=>h e.symm;simp [h,this]
 ·intro k;simp
theorem Qbe5 (x y:Lab):((x.State==y.State)&&((x.Classes==y.Classes)&&true))=decide (x=y):=by
 obtain ⟨s,c⟩:=x;obtain ⟨s',c'⟩:=y;rw [Bool.eq_iff_iff];simp
theorem Qbe6 {l:List Lab} {v:Lab} (hl:l.length<big):Qgk l v=some (if v∈l then (l.idxOf v:Int) else -1):=by
 unfold Qgk Qcx;refine (Qnk (len:=l.length) (fun k=>some (if v∈l.drop k then ((k+(l.drop k).idxOf v:Nat):Int) else -1)) (by unfold Qbx;unfold big at hl;omega) ?_ ?_).trans (by simp)
 ·intro k i hi ih;have hb:i<1000000000000:=by unfold big at hl;omega
  try dsimp only
  rw [if_pos (by omega),Qb7 hi,Qbl (by omega),ih,List.drop_eq_getElem_cons hi];simp only [Option.bind_some,List.mem_cons,List.idxOf_cons,Qbe5];by_cases h:v=l[i]
  ·simp [← h]
  ·have:¬ l[i]=v:=fun e=>h e.symm;have hbq:(l[i]==v)=false:=by simp [this]
   by_cases h2:v∈l.drop (i+1)<;>simp [h,h2,hbq,this];omega
 ·intro k;simp
theorem Qbe7 {a:Qa} (h:small a):Qgi a=some (decide (a=⟨[],0,[],[]⟩)):=by
 unfold Qgi Qb3;rw [Q9v h];rfl
def Q08 (l:List Lab) (set:List Int):List Lab:=set.map fun i=>(getO l i).getD ⟨0,0⟩
theorem Q6r {l:List Lab} {set:List Int} (hs:set.length<big) (hr:∀ x∈set,0≤x∧x<l.length):Qf6 l set=some (Q08 l set):=by
 have hb:set.length<1000000000000:=hs;unfold Qf6 Qb0;refine Qfw (Q7e (f:=fun i=>(getO l i).getD ⟨0,0⟩) hs (by unfold Qbx;omega) ?_ ?_) rfl
 ·intro k acc n hn;dsimp only;rw [if_pos (by omega),Qb7 hn];have h:=hr _ (List.getElem_mem hn);have hg:getO l set[n]=some (l[set[n].toNat]'(by omega)):=by rw [Qi5];exact ⟨h.1,List.getElem?_eq_getElem (by omega)⟩
  simp only [Option.bind_some,hg,Option.getD_some]
 ·intro k acc;dsimp only;rw [if_neg (by omega)]
end Go.Abs
end
section
namespace Go.Abs
open Go
variable {ev:List Qd} {a:Qa}
theorem Qbe8 (hp:Plt ev a) {S:List Lab} (hB:LbI a S) {x:Lab} (hx:x∈S) {y:Qi} (hy:y∈a.zG):Qgj ev x y=some (toL ev x y):=by
 have hb:=Q97 hp hy;have hc:=(Qbe3 (hB.ok x hx).2 (Qbce hp y.Event)).2;unfold Qia Qd7 at hb;unfold Qgj Qcw toL;cases hg:getO ev y.Event with
 | none=>rw [hg] at hb;cases hb
 | some z =>
  rw [hg] at hb;simp only [Option.bind_some] at hb ⊢;by_cases hf:z.Fault>0
  ·rw [if_pos hf] at hb ⊢;cases hs:shlO .i64 1 (IntKind.wrap .i64 (z.Fault-1)) with
   | none=>rw [hs] at hb;cases hb
   | some s =>
    rw [hs] at hb;simp only [Option.bind_some,Option.some.injEq] at hb ⊢;rw [hb]
  ·rw [if_neg hf] at hb ⊢;simp only [Option.some.injEq] at hb;rw [← hb,hc]
theorem Qbac (hp:Plt ev a) (h0:0<a.zH) {N:Nat} (hN:LabN ev a N):Qdg ev a=some (labA ev a N,(labs ev a N).1):=by
 have hs:=hp.r.small;have hst:=hp.r.st;have hNl:=hN.le hp h0;unfold Qdg Qcd;obtain ⟨fuel,hfu,hge⟩ : ∃ f,Qbx=f∧1099511627776≤f:=⟨_,rfl,Nat.le_refl _⟩;rw [hfu,if_neg (by simp;omega)];refine Qfw (x:=((labs ev a N).1,[],[],[],(labs ev a N).2.1,(labs ev a N).2.2)) ?_ (by dsimp only;rw [hN.1];rfl);refine Qdt (fun x=>∃ (n:Nat),n≤N∧x=((labs ev a n).1,(n:Int),[],[],[],(labs ev a n).2.1,(labs ev a n).2.2)) (fun x=>N-x.2.1.toNat) (fun x r=>r=some ((labs ev a N).1,[],[],[],(labs ev a N).2.1,(labs ev a N).2.2)) ?_ fuel _ ⟨0,Nat.zero_le _,rfl⟩ (by simp only [Int.toNat_zero];omega);rintro k _ ⟨n,hn,rfl⟩ ih;dsimp only;by_cases hlt:n<N
 ·have hnl:=hN.2 n hlt;have hI:=labI hp n (by omega) (fun m hm=>hN.2 m (by omega));have hB:=Qxu hp h0 n;obtain ⟨x,hx,e⟩:=Q18 hnl;have hxm:=List.mem_of_getElem? hx;have hll:=Qvv hp h0 n;have hml:(labs ev a n).2.1.length≤n:=by have:=Qe3 hI.ms hI.mr;simpa using this
  have hel:=hI.el;rw [if_pos (by omega),getB hx];simp only [Option.bind_some];rw [Qbfo hs.1.2.1];simp only [Option.bind_some];refine Qfw (x:=((labs ev a (n+1)).1,(labs ev a (n+1)).2.1,(labs ev a (n+1)).2.2)) ?_ (by dsimp only;rw [Qbl (by omega)];exact ih _ ⟨n+1,by omega,rfl⟩ (by simp only;omega));refine Qfw (x:=(labs ev a (n+1)).2.1) ?_ ?_
  ·rw [e];by_cases hm:x.State∈a.zF
   ·rw [decide_eq_true hm,if_pos rfl,if_pos hm,Qc3 (by simp only [List.length_cons,List.length_nil];unfold lim;omega)]
    rfl
   ·rw [decide_eq_false hm,if_neg (by simp),if_neg hm]
  have hof:(outP a x.State)=a.zG.filter fun y=>y.From==x.State:=rfl;have hof2:=Q47 hp.r x.State;refine Qdt (fun z=>∃ (m:Nat) (S:List Lab) (r:List Qi),z=(S,(m:Int),r)∧m≤a.zG.length∧S[n]? = some x∧LbI a S∧r.length≤32*n+m ∧
   ((a.zG.drop m).filter fun y=>y.From==x.State).foldl (Qog ev n x) (S,r)=((labs ev a (n+1)).1,(labs ev a (n+1)).2.2)) (fun z=>a.zG.length-z.2.1.toNat) (fun z r=>r=some ((labs ev a (n+1)).1,(labs ev a (n+1)).2.1,(labs ev a (n+1)).2.2)) ?_ fuel _ ⟨0,_,_,rfl,Nat.zero_le _,hx,hB,by omega,by rw [e,List.drop_zero,← hof]⟩ (by simp only [Int.toNat_zero];omega)
  rintro k' _ ⟨m,S,r,rfl,hm,hgs,hBS,hrl,hf⟩ ih';dsimp only;by_cases hlm:m<a.zG.length
  ·have hye:=List.getElem_mem hlm;rw [if_pos (by omega),Qb7 hlm,getB hgs];rw [List.drop_eq_getElem_cons hlm] at hf;generalize a.zG[m]=y at hye hf ⊢;simp only [Option.bind_some];rw [List.filter_cons] at hf;have hSl:=hBS.len;have hst2:=hp.st;by_cases hfr:y.From=x.State
   ·rw [if_pos (by simp [hfr])] at hf;rw [if_neg (by simp [hfr]),Qbe8 hp hBS (List.mem_of_getElem? hgs) hye];simp only [Option.bind_some];rw [Qbe6 (by unfold big;omega)];simp only [Option.bind_some];have htl:=hBS.to hp (List.mem_of_getElem? hgs) hye;rw [List.foldl_cons] at hf;by_cases hin:toL ev x y∈S
    ·have hi:Qse S (toL ev x y)=S:=by unfold Qse;rw [if_pos hin]
     rw [if_pos hin,if_neg (by omega)];simp only [Option.bind_some];rw [Qc3 (by simp only [List.length_cons,List.length_nil];unfold lim;omega)];simp only [Option.bind_some];rw [Qbl (by omega)];refine ih' _ ⟨m+1,S,_,rfl,by omega,hgs,hBS,by rw [List.length_append];simp only [List.length_cons,List.length_nil];omega,?_⟩ (by simp only;omega);rw [← hf];unfold Qog;rw [hi]
    ·have hi:Qse S (toL ev x y)=S++[toL ev x y]:=by unfold Qse;rw [if_neg hin]
     rw [if_neg hin,if_pos (by omega),Qc3 (by simp only [List.length_cons,List.length_nil];unfold lim;omega)];simp only [Option.bind_some];rw [Qc3 (by simp only [List.length_cons,List.length_nil];unfold lim;omega)];simp only [Option.bind_some];rw [Qbl (by omega)];have hBi:=hBS.add htl;rw [hi] at hBi;refine ih' _ ⟨m+1,S++[toL ev x y],_,rfl,by omega,by rw [List.getElem?_append_left (List.getElem?_eq_some_iff.1 hgs).1];exact hgs,hBi,by rw [List.length_append];simp only [List.length_cons,List.length_nil];omega,?_⟩ (by simp only;omega);rw [← hf];unfold Qog;rw [hi,List.idxOf_append,if_neg hin];simp
   ·rw [if_neg (by simp [hfr])] at hf;rw [if_pos (by simp [hfr])];simp only [Option.bind_some];rw [Qbl (by omega)];exact ih' _ ⟨m+1,S,r,rfl,by omega,hgs,hBS,by omega,hf⟩ (by simp only;omega)
  ·rw [if_neg (by omega)];have hd:a.zG.drop m=[]:=List.drop_eq_nil_of_le (by omega);rw [hd,List.filter_nil,List.foldl_nil,Prod.mk.injEq] at hf;obtain ⟨rfl,rfl⟩:=hf
   rfl
 ·obtain rfl:n=N:=by omega
  rw [if_neg (by have:=hN.1;omega)]
theorem Q48 (h0:a.zH=0):Qdg ev a=some (⟨a.zD,0,[],[]⟩,[]):=by
 unfold Qdg Qcd;rw [if_pos (by simp [h0])]
structure Lbd (ev:List Qd) (a b:Qa) (l:List Lab):Prop where
 p:Qb1 ev a=some (b,l,0)
 w:Qdg ev a=some (b,l)
 r:Right b
 n:b.zH=l.length
 z:a.zH=0↔b.zH=0
 al:b.zD=a.zD
 few:l.length≤3200
theorem Qbe9 (hp:Plt ev a):∃ b l,Lbd ev a b l:=by
 by_cases h0:a.zH=0
 ·exact ⟨_,_,Q7k hp h0,Q48 h0,⟨hp.r.al0,hp.r.al,⟨Int.le_refl _,by simp⟩,fun x hx=>by simp at hx,List.Pairwise.nil,fun x hx=>by simp at hx,List.Pairwise.nil⟩,rfl,by simp [h0],rfl,by simp⟩
 ·have hpos:0<a.zH:=by have:=hp.r.st;omega
  obtain ⟨N,hN⟩:=Qbdy hp hpos;have h1:1≤N:=by
   rcases Nat.eq_zero_or_pos N with h|h
   ·subst h;have:=hN.1;simp [labs] at this
   ·exact h
  have:=hN.le hp hpos;exact ⟨_,_,Qbbm hp hpos hN,Qbac hp hpos hN,Q7j hp hpos hN,by rw [hN.1];rfl,by simp [labA];omega,rfl,by rw [hN.1];exact this⟩
theorem Qbbs (hp:Plt ev a) {b:Qa} {l:List Lab} (hb:Lbd ev a b l):∃ r sets e,Qeh b (obsE ev)=some (r,sets,e) ∧
  ((e=3∧12<b.zH∧Qct ev a=some (⟨⟨[],0,[],[]⟩,[]⟩,3))∨(e=0∧sets.length≤4096∧(∀ s∈sets,Sts b s)∧small r∧Qct ev a=some (⟨r,sets.map (Q08 l)⟩,0))):=by
 have hev:ev.length<big:=by have:=hp.len;unfold big;omega
 obtain ⟨⟨r,sets,e⟩,hP,hR⟩:=Q7h hb.r (Qqc hp.len);refine ⟨r,sets,e,hP,?_⟩;have hB:∀ sets r,Qeh b (obsE ev)=some (r,sets,0)→sets.length≤4096→(∀ s∈sets,Sts b s)→Qct ev a=some (⟨r,sets.map (Q08 l)⟩,0):=by
  intro sets r hP hl hs;unfold Qct Qbv;obtain ⟨fuel,hfu,hge⟩ : ∃ f,Qbx=f∧1099511627776≤f:=⟨_,rfl,Nat.le_refl _⟩;rw [hfu,hb.p];simp only [Option.bind_some,show ((0:Int) != 0)=false from rfl,Bool.false_eq_true,if_false];rw [Qkw hev hp.chk];simp only [Option.bind_some];rw [hP];simp only [Option.bind_some,show ((0:Int) != 0)=false from rfl,Bool.false_eq_true,if_false];refine Qfw (x:=([],[],[],[],sets.map (Q08 l))) ?_ rfl;refine (Qj2 (len:=sets.length) (fun n (acc:List (List Lab))=>((n:Int),[],[],[],[],acc)) (fun n acc=>acc.length=n) (fun n acc=>some ([],[],[],[],acc++(sets.drop n).map (Q08 l))) ?_ ?_ fuel 0 [] (Nat.zero_le _) (by omega) rfl).trans (by simp)
  ·intro k n acc hn hi ih;dsimp only;have hS:=hs _ (List.getElem_mem hn);have hSl:=hS.len;have hst:=hb.r.st;rw [if_pos (by omega),Qb7 hn];simp only [Option.bind_some];rw [Q6r (by unfold big;omega) (fun x hx=>by have:=hS.rg x hx;have:=hb.n;omega)];simp only [Option.bind_some];rw [Qc3 (by simp only [List.length_cons,List.length_nil];unfold lim;omega)];simp only [Option.bind_some];rw [Qbl (by omega),ih _ (by simp [hi]),List.drop_eq_getElem_cons hn];simp only [List.map_cons,List.append_assoc,List.cons_append,List.nil_append]
  ·intro k acc hi;dsimp only;rw [if_neg (by omega)];simp
 by_cases h0:b.zH=0
 ·rw [if_pos h0] at hR;cases hR;exact .inr ⟨rfl,by simp,fun s hs=>by simp at hs,⟨by have:=Qvp hb.r (obsE ev);dsimp only;unfold big;omega,by simp [big],by simp [big]⟩,hB _ _ hP (by simp) (fun s hs=>by simp at hs)⟩
 ·rw [if_neg h0] at hR;have hpos:0<b.zH:=by have:=hb.r.st;omega
  rcases hR with ⟨n,hn,hle,hR⟩|⟨n,hgt,hR⟩
  ·cases hR;have hE:=Qsd hpos (obsE ev) n;have hS:∀ s∈estB b (obsE ev) n,Sts b s:=fun s hs=>(hE.ok s hs).1;refine .inr ⟨rfl,by omega,hS,?_,hB _ _ hP (by omega) hS⟩;have h1:=Qvp hb.r (obsE ev);have h2:=Q46 (a:=b) (estB b (obsE ev) n) 0;have h3:=Q45 hb.r (onto:=obsE ev) (S:=estB b (obsE ev) n) (estB b (obsE ev) n) 0;exact ⟨by simp only [autN];unfold big;omega,by simp only [autN];unfold big;omega,by simp only [autN];unfold big;omega⟩
  ·cases hR;refine .inl ⟨rfl,?_,?_⟩
   ·have hE:=Qsd hpos (obsE ev) n;rcases Int.lt_or_le 12 b.zH with h|h
    ·exact h
    ·have:=Qbbo hE (n:=12) h;omega
   ·unfold Qct Qbv;rw [hb.p];simp only [Option.bind_some,show ((0:Int) != 0)=false from rfl,Bool.false_eq_true,if_false];rw [Qkw hev hp.chk];simp only [Option.bind_some];rw [hP]
    rfl
end Go.Abs
end
section
namespace Go.Abs
open Go
end Go.Abs
end
section
namespace Go.Abs
open Go
structure Mrg (kp:Bool→Bool→Bool) (l m a b out:List Int):Prop where
 sa:a.Pairwise (· < ·)
 sb:b.Pairwise (· < ·)
 so:out.Pairwise (· < ·)
 oa:∀ o∈out,∀ x∈a,o<x
 ob:∀ o∈out,∀ x∈b,o<x
 ln:out.length+a.length+b.length<big
 eq:∀ x,(x∈out∨kp (decide (x∈a)) (decide (x∈b))=true)↔kp (decide (x∈l)) (decide (x∈m))=true
theorem Mrg.step {kp:Bool→Bool→Bool} (h0:kp false false=false) {l m a b out a' b' : List Int} {z:Int} {p q:Bool} (h:Mrg kp l m a b out) (ha:a=if p then z::a' else a') (hb:b=if q then z::b' else b') (hpq:p=true∨q=true)
  (hza:∀ x∈a',z<x) (hzb:∀ x∈b',z<x):Mrg kp l m a' b' (if kp p q then out++[z] else out):=by
 have ma:∀ x,x∈a↔(p=true∧x=z)∨x∈a':=fun x=>by rw [ha];cases p<;>simp
 have mb:∀ x,x∈b↔(q=true∧x=z)∨x∈b':=fun x=>by rw [hb];cases q<;>simp
 have hoz:∀ o∈out,o<z:=fun o ho=>by
  rcases hpq with rfl|rfl
  ·exact h.oa o ho z ((ma z).2 (.inl ⟨rfl,rfl⟩))
  ·exact h.ob o ho z ((mb z).2 (.inl ⟨rfl,rfl⟩))
 have hm:∀ o,o∈(if kp p q then out++[z] else out)↔o∈out∨(kp p q=true∧o=z):=fun o=>by cases kp p q<;>simp
 have hza' : z∉a':=fun hx=>by have:=hza z hx;omega
 have hzb' : z∉b':=fun hx=>by have:=hzb z hx;omega
 refine ⟨?_,?_,?_,?_,?_,?_,fun x=>?_⟩
 ·have:=h.sa;rw [ha] at this;cases p
  ·exact this
  ·exact (List.pairwise_cons.1 this).2
 ·have:=h.sb;rw [hb] at this;cases q
  ·exact this
  ·exact (List.pairwise_cons.1 this).2
 ·cases kp p q
  ·exact h.so
  ·simp only [if_true];rw [List.pairwise_append];exact ⟨h.so,by simp,fun o ho y hy=>by simp at hy;subst hy;exact hoz o ho⟩
 ·intro o ho x hx;rcases (hm o).1 ho with ho|⟨_,rfl⟩
  ·exact h.oa o ho x ((ma x).2 (.inr hx))
  ·exact hza x hx
 ·intro o ho x hx;rcases (hm o).1 ho with ho|⟨_,rfl⟩
  ·exact h.ob o ho x ((mb x).2 (.inr hx))
  ·exact hzb x hx
 ·have h1:=h.ln;have h2:a.length=a'.length+if p then 1 else 0:=by rw [ha];cases p<;>simp
  have h3:b.length=b'.length+if q then 1 else 0:=by rw [hb];cases q<;>simp
  have h4:(if kp p q then out++[z] else out).length≤out.length+1:=by split<;>simp
  rcases hpq with rfl|rfl<;>simp at h2 h3<;>omega
 ·rw [← h.eq x,hm];by_cases hx:x=z
  ·subst hx;have e1:decide (x∈a)=p:=by rw [Bool.eq_iff_iff,decide_eq_true_eq,ma];simp [hza']
   have e2:decide (x∈b)=q:=by rw [Bool.eq_iff_iff,decide_eq_true_eq,mb];simp [hzb']
   rw [e1,e2,decide_eq_false hza',decide_eq_false hzb',h0];simp
  ·have e1:decide (x∈a)=decide (x∈a'):=decide_eq_decide.2 (by rw [ma];simp [hx]);have e2:decide (x∈b)=decide (x∈b'):=decide_eq_decide.2 (by rw [mb];simp [hx]);rw [e1,e2];simp [hx]
theorem Qbbt {kp:Bool→Bool→Bool} {keep:Bool→Bool→Option Bool} (hk:∀ p q,keep p q=some (kp p q)) (h0:kp false false=false) {l m:List Int} (hl:l.Pairwise (· < ·)) (hm:m.Pairwise (· < ·)) (hlm:l.length+m.length<big) :
  ∃ R,Qi8 l m keep=some R∧R.Pairwise (· < ·)∧∀ x,x∈R↔kp (decide (x∈l)) (decide (x∈m))=true:=by
 unfold Qi8 Qei;obtain ⟨fuel,hfu,hge⟩ : ∃ f,Qbx=f∧1099511627776≤f:=⟨_,rfl,Nat.le_refl _⟩;rw [hfu];have hg:∀ (x:Int) (l:List Int),getO (x::l) 0=some x:=fun x l=>Qb7 (l:=x::l) (n:=0) (by simp);have hd:∀ (x:Int) (l:List Int),slcO (x::l) 1 ((x::l).length:Int)=some l:=fun x l=>by
  have:=Qbbf (l:=x::l) (i:=1) (j:=(x::l).length) (by simp) (by simp);rw [List.take_length] at this;exact this
 have key:=Qdt (F:=fun (k14:List Int×List Int×List Int→Option (List Int)) ((a11,b12,out13):(List Int)×(List Int)×(List Int))=>(((if ((a11.length:Int)>0) then some true else some (decide ((b12.length:Int)>0)))).bind fun (x16:Bool)=>(if x16 then (((if ((a11.length:Int)>0) then (if ((b12.length:Int)==0) then some true else ((getO a11 0).bind fun x20=>((getO b12 0).bind fun x22=>some (decide (x20≤x22))))) else some false)).bind fun (inA24:Bool)=>(((if ((b12.length:Int)>0) then (if ((a11.length:Int)==0) then some true else ((getO b12 0).bind fun x27=>((getO a11 0).bind fun x29=>some (decide (x27≤x29))))) else some false)).bind fun (inB31:Bool)=>(((if inA24 then ((getO a11 0).bind fun x33=>((slcO a11 1 (a11.length:Int)).bind fun x35=>some (x35,x33))) else some (a11,0))).bind fun ((a37,x38):(List Int)×Int)=>(((if inB31 then ((getO b12 0).bind fun x40=>((slcO b12 1 (b12.length:Int)).bind fun x42=>some (x42,x40))) else some (b12,x38))).bind fun ((b44,x45):(List Int)×Int)=>((keep inA24 inB31).bind fun x47=>(if x47 then ((appO out13 [x45]).bind fun x49=>k14 (a37,b44,x49)) else k14 (a37,b44,out13))))))) else some out13)))
  (fun x:List Int×List Int×List Int=>Mrg kp l m x.1 x.2.1 x.2.2) (fun x=>x.1.length+x.2.1.length) (fun _ r=>∃ R,r=some R∧R.Pairwise (· < ·)∧∀ x,x∈R↔kp (decide (x∈l)) (decide (x∈m))=true) ?_ fuel (l,m,[]) ⟨hl,hm,by simp,by simp,by simp,by simpa using hlm,by simp⟩ (by unfold big at hlm;dsimp only;omega)
 ·obtain ⟨R,h1,h2,h3⟩:=key;exact ⟨R,by rw [h1];rfl,h2,h3⟩
 rintro k ⟨a,b,out⟩ h ih;dsimp only at h ih ⊢;have hln:=h.ln;have happ:∀ z:Int,out.length+1≤big→appO out [z]=some (out++[z]):=fun z hz=>Qc3 (by simp only [List.length_cons,List.length_nil];unfold lim;unfold big at hz;omega);have fin:∀ (a' b' : List Int) (z:Int) (p q:Bool),out.length+1≤big→Mrg kp l m a' b' (if kp p q then out++[z] else out)→a'.length+b'.length<a.length+b.length →
   ∃ R,((keep p q).bind fun x47=>if x47 then ((appO out [z]).bind fun x49=>k (a',b',x49)) else k (a',b',out))=some R∧R.Pairwise (· < ·)∧∀ x,x∈R↔kp (decide (x∈l)) (decide (x∈m))=true:=by
  intro a' b' z p q hz hM hlt;rw [hk,happ z hz];simp only [Option.bind_some];have:=ih (a',b',if kp p q then out++[z] else out) hM hlt;cases hkp:kp p q<;>simp only [hkp,Bool.false_eq_true,if_false,if_true] at this ⊢ <;> exact this
 match a,b,h,fin,hln with
 | [],[],h,fin,hln =>
  refine ⟨out,by simp,h.so,fun x=>?_⟩;rw [← h.eq x];simp [h0]
 | [],y::ys,h,fin,hln =>
  rw [show ((([]:List Int).length:Nat):Int)=0 from rfl];have hp:(((y::ys).length:Nat):Int)>0:=by simp only [List.length_cons];omega
  rw [if_neg (by omega),Option.bind_some,if_pos (by simp)];rw [if_neg (by omega),Option.bind_some,if_pos hp,if_pos (by rfl),Option.bind_some,if_neg (by simp),Option.bind_some,if_pos rfl,hg,hd];simp only [Option.bind_some];exact fin [] ys y false true (by simp only [List.length_cons] at hln;omega) (h.step h0 (z:=y) (p:=false) (q:=true) rfl rfl (.inr rfl) (by simp) (List.pairwise_cons.1 h.sb).1) (by simp)
 | x::xs,[],h,fin,hln =>
  rw [show ((([]:List Int).length:Nat):Int)=0 from rfl];have hp:(((x::xs).length:Nat):Int)>0:=by simp only [List.length_cons];omega
  rw [if_pos hp,Option.bind_some,if_pos rfl,if_pos hp,if_pos (by rfl),Option.bind_some,if_neg (by omega),Option.bind_some,if_pos rfl,hg,hd];simp only [Option.bind_some,Bool.false_eq_true,if_false];exact fin xs [] x true false (by simp only [List.length_cons] at hln;omega) (h.step h0 (z:=x) (p:=true) (q:=false) rfl rfl (.inl rfl) (List.pairwise_cons.1 h.sa).1 (by simp)) (by simp)
 | x::xs,y::ys,h,fin,hln =>
  obtain ⟨ha1,ha2⟩:=List.pairwise_cons.1 h.sa;obtain ⟨hb1,hb2⟩:=List.pairwise_cons.1 h.sb;have hp:(((x::xs).length:Nat):Int)>0:=by simp only [List.length_cons];omega
  have hq:(((y::ys).length:Nat):Int)>0:=by simp only [List.length_cons];omega
  have hp0:((((x::xs).length:Nat):Int)==0)=false:=by simp only [beq_eq_false_iff_ne];omega
  have hq0:((((y::ys).length:Nat):Int)==0)=false:=by simp only [beq_eq_false_iff_ne];omega
  rw [if_pos hp,Option.bind_some,if_pos rfl,if_pos hp,if_neg (by rw [hq0];simp),hg,hg,Option.bind_some,Option.bind_some,Option.bind_some,if_pos hq,if_neg (by rw [hp0];simp),Option.bind_some,Option.bind_some,Option.bind_some,hd,hd];simp only [List.length_cons] at hln;rcases Int.lt_trichotomy x y with hxy|rfl|hxy
  ·have e1:decide (x≤y)=true:=decide_eq_true (by omega);have e2:decide (y≤x)=false:=decide_eq_false (by omega);simp only [e1,e2,Option.bind_some,if_true,Bool.false_eq_true,if_false];exact fin xs (y::ys) x true false (by omega) (h.step h0 (z:=x) (p:=true) (q:=false) rfl rfl (.inl rfl) ha1 (fun z hz=>by
    rcases List.mem_cons.1 hz with rfl|hz
    ·exact hxy
    ·have:=hb1 z hz;omega)) (by simp)
  ·have e1:decide (x≤x)=true:=decide_eq_true (by omega);simp only [e1,Option.bind_some,if_true];exact fin xs ys x true true (by omega) (h.step h0 (z:=x) (p:=true) (q:=true) rfl rfl (.inl rfl) ha1 hb1) (by simp;omega)
  ·have e1:decide (x≤y)=false:=decide_eq_false (by omega);have e2:decide (y≤x)=true:=decide_eq_true (by omega);simp only [e1,e2,Option.bind_some,if_true,Bool.false_eq_true,if_false];exact fin (x::xs) ys y false true (by omega) (h.step h0 (z:=y) (p:=false) (q:=true) rfl rfl (.inr rfl) (fun z hz=>by
    rcases List.mem_cons.1 hz with rfl|hz
    ·exact hxy
    ·have:=ha1 z hz;omega) hb1) (by simp)
end Go.Abs
end
section
namespace Go.Abs
open Go
theorem Qxa {l m:List Int} (hl:l.Pairwise (· < ·)) (hm:m.Pairwise (· < ·)) (hlm:l.length+m.length<big) :
  ∃ R,Qfc l m=some R∧R.Pairwise (· < ·)∧∀ x,x∈R↔x∈l∧x∈m:=by
 unfold Qfc Qbn;obtain ⟨R,h1,h2,h3⟩:=Qbbt (kp:=fun p q=>p&&q) (keep:=Qhg) (fun p q=>by cases p<;>cases q<;>rfl) rfl hl hm hlm;exact ⟨R,by rw [h1];rfl,h2,fun x=>by rw [h3];simp⟩
end Go.Abs
end
