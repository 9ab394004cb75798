/-
  Part 3 of the proof: see the last text.
-/
import Derived.Test.YtccapdeoaoiieaaGreatDoorP2
import Derived.WalkSpells
import Derived.MapKept
set_option linter.unusedVariables false
set_option linter.unusedSimpArgs false
set_option linter.unusedSectionVars false
section
namespace Go.Abs
open Go
section
variable (P:Program) {g:G} {w:World} {n0 nt:Nat} {g0:G} {w0:World} {σ:St} {a:Act}
def relab (t d:Nat):Owner→Owner
 | .slot t' p=>if t'=t then .slot d p else .slot t' p
 | o=>o
theorem Qp9 (t d:Nat) (o:Owner) (i:Nat):relab t d (o.sub i)=(relab t d o).sub i:=by
 cases o<;>simp [relab,Owner.sub]
 grind
theorem Q16 {t d t' : Nat} (h:t' ≠ t) (p:List Nat):relab t d (.slot t' p) = .slot t' p:=by simp [relab,h]
theorem Q3t (t d:Nat) (p:List Nat):relab t d (.slot t p) = .slot d p:=by simp [relab]
theorem Q51 {t d:Nat} {o:Owner} {k:Nat}:relab t d o = .box k↔o = .box k:=by
 cases o<;>simp [relab];split<;>simp
theorem MR.relab (hm:MR g w σ.M σ.nb) (t d:Nat):MR (g.re (relab t d)) w σ.M σ.nb:=by
 refine ⟨fun k b hk=>?_,fun b o hb=>⟨(hm.imm b o hb).1,fun k e=>(hm.imm b o hb).2 k (Q51.1 e)⟩⟩;obtain ⟨h1,h2,h3⟩:=hm.box k b hk;refine ⟨h1,Q51.2 h2,?_⟩;cases b with
 | mp es c =>
  obtain ⟨ents,hh,hr⟩:=h3;exact ⟨ents,hh,Q5w (g:=g) (g':=g.re (Abs.relab t d)) (Imm.refl _ _) (fun b i hbi _=>⟨by simp [G.re,Abs.relab,hbi],rfl,fun _=>Iff.rfl⟩) hr⟩
 | cells cs =>
  obtain ⟨vals,e,hh,hr,ho⟩:=h3;exact ⟨vals,e,hh,RVs_re (Qp9 t d) rfl cs (.box k) 0 vals hr,ho⟩
theorem Qbak (h:SR n0 nt g0 w0 σ a w g) (t0 d:Nat) (hd:d<nt) :
  ∃ g',SR n0 nt g0 w0 ⟨Qbd (σ.s.put t0 (σ.s t0).dem) (some d) (σ.s t0),σ.M,σ.nb⟩ (a.put (some d) (a.tmps.getD t0 undef)) w g':=by
 have hfix:∀ o,Prot o→Abs.relab t0 d o=o:=by intro o ho;cases o<;>first|rfl|exact ho.elim
 refine ⟨g.re (Abs.relab t0 d),h.step (h.mem.relab t0 d) ?_ (Qfi (fun d' hd'=>by cases hd';rw [h.size];exact hd) (fun t ht=>?_) (fun d' hd'=>?_)) (Qge _ _ _) (Qd7 _ _ _)
  (Qfj (fun t=>?_) (h.onS t0)) h.mOn h.out⟩
 ·exact ⟨rfl,rfl,rfl,Nat.le_refl _,Imm.refl _ _,fun _ _=>rfl,fun b hb ho=>⟨hfix _ ho,rfl,fun _=>Iff.rfl⟩⟩
 ·have htd:t≠d:=fun e=>ht (by rw [e]);simp only [Sl.put];split
  ·rename_i he;subst he;have:=Qrg (Qp9 t d) rfl (σ.s t).dem .ext _ (Qha _ _ .ext _ (h.slots t));exact Ql6 (Qdj _) this
  ·rename_i hne;have:=Qrg (Qp9 t0 d) rfl (σ.s t) _ _ (h.slots t)
   rwa [Q16 hne] at this
 ·cases hd';have:=Qrg (Qp9 t0 d) rfl (σ.s t0) _ _ (h.slots t0)
  rwa [Q3t] at this
 ·simp only [Sl.put];split
  ·exact (Qdn _).2 (h.onS t0)
  ·exact h.onS t
theorem MR.re_slots (hm:MR g w σ.M σ.nb) (hon:MOn (There σ.M) σ.M) {f:Owner→Owner} (hf:∀ o,(∀ t p,o ≠ .slot t p)→f o=o) (hb:∀ t p k,f (.slot t p) ≠ .box k):MR (g.re f) w σ.M σ.nb:=by
 refine hm.kept ((Kept.re g w f (There σ.M)).weaken (fun _ h=>h) hf) hon (fun ℓ i h t p=>?_) (fun _ _=>by simp) (fun _ _ _ _=>by simp) (fun b o hbo=>⟨(hm.imm b o hbo).1,fun k=>?_⟩)
 ·cases ℓ<;>first|exact absurd rfl (h _ _)|simp [Owner.sub]
 ·have h2:=(hm.imm b o hbo).2 k;show f (g.own b) ≠ .box k
  grind
theorem MR.ex_slot (hm:MR g w σ.M σ.nb) (hon:MOn (There σ.M) σ.M) (t:Nat) (p:List Nat) (y:Owner) (hy:∀ k,y ≠ .box k):MR (g.re (ex (.slot t p) y)) w σ.M σ.nb:=by
 have hkx:=Kept.ex g w (.slot t p) y (There σ.M);have himm:∀ b o,g.imm b o→b<w.heap.size∧∀ k,ex (.slot t p) y (g.own b) ≠ .box k:=by
  intro b o hb;obtain ⟨h1,h2⟩:=hm.imm b o hb
  grind [ex]
 refine ⟨fun k b hk=>?_,himm⟩;obtain ⟨h1,h2,h3⟩:=hm.box k b hk;refine ⟨h1,by simp_all [G.re,ex,if_neg],?_⟩;cases b with
 | mp es c =>
  obtain ⟨ents,hh,hr⟩:=h3;exact ⟨ents,hh,Qi8 (g:=g) (g':=g.re (ex (.slot t p) y)) hkx (fun _=>by simp) hr⟩
 | cells cs =>
  obtain ⟨vals,e,hh,hr,ho⟩:=h3;refine ⟨vals,e,hh,(Qci _ _ _ _).2 ⟨Qng hr,fun i c u hc hu=>?_⟩,ho⟩;have hru:=((Qci _ _ _ _).1 hr).2 i c u hc hu;have hkk:Kept g w (g.re (ex (.slot t p) y)) w (There σ.M) (fun o=>(∃ k c,o = .cell k c)∨o = .ext) :=
   hkx.weaken (fun _ h=>h) (by grind)
  refine Qch hkk ?_ (.inr rfl) c _ u (.inl ⟨k,0+i,rfl⟩) (Qe3 (hon k cs hk) hc) hru;rintro ℓ i (⟨k,c,rfl⟩|rfl)
  ·exact .inl ⟨k,c,rfl⟩
  ·exact .inr rfl
theorem Q8b (h:SR n0 nt g0 w0 σ a w g) (t0 d:Nat) (hd:d<nt) {v:V} {val:Value} (hv:RV g w v (.slot t0 []) val) (hon:v.on (There σ.M)) :
  ∃ g',SR n0 nt g0 w0 ⟨Qbd (σ.s.put t0 (σ.s t0).dem) (some d) v,σ.M,σ.nb⟩ (a.put (some d) val) w g':=by
 have hfix:∀ o,Prot o→Abs.relab t0 d o=o:=by intro o ho;cases o<;>first|rfl|exact ho.elim
 refine ⟨g.re (Abs.relab t0 d),h.step (h.mem.relab t0 d) ?_ (Qfi (fun d' hd'=>by cases hd';rw [h.size];exact hd) (fun t ht=>?_) (fun d' hd'=>?_)) (Qge _ _ _) (Qd7 _ _ _)
  (Qfj (fun t=>?_) hon) h.mOn h.out⟩
 ·exact ⟨rfl,rfl,rfl,Nat.le_refl _,Imm.refl _ _,fun _ _=>rfl,fun b hb ho=>⟨hfix _ ho,rfl,fun _=>Iff.rfl⟩⟩
 ·have htd:t≠d:=fun e=>ht (by rw [e]);simp only [Sl.put];split
  ·rename_i he;subst he;have:=Qrg (Qp9 t d) rfl (σ.s t).dem .ext _ (Qha _ _ .ext _ (h.slots t));exact Ql6 (Qdj _) this
  ·rename_i hne;have:=Qrg (Qp9 t0 d) rfl (σ.s t) _ _ (h.slots t)
   rwa [Q16 hne] at this
 ·cases hd';have:=Qrg (Qp9 t0 d) rfl v _ _ hv
  rwa [Q3t] at this
 ·simp only [Sl.put];split
  ·exact (Qdn _).2 (h.onS t0)
  ·exact h.onS t
theorem Qbc6 (t e:TypeId) (ht:P.underlying t=some (.slice e)) (h0:P.cellsOf e≠0) {l:List (List D)} {ℓ:Owner} {u:Value} (hx:RV g w (.ownT (P.cellsOf e) l) ℓ u) (k:IntKind) (n:Int) (h1:0≤n) (h2:n≤l.length) :
  ∃ val,(Instr.sliceAt t u (some (.int k n)) none none).run P w = .ok val w∧RV g w (.ownT (P.cellsOf e) (l.drop n.toNat)) ℓ val:=by
 have hrun:∀ (ad:Option Addr) (len cap:Nat),n≤len→len≤cap→(Instr.sliceAt t (.slice ad len cap) (some (.int k n)) none none).run P w = .ok (sliced ad n.toNat len cap (P.cellsOf e)) w:=by
  intro ad len cap hn hc;have:=Qxj (g:=g) (w:=w) P t e ht h0 (some (.int k n)) none (bs:=[.d (.int k n)]) (la:=some n) (hb:=none) ⟨_,_,rfl,RF_d.2 (by simp [RD]),rfl⟩ rfl ad len cap h1 (by simpa using hn) (by simp) hc;simpa using this
 simp only [RV] at hx;rcases hx with ⟨⟨ad,rfl⟩,rfl⟩|⟨b,o0,cap,vals,e',rfl,hb,hh,hlc,hcm,⟨hvs,hvone⟩,him,hrow⟩
 ·simp_all [RV,Go.sliced]
 ·refine ⟨_,hrun _ l.length cap h2 hlc,?_⟩;simp only [RV];by_cases hm:cap=n.toNat
  ·simp_all [Go.sliced,if_pos,List.eq_nil_of_length_eq_zero,List.length_drop]
  ·refine .inr ⟨b,o0+n.toNat*P.cellsOf e,cap-n.toNat,vals,e',?_,hb,hh,by grind,by omega,⟨?_,hvone⟩,fun o=>?_,Qzd fun i x hi=>?_⟩
   ·simp only [sliced];rw [if_neg hm];simp [Qgd]
   ·rw [hvs,Nat.add_assoc,← Nat.add_mul];congr 2;omega
   ·rw [him o,List.length_drop,Nat.add_assoc,← Nat.add_mul,show n.toNat+(l.length-n.toNat)=l.length from by omega]
   ·rw [List.getElem?_drop] at hi;have:=Qou hrow _ _ hi
    grind
theorem Q7k (h:SR n0 nt g0 w0 σ a w g) (t0 i d:Nat) (hd:d<nt) {v:V} {vs:List V} (hv:σ.s t0 = .tup vs) (hi:vs[i]? = some v) :
  ∃ val g',(Instr.extract (a.tmps.getD t0 undef) i).run P w = .ok val w ∧
   SR n0 nt g0 w0 ⟨Qbd (σ.s.put t0 (.tup (vs.set i v.dem))) (some d) v.top,σ.M,σ.nb⟩ (a.put (some d) val) w g':=by
 have hslot:=h.slots t0;have honv:=h.onS t0;rw [hv] at hslot honv;simp only [RV] at hslot;obtain ⟨us,hus,hr⟩:=hslot;obtain ⟨hlen,hr⟩:=(Qci _ _ _ _).1 hr;have hilt:=(List.getElem?_eq_some_iff.1 hi).1;have hui:=List.getElem?_eq_getElem (show i<us.length by omega);have hvi:=hr i v _ hi hui;simp only [Nat.zero_add,Owner.sub] at hvi;have hrun:(Instr.extract (a.tmps.getD t0 undef) i).run P w = .ok us[i] w:=by
  simp_all [Go.Instr.extract,List.getElem?_eq_getElem]
 have honv' : V.ons (There σ.M) vs:=honv;have honi:v.on (There σ.M):=Qe3 honv' hi;have hon' : ∀ t,(σ.s.put t0 (.tup (vs.set i v.dem)) t).on (There σ.M):=by
  intro t;simp only [Sl.put];split
  ·grind [V.on,Qr8,Qdn]
  ·exact h.onS t
 have tupslot:∀ g' : G,(∀ (j:Nat) c u,j≠i→vs[j]? = some c→us[j]? = some u→RV g' w c (.slot t0 [j]) u)→RV g' w v.dem (.slot t0 [i]) us[i]→RV g' w (.tup (vs.set i v.dem)) (.slot t0 []) (a.tmps.getD t0 undef):=by
  intro g' h1 h2;simp only [RV];refine ⟨us,hus,(Qci _ _ _ _).2 ⟨by simp [hlen],fun j c u hc hu=>?_⟩⟩;simp only [Nat.zero_add,Owner.sub]
  grind
 by_cases hown:∃ sz l,v = .own sz l
 ·obtain ⟨sz,l,rfl⟩:=hown;have hkx:=Kept.ex g w (.slot t0 [i]) (.slot d []) (There σ.M);refine ⟨us[i],g.re (ex (.slot t0 [i]) (.slot d [])),hrun,h.step (h.mem.ex_slot h.mOn t0 [i] _ (by simp)) ?_ (Qfi (fun d' hd'=>by cases hd';rw [h.size];exact hd) (fun t ht=>?_) (fun d' hd'=>?_)) (Qge _ _ _) (Qd7 _ _ _)
   (Qfj hon' trivial) h.mOn h.out⟩
  ·exact ⟨rfl,rfl,rfl,Nat.le_refl _,Imm.refl _ _,fun _ _=>rfl,fun b hb ho=>⟨by simp only [G.re,ex];rw [if_neg (by intro e;rw [e] at ho;exact ho)],rfl,fun _=>Iff.rfl⟩⟩
  ·simp only [Sl.put];split
   ·rename_i he;subst he;refine tupslot _ (fun j c u hj hc hu=>?_) ?_
    ·have hk:Kept g w (g.re (ex (.slot t [i]) (.slot d []))) w (There σ.M) (fun o=>(∃ q,o = .slot t (q++[j]))∨o = .ext):=by
      refine hkx.weaken (fun _ h=>h) ?_;rintro o (⟨q,rfl⟩|rfl)
      ·intro e;injection e with _ e
       have:=congrArg List.getLast? e
       grind
      ·simp
     refine Qch hk ?_ (.inr rfl) c _ u (.inl ⟨[],rfl⟩) (Qe3 honv' hc) ?_
     ·rintro ℓ i' (⟨q,rfl⟩|rfl)
      ·exact .inl ⟨i'::q,rfl⟩
      ·exact .inr rfl
     grind [Owner.sub]
    ·exact Qig (hkx.weaken (fun _ h=>h) (by rintro o rfl;simp)) (Qdj _) ((Qdn _).2 honi) (Qha _ _ (.slot t [i]) _ hvi)
   ·rename_i hne;have hk:Kept g w (g.re (ex (.slot t0 [i]) (.slot d []))) w (There σ.M) (fun o=>(∃ q,o = .slot t q)∨o = .ext):=by
     refine hkx.weaken (fun _ h=>h) ?_
     grind
    refine Qch hk ?_ (.inr rfl) _ _ _ (.inl ⟨[],rfl⟩) (h.onS t) (h.slots t);rintro ℓ i' (⟨q,rfl⟩|rfl)
    ·exact .inl ⟨i'::q,rfl⟩
    ·exact .inr rfl
  ·cases hd';exact Q3r hvi
 ·have htop:v.top=v.dem:=Qxk fun sz l e=>hown ⟨sz,l,e⟩;refine ⟨us[i],g,hrun,h.step h.mem (Fr.refl _ _ _) (Qfi (fun d' hd'=>by cases hd';rw [h.size];exact hd) (fun t ht=>?_) (fun d' hd'=>?_)) (Qge _ _ _) (Qd7 _ _ _)
   (Qfj hon' ((Q5u v).2 honi)) h.mOn h.out⟩
  ·simp only [Sl.put];split
   ·grind [Owner.sub,Qha]
   ·exact h.slots t
  grind [Qha]
theorem Q9f {x v:V} {u:Value} {i κ:Nat} {M M' : Mem} (hfl:Flat x) (hx:RF g w x u) (hs:Qm n0 κ (.extract i) [x] M=some (v,M')) :
  M'=M∧∃ val,(Instr.extract u i).run P w = .ok val w∧RF g w v val:=by
 cases x<;>try (simp [Qm] at hs;done)
 rename_i vs;simp only [Qm,Option.map_eq_some_iff,Prod.mk.injEq] at hs;obtain ⟨c,hc,rfl,rfl⟩:=hs;have h':=hx .free;simp only [RV] at h';obtain ⟨us,rfl,hr⟩:=h';obtain ⟨hlen,hr⟩:=(Qci _ _ _ _).1 hr;have hilt:=(List.getElem?_eq_some_iff.1 hc).1;have hvi:=hr i c _ hc (List.getElem?_eq_getElem (show i<us.length by omega));have hcd:c.dem=c:=by
  have hf' : V.dems vs=vs:=by simpa [Flat,V.dem] using hfl
  have hc' : (V.dems vs)[i]? = some c:=by rw [hf'];exact hc
  obtain ⟨c',_,rfl⟩:=Q1n hc';exact Qdj c'
 have htop:c.top=c:=by
  rw [Qxk];exact hcd;rintro sz l rfl;simp [V.dem] at hcd
 rw [htop];exact ⟨rfl,us[i],by simp_all [Go.Instr.extract,List.getElem?_eq_getElem],fun ℓ=>Ql6 hcd hvi⟩
theorem Qbc7 (h:SR n0 nt g0 w0 σ a w g) {dst:Option Nat} (hd:∀ d,dst=some d→d<nt) (t e:TypeId) (ht:P.underlying t=some (.slice e)) {p v:V} {up:Value} {κ:Nat} {M' : Mem}
  (hp:RF g w p up) (hpon:p.on (There σ.M)) (hs:Qm n0 κ .loadT [p] σ.M=some (v,M')) :
  ∃ val g',(Instr.loadAt t up).run P w = .ok val w∧SR n0 nt g0 w0 ⟨Qbd σ.s dst v,M',σ.nb⟩ (a.put dst val) w g':=by
 have key:∃ k off cs x,p = .ptr k off∧σ.M k=some (.cells cs)∧cs[off]? = some x∧v=x.topL∧M'=σ.M.put k (.cells (cs.set off x.dem)):=by
  cases p<;>try (simp [Qm] at hs;done)
  rename_i k off;simp only [Qm] at hs
  grind
 obtain ⟨k,off,cs,x,rfl,hk,hx,rfl,rfl⟩:=key;rw [Qm0] at hp;subst hp;obtain ⟨hkb,hbo,vals,et,hh,hr,h1⟩:=h.mem.box k _ hk;obtain ⟨hvl,hrv⟩:=(Qci _ _ _ _).1 hr;obtain ⟨u,hu,hru,_⟩:=Qt6 h.mem hk hx;have hA:Qgp P t=false:=by simp [Qgp,ht]
 have hrun:(Instr.loadAt t (.pointer (some ⟨g.box k,off,none⟩))).run P w = .ok u w:=by simp [Instr.loadAt,Instr.sureAddr,Qze P t ht hA _ u hu]
 have honx:x.on (There σ.M):=Qe3 (h.mOn k cs hk) hx;have hthere:∀ j,There σ.M j→There (σ.M.put k (.cells (cs.set off x.dem))) j:=fun j hj=>hj.put;have hvu:vals[off]? = some u:=by
  grind [Go.World.cell?]
 have mem:∀ g' : G,g'.box=g.box→g'.imm=g.imm→(∀ o j,g'.own o = .box j↔g.own o = .box j)→(∀ j i c u,(j≠k∨i≠off)→c.on (There σ.M)→RV g w c (.cell j i) u→RV g' w c (.cell j i) u)→RV g' w x.dem (.cell k off) u →
   MR g' w (σ.M.put k (.cells (cs.set off x.dem))) σ.nb:=by
  intro g' hb hi ho hc hx';refine ⟨fun j b hj=>?_,fun b o hbo=>?_⟩
  ·simp only [Mem.put] at hj;split at hj
   ·rename_i he;subst he;cases hj;refine ⟨hkb,by grind,vals,et,by rw [hb];exact hh,(Qci _ _ _ _).2 ⟨by simp [hvl],fun i c z hci hz=>?_⟩,h1⟩;simp only [Nat.zero_add,Owner.sub];rw [List.getElem?_set] at hci;split at hci
    ·grind
    ·rename_i hne;have hcz:=hrv i c z hci hz;simp only [Nat.zero_add,Owner.sub] at hcz;exact hc _ _ _ _ (.inr fun e=>hne e.symm) (Qe3 (h.mOn j cs hk) hci) hcz
   ·rename_i hne;obtain ⟨k1,k2,k3⟩:=h.mem.box j b hj;refine ⟨k1,by grind,?_⟩;cases b with
    | mp es c =>
     obtain ⟨ents,hh',hr'⟩:=k3;exact ⟨ents,by rw [hb];exact hh',Q98 (g:=g) (by rw [hi];exact Imm.refl _ _) (fun sz l i u hv=>hc j i (.own sz l) u (.inl hne) trivial hv) hr'⟩
    | cells cs' =>
     obtain ⟨vs,e',hh',hr',ho'⟩:=k3;refine ⟨vs,e',by rw [hb];exact hh',(Qci _ _ _ _).2 ⟨Qng hr',fun i c z hci hz=>?_⟩,ho'⟩;have hcz:=((Qci _ _ _ _).1 hr').2 i c z hci hz;simp only [Nat.zero_add,Owner.sub] at hcz ⊢;exact hc _ _ _ _ (.inl hne) (Qe3 (h.mOn j cs' hj) hci) hcz
  ·rw [hi] at hbo;obtain ⟨h3,h4⟩:=h.mem.imm b o hbo
   grind
 have hMon:MOn (There (σ.M.put k (.cells (cs.set off x.dem)))) (σ.M.put k (.cells (cs.set off x.dem))):=by
  intro j cs' hj;simp only [Mem.put] at hj;split at hj
  ·cases hj;exact ons_mono hthere _ (Qr8 _ (h.mOn k cs hk) ((Qdn x).2 honx))
  ·exact ons_mono hthere _ (h.mOn j cs' hj)
 have hMout:∀ j cs',(σ.M.put k (.cells (cs.set off x.dem))) j=some (.cells cs')→j<n0→V.ons (· < n0) cs':=by
  intro j cs' hj hlt;simp only [Mem.put] at hj;split at hj
  ·rename_i he;subst he;cases hj;exact Qr8 _ (h.out j cs hk hlt) ((Qdn x).2 (Qe3 (h.out j cs hk hlt) hx))
  ·exact h.out j cs' hj hlt
 by_cases hown:∃ sz l,x = .own sz l
 ·obtain ⟨sz,l,rfl⟩:=hown;have hkx:=Kept.ex g w (.cell k off) (.slot (dst.getD 0) []) (There σ.M);refine ⟨u,g.re (ex (.cell k off) (.slot (dst.getD 0) [])),hrun,h.step (mem _ rfl rfl (fun o j=>?_) (fun j i c z hji hon hz=>?_) ?_) ?_ (Qfi (fun d' hd'=>by rw [h.size];exact hd d' hd') (fun t ht=>?_) (fun d' hd'=>?_)) (Qge _ _ _) (Qd7 _ _ _)
   (Qfj (fun t=>Qdp hthere _ (h.onS t)) trivial) hMon hMout⟩
  ·simp only [G.re,ex]
   grind
  ·have hk' : Kept g w (g.re (ex (.cell k off) (.slot (dst.getD 0) []))) w (There σ.M) (fun o=>o = .cell j i∨o = .ext) :=
    hkx.weaken (fun _ h=>h) (by grind)
   refine Qch hk' ?_ (.inr rfl) c _ z (.inl rfl) hon hz;rintro ℓ i' (rfl|rfl)
   ·exact .inl rfl
   ·exact .inr rfl
  ·exact Qig (hkx.weaken (fun _ h=>h) (by rintro o rfl;simp)) (Qdj _) ((Qdn _).2 honx) (Qha _ _ (.cell k off) _ hru)
  ·exact ⟨rfl,rfl,rfl,Nat.le_refl _,Imm.refl _ _,fun _ _=>rfl,fun b hb ho=>⟨by simp only [G.re,ex];rw [if_neg (by intro e;rw [e] at ho;exact ho)],rfl,fun _=>Iff.rfl⟩⟩
  ·have hk' : Kept g w (g.re (ex (.cell k off) (.slot (dst.getD 0) []))) w (There σ.M) (fun o=>(∃ t q,o = .slot t q)∨o = .ext) :=
    hkx.weaken (fun _ h=>h) (by grind)
   refine Qch hk' ?_ (.inr rfl) _ _ _ (.inl ⟨t,[],rfl⟩) (h.onS t) (h.slots t);rintro ℓ i' (⟨t,q,rfl⟩|rfl)
   ·exact .inl ⟨t,i'::q,rfl⟩
   ·exact .inr rfl
  ·simp only [hd',Option.getD_some];exact Q3r hru
 ·by_cases hownV:∃ sz l,x = .ownV sz l
  ·obtain ⟨sz,l,rfl⟩:=hownV;have hkx:=Kept.ex g w (.cell k off) (.slot (dst.getD 0) []) (There σ.M);refine ⟨u,g.re (ex (.cell k off) (.slot (dst.getD 0) [])),hrun,h.step (mem _ rfl rfl (fun o j=>?_) (fun j i c z hji hon hz=>?_) ?_) ?_ (Qfi (fun d' hd'=>by rw [h.size];exact hd d' hd') (fun t ht=>?_) (fun d' hd'=>?_)) (Qge _ _ _) (Qd7 _ _ _)
    (Qfj (fun t=>Qdp hthere _ (h.onS t)) trivial) hMon hMout⟩
   ·simp only [G.re,ex]
    grind
   ·have hk' : Kept g w (g.re (ex (.cell k off) (.slot (dst.getD 0) []))) w (There σ.M) (fun o=>o = .cell j i∨o = .ext) :=
     hkx.weaken (fun _ h=>h) (by grind)
    refine Qch hk' ?_ (.inr rfl) c _ z (.inl rfl) hon hz;rintro ℓ i' (rfl|rfl)
    ·exact .inl rfl
    ·exact .inr rfl
   ·exact Qig (hkx.weaken (fun _ h=>h) (by rintro o rfl;simp)) (Qdj _) ((Qdn _).2 honx) (Qha _ _ (.cell k off) _ hru)
   ·exact ⟨rfl,rfl,rfl,Nat.le_refl _,Imm.refl _ _,fun _ _=>rfl,fun b hb ho=>⟨by simp only [G.re,ex];rw [if_neg (by intro e;rw [e] at ho;exact ho)],rfl,fun _=>Iff.rfl⟩⟩
   ·have hk' : Kept g w (g.re (ex (.cell k off) (.slot (dst.getD 0) []))) w (There σ.M) (fun o=>(∃ t q,o = .slot t q)∨o = .ext) :=
     hkx.weaken (fun _ h=>h) (by grind)
    refine Qch hk' ?_ (.inr rfl) _ _ _ (.inl ⟨t,[],rfl⟩) (h.onS t) (h.slots t);rintro ℓ i' (⟨t,q,rfl⟩|rfl)
    ·exact .inl ⟨t,i'::q,rfl⟩
    ·exact .inr rfl
   ·simp only [hd',Option.getD_some];exact Q7j hru
  ·have htop:x.topL=x.dem:=by
    have h1:=Qxk (v:=x) fun sz l e=>hown ⟨sz,l,e⟩;cases x<;>first|exact h1|exact absurd ⟨_,_,rfl⟩ hownV
   refine ⟨u,g,hrun,h.step (mem g rfl rfl (fun _ _=>Iff.rfl) (fun j i c z _ _ hz=>hz) (Qha _ _ _ _ hru)) (Fr.refl _ _ _) (Qfi (fun d' hd'=>by rw [h.size];exact hd d' hd') (fun t _=>h.slots t) (fun d' _=>by grind [Qha])) (Qge _ _ _) (Qd7 _ _ _)
    (Qfj (fun t=>Qdp hthere _ (h.onS t)) (Qdp hthere _ ((Q95 x).2 honx))) hMon hMout⟩
end
end Go.Abs
end
section
namespace Go.Abs
open Go
section
variable (P:Program) {g:G} {w:World} {n0 nt:Nat} {g0:G} {w0:World} {σ:St} {a:Act}
theorem Q52 {ty:TypeId} {v:Value} {x:V} (h:Q73 P ty v=some x):RF g w x v∧∀ p,x.on p:=by
 unfold Q73 at h;split at h<;>try (cases h;done)
 ·cases h;exact ⟨by rw [RF_d];simp [RD],fun _=>trivial⟩
 ·cases h;exact ⟨by rw [RF_d];simp [RD],fun _=>trivial⟩
 ·cases h;exact ⟨by rw [RF_d];simp [RD],fun _=>trivial⟩
 ·cases h;exact ⟨fun ℓ=>by simp [RV],fun _=>trivial⟩
 ·cases h;exact ⟨fun ℓ=>by simp [RV],fun _=>trivial⟩
 ·cases h;exact ⟨fun ℓ=>by simp [RV],fun _=>trivial⟩
 ·cases h;exact ⟨fun ℓ=>by simp [RV],fun _=>trivial⟩
 ·split at h<;>cases h;exact ⟨fun ℓ=>by simp [RV],fun _=>trivial⟩
theorem Qlq (h:SR n0 nt g0 w0 σ a w g) {ty:TypeId} {x:Operand} {ar:Arg} (hc:Qe1 P ty x=some ar) :
  (∃ t,x = .tmp t∧ar = .t t∧RV g w (σ.s t) (.slot t []) (a.eval x)∧(σ.s t).on (There σ.M))∨(Q3f x=false∧(∃ c,ar = .c c∧RF g w c (a.eval x)∧c.on (There σ.M))):=by
 cases x<;>simp only [Qe1] at hc
 case tmp t=>cases hc;exact .inl ⟨t,rfl,rfl,h.slots t,h.onS t⟩
 case const v =>
  simp only [Option.map_eq_some_iff] at hc;obtain ⟨c,hc,rfl⟩:=hc;obtain ⟨h1,h2⟩:=Q52 P hc;exact .inr ⟨rfl,c,rfl,h1,h2 _⟩
 case global=>cases hc
 case func f =>
  cases hc;exact .inr ⟨rfl,_,rfl,fun ℓ=>by simp [RV,RVs,Act.eval],by simp [V.on,V.ons]⟩
theorem Qg2 (h:SR n0 nt g0 w0 σ a w g) {ty:TypeId} {x:Operand} {ar:Arg} (hc:Qe1 P ty x=some ar) :
  RF g w (ar.val σ.s).dem (a.eval x)∧(ar.val σ.s).on (There σ.M):=by
 rcases Qlq P h hc with ⟨t,rfl,rfl,h1,h2⟩|⟨_,c,rfl,h1,h2⟩
 ·exact ⟨Qv6 h1,h2⟩
 ·exact ⟨Qv6 (h1 .free),h2⟩
theorem Qeh (h:SR n0 nt g0 w0 σ a w g) (ctx:Nat→TypeId):∀ (i:Nat) (xs:List Operand) (as:List Arg),Qek P ctx i xs=some as →
  RFs g w (V.dems (as.map (·.val σ.s))) (xs.map a.eval)∧V.ons (There σ.M) (V.dems (as.map (·.val σ.s)))
 | i,[],as,hc=>by simp [Qek] at hc;subst hc;exact ⟨rfl,trivial⟩
 | i,x::xs,as,hc=>by
  simp only [Qek] at hc;split at hc<;>cases hc;rename_i ar as' har has;obtain ⟨h1,h2⟩:=Qg2 P h har;obtain ⟨h3,h4⟩:=Qeh h ctx (i+1) xs as' has;exact ⟨⟨_,_,rfl,h1,h3⟩,(Qdn _).2 h2,h4⟩
theorem Qjs {xs:List V}:∀ x∈V.dems xs,Flat x:=by
 intro x hx;obtain ⟨j,hj,rfl⟩:=List.getElem_of_mem hx;obtain ⟨c,_,h⟩:=Q1n (List.getElem?_eq_getElem hj);rw [h];exact Qdj c
def Gives (P:Program) (n0 nt:Nat) (g0:G) (w0:World) (o:Oper) (a:Act) (w:World) (σ' : St):Prop :=
 (∃ val w' g',(execOp a.eval o).run P w = .ok (.value val) w'∧SR n0 nt g0 w0 σ' (a.put o.dst val) w' g') ∨
 (∃ w' g',(execOp a.eval o).run P w = .ok .skip w'∧SR n0 nt g0 w0 σ' (a.put o.dst undef) w' g')
theorem Gives.wp {o:Oper} {σ' : St} {Q:Exit→Act→World→Prop} (h:Gives P n0 nt g0 w0 o a w σ') {K:Act→World→Prop} (hK:∀ a' w' g',SR n0 nt g0 w0 σ' a' w' g'→K a' w'):o.wp P a w K Q:=by
 unfold Oper.wp;rcases h with ⟨val,w',g',hr,hs⟩|⟨w',g',hr,hs⟩
 ·rw [hr];exact hK _ _ g' hs
 ·rw [hr];exact hK _ _ g' hs
theorem Q53 {T:Tk} {o:Oper} {k:K} {as:List Arg} {tk:Bool} (hc:Qe2 P T o=some (k,as,tk)):k.okz:=by
 have hz:∀ {t z},Qrf P t=some z→∀ p,V.ons p z:=fun h p=>by
  obtain ⟨_,_,_,_,_,hlt⟩:=Qji P h;exact ons_mono (by simp) _ (ons_lt (n:=0) _ (hlt 0))
 unfold Qe2 Qp2 at hc
 repeat' split at hc
 all_goals grind [Option.map_eq_some_iff,Option.bind_eq_some_iff,Option.some.injEq,Prod.mk.injEq,K.okz]
theorem Q17 {n0 κ:Nat} {z:List V} {pl:List (Nat×Nat)} {xs:List V} {M:Mem}:Qm n0 κ (.build z pl) xs M=(if pl.length=(own1 xs).length&&(pl.zip (own1 xs)).all (fun (p,x)=>Qdy x&&x.cells.length==p.2&&decide (p.1+p.2≤z.length))
  then some (V.agg (Qiy z ((pl.zip (own1 xs)).map fun (p,x)=>(p.1,x.cells))),M) else none):=by cases xs<;>rfl
theorem Q54 (R:Nat→V→V→Prop):∀ (ps ps' : List (Nat×List V)) (z z' : List V),z.length=z'.length→(∀ (i:Nat) (c c' : V),z[i]? = some c→z'[i]? = some c'→R i c c')→ps.length=ps'.length →
  (∀ (j:Nat) (q q' : Nat×List V),ps[j]? = some q→ps'[j]? = some q'→q.1=q'.1∧q.2.length=q'.2.length∧q.1+q.2.length≤z.length∧∀ (i:Nat) (c c' : V),q.2[i]? = some c→q'.2[i]? = some c'→R (q.1+i) c c') →
  (Qiy z ps).length=(Qiy z' ps').length∧∀ (i:Nat) (c c' : V),(Qiy z ps)[i]? = some c→(Qiy z' ps')[i]? = some c'→R i c c'
 | [],[],z,z',hl,hz,_,_=>⟨hl,hz⟩
 | [],_::_,_,_,_,_,h,_=>by simp at h
 | _::_,[],_,_,_,_,h,_=>by simp at h
 | (off,vs)::ps,(off',vs')::ps',z,z',hl,hz,hp,hq=>by
  obtain ⟨h1,h2,h3,h4⟩:=hq 0 _ _ rfl rfl;simp only at h1 h2 h3 h4;subst h1;simp only [Qiy];refine Q54 R ps ps' _ _ (by simp [hl,h2]) (fun i c c' hc hc'=>?_) (by simpa using hp) fun j q q' hj hj'=>?_
  ·rw [Qh1 z vs off _ rfl h3] at hc;rw [Qh1 z' vs' off _ rfl (by omega)] at hc'
   grind
  ·obtain ⟨k1,k2,k3,k4⟩:=hq (j+1) q q' (by simpa using hj) (by simpa using hj')
   grind
theorem Qrx:∀ (as:List Arg) (s s0:Sl) (t:Nat),(Arg.t t∈as∧Qba s as (V.dems (as.map (·.val s0))) t=(s0 t).dem)∨(Arg.t t∉as∧Qba s as (V.dems (as.map (·.val s0))) t=s t)
 | [],s,s0,t=>.inr ⟨by simp,by simp [V.dems,Qba]⟩
 | a::as,s,s0,t=>by
  simp only [List.map_cons,V.dems,Qba];rcases Qrx as (a.putTo s (a.val s0).dem) s0 t with ⟨h1,h2⟩|⟨h1,h2⟩
  ·grind
  ·rw [h2];cases a with
   | c v=>exact .inr ⟨by simpa using h1,rfl⟩
   | t i =>
    by_cases e:t=i
    all_goals simp_all [Arg.putTo,Sl.put,Arg.val]
theorem Qbal (ctx:Nat→TypeId):∀ (i:Nat) (xs:List Operand) (as:List Arg),Qek P ctx i xs=some as→∀ (j:Nat) (ar:Arg),as[j]? = some ar→∃ x ty,xs[j]? = some x∧Qe1 P ty x=some ar
 | i,[],as,hc,j,ar,h=>by grind [Qek]
 | i,x::xs,as,hc,j,ar,h=>by
  simp only [Qek] at hc;split at hc<;>cases hc;rename_i ar' as' har has;cases j with
  | zero=>grind
  | succ j=>simpa using Qbal ctx (i+1) xs as' has j ar (by simpa using h)
theorem Q8c:∀ l:List V,(V.dems l).length=l.length
 | []=>rfl
 | x::l=>by simp [V.dems,Q8c l]
theorem Q7l (h:SR n0 nt g0 w0 σ a w g) (as:List Arg):(∀ t,RV g w (Qba σ.s as (V.dems (as.map (·.val σ.s))) t) (.slot t []) (a.tmps.getD t undef))∧∀ t,(Qba σ.s as (V.dems (as.map (·.val σ.s))) t).on (There σ.M):=by
 refine ⟨fun t=>?_,fun t=>?_⟩
 ·rcases Qrx as σ.s σ.s t with ⟨_,e⟩|⟨_,e⟩
  ·rw [e];exact Qha _ _ _ _ (h.slots t)
  ·rw [e];exact h.slots t
 ·rcases Qrx as σ.s σ.s t with ⟨_,e⟩|⟨_,e⟩
  ·rw [e];exact (Qdn _).2 (h.onS t)
  ·rw [e];exact h.onS t
theorem Q8d:∀ {as:List Arg},nodA as=true→∀ (i j t:Nat),as[i]? = some (Arg.t t)→as[j]? = some (Arg.t t)→i=j
 | [],_,_,_,_,h,_=>by simp at h
 | a::as,hn,i,j,t,h1,h2=>by
  have ht:nodA as=true:=by cases a<;>simp_all [nodA]
  have key:∀ k:Nat,a=Arg.t t→as[k]? = some (Arg.t t)→False:=by
   rintro k rfl hk;simp only [nodA,Bool.and_eq_true,List.all_eq_true] at hn;have:=hn.1 _ (List.mem_of_getElem? hk);simp at this
  cases i with
  | zero =>
   grind
  | succ i =>
   cases j with
   | zero=>grind
   | succ j=>simp at h1 h2;exact congrArg _ (Q8d ht i j t h1 h2)
open Classical in
theorem Qbc8 {as:List Arg} (hn:nodA as=true) (d:Nat) (pos:Nat→Nat):∃ f:Owner→Owner,(∀ j t,as[j]? = some (Arg.t t)→f (.slot t []) = .slot d [pos j])∧∀ o,(∀ t,Arg.t t∈as→o ≠ .slot t [])→f o=o:=by
 refine ⟨fun o=>if h:∃ j t,as[j]? = some (Arg.t t)∧o = .slot t [] then .slot d [pos h.choose] else o,fun j t hj=>?_,fun o ho=>?_⟩
 ·have h:∃ j' t',as[j']? = some (Arg.t t')∧Owner.slot t [] = .slot t' []:=⟨j,t,hj,rfl⟩;simp only;rw [dif_pos h];obtain ⟨t',h1,h2⟩:=h.choose_spec;injection h2 with h2 _
  subst h2;rw [Q8d hn _ j _ h1 hj]
 ·simp only;rw [dif_neg];rintro ⟨j,t,h1,h2⟩;exact ho t (List.mem_of_getElem? h1) h2
def mark (nb j:Nat) (x:V) (u:Value):V :=
 match x with
 | .own sz _=>match u with
  | .slice (some _) n cap=>if cap=0 then .nils sz else .sl sz (nb+j) 0 n cap
  | _=>.nils sz
 | x=>x.dem
theorem Qbam {nb j:Nat} {x:V} {u:Value}:Flat (mark nb j x u):=by
 unfold mark;split
 ·split
  ·split<;>rfl
  ·rfl
 ·exact Qdj _
theorem Q1p {nb j sz:Nat} {l:List (List D)} {u:Value}:Qdy (mark nb j (.own sz l) u)=true∧(mark nb j (.own sz l) u).cells=[mark nb j (.own sz l) u]:=by
 simp only [mark];split
 ·split<;>exact ⟨rfl,rfl⟩
 ·exact ⟨rfl,rfl⟩
theorem Q8e {nb j:Nat} {x:V} {u:Value} (h:∀ sz l,x ≠ .own sz l):mark nb j x u=x.top:=by
 rw [Qxk h];cases x<;>first|rfl|exact absurd rfl (h _ _)
def blkU:Value→Nat
 | .slice (some a) _ _=>a.block
 | _=>0
theorem Qban (h:SR n0 nt g0 w0 σ a w g) {d:Nat} (hd:d<nt) {ctx:Nat→TypeId} {i0:Nat} {ops:List Operand} {as:List Arg} (has:Qek P ctx i0 ops=some as) (hnd:nodA as=true) {z:List V} {pl:List (Nat×Nat)} (hzz:(K.build z pl).okz) {R:Sem Value} {v:V} {κ:Nat} {M' : Mem}
  (hB:∀ (g' : G) (xs' : List V) (v' : V) (M'' : Mem),(∀ x∈xs',Flat x)→RFs g' w xs' (ops.map a.eval)→Qm n0 κ (.build z pl) xs' σ.M=some (v',M'')→∃ val,R.run P w = .ok val w∧RF g' w v' val)
  (hs:Qm n0 κ (.build z pl) (as.map (·.val σ.s)) σ.M=some (v,M')) :
  M'=σ.M∧∃ val g',R.run P w = .ok val w∧SR n0 nt g0 w0 ⟨Qbd (Qba σ.s as (V.dems (as.map (·.val σ.s)))) (some d) v,σ.M,σ.nb⟩ (a.put (some d) val) w g':=by
 obtain ⟨hrfs,hons⟩:=Qeh P h ctx i0 ops as has;obtain ⟨hps,hpo⟩:=Q7l h as;have hraw:V.ons (There σ.M) (as.map (·.val σ.s)):=by
  grind [V.ons,There,V.dems,ons_dems]
 have hvon:=(Q4x hzz hs hraw h.mOn).1;generalize hxs:as.map (·.val σ.s)=xs at *
 rw [Q17] at hs;split at hs<;>cases hs;rename_i hc;refine ⟨rfl,?_⟩;simp only [Bool.and_eq_true,decide_eq_true_eq,List.all_eq_true] at hc;obtain ⟨hcl,hca⟩:=hc;have hol:(own1 xs).length=xs.length:=by rw [Qzc,List.length_map]
 have hul:(ops.map a.eval).length=xs.length:=by rw [Qf3 hrfs,Q8c]
 generalize hus:ops.map a.eval=us at *
 have hfacts:∀ (j sz:Nat) (l:List (List D)) (u:Value),xs[j]? = some (.own sz l)→us[j]? = some u→((∃ ad,u = .slice ad 0 0)∧l=[])∨∃ t0 b cap,as[j]? = some (Arg.t t0)∧RV g w (.own sz l) (.slot t0 []) u∧u = .slice (some ⟨b,0,none⟩) l.length cap∧l.length≤cap:=by
  intro j sz l u hx hu0;obtain ⟨ar,har,hav⟩ : ∃ ar,as[j]? = some ar∧ar.val σ.s = .own sz l:=by
   grind
  obtain ⟨x0,ty,hx0,hca0⟩:=Qbal P ctx i0 ops as has j ar har;have hu:a.eval x0=u:=by grind
  have key:∀ ℓ,RV g w (.own sz l) ℓ u→((∃ ad,u = .slice ad 0 0)∧l=[])∨∃ b cap,u = .slice (some ⟨b,0,none⟩) l.length cap∧g.own b=ℓ∧l.length≤cap:=by
   intro ℓ hv;simp only [RV] at hv
   grind
  rcases Qlq P h hca0 with ⟨t0,rfl,rfl,h1,_⟩|⟨_,c,rfl,h1,_⟩
  ·grind [Arg.val]
  ·simp only [Arg.val] at hav;subst hav;rw [hu] at h1;rcases key _ (h1 .free) with hn|⟨b,cap,k1,k2,_⟩
   ·exact .inl hn
   ·rcases key _ (h1 .ext) with hn|⟨b',cap',k1',k2',_⟩
    all_goals grind
 let ms:List V:=(List.range xs.length).map fun j=>mark σ.nb j (xs.getD j .und) (us.getD j undef);let g' : G:={ g with box:=fun k=>if k<σ.nb then g.box k else blkU (us.getD (k-σ.nb) undef) };have hms:∀ (j:Nat) (m:V),ms[j]? = some m→∃ x u,xs[j]? = some x∧us[j]? = some u∧m=mark σ.nb j x u:=by
  grind
 have hml:ms.length=xs.length:=by simp [ms]
 have hfl:∀ x∈ms,Flat x:=by
  intro x hx;obtain ⟨j,hj⟩:=List.getElem?_of_mem hx;obtain ⟨_,_,_,_,rfl⟩:=hms j x hj;exact Qbam
 have hnb:∀ k,There σ.M k→k<σ.nb:=by
  intro k hk;obtain ⟨bx,hbx⟩:=Option.isSome_iff_exists.1 hk;exact (h.mem.box k bx hbx).1
 have hg' : Kept g w g' w (There σ.M) (fun _=>True):=⟨⟨fun _ _ h=>h,fun _ _ _=>rfl⟩,fun k hk=>by simp [g',hnb k hk],fun b _ _=>⟨rfl,rfl,fun _=>Iff.rfl⟩⟩;have hmu:∀ (j sz:Nat) (l:List (List D)) (u:Value) (ℓ:Owner) (u' : Value),xs[j]? = some (.own sz l)→us[j]? = some u→(RV g' w (mark σ.nb j (.own sz l) u) ℓ u' ↔ (((∃ ad,u = .slice ad 0 0)∧∃ ad,u' = .slice ad 0 0)∨((¬ ∃ ad,u = .slice ad 0 0)∧u'=u))):=by
  intro j sz l u ℓ u' hx hu;have hbox:g'.box (σ.nb+j)=blkU u:=by
   grind
  rcases hfacts j sz l u hx hu with ⟨⟨ad,rfl⟩,rfl⟩|⟨t0,b,cap,_,_,rfl,hle⟩
  ·have:mark σ.nb j (.own sz []) (.slice ad 0 0) = .nils sz:=by cases ad<;>rfl
   rw [this];simp only [RV];exact ⟨fun h=>.inl ⟨⟨ad,rfl⟩,h⟩,fun h=>h.elim (·.2) fun h=>absurd ⟨ad,rfl⟩ h.1⟩
  ·by_cases hc:cap=0
   ·subst hc;have hl:l.length=0:=by omega
    rw [hl];have:mark σ.nb j (.own sz l) (.slice (some ⟨b,0,none⟩) 0 0) = .nils sz:=rfl;rw [this];simp only [RV];exact ⟨fun h=>.inl ⟨⟨_,rfl⟩,h⟩,fun h=>h.elim (·.2) fun h=>absurd ⟨_,rfl⟩ h.1⟩
   ·have:mark σ.nb j (.own sz l) (.slice (some ⟨b,0,none⟩) l.length cap) = .sl sz (σ.nb+j) 0 l.length cap:=by simp only [mark];rw [if_neg hc]
    rw [this];simp only [RV,hbox,blkU]
    grind
 have hrfs' : RFs g' w ms us:=by
  have:∀ (ys:List V) (us:List Value),us.length=ys.length→(∀ (j:Nat) (y:V) (u:Value),ys[j]? = some y→us[j]? = some u→RF g' w y u)→RFs g' w ys us:=by
   intro ys
   induction ys with
   | nil=>intro us hl _;exact List.eq_nil_of_length_eq_zero (by simpa using hl)
   | cons y ys ih =>
    intro us hl hh;cases us with
    | nil=>simp at hl
    | cons u us=>exact ⟨u,us,rfl,hh 0 y u rfl rfl,ih us (by simpa using hl) fun j y' u' hy hu=>hh (j+1) y' u' (by simpa using hy) (by simpa using hu)⟩
  refine this _ _ (by omega) fun j y u hy huj=>?_;obtain ⟨x,u2,hx,hu2,rfl⟩:=hms j y hy;rw [huj] at hu2;cases hu2;have hdx:(V.dems xs)[j]? = some x.dem:=by
   have:∀ (l:List V) (j:Nat) (x:V),l[j]? = some x→(V.dems l)[j]? = some x.dem:=by
    intro l
    induction l with
    | nil=>intro j x h;simp at h
    | cons y l ih =>
     intro j x h;cases j with
     | zero=>simp at h;subst h;rfl
     | succ j=>grind [V.dems]
   exact this _ _ _ hx
  by_cases ho:∃ sz l,x = .own sz l
  ·obtain ⟨sz,l,rfl⟩:=ho;intro ℓ;rw [hmu j sz l u ℓ u hx huj]
   grind
  ·have hno:∀ sz l,x ≠ .own sz l:=fun sz l e=>ho ⟨sz,l,e⟩;rw [Q8e hno,Qxk hno];intro ℓ;exact Qch hg' (fun _ _ _=>trivial) trivial x.dem ℓ u trivial (Qe3 hons hdx) (Qnh hrfs j _ u hdx huj ℓ)
 let Rl:Nat→V→V→Prop:=fun i c c'=>c=c' ∨ ∃ j sz l u,xs[j]? = some (.own sz l)∧us[j]? = some u∧(pl.map (·.1)).getD j 0=i∧c = .own sz l∧c'=mark σ.nb j (.own sz l) u;have hpart:∀ (j:Nat) (x:V) (m:V),(own1 xs)[j]? = some x→ms[j]? = some m→x=m∨∃ sz l u,xs[j]? = some (.own sz l)∧us[j]? = some u∧x = .own sz l∧m=mark σ.nb j (.own sz l) u:=by
  intro j x m hx hm;obtain ⟨x',u,hx',hu,rfl⟩:=hms j m hm;rw [Qzc,List.getElem?_map,hx'] at hx;simp only [Option.map_some,Option.some.injEq] at hx;subst hx;by_cases ho:∃ sz l,x' = .own sz l
  ·obtain ⟨sz,l,rfl⟩:=ho;exact .inr ⟨sz,l,u,hx',hu,rfl,rfl⟩
  grind [Q8e]
 have hst:Qm n0 κ (.build z pl) ms σ.M=some (.agg (Qiy z ((pl.zip ms).map fun (p,x)=>(p.1,x.cells))),σ.M):=by
  rw [Q17,Q11 hfl,if_pos];simp only [Bool.and_eq_true,decide_eq_true_eq,List.all_eq_true];refine ⟨by omega,fun q hq=>?_⟩;obtain ⟨j,hj⟩:=List.getElem?_of_mem hq;obtain ⟨q1,q2⟩:=q;rw [List.getElem?_zip_eq_some] at hj;simp only at hj;have hjl:j<(own1 xs).length:=by grind
  have hox:=List.getElem?_eq_getElem hjl;have hq':=hca (q1,(own1 xs)[j]) (List.mem_of_getElem? (i:=j) (by grind));simp only [Bool.and_eq_true,beq_iff_eq,decide_eq_true_eq] at hq' ⊢;rcases hpart j _ _ hox hj.2 with he|⟨sz,l,u,_,_,he,rfl⟩
  ·rw [← he];exact hq'
  ·rw [he] at hq';refine ⟨⟨Q1p.1,?_⟩,hq'.2⟩;rw [Q1p.2];exact hq'.1.2
 obtain ⟨val,hr,hrf⟩:=hB g' _ _ _ hfl hrfs' hst;have hrel:=Q54 Rl ((pl.zip (own1 xs)).map fun (p,x)=>(p.1,x.cells)) ((pl.zip ms).map fun (p,x)=>(p.1,x.cells)) z z rfl (fun i c c' hc hc'=>by grind) (by simp;omega) (fun j q q' hq hq'=>by
  rw [List.getElem?_map,Option.map_eq_some_iff] at hq hq';obtain ⟨⟨p1,x1⟩,hq,rfl⟩:=hq;obtain ⟨⟨p2,x2⟩,hq',rfl⟩:=hq';have hmem:=List.mem_of_getElem? hq;rw [List.getElem?_zip_eq_some] at hq hq';simp only at hq hq';obtain ⟨hq1,hq2⟩:=hq;obtain ⟨hq1',hq2'⟩:=hq';rw [hq1] at hq1';cases hq1';have hok:=hca (p1,x1) hmem;simp only [Bool.and_eq_true,beq_iff_eq,decide_eq_true_eq] at hok;have hlen:x1.cells.length=p1.2:=hok.1.2;rcases hpart j _ _ hq2 hq2' with rfl|⟨sz,l,u,ex,eu,rfl,rfl⟩
  ·grind
  ·refine ⟨rfl,by show _=(mark σ.nb j (.own sz l) u).cells.length;rw [Q1p.2];rfl,by simp only;omega,fun i c c' hc hc'=>.inr ?_⟩;have hc:(V.own sz l).cells[i]? = some c:=hc;have hc' : (mark σ.nb j (.own sz l) u).cells[i]? = some c':=hc';rw [Q1p.2] at hc';simp only [V.cells] at hc
   grind)
 obtain ⟨f,hf1,hf2⟩:=Qbc8 hnd d fun j=>(pl.map (·.1)).getD j 0;have hfs:∀ t p,(Arg.t t∉as∨p≠[])→f (.slot t p) = .slot t p:=by
  grind
 have hfo:∀ o,(∀ t p,o ≠ .slot t p)→f o=o:=fun o ho=>hf2 o fun t _=>ho t [];have hfb:∀ t p k,f (.slot t p) ≠ .box k:=by
  grind [List.getElem?_of_mem]
 have hkx:=Kept.re g w f (There σ.M);refine ⟨val,g.re f,hr,h.step (h.mem.re_slots h.mOn hfo hfb) ?_ (Qfi (fun d' hd'=>by cases hd';rw [h.size];exact hd) (fun t ht=>?_) (fun d' hd'=>?_)) (Qge _ _ _) (Qd7 _ _ _) (Qfj hpo hvon) h.mOn h.out⟩
 ·exact ⟨rfl,rfl,rfl,Nat.le_refl _,Imm.refl _ _,fun _ _=>rfl,fun b hb ho=>⟨hfo _ fun t p e=>by rw [e] at ho;exact ho,rfl,fun _=>Iff.rfl⟩⟩
 ·by_cases hm:Arg.t t∈as
  ·rcases Qrx as σ.s σ.s t with ⟨_,e⟩|⟨hn,_⟩
   ·rw [hxs] at e;rw [e];exact Qig (hkx.weaken (fun _ h=>h) (by grind)) (Qdj _) ((Qdn _).2 (h.onS t)) (Qha _ _ (.slot t []) _ (h.slots t))
   ·exact absurd hm hn
  ·have hk:Kept g w (g.re f) w (There σ.M) (fun o=>(∃ q,o = .slot t q)∨o = .ext):=by
    refine hkx.weaken (fun _ h=>h) ?_
    grind
   refine Qch hk ?_ (.inr rfl) _ _ _ (.inl ⟨[],rfl⟩) (hpo t) (hps t);rintro ℓ i' (⟨q,rfl⟩|rfl)
   ·exact .inl ⟨i'::q,rfl⟩
   ·exact .inr rfl
 ·cases hd';have hv:=hrf (.slot d []);simp only [RV] at hv ⊢;obtain ⟨us',hval,hrs,hone⟩:=hv;refine ⟨us',hval,(Qci _ _ _ _).2 ⟨by grind [Qng],fun i c u hc hu=>?_⟩,hone⟩;have honv:V.ons (There σ.M) (Qiy z ((pl.zip (own1 xs)).map fun (p,x)=>(p.1,x.cells))):=hvon;have hlt:i<(Qiy z ((pl.zip ms).map fun (p,x)=>(p.1,x.cells))).length:=by
   grind
  have hc':=List.getElem?_eq_getElem hlt;have hru:=((Qci _ _ _ _).1 hrs).2 i _ u hc' hu;rcases hrel.2 i c _ hc hc' with he|⟨j,sz,l,uj,ex,eu,hpj,rfl,he⟩
  ·rw [← he] at hru;have hk:Kept g' w (g.re f) w (There σ.M) (fun o=>(∃ q,o = .slot d (q++[i]))∨o = .ext):=by
    refine ⟨⟨fun b o hb=>hb,fun _ _ _=>rfl⟩,fun k hk=>by simp [g',hnb k hk,G.re],fun b hb _=>⟨?_,rfl,fun o=>Iff.rfl⟩⟩;show f (g.own b)=g.own b;have hb:(∃ q,g.own b = .slot d (q++[i]))∨g.own b = .ext:=hb;rcases hb with ⟨q,hb⟩|hb
    ·rw [hb];exact hfs _ _ (.inr (by simp))
    grind
   refine Qch hk ?_ (.inr rfl) c _ u (.inl ⟨[],by simp [Owner.sub]⟩) (Qe3 honv hc) hru;rintro ℓ i' (⟨q,rfl⟩|rfl)
   ·exact .inl ⟨i'::q,rfl⟩
   ·exact .inr rfl
  ·rw [he,hmu j sz l uj _ u ex eu] at hru;rcases hfacts j sz l uj ex eu with ⟨had,rfl⟩|⟨t0,b,cap,hat,hv0,hub,_⟩
   ·rcases hru with ⟨_,hn⟩|⟨hn,_⟩
    ·simp only [RV];grind
    ·exact absurd had hn
   ·rcases hru with ⟨⟨ad,h0⟩,⟨ad',rfl⟩⟩|⟨_,rfl⟩
    ·rw [h0] at hub;injection hub with _ hub _
     have:l=[]:=List.eq_nil_of_length_eq_zero hub.symm;subst this;simp only [RV];exact .inl ⟨⟨_,rfl⟩,trivial⟩
    grind [Qbd4,Owner.sub]
end
end Go.Abs
end
section
namespace Go.Abs
open Go Go.MapKept
section
variable (P:Program) {g:G} {w:World} {n0 nt:Nat} {g0:G} {w0:World} {σ:St} {a:Act}
theorem Qxl {c:CK} {v:V} {u:Value} (hv:c.ok v=true) (hr:RF g w v u):(∃ n,∃ k,c = .int k∧v = .d (.int k n)∧u = .int k n)∨(∃ s,c = .str∧v = .d (.str s)∧u = .string s)∨(∃ b,c = .bool∧v = .d (.bool b)∧u = .bool b):=by
 cases v with
 | d x =>
  cases x<;>cases c<;>simp [CK.ok] at hv
  ·subst hv;exact .inl ⟨_,_,rfl,rfl,Qov hr⟩
  ·exact .inr (.inr ⟨_,rfl,rfl,Q05 hr⟩)
  ·exact .inr (.inl ⟨_,rfl,rfl,Q9d hr⟩)
 | _=>cases c<;>simp [CK.ok] at hv
theorem Qzh {c:CK} {v v' : V} {u u' : Value} (h1:c.ok v=true) (h2:c.ok v'=true) (r1:RF g w v u) (r2:RF g w v' u'):Qhs v v'=true↔u=u':=by
 rcases Qxl h1 r1 with ⟨n,k,rfl,rfl,rfl⟩|⟨s,rfl,rfl,rfl⟩|⟨b,rfl,rfl,rfl⟩<;>rcases Qxl h2 r2 with ⟨n',k',e,rfl,rfl⟩|⟨s',e,rfl,rfl⟩|⟨b',e,rfl,rfl⟩<;>cases e<;>simp [Qhs,bytes_beq]
theorem Qua:∀ {ks:List CK} {cs:List V},okCs ks cs=true→cs.length=ks.length
 | [],[],_=>rfl
 | k::ks,c::cs,h=>by simp only [okCs,Bool.and_eq_true] at h;simp [Qua h.2]
 | [],_::_,h=>by simp [okCs] at h
 | _::_,[],h=>by simp [okCs] at h
theorem Q3u:∀ {ks:List CK} {cs cs' : List V} {us us' : List Value},okCs ks cs=true→okCs ks cs'=true→RFs g w cs us→RFs g w cs' us'→(Qhy cs cs'=true↔us=us')
 | [],[],[],us,us',_,_,r1,r2=>by grind [RFs,Qhy]
 | k::ks,c::cs,c'::cs',_,_,h1,h2,⟨u,us,rfl,r1,t1⟩,⟨u',us',rfl,r2,t2⟩=>by
  simp only [okCs,Bool.and_eq_true] at h1 h2;simp only [Qhy,Bool.and_eq_true,Qzh h1.1 h2.1 r1 r2,Q3u h1.2 h2.2 t1 t2,List.cons.injEq]
 | _::_,[],_,_,_,h1,_,_,_=>by simp [okCs] at h1
 | _::_,_::_,[],_,_,_,h2,_,_=>by simp [okCs] at h2
 | [],_::_,_,_,_,h1,_,_,_=>by simp [okCs] at h1
 | [],[],_::_,_,_,_,h2,_,_=>by simp [okCs] at h2
theorem Qsy {cs:List V} {ks:List CK} {u:Value} (ho:okCs ks cs=true) (h:RF g w (.agg cs) u):∃ us:List Value,u = .agg us.toArray∧RFs g w cs us:=by
 have hf:(V.agg cs).dem = .agg cs:=by
  simp only [V.dem];congr 1;clear h
  induction cs generalizing ks with
  | nil=>rfl
  | cons c cs ih =>
   cases ks with
   | nil=>simp [okCs] at ho
   | cons k ks =>
    simp only [okCs,Bool.and_eq_true] at ho;have:c.dem=c:=by
     cases c<;>first|rfl|(cases k<;>simp [CK.ok] at ho)
    simp only [V.dems,this,ih ho.2]
 obtain ⟨us,rfl,hl,hr,h5⟩:=Q06 hf h;refine ⟨us,rfl,?_⟩;clear h hf h5
 induction cs generalizing us ks with
 | nil=>grind [RFs,List.eq_nil_of_length_eq_zero]
 | cons c cs ih =>
  cases us with
  | nil=>simp at hl
  | cons u us =>
   cases ks with
   | nil=>simp [okCs] at ho
   | cons k ks =>
    simp only [okCs,Bool.and_eq_true] at ho;exact ⟨u,us,rfl,hr 0 c u rfl rfl,ih ho.2 us (by simpa using hl) fun j c' x hc hx=>hr (j+1) c' x (by simpa using hc) (by simpa using hx)⟩
structure KLaw (P:Program) (g:G) (w:World) (kt:TypeId) (kd:MK):Prop where
 check:∀ (em:Bool) {v:V} {u:Value},kd.ok v=true→RF g w v u→(Instr.checkKey em 10000 kt u).run P w = .ok () w
 stays:∀ {v:V} {u:Value},kd.ok v=true→RF g w v u→(Instr.keyThatStays u u).run P w = .ok u w
 same:∀ {v v' : V} {u u' : Value},kd.ok v=true→kd.ok v'=true→RF g w v u→RF g w v' u'→(Qea v v'=true↔u=u')
 find:∀ {key:V} {u:Value} (l:List (V×MapEntry)),kd.ok key=true→RF g w key u→(∀ p∈l,kd.ok p.1=true∧RF g w p.1 p.2.key) →
  ((Instr.findKey kt u (l.map (·.2))).run P w = .ok none w∧∀ p∈l,p.2.key≠u) ∨
  ∃ (j:Nat) (p:V×MapEntry),(Instr.findKey kt u (l.map (·.2))).run P w = .ok (some (j,p.2.val)) w∧l[j]? = some p∧p.2.key=u∧∀ i q,i<j→l[i]? = some q→q.2.key≠u
theorem Q3v {d:TypeDesc} {u:Value} (hu:IsKey d u):∀ (l:List (V×MapEntry)) (i:Nat),(∀ p∈l,IsKey d p.2.key) →
  (Instr.findNow d u (l.map (·.2)) i=some none∧∀ p∈l,p.2.key≠u) ∨
  ∃ (j:Nat) (p:V×MapEntry),Instr.findNow d u (l.map (·.2)) i=some (some (i+j,p.2.val))∧l[j]? = some p∧p.2.key=u∧∀ i q,i<j→l[i]? = some q→q.2.key≠u
 | [],i,_=>.inl ⟨rfl,by simp⟩
 | p::l,i,h=>by
  obtain ⟨b,hb,hiff⟩:=sameNow_of_keys hu (h p (by simp));cases b with
  | true=>exact .inr ⟨0,p,by simp [Instr.findNow,hb],rfl,(hiff.1 rfl).symm,by omega⟩
  | false =>
   have hne:p.2.key≠u:=fun e=>by grind
   rcases Q3v hu l (i+1) (fun q hq=>h q (by simp [hq])) with ⟨k1,k2⟩|⟨j,q,k1,k2,k3,k4⟩
   ·refine .inl ⟨by simp [Instr.findNow,hb,k1],fun q hq=>?_⟩
    grind
   ·refine .inr ⟨j+1,q,by simp [Instr.findNow,hb,k1];omega,by simpa using k2,k3,fun i' q' hi hq'=>?_⟩
    grind
theorem Q3w {kt:TypeId} {u:Value}:∀ (l:List (V×MapEntry)) (i:Nat),(∀ p∈l,∃ b:Bool,(Op.equal kt u p.2.key).run P w = .ok b w∧(b=true↔u=p.2.key)) →
  ((Instr.findAsking kt u (l.map (·.2)) i).run P w = .ok none w∧∀ p∈l,p.2.key≠u) ∨
  ∃ (j:Nat) (p:V×MapEntry),(Instr.findAsking kt u (l.map (·.2)) i).run P w = .ok (some (i+j,p.2.val)) w∧l[j]? = some p∧p.2.key=u∧∀ i q,i<j→l[i]? = some q→q.2.key≠u
 | [],i,_=>.inl ⟨by simp [Instr.findAsking],by simp⟩
 | p::l,i,h=>by
  obtain ⟨b,hb,hiff⟩:=h p (by simp);cases b with
  | true=>exact .inr ⟨0,p,by simp [Instr.findAsking,hb],rfl,(hiff.1 rfl).symm,by omega⟩
  | false =>
   have hne:p.2.key≠u:=fun e=>by grind
   rcases Q3w l (i+1) (fun q hq=>h q (by simp [hq])) with ⟨k1,k2⟩|⟨j,q,k1,k2,k3,k4⟩
   ·refine .inl ⟨by simp [Instr.findAsking,hb,k1],fun q hq=>?_⟩
    grind
   ·refine .inr ⟨j+1,q,by simp [Instr.findAsking,hb,k1,Nat.add_assoc,Nat.add_comm 1 j],by simpa using k2,k3,fun i' q' hi hq'=>?_⟩
    grind
theorem Q4y {kt:TypeId} {d:TypeDesc} {kd:MK} (hd:P.underlying kt=some d) (hk:∀ (v:V) (u:Value),kd.ok v=true→RF g w v u→IsKey d u)
  (hs:∀ {v v' : V} {u u' : Value},kd.ok v=true→kd.ok v'=true→RF g w v u→RF g w v' u'→(Qea v v'=true↔u=u')):KLaw P g w kt kd where
 check:=fun em v u hv hr=>run_checkKey hd (hk _ _ hv hr) em 9999
 stays:=fun hv hr=>run_keyThatStays (hk _ _ hv hr)
 same:=hs
 find:=fun {key u} l hkey hu hl=>by
  grind [Q3v,Go.MapKept.run_findKey]
theorem Qnk {t:TypeId} {c:CK} (h:Qk9 P t=some c):Qhz P t=some (match c with | .int _=>0 | .bool=>1 | .str=>2):=by
 grind [Qk9,Qhz]
def CK.code:CK→Nat
 | .int _=>0
 | .bool=>1
 | .str=>2
theorem Qxm:∀ {ks:List CK} {xs ys:List V},okCs ks xs=true→okCs ks ys=true→Qd6 (ks.map CK.code) xs ys=some (Qhy xs ys)
 | [],[],[],_,_=>rfl
 | k::ks,x::xs,y::ys,h1,h2=>by
  simp only [okCs,Bool.and_eq_true] at h1 h2;have ih:=Qxm h1.2 h2.2;cases x with
  | d a =>
   cases y with
   | d b =>
    cases a<;>cases b<;>cases k<;>simp [CK.ok] at h1 h2
    ·obtain ⟨rfl,_⟩:=h1;obtain ⟨rfl,_⟩:=h2;simp [CK.code,Qd6,ih,Qhy,Qhs]
    ·simp [CK.code,Qd6,ih,Qhy,Qhs]
    ·simp [CK.code,Qd6,ih,Qhy,Qhs,beq_toListBytes]
   | _=>cases k<;>simp [CK.ok] at h2
  | _=>cases k<;>simp [CK.ok] at h1
 | _::_,[],_,h1,_=>by simp [okCs] at h1
 | _::_,_::_,[],_,h2=>by simp [okCs] at h2
 | [],_::_,_,h1,_=>by simp [okCs] at h1
 | [],[],_::_,_,h2=>by simp [okCs] at h2
theorem Qyf:∀ {ks:List CK} {cs:List V} {us:List Value},okCs ks cs=true→RFs g w cs us→∀ n,(us.zip us).all (fun p=>Instr.sameBits n p.1 p.2)=true
 | [],[],us,_,h,_=>by simp_all [RFs]
 | k::ks,c::cs,_,h1,⟨u,us,rfl,r1,t1⟩,n=>by
  simp only [okCs,Bool.and_eq_true] at h1;simp only [List.zip_cons_cons,List.all_cons,Bool.and_eq_true];refine ⟨?_,Qyf h1.2 t1 n⟩;rcases Qxl h1.1 r1 with ⟨n,k,rfl,rfl,rfl⟩|⟨s,rfl,rfl,rfl⟩|⟨b,rfl,rfl,rfl⟩<;>simp [Instr.sameBits,bytes_beq]
 | _::_,[],_,h1,_,_=>by simp [okCs] at h1
 | [],_::_,_,h1,_,_=>by simp [okCs] at h1
theorem Q8f {kt:TypeId} {ks:List CK} (hd:∃ d,P.underlying kt=some d∧((∃ n e,d = .array n e)∨∃ fs,d = .struct fs))
  (heqq:∀ {cs cs' : List V} {us us' : List Value},okCs ks cs=true→okCs ks cs'=true→RFs g w cs us→RFs g w cs' us'→(Op.equal kt (.agg us.toArray) (.agg us'.toArray)).run P w = .ok (Qhy cs cs') w)
  (hcheck:∀ (em:Bool) {cs:List V} {us:List Value},okCs ks cs=true→RFs g w cs us→(Instr.checkKey em 10000 kt (.agg us.toArray)).run P w = .ok () w):KLaw P g w kt (.st ks):=by
 have hex:∀ {v:V},(MK.st ks).ok v=true→∃ cs,v = .agg cs∧okCs ks cs=true:=by
  intro v h;cases v<;>simp [MK.ok] at h;exact ⟨_,rfl,h⟩
 have hsame:∀ {v v' : V} {u u' : Value},(MK.st ks).ok v=true→(MK.st ks).ok v'=true→RF g w v u→RF g w v' u'→(Qea v v'=true↔u=u'):=by
  intro v v' u u' h1 h2 r1 r2;obtain ⟨cs,rfl,o1⟩:=hex h1;obtain ⟨cs',rfl,o2⟩:=hex h2;obtain ⟨us,rfl,q1⟩:=Qsy o1 r1;obtain ⟨us',rfl,q2⟩:=Qsy o2 r2;rw [show Qea (.agg cs) (.agg cs')=Qhy cs cs' from rfl,Q3u o1 o2 q1 q2];simp
 obtain ⟨d,hd,hdd⟩:=hd;refine ⟨fun em v u h r=>?_,fun {v u} h r=>?_,hsame,fun {key u} l hkey hu hl=>?_⟩
 ·obtain ⟨cs,rfl,o1⟩:=hex h;obtain ⟨us,rfl,q1⟩:=Qsy o1 r;exact hcheck em o1 q1
 ·obtain ⟨cs,rfl,o1⟩:=hex h;obtain ⟨us,rfl,q1⟩:=Qsy o1 r;have:=Qyf o1 q1 9999
  simp_all [Go.Instr.sameBits,beq_self_eq_true,Bool.true_and,Go.Instr.keyThatStays]
 ·have heq:∀ p∈l,∃ b:Bool,(Op.equal kt u p.2.key).run P w = .ok b w∧(b=true↔u=p.2.key):=by
   intro p hp;obtain ⟨h2,r2⟩:=hl p hp;obtain ⟨pv,pe⟩:=p;simp only at h2 r2;obtain ⟨cs,rfl,o1⟩:=hex hkey;obtain ⟨cs',rfl,o2⟩:=hex h2;have hs:=hsame hkey h2 hu r2;obtain ⟨us,rfl,q1⟩:=Qsy o1 hu;obtain ⟨us',hu',q2⟩:=Qsy o2 r2;refine ⟨Qhy cs cs',?_,hs⟩;rw [show (pe.key) = .agg us'.toArray from hu'];exact heqq o1 o2 q1 q2
  have hfk:(Instr.findKey kt u (l.map (·.2))).run P w=(Instr.findAsking kt u (l.map (·.2)) 0).run P w:=by
   have hfn:Instr.findNow d u (l.map (·.2)) 0=none∨l=[]:=by
    cases l with
    | nil=>exact .inr rfl
    | cons p l =>
     refine .inl ?_;rcases hdd with ⟨n,e,rfl⟩|⟨fs,rfl⟩<;>simp [Instr.findNow,Instr.sameNow]
   rcases hfn with h|rfl
   all_goals simp_all [Go.Instr.findKey,Go.run_underlying,Go.Result.andThen,Go.Instr.findNow,Go.Instr.findAsking]
  grind [Q3w]
theorem Qbao {kt:TypeId} {ks:List CK} (hd:∃ d,P.underlying kt=some d∧((∃ n e,d = .array n e)∨∃ fs,d = .struct fs)) (hks:Qle P kt=some (ks.map CK.code))
  (hcheck:∀ (em:Bool) {cs:List V} {us:List Value},okCs ks cs=true→RFs g w cs us→(Instr.checkKey em 10000 kt (.agg us.toArray)).run P w = .ok () w):KLaw P g w kt (.st ks) :=
 Q8f P hd (fun o1 o2 q1 q2=>(Q77 P kt hks (Qf3 q1) (fun j c x hc hx=>Qnh q1 j c x hc hx) (Qf3 q2) (fun j c x hc hx=>Qnh q2 j c x hc hx) (Qxm o1 o2)).1) hcheck
theorem Q0g {t:TypeId} {c:CK} (hc:Qk9 P t=some c) (em:Bool) (n:Nat) {v:V} {u:Value} (hv:c.ok v=true) (hr:RF g w v u):(Instr.checkKey em (n+1) t u).run P w = .ok () w:=by
 unfold Qk9 at hc;split at hc<;>cases hc
 all_goals
  rename_i ht;rcases Qxl hv hr with ⟨n,k,e,rfl,rfl⟩|⟨s,e,rfl,rfl⟩|⟨b,e,rfl,rfl⟩<;>cases e;refine run_checkKey ht ?_ em _;simp [IsKey]
theorem Qwb {em : Bool} {n : Nat} {X : Array Value} {body : Field → PUnit → Sem (ForInStep PUnit)} (hb : ∀ (f : Field) (u : Value), f.name ≠ "_" → (part f.type X f.offset).run P w = .ok u w → (Instr.checkKey em (n + 1) f.type u).run P w = .ok () w → (body f PUnit.unit).run P w = .ok (.yield PUnit.unit) w) :
  ∀ (fs:List Field) (i:Nat) (ks:List CK) (codes:List Nat) (cs:List V),fs.mapM (fun f=>Qk9 P f.type)=some ks→Qgl P i fs=some codes→okCs ks cs=true →
  (∀ (j:Nat) (c:V),cs[j]? = some c→∃ u,X[i+j]? = some u∧RF g w c u)→(forIn fs PUnit.unit body).run P w = .ok PUnit.unit w
 | [],i,ks,codes,cs,_,_,_,_=>by simp
 | f::fs,i,ks,codes,cs,hm,hf,ho,hx=>by
  simp only [List.mapM_cons,Option.bind_eq_bind,Option.bind_eq_some_iff,Option.pure_def,Option.some.injEq] at hm;obtain ⟨k,hk,ks',hm,rfl⟩:=hm;simp only [Qgl] at hf;split at hf<;>try (cases hf;done)
  rename_i hn;split at hf<;>try (cases hf;done)
  rename_i c1 cs1 hc1 hc2;cases cs with
  | nil=>simp [okCs] at ho
  | cons c cs =>
   simp only [okCs,Bool.and_eq_true] at ho;obtain ⟨u,hu,ru⟩:=hx 0 c rfl;have hp:=Qp7 (w:=w) P (Qnk P hk) (Z:=X) (o:=f.offset) (u:=u) (by rw [hn.1];exact hu);have hck:=Q0g (g:=g) (w:=w) P hk em n ho.1 ru;have ih:=Qwb hb fs (i+1) ks' cs1 cs hm hc2 ho.2 fun j c' hc'=>by
    obtain ⟨u',h1,h2⟩:=hx (j+1) c' (by simpa using hc')
    grind
   simp_all
theorem Q18 {em:Bool} {n:Nat} {X:Array Value} {e:TypeId} {k:CK} (hk:Qk9 P e=some k) {body:Nat→PUnit→Sem (ForInStep PUnit)} (hb:∀ (j:Nat) (u:Value),(part e X j).run P w = .ok u w→(Instr.checkKey em (n+1) e u).run P w = .ok () w→(body j PUnit.unit).run P w = .ok (.yield PUnit.unit) w) :
  ∀ (m i:Nat) (cs:List V),okCs (List.replicate m k) cs=true →
  (∀ (j:Nat) (c:V),cs[j]? = some c→∃ u,X[i+j]? = some u∧RF g w c u)→(forIn (List.range' i m) PUnit.unit body).run P w = .ok PUnit.unit w
 | 0,i,cs,_,_=>by simp
 | m+1,i,cs,ho,hx=>by
  cases cs with
  | nil=>simp [List.replicate_succ,okCs] at ho
  | cons c cs =>
   simp only [List.replicate_succ,okCs,Bool.and_eq_true] at ho;obtain ⟨u,hu,ru⟩:=hx 0 c rfl;have hp:=Qp7 (w:=w) P (Qnk P hk) (Z:=X) (o:=i) (u:=u) hu;have hck:=Q0g (g:=g) (w:=w) P hk em n ho.1 ru;have ih:=Q18 hk hb m (i+1) cs ho.2 fun j c' hc'=>by
    obtain ⟨u',h1,h2⟩:=hx (j+1) c' (by simpa using hc')
    grind
   grind [List.range'_succ,Go.Sem.run_bind,Go.Result.andThen_ok]
theorem Qyq:∀ (l:List Field) (i:Nat) (ks:List CK) (codes:List Nat),l.mapM (fun f=>Qk9 P f.type)=some ks→Qgl P i l=some codes→codes=ks.map CK.code
 | [],i,ks,codes,hks,hfk=>by grind [Qgl]
 | f::l,i,ks,codes,hks,hfk=>by
  simp only [List.mapM_cons,Option.bind_eq_bind,Option.bind_eq_some_iff,Option.pure_def,Option.some.injEq] at hks;obtain ⟨k,hk,ks',hks,rfl⟩:=hks;simp only [Qgl] at hfk;split at hfk<;>try (cases hfk;done)
  split at hfk<;>try (cases hfk;done)
  rename_i c1 cs1 hc1 hc2;cases hfk;rw [Qnk P hk] at hc1;cases hc1;rw [Qyq l _ ks' cs1 hks hc2];cases k<;>rfl
theorem Q55 {t:TypeId} {fs:Array Field} (hd:P.underlying t=some (.struct fs)) {ks:List CK} {codes:List Nat} (hks:fs.toList.mapM (fun f=>Qk9 P f.type)=some ks) (hfk:Qgl P 0 fs.toList=some codes) (em:Bool) (n:Nat) {cs:List V} {us:List Value} (ho:okCs ks cs=true) (hr:RFs g w cs us) :
  (Instr.checkKey em (n+2) t (.agg us.toArray)).run P w = .ok () w:=by
 show (Instr.checkKey em ((n+1)+1) t _).run P w=_;unfold Instr.checkKey;simp only [Sem.run_bind,run_underlying hd,Result.andThen_ok];rw [← Array.forIn_toList];refine (congrArg (fun r=>Result.andThen r _) (Qwb (g:=g) (em:=em) (n:=n) (X:=us.toArray) P (fun f u hn hp hck=>?_) fs.toList 0 ks codes cs hks hfk ho fun j c hc=>?_)).trans rfl
 ·simp_all
 ·have hl:=Qf3 hr;have hj:j<cs.length:=(List.getElem?_eq_some_iff.1 hc).1;exact ⟨us[j]'(by omega),by simp,Qnh hr j c _ hc (by simp)⟩
theorem Qxn:∀ {ks r:List CK} {cs:List V},okCs (ks++r) cs=true→okCs ks (cs.take ks.length)=true∧okCs r (cs.drop ks.length)=true
 | [],r,cs,h=>by simpa [okCs] using h
 | k::ks,r,[],h=>by simp [okCs] at h
 | k::ks,r,c::cs,h=>by
  simp only [List.cons_append,okCs,Bool.and_eq_true] at h;obtain ⟨h1,h2⟩:=Qxn h.2;simp only [List.length_cons,List.take_succ_cons,List.drop_succ_cons,okCs,Bool.and_eq_true];exact ⟨⟨h.1,h1⟩,h2⟩
theorem Q09:∀ (n:Nat) {cs cs' : List V},n≤cs.length→n≤cs'.length→Qhy cs cs'=(Qhy (cs.take n) (cs'.take n)&&Qhy (cs.drop n) (cs'.drop n))
 | 0,cs,cs',_,_=>by simp [Qhy]
 | n+1,[],_,h,_=>by simp at h
 | n+1,_::_,[],_,h=>by simp at h
 | n+1,c::cs,c'::cs',h,h'=>by
  simp only [List.take_succ_cons,List.drop_succ_cons,Qhy,Bool.and_assoc];rw [← Q09 n (by simpa using h) (by simpa using h')]
theorem Q4z {t:TypeId} {fs:Array Field} (ht:P.underlying t=some (.struct fs)) {n:Nat} (hn:P.cellsOf t=n) (Z:Array Value) (o:Nat):(part t Z o).run P w = .ok (.agg (Z.extract o (o+n))) w:=by
 obtain ⟨i,hi⟩:=Qf5 P ht;have hA:Qgp P t=true:=by simp [Qgp,ht]
 simp [part,Qp5 P ht,hA,Qf4 P hi,← hn,Qdx P hi]
theorem Qbf0 {cs:List V} {us:List Value} (hl:us.length=cs.length) (h:∀ (j:Nat) c u,cs[j]? = some c→us[j]? = some u→RF g w c u):RFs g w cs us:=by
 induction cs generalizing us with
 | nil=>simp [RFs];exact List.eq_nil_of_length_eq_zero hl
 | cons c cs ih =>
  cases us with
  | nil=>simp at hl
  | cons u us=>exact ⟨u,us,rfl,h 0 c u rfl rfl,ih (by simpa using hl) fun j c u hc hu=>h (j+1) c u (by simpa using hc) (by simpa using hu)⟩
theorem Q19 {X:Array Value} {i n:Nat} {cs:List V} (hn:n≤cs.length) (hx:∀ (j:Nat) (c:V),cs[j]? = some c→∃ u,X[i+j]? = some u∧RF g w c u):RFs g w (cs.take n) (X.extract i (i+n)).toList:=by
 rcases Nat.eq_zero_or_pos n with rfl|h0
 ·simp [RFs]
 have hX:i+n≤X.size:=by
  obtain ⟨u,hu,_⟩:=hx (n-1) (cs[n-1]'(by omega)) (by simp);have:=(Array.getElem?_eq_some_iff.1 hu).1;omega
 refine Qbf0 (by simp;omega) fun j c u hc hu=>?_;have hj:j<n:=by
  have:=(List.getElem?_eq_some_iff.1 hc).1;simp at this;omega
 obtain ⟨u',hu',hr⟩:=hx j c (by simpa [List.getElem?_take,hj] using hc);have:u=u':=by
  have h1:(X.extract i (i+n))[j]? = some u:=by rw [Array.getElem?_toList] at hu;exact hu
  rw [Array.getElem?_extract] at h1;split at h1
  ·rw [hu'] at h1;exact (Option.some.inj h1).symm
  ·cases h1
 rw [this];exact hr
theorem Qub (d:Nat) (X Y:Array Value):∀ (fs:List Field) (i:Nat) (ks:List CK) (cs cs' : List V),Qjr P i fs=some ks→okCs ks cs=true→okCs ks cs'=true →
  (∀ (j:Nat) (c:V),cs[j]? = some c→∃ u,X[i+j]? = some u∧RF g w c u)→(∀ (j:Nat) (c:V),cs'[j]? = some c→∃ u,Y[i+j]? = some u∧RF g w c u)→(Op.eqFields (d+2) X Y fs).run P w = .ok (Qhy cs cs') w
 | [],i,ks,cs,cs',hk,ho,ho',_,_=>by
  simp only [Qjr,Option.some.injEq] at hk;subst hk;cases cs<;>cases cs'<;>simp_all [okCs,Qhy,Op.eqFields]
 | f::fs,i,ks,cs,cs',hk,ho,ho',hx,hy=>by
  simp only [Qjr] at hk;split at hk<;>try (cases hk;done)
  rename_i hf;split at hk
  ·rename_i c hc;simp only [Option.map_eq_some_iff] at hk;obtain ⟨r,hr,rfl⟩:=hk;cases cs with
   | nil=>simp [okCs] at ho
   | cons x xs =>
    cases cs' with
    | nil=>simp [okCs] at ho'
    | cons y ys =>
     simp only [okCs,Bool.and_eq_true] at ho ho';obtain ⟨u,hu,ru⟩:=hx 0 x rfl;obtain ⟨v,hv,rv⟩:=hy 0 y rfl;have ih:=Qub d X Y fs (i+1) r xs ys hr ho.2 ho'.2 (fun j c' h=>by
      obtain ⟨u',h1,h2⟩:=hx (j+1) c' (by simpa using h);exact ⟨u',by rw [← h1];congr 1;omega,h2⟩) (fun j c' h=>by
      obtain ⟨u',h1,h2⟩:=hy (j+1) c' (by simpa using h);exact ⟨u',by rw [← h1];congr 1;omega,h2⟩)
     have hsk:Qhz P f.type=some (CK.code c):=by rw [Qnk P hc];cases c<;>rfl
     have he:=Qxm (ks:=[c]) (xs:=[x]) (ys:=[y]) (by simp [okCs,ho.1]) (by simp [okCs,ho'.1]);have hq:=Qbaf (g:=g) (w:=w) P (d+1) hsk he ru rv;have p1:=Qp7 (w:=w) P hsk (Z:=X) (o:=f.offset) (u:=u) (by rw [hf.1];exact hu);have p2:=Qp7 (w:=w) P hsk (Z:=Y) (o:=f.offset) (u:=v) (by rw [hf.1];exact hv);simp only [Op.eqFields,hf.2,ne_eq,not_false_eq_true,if_true,Sem.run_bind,p1,p2,Result.andThen_ok,hq,Qhy,Bool.and_true];cases Qhs x y
     ·simp
     ·simpa using ih
  ·split at hk<;>try (cases hk;done)
   rename_i gs hgs;split at hk<;>try (cases hk;done)
   rename_i hg;split at hk<;>try (cases hk;done)
   rename_i ks1 codes r hks1 hcodes hr;cases hk;have hkl:ks1.length=gs.size:=by
    have:=Qim hks1;simpa using this.1
   obtain ⟨o1,o2⟩:=Qxn ho;obtain ⟨o1',o2'⟩:=Qxn ho';have hcl:=Qua ho;have hcl':=Qua ho';rw [List.length_append] at hcl hcl';have ih:=Qub d X Y fs (i+gs.size) r (cs.drop ks1.length) (cs'.drop ks1.length) hr o2 o2' (fun j c' h=>by
    obtain ⟨u',h1,h2⟩:=hx (ks1.length+j) c' (by simpa using h);exact ⟨u',by rw [← h1];congr 1;omega,h2⟩) (fun j c' h=>by
    obtain ⟨u',h1,h2⟩:=hy (ks1.length+j) c' (by simpa using h);exact ⟨u',by rw [← h1];congr 1;omega,h2⟩)
   have q1:=Q19 (n:=ks1.length) (by omega) hx;have q2:=Q19 (n:=ks1.length) (by omega) hy;have p1:=Q4z (w:=w) P hgs (hg.2.trans hkl.symm) X i;have p2:=Q4z (w:=w) P hgs (hg.2.trans hkl.symm) Y i;have hfo:P.fieldsOf f.type=gs:=by simp [Program.fieldsOf,hgs]
   have hcc:=Qyq P gs.toList 0 ks1 codes hks1 hcodes;have hq:(Op.equalIn (d+2) f.type (.agg (X.extract i (i+ks1.length))) (.agg (Y.extract i (i+ks1.length)))).run P w = .ok (Qhy (cs.take ks1.length) (cs'.take ks1.length)) w:=by
    rw [run_equalIn_struct (P:=P) w (d+1) f.type _ _ (by rw [hfo];exact hgs) hg.1,hfo];have l1:=Qf3 q1;have l2:=Qf3 q2;rw [Array.length_toList] at l1 l2;refine Qv7 P d _ _ gs.toList 0 codes _ _ _ hcodes (by rw [hcc];exact Qxm o1 o1') (fun j c u hc hu=>Qnh q1 j c u hc (by rw [Array.getElem?_toList,← hu,Nat.zero_add])) (fun j c u hc hu=>Qnh q2 j c u hc (by rw [Array.getElem?_toList,← hu,Nat.zero_add])) (by omega) (by omega)
   rw [hf.1.symm] at p1 p2 hq;simp only [Op.eqFields,hf.2,ne_eq,not_false_eq_true,if_true,Sem.run_bind,p1,p2,Result.andThen_ok,hq];have hsp:=Q09 ks1.length (cs:=cs) (cs':=cs') (by omega) (by omega);rw [hsp];cases Qhy (cs.take ks1.length) (cs'.take ks1.length)
   ·simp
   ·simpa using ih
theorem Quc {em : Bool} {n : Nat} {X : Array Value} {body : Field → PUnit → Sem (ForInStep PUnit)} (hb : ∀ (f : Field) (u : Value), f.name ≠ "_" → (part f.type X f.offset).run P w = .ok u w → (Instr.checkKey em (n + 2) f.type u).run P w = .ok () w → (body f PUnit.unit).run P w = .ok (.yield PUnit.unit) w) :
  ∀ (fs:List Field) (i:Nat) (ks:List CK) (cs:List V),Qjr P i fs=some ks→okCs ks cs=true →
  (∀ (j:Nat) (c:V),cs[j]? = some c→∃ u,X[i+j]? = some u∧RF g w c u)→(forIn fs PUnit.unit body).run P w = .ok PUnit.unit w
 | [],i,ks,cs,_,_,_=>by simp
 | f::fs,i,ks,cs,hk,ho,hx=>by
  simp only [Qjr] at hk;split at hk<;>try (cases hk;done)
  rename_i hf;split at hk
  ·rename_i c hc;simp only [Option.map_eq_some_iff] at hk;obtain ⟨r,hr,rfl⟩:=hk;cases cs with
   | nil=>simp [okCs] at ho
   | cons x xs =>
    simp only [okCs,Bool.and_eq_true] at ho;obtain ⟨u,hu,ru⟩:=hx 0 x rfl;have ih:=Quc hb fs (i+1) r xs hr ho.2 fun j c' h=>by
     obtain ⟨u',h1,h2⟩:=hx (j+1) c' (by simpa using h);exact ⟨u',by rw [← h1];congr 1;omega,h2⟩
    have hp:=Qp7 (w:=w) P (Qnk P hc) (Z:=X) (o:=f.offset) (u:=u) (by rw [hf.1];exact hu);have hck:=Q0g (g:=g) (w:=w) P hc em (n+1) ho.1 ru
    simp_all
  ·split at hk<;>try (cases hk;done)
   rename_i gs hgs;split at hk<;>try (cases hk;done)
   rename_i hg;split at hk<;>try (cases hk;done)
   rename_i ks1 codes r hks1 hcodes hr;cases hk;have hkl:ks1.length=gs.size:=by
    have:=Qim hks1;simpa using this.1
   obtain ⟨o1,o2⟩:=Qxn ho;have hcl:=Qua ho;rw [List.length_append] at hcl;have ih:=Quc hb fs (i+gs.size) r (cs.drop ks1.length) hr o2 fun j c' h=>by
    obtain ⟨u',h1,h2⟩:=hx (ks1.length+j) c' (by simpa using h);exact ⟨u',by rw [← h1];congr 1;omega,h2⟩
   have q1:=Q19 (n:=ks1.length) (by omega) hx;have p1:=Q4z (w:=w) P hgs (hg.2.trans hkl.symm) X i;have hck:=Q55 (g:=g) (w:=w) P hgs hks1 hcodes em n o1 q1;simp only [Array.toArray_toList] at hck;have hbd:=hb f _ hf.2 (by rw [hf.1];exact p1) hck
   simp_all
theorem Q2a {kt:TypeId} {kd:MK} (h:Q4p P kt=some kd):KLaw P g w kt kd:=by
 unfold Q4p at h;split at h<;>try (cases h;done)
 ·rename_i k hd;cases h;refine Q4y P hd (fun v u hv hr=>?_) fun {v v' u u'} h1 h2 r1 r2=>?_
  ·cases v<;>simp [MK.ok] at hv;rename_i x;cases x<;>simp [MK.ok] at hv;have:=Qov hr;subst this;exact hv
  ·have ck:∀ v,(MK.int k).ok v=true→(CK.int k).ok v=true∧∀ v',Qea v v'=Qhs v v':=by
    intro v h;cases v with
    | d x=>cases x<;>simp [MK.ok] at h<;>exact ⟨by simp [CK.ok,h],fun v'=>by cases v'<;>rfl⟩
    | _=>simp [MK.ok] at h
   grind [Qzh]
 ·rename_i hd;cases h;refine Q4y P hd (fun v u hv hr=>?_) fun {v v' u u'} h1 h2 r1 r2=>?_
  ·cases v<;>simp [MK.ok] at hv;rename_i x;cases x<;>simp [MK.ok] at hv;have:=Q9d hr;subst this;trivial
  ·have ck:∀ v,(MK.str).ok v=true→(CK.str).ok v=true∧∀ v',Qea v v'=Qhs v v':=by
    intro v h;cases v with
    | d x=>cases x<;>simp [MK.ok] at h<;>exact ⟨by simp [CK.ok,h],fun v'=>by cases v'<;>rfl⟩
    | _=>simp [MK.ok] at h
   grind [Qzh]
 ·rename_i hd;cases h;refine Q4y P hd (fun v u hv hr=>?_) fun {v v' u u'} h1 h2 r1 r2=>?_
  ·cases v<;>simp [MK.ok] at hv;rename_i x;cases x<;>simp [MK.ok] at hv;have:=Q05 hr;subst this;trivial
  ·have ck:∀ v,(MK.bool).ok v=true→(CK.bool).ok v=true∧∀ v',Qea v v'=Qhs v v':=by
    intro v h;cases v with
    | d x=>cases x<;>simp [MK.ok] at h<;>exact ⟨by simp [CK.ok,h],fun v'=>by cases v'<;>rfl⟩
    | _=>simp [MK.ok] at h
   grind [Qzh,bool]
 ·rename_i fs hd;split at h
  case isFalse =>
   split at h<;>try (cases h;done)
   rename_i hsh;simp only [Option.map_eq_some_iff] at h;obtain ⟨ks,hks,rfl⟩:=h;have reads:∀ {cs:List V} {us:List Value},RFs g w cs us→∀ (j:Nat) (c:V),cs[j]? = some c→∃ u,us.toArray[0+j]? = some u∧RF g w c u:=fun {cs us} hr j c hc=>by
    have hl:=Qf3 hr;have hj:j<cs.length:=(List.getElem?_eq_some_iff.1 hc).1;exact ⟨us[j]'(by omega),by simp,Qnh hr j c _ hc (by simp)⟩
   have hfo:P.fieldsOf kt=fs:=by simp [Program.fieldsOf,hd]
   refine Q8f P ⟨_,hd,.inr ⟨_,rfl⟩⟩ (fun {cs cs' us us'} o1 o2 q1 q2=>?_) fun em cs us ho hr=>?_
   ·show (Op.equalIn (9999+1) kt _ _).run P w=_;rw [run_equalIn_struct (P:=P) w 9999 kt _ _ (by rw [hfo];exact hd) hsh,hfo];exact Qub (g:=g) P 9997 _ _ fs.toList 0 ks cs cs' hks o1 o2 (reads q1) (reads q2)
   ·show (Instr.checkKey em (9999+1) kt _).run P w=_;unfold Instr.checkKey;simp only [Sem.run_bind,run_underlying hd,Result.andThen_ok];rw [← Array.forIn_toList];refine (congrArg (fun r=>Result.andThen r _) (Quc (g:=g) (em:=em) (n:=9997) (X:=us.toArray) P (fun f u hn hp hck=>?_) fs.toList 0 ks cs hks ho (reads hr))).trans rfl
    simp_all
  rename_i he;obtain ⟨codes,hcodes⟩:=Option.isSome_iff_exists.1 he;simp only [Option.map_eq_some_iff] at h;obtain ⟨ks,hks,rfl⟩:=h;have hfk:Qgl P 0 fs.toList=some codes:=by
   grind [Qle]
  have hcc:codes=ks.map CK.code:=Qyq P fs.toList 0 ks codes hks hfk;refine Qbao P ⟨_,hd,.inr ⟨_,rfl⟩⟩ (by rw [hcodes,hcc]) fun em cs us ho hr=>?_;show (Instr.checkKey em (9999+1) kt _).run P w=_;unfold Instr.checkKey;simp only [Sem.run_bind,run_underlying hd,Result.andThen_ok];rw [← Array.forIn_toList];refine (congrArg (fun r=>Result.andThen r _) (Qwb (g:=g) (em:=em) (n:=9998) (X:=us.toArray) P (fun f u hn hp hck=>?_) fs.toList 0 ks codes cs hks hfk ho fun j c hc=>?_)).trans rfl
  ·simp_all
  ·have hl:=Qf3 hr;have hj:j<cs.length:=(List.getElem?_eq_some_iff.1 hc).1;exact ⟨us[j]'(by omega),by simp,Qnh hr j c _ hc (by simp)⟩
 ·rename_i n e hd;split at h<;>try (cases h;done)
  rename_i he;obtain ⟨codes,hcodes⟩:=Option.isSome_iff_exists.1 he;simp only [Option.map_eq_some_iff] at h;obtain ⟨k,hk,rfl⟩:=h;unfold Qle at hcodes;rw [hd] at hcodes;simp only at hcodes;split at hcodes<;>try (cases hcodes;done)
  rename_i hg;simp only [Option.map_eq_some_iff] at hcodes;obtain ⟨sk,hsk,rfl⟩:=hcodes;obtain ⟨i0,hi⟩:=Option.isSome_iff_exists.1 hg.1;have h1:i0.size=1:=by grind [Go.Program.cellsOf]
  refine Qbao P ⟨_,hd,.inl ⟨_,_,rfl⟩⟩ ?_ fun em cs us ho hr=>?_
  ·unfold Qle;rw [hd];simp only [if_pos hg,Qnk P hk,Option.map_some,List.map_replicate];cases k<;>rfl
  ·show (Instr.checkKey em (9999+1) kt _).run P w=_;unfold Instr.checkKey;simp only [Sem.run_bind,run_underlying hd,Result.andThen_ok];simp only [Std.Legacy.Range.forIn_eq_forIn_range',Std.Legacy.Range.size,Nat.sub_zero,Nat.add_one_sub_one,Nat.div_one];refine (congrArg (fun r=>Result.andThen r _) (Q18 (g:=g) (em:=em) (n:=9998) (X:=us.toArray) P hk (fun j u hp hck=>?_) n 0 cs ho fun j c hc=>?_)).trans rfl
   ·simp only [Sem.run_bind,Qf4 P hi,h1,Nat.mul_one,hp,Result.andThen_ok,hck,Sem.run_pure]
   ·have hl:=Qf3 hr;have hj:j<cs.length:=(List.getElem?_eq_some_iff.1 hc).1;exact ⟨us[j]'(by omega),by simp,Qnh hr j c _ hc (by simp)⟩
theorem Qbd5 {v:V} {u:Value} {ℓ:Owner} (hd:v.dat=true) (h:RV g w v ℓ u):RF g w v u:=fun _=>Qu8 (Imm.refl _ _) hd h
theorem Q56 {k:Nat} {es:List (V×V×Nat)} {ents:List MapEntry} (h:RM g w k es ents):ents.length=es.length:=by
 induction es generalizing ents with
 | nil=>grind [RM]
 | cons x r ih=>simp only [RM] at h;grind
theorem Q3x {key:V}:∀ {es:List (V×V×Nat)},(∀ x∈es,Qea key x.1=false)→Qg1 key es=none
 | [],_=>rfl
 | (k,v,b)::es,h=>by
  have h1:Qea key k=false:=h (k,v,b) (by simp);simp [Qg1,h1,Q3x fun x hx=>h x (List.mem_cons_of_mem _ hx)]
theorem Q8g {key:V}:∀ {es:List (V×V×Nat)} {j:Nat} {x:V×V×Nat},es[j]? = some x→Qea key x.1=true→(∀ i y,i<j→es[i]? = some y→Qea key y.1=false)→Qg1 key es=some (j,x.2.1)
 | [],j,x,h,_,_=>by simp at h
 | (k,v,b)::es,0,x,h,h1,_=>by
  grind [Qg1]
 | (k,v,b)::es,j+1,x,h,h1,h2=>by
  have h3:Qea key k=false:=h2 0 (k,v,b) (by omega) rfl;have:=Q8g (key:=key) (es:=es) (j:=j) (x:=x) (by simpa using h) h1 fun i y hi hy=>h2 (i+1) y (by omega) (by simpa using hy);simp [Qg1,h3,this]
theorem Qbc9 {k:Nat}:∀ {es:List (V×V×Nat)} {ents:List MapEntry},RM g w k es ents→∀ (i:Nat) (x:V×V×Nat),es[i]? = some x→∃ e,ents[i]? = some e∧RF g w x.1 e.key∧x.2.1.mv=true∧RV g w x.2.1 (.cell k x.2.2) e.val∧e.born=x.2.2
 | [],_,h,i,x,hx=>by simp at hx
 | y::r,_,h,0,x,hx=>by
  simp only [RM] at h;obtain ⟨e,t,rfl,⟨a1,a2⟩,⟨b1,b2⟩,h3,h4⟩:=h;simp at hx;subst hx;exact ⟨e,rfl,Qbd5 a1 a2,b1,b2,h3⟩
 | y::r,_,h,i+1,x,hx=>by
  simp only [RM] at h;obtain ⟨e,t,rfl,_,_,_,h4⟩:=h;simpa using Qbc9 h4 i x (by simpa using hx)
theorem Q2b {kt:TypeId} {kd:MK} (hl:KLaw P g w kt kd) {key:V} {u:Value} (hkey:kd.ok key=true) (hu:RF g w key u) {k:Nat} {es:List (V×V×Nat)} {ents:List MapEntry} (hr:RM g w k es ents) (ha:kd.all es=true) :
  (Qg1 key es=none∧(Instr.findKey kt u ents).run P w = .ok none w) ∨
  ∃ (j:Nat) (v:V) (e:MapEntry) (x:V×V×Nat),Qg1 key es=some (j,v)∧es[j]? = some x∧x.2.1=v∧ents[j]? = some e∧e.key=u∧e.born=x.2.2∧(Instr.findKey kt u ents).run P w = .ok (some (j,e.val)) w∧v.mv=true∧RV g w v (.cell k x.2.2) e.val:=by
 have hlen:=Q56 hr;have hz:((es.map (·.1)).zip ents).map (·.2)=ents:=by
  rw [List.map_snd_zip];simp [hlen]
 have hzi:∀ (i:Nat) (p:V×MapEntry),((es.map (·.1)).zip ents)[i]? = some p→∃ x,es[i]? = some x∧x.1=p.1∧ents[i]? = some p.2∧kd.ok p.1=true∧RF g w p.1 p.2.key:=by
  intro i p hp;rw [List.getElem?_zip_eq_some] at hp;obtain ⟨h1,h2⟩:=hp;rw [List.getElem?_map,Option.map_eq_some_iff] at h1;obtain ⟨x,hx,e1⟩:=h1;obtain ⟨e,h3,h4,_⟩:=Qbc9 hr i x hx;rw [h2] at h3;cases h3;refine ⟨x,hx,e1,h2,?_,by rw [← e1];exact h4⟩;rw [← e1];exact List.all_eq_true.1 ha x (List.mem_of_getElem? hx)
 have hal:∀ p∈(es.map (·.1)).zip ents,kd.ok p.1=true∧RF g w p.1 p.2.key:=by
  grind [List.getElem?_of_mem]
 have hne:∀ (i:Nat) (x:V×V×Nat),es[i]? = some x→(∀ p,((es.map (·.1)).zip ents)[i]? = some p→p.2.key≠u)→Qea key x.1=false:=by
  intro i x hx hq;obtain ⟨e,h3,h4,_⟩:=Qbc9 hr i x hx;have hp:((es.map (·.1)).zip ents)[i]? = some (x.1,e):=by
   grind
  obtain ⟨_,_,_,_,h5,h6⟩:=hzi i _ hp;cases hk:Qea key x.1 with
  | false=>rfl
  | true=>exact absurd ((hl.same hkey h5 hu h6).1 hk).symm (hq _ hp)
 rcases hl.find _ hkey hu hal with ⟨h1,h2⟩|⟨j,p,h1,h2,h3,h4⟩
 ·grind [Q3x,List.getElem?_of_mem,List.mem_of_getElem?]
 ·rw [hz] at h1;obtain ⟨x,k1,k2,k3,k4,k5⟩:=hzi j p h2;obtain ⟨e,q1,q2,q3,q4,q5⟩:=Qbc9 hr j x k1;rw [k3] at q1;cases q1;refine .inr ⟨j,x.2.1,p.2,x,Q8g k1 ?_ fun i y hi hy=>hne i y hy fun q hq=>h4 i q hi hq,k1,rfl,k3,h3,q5,h1,q3,q4⟩;rw [k2];exact (hl.same hkey k4 hu k5).2 h3.symm
theorem Qbap {vs:List V} {us:List Value} (h:RFs g w vs us):RF g w (.tup vs) (.tuple us.toArray):=by
 intro ℓ;simp only [RV];exact ⟨us,rfl,(Qci _ _ _ _).2 ⟨Qf3 h,fun i c u hc hu=>Qnh h i c u hc hu _⟩⟩
theorem Qzi {v:V} {u:Value} (h:RF g w v u):RF g w (Qv3 v) u:=by
 cases v<;>try exact h
 rename_i sz;have:=h .free;simp only [RV] at this;obtain ⟨a,rfl⟩:=this;rw [Qv3,RF_d];simp [RD]
theorem Q57 {t:TypeId} {z:V} (h:Q74 P t=some z):∃ zv,(zeroValue t).run P w = .ok zv w∧RF g w z zv:=by
 unfold Q74 at h;split at h<;>try (cases h;done)
 ·rename_i cs arr hz hi;cases h;obtain ⟨i,zv,h1,h2,h3,_⟩:=Qji P hz;rw [h1] at hi;simp only [Option.bind_some] at hi;rw [h2] at hi;cases hi;refine ⟨_,Qpj P h1 h2 w,fun ℓ=>?_⟩;have hc:=h3 g w;simp only [RV];refine ⟨arr.toList,by simp,(Qci _ _ _ _).2 ⟨by rw [List.length_map];exact hc.len,fun j c u hj hu=>?_⟩,hc.one⟩;rw [List.getElem?_map,Option.map_eq_some_iff] at hj;obtain ⟨c',hj',rfl⟩:=hj;exact Qzi (hc.rf j c' u hj' hu) _
 ·rename_i c zv hna hz hi;cases h;obtain ⟨i,zv',h1,h2,h3,_⟩:=Qji P hz;rw [h1] at hi;simp only [Option.bind_some] at hi;rw [h2] at hi;cases hi;refine ⟨_,Qpj P h1 h2 w,?_⟩;have hc:=h3 g w;have hcells:zv.cells.toList=[zv]:=by
   grind [absurd,Go.Value.cells]
  rw [hcells] at hc;exact Qzi (hc.rf 0 _ _ rfl rfl)
theorem Qqa {t:TypeId} {kt:TypeId} {kd:MK} {z:V} (h:Qla P t=some (kt,kd,z)):∃ e,P.underlying t=some (.map kt e)∧Q4p P kt=some kd∧Q74 P e=some z∧(z.dat=true∨Q9z P e=true):=by
 unfold Qla at h
 grind
theorem Q7m {k:Nat} {u:Value} (h:RF g w (.mp k) u):u = .map (some (g.box k)):=by
 have:=h .free;simpa [RV] using this
theorem Qbez (t ty:TypeId) {k e:TypeId} (ht:P.underlying t=some (.map k e)) {M:Mem} {nb:Nat} (hM:MR g w M nb) {x v:V} {u:Value} {n0 κ:Nat} {M' : Mem} (hx:RF g w x u) (hs:Qm n0 κ .lenm [x] M=some (v,M')) :
  M'=M∧∃ val,(Builtin.len_ #[t] ty #[u]).run P w = .ok val w∧RF g w v val:=by
 obtain ⟨rfl,⟨b,es,c,hxs,hMk,rfl⟩|⟨es,c,hxs,rfl⟩⟩:=Q4w hs
 ·cases hxs;have hu:=Q7m hx;subst hu;obtain ⟨_,_,ents,hh,hr⟩:=hM.box b _ hMk;refine ⟨rfl,goInt es.length,?_,by rw [RF_d];simp [RD,goInt]⟩;simp [Builtin.len_,run_underlying ht,MapKept.run_getObj_map hh,Result.andThen,Q56 hr]
 ·cases hxs;rw [RF_d] at hx;simp only [RD] at hx;obtain ⟨b,rfl,_,hh⟩:=hx;refine ⟨rfl,goInt es.length,?_,by rw [RF_d];simp [RD,goInt]⟩;simp [Builtin.len_,run_underlying ht,MapKept.run_getObj_map (Q4q hh),Result.andThen]
theorem Qbaq {g:G} {w:World} {ℓ:Owner} {u:Value} (h:(Qn3 u).dat1=true):RV g w (Qn3 u) ℓ u∧u.oneCell'=true:=by
 cases u<;>simp [Qn3,V.dat1] at h<;>exact ⟨by simp [Qn3,RV,RD],rfl⟩
theorem Q3y {g:G} {w:World} {ℓ:Owner}:∀ {us:List Value} {i:Nat},(us.map Qn3).all V.dat1=true→RVs g w (us.map Qn3) ℓ i us∧∀ u∈us,u.oneCell'=true
 | [],_,_=>by simp [RVs]
 | u::us,i,h=>by
  simp only [List.map_cons,List.all_cons,Bool.and_eq_true] at h;obtain ⟨h1,h2⟩:=Q3y (g:=g) (w:=w) (ℓ:=ℓ) (us:=us) (i:=i+1) h.2;obtain ⟨k1,k2⟩:=Qbaq (g:=g) (w:=w) (ℓ:=ℓ.sub i) h.1;refine ⟨⟨u,us,rfl,k1,h1⟩,fun x hx=>?_⟩
  grind
theorem Q8h {g:G} {w:World} {ℓ:Owner} {u:Value} (h:(Qvi u).dat=true):RV g w (Qvi u) ℓ u:=by
 cases u with
 | agg vs =>
  obtain ⟨h1,h2⟩:=Q3y (g:=g) (w:=w) (ℓ:=ℓ) (us:=vs.toList) (i:=0) h
  grind [Qvi,RV]
 | _=>grind [Qvi,Qn3,V.dat,RV,RD]
theorem Qbf1 {c:CK} {v:V} (h:c.ok v=true):v.dat1=true:=by
 cases v with
 | d x=>rfl
 | _=>cases c<;>simp [CK.ok] at h
theorem Q8i:∀ {ks:List CK} {cs:List V},okCs ks cs=true→cs.all V.dat1=true
 | [],[],_=>rfl
 | k::ks,c::cs,h=>by simp only [okCs,Bool.and_eq_true] at h;simp [Qbf1 h.1,Q8i h.2]
 | [],_::_,h=>by simp [okCs] at h
 | _::_,[],h=>by simp [okCs] at h
theorem Qbar {kd:MK} {v:V} (h:kd.ok v=true):v.dat=true:=by
 cases v with
 | d x=>rfl
 | agg cs =>
  cases kd<;>simp [MK.ok] at h;exact Q8i h
 | _=>cases kd<;>simp [MK.ok] at h
theorem Qbas {g:G} {w:World} {kd:MK} {k:Nat}:∀ {ents:List MapEntry},kd.all (ents.map entV)=true→((ents.map entV).all fun e=>e.2.1.dat)=true→RM g w k (ents.map entV) ents
 | [],_,_=>by simp [RM]
 | e::ents,h1,h2=>by
  simp only [MK.all,List.map_cons,List.all_cons,Bool.and_eq_true] at h1 h2;simp only [List.map_cons,RM];exact ⟨e,ents,rfl,⟨Qbar h1.1,Q8h (Qbar h1.1)⟩,⟨Qu7 h2.1,Q8h h2.1⟩,rfl,Qbas h1.2 h2.2⟩
theorem Qbat (t:TypeId) {kt:TypeId} {kd:MK} {z:V} (hmk:Qla P t=some (kt,kd,z)) (c:Bool) {M:Mem} {nb:Nat} (hM:MR g w M nb) {x y v:V} {u uk:Value} {n0 κ:Nat} {M' : Mem}
  (hx:RF g w x u) (hy:RF g w y uk) (hs:Qm n0 κ (.lookup kd c z) [x,y] M=some (v,M')) :
  M'=M∧∃ val,(Instr.lookup t u uk c).run P w = .ok val w∧RF g w v val:=by
 obtain ⟨rfl,b,kk,es,ents,cl,rfl,hh,hr,hk1,hk2,hres⟩ : M'=M∧∃ b kk es ents cl,u = .map (some b)∧w.heap[b]? = some (.map (List.toArray ents) cl)∧RM g w kk es ents∧Qbc2 kd c z y v es:=by
  obtain ⟨rfl,⟨b,key,es,cl,hxs,hMk,h⟩|⟨key,ents,cl,hxs,h0,h⟩⟩:=Q0e hs
  ·cases hxs;obtain ⟨_,_,ents,hh,hr⟩:=hM.box b _ hMk;exact ⟨rfl,_,_,es,ents,cl,Q7m hx,hh,hr,h⟩
  ·cases hxs;rw [RF_d] at hx;simp only [RD] at hx;obtain ⟨b,rfl,_,hh⟩:=hx;exact ⟨rfl,b,0,_,ents,cl,rfl,Q4q hh,Qbas h.2.1 h0,h⟩
 obtain ⟨et,ht,hkk,hz,hzd⟩:=Qqa P hmk;have hlaw:=Q2a (g:=g) (w:=w) P hkk;obtain ⟨zv,hzr,hzf⟩:=Q57 (g:=g) (w:=w) P hz;refine ⟨rfl,?_⟩;have hck:∀ em,(Instr.checkKey em 10000 kt uk).run P w = .ok () w:=fun em=>hlaw.check em hk1 hy;rcases Q2b P hlaw hk1 hy hr hk2 with ⟨f1,f2⟩|⟨j,v',e,x,f1,f2,f3,f4,f5,f6,f7,f8,f9⟩
 ·have hfk:=f2;rcases hres with ⟨i,uu,h1,_,_⟩|⟨h1,h2,rfl⟩
  ·rw [f1] at h1;cases h1
  ·refine ⟨if c then .tuple #[zv,.bool false] else zv,?_,?_⟩
   ·simp [Instr.lookup,run_underlying ht,MapKept.run_getObj_map hh,hck,hfk,hzr,Result.andThen]
   ·cases c
    ·exact hzf
    ·exact Qbap (us:=[zv,.bool false]) ⟨_,_,rfl,hzf,_,_,rfl,by rw [RF_d];simp [RD],rfl⟩
 ·have hfk:=f7;rcases hres with ⟨i,uu,h1,h2,rfl⟩|⟨h1,h2,rfl⟩
  ·rw [f1] at h1;cases h1;refine ⟨if c then .tuple #[e.val,.bool true] else e.val,?_,?_⟩
   ·simp [Instr.lookup,run_underlying ht,MapKept.run_getObj_map hh,hck,hfk,Result.andThen]
   ·cases c
    ·exact fun ℓ=>Qha _ _ ℓ _ f9
    ·exact Qbap (us:=[e.val,.bool true]) ⟨_,_,rfl,fun ℓ=>Qha _ _ ℓ _ f9,_,_,rfl,by rw [RF_d];simp [RD],rfl⟩
  grind
end
end Go.Abs
end
section
namespace Go.Abs
open Go Go.MapKept
section
variable (P:Program) {g:G} {w:World} {n0 nt:Nat} {g0:G} {w0:World} {σ:St} {a:Act}
theorem SR.allocm (h:SR n0 nt g0 w0 σ a w g) {dst:Option Nat} {κ:Nat} (hd:∀ d,dst=some d→d<nt) (hκ:n0≤κ) (hκ' : κ<σ.nb) (hfree:σ.M κ=none) :
  ∃ g',SR n0 nt g0 w0 ⟨Qbd σ.s dst (.mp κ),σ.M.put κ (.mp [] 0),σ.nb⟩ (a.put dst (.map (some w.heap.size))) (w.alloc (.map #[] 0)) g':=by
 let g' : G:={ box:=fun k=>if k=κ then w.heap.size else g.box k,imm:=g.imm,own:=fun b=>if b=w.heap.size then .box κ else g.own b };have hkept:Kept g w g' (w.alloc (.map #[] 0)) (There σ.M) (fun _=>True):=by
  refine ⟨⟨fun _ _ hb=>hb,fun b o hb=>?_⟩,fun k hk=>?_,fun b _ hb=>⟨?_,?_,fun _=>Iff.rfl⟩⟩
  ·exact Qdo (RowKit.Below.heap_alloc w _ b (h.mem.imm b o hb).1)
  ·have:k≠κ:=by rintro rfl;simp [There,hfree] at hk
   simp [g',this]
  all_goals grind [Go.RowKit.Below.heap_alloc]
 have hslots:∀ t,RV g' (w.alloc (.map #[] 0)) (σ.s t) (.slot t []) (a.tmps.getD t undef):=fun t =>
  Qch hkept (fun _ _ h=>h) trivial _ _ _ trivial (h.onS t) (h.slots t)
 have himm:∀ b o,g'.imm b o→b<(w.alloc (.map #[] 0)).heap.size∧∀ k,g'.own b ≠ .box k:=by
  intro b o hb;obtain ⟨h1,h2⟩:=h.mem.imm b o hb
  grind [Go.World.size_alloc]
 have hm:=h.mem.kept hkept h.mOn (fun _ _ h=>h) trivial (fun _ _=>trivial) himm;have hmon:∀ k,There σ.M k→There (σ.M.put κ (.mp [] 0)) k:=fun k hk=>hk.put;refine ⟨g',h.step ?_ ?_ (Qfi (fun d hd'=>by rw [h.size];exact hd d hd') (fun t _=>hslots t) (fun d _=>by simp [RV,g'])) (Qge _ _ _) (Qd7 _ _ _) (Qfj (fun t=>Qdp hmon _ (h.onS t)) There.self) ?_ ?_⟩
 ·refine ⟨fun k b hk=>?_,himm⟩;simp only [Mem.put] at hk;split at hk
  ·rename_i heq;subst heq;cases hk;refine ⟨hκ',by simp [g'],[],?_,rfl⟩;simp only [g',if_true];exact (heap_alloc w _).1
  ·exact hm.box k b hk
 ·exact ⟨rfl,rfl,rfl,by simp,hkept.imm,fun k hk=>(by
   grind),fun b hb _=>hkept.own b trivial hb⟩
 ·intro k cs' hk;simp only [Mem.put] at hk;split at hk
  ·cases hk
  ·exact ons_mono hmon _ (h.mOn k cs' hk)
 ·intro k cs' hk hlt;simp only [Mem.put] at hk;rw [if_neg (by omega)] at hk;exact h.out k cs' hk hlt
theorem Qbda (h:SR n0 nt g0 w0 σ a w g) {dst:Option Nat} (hd:∀ d,dst=some d→d<nt) (t:TypeId) {k e:TypeId} (ht:P.underlying t=some (.map k e)) {xs:List V} {us:List Value} (hx:RFs g w xs us) {v:V} {κ:Nat} {M' : Mem} (hκ:n0≤κ) (hκ' : κ<σ.nb)
  (r:Option Value) (hr:us=r.toList) (hs:Qm n0 κ .mkmap xs σ.M=some (v,M')) :
  ∃ val w' g',(Instr.makeMap t r).run P w = .ok val w'∧SR n0 nt g0 w0 ⟨Qbd σ.s dst v,M',σ.nb⟩ (a.put dst val) w' g':=by
 obtain ⟨hxs,hfree,rfl,rfl⟩:=Q5y hs;obtain ⟨g',hsr⟩:=h.allocm (dst:=dst) hd hκ hκ' hfree;refine ⟨_,_,g',?_,hsr⟩;rcases hxs with rfl|⟨q,n,rfl⟩
 ·simp_all [RFs,Go.Instr.makeMap,Go.Result.andThen]
 ·obtain ⟨u,us',rfl,h1,h2⟩:=hx;simp only [RFs] at h2;subst h2;have:=Qov h1;subst this;cases r with
  | none=>simp at hr
  | some r =>
   simp at hr;subst hr;simp [Instr.makeMap,run_underlying ht,asInt,asIntOf,Result.andThen]
theorem SR.mapput (h:SR n0 nt g0 w0 σ a w g) {k:Nat} {es es' : List (V×V×Nat)} {cl cl' : Nat} {ents ents' : List MapEntry} (hk:σ.M k=some (.mp es cl)) (hh:w.heap[g.box k]? = some (.map ents.toArray cl)) (hr:RM g w k es' ents')
  {dst:Option Nat} (hd:∀ d,dst=some d→d<nt) {v:V} {val:Value} (hv:∀ w',Imm g.imm g.imm w w'→RF g w' v val) (hvon:∀ p,v.on p) :
  SR n0 nt g0 w0 ⟨Qbd σ.s dst v,σ.M.put k (.mp es' cl'),σ.nb⟩ (a.put dst val) { w with heap:=w.heap.setIfInBounds (g.box k) (.map ents'.toArray cl') } g:=by
 obtain ⟨hltnb,hb,_⟩:=h.mem.box k _ hk;obtain ⟨hs1,hs2⟩:=heap_set (o':=.map ents'.toArray cl') hh;have hkept:Kept g w g { w with heap:=w.heap.setIfInBounds (g.box k) (.map ents'.toArray cl') } (There σ.M) (fun o=>o ≠ .box k):=by
  refine ⟨⟨fun _ _ h=>h,fun b o hbo=>?_⟩,fun _ _=>rfl,fun b hbk hlt=>⟨rfl,?_,fun _=>Iff.rfl⟩⟩
  ·have:b≠g.box k:=by rintro rfl;exact (h.mem.imm _ _ hbo).2 k hb
   exact Qdo (hs2 b this)
  grind
 have hslots:∀ t,RV g { w with heap:=w.heap.setIfInBounds (g.box k) (.map ents'.toArray cl') } (σ.s t) (.slot t []) (a.tmps.getD t undef):=fun t =>
  Qch hkept (fun _ i h=>Qnj h) (by simp) _ _ _ (by simp) (h.onS t) (h.slots t)
 have hthere:∀ j,There σ.M j→There (σ.M.put k (.mp es' cl')) j:=fun j hj=>hj.put;refine h.step ?_ ?_ (Qfi (fun d hd'=>by rw [h.size];exact hd d hd') (fun t _=>hslots t) (fun d _=>hv _ hkept.imm _)) (Qge _ _ _) (Qd7 _ _ _) (Qfj (fun t=>Qdp hthere _ (h.onS t)) (hvon _)) ?_ ?_
 ·refine ⟨fun j b hj=>?_,fun b o hbo=>?_⟩
  ·simp only [Mem.put] at hj;split at hj
   ·rename_i he;subst he;cases hj;exact ⟨hltnb,hb,ents',hs1,Qi8 (g:=g) (g':=g) hkept (fun _=>by simp) hr⟩
   ·rename_i hne;obtain ⟨k1,k2,k3⟩:=h.mem.box j b hj;have hbj:g.box j≠g.box k:=by
     grind
    refine ⟨k1,k2,?_⟩;cases b with
    | mp es2 c2 =>
     obtain ⟨ents2,hh',hr'⟩:=k3;exact ⟨ents2,(hs2 _ hbj).trans hh',Qi8 (g:=g) (g':=g) hkept (fun _=>by simp) hr'⟩
    | cells cs' =>
     obtain ⟨vs,e',hh',hr',ho'⟩:=k3;refine ⟨vs,e',(hs2 _ hbj).trans hh',RVs_mono hkept (fun _ i h=>Qnj h) (by simp) cs' (.box j) 0 vs ?_ (h.mOn j cs' hj) hr',ho'⟩
     grind
  ·obtain ⟨h3,h4⟩:=h.mem.imm b o hbo
   grind
 ·refine ⟨rfl,rfl,rfl,by simp,hkept.imm,fun _ _=>rfl,fun b hb' ho=>?_⟩;have hne:g.own b ≠ .box k:=by intro e;rw [e] at ho;exact ho
  grind
 ·intro j cs' hj;simp only [Mem.put] at hj;split at hj
  ·cases hj
  ·exact ons_mono hthere _ (h.mOn j cs' hj)
 ·intro j cs' hj hlt;simp only [Mem.put] at hj;split at hj
  ·cases hj
  ·exact h.out j cs' hj hlt
theorem Q2c {kb:Nat} {es:List (V×V×Nat)} {ents:List MapEntry} {k v:V} {uk uv:Value} {b:Nat} (hr:RM g w kb es ents) (hk:k.dat=true) (hk' : RV g w k .ext uk) (hv:v.mv=true) (hv' : RV g w v (.cell kb b) uv) :
  RM g w kb (es++[(k,v,b)]) (ents++[{ key:=uk,val:=uv,born:=b }]):=by
 induction es generalizing ents with
 | nil=>simp only [RM] at hr;subst hr;exact ⟨_,[],rfl,⟨hk,hk'⟩,⟨hv,hv'⟩,rfl,rfl⟩
 | cons x r ih =>
  simp only [RM] at hr;obtain ⟨e,t,rfl,h1,h2,h3,h4⟩:=hr;exact ⟨e,t++[_],rfl,h1,h2,h3,ih h4⟩
theorem Q58 {kb:Nat} {k v:V} {uk uv:Value} (hk:k.dat=true) (hk' : RV g w k .ext uk) (hv:v.mv=true):∀ {es:List (V×V×Nat)} {ents:List MapEntry} (i:Nat),(∀ x,es[i]? = some x→RV g w v (.cell kb x.2.2) uv)→RM g w kb es ents →
  RM g w kb (modM k v i es) (ents.modify i fun e=>{ e with key:=uk,val:=uv })
 | [],_,i,_,hr=>by grind [RM,modM]
 | x::r,_,0,hv',hr=>by
  simp only [RM] at hr;obtain ⟨e,t,rfl,h1,h2,h3,h4⟩:=hr;exact ⟨_,t,rfl,⟨hk,hk'⟩,⟨hv,hv' x rfl⟩,h3,h4⟩
 | x::r,_,i+1,hv',hr=>by
  simp only [RM] at hr;obtain ⟨e,t,rfl,h1,h2,h3,h4⟩:=hr;exact ⟨e,_,rfl,h1,h2,h3,Q58 hk hk' hv i (fun y hy=>hv' y (by simpa using hy)) h4⟩
theorem Q8j:∀ {ks:List CK} {cs:List V},okCs ks cs=true→cs.all V.dat1=true
 | [],[],_=>rfl
 | k::ks,c::cs,h=>by
  simp only [okCs,Bool.and_eq_true] at h;have:c.dat1=true:=by cases c<;>first|rfl|(cases k<;>simp [CK.ok] at h)
  simp [this,Q8j h.2]
 | [],_::_,h=>by simp [okCs] at h
 | _::_,[],h=>by simp [okCs] at h
theorem Q2d {kd:MK} {v:V} (h:kd.ok v=true):v.dat=true:=by
 cases v<;>cases kd<;>simp_all [MK.ok,V.dat];exact fun x hx=>List.all_eq_true.1 (Q8j h) x hx
theorem Qn1 (l:List MapEntry) (i:Nat) (f:MapEntry→MapEntry):l.toArray.modify i f=(l.modify i f).toArray :=by grind
theorem Q2e {v:V} (h:v.dat=true):(Qv3 v).dat=true:=by
 cases v<;>first|exact h|rfl
theorem Q59 (h:SR n0 nt g0 w0 σ a w g) {dst:Option Nat} (hd:∀ d,dst=some d→d<nt) (t:TypeId) {kt:TypeId} {kd:MK} {z:V} (hmk:Qla P t=some (kt,kd,z)) {x y u v:V} {um uk uv:Value} {κ:Nat} {M' : Mem}
  (hx:RF g w x um) (hy:RF g w y uk) (hu:RF g w u uv) (hs:Qm n0 κ (.mapset kd) [x,y,u] σ.M=some (v,M')) :
  ∃ w',(Instr.mapUpdate t um uk uv).run P w = .ok () w'∧SR n0 nt g0 w0 ⟨Qbd σ.s dst v,M',σ.nb⟩ (a.put dst undef) w' g:=by
 obtain ⟨b,key,u',es,cl,hxs,hMk,hk1,hk2,hdat,rfl,rfl⟩:=Q3q hs;cases hxs;have hum:=Q7m hx;subst hum;obtain ⟨et,ht,hkk,hz,hzd⟩:=Qqa P hmk;obtain ⟨_,_,ents,hh,hr⟩:=h.mem.box b _ hMk;have hlaw:=Q2a (g:=g) (w:=w) P hkk;have hck:∀ em,(Instr.checkKey em 10000 kt uk).run P w = .ok () w:=fun em=>hlaw.check em hk1 hy;have hst:=hlaw.stays hk1 hy;rcases Q2b P hlaw hk1 hy hr hk2 with ⟨f1,f2⟩|⟨j,v',e,x,f1,f2,f3,f4,f5,f6,f7,f8,f9⟩
 ·have hfk:=f2;rw [f1];refine ⟨_,?_,h.mapput (cl':=cl+1) hMk hh (Q2c hr (Q2d hk1) (hy _) (Qu7 (Q2e hdat)) (Qzi hu _)) hd (fun _ _ _=>by simp [RV]) (fun p=>by simp [V.on])⟩;simp [Instr.mapUpdate,run_underlying ht,MapKept.run_getObj_map hh,hck,hfk,MapKept.run_setObj_map _ hh,Result.andThen]
 ·have hfk:=f7;rw [f1];refine ⟨_,?_,h.mapput (cl':=cl) hMk hh (Q58 (Q2d hk1) (hy _) (Qu7 (Q2e hdat)) j (fun _ _=>Qzi hu _) hr) hd (fun _ _ _=>by simp [RV]) (fun p=>by simp [V.on])⟩;have hj:ents[j]? = some e:=f4;simp [Instr.mapUpdate,run_underlying ht,MapKept.run_getObj_map hh,hck,hfk,hj,f5,hst,MapKept.run_setObj_map _ hh,Result.andThen,Qn1]
theorem Q7n (h:SR n0 nt g0 w0 σ a w g) {dst:Option Nat} (hd:∀ d,dst=some d→d<nt) (t:TypeId) {kt:TypeId} {kd:MK} {z:V} (hmk:Qla P t=some (kt,kd,z)) {x y v:V} {um uk:Value} {κ:Nat} {M' : Mem}
  (hx:RF g w x um) (hy:RF g w y uk) (hs:Qm n0 κ (.mapentry kd z) [x,y] σ.M=some (v,M')) :
  ∃ val w',(Instr.mapEntry t um uk).run P w = .ok val w'∧SR n0 nt g0 w0 ⟨Qbd σ.s dst v,M',σ.nb⟩ (a.put dst val) w' g:=by
 obtain ⟨b,key,es,cl,hxs,hMk,hk1,hk2,hzd,hres⟩:=Q08 hs;cases hxs;have hum:=Q7m hx;subst hum;obtain ⟨et,ht,hkk,hz,_⟩:=Qqa P hmk;obtain ⟨_,_,ents,hh,hr⟩:=h.mem.box b _ hMk;have hlaw:=Q2a (g:=g) (w:=w) P hkk;obtain ⟨zv,hzr,hzf⟩:=Q57 (g:=g) (w:=w) P hz;have hck:∀ em,(Instr.checkKey em 10000 kt uk).run P w = .ok () w:=fun em=>hlaw.check em hk1 hy;have hst:=hlaw.stays hk1 hy;have htup:∀ {v:V} {val:Value} (c:Nat),v.dat=true→RF g w v val→∀ w',Imm g.imm g.imm w w'→RF g w' (.tup [v,.d (.int .i64 c)]) (.tuple #[val,goInt c]):=fun {v val} c hv hf w' him =>
  Qbap (us:=[val,goInt c]) ⟨_,_,rfl,fun _=>Qu8 (g':=g) him hv (hf .ext),_,_,rfl,by rw [RF_d];simp [RD,goInt],rfl⟩
 have hton:∀ {v:V} (c:Nat),v.dat=true→∀ p,(V.tup [v,.d (.int .i64 c)]).on p:=fun {v} c hv p=>⟨Qv5 hv,trivial,trivial⟩;rcases Q2b P hlaw hk1 hy hr hk2 with ⟨f1,f2⟩|⟨j,v',e,x,f1,f2,f3,f4,f5,f6,f7,f8,f9⟩
 ·have hfk:=f2;rcases hres with ⟨i,u,e,h1,_⟩|⟨h1,rfl,rfl⟩
  ·rw [f1] at h1;cases h1
  ·refine ⟨.tuple #[zv,goInt cl],_,?_,h.mapput (cl':=cl+1) hMk hh (Q2c hr (Q2d hk1) (hy _) (Qu7 hzd) (hzf _)) hd (htup cl hzd hzf) (hton cl hzd)⟩;simp [Instr.mapEntry,run_underlying ht,MapKept.run_getObj_map hh,hck,hfk,hzr,MapKept.run_setObj_map _ hh,Result.andThen]
 ·have hfk:=f7;rcases hres with ⟨i,u,e2,h1,h2,h3,rfl,rfl⟩|⟨h1,_⟩
  ·rw [f1] at h1;cases h1;rw [f2] at h3;cases h3;have hj:ents[j]? = some e:=f4;refine ⟨.tuple #[e.val,goInt e.born],{ w with heap:=w.heap.setIfInBounds (g.box b) (.map (ents.modify j fun q=>{ q with key:=uk,val:=e.val }).toArray cl) },?_,?_⟩
   rotate_left
   ·have hmod:=Q58 (Q2d hk1) (hy .ext) f8 j (fun y hy'=>by rw [f2] at hy';cases hy';exact f9) hr;have:=h.mapput (cl':=cl) hMk hh hmod hd (htup x.2.2 h2 (Qbd5 h2 f9)) (hton _ h2)
    grind
   ·have hme:ents.modify j (fun q=>{ q with key:=uk })=ents.modify j (fun q=>{ q with key:=uk,val:=e.val }):=by
     apply List.ext_getElem?
     grind
    simp [Instr.mapEntry,run_underlying ht,MapKept.run_getObj_map hh,hck,hfk,hj,f5,hst,MapKept.run_setObj_map _ hh,Result.andThen,Qn1,hme]
  grind
theorem Qbau {b:Int} {kb:Nat}:∀ {es:List (V×V×Nat)} {ents:List MapEntry},RM g w kb es ents→ents.findIdx? (fun e=>(e.born:Int)==b)=Q4n b es
 | [],_,h=>by simp only [RM] at h;subst h;rfl
 | x::r,_,h=>by
  simp only [RM] at h;obtain ⟨e,t,rfl,_,_,h3,h4⟩:=h;obtain ⟨xk,xv,xb⟩:=x;simp only at h3;subst h3;rw [List.findIdx?_cons,Qbau h4];simp only [Q4n]
theorem Qbd6 {kb:Nat}:∀ {es:List (V×V×Nat)} {ents:List MapEntry},RM g w kb es ents→∀ (i:Nat) (x:V×V×Nat),es[i]? = some x→∃ e,ents[i]? = some e∧(x.1.dat=true∧RV g w x.1 .ext e.key)∧e.born=x.2.2
 | [],_,h,i,x,hx=>by simp at hx
 | y::r,_,h,0,x,hx=>by
  simp only [RM] at h
  grind
 | y::r,_,h,i+1,x,hx=>by
  simp only [RM] at h;obtain ⟨e,t,rfl,_,_,_,h4⟩:=h;simpa using Qbd6 h4 i x (by simpa using hx)
theorem Q40 (h:SR n0 nt g0 w0 σ a w g) {dst:Option Nat} (hd:∀ d,dst=some d→d<nt) (t:TypeId) {x y u v:V} {um uk uv:Value} {κ:Nat} {M' : Mem}
  (hx:RF g w x um) (hy:RF g w y uk) (hu:RF g w u uv) (hs:Qm n0 κ .entrystore [x,y,u] σ.M=some (v,M')) :
  ∃ w',(Instr.entryStore t um uk uv).run P w = .ok () w'∧SR n0 nt g0 w0 ⟨Qbd σ.s dst v,M',σ.nb⟩ (a.put dst undef) w' g:=by
 obtain ⟨b,bn,u',es,cl,i,e0,hxs,hMk,hdat,hbn,he0,rfl,rfl⟩:=Qye hs;cases hxs;have hum:=Q7m hx;subst hum;have huk:=Qov hy;subst huk;obtain ⟨_,_,ents,hh,hr⟩:=h.mem.box b _ hMk;obtain ⟨e,k1,⟨k2,k3⟩,k4⟩:=Qbd6 hr i _ he0;have hidx:ents.findIdx? (fun e=>(e.born:Int)==bn)=some i:=by rw [Qbau hr,hbn]
 refine ⟨_,?_,h.mapput (cl':=cl) hMk hh (Q58 (uk:=e.key) k2 k3 (Qu7 (Q2e hdat)) i (fun _ _=>Qzi hu _) hr) hd (fun _ _ _=>by simp [RV]) (fun p=>by simp [V.on])⟩;have hme:ents.modify i (fun q=>{ q with val:=uv })=ents.modify i (fun q=>{ q with key:=e.key,val:=uv }):=by
  apply List.ext_getElem?
  grind
 simp [Instr.entryStore,MapKept.run_getObj_map hh,asInt,asIntOf,hidx,MapKept.run_setObj_map _ hh,Result.andThen,Qn1,hme]
end
end Go.Abs
end
section
namespace Go.Abs
open Go Go.MapKept
section
variable (P:Program) {g:G} {w:World} {n0 nt:Nat} {g0:G} {w0:World} {σ:St} {a:Act}
theorem SR.mapre (h:SR n0 nt g0 w0 σ a w g) {k:Nat} {es es' : List (V×V×Nat)} {cl cl' : Nat} {ents' : List MapEntry} (hk:σ.M k=some (.mp es cl)) {x y:Owner} (hx:∀ j,x ≠ .box j) (hxp:¬ Prot x) (hxe:x ≠ .ext) (hy:∀ j,y ≠ .box j)
  (hsub:∀ o i,o ≠ .box k→o≠x→o.sub i≠x) (hcell:∀ j i,j≠k→x ≠ .cell j i) {w' : World} (hoff:∀ b,b≠g.box k→w'.heap[b]? = w.heap[b]?) (hat:w'.heap[g.box k]? = some (.map ents'.toArray cl'))
  (hw:w'.os=w.os∧w'.tape=w.tape∧w'.output=w.output∧w'.heap.size=w.heap.size) (hr:RM (g.re (ex x y)) w' k es' ents')
  {s' : Sl} {a' : Act} (hs:∀ t,RV (g.re (ex x y)) w' (s' t) (.slot t []) (a'.tmps.getD t undef)) (hsz:a'.tmps.size=a.tmps.size) (hd:a'.defers=a.defers) (hons:∀ t,(s' t).on (There σ.M)) :
  SR n0 nt g0 w0 ⟨s',σ.M.put k (.mp es' cl'),σ.nb⟩ a' w' (g.re (ex x y)):=by
 obtain ⟨hltnb,hb,_⟩:=h.mem.box k _ hk;have hbx:∀ j,ex x y (.box j) = .box j:=fun j=>by unfold ex;grind
 have hkept:Kept g w (g.re (ex x y)) w' (There σ.M) (fun o=>o ≠ .box k∧o≠x):=by
  refine ⟨⟨fun _ _ h=>h,fun b o hbo=>?_⟩,fun _ _=>rfl,fun b hbk hlt=>⟨by simp [G.re,ex,hbk.2],?_,fun _=>Iff.rfl⟩⟩
  ·have:b≠g.box k:=by rintro rfl;exact (h.mem.imm _ _ hbo).2 k hb
   exact Qdo (hoff b this)
  grind
 have hks:∀ o i,o ≠ .box k∧o≠x→o.sub i ≠ .box k∧o.sub i≠x:=fun o i ho=>⟨Qnj ho.1,hsub o i ho.1 ho.2⟩;have hke:(Owner.ext ≠ .box k∧Owner.ext≠x):=⟨by simp,fun e=>hxe e.symm⟩;have hthere:∀ j,There σ.M j→There (σ.M.put k (.mp es' cl')) j:=fun j hj=>hj.put;refine h.step ?_ ?_ hs hsz hd (fun t=>Qdp hthere _ (hons t)) ?_ ?_
 ·refine ⟨fun j b hj=>?_,fun b o hbo=>?_⟩
  ·simp only [Mem.put] at hj;split at hj
   ·rename_i he;subst he;cases hj;exact ⟨hltnb,by show ex x y (g.own (g.box j))=_;rw [hb,hbx],ents',hat,hr⟩
   ·rename_i hne;obtain ⟨k1,k2,k3⟩:=h.mem.box j b hj;have hbj:g.box j≠g.box k:=by
     grind
    refine ⟨k1,by show ex x y (g.own (g.box j))=_;rw [k2,hbx],?_⟩;cases b with
    | mp es2 c2 =>
     obtain ⟨ents2,hh',hr'⟩:=k3;exact ⟨ents2,(hoff _ hbj).trans hh',Qi8 (g:=g) hkept (fun i=>⟨by simp,fun e=>hcell j i hne e.symm⟩) hr'⟩
    | cells cs' =>
     obtain ⟨vs,e',hh',hr',ho'⟩:=k3;refine ⟨vs,e',(hoff _ hbj).trans hh',RVs_mono hkept hks hke cs' (.box j) 0 vs ⟨?_,fun e=>hx j e.symm⟩ (h.mOn j cs' hj) hr',ho'⟩
     grind
  ·obtain ⟨h3,h4⟩:=h.mem.imm b o hbo
   grind [G.re,ex]
 ·refine ⟨hw.1,hw.2.1,hw.2.2.1,by grind,hkept.imm,fun _ _=>rfl,fun b hb' ho=>?_⟩;have hne:g.own b ≠ .box k:=by intro e;rw [e] at ho;exact ho
  have hne2:g.own b≠x:=by grind
  exact ⟨by simp [G.re,ex,hne2],(hkept.own b ⟨hne,hne2⟩ hb').2.1,fun _=>Iff.rfl⟩
 ·intro j cs' hj;simp only [Mem.put] at hj;split at hj
  ·cases hj
  ·exact ons_mono hthere _ (h.mOn j cs' hj)
 ·intro j cs' hj hlt;simp only [Mem.put] at hj;split at hj
  ·cases hj
  ·exact h.out j cs' hj hlt
theorem Qbav:∀ {n:Nat} {es:List (V×V×Nat)},upM n es=true→∀ x∈es,n≤x.2.2
 | _,[],_,x,hx=>by simp at hx
 | n,e::es,h,x,hx=>by
  simp only [upM,Bool.and_eq_true,decide_eq_true_eq] at h;rcases List.mem_cons.1 hx with rfl|hx
  ·exact h.1
  ·have:=Qbav h.2 x hx;omega
theorem Qbaw {k:Nat} {y:Owner} {st:Nat}:∀ {n:Nat} {es:List (V×V×Nat)} {ents:List MapEntry} (i:Nat) {x:V×V×Nat} {sz:Nat} {l:List (List D)},upM n es=true→es[i]? = some x→x.2.1 = .own sz l→x.2.2=st→RM g w k es ents →
  RM (g.re (ex (.cell k st) y)) w k (modM x.1 (.d (.lst sz l)) i es) ents
 | _,[],_,i,x,sz,l,_,hx,_,_,_=>by simp at hx
 | n,e::es,_,0,x,sz,l,hu,hx,hv,hst,hr=>by
  simp only [upM,Bool.and_eq_true,decide_eq_true_eq] at hu;simp at hx;subst hx;simp only [RM] at hr;obtain ⟨q,t,rfl,⟨a1,a2⟩,⟨b1,b2⟩,h3,h4⟩:=hr;rw [hv] at b2;refine ⟨q,t,rfl,⟨a1,Qu8 (g:=g) (g':=g.re (ex (.cell k st) y)) (Imm.refl _ _) a1 a2⟩,⟨rfl,?_⟩,h3,?_⟩
  ·have:=Qha (g:=g) (w:=w) (.own sz l) (.cell k e.2.2) (.cell k e.2.2) _ b2;exact Qu8 (g:=g) (g':=g.re (ex (.cell k st) y)) (v:=.d (.lst sz l)) (Imm.refl _ _) rfl this
  ·have hlt:=Qbav hu.2;clear h3 a1 a2 b1 b2
   induction es generalizing t with
   | nil=>simpa [RM] using h4
   | cons z es ih =>
    simp only [RM] at h4 ⊢;obtain ⟨q2,t2,rfl,⟨a1,a2⟩,⟨b1,b2⟩,h3,h4⟩:=h4;have hz:z.2.2≠st:=by grind
    refine ⟨q2,t2,rfl,⟨a1,Qu8 (g:=g) (g':=g.re (ex (.cell k st) y)) (Imm.refl _ _) a1 a2⟩,⟨b1,?_⟩,h3,?_⟩
    ·rcases Qrv b1 with b1|⟨sz2,l2,e2⟩
     ·exact Qu8 (g:=g) (g':=g.re (ex (.cell k st) y)) (Imm.refl _ _) b1 b2
     ·rw [e2] at b2 ⊢;exact Q4t (g:=g) (g':=g.re (ex (.cell k st) y)) (Imm.refl _ _) (fun b hb _=>⟨by show ex _ _ (g.own b)=_;simp_all [ex,if_neg],rfl,fun _=>Iff.rfl⟩) b2
    ·simp only [upM,Bool.and_eq_true,decide_eq_true_eq] at hu;exact ih ⟨hu.1,(by
      have:∀ {m m' : Nat} {r:List (V×V×Nat)},m'≤m→upM m r=true→upM m' r=true:=fun {m m' r} hm hr=>by
       cases r with
       | nil=>rfl
       | cons c r=>simp only [upM,Bool.and_eq_true,decide_eq_true_eq] at hr ⊢;grind
      grind)⟩ t2 h4 (fun c hc=>hlt c (by simp [hc]))
 | n,e::es,_,i+1,x,sz,l,hu,hx,hv,hst,hr=>by
  simp only [upM,Bool.and_eq_true,decide_eq_true_eq] at hu;simp only [RM] at hr;obtain ⟨q,t,rfl,⟨a1,a2⟩,⟨b1,b2⟩,h3,h4⟩:=hr;have hx' : es[i]? = some x:=by simpa using hx
  have hle:=Qbav hu.2 x (List.mem_of_getElem? hx');refine ⟨q,t,rfl,⟨a1,Qu8 (g:=g) (g':=g.re (ex (.cell k st) y)) (Imm.refl _ _) a1 a2⟩,⟨b1,?_⟩,h3,Qbaw i hu.2 hx' hv hst h4⟩;rcases Qrv b1 with b1|⟨sz2,l2,e2⟩
  ·exact Qu8 (g:=g) (g':=g.re (ex (.cell k st) y)) (Imm.refl _ _) b1 b2
  ·rw [e2] at b2 ⊢;exact Q4t (g:=g) (g':=g.re (ex (.cell k st) y)) (Imm.refl _ _) (fun b hb _=>⟨by show ex _ _ (g.own b)=_;rw [hb];unfold ex;grind,rfl,fun _=>Iff.rfl⟩) b2
theorem Qbdb {t kt e:TypeId} {z:V} (ht:P.underlying t=some (.map kt e)) (h:Q9y P t=some z):z.dat=true∧∃ zv,(zeroValue e).run P w = .ok zv w∧RF g w z zv:=by
 unfold Q9y at h;rw [ht] at h;simp only at h;split at h<;>try (cases h;done)
 rename_i sz zv hna hz hi;cases h;obtain ⟨i,zv',h1,h2,h3,_⟩:=Qji P hz;rw [h1] at hi;simp only [Option.bind_some] at hi;rw [h2] at hi;cases hi;refine ⟨rfl,_,Qpj P h1 h2 w,?_⟩;have hc:=h3 g w;have hcells:zv.cells.toList=[zv]:=by
  cases zv<;>first|rfl|exact absurd rfl (hna _ _ hz)|skip
  all_goals simp_all [Value.cells]
 rw [hcells] at hc;exact hc.rf 0 _ _ rfl rfl
theorem Q9g (h:SR n0 nt g0 w0 σ a w g) {dst:Option Nat} (hd:∀ d,dst=some d→d<nt) (t:TypeId) {kt:TypeId} {kd:MK} {z z0:V} (hmk:Qla P t=some (kt,kd,z0)) (hzn:Q9y P t=some z) {x y v:V} {um uk:Value} {κ:Nat} {M' : Mem}
  (hx:RF g w x um) (hy:RF g w y uk) (hs:Qm n0 κ (.lookupT kd z) [x,y] σ.M=some (v,M')) :
  ∃ val g',(Instr.lookup t um uk false).run P w = .ok val w∧SR n0 nt g0 w0 ⟨Qbd σ.s dst v,M',σ.nb⟩ (a.put dst val) w g':=by
 obtain ⟨b,key,es,cl,hxs,hMk,hk1,hk2,hup,hres⟩:=Qym hs;cases hxs;have hum:=Q7m hx;subst hum;obtain ⟨et,ht,hkk,hz,_⟩:=Qqa P hmk;obtain ⟨_,hown,ents,hh,hr⟩:=h.mem.box b _ hMk;have hlaw:=Q2a (g:=g) (w:=w) P hkk;obtain ⟨_,zv,hzr,hzf⟩:=Qbdb (g:=g) (w:=w) P ht hzn;have hck:∀ em,(Instr.checkKey em 10000 kt uk).run P w = .ok () w:=fun em=>hlaw.check em hk1 hy;rcases Q2b P hlaw hk1 hy hr hk2 with ⟨f1,f2⟩|⟨j,v',e,x,f1,f2,f3,f4,f5,f6,f7,f8,f9⟩
 ·rcases hres with ⟨i,sz,l,e,h1,_⟩|⟨h1,h2,rfl,rfl⟩
  ·rw [f1] at h1;cases h1
  ·refine ⟨zv,g,?_,h.pure hd (fun _ _=>hzf _) (Qv5 h2)⟩;have hfk:=f2;simp [Instr.lookup,run_underlying ht,MapKept.run_getObj_map hh,hck,hfk,hzr,Result.andThen]
 ·rcases hres with ⟨i,sz,l,e0,h1,h2,rfl,rfl⟩|⟨h1,_⟩
  ·rw [f1] at h1;cases h1;rw [f2] at h2;cases h2;have hfk:=f7;refine ⟨e.val,g.re (ex (.cell b x.2.2) (.slot (dst.getD 0) [])),?_,?_⟩
   ·simp [Instr.lookup,run_underlying ht,MapKept.run_getObj_map hh,hck,hfk,Result.andThen]
   ·have hkx:=Kept.ex g w (.cell b x.2.2) (.slot (dst.getD 0) []) (There σ.M);refine h.mapre hMk (x:=.cell b x.2.2) (by simp) (by simp [Prot]) (by simp) (by simp) ?_ ?_ (fun _ _=>rfl) hh ⟨rfl,rfl,rfl,rfl⟩ (Qbaw j hup f2 f3 rfl hr) (Qfi (fun d' hd'=>by rw [h.size];exact hd d' hd') (fun t ht=>?_) (fun d' hd'=>?_)) (Qge _ _ _) (Qd7 _ _ _) (Qfj h.onS trivial)
    ·intro o i h1 h2;cases o<;>simp_all [Owner.sub]
    ·grind
    ·have hk' : Kept g w (g.re (ex (.cell b x.2.2) (.slot (dst.getD 0) []))) w (There σ.M) (fun o=>(∃ t q,o = .slot t q)∨o = .ext) :=
      hkx.weaken (fun _ h=>h) (by grind)
     refine Qch hk' ?_ (.inr rfl) _ _ _ (.inl ⟨t,[],rfl⟩) (h.onS t) (h.slots t);rintro ℓ i' (⟨t,q,rfl⟩|rfl)
     ·exact .inl ⟨t,i'::q,rfl⟩
     ·exact .inr rfl
    grind [Q3r]
  grind
theorem Q9h (h:SR n0 nt g0 w0 σ a w g) (t:TypeId) {kt:TypeId} {kd:MK} {z:V} (hmk:Qla P t=some (kt,kd,z)) {x y v:V} {um uk:Value} {t0:Nat} {κ:Nat} {M' : Mem}
  (hx:RF g w x um) (hy:RF g w y uk) (hs:Qm n0 κ (.mapsetT kd) [x,y,σ.s t0] σ.M=some (v,M')) :
  ∃ w' g',(Instr.mapUpdate t um uk (a.tmps.getD t0 undef)).run P w = .ok () w'∧SR n0 nt g0 w0 ⟨σ.s.put t0 (σ.s t0).dem,M',σ.nb⟩ a w' g':=by
 obtain ⟨b,key,sz,l,es,cl,hxs,hMk,hk1,hk2,rfl,rfl⟩:=Qyn hs;simp only [List.cons.injEq,and_true] at hxs;obtain ⟨rfl,rfl,hv⟩:=hxs;have hum:=Q7m hx;subst hum;obtain ⟨et,ht,hkk,hz,hzd⟩:=Qqa P hmk;obtain ⟨_,hown,ents,hh,hr⟩:=h.mem.box b _ hMk;have hlaw:=Q2a (g:=g) (w:=w) P hkk;have hck:∀ em,(Instr.checkKey em 10000 kt uk).run P w = .ok () w:=fun em=>hlaw.check em hk1 hy;have hst:=hlaw.stays hk1 hy;have hslot:=h.slots t0;rw [hv] at hslot;have fin:∀ (st cl' : Nat) (es' : List (V×V×Nat)) (ents' : List MapEntry),(∀ {w' : World},Imm g.imm g.imm w w'→(∀ c,c≠g.box b→w'.heap[c]? = w.heap[c]?)→RM (g.re (ex (.slot t0 []) (.cell b st))) w' b es' ents') →
   SR n0 nt g0 w0 ⟨σ.s.put t0 (σ.s t0).dem,σ.M.put b (.mp es' cl'),σ.nb⟩ a { w with heap:=w.heap.setIfInBounds (g.box b) (.map ents'.toArray cl') } (g.re (ex (.slot t0 []) (.cell b st))):=by
  intro st cl' es' ents' hrm;obtain ⟨hs1,hs2⟩:=heap_set (o':=.map ents'.toArray cl') hh;have hkx:=Kept.ex g w (.slot t0 []) (.cell b st) (There σ.M);have himm:Imm g.imm g.imm w { w with heap:=w.heap.setIfInBounds (g.box b) (.map ents'.toArray cl') }:=⟨fun _ _ h=>h,fun c o hco=>by
   have:c≠g.box b:=by rintro rfl;exact (h.mem.imm _ _ hco).2 b hown
   exact Qdo (hs2 c this)⟩
  have hkept:Kept g w (g.re (ex (.slot t0 []) (.cell b st))) { w with heap:=w.heap.setIfInBounds (g.box b) (.map ents'.toArray cl') } (There σ.M) (fun o=>o ≠ .box b∧o ≠ .slot t0 []) :=
   ⟨himm,fun _ _=>rfl,fun c hc _=>⟨by simp [G.re,ex,hc.2],hs2 c (by grind),fun _=>Iff.rfl⟩⟩
  have hks:∀ (o:Owner) i,o ≠ .box b∧o ≠ .slot t0 []→o.sub i ≠ .box b∧o.sub i ≠ .slot t0 []:=fun o i ho=>⟨Qnj ho.1,by cases o<;>simp_all [Owner.sub]⟩;refine h.mapre (w':={ w with heap:=w.heap.setIfInBounds (g.box b) (.map ents'.toArray cl') }) hMk (x:=.slot t0 []) (by simp) (by simp [Prot]) (by simp) (by simp) (fun o i h1 h2=>(hks o i ⟨h1,h2⟩).2) (by simp) hs2 hs1 ⟨rfl,rfl,rfl,by simp⟩ (hrm himm hs2) (fun t=>?_) rfl rfl (fun t=>?_)
  ·simp only [Sl.put];split
   ·rename_i he;subst he;rw [hv];have:=Qha (g:=g) (w:=w) (.own sz l) (.slot t []) (.slot t []) _ hslot;exact Qu8 (g:=g) (g':=g.re (ex (.slot t []) (.cell b st))) (v:=.d (.lst sz l)) himm rfl this
   ·rename_i hne;exact Qch hkept hks ⟨by simp,by simp⟩ _ _ _ ⟨by simp,by simp [hne]⟩ (h.onS t) (h.slots t)
  ·simp only [Sl.put];split
   ·exact (Qdn _).2 (h.onS t0)
   ·exact h.onS t
 have hrm0:∀ (st:Nat) {w' : World},Imm g.imm g.imm w w'→(∀ c,c≠g.box b→w'.heap[c]? = w.heap[c]?)→RM (g.re (ex (.slot t0 []) (.cell b st))) w' b es ents:=fun st {w'} hi hc =>
  Q5w (g:=g) (g':=g.re (ex (.slot t0 []) (.cell b st))) hi (fun c i hci _=>⟨by show ex _ _ (g.own c)=_;simp_all [ex,if_neg],hc c (by grind),fun _=>Iff.rfl⟩) hr
 have hval:∀ (st:Nat) {w' : World},Imm g.imm g.imm w w'→(∀ c,c≠g.box b→w'.heap[c]? = w.heap[c]?)→RV (g.re (ex (.slot t0 []) (.cell b st))) w' (.own sz l) (.cell b st) (a.tmps.getD t0 undef):=fun st {w'} hi hc=>by
  have:=Q3r (b:=.cell b st) hslot;refine Q4t (g:=g.re (ex (.slot t0 []) (.cell b st))) (g':=g.re (ex (.slot t0 []) (.cell b st))) (w:=w) hi (fun c hco _=>⟨hco,hc c ?_,fun _=>Iff.rfl⟩) this;rintro rfl;have h2:ex (.slot t0 []) (.cell b st) (g.own (g.box b)) = .cell b st:=hco
  simp_all [ex,if_neg]
 have hkey:∀ (st:Nat) {w' : World},Imm g.imm g.imm w w'→RV (g.re (ex (.slot t0 []) (.cell b st))) w' y .ext uk:=fun st {w'} hi=>Qu8 (g:=g) (g':=g.re (ex (.slot t0 []) (.cell b st))) hi (Q2d hk1) (hy .ext);rcases Q2b P hlaw hk1 hy hr hk2 with ⟨f1,f2⟩|⟨j,v',e,x,f1,f2,f3,f4,f5,f6,f7,f8,f9⟩
 ·have hfk:=f2;rw [f1];refine ⟨_,_,?_,fin cl (cl+1) _ (ents++[{ key:=uk,val:=a.tmps.getD t0 undef,born:=cl }]) (fun hi hc=>Q2c (hrm0 cl hi hc) (Q2d hk1) (hkey cl hi) rfl (hval cl hi hc))⟩;simp [Instr.mapUpdate,run_underlying ht,MapKept.run_getObj_map hh,hck,hfk,MapKept.run_setObj_map _ hh,Result.andThen]
 ·have hfk:=f7;rw [f1];refine ⟨_,_,?_,fin x.2.2 cl _ (ents.modify j fun q=>{ q with key:=uk,val:=a.tmps.getD t0 undef }) (fun hi hc=>Q58 (Q2d hk1) (hkey _ hi) rfl j (fun y hy'=>by grind) (hrm0 _ hi hc))⟩;have hj:ents[j]? = some e:=f4;simp [Instr.mapUpdate,run_underlying ht,MapKept.run_getObj_map hh,hck,hfk,hj,f5,hst,MapKept.run_setObj_map _ hh,Result.andThen,Qn1]
end
end Go.Abs
end
