/-
  Part 6 of the proof: see the last text.
-/
import Derived.Test.YtccapdeoaoiieaaGreatDoorP5
import Derived.Sort.Grow
set_option linter.unusedVariables false
set_option linter.unusedSimpArgs false
set_option linter.unusedSectionVars false
section
namespace Go.Abs
open Go
def pl0:D→Bool
 | .int .. | .bool _ | .str _=>true
 | _=>false
def frzL (sz:Nat) (l:List (List D)):V:=if l.all fun x=>x.all pl0 then .f (.lst sz l) else .d (.lst sz l)
theorem Qbgc {imm imm' : Nat→Nat→Prop} {w:World}:∀ {x:D} {u:Value},pl0 x=true→RD imm w x u→RD imm' w x u
 | .int ..,_,_,h=>by simpa [RD] using h
 | .bool _,_,_,h=>by simpa [RD] using h
 | .str _,_,_,h=>by simpa [RD] using h
 | .lst ..,_,h,_=>by cases h
 | .mp ..,_,h,_=>by cases h
theorem Qbfc {p:Nat→Prop} {sz:Nat} {l:List (List D)}:(frzL sz l).on p:=by unfold frzL;split<;>trivial
theorem Q8s {sz:Nat} {l:List (List D)}:WkV (frzL sz l) (.d (.lst sz l)):=by
 unfold frzL;split
 ·exact ⟨fun g w ℓ u h=>by
   simp only [RV] at h ⊢;exact Qfl ⟨fun b o h=>h.1,fun _ _ _=>rfl⟩ _ u h,fun _ _=>trivial⟩
 ·exact .same rfl
mutual
def frzV (k:Nat) (ds:List D):V→V
 | .und=>.und
 | .d x=>.d x
 | .agg cs=>.agg (frzVs k ds cs)
 | .tup cs=>.tup (frzVs k ds cs)
 | .own sz l=>.own sz l
 | .ownT sz l=>.ownT sz l
 | .ownV sz l=>.ownV sz l
 | .ptr k' o=>if k'=k then .cref (ds.drop o) else .ptr k' o
 | .nilp=>.nilp
 | .f x=>.f x
 | .nils sz=>.nils sz
 | .cref cs=>.cref cs
 | .sl sz k' o n c=>if k'=k then (if o+n*sz≤ds.length∧n≤c then frzL sz (Qix sz n ((ds.drop o).take (n*sz))) else .und) else .sl sz k' o n c
 | .clo f cs=>.clo f (frzVs k ds cs)
 | .mp k'=>if k'=k then .und else .mp k'
def frzVs (k:Nat) (ds:List D):List V→List V
 | []=>[]
 | v::vs=>frzV k ds v::frzVs k ds vs
end
theorem Qs1 (k:Nat) (ds:List D):∀ vs,frzVs k ds vs=vs.map (frzV k ds)
 | []=>rfl
 | v::vs=>by simp [frzVs,Qs1 k ds vs]
mutual
theorem Qbbr {p:Nat→Prop} (k:Nat) (ds:List D):∀ v:V,v.on p→(frzV k ds v).on fun j=>p j∧j≠k
 | .und,_=>trivial
 | .d _,_=>trivial
 | .agg cs,h=>ons_frz k ds cs h
 | .tup cs,h=>ons_frz k ds cs h
 | .own ..,_=>trivial
 | .ownT ..,_=>trivial
 | .ownV ..,_=>trivial
 | .ptr k' o,h=>by
  simp only [frzV];split
  ·trivial
  ·rename_i hne;exact ⟨h,hne⟩
 | .nilp,_=>trivial
 | .f _,_=>trivial
 | .nils _,_=>trivial
 | .cref _,_=>trivial
 | .sl sz k' o n c,h=>by
  simp only [frzV];split
  ·split
   ·exact Qbfc
   ·trivial
  ·rename_i hne;exact ⟨h,hne⟩
 | .clo _ cs,h=>ons_frz k ds cs h
 | .mp k',h=>by
  simp only [frzV];split
  ·trivial
  ·rename_i hne;exact ⟨h,hne⟩
theorem ons_frz {p:Nat→Prop} (k:Nat) (ds:List D):∀ vs:List V,V.ons p vs→V.ons (fun j=>p j∧j≠k) (frzVs k ds vs)
 | [],_=>trivial
 | v::vs,h=>⟨Qbbr k ds v h.1,ons_frz k ds vs h.2⟩
end
theorem Q8t {imm:Nat→Nat→Prop} {w:World} {b:Nat}:∀ (j:Nat) {ds:List D} {o:Nat},RDc imm w b ds o→RDc imm w b (ds.drop j) (o+j)
 | 0,_,_,h=>h
 | j+1,[],o,h=>by simp [RDc]
 | j+1,d::ds,o,h=>by
  simp only [RDc] at h;have:=Q8t j h.2.2
  grind
def G.frz (g:G) (k n:Nat) [DecidablePred fun b=>b=g.box k]:G:=⟨g.box,fun b o=>g.imm b o∨(b=g.box k∧o<n),fun b=>if b=g.box k then .ext else g.own b⟩
section
variable {g:G} {w:World} {k:Nat} {ds:List D} (hB:g.own (g.box k) = .box k) (hD:RDc (g.frz k ds.length).imm w (g.box k) ds 0)
include hB hD
theorem Q5a:Imm g.imm (g.frz k ds.length).imm w w:=⟨fun _ _ h=>.inl h,fun _ _ _=>rfl⟩
mutual
theorem Qbbs:∀ (v:V) (ℓ:Owner) (u:Value),ℓ ≠ .box k→RV g w v ℓ u→RV (g.frz k ds.length) w (frzV k ds v) ℓ u
 | .und,_,_,_,_=>by simp [frzV,RV]
 | .d x,_,_,_,h=>by
  simp only [frzV,RV] at h ⊢;exact Qfl (Q5a hB hD) x _ h
 | .agg cs,ℓ,u,hl,h=>by
  simp only [frzV,RV] at h ⊢;obtain ⟨vs,rfl,h,h1⟩:=h;exact ⟨vs,rfl,RVs_frz cs ℓ 0 vs h,h1⟩
 | .tup cs,ℓ,u,hl,h=>by
  simp only [frzV,RV] at h ⊢;obtain ⟨vs,rfl,h⟩:=h;exact ⟨vs,rfl,RVs_frz cs ℓ 0 vs h⟩
 | .own sz l,ℓ,u,hl,h=>by
  simp only [frzV,RV] at h ⊢;rcases h with h|⟨b,cap,vals,e,h1,h2,h3,h4,h5,h6,h7,h8⟩
  ·exact .inl h
  ·have hne:b≠g.box k:=by rintro rfl;rw [hB] at h2;exact hl h2.symm
   refine .inr ⟨b,cap,vals,e,h1,by simp [G.frz,hne,h2],h3,h4,h5,h6,fun o=>?_,RDL_mono (Q5a hB hD) sz b l 0 h8⟩;rw [← h7 o];simp [G.frz,hne]
 | .ownT sz l,ℓ,u,hl,h=>by
  simp only [frzV,RV] at h ⊢;rcases h with h|⟨b,o0,cap,vals,e,h1,h2,h3,h4,h5,h6,h7,h8⟩
  ·exact .inl h
  ·have hne:b≠g.box k:=by rintro rfl;rw [hB] at h2;exact hl h2.symm
   refine .inr ⟨b,o0,cap,vals,e,h1,by simp [G.frz,hne,h2],h3,h4,h5,h6,fun o=>?_,RDL_mono (Q5a hB hD) sz b l o0 h8⟩;rw [← h7 o];simp [G.frz,hne]
 | .ownV sz l,ℓ,u,hl,h=>by
  simp only [frzV,RV] at h ⊢;rcases h with h|⟨b,cap,vals,e,h1,h2,h3,h4,h5,h6,h7,h8⟩
  ·exact .inl h
  ·have hne:b≠g.box k:=by rintro rfl;rw [hB] at h2;exact hl h2.symm
   exact .inr ⟨b,cap,vals,e,h1,by simp [G.frz,hne,h2],h3,h4,h5,h6,fun o=>by simp [G.frz,hne,h7 o],h8⟩
 | .ptr k' o,ℓ,u,hl,h=>by
  simp only [frzV];split
  ·rename_i he;subst he;simp only [RV] at h ⊢;have:=Q8t o hD;rw [Nat.zero_add] at this;exact ⟨_,_,h,this⟩
  ·simpa [RV,G.frz] using h
 | .nilp,_,_,_,h=>by simpa [frzV,RV] using h
 | .f x,_,u,_,h=>by
  simp only [frzV,RV] at h ⊢;exact Qfl (Q5t (g:=g) (g':=g.frz k ds.length) fun b o h1 h2=>⟨.inl h1,by simp only [G.frz];split<;>first|rfl|exact h2⟩) x u h
 | .nils _,_,_,_,h=>by simpa [frzV,RV] using h
 | .cref cs,ℓ,u,hl,h=>by
  simp only [frzV,RV] at h ⊢;obtain ⟨b,o,rfl,h⟩:=h;exact ⟨b,o,rfl,Qzb (Q5a hB hD) b cs o h⟩
 | .sl sz k' o n c,ℓ,u,hl,h=>by
  simp only [frzV];split
  ·rename_i he;subst he;split
   ·rename_i hc;have hlen:((ds.drop o).take (n*sz)).length=n*sz:=by simp;omega
    obtain ⟨h1,h2,h3⟩:=Qsw n sz _ hlen;simp only [RV] at h;have key:∀ i x j y,(Qix sz n ((ds.drop o).take (n*sz)))[i]? = some x→x[j]? = some y→(g.frz k' ds.length).imm (g.box k') (o+i*sz+j)∧∃ u,w.cell? ⟨g.box k',o+i*sz+j,none⟩=some u∧RD (g.frz k' ds.length).imm w y u:=by
     intro i x j y hx hy;have h4:=h3 i x j y hx hy;rw [List.getElem?_take] at h4;split at h4
     ·rw [List.getElem?_drop] at h4;have:=Qni hD _ y h4;rw [show 0+(o+(i*sz+j))=o+i*sz+j from by omega] at this;exact this
     ·cases h4
    unfold frzL;split
    ·rename_i hp;simp only [RV,RD];refine ⟨_,c,by rw [h1];exact h,by rw [h1];exact hc.2,.inr ⟨_,o,rfl,Qzd fun i x hx=>⟨h2 x (List.mem_of_getElem? hx),Qu9 fun j y hy=>?_⟩⟩⟩;obtain ⟨q1,q,q2,q3⟩:=key i x j y hx hy;refine ⟨⟨q1,by simp [G.frz],.inl (by rw [q2];rfl)⟩,q,q2,Qbgc ?_ q3⟩;exact List.all_eq_true.1 (List.all_eq_true.1 hp x (List.mem_of_getElem? hx)) y (List.mem_of_getElem? hy)
    ·simp only [RV,RD];refine ⟨_,c,by rw [h1];exact h,by rw [h1];exact hc.2,.inr ⟨_,o,rfl,Qzd fun i x hx=>⟨h2 x (List.mem_of_getElem? hx),Qu9 fun j y hy=>key i x j y hx hy⟩⟩⟩
   ·simp [RV]
  ·simpa [RV,G.frz] using h
 | .clo f cs,ℓ,u,hl,h=>by
  simp only [frzV,RV] at h ⊢;obtain ⟨vs,rfl,h⟩:=h;exact ⟨vs,rfl,RVs_frz cs .ext 0 vs h⟩
 | .mp k',ℓ,u,hl,h=>by
  simp only [frzV];split
  ·simp [RV]
  ·simpa [RV,G.frz] using h
theorem RVs_frz:∀ (cs:List V) (ℓ:Owner) (i:Nat) (us:List Value),RVs g w cs ℓ i us→RVs (g.frz k ds.length) w (frzVs k ds cs) ℓ i us
 | [],_,_,_,h=>by simpa [frzVs,RVs] using h
 | c::cs,ℓ,i,us,h=>by
  simp only [frzVs,RVs] at h ⊢;obtain ⟨u,us',rfl,h1,h2⟩:=h;have hne:ℓ.sub i ≠ .box k:=by cases ℓ<;>simp [Owner.sub]
  exact ⟨u,us',rfl,Qbbs c (ℓ.sub i) u hne h1,RVs_frz cs ℓ (i+1) us' h2⟩
end
end
def PreD (cs:List V) (ds:List D):Prop:=ds.length≤cs.length∧∀ (j:Nat) v d,cs[j]? = some v→ds[j]? = some d→v.toD=some d
theorem PreD.of {cs:List V} {ds:List D} (h:toDs cs=some ds):PreD cs ds:=⟨Nat.le_of_eq (Qt9 h).1,(Qt9 h).2⟩
theorem PreD.app {cs tl:List V} {ds:List D} (h:toDs cs=some ds):PreD (cs++tl) ds:=by
 obtain ⟨h1,h2⟩:=Qt9 h;refine ⟨by simp;omega,fun j v d hv hd=>?_⟩
 grind
theorem Q6p {g:G} {w:World} {M:Mem} {nb k:Nat} {cs:List V} {ds:List D} [DecidablePred fun b=>b=g.box k] (hm:MR g w M nb) (hM:M k=some (.cells cs)) (hd:PreD cs ds):RDc (g.frz k ds.length).imm w (g.box k) ds 0:=by
 obtain ⟨hl,hg⟩:=hd;refine Qu9 fun j y hj=>?_;have hlt:=(List.getElem?_eq_some_iff.1 hj).1;have hc:cs[j]? = some (cs[j]'(by omega)):=List.getElem?_eq_getElem _;obtain ⟨u,h1,h2,h3⟩:=Qt6 hm hM hc;refine ⟨.inr ⟨rfl,by omega⟩,u,by simpa using h1,?_⟩;exact Qfl ⟨fun _ _ h=>.inl h,fun _ _ _=>rfl⟩ y u (Qv9 (hg j _ y hc hj) h2)
def Qsa (n0 k:Nat) (f:V→V) (σ:St):St :=
 {
  s:=fun t=>f (σ.s t)
  M:=fun j=>if j=k then none else if j<n0 then σ.M j else
   match σ.M j with
   | some (.cells cs)=>some (.cells (cs.map f))
   | b=>b
  nb:=σ.nb }
abbrev Qbgd (n0 k:Nat) (ds:List D) (σ:St):St:=Qsa n0 k (frzV k ds) σ
variable {Γ:Env} {σ:St}
open Classical in
theorem Qbdi {k:Nat} {cs:List V} {ds:List D} (hk:Γ.n0≤k) (hM:σ.M k=some (.cells cs)) (hd:PreD cs ds):WeakSt Γ σ (Qbgd Γ.n0 k ds σ):=by
 intro a w g hs;have hB:g.own (g.box k) = .box k:=(hs.mem.box k _ hM).2.1;have hD:=Q6p hs.mem hM hd;have hsub:∀ ℓ i,ℓ≠Owner.box k→ℓ.sub i ≠ .box k:=by intro ℓ i _;cases ℓ<;>simp [Owner.sub]
 have hkept:Kept g w (g.frz k ds.length) w (fun j=>j≠k) (fun o=>o ≠ .box k):=by
  refine ⟨⟨fun _ _ h=>.inl h,fun _ _ _=>rfl⟩,fun _ _=>rfl,fun b hb _=>?_⟩;have hne:b≠g.box k:=by rintro rfl;exact hb hB
  exact ⟨by simp [G.frz,hne],rfl,fun o=>by simp [G.frz,hne]⟩
 have hthere:∀ j,(There σ.M j∧j≠k)→There (Qbgd Γ.n0 k ds σ).M j:=by
  rintro j ⟨h1,h2⟩;simp only [There,Qsa,h2,if_false] at h1 ⊢;split
  ·exact h1
  ·cases hj:σ.M j with
   | none=>simp [hj] at h1
   | some b=>cases b<;>rfl
 have hown:∀ j,j≠k→g.own (g.box j) = .box j→(g.frz k ds.length).own (g.box j) = .box j:=by
  intro j hj ho;have hne:g.box j≠g.box k:=by
   intro e;rw [e,hB] at ho;cases ho;exact hj rfl
  simp [G.frz,hne,ho]
 refine ⟨g.frz k ds.length,⟨⟨fun j b hb=>?_,fun b o hbo=>?_⟩,fun t=>Qbbs hB hD _ _ _ (by simp) (hs.slots t),hs.size,hs.defers,fun t=>Qdp hthere _ (Qbbr k ds _ (hs.onS t)),fun j cs' hb=>?_,hs.top,?_⟩⟩
 ·simp only [Qsa] at hb;split at hb
  ·cases hb
  ·rename_i hjk;split at hb
   ·rename_i hlt;obtain ⟨h1,h2,h3⟩:=hs.mem.box j b hb;refine ⟨h1,hown j hjk h2,?_⟩;cases b with
    | mp es c =>
     obtain ⟨ents,k1,k2⟩:=h3;exact ⟨ents,k1,Qi8 (g:=g) (g':=g.frz k ds.length) hkept (fun _=>by simp) k2⟩
    | cells cs2 =>
     obtain ⟨vals,e,k1,k2,k3⟩:=h3;have hon:=(hs.onM j cs2 hb).2 hlt;exact ⟨vals,e,k1,RVs_mono hkept hsub (by simp) _ _ _ _ (by intro e;cases e;exact hjk rfl) (ons_mono (fun i hi=>by omega) _ hon) k2,k3⟩
   ·split at hb
    ·rename_i hlt _ cs2 hcs;cases hb;obtain ⟨h1,h2,vals,e,k1,k2,k3⟩:=hs.mem.box j _ hcs;refine ⟨h1,hown j hjk h2,vals,e,k1,?_,k3⟩;rw [← Qs1];exact RVs_frz hB hD _ _ _ _ k2
    ·rename_i hne;obtain ⟨h1,h2,h3⟩:=hs.mem.box j b hb;cases b with
     | mp es c =>
      obtain ⟨ents,k1,k2⟩:=h3;exact ⟨h1,hown j hjk h2,ents,k1,Qi8 (g:=g) (g':=g.frz k ds.length) hkept (fun _=>by simp) k2⟩
     | cells cs2=>exact absurd hb (hne cs2)
 ·rcases hbo with hbo|⟨rfl,hlt⟩
  ·obtain ⟨h1,h2⟩:=hs.mem.imm b o hbo;refine ⟨h1,fun j=>?_⟩;simp only [G.frz];split
   ·simp
   ·exact h2 j
  ·refine ⟨?_,fun j=>by simp [G.frz]⟩;obtain ⟨_,_,vals,e,k1,_,_⟩:=hs.mem.box k _ hM;exact (Array.getElem?_eq_some_iff.1 k1).1
 ·simp only [Qsa] at hb;split at hb
  ·cases hb
  ·rename_i hjk;split at hb
   ·rename_i hlt;obtain ⟨h1,h2⟩:=hs.onM j cs' hb;refine ⟨ons_mono (fun i hi=>hthere i ⟨hi.1,?_⟩) _ (ons_and cs' h1 (h2 hlt)),h2⟩;have:=hi.2;omega
   ·split at hb
    ·rename_i hlt _ cs2 hcs;cases hb;refine ⟨?_,fun h=>absurd h hlt⟩;rw [← Qs1];exact ons_mono hthere _ (ons_frz k ds _ (hs.onM j cs2 hcs).1)
    ·rename_i hne;exact absurd hb (hne cs')
 ·have hf:=hs.fr;refine ⟨hf.os,hf.tape,hf.output,hf.size,⟨fun b o h=>.inl (hf.imm.mono b o h),hf.imm.look⟩,hf.box,fun b hb ho=>?_⟩;obtain ⟨h1,h2,h3⟩:=hf.old b hb ho;have hne:b≠g.box k:=by
   rintro rfl;rw [hB] at h1;rw [← h1] at ho;exact ho
  exact ⟨by simp [G.frz,hne,h1],h2,fun o=>by simp [G.frz,hne,h3]⟩
def FE (f:V→V) (s:Sl):List (Nat×V)→Prop
 | []=>True
 | (t,v)::E=>WkV (f (s t)) v∧FE f s E
theorem FE.at {f:V→V} {s:Sl}:∀ {E:List (Nat×V)},FE f s E→∀ t,WkV (f (s t)) (look E t)
 | [],_,t=>.und _
 | (u,v)::E,h,t=>by
  simp only [look];cases hb:Nat.beq t u with
  | true=>have:=Nat.eq_of_beq_eq_true hb;subst this;exact h.1
  | false=>exact FE.at h.2 t
def FB (f:V→V) (t0:Nat) (L:List (Nat×Bx)):List (Nat×Bx)→Prop
 | []=>True
 | (t,.cells cs')::L'=>(∃ cs,Qbu L t=some (.cells cs)∧Nat.beq t t0=false∧WkVs (cs.map f) cs')∧FB f t0 L L'
 | (t,.mp es c)::L'=>(Qbu L t=some (.mp es c)∧Nat.beq t t0=false)∧FB f t0 L L'
theorem FB.at {f:V→V} {t0:Nat} {L:List (Nat×Bx)}:∀ {L' : List (Nat×Bx)},FB f t0 L L'→∀ t b,Qbu L' t=some b→Nat.beq t t0=false ∧
  ((∃ cs' cs,b = .cells cs'∧Qbu L t=some (.cells cs)∧WkVs (cs.map f) cs')∨∃ es c,b = .mp es c∧Qbu L t=some (.mp es c))
 | [],_,t,b,hb=>by simp [Qbu] at hb
 | (u,.cells cs')::L',h,t,b,hb=>by
  simp only [Qbu] at hb;cases hbe:Nat.beq t u with
  | true =>
   have:=Nat.eq_of_beq_eq_true hbe;subst this;rw [hbe] at hb;simp only [cond_true,Option.some.injEq] at hb;obtain ⟨cs,h1,h2,h3⟩:=h.1
   grind
  | false =>
   rw [hbe] at hb;exact FB.at h.2 t b hb
 | (u,.mp es c)::L',h,t,b,hb=>by
  simp only [Qbu] at hb;cases hbe:Nat.beq t u with
  | true =>
   have:=Nat.eq_of_beq_eq_true hbe;subst this;rw [hbe] at hb;simp only [cond_true,Option.some.injEq] at hb;exact ⟨h.1.2,.inr ⟨es,c,hb.symm,h.1.1⟩⟩
  | false =>
   rw [hbe] at hb;exact FB.at h.2 t b hb
theorem Q4b (f:V→V) (t:Nat) {E E' : List (Nat×V)} {L:List (Nat×Bx)} {L' : List (Nat×Bx)} {M0:Mem} {nb:Nat} (hW:WeakSt Γ ⟨look E,Ql Γ.n0 L M0,nb⟩ (Qsa Γ.n0 (Γ.n0+t) f ⟨look E,Ql Γ.n0 L M0,nb⟩))
  (hE:FE f (look E) E') (hL:FB f t L L') (hk:(L.all fun p=>Nat.beq p.1 t||L'.any fun q=>Nat.beq p.1 q.1)=true) :
  WeakSt Γ ⟨look E,Ql Γ.n0 L M0,nb⟩ ⟨look E',Ql Γ.n0 (bxs L') M0,nb⟩:=by
 refine WeakSt.trans hW ?_;intro a w g hs;have hbase:∀ k,k<Γ.n0→(Qsa Γ.n0 (Γ.n0+t) f ⟨look E,Ql Γ.n0 L M0,nb⟩).M k=M0 k:=by
  intro k hk;have h1:k≠Γ.n0+t:=by omega
  simp_all [Qsa,if_false,if_true,Q8]
 have hown:∀ u cs,Nat.beq u t=false→Qbu L u=some (.cells cs)→(Qsa Γ.n0 (Γ.n0+t) f ⟨look E,Ql Γ.n0 L M0,nb⟩).M (Γ.n0+u)=some (.cells (cs.map f)):=by
  intro u cs h1 h2;have h3:u≠t:=fun e=>by subst e;simp at h1
  have h4:Γ.n0+u≠Γ.n0+t:=by omega
  have h5:¬ Γ.n0+u<Γ.n0:=by omega
  have h6:Ql Γ.n0 L M0 (Γ.n0+u)=some (.cells cs):=by rw [Qbt];exact h2
  simp only [Qsa,h4,if_false,h5,h6]
 have hownm:∀ u es c,Nat.beq u t=false→Qbu L u=some (.mp es c)→(Qsa Γ.n0 (Γ.n0+t) f ⟨look E,Ql Γ.n0 L M0,nb⟩).M (Γ.n0+u)=some (.mp es c):=by
  intro u es c h1 h2;have h3:u≠t:=fun e=>by subst e;simp at h1
  have h4:Γ.n0+u≠Γ.n0+t:=by omega
  have h5:¬ Γ.n0+u<Γ.n0:=by omega
  have h6:Ql Γ.n0 L M0 (Γ.n0+u)=some (.mp es c):=by rw [Qbt];exact h2
  simp only [Qsa,h4,if_false,h5,h6]
 have hsplit:∀ k,k<Γ.n0∨∃ u,k=Γ.n0+u:=fun k=>by
  rcases Nat.lt_or_ge k Γ.n0 with h|h
  ·exact .inl h
  ·exact .inr ⟨k-Γ.n0,by omega⟩
 have hthere:∀ k,There (Qsa Γ.n0 (Γ.n0+t) f ⟨look E,Ql Γ.n0 L M0,nb⟩).M k→There (Ql Γ.n0 (bxs L') M0) k:=by
  intro k hk';rcases hsplit k with h|⟨u,rfl⟩
  ·grind [There,Q8]
  ·simp only [There,Qbt];have h5:¬ Γ.n0+u<Γ.n0:=by omega
   have h4:Γ.n0+u≠Γ.n0+t:=by
    grind [There,Qsa]
   have h7:∃ b,Qbu L u=some b:=by
    cases hb:Qbu L u with
    | some b=>exact ⟨b,rfl⟩
    | none =>
     have h6:Ql Γ.n0 L M0 (Γ.n0+u)=none:=by rw [Qbt];exact hb
     simp only [There,Qsa,h4,if_false,h5,h6] at hk';cases hk'
   obtain ⟨b,hb⟩:=h7;obtain ⟨p,hp,rfl⟩:=Qs0 hb;have:=List.all_eq_true.1 hk p hp;rw [Bool.or_eq_true] at this;rcases this with h8|h8
   ·simp_all
   ·obtain ⟨q,hq,he⟩:=List.any_eq_true.1 h8
    grind [Nat.eq_of_beq_eq_true,Qxo]
 refine ⟨g,⟨⟨fun k b hb=>?_,hs.mem.imm⟩,fun t=>(hE.at t).rd _ _ _ _ (hs.slots t),hs.size,hs.defers,fun t=>Qdp hthere _ ((hE.at t).on _ (hs.onS t)),fun k cs hb=>?_,hs.top,hs.fr⟩⟩
 ·rcases hsplit k with h|⟨u,rfl⟩
  ·have hb' : (Qsa Γ.n0 (Γ.n0+t) f ⟨look E,Ql Γ.n0 L M0,nb⟩).M k=some b:=by grind [Q8]
   exact hs.mem.box k b hb'
  ·have hb' : Qbu (bxs L') u=some b:=by rw [← hb];exact Qbt.symm
   obtain ⟨h2,⟨cs',cs,rfl,h1,h3⟩|⟨es,c,rfl,h1⟩⟩:=hL.at u b hb'
   ·obtain ⟨k1,k2,vals,e,k3,k4,k5⟩:=hs.mem.box _ _ (hown u cs h2 h1);exact ⟨k1,k2,vals,e,k3,h3.rd _ _ _ _ _ k4,k5⟩
   ·exact hs.mem.box _ _ (hownm u es c h2 h1)
 ·rcases hsplit k with h|⟨u,rfl⟩
  ·have hb' : (Qsa Γ.n0 (Γ.n0+t) f ⟨look E,Ql Γ.n0 L M0,nb⟩).M k=some (.cells cs):=by grind [Q8]
   obtain ⟨k1,k2⟩:=hs.onM k cs hb';exact ⟨ons_mono hthere _ k1,k2⟩
  ·have hb' : Qbu (bxs L') u=some (.cells cs):=by rw [← hb];exact Qbt.symm
   obtain ⟨h2,⟨cs',cs0,he,h1,h3⟩|⟨es,c,he,h1⟩⟩:=hL.at u _ hb'<;>cases he;obtain ⟨k1,k2⟩:=hs.onM _ _ (hown u cs0 h2 h1);exact ⟨ons_mono hthere _ (h3.on _ k1),fun hlt=>absurd hlt (by omega)⟩
theorem Q1b (t:Nat) {E E' : List (Nat×V)} {L:List (Nat×Bx)} {L' : List (Nat×Bx)} {M0:Mem} {nb:Nat} {cs:List V} (ds:List D) (hM:Qbu L t=some (.cells cs)) (hd:PreD cs ds)
  (hE:FE (frzV (Γ.n0+t) ds) (look E) E') (hL:FB (frzV (Γ.n0+t) ds) t L L') (hk:(L.all fun p=>Nat.beq p.1 t||L'.any fun q=>Nat.beq p.1 q.1)=true) :
  WeakSt Γ ⟨look E,Ql Γ.n0 L M0,nb⟩ ⟨look E',Ql Γ.n0 (bxs L') M0,nb⟩ :=
 Q4b (frzV (Γ.n0+t) ds) t (Qbdi (σ:=⟨look E,Ql Γ.n0 L M0,nb⟩) (k:=Γ.n0+t) (by omega) (by grind [Ql,Qbt]) hd) hE hL hk
theorem Qeo (t:Nat) {E E' : List (Nat×V)} {L:List (Nat×Bx)} {L' : List (Nat×Bx)} {M0:Mem} {nb:Nat} {cs:List V} (ds:List D) (hM:Qbu L t=some (.cells cs)) (hd:toDs cs=some ds)
  (hE:FE (frzV (Γ.n0+t) ds) (look E) E') (hL:FB (frzV (Γ.n0+t) ds) t L L') (hk:(L.all fun p=>Nat.beq p.1 t||L'.any fun q=>Nat.beq p.1 q.1)=true) :
  WeakSt Γ ⟨look E,Ql Γ.n0 L M0,nb⟩ ⟨look E',Ql Γ.n0 (bxs L') M0,nb⟩ :=
 Q1b t ds hM (.of hd) hE hL hk
theorem fPtr {n0 t u o:Nat} {ds:List D} (h:Nat.beq u t=false):WkV (frzV (n0+t) ds (.ptr (n0+u) o)) (.ptr (n0+u) o):=by
 have:¬ n0+u=n0+t:=by
  intro e
  simp_all
 exact .same (by simp only [frzV];rw [if_neg this])
theorem fSlO {n0 t u sz o n c:Nat} {ds:List D} (h:Nat.beq u t=false):WkV (frzV (n0+t) ds (.sl sz (n0+u) o n c)) (.sl sz (n0+u) o n c):=by
 have:¬ n0+u=n0+t:=by
  intro e
  simp_all
 exact .same (by simp only [frzV];rw [if_neg this])
theorem fSl {n0 t sz o n c:Nat} {ds:List D} {l:List (List D)} (h:(Nat.ble (o+n*sz) ds.length&&Nat.ble n c)=true) (hl:Qix sz n ((ds.drop o).take (n*sz))=l):WkV (frzV (n0+t) ds (.sl sz (n0+t) o n c)) (.d (.lst sz l)):=by
 simp only [Bool.and_eq_true] at h
 grind [Nat.le_of_ble_eq_true,frzV,frzL,Q8s]
def nilO {α R:Type} [DecidableEq R] (l:List α) (K:Bool→Option R):Option R :=
 match l with
 | []=>if K true=K false then K false else none
 | _::_=>K false
theorem Qbbt {α R:Type} [DecidableEq R] {l:List α} {K:Bool→Option R} {r:R} (h:nilO l K=some r) (b:Bool) (hb:b=true→l.length=0):K b=some r:=by
 cases l with
 | nil =>
  simp only [nilO] at h;split at h
  ·rename_i he;cases b with
   | true=>rw [he];exact h
   | false=>exact h
  ·cases h
 | cons x l =>
  cases b with
  | true=>simp at hb
  | false=>exact h
variable {pc d nb:Nat} {os:List COp} {E:List (Nat×V)} {M:Mem} {Q:St→Prop} {gd:Option (Nat×Bool)} {a:Arg}
theorem Rn.isnil {α R:Type} [DecidableEq R] {e:α→List D} {sz:Nat} {xs:List α} {neg:Bool} {J:Bool→Option R} {r:R} (hw:Wn E gd) (ha:(a.val (look E)).dem = .d (.lst sz (xs.map e))) (h:nilO xs J=some r)
  (hk:∀ b,J b=some r→Rn Γ 9 os ⟨look ((d,.d (.bool (bif neg then !b else b)))::E),M,nb⟩ Q):Rn Γ 9 (⟨some d,.isnil neg,[a],false,gd⟩::os) ⟨look E,M,nb⟩ Q:=by
 refine Rn.cons ?_;unfold COp.run;rw [hw.wanted];simp only [show (Abs.K.isnil neg).isCall=false from rfl,show (Abs.K.isnil neg).isNil=true from rfl,Bool.false_eq_true,if_false,if_true,COp.runN,COp.xs,List.map_cons,List.map_nil,V.dems,ha,Q1y,List.length_map,Abs.K.negNil];intro b hb;have e1:∀ v,Qbd (look E) (some d) v=look ((d,v)::E):=fun v=>Qcj E d v;have h2:=hk b (Qbbt h b hb)
 grind
end Go.Abs
end
section
namespace Go.Abs
open Go
variable {Γ:Env} {σ:St}
def G.ow (g:G) (k n:Nat) (ℓ:Owner) [DecidablePred fun b=>b=g.box k]:G:=⟨g.box,fun b o=>g.imm b o∨(b=g.box k∧o<n),fun b=>if b=g.box k then ℓ else g.own b⟩
section
variable {g:G} {w:World} {k n:Nat} {ℓ0:Owner} (hB:g.own (g.box k) = .box k)
include hB
mutual
theorem Qbge [DecidablePred fun b=>b=g.box k]:∀ (v:V) (ℓ:Owner) (u:Value),ℓ ≠ .box k→RV g w v ℓ u→RV (g.ow k n ℓ0) w v ℓ u
 | .und,_,_,_,_=>by simp [RV]
 | .d x,_,_,_,h=>by
  simp only [RV] at h ⊢;exact Qfl ⟨fun _ _ h=>.inl h,fun _ _ _=>rfl⟩ x _ h
 | .agg cs,ℓ,u,hl,h=>by
  simp only [RV] at h ⊢;obtain ⟨vs,rfl,h,h1⟩:=h;exact ⟨vs,rfl,RVs_ow cs ℓ 0 vs h,h1⟩
 | .tup cs,ℓ,u,hl,h=>by
  simp only [RV] at h ⊢;obtain ⟨vs,rfl,h⟩:=h;exact ⟨vs,rfl,RVs_ow cs ℓ 0 vs h⟩
 | .own sz l,ℓ,u,hl,h=>by
  simp only [RV] at h ⊢;rcases h with h|⟨b,cap,vals,e,h1,h2,h3,h4,h5,h6,h7,h8⟩
  ·exact .inl h
  ·have hne:b≠g.box k:=by rintro rfl;rw [hB] at h2;exact hl h2.symm
   refine .inr ⟨b,cap,vals,e,h1,by simp [G.ow,hne,h2],h3,h4,h5,h6,fun o=>?_,RDL_mono ⟨fun _ _ h=>.inl h,fun _ _ _=>rfl⟩ sz b l 0 h8⟩;rw [← h7 o];simp [G.ow,hne]
 | .ownT sz l,ℓ,u,hl,h=>by
  simp only [RV] at h ⊢;rcases h with h|⟨b,o0,cap,vals,e,h1,h2,h3,h4,h5,h6,h7,h8⟩
  ·exact .inl h
  ·have hne:b≠g.box k:=by rintro rfl;rw [hB] at h2;exact hl h2.symm
   refine .inr ⟨b,o0,cap,vals,e,h1,by simp [G.ow,hne,h2],h3,h4,h5,h6,fun o=>?_,RDL_mono ⟨fun _ _ h=>.inl h,fun _ _ _=>rfl⟩ sz b l o0 h8⟩;rw [← h7 o];simp [G.ow,hne]
 | .ownV sz l,ℓ,u,hl,h=>by
  simp only [RV] at h ⊢;rcases h with h|⟨b,cap,vals,e,h1,h2,h3,h4,h5,h6,h7,h8⟩
  ·exact .inl h
  ·have hne:b≠g.box k:=by rintro rfl;rw [hB] at h2;exact hl h2.symm
   exact .inr ⟨b,cap,vals,e,h1,by simp [G.ow,hne,h2],h3,h4,h5,h6,fun o=>by simp [G.ow,hne,h7 o],h8⟩
 | .ptr k' o,ℓ,u,hl,h=>by simpa [RV,G.ow] using h
 | .nilp,_,_,_,h=>by simpa [RV] using h
 | .f x,_,u,_,h=>by
  simp only [RV] at h ⊢;refine Qfl (Q5t (g:=g) (g':=g.ow k n ℓ0) fun b o h1 h2=>⟨.inl h1,?_⟩) x u h;have hne:b≠g.box k:=by rintro rfl;rw [hB] at h2;cases h2
  simp [G.ow,hne,h2]
 | .nils _,_,_,_,h=>by simpa [RV] using h
 | .cref cs,ℓ,u,hl,h=>by
  simp only [RV] at h ⊢;obtain ⟨b,o,rfl,h⟩:=h;exact ⟨b,o,rfl,Qzb ⟨fun _ _ h=>.inl h,fun _ _ _=>rfl⟩ b cs o h⟩
 | .sl sz k' o n c,ℓ,u,hl,h=>by simpa [RV,G.ow] using h
 | .clo f cs,ℓ,u,hl,h=>by
  simp only [RV] at h ⊢;obtain ⟨vs,rfl,h⟩:=h;exact ⟨vs,rfl,RVs_ow cs .ext 0 vs h⟩
 | .mp k',ℓ,u,hl,h=>by simpa [RV,G.ow] using h
theorem RVs_ow [DecidablePred fun b=>b=g.box k]:∀ (cs:List V) (ℓ:Owner) (i:Nat) (us:List Value),RVs g w cs ℓ i us→RVs (g.ow k n ℓ0) w cs ℓ i us
 | [],_,_,_,h=>by simpa [RVs] using h
 | c::cs,ℓ,i,us,h=>by
  simp only [RVs] at h ⊢;obtain ⟨u,us',rfl,h1,h2⟩:=h;have hne:ℓ.sub i ≠ .box k:=by cases ℓ<;>simp [Owner.sub]
  exact ⟨u,us',rfl,Qbge c (ℓ.sub i) u hne h1,RVs_ow cs ℓ (i+1) us' h2⟩
end
end
open Classical in
theorem Qbdj {t t0 sz n:Nat} {cs:List V} {ds:List D} (hM:σ.M (Γ.n0+t)=some (.cells cs)) (hd:toDs cs=some ds) (hs0:σ.s t0 = .sl sz (Γ.n0+t) 0 n n) (hn:(Nat.beq (n*sz) ds.length&&Nat.ble n 65536)=true) :
  WeakSt Γ σ ⟨(Ql2 Γ.n0 [t] σ).s.put t0 (.own sz (Qix sz n ds)),(Ql2 Γ.n0 [t] σ).M,σ.nb⟩:=by
 intro a w g hs;simp only [Bool.and_eq_true] at hn;have hn1:n*sz=ds.length:=Nat.eq_of_beq_eq_true hn.1;have hn2:=Nat.le_of_ble_eq_true hn.2;have hc:=Q1u hs [t];have hB:g.own (g.box (Γ.n0+t)) = .box (Γ.n0+t):=(hs.mem.box _ _ hM).2.1;obtain ⟨hl,hg⟩:=Qt9 hd;have hself:Qjq Γ.n0 [t] (Γ.n0+t)=true:=by simp [Qjq]
 have hgone:∀ j,There (Ql2 Γ.n0 [t] σ).M j→j≠Γ.n0+t:=by
  rintro j hj rfl;simp [There,Ql2,hself] at hj
 have hD:RDc (g.ow (Γ.n0+t) (n*sz) (.slot t0 [])).imm w (g.box (Γ.n0+t)) ds 0:=by
  refine Qu9 fun j y hj=>?_;have hlt:=(List.getElem?_eq_some_iff.1 hj).1;have hcj:cs[j]? = some (cs[j]'(by omega)):=List.getElem?_eq_getElem _;obtain ⟨u,h1,h2,h3⟩:=Qt6 hs.mem hM hcj;refine ⟨.inr ⟨rfl,by omega⟩,u,by simpa using h1,?_⟩;exact Qfl ⟨fun _ _ h=>.inl h,fun _ _ _=>rfl⟩ y u (Qv9 (hg j _ y hcj hj) h2)
 refine ⟨g.ow (Γ.n0+t) (n*sz) (.slot t0 []),⟨⟨fun j b hb=>?_,fun b o hbo=>?_⟩,fun i=>?_,hs.size,hs.defers,fun i=>?_,hc.onM,hs.top,?_⟩⟩
 ·have hjk:=hgone j (by simp [There,show (Ql2 Γ.n0 [t] σ).M j=some b from hb]);obtain ⟨h1,h2,h3⟩:=hc.mem.box j b hb;have hne:g.box j≠g.box (Γ.n0+t):=by
   intro e;rw [e,hB] at h2;cases h2;exact hjk rfl
  refine ⟨h1,by simp [G.ow,hne,h2],?_⟩;cases b with
  | mp es c =>
   obtain ⟨ents,k1,k2⟩:=h3;exact ⟨ents,k1,Q5w (g:=g) (g':=g.ow (Γ.n0+t) (n*sz) (.slot t0 [])) ⟨fun _ _ h=>.inl h,fun _ _ _=>rfl⟩ (fun b i hbi _=>by have hne2:b≠g.box (Γ.n0+t):=(by rintro rfl;rw [hB] at hbi;cases hbi);exact ⟨by simp [G.ow,hne2,hbi],rfl,fun o=>by simp [G.ow,hne2]⟩) k2⟩
  | cells cs2 =>
   obtain ⟨vals,e,k1,k2,k3⟩:=h3;exact ⟨vals,e,k1,RVs_ow hB _ _ _ _ k2,k3⟩
 ·rcases hbo with hbo|⟨rfl,hlt⟩
  ·obtain ⟨h1,h2⟩:=hs.mem.imm b o hbo;refine ⟨h1,fun j=>?_⟩;simp only [G.ow];split
   ·simp
   ·exact h2 j
  ·refine ⟨?_,fun j=>by simp [G.ow]⟩;obtain ⟨_,_,vals,e,k1,_,_⟩:=hs.mem.box _ _ hM;exact (Array.getElem?_eq_some_iff.1 k1).1
 ·simp only [Sl.put];split
  ·rename_i he;subst he;have h0:=hs.slots i;rw [hs0] at h0;simp only [RV] at h0 ⊢;obtain ⟨_,_,vals,e,k1,k2,k3⟩:=hs.mem.box _ _ hM;have hvl:=Qng k2;obtain ⟨q1,q2,q3⟩:=Qsw n sz ds hn1.symm;refine .inr ⟨g.box (Γ.n0+t),n,vals.toArray,e,by rw [q1];exact h0,by simp [G.ow],k1,by omega,by unfold maxLen;omega,⟨by simp;omega,fun u hu=>k3 u (by simpa using hu)⟩,fun o=>?_,Qzd fun i x hx=>⟨q2 x (List.mem_of_getElem? hx),Qu9 fun j y hy=>?_⟩⟩
   ·have hno:¬ g.imm (g.box (Γ.n0+t)) o:=fun h=>(hs.mem.imm _ _ h).2 _ hB;simp [G.ow,hno,q1]
   ·have h4:=q3 i x j y hx hy;have:=Qni hD _ y h4;rw [show 0+(i*sz+j)=0+i*sz+j from by omega] at this;exact this
  ·exact Qbge hB _ _ _ (by simp) (hc.slots i)
 ·simp only [Sl.put];split
  ·trivial
  ·exact hc.onS i
 ·have hf:=hs.fr;refine ⟨hf.os,hf.tape,hf.output,hf.size,⟨fun b o h=>.inl (hf.imm.mono b o h),hf.imm.look⟩,hf.box,fun b hb ho=>?_⟩;obtain ⟨h1,h2,h3⟩:=hf.old b hb ho;have hne:b≠g.box (Γ.n0+t):=by
   rintro rfl;rw [hB] at h1;rw [← h1] at ho;exact ho
  exact ⟨by simp [G.ow,hne,h1],h2,fun o=>by simp [G.ow,hne,h3]⟩
theorem Qwg (t t0:Nat) {sz n:Nat} {E E' : List (Nat×V)} {L:List (Nat×Bx)} {L' : List (Nat×Bx)} {M0:Mem} {nb:Nat} {cs:List V} (ds:List D) (hM:Qbu L t=some (.cells cs)) (hd:toDs cs=some ds) (hs0:look E t0 = .sl sz (Γ.n0+t) 0 n n)
  (hn:(Nat.beq (n*sz) ds.length&&Nat.ble n 65536)=true) {l:List (List D)} (hl:Qix sz n ds=l) (hE:KL Γ.n0 [t] (look E) E') (hL:KB Γ.n0 [t] L L') (hk:(L.all fun p=>[t].any (Nat.beq p.1)||L'.any fun q=>Nat.beq p.1 q.1)=true) :
  WeakSt Γ ⟨look E,Ql Γ.n0 L M0,nb⟩ ⟨look ((t0,.own sz l)::E'),Ql Γ.n0 (bxs L') M0,nb⟩:=by
 intro a w g hs;subst hl;have hwk:∀ i,WkV ((Ql2 Γ.n0 [t] ⟨look E,Ql Γ.n0 L M0,nb⟩).s.put t0 (.own sz (Qix sz n ds)) i) (look ((t0,.own sz (Qix sz n ds))::E') i):=by
  intro i;simp only [Sl.put,look];cases hb:Nat.beq i t0 with
  | true=>grind [Nat.eq_of_beq_eq_true,WkV.refl]
  | false =>
   have:i≠t0:=fun e=>by subst e;simp at hb
   simp only [this,if_false,cond_false];exact hE.at i
 obtain ⟨g1,h1⟩:=Qbdj (σ:=⟨look E,Ql Γ.n0 L M0,nb⟩) (t:=t) (t0:=t0) (by grind [Ql,Qbt]) hd hs0 hn a w g hs;exact Q8r (Γ:=Γ) (sites:=[t]) (E:=E) hwk hL hk a w g1 h1
variable {pc d nb:Nat} {os:List COp} {E:List (Nat×V)} {M M0:Mem} {L:List (Nat×Bx)} {Q:St→Prop} {gd:Option (Nat×Bool)} {b:Arg} {α:Type} {e:α→List D}
theorem Rn.app0 {t u sz bytes:Nat} {ys zs:List α} {src:V} {cs:List V} (hw:Wn E gd) (ha:look E t = .sl sz (Γ.n0+u) 0 0 0) (hM:Qbu L u=some (.cells cs)) (hb:b.val (look E)=src) (hf:src.dem=src) (hs:Qf8 (Ql Γ.n0 L M0) sz src=some (ys.map e)) (hx:appO ([]:List α) ys=some zs) (hbd:(Nat.ble bytes 128&&Nat.ble 1 sz)=true)
  (h:Rn Γ pc os ⟨look ((d,.own sz (zs.map e))::E),Ql Γ.n0 L M0,nb⟩ Q):Rn Γ pc (⟨some d,.append sz bytes,[.t t,b],true,gd⟩::os) ⟨look E,Ql Γ.n0 L M0,nb⟩ Q:=by
 unfold appO at hx;split at hx<;>cases hx;rename_i hl;simp only [Bool.and_eq_true] at hbd;have h1:=Nat.le_of_ble_eq_true hbd.1;have h2:0<sz:=Nat.le_of_ble_eq_true hbd.2;have hm:[Arg.t t,b].map (fun x=>x.val (look E))=[V.sl sz (Γ.n0+u) 0 0 0,src]:=by
  simp only [List.map_cons,List.map_nil,hb];rw [show (Arg.t t).val (look E)=_ from ha]
 have he:Qf8 (Ql Γ.n0 L M0) sz (.sl sz (Γ.n0+u) 0 0 0)=some []:=by simp [Qf8,Qbf hM,toDs,Qix]
 refine Rn.kT hw rfl rfl (v:=.own sz (([]++ys).map e)) ?_ (fun i=>?_) h
 ·rw [hm];simp only [Qm,he,hs]
  grind
 ·rw [hm];simp only [Qb4,hf,show (V.sl sz (Γ.n0+u) 0 0 0).dem = .sl sz (Γ.n0+u) 0 0 0 from rfl,Qba,show ∀ s v,(Arg.t t).putTo s v=s.put t v from fun _ _=>rfl];have hz:∀ (a:Arg) (v:V) (s:Sl),a.val s=v→a.putTo s v=s:=by
   intro a v s hs;cases a with
   | c v=>rfl
   | t j =>
    simp only [Arg.val] at hs;funext i;simp_all [Arg.putTo,Sl.put]
  have e1:(look E).put t (.sl sz (Γ.n0+u) 0 0 0)=look E:=hz (.t t) _ _ ha;rw [e1,hz b src _ hb,Qcj]
end Go.Abs
namespace Go.Abs
open Go
theorem WkV.nilsO (sz:Nat):WkV (.nils sz) (.own sz []):=⟨fun g w ℓ u h=>by
 simp_all [RV,trivial],fun _ _=>trivial⟩
theorem WkV.nilsV (sz:Nat):WkV (.nils sz) (.ownV sz []):=⟨fun g w ℓ u h=>by
 simp only [RV] at h ⊢;exact .inl ⟨h,trivial⟩,fun _ _=>trivial⟩
theorem WkV.nilsD (sz:Nat):WkV (.nils sz) (.d (.lst sz [])):=⟨fun g w ℓ u h=>by
 simp only [RV] at h ⊢;obtain ⟨a,rfl⟩:=h;simp [RD],fun _ _=>trivial⟩
theorem WkVs.rf {g:G} {w:World} {vs vs' : List V} (h:WkVs vs vs'):∀ {us:List Value},RFs g w vs us→RFs g w vs' us:=by
 induction h with
 | nil=>exact fun h=>h
 | cons h t ih =>
  rintro us ⟨u,us',e,h1,h2⟩;exact ⟨u,us',e,fun ℓ=>h.rd _ _ _ _ (h1 ℓ),ih h2⟩
theorem RAs.weak {g:G} {w:World} {vs vs' : List V} (h:WkVs vs vs'):∀ {j:Nat} {us:List Value},RAs g w j vs us→RAs g w j vs' us:=by
 induction h with
 | nil=>exact fun h=>h
 | cons h t ih =>
  rintro j us ⟨u,us',e,h1,h2⟩;exact ⟨u,us',e,h.rd _ _ _ _ h1,ih h2⟩
theorem ACalls.weakO {P:Program} {f:FuncId} {args args' : List V} {M M' : Mem} {nb nb' : Nat} {r:V} (h:ACalls P f args' M nb r M' nb') (hw:WkVs args args'):ACalls P f args M nb r M' nb' :=
 ⟨h.1,h.2.1,fun w g us ht hm hMon hus hons=>h.2.2 w g us ht hm hMon (hus.weak hw) (hw.on _ hons)⟩
theorem ACalls.weak {P:Program} {f:FuncId} {args args' : List V} {M M' : Mem} {nb nb' : Nat} {r:V} (h:ACalls P f args' M nb r M' nb') (hw:WkVs args args') (hf:V.dems args'=args'):ACalls P f args M nb r M' nb':=h.weakO hw
end Go.Abs
end
section
namespace Go.Abs
open Go
variable {α:Type}
def Qb7 (g:α→List V) (xs:List α):List V:=(xs.map g).flatten
theorem Qi6 (g:α→List V) (x:α) (xs:List α):Qb7 g (x::xs)=g x++Qb7 g xs:=by simp [Qb7]
theorem Qwh {g:α→List V} {sz:Nat} (hg:∀ x,(g x).length=sz):∀ xs:List α,(Qb7 g xs).length=xs.length*sz
 | []=>by simp [Qb7]
 | x::xs=>by rw [Qi6,List.length_append,hg,Qwh hg xs,List.length_cons,Nat.add_mul];omega
theorem Q0l {g:α→List V} {sz:Nat} (hg:∀ x,(g x).length=sz):∀ (xs:List α) (i:Nat),i≤xs.length→(Qb7 g xs).drop (i*sz)=Qb7 g (xs.drop i)
 | xs,0,_=>by simp
 | [],i+1,h=>by simp at h
 | x::xs,i+1,h=>by
  rw [Qi6,Nat.add_mul,Nat.add_comm,Nat.one_mul,← List.drop_drop,show (g x++Qb7 g xs).drop sz=Qb7 g xs from by rw [← hg x];simp];rw [Q0l hg xs i (by simpa using h)]
  rfl
theorem Q4c {g:α→List V} {sz:Nat} (hg:∀ x,(g x).length=sz):∀ (xs:List α) (i:Nat),i≤xs.length→(Qb7 g xs).take (i*sz)=Qb7 g (xs.take i)
 | xs,0,_=>by simp [Qb7]
 | [],i+1,h=>by simp at h
 | x::xs,i+1,h=>by
  simp_all [Qi6,Nat.add_mul,Nat.add_comm,Nat.one_mul,List.take_append,List.take_of_length_le,Q4c,List.take_succ_cons]
theorem Qbbu {g:α→List V} {sz:Nat} (hg:∀ x,(g x).length=sz) {xs:List α} {i:Nat} {x:α} (hx:xs[i]? = some x):((Qb7 g xs).drop (i*sz)).take sz=g x:=by
 grind [List.getElem?_eq_some_iff,Q0l,List.drop_eq_getElem_cons,Qi6]
theorem Qbbv {g:α→List V} {sz:Nat} (hg:∀ x,(g x).length=sz) {xs:List α} {i:Nat} (y:α) (hi:i<xs.length):(Qb7 g xs).take (i*sz)++g y++(Qb7 g xs).drop (i*sz+sz)=Qb7 g (xs.set i y):=by
 rw [Q4c hg xs i (by omega),show i*sz+sz=(i+1)*sz from by grind,Q0l hg xs (i+1) (by omega)];rw [List.set_eq_take_append_cons_drop,if_pos hi];simp [Qb7]
theorem Qbbw (g:α→List V) (x:α) (n:Nat):Qb7 g (List.replicate n x)=rep n (g x):=by simp [Qb7,rep]
def mkO (n:Int) (x:α):Option (List α):=if 0≤n∧n≤lim then some (List.replicate n.toNat x) else none
def inO (len:Nat) (i:Int):Option Unit:=if 0≤i∧i<len then some () else none
def setO (l:List α) (i:Int) (y:α):Option (List α):=if 0≤i∧i.toNat<l.length then some (l.set i.toNat y) else none
variable {Γ:Env} {pc d nb:Nat} {os:List COp} {E:List (Nat×V)} {M M0:Mem} {L:List (Nat×Bx)} {Q:St→Prop} {gd:Option (Nat×Bool)} {a b:Arg} {g:α→List V} {xs:List α} {sz:Nat}
theorem Rn.makes {bytes:Nat} {z:List V} {n:Int} {x:α} (hw:Wn E gd) (ha:a.val (look E) = .d (.int .i64 n)) (hb:b.val (look E) = .d (.int .i64 n)) (hf:(Qbu L d).isNone=true) (hz:g x=z) (hc:(Nat.ble bytes 128&&Nat.beq z.length sz&&Nat.ble 1 sz)=true) (hx:mkO n x=some xs)
  (h:Rn Γ pc os ⟨look ((d,.sl sz (Γ.n0+d) 0 n.toNat n.toNat)::E),Ql Γ.n0 ((d,.cells (Qb7 g xs))::L) M0,nb⟩ Q):Rn Γ pc (⟨some d,.makes sz bytes z,[a,b],false,gd⟩::os) ⟨look E,Ql Γ.n0 L M0,nb⟩ Q:=by
 unfold mkO at hx;split at hx<;>cases hx;rename_i hn;simp only [Bool.and_eq_true] at hc;have h1:=Nat.le_of_ble_eq_true hc.1.1;have h2:z.length=sz:=Nat.eq_of_beq_eq_true hc.1.2;have h3:0<sz:=Nat.le_of_ble_eq_true hc.2;refine Rn.k hw rfl rfl ?_ h
 simp_all [List.map_cons,List.map_nil,V.dems,V.dem,Qm,Qqh,if_pos,Qeu,Qbbw]
theorem Rn.idxA {k len cap:Nat} {kk:IntKind} {i:Int} (hw:Wn E gd) (ha:(a.val (look E)).dem = .sl sz k 0 len cap) (hb:b.val (look E) = .d (.int kk i)) (hx:inO len i=some ()) (h:Rn Γ pc os ⟨look ((d,.ptr k (0+i.toNat*sz))::E),M,nb⟩ Q) :
  Rn Γ pc (⟨some d,.idx sz,[a,b],false,gd⟩::os) ⟨look E,M,nb⟩ Q:=by
 unfold inO at hx;split at hx<;>cases hx;rename_i hc;refine Rn.k hw rfl rfl ?_ h
 grind [V.dems,V.dem,Qm]
theorem Rn.loadA {k f n:Nat} {ag:Bool} {i:Int} {x:α} {v:V} (hg:∀ x,(g x).length=sz) (hw:Wn E gd) (ha:a.val (look E) = .ptr k (0+i.toNat*sz+f)) (hM:M k=some (.cells (Qb7 g xs))) (hx:getO xs i=some x) (hn:Nat.ble (f+max n 1) sz=true)
  (hv:(if ag then some (.agg (V.dems (((g x).drop f).take n))) else ((g x)[f]?).map (·.dem))=some v) (h:Rn Γ pc os ⟨look ((d,v)::E),M,nb⟩ Q):Rn Γ pc (⟨some d,.load ag n,[a],false,gd⟩::os) ⟨look E,M,nb⟩ Q:=by
 have hn:=Nat.le_of_ble_eq_true hn;unfold getO at hx;split at hx<;>try (cases hx;done)
 obtain ⟨hlt,hx'⟩:=List.getElem?_eq_some_iff.1 hx;have hl:=Qwh hg xs;have hge:=Qbbu hg hx;have hb:i.toNat*sz+sz≤xs.length*sz:=by
  grind
 refine Rn.k hw rfl rfl ?_ h;simp only [List.map_cons,List.map_nil,V.dems,ha,V.dem,Qm,hM];rw [if_pos (by rw [hl];omega)];have hdrop:(Qb7 g xs).drop (0+i.toNat*sz+f)=((Qb7 g xs).drop (i.toNat*sz)).drop f:=by simp_all
 cases ag with
 | true =>
  simp only [if_true,Option.some.injEq] at hv ⊢
  grind [List.drop_take,Min.min]
 | false =>
  grind
theorem Qbd9 {f:V→V} (h:∀ x,(g x).map f=g x):WkVs ((Qb7 g xs).map f) (Qb7 g xs):=by
 refine .same ?_
 grind [Qb7,List.map_map,List.map_congr_left]
def lenO (l:List α) (n:Nat):Option Unit:=if l.length=n then some () else none
theorem Qel {l:List α} {n:Nat} (h:lenO l n=some ()):l.length=n:=by
 grind [lenO]
theorem Q2s:∀ {a b:List V} {x y:List D},toDs a=some x→toDs b=some y→toDs (a++b)=some (x++y)
 | [],b,x,y,h,k=>by grind [toDs]
 | v::a,b,x,y,h,k=>by
  simp only [toDs] at h;split at h<;>try (cases h;done)
  rename_i d ds hd hds;cases h;simp only [List.cons_append,toDs,hd,Q2s hds k]
theorem Qs2 {e:α→List D} (h:∀ x,toDs (g x)=some (e x)):∀ xs:List α,toDs (Qb7 g xs)=some ((xs.map e).flatten)
 | []=>rfl
 | x::xs=>by rw [Qi6,List.map_cons,List.flatten_cons];exact Q2s (h x) (Qs2 h xs)
theorem Qug {e:α→List D} {sz:Nat} (h:∀ x,(e x).length=sz):∀ xs:List α,Qix sz xs.length ((xs.map e).flatten)=xs.map e
 | []=>rfl
 | x::xs=>by
  simp only [List.length_cons,Qix,List.map_cons,List.flatten_cons];have h1:(e x++(xs.map e).flatten).take sz=e x:=by rw [← h x];simp
  have h2:(e x++(xs.map e).flatten).drop sz=(xs.map e).flatten:=by rw [← h x];simp
  rw [h1,h2,Qug h xs]
theorem Quh {e:α→List D} {sz:Nat} (h:∀ x,(e x).length=sz):∀ xs:List α,((xs.map e).flatten).length=xs.length*sz
 | []=>by simp
 | x::xs=>by simp only [List.map_cons,List.flatten_cons,List.length_append,h,Quh h xs,List.length_cons,Nat.add_mul];omega
theorem fSlA {n0 t n:Nat} {e:α→List D} {xs:List α} (h:∀ x,(e x).length=sz) (hn:xs.length=n):WkV (frzV (n0+t) ((xs.map e).flatten) (.sl sz (n0+t) 0 n n)) (.d (.lst sz (xs.map e))):=by
 subst hn;have h1:=Quh h xs
 simp_all [List.drop_zero,List.take_of_length_le,frzV,if_true,if_pos,Nat.le_refl,Qug,Q8s]
end Go.Abs
end
section
namespace Go.Abs
open Go
def Qzk:D→Bool
 | .lst _ l=>l.isEmpty
 | .mp ..=>false
 | _=>true
def Qsb (l:List (List D)):Bool:=l.all fun x=>x.all Qzk
def Qh3:V→Bool
 | .d (.mp ..)=>true
 | .d x=>Qzk x
 | .own _ l=>Qsb l
 | .ownT _ l=>Qsb l
 | .cref cs=>cs.isEmpty
 | .agg cs=>go cs
 | .tup vs=>go vs
 | .clo _ vs=>go vs
 | _=>true
where go:List V→Bool
 | []=>true
 | v::vs=>Qh3 v&&go vs
theorem Q8u:∀ vs:List V,Qh3.go vs=true↔∀ v∈vs,Qh3 v=true
 | []=>by simp [Qh3.go]
 | v::vs=>by simp [Qh3.go,Q8u vs]
def Q1c:List (V×V×Nat)→Prop
 | []=>True
 | x::r=>Qh3 x.1=true∧Qh3 x.2.1=true∧Q1c r
theorem Qxp {imm imm' : Nat→Nat→Prop} {w:World} {x:D} {u:Value} (hp:Qzk x=true) (h:RD imm w x u):RD imm' w x u:=by
 cases x with
 | int k n=>simpa [RD] using h
 | bool b=>simpa [RD] using h
 | str s=>simpa [RD] using h
 | lst sz l =>
  simp_all [Qzk,List.isEmpty_iff,RD,trivial]
 | mp es c=>cases hp
theorem Q6q {imm imm' : Nat→Nat→Prop} {w:World} {b:Nat} (hi:∀ o,imm b o→imm' b o):∀ {xs:List D} {o:Nat},xs.all Qzk=true→RDc imm w b xs o→RDc imm' w b xs o
 | [],_,_,_=>by simp [RDc]
 | x::xs,o,hp,h=>by
  simp only [List.all_cons,Bool.and_eq_true] at hp;simp only [RDc] at h ⊢;obtain ⟨h1,⟨u,h2,h3⟩,h4⟩:=h;exact ⟨hi _ h1,⟨u,h2,Qxp hp.1 h3⟩,Q6q hi hp.2 h4⟩
theorem Q2t {imm imm' : Nat→Nat→Prop} {w:World} {sz b:Nat} (hi:∀ o,imm b o→imm' b o):∀ {l:List (List D)} {o:Nat},Qsb l=true→RDL imm w sz b l o→RDL imm' w sz b l o
 | [],_,_,_=>by simp [RDL]
 | x::l,o,hp,h=>by
  simp only [Qsb,List.all_cons,Bool.and_eq_true] at hp;simp only [RDL] at h ⊢;exact ⟨h.1,Q6q hi hp.1 h.2.1,Q2t hi (by simpa [Qsb] using hp.2) h.2.2⟩
theorem Q5b {imm:Nat→Nat→Prop} {w:World} {sz b:Nat}:∀ {l:List (List D)} {o:Nat},RDL imm w sz b l o→l.flatten.length=l.length*sz∧∀ (j:Nat) y,l.flatten[j]? = some y→∃ u,w.cell? ⟨b,o+j,none⟩=some u∧RD imm w y u
 | [],o,_=>by simp
 | x::l,o,h=>by
  simp only [RDL] at h;obtain ⟨h1,h2,h3⟩:=h;obtain ⟨h4,h5⟩:=Q5b h3;refine ⟨by simp [h1,h4,Nat.add_mul];omega,fun j y hj=>?_⟩;simp only [List.flatten_cons] at hj;by_cases hlt:j<x.length
  ·rw [List.getElem?_append_left hlt] at hj;obtain ⟨_,u,h6,h7⟩:=Qni h2 j y hj;exact ⟨u,h6,h7⟩
  ·rw [List.getElem?_append_right (by omega)] at hj;obtain ⟨u,h6,h7⟩:=h5 _ y hj;exact ⟨u,by rw [show o+j=o+sz+(j-x.length) from by omega];exact h6,h7⟩
def G.th (g:G) (b κ:Nat) [DecidablePred fun b'=>b'=b]:G:=⟨fun k=>if k=κ then b else g.box k,fun b' o=>g.imm b' o∧b' ≠ b,fun b'=>if b'=b then .box κ else g.own b'⟩
section
variable {g:G} {w:World} {b κ:Nat} {keep:Owner→Prop} (hB:¬ keep (g.own b)) (hs:∀ ℓ i,keep ℓ→keep (ℓ.sub i)) (he:keep .ext) (hm:Qp4 w b=none)
include hB hs he hm
mutual
theorem Q9r [DecidablePred fun b'=>b'=b]:∀ (v:V) (ℓ:Owner) (u:Value),Qh3 v=true→v.on (· ≠ κ)→keep ℓ→RV g w v ℓ u→RV (g.th b κ) w v ℓ u
 | .und,_,_,_,_,_,_=>by simp [RV]
 | .d x,_,u,hp,_,_,h=>by
  cases x with
  | mp es c =>
   simp only [RV,RD] at h ⊢;obtain ⟨b',h0,h1,h2⟩:=h;refine ⟨b',h0,⟨h1,?_⟩,h2⟩;rintro rfl;rw [hm] at h2;cases h2
  | int k n=>simp only [RV] at h ⊢;exact Qxp (x:=.int k n) rfl h
  | bool b=>simp only [RV] at h ⊢;exact Qxp (x:=.bool b) rfl h
  | str s=>simp only [RV] at h ⊢;exact Qxp (x:=.str s) rfl h
  | lst sz l=>simp only [RV] at h ⊢;exact Qxp (x:=.lst sz l) hp h
 | .agg cs,ℓ,u,hp,ho,hl,h=>by
  simp only [RV,Qh3] at hp h ⊢;obtain ⟨vs,rfl,h,h1⟩:=h;exact ⟨vs,rfl,RVs_th cs ℓ 0 vs hp ho hl h,h1⟩
 | .tup cs,ℓ,u,hp,ho,hl,h=>by
  simp only [RV,Qh3] at hp h ⊢;obtain ⟨vs,rfl,h⟩:=h;exact ⟨vs,rfl,RVs_th cs ℓ 0 vs hp ho hl h⟩
 | .own sz l,ℓ,u,hp,ho,hl,h=>by
  simp only [RV,Qh3] at hp h ⊢;rcases h with h|⟨b',cap,vals,e,h1,h2,h3,h4,h5,h6,h7,h8⟩
  ·exact .inl h
  ·have hne:b' ≠ b:=by rintro rfl;rw [h2] at hB;exact hB hl
   refine .inr ⟨b',cap,vals,e,h1,by simp [G.th,hne,h2],h3,h4,h5,h6,fun o=>?_,Q2t (fun o ho=>⟨ho,hne⟩) hp h8⟩;rw [← h7 o];simp [G.th,hne]
 | .ownT sz l,ℓ,u,hp,ho,hl,h=>by
  simp only [RV,Qh3] at hp h ⊢;rcases h with h|⟨b',o0,cap,vals,e,h1,h2,h3,h4,h5,h6,h7,h8⟩
  ·exact .inl h
  ·have hne:b' ≠ b:=by rintro rfl;rw [h2] at hB;exact hB hl
   refine .inr ⟨b',o0,cap,vals,e,h1,by simp [G.th,hne,h2],h3,h4,h5,h6,fun o=>?_,Q2t (fun o ho=>⟨ho,hne⟩) hp h8⟩;rw [← h7 o];simp [G.th,hne]
 | .ownV sz l,ℓ,u,hp,ho,hl,h=>by
  simp only [RV] at h ⊢;rcases h with h|⟨b',cap,vals,e,h1,h2,h3,h4,h5,h6,h7,h8⟩
  ·exact .inl h
  ·have hne:b' ≠ b:=by rintro rfl;rw [h2] at hB;exact hB hl
   exact .inr ⟨b',cap,vals,e,h1,by simp [G.th,hne,h2],h3,h4,h5,h6,fun o ho=>h7 o (by simpa [G.th,hne] using ho),h8⟩
 | .ptr k' o,ℓ,u,_,ho,hl,h=>by
  have:k' ≠ κ:=ho;simpa [RV,G.th,this] using h
 | .nilp,_,_,_,_,_,h=>by simpa [RV] using h
 | .f x,_,u,_,_,_,h=>by
  simp only [RV] at h ⊢;refine Qfl (Q5t (g:=g) (g':=g.th b κ) fun b' o h1 h2=>?_) x u h;have hne:b' ≠ b:=by rintro rfl;rw [h2] at hB;exact hB he
  exact ⟨⟨h1,hne⟩,by simp [G.th,hne,h2]⟩
 | .nils _,_,_,_,_,_,h=>by simpa [RV] using h
 | .cref cs,ℓ,u,hp,_,hl,h=>by
  simp only [Qh3,List.isEmpty_iff] at hp;subst hp;simp only [RV] at h ⊢;obtain ⟨b',o,rfl,_⟩:=h;exact ⟨b',o,rfl,by simp [RDc]⟩
 | .sl sz k' o n c,ℓ,u,_,ho,hl,h=>by
  have:k' ≠ κ:=ho;simpa [RV,G.th,this] using h
 | .clo f cs,ℓ,u,hp,ho,hl,h=>by
  simp only [RV,Qh3] at hp h ⊢;obtain ⟨vs,rfl,h⟩:=h;exact ⟨vs,rfl,RVs_th cs .ext 0 vs hp ho he h⟩
 | .mp k',ℓ,u,_,ho,hl,h=>by
  have:k' ≠ κ:=ho;simpa [RV,G.th,this] using h
theorem RVs_th [DecidablePred fun b'=>b'=b]:∀ (cs:List V) (ℓ:Owner) (i:Nat) (us:List Value),Qh3.go cs=true→V.ons (· ≠ κ) cs→keep ℓ→RVs g w cs ℓ i us→RVs (g.th b κ) w cs ℓ i us
 | [],_,_,_,_,_,_,h=>by simpa [RVs] using h
 | c::cs,ℓ,i,us,hp,ho,hl,h=>by
  simp only [Qh3.go,Bool.and_eq_true] at hp;simp only [RVs] at h ⊢;obtain ⟨u,us',rfl,h1,h2⟩:=h;exact ⟨u,us',rfl,Q9r c (ℓ.sub i) u hp.1 ho.1 (hs _ _ hl) h1,RVs_th cs ℓ (i+1) us' hp.2 ho.2 hl h2⟩
end
end
theorem Qbfd {g:G} {w:World} {b κ:Nat} {keep:Owner→Prop} [DecidablePred fun b'=>b'=b] (hB:¬ keep (g.own b)) (hs:∀ ℓ i,keep ℓ→keep (ℓ.sub i)) (he:keep .ext) (hm:Qp4 w b=none) {k:Nat} (hk:∀ i,keep (.cell k i)):∀ {es:List (V×V×Nat)} {ents:List MapEntry},Q1c es→RM g w k es ents→RM (g.th b κ) w k es ents
 | [],_,_,hr=>hr
 | x::r,_,hp,hr=>by
  simp only [RM] at hr ⊢;obtain ⟨e,t,rfl,⟨a1,a2⟩,⟨b1,b2⟩,h3,h4⟩:=hr;exact ⟨e,t,rfl,⟨a1,Q9r hB hs he hm _ _ _ hp.1 (Qv5 a1) he a2⟩,⟨b1,Q9r hB hs he hm _ _ _ hp.2.1 (Qbgx b1) (hk _) b2⟩,h3,Qbfd hB hs he hm hk hp.2.2 h4⟩
variable {Γ:Env} {σ:St}
def Qce (l:List (List D)) (room:Nat):List V:=l.flatten.map V.d++List.replicate room .und
structure Lone (Γ:Env) (M:Mem):Prop where
 prot:∀ b,b<Γ.w0.heap.size→Prot (Γ.g0.own b)∨∃ k,k<Γ.n0∧(M k).isSome=true∧b=Γ.g0.box k
 imm:∀ b o,Γ.g0.imm b o→b<Γ.w0.heap.size
structure Q8v (M:Mem):Prop where
 cells:∀ k cs,M k=some (.cells cs)→Qh3.go cs=true
 mps:∀ k es c,M k=some (.mp es c)→Q1c es
theorem Lone.old {Γ:Env} {M M' : Mem} {nb:Nat} (h:Lone Γ M) {g:G} {w:World} (hm:MR g w M' nb) (hB:∀ k,k<Γ.n0→(M k).isSome=true→(M' k).isSome=true) (hf:Fr Γ.n0 Γ.g0 Γ.w0 g w) {b:Nat} (hb:¬ Prot (g.own b)) (hb2:∀ k,g.own b ≠ .box k):¬ b<Γ.w0.heap.size:=by
 intro hlt;rcases h.prot b hlt with hp|⟨k,hk,hk1,rfl⟩
 ·obtain ⟨h1,_,_⟩:=hf.old b hlt hp;rw [h1] at hb;exact hb hp
 ·obtain ⟨bx,hbx⟩:=Option.isSome_iff_exists.1 (hB k hk hk1);have h1:=(hm.box k bx hbx).2.1;rw [hf.box k ⟨hk,hlt⟩] at h1;exact hb2 k h1
open Classical in
theorem Q6r {MB:Mem} (hG:Lone Γ MB) (hB:∀ k,k<Γ.n0→(MB k).isSome=true→(σ.M k).isSome=true) {a:Act} {w:World} {g:G} (hs:SR Γ.n0 Γ.nt Γ.g0 Γ.w0 σ a w g) {κ sz:Nat} {l:List (List D)} {ℓ:Owner} {u:Value} (keep:Owner→Prop) (hkeep:¬ keep ℓ) (hsub:∀ o i,keep o→keep (o.sub i)) (he:keep .ext) (hℓ:¬ Prot ℓ) (hℓ2:∀ k,ℓ ≠ .box k)
  (hown:RV g w (.own sz l) ℓ u) (hl:¬ ∃ ad,u = .slice ad 0 0) (hpl:Qsb l=true) (hκ:Γ.n0≤κ) (hκ2:κ<σ.nb) (hκM:σ.M κ=none) :
  ∃ c b,l.length≤c∧c≤maxLen∧u = .slice (some ⟨b,0,none⟩) l.length c∧g.own b=ℓ∧(g.th b κ).box κ=b∧BR (g.th b κ) w κ (.cells (Qce l ((c-l.length)*sz)))∧Fr Γ.n0 Γ.g0 Γ.w0 (g.th b κ) w ∧
   (∀ b' o,(g.th b κ).imm b' o→b'<w.heap.size∧∀ k,(g.th b κ).own b' ≠ .box k)∧(∀ k,There σ.M k→k≠κ)∧Qp4 w b=none:=by
 simp only [RV] at hown;rcases hown with ⟨h,_⟩|⟨b,cap,vals,e,rfl,hb,hh,h4,h5,⟨h6,h6'⟩,h7,h8⟩
 ·exact absurd h hl
 have hnp:¬ Prot (g.own b):=by rw [hb];exact hℓ
 have hnew:=hG.old hs.mem hB hs.fr hnp (fun k=>by rw [hb];exact hℓ2 k);have hk' : ¬ keep (g.own b):=by rw [hb];exact hkeep
 refine ⟨cap,b,h4,h5,rfl,hb,by simp [G.th],⟨vals.toList,e,by simpa [G.th] using hh,?_,h6'⟩,?_,?_,?_,by simp [Qp4,hh]⟩
 ·have h8' : RDL (g.th b κ).imm w sz b l 0→False∨True:=fun _=>.inr trivial;obtain ⟨hfl,hfg⟩:=Q5b h8;have hlen:vals.toList.length=(Qce l ((cap-l.length)*sz)).length:=by
   simp only [Qce,List.length_append,List.length_map,List.length_replicate,hfl,Array.length_toList,h6];rw [← Nat.add_mul];congr 1;omega
  refine (Qci _ _ _ _).2 ⟨hlen,fun j c x hc hx=>?_⟩;simp only [Qce] at hc;by_cases hj:j<l.flatten.length
  ·rw [List.getElem?_append_left (by rw [List.length_map];exact hj),List.getElem?_map] at hc;obtain ⟨y,hy,rfl⟩:=Option.map_eq_some_iff.1 hc;obtain ⟨x',hx1,hx2⟩:=hfg j y hy;have hcell:w.cell? ⟨b,0+j,none⟩=vals[j]?:=by simp [World.cell?,hh]
   rw [hcell] at hx1;have:x=x':=by
    have h9:vals[j]? = some x:=by simpa using hx
    rw [h9] at hx1;exact Option.some.inj hx1
   subst this;have hmem:y∈l.flatten:=List.mem_of_getElem? hy;obtain ⟨r,hr1,hr2⟩:=List.mem_flatten.1 hmem;have hp:Qzk y=true:=List.all_eq_true.1 (List.all_eq_true.1 hpl r hr1) y hr2;simp only [RV];exact Qxp hp hx2
  ·rw [List.getElem?_append_right (by rw [List.length_map];omega)] at hc;have:c = .und:=by
    have:=List.mem_of_getElem? hc;exact (List.mem_replicate.1 this).2
   subst this;simp [RV]
 ·have hf:=hs.fr;refine ⟨hf.os,hf.tape,hf.output,hf.size,⟨fun b' o hi=>⟨hf.imm.mono b' o hi,?_⟩,hf.imm.look⟩,fun k hk=>?_,fun b' hb' ho=>?_⟩
  ·rintro rfl;exact hnew (hG.imm _ _ hi)
  ·have:k≠κ:=by have:=hk.1;omega
   simp only [G.th,this,if_false];exact hf.box k hk
  ·have hne:b' ≠ b:=by rintro rfl;exact hnew hb'
   obtain ⟨k1,k2,k3⟩:=hf.old b' hb' ho;exact ⟨by simp [G.th,hne,k1],k2,fun o=>by simp [G.th,hne,k3]⟩
 ·rintro b' o ⟨hi,hne⟩;obtain ⟨k1,k2⟩:=hs.mem.imm b' o hi;exact ⟨k1,fun k=>by simp only [G.th,hne,if_false];exact k2 k⟩
 ·rintro k hk rfl;simp [There,hκM] at hk
theorem Qbgf {M:Mem} {κ:Nat} (hκ:∀ k,There M k→k≠κ) {v:V} (h:v.on fun k=>(M k).isSome=true):v.on (· ≠ κ):=Qdp (fun k hk=>hκ k hk) v h
theorem Q8w {g:G} {w:World} {sz:Nat} {l:List (List D)} {ℓ:Owner} {u:Value} (h:RV g w (.own sz l) ℓ u) (hu:∃ ad,u = .slice ad 0 0):l=[]:=by
 obtain ⟨ad,rfl⟩:=hu
 grind [RV,List.eq_nil_of_length_eq_zero]
open Classical in
theorem Tr.thawS {cc:CC} {Q:Ex→St→Prop} {MB:Mem} (hG:Lone Γ MB) (hB:∀ k,k<Γ.n0→(MB k).isSome=true→(σ.M k).isSome=true) {t κ sz:Nat} {l:List (List D)} (hl:l≠[]) (hpl:Qsb l=true) (hs0:σ.s t = .own sz l) (hκ:Γ.n0≤κ) (hκ2:κ<σ.nb) (hκM:σ.M κ=none)
  (hps:∀ t',t' ≠ t→Qh3 (σ.s t')=true) (hpm:∀ k cs,σ.M k=some (.cells cs)→Qh3.go cs=true) (hpn:∀ k es c,σ.M k=some (.mp es c)→Q1c es)
  (h:∀ c,l.length≤c→c≤maxLen→Tr Γ cc ⟨σ.s.put t (.sl sz κ 0 l.length c),σ.M.put κ (.cells (Qce l ((c-l.length)*sz))),σ.nb⟩ Q):Tr Γ cc σ Q:=by
 intro code hcode a w g hs;have hslot:=hs.slots t;rw [hs0] at hslot;have hsub:∀ (o:Owner) i,o ≠ .slot t []→o.sub i ≠ .slot t []:=by intro o i ho;cases o<;>simp_all [Owner.sub]
 obtain ⟨c,b,h1,h2,hu,hb,hbox,hbr,hfr,himm,hne,hmp⟩:=Q6r hG hB hs (fun o=>o ≠ .slot t []) (by simp) hsub (by simp) (by simp [Prot]) (by simp) hslot (fun h=>hl (Q8w hslot h)) hpl hκ hκ2 hκM;have hk' : ¬ (fun o=>o≠Owner.slot t []) (g.own b):=by simp [hb]
 refine h c h1 h2 code hcode a w (g.th b κ) ⟨⟨fun k bx hk=>?_,himm⟩,fun t'=>?_,hs.size,hs.defers,fun t'=>?_,fun k cs hk=>?_,hs.top,hfr⟩
 ·replace hk:(σ.M.put κ (.cells (Qce l ((c-l.length)*sz)))) k=some bx:=hk;by_cases hkk:k=κ
  ·subst hkk;rw [Qht] at hk;cases hk;exact ⟨hκ2,by rw [hbox];simp [G.th],hbr⟩
  ·rw [Qcz _ _ hkk] at hk;obtain ⟨k1,k2,k3⟩:=hs.mem.box k bx hk;have hbx:(g.th b κ).box k=g.box k:=by simp [G.th,hkk]
   have hne' : g.box k≠b:=by
    rintro rfl;rw [k2] at hb;cases hb
   refine ⟨k1,by rw [hbx];simp [G.th,hne',k2],?_⟩;cases bx with
   | mp es c =>
    obtain ⟨ents,q1,q2⟩:=k3;exact ⟨ents,by rw [hbx];exact q1,Qbfd hk' hsub (by simp) hmp (fun _=>by simp) (hpn k es c hk) q2⟩
   | cells cs =>
    obtain ⟨vals,e,q1,q2,q3⟩:=k3;refine ⟨vals,e,by rw [hbx];exact q1,RVs_th hk' hsub (by simp) hmp cs (.box k) 0 vals (hpm k cs hk) ?_ (by simp) q2,q3⟩;exact ons_mono (fun j hj=>hne j hj) _ (hs.onM k cs hk).1
 ·simp only [Sl.put];split
  ·rename_i he;subst he;simp only [RV];rw [hbox];exact hu
  ·rename_i hne2;refine Q9r hk' hsub (by simp) hmp _ _ _ (hps t' hne2) (Qbgf hne (hs.onS t')) ?_ (hs.slots t');simp;exact hne2
 ·simp only [Sl.put];split
  ·show There _ κ;exact There.self
  ·exact Qdp (fun k hk=>There.put hk) _ (hs.onS t')
 ·replace hk:(σ.M.put κ (.cells (Qce l ((c-l.length)*sz)))) k=some (.cells cs):=hk;by_cases hkk:k=κ
  ·subst hkk;rw [Qht] at hk;cases hk;have hno:∀ p:Nat→Prop,V.ons p (Qce l ((c-l.length)*sz)):=by
    intro p;rw [Qh0];intro v hv;simp only [Qce,List.mem_append,List.mem_map,List.mem_replicate] at hv;rcases hv with ⟨x,_,rfl⟩|⟨_,rfl⟩<;>trivial
   exact ⟨hno _,fun _=>hno _⟩
  ·rw [Qcz _ _ hkk] at hk;obtain ⟨q1,q2⟩:=hs.onM k cs hk;exact ⟨ons_mono (fun j hj=>There.put hj) _ q1,q2⟩
open Classical in
theorem Tr.thawCE {cc:CC} {Q:Ex→St→Prop} {MB:Mem} (hG:Lone Γ MB) (hB:∀ k,k<Γ.n0→(MB k).isSome=true→(σ.M k).isSome=true) {k0 i κ sz:Nat} {l:List (List D)} {cs0:List V} (hl:l=[]→Tr Γ cc ⟨σ.s,σ.M.put k0 (.cells (cs0.set i (.nils sz))),σ.nb⟩ Q) (hpl:Qsb l=true) (hk0:Γ.n0≤k0) (hM0:σ.M k0=some (.cells cs0)) (hi:cs0[i]? = some (.own sz l)) (hκ:Γ.n0≤κ) (hκ2:κ<σ.nb) (hκM:σ.M κ=none)
  (hps:∀ t',Qh3 (σ.s t')=true) (hpm:∀ k cs,σ.M k=some (.cells cs)→Qh3.go (if k=k0 then cs.set i .und else cs)=true) (hpn:∀ k es c,σ.M k=some (.mp es c)→Q1c es)
  (h:∀ c,l.length≤c→c≤maxLen→Tr Γ cc ⟨σ.s,(σ.M.put k0 (.cells (cs0.set i (.sl sz κ 0 l.length c)))).put κ (.cells (Qce l ((c-l.length)*sz))),σ.nb⟩ Q):Tr Γ cc σ Q:=by
 intro code hcode a w g hs;obtain ⟨u0,hcell,hrv0,_⟩:=Qt6 hs.mem hM0 hi;have hsub:∀ (o:Owner) j,(o ≠ .cell k0 i∧o ≠ .box k0)→(o.sub j ≠ .cell k0 i∧o.sub j ≠ .box k0):=by
  rintro o j ⟨h1,h2⟩;cases o<;>simp_all [Owner.sub]
 have hnk:k0≠κ:=by rintro rfl;rw [hM0] at hκM;cases hκM
 by_cases hnn:∃ ad,u0 = .slice ad 0 0
 ·refine hl (Q8w hrv0 hnn) code hcode a w g ⟨⟨fun k bx hk=>?_,hs.mem.imm⟩,hs.slots,hs.size,hs.defers,fun t=>Qdp (fun _ hj=>There.put hj) _ (hs.onS t),fun k cs hk=>?_,hs.top,hs.fr⟩
  ·replace hk:(σ.M.put k0 (.cells (cs0.set i (.nils sz)))) k=some bx:=hk;by_cases hkz:k=k0
   ·subst hkz;rw [Qht] at hk;cases hk;obtain ⟨k1,k2,vals,e,q1,q2,q3⟩:=hs.mem.box k _ hM0;obtain ⟨r1,r2⟩:=(Qci _ _ _ _).1 q2;refine ⟨k1,k2,vals,e,q1,(Qci _ _ _ _).2 ⟨by rw [List.length_set];exact r1,fun j d x hd hx=>?_⟩,q3⟩;by_cases hj:j=i
    ·subst hj;rw [List.getElem?_set_self (List.getElem?_eq_some_iff.1 hi).1] at hd;cases hd;have hcx:w.cell? ⟨g.box k,j,none⟩=some x:=by simp [World.cell?,q1];simpa using hx
     rw [hcell] at hcx;cases hcx;simp only [RV];exact hnn
    ·rw [List.getElem?_set_ne (Ne.symm hj)] at hd;exact r2 j d x hd hx
   ·rw [Qcz _ _ hkz] at hk;exact hs.mem.box k bx hk
  ·replace hk:(σ.M.put k0 (.cells (cs0.set i (.nils sz)))) k=some (.cells cs):=hk;by_cases hkz:k=k0
   ·subst hkz;rw [Qht] at hk;cases hk;obtain ⟨q1,q2⟩:=hs.onM k cs0 hM0;exact ⟨Qr8 i (ons_mono (fun j hj=>There.put hj) _ q1) trivial,fun hlt=>absurd hlt (by omega)⟩
   ·rw [Qcz _ _ hkz] at hk;obtain ⟨q1,q2⟩:=hs.onM k cs hk;exact ⟨ons_mono (fun j hj=>There.put hj) _ q1,q2⟩
 obtain ⟨c,b,h1,h2,hu,hb,hbox,hbr,hfr,himm,hne,hmp⟩:=Q6r hG hB hs (fun o=>o ≠ .cell k0 i∧o ≠ .box k0) (by simp) hsub (by simp) (by simp [Prot]) (by simp) hrv0 hnn hpl hκ hκ2 hκM;have hk' : ¬ (fun o=>o≠Owner.cell k0 i∧o ≠ .box k0) (g.own b):=by simp [hb]
 have hther:∀ j,There σ.M j→There ((σ.M.put k0 (.cells (cs0.set i (.sl sz κ 0 l.length c)))).put κ (.cells (Qce l ((c-l.length)*sz)))) j:=fun j hj=>There.put (There.put hj);refine h c h1 h2 code hcode a w (g.th b κ) ⟨⟨fun k bx hk=>?_,himm⟩,fun t'=>?_,hs.size,hs.defers,fun t'=>?_,fun k cs hk=>?_,hs.top,hfr⟩
 ·replace hk:((σ.M.put k0 (.cells (cs0.set i (.sl sz κ 0 l.length c)))).put κ (.cells (Qce l ((c-l.length)*sz)))) k=some bx:=hk;by_cases hkk:k=κ
  ·subst hkk;rw [Qht] at hk;cases hk;exact ⟨hκ2,by rw [hbox];simp [G.th],hbr⟩
  ·rw [Qcz _ _ hkk] at hk;have hbx:(g.th b κ).box k=g.box k:=by simp [G.th,hkk]
   by_cases hkz:k=k0
   ·subst hkz;rw [Qht] at hk;cases hk;obtain ⟨k1,k2,vals,e,q1,q2,q3⟩:=hs.mem.box k _ hM0;have hne' : g.box k≠b:=by
     rintro rfl;rw [k2] at hb;cases hb
    refine ⟨k1,by rw [hbx];simp [G.th,hne',k2],vals,e,by rw [hbx];exact q1,(Qci _ _ _ _).2 ⟨?_,fun j d x hd hx=>?_⟩,q3⟩
    ·rw [List.length_set];exact Qng q2
    ·obtain ⟨r1,r2⟩:=(Qci _ _ _ _).1 q2;by_cases hj:j=i
     ·subst hj;have hlt:=(List.getElem?_eq_some_iff.1 hi).1;rw [List.getElem?_set_self hlt] at hd;cases hd;have hcx:w.cell? ⟨g.box k,j,none⟩=some x:=by
       have h9:vals.toArray[j]? = some x:=by simpa using hx
       simp [World.cell?,q1];simpa using hx
      rw [hcell] at hcx;cases hcx;simp only [RV];rw [hbox];exact hu
     ·rw [List.getElem?_set_ne (Ne.symm hj)] at hd;have hpl2:=hpm k cs0 hM0;rw [if_pos rfl,Q8u] at hpl2;have hmem:d∈cs0.set i .und:=by
       have:(cs0.set i .und)[j]? = some d:=by rw [List.getElem?_set_ne (Ne.symm hj)];exact hd
       exact List.mem_of_getElem? this
      refine Q9r hk' hsub (by simp) hmp d _ x (hpl2 d hmem) ?_ ?_ (r2 j d x hd hx)
      ·exact Qdp (fun j hj=>hne j hj) _ (Qe3 (hs.onM k cs0 hM0).1 hd)
      ·simp [Owner.sub];omega
   ·rw [Qcz _ _ hkz] at hk;obtain ⟨k1,k2,k3⟩:=hs.mem.box k bx hk;have hne' : g.box k≠b:=by
     rintro rfl;rw [k2] at hb;cases hb
    refine ⟨k1,by rw [hbx];simp [G.th,hne',k2],?_⟩;cases bx with
    | mp es c =>
     obtain ⟨ents,q1,q2⟩:=k3;exact ⟨ents,by rw [hbx];exact q1,Qbfd hk' hsub (by simp) hmp (fun _=>⟨by intro h;injection h with h1;exact hkz h1,by simp⟩) (hpn k es c hk) q2⟩
    | cells cs =>
     obtain ⟨vals,e,q1,q2,q3⟩:=k3;have hp:=hpm k cs hk;rw [if_neg hkz] at hp;refine ⟨vals,e,by rw [hbx];exact q1,RVs_th hk' hsub (by simp) hmp cs (.box k) 0 vals hp ?_ ⟨by simp,by simpa using hkz⟩ q2,q3⟩;exact ons_mono (fun j hj=>hne j hj) _ (hs.onM k cs hk).1
 ·exact Q9r hk' hsub (by simp) hmp _ _ _ (hps t') (Qbgf hne (hs.onS t')) (by simp) (hs.slots t')
 ·exact Qdp hther _ (hs.onS t')
 ·replace hk:((σ.M.put k0 (.cells (cs0.set i (.sl sz κ 0 l.length c)))).put κ (.cells (Qce l ((c-l.length)*sz)))) k=some (.cells cs):=hk;by_cases hkk:k=κ
  ·subst hkk;rw [Qht] at hk;cases hk;have hno:∀ p:Nat→Prop,V.ons p (Qce l ((c-l.length)*sz)):=by
    intro p;rw [Qh0];intro v hv;simp only [Qce,List.mem_append,List.mem_map,List.mem_replicate] at hv;rcases hv with ⟨x,_,rfl⟩|⟨_,rfl⟩<;>trivial
   exact ⟨hno _,fun _=>hno _⟩
  ·rw [Qcz _ _ hkk] at hk;by_cases hkz:k=k0
   ·subst hkz;rw [Qht] at hk;cases hk;obtain ⟨q1,q2⟩:=hs.onM k cs0 hM0;refine ⟨Qr8 i (ons_mono hther _ q1) ?_,fun hlt=>absurd hlt (by omega)⟩;show There _ κ;exact There.self
   ·rw [Qcz _ _ hkz] at hk;obtain ⟨q1,q2⟩:=hs.onM k cs hk;exact ⟨ons_mono hther _ q1,q2⟩
end Go.Abs
end
section
namespace Go.Abs
open Go Go.Sort
def D.val:D→Value
 | .int k n=>.int k n
 | .bool b=>.bool b
 | .str s=>.string s
 | .lst _ _=>.slice none 0 0
 | .mp ..=>.map none
def D.scalar:D→Bool
 | .lst _ _=>false
 | .mp ..=>false
 | _=>true
theorem Qbbx {imm:Nat→Nat→Prop} {w:World} {x:D} {u:Value} (hs:x.scalar=true):RD imm w x u↔u=x.val:=by
 cases x<;>simp [RD,D.val,D.scalar] at hs ⊢
theorem Qbby {x:D} (hs:x.scalar=true):x.val.oneCell'=true:=by cases x<;>simp [D.scalar,D.val] at hs ⊢ <;> rfl
def rowV {α:Type} (e:α→List D) (xs:List α):List Value:=(xs.map e).flatten.map D.val
theorem Q7t (w:World) (n blk:Nat) (F:Array Value) (os:Array Obj) {c:Array Value} {e:TypeId} (h:w.heap[blk]? = some (.cells c e (0,0))):(grow (putRow id (Sort.ahead w n) blk 0 F) os).heap[blk]? = some (.cells (putCells id 0 F c) e (0,0)):=by
 have hlt:blk<w.heap.size:=(Array.getElem?_eq_some_iff.1 h).1;have hsz:(putRow id (Sort.ahead w n) blk 0 F).heap.size=w.heap.size:=by simp_all
 rw [heap_grow_old _ _ (by rw [hsz];exact hlt)];show (w.heap.modify blk (onCells (putCells id 0 F)))[blk]? = _;rw [Array.getElem?_modify,if_pos rfl,h]
 rfl
theorem Q0m (w:World) (n blk:Nat) (F:Array Value) (os:Array Obj) {b:Nat} (hb:b≠blk) (hlt:b<w.heap.size):(grow (putRow id (Sort.ahead w n) blk 0 F) os).heap[b]? = w.heap[b]?:=by
 have hsz:(putRow id (Sort.ahead w n) blk 0 F).heap.size=w.heap.size:=by simp_all
 rw [heap_grow_old _ _ (by rw [hsz];exact hlt)];show (w.heap.modify blk (onCells (putCells id 0 F)))[b]? = _
 grind
def Qbbz {α:Type} (P:Program) (f:FuncId) (e:α→List D) (ex:Array Value) (srt:List α→List α):Prop :=
 ∀ (blk cap:Nat) (xs:List α) (w:World),(∀ j,j<(rowV e xs).length→w.cell? ⟨blk,j,none⟩=(rowV e xs)[j]? ∧ w.frozen? ⟨blk,j,none⟩=false)→blk<w.heap.size→xs.length<4611686018427387904 →
  Calls P f (#[.slice (some ⟨blk,0,none⟩) xs.length cap]++ex) w fun e' w'=>e' = .returned (.tuple #[])∧∃ n os,w'=grow (putRow id (Sort.ahead w n) blk 0 (rowV e (srt xs)).toArray) os
theorem Q5c {α:Type} {e:α→List D} {sz:Nat} (hlen:∀ x,(e x).length=sz) (xs:List α):(rowV e xs).length=xs.length*sz:=by
 simp only [rowV,List.length_map]
 induction xs with
 | nil=>simp
 | cons x xs ih=>grind
theorem Q4d {α:Type} {P:Program} {f:FuncId} {e:α→List D} {sz:Nat} (hlen:∀ x,(e x).length=sz) (hsc:∀ x,(e x).all D.scalar=true) {srt:List α→List α} (hsl:∀ xs,(srt xs).length=xs.length)
  {ex:Array Value} {exV:List V} (hex:∀ g w us,RFs g w exV us→us=ex.toList) (hb:Qh2 P f=true) (hK:Qbbz P f e ex srt)
  (xs:List α) (c k0:Nat) (M:Mem) (nb:Nat) (hM:M k0=some (.cells (Qce (xs.map e) ((c-xs.length)*sz)))) (hsz:xs.length<4611686018427387904) (hexf:V.dems exV=exV:=by rfl) :
  ACalls P f (.sl sz k0 0 xs.length c::exV) M nb (.tup []) (M.put k0 (.cells (Qce ((srt xs).map e) ((c-xs.length)*sz)))) nb:=by
 refine ACalls.mk' hb (Nat.le_refl _) (by simp only [V.dems,V.dem,hexf]) fun w g us hm hMon hus hfl hons=>?_;obtain ⟨u0,us',rfl,hu0,hus'⟩:=hus;have h0:=Q4u.1 hu0;subst h0;have h1:=hex _ _ _ hus';obtain ⟨hk0,hown,vals,et,hh,hrv,hone⟩:=hm.box k0 _ hM;have hlt:g.box k0<w.heap.size:=(Array.getElem?_eq_some_iff.1 hh).1;obtain ⟨hvl,hvr⟩:=(Qci _ _ _ _).1 hrv;have hscf:∀ (l:List α),∀ y∈(l.map e).flatten,y.scalar=true:=by
  grind
 have hfl' : ∀ l:List α,(l.map e).flatten.length=l.length*sz:=fun l=>by have:=Q5c hlen l;rw [rowV,List.length_map] at this;exact this
 have hcell:∀ j,j<(rowV e xs).length→vals[j]? = (rowV e xs)[j]?:=by
  intro j hj;rw [Q5c hlen] at hj;have hjf:j<(xs.map e).flatten.length:=by rw [hfl'];exact hj
  have hjv:j<vals.length:=by
   grind [Qce,List.length_append,List.length_map]
  have hc:(Qce (xs.map e) ((c-xs.length)*sz))[j]? = some (.d (xs.map e).flatten[j]):=by
   grind [Qce,List.getElem?_append_left,List.length_map,List.getElem?_eq_getElem]
  grind [List.getElem?_eq_getElem,RV,Qbbx,List.getElem_mem,rowV]
 have hcall:=hK (g.box k0) c xs w (fun j hj=>⟨by grind [Go.World.cell?],by simp [World.frozen?,hh]⟩) hlt hsz;have hus2:(Value.slice (some ⟨g.box k0,0,none⟩) xs.length c::us').toArray = #[.slice (some ⟨g.box k0,0,none⟩) xs.length c]++ex:=by
  grind
 rw [hus2];refine hcall.mono ?_;rintro e' w' ⟨rfl,n,os,rfl⟩;generalize hF:(rowV e (srt xs)).toArray=F;have hFs:F.size=xs.length*sz:=by grind [Q5c]
 have hblk:=Q7t w n (g.box k0) F os hh;have hoth:∀ b,b≠g.box k0→b<w.heap.size→(grow (putRow id (Sort.ahead w n) (g.box k0) 0 F) os).heap[b]? = w.heap[b]?:=fun b hb hlt=>Q0m w n _ F os hb hlt;have hsize:w.heap.size≤(grow (putRow id (Sort.ahead w n) (g.box k0) 0 F) os).heap.size:=by
  grind
 generalize hw' : grow (putRow id (Sort.ahead w n) (g.box k0) 0 F) os=w' at hblk hoth hsize;have himm:Imm g.imm g.imm w w':=by
  refine ⟨fun _ _ h=>h,fun b o h=>?_⟩;obtain ⟨k1,k2⟩:=hm.imm b o h;have hne:b≠g.box k0:=by grind
  exact Qdo (hoth b hne k1)
 have hkept:Kept g w g w' (There M) (fun o=>o ≠ .box k0):=⟨himm,fun _ _=>rfl,fun b hb hl=>⟨rfl,hoth b (by grind) hl,fun _=>Iff.rfl⟩⟩;have hsub:∀ (o:Owner) i,o ≠ .box k0→o.sub i ≠ .box k0:=by intro o i _;cases o<;>simp [Owner.sub]
 have hnew:∀ p:Nat→Prop,V.ons p (Qce ((srt xs).map e) ((c-xs.length)*sz)):=by
  intro p;rw [Qh0];intro v hv;simp only [Qce,List.mem_append,List.mem_map,List.mem_replicate] at hv;rcases hv with ⟨x,_,rfl⟩|⟨_,rfl⟩<;>trivial
 refine ⟨_,g,rfl,⟨fun k b hk=>?_,fun b o h=>⟨Nat.lt_of_lt_of_le (hm.imm b o h).1 hsize,(hm.imm b o h).2⟩⟩,⟨[],rfl,rfl⟩,trivial,fun k cs hk=>?_,?_⟩
 ·by_cases hkk:k=k0
  ·subst hkk;rw [Qht] at hk;cases hk;refine ⟨hk0,hown,(putCells id 0 F vals.toArray).toList,et,by simpa using hblk,(Qci _ _ _ _).2 ⟨?_,fun j cc x hc hx=>?_⟩,fun x hx=>?_⟩
   ·grind [Qce,List.length_append,List.length_map,List.length_replicate,Go.Sort.putCells]
   ·have hx' : (putCells id 0 F vals.toArray)[j]? = some x:=by simpa using hx
    simp only [putCells,Array.getElem?_mapIdx,List.getElem?_toArray,Option.map_eq_some_iff] at hx';obtain ⟨y,hy,rfl⟩:=hx';simp only [Qce] at hc;by_cases hj:j<((srt xs).map e).flatten.length
    ·rw [List.getElem?_append_left (by grind),List.getElem?_map,List.getElem?_eq_getElem hj,Option.map_some,Option.some.injEq] at hc;subst hc;rw [hfl',hsl] at hj;have hjF:j<F.size:=by rw [hFs];exact hj
     rw [if_pos ⟨Nat.zero_le _,by omega⟩];have hj2:j<((srt xs).map e).flatten.length:=by rw [hfl',hsl];exact hj
     simp only [RV];rw [Qbbx (hscf (srt xs) _ (List.getElem_mem hj2))];simp only [Nat.sub_zero,id]
     grind [rowV]
    grind [List.getElem?_append_right,List.length_map,List.mem_of_getElem?,RV]
   ·obtain ⟨j,hj⟩:=List.getElem?_of_mem hx;have hx' : (putCells id 0 F vals.toArray)[j]? = some x:=by simpa using hj
    simp only [putCells,Array.getElem?_mapIdx,List.getElem?_toArray,Option.map_eq_some_iff] at hx';obtain ⟨y,hy,rfl⟩:=hx'
    grind [id,rowV,Qbby,List.getElem_mem,List.mem_of_getElem?]
  ·rw [Qcz _ _ hkk] at hk;obtain ⟨k1,k2,k3⟩:=hm.box k b hk;cases b with
   | mp es c =>
    obtain ⟨ents,q1,q2⟩:=k3;have hne:g.box k≠g.box k0:=by
     grind
    exact ⟨k1,k2,ents,(hoth _ hne (Array.getElem?_eq_some_iff.1 q1).1).trans q1,Qi8 (g:=g) (g':=g) hkept (fun _=>by simp) q2⟩
   | cells cs =>
    obtain ⟨vals2,e2,q1,q2,q3⟩:=k3;have hne:g.box k≠g.box k0:=by
     grind
    refine ⟨k1,k2,vals2,e2,(hoth _ hne (Array.getElem?_eq_some_iff.1 q1).1).trans q1,?_,q3⟩;exact RVs_mono hkept hsub (by simp) cs (.box k) 0 vals2 (by simpa using hkk) (hMon k cs hk) q2
 ·by_cases hkk:k=k0
  ·grind [Qht]
  ·rw [Qcz _ _ hkk] at hk;exact ons_mono (fun j hj=>There.put hj) _ (hMon k cs hk)
 ·refine ⟨by rw [← hw'];rfl,by rw [← hw'];rfl,by rw [← hw'];rfl,hsize,himm,fun _ _=>rfl,fun b hb ho=>⟨rfl,hoth b ?_ hb,fun _=>Iff.rfl⟩⟩;rintro rfl;rw [hown] at ho;exact ho
end Go.Abs
end
section
namespace Go.Abs
open Go
variable {Γ:Env} {σ:St} {α:Type}
section
variable {g:G} {w:World} (hx:∀ b o,g.imm b o→g.own b = .ext)
include hx
mutual
theorem Qbea:∀ (v:V) (ℓ:Owner) (u:Value),RV g w v ℓ u→RV g w v.toF ℓ u
 | .d (.lst sz l),_,u,h=>by
  simp only [V.toF,RV] at h ⊢;exact Qbf8 (fun b o h1 h2=>⟨h1,hx b o h1,h2⟩) _ u h
 | .d (.int ..),_,_,h=>by simpa [V.toF] using h
 | .d (.bool _),_,_,h=>by simpa [V.toF] using h
 | .d (.str _),_,_,h=>by simpa [V.toF] using h
 | .d (.mp ..),_,_,h=>by simpa [V.toF] using h
 | .agg cs,ℓ,u,h=>by
  simp only [V.toF,RV] at h ⊢;obtain ⟨vs,rfl,h,h1⟩:=h;exact ⟨vs,rfl,RVs_toF cs ℓ 0 vs h,h1⟩
 | .und,_,_,h=>h
 | .tup _,_,_,h=>h
 | .own ..,_,_,h=>h
 | .ownT ..,_,_,h=>h
 | .ownV ..,_,_,h=>h
 | .ptr ..,_,_,h=>h
 | .nilp,_,_,h=>h
 | .f _,_,_,h=>h
 | .nils _,_,_,h=>h
 | .cref _,_,_,h=>h
 | .sl ..,_,_,h=>h
 | .clo ..,_,_,h=>h
 | .mp _,_,_,h=>h
theorem RVs_toF:∀ (cs:List V) (ℓ:Owner) (i:Nat) (us:List Value),RVs g w cs ℓ i us→RVs g w (V.toFs cs) ℓ i us
 | [],_,_,_,h=>h
 | c::cs,ℓ,i,us,h=>by
  simp only [RVs,V.toFs] at h ⊢;obtain ⟨u,us',rfl,h1,h2⟩:=h;exact ⟨u,us',rfl,Qbea c _ u h1,RVs_toF cs ℓ (i+1) us' h2⟩
end
theorem Qbb0:∀ {cs:List V} {us:List Value},RFs g w cs us→RFs g w (V.toFs cs) us
 | [],_,h=>h
 | c::cs,_,⟨u,us',e,r,h⟩=>⟨u,us',e,fun ℓ=>Qbea hx c ℓ u (r ℓ),Qbb0 h⟩
end
mutual
theorem Qbfe:∀ v:V,v.toF.dem=v.toF→v.dem=v
 | .d _,_=>rfl
 | .agg cs,h=>by
  simp only [V.toF,V.dem,V.agg.injEq] at h ⊢;exact dems_toF cs h
 | .und,_=>rfl
 | .tup _,h=>h
 | .own ..,h=>by cases h
 | .ownT ..,h=>by cases h
 | .ownV ..,h=>by cases h
 | .ptr ..,_=>rfl
 | .nilp,_=>rfl
 | .f _,_=>rfl
 | .nils _,_=>rfl
 | .cref _,_=>rfl
 | .sl ..,_=>rfl
 | .clo ..,_=>rfl
 | .mp _,_=>rfl
theorem dems_toF:∀ vs:List V,V.dems (V.toFs vs)=V.toFs vs→V.dems vs=vs
 | [],_=>rfl
 | v::vs,h=>by
  simp only [V.toFs,V.dems,List.cons.injEq] at h ⊢;exact ⟨Qbfe v h.1,dems_toF vs h.2⟩
end
theorem Qbgg {P:Program} {f:FuncId} {cf:CFn} (hcf:Qr P f=some cf) {args args' : List V} {r:V} (hargs:Nat.beq args'.length cf.np=true) (hr0:r.lt 0=true) (hr1:Qwf r=true) (ha:V.toFs args=args') (hfl:V.dems args'=args') (hlt:V.lt.go 0 args'=true)
  (hrun:∀ (Γ:Env) (M:Mem),Γ.P=P→Γ.nt=cf.nt→Lone Γ M→Q8v M→(∀ k,Γ.n0≤k→M k=none)→Tr Γ cf.body ⟨Qkb args',Ql Γ.n0 [] M,Γ.n0+cf.nt⟩ (FinP cf.res r Γ.n0 M)):∀ M nb,ACalls P f args M nb r M nb:=by
 intro M nb;have hflat:∀ x∈args',Flat x:=by
  rw [← hfl];exact Qjs
 refine Qbd8 hcf hr0 hr1 (dems_toF args (by rw [ha];exact hfl)) (fun g0 w0 us hp hi hus=>⟨args',by rw [← ha];exact Qbb0 (fun b _ _=>hp b) hus,hflat,hlt,Nat.eq_of_beq_eq_true hargs,fun Γ k1 k2 k3 k4 k5=>?_⟩) M;have h:=hrun Γ (fun _=>none) k1 k3 ⟨fun b _=>.inl (by rw [k4,hp b];trivial),fun b o hb=>by grind⟩ ⟨fun _ _ h=>(by cases h),fun _ _ _ h=>(by cases h)⟩ (fun _ _=>rfl);rw [Qn7 (fun _ _=>rfl),k2] at h;refine h.mono ?_;rintro e σ' ⟨he,r',q1,q2,q3,q4⟩;exact ⟨he,r',q1,q2,fun k b hk=>(by cases hk),fun _ _ _=>⟨q3,fun k cs hk=>(by cases hk),fun k hk=>(by cases hk)⟩⟩
theorem fToD {x:D}:WkV (.f x) (.d x):=⟨fun g w ℓ u h=>by
  simp only [RV] at h ⊢;exact Qfl ⟨fun b o h=>h.1,fun _ _ _=>rfl⟩ x u h,fun _ _=>trivial⟩
theorem Qbdk {e:α→List D} (h:∀ x,(e x).all Qzk=true) {xs:List α}:Qsb (List.map e xs)=true:=by
 grind [Qsb,List.all_map,List.all_eq_true]
def PL:List (Nat×V)→Prop
 | []=>True
 | (_,v)::E=>Qh3 v=true∧PL E
theorem PL.at:∀ {E:List (Nat×V)},PL E→∀ t,Qh3 (look E t)=true
 | [],_,t=>rfl
 | (u,v)::E,h,t=>by
  simp only [look];cases hb:Nat.beq t u with
  | true=>exact h.1
  | false=>exact PL.at h.2 t
def PV:List V→Prop
 | []=>True
 | v::vs=>Qh3 v=true∧PV vs
theorem PV.go:∀ {vs:List V},PV vs→Qh3.go vs=true
 | [],_=>rfl
 | v::vs,h=>by simp only [Qh3.go,Bool.and_eq_true];exact ⟨h.1,PV.go h.2⟩
def PB (t0 i:Nat):List (Nat×Bx)→Prop
 | []=>True
 | (t,.cells cs)::L=>PV (bif Nat.beq t t0 then cs.set i .und else cs)∧PB t0 i L
 | (_,.mp es _)::L=>Q1c es∧PB t0 i L
theorem PB.at {t0 i:Nat}:∀ {L:List (Nat×Bx)},PB t0 i L→∀ t cs,Qbu L t=some (.cells cs)→Qh3.go (if t=t0 then cs.set i .und else cs)=true
 | [],_,t,cs,h=>by cases h
 | (u,.cells ds)::L,hp,t,cs,h=>by
  simp only [Qbu] at h;cases hb:Nat.beq t u with
  | true =>
   have:=Nat.eq_of_beq_eq_true hb;subst this;rw [hb] at h;cases h;have:=hp.1.go;by_cases ht:t=t0
   ·grind
   ·have hf:Nat.beq t t0=false:=by
     grind [Nat.beq,absurd,Nat.eq_of_beq_eq_true]
    grind
  | false=>rw [hb] at h;exact PB.at hp.2 t cs h
 | (u,.mp ..)::L,hp,t,cs,h=>by
  simp only [Qbu] at h;cases hb:Nat.beq t u with
  | true=>rw [hb] at h;cases h
  | false=>rw [hb] at h;exact PB.at hp.2 t cs h
theorem PB.nomp {t0 i:Nat}:∀ {L:List (Nat×Bx)},PB t0 i L→∀ t es c,Qbu L t=some (.mp es c)→Q1c es
 | [],_,t,es,c,h=>by cases h
 | (u,.cells ds)::L,hp,t,es,c,h=>by
  simp only [Qbu] at h;cases hb:Nat.beq t u with
  | true=>rw [hb] at h;cases h
  | false=>rw [hb] at h;exact PB.nomp hp.2 t es c h
 | (u,.mp ..)::L,hp,t,es,c,h=>by
  simp only [Qbu] at h;cases hb:Nat.beq t u with
  | true=>rw [hb] at h;cases h;exact hp.1
  | false=>rw [hb] at h;exact PB.nomp hp.2 t es c h
theorem PB.nomem {t0 i n0:Nat} {L:List (Nat×Bx)} {M0:Mem} (hMe:Q8v M0) (h:PB t0 i L):∀ k es c,Ql n0 L M0 k=some (.mp es c)→Q1c es:=by
 intro k es c hk;rcases Nat.lt_or_ge k n0 with hlt|hge
 ·rw [Q8 hlt] at hk;exact hMe.mps k es c hk
 ·obtain ⟨u,rfl⟩ : ∃ u,k=n0+u:=⟨k-n0,by omega⟩;rw [Qbt] at hk;exact h.nomp u es c hk
theorem Qbff {cc:CC} {Q:Ex→St→Prop} {M0:Mem} (hG:Lone Γ M0) (hMe:Q8v M0) (t0 i κ:Nat) {sz m:Nat} {e:α→List D} {xs:List α} {E:List (Nat×V)} {L:List (Nat×Bx)} {cs0:List V} (hxs:xs=[]→Tr Γ cc ⟨look E,Ql Γ.n0 ((t0,.cells (cs0.set i (.nils sz)))::L) M0,Γ.n0+m⟩ Q) (hpl:∀ x,(e x).all Qzk=true) (hM0:Qbu L t0=some (.cells cs0))
  (hi:cs0[i]? = some (.own sz (List.map e xs))) (hκ2:Nat.blt κ m=true) (hκM:Qbu L κ=none) (hE:PL E) (hL:PB t0 i L)
  (h:∀ c,xs.length≤c→xs.length≤maxLen→Tr Γ cc ⟨look E,Ql Γ.n0 ((κ,.cells (Qce (List.map e xs) ((c-xs.length)*sz)))::(t0,.cells (cs0.set i (.sl sz (Γ.n0+κ) 0 xs.length c)))::L) M0,Γ.n0+m⟩ Q):Tr Γ cc ⟨look E,Ql Γ.n0 L M0,Γ.n0+m⟩ Q:=by
 have hlt:κ<m:=Nat.le_of_ble_eq_true hκ2;refine Tr.thawCE (σ:=⟨look E,Ql Γ.n0 L M0,Γ.n0+m⟩) hG (fun k hk h=>by show (Ql Γ.n0 L M0 k).isSome=true;rw [Q8 hk];exact h) (k0:=Γ.n0+t0) (i:=i) (κ:=Γ.n0+κ) (l:=List.map e xs) (fun hn=>by simp_all [Qeu]) (Qbdk hpl) (by omega) ((Qbt (n0:=Γ.n0) (L:=L) (M0:=M0)).trans hM0) hi (by omega) (by grind) ((Qbt (n0:=Γ.n0) (L:=L) (M0:=M0)).trans hκM) (fun t=>hE.at t) ?_ (hL.nomem hMe) ?_
 ·intro k cs hk;have hk:Ql Γ.n0 L M0 k=some (.cells cs):=hk;rcases Nat.lt_or_ge k Γ.n0 with hlt|hge
  ·rw [Q8 hlt] at hk;rw [if_neg (by omega)];exact hMe.cells k cs hk
  ·obtain ⟨t,rfl⟩ : ∃ t,k=Γ.n0+t:=⟨k-Γ.n0,by omega⟩;rw [Qbt] at hk;have:=hL.at t cs hk
   grind
 ·intro c hc hm;have:=h c (by simpa using hc) (by simp at hc;omega)
  simp_all [Qeu]
theorem Qbgh {cc:CC} {Q:Ex→St→Prop} {M0:Mem} (hG:Lone Γ M0) (hMe:Q8v M0) (t0 i κ:Nat) {sz m:Nat} {e:α→List D} {xs:List α} {E:List (Nat×V)} {L:List (Nat×Bx)} {cs0:List V} (hxs:¬ xs=[]) (hpl:∀ x,(e x).all Qzk=true) (hM0:Qbu L t0=some (.cells cs0))
  (hi:cs0[i]? = some (.own sz (List.map e xs))) (hκ2:Nat.blt κ m=true) (hκM:Qbu L κ=none) (hE:PL E) (hL:PB t0 i L)
  (h:∀ c,xs.length≤c→xs.length≤maxLen→Tr Γ cc ⟨look E,Ql Γ.n0 ((κ,.cells (Qce (List.map e xs) ((c-xs.length)*sz)))::(t0,.cells (cs0.set i (.sl sz (Γ.n0+κ) 0 xs.length c)))::L) M0,Γ.n0+m⟩ Q):Tr Γ cc ⟨look E,Ql Γ.n0 L M0,Γ.n0+m⟩ Q :=
 Qbff hG hMe t0 i κ (fun h=>absurd h hxs) hpl hM0 hi hκ2 hκM hE hL h
def RowK (P:Program) (c:Nat) (e:α→List D) (sz:Nat) (ex:List V) (f:List α→Option (List α)):Prop :=
 ∀ xs ys,f xs=some ys→ys.length=xs.length∧(xs=[]→ys=xs∧∀ M nb,ACalls P c (.d (.lst sz (List.map e xs))::ex) M nb (.tup []) M nb) ∧
  (xs.length≤maxLen→∀ cap k0 M nb,M k0=some (.cells (Qce (List.map e xs) ((cap-xs.length)*sz)))→ACalls P c (.sl sz k0 0 xs.length cap::ex) M nb (.tup []) (M.put k0 (.cells (Qce (List.map e ys) ((cap-xs.length)*sz)))) nb)
section
variable {pc d nb:Nat} {os:List COp} {E:List (Nat×V)} {M0:Mem} {L:List (Nat×Bx)} {Q:St→Prop} {gd:Option (Nat×Bool)}
theorem Rn.callRow {f:FuncId} {as:List Arg} {args:List V} {r:V} {t:Nat} {cs cs' : List V} (hw:Wn E gd) (ha:V.dems (as.map (·.val (look E)))=args) (ht:Qbu L t=some (.cells cs)) (hC:∀ M,M (Γ.n0+t)=some (.cells cs)→ACalls Γ.P f args M nb r (M.put (Γ.n0+t) (.cells cs')) nb)
  (hpc:pcOf pc=0) (h:Rn Γ pc os ⟨look ((d,r)::E),Ql Γ.n0 ((t,.cells cs')::L) M0,nb⟩ Q):Rn Γ pc (⟨some d,.call f,as,false,gd⟩::os) ⟨look E,Ql Γ.n0 L M0,nb⟩ Q:=by
 refine Rn.cons ?_;unfold COp.run;rw [hw.wanted];simp only [show (K.call f).isCall=true from rfl,if_true,COp.callee,ha];rw [hpc];refine ⟨r,(Ql Γ.n0 L M0).put (Γ.n0+t) (.cells cs'),nb,hC _ (by rw [Qbt];exact ht),fun k hk=>?_,fun k cs2 hk hM=>.inl ?_,?_⟩
 ·grind [Mem.put]
 ·rw [Qcz _ _ (by omega)]
 simp_all [Qbd,look,Qcj,Qeu]
end
theorem fSlT {n0 t n c sz:Nat} {e:α→List D} {ys:List α} (h:∀ x,(e x).length=sz) (hn:ys.length=n) (hc:n≤c):WkV (frzV (n0+t) ((ys.map e).flatten) (.sl sz (n0+t) 0 n c)) (.d (.lst sz (ys.map e))):=by
 subst hn;have h1:=Quh h ys
 simp_all [List.drop_zero,List.take_of_length_le,frzV,if_true,if_pos,Qug,Q8s]
theorem Q4e:∀ ds:List D,toDs (ds.map V.d)=some ds
 | []=>rfl
 | d::ds=>by simp only [List.map_cons,toDs,V.toD,Q4e ds]
theorem Qbgi {e:α→List D} {ys:List α} {room:Nat}:PreD (Qce (List.map e ys) room) ((List.map e ys).flatten):=PreD.app (Q4e _)
theorem Tr.seqW {x y:CC} {Q:Ex→St→Prop} (σ2:St) (hx:Tr Γ x σ fun e σ'=>e = .norm∧WeakSt Γ σ' σ2) (hy:Tr Γ y σ2 Q):Tr Γ (.seq x y) σ Q:=by
 refine Tr.seq (hx.mono ?_);rintro e σ' ⟨rfl,hw⟩;exact hy.weak hw
end Go.Abs
end
section
namespace Go.Abs
open Go
theorem decB {p:Prop} [Decidable p] {b:Bool} (h:b=true↔p):b=decide p:=by
 cases b with
 | true=>simp [h.1 rfl]
 | false =>
  by_cases hp:p
  ·have:=h.2 hp;cases this
  ·simp [hp]
variable {κ β:Type} [BEq κ]
def mapE (ek:κ→V) (ev:β→V):Nat→List (κ×β)→List (V×V×Nat)
 | _,[]=>[]
 | i,(k,v)::m=>(ek k,ev v,i)::mapE ek ev (i+1) m
def idxS (m:List (κ×β)) (k:κ):Nat:=match m with
 | []=>0
 | (k',_)::m=>if k==k' then 0 else idxS m k+1
def hasM (m:List (κ×β)) (k:κ):Bool:=m.any fun p=>k==p.1
def getM (m:List (κ×β)) (k:κ) (z:β):β:=match m with
 | []=>z
 | (k',v)::m=>if k==k' then v else getM m k z
def setM (m:List (κ×β)) (k:κ) (v:β):List (κ×β):=match m with
 | []=>[(k,v)]
 | (k',v')::m=>if k==k' then (k,v)::m else (k',v')::setM m k v
def putM (m:List (κ×β)) (i:Nat) (v:β):List (κ×β):=m.modify i fun p=>(p.1,v)
theorem Q6s {k k' : κ} {v:β} {m:List (κ×β)}:hasM ((k',v)::m) k=((k==k')||hasM m k):=rfl
theorem Q2u {ek:κ→V} {ev:β→V}:∀ (i:Nat) (m:List (κ×β)),(mapE ek ev i m).length=m.length
 | _,[]=>rfl
 | i,_::m=>by simp [mapE,Q2u (i+1) m]
theorem Q5d {ek:κ→V} {ev:β→V}:∀ (i j:Nat) (m:List (κ×β)),(mapE ek ev i m)[j]? = (m[j]?).map fun p=>(ek p.1,ev p.2,i+j)
 | _,j,[]=>by simp [mapE]
 | i,0,_::m=>by simp [mapE]
 | i,j+1,_::m=>by
  simp only [mapE,List.getElem?_cons_succ,Q5d (i+1) j m];rw [show i+1+j=i+(j+1) from by omega]
theorem Qqi {ek:κ→V} {ev:β→V}:∀ (i:Nat) (m n:List (κ×β)),mapE ek ev i (m++n)=mapE ek ev i m++mapE ek ev (i+m.length) n
 | _,[],n=>by simp [mapE]
 | i,(k,v)::m,n=>by simp [mapE,Qqi (i+1) m n];congr 1;omega
theorem Qjj {ek:κ→V} {ev:β→V} {kd:MK} (hk:∀ a,kd.ok (ek a)=true):∀ (i:Nat) (m:List (κ×β)),kd.all (mapE ek ev i m)=true
 | _,[]=>rfl
 | i,(k,v)::m=>by
  have:=Qjj (ev:=ev) hk (i+1) m;simp only [MK.all] at *
  simp [mapE,hk,this]
section
variable {ek:κ→V} {ev:β→V} (hs:∀ a b,Qea (ek a) (ek b)=(a==b))
include hs
theorem Qh4 {k:κ}:∀ (i:Nat) (m:List (κ×β)) (z:β),Qg1 (ek k) (mapE ek ev i m)=if hasM m k then some (idxS m k,ev (getM m k z)) else none
 | _,[],z=>rfl
 | i,(k',v)::m,z=>by
  simp only [mapE,Qg1,hs,Qh4 (i+1) m z,Q6s,idxS,getM];by_cases hb:(k==k')=true
  ·simp [hb]
  ·simp only [hb,Bool.false_eq_true,if_false,Bool.false_or];by_cases hq:hasM m k=true
   ·rw [if_pos hq,if_pos hq];rfl
   ·rw [if_neg hq,if_neg hq];rfl
omit hs in
theorem Qbb1 {k:κ}:∀ {m:List (κ×β)},hasM m k=true→idxS m k<m.length
 | [],h=>by cases h
 | (k',v)::m,h=>by
  simp only [idxS,hasM,List.any_cons] at *
  cases hb:(k==k') with
  | true=>simp
  | false =>
   rw [hb] at h;have:=Qbb1 (m:=m) (by simpa [hasM] using h);simp;exact this
omit hs in
theorem Q6t {k:κ}:∀ {m:List (κ×β)},hasM m k=false→idxS m k=m.length
 | [],h=>rfl
 | (k',v)::m,h=>by
  simp only [hasM,List.any_cons,Bool.or_eq_false_iff] at h;simp only [idxS,h.1,Bool.false_eq_true,if_false,List.length_cons];rw [Q6t (m:=m) h.2]
omit hs in
theorem Qwi {k:κ} {v:β}:∀ {m:List (κ×β)},hasM m k=false→setM m k v=m++[(k,v)]
 | [],h=>rfl
 | (k',v')::m,h=>by
  simp only [hasM,List.any_cons,Bool.or_eq_false_iff] at h;simp only [setM,h.1,Bool.false_eq_true,if_false,List.cons_append];rw [Qwi (m:=m) h.2]
omit hs in
theorem Q1v {k:κ} {v:β}:∀ (i:Nat) {m:List (κ×β)},hasM m k=true→modM (ek k) (ev v) (idxS m k) (mapE ek ev i m)=mapE ek ev i (setM m k v)
 | _,[],h=>by cases h
 | i,(k',v')::m,h=>by
  simp only [idxS,setM,mapE,hasM,List.any_cons] at *
  cases hb:(k==k') with
  | true=>simp [modM,mapE]
  | false =>
   rw [hb] at h;simp only [Bool.false_eq_true,if_false,modM,mapE];rw [Q1v (i+1) (by simpa [hasM] using h)]
omit hs in
theorem Qqj {k:κ} {v:β}:∀ {m:List (κ×β)},hasM m k=true→(setM m k v).length=m.length
 | [],h=>by cases h
 | (k',v')::m,h=>by
  simp only [setM,hasM,List.any_cons] at *
  cases hb:(k==k') with
  | true=>simp
  | false =>
   rw [hb] at h;simp [Qqj (m:=m) (by simpa [hasM] using h)]
omit hs in
theorem Qbb2 {v:β}:∀ (i j:Nat) {m:List (κ×β)} {p:κ×β},m[j]? = some p→modM (ek p.1) (ev v) j (mapE ek ev i m)=mapE ek ev i (putM m j v)
 | i,0,q::m,p,h=>by simp at h;subst h;simp [putM,mapE,modM]
 | i,j+1,q::m,p,h=>by
  simp at h;have:=Qbb2 (v:=v) (i+1) j h;simp only [putM,mapE,modM,List.modify_succ_cons] at *
  rw [this]
 | i,j,[],p,h=>by simp at h
omit hs in
theorem Q6u:∀ (i j:Nat) (m:List (κ×β)),j<m.length→Q4n ((i+j:Nat):Int) (mapE ek ev i m)=some j
 | i,j,[],h=>by simp at h
 | i,0,_::m,h=>by simp [mapE,Q4n]
 | i,j+1,_::m,h=>by
  have:=Q6u (i+1) j m (by simpa using h);simp only [mapE,Q4n];have hne:((i:Int)==((i+(j+1):Nat):Int))=false:=by simp;omega
  rw [hne,show i+(j+1)=i+1+j from by omega,this];rfl
end
variable {Γ:Env} {pc d nb:Nat} {os:List COp} {E:List (Nat×V)} {M M' M0:Mem} {L:List (Nat×Bx)} {Q:St→Prop} {gd:Option (Nat×Bool)} {a b c:Arg} {ek:κ→V} {ev:β→V} {m:List (κ×β)}
theorem Rn.k0 {k:K} {as:List Arg} {v:V} (hw:Wn E gd) (hc:k.isCall=false) (hn:k.isNil=false) (hk:Qm Γ.n0 (Γ.n0+0) k (V.dems (as.map (·.val (look E)))) M=some (v,M'))
  (h:Rn Γ pc os ⟨look E,M',nb⟩ Q):Rn Γ pc (⟨none,k,as,false,gd⟩::os) ⟨look E,M,nb⟩ Q:=by
 refine Rn.cons ?_;unfold COp.run;rw [hw.wanted];simp only [hc,hn,Bool.false_eq_true,if_false,COp.step,COp.xs,Option.getD_none,hk,Qbd];exact h
theorem Rn.mkmap (hw:Wn E gd) (hf:(Qbu L d).isNone=true) (ek:κ→V) (ev:β→V) (h:Rn Γ pc os ⟨look ((d,.mp (Γ.n0+d))::E),Ql Γ.n0 ((d,.mp (mapE ek ev 0 []) 0)::L) M0,nb⟩ Q) :
  Rn Γ pc (⟨some d,.mkmap,[],false,gd⟩::os) ⟨look E,Ql Γ.n0 L M0,nb⟩ Q:=by
 refine Rn.k hw rfl rfl ?_ h;simp only [List.map_nil,V.dems,Qm];rw [if_pos (by simp [Qqh (Γ:=Γ) (M0:=M0) hf]),Qeu];rfl
theorem Rn.lenm {t:Nat} (hw:Wn E gd) (ha:a.val (look E) = .mp (Γ.n0+t)) (hM:Qbu L t=some (.mp (mapE ek ev 0 m) m.length)) (h:Rn Γ pc os ⟨look ((d,.d (.int .i64 m.length))::E),Ql Γ.n0 L M0,nb⟩ Q) :
  Rn Γ pc (⟨some d,.lenm,[a],false,gd⟩::os) ⟨look E,Ql Γ.n0 L M0,nb⟩ Q:=by
 refine Rn.k hw rfl rfl ?_ h;simp only [List.map_cons,List.map_nil,V.dems,ha,V.dem,Qm,Qbf hM,Q2u]
section
variable (hs:∀ a b,Qea (ek a) (ek b)=(a==b)) {kd:MK} (hk:∀ a,kd.ok (ek a)=true) (hv:∀ b,(ev b).dat=true)
include hs hk hv
theorem Rn.lookup {t:Nat} {z:V} {k:κ} (zb:β) (hz:ev zb=z) (hw:Wn E gd) (ha:a.val (look E) = .mp (Γ.n0+t)) (hb:(b.val (look E)).dem=ek k) (hM:Qbu L t=some (.mp (mapE ek ev 0 m) m.length))
  (h:Rn Γ pc os ⟨look ((d,ev (getM m k zb))::E),Ql Γ.n0 L M0,nb⟩ Q):Rn Γ pc (⟨some d,.lookup kd false z,[a,b],false,gd⟩::os) ⟨look E,Ql Γ.n0 L M0,nb⟩ Q:=by
 subst hz;refine Rn.k hw rfl rfl ?_ h;simp only [List.map_cons,List.map_nil,V.dems,ha,hb,V.dem,Qm,Qbf hM,hk,Qjj hk,Bool.and_self,if_true,Qh4 hs 0 m zb];cases hh:hasM m k with
 | true=>simp [Qu7 (hv _),Qr7 (hv _)]
 | false =>
  have:getM m k zb=zb:=by
   clear hM h
   induction m with
   | nil=>rfl
   | cons p m ih =>
    simp only [hasM,List.any_cons,Bool.or_eq_false_iff] at hh;simp only [getM,hh.1,Bool.false_eq_true,if_false];exact ih hh.2
  simp [hv,this]
theorem Rn.lookupC {t:Nat} {z:V} {k:κ} (zb:β) (hz:ev zb=z) (hw:Wn E gd) (ha:a.val (look E) = .mp (Γ.n0+t)) (hb:(b.val (look E)).dem=ek k) (hM:Qbu L t=some (.mp (mapE ek ev 0 m) m.length))
  (h:Rn Γ pc os ⟨look ((d,.tup [ev (getM m k zb),.d (.bool (hasM m k))])::E),Ql Γ.n0 L M0,nb⟩ Q):Rn Γ pc (⟨some d,.lookup kd true z,[a,b],false,gd⟩::os) ⟨look E,Ql Γ.n0 L M0,nb⟩ Q:=by
 subst hz;refine Rn.k hw rfl rfl ?_ h;simp only [List.map_cons,List.map_nil,V.dems,ha,hb,V.dem,Qm,Qbf hM,hk,Qjj hk,Bool.and_self,if_true,Qh4 hs 0 m zb];cases hh:hasM m k with
 | true=>simp [Qu7 (hv _),Qr7 (hv _)]
 | false =>
  have:getM m k zb=zb:=by
   clear hM h
   induction m with
   | nil=>rfl
   | cons p m ih =>
    simp only [hasM,List.any_cons,Bool.or_eq_false_iff] at hh;simp only [getM,hh.1,Bool.false_eq_true,if_false];exact ih hh.2
  simp [hv,this]
theorem Rn.mapset {t:Nat} {k:κ} {v:β} (hw:Wn E gd) (ha:a.val (look E) = .mp (Γ.n0+t)) (hb:(b.val (look E)).dem=ek k) (hc:Qv3 (c.val (look E)).dem=ev v) (hcd:(c.val (look E)).dem.dat=true) (hM:Qbu L t=some (.mp (mapE ek ev 0 m) m.length))
  (h:Rn Γ pc os ⟨look E,Ql Γ.n0 ((t,.mp (mapE ek ev 0 (setM m k v)) (setM m k v).length)::L) M0,nb⟩ Q):Rn Γ pc (⟨none,.mapset kd,[a,b,c],false,gd⟩::os) ⟨look E,Ql Γ.n0 L M0,nb⟩ Q:=by
 refine Rn.k0 (v:=.und) hw rfl rfl ?_ h;simp only [List.map_cons,List.map_nil,V.dems,ha,hb,hc,V.dem,Qm,Qbf hM,hk,hcd,Qjj hk,Bool.and_self,if_true];rw [Qh4 hs 0 m v,← Qeu];cases hh:hasM m k with
 | true=>simp only [if_true];rw [Q1v 0 hh,Qqj hh]
 | false =>
  simp only [Bool.false_eq_true,if_false];rw [Qwi hh,Qqi];simp [mapE]
theorem Rn.mapentry {t:Nat} {z:V} {k:κ} (zb:β) (hz:ev zb=z) (hw:Wn E gd) (ha:a.val (look E) = .mp (Γ.n0+t)) (hb:(b.val (look E)).dem=ek k) (hM:Qbu L t=some (.mp (mapE ek ev 0 m) m.length))
  (h:Rn Γ pc os ⟨look ((d,.tup [ev (getM m k zb),.d (.int .i64 (idxS m k))])::E),Ql Γ.n0 ((t,.mp (mapE ek ev 0 (setM m k (getM m k zb))) (setM m k (getM m k zb)).length)::L) M0,nb⟩ Q):Rn Γ pc (⟨some d,.mapentry kd z,[a,b],false,gd⟩::os) ⟨look E,Ql Γ.n0 L M0,nb⟩ Q:=by
 subst hz;refine Rn.k hw rfl rfl ?_ h;simp only [List.map_cons,List.map_nil,V.dems,ha,hb,V.dem,Qm,Qbf hM,hk,hv,Qjj hk,Bool.and_self,if_true,Qh4 hs 0 m zb];rw [← Qeu];cases hh:hasM m k with
 | true =>
  have hlt:=Qbb1 hh;simp only [if_true,hv,Q5d,List.getElem?_eq_getElem hlt,Option.map_some,Nat.zero_add];rw [Q1v 0 hh,Qqj hh]
 | false =>
  have:getM m k zb=zb:=by
   clear hM h
   induction m with
   | nil=>rfl
   | cons p m ih =>
    simp only [hasM,List.any_cons,Bool.or_eq_false_iff] at hh;simp only [getM,hh.1,Bool.false_eq_true,if_false];exact ih hh.2
  simp only [Bool.false_eq_true,if_false];rw [this,Qwi hh,Qqi,Q6t hh];simp [mapE]
omit hs hk in
theorem Rn.entrystore {t i:Nat} {v:β} (hi:i<m.length) (hw:Wn E gd) (ha:a.val (look E) = .mp (Γ.n0+t)) (hb:b.val (look E) = .d (.int .i64 (i:Int))) (hc:Qv3 (c.val (look E)).dem=ev v) (hcd:(c.val (look E)).dem.dat=true) (hM:Qbu L t=some (.mp (mapE ek ev 0 m) m.length))
  (h:Rn Γ pc os ⟨look E,Ql Γ.n0 ((t,.mp (mapE ek ev 0 (putM m i v)) (putM m i v).length)::L) M0,nb⟩ Q):Rn Γ pc (⟨none,.entrystore,[a,b,c],false,gd⟩::os) ⟨look E,Ql Γ.n0 L M0,nb⟩ Q:=by
 refine Rn.k0 (v:=.und) hw rfl rfl ?_ h;have hbn:=Q6u (ek:=ek) (ev:=ev) 0 i m hi;rw [Nat.zero_add] at hbn;simp only [List.map_cons,List.map_nil,V.dems,ha,hb,hc,V.dem,Qm,Qbf hM,hcd,if_true,hbn,Q5d,List.getElem?_eq_getElem hi,Option.map_some];rw [← Qeu,Qbb2 0 i (List.getElem?_eq_getElem hi)];simp [putM]
end
theorem Qbfg {P:Nat→Bool}:Qdl.go P []=[]:=rfl
theorem Qbfh {n0 t o:Nat} {sites:List Nat} {cs:List V} (h:sites.any (fun u=>Nat.beq t u)=false) (r:Qdl.go (Qjq n0 sites) cs=cs):Qdl.go (Qjq n0 sites) (.ptr (n0+t) o::cs) = .ptr (n0+t) o::cs:=by
 simp [Qdl.go,Qdl,Qqg,h,r]
theorem Qbgj {n0 k o:Nat} {sites:List Nat} {cs:List V} (h:k<n0) (r:Qdl.go (Qjq n0 sites) cs=cs):Qdl.go (Qjq n0 sites) (.ptr k o::cs) = .ptr k o::cs:=by
 simp [Qdl.go,Qdl,Qnn h,r]
theorem kgD {P:Nat→Bool} {x:D} {cs:List V} (r:Qdl.go P cs=cs):Qdl.go P (.d x::cs) = .d x::cs:=by
 simp [Qdl.go,Qdl,r]
theorem kClo {P:Nat→Bool} {f:FuncId} {cs:List V} (h:Qdl.go P cs=cs):WkV (Qdl P (.clo f cs)) (.clo f cs):=.same (by simp [Qdl,h])
theorem kMp {n0 t:Nat} {sites:List Nat} (h:sites.any (fun u=>Nat.beq t u)=false):WkV (Qdl (Qjq n0 sites) (.mp (n0+t))) (.mp (n0+t)):=by
 refine .same ?_;simp [Qdl,Qqg,h]
theorem fMp {n0 t u:Nat} {ds:List D} (h:Nat.beq u t=false):WkV (frzV (n0+t) ds (.mp (n0+u))) (.mp (n0+u)):=by
 have:¬ n0+u=n0+t:=by
  intro e;have:u=t:=by omega
  subst this;simp at h
 exact .same (by simp only [frzV];rw [if_neg this])
end Go.Abs
end
section
namespace Go.Abs
open Go
abbrev oo (d:Nat) (k:K) (as:List Arg):COp:=⟨some d,k,as,false,none⟩
abbrev oM (d a:Nat):COp:=⟨some d,.mov,[.t a],false,none⟩
abbrev oL (d a:Nat):COp:=⟨some d,.load false 1,[.t a],false,none⟩
abbrev oF (d n a:Nat):COp:=⟨some d,.fld n,[.t a],false,none⟩
abbrev cI (n:Int):Arg:=.c (.d (.int .i64 n))
abbrev ot (d:Nat) (k:K) (as:List Arg):COp:=⟨some d,k,as,true,none⟩
universe u
variable {α:Type u} {Γ:Env} {pc d nb:Nat} {os:List COp} {E:List (Nat×V)} {M:Mem} {Q:St→Prop} {gd:Option (Nat×Bool)} {a b:Arg} {sz:Nat}
theorem Rn.lit {bytes:Nat} {xs:List α} {e:α→List D} {ls:List (List D)} (hw:Wn E gd) (hl:xs.map e=ls) (hbd:(Nat.ble bytes 128&&Nat.ble 1 sz&&Nat.ble ls.length lim)=true)
  (h:Rn Γ pc os ⟨look ((d,.own sz (xs.map e))::E),M,nb⟩ Q):Rn Γ pc (⟨some d,.append sz bytes,[.c (.nils sz),.c (.d (.lst sz ls))],true,gd⟩::os) ⟨look E,M,nb⟩ Q:=by
 subst hl;simp only [Bool.and_eq_true] at hbd;have h1:=Nat.le_of_ble_eq_true hbd.1.1;have h2:0<sz:=Nat.le_of_ble_eq_true hbd.1.2;have h3:=Nat.le_of_ble_eq_true hbd.2;refine Rn.kT hw rfl rfl (v:=.own sz (xs.map e)) ?_ (fun i=>?_) h
 ·simp only [List.map_cons,List.map_nil,Arg.val,Qm,Qf8,if_true];rw [if_pos (by simp only [h1,h2,h3,decide_true,Bool.and_self])]
 ·simp only [List.map_cons,List.map_nil,Arg.val,Qb4,Qba,Arg.putTo];rw [Qcj]
theorem tv:True:=trivial
abbrev f_ (l:List Int):V:=.f (.lst 1 (List.map (eI .i64) l))
abbrev o_ (l:List Int):V:=.own 1 (List.map (eI .i64) l)
theorem sr {cs:List COp} {y:CC} {σ:St} {Q:Ex→St→Prop} (h:Rn Γ 9 cs σ (Qbbo Γ y Q .norm)):Tr Γ (.seq (.region cs 9 []) y) σ Q:=Tr.seq (Tr.rgn h)
theorem nt {y:CC} {σ:St} {Q:Ex→St→Prop} (h:Tr Γ y σ Q):Rn Γ 9 [] σ (Qbbo Γ y Q .norm):=Rn.nil (toN h)
theorem md {x:D} (ha:a.val (look E) = .d x) (h:Rn Γ pc os ⟨look ((d,.d x)::E),M,nb⟩ Q):Rn Γ pc (⟨some d,.mov,[a],false,none⟩::os) ⟨look E,M,nb⟩ Q:=Rn.movD trivial ha h
end Go.Abs
end
section
namespace Go.Abs
open Go
end Go.Abs
end
section
namespace Go.Abs
open Go
variable {α:Type}
theorem WkVs.app {a a' b b' : List V} (h:WkVs a a') (k:WkVs b b'):WkVs (a++b) (a'++b'):=by
 induction h with
 | nil=>exact k
 | cons h t ih=>exact .cons h ih
theorem Qbgk {g g' : α→List V} {f:V→V}:∀ {xs:List α},(∀ x∈xs,WkVs ((g x).map f) (g' x))→WkVs ((Qb7 g xs).map f) (Qb7 g' xs)
 | [],_=>.nil
 | x::xs,h=>by
  rw [Qi6,Qi6,List.map_append];exact .app (h x (by simp)) (Qbgk fun y hy=>h y (by simp [hy]))
theorem Qbg0 {sz:Nat} {e:α→List D} {n:Int} {xs:List (List α)} {f:V→V} (hf:f (.nils sz) = .nils sz) (h:mkO n ([]:List α)=some xs):WkVs ((Qb7 (fun (x:List α)=>[V.nils sz]) xs).map f) (Qb7 (fun (x:List α)=>[V.own sz (List.map e x)]) xs):=by
 refine Qbgk fun x hx=>?_;unfold mkO at h;split at h<;>cases h;obtain rfl:=List.eq_of_mem_replicate hx;simp only [List.map_cons,List.map_nil,hf];exact .cons (WkV.nilsO _) .nil
theorem Qwj {g:α→V}:∀ (xs:List α),Qb7 (fun x=>[g x]) xs=xs.map g
 | []=>rfl
 | x::xs=>by rw [Qi6,Qwj xs];rfl
variable {Γ:Env} {pc d nb:Nat} {os:List COp} {E:List (Nat×V)} {M M0:Mem} {L:List (Nat×Bx)} {Q:St→Prop} {gd:Option (Nat×Bool)} {a b:Arg} {sz:Nat} {e:α→List D}
theorem Rn.loadTA {t:Nat} {i:Int} {xs:List (List α)} {x:List α} (hw:Wn E gd) (ha:a.val (look E) = .ptr (Γ.n0+t) (0+i.toNat*1)) (hM:Qbu L t=some (.cells (Qb7 (fun (r:List α)=>[V.own sz (List.map e r)]) xs))) (hx:getO xs i=some x)
  (h:Rn Γ pc os ⟨look ((d,.own sz (List.map e x))::E),Ql Γ.n0 ((t,.cells ((Qb7 (fun (r:List α)=>[V.own sz (List.map e r)]) xs).set i.toNat (.d (.lst sz (List.map e x)))))::L) M0,nb⟩ Q) :
  Rn Γ pc (⟨some d,.loadT,[a],false,gd⟩::os) ⟨look E,Ql Γ.n0 L M0,nb⟩ Q:=by
 have hx' : xs[i.toNat]? = some x:=by
  grind [getO]
 have e0:0+i.toNat*1=i.toNat:=by omega
 rw [e0] at ha;refine Rn.loadT hw ha hM ?_ rfl h;rw [Qwj,List.getElem?_map,hx'];rfl
theorem Rn.storeTA {t u:Nat} {i:Int} {xs ys:List (List α)} {y:List α} {c0:V} (hw:Wn E gd) (ha:a.val (look E) = .ptr (Γ.n0+t) (0+i.toNat*1)) (hb:look E u = .own sz (List.map e y)) (hM:Qbu L t=some (.cells ((Qb7 (fun (r:List α)=>[V.own sz (List.map e r)]) xs).set i.toNat c0))) (hx:setO xs i y=some ys)
  (h:Rn Γ pc os ⟨look ((u,.d (.lst sz (List.map e y)))::E),Ql Γ.n0 ((t,.cells (Qb7 (fun (r:List α)=>[V.own sz (List.map e r)]) ys))::L) M0,nb⟩ Q) :
  Rn Γ pc (⟨none,.store 1,[a,.t u],true,gd⟩::os) ⟨look E,Ql Γ.n0 L M0,nb⟩ Q:=by
 unfold setO at hx;split at hx<;>cases hx;rename_i hi;have e0:0+i.toNat*1=i.toNat:=by omega
 rw [e0] at ha;refine Rn.storeO hw ha hb hM ?_ ?_ h
 ·rw [Qwj]
  grind [Nat.ble_eq_true_of_le,List.length_set,List.length_map]
 ·rw [Qwj,Qwj,List.map_set];rw [List.set_eq_take_append_cons_drop (l:=List.map _ xs) (i:=i.toNat) (a:=V.own sz (List.map e y)),if_pos (by simpa using hi.2)];simp [List.take_set_of_le,Nat.le_refl,List.drop_set_of_lt]
def Q4f (m:Nat):List (Nat×Bx)→List (Nat×Bx)
 | []=>[]
 | (t,b)::L=>(m+t,b)::Q4f m L
theorem Qyu {m t:Nat}:∀ {Lr:List (Nat×Bx)},Qbu (Q4f m Lr++L) t=if m≤t then (match Qbu Lr (t-m) with|some b=>some b|none=>Qbu L t) else Qbu L t
 | []=>by
  grind [Q4f,Qbu]
 | (u,b)::Lr=>by
  simp only [Q4f,List.cons_append,Qbu];rw [Qyu (Lr:=Lr)];by_cases hm:m≤t
  ·simp only [hm,if_true];by_cases hu:t=m+u
   ·simp_all
   grind [Nat.beq,absurd,Nat.eq_of_beq_eq_true]
  ·have h1:Nat.beq t (m+u)=false:=by
    grind [Nat.beq,Nat.eq_of_beq_eq_true]
   grind
theorem Q4g {m:Nat} (hL:(L.all fun p=>Nat.blt p.1 m)=true) {t:Nat} (h:m≤t):Qbu L t=none:=by
 cases hb:Qbu L t with
 | none=>rfl
 | some b =>
  obtain ⟨p,hp,he⟩:=Qs0 hb;have:=List.all_eq_true.1 hL p hp;have:=Nat.le_of_ble_eq_true this;omega
theorem Q7u {n0 m:Nat} {Lr:List (Nat×Bx)} (hL:(L.all fun p=>Nat.blt p.1 m)=true):Ql (n0+m) Lr (Ql n0 L M0)=Ql n0 (Q4f m Lr++L) M0:=by
 funext k;simp only [Ql];by_cases h1:k<n0
 ·grind
 ·by_cases h2:k<n0+m
  ·rw [if_pos h2,if_neg h1,if_neg h1,Qyu,if_neg (by omega)]
  ·rw [if_neg h2,if_neg h1,Qyu,if_pos (by omega),Q4g hL (t:=k-n0) (by omega),show k-(n0+m)=k-n0-m from by omega]
   grind
def LOn (p:Nat→Prop):List (Nat×Bx)→Prop
 | []=>True
 | (_,.cells cs)::L=>V.ons p cs∧LOn p L
 | (_,.mp ..)::L=>LOn p L
theorem LOn.at {p:Nat→Prop}:∀ {L:List (Nat×Bx)},LOn p L→∀ t cs,Qbu L t=some (.cells cs)→V.ons p cs
 | [],_,t,cs,h=>by cases h
 | (u,.cells ds)::L,hp,t,cs,h=>by
  simp only [Qbu] at h;cases hb:Nat.beq t u with
  | true=>rw [hb] at h;cases h;exact hp.1
  | false=>rw [hb] at h;exact LOn.at hp.2 t cs h
 | (u,.mp ..)::L,hp,t,cs,h=>by
  simp only [Qbu] at h;cases hb:Nat.beq t u with
  | true=>rw [hb] at h;cases h
  | false=>rw [hb] at h;exact LOn.at (L:=L) hp t cs h
theorem thN {n0 t:Nat} {b:Bx} (h:Qbu L t=some b):There (Ql n0 L M0) (n0+t):=by simp [There,Qbt,h]
def LR (M:Mem) (n0:Nat):List (Nat×Bx)→Prop
 | []=>True
 | (t,b)::L=>M (n0+t)=some b∧LR M n0 L
theorem lrAt {n0:Nat}:∀ {Lr:List (Nat×Bx)},LR M n0 Lr→∀ t b,Qbu Lr t=some b→M (n0+t)=some b
 | [],_,t,b,h=>by cases h
 | (u,c)::Lr,hp,t,b,h=>by
  simp only [Qbu] at h;cases hb:Nat.beq t u with
  | true =>
   rw [hb] at h;have:=Nat.eq_of_beq_eq_true hb;subst this;cases h;exact hp.1
  | false=>rw [hb] at h;exact lrAt hp.2 t b h
end Go.Abs
end
section
namespace Go.Abs
open Go
def Mem.puts (M:Mem):List (Nat×Bx)→Mem
 | []=>M
 | (k,b)::l=>(Mem.puts M l).put k b
variable {M M0 M1 M2 M3:Mem} {k k' : Nat} {b b' c:Bx} {B B' : List (Nat×Bx)}
theorem pg0:M.puts ((k,b)::B) k=some b:=by simp [Mem.puts,Mem.put]
theorem pgS (h:k≠k') (hg:M.puts B k=some b):M.puts ((k',c)::B) k=some b:=by simp [Mem.puts,Mem.put,h,hg]
theorem ps0:(M.puts ((k,b)::B)).put k b'=M.puts ((k,b')::B):=by
 funext i;simp only [Mem.puts,Mem.put];split<;>rfl
theorem psS (h:k≠k') (hp:(M.puts B).put k b=M.puts B'):(M.puts ((k',c)::B)).put k b=M.puts ((k',c)::B'):=by
 simp only [Mem.puts];rw [← hp]
 grind [Mem.put]
def Qbb3 (M:Mem):List (Nat×Bx)→Prop
 | []=>True
 | (k,b)::l=>M k=some b∧Qbb3 M l
theorem Q6v:∀ {B:List (Nat×Bx)},Qbb3 M B→M.puts B=M
 | [],_=>rfl
 | (k,b)::l,h=>by
  rw [Mem.puts,Q6v h.2];funext i;simp only [Mem.put];split
  ·rename_i e;subst e;exact h.1.symm
  ·rfl
def Qbeb (n:Nat):List (Nat×Bx)→Prop
 | []=>True
 | (k,_)::l=>k<n∧Qbeb n l
theorem Qqk {n0:Nat} (hM:∀ k,n0≤k→M k=none):∀ {B:List (Nat×Bx)},Qbeb n0 B→∀ k,n0≤k→M.puts B k=none
 | [],_,k,hk=>hM k hk
 | (j,b)::l,h,k,hk=>by
  have h1:k≠j:=by have:=h.1;omega
  simp only [Mem.puts,Mem.put,h1,if_false];exact Qqk hM h.2 k hk
theorem There.puts:∀ {B:List (Nat×Bx)} {k:Nat},There M k→There (M.puts B) k
 | [],_,h=>h
 | _::l,_,h=>There.put (There.puts (B:=l) h)
variable {Γ:Env} {pc d nb:Nat} {os:List COp} {E:List (Nat×V)} {L L' : List (Nat×Bx)} {Q:St→Prop} {gd:Option (Nat×Bool)} {x y:Arg}
theorem Tr.puts {cc:CC} {s:Sl} {Q:Ex→St→Prop} (B:List (Nat×Bx)) (h:Qbb3 M0 B) (k:Tr Γ cc ⟨s,Ql Γ.n0 L (M0.puts B),nb⟩ Q):Tr Γ cc ⟨s,Ql Γ.n0 L M0,nb⟩ Q:=by
 rw [Q6v h] at k;exact k
theorem Rn.storeB {k off n:Nat} {v:V} {cs cs' : List V} (hw:Wn E gd) (ha:x.val (look E) = .ptr k off) (hb:(y.val (look E)).dem=v) (hv:Qdy v=true) (hk:k<Γ.n0) (hl:v.lt Γ.n0=true) (hM:M1 k=some (.cells cs))
  (hn:(Nat.beq v.cells.length n&&Nat.ble (off+n) cs.length)=true) (hcs:cs.take off++v.cells++cs.drop (off+n)=cs') (hp:M1.put k (.cells cs')=M2)
  (h:Rn Γ pc os ⟨look E,Ql Γ.n0 L M2,nb⟩ Q):Rn Γ pc (⟨none,.store n,[x,y],false,gd⟩::os) ⟨look E,Ql Γ.n0 L M1,nb⟩ Q:=by
 simp only [Bool.and_eq_true] at hn;have h1:v.cells.length=n:=Nat.eq_of_beq_eq_true hn.1;have h2:=Nat.le_of_ble_eq_true hn.2;have hf:v.dem=v:=by rw [← hb];exact Qdj _
 have ht:v.topS=v:=Q12 hf;refine Rn.kS (v:=.und) hw ?_ (fun _=>rfl) h;simp only [Bool.false_eq_true,if_false,List.map_cons,List.map_nil,V.dems,ha,V.dem,hb];simp only [Qm];cases v<;>first
  | (simp [Qdy] at hv;done)
  | simp_all [Qbh,decide_true,Bool.true_and,Bool.or_true,if_true,Qfv]
theorem Rn.storeOB {k u off sz:Nat} {l:List (List D)} {cs cs' : List V} (hw:Wn E gd) (ha:x.val (look E) = .ptr k off) (hb:look E u = .own sz l) (hk:k<Γ.n0) (hM:M1 k=some (.cells cs))
  (hn:Nat.ble (off+1) cs.length=true) (hcs:cs.take off++[.own sz l]++cs.drop (off+1)=cs') (hp:M1.put k (.cells cs')=M2)
  (h:Rn Γ pc os ⟨look ((u,.d (.lst sz l))::E),Ql Γ.n0 L M2,nb⟩ Q):Rn Γ pc (⟨none,.store 1,[x,.t u],true,gd⟩::os) ⟨look E,Ql Γ.n0 L M1,nb⟩ Q:=by
 have h2:=Nat.le_of_ble_eq_true hn;have hm:[x,Arg.t u].map (fun x=>x.val (look E))=[V.ptr k off,.own sz l]:=by simp only [List.map_cons,List.map_nil,ha];rw [show (Arg.t u).val (look E)=_ from hb]
 refine Rn.kS (v:=.und) hw ?_ (fun i=>?_) h
 ·simp_all [if_true,Qm,Qbh,V.topS,V.cells,List.length_cons,List.length_nil,decide_true,Bool.true_and,V.lt,Bool.or_true,Qfv]
 ·simp only [if_true,hm,Qb4,Qba,V.dem];have:x.putTo (look E) (.ptr k off)=look E:=by
   cases x with
   | c v=>rfl
   | t j =>
    simp only [Arg.val] at ha;funext i;simp_all [Arg.putTo,Sl.put]
  rw [this,show (Arg.t u).putTo (look E) (.d (.lst sz l))=(look E).put u (.d (.lst sz l)) from rfl,Qcj]
theorem Rn.loadTB {k off sz:Nat} {l:List (List D)} {cs cs' : List V} (hw:Wn E gd) (ha:x.val (look E) = .ptr k off) (hk:k<Γ.n0) (hM:M1 k=some (.cells cs)) (hx:cs[off]? = some (.own sz l)) (hcs:cs.set off (.d (.lst sz l))=cs') (hp:M1.put k (.cells cs')=M2)
  (h:Rn Γ pc os ⟨look ((d,.own sz l)::E),Ql Γ.n0 L M2,nb⟩ Q):Rn Γ pc (⟨some d,.loadT,[x],false,gd⟩::os) ⟨look E,Ql Γ.n0 L M1,nb⟩ Q:=by
 refine Rn.k hw rfl rfl ?_ h
 grind [V.dems,V.dem,Qm,Qbh,V.topL,V.top,Qfv]
theorem Rn.storeAB {α:Type} {g:α→List V} {xs ys:List α} {sz k:Nat} {i:Int} {z:α} {v:V} (hg:∀ x,(g x).length=sz) (hw:Wn E gd) (ha:x.val (look E) = .ptr k (0+i.toNat*sz)) (hb:(y.val (look E)).dem=v) (hv:Qdy v=true) (hk:k<Γ.n0) (hl:v.lt Γ.n0=true) (hM:M1 k=some (.cells (Qb7 g xs))) (hc:v.cells=g z)
  (hx:setO xs i z=some ys) (hp:M1.put k (.cells (Qb7 g ys))=M2) (h:Rn Γ pc os ⟨look E,Ql Γ.n0 L M2,nb⟩ Q):Rn Γ pc (⟨none,.store sz,[x,y],false,gd⟩::os) ⟨look E,Ql Γ.n0 L M1,nb⟩ Q:=by
 unfold setO at hx;split at hx<;>cases hx;rename_i hi;have hl2:=Qwh hg xs;have hb2:i.toNat*sz+sz≤xs.length*sz:=by
  rw [show i.toNat*sz+sz=(i.toNat+1)*sz from by grind];exact Nat.mul_le_mul_right _ hi.2
 refine Rn.storeB (cs':=Qb7 g (xs.set i.toNat z)) hw ha hb hv hk hl hM ?_ ?_ hp h
 ·simp_all
 ·rw [hc,Nat.zero_add];exact Qbbv hg z hi.2
def OkB (n0:Nat):List (Nat×Bx)→Prop
 | []=>True
 | (k,.cells cs)::l=>(n0≤k∨V.lt.go n0 cs=true)∧OkB n0 l
 | (k,.mp ..)::l=>OkB n0 l
theorem OkB.at {n0:Nat} {M:Mem}:∀ {B:List (Nat×Bx)},OkB n0 B→∀ k cs,k<n0→M.puts B k=some (.cells cs)→M.puts B k=M k∨V.lt.go n0 cs=true
 | [],_,_,_,_,_=>.inl rfl
 | (j,.cells ds)::l,h,k,cs,hk,hg=>by
  by_cases e:k=j
  ·subst e;simp only [Mem.puts,Mem.put,if_true,Option.some.injEq,Bx.cells.injEq] at hg;subst hg;rcases h.1 with h1|h1
   ·omega
   ·exact .inr h1
  ·simp only [Mem.puts,Mem.put,e,if_false] at hg ⊢;exact OkB.at h.2 k cs hk hg
 | (j,.mp ..)::l,h,k,cs,hk,hg=>by
  by_cases e:k=j
  ·simp_all [Mem.puts,Mem.put,if_true]
  ·simp only [Mem.puts,Mem.put,e,if_false] at hg ⊢;exact OkB.at (B:=l) h k cs hk hg
theorem cw0:(Ql Γ.n0 L M1).puts []=Ql Γ.n0 L M1:=rfl
theorem Qzl {t:Nat} (h:(Ql Γ.n0 L M1).puts B=Ql Γ.n0 L' M2):(Ql Γ.n0 L M1).puts ((Γ.n0+t,b)::B)=Ql Γ.n0 ((t,b)::L') M2:=by
 rw [Mem.puts,h,Qeu]
theorem Qzm (hk:k<Γ.n0) (h:(Ql Γ.n0 L M1).puts B=Ql Γ.n0 L' M2) (hp:M2.put k b=M3):(Ql Γ.n0 L M1).puts ((k,b)::B)=Ql Γ.n0 L' M3:=by
 rw [Mem.puts,h,Qfv hk,hp]
theorem runW {o:COp} {f:FuncId} {args:List V} {r:V} (hw:o.wanted (look E)=some true) (hc:o.kind.isCall=true) (ha:o.callee (look E)=some (f,args)) (hC:ACalls Γ.P f args (Ql Γ.n0 L M1) nb r ((Ql Γ.n0 L M1).puts B) nb) (hB:OkB Γ.n0 B) (hp:(Ql Γ.n0 L M1).puts B=Ql Γ.n0 L' M2) (hpc:pcOf pc=0)
  (h:Rn Γ pc os ⟨Qbd (look E) o.dst r,Ql Γ.n0 L' M2,nb⟩ Q):Rn Γ pc (o::os) ⟨look E,Ql Γ.n0 L M1,nb⟩ Q:=by
 refine Rn.cons ?_;unfold COp.run;rw [hw];simp only [hc,if_true,ha,hpc];refine ⟨r,_,nb,hC,fun k hk=>There.puts hk,fun k cs hk hg=>hB.at k cs hk hg,?_⟩;rw [hp];exact h
theorem Rn.callW {f:FuncId} {as:List Arg} {args:List V} {r:V} (hw:Wn E gd) (ha:V.dems (as.map (·.val (look E)))=args) (hC:ACalls Γ.P f args (Ql Γ.n0 L M1) nb r ((Ql Γ.n0 L M1).puts B) nb) (hB:OkB Γ.n0 B) (hp:(Ql Γ.n0 L M1).puts B=Ql Γ.n0 L' M2) (hpc:pcOf pc=0)
  (h:Rn Γ pc os ⟨look ((d,r)::E),Ql Γ.n0 L' M2,nb⟩ Q):Rn Γ pc (⟨some d,.call f,as,false,gd⟩::os) ⟨look E,Ql Γ.n0 L M1,nb⟩ Q :=
 runW (hw.wanted _ _ _ _) rfl (by simp [COp.callee,ha]) hC hB hp hpc (by grind [Qbd,look,Qcj])
theorem Q0n {M:Mem}:∀ {B:List (Nat×Bx)},M.patch (Mem.puts (fun _=>none) B)=M.puts B
 | []=>by funext k;rfl
 | (j,b)::B=>by
  funext k;have:=congrFun (Q0n (M:=M) (B:=B)) k;simp only [Mem.patch,Mem.puts,Mem.put] at this ⊢
  grind
theorem Q6w {M:Mem}:∀ {B:List (Nat×Bx)} {k:Nat},(Mem.puts (fun _=>none) B k).isSome=true→(B.any fun p=>Nat.beq p.1 k)=true
 | [],k,h=>by cases h
 | (j,b)::B,k,h=>by
  simp only [Mem.puts,Mem.put] at h;simp only [List.any_cons,Bool.or_eq_true];by_cases e:k=j
  ·simp_all
  ·rw [if_neg e] at h;exact .inr (Q6w (M:=M) h)
def AllIn (M:Mem):List (Nat×Bx)→Prop
 | []=>True
 | (k,_)::B=>(M k).isSome=true∧AllIn M B
theorem AllIn.at {M:Mem}:∀ {B:List (Nat×Bx)},AllIn M B→∀ k,(B.any fun p=>Nat.beq p.1 k)=true→(M k).isSome=true
 | [],_,k,h=>by cases h
 | (j,b)::B,hA,k,h=>by
  simp only [List.any_cons,Bool.or_eq_true] at h;rcases h with h|h
  ·have:=Nat.eq_of_beq_eq_true h;subst this;exact hA.1
  ·exact AllIn.at hA.2 k h
theorem OkB.cells {n0:Nat}:∀ {B:List (Nat×Bx)},OkB n0 B→∀ k cs,k<n0→Mem.puts (fun _=>none) B k=some (.cells cs)→V.lt.go n0 cs=true
 | [],_,_,_,_,h=>by cases h
 | (j,.cells ds)::l,h,k,cs,hk,hg=>by
  by_cases e:k=j
  ·subst e;simp only [Mem.puts,Mem.put,if_true,Option.some.injEq,Bx.cells.injEq] at hg;subst hg;rcases h.1 with h1|h1
   ·omega
   ·exact h1
  ·simp only [Mem.puts,Mem.put,e,if_false] at hg;exact OkB.cells (B:=l) h.2 k cs hk hg
 | (j,.mp ..)::l,h,k,cs,hk,hg=>by
  by_cases e:k=j
  ·simp_all [Mem.puts,Mem.put,if_true]
  ·simp only [Mem.puts,Mem.put,e,if_false] at hg;exact OkB.cells (B:=l) h k cs hk hg
theorem Q1e {M M2:Mem} (h:∀ k,(M k).isSome=true→M2 k=M k):Ext M M2:=fun k b hk=>by grind
theorem nwT {P:Program} {f:FuncId} {args:List V} {nb nb' : Nat} {r1 r2:V} {L1 L2:List (Nat×Bx)} {b:Bool} (hb:b=true) (h:ACalls P f args M nb (bif b then r1 else r2) (Ql nb (bif b then L1 else L2) M1) nb'):ACalls P f args M nb r1 (Ql nb L1 M1) nb':=by
 subst hb;exact h
theorem nwF {P:Program} {f:FuncId} {args:List V} {nb nb' : Nat} {r1 r2:V} {L1 L2:List (Nat×Bx)} {b:Bool} (hb:b=false) (h:ACalls P f args M nb (bif b then r1 else r2) (Ql nb (bif b then L1 else L2) M1) nb'):ACalls P f args M nb r2 (Ql nb L2 M1) nb':=by
 subst hb;exact h
theorem Rn.callNW {f:FuncId} {as:List Arg} {args:List V} {r r' : V} {m n:Nat} {Lr L1:List (Nat×Bx)} (hw:Wn E gd) (ha:V.dems (as.map (·.val (look E)))=args)
  (hC:∀ M,(∀ k,(Ql Γ.n0 L M1 k).isSome=true→M k=Ql Γ.n0 L M1 k)→ACalls Γ.P f args M (Γ.n0+m) r (Ql (Γ.n0+m) Lr (M.puts B)) (Γ.n0+m+n)) (hr:r=r') (hB:OkB Γ.n0 B) (hA:AllIn (Ql Γ.n0 L M1) B) (hM:∀ k,Γ.n0≤k→M1 k=none)
  (hp:(Ql Γ.n0 L M1).puts B=Ql Γ.n0 L1 M2) (hLr:Q4f m Lr=L') (hL:(L.all fun p=>Nat.blt p.1 m)=true) (hL1:(L1.all fun p=>Nat.blt p.1 m)=true) (hpc:(Nat.beq (pcOf pc) 0||(Nat.ble 10 (pcOf pc)&&Nat.testBit (pcOf pc-10) d))=true)
  (h:Rn Γ pc os ⟨look ((d,r')::E),Ql Γ.n0 (L'++L1) M2,Γ.n0+(m+n)⟩ Q):Rn Γ pc (⟨some d,.call f,as,false,gd⟩::os) ⟨look E,Ql Γ.n0 L M1,Γ.n0+m⟩ Q:=by
 subst hLr hr;have h' : Rn Γ pc os ⟨Qbd (look E) (some d) r,Ql (Γ.n0+m) Lr ((Ql Γ.n0 L M1).puts B),Γ.n0+m+n⟩ Q:=by
  rw [show Qbd (look E) (some d) r=look ((d,r)::E) from Qcj E d r,hp,Q7u hL1,show Γ.n0+m+n=Γ.n0+(m+n) from by omega];exact h
 refine Rn.cons ?_;unfold COp.run;rw [hw.wanted];simp only [show (K.call f).isCall=true from rfl,if_true,COp.callee,ha];rw [Bool.or_eq_true] at hpc;rcases hpc with hpc|hpc
 ·rw [Nat.eq_of_beq_eq_true hpc];refine ⟨r,_,_,hC _ (fun _ _=>rfl),fun k hk=>?_,fun k cs hk hg=>?_,h'⟩
  ·have hlt:k<Γ.n0+m:=by
    rcases Nat.lt_or_ge k (Γ.n0+m) with h|h
    ·exact h
    ·rw [Q6n hM hL k h] at hk;cases hk
   rw [Q8 hlt];exact There.puts hk
  ·rw [Q8 (show k<Γ.n0+m by omega)] at hg ⊢;exact hB.at k cs hk hg
 ·rw [Bool.and_eq_true] at hpc;have h10:=Nat.le_of_ble_eq_true hpc.1;obtain ⟨p,hpp⟩ : ∃ p,pcOf pc=p+2:=⟨pcOf pc-2,by omega⟩;have hbit:Nat.testBit (p-8) d=true:=by grind
  rw [hpp];show (if p<8 then _ else _);rw [if_neg (by omega)];refine ⟨r,Mem.puts (fun _=>none) B,fun k=>Qbu Lr (k-(Γ.n0+m)),Γ.n0+m+n,.inl hbit,fun k hk=>hA.at k (Q6w (M:=M1) hk),fun k cs hk hg=>hB.cells k cs hk hg,fun M hM1 _=>?_,?_⟩
  ·rw [Q0n];exact hC M hM1
  ·rw [Q0n];exact h'
theorem Rn.callvW {t:Nat} {f:FuncId} {caps:List V} {as:List Arg} {args:List V} {r:V} (hw:Wn E gd) (ht:look E t = .clo f caps) (ha:V.dems (as.map (·.val (look E)))++V.dems caps=args) (hC:ACalls Γ.P f args (Ql Γ.n0 L M1) nb r ((Ql Γ.n0 L M1).puts B) nb) (hB:OkB Γ.n0 B) (hp:(Ql Γ.n0 L M1).puts B=Ql Γ.n0 L' M2) (hpc:pcOf pc=0)
  (h:Rn Γ pc os ⟨look ((d,r)::E),Ql Γ.n0 L' M2,nb⟩ Q):Rn Γ pc (⟨some d,.callv,.t t::as,false,gd⟩::os) ⟨look E,Ql Γ.n0 L M1,nb⟩ Q :=
 runW (hw.wanted _ _ _ _) rfl (by simp only [COp.callee,List.map_cons,show (Arg.t t).val (look E) = .clo f caps from ht,ha]) hC hB hp hpc (by grind [Qbd,look,Qcj])
theorem Rn.storeV {t u off:Nat} {v:V} {cs cs' : List V} (hw:Wn E gd) (ha:x.val (look E) = .ptr (Γ.n0+t) off) (hb:look E u=v) (hv:Qdy v=true) (hf:v.topS=v) (hf2:v.dem=v) (hM:Qbu L t=some (.cells cs))
  (hn:(Nat.beq v.cells.length 1&&Nat.ble (off+1) cs.length)=true) (hcs:cs.take off++v.cells++cs.drop (off+1)=cs')
  (h:Rn Γ pc os ⟨look E,Ql Γ.n0 ((t,.cells cs')::L) M0,nb⟩ Q):Rn Γ pc (⟨none,.store 1,[x,.t u],true,gd⟩::os) ⟨look E,Ql Γ.n0 L M0,nb⟩ Q:=by
 simp only [Bool.and_eq_true] at hn;have h1:v.cells.length=1:=Nat.eq_of_beq_eq_true hn.1;have h2:=Nat.le_of_ble_eq_true hn.2;have hm:[x,Arg.t u].map (fun x=>x.val (look E))=[V.ptr (Γ.n0+t) off,v]:=by simp only [List.map_cons,List.map_nil,ha];rw [show (Arg.t u).val (look E)=_ from hb]
 refine Rn.kS (v:=.und) hw ?_ (fun i=>?_) h
 ·simp only [if_true,hm];simp only [Qm];cases v<;>first
   | (simp [Qdy] at hv;done)
   | simp_all [Qbf,decide_true,Bool.true_and,Nat.le_add_right,Bool.true_or,if_true,Qeu]
 ·simp only [if_true,hm,Qb4,Qba,hf2];have:x.putTo (look E) (.ptr (Γ.n0+t) off)=look E:=by
   cases x with
   | c v=>rfl
   | t j =>
    simp only [Arg.val] at ha;funext i;simp_all [Arg.putTo,Sl.put]
  have h3:(look E).put u v=look E:=by
   grind [Sl.put]
  rw [this,show (Arg.t u).putTo (look E) v=(look E).put u v from rfl,h3]
def argE:List Arg→List V→List (Nat×V)→List (Nat×V)
 | .t i::as,v::vs,E=>argE as vs ((i,v)::E)
 | .c _::as,_::vs,E=>argE as vs E
 | _,_,E=>E
theorem Qwk:∀ (as:List Arg) (vs:List V) (E:List (Nat×V)),Qba (look E) as vs=look (argE as vs E)
 | [],vs,E=>by cases vs<;>rfl
 | a::as,[],E=>by cases a<;>rfl
 | .t i::as,v::vs,E=>by
  simp only [Qba,argE];rw [show (Arg.t i).putTo (look E) v=(look E).put i v from rfl,Qcj];exact Qwk as vs _
 | .c _::as,v::vs,E=>by
  simp only [Qba,argE];exact Qwk as vs E
theorem Rn.buildT {as:List Arg} {z:List V} {ps:List (Nat×Nat)} {v:V} (hw:Wn E gd) (hk:Qm Γ.n0 (Γ.n0+d) (.build z ps) (as.map (·.val (look E))) M=some (v,M))
  (h:Rn Γ pc os ⟨look ((d,v)::argE as (V.dems (as.map (·.val (look E)))) E),M,nb⟩ Q):Rn Γ pc (⟨some d,.build z ps,as,true,gd⟩::os) ⟨look E,M,nb⟩ Q:=by
 refine Rn.kT hw rfl rfl hk (fun i=>?_) h
 simp_all [Qb4,look,V.dems,Qwk,Qcj]
theorem Rn.storeT {t u off n:Nat} {v:V} {ds cs cs' : List V} (hw:Wn E gd) (ha:x.val (look E) = .ptr (Γ.n0+t) off) (hb:look E u=v) (hv:Qdy v=true) (hds:v.topS.cells=ds) (hM:Qbu L t=some (.cells cs))
  (hn:(Nat.beq ds.length n&&Nat.ble (off+n) cs.length)=true) (hcs:cs.take off++ds++cs.drop (off+n)=cs')
  (h:Rn Γ pc os ⟨look ((u,v.dem)::E),Ql Γ.n0 ((t,.cells cs')::L) M0,nb⟩ Q):Rn Γ pc (⟨none,.store n,[x,.t u],true,gd⟩::os) ⟨look E,Ql Γ.n0 L M0,nb⟩ Q:=by
 simp only [Bool.and_eq_true] at hn;have h1:v.topS.cells.length=n:=by simp_all
 have h2:=Nat.le_of_ble_eq_true hn.2;have hm:[x,Arg.t u].map (fun x=>x.val (look E))=[V.ptr (Γ.n0+t) off,v]:=by simp only [List.map_cons,List.map_nil,ha];rw [show (Arg.t u).val (look E)=_ from hb]
 refine Rn.kS (v:=.und) hw ?_ (fun i=>?_) h
 ·simp only [if_true,hm];simp only [Qm];cases v<;>first
   | (simp [Qdy] at hv;done)
   | simp_all [Qbf,decide_true,Bool.true_and,Nat.le_add_right,Bool.true_or,if_true,Qeu]
 ·simp only [if_true,hm,Qb4,Qba];have:x.putTo (look E) (.ptr (Γ.n0+t) off)=look E:=by
   cases x with
   | c v=>rfl
   | t j =>
    simp only [Arg.val] at ha;funext i;simp_all [Arg.putTo,Sl.put]
  rw [this,show (Arg.t u).putTo (look E) v.dem=(look E).put u v.dem from rfl,Qcj]
theorem Qbec {σ σ' : St} (hs:σ'.s=σ.s) (hn:σ'.nb=σ.nb) (h:∀ k,σ'.M k=σ.M k∨∃ cs cs',σ.M k=some (.cells cs)∧σ'.M k=some (.cells cs')∧WkVs cs cs'):WeakSt Γ σ σ':=by
 obtain ⟨s,M,nb⟩:=σ;obtain ⟨s',M',nb'⟩:=σ';simp only at hs hn h;subst hs hn;intro a w g hS;have hth:∀ k,There M k→There M' k:=fun k hk=>by
  grind [There]
 refine ⟨g,⟨⟨fun k b hb=>?_,hS.mem.imm⟩,hS.slots,hS.size,hS.defers,fun t=>Qdp hth _ (hS.onS t),fun k cs hb=>?_,hS.top,hS.fr⟩⟩
 ·have hb:M' k=some b:=hb;rcases h k with e|⟨cs,cs',e1,e2,hw⟩
  ·exact hS.mem.box k b (by grind)
  ·rw [e2] at hb;cases hb;obtain ⟨k1,k2,vals,e,k3,k4,k5⟩:=hS.mem.box k _ e1;exact ⟨k1,k2,vals,e,k3,hw.rd _ _ _ _ _ k4,k5⟩
 ·have hb:M' k=some (.cells cs):=hb;rcases h k with e|⟨cs1,cs',e1,e2,hw⟩
  ·obtain ⟨q1,q2⟩:=hS.onM k cs (by grind)
   grind
  ·rw [e2] at hb;cases hb;obtain ⟨q1,q2⟩:=hS.onM k _ e1;exact ⟨ons_mono hth _ (hw.on _ q1),fun hk=>hw.on _ (q2 hk)⟩
def WkB:List (Nat×Bx)→List (Nat×Bx)→Prop
 | [],[]=>True
 | (k,.cells cs)::B,(k',.cells cs')::B'=>(k=k'∧WkVs cs cs')∧WkB B B'
 | _,_=>False
theorem WkB.at {M:Mem}:∀ {B B' : List (Nat×Bx)},WkB B B'→∀ k,M.puts B' k=M.puts B k∨∃ cs cs',M.puts B k=some (.cells cs)∧M.puts B' k=some (.cells cs')∧WkVs cs cs'
 | [],[],_,_=>.inl rfl
 | (j,.cells cs)::B,(j',.cells cs')::B',h,k=>by
  obtain ⟨⟨e,hw⟩,h⟩:=h;subst e;by_cases hk:k=j
  ·grind [pg0]
  ·simp only [Mem.puts,Mem.put,hk,if_false];exact WkB.at h k
 | [],_::_,h,_=>h.elim
 | (_,.cells _)::_,[],h,_=>h.elim
 | (_,.mp ..)::_,[],h,_=>h.elim
 | (_,.mp ..)::_,_::_,h,_=>h.elim
 | (_,.cells _)::_,(_,.mp ..)::_,h,_=>h.elim
theorem Qbdl {n0:Nat} {L:List (Nat×Bx)} {M M' : Mem} (h:∀ k,M' k=M k∨∃ cs cs',M k=some (.cells cs)∧M' k=some (.cells cs')∧WkVs cs cs') (k:Nat):Ql n0 L M' k=Ql n0 L M k∨∃ cs cs',Ql n0 L M k=some (.cells cs)∧Ql n0 L M' k=some (.cells cs')∧WkVs cs cs':=by
 simp only [Ql]
 grind
theorem Q6x {s:Sl} {B B' : List (Nat×Bx)} {σ' : St} (h:WkB B B') (k:WeakSt Γ ⟨s,Ql Γ.n0 L (M.puts B'),nb⟩ σ'):WeakSt Γ ⟨s,Ql Γ.n0 L (M.puts B),nb⟩ σ' :=
 WeakSt.trans (Qbec (σ':=⟨s,Ql Γ.n0 L (M.puts B'),nb⟩) rfl rfl (Qbdl h.at)) k
def FinW (rs:List Res) (r:V) (n0:Nat) (M1:Mem):Ex→St→Prop:=fun e σ =>
 (e = .norm∨e = .ret)∧∃ r',Qn4 σ rs=some r'∧Wk r' r∧r.on (There M1)∧∀ k,k<n0→σ.M k=M1 k
theorem Q4h {P:Program} {f:FuncId} {cf:CFn} (hcf:Qr P f=some cf) {args:List V} {r:V} (hargs:Nat.beq args.length cf.np=true) (M M1:Mem) (nb:Nat) (hM1:(∀ k,nb≤k→M k=none)→∀ k,nb≤k→M1 k=none)
  (hrun:∀ (Γ:Env),Γ.P=P→Γ.nt=cf.nt→Γ.n0=nb→(∀ k,Γ.n0≤k→M k=none)→Tr Γ cf.body ⟨Qkb args,Ql Γ.n0 [] M,Γ.n0+cf.nt⟩ (FinW cf.res r Γ.n0 M1)):ACalls P f args M nb r M1 nb:=by
 by_cases hM:∀ k,nb≤k→M k=none
 case neg=>exact Qp0 (Qhh hcf) (Nat.le_refl _) hM
 have hM1:=hM1 hM;have hlt:∀ k,There M1 k→k<nb:=fun k hk=>by
  grind [Nat.lt_or_ge,There]
 refine Qbbn hcf hM (Nat.eq_of_beq_eq_true hargs) (Nat.le_refl _) fun Γ hP hn ht=>?_;have h:=hrun Γ hP ht hn (by rw [hn];exact hM);rw [Qn7 (by rw [hn];exact hM),hn] at h;refine h.mono ?_;rintro e σ' ⟨he,r',h1,h2,h3,h4⟩;refine ⟨he,r',h1,h2,fun k b hk=>?_,fun _ hons _=>⟨h3,fun k cs hk=>?_,hlt⟩⟩
 ·grind
 ·have hk':=hlt k (by simp [There,hk]);have h5:=(hons k cs (by rw [h4 k hk'];exact hk)).1;have h6:=(hons k cs (by rw [h4 k hk'];exact hk)).2 hk';refine ons_mono (fun j hj=>?_) cs (ons_and cs h5 h6)
  grind [There]
def Qbg1 (rs:List Res) (r:V) (n0:Nat) (M1:Mem) (Lr:List (Nat×Bx)) (n:Nat):Ex→St→Prop:=fun e σ =>
 (e = .norm∨e = .ret)∧∃ r',Qn4 σ rs=some r'∧Wk r' r∧r.on (There (Ql n0 Lr M1))∧LOn (There (Ql n0 Lr M1)) Lr∧(∀ k,k<n0→σ.M k=M1 k)∧(∀ t b,Qbu Lr t=some b→σ.M (n0+t)=some b)∧(Lr.all fun p=>Nat.blt p.1 n)=true
theorem Qbb4 {P:Program} {f:FuncId} {cf:CFn} (hcf:Qr P f=some cf) {args:List V} {r:V} (hargs:Nat.beq args.length cf.np=true) (M M1:Mem) (nb:Nat) {Lr:List (Nat×Bx)} {n:Nat} (hM1:(∀ k,nb≤k→M k=none)→∀ k,nb≤k→M1 k=none)
  (hrun:∀ (Γ:Env),Γ.P=P→Γ.nt=cf.nt→Γ.n0=nb→(∀ k,Γ.n0≤k→M k=none)→Tr Γ cf.body ⟨Qkb args,Ql Γ.n0 [] M,Γ.n0+cf.nt⟩ (Qbg1 cf.res r Γ.n0 M1 Lr n)):ACalls P f args M nb r (Ql nb Lr M1) (nb+n):=by
 by_cases hM:∀ k,nb≤k→M k=none
 case neg=>exact Qp0 (Qhh hcf) (by omega) hM
 have hM1:=hM1 hM;have hlt:∀ k,There M1 k→k<nb:=fun k hk=>by
  grind [Nat.lt_or_ge,There]
 have hsub:∀ k,There M1 k→There (Ql nb Lr M1) k:=fun k hk=>by
  grind [There,Q8]
 refine Qbbn hcf hM (Nat.eq_of_beq_eq_true hargs) (by omega) fun Γ hP hn ht=>?_;have h:=hrun Γ hP ht hn (by rw [hn];exact hM);rw [Qn7 (by rw [hn];exact hM),hn] at h;refine h.mono ?_;rintro e σ' ⟨he,r',h1,h2,h3,h4,h5,h6,h7⟩;refine ⟨he,r',h1,h2,fun k b hk=>?_,fun _ hons _=>⟨h3,fun k cs hk=>?_,fun k hk=>?_⟩⟩
 ·rcases Nat.lt_or_ge k nb with hl|hge
  ·grind [Q8]
  ·obtain ⟨t,rfl⟩ : ∃ t,k=nb+t:=⟨k-nb,by omega⟩
   grind [Qbt]
 ·rcases Nat.lt_or_ge k nb with hl|hge
  ·rw [Q8 hl] at hk;have k5:=(hons k cs (by rw [h5 k hl];exact hk)).1;have k6:=(hons k cs (by rw [h5 k hl];exact hk)).2 hl;refine ons_mono (fun j hj=>hsub j ?_) cs (ons_and cs k5 k6)
   grind [There]
  ·obtain ⟨t,rfl⟩ : ∃ t,k=nb+t:=⟨k-nb,by omega⟩;rw [Qbt] at hk;exact h4.at t cs hk
 ·rcases Nat.lt_or_ge k nb with hl|hge
  ·omega
  ·obtain ⟨t,rfl⟩ : ∃ t,k=nb+t:=⟨k-nb,by omega⟩
   grind [There,Qbt,Nat.lt_or_ge,Q4g]
theorem res0 {σ:St}:Qn4 σ []=some (.tup []):=rfl
theorem Qs3 {n0 a b:Nat} (h:Nat.beq a b=false):n0+a≠n0+b:=by
 intro e
 simp_all
theorem Q8x {n0 a k:Nat} (h:k<n0):n0+a≠k:=by omega
theorem ltSl {n0 sz k o n c:Nat} (h:k<n0):V.lt n0 (.sl sz k o n c)=true:=by simp [V.lt,h]
theorem ltGo {n0:Nat} {v:V} {vs:List V} (h:v.lt n0=true) (t:V.lt.go n0 vs=true):V.lt.go n0 (v::vs)=true:=by simp [V.lt.go,h,t]
end Go.Abs
end
