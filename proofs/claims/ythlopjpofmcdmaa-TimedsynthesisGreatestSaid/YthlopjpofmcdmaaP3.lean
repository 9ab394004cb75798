/-
  Part 3 of the proof: see the last text.
-/
import Derived.Test.YthlopjpofmcdmaaP2
import Derived.Sort.Grow
set_option linter.unusedVariables false
set_option linter.unusedSimpArgs false
set_option linter.unusedSectionVars false
section
namespace Go.Abs
open Go
def pl0:D→Bool
 | .int .. | .bool _ | .str _=>true
 | _=>false
def frzL (sz:Nat) (l:List (List D)):V:=if l.all fun x=>x.all pl0 then .f (.lst sz l) else .d (.lst sz l)
theorem Qblh {imm imm' : Nat→Nat→Prop} {w:World}:∀ {x:D} {u:Value},pl0 x = true→RD imm w x u→RD imm' w x u
 | .int ..,_,_,h=>by simpa [RD] using h
 | .bool _,_,_,h=>by simpa [RD] using h
 | .str _,_,_,h=>by simpa [RD] using h
 | .lst ..,_,h,_=>by cases h
theorem Qbkp {p:Nat→Prop} {sz:Nat} {l:List (List D)}:(frzL sz l).on p:=by unfold frzL; split <;> trivial
theorem Qbjp {sz:Nat} {l:List (List D)}:WkV (frzL sz l) (.d (.lst sz l)):=by
 unfold frzL
 split
 ·exact ⟨fun g w ℓ u h=>by
   simp only [RV] at h ⊢
   exact Qjg ⟨fun b o h=>h.1,fun _ _ _=>rfl⟩ _ u h,fun _ _=>trivial⟩
 ·exact .same rfl
mutual
def frzV (k:Nat) (ds:List D):V→V
 | .und=>.und
 | .d x=>.d x
 | .agg cs=>.agg (frzVs k ds cs)
 | .tup cs=>.tup (frzVs k ds cs)
 | .own sz l=>.own sz l
 | .ownT sz l=>.ownT sz l
 | .ptr k' o=>if k' = k then .cref (ds.drop o) else .ptr k' o
 | .nilp=>.nilp
 | .f x=>.f x
 | .nils sz=>.nils sz
 | .cref cs=>.cref cs
 | .sl sz k' o n c=>if k' = k then (if o + n * sz≤ds.length∧n≤c then frzL sz (Qtp sz n ((ds.drop o).take (n * sz))) else .und) else .sl sz k' o n c
 | .clo f cs=>.clo f (frzVs k ds cs)
 | .mp k'=>if k' = k then .und else .mp k'
def frzVs (k:Nat) (ds:List D):List V→List V
 | []=>[]
 | v :: vs=>frzV k ds v :: frzVs k ds vs
end
theorem Q8x (k:Nat) (ds:List D):∀ vs,frzVs k ds vs = vs.map (frzV k ds)
 | []=>rfl
 | v :: vs=>by simp [frzVs,Q8x k ds vs]
mutual
theorem Qbjq {p:Nat→Prop} (k:Nat) (ds:List D):∀ v:V,v.on p→(frzV k ds v).on fun j=>p j∧j≠k
 | .und,_=>trivial
 | .d _,_=>trivial
 | .agg cs,h=>ons_frz k ds cs h
 | .tup cs,h=>ons_frz k ds cs h
 | .own ..,_=>trivial
 | .ownT ..,_=>trivial
 | .ptr k' o,h=>by
  simp only [frzV]; split
  ·trivial
  ·rename_i hne; exact ⟨h,hne⟩
 | .nilp,_=>trivial
 | .f _,_=>trivial
 | .nils _,_=>trivial
 | .cref _,_=>trivial
 | .sl sz k' o n c,h=>by
  simp only [frzV]; split
  ·split
   ·exact Qbkp
   ·trivial
  ·rename_i hne; exact ⟨h,hne⟩
 | .clo _ cs,h=>ons_frz k ds cs h
 | .mp k',h=>by
  simp only [frzV]; split
  ·trivial
  ·rename_i hne; exact ⟨h,hne⟩
theorem ons_frz {p:Nat→Prop} (k:Nat) (ds:List D):∀ vs:List V,V.ons p vs→V.ons (fun j=>p j∧j≠k) (frzVs k ds vs)
 | [],_=>trivial
 | v :: vs,h=>⟨Qbjq k ds v h.1,ons_frz k ds vs h.2⟩
end
theorem Qbe6 {imm:Nat→Nat→Prop} {w:World} {b:Nat}:∀ (j:Nat) {ds:List D} {o:Nat},RDc imm w b ds o→RDc imm w b (ds.drop j) (o + j)
 | 0,_,_,h=>h
 | j + 1,[],o,h=>by simp [RDc]
 | j + 1,d :: ds,o,h=>by
  simp only [RDc] at h
  have:=Qbe6 j h.2.2
  rw [show o + 1 + j = o + (j + 1) from by omega] at this
  simpa using this
def G.frz (g:G) (k n:Nat) [DecidablePred fun b=>b = g.box k]:G:=⟨g.box,fun b o=>g.imm b o∨(b = g.box k∧o < n),fun b=>if b = g.box k then .ext else g.own b⟩
section
variable {g:G} {w:World} {k:Nat} {ds:List D} (hB:g.own (g.box k) = .box k) (hD:RDc (g.frz k ds.length).imm w (g.box k) ds 0)
include hB hD
theorem Qbbn:Imm g.imm (g.frz k ds.length).imm w w:=⟨fun _ _ h=>.inl h,fun _ _ _=>rfl⟩
mutual
theorem Qbjr:∀ (v:V) (ℓ:Owner) (u:Value),ℓ ≠ .box k→RV g w v ℓ u→RV (g.frz k ds.length) w (frzV k ds v) ℓ u
 | .und,_,_,_,_=>by simp [frzV,RV]
 | .d x,_,_,_,h=>by
  simp only [frzV,RV] at h ⊢
  exact Qjg (Qbbn hB hD) x _ h
 | .agg cs,ℓ,u,hl,h=>by
  simp only [frzV,RV] at h ⊢
  obtain ⟨vs,rfl,h,h1⟩:=h
  exact ⟨vs,rfl,RVs_frz cs ℓ 0 vs h,h1⟩
 | .tup cs,ℓ,u,hl,h=>by
  simp only [frzV,RV] at h ⊢
  obtain ⟨vs,rfl,h⟩:=h
  exact ⟨vs,rfl,RVs_frz cs ℓ 0 vs h⟩
 | .own sz l,ℓ,u,hl,h=>by
  simp only [frzV,RV] at h ⊢
  rcases h with h | ⟨b,cap,vals,e,h1,h2,h3,h4,h5,h6,h7,h8⟩
  ·exact .inl h
  ·have hne:b≠g.box k:=by rintro rfl; rw [hB] at h2; exact hl h2.symm
   refine .inr ⟨b,cap,vals,e,h1,by simp [G.frz,hne,h2],h3,h4,h5,h6,fun o=>?_,RDL_mono (Qbbn hB hD) sz b l 0 h8⟩
   rw [← h7 o]
   simp [G.frz,hne]
 | .ownT sz l,ℓ,u,hl,h=>by
  simp only [frzV,RV] at h ⊢
  rcases h with h | ⟨b,o0,cap,vals,e,h1,h2,h3,h4,h5,h6,h7,h8⟩
  ·exact .inl h
  ·have hne:b≠g.box k:=by rintro rfl; rw [hB] at h2; exact hl h2.symm
   refine .inr ⟨b,o0,cap,vals,e,h1,by simp [G.frz,hne,h2],h3,h4,h5,h6,fun o=>?_,RDL_mono (Qbbn hB hD) sz b l o0 h8⟩
   rw [← h7 o]
   simp [G.frz,hne]
 | .ptr k' o,ℓ,u,hl,h=>by
  simp only [frzV]
  split
  ·rename_i he
   subst he
   simp only [RV] at h ⊢
   have:=Qbe6 o hD
   rw [Nat.zero_add] at this
   exact ⟨_,_,h,this⟩
  ·simpa [RV,G.frz] using h
 | .nilp,_,_,_,h=>by simpa [frzV,RV] using h
 | .f x,_,u,_,h=>by
  simp only [frzV,RV] at h ⊢
  exact Qjg (Qbji (g:=g) (g':=g.frz k ds.length) fun b o h1 h2=>⟨.inl h1,by simp only [G.frz]; split <;> first | rfl | exact h2⟩) x u h
 | .nils _,_,_,_,h=>by simpa [frzV,RV] using h
 | .cref cs,ℓ,u,hl,h=>by
  simp only [frzV,RV] at h ⊢
  obtain ⟨b,o,rfl,h⟩:=h
  exact ⟨b,o,rfl,Q7v (Qbbn hB hD) b cs o h⟩
 | .sl sz k' o n c,ℓ,u,hl,h=>by
  simp only [frzV]
  split
  ·rename_i he
   subst he
   split
   ·rename_i hc
    have hlen:((ds.drop o).take (n * sz)).length = n * sz:=by simp; omega
    obtain ⟨h1,h2,h3⟩:=Q6q n sz _ hlen
    simp only [RV] at h
    have key:∀ i x j y,(Qtp sz n ((ds.drop o).take (n * sz)))[i]? = some x→x[j]? = some y→(g.frz k' ds.length).imm (g.box k') (o + i * sz + j)∧∃ u,w.cell? ⟨g.box k',o + i * sz + j,none⟩ = some u∧RD (g.frz k' ds.length).imm w y u:=by
     intro i x j y hx hy
     have h4:=h3 i x j y hx hy
     rw [List.getElem?_take] at h4
     split at h4
     ·rw [List.getElem?_drop] at h4
      have:=Q6m hD _ y h4
      rw [show 0 + (o + (i * sz + j)) = o + i * sz + j from by omega] at this
      exact this
     ·cases h4
    unfold frzL
    split
    ·rename_i hp
     simp only [RV,RD]
     refine ⟨_,c,by rw [h1]; exact h,by rw [h1]; exact hc.2,.inr ⟨_,o,rfl,Q9x fun i x hx=>⟨h2 x (List.mem_of_getElem? hx),Q79 fun j y hy=>?_⟩⟩⟩
     obtain ⟨q1,q,q2,q3⟩:=key i x j y hx hy
     refine ⟨⟨q1,by simp [G.frz],by rw [q2]; rfl⟩,q,q2,Qblh ?_ q3⟩
     exact List.all_eq_true.1 (List.all_eq_true.1 hp x (List.mem_of_getElem? hx)) y (List.mem_of_getElem? hy)
    ·simp only [RV,RD]
     refine ⟨_,c,by rw [h1]; exact h,by rw [h1]; exact hc.2,.inr ⟨_,o,rfl,Q9x fun i x hx=>⟨h2 x (List.mem_of_getElem? hx),Q79 fun j y hy=>key i x j y hx hy⟩⟩⟩
   ·simp [RV]
  ·simpa [RV,G.frz] using h
 | .clo f cs,ℓ,u,hl,h=>by
  simp only [frzV,RV] at h ⊢
  obtain ⟨vs,rfl,h⟩:=h
  exact ⟨vs,rfl,RVs_frz cs .ext 0 vs h⟩
 | .mp k',ℓ,u,hl,h=>by
  simp only [frzV]
  split
  ·simp [RV]
  ·simpa [RV,G.frz] using h
theorem RVs_frz:∀ (cs:List V) (ℓ:Owner) (i:Nat) (us:List Value),RVs g w cs ℓ i us→RVs (g.frz k ds.length) w (frzVs k ds cs) ℓ i us
 | [],_,_,_,h=>by simpa [frzVs,RVs] using h
 | c :: cs,ℓ,i,us,h=>by
  simp only [frzVs,RVs] at h ⊢
  obtain ⟨u,us',rfl,h1,h2⟩:=h
  have hne:ℓ.sub i ≠ .box k:=by cases ℓ <;> simp [Owner.sub]
  exact ⟨u,us',rfl,Qbjr c (ℓ.sub i) u hne h1,RVs_frz cs ℓ (i + 1) us' h2⟩
end
end
def PreD (cs:List V) (ds:List D):Prop:=ds.length≤cs.length∧∀ (j:Nat) v d,cs[j]? = some v→ds[j]? = some d→v.toD = some d
theorem PreD.of {cs:List V} {ds:List D} (h:toDs cs = some ds):PreD cs ds:=⟨Nat.le_of_eq (Q5f h).1,(Q5f h).2⟩
theorem PreD.app {cs tl:List V} {ds:List D} (h:toDs cs = some ds):PreD (cs ++ tl) ds:=by
 obtain ⟨h1,h2⟩:=Q5f h
 refine ⟨by simp; omega,fun j v d hv hd=>?_⟩
 have:=(List.getElem?_eq_some_iff.1 hd).1
 rw [List.getElem?_append_left (by omega)] at hv
 exact h2 j v d hv hd
theorem Qbhj {g:G} {w:World} {M:Mem} {nb k:Nat} {cs:List V} {ds:List D} [DecidablePred fun b=>b = g.box k] (hm:MR g w M nb) (hM:M k = some (.cells cs)) (hd:PreD cs ds):RDc (g.frz k ds.length).imm w (g.box k) ds 0:=by
 obtain ⟨hl,hg⟩:=hd
 refine Q79 fun j y hj=>?_
 have hlt:=(List.getElem?_eq_some_iff.1 hj).1
 have hc:cs[j]? = some (cs[j]'(by omega)):=List.getElem?_eq_getElem _
 obtain ⟨u,h1,h2,h3⟩:=Q7w hm hM hc
 refine ⟨.inr ⟨rfl,by omega⟩,u,by simpa using h1,?_⟩
 exact Qjg ⟨fun _ _ h=>.inl h,fun _ _ _=>rfl⟩ y u (Q8i (hg j _ y hc hj) h2)
def Q2y (n0 k:Nat) (ds:List D) (σ:St):St :=
 {
  s:=fun t=>frzV k ds (σ.s t)
  M:=fun j=>if j = k then none else if j < n0 then σ.M j else
   match σ.M j with
   | some (.cells cs)=>some (.cells (cs.map (frzV k ds)))
   | b=>b
  nb:=σ.nb }
variable {Γ:Env} {σ:St}
open Classical in
theorem Qbit {k:Nat} {cs:List V} {ds:List D} (hk:Γ.n0≤k) (hM:σ.M k = some (.cells cs)) (hd:PreD cs ds):WeakSt Γ σ (Q2y Γ.n0 k ds σ):=by
 intro a w g hs
 have hB:g.own (g.box k) = .box k:=(hs.mem.box k _ hM).2.1
 have hD:=Qbhj hs.mem hM hd
 have hsub:∀ ℓ i,ℓ≠Owner.box k→ℓ.sub i ≠ .box k:=by intro ℓ i _; cases ℓ <;> simp [Owner.sub]
 have hkept:Kept g w (g.frz k ds.length) w (fun j=>j≠k) (fun o=>o ≠ .box k):=by
  refine ⟨⟨fun _ _ h=>.inl h,fun _ _ _=>rfl⟩,fun _ _=>rfl,fun b hb _=>?_⟩
  have hne:b≠g.box k:=by rintro rfl; exact hb hB
  exact ⟨by simp [G.frz,hne],rfl,fun o=>by simp [G.frz,hne]⟩
 have hthere:∀ j,(There σ.M j∧j≠k)→There (Q2y Γ.n0 k ds σ).M j:=by
  rintro j ⟨h1,h2⟩
  simp only [There,Q2y,h2,if_false] at h1 ⊢
  split
  ·exact h1
  ·cases hj:σ.M j with
   | none=>simp [hj] at h1
   | some b=>cases b <;> rfl
 have hown:∀ j,j≠k→g.own (g.box j) = .box j→(g.frz k ds.length).own (g.box j) = .box j:=by
  intro j hj ho
  have hne:g.box j≠g.box k:=by
   intro e
   rw [e,hB] at ho
   cases ho; exact hj rfl
  simp [G.frz,hne,ho]
 refine ⟨g.frz k ds.length,⟨⟨fun j b hb=>?_,fun b o hbo=>?_⟩,fun t=>Qbjr hB hD _ _ _ (by simp) (hs.slots t),hs.size,hs.defers,fun t=>Qiw hthere _ (Qbjq k ds _ (hs.onS t)),fun j cs' hb=>?_,hs.top,?_⟩⟩
 ·simp only [Q2y] at hb
  split at hb
  ·cases hb
  ·rename_i hjk
   split at hb
   ·rename_i hlt
    obtain ⟨h1,h2,h3⟩:=hs.mem.box j b hb
    refine ⟨h1,hown j hjk h2,?_⟩
    cases b with
    | mp es c =>
     obtain ⟨ents,k1,k2⟩:=h3
     exact ⟨ents,k1,Qzb (g:=g) (g':=g.frz k ds.length) hkept.imm k2⟩
    | cells cs2 =>
     obtain ⟨vals,e,k1,k2,k3⟩:=h3
     have hon:=(hs.onM j cs2 hb).2 hlt
     exact ⟨vals,e,k1,RVs_mono hkept hsub (by simp) _ _ _ _ (by intro e; cases e; exact hjk rfl) (ons_mono (fun i hi=>by omega) _ hon) k2,k3⟩
   ·split at hb
    ·rename_i hlt _ cs2 hcs
     cases hb
     obtain ⟨h1,h2,vals,e,k1,k2,k3⟩:=hs.mem.box j _ hcs
     refine ⟨h1,hown j hjk h2,vals,e,k1,?_,k3⟩
     rw [← Q8x]
     exact RVs_frz hB hD _ _ _ _ k2
    ·rename_i hne
     obtain ⟨h1,h2,h3⟩:=hs.mem.box j b hb
     cases b with
     | mp es c =>
      obtain ⟨ents,k1,k2⟩:=h3
      exact ⟨h1,hown j hjk h2,ents,k1,Qzb (g:=g) (g':=g.frz k ds.length) hkept.imm k2⟩
     | cells cs2=>exact absurd hb (hne cs2)
 ·rcases hbo with hbo | ⟨rfl,hlt⟩
  ·obtain ⟨h1,h2⟩:=hs.mem.imm b o hbo
   refine ⟨h1,fun j=>?_⟩
   simp only [G.frz]
   split
   ·simp
   ·exact h2 j
  ·refine ⟨?_,fun j=>by simp [G.frz]⟩
   obtain ⟨_,_,vals,e,k1,_,_⟩:=hs.mem.box k _ hM
   exact (Array.getElem?_eq_some_iff.1 k1).1
 ·simp only [Q2y] at hb
  split at hb
  ·cases hb
  ·rename_i hjk
   split at hb
   ·rename_i hlt
    obtain ⟨h1,h2⟩:=hs.onM j cs' hb
    refine ⟨ons_mono (fun i hi=>hthere i ⟨hi.1,?_⟩) _ (ons_and cs' h1 (h2 hlt)),h2⟩
    have:=hi.2; omega
   ·split at hb
    ·rename_i hlt _ cs2 hcs
     cases hb
     refine ⟨?_,fun h=>absurd h hlt⟩
     rw [← Q8x]
     exact ons_mono hthere _ (ons_frz k ds _ (hs.onM j cs2 hcs).1)
    ·rename_i hne; exact absurd hb (hne cs')
 ·have hf:=hs.fr
  refine ⟨hf.os,hf.tape,hf.output,hf.size,⟨fun b o h=>.inl (hf.imm.mono b o h),hf.imm.cell⟩,hf.box,fun b hb ho=>?_⟩
  obtain ⟨h1,h2,h3⟩:=hf.old b hb ho
  have hne:b≠g.box k:=by
   rintro rfl
   rw [hB] at h1
   rw [← h1] at ho
   exact ho
  exact ⟨by simp [G.frz,hne,h1],h2,fun o=>by simp [G.frz,hne,h3]⟩
def FE (f:V→V) (s:Sl):List (Nat×V)→Prop
 | []=>True
 | (t,v) :: E=>WkV (f (s t)) v∧FE f s E
theorem FE.at {f:V→V} {s:Sl}:∀ {E:List (Nat×V)},FE f s E→∀ t,WkV (f (s t)) (look E t)
 | [],_,t=>.und _
 | (u,v) :: E,h,t=>by
  simp only [look]
  cases hb:Nat.beq t u with
  | true=>have:=Nat.eq_of_beq_eq_true hb; subst this; exact h.1
  | false=>exact FE.at h.2 t
def FB (f:V→V) (t0:Nat) (L:List (Nat×Bx)):List (Nat×Bx)→Prop
 | []=>True
 | (t,.cells cs') :: L'=>(∃ cs,Qcg L t = some (.cells cs)∧Nat.beq t t0 = false∧WkVs (cs.map f) cs')∧FB f t0 L L'
 | (t,.mp es c) :: L'=>(Qcg L t = some (.mp es c)∧Nat.beq t t0 = false)∧FB f t0 L L'
theorem FB.at {f:V→V} {t0:Nat} {L:List (Nat×Bx)}:∀ {L' : List (Nat×Bx)},FB f t0 L L' → ∀ t b,Qcg L' t = some b→Nat.beq t t0 = false ∧
  ((∃ cs' cs,b = .cells cs' ∧ Qcg L t = some (.cells cs)∧WkVs (cs.map f) cs')∨∃ es c,b = .mp es c∧Qcg L t = some (.mp es c))
 | [],_,t,b,hb=>by simp [Qcg] at hb
 | (u,.cells cs') :: L',h,t,b,hb=>by
  simp only [Qcg] at hb
  cases hbe:Nat.beq t u with
  | true =>
   have:=Nat.eq_of_beq_eq_true hbe
   subst this
   rw [hbe] at hb
   simp only [cond_true,Option.some.injEq] at hb
   obtain ⟨cs,h1,h2,h3⟩:=h.1
   exact ⟨h2,.inl ⟨cs',cs,hb.symm,h1,h3⟩⟩
  | false =>
   rw [hbe] at hb
   exact FB.at h.2 t b hb
 | (u,.mp es c) :: L',h,t,b,hb=>by
  simp only [Qcg] at hb
  cases hbe:Nat.beq t u with
  | true =>
   have:=Nat.eq_of_beq_eq_true hbe
   subst this
   rw [hbe] at hb
   simp only [cond_true,Option.some.injEq] at hb
   exact ⟨h.1.2,.inr ⟨es,c,hb.symm,h.1.1⟩⟩
  | false =>
   rw [hbe] at hb
   exact FB.at h.2 t b hb
theorem Qbcv (t:Nat) {E E' : List (Nat×V)} {L:List (Nat×Bx)} {L' : List (Nat×Bx)} {M0:Mem} {nb:Nat} {cs:List V} (ds:List D) (hM:Qcg L t = some (.cells cs)) (hd:PreD cs ds)
  (hE:FE (frzV (Γ.n0 + t) ds) (look E) E') (hL:FB (frzV (Γ.n0 + t) ds) t L L') (hk:(L.all fun p=>Nat.beq p.1 t || L'.any fun q=>Nat.beq p.1 q.1) = true) :
  WeakSt Γ ⟨look E,Qo Γ.n0 L M0,nb⟩ ⟨look E',Qo Γ.n0 (bxs L') M0,nb⟩:=by
 refine WeakSt.trans (Qbit (σ:=⟨look E,Qo Γ.n0 L M0,nb⟩) (k:=Γ.n0 + t) (by omega) (by show Qo Γ.n0 L M0 (Γ.n0 + t) = _; rw [Qde]; exact hM) hd) ?_
 intro a w g hs
 have hbase:∀ k,k < Γ.n0→(Q2y Γ.n0 (Γ.n0 + t) ds ⟨look E,Qo Γ.n0 L M0,nb⟩).M k = M0 k:=by
  intro k hk
  have h1:k≠Γ.n0 + t:=by omega
  simp only [Q2y,h1,if_false,hk,if_true]
  exact Qi hk
 have hown:∀ u cs,Nat.beq u t = false→Qcg L u = some (.cells cs)→(Q2y Γ.n0 (Γ.n0 + t) ds ⟨look E,Qo Γ.n0 L M0,nb⟩).M (Γ.n0 + u) = some (.cells (cs.map (frzV (Γ.n0 + t) ds))):=by
  intro u cs h1 h2
  have h3:u≠t:=fun e=>by subst e; simp at h1
  have h4:Γ.n0 + u≠Γ.n0 + t:=by omega
  have h5:¬ Γ.n0 + u < Γ.n0:=by omega
  have h6:Qo Γ.n0 L M0 (Γ.n0 + u) = some (.cells cs):=by rw [Qde]; exact h2
  simp only [Q2y,h4,if_false,h5,h6]
 have hownm:∀ u es c,Nat.beq u t = false→Qcg L u = some (.mp es c)→(Q2y Γ.n0 (Γ.n0 + t) ds ⟨look E,Qo Γ.n0 L M0,nb⟩).M (Γ.n0 + u) = some (.mp es c):=by
  intro u es c h1 h2
  have h3:u≠t:=fun e=>by subst e; simp at h1
  have h4:Γ.n0 + u≠Γ.n0 + t:=by omega
  have h5:¬ Γ.n0 + u < Γ.n0:=by omega
  have h6:Qo Γ.n0 L M0 (Γ.n0 + u) = some (.mp es c):=by rw [Qde]; exact h2
  simp only [Q2y,h4,if_false,h5,h6]
 have hsplit:∀ k,k < Γ.n0∨∃ u,k = Γ.n0 + u:=fun k=>by
  rcases Nat.lt_or_ge k Γ.n0 with h | h
  ·exact .inl h
  ·exact .inr ⟨k - Γ.n0,by omega⟩
 have hthere:∀ k,There (Q2y Γ.n0 (Γ.n0 + t) ds ⟨look E,Qo Γ.n0 L M0,nb⟩).M k→There (Qo Γ.n0 (bxs L') M0) k:=by
  intro k hk'
  rcases hsplit k with h | ⟨u,rfl⟩
  ·simp only [There,hbase k h] at hk'
   simp only [There,Qi h,hk']
  ·simp only [There,Qde]
   have h5:¬ Γ.n0 + u < Γ.n0:=by omega
   have h4:Γ.n0 + u≠Γ.n0 + t:=by
    intro e
    simp [There,Q2y,e] at hk'
   have h7:∃ b,Qcg L u = some b:=by
    cases hb:Qcg L u with
    | some b=>exact ⟨b,rfl⟩
    | none =>
     have h6:Qo Γ.n0 L M0 (Γ.n0 + u) = none:=by rw [Qde]; exact hb
     simp only [There,Q2y,h4,if_false,h5,h6] at hk'
     cases hk'
   obtain ⟨b,hb⟩:=h7
   obtain ⟨p,hp,rfl⟩:=Q00 hb
   have:=List.all_eq_true.1 hk p hp
   rw [Bool.or_eq_true] at this
   rcases this with h8 | h8
   ·have:=Nat.eq_of_beq_eq_true h8; omega
   ·obtain ⟨q,hq,he⟩:=List.any_eq_true.1 h8
    have he:=Nat.eq_of_beq_eq_true he
    have:=Q6v hq
    rw [he]; exact this
 refine ⟨g,⟨⟨fun k b hb=>?_,hs.mem.imm⟩,fun t=>(hE.at t).rd _ _ _ _ (hs.slots t),hs.size,hs.defers,fun t=>Qiw hthere _ ((hE.at t).on _ (hs.onS t)),fun k cs hb=>?_,hs.top,hs.fr⟩⟩
 ·rcases hsplit k with h | ⟨u,rfl⟩
  ·have hb' : (Q2y Γ.n0 (Γ.n0 + t) ds ⟨look E,Qo Γ.n0 L M0,nb⟩).M k = some b:=by rw [hbase k h]; rw [← hb]; exact (Qi h).symm
   exact hs.mem.box k b hb'
  ·have hb' : Qcg (bxs L') u = some b:=by rw [← hb]; exact Qde.symm
   obtain ⟨h2,⟨cs',cs,rfl,h1,h3⟩ | ⟨es,c,rfl,h1⟩⟩:=hL.at u b hb'
   ·obtain ⟨k1,k2,vals,e,k3,k4,k5⟩:=hs.mem.box _ _ (hown u cs h2 h1)
    exact ⟨k1,k2,vals,e,k3,h3.rd _ _ _ _ _ k4,k5⟩
   ·exact hs.mem.box _ _ (hownm u es c h2 h1)
 ·rcases hsplit k with h | ⟨u,rfl⟩
  ·have hb' : (Q2y Γ.n0 (Γ.n0 + t) ds ⟨look E,Qo Γ.n0 L M0,nb⟩).M k = some (.cells cs):=by rw [hbase k h]; rw [← hb]; exact (Qi h).symm
   obtain ⟨k1,k2⟩:=hs.onM k cs hb'
   exact ⟨ons_mono hthere _ k1,k2⟩
  ·have hb' : Qcg (bxs L') u = some (.cells cs):=by rw [← hb]; exact Qde.symm
   obtain ⟨h2,⟨cs',cs0,he,h1,h3⟩ | ⟨es,c,he,h1⟩⟩:=hL.at u _ hb' <;> cases he
   obtain ⟨k1,k2⟩:=hs.onM _ _ (hown u cs0 h2 h1)
   exact ⟨ons_mono hthere _ (h3.on _ k1),fun hlt=>absurd hlt (by omega)⟩
theorem Qfu (t:Nat) {E E' : List (Nat×V)} {L:List (Nat×Bx)} {L' : List (Nat×Bx)} {M0:Mem} {nb:Nat} {cs:List V} (ds:List D) (hM:Qcg L t = some (.cells cs)) (hd:toDs cs = some ds)
  (hE:FE (frzV (Γ.n0 + t) ds) (look E) E') (hL:FB (frzV (Γ.n0 + t) ds) t L L') (hk:(L.all fun p=>Nat.beq p.1 t || L'.any fun q=>Nat.beq p.1 q.1) = true) :
  WeakSt Γ ⟨look E,Qo Γ.n0 L M0,nb⟩ ⟨look E',Qo Γ.n0 (bxs L') M0,nb⟩ :=
 Qbcv t ds hM (.of hd) hE hL hk
theorem fPtr {n0 t u o:Nat} {ds:List D} (h:Nat.beq u t = false):WkV (frzV (n0 + t) ds (.ptr (n0 + u) o)) (.ptr (n0 + u) o):=by
 have:¬ n0 + u = n0 + t:=by
  intro e
  have:u = t:=by omega
  subst this; simp at h
 exact .same (by simp only [frzV]; rw [if_neg this])
theorem fSlO {n0 t u sz o n c:Nat} {ds:List D} (h:Nat.beq u t = false):WkV (frzV (n0 + t) ds (.sl sz (n0 + u) o n c)) (.sl sz (n0 + u) o n c):=by
 have:¬ n0 + u = n0 + t:=by
  intro e
  have:u = t:=by omega
  subst this; simp at h
 exact .same (by simp only [frzV]; rw [if_neg this])
theorem fSl {n0 t sz o n c:Nat} {ds:List D} {l:List (List D)} (h:(Nat.ble (o + n * sz) ds.length && Nat.ble n c) = true) (hl:Qtp sz n ((ds.drop o).take (n * sz)) = l):WkV (frzV (n0 + t) ds (.sl sz (n0 + t) o n c)) (.d (.lst sz l)):=by
 simp only [Bool.and_eq_true] at h
 have h1:=Nat.le_of_ble_eq_true h.1
 have h2:=Nat.le_of_ble_eq_true h.2
 have e:frzV (n0 + t) ds (.sl sz (n0 + t) o n c) = frzL sz l:=by simp [frzV,h1,h2,hl]
 rw [e]
 exact Qbjp
def nilO {α R:Type} [DecidableEq R] (l:List α) (K:Bool→Option R):Option R :=
 match l with
 | []=>if K true = K false then K false else none
 | _ :: _=>K false
theorem Qbhk {α R:Type} [DecidableEq R] {l:List α} {K:Bool→Option R} {r:R} (h:nilO l K = some r) (b:Bool) (hb:b = true→l.length = 0):K b = some r:=by
 cases l with
 | nil =>
  simp only [nilO] at h
  split at h
  ·rename_i he
   cases b with
   | true=>rw [he]; exact h
   | false=>exact h
  ·cases h
 | cons x l =>
  cases b with
  | true=>simp at hb
  | false=>exact h
variable {pc d nb:Nat} {os:List COp} {E:List (Nat×V)} {M:Mem} {Q:St→Prop} {gd:Option (Nat×Bool)} {a:Arg}
theorem Rn.isnil {α R:Type} [DecidableEq R] {e:α→List D} {sz:Nat} {xs:List α} {neg:Bool} {J:Bool→Option R} {r:R} (hw:Wn E gd) (ha:(a.val (look E)).dem = .d (.lst sz (xs.map e))) (h:nilO xs J = some r)
  (hk:∀ b,J b = some r→Rn Γ 9 os ⟨look ((d,.d (.bool (bif neg then !b else b))) :: E),M,nb⟩ Q):Rn Γ 9 (⟨some d,.isnil neg,[a],false,gd⟩ :: os) ⟨look E,M,nb⟩ Q:=by
 refine Rn.cons ?_
 unfold COp.run
 rw [hw.wanted]
 simp only [show (Abs.K.isnil neg).isCall = false from rfl,show (Abs.K.isnil neg).isNil = true from rfl,Bool.false_eq_true,if_false,if_true,COp.xs,List.map_cons,List.map_nil,V.dems,ha,Q9u,List.length_map,Abs.K.negNil]
 intro b hb
 have e1:∀ v,Qbg (look E) (some d) v = look ((d,v) :: E):=fun v=>Qdc E d v
 have h2:=hk b (Qbhk h b hb)
 cases neg with
 | true=>exact (show Rn Γ 9 os ⟨Qbg (look E) (some d) (.d (.bool (!b))),M,nb⟩ Q from by rw [e1]; exact h2)
 | false=>exact (show Rn Γ 9 os ⟨Qbg (look E) (some d) (.d (.bool b)),M,nb⟩ Q from by rw [e1]; exact h2)
end Go.Abs
end
section
namespace Go.Abs
open Go
variable {Γ:Env} {σ:St}
section
variable {g:G} {w:World} {k n:Nat} {ℓ0:Owner} (hB:g.own (g.box k) = .box k)
include hB
end
variable {pc d nb:Nat} {os:List COp} {E:List (Nat×V)} {M M0:Mem} {L:List (Nat×Bx)} {Q:St→Prop} {gd:Option (Nat×Bool)} {b:Arg} {α:Type} {e:α→List D}
theorem Rn.app0 {t u sz bytes:Nat} {ys zs:List α} {src:V} {cs:List V} (hw:Wn E gd) (ha:look E t = .sl sz (Γ.n0 + u) 0 0 0) (hM:Qcg L u = some (.cells cs)) (hb:b.val (look E) = src) (hf:src.dem = src) (hs:Qjf (Qo Γ.n0 L M0) sz src = some (ys.map e)) (hx:appO ([]:List α) ys = some zs) (hbd:(Nat.ble bytes 128 && Nat.ble 1 sz) = true)
  (h:Rn Γ pc os ⟨look ((d,.own sz (zs.map e)) :: E),Qo Γ.n0 L M0,nb⟩ Q):Rn Γ pc (⟨some d,.append sz bytes,[.t t,b],true,gd⟩ :: os) ⟨look E,Qo Γ.n0 L M0,nb⟩ Q:=by
 unfold appO at hx
 split at hx <;> cases hx
 rename_i hl
 simp only [Bool.and_eq_true] at hbd
 have h1:=Nat.le_of_ble_eq_true hbd.1
 have h2:0 < sz:=Nat.le_of_ble_eq_true hbd.2
 have hm:[Arg.t t,b].map (fun x=>x.val (look E)) = [V.sl sz (Γ.n0 + u) 0 0 0,src]:=by
  simp only [List.map_cons,List.map_nil,hb]; rw [show (Arg.t t).val (look E) = _ from ha]
 have he:Qjf (Qo Γ.n0 L M0) sz (.sl sz (Γ.n0 + u) 0 0 0) = some []:=by simp [Qjf,Qk hM,toDs,Qtp]
 refine Rn.kT hw rfl rfl (v:=.own sz (([] ++ ys).map e)) ?_ (fun i=>?_) h
 ·rw [hm]
  simp only [Qn,he,hs]
  by_cases hy:(ys.map e).length = 0
  ·have:ys = []:=by simpa using hy
   subst this
   simp
  ·simp only [hy,if_false]
   simp [h1,h2] at hl ⊢
   exact hl
 ·rw [hm]
  simp only [Qbu,hf,show (V.sl sz (Γ.n0 + u) 0 0 0).dem = .sl sz (Γ.n0 + u) 0 0 0 from rfl,Q0,show ∀ s v,(Arg.t t).putTo s v = s.put t v from fun _ _=>rfl]
  have hz:∀ (a:Arg) (v:V) (s:Sl),a.val s = v→a.putTo s v = s:=by
   intro a v s hs
   cases a with
   | c v=>rfl
   | t j =>
    simp only [Arg.val] at hs
    funext i; simp only [Arg.putTo,Sl.put]; split
    ·rename_i e; subst e; exact hs.symm
    ·rfl
  have e1:(look E).put t (.sl sz (Γ.n0 + u) 0 0 0) = look E:=hz (.t t) _ _ ha
  rw [e1,hz b src _ hb,Qdc]
end Go.Abs
namespace Go.Abs
open Go
theorem WkV.nilsO (sz:Nat):WkV (.nils sz) (.own sz []):=⟨fun g w ℓ u h=>by
 simp only [RV] at h
 simp only [RV]
 exact .inl ⟨h,trivial⟩,fun _ _=>trivial⟩
theorem WkV.nilsD (sz:Nat):WkV (.nils sz) (.d (.lst sz [])):=⟨fun g w ℓ u h=>by
 simp only [RV] at h ⊢
 obtain ⟨a,rfl⟩:=h
 simp [RD],fun _ _=>trivial⟩
theorem WkVs.rf {g:G} {w:World} {vs vs' : List V} (h:WkVs vs vs'):∀ {us:List Value},RFs g w vs us→RFs g w vs' us:=by
 induction h with
 | nil=>exact fun h=>h
 | cons h t ih =>
  rintro us ⟨u,us',e,h1,h2⟩
  exact ⟨u,us',e,fun ℓ=>h.rd _ _ _ _ (h1 ℓ),ih h2⟩
theorem ACalls.weak {P:Program} {f:FuncId} {args args' : List V} {M M' : Mem} {nb nb' : Nat} {r:V} (h:ACalls P f args' M nb r M' nb') (hw:WkVs args args') (hf:V.dems args' = args'):ACalls P f args M nb r M' nb':=by
 refine ⟨h.1,h.2.1,fun w g us hm hMon hfr hus hfl hons=>h.2.2 w g us hm hMon hfr (hw.rf hus) (fun x hx=>?_) (hw.on _ hons)⟩
 rw [← hf] at hx
 exact Qia x hx
end Go.Abs
end
section
namespace Go.Abs
open Go
variable {α:Type}
def Qz (g:α→List V) (xs:List α):List V:=(xs.map g).flatten
theorem Qgf (g:α→List V) (x:α) (xs:List α):Qz g (x :: xs) = g x ++ Qz g xs:=by simp [Qz]
theorem Qtt {g:α→List V} {sz:Nat} (hg:∀ x,(g x).length = sz):∀ xs:List α,(Qz g xs).length = xs.length * sz
 | []=>by simp [Qz]
 | x :: xs=>by rw [Qgf,List.length_append,hg,Qtt hg xs,List.length_cons,Nat.add_mul]; omega
theorem Q6w {g:α→List V} {sz:Nat} (hg:∀ x,(g x).length = sz):∀ (xs:List α) (i:Nat),i≤xs.length→(Qz g xs).drop (i * sz) = Qz g (xs.drop i)
 | xs,0,_=>by simp
 | [],i + 1,h=>by simp at h
 | x :: xs,i + 1,h=>by
  rw [Qgf,Nat.add_mul,Nat.add_comm,Nat.one_mul,← List.drop_drop,show (g x ++ Qz g xs).drop sz = Qz g xs from by rw [← hg x]; simp]
  rw [Q6w hg xs i (by simpa using h)]
  rfl
theorem Qbag {g:α→List V} {sz:Nat} (hg:∀ x,(g x).length = sz):∀ (xs:List α) (i:Nat),i≤xs.length→(Qz g xs).take (i * sz) = Qz g (xs.take i)
 | xs,0,_=>by simp [Qz]
 | [],i + 1,h=>by simp at h
 | x :: xs,i + 1,h=>by
  rw [Qgf,Nat.add_mul,Nat.add_comm,Nat.one_mul,List.take_append,hg x]
  have h1:(g x).take (sz + i * sz) = g x:=by rw [List.take_of_length_le]; rw [hg x]; omega
  rw [h1,show sz + i * sz - sz = i * sz from by omega,Qbag hg xs i (by simpa using h),List.take_succ_cons,Qgf]
theorem Qbhl {g:α→List V} {sz:Nat} (hg:∀ x,(g x).length = sz) {xs:List α} {i:Nat} {x:α} (hx:xs[i]? = some x):((Qz g xs).drop (i * sz)).take sz = g x:=by
 obtain ⟨hlt,hx⟩:=List.getElem?_eq_some_iff.1 hx
 rw [Q6w hg xs i (by omega),List.drop_eq_getElem_cons hlt,Qgf,hx,← hg x]
 simp
theorem Qbcw {g:α→List V} {sz:Nat} (hg:∀ x,(g x).length = sz) {xs:List α} {i:Nat} (y:α) (hi:i < xs.length):(Qz g xs).take (i * sz) ++ g y ++ (Qz g xs).drop (i * sz + sz) = Qz g (xs.set i y):=by
 rw [Qbag hg xs i (by omega),show i * sz + sz = (i + 1) * sz from by rw [Nat.add_mul,Nat.one_mul],Q6w hg xs (i + 1) (by omega)]
 rw [List.set_eq_take_append_cons_drop,if_pos hi]
 simp [Qz]
theorem Qbhm (g:α→List V) (x:α) (n:Nat):Qz g (List.replicate n x) = rep n (g x):=by simp [Qz,rep]
def mkO (n:Int) (x:α):Option (List α):=if 0≤n∧n≤lim then some (List.replicate n.toNat x) else none
def inO (len:Nat) (i:Int):Option Unit:=if 0≤i∧i < len then some () else none
def setO (l:List α) (i:Int) (y:α):Option (List α):=if 0≤i∧i.toNat < l.length then some (l.set i.toNat y) else none
variable {Γ:Env} {pc d nb:Nat} {os:List COp} {E:List (Nat×V)} {M M0:Mem} {L:List (Nat×Bx)} {Q:St→Prop} {gd:Option (Nat×Bool)} {a b:Arg} {g:α→List V} {xs:List α} {sz:Nat}
theorem Rn.makes {bytes:Nat} {z:List V} {n:Int} {x:α} (hw:Wn E gd) (ha:a.val (look E) = .d (.int .i64 n)) (hb:b.val (look E) = .d (.int .i64 n)) (hf:(Qcg L d).isNone = true) (hz:g x = z) (hc:(Nat.ble bytes 128 && Nat.beq z.length sz && Nat.ble 1 sz) = true) (hx:mkO n x = some xs)
  (h:Rn Γ pc os ⟨look ((d,.sl sz (Γ.n0 + d) 0 n.toNat n.toNat) :: E),Qo Γ.n0 ((d,.cells (Qz g xs)) :: L) M0,nb⟩ Q):Rn Γ pc (⟨some d,.makes sz bytes z,[a,b],false,gd⟩ :: os) ⟨look E,Qo Γ.n0 L M0,nb⟩ Q:=by
 unfold mkO at hx
 split at hx <;> cases hx
 rename_i hn
 simp only [Bool.and_eq_true] at hc
 have h1:=Nat.le_of_ble_eq_true hc.1.1
 have h2:z.length = sz:=Nat.eq_of_beq_eq_true hc.1.2
 have h3:0 < sz:=Nat.le_of_ble_eq_true hc.2
 refine Rn.k hw rfl rfl ?_ h
 simp only [List.map_cons,List.map_nil,V.dems,ha,hb,V.dem,Qn]
 have hfr:=Qr5 (Γ:=Γ) (M0:=M0) hf
 rw [if_pos (by simp [hn.1,hn.2,h1,h2,h3,hfr]),Qe3,Qbhm,hz]
theorem Rn.idxA {k len cap:Nat} {kk:IntKind} {i:Int} (hw:Wn E gd) (ha:(a.val (look E)).dem = .sl sz k 0 len cap) (hb:b.val (look E) = .d (.int kk i)) (hx:inO len i = some ()) (h:Rn Γ pc os ⟨look ((d,.ptr k (0 + i.toNat * sz)) :: E),M,nb⟩ Q) :
  Rn Γ pc (⟨some d,.idx sz,[a,b],false,gd⟩ :: os) ⟨look E,M,nb⟩ Q:=by
 unfold inO at hx
 split at hx <;> cases hx
 rename_i hc
 refine Rn.k hw rfl rfl ?_ h
 simp [ha,hb,V.dems,V.dem,Qn,hc.1,hc.2]
theorem Rn.lenA {k off len cap:Nat} (hw:Wn E gd) (ha:(a.val (look E)).dem = .sl sz k off len cap) (h:Rn Γ pc os ⟨look ((d,.d (.int .i64 len)) :: E),M,nb⟩ Q):Rn Γ pc (⟨some d,.len,[a],false,gd⟩ :: os) ⟨look E,M,nb⟩ Q:=by
 refine Rn.k hw rfl rfl ?_ h
 simp [ha,V.dems,Qn]
theorem Rn.loadA {k f n:Nat} {ag:Bool} {i:Int} {x:α} {v:V} (hg:∀ x,(g x).length = sz) (hw:Wn E gd) (ha:a.val (look E) = .ptr k (0 + i.toNat * sz + f)) (hM:M k = some (.cells (Qz g xs))) (hx:getO xs i = some x) (hn:Nat.ble (f + max n 1) sz = true)
  (hv:(if ag then some (.agg (V.dems (((g x).drop f).take n))) else ((g x)[f]?).map (·.dem)) = some v) (h:Rn Γ pc os ⟨look ((d,v) :: E),M,nb⟩ Q):Rn Γ pc (⟨some d,.load ag n,[a],false,gd⟩ :: os) ⟨look E,M,nb⟩ Q:=by
 have hn:=Nat.le_of_ble_eq_true hn
 unfold getO at hx
 split at hx <;> try (cases hx; done)
 obtain ⟨hlt,hx'⟩:=List.getElem?_eq_some_iff.1 hx
 have hl:=Qtt hg xs
 have hge:=Qbhl hg hx
 have hb:i.toNat * sz + sz≤xs.length * sz:=by
  rw [show i.toNat * sz + sz = (i.toNat + 1) * sz from by rw [Nat.add_mul,Nat.one_mul]]
  exact Nat.mul_le_mul_right _ hlt
 refine Rn.k hw rfl rfl ?_ h
 simp only [List.map_cons,List.map_nil,V.dems,ha,V.dem,Qn,hM]
 rw [if_pos (by rw [hl]; omega)]
 have hdrop:(Qz g xs).drop (0 + i.toNat * sz + f) = ((Qz g xs).drop (i.toNat * sz)).drop f:=by rw [List.drop_drop]; congr 1; omega
 cases ag with
 | true =>
  simp only [if_true,Option.some.injEq] at hv ⊢
  rw [← hv,← hge,hdrop,List.drop_take,List.take_take]
  have:min n (sz - f) = n:=by omega
  rw [this]
 | false =>
  simp only [Bool.false_eq_true,if_false] at hv ⊢
  have:(Qz g xs)[0 + i.toNat * sz + f]? = (g x)[f]?:=by
   rw [← hge,List.getElem?_take,if_pos (by omega),List.getElem?_drop]
   congr 1; omega
  rw [this]
  rw [Option.map_eq_some_iff] at hv
  obtain ⟨y,hy,rfl⟩:=hv
  rw [hy]; rfl
theorem Rn.storeA {t:Nat} {i:Int} {y:α} {ys:List α} {v:V} (hg:∀ x,(g x).length = sz) (hw:Wn E gd) (ha:a.val (look E) = .ptr (Γ.n0 + t) (0 + i.toNat * sz)) (hb:(b.val (look E)).dem = v) (hv:Qeb v = true) (hM:Qcg L t = some (.cells (Qz g xs))) (hc:v.cells = g y)
  (hx:setO xs i y = some ys) (h:Rn Γ pc os ⟨look E,Qo Γ.n0 ((t,.cells (Qz g ys)) :: L) M0,nb⟩ Q):Rn Γ pc (⟨none,.store sz,[a,b],false,gd⟩ :: os) ⟨look E,Qo Γ.n0 L M0,nb⟩ Q:=by
 unfold setO at hx
 split at hx <;> cases hx
 rename_i hi
 have hl:=Qtt hg xs
 have hb2:i.toNat * sz + sz≤xs.length * sz:=by
  rw [show i.toNat * sz + sz = (i.toNat + 1) * sz from by rw [Nat.add_mul,Nat.one_mul]]
  exact Nat.mul_le_mul_right _ hi.2
 refine Rn.store (cs':=Qz g (xs.set i.toNat y)) hw ha hb hv hM ?_ ?_ h
 ·rw [hc,hg,hl]
  simp only [Bool.and_eq_true]
  exact ⟨by simp,Nat.ble_eq_true_of_le (by omega)⟩
 ·rw [hc,Nat.zero_add]; exact Qbcw hg y hi.2
theorem Qs {f:V→V} (h:∀ x,(g x).map f = g x):WkVs ((Qz g xs).map f) (Qz g xs):=by
 refine .same ?_
 unfold Qz
 rw [List.map_flatten,List.map_map]
 congr 1
 exact List.map_congr_left fun x _=>h x
def lenO (l:List α) (n:Nat):Option Unit:=if l.length = n then some () else none
theorem Qdr {l:List α} {n:Nat} (h:lenO l n = some ()):l.length = n:=by
 unfold lenO at h
 split at h
 ·assumption
 ·cases h
theorem Q8y:∀ {a b:List V} {x y:List D},toDs a = some x→toDs b = some y→toDs (a ++ b) = some (x ++ y)
 | [],b,x,y,h,k=>by simp [toDs] at h; subst h; simpa using k
 | v :: a,b,x,y,h,k=>by
  simp only [toDs] at h
  split at h <;> try (cases h; done)
  rename_i d ds hd hds
  cases h
  simp only [List.cons_append,toDs,hd,Q8y hds k]
theorem Q2t {e:α→List D} (h:∀ x,toDs (g x) = some (e x)):∀ xs:List α,toDs (Qz g xs) = some ((xs.map e).flatten)
 | []=>rfl
 | x :: xs=>by rw [Qgf,List.map_cons,List.flatten_cons]; exact Q8y (h x) (Q2t h xs)
theorem Q8z {e:α→List D} {sz:Nat} (h:∀ x,(e x).length = sz):∀ xs:List α,Qtp sz xs.length ((xs.map e).flatten) = xs.map e
 | []=>rfl
 | x :: xs=>by
  simp only [List.length_cons,Qtp,List.map_cons,List.flatten_cons]
  have h1:(e x ++ (xs.map e).flatten).take sz = e x:=by rw [← h x]; simp
  have h2:(e x ++ (xs.map e).flatten).drop sz = (xs.map e).flatten:=by rw [← h x]; simp
  rw [h1,h2,Q8z h xs]
theorem Q80 {e:α→List D} {sz:Nat} (h:∀ x,(e x).length = sz):∀ xs:List α,((xs.map e).flatten).length = xs.length * sz
 | []=>by simp
 | x :: xs=>by simp only [List.map_cons,List.flatten_cons,List.length_append,h,Q80 h xs,List.length_cons,Nat.add_mul]; omega
theorem fSlA {n0 t n:Nat} {e:α→List D} {xs:List α} (h:∀ x,(e x).length = sz) (hn:xs.length = n):WkV (frzV (n0 + t) ((xs.map e).flatten) (.sl sz (n0 + t) 0 n n)) (.d (.lst sz (xs.map e))):=by
 subst hn
 have h1:=Q80 h xs
 have h2:((xs.map e).flatten.drop 0).take (xs.length * sz) = (xs.map e).flatten:=by rw [List.drop_zero,List.take_of_length_le (by omega)]
 simp only [frzV,if_true]
 rw [if_pos ⟨by omega,Nat.le_refl _⟩,h2,Q8z h xs]
 exact Qbjp
end Go.Abs
end
section
namespace Go.Abs
open Go
def Qbcx:D→Bool
 | .lst _ l=>l.isEmpty
 | _=>true
def Q6x (l:List (List D)):Bool:=l.all fun x=>x.all Qbcx
def Q81:V→Bool
 | .d x=>Qbcx x
 | .own _ l=>Q6x l
 | .ownT _ l=>Q6x l
 | .cref cs=>cs.isEmpty
 | .agg cs=>go cs
 | .tup vs=>go vs
 | .clo _ vs=>go vs
 | _=>true
where go:List V→Bool
 | []=>true
 | v :: vs=>Q81 v && go vs
theorem Qbiu {imm imm' : Nat→Nat→Prop} {w:World} {x:D} {u:Value} (hp:Qbcx x = true) (h:RD imm w x u):RD imm' w x u:=by
 cases x with
 | int k n=>simpa [RD] using h
 | bool b=>simpa [RD] using h
 | str s=>simpa [RD] using h
 | lst sz l =>
  simp only [Qbcx,List.isEmpty_iff] at hp
  subst hp
  simp only [RD] at h ⊢
  obtain ⟨a,cap,h1,h2,_⟩:=h
  exact ⟨a,cap,h1,h2,.inl trivial⟩
theorem Qbcy {imm imm' : Nat→Nat→Prop} {w:World} {b:Nat} (hi:∀ o,imm b o→imm' b o):∀ {xs:List D} {o:Nat},xs.all Qbcx = true→RDc imm w b xs o→RDc imm' w b xs o
 | [],_,_,_=>by simp [RDc]
 | x :: xs,o,hp,h=>by
  simp only [List.all_cons,Bool.and_eq_true] at hp
  simp only [RDc] at h ⊢
  obtain ⟨h1,⟨u,h2,h3⟩,h4⟩:=h
  exact ⟨hi _ h1,⟨u,h2,Qbiu hp.1 h3⟩,Qbcy hi hp.2 h4⟩
theorem Qbcz {imm imm' : Nat→Nat→Prop} {w:World} {sz b:Nat} (hi:∀ o,imm b o→imm' b o):∀ {l:List (List D)} {o:Nat},Q6x l = true→RDL imm w sz b l o→RDL imm' w sz b l o
 | [],_,_,_=>by simp [RDL]
 | x :: l,o,hp,h=>by
  simp only [Q6x,List.all_cons,Bool.and_eq_true] at hp
  simp only [RDL] at h ⊢
  exact ⟨h.1,Qbcy hi hp.1 h.2.1,Qbcz hi (by simpa [Q6x] using hp.2) h.2.2⟩
section
variable {g:G} {w:World} {b κ:Nat} {keep:Owner→Prop} (hB:¬ keep (g.own b)) (hs:∀ ℓ i,keep ℓ→keep (ℓ.sub i)) (he:keep .ext)
include hB hs he
end
variable {Γ:Env} {σ:St}
def Qgv (l:List (List D)) (room:Nat):List V:=l.flatten.map V.d ++ List.replicate room .und
structure Lone (Γ:Env):Prop where
 prot:∀ b,Prot (Γ.g0.own b)
 imm:∀ b o,Γ.g0.imm b o→b < Γ.w0.heap.size
theorem Lone.old {Γ:Env} (h:Lone Γ) {g:G} {w:World} (hf:Fr Γ.n0 Γ.g0 Γ.w0 g w) {b:Nat} (hb:¬ Prot (g.own b)):¬ b < Γ.w0.heap.size:=by
 intro hlt
 obtain ⟨h1,_,_⟩:=hf.old b hlt (h.prot b)
 rw [h1] at hb
 exact hb (h.prot b)
end Go.Abs
end
section
namespace Go.Abs
open Go Go.Sort
def D.val:D→Value
 | .int k n=>.int k n
 | .bool b=>.bool b
 | .str s=>.string s
 | .lst _ _=>.slice none 0 0
def D.scalar:D→Bool
 | .lst _ _=>false
 | _=>true
theorem Qbjs {imm:Nat→Nat→Prop} {w:World} {x:D} {u:Value} (hs:x.scalar = true):RD imm w x u↔u = x.val:=by
 cases x <;> simp [RD,D.val,D.scalar] at hs ⊢
theorem Qbkq {x:D} (hs:x.scalar = true):x.val.oneCell' = true:=by cases x <;> simp [D.scalar,D.val] at hs ⊢ <;> rfl
def rowV {α:Type} (e:α→List D) (xs:List α):List Value:=(xs.map e).flatten.map D.val
theorem Qbd5 (w:World) (n blk:Nat) (F:Array Value) (os:Array Obj) {c:Array Value} {e:TypeId} (h:w.heap[blk]? = some (.cells c e (0,0))):(grow (putRow id (Sort.ahead w n) blk 0 F) os).heap[blk]? = some (.cells (putCells id 0 F c) e (0,0)):=by
 have hlt:blk < w.heap.size:=(Array.getElem?_eq_some_iff.1 h).1
 have hsz:(putRow id (Sort.ahead w n) blk 0 F).heap.size = w.heap.size:=by simp [putRow,mapBlock,Sort.ahead]
 rw [heap_grow_old _ _ (by rw [hsz]; exact hlt)]
 show (w.heap.modify blk (onCells (putCells id 0 F)))[blk]? = _
 rw [Array.getElem?_modify,if_pos rfl,h]
 rfl
theorem Q6y (w:World) (n blk:Nat) (F:Array Value) (os:Array Obj) {b:Nat} (hb:b≠blk) (hlt:b < w.heap.size):(grow (putRow id (Sort.ahead w n) blk 0 F) os).heap[b]? = w.heap[b]?:=by
 have hsz:(putRow id (Sort.ahead w n) blk 0 F).heap.size = w.heap.size:=by simp [putRow,mapBlock,Sort.ahead]
 rw [heap_grow_old _ _ (by rw [hsz]; exact hlt)]
 show (w.heap.modify blk (onCells (putCells id 0 F)))[b]? = _
 rw [Array.getElem?_modify,if_neg (Ne.symm hb)]
def Qbli {α:Type} (P:Program) (f:FuncId) (e:α→List D) (ex:Array Value) (srt:List α→List α):Prop :=
 ∀ (blk cap:Nat) (xs:List α) (w:World),(∀ j,j < (rowV e xs).length→w.cell? ⟨blk,j,none⟩ = (rowV e xs)[j]? ∧ w.frozen? ⟨blk,j,none⟩ = false)→blk < w.heap.size→xs.length < 4611686018427387904 →
  Calls P f (#[.slice (some ⟨blk,0,none⟩) xs.length cap] ++ ex) w fun e' w'=>e' = .returned (.tuple #[])∧∃ n os,w' = grow (putRow id (Sort.ahead w n) blk 0 (rowV e (srt xs)).toArray) os
theorem Qbbo {α:Type} {e:α→List D} {sz:Nat} (hlen:∀ x,(e x).length = sz) (xs:List α):(rowV e xs).length = xs.length * sz:=by
 simp only [rowV,List.length_map]
 induction xs with
 | nil=>simp
 | cons x xs ih=>simp [hlen,ih,Nat.add_mul]; omega
theorem Qbfw {α:Type} {P:Program} {f:FuncId} {e:α→List D} {sz:Nat} (hlen:∀ x,(e x).length = sz) (hsc:∀ x,(e x).all D.scalar = true) {srt:List α→List α} (hsl:∀ xs,(srt xs).length = xs.length)
  {ex:Array Value} {exV:List V} (hex:∀ g w us,RFs g w exV us→us = ex.toList) (hb:Qmn P f = true) (hK:Qbli P f e ex srt)
  (xs:List α) (c k0:Nat) (M:Mem) (nb:Nat) (hM:M k0 = some (.cells (Qgv (xs.map e) ((c - xs.length) * sz)))) (hsz:xs.length < 4611686018427387904) :
  ACalls P f (.sl sz k0 0 xs.length c :: exV) M nb (.tup []) (M.put k0 (.cells (Qgv ((srt xs).map e) ((c - xs.length) * sz)))) nb:=by
 refine ⟨hb,Nat.le_refl _,fun w g us hm hMon hfresh hus hfl hons=>?_⟩
 obtain ⟨u0,us',rfl,hu0,hus'⟩:=hus
 have h0:=Qba3.1 hu0
 subst h0
 have h1:=hex _ _ _ hus'
 obtain ⟨hk0,hown,vals,et,hh,hrv,hone⟩:=hm.box k0 _ hM
 have hlt:g.box k0 < w.heap.size:=(Array.getElem?_eq_some_iff.1 hh).1
 obtain ⟨hvl,hvr⟩:=(Qc4 _ _ _ _).1 hrv
 have hscf:∀ (l:List α),∀ y∈(l.map e).flatten,y.scalar = true:=by
  intro l y hy
  obtain ⟨r,hr,hy⟩:=List.mem_flatten.1 hy
  obtain ⟨x,_,rfl⟩:=List.mem_map.1 hr
  exact List.all_eq_true.1 (hsc x) y hy
 have hfl' : ∀ l:List α,(l.map e).flatten.length = l.length * sz:=fun l=>by have:=Qbbo hlen l; rw [rowV,List.length_map] at this; exact this
 have hcell:∀ j,j < (rowV e xs).length→vals[j]? = (rowV e xs)[j]?:=by
  intro j hj
  rw [Qbbo hlen] at hj
  have hjf:j < (xs.map e).flatten.length:=by rw [hfl']; exact hj
  have hjv:j < vals.length:=by
   rw [hvl]; simp only [Qgv,List.length_append,List.length_map]; omega
  have hc:(Qgv (xs.map e) ((c - xs.length) * sz))[j]? = some (.d (xs.map e).flatten[j]):=by
   simp only [Qgv]
   rw [List.getElem?_append_left (by rw [List.length_map]; exact hjf),List.getElem?_map,List.getElem?_eq_getElem hjf]; rfl
  have:=hvr j _ _ hc (List.getElem?_eq_getElem hjv)
  simp only [RV] at this
  rw [Qbjs (hscf xs _ (List.getElem_mem hjf))] at this
  rw [List.getElem?_eq_getElem hjv,this]
  simp only [rowV,List.getElem?_map,List.getElem?_eq_getElem hjf,Option.map_some]
 have hcall:=hK (g.box k0) c xs w (fun j hj=>⟨by rw [← hcell j hj]; simp [World.cell?,hh],by simp [World.frozen?,hh]⟩) hlt hsz
 have hus2:(Value.slice (some ⟨g.box k0,0,none⟩) xs.length c :: us').toArray = #[.slice (some ⟨g.box k0,0,none⟩) xs.length c] ++ ex:=by
  rw [h1]; apply Array.ext'; simp
 rw [hus2]
 refine hcall.mono ?_
 rintro e' w' ⟨rfl,n,os,rfl⟩
 generalize hF:(rowV e (srt xs)).toArray = F
 have hFs:F.size = xs.length * sz:=by rw [← hF]; simp [Qbbo hlen,hsl]
 have hblk:=Qbd5 w n (g.box k0) F os hh
 have hoth:∀ b,b≠g.box k0→b < w.heap.size→(grow (putRow id (Sort.ahead w n) (g.box k0) 0 F) os).heap[b]? = w.heap[b]?:=fun b hb hlt=>Q6y w n _ F os hb hlt
 have hsize:w.heap.size≤(grow (putRow id (Sort.ahead w n) (g.box k0) 0 F) os).heap.size:=by
  simp [putRow,mapBlock,Sort.ahead]
 generalize hw' : grow (putRow id (Sort.ahead w n) (g.box k0) 0 F) os = w' at hblk hoth hsize
 have himm:Imm g.imm g.imm w w':=by
  refine ⟨fun _ _ h=>h,fun b o h=>?_⟩
  obtain ⟨k1,k2⟩:=hm.imm b o h
  have hne:b≠g.box k0:=by rintro rfl; exact k2 k0 hown
  simp only [World.cell?,hoth b hne k1]
 have hkept:Kept g w g w' (There M) (fun o=>o ≠ .box k0):=⟨himm,fun _ _=>rfl,fun b hb hl=>⟨rfl,hoth b (by rintro rfl; exact hb hown) hl,fun _=>Iff.rfl⟩⟩
 have hsub:∀ (o:Owner) i,o ≠ .box k0→o.sub i ≠ .box k0:=by intro o i _; cases o <;> simp [Owner.sub]
 have hnew:∀ p:Nat→Prop,V.ons p (Qgv ((srt xs).map e) ((c - xs.length) * sz)):=by
  intro p
  rw [Qix]
  intro v hv
  simp only [Qgv,List.mem_append,List.mem_map,List.mem_replicate] at hv
  rcases hv with ⟨x,_,rfl⟩ | ⟨_,rfl⟩ <;> trivial
 refine ⟨_,g,rfl,⟨fun k b hk=>?_,fun b o h=>⟨Nat.lt_of_lt_of_le (hm.imm b o h).1 hsize,(hm.imm b o h).2⟩⟩,⟨[],rfl,rfl⟩,trivial,fun k cs hk=>?_,?_⟩
 ·by_cases hkk:k = k0
  ·subst hkk
   rw [Qts] at hk; cases hk
   refine ⟨hk0,hown,(putCells id 0 F vals.toArray).toList,et,by simpa using hblk,(Qc4 _ _ _ _).2 ⟨?_,fun j cc x hc hx=>?_⟩,fun x hx=>?_⟩
   ·have e1:(Qgv (xs.map e) ((c - xs.length) * sz)).length = xs.length * sz + (c - xs.length) * sz:=by
     simp only [Qgv,List.length_append,List.length_map,List.length_replicate,hfl']
    have e2:(Qgv ((srt xs).map e) ((c - xs.length) * sz)).length = xs.length * sz + (c - xs.length) * sz:=by
     simp only [Qgv,List.length_append,List.length_map,List.length_replicate,hfl',hsl]
    rw [e2,← e1,← hvl]
    simp [putCells]
   ·have hx' : (putCells id 0 F vals.toArray)[j]? = some x:=by simpa using hx
    simp only [putCells,Array.getElem?_mapIdx,List.getElem?_toArray,Option.map_eq_some_iff] at hx'
    obtain ⟨y,hy,rfl⟩:=hx'
    simp only [Qgv] at hc
    by_cases hj:j < ((srt xs).map e).flatten.length
    ·rw [List.getElem?_append_left (by rw [List.length_map]; exact hj),List.getElem?_map,List.getElem?_eq_getElem hj,Option.map_some,Option.some.injEq] at hc
     subst hc
     rw [hfl',hsl] at hj
     have hjF:j < F.size:=by rw [hFs]; exact hj
     rw [if_pos ⟨Nat.zero_le _,by omega⟩]
     have hj2:j < ((srt xs).map e).flatten.length:=by rw [hfl',hsl]; exact hj
     simp only [RV]
     rw [Qbjs (hscf (srt xs) _ (List.getElem_mem hj2))]
     simp only [Nat.sub_zero,id]
     rw [getElem!_pos F j hjF]
     subst hF
     simp only [rowV,List.getElem_toArray,List.getElem_map]
    ·rw [List.getElem?_append_right (by rw [List.length_map]; omega)] at hc
     have:cc = .und:=(List.mem_replicate.1 (List.mem_of_getElem? hc)).2
     subst this; simp [RV]
   ·obtain ⟨j,hj⟩:=List.getElem?_of_mem hx
    have hx' : (putCells id 0 F vals.toArray)[j]? = some x:=by simpa using hj
    simp only [putCells,Array.getElem?_mapIdx,List.getElem?_toArray,Option.map_eq_some_iff] at hx'
    obtain ⟨y,hy,rfl⟩:=hx'
    split
    ·rename_i hr
     have hjF:j - 0 < F.size:=by omega
     simp only [id]
     rw [getElem!_pos F _ hjF]
     subst hF
     simp only [rowV,List.getElem_toArray,List.getElem_map]
     exact Qbkq (hscf (srt xs) _ (List.getElem_mem _))
    ·exact hone y (List.mem_of_getElem? hy)
  ·rw [Qes _ _ hkk] at hk
   obtain ⟨k1,k2,k3⟩:=hm.box k b hk
   cases b with
   | mp es c =>
    obtain ⟨ents,q1,q2⟩:=k3
    have hne:g.box k≠g.box k0:=by
     intro h; rw [h,hown] at k2; cases k2; exact hkk rfl
    exact ⟨k1,k2,ents,(hoth _ hne (Array.getElem?_eq_some_iff.1 q1).1).trans q1,Qzb (g:=g) (g':=g) hkept.imm q2⟩
   | cells cs =>
    obtain ⟨vals2,e2,q1,q2,q3⟩:=k3
    have hne:g.box k≠g.box k0:=by
     intro h; rw [h,hown] at k2; cases k2; exact hkk rfl
    refine ⟨k1,k2,vals2,e2,(hoth _ hne (Array.getElem?_eq_some_iff.1 q1).1).trans q1,?_,q3⟩
    exact RVs_mono hkept hsub (by simp) cs (.box k) 0 vals2 (by simpa using hkk) (hMon k cs hk) q2
 ·by_cases hkk:k = k0
  ·subst hkk
   rw [Qts] at hk; cases hk
   exact hnew _
  ·rw [Qes _ _ hkk] at hk
   exact ons_mono (fun j hj=>There.put hj) _ (hMon k cs hk)
 ·refine ⟨by rw [← hw']; rfl,by rw [← hw']; rfl,by rw [← hw']; rfl,hsize,himm,fun _ _=>rfl,fun b hb ho=>⟨rfl,hoth b ?_ hb,fun _=>Iff.rfl⟩⟩
  rintro rfl
  rw [hown] at ho
  exact ho
end Go.Abs
end
section
namespace Go.Abs
open Go
variable {Γ:Env} {σ:St} {α:Type}
section
variable {g:G} {w:World} (hx:∀ b,g.own b = .ext)
include hx
end
open Classical in
theorem ACalls.frz {P:Program} {f:FuncId} {args:List V} {M M' : Mem} {nb nb' sz:Nat} {l:List (List D)} (h:ACalls P f args M nb (.own sz l) M' nb') (hpl:Q6x l = true):ACalls P f args M nb (.f (.lst sz l)) M' nb':=by
 obtain ⟨h1,h2,h3⟩:=h
 refine ⟨h1,h2,fun w g us k1 k2 k3 k4 k5 k6=>(h3 w g us k1 k2 k3 k4 k5 k6).mono ?_⟩
 rintro e w' ⟨v,g',rfl,hm,hv,_,hon,hf⟩
 let g2:G:=⟨g'.box,g'.imm,fun b=>if g'.own b = .res [] then .ext else g'.own b⟩
 have hown:∀ b,g'.own b ≠ .res []→g2.own b = g'.own b:=fun b hb=>by simp [g2,hb]
 have hkept:Kept g' w' g2 w' (fun _=>True) (fun o=>o ≠ .res []):=⟨⟨fun _ _ h=>h,fun _ _ _=>rfl⟩,fun _ _=>rfl,fun b hb _=>⟨hown b hb,rfl,fun _=>Iff.rfl⟩⟩
 have hsub:∀ (o:Owner) i,o ≠ .res []→o.sub i ≠ .res []:=by intro o i _; cases o <;> simp [Owner.sub]
 refine ⟨v,g2,rfl,⟨fun k b hk=>?_,fun b o hb=>?_⟩,?_,trivial,hon,?_⟩
 ·obtain ⟨q1,q2,q3⟩:=hm.box k b hk
  refine ⟨q1,(hown _ (by rw [q2]; simp)).trans q2,?_⟩
  cases b with
  | mp es c =>
   obtain ⟨ents,p1,p2⟩:=q3
   exact ⟨ents,p1,Qzb (g:=g') (g':=g2) hkept.imm p2⟩
  | cells cs =>
   obtain ⟨vals,e,p1,p2,p3⟩:=q3
   exact ⟨vals,e,p1,RVs_mono hkept hsub (by simp) cs (.box k) 0 vals (by simp) (by rw [Qix]; intro v _; exact Qbd2 v) p2,p3⟩
 ·obtain ⟨q1,q2⟩:=hm.imm b o hb
  refine ⟨q1,fun k=>?_⟩
  simp only [g2]
  split
  ·simp
  ·exact q2 k
 ·have hrd:=Qi7 hv
  simp only [RV] at hv ⊢
  rcases hv with ⟨⟨a,rfl⟩,rfl⟩ | ⟨b,cap,vals,e,rfl,hb,hh,h4,h5,h6,h7,h8⟩
  ·simp only [RD]; exact ⟨a,0,rfl,Nat.le_refl _,.inl trivial⟩
  ·simp only [RD]
   refine ⟨_,cap,rfl,h4,.inr ⟨b,0,rfl,?_⟩⟩
   have h9:=RDL_strong sz b l 0 h8
   exact Qbcz (fun o ho=>⟨ho.1,by simp [g2,hb],ho.2⟩) hpl h9
 ·refine ⟨hf.os,hf.tape,hf.output,hf.size,hf.imm,hf.box,fun b hb ho=>?_⟩
  obtain ⟨q1,q2,q3⟩:=hf.old b hb ho
  exact ⟨(hown b (by rw [q1]; intro e; rw [e] at ho; exact ho)).trans q1,q2,q3⟩
def PL:List (Nat×V)→Prop
 | []=>True
 | (_,v) :: E=>Q81 v = true∧PL E
theorem PL.at:∀ {E:List (Nat×V)},PL E→∀ t,Q81 (look E t) = true
 | [],_,t=>rfl
 | (u,v) :: E,h,t=>by
  simp only [look]
  cases hb:Nat.beq t u with
  | true=>exact h.1
  | false=>exact PL.at h.2 t
def PV:List V→Prop
 | []=>True
 | v :: vs=>Q81 v = true∧PV vs
theorem PV.go:∀ {vs:List V},PV vs→Q81.go vs = true
 | [],_=>rfl
 | v :: vs,h=>by simp only [Q81.go,Bool.and_eq_true]; exact ⟨h.1,PV.go h.2⟩
def PB (t0 i:Nat):List (Nat×Bx)→Prop
 | []=>True
 | (t,.cells cs) :: L=>PV (bif Nat.beq t t0 then cs.set i .und else cs)∧PB t0 i L
 | (_,.mp ..) :: _=>False
theorem PB.at {t0 i:Nat}:∀ {L:List (Nat×Bx)},PB t0 i L→∀ t cs,Qcg L t = some (.cells cs)→Q81.go (if t = t0 then cs.set i .und else cs) = true
 | [],_,t,cs,h=>by cases h
 | (u,.cells ds) :: L,hp,t,cs,h=>by
  simp only [Qcg] at h
  cases hb:Nat.beq t u with
  | true =>
   have:=Nat.eq_of_beq_eq_true hb; subst this
   rw [hb] at h; cases h
   have:=hp.1.go
   by_cases ht:t = t0
   ·subst ht; rw [show Nat.beq t t = true from by simp] at this; rw [if_pos rfl]; exact this
   ·have hf:Nat.beq t t0 = false:=by
     cases hq:Nat.beq t t0 with
     | false=>rfl
     | true=>exact absurd (Nat.eq_of_beq_eq_true hq) ht
    rw [hf] at this; rw [if_neg ht]; exact this
  | false=>rw [hb] at h; exact PB.at hp.2 t cs h
 | (u,.mp ..) :: L,hp,t,cs,h=>hp.elim
def RowK (P:Program) (c:Nat) (e:α→List D) (sz:Nat) (ex:List V) (f:List α→Option (List α)):Prop :=
 ∀ xs ys,f xs = some ys→ys.length = xs.length∧(xs = []→ys = xs∧∀ M nb,ACalls P c (.d (.lst sz (List.map e xs)) :: ex) M nb (.tup []) M nb) ∧
  (xs.length≤maxLen→∀ cap k0 M nb,M k0 = some (.cells (Qgv (List.map e xs) ((cap - xs.length) * sz)))→ACalls P c (.sl sz k0 0 xs.length cap :: ex) M nb (.tup []) (M.put k0 (.cells (Qgv (List.map e ys) ((cap - xs.length) * sz)))) nb)
section
variable {pc d nb:Nat} {os:List COp} {E:List (Nat×V)} {M0:Mem} {L:List (Nat×Bx)} {Q:St→Prop} {gd:Option (Nat×Bool)}
theorem Rn.callRow {f:FuncId} {as:List Arg} {args:List V} {r:V} {t:Nat} {cs cs' : List V} (hw:Wn E gd) (ha:V.dems (as.map (·.val (look E))) = args) (ht:Qcg L t = some (.cells cs)) (hC:∀ M,M (Γ.n0 + t) = some (.cells cs)→ACalls Γ.P f args M nb r (M.put (Γ.n0 + t) (.cells cs')) nb)
  (hpc:pcOf pc = 0) (h:Rn Γ pc os ⟨look ((d,r) :: E),Qo Γ.n0 ((t,.cells cs') :: L) M0,nb⟩ Q):Rn Γ pc (⟨some d,.call f,as,false,gd⟩ :: os) ⟨look E,Qo Γ.n0 L M0,nb⟩ Q:=by
 refine Rn.cons ?_
 unfold COp.run
 rw [hw.wanted]
 simp only [show (K.call f).isCall = true from rfl,if_true,COp.callee,ha]
 rw [hpc]
 refine ⟨r,(Qo Γ.n0 L M0).put (Γ.n0 + t) (.cells cs'),nb,hC _ (by rw [Qde]; exact ht),fun k hk=>?_,fun k cs2 hk hM=>.inl ?_,?_⟩
 ·simp only [Mem.put]; split
  ·rfl
  ·exact hk
 ·rw [Qes _ _ (by omega)]
 ·rw [show Qbg (look E) (some d) r = look ((d,r) :: E) from Qdc E d r,Qe3]
  exact h
end
end Go.Abs
end
section
namespace Go.Abs
open Go
variable {κ β:Type} [BEq κ]
def mapE (ek:κ→V) (ev:β→V):Nat→List (κ×β)→List (V×V×Nat)
 | _,[]=>[]
 | i,(k,v) :: m=>(ek k,ev v,i) :: mapE ek ev (i + 1) m
def idxS (m:List (κ×β)) (k:κ):Nat:=match m with
 | []=>0
 | (k',_) :: m=>if k == k' then 0 else idxS m k + 1
def hasM (m:List (κ×β)) (k:κ):Bool:=m.any fun p=>k == p.1
def getM (m:List (κ×β)) (k:κ) (z:β):β:=match m with
 | []=>z
 | (k',v) :: m=>if k == k' then v else getM m k z
def setM (m:List (κ×β)) (k:κ) (v:β):List (κ×β):=match m with
 | []=>[(k,v)]
 | (k',v') :: m=>if k == k' then (k,v) :: m else (k',v') :: setM m k v
def putM (m:List (κ×β)) (i:Nat) (v:β):List (κ×β):=m.modify i fun p=>(p.1,v)
theorem Q82 {k k' : κ} {v:β} {m:List (κ×β)}:hasM ((k',v) :: m) k = ((k == k') || hasM m k):=rfl
theorem Q83 {ek:κ→V} {ev:β→V}:∀ (i:Nat) (m:List (κ×β)),(mapE ek ev i m).length = m.length
 | _,[]=>rfl
 | i,_ :: m=>by simp [mapE,Q83 (i + 1) m]
theorem Qbbp {ek:κ→V} {ev:β→V}:∀ (i j:Nat) (m:List (κ×β)),(mapE ek ev i m)[j]? = (m[j]?).map fun p=>(ek p.1,ev p.2,i + j)
 | _,j,[]=>by simp [mapE]
 | i,0,_ :: m=>by simp [mapE]
 | i,j + 1,_ :: m=>by
  simp only [mapE,List.getElem?_cons_succ,Qbbp (i + 1) j m]
  rw [show i + 1 + j = i + (j + 1) from by omega]
theorem Q4c {ek:κ→V} {ev:β→V}:∀ (i:Nat) (m n:List (κ×β)),mapE ek ev i (m ++ n) = mapE ek ev i m ++ mapE ek ev (i + m.length) n
 | _,[],n=>by simp [mapE]
 | i,(k,v) :: m,n=>by simp [mapE,Q4c (i + 1) m n]; congr 1; omega
theorem Q5o {ek:κ→V} {ev:β→V} {kd:MK} (hk:∀ a,kd.ok (ek a) = true):∀ (i:Nat) (m:List (κ×β)),kd.all (mapE ek ev i m) = true
 | _,[]=>rfl
 | i,(k,v) :: m=>by
  have:=Q5o (ev:=ev) hk (i + 1) m
  simp only [MK.all] at *
  simp [mapE,hk,this]
section
variable {ek:κ→V} {ev:β→V} (hs:∀ a b,Qh9 (ek a) (ek b) = (a == b))
include hs
theorem Q01 {k:κ}:∀ (i:Nat) (m:List (κ×β)) (z:β),Qrz (ek k) (mapE ek ev i m) = if hasM m k then some (idxS m k,ev (getM m k z)) else none
 | _,[],z=>rfl
 | i,(k',v) :: m,z=>by
  simp only [mapE,Qrz,hs,Q01 (i + 1) m z,Q82,idxS,getM]
  by_cases hb:(k == k') = true
  ·simp [hb]
  ·simp only [hb,Bool.false_eq_true,if_false,Bool.false_or]
   by_cases hq:hasM m k = true
   ·rw [if_pos hq,if_pos hq]; rfl
   ·rw [if_neg hq,if_neg hq]; rfl
omit hs in
theorem Qbhn {k:κ}:∀ {m:List (κ×β)},hasM m k = true→idxS m k < m.length
 | [],h=>by cases h
 | (k',v) :: m,h=>by
  simp only [idxS,hasM,List.any_cons] at *
  cases hb:(k == k') with
  | true=>simp
  | false =>
   rw [hb] at h
   have:=Qbhn (m:=m) (by simpa [hasM] using h)
   simp; exact this
omit hs in
theorem Qbc0 {k:κ}:∀ {m:List (κ×β)},hasM m k = false→idxS m k = m.length
 | [],h=>rfl
 | (k',v) :: m,h=>by
  simp only [hasM,List.any_cons,Bool.or_eq_false_iff] at h
  simp only [idxS,h.1,Bool.false_eq_true,if_false,List.length_cons]
  rw [Qbc0 (m:=m) h.2]
omit hs in
theorem Q84 {k:κ} {v:β}:∀ {m:List (κ×β)},hasM m k = false→setM m k v = m ++ [(k,v)]
 | [],h=>rfl
 | (k',v') :: m,h=>by
  simp only [hasM,List.any_cons,Bool.or_eq_false_iff] at h
  simp only [setM,h.1,Bool.false_eq_true,if_false,List.cons_append]
  rw [Q84 (m:=m) h.2]
omit hs in
theorem Qbbq {k:κ} {v:β}:∀ (i:Nat) {m:List (κ×β)},hasM m k = true→modM (ek k) (ev v) (idxS m k) (mapE ek ev i m) = mapE ek ev i (setM m k v)
 | _,[],h=>by cases h
 | i,(k',v') :: m,h=>by
  simp only [idxS,setM,mapE,hasM,List.any_cons] at *
  cases hb:(k == k') with
  | true=>simp [modM,mapE]
  | false =>
   rw [hb] at h
   simp only [Bool.false_eq_true,if_false,modM,mapE]
   rw [Qbbq (i + 1) (by simpa [hasM] using h)]
omit hs in
theorem Q4d {k:κ} {v:β}:∀ {m:List (κ×β)},hasM m k = true→(setM m k v).length = m.length
 | [],h=>by cases h
 | (k',v') :: m,h=>by
  simp only [setM,hasM,List.any_cons] at *
  cases hb:(k == k') with
  | true=>simp
  | false =>
   rw [hb] at h
   simp [Q4d (m:=m) (by simpa [hasM] using h)]
omit hs in
theorem Qbho {v:β}:∀ (i j:Nat) {m:List (κ×β)} {p:κ×β},m[j]? = some p→modM (ek p.1) (ev v) j (mapE ek ev i m) = mapE ek ev i (putM m j v)
 | i,0,q :: m,p,h=>by simp at h; subst h; simp [putM,mapE,modM]
 | i,j + 1,q :: m,p,h=>by
  simp at h
  have:=Qbho (v:=v) (i + 1) j h
  simp only [putM,mapE,modM,List.modify_succ_cons] at *
  rw [this]
 | i,j,[],p,h=>by simp at h
omit hs in
theorem Qbc1:∀ (i j:Nat) (m:List (κ×β)),j < m.length→Q9l ((i + j:Nat):Int) (mapE ek ev i m) = some j
 | i,j,[],h=>by simp at h
 | i,0,_ :: m,h=>by simp [mapE,Q9l]
 | i,j + 1,_ :: m,h=>by
  have:=Qbc1 (i + 1) j m (by simpa using h)
  simp only [mapE,Q9l]
  have hne:((i:Int) == ((i + (j + 1):Nat):Int)) = false:=by simp; omega
  rw [hne,show i + (j + 1) = i + 1 + j from by omega,this]; rfl
end
variable {Γ:Env} {pc d nb:Nat} {os:List COp} {E:List (Nat×V)} {M M' M0:Mem} {L:List (Nat×Bx)} {Q:St→Prop} {gd:Option (Nat×Bool)} {a b c:Arg} {ek:κ→V} {ev:β→V} {m:List (κ×β)}
theorem Rn.k0 {k:K} {as:List Arg} {v:V} (hw:Wn E gd) (hc:k.isCall = false) (hn:k.isNil = false) (hk:Qn Γ.n0 (Γ.n0 + 0) k (V.dems (as.map (·.val (look E)))) M = some (v,M'))
  (h:Rn Γ pc os ⟨look E,M',nb⟩ Q):Rn Γ pc (⟨none,k,as,false,gd⟩ :: os) ⟨look E,M,nb⟩ Q:=by
 refine Rn.cons ?_
 unfold COp.run
 rw [hw.wanted]
 simp only [hc,hn,Bool.false_eq_true,if_false,COp.step,COp.xs,Option.getD_none,hk,Qbg]
 exact h
theorem Rn.mkmap (hw:Wn E gd) (hf:(Qcg L d).isNone = true) (ek:κ→V) (ev:β→V) (h:Rn Γ pc os ⟨look ((d,.mp (Γ.n0 + d)) :: E),Qo Γ.n0 ((d,.mp (mapE ek ev 0 []) 0) :: L) M0,nb⟩ Q) :
  Rn Γ pc (⟨some d,.mkmap,[],false,gd⟩ :: os) ⟨look E,Qo Γ.n0 L M0,nb⟩ Q:=by
 refine Rn.k hw rfl rfl ?_ h
 simp only [List.map_nil,V.dems,Qn]
 rw [if_pos (by simp [Qr5 (Γ:=Γ) (M0:=M0) hf]),Qe3]; rfl
theorem Rn.lenm {t:Nat} (hw:Wn E gd) (ha:a.val (look E) = .mp (Γ.n0 + t)) (hM:Qcg L t = some (.mp (mapE ek ev 0 m) m.length)) (h:Rn Γ pc os ⟨look ((d,.d (.int .i64 m.length)) :: E),Qo Γ.n0 L M0,nb⟩ Q) :
  Rn Γ pc (⟨some d,.lenm,[a],false,gd⟩ :: os) ⟨look E,Qo Γ.n0 L M0,nb⟩ Q:=by
 refine Rn.k hw rfl rfl ?_ h
 simp only [List.map_cons,List.map_nil,V.dems,ha,V.dem,Qn,Qk hM,Q83]
section
variable (hs:∀ a b,Qh9 (ek a) (ek b) = (a == b)) {kd:MK} (hk:∀ a,kd.ok (ek a) = true) (hv:∀ b,(ev b).dat = true)
include hs hk hv
theorem Rn.lookup {t:Nat} {z:V} {k:κ} (zb:β) (hz:ev zb = z) (hw:Wn E gd) (ha:a.val (look E) = .mp (Γ.n0 + t)) (hb:(b.val (look E)).dem = ek k) (hM:Qcg L t = some (.mp (mapE ek ev 0 m) m.length))
  (h:Rn Γ pc os ⟨look ((d,ev (getM m k zb)) :: E),Qo Γ.n0 L M0,nb⟩ Q):Rn Γ pc (⟨some d,.lookup kd false z,[a,b],false,gd⟩ :: os) ⟨look E,Qo Γ.n0 L M0,nb⟩ Q:=by
 subst hz
 refine Rn.k hw rfl rfl ?_ h
 simp only [List.map_cons,List.map_nil,V.dems,ha,hb,V.dem,Qn,Qk hM,hk,Q5o hk,Bool.and_self,if_true,Q01 hs 0 m zb]
 cases hh:hasM m k with
 | true=>simp [hv]
 | false =>
  have:getM m k zb = zb:=by
   clear hM h
   induction m with
   | nil=>rfl
   | cons p m ih =>
    simp only [hasM,List.any_cons,Bool.or_eq_false_iff] at hh
    simp only [getM,hh.1,Bool.false_eq_true,if_false]
    exact ih hh.2
  simp [hv,this]
theorem Rn.lookupC {t:Nat} {z:V} {k:κ} (zb:β) (hz:ev zb = z) (hw:Wn E gd) (ha:a.val (look E) = .mp (Γ.n0 + t)) (hb:(b.val (look E)).dem = ek k) (hM:Qcg L t = some (.mp (mapE ek ev 0 m) m.length))
  (h:Rn Γ pc os ⟨look ((d,.tup [ev (getM m k zb),.d (.bool (hasM m k))]) :: E),Qo Γ.n0 L M0,nb⟩ Q):Rn Γ pc (⟨some d,.lookup kd true z,[a,b],false,gd⟩ :: os) ⟨look E,Qo Γ.n0 L M0,nb⟩ Q:=by
 subst hz
 refine Rn.k hw rfl rfl ?_ h
 simp only [List.map_cons,List.map_nil,V.dems,ha,hb,V.dem,Qn,Qk hM,hk,Q5o hk,Bool.and_self,if_true,Q01 hs 0 m zb]
 cases hh:hasM m k with
 | true=>simp [hv]
 | false =>
  have:getM m k zb = zb:=by
   clear hM h
   induction m with
   | nil=>rfl
   | cons p m ih =>
    simp only [hasM,List.any_cons,Bool.or_eq_false_iff] at hh
    simp only [getM,hh.1,Bool.false_eq_true,if_false]
    exact ih hh.2
  simp [hv,this]
theorem Rn.mapset {t:Nat} {k:κ} {v:β} (hw:Wn E gd) (ha:a.val (look E) = .mp (Γ.n0 + t)) (hb:(b.val (look E)).dem = ek k) (hc:Q2x (c.val (look E)).dem = ev v) (hcd:(c.val (look E)).dem.dat = true) (hM:Qcg L t = some (.mp (mapE ek ev 0 m) m.length))
  (h:Rn Γ pc os ⟨look E,Qo Γ.n0 ((t,.mp (mapE ek ev 0 (setM m k v)) (setM m k v).length) :: L) M0,nb⟩ Q):Rn Γ pc (⟨none,.mapset kd,[a,b,c],false,gd⟩ :: os) ⟨look E,Qo Γ.n0 L M0,nb⟩ Q:=by
 refine Rn.k0 (v:=.und) hw rfl rfl ?_ h
 simp only [List.map_cons,List.map_nil,V.dems,ha,hb,hc,V.dem,Qn,Qk hM,hk,hcd,Q5o hk,Bool.and_self,if_true]
 rw [Q01 hs 0 m v,← Qe3]
 cases hh:hasM m k with
 | true=>simp only [if_true]; rw [Qbbq 0 hh,Q4d hh]
 | false =>
  simp only [Bool.false_eq_true,if_false]
  rw [Q84 hh,Q4c]
  simp [mapE]
theorem Rn.mapentry {t:Nat} {z:V} {k:κ} (zb:β) (hz:ev zb = z) (hw:Wn E gd) (ha:a.val (look E) = .mp (Γ.n0 + t)) (hb:(b.val (look E)).dem = ek k) (hM:Qcg L t = some (.mp (mapE ek ev 0 m) m.length))
  (h:Rn Γ pc os ⟨look ((d,.tup [ev (getM m k zb),.d (.int .i64 (idxS m k))]) :: E),Qo Γ.n0 ((t,.mp (mapE ek ev 0 (setM m k (getM m k zb))) (setM m k (getM m k zb)).length) :: L) M0,nb⟩ Q):Rn Γ pc (⟨some d,.mapentry kd z,[a,b],false,gd⟩ :: os) ⟨look E,Qo Γ.n0 L M0,nb⟩ Q:=by
 subst hz
 refine Rn.k hw rfl rfl ?_ h
 simp only [List.map_cons,List.map_nil,V.dems,ha,hb,V.dem,Qn,Qk hM,hk,hv,Q5o hk,Bool.and_self,if_true,Q01 hs 0 m zb]
 rw [← Qe3]
 cases hh:hasM m k with
 | true =>
  have hlt:=Qbhn hh
  simp only [if_true,hv,Qbbp,List.getElem?_eq_getElem hlt,Option.map_some,Nat.zero_add]
  rw [Qbbq 0 hh,Q4d hh]
 | false =>
  have:getM m k zb = zb:=by
   clear hM h
   induction m with
   | nil=>rfl
   | cons p m ih =>
    simp only [hasM,List.any_cons,Bool.or_eq_false_iff] at hh
    simp only [getM,hh.1,Bool.false_eq_true,if_false]
    exact ih hh.2
  simp only [Bool.false_eq_true,if_false]
  rw [this,Q84 hh,Q4c,Qbc0 hh]
  simp [mapE]
omit hs hk in
theorem Rn.entrystore {t i:Nat} {v:β} (hi:i < m.length) (hw:Wn E gd) (ha:a.val (look E) = .mp (Γ.n0 + t)) (hb:b.val (look E) = .d (.int .i64 (i:Int))) (hc:Q2x (c.val (look E)).dem = ev v) (hcd:(c.val (look E)).dem.dat = true) (hM:Qcg L t = some (.mp (mapE ek ev 0 m) m.length))
  (h:Rn Γ pc os ⟨look E,Qo Γ.n0 ((t,.mp (mapE ek ev 0 (putM m i v)) (putM m i v).length) :: L) M0,nb⟩ Q):Rn Γ pc (⟨none,.entrystore,[a,b,c],false,gd⟩ :: os) ⟨look E,Qo Γ.n0 L M0,nb⟩ Q:=by
 refine Rn.k0 (v:=.und) hw rfl rfl ?_ h
 have hbn:=Qbc1 (ek:=ek) (ev:=ev) 0 i m hi
 rw [Nat.zero_add] at hbn
 simp only [List.map_cons,List.map_nil,V.dems,ha,hb,hc,V.dem,Qn,Qk hM,hcd,if_true,hbn,Qbbp,List.getElem?_eq_getElem hi,Option.map_some]
 rw [← Qe3,Qbho 0 i (List.getElem?_eq_getElem hi)]
 simp [putM]
end
theorem kMp {n0 t:Nat} {sites:List Nat} (h:sites.any (fun u=>Nat.beq t u) = false):WkV (Qdu (Qma n0 sites) (.mp (n0 + t))) (.mp (n0 + t)):=by
 refine .same ?_
 simp [Qdu,Qvs,h]
end Go.Abs
end
section
namespace Go.Abs
open Go
abbrev oo (d:Nat) (k:K) (as:List Arg):COp:=⟨some d,k,as,false,none⟩
abbrev oM (d a:Nat):COp:=⟨some d,.mov,[.t a],false,none⟩
abbrev oL (d a:Nat):COp:=⟨some d,.load false 1,[.t a],false,none⟩
abbrev oF (d n a:Nat):COp:=⟨some d,.fld n,[.t a],false,none⟩
abbrev cI (n:Int):Arg:=.c (.d (.int .i64 n))
abbrev ot (d:Nat) (k:K) (as:List Arg):COp:=⟨some d,k,as,true,none⟩
universe u
variable {α:Type u} {Γ:Env} {pc d nb:Nat} {os:List COp} {E:List (Nat×V)} {M:Mem} {Q:St→Prop} {gd:Option (Nat×Bool)} {a b:Arg} {sz:Nat}
theorem Rn.idxArr {k o o' len:Nat} {kk:IntKind} {i:Int} (hw:Wn E gd) (ha:a.val (look E) = .ptr k o) (hb:b.val (look E) = .d (.int kk i)) (ho:o' = o + i.toNat * sz) (hx:inO len i = some ()) (h:Rn Γ pc os ⟨look ((d,.ptr k o') :: E),M,nb⟩ Q) :
  Rn Γ pc (⟨some d,.idxarr sz len,[a,b],false,gd⟩ :: os) ⟨look E,M,nb⟩ Q:=by
 subst ho
 unfold inO at hx
 split at hx <;> cases hx
 rename_i hc
 refine Rn.k hw rfl rfl ?_ h
 simp [ha,hb,V.dems,V.dem,Qn,hc.1,hc.2]
def rowO (l:List α) (i:Nat):Option α:=l[i]?
theorem Rn.loadArr {k off o n:Nat} {cs pre post:List V} {e:α→D} {l:List α} {x:α} (hw:Wn E gd) (ha:a.val (look E) = .ptr k off) (ho:off = o + n) (hM:M k = some (.cells cs)) (hc:cs = pre ++ (l.map fun x=>V.d (e x)) ++ post) (hp:pre.length = o) (hx:rowO l n = some x)
  (h:Rn Γ pc os ⟨look ((d,.d (e x)) :: E),M,nb⟩ Q):Rn Γ pc (⟨some d,.load false 1,[a],false,gd⟩ :: os) ⟨look E,M,nb⟩ Q:=by
 subst ho hc hp
 unfold rowO at hx
 obtain ⟨hlt,hx'⟩:=List.getElem?_eq_some_iff.1 hx
 refine Rn.k hw rfl rfl ?_ h
 have h2:(pre ++ (l.map fun x=>V.d (e x)) ++ post)[pre.length + n]? = some (.d (e x)):=by
  rw [List.append_assoc,List.getElem?_append_right (by omega),show pre.length + n - pre.length = n from by omega,List.getElem?_append_left (by simpa using hlt),List.getElem?_map,hx]; rfl
 simp only [List.map_cons,List.map_nil,V.dems,ha,V.dem,Qn,hM]
 rw [if_pos (by simp only [List.length_append,List.length_map]; omega)]
 simp only [Bool.false_eq_true,if_false,Option.map_eq_some_iff]
 exact ⟨_,h2,rfl⟩
theorem Rn.lit {bytes:Nat} {xs:List α} {e:α→List D} {ls:List (List D)} (hw:Wn E gd) (hl:xs.map e = ls) (hbd:(Nat.ble bytes 128 && Nat.ble 1 sz && Nat.ble ls.length lim) = true)
  (h:Rn Γ pc os ⟨look ((d,.own sz (xs.map e)) :: E),M,nb⟩ Q):Rn Γ pc (⟨some d,.append sz bytes,[.c (.nils sz),.c (.d (.lst sz ls))],true,gd⟩ :: os) ⟨look E,M,nb⟩ Q:=by
 subst hl
 simp only [Bool.and_eq_true] at hbd
 have h1:=Nat.le_of_ble_eq_true hbd.1.1
 have h2:0 < sz:=Nat.le_of_ble_eq_true hbd.1.2
 have h3:=Nat.le_of_ble_eq_true hbd.2
 refine Rn.kT hw rfl rfl (v:=.own sz (xs.map e)) ?_ (fun i=>?_) h
 ·simp only [List.map_cons,List.map_nil,Arg.val,Qn,Qjf,if_true]
  rw [if_pos (by simp only [h1,h2,h3,decide_true,Bool.and_self])]
 ·simp only [List.map_cons,List.map_nil,Arg.val,Qbu,Q0,Arg.putTo]
  rw [Qdc]
theorem tv:True:=trivial
abbrev o_ (l:List Int):V:=.own 1 (List.map (eI .i64) l)
theorem si {β:Type u} {x y:β} (h:some x = some y):x = y:=Option.some.inj h
theorem sr {cs:List COp} {y:CC} {σ:St} {Q:Ex→St→Prop} (h:Rn Γ 9 cs σ (Qbir Γ y Q .norm)):Tr Γ (.seq (.region cs 9 []) y) σ Q:=Tr.seq (Tr.rgn h)
theorem nt {y:CC} {σ:St} {Q:Ex→St→Prop} (h:Tr Γ y σ Q):Rn Γ 9 [] σ (Qbir Γ y Q .norm):=Rn.nil (toN h)
theorem md {x:D} (ha:a.val (look E) = .d x) (h:Rn Γ pc os ⟨look ((d,.d x) :: E),M,nb⟩ Q):Rn Γ pc (⟨some d,.mov,[a],false,none⟩ :: os) ⟨look E,M,nb⟩ Q:=Rn.movD trivial ha h
end Go.Abs
end
section
namespace Go.Abs
open Go
end Go.Abs
end
section
namespace Go.Abs
open Go
variable {α:Type}
theorem WkVs.app {a a' b b' : List V} (h:WkVs a a') (k:WkVs b b'):WkVs (a ++ b) (a' ++ b'):=by
 induction h with
 | nil=>exact k
 | cons h t ih=>exact .cons h ih
theorem Qbkr {g g' : α→List V} {f:V→V}:∀ {xs:List α},(∀ x∈xs,WkVs ((g x).map f) (g' x))→WkVs ((Qz g xs).map f) (Qz g' xs)
 | [],_=>.nil
 | x :: xs,h=>by
  rw [Qgf,Qgf,List.map_append]
  exact .app (h x (by simp)) (Qbkr fun y hy=>h y (by simp [hy]))
theorem Qbly {sz:Nat} {e:α→List D} {n:Int} {xs:List (List α)} {f:V→V} (hf:f (.nils sz) = .nils sz) (h:mkO n ([]:List α) = some xs):WkVs ((Qz (fun (x:List α)=>[V.nils sz]) xs).map f) (Qz (fun (x:List α)=>[V.own sz (List.map e x)]) xs):=by
 refine Qbkr fun x hx=>?_
 unfold mkO at h
 split at h <;> cases h
 obtain rfl:=List.eq_of_mem_replicate hx
 simp only [List.map_cons,List.map_nil,hf]
 exact .cons (WkV.nilsO _) .nil
theorem Qblz {sz:Nat} {e:α→List D} {xs:List (List α)} {f:V→V} (hf:∀ l,f (.own sz l) = .own sz l):WkVs ((Qz (fun (x:List α)=>[V.own sz (List.map e x)]) xs).map f) (Qz (fun (x:List α)=>[V.d (.lst sz (List.map e x))]) xs):=by
 refine Qbkr fun x hx=>?_
 simp only [List.map_cons,List.map_nil,hf]
 exact .cons (WkV.dem' rfl) .nil
theorem Q02 {g:α→V}:∀ (xs:List α),Qz (fun x=>[g x]) xs = xs.map g
 | []=>rfl
 | x :: xs=>by rw [Qgf,Q02 xs]; rfl
variable {Γ:Env} {pc d nb:Nat} {os:List COp} {E:List (Nat×V)} {M M0:Mem} {L:List (Nat×Bx)} {Q:St→Prop} {gd:Option (Nat×Bool)} {a b:Arg} {sz:Nat} {e:α→List D}
theorem Rn.loadTA {t:Nat} {i:Int} {xs:List (List α)} {x:List α} (hw:Wn E gd) (ha:a.val (look E) = .ptr (Γ.n0 + t) (0 + i.toNat * 1)) (hM:Qcg L t = some (.cells (Qz (fun (r:List α)=>[V.own sz (List.map e r)]) xs))) (hx:getO xs i = some x)
  (h:Rn Γ pc os ⟨look ((d,.own sz (List.map e x)) :: E),Qo Γ.n0 ((t,.cells ((Qz (fun (r:List α)=>[V.own sz (List.map e r)]) xs).set i.toNat (.d (.lst sz (List.map e x))))) :: L) M0,nb⟩ Q) :
  Rn Γ pc (⟨some d,.loadT,[a],false,gd⟩ :: os) ⟨look E,Qo Γ.n0 L M0,nb⟩ Q:=by
 have hx' : xs[i.toNat]? = some x:=by
  unfold getO at hx
  split at hx
  ·exact hx
  ·cases hx
 have e0:0 + i.toNat * 1 = i.toNat:=by omega
 rw [e0] at ha
 refine Rn.loadT hw ha hM ?_ rfl h
 rw [Q02,List.getElem?_map,hx']; rfl
theorem Rn.storeTA {t u:Nat} {i:Int} {xs ys:List (List α)} {y:List α} {c0:V} (hw:Wn E gd) (ha:a.val (look E) = .ptr (Γ.n0 + t) (0 + i.toNat * 1)) (hb:look E u = .own sz (List.map e y)) (hM:Qcg L t = some (.cells ((Qz (fun (r:List α)=>[V.own sz (List.map e r)]) xs).set i.toNat c0))) (hx:setO xs i y = some ys)
  (h:Rn Γ pc os ⟨look ((u,.d (.lst sz (List.map e y))) :: E),Qo Γ.n0 ((t,.cells (Qz (fun (r:List α)=>[V.own sz (List.map e r)]) ys)) :: L) M0,nb⟩ Q) :
  Rn Γ pc (⟨none,.store 1,[a,.t u],true,gd⟩ :: os) ⟨look E,Qo Γ.n0 L M0,nb⟩ Q:=by
 unfold setO at hx
 split at hx <;> cases hx
 rename_i hi
 have e0:0 + i.toNat * 1 = i.toNat:=by omega
 rw [e0] at ha
 refine Rn.storeO hw ha hb hM ?_ ?_ h
 ·rw [Q02]
  exact Nat.ble_eq_true_of_le (by simp only [List.length_set,List.length_map]; omega)
 ·rw [Q02,Q02,List.map_set]
  rw [List.set_eq_take_append_cons_drop (l:=List.map _ xs) (i:=i.toNat) (a:=V.own sz (List.map e y)),if_pos (by simpa using hi.2)]
  rw [List.take_set_of_le (Nat.le_refl _),List.drop_set_of_lt (by omega)]
  simp
def Qbah (m:Nat):List (Nat×Bx)→List (Nat×Bx)
 | []=>[]
 | (t,b) :: L=>(m + t,b) :: Qbah m L
theorem Q4e {m t:Nat}:∀ {Lr:List (Nat×Bx)},Qcg (Qbah m Lr ++ L) t = if m≤t then (match Qcg Lr (t - m) with | some b=>some b | none=>Qcg L t) else Qcg L t
 | []=>by
  simp only [Qbah,List.nil_append,Qcg]
  split <;> rfl
 | (u,b) :: Lr=>by
  simp only [Qbah,List.cons_append,Qcg]
  rw [Q4e (Lr:=Lr)]
  by_cases hm:m≤t
  ·simp only [hm,if_true]
   by_cases hu:t = m + u
   ·have h1:Nat.beq t (m + u) = true:=by rw [hu]; exact Nat.beq_refl _
    have h2:Nat.beq (t - m) u = true:=by
     have:t - m = u:=by omega
     rw [this]; exact Nat.beq_refl _
    rw [h1,h2]; rfl
   ·have h1:Nat.beq t (m + u) = false:=by
     cases hq:Nat.beq t (m + u) with
     | false=>rfl
     | true=>exact absurd (Nat.eq_of_beq_eq_true hq) hu
    have h2:Nat.beq (t - m) u = false:=by
     cases hq:Nat.beq (t - m) u with
     | false=>rfl
     | true=>have:=Nat.eq_of_beq_eq_true hq; omega
    rw [h1,h2]; rfl
  ·have h1:Nat.beq t (m + u) = false:=by
    cases hq:Nat.beq t (m + u) with
    | false=>rfl
    | true=>have:=Nat.eq_of_beq_eq_true hq; omega
   rw [h1]; simp only [hm,if_false,cond_false]
theorem Qbai {m:Nat} (hL:(L.all fun p=>Nat.blt p.1 m) = true) {t:Nat} (h:m≤t):Qcg L t = none:=by
 cases hb:Qcg L t with
 | none=>rfl
 | some b =>
  obtain ⟨p,hp,he⟩:=Q00 hb
  have:=List.all_eq_true.1 hL p hp
  have:=Nat.le_of_ble_eq_true this
  omega
theorem Qbd6 {n0 m:Nat} {Lr:List (Nat×Bx)} (hL:(L.all fun p=>Nat.blt p.1 m) = true):Qo (n0 + m) Lr (Qo n0 L M0) = Qo n0 (Qbah m Lr ++ L) M0:=by
 funext k
 simp only [Qo]
 by_cases h1:k < n0
 ·rw [if_pos (by omega),if_pos h1,if_pos h1]
 ·by_cases h2:k < n0 + m
  ·rw [if_pos h2,if_neg h1,if_neg h1,Q4e,if_neg (by omega)]
  ·rw [if_neg h2,if_neg h1,Q4e,if_pos (by omega),Qbai hL (t:=k - n0) (by omega),show k - (n0 + m) = k - n0 - m from by omega]
   cases Qcg Lr (k - n0 - m) <;> rfl
theorem Rn.callNew {f:FuncId} {as:List Arg} {args:List V} {r r' : V} {m n:Nat} {Lr L' : List (Nat×Bx)} (hw:Wn E gd) (ha:V.dems (as.map (·.val (look E))) = args)
  (hC:ACalls Γ.P f args (Qo Γ.n0 L M0) (Γ.n0 + m) r (Qo (Γ.n0 + m) Lr (Qo Γ.n0 L M0)) (Γ.n0 + m + n)) (hr:r = r') (hLr:Qbah m Lr = L') (hL:(L.all fun p=>Nat.blt p.1 m) = true) (hM:∀ k,Γ.n0≤k→M0 k = none) (hpc:pcOf pc = 0)
  (h:Rn Γ pc os ⟨look ((d,r') :: E),Qo Γ.n0 (L' ++ L) M0,Γ.n0 + (m + n)⟩ Q):Rn Γ pc (⟨some d,.call f,as,false,gd⟩ :: os) ⟨look E,Qo Γ.n0 L M0,Γ.n0 + m⟩ Q:=by
 subst hr hLr
 refine Rn.cons ?_
 unfold COp.run
 rw [hw.wanted]
 simp only [show (K.call f).isCall = true from rfl,if_true,COp.callee,ha]
 rw [hpc]
 refine ⟨r,Qo (Γ.n0 + m) Lr (Qo Γ.n0 L M0),Γ.n0 + m + n,hC,fun k hk=>?_,fun k cs2 hk hM'=>.inl ?_,?_⟩
 ·rcases Nat.lt_or_ge k (Γ.n0 + m) with hlt | hge
  ·rw [Qi hlt]; exact hk
  ·rw [Q8w hM hL k hge] at hk; cases hk
 ·rw [Qi (by omega)]
 ·rw [show Qbg (look E) (some d) r = look ((d,r) :: E) from Qdc E d r,Qbd6 hL,show Γ.n0 + m + n = Γ.n0 + (m + n) from by omega]
  exact h
def LOn (p:Nat→Prop):List (Nat×Bx)→Prop
 | []=>True
 | (_,.cells cs) :: L=>V.ons p cs∧LOn p L
 | (_,.mp ..) :: L=>LOn p L
theorem LOn.at {p:Nat→Prop}:∀ {L:List (Nat×Bx)},LOn p L→∀ t cs,Qcg L t = some (.cells cs)→V.ons p cs
 | [],_,t,cs,h=>by cases h
 | (u,.cells ds) :: L,hp,t,cs,h=>by
  simp only [Qcg] at h
  cases hb:Nat.beq t u with
  | true=>rw [hb] at h; cases h; exact hp.1
  | false=>rw [hb] at h; exact LOn.at hp.2 t cs h
 | (u,.mp ..) :: L,hp,t,cs,h=>by
  simp only [Qcg] at h
  cases hb:Nat.beq t u with
  | true=>rw [hb] at h; cases h
  | false=>rw [hb] at h; exact LOn.at (L:=L) hp t cs h
theorem Qbd7 {p:Nat→Prop} {g:α→List V} (h:∀ x,V.ons p (g x)):∀ xs:List α,V.ons p (Qz g xs)
 | []=>trivial
 | x :: xs=>by rw [Qgf]; exact Qge.2 ⟨h x,Qbd7 h xs⟩
theorem thN {n0 t:Nat} {b:Bx} (h:Qcg L t = some b):There (Qo n0 L M0) (n0 + t):=by simp [There,Qde,h]
def LR (M:Mem) (n0:Nat):List (Nat×Bx)→Prop
 | []=>True
 | (t,b) :: L=>M (n0 + t) = some b∧LR M n0 L
theorem lrAt {n0:Nat}:∀ {Lr:List (Nat×Bx)},LR M n0 Lr→∀ t b,Qcg Lr t = some b→M (n0 + t) = some b
 | [],_,t,b,h=>by cases h
 | (u,c) :: Lr,hp,t,b,h=>by
  simp only [Qcg] at h
  cases hb:Nat.beq t u with
  | true =>
   rw [hb] at h
   have:=Nat.eq_of_beq_eq_true hb
   subst this
   cases h; exact hp.1
  | false=>rw [hb] at h; exact lrAt hp.2 t b h
def FinN (rs:List Res) (r:V) (n0:Nat) (M0:Mem) (Lr:List (Nat×Bx)) (n:Nat):Ex→St→Prop:=fun e σ =>
 (e = .norm∨e = .ret)∧∃ r',Qvp σ rs = some r' ∧ Wk r' r∧r.on (There (Qo n0 Lr M0))∧LOn (There (Qo n0 Lr M0)) Lr∧(∀ k,k < n0→σ.M k = M0 k)∧(∀ t b,Qcg Lr t = some b→σ.M (n0 + t) = some b)∧(Lr.all fun p=>Nat.blt p.1 n) = true
theorem Qblj {P:Program} {f:FuncId} {cf:CFn} (hcf:Qx P f = some cf) {args:List V} {r:V} (hargs:Nat.beq args.length cf.np = true) (M:Mem) (nb:Nat) {Lr:List (Nat×Bx)} {n:Nat}
  (hrun:∀ (Γ:Env),Γ.P = P→Γ.nt = cf.nt→Γ.n0 = nb→(∀ k,Γ.n0≤k→M k = none)→Tr Γ cf.body ⟨Qtf args,Qo Γ.n0 [] M,Γ.n0 + cf.nt⟩ (FinN cf.res r Γ.n0 M Lr n)):ACalls P f args M nb r (Qo nb Lr M) (nb + n):=by
 by_cases hM:∀ k,nb≤k→M k = none
 case neg=>exact Q2s (Qjj hcf) (by omega) hM
 by_cases hon:MOn (There M) M
 case neg=>exact ⟨Qjj hcf,by omega,fun w g us hm h=>absurd h hon⟩
 refine Qbkm hcf hM (Nat.eq_of_beq_eq_true hargs) (by omega) fun Γ hP hn ht=>?_
 have h:=hrun Γ hP ht hn (by rw [hn]; exact hM)
 rw [Q5m (by rw [hn]; exact hM),hn] at h
 refine h.mono ?_
 rintro e σ' ⟨he,r',h1,h2,h3,h4,h5,h6,h7⟩
 have hlt:∀ k,There M k→k < nb:=fun k hk=>by
  rcases Nat.lt_or_ge k nb with h | h
  ·exact h
  ·simp [There,hM k h] at hk
 have hsub:∀ k,There M k→There (Qo nb Lr M) k:=fun k hk=>by
  have:=hlt k hk
  simp only [There] at hk ⊢
  rw [Qi this]; exact hk
 refine ⟨he,r',h1,h2,fun k b hk=>?_,h3,fun k cs hk=>?_,fun k hk=>?_⟩
 ·rcases Nat.lt_or_ge k nb with hl | hge
  ·rw [Qi hl] at hk; rw [h5 k hl]; exact hk
  ·obtain ⟨t,rfl⟩ : ∃ t,k = nb + t:=⟨k - nb,by omega⟩
   rw [Qde] at hk; exact h6 t b hk
 ·rcases Nat.lt_or_ge k nb with hl | hge
  ·rw [Qi hl] at hk; exact ons_mono hsub cs (hon k cs hk)
  ·obtain ⟨t,rfl⟩ : ∃ t,k = nb + t:=⟨k - nb,by omega⟩
   rw [Qde] at hk; exact h4.at t cs hk
 ·rcases Nat.lt_or_ge k nb with hl | hge
  ·omega
  ·obtain ⟨t,rfl⟩ : ∃ t,k = nb + t:=⟨k - nb,by omega⟩
   simp only [There,Qde] at hk
   rcases Nat.lt_or_ge t n with h | h
   ·omega
   ·rw [Qbai h7 h] at hk; cases hk
end Go.Abs
end
section
namespace Go.Abs
open Go
def Mem.puts (M:Mem):List (Nat×Bx)→Mem
 | []=>M
 | (k,b) :: l=>(Mem.puts M l).put k b
variable {M M0 M1 M2 M3:Mem} {k k' : Nat} {b b' c:Bx} {B B' : List (Nat×Bx)}
theorem pg0:M.puts ((k,b) :: B) k = some b:=by simp [Mem.puts,Mem.put]
theorem pgS (h:k≠k') (hg:M.puts B k = some b):M.puts ((k',c) :: B) k = some b:=by simp [Mem.puts,Mem.put,h,hg]
theorem ps0:(M.puts ((k,b) :: B)).put k b' = M.puts ((k,b') :: B):=by
 funext i
 simp only [Mem.puts,Mem.put]
 split <;> rfl
theorem psS (h:k≠k') (hp:(M.puts B).put k b = M.puts B'):(M.puts ((k',c) :: B)).put k b = M.puts ((k',c) :: B'):=by
 simp only [Mem.puts]
 rw [← hp]
 funext i
 simp only [Mem.put]
 by_cases h1:i = k
 ·subst h1; simp [h]
 ·simp [h1]
def Qbhp (M:Mem):List (Nat×Bx)→Prop
 | []=>True
 | (k,b) :: l=>M k = some b∧Qbhp M l
theorem Qbc2:∀ {B:List (Nat×Bx)},Qbhp M B→M.puts B = M
 | [],_=>rfl
 | (k,b) :: l,h=>by
  rw [Mem.puts,Qbc2 h.2]
  funext i
  simp only [Mem.put]
  split
  ·rename_i e; subst e; exact h.1.symm
  ·rfl
def Qbjt (n:Nat):List (Nat×Bx)→Prop
 | []=>True
 | (k,_) :: l=>k < n∧Qbjt n l
theorem Qbks {n0:Nat} (hM:∀ k,n0≤k→M k = none):∀ {B:List (Nat×Bx)},Qbjt n0 B→∀ k,n0≤k→M.puts B k = none
 | [],_,k,hk=>hM k hk
 | (j,b) :: l,h,k,hk=>by
  have h1:k≠j:=by have:=h.1; omega
  simp only [Mem.puts,Mem.put,h1,if_false]
  exact Qbks hM h.2 k hk
theorem There.puts:∀ {B:List (Nat×Bx)} {k:Nat},There M k→There (M.puts B) k
 | [],_,h=>h
 | _ :: l,_,h=>There.put (There.puts (B:=l) h)
variable {Γ:Env} {pc d nb:Nat} {os:List COp} {E:List (Nat×V)} {L L' : List (Nat×Bx)} {Q:St→Prop} {gd:Option (Nat×Bool)} {x y:Arg}
theorem Tr.puts {cc:CC} {s:Sl} {Q:Ex→St→Prop} (B:List (Nat×Bx)) (h:Qbhp M0 B) (k:Tr Γ cc ⟨s,Qo Γ.n0 L (M0.puts B),nb⟩ Q):Tr Γ cc ⟨s,Qo Γ.n0 L M0,nb⟩ Q:=by
 rw [Qbc2 h] at k; exact k
theorem Rn.storeB {k off n:Nat} {v:V} {cs cs' : List V} (hw:Wn E gd) (ha:x.val (look E) = .ptr k off) (hb:(y.val (look E)).dem = v) (hv:Qeb v = true) (hk:k < Γ.n0) (hl:v.lt Γ.n0 = true) (hM:M1 k = some (.cells cs))
  (hn:(Nat.beq v.cells.length n && Nat.ble (off + n) cs.length) = true) (hcs:cs.take off ++ v.cells ++ cs.drop (off + n) = cs') (hp:M1.put k (.cells cs') = M2)
  (h:Rn Γ pc os ⟨look E,Qo Γ.n0 L M2,nb⟩ Q):Rn Γ pc (⟨none,.store n,[x,y],false,gd⟩ :: os) ⟨look E,Qo Γ.n0 L M1,nb⟩ Q:=by
 simp only [Bool.and_eq_true] at hn
 have h1:v.cells.length = n:=Nat.eq_of_beq_eq_true hn.1
 have h2:=Nat.le_of_ble_eq_true hn.2
 have hf:v.dem = v:=by rw [← hb]; exact Qdk _
 have ht:v.topS = v:=Q78 hf
 refine Rn.kS (v:=.und) hw ?_ (fun _=>rfl) h
 simp only [Bool.false_eq_true,if_false,List.map_cons,List.map_nil,V.dems,ha,V.dem,hb]
 simp only [Qn]
 cases v <;> first
  | (simp [Qeb] at hv; done)
  | (simp only [Qbd4 hk hM,ht,h1,h2,decide_true,Bool.true_and,hl,Bool.or_true,if_true]; rw [hcs,Qxv hk,hp])
theorem Rn.storeOB {k u off sz:Nat} {l:List (List D)} {cs cs' : List V} (hw:Wn E gd) (ha:x.val (look E) = .ptr k off) (hb:look E u = .own sz l) (hk:k < Γ.n0) (hM:M1 k = some (.cells cs))
  (hn:Nat.ble (off + 1) cs.length = true) (hcs:cs.take off ++ [.own sz l] ++ cs.drop (off + 1) = cs') (hp:M1.put k (.cells cs') = M2)
  (h:Rn Γ pc os ⟨look ((u,.d (.lst sz l)) :: E),Qo Γ.n0 L M2,nb⟩ Q):Rn Γ pc (⟨none,.store 1,[x,.t u],true,gd⟩ :: os) ⟨look E,Qo Γ.n0 L M1,nb⟩ Q:=by
 have h2:=Nat.le_of_ble_eq_true hn
 have hm:[x,Arg.t u].map (fun x=>x.val (look E)) = [V.ptr k off,.own sz l]:=by simp only [List.map_cons,List.map_nil,ha]; rw [show (Arg.t u).val (look E) = _ from hb]
 refine Rn.kS (v:=.und) hw ?_ (fun i=>?_) h
 ·simp only [if_true,hm]
  simp only [Qn,Qbd4 hk hM,V.topS,V.cells,List.length_cons,List.length_nil,h2,decide_true,Bool.true_and,V.lt,Bool.or_true,if_true]
  rw [hcs,Qxv hk,hp]
 ·simp only [if_true,hm,Qbu,Q0,V.dem]
  have:x.putTo (look E) (.ptr k off) = look E:=by
   cases x with
   | c v=>rfl
   | t j =>
    simp only [Arg.val] at ha
    funext i; simp only [Arg.putTo,Sl.put]; split
    ·rename_i e; subst e; exact ha.symm
    ·rfl
  rw [this,show (Arg.t u).putTo (look E) (.d (.lst sz l)) = (look E).put u (.d (.lst sz l)) from rfl,Qdc]
theorem Rn.loadTB {k off sz:Nat} {l:List (List D)} {cs cs' : List V} (hw:Wn E gd) (ha:x.val (look E) = .ptr k off) (hk:k < Γ.n0) (hM:M1 k = some (.cells cs)) (hx:cs[off]? = some (.own sz l)) (hcs:cs.set off (.d (.lst sz l)) = cs') (hp:M1.put k (.cells cs') = M2)
  (h:Rn Γ pc os ⟨look ((d,.own sz l) :: E),Qo Γ.n0 L M2,nb⟩ Q):Rn Γ pc (⟨some d,.loadT,[x],false,gd⟩ :: os) ⟨look E,Qo Γ.n0 L M1,nb⟩ Q:=by
 refine Rn.k hw rfl rfl ?_ h
 simp only [List.map_cons,List.map_nil,V.dems,ha,V.dem,Qn,Qbd4 hk hM,hx,Option.map_some,V.top]
 rw [hcs,Qxv hk,hp]
theorem Rn.storeAB {α:Type} {g:α→List V} {xs ys:List α} {sz k:Nat} {i:Int} {z:α} {v:V} (hg:∀ x,(g x).length = sz) (hw:Wn E gd) (ha:x.val (look E) = .ptr k (0 + i.toNat * sz)) (hb:(y.val (look E)).dem = v) (hv:Qeb v = true) (hk:k < Γ.n0) (hl:v.lt Γ.n0 = true) (hM:M1 k = some (.cells (Qz g xs))) (hc:v.cells = g z)
  (hx:setO xs i z = some ys) (hp:M1.put k (.cells (Qz g ys)) = M2) (h:Rn Γ pc os ⟨look E,Qo Γ.n0 L M2,nb⟩ Q):Rn Γ pc (⟨none,.store sz,[x,y],false,gd⟩ :: os) ⟨look E,Qo Γ.n0 L M1,nb⟩ Q:=by
 unfold setO at hx
 split at hx <;> cases hx
 rename_i hi
 have hl2:=Qtt hg xs
 have hb2:i.toNat * sz + sz≤xs.length * sz:=by
  rw [show i.toNat * sz + sz = (i.toNat + 1) * sz from by rw [Nat.add_mul,Nat.one_mul]]
  exact Nat.mul_le_mul_right _ hi.2
 refine Rn.storeB (cs':=Qz g (xs.set i.toNat z)) hw ha hb hv hk hl hM ?_ ?_ hp h
 ·rw [hc,hg,hl2]
  simp only [Bool.and_eq_true]
  exact ⟨by simp,Nat.ble_eq_true_of_le (by omega)⟩
 ·rw [hc,Nat.zero_add]; exact Qbcw hg z hi.2
def OkB (n0:Nat):List (Nat×Bx)→Prop
 | []=>True
 | (k,.cells cs) :: l=>(n0≤k∨V.lt.go n0 cs = true)∧OkB n0 l
 | (k,.mp ..) :: l=>OkB n0 l
theorem OkB.at {n0:Nat} {M:Mem}:∀ {B:List (Nat×Bx)},OkB n0 B→∀ k cs,k < n0→M.puts B k = some (.cells cs)→M.puts B k = M k∨V.lt.go n0 cs = true
 | [],_,_,_,_,_=>.inl rfl
 | (j,.cells ds) :: l,h,k,cs,hk,hg=>by
  by_cases e:k = j
  ·subst e
   simp only [Mem.puts,Mem.put,if_true,Option.some.injEq,Bx.cells.injEq] at hg
   subst hg
   rcases h.1 with h1 | h1
   ·omega
   ·exact .inr h1
  ·simp only [Mem.puts,Mem.put,e,if_false] at hg ⊢
   exact OkB.at h.2 k cs hk hg
 | (j,.mp ..) :: l,h,k,cs,hk,hg=>by
  by_cases e:k = j
  ·subst e
   simp only [Mem.puts,Mem.put,if_true] at hg
   cases hg
  ·simp only [Mem.puts,Mem.put,e,if_false] at hg ⊢
   exact OkB.at (B:=l) h k cs hk hg
theorem Rn.storeV {t u off:Nat} {v:V} {cs cs' : List V} (hw:Wn E gd) (ha:x.val (look E) = .ptr (Γ.n0 + t) off) (hb:look E u = v) (hv:Qeb v = true) (hf:v.topS = v) (hf2:v.dem = v) (hM:Qcg L t = some (.cells cs))
  (hn:(Nat.beq v.cells.length 1 && Nat.ble (off + 1) cs.length) = true) (hcs:cs.take off ++ v.cells ++ cs.drop (off + 1) = cs')
  (h:Rn Γ pc os ⟨look E,Qo Γ.n0 ((t,.cells cs') :: L) M0,nb⟩ Q):Rn Γ pc (⟨none,.store 1,[x,.t u],true,gd⟩ :: os) ⟨look E,Qo Γ.n0 L M0,nb⟩ Q:=by
 simp only [Bool.and_eq_true] at hn
 have h1:v.cells.length = 1:=Nat.eq_of_beq_eq_true hn.1
 have h2:=Nat.le_of_ble_eq_true hn.2
 have hm:[x,Arg.t u].map (fun x=>x.val (look E)) = [V.ptr (Γ.n0 + t) off,v]:=by simp only [List.map_cons,List.map_nil,ha]; rw [show (Arg.t u).val (look E) = _ from hb]
 refine Rn.kS (v:=.und) hw ?_ (fun i=>?_) h
 ·simp only [if_true,hm]
  simp only [Qn]
  cases v <;> first
   | (simp [Qeb] at hv; done)
   | (simp only [Qk hM,hf,h1,h2,decide_true,Bool.true_and,Nat.le_add_right,Bool.true_or,if_true]; rw [hcs,Qe3])
 ·simp only [if_true,hm,Qbu,Q0,hf2]
  have:x.putTo (look E) (.ptr (Γ.n0 + t) off) = look E:=by
   cases x with
   | c v=>rfl
   | t j =>
    simp only [Arg.val] at ha
    funext i; simp only [Arg.putTo,Sl.put]; split
    ·rename_i e; subst e; exact ha.symm
    ·rfl
  have h3:(look E).put u v = look E:=by
   funext i; simp only [Sl.put]; split
   ·rename_i e; subst e; exact hb.symm
   ·rfl
  rw [this,show (Arg.t u).putTo (look E) v = (look E).put u v from rfl,h3]
def argE:List Arg→List V→List (Nat×V)→List (Nat×V)
 | .t i :: as,v :: vs,E=>argE as vs ((i,v) :: E)
 | .c _ :: as,_ :: vs,E=>argE as vs E
 | _,_,E=>E
theorem Q03:∀ (as:List Arg) (vs:List V) (E:List (Nat×V)),Q0 (look E) as vs = look (argE as vs E)
 | [],vs,E=>by cases vs <;> rfl
 | a :: as,[],E=>by cases a <;> rfl
 | .t i :: as,v :: vs,E=>by
  simp only [Q0,argE]
  rw [show (Arg.t i).putTo (look E) v = (look E).put i v from rfl,Qdc]
  exact Q03 as vs _
 | .c _ :: as,v :: vs,E=>by
  simp only [Q0,argE]
  exact Q03 as vs E
theorem Rn.buildT {as:List Arg} {z:List V} {ps:List (Nat×Nat)} {v:V} (hw:Wn E gd) (hk:Qn Γ.n0 (Γ.n0 + d) (.build z ps) (as.map (·.val (look E))) M = some (v,M))
  (h:Rn Γ pc os ⟨look ((d,v) :: argE as (V.dems (as.map (·.val (look E)))) E),M,nb⟩ Q):Rn Γ pc (⟨some d,.build z ps,as,true,gd⟩ :: os) ⟨look E,M,nb⟩ Q:=by
 refine Rn.kT hw rfl rfl hk (fun i=>?_) h
 rw [show Qbu (.build z ps) (as.map (·.val (look E))) = V.dems (as.map (·.val (look E))) from by cases as <;> rfl,Q03,Qdc]
theorem Rn.storeT {t u off n:Nat} {v:V} {ds cs cs' : List V} (hw:Wn E gd) (ha:x.val (look E) = .ptr (Γ.n0 + t) off) (hb:look E u = v) (hv:Qeb v = true) (hds:v.topS.cells = ds) (hM:Qcg L t = some (.cells cs))
  (hn:(Nat.beq ds.length n && Nat.ble (off + n) cs.length) = true) (hcs:cs.take off ++ ds ++ cs.drop (off + n) = cs')
  (h:Rn Γ pc os ⟨look ((u,v.dem) :: E),Qo Γ.n0 ((t,.cells cs') :: L) M0,nb⟩ Q):Rn Γ pc (⟨none,.store n,[x,.t u],true,gd⟩ :: os) ⟨look E,Qo Γ.n0 L M0,nb⟩ Q:=by
 simp only [Bool.and_eq_true] at hn
 have h1:v.topS.cells.length = n:=by rw [hds]; exact Nat.eq_of_beq_eq_true hn.1
 have h2:=Nat.le_of_ble_eq_true hn.2
 have hm:[x,Arg.t u].map (fun x=>x.val (look E)) = [V.ptr (Γ.n0 + t) off,v]:=by simp only [List.map_cons,List.map_nil,ha]; rw [show (Arg.t u).val (look E) = _ from hb]
 refine Rn.kS (v:=.und) hw ?_ (fun i=>?_) h
 ·simp only [if_true,hm]
  simp only [Qn]
  cases v <;> first
   | (simp [Qeb] at hv; done)
   | (simp only [Qk hM,h1,h2,decide_true,Bool.true_and,Nat.le_add_right,Bool.true_or,if_true]; rw [hds,hcs,Qe3])
 ·simp only [if_true,hm,Qbu,Q0]
  have:x.putTo (look E) (.ptr (Γ.n0 + t) off) = look E:=by
   cases x with
   | c v=>rfl
   | t j =>
    simp only [Arg.val] at ha
    funext i; simp only [Arg.putTo,Sl.put]; split
    ·rename_i e; subst e; exact ha.symm
    ·rfl
  rw [this,show (Arg.t u).putTo (look E) v.dem = (look E).put u v.dem from rfl,Qdc]
def WkB:List (Nat×Bx)→List (Nat×Bx)→Prop
 | [],[]=>True
 | (k,.cells cs) :: B,(k',.cells cs') :: B'=>(k = k' ∧ WkVs cs cs')∧WkB B B'
 | _,_=>False
theorem WkB.at {M:Mem}:∀ {B B' : List (Nat×Bx)},WkB B B' → ∀ k,M.puts B' k = M.puts B k∨∃ cs cs',M.puts B k = some (.cells cs)∧M.puts B' k = some (.cells cs')∧WkVs cs cs'
 | [],[],_,_=>.inl rfl
 | (j,.cells cs) :: B,(j',.cells cs') :: B',h,k=>by
  obtain ⟨⟨e,hw⟩,h⟩:=h
  subst e
  by_cases hk:k = j
  ·subst hk
   exact .inr ⟨cs,cs',pg0,pg0,hw⟩
  ·simp only [Mem.puts,Mem.put,hk,if_false]
   exact WkB.at h k
 | [],_ :: _,h,_=>h.elim
 | (_,.cells _) :: _,[],h,_=>h.elim
 | (_,.mp ..) :: _,[],h,_=>h.elim
 | (_,.mp ..) :: _,_ :: _,h,_=>h.elim
 | (_,.cells _) :: _,(_,.mp ..) :: _,h,_=>h.elim
def FinW (rs:List Res) (r:V) (n0:Nat) (M1:Mem):Ex→St→Prop:=fun e σ =>
 (e = .norm∨e = .ret)∧∃ r',Qvp σ rs = some r' ∧ Wk r' r∧r.on (There M1)∧∀ k,k < n0→σ.M k = M1 k
theorem Qbl0 {P:Program} {f:FuncId} {cf:CFn} (hcf:Qx P f = some cf) {args:List V} {r:V} (hargs:Nat.beq args.length cf.np = true) (M M1:Mem) (nb:Nat) (hM1:(∀ k,nb≤k→M k = none)→∀ k,nb≤k→M1 k = none)
  (hrun:∀ (Γ:Env),Γ.P = P→Γ.nt = cf.nt→Γ.n0 = nb→(∀ k,Γ.n0≤k→M k = none)→Tr Γ cf.body ⟨Qtf args,Qo Γ.n0 [] M,Γ.n0 + cf.nt⟩ (FinW cf.res r Γ.n0 M1)):ACalls P f args M nb r M1 nb:=by
 by_cases hM:∀ k,nb≤k→M k = none
 case neg=>exact Q2s (Qjj hcf) (Nat.le_refl _) hM
 have hM1:=hM1 hM
 have hlt:∀ k,There M1 k→k < nb:=fun k hk=>by
  rcases Nat.lt_or_ge k nb with h | h
  ·exact h
  ·simp [There,hM1 k h] at hk
 refine Qbjn hcf hM (Nat.eq_of_beq_eq_true hargs) (Nat.le_refl _) fun Γ hP hn ht=>?_
 have h:=hrun Γ hP ht hn (by rw [hn]; exact hM)
 rw [Q5m (by rw [hn]; exact hM),hn] at h
 refine h.mono ?_
 rintro e σ' ⟨he,r',h1,h2,h3,h4⟩
 refine ⟨he,r',h1,h2,fun k b hk=>?_,fun _ hons _=>⟨h3,fun k cs hk=>?_,hlt⟩⟩
 ·rw [h4 k (hlt k (by simp [There,hk]))]; exact hk
 ·have hk':=hlt k (by simp [There,hk])
  have h5:=(hons k cs (by rw [h4 k hk']; exact hk)).1
  have h6:=(hons k cs (by rw [h4 k hk']; exact hk)).2 hk'
  refine ons_mono (fun j hj=>?_) cs (ons_and cs h5 h6)
  have:=hj.1
  simp only [There] at this ⊢
  rwa [h4 j hj.2] at this
theorem res0 {σ:St}:Qvp σ [] = some (.tup []):=rfl
end Go.Abs
end
section
namespace Go.Abs
open Go
theorem Qbhq {α:Type} {e:α→List D} {g:α→List V} (hg:∀ x,g x = (e x).map V.d):∀ xs:List α,Qgv (List.map e xs) 0 = Qz g xs
 | []=>rfl
 | x :: xs=>by
  have:=Qbhq hg xs
  unfold Qgv at this ⊢
  rw [Qgf,← this,hg]
  simp
theorem Qbhr {α:Type} {e:α→List D} {g:α→List V} {sz:Nat} {P:Program} {c:Nat} {ex:List V} {xs ys:List α} (hg:∀ x,g x = (e x).map V.d)
  (hr:xs.length≤maxLen→∀ cap k0 M nb,M k0 = some (.cells (Qgv (List.map e xs) ((cap - xs.length) * sz)))→ACalls P c (.sl sz k0 0 xs.length cap :: ex) M nb (.tup []) (M.put k0 (.cells (Qgv (List.map e ys) ((cap - xs.length) * sz)))) nb)
  (hl:xs.length≤maxLen) {k nb:Nat} {M:Mem} (hM:M k = some (.cells (Qz g xs))):ACalls P c (.sl sz k 0 xs.length xs.length :: ex) M nb (.tup []) (M.put k (.cells (Qz g ys))) nb:=by
 have h:=hr hl xs.length k M nb
 rw [Nat.sub_self,Nat.zero_mul,Qbhq hg,Qbhq hg] at h
 exact h hM
end Go.Abs
end
section
namespace Go.Abs
open Go
set_option maxRecDepth 10000
set_option maxHeartbeats 4000000
structure Qc where
  From:Int
  Event:Int
  To:Int
  deriving DecidableEq
def Qa (x:Qc):List D:=[.int .i64 x.From,.int .i64 x.Event,.int .i64 x.To]
abbrev Qba (x:Qc):List V:=[(i_ x.From),(i_ x.Event),(i_ x.To)]
abbrev Qca (x:Qc):V:=.agg (Qba x)
structure Qe where
  zJ:List Int
  zM:Int
  zK:List Int
  zL:List Qc
  deriving DecidableEq
def Qbhs (x:Qe):List D:=[.lst 1 (List.map (eI .i64) x.zJ),.int .i64 x.zM,.lst 1 (List.map (eI .i64) x.zK),.lst 3 (List.map Qa x.zL)]
abbrev Qr (x:Qe):List V:=[(l_ x.zJ),(i_ x.zM),(l_ x.zK),.d (.lst 3 (List.map Qa x.zL))]
abbrev Qm (x:Qe):V:=.agg (Qr x)
structure Qb where
  zA:Qe
  zC:List Int
  zB:List Int
  zD:List Int
  Tick:Int
  deriving DecidableEq
def Qbaj (x:Qb):List D:=[.lst 1 (List.map (eI .i64) x.zA.zJ),.int .i64 x.zA.zM,.lst 1 (List.map (eI .i64) x.zA.zK),.lst 3 (List.map Qa x.zA.zL),.lst 1 (List.map (eI .i64) x.zC),.lst 1 (List.map (eI .i64) x.zB),.lst 1 (List.map (eI .i64) x.zD),.int .i64 x.Tick]
abbrev Qvt (x:Qb):List V:=[(l_ x.zA.zJ),(i_ x.zA.zM),(l_ x.zA.zK),.d (.lst 3 (List.map Qa x.zA.zL)),(l_ x.zC),(l_ x.zB),(l_ x.zD),(i_ x.Tick)]
abbrev Qbak (x:Qb):V:=.agg (Qvt x)
structure Qf where
  zN:Qb
  from_:List (List Qc)
  left_:List Bool
  deriving DecidableEq
structure Qd where
  State:Int
  Rank:Int
  Reason:Int
  Event:Int
  deriving DecidableEq
def Qg (x:Qd):List D:=[.int .i64 x.State,.int .i64 x.Rank,.int .i64 x.Reason,.int .i64 x.Event]
abbrev Qk5 (x:Qd):List V:=[(i_ x.State),(i_ x.Rank),(i_ x.Reason),(i_ x.Event)]
abbrev Qk6 (x:Qd):V:=.agg (Qk5 x)
structure Qgg where
  Kept:List Int
  zF:List Int
  zG:List Qd
  deriving DecidableEq
def Qbfx (x:Qgg):List D:=[.lst 1 (List.map (eI .i64) x.Kept),.lst 1 (List.map (eI .i64) x.zF),.lst 4 (List.map Qg x.zG)]
abbrev Q6z (x:Qgg):List V:=[(l_ x.Kept),(l_ x.zF),.d (.lst 4 (List.map Qg x.zG))]
abbrev Qbfy (x:Qgg):V:=.agg (Q6z x)
structure Qbm where
  zE:Qgg
  Rounds:Int
  zH:Qe
  zO:List Int
  zI:List Int
  deriving DecidableEq
def Qbbr (x:Qbm):List D:=[.lst 1 (List.map (eI .i64) x.zE.Kept),.lst 1 (List.map (eI .i64) x.zE.zF),.lst 4 (List.map Qg x.zE.zG),.int .i64 x.Rounds,.lst 1 (List.map (eI .i64) x.zH.zJ),.int .i64 x.zH.zM,.lst 1 (List.map (eI .i64) x.zH.zK),.lst 3 (List.map Qa x.zH.zL),.lst 1 (List.map (eI .i64) x.zO),.lst 1 (List.map (eI .i64) x.zI)]
abbrev Qxw (x:Qbm):List V:=[(l_ x.zE.Kept),(l_ x.zE.zF),.d (.lst 4 (List.map Qg x.zE.zG)),(i_ x.Rounds),(l_ x.zH.zJ),(i_ x.zH.zM),(l_ x.zH.zK),.d (.lst 3 (List.map Qa x.zH.zL)),(l_ x.zO),(l_ x.zI)]
abbrev Qbbs (x:Qbm):V:=.agg (Qxw x)
structure Qbh where
  zM:Int
  Marks:Int
  To:(Int×Int×Int×Int×Int)×(Int×Int×Int×Int×Int)×(Int×Int×Int×Int×Int)×(Int×Int×Int×Int×Int)×(Int×Int×Int×Int×Int)
def Qnd (x:Qbh):List D:=[.int .u8 x.zM,.int .u8 x.Marks,.int .u8 x.To.1.1,.int .u8 x.To.1.2.1,.int .u8 x.To.1.2.2.1,.int .u8 x.To.1.2.2.2.1,.int .u8 x.To.1.2.2.2.2,.int .u8 x.To.2.1.1,.int .u8 x.To.2.1.2.1,.int .u8 x.To.2.1.2.2.1,.int .u8 x.To.2.1.2.2.2.1,.int .u8 x.To.2.1.2.2.2.2,.int .u8 x.To.2.2.1.1,.int .u8 x.To.2.2.1.2.1,.int .u8 x.To.2.2.1.2.2.1,.int .u8 x.To.2.2.1.2.2.2.1,.int .u8 x.To.2.2.1.2.2.2.2,.int .u8 x.To.2.2.2.1.1,.int .u8 x.To.2.2.2.1.2.1,.int .u8 x.To.2.2.2.1.2.2.1,.int .u8 x.To.2.2.2.1.2.2.2.1,.int .u8 x.To.2.2.2.1.2.2.2.2,.int .u8 x.To.2.2.2.2.1,.int .u8 x.To.2.2.2.2.2.1,.int .u8 x.To.2.2.2.2.2.2.1,.int .u8 x.To.2.2.2.2.2.2.2.1,.int .u8 x.To.2.2.2.2.2.2.2.2]
abbrev Q04 (x:Qbh):List V:=[.d (.int .u8 x.zM),.d (.int .u8 x.Marks),.d (.int .u8 x.To.1.1),.d (.int .u8 x.To.1.2.1),.d (.int .u8 x.To.1.2.2.1),.d (.int .u8 x.To.1.2.2.2.1),.d (.int .u8 x.To.1.2.2.2.2),.d (.int .u8 x.To.2.1.1),.d (.int .u8 x.To.2.1.2.1),.d (.int .u8 x.To.2.1.2.2.1),.d (.int .u8 x.To.2.1.2.2.2.1),.d (.int .u8 x.To.2.1.2.2.2.2),.d (.int .u8 x.To.2.2.1.1),.d (.int .u8 x.To.2.2.1.2.1),.d (.int .u8 x.To.2.2.1.2.2.1),.d (.int .u8 x.To.2.2.1.2.2.2.1),.d (.int .u8 x.To.2.2.1.2.2.2.2),.d (.int .u8 x.To.2.2.2.1.1),.d (.int .u8 x.To.2.2.2.1.2.1),.d (.int .u8 x.To.2.2.2.1.2.2.1),.d (.int .u8 x.To.2.2.2.1.2.2.2.1),.d (.int .u8 x.To.2.2.2.1.2.2.2.2),.d (.int .u8 x.To.2.2.2.2.1),.d (.int .u8 x.To.2.2.2.2.2.1),.d (.int .u8 x.To.2.2.2.2.2.2.1),.d (.int .u8 x.To.2.2.2.2.2.2.2.1),.d (.int .u8 x.To.2.2.2.2.2.2.2.2)]
abbrev Qbc3 (x:Qbh):V:=.agg (Q04 x)
structure Qem where
  Events:Int
  Graph:Qbh
def Qqg (x:Qem):List D:=[.int .u8 x.Events,.int .u8 x.Graph.zM,.int .u8 x.Graph.Marks,.int .u8 x.Graph.To.1.1,.int .u8 x.Graph.To.1.2.1,.int .u8 x.Graph.To.1.2.2.1,.int .u8 x.Graph.To.1.2.2.2.1,.int .u8 x.Graph.To.1.2.2.2.2,.int .u8 x.Graph.To.2.1.1,.int .u8 x.Graph.To.2.1.2.1,.int .u8 x.Graph.To.2.1.2.2.1,.int .u8 x.Graph.To.2.1.2.2.2.1,.int .u8 x.Graph.To.2.1.2.2.2.2,.int .u8 x.Graph.To.2.2.1.1,.int .u8 x.Graph.To.2.2.1.2.1,.int .u8 x.Graph.To.2.2.1.2.2.1,.int .u8 x.Graph.To.2.2.1.2.2.2.1,.int .u8 x.Graph.To.2.2.1.2.2.2.2,.int .u8 x.Graph.To.2.2.2.1.1,.int .u8 x.Graph.To.2.2.2.1.2.1,.int .u8 x.Graph.To.2.2.2.1.2.2.1,.int .u8 x.Graph.To.2.2.2.1.2.2.2.1,.int .u8 x.Graph.To.2.2.2.1.2.2.2.2,.int .u8 x.Graph.To.2.2.2.2.1,.int .u8 x.Graph.To.2.2.2.2.2.1,.int .u8 x.Graph.To.2.2.2.2.2.2.1,.int .u8 x.Graph.To.2.2.2.2.2.2.2.1,.int .u8 x.Graph.To.2.2.2.2.2.2.2.2]
abbrev Q2z (x:Qem):List V:=[.d (.int .u8 x.Events),.d (.int .u8 x.Graph.zM),.d (.int .u8 x.Graph.Marks),.d (.int .u8 x.Graph.To.1.1),.d (.int .u8 x.Graph.To.1.2.1),.d (.int .u8 x.Graph.To.1.2.2.1),.d (.int .u8 x.Graph.To.1.2.2.2.1),.d (.int .u8 x.Graph.To.1.2.2.2.2),.d (.int .u8 x.Graph.To.2.1.1),.d (.int .u8 x.Graph.To.2.1.2.1),.d (.int .u8 x.Graph.To.2.1.2.2.1),.d (.int .u8 x.Graph.To.2.1.2.2.2.1),.d (.int .u8 x.Graph.To.2.1.2.2.2.2),.d (.int .u8 x.Graph.To.2.2.1.1),.d (.int .u8 x.Graph.To.2.2.1.2.1),.d (.int .u8 x.Graph.To.2.2.1.2.2.1),.d (.int .u8 x.Graph.To.2.2.1.2.2.2.1),.d (.int .u8 x.Graph.To.2.2.1.2.2.2.2),.d (.int .u8 x.Graph.To.2.2.2.1.1),.d (.int .u8 x.Graph.To.2.2.2.1.2.1),.d (.int .u8 x.Graph.To.2.2.2.1.2.2.1),.d (.int .u8 x.Graph.To.2.2.2.1.2.2.2.1),.d (.int .u8 x.Graph.To.2.2.2.1.2.2.2.2),.d (.int .u8 x.Graph.To.2.2.2.2.1),.d (.int .u8 x.Graph.To.2.2.2.2.2.1),.d (.int .u8 x.Graph.To.2.2.2.2.2.2.1),.d (.int .u8 x.Graph.To.2.2.2.2.2.2.2.1),.d (.int .u8 x.Graph.To.2.2.2.2.2.2.2.2)]
abbrev Qbdo (x:Qem):V:=.agg (Q2z x)
structure Q2 where
  Part:Qem
  zC:Int
  zB:Int
  zD:Int
def Qmi (x:Q2):List D:=[.int .u8 x.Part.Events,.int .u8 x.Part.Graph.zM,.int .u8 x.Part.Graph.Marks,.int .u8 x.Part.Graph.To.1.1,.int .u8 x.Part.Graph.To.1.2.1,.int .u8 x.Part.Graph.To.1.2.2.1,.int .u8 x.Part.Graph.To.1.2.2.2.1,.int .u8 x.Part.Graph.To.1.2.2.2.2,.int .u8 x.Part.Graph.To.2.1.1,.int .u8 x.Part.Graph.To.2.1.2.1,.int .u8 x.Part.Graph.To.2.1.2.2.1,.int .u8 x.Part.Graph.To.2.1.2.2.2.1,.int .u8 x.Part.Graph.To.2.1.2.2.2.2,.int .u8 x.Part.Graph.To.2.2.1.1,.int .u8 x.Part.Graph.To.2.2.1.2.1,.int .u8 x.Part.Graph.To.2.2.1.2.2.1,.int .u8 x.Part.Graph.To.2.2.1.2.2.2.1,.int .u8 x.Part.Graph.To.2.2.1.2.2.2.2,.int .u8 x.Part.Graph.To.2.2.2.1.1,.int .u8 x.Part.Graph.To.2.2.2.1.2.1,.int .u8 x.Part.Graph.To.2.2.2.1.2.2.1,.int .u8 x.Part.Graph.To.2.2.2.1.2.2.2.1,.int .u8 x.Part.Graph.To.2.2.2.1.2.2.2.2,.int .u8 x.Part.Graph.To.2.2.2.2.1,.int .u8 x.Part.Graph.To.2.2.2.2.2.1,.int .u8 x.Part.Graph.To.2.2.2.2.2.2.1,.int .u8 x.Part.Graph.To.2.2.2.2.2.2.2.1,.int .u8 x.Part.Graph.To.2.2.2.2.2.2.2.2,.int .u8 x.zC,.int .u8 x.zB,.int .u8 x.zD]
abbrev Qzc (x:Q2):List V:=[.d (.int .u8 x.Part.Events),.d (.int .u8 x.Part.Graph.zM),.d (.int .u8 x.Part.Graph.Marks),.d (.int .u8 x.Part.Graph.To.1.1),.d (.int .u8 x.Part.Graph.To.1.2.1),.d (.int .u8 x.Part.Graph.To.1.2.2.1),.d (.int .u8 x.Part.Graph.To.1.2.2.2.1),.d (.int .u8 x.Part.Graph.To.1.2.2.2.2),.d (.int .u8 x.Part.Graph.To.2.1.1),.d (.int .u8 x.Part.Graph.To.2.1.2.1),.d (.int .u8 x.Part.Graph.To.2.1.2.2.1),.d (.int .u8 x.Part.Graph.To.2.1.2.2.2.1),.d (.int .u8 x.Part.Graph.To.2.1.2.2.2.2),.d (.int .u8 x.Part.Graph.To.2.2.1.1),.d (.int .u8 x.Part.Graph.To.2.2.1.2.1),.d (.int .u8 x.Part.Graph.To.2.2.1.2.2.1),.d (.int .u8 x.Part.Graph.To.2.2.1.2.2.2.1),.d (.int .u8 x.Part.Graph.To.2.2.1.2.2.2.2),.d (.int .u8 x.Part.Graph.To.2.2.2.1.1),.d (.int .u8 x.Part.Graph.To.2.2.2.1.2.1),.d (.int .u8 x.Part.Graph.To.2.2.2.1.2.2.1),.d (.int .u8 x.Part.Graph.To.2.2.2.1.2.2.2.1),.d (.int .u8 x.Part.Graph.To.2.2.2.1.2.2.2.2),.d (.int .u8 x.Part.Graph.To.2.2.2.2.1),.d (.int .u8 x.Part.Graph.To.2.2.2.2.2.1),.d (.int .u8 x.Part.Graph.To.2.2.2.2.2.2.1),.d (.int .u8 x.Part.Graph.To.2.2.2.2.2.2.2.1),.d (.int .u8 x.Part.Graph.To.2.2.2.2.2.2.2.2),.d (.int .u8 x.zC),.d (.int .u8 x.zB),.d (.int .u8 x.zD)]
abbrev Qbb4 (x:Q2):V:=.agg (Qzc x)
structure Qbi where
  p_:Qb
  rank_:List Int
  removals_:List Qd
  rounds_:Int
  deriving DecidableEq
end Go.Abs
end
section
namespace Go.Abs
open Go
set_option maxRecDepth 10000
set_option maxHeartbeats 4000000
def Qib (P:Program) (c:Nat) (f:(List Int)→Option Qb):Prop:=∀ forcible1 r,f forcible1 = some r→∀ M nb,ACalls P c [(l_ forcible1)] M nb (.agg [(l_ r.zA.zJ),(i_ r.zA.zM),(l_ r.zA.zK),.d (.lst 3 (List.map Qa r.zA.zL)),(l_ r.zC),.nils 1,(l_ r.zD),(i_ r.Tick)]) M nb
def Qxx:List COp:=[oo 2 (.alloc [.nils 1,.d (.int .i64 0),.nils 1,.nils 3,.nils 1,.nils 1,.nils 1,.d (.int .i64 0)]) []]
def Qxy:List COp:=[oo 3 (.bslice 1 2 [.d (.int .i64 0)] [0,1]) [cI 0,cI 2],oo 4 (.bslice 1 1 [.d (.int .i64 0)] [0]) [cI 0],oo 5 (.build [.d (.int .i64 0),.d (.int .i64 0),.d (.int .i64 0)] [(0,1),(1,1),(2,1)]) [cI 0,cI 0,cI 0],oo 6 (.build [.d (.int .i64 0),.d (.int .i64 0),.d (.int .i64 0)] [(0,1),(1,1),(2,1)]) [cI 0,cI 2,cI 1],oo 7 (.bslice 3 2 [.d (.int .i64 0),.d (.int .i64 0),.d (.int .i64 0)] [0,1]) [.t 5,.t 6],ot 8 (.build [.nils 1,.d (.int .i64 0),.nils 1,.nils 3] [(0,1),(1,1),(2,1),(3,1)]) [.t 3,cI 2,.t 4,.t 7],oo 9 (.bslice 1 1 [.d (.int .i64 0)] [0]) [cI 1],oM 10 0,ot 11 (.build [.nils 1,.d (.int .i64 0),.nils 1,.nils 3,.nils 1,.nils 1,.nils 1,.d (.int .i64 0)] [(0,4),(4,1),(6,1),(7,1)]) [.t 8,.t 9,.t 10,cI 2],⟨none,.store 8,[.t 2,.t 11],true,none⟩]
def Qic:CFn:=⟨1,12,[.cell 2 true 8],.seq (.region Qxx 9 []) (.seq (.region Qxy 9 []) (.ret))⟩
def Qb5 (forcible1:(List Int)):Option Qb :=
  some (Qb.mk (Qe.mk [0,2] 2 [0] [(Qc.mk 0 0 0),(Qc.mk 0 2 1)]) [1] [] forcible1 2)
def Qiy (P:Program) (c:Nat) (f:(List Int)→Int→Option Int):Prop:=∀ l1 n2 r,f l1 n2 = some r→∀ M nb,ACalls P c [(l_ l1),(i_ n2)] M nb (i_ r) M nb
def Qzd:List COp:=[oo 4 .mov [cI 0]]
def Qze:List COp:=[oM 7 0,oo 8 .len [.t 7],oo 9 .mov [cI 0]]
def Qzf:List COp:=[oo 10 (.bin .lss false) [.t 9,.t 8]]
def Qzg:List COp:=[oM 11 9,oo 12 (.idx 1) [.t 7,.t 9],oL 13 12,oM 5 11,oM 6 13]
def Qzh:List COp:=[oM 15 6,oo 16 (.bin .lss false) [.t 15,cI 0],oM 17 16,⟨some 18,.mov,[.t 6],false,some (17,false)⟩,⟨some 19,.mov,[.t 1],false,some (17,false)⟩,⟨some 20,.bin .geq false,[.t 18,.t 19],false,some (17,false)⟩,oo 21 .pick [.t 17,.c (.d (.bool true)),.t 20],oM 14 21]
def Qzi:List COp:=[oo 4 .mov [cI 2]]
def Qzj:List COp:=[oM 23 5,oo 24 (.bin .gtr false) [.t 23,cI 0],oM 25 24,⟨some 26,.mov,[.t 6],false,some (25,true)⟩,⟨some 27,.mov,[.t 0],false,some (25,true)⟩,⟨some 28,.mov,[.t 5],false,some (25,true)⟩,⟨some 29,.bin .sub false,[.t 28,cI 1],false,some (25,true)⟩,⟨some 30,.idx 1,[.t 27,.t 29],false,some (25,true)⟩,⟨some 31,.load false 1,[.t 30],false,some (25,true)⟩,⟨some 32,.bin .leq false,[.t 26,.t 31],false,some (25,true)⟩,oo 33 .pick [.t 25,.t 32,.c (.d (.bool false))],oM 22 33]
def Qzk:List COp:=[oo 4 .mov [cI 5]]
def Qzl:List COp:=[oo 34 (.bin .add false) [.t 9,cI 1],oM 9 34]
def Qzm:List COp:=[oo 4 .mov [cI 0]]
def Qiz:CFn:=⟨2,35,[.t 4],.seq (.region Qzd 9 []) (.seq (.seq (.region Qze 9 []) (.block 0 (.loop [] (.seq (.region Qzf 9 []) (.seq (.cond (.t 10) (.skip) (.exit 0)) (.seq (.block 1 (.seq (.region Qzg 9 []) (.block 2 (.seq (.region Qzh 9 []) (.cond (.t 14) (.seq (.region Qzi 9 []) (.ret)) (.seq (.region Qzj 9 []) (.cond (.t 22) (.seq (.region Qzk 9 []) (.ret)) (.skip)))))))) (.region Qzl 9 []))))))) (.seq (.region Qzm 9 []) (.ret)))⟩
def Qb3 (fuel:Nat) (l1:(List Int)) (n2:Int):Option Int :=
  Qcm (fun k4 (x3:Int)=>(if (x3 < (l1.length:Int)) then ((getO l1 x3).bind fun x6=>(((if (x6 < 0) then some true else some (decide (x6≥n2)))).bind fun (x9:Bool)=>(if x9 then some 2 else (((if (x3 > 0) then ((getO l1 (IntKind.wrap .i64 (x3 - 1))).bind fun x12=>some (decide (x6≤x12))) else some false)).bind fun (x14:Bool)=>(if x14 then some 5 else k4 (IntKind.wrap .i64 (x3 + 1))))))) else some 0)) fuel 0
def Qk7 (P:Program) (c:Nat) (f:(List Int)→Int→Option Int):Prop:=∀ s1 v2 r,f s1 v2 = some r→∀ M nb,ACalls P c [(l_ s1),(i_ v2)] M nb (i_ r) M nb
def Q20:List COp:=[oo 4 .mov [cI 0]]
def Q21:List COp:=[oM 6 0,oo 7 .len [.t 6],oo 8 .mov [cI 0]]
def Q22:List COp:=[oo 9 (.bin .lss false) [.t 8,.t 7]]
def Q23:List COp:=[oM 10 8,oM 5 10]
def Q24:List COp:=[oM 11 1,oM 12 0,oM 13 5,oo 14 (.idx 1) [.t 12,.t 13],oL 15 14,oo 16 (.bin .eql false) [.t 11,.t 15]]
def Q25:List COp:=[oM 17 5,oM 4 17]
def Q26:List COp:=[oo 18 (.bin .add false) [.t 8,cI 1],oM 8 18]
def Q27:List COp:=[oo 4 .mov [cI (-1)]]
def Qk8:CFn:=⟨2,19,[.t 4],.seq (.region Q20 9 []) (.seq (.seq (.region Q21 9 []) (.block 0 (.loop [] (.seq (.region Q22 9 []) (.seq (.cond (.t 9) (.skip) (.exit 0)) (.seq (.block 1 (.seq (.region Q23 9 []) (.seq (.region Q24 9 []) (.cond (.t 16) (.seq (.region Q25 9 []) (.ret)) (.skip))))) (.region Q26 9 []))))))) (.seq (.region Q27 9 []) (.ret)))⟩
def Qct (fuel:Nat) (s1:(List Int)) (v2:Int):Option Int :=
  Qcm (fun k4 (x3:Int)=>(if (x3 < (s1.length:Int)) then ((getO s1 x3).bind fun x6=>(if (v2 == x6) then some x3 else k4 (IntKind.wrap .i64 (x3 + 1)))) else some (-1))) fuel 0
def Qid (P:Program) (c:Nat) (f:(List Int)→Int→Option Bool):Prop:=∀ s1 v2 r,f s1 v2 = some r→∀ M nb,ACalls P c [(l_ s1),(i_ v2)] M nb (b_ r) M nb
def Qxz:List COp:=[oo 4 .mov [.c (.d (.bool false))]]
def Qx0:List COp:=[oM 5 0,oM 6 1,oo 7 (.call 116) [.t 5,.t 6],oo 8 (.bin .geq false) [.t 7,cI 0],oM 4 8]
def Qie:CFn:=⟨2,9,[.t 4],.seq (.region Qxz 9 []) (.seq (.region Qx0 9 []) (.ret))⟩
def Qb6 (Qct:(List Int)→Int→Option Int) (s1:(List Int)) (v2:Int):Option Bool :=
  ((Qct s1 v2).bind fun x4=>some (decide (x4≥0)))
def Qgw (P:Program) (c:Nat) (f:Qe→Option Int):Prop:=∀ a1 r,f a1 = some r→∀ M nb,ACalls P c [(Qm a1)] M nb (i_ r) M nb
def Qvu:List COp:=[oo 1 (.box 4) [.t 0],oo 2 .mov [cI 0]]
def Qvv:List COp:=[oF 6 3 1,oL 7 6,oo 8 .len [.t 7],oo 9 .mov [cI 0]]
def Qvw:List COp:=[oo 10 (.bin .lss false) [.t 9,.t 8]]
def Qvx:List COp:=[oM 11 9,oo 12 (.idx 3) [.t 7,.t 9],oo 13 (.load true 3) [.t 12],oo 4 (.alloc [.d (.int .i64 0),.d (.int .i64 0),.d (.int .i64 0)]) [],oM 3 11,⟨none,.store 3,[.t 4,.t 13],false,none⟩]
def Qvy:List COp:=[oF 15 0 4,oL 16 15,oo 17 (.bin .lss false) [.t 16,cI 0],oM 18 17,⟨some 19,.fld 0,[.t 4],false,some (18,false)⟩,⟨some 20,.load false 1,[.t 19],false,some (18,false)⟩,⟨some 21,.fld 1,[.t 1],false,some (18,false)⟩,⟨some 22,.load false 1,[.t 21],false,some (18,false)⟩,⟨some 23,.bin .geq false,[.t 20,.t 22],false,some (18,false)⟩,oo 24 .pick [.t 18,.c (.d (.bool true)),.t 23],oM 25 24,⟨some 26,.fld 2,[.t 4],false,some (25,false)⟩,⟨some 27,.load false 1,[.t 26],false,some (25,false)⟩,⟨some 28,.bin .lss false,[.t 27,cI 0],false,some (25,false)⟩,oo 29 .pick [.t 25,.c (.d (.bool true)),.t 28],oM 30 29,⟨some 31,.fld 2,[.t 4],false,some (30,false)⟩,⟨some 32,.load false 1,[.t 31],false,some (30,false)⟩,⟨some 33,.fld 1,[.t 1],false,some (30,false)⟩,⟨some 34,.load false 1,[.t 33],false,some (30,false)⟩,⟨some 35,.bin .geq false,[.t 32,.t 34],false,some (30,false)⟩,oo 36 .pick [.t 30,.c (.d (.bool true)),.t 35],oM 14 36]
def Qvz:List COp:=[oo 2 .mov [cI 2]]
def Qv0:List COp:=[oF 38 0 1,oL 39 38,oF 40 1 4,oL 41 40,oo 42 (.call 98) [.t 39,.t 41],oo 43 (.un .not) [.t 42],oM 37 43]
def Qv1:List COp:=[oo 2 .mov [cI 9]]
def Qv2:List COp:=[oM 44 3,oo 45 (.bin .eql false) [.t 44,cI 0]]
def Qv3:List COp:=[oF 46 3 1,oL 47 46,oM 48 3,oo 49 (.bin .sub false) [.t 48,cI 1],oo 50 (.idx 3) [.t 47,.t 49],oo 51 (.load true 3) [.t 50],oo 5 (.alloc [.d (.int .i64 0),.d (.int .i64 0),.d (.int .i64 0)]) [],⟨none,.store 3,[.t 5,.t 51],false,none⟩]
def Qt4:List COp:=[oF 52 0 4,oL 53 52,oF 54 0 5,oL 55 54,oo 56 (.bin .lss false) [.t 53,.t 55],oM 57 56,⟨some 58,.fld 0,[.t 4],false,some (57,false)⟩,⟨some 59,.load false 1,[.t 58],false,some (57,false)⟩,⟨some 60,.fld 0,[.t 5],false,some (57,false)⟩,⟨some 61,.load false 1,[.t 60],false,some (57,false)⟩,⟨some 62,.bin .eql false,[.t 59,.t 61],false,some (57,false)⟩,⟨some 63,.mov,[.t 62],false,some (57,false)⟩,⟨some 64,.fld 1,[.t 4],false,some (63,true)⟩,⟨some 65,.load false 1,[.t 64],false,some (63,true)⟩,⟨some 66,.fld 1,[.t 5],false,some (63,true)⟩,⟨some 67,.load false 1,[.t 66],false,some (63,true)⟩,⟨some 68,.bin .leq false,[.t 65,.t 67],false,some (63,true)⟩,⟨some 69,.pick,[.t 63,.t 68,.c (.d (.bool false))],false,some (57,false)⟩,oo 70 .pick [.t 57,.c (.d (.bool true)),.t 69]]
def Qt5:List COp:=[oo 2 .mov [cI 5]]
def Qt6:List COp:=[oo 71 (.bin .add false) [.t 9,cI 1],oM 9 71]
def Qt7:List COp:=[oo 2 .mov [cI 0]]
def Qgx:CFn:=⟨1,72,[.t 2],.seq (.region Qvu 9 []) (.seq (.seq (.region Qvv 9 []) (.block 0 (.loop [4,5] (.seq (.region Qvw 9 []) (.seq (.cond (.t 10) (.skip) (.exit 0)) (.seq (.block 1 (.seq (.region Qvx 9 []) (.seq (.block 2 (.seq (.region Qvy 9 []) (.cond (.t 14) (.seq (.region Qvz 9 []) (.ret)) (.seq (.region Qv0 9 []) (.cond (.t 37) (.seq (.region Qv1 9 []) (.ret)) (.skip)))))) (.seq (.seq (.region Qv2 9 []) (.cond (.t 45) (.exit 1) (.skip))) (.seq (.region Qv3 9 []) (.seq (.region Qt4 9 []) (.cond (.t 70) (.seq (.region Qt5 9 []) (.ret)) (.skip)))))))) (.region Qt6 9 []))))))) (.seq (.region Qt7 9 []) (.ret)))⟩
def Qb1 (Qb6:(List Int)→Int→Option Bool) (fuel:Nat) (a1:Qe):Option Int :=
  Qcm (fun k3 (x2:Int)=>(if (x2 < (a1.zL.length:Int)) then letJ (fun ((c22,c23,c24):Int×Int×Int)=>k3 (IntKind.wrap .i64 (x2 + 1))) fun J25=>((getO a1.zL x2).bind fun x5=>(((if (x5.From < 0) then some true else (if (x5.From≥a1.zM) then some true else (if (x5.To < 0) then some true else some (decide (x5.To≥a1.zM)))))).bind fun (x10:Bool)=>(if x10 then some 2 else ((Qb6 a1.zJ x5.Event).bind fun x13=>(if x13 then (if (x2 == 0) then J25 (x5.From,x5.Event,x5.To) else ((getO a1.zL (IntKind.wrap .i64 (x2 - 1))).bind fun x16=>(((if (x5.From < x16.From) then some true else (if (x5.From == x16.From) then some (decide (x5.Event≤x16.Event)) else some false))).bind fun (x20:Bool)=>(if x20 then some 5 else J25 (x5.From,x5.Event,x5.To))))) else some 9))))) else some 0)) fuel 0
def Qmp (P:Program) (c:Nat) (f:Qe→Option Int):Prop:=∀ a1 r,f a1 = some r→∀ M nb,ACalls P c [(Qm a1)] M nb (i_ r) M nb
def Q4f:List COp:=[oo 1 (.box 4) [.t 0],oo 2 .mov [cI 0]]
def Q4g:List COp:=[oF 5 0 1,oL 6 5,oo 7 (.call 85) [.t 6,cI 32],oM 3 7]
def Q4h:List COp:=[oM 8 3,oo 9 (.bin .neq false) [.t 8,cI 0]]
def Q4i:List COp:=[oM 10 3,oM 2 10]
def Q4j:List COp:=[oF 12 1 1,oL 13 12,oo 14 (.bin .lss false) [.t 13,cI 0],oM 11 14]
def Q4k:List COp:=[oo 2 .mov [cI 2]]
def Q4l:List COp:=[oF 16 1 1,oL 17 16,oo 18 (.bin .gtr false) [.t 17,cI 4096],oM 15 18]
def Q4m:List COp:=[oo 2 .mov [cI 3]]
def Q4n:List COp:=[oF 19 2 1,oL 20 19,oF 21 1 1,oL 22 21,oo 23 (.call 85) [.t 20,.t 22],oM 4 23]
def Q4o:List COp:=[oM 24 4,oo 25 (.bin .neq false) [.t 24,cI 0]]
def Q28:List COp:=[oM 26 4,oM 2 26]
def Q29:List COp:=[oo 27 (.load true 4) [.t 1],oo 28 (.call 86) [.t 27],oM 2 28]
def Qmq:CFn:=⟨1,29,[.t 2],.seq (.region Q4f 9 []) (.seq (.seq (.region Q4g 9 []) (.seq (.region Q4h 9 []) (.cond (.t 9) (.seq (.region Q4i 9 []) (.ret)) (.skip)))) (.seq (.block 0 (.seq (.region Q4j 9 []) (.cond (.t 11) (.seq (.region Q4k 9 []) (.ret)) (.seq (.region Q4l 9 []) (.cond (.t 15) (.seq (.region Q4m 9 []) (.ret)) (.skip)))))) (.seq (.seq (.region Q4n 9 []) (.seq (.region Q4o 9 []) (.cond (.t 25) (.seq (.region Q28 9 []) (.ret)) (.skip)))) (.seq (.region Q29 9 []) (.ret)))))⟩
def Qc5 (Qb3:(List Int)→Int→Option Int) (Qb1:Qe→Option Int) (a1:Qe):Option Int :=
  ((Qb3 a1.zJ 32).bind fun x3=>(if (x3 != 0) then some x3 else (if (a1.zM < 0) then some 2 else (if (a1.zM > 4096) then some 3 else ((Qb3 a1.zK a1.zM).bind fun x8=>(if (x8 != 0) then some x8 else ((Qb1 a1).bind fun x11=>some x11)))))))
def Qgk (P:Program) (c:Nat) (f:(List Int)→Int→Option Int):Prop:=∀ xset1 n2 r,f xset1 n2 = some r→∀ M nb,ACalls P c [(l_ xset1),(i_ n2)] M nb (i_ r) M nb
def Q05:List COp:=[oo 4 .mov [cI 0]]
def Q06:List COp:=[oM 7 0,oo 8 .len [.t 7],oo 9 .mov [cI 0]]
def Q07:List COp:=[oo 10 (.bin .lss false) [.t 9,.t 8]]
def Q08:List COp:=[oM 11 9,oo 12 (.idx 1) [.t 7,.t 9],oL 13 12,oM 5 11,oM 6 13]
def Q09:List COp:=[oM 14 6,oo 15 (.bin .lss false) [.t 14,cI 0],oM 16 15,⟨some 17,.mov,[.t 6],false,some (16,false)⟩,⟨some 18,.mov,[.t 1],false,some (16,false)⟩,⟨some 19,.bin .geq false,[.t 17,.t 18],false,some (16,false)⟩,oo 20 .pick [.t 16,.c (.d (.bool true)),.t 19]]
def Q1a:List COp:=[oo 4 .mov [cI 2]]
def Q1b:List COp:=[oM 21 5,oo 22 (.bin .gtr false) [.t 21,cI 0],oM 23 22,⟨some 24,.mov,[.t 6],false,some (23,true)⟩,⟨some 25,.mov,[.t 0],false,some (23,true)⟩,⟨some 26,.mov,[.t 5],false,some (23,true)⟩,⟨some 27,.bin .sub false,[.t 26,cI 1],false,some (23,true)⟩,⟨some 28,.idx 1,[.t 25,.t 27],false,some (23,true)⟩,⟨some 29,.load false 1,[.t 28],false,some (23,true)⟩,⟨some 30,.bin .leq false,[.t 24,.t 29],false,some (23,true)⟩,oo 31 .pick [.t 23,.t 30,.c (.d (.bool false))]]
def Q1c:List COp:=[oo 4 .mov [cI 5]]
def Q1d:List COp:=[oo 32 (.bin .add false) [.t 9,cI 1],oM 9 32]
def Q1e:List COp:=[oo 4 .mov [cI 0]]
def Qjk:CFn:=⟨2,33,[.t 4],.seq (.region Q05 9 []) (.seq (.seq (.region Q06 9 []) (.block 0 (.loop [] (.seq (.region Q07 9 []) (.seq (.cond (.t 10) (.skip) (.exit 0)) (.seq (.block 1 (.seq (.region Q08 9 []) (.seq (.seq (.region Q09 9 []) (.cond (.t 20) (.seq (.region Q1a 9 []) (.ret)) (.skip))) (.seq (.region Q1b 9 []) (.cond (.t 31) (.seq (.region Q1c 9 []) (.ret)) (.skip)))))) (.region Q1d 9 []))))))) (.seq (.region Q1e 9 []) (.ret)))⟩
def Qbb (fuel:Nat) (xset1:(List Int)) (n2:Int):Option Int :=
  Qcm (fun k4 (x3:Int)=>(if (x3 < (xset1.length:Int)) then ((getO xset1 x3).bind fun x6=>(((if (x6 < 0) then some true else some (decide (x6≥n2)))).bind fun (x9:Bool)=>(if x9 then some 2 else (((if (x3 > 0) then ((getO xset1 (IntKind.wrap .i64 (x3 - 1))).bind fun x12=>some (decide (x6≤x12))) else some false)).bind fun (x14:Bool)=>(if x14 then some 5 else k4 (IntKind.wrap .i64 (x3 + 1))))))) else some 0)) fuel 0
def Qff (P:Program) (c:Nat) (f:Int→Option Bool):Prop:=∀ n1 r,f n1 = some r→∀ M nb,ACalls P c [(i_ n1)] M nb (b_ r) M nb
def Qv4:List COp:=[oo 2 .mov [.c (.d (.bool false))]]
def Qv5:List COp:=[oM 3 0,oo 4 (.bin .geq false) [.t 3,cI 0],oM 5 4,⟨some 6,.mov,[.t 0],false,some (5,true)⟩,⟨some 7,.bin .lss false,[.t 6,cI 32],false,some (5,true)⟩,oo 8 .pick [.t 5,.t 7,.c (.d (.bool false))],oM 2 8]
def Qgy:CFn:=⟨1,9,[.t 2],.seq (.region Qv4 9 []) (.seq (.region Qv5 9 []) (.ret))⟩
def Qy (n1:Int):Option Bool :=
  (if (n1≥0) then some (decide (n1 < 32)) else some false)
def Qr7 (P:Program) (c:Nat) (f:Int→Option Bool):Prop:=∀ x1 r,f x1 = some r→∀ M nb,ACalls P c [(i_ x1)] M nb (b_ r) M nb
def Q60:List COp:=[oo 2 .mov [.c (.d (.bool false))]]
def Q61:List COp:=[oM 3 0,oM 4 0,oo 5 (.bin .neq false) [.t 3,.t 4],oM 2 5]
def Qr8:CFn:=⟨1,6,[.t 2],.seq (.region Q60 9 []) (.seq (.region Q61 9 []) (.ret))⟩
def Qdf (x1:Int):Option Bool :=
  some (x1 != x1)
def Qt8 (P:Program) (c:Nat) (f:Int→Int→Option Bool):Prop:=∀ x1 y2 r,f x1 y2 = some r→∀ M nb,ACalls P c [(i_ x1),(i_ y2)] M nb (b_ r) M nb
def Q7o:List COp:=[oo 4 .mov [.c (.d (.bool false))]]
def Q7p:List COp:=[oM 5 0,oo 6 (.call 115) [.t 5],oM 7 6,⟨some 8,.mov,[.t 1],false,some (7,true)⟩,⟨some 9,.call 115,[.t 8],false,some (7,true)⟩,⟨some 10,.un .not,[.t 9],false,some (7,true)⟩,oo 11 .pick [.t 7,.t 10,.c (.d (.bool false))],oM 12 11,⟨some 13,.mov,[.t 0],false,some (12,false)⟩,⟨some 14,.mov,[.t 1],false,some (12,false)⟩,⟨some 15,.bin .lss false,[.t 13,.t 14],false,some (12,false)⟩,oo 16 .pick [.t 12,.c (.d (.bool true)),.t 15],oM 4 16]
def Qt9:CFn:=⟨2,17,[.t 4],.seq (.region Q7o 9 []) (.seq (.region Q7p 9 []) (.ret))⟩
def Qd6 (Qdf:Int→Option Bool) (x1:Int) (y2:Int):Option Bool :=
  ((Qdf x1).bind fun x4=>(if x4 then ((Qdf y2).bind fun x7=>(if x7 then some (decide (x1 < y2)) else some true)) else some (decide (x1 < y2))))
def Qk9 (P:Program) (c:Nat) (f:Int→Option Bool):Prop:=∀ x1 r,f x1 = some r→∀ M nb,ACalls P c [(i_ x1)] M nb (b_ r) M nb
def Q3a:List COp:=[oo 2 .mov [.c (.d (.bool false))]]
def Q3b:List COp:=[oM 3 0,oM 4 0,oo 5 (.bin .neq false) [.t 3,.t 4],oM 2 5]
def Qla:CFn:=⟨1,6,[.t 2],.seq (.region Q3a 9 []) (.seq (.region Q3b 9 []) (.ret))⟩
def Qcn (x1:Int):Option Bool :=
  some (x1 != x1)
def Qfv (P:Program) (c:Nat) (f:(List Int)→Int→Option (Int×Bool)):Prop:=∀ x1 target2 r,f x1 target2 = some r→∀ M nb,ACalls P c [(l_ x1),(i_ target2)] M nb (.tup [(i_ r.1),(b_ r.2)]) M nb
def Qr9:List COp:=[oo 4 .mov [cI 0],oo 5 .mov [.c (.d (.bool false))]]
def Qsa:List COp:=[oM 10 0,oo 11 .len [.t 10],oM 6 11]
def Qsb:List COp:=[oM 12 6,oo 7 .mov [cI 0],oM 8 12]
def Qsc:List COp:=[oM 13 7,oM 14 8,oo 15 (.bin .lss false) [.t 13,.t 14]]
def Qsd:List COp:=[oM 16 7,oM 17 8,oo 18 (.bin .add false) [.t 16,.t 17],oo 19 (.conv .u64) [.t 18],oo 20 (.bin .shr false) [.t 19,.c (.d (.int .u64 1))],oo 21 (.conv .i64) [.t 20],oM 9 21]
def Qse:List COp:=[oM 22 0,oM 23 9,oo 24 (.idx 1) [.t 22,.t 23],oL 25 24,oM 26 1,oo 27 (.call 95) [.t 25,.t 26]]
def Qsf:List COp:=[oM 28 9,oo 29 (.bin .add false) [.t 28,cI 1],oM 7 29]
def Qsg:List COp:=[oM 30 9,oM 8 30]
def Qsh:List COp:=[oM 31 7,oM 32 7,oM 33 6,oo 34 (.bin .lss false) [.t 32,.t 33],oM 35 34,⟨some 36,.mov,[.t 0],false,some (35,true)⟩,⟨some 37,.mov,[.t 7],false,some (35,true)⟩,⟨some 38,.idx 1,[.t 36,.t 37],false,some (35,true)⟩,⟨some 39,.load false 1,[.t 38],false,some (35,true)⟩,⟨some 40,.mov,[.t 1],false,some (35,true)⟩,⟨some 41,.bin .eql false,[.t 39,.t 40],false,some (35,true)⟩,⟨some 42,.mov,[.t 41],false,some (35,true)⟩,⟨some 43,.mov,[.t 0],false,some (42,false)⟩,⟨some 44,.mov,[.t 7],false,some (42,false)⟩,⟨some 45,.idx 1,[.t 43,.t 44],false,some (42,false)⟩,⟨some 46,.load false 1,[.t 45],false,some (42,false)⟩,⟨some 47,.call 96,[.t 46],false,some (42,false)⟩,⟨some 48,.mov,[.t 47],false,some (42,false)⟩,⟨some 49,.mov,[.t 1],false,some (48,true)⟩,⟨some 50,.call 96,[.t 49],false,some (48,true)⟩,⟨some 51,.pick,[.t 48,.t 50,.c (.d (.bool false))],false,some (42,false)⟩,⟨some 52,.pick,[.t 42,.c (.d (.bool true)),.t 51],false,some (35,true)⟩,oo 53 .pick [.t 35,.t 52,.c (.d (.bool false))],oM 4 31,oM 5 53]
def Qfw:CFn:=⟨2,54,[.t 4,.t 5],.seq (.region Qr9 9 []) (.seq (.region Qsa 9 []) (.seq (.region Qsb 9 []) (.seq (.block 0 (.loop [] (.seq (.seq (.region Qsc 9 []) (.cond (.t 15) (.skip) (.exit 0))) (.block 1 (.seq (.region Qsd 9 []) (.seq (.region Qse 9 []) (.cond (.t 27) (.region Qsf 9 []) (.region Qsg 9 [])))))))) (.seq (.region Qsh 9 []) (.ret)))))⟩
def Qbp (Qd6:Int→Int→Option Bool) (Qcn:Int→Option Bool) (fuel:Nat) (x1:(List Int)) (target2:Int):Option (Int×Bool) :=
  ((Qcm (fun k5 ((i3,j4):Int×Int)=>(if (i3 < j4) then ((getO x1 (IntKind.wrap .i64 (Int.fdiv (IntKind.wrap .u64 (IntKind.wrap .i64 (i3 + j4))) (2 ^ (min (Int.toNat 1) (IntKind.bits .u64)))))).bind fun x7=>((Qd6 x7 target2).bind fun x10=>(if x10 then k5 ((IntKind.wrap .i64 ((IntKind.wrap .i64 (Int.fdiv (IntKind.wrap .u64 (IntKind.wrap .i64 (i3 + j4))) (2 ^ (min (Int.toNat 1) (IntKind.bits .u64))))) + 1)),j4) else k5 (i3,(IntKind.wrap .i64 (Int.fdiv (IntKind.wrap .u64 (IntKind.wrap .i64 (i3 + j4))) (2 ^ (min (Int.toNat 1) (IntKind.bits .u64))))))))) else some i3)) fuel (0,(x1.length:Int))).bind fun (i12:Int)=>(if (i12 < (x1.length:Int)) then ((getO x1 i12).bind fun x14=>(if (x14 == target2) then some (i12,true) else ((getO x1 i12).bind fun x17=>((Qcn x17).bind fun x20=>(if x20 then ((Qcn target2).bind fun x23=>some (i12,x23)) else some (i12,false)))))) else some (i12,false)))
def Qb9 (P:Program) (c:Nat) (f:(List Int)→Int→Option Bool):Prop:=∀ xset1 x2 r,f xset1 x2 = some r→∀ M nb,ACalls P c [(l_ xset1),(i_ x2)] M nb (b_ r) M nb
def Q1f:List COp:=[oo 4 .mov [.c (.d (.bool false))]]
def Q1g:List COp:=[oM 8 0,oM 9 1,oo 10 (.call 74) [.t 8,.t 9],oM 7 10,oo 11 (.extract 0) [.t 7],oo 12 (.extract 1) [.t 7],oM 5 11,oM 6 12]
def Q1h:List COp:=[oM 13 6,oM 4 13]
def Qjl:CFn:=⟨2,14,[.t 4],.seq (.region Q1f 9 []) (.seq (.region Q1g 9 []) (.seq (.region Q1h 9 []) (.ret)))⟩
def Qj (Qbp:(List Int)→Int→Option (Int×Bool)) (xset1:(List Int)) (x2:Int):Option Bool :=
  ((Qbp xset1 x2).bind fun (r4,r5)=>some r5)
def Qfg (P:Program) (c:Nat) (f:Qb→Option Int):Prop:=∀ p1 r,f p1 = some r→∀ M nb,ACalls P c [.agg [(l_ p1.zA.zJ),(i_ p1.zA.zM),(l_ p1.zA.zK),.d (.lst 3 (List.map Qa p1.zA.zL)),(l_ p1.zC),(l_ p1.zB),(l_ p1.zD),(i_ p1.Tick)]] M nb (i_ r) M nb
def Qv6:List COp:=[oo 1 (.box 8) [.t 0],oo 2 .mov [cI 0]]
def Qv7:List COp:=[oF 8 0 1,oo 9 (.load true 4) [.t 8],oo 10 (.call 64) [.t 9],oM 3 10]
def Qv8:List COp:=[oM 11 3,oo 12 (.bin .neq false) [.t 11,cI 0]]
def Qv9:List COp:=[oM 13 3,oM 2 13]
def Qwa:List COp:=[oF 14 4 1,oL 15 14,oF 16 0 1,oF 17 1 16,oL 18 17,oo 19 (.call 31) [.t 15,.t 18],oM 4 19]
def Qwb:List COp:=[oM 20 4,oo 21 (.bin .neq false) [.t 20,cI 0]]
def Qwc:List COp:=[oM 22 4,oM 2 22]
def Qwd:List COp:=[oF 23 5 1,oL 24 23,oF 25 6 1,oL 26 25,oo 27 (.bslice 1 2 [.nils 1] [0,1]) [.t 24,.t 26],oo 28 .len [.t 27],oo 29 .mov [cI 0]]
def Qwe:List COp:=[oo 30 (.bin .lss false) [.t 29,.t 28]]
def Qwf:List COp:=[oo 31 (.idx 1) [.t 27,.t 29],oL 32 31,ot 6 .mov [.t 32]]
def Qua:List COp:=[oM 33 6,oo 34 (.call 31) [.t 33,cI 32],oM 7 34]
def Qub:List COp:=[oM 35 7,oo 36 (.bin .neq false) [.t 35,cI 0]]
def Quc:List COp:=[oM 37 7,oM 2 37]
def Qud:List COp:=[oo 38 (.bin .add false) [.t 29,cI 1],oM 29 38]
def Que:List COp:=[oF 40 7 1,oL 41 40,oo 42 (.call 65) [.t 41],oo 43 (.un .not) [.t 42],oM 39 43]
def Quf:List COp:=[oo 2 .mov [cI 2]]
def Qug:List COp:=[oF 45 5 1,oL 46 45,oF 47 7 1,oL 48 47,oo 49 (.call 50) [.t 46,.t 48],oM 50 49,⟨some 51,.fld 6,[.t 1],false,some (50,false)⟩,⟨some 52,.load false 1,[.t 51],false,some (50,false)⟩,⟨some 53,.fld 7,[.t 1],false,some (50,false)⟩,⟨some 54,.load false 1,[.t 53],false,some (50,false)⟩,⟨some 55,.call 50,[.t 52,.t 54],false,some (50,false)⟩,oo 56 .pick [.t 50,.c (.d (.bool true)),.t 55],oM 44 56]
def Quh:List COp:=[oo 2 .mov [cI 13]]
def Qui:List COp:=[oo 2 .mov [cI 0]]
def Qgz:CFn:=⟨1,57,[.t 2],.seq (.region Qv6 9 []) (.seq (.seq (.region Qv7 9 []) (.seq (.region Qv8 9 []) (.cond (.t 12) (.seq (.region Qv9 9 []) (.ret)) (.skip)))) (.seq (.seq (.region Qwa 9 []) (.seq (.region Qwb 9 []) (.cond (.t 21) (.seq (.region Qwc 9 []) (.ret)) (.skip)))) (.seq (.seq (.region Qwd 9 []) (.block 0 (.loop [] (.seq (.region Qwe 9 []) (.seq (.cond (.t 30) (.skip) (.exit 0)) (.seq (.block 1 (.seq (.region Qwf 9 []) (.seq (.region Qua 9 []) (.seq (.region Qub 9 []) (.cond (.t 36) (.seq (.region Quc 9 []) (.ret)) (.skip)))))) (.region Qud 9 []))))))) (.seq (.block 2 (.seq (.region Que 9 []) (.cond (.t 39) (.seq (.region Quf 9 []) (.ret)) (.seq (.region Qug 9 []) (.cond (.t 44) (.seq (.region Quh 9 []) (.ret)) (.skip)))))) (.seq (.region Qui 9 []) (.ret))))))⟩
def Q4 (Qbb:(List Int)→Int→Option Int) (Qj:(List Int)→Int→Option Bool) (Qc5:Qe→Option Int) (Qy:Int→Option Bool) (fuel:Nat) (p1:Qb):Option Int :=
  ((Qc5 p1.zA).bind fun x3=>(if (x3 != 0) then some x3 else ((Qbb p1.zC p1.zA.zM).bind fun x6=>(if (x6 != 0) then some x6 else Qcm (fun k9 (x8:Int)=>(if (x8 < 2) then ((getO [p1.zB,p1.zD] x8).bind fun x11=>((Qbb x11 32).bind fun x14=>(if (x14 != 0) then some x14 else k9 (IntKind.wrap .i64 (x8 + 1))))) else ((Qy p1.Tick).bind fun x17=>(if x17 then ((((Qj p1.zB p1.Tick).bind fun x20=>(if x20 then some true else ((Qj p1.zD p1.Tick).bind fun x23=>some x23)))).bind fun (x24:Bool)=>(if x24 then some 13 else some 0)) else some 2)))) fuel 0))))
def Qfh (P:Program) (c:Nat) (f:Qb→Option Qf):Prop:=∀ p1 r,f p1 = some r→∀ M nb,ACalls P c [.agg [(l_ p1.zA.zJ),(i_ p1.zA.zM),(l_ p1.zA.zK),.d (.lst 3 (List.map Qa p1.zA.zL)),(l_ p1.zC),(l_ p1.zB),(l_ p1.zD),(i_ p1.Tick)]] M nb (.ptr (nb + 17) 0) (Qo nb [(17,.cells [(l_ r.zN.zA.zJ),(i_ r.zN.zA.zM),(l_ r.zN.zA.zK),.d (.lst 3 (List.map Qa r.zN.zA.zL)),(l_ r.zN.zC),(l_ r.zN.zB),(l_ r.zN.zD),(i_ r.zN.Tick),.sl 1 (nb + 11) 0 r.from_.length r.from_.length,.sl 1 (nb + 15) 0 r.left_.length r.left_.length]),(11,.cells (Qz (fun (x:List Qc)=>[V.d (.lst 3 (List.map Qa x))]) r.from_)),(15,.cells (Qz (fun (x:Bool)=>[V.d (.bool x)]) r.left_))] M) (nb + 66)
def Qwg:List COp:=[oo 1 (.box 8) [.t 0],oo 2 .mov [.c (.nilp)]]
def Qwh:List COp:=[oo 7 (.load true 8) [.t 1],oF 8 0 1,oF 9 1 8,oL 10 9,oo 11 (.makes 1 24 [.nils 3]) [.t 10,.t 10],oF 12 0 1,oF 13 1 12,oL 14 13,oo 15 (.makes 1 1 [.d (.bool false)]) [.t 14,.t 14],ot 16 (.build [.nils 1,.d (.int .i64 0),.nils 1,.nils 3,.nils 1,.nils 1,.nils 1,.d (.int .i64 0),.nils 1,.nils 1] [(0,8),(8,1),(9,1)]) [.t 7,.t 11,.t 15],oo 17 (.box 10) [.t 16],oM 3 17]
def Qwi:List COp:=[oF 18 0 1,oF 19 3 18,oL 20 19,oo 21 .len [.t 20],oo 22 .mov [cI 0]]
def Qwj:List COp:=[oo 23 (.bin .lss false) [.t 22,.t 21]]
def Qwk:List COp:=[oo 24 (.idx 3) [.t 20,.t 22],oo 25 (.load true 3) [.t 24],oo 5 (.alloc [.d (.int .i64 0),.d (.int .i64 0),.d (.int .i64 0)]) [],⟨none,.store 3,[.t 5,.t 25],false,none⟩]
def Qwl:List COp:=[oM 26 3,oo 27 .nilchk [.t 26],oF 28 8 27,oL 29 28,oF 30 0 5,oL 31 30,oM 32 3,oo 33 .nilchk [.t 32],oF 34 8 33,oL 35 34,oF 36 0 5,oL 37 36,oo 38 (.idx 1) [.t 35,.t 37],oo 39 .loadT [.t 38],oo 40 (.load true 3) [.t 5],oo 41 (.bslice 3 1 [.d (.int .i64 0),.d (.int .i64 0),.d (.int .i64 0)] [0]) [.t 40],ot 42 (.append 3 24) [.t 39,.t 41],oo 43 (.idx 1) [.t 29,.t 31],⟨none,.store 1,[.t 43,.t 42],true,none⟩]
def Qwm:List COp:=[oo 44 (.bin .add false) [.t 22,cI 1],oM 22 44]
def Qwn:List COp:=[oM 45 3,oo 46 .nilchk [.t 45],oF 47 9 46,oL 48 47,oo 49 .len [.t 48],oo 50 .mov [cI 0]]
def Qwo:List COp:=[oo 51 (.bin .lss false) [.t 50,.t 49]]
def Qwp:List COp:=[oM 52 50,oM 6 52]
def Quj:List COp:=[oM 53 3,oo 54 .nilchk [.t 53],oF 55 9 54,oL 56 55,oM 57 6,oF 58 4 1,oL 59 58,oM 60 6,oo 61 (.call 50) [.t 59,.t 60],oo 62 (.un .not) [.t 61],oo 63 (.idx 1) [.t 56,.t 57],⟨none,.store 1,[.t 63,.t 62],false,none⟩]
def Quk:List COp:=[oo 64 (.bin .add false) [.t 50,cI 1],oM 50 64]
def Qul:List COp:=[oM 65 3,oM 2 65]
def Qg0:CFn:=⟨1,66,[.t 2],.seq (.region Qwg 9 []) (.seq (.region Qwh 0 []) (.seq (.seq (.region Qwi 9 []) (.block 0 (.loop [5,41] (.seq (.region Qwj 9 []) (.seq (.cond (.t 23) (.skip) (.exit 0)) (.seq (.block 1 (.seq (.region Qwk 9 []) (.region Qwl 0 []))) (.region Qwm 9 []))))))) (.seq (.seq (.region Qwn 9 []) (.block 2 (.loop [] (.seq (.region Qwo 9 []) (.seq (.cond (.t 51) (.skip) (.exit 2)) (.seq (.block 3 (.seq (.region Qwp 9 []) (.region Quj 1 []))) (.region Quk 9 []))))))) (.seq (.region Qul 9 []) (.ret)))))⟩
def Q5 (Qj:(List Int)→Int→Option Bool) (fuel:Nat) (p1:Qb):Option Qf :=
  ((mkO p1.zA.zM ([]:List Qc)).bind fun x2=>((mkO p1.zA.zM false).bind fun x4=>((Qcm (fun k8 ((x6,c7):Int×(List (List Qc)))=>(if (x6 < (p1.zA.zL.length:Int)) then ((getO p1.zA.zL x6).bind fun x10=>((inO (Int.toNat p1.zA.zM) x10.From).bind fun u12=>((getO c7 x10.From).bind fun x14=>((appO x14 [x10]).bind fun x16=>((inO (Int.toNat p1.zA.zM) x10.From).bind fun u18=>((setO c7 x10.From x16).bind fun x20=>k8 ((IntKind.wrap .i64 (x6 + 1)),x20))))))) else some c7)) fuel (0,x2)).bind fun (c22:List (List Qc))=>((Qcm (fun k25 ((x23,c24):Int×(List Bool))=>(if (x23 < ((Int.toNat p1.zA.zM):Int)) then ((Qj p1.zC x23).bind fun x28=>((inO (Int.toNat p1.zA.zM) x23).bind fun u29=>((setO c24 x23 (!x28)).bind fun x31=>k25 ((IntKind.wrap .i64 (x23 + 1)),x31)))) else some c24)) fuel (0,x4)).bind fun (c33:List Bool)=>(lenO c22 (Int.toNat p1.zA.zM)).bind fun _=>(lenO c33 (Int.toNat p1.zA.zM)).bind fun _=>some (Qf.mk p1 c22 c33)))))
def Qed (P:Program) (c:Nat) (f:Qc→Qf→Option Bool):Prop:=∀ x1 x2 (k3:Nat) (k5:Nat) (k7:Nat) (k9:Nat) r,f x1 x2 = some r→∀ M nb,(M k3 = some (.cells [.ptr k5 0]))→(M k5 = some (.cells [(l_ x2.zN.zA.zJ),(i_ x2.zN.zA.zM),(l_ x2.zN.zA.zK),.d (.lst 3 (List.map Qa x2.zN.zA.zL)),(l_ x2.zN.zC),(l_ x2.zN.zB),(l_ x2.zN.zD),(i_ x2.zN.Tick),.sl 1 k7 0 x2.from_.length x2.from_.length,.sl 1 k9 0 x2.left_.length x2.left_.length]))→(M k7 = some (.cells (Qz (fun (x:List Qc)=>[V.d (.lst 3 (List.map Qa x))]) x2.from_)))→(M k9 = some (.cells (Qz (fun (x:Bool)=>[V.d (.bool x)]) x2.left_)))→ACalls P c [(Qca x1),.ptr k3 0] M nb (b_ r) M nb
def Qmb:List COp:=[oo 2 (.box 3) [.t 0],oo 3 .mov [.c (.d (.bool false))]]
def Qmc:List COp:=[oF 4 1 2,oL 5 4,oL 6 1,oo 7 .nilchk [.t 6],oF 8 0 7,oF 9 7 8,oL 10 9,oo 11 (.bin .eql false) [.t 5,.t 10],oM 12 11,⟨some 13,.load false 1,[.t 1],false,some (12,true)⟩,⟨some 14,.nilchk,[.t 13],false,some (12,true)⟩,⟨some 15,.fld 9,[.t 14],false,some (12,true)⟩,⟨some 16,.load false 1,[.t 15],false,some (12,true)⟩,⟨some 17,.fld 2,[.t 2],false,some (12,true)⟩,⟨some 18,.load false 1,[.t 17],false,some (12,true)⟩,⟨some 19,.idx 1,[.t 16,.t 18],false,some (12,true)⟩,⟨some 20,.load false 1,[.t 19],false,some (12,true)⟩,⟨some 21,.un .not,[.t 20],false,some (12,true)⟩,oo 22 .pick [.t 12,.t 21,.c (.d (.bool false))],oM 3 22]
def Qee:CFn:=⟨2,23,[.t 3],.seq (.region Qmb 9 []) (.seq (.region Qmc 0 []) (.ret))⟩
def Q7 (x1:Qc) (x2:Qf):Option Bool :=
  (if (x1.Event == x2.zN.Tick) then ((inO x2.left_.length x1.To).bind fun u12=>((getO x2.left_ x1.To).bind fun x14=>some (!x14))) else some false)
def Qgl (P:Program) (c:Nat) (f:(List Qc)→(Qc→Option Bool)→Option Int):Prop:=∀ s1 f2 (g3:Nat) (cp4:List V) r,f s1 f2 = some r→∀ M nb,(V.dems cp4 = cp4)→(V.ons (There M) cp4)→(∀ a8 r,f2 a8 = some r→∀ M2 nb2,nb≤nb2→Ext M M2→ACalls P g3 ([(Qca a8)] ++ cp4) M2 nb2 (b_ r) M2 nb2)→ACalls P c [.d (.lst 3 (List.map Qa s1)),.clo g3 cp4] M nb (i_ r) M nb
def Qum:List COp:=[oo 4 .mov [cI 0]]
def Qun:List COp:=[oM 6 0,oo 7 .len [.t 6],oo 8 .mov [cI 0]]
def Quo:List COp:=[oo 9 (.bin .lss false) [.t 8,.t 7]]
def Qup:List COp:=[oM 10 8,oM 5 10]
def Quq:List COp:=[oM 11 1,oM 12 0,oM 13 5,oo 14 (.idx 3) [.t 12,.t 13],oo 15 (.load true 3) [.t 14],oo 16 .callv [.t 11,.t 15]]
def Qur:List COp:=[oM 17 5,oM 4 17]
def Qus:List COp:=[oo 18 (.bin .add false) [.t 8,cI 1],oM 8 18]
def Qut:List COp:=[oo 4 .mov [cI (-1)]]
def Qgm:CFn:=⟨2,19,[.t 4],.seq (.region Qum 9 []) (.seq (.seq (.region Qun 9 []) (.block 0 (.loop [] (.seq (.region Quo 9 []) (.seq (.cond (.t 9) (.skip) (.exit 0)) (.seq (.block 1 (.seq (.region Qup 9 []) (.seq (.region Quq 9 []) (.cond (.t 16) (.seq (.region Qur 9 []) (.ret)) (.skip))))) (.region Qus 9 []))))))) (.seq (.region Qut 9 []) (.ret)))⟩
def Qbv (fuel:Nat) (s1:(List Qc)) (f2:(Qc→Option Bool)):Option Int :=
  Qcm (fun k10 (x9:Int)=>(if (x9 < (s1.length:Int)) then ((getO s1 x9).bind fun x12=>((f2 x12).bind fun x15=>(if x15 then some x9 else k10 (IntKind.wrap .i64 (x9 + 1))))) else some (-1))) fuel 0
def Qdb (P:Program) (c:Nat) (f:(List Qc)→(Qc→Option Bool)→Option Bool):Prop:=∀ s1 f2 (g3:Nat) (cp4:List V) r,f s1 f2 = some r→∀ M nb,(V.dems cp4 = cp4)→(V.ons (There M) cp4)→(∀ a8 r,f2 a8 = some r→∀ M2 nb2,nb≤nb2→Ext M M2→ACalls P g3 ([(Qca a8)] ++ cp4) M2 nb2 (b_ r) M2 nb2)→ACalls P c [.d (.lst 3 (List.map Qa s1)),.clo g3 cp4] M nb (b_ r) M nb
def Qqn:List COp:=[oo 4 .mov [.c (.d (.bool false))]]
def Qqo:List COp:=[oM 5 0,oM 6 1,oo 7 (.call 71) [.t 5,.t 6],oo 8 (.bin .geq false) [.t 7,cI 0],oM 4 8]
def Qfl:CFn:=⟨2,9,[.t 4],.seq (.region Qqn 9 []) (.seq (.region Qqo 9 []) (.ret))⟩
def Qq (Qbv:(List Qc)→(Qc→Option Bool)→Option Int) (s1:(List Qc)) (f2:(Qc→Option Bool)):Option Bool :=
  ((Qbv s1 f2).bind fun x13=>some (decide (x13≥0)))
def Qef (P:Program) (c:Nat) (f:Qc→Qf→Option Bool):Prop:=∀ x1 x2 (k3:Nat) (k5:Nat) (k7:Nat) (k9:Nat) r,f x1 x2 = some r→∀ M nb,(M k3 = some (.cells [.ptr k5 0]))→(M k5 = some (.cells [(l_ x2.zN.zA.zJ),(i_ x2.zN.zA.zM),(l_ x2.zN.zA.zK),.d (.lst 3 (List.map Qa x2.zN.zA.zL)),(l_ x2.zN.zC),(l_ x2.zN.zB),(l_ x2.zN.zD),(i_ x2.zN.Tick),.sl 1 k7 0 x2.from_.length x2.from_.length,.sl 1 k9 0 x2.left_.length x2.left_.length]))→(M k7 = some (.cells (Qz (fun (x:List Qc)=>[V.d (.lst 3 (List.map Qa x))]) x2.from_)))→(M k9 = some (.cells (Qz (fun (x:Bool)=>[V.d (.bool x)]) x2.left_)))→ACalls P c [(Qca x1),.ptr k3 0] M nb (b_ r) M nb
def Qmd:List COp:=[oo 2 (.box 3) [.t 0],oo 3 .mov [.c (.d (.bool false))]]
def Qme:List COp:=[oL 4 1,oo 5 .nilchk [.t 4],oF 6 9 5,oL 7 6,oF 8 2 2,oL 9 8,oo 10 (.idx 1) [.t 7,.t 9],oL 11 10,oM 12 11,⟨some 13,.load false 1,[.t 1],false,some (12,true)⟩,⟨some 14,.nilchk,[.t 13],false,some (12,true)⟩,⟨some 15,.fld 0,[.t 14],false,some (12,true)⟩,⟨some 16,.fld 6,[.t 15],false,some (12,true)⟩,⟨some 17,.load false 1,[.t 16],false,some (12,true)⟩,⟨some 18,.fld 1,[.t 2],false,some (12,true)⟩,⟨some 19,.load false 1,[.t 18],false,some (12,true)⟩,⟨some 20,.call 50,[.t 17,.t 19],false,some (12,true)⟩,oo 21 .pick [.t 12,.t 20,.c (.d (.bool false))],oM 3 21]
def Qeg:CFn:=⟨2,22,[.t 3],.seq (.region Qmd 9 []) (.seq (.region Qme 0 []) (.ret))⟩
def Q8 (Qj:(List Int)→Int→Option Bool) (x1:Qc) (x2:Qf):Option Bool :=
  ((inO x2.left_.length x1.To).bind fun u11=>((getO x2.left_ x1.To).bind fun x13=>(if x13 then ((Qj x2.zN.zD x1.Event).bind fun x17=>some x17) else some false)))
def Qev (P:Program) (c:Nat) (f:Qf→Int→Option Bool):Prop:=∀ t1 state8 (k2:Nat) (k4:Nat) (k6:Nat) r,f t1 state8 = some r→∀ M nb,(M k2 = some (.cells [(l_ t1.zN.zA.zJ),(i_ t1.zN.zA.zM),(l_ t1.zN.zA.zK),.d (.lst 3 (List.map Qa t1.zN.zA.zL)),(l_ t1.zN.zC),(l_ t1.zN.zB),(l_ t1.zN.zD),(i_ t1.zN.Tick),.sl 1 k4 0 t1.from_.length t1.from_.length,.sl 1 k6 0 t1.left_.length t1.left_.length]))→(M k4 = some (.cells (Qz (fun (x:List Qc)=>[V.d (.lst 3 (List.map Qa x))]) t1.from_)))→(M k6 = some (.cells (Qz (fun (x:Bool)=>[V.d (.bool x)]) t1.left_)))→ACalls P c [.ptr k2 0,(i_ state8)] M nb (b_ r) M nb
def Qne:List COp:=[oo 2 (.box 1) [.t 0],oo 4 .mov [.c (.d (.bool false))]]
def Qnf:List COp:=[oL 5 2,oo 6 .nilchk [.t 5],oF 7 8 6,oL 8 7,oM 9 1,oo 10 (.idx 1) [.t 8,.t 9],oL 11 10,oo 12 (.func 97) [.t 2],oo 13 (.call 40) [.t 11,.t 12],oM 4 13]
def Qew:CFn:=⟨2,14,[.t 4],.seq (.region Qne 9 []) (.seq (.region Qnf 9 []) (.ret))⟩
def Qbe (Qq:(List Qc)→(Qc→Option Bool)→Option Bool) (Q8:Qc→Qf→Option Bool) (t1:Qf) (state8:Int):Option Bool :=
  ((inO t1.from_.length state8).bind fun u9=>((getO t1.from_ state8).bind fun x11=>((Qq x11 (fun a13=>Q8 a13 t1)).bind fun x17=>some x17)))
def Qdo (P:Program) (c:Nat) (f:Qf→Int→Option (Int×Int)):Prop:=∀ t1 state8 (k2:Nat) (k4:Nat) (k6:Nat) r,f t1 state8 = some r→∀ M nb,(M k2 = some (.cells [(l_ t1.zN.zA.zJ),(i_ t1.zN.zA.zM),(l_ t1.zN.zA.zK),.d (.lst 3 (List.map Qa t1.zN.zA.zL)),(l_ t1.zN.zC),(l_ t1.zN.zB),(l_ t1.zN.zD),(i_ t1.zN.Tick),.sl 1 k4 0 t1.from_.length t1.from_.length,.sl 1 k6 0 t1.left_.length t1.left_.length]))→(M k4 = some (.cells (Qz (fun (x:List Qc)=>[V.d (.lst 3 (List.map Qa x))]) t1.from_)))→(M k6 = some (.cells (Qz (fun (x:Bool)=>[V.d (.bool x)]) t1.left_)))→ACalls P c [.ptr k2 0,(i_ state8)] M nb (.tup [(i_ r.1),(i_ r.2)]) M nb
def Qng:List COp:=[oo 2 (.box 1) [.t 0],oo 4 .mov [cI 0],oo 5 .mov [cI 0]]
def Qnh:List COp:=[oL 9 2,oo 10 .nilchk [.t 9],oF 11 8 10,oL 12 11,oM 13 1,oo 14 (.idx 1) [.t 12,.t 13],oL 15 14,oo 16 .len [.t 15],oo 17 .mov [cI 0]]
def Qni:List COp:=[oo 18 (.bin .lss false) [.t 17,.t 16]]
def Qnj:List COp:=[oo 19 (.idx 3) [.t 15,.t 17],oo 20 (.load true 3) [.t 19],oo 7 (.alloc [.d (.int .i64 0),.d (.int .i64 0),.d (.int .i64 0)]) [],⟨none,.store 3,[.t 7,.t 20],false,none⟩]
def Qnk:List COp:=[oL 21 2,oo 22 .nilchk [.t 21],oF 23 9 22,oL 24 23,oF 25 2 7,oL 26 25,oo 27 (.idx 1) [.t 24,.t 26],oL 28 27,oo 29 (.un .not) [.t 28],oM 30 29,⟨some 31,.load false 1,[.t 2],false,some (30,true)⟩,⟨some 32,.nilchk,[.t 31],false,some (30,true)⟩,⟨some 33,.fld 0,[.t 32],false,some (30,true)⟩,⟨some 34,.fld 5,[.t 33],false,some (30,true)⟩,⟨some 35,.load false 1,[.t 34],false,some (30,true)⟩,⟨some 36,.fld 1,[.t 7],false,some (30,true)⟩,⟨some 37,.load false 1,[.t 36],false,some (30,true)⟩,⟨some 38,.call 50,[.t 35,.t 37],false,some (30,true)⟩,oo 39 .pick [.t 30,.t 38,.c (.d (.bool false))]]
def Qnl:List COp:=[oF 40 1 7,oL 41 40,oo 4 .mov [cI 2],oM 5 41]
def Qnm:List COp:=[oo 42 (.bin .add false) [.t 17,cI 1],oM 17 42]
def Qnn:List COp:=[oL 43 2,oo 44 .nilchk [.t 43],oF 45 8 44,oL 46 45,oM 47 1,oo 48 (.idx 1) [.t 46,.t 47],oL 49 48,oo 50 (.func 76) [.t 2],oo 51 (.call 40) [.t 49,.t 50],oM 8 51]
def Qno:List COp:=[oM 52 8,oM 53 52,⟨some 54,.load false 1,[.t 2],false,some (53,true)⟩,⟨some 55,.mov,[.t 1],false,some (53,true)⟩,⟨some 56,.call 77,[.t 54,.t 55],false,some (53,true)⟩,⟨some 57,.un .not,[.t 56],false,some (53,true)⟩,oo 58 .pick [.t 53,.t 57,.c (.d (.bool false))]]
def Qnp:List COp:=[oL 59 2,oo 60 .nilchk [.t 59],oF 61 0 60,oF 62 7 61,oL 63 62,oo 4 .mov [cI 4],oM 5 63]
def Qmr:List COp:=[oo 4 .mov [cI 0],oo 5 .mov [cI (-1)]]
def Qex:CFn:=⟨2,64,[.t 4,.t 5],.seq (.region Qng 9 []) (.seq (.seq (.region Qnh 9 []) (.block 0 (.loop [7] (.seq (.region Qni 9 []) (.seq (.cond (.t 18) (.skip) (.exit 0)) (.seq (.block 1 (.seq (.region Qnj 9 []) (.seq (.region Qnk 0 []) (.cond (.t 39) (.seq (.region Qnl 0 []) (.ret)) (.skip))))) (.region Qnm 9 []))))))) (.seq (.region Qnn 9 []) (.seq (.seq (.region Qno 9 []) (.cond (.t 58) (.seq (.region Qnp 0 []) (.ret)) (.skip))) (.seq (.region Qmr 9 []) (.ret)))))⟩
def Qv (Qq:(List Qc)→(Qc→Option Bool)→Option Bool) (Qj:(List Int)→Int→Option Bool) (Q7:Qc→Qf→Option Bool) (Qbe:Qf→Int→Option Bool) (fuel:Nat) (t1:Qf) (state8:Int):Option (Int×Int) :=
  ((inO t1.from_.length state8).bind fun u9=>((getO t1.from_ state8).bind fun x11=>Qcm (fun k14 (x13:Int)=>(if (x13 < (x11.length:Int)) then ((getO x11 x13).bind fun x16=>((((inO t1.left_.length x16.To).bind fun u18=>((getO t1.left_ x16.To).bind fun x20=>(if x20 then some false else ((Qj t1.zN.zB x16.Event).bind fun x24=>some x24))))).bind fun (x25:Bool)=>(if x25 then some (2,x16.Event) else k14 (IntKind.wrap .i64 (x13 + 1))))) else ((inO t1.from_.length state8).bind fun u27=>((getO t1.from_ state8).bind fun x29=>((Qq x29 (fun a31=>Q7 a31 t1)).bind fun x35=>(((if x35 then ((Qbe t1 state8).bind fun x38=>some (!x38)) else some false)).bind fun (x39:Bool)=>(if x39 then some (4,t1.zN.Tick) else some (0,(-1))))))))) fuel 0))
def Qcl (P:Program) (c:Nat) (f:Qf→Option ((List Int))):Prop:=∀ t1 (k2:Nat) (k4:Nat) (k6:Nat) r,f t1 = some r→∀ M nb,(M k2 = some (.cells [(l_ t1.zN.zA.zJ),(i_ t1.zN.zA.zM),(l_ t1.zN.zA.zK),.d (.lst 3 (List.map Qa t1.zN.zA.zL)),(l_ t1.zN.zC),(l_ t1.zN.zB),(l_ t1.zN.zD),(i_ t1.zN.Tick),.sl 1 k4 0 t1.from_.length t1.from_.length,.sl 1 k6 0 t1.left_.length t1.left_.length]))→(M k4 = some (.cells (Qz (fun (x:List Qc)=>[V.d (.lst 3 (List.map Qa x))]) t1.from_)))→(M k6 = some (.cells (Qz (fun (x:Bool)=>[V.d (.bool x)]) t1.left_)))→ACalls P c [.ptr k2 0] M nb (l_ r) M nb
def Qlb:List COp:=[ot 2 .mov [.c (.nils 1)]]
def Qlc:List COp:=[oM 9 0,oo 10 .nilchk [.t 9],oF 11 0 10,oF 12 0 11,oF 13 1 12,oL 14 13,oo 15 (.makes 1 8 [.d (.int .i64 0)]) [.t 14,.t 14],ot 3 .mov [.t 15]]
def Qld:List COp:=[oM 16 3,oo 17 .len [.t 16],oo 18 .mov [cI 0]]
def Qle:List COp:=[oo 19 (.bin .lss false) [.t 18,.t 17]]
def Qlf:List COp:=[oM 20 18,oM 4 20]
def Qlg:List COp:=[oM 21 3,oM 22 4,oo 23 (.idx 1) [.t 21,.t 22],⟨none,.store 1,[.t 23,cI (-1)],false,none⟩]
def Qlh:List COp:=[oM 24 0,oo 25 .nilchk [.t 24],oF 26 9 25,oL 27 26,oM 28 4,oo 29 (.idx 1) [.t 27,.t 28],oL 30 29,oM 31 30,⟨some 32,.mov,[.t 0],false,some (31,true)⟩,⟨some 33,.nilchk,[.t 32],false,some (31,true)⟩,⟨some 34,.fld 0,[.t 33],false,some (31,true)⟩,⟨some 35,.fld 0,[.t 34],false,some (31,true)⟩,⟨some 36,.fld 2,[.t 35],false,some (31,true)⟩,⟨some 37,.load false 1,[.t 36],false,some (31,true)⟩,⟨some 38,.mov,[.t 4],false,some (31,true)⟩,⟨some 39,.call 50,[.t 37,.t 38],false,some (31,true)⟩,oo 40 .pick [.t 31,.t 39,.c (.d (.bool false))]]
def Qli:List COp:=[oM 41 3,oM 42 4,oo 43 (.idx 1) [.t 41,.t 42],⟨none,.store 1,[.t 43,cI 0],false,none⟩]
def Qlj:List COp:=[oo 44 (.bin .add false) [.t 18,cI 1],oM 18 44]
def Qlk:List COp:=[oo 5 .mov [cI 1],oo 6 .mov [.c (.d (.bool true))]]
def Qj7:List COp:=[oM 45 6]
def Qj8:List COp:=[oo 6 .mov [.c (.d (.bool false))]]
def Qj9:List COp:=[oM 48 0,oo 49 .nilchk [.t 48],oF 50 0 49,oF 51 0 50,oF 52 3 51,oL 53 52,oo 54 .len [.t 53],oo 55 .mov [cI 0]]
def Qka:List COp:=[oo 56 (.bin .lss false) [.t 55,.t 54]]
def Qkb:List COp:=[oo 57 (.idx 3) [.t 53,.t 55],oo 58 (.load true 3) [.t 57],oo 8 (.alloc [.d (.int .i64 0),.d (.int .i64 0),.d (.int .i64 0)]) [],⟨none,.store 3,[.t 8,.t 58],false,none⟩]
def Qkc:List COp:=[oM 59 0,oo 60 .nilchk [.t 59],oF 61 9 60,oL 62 61,oF 63 0 8,oL 64 63,oo 65 (.idx 1) [.t 62,.t 64],oL 66 65,oM 67 66,⟨some 68,.mov,[.t 0],false,some (67,true)⟩,⟨some 69,.nilchk,[.t 68],false,some (67,true)⟩,⟨some 70,.fld 9,[.t 69],false,some (67,true)⟩,⟨some 71,.load false 1,[.t 70],false,some (67,true)⟩,⟨some 72,.fld 2,[.t 8],false,some (67,true)⟩,⟨some 73,.load false 1,[.t 72],false,some (67,true)⟩,⟨some 74,.idx 1,[.t 71,.t 73],false,some (67,true)⟩,⟨some 75,.load false 1,[.t 74],false,some (67,true)⟩,oo 76 .pick [.t 67,.t 75,.c (.d (.bool false))],oM 77 76,⟨some 78,.mov,[.t 3],false,some (77,true)⟩,⟨some 79,.fld 0,[.t 8],false,some (77,true)⟩,⟨some 80,.load false 1,[.t 79],false,some (77,true)⟩,⟨some 81,.idx 1,[.t 78,.t 80],false,some (77,true)⟩,⟨some 82,.load false 1,[.t 81],false,some (77,true)⟩,⟨some 83,.bin .lss false,[.t 82,cI 0],false,some (77,true)⟩,oo 84 .pick [.t 77,.t 83,.c (.d (.bool false))],oM 85 84,⟨some 86,.mov,[.t 3],false,some (85,true)⟩,⟨some 87,.fld 2,[.t 8],false,some (85,true)⟩,⟨some 88,.load false 1,[.t 87],false,some (85,true)⟩,⟨some 89,.idx 1,[.t 86,.t 88],false,some (85,true)⟩,⟨some 90,.load false 1,[.t 89],false,some (85,true)⟩,⟨some 91,.mov,[.t 5],false,some (85,true)⟩,⟨some 92,.bin .sub false,[.t 91,cI 1],false,some (85,true)⟩,⟨some 93,.bin .eql false,[.t 90,.t 92],false,some (85,true)⟩,oo 94 .pick [.t 85,.t 93,.c (.d (.bool false))]]
def Qkd:List COp:=[oM 95 3,oF 96 0 8,oL 97 96,oM 98 5,oo 99 (.idx 1) [.t 95,.t 97],⟨none,.store 1,[.t 99,.t 98],false,none⟩,oo 6 .mov [.c (.d (.bool true))]]
def Qke:List COp:=[oo 100 (.bin .add false) [.t 55,cI 1],oM 55 100]
def Qkf:List COp:=[oM 46 5,oo 47 (.bin .add false) [.t 46,cI 1],oM 5 47]
def Qkg:List COp:=[ot 101 .mov [.t 3],ot 2 .mov [.t 101]]
def Qd2:CFn:=⟨1,102,[.t 2],.seq (.region Qlb 9 []) (.seq (.region Qlc 9 []) (.seq (.seq (.region Qld 9 []) (.block 0 (.loop [] (.seq (.region Qle 9 []) (.seq (.cond (.t 19) (.skip) (.exit 0)) (.seq (.block 1 (.seq (.region Qlf 9 []) (.seq (.region Qlg 9 []) (.seq (.region Qlh 9 []) (.cond (.t 40) (.region Qli 9 []) (.skip)))))) (.region Qlj 9 []))))))) (.seq (.seq (.region Qlk 9 []) (.block 2 (.loop [8] (.seq (.seq (.region Qj7 9 []) (.cond (.t 45) (.skip) (.exit 2))) (.seq (.block 3 (.seq (.region Qj8 9 []) (.seq (.region Qj9 9 []) (.block 4 (.loop [8] (.seq (.region Qka 9 []) (.seq (.cond (.t 56) (.skip) (.exit 4)) (.seq (.block 5 (.seq (.region Qkb 9 []) (.seq (.region Qkc 0 []) (.cond (.t 94) (.region Qkd 9 []) (.skip))))) (.region Qke 9 []))))))))) (.region Qkf 9 [])))))) (.seq (.region Qkg 9 []) (.ret)))))⟩
def Qp (Qj:(List Int)→Int→Option Bool) (fuel:Nat) (t1:Qf):Option ((List Int)) :=
  ((mkO t1.zN.zA.zM 0).bind fun x8=>((Qcm (fun k12 ((x10,c11):Int×(List Int))=>(if (x10 < ((Int.toNat t1.zN.zA.zM):Int)) then ((((inO (Int.toNat t1.zN.zA.zM) x10).bind fun u14=>((setO c11 x10 (-1)).bind fun x16=>((((inO t1.left_.length x10).bind fun u18=>((getO t1.left_ x10).bind fun x20=>(if x20 then ((Qj t1.zN.zA.zK x10).bind fun x24=>some x24) else some false)))).bind fun (x25:Bool)=>(if x25 then ((inO (Int.toNat t1.zN.zA.zM) x10).bind fun u27=>((setO x16 x10 0).bind fun x29=>some x29)) else some x16))))).bind fun (c31:List Int)=>k12 ((IntKind.wrap .i64 (x10 + 1)),c31)) else some c11)) fuel (0,x8)).bind fun (c32:List Int)=>((Qcm (fun k36 ((round33,more34,c35):Int×Bool×(List Int))=>(if more34 then ((Qcm (fun k41 ((more38,x39,c40):Bool×Int×(List Int))=>(if (x39 < (t1.zN.zA.zL.length:Int)) then ((((getO t1.zN.zA.zL x39).bind fun x43=>((((inO t1.left_.length x43.From).bind fun u45=>((getO t1.left_ x43.From).bind fun x47=>(if x47 then ((inO t1.left_.length x43.To).bind fun u50=>((getO t1.left_ x43.To).bind fun x52=>(if x52 then ((inO (Int.toNat t1.zN.zA.zM) x43.From).bind fun u55=>((getO c40 x43.From).bind fun x57=>(if (x57 < 0) then ((inO (Int.toNat t1.zN.zA.zM) x43.To).bind fun u60=>((getO c40 x43.To).bind fun x62=>some (x62 == (IntKind.wrap .i64 (round33 - 1))))) else some false))) else some false))) else some false)))).bind fun (x64:Bool)=>(if x64 then ((inO (Int.toNat t1.zN.zA.zM) x43.From).bind fun u66=>((setO c40 x43.From round33).bind fun x68=>some (true,x68,x43.From,x43.Event,x43.To))) else some (more38,c40,x43.From,x43.Event,x43.To))))).bind fun ((more70,c71,c72,c73,c74):Bool×(List Int)×Int×Int×Int)=>k41 (more70,(IntKind.wrap .i64 (x39 + 1)),c71)) else some (more38,c40))) fuel (false,0,c35)).bind fun ((more75,c76):Bool×(List Int))=>k36 ((IntKind.wrap .i64 (round33 + 1)),more75,c76)) else some c35)) fuel (1,true,c32)).bind fun (c77:List Int)=>((lenO c77 (Int.toNat t1.zN.zA.zM)).bind fun _=>some c77))))
def Qe4 (P:Program) (c:Nat) (f:Qf→Int→Option ((List Qd))):Prop:=∀ t1 rank8 (k2:Nat) (k4:Nat) (k6:Nat) r,f t1 rank8 = some r→∀ M nb,(M k2 = some (.cells [(l_ t1.zN.zA.zJ),(i_ t1.zN.zA.zM),(l_ t1.zN.zA.zK),.d (.lst 3 (List.map Qa t1.zN.zA.zL)),(l_ t1.zN.zC),(l_ t1.zN.zB),(l_ t1.zN.zD),(i_ t1.zN.Tick),.sl 1 k4 0 t1.from_.length t1.from_.length,.sl 1 k6 0 t1.left_.length t1.left_.length]))→(M k4 = some (.cells (Qz (fun (x:List Qc)=>[V.d (.lst 3 (List.map Qa x))]) t1.from_)))→(M k6 = some (.cells (Qz (fun (x:Bool)=>[V.d (.bool x)]) t1.left_)))→ACalls P c [.ptr k2 0,(i_ rank8)] M nb (.own 4 (List.map Qg r)) M nb
def Qo4:List COp:=[ot 4 .mov [.c (.nils 4)]]
def Qo5:List COp:=[ot 5 .mov [.c (.nils 4)]]
def Qo6:List COp:=[oM 12 0,oo 13 .nilchk [.t 12],oF 14 9 13,oL 15 14,oo 16 .len [.t 15],oo 17 .mov [cI 0]]
def Qo7:List COp:=[oo 18 (.bin .lss false) [.t 17,.t 16]]
def Qo8:List COp:=[oM 19 17,oo 20 (.idx 1) [.t 15,.t 17],oL 21 20,oM 6 19,oM 7 21]
def Qo9:List COp:=[oM 23 0,oM 24 6,oo 25 (.call 53) [.t 23,.t 24],oM 22 25,oo 26 (.extract 0) [.t 22],oo 27 (.extract 1) [.t 22],oM 8 26,oM 9 27]
def Qpa:List COp:=[oM 28 7,oM 29 28,⟨some 30,.mov,[.t 8],false,some (29,true)⟩,⟨some 31,.bin .neq false,[.t 30,cI 0],false,some (29,true)⟩,oo 32 .pick [.t 29,.t 31,.c (.d (.bool false))]]
def Qpb:List COp:=[ot 33 .mov [.t 5],oM 34 6,oM 35 1,oM 36 8,oM 37 9,oo 38 (.build [.d (.int .i64 0),.d (.int .i64 0),.d (.int .i64 0),.d (.int .i64 0)] [(0,1),(1,1),(2,1),(3,1)]) [.t 34,.t 35,.t 36,.t 37],oo 39 (.bslice 4 1 [.d (.int .i64 0),.d (.int .i64 0),.d (.int .i64 0),.d (.int .i64 0)] [0]) [.t 38],ot 40 (.append 4 32) [.t 33,.t 39],ot 5 .mov [.t 40]]
def Qpc:List COp:=[oo 41 (.bin .add false) [.t 17,cI 1],oM 17 41]
def Qpd:List COp:=[oM 42 5,oo 43 .len [.t 42],oo 44 (.bin .gtr false) [.t 43,cI 0]]
def Qnq:List COp:=[ot 45 .mov [.t 5],ot 4 .mov [.t 45]]
def Qnr:List COp:=[oM 46 0,oo 47 (.call 39) [.t 46],oo 48 .len [.t 47],oo 49 .mov [cI 0]]
def Qns:List COp:=[oo 50 (.bin .lss false) [.t 49,.t 48]]
def Qnt:List COp:=[oM 51 49,oo 52 (.idx 1) [.t 47,.t 49],oL 53 52,oM 10 51,oM 11 53]
def Qnu:List COp:=[oM 54 0,oo 55 .nilchk [.t 54],oF 56 9 55,oL 57 56,oM 58 10,oo 59 (.idx 1) [.t 57,.t 58],oL 60 59,oM 61 60,⟨some 62,.mov,[.t 11],false,some (61,true)⟩,⟨some 63,.bin .lss false,[.t 62,cI 0],false,some (61,true)⟩,oo 64 .pick [.t 61,.t 63,.c (.d (.bool false))]]
def Qnv:List COp:=[ot 65 .mov [.t 5],oM 66 10,oM 67 1,oo 68 (.build [.d (.int .i64 0),.d (.int .i64 0),.d (.int .i64 0),.d (.int .i64 0)] [(0,1),(1,1),(2,1),(3,1)]) [.t 66,.t 67,cI 3,cI (-1)],oo 69 (.bslice 4 1 [.d (.int .i64 0),.d (.int .i64 0),.d (.int .i64 0),.d (.int .i64 0)] [0]) [.t 68],ot 70 (.append 4 32) [.t 65,.t 69],ot 5 .mov [.t 70]]
def Qnw:List COp:=[oo 71 (.bin .add false) [.t 49,cI 1],oM 49 71]
def Qnx:List COp:=[ot 72 .mov [.t 5],ot 4 .mov [.t 72]]
def Qe5:CFn:=⟨2,73,[.t 4],.seq (.region Qo4 9 []) (.seq (.region Qo5 9 []) (.seq (.seq (.region Qo6 9 []) (.block 0 (.loop [39] (.seq (.region Qo7 9 []) (.seq (.cond (.t 18) (.skip) (.exit 0)) (.seq (.block 1 (.seq (.region Qo8 9 []) (.seq (.region Qo9 9 []) (.seq (.region Qpa 9 []) (.cond (.t 32) (.region Qpb 9 []) (.skip)))))) (.region Qpc 9 []))))))) (.seq (.seq (.region Qpd 9 []) (.cond (.t 44) (.seq (.region Qnq 9 []) (.ret)) (.skip))) (.seq (.seq (.region Qnr 9 []) (.block 2 (.loop [69] (.seq (.region Qns 9 []) (.seq (.cond (.t 50) (.skip) (.exit 2)) (.seq (.block 3 (.seq (.region Qnt 9 []) (.seq (.region Qnu 9 []) (.cond (.t 64) (.region Qnv 9 []) (.skip))))) (.region Qnw 9 []))))))) (.seq (.region Qnx 9 []) (.ret))))))⟩
def Qbj (Qp:Qf→Option ((List Int))) (Qv:Qf→Int→Option (Int×Int)) (fuel:Nat) (t1:Qf) (rank8:Int):Option ((List Qd)) :=
  ((Qcm (fun k11 ((out9,x10):(List Qd)×Int)=>(if (x10 < (t1.left_.length:Int)) then ((((inO t1.left_.length x10).bind fun u13=>((getO t1.left_ x10).bind fun x15=>((Qv t1 x10).bind fun (r18,r19)=>(((if x15 then some (r18 != 0) else some false)).bind fun (x21:Bool)=>(if x21 then ((appO out9 [(Qd.mk x10 rank8 r18 r19)]).bind fun x23=>some x23) else some out9)))))).bind fun (out25:List Qd)=>k11 (out25,(IntKind.wrap .i64 (x10 + 1)))) else some out9)) fuel ([],0)).bind fun (out26:List Qd)=>(if ((out26.length:Int) > 0) then some out26 else ((((Qp t1).bind fun x29=>Qcm (fun k32 ((out30,x31):(List Qd)×Int)=>(if (x31 < (x29.length:Int)) then ((((getO x29 x31).bind fun x34=>((((inO t1.left_.length x31).bind fun u36=>((getO t1.left_ x31).bind fun x38=>(if x38 then some (decide (x34 < 0)) else some false)))).bind fun (x41:Bool)=>(if x41 then ((appO out30 [(Qd.mk x31 rank8 3 (-1))]).bind fun x43=>some x43) else some out30)))).bind fun (out45:List Qd)=>k32 (out45,(IntKind.wrap .i64 (x31 + 1)))) else some out30)) fuel (out26,0))).bind fun (out46:List Qd)=>some out46)))
def Qeo (P:Program) (c:Nat) (f:Qc→Qb→Qf→Option Bool):Prop:=∀ x1 x2 x5 (k3:Nat) (k6:Nat) (k8:Nat) (k10:Nat) (k12:Nat) r,f x1 x2 x5 = some r→∀ M nb,(M k3 = some (.cells [(l_ x2.zA.zJ),(i_ x2.zA.zM),(l_ x2.zA.zK),.d (.lst 3 (List.map Qa x2.zA.zL)),(l_ x2.zC),(l_ x2.zB),(l_ x2.zD),(i_ x2.Tick)]))→(M k6 = some (.cells [.ptr k8 0]))→(M k8 = some (.cells [(l_ x5.zN.zA.zJ),(i_ x5.zN.zA.zM),(l_ x5.zN.zA.zK),.d (.lst 3 (List.map Qa x5.zN.zA.zL)),(l_ x5.zN.zC),(l_ x5.zN.zB),(l_ x5.zN.zD),(i_ x5.zN.Tick),.sl 1 k10 0 x5.from_.length x5.from_.length,.sl 1 k12 0 x5.left_.length x5.left_.length]))→(M k10 = some (.cells (Qz (fun (x:List Qc)=>[V.d (.lst 3 (List.map Qa x))]) x5.from_)))→(M k12 = some (.cells (Qz (fun (x:Bool)=>[V.d (.bool x)]) x5.left_)))→ACalls P c [(Qca x1),.ptr k3 0,.ptr k6 0] M nb (b_ r) M nb
def Qms:List COp:=[oo 3 (.box 3) [.t 0],oo 4 .mov [.c (.d (.bool false))]]
def Qmt:List COp:=[oF 5 1 3,oL 6 5,oF 7 7 1,oL 8 7,oo 9 (.bin .eql false) [.t 6,.t 8],oM 10 9,⟨some 11,.load false 1,[.t 2],false,some (10,true)⟩,⟨some 12,.nilchk,[.t 11],false,some (10,true)⟩,⟨some 13,.fld 9,[.t 12],false,some (10,true)⟩,⟨some 14,.load false 1,[.t 13],false,some (10,true)⟩,⟨some 15,.fld 2,[.t 3],false,some (10,true)⟩,⟨some 16,.load false 1,[.t 15],false,some (10,true)⟩,⟨some 17,.idx 1,[.t 14,.t 16],false,some (10,true)⟩,⟨some 18,.load false 1,[.t 17],false,some (10,true)⟩,⟨some 19,.un .not,[.t 18],false,some (10,true)⟩,oo 20 .pick [.t 10,.t 19,.c (.d (.bool false))],oM 4 20]
def Qep:CFn:=⟨3,21,[.t 4],.seq (.region Qms 9 []) (.seq (.region Qmt 0 []) (.ret))⟩
def Q9 (x1:Qc) (x2:Qb) (x5:Qf):Option Bool :=
  (if (x1.Event == x2.Tick) then ((inO x5.left_.length x1.To).bind fun u15=>((getO x5.left_ x1.To).bind fun x17=>some (!x17))) else some false)
def Qll (P:Program) (c:Nat) (f:(List Int)→Option ((List Int))):Prop:=∀ s1 r,f s1 = some r→∀ M nb,ACalls P c [(l_ s1)] M nb (o_ r) M nb
def Q3c:List COp:=[ot 2 .mov [.c (.nils 1)]]
def Q3d:List COp:=[oM 3 0,oo 4 (.isnil false) [.t 3]]
def Q3e:List COp:=[ot 2 .mov [.c (.nils 1)]]
def Q3f:List COp:=[oo 5 (.bslice 1 0 [.d (.int .i64 0)] []) [],oM 6 0,ot 7 (.append 1 8) [.t 5,.t 6],ot 2 .mov [.t 7]]
def Qlm:CFn:=⟨1,8,[.t 2],.seq (.region Q3c 9 []) (.seq (.seq (.region Q3d 9 []) (.cond (.t 4) (.seq (.region Q3e 9 []) (.ret)) (.skip))) (.seq (.region Q3f 9 []) (.ret)))⟩
def Qcu (s1:(List Int)):Option ((List Int)) :=
  (nilO s1 fun b2=>(if b2 then some [] else ((appO [] s1).bind fun x4=>some x4)))
def Qdv (P:Program) (c:Nat) (f:Qf→Option (Qe×(List Int))):Prop:=∀ t1 (k2:Nat) (k4:Nat) (k6:Nat) r,f t1 = some r→∀ M nb,(M k2 = some (.cells [(l_ t1.zN.zA.zJ),(i_ t1.zN.zA.zM),(l_ t1.zN.zA.zK),.d (.lst 3 (List.map Qa t1.zN.zA.zL)),(l_ t1.zN.zC),(l_ t1.zN.zB),(l_ t1.zN.zD),(i_ t1.zN.Tick),.sl 1 k4 0 t1.from_.length t1.from_.length,.sl 1 k6 0 t1.left_.length t1.left_.length]))→(M k4 = some (.cells (Qz (fun (x:List Qc)=>[V.d (.lst 3 (List.map Qa x))]) t1.from_)))→(M k6 = some (.cells (Qz (fun (x:Bool)=>[V.d (.bool x)]) t1.left_)))→ACalls P c [.ptr k2 0] M nb (.tup [(Qm r.1),(o_ r.2)]) M nb
def Qkh:List COp:=[oo 2 (.alloc [.nils 1,.d (.int .i64 0),.nils 1,.nils 3]) [],ot 3 .mov [.c (.nils 1)]]
def Qki:List COp:=[oM 12 0,oo 13 .nilchk [.t 12],oF 14 0 13,oF 15 0 14,oF 16 0 15,oL 17 16,oo 18 (.call 72) [.t 17],ot 19 (.build [.nils 1,.d (.int .i64 0),.nils 1,.nils 3] [(0,1)]) [.t 18],oo 4 (.alloc [.nils 1,.d (.int .i64 0),.nils 1,.nils 3]) [],⟨none,.store 4,[.t 4,.t 19],true,none⟩]
def Qkj:List COp:=[ot 5 .mov [.c (.nils 1)]]
def Qkk:List COp:=[oo 20 .mkmap [],oM 6 20]
def Qkl:List COp:=[oM 21 0,oo 22 .nilchk [.t 21],oF 23 9 22,oL 24 23,oo 25 .len [.t 24],oo 26 (.bin .gtr false) [.t 25,cI 0],oM 27 26,⟨some 28,.mov,[.t 0],false,some (27,true)⟩,⟨some 29,.nilchk,[.t 28],false,some (27,true)⟩,⟨some 30,.fld 9,[.t 29],false,some (27,true)⟩,⟨some 31,.load false 1,[.t 30],false,some (27,true)⟩,⟨some 32,.idx 1,[.t 31,cI 0],false,some (27,true)⟩,⟨some 33,.load false 1,[.t 32],false,some (27,true)⟩,oo 34 .pick [.t 27,.t 33,.c (.d (.bool false))]]
def Qkm:List COp:=[ot 35 .mov [.t 5],oo 36 (.bslice 1 1 [.d (.int .i64 0)] [0]) [cI 0],ot 37 (.append 1 8) [.t 35,.t 36],ot 5 .mov [.t 37]]
def Qkn:List COp:=[oM 38 6,⟨none,.mapset (.int .i64),[.t 38,cI 0,cI 0],false,none⟩]
def Qko:List COp:=[oo 7 .mov [cI 0]]
def Qkp:List COp:=[oM 39 7,oM 40 5,oo 41 .len [.t 40],oo 42 (.bin .lss false) [.t 39,.t 41]]
def Qkq:List COp:=[oM 45 0,oo 46 .nilchk [.t 45],oF 47 0 46,oF 48 0 47,oF 49 2 48,oL 50 49,oM 51 5,oM 52 7,oo 53 (.idx 1) [.t 51,.t 52],oL 54 53,oo 55 (.call 50) [.t 50,.t 54]]
def Qjm:List COp:=[oF 56 2 4,oo 57 .loadT [.t 56],oM 58 7,oo 59 (.bslice 1 1 [.d (.int .i64 0)] [0]) [.t 58],ot 60 (.append 1 8) [.t 57,.t 59],oF 61 2 4,⟨none,.store 1,[.t 61,.t 60],true,none⟩]
def Qjn:List COp:=[oM 62 0,oo 63 .nilchk [.t 62],oF 64 8 63,oL 65 64,oM 66 5,oM 67 7,oo 68 (.idx 1) [.t 66,.t 67],oL 69 68,oo 70 (.idx 1) [.t 65,.t 69],oL 71 70,oo 72 .len [.t 71],oo 73 .mov [cI 0]]
def Qjo:List COp:=[oo 74 (.bin .lss false) [.t 73,.t 72]]
def Qjp:List COp:=[oo 75 (.idx 3) [.t 71,.t 73],oo 76 (.load true 3) [.t 75],oo 9 (.alloc [.d (.int .i64 0),.d (.int .i64 0),.d (.int .i64 0)]) [],⟨none,.store 3,[.t 9,.t 76],false,none⟩]
def Qjq:List COp:=[oM 77 0,oo 78 .nilchk [.t 77],oF 79 9 78,oL 80 79,oF 81 2 9,oL 82 81,oo 83 (.idx 1) [.t 80,.t 82],oL 84 83,oo 85 (.un .not) [.t 84]]
def Qjr:List COp:=[oM 87 6,oF 88 2 9,oL 89 88,oo 90 (.lookup (.int .i64) true (.d (.int .i64 0))) [.t 87,.t 89],oM 86 90,oo 91 (.extract 0) [.t 86],oo 92 (.extract 1) [.t 86],oM 10 91,oM 11 92]
def Qjs:List COp:=[oM 93 11,oo 94 (.un .not) [.t 93]]
def Qjt:List COp:=[oM 95 6,oF 96 2 9,oL 97 96,oM 98 5,oo 99 .len [.t 98],⟨none,.mapset (.int .i64),[.t 95,.t 97,.t 99],false,none⟩]
def Qju:List COp:=[ot 100 .mov [.t 5],oF 101 2 9,oL 102 101,oo 103 (.bslice 1 1 [.d (.int .i64 0)] [0]) [.t 102],ot 104 (.append 1 8) [.t 100,.t 103],ot 5 .mov [.t 104]]
def Qjv:List COp:=[oF 105 3 4,oo 106 .loadT [.t 105],oM 107 7,oF 108 1 9,oL 109 108,oM 110 6,oF 111 2 9,oL 112 111,oo 113 (.lookup (.int .i64) false (.d (.int .i64 0))) [.t 110,.t 112],oo 114 (.build [.d (.int .i64 0),.d (.int .i64 0),.d (.int .i64 0)] [(0,1),(1,1),(2,1)]) [.t 107,.t 109,.t 113],oo 115 (.bslice 3 1 [.d (.int .i64 0),.d (.int .i64 0),.d (.int .i64 0)] [0]) [.t 114],ot 116 (.append 3 24) [.t 106,.t 115],oF 117 3 4,⟨none,.store 1,[.t 117,.t 116],true,none⟩]
def Qjw:List COp:=[oo 118 (.bin .add false) [.t 73,cI 1],oM 73 118]
def Qjx:List COp:=[oM 43 7,oo 44 (.bin .add false) [.t 43,cI 1],oM 7 44]
def Qjy:List COp:=[oM 119 5,oo 120 .len [.t 119],oF 121 1 4,⟨none,.store 1,[.t 121,.t 120],false,none⟩]
def Qjz:List COp:=[oo 122 (.load true 4) [.t 4],ot 123 .mov [.t 5],⟨none,.store 4,[.t 2,.t 122],true,none⟩,ot 3 .mov [.t 123]]
def Qdw:CFn:=⟨1,124,[.cell 2 true 4,.t 3],.seq (.region Qkh 9 []) (.seq (.region Qki 9 []) (.seq (.region Qkj 9 []) (.seq (.region Qkk 9 []) (.seq (.seq (.region Qkl 9 []) (.cond (.t 34) (.seq (.region Qkm 9 []) (.region Qkn 9 [])) (.skip))) (.seq (.seq (.region Qko 9 []) (.block 0 (.loop [59,9,103,115] (.seq (.seq (.region Qkp 9 []) (.cond (.t 42) (.skip) (.exit 0))) (.seq (.block 1 (.seq (.seq (.region Qkq 0 []) (.cond (.t 55) (.region Qjm 9 []) (.skip))) (.seq (.region Qjn 0 []) (.block 2 (.loop [9,103,115] (.seq (.region Qjo 9 []) (.seq (.cond (.t 74) (.skip) (.exit 2)) (.seq (.block 3 (.seq (.region Qjp 9 []) (.seq (.seq (.region Qjq 0 []) (.cond (.t 85) (.exit 3) (.skip))) (.seq (.seq (.region Qjr 9 []) (.seq (.region Qjs 9 []) (.cond (.t 94) (.seq (.region Qjt 9 []) (.region Qju 9 [])) (.skip)))) (.region Qjv 9 []))))) (.region Qjw 9 []))))))))) (.region Qjx 9 [])))))) (.seq (.region Qjy 9 []) (.seq (.region Qjz 9 []) (.ret))))))))⟩
def Q1 (Qj:(List Int)→Int→Option Bool) (Qcu:(List Int)→Option ((List Int))) (fuel:Nat) (t1:Qf):Option (Qe×(List Int)) :=
  ((Qcu t1.zN.zA.zJ).bind fun x9=>(((((if ((t1.left_.length:Int) > 0) then ((inO t1.left_.length 0).bind fun u11=>((getO t1.left_ 0).bind fun x13=>some x13)) else some false)).bind fun (x15:Bool)=>(if x15 then ((appO [] [0]).bind fun x17=>some (x17,(setM ([]:List (Int×Int)) 0 0))) else some ([],[])))).bind fun ((origins19,c20):(List Int)×(List (Int×Int)))=>((Qcm (fun k29 ((origins21,i22,c23,c24,c25,a26,a27,c28):(List Int)×Int×(List Int)×(List Int)×(List Qc)×(List Int)×(List Qc)×(List (Int×Int)))=>(if (i22 < (origins21.length:Int)) then ((((((getO origins21 i22).bind fun x31=>((Qj t1.zN.zA.zK x31).bind fun x34=>(if x34 then ((appO a26 [i22]).bind fun x36=>some x36) else some a26)))).bind fun (a38:List Int)=>((getO origins21 i22).bind fun x39=>((inO t1.from_.length x39).bind fun u41=>((getO t1.from_ x39).bind fun x43=>Qcm (fun k49 ((origins45,x46,a47,c48):(List Int)×Int×(List Qc)×(List (Int×Int)))=>(if (x46 < (x43.length:Int)) then ((((getO x43 x46).bind fun x51=>((inO t1.left_.length x51.To).bind fun u53=>((getO t1.left_ x51.To).bind fun x55=>(if x55 then (((if (hasM c48 x51.To) then some (origins45,c48) else ((appO origins45 [x51.To]).bind fun x59=>some (x59,(setM c48 x51.To (origins45.length:Int)))))).bind fun ((origins61,c62):(List Int)×(List (Int×Int)))=>((appO a47 [(Qc.mk i22 x51.Event (getM c62 x51.To 0))]).bind fun x63=>some (origins61,x63,c62,x51.From,x51.Event,x51.To))) else some (origins45,a47,c48,x51.From,x51.Event,x51.To)))))).bind fun ((origins65,a66,c67,c68,c69,c70):(List Int)×(List Qc)×(List (Int×Int))×Int×Int×Int)=>k49 (origins65,(IntKind.wrap .i64 (x46 + 1)),a66,c67)) else some (origins45,a38,a47,c48))) fuel (origins21,0,a27,c28)))))).bind fun ((origins71,a72,a73,c74):(List Int)×(List Int)×(List Qc)×(List (Int×Int)))=>k29 (origins71,(IntKind.wrap .i64 (i22 + 1)),c23,c24,c25,a72,a73,c74)) else some (origins21,c23,c24,c25,a26,a27,c28))) fuel (origins19,0,[],[],[],[],[],c20)).bind fun ((origins75,c76,c77,c78,a79,a80,c81):(List Int)×(List Int)×(List Int)×(List Qc)×(List Int)×(List Qc)×(List (Int×Int)))=>some ((Qe.mk x9 (origins75.length:Int) a79 a80),origins75))))
def Qds (P:Program) (c:Nat) (f:Qb→Option (Qbm×Int)):Prop:=∀ p1 r,f p1 = some r→∀ M nb,ACalls P c [.agg [(l_ p1.zA.zJ),(i_ p1.zA.zM),(l_ p1.zA.zK),.d (.lst 3 (List.map Qa p1.zA.zL)),(l_ p1.zC),(l_ p1.zB),(l_ p1.zD),(i_ p1.Tick)]] M nb (.tup [.agg [(l_ r.1.zE.Kept),(l_ r.1.zE.zF),.d (.lst 4 (List.map Qg r.1.zE.zG)),(i_ r.1.Rounds),(l_ r.1.zH.zJ),(i_ r.1.zH.zM),(l_ r.1.zH.zK),.d (.lst 3 (List.map Qa r.1.zH.zL)),(l_ r.1.zO),(l_ r.1.zI)],(i_ r.2)]) M nb
def Qpe:List COp:=[oo 1 (.box 8) [.t 0],oo 2 (.alloc [.nils 1,.nils 1,.nils 4,.d (.int .i64 0),.nils 1,.d (.int .i64 0),.nils 1,.nils 3,.nils 1,.nils 1]) [],oo 3 .mov [cI 0]]
def Qpf:List COp:=[oo 17 (.load true 8) [.t 1],oo 18 (.call 30) [.t 17],oM 4 18]
def Qpg:List COp:=[oM 19 4,oo 20 (.bin .neq false) [.t 19,cI 0]]
def Qph:List COp:=[oo 21 (.build [.nils 1,.nils 1,.nils 4,.d (.int .i64 0),.nils 1,.d (.int .i64 0),.nils 1,.nils 3,.nils 1,.nils 1] []) [],oM 22 4,⟨none,.store 10,[.t 2,.t 21],true,none⟩,oM 3 22]
def Qpi:List COp:=[oo 23 (.load true 8) [.t 1],oo 24 (.call 37) [.t 23],oo 5 (.alloc [.nilp]) [],⟨none,.store 1,[.t 5,.t 24],false,none⟩]
def Qpj:List COp:=[oo 6 (.alloc [.nils 1,.nils 1,.nils 4,.d (.int .i64 0),.nils 1,.d (.int .i64 0),.nils 1,.nils 3,.nils 1,.nils 1]) []]
def Qpk:List COp:=[oL 25 5,oo 26 .nilchk [.t 25],oF 27 9 26,oL 28 27,oo 29 .len [.t 28],oo 30 (.makes 4 32 [.d (.int .i64 0),.d (.int .i64 0),.d (.int .i64 0),.d (.int .i64 0)]) [.t 29,.t 29],ot 7 .mov [.t 30]]
def Qpl:List COp:=[oF 31 4 1,oL 32 31,oo 33 .len [.t 32],oo 34 .mov [cI 0]]
def Qpm:List COp:=[oo 35 (.bin .lss false) [.t 34,.t 33]]
def Qpn:List COp:=[oo 36 (.idx 1) [.t 32,.t 34],oL 37 36,oM 9 37]
def Qny:List COp:=[oM 38 7,oM 39 9,oM 40 9,oo 41 (.build [.d (.int .i64 0),.d (.int .i64 0),.d (.int .i64 0),.d (.int .i64 0)] [(0,1),(1,1),(2,1),(3,1)]) [.t 40,cI 1,cI 1,cI (-1)],oo 42 (.idx 4) [.t 38,.t 39],⟨none,.store 4,[.t 42,.t 41],false,none⟩,oF 43 3 6,⟨none,.store 1,[.t 43,cI 1],false,none⟩]
def Qnz:List COp:=[oo 44 (.bin .add false) [.t 34,cI 1],oM 34 44]
def Qn0:List COp:=[oo 10 .mov [cI 2]]
def Qn1:List COp:=[oL 47 5,oM 48 10,oo 49 (.call 38) [.t 47,.t 48],ot 11 .mov [.t 49]]
def Qn2:List COp:=[oM 50 11,oo 51 .len [.t 50],oo 52 (.bin .eql false) [.t 51,cI 0]]
def Qn3:List COp:=[oM 53 11,oo 54 .len [.t 53],oo 55 .mov [cI 0]]
def Qn4:List COp:=[oo 56 (.bin .lss false) [.t 55,.t 54]]
def Qn5:List COp:=[oo 57 (.idx 4) [.t 53,.t 55],oo 58 (.load true 4) [.t 57],oo 13 (.alloc [.d (.int .i64 0),.d (.int .i64 0),.d (.int .i64 0),.d (.int .i64 0)]) [],⟨none,.store 4,[.t 13,.t 58],false,none⟩]
def Qn6:List COp:=[oL 59 5,oo 60 .nilchk [.t 59],oF 61 9 60,oL 62 61,oF 63 0 13,oL 64 63,oM 65 7,oF 66 0 13,oL 67 66,oo 68 (.load true 4) [.t 13],oo 69 (.idx 1) [.t 62,.t 64],⟨none,.store 1,[.t 69,.c (.d (.bool false))],false,none⟩,oo 70 (.idx 4) [.t 65,.t 67],⟨none,.store 4,[.t 70,.t 68],false,none⟩]
def Qn7:List COp:=[oo 71 (.bin .add false) [.t 55,cI 1],oM 55 71]
def Qn8:List COp:=[oM 72 10,oF 73 3 6,⟨none,.store 1,[.t 73,.t 72],false,none⟩]
def Qn9:List COp:=[oM 45 10,oo 46 (.bin .add false) [.t 45,cI 1],oM 10 46]
def Qoa:List COp:=[oF 74 0 6,oM 14 74]
def Qob:List COp:=[oL 75 5,oo 76 (.call 39) [.t 75],oo 77 .len [.t 76],oo 78 .mov [cI 0]]
def Qoc:List COp:=[oo 79 (.bin .lss false) [.t 78,.t 77]]
def Qod:List COp:=[oM 80 78,oo 81 (.idx 1) [.t 76,.t 78],oL 82 81,oM 15 80,oM 16 82]
def Qoe:List COp:=[oL 83 5,oo 84 .nilchk [.t 83],oF 85 9 84,oL 86 85,oM 87 15,oo 88 (.idx 1) [.t 86,.t 87],oL 89 88,oo 90 (.un .not) [.t 89]]
def Qof:List COp:=[oM 91 14,oM 92 14,oo 93 .nilchk [.t 92],oF 94 2 93,oo 95 .loadT [.t 94],oM 96 7,oM 97 15,oo 98 (.idx 4) [.t 96,.t 97],oo 99 (.load true 4) [.t 98],oo 100 (.bslice 4 1 [.d (.int .i64 0),.d (.int .i64 0),.d (.int .i64 0),.d (.int .i64 0)] [0]) [.t 99],ot 101 (.append 4 32) [.t 95,.t 100],oo 102 .nilchk [.t 91],oF 103 2 102,⟨none,.store 1,[.t 103,.t 101],true,none⟩]
def Qog:List COp:=[oM 104 14,oM 105 14,oM 106 14,oo 107 .nilchk [.t 106],oF 108 0 107,oo 109 .loadT [.t 108],oM 110 15,oo 111 (.bslice 1 1 [.d (.int .i64 0)] [0]) [.t 110],ot 112 (.append 1 8) [.t 109,.t 111],oM 113 14,oo 114 .nilchk [.t 113],oF 115 1 114,oo 116 .loadT [.t 115],oM 117 16,oo 118 (.bslice 1 1 [.d (.int .i64 0)] [0]) [.t 117],ot 119 (.append 1 8) [.t 116,.t 118],oo 120 .nilchk [.t 104],oF 121 0 120,⟨none,.store 1,[.t 121,.t 112],true,none⟩,oo 122 .nilchk [.t 105],oF 123 1 122,⟨none,.store 1,[.t 123,.t 119],true,none⟩]
def Qoh:List COp:=[oL 124 5,oo 125 .nilchk [.t 124],oF 126 8 125,oL 127 126,oM 128 15,oo 129 (.idx 1) [.t 127,.t 128],oL 130 129,oo 131 (.func 41) [.t 1,.t 5],oo 132 (.call 40) [.t 130,.t 131]]
def Qoi:List COp:=[oF 133 9 6,oo 134 .loadT [.t 133],oM 135 15,oo 136 (.bslice 1 1 [.d (.int .i64 0)] [0]) [.t 135],ot 137 (.append 1 8) [.t 134,.t 136],oF 138 9 6,⟨none,.store 1,[.t 138,.t 137],true,none⟩]
def Qoj:List COp:=[oo 139 (.bin .add false) [.t 78,cI 1],oM 78 139]
def Qok:List COp:=[oL 141 5,oo 142 (.call 42) [.t 141],oM 140 142,oo 143 (.extract 0) [.t 140],ot 144 (.extract 1) [.t 140],oF 145 4 6,⟨none,.store 4,[.t 145,.t 143],true,none⟩,oF 146 8 6,⟨none,.store 1,[.t 146,.t 144],true,none⟩]
def Qol:List COp:=[oo 147 (.load true 10) [.t 6],⟨none,.store 10,[.t 2,.t 147],true,none⟩,oo 3 .mov [cI 0]]
def Qe6:CFn:=⟨1,148,[.cell 2 true 10,.t 3],.seq (.region Qpe 9 []) (.seq (.seq (.region Qpf 9 []) (.seq (.region Qpg 9 []) (.cond (.t 20) (.seq (.region Qph 9 []) (.ret)) (.skip)))) (.seq (.region Qpi 9 []) (.seq (.region Qpj 9 []) (.seq (.region Qpk 9 []) (.seq (.seq (.region Qpl 9 []) (.block 0 (.loop [] (.seq (.region Qpm 9 []) (.seq (.cond (.t 35) (.skip) (.exit 0)) (.seq (.block 1 (.seq (.region Qpn 9 []) (.region Qny 9 []))) (.region Qnz 9 []))))))) (.seq (.seq (.region Qn0 9 []) (.block 2 (.loop [13] (.seq (.block 3 (.seq (.region Qn1 9 []) (.seq (.seq (.region Qn2 9 []) (.cond (.t 52) (.exit 2) (.skip))) (.seq (.seq (.region Qn3 9 []) (.block 4 (.loop [13] (.seq (.region Qn4 9 []) (.seq (.cond (.t 56) (.skip) (.exit 4)) (.seq (.block 5 (.seq (.region Qn5 9 []) (.region Qn6 0 [⟨66,1,69,1⟩,⟨13,4,69,1⟩]))) (.region Qn7 9 []))))))) (.region Qn8 9 []))))) (.region Qn9 9 []))))) (.seq (.region Qoa 9 []) (.seq (.seq (.region Qob 9 []) (.block 6 (.loop [100,111,118,136] (.seq (.region Qoc 9 []) (.seq (.cond (.t 79) (.skip) (.exit 6)) (.seq (.block 7 (.seq (.region Qod 9 []) (.seq (.seq (.region Qoe 9 []) (.cond (.t 90) (.seq (.region Qof 0 []) (.exit 7)) (.skip))) (.seq (.region Qog 0 [⟨108,1,115,1⟩]) (.seq (.region Qoh 9 []) (.cond (.t 132) (.region Qoi 9 []) (.skip))))))) (.region Qoj 9 []))))))) (.seq (.region Qok 9 []) (.seq (.region Qol 9 []) (.ret)))))))))))⟩
def Qu (Q4:Qb→Option Int) (Q5:Qb→Option Qf) (Qbj:Qf→Int→Option ((List Qd))) (Qp:Qf→Option ((List Int))) (Qq:(List Qc)→(Qc→Option Bool)→Option Bool) (Q9:Qc→Qb→Qf→Option Bool) (Q1:Qf→Option (Qe×(List Int))) (fuel:Nat) (p1:Qb):Option (Qbm×Int) :=
  ((Q4 p1).bind fun x3=>(if (x3 != 0) then some ((Qbm.mk (Qgg.mk [] [] []) 0 (Qe.mk [] 0 [] []) [] []),x3) else ((Q5 p1).bind fun x5=>((mkO (x5.left_.length:Int) (Qd.mk 0 0 0 0)).bind fun x7=>((Qcm (fun k12 ((x9,r10,c11):Int×Int×(List Qd))=>(if (x9 < (p1.zC.length:Int)) then ((getO p1.zC x9).bind fun x14=>((inO (Int.toNat (x5.left_.length:Int)) x14).bind fun u16=>((setO c11 x14 (Qd.mk x14 1 1 (-1))).bind fun x18=>k12 ((IntKind.wrap .i64 (x9 + 1)),1,x18)))) else some (r10,c11))) fuel (0,0,x7)).bind fun ((r20,c21):Int×(List Qd))=>((Qcm (fun k26 ((rank22,r23,c24,c25):Int×Int×(List Qd)×(List Bool))=>((lenO c25 x5.left_.length).bind fun _=>((Qbj (Qf.mk x5.zN x5.from_ c25) rank22).bind fun x29=>(if ((x29.length:Int) == 0) then some (r23,c24,c25) else ((Qcm (fun k34 ((x31,c32,c33):Int×(List Qd)×(List Bool))=>(if (x31 < (x29.length:Int)) then ((getO x29 x31).bind fun x36=>((inO x5.left_.length x36.State).bind fun u38=>((setO c33 x36.State false).bind fun x40=>((inO (Int.toNat (x5.left_.length:Int)) x36.State).bind fun u42=>((setO c32 x36.State x36).bind fun x44=>k34 ((IntKind.wrap .i64 (x31 + 1)),x44,x40)))))) else some (c32,c33))) fuel (0,c24,c25)).bind fun ((c46,c47):(List Qd)×(List Bool))=>k26 ((IntKind.wrap .i64 (rank22 + 1)),rank22,c46,c47)))))) fuel (2,r20,c21,x5.left_)).bind fun ((r48,c49,c50):Int×(List Qd)×(List Bool))=>((((lenO c50 x5.left_.length).bind fun _=>((Qp (Qf.mk x5.zN x5.from_ c50)).bind fun x53=>Qcm (fun k71 ((x54,c55,c56,c57,c58,c59,c60,c61,c62,r63,r64,r65,r66,r67,r68,r69,r70):Int×(List Int)×(List Int)×(List Qd)×(List Int)×(List Int)×(List Qc)×(List Int)×(List Int)×(List Int)×(List Int)×(List Qd)×(List Int)×(List Int)×(List Qc)×(List Int)×(List Int))=>(if (x54 < (x53.length:Int)) then ((((getO x53 x54).bind fun x73=>((inO x5.left_.length x54).bind fun u75=>((getO c50 x54).bind fun x77=>(if x77 then ((appO r63 [x54]).bind fun x86=>((appO r64 [x73]).bind fun x88=>((inO x5.from_.length x54).bind fun u90=>((getO x5.from_ x54).bind fun x92=>((lenO c50 x5.left_.length).bind fun _=>((Qq x92 (fun a94=>Q9 a94 p1 (Qf.mk x5.zN x5.from_ c50))).bind fun x99=>(if x99 then ((appO r70 [x54]).bind fun x101=>some (x86,x88,r65,x101)) else some (x86,x88,r65,r70)))))))) else ((inO (Int.toNat (x5.left_.length:Int)) x54).bind fun u80=>((getO c49 x54).bind fun x82=>((appO r65 [x82]).bind fun x84=>some (r63,r64,x84,r70))))))))).bind fun ((r103,r104,r105,r106):(List Int)×(List Int)×(List Qd)×(List Int))=>k71 ((IntKind.wrap .i64 (x54 + 1)),c55,c56,c57,c58,c59,c60,c61,c62,r103,r104,r105,r66,r67,r68,r69,r106)) else some (c55,c56,c57,c58,c59,c60,c61,c62,r63,r64,r65,r66,r67,r68,r69,r70))) fuel (0,[],[],[],[],[],[],[],[],[],[],[],[],[],[],[],[])))).bind fun ((c107,c108,c109,c110,c111,c112,c113,c114,r115,r116,r117,r118,r119,r120,r121,r122):(List Int)×(List Int)×(List Qd)×(List Int)×(List Int)×(List Qc)×(List Int)×(List Int)×(List Int)×(List Int)×(List Qd)×(List Int)×(List Int)×(List Qc)×(List Int)×(List Int))=>((lenO c50 x5.left_.length).bind fun _=>((Q1 (Qf.mk x5.zN x5.from_ c50)).bind fun (r125,r126)=>some ((Qbm.mk (Qgg.mk r115 r116 r117) r48 r125 r126 r122),0))))))))))
def Qe7 (P:Program) (c:Nat) (f:Int→Int→Int→Int→Int→Option Int):Prop:=∀ state1 x2 x3 x6 x9 (k4:Nat) (k7:Nat) (k10:Nat) r,f state1 x2 x3 x6 x9 = some r→∀ M nb,(M k4 = some (.cells [(i_ x3)]))→(M k7 = some (.cells [(i_ x6)]))→(M k10 = some (.cells [(i_ x9)]))→ACalls P c [(i_ state1),(i_ x2),.ptr k4 0,.ptr k7 0,.ptr k10 0] M nb (i_ r) M nb
def Qpo:List COp:=[oo 7 .mov [cI 0]]
def Qpp:List COp:=[oM 9 1,oL 10 2,oo 11 (.bin .eql false) [.t 9,.t 10],oM 8 11]
def Qpq:List COp:=[oM 12 0,oM 7 12]
def Qpr:List COp:=[oM 14 1,oL 15 3,oo 16 (.bin .eql false) [.t 14,.t 15],oM 13 16]
def Qps:List COp:=[oo 7 .mov [cI 0]]
def Qpt:List COp:=[oM 18 0,oL 19 4,oo 20 (.bin .leq false) [.t 18,.t 19],oM 17 20]
def Qpu:List COp:=[oM 21 0,oo 22 (.bin .add false) [.t 21,cI 1],oM 7 22]
def Qpv:List COp:=[oo 7 .mov [cI (-1)]]
def Qe8:CFn:=⟨5,23,[.t 7],.seq (.region Qpo 9 []) (.seq (.block 0 (.seq (.region Qpp 9 []) (.cond (.t 8) (.seq (.region Qpq 9 []) (.ret)) (.seq (.region Qpr 9 []) (.cond (.t 13) (.seq (.region Qps 9 []) (.ret)) (.seq (.region Qpt 9 []) (.cond (.t 17) (.seq (.region Qpu 9 []) (.ret)) (.skip)))))))) (.seq (.region Qpv 9 []) (.ret)))⟩
def Qbt (state1:Int) (x2:Int) (x3:Int) (x6:Int) (x9:Int):Option Int :=
  (if (x2 == x3) then some state1 else (if (x2 == x6) then some 0 else (if (state1≤x9) then some (IntKind.wrap .i64 (state1 + 1)) else some (-1))))
def Qg1 (P:Program) (c:Nat) (f:Int→Int→Int→Int→Bool→(Int→Int→Option Int)→Option (Qe×Int)):Prop:=∀ xfrom1 to2 ticks3 tick4 marked5 lead6 (g7:Nat) (cp8:List V) r,f xfrom1 to2 ticks3 tick4 marked5 lead6 = some r→∀ M nb,(V.dems cp8 = cp8)→(V.ons (There M) cp8)→(∀ a12 a13 r,lead6 a12 a13 = some r→∀ M2 nb2,nb≤nb2→Ext M M2→ACalls P g7 ([(i_ a12),(i_ a13)] ++ cp8) M2 nb2 (i_ r) M2 nb2)→ACalls P c [(i_ xfrom1),(i_ to2),(i_ ticks3),(i_ tick4),(b_ marked5),.clo g7 cp8] M nb (.tup [(Qm r.1),(i_ r.2)]) M nb
def Qwq:List COp:=[oo 12 (.alloc [.nils 1,.d (.int .i64 0),.nils 1,.nils 3]) [],oo 13 .mov [cI 0]]
def Qwr:List COp:=[oM 20 0,oo 21 (.call 65) [.t 20],oo 22 (.un .not) [.t 21],oM 23 22,⟨some 24,.mov,[.t 1],false,some (23,false)⟩,⟨some 25,.call 65,[.t 24],false,some (23,false)⟩,⟨some 26,.un .not,[.t 25],false,some (23,false)⟩,oo 27 .pick [.t 23,.c (.d (.bool true)),.t 26],oM 28 27,⟨some 29,.mov,[.t 3],false,some (28,false)⟩,⟨some 30,.call 65,[.t 29],false,some (28,false)⟩,⟨some 31,.un .not,[.t 30],false,some (28,false)⟩,oo 32 .pick [.t 28,.c (.d (.bool true)),.t 31],oM 19 32]
def Qws:List COp:=[oo 33 (.build [.nils 1,.d (.int .i64 0),.nils 1,.nils 3] []) [],⟨none,.store 4,[.t 12,.t 33],true,none⟩,oo 13 .mov [cI 2]]
def Qwt:List COp:=[oM 35 0,oM 36 1,oo 37 (.bin .eql false) [.t 35,.t 36],oM 38 37,⟨some 39,.mov,[.t 0],false,some (38,false)⟩,⟨some 40,.mov,[.t 3],false,some (38,false)⟩,⟨some 41,.bin .eql false,[.t 39,.t 40],false,some (38,false)⟩,oo 42 .pick [.t 38,.c (.d (.bool true)),.t 41],oM 43 42,⟨some 44,.mov,[.t 1],false,some (43,false)⟩,⟨some 45,.mov,[.t 3],false,some (43,false)⟩,⟨some 46,.bin .eql false,[.t 44,.t 45],false,some (43,false)⟩,oo 47 .pick [.t 43,.c (.d (.bool true)),.t 46],oM 34 47]
def Qwu:List COp:=[oo 48 (.build [.nils 1,.d (.int .i64 0),.nils 1,.nils 3] []) [],⟨none,.store 4,[.t 12,.t 48],true,none⟩,oo 13 .mov [cI 13]]
def Qwv:List COp:=[oM 50 2,oo 51 (.bin .lss false) [.t 50,cI 0],oM 52 51,⟨some 53,.mov,[.t 2],false,some (52,false)⟩,⟨some 54,.bin .gtr false,[.t 53,cI 16],false,some (52,false)⟩,oo 55 .pick [.t 52,.c (.d (.bool true)),.t 54],oM 49 55]
def Qww:List COp:=[oo 56 (.build [.nils 1,.d (.int .i64 0),.nils 1,.nils 3] []) [],⟨none,.store 4,[.t 12,.t 56],true,none⟩,oo 13 .mov [cI 2]]
def Qwx:List COp:=[oM 57 0,oM 58 1,oM 59 3,oo 60 (.bslice 1 3 [.d (.int .i64 0)] [0,1,2]) [.t 57,.t 58,.t 59],oM 61 2,oo 62 (.bin .add false) [.t 61,cI 2],ot 63 (.build [.nils 1,.d (.int .i64 0),.nils 1,.nils 3] [(0,1),(1,1)]) [.t 60,.t 62],oo 14 (.alloc [.nils 1,.d (.int .i64 0),.nils 1,.nils 3]) [],⟨none,.store 4,[.t 14,.t 63],true,none⟩]
def Qwy:List COp:=[oF 64 0 14,oL 65 64,oo 66 (.call 73) [.t 65]]
def Qwz:List COp:=[oF 67 1 14,oL 68 67,oo 69 .mov [cI 0]]
def Quu:List COp:=[oo 70 (.bin .lss false) [.t 69,.t 68]]
def Quv:List COp:=[oM 71 69,oM 15 71]
def Quw:List COp:=[oM 72 15,oo 73 (.bin .eql false) [.t 72,cI 0],oM 74 73,⟨some 75,.mov,[.t 4],false,some (74,false)⟩,oo 76 .pick [.t 74,.c (.d (.bool true)),.t 75]]
def Qux:List COp:=[oF 77 2 14,oo 78 .loadT [.t 77],oM 79 15,oo 80 (.bslice 1 1 [.d (.int .i64 0)] [0]) [.t 79],ot 81 (.append 1 8) [.t 78,.t 80],oF 82 2 14,⟨none,.store 1,[.t 82,.t 81],true,none⟩]
def Quy:List COp:=[oF 83 0 14,oL 84 83,oo 85 .len [.t 84],oo 86 .mov [cI 0]]
def Quz:List COp:=[oo 87 (.bin .lss false) [.t 86,.t 85]]
def Qu0:List COp:=[oo 88 (.idx 1) [.t 84,.t 86],oL 89 88,oM 17 89]
def Qu1:List COp:=[oM 90 5,oM 91 15,oM 92 17,oo 93 .callv [.t 90,.t 91,.t 92],oM 18 93]
def Qu2:List COp:=[oM 94 15,oo 95 (.bin .eql false) [.t 94,cI 0]]
def Qu3:List COp:=[oo 18 .mov [cI 0]]
def Qu4:List COp:=[oM 96 17,oM 97 0,oo 98 (.bin .eql false) [.t 96,.t 97]]
def Qu5:List COp:=[oo 18 .mov [cI 1]]
def Qu6:List COp:=[oM 99 18,oo 100 (.bin .neq false) [.t 99,cI (-1)]]
def Qu7:List COp:=[oF 101 3 14,oo 102 .loadT [.t 101],oM 103 15,oM 104 17,oM 105 18,oo 106 (.build [.d (.int .i64 0),.d (.int .i64 0),.d (.int .i64 0)] [(0,1),(1,1),(2,1)]) [.t 103,.t 104,.t 105],oo 107 (.bslice 3 1 [.d (.int .i64 0),.d (.int .i64 0),.d (.int .i64 0)] [0]) [.t 106],ot 108 (.append 3 24) [.t 102,.t 107],oF 109 3 14,⟨none,.store 1,[.t 109,.t 108],true,none⟩]
def Qu8:List COp:=[oo 110 (.bin .add false) [.t 86,cI 1],oM 86 110]
def Qu9:List COp:=[oo 111 (.bin .add false) [.t 69,cI 1],oM 69 111]
def Qva:List COp:=[oo 112 (.load true 4) [.t 14],⟨none,.store 4,[.t 12,.t 112],true,none⟩,oo 13 .mov [cI 0]]
def Qg2:CFn:=⟨6,113,[.cell 12 true 4,.t 13],.seq (.region Qwq 9 []) (.seq (.block 0 (.seq (.region Qwr 9 []) (.cond (.t 19) (.seq (.region Qws 9 []) (.ret)) (.seq (.region Qwt 9 []) (.cond (.t 34) (.seq (.region Qwu 9 []) (.ret)) (.seq (.region Qwv 9 []) (.cond (.t 49) (.seq (.region Qww 9 []) (.ret)) (.skip)))))))) (.seq (.region Qwx 9 []) (.seq (.region Qwy 9 []) (.seq (.seq (.region Qwz 9 []) (.block 1 (.loop [80,107] (.seq (.region Quu 9 []) (.seq (.cond (.t 70) (.skip) (.exit 1)) (.seq (.block 2 (.seq (.region Quv 9 []) (.seq (.seq (.region Quw 9 []) (.cond (.t 76) (.region Qux 9 []) (.skip))) (.seq (.region Quy 9 []) (.block 3 (.loop [107] (.seq (.region Quz 9 []) (.seq (.cond (.t 87) (.skip) (.exit 3)) (.seq (.block 4 (.seq (.region Qu0 9 []) (.seq (.region Qu1 9 []) (.seq (.seq (.region Qu2 9 []) (.cond (.t 95) (.seq (.region Qu3 9 []) (.seq (.region Qu4 9 []) (.cond (.t 98) (.region Qu5 9 []) (.skip)))) (.skip))) (.seq (.region Qu6 9 []) (.cond (.t 100) (.region Qu7 9 []) (.skip))))))) (.region Qu8 9 [])))))))))) (.region Qu9 9 []))))))) (.seq (.region Qva 9 []) (.ret))))))⟩
def Qcf (Qy:Int→Option Bool) (f_slices_Sort_int:List Int→Option (List Int)) (fuel:Nat) (xfrom1:Int) (to2:Int) (ticks3:Int) (tick4:Int) (marked5:Bool) (lead6:(Int→Int→Option Int)):Option (Qe×Int) :=
  ((((Qy xfrom1).bind fun x15=>(if x15 then ((Qy to2).bind fun x18=>(if x18 then ((Qy tick4).bind fun x21=>some (!x21)) else some true)) else some true))).bind fun (x22:Bool)=>(if x22 then some ((Qe.mk [] 0 [] []),2) else (((if (xfrom1 == to2) then some true else (if (xfrom1 == tick4) then some true else some (to2 == tick4)))).bind fun (x26:Bool)=>(if x26 then some ((Qe.mk [] 0 [] []),13) else (((if (ticks3 < 0) then some true else some (decide (ticks3 > 16)))).bind fun (x29:Bool)=>(if x29 then some ((Qe.mk [] 0 [] []),2) else ((f_slices_Sort_int [xfrom1,to2,tick4]).bind fun row31=>((Qcm (fun k44 ((x36,x37,c38,c39,c40,a41,a42,a43):Int×Int×(List Int)×(List Int)×(List Qc)×Int×(List Int)×(List Qc))=>(if (x37 < x36) then (((((((if (x37 == 0) then some true else some marked5)).bind fun (x47:Bool)=>(if x47 then ((appO a42 [x37]).bind fun x49=>some x49) else some a42))).bind fun (a51:List Int)=>Qcm (fun k54 ((x52,a53):Int×(List Qc))=>(if (x52 < (3:Int)) then ((((inO 3 x52).bind fun u56=>((getO row31 x52).bind fun x58=>((lead6 x37 x58).bind fun x61=>(((if (x37 == 0) then (if (x58 == xfrom1) then some 1 else some 0) else some x61)).bind fun (next64:Int)=>(if (next64 != (-1)) then ((appO a53 [(Qc.mk x37 x58 next64)]).bind fun x66=>some x66) else some a53)))))).bind fun (a68:List Qc)=>k54 ((IntKind.wrap .i64 (x52 + 1)),a68)) else some (a51,a53))) fuel (0,a43))).bind fun ((a69,a70):(List Int)×(List Qc))=>k44 (x36,(IntKind.wrap .i64 (x37 + 1)),c38,c39,c40,a41,a69,a70)) else some (c38,c39,c40,a41,a42,a43))) fuel ((IntKind.wrap .i64 (ticks3 + 2)),0,[],[],[],(IntKind.wrap .i64 (ticks3 + 2)),[],[])).bind fun ((c71,c72,c73,a74,a75,a76):(List Int)×(List Int)×(List Qc)×Int×(List Int)×(List Qc))=>((lenO row31 3).bind fun _=>some ((Qe.mk row31 a74 a75 a76),0))))))))))
def Qfx (P:Program) (c:Nat) (f:Int→Int→Int→Int→Option (Qe×Int)):Prop:=∀ xfrom1 to2 ticks3 tick4 r,f xfrom1 to2 ticks3 tick4 = some r→∀ M nb,ACalls P c [(i_ xfrom1),(i_ to2),(i_ ticks3),(i_ tick4)] M nb (.tup [(Qm r.1),(i_ r.2)]) M nb
def Qsi:List COp:=[oo 4 (.box 1) [.t 0],oo 5 (.box 1) [.t 1],oo 6 (.box 1) [.t 2],oo 8 (.alloc [.nils 1,.d (.int .i64 0),.nils 1,.nils 3]) [],oo 9 .mov [cI 0]]
def Qsj:List COp:=[oL 10 4,oL 11 5,oL 12 6,oM 13 3,oo 14 (.func 48) [.t 4,.t 5,.t 6],oo 15 (.call 47) [.t 10,.t 11,.t 12,.t 13,.c (.d (.bool false)),.t 14],oo 16 (.extract 0) [.t 15],oo 17 (.extract 1) [.t 15],⟨none,.store 4,[.t 8,.t 16],true,none⟩,oM 9 17]
def Qfy:CFn:=⟨4,18,[.cell 8 true 4,.t 9],.seq (.region Qsi 9 []) (.seq (.region Qsj 9 []) (.ret))⟩
def Qbx (Qcf:Int→Int→Int→Int→Bool→(Int→Int→Option Int)→Option (Qe×Int)) (Qbt:Int→Int→Int→Int→Int→Option Int) (xfrom1:Int) (to2:Int) (ticks3:Int) (tick4:Int):Option (Qe×Int) :=
  ((Qcf xfrom1 to2 ticks3 tick4 false (fun a5 a6=>Qbt a5 a6 xfrom1 to2 ticks3)).bind fun (r10,r11)=>some (r10,r11))
def Qln (P:Program) (c:Nat) (f:(List Int)→(List Int)→Option Bool):Prop:=∀ s1 s2 r,f s1 s2 = some r→∀ M nb,ACalls P c [(l_ s1),(l_ s2)] M nb (b_ r) M nb
def Q3g:List COp:=[oo 4 .mov [.c (.d (.bool false))]]
def Q3h:List COp:=[oM 6 0,oo 7 .len [.t 6],oM 8 1,oo 9 .len [.t 8],oo 10 (.bin .neq false) [.t 7,.t 9]]
def Q3i:List COp:=[oo 4 .mov [.c (.d (.bool false))]]
def Q3j:List COp:=[oM 11 0,oo 12 .len [.t 11],oo 13 .mov [cI 0]]
def Q3k:List COp:=[oo 14 (.bin .lss false) [.t 13,.t 12]]
def Q3l:List COp:=[oM 15 13,oM 5 15]
def Q3m:List COp:=[oM 16 0,oM 17 5,oo 18 (.idx 1) [.t 16,.t 17],oL 19 18,oM 20 1,oM 21 5,oo 22 (.idx 1) [.t 20,.t 21],oL 23 22,oo 24 (.bin .neq false) [.t 19,.t 23]]
def Q3n:List COp:=[oo 4 .mov [.c (.d (.bool false))]]
def Q3o:List COp:=[oo 25 (.bin .add false) [.t 13,cI 1],oM 13 25]
def Q3p:List COp:=[oo 4 .mov [.c (.d (.bool true))]]
def Qlo:CFn:=⟨2,26,[.t 4],.seq (.region Q3g 9 []) (.seq (.seq (.region Q3h 9 []) (.cond (.t 10) (.seq (.region Q3i 9 []) (.ret)) (.skip))) (.seq (.seq (.region Q3j 9 []) (.block 0 (.loop [] (.seq (.region Q3k 9 []) (.seq (.cond (.t 14) (.skip) (.exit 0)) (.seq (.block 1 (.seq (.region Q3l 9 []) (.seq (.region Q3m 0 []) (.cond (.t 24) (.seq (.region Q3n 9 []) (.ret)) (.skip))))) (.region Q3o 9 []))))))) (.seq (.region Q3p 9 []) (.ret))))⟩
def Qcv (fuel:Nat) (s1:(List Int)) (s2:(List Int)):Option Bool :=
  (if ((s1.length:Int) != (s2.length:Int)) then some false else Qcm (fun k5 (x4:Int)=>(if (x4 < (s1.length:Int)) then ((getO s1 x4).bind fun x7=>((getO s2 x4).bind fun x9=>(if (x7 != x9) then some false else k5 (IntKind.wrap .i64 (x4 + 1))))) else some true)) fuel 0)
def Qtu (P:Program) (c:Nat) (f:(List Int)→(List Int)→Option Bool):Prop:=∀ a1 b2 r,f a1 b2 = some r→∀ M nb,ACalls P c [(l_ a1),(l_ b2)] M nb (b_ r) M nb
def Q9p:List COp:=[oo 4 .mov [.c (.d (.bool false))]]
def Q9q:List COp:=[oM 5 0,oM 6 1,oo 7 (.call 45) [.t 5,.t 6],oM 4 7]
def Q1i:CFn:=⟨2,8,[.t 4],.seq (.region Q9p 9 []) (.seq (.region Q9q 9 []) (.ret))⟩
def Qcz (Qcv:(List Int)→(List Int)→Option Bool) (a1:(List Int)) (b2:(List Int)):Option Bool :=
  ((Qcv a1 b2).bind fun x4=>some x4)
def Qif (P:Program) (c:Nat) (f:Option Bool):Prop:=∀ r,f = some r→∀ M nb,ACalls P c [] M nb (b_ r) M nb
def Qx1:List COp:=[oo 0 .mov [.c (.d (.bool false))]]
def Qx2:List COp:=[oo 8 (.bslice 1 1 [.d (.int .i64 0)] [0]) [cI 0],oo 9 (.call 35) [.t 8],oo 10 (.call 11) [.t 9],oM 7 10,oo 11 (.extract 0) [.t 7],oo 12 (.extract 1) [.t 7],oo 1 (.alloc [.nils 1,.nils 1,.nils 4,.d (.int .i64 0),.nils 1,.d (.int .i64 0),.nils 1,.nils 3,.nils 1,.nils 1]) [],⟨none,.store 10,[.t 1,.t 11],true,none⟩,oM 2 12]
def Qx3:List COp:=[oo 14 (.call 35) [.c (.nils 1)],oo 15 (.call 11) [.t 14],oM 13 15,oo 16 (.extract 0) [.t 13],oo 17 (.extract 1) [.t 13],oo 3 (.alloc [.nils 1,.nils 1,.nils 4,.d (.int .i64 0),.nils 1,.d (.int .i64 0),.nils 1,.nils 3,.nils 1,.nils 1]) [],⟨none,.store 10,[.t 3,.t 16],true,none⟩,oM 4 17]
def Qx4:List COp:=[oo 19 (.call 17) [cI 0,cI 1,cI 1,cI 2],oM 18 19,oo 20 (.extract 0) [.t 18],oo 21 (.extract 1) [.t 18],oo 5 (.alloc [.nils 1,.d (.int .i64 0),.nils 1,.nils 3]) [],⟨none,.store 4,[.t 5,.t 20],true,none⟩,oM 6 21]
def Qx5:List COp:=[oM 22 2,oo 23 (.bin .eql false) [.t 22,cI 0],oM 24 23,⟨some 25,.fld 9,[.t 1],false,some (24,true)⟩,⟨some 26,.load false 1,[.t 25],false,some (24,true)⟩,⟨some 27,.bslice 1 1 [.d (.int .i64 0)] [0],[cI 0],false,some (24,true)⟩,⟨some 28,.call 16,[.t 26,.t 27],false,some (24,true)⟩,oo 29 .pick [.t 24,.t 28,.c (.d (.bool false))],oM 30 29,⟨some 31,.fld 9,[.t 1],false,some (30,true)⟩,⟨some 32,.load false 1,[.t 31],false,some (30,true)⟩,⟨some 33,.len,[.t 32],false,some (30,true)⟩,⟨some 34,.bin .eql false,[.t 33,cI 1],false,some (30,true)⟩,oo 35 .pick [.t 30,.t 34,.c (.d (.bool false))],oM 36 35,⟨some 37,.fld 4,[.t 1],false,some (36,true)⟩,⟨some 38,.fld 1,[.t 37],false,some (36,true)⟩,⟨some 39,.load false 1,[.t 38],false,some (36,true)⟩,⟨some 40,.bin .eql false,[.t 39,cI 1],false,some (36,true)⟩,oo 41 .pick [.t 36,.t 40,.c (.d (.bool false))],oM 42 41,⟨some 43,.mov,[.t 4],false,some (42,true)⟩,⟨some 44,.bin .eql false,[.t 43,cI 0],false,some (42,true)⟩,oo 45 .pick [.t 42,.t 44,.c (.d (.bool false))],oM 46 45,⟨some 47,.fld 0,[.t 3],false,some (46,true)⟩,⟨some 48,.fld 2,[.t 47],false,some (46,true)⟩,⟨some 49,.load false 1,[.t 48],false,some (46,true)⟩,⟨some 50,.len,[.t 49],false,some (46,true)⟩,⟨some 51,.bin .eql false,[.t 50,cI 2],false,some (46,true)⟩,oo 52 .pick [.t 46,.t 51,.c (.d (.bool false))],oM 53 52,⟨some 54,.fld 0,[.t 3],false,some (53,true)⟩,⟨some 55,.fld 2,[.t 54],false,some (53,true)⟩,⟨some 56,.load false 1,[.t 55],false,some (53,true)⟩,⟨some 57,.idx 4,[.t 56,cI 0],false,some (53,true)⟩,⟨some 58,.load true 4,[.t 57],false,some (53,true)⟩,⟨some 59,.build [.d (.int .i64 0),.d (.int .i64 0),.d (.int .i64 0),.d (.int .i64 0)] [(0,1),(1,1),(2,1),(3,1)],[cI 0,cI 2,cI 4,cI 2],false,some (53,true)⟩,⟨some 60,.eqa false [0,0,0,0],[.t 58,.t 59],false,some (53,true)⟩,oo 61 .pick [.t 53,.t 60,.c (.d (.bool false))],oM 62 61,⟨some 63,.mov,[.t 6],false,some (62,true)⟩,⟨some 64,.bin .eql false,[.t 63,cI 0],false,some (62,true)⟩,oo 65 .pick [.t 62,.t 64,.c (.d (.bool false))],oM 66 65,⟨some 67,.fld 1,[.t 5],false,some (66,true)⟩,⟨some 68,.load false 1,[.t 67],false,some (66,true)⟩,⟨some 69,.bin .eql false,[.t 68,cI 3],false,some (66,true)⟩,oo 70 .pick [.t 66,.t 69,.c (.d (.bool false))],oM 71 70,⟨some 72,.fld 3,[.t 5],false,some (71,true)⟩,⟨some 73,.load false 1,[.t 72],false,some (71,true)⟩,⟨some 74,.len,[.t 73],false,some (71,true)⟩,⟨some 75,.bin .eql false,[.t 74,cI 8],false,some (71,true)⟩,oo 76 .pick [.t 71,.t 75,.c (.d (.bool false))],oM 0 76]
def Qig:CFn:=⟨0,77,[.t 0],.seq (.region Qx1 9 []) (.seq (.region Qx2 9 []) (.seq (.region Qx3 9 []) (.seq (.region Qx4 9 []) (.seq (.region Qx5 9 []) (.ret)))))⟩
def Qco (Qu:Qb→Option (Qbm×Int)) (Qcz:(List Int)→(List Int)→Option Bool) (Qbx:Int→Int→Int→Int→Option (Qe×Int)) (Qb5:(List Int)→Option Qb):Option Bool :=
  ((Qb5 [0]).bind fun x2=>((Qu (Qb.mk x2.zA x2.zC [] x2.zD x2.Tick)).bind fun (r4,r5)=>((Qb5 []).bind fun x7=>((Qu (Qb.mk x7.zA x7.zC [] x7.zD x7.Tick)).bind fun (r9,r10)=>((Qbx 0 1 1 2).bind fun (r12,r13)=>(((if (r5 == 0) then ((Qcz r4.zI [0]).bind fun x16=>(if x16 then (if ((r4.zI.length:Int) == 1) then (if (r4.zH.zM == 1) then (if (r10 == 0) then (if ((r9.zE.zG.length:Int) == 2) then ((getO r9.zE.zG 0).bind fun x22=>(if ((x22.State == 0) && ((x22.Rank == 2) && ((x22.Reason == 4) && ((x22.Event == 2) && true)))) then (if (r13 == 0) then (if (r12.zM == 3) then some ((r12.zL.length:Int) == 8) else some false) else some false) else some false)) else some false) else some false) else some false) else some false) else some false)) else some false)).bind fun (x27:Bool)=>some x27))))))
def Qfm (P:Program) (c:Nat) (f:Int→Option ((List Int))):Prop:=∀ s1 r,f s1 = some r→∀ M nb,ACalls P c [.d (.int .u8 s1)] M nb (o_ r) M nb
def Qqp:List COp:=[ot 2 .mov [.c (.nils 1)]]
def Qqq:List COp:=[ot 3 .mov [.c (.nils 1)]]
def Qqr:List COp:=[oo 4 .mov [cI 0]]
def Qqs:List COp:=[oM 5 4,oo 6 (.bin .lss false) [.t 5,cI 5]]
def Qqt:List COp:=[oM 9 0,oM 10 4,oo 11 (.bin .shr false) [.t 9,.t 10],oo 12 (.bin .and false) [.t 11,.c (.d (.int .u8 1))],oo 13 (.bin .eql false) [.t 12,.c (.d (.int .u8 1))]]
def Qqu:List COp:=[ot 14 .mov [.t 3],oM 15 4,oo 16 (.bslice 1 1 [.d (.int .i64 0)] [0]) [.t 15],ot 17 (.append 1 8) [.t 14,.t 16],ot 3 .mov [.t 17]]
def Qqv:List COp:=[oM 7 4,oo 8 (.bin .add false) [.t 7,cI 1],oM 4 8]
def Qqw:List COp:=[ot 18 .mov [.t 3],ot 2 .mov [.t 18]]
def Qfn:CFn:=⟨1,19,[.t 2],.seq (.region Qqp 9 []) (.seq (.region Qqq 9 []) (.seq (.seq (.region Qqr 9 []) (.block 0 (.loop [16] (.seq (.seq (.region Qqs 9 []) (.cond (.t 6) (.skip) (.exit 0))) (.seq (.block 1 (.seq (.region Qqt 9 []) (.cond (.t 13) (.region Qqu 9 []) (.skip)))) (.region Qqv 9 [])))))) (.seq (.region Qqw 9 []) (.ret))))⟩
def Qbd (fuel:Nat) (s1:Int):Option ((List Int)) :=
  ((Qcm (fun k4 ((out2,i3):(List Int)×Int)=>(if (i3 < 5) then ((((shrO .u8 s1 i3).bind fun s6=>(if ((andI .u8 s6 1) == 1) then ((appO out2 [i3]).bind fun x9=>some x9) else some out2))).bind fun (out11:List Int)=>k4 (out11,(IntKind.wrap .i64 (i3 + 1)))) else some out2)) fuel ([],0)).bind fun (out12:List Int)=>some out12)
def Qfr (P:Program) (c:Nat) (f:(List Int)→Option Qe):Prop:=∀ alphabet1 r,f alphabet1 = some r→∀ M nb,ACalls P c [(l_ alphabet1)] M nb (.agg [(l_ r.zJ),(i_ r.zM),.nils 1,.nils 3]) M nb
def Qx6:List COp:=[oo 2 (.alloc [.nils 1,.d (.int .i64 0),.nils 1,.nils 3]) []]
def Qx7:List COp:=[oo 3 (.bslice 1 0 [.d (.int .i64 0)] []) [],oM 4 0,ot 5 (.append 1 8) [.t 3,.t 4],ot 6 (.build [.nils 1,.d (.int .i64 0),.nils 1,.nils 3] [(0,1)]) [.t 5],⟨none,.store 4,[.t 2,.t 6],true,none⟩]
def Qih:CFn:=⟨1,7,[.cell 2 true 4],.seq (.region Qx6 9 []) (.seq (.region Qx7 9 []) (.ret))⟩
def Q3 (alphabet1:(List Int)):Option Qe :=
  ((appO [] alphabet1).bind fun x2=>some (Qe.mk x2 0 [] []))
def Qf6 (P:Program) (c:Nat) (f:Qe→Int→Int→Option Int):Prop:=∀ a1 state2 event3 r,f a1 state2 event3 = some r→∀ M nb,ACalls P c [(Qm a1),(i_ state2),(i_ event3)] M nb (i_ r) M nb
def Qzn:List COp:=[oo 3 (.box 4) [.t 0],oo 6 .mov [cI 0]]
def Qzo:List COp:=[oo 7 .mov [cI 0]]
def Qzp:List COp:=[oM 8 7,oF 9 3 3,oL 10 9,oo 11 .len [.t 10],oo 12 (.bin .lss false) [.t 8,.t 11]]
def Qzq:List COp:=[oF 15 3 3,oL 16 15,oM 17 7,oo 18 (.idx 3) [.t 16,.t 17],oF 19 0 18,oL 20 19,oM 21 1,oo 22 (.bin .eql false) [.t 20,.t 21],oM 23 22,⟨some 24,.fld 3,[.t 3],false,some (23,true)⟩,⟨some 25,.load false 1,[.t 24],false,some (23,true)⟩,⟨some 26,.mov,[.t 7],false,some (23,true)⟩,⟨some 27,.idx 3,[.t 25,.t 26],false,some (23,true)⟩,⟨some 28,.fld 1,[.t 27],false,some (23,true)⟩,⟨some 29,.load false 1,[.t 28],false,some (23,true)⟩,⟨some 30,.mov,[.t 2],false,some (23,true)⟩,⟨some 31,.bin .eql false,[.t 29,.t 30],false,some (23,true)⟩,oo 32 .pick [.t 23,.t 31,.c (.d (.bool false))]]
def Qzr:List COp:=[oF 33 3 3,oL 34 33,oM 35 7,oo 36 (.idx 3) [.t 34,.t 35],oF 37 2 36,oL 38 37,oM 6 38]
def Qzs:List COp:=[oM 13 7,oo 14 (.bin .add false) [.t 13,cI 1],oM 7 14]
def Qzt:List COp:=[oo 6 .mov [cI (-1)]]
def Qi0:CFn:=⟨3,39,[.t 6],.seq (.region Qzn 9 []) (.seq (.seq (.region Qzo 9 []) (.block 0 (.loop [] (.seq (.seq (.region Qzp 9 []) (.cond (.t 12) (.skip) (.exit 0))) (.seq (.block 1 (.seq (.region Qzq 9 []) (.cond (.t 32) (.seq (.region Qzr 9 []) (.ret)) (.skip)))) (.region Qzs 9 [])))))) (.seq (.region Qzt 9 []) (.ret)))⟩
def Qbc (fuel:Nat) (a1:Qe) (state2:Int) (event3:Int):Option Int :=
  Qcm (fun k5 (i4:Int)=>(if (i4 < (a1.zL.length:Int)) then ((((getO a1.zL i4).bind fun x7=>(if (x7.From == state2) then ((getO a1.zL i4).bind fun x10=>some (x10.Event == event3)) else some false))).bind fun (x12:Bool)=>(if x12 then ((getO a1.zL i4).bind fun x14=>some x14.To) else k5 (IntKind.wrap .i64 (i4 + 1)))) else some (-1))) fuel 0
def Qgn (P:Program) (c:Nat) (f:(List Int)→Int→Option Bool):Prop:=∀ l1 n2 r,f l1 n2 = some r→∀ M nb,ACalls P c [(l_ l1),(i_ n2)] M nb (b_ r) M nb
def Q1j:List COp:=[oo 4 .mov [.c (.d (.bool false))]]
def Q1k:List COp:=[oo 5 .mov [cI 0]]
def Q1l:List COp:=[oM 6 5,oM 7 0,oo 8 .len [.t 7],oo 9 (.bin .lss false) [.t 6,.t 8]]
def Q1m:List COp:=[oM 12 0,oM 13 5,oo 14 (.idx 1) [.t 12,.t 13],oL 15 14,oM 16 1,oo 17 (.bin .eql false) [.t 15,.t 16]]
def Q1n:List COp:=[oo 4 .mov [.c (.d (.bool true))]]
def Q1o:List COp:=[oM 10 5,oo 11 (.bin .add false) [.t 10,cI 1],oM 5 11]
def Q1p:List COp:=[oo 4 .mov [.c (.d (.bool false))]]
def Qj0:CFn:=⟨2,18,[.t 4],.seq (.region Q1j 9 []) (.seq (.seq (.region Q1k 9 []) (.block 0 (.loop [] (.seq (.seq (.region Q1l 9 []) (.cond (.t 9) (.skip) (.exit 0))) (.seq (.block 1 (.seq (.region Q1m 9 []) (.cond (.t 17) (.seq (.region Q1n 9 []) (.ret)) (.skip)))) (.region Q1o 9 [])))))) (.seq (.region Q1p 9 []) (.ret)))⟩
def Qbk (fuel:Nat) (l1:(List Int)) (n2:Int):Option Bool :=
  Qcm (fun k4 (i3:Int)=>(if (i3 < (l1.length:Int)) then ((getO l1 i3).bind fun x6=>(if (x6 == n2) then some true else k4 (IntKind.wrap .i64 (i3 + 1)))) else some false)) fuel 0
def Qii (P:Program) (c:Nat) (f:Qe→Option ((List Int))):Prop:=∀ a1 r,f a1 = some r→∀ M nb,ACalls P c [(Qm a1)] M nb (o_ r) M nb
def Qx8:List COp:=[oo 1 (.box 4) [.t 0],ot 2 .mov [.c (.nils 1)]]
def Qx9:List COp:=[ot 3 .mov [.c (.nils 1)]]
def Qya:List COp:=[oF 7 1 1,oL 8 7,oo 9 (.bin .gtr false) [.t 8,cI 0]]
def Qyb:List COp:=[ot 10 .mov [.t 3],oo 11 (.bslice 1 1 [.d (.int .i64 0)] [0]) [cI 0],ot 12 (.append 1 8) [.t 10,.t 11],ot 3 .mov [.t 12]]
def Qyc:List COp:=[oo 4 .mov [cI 0]]
def Qyd:List COp:=[oM 13 4,oM 14 3,oo 15 .len [.t 14],oo 16 (.bin .lss false) [.t 13,.t 15]]
def Qye:List COp:=[oo 5 .mov [cI 0]]
def Qyf:List COp:=[oM 19 5,oF 20 0 1,oL 21 20,oo 22 .len [.t 21],oo 23 (.bin .lss false) [.t 19,.t 22]]
def Qyg:List COp:=[oo 26 (.load true 4) [.t 1],oM 27 3,oM 28 4,oo 29 (.idx 1) [.t 27,.t 28],oL 30 29,oF 31 0 1,oL 32 31,oM 33 5,oo 34 (.idx 1) [.t 32,.t 33],oL 35 34,oo 36 (.call 91) [.t 26,.t 30,.t 35],oM 6 36]
def Qyh:List COp:=[oM 37 6,oo 38 (.bin .geq false) [.t 37,cI 0],oM 39 38,⟨some 40,.mov,[.t 3],false,some (39,true)⟩,⟨some 41,.mov,[.t 6],false,some (39,true)⟩,⟨some 42,.call 90,[.t 40,.t 41],false,some (39,true)⟩,⟨some 43,.un .not,[.t 42],false,some (39,true)⟩,oo 44 .pick [.t 39,.t 43,.c (.d (.bool false))]]
def Qw0:List COp:=[ot 45 .mov [.t 3],oM 46 6,oo 47 (.bslice 1 1 [.d (.int .i64 0)] [0]) [.t 46],ot 48 (.append 1 8) [.t 45,.t 47],ot 3 .mov [.t 48]]
def Qw1:List COp:=[oM 24 5,oo 25 (.bin .add false) [.t 24,cI 1],oM 5 25]
def Qw2:List COp:=[oM 17 4,oo 18 (.bin .add false) [.t 17,cI 1],oM 4 18]
def Qw3:List COp:=[ot 49 .mov [.t 3],ot 2 .mov [.t 49]]
def Qij:CFn:=⟨1,50,[.t 2],.seq (.region Qx8 9 []) (.seq (.region Qx9 9 []) (.seq (.seq (.region Qya 9 []) (.cond (.t 9) (.region Qyb 9 []) (.skip))) (.seq (.seq (.region Qyc 9 []) (.block 0 (.loop [47] (.seq (.seq (.region Qyd 9 []) (.cond (.t 16) (.skip) (.exit 0))) (.seq (.block 1 (.seq (.region Qye 9 []) (.block 2 (.loop [47] (.seq (.seq (.region Qyf 9 []) (.cond (.t 23) (.skip) (.exit 2))) (.seq (.block 3 (.seq (.region Qyg 0 []) (.seq (.region Qyh 9 []) (.cond (.t 44) (.region Qw0 9 []) (.skip))))) (.region Qw1 9 []))))))) (.region Qw2 9 [])))))) (.seq (.region Qw3 9 []) (.ret)))))⟩
def Qb7 (Qbk:(List Int)→Int→Option Bool) (Qbc:Qe→Int→Int→Option Int) (fuel:Nat) (a1:Qe):Option ((List Int)) :=
  (((if (a1.zM > 0) then ((appO [] [0]).bind fun x3=>some x3) else some [])).bind fun (out5:List Int)=>((Qcm (fun k8 ((out6,i7):(List Int)×Int)=>(if (i7 < (out6.length:Int)) then ((Qcm (fun k12 ((out10,k11):(List Int)×Int)=>(if (k11 < (a1.zJ.length:Int)) then ((((getO out10 i7).bind fun x14=>((getO a1.zJ k11).bind fun x16=>((Qbc a1 x14 x16).bind fun x19=>(((if (x19≥0) then ((Qbk out10 x19).bind fun x22=>some (!x22)) else some false)).bind fun (x23:Bool)=>(if x23 then ((appO out10 [x19]).bind fun x25=>some x25) else some out10)))))).bind fun (out27:List Int)=>k12 (out27,(IntKind.wrap .i64 (k11 + 1)))) else some out10)) fuel (out6,0)).bind fun (out28:List Int)=>k8 (out28,(IntKind.wrap .i64 (i7 + 1)))) else some out6)) fuel (out5,0)).bind fun (out29:List Int)=>some out29))
def Qik (P:Program) (c:Nat) (f:(List Int)→Int→Option Int):Prop:=∀ l1 n2 r,f l1 n2 = some r→∀ M nb,ACalls P c [(l_ l1),(i_ n2)] M nb (i_ r) M nb
def Qyi:List COp:=[oo 4 .mov [cI 0]]
def Qyj:List COp:=[oo 5 .mov [cI 0]]
def Qyk:List COp:=[oM 6 5,oM 7 0,oo 8 .len [.t 7],oo 9 (.bin .lss false) [.t 6,.t 8]]
def Qyl:List COp:=[oM 12 0,oM 13 5,oo 14 (.idx 1) [.t 12,.t 13],oL 15 14,oM 16 1,oo 17 (.bin .eql false) [.t 15,.t 16]]
def Qym:List COp:=[oM 18 5,oM 4 18]
def Qyn:List COp:=[oM 10 5,oo 11 (.bin .add false) [.t 10,cI 1],oM 5 11]
def Qyo:List COp:=[oo 4 .mov [cI (-1)]]
def Qil:CFn:=⟨2,19,[.t 4],.seq (.region Qyi 9 []) (.seq (.seq (.region Qyj 9 []) (.block 0 (.loop [] (.seq (.seq (.region Qyk 9 []) (.cond (.t 9) (.skip) (.exit 0))) (.seq (.block 1 (.seq (.region Qyl 9 []) (.cond (.t 17) (.seq (.region Qym 9 []) (.ret)) (.skip)))) (.region Qyn 9 [])))))) (.seq (.region Qyo 9 []) (.ret)))⟩
def Qb8 (fuel:Nat) (l1:(List Int)) (n2:Int):Option Int :=
  Qcm (fun k4 (i3:Int)=>(if (i3 < (l1.length:Int)) then ((getO l1 i3).bind fun x6=>(if (x6 == n2) then some i3 else k4 (IntKind.wrap .i64 (i3 + 1)))) else some (-1))) fuel 0
def Qfz (P:Program) (c:Nat) (f:Qe→Option Qe):Prop:=∀ a1 r,f a1 = some r→∀ M nb,ACalls P c [(Qm a1)] M nb (Qm r) M nb
def Qsk:List COp:=[oo 1 (.box 4) [.t 0],oo 2 (.alloc [.nils 1,.d (.int .i64 0),.nils 1,.nils 3]) []]
def Qsl:List COp:=[oo 8 (.load true 4) [.t 1],oo 9 (.call 89) [.t 8],ot 3 .mov [.t 9]]
def Qsm:List COp:=[oF 10 0 1,oL 11 10,oo 12 (.call 69) [.t 11],oo 4 (.alloc [.nils 1,.d (.int .i64 0),.nils 1,.nils 3]) [],⟨none,.store 4,[.t 4,.t 12],true,none⟩]
def Qsn:List COp:=[oM 13 3,oo 14 .len [.t 13],oF 15 1 4,⟨none,.store 1,[.t 15,.t 14],false,none⟩]
def Qso:List COp:=[oo 5 .mov [cI 0]]
def Qsp:List COp:=[oM 16 5,oM 17 3,oo 18 .len [.t 17],oo 19 (.bin .lss false) [.t 16,.t 18]]
def Qsq:List COp:=[oF 22 2 1,oL 23 22,oM 24 3,oM 25 5,oo 26 (.idx 1) [.t 24,.t 25],oL 27 26,oo 28 (.call 90) [.t 23,.t 27]]
def Qsr:List COp:=[oF 29 2 4,oo 30 .loadT [.t 29],oM 31 5,oo 32 (.bslice 1 1 [.d (.int .i64 0)] [0]) [.t 31],ot 33 (.append 1 8) [.t 30,.t 32],oF 34 2 4,⟨none,.store 1,[.t 34,.t 33],true,none⟩]
def Qss:List COp:=[oo 6 .mov [cI 0]]
def Qst:List COp:=[oM 35 6,oF 36 0 1,oL 37 36,oo 38 .len [.t 37],oo 39 (.bin .lss false) [.t 35,.t 38]]
def Qqx:List COp:=[oo 42 (.load true 4) [.t 1],oM 43 3,oM 44 5,oo 45 (.idx 1) [.t 43,.t 44],oL 46 45,oF 47 0 1,oL 48 47,oM 49 6,oo 50 (.idx 1) [.t 48,.t 49],oL 51 50,oo 52 (.call 91) [.t 42,.t 46,.t 51],oM 7 52]
def Qqy:List COp:=[oM 53 7,oo 54 (.bin .geq false) [.t 53,cI 0]]
def Qqz:List COp:=[oF 55 3 4,oo 56 .loadT [.t 55],oM 57 5,oF 58 0 1,oL 59 58,oM 60 6,oo 61 (.idx 1) [.t 59,.t 60],oL 62 61,oM 63 3,oM 64 7,oo 65 (.call 92) [.t 63,.t 64],oo 66 (.build [.d (.int .i64 0),.d (.int .i64 0),.d (.int .i64 0)] [(0,1),(1,1),(2,1)]) [.t 57,.t 62,.t 65],oo 67 (.bslice 3 1 [.d (.int .i64 0),.d (.int .i64 0),.d (.int .i64 0)] [0]) [.t 66],ot 68 (.append 3 24) [.t 56,.t 67],oF 69 3 4,⟨none,.store 1,[.t 69,.t 68],true,none⟩]
def Qq0:List COp:=[oM 40 6,oo 41 (.bin .add false) [.t 40,cI 1],oM 6 41]
def Qq1:List COp:=[oM 20 5,oo 21 (.bin .add false) [.t 20,cI 1],oM 5 21]
def Qq2:List COp:=[oo 70 (.load true 4) [.t 4],⟨none,.store 4,[.t 2,.t 70],true,none⟩]
def Qf0:CFn:=⟨1,71,[.cell 2 true 4],.seq (.region Qsk 9 []) (.seq (.region Qsl 9 []) (.seq (.region Qsm 9 []) (.seq (.region Qsn 9 []) (.seq (.seq (.region Qso 9 []) (.block 0 (.loop [32,67] (.seq (.seq (.region Qsp 9 []) (.cond (.t 19) (.skip) (.exit 0))) (.seq (.block 1 (.seq (.seq (.region Qsq 0 []) (.cond (.t 28) (.region Qsr 9 []) (.skip))) (.seq (.region Qss 9 []) (.block 2 (.loop [67] (.seq (.seq (.region Qst 9 []) (.cond (.t 39) (.skip) (.exit 2))) (.seq (.block 3 (.seq (.region Qqx 0 []) (.seq (.region Qqy 9 []) (.cond (.t 54) (.region Qqz 2 []) (.skip))))) (.region Qq0 9 [])))))))) (.region Qq1 9 [])))))) (.seq (.region Qq2 9 []) (.ret))))))⟩
def Qbq (Q3:(List Int)→Option Qe) (Qb7:Qe→Option ((List Int))) (Qbk:(List Int)→Int→Option Bool) (Qbc:Qe→Int→Int→Option Int) (Qb8:(List Int)→Int→Option Int) (fuel:Nat) (a1:Qe):Option Qe :=
  ((Qb7 a1).bind fun x3=>((Q3 a1.zJ).bind fun x5=>((Qcm (fun k12 ((i6,c7,c8,c9,out10,out11):Int×(List Int)×(List Int)×(List Qc)×(List Int)×(List Qc))=>(if (i6 < (x3.length:Int)) then ((((((getO x3 i6).bind fun x14=>((Qbk a1.zK x14).bind fun x17=>(if x17 then ((appO out10 [i6]).bind fun x19=>some x19) else some out10)))).bind fun (out21:List Int)=>Qcm (fun k24 ((k22,out23):Int×(List Qc))=>(if (k22 < (a1.zJ.length:Int)) then ((((getO x3 i6).bind fun x26=>((getO a1.zJ k22).bind fun x28=>((Qbc a1 x26 x28).bind fun x31=>(if (x31≥0) then ((getO a1.zJ k22).bind fun x33=>((Qb8 x3 x31).bind fun x36=>((appO out23 [(Qc.mk i6 x33 x36)]).bind fun x37=>some x37))) else some out23))))).bind fun (out39:List Qc)=>k24 ((IntKind.wrap .i64 (k22 + 1)),out39)) else some (out21,out23))) fuel (0,out11))).bind fun ((out40,out41):(List Int)×(List Qc))=>k12 ((IntKind.wrap .i64 (i6 + 1)),c7,c8,c9,out40,out41)) else some (c7,c8,c9,out10,out11))) fuel (0,[],[],[],[],[])).bind fun ((c42,c43,c44,out45,out46):(List Int)×(List Int)×(List Qc)×(List Int)×(List Qc))=>some (Qe.mk x5.zJ (x3.length:Int) out45 out46))))
def Qi1 (P:Program) (c:Nat) (f:(List Int)→Qbh→Option Qe):Prop:=∀ alphabet1 g2 r,f alphabet1 g2 = some r→∀ M nb,ACalls P c [(l_ alphabet1),.agg [.d (.int .u8 g2.zM),.d (.int .u8 g2.Marks),.d (.int .u8 g2.To.1.1),.d (.int .u8 g2.To.1.2.1),.d (.int .u8 g2.To.1.2.2.1),.d (.int .u8 g2.To.1.2.2.2.1),.d (.int .u8 g2.To.1.2.2.2.2),.d (.int .u8 g2.To.2.1.1),.d (.int .u8 g2.To.2.1.2.1),.d (.int .u8 g2.To.2.1.2.2.1),.d (.int .u8 g2.To.2.1.2.2.2.1),.d (.int .u8 g2.To.2.1.2.2.2.2),.d (.int .u8 g2.To.2.2.1.1),.d (.int .u8 g2.To.2.2.1.2.1),.d (.int .u8 g2.To.2.2.1.2.2.1),.d (.int .u8 g2.To.2.2.1.2.2.2.1),.d (.int .u8 g2.To.2.2.1.2.2.2.2),.d (.int .u8 g2.To.2.2.2.1.1),.d (.int .u8 g2.To.2.2.2.1.2.1),.d (.int .u8 g2.To.2.2.2.1.2.2.1),.d (.int .u8 g2.To.2.2.2.1.2.2.2.1),.d (.int .u8 g2.To.2.2.2.1.2.2.2.2),.d (.int .u8 g2.To.2.2.2.2.1),.d (.int .u8 g2.To.2.2.2.2.2.1),.d (.int .u8 g2.To.2.2.2.2.2.2.1),.d (.int .u8 g2.To.2.2.2.2.2.2.2.1),.d (.int .u8 g2.To.2.2.2.2.2.2.2.2)]] M nb (Qm r) M nb
def Qzu:List COp:=[oo 3 (.box 27) [.t 1],oo 4 (.alloc [.nils 1,.d (.int .i64 0),.nils 1,.nils 3]) []]
def Qzv:List COp:=[oF 9 0 3,oL 10 9,oo 11 (.bin .geq false) [.t 10,.c (.d (.int .u8 250))]]
def Qzw:List COp:=[oM 12 0,oo 13 (.call 69) [.t 12],⟨none,.store 4,[.t 4,.t 13],true,none⟩]
def Qzx:List COp:=[oM 14 0,oo 15 (.call 69) [.t 14],oo 5 (.alloc [.nils 1,.d (.int .i64 0),.nils 1,.nils 3]) [],⟨none,.store 4,[.t 5,.t 15],true,none⟩]
def Qzy:List COp:=[oF 16 0 3,oL 17 16,oo 18 (.bin .rem false) [.t 17,.c (.d (.int .u8 5))],oo 19 (.conv .i64) [.t 18],oo 20 (.bin .add false) [cI 1,.t 19],oF 21 1 5,⟨none,.store 1,[.t 21,.t 20],false,none⟩]
def Qzz:List COp:=[oo 6 .mov [cI 0]]
def Qz0:List COp:=[oM 22 6,oF 23 1 5,oL 24 23,oo 25 (.bin .lss false) [.t 22,.t 24]]
def Qz1:List COp:=[oF 28 1 3,oL 29 28,oM 30 6,oo 31 (.bin .shr false) [.t 29,.t 30],oo 32 (.bin .and false) [.t 31,.c (.d (.int .u8 1))],oo 33 (.bin .eql false) [.t 32,.c (.d (.int .u8 1))]]
def Qz2:List COp:=[oF 34 2 5,oo 35 .loadT [.t 34],oM 36 6,oo 37 (.bslice 1 1 [.d (.int .i64 0)] [0]) [.t 36],ot 38 (.append 1 8) [.t 35,.t 37],oF 39 2 5,⟨none,.store 1,[.t 39,.t 38],true,none⟩]
def Qz3:List COp:=[oo 7 .mov [cI 0]]
def Qyp:List COp:=[oM 40 7,oM 41 0,oo 42 .len [.t 41],oo 43 (.bin .lss false) [.t 40,.t 42],oM 44 43,⟨some 45,.mov,[.t 7],false,some (44,true)⟩,⟨some 46,.bin .lss false,[.t 45,cI 5],false,some (44,true)⟩,oo 47 .pick [.t 44,.t 46,.c (.d (.bool false))]]
def Qyq:List COp:=[oM 50 6,oM 51 7,oF 52 2 3,oo 53 (.idxarr 5 5) [.t 52,.t 50],oo 54 (.idxarr 1 5) [.t 53,.t 51],oL 55 54,oo 56 (.conv .i64) [.t 55],oF 57 1 5,oL 58 57,oo 59 (.bin .add false) [.t 58,cI 2],oo 60 (.bin .rem false) [.t 56,.t 59],oM 8 60]
def Qyr:List COp:=[oM 61 8,oF 62 1 5,oL 63 62,oo 64 (.bin .lss false) [.t 61,.t 63]]
def Qys:List COp:=[oF 65 3 5,oo 66 .loadT [.t 65],oM 67 6,oM 68 0,oM 69 7,oo 70 (.idx 1) [.t 68,.t 69],oL 71 70,oM 72 8,oo 73 (.build [.d (.int .i64 0),.d (.int .i64 0),.d (.int .i64 0)] [(0,1),(1,1),(2,1)]) [.t 67,.t 71,.t 72],oo 74 (.bslice 3 1 [.d (.int .i64 0),.d (.int .i64 0),.d (.int .i64 0)] [0]) [.t 73],ot 75 (.append 3 24) [.t 66,.t 74],oF 76 3 5,⟨none,.store 1,[.t 76,.t 75],true,none⟩]
def Qyt:List COp:=[oM 48 7,oo 49 (.bin .add false) [.t 48,cI 1],oM 7 49]
def Qyu:List COp:=[oM 26 6,oo 27 (.bin .add false) [.t 26,cI 1],oM 6 27]
def Qyv:List COp:=[oo 77 (.load true 4) [.t 5],oo 78 (.call 70) [.t 77],⟨none,.store 4,[.t 4,.t 78],true,none⟩]
def Qi2:CFn:=⟨2,79,[.cell 4 true 4],.seq (.region Qzu 9 []) (.seq (.seq (.region Qzv 9 []) (.cond (.t 11) (.seq (.region Qzw 9 []) (.ret)) (.skip))) (.seq (.region Qzx 9 []) (.seq (.region Qzy 9 []) (.seq (.seq (.region Qzz 9 []) (.block 0 (.loop [37,74] (.seq (.seq (.region Qz0 9 []) (.cond (.t 25) (.skip) (.exit 0))) (.seq (.block 1 (.seq (.seq (.region Qz1 9 []) (.cond (.t 33) (.region Qz2 9 []) (.skip))) (.seq (.region Qz3 9 []) (.block 2 (.loop [74] (.seq (.seq (.region Qyp 9 []) (.cond (.t 47) (.skip) (.exit 2))) (.seq (.block 3 (.seq (.region Qyq 0 []) (.seq (.region Qyr 9 []) (.cond (.t 64) (.region Qys 0 []) (.skip))))) (.region Qyt 9 [])))))))) (.region Qyu 9 [])))))) (.seq (.region Qyv 9 []) (.ret))))))⟩
def Qch (Q3:(List Int)→Option Qe) (Qbq:Qe→Option Qe) (fuel:Nat) (alphabet1:(List Int)) (g2:Qbh):Option Qe :=
  (if (g2.zM≥250) then ((Q3 alphabet1).bind fun x5=>some (Qe.mk x5.zJ x5.zM [] [])) else ((Q3 alphabet1).bind fun x7=>((Qcm (fun k15 ((i8,c9,c10,c11,a12,a13,a14):Int×(List Int)×(List Int)×(List Qc)×Int×(List Int)×(List Qc))=>(if (i8 < a12) then ((((((shrO .u8 g2.Marks i8).bind fun s17=>(if ((andI .u8 s17 1) == 1) then ((appO a13 [i8]).bind fun x20=>some x20) else some a13))).bind fun (a22:List Int)=>Qcm (fun k25 ((k23,a24):Int×(List Qc))=>(((if (k23 < (alphabet1.length:Int)) then some (decide (k23 < 5)) else some false)).bind fun (x27:Bool)=>(if x27 then ((((inO 5 i8).bind fun _=>((inO 5 k23).bind fun _=>((rowO [g2.To.1.1,g2.To.1.2.1,g2.To.1.2.2.1,g2.To.1.2.2.2.1,g2.To.1.2.2.2.2,g2.To.2.1.1,g2.To.2.1.2.1,g2.To.2.1.2.2.1,g2.To.2.1.2.2.2.1,g2.To.2.1.2.2.2.2,g2.To.2.2.1.1,g2.To.2.2.1.2.1,g2.To.2.2.1.2.2.1,g2.To.2.2.1.2.2.2.1,g2.To.2.2.1.2.2.2.2,g2.To.2.2.2.1.1,g2.To.2.2.2.1.2.1,g2.To.2.2.2.1.2.2.1,g2.To.2.2.2.1.2.2.2.1,g2.To.2.2.2.1.2.2.2.2,g2.To.2.2.2.2.1,g2.To.2.2.2.2.2.1,g2.To.2.2.2.2.2.2.1,g2.To.2.2.2.2.2.2.2.1,g2.To.2.2.2.2.2.2.2.2] (Int.toNat i8 * 5 + Int.toNat k23 * 1)).bind fun x31=>((remO .i64 (IntKind.wrap .i64 x31) (IntKind.wrap .i64 (a12 + 2))).bind fun s33=>(if (s33 < a12) then ((getO alphabet1 k23).bind fun x36=>((appO a24 [(Qc.mk i8 x36 s33)]).bind fun x38=>some x38)) else some a24)))))).bind fun (a40:List Qc)=>k25 ((IntKind.wrap .i64 (k23 + 1)),a40)) else some (a22,a24)))) fuel (0,a14))).bind fun ((a41,a42):(List Int)×(List Qc))=>k15 ((IntKind.wrap .i64 (i8 + 1)),c9,c10,c11,a12,a41,a42)) else some (c9,c10,c11,a12,a13,a14))) fuel (0,[],[],[],(IntKind.wrap .i64 (1 + (IntKind.wrap .i64 (Int.tmod g2.zM 5)))),[],[])).bind fun ((c43,c44,c45,a46,a47,a48):(List Int)×(List Int)×(List Qc)×Int×(List Int)×(List Qc))=>((Qbq (Qe.mk x7.zJ a46 a47 a48)).bind fun x50=>some x50))))
def Qi3 (P:Program) (c:Nat) (f:Q2→Option Qb):Prop:=∀ k1 r,f k1 = some r→∀ M nb,ACalls P c [.agg [.d (.int .u8 k1.Part.Events),.d (.int .u8 k1.Part.Graph.zM),.d (.int .u8 k1.Part.Graph.Marks),.d (.int .u8 k1.Part.Graph.To.1.1),.d (.int .u8 k1.Part.Graph.To.1.2.1),.d (.int .u8 k1.Part.Graph.To.1.2.2.1),.d (.int .u8 k1.Part.Graph.To.1.2.2.2.1),.d (.int .u8 k1.Part.Graph.To.1.2.2.2.2),.d (.int .u8 k1.Part.Graph.To.2.1.1),.d (.int .u8 k1.Part.Graph.To.2.1.2.1),.d (.int .u8 k1.Part.Graph.To.2.1.2.2.1),.d (.int .u8 k1.Part.Graph.To.2.1.2.2.2.1),.d (.int .u8 k1.Part.Graph.To.2.1.2.2.2.2),.d (.int .u8 k1.Part.Graph.To.2.2.1.1),.d (.int .u8 k1.Part.Graph.To.2.2.1.2.1),.d (.int .u8 k1.Part.Graph.To.2.2.1.2.2.1),.d (.int .u8 k1.Part.Graph.To.2.2.1.2.2.2.1),.d (.int .u8 k1.Part.Graph.To.2.2.1.2.2.2.2),.d (.int .u8 k1.Part.Graph.To.2.2.2.1.1),.d (.int .u8 k1.Part.Graph.To.2.2.2.1.2.1),.d (.int .u8 k1.Part.Graph.To.2.2.2.1.2.2.1),.d (.int .u8 k1.Part.Graph.To.2.2.2.1.2.2.2.1),.d (.int .u8 k1.Part.Graph.To.2.2.2.1.2.2.2.2),.d (.int .u8 k1.Part.Graph.To.2.2.2.2.1),.d (.int .u8 k1.Part.Graph.To.2.2.2.2.2.1),.d (.int .u8 k1.Part.Graph.To.2.2.2.2.2.2.1),.d (.int .u8 k1.Part.Graph.To.2.2.2.2.2.2.2.1),.d (.int .u8 k1.Part.Graph.To.2.2.2.2.2.2.2.2),.d (.int .u8 k1.zC),.d (.int .u8 k1.zB),.d (.int .u8 k1.zD)]] M nb (.agg [(l_ r.zA.zJ),(i_ r.zA.zM),(l_ r.zA.zK),.d (.lst 3 (List.map Qa r.zA.zL)),(l_ r.zC),(l_ r.zB),(l_ r.zD),(i_ r.Tick)]) M nb
def Qz4:List COp:=[oo 1 (.box 31) [.t 0],oo 2 (.alloc [.nils 1,.d (.int .i64 0),.nils 1,.nils 3,.nils 1,.nils 1,.nils 1,.d (.int .i64 0)]) []]
def Qz5:List COp:=[oF 5 0 1,oF 6 0 5,oL 7 6,oo 8 (.call 33) [.t 7],oF 9 0 1,oF 10 1 9,oo 11 (.load true 27) [.t 10],oo 12 (.call 36) [.t 8,.t 11],oF 13 29 1,oL 14 13,oo 15 (.bin .and false) [.t 14,.c (.d (.int .u8 15))],oo 16 (.call 33) [.t 15],oF 17 30 1,oL 18 17,oo 19 (.bin .and false) [.t 18,.c (.d (.int .u8 15))],oo 20 (.call 33) [.t 19],ot 21 (.build [.nils 1,.d (.int .i64 0),.nils 1,.nils 3,.nils 1,.nils 1,.nils 1,.d (.int .i64 0)] [(0,4),(5,1),(6,1),(7,1)]) [.t 12,.t 16,.t 20,cI 4],oo 3 (.alloc [.nils 1,.d (.int .i64 0),.nils 1,.nils 3,.nils 1,.nils 1,.nils 1,.d (.int .i64 0)]) [],⟨none,.store 8,[.t 3,.t 21],true,none⟩]
def Qz6:List COp:=[oo 4 .mov [cI 0]]
def Qz7:List COp:=[oM 22 4,oF 23 0 3,oF 24 1 23,oL 25 24,oo 26 (.bin .lss false) [.t 22,.t 25]]
def Qz8:List COp:=[oF 29 28 1,oL 30 29,oM 31 4,oo 32 (.bin .shr false) [.t 30,.t 31],oo 33 (.bin .and false) [.t 32,.c (.d (.int .u8 1))],oo 34 (.bin .eql false) [.t 33,.c (.d (.int .u8 1))]]
def Qz9:List COp:=[oF 35 4 3,oo 36 .loadT [.t 35],oM 37 4,oo 38 (.bslice 1 1 [.d (.int .i64 0)] [0]) [.t 37],ot 39 (.append 1 8) [.t 36,.t 38],oF 40 4 3,⟨none,.store 1,[.t 40,.t 39],true,none⟩]
def Q0a:List COp:=[oM 27 4,oo 28 (.bin .add false) [.t 27,cI 1],oM 4 28]
def Q0b:List COp:=[oo 41 (.load true 8) [.t 3],⟨none,.store 8,[.t 2,.t 41],true,none⟩]
def Qi4:CFn:=⟨1,42,[.cell 2 true 8],.seq (.region Qz4 9 []) (.seq (.region Qz5 1 []) (.seq (.seq (.region Qz6 9 []) (.block 0 (.loop [38] (.seq (.seq (.region Qz7 9 []) (.cond (.t 26) (.skip) (.exit 0))) (.seq (.block 1 (.seq (.region Qz8 9 []) (.cond (.t 34) (.region Qz9 9 []) (.skip)))) (.region Q0a 9 [])))))) (.seq (.region Q0b 9 []) (.ret))))⟩
def Qci (Qbd:Int→Option ((List Int))) (Qch:(List Int)→Qbh→Option Qe) (fuel:Nat) (k1:Q2):Option Qb :=
  ((Qbd k1.Part.Events).bind fun x3=>((Qch x3 (Qbh.mk k1.Part.Graph.zM k1.Part.Graph.Marks ((k1.Part.Graph.To.1.1,k1.Part.Graph.To.1.2.1,k1.Part.Graph.To.1.2.2.1,k1.Part.Graph.To.1.2.2.2.1,k1.Part.Graph.To.1.2.2.2.2),(k1.Part.Graph.To.2.1.1,k1.Part.Graph.To.2.1.2.1,k1.Part.Graph.To.2.1.2.2.1,k1.Part.Graph.To.2.1.2.2.2.1,k1.Part.Graph.To.2.1.2.2.2.2),(k1.Part.Graph.To.2.2.1.1,k1.Part.Graph.To.2.2.1.2.1,k1.Part.Graph.To.2.2.1.2.2.1,k1.Part.Graph.To.2.2.1.2.2.2.1,k1.Part.Graph.To.2.2.1.2.2.2.2),(k1.Part.Graph.To.2.2.2.1.1,k1.Part.Graph.To.2.2.2.1.2.1,k1.Part.Graph.To.2.2.2.1.2.2.1,k1.Part.Graph.To.2.2.2.1.2.2.2.1,k1.Part.Graph.To.2.2.2.1.2.2.2.2),(k1.Part.Graph.To.2.2.2.2.1,k1.Part.Graph.To.2.2.2.2.2.1,k1.Part.Graph.To.2.2.2.2.2.2.1,k1.Part.Graph.To.2.2.2.2.2.2.2.1,k1.Part.Graph.To.2.2.2.2.2.2.2.2)))).bind fun x5=>((Qbd (andI .u8 k1.zB 15)).bind fun x7=>((Qbd (andI .u8 k1.zD 15)).bind fun x9=>((Qcm (fun k18 ((i10,c11,c12,c13,c14,c15,c16,p17):Int×(List Int)×(List Int)×(List Qc)×(List Int)×(List Int)×(List Int)×(List Int))=>(if (i10 < x5.zM) then ((((shrO .u8 k1.zC i10).bind fun s20=>(if ((andI .u8 s20 1) == 1) then ((appO p17 [i10]).bind fun x23=>some x23) else some p17))).bind fun (p25:List Int)=>k18 ((IntKind.wrap .i64 (i10 + 1)),c11,c12,c13,c14,c15,c16,p25)) else some (c11,c12,c13,c14,c15,c16,p17))) fuel (0,[],[],[],[],[],[],[])).bind fun ((c26,c27,c28,c29,c30,c31,p32):(List Int)×(List Int)×(List Qc)×(List Int)×(List Int)×(List Int)×(List Int))=>some (Qb.mk x5 p32 x7 x9 4))))))
def Qe9 (P:Program) (c:Nat) (f:Int→Qf→(List Int)→Qb→Option Bool):Prop:=∀ i1 x2 x11 x14 (k3:Nat) (k5:Nat) (k7:Nat) (k9:Nat) (k12:Nat) (k15:Nat) r,f i1 x2 x11 x14 = some r→∀ M nb,(M k3 = some (.cells [.ptr k5 0]))→(M k5 = some (.cells [(l_ x2.zN.zA.zJ),(i_ x2.zN.zA.zM),(l_ x2.zN.zA.zK),.d (.lst 3 (List.map Qa x2.zN.zA.zL)),(l_ x2.zN.zC),(l_ x2.zN.zB),(l_ x2.zN.zD),(i_ x2.zN.Tick),.sl 1 k7 0 x2.from_.length x2.from_.length,.sl 1 k9 0 x2.left_.length x2.left_.length]))→(M k7 = some (.cells (Qz (fun (x:List Qc)=>[V.d (.lst 3 (List.map Qa x))]) x2.from_)))→(M k9 = some (.cells (Qz (fun (x:Bool)=>[V.d (.bool x)]) x2.left_)))→(M k12 = some (.cells [(l_ x11)]))→(M k15 = some (.cells [(l_ x14.zA.zJ),(i_ x14.zA.zM),(l_ x14.zA.zK),.d (.lst 3 (List.map Qa x14.zA.zL)),(l_ x14.zC),(l_ x14.zB),(l_ x14.zD),(i_ x14.Tick)]))→ACalls P c [(i_ i1),.ptr k3 0,.ptr k12 0,.ptr k15 0] M nb (b_ r) M nb
def Qpw:List COp:=[oo 5 .mov [.c (.d (.bool false))]]
def Qpx:List COp:=[oL 9 1,oM 10 0,oo 11 (.call 53) [.t 9,.t 10],oM 8 11,oo 12 (.extract 0) [.t 8],oo 13 (.extract 1) [.t 8],oM 6 12,oM 7 13]
def Qpy:List COp:=[oM 14 6,oo 15 (.bin .neq false) [.t 14,cI 0],oM 16 15,⟨some 17,.load false 1,[.t 2],false,some (16,false)⟩,⟨some 18,.mov,[.t 0],false,some (16,false)⟩,⟨some 19,.idx 1,[.t 17,.t 18],false,some (16,false)⟩,⟨some 20,.load false 1,[.t 19],false,some (16,false)⟩,⟨some 21,.bin .lss false,[.t 20,cI 0],false,some (16,false)⟩,oo 22 .pick [.t 16,.c (.d (.bool true)),.t 21],oM 23 22,⟨some 24,.fld 4,[.t 3],false,some (23,false)⟩,⟨some 25,.load false 1,[.t 24],false,some (23,false)⟩,⟨some 26,.mov,[.t 0],false,some (23,false)⟩,⟨some 27,.call 50,[.t 25,.t 26],false,some (23,false)⟩,oo 28 .pick [.t 23,.c (.d (.bool true)),.t 27],oM 5 28]
def Qfa:CFn:=⟨4,29,[.t 5],.seq (.region Qpw 9 []) (.seq (.region Qpx 9 []) (.seq (.region Qpy 9 []) (.ret)))⟩
def Qbl (Qj:(List Int)→Int→Option Bool) (Qv:Qf→Int→Option (Int×Int)) (i1:Int) (x2:Qf) (x11:(List Int)) (x14:Qb):Option Bool :=
  ((Qv x2 i1).bind fun (r18,r19)=>(if (r18 != 0) then some true else ((getO x11 i1).bind fun x21=>(if (x21 < 0) then some true else ((Qj x14.zC i1).bind fun x25=>some x25)))))
def Qg3 (P:Program) (c:Nat) (f:(List Int)→(Int→Option Bool)→Option Int):Prop:=∀ s1 f2 (g3:Nat) (cp4:List V) r,f s1 f2 = some r→∀ M nb,(V.dems cp4 = cp4)→(V.ons (There M) cp4)→(∀ a8 r,f2 a8 = some r→∀ M2 nb2,nb≤nb2→Ext M M2→ACalls P g3 ([(i_ a8)] ++ cp4) M2 nb2 (b_ r) M2 nb2)→ACalls P c [(l_ s1),.clo g3 cp4] M nb (i_ r) M nb
def Qw4:List COp:=[oo 4 .mov [cI 0]]
def Qw5:List COp:=[oM 6 0,oo 7 .len [.t 6],oo 8 .mov [cI 0]]
def Qw6:List COp:=[oo 9 (.bin .lss false) [.t 8,.t 7]]
def Qw7:List COp:=[oM 10 8,oM 5 10]
def Qw8:List COp:=[oM 11 1,oM 12 0,oM 13 5,oo 14 (.idx 1) [.t 12,.t 13],oL 15 14,oo 16 .callv [.t 11,.t 15]]
def Qw9:List COp:=[oM 17 5,oM 4 17]
def Qxa:List COp:=[oo 18 (.bin .add false) [.t 8,cI 1],oM 8 18]
def Qxb:List COp:=[oo 4 .mov [cI (-1)]]
def Qg4:CFn:=⟨2,19,[.t 4],.seq (.region Qw4 9 []) (.seq (.seq (.region Qw5 9 []) (.block 0 (.loop [] (.seq (.region Qw6 9 []) (.seq (.cond (.t 9) (.skip) (.exit 0)) (.seq (.block 1 (.seq (.region Qw7 9 []) (.seq (.region Qw8 9 []) (.cond (.t 16) (.seq (.region Qw9 9 []) (.ret)) (.skip))))) (.region Qxa 9 []))))))) (.seq (.region Qxb 9 []) (.ret)))⟩
def Qb2 (fuel:Nat) (s1:(List Int)) (f2:(Int→Option Bool)):Option Int :=
  Qcm (fun k10 (x9:Int)=>(if (x9 < (s1.length:Int)) then ((getO s1 x9).bind fun x12=>((f2 x12).bind fun x15=>(if x15 then some x9 else k10 (IntKind.wrap .i64 (x9 + 1))))) else some (-1))) fuel 0
def Qf1 (P:Program) (c:Nat) (f:(List Int)→(Int→Option Bool)→Option Bool):Prop:=∀ s1 f2 (g3:Nat) (cp4:List V) r,f s1 f2 = some r→∀ M nb,(V.dems cp4 = cp4)→(V.ons (There M) cp4)→(∀ a8 r,f2 a8 = some r→∀ M2 nb2,nb≤nb2→Ext M M2→ACalls P g3 ([(i_ a8)] ++ cp4) M2 nb2 (b_ r) M2 nb2)→ACalls P c [(l_ s1),.clo g3 cp4] M nb (b_ r) M nb
def Qsu:List COp:=[oo 4 .mov [.c (.d (.bool false))]]
def Qsv:List COp:=[oM 5 0,oM 6 1,oo 7 (.call 75) [.t 5,.t 6],oo 8 (.bin .geq false) [.t 7,cI 0],oM 4 8]
def Qf2:CFn:=⟨2,9,[.t 4],.seq (.region Qsu 9 []) (.seq (.region Qsv 9 []) (.ret))⟩
def Qbr (Qb2:(List Int)→(Int→Option Bool)→Option Int) (s1:(List Int)) (f2:(Int→Option Bool)):Option Bool :=
  ((Qb2 s1 f2).bind fun x13=>some (decide (x13≥0)))
def Qf3 (P:Program) (c:Nat) (f:Qb→(List Int)→Option (Bool×Int)):Prop:=∀ p1 xset2 r,f p1 xset2 = some r→∀ M nb,ACalls P c [.agg [(l_ p1.zA.zJ),(i_ p1.zA.zM),(l_ p1.zA.zK),.d (.lst 3 (List.map Qa p1.zA.zL)),(l_ p1.zC),(l_ p1.zB),(l_ p1.zD),(i_ p1.Tick)],(l_ xset2)] M nb (.tup [(b_ r.1),(i_ r.2)]) M nb
def Qsw:List COp:=[oo 2 (.box 8) [.t 0],oo 4 .mov [.c (.d (.bool false))],oo 5 .mov [cI 0]]
def Qsx:List COp:=[oo 11 (.load true 8) [.t 2],oo 12 (.call 30) [.t 11],oM 6 12]
def Qsy:List COp:=[oM 13 6,oo 14 (.bin .neq false) [.t 13,cI 0]]
def Qsz:List COp:=[oM 15 6,oo 4 .mov [.c (.d (.bool false))],oM 5 15]
def Qs0:List COp:=[oM 16 1,oF 17 0 2,oF 18 1 17,oL 19 18,oo 20 (.call 31) [.t 16,.t 19],oM 7 20]
def Qs1:List COp:=[oM 21 7,oo 22 (.bin .neq false) [.t 21,cI 0]]
def Qs2:List COp:=[oM 23 7,oo 4 .mov [.c (.d (.bool false))],oM 5 23]
def Qs3:List COp:=[oo 24 (.load true 8) [.t 2],oo 25 (.call 37) [.t 24],oo 8 (.alloc [.nilp]) [],⟨none,.store 1,[.t 8,.t 25],false,none⟩]
def Qs4:List COp:=[oL 26 8,oo 27 .nilchk [.t 26],oF 28 9 27,oL 29 28,oo 30 .len [.t 29],oo 31 .mov [cI 0]]
def Qs5:List COp:=[oo 32 (.bin .lss false) [.t 31,.t 30]]
def Qq3:List COp:=[oM 33 31,oM 9 33]
def Qq4:List COp:=[oL 34 8,oo 35 .nilchk [.t 34],oF 36 9 35,oL 37 36,oM 38 9,oM 39 1,oM 40 9,oo 41 (.call 50) [.t 39,.t 40],oo 42 (.idx 1) [.t 37,.t 38],⟨none,.store 1,[.t 42,.t 41],false,none⟩]
def Qq5:List COp:=[oo 43 (.bin .add false) [.t 31,cI 1],oM 31 43]
def Qq6:List COp:=[oL 44 8,oo 45 (.call 39) [.t 44],oo 10 (.alloc [.nils 1]) [],⟨none,.store 1,[.t 10,.t 45],true,none⟩]
def Qq7:List COp:=[oM 46 1,oo 47 (.func 52) [.t 8,.t 10,.t 2],oo 48 (.call 51) [.t 46,.t 47],oo 49 (.un .not) [.t 48],oM 4 49,oo 5 .mov [cI 0]]
def Qf4:CFn:=⟨2,50,[.t 4,.t 5],.seq (.region Qsw 9 []) (.seq (.seq (.region Qsx 9 []) (.seq (.region Qsy 9 []) (.cond (.t 14) (.seq (.region Qsz 9 []) (.ret)) (.skip)))) (.seq (.seq (.region Qs0 9 []) (.seq (.region Qs1 9 []) (.cond (.t 22) (.seq (.region Qs2 9 []) (.ret)) (.skip)))) (.seq (.region Qs3 9 []) (.seq (.seq (.region Qs4 9 []) (.block 0 (.loop [] (.seq (.region Qs5 9 []) (.seq (.cond (.t 32) (.skip) (.exit 0)) (.seq (.block 1 (.seq (.region Qq3 9 []) (.region Qq4 1 []))) (.region Qq5 9 []))))))) (.seq (.region Qq6 9 []) (.seq (.region Qq7 9 []) (.ret)))))))⟩
def Qbs (Q4:Qb→Option Int) (Qbb:(List Int)→Int→Option Int) (Q5:Qb→Option Qf) (Qp:Qf→Option ((List Int))) (Qj:(List Int)→Int→Option Bool) (Qbr:(List Int)→(Int→Option Bool)→Option Bool) (Qbl:Int→Qf→(List Int)→Qb→Option Bool) (fuel:Nat) (p1:Qb) (xset2:(List Int)):Option (Bool×Int) :=
  ((Q4 p1).bind fun x4=>(if (x4 != 0) then some (false,x4) else ((Qbb xset2 p1.zA.zM).bind fun x7=>(if (x7 != 0) then some (false,x7) else ((Q5 p1).bind fun x9=>((Qcm (fun k13 ((x11,c12):Int×(List Bool))=>(if (x11 < (x9.left_.length:Int)) then ((Qj xset2 x11).bind fun x16=>((inO x9.left_.length x11).bind fun u17=>((setO c12 x11 x16).bind fun x19=>k13 ((IntKind.wrap .i64 (x11 + 1)),x19)))) else some c12)) fuel (0,x9.left_)).bind fun (c21:List Bool)=>((lenO c21 x9.left_.length).bind fun _=>((Qp (Qf.mk x9.zN x9.from_ c21)).bind fun x24=>((lenO c21 x9.left_.length).bind fun _=>((Qbr xset2 (fun a25=>Qbl a25 (Qf.mk x9.zN x9.from_ c21) x24 p1)).bind fun x30=>some ((!x30),0)))))))))))
def Qd3 (P:Program) (c:Nat) (f:(List Int)→Int→Option Bool):Prop:=∀ l1 n2 r,f l1 n2 = some r→∀ M nb,ACalls P c [(l_ l1),(i_ n2)] M nb (b_ r) M nb
def Q1q:List COp:=[oo 4 .mov [.c (.d (.bool false))]]
def Q1r:List COp:=[oo 5 .mov [cI 0]]
def Q1s:List COp:=[oM 6 5,oM 7 0,oo 8 .len [.t 7],oo 9 (.bin .lss false) [.t 6,.t 8]]
def Q1t:List COp:=[oM 12 0,oM 13 5,oo 14 (.idx 1) [.t 12,.t 13],oL 15 14,oM 16 1,oo 17 (.bin .eql false) [.t 15,.t 16]]
def Q1u:List COp:=[oo 4 .mov [.c (.d (.bool true))]]
def Q1v:List COp:=[oM 10 5,oo 11 (.bin .add false) [.t 10,cI 1],oM 5 11]
def Q1w:List COp:=[oo 4 .mov [.c (.d (.bool false))]]
def Qj1:CFn:=⟨2,18,[.t 4],.seq (.region Q1q 9 []) (.seq (.seq (.region Q1r 9 []) (.block 0 (.loop [] (.seq (.seq (.region Q1s 9 []) (.cond (.t 9) (.skip) (.exit 0))) (.seq (.block 1 (.seq (.region Q1t 9 []) (.cond (.t 17) (.seq (.region Q1u 9 []) (.ret)) (.skip)))) (.region Q1v 9 [])))))) (.seq (.region Q1w 9 []) (.ret)))⟩
def Qt (fuel:Nat) (l1:(List Int)) (n2:Int):Option Bool :=
  Qcm (fun k4 (i3:Int)=>(if (i3 < (l1.length:Int)) then ((getO l1 i3).bind fun x6=>(if (x6 == n2) then some true else k4 (IntKind.wrap .i64 (i3 + 1)))) else some false)) fuel 0
def Qd4 (P:Program) (c:Nat) (f:Qbi→Option ((List Int))):Prop:=∀ m1 (k2:Nat) (k4:Nat) r,f m1 = some r→∀ M nb,(M k2 = some (.cells [(l_ m1.p_.zA.zJ),(i_ m1.p_.zA.zM),(l_ m1.p_.zA.zK),.d (.lst 3 (List.map Qa m1.p_.zA.zL)),(l_ m1.p_.zC),(l_ m1.p_.zB),(l_ m1.p_.zD),(i_ m1.p_.Tick),.sl 1 k4 0 m1.rank_.length m1.rank_.length,.own 4 (List.map Qg m1.removals_),(i_ m1.rounds_)]))→(M k4 = some (.cells (Qz (fun (x:Int)=>[V.d (.int .i64 x)]) m1.rank_)))→ACalls P c [.ptr k2 0] M nb (l_ r) M nb
def Qlp:List COp:=[ot 2 .mov [.c (.nils 1)]]
def Qlq:List COp:=[oM 8 0,oo 9 .nilchk [.t 8],oF 10 0 9,oF 11 0 10,oF 12 1 11,oL 13 12,oo 14 (.makes 1 8 [.d (.int .i64 0)]) [.t 13,.t 13],ot 3 .mov [.t 14]]
def Qlr:List COp:=[oo 4 .mov [cI 0]]
def Qls:List COp:=[oM 15 4,oM 16 3,oo 17 .len [.t 16],oo 18 (.bin .lss false) [.t 15,.t 17]]
def Qlt:List COp:=[oM 21 3,oM 22 4,oo 23 (.idx 1) [.t 21,.t 22],⟨none,.store 1,[.t 23,cI (-1)],false,none⟩]
def Qlu:List COp:=[oM 24 0,oo 25 .nilchk [.t 24],oF 26 8 25,oL 27 26,oM 28 4,oo 29 (.idx 1) [.t 27,.t 28],oL 30 29,oo 31 (.bin .eql false) [.t 30,cI 0],oM 32 31,⟨some 33,.mov,[.t 0],false,some (32,true)⟩,⟨some 34,.nilchk,[.t 33],false,some (32,true)⟩,⟨some 35,.fld 0,[.t 34],false,some (32,true)⟩,⟨some 36,.fld 0,[.t 35],false,some (32,true)⟩,⟨some 37,.fld 2,[.t 36],false,some (32,true)⟩,⟨some 38,.load false 1,[.t 37],false,some (32,true)⟩,⟨some 39,.mov,[.t 4],false,some (32,true)⟩,⟨some 40,.call 23,[.t 38,.t 39],false,some (32,true)⟩,oo 41 .pick [.t 32,.t 40,.c (.d (.bool false))]]
def Qlv:List COp:=[oM 42 3,oM 43 4,oo 44 (.idx 1) [.t 42,.t 43],⟨none,.store 1,[.t 44,cI 0],false,none⟩]
def Qlw:List COp:=[oM 19 4,oo 20 (.bin .add false) [.t 19,cI 1],oM 4 20]
def Qlx:List COp:=[oo 5 .mov [cI 0]]
def Qly:List COp:=[oM 45 5,oM 46 3,oo 47 .len [.t 46],oo 48 (.bin .lss false) [.t 45,.t 47]]
def Qkr:List COp:=[oM 51 0,oo 52 .nilchk [.t 51],oF 53 0 52,oF 54 0 53,oF 55 3 54,oL 56 55,oo 57 .len [.t 56],oo 58 .mov [cI 0]]
def Qks:List COp:=[oo 59 (.bin .lss false) [.t 58,.t 57]]
def Qkt:List COp:=[oo 60 (.idx 3) [.t 56,.t 58],oo 61 (.load true 3) [.t 60],oo 7 (.alloc [.d (.int .i64 0),.d (.int .i64 0),.d (.int .i64 0)]) [],⟨none,.store 3,[.t 7,.t 61],false,none⟩]
def Qku:List COp:=[oM 62 0,oo 63 .nilchk [.t 62],oF 64 8 63,oL 65 64,oF 66 0 7,oL 67 66,oo 68 (.idx 1) [.t 65,.t 67],oL 69 68,oo 70 (.bin .eql false) [.t 69,cI 0],oM 71 70,⟨some 72,.mov,[.t 3],false,some (71,true)⟩,⟨some 73,.fld 0,[.t 7],false,some (71,true)⟩,⟨some 74,.load false 1,[.t 73],false,some (71,true)⟩,⟨some 75,.idx 1,[.t 72,.t 74],false,some (71,true)⟩,⟨some 76,.load false 1,[.t 75],false,some (71,true)⟩,⟨some 77,.bin .lss false,[.t 76,cI 0],false,some (71,true)⟩,oo 78 .pick [.t 71,.t 77,.c (.d (.bool false))],oM 79 78,⟨some 80,.mov,[.t 3],false,some (79,true)⟩,⟨some 81,.fld 2,[.t 7],false,some (79,true)⟩,⟨some 82,.load false 1,[.t 81],false,some (79,true)⟩,⟨some 83,.idx 1,[.t 80,.t 82],false,some (79,true)⟩,⟨some 84,.load false 1,[.t 83],false,some (79,true)⟩,⟨some 85,.mov,[.t 5],false,some (79,true)⟩,⟨some 86,.bin .eql false,[.t 84,.t 85],false,some (79,true)⟩,oo 87 .pick [.t 79,.t 86,.c (.d (.bool false))]]
def Qkv:List COp:=[oM 88 3,oF 89 0 7,oL 90 89,oM 91 5,oo 92 (.bin .add false) [.t 91,cI 1],oo 93 (.idx 1) [.t 88,.t 90],⟨none,.store 1,[.t 93,.t 92],false,none⟩]
def Qkw:List COp:=[oo 94 (.bin .add false) [.t 58,cI 1],oM 58 94]
def Qkx:List COp:=[oM 49 5,oo 50 (.bin .add false) [.t 49,cI 1],oM 5 50]
def Qky:List COp:=[ot 95 .mov [.t 3],ot 2 .mov [.t 95]]
def Qd5:CFn:=⟨1,96,[.t 2],.seq (.region Qlp 9 []) (.seq (.region Qlq 9 []) (.seq (.seq (.region Qlr 9 []) (.block 0 (.loop [] (.seq (.seq (.region Qls 9 []) (.cond (.t 18) (.skip) (.exit 0))) (.seq (.block 1 (.seq (.region Qlt 9 []) (.seq (.region Qlu 9 []) (.cond (.t 41) (.region Qlv 9 []) (.skip))))) (.region Qlw 9 [])))))) (.seq (.seq (.region Qlx 9 []) (.block 2 (.loop [7] (.seq (.seq (.region Qly 9 []) (.cond (.t 48) (.skip) (.exit 2))) (.seq (.block 3 (.seq (.region Qkr 9 []) (.block 4 (.loop [7] (.seq (.region Qks 9 []) (.seq (.cond (.t 59) (.skip) (.exit 4)) (.seq (.block 5 (.seq (.region Qkt 9 []) (.seq (.region Qku 0 []) (.cond (.t 87) (.region Qkv 9 []) (.skip))))) (.region Qkw 9 [])))))))) (.region Qkx 9 [])))))) (.seq (.region Qky 9 []) (.ret)))))⟩
def Q6 (Qt:(List Int)→Int→Option Bool) (fuel:Nat) (m1:Qbi):Option ((List Int)) :=
  ((mkO m1.p_.zA.zM 0).bind fun x6=>((Qcm (fun k10 ((i8,c9):Int×(List Int))=>(if (i8 < ((Int.toNat m1.p_.zA.zM):Int)) then ((((inO (Int.toNat m1.p_.zA.zM) i8).bind fun u12=>((setO c9 i8 (-1)).bind fun x14=>((((inO m1.rank_.length i8).bind fun u16=>((getO m1.rank_ i8).bind fun x18=>(if (x18 == 0) then ((Qt m1.p_.zA.zK i8).bind fun x22=>some x22) else some false)))).bind fun (x23:Bool)=>(if x23 then ((inO (Int.toNat m1.p_.zA.zM) i8).bind fun u25=>((setO x14 i8 0).bind fun x27=>some x27)) else some x14))))).bind fun (c29:List Int)=>k10 ((IntKind.wrap .i64 (i8 + 1)),c29)) else some c9)) fuel (0,x6)).bind fun (c30:List Int)=>((Qcm (fun k33 ((d31,c32):Int×(List Int))=>(if (d31 < ((Int.toNat m1.p_.zA.zM):Int)) then ((Qcm (fun k37 ((x35,c36):Int×(List Int))=>(if (x35 < (m1.p_.zA.zL.length:Int)) then ((((getO m1.p_.zA.zL x35).bind fun x39=>((((inO m1.rank_.length x39.From).bind fun u41=>((getO m1.rank_ x39.From).bind fun x43=>(if (x43 == 0) then ((inO (Int.toNat m1.p_.zA.zM) x39.From).bind fun u46=>((getO c36 x39.From).bind fun x48=>(if (x48 < 0) then ((inO (Int.toNat m1.p_.zA.zM) x39.To).bind fun u51=>((getO c36 x39.To).bind fun x53=>some (x53 == d31))) else some false))) else some false)))).bind fun (x55:Bool)=>(if x55 then ((inO (Int.toNat m1.p_.zA.zM) x39.From).bind fun u57=>((setO c36 x39.From (IntKind.wrap .i64 (d31 + 1))).bind fun x59=>some (x59,x39.From,x39.Event,x39.To))) else some (c36,x39.From,x39.Event,x39.To))))).bind fun ((c61,y62,y63,y64):(List Int)×Int×Int×Int)=>k37 ((IntKind.wrap .i64 (x35 + 1)),c61)) else some c36)) fuel (0,c32)).bind fun (c65:List Int)=>k33 ((IntKind.wrap .i64 (d31 + 1)),c65)) else some c32)) fuel (0,c30)).bind fun (c66:List Int)=>((lenO c66 (Int.toNat m1.p_.zA.zM)).bind fun _=>some c66))))
def Qey (P:Program) (c:Nat) (f:Qbi→Int→Option Bool):Prop:=∀ m1 state6 (k2:Nat) (k4:Nat) r,f m1 state6 = some r→∀ M nb,(M k2 = some (.cells [(l_ m1.p_.zA.zJ),(i_ m1.p_.zA.zM),(l_ m1.p_.zA.zK),.d (.lst 3 (List.map Qa m1.p_.zA.zL)),(l_ m1.p_.zC),(l_ m1.p_.zB),(l_ m1.p_.zD),(i_ m1.p_.Tick),.sl 1 k4 0 m1.rank_.length m1.rank_.length,.own 4 (List.map Qg m1.removals_),(i_ m1.rounds_)]))→(M k4 = some (.cells (Qz (fun (x:Int)=>[V.d (.int .i64 x)]) m1.rank_)))→ACalls P c [.ptr k2 0,(i_ state6)] M nb (b_ r) M nb
def Qom:List COp:=[oo 4 .mov [.c (.d (.bool false))]]
def Qon:List COp:=[oM 7 0,oo 8 .nilchk [.t 7],oF 9 0 8,oF 10 0 9,oF 11 3 10,oL 12 11,oo 13 .len [.t 12],oo 14 .mov [cI 0]]
def Qoo:List COp:=[oo 15 (.bin .lss false) [.t 14,.t 13]]
def Qop:List COp:=[oo 16 (.idx 3) [.t 12,.t 14],oo 17 (.load true 3) [.t 16],oo 6 (.alloc [.d (.int .i64 0),.d (.int .i64 0),.d (.int .i64 0)]) [],⟨none,.store 3,[.t 6,.t 17],false,none⟩]
def Qoq:List COp:=[oF 18 0 6,oL 19 18,oM 20 1,oo 21 (.bin .eql false) [.t 19,.t 20],oM 22 21,⟨some 23,.mov,[.t 0],false,some (22,true)⟩,⟨some 24,.nilchk,[.t 23],false,some (22,true)⟩,⟨some 25,.fld 0,[.t 24],false,some (22,true)⟩,⟨some 26,.fld 6,[.t 25],false,some (22,true)⟩,⟨some 27,.load false 1,[.t 26],false,some (22,true)⟩,⟨some 28,.fld 1,[.t 6],false,some (22,true)⟩,⟨some 29,.load false 1,[.t 28],false,some (22,true)⟩,⟨some 30,.call 23,[.t 27,.t 29],false,some (22,true)⟩,oo 31 .pick [.t 22,.t 30,.c (.d (.bool false))],oM 32 31,⟨some 33,.mov,[.t 0],false,some (32,true)⟩,⟨some 34,.nilchk,[.t 33],false,some (32,true)⟩,⟨some 35,.fld 8,[.t 34],false,some (32,true)⟩,⟨some 36,.load false 1,[.t 35],false,some (32,true)⟩,⟨some 37,.fld 2,[.t 6],false,some (32,true)⟩,⟨some 38,.load false 1,[.t 37],false,some (32,true)⟩,⟨some 39,.idx 1,[.t 36,.t 38],false,some (32,true)⟩,⟨some 40,.load false 1,[.t 39],false,some (32,true)⟩,⟨some 41,.bin .eql false,[.t 40,cI 0],false,some (32,true)⟩,oo 42 .pick [.t 32,.t 41,.c (.d (.bool false))]]
def Qor:List COp:=[oo 4 .mov [.c (.d (.bool true))]]
def Qos:List COp:=[oo 43 (.bin .add false) [.t 14,cI 1],oM 14 43]
def Qot:List COp:=[oo 4 .mov [.c (.d (.bool false))]]
def Qez:CFn:=⟨2,44,[.t 4],.seq (.region Qom 9 []) (.seq (.seq (.region Qon 9 []) (.block 0 (.loop [6] (.seq (.region Qoo 9 []) (.seq (.cond (.t 15) (.skip) (.exit 0)) (.seq (.block 1 (.seq (.region Qop 9 []) (.seq (.region Qoq 0 []) (.cond (.t 42) (.seq (.region Qor 9 []) (.ret)) (.skip))))) (.region Qos 9 []))))))) (.seq (.region Qot 9 []) (.ret)))⟩
def Qbf (Qt:(List Int)→Int→Option Bool) (fuel:Nat) (m1:Qbi) (state6:Int):Option Bool :=
  Qcm (fun k8 (x7:Int)=>(if (x7 < (m1.p_.zA.zL.length:Int)) then ((getO m1.p_.zA.zL x7).bind fun x10=>(((if (x10.From == state6) then ((Qt m1.p_.zD x10.Event).bind fun x14=>(if x14 then ((inO m1.rank_.length x10.To).bind fun u16=>((getO m1.rank_ x10.To).bind fun x18=>some (x18 == 0))) else some false)) else some false)).bind fun (x20:Bool)=>(if x20 then some true else k8 (IntKind.wrap .i64 (x7 + 1))))) else some false)) fuel 0
def Qfo (P:Program) (c:Nat) (f:Qbi→Int→Option (Int×Int)):Prop:=∀ m1 state6 (k2:Nat) (k4:Nat) r,f m1 state6 = some r→∀ M nb,(M k2 = some (.cells [(l_ m1.p_.zA.zJ),(i_ m1.p_.zA.zM),(l_ m1.p_.zA.zK),.d (.lst 3 (List.map Qa m1.p_.zA.zL)),(l_ m1.p_.zC),(l_ m1.p_.zB),(l_ m1.p_.zD),(i_ m1.p_.Tick),.sl 1 k4 0 m1.rank_.length m1.rank_.length,.own 4 (List.map Qg m1.removals_),(i_ m1.rounds_)]))→(M k4 = some (.cells (Qz (fun (x:Int)=>[V.d (.int .i64 x)]) m1.rank_)))→ACalls P c [.ptr k2 0,(i_ state6)] M nb (.tup [(i_ r.1),(i_ r.2)]) M nb
def Qq8:List COp:=[oo 4 .mov [cI 0],oo 5 .mov [cI 0]]
def Qq9:List COp:=[oM 10 0,oo 11 .nilchk [.t 10],oF 12 0 11,oF 13 0 12,oF 14 3 13,oL 15 14,oo 16 .len [.t 15],oo 17 .mov [cI 0]]
def Qra:List COp:=[oo 18 (.bin .lss false) [.t 17,.t 16]]
def Qrb:List COp:=[oo 19 (.idx 3) [.t 15,.t 17],oo 20 (.load true 3) [.t 19],oo 7 (.alloc [.d (.int .i64 0),.d (.int .i64 0),.d (.int .i64 0)]) [],⟨none,.store 3,[.t 7,.t 20],false,none⟩]
def Qrc:List COp:=[oF 21 0 7,oL 22 21,oM 23 1,oo 24 (.bin .eql false) [.t 22,.t 23],oM 25 24,⟨some 26,.mov,[.t 0],false,some (25,true)⟩,⟨some 27,.nilchk,[.t 26],false,some (25,true)⟩,⟨some 28,.fld 0,[.t 27],false,some (25,true)⟩,⟨some 29,.fld 5,[.t 28],false,some (25,true)⟩,⟨some 30,.load false 1,[.t 29],false,some (25,true)⟩,⟨some 31,.fld 1,[.t 7],false,some (25,true)⟩,⟨some 32,.load false 1,[.t 31],false,some (25,true)⟩,⟨some 33,.call 23,[.t 30,.t 32],false,some (25,true)⟩,oo 34 .pick [.t 25,.t 33,.c (.d (.bool false))],oM 35 34,⟨some 36,.mov,[.t 0],false,some (35,true)⟩,⟨some 37,.nilchk,[.t 36],false,some (35,true)⟩,⟨some 38,.fld 8,[.t 37],false,some (35,true)⟩,⟨some 39,.load false 1,[.t 38],false,some (35,true)⟩,⟨some 40,.fld 2,[.t 7],false,some (35,true)⟩,⟨some 41,.load false 1,[.t 40],false,some (35,true)⟩,⟨some 42,.idx 1,[.t 39,.t 41],false,some (35,true)⟩,⟨some 43,.load false 1,[.t 42],false,some (35,true)⟩,⟨some 44,.bin .gtr false,[.t 43,cI 0],false,some (35,true)⟩,oo 45 .pick [.t 35,.t 44,.c (.d (.bool false))]]
def Qrd:List COp:=[oF 46 1 7,oL 47 46,oo 4 .mov [cI 2],oM 5 47]
def Qre:List COp:=[oo 48 (.bin .add false) [.t 17,cI 1],oM 17 48]
def Qrf:List COp:=[oM 49 0,oo 50 .nilchk [.t 49],oF 51 0 50,oF 52 0 51,oF 53 3 52,oL 54 53,oo 55 .len [.t 54],oo 56 .mov [cI 0]]
def Qrg:List COp:=[oo 57 (.bin .lss false) [.t 56,.t 55]]
def Qrh:List COp:=[oo 58 (.idx 3) [.t 54,.t 56],oo 59 (.load true 3) [.t 58],oo 9 (.alloc [.d (.int .i64 0),.d (.int .i64 0),.d (.int .i64 0)]) [],⟨none,.store 3,[.t 9,.t 59],false,none⟩]
def Qpz:List COp:=[oF 60 0 9,oL 61 60,oM 62 1,oo 63 (.bin .eql false) [.t 61,.t 62],oM 64 63,⟨some 65,.fld 1,[.t 9],false,some (64,true)⟩,⟨some 66,.load false 1,[.t 65],false,some (64,true)⟩,⟨some 67,.mov,[.t 0],false,some (64,true)⟩,⟨some 68,.nilchk,[.t 67],false,some (64,true)⟩,⟨some 69,.fld 0,[.t 68],false,some (64,true)⟩,⟨some 70,.fld 7,[.t 69],false,some (64,true)⟩,⟨some 71,.load false 1,[.t 70],false,some (64,true)⟩,⟨some 72,.bin .eql false,[.t 66,.t 71],false,some (64,true)⟩,oo 73 .pick [.t 64,.t 72,.c (.d (.bool false))],oM 74 73,⟨some 75,.mov,[.t 0],false,some (74,true)⟩,⟨some 76,.nilchk,[.t 75],false,some (74,true)⟩,⟨some 77,.fld 8,[.t 76],false,some (74,true)⟩,⟨some 78,.load false 1,[.t 77],false,some (74,true)⟩,⟨some 79,.fld 2,[.t 9],false,some (74,true)⟩,⟨some 80,.load false 1,[.t 79],false,some (74,true)⟩,⟨some 81,.idx 1,[.t 78,.t 80],false,some (74,true)⟩,⟨some 82,.load false 1,[.t 81],false,some (74,true)⟩,⟨some 83,.bin .gtr false,[.t 82,cI 0],false,some (74,true)⟩,oo 84 .pick [.t 74,.t 83,.c (.d (.bool false))],oM 85 84,⟨some 86,.mov,[.t 0],false,some (85,true)⟩,⟨some 87,.mov,[.t 1],false,some (85,true)⟩,⟨some 88,.call 54,[.t 86,.t 87],false,some (85,true)⟩,⟨some 89,.un .not,[.t 88],false,some (85,true)⟩,oo 90 .pick [.t 85,.t 89,.c (.d (.bool false))]]
def Qp0:List COp:=[oF 91 1 9,oL 92 91,oo 4 .mov [cI 4],oM 5 92]
def Qp1:List COp:=[oo 93 (.bin .add false) [.t 56,cI 1],oM 56 93]
def Qp2:List COp:=[oo 4 .mov [cI 0],oo 5 .mov [cI 0]]
def Qfp:CFn:=⟨2,94,[.t 4,.t 5],.seq (.region Qq8 9 []) (.seq (.seq (.region Qq9 9 []) (.block 0 (.loop [7] (.seq (.region Qra 9 []) (.seq (.cond (.t 18) (.skip) (.exit 0)) (.seq (.block 1 (.seq (.region Qrb 9 []) (.seq (.region Qrc 0 []) (.cond (.t 45) (.seq (.region Qrd 0 []) (.ret)) (.skip))))) (.region Qre 9 []))))))) (.seq (.seq (.region Qrf 9 []) (.block 2 (.loop [9] (.seq (.region Qrg 9 []) (.seq (.cond (.t 57) (.skip) (.exit 2)) (.seq (.block 3 (.seq (.region Qrh 9 []) (.seq (.region Qpz 0 []) (.cond (.t 90) (.seq (.region Qp0 0 []) (.ret)) (.skip))))) (.region Qp1 9 []))))))) (.seq (.region Qp2 9 []) (.ret))))⟩
def Qbn (Qt:(List Int)→Int→Option Bool) (Qbf:Qbi→Int→Option Bool) (fuel:Nat) (m1:Qbi) (state6:Int):Option (Int×Int) :=
  Qcm (fun k8 (x7:Int)=>(if (x7 < (m1.p_.zA.zL.length:Int)) then ((getO m1.p_.zA.zL x7).bind fun x10=>(((if (x10.From == state6) then ((Qt m1.p_.zB x10.Event).bind fun x14=>(if x14 then ((inO m1.rank_.length x10.To).bind fun u16=>((getO m1.rank_ x10.To).bind fun x18=>some (decide (x18 > 0)))) else some false)) else some false)).bind fun (x20:Bool)=>(if x20 then some (2,x10.Event) else k8 (IntKind.wrap .i64 (x7 + 1))))) else Qcm (fun k23 (x22:Int)=>(if (x22 < (m1.p_.zA.zL.length:Int)) then ((getO m1.p_.zA.zL x22).bind fun x25=>(((if (x25.From == state6) then (if (x25.Event == m1.p_.Tick) then ((inO m1.rank_.length x25.To).bind fun u29=>((getO m1.rank_ x25.To).bind fun x31=>(if (x31 > 0) then ((Qbf m1 state6).bind fun x35=>some (!x35)) else some false))) else some false) else some false)).bind fun (x36:Bool)=>(if x36 then some (4,x25.Event) else k23 (IntKind.wrap .i64 (x22 + 1))))) else some (0,0))) fuel 0)) fuel 0
def Qp3 (P:Program) (c:Nat) (f:(List Int)→(List Int)→(Bool→Bool→Option Bool)→Option ((List Int))):Prop:=∀ a1 b2 keep3 (g4:Nat) (cp5:List V) r,f a1 b2 keep3 = some r→∀ M nb,(V.dems cp5 = cp5)→(V.ons (There M) cp5)→(∀ a9 a10 r,keep3 a9 a10 = some r→∀ M2 nb2,nb≤nb2→Ext M M2→ACalls P g4 ([(b_ a9),(b_ a10)] ++ cp5) M2 nb2 (b_ r) M2 nb2)→ACalls P c [(l_ a1),(l_ b2),.clo g4 cp5] M nb (o_ r) M nb
def Q5p:List COp:=[ot 6 .mov [.c (.nils 1)]]
def Q5q:List COp:=[ot 7 .mov [.c (.nils 1)]]
def Q5r:List COp:=[oM 11 0,oo 12 .len [.t 11],oo 13 (.bin .gtr false) [.t 12,cI 0],oM 14 13,⟨some 15,.mov,[.t 1],false,some (14,false)⟩,⟨some 16,.len,[.t 15],false,some (14,false)⟩,⟨some 17,.bin .gtr false,[.t 16,cI 0],false,some (14,false)⟩,oo 18 .pick [.t 14,.c (.d (.bool true)),.t 17]]
def Q5s:List COp:=[oM 19 0,oo 20 .len [.t 19],oo 21 (.bin .gtr false) [.t 20,cI 0],oM 22 21,⟨some 23,.mov,[.t 1],false,some (22,true)⟩,⟨some 24,.len,[.t 23],false,some (22,true)⟩,⟨some 25,.bin .eql false,[.t 24,cI 0],false,some (22,true)⟩,⟨some 26,.mov,[.t 25],false,some (22,true)⟩,⟨some 27,.mov,[.t 0],false,some (26,false)⟩,⟨some 28,.idx 1,[.t 27,cI 0],false,some (26,false)⟩,⟨some 29,.load false 1,[.t 28],false,some (26,false)⟩,⟨some 30,.mov,[.t 1],false,some (26,false)⟩,⟨some 31,.idx 1,[.t 30,cI 0],false,some (26,false)⟩,⟨some 32,.load false 1,[.t 31],false,some (26,false)⟩,⟨some 33,.bin .leq false,[.t 29,.t 32],false,some (26,false)⟩,⟨some 34,.pick,[.t 26,.c (.d (.bool true)),.t 33],false,some (22,true)⟩,oo 35 .pick [.t 22,.t 34,.c (.d (.bool false))],oM 8 35]
def Q5t:List COp:=[oM 36 1,oo 37 .len [.t 36],oo 38 (.bin .gtr false) [.t 37,cI 0],oM 39 38,⟨some 40,.mov,[.t 0],false,some (39,true)⟩,⟨some 41,.len,[.t 40],false,some (39,true)⟩,⟨some 42,.bin .eql false,[.t 41,cI 0],false,some (39,true)⟩,⟨some 43,.mov,[.t 42],false,some (39,true)⟩,⟨some 44,.mov,[.t 1],false,some (43,false)⟩,⟨some 45,.idx 1,[.t 44,cI 0],false,some (43,false)⟩,⟨some 46,.load false 1,[.t 45],false,some (43,false)⟩,⟨some 47,.mov,[.t 0],false,some (43,false)⟩,⟨some 48,.idx 1,[.t 47,cI 0],false,some (43,false)⟩,⟨some 49,.load false 1,[.t 48],false,some (43,false)⟩,⟨some 50,.bin .leq false,[.t 46,.t 49],false,some (43,false)⟩,⟨some 51,.pick,[.t 43,.c (.d (.bool true)),.t 50],false,some (39,true)⟩,oo 52 .pick [.t 39,.t 51,.c (.d (.bool false))],oM 9 52]
def Q5u:List COp:=[oo 10 .mov [cI 0]]
def Q5v:List COp:=[oM 53 8]
def Q5w:List COp:=[oM 54 0,oo 55 (.idx 1) [.t 54,cI 0],oL 56 55,ot 57 .mov [.t 0],ot 58 (.slcT 1) [.t 57,cI 1],oM 10 56,ot 0 .mov [.t 58]]
def Q5x:List COp:=[oM 59 9]
def Q5y:List COp:=[oM 60 1,oo 61 (.idx 1) [.t 60,cI 0],oL 62 61,ot 63 .mov [.t 1],ot 64 (.slcT 1) [.t 63,cI 1],oM 10 62,ot 1 .mov [.t 64]]
def Q4p:List COp:=[oM 65 2,oM 66 8,oM 67 9,oo 68 .callv [.t 65,.t 66,.t 67]]
def Q4q:List COp:=[ot 69 .mov [.t 7],oM 70 10,oo 71 (.bslice 1 1 [.d (.int .i64 0)] [0]) [.t 70],ot 72 (.append 1 8) [.t 69,.t 71],ot 7 .mov [.t 72]]
def Q4r:List COp:=[ot 73 .mov [.t 7],ot 6 .mov [.t 73]]
def Qp4:CFn:=⟨3,74,[.t 6],.seq (.region Q5p 9 []) (.seq (.region Q5q 9 []) (.seq (.block 0 (.loop [71] (.seq (.seq (.region Q5r 9 []) (.cond (.t 18) (.skip) (.exit 0))) (.block 1 (.seq (.region Q5s 0 []) (.seq (.region Q5t 0 []) (.seq (.region Q5u 9 []) (.seq (.seq (.region Q5v 9 []) (.cond (.t 53) (.region Q5w 0 []) (.skip))) (.seq (.seq (.region Q5x 9 []) (.cond (.t 59) (.region Q5y 0 []) (.skip))) (.seq (.region Q4p 9 []) (.cond (.t 68) (.region Q4q 9 []) (.skip)))))))))))) (.seq (.region Q4r 9 []) (.ret))))⟩
def Qdh (fuel:Nat) (a1:(List Int)) (b2:(List Int)) (keep3:(Bool→Bool→Option Bool)):Option ((List Int)) :=
  ((Qcm (fun k14 ((a11,b12,out13):(List Int)×(List Int)×(List Int))=>(((if ((a11.length:Int) > 0) then some true else some (decide ((b12.length:Int) > 0)))).bind fun (x16:Bool)=>(if x16 then (((if ((a11.length:Int) > 0) then (if ((b12.length:Int) == 0) then some true else ((getO a11 0).bind fun x20=>((getO b12 0).bind fun x22=>some (decide (x20≤x22))))) else some false)).bind fun (inA24:Bool)=>(((if ((b12.length:Int) > 0) then (if ((a11.length:Int) == 0) then some true else ((getO b12 0).bind fun x27=>((getO a11 0).bind fun x29=>some (decide (x27≤x29))))) else some false)).bind fun (inB31:Bool)=>(((if inA24 then ((getO a11 0).bind fun x33=>((slcO a11 1 (a11.length:Int)).bind fun x35=>some (x35,x33))) else some (a11,0))).bind fun ((a37,x38):(List Int)×Int)=>(((if inB31 then ((getO b12 0).bind fun x40=>((slcO b12 1 (b12.length:Int)).bind fun x42=>some (x42,x40))) else some (b12,x38))).bind fun ((b44,x45):(List Int)×Int)=>((keep3 inA24 inB31).bind fun x47=>(if x47 then ((appO out13 [x45]).bind fun x49=>k14 (a37,b44,x49)) else k14 (a37,b44,out13))))))) else some out13))) fuel (a1,b2,[])).bind fun (out51:List Int)=>some out51)
def Qlz (P:Program) (c:Nat) (f:Bool→Bool→Option Bool):Prop:=∀ inA1 inB2 r,f inA1 inB2 = some r→∀ M nb,ACalls P c [(b_ inA1),(b_ inB2)] M nb (b_ r) M nb
def Q3q:List COp:=[oo 4 .mov [.c (.d (.bool false))]]
def Q3r:List COp:=[oM 5 0,oM 6 5,⟨some 7,.mov,[.t 1],false,some (6,true)⟩,⟨some 8,.un .not,[.t 7],false,some (6,true)⟩,oo 9 .pick [.t 6,.t 8,.c (.d (.bool false))],oM 4 9]
def Ql0:CFn:=⟨2,10,[.t 4],.seq (.region Q3q 9 []) (.seq (.region Q3r 9 []) (.ret))⟩
def Qdd (inA1:Bool) (inB2:Bool):Option Bool :=
  (if inA1 then some (!inB2) else some false)
def Qp5 (P:Program) (c:Nat) (f:(List Int)→(List Int)→Option ((List Int))):Prop:=∀ a1 b2 r,f a1 b2 = some r→∀ M nb,ACalls P c [(l_ a1),(l_ b2)] M nb (o_ r) M nb
def Q5z:List COp:=[ot 4 .mov [.c (.nils 1)]]
def Q50:List COp:=[oM 5 0,oM 6 1,oo 7 (.call 66) [.t 5,.t 6,.c (.clo 78 [])],ot 4 .mov [.t 7]]
def Qp6:CFn:=⟨2,8,[.t 4],.seq (.region Q5z 9 []) (.seq (.region Q50 9 []) (.ret))⟩
def Qdi (Qdh:(List Int)→(List Int)→(Bool→Bool→Option Bool)→Option ((List Int))) (Qdd:Bool→Bool→Option Bool) (a1:(List Int)) (b2:(List Int)):Option ((List Int)) :=
  ((Qdh a1 b2 Qdd).bind fun x8=>some x8)
def Qmu (P:Program) (c:Nat) (f:(List Int)→(List Int)→Option Bool):Prop:=∀ a1 b2 r,f a1 b2 = some r→∀ M nb,ACalls P c [(l_ a1),(l_ b2)] M nb (b_ r) M nb
def Q4s:List COp:=[oo 4 .mov [.c (.d (.bool false))]]
def Q4t:List COp:=[oM 5 0,oM 6 1,oo 7 (.call 55) [.t 5,.t 6],oo 8 .len [.t 7],oo 9 (.bin .eql false) [.t 8,cI 0],oM 4 9]
def Qmv:CFn:=⟨2,10,[.t 4],.seq (.region Q4s 9 []) (.seq (.region Q4t 9 []) (.ret))⟩
def Qc6 (Qdi:(List Int)→(List Int)→Option ((List Int))) (a1:(List Int)) (b2:(List Int)):Option Bool :=
  ((Qdi a1 b2).bind fun x4=>some ((x4.length:Int) == 0))
def Qen (P:Program) (c:Nat) (f:Q2→Option Bool):Prop:=∀ k1 r,f k1 = some r→∀ M nb,ACalls P c [.agg [.d (.int .u8 k1.Part.Events),.d (.int .u8 k1.Part.Graph.zM),.d (.int .u8 k1.Part.Graph.Marks),.d (.int .u8 k1.Part.Graph.To.1.1),.d (.int .u8 k1.Part.Graph.To.1.2.1),.d (.int .u8 k1.Part.Graph.To.1.2.2.1),.d (.int .u8 k1.Part.Graph.To.1.2.2.2.1),.d (.int .u8 k1.Part.Graph.To.1.2.2.2.2),.d (.int .u8 k1.Part.Graph.To.2.1.1),.d (.int .u8 k1.Part.Graph.To.2.1.2.1),.d (.int .u8 k1.Part.Graph.To.2.1.2.2.1),.d (.int .u8 k1.Part.Graph.To.2.1.2.2.2.1),.d (.int .u8 k1.Part.Graph.To.2.1.2.2.2.2),.d (.int .u8 k1.Part.Graph.To.2.2.1.1),.d (.int .u8 k1.Part.Graph.To.2.2.1.2.1),.d (.int .u8 k1.Part.Graph.To.2.2.1.2.2.1),.d (.int .u8 k1.Part.Graph.To.2.2.1.2.2.2.1),.d (.int .u8 k1.Part.Graph.To.2.2.1.2.2.2.2),.d (.int .u8 k1.Part.Graph.To.2.2.2.1.1),.d (.int .u8 k1.Part.Graph.To.2.2.2.1.2.1),.d (.int .u8 k1.Part.Graph.To.2.2.2.1.2.2.1),.d (.int .u8 k1.Part.Graph.To.2.2.2.1.2.2.2.1),.d (.int .u8 k1.Part.Graph.To.2.2.2.1.2.2.2.2),.d (.int .u8 k1.Part.Graph.To.2.2.2.2.1),.d (.int .u8 k1.Part.Graph.To.2.2.2.2.2.1),.d (.int .u8 k1.Part.Graph.To.2.2.2.2.2.2.1),.d (.int .u8 k1.Part.Graph.To.2.2.2.2.2.2.2.1),.d (.int .u8 k1.Part.Graph.To.2.2.2.2.2.2.2.2),.d (.int .u8 k1.zC),.d (.int .u8 k1.zB),.d (.int .u8 k1.zD)]] M nb (b_ r) M nb
def Qhz:List COp:=[oo 1 (.box 31) [.t 0],oo 2 .mov [.c (.d (.bool false))]]
def Qh0:List COp:=[oo 18 (.call 9) [],oo 19 (.un .not) [.t 18]]
def Qh1:List COp:=[oo 2 .mov [.c (.d (.bool false))]]
def Qh2:List COp:=[oo 20 (.load true 31) [.t 1],oo 21 (.call 10) [.t 20],oo 3 (.alloc [.nils 1,.d (.int .i64 0),.nils 1,.nils 3,.nils 1,.nils 1,.nils 1,.d (.int .i64 0)]) [],⟨none,.store 8,[.t 3,.t 21],true,none⟩]
def Qh3:List COp:=[oo 23 (.load true 8) [.t 3],oo 24 (.call 11) [.t 23],oM 22 24,oo 25 (.extract 0) [.t 22],oo 26 (.extract 1) [.t 22],oo 4 (.alloc [.nils 1,.nils 1,.nils 4,.d (.int .i64 0),.nils 1,.d (.int .i64 0),.nils 1,.nils 3,.nils 1,.nils 1]) [],⟨none,.store 10,[.t 4,.t 25],true,none⟩,oM 5 26]
def Qh4:List COp:=[oM 27 5,oo 28 (.bin .neq false) [.t 27,cI 0]]
def Qh5:List COp:=[oo 2 .mov [.c (.d (.bool false))]]
def Qh6:List COp:=[oF 29 0 3,oF 30 1 29,oL 31 30,oM 6 31]
def Qh7:List COp:=[oo 7 .mov [cI 0]]
def Qh8:List COp:=[oM 32 7,oM 33 6,oo 34 (.bin .shl false) [cI 1,.t 33],oo 35 (.bin .lss false) [.t 32,.t 34]]
def Qg5:List COp:=[ot 8 .mov [.c (.nils 1)]]
def Qg6:List COp:=[oo 38 (.load true 8) [.t 3],oM 39 6,oo 40 (.makes 1 8 [.d (.int .i64 0)]) [.t 39,.t 39],ot 41 (.build [.nils 1,.d (.int .i64 0),.nils 1,.nils 3,.nils 1,.nils 1,.nils 1,.d (.int .i64 0),.nils 1,.nils 4,.d (.int .i64 0)] [(0,8),(8,1)]) [.t 38,.t 40],oo 42 (.box 11) [.t 41],oM 9 42]
def Qg7:List COp:=[oo 10 .mov [cI 0]]
def Qg8:List COp:=[oM 43 10,oM 44 6,oo 45 (.bin .lss false) [.t 43,.t 44]]
def Qg9:List COp:=[oM 48 7,oM 49 10,oo 50 (.bin .shr false) [.t 48,.t 49],oo 51 (.bin .and false) [.t 50,cI 1],oo 52 (.bin .eql false) [.t 51,cI 1]]
def Qha:List COp:=[ot 53 .mov [.t 8],oM 54 10,oo 55 (.bslice 1 1 [.d (.int .i64 0)] [0]) [.t 54],ot 56 (.append 1 8) [.t 53,.t 55],ot 8 .mov [.t 56]]
def Qhb:List COp:=[oM 57 9,oo 58 .nilchk [.t 57],oF 59 8 58,oL 60 59,oM 61 10,oo 62 (.idx 1) [.t 60,.t 61],⟨none,.store 1,[.t 62,cI 1],false,none⟩]
def Qhc:List COp:=[oM 46 10,oo 47 (.bin .add false) [.t 46,cI 1],oM 10 47]
def Qhd:List COp:=[oo 64 (.load true 8) [.t 3],oM 65 8,oo 66 (.call 20) [.t 64,.t 65],oM 63 66,oo 67 (.extract 0) [.t 63],oo 68 (.extract 1) [.t 63],oM 11 67,oM 12 68]
def Qhe:List COp:=[oM 69 9,oo 70 (.call 21) [.t 69],ot 13 .mov [.t 70]]
def Qhf:List COp:=[oo 14 .mov [.c (.d (.bool true))]]
def Qhg:List COp:=[oo 15 .mov [cI 0]]
def Qhh:List COp:=[oM 71 15,oM 72 6,oo 73 (.bin .lss false) [.t 71,.t 72]]
def Qhi:List COp:=[oM 77 9,oM 78 15,oo 79 (.call 22) [.t 77,.t 78],oM 76 79,oo 80 (.extract 0) [.t 76],oo 81 (.extract 1) [.t 76],oM 16 80,oM 17 81]
def Qhj:List COp:=[oM 82 14,oM 83 82,⟨some 84,.mov,[.t 9],false,some (83,true)⟩,⟨some 85,.nilchk,[.t 84],false,some (83,true)⟩,⟨some 86,.fld 8,[.t 85],false,some (83,true)⟩,⟨some 87,.load false 1,[.t 86],false,some (83,true)⟩,⟨some 88,.mov,[.t 15],false,some (83,true)⟩,⟨some 89,.idx 1,[.t 87,.t 88],false,some (83,true)⟩,⟨some 90,.load false 1,[.t 89],false,some (83,true)⟩,⟨some 91,.bin .gtr false,[.t 90,cI 0],false,some (83,true)⟩,⟨some 92,.mov,[.t 91],false,some (83,true)⟩,⟨some 93,.mov,[.t 16],false,some (92,false)⟩,⟨some 94,.bin .eql false,[.t 93,cI 0],false,some (92,false)⟩,⟨some 95,.mov,[.t 94],false,some (92,false)⟩,⟨some 96,.fld 4,[.t 3],false,some (95,true)⟩,⟨some 97,.load false 1,[.t 96],false,some (95,true)⟩,⟨some 98,.mov,[.t 15],false,some (95,true)⟩,⟨some 99,.call 23,[.t 97,.t 98],false,some (95,true)⟩,⟨some 100,.un .not,[.t 99],false,some (95,true)⟩,⟨some 101,.pick,[.t 95,.t 100,.c (.d (.bool false))],false,some (92,false)⟩,⟨some 102,.mov,[.t 101],false,some (92,false)⟩,⟨some 103,.mov,[.t 13],false,some (102,true)⟩,⟨some 104,.mov,[.t 15],false,some (102,true)⟩,⟨some 105,.idx 1,[.t 103,.t 104],false,some (102,true)⟩,⟨some 106,.load false 1,[.t 105],false,some (102,true)⟩,⟨some 107,.bin .geq false,[.t 106,cI 0],false,some (102,true)⟩,⟨some 108,.pick,[.t 102,.t 107,.c (.d (.bool false))],false,some (92,false)⟩,⟨some 109,.pick,[.t 92,.c (.d (.bool true)),.t 108],false,some (83,true)⟩,oo 110 .pick [.t 83,.t 109,.c (.d (.bool false))],oM 14 110]
def Qhk:List COp:=[oM 74 15,oo 75 (.bin .add false) [.t 74,cI 1],oM 15 75]
def Qhl:List COp:=[oM 111 12,oo 112 (.bin .neq false) [.t 111,cI 0],oM 113 112,⟨some 114,.mov,[.t 11],false,some (113,false)⟩,⟨some 115,.mov,[.t 14],false,some (113,false)⟩,⟨some 116,.bin .neq true,[.t 114,.t 115],false,some (113,false)⟩,oo 117 .pick [.t 113,.c (.d (.bool true)),.t 116],oM 118 117,⟨some 119,.mov,[.t 11],false,some (118,false)⟩,⟨some 120,.mov,[.t 119],false,some (118,false)⟩,⟨some 121,.mov,[.t 8],false,some (120,true)⟩,⟨some 122,.fld 0,[.t 4],false,some (120,true)⟩,⟨some 123,.fld 0,[.t 122],false,some (120,true)⟩,⟨some 124,.load false 1,[.t 123],false,some (120,true)⟩,⟨some 125,.call 24,[.t 121,.t 124],false,some (120,true)⟩,⟨some 126,.un .not,[.t 125],false,some (120,true)⟩,⟨some 127,.pick,[.t 120,.t 126,.c (.d (.bool false))],false,some (118,false)⟩,oo 128 .pick [.t 118,.c (.d (.bool true)),.t 127],oM 129 128,⟨some 130,.mov,[.t 8],false,some (129,false)⟩,⟨some 131,.fld 0,[.t 4],false,some (129,false)⟩,⟨some 132,.fld 0,[.t 131],false,some (129,false)⟩,⟨some 133,.load false 1,[.t 132],false,some (129,false)⟩,⟨some 134,.call 16,[.t 130,.t 133],false,some (129,false)⟩,⟨some 135,.mov,[.t 134],false,some (129,false)⟩,⟨some 136,.mov,[.t 11],false,some (135,true)⟩,⟨some 137,.un .not,[.t 136],false,some (135,true)⟩,⟨some 138,.pick,[.t 135,.t 137,.c (.d (.bool false))],false,some (129,false)⟩,oo 139 .pick [.t 129,.c (.d (.bool true)),.t 138]]
def Qhm:List COp:=[oo 2 .mov [.c (.d (.bool false))]]
def Qhn:List COp:=[oM 36 7,oo 37 (.bin .add false) [.t 36,cI 1],oM 7 37]
def Qho:List COp:=[oo 2 .mov [.c (.d (.bool true))]]
def Qc7:CFn:=⟨1,140,[.t 2],.seq (.region Qhz 9 []) (.seq (.seq (.region Qh0 9 []) (.cond (.t 19) (.seq (.region Qh1 9 []) (.ret)) (.skip))) (.seq (.region Qh2 9 []) (.seq (.region Qh3 9 []) (.seq (.seq (.region Qh4 9 []) (.cond (.t 28) (.seq (.region Qh5 9 []) (.ret)) (.skip))) (.seq (.region Qh6 9 []) (.seq (.seq (.region Qh7 9 []) (.block 0 (.loop [40,42,55] (.seq (.seq (.region Qh8 9 []) (.cond (.t 35) (.skip) (.exit 0))) (.seq (.block 1 (.seq (.region Qg5 9 []) (.seq (.region Qg6 0 []) (.seq (.seq (.region Qg7 9 []) (.block 2 (.loop [55] (.seq (.seq (.region Qg8 9 []) (.cond (.t 45) (.skip) (.exit 2))) (.seq (.block 3 (.seq (.region Qg9 9 []) (.cond (.t 52) (.region Qha 9 []) (.region Qhb 9 [])))) (.region Qhc 9 [])))))) (.seq (.region Qhd 9 []) (.seq (.region Qhe 9 []) (.seq (.region Qhf 9 []) (.seq (.seq (.region Qhg 9 []) (.block 4 (.loop [] (.seq (.seq (.region Qhh 9 []) (.cond (.t 73) (.skip) (.exit 4))) (.seq (.block 5 (.seq (.region Qhi 9 []) (.region Qhj 9 []))) (.region Qhk 9 [])))))) (.seq (.region Qhl 9 []) (.cond (.t 139) (.seq (.region Qhm 9 []) (.ret)) (.skip))))))))))) (.region Qhn 9 [])))))) (.seq (.region Qho 9 []) (.ret))))))))⟩
def Qcb (Qco:Option Bool) (Qci:Q2→Option Qb) (Qu:Qb→Option (Qbm×Int)) (Qcz:(List Int)→(List Int)→Option Bool) (Qbs:Qb→(List Int)→Option (Bool×Int)) (Q6:Qbi→Option ((List Int))) (Qbn:Qbi→Int→Option (Int×Int)) (Qt:(List Int)→Int→Option Bool) (Qc6:(List Int)→(List Int)→Option Bool) (fuel:Nat) (k1:Q2):Option Bool :=
  (Qco.bind fun x3=>(if x3 then ((Qci (Q2.mk (Qem.mk k1.Part.Events (Qbh.mk k1.Part.Graph.zM k1.Part.Graph.Marks ((k1.Part.Graph.To.1.1,k1.Part.Graph.To.1.2.1,k1.Part.Graph.To.1.2.2.1,k1.Part.Graph.To.1.2.2.2.1,k1.Part.Graph.To.1.2.2.2.2),(k1.Part.Graph.To.2.1.1,k1.Part.Graph.To.2.1.2.1,k1.Part.Graph.To.2.1.2.2.1,k1.Part.Graph.To.2.1.2.2.2.1,k1.Part.Graph.To.2.1.2.2.2.2),(k1.Part.Graph.To.2.2.1.1,k1.Part.Graph.To.2.2.1.2.1,k1.Part.Graph.To.2.2.1.2.2.1,k1.Part.Graph.To.2.2.1.2.2.2.1,k1.Part.Graph.To.2.2.1.2.2.2.2),(k1.Part.Graph.To.2.2.2.1.1,k1.Part.Graph.To.2.2.2.1.2.1,k1.Part.Graph.To.2.2.2.1.2.2.1,k1.Part.Graph.To.2.2.2.1.2.2.2.1,k1.Part.Graph.To.2.2.2.1.2.2.2.2),(k1.Part.Graph.To.2.2.2.2.1,k1.Part.Graph.To.2.2.2.2.2.1,k1.Part.Graph.To.2.2.2.2.2.2.1,k1.Part.Graph.To.2.2.2.2.2.2.2.1,k1.Part.Graph.To.2.2.2.2.2.2.2.2)))) k1.zC k1.zB k1.zD)).bind fun x6=>((Qu x6).bind fun (r8,r9)=>(if (r9 != 0) then some false else Qcm (fun k12 (bits11:Int)=>((shlO .i64 1 x6.zA.zM).bind fun s13=>(if (bits11 < s13) then ((mkO x6.zA.zM 0).bind fun x16=>((Qcm (fun k21 ((xset18,i19,c20):(List Int)×Int×(List Int))=>(if (i19 < x6.zA.zM) then ((((shrO .i64 bits11 i19).bind fun s23=>(if ((andI .i64 s23 1) == 1) then ((appO xset18 [i19]).bind fun x26=>some (x26,c20)) else ((inO (Int.toNat x6.zA.zM) i19).bind fun u28=>((setO c20 i19 1).bind fun x30=>some (xset18,x30)))))).bind fun ((xset32,c33):(List Int)×(List Int))=>k21 (xset32,(IntKind.wrap .i64 (i19 + 1)),c33)) else some (xset18,c20))) fuel ([],0,x16)).bind fun ((xset34,c35):(List Int)×(List Int))=>((Qbs x6 xset34).bind fun (r37,r38)=>((lenO c35 (Int.toNat x6.zA.zM)).bind fun _=>((Q6 (Qbi.mk x6 c35 [] 0)).bind fun x41=>((Qcm (fun k44 ((want42,i43):Bool×Int)=>(if (i43 < x6.zA.zM) then ((((lenO c35 (Int.toNat x6.zA.zM)).bind fun _=>((Qbn (Qbi.mk x6 c35 [] 0) i43).bind fun (r48,r49)=>(if want42 then ((inO (Int.toNat x6.zA.zM) i43).bind fun u51=>((getO c35 i43).bind fun x53=>(if (x53 > 0) then some true else (if (r48 == 0) then ((Qt x6.zC i43).bind fun x58=>(if x58 then some false else ((getO x41 i43).bind fun x60=>some (decide (x60≥0))))) else some false)))) else some false)))).bind fun (want62:Bool)=>k44 (want62,(IntKind.wrap .i64 (i43 + 1)))) else some want42)) fuel (true,0)).bind fun (want63:Bool)=>(((if (r38 != 0) then some true else (if (r37 == want63) then (if r37 then ((Qc6 xset34 r8.zE.Kept).bind fun x68=>(if x68 then ((Qcz xset34 r8.zE.Kept).bind fun x71=>(if x71 then some (!r37) else some false)) else some true)) else ((Qcz xset34 r8.zE.Kept).bind fun x74=>(if x74 then some (!r37) else some false))) else some true))).bind fun (x76:Bool)=>(if x76 then some false else k12 (IntKind.wrap .i64 (bits11 + 1)))))))))) else some true))) fuel 0))) else some false))
end Go.Abs
end
