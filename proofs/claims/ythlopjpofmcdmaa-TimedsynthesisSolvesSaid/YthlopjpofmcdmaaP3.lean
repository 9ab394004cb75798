/-
  Part 3 of the proof: see the last text.
-/
import Derived.Test.YthlopjpofmcdmaaP2
import Derived.Sort.Grow
set_option linter.unusedVariables false
set_option linter.unusedSimpArgs false
set_option linter.unusedSectionVars false
section
namespace Go.Abs
open Go
def pl0:D→Bool
 | .int .. | .bool _ | .str _=>true
 | _=>false
def frzL (sz:Nat) (l:List (List D)):V:=if l.all fun x=>x.all pl0 then .f (.lst sz l) else .d (.lst sz l)
theorem Qbmb {imm imm' : Nat→Nat→Prop} {w:World}:∀ {x:D} {u:Value},pl0 x = true→RD imm w x u→RD imm' w x u
 | .int ..,_,_,h=>by simpa [RD] using h
 | .bool _,_,_,h=>by simpa [RD] using h
 | .str _,_,_,h=>by simpa [RD] using h
 | .lst ..,_,h,_=>by cases h
theorem Qblk {p:Nat→Prop} {sz:Nat} {l:List (List D)}:(frzL sz l).on p:=by unfold frzL; split <;> trivial
theorem Qbkk {sz:Nat} {l:List (List D)}:WkV (frzL sz l) (.d (.lst sz l)):=by
 unfold frzL
 split
 ·exact ⟨fun g w ℓ u h=>by
   simp only [RV] at h ⊢
   exact Qgw ⟨fun b o h=>h.1,fun _ _ _=>rfl⟩ _ u h,fun _ _=>trivial⟩
 ·exact .same rfl
mutual
def frzV (k:Nat) (ds:List D):V→V
 | .und=>.und
 | .d x=>.d x
 | .agg cs=>.agg (frzVs k ds cs)
 | .tup cs=>.tup (frzVs k ds cs)
 | .own sz l=>.own sz l
 | .ownT sz l=>.ownT sz l
 | .ptr k' o=>if k' = k then .cref (ds.drop o) else .ptr k' o
 | .nilp=>.nilp
 | .f x=>.f x
 | .nils sz=>.nils sz
 | .cref cs=>.cref cs
 | .sl sz k' o n c=>if k' = k then (if o + n * sz≤ds.length∧n≤c then frzL sz (Qls sz n ((ds.drop o).take (n * sz))) else .und) else .sl sz k' o n c
 | .clo f cs=>.clo f (frzVs k ds cs)
 | .mp k'=>if k' = k then .und else .mp k'
def frzVs (k:Nat) (ds:List D):List V→List V
 | []=>[]
 | v :: vs=>frzV k ds v :: frzVs k ds vs
end
theorem Q9s (k:Nat) (ds:List D):∀ vs,frzVs k ds vs = vs.map (frzV k ds)
 | []=>rfl
 | v :: vs=>by simp [frzVs,Q9s k ds vs]
mutual
theorem Qbkl {p:Nat→Prop} (k:Nat) (ds:List D):∀ v:V,v.on p→(frzV k ds v).on fun j=>p j∧j≠k
 | .und,_=>trivial
 | .d _,_=>trivial
 | .agg cs,h=>ons_frz k ds cs h
 | .tup cs,h=>ons_frz k ds cs h
 | .own ..,_=>trivial
 | .ownT ..,_=>trivial
 | .ptr k' o,h=>by
  simp only [frzV]; split
  ·trivial
  ·rename_i hne; exact ⟨h,hne⟩
 | .nilp,_=>trivial
 | .f _,_=>trivial
 | .nils _,_=>trivial
 | .cref _,_=>trivial
 | .sl sz k' o n c,h=>by
  simp only [frzV]; split
  ·split
   ·exact Qblk
   ·trivial
  ·rename_i hne; exact ⟨h,hne⟩
 | .clo _ cs,h=>ons_frz k ds cs h
 | .mp k',h=>by
  simp only [frzV]; split
  ·trivial
  ·rename_i hne; exact ⟨h,hne⟩
theorem ons_frz {p:Nat→Prop} (k:Nat) (ds:List D):∀ vs:List V,V.ons p vs→V.ons (fun j=>p j∧j≠k) (frzVs k ds vs)
 | [],_=>trivial
 | v :: vs,h=>⟨Qbkl k ds v h.1,ons_frz k ds vs h.2⟩
end
theorem Qbfu {imm:Nat→Nat→Prop} {w:World} {b:Nat}:∀ (j:Nat) {ds:List D} {o:Nat},RDc imm w b ds o→RDc imm w b (ds.drop j) (o + j)
 | 0,_,_,h=>h
 | j + 1,[],o,h=>by simp [RDc]
 | j + 1,d :: ds,o,h=>by
  simp only [RDc] at h
  have:=Qbfu j h.2.2
  rw [show o + 1 + j = o + (j + 1) from by omega] at this
  simpa using this
def G.frz (g:G) (k n:Nat) [DecidablePred fun b=>b = g.box k]:G:=⟨g.box,fun b o=>g.imm b o∨(b = g.box k∧o < n),fun b=>if b = g.box k then .ext else g.own b⟩
section
variable {g:G} {w:World} {k:Nat} {ds:List D} (hB:g.own (g.box k) = .box k) (hD:RDc (g.frz k ds.length).imm w (g.box k) ds 0)
include hB hD
theorem Qbca:Imm g.imm (g.frz k ds.length).imm w w:=⟨fun _ _ h=>.inl h,fun _ _ _=>rfl⟩
mutual
theorem Qbkm:∀ (v:V) (ℓ:Owner) (u:Value),ℓ ≠ .box k→RV g w v ℓ u→RV (g.frz k ds.length) w (frzV k ds v) ℓ u
 | .und,_,_,_,_=>by simp [frzV,RV]
 | .d x,_,_,_,h=>by
  simp only [frzV,RV] at h ⊢
  exact Qgw (Qbca hB hD) x _ h
 | .agg cs,ℓ,u,hl,h=>by
  simp only [frzV,RV] at h ⊢
  obtain ⟨vs,rfl,h,h1⟩:=h
  exact ⟨vs,rfl,RVs_frz cs ℓ 0 vs h,h1⟩
 | .tup cs,ℓ,u,hl,h=>by
  simp only [frzV,RV] at h ⊢
  obtain ⟨vs,rfl,h⟩:=h
  exact ⟨vs,rfl,RVs_frz cs ℓ 0 vs h⟩
 | .own sz l,ℓ,u,hl,h=>by
  simp only [frzV,RV] at h ⊢
  rcases h with h | ⟨b,cap,vals,e,h1,h2,h3,h4,h5,h6,h7,h8⟩
  ·exact .inl h
  ·have hne:b≠g.box k:=by rintro rfl; rw [hB] at h2; exact hl h2.symm
   refine .inr ⟨b,cap,vals,e,h1,by simp [G.frz,hne,h2],h3,h4,h5,h6,fun o=>?_,RDL_mono (Qbca hB hD) sz b l 0 h8⟩
   rw [← h7 o]
   simp [G.frz,hne]
 | .ownT sz l,ℓ,u,hl,h=>by
  simp only [frzV,RV] at h ⊢
  rcases h with h | ⟨b,o0,cap,vals,e,h1,h2,h3,h4,h5,h6,h7,h8⟩
  ·exact .inl h
  ·have hne:b≠g.box k:=by rintro rfl; rw [hB] at h2; exact hl h2.symm
   refine .inr ⟨b,o0,cap,vals,e,h1,by simp [G.frz,hne,h2],h3,h4,h5,h6,fun o=>?_,RDL_mono (Qbca hB hD) sz b l o0 h8⟩
   rw [← h7 o]
   simp [G.frz,hne]
 | .ptr k' o,ℓ,u,hl,h=>by
  simp only [frzV]
  split
  ·rename_i he
   subst he
   simp only [RV] at h ⊢
   have:=Qbfu o hD
   rw [Nat.zero_add] at this
   exact ⟨_,_,h,this⟩
  ·simpa [RV,G.frz] using h
 | .nilp,_,_,_,h=>by simpa [frzV,RV] using h
 | .f x,_,u,_,h=>by
  simp only [frzV,RV] at h ⊢
  exact Qgw (Qbg1 (g:=g) (g':=g.frz k ds.length) fun b o h1 h2=>⟨.inl h1,by simp only [G.frz]; split <;> first | rfl | exact h2⟩) x u h
 | .nils _,_,_,_,h=>by simpa [frzV,RV] using h
 | .cref cs,ℓ,u,hl,h=>by
  simp only [frzV,RV] at h ⊢
  obtain ⟨b,o,rfl,h⟩:=h
  exact ⟨b,o,rfl,Q6m (Qbca hB hD) b cs o h⟩
 | .sl sz k' o n c,ℓ,u,hl,h=>by
  simp only [frzV]
  split
  ·rename_i he
   subst he
   split
   ·rename_i hc
    have hlen:((ds.drop o).take (n * sz)).length = n * sz:=by simp; omega
    obtain ⟨h1,h2,h3⟩:=Q31 n sz _ hlen
    simp only [RV] at h
    have key:∀ i x j y,(Qls sz n ((ds.drop o).take (n * sz)))[i]? = some x→x[j]? = some y→(g.frz k' ds.length).imm (g.box k') (o + i * sz + j)∧∃ u,w.cell? ⟨g.box k',o + i * sz + j,none⟩ = some u∧RD (g.frz k' ds.length).imm w y u:=by
     intro i x j y hx hy
     have h4:=h3 i x j y hx hy
     rw [List.getElem?_take] at h4
     split at h4
     ·rw [List.getElem?_drop] at h4
      have:=Q5n hD _ y h4
      rw [show 0 + (o + (i * sz + j)) = o + i * sz + j from by omega] at this
      exact this
     ·cases h4
    unfold frzL
    split
    ·rename_i hp
     simp only [RV,RD]
     refine ⟨_,c,by rw [h1]; exact h,by rw [h1]; exact hc.2,.inr ⟨_,o,rfl,Q84 fun i x hx=>⟨h2 x (List.mem_of_getElem? hx),Q6o fun j y hy=>?_⟩⟩⟩
     obtain ⟨q1,q,q2,q3⟩:=key i x j y hx hy
     refine ⟨⟨q1,by simp [G.frz],by rw [q2]; rfl⟩,q,q2,Qbmb ?_ q3⟩
     exact List.all_eq_true.1 (List.all_eq_true.1 hp x (List.mem_of_getElem? hx)) y (List.mem_of_getElem? hy)
    ·simp only [RV,RD]
     refine ⟨_,c,by rw [h1]; exact h,by rw [h1]; exact hc.2,.inr ⟨_,o,rfl,Q84 fun i x hx=>⟨h2 x (List.mem_of_getElem? hx),Q6o fun j y hy=>key i x j y hx hy⟩⟩⟩
   ·simp [RV]
  ·simpa [RV,G.frz] using h
 | .clo f cs,ℓ,u,hl,h=>by
  simp only [frzV,RV] at h ⊢
  obtain ⟨vs,rfl,h⟩:=h
  exact ⟨vs,rfl,RVs_frz cs .ext 0 vs h⟩
 | .mp k',ℓ,u,hl,h=>by
  simp only [frzV]
  split
  ·simp [RV]
  ·simpa [RV,G.frz] using h
theorem RVs_frz:∀ (cs:List V) (ℓ:Owner) (i:Nat) (us:List Value),RVs g w cs ℓ i us→RVs (g.frz k ds.length) w (frzVs k ds cs) ℓ i us
 | [],_,_,_,h=>by simpa [frzVs,RVs] using h
 | c :: cs,ℓ,i,us,h=>by
  simp only [frzVs,RVs] at h ⊢
  obtain ⟨u,us',rfl,h1,h2⟩:=h
  have hne:ℓ.sub i ≠ .box k:=by cases ℓ <;> simp [Owner.sub]
  exact ⟨u,us',rfl,Qbkm c (ℓ.sub i) u hne h1,RVs_frz cs ℓ (i + 1) us' h2⟩
end
end
def PreD (cs:List V) (ds:List D):Prop:=ds.length≤cs.length∧∀ (j:Nat) v d,cs[j]? = some v→ds[j]? = some d→v.toD = some d
theorem PreD.of {cs:List V} {ds:List D} (h:toDs cs = some ds):PreD cs ds:=⟨Nat.le_of_eq (Q30 h).1,(Q30 h).2⟩
theorem PreD.app {cs tl:List V} {ds:List D} (h:toDs cs = some ds):PreD (cs ++ tl) ds:=by
 obtain ⟨h1,h2⟩:=Q30 h
 refine ⟨by simp; omega,fun j v d hv hd=>?_⟩
 have:=(List.getElem?_eq_some_iff.1 hd).1
 rw [List.getElem?_append_left (by omega)] at hv
 exact h2 j v d hv hd
theorem Qbh9 {g:G} {w:World} {M:Mem} {nb k:Nat} {cs:List V} {ds:List D} [DecidablePred fun b=>b = g.box k] (hm:MR g w M nb) (hM:M k = some (.cells cs)) (hd:PreD cs ds):RDc (g.frz k ds.length).imm w (g.box k) ds 0:=by
 obtain ⟨hl,hg⟩:=hd
 refine Q6o fun j y hj=>?_
 have hlt:=(List.getElem?_eq_some_iff.1 hj).1
 have hc:cs[j]? = some (cs[j]'(by omega)):=List.getElem?_eq_getElem _
 obtain ⟨u,h1,h2,h3⟩:=Q6p hm hM hc
 refine ⟨.inr ⟨rfl,by omega⟩,u,by simpa using h1,?_⟩
 exact Qgw ⟨fun _ _ h=>.inl h,fun _ _ _=>rfl⟩ y u (Q6u (hg j _ y hc hj) h2)
def Q4c (n0 k:Nat) (ds:List D) (σ:St):St :=
 {
  s:=fun t=>frzV k ds (σ.s t)
  M:=fun j=>if j = k then none else if j < n0 then σ.M j else
   match σ.M j with
   | some (.cells cs)=>some (.cells (cs.map (frzV k ds)))
   | b=>b
  nb:=σ.nb }
variable {Γ:Env} {σ:St}
open Classical in
theorem Qbjp {k:Nat} {cs:List V} {ds:List D} (hk:Γ.n0≤k) (hM:σ.M k = some (.cells cs)) (hd:PreD cs ds):WeakSt Γ σ (Q4c Γ.n0 k ds σ):=by
 intro a w g hs
 have hB:g.own (g.box k) = .box k:=(hs.mem.box k _ hM).2.1
 have hD:=Qbh9 hs.mem hM hd
 have hsub:∀ ℓ i,ℓ≠Owner.box k→ℓ.sub i ≠ .box k:=by intro ℓ i _; cases ℓ <;> simp [Owner.sub]
 have hkept:Kept g w (g.frz k ds.length) w (fun j=>j≠k) (fun o=>o ≠ .box k):=by
  refine ⟨⟨fun _ _ h=>.inl h,fun _ _ _=>rfl⟩,fun _ _=>rfl,fun b hb _=>?_⟩
  have hne:b≠g.box k:=by rintro rfl; exact hb hB
  exact ⟨by simp [G.frz,hne],rfl,fun o=>by simp [G.frz,hne]⟩
 have hthere:∀ j,(There σ.M j∧j≠k)→There (Q4c Γ.n0 k ds σ).M j:=by
  rintro j ⟨h1,h2⟩
  simp only [There,Q4c,h2,if_false] at h1 ⊢
  split
  ·exact h1
  ·cases hj:σ.M j with
   | none=>simp [hj] at h1
   | some b=>cases b <;> rfl
 have hown:∀ j,j≠k→g.own (g.box j) = .box j→(g.frz k ds.length).own (g.box j) = .box j:=by
  intro j hj ho
  have hne:g.box j≠g.box k:=by
   intro e
   rw [e,hB] at ho
   cases ho; exact hj rfl
  simp [G.frz,hne,ho]
 refine ⟨g.frz k ds.length,⟨⟨fun j b hb=>?_,fun b o hbo=>?_⟩,fun t=>Qbkm hB hD _ _ _ (by simp) (hs.slots t),hs.size,hs.defers,fun t=>Qid hthere _ (Qbkl k ds _ (hs.onS t)),fun j cs' hb=>?_,hs.top,?_⟩⟩
 ·simp only [Q4c] at hb
  split at hb
  ·cases hb
  ·rename_i hjk
   split at hb
   ·rename_i hlt
    obtain ⟨h1,h2,h3⟩:=hs.mem.box j b hb
    refine ⟨h1,hown j hjk h2,?_⟩
    cases b with
    | mp es c =>
     obtain ⟨ents,k1,k2⟩:=h3
     exact ⟨ents,k1,Qv9 (g:=g) (g':=g.frz k ds.length) hkept.imm k2⟩
    | cells cs2 =>
     obtain ⟨vals,e,k1,k2,k3⟩:=h3
     have hon:=(hs.onM j cs2 hb).2 hlt
     exact ⟨vals,e,k1,RVs_mono hkept hsub (by simp) _ _ _ _ (by intro e; cases e; exact hjk rfl) (ons_mono (fun i hi=>by omega) _ hon) k2,k3⟩
   ·split at hb
    ·rename_i hlt _ cs2 hcs
     cases hb
     obtain ⟨h1,h2,vals,e,k1,k2,k3⟩:=hs.mem.box j _ hcs
     refine ⟨h1,hown j hjk h2,vals,e,k1,?_,k3⟩
     rw [← Q9s]
     exact RVs_frz hB hD _ _ _ _ k2
    ·rename_i hne
     obtain ⟨h1,h2,h3⟩:=hs.mem.box j b hb
     cases b with
     | mp es c =>
      obtain ⟨ents,k1,k2⟩:=h3
      exact ⟨h1,hown j hjk h2,ents,k1,Qv9 (g:=g) (g':=g.frz k ds.length) hkept.imm k2⟩
     | cells cs2=>exact absurd hb (hne cs2)
 ·rcases hbo with hbo | ⟨rfl,hlt⟩
  ·obtain ⟨h1,h2⟩:=hs.mem.imm b o hbo
   refine ⟨h1,fun j=>?_⟩
   simp only [G.frz]
   split
   ·simp
   ·exact h2 j
  ·refine ⟨?_,fun j=>by simp [G.frz]⟩
   obtain ⟨_,_,vals,e,k1,_,_⟩:=hs.mem.box k _ hM
   exact (Array.getElem?_eq_some_iff.1 k1).1
 ·simp only [Q4c] at hb
  split at hb
  ·cases hb
  ·rename_i hjk
   split at hb
   ·rename_i hlt
    obtain ⟨h1,h2⟩:=hs.onM j cs' hb
    refine ⟨ons_mono (fun i hi=>hthere i ⟨hi.1,?_⟩) _ (ons_and cs' h1 (h2 hlt)),h2⟩
    have:=hi.2; omega
   ·split at hb
    ·rename_i hlt _ cs2 hcs
     cases hb
     refine ⟨?_,fun h=>absurd h hlt⟩
     rw [← Q9s]
     exact ons_mono hthere _ (ons_frz k ds _ (hs.onM j cs2 hcs).1)
    ·rename_i hne; exact absurd hb (hne cs')
 ·have hf:=hs.fr
  refine ⟨hf.os,hf.tape,hf.output,hf.size,⟨fun b o h=>.inl (hf.imm.mono b o h),hf.imm.cell⟩,hf.box,fun b hb ho=>?_⟩
  obtain ⟨h1,h2,h3⟩:=hf.old b hb ho
  have hne:b≠g.box k:=by
   rintro rfl
   rw [hB] at h1
   rw [← h1] at ho
   exact ho
  exact ⟨by simp [G.frz,hne,h1],h2,fun o=>by simp [G.frz,hne,h3]⟩
def FE (f:V→V) (s:Sl):List (Nat×V)→Prop
 | []=>True
 | (t,v) :: E=>WkV (f (s t)) v∧FE f s E
theorem FE.at {f:V→V} {s:Sl}:∀ {E:List (Nat×V)},FE f s E→∀ t,WkV (f (s t)) (look E t)
 | [],_,t=>.und _
 | (u,v) :: E,h,t=>by
  simp only [look]
  cases hb:Nat.beq t u with
  | true=>have:=Nat.eq_of_beq_eq_true hb; subst this; exact h.1
  | false=>exact FE.at h.2 t
def FB (f:V→V) (t0:Nat) (L:List (Nat×Bx)):List (Nat×Bx)→Prop
 | []=>True
 | (t,.cells cs') :: L'=>(∃ cs,Qch L t = some (.cells cs)∧Nat.beq t t0 = false∧WkVs (cs.map f) cs')∧FB f t0 L L'
 | (t,.mp es c) :: L'=>(Qch L t = some (.mp es c)∧Nat.beq t t0 = false)∧FB f t0 L L'
theorem FB.at {f:V→V} {t0:Nat} {L:List (Nat×Bx)}:∀ {L' : List (Nat×Bx)},FB f t0 L L' → ∀ t b,Qch L' t = some b→Nat.beq t t0 = false ∧
  ((∃ cs' cs,b = .cells cs' ∧ Qch L t = some (.cells cs)∧WkVs (cs.map f) cs')∨∃ es c,b = .mp es c∧Qch L t = some (.mp es c))
 | [],_,t,b,hb=>by simp [Qch] at hb
 | (u,.cells cs') :: L',h,t,b,hb=>by
  simp only [Qch] at hb
  cases hbe:Nat.beq t u with
  | true =>
   have:=Nat.eq_of_beq_eq_true hbe
   subst this
   rw [hbe] at hb
   simp only [cond_true,Option.some.injEq] at hb
   obtain ⟨cs,h1,h2,h3⟩:=h.1
   exact ⟨h2,.inl ⟨cs',cs,hb.symm,h1,h3⟩⟩
  | false =>
   rw [hbe] at hb
   exact FB.at h.2 t b hb
 | (u,.mp es c) :: L',h,t,b,hb=>by
  simp only [Qch] at hb
  cases hbe:Nat.beq t u with
  | true =>
   have:=Nat.eq_of_beq_eq_true hbe
   subst this
   rw [hbe] at hb
   simp only [cond_true,Option.some.injEq] at hb
   exact ⟨h.1.2,.inr ⟨es,c,hb.symm,h.1.1⟩⟩
  | false =>
   rw [hbe] at hb
   exact FB.at h.2 t b hb
theorem Qbdk (t:Nat) {E E' : List (Nat×V)} {L:List (Nat×Bx)} {L' : List (Nat×Bx)} {M0:Mem} {nb:Nat} {cs:List V} (ds:List D) (hM:Qch L t = some (.cells cs)) (hd:PreD cs ds)
  (hE:FE (frzV (Γ.n0 + t) ds) (look E) E') (hL:FB (frzV (Γ.n0 + t) ds) t L L') (hk:(L.all fun p=>Nat.beq p.1 t || L'.any fun q=>Nat.beq p.1 q.1) = true) :
  WeakSt Γ ⟨look E,Qm Γ.n0 L M0,nb⟩ ⟨look E',Qm Γ.n0 (bxs L') M0,nb⟩:=by
 refine WeakSt.trans (Qbjp (σ:=⟨look E,Qm Γ.n0 L M0,nb⟩) (k:=Γ.n0 + t) (by omega) (by show Qm Γ.n0 L M0 (Γ.n0 + t) = _; rw [Qde]; exact hM) hd) ?_
 intro a w g hs
 have hbase:∀ k,k < Γ.n0→(Q4c Γ.n0 (Γ.n0 + t) ds ⟨look E,Qm Γ.n0 L M0,nb⟩).M k = M0 k:=by
  intro k hk
  have h1:k≠Γ.n0 + t:=by omega
  simp only [Q4c,h1,if_false,hk,if_true]
  exact Qh hk
 have hown:∀ u cs,Nat.beq u t = false→Qch L u = some (.cells cs)→(Q4c Γ.n0 (Γ.n0 + t) ds ⟨look E,Qm Γ.n0 L M0,nb⟩).M (Γ.n0 + u) = some (.cells (cs.map (frzV (Γ.n0 + t) ds))):=by
  intro u cs h1 h2
  have h3:u≠t:=fun e=>by subst e; simp at h1
  have h4:Γ.n0 + u≠Γ.n0 + t:=by omega
  have h5:¬ Γ.n0 + u < Γ.n0:=by omega
  have h6:Qm Γ.n0 L M0 (Γ.n0 + u) = some (.cells cs):=by rw [Qde]; exact h2
  simp only [Q4c,h4,if_false,h5,h6]
 have hownm:∀ u es c,Nat.beq u t = false→Qch L u = some (.mp es c)→(Q4c Γ.n0 (Γ.n0 + t) ds ⟨look E,Qm Γ.n0 L M0,nb⟩).M (Γ.n0 + u) = some (.mp es c):=by
  intro u es c h1 h2
  have h3:u≠t:=fun e=>by subst e; simp at h1
  have h4:Γ.n0 + u≠Γ.n0 + t:=by omega
  have h5:¬ Γ.n0 + u < Γ.n0:=by omega
  have h6:Qm Γ.n0 L M0 (Γ.n0 + u) = some (.mp es c):=by rw [Qde]; exact h2
  simp only [Q4c,h4,if_false,h5,h6]
 have hsplit:∀ k,k < Γ.n0∨∃ u,k = Γ.n0 + u:=fun k=>by
  rcases Nat.lt_or_ge k Γ.n0 with h | h
  ·exact .inl h
  ·exact .inr ⟨k - Γ.n0,by omega⟩
 have hthere:∀ k,There (Q4c Γ.n0 (Γ.n0 + t) ds ⟨look E,Qm Γ.n0 L M0,nb⟩).M k→There (Qm Γ.n0 (bxs L') M0) k:=by
  intro k hk'
  rcases hsplit k with h | ⟨u,rfl⟩
  ·simp only [There,hbase k h] at hk'
   simp only [There,Qh h,hk']
  ·simp only [There,Qde]
   have h5:¬ Γ.n0 + u < Γ.n0:=by omega
   have h4:Γ.n0 + u≠Γ.n0 + t:=by
    intro e
    simp [There,Q4c,e] at hk'
   have h7:∃ b,Qch L u = some b:=by
    cases hb:Qch L u with
    | some b=>exact ⟨b,rfl⟩
    | none =>
     have h6:Qm Γ.n0 L M0 (Γ.n0 + u) = none:=by rw [Qde]; exact hb
     simp only [There,Q4c,h4,if_false,h5,h6] at hk'
     cases hk'
   obtain ⟨b,hb⟩:=h7
   obtain ⟨p,hp,rfl⟩:=Q12 hb
   have:=List.all_eq_true.1 hk p hp
   rw [Bool.or_eq_true] at this
   rcases this with h8 | h8
   ·have:=Nat.eq_of_beq_eq_true h8; omega
   ·obtain ⟨q,hq,he⟩:=List.any_eq_true.1 h8
    have he:=Nat.eq_of_beq_eq_true he
    have:=Q7y hq
    rw [he]; exact this
 refine ⟨g,⟨⟨fun k b hb=>?_,hs.mem.imm⟩,fun t=>(hE.at t).rd _ _ _ _ (hs.slots t),hs.size,hs.defers,fun t=>Qid hthere _ ((hE.at t).on _ (hs.onS t)),fun k cs hb=>?_,hs.top,hs.fr⟩⟩
 ·rcases hsplit k with h | ⟨u,rfl⟩
  ·have hb' : (Q4c Γ.n0 (Γ.n0 + t) ds ⟨look E,Qm Γ.n0 L M0,nb⟩).M k = some b:=by rw [hbase k h]; rw [← hb]; exact (Qh h).symm
   exact hs.mem.box k b hb'
  ·have hb' : Qch (bxs L') u = some b:=by rw [← hb]; exact Qde.symm
   obtain ⟨h2,⟨cs',cs,rfl,h1,h3⟩ | ⟨es,c,rfl,h1⟩⟩:=hL.at u b hb'
   ·obtain ⟨k1,k2,vals,e,k3,k4,k5⟩:=hs.mem.box _ _ (hown u cs h2 h1)
    exact ⟨k1,k2,vals,e,k3,h3.rd _ _ _ _ _ k4,k5⟩
   ·exact hs.mem.box _ _ (hownm u es c h2 h1)
 ·rcases hsplit k with h | ⟨u,rfl⟩
  ·have hb' : (Q4c Γ.n0 (Γ.n0 + t) ds ⟨look E,Qm Γ.n0 L M0,nb⟩).M k = some (.cells cs):=by rw [hbase k h]; rw [← hb]; exact (Qh h).symm
   obtain ⟨k1,k2⟩:=hs.onM k cs hb'
   exact ⟨ons_mono hthere _ k1,k2⟩
  ·have hb' : Qch (bxs L') u = some (.cells cs):=by rw [← hb]; exact Qde.symm
   obtain ⟨h2,⟨cs',cs0,he,h1,h3⟩ | ⟨es,c,he,h1⟩⟩:=hL.at u _ hb' <;> cases he
   obtain ⟨k1,k2⟩:=hs.onM _ _ (hown u cs0 h2 h1)
   exact ⟨ons_mono hthere _ (h3.on _ k1),fun hlt=>absurd hlt (by omega)⟩
theorem Qf1 (t:Nat) {E E' : List (Nat×V)} {L:List (Nat×Bx)} {L' : List (Nat×Bx)} {M0:Mem} {nb:Nat} {cs:List V} (ds:List D) (hM:Qch L t = some (.cells cs)) (hd:toDs cs = some ds)
  (hE:FE (frzV (Γ.n0 + t) ds) (look E) E') (hL:FB (frzV (Γ.n0 + t) ds) t L L') (hk:(L.all fun p=>Nat.beq p.1 t || L'.any fun q=>Nat.beq p.1 q.1) = true) :
  WeakSt Γ ⟨look E,Qm Γ.n0 L M0,nb⟩ ⟨look E',Qm Γ.n0 (bxs L') M0,nb⟩ :=
 Qbdk t ds hM (.of hd) hE hL hk
theorem fPtr {n0 t u o:Nat} {ds:List D} (h:Nat.beq u t = false):WkV (frzV (n0 + t) ds (.ptr (n0 + u) o)) (.ptr (n0 + u) o):=by
 have:¬ n0 + u = n0 + t:=by
  intro e
  have:u = t:=by omega
  subst this; simp at h
 exact .same (by simp only [frzV]; rw [if_neg this])
theorem fSlO {n0 t u sz o n c:Nat} {ds:List D} (h:Nat.beq u t = false):WkV (frzV (n0 + t) ds (.sl sz (n0 + u) o n c)) (.sl sz (n0 + u) o n c):=by
 have:¬ n0 + u = n0 + t:=by
  intro e
  have:u = t:=by omega
  subst this; simp at h
 exact .same (by simp only [frzV]; rw [if_neg this])
theorem fSl {n0 t sz o n c:Nat} {ds:List D} {l:List (List D)} (h:(Nat.ble (o + n * sz) ds.length && Nat.ble n c) = true) (hl:Qls sz n ((ds.drop o).take (n * sz)) = l):WkV (frzV (n0 + t) ds (.sl sz (n0 + t) o n c)) (.d (.lst sz l)):=by
 simp only [Bool.and_eq_true] at h
 have h1:=Nat.le_of_ble_eq_true h.1
 have h2:=Nat.le_of_ble_eq_true h.2
 have e:frzV (n0 + t) ds (.sl sz (n0 + t) o n c) = frzL sz l:=by simp [frzV,h1,h2,hl]
 rw [e]
 exact Qbkk
def nilO {α R:Type} [DecidableEq R] (l:List α) (K:Bool→Option R):Option R :=
 match l with
 | []=>if K true = K false then K false else none
 | _ :: _=>K false
theorem Qbia {α R:Type} [DecidableEq R] {l:List α} {K:Bool→Option R} {r:R} (h:nilO l K = some r) (b:Bool) (hb:b = true→l.length = 0):K b = some r:=by
 cases l with
 | nil =>
  simp only [nilO] at h
  split at h
  ·rename_i he
   cases b with
   | true=>rw [he]; exact h
   | false=>exact h
  ·cases h
 | cons x l =>
  cases b with
  | true=>simp at hb
  | false=>exact h
variable {pc d nb:Nat} {os:List COp} {E:List (Nat×V)} {M:Mem} {Q:St→Prop} {gd:Option (Nat×Bool)} {a:Arg}
theorem Rn.isnil {α R:Type} [DecidableEq R] {e:α→List D} {sz:Nat} {xs:List α} {neg:Bool} {J:Bool→Option R} {r:R} (hw:Wn E gd) (ha:(a.val (look E)).dem = .d (.lst sz (xs.map e))) (h:nilO xs J = some r)
  (hk:∀ b,J b = some r→Rn Γ 9 os ⟨look ((d,.d (.bool (bif neg then !b else b))) :: E),M,nb⟩ Q):Rn Γ 9 (⟨some d,.isnil neg,[a],false,gd⟩ :: os) ⟨look E,M,nb⟩ Q:=by
 refine Rn.cons ?_
 unfold COp.run
 rw [hw.wanted]
 simp only [show (Abs.K.isnil neg).isCall = false from rfl,show (Abs.K.isnil neg).isNil = true from rfl,Bool.false_eq_true,if_false,if_true,COp.xs,List.map_cons,List.map_nil,V.dems,ha,Qbap,List.length_map,Abs.K.negNil]
 intro b hb
 have e1:∀ v,Qbb (look E) (some d) v = look ((d,v) :: E):=fun v=>Qdg E d v
 have h2:=hk b (Qbia h b hb)
 cases neg with
 | true=>exact (show Rn Γ 9 os ⟨Qbb (look E) (some d) (.d (.bool (!b))),M,nb⟩ Q from by rw [e1]; exact h2)
 | false=>exact (show Rn Γ 9 os ⟨Qbb (look E) (some d) (.d (.bool b)),M,nb⟩ Q from by rw [e1]; exact h2)
end Go.Abs
end
section
namespace Go.Abs
open Go
variable {Γ:Env} {σ:St}
def G.ow (g:G) (k n:Nat) (ℓ:Owner) [DecidablePred fun b=>b = g.box k]:G:=⟨g.box,fun b o=>g.imm b o∨(b = g.box k∧o < n),fun b=>if b = g.box k then ℓ else g.own b⟩
section
variable {g:G} {w:World} {k n:Nat} {ℓ0:Owner} (hB:g.own (g.box k) = .box k)
include hB
mutual
theorem Qbmc [DecidablePred fun b=>b = g.box k]:∀ (v:V) (ℓ:Owner) (u:Value),ℓ ≠ .box k→RV g w v ℓ u→RV (g.ow k n ℓ0) w v ℓ u
 | .und,_,_,_,_=>by simp [RV]
 | .d x,_,_,_,h=>by
  simp only [RV] at h ⊢
  exact Qgw ⟨fun _ _ h=>.inl h,fun _ _ _=>rfl⟩ x _ h
 | .agg cs,ℓ,u,hl,h=>by
  simp only [RV] at h ⊢
  obtain ⟨vs,rfl,h,h1⟩:=h
  exact ⟨vs,rfl,RVs_ow cs ℓ 0 vs h,h1⟩
 | .tup cs,ℓ,u,hl,h=>by
  simp only [RV] at h ⊢
  obtain ⟨vs,rfl,h⟩:=h
  exact ⟨vs,rfl,RVs_ow cs ℓ 0 vs h⟩
 | .own sz l,ℓ,u,hl,h=>by
  simp only [RV] at h ⊢
  rcases h with h | ⟨b,cap,vals,e,h1,h2,h3,h4,h5,h6,h7,h8⟩
  ·exact .inl h
  ·have hne:b≠g.box k:=by rintro rfl; rw [hB] at h2; exact hl h2.symm
   refine .inr ⟨b,cap,vals,e,h1,by simp [G.ow,hne,h2],h3,h4,h5,h6,fun o=>?_,RDL_mono ⟨fun _ _ h=>.inl h,fun _ _ _=>rfl⟩ sz b l 0 h8⟩
   rw [← h7 o]
   simp [G.ow,hne]
 | .ownT sz l,ℓ,u,hl,h=>by
  simp only [RV] at h ⊢
  rcases h with h | ⟨b,o0,cap,vals,e,h1,h2,h3,h4,h5,h6,h7,h8⟩
  ·exact .inl h
  ·have hne:b≠g.box k:=by rintro rfl; rw [hB] at h2; exact hl h2.symm
   refine .inr ⟨b,o0,cap,vals,e,h1,by simp [G.ow,hne,h2],h3,h4,h5,h6,fun o=>?_,RDL_mono ⟨fun _ _ h=>.inl h,fun _ _ _=>rfl⟩ sz b l o0 h8⟩
   rw [← h7 o]
   simp [G.ow,hne]
 | .ptr k' o,ℓ,u,hl,h=>by simpa [RV,G.ow] using h
 | .nilp,_,_,_,h=>by simpa [RV] using h
 | .f x,_,u,_,h=>by
  simp only [RV] at h ⊢
  refine Qgw (Qbg1 (g:=g) (g':=g.ow k n ℓ0) fun b o h1 h2=>⟨.inl h1,?_⟩) x u h
  have hne:b≠g.box k:=by rintro rfl; rw [hB] at h2; cases h2
  simp [G.ow,hne,h2]
 | .nils _,_,_,_,h=>by simpa [RV] using h
 | .cref cs,ℓ,u,hl,h=>by
  simp only [RV] at h ⊢
  obtain ⟨b,o,rfl,h⟩:=h
  exact ⟨b,o,rfl,Q6m ⟨fun _ _ h=>.inl h,fun _ _ _=>rfl⟩ b cs o h⟩
 | .sl sz k' o n c,ℓ,u,hl,h=>by simpa [RV,G.ow] using h
 | .clo f cs,ℓ,u,hl,h=>by
  simp only [RV] at h ⊢
  obtain ⟨vs,rfl,h⟩:=h
  exact ⟨vs,rfl,RVs_ow cs .ext 0 vs h⟩
 | .mp k',ℓ,u,hl,h=>by simpa [RV,G.ow] using h
theorem RVs_ow [DecidablePred fun b=>b = g.box k]:∀ (cs:List V) (ℓ:Owner) (i:Nat) (us:List Value),RVs g w cs ℓ i us→RVs (g.ow k n ℓ0) w cs ℓ i us
 | [],_,_,_,h=>by simpa [RVs] using h
 | c :: cs,ℓ,i,us,h=>by
  simp only [RVs] at h ⊢
  obtain ⟨u,us',rfl,h1,h2⟩:=h
  have hne:ℓ.sub i ≠ .box k:=by cases ℓ <;> simp [Owner.sub]
  exact ⟨u,us',rfl,Qbmc c (ℓ.sub i) u hne h1,RVs_ow cs ℓ (i + 1) us' h2⟩
end
end
open Classical in
theorem Qbjq {t t0 sz n:Nat} {cs:List V} {ds:List D} (hM:σ.M (Γ.n0 + t) = some (.cells cs)) (hd:toDs cs = some ds) (hs0:σ.s t0 = .sl sz (Γ.n0 + t) 0 n n) (hn:(Nat.beq (n * sz) ds.length && Nat.ble n 65536) = true) :
  WeakSt Γ σ ⟨(Qlx Γ.n0 [t] σ).s.put t0 (.own sz (Qls sz n ds)),(Qlx Γ.n0 [t] σ).M,σ.nb⟩:=by
 intro a w g hs
 simp only [Bool.and_eq_true] at hn
 have hn1:n * sz = ds.length:=Nat.eq_of_beq_eq_true hn.1
 have hn2:=Nat.le_of_ble_eq_true hn.2
 have hc:=Q8x hs [t]
 have hB:g.own (g.box (Γ.n0 + t)) = .box (Γ.n0 + t):=(hs.mem.box _ _ hM).2.1
 obtain ⟨hl,hg⟩:=Q30 hd
 have hself:Qjt Γ.n0 [t] (Γ.n0 + t) = true:=by simp [Qjt]
 have hgone:∀ j,There (Qlx Γ.n0 [t] σ).M j→j≠Γ.n0 + t:=by
  rintro j hj rfl
  simp [There,Qlx,hself] at hj
 have hD:RDc (g.ow (Γ.n0 + t) (n * sz) (.slot t0 [])).imm w (g.box (Γ.n0 + t)) ds 0:=by
  refine Q6o fun j y hj=>?_
  have hlt:=(List.getElem?_eq_some_iff.1 hj).1
  have hcj:cs[j]? = some (cs[j]'(by omega)):=List.getElem?_eq_getElem _
  obtain ⟨u,h1,h2,h3⟩:=Q6p hs.mem hM hcj
  refine ⟨.inr ⟨rfl,by omega⟩,u,by simpa using h1,?_⟩
  exact Qgw ⟨fun _ _ h=>.inl h,fun _ _ _=>rfl⟩ y u (Q6u (hg j _ y hcj hj) h2)
 refine ⟨g.ow (Γ.n0 + t) (n * sz) (.slot t0 []),⟨⟨fun j b hb=>?_,fun b o hbo=>?_⟩,fun i=>?_,hs.size,hs.defers,fun i=>?_,hc.onM,hs.top,?_⟩⟩
 ·have hjk:=hgone j (by simp [There,show (Qlx Γ.n0 [t] σ).M j = some b from hb])
  obtain ⟨h1,h2,h3⟩:=hc.mem.box j b hb
  have hne:g.box j≠g.box (Γ.n0 + t):=by
   intro e
   rw [e,hB] at h2
   cases h2; exact hjk rfl
  refine ⟨h1,by simp [G.ow,hne,h2],?_⟩
  cases b with
  | mp es c =>
   obtain ⟨ents,k1,k2⟩:=h3
   exact ⟨ents,k1,Qv9 (g:=g) (g':=g.ow (Γ.n0 + t) (n * sz) (.slot t0 [])) ⟨fun _ _ h=>.inl h,fun _ _ _=>rfl⟩ k2⟩
  | cells cs2 =>
   obtain ⟨vals,e,k1,k2,k3⟩:=h3
   exact ⟨vals,e,k1,RVs_ow hB _ _ _ _ k2,k3⟩
 ·rcases hbo with hbo | ⟨rfl,hlt⟩
  ·obtain ⟨h1,h2⟩:=hs.mem.imm b o hbo
   refine ⟨h1,fun j=>?_⟩
   simp only [G.ow]
   split
   ·simp
   ·exact h2 j
  ·refine ⟨?_,fun j=>by simp [G.ow]⟩
   obtain ⟨_,_,vals,e,k1,_,_⟩:=hs.mem.box _ _ hM
   exact (Array.getElem?_eq_some_iff.1 k1).1
 ·simp only [Sl.put]
  split
  ·rename_i he
   subst he
   have h0:=hs.slots i
   rw [hs0] at h0
   simp only [RV] at h0 ⊢
   obtain ⟨_,_,vals,e,k1,k2,k3⟩:=hs.mem.box _ _ hM
   have hvl:=Qv8 k2
   obtain ⟨q1,q2,q3⟩:=Q31 n sz ds hn1.symm
   refine .inr ⟨g.box (Γ.n0 + t),n,vals.toArray,e,by rw [q1]; exact h0,by simp [G.ow],k1,by omega,by unfold maxLen; omega,⟨by simp; omega,fun u hu=>k3 u (by simpa using hu)⟩,fun o=>?_,Q84 fun i x hx=>⟨q2 x (List.mem_of_getElem? hx),Q6o fun j y hy=>?_⟩⟩
   ·have hno:¬ g.imm (g.box (Γ.n0 + t)) o:=fun h=>(hs.mem.imm _ _ h).2 _ hB
    simp [G.ow,hno,q1]
   ·have h4:=q3 i x j y hx hy
    have:=Q5n hD _ y h4
    rw [show 0 + (i * sz + j) = 0 + i * sz + j from by omega] at this
    exact this
  ·exact Qbmc hB _ _ _ (by simp) (hc.slots i)
 ·simp only [Sl.put]
  split
  ·trivial
  ·exact hc.onS i
 ·have hf:=hs.fr
  refine ⟨hf.os,hf.tape,hf.output,hf.size,⟨fun b o h=>.inl (hf.imm.mono b o h),hf.imm.cell⟩,hf.box,fun b hb ho=>?_⟩
  obtain ⟨h1,h2,h3⟩:=hf.old b hb ho
  have hne:b≠g.box (Γ.n0 + t):=by
   rintro rfl
   rw [hB] at h1
   rw [← h1] at ho
   exact ho
  exact ⟨by simp [G.ow,hne,h1],h2,fun o=>by simp [G.ow,hne,h3]⟩
theorem Qbib (t t0:Nat) {sz n:Nat} {E E' : List (Nat×V)} {L:List (Nat×Bx)} {L' : List (Nat×Bx)} {M0:Mem} {nb:Nat} {cs:List V} (ds:List D) (hM:Qch L t = some (.cells cs)) (hd:toDs cs = some ds) (hs0:look E t0 = .sl sz (Γ.n0 + t) 0 n n)
  (hn:(Nat.beq (n * sz) ds.length && Nat.ble n 65536) = true) {l:List (List D)} (hl:Qls sz n ds = l) (hE:KL Γ.n0 [t] (look E) E') (hL:KB Γ.n0 [t] L L') (hk:(L.all fun p=>[t].any (Nat.beq p.1) || L'.any fun q=>Nat.beq p.1 q.1) = true) :
  WeakSt Γ ⟨look E,Qm Γ.n0 L M0,nb⟩ ⟨look ((t0,.own sz l) :: E'),Qm Γ.n0 (bxs L') M0,nb⟩:=by
 intro a w g hs
 subst hl
 have hwk:∀ i,WkV ((Qlx Γ.n0 [t] ⟨look E,Qm Γ.n0 L M0,nb⟩).s.put t0 (.own sz (Qls sz n ds)) i) (look ((t0,.own sz (Qls sz n ds)) :: E') i):=by
  intro i
  simp only [Sl.put,look]
  cases hb:Nat.beq i t0 with
  | true=>have:=Nat.eq_of_beq_eq_true hb; subst this; simp; exact WkV.refl _
  | false =>
   have:i≠t0:=fun e=>by subst e; simp at hb
   simp only [this,if_false,cond_false]
   exact hE.at i
 obtain ⟨g1,h1⟩:=Qbjq (σ:=⟨look E,Qm Γ.n0 L M0,nb⟩) (t:=t) (t0:=t0) (by show Qm Γ.n0 L M0 (Γ.n0 + t) = _; rw [Qde]; exact hM) hd hs0 hn a w g hs
 exact Qbft (Γ:=Γ) (sites:=[t]) (E:=E) hwk hL hk a w g1 h1
variable {pc d nb:Nat} {os:List COp} {E:List (Nat×V)} {M M0:Mem} {L:List (Nat×Bx)} {Q:St→Prop} {gd:Option (Nat×Bool)} {b:Arg} {α:Type} {e:α→List D}
theorem Rn.app0 {t u sz bytes:Nat} {ys zs:List α} {src:V} {cs:List V} (hw:Wn E gd) (ha:look E t = .sl sz (Γ.n0 + u) 0 0 0) (hM:Qch L u = some (.cells cs)) (hb:b.val (look E) = src) (hf:src.dem = src) (hs:Qiy (Qm Γ.n0 L M0) sz src = some (ys.map e)) (hx:appO ([]:List α) ys = some zs) (hbd:(Nat.ble bytes 128 && Nat.ble 1 sz) = true)
  (h:Rn Γ pc os ⟨look ((d,.own sz (zs.map e)) :: E),Qm Γ.n0 L M0,nb⟩ Q):Rn Γ pc (⟨some d,.append sz bytes,[.t t,b],true,gd⟩ :: os) ⟨look E,Qm Γ.n0 L M0,nb⟩ Q:=by
 unfold appO at hx
 split at hx <;> cases hx
 rename_i hl
 simp only [Bool.and_eq_true] at hbd
 have h1:=Nat.le_of_ble_eq_true hbd.1
 have h2:0 < sz:=Nat.le_of_ble_eq_true hbd.2
 have hm:[Arg.t t,b].map (fun x=>x.val (look E)) = [V.sl sz (Γ.n0 + u) 0 0 0,src]:=by
  simp only [List.map_cons,List.map_nil,hb]; rw [show (Arg.t t).val (look E) = _ from ha]
 have he:Qiy (Qm Γ.n0 L M0) sz (.sl sz (Γ.n0 + u) 0 0 0) = some []:=by simp [Qiy,Qj hM,toDs,Qls]
 refine Rn.kT hw rfl rfl (v:=.own sz (([] ++ ys).map e)) ?_ (fun i=>?_) h
 ·rw [hm]
  simp only [Qo,he,hs]
  by_cases hy:(ys.map e).length = 0
  ·have:ys = []:=by simpa using hy
   subst this
   simp
  ·simp only [hy,if_false]
   simp [h1,h2] at hl ⊢
   exact hl
 ·rw [hm]
  simp only [Qbz,hf,show (V.sl sz (Γ.n0 + u) 0 0 0).dem = .sl sz (Γ.n0 + u) 0 0 0 from rfl,Q5,show ∀ s v,(Arg.t t).putTo s v = s.put t v from fun _ _=>rfl]
  have hz:∀ (a:Arg) (v:V) (s:Sl),a.val s = v→a.putTo s v = s:=by
   intro a v s hs
   cases a with
   | c v=>rfl
   | t j =>
    simp only [Arg.val] at hs
    funext i; simp only [Arg.putTo,Sl.put]; split
    ·rename_i e; subst e; exact hs.symm
    ·rfl
  have e1:(look E).put t (.sl sz (Γ.n0 + u) 0 0 0) = look E:=hz (.t t) _ _ ha
  rw [e1,hz b src _ hb,Qdg]
end Go.Abs
namespace Go.Abs
open Go
theorem WkV.nilsO (sz:Nat):WkV (.nils sz) (.own sz []):=⟨fun g w ℓ u h=>by
 simp only [RV] at h
 simp only [RV]
 exact .inl ⟨h,trivial⟩,fun _ _=>trivial⟩
theorem WkV.nilsD (sz:Nat):WkV (.nils sz) (.d (.lst sz [])):=⟨fun g w ℓ u h=>by
 simp only [RV] at h ⊢
 obtain ⟨a,rfl⟩:=h
 simp [RD],fun _ _=>trivial⟩
theorem WkVs.rf {g:G} {w:World} {vs vs' : List V} (h:WkVs vs vs'):∀ {us:List Value},RFs g w vs us→RFs g w vs' us:=by
 induction h with
 | nil=>exact fun h=>h
 | cons h t ih =>
  rintro us ⟨u,us',e,h1,h2⟩
  exact ⟨u,us',e,fun ℓ=>h.rd _ _ _ _ (h1 ℓ),ih h2⟩
theorem ACalls.weak {P:Program} {f:FuncId} {args args' : List V} {M M' : Mem} {nb nb' : Nat} {r:V} (h:ACalls P f args' M nb r M' nb') (hw:WkVs args args') (hf:V.dems args' = args'):ACalls P f args M nb r M' nb':=by
 refine ⟨h.1,h.2.1,fun w g us hm hMon hfr hus hfl hons=>h.2.2 w g us hm hMon hfr (hw.rf hus) (fun x hx=>?_) (hw.on _ hons)⟩
 rw [← hf] at hx
 exact Qhh x hx
end Go.Abs
end
section
namespace Go.Abs
open Go
variable {α:Type}
def Q2 (g:α→List V) (xs:List α):List V:=(xs.map g).flatten
theorem Qgl (g:α→List V) (x:α) (xs:List α):Q2 g (x :: xs) = g x ++ Q2 g xs:=by simp [Q2]
theorem Quh {g:α→List V} {sz:Nat} (hg:∀ x,(g x).length = sz):∀ xs:List α,(Q2 g xs).length = xs.length * sz
 | []=>by simp [Q2]
 | x :: xs=>by rw [Qgl,List.length_append,hg,Quh hg xs,List.length_cons,Nat.add_mul]; omega
theorem Q7z {g:α→List V} {sz:Nat} (hg:∀ x,(g x).length = sz):∀ (xs:List α) (i:Nat),i≤xs.length→(Q2 g xs).drop (i * sz) = Q2 g (xs.drop i)
 | xs,0,_=>by simp
 | [],i + 1,h=>by simp at h
 | x :: xs,i + 1,h=>by
  rw [Qgl,Nat.add_mul,Nat.add_comm,Nat.one_mul,← List.drop_drop,show (g x ++ Q2 g xs).drop sz = Q2 g xs from by rw [← hg x]; simp]
  rw [Q7z hg xs i (by simpa using h)]
  rfl
theorem Qbbb {g:α→List V} {sz:Nat} (hg:∀ x,(g x).length = sz):∀ (xs:List α) (i:Nat),i≤xs.length→(Q2 g xs).take (i * sz) = Q2 g (xs.take i)
 | xs,0,_=>by simp [Q2]
 | [],i + 1,h=>by simp at h
 | x :: xs,i + 1,h=>by
  rw [Qgl,Nat.add_mul,Nat.add_comm,Nat.one_mul,List.take_append,hg x]
  have h1:(g x).take (sz + i * sz) = g x:=by rw [List.take_of_length_le]; rw [hg x]; omega
  rw [h1,show sz + i * sz - sz = i * sz from by omega,Qbbb hg xs i (by simpa using h),List.take_succ_cons,Qgl]
theorem Qbic {g:α→List V} {sz:Nat} (hg:∀ x,(g x).length = sz) {xs:List α} {i:Nat} {x:α} (hx:xs[i]? = some x):((Q2 g xs).drop (i * sz)).take sz = g x:=by
 obtain ⟨hlt,hx⟩:=List.getElem?_eq_some_iff.1 hx
 rw [Q7z hg xs i (by omega),List.drop_eq_getElem_cons hlt,Qgl,hx,← hg x]
 simp
theorem Qbdl {g:α→List V} {sz:Nat} (hg:∀ x,(g x).length = sz) {xs:List α} {i:Nat} (y:α) (hi:i < xs.length):(Q2 g xs).take (i * sz) ++ g y ++ (Q2 g xs).drop (i * sz + sz) = Q2 g (xs.set i y):=by
 rw [Qbbb hg xs i (by omega),show i * sz + sz = (i + 1) * sz from by rw [Nat.add_mul,Nat.one_mul],Q7z hg xs (i + 1) (by omega)]
 rw [List.set_eq_take_append_cons_drop,if_pos hi]
 simp [Q2]
theorem Qbid (g:α→List V) (x:α) (n:Nat):Q2 g (List.replicate n x) = rep n (g x):=by simp [Q2,rep]
def mkO (n:Int) (x:α):Option (List α):=if 0≤n∧n≤lim then some (List.replicate n.toNat x) else none
def inO (len:Nat) (i:Int):Option Unit:=if 0≤i∧i < len then some () else none
def setO (l:List α) (i:Int) (y:α):Option (List α):=if 0≤i∧i.toNat < l.length then some (l.set i.toNat y) else none
variable {Γ:Env} {pc d nb:Nat} {os:List COp} {E:List (Nat×V)} {M M0:Mem} {L:List (Nat×Bx)} {Q:St→Prop} {gd:Option (Nat×Bool)} {a b:Arg} {g:α→List V} {xs:List α} {sz:Nat}
theorem Rn.makes {bytes:Nat} {z:List V} {n:Int} {x:α} (hw:Wn E gd) (ha:a.val (look E) = .d (.int .i64 n)) (hb:b.val (look E) = .d (.int .i64 n)) (hf:(Qch L d).isNone = true) (hz:g x = z) (hc:(Nat.ble bytes 128 && Nat.beq z.length sz && Nat.ble 1 sz) = true) (hx:mkO n x = some xs)
  (h:Rn Γ pc os ⟨look ((d,.sl sz (Γ.n0 + d) 0 n.toNat n.toNat) :: E),Qm Γ.n0 ((d,.cells (Q2 g xs)) :: L) M0,nb⟩ Q):Rn Γ pc (⟨some d,.makes sz bytes z,[a,b],false,gd⟩ :: os) ⟨look E,Qm Γ.n0 L M0,nb⟩ Q:=by
 unfold mkO at hx
 split at hx <;> cases hx
 rename_i hn
 simp only [Bool.and_eq_true] at hc
 have h1:=Nat.le_of_ble_eq_true hc.1.1
 have h2:z.length = sz:=Nat.eq_of_beq_eq_true hc.1.2
 have h3:0 < sz:=Nat.le_of_ble_eq_true hc.2
 refine Rn.k hw rfl rfl ?_ h
 simp only [List.map_cons,List.map_nil,V.dems,ha,hb,V.dem,Qo]
 have hfr:=Qs4 (Γ:=Γ) (M0:=M0) hf
 rw [if_pos (by simp [hn.1,hn.2,h1,h2,h3,hfr]),Qer,Qbid,hz]
theorem Rn.idxA {k len cap:Nat} {kk:IntKind} {i:Int} (hw:Wn E gd) (ha:(a.val (look E)).dem = .sl sz k 0 len cap) (hb:b.val (look E) = .d (.int kk i)) (hx:inO len i = some ()) (h:Rn Γ pc os ⟨look ((d,.ptr k (0 + i.toNat * sz)) :: E),M,nb⟩ Q) :
  Rn Γ pc (⟨some d,.idx sz,[a,b],false,gd⟩ :: os) ⟨look E,M,nb⟩ Q:=by
 unfold inO at hx
 split at hx <;> cases hx
 rename_i hc
 refine Rn.k hw rfl rfl ?_ h
 simp [ha,hb,V.dems,V.dem,Qo,hc.1,hc.2]
theorem Rn.lenA {k off len cap:Nat} (hw:Wn E gd) (ha:(a.val (look E)).dem = .sl sz k off len cap) (h:Rn Γ pc os ⟨look ((d,.d (.int .i64 len)) :: E),M,nb⟩ Q):Rn Γ pc (⟨some d,.len,[a],false,gd⟩ :: os) ⟨look E,M,nb⟩ Q:=by
 refine Rn.k hw rfl rfl ?_ h
 simp [ha,V.dems,Qo]
theorem Rn.loadA {k f n:Nat} {ag:Bool} {i:Int} {x:α} {v:V} (hg:∀ x,(g x).length = sz) (hw:Wn E gd) (ha:a.val (look E) = .ptr k (0 + i.toNat * sz + f)) (hM:M k = some (.cells (Q2 g xs))) (hx:getO xs i = some x) (hn:Nat.ble (f + max n 1) sz = true)
  (hv:(if ag then some (.agg (V.dems (((g x).drop f).take n))) else ((g x)[f]?).map (·.dem)) = some v) (h:Rn Γ pc os ⟨look ((d,v) :: E),M,nb⟩ Q):Rn Γ pc (⟨some d,.load ag n,[a],false,gd⟩ :: os) ⟨look E,M,nb⟩ Q:=by
 have hn:=Nat.le_of_ble_eq_true hn
 unfold getO at hx
 split at hx <;> try (cases hx; done)
 obtain ⟨hlt,hx'⟩:=List.getElem?_eq_some_iff.1 hx
 have hl:=Quh hg xs
 have hge:=Qbic hg hx
 have hb:i.toNat * sz + sz≤xs.length * sz:=by
  rw [show i.toNat * sz + sz = (i.toNat + 1) * sz from by rw [Nat.add_mul,Nat.one_mul]]
  exact Nat.mul_le_mul_right _ hlt
 refine Rn.k hw rfl rfl ?_ h
 simp only [List.map_cons,List.map_nil,V.dems,ha,V.dem,Qo,hM]
 rw [if_pos (by rw [hl]; omega)]
 have hdrop:(Q2 g xs).drop (0 + i.toNat * sz + f) = ((Q2 g xs).drop (i.toNat * sz)).drop f:=by rw [List.drop_drop]; congr 1; omega
 cases ag with
 | true =>
  simp only [if_true,Option.some.injEq] at hv ⊢
  rw [← hv,← hge,hdrop,List.drop_take,List.take_take]
  have:min n (sz - f) = n:=by omega
  rw [this]
 | false =>
  simp only [Bool.false_eq_true,if_false] at hv ⊢
  have:(Q2 g xs)[0 + i.toNat * sz + f]? = (g x)[f]?:=by
   rw [← hge,List.getElem?_take,if_pos (by omega),List.getElem?_drop]
   congr 1; omega
  rw [this]
  rw [Option.map_eq_some_iff] at hv
  obtain ⟨y,hy,rfl⟩:=hv
  rw [hy]; rfl
theorem Rn.storeA {t:Nat} {i:Int} {y:α} {ys:List α} {v:V} (hg:∀ x,(g x).length = sz) (hw:Wn E gd) (ha:a.val (look E) = .ptr (Γ.n0 + t) (0 + i.toNat * sz)) (hb:(b.val (look E)).dem = v) (hv:Qea v = true) (hM:Qch L t = some (.cells (Q2 g xs))) (hc:v.cells = g y)
  (hx:setO xs i y = some ys) (h:Rn Γ pc os ⟨look E,Qm Γ.n0 ((t,.cells (Q2 g ys)) :: L) M0,nb⟩ Q):Rn Γ pc (⟨none,.store sz,[a,b],false,gd⟩ :: os) ⟨look E,Qm Γ.n0 L M0,nb⟩ Q:=by
 unfold setO at hx
 split at hx <;> cases hx
 rename_i hi
 have hl:=Quh hg xs
 have hb2:i.toNat * sz + sz≤xs.length * sz:=by
  rw [show i.toNat * sz + sz = (i.toNat + 1) * sz from by rw [Nat.add_mul,Nat.one_mul]]
  exact Nat.mul_le_mul_right _ hi.2
 refine Rn.store (cs':=Q2 g (xs.set i.toNat y)) hw ha hb hv hM ?_ ?_ h
 ·rw [hc,hg,hl]
  simp only [Bool.and_eq_true]
  exact ⟨by simp,Nat.ble_eq_true_of_le (by omega)⟩
 ·rw [hc,Nat.zero_add]; exact Qbdl hg y hi.2
theorem Qx {f:V→V} (h:∀ x,(g x).map f = g x):WkVs ((Q2 g xs).map f) (Q2 g xs):=by
 refine .same ?_
 unfold Q2
 rw [List.map_flatten,List.map_map]
 congr 1
 exact List.map_congr_left fun x _=>h x
def lenO (l:List α) (n:Nat):Option Unit:=if l.length = n then some () else none
theorem Qc2 {l:List α} {n:Nat} (h:lenO l n = some ()):l.length = n:=by
 unfold lenO at h
 split at h
 ·assumption
 ·cases h
theorem Q9t:∀ {a b:List V} {x y:List D},toDs a = some x→toDs b = some y→toDs (a ++ b) = some (x ++ y)
 | [],b,x,y,h,k=>by simp [toDs] at h; subst h; simpa using k
 | v :: a,b,x,y,h,k=>by
  simp only [toDs] at h
  split at h <;> try (cases h; done)
  rename_i d ds hd hds
  cases h
  simp only [List.cons_append,toDs,hd,Q9t hds k]
theorem Q35 {e:α→List D} (h:∀ x,toDs (g x) = some (e x)):∀ xs:List α,toDs (Q2 g xs) = some ((xs.map e).flatten)
 | []=>rfl
 | x :: xs=>by rw [Qgl,List.map_cons,List.flatten_cons]; exact Q9t (h x) (Q35 h xs)
theorem Q9u {e:α→List D} {sz:Nat} (h:∀ x,(e x).length = sz):∀ xs:List α,Qls sz xs.length ((xs.map e).flatten) = xs.map e
 | []=>rfl
 | x :: xs=>by
  simp only [List.length_cons,Qls,List.map_cons,List.flatten_cons]
  have h1:(e x ++ (xs.map e).flatten).take sz = e x:=by rw [← h x]; simp
  have h2:(e x ++ (xs.map e).flatten).drop sz = (xs.map e).flatten:=by rw [← h x]; simp
  rw [h1,h2,Q9u h xs]
theorem Q9v {e:α→List D} {sz:Nat} (h:∀ x,(e x).length = sz):∀ xs:List α,((xs.map e).flatten).length = xs.length * sz
 | []=>by simp
 | x :: xs=>by simp only [List.map_cons,List.flatten_cons,List.length_append,h,Q9v h xs,List.length_cons,Nat.add_mul]; omega
theorem fSlA {n0 t n:Nat} {e:α→List D} {xs:List α} (h:∀ x,(e x).length = sz) (hn:xs.length = n):WkV (frzV (n0 + t) ((xs.map e).flatten) (.sl sz (n0 + t) 0 n n)) (.d (.lst sz (xs.map e))):=by
 subst hn
 have h1:=Q9v h xs
 have h2:((xs.map e).flatten.drop 0).take (xs.length * sz) = (xs.map e).flatten:=by rw [List.drop_zero,List.take_of_length_le (by omega)]
 simp only [frzV,if_true]
 rw [if_pos ⟨by omega,Nat.le_refl _⟩,h2,Q9u h xs]
 exact Qbkk
end Go.Abs
end
section
namespace Go.Abs
open Go
def Qbdm:D→Bool
 | .lst _ l=>l.isEmpty
 | _=>true
def Q70 (l:List (List D)):Bool:=l.all fun x=>x.all Qbdm
def Q9w:V→Bool
 | .d x=>Qbdm x
 | .own _ l=>Q70 l
 | .ownT _ l=>Q70 l
 | .cref cs=>cs.isEmpty
 | .agg cs=>go cs
 | .tup vs=>go vs
 | .clo _ vs=>go vs
 | _=>true
where go:List V→Bool
 | []=>true
 | v :: vs=>Q9w v && go vs
theorem Qbjr {imm imm' : Nat→Nat→Prop} {w:World} {x:D} {u:Value} (hp:Qbdm x = true) (h:RD imm w x u):RD imm' w x u:=by
 cases x with
 | int k n=>simpa [RD] using h
 | bool b=>simpa [RD] using h
 | str s=>simpa [RD] using h
 | lst sz l =>
  simp only [Qbdm,List.isEmpty_iff] at hp
  subst hp
  simp only [RD] at h ⊢
  obtain ⟨a,cap,h1,h2,_⟩:=h
  exact ⟨a,cap,h1,h2,.inl trivial⟩
theorem Qbdn {imm imm' : Nat→Nat→Prop} {w:World} {b:Nat} (hi:∀ o,imm b o→imm' b o):∀ {xs:List D} {o:Nat},xs.all Qbdm = true→RDc imm w b xs o→RDc imm' w b xs o
 | [],_,_,_=>by simp [RDc]
 | x :: xs,o,hp,h=>by
  simp only [List.all_cons,Bool.and_eq_true] at hp
  simp only [RDc] at h ⊢
  obtain ⟨h1,⟨u,h2,h3⟩,h4⟩:=h
  exact ⟨hi _ h1,⟨u,h2,Qbjr hp.1 h3⟩,Qbdn hi hp.2 h4⟩
theorem Qbdo {imm imm' : Nat→Nat→Prop} {w:World} {sz b:Nat} (hi:∀ o,imm b o→imm' b o):∀ {l:List (List D)} {o:Nat},Q70 l = true→RDL imm w sz b l o→RDL imm' w sz b l o
 | [],_,_,_=>by simp [RDL]
 | x :: l,o,hp,h=>by
  simp only [Q70,List.all_cons,Bool.and_eq_true] at hp
  simp only [RDL] at h ⊢
  exact ⟨h.1,Qbdn hi hp.1 h.2.1,Qbdo hi (by simpa [Q70] using hp.2) h.2.2⟩
section
variable {g:G} {w:World} {b κ:Nat} {keep:Owner→Prop} (hB:¬ keep (g.own b)) (hs:∀ ℓ i,keep ℓ→keep (ℓ.sub i)) (he:keep .ext)
include hB hs he
end
variable {Γ:Env} {σ:St}
def Qgy (l:List (List D)) (room:Nat):List V:=l.flatten.map V.d ++ List.replicate room .und
structure Lone (Γ:Env):Prop where
 prot:∀ b,Prot (Γ.g0.own b)
 imm:∀ b o,Γ.g0.imm b o→b < Γ.w0.heap.size
theorem Lone.old {Γ:Env} (h:Lone Γ) {g:G} {w:World} (hf:Fr Γ.n0 Γ.g0 Γ.w0 g w) {b:Nat} (hb:¬ Prot (g.own b)):¬ b < Γ.w0.heap.size:=by
 intro hlt
 obtain ⟨h1,_,_⟩:=hf.old b hlt (h.prot b)
 rw [h1] at hb
 exact hb (h.prot b)
end Go.Abs
end
section
namespace Go.Abs
open Go Go.Sort
def D.val:D→Value
 | .int k n=>.int k n
 | .bool b=>.bool b
 | .str s=>.string s
 | .lst _ _=>.slice none 0 0
def D.scalar:D→Bool
 | .lst _ _=>false
 | _=>true
theorem Qbkn {imm:Nat→Nat→Prop} {w:World} {x:D} {u:Value} (hs:x.scalar = true):RD imm w x u↔u = x.val:=by
 cases x <;> simp [RD,D.val,D.scalar] at hs ⊢
theorem Qbll {x:D} (hs:x.scalar = true):x.val.oneCell' = true:=by cases x <;> simp [D.scalar,D.val] at hs ⊢ <;> rfl
def rowV {α:Type} (e:α→List D) (xs:List α):List Value:=(xs.map e).flatten.map D.val
theorem Qbes (w:World) (n blk:Nat) (F:Array Value) (os:Array Obj) {c:Array Value} {e:TypeId} (h:w.heap[blk]? = some (.cells c e (0,0))):(grow (putRow id (Sort.ahead w n) blk 0 F) os).heap[blk]? = some (.cells (putCells id 0 F c) e (0,0)):=by
 have hlt:blk < w.heap.size:=(Array.getElem?_eq_some_iff.1 h).1
 have hsz:(putRow id (Sort.ahead w n) blk 0 F).heap.size = w.heap.size:=by simp [putRow,mapBlock,Sort.ahead]
 rw [heap_grow_old _ _ (by rw [hsz]; exact hlt)]
 show (w.heap.modify blk (onCells (putCells id 0 F)))[blk]? = _
 rw [Array.getElem?_modify,if_pos rfl,h]
 rfl
theorem Q71 (w:World) (n blk:Nat) (F:Array Value) (os:Array Obj) {b:Nat} (hb:b≠blk) (hlt:b < w.heap.size):(grow (putRow id (Sort.ahead w n) blk 0 F) os).heap[b]? = w.heap[b]?:=by
 have hsz:(putRow id (Sort.ahead w n) blk 0 F).heap.size = w.heap.size:=by simp [putRow,mapBlock,Sort.ahead]
 rw [heap_grow_old _ _ (by rw [hsz]; exact hlt)]
 show (w.heap.modify blk (onCells (putCells id 0 F)))[b]? = _
 rw [Array.getElem?_modify,if_neg (Ne.symm hb)]
def Qbmd {α:Type} (P:Program) (f:FuncId) (e:α→List D) (ex:Array Value) (srt:List α→List α):Prop :=
 ∀ (blk cap:Nat) (xs:List α) (w:World),(∀ j,j < (rowV e xs).length→w.cell? ⟨blk,j,none⟩ = (rowV e xs)[j]? ∧ w.frozen? ⟨blk,j,none⟩ = false)→blk < w.heap.size→xs.length < 4611686018427387904 →
  Calls P f (#[.slice (some ⟨blk,0,none⟩) xs.length cap] ++ ex) w fun e' w'=>e' = .returned (.tuple #[])∧∃ n os,w' = grow (putRow id (Sort.ahead w n) blk 0 (rowV e (srt xs)).toArray) os
theorem Qbcb {α:Type} {e:α→List D} {sz:Nat} (hlen:∀ x,(e x).length = sz) (xs:List α):(rowV e xs).length = xs.length * sz:=by
 simp only [rowV,List.length_map]
 induction xs with
 | nil=>simp
 | cons x xs ih=>simp [hlen,ih,Nat.add_mul]; omega
theorem Qbgi {α:Type} {P:Program} {f:FuncId} {e:α→List D} {sz:Nat} (hlen:∀ x,(e x).length = sz) (hsc:∀ x,(e x).all D.scalar = true) {srt:List α→List α} (hsl:∀ xs,(srt xs).length = xs.length)
  {ex:Array Value} {exV:List V} (hex:∀ g w us,RFs g w exV us→us = ex.toList) (hb:Qlz P f = true) (hK:Qbmd P f e ex srt)
  (xs:List α) (c k0:Nat) (M:Mem) (nb:Nat) (hM:M k0 = some (.cells (Qgy (xs.map e) ((c - xs.length) * sz)))) (hsz:xs.length < 4611686018427387904) :
  ACalls P f (.sl sz k0 0 xs.length c :: exV) M nb (.tup []) (M.put k0 (.cells (Qgy ((srt xs).map e) ((c - xs.length) * sz)))) nb:=by
 refine ⟨hb,Nat.le_refl _,fun w g us hm hMon hfresh hus hfl hons=>?_⟩
 obtain ⟨u0,us',rfl,hu0,hus'⟩:=hus
 have h0:=Qbbs.1 hu0
 subst h0
 have h1:=hex _ _ _ hus'
 obtain ⟨hk0,hown,vals,et,hh,hrv,hone⟩:=hm.box k0 _ hM
 have hlt:g.box k0 < w.heap.size:=(Array.getElem?_eq_some_iff.1 hh).1
 obtain ⟨hvl,hvr⟩:=(Qc8 _ _ _ _).1 hrv
 have hscf:∀ (l:List α),∀ y∈(l.map e).flatten,y.scalar = true:=by
  intro l y hy
  obtain ⟨r,hr,hy⟩:=List.mem_flatten.1 hy
  obtain ⟨x,_,rfl⟩:=List.mem_map.1 hr
  exact List.all_eq_true.1 (hsc x) y hy
 have hfl' : ∀ l:List α,(l.map e).flatten.length = l.length * sz:=fun l=>by have:=Qbcb hlen l; rw [rowV,List.length_map] at this; exact this
 have hcell:∀ j,j < (rowV e xs).length→vals[j]? = (rowV e xs)[j]?:=by
  intro j hj
  rw [Qbcb hlen] at hj
  have hjf:j < (xs.map e).flatten.length:=by rw [hfl']; exact hj
  have hjv:j < vals.length:=by
   rw [hvl]; simp only [Qgy,List.length_append,List.length_map]; omega
  have hc:(Qgy (xs.map e) ((c - xs.length) * sz))[j]? = some (.d (xs.map e).flatten[j]):=by
   simp only [Qgy]
   rw [List.getElem?_append_left (by rw [List.length_map]; exact hjf),List.getElem?_map,List.getElem?_eq_getElem hjf]; rfl
  have:=hvr j _ _ hc (List.getElem?_eq_getElem hjv)
  simp only [RV] at this
  rw [Qbkn (hscf xs _ (List.getElem_mem hjf))] at this
  rw [List.getElem?_eq_getElem hjv,this]
  simp only [rowV,List.getElem?_map,List.getElem?_eq_getElem hjf,Option.map_some]
 have hcall:=hK (g.box k0) c xs w (fun j hj=>⟨by rw [← hcell j hj]; simp [World.cell?,hh],by simp [World.frozen?,hh]⟩) hlt hsz
 have hus2:(Value.slice (some ⟨g.box k0,0,none⟩) xs.length c :: us').toArray = #[.slice (some ⟨g.box k0,0,none⟩) xs.length c] ++ ex:=by
  rw [h1]; apply Array.ext'; simp
 rw [hus2]
 refine hcall.mono ?_
 rintro e' w' ⟨rfl,n,os,rfl⟩
 generalize hF:(rowV e (srt xs)).toArray = F
 have hFs:F.size = xs.length * sz:=by rw [← hF]; simp [Qbcb hlen,hsl]
 have hblk:=Qbes w n (g.box k0) F os hh
 have hoth:∀ b,b≠g.box k0→b < w.heap.size→(grow (putRow id (Sort.ahead w n) (g.box k0) 0 F) os).heap[b]? = w.heap[b]?:=fun b hb hlt=>Q71 w n _ F os hb hlt
 have hsize:w.heap.size≤(grow (putRow id (Sort.ahead w n) (g.box k0) 0 F) os).heap.size:=by
  simp [putRow,mapBlock,Sort.ahead]
 generalize hw' : grow (putRow id (Sort.ahead w n) (g.box k0) 0 F) os = w' at hblk hoth hsize
 have himm:Imm g.imm g.imm w w':=by
  refine ⟨fun _ _ h=>h,fun b o h=>?_⟩
  obtain ⟨k1,k2⟩:=hm.imm b o h
  have hne:b≠g.box k0:=by rintro rfl; exact k2 k0 hown
  simp only [World.cell?,hoth b hne k1]
 have hkept:Kept g w g w' (There M) (fun o=>o ≠ .box k0):=⟨himm,fun _ _=>rfl,fun b hb hl=>⟨rfl,hoth b (by rintro rfl; exact hb hown) hl,fun _=>Iff.rfl⟩⟩
 have hsub:∀ (o:Owner) i,o ≠ .box k0→o.sub i ≠ .box k0:=by intro o i _; cases o <;> simp [Owner.sub]
 have hnew:∀ p:Nat→Prop,V.ons p (Qgy ((srt xs).map e) ((c - xs.length) * sz)):=by
  intro p
  rw [Qie]
  intro v hv
  simp only [Qgy,List.mem_append,List.mem_map,List.mem_replicate] at hv
  rcases hv with ⟨x,_,rfl⟩ | ⟨_,rfl⟩ <;> trivial
 refine ⟨_,g,rfl,⟨fun k b hk=>?_,fun b o h=>⟨Nat.lt_of_lt_of_le (hm.imm b o h).1 hsize,(hm.imm b o h).2⟩⟩,⟨[],rfl,rfl⟩,trivial,fun k cs hk=>?_,?_⟩
 ·by_cases hkk:k = k0
  ·subst hkk
   rw [Qug] at hk; cases hk
   refine ⟨hk0,hown,(putCells id 0 F vals.toArray).toList,et,by simpa using hblk,(Qc8 _ _ _ _).2 ⟨?_,fun j cc x hc hx=>?_⟩,fun x hx=>?_⟩
   ·have e1:(Qgy (xs.map e) ((c - xs.length) * sz)).length = xs.length * sz + (c - xs.length) * sz:=by
     simp only [Qgy,List.length_append,List.length_map,List.length_replicate,hfl']
    have e2:(Qgy ((srt xs).map e) ((c - xs.length) * sz)).length = xs.length * sz + (c - xs.length) * sz:=by
     simp only [Qgy,List.length_append,List.length_map,List.length_replicate,hfl',hsl]
    rw [e2,← e1,← hvl]
    simp [putCells]
   ·have hx' : (putCells id 0 F vals.toArray)[j]? = some x:=by simpa using hx
    simp only [putCells,Array.getElem?_mapIdx,List.getElem?_toArray,Option.map_eq_some_iff] at hx'
    obtain ⟨y,hy,rfl⟩:=hx'
    simp only [Qgy] at hc
    by_cases hj:j < ((srt xs).map e).flatten.length
    ·rw [List.getElem?_append_left (by rw [List.length_map]; exact hj),List.getElem?_map,List.getElem?_eq_getElem hj,Option.map_some,Option.some.injEq] at hc
     subst hc
     rw [hfl',hsl] at hj
     have hjF:j < F.size:=by rw [hFs]; exact hj
     rw [if_pos ⟨Nat.zero_le _,by omega⟩]
     have hj2:j < ((srt xs).map e).flatten.length:=by rw [hfl',hsl]; exact hj
     simp only [RV]
     rw [Qbkn (hscf (srt xs) _ (List.getElem_mem hj2))]
     simp only [Nat.sub_zero,id]
     rw [getElem!_pos F j hjF]
     subst hF
     simp only [rowV,List.getElem_toArray,List.getElem_map]
    ·rw [List.getElem?_append_right (by rw [List.length_map]; omega)] at hc
     have:cc = .und:=(List.mem_replicate.1 (List.mem_of_getElem? hc)).2
     subst this; simp [RV]
   ·obtain ⟨j,hj⟩:=List.getElem?_of_mem hx
    have hx' : (putCells id 0 F vals.toArray)[j]? = some x:=by simpa using hj
    simp only [putCells,Array.getElem?_mapIdx,List.getElem?_toArray,Option.map_eq_some_iff] at hx'
    obtain ⟨y,hy,rfl⟩:=hx'
    split
    ·rename_i hr
     have hjF:j - 0 < F.size:=by omega
     simp only [id]
     rw [getElem!_pos F _ hjF]
     subst hF
     simp only [rowV,List.getElem_toArray,List.getElem_map]
     exact Qbll (hscf (srt xs) _ (List.getElem_mem _))
    ·exact hone y (List.mem_of_getElem? hy)
  ·rw [Qeq _ _ hkk] at hk
   obtain ⟨k1,k2,k3⟩:=hm.box k b hk
   cases b with
   | mp es c =>
    obtain ⟨ents,q1,q2⟩:=k3
    have hne:g.box k≠g.box k0:=by
     intro h; rw [h,hown] at k2; cases k2; exact hkk rfl
    exact ⟨k1,k2,ents,(hoth _ hne (Array.getElem?_eq_some_iff.1 q1).1).trans q1,Qv9 (g:=g) (g':=g) hkept.imm q2⟩
   | cells cs =>
    obtain ⟨vals2,e2,q1,q2,q3⟩:=k3
    have hne:g.box k≠g.box k0:=by
     intro h; rw [h,hown] at k2; cases k2; exact hkk rfl
    refine ⟨k1,k2,vals2,e2,(hoth _ hne (Array.getElem?_eq_some_iff.1 q1).1).trans q1,?_,q3⟩
    exact RVs_mono hkept hsub (by simp) cs (.box k) 0 vals2 (by simpa using hkk) (hMon k cs hk) q2
 ·by_cases hkk:k = k0
  ·subst hkk
   rw [Qug] at hk; cases hk
   exact hnew _
  ·rw [Qeq _ _ hkk] at hk
   exact ons_mono (fun j hj=>There.put hj) _ (hMon k cs hk)
 ·refine ⟨by rw [← hw']; rfl,by rw [← hw']; rfl,by rw [← hw']; rfl,hsize,himm,fun _ _=>rfl,fun b hb ho=>⟨rfl,hoth b ?_ hb,fun _=>Iff.rfl⟩⟩
  rintro rfl
  rw [hown] at ho
  exact ho
end Go.Abs
end
section
namespace Go.Abs
open Go
variable {Γ:Env} {σ:St} {α:Type}
section
variable {g:G} {w:World} (hx:∀ b,g.own b = .ext)
include hx
end
open Classical in
theorem ACalls.frz {P:Program} {f:FuncId} {args:List V} {M M' : Mem} {nb nb' sz:Nat} {l:List (List D)} (h:ACalls P f args M nb (.own sz l) M' nb') (hpl:Q70 l = true):ACalls P f args M nb (.f (.lst sz l)) M' nb':=by
 obtain ⟨h1,h2,h3⟩:=h
 refine ⟨h1,h2,fun w g us k1 k2 k3 k4 k5 k6=>(h3 w g us k1 k2 k3 k4 k5 k6).mono ?_⟩
 rintro e w' ⟨v,g',rfl,hm,hv,_,hon,hf⟩
 let g2:G:=⟨g'.box,g'.imm,fun b=>if g'.own b = .res [] then .ext else g'.own b⟩
 have hown:∀ b,g'.own b ≠ .res []→g2.own b = g'.own b:=fun b hb=>by simp [g2,hb]
 have hkept:Kept g' w' g2 w' (fun _=>True) (fun o=>o ≠ .res []):=⟨⟨fun _ _ h=>h,fun _ _ _=>rfl⟩,fun _ _=>rfl,fun b hb _=>⟨hown b hb,rfl,fun _=>Iff.rfl⟩⟩
 have hsub:∀ (o:Owner) i,o ≠ .res []→o.sub i ≠ .res []:=by intro o i _; cases o <;> simp [Owner.sub]
 refine ⟨v,g2,rfl,⟨fun k b hk=>?_,fun b o hb=>?_⟩,?_,trivial,hon,?_⟩
 ·obtain ⟨q1,q2,q3⟩:=hm.box k b hk
  refine ⟨q1,(hown _ (by rw [q2]; simp)).trans q2,?_⟩
  cases b with
  | mp es c =>
   obtain ⟨ents,p1,p2⟩:=q3
   exact ⟨ents,p1,Qv9 (g:=g') (g':=g2) hkept.imm p2⟩
  | cells cs =>
   obtain ⟨vals,e,p1,p2,p3⟩:=q3
   exact ⟨vals,e,p1,RVs_mono hkept hsub (by simp) cs (.box k) 0 vals (by simp) (by rw [Qie]; intro v _; exact Qbep v) p2,p3⟩
 ·obtain ⟨q1,q2⟩:=hm.imm b o hb
  refine ⟨q1,fun k=>?_⟩
  simp only [g2]
  split
  ·simp
  ·exact q2 k
 ·have hrd:=Qir hv
  simp only [RV] at hv ⊢
  rcases hv with ⟨⟨a,rfl⟩,rfl⟩ | ⟨b,cap,vals,e,rfl,hb,hh,h4,h5,h6,h7,h8⟩
  ·simp only [RD]; exact ⟨a,0,rfl,Nat.le_refl _,.inl trivial⟩
  ·simp only [RD]
   refine ⟨_,cap,rfl,h4,.inr ⟨b,0,rfl,?_⟩⟩
   have h9:=RDL_strong sz b l 0 h8
   exact Qbdo (fun o ho=>⟨ho.1,by simp [g2,hb],ho.2⟩) hpl h9
 ·refine ⟨hf.os,hf.tape,hf.output,hf.size,hf.imm,hf.box,fun b hb ho=>?_⟩
  obtain ⟨q1,q2,q3⟩:=hf.old b hb ho
  exact ⟨(hown b (by rw [q1]; intro e; rw [e] at ho; exact ho)).trans q1,q2,q3⟩
def PL:List (Nat×V)→Prop
 | []=>True
 | (_,v) :: E=>Q9w v = true∧PL E
theorem PL.at:∀ {E:List (Nat×V)},PL E→∀ t,Q9w (look E t) = true
 | [],_,t=>rfl
 | (u,v) :: E,h,t=>by
  simp only [look]
  cases hb:Nat.beq t u with
  | true=>exact h.1
  | false=>exact PL.at h.2 t
def PV:List V→Prop
 | []=>True
 | v :: vs=>Q9w v = true∧PV vs
theorem PV.go:∀ {vs:List V},PV vs→Q9w.go vs = true
 | [],_=>rfl
 | v :: vs,h=>by simp only [Q9w.go,Bool.and_eq_true]; exact ⟨h.1,PV.go h.2⟩
def PB (t0 i:Nat):List (Nat×Bx)→Prop
 | []=>True
 | (t,.cells cs) :: L=>PV (bif Nat.beq t t0 then cs.set i .und else cs)∧PB t0 i L
 | (_,.mp ..) :: _=>False
theorem PB.at {t0 i:Nat}:∀ {L:List (Nat×Bx)},PB t0 i L→∀ t cs,Qch L t = some (.cells cs)→Q9w.go (if t = t0 then cs.set i .und else cs) = true
 | [],_,t,cs,h=>by cases h
 | (u,.cells ds) :: L,hp,t,cs,h=>by
  simp only [Qch] at h
  cases hb:Nat.beq t u with
  | true =>
   have:=Nat.eq_of_beq_eq_true hb; subst this
   rw [hb] at h; cases h
   have:=hp.1.go
   by_cases ht:t = t0
   ·subst ht; rw [show Nat.beq t t = true from by simp] at this; rw [if_pos rfl]; exact this
   ·have hf:Nat.beq t t0 = false:=by
     cases hq:Nat.beq t t0 with
     | false=>rfl
     | true=>exact absurd (Nat.eq_of_beq_eq_true hq) ht
    rw [hf] at this; rw [if_neg ht]; exact this
  | false=>rw [hb] at h; exact PB.at hp.2 t cs h
 | (u,.mp ..) :: L,hp,t,cs,h=>hp.elim
def RowK (P:Program) (c:Nat) (e:α→List D) (sz:Nat) (ex:List V) (f:List α→Option (List α)):Prop :=
 ∀ xs ys,f xs = some ys→ys.length = xs.length∧(xs = []→ys = xs∧∀ M nb,ACalls P c (.d (.lst sz (List.map e xs)) :: ex) M nb (.tup []) M nb) ∧
  (xs.length≤maxLen→∀ cap k0 M nb,M k0 = some (.cells (Qgy (List.map e xs) ((cap - xs.length) * sz)))→ACalls P c (.sl sz k0 0 xs.length cap :: ex) M nb (.tup []) (M.put k0 (.cells (Qgy (List.map e ys) ((cap - xs.length) * sz)))) nb)
section
variable {pc d nb:Nat} {os:List COp} {E:List (Nat×V)} {M0:Mem} {L:List (Nat×Bx)} {Q:St→Prop} {gd:Option (Nat×Bool)}
theorem Rn.callRow {f:FuncId} {as:List Arg} {args:List V} {r:V} {t:Nat} {cs cs' : List V} (hw:Wn E gd) (ha:V.dems (as.map (·.val (look E))) = args) (ht:Qch L t = some (.cells cs)) (hC:∀ M,M (Γ.n0 + t) = some (.cells cs)→ACalls Γ.P f args M nb r (M.put (Γ.n0 + t) (.cells cs')) nb)
  (hpc:pcOf pc = 0) (h:Rn Γ pc os ⟨look ((d,r) :: E),Qm Γ.n0 ((t,.cells cs') :: L) M0,nb⟩ Q):Rn Γ pc (⟨some d,.call f,as,false,gd⟩ :: os) ⟨look E,Qm Γ.n0 L M0,nb⟩ Q:=by
 refine Rn.cons ?_
 unfold COp.run
 rw [hw.wanted]
 simp only [show (K.call f).isCall = true from rfl,if_true,COp.callee,ha]
 rw [hpc]
 refine ⟨r,(Qm Γ.n0 L M0).put (Γ.n0 + t) (.cells cs'),nb,hC _ (by rw [Qde]; exact ht),fun k hk=>?_,fun k cs2 hk hM=>.inl ?_,?_⟩
 ·simp only [Mem.put]; split
  ·rfl
  ·exact hk
 ·rw [Qeq _ _ (by omega)]
 ·rw [show Qbb (look E) (some d) r = look ((d,r) :: E) from Qdg E d r,Qer]
  exact h
end
end Go.Abs
end
section
namespace Go.Abs
open Go
variable {κ β:Type} [BEq κ]
def mapE (ek:κ→V) (ev:β→V):Nat→List (κ×β)→List (V×V×Nat)
 | _,[]=>[]
 | i,(k,v) :: m=>(ek k,ev v,i) :: mapE ek ev (i + 1) m
def idxS (m:List (κ×β)) (k:κ):Nat:=match m with
 | []=>0
 | (k',_) :: m=>if k == k' then 0 else idxS m k + 1
def hasM (m:List (κ×β)) (k:κ):Bool:=m.any fun p=>k == p.1
def getM (m:List (κ×β)) (k:κ) (z:β):β:=match m with
 | []=>z
 | (k',v) :: m=>if k == k' then v else getM m k z
def setM (m:List (κ×β)) (k:κ) (v:β):List (κ×β):=match m with
 | []=>[(k,v)]
 | (k',v') :: m=>if k == k' then (k,v) :: m else (k',v') :: setM m k v
def putM (m:List (κ×β)) (i:Nat) (v:β):List (κ×β):=m.modify i fun p=>(p.1,v)
theorem Q9x {k k' : κ} {v:β} {m:List (κ×β)}:hasM ((k',v) :: m) k = ((k == k') || hasM m k):=rfl
theorem Q9y {ek:κ→V} {ev:β→V}:∀ (i:Nat) (m:List (κ×β)),(mapE ek ev i m).length = m.length
 | _,[]=>rfl
 | i,_ :: m=>by simp [mapE,Q9y (i + 1) m]
theorem Qbcc {ek:κ→V} {ev:β→V}:∀ (i j:Nat) (m:List (κ×β)),(mapE ek ev i m)[j]? = (m[j]?).map fun p=>(ek p.1,ev p.2,i + j)
 | _,j,[]=>by simp [mapE]
 | i,0,_ :: m=>by simp [mapE]
 | i,j + 1,_ :: m=>by
  simp only [mapE,List.getElem?_cons_succ,Qbcc (i + 1) j m]
  rw [show i + 1 + j = i + (j + 1) from by omega]
theorem Q5t {ek:κ→V} {ev:β→V}:∀ (i:Nat) (m n:List (κ×β)),mapE ek ev i (m ++ n) = mapE ek ev i m ++ mapE ek ev (i + m.length) n
 | _,[],n=>by simp [mapE]
 | i,(k,v) :: m,n=>by simp [mapE,Q5t (i + 1) m n]; congr 1; omega
theorem Q62 {ek:κ→V} {ev:β→V} {kd:MK} (hk:∀ a,kd.ok (ek a) = true):∀ (i:Nat) (m:List (κ×β)),kd.all (mapE ek ev i m) = true
 | _,[]=>rfl
 | i,(k,v) :: m=>by
  have:=Q62 (ev:=ev) hk (i + 1) m
  simp only [MK.all] at *
  simp [mapE,hk,this]
section
variable {ek:κ→V} {ev:β→V} (hs:∀ a b,Qhg (ek a) (ek b) = (a == b))
include hs
theorem Q14 {k:κ}:∀ (i:Nat) (m:List (κ×β)) (z:β),Qsy (ek k) (mapE ek ev i m) = if hasM m k then some (idxS m k,ev (getM m k z)) else none
 | _,[],z=>rfl
 | i,(k',v) :: m,z=>by
  simp only [mapE,Qsy,hs,Q14 (i + 1) m z,Q9x,idxS,getM]
  by_cases hb:(k == k') = true
  ·simp [hb]
  ·simp only [hb,Bool.false_eq_true,if_false,Bool.false_or]
   by_cases hq:hasM m k = true
   ·rw [if_pos hq,if_pos hq]; rfl
   ·rw [if_neg hq,if_neg hq]; rfl
omit hs in
theorem Qbie {k:κ}:∀ {m:List (κ×β)},hasM m k = true→idxS m k < m.length
 | [],h=>by cases h
 | (k',v) :: m,h=>by
  simp only [idxS,hasM,List.any_cons] at *
  cases hb:(k == k') with
  | true=>simp
  | false =>
   rw [hb] at h
   have:=Qbie (m:=m) (by simpa [hasM] using h)
   simp; exact this
omit hs in
theorem Qbdp {k:κ}:∀ {m:List (κ×β)},hasM m k = false→idxS m k = m.length
 | [],h=>rfl
 | (k',v) :: m,h=>by
  simp only [hasM,List.any_cons,Bool.or_eq_false_iff] at h
  simp only [idxS,h.1,Bool.false_eq_true,if_false,List.length_cons]
  rw [Qbdp (m:=m) h.2]
omit hs in
theorem Q9z {k:κ} {v:β}:∀ {m:List (κ×β)},hasM m k = false→setM m k v = m ++ [(k,v)]
 | [],h=>rfl
 | (k',v') :: m,h=>by
  simp only [hasM,List.any_cons,Bool.or_eq_false_iff] at h
  simp only [setM,h.1,Bool.false_eq_true,if_false,List.cons_append]
  rw [Q9z (m:=m) h.2]
omit hs in
theorem Qbcd {k:κ} {v:β}:∀ (i:Nat) {m:List (κ×β)},hasM m k = true→modM (ek k) (ev v) (idxS m k) (mapE ek ev i m) = mapE ek ev i (setM m k v)
 | _,[],h=>by cases h
 | i,(k',v') :: m,h=>by
  simp only [idxS,setM,mapE,hasM,List.any_cons] at *
  cases hb:(k == k') with
  | true=>simp [modM,mapE]
  | false =>
   rw [hb] at h
   simp only [Bool.false_eq_true,if_false,modM,mapE]
   rw [Qbcd (i + 1) (by simpa [hasM] using h)]
omit hs in
theorem Q5u {k:κ} {v:β}:∀ {m:List (κ×β)},hasM m k = true→(setM m k v).length = m.length
 | [],h=>by cases h
 | (k',v') :: m,h=>by
  simp only [setM,hasM,List.any_cons] at *
  cases hb:(k == k') with
  | true=>simp
  | false =>
   rw [hb] at h
   simp [Q5u (m:=m) (by simpa [hasM] using h)]
omit hs in
theorem Qbif {v:β}:∀ (i j:Nat) {m:List (κ×β)} {p:κ×β},m[j]? = some p→modM (ek p.1) (ev v) j (mapE ek ev i m) = mapE ek ev i (putM m j v)
 | i,0,q :: m,p,h=>by simp at h; subst h; simp [putM,mapE,modM]
 | i,j + 1,q :: m,p,h=>by
  simp at h
  have:=Qbif (v:=v) (i + 1) j h
  simp only [putM,mapE,modM,List.modify_succ_cons] at *
  rw [this]
 | i,j,[],p,h=>by simp at h
omit hs in
theorem Qbdq:∀ (i j:Nat) (m:List (κ×β)),j < m.length→Qbah ((i + j:Nat):Int) (mapE ek ev i m) = some j
 | i,j,[],h=>by simp at h
 | i,0,_ :: m,h=>by simp [mapE,Qbah]
 | i,j + 1,_ :: m,h=>by
  have:=Qbdq (i + 1) j m (by simpa using h)
  simp only [mapE,Qbah]
  have hne:((i:Int) == ((i + (j + 1):Nat):Int)) = false:=by simp; omega
  rw [hne,show i + (j + 1) = i + 1 + j from by omega,this]; rfl
end
variable {Γ:Env} {pc d nb:Nat} {os:List COp} {E:List (Nat×V)} {M M' M0:Mem} {L:List (Nat×Bx)} {Q:St→Prop} {gd:Option (Nat×Bool)} {a b c:Arg} {ek:κ→V} {ev:β→V} {m:List (κ×β)}
theorem Rn.k0 {k:K} {as:List Arg} {v:V} (hw:Wn E gd) (hc:k.isCall = false) (hn:k.isNil = false) (hk:Qo Γ.n0 (Γ.n0 + 0) k (V.dems (as.map (·.val (look E)))) M = some (v,M'))
  (h:Rn Γ pc os ⟨look E,M',nb⟩ Q):Rn Γ pc (⟨none,k,as,false,gd⟩ :: os) ⟨look E,M,nb⟩ Q:=by
 refine Rn.cons ?_
 unfold COp.run
 rw [hw.wanted]
 simp only [hc,hn,Bool.false_eq_true,if_false,COp.step,COp.xs,Option.getD_none,hk,Qbb]
 exact h
theorem Rn.mkmap (hw:Wn E gd) (hf:(Qch L d).isNone = true) (ek:κ→V) (ev:β→V) (h:Rn Γ pc os ⟨look ((d,.mp (Γ.n0 + d)) :: E),Qm Γ.n0 ((d,.mp (mapE ek ev 0 []) 0) :: L) M0,nb⟩ Q) :
  Rn Γ pc (⟨some d,.mkmap,[],false,gd⟩ :: os) ⟨look E,Qm Γ.n0 L M0,nb⟩ Q:=by
 refine Rn.k hw rfl rfl ?_ h
 simp only [List.map_nil,V.dems,Qo]
 rw [if_pos (by simp [Qs4 (Γ:=Γ) (M0:=M0) hf]),Qer]; rfl
theorem Rn.lenm {t:Nat} (hw:Wn E gd) (ha:a.val (look E) = .mp (Γ.n0 + t)) (hM:Qch L t = some (.mp (mapE ek ev 0 m) m.length)) (h:Rn Γ pc os ⟨look ((d,.d (.int .i64 m.length)) :: E),Qm Γ.n0 L M0,nb⟩ Q) :
  Rn Γ pc (⟨some d,.lenm,[a],false,gd⟩ :: os) ⟨look E,Qm Γ.n0 L M0,nb⟩ Q:=by
 refine Rn.k hw rfl rfl ?_ h
 simp only [List.map_cons,List.map_nil,V.dems,ha,V.dem,Qo,Qj hM,Q9y]
section
variable (hs:∀ a b,Qhg (ek a) (ek b) = (a == b)) {kd:MK} (hk:∀ a,kd.ok (ek a) = true) (hv:∀ b,(ev b).dat = true)
include hs hk hv
theorem Rn.lookup {t:Nat} {z:V} {k:κ} (zb:β) (hz:ev zb = z) (hw:Wn E gd) (ha:a.val (look E) = .mp (Γ.n0 + t)) (hb:(b.val (look E)).dem = ek k) (hM:Qch L t = some (.mp (mapE ek ev 0 m) m.length))
  (h:Rn Γ pc os ⟨look ((d,ev (getM m k zb)) :: E),Qm Γ.n0 L M0,nb⟩ Q):Rn Γ pc (⟨some d,.lookup kd false z,[a,b],false,gd⟩ :: os) ⟨look E,Qm Γ.n0 L M0,nb⟩ Q:=by
 subst hz
 refine Rn.k hw rfl rfl ?_ h
 simp only [List.map_cons,List.map_nil,V.dems,ha,hb,V.dem,Qo,Qj hM,hk,Q62 hk,Bool.and_self,if_true,Q14 hs 0 m zb]
 cases hh:hasM m k with
 | true=>simp [hv]
 | false =>
  have:getM m k zb = zb:=by
   clear hM h
   induction m with
   | nil=>rfl
   | cons p m ih =>
    simp only [hasM,List.any_cons,Bool.or_eq_false_iff] at hh
    simp only [getM,hh.1,Bool.false_eq_true,if_false]
    exact ih hh.2
  simp [hv,this]
theorem Rn.lookupC {t:Nat} {z:V} {k:κ} (zb:β) (hz:ev zb = z) (hw:Wn E gd) (ha:a.val (look E) = .mp (Γ.n0 + t)) (hb:(b.val (look E)).dem = ek k) (hM:Qch L t = some (.mp (mapE ek ev 0 m) m.length))
  (h:Rn Γ pc os ⟨look ((d,.tup [ev (getM m k zb),.d (.bool (hasM m k))]) :: E),Qm Γ.n0 L M0,nb⟩ Q):Rn Γ pc (⟨some d,.lookup kd true z,[a,b],false,gd⟩ :: os) ⟨look E,Qm Γ.n0 L M0,nb⟩ Q:=by
 subst hz
 refine Rn.k hw rfl rfl ?_ h
 simp only [List.map_cons,List.map_nil,V.dems,ha,hb,V.dem,Qo,Qj hM,hk,Q62 hk,Bool.and_self,if_true,Q14 hs 0 m zb]
 cases hh:hasM m k with
 | true=>simp [hv]
 | false =>
  have:getM m k zb = zb:=by
   clear hM h
   induction m with
   | nil=>rfl
   | cons p m ih =>
    simp only [hasM,List.any_cons,Bool.or_eq_false_iff] at hh
    simp only [getM,hh.1,Bool.false_eq_true,if_false]
    exact ih hh.2
  simp [hv,this]
theorem Rn.mapset {t:Nat} {k:κ} {v:β} (hw:Wn E gd) (ha:a.val (look E) = .mp (Γ.n0 + t)) (hb:(b.val (look E)).dem = ek k) (hc:Q4b (c.val (look E)).dem = ev v) (hcd:(c.val (look E)).dem.dat = true) (hM:Qch L t = some (.mp (mapE ek ev 0 m) m.length))
  (h:Rn Γ pc os ⟨look E,Qm Γ.n0 ((t,.mp (mapE ek ev 0 (setM m k v)) (setM m k v).length) :: L) M0,nb⟩ Q):Rn Γ pc (⟨none,.mapset kd,[a,b,c],false,gd⟩ :: os) ⟨look E,Qm Γ.n0 L M0,nb⟩ Q:=by
 refine Rn.k0 (v:=.und) hw rfl rfl ?_ h
 simp only [List.map_cons,List.map_nil,V.dems,ha,hb,hc,V.dem,Qo,Qj hM,hk,hcd,Q62 hk,Bool.and_self,if_true]
 rw [Q14 hs 0 m v,← Qer]
 cases hh:hasM m k with
 | true=>simp only [if_true]; rw [Qbcd 0 hh,Q5u hh]
 | false =>
  simp only [Bool.false_eq_true,if_false]
  rw [Q9z hh,Q5t]
  simp [mapE]
theorem Rn.mapentry {t:Nat} {z:V} {k:κ} (zb:β) (hz:ev zb = z) (hw:Wn E gd) (ha:a.val (look E) = .mp (Γ.n0 + t)) (hb:(b.val (look E)).dem = ek k) (hM:Qch L t = some (.mp (mapE ek ev 0 m) m.length))
  (h:Rn Γ pc os ⟨look ((d,.tup [ev (getM m k zb),.d (.int .i64 (idxS m k))]) :: E),Qm Γ.n0 ((t,.mp (mapE ek ev 0 (setM m k (getM m k zb))) (setM m k (getM m k zb)).length) :: L) M0,nb⟩ Q):Rn Γ pc (⟨some d,.mapentry kd z,[a,b],false,gd⟩ :: os) ⟨look E,Qm Γ.n0 L M0,nb⟩ Q:=by
 subst hz
 refine Rn.k hw rfl rfl ?_ h
 simp only [List.map_cons,List.map_nil,V.dems,ha,hb,V.dem,Qo,Qj hM,hk,hv,Q62 hk,Bool.and_self,if_true,Q14 hs 0 m zb]
 rw [← Qer]
 cases hh:hasM m k with
 | true =>
  have hlt:=Qbie hh
  simp only [if_true,hv,Qbcc,List.getElem?_eq_getElem hlt,Option.map_some,Nat.zero_add]
  rw [Qbcd 0 hh,Q5u hh]
 | false =>
  have:getM m k zb = zb:=by
   clear hM h
   induction m with
   | nil=>rfl
   | cons p m ih =>
    simp only [hasM,List.any_cons,Bool.or_eq_false_iff] at hh
    simp only [getM,hh.1,Bool.false_eq_true,if_false]
    exact ih hh.2
  simp only [Bool.false_eq_true,if_false]
  rw [this,Q9z hh,Q5t,Qbdp hh]
  simp [mapE]
omit hs hk in
theorem Rn.entrystore {t i:Nat} {v:β} (hi:i < m.length) (hw:Wn E gd) (ha:a.val (look E) = .mp (Γ.n0 + t)) (hb:b.val (look E) = .d (.int .i64 (i:Int))) (hc:Q4b (c.val (look E)).dem = ev v) (hcd:(c.val (look E)).dem.dat = true) (hM:Qch L t = some (.mp (mapE ek ev 0 m) m.length))
  (h:Rn Γ pc os ⟨look E,Qm Γ.n0 ((t,.mp (mapE ek ev 0 (putM m i v)) (putM m i v).length) :: L) M0,nb⟩ Q):Rn Γ pc (⟨none,.entrystore,[a,b,c],false,gd⟩ :: os) ⟨look E,Qm Γ.n0 L M0,nb⟩ Q:=by
 refine Rn.k0 (v:=.und) hw rfl rfl ?_ h
 have hbn:=Qbdq (ek:=ek) (ev:=ev) 0 i m hi
 rw [Nat.zero_add] at hbn
 simp only [List.map_cons,List.map_nil,V.dems,ha,hb,hc,V.dem,Qo,Qj hM,hcd,if_true,hbn,Qbcc,List.getElem?_eq_getElem hi,Option.map_some]
 rw [← Qer,Qbif 0 i (List.getElem?_eq_getElem hi)]
 simp [putM]
end
theorem kMp {n0 t:Nat} {sites:List Nat} (h:sites.any (fun u=>Nat.beq t u) = false):WkV (Qdy (Qjt n0 sites) (.mp (n0 + t))) (.mp (n0 + t)):=by
 refine .same ?_
 simp [Qdy,Qwd,h]
end Go.Abs
end
section
namespace Go.Abs
open Go
abbrev oo (d:Nat) (k:K) (as:List Arg):COp:=⟨some d,k,as,false,none⟩
abbrev oM (d a:Nat):COp:=⟨some d,.mov,[.t a],false,none⟩
abbrev oL (d a:Nat):COp:=⟨some d,.load false 1,[.t a],false,none⟩
abbrev oF (d n a:Nat):COp:=⟨some d,.fld n,[.t a],false,none⟩
abbrev cI (n:Int):Arg:=.c (.d (.int .i64 n))
abbrev ot (d:Nat) (k:K) (as:List Arg):COp:=⟨some d,k,as,true,none⟩
universe u
variable {α:Type u} {Γ:Env} {pc d nb:Nat} {os:List COp} {E:List (Nat×V)} {M:Mem} {Q:St→Prop} {gd:Option (Nat×Bool)} {a b:Arg} {sz:Nat}
theorem Rn.idxArr {k o o' len:Nat} {kk:IntKind} {i:Int} (hw:Wn E gd) (ha:a.val (look E) = .ptr k o) (hb:b.val (look E) = .d (.int kk i)) (ho:o' = o + i.toNat * sz) (hx:inO len i = some ()) (h:Rn Γ pc os ⟨look ((d,.ptr k o') :: E),M,nb⟩ Q) :
  Rn Γ pc (⟨some d,.idxarr sz len,[a,b],false,gd⟩ :: os) ⟨look E,M,nb⟩ Q:=by
 subst ho
 unfold inO at hx
 split at hx <;> cases hx
 rename_i hc
 refine Rn.k hw rfl rfl ?_ h
 simp [ha,hb,V.dems,V.dem,Qo,hc.1,hc.2]
def rowO (l:List α) (i:Nat):Option α:=l[i]?
theorem Rn.loadArr {k off o n:Nat} {cs pre post:List V} {e:α→D} {l:List α} {x:α} (hw:Wn E gd) (ha:a.val (look E) = .ptr k off) (ho:off = o + n) (hM:M k = some (.cells cs)) (hc:cs = pre ++ (l.map fun x=>V.d (e x)) ++ post) (hp:pre.length = o) (hx:rowO l n = some x)
  (h:Rn Γ pc os ⟨look ((d,.d (e x)) :: E),M,nb⟩ Q):Rn Γ pc (⟨some d,.load false 1,[a],false,gd⟩ :: os) ⟨look E,M,nb⟩ Q:=by
 subst ho hc hp
 unfold rowO at hx
 obtain ⟨hlt,hx'⟩:=List.getElem?_eq_some_iff.1 hx
 refine Rn.k hw rfl rfl ?_ h
 have h2:(pre ++ (l.map fun x=>V.d (e x)) ++ post)[pre.length + n]? = some (.d (e x)):=by
  rw [List.append_assoc,List.getElem?_append_right (by omega),show pre.length + n - pre.length = n from by omega,List.getElem?_append_left (by simpa using hlt),List.getElem?_map,hx]; rfl
 simp only [List.map_cons,List.map_nil,V.dems,ha,V.dem,Qo,hM]
 rw [if_pos (by simp only [List.length_append,List.length_map]; omega)]
 simp only [Bool.false_eq_true,if_false,Option.map_eq_some_iff]
 exact ⟨_,h2,rfl⟩
theorem Rn.lit {bytes:Nat} {xs:List α} {e:α→List D} {ls:List (List D)} (hw:Wn E gd) (hl:xs.map e = ls) (hbd:(Nat.ble bytes 128 && Nat.ble 1 sz && Nat.ble ls.length lim) = true)
  (h:Rn Γ pc os ⟨look ((d,.own sz (xs.map e)) :: E),M,nb⟩ Q):Rn Γ pc (⟨some d,.append sz bytes,[.c (.nils sz),.c (.d (.lst sz ls))],true,gd⟩ :: os) ⟨look E,M,nb⟩ Q:=by
 subst hl
 simp only [Bool.and_eq_true] at hbd
 have h1:=Nat.le_of_ble_eq_true hbd.1.1
 have h2:0 < sz:=Nat.le_of_ble_eq_true hbd.1.2
 have h3:=Nat.le_of_ble_eq_true hbd.2
 refine Rn.kT hw rfl rfl (v:=.own sz (xs.map e)) ?_ (fun i=>?_) h
 ·simp only [List.map_cons,List.map_nil,Arg.val,Qo,Qiy,if_true]
  rw [if_pos (by simp only [h1,h2,h3,decide_true,Bool.and_self])]
 ·simp only [List.map_cons,List.map_nil,Arg.val,Qbz,Q5,Arg.putTo]
  rw [Qdg]
theorem tv:True:=trivial
abbrev o_ (l:List Int):V:=.own 1 (List.map (eI .i64) l)
theorem si {β:Type u} {x y:β} (h:some x = some y):x = y:=Option.some.inj h
theorem sr {cs:List COp} {y:CC} {σ:St} {Q:Ex→St→Prop} (h:Rn Γ 9 cs σ (Qbjn Γ y Q .norm)):Tr Γ (.seq (.region cs 9 []) y) σ Q:=Tr.seq (Tr.rgn h)
theorem nt {y:CC} {σ:St} {Q:Ex→St→Prop} (h:Tr Γ y σ Q):Rn Γ 9 [] σ (Qbjn Γ y Q .norm):=Rn.nil (toN h)
theorem md {x:D} (ha:a.val (look E) = .d x) (h:Rn Γ pc os ⟨look ((d,.d x) :: E),M,nb⟩ Q):Rn Γ pc (⟨some d,.mov,[a],false,none⟩ :: os) ⟨look E,M,nb⟩ Q:=Rn.movD trivial ha h
end Go.Abs
end
section
namespace Go.Abs
open Go
end Go.Abs
end
section
namespace Go.Abs
open Go
variable {α:Type}
theorem WkVs.app {a a' b b' : List V} (h:WkVs a a') (k:WkVs b b'):WkVs (a ++ b) (a' ++ b'):=by
 induction h with
 | nil=>exact k
 | cons h t ih=>exact .cons h ih
theorem Qblm {g g' : α→List V} {f:V→V}:∀ {xs:List α},(∀ x∈xs,WkVs ((g x).map f) (g' x))→WkVs ((Q2 g xs).map f) (Q2 g' xs)
 | [],_=>.nil
 | x :: xs,h=>by
  rw [Qgl,Qgl,List.map_append]
  exact .app (h x (by simp)) (Qblm fun y hy=>h y (by simp [hy]))
theorem Qbmv {sz:Nat} {e:α→List D} {n:Int} {xs:List (List α)} {f:V→V} (hf:f (.nils sz) = .nils sz) (h:mkO n ([]:List α) = some xs):WkVs ((Q2 (fun (x:List α)=>[V.nils sz]) xs).map f) (Q2 (fun (x:List α)=>[V.own sz (List.map e x)]) xs):=by
 refine Qblm fun x hx=>?_
 unfold mkO at h
 split at h <;> cases h
 obtain rfl:=List.eq_of_mem_replicate hx
 simp only [List.map_cons,List.map_nil,hf]
 exact .cons (WkV.nilsO _) .nil
theorem Qbmw {sz:Nat} {e:α→List D} {xs:List (List α)} {f:V→V} (hf:∀ l,f (.own sz l) = .own sz l):WkVs ((Q2 (fun (x:List α)=>[V.own sz (List.map e x)]) xs).map f) (Q2 (fun (x:List α)=>[V.d (.lst sz (List.map e x))]) xs):=by
 refine Qblm fun x hx=>?_
 simp only [List.map_cons,List.map_nil,hf]
 exact .cons (WkV.dem' rfl) .nil
theorem Q15 {g:α→V}:∀ (xs:List α),Q2 (fun x=>[g x]) xs = xs.map g
 | []=>rfl
 | x :: xs=>by rw [Qgl,Q15 xs]; rfl
variable {Γ:Env} {pc d nb:Nat} {os:List COp} {E:List (Nat×V)} {M M0:Mem} {L:List (Nat×Bx)} {Q:St→Prop} {gd:Option (Nat×Bool)} {a b:Arg} {sz:Nat} {e:α→List D}
theorem Rn.loadTA {t:Nat} {i:Int} {xs:List (List α)} {x:List α} (hw:Wn E gd) (ha:a.val (look E) = .ptr (Γ.n0 + t) (0 + i.toNat * 1)) (hM:Qch L t = some (.cells (Q2 (fun (r:List α)=>[V.own sz (List.map e r)]) xs))) (hx:getO xs i = some x)
  (h:Rn Γ pc os ⟨look ((d,.own sz (List.map e x)) :: E),Qm Γ.n0 ((t,.cells ((Q2 (fun (r:List α)=>[V.own sz (List.map e r)]) xs).set i.toNat (.d (.lst sz (List.map e x))))) :: L) M0,nb⟩ Q) :
  Rn Γ pc (⟨some d,.loadT,[a],false,gd⟩ :: os) ⟨look E,Qm Γ.n0 L M0,nb⟩ Q:=by
 have hx' : xs[i.toNat]? = some x:=by
  unfold getO at hx
  split at hx
  ·exact hx
  ·cases hx
 have e0:0 + i.toNat * 1 = i.toNat:=by omega
 rw [e0] at ha
 refine Rn.loadT hw ha hM ?_ rfl h
 rw [Q15,List.getElem?_map,hx']; rfl
theorem Rn.storeTA {t u:Nat} {i:Int} {xs ys:List (List α)} {y:List α} {c0:V} (hw:Wn E gd) (ha:a.val (look E) = .ptr (Γ.n0 + t) (0 + i.toNat * 1)) (hb:look E u = .own sz (List.map e y)) (hM:Qch L t = some (.cells ((Q2 (fun (r:List α)=>[V.own sz (List.map e r)]) xs).set i.toNat c0))) (hx:setO xs i y = some ys)
  (h:Rn Γ pc os ⟨look ((u,.d (.lst sz (List.map e y))) :: E),Qm Γ.n0 ((t,.cells (Q2 (fun (r:List α)=>[V.own sz (List.map e r)]) ys)) :: L) M0,nb⟩ Q) :
  Rn Γ pc (⟨none,.store 1,[a,.t u],true,gd⟩ :: os) ⟨look E,Qm Γ.n0 L M0,nb⟩ Q:=by
 unfold setO at hx
 split at hx <;> cases hx
 rename_i hi
 have e0:0 + i.toNat * 1 = i.toNat:=by omega
 rw [e0] at ha
 refine Rn.storeO hw ha hb hM ?_ ?_ h
 ·rw [Q15]
  exact Nat.ble_eq_true_of_le (by simp only [List.length_set,List.length_map]; omega)
 ·rw [Q15,Q15,List.map_set]
  rw [List.set_eq_take_append_cons_drop (l:=List.map _ xs) (i:=i.toNat) (a:=V.own sz (List.map e y)),if_pos (by simpa using hi.2)]
  rw [List.take_set_of_le (Nat.le_refl _),List.drop_set_of_lt (by omega)]
  simp
def Qbbc (m:Nat):List (Nat×Bx)→List (Nat×Bx)
 | []=>[]
 | (t,b) :: L=>(m + t,b) :: Qbbc m L
theorem Q5v {m t:Nat}:∀ {Lr:List (Nat×Bx)},Qch (Qbbc m Lr ++ L) t = if m≤t then (match Qch Lr (t - m) with | some b=>some b | none=>Qch L t) else Qch L t
 | []=>by
  simp only [Qbbc,List.nil_append,Qch]
  split <;> rfl
 | (u,b) :: Lr=>by
  simp only [Qbbc,List.cons_append,Qch]
  rw [Q5v (Lr:=Lr)]
  by_cases hm:m≤t
  ·simp only [hm,if_true]
   by_cases hu:t = m + u
   ·have h1:Nat.beq t (m + u) = true:=by rw [hu]; exact Nat.beq_refl _
    have h2:Nat.beq (t - m) u = true:=by
     have:t - m = u:=by omega
     rw [this]; exact Nat.beq_refl _
    rw [h1,h2]; rfl
   ·have h1:Nat.beq t (m + u) = false:=by
     cases hq:Nat.beq t (m + u) with
     | false=>rfl
     | true=>exact absurd (Nat.eq_of_beq_eq_true hq) hu
    have h2:Nat.beq (t - m) u = false:=by
     cases hq:Nat.beq (t - m) u with
     | false=>rfl
     | true=>have:=Nat.eq_of_beq_eq_true hq; omega
    rw [h1,h2]; rfl
  ·have h1:Nat.beq t (m + u) = false:=by
    cases hq:Nat.beq t (m + u) with
    | false=>rfl
    | true=>have:=Nat.eq_of_beq_eq_true hq; omega
   rw [h1]; simp only [hm,if_false,cond_false]
theorem Qbbd {m:Nat} (hL:(L.all fun p=>Nat.blt p.1 m) = true) {t:Nat} (h:m≤t):Qch L t = none:=by
 cases hb:Qch L t with
 | none=>rfl
 | some b =>
  obtain ⟨p,hp,he⟩:=Q12 hb
  have:=List.all_eq_true.1 hL p hp
  have:=Nat.le_of_ble_eq_true this
  omega
theorem Qbet {n0 m:Nat} {Lr:List (Nat×Bx)} (hL:(L.all fun p=>Nat.blt p.1 m) = true):Qm (n0 + m) Lr (Qm n0 L M0) = Qm n0 (Qbbc m Lr ++ L) M0:=by
 funext k
 simp only [Qm]
 by_cases h1:k < n0
 ·rw [if_pos (by omega),if_pos h1,if_pos h1]
 ·by_cases h2:k < n0 + m
  ·rw [if_pos h2,if_neg h1,if_neg h1,Q5v,if_neg (by omega)]
  ·rw [if_neg h2,if_neg h1,Q5v,if_pos (by omega),Qbbd hL (t:=k - n0) (by omega),show k - (n0 + m) = k - n0 - m from by omega]
   cases Qch Lr (k - n0 - m) <;> rfl
theorem Rn.callNew {f:FuncId} {as:List Arg} {args:List V} {r r' : V} {m n:Nat} {Lr L' : List (Nat×Bx)} (hw:Wn E gd) (ha:V.dems (as.map (·.val (look E))) = args)
  (hC:ACalls Γ.P f args (Qm Γ.n0 L M0) (Γ.n0 + m) r (Qm (Γ.n0 + m) Lr (Qm Γ.n0 L M0)) (Γ.n0 + m + n)) (hr:r = r') (hLr:Qbbc m Lr = L') (hL:(L.all fun p=>Nat.blt p.1 m) = true) (hM:∀ k,Γ.n0≤k→M0 k = none) (hpc:pcOf pc = 0)
  (h:Rn Γ pc os ⟨look ((d,r') :: E),Qm Γ.n0 (L' ++ L) M0,Γ.n0 + (m + n)⟩ Q):Rn Γ pc (⟨some d,.call f,as,false,gd⟩ :: os) ⟨look E,Qm Γ.n0 L M0,Γ.n0 + m⟩ Q:=by
 subst hr hLr
 refine Rn.cons ?_
 unfold COp.run
 rw [hw.wanted]
 simp only [show (K.call f).isCall = true from rfl,if_true,COp.callee,ha]
 rw [hpc]
 refine ⟨r,Qm (Γ.n0 + m) Lr (Qm Γ.n0 L M0),Γ.n0 + m + n,hC,fun k hk=>?_,fun k cs2 hk hM'=>.inl ?_,?_⟩
 ·rcases Nat.lt_or_ge k (Γ.n0 + m) with hlt | hge
  ·rw [Qh hlt]; exact hk
  ·rw [Qbba hM hL k hge] at hk; cases hk
 ·rw [Qh (by omega)]
 ·rw [show Qbb (look E) (some d) r = look ((d,r) :: E) from Qdg E d r,Qbet hL,show Γ.n0 + m + n = Γ.n0 + (m + n) from by omega]
  exact h
def LOn (p:Nat→Prop):List (Nat×Bx)→Prop
 | []=>True
 | (_,.cells cs) :: L=>V.ons p cs∧LOn p L
 | (_,.mp ..) :: L=>LOn p L
theorem LOn.at {p:Nat→Prop}:∀ {L:List (Nat×Bx)},LOn p L→∀ t cs,Qch L t = some (.cells cs)→V.ons p cs
 | [],_,t,cs,h=>by cases h
 | (u,.cells ds) :: L,hp,t,cs,h=>by
  simp only [Qch] at h
  cases hb:Nat.beq t u with
  | true=>rw [hb] at h; cases h; exact hp.1
  | false=>rw [hb] at h; exact LOn.at hp.2 t cs h
 | (u,.mp ..) :: L,hp,t,cs,h=>by
  simp only [Qch] at h
  cases hb:Nat.beq t u with
  | true=>rw [hb] at h; cases h
  | false=>rw [hb] at h; exact LOn.at (L:=L) hp t cs h
theorem Qbce {p:Nat→Prop} {g:α→List V} (h:∀ x,V.ons p (g x)):∀ xs:List α,V.ons p (Q2 g xs)
 | []=>trivial
 | x :: xs=>by rw [Qgl]; exact Qgk.2 ⟨h x,Qbce h xs⟩
theorem thN {n0 t:Nat} {b:Bx} (h:Qch L t = some b):There (Qm n0 L M0) (n0 + t):=by simp [There,Qde,h]
def LR (M:Mem) (n0:Nat):List (Nat×Bx)→Prop
 | []=>True
 | (t,b) :: L=>M (n0 + t) = some b∧LR M n0 L
theorem lrAt {n0:Nat}:∀ {Lr:List (Nat×Bx)},LR M n0 Lr→∀ t b,Qch Lr t = some b→M (n0 + t) = some b
 | [],_,t,b,h=>by cases h
 | (u,c) :: Lr,hp,t,b,h=>by
  simp only [Qch] at h
  cases hb:Nat.beq t u with
  | true =>
   rw [hb] at h
   have:=Nat.eq_of_beq_eq_true hb
   subst this
   cases h; exact hp.1
  | false=>rw [hb] at h; exact lrAt hp.2 t b h
def FinN (rs:List Res) (r:V) (n0:Nat) (M0:Mem) (Lr:List (Nat×Bx)) (n:Nat):Ex→St→Prop:=fun e σ =>
 (e = .norm∨e = .ret)∧∃ r',Qv7 σ rs = some r' ∧ Wk r' r∧r.on (There (Qm n0 Lr M0))∧LOn (There (Qm n0 Lr M0)) Lr∧(∀ k,k < n0→σ.M k = M0 k)∧(∀ t b,Qch Lr t = some b→σ.M (n0 + t) = some b)∧(Lr.all fun p=>Nat.blt p.1 n) = true
theorem Qbko {P:Program} {f:FuncId} {cf:CFn} (hcf:Qy P f = some cf) {args:List V} {r:V} (hargs:Nat.beq args.length cf.np = true) (M:Mem) (nb:Nat) {Lr:List (Nat×Bx)} {n:Nat}
  (hrun:∀ (Γ:Env),Γ.P = P→Γ.nt = cf.nt→Γ.n0 = nb→(∀ k,Γ.n0≤k→M k = none)→Tr Γ cf.body ⟨Qt4 args,Qm Γ.n0 [] M,Γ.n0 + cf.nt⟩ (FinN cf.res r Γ.n0 M Lr n)):ACalls P f args M nb r (Qm nb Lr M) (nb + n):=by
 by_cases hM:∀ k,nb≤k→M k = none
 case neg=>exact Q34 (Qi1 hcf) (by omega) hM
 by_cases hon:MOn (There M) M
 case neg=>exact ⟨Qi1 hcf,by omega,fun w g us hm h=>absurd h hon⟩
 refine Qbli hcf hM (Nat.eq_of_beq_eq_true hargs) (by omega) fun Γ hP hn ht=>?_
 have h:=hrun Γ hP ht hn (by rw [hn]; exact hM)
 rw [Q61 (by rw [hn]; exact hM),hn] at h
 refine h.mono ?_
 rintro e σ' ⟨he,r',h1,h2,h3,h4,h5,h6,h7⟩
 have hlt:∀ k,There M k→k < nb:=fun k hk=>by
  rcases Nat.lt_or_ge k nb with h | h
  ·exact h
  ·simp [There,hM k h] at hk
 have hsub:∀ k,There M k→There (Qm nb Lr M) k:=fun k hk=>by
  have:=hlt k hk
  simp only [There] at hk ⊢
  rw [Qh this]; exact hk
 refine ⟨he,r',h1,h2,fun k b hk=>?_,h3,fun k cs hk=>?_,fun k hk=>?_⟩
 ·rcases Nat.lt_or_ge k nb with hl | hge
  ·rw [Qh hl] at hk; rw [h5 k hl]; exact hk
  ·obtain ⟨t,rfl⟩ : ∃ t,k = nb + t:=⟨k - nb,by omega⟩
   rw [Qde] at hk; exact h6 t b hk
 ·rcases Nat.lt_or_ge k nb with hl | hge
  ·rw [Qh hl] at hk; exact ons_mono hsub cs (hon k cs hk)
  ·obtain ⟨t,rfl⟩ : ∃ t,k = nb + t:=⟨k - nb,by omega⟩
   rw [Qde] at hk; exact h4.at t cs hk
 ·rcases Nat.lt_or_ge k nb with hl | hge
  ·omega
  ·obtain ⟨t,rfl⟩ : ∃ t,k = nb + t:=⟨k - nb,by omega⟩
   simp only [There,Qde] at hk
   rcases Nat.lt_or_ge t n with h | h
   ·omega
   ·rw [Qbbd h7 h] at hk; cases hk
end Go.Abs
end
section
namespace Go.Abs
open Go
def Mem.puts (M:Mem):List (Nat×Bx)→Mem
 | []=>M
 | (k,b) :: l=>(Mem.puts M l).put k b
variable {M M0 M1 M2 M3:Mem} {k k' : Nat} {b b' c:Bx} {B B' : List (Nat×Bx)}
theorem pg0:M.puts ((k,b) :: B) k = some b:=by simp [Mem.puts,Mem.put]
theorem pgS (h:k≠k') (hg:M.puts B k = some b):M.puts ((k',c) :: B) k = some b:=by simp [Mem.puts,Mem.put,h,hg]
theorem ps0:(M.puts ((k,b) :: B)).put k b' = M.puts ((k,b') :: B):=by
 funext i
 simp only [Mem.puts,Mem.put]
 split <;> rfl
theorem psS (h:k≠k') (hp:(M.puts B).put k b = M.puts B'):(M.puts ((k',c) :: B)).put k b = M.puts ((k',c) :: B'):=by
 simp only [Mem.puts]
 rw [← hp]
 funext i
 simp only [Mem.put]
 by_cases h1:i = k
 ·subst h1; simp [h]
 ·simp [h1]
def Qbig (M:Mem):List (Nat×Bx)→Prop
 | []=>True
 | (k,b) :: l=>M k = some b∧Qbig M l
theorem Qbdr:∀ {B:List (Nat×Bx)},Qbig M B→M.puts B = M
 | [],_=>rfl
 | (k,b) :: l,h=>by
  rw [Mem.puts,Qbdr h.2]
  funext i
  simp only [Mem.put]
  split
  ·rename_i e; subst e; exact h.1.symm
  ·rfl
def Qbkp (n:Nat):List (Nat×Bx)→Prop
 | []=>True
 | (k,_) :: l=>k < n∧Qbkp n l
theorem Qbih {n0:Nat} (hM:∀ k,n0≤k→M k = none):∀ {B:List (Nat×Bx)},Qbkp n0 B→∀ k,n0≤k→M.puts B k = none
 | [],_,k,hk=>hM k hk
 | (j,b) :: l,h,k,hk=>by
  have h1:k≠j:=by have:=h.1; omega
  simp only [Mem.puts,Mem.put,h1,if_false]
  exact Qbih hM h.2 k hk
theorem There.puts:∀ {B:List (Nat×Bx)} {k:Nat},There M k→There (M.puts B) k
 | [],_,h=>h
 | _ :: l,_,h=>There.put (There.puts (B:=l) h)
variable {Γ:Env} {pc d nb:Nat} {os:List COp} {E:List (Nat×V)} {L L' : List (Nat×Bx)} {Q:St→Prop} {gd:Option (Nat×Bool)} {x y:Arg}
theorem Tr.puts {cc:CC} {s:Sl} {Q:Ex→St→Prop} (B:List (Nat×Bx)) (h:Qbig M0 B) (k:Tr Γ cc ⟨s,Qm Γ.n0 L (M0.puts B),nb⟩ Q):Tr Γ cc ⟨s,Qm Γ.n0 L M0,nb⟩ Q:=by
 rw [Qbdr h] at k; exact k
theorem Rn.storeB {k off n:Nat} {v:V} {cs cs' : List V} (hw:Wn E gd) (ha:x.val (look E) = .ptr k off) (hb:(y.val (look E)).dem = v) (hv:Qea v = true) (hk:k < Γ.n0) (hl:v.lt Γ.n0 = true) (hM:M1 k = some (.cells cs))
  (hn:(Nat.beq v.cells.length n && Nat.ble (off + n) cs.length) = true) (hcs:cs.take off ++ v.cells ++ cs.drop (off + n) = cs') (hp:M1.put k (.cells cs') = M2)
  (h:Rn Γ pc os ⟨look E,Qm Γ.n0 L M2,nb⟩ Q):Rn Γ pc (⟨none,.store n,[x,y],false,gd⟩ :: os) ⟨look E,Qm Γ.n0 L M1,nb⟩ Q:=by
 simp only [Bool.and_eq_true] at hn
 have h1:v.cells.length = n:=Nat.eq_of_beq_eq_true hn.1
 have h2:=Nat.le_of_ble_eq_true hn.2
 have hf:v.dem = v:=by rw [← hb]; exact Qdl _
 have ht:v.topS = v:=Q83 hf
 refine Rn.kS (v:=.und) hw ?_ (fun _=>rfl) h
 simp only [Bool.false_eq_true,if_false,List.map_cons,List.map_nil,V.dems,ha,V.dem,hb]
 simp only [Qo]
 cases v <;> first
  | (simp [Qea] at hv; done)
  | (simp only [Q9q hk hM,ht,h1,h2,decide_true,Bool.true_and,hl,Bool.or_true,if_true]; rw [hcs,Qyb hk,hp])
theorem Rn.storeOB {k u off sz:Nat} {l:List (List D)} {cs cs' : List V} (hw:Wn E gd) (ha:x.val (look E) = .ptr k off) (hb:look E u = .own sz l) (hk:k < Γ.n0) (hM:M1 k = some (.cells cs))
  (hn:Nat.ble (off + 1) cs.length = true) (hcs:cs.take off ++ [.own sz l] ++ cs.drop (off + 1) = cs') (hp:M1.put k (.cells cs') = M2)
  (h:Rn Γ pc os ⟨look ((u,.d (.lst sz l)) :: E),Qm Γ.n0 L M2,nb⟩ Q):Rn Γ pc (⟨none,.store 1,[x,.t u],true,gd⟩ :: os) ⟨look E,Qm Γ.n0 L M1,nb⟩ Q:=by
 have h2:=Nat.le_of_ble_eq_true hn
 have hm:[x,Arg.t u].map (fun x=>x.val (look E)) = [V.ptr k off,.own sz l]:=by simp only [List.map_cons,List.map_nil,ha]; rw [show (Arg.t u).val (look E) = _ from hb]
 refine Rn.kS (v:=.und) hw ?_ (fun i=>?_) h
 ·simp only [if_true,hm]
  simp only [Qo,Q9q hk hM,V.topS,V.cells,List.length_cons,List.length_nil,h2,decide_true,Bool.true_and,V.lt,Bool.or_true,if_true]
  rw [hcs,Qyb hk,hp]
 ·simp only [if_true,hm,Qbz,Q5,V.dem]
  have:x.putTo (look E) (.ptr k off) = look E:=by
   cases x with
   | c v=>rfl
   | t j =>
    simp only [Arg.val] at ha
    funext i; simp only [Arg.putTo,Sl.put]; split
    ·rename_i e; subst e; exact ha.symm
    ·rfl
  rw [this,show (Arg.t u).putTo (look E) (.d (.lst sz l)) = (look E).put u (.d (.lst sz l)) from rfl,Qdg]
theorem Rn.loadTB {k off sz:Nat} {l:List (List D)} {cs cs' : List V} (hw:Wn E gd) (ha:x.val (look E) = .ptr k off) (hk:k < Γ.n0) (hM:M1 k = some (.cells cs)) (hx:cs[off]? = some (.own sz l)) (hcs:cs.set off (.d (.lst sz l)) = cs') (hp:M1.put k (.cells cs') = M2)
  (h:Rn Γ pc os ⟨look ((d,.own sz l) :: E),Qm Γ.n0 L M2,nb⟩ Q):Rn Γ pc (⟨some d,.loadT,[x],false,gd⟩ :: os) ⟨look E,Qm Γ.n0 L M1,nb⟩ Q:=by
 refine Rn.k hw rfl rfl ?_ h
 simp only [List.map_cons,List.map_nil,V.dems,ha,V.dem,Qo,Q9q hk hM,hx,Option.map_some,V.top]
 rw [hcs,Qyb hk,hp]
theorem Rn.storeAB {α:Type} {g:α→List V} {xs ys:List α} {sz k:Nat} {i:Int} {z:α} {v:V} (hg:∀ x,(g x).length = sz) (hw:Wn E gd) (ha:x.val (look E) = .ptr k (0 + i.toNat * sz)) (hb:(y.val (look E)).dem = v) (hv:Qea v = true) (hk:k < Γ.n0) (hl:v.lt Γ.n0 = true) (hM:M1 k = some (.cells (Q2 g xs))) (hc:v.cells = g z)
  (hx:setO xs i z = some ys) (hp:M1.put k (.cells (Q2 g ys)) = M2) (h:Rn Γ pc os ⟨look E,Qm Γ.n0 L M2,nb⟩ Q):Rn Γ pc (⟨none,.store sz,[x,y],false,gd⟩ :: os) ⟨look E,Qm Γ.n0 L M1,nb⟩ Q:=by
 unfold setO at hx
 split at hx <;> cases hx
 rename_i hi
 have hl2:=Quh hg xs
 have hb2:i.toNat * sz + sz≤xs.length * sz:=by
  rw [show i.toNat * sz + sz = (i.toNat + 1) * sz from by rw [Nat.add_mul,Nat.one_mul]]
  exact Nat.mul_le_mul_right _ hi.2
 refine Rn.storeB (cs':=Q2 g (xs.set i.toNat z)) hw ha hb hv hk hl hM ?_ ?_ hp h
 ·rw [hc,hg,hl2]
  simp only [Bool.and_eq_true]
  exact ⟨by simp,Nat.ble_eq_true_of_le (by omega)⟩
 ·rw [hc,Nat.zero_add]; exact Qbdl hg z hi.2
def OkB (n0:Nat):List (Nat×Bx)→Prop
 | []=>True
 | (k,.cells cs) :: l=>(n0≤k∨V.lt.go n0 cs = true)∧OkB n0 l
 | (k,.mp ..) :: l=>OkB n0 l
theorem OkB.at {n0:Nat} {M:Mem}:∀ {B:List (Nat×Bx)},OkB n0 B→∀ k cs,k < n0→M.puts B k = some (.cells cs)→M.puts B k = M k∨V.lt.go n0 cs = true
 | [],_,_,_,_,_=>.inl rfl
 | (j,.cells ds) :: l,h,k,cs,hk,hg=>by
  by_cases e:k = j
  ·subst e
   simp only [Mem.puts,Mem.put,if_true,Option.some.injEq,Bx.cells.injEq] at hg
   subst hg
   rcases h.1 with h1 | h1
   ·omega
   ·exact .inr h1
  ·simp only [Mem.puts,Mem.put,e,if_false] at hg ⊢
   exact OkB.at h.2 k cs hk hg
 | (j,.mp ..) :: l,h,k,cs,hk,hg=>by
  by_cases e:k = j
  ·subst e
   simp only [Mem.puts,Mem.put,if_true] at hg
   cases hg
  ·simp only [Mem.puts,Mem.put,e,if_false] at hg ⊢
   exact OkB.at (B:=l) h k cs hk hg
theorem cw0:(Qm Γ.n0 L M1).puts [] = Qm Γ.n0 L M1:=rfl
theorem Qbjs {t:Nat} (h:(Qm Γ.n0 L M1).puts B = Qm Γ.n0 L' M2):(Qm Γ.n0 L M1).puts ((Γ.n0 + t,b) :: B) = Qm Γ.n0 ((t,b) :: L') M2:=by
 rw [Mem.puts,h,Qer]
theorem runW {o:COp} {f:FuncId} {args:List V} {r:V} (hw:o.wanted (look E) = some true) (hc:o.kind.isCall = true) (ha:o.callee (look E) = some (f,args)) (hC:ACalls Γ.P f args (Qm Γ.n0 L M1) nb r ((Qm Γ.n0 L M1).puts B) nb) (hB:OkB Γ.n0 B) (hp:(Qm Γ.n0 L M1).puts B = Qm Γ.n0 L' M2) (hpc:pcOf pc = 0)
  (h:Rn Γ pc os ⟨Qbb (look E) o.dst r,Qm Γ.n0 L' M2,nb⟩ Q):Rn Γ pc (o :: os) ⟨look E,Qm Γ.n0 L M1,nb⟩ Q:=by
 refine Rn.cons ?_
 unfold COp.run
 rw [hw]
 simp only [hc,if_true,ha,hpc]
 refine ⟨r,_,nb,hC,fun k hk=>There.puts hk,fun k cs hk hg=>hB.at k cs hk hg,?_⟩
 rw [hp]; exact h
theorem Rn.callW {f:FuncId} {as:List Arg} {args:List V} {r:V} (hw:Wn E gd) (ha:V.dems (as.map (·.val (look E))) = args) (hC:ACalls Γ.P f args (Qm Γ.n0 L M1) nb r ((Qm Γ.n0 L M1).puts B) nb) (hB:OkB Γ.n0 B) (hp:(Qm Γ.n0 L M1).puts B = Qm Γ.n0 L' M2) (hpc:pcOf pc = 0)
  (h:Rn Γ pc os ⟨look ((d,r) :: E),Qm Γ.n0 L' M2,nb⟩ Q):Rn Γ pc (⟨some d,.call f,as,false,gd⟩ :: os) ⟨look E,Qm Γ.n0 L M1,nb⟩ Q :=
 runW (hw.wanted _ _ _ _) rfl (by simp [COp.callee,ha]) hC hB hp hpc (by rw [show Qbb (look E) (some d) r = look ((d,r) :: E) from Qdg E d r]; exact h)
theorem Rn.storeV {t u off:Nat} {v:V} {cs cs' : List V} (hw:Wn E gd) (ha:x.val (look E) = .ptr (Γ.n0 + t) off) (hb:look E u = v) (hv:Qea v = true) (hf:v.topS = v) (hf2:v.dem = v) (hM:Qch L t = some (.cells cs))
  (hn:(Nat.beq v.cells.length 1 && Nat.ble (off + 1) cs.length) = true) (hcs:cs.take off ++ v.cells ++ cs.drop (off + 1) = cs')
  (h:Rn Γ pc os ⟨look E,Qm Γ.n0 ((t,.cells cs') :: L) M0,nb⟩ Q):Rn Γ pc (⟨none,.store 1,[x,.t u],true,gd⟩ :: os) ⟨look E,Qm Γ.n0 L M0,nb⟩ Q:=by
 simp only [Bool.and_eq_true] at hn
 have h1:v.cells.length = 1:=Nat.eq_of_beq_eq_true hn.1
 have h2:=Nat.le_of_ble_eq_true hn.2
 have hm:[x,Arg.t u].map (fun x=>x.val (look E)) = [V.ptr (Γ.n0 + t) off,v]:=by simp only [List.map_cons,List.map_nil,ha]; rw [show (Arg.t u).val (look E) = _ from hb]
 refine Rn.kS (v:=.und) hw ?_ (fun i=>?_) h
 ·simp only [if_true,hm]
  simp only [Qo]
  cases v <;> first
   | (simp [Qea] at hv; done)
   | (simp only [Qj hM,hf,h1,h2,decide_true,Bool.true_and,Nat.le_add_right,Bool.true_or,if_true]; rw [hcs,Qer])
 ·simp only [if_true,hm,Qbz,Q5,hf2]
  have:x.putTo (look E) (.ptr (Γ.n0 + t) off) = look E:=by
   cases x with
   | c v=>rfl
   | t j =>
    simp only [Arg.val] at ha
    funext i; simp only [Arg.putTo,Sl.put]; split
    ·rename_i e; subst e; exact ha.symm
    ·rfl
  have h3:(look E).put u v = look E:=by
   funext i; simp only [Sl.put]; split
   ·rename_i e; subst e; exact hb.symm
   ·rfl
  rw [this,show (Arg.t u).putTo (look E) v = (look E).put u v from rfl,h3]
def argE:List Arg→List V→List (Nat×V)→List (Nat×V)
 | .t i :: as,v :: vs,E=>argE as vs ((i,v) :: E)
 | .c _ :: as,_ :: vs,E=>argE as vs E
 | _,_,E=>E
theorem Q16:∀ (as:List Arg) (vs:List V) (E:List (Nat×V)),Q5 (look E) as vs = look (argE as vs E)
 | [],vs,E=>by cases vs <;> rfl
 | a :: as,[],E=>by cases a <;> rfl
 | .t i :: as,v :: vs,E=>by
  simp only [Q5,argE]
  rw [show (Arg.t i).putTo (look E) v = (look E).put i v from rfl,Qdg]
  exact Q16 as vs _
 | .c _ :: as,v :: vs,E=>by
  simp only [Q5,argE]
  exact Q16 as vs E
theorem Rn.buildT {as:List Arg} {z:List V} {ps:List (Nat×Nat)} {v:V} (hw:Wn E gd) (hk:Qo Γ.n0 (Γ.n0 + d) (.build z ps) (as.map (·.val (look E))) M = some (v,M))
  (h:Rn Γ pc os ⟨look ((d,v) :: argE as (V.dems (as.map (·.val (look E)))) E),M,nb⟩ Q):Rn Γ pc (⟨some d,.build z ps,as,true,gd⟩ :: os) ⟨look E,M,nb⟩ Q:=by
 refine Rn.kT hw rfl rfl hk (fun i=>?_) h
 rw [show Qbz (.build z ps) (as.map (·.val (look E))) = V.dems (as.map (·.val (look E))) from by cases as <;> rfl,Q16,Qdg]
theorem Rn.storeT {t u off n:Nat} {v:V} {ds cs cs' : List V} (hw:Wn E gd) (ha:x.val (look E) = .ptr (Γ.n0 + t) off) (hb:look E u = v) (hv:Qea v = true) (hds:v.topS.cells = ds) (hM:Qch L t = some (.cells cs))
  (hn:(Nat.beq ds.length n && Nat.ble (off + n) cs.length) = true) (hcs:cs.take off ++ ds ++ cs.drop (off + n) = cs')
  (h:Rn Γ pc os ⟨look ((u,v.dem) :: E),Qm Γ.n0 ((t,.cells cs') :: L) M0,nb⟩ Q):Rn Γ pc (⟨none,.store n,[x,.t u],true,gd⟩ :: os) ⟨look E,Qm Γ.n0 L M0,nb⟩ Q:=by
 simp only [Bool.and_eq_true] at hn
 have h1:v.topS.cells.length = n:=by rw [hds]; exact Nat.eq_of_beq_eq_true hn.1
 have h2:=Nat.le_of_ble_eq_true hn.2
 have hm:[x,Arg.t u].map (fun x=>x.val (look E)) = [V.ptr (Γ.n0 + t) off,v]:=by simp only [List.map_cons,List.map_nil,ha]; rw [show (Arg.t u).val (look E) = _ from hb]
 refine Rn.kS (v:=.und) hw ?_ (fun i=>?_) h
 ·simp only [if_true,hm]
  simp only [Qo]
  cases v <;> first
   | (simp [Qea] at hv; done)
   | (simp only [Qj hM,h1,h2,decide_true,Bool.true_and,Nat.le_add_right,Bool.true_or,if_true]; rw [hds,hcs,Qer])
 ·simp only [if_true,hm,Qbz,Q5]
  have:x.putTo (look E) (.ptr (Γ.n0 + t) off) = look E:=by
   cases x with
   | c v=>rfl
   | t j =>
    simp only [Arg.val] at ha
    funext i; simp only [Arg.putTo,Sl.put]; split
    ·rename_i e; subst e; exact ha.symm
    ·rfl
  rw [this,show (Arg.t u).putTo (look E) v.dem = (look E).put u v.dem from rfl,Qdg]
def WkB:List (Nat×Bx)→List (Nat×Bx)→Prop
 | [],[]=>True
 | (k,.cells cs) :: B,(k',.cells cs') :: B'=>(k = k' ∧ WkVs cs cs')∧WkB B B'
 | _,_=>False
theorem WkB.at {M:Mem}:∀ {B B' : List (Nat×Bx)},WkB B B' → ∀ k,M.puts B' k = M.puts B k∨∃ cs cs',M.puts B k = some (.cells cs)∧M.puts B' k = some (.cells cs')∧WkVs cs cs'
 | [],[],_,_=>.inl rfl
 | (j,.cells cs) :: B,(j',.cells cs') :: B',h,k=>by
  obtain ⟨⟨e,hw⟩,h⟩:=h
  subst e
  by_cases hk:k = j
  ·subst hk
   exact .inr ⟨cs,cs',pg0,pg0,hw⟩
  ·simp only [Mem.puts,Mem.put,hk,if_false]
   exact WkB.at h k
 | [],_ :: _,h,_=>h.elim
 | (_,.cells _) :: _,[],h,_=>h.elim
 | (_,.mp ..) :: _,[],h,_=>h.elim
 | (_,.mp ..) :: _,_ :: _,h,_=>h.elim
 | (_,.cells _) :: _,(_,.mp ..) :: _,h,_=>h.elim
def FinW (rs:List Res) (r:V) (n0:Nat) (M1:Mem):Ex→St→Prop:=fun e σ =>
 (e = .norm∨e = .ret)∧∃ r',Qv7 σ rs = some r' ∧ Wk r' r∧r.on (There M1)∧∀ k,k < n0→σ.M k = M1 k
theorem Qbme {P:Program} {f:FuncId} {cf:CFn} (hcf:Qy P f = some cf) {args:List V} {r:V} (hargs:Nat.beq args.length cf.np = true) (M M1:Mem) (nb:Nat) (hM1:(∀ k,nb≤k→M k = none)→∀ k,nb≤k→M1 k = none)
  (hrun:∀ (Γ:Env),Γ.P = P→Γ.nt = cf.nt→Γ.n0 = nb→(∀ k,Γ.n0≤k→M k = none)→Tr Γ cf.body ⟨Qt4 args,Qm Γ.n0 [] M,Γ.n0 + cf.nt⟩ (FinW cf.res r Γ.n0 M1)):ACalls P f args M nb r M1 nb:=by
 by_cases hM:∀ k,nb≤k→M k = none
 case neg=>exact Q34 (Qi1 hcf) (Nat.le_refl _) hM
 have hM1:=hM1 hM
 have hlt:∀ k,There M1 k→k < nb:=fun k hk=>by
  rcases Nat.lt_or_ge k nb with h | h
  ·exact h
  ·simp [There,hM1 k h] at hk
 refine Qbkj hcf hM (Nat.eq_of_beq_eq_true hargs) (Nat.le_refl _) fun Γ hP hn ht=>?_
 have h:=hrun Γ hP ht hn (by rw [hn]; exact hM)
 rw [Q61 (by rw [hn]; exact hM),hn] at h
 refine h.mono ?_
 rintro e σ' ⟨he,r',h1,h2,h3,h4⟩
 refine ⟨he,r',h1,h2,fun k b hk=>?_,fun _ hons _=>⟨h3,fun k cs hk=>?_,hlt⟩⟩
 ·rw [h4 k (hlt k (by simp [There,hk]))]; exact hk
 ·have hk':=hlt k (by simp [There,hk])
  have h5:=(hons k cs (by rw [h4 k hk']; exact hk)).1
  have h6:=(hons k cs (by rw [h4 k hk']; exact hk)).2 hk'
  refine ons_mono (fun j hj=>?_) cs (ons_and cs h5 h6)
  have:=hj.1
  simp only [There] at this ⊢
  rwa [h4 j hj.2] at this
theorem res0 {σ:St}:Qv7 σ [] = some (.tup []):=rfl
theorem Qbmf {n0 a b:Nat} (h:Nat.beq a b = false):n0 + a≠n0 + b:=by
 intro e
 have:a = b:=by omega
 subst this; simp at h
end Go.Abs
end
section
namespace Go.Abs
open Go
theorem Qbii {α:Type} {e:α→List D} {g:α→List V} (hg:∀ x,g x = (e x).map V.d):∀ xs:List α,Qgy (List.map e xs) 0 = Q2 g xs
 | []=>rfl
 | x :: xs=>by
  have:=Qbii hg xs
  unfold Qgy at this ⊢
  rw [Qgl,← this,hg]
  simp
theorem Qbij {α:Type} {e:α→List D} {g:α→List V} {sz:Nat} {P:Program} {c:Nat} {ex:List V} {xs ys:List α} (hg:∀ x,g x = (e x).map V.d)
  (hr:xs.length≤maxLen→∀ cap k0 M nb,M k0 = some (.cells (Qgy (List.map e xs) ((cap - xs.length) * sz)))→ACalls P c (.sl sz k0 0 xs.length cap :: ex) M nb (.tup []) (M.put k0 (.cells (Qgy (List.map e ys) ((cap - xs.length) * sz)))) nb)
  (hl:xs.length≤maxLen) {k nb:Nat} {M:Mem} (hM:M k = some (.cells (Q2 g xs))):ACalls P c (.sl sz k 0 xs.length xs.length :: ex) M nb (.tup []) (M.put k (.cells (Q2 g ys))) nb:=by
 have h:=hr hl xs.length k M nb
 rw [Nat.sub_self,Nat.zero_mul,Qbii hg,Qbii hg] at h
 exact h hM
theorem acB {P:Program} {f:FuncId} {args:List V} {M:Mem} {nb nb' : Nat} {r:V} {B B' : List (Nat×Bx)} (h:ACalls P f args M nb r (M.puts B') nb') (e:B' = B):ACalls P f args M nb r (M.puts B) nb':=e ▸ h
end Go.Abs
end
section
namespace Go.Abs
open Go
set_option maxRecDepth 10000
set_option maxHeartbeats 4000000
structure Qe where
  From:Int
  Event:Int
  To:Int
  deriving DecidableEq
def Qa (x:Qe):List D:=[.int .i64 x.From,.int .i64 x.Event,.int .i64 x.To]
abbrev Qz (x:Qe):List V:=[(i_ x.From),(i_ x.Event),(i_ x.To)]
abbrev Qb7 (x:Qe):V:=.agg (Qz x)
structure Qf where
  zJ:List Int
  zM:Int
  zK:List Int
  zL:List Qe
  deriving DecidableEq
def Qbik (x:Qf):List D:=[.lst 1 (List.map (eI .i64) x.zJ),.int .i64 x.zM,.lst 1 (List.map (eI .i64) x.zK),.lst 3 (List.map Qa x.zL)]
abbrev Qs (x:Qf):List V:=[(l_ x.zJ),(i_ x.zM),(l_ x.zK),.d (.lst 3 (List.map Qa x.zL))]
abbrev Qk (x:Qf):V:=.agg (Qs x)
structure Qb where
  zA:Qf
  zC:List Int
  zB:List Int
  zD:List Int
  Tick:Int
  deriving DecidableEq
def Qbbe (x:Qb):List D:=[.lst 1 (List.map (eI .i64) x.zA.zJ),.int .i64 x.zA.zM,.lst 1 (List.map (eI .i64) x.zA.zK),.lst 3 (List.map Qa x.zA.zL),.lst 1 (List.map (eI .i64) x.zC),.lst 1 (List.map (eI .i64) x.zB),.lst 1 (List.map (eI .i64) x.zD),.int .i64 x.Tick]
abbrev Qwe (x:Qb):List V:=[(l_ x.zA.zJ),(i_ x.zA.zM),(l_ x.zA.zK),.d (.lst 3 (List.map Qa x.zA.zL)),(l_ x.zC),(l_ x.zB),(l_ x.zD),(i_ x.Tick)]
abbrev Qbbf (x:Qb):V:=.agg (Qwe x)
structure Ql where
  zN:Qb
  from_:List (List Qe)
  left_:List Bool
  deriving DecidableEq
structure Qd where
  State:Int
  Rank:Int
  Reason:Int
  Event:Int
  deriving DecidableEq
def Qc (x:Qd):List D:=[.int .i64 x.State,.int .i64 x.Rank,.int .i64 x.Reason,.int .i64 x.Event]
abbrev Qev (x:Qd):List V:=[(i_ x.State),(i_ x.Rank),(i_ x.Reason),(i_ x.Event)]
abbrev Qh0 (x:Qd):V:=.agg (Qev x)
structure Qbs where
  Kept:List Int
  zF:List Int
  zG:List Qd
  deriving DecidableEq
def Qbgj (x:Qbs):List D:=[.lst 1 (List.map (eI .i64) x.Kept),.lst 1 (List.map (eI .i64) x.zF),.lst 4 (List.map Qc x.zG)]
abbrev Qd3 (x:Qbs):List V:=[(l_ x.Kept),(l_ x.zF),.d (.lst 4 (List.map Qc x.zG))]
abbrev Qcx (x:Qbs):V:=.agg (Qd3 x)
structure Q0 where
  zE:Qbs
  Rounds:Int
  zH:Qf
  zO:List Int
  zI:List Int
  deriving DecidableEq
def Qbcf (x:Q0):List D:=[.lst 1 (List.map (eI .i64) x.zE.Kept),.lst 1 (List.map (eI .i64) x.zE.zF),.lst 4 (List.map Qc x.zE.zG),.int .i64 x.Rounds,.lst 1 (List.map (eI .i64) x.zH.zJ),.int .i64 x.zH.zM,.lst 1 (List.map (eI .i64) x.zH.zK),.lst 3 (List.map Qa x.zH.zL),.lst 1 (List.map (eI .i64) x.zO),.lst 1 (List.map (eI .i64) x.zI)]
abbrev Qyc (x:Q0):List V:=[(l_ x.zE.Kept),(l_ x.zE.zF),.d (.lst 4 (List.map Qc x.zE.zG)),(i_ x.Rounds),(l_ x.zH.zJ),(i_ x.zH.zM),(l_ x.zH.zK),.d (.lst 3 (List.map Qa x.zH.zL)),(l_ x.zO),(l_ x.zI)]
abbrev Qbcg (x:Q0):V:=.agg (Qyc x)
structure Qbj where
  zM:Int
  Marks:Int
  To:(Int×Int×Int×Int×Int)×(Int×Int×Int×Int×Int)×(Int×Int×Int×Int×Int)×(Int×Int×Int×Int×Int)×(Int×Int×Int×Int×Int)
def Qnn (x:Qbj):List D:=[.int .u8 x.zM,.int .u8 x.Marks,.int .u8 x.To.1.1,.int .u8 x.To.1.2.1,.int .u8 x.To.1.2.2.1,.int .u8 x.To.1.2.2.2.1,.int .u8 x.To.1.2.2.2.2,.int .u8 x.To.2.1.1,.int .u8 x.To.2.1.2.1,.int .u8 x.To.2.1.2.2.1,.int .u8 x.To.2.1.2.2.2.1,.int .u8 x.To.2.1.2.2.2.2,.int .u8 x.To.2.2.1.1,.int .u8 x.To.2.2.1.2.1,.int .u8 x.To.2.2.1.2.2.1,.int .u8 x.To.2.2.1.2.2.2.1,.int .u8 x.To.2.2.1.2.2.2.2,.int .u8 x.To.2.2.2.1.1,.int .u8 x.To.2.2.2.1.2.1,.int .u8 x.To.2.2.2.1.2.2.1,.int .u8 x.To.2.2.2.1.2.2.2.1,.int .u8 x.To.2.2.2.1.2.2.2.2,.int .u8 x.To.2.2.2.2.1,.int .u8 x.To.2.2.2.2.2.1,.int .u8 x.To.2.2.2.2.2.2.1,.int .u8 x.To.2.2.2.2.2.2.2.1,.int .u8 x.To.2.2.2.2.2.2.2.2]
abbrev Q17 (x:Qbj):List V:=[.d (.int .u8 x.zM),.d (.int .u8 x.Marks),.d (.int .u8 x.To.1.1),.d (.int .u8 x.To.1.2.1),.d (.int .u8 x.To.1.2.2.1),.d (.int .u8 x.To.1.2.2.2.1),.d (.int .u8 x.To.1.2.2.2.2),.d (.int .u8 x.To.2.1.1),.d (.int .u8 x.To.2.1.2.1),.d (.int .u8 x.To.2.1.2.2.1),.d (.int .u8 x.To.2.1.2.2.2.1),.d (.int .u8 x.To.2.1.2.2.2.2),.d (.int .u8 x.To.2.2.1.1),.d (.int .u8 x.To.2.2.1.2.1),.d (.int .u8 x.To.2.2.1.2.2.1),.d (.int .u8 x.To.2.2.1.2.2.2.1),.d (.int .u8 x.To.2.2.1.2.2.2.2),.d (.int .u8 x.To.2.2.2.1.1),.d (.int .u8 x.To.2.2.2.1.2.1),.d (.int .u8 x.To.2.2.2.1.2.2.1),.d (.int .u8 x.To.2.2.2.1.2.2.2.1),.d (.int .u8 x.To.2.2.2.1.2.2.2.2),.d (.int .u8 x.To.2.2.2.2.1),.d (.int .u8 x.To.2.2.2.2.2.1),.d (.int .u8 x.To.2.2.2.2.2.2.1),.d (.int .u8 x.To.2.2.2.2.2.2.2.1),.d (.int .u8 x.To.2.2.2.2.2.2.2.2)]
abbrev Qbds (x:Qbj):V:=.agg (Q17 x)
structure Qel where
  Events:Int
  Graph:Qbj
def Qre (x:Qel):List D:=[.int .u8 x.Events,.int .u8 x.Graph.zM,.int .u8 x.Graph.Marks,.int .u8 x.Graph.To.1.1,.int .u8 x.Graph.To.1.2.1,.int .u8 x.Graph.To.1.2.2.1,.int .u8 x.Graph.To.1.2.2.2.1,.int .u8 x.Graph.To.1.2.2.2.2,.int .u8 x.Graph.To.2.1.1,.int .u8 x.Graph.To.2.1.2.1,.int .u8 x.Graph.To.2.1.2.2.1,.int .u8 x.Graph.To.2.1.2.2.2.1,.int .u8 x.Graph.To.2.1.2.2.2.2,.int .u8 x.Graph.To.2.2.1.1,.int .u8 x.Graph.To.2.2.1.2.1,.int .u8 x.Graph.To.2.2.1.2.2.1,.int .u8 x.Graph.To.2.2.1.2.2.2.1,.int .u8 x.Graph.To.2.2.1.2.2.2.2,.int .u8 x.Graph.To.2.2.2.1.1,.int .u8 x.Graph.To.2.2.2.1.2.1,.int .u8 x.Graph.To.2.2.2.1.2.2.1,.int .u8 x.Graph.To.2.2.2.1.2.2.2.1,.int .u8 x.Graph.To.2.2.2.1.2.2.2.2,.int .u8 x.Graph.To.2.2.2.2.1,.int .u8 x.Graph.To.2.2.2.2.2.1,.int .u8 x.Graph.To.2.2.2.2.2.2.1,.int .u8 x.Graph.To.2.2.2.2.2.2.2.1,.int .u8 x.Graph.To.2.2.2.2.2.2.2.2]
abbrev Q4d (x:Qel):List V:=[.d (.int .u8 x.Events),.d (.int .u8 x.Graph.zM),.d (.int .u8 x.Graph.Marks),.d (.int .u8 x.Graph.To.1.1),.d (.int .u8 x.Graph.To.1.2.1),.d (.int .u8 x.Graph.To.1.2.2.1),.d (.int .u8 x.Graph.To.1.2.2.2.1),.d (.int .u8 x.Graph.To.1.2.2.2.2),.d (.int .u8 x.Graph.To.2.1.1),.d (.int .u8 x.Graph.To.2.1.2.1),.d (.int .u8 x.Graph.To.2.1.2.2.1),.d (.int .u8 x.Graph.To.2.1.2.2.2.1),.d (.int .u8 x.Graph.To.2.1.2.2.2.2),.d (.int .u8 x.Graph.To.2.2.1.1),.d (.int .u8 x.Graph.To.2.2.1.2.1),.d (.int .u8 x.Graph.To.2.2.1.2.2.1),.d (.int .u8 x.Graph.To.2.2.1.2.2.2.1),.d (.int .u8 x.Graph.To.2.2.1.2.2.2.2),.d (.int .u8 x.Graph.To.2.2.2.1.1),.d (.int .u8 x.Graph.To.2.2.2.1.2.1),.d (.int .u8 x.Graph.To.2.2.2.1.2.2.1),.d (.int .u8 x.Graph.To.2.2.2.1.2.2.2.1),.d (.int .u8 x.Graph.To.2.2.2.1.2.2.2.2),.d (.int .u8 x.Graph.To.2.2.2.2.1),.d (.int .u8 x.Graph.To.2.2.2.2.2.1),.d (.int .u8 x.Graph.To.2.2.2.2.2.2.1),.d (.int .u8 x.Graph.To.2.2.2.2.2.2.2.1),.d (.int .u8 x.Graph.To.2.2.2.2.2.2.2.2)]
abbrev Qbeb (x:Qel):V:=.agg (Q4d x)
structure Q4 where
  Part:Qel
  zC:Int
  zB:Int
  zD:Int
def Qlu (x:Q4):List D:=[.int .u8 x.Part.Events,.int .u8 x.Part.Graph.zM,.int .u8 x.Part.Graph.Marks,.int .u8 x.Part.Graph.To.1.1,.int .u8 x.Part.Graph.To.1.2.1,.int .u8 x.Part.Graph.To.1.2.2.1,.int .u8 x.Part.Graph.To.1.2.2.2.1,.int .u8 x.Part.Graph.To.1.2.2.2.2,.int .u8 x.Part.Graph.To.2.1.1,.int .u8 x.Part.Graph.To.2.1.2.1,.int .u8 x.Part.Graph.To.2.1.2.2.1,.int .u8 x.Part.Graph.To.2.1.2.2.2.1,.int .u8 x.Part.Graph.To.2.1.2.2.2.2,.int .u8 x.Part.Graph.To.2.2.1.1,.int .u8 x.Part.Graph.To.2.2.1.2.1,.int .u8 x.Part.Graph.To.2.2.1.2.2.1,.int .u8 x.Part.Graph.To.2.2.1.2.2.2.1,.int .u8 x.Part.Graph.To.2.2.1.2.2.2.2,.int .u8 x.Part.Graph.To.2.2.2.1.1,.int .u8 x.Part.Graph.To.2.2.2.1.2.1,.int .u8 x.Part.Graph.To.2.2.2.1.2.2.1,.int .u8 x.Part.Graph.To.2.2.2.1.2.2.2.1,.int .u8 x.Part.Graph.To.2.2.2.1.2.2.2.2,.int .u8 x.Part.Graph.To.2.2.2.2.1,.int .u8 x.Part.Graph.To.2.2.2.2.2.1,.int .u8 x.Part.Graph.To.2.2.2.2.2.2.1,.int .u8 x.Part.Graph.To.2.2.2.2.2.2.2.1,.int .u8 x.Part.Graph.To.2.2.2.2.2.2.2.2,.int .u8 x.zC,.int .u8 x.zB,.int .u8 x.zD]
abbrev Qz4 (x:Q4):List V:=[.d (.int .u8 x.Part.Events),.d (.int .u8 x.Part.Graph.zM),.d (.int .u8 x.Part.Graph.Marks),.d (.int .u8 x.Part.Graph.To.1.1),.d (.int .u8 x.Part.Graph.To.1.2.1),.d (.int .u8 x.Part.Graph.To.1.2.2.1),.d (.int .u8 x.Part.Graph.To.1.2.2.2.1),.d (.int .u8 x.Part.Graph.To.1.2.2.2.2),.d (.int .u8 x.Part.Graph.To.2.1.1),.d (.int .u8 x.Part.Graph.To.2.1.2.1),.d (.int .u8 x.Part.Graph.To.2.1.2.2.1),.d (.int .u8 x.Part.Graph.To.2.1.2.2.2.1),.d (.int .u8 x.Part.Graph.To.2.1.2.2.2.2),.d (.int .u8 x.Part.Graph.To.2.2.1.1),.d (.int .u8 x.Part.Graph.To.2.2.1.2.1),.d (.int .u8 x.Part.Graph.To.2.2.1.2.2.1),.d (.int .u8 x.Part.Graph.To.2.2.1.2.2.2.1),.d (.int .u8 x.Part.Graph.To.2.2.1.2.2.2.2),.d (.int .u8 x.Part.Graph.To.2.2.2.1.1),.d (.int .u8 x.Part.Graph.To.2.2.2.1.2.1),.d (.int .u8 x.Part.Graph.To.2.2.2.1.2.2.1),.d (.int .u8 x.Part.Graph.To.2.2.2.1.2.2.2.1),.d (.int .u8 x.Part.Graph.To.2.2.2.1.2.2.2.2),.d (.int .u8 x.Part.Graph.To.2.2.2.2.1),.d (.int .u8 x.Part.Graph.To.2.2.2.2.2.1),.d (.int .u8 x.Part.Graph.To.2.2.2.2.2.2.1),.d (.int .u8 x.Part.Graph.To.2.2.2.2.2.2.2.1),.d (.int .u8 x.Part.Graph.To.2.2.2.2.2.2.2.2),.d (.int .u8 x.zC),.d (.int .u8 x.zB),.d (.int .u8 x.zD)]
abbrev Qbct (x:Q4):V:=.agg (Qz4 x)
structure Qn where
  p_:Qb
  rank_:List Int
  removals_:List Qd
  rounds_:Int
  deriving DecidableEq
end Go.Abs
end
