/-
  Part 3 of the proof: see the last text.
-/
import Derived.Test.YthlopjpofmcdmaaP2
import Derived.Sort.Grow
set_option linter.unusedVariables false
set_option linter.unusedSimpArgs false
set_option linter.unusedSectionVars false
section
namespace Go.Abs
open Go
def pl0:D→Bool
 | .int .. | .bool _ | .str _=>true
 | _=>false
def frzL (sz:Nat) (l:List (List D)):V:=if l.all fun x=>x.all pl0 then .f (.lst sz l) else .d (.lst sz l)
theorem Q9u {imm imm' : Nat→Nat→Prop} {w:World}:∀ {x:D} {u:Value},pl0 x = true→RD imm w x u→RD imm' w x u
 | .int ..,_,_,h=>by simpa [RD] using h
 | .bool _,_,_,h=>by simpa [RD] using h
 | .str _,_,_,h=>by simpa [RD] using h
 | .lst ..,_,h,_=>by cases h
theorem Q81 {p:Nat→Prop} {sz:Nat} {l:List (List D)}:(frzL sz l).on p:=by unfold frzL; split <;> trivial
theorem Q79 {sz:Nat} {l:List (List D)}:WkV (frzL sz l) (.d (.lst sz l)):=by
 unfold frzL
 split
 ·exact ⟨fun g w ℓ u h=>by
   simp only [RV] at h ⊢
   exact Qf1 ⟨fun b o h=>h.1,fun _ _ _=>rfl⟩ _ u h,fun _ _=>trivial⟩
 ·exact .same rfl
mutual
def frzV (k:Nat) (ds:List D):V→V
 | .und=>.und
 | .d x=>.d x
 | .agg cs=>.agg (frzVs k ds cs)
 | .tup cs=>.tup (frzVs k ds cs)
 | .own sz l=>.own sz l
 | .ownT sz l=>.ownT sz l
 | .ptr k' o=>if k' = k then .cref (ds.drop o) else .ptr k' o
 | .nilp=>.nilp
 | .f x=>.f x
 | .nils sz=>.nils sz
 | .cref cs=>.cref cs
 | .sl sz k' o n c=>if k' = k then (if o + n * sz≤ds.length∧n≤c then frzL sz (Qjq sz n ((ds.drop o).take (n * sz))) else .und) else .sl sz k' o n c
 | .clo f cs=>.clo f (frzVs k ds cs)
 | .mp k'=>if k' = k then .und else .mp k'
def frzVs (k:Nat) (ds:List D):List V→List V
 | []=>[]
 | v :: vs=>frzV k ds v :: frzVs k ds vs
end
theorem Qz2 (k:Nat) (ds:List D):∀ vs,frzVs k ds vs = vs.map (frzV k ds)
 | []=>rfl
 | v :: vs=>by simp [frzVs,Qz2 k ds vs]
mutual
theorem Q8a {p:Nat→Prop} (k:Nat) (ds:List D):∀ v:V,v.on p→(frzV k ds v).on fun j=>p j∧j≠k
 | .und,_=>trivial
 | .d _,_=>trivial
 | .agg cs,h=>ons_frz k ds cs h
 | .tup cs,h=>ons_frz k ds cs h
 | .own ..,_=>trivial
 | .ownT ..,_=>trivial
 | .ptr k' o,h=>by
  simp only [frzV]; split
  ·trivial
  ·rename_i hne; exact ⟨h,hne⟩
 | .nilp,_=>trivial
 | .f _,_=>trivial
 | .nils _,_=>trivial
 | .cref _,_=>trivial
 | .sl sz k' o n c,h=>by
  simp only [frzV]; split
  ·split
   ·exact Q81
   ·trivial
  ·rename_i hne; exact ⟨h,hne⟩
 | .clo _ cs,h=>ons_frz k ds cs h
 | .mp k',h=>by
  simp only [frzV]; split
  ·trivial
  ·rename_i hne; exact ⟨h,hne⟩
theorem ons_frz {p:Nat→Prop} (k:Nat) (ds:List D):∀ vs:List V,V.ons p vs→V.ons (fun j=>p j∧j≠k) (frzVs k ds vs)
 | [],_=>trivial
 | v :: vs,h=>⟨Q8a k ds v h.1,ons_frz k ds vs h.2⟩
end
theorem Q4q {imm:Nat→Nat→Prop} {w:World} {b:Nat}:∀ (j:Nat) {ds:List D} {o:Nat},RDc imm w b ds o→RDc imm w b (ds.drop j) (o + j)
 | 0,_,_,h=>h
 | j + 1,[],o,h=>by simp [RDc]
 | j + 1,d :: ds,o,h=>by
  simp only [RDc] at h
  have:=Q4q j h.2.2
  rw [show o + 1 + j = o + (j + 1) from by omega] at this
  simpa using this
def G.frz (g:G) (k n:Nat) [DecidablePred fun b=>b = g.box k]:G:=⟨g.box,fun b o=>g.imm b o∨(b = g.box k∧o < n),fun b=>if b = g.box k then .ext else g.own b⟩
section
variable {g:G} {w:World} {k:Nat} {ds:List D} (hB:g.own (g.box k) = .box k) (hD:RDc (g.frz k ds.length).imm w (g.box k) ds 0)
include hB hD
theorem Q16:Imm g.imm (g.frz k ds.length).imm w w:=⟨fun _ _ h=>.inl h,fun _ _ _=>rfl⟩
mutual
theorem Q8b:∀ (v:V) (ℓ:Owner) (u:Value),ℓ ≠ .box k→RV g w v ℓ u→RV (g.frz k ds.length) w (frzV k ds v) ℓ u
 | .und,_,_,_,_=>by simp [frzV,RV]
 | .d x,_,_,_,h=>by
  simp only [frzV,RV] at h ⊢
  exact Qf1 (Q16 hB hD) x _ h
 | .agg cs,ℓ,u,hl,h=>by
  simp only [frzV,RV] at h ⊢
  obtain ⟨vs,rfl,h,h1⟩:=h
  exact ⟨vs,rfl,RVs_frz cs ℓ 0 vs h,h1⟩
 | .tup cs,ℓ,u,hl,h=>by
  simp only [frzV,RV] at h ⊢
  obtain ⟨vs,rfl,h⟩:=h
  exact ⟨vs,rfl,RVs_frz cs ℓ 0 vs h⟩
 | .own sz l,ℓ,u,hl,h=>by
  simp only [frzV,RV] at h ⊢
  rcases h with h | ⟨b,cap,vals,e,h1,h2,h3,h4,h5,h6,h7,h8⟩
  ·exact .inl h
  ·have hne:b≠g.box k:=by rintro rfl; rw [hB] at h2; exact hl h2.symm
   refine .inr ⟨b,cap,vals,e,h1,by simp [G.frz,hne,h2],h3,h4,h5,h6,fun o=>?_,RDL_mono (Q16 hB hD) sz b l 0 h8⟩
   rw [← h7 o]
   simp [G.frz,hne]
 | .ownT sz l,ℓ,u,hl,h=>by
  simp only [frzV,RV] at h ⊢
  rcases h with h | ⟨b,o0,cap,vals,e,h1,h2,h3,h4,h5,h6,h7,h8⟩
  ·exact .inl h
  ·have hne:b≠g.box k:=by rintro rfl; rw [hB] at h2; exact hl h2.symm
   refine .inr ⟨b,o0,cap,vals,e,h1,by simp [G.frz,hne,h2],h3,h4,h5,h6,fun o=>?_,RDL_mono (Q16 hB hD) sz b l o0 h8⟩
   rw [← h7 o]
   simp [G.frz,hne]
 | .ptr k' o,ℓ,u,hl,h=>by
  simp only [frzV]
  split
  ·rename_i he
   subst he
   simp only [RV] at h ⊢
   have:=Q4q o hD
   rw [Nat.zero_add] at this
   exact ⟨_,_,h,this⟩
  ·simpa [RV,G.frz] using h
 | .nilp,_,_,_,h=>by simpa [frzV,RV] using h
 | .f x,_,u,_,h=>by
  simp only [frzV,RV] at h ⊢
  exact Qf1 (Q5l (g:=g) (g':=g.frz k ds.length) fun b o h1 h2=>⟨.inl h1,by simp only [G.frz]; split <;> first | rfl | exact h2⟩) x u h
 | .nils _,_,_,_,h=>by simpa [frzV,RV] using h
 | .cref cs,ℓ,u,hl,h=>by
  simp only [frzV,RV] at h ⊢
  obtain ⟨b,o,rfl,h⟩:=h
  exact ⟨b,o,rfl,Qxd (Q16 hB hD) b cs o h⟩
 | .sl sz k' o n c,ℓ,u,hl,h=>by
  simp only [frzV]
  split
  ·rename_i he
   subst he
   split
   ·rename_i hc
    have hlen:((ds.drop o).take (n * sz)).length = n * sz:=by simp; omega
    obtain ⟨h1,h2,h3⟩:=Qu9 n sz _ hlen
    simp only [RV] at h
    have key:∀ i x j y,(Qjq sz n ((ds.drop o).take (n * sz)))[i]? = some x→x[j]? = some y→(g.frz k' ds.length).imm (g.box k') (o + i * sz + j)∧∃ u,w.cell? ⟨g.box k',o + i * sz + j,none⟩ = some u∧RD (g.frz k' ds.length).imm w y u:=by
     intro i x j y hx hy
     have h4:=h3 i x j y hx hy
     rw [List.getElem?_take] at h4
     split at h4
     ·rw [List.getElem?_drop] at h4
      have:=Qwk hD _ y h4
      rw [show 0 + (o + (i * sz + j)) = o + i * sz + j from by omega] at this
      exact this
     ·cases h4
    unfold frzL
    split
    ·rename_i hp
     simp only [RV,RD]
     refine ⟨_,c,by rw [h1]; exact h,by rw [h1]; exact hc.2,.inr ⟨_,o,rfl,Qzf fun i x hx=>⟨h2 x (List.mem_of_getElem? hx),Qxf fun j y hy=>?_⟩⟩⟩
     obtain ⟨q1,q,q2,q3⟩:=key i x j y hx hy
     refine ⟨⟨q1,by simp [G.frz],by rw [q2]; rfl⟩,q,q2,Q9u ?_ q3⟩
     exact List.all_eq_true.1 (List.all_eq_true.1 hp x (List.mem_of_getElem? hx)) y (List.mem_of_getElem? hy)
    ·simp only [RV,RD]
     refine ⟨_,c,by rw [h1]; exact h,by rw [h1]; exact hc.2,.inr ⟨_,o,rfl,Qzf fun i x hx=>⟨h2 x (List.mem_of_getElem? hx),Qxf fun j y hy=>key i x j y hx hy⟩⟩⟩
   ·simp [RV]
  ·simpa [RV,G.frz] using h
 | .clo f cs,ℓ,u,hl,h=>by
  simp only [frzV,RV] at h ⊢
  obtain ⟨vs,rfl,h⟩:=h
  exact ⟨vs,rfl,RVs_frz cs .ext 0 vs h⟩
 | .mp k',ℓ,u,hl,h=>by
  simp only [frzV]
  split
  ·simp [RV]
  ·simpa [RV,G.frz] using h
theorem RVs_frz:∀ (cs:List V) (ℓ:Owner) (i:Nat) (us:List Value),RVs g w cs ℓ i us→RVs (g.frz k ds.length) w (frzVs k ds cs) ℓ i us
 | [],_,_,_,h=>by simpa [frzVs,RVs] using h
 | c :: cs,ℓ,i,us,h=>by
  simp only [frzVs,RVs] at h ⊢
  obtain ⟨u,us',rfl,h1,h2⟩:=h
  have hne:ℓ.sub i ≠ .box k:=by cases ℓ <;> simp [Owner.sub]
  exact ⟨u,us',rfl,Q8b c (ℓ.sub i) u hne h1,RVs_frz cs ℓ (i + 1) us' h2⟩
end
end
def PreD (cs:List V) (ds:List D):Prop:=ds.length≤cs.length∧∀ (j:Nat) v d,cs[j]? = some v→ds[j]? = some d→v.toD = some d
theorem PreD.of {cs:List V} {ds:List D} (h:toDs cs = some ds):PreD cs ds:=⟨Nat.le_of_eq (Qu8 h).1,(Qu8 h).2⟩
theorem PreD.app {cs tl:List V} {ds:List D} (h:toDs cs = some ds):PreD (cs ++ tl) ds:=by
 obtain ⟨h1,h2⟩:=Qu8 h
 refine ⟨by simp; omega,fun j v d hv hd=>?_⟩
 have:=(List.getElem?_eq_some_iff.1 hd).1
 rw [List.getElem?_append_left (by omega)] at hv
 exact h2 j v d hv hd
theorem Q6u {g:G} {w:World} {M:Mem} {nb k:Nat} {cs:List V} {ds:List D} [DecidablePred fun b=>b = g.box k] (hm:MR g w M nb) (hM:M k = some (.cells cs)) (hd:PreD cs ds):RDc (g.frz k ds.length).imm w (g.box k) ds 0:=by
 obtain ⟨hl,hg⟩:=hd
 refine Qxf fun j y hj=>?_
 have hlt:=(List.getElem?_eq_some_iff.1 hj).1
 have hc:cs[j]? = some (cs[j]'(by omega)):=List.getElem?_eq_getElem _
 obtain ⟨u,h1,h2,h3⟩:=Qxg hm hM hc
 refine ⟨.inr ⟨rfl,by omega⟩,u,by simpa using h1,?_⟩
 exact Qf1 ⟨fun _ _ h=>.inl h,fun _ _ _=>rfl⟩ y u (Qxl (hg j _ y hc hj) h2)
def Qvg (n0 k:Nat) (ds:List D) (σ:St):St :=
 {
  s:=fun t=>frzV k ds (σ.s t)
  M:=fun j=>if j = k then none else if j < n0 then σ.M j else
   match σ.M j with
   | some (.cells cs)=>some (.cells (cs.map (frzV k ds)))
   | b=>b
  nb:=σ.nb }
variable {Γ:Env} {σ:St}
open Classical in
theorem Q7t {k:Nat} {cs:List V} {ds:List D} (hk:Γ.n0≤k) (hM:σ.M k = some (.cells cs)) (hd:PreD cs ds):WeakSt Γ σ (Qvg Γ.n0 k ds σ):=by
 intro a w g hs
 have hB:g.own (g.box k) = .box k:=(hs.mem.box k _ hM).2.1
 have hD:=Q6u hs.mem hM hd
 have hsub:∀ ℓ i,ℓ≠Owner.box k→ℓ.sub i ≠ .box k:=by intro ℓ i _; cases ℓ <;> simp [Owner.sub]
 have hkept:Kept g w (g.frz k ds.length) w (fun j=>j≠k) (fun o=>o ≠ .box k):=by
  refine ⟨⟨fun _ _ h=>.inl h,fun _ _ _=>rfl⟩,fun _ _=>rfl,fun b hb _=>?_⟩
  have hne:b≠g.box k:=by rintro rfl; exact hb hB
  exact ⟨by simp [G.frz,hne],rfl,fun o=>by simp [G.frz,hne]⟩
 have hthere:∀ j,(There σ.M j∧j≠k)→There (Qvg Γ.n0 k ds σ).M j:=by
  rintro j ⟨h1,h2⟩
  simp only [There,Qvg,h2,if_false] at h1 ⊢
  split
  ·exact h1
  ·cases hj:σ.M j with
   | none=>simp [hj] at h1
   | some b=>cases b <;> rfl
 have hown:∀ j,j≠k→g.own (g.box j) = .box j→(g.frz k ds.length).own (g.box j) = .box j:=by
  intro j hj ho
  have hne:g.box j≠g.box k:=by
   intro e
   rw [e,hB] at ho
   cases ho; exact hj rfl
  simp [G.frz,hne,ho]
 refine ⟨g.frz k ds.length,⟨⟨fun j b hb=>?_,fun b o hbo=>?_⟩,fun t=>Q8b hB hD _ _ _ (by simp) (hs.slots t),hs.size,hs.defers,fun t=>Qg9 hthere _ (Q8a k ds _ (hs.onS t)),fun j cs' hb=>?_,hs.top,?_⟩⟩
 ·simp only [Qvg] at hb
  split at hb
  ·cases hb
  ·rename_i hjk
   split at hb
   ·rename_i hlt
    obtain ⟨h1,h2,h3⟩:=hs.mem.box j b hb
    refine ⟨h1,hown j hjk h2,?_⟩
    cases b with
    | mp es c =>
     obtain ⟨ents,k1,k2⟩:=h3
     exact ⟨ents,k1,Qqi (g:=g) (g':=g.frz k ds.length) hkept.imm k2⟩
    | cells cs2 =>
     obtain ⟨vals,e,k1,k2,k3⟩:=h3
     have hon:=(hs.onM j cs2 hb).2 hlt
     exact ⟨vals,e,k1,RVs_mono hkept hsub (by simp) _ _ _ _ (by intro e; cases e; exact hjk rfl) (ons_mono (fun i hi=>by omega) _ hon) k2,k3⟩
   ·split at hb
    ·rename_i hlt _ cs2 hcs
     cases hb
     obtain ⟨h1,h2,vals,e,k1,k2,k3⟩:=hs.mem.box j _ hcs
     refine ⟨h1,hown j hjk h2,vals,e,k1,?_,k3⟩
     rw [← Qz2]
     exact RVs_frz hB hD _ _ _ _ k2
    ·rename_i hne
     obtain ⟨h1,h2,h3⟩:=hs.mem.box j b hb
     cases b with
     | mp es c =>
      obtain ⟨ents,k1,k2⟩:=h3
      exact ⟨h1,hown j hjk h2,ents,k1,Qqi (g:=g) (g':=g.frz k ds.length) hkept.imm k2⟩
     | cells cs2=>exact absurd hb (hne cs2)
 ·rcases hbo with hbo | ⟨rfl,hlt⟩
  ·obtain ⟨h1,h2⟩:=hs.mem.imm b o hbo
   refine ⟨h1,fun j=>?_⟩
   simp only [G.frz]
   split
   ·simp
   ·exact h2 j
  ·refine ⟨?_,fun j=>by simp [G.frz]⟩
   obtain ⟨_,_,vals,e,k1,_,_⟩:=hs.mem.box k _ hM
   exact (Array.getElem?_eq_some_iff.1 k1).1
 ·simp only [Qvg] at hb
  split at hb
  ·cases hb
  ·rename_i hjk
   split at hb
   ·rename_i hlt
    obtain ⟨h1,h2⟩:=hs.onM j cs' hb
    refine ⟨ons_mono (fun i hi=>hthere i ⟨hi.1,?_⟩) _ (ons_and cs' h1 (h2 hlt)),h2⟩
    have:=hi.2; omega
   ·split at hb
    ·rename_i hlt _ cs2 hcs
     cases hb
     refine ⟨?_,fun h=>absurd h hlt⟩
     rw [← Qz2]
     exact ons_mono hthere _ (ons_frz k ds _ (hs.onM j cs2 hcs).1)
    ·rename_i hne; exact absurd hb (hne cs')
 ·have hf:=hs.fr
  refine ⟨hf.os,hf.tape,hf.output,hf.size,⟨fun b o h=>.inl (hf.imm.mono b o h),hf.imm.cell⟩,hf.box,fun b hb ho=>?_⟩
  obtain ⟨h1,h2,h3⟩:=hf.old b hb ho
  have hne:b≠g.box k:=by
   rintro rfl
   rw [hB] at h1
   rw [← h1] at ho
   exact ho
  exact ⟨by simp [G.frz,hne,h1],h2,fun o=>by simp [G.frz,hne,h3]⟩
def FE (f:V→V) (s:Sl):List (Nat×V)→Prop
 | []=>True
 | (t,v) :: E=>WkV (f (s t)) v∧FE f s E
theorem FE.at {f:V→V} {s:Sl}:∀ {E:List (Nat×V)},FE f s E→∀ t,WkV (f (s t)) (look E t)
 | [],_,t=>.und _
 | (u,v) :: E,h,t=>by
  simp only [look]
  cases hb:Nat.beq t u with
  | true=>have:=Nat.eq_of_beq_eq_true hb; subst this; exact h.1
  | false=>exact FE.at h.2 t
def FB (f:V→V) (t0:Nat) (L:List (Nat×Bx)):List (Nat×Bx)→Prop
 | []=>True
 | (t,.cells cs') :: L'=>(∃ cs,Qbn L t = some (.cells cs)∧Nat.beq t t0 = false∧WkVs (cs.map f) cs')∧FB f t0 L L'
 | (t,.mp es c) :: L'=>(Qbn L t = some (.mp es c)∧Nat.beq t t0 = false)∧FB f t0 L L'
theorem FB.at {f:V→V} {t0:Nat} {L:List (Nat×Bx)}:∀ {L' : List (Nat×Bx)},FB f t0 L L' → ∀ t b,Qbn L' t = some b→Nat.beq t t0 = false ∧
  ((∃ cs' cs,b = .cells cs' ∧ Qbn L t = some (.cells cs)∧WkVs (cs.map f) cs')∨∃ es c,b = .mp es c∧Qbn L t = some (.mp es c))
 | [],_,t,b,hb=>by simp [Qbn] at hb
 | (u,.cells cs') :: L',h,t,b,hb=>by
  simp only [Qbn] at hb
  cases hbe:Nat.beq t u with
  | true =>
   have:=Nat.eq_of_beq_eq_true hbe
   subst this
   rw [hbe] at hb
   simp only [cond_true,Option.some.injEq] at hb
   obtain ⟨cs,h1,h2,h3⟩:=h.1
   exact ⟨h2,.inl ⟨cs',cs,hb.symm,h1,h3⟩⟩
  | false =>
   rw [hbe] at hb
   exact FB.at h.2 t b hb
 | (u,.mp es c) :: L',h,t,b,hb=>by
  simp only [Qbn] at hb
  cases hbe:Nat.beq t u with
  | true =>
   have:=Nat.eq_of_beq_eq_true hbe
   subst this
   rw [hbe] at hb
   simp only [cond_true,Option.some.injEq] at hb
   exact ⟨h.1.2,.inr ⟨es,c,hb.symm,h.1.1⟩⟩
  | false =>
   rw [hbe] at hb
   exact FB.at h.2 t b hb
theorem Q24 (t:Nat) {E E' : List (Nat×V)} {L:List (Nat×Bx)} {L' : List (Nat×Bx)} {M0:Mem} {nb:Nat} {cs:List V} (ds:List D) (hM:Qbn L t = some (.cells cs)) (hd:PreD cs ds)
  (hE:FE (frzV (Γ.n0 + t) ds) (look E) E') (hL:FB (frzV (Γ.n0 + t) ds) t L L') (hk:(L.all fun p=>Nat.beq p.1 t || L'.any fun q=>Nat.beq p.1 q.1) = true) :
  WeakSt Γ ⟨look E,Qo Γ.n0 L M0,nb⟩ ⟨look E',Qo Γ.n0 (bxs L') M0,nb⟩:=by
 refine WeakSt.trans (Q7t (σ:=⟨look E,Qo Γ.n0 L M0,nb⟩) (k:=Γ.n0 + t) (by omega) (by show Qo Γ.n0 L M0 (Γ.n0 + t) = _; rw [Qb7]; exact hM) hd) ?_
 intro a w g hs
 have hbase:∀ k,k < Γ.n0→(Qvg Γ.n0 (Γ.n0 + t) ds ⟨look E,Qo Γ.n0 L M0,nb⟩).M k = M0 k:=by
  intro k hk
  have h1:k≠Γ.n0 + t:=by omega
  simp only [Qvg,h1,if_false,hk,if_true]
  exact Qf hk
 have hown:∀ u cs,Nat.beq u t = false→Qbn L u = some (.cells cs)→(Qvg Γ.n0 (Γ.n0 + t) ds ⟨look E,Qo Γ.n0 L M0,nb⟩).M (Γ.n0 + u) = some (.cells (cs.map (frzV (Γ.n0 + t) ds))):=by
  intro u cs h1 h2
  have h3:u≠t:=fun e=>by subst e; simp at h1
  have h4:Γ.n0 + u≠Γ.n0 + t:=by omega
  have h5:¬ Γ.n0 + u < Γ.n0:=by omega
  have h6:Qo Γ.n0 L M0 (Γ.n0 + u) = some (.cells cs):=by rw [Qb7]; exact h2
  simp only [Qvg,h4,if_false,h5,h6]
 have hownm:∀ u es c,Nat.beq u t = false→Qbn L u = some (.mp es c)→(Qvg Γ.n0 (Γ.n0 + t) ds ⟨look E,Qo Γ.n0 L M0,nb⟩).M (Γ.n0 + u) = some (.mp es c):=by
  intro u es c h1 h2
  have h3:u≠t:=fun e=>by subst e; simp at h1
  have h4:Γ.n0 + u≠Γ.n0 + t:=by omega
  have h5:¬ Γ.n0 + u < Γ.n0:=by omega
  have h6:Qo Γ.n0 L M0 (Γ.n0 + u) = some (.mp es c):=by rw [Qb7]; exact h2
  simp only [Qvg,h4,if_false,h5,h6]
 have hsplit:∀ k,k < Γ.n0∨∃ u,k = Γ.n0 + u:=fun k=>by
  rcases Nat.lt_or_ge k Γ.n0 with h | h
  ·exact .inl h
  ·exact .inr ⟨k - Γ.n0,by omega⟩
 have hthere:∀ k,There (Qvg Γ.n0 (Γ.n0 + t) ds ⟨look E,Qo Γ.n0 L M0,nb⟩).M k→There (Qo Γ.n0 (bxs L') M0) k:=by
  intro k hk'
  rcases hsplit k with h | ⟨u,rfl⟩
  ·simp only [There,hbase k h] at hk'
   simp only [There,Qf h,hk']
  ·simp only [There,Qb7]
   have h5:¬ Γ.n0 + u < Γ.n0:=by omega
   have h4:Γ.n0 + u≠Γ.n0 + t:=by
    intro e
    simp [There,Qvg,e] at hk'
   have h7:∃ b,Qbn L u = some b:=by
    cases hb:Qbn L u with
    | some b=>exact ⟨b,rfl⟩
    | none =>
     have h6:Qo Γ.n0 L M0 (Γ.n0 + u) = none:=by rw [Qb7]; exact hb
     simp only [There,Qvg,h4,if_false,h5,h6] at hk'
     cases hk'
   obtain ⟨b,hb⟩:=h7
   obtain ⟨p,hp,rfl⟩:=Qtx hb
   have:=List.all_eq_true.1 hk p hp
   rw [Bool.or_eq_true] at this
   rcases this with h8 | h8
   ·have:=Nat.eq_of_beq_eq_true h8; omega
   ·obtain ⟨q,hq,he⟩:=List.any_eq_true.1 h8
    have he:=Nat.eq_of_beq_eq_true he
    have:=Qyb hq
    rw [he]; exact this
 refine ⟨g,⟨⟨fun k b hb=>?_,hs.mem.imm⟩,fun t=>(hE.at t).rd _ _ _ _ (hs.slots t),hs.size,hs.defers,fun t=>Qg9 hthere _ ((hE.at t).on _ (hs.onS t)),fun k cs hb=>?_,hs.top,hs.fr⟩⟩
 ·rcases hsplit k with h | ⟨u,rfl⟩
  ·have hb' : (Qvg Γ.n0 (Γ.n0 + t) ds ⟨look E,Qo Γ.n0 L M0,nb⟩).M k = some b:=by rw [hbase k h]; rw [← hb]; exact (Qf h).symm
   exact hs.mem.box k b hb'
  ·have hb' : Qbn (bxs L') u = some b:=by rw [← hb]; exact Qb7.symm
   obtain ⟨h2,⟨cs',cs,rfl,h1,h3⟩ | ⟨es,c,rfl,h1⟩⟩:=hL.at u b hb'
   ·obtain ⟨k1,k2,vals,e,k3,k4,k5⟩:=hs.mem.box _ _ (hown u cs h2 h1)
    exact ⟨k1,k2,vals,e,k3,h3.rd _ _ _ _ _ k4,k5⟩
   ·exact hs.mem.box _ _ (hownm u es c h2 h1)
 ·rcases hsplit k with h | ⟨u,rfl⟩
  ·have hb' : (Qvg Γ.n0 (Γ.n0 + t) ds ⟨look E,Qo Γ.n0 L M0,nb⟩).M k = some (.cells cs):=by rw [hbase k h]; rw [← hb]; exact (Qf h).symm
   obtain ⟨k1,k2⟩:=hs.onM k cs hb'
   exact ⟨ons_mono hthere _ k1,k2⟩
  ·have hb' : Qbn (bxs L') u = some (.cells cs):=by rw [← hb]; exact Qb7.symm
   obtain ⟨h2,⟨cs',cs0,he,h1,h3⟩ | ⟨es,c,he,h1⟩⟩:=hL.at u _ hb' <;> cases he
   obtain ⟨k1,k2⟩:=hs.onM _ _ (hown u cs0 h2 h1)
   exact ⟨ons_mono hthere _ (h3.on _ k1),fun hlt=>absurd hlt (by omega)⟩
theorem Qdh (t:Nat) {E E' : List (Nat×V)} {L:List (Nat×Bx)} {L' : List (Nat×Bx)} {M0:Mem} {nb:Nat} {cs:List V} (ds:List D) (hM:Qbn L t = some (.cells cs)) (hd:toDs cs = some ds)
  (hE:FE (frzV (Γ.n0 + t) ds) (look E) E') (hL:FB (frzV (Γ.n0 + t) ds) t L L') (hk:(L.all fun p=>Nat.beq p.1 t || L'.any fun q=>Nat.beq p.1 q.1) = true) :
  WeakSt Γ ⟨look E,Qo Γ.n0 L M0,nb⟩ ⟨look E',Qo Γ.n0 (bxs L') M0,nb⟩ :=
 Q24 t ds hM (.of hd) hE hL hk
theorem fPtr {n0 t u o:Nat} {ds:List D} (h:Nat.beq u t = false):WkV (frzV (n0 + t) ds (.ptr (n0 + u) o)) (.ptr (n0 + u) o):=by
 have:¬ n0 + u = n0 + t:=by
  intro e
  have:u = t:=by omega
  subst this; simp at h
 exact .same (by simp only [frzV]; rw [if_neg this])
theorem fSlO {n0 t u sz o n c:Nat} {ds:List D} (h:Nat.beq u t = false):WkV (frzV (n0 + t) ds (.sl sz (n0 + u) o n c)) (.sl sz (n0 + u) o n c):=by
 have:¬ n0 + u = n0 + t:=by
  intro e
  have:u = t:=by omega
  subst this; simp at h
 exact .same (by simp only [frzV]; rw [if_neg this])
theorem fSl {n0 t sz o n c:Nat} {ds:List D} {l:List (List D)} (h:(Nat.ble (o + n * sz) ds.length && Nat.ble n c) = true) (hl:Qjq sz n ((ds.drop o).take (n * sz)) = l):WkV (frzV (n0 + t) ds (.sl sz (n0 + t) o n c)) (.d (.lst sz l)):=by
 simp only [Bool.and_eq_true] at h
 have h1:=Nat.le_of_ble_eq_true h.1
 have h2:=Nat.le_of_ble_eq_true h.2
 have e:frzV (n0 + t) ds (.sl sz (n0 + t) o n c) = frzL sz l:=by simp [frzV,h1,h2,hl]
 rw [e]
 exact Q79
def nilO {α R:Type} [DecidableEq R] (l:List α) (K:Bool→Option R):Option R :=
 match l with
 | []=>if K true = K false then K false else none
 | _ :: _=>K false
theorem Q6v {α R:Type} [DecidableEq R] {l:List α} {K:Bool→Option R} {r:R} (h:nilO l K = some r) (b:Bool) (hb:b = true→l.length = 0):K b = some r:=by
 cases l with
 | nil =>
  simp only [nilO] at h
  split at h
  ·rename_i he
   cases b with
   | true=>rw [he]; exact h
   | false=>exact h
  ·cases h
 | cons x l =>
  cases b with
  | true=>simp at hb
  | false=>exact h
variable {pc d nb:Nat} {os:List COp} {E:List (Nat×V)} {M:Mem} {Q:St→Prop} {gd:Option (Nat×Bool)} {a:Arg}
theorem Rn.isnil {α R:Type} [DecidableEq R] {e:α→List D} {sz:Nat} {xs:List α} {neg:Bool} {J:Bool→Option R} {r:R} (hw:Wn E gd) (ha:(a.val (look E)).dem = .d (.lst sz (xs.map e))) (h:nilO xs J = some r)
  (hk:∀ b,J b = some r→Rn Γ 9 os ⟨look ((d,.d (.bool (bif neg then !b else b))) :: E),M,nb⟩ Q):Rn Γ 9 (⟨some d,.isnil neg,[a],false,gd⟩ :: os) ⟨look E,M,nb⟩ Q:=by
 refine Rn.cons ?_
 unfold COp.run
 rw [hw.wanted]
 simp only [show (Abs.K.isnil neg).isCall = false from rfl,show (Abs.K.isnil neg).isNil = true from rfl,Bool.false_eq_true,if_false,if_true,COp.xs,List.map_cons,List.map_nil,V.dems,ha,Q0r,List.length_map,Abs.K.negNil]
 intro b hb
 have e1:∀ v,Q1 (look E) (some d) v = look ((d,v) :: E):=fun v=>Qcg E d v
 have h2:=hk b (Q6v h b hb)
 cases neg with
 | true=>exact (show Rn Γ 9 os ⟨Q1 (look E) (some d) (.d (.bool (!b))),M,nb⟩ Q from by rw [e1]; exact h2)
 | false=>exact (show Rn Γ 9 os ⟨Q1 (look E) (some d) (.d (.bool b)),M,nb⟩ Q from by rw [e1]; exact h2)
end Go.Abs
end
section
namespace Go.Abs
open Go
variable {Γ:Env} {σ:St}
def G.ow (g:G) (k n:Nat) (ℓ:Owner) [DecidablePred fun b=>b = g.box k]:G:=⟨g.box,fun b o=>g.imm b o∨(b = g.box k∧o < n),fun b=>if b = g.box k then ℓ else g.own b⟩
section
variable {g:G} {w:World} {k n:Nat} {ℓ0:Owner} (hB:g.own (g.box k) = .box k)
include hB
mutual
theorem Q9v [DecidablePred fun b=>b = g.box k]:∀ (v:V) (ℓ:Owner) (u:Value),ℓ ≠ .box k→RV g w v ℓ u→RV (g.ow k n ℓ0) w v ℓ u
 | .und,_,_,_,_=>by simp [RV]
 | .d x,_,_,_,h=>by
  simp only [RV] at h ⊢
  exact Qf1 ⟨fun _ _ h=>.inl h,fun _ _ _=>rfl⟩ x _ h
 | .agg cs,ℓ,u,hl,h=>by
  simp only [RV] at h ⊢
  obtain ⟨vs,rfl,h,h1⟩:=h
  exact ⟨vs,rfl,RVs_ow cs ℓ 0 vs h,h1⟩
 | .tup cs,ℓ,u,hl,h=>by
  simp only [RV] at h ⊢
  obtain ⟨vs,rfl,h⟩:=h
  exact ⟨vs,rfl,RVs_ow cs ℓ 0 vs h⟩
 | .own sz l,ℓ,u,hl,h=>by
  simp only [RV] at h ⊢
  rcases h with h | ⟨b,cap,vals,e,h1,h2,h3,h4,h5,h6,h7,h8⟩
  ·exact .inl h
  ·have hne:b≠g.box k:=by rintro rfl; rw [hB] at h2; exact hl h2.symm
   refine .inr ⟨b,cap,vals,e,h1,by simp [G.ow,hne,h2],h3,h4,h5,h6,fun o=>?_,RDL_mono ⟨fun _ _ h=>.inl h,fun _ _ _=>rfl⟩ sz b l 0 h8⟩
   rw [← h7 o]
   simp [G.ow,hne]
 | .ownT sz l,ℓ,u,hl,h=>by
  simp only [RV] at h ⊢
  rcases h with h | ⟨b,o0,cap,vals,e,h1,h2,h3,h4,h5,h6,h7,h8⟩
  ·exact .inl h
  ·have hne:b≠g.box k:=by rintro rfl; rw [hB] at h2; exact hl h2.symm
   refine .inr ⟨b,o0,cap,vals,e,h1,by simp [G.ow,hne,h2],h3,h4,h5,h6,fun o=>?_,RDL_mono ⟨fun _ _ h=>.inl h,fun _ _ _=>rfl⟩ sz b l o0 h8⟩
   rw [← h7 o]
   simp [G.ow,hne]
 | .ptr k' o,ℓ,u,hl,h=>by simpa [RV,G.ow] using h
 | .nilp,_,_,_,h=>by simpa [RV] using h
 | .f x,_,u,_,h=>by
  simp only [RV] at h ⊢
  refine Qf1 (Q5l (g:=g) (g':=g.ow k n ℓ0) fun b o h1 h2=>⟨.inl h1,?_⟩) x u h
  have hne:b≠g.box k:=by rintro rfl; rw [hB] at h2; cases h2
  simp [G.ow,hne,h2]
 | .nils _,_,_,_,h=>by simpa [RV] using h
 | .cref cs,ℓ,u,hl,h=>by
  simp only [RV] at h ⊢
  obtain ⟨b,o,rfl,h⟩:=h
  exact ⟨b,o,rfl,Qxd ⟨fun _ _ h=>.inl h,fun _ _ _=>rfl⟩ b cs o h⟩
 | .sl sz k' o n c,ℓ,u,hl,h=>by simpa [RV,G.ow] using h
 | .clo f cs,ℓ,u,hl,h=>by
  simp only [RV] at h ⊢
  obtain ⟨vs,rfl,h⟩:=h
  exact ⟨vs,rfl,RVs_ow cs .ext 0 vs h⟩
 | .mp k',ℓ,u,hl,h=>by simpa [RV,G.ow] using h
theorem RVs_ow [DecidablePred fun b=>b = g.box k]:∀ (cs:List V) (ℓ:Owner) (i:Nat) (us:List Value),RVs g w cs ℓ i us→RVs (g.ow k n ℓ0) w cs ℓ i us
 | [],_,_,_,h=>by simpa [RVs] using h
 | c :: cs,ℓ,i,us,h=>by
  simp only [RVs] at h ⊢
  obtain ⟨u,us',rfl,h1,h2⟩:=h
  have hne:ℓ.sub i ≠ .box k:=by cases ℓ <;> simp [Owner.sub]
  exact ⟨u,us',rfl,Q9v c (ℓ.sub i) u hne h1,RVs_ow cs ℓ (i + 1) us' h2⟩
end
end
open Classical in
theorem Q7u {t t0 sz n:Nat} {cs:List V} {ds:List D} (hM:σ.M (Γ.n0 + t) = some (.cells cs)) (hd:toDs cs = some ds) (hs0:σ.s t0 = .sl sz (Γ.n0 + t) 0 n n) (hn:(Nat.beq (n * sz) ds.length && Nat.ble n 65536) = true) :
  WeakSt Γ σ ⟨(Qjv Γ.n0 [t] σ).s.put t0 (.own sz (Qjq sz n ds)),(Qjv Γ.n0 [t] σ).M,σ.nb⟩:=by
 intro a w g hs
 simp only [Bool.and_eq_true] at hn
 have hn1:n * sz = ds.length:=Nat.eq_of_beq_eq_true hn.1
 have hn2:=Nat.le_of_ble_eq_true hn.2
 have hc:=Qza hs [t]
 have hB:g.own (g.box (Γ.n0 + t)) = .box (Γ.n0 + t):=(hs.mem.box _ _ hM).2.1
 obtain ⟨hl,hg⟩:=Qu8 hd
 have hself:Qh8 Γ.n0 [t] (Γ.n0 + t) = true:=by simp [Qh8]
 have hgone:∀ j,There (Qjv Γ.n0 [t] σ).M j→j≠Γ.n0 + t:=by
  rintro j hj rfl
  simp [There,Qjv,hself] at hj
 have hD:RDc (g.ow (Γ.n0 + t) (n * sz) (.slot t0 [])).imm w (g.box (Γ.n0 + t)) ds 0:=by
  refine Qxf fun j y hj=>?_
  have hlt:=(List.getElem?_eq_some_iff.1 hj).1
  have hcj:cs[j]? = some (cs[j]'(by omega)):=List.getElem?_eq_getElem _
  obtain ⟨u,h1,h2,h3⟩:=Qxg hs.mem hM hcj
  refine ⟨.inr ⟨rfl,by omega⟩,u,by simpa using h1,?_⟩
  exact Qf1 ⟨fun _ _ h=>.inl h,fun _ _ _=>rfl⟩ y u (Qxl (hg j _ y hcj hj) h2)
 refine ⟨g.ow (Γ.n0 + t) (n * sz) (.slot t0 []),⟨⟨fun j b hb=>?_,fun b o hbo=>?_⟩,fun i=>?_,hs.size,hs.defers,fun i=>?_,hc.onM,hs.top,?_⟩⟩
 ·have hjk:=hgone j (by simp [There,show (Qjv Γ.n0 [t] σ).M j = some b from hb])
  obtain ⟨h1,h2,h3⟩:=hc.mem.box j b hb
  have hne:g.box j≠g.box (Γ.n0 + t):=by
   intro e
   rw [e,hB] at h2
   cases h2; exact hjk rfl
  refine ⟨h1,by simp [G.ow,hne,h2],?_⟩
  cases b with
  | mp es c =>
   obtain ⟨ents,k1,k2⟩:=h3
   exact ⟨ents,k1,Qqi (g:=g) (g':=g.ow (Γ.n0 + t) (n * sz) (.slot t0 [])) ⟨fun _ _ h=>.inl h,fun _ _ _=>rfl⟩ k2⟩
  | cells cs2 =>
   obtain ⟨vals,e,k1,k2,k3⟩:=h3
   exact ⟨vals,e,k1,RVs_ow hB _ _ _ _ k2,k3⟩
 ·rcases hbo with hbo | ⟨rfl,hlt⟩
  ·obtain ⟨h1,h2⟩:=hs.mem.imm b o hbo
   refine ⟨h1,fun j=>?_⟩
   simp only [G.ow]
   split
   ·simp
   ·exact h2 j
  ·refine ⟨?_,fun j=>by simp [G.ow]⟩
   obtain ⟨_,_,vals,e,k1,_,_⟩:=hs.mem.box _ _ hM
   exact (Array.getElem?_eq_some_iff.1 k1).1
 ·simp only [Sl.put]
  split
  ·rename_i he
   subst he
   have h0:=hs.slots i
   rw [hs0] at h0
   simp only [RV] at h0 ⊢
   obtain ⟨_,_,vals,e,k1,k2,k3⟩:=hs.mem.box _ _ hM
   have hvl:=Qqh k2
   obtain ⟨q1,q2,q3⟩:=Qu9 n sz ds hn1.symm
   refine .inr ⟨g.box (Γ.n0 + t),n,vals.toArray,e,by rw [q1]; exact h0,by simp [G.ow],k1,by omega,by unfold maxLen; omega,⟨by simp; omega,fun u hu=>k3 u (by simpa using hu)⟩,fun o=>?_,Qzf fun i x hx=>⟨q2 x (List.mem_of_getElem? hx),Qxf fun j y hy=>?_⟩⟩
   ·have hno:¬ g.imm (g.box (Γ.n0 + t)) o:=fun h=>(hs.mem.imm _ _ h).2 _ hB
    simp [G.ow,hno,q1]
   ·have h4:=q3 i x j y hx hy
    have:=Qwk hD _ y h4
    rw [show 0 + (i * sz + j) = 0 + i * sz + j from by omega] at this
    exact this
  ·exact Q9v hB _ _ _ (by simp) (hc.slots i)
 ·simp only [Sl.put]
  split
  ·trivial
  ·exact hc.onS i
 ·have hf:=hs.fr
  refine ⟨hf.os,hf.tape,hf.output,hf.size,⟨fun b o h=>.inl (hf.imm.mono b o h),hf.imm.cell⟩,hf.box,fun b hb ho=>?_⟩
  obtain ⟨h1,h2,h3⟩:=hf.old b hb ho
  have hne:b≠g.box (Γ.n0 + t):=by
   rintro rfl
   rw [hB] at h1
   rw [← h1] at ho
   exact ho
  exact ⟨by simp [G.ow,hne,h1],h2,fun o=>by simp [G.ow,hne,h3]⟩
theorem Q9w (t t0:Nat) {sz n:Nat} {E E' : List (Nat×V)} {L:List (Nat×Bx)} {L' : List (Nat×Bx)} {M0:Mem} {nb:Nat} {cs:List V} (ds:List D) (hM:Qbn L t = some (.cells cs)) (hd:toDs cs = some ds) (hs0:look E t0 = .sl sz (Γ.n0 + t) 0 n n)
  (hn:(Nat.beq (n * sz) ds.length && Nat.ble n 65536) = true) {l:List (List D)} (hl:Qjq sz n ds = l) (hE:KL Γ.n0 [t] (look E) E') (hL:KB Γ.n0 [t] L L') (hk:(L.all fun p=>[t].any (Nat.beq p.1) || L'.any fun q=>Nat.beq p.1 q.1) = true) :
  WeakSt Γ ⟨look E,Qo Γ.n0 L M0,nb⟩ ⟨look ((t0,.own sz l) :: E'),Qo Γ.n0 (bxs L') M0,nb⟩:=by
 intro a w g hs
 subst hl
 have hwk:∀ i,WkV ((Qjv Γ.n0 [t] ⟨look E,Qo Γ.n0 L M0,nb⟩).s.put t0 (.own sz (Qjq sz n ds)) i) (look ((t0,.own sz (Qjq sz n ds)) :: E') i):=by
  intro i
  simp only [Sl.put,look]
  cases hb:Nat.beq i t0 with
  | true=>have:=Nat.eq_of_beq_eq_true hb; subst this; simp; exact WkV.refl _
  | false =>
   have:i≠t0:=fun e=>by subst e; simp at hb
   simp only [this,if_false,cond_false]
   exact hE.at i
 obtain ⟨g1,h1⟩:=Q7u (σ:=⟨look E,Qo Γ.n0 L M0,nb⟩) (t:=t) (t0:=t0) (by show Qo Γ.n0 L M0 (Γ.n0 + t) = _; rw [Qb7]; exact hM) hd hs0 hn a w g hs
 exact Q4p (Γ:=Γ) (sites:=[t]) (E:=E) hwk hL hk a w g1 h1
variable {pc d nb:Nat} {os:List COp} {E:List (Nat×V)} {M M0:Mem} {L:List (Nat×Bx)} {Q:St→Prop} {gd:Option (Nat×Bool)} {b:Arg} {α:Type} {e:α→List D}
theorem Rn.app0 {t u sz bytes:Nat} {ys zs:List α} {src:V} {cs:List V} (hw:Wn E gd) (ha:look E t = .sl sz (Γ.n0 + u) 0 0 0) (hM:Qbn L u = some (.cells cs)) (hb:b.val (look E) = src) (hf:src.dem = src) (hs:Qhj (Qo Γ.n0 L M0) sz src = some (ys.map e)) (hx:appO ([]:List α) ys = some zs) (hbd:(Nat.ble bytes 128 && Nat.ble 1 sz) = true)
  (h:Rn Γ pc os ⟨look ((d,.own sz (zs.map e)) :: E),Qo Γ.n0 L M0,nb⟩ Q):Rn Γ pc (⟨some d,.append sz bytes,[.t t,b],true,gd⟩ :: os) ⟨look E,Qo Γ.n0 L M0,nb⟩ Q:=by
 unfold appO at hx
 split at hx <;> cases hx
 rename_i hl
 simp only [Bool.and_eq_true] at hbd
 have h1:=Nat.le_of_ble_eq_true hbd.1
 have h2:0 < sz:=Nat.le_of_ble_eq_true hbd.2
 have hm:[Arg.t t,b].map (fun x=>x.val (look E)) = [V.sl sz (Γ.n0 + u) 0 0 0,src]:=by
  simp only [List.map_cons,List.map_nil,hb]; rw [show (Arg.t t).val (look E) = _ from ha]
 have he:Qhj (Qo Γ.n0 L M0) sz (.sl sz (Γ.n0 + u) 0 0 0) = some []:=by simp [Qhj,Qm hM,toDs,Qjq]
 refine Rn.kT hw rfl rfl (v:=.own sz (([] ++ ys).map e)) ?_ (fun i=>?_) h
 ·rw [hm]
  simp only [Qk,he,hs]
  by_cases hy:(ys.map e).length = 0
  ·have:ys = []:=by simpa using hy
   subst this
   simp
  ·simp only [hy,if_false]
   simp [h1,h2] at hl ⊢
   exact hl
 ·rw [hm]
  simp only [Qbf,hf,show (V.sl sz (Γ.n0 + u) 0 0 0).dem = .sl sz (Γ.n0 + u) 0 0 0 from rfl,Qv,show ∀ s v,(Arg.t t).putTo s v = s.put t v from fun _ _=>rfl]
  have hz:∀ (a:Arg) (v:V) (s:Sl),a.val s = v→a.putTo s v = s:=by
   intro a v s hs
   cases a with
   | c v=>rfl
   | t j =>
    simp only [Arg.val] at hs
    funext i; simp only [Arg.putTo,Sl.put]; split
    ·rename_i e; subst e; exact hs.symm
    ·rfl
  have e1:(look E).put t (.sl sz (Γ.n0 + u) 0 0 0) = look E:=hz (.t t) _ _ ha
  rw [e1,hz b src _ hb,Qcg]
end Go.Abs
namespace Go.Abs
open Go
theorem WkV.nilsO (sz:Nat):WkV (.nils sz) (.own sz []):=⟨fun g w ℓ u h=>by
 simp only [RV] at h
 simp only [RV]
 exact .inl ⟨h,trivial⟩,fun _ _=>trivial⟩
theorem WkV.nilsD (sz:Nat):WkV (.nils sz) (.d (.lst sz [])):=⟨fun g w ℓ u h=>by
 simp only [RV] at h ⊢
 obtain ⟨a,rfl⟩:=h
 simp [RD],fun _ _=>trivial⟩
theorem WkVs.rf {g:G} {w:World} {vs vs' : List V} (h:WkVs vs vs'):∀ {us:List Value},RFs g w vs us→RFs g w vs' us:=by
 induction h with
 | nil=>exact fun h=>h
 | cons h t ih =>
  rintro us ⟨u,us',e,h1,h2⟩
  exact ⟨u,us',e,fun ℓ=>h.rd _ _ _ _ (h1 ℓ),ih h2⟩
theorem ACalls.weak {P:Program} {f:FuncId} {args args' : List V} {M M' : Mem} {nb nb' : Nat} {r:V} (h:ACalls P f args' M nb r M' nb') (hw:WkVs args args') (hf:V.dems args' = args'):ACalls P f args M nb r M' nb':=by
 refine ⟨h.1,h.2.1,fun w g us hm hMon hfr hus hfl hons=>h.2.2 w g us hm hMon hfr (hw.rf hus) (fun x hx=>?_) (hw.on _ hons)⟩
 rw [← hf] at hx
 exact Qgv x hx
end Go.Abs
end
section
namespace Go.Abs
open Go
variable {α:Type}
def Q0 (g:α→List V) (xs:List α):List V:=(xs.map g).flatten
theorem Qea (g:α→List V) (x:α) (xs:List α):Q0 g (x :: xs) = g x ++ Q0 g xs:=by simp [Q0]
theorem Qty {g:α→List V} {sz:Nat} (hg:∀ x,(g x).length = sz):∀ xs:List α,(Q0 g xs).length = xs.length * sz
 | []=>by simp [Q0]
 | x :: xs=>by rw [Qea,List.length_append,hg,Qty hg xs,List.length_cons,Nat.add_mul]; omega
theorem Qyd {g:α→List V} {sz:Nat} (hg:∀ x,(g x).length = sz):∀ (xs:List α) (i:Nat),i≤xs.length→(Q0 g xs).drop (i * sz) = Q0 g (xs.drop i)
 | xs,0,_=>by simp
 | [],i + 1,h=>by simp at h
 | x :: xs,i + 1,h=>by
  rw [Qea,Nat.add_mul,Nat.add_comm,Nat.one_mul,← List.drop_drop,show (g x ++ Q0 g xs).drop sz = Q0 g xs from by rw [← hg x]; simp]
  rw [Qyd hg xs i (by simpa using h)]
  rfl
theorem Q1c {g:α→List V} {sz:Nat} (hg:∀ x,(g x).length = sz):∀ (xs:List α) (i:Nat),i≤xs.length→(Q0 g xs).take (i * sz) = Q0 g (xs.take i)
 | xs,0,_=>by simp [Q0]
 | [],i + 1,h=>by simp at h
 | x :: xs,i + 1,h=>by
  rw [Qea,Nat.add_mul,Nat.add_comm,Nat.one_mul,List.take_append,hg x]
  have h1:(g x).take (sz + i * sz) = g x:=by rw [List.take_of_length_le]; rw [hg x]; omega
  rw [h1,show sz + i * sz - sz = i * sz from by omega,Q1c hg xs i (by simpa using h),List.take_succ_cons,Qea]
theorem Q6w {g:α→List V} {sz:Nat} (hg:∀ x,(g x).length = sz) {xs:List α} {i:Nat} {x:α} (hx:xs[i]? = some x):((Q0 g xs).drop (i * sz)).take sz = g x:=by
 obtain ⟨hlt,hx⟩:=List.getElem?_eq_some_iff.1 hx
 rw [Qyd hg xs i (by omega),List.drop_eq_getElem_cons hlt,Qea,hx,← hg x]
 simp
theorem Q6x {g:α→List V} {sz:Nat} (hg:∀ x,(g x).length = sz) {xs:List α} {i:Nat} (y:α) (hi:i < xs.length):(Q0 g xs).take (i * sz) ++ g y ++ (Q0 g xs).drop (i * sz + sz) = Q0 g (xs.set i y):=by
 rw [Q1c hg xs i (by omega),show i * sz + sz = (i + 1) * sz from by rw [Nat.add_mul,Nat.one_mul],Qyd hg xs (i + 1) (by omega)]
 rw [List.set_eq_take_append_cons_drop,if_pos hi]
 simp [Q0]
theorem Q6y (g:α→List V) (x:α) (n:Nat):Q0 g (List.replicate n x) = rep n (g x):=by simp [Q0,rep]
def mkO (n:Int) (x:α):Option (List α):=if 0≤n∧n≤lim then some (List.replicate n.toNat x) else none
def inO (len:Nat) (i:Int):Option Unit:=if 0≤i∧i < len then some () else none
def setO (l:List α) (i:Int) (y:α):Option (List α):=if 0≤i∧i.toNat < l.length then some (l.set i.toNat y) else none
variable {Γ:Env} {pc d nb:Nat} {os:List COp} {E:List (Nat×V)} {M M0:Mem} {L:List (Nat×Bx)} {Q:St→Prop} {gd:Option (Nat×Bool)} {a b:Arg} {g:α→List V} {xs:List α} {sz:Nat}
theorem Rn.makes {bytes:Nat} {z:List V} {n:Int} {x:α} (hw:Wn E gd) (ha:a.val (look E) = .d (.int .i64 n)) (hb:b.val (look E) = .d (.int .i64 n)) (hf:(Qbn L d).isNone = true) (hz:g x = z) (hc:(Nat.ble bytes 128 && Nat.beq z.length sz && Nat.ble 1 sz) = true) (hx:mkO n x = some xs)
  (h:Rn Γ pc os ⟨look ((d,.sl sz (Γ.n0 + d) 0 n.toNat n.toNat) :: E),Qo Γ.n0 ((d,.cells (Q0 g xs)) :: L) M0,nb⟩ Q):Rn Γ pc (⟨some d,.makes sz bytes z,[a,b],false,gd⟩ :: os) ⟨look E,Qo Γ.n0 L M0,nb⟩ Q:=by
 unfold mkO at hx
 split at hx <;> cases hx
 rename_i hn
 simp only [Bool.and_eq_true] at hc
 have h1:=Nat.le_of_ble_eq_true hc.1.1
 have h2:z.length = sz:=Nat.eq_of_beq_eq_true hc.1.2
 have h3:0 < sz:=Nat.le_of_ble_eq_true hc.2
 refine Rn.k hw rfl rfl ?_ h
 simp only [List.map_cons,List.map_nil,V.dems,ha,hb,V.dem,Qk]
 have hfr:=Qno (Γ:=Γ) (M0:=M0) hf
 rw [if_pos (by simp [hn.1,hn.2,h1,h2,h3,hfr]),Qdg,Q6y,hz]
theorem Rn.idxA {k len cap:Nat} {kk:IntKind} {i:Int} (hw:Wn E gd) (ha:(a.val (look E)).dem = .sl sz k 0 len cap) (hb:b.val (look E) = .d (.int kk i)) (hx:inO len i = some ()) (h:Rn Γ pc os ⟨look ((d,.ptr k (0 + i.toNat * sz)) :: E),M,nb⟩ Q) :
  Rn Γ pc (⟨some d,.idx sz,[a,b],false,gd⟩ :: os) ⟨look E,M,nb⟩ Q:=by
 unfold inO at hx
 split at hx <;> cases hx
 rename_i hc
 refine Rn.k hw rfl rfl ?_ h
 simp [ha,hb,V.dems,V.dem,Qk,hc.1,hc.2]
theorem Rn.lenA {k off len cap:Nat} (hw:Wn E gd) (ha:(a.val (look E)).dem = .sl sz k off len cap) (h:Rn Γ pc os ⟨look ((d,.d (.int .i64 len)) :: E),M,nb⟩ Q):Rn Γ pc (⟨some d,.len,[a],false,gd⟩ :: os) ⟨look E,M,nb⟩ Q:=by
 refine Rn.k hw rfl rfl ?_ h
 simp [ha,V.dems,Qk]
theorem Rn.loadA {k f n:Nat} {ag:Bool} {i:Int} {x:α} {v:V} (hg:∀ x,(g x).length = sz) (hw:Wn E gd) (ha:a.val (look E) = .ptr k (0 + i.toNat * sz + f)) (hM:M k = some (.cells (Q0 g xs))) (hx:getO xs i = some x) (hn:Nat.ble (f + max n 1) sz = true)
  (hv:(if ag then some (.agg (V.dems (((g x).drop f).take n))) else ((g x)[f]?).map (·.dem)) = some v) (h:Rn Γ pc os ⟨look ((d,v) :: E),M,nb⟩ Q):Rn Γ pc (⟨some d,.load ag n,[a],false,gd⟩ :: os) ⟨look E,M,nb⟩ Q:=by
 have hn:=Nat.le_of_ble_eq_true hn
 unfold getO at hx
 split at hx <;> try (cases hx; done)
 obtain ⟨hlt,hx'⟩:=List.getElem?_eq_some_iff.1 hx
 have hl:=Qty hg xs
 have hge:=Q6w hg hx
 have hb:i.toNat * sz + sz≤xs.length * sz:=by
  rw [show i.toNat * sz + sz = (i.toNat + 1) * sz from by rw [Nat.add_mul,Nat.one_mul]]
  exact Nat.mul_le_mul_right _ hlt
 refine Rn.k hw rfl rfl ?_ h
 simp only [List.map_cons,List.map_nil,V.dems,ha,V.dem,Qk,hM]
 rw [if_pos (by rw [hl]; omega)]
 have hdrop:(Q0 g xs).drop (0 + i.toNat * sz + f) = ((Q0 g xs).drop (i.toNat * sz)).drop f:=by rw [List.drop_drop]; congr 1; omega
 cases ag with
 | true =>
  simp only [if_true,Option.some.injEq] at hv ⊢
  rw [← hv,← hge,hdrop,List.drop_take,List.take_take]
  have:min n (sz - f) = n:=by omega
  rw [this]
 | false =>
  simp only [Bool.false_eq_true,if_false] at hv ⊢
  have:(Q0 g xs)[0 + i.toNat * sz + f]? = (g x)[f]?:=by
   rw [← hge,List.getElem?_take,if_pos (by omega),List.getElem?_drop]
   congr 1; omega
  rw [this]
  rw [Option.map_eq_some_iff] at hv
  obtain ⟨y,hy,rfl⟩:=hv
  rw [hy]; rfl
theorem Rn.storeA {t:Nat} {i:Int} {y:α} {ys:List α} {v:V} (hg:∀ x,(g x).length = sz) (hw:Wn E gd) (ha:a.val (look E) = .ptr (Γ.n0 + t) (0 + i.toNat * sz)) (hb:(b.val (look E)).dem = v) (hv:Qdc v = true) (hM:Qbn L t = some (.cells (Q0 g xs))) (hc:v.cells = g y)
  (hx:setO xs i y = some ys) (h:Rn Γ pc os ⟨look E,Qo Γ.n0 ((t,.cells (Q0 g ys)) :: L) M0,nb⟩ Q):Rn Γ pc (⟨none,.store sz,[a,b],false,gd⟩ :: os) ⟨look E,Qo Γ.n0 L M0,nb⟩ Q:=by
 unfold setO at hx
 split at hx <;> cases hx
 rename_i hi
 have hl:=Qty hg xs
 have hb2:i.toNat * sz + sz≤xs.length * sz:=by
  rw [show i.toNat * sz + sz = (i.toNat + 1) * sz from by rw [Nat.add_mul,Nat.one_mul]]
  exact Nat.mul_le_mul_right _ hi.2
 refine Rn.store (cs':=Q0 g (xs.set i.toNat y)) hw ha hb hv hM ?_ ?_ h
 ·rw [hc,hg,hl]
  simp only [Bool.and_eq_true]
  exact ⟨by simp,Nat.ble_eq_true_of_le (by omega)⟩
 ·rw [hc,Nat.zero_add]; exact Q6x hg y hi.2
theorem Qw {f:V→V} (h:∀ x,(g x).map f = g x):WkVs ((Q0 g xs).map f) (Q0 g xs):=by
 refine .same ?_
 unfold Q0
 rw [List.map_flatten,List.map_map]
 congr 1
 exact List.map_congr_left fun x _=>h x
def lenO (l:List α) (n:Nat):Option Unit:=if l.length = n then some () else none
theorem Qeo {l:List α} {n:Nat} (h:lenO l n = some ()):l.length = n:=by
 unfold lenO at h
 split at h
 ·assumption
 ·cases h
theorem Qz3:∀ {a b:List V} {x y:List D},toDs a = some x→toDs b = some y→toDs (a ++ b) = some (x ++ y)
 | [],b,x,y,h,k=>by simp [toDs] at h; subst h; simpa using k
 | v :: a,b,x,y,h,k=>by
  simp only [toDs] at h
  split at h <;> try (cases h; done)
  rename_i d ds hd hds
  cases h
  simp only [List.cons_append,toDs,hd,Qz3 hds k]
theorem Qye {e:α→List D} (h:∀ x,toDs (g x) = some (e x)):∀ xs:List α,toDs (Q0 g xs) = some ((xs.map e).flatten)
 | []=>rfl
 | x :: xs=>by rw [Qea,List.map_cons,List.flatten_cons]; exact Qz3 (h x) (Qye h xs)
theorem Qz4 {e:α→List D} {sz:Nat} (h:∀ x,(e x).length = sz):∀ xs:List α,Qjq sz xs.length ((xs.map e).flatten) = xs.map e
 | []=>rfl
 | x :: xs=>by
  simp only [List.length_cons,Qjq,List.map_cons,List.flatten_cons]
  have h1:(e x ++ (xs.map e).flatten).take sz = e x:=by rw [← h x]; simp
  have h2:(e x ++ (xs.map e).flatten).drop sz = (xs.map e).flatten:=by rw [← h x]; simp
  rw [h1,h2,Qz4 h xs]
theorem Qz5 {e:α→List D} {sz:Nat} (h:∀ x,(e x).length = sz):∀ xs:List α,((xs.map e).flatten).length = xs.length * sz
 | []=>by simp
 | x :: xs=>by simp only [List.map_cons,List.flatten_cons,List.length_append,h,Qz5 h xs,List.length_cons,Nat.add_mul]; omega
theorem fSlA {n0 t n:Nat} {e:α→List D} {xs:List α} (h:∀ x,(e x).length = sz) (hn:xs.length = n):WkV (frzV (n0 + t) ((xs.map e).flatten) (.sl sz (n0 + t) 0 n n)) (.d (.lst sz (xs.map e))):=by
 subst hn
 have h1:=Qz5 h xs
 have h2:((xs.map e).flatten.drop 0).take (xs.length * sz) = (xs.map e).flatten:=by rw [List.drop_zero,List.take_of_length_le (by omega)]
 simp only [frzV,if_true]
 rw [if_pos ⟨by omega,Nat.le_refl _⟩,h2,Qz4 h xs]
 exact Q79
end Go.Abs
end
section
namespace Go.Abs
open Go
def Q25:D→Bool
 | .lst _ l=>l.isEmpty
 | _=>true
def Qyf (l:List (List D)):Bool:=l.all fun x=>x.all Q25
def Qz6:V→Bool
 | .d x=>Q25 x
 | .own _ l=>Qyf l
 | .ownT _ l=>Qyf l
 | .cref cs=>cs.isEmpty
 | .agg cs=>go cs
 | .tup vs=>go vs
 | .clo _ vs=>go vs
 | _=>true
where go:List V→Bool
 | []=>true
 | v :: vs=>Qz6 v && go vs
theorem Q7v {imm imm' : Nat→Nat→Prop} {w:World} {x:D} {u:Value} (hp:Q25 x = true) (h:RD imm w x u):RD imm' w x u:=by
 cases x with
 | int k n=>simpa [RD] using h
 | bool b=>simpa [RD] using h
 | str s=>simpa [RD] using h
 | lst sz l =>
  simp only [Q25,List.isEmpty_iff] at hp
  subst hp
  simp only [RD] at h ⊢
  obtain ⟨a,cap,h1,h2,_⟩:=h
  exact ⟨a,cap,h1,h2,.inl trivial⟩
theorem Q26 {imm imm' : Nat→Nat→Prop} {w:World} {b:Nat} (hi:∀ o,imm b o→imm' b o):∀ {xs:List D} {o:Nat},xs.all Q25 = true→RDc imm w b xs o→RDc imm' w b xs o
 | [],_,_,_=>by simp [RDc]
 | x :: xs,o,hp,h=>by
  simp only [List.all_cons,Bool.and_eq_true] at hp
  simp only [RDc] at h ⊢
  obtain ⟨h1,⟨u,h2,h3⟩,h4⟩:=h
  exact ⟨hi _ h1,⟨u,h2,Q7v hp.1 h3⟩,Q26 hi hp.2 h4⟩
theorem Q27 {imm imm' : Nat→Nat→Prop} {w:World} {sz b:Nat} (hi:∀ o,imm b o→imm' b o):∀ {l:List (List D)} {o:Nat},Qyf l = true→RDL imm w sz b l o→RDL imm' w sz b l o
 | [],_,_,_=>by simp [RDL]
 | x :: l,o,hp,h=>by
  simp only [Qyf,List.all_cons,Bool.and_eq_true] at hp
  simp only [RDL] at h ⊢
  exact ⟨h.1,Q26 hi hp.1 h.2.1,Q27 hi (by simpa [Qyf] using hp.2) h.2.2⟩
section
variable {g:G} {w:World} {b κ:Nat} {keep:Owner→Prop} (hB:¬ keep (g.own b)) (hs:∀ ℓ i,keep ℓ→keep (ℓ.sub i)) (he:keep .ext)
include hB hs he
end
variable {Γ:Env} {σ:St}
def Qf3 (l:List (List D)) (room:Nat):List V:=l.flatten.map V.d ++ List.replicate room .und
structure Lone (Γ:Env):Prop where
 prot:∀ b,Prot (Γ.g0.own b)
 imm:∀ b o,Γ.g0.imm b o→b < Γ.w0.heap.size
theorem Lone.old {Γ:Env} (h:Lone Γ) {g:G} {w:World} (hf:Fr Γ.n0 Γ.g0 Γ.w0 g w) {b:Nat} (hb:¬ Prot (g.own b)):¬ b < Γ.w0.heap.size:=by
 intro hlt
 obtain ⟨h1,_,_⟩:=hf.old b hlt (h.prot b)
 rw [h1] at hb
 exact hb (h.prot b)
end Go.Abs
end
section
namespace Go.Abs
open Go Go.Sort
def D.val:D→Value
 | .int k n=>.int k n
 | .bool b=>.bool b
 | .str s=>.string s
 | .lst _ _=>.slice none 0 0
def D.scalar:D→Bool
 | .lst _ _=>false
 | _=>true
theorem Q8c {imm:Nat→Nat→Prop} {w:World} {x:D} {u:Value} (hs:x.scalar = true):RD imm w x u↔u = x.val:=by
 cases x <;> simp [RD,D.val,D.scalar] at hs ⊢
theorem Q82 {x:D} (hs:x.scalar = true):x.val.oneCell' = true:=by cases x <;> simp [D.scalar,D.val] at hs ⊢ <;> rfl
def rowV {α:Type} (e:α→List D) (xs:List α):List Value:=(xs.map e).flatten.map D.val
theorem Q3y (w:World) (n blk:Nat) (F:Array Value) (os:Array Obj) {c:Array Value} {e:TypeId} (h:w.heap[blk]? = some (.cells c e (0,0))):(grow (putRow id (Sort.ahead w n) blk 0 F) os).heap[blk]? = some (.cells (putCells id 0 F c) e (0,0)):=by
 have hlt:blk < w.heap.size:=(Array.getElem?_eq_some_iff.1 h).1
 have hsz:(putRow id (Sort.ahead w n) blk 0 F).heap.size = w.heap.size:=by simp [putRow,mapBlock,Sort.ahead]
 rw [heap_grow_old _ _ (by rw [hsz]; exact hlt)]
 show (w.heap.modify blk (onCells (putCells id 0 F)))[blk]? = _
 rw [Array.getElem?_modify,if_pos rfl,h]
 rfl
theorem Qyg (w:World) (n blk:Nat) (F:Array Value) (os:Array Obj) {b:Nat} (hb:b≠blk) (hlt:b < w.heap.size):(grow (putRow id (Sort.ahead w n) blk 0 F) os).heap[b]? = w.heap[b]?:=by
 have hsz:(putRow id (Sort.ahead w n) blk 0 F).heap.size = w.heap.size:=by simp [putRow,mapBlock,Sort.ahead]
 rw [heap_grow_old _ _ (by rw [hsz]; exact hlt)]
 show (w.heap.modify blk (onCells (putCells id 0 F)))[b]? = _
 rw [Array.getElem?_modify,if_neg (Ne.symm hb)]
def Q9x {α:Type} (P:Program) (f:FuncId) (e:α→List D) (ex:Array Value) (srt:List α→List α):Prop :=
 ∀ (blk cap:Nat) (xs:List α) (w:World),(∀ j,j < (rowV e xs).length→w.cell? ⟨blk,j,none⟩ = (rowV e xs)[j]? ∧ w.frozen? ⟨blk,j,none⟩ = false)→blk < w.heap.size→xs.length < 4611686018427387904 →
  Calls P f (#[.slice (some ⟨blk,0,none⟩) xs.length cap] ++ ex) w fun e' w'=>e' = .returned (.tuple #[])∧∃ n os,w' = grow (putRow id (Sort.ahead w n) blk 0 (rowV e (srt xs)).toArray) os
theorem Q17 {α:Type} {e:α→List D} {sz:Nat} (hlen:∀ x,(e x).length = sz) (xs:List α):(rowV e xs).length = xs.length * sz:=by
 simp only [rowV,List.length_map]
 induction xs with
 | nil=>simp
 | cons x xs ih=>simp [hlen,ih,Nat.add_mul]; omega
theorem Q5a {α:Type} {P:Program} {f:FuncId} {e:α→List D} {sz:Nat} (hlen:∀ x,(e x).length = sz) (hsc:∀ x,(e x).all D.scalar = true) {srt:List α→List α} (hsl:∀ xs,(srt xs).length = xs.length)
  {ex:Array Value} {exV:List V} (hex:∀ g w us,RFs g w exV us→us = ex.toList) (hb:Qjx P f = true) (hK:Q9x P f e ex srt)
  (xs:List α) (c k0:Nat) (M:Mem) (nb:Nat) (hM:M k0 = some (.cells (Qf3 (xs.map e) ((c - xs.length) * sz)))) (hsz:xs.length < 4611686018427387904) :
  ACalls P f (.sl sz k0 0 xs.length c :: exV) M nb (.tup []) (M.put k0 (.cells (Qf3 ((srt xs).map e) ((c - xs.length) * sz)))) nb:=by
 refine ⟨hb,Nat.le_refl _,fun w g us hm hMon hfresh hus hfl hons=>?_⟩
 obtain ⟨u0,us',rfl,hu0,hus'⟩:=hus
 have h0:=Q1o.1 hu0
 subst h0
 have h1:=hex _ _ _ hus'
 obtain ⟨hk0,hown,vals,et,hh,hrv,hone⟩:=hm.box k0 _ hM
 have hlt:g.box k0 < w.heap.size:=(Array.getElem?_eq_some_iff.1 hh).1
 obtain ⟨hvl,hvr⟩:=(Qb5 _ _ _ _).1 hrv
 have hscf:∀ (l:List α),∀ y∈(l.map e).flatten,y.scalar = true:=by
  intro l y hy
  obtain ⟨r,hr,hy⟩:=List.mem_flatten.1 hy
  obtain ⟨x,_,rfl⟩:=List.mem_map.1 hr
  exact List.all_eq_true.1 (hsc x) y hy
 have hfl' : ∀ l:List α,(l.map e).flatten.length = l.length * sz:=fun l=>by have:=Q17 hlen l; rw [rowV,List.length_map] at this; exact this
 have hcell:∀ j,j < (rowV e xs).length→vals[j]? = (rowV e xs)[j]?:=by
  intro j hj
  rw [Q17 hlen] at hj
  have hjf:j < (xs.map e).flatten.length:=by rw [hfl']; exact hj
  have hjv:j < vals.length:=by
   rw [hvl]; simp only [Qf3,List.length_append,List.length_map]; omega
  have hc:(Qf3 (xs.map e) ((c - xs.length) * sz))[j]? = some (.d (xs.map e).flatten[j]):=by
   simp only [Qf3]
   rw [List.getElem?_append_left (by rw [List.length_map]; exact hjf),List.getElem?_map,List.getElem?_eq_getElem hjf]; rfl
  have:=hvr j _ _ hc (List.getElem?_eq_getElem hjv)
  simp only [RV] at this
  rw [Q8c (hscf xs _ (List.getElem_mem hjf))] at this
  rw [List.getElem?_eq_getElem hjv,this]
  simp only [rowV,List.getElem?_map,List.getElem?_eq_getElem hjf,Option.map_some]
 have hcall:=hK (g.box k0) c xs w (fun j hj=>⟨by rw [← hcell j hj]; simp [World.cell?,hh],by simp [World.frozen?,hh]⟩) hlt hsz
 have hus2:(Value.slice (some ⟨g.box k0,0,none⟩) xs.length c :: us').toArray = #[.slice (some ⟨g.box k0,0,none⟩) xs.length c] ++ ex:=by
  rw [h1]; apply Array.ext'; simp
 rw [hus2]
 refine hcall.mono ?_
 rintro e' w' ⟨rfl,n,os,rfl⟩
 generalize hF:(rowV e (srt xs)).toArray = F
 have hFs:F.size = xs.length * sz:=by rw [← hF]; simp [Q17 hlen,hsl]
 have hblk:=Q3y w n (g.box k0) F os hh
 have hoth:∀ b,b≠g.box k0→b < w.heap.size→(grow (putRow id (Sort.ahead w n) (g.box k0) 0 F) os).heap[b]? = w.heap[b]?:=fun b hb hlt=>Qyg w n _ F os hb hlt
 have hsize:w.heap.size≤(grow (putRow id (Sort.ahead w n) (g.box k0) 0 F) os).heap.size:=by
  simp [putRow,mapBlock,Sort.ahead]
 generalize hw' : grow (putRow id (Sort.ahead w n) (g.box k0) 0 F) os = w' at hblk hoth hsize
 have himm:Imm g.imm g.imm w w':=by
  refine ⟨fun _ _ h=>h,fun b o h=>?_⟩
  obtain ⟨k1,k2⟩:=hm.imm b o h
  have hne:b≠g.box k0:=by rintro rfl; exact k2 k0 hown
  simp only [World.cell?,hoth b hne k1]
 have hkept:Kept g w g w' (There M) (fun o=>o ≠ .box k0):=⟨himm,fun _ _=>rfl,fun b hb hl=>⟨rfl,hoth b (by rintro rfl; exact hb hown) hl,fun _=>Iff.rfl⟩⟩
 have hsub:∀ (o:Owner) i,o ≠ .box k0→o.sub i ≠ .box k0:=by intro o i _; cases o <;> simp [Owner.sub]
 have hnew:∀ p:Nat→Prop,V.ons p (Qf3 ((srt xs).map e) ((c - xs.length) * sz)):=by
  intro p
  rw [Qha]
  intro v hv
  simp only [Qf3,List.mem_append,List.mem_map,List.mem_replicate] at hv
  rcases hv with ⟨x,_,rfl⟩ | ⟨_,rfl⟩ <;> trivial
 refine ⟨_,g,rfl,⟨fun k b hk=>?_,fun b o h=>⟨Nat.lt_of_lt_of_le (hm.imm b o h).1 hsize,(hm.imm b o h).2⟩⟩,⟨[],rfl,rfl⟩,trivial,fun k cs hk=>?_,?_⟩
 ·by_cases hkk:k = k0
  ·subst hkk
   rw [Qoo] at hk; cases hk
   refine ⟨hk0,hown,(putCells id 0 F vals.toArray).toList,et,by simpa using hblk,(Qb5 _ _ _ _).2 ⟨?_,fun j cc x hc hx=>?_⟩,fun x hx=>?_⟩
   ·have e1:(Qf3 (xs.map e) ((c - xs.length) * sz)).length = xs.length * sz + (c - xs.length) * sz:=by
     simp only [Qf3,List.length_append,List.length_map,List.length_replicate,hfl']
    have e2:(Qf3 ((srt xs).map e) ((c - xs.length) * sz)).length = xs.length * sz + (c - xs.length) * sz:=by
     simp only [Qf3,List.length_append,List.length_map,List.length_replicate,hfl',hsl]
    rw [e2,← e1,← hvl]
    simp [putCells]
   ·have hx' : (putCells id 0 F vals.toArray)[j]? = some x:=by simpa using hx
    simp only [putCells,Array.getElem?_mapIdx,List.getElem?_toArray,Option.map_eq_some_iff] at hx'
    obtain ⟨y,hy,rfl⟩:=hx'
    simp only [Qf3] at hc
    by_cases hj:j < ((srt xs).map e).flatten.length
    ·rw [List.getElem?_append_left (by rw [List.length_map]; exact hj),List.getElem?_map,List.getElem?_eq_getElem hj,Option.map_some,Option.some.injEq] at hc
     subst hc
     rw [hfl',hsl] at hj
     have hjF:j < F.size:=by rw [hFs]; exact hj
     rw [if_pos ⟨Nat.zero_le _,by omega⟩]
     have hj2:j < ((srt xs).map e).flatten.length:=by rw [hfl',hsl]; exact hj
     simp only [RV]
     rw [Q8c (hscf (srt xs) _ (List.getElem_mem hj2))]
     simp only [Nat.sub_zero,id]
     rw [getElem!_pos F j hjF]
     subst hF
     simp only [rowV,List.getElem_toArray,List.getElem_map]
    ·rw [List.getElem?_append_right (by rw [List.length_map]; omega)] at hc
     have:cc = .und:=(List.mem_replicate.1 (List.mem_of_getElem? hc)).2
     subst this; simp [RV]
   ·obtain ⟨j,hj⟩:=List.getElem?_of_mem hx
    have hx' : (putCells id 0 F vals.toArray)[j]? = some x:=by simpa using hj
    simp only [putCells,Array.getElem?_mapIdx,List.getElem?_toArray,Option.map_eq_some_iff] at hx'
    obtain ⟨y,hy,rfl⟩:=hx'
    split
    ·rename_i hr
     have hjF:j - 0 < F.size:=by omega
     simp only [id]
     rw [getElem!_pos F _ hjF]
     subst hF
     simp only [rowV,List.getElem_toArray,List.getElem_map]
     exact Q82 (hscf (srt xs) _ (List.getElem_mem _))
    ·exact hone y (List.mem_of_getElem? hy)
  ·rw [Qc5 _ _ hkk] at hk
   obtain ⟨k1,k2,k3⟩:=hm.box k b hk
   cases b with
   | mp es c =>
    obtain ⟨ents,q1,q2⟩:=k3
    have hne:g.box k≠g.box k0:=by
     intro h; rw [h,hown] at k2; cases k2; exact hkk rfl
    exact ⟨k1,k2,ents,(hoth _ hne (Array.getElem?_eq_some_iff.1 q1).1).trans q1,Qqi (g:=g) (g':=g) hkept.imm q2⟩
   | cells cs =>
    obtain ⟨vals2,e2,q1,q2,q3⟩:=k3
    have hne:g.box k≠g.box k0:=by
     intro h; rw [h,hown] at k2; cases k2; exact hkk rfl
    refine ⟨k1,k2,vals2,e2,(hoth _ hne (Array.getElem?_eq_some_iff.1 q1).1).trans q1,?_,q3⟩
    exact RVs_mono hkept hsub (by simp) cs (.box k) 0 vals2 (by simpa using hkk) (hMon k cs hk) q2
 ·by_cases hkk:k = k0
  ·subst hkk
   rw [Qoo] at hk; cases hk
   exact hnew _
  ·rw [Qc5 _ _ hkk] at hk
   exact ons_mono (fun j hj=>There.put hj) _ (hMon k cs hk)
 ·refine ⟨by rw [← hw']; rfl,by rw [← hw']; rfl,by rw [← hw']; rfl,hsize,himm,fun _ _=>rfl,fun b hb ho=>⟨rfl,hoth b ?_ hb,fun _=>Iff.rfl⟩⟩
  rintro rfl
  rw [hown] at ho
  exact ho
end Go.Abs
end
section
namespace Go.Abs
open Go
variable {Γ:Env} {σ:St} {α:Type}
section
variable {g:G} {w:World} (hx:∀ b,g.own b = .ext)
include hx
end
open Classical in
theorem ACalls.frz {P:Program} {f:FuncId} {args:List V} {M M' : Mem} {nb nb' sz:Nat} {l:List (List D)} (h:ACalls P f args M nb (.own sz l) M' nb') (hpl:Qyf l = true):ACalls P f args M nb (.f (.lst sz l)) M' nb':=by
 obtain ⟨h1,h2,h3⟩:=h
 refine ⟨h1,h2,fun w g us k1 k2 k3 k4 k5 k6=>(h3 w g us k1 k2 k3 k4 k5 k6).mono ?_⟩
 rintro e w' ⟨v,g',rfl,hm,hv,_,hon,hf⟩
 let g2:G:=⟨g'.box,g'.imm,fun b=>if g'.own b = .res [] then .ext else g'.own b⟩
 have hown:∀ b,g'.own b ≠ .res []→g2.own b = g'.own b:=fun b hb=>by simp [g2,hb]
 have hkept:Kept g' w' g2 w' (fun _=>True) (fun o=>o ≠ .res []):=⟨⟨fun _ _ h=>h,fun _ _ _=>rfl⟩,fun _ _=>rfl,fun b hb _=>⟨hown b hb,rfl,fun _=>Iff.rfl⟩⟩
 have hsub:∀ (o:Owner) i,o ≠ .res []→o.sub i ≠ .res []:=by intro o i _; cases o <;> simp [Owner.sub]
 refine ⟨v,g2,rfl,⟨fun k b hk=>?_,fun b o hb=>?_⟩,?_,trivial,hon,?_⟩
 ·obtain ⟨q1,q2,q3⟩:=hm.box k b hk
  refine ⟨q1,(hown _ (by rw [q2]; simp)).trans q2,?_⟩
  cases b with
  | mp es c =>
   obtain ⟨ents,p1,p2⟩:=q3
   exact ⟨ents,p1,Qqi (g:=g') (g':=g2) hkept.imm p2⟩
  | cells cs =>
   obtain ⟨vals,e,p1,p2,p3⟩:=q3
   exact ⟨vals,e,p1,RVs_mono hkept hsub (by simp) cs (.box k) 0 vals (by simp) (by rw [Qha]; intro v _; exact Q3w v) p2,p3⟩
 ·obtain ⟨q1,q2⟩:=hm.imm b o hb
  refine ⟨q1,fun k=>?_⟩
  simp only [g2]
  split
  ·simp
  ·exact q2 k
 ·have hrd:=Qhh hv
  simp only [RV] at hv ⊢
  rcases hv with ⟨⟨a,rfl⟩,rfl⟩ | ⟨b,cap,vals,e,rfl,hb,hh,h4,h5,h6,h7,h8⟩
  ·simp only [RD]; exact ⟨a,0,rfl,Nat.le_refl _,.inl trivial⟩
  ·simp only [RD]
   refine ⟨_,cap,rfl,h4,.inr ⟨b,0,rfl,?_⟩⟩
   have h9:=RDL_strong sz b l 0 h8
   exact Q27 (fun o ho=>⟨ho.1,by simp [g2,hb],ho.2⟩) hpl h9
 ·refine ⟨hf.os,hf.tape,hf.output,hf.size,hf.imm,hf.box,fun b hb ho=>?_⟩
  obtain ⟨q1,q2,q3⟩:=hf.old b hb ho
  exact ⟨(hown b (by rw [q1]; intro e; rw [e] at ho; exact ho)).trans q1,q2,q3⟩
def PL:List (Nat×V)→Prop
 | []=>True
 | (_,v) :: E=>Qz6 v = true∧PL E
theorem PL.at:∀ {E:List (Nat×V)},PL E→∀ t,Qz6 (look E t) = true
 | [],_,t=>rfl
 | (u,v) :: E,h,t=>by
  simp only [look]
  cases hb:Nat.beq t u with
  | true=>exact h.1
  | false=>exact PL.at h.2 t
def PV:List V→Prop
 | []=>True
 | v :: vs=>Qz6 v = true∧PV vs
theorem PV.go:∀ {vs:List V},PV vs→Qz6.go vs = true
 | [],_=>rfl
 | v :: vs,h=>by simp only [Qz6.go,Bool.and_eq_true]; exact ⟨h.1,PV.go h.2⟩
def PB (t0 i:Nat):List (Nat×Bx)→Prop
 | []=>True
 | (t,.cells cs) :: L=>PV (bif Nat.beq t t0 then cs.set i .und else cs)∧PB t0 i L
 | (_,.mp ..) :: _=>False
theorem PB.at {t0 i:Nat}:∀ {L:List (Nat×Bx)},PB t0 i L→∀ t cs,Qbn L t = some (.cells cs)→Qz6.go (if t = t0 then cs.set i .und else cs) = true
 | [],_,t,cs,h=>by cases h
 | (u,.cells ds) :: L,hp,t,cs,h=>by
  simp only [Qbn] at h
  cases hb:Nat.beq t u with
  | true =>
   have:=Nat.eq_of_beq_eq_true hb; subst this
   rw [hb] at h; cases h
   have:=hp.1.go
   by_cases ht:t = t0
   ·subst ht; rw [show Nat.beq t t = true from by simp] at this; rw [if_pos rfl]; exact this
   ·have hf:Nat.beq t t0 = false:=by
     cases hq:Nat.beq t t0 with
     | false=>rfl
     | true=>exact absurd (Nat.eq_of_beq_eq_true hq) ht
    rw [hf] at this; rw [if_neg ht]; exact this
  | false=>rw [hb] at h; exact PB.at hp.2 t cs h
 | (u,.mp ..) :: L,hp,t,cs,h=>hp.elim
def RowK (P:Program) (c:Nat) (e:α→List D) (sz:Nat) (ex:List V) (f:List α→Option (List α)):Prop :=
 ∀ xs ys,f xs = some ys→ys.length = xs.length∧(xs = []→ys = xs∧∀ M nb,ACalls P c (.d (.lst sz (List.map e xs)) :: ex) M nb (.tup []) M nb) ∧
  (xs.length≤maxLen→∀ cap k0 M nb,M k0 = some (.cells (Qf3 (List.map e xs) ((cap - xs.length) * sz)))→ACalls P c (.sl sz k0 0 xs.length cap :: ex) M nb (.tup []) (M.put k0 (.cells (Qf3 (List.map e ys) ((cap - xs.length) * sz)))) nb)
section
variable {pc d nb:Nat} {os:List COp} {E:List (Nat×V)} {M0:Mem} {L:List (Nat×Bx)} {Q:St→Prop} {gd:Option (Nat×Bool)}
theorem Rn.callRow {f:FuncId} {as:List Arg} {args:List V} {r:V} {t:Nat} {cs cs' : List V} (hw:Wn E gd) (ha:V.dems (as.map (·.val (look E))) = args) (ht:Qbn L t = some (.cells cs)) (hC:∀ M,M (Γ.n0 + t) = some (.cells cs)→ACalls Γ.P f args M nb r (M.put (Γ.n0 + t) (.cells cs')) nb)
  (hpc:pcOf pc = 0) (h:Rn Γ pc os ⟨look ((d,r) :: E),Qo Γ.n0 ((t,.cells cs') :: L) M0,nb⟩ Q):Rn Γ pc (⟨some d,.call f,as,false,gd⟩ :: os) ⟨look E,Qo Γ.n0 L M0,nb⟩ Q:=by
 refine Rn.cons ?_
 unfold COp.run
 rw [hw.wanted]
 simp only [show (K.call f).isCall = true from rfl,if_true,COp.callee,ha]
 rw [hpc]
 refine ⟨r,(Qo Γ.n0 L M0).put (Γ.n0 + t) (.cells cs'),nb,hC _ (by rw [Qb7]; exact ht),fun k hk=>?_,fun k cs2 hk hM=>.inl ?_,?_⟩
 ·simp only [Mem.put]; split
  ·rfl
  ·exact hk
 ·rw [Qc5 _ _ (by omega)]
 ·rw [show Q1 (look E) (some d) r = look ((d,r) :: E) from Qcg E d r,Qdg]
  exact h
end
end Go.Abs
end
section
namespace Go.Abs
open Go
variable {κ β:Type} [BEq κ]
def mapE (ek:κ→V) (ev:β→V):Nat→List (κ×β)→List (V×V×Nat)
 | _,[]=>[]
 | i,(k,v) :: m=>(ek k,ev v,i) :: mapE ek ev (i + 1) m
def idxS (m:List (κ×β)) (k:κ):Nat:=match m with
 | []=>0
 | (k',_) :: m=>if k == k' then 0 else idxS m k + 1
def hasM (m:List (κ×β)) (k:κ):Bool:=m.any fun p=>k == p.1
def getM (m:List (κ×β)) (k:κ) (z:β):β:=match m with
 | []=>z
 | (k',v) :: m=>if k == k' then v else getM m k z
def setM (m:List (κ×β)) (k:κ) (v:β):List (κ×β):=match m with
 | []=>[(k,v)]
 | (k',v') :: m=>if k == k' then (k,v) :: m else (k',v') :: setM m k v
def putM (m:List (κ×β)) (i:Nat) (v:β):List (κ×β):=m.modify i fun p=>(p.1,v)
theorem Q6z {k k' : κ} {v:β} {m:List (κ×β)}:hasM ((k',v) :: m) k = ((k == k') || hasM m k):=rfl
theorem Qz7 {ek:κ→V} {ev:β→V}:∀ (i:Nat) (m:List (κ×β)),(mapE ek ev i m).length = m.length
 | _,[]=>rfl
 | i,_ :: m=>by simp [mapE,Qz7 (i + 1) m]
theorem Q18 {ek:κ→V} {ev:β→V}:∀ (i j:Nat) (m:List (κ×β)),(mapE ek ev i m)[j]? = (m[j]?).map fun p=>(ek p.1,ev p.2,i + j)
 | _,j,[]=>by simp [mapE]
 | i,0,_ :: m=>by simp [mapE]
 | i,j + 1,_ :: m=>by
  simp only [mapE,List.getElem?_cons_succ,Q18 (i + 1) j m]
  rw [show i + 1 + j = i + (j + 1) from by omega]
theorem Qwq {ek:κ→V} {ev:β→V}:∀ (i:Nat) (m n:List (κ×β)),mapE ek ev i (m ++ n) = mapE ek ev i m ++ mapE ek ev (i + m.length) n
 | _,[],n=>by simp [mapE]
 | i,(k,v) :: m,n=>by simp [mapE,Qwq (i + 1) m n]; congr 1; omega
theorem Qxs {ek:κ→V} {ev:β→V} {kd:MK} (hk:∀ a,kd.ok (ek a) = true):∀ (i:Nat) (m:List (κ×β)),kd.all (mapE ek ev i m) = true
 | _,[]=>rfl
 | i,(k,v) :: m=>by
  have:=Qxs (ev:=ev) hk (i + 1) m
  simp only [MK.all] at *
  simp [mapE,hk,this]
section
variable {ek:κ→V} {ev:β→V} (hs:∀ a b,Qgu (ek a) (ek b) = (a == b))
include hs
theorem Qtz {k:κ}:∀ (i:Nat) (m:List (κ×β)) (z:β),Qni (ek k) (mapE ek ev i m) = if hasM m k then some (idxS m k,ev (getM m k z)) else none
 | _,[],z=>rfl
 | i,(k',v) :: m,z=>by
  simp only [mapE,Qni,hs,Qtz (i + 1) m z,Q6z,idxS,getM]
  by_cases hb:(k == k') = true
  ·simp [hb]
  ·simp only [hb,Bool.false_eq_true,if_false,Bool.false_or]
   by_cases hq:hasM m k = true
   ·rw [if_pos hq,if_pos hq]; rfl
   ·rw [if_neg hq,if_neg hq]; rfl
omit hs in
theorem Q60 {k:κ}:∀ {m:List (κ×β)},hasM m k = true→idxS m k < m.length
 | [],h=>by cases h
 | (k',v) :: m,h=>by
  simp only [idxS,hasM,List.any_cons] at *
  cases hb:(k == k') with
  | true=>simp
  | false =>
   rw [hb] at h
   have:=Q60 (m:=m) (by simpa [hasM] using h)
   simp; exact this
omit hs in
theorem Q28 {k:κ}:∀ {m:List (κ×β)},hasM m k = false→idxS m k = m.length
 | [],h=>rfl
 | (k',v) :: m,h=>by
  simp only [hasM,List.any_cons,Bool.or_eq_false_iff] at h
  simp only [idxS,h.1,Bool.false_eq_true,if_false,List.length_cons]
  rw [Q28 (m:=m) h.2]
omit hs in
theorem Qz8 {k:κ} {v:β}:∀ {m:List (κ×β)},hasM m k = false→setM m k v = m ++ [(k,v)]
 | [],h=>rfl
 | (k',v') :: m,h=>by
  simp only [hasM,List.any_cons,Bool.or_eq_false_iff] at h
  simp only [setM,h.1,Bool.false_eq_true,if_false,List.cons_append]
  rw [Qz8 (m:=m) h.2]
omit hs in
theorem Q19 {k:κ} {v:β}:∀ (i:Nat) {m:List (κ×β)},hasM m k = true→modM (ek k) (ev v) (idxS m k) (mapE ek ev i m) = mapE ek ev i (setM m k v)
 | _,[],h=>by cases h
 | i,(k',v') :: m,h=>by
  simp only [idxS,setM,mapE,hasM,List.any_cons] at *
  cases hb:(k == k') with
  | true=>simp [modM,mapE]
  | false =>
   rw [hb] at h
   simp only [Bool.false_eq_true,if_false,modM,mapE]
   rw [Q19 (i + 1) (by simpa [hasM] using h)]
omit hs in
theorem Qwr {k:κ} {v:β}:∀ {m:List (κ×β)},hasM m k = true→(setM m k v).length = m.length
 | [],h=>by cases h
 | (k',v') :: m,h=>by
  simp only [setM,hasM,List.any_cons] at *
  cases hb:(k == k') with
  | true=>simp
  | false =>
   rw [hb] at h
   simp [Qwr (m:=m) (by simpa [hasM] using h)]
omit hs in
theorem Q61 {v:β}:∀ (i j:Nat) {m:List (κ×β)} {p:κ×β},m[j]? = some p→modM (ek p.1) (ev v) j (mapE ek ev i m) = mapE ek ev i (putM m j v)
 | i,0,q :: m,p,h=>by simp at h; subst h; simp [putM,mapE,modM]
 | i,j + 1,q :: m,p,h=>by
  simp at h
  have:=Q61 (v:=v) (i + 1) j h
  simp only [putM,mapE,modM,List.modify_succ_cons] at *
  rw [this]
 | i,j,[],p,h=>by simp at h
omit hs in
theorem Q29:∀ (i j:Nat) (m:List (κ×β)),j < m.length→Q0k ((i + j:Nat):Int) (mapE ek ev i m) = some j
 | i,j,[],h=>by simp at h
 | i,0,_ :: m,h=>by simp [mapE,Q0k]
 | i,j + 1,_ :: m,h=>by
  have:=Q29 (i + 1) j m (by simpa using h)
  simp only [mapE,Q0k]
  have hne:((i:Int) == ((i + (j + 1):Nat):Int)) = false:=by simp; omega
  rw [hne,show i + (j + 1) = i + 1 + j from by omega,this]; rfl
end
variable {Γ:Env} {pc d nb:Nat} {os:List COp} {E:List (Nat×V)} {M M' M0:Mem} {L:List (Nat×Bx)} {Q:St→Prop} {gd:Option (Nat×Bool)} {a b c:Arg} {ek:κ→V} {ev:β→V} {m:List (κ×β)}
theorem Rn.k0 {k:K} {as:List Arg} {v:V} (hw:Wn E gd) (hc:k.isCall = false) (hn:k.isNil = false) (hk:Qk Γ.n0 (Γ.n0 + 0) k (V.dems (as.map (·.val (look E)))) M = some (v,M'))
  (h:Rn Γ pc os ⟨look E,M',nb⟩ Q):Rn Γ pc (⟨none,k,as,false,gd⟩ :: os) ⟨look E,M,nb⟩ Q:=by
 refine Rn.cons ?_
 unfold COp.run
 rw [hw.wanted]
 simp only [hc,hn,Bool.false_eq_true,if_false,COp.step,COp.xs,Option.getD_none,hk,Q1]
 exact h
theorem Rn.mkmap (hw:Wn E gd) (hf:(Qbn L d).isNone = true) (ek:κ→V) (ev:β→V) (h:Rn Γ pc os ⟨look ((d,.mp (Γ.n0 + d)) :: E),Qo Γ.n0 ((d,.mp (mapE ek ev 0 []) 0) :: L) M0,nb⟩ Q) :
  Rn Γ pc (⟨some d,.mkmap,[],false,gd⟩ :: os) ⟨look E,Qo Γ.n0 L M0,nb⟩ Q:=by
 refine Rn.k hw rfl rfl ?_ h
 simp only [List.map_nil,V.dems,Qk]
 rw [if_pos (by simp [Qno (Γ:=Γ) (M0:=M0) hf]),Qdg]; rfl
theorem Rn.lenm {t:Nat} (hw:Wn E gd) (ha:a.val (look E) = .mp (Γ.n0 + t)) (hM:Qbn L t = some (.mp (mapE ek ev 0 m) m.length)) (h:Rn Γ pc os ⟨look ((d,.d (.int .i64 m.length)) :: E),Qo Γ.n0 L M0,nb⟩ Q) :
  Rn Γ pc (⟨some d,.lenm,[a],false,gd⟩ :: os) ⟨look E,Qo Γ.n0 L M0,nb⟩ Q:=by
 refine Rn.k hw rfl rfl ?_ h
 simp only [List.map_cons,List.map_nil,V.dems,ha,V.dem,Qk,Qm hM,Qz7]
section
variable (hs:∀ a b,Qgu (ek a) (ek b) = (a == b)) {kd:MK} (hk:∀ a,kd.ok (ek a) = true) (hv:∀ b,(ev b).dat = true)
include hs hk hv
theorem Rn.lookup {t:Nat} {z:V} {k:κ} (zb:β) (hz:ev zb = z) (hw:Wn E gd) (ha:a.val (look E) = .mp (Γ.n0 + t)) (hb:(b.val (look E)).dem = ek k) (hM:Qbn L t = some (.mp (mapE ek ev 0 m) m.length))
  (h:Rn Γ pc os ⟨look ((d,ev (getM m k zb)) :: E),Qo Γ.n0 L M0,nb⟩ Q):Rn Γ pc (⟨some d,.lookup kd false z,[a,b],false,gd⟩ :: os) ⟨look E,Qo Γ.n0 L M0,nb⟩ Q:=by
 subst hz
 refine Rn.k hw rfl rfl ?_ h
 simp only [List.map_cons,List.map_nil,V.dems,ha,hb,V.dem,Qk,Qm hM,hk,Qxs hk,Bool.and_self,if_true,Qtz hs 0 m zb]
 cases hh:hasM m k with
 | true=>simp [hv]
 | false =>
  have:getM m k zb = zb:=by
   clear hM h
   induction m with
   | nil=>rfl
   | cons p m ih =>
    simp only [hasM,List.any_cons,Bool.or_eq_false_iff] at hh
    simp only [getM,hh.1,Bool.false_eq_true,if_false]
    exact ih hh.2
  simp [hv,this]
theorem Rn.lookupC {t:Nat} {z:V} {k:κ} (zb:β) (hz:ev zb = z) (hw:Wn E gd) (ha:a.val (look E) = .mp (Γ.n0 + t)) (hb:(b.val (look E)).dem = ek k) (hM:Qbn L t = some (.mp (mapE ek ev 0 m) m.length))
  (h:Rn Γ pc os ⟨look ((d,.tup [ev (getM m k zb),.d (.bool (hasM m k))]) :: E),Qo Γ.n0 L M0,nb⟩ Q):Rn Γ pc (⟨some d,.lookup kd true z,[a,b],false,gd⟩ :: os) ⟨look E,Qo Γ.n0 L M0,nb⟩ Q:=by
 subst hz
 refine Rn.k hw rfl rfl ?_ h
 simp only [List.map_cons,List.map_nil,V.dems,ha,hb,V.dem,Qk,Qm hM,hk,Qxs hk,Bool.and_self,if_true,Qtz hs 0 m zb]
 cases hh:hasM m k with
 | true=>simp [hv]
 | false =>
  have:getM m k zb = zb:=by
   clear hM h
   induction m with
   | nil=>rfl
   | cons p m ih =>
    simp only [hasM,List.any_cons,Bool.or_eq_false_iff] at hh
    simp only [getM,hh.1,Bool.false_eq_true,if_false]
    exact ih hh.2
  simp [hv,this]
theorem Rn.mapset {t:Nat} {k:κ} {v:β} (hw:Wn E gd) (ha:a.val (look E) = .mp (Γ.n0 + t)) (hb:(b.val (look E)).dem = ek k) (hc:Qvf (c.val (look E)).dem = ev v) (hcd:(c.val (look E)).dem.dat = true) (hM:Qbn L t = some (.mp (mapE ek ev 0 m) m.length))
  (h:Rn Γ pc os ⟨look E,Qo Γ.n0 ((t,.mp (mapE ek ev 0 (setM m k v)) (setM m k v).length) :: L) M0,nb⟩ Q):Rn Γ pc (⟨none,.mapset kd,[a,b,c],false,gd⟩ :: os) ⟨look E,Qo Γ.n0 L M0,nb⟩ Q:=by
 refine Rn.k0 (v:=.und) hw rfl rfl ?_ h
 simp only [List.map_cons,List.map_nil,V.dems,ha,hb,hc,V.dem,Qk,Qm hM,hk,hcd,Qxs hk,Bool.and_self,if_true]
 rw [Qtz hs 0 m v,← Qdg]
 cases hh:hasM m k with
 | true=>simp only [if_true]; rw [Q19 0 hh,Qwr hh]
 | false =>
  simp only [Bool.false_eq_true,if_false]
  rw [Qz8 hh,Qwq]
  simp [mapE]
theorem Rn.mapentry {t:Nat} {z:V} {k:κ} (zb:β) (hz:ev zb = z) (hw:Wn E gd) (ha:a.val (look E) = .mp (Γ.n0 + t)) (hb:(b.val (look E)).dem = ek k) (hM:Qbn L t = some (.mp (mapE ek ev 0 m) m.length))
  (h:Rn Γ pc os ⟨look ((d,.tup [ev (getM m k zb),.d (.int .i64 (idxS m k))]) :: E),Qo Γ.n0 ((t,.mp (mapE ek ev 0 (setM m k (getM m k zb))) (setM m k (getM m k zb)).length) :: L) M0,nb⟩ Q):Rn Γ pc (⟨some d,.mapentry kd z,[a,b],false,gd⟩ :: os) ⟨look E,Qo Γ.n0 L M0,nb⟩ Q:=by
 subst hz
 refine Rn.k hw rfl rfl ?_ h
 simp only [List.map_cons,List.map_nil,V.dems,ha,hb,V.dem,Qk,Qm hM,hk,hv,Qxs hk,Bool.and_self,if_true,Qtz hs 0 m zb]
 rw [← Qdg]
 cases hh:hasM m k with
 | true =>
  have hlt:=Q60 hh
  simp only [if_true,hv,Q18,List.getElem?_eq_getElem hlt,Option.map_some,Nat.zero_add]
  rw [Q19 0 hh,Qwr hh]
 | false =>
  have:getM m k zb = zb:=by
   clear hM h
   induction m with
   | nil=>rfl
   | cons p m ih =>
    simp only [hasM,List.any_cons,Bool.or_eq_false_iff] at hh
    simp only [getM,hh.1,Bool.false_eq_true,if_false]
    exact ih hh.2
  simp only [Bool.false_eq_true,if_false]
  rw [this,Qz8 hh,Qwq,Q28 hh]
  simp [mapE]
omit hs hk in
theorem Rn.entrystore {t i:Nat} {v:β} (hi:i < m.length) (hw:Wn E gd) (ha:a.val (look E) = .mp (Γ.n0 + t)) (hb:b.val (look E) = .d (.int .i64 (i:Int))) (hc:Qvf (c.val (look E)).dem = ev v) (hcd:(c.val (look E)).dem.dat = true) (hM:Qbn L t = some (.mp (mapE ek ev 0 m) m.length))
  (h:Rn Γ pc os ⟨look E,Qo Γ.n0 ((t,.mp (mapE ek ev 0 (putM m i v)) (putM m i v).length) :: L) M0,nb⟩ Q):Rn Γ pc (⟨none,.entrystore,[a,b,c],false,gd⟩ :: os) ⟨look E,Qo Γ.n0 L M0,nb⟩ Q:=by
 refine Rn.k0 (v:=.und) hw rfl rfl ?_ h
 have hbn:=Q29 (ek:=ek) (ev:=ev) 0 i m hi
 rw [Nat.zero_add] at hbn
 simp only [List.map_cons,List.map_nil,V.dems,ha,hb,hc,V.dem,Qk,Qm hM,hcd,if_true,hbn,Q18,List.getElem?_eq_getElem hi,Option.map_some]
 rw [← Qdg,Q61 0 i (List.getElem?_eq_getElem hi)]
 simp [putM]
end
theorem kMp {n0 t:Nat} {sites:List Nat} (h:sites.any (fun u=>Nat.beq t u) = false):WkV (Qcl (Qh8 n0 sites) (.mp (n0 + t))) (.mp (n0 + t)):=by
 refine .same ?_
 simp [Qcl,Qqm,h]
end Go.Abs
end
section
namespace Go.Abs
open Go
abbrev oo (d:Nat) (k:K) (as:List Arg):COp:=⟨some d,k,as,false,none⟩
abbrev oM (d a:Nat):COp:=⟨some d,.mov,[.t a],false,none⟩
abbrev oL (d a:Nat):COp:=⟨some d,.load false 1,[.t a],false,none⟩
abbrev oF (d n a:Nat):COp:=⟨some d,.fld n,[.t a],false,none⟩
abbrev cI (n:Int):Arg:=.c (.d (.int .i64 n))
abbrev ot (d:Nat) (k:K) (as:List Arg):COp:=⟨some d,k,as,true,none⟩
universe u
variable {α:Type u} {Γ:Env} {pc d nb:Nat} {os:List COp} {E:List (Nat×V)} {M:Mem} {Q:St→Prop} {gd:Option (Nat×Bool)} {a b:Arg} {sz:Nat}
theorem Rn.lit {bytes:Nat} {xs:List α} {e:α→List D} {ls:List (List D)} (hw:Wn E gd) (hl:xs.map e = ls) (hbd:(Nat.ble bytes 128 && Nat.ble 1 sz && Nat.ble ls.length lim) = true)
  (h:Rn Γ pc os ⟨look ((d,.own sz (xs.map e)) :: E),M,nb⟩ Q):Rn Γ pc (⟨some d,.append sz bytes,[.c (.nils sz),.c (.d (.lst sz ls))],true,gd⟩ :: os) ⟨look E,M,nb⟩ Q:=by
 subst hl
 simp only [Bool.and_eq_true] at hbd
 have h1:=Nat.le_of_ble_eq_true hbd.1.1
 have h2:0 < sz:=Nat.le_of_ble_eq_true hbd.1.2
 have h3:=Nat.le_of_ble_eq_true hbd.2
 refine Rn.kT hw rfl rfl (v:=.own sz (xs.map e)) ?_ (fun i=>?_) h
 ·simp only [List.map_cons,List.map_nil,Arg.val,Qk,Qhj,if_true]
  rw [if_pos (by simp only [h1,h2,h3,decide_true,Bool.and_self])]
 ·simp only [List.map_cons,List.map_nil,Arg.val,Qbf,Qv,Arg.putTo]
  rw [Qcg]
theorem tv:True:=trivial
abbrev o_ (l:List Int):V:=.own 1 (List.map (eI .i64) l)
theorem si {β:Type u} {x y:β} (h:some x = some y):x = y:=Option.some.inj h
theorem sr {cs:List COp} {y:CC} {σ:St} {Q:Ex→St→Prop} (h:Rn Γ 9 cs σ (Q7r Γ y Q .norm)):Tr Γ (.seq (.region cs 9 []) y) σ Q:=Tr.seq (Tr.rgn h)
theorem nt {y:CC} {σ:St} {Q:Ex→St→Prop} (h:Tr Γ y σ Q):Rn Γ 9 [] σ (Q7r Γ y Q .norm):=Rn.nil (toN h)
theorem md {x:D} (ha:a.val (look E) = .d x) (h:Rn Γ pc os ⟨look ((d,.d x) :: E),M,nb⟩ Q):Rn Γ pc (⟨some d,.mov,[a],false,none⟩ :: os) ⟨look E,M,nb⟩ Q:=Rn.movD trivial ha h
end Go.Abs
end
section
namespace Go.Abs
open Go
end Go.Abs
end
section
namespace Go.Abs
open Go
variable {α:Type}
theorem WkVs.app {a a' b b' : List V} (h:WkVs a a') (k:WkVs b b'):WkVs (a ++ b) (a' ++ b'):=by
 induction h with
 | nil=>exact k
 | cons h t ih=>exact .cons h ih
theorem Q83 {g g' : α→List V} {f:V→V}:∀ {xs:List α},(∀ x∈xs,WkVs ((g x).map f) (g' x))→WkVs ((Q0 g xs).map f) (Q0 g' xs)
 | [],_=>.nil
 | x :: xs,h=>by
  rw [Qea,Qea,List.map_append]
  exact .app (h x (by simp)) (Q83 fun y hy=>h y (by simp [hy]))
theorem Q99 {sz:Nat} {e:α→List D} {n:Int} {xs:List (List α)} {f:V→V} (hf:f (.nils sz) = .nils sz) (h:mkO n ([]:List α) = some xs):WkVs ((Q0 (fun (x:List α)=>[V.nils sz]) xs).map f) (Q0 (fun (x:List α)=>[V.own sz (List.map e x)]) xs):=by
 refine Q83 fun x hx=>?_
 unfold mkO at h
 split at h <;> cases h
 obtain rfl:=List.eq_of_mem_replicate hx
 simp only [List.map_cons,List.map_nil,hf]
 exact .cons (WkV.nilsO _) .nil
theorem Qbaa {sz:Nat} {e:α→List D} {xs:List (List α)} {f:V→V} (hf:∀ l,f (.own sz l) = .own sz l):WkVs ((Q0 (fun (x:List α)=>[V.own sz (List.map e x)]) xs).map f) (Q0 (fun (x:List α)=>[V.d (.lst sz (List.map e x))]) xs):=by
 refine Q83 fun x hx=>?_
 simp only [List.map_cons,List.map_nil,hf]
 exact .cons (WkV.dem' rfl) .nil
theorem Qt0 {g:α→V}:∀ (xs:List α),Q0 (fun x=>[g x]) xs = xs.map g
 | []=>rfl
 | x :: xs=>by rw [Qea,Qt0 xs]; rfl
variable {Γ:Env} {pc d nb:Nat} {os:List COp} {E:List (Nat×V)} {M M0:Mem} {L:List (Nat×Bx)} {Q:St→Prop} {gd:Option (Nat×Bool)} {a b:Arg} {sz:Nat} {e:α→List D}
theorem Rn.loadTA {t:Nat} {i:Int} {xs:List (List α)} {x:List α} (hw:Wn E gd) (ha:a.val (look E) = .ptr (Γ.n0 + t) (0 + i.toNat * 1)) (hM:Qbn L t = some (.cells (Q0 (fun (r:List α)=>[V.own sz (List.map e r)]) xs))) (hx:getO xs i = some x)
  (h:Rn Γ pc os ⟨look ((d,.own sz (List.map e x)) :: E),Qo Γ.n0 ((t,.cells ((Q0 (fun (r:List α)=>[V.own sz (List.map e r)]) xs).set i.toNat (.d (.lst sz (List.map e x))))) :: L) M0,nb⟩ Q) :
  Rn Γ pc (⟨some d,.loadT,[a],false,gd⟩ :: os) ⟨look E,Qo Γ.n0 L M0,nb⟩ Q:=by
 have hx' : xs[i.toNat]? = some x:=by
  unfold getO at hx
  split at hx
  ·exact hx
  ·cases hx
 have e0:0 + i.toNat * 1 = i.toNat:=by omega
 rw [e0] at ha
 refine Rn.loadT hw ha hM ?_ rfl h
 rw [Qt0,List.getElem?_map,hx']; rfl
theorem Rn.storeTA {t u:Nat} {i:Int} {xs ys:List (List α)} {y:List α} {c0:V} (hw:Wn E gd) (ha:a.val (look E) = .ptr (Γ.n0 + t) (0 + i.toNat * 1)) (hb:look E u = .own sz (List.map e y)) (hM:Qbn L t = some (.cells ((Q0 (fun (r:List α)=>[V.own sz (List.map e r)]) xs).set i.toNat c0))) (hx:setO xs i y = some ys)
  (h:Rn Γ pc os ⟨look ((u,.d (.lst sz (List.map e y))) :: E),Qo Γ.n0 ((t,.cells (Q0 (fun (r:List α)=>[V.own sz (List.map e r)]) ys)) :: L) M0,nb⟩ Q) :
  Rn Γ pc (⟨none,.store 1,[a,.t u],true,gd⟩ :: os) ⟨look E,Qo Γ.n0 L M0,nb⟩ Q:=by
 unfold setO at hx
 split at hx <;> cases hx
 rename_i hi
 have e0:0 + i.toNat * 1 = i.toNat:=by omega
 rw [e0] at ha
 refine Rn.storeO hw ha hb hM ?_ ?_ h
 ·rw [Qt0]
  exact Nat.ble_eq_true_of_le (by simp only [List.length_set,List.length_map]; omega)
 ·rw [Qt0,Qt0,List.map_set]
  rw [List.set_eq_take_append_cons_drop (l:=List.map _ xs) (i:=i.toNat) (a:=V.own sz (List.map e y)),if_pos (by simpa using hi.2)]
  rw [List.take_set_of_le (Nat.le_refl _),List.drop_set_of_lt (by omega)]
  simp
def Q1d (m:Nat):List (Nat×Bx)→List (Nat×Bx)
 | []=>[]
 | (t,b) :: L=>(m + t,b) :: Q1d m L
theorem Qws {m t:Nat}:∀ {Lr:List (Nat×Bx)},Qbn (Q1d m Lr ++ L) t = if m≤t then (match Qbn Lr (t - m) with | some b=>some b | none=>Qbn L t) else Qbn L t
 | []=>by
  simp only [Q1d,List.nil_append,Qbn]
  split <;> rfl
 | (u,b) :: Lr=>by
  simp only [Q1d,List.cons_append,Qbn]
  rw [Qws (Lr:=Lr)]
  by_cases hm:m≤t
  ·simp only [hm,if_true]
   by_cases hu:t = m + u
   ·have h1:Nat.beq t (m + u) = true:=by rw [hu]; exact Nat.beq_refl _
    have h2:Nat.beq (t - m) u = true:=by
     have:t - m = u:=by omega
     rw [this]; exact Nat.beq_refl _
    rw [h1,h2]; rfl
   ·have h1:Nat.beq t (m + u) = false:=by
     cases hq:Nat.beq t (m + u) with
     | false=>rfl
     | true=>exact absurd (Nat.eq_of_beq_eq_true hq) hu
    have h2:Nat.beq (t - m) u = false:=by
     cases hq:Nat.beq (t - m) u with
     | false=>rfl
     | true=>have:=Nat.eq_of_beq_eq_true hq; omega
    rw [h1,h2]; rfl
  ·have h1:Nat.beq t (m + u) = false:=by
    cases hq:Nat.beq t (m + u) with
    | false=>rfl
    | true=>have:=Nat.eq_of_beq_eq_true hq; omega
   rw [h1]; simp only [hm,if_false,cond_false]
theorem Q1e {m:Nat} (hL:(L.all fun p=>Nat.blt p.1 m) = true) {t:Nat} (h:m≤t):Qbn L t = none:=by
 cases hb:Qbn L t with
 | none=>rfl
 | some b =>
  obtain ⟨p,hp,he⟩:=Qtx hb
  have:=List.all_eq_true.1 hL p hp
  have:=Nat.le_of_ble_eq_true this
  omega
theorem Q3z {n0 m:Nat} {Lr:List (Nat×Bx)} (hL:(L.all fun p=>Nat.blt p.1 m) = true):Qo (n0 + m) Lr (Qo n0 L M0) = Qo n0 (Q1d m Lr ++ L) M0:=by
 funext k
 simp only [Qo]
 by_cases h1:k < n0
 ·rw [if_pos (by omega),if_pos h1,if_pos h1]
 ·by_cases h2:k < n0 + m
  ·rw [if_pos h2,if_neg h1,if_neg h1,Qws,if_neg (by omega)]
  ·rw [if_neg h2,if_neg h1,Qws,if_pos (by omega),Q1e hL (t:=k - n0) (by omega),show k - (n0 + m) = k - n0 - m from by omega]
   cases Qbn Lr (k - n0 - m) <;> rfl
theorem Rn.callNew {f:FuncId} {as:List Arg} {args:List V} {r r' : V} {m n:Nat} {Lr L' : List (Nat×Bx)} (hw:Wn E gd) (ha:V.dems (as.map (·.val (look E))) = args)
  (hC:ACalls Γ.P f args (Qo Γ.n0 L M0) (Γ.n0 + m) r (Qo (Γ.n0 + m) Lr (Qo Γ.n0 L M0)) (Γ.n0 + m + n)) (hr:r = r') (hLr:Q1d m Lr = L') (hL:(L.all fun p=>Nat.blt p.1 m) = true) (hM:∀ k,Γ.n0≤k→M0 k = none) (hpc:pcOf pc = 0)
  (h:Rn Γ pc os ⟨look ((d,r') :: E),Qo Γ.n0 (L' ++ L) M0,Γ.n0 + (m + n)⟩ Q):Rn Γ pc (⟨some d,.call f,as,false,gd⟩ :: os) ⟨look E,Qo Γ.n0 L M0,Γ.n0 + m⟩ Q:=by
 subst hr hLr
 refine Rn.cons ?_
 unfold COp.run
 rw [hw.wanted]
 simp only [show (K.call f).isCall = true from rfl,if_true,COp.callee,ha]
 rw [hpc]
 refine ⟨r,Qo (Γ.n0 + m) Lr (Qo Γ.n0 L M0),Γ.n0 + m + n,hC,fun k hk=>?_,fun k cs2 hk hM'=>.inl ?_,?_⟩
 ·rcases Nat.lt_or_ge k (Γ.n0 + m) with hlt | hge
  ·rw [Qf hlt]; exact hk
  ·rw [Q78 hM hL k hge] at hk; cases hk
 ·rw [Qf (by omega)]
 ·rw [show Q1 (look E) (some d) r = look ((d,r) :: E) from Qcg E d r,Q3z hL,show Γ.n0 + m + n = Γ.n0 + (m + n) from by omega]
  exact h
def LOn (p:Nat→Prop):List (Nat×Bx)→Prop
 | []=>True
 | (_,.cells cs) :: L=>V.ons p cs∧LOn p L
 | (_,.mp ..) :: L=>LOn p L
theorem LOn.at {p:Nat→Prop}:∀ {L:List (Nat×Bx)},LOn p L→∀ t cs,Qbn L t = some (.cells cs)→V.ons p cs
 | [],_,t,cs,h=>by cases h
 | (u,.cells ds) :: L,hp,t,cs,h=>by
  simp only [Qbn] at h
  cases hb:Nat.beq t u with
  | true=>rw [hb] at h; cases h; exact hp.1
  | false=>rw [hb] at h; exact LOn.at hp.2 t cs h
 | (u,.mp ..) :: L,hp,t,cs,h=>by
  simp only [Qbn] at h
  cases hb:Nat.beq t u with
  | true=>rw [hb] at h; cases h
  | false=>rw [hb] at h; exact LOn.at (L:=L) hp t cs h
theorem Q30 {p:Nat→Prop} {g:α→List V} (h:∀ x,V.ons p (g x)):∀ xs:List α,V.ons p (Q0 g xs)
 | []=>trivial
 | x :: xs=>by rw [Qea]; exact Qd9.2 ⟨h x,Q30 h xs⟩
theorem thN {n0 t:Nat} {b:Bx} (h:Qbn L t = some b):There (Qo n0 L M0) (n0 + t):=by simp [There,Qb7,h]
def LR (M:Mem) (n0:Nat):List (Nat×Bx)→Prop
 | []=>True
 | (t,b) :: L=>M (n0 + t) = some b∧LR M n0 L
theorem lrAt {n0:Nat}:∀ {Lr:List (Nat×Bx)},LR M n0 Lr→∀ t b,Qbn Lr t = some b→M (n0 + t) = some b
 | [],_,t,b,h=>by cases h
 | (u,c) :: Lr,hp,t,b,h=>by
  simp only [Qbn] at h
  cases hb:Nat.beq t u with
  | true =>
   rw [hb] at h
   have:=Nat.eq_of_beq_eq_true hb
   subst this
   cases h; exact hp.1
  | false=>rw [hb] at h; exact lrAt hp.2 t b h
def FinN (rs:List Res) (r:V) (n0:Nat) (M0:Mem) (Lr:List (Nat×Bx)) (n:Nat):Ex→St→Prop:=fun e σ =>
 (e = .norm∨e = .ret)∧∃ r',Qto σ rs = some r' ∧ Wk r' r∧r.on (There (Qo n0 Lr M0))∧LOn (There (Qo n0 Lr M0)) Lr∧(∀ k,k < n0→σ.M k = M0 k)∧(∀ t b,Qbn Lr t = some b→σ.M (n0 + t) = some b)∧(Lr.all fun p=>Nat.blt p.1 n) = true
theorem Q9y {P:Program} {f:FuncId} {cf:CFn} (hcf:Qy P f = some cf) {args:List V} {r:V} (hargs:Nat.beq args.length cf.np = true) (M:Mem) (nb:Nat) {Lr:List (Nat×Bx)} {n:Nat}
  (hrun:∀ (Γ:Env),Γ.P = P→Γ.nt = cf.nt→Γ.n0 = nb→(∀ k,Γ.n0≤k→M k = none)→Tr Γ cf.body ⟨Qou args,Qo Γ.n0 [] M,Γ.n0 + cf.nt⟩ (FinN cf.res r Γ.n0 M Lr n)):ACalls P f args M nb r (Qo nb Lr M) (nb + n):=by
 by_cases hM:∀ k,nb≤k→M k = none
 case neg=>exact Qyc (Qjz hcf) (by omega) hM
 by_cases hon:MOn (There M) M
 case neg=>exact ⟨Qjz hcf,by omega,fun w g us hm h=>absurd h hon⟩
 refine Q80 hcf hM (Nat.eq_of_beq_eq_true hargs) (by omega) fun Γ hP hn ht=>?_
 have h:=hrun Γ hP ht hn (by rw [hn]; exact hM)
 rw [Qz1 (by rw [hn]; exact hM),hn] at h
 refine h.mono ?_
 rintro e σ' ⟨he,r',h1,h2,h3,h4,h5,h6,h7⟩
 have hlt:∀ k,There M k→k < nb:=fun k hk=>by
  rcases Nat.lt_or_ge k nb with h | h
  ·exact h
  ·simp [There,hM k h] at hk
 have hsub:∀ k,There M k→There (Qo nb Lr M) k:=fun k hk=>by
  have:=hlt k hk
  simp only [There] at hk ⊢
  rw [Qf this]; exact hk
 refine ⟨he,r',h1,h2,fun k b hk=>?_,h3,fun k cs hk=>?_,fun k hk=>?_⟩
 ·rcases Nat.lt_or_ge k nb with hl | hge
  ·rw [Qf hl] at hk; rw [h5 k hl]; exact hk
  ·obtain ⟨t,rfl⟩ : ∃ t,k = nb + t:=⟨k - nb,by omega⟩
   rw [Qb7] at hk; exact h6 t b hk
 ·rcases Nat.lt_or_ge k nb with hl | hge
  ·rw [Qf hl] at hk; exact ons_mono hsub cs (hon k cs hk)
  ·obtain ⟨t,rfl⟩ : ∃ t,k = nb + t:=⟨k - nb,by omega⟩
   rw [Qb7] at hk; exact h4.at t cs hk
 ·rcases Nat.lt_or_ge k nb with hl | hge
  ·omega
  ·obtain ⟨t,rfl⟩ : ∃ t,k = nb + t:=⟨k - nb,by omega⟩
   simp only [There,Qb7] at hk
   rcases Nat.lt_or_ge t n with h | h
   ·omega
   ·rw [Q1e h7 h] at hk; cases hk
end Go.Abs
end
section
namespace Go.Abs
open Go
def Mem.puts (M:Mem):List (Nat×Bx)→Mem
 | []=>M
 | (k,b) :: l=>(Mem.puts M l).put k b
variable {M M0 M1 M2 M3:Mem} {k k' : Nat} {b b' c:Bx} {B B' : List (Nat×Bx)}
theorem pg0:M.puts ((k,b) :: B) k = some b:=by simp [Mem.puts,Mem.put]
def Q62 (M:Mem):List (Nat×Bx)→Prop
 | []=>True
 | (k,b) :: l=>M k = some b∧Q62 M l
theorem Q3a:∀ {B:List (Nat×Bx)},Q62 M B→M.puts B = M
 | [],_=>rfl
 | (k,b) :: l,h=>by
  rw [Mem.puts,Q3a h.2]
  funext i
  simp only [Mem.put]
  split
  ·rename_i e; subst e; exact h.1.symm
  ·rfl
theorem There.puts:∀ {B:List (Nat×Bx)} {k:Nat},There M k→There (M.puts B) k
 | [],_,h=>h
 | _ :: l,_,h=>There.put (There.puts (B:=l) h)
variable {Γ:Env} {pc d nb:Nat} {os:List COp} {E:List (Nat×V)} {L L' : List (Nat×Bx)} {Q:St→Prop} {gd:Option (Nat×Bool)} {x y:Arg}
theorem Tr.puts {cc:CC} {s:Sl} {Q:Ex→St→Prop} (B:List (Nat×Bx)) (h:Q62 M0 B) (k:Tr Γ cc ⟨s,Qo Γ.n0 L (M0.puts B),nb⟩ Q):Tr Γ cc ⟨s,Qo Γ.n0 L M0,nb⟩ Q:=by
 rw [Q3a h] at k; exact k
def OkB (n0:Nat):List (Nat×Bx)→Prop
 | []=>True
 | (k,.cells cs) :: l=>(n0≤k∨V.lt.go n0 cs = true)∧OkB n0 l
 | (k,.mp ..) :: l=>OkB n0 l
theorem OkB.at {n0:Nat} {M:Mem}:∀ {B:List (Nat×Bx)},OkB n0 B→∀ k cs,k < n0→M.puts B k = some (.cells cs)→M.puts B k = M k∨V.lt.go n0 cs = true
 | [],_,_,_,_,_=>.inl rfl
 | (j,.cells ds) :: l,h,k,cs,hk,hg=>by
  by_cases e:k = j
  ·subst e
   simp only [Mem.puts,Mem.put,if_true,Option.some.injEq,Bx.cells.injEq] at hg
   subst hg
   rcases h.1 with h1 | h1
   ·omega
   ·exact .inr h1
  ·simp only [Mem.puts,Mem.put,e,if_false] at hg ⊢
   exact OkB.at h.2 k cs hk hg
 | (j,.mp ..) :: l,h,k,cs,hk,hg=>by
  by_cases e:k = j
  ·subst e
   simp only [Mem.puts,Mem.put,if_true] at hg
   cases hg
  ·simp only [Mem.puts,Mem.put,e,if_false] at hg ⊢
   exact OkB.at (B:=l) h k cs hk hg
theorem Rn.storeV {t u off:Nat} {v:V} {cs cs' : List V} (hw:Wn E gd) (ha:x.val (look E) = .ptr (Γ.n0 + t) off) (hb:look E u = v) (hv:Qdc v = true) (hf:v.topS = v) (hf2:v.dem = v) (hM:Qbn L t = some (.cells cs))
  (hn:(Nat.beq v.cells.length 1 && Nat.ble (off + 1) cs.length) = true) (hcs:cs.take off ++ v.cells ++ cs.drop (off + 1) = cs')
  (h:Rn Γ pc os ⟨look E,Qo Γ.n0 ((t,.cells cs') :: L) M0,nb⟩ Q):Rn Γ pc (⟨none,.store 1,[x,.t u],true,gd⟩ :: os) ⟨look E,Qo Γ.n0 L M0,nb⟩ Q:=by
 simp only [Bool.and_eq_true] at hn
 have h1:v.cells.length = 1:=Nat.eq_of_beq_eq_true hn.1
 have h2:=Nat.le_of_ble_eq_true hn.2
 have hm:[x,Arg.t u].map (fun x=>x.val (look E)) = [V.ptr (Γ.n0 + t) off,v]:=by simp only [List.map_cons,List.map_nil,ha]; rw [show (Arg.t u).val (look E) = _ from hb]
 refine Rn.kS (v:=.und) hw ?_ (fun i=>?_) h
 ·simp only [if_true,hm]
  simp only [Qk]
  cases v <;> first
   | (simp [Qdc] at hv; done)
   | (simp only [Qm hM,hf,h1,h2,decide_true,Bool.true_and,Nat.le_add_right,Bool.true_or,if_true]; rw [hcs,Qdg])
 ·simp only [if_true,hm,Qbf,Qv,hf2]
  have:x.putTo (look E) (.ptr (Γ.n0 + t) off) = look E:=by
   cases x with
   | c v=>rfl
   | t j =>
    simp only [Arg.val] at ha
    funext i; simp only [Arg.putTo,Sl.put]; split
    ·rename_i e; subst e; exact ha.symm
    ·rfl
  have h3:(look E).put u v = look E:=by
   funext i; simp only [Sl.put]; split
   ·rename_i e; subst e; exact hb.symm
   ·rfl
  rw [this,show (Arg.t u).putTo (look E) v = (look E).put u v from rfl,h3]
def argE:List Arg→List V→List (Nat×V)→List (Nat×V)
 | .t i :: as,v :: vs,E=>argE as vs ((i,v) :: E)
 | .c _ :: as,_ :: vs,E=>argE as vs E
 | _,_,E=>E
theorem Qt1:∀ (as:List Arg) (vs:List V) (E:List (Nat×V)),Qv (look E) as vs = look (argE as vs E)
 | [],vs,E=>by cases vs <;> rfl
 | a :: as,[],E=>by cases a <;> rfl
 | .t i :: as,v :: vs,E=>by
  simp only [Qv,argE]
  rw [show (Arg.t i).putTo (look E) v = (look E).put i v from rfl,Qcg]
  exact Qt1 as vs _
 | .c _ :: as,v :: vs,E=>by
  simp only [Qv,argE]
  exact Qt1 as vs E
theorem Rn.buildT {as:List Arg} {z:List V} {ps:List (Nat×Nat)} {v:V} (hw:Wn E gd) (hk:Qk Γ.n0 (Γ.n0 + d) (.build z ps) (as.map (·.val (look E))) M = some (v,M))
  (h:Rn Γ pc os ⟨look ((d,v) :: argE as (V.dems (as.map (·.val (look E)))) E),M,nb⟩ Q):Rn Γ pc (⟨some d,.build z ps,as,true,gd⟩ :: os) ⟨look E,M,nb⟩ Q:=by
 refine Rn.kT hw rfl rfl hk (fun i=>?_) h
 rw [show Qbf (.build z ps) (as.map (·.val (look E))) = V.dems (as.map (·.val (look E))) from by cases as <;> rfl,Qt1,Qcg]
theorem Rn.storeT {t u off n:Nat} {v:V} {ds cs cs' : List V} (hw:Wn E gd) (ha:x.val (look E) = .ptr (Γ.n0 + t) off) (hb:look E u = v) (hv:Qdc v = true) (hds:v.topS.cells = ds) (hM:Qbn L t = some (.cells cs))
  (hn:(Nat.beq ds.length n && Nat.ble (off + n) cs.length) = true) (hcs:cs.take off ++ ds ++ cs.drop (off + n) = cs')
  (h:Rn Γ pc os ⟨look ((u,v.dem) :: E),Qo Γ.n0 ((t,.cells cs') :: L) M0,nb⟩ Q):Rn Γ pc (⟨none,.store n,[x,.t u],true,gd⟩ :: os) ⟨look E,Qo Γ.n0 L M0,nb⟩ Q:=by
 simp only [Bool.and_eq_true] at hn
 have h1:v.topS.cells.length = n:=by rw [hds]; exact Nat.eq_of_beq_eq_true hn.1
 have h2:=Nat.le_of_ble_eq_true hn.2
 have hm:[x,Arg.t u].map (fun x=>x.val (look E)) = [V.ptr (Γ.n0 + t) off,v]:=by simp only [List.map_cons,List.map_nil,ha]; rw [show (Arg.t u).val (look E) = _ from hb]
 refine Rn.kS (v:=.und) hw ?_ (fun i=>?_) h
 ·simp only [if_true,hm]
  simp only [Qk]
  cases v <;> first
   | (simp [Qdc] at hv; done)
   | (simp only [Qm hM,h1,h2,decide_true,Bool.true_and,Nat.le_add_right,Bool.true_or,if_true]; rw [hds,hcs,Qdg])
 ·simp only [if_true,hm,Qbf,Qv]
  have:x.putTo (look E) (.ptr (Γ.n0 + t) off) = look E:=by
   cases x with
   | c v=>rfl
   | t j =>
    simp only [Arg.val] at ha
    funext i; simp only [Arg.putTo,Sl.put]; split
    ·rename_i e; subst e; exact ha.symm
    ·rfl
  rw [this,show (Arg.t u).putTo (look E) v.dem = (look E).put u v.dem from rfl,Qcg]
def WkB:List (Nat×Bx)→List (Nat×Bx)→Prop
 | [],[]=>True
 | (k,.cells cs) :: B,(k',.cells cs') :: B'=>(k = k' ∧ WkVs cs cs')∧WkB B B'
 | _,_=>False
theorem WkB.at {M:Mem}:∀ {B B' : List (Nat×Bx)},WkB B B' → ∀ k,M.puts B' k = M.puts B k∨∃ cs cs',M.puts B k = some (.cells cs)∧M.puts B' k = some (.cells cs')∧WkVs cs cs'
 | [],[],_,_=>.inl rfl
 | (j,.cells cs) :: B,(j',.cells cs') :: B',h,k=>by
  obtain ⟨⟨e,hw⟩,h⟩:=h
  subst e
  by_cases hk:k = j
  ·subst hk
   exact .inr ⟨cs,cs',pg0,pg0,hw⟩
  ·simp only [Mem.puts,Mem.put,hk,if_false]
   exact WkB.at h k
 | [],_ :: _,h,_=>h.elim
 | (_,.cells _) :: _,[],h,_=>h.elim
 | (_,.mp ..) :: _,[],h,_=>h.elim
 | (_,.mp ..) :: _,_ :: _,h,_=>h.elim
 | (_,.cells _) :: _,(_,.mp ..) :: _,h,_=>h.elim
end Go.Abs
end
section
namespace Go.Abs
open Go
theorem Q63 {α:Type} {e:α→List D} {g:α→List V} (hg:∀ x,g x = (e x).map V.d):∀ xs:List α,Qf3 (List.map e xs) 0 = Q0 g xs
 | []=>rfl
 | x :: xs=>by
  have:=Q63 hg xs
  unfold Qf3 at this ⊢
  rw [Qea,← this,hg]
  simp
theorem Q64 {α:Type} {e:α→List D} {g:α→List V} {sz:Nat} {P:Program} {c:Nat} {ex:List V} {xs ys:List α} (hg:∀ x,g x = (e x).map V.d)
  (hr:xs.length≤maxLen→∀ cap k0 M nb,M k0 = some (.cells (Qf3 (List.map e xs) ((cap - xs.length) * sz)))→ACalls P c (.sl sz k0 0 xs.length cap :: ex) M nb (.tup []) (M.put k0 (.cells (Qf3 (List.map e ys) ((cap - xs.length) * sz)))) nb)
  (hl:xs.length≤maxLen) {k nb:Nat} {M:Mem} (hM:M k = some (.cells (Q0 g xs))):ACalls P c (.sl sz k 0 xs.length xs.length :: ex) M nb (.tup []) (M.put k (.cells (Q0 g ys))) nb:=by
 have h:=hr hl xs.length k M nb
 rw [Nat.sub_self,Nat.zero_mul,Q63 hg,Q63 hg] at h
 exact h hM
end Go.Abs
end
section
namespace Go.Abs
open Go
set_option maxRecDepth 10000
set_option maxHeartbeats 4000000
structure Qb where
  From:Int
  Event:Int
  To:Int
  deriving DecidableEq
def Qa (x:Qb):List D:=[.int .i64 x.From,.int .i64 x.Event,.int .i64 x.To]
abbrev Qbh (x:Qb):List V:=[(i_ x.From),(i_ x.Event),(i_ x.To)]
abbrev Qb0 (x:Qb):V:=.agg (Qbh x)
structure Qg where
  zJ:List Int
  zM:Int
  zK:List Int
  zL:List Qb
  deriving DecidableEq
def Q65 (x:Qg):List D:=[.lst 1 (List.map (eI .i64) x.zJ),.int .i64 x.zM,.lst 1 (List.map (eI .i64) x.zK),.lst 3 (List.map Qa x.zL)]
abbrev Qe (x:Qg):List V:=[(l_ x.zJ),(i_ x.zM),(l_ x.zK),.d (.lst 3 (List.map Qa x.zL))]
abbrev Qd (x:Qg):V:=.agg (Qe x)
structure Qc where
  zA:Qg
  zC:List Int
  zB:List Int
  zD:List Int
  Tick:Int
  deriving DecidableEq
def Q1f (x:Qc):List D:=[.lst 1 (List.map (eI .i64) x.zA.zJ),.int .i64 x.zA.zM,.lst 1 (List.map (eI .i64) x.zA.zK),.lst 3 (List.map Qa x.zA.zL),.lst 1 (List.map (eI .i64) x.zC),.lst 1 (List.map (eI .i64) x.zB),.lst 1 (List.map (eI .i64) x.zD),.int .i64 x.Tick]
abbrev Qqo (x:Qc):List V:=[(l_ x.zA.zJ),(i_ x.zA.zM),(l_ x.zA.zK),.d (.lst 3 (List.map Qa x.zA.zL)),(l_ x.zC),(l_ x.zB),(l_ x.zD),(i_ x.Tick)]
abbrev Q1g (x:Qc):V:=.agg (Qqo x)
structure Qi where
  zN:Qc
  from_:List (List Qb)
  left_:List Bool
  deriving DecidableEq
structure Qn where
  State:Int
  Rank:Int
  Reason:Int
  Event:Int
  deriving DecidableEq
def Qh (x:Qn):List D:=[.int .i64 x.State,.int .i64 x.Rank,.int .i64 x.Reason,.int .i64 x.Event]
abbrev Qiv (x:Qn):List V:=[(i_ x.State),(i_ x.Rank),(i_ x.Reason),(i_ x.Event)]
abbrev Qiw (x:Qn):V:=.agg (Qiv x)
structure Qeb where
  Kept:List Int
  zF:List Int
  zG:List Qn
  deriving DecidableEq
def Q5b (x:Qeb):List D:=[.lst 1 (List.map (eI .i64) x.Kept),.lst 1 (List.map (eI .i64) x.zF),.lst 4 (List.map Qh x.zG)]
abbrev Qyh (x:Qeb):List V:=[(l_ x.Kept),(l_ x.zF),.d (.lst 4 (List.map Qh x.zG))]
abbrev Q5c (x:Qeb):V:=.agg (Qyh x)
structure Qbj where
  zE:Qeb
  Rounds:Int
  zH:Qg
  zO:List Int
  zI:List Int
  deriving DecidableEq
def Q2a (x:Qbj):List D:=[.lst 1 (List.map (eI .i64) x.zE.Kept),.lst 1 (List.map (eI .i64) x.zE.zF),.lst 4 (List.map Qh x.zE.zG),.int .i64 x.Rounds,.lst 1 (List.map (eI .i64) x.zH.zJ),.int .i64 x.zH.zM,.lst 1 (List.map (eI .i64) x.zH.zK),.lst 3 (List.map Qa x.zH.zL),.lst 1 (List.map (eI .i64) x.zO),.lst 1 (List.map (eI .i64) x.zI)]
abbrev Qsf (x:Qbj):List V:=[(l_ x.zE.Kept),(l_ x.zE.zF),.d (.lst 4 (List.map Qh x.zE.zG)),(i_ x.Rounds),(l_ x.zH.zJ),(i_ x.zH.zM),(l_ x.zH.zK),.d (.lst 3 (List.map Qa x.zH.zL)),(l_ x.zO),(l_ x.zI)]
abbrev Q2b (x:Qbj):V:=.agg (Qsf x)
end Go.Abs
end
section
namespace Go.Abs
open Go
set_option maxRecDepth 10000
set_option maxHeartbeats 4000000
def Qgw (P:Program) (c:Nat) (f:(List Int)→Option Qc):Prop:=∀ forcible1 r,f forcible1 = some r→∀ M nb,ACalls P c [(l_ forcible1)] M nb (.agg [(l_ r.zA.zJ),(i_ r.zA.zM),(l_ r.zA.zK),.d (.lst 3 (List.map Qa r.zA.zL)),(l_ r.zC),.nils 1,(l_ r.zD),(i_ r.Tick)]) M nb
def Qsg:List COp:=[oo 2 (.alloc [.nils 1,.d (.int .i64 0),.nils 1,.nils 3,.nils 1,.nils 1,.nils 1,.d (.int .i64 0)]) []]
def Qsh:List COp:=[oo 3 (.bslice 1 2 [.d (.int .i64 0)] [0,1]) [cI 0,cI 2],oo 4 (.bslice 1 1 [.d (.int .i64 0)] [0]) [cI 0],oo 5 (.build [.d (.int .i64 0),.d (.int .i64 0),.d (.int .i64 0)] [(0,1),(1,1),(2,1)]) [cI 0,cI 0,cI 0],oo 6 (.build [.d (.int .i64 0),.d (.int .i64 0),.d (.int .i64 0)] [(0,1),(1,1),(2,1)]) [cI 0,cI 2,cI 1],oo 7 (.bslice 3 2 [.d (.int .i64 0),.d (.int .i64 0),.d (.int .i64 0)] [0,1]) [.t 5,.t 6],ot 8 (.build [.nils 1,.d (.int .i64 0),.nils 1,.nils 3] [(0,1),(1,1),(2,1),(3,1)]) [.t 3,cI 2,.t 4,.t 7],oo 9 (.bslice 1 1 [.d (.int .i64 0)] [0]) [cI 1],oM 10 0,ot 11 (.build [.nils 1,.d (.int .i64 0),.nils 1,.nils 3,.nils 1,.nils 1,.nils 1,.d (.int .i64 0)] [(0,4),(4,1),(6,1),(7,1)]) [.t 8,.t 9,.t 10,cI 2],⟨none,.store 8,[.t 2,.t 11],true,none⟩]
def Qgx:CFn:=⟨1,12,[.cell 2 true 8],.seq (.region Qsg 9 []) (.seq (.region Qsh 9 []) (.ret))⟩
def Qbk (forcible1:(List Int)):Option Qc :=
  some (Qc.mk (Qg.mk [0,2] 2 [0] [(Qb.mk 0 0 0),(Qb.mk 0 2 1)]) [1] [] forcible1 2)
def Qhb (P:Program) (c:Nat) (f:(List Int)→Int→Option Int):Prop:=∀ l1 n2 r,f l1 n2 = some r→∀ M nb,ACalls P c [(l_ l1),(i_ n2)] M nb (i_ r) M nb
def Qsy:List COp:=[oo 4 .mov [cI 0]]
def Qsz:List COp:=[oM 7 0,oo 8 .len [.t 7],oo 9 .mov [cI 0]]
def Qs0:List COp:=[oo 10 (.bin .lss false) [.t 9,.t 8]]
def Qs1:List COp:=[oM 11 9,oo 12 (.idx 1) [.t 7,.t 9],oL 13 12,oM 5 11,oM 6 13]
def Qs2:List COp:=[oM 15 6,oo 16 (.bin .lss false) [.t 15,cI 0],oM 17 16,⟨some 18,.mov,[.t 6],false,some (17,false)⟩,⟨some 19,.mov,[.t 1],false,some (17,false)⟩,⟨some 20,.bin .geq false,[.t 18,.t 19],false,some (17,false)⟩,oo 21 .pick [.t 17,.c (.d (.bool true)),.t 20],oM 14 21]
def Qs3:List COp:=[oo 4 .mov [cI 2]]
def Qs4:List COp:=[oM 23 5,oo 24 (.bin .gtr false) [.t 23,cI 0],oM 25 24,⟨some 26,.mov,[.t 6],false,some (25,true)⟩,⟨some 27,.mov,[.t 0],false,some (25,true)⟩,⟨some 28,.mov,[.t 5],false,some (25,true)⟩,⟨some 29,.bin .sub false,[.t 28,cI 1],false,some (25,true)⟩,⟨some 30,.idx 1,[.t 27,.t 29],false,some (25,true)⟩,⟨some 31,.load false 1,[.t 30],false,some (25,true)⟩,⟨some 32,.bin .leq false,[.t 26,.t 31],false,some (25,true)⟩,oo 33 .pick [.t 25,.t 32,.c (.d (.bool false))],oM 22 33]
def Qs5:List COp:=[oo 4 .mov [cI 5]]
def Qs6:List COp:=[oo 34 (.bin .add false) [.t 9,cI 1],oM 9 34]
def Qs7:List COp:=[oo 4 .mov [cI 0]]
def Qhc:CFn:=⟨2,35,[.t 4],.seq (.region Qsy 9 []) (.seq (.seq (.region Qsz 9 []) (.block 0 (.loop [] (.seq (.region Qs0 9 []) (.seq (.cond (.t 10) (.skip) (.exit 0)) (.seq (.block 1 (.seq (.region Qs1 9 []) (.block 2 (.seq (.region Qs2 9 []) (.cond (.t 14) (.seq (.region Qs3 9 []) (.ret)) (.seq (.region Qs4 9 []) (.cond (.t 22) (.seq (.region Qs5 9 []) (.ret)) (.skip)))))))) (.region Qs6 9 []))))))) (.seq (.region Qs7 9 []) (.ret)))⟩
def Qbr (fuel:Nat) (l1:(List Int)) (n2:Int):Option Int :=
  Qdu (fun k4 (x3:Int)=>(if (x3 < (l1.length:Int)) then ((getO l1 x3).bind fun x6=>(((if (x6 < 0) then some true else some (decide (x6≥n2)))).bind fun (x9:Bool)=>(if x9 then some 2 else (((if (x3 > 0) then ((getO l1 (IntKind.wrap .i64 (x3 - 1))).bind fun x12=>some (decide (x6≤x12))) else some false)).bind fun (x14:Bool)=>(if x14 then some 5 else k4 (IntKind.wrap .i64 (x3 + 1))))))) else some 0)) fuel 0
def Qix (P:Program) (c:Nat) (f:(List Int)→Int→Option Int):Prop:=∀ s1 v2 r,f s1 v2 = some r→∀ M nb,ACalls P c [(l_ s1),(i_ v2)] M nb (i_ r) M nb
def Qvh:List COp:=[oo 4 .mov [cI 0]]
def Qvi:List COp:=[oM 6 0,oo 7 .len [.t 6],oo 8 .mov [cI 0]]
def Qvj:List COp:=[oo 9 (.bin .lss false) [.t 8,.t 7]]
def Qvk:List COp:=[oM 10 8,oM 5 10]
def Qvl:List COp:=[oM 11 1,oM 12 0,oM 13 5,oo 14 (.idx 1) [.t 12,.t 13],oL 15 14,oo 16 (.bin .eql false) [.t 11,.t 15]]
def Qvm:List COp:=[oM 17 5,oM 4 17]
def Qvn:List COp:=[oo 18 (.bin .add false) [.t 8,cI 1],oM 8 18]
def Qvo:List COp:=[oo 4 .mov [cI (-1)]]
def Qiy:CFn:=⟨2,19,[.t 4],.seq (.region Qvh 9 []) (.seq (.seq (.region Qvi 9 []) (.block 0 (.loop [] (.seq (.region Qvj 9 []) (.seq (.cond (.t 9) (.skip) (.exit 0)) (.seq (.block 1 (.seq (.region Qvk 9 []) (.seq (.region Qvl 9 []) (.cond (.t 16) (.seq (.region Qvm 9 []) (.ret)) (.skip))))) (.region Qvn 9 []))))))) (.seq (.region Qvo 9 []) (.ret)))⟩
def Qb9 (fuel:Nat) (s1:(List Int)) (v2:Int):Option Int :=
  Qdu (fun k4 (x3:Int)=>(if (x3 < (s1.length:Int)) then ((getO s1 x3).bind fun x6=>(if (v2 == x6) then some x3 else k4 (IntKind.wrap .i64 (x3 + 1)))) else some (-1))) fuel 0
def Qgy (P:Program) (c:Nat) (f:(List Int)→Int→Option Bool):Prop:=∀ s1 v2 r,f s1 v2 = some r→∀ M nb,ACalls P c [(l_ s1),(i_ v2)] M nb (b_ r) M nb
def Qsi:List COp:=[oo 4 .mov [.c (.d (.bool false))]]
def Qsj:List COp:=[oM 5 0,oM 6 1,oo 7 (.call 116) [.t 5,.t 6],oo 8 (.bin .geq false) [.t 7,cI 0],oM 4 8]
def Qgz:CFn:=⟨2,9,[.t 4],.seq (.region Qsi 9 []) (.seq (.region Qsj 9 []) (.ret))⟩
def Qbt (Qb9:(List Int)→Int→Option Int) (s1:(List Int)) (v2:Int):Option Bool :=
  ((Qb9 s1 v2).bind fun x4=>some (decide (x4≥0)))
def Qf4 (P:Program) (c:Nat) (f:Qg→Option Int):Prop:=∀ a1 r,f a1 = some r→∀ M nb,ACalls P c [(Qd a1)] M nb (i_ r) M nb
def Qqp:List COp:=[oo 1 (.box 4) [.t 0],oo 2 .mov [cI 0]]
def Qqq:List COp:=[oF 6 3 1,oL 7 6,oo 8 .len [.t 7],oo 9 .mov [cI 0]]
def Qqr:List COp:=[oo 10 (.bin .lss false) [.t 9,.t 8]]
def Qqs:List COp:=[oM 11 9,oo 12 (.idx 3) [.t 7,.t 9],oo 13 (.load true 3) [.t 12],oo 4 (.alloc [.d (.int .i64 0),.d (.int .i64 0),.d (.int .i64 0)]) [],oM 3 11,⟨none,.store 3,[.t 4,.t 13],false,none⟩]
def Qqt:List COp:=[oF 15 0 4,oL 16 15,oo 17 (.bin .lss false) [.t 16,cI 0],oM 18 17,⟨some 19,.fld 0,[.t 4],false,some (18,false)⟩,⟨some 20,.load false 1,[.t 19],false,some (18,false)⟩,⟨some 21,.fld 1,[.t 1],false,some (18,false)⟩,⟨some 22,.load false 1,[.t 21],false,some (18,false)⟩,⟨some 23,.bin .geq false,[.t 20,.t 22],false,some (18,false)⟩,oo 24 .pick [.t 18,.c (.d (.bool true)),.t 23],oM 25 24,⟨some 26,.fld 2,[.t 4],false,some (25,false)⟩,⟨some 27,.load false 1,[.t 26],false,some (25,false)⟩,⟨some 28,.bin .lss false,[.t 27,cI 0],false,some (25,false)⟩,oo 29 .pick [.t 25,.c (.d (.bool true)),.t 28],oM 30 29,⟨some 31,.fld 2,[.t 4],false,some (30,false)⟩,⟨some 32,.load false 1,[.t 31],false,some (30,false)⟩,⟨some 33,.fld 1,[.t 1],false,some (30,false)⟩,⟨some 34,.load false 1,[.t 33],false,some (30,false)⟩,⟨some 35,.bin .geq false,[.t 32,.t 34],false,some (30,false)⟩,oo 36 .pick [.t 30,.c (.d (.bool true)),.t 35],oM 14 36]
def Qqu:List COp:=[oo 2 .mov [cI 2]]
def Qqv:List COp:=[oF 38 0 1,oL 39 38,oF 40 1 4,oL 41 40,oo 42 (.call 98) [.t 39,.t 41],oo 43 (.un .not) [.t 42],oM 37 43]
def Qqw:List COp:=[oo 2 .mov [cI 9]]
def Qqx:List COp:=[oM 44 3,oo 45 (.bin .eql false) [.t 44,cI 0]]
def Qqy:List COp:=[oF 46 3 1,oL 47 46,oM 48 3,oo 49 (.bin .sub false) [.t 48,cI 1],oo 50 (.idx 3) [.t 47,.t 49],oo 51 (.load true 3) [.t 50],oo 5 (.alloc [.d (.int .i64 0),.d (.int .i64 0),.d (.int .i64 0)]) [],⟨none,.store 3,[.t 5,.t 51],false,none⟩]
def Qo1:List COp:=[oF 52 0 4,oL 53 52,oF 54 0 5,oL 55 54,oo 56 (.bin .lss false) [.t 53,.t 55],oM 57 56,⟨some 58,.fld 0,[.t 4],false,some (57,false)⟩,⟨some 59,.load false 1,[.t 58],false,some (57,false)⟩,⟨some 60,.fld 0,[.t 5],false,some (57,false)⟩,⟨some 61,.load false 1,[.t 60],false,some (57,false)⟩,⟨some 62,.bin .eql false,[.t 59,.t 61],false,some (57,false)⟩,⟨some 63,.mov,[.t 62],false,some (57,false)⟩,⟨some 64,.fld 1,[.t 4],false,some (63,true)⟩,⟨some 65,.load false 1,[.t 64],false,some (63,true)⟩,⟨some 66,.fld 1,[.t 5],false,some (63,true)⟩,⟨some 67,.load false 1,[.t 66],false,some (63,true)⟩,⟨some 68,.bin .leq false,[.t 65,.t 67],false,some (63,true)⟩,⟨some 69,.pick,[.t 63,.t 68,.c (.d (.bool false))],false,some (57,false)⟩,oo 70 .pick [.t 57,.c (.d (.bool true)),.t 69]]
def Qo2:List COp:=[oo 2 .mov [cI 5]]
def Qo3:List COp:=[oo 71 (.bin .add false) [.t 9,cI 1],oM 9 71]
def Qo4:List COp:=[oo 2 .mov [cI 0]]
def Qf5:CFn:=⟨1,72,[.t 2],.seq (.region Qqp 9 []) (.seq (.seq (.region Qqq 9 []) (.block 0 (.loop [4,5] (.seq (.region Qqr 9 []) (.seq (.cond (.t 10) (.skip) (.exit 0)) (.seq (.block 1 (.seq (.region Qqs 9 []) (.seq (.block 2 (.seq (.region Qqt 9 []) (.cond (.t 14) (.seq (.region Qqu 9 []) (.ret)) (.seq (.region Qqv 9 []) (.cond (.t 37) (.seq (.region Qqw 9 []) (.ret)) (.skip)))))) (.seq (.seq (.region Qqx 9 []) (.cond (.t 45) (.exit 1) (.skip))) (.seq (.region Qqy 9 []) (.seq (.region Qo1 9 []) (.cond (.t 70) (.seq (.region Qo2 9 []) (.ret)) (.skip)))))))) (.region Qo3 9 []))))))) (.seq (.region Qo4 9 []) (.ret)))⟩
def Qbo (Qbt:(List Int)→Int→Option Bool) (fuel:Nat) (a1:Qg):Option Int :=
  Qdu (fun k3 (x2:Int)=>(if (x2 < (a1.zL.length:Int)) then letJ (fun ((c22,c23,c24):Int×Int×Int)=>k3 (IntKind.wrap .i64 (x2 + 1))) fun J25=>((getO a1.zL x2).bind fun x5=>(((if (x5.From < 0) then some true else (if (x5.From≥a1.zM) then some true else (if (x5.To < 0) then some true else some (decide (x5.To≥a1.zM)))))).bind fun (x10:Bool)=>(if x10 then some 2 else ((Qbt a1.zJ x5.Event).bind fun x13=>(if x13 then (if (x2 == 0) then J25 (x5.From,x5.Event,x5.To) else ((getO a1.zL (IntKind.wrap .i64 (x2 - 1))).bind fun x16=>(((if (x5.From < x16.From) then some true else (if (x5.From == x16.From) then some (decide (x5.Event≤x16.Event)) else some false))).bind fun (x20:Bool)=>(if x20 then some 5 else J25 (x5.From,x5.Event,x5.To))))) else some 9))))) else some 0)) fuel 0
def Qj0 (P:Program) (c:Nat) (f:Qg→Option Int):Prop:=∀ a1 r,f a1 = some r→∀ M nb,ACalls P c [(Qd a1)] M nb (i_ r) M nb
def Qwt:List COp:=[oo 1 (.box 4) [.t 0],oo 2 .mov [cI 0]]
def Qwu:List COp:=[oF 5 0 1,oL 6 5,oo 7 (.call 85) [.t 6,cI 32],oM 3 7]
def Qwv:List COp:=[oM 8 3,oo 9 (.bin .neq false) [.t 8,cI 0]]
def Qww:List COp:=[oM 10 3,oM 2 10]
def Qwx:List COp:=[oF 12 1 1,oL 13 12,oo 14 (.bin .lss false) [.t 13,cI 0],oM 11 14]
def Qwy:List COp:=[oo 2 .mov [cI 2]]
def Qwz:List COp:=[oF 16 1 1,oL 17 16,oo 18 (.bin .gtr false) [.t 17,cI 4096],oM 15 18]
def Qw0:List COp:=[oo 2 .mov [cI 3]]
def Qw1:List COp:=[oF 19 2 1,oL 20 19,oF 21 1 1,oL 22 21,oo 23 (.call 85) [.t 20,.t 22],oM 4 23]
def Qw2:List COp:=[oM 24 4,oo 25 (.bin .neq false) [.t 24,cI 0]]
def Qvp:List COp:=[oM 26 4,oM 2 26]
def Qvq:List COp:=[oo 27 (.load true 4) [.t 1],oo 28 (.call 86) [.t 27],oM 2 28]
def Qj1:CFn:=⟨1,29,[.t 2],.seq (.region Qwt 9 []) (.seq (.seq (.region Qwu 9 []) (.seq (.region Qwv 9 []) (.cond (.t 9) (.seq (.region Qww 9 []) (.ret)) (.skip)))) (.seq (.block 0 (.seq (.region Qwx 9 []) (.cond (.t 11) (.seq (.region Qwy 9 []) (.ret)) (.seq (.region Qwz 9 []) (.cond (.t 15) (.seq (.region Qw0 9 []) (.ret)) (.skip)))))) (.seq (.seq (.region Qw1 9 []) (.seq (.region Qw2 9 []) (.cond (.t 25) (.seq (.region Qvp 9 []) (.ret)) (.skip)))) (.seq (.region Qvq 9 []) (.ret)))))⟩
def Qce (Qbr:(List Int)→Int→Option Int) (Qbo:Qg→Option Int) (a1:Qg):Option Int :=
  ((Qbr a1.zJ 32).bind fun x3=>(if (x3 != 0) then some x3 else (if (a1.zM < 0) then some 2 else (if (a1.zM > 4096) then some 3 else ((Qbr a1.zK a1.zM).bind fun x8=>(if (x8 != 0) then some x8 else ((Qbo a1).bind fun x11=>some x11)))))))
def Qhm (P:Program) (c:Nat) (f:(List Int)→Int→Option Int):Prop:=∀ xset1 n2 r,f xset1 n2 = some r→∀ M nb,ACalls P c [(l_ xset1),(i_ n2)] M nb (i_ r) M nb
def Qt2:List COp:=[oo 4 .mov [cI 0]]
def Qt3:List COp:=[oM 7 0,oo 8 .len [.t 7],oo 9 .mov [cI 0]]
def Qt4:List COp:=[oo 10 (.bin .lss false) [.t 9,.t 8]]
def Qt5:List COp:=[oM 11 9,oo 12 (.idx 1) [.t 7,.t 9],oL 13 12,oM 5 11,oM 6 13]
def Qt6:List COp:=[oM 14 6,oo 15 (.bin .lss false) [.t 14,cI 0],oM 16 15,⟨some 17,.mov,[.t 6],false,some (16,false)⟩,⟨some 18,.mov,[.t 1],false,some (16,false)⟩,⟨some 19,.bin .geq false,[.t 17,.t 18],false,some (16,false)⟩,oo 20 .pick [.t 16,.c (.d (.bool true)),.t 19]]
def Qt7:List COp:=[oo 4 .mov [cI 2]]
def Qt8:List COp:=[oM 21 5,oo 22 (.bin .gtr false) [.t 21,cI 0],oM 23 22,⟨some 24,.mov,[.t 6],false,some (23,true)⟩,⟨some 25,.mov,[.t 0],false,some (23,true)⟩,⟨some 26,.mov,[.t 5],false,some (23,true)⟩,⟨some 27,.bin .sub false,[.t 26,cI 1],false,some (23,true)⟩,⟨some 28,.idx 1,[.t 25,.t 27],false,some (23,true)⟩,⟨some 29,.load false 1,[.t 28],false,some (23,true)⟩,⟨some 30,.bin .leq false,[.t 24,.t 29],false,some (23,true)⟩,oo 31 .pick [.t 23,.t 30,.c (.d (.bool false))]]
def Qt9:List COp:=[oo 4 .mov [cI 5]]
def Qua:List COp:=[oo 32 (.bin .add false) [.t 9,cI 1],oM 9 32]
def Qub:List COp:=[oo 4 .mov [cI 0]]
def Qhn:CFn:=⟨2,33,[.t 4],.seq (.region Qt2 9 []) (.seq (.seq (.region Qt3 9 []) (.block 0 (.loop [] (.seq (.region Qt4 9 []) (.seq (.cond (.t 10) (.skip) (.exit 0)) (.seq (.block 1 (.seq (.region Qt5 9 []) (.seq (.seq (.region Qt6 9 []) (.cond (.t 20) (.seq (.region Qt7 9 []) (.ret)) (.skip))) (.seq (.region Qt8 9 []) (.cond (.t 31) (.seq (.region Qt9 9 []) (.ret)) (.skip)))))) (.region Qua 9 []))))))) (.seq (.region Qub 9 []) (.ret)))⟩
def Qbv (fuel:Nat) (xset1:(List Int)) (n2:Int):Option Int :=
  Qdu (fun k4 (x3:Int)=>(if (x3 < (xset1.length:Int)) then ((getO xset1 x3).bind fun x6=>(((if (x6 < 0) then some true else some (decide (x6≥n2)))).bind fun (x9:Bool)=>(if x9 then some 2 else (((if (x3 > 0) then ((getO xset1 (IntKind.wrap .i64 (x3 - 1))).bind fun x12=>some (decide (x6≤x12))) else some false)).bind fun (x14:Bool)=>(if x14 then some 5 else k4 (IntKind.wrap .i64 (x3 + 1))))))) else some 0)) fuel 0
def Qdr (P:Program) (c:Nat) (f:Int→Option Bool):Prop:=∀ n1 r,f n1 = some r→∀ M nb,ACalls P c [(i_ n1)] M nb (b_ r) M nb
def Qqz:List COp:=[oo 2 .mov [.c (.d (.bool false))]]
def Qq0:List COp:=[oM 3 0,oo 4 (.bin .geq false) [.t 3,cI 0],oM 5 4,⟨some 6,.mov,[.t 0],false,some (5,true)⟩,⟨some 7,.bin .lss false,[.t 6,cI 32],false,some (5,true)⟩,oo 8 .pick [.t 5,.t 7,.c (.d (.bool false))],oM 2 8]
def Qf6:CFn:=⟨1,9,[.t 2],.seq (.region Qqz 9 []) (.seq (.region Qq0 9 []) (.ret))⟩
def Qt (n1:Int):Option Bool :=
  (if (n1≥0) then some (decide (n1 < 32)) else some false)
def Qnq (P:Program) (c:Nat) (f:Int→Option Bool):Prop:=∀ x1 r,f x1 = some r→∀ M nb,ACalls P c [(i_ x1)] M nb (b_ r) M nb
def Qyi:List COp:=[oo 2 .mov [.c (.d (.bool false))]]
def Qyj:List COp:=[oM 3 0,oM 4 0,oo 5 (.bin .neq false) [.t 3,.t 4],oM 2 5]
def Qnr:CFn:=⟨1,6,[.t 2],.seq (.region Qyi 9 []) (.seq (.region Qyj 9 []) (.ret))⟩
def Qci (x1:Int):Option Bool :=
  some (x1 != x1)
def Qo5 (P:Program) (c:Nat) (f:Int→Int→Option Bool):Prop:=∀ x1 y2 r,f x1 y2 = some r→∀ M nb,ACalls P c [(i_ x1),(i_ y2)] M nb (b_ r) M nb
def Qy1:List COp:=[oo 4 .mov [.c (.d (.bool false))]]
def Qy2:List COp:=[oM 5 0,oo 6 (.call 115) [.t 5],oM 7 6,⟨some 8,.mov,[.t 1],false,some (7,true)⟩,⟨some 9,.call 115,[.t 8],false,some (7,true)⟩,⟨some 10,.un .not,[.t 9],false,some (7,true)⟩,oo 11 .pick [.t 7,.t 10,.c (.d (.bool false))],oM 12 11,⟨some 13,.mov,[.t 0],false,some (12,false)⟩,⟨some 14,.mov,[.t 1],false,some (12,false)⟩,⟨some 15,.bin .lss false,[.t 13,.t 14],false,some (12,false)⟩,oo 16 .pick [.t 12,.c (.d (.bool true)),.t 15],oM 4 16]
def Qo6:CFn:=⟨2,17,[.t 4],.seq (.region Qy1 9 []) (.seq (.region Qy2 9 []) (.ret))⟩
def Qdd (Qci:Int→Option Bool) (x1:Int) (y2:Int):Option Bool :=
  ((Qci x1).bind fun x4=>(if x4 then ((Qci y2).bind fun x7=>(if x7 then some (decide (x1 < y2)) else some true)) else some (decide (x1 < y2))))
def Qiz (P:Program) (c:Nat) (f:Int→Option Bool):Prop:=∀ x1 r,f x1 = some r→∀ M nb,ACalls P c [(i_ x1)] M nb (b_ r) M nb
def Qvr:List COp:=[oo 2 .mov [.c (.d (.bool false))]]
def Qvs:List COp:=[oM 3 0,oM 4 0,oo 5 (.bin .neq false) [.t 3,.t 4],oM 2 5]
def Qi0:CFn:=⟨1,6,[.t 2],.seq (.region Qvr 9 []) (.seq (.region Qvs 9 []) (.ret))⟩
def Qbz (x1:Int):Option Bool :=
  some (x1 != x1)
def Qdz (P:Program) (c:Nat) (f:(List Int)→Int→Option (Int×Bool)):Prop:=∀ x1 target2 r,f x1 target2 = some r→∀ M nb,ACalls P c [(l_ x1),(i_ target2)] M nb (.tup [(i_ r.1),(b_ r.2)]) M nb
def Qns:List COp:=[oo 4 .mov [cI 0],oo 5 .mov [.c (.d (.bool false))]]
def Qnt:List COp:=[oM 10 0,oo 11 .len [.t 10],oM 6 11]
def Qnu:List COp:=[oM 12 6,oo 7 .mov [cI 0],oM 8 12]
def Qnv:List COp:=[oM 13 7,oM 14 8,oo 15 (.bin .lss false) [.t 13,.t 14]]
def Qnw:List COp:=[oM 16 7,oM 17 8,oo 18 (.bin .add false) [.t 16,.t 17],oo 19 (.conv .u64) [.t 18],oo 20 (.bin .shr false) [.t 19,.c (.d (.int .u64 1))],oo 21 (.conv .i64) [.t 20],oM 9 21]
def Qnx:List COp:=[oM 22 0,oM 23 9,oo 24 (.idx 1) [.t 22,.t 23],oL 25 24,oM 26 1,oo 27 (.call 95) [.t 25,.t 26]]
def Qny:List COp:=[oM 28 9,oo 29 (.bin .add false) [.t 28,cI 1],oM 7 29]
def Qnz:List COp:=[oM 30 9,oM 8 30]
def Qn0:List COp:=[oM 31 7,oM 32 7,oM 33 6,oo 34 (.bin .lss false) [.t 32,.t 33],oM 35 34,⟨some 36,.mov,[.t 0],false,some (35,true)⟩,⟨some 37,.mov,[.t 7],false,some (35,true)⟩,⟨some 38,.idx 1,[.t 36,.t 37],false,some (35,true)⟩,⟨some 39,.load false 1,[.t 38],false,some (35,true)⟩,⟨some 40,.mov,[.t 1],false,some (35,true)⟩,⟨some 41,.bin .eql false,[.t 39,.t 40],false,some (35,true)⟩,⟨some 42,.mov,[.t 41],false,some (35,true)⟩,⟨some 43,.mov,[.t 0],false,some (42,false)⟩,⟨some 44,.mov,[.t 7],false,some (42,false)⟩,⟨some 45,.idx 1,[.t 43,.t 44],false,some (42,false)⟩,⟨some 46,.load false 1,[.t 45],false,some (42,false)⟩,⟨some 47,.call 96,[.t 46],false,some (42,false)⟩,⟨some 48,.mov,[.t 47],false,some (42,false)⟩,⟨some 49,.mov,[.t 1],false,some (48,true)⟩,⟨some 50,.call 96,[.t 49],false,some (48,true)⟩,⟨some 51,.pick,[.t 48,.t 50,.c (.d (.bool false))],false,some (42,false)⟩,⟨some 52,.pick,[.t 42,.c (.d (.bool true)),.t 51],false,some (35,true)⟩,oo 53 .pick [.t 35,.t 52,.c (.d (.bool false))],oM 4 31,oM 5 53]
def Qd0:CFn:=⟨2,54,[.t 4,.t 5],.seq (.region Qns 9 []) (.seq (.region Qnt 9 []) (.seq (.region Qnu 9 []) (.seq (.block 0 (.loop [] (.seq (.seq (.region Qnv 9 []) (.cond (.t 15) (.skip) (.exit 0))) (.block 1 (.seq (.region Qnw 9 []) (.seq (.region Qnx 9 []) (.cond (.t 27) (.region Qny 9 []) (.region Qnz 9 [])))))))) (.seq (.region Qn0 9 []) (.ret)))))⟩
def Qbe (Qdd:Int→Int→Option Bool) (Qbz:Int→Option Bool) (fuel:Nat) (x1:(List Int)) (target2:Int):Option (Int×Bool) :=
  ((Qdu (fun k5 ((i3,j4):Int×Int)=>(if (i3 < j4) then ((getO x1 (IntKind.wrap .i64 (Int.fdiv (IntKind.wrap .u64 (IntKind.wrap .i64 (i3 + j4))) (2 ^ (min (Int.toNat 1) (IntKind.bits .u64)))))).bind fun x7=>((Qdd x7 target2).bind fun x10=>(if x10 then k5 ((IntKind.wrap .i64 ((IntKind.wrap .i64 (Int.fdiv (IntKind.wrap .u64 (IntKind.wrap .i64 (i3 + j4))) (2 ^ (min (Int.toNat 1) (IntKind.bits .u64))))) + 1)),j4) else k5 (i3,(IntKind.wrap .i64 (Int.fdiv (IntKind.wrap .u64 (IntKind.wrap .i64 (i3 + j4))) (2 ^ (min (Int.toNat 1) (IntKind.bits .u64))))))))) else some i3)) fuel (0,(x1.length:Int))).bind fun (i12:Int)=>(if (i12 < (x1.length:Int)) then ((getO x1 i12).bind fun x14=>(if (x14 == target2) then some (i12,true) else ((getO x1 i12).bind fun x17=>((Qbz x17).bind fun x20=>(if x20 then ((Qbz target2).bind fun x23=>some (i12,x23)) else some (i12,false)))))) else some (i12,false)))
def Qb1 (P:Program) (c:Nat) (f:(List Int)→Int→Option Bool):Prop:=∀ xset1 x2 r,f xset1 x2 = some r→∀ M nb,ACalls P c [(l_ xset1),(i_ x2)] M nb (b_ r) M nb
def Quc:List COp:=[oo 4 .mov [.c (.d (.bool false))]]
def Qud:List COp:=[oM 8 0,oM 9 1,oo 10 (.call 74) [.t 8,.t 9],oM 7 10,oo 11 (.extract 0) [.t 7],oo 12 (.extract 1) [.t 7],oM 5 11,oM 6 12]
def Que:List COp:=[oM 13 6,oM 4 13]
def Qho:CFn:=⟨2,14,[.t 4],.seq (.region Quc 9 []) (.seq (.region Qud 9 []) (.seq (.region Que 9 []) (.ret)))⟩
def Ql (Qbe:(List Int)→Int→Option (Int×Bool)) (xset1:(List Int)) (x2:Int):Option Bool :=
  ((Qbe xset1 x2).bind fun (r4,r5)=>some r5)
def Qf7 (P:Program) (c:Nat) (f:Qc→Option Int):Prop:=∀ p1 r,f p1 = some r→∀ M nb,ACalls P c [.agg [(l_ p1.zA.zJ),(i_ p1.zA.zM),(l_ p1.zA.zK),.d (.lst 3 (List.map Qa p1.zA.zL)),(l_ p1.zC),(l_ p1.zB),(l_ p1.zD),(i_ p1.Tick)]] M nb (i_ r) M nb
def Qq1:List COp:=[oo 1 (.box 8) [.t 0],oo 2 .mov [cI 0]]
def Qq2:List COp:=[oF 8 0 1,oo 9 (.load true 4) [.t 8],oo 10 (.call 64) [.t 9],oM 3 10]
def Qq3:List COp:=[oM 11 3,oo 12 (.bin .neq false) [.t 11,cI 0]]
def Qq4:List COp:=[oM 13 3,oM 2 13]
def Qq5:List COp:=[oF 14 4 1,oL 15 14,oF 16 0 1,oF 17 1 16,oL 18 17,oo 19 (.call 31) [.t 15,.t 18],oM 4 19]
def Qq6:List COp:=[oM 20 4,oo 21 (.bin .neq false) [.t 20,cI 0]]
def Qq7:List COp:=[oM 22 4,oM 2 22]
def Qq8:List COp:=[oF 23 5 1,oL 24 23,oF 25 6 1,oL 26 25,oo 27 (.bslice 1 2 [.nils 1] [0,1]) [.t 24,.t 26],oo 28 .len [.t 27],oo 29 .mov [cI 0]]
def Qq9:List COp:=[oo 30 (.bin .lss false) [.t 29,.t 28]]
def Qra:List COp:=[oo 31 (.idx 1) [.t 27,.t 29],oL 32 31,ot 6 .mov [.t 32]]
def Qo7:List COp:=[oM 33 6,oo 34 (.call 31) [.t 33,cI 32],oM 7 34]
def Qo8:List COp:=[oM 35 7,oo 36 (.bin .neq false) [.t 35,cI 0]]
def Qo9:List COp:=[oM 37 7,oM 2 37]
def Qpa:List COp:=[oo 38 (.bin .add false) [.t 29,cI 1],oM 29 38]
def Qpb:List COp:=[oF 40 7 1,oL 41 40,oo 42 (.call 65) [.t 41],oo 43 (.un .not) [.t 42],oM 39 43]
def Qpc:List COp:=[oo 2 .mov [cI 2]]
def Qpd:List COp:=[oF 45 5 1,oL 46 45,oF 47 7 1,oL 48 47,oo 49 (.call 50) [.t 46,.t 48],oM 50 49,⟨some 51,.fld 6,[.t 1],false,some (50,false)⟩,⟨some 52,.load false 1,[.t 51],false,some (50,false)⟩,⟨some 53,.fld 7,[.t 1],false,some (50,false)⟩,⟨some 54,.load false 1,[.t 53],false,some (50,false)⟩,⟨some 55,.call 50,[.t 52,.t 54],false,some (50,false)⟩,oo 56 .pick [.t 50,.c (.d (.bool true)),.t 55],oM 44 56]
def Qpe:List COp:=[oo 2 .mov [cI 13]]
def Qpf:List COp:=[oo 2 .mov [cI 0]]
def Qf8:CFn:=⟨1,57,[.t 2],.seq (.region Qq1 9 []) (.seq (.seq (.region Qq2 9 []) (.seq (.region Qq3 9 []) (.cond (.t 12) (.seq (.region Qq4 9 []) (.ret)) (.skip)))) (.seq (.seq (.region Qq5 9 []) (.seq (.region Qq6 9 []) (.cond (.t 21) (.seq (.region Qq7 9 []) (.ret)) (.skip)))) (.seq (.seq (.region Qq8 9 []) (.block 0 (.loop [] (.seq (.region Qq9 9 []) (.seq (.cond (.t 30) (.skip) (.exit 0)) (.seq (.block 1 (.seq (.region Qra 9 []) (.seq (.region Qo7 9 []) (.seq (.region Qo8 9 []) (.cond (.t 36) (.seq (.region Qo9 9 []) (.ret)) (.skip)))))) (.region Qpa 9 []))))))) (.seq (.block 2 (.seq (.region Qpb 9 []) (.cond (.t 39) (.seq (.region Qpc 9 []) (.ret)) (.seq (.region Qpd 9 []) (.cond (.t 44) (.seq (.region Qpe 9 []) (.ret)) (.skip)))))) (.seq (.region Qpf 9 []) (.ret))))))⟩
def Qbp (Qbv:(List Int)→Int→Option Int) (Ql:(List Int)→Int→Option Bool) (Qce:Qg→Option Int) (Qt:Int→Option Bool) (fuel:Nat) (p1:Qc):Option Int :=
  ((Qce p1.zA).bind fun x3=>(if (x3 != 0) then some x3 else ((Qbv p1.zC p1.zA.zM).bind fun x6=>(if (x6 != 0) then some x6 else Qdu (fun k9 (x8:Int)=>(if (x8 < 2) then ((getO [p1.zB,p1.zD] x8).bind fun x11=>((Qbv x11 32).bind fun x14=>(if (x14 != 0) then some x14 else k9 (IntKind.wrap .i64 (x8 + 1))))) else ((Qt p1.Tick).bind fun x17=>(if x17 then ((((Ql p1.zB p1.Tick).bind fun x20=>(if x20 then some true else ((Ql p1.zD p1.Tick).bind fun x23=>some x23)))).bind fun (x24:Bool)=>(if x24 then some 13 else some 0)) else some 2)))) fuel 0))))
def Qf9 (P:Program) (c:Nat) (f:Qc→Option Qi):Prop:=∀ p1 r,f p1 = some r→∀ M nb,ACalls P c [.agg [(l_ p1.zA.zJ),(i_ p1.zA.zM),(l_ p1.zA.zK),.d (.lst 3 (List.map Qa p1.zA.zL)),(l_ p1.zC),(l_ p1.zB),(l_ p1.zD),(i_ p1.Tick)]] M nb (.ptr (nb + 17) 0) (Qo nb [(17,.cells [(l_ r.zN.zA.zJ),(i_ r.zN.zA.zM),(l_ r.zN.zA.zK),.d (.lst 3 (List.map Qa r.zN.zA.zL)),(l_ r.zN.zC),(l_ r.zN.zB),(l_ r.zN.zD),(i_ r.zN.Tick),.sl 1 (nb + 11) 0 r.from_.length r.from_.length,.sl 1 (nb + 15) 0 r.left_.length r.left_.length]),(11,.cells (Q0 (fun (x:List Qb)=>[V.d (.lst 3 (List.map Qa x))]) r.from_)),(15,.cells (Q0 (fun (x:Bool)=>[V.d (.bool x)]) r.left_))] M) (nb + 66)
def Qrb:List COp:=[oo 1 (.box 8) [.t 0],oo 2 .mov [.c (.nilp)]]
def Qrc:List COp:=[oo 7 (.load true 8) [.t 1],oF 8 0 1,oF 9 1 8,oL 10 9,oo 11 (.makes 1 24 [.nils 3]) [.t 10,.t 10],oF 12 0 1,oF 13 1 12,oL 14 13,oo 15 (.makes 1 1 [.d (.bool false)]) [.t 14,.t 14],ot 16 (.build [.nils 1,.d (.int .i64 0),.nils 1,.nils 3,.nils 1,.nils 1,.nils 1,.d (.int .i64 0),.nils 1,.nils 1] [(0,8),(8,1),(9,1)]) [.t 7,.t 11,.t 15],oo 17 (.box 10) [.t 16],oM 3 17]
def Qrd:List COp:=[oF 18 0 1,oF 19 3 18,oL 20 19,oo 21 .len [.t 20],oo 22 .mov [cI 0]]
def Qre:List COp:=[oo 23 (.bin .lss false) [.t 22,.t 21]]
def Qrf:List COp:=[oo 24 (.idx 3) [.t 20,.t 22],oo 25 (.load true 3) [.t 24],oo 5 (.alloc [.d (.int .i64 0),.d (.int .i64 0),.d (.int .i64 0)]) [],⟨none,.store 3,[.t 5,.t 25],false,none⟩]
def Qrg:List COp:=[oM 26 3,oo 27 .nilchk [.t 26],oF 28 8 27,oL 29 28,oF 30 0 5,oL 31 30,oM 32 3,oo 33 .nilchk [.t 32],oF 34 8 33,oL 35 34,oF 36 0 5,oL 37 36,oo 38 (.idx 1) [.t 35,.t 37],oo 39 .loadT [.t 38],oo 40 (.load true 3) [.t 5],oo 41 (.bslice 3 1 [.d (.int .i64 0),.d (.int .i64 0),.d (.int .i64 0)] [0]) [.t 40],ot 42 (.append 3 24) [.t 39,.t 41],oo 43 (.idx 1) [.t 29,.t 31],⟨none,.store 1,[.t 43,.t 42],true,none⟩]
def Qrh:List COp:=[oo 44 (.bin .add false) [.t 22,cI 1],oM 22 44]
def Qri:List COp:=[oM 45 3,oo 46 .nilchk [.t 45],oF 47 9 46,oL 48 47,oo 49 .len [.t 48],oo 50 .mov [cI 0]]
def Qrj:List COp:=[oo 51 (.bin .lss false) [.t 50,.t 49]]
def Qrk:List COp:=[oM 52 50,oM 6 52]
def Qpg:List COp:=[oM 53 3,oo 54 .nilchk [.t 53],oF 55 9 54,oL 56 55,oM 57 6,oF 58 4 1,oL 59 58,oM 60 6,oo 61 (.call 50) [.t 59,.t 60],oo 62 (.un .not) [.t 61],oo 63 (.idx 1) [.t 56,.t 57],⟨none,.store 1,[.t 63,.t 62],false,none⟩]
def Qph:List COp:=[oo 64 (.bin .add false) [.t 50,cI 1],oM 50 64]
def Qpi:List COp:=[oM 65 3,oM 2 65]
def Qga:CFn:=⟨1,66,[.t 2],.seq (.region Qrb 9 []) (.seq (.region Qrc 0 []) (.seq (.seq (.region Qrd 9 []) (.block 0 (.loop [5,41] (.seq (.region Qre 9 []) (.seq (.cond (.t 23) (.skip) (.exit 0)) (.seq (.block 1 (.seq (.region Qrf 9 []) (.region Qrg 0 []))) (.region Qrh 9 []))))))) (.seq (.seq (.region Qri 9 []) (.block 2 (.loop [] (.seq (.region Qrj 9 []) (.seq (.cond (.t 51) (.skip) (.exit 2)) (.seq (.block 3 (.seq (.region Qrk 9 []) (.region Qpg 1 []))) (.region Qph 9 []))))))) (.seq (.region Qpi 9 []) (.ret)))))⟩
def Qbq (Ql:(List Int)→Int→Option Bool) (fuel:Nat) (p1:Qc):Option Qi :=
  ((mkO p1.zA.zM ([]:List Qb)).bind fun x2=>((mkO p1.zA.zM false).bind fun x4=>((Qdu (fun k8 ((x6,c7):Int×(List (List Qb)))=>(if (x6 < (p1.zA.zL.length:Int)) then ((getO p1.zA.zL x6).bind fun x10=>((inO (Int.toNat p1.zA.zM) x10.From).bind fun u12=>((getO c7 x10.From).bind fun x14=>((appO x14 [x10]).bind fun x16=>((inO (Int.toNat p1.zA.zM) x10.From).bind fun u18=>((setO c7 x10.From x16).bind fun x20=>k8 ((IntKind.wrap .i64 (x6 + 1)),x20))))))) else some c7)) fuel (0,x2)).bind fun (c22:List (List Qb))=>((Qdu (fun k25 ((x23,c24):Int×(List Bool))=>(if (x23 < ((Int.toNat p1.zA.zM):Int)) then ((Ql p1.zC x23).bind fun x28=>((inO (Int.toNat p1.zA.zM) x23).bind fun u29=>((setO c24 x23 (!x28)).bind fun x31=>k25 ((IntKind.wrap .i64 (x23 + 1)),x31)))) else some c24)) fuel (0,x4)).bind fun (c33:List Bool)=>(lenO c22 (Int.toNat p1.zA.zM)).bind fun _=>(lenO c33 (Int.toNat p1.zA.zM)).bind fun _=>some (Qi.mk p1 c22 c33)))))
def Qcw (P:Program) (c:Nat) (f:Qb→Qi→Option Bool):Prop:=∀ x1 x2 (k3:Nat) (k5:Nat) (k7:Nat) (k9:Nat) r,f x1 x2 = some r→∀ M nb,(M k3 = some (.cells [.ptr k5 0]))→(M k5 = some (.cells [(l_ x2.zN.zA.zJ),(i_ x2.zN.zA.zM),(l_ x2.zN.zA.zK),.d (.lst 3 (List.map Qa x2.zN.zA.zL)),(l_ x2.zN.zC),(l_ x2.zN.zB),(l_ x2.zN.zD),(i_ x2.zN.Tick),.sl 1 k7 0 x2.from_.length x2.from_.length,.sl 1 k9 0 x2.left_.length x2.left_.length]))→(M k7 = some (.cells (Q0 (fun (x:List Qb)=>[V.d (.lst 3 (List.map Qa x))]) x2.from_)))→(M k9 = some (.cells (Q0 (fun (x:Bool)=>[V.d (.bool x)]) x2.left_)))→ACalls P c [(Qb0 x1),.ptr k3 0] M nb (b_ r) M nb
def Qjk:List COp:=[oo 2 (.box 3) [.t 0],oo 3 .mov [.c (.d (.bool false))]]
def Qjl:List COp:=[oF 4 1 2,oL 5 4,oL 6 1,oo 7 .nilchk [.t 6],oF 8 0 7,oF 9 7 8,oL 10 9,oo 11 (.bin .eql false) [.t 5,.t 10],oM 12 11,⟨some 13,.load false 1,[.t 1],false,some (12,true)⟩,⟨some 14,.nilchk,[.t 13],false,some (12,true)⟩,⟨some 15,.fld 9,[.t 14],false,some (12,true)⟩,⟨some 16,.load false 1,[.t 15],false,some (12,true)⟩,⟨some 17,.fld 2,[.t 2],false,some (12,true)⟩,⟨some 18,.load false 1,[.t 17],false,some (12,true)⟩,⟨some 19,.idx 1,[.t 16,.t 18],false,some (12,true)⟩,⟨some 20,.load false 1,[.t 19],false,some (12,true)⟩,⟨some 21,.un .not,[.t 20],false,some (12,true)⟩,oo 22 .pick [.t 12,.t 21,.c (.d (.bool false))],oM 3 22]
def Qcx:CFn:=⟨2,23,[.t 3],.seq (.region Qjk 9 []) (.seq (.region Qjl 0 []) (.ret))⟩
def Q2 (x1:Qb) (x2:Qi):Option Bool :=
  (if (x1.Event == x2.zN.Tick) then ((inO x2.left_.length x1.To).bind fun u12=>((getO x2.left_ x1.To).bind fun x14=>some (!x14))) else some false)
def Qek (P:Program) (c:Nat) (f:(List Qb)→(Qb→Option Bool)→Option Int):Prop:=∀ s1 f2 (g3:Nat) (cp4:List V) r,f s1 f2 = some r→∀ M nb,(V.dems cp4 = cp4)→(V.ons (There M) cp4)→(∀ a8 r,f2 a8 = some r→∀ M2 nb2,nb≤nb2→Ext M M2→ACalls P g3 ([(Qb0 a8)] ++ cp4) M2 nb2 (b_ r) M2 nb2)→ACalls P c [.d (.lst 3 (List.map Qa s1)),.clo g3 cp4] M nb (i_ r) M nb
def Qpj:List COp:=[oo 4 .mov [cI 0]]
def Qpk:List COp:=[oM 6 0,oo 7 .len [.t 6],oo 8 .mov [cI 0]]
def Qpl:List COp:=[oo 9 (.bin .lss false) [.t 8,.t 7]]
def Qpm:List COp:=[oM 10 8,oM 5 10]
def Qpn:List COp:=[oM 11 1,oM 12 0,oM 13 5,oo 14 (.idx 3) [.t 12,.t 13],oo 15 (.load true 3) [.t 14],oo 16 .callv [.t 11,.t 15]]
def Qpo:List COp:=[oM 17 5,oM 4 17]
def Qpp:List COp:=[oo 18 (.bin .add false) [.t 8,cI 1],oM 8 18]
def Qpq:List COp:=[oo 4 .mov [cI (-1)]]
def Qel:CFn:=⟨2,19,[.t 4],.seq (.region Qpj 9 []) (.seq (.seq (.region Qpk 9 []) (.block 0 (.loop [] (.seq (.region Qpl 9 []) (.seq (.cond (.t 9) (.skip) (.exit 0)) (.seq (.block 1 (.seq (.region Qpm 9 []) (.seq (.region Qpn 9 []) (.cond (.t 16) (.seq (.region Qpo 9 []) (.ret)) (.skip))))) (.region Qpp 9 []))))))) (.seq (.region Qpq 9 []) (.ret)))⟩
def Qbl (fuel:Nat) (s1:(List Qb)) (f2:(Qb→Option Bool)):Option Int :=
  Qdu (fun k10 (x9:Int)=>(if (x9 < (s1.length:Int)) then ((getO s1 x9).bind fun x12=>((f2 x12).bind fun x15=>(if x15 then some x9 else k10 (IntKind.wrap .i64 (x9 + 1))))) else some (-1))) fuel 0
def Qb8 (P:Program) (c:Nat) (f:(List Qb)→(Qb→Option Bool)→Option Bool):Prop:=∀ s1 f2 (g3:Nat) (cp4:List V) r,f s1 f2 = some r→∀ M nb,(V.dems cp4 = cp4)→(V.ons (There M) cp4)→(∀ a8 r,f2 a8 = some r→∀ M2 nb2,nb≤nb2→Ext M M2→ACalls P g3 ([(Qb0 a8)] ++ cp4) M2 nb2 (b_ r) M2 nb2)→ACalls P c [.d (.lst 3 (List.map Qa s1)),.clo g3 cp4] M nb (b_ r) M nb
def Qm1:List COp:=[oo 4 .mov [.c (.d (.bool false))]]
def Qm2:List COp:=[oM 5 0,oM 6 1,oo 7 (.call 71) [.t 5,.t 6],oo 8 (.bin .geq false) [.t 7,cI 0],oM 4 8]
def Qdv:CFn:=⟨2,9,[.t 4],.seq (.region Qm1 9 []) (.seq (.region Qm2 9 []) (.ret))⟩
def Qp (Qbl:(List Qb)→(Qb→Option Bool)→Option Int) (s1:(List Qb)) (f2:(Qb→Option Bool)):Option Bool :=
  ((Qbl s1 f2).bind fun x13=>some (decide (x13≥0)))
def Qcy (P:Program) (c:Nat) (f:Qb→Qi→Option Bool):Prop:=∀ x1 x2 (k3:Nat) (k5:Nat) (k7:Nat) (k9:Nat) r,f x1 x2 = some r→∀ M nb,(M k3 = some (.cells [.ptr k5 0]))→(M k5 = some (.cells [(l_ x2.zN.zA.zJ),(i_ x2.zN.zA.zM),(l_ x2.zN.zA.zK),.d (.lst 3 (List.map Qa x2.zN.zA.zL)),(l_ x2.zN.zC),(l_ x2.zN.zB),(l_ x2.zN.zD),(i_ x2.zN.Tick),.sl 1 k7 0 x2.from_.length x2.from_.length,.sl 1 k9 0 x2.left_.length x2.left_.length]))→(M k7 = some (.cells (Q0 (fun (x:List Qb)=>[V.d (.lst 3 (List.map Qa x))]) x2.from_)))→(M k9 = some (.cells (Q0 (fun (x:Bool)=>[V.d (.bool x)]) x2.left_)))→ACalls P c [(Qb0 x1),.ptr k3 0] M nb (b_ r) M nb
def Qjm:List COp:=[oo 2 (.box 3) [.t 0],oo 3 .mov [.c (.d (.bool false))]]
def Qjn:List COp:=[oL 4 1,oo 5 .nilchk [.t 4],oF 6 9 5,oL 7 6,oF 8 2 2,oL 9 8,oo 10 (.idx 1) [.t 7,.t 9],oL 11 10,oM 12 11,⟨some 13,.load false 1,[.t 1],false,some (12,true)⟩,⟨some 14,.nilchk,[.t 13],false,some (12,true)⟩,⟨some 15,.fld 0,[.t 14],false,some (12,true)⟩,⟨some 16,.fld 6,[.t 15],false,some (12,true)⟩,⟨some 17,.load false 1,[.t 16],false,some (12,true)⟩,⟨some 18,.fld 1,[.t 2],false,some (12,true)⟩,⟨some 19,.load false 1,[.t 18],false,some (12,true)⟩,⟨some 20,.call 50,[.t 17,.t 19],false,some (12,true)⟩,oo 21 .pick [.t 12,.t 20,.c (.d (.bool false))],oM 3 21]
def Qcz:CFn:=⟨2,22,[.t 3],.seq (.region Qjm 9 []) (.seq (.region Qjn 0 []) (.ret))⟩
def Q3 (Ql:(List Int)→Int→Option Bool) (x1:Qb) (x2:Qi):Option Bool :=
  ((inO x2.left_.length x1.To).bind fun u11=>((getO x2.left_ x1.To).bind fun x13=>(if x13 then ((Ql x2.zN.zD x1.Event).bind fun x17=>some x17) else some false)))
def Qc8 (P:Program) (c:Nat) (f:Qi→Int→Option Bool):Prop:=∀ t1 state8 (k2:Nat) (k4:Nat) (k6:Nat) r,f t1 state8 = some r→∀ M nb,(M k2 = some (.cells [(l_ t1.zN.zA.zJ),(i_ t1.zN.zA.zM),(l_ t1.zN.zA.zK),.d (.lst 3 (List.map Qa t1.zN.zA.zL)),(l_ t1.zN.zC),(l_ t1.zN.zB),(l_ t1.zN.zD),(i_ t1.zN.Tick),.sl 1 k4 0 t1.from_.length t1.from_.length,.sl 1 k6 0 t1.left_.length t1.left_.length]))→(M k4 = some (.cells (Q0 (fun (x:List Qb)=>[V.d (.lst 3 (List.map Qa x))]) t1.from_)))→(M k6 = some (.cells (Q0 (fun (x:Bool)=>[V.d (.bool x)]) t1.left_)))→ACalls P c [.ptr k2 0,(i_ state8)] M nb (b_ r) M nb
def Qki:List COp:=[oo 2 (.box 1) [.t 0],oo 4 .mov [.c (.d (.bool false))]]
def Qkj:List COp:=[oL 5 2,oo 6 .nilchk [.t 5],oF 7 8 6,oL 8 7,oM 9 1,oo 10 (.idx 1) [.t 8,.t 9],oL 11 10,oo 12 (.func 97) [.t 2],oo 13 (.call 40) [.t 11,.t 12],oM 4 13]
def Qc9:CFn:=⟨2,14,[.t 4],.seq (.region Qki 9 []) (.seq (.region Qkj 9 []) (.ret))⟩
def Q8 (Qp:(List Qb)→(Qb→Option Bool)→Option Bool) (Q3:Qb→Qi→Option Bool) (t1:Qi) (state8:Int):Option Bool :=
  ((inO t1.from_.length state8).bind fun u9=>((getO t1.from_ state8).bind fun x11=>((Qp x11 (fun a13=>Q3 a13 t1)).bind fun x17=>some x17)))
def Qda (P:Program) (c:Nat) (f:Qi→Int→Option (Int×Int)):Prop:=∀ t1 state8 (k2:Nat) (k4:Nat) (k6:Nat) r,f t1 state8 = some r→∀ M nb,(M k2 = some (.cells [(l_ t1.zN.zA.zJ),(i_ t1.zN.zA.zM),(l_ t1.zN.zA.zK),.d (.lst 3 (List.map Qa t1.zN.zA.zL)),(l_ t1.zN.zC),(l_ t1.zN.zB),(l_ t1.zN.zD),(i_ t1.zN.Tick),.sl 1 k4 0 t1.from_.length t1.from_.length,.sl 1 k6 0 t1.left_.length t1.left_.length]))→(M k4 = some (.cells (Q0 (fun (x:List Qb)=>[V.d (.lst 3 (List.map Qa x))]) t1.from_)))→(M k6 = some (.cells (Q0 (fun (x:Bool)=>[V.d (.bool x)]) t1.left_)))→ACalls P c [.ptr k2 0,(i_ state8)] M nb (.tup [(i_ r.1),(i_ r.2)]) M nb
def Qkk:List COp:=[oo 2 (.box 1) [.t 0],oo 4 .mov [cI 0],oo 5 .mov [cI 0]]
def Qkl:List COp:=[oL 9 2,oo 10 .nilchk [.t 9],oF 11 8 10,oL 12 11,oM 13 1,oo 14 (.idx 1) [.t 12,.t 13],oL 15 14,oo 16 .len [.t 15],oo 17 .mov [cI 0]]
def Qkm:List COp:=[oo 18 (.bin .lss false) [.t 17,.t 16]]
def Qkn:List COp:=[oo 19 (.idx 3) [.t 15,.t 17],oo 20 (.load true 3) [.t 19],oo 7 (.alloc [.d (.int .i64 0),.d (.int .i64 0),.d (.int .i64 0)]) [],⟨none,.store 3,[.t 7,.t 20],false,none⟩]
def Qko:List COp:=[oL 21 2,oo 22 .nilchk [.t 21],oF 23 9 22,oL 24 23,oF 25 2 7,oL 26 25,oo 27 (.idx 1) [.t 24,.t 26],oL 28 27,oo 29 (.un .not) [.t 28],oM 30 29,⟨some 31,.load false 1,[.t 2],false,some (30,true)⟩,⟨some 32,.nilchk,[.t 31],false,some (30,true)⟩,⟨some 33,.fld 0,[.t 32],false,some (30,true)⟩,⟨some 34,.fld 5,[.t 33],false,some (30,true)⟩,⟨some 35,.load false 1,[.t 34],false,some (30,true)⟩,⟨some 36,.fld 1,[.t 7],false,some (30,true)⟩,⟨some 37,.load false 1,[.t 36],false,some (30,true)⟩,⟨some 38,.call 50,[.t 35,.t 37],false,some (30,true)⟩,oo 39 .pick [.t 30,.t 38,.c (.d (.bool false))]]
def Qkp:List COp:=[oF 40 1 7,oL 41 40,oo 4 .mov [cI 2],oM 5 41]
def Qkq:List COp:=[oo 42 (.bin .add false) [.t 17,cI 1],oM 17 42]
def Qkr:List COp:=[oL 43 2,oo 44 .nilchk [.t 43],oF 45 8 44,oL 46 45,oM 47 1,oo 48 (.idx 1) [.t 46,.t 47],oL 49 48,oo 50 (.func 76) [.t 2],oo 51 (.call 40) [.t 49,.t 50],oM 8 51]
def Qks:List COp:=[oM 52 8,oM 53 52,⟨some 54,.load false 1,[.t 2],false,some (53,true)⟩,⟨some 55,.mov,[.t 1],false,some (53,true)⟩,⟨some 56,.call 77,[.t 54,.t 55],false,some (53,true)⟩,⟨some 57,.un .not,[.t 56],false,some (53,true)⟩,oo 58 .pick [.t 53,.t 57,.c (.d (.bool false))]]
def Qkt:List COp:=[oL 59 2,oo 60 .nilchk [.t 59],oF 61 0 60,oF 62 7 61,oL 63 62,oo 4 .mov [cI 4],oM 5 63]
def Qj2:List COp:=[oo 4 .mov [cI 0],oo 5 .mov [cI (-1)]]
def Qdb:CFn:=⟨2,64,[.t 4,.t 5],.seq (.region Qkk 9 []) (.seq (.seq (.region Qkl 9 []) (.block 0 (.loop [7] (.seq (.region Qkm 9 []) (.seq (.cond (.t 18) (.skip) (.exit 0)) (.seq (.block 1 (.seq (.region Qkn 9 []) (.seq (.region Qko 0 []) (.cond (.t 39) (.seq (.region Qkp 0 []) (.ret)) (.skip))))) (.region Qkq 9 []))))))) (.seq (.region Qkr 9 []) (.seq (.seq (.region Qks 9 []) (.cond (.t 58) (.seq (.region Qkt 0 []) (.ret)) (.skip))) (.seq (.region Qj2 9 []) (.ret)))))⟩
def Q9 (Qp:(List Qb)→(Qb→Option Bool)→Option Bool) (Ql:(List Int)→Int→Option Bool) (Q2:Qb→Qi→Option Bool) (Q8:Qi→Int→Option Bool) (fuel:Nat) (t1:Qi) (state8:Int):Option (Int×Int) :=
  ((inO t1.from_.length state8).bind fun u9=>((getO t1.from_ state8).bind fun x11=>Qdu (fun k14 (x13:Int)=>(if (x13 < (x11.length:Int)) then ((getO x11 x13).bind fun x16=>((((inO t1.left_.length x16.To).bind fun u18=>((getO t1.left_ x16.To).bind fun x20=>(if x20 then some false else ((Ql t1.zN.zB x16.Event).bind fun x24=>some x24))))).bind fun (x25:Bool)=>(if x25 then some (2,x16.Event) else k14 (IntKind.wrap .i64 (x13 + 1))))) else ((inO t1.from_.length state8).bind fun u27=>((getO t1.from_ state8).bind fun x29=>((Qp x29 (fun a31=>Q2 a31 t1)).bind fun x35=>(((if x35 then ((Q8 t1 state8).bind fun x38=>some (!x38)) else some false)).bind fun (x39:Bool)=>(if x39 then some (4,t1.zN.Tick) else some (0,(-1))))))))) fuel 0))
def Qb6 (P:Program) (c:Nat) (f:Qi→Option ((List Int))):Prop:=∀ t1 (k2:Nat) (k4:Nat) (k6:Nat) r,f t1 = some r→∀ M nb,(M k2 = some (.cells [(l_ t1.zN.zA.zJ),(i_ t1.zN.zA.zM),(l_ t1.zN.zA.zK),.d (.lst 3 (List.map Qa t1.zN.zA.zL)),(l_ t1.zN.zC),(l_ t1.zN.zB),(l_ t1.zN.zD),(i_ t1.zN.Tick),.sl 1 k4 0 t1.from_.length t1.from_.length,.sl 1 k6 0 t1.left_.length t1.left_.length]))→(M k4 = some (.cells (Q0 (fun (x:List Qb)=>[V.d (.lst 3 (List.map Qa x))]) t1.from_)))→(M k6 = some (.cells (Q0 (fun (x:Bool)=>[V.d (.bool x)]) t1.left_)))→ACalls P c [.ptr k2 0] M nb (l_ r) M nb
def Qi1:List COp:=[ot 2 .mov [.c (.nils 1)]]
def Qi2:List COp:=[oM 9 0,oo 10 .nilchk [.t 9],oF 11 0 10,oF 12 0 11,oF 13 1 12,oL 14 13,oo 15 (.makes 1 8 [.d (.int .i64 0)]) [.t 14,.t 14],ot 3 .mov [.t 15]]
def Qi3:List COp:=[oM 16 3,oo 17 .len [.t 16],oo 18 .mov [cI 0]]
def Qi4:List COp:=[oo 19 (.bin .lss false) [.t 18,.t 17]]
def Qi5:List COp:=[oM 20 18,oM 4 20]
def Qi6:List COp:=[oM 21 3,oM 22 4,oo 23 (.idx 1) [.t 21,.t 22],⟨none,.store 1,[.t 23,cI (-1)],false,none⟩]
def Qi7:List COp:=[oM 24 0,oo 25 .nilchk [.t 24],oF 26 9 25,oL 27 26,oM 28 4,oo 29 (.idx 1) [.t 27,.t 28],oL 30 29,oM 31 30,⟨some 32,.mov,[.t 0],false,some (31,true)⟩,⟨some 33,.nilchk,[.t 32],false,some (31,true)⟩,⟨some 34,.fld 0,[.t 33],false,some (31,true)⟩,⟨some 35,.fld 0,[.t 34],false,some (31,true)⟩,⟨some 36,.fld 2,[.t 35],false,some (31,true)⟩,⟨some 37,.load false 1,[.t 36],false,some (31,true)⟩,⟨some 38,.mov,[.t 4],false,some (31,true)⟩,⟨some 39,.call 50,[.t 37,.t 38],false,some (31,true)⟩,oo 40 .pick [.t 31,.t 39,.c (.d (.bool false))]]
def Qi8:List COp:=[oM 41 3,oM 42 4,oo 43 (.idx 1) [.t 41,.t 42],⟨none,.store 1,[.t 43,cI 0],false,none⟩]
def Qi9:List COp:=[oo 44 (.bin .add false) [.t 18,cI 1],oM 18 44]
def Qja:List COp:=[oo 5 .mov [cI 1],oo 6 .mov [.c (.d (.bool true))]]
def Qh9:List COp:=[oM 45 6]
def Qia:List COp:=[oo 6 .mov [.c (.d (.bool false))]]
def Qib:List COp:=[oM 48 0,oo 49 .nilchk [.t 48],oF 50 0 49,oF 51 0 50,oF 52 3 51,oL 53 52,oo 54 .len [.t 53],oo 55 .mov [cI 0]]
def Qic:List COp:=[oo 56 (.bin .lss false) [.t 55,.t 54]]
def Qid:List COp:=[oo 57 (.idx 3) [.t 53,.t 55],oo 58 (.load true 3) [.t 57],oo 8 (.alloc [.d (.int .i64 0),.d (.int .i64 0),.d (.int .i64 0)]) [],⟨none,.store 3,[.t 8,.t 58],false,none⟩]
def Qie:List COp:=[oM 59 0,oo 60 .nilchk [.t 59],oF 61 9 60,oL 62 61,oF 63 0 8,oL 64 63,oo 65 (.idx 1) [.t 62,.t 64],oL 66 65,oM 67 66,⟨some 68,.mov,[.t 0],false,some (67,true)⟩,⟨some 69,.nilchk,[.t 68],false,some (67,true)⟩,⟨some 70,.fld 9,[.t 69],false,some (67,true)⟩,⟨some 71,.load false 1,[.t 70],false,some (67,true)⟩,⟨some 72,.fld 2,[.t 8],false,some (67,true)⟩,⟨some 73,.load false 1,[.t 72],false,some (67,true)⟩,⟨some 74,.idx 1,[.t 71,.t 73],false,some (67,true)⟩,⟨some 75,.load false 1,[.t 74],false,some (67,true)⟩,oo 76 .pick [.t 67,.t 75,.c (.d (.bool false))],oM 77 76,⟨some 78,.mov,[.t 3],false,some (77,true)⟩,⟨some 79,.fld 0,[.t 8],false,some (77,true)⟩,⟨some 80,.load false 1,[.t 79],false,some (77,true)⟩,⟨some 81,.idx 1,[.t 78,.t 80],false,some (77,true)⟩,⟨some 82,.load false 1,[.t 81],false,some (77,true)⟩,⟨some 83,.bin .lss false,[.t 82,cI 0],false,some (77,true)⟩,oo 84 .pick [.t 77,.t 83,.c (.d (.bool false))],oM 85 84,⟨some 86,.mov,[.t 3],false,some (85,true)⟩,⟨some 87,.fld 2,[.t 8],false,some (85,true)⟩,⟨some 88,.load false 1,[.t 87],false,some (85,true)⟩,⟨some 89,.idx 1,[.t 86,.t 88],false,some (85,true)⟩,⟨some 90,.load false 1,[.t 89],false,some (85,true)⟩,⟨some 91,.mov,[.t 5],false,some (85,true)⟩,⟨some 92,.bin .sub false,[.t 91,cI 1],false,some (85,true)⟩,⟨some 93,.bin .eql false,[.t 90,.t 92],false,some (85,true)⟩,oo 94 .pick [.t 85,.t 93,.c (.d (.bool false))]]
def Qif:List COp:=[oM 95 3,oF 96 0 8,oL 97 96,oM 98 5,oo 99 (.idx 1) [.t 95,.t 97],⟨none,.store 1,[.t 99,.t 98],false,none⟩,oo 6 .mov [.c (.d (.bool true))]]
def Qig:List COp:=[oo 100 (.bin .add false) [.t 55,cI 1],oM 55 100]
def Qih:List COp:=[oM 46 5,oo 47 (.bin .add false) [.t 46,cI 1],oM 5 47]
def Qii:List COp:=[ot 101 .mov [.t 3],ot 2 .mov [.t 101]]
def Qcs:CFn:=⟨1,102,[.t 2],.seq (.region Qi1 9 []) (.seq (.region Qi2 9 []) (.seq (.seq (.region Qi3 9 []) (.block 0 (.loop [] (.seq (.region Qi4 9 []) (.seq (.cond (.t 19) (.skip) (.exit 0)) (.seq (.block 1 (.seq (.region Qi5 9 []) (.seq (.region Qi6 9 []) (.seq (.region Qi7 9 []) (.cond (.t 40) (.region Qi8 9 []) (.skip)))))) (.region Qi9 9 []))))))) (.seq (.seq (.region Qja 9 []) (.block 2 (.loop [8] (.seq (.seq (.region Qh9 9 []) (.cond (.t 45) (.skip) (.exit 2))) (.seq (.block 3 (.seq (.region Qia 9 []) (.seq (.region Qib 9 []) (.block 4 (.loop [8] (.seq (.region Qic 9 []) (.seq (.cond (.t 56) (.skip) (.exit 4)) (.seq (.block 5 (.seq (.region Qid 9 []) (.seq (.region Qie 0 []) (.cond (.t 94) (.region Qif 9 []) (.skip))))) (.region Qig 9 []))))))))) (.region Qih 9 [])))))) (.seq (.region Qii 9 []) (.ret)))))⟩
def Qr (Ql:(List Int)→Int→Option Bool) (fuel:Nat) (t1:Qi):Option ((List Int)) :=
  ((mkO t1.zN.zA.zM 0).bind fun x8=>((Qdu (fun k12 ((x10,c11):Int×(List Int))=>(if (x10 < ((Int.toNat t1.zN.zA.zM):Int)) then ((((inO (Int.toNat t1.zN.zA.zM) x10).bind fun u14=>((setO c11 x10 (-1)).bind fun x16=>((((inO t1.left_.length x10).bind fun u18=>((getO t1.left_ x10).bind fun x20=>(if x20 then ((Ql t1.zN.zA.zK x10).bind fun x24=>some x24) else some false)))).bind fun (x25:Bool)=>(if x25 then ((inO (Int.toNat t1.zN.zA.zM) x10).bind fun u27=>((setO x16 x10 0).bind fun x29=>some x29)) else some x16))))).bind fun (c31:List Int)=>k12 ((IntKind.wrap .i64 (x10 + 1)),c31)) else some c11)) fuel (0,x8)).bind fun (c32:List Int)=>((Qdu (fun k36 ((round33,more34,c35):Int×Bool×(List Int))=>(if more34 then ((Qdu (fun k41 ((more38,x39,c40):Bool×Int×(List Int))=>(if (x39 < (t1.zN.zA.zL.length:Int)) then ((((getO t1.zN.zA.zL x39).bind fun x43=>((((inO t1.left_.length x43.From).bind fun u45=>((getO t1.left_ x43.From).bind fun x47=>(if x47 then ((inO t1.left_.length x43.To).bind fun u50=>((getO t1.left_ x43.To).bind fun x52=>(if x52 then ((inO (Int.toNat t1.zN.zA.zM) x43.From).bind fun u55=>((getO c40 x43.From).bind fun x57=>(if (x57 < 0) then ((inO (Int.toNat t1.zN.zA.zM) x43.To).bind fun u60=>((getO c40 x43.To).bind fun x62=>some (x62 == (IntKind.wrap .i64 (round33 - 1))))) else some false))) else some false))) else some false)))).bind fun (x64:Bool)=>(if x64 then ((inO (Int.toNat t1.zN.zA.zM) x43.From).bind fun u66=>((setO c40 x43.From round33).bind fun x68=>some (true,x68,x43.From,x43.Event,x43.To))) else some (more38,c40,x43.From,x43.Event,x43.To))))).bind fun ((more70,c71,c72,c73,c74):Bool×(List Int)×Int×Int×Int)=>k41 (more70,(IntKind.wrap .i64 (x39 + 1)),c71)) else some (more38,c40))) fuel (false,0,c35)).bind fun ((more75,c76):Bool×(List Int))=>k36 ((IntKind.wrap .i64 (round33 + 1)),more75,c76)) else some c35)) fuel (1,true,c32)).bind fun (c77:List Int)=>((lenO c77 (Int.toNat t1.zN.zA.zM)).bind fun _=>some c77))))
def Qdi (P:Program) (c:Nat) (f:Qi→Int→Option ((List Qn))):Prop:=∀ t1 rank8 (k2:Nat) (k4:Nat) (k6:Nat) r,f t1 rank8 = some r→∀ M nb,(M k2 = some (.cells [(l_ t1.zN.zA.zJ),(i_ t1.zN.zA.zM),(l_ t1.zN.zA.zK),.d (.lst 3 (List.map Qa t1.zN.zA.zL)),(l_ t1.zN.zC),(l_ t1.zN.zB),(l_ t1.zN.zD),(i_ t1.zN.Tick),.sl 1 k4 0 t1.from_.length t1.from_.length,.sl 1 k6 0 t1.left_.length t1.left_.length]))→(M k4 = some (.cells (Q0 (fun (x:List Qb)=>[V.d (.lst 3 (List.map Qa x))]) t1.from_)))→(M k6 = some (.cells (Q0 (fun (x:Bool)=>[V.d (.bool x)]) t1.left_)))→ACalls P c [.ptr k2 0,(i_ rank8)] M nb (.own 4 (List.map Qh r)) M nb
def Qlz:List COp:=[ot 4 .mov [.c (.nils 4)]]
def Ql0:List COp:=[ot 5 .mov [.c (.nils 4)]]
def Ql1:List COp:=[oM 12 0,oo 13 .nilchk [.t 12],oF 14 9 13,oL 15 14,oo 16 .len [.t 15],oo 17 .mov [cI 0]]
def Ql2:List COp:=[oo 18 (.bin .lss false) [.t 17,.t 16]]
def Ql3:List COp:=[oM 19 17,oo 20 (.idx 1) [.t 15,.t 17],oL 21 20,oM 6 19,oM 7 21]
def Ql4:List COp:=[oM 23 0,oM 24 6,oo 25 (.call 53) [.t 23,.t 24],oM 22 25,oo 26 (.extract 0) [.t 22],oo 27 (.extract 1) [.t 22],oM 8 26,oM 9 27]
def Ql5:List COp:=[oM 28 7,oM 29 28,⟨some 30,.mov,[.t 8],false,some (29,true)⟩,⟨some 31,.bin .neq false,[.t 30,cI 0],false,some (29,true)⟩,oo 32 .pick [.t 29,.t 31,.c (.d (.bool false))]]
def Ql6:List COp:=[ot 33 .mov [.t 5],oM 34 6,oM 35 1,oM 36 8,oM 37 9,oo 38 (.build [.d (.int .i64 0),.d (.int .i64 0),.d (.int .i64 0),.d (.int .i64 0)] [(0,1),(1,1),(2,1),(3,1)]) [.t 34,.t 35,.t 36,.t 37],oo 39 (.bslice 4 1 [.d (.int .i64 0),.d (.int .i64 0),.d (.int .i64 0),.d (.int .i64 0)] [0]) [.t 38],ot 40 (.append 4 32) [.t 33,.t 39],ot 5 .mov [.t 40]]
def Ql7:List COp:=[oo 41 (.bin .add false) [.t 17,cI 1],oM 17 41]
def Ql8:List COp:=[oM 42 5,oo 43 .len [.t 42],oo 44 (.bin .gtr false) [.t 43,cI 0]]
def Qku:List COp:=[ot 45 .mov [.t 5],ot 4 .mov [.t 45]]
def Qkv:List COp:=[oM 46 0,oo 47 (.call 39) [.t 46],oo 48 .len [.t 47],oo 49 .mov [cI 0]]
def Qkw:List COp:=[oo 50 (.bin .lss false) [.t 49,.t 48]]
def Qkx:List COp:=[oM 51 49,oo 52 (.idx 1) [.t 47,.t 49],oL 53 52,oM 10 51,oM 11 53]
def Qky:List COp:=[oM 54 0,oo 55 .nilchk [.t 54],oF 56 9 55,oL 57 56,oM 58 10,oo 59 (.idx 1) [.t 57,.t 58],oL 60 59,oM 61 60,⟨some 62,.mov,[.t 11],false,some (61,true)⟩,⟨some 63,.bin .lss false,[.t 62,cI 0],false,some (61,true)⟩,oo 64 .pick [.t 61,.t 63,.c (.d (.bool false))]]
def Qkz:List COp:=[ot 65 .mov [.t 5],oM 66 10,oM 67 1,oo 68 (.build [.d (.int .i64 0),.d (.int .i64 0),.d (.int .i64 0),.d (.int .i64 0)] [(0,1),(1,1),(2,1),(3,1)]) [.t 66,.t 67,cI 3,cI (-1)],oo 69 (.bslice 4 1 [.d (.int .i64 0),.d (.int .i64 0),.d (.int .i64 0),.d (.int .i64 0)] [0]) [.t 68],ot 70 (.append 4 32) [.t 65,.t 69],ot 5 .mov [.t 70]]
def Qk0:List COp:=[oo 71 (.bin .add false) [.t 49,cI 1],oM 49 71]
def Qk1:List COp:=[ot 72 .mov [.t 5],ot 4 .mov [.t 72]]
def Qdj:CFn:=⟨2,73,[.t 4],.seq (.region Qlz 9 []) (.seq (.region Ql0 9 []) (.seq (.seq (.region Ql1 9 []) (.block 0 (.loop [39] (.seq (.region Ql2 9 []) (.seq (.cond (.t 18) (.skip) (.exit 0)) (.seq (.block 1 (.seq (.region Ql3 9 []) (.seq (.region Ql4 9 []) (.seq (.region Ql5 9 []) (.cond (.t 32) (.region Ql6 9 []) (.skip)))))) (.region Ql7 9 []))))))) (.seq (.seq (.region Ql8 9 []) (.cond (.t 44) (.seq (.region Qku 9 []) (.ret)) (.skip))) (.seq (.seq (.region Qkv 9 []) (.block 2 (.loop [69] (.seq (.region Qkw 9 []) (.seq (.cond (.t 50) (.skip) (.exit 2)) (.seq (.block 3 (.seq (.region Qkx 9 []) (.seq (.region Qky 9 []) (.cond (.t 64) (.region Qkz 9 []) (.skip))))) (.region Qk0 9 []))))))) (.seq (.region Qk1 9 []) (.ret))))))⟩
def Qbb (Qr:Qi→Option ((List Int))) (Q9:Qi→Int→Option (Int×Int)) (fuel:Nat) (t1:Qi) (rank8:Int):Option ((List Qn)) :=
  ((Qdu (fun k11 ((out9,x10):(List Qn)×Int)=>(if (x10 < (t1.left_.length:Int)) then ((((inO t1.left_.length x10).bind fun u13=>((getO t1.left_ x10).bind fun x15=>((Q9 t1 x10).bind fun (r18,r19)=>(((if x15 then some (r18 != 0) else some false)).bind fun (x21:Bool)=>(if x21 then ((appO out9 [(Qn.mk x10 rank8 r18 r19)]).bind fun x23=>some x23) else some out9)))))).bind fun (out25:List Qn)=>k11 (out25,(IntKind.wrap .i64 (x10 + 1)))) else some out9)) fuel ([],0)).bind fun (out26:List Qn)=>(if ((out26.length:Int) > 0) then some out26 else ((((Qr t1).bind fun x29=>Qdu (fun k32 ((out30,x31):(List Qn)×Int)=>(if (x31 < (x29.length:Int)) then ((((getO x29 x31).bind fun x34=>((((inO t1.left_.length x31).bind fun u36=>((getO t1.left_ x31).bind fun x38=>(if x38 then some (decide (x34 < 0)) else some false)))).bind fun (x41:Bool)=>(if x41 then ((appO out30 [(Qn.mk x31 rank8 3 (-1))]).bind fun x43=>some x43) else some out30)))).bind fun (out45:List Qn)=>k32 (out45,(IntKind.wrap .i64 (x31 + 1)))) else some out30)) fuel (out26,0))).bind fun (out46:List Qn)=>some out46)))
def Qc2 (P:Program) (c:Nat) (f:Qb→Qc→Qi→Option Bool):Prop:=∀ x1 x2 x5 (k3:Nat) (k6:Nat) (k8:Nat) (k10:Nat) (k12:Nat) r,f x1 x2 x5 = some r→∀ M nb,(M k3 = some (.cells [(l_ x2.zA.zJ),(i_ x2.zA.zM),(l_ x2.zA.zK),.d (.lst 3 (List.map Qa x2.zA.zL)),(l_ x2.zC),(l_ x2.zB),(l_ x2.zD),(i_ x2.Tick)]))→(M k6 = some (.cells [.ptr k8 0]))→(M k8 = some (.cells [(l_ x5.zN.zA.zJ),(i_ x5.zN.zA.zM),(l_ x5.zN.zA.zK),.d (.lst 3 (List.map Qa x5.zN.zA.zL)),(l_ x5.zN.zC),(l_ x5.zN.zB),(l_ x5.zN.zD),(i_ x5.zN.Tick),.sl 1 k10 0 x5.from_.length x5.from_.length,.sl 1 k12 0 x5.left_.length x5.left_.length]))→(M k10 = some (.cells (Q0 (fun (x:List Qb)=>[V.d (.lst 3 (List.map Qa x))]) x5.from_)))→(M k12 = some (.cells (Q0 (fun (x:Bool)=>[V.d (.bool x)]) x5.left_)))→ACalls P c [(Qb0 x1),.ptr k3 0,.ptr k6 0] M nb (b_ r) M nb
def Qj3:List COp:=[oo 3 (.box 3) [.t 0],oo 4 .mov [.c (.d (.bool false))]]
def Qj4:List COp:=[oF 5 1 3,oL 6 5,oF 7 7 1,oL 8 7,oo 9 (.bin .eql false) [.t 6,.t 8],oM 10 9,⟨some 11,.load false 1,[.t 2],false,some (10,true)⟩,⟨some 12,.nilchk,[.t 11],false,some (10,true)⟩,⟨some 13,.fld 9,[.t 12],false,some (10,true)⟩,⟨some 14,.load false 1,[.t 13],false,some (10,true)⟩,⟨some 15,.fld 2,[.t 3],false,some (10,true)⟩,⟨some 16,.load false 1,[.t 15],false,some (10,true)⟩,⟨some 17,.idx 1,[.t 14,.t 16],false,some (10,true)⟩,⟨some 18,.load false 1,[.t 17],false,some (10,true)⟩,⟨some 19,.un .not,[.t 18],false,some (10,true)⟩,oo 20 .pick [.t 10,.t 19,.c (.d (.bool false))],oM 4 20]
def Qc3:CFn:=⟨3,21,[.t 4],.seq (.region Qj3 9 []) (.seq (.region Qj4 0 []) (.ret))⟩
def Q7 (x1:Qb) (x2:Qc) (x5:Qi):Option Bool :=
  (if (x1.Event == x2.Tick) then ((inO x5.left_.length x1.To).bind fun u15=>((getO x5.left_ x1.To).bind fun x17=>some (!x17))) else some false)
def Qjb (P:Program) (c:Nat) (f:(List Int)→Option ((List Int))):Prop:=∀ s1 r,f s1 = some r→∀ M nb,ACalls P c [(l_ s1)] M nb (o_ r) M nb
def Qvt:List COp:=[ot 2 .mov [.c (.nils 1)]]
def Qvu:List COp:=[oM 3 0,oo 4 (.isnil false) [.t 3]]
def Qvv:List COp:=[ot 2 .mov [.c (.nils 1)]]
def Qvw:List COp:=[oo 5 (.bslice 1 0 [.d (.int .i64 0)] []) [],oM 6 0,ot 7 (.append 1 8) [.t 5,.t 6],ot 2 .mov [.t 7]]
def Qjc:CFn:=⟨1,8,[.t 2],.seq (.region Qvt 9 []) (.seq (.seq (.region Qvu 9 []) (.cond (.t 4) (.seq (.region Qvv 9 []) (.ret)) (.skip))) (.seq (.region Qvw 9 []) (.ret)))⟩
def Qca (s1:(List Int)):Option ((List Int)) :=
  (nilO s1 fun b2=>(if b2 then some [] else ((appO [] s1).bind fun x4=>some x4)))
def Qcm (P:Program) (c:Nat) (f:Qi→Option (Qg×(List Int))):Prop:=∀ t1 (k2:Nat) (k4:Nat) (k6:Nat) r,f t1 = some r→∀ M nb,(M k2 = some (.cells [(l_ t1.zN.zA.zJ),(i_ t1.zN.zA.zM),(l_ t1.zN.zA.zK),.d (.lst 3 (List.map Qa t1.zN.zA.zL)),(l_ t1.zN.zC),(l_ t1.zN.zB),(l_ t1.zN.zD),(i_ t1.zN.Tick),.sl 1 k4 0 t1.from_.length t1.from_.length,.sl 1 k6 0 t1.left_.length t1.left_.length]))→(M k4 = some (.cells (Q0 (fun (x:List Qb)=>[V.d (.lst 3 (List.map Qa x))]) t1.from_)))→(M k6 = some (.cells (Q0 (fun (x:Bool)=>[V.d (.bool x)]) t1.left_)))→ACalls P c [.ptr k2 0] M nb (.tup [(Qd r.1),(o_ r.2)]) M nb
def Qij:List COp:=[oo 2 (.alloc [.nils 1,.d (.int .i64 0),.nils 1,.nils 3]) [],ot 3 .mov [.c (.nils 1)]]
def Qik:List COp:=[oM 12 0,oo 13 .nilchk [.t 12],oF 14 0 13,oF 15 0 14,oF 16 0 15,oL 17 16,oo 18 (.call 72) [.t 17],ot 19 (.build [.nils 1,.d (.int .i64 0),.nils 1,.nils 3] [(0,1)]) [.t 18],oo 4 (.alloc [.nils 1,.d (.int .i64 0),.nils 1,.nils 3]) [],⟨none,.store 4,[.t 4,.t 19],true,none⟩]
def Qil:List COp:=[ot 5 .mov [.c (.nils 1)]]
def Qim:List COp:=[oo 20 .mkmap [],oM 6 20]
def Qin:List COp:=[oM 21 0,oo 22 .nilchk [.t 21],oF 23 9 22,oL 24 23,oo 25 .len [.t 24],oo 26 (.bin .gtr false) [.t 25,cI 0],oM 27 26,⟨some 28,.mov,[.t 0],false,some (27,true)⟩,⟨some 29,.nilchk,[.t 28],false,some (27,true)⟩,⟨some 30,.fld 9,[.t 29],false,some (27,true)⟩,⟨some 31,.load false 1,[.t 30],false,some (27,true)⟩,⟨some 32,.idx 1,[.t 31,cI 0],false,some (27,true)⟩,⟨some 33,.load false 1,[.t 32],false,some (27,true)⟩,oo 34 .pick [.t 27,.t 33,.c (.d (.bool false))]]
def Qio:List COp:=[ot 35 .mov [.t 5],oo 36 (.bslice 1 1 [.d (.int .i64 0)] [0]) [cI 0],ot 37 (.append 1 8) [.t 35,.t 36],ot 5 .mov [.t 37]]
def Qip:List COp:=[oM 38 6,⟨none,.mapset (.int .i64),[.t 38,cI 0,cI 0],false,none⟩]
def Qiq:List COp:=[oo 7 .mov [cI 0]]
def Qir:List COp:=[oM 39 7,oM 40 5,oo 41 .len [.t 40],oo 42 (.bin .lss false) [.t 39,.t 41]]
def Qis:List COp:=[oM 45 0,oo 46 .nilchk [.t 45],oF 47 0 46,oF 48 0 47,oF 49 2 48,oL 50 49,oM 51 5,oM 52 7,oo 53 (.idx 1) [.t 51,.t 52],oL 54 53,oo 55 (.call 50) [.t 50,.t 54]]
def Qhp:List COp:=[oF 56 2 4,oo 57 .loadT [.t 56],oM 58 7,oo 59 (.bslice 1 1 [.d (.int .i64 0)] [0]) [.t 58],ot 60 (.append 1 8) [.t 57,.t 59],oF 61 2 4,⟨none,.store 1,[.t 61,.t 60],true,none⟩]
def Qhq:List COp:=[oM 62 0,oo 63 .nilchk [.t 62],oF 64 8 63,oL 65 64,oM 66 5,oM 67 7,oo 68 (.idx 1) [.t 66,.t 67],oL 69 68,oo 70 (.idx 1) [.t 65,.t 69],oL 71 70,oo 72 .len [.t 71],oo 73 .mov [cI 0]]
def Qhr:List COp:=[oo 74 (.bin .lss false) [.t 73,.t 72]]
def Qhs:List COp:=[oo 75 (.idx 3) [.t 71,.t 73],oo 76 (.load true 3) [.t 75],oo 9 (.alloc [.d (.int .i64 0),.d (.int .i64 0),.d (.int .i64 0)]) [],⟨none,.store 3,[.t 9,.t 76],false,none⟩]
def Qht:List COp:=[oM 77 0,oo 78 .nilchk [.t 77],oF 79 9 78,oL 80 79,oF 81 2 9,oL 82 81,oo 83 (.idx 1) [.t 80,.t 82],oL 84 83,oo 85 (.un .not) [.t 84]]
def Qhu:List COp:=[oM 87 6,oF 88 2 9,oL 89 88,oo 90 (.lookup (.int .i64) true (.d (.int .i64 0))) [.t 87,.t 89],oM 86 90,oo 91 (.extract 0) [.t 86],oo 92 (.extract 1) [.t 86],oM 10 91,oM 11 92]
def Qhv:List COp:=[oM 93 11,oo 94 (.un .not) [.t 93]]
def Qhw:List COp:=[oM 95 6,oF 96 2 9,oL 97 96,oM 98 5,oo 99 .len [.t 98],⟨none,.mapset (.int .i64),[.t 95,.t 97,.t 99],false,none⟩]
def Qhx:List COp:=[ot 100 .mov [.t 5],oF 101 2 9,oL 102 101,oo 103 (.bslice 1 1 [.d (.int .i64 0)] [0]) [.t 102],ot 104 (.append 1 8) [.t 100,.t 103],ot 5 .mov [.t 104]]
def Qhy:List COp:=[oF 105 3 4,oo 106 .loadT [.t 105],oM 107 7,oF 108 1 9,oL 109 108,oM 110 6,oF 111 2 9,oL 112 111,oo 113 (.lookup (.int .i64) false (.d (.int .i64 0))) [.t 110,.t 112],oo 114 (.build [.d (.int .i64 0),.d (.int .i64 0),.d (.int .i64 0)] [(0,1),(1,1),(2,1)]) [.t 107,.t 109,.t 113],oo 115 (.bslice 3 1 [.d (.int .i64 0),.d (.int .i64 0),.d (.int .i64 0)] [0]) [.t 114],ot 116 (.append 3 24) [.t 106,.t 115],oF 117 3 4,⟨none,.store 1,[.t 117,.t 116],true,none⟩]
def Qhz:List COp:=[oo 118 (.bin .add false) [.t 73,cI 1],oM 73 118]
def Qh0:List COp:=[oM 43 7,oo 44 (.bin .add false) [.t 43,cI 1],oM 7 44]
def Qh1:List COp:=[oM 119 5,oo 120 .len [.t 119],oF 121 1 4,⟨none,.store 1,[.t 121,.t 120],false,none⟩]
def Qh2:List COp:=[oo 122 (.load true 4) [.t 4],ot 123 .mov [.t 5],⟨none,.store 4,[.t 2,.t 122],true,none⟩,ot 3 .mov [.t 123]]
def Qcn:CFn:=⟨1,124,[.cell 2 true 4,.t 3],.seq (.region Qij 9 []) (.seq (.region Qik 9 []) (.seq (.region Qil 9 []) (.seq (.region Qim 9 []) (.seq (.seq (.region Qin 9 []) (.cond (.t 34) (.seq (.region Qio 9 []) (.region Qip 9 [])) (.skip))) (.seq (.seq (.region Qiq 9 []) (.block 0 (.loop [59,9,103,115] (.seq (.seq (.region Qir 9 []) (.cond (.t 42) (.skip) (.exit 0))) (.seq (.block 1 (.seq (.seq (.region Qis 0 []) (.cond (.t 55) (.region Qhp 9 []) (.skip))) (.seq (.region Qhq 0 []) (.block 2 (.loop [9,103,115] (.seq (.region Qhr 9 []) (.seq (.cond (.t 74) (.skip) (.exit 2)) (.seq (.block 3 (.seq (.region Qhs 9 []) (.seq (.seq (.region Qht 0 []) (.cond (.t 85) (.exit 3) (.skip))) (.seq (.seq (.region Qhu 9 []) (.seq (.region Qhv 9 []) (.cond (.t 94) (.seq (.region Qhw 9 []) (.region Qhx 9 [])) (.skip)))) (.region Qhy 9 []))))) (.region Qhz 9 []))))))))) (.region Qh0 9 [])))))) (.seq (.region Qh1 9 []) (.seq (.region Qh2 9 []) (.ret))))))))⟩
def Qz (Ql:(List Int)→Int→Option Bool) (Qca:(List Int)→Option ((List Int))) (fuel:Nat) (t1:Qi):Option (Qg×(List Int)) :=
  ((Qca t1.zN.zA.zJ).bind fun x9=>(((((if ((t1.left_.length:Int) > 0) then ((inO t1.left_.length 0).bind fun u11=>((getO t1.left_ 0).bind fun x13=>some x13)) else some false)).bind fun (x15:Bool)=>(if x15 then ((appO [] [0]).bind fun x17=>some (x17,(setM ([]:List (Int×Int)) 0 0))) else some ([],[])))).bind fun ((origins19,c20):(List Int)×(List (Int×Int)))=>((Qdu (fun k29 ((origins21,i22,c23,c24,c25,a26,a27,c28):(List Int)×Int×(List Int)×(List Int)×(List Qb)×(List Int)×(List Qb)×(List (Int×Int)))=>(if (i22 < (origins21.length:Int)) then ((((((getO origins21 i22).bind fun x31=>((Ql t1.zN.zA.zK x31).bind fun x34=>(if x34 then ((appO a26 [i22]).bind fun x36=>some x36) else some a26)))).bind fun (a38:List Int)=>((getO origins21 i22).bind fun x39=>((inO t1.from_.length x39).bind fun u41=>((getO t1.from_ x39).bind fun x43=>Qdu (fun k49 ((origins45,x46,a47,c48):(List Int)×Int×(List Qb)×(List (Int×Int)))=>(if (x46 < (x43.length:Int)) then ((((getO x43 x46).bind fun x51=>((inO t1.left_.length x51.To).bind fun u53=>((getO t1.left_ x51.To).bind fun x55=>(if x55 then (((if (hasM c48 x51.To) then some (origins45,c48) else ((appO origins45 [x51.To]).bind fun x59=>some (x59,(setM c48 x51.To (origins45.length:Int)))))).bind fun ((origins61,c62):(List Int)×(List (Int×Int)))=>((appO a47 [(Qb.mk i22 x51.Event (getM c62 x51.To 0))]).bind fun x63=>some (origins61,x63,c62,x51.From,x51.Event,x51.To))) else some (origins45,a47,c48,x51.From,x51.Event,x51.To)))))).bind fun ((origins65,a66,c67,c68,c69,c70):(List Int)×(List Qb)×(List (Int×Int))×Int×Int×Int)=>k49 (origins65,(IntKind.wrap .i64 (x46 + 1)),a66,c67)) else some (origins45,a38,a47,c48))) fuel (origins21,0,a27,c28)))))).bind fun ((origins71,a72,a73,c74):(List Int)×(List Int)×(List Qb)×(List (Int×Int)))=>k29 (origins71,(IntKind.wrap .i64 (i22 + 1)),c23,c24,c25,a72,a73,c74)) else some (origins21,c23,c24,c25,a26,a27,c28))) fuel (origins19,0,[],[],[],[],[],c20)).bind fun ((origins75,c76,c77,c78,a79,a80,c81):(List Int)×(List Int)×(List Int)×(List Qb)×(List Int)×(List Qb)×(List (Int×Int)))=>some ((Qg.mk x9 (origins75.length:Int) a79 a80),origins75))))
def Qdk (P:Program) (c:Nat) (f:Qc→Option (Qbj×Int)):Prop:=∀ p1 r,f p1 = some r→∀ M nb,ACalls P c [.agg [(l_ p1.zA.zJ),(i_ p1.zA.zM),(l_ p1.zA.zK),.d (.lst 3 (List.map Qa p1.zA.zL)),(l_ p1.zC),(l_ p1.zB),(l_ p1.zD),(i_ p1.Tick)]] M nb (.tup [.agg [(l_ r.1.zE.Kept),(l_ r.1.zE.zF),.d (.lst 4 (List.map Qh r.1.zE.zG)),(i_ r.1.Rounds),(l_ r.1.zH.zJ),(i_ r.1.zH.zM),(l_ r.1.zH.zK),.d (.lst 3 (List.map Qa r.1.zH.zL)),(l_ r.1.zO),(l_ r.1.zI)],(i_ r.2)]) M nb
def Ql9:List COp:=[oo 1 (.box 8) [.t 0],oo 2 (.alloc [.nils 1,.nils 1,.nils 4,.d (.int .i64 0),.nils 1,.d (.int .i64 0),.nils 1,.nils 3,.nils 1,.nils 1]) [],oo 3 .mov [cI 0]]
def Qma:List COp:=[oo 17 (.load true 8) [.t 1],oo 18 (.call 30) [.t 17],oM 4 18]
def Qmb:List COp:=[oM 19 4,oo 20 (.bin .neq false) [.t 19,cI 0]]
def Qmc:List COp:=[oo 21 (.build [.nils 1,.nils 1,.nils 4,.d (.int .i64 0),.nils 1,.d (.int .i64 0),.nils 1,.nils 3,.nils 1,.nils 1] []) [],oM 22 4,⟨none,.store 10,[.t 2,.t 21],true,none⟩,oM 3 22]
def Qmd:List COp:=[oo 23 (.load true 8) [.t 1],oo 24 (.call 37) [.t 23],oo 5 (.alloc [.nilp]) [],⟨none,.store 1,[.t 5,.t 24],false,none⟩]
def Qme:List COp:=[oo 6 (.alloc [.nils 1,.nils 1,.nils 4,.d (.int .i64 0),.nils 1,.d (.int .i64 0),.nils 1,.nils 3,.nils 1,.nils 1]) []]
def Qmf:List COp:=[oL 25 5,oo 26 .nilchk [.t 25],oF 27 9 26,oL 28 27,oo 29 .len [.t 28],oo 30 (.makes 4 32 [.d (.int .i64 0),.d (.int .i64 0),.d (.int .i64 0),.d (.int .i64 0)]) [.t 29,.t 29],ot 7 .mov [.t 30]]
def Qmg:List COp:=[oF 31 4 1,oL 32 31,oo 33 .len [.t 32],oo 34 .mov [cI 0]]
def Qmh:List COp:=[oo 35 (.bin .lss false) [.t 34,.t 33]]
def Qmi:List COp:=[oo 36 (.idx 1) [.t 32,.t 34],oL 37 36,oM 9 37]
def Qk2:List COp:=[oM 38 7,oM 39 9,oM 40 9,oo 41 (.build [.d (.int .i64 0),.d (.int .i64 0),.d (.int .i64 0),.d (.int .i64 0)] [(0,1),(1,1),(2,1),(3,1)]) [.t 40,cI 1,cI 1,cI (-1)],oo 42 (.idx 4) [.t 38,.t 39],⟨none,.store 4,[.t 42,.t 41],false,none⟩,oF 43 3 6,⟨none,.store 1,[.t 43,cI 1],false,none⟩]
def Qk3:List COp:=[oo 44 (.bin .add false) [.t 34,cI 1],oM 34 44]
def Qk4:List COp:=[oo 10 .mov [cI 2]]
def Qk5:List COp:=[oL 47 5,oM 48 10,oo 49 (.call 38) [.t 47,.t 48],ot 11 .mov [.t 49]]
def Qk6:List COp:=[oM 50 11,oo 51 .len [.t 50],oo 52 (.bin .eql false) [.t 51,cI 0]]
def Qk7:List COp:=[oM 53 11,oo 54 .len [.t 53],oo 55 .mov [cI 0]]
def Qk8:List COp:=[oo 56 (.bin .lss false) [.t 55,.t 54]]
def Qk9:List COp:=[oo 57 (.idx 4) [.t 53,.t 55],oo 58 (.load true 4) [.t 57],oo 13 (.alloc [.d (.int .i64 0),.d (.int .i64 0),.d (.int .i64 0),.d (.int .i64 0)]) [],⟨none,.store 4,[.t 13,.t 58],false,none⟩]
def Qla:List COp:=[oL 59 5,oo 60 .nilchk [.t 59],oF 61 9 60,oL 62 61,oF 63 0 13,oL 64 63,oM 65 7,oF 66 0 13,oL 67 66,oo 68 (.load true 4) [.t 13],oo 69 (.idx 1) [.t 62,.t 64],⟨none,.store 1,[.t 69,.c (.d (.bool false))],false,none⟩,oo 70 (.idx 4) [.t 65,.t 67],⟨none,.store 4,[.t 70,.t 68],false,none⟩]
def Qlb:List COp:=[oo 71 (.bin .add false) [.t 55,cI 1],oM 55 71]
def Qlc:List COp:=[oM 72 10,oF 73 3 6,⟨none,.store 1,[.t 73,.t 72],false,none⟩]
def Qld:List COp:=[oM 45 10,oo 46 (.bin .add false) [.t 45,cI 1],oM 10 46]
def Qle:List COp:=[oF 74 0 6,oM 14 74]
def Qlf:List COp:=[oL 75 5,oo 76 (.call 39) [.t 75],oo 77 .len [.t 76],oo 78 .mov [cI 0]]
def Qlg:List COp:=[oo 79 (.bin .lss false) [.t 78,.t 77]]
def Qlh:List COp:=[oM 80 78,oo 81 (.idx 1) [.t 76,.t 78],oL 82 81,oM 15 80,oM 16 82]
def Qli:List COp:=[oL 83 5,oo 84 .nilchk [.t 83],oF 85 9 84,oL 86 85,oM 87 15,oo 88 (.idx 1) [.t 86,.t 87],oL 89 88,oo 90 (.un .not) [.t 89]]
def Qlj:List COp:=[oM 91 14,oM 92 14,oo 93 .nilchk [.t 92],oF 94 2 93,oo 95 .loadT [.t 94],oM 96 7,oM 97 15,oo 98 (.idx 4) [.t 96,.t 97],oo 99 (.load true 4) [.t 98],oo 100 (.bslice 4 1 [.d (.int .i64 0),.d (.int .i64 0),.d (.int .i64 0),.d (.int .i64 0)] [0]) [.t 99],ot 101 (.append 4 32) [.t 95,.t 100],oo 102 .nilchk [.t 91],oF 103 2 102,⟨none,.store 1,[.t 103,.t 101],true,none⟩]
def Qlk:List COp:=[oM 104 14,oM 105 14,oM 106 14,oo 107 .nilchk [.t 106],oF 108 0 107,oo 109 .loadT [.t 108],oM 110 15,oo 111 (.bslice 1 1 [.d (.int .i64 0)] [0]) [.t 110],ot 112 (.append 1 8) [.t 109,.t 111],oM 113 14,oo 114 .nilchk [.t 113],oF 115 1 114,oo 116 .loadT [.t 115],oM 117 16,oo 118 (.bslice 1 1 [.d (.int .i64 0)] [0]) [.t 117],ot 119 (.append 1 8) [.t 116,.t 118],oo 120 .nilchk [.t 104],oF 121 0 120,⟨none,.store 1,[.t 121,.t 112],true,none⟩,oo 122 .nilchk [.t 105],oF 123 1 122,⟨none,.store 1,[.t 123,.t 119],true,none⟩]
def Qll:List COp:=[oL 124 5,oo 125 .nilchk [.t 124],oF 126 8 125,oL 127 126,oM 128 15,oo 129 (.idx 1) [.t 127,.t 128],oL 130 129,oo 131 (.func 41) [.t 1,.t 5],oo 132 (.call 40) [.t 130,.t 131]]
def Qlm:List COp:=[oF 133 9 6,oo 134 .loadT [.t 133],oM 135 15,oo 136 (.bslice 1 1 [.d (.int .i64 0)] [0]) [.t 135],ot 137 (.append 1 8) [.t 134,.t 136],oF 138 9 6,⟨none,.store 1,[.t 138,.t 137],true,none⟩]
def Qln:List COp:=[oo 139 (.bin .add false) [.t 78,cI 1],oM 78 139]
def Qlo:List COp:=[oL 141 5,oo 142 (.call 42) [.t 141],oM 140 142,oo 143 (.extract 0) [.t 140],ot 144 (.extract 1) [.t 140],oF 145 4 6,⟨none,.store 4,[.t 145,.t 143],true,none⟩,oF 146 8 6,⟨none,.store 1,[.t 146,.t 144],true,none⟩]
def Qlp:List COp:=[oo 147 (.load true 10) [.t 6],⟨none,.store 10,[.t 2,.t 147],true,none⟩,oo 3 .mov [cI 0]]
def Qdl:CFn:=⟨1,148,[.cell 2 true 10,.t 3],.seq (.region Ql9 9 []) (.seq (.seq (.region Qma 9 []) (.seq (.region Qmb 9 []) (.cond (.t 20) (.seq (.region Qmc 9 []) (.ret)) (.skip)))) (.seq (.region Qmd 9 []) (.seq (.region Qme 9 []) (.seq (.region Qmf 9 []) (.seq (.seq (.region Qmg 9 []) (.block 0 (.loop [] (.seq (.region Qmh 9 []) (.seq (.cond (.t 35) (.skip) (.exit 0)) (.seq (.block 1 (.seq (.region Qmi 9 []) (.region Qk2 9 []))) (.region Qk3 9 []))))))) (.seq (.seq (.region Qk4 9 []) (.block 2 (.loop [13] (.seq (.block 3 (.seq (.region Qk5 9 []) (.seq (.seq (.region Qk6 9 []) (.cond (.t 52) (.exit 2) (.skip))) (.seq (.seq (.region Qk7 9 []) (.block 4 (.loop [13] (.seq (.region Qk8 9 []) (.seq (.cond (.t 56) (.skip) (.exit 4)) (.seq (.block 5 (.seq (.region Qk9 9 []) (.region Qla 0 [⟨66,1,69,1⟩,⟨13,4,69,1⟩]))) (.region Qlb 9 []))))))) (.region Qlc 9 []))))) (.region Qld 9 []))))) (.seq (.region Qle 9 []) (.seq (.seq (.region Qlf 9 []) (.block 6 (.loop [100,111,118,136] (.seq (.region Qlg 9 []) (.seq (.cond (.t 79) (.skip) (.exit 6)) (.seq (.block 7 (.seq (.region Qlh 9 []) (.seq (.seq (.region Qli 9 []) (.cond (.t 90) (.seq (.region Qlj 0 []) (.exit 7)) (.skip))) (.seq (.region Qlk 0 [⟨108,1,115,1⟩]) (.seq (.region Qll 9 []) (.cond (.t 132) (.region Qlm 9 []) (.skip))))))) (.region Qln 9 []))))))) (.seq (.region Qlo 9 []) (.seq (.region Qlp 9 []) (.ret)))))))))))⟩
def Q4 (Qbp:Qc→Option Int) (Qbq:Qc→Option Qi) (Qbb:Qi→Int→Option ((List Qn))) (Qr:Qi→Option ((List Int))) (Qp:(List Qb)→(Qb→Option Bool)→Option Bool) (Q7:Qb→Qc→Qi→Option Bool) (Qz:Qi→Option (Qg×(List Int))) (fuel:Nat) (p1:Qc):Option (Qbj×Int) :=
  ((Qbp p1).bind fun x3=>(if (x3 != 0) then some ((Qbj.mk (Qeb.mk [] [] []) 0 (Qg.mk [] 0 [] []) [] []),x3) else ((Qbq p1).bind fun x5=>((mkO (x5.left_.length:Int) (Qn.mk 0 0 0 0)).bind fun x7=>((Qdu (fun k12 ((x9,r10,c11):Int×Int×(List Qn))=>(if (x9 < (p1.zC.length:Int)) then ((getO p1.zC x9).bind fun x14=>((inO (Int.toNat (x5.left_.length:Int)) x14).bind fun u16=>((setO c11 x14 (Qn.mk x14 1 1 (-1))).bind fun x18=>k12 ((IntKind.wrap .i64 (x9 + 1)),1,x18)))) else some (r10,c11))) fuel (0,0,x7)).bind fun ((r20,c21):Int×(List Qn))=>((Qdu (fun k26 ((rank22,r23,c24,c25):Int×Int×(List Qn)×(List Bool))=>((lenO c25 x5.left_.length).bind fun _=>((Qbb (Qi.mk x5.zN x5.from_ c25) rank22).bind fun x29=>(if ((x29.length:Int) == 0) then some (r23,c24,c25) else ((Qdu (fun k34 ((x31,c32,c33):Int×(List Qn)×(List Bool))=>(if (x31 < (x29.length:Int)) then ((getO x29 x31).bind fun x36=>((inO x5.left_.length x36.State).bind fun u38=>((setO c33 x36.State false).bind fun x40=>((inO (Int.toNat (x5.left_.length:Int)) x36.State).bind fun u42=>((setO c32 x36.State x36).bind fun x44=>k34 ((IntKind.wrap .i64 (x31 + 1)),x44,x40)))))) else some (c32,c33))) fuel (0,c24,c25)).bind fun ((c46,c47):(List Qn)×(List Bool))=>k26 ((IntKind.wrap .i64 (rank22 + 1)),rank22,c46,c47)))))) fuel (2,r20,c21,x5.left_)).bind fun ((r48,c49,c50):Int×(List Qn)×(List Bool))=>((((lenO c50 x5.left_.length).bind fun _=>((Qr (Qi.mk x5.zN x5.from_ c50)).bind fun x53=>Qdu (fun k71 ((x54,c55,c56,c57,c58,c59,c60,c61,c62,r63,r64,r65,r66,r67,r68,r69,r70):Int×(List Int)×(List Int)×(List Qn)×(List Int)×(List Int)×(List Qb)×(List Int)×(List Int)×(List Int)×(List Int)×(List Qn)×(List Int)×(List Int)×(List Qb)×(List Int)×(List Int))=>(if (x54 < (x53.length:Int)) then ((((getO x53 x54).bind fun x73=>((inO x5.left_.length x54).bind fun u75=>((getO c50 x54).bind fun x77=>(if x77 then ((appO r63 [x54]).bind fun x86=>((appO r64 [x73]).bind fun x88=>((inO x5.from_.length x54).bind fun u90=>((getO x5.from_ x54).bind fun x92=>((lenO c50 x5.left_.length).bind fun _=>((Qp x92 (fun a94=>Q7 a94 p1 (Qi.mk x5.zN x5.from_ c50))).bind fun x99=>(if x99 then ((appO r70 [x54]).bind fun x101=>some (x86,x88,r65,x101)) else some (x86,x88,r65,r70)))))))) else ((inO (Int.toNat (x5.left_.length:Int)) x54).bind fun u80=>((getO c49 x54).bind fun x82=>((appO r65 [x82]).bind fun x84=>some (r63,r64,x84,r70))))))))).bind fun ((r103,r104,r105,r106):(List Int)×(List Int)×(List Qn)×(List Int))=>k71 ((IntKind.wrap .i64 (x54 + 1)),c55,c56,c57,c58,c59,c60,c61,c62,r103,r104,r105,r66,r67,r68,r69,r106)) else some (c55,c56,c57,c58,c59,c60,c61,c62,r63,r64,r65,r66,r67,r68,r69,r70))) fuel (0,[],[],[],[],[],[],[],[],[],[],[],[],[],[],[],[])))).bind fun ((c107,c108,c109,c110,c111,c112,c113,c114,r115,r116,r117,r118,r119,r120,r121,r122):(List Int)×(List Int)×(List Qn)×(List Int)×(List Int)×(List Qb)×(List Int)×(List Int)×(List Int)×(List Int)×(List Qn)×(List Int)×(List Int)×(List Qb)×(List Int)×(List Int))=>((lenO c50 x5.left_.length).bind fun _=>((Qz (Qi.mk x5.zN x5.from_ c50)).bind fun (r125,r126)=>some ((Qbj.mk (Qeb.mk r115 r116 r117) r48 r125 r126 r122),0))))))))))
def Qdm (P:Program) (c:Nat) (f:Int→Int→Int→Int→Int→Option Int):Prop:=∀ state1 x2 x3 x6 x9 (k4:Nat) (k7:Nat) (k10:Nat) r,f state1 x2 x3 x6 x9 = some r→∀ M nb,(M k4 = some (.cells [(i_ x3)]))→(M k7 = some (.cells [(i_ x6)]))→(M k10 = some (.cells [(i_ x9)]))→ACalls P c [(i_ state1),(i_ x2),.ptr k4 0,.ptr k7 0,.ptr k10 0] M nb (i_ r) M nb
def Qmj:List COp:=[oo 7 .mov [cI 0]]
def Qmk:List COp:=[oM 9 1,oL 10 2,oo 11 (.bin .eql false) [.t 9,.t 10],oM 8 11]
def Qml:List COp:=[oM 12 0,oM 7 12]
def Qmm:List COp:=[oM 14 1,oL 15 3,oo 16 (.bin .eql false) [.t 14,.t 15],oM 13 16]
def Qmn:List COp:=[oo 7 .mov [cI 0]]
def Qmo:List COp:=[oM 18 0,oL 19 4,oo 20 (.bin .leq false) [.t 18,.t 19],oM 17 20]
def Qmp:List COp:=[oM 21 0,oo 22 (.bin .add false) [.t 21,cI 1],oM 7 22]
def Qmq:List COp:=[oo 7 .mov [cI (-1)]]
def Qdn:CFn:=⟨5,23,[.t 7],.seq (.region Qmj 9 []) (.seq (.block 0 (.seq (.region Qmk 9 []) (.cond (.t 8) (.seq (.region Qml 9 []) (.ret)) (.seq (.region Qmm 9 []) (.cond (.t 13) (.seq (.region Qmn 9 []) (.ret)) (.seq (.region Qmo 9 []) (.cond (.t 17) (.seq (.region Qmp 9 []) (.ret)) (.skip)))))))) (.seq (.region Qmq 9 []) (.ret)))⟩
def Q5 (state1:Int) (x2:Int) (x3:Int) (x6:Int) (x9:Int):Option Int :=
  (if (x2 == x3) then some state1 else (if (x2 == x6) then some 0 else (if (state1≤x9) then some (IntKind.wrap .i64 (state1 + 1)) else some (-1))))
def Qds (P:Program) (c:Nat) (f:Int→Int→Int→Int→Bool→(Int→Int→Option Int)→Option (Qg×Int)):Prop:=∀ xfrom1 to2 ticks3 tick4 marked5 lead6 (g7:Nat) (cp8:List V) r,f xfrom1 to2 ticks3 tick4 marked5 lead6 = some r→∀ M nb,(V.dems cp8 = cp8)→(V.ons (There M) cp8)→(∀ a12 a13 r,lead6 a12 a13 = some r→∀ M2 nb2,nb≤nb2→Ext M M2→ACalls P g7 ([(i_ a12),(i_ a13)] ++ cp8) M2 nb2 (i_ r) M2 nb2)→ACalls P c [(i_ xfrom1),(i_ to2),(i_ ticks3),(i_ tick4),(b_ marked5),.clo g7 cp8] M nb (.tup [(Qd r.1),(i_ r.2)]) M nb
def Qrl:List COp:=[oo 12 (.alloc [.nils 1,.d (.int .i64 0),.nils 1,.nils 3]) [],oo 13 .mov [cI 0]]
def Qrm:List COp:=[oM 20 0,oo 21 (.call 65) [.t 20],oo 22 (.un .not) [.t 21],oM 23 22,⟨some 24,.mov,[.t 1],false,some (23,false)⟩,⟨some 25,.call 65,[.t 24],false,some (23,false)⟩,⟨some 26,.un .not,[.t 25],false,some (23,false)⟩,oo 27 .pick [.t 23,.c (.d (.bool true)),.t 26],oM 28 27,⟨some 29,.mov,[.t 3],false,some (28,false)⟩,⟨some 30,.call 65,[.t 29],false,some (28,false)⟩,⟨some 31,.un .not,[.t 30],false,some (28,false)⟩,oo 32 .pick [.t 28,.c (.d (.bool true)),.t 31],oM 19 32]
def Qrn:List COp:=[oo 33 (.build [.nils 1,.d (.int .i64 0),.nils 1,.nils 3] []) [],⟨none,.store 4,[.t 12,.t 33],true,none⟩,oo 13 .mov [cI 2]]
def Qro:List COp:=[oM 35 0,oM 36 1,oo 37 (.bin .eql false) [.t 35,.t 36],oM 38 37,⟨some 39,.mov,[.t 0],false,some (38,false)⟩,⟨some 40,.mov,[.t 3],false,some (38,false)⟩,⟨some 41,.bin .eql false,[.t 39,.t 40],false,some (38,false)⟩,oo 42 .pick [.t 38,.c (.d (.bool true)),.t 41],oM 43 42,⟨some 44,.mov,[.t 1],false,some (43,false)⟩,⟨some 45,.mov,[.t 3],false,some (43,false)⟩,⟨some 46,.bin .eql false,[.t 44,.t 45],false,some (43,false)⟩,oo 47 .pick [.t 43,.c (.d (.bool true)),.t 46],oM 34 47]
def Qrp:List COp:=[oo 48 (.build [.nils 1,.d (.int .i64 0),.nils 1,.nils 3] []) [],⟨none,.store 4,[.t 12,.t 48],true,none⟩,oo 13 .mov [cI 13]]
def Qrq:List COp:=[oM 50 2,oo 51 (.bin .lss false) [.t 50,cI 0],oM 52 51,⟨some 53,.mov,[.t 2],false,some (52,false)⟩,⟨some 54,.bin .gtr false,[.t 53,cI 16],false,some (52,false)⟩,oo 55 .pick [.t 52,.c (.d (.bool true)),.t 54],oM 49 55]
def Qrr:List COp:=[oo 56 (.build [.nils 1,.d (.int .i64 0),.nils 1,.nils 3] []) [],⟨none,.store 4,[.t 12,.t 56],true,none⟩,oo 13 .mov [cI 2]]
def Qrs:List COp:=[oM 57 0,oM 58 1,oM 59 3,oo 60 (.bslice 1 3 [.d (.int .i64 0)] [0,1,2]) [.t 57,.t 58,.t 59],oM 61 2,oo 62 (.bin .add false) [.t 61,cI 2],ot 63 (.build [.nils 1,.d (.int .i64 0),.nils 1,.nils 3] [(0,1),(1,1)]) [.t 60,.t 62],oo 14 (.alloc [.nils 1,.d (.int .i64 0),.nils 1,.nils 3]) [],⟨none,.store 4,[.t 14,.t 63],true,none⟩]
def Qrt:List COp:=[oF 64 0 14,oL 65 64,oo 66 (.call 73) [.t 65]]
def Qru:List COp:=[oF 67 1 14,oL 68 67,oo 69 .mov [cI 0]]
def Qpr:List COp:=[oo 70 (.bin .lss false) [.t 69,.t 68]]
def Qps:List COp:=[oM 71 69,oM 15 71]
def Qpt:List COp:=[oM 72 15,oo 73 (.bin .eql false) [.t 72,cI 0],oM 74 73,⟨some 75,.mov,[.t 4],false,some (74,false)⟩,oo 76 .pick [.t 74,.c (.d (.bool true)),.t 75]]
def Qpu:List COp:=[oF 77 2 14,oo 78 .loadT [.t 77],oM 79 15,oo 80 (.bslice 1 1 [.d (.int .i64 0)] [0]) [.t 79],ot 81 (.append 1 8) [.t 78,.t 80],oF 82 2 14,⟨none,.store 1,[.t 82,.t 81],true,none⟩]
def Qpv:List COp:=[oF 83 0 14,oL 84 83,oo 85 .len [.t 84],oo 86 .mov [cI 0]]
def Qpw:List COp:=[oo 87 (.bin .lss false) [.t 86,.t 85]]
def Qpx:List COp:=[oo 88 (.idx 1) [.t 84,.t 86],oL 89 88,oM 17 89]
def Qpy:List COp:=[oM 90 5,oM 91 15,oM 92 17,oo 93 .callv [.t 90,.t 91,.t 92],oM 18 93]
def Qpz:List COp:=[oM 94 15,oo 95 (.bin .eql false) [.t 94,cI 0]]
def Qp0:List COp:=[oo 18 .mov [cI 0]]
def Qp1:List COp:=[oM 96 17,oM 97 0,oo 98 (.bin .eql false) [.t 96,.t 97]]
def Qp2:List COp:=[oo 18 .mov [cI 1]]
def Qp3:List COp:=[oM 99 18,oo 100 (.bin .neq false) [.t 99,cI (-1)]]
def Qp4:List COp:=[oF 101 3 14,oo 102 .loadT [.t 101],oM 103 15,oM 104 17,oM 105 18,oo 106 (.build [.d (.int .i64 0),.d (.int .i64 0),.d (.int .i64 0)] [(0,1),(1,1),(2,1)]) [.t 103,.t 104,.t 105],oo 107 (.bslice 3 1 [.d (.int .i64 0),.d (.int .i64 0),.d (.int .i64 0)] [0]) [.t 106],ot 108 (.append 3 24) [.t 102,.t 107],oF 109 3 14,⟨none,.store 1,[.t 109,.t 108],true,none⟩]
def Qp5:List COp:=[oo 110 (.bin .add false) [.t 86,cI 1],oM 86 110]
def Qp6:List COp:=[oo 111 (.bin .add false) [.t 69,cI 1],oM 69 111]
def Qp7:List COp:=[oo 112 (.load true 4) [.t 14],⟨none,.store 4,[.t 12,.t 112],true,none⟩,oo 13 .mov [cI 0]]
def Qgb:CFn:=⟨6,113,[.cell 12 true 4,.t 13],.seq (.region Qrl 9 []) (.seq (.block 0 (.seq (.region Qrm 9 []) (.cond (.t 19) (.seq (.region Qrn 9 []) (.ret)) (.seq (.region Qro 9 []) (.cond (.t 34) (.seq (.region Qrp 9 []) (.ret)) (.seq (.region Qrq 9 []) (.cond (.t 49) (.seq (.region Qrr 9 []) (.ret)) (.skip)))))))) (.seq (.region Qrs 9 []) (.seq (.region Qrt 9 []) (.seq (.seq (.region Qru 9 []) (.block 1 (.loop [80,107] (.seq (.region Qpr 9 []) (.seq (.cond (.t 70) (.skip) (.exit 1)) (.seq (.block 2 (.seq (.region Qps 9 []) (.seq (.seq (.region Qpt 9 []) (.cond (.t 76) (.region Qpu 9 []) (.skip))) (.seq (.region Qpv 9 []) (.block 3 (.loop [107] (.seq (.region Qpw 9 []) (.seq (.cond (.t 87) (.skip) (.exit 3)) (.seq (.block 4 (.seq (.region Qpx 9 []) (.seq (.region Qpy 9 []) (.seq (.seq (.region Qpz 9 []) (.cond (.t 95) (.seq (.region Qp0 9 []) (.seq (.region Qp1 9 []) (.cond (.t 98) (.region Qp2 9 []) (.skip)))) (.skip))) (.seq (.region Qp3 9 []) (.cond (.t 100) (.region Qp4 9 []) (.skip))))))) (.region Qp5 9 [])))))))))) (.region Qp6 9 []))))))) (.seq (.region Qp7 9 []) (.ret))))))⟩
def Qu (Qt:Int→Option Bool) (f_slices_Sort_int:List Int→Option (List Int)) (fuel:Nat) (xfrom1:Int) (to2:Int) (ticks3:Int) (tick4:Int) (marked5:Bool) (lead6:(Int→Int→Option Int)):Option (Qg×Int) :=
  ((((Qt xfrom1).bind fun x15=>(if x15 then ((Qt to2).bind fun x18=>(if x18 then ((Qt tick4).bind fun x21=>some (!x21)) else some true)) else some true))).bind fun (x22:Bool)=>(if x22 then some ((Qg.mk [] 0 [] []),2) else (((if (xfrom1 == to2) then some true else (if (xfrom1 == tick4) then some true else some (to2 == tick4)))).bind fun (x26:Bool)=>(if x26 then some ((Qg.mk [] 0 [] []),13) else (((if (ticks3 < 0) then some true else some (decide (ticks3 > 16)))).bind fun (x29:Bool)=>(if x29 then some ((Qg.mk [] 0 [] []),2) else ((f_slices_Sort_int [xfrom1,to2,tick4]).bind fun row31=>((Qdu (fun k44 ((x36,x37,c38,c39,c40,a41,a42,a43):Int×Int×(List Int)×(List Int)×(List Qb)×Int×(List Int)×(List Qb))=>(if (x37 < x36) then (((((((if (x37 == 0) then some true else some marked5)).bind fun (x47:Bool)=>(if x47 then ((appO a42 [x37]).bind fun x49=>some x49) else some a42))).bind fun (a51:List Int)=>Qdu (fun k54 ((x52,a53):Int×(List Qb))=>(if (x52 < (3:Int)) then ((((inO 3 x52).bind fun u56=>((getO row31 x52).bind fun x58=>((lead6 x37 x58).bind fun x61=>(((if (x37 == 0) then (if (x58 == xfrom1) then some 1 else some 0) else some x61)).bind fun (next64:Int)=>(if (next64 != (-1)) then ((appO a53 [(Qb.mk x37 x58 next64)]).bind fun x66=>some x66) else some a53)))))).bind fun (a68:List Qb)=>k54 ((IntKind.wrap .i64 (x52 + 1)),a68)) else some (a51,a53))) fuel (0,a43))).bind fun ((a69,a70):(List Int)×(List Qb))=>k44 (x36,(IntKind.wrap .i64 (x37 + 1)),c38,c39,c40,a41,a69,a70)) else some (c38,c39,c40,a41,a42,a43))) fuel ((IntKind.wrap .i64 (ticks3 + 2)),0,[],[],[],(IntKind.wrap .i64 (ticks3 + 2)),[],[])).bind fun ((c71,c72,c73,a74,a75,a76):(List Int)×(List Int)×(List Qb)×Int×(List Int)×(List Qb))=>((lenO row31 3).bind fun _=>some ((Qg.mk row31 a74 a75 a76),0))))))))))
def Qcu (P:Program) (c:Nat) (f:Int→Int→Int→Int→Option (Qg×Int)):Prop:=∀ xfrom1 to2 ticks3 tick4 r,f xfrom1 to2 ticks3 tick4 = some r→∀ M nb,ACalls P c [(i_ xfrom1),(i_ to2),(i_ ticks3),(i_ tick4)] M nb (.tup [(Qd r.1),(i_ r.2)]) M nb
def Qn1:List COp:=[oo 4 (.box 1) [.t 0],oo 5 (.box 1) [.t 1],oo 6 (.box 1) [.t 2],oo 8 (.alloc [.nils 1,.d (.int .i64 0),.nils 1,.nils 3]) [],oo 9 .mov [cI 0]]
def Qn2:List COp:=[oL 10 4,oL 11 5,oL 12 6,oM 13 3,oo 14 (.func 48) [.t 4,.t 5,.t 6],oo 15 (.call 47) [.t 10,.t 11,.t 12,.t 13,.c (.d (.bool false)),.t 14],oo 16 (.extract 0) [.t 15],oo 17 (.extract 1) [.t 15],⟨none,.store 4,[.t 8,.t 16],true,none⟩,oM 9 17]
def Qd1:CFn:=⟨4,18,[.cell 8 true 4,.t 9],.seq (.region Qn1 9 []) (.seq (.region Qn2 9 []) (.ret))⟩
def Qs (Qu:Int→Int→Int→Int→Bool→(Int→Int→Option Int)→Option (Qg×Int)) (Q5:Int→Int→Int→Int→Int→Option Int) (xfrom1:Int) (to2:Int) (ticks3:Int) (tick4:Int):Option (Qg×Int) :=
  ((Qu xfrom1 to2 ticks3 tick4 false (fun a5 a6=>Q5 a5 a6 xfrom1 to2 ticks3)).bind fun (r10,r11)=>some (r10,r11))
def Qgq (P:Program) (c:Nat) (f:(List Int)→(List Int)→Option Bool):Prop:=∀ s1 s2 r,f s1 s2 = some r→∀ M nb,ACalls P c [(l_ s1),(l_ s2)] M nb (b_ r) M nb
def Qvx:List COp:=[oo 4 .mov [.c (.d (.bool false))]]
def Qvy:List COp:=[oM 6 0,oo 7 .len [.t 6],oM 8 1,oo 9 .len [.t 8],oo 10 (.bin .neq false) [.t 7,.t 9]]
def Qvz:List COp:=[oo 4 .mov [.c (.d (.bool false))]]
def Qv0:List COp:=[oM 11 0,oo 12 .len [.t 11],oo 13 .mov [cI 0]]
def Qv1:List COp:=[oo 14 (.bin .lss false) [.t 13,.t 12]]
def Qv2:List COp:=[oM 15 13,oM 5 15]
def Qv3:List COp:=[oM 16 0,oM 17 5,oo 18 (.idx 1) [.t 16,.t 17],oL 19 18,oM 20 1,oM 21 5,oo 22 (.idx 1) [.t 20,.t 21],oL 23 22,oo 24 (.bin .neq false) [.t 19,.t 23]]
def Qv4:List COp:=[oo 4 .mov [.c (.d (.bool false))]]
def Qv5:List COp:=[oo 25 (.bin .add false) [.t 13,cI 1],oM 13 25]
def Qv6:List COp:=[oo 4 .mov [.c (.d (.bool true))]]
def Qjd:CFn:=⟨2,26,[.t 4],.seq (.region Qvx 9 []) (.seq (.seq (.region Qvy 9 []) (.cond (.t 10) (.seq (.region Qvz 9 []) (.ret)) (.skip))) (.seq (.seq (.region Qv0 9 []) (.block 0 (.loop [] (.seq (.region Qv1 9 []) (.seq (.cond (.t 14) (.skip) (.exit 0)) (.seq (.block 1 (.seq (.region Qv2 9 []) (.seq (.region Qv3 0 []) (.cond (.t 24) (.seq (.region Qv4 9 []) (.ret)) (.skip))))) (.region Qv5 9 []))))))) (.seq (.region Qv6 9 []) (.ret))))⟩
def Q6 (fuel:Nat) (s1:(List Int)) (s2:(List Int)):Option Bool :=
  (if ((s1.length:Int) != (s2.length:Int)) then some false else Qdu (fun k5 (x4:Int)=>(if (x4 < (s1.length:Int)) then ((getO s1 x4).bind fun x7=>((getO s2 x4).bind fun x9=>(if (x7 != x9) then some false else k5 (IntKind.wrap .i64 (x4 + 1))))) else some true)) fuel 0)
def Quf (P:Program) (c:Nat) (f:(List Int)→(List Int)→Option Bool):Prop:=∀ a1 b2 r,f a1 b2 = some r→∀ M nb,ACalls P c [(l_ a1),(l_ b2)] M nb (b_ r) M nb
def Q0o:List COp:=[oo 4 .mov [.c (.d (.bool false))]]
def Q0p:List COp:=[oM 5 0,oM 6 1,oo 7 (.call 45) [.t 5,.t 6],oM 4 7]
def Qug:CFn:=⟨2,8,[.t 4],.seq (.region Q0o 9 []) (.seq (.region Q0p 9 []) (.ret))⟩
def Qeh (Q6:(List Int)→(List Int)→Option Bool) (a1:(List Int)) (b2:(List Int)):Option Bool :=
  ((Q6 a1 b2).bind fun x4=>some x4)
def Qg0 (P:Program) (c:Nat) (f:Option Bool):Prop:=∀ r,f = some r→∀ M nb,ACalls P c [] M nb (b_ r) M nb
def Qsk:List COp:=[oo 0 .mov [.c (.d (.bool false))]]
def Qsl:List COp:=[oo 8 (.bslice 1 1 [.d (.int .i64 0)] [0]) [cI 0],oo 9 (.call 35) [.t 8],oo 10 (.call 11) [.t 9],oM 7 10,oo 11 (.extract 0) [.t 7],oo 12 (.extract 1) [.t 7],oo 1 (.alloc [.nils 1,.nils 1,.nils 4,.d (.int .i64 0),.nils 1,.d (.int .i64 0),.nils 1,.nils 3,.nils 1,.nils 1]) [],⟨none,.store 10,[.t 1,.t 11],true,none⟩,oM 2 12]
def Qsm:List COp:=[oo 14 (.call 35) [.c (.nils 1)],oo 15 (.call 11) [.t 14],oM 13 15,oo 16 (.extract 0) [.t 13],oo 17 (.extract 1) [.t 13],oo 3 (.alloc [.nils 1,.nils 1,.nils 4,.d (.int .i64 0),.nils 1,.d (.int .i64 0),.nils 1,.nils 3,.nils 1,.nils 1]) [],⟨none,.store 10,[.t 3,.t 16],true,none⟩,oM 4 17]
def Qsn:List COp:=[oo 19 (.call 17) [cI 0,cI 1,cI 1,cI 2],oM 18 19,oo 20 (.extract 0) [.t 18],oo 21 (.extract 1) [.t 18],oo 5 (.alloc [.nils 1,.d (.int .i64 0),.nils 1,.nils 3]) [],⟨none,.store 4,[.t 5,.t 20],true,none⟩,oM 6 21]
def Qso:List COp:=[oM 22 2,oo 23 (.bin .eql false) [.t 22,cI 0],oM 24 23,⟨some 25,.fld 9,[.t 1],false,some (24,true)⟩,⟨some 26,.load false 1,[.t 25],false,some (24,true)⟩,⟨some 27,.bslice 1 1 [.d (.int .i64 0)] [0],[cI 0],false,some (24,true)⟩,⟨some 28,.call 16,[.t 26,.t 27],false,some (24,true)⟩,oo 29 .pick [.t 24,.t 28,.c (.d (.bool false))],oM 30 29,⟨some 31,.fld 9,[.t 1],false,some (30,true)⟩,⟨some 32,.load false 1,[.t 31],false,some (30,true)⟩,⟨some 33,.len,[.t 32],false,some (30,true)⟩,⟨some 34,.bin .eql false,[.t 33,cI 1],false,some (30,true)⟩,oo 35 .pick [.t 30,.t 34,.c (.d (.bool false))],oM 36 35,⟨some 37,.fld 4,[.t 1],false,some (36,true)⟩,⟨some 38,.fld 1,[.t 37],false,some (36,true)⟩,⟨some 39,.load false 1,[.t 38],false,some (36,true)⟩,⟨some 40,.bin .eql false,[.t 39,cI 1],false,some (36,true)⟩,oo 41 .pick [.t 36,.t 40,.c (.d (.bool false))],oM 42 41,⟨some 43,.mov,[.t 4],false,some (42,true)⟩,⟨some 44,.bin .eql false,[.t 43,cI 0],false,some (42,true)⟩,oo 45 .pick [.t 42,.t 44,.c (.d (.bool false))],oM 46 45,⟨some 47,.fld 0,[.t 3],false,some (46,true)⟩,⟨some 48,.fld 2,[.t 47],false,some (46,true)⟩,⟨some 49,.load false 1,[.t 48],false,some (46,true)⟩,⟨some 50,.len,[.t 49],false,some (46,true)⟩,⟨some 51,.bin .eql false,[.t 50,cI 2],false,some (46,true)⟩,oo 52 .pick [.t 46,.t 51,.c (.d (.bool false))],oM 53 52,⟨some 54,.fld 0,[.t 3],false,some (53,true)⟩,⟨some 55,.fld 2,[.t 54],false,some (53,true)⟩,⟨some 56,.load false 1,[.t 55],false,some (53,true)⟩,⟨some 57,.idx 4,[.t 56,cI 0],false,some (53,true)⟩,⟨some 58,.load true 4,[.t 57],false,some (53,true)⟩,⟨some 59,.build [.d (.int .i64 0),.d (.int .i64 0),.d (.int .i64 0),.d (.int .i64 0)] [(0,1),(1,1),(2,1),(3,1)],[cI 0,cI 2,cI 4,cI 2],false,some (53,true)⟩,⟨some 60,.eqa false [0,0,0,0],[.t 58,.t 59],false,some (53,true)⟩,oo 61 .pick [.t 53,.t 60,.c (.d (.bool false))],oM 62 61,⟨some 63,.mov,[.t 6],false,some (62,true)⟩,⟨some 64,.bin .eql false,[.t 63,cI 0],false,some (62,true)⟩,oo 65 .pick [.t 62,.t 64,.c (.d (.bool false))],oM 66 65,⟨some 67,.fld 1,[.t 5],false,some (66,true)⟩,⟨some 68,.load false 1,[.t 67],false,some (66,true)⟩,⟨some 69,.bin .eql false,[.t 68,cI 3],false,some (66,true)⟩,oo 70 .pick [.t 66,.t 69,.c (.d (.bool false))],oM 71 70,⟨some 72,.fld 3,[.t 5],false,some (71,true)⟩,⟨some 73,.load false 1,[.t 72],false,some (71,true)⟩,⟨some 74,.len,[.t 73],false,some (71,true)⟩,⟨some 75,.bin .eql false,[.t 74,cI 8],false,some (71,true)⟩,oo 76 .pick [.t 71,.t 75,.c (.d (.bool false))],oM 0 76]
def Qg1:CFn:=⟨0,77,[.t 0],.seq (.region Qsk 9 []) (.seq (.region Qsl 9 []) (.seq (.region Qsm 9 []) (.seq (.region Qsn 9 []) (.seq (.region Qso 9 []) (.ret)))))⟩
def Qbu (Q4:Qc→Option (Qbj×Int)) (Qeh:(List Int)→(List Int)→Option Bool) (Qs:Int→Int→Int→Int→Option (Qg×Int)) (Qbk:(List Int)→Option Qc):Option Bool :=
  ((Qbk [0]).bind fun x2=>((Q4 (Qc.mk x2.zA x2.zC [] x2.zD x2.Tick)).bind fun (r4,r5)=>((Qbk []).bind fun x7=>((Q4 (Qc.mk x7.zA x7.zC [] x7.zD x7.Tick)).bind fun (r9,r10)=>((Qs 0 1 1 2).bind fun (r12,r13)=>(((if (r5 == 0) then ((Qeh r4.zI [0]).bind fun x16=>(if x16 then (if ((r4.zI.length:Int) == 1) then (if (r4.zH.zM == 1) then (if (r10 == 0) then (if ((r9.zE.zG.length:Int) == 2) then ((getO r9.zE.zG 0).bind fun x22=>(if ((x22.State == 0) && ((x22.Rank == 2) && ((x22.Reason == 4) && ((x22.Event == 2) && true)))) then (if (r13 == 0) then (if (r12.zM == 3) then some ((r12.zL.length:Int) == 8) else some false) else some false) else some false)) else some false) else some false) else some false) else some false) else some false)) else some false)).bind fun (x27:Bool)=>some x27))))))
def Qec (P:Program) (c:Nat) (f:Int→Int→Int→Int→Int→Option Int):Prop:=∀ state1 x2 x3 x6 x9 (k4:Nat) (k7:Nat) (k10:Nat) r,f state1 x2 x3 x6 x9 = some r→∀ M nb,(M k4 = some (.cells [(i_ x3)]))→(M k7 = some (.cells [(i_ x6)]))→(M k10 = some (.cells [(i_ x9)]))→ACalls P c [(i_ state1),(i_ x2),.ptr k4 0,.ptr k7 0,.ptr k10 0] M nb (i_ r) M nb
def Qob:List COp:=[oo 7 .mov [cI 0]]
def Qoc:List COp:=[oM 9 1,oL 10 2,oo 11 (.bin .eql false) [.t 9,.t 10],oM 8 11]
def Qod:List COp:=[oo 7 .mov [cI 1]]
def Qoe:List COp:=[oM 13 1,oL 14 3,oo 15 (.bin .eql false) [.t 13,.t 14],oM 12 15]
def Qof:List COp:=[oM 16 0,oo 17 (.bin .add false) [.t 16,cI 1],oL 18 4,oo 19 (.bin .add false) [.t 18,cI 1],oo 20 .min2 [.t 17,.t 19],oM 7 20]
def Qog:List COp:=[oM 22 0,oL 23 4,oo 24 (.bin .add false) [.t 23,cI 1],oo 25 (.bin .eql false) [.t 22,.t 24],oM 21 25]
def Qoh:List COp:=[oo 7 .mov [cI 0]]
def Qoi:List COp:=[oo 7 .mov [cI (-1)]]
def Qed:CFn:=⟨5,26,[.t 7],.seq (.region Qob 9 []) (.seq (.block 0 (.seq (.region Qoc 9 []) (.cond (.t 8) (.seq (.region Qod 9 []) (.ret)) (.seq (.region Qoe 9 []) (.cond (.t 12) (.seq (.region Qof 9 []) (.ret)) (.seq (.region Qog 9 []) (.cond (.t 21) (.seq (.region Qoh 9 []) (.ret)) (.skip)))))))) (.seq (.region Qoi 9 []) (.ret)))⟩
def Qbc (state1:Int) (x2:Int) (x3:Int) (x6:Int) (x9:Int):Option Int :=
  (if (x2 == x3) then some 1 else (if (x2 == x6) then some (if (IntKind.wrap .i64 (x9 + 1)) < (IntKind.wrap .i64 (state1 + 1)) then (IntKind.wrap .i64 (x9 + 1)) else (IntKind.wrap .i64 (state1 + 1))) else (if (state1 == (IntKind.wrap .i64 (x9 + 1))) then some 0 else some (-1))))
def Qgc (P:Program) (c:Nat) (f:Int→Int→Int→Int→Option (Qg×Int)):Prop:=∀ xfrom1 to2 ticks3 tick4 r,f xfrom1 to2 ticks3 tick4 = some r→∀ M nb,ACalls P c [(i_ xfrom1),(i_ to2),(i_ ticks3),(i_ tick4)] M nb (.tup [(Qd r.1),(i_ r.2)]) M nb
def Qrv:List COp:=[oo 4 (.box 1) [.t 0],oo 6 (.box 1) [.t 2],oo 7 (.box 1) [.t 3],oo 8 (.alloc [.nils 1,.d (.int .i64 0),.nils 1,.nils 3]) [],oo 9 .mov [cI 0]]
def Qrw:List COp:=[oL 10 4,oM 11 1,oL 12 6,oL 13 7,oo 14 (.func 49) [.t 4,.t 7,.t 6],oo 15 (.call 47) [.t 10,.t 11,.t 12,.t 13,.c (.d (.bool true)),.t 14],oo 16 (.extract 0) [.t 15],oo 17 (.extract 1) [.t 15],⟨none,.store 4,[.t 8,.t 16],true,none⟩,oM 9 17]
def Qgd:CFn:=⟨4,18,[.cell 8 true 4,.t 9],.seq (.region Qrv 9 []) (.seq (.region Qrw 9 []) (.ret))⟩
def Qbd (Qu:Int→Int→Int→Int→Bool→(Int→Int→Option Int)→Option (Qg×Int)) (Qbc:Int→Int→Int→Int→Int→Option Int) (xfrom1:Int) (to2:Int) (ticks3:Int) (tick4:Int):Option (Qg×Int) :=
  ((Qu xfrom1 to2 ticks3 tick4 true (fun a5 a6=>Qbc a5 a6 xfrom1 tick4 ticks3)).bind fun (r10,r11)=>some (r10,r11))
def Qh3 (P:Program) (c:Nat) (f:(List Qb)→(List Qb)→Option Bool):Prop:=∀ s1 s2 r,f s1 s2 = some r→∀ M nb,ACalls P c [.d (.lst 3 (List.map Qa s1)),.d (.lst 3 (List.map Qa s2))] M nb (b_ r) M nb
def Quh:List COp:=[oo 4 .mov [.c (.d (.bool false))]]
def Qui:List COp:=[oM 6 0,oo 7 .len [.t 6],oM 8 1,oo 9 .len [.t 8],oo 10 (.bin .neq false) [.t 7,.t 9]]
def Quj:List COp:=[oo 4 .mov [.c (.d (.bool false))]]
def Quk:List COp:=[oM 11 0,oo 12 .len [.t 11],oo 13 .mov [cI 0]]
def Qul:List COp:=[oo 14 (.bin .lss false) [.t 13,.t 12]]
def Qum:List COp:=[oM 15 13,oM 5 15]
def Qun:List COp:=[oM 16 0,oM 17 5,oo 18 (.idx 3) [.t 16,.t 17],oo 19 (.load true 3) [.t 18],oM 20 1,oM 21 5,oo 22 (.idx 3) [.t 20,.t 21],oo 23 (.load true 3) [.t 22],oo 24 (.eqa true [0,0,0]) [.t 19,.t 23]]
def Quo:List COp:=[oo 4 .mov [.c (.d (.bool false))]]
def Qup:List COp:=[oo 25 (.bin .add false) [.t 13,cI 1],oM 13 25]
def Quq:List COp:=[oo 4 .mov [.c (.d (.bool true))]]
def Qh4:CFn:=⟨2,26,[.t 4],.seq (.region Quh 9 []) (.seq (.seq (.region Qui 9 []) (.cond (.t 10) (.seq (.region Quj 9 []) (.ret)) (.skip))) (.seq (.seq (.region Quk 9 []) (.block 0 (.loop [] (.seq (.region Qul 9 []) (.seq (.cond (.t 14) (.skip) (.exit 0)) (.seq (.block 1 (.seq (.region Qum 9 []) (.seq (.region Qun 0 []) (.cond (.t 24) (.seq (.region Quo 9 []) (.ret)) (.skip))))) (.region Qup 9 []))))))) (.seq (.region Quq 9 []) (.ret))))⟩
def Qbw (fuel:Nat) (s1:(List Qb)) (s2:(List Qb)):Option Bool :=
  (if ((s1.length:Int) != (s2.length:Int)) then some false else Qdu (fun k5 (x4:Int)=>(if (x4 < (s1.length:Int)) then ((getO s1 x4).bind fun x7=>((getO s2 x4).bind fun x9=>(if ((x7.From == x9.From) && ((x7.Event == x9.Event) && ((x7.To == x9.To) && true))) then k5 (IntKind.wrap .i64 (x4 + 1)) else some false))) else some true)) fuel 0)
def Qg6 (P:Program) (c:Nat) (f:Qg→Qg→Option Bool):Prop:=∀ a1 b2 r,f a1 b2 = some r→∀ M nb,ACalls P c [(Qd a1),(Qd b2)] M nb (b_ r) M nb
def Qw3:List COp:=[oo 2 (.box 4) [.t 0],oo 3 (.box 4) [.t 1],oo 4 .mov [.c (.d (.bool false))]]
def Qw4:List COp:=[oF 5 1 2,oL 6 5,oF 7 1 3,oL 8 7,oo 9 (.bin .eql false) [.t 6,.t 8],oM 10 9,⟨some 11,.fld 0,[.t 2],false,some (10,true)⟩,⟨some 12,.load false 1,[.t 11],false,some (10,true)⟩,⟨some 13,.fld 0,[.t 3],false,some (10,true)⟩,⟨some 14,.load false 1,[.t 13],false,some (10,true)⟩,⟨some 15,.call 45,[.t 12,.t 14],false,some (10,true)⟩,oo 16 .pick [.t 10,.t 15,.c (.d (.bool false))],oM 17 16,⟨some 18,.fld 2,[.t 2],false,some (17,true)⟩,⟨some 19,.load false 1,[.t 18],false,some (17,true)⟩,⟨some 20,.fld 2,[.t 3],false,some (17,true)⟩,⟨some 21,.load false 1,[.t 20],false,some (17,true)⟩,⟨some 22,.call 45,[.t 19,.t 21],false,some (17,true)⟩,oo 23 .pick [.t 17,.t 22,.c (.d (.bool false))],oM 24 23,⟨some 25,.fld 3,[.t 2],false,some (24,true)⟩,⟨some 26,.load false 1,[.t 25],false,some (24,true)⟩,⟨some 27,.fld 3,[.t 3],false,some (24,true)⟩,⟨some 28,.load false 1,[.t 27],false,some (24,true)⟩,⟨some 29,.call 46,[.t 26,.t 28],false,some (24,true)⟩,oo 30 .pick [.t 24,.t 29,.c (.d (.bool false))],oM 4 30]
def Qj5:CFn:=⟨2,31,[.t 4],.seq (.region Qw3 9 []) (.seq (.region Qw4 9 []) (.ret))⟩
def Qba (Q6:(List Int)→(List Int)→Option Bool) (Qbw:(List Qb)→(List Qb)→Option Bool) (a1:Qg) (b2:Qg):Option Bool :=
  (if (a1.zM == b2.zM) then ((Q6 a1.zJ b2.zJ).bind fun x5=>(if x5 then ((Q6 a1.zK b2.zK).bind fun x8=>(if x8 then ((Qbw a1.zL b2.zL).bind fun x11=>some x11) else some false)) else some false)) else some false)
def Qhd (P:Program) (c:Nat) (f:Qg→Option Bool):Prop:=∀ a1 r,f a1 = some r→∀ M nb,ACalls P c [(Qd a1)] M nb (b_ r) M nb
def Qs8:List COp:=[oo 1 (.box 4) [.t 0],oo 2 .mov [.c (.d (.bool false))]]
def Qs9:List COp:=[oo 3 (.load true 4) [.t 1],oo 4 (.build [.nils 1,.d (.int .i64 0),.nils 1,.nils 3] []) [],oo 5 (.call 15) [.t 3,.t 4],oM 2 5]
def Qhe:CFn:=⟨1,6,[.t 2],.seq (.region Qs8 9 []) (.seq (.region Qs9 9 []) (.ret))⟩
def Qbi (Qba:Qg→Qg→Option Bool) (a1:Qg):Option Bool :=
  ((Qba a1 (Qg.mk [] 0 [] [])).bind fun x3=>some x3)
def Qc0 (P:Program) (c:Nat) (f:Int→Int→(Int×Int)→Option Bool):Prop:=∀ xfrom1 to2 n3 r,f xfrom1 to2 n3 = some r→∀ M nb,ACalls P c [(i_ xfrom1),(i_ to2),.agg [(i_ n3.1),(i_ n3.2)]] M nb (b_ r) M nb
def Qge:List COp:=[oo 5 (.box 2) [.t 2],oo 6 .mov [.c (.d (.bool false))]]
def Qgf:List COp:=[oo 24 (.call 9) [],oo 25 (.un .not) [.t 24]]
def Qgg:List COp:=[oo 6 .mov [.c (.d (.bool false))]]
def Qgh:List COp:=[oo 26 (.idxarr 1 2) [.t 5,cI 0],oL 27 26,oo 28 (.idxarr 1 2) [.t 5,cI 1],oL 29 28,oM 7 27,oM 8 29]
def Qgi:List COp:=[oM 31 0,oM 32 1,oM 33 7,oM 34 8,oo 35 (.call 17) [.t 31,.t 32,.t 33,.t 34],oM 30 35,oo 36 (.extract 0) [.t 30],oo 37 (.extract 1) [.t 30],oo 9 (.alloc [.nils 1,.d (.int .i64 0),.nils 1,.nils 3]) [],⟨none,.store 4,[.t 9,.t 36],true,none⟩,oM 10 37]
def Qgj:List COp:=[oM 39 0,oM 40 1,oM 41 7,oM 42 8,oo 43 (.call 18) [.t 39,.t 40,.t 41,.t 42],oM 38 43,oo 44 (.extract 0) [.t 38],oo 45 (.extract 1) [.t 38],oo 11 (.alloc [.nils 1,.d (.int .i64 0),.nils 1,.nils 3]) [],⟨none,.store 4,[.t 11,.t 44],true,none⟩,oM 12 45]
def Qgk:List COp:=[oo 13 .mov [cI 0]]
def Qgl:List COp:=[oM 46 0,oM 47 1,oM 48 8,oo 49 (.bslice 1 3 [.d (.int .i64 0)] [0,1,2]) [.t 46,.t 47,.t 48],oo 50 .len [.t 49],oo 51 .mov [cI 0]]
def Qgm:List COp:=[oo 52 (.bin .lss false) [.t 51,.t 50]]
def Qgn:List COp:=[oo 53 (.idx 1) [.t 49,.t 51],oL 54 53,oM 15 54]
def Qep:List COp:=[oM 55 15,oo 56 (.bin .lss false) [.t 55,cI 0],oM 57 56,⟨some 58,.mov,[.t 15],false,some (57,false)⟩,⟨some 59,.bin .geq false,[.t 58,cI 32],false,some (57,false)⟩,oo 60 .pick [.t 57,.c (.d (.bool true)),.t 59]]
def Qeq:List COp:=[oo 13 .mov [cI 2]]
def Qer:List COp:=[oo 61 (.bin .add false) [.t 51,cI 1],oM 51 61]
def Qes:List COp:=[oM 62 13,oo 63 (.bin .eql false) [.t 62,cI 0],oM 64 63,⟨some 65,.mov,[.t 0],false,some (64,true)⟩,⟨some 66,.mov,[.t 1],false,some (64,true)⟩,⟨some 67,.bin .eql false,[.t 65,.t 66],false,some (64,true)⟩,⟨some 68,.mov,[.t 67],false,some (64,true)⟩,⟨some 69,.mov,[.t 0],false,some (68,false)⟩,⟨some 70,.mov,[.t 8],false,some (68,false)⟩,⟨some 71,.bin .eql false,[.t 69,.t 70],false,some (68,false)⟩,⟨some 72,.pick,[.t 68,.c (.d (.bool true)),.t 71],false,some (64,true)⟩,⟨some 73,.mov,[.t 72],false,some (64,true)⟩,⟨some 74,.mov,[.t 1],false,some (73,false)⟩,⟨some 75,.mov,[.t 8],false,some (73,false)⟩,⟨some 76,.bin .eql false,[.t 74,.t 75],false,some (73,false)⟩,⟨some 77,.pick,[.t 73,.c (.d (.bool true)),.t 76],false,some (64,true)⟩,oo 78 .pick [.t 64,.t 77,.c (.d (.bool false))]]
def Qet:List COp:=[oo 13 .mov [cI 13]]
def Qeu:List COp:=[oM 79 13,oo 80 (.bin .eql false) [.t 79,cI 0],oM 81 80,⟨some 82,.mov,[.t 7],false,some (81,true)⟩,⟨some 83,.bin .lss false,[.t 82,cI 0],false,some (81,true)⟩,⟨some 84,.mov,[.t 83],false,some (81,true)⟩,⟨some 85,.mov,[.t 7],false,some (84,false)⟩,⟨some 86,.bin .gtr false,[.t 85,cI 16],false,some (84,false)⟩,⟨some 87,.pick,[.t 84,.c (.d (.bool true)),.t 86],false,some (81,true)⟩,oo 88 .pick [.t 81,.t 87,.c (.d (.bool false))]]
def Qev:List COp:=[oo 13 .mov [cI 2]]
def Qew:List COp:=[oM 89 13,oo 90 (.bin .neq false) [.t 89,cI 0]]
def Qex:List COp:=[oo 91 (.load true 4) [.t 9],oo 92 (.call 19) [.t 91],oM 93 92,⟨some 94,.mov,[.t 10],false,some (93,true)⟩,⟨some 95,.mov,[.t 13],false,some (93,true)⟩,⟨some 96,.bin .eql false,[.t 94,.t 95],false,some (93,true)⟩,oo 97 .pick [.t 93,.t 96,.c (.d (.bool false))],oM 98 97,⟨some 99,.load true 4,[.t 11],false,some (98,true)⟩,⟨some 100,.call 19,[.t 99],false,some (98,true)⟩,oo 101 .pick [.t 98,.t 100,.c (.d (.bool false))],oM 102 101,⟨some 103,.mov,[.t 12],false,some (102,true)⟩,⟨some 104,.mov,[.t 13],false,some (102,true)⟩,⟨some 105,.bin .eql false,[.t 103,.t 104],false,some (102,true)⟩,oo 106 .pick [.t 102,.t 105,.c (.d (.bool false))],oM 6 106]
def Qey:List COp:=[oM 107 7,oo 108 (.bin .add false) [.t 107,cI 2],oo 109 (.bslice 1 1 [.d (.int .i64 0)] [0]) [cI 0],ot 110 (.build [.nils 1,.d (.int .i64 0),.nils 1,.nils 3] [(1,1),(2,1)]) [.t 108,.t 109],oo 16 (.alloc [.nils 1,.d (.int .i64 0),.nils 1,.nils 3]) [],⟨none,.store 4,[.t 16,.t 110],true,none⟩]
def Qez:List COp:=[oM 111 7,oo 112 (.bin .add false) [.t 111,cI 2],oo 113 (.build [.nils 1,.d (.int .i64 0),.nils 1,.nils 3] [(1,1)]) [.t 112],oo 17 (.alloc [.nils 1,.d (.int .i64 0),.nils 1,.nils 3]) [],⟨none,.store 4,[.t 17,.t 113],true,none⟩]
def Qe0:List COp:=[oo 18 .mov [cI 0]]
def Qe1:List COp:=[oM 114 18,oo 115 (.bin .lss false) [.t 114,cI 32]]
def Qe2:List COp:=[oM 118 18,oM 119 0,oo 120 (.bin .eql false) [.t 118,.t 119],oM 121 120,⟨some 122,.mov,[.t 18],false,some (121,false)⟩,⟨some 123,.mov,[.t 1],false,some (121,false)⟩,⟨some 124,.bin .eql false,[.t 122,.t 123],false,some (121,false)⟩,oo 125 .pick [.t 121,.c (.d (.bool true)),.t 124],oM 126 125,⟨some 127,.mov,[.t 18],false,some (126,false)⟩,⟨some 128,.mov,[.t 8],false,some (126,false)⟩,⟨some 129,.bin .eql false,[.t 127,.t 128],false,some (126,false)⟩,oo 130 .pick [.t 126,.c (.d (.bool true)),.t 129]]
def Qe3:List COp:=[oF 131 0 16,oo 132 .loadT [.t 131],oM 133 18,oo 134 (.bslice 1 1 [.d (.int .i64 0)] [0]) [.t 133],ot 135 (.append 1 8) [.t 132,.t 134],oF 136 0 17,oo 137 .loadT [.t 136],oM 138 18,oo 139 (.bslice 1 1 [.d (.int .i64 0)] [0]) [.t 138],ot 140 (.append 1 8) [.t 137,.t 139],oF 141 0 16,⟨none,.store 1,[.t 141,.t 135],true,none⟩,oF 142 0 17,⟨none,.store 1,[.t 142,.t 140],true,none⟩]
def Qe4:List COp:=[oM 116 18,oo 117 (.bin .add false) [.t 116,cI 1],oM 18 117]
def Qe5:List COp:=[oo 19 .mov [cI 0]]
def Qe6:List COp:=[oM 143 19,oM 144 7,oo 145 (.bin .add false) [.t 144,cI 2],oo 146 (.bin .lss false) [.t 143,.t 145]]
def Qe7:List COp:=[oF 149 2 17,oo 150 .loadT [.t 149],oM 151 19,oo 152 (.bslice 1 1 [.d (.int .i64 0)] [0]) [.t 151],ot 153 (.append 1 8) [.t 150,.t 152],oF 154 2 17,⟨none,.store 1,[.t 154,.t 153],true,none⟩]
def Qe8:List COp:=[oF 155 0 16,oL 156 155,oo 157 .len [.t 156],oo 158 .mov [cI 0]]
def Qe9:List COp:=[oo 159 (.bin .lss false) [.t 158,.t 157]]
def Qfa:List COp:=[oo 160 (.idx 1) [.t 156,.t 158],oL 161 160,oM 21 161]
def Qfb:List COp:=[oM 162 19,oM 163 19,oM 22 162,oM 23 163]
def Qfc:List COp:=[oM 165 21,oM 166 0,oo 167 (.bin .eql false) [.t 165,.t 166],oM 164 167]
def Qfd:List COp:=[oo 23 .mov [cI 1]]
def Qfe:List COp:=[oM 168 19,oo 169 (.bin .eql false) [.t 168,cI 0]]
def Qff:List COp:=[oo 22 .mov [cI 1]]
def Qfg:List COp:=[oM 171 21,oM 172 1,oo 173 (.bin .eql false) [.t 171,.t 172],oM 170 173]
def Qfh:List COp:=[oo 22 .mov [cI 0]]
def Qfi:List COp:=[oo 23 .mov [cI (-1)]]
def Qfj:List COp:=[oM 174 19,oo 175 (.bin .eql false) [.t 174,cI 0],oM 176 175,⟨some 177,.mov,[.t 19],false,some (176,false)⟩,⟨some 178,.mov,[.t 7],false,some (176,false)⟩,⟨some 179,.bin .add false,[.t 178,cI 1],false,some (176,false)⟩,⟨some 180,.bin .eql false,[.t 177,.t 179],false,some (176,false)⟩,oo 181 .pick [.t 176,.c (.d (.bool true)),.t 180]]
def Qfk:List COp:=[oo 23 .mov [cI 0]]
def Qfl:List COp:=[oM 183 19,oo 184 (.bin .gtr false) [.t 183,cI 0],oM 185 184,⟨some 186,.mov,[.t 19],false,some (185,true)⟩,⟨some 187,.mov,[.t 7],false,some (185,true)⟩,⟨some 188,.bin .leq false,[.t 186,.t 187],false,some (185,true)⟩,oo 189 .pick [.t 185,.t 188,.c (.d (.bool false))],oM 182 189]
def Qfm:List COp:=[oM 190 19,oo 191 (.bin .add false) [.t 190,cI 1],oM 192 19,oo 193 (.bin .add false) [.t 192,cI 1],oM 22 191,oM 23 193]
def Qfn:List COp:=[oM 195 19,oo 196 (.bin .gtr false) [.t 195,cI 0],oM 194 196]
def Qfo:List COp:=[oo 22 .mov [cI (-1)]]
def Qfp:List COp:=[oM 197 22,oo 198 (.bin .geq false) [.t 197,cI 0]]
def Qfq:List COp:=[oF 199 3 16,oo 200 .loadT [.t 199],oM 201 19,oM 202 21,oM 203 22,oo 204 (.build [.d (.int .i64 0),.d (.int .i64 0),.d (.int .i64 0)] [(0,1),(1,1),(2,1)]) [.t 201,.t 202,.t 203],oo 205 (.bslice 3 1 [.d (.int .i64 0),.d (.int .i64 0),.d (.int .i64 0)] [0]) [.t 204],ot 206 (.append 3 24) [.t 200,.t 205],oF 207 3 16,⟨none,.store 1,[.t 207,.t 206],true,none⟩]
def Qfr:List COp:=[oM 208 23,oo 209 (.bin .geq false) [.t 208,cI 0]]
def Qfs:List COp:=[oF 210 3 17,oo 211 .loadT [.t 210],oM 212 19,oM 213 21,oM 214 23,oo 215 (.build [.d (.int .i64 0),.d (.int .i64 0),.d (.int .i64 0)] [(0,1),(1,1),(2,1)]) [.t 212,.t 213,.t 214],oo 216 (.bslice 3 1 [.d (.int .i64 0),.d (.int .i64 0),.d (.int .i64 0)] [0]) [.t 215],ot 217 (.append 3 24) [.t 211,.t 216],oF 218 3 17,⟨none,.store 1,[.t 218,.t 217],true,none⟩]
def Qft:List COp:=[oo 219 (.bin .add false) [.t 158,cI 1],oM 158 219]
def Qfu:List COp:=[oM 147 19,oo 148 (.bin .add false) [.t 147,cI 1],oM 19 148]
def Qfv:List COp:=[oM 220 10,oo 221 (.bin .eql false) [.t 220,cI 0],oM 222 221,⟨some 223,.mov,[.t 12],false,some (222,true)⟩,⟨some 224,.bin .eql false,[.t 223,cI 0],false,some (222,true)⟩,oo 225 .pick [.t 222,.t 224,.c (.d (.bool false))],oM 226 225,⟨some 227,.load true 4,[.t 9],false,some (226,true)⟩,⟨some 228,.load true 4,[.t 16],false,some (226,true)⟩,⟨some 229,.call 15,[.t 227,.t 228],false,some (226,true)⟩,oo 230 .pick [.t 226,.t 229,.c (.d (.bool false))],oM 231 230,⟨some 232,.load true 4,[.t 11],false,some (231,true)⟩,⟨some 233,.load true 4,[.t 17],false,some (231,true)⟩,⟨some 234,.call 15,[.t 232,.t 233],false,some (231,true)⟩,oo 235 .pick [.t 231,.t 234,.c (.d (.bool false))],oM 6 235]
def Qb2:CFn:=⟨3,236,[.t 6],.seq (.region Qge 9 []) (.seq (.seq (.region Qgf 9 []) (.cond (.t 25) (.seq (.region Qgg 9 []) (.ret)) (.skip))) (.seq (.region Qgh 0 []) (.seq (.region Qgi 9 []) (.seq (.region Qgj 9 []) (.seq (.region Qgk 9 []) (.seq (.seq (.region Qgl 9 []) (.block 0 (.loop [] (.seq (.region Qgm 9 []) (.seq (.cond (.t 52) (.skip) (.exit 0)) (.seq (.block 1 (.seq (.region Qgn 9 []) (.seq (.region Qep 9 []) (.cond (.t 60) (.region Qeq 9 []) (.skip))))) (.region Qer 9 []))))))) (.seq (.seq (.region Qes 9 []) (.cond (.t 78) (.region Qet 9 []) (.skip))) (.seq (.seq (.region Qeu 9 []) (.cond (.t 88) (.region Qev 9 []) (.skip))) (.seq (.seq (.region Qew 9 []) (.cond (.t 90) (.seq (.region Qex 9 []) (.ret)) (.skip))) (.seq (.region Qey 9 []) (.seq (.region Qez 9 []) (.seq (.seq (.region Qe0 9 []) (.block 2 (.loop [134,139] (.seq (.seq (.region Qe1 9 []) (.cond (.t 115) (.skip) (.exit 2))) (.seq (.block 3 (.seq (.region Qe2 9 []) (.cond (.t 130) (.region Qe3 0 [⟨131,1,136,1⟩]) (.skip)))) (.region Qe4 9 [])))))) (.seq (.seq (.region Qe5 9 []) (.block 4 (.loop [152,205,216] (.seq (.seq (.region Qe6 9 []) (.cond (.t 146) (.skip) (.exit 4))) (.seq (.block 5 (.seq (.region Qe7 9 []) (.seq (.region Qe8 9 []) (.block 6 (.loop [205,216] (.seq (.region Qe9 9 []) (.seq (.cond (.t 159) (.skip) (.exit 6)) (.seq (.block 7 (.seq (.region Qfa 9 []) (.seq (.region Qfb 9 []) (.seq (.block 8 (.seq (.region Qfc 9 []) (.cond (.t 164) (.seq (.region Qfd 9 []) (.seq (.region Qfe 9 []) (.cond (.t 169) (.region Qff 9 []) (.skip)))) (.seq (.region Qfg 9 []) (.cond (.t 170) (.seq (.region Qfh 9 []) (.seq (.region Qfi 9 []) (.seq (.region Qfj 9 []) (.cond (.t 181) (.region Qfk 9 []) (.skip))))) (.seq (.region Qfl 9 []) (.cond (.t 182) (.region Qfm 9 []) (.seq (.region Qfn 9 []) (.cond (.t 194) (.region Qfo 9 []) (.skip)))))))))) (.seq (.seq (.region Qfp 9 []) (.cond (.t 198) (.region Qfq 9 []) (.skip))) (.seq (.region Qfr 9 []) (.cond (.t 209) (.region Qfs 9 []) (.skip)))))))) (.region Qft 9 []))))))))) (.region Qfu 9 [])))))) (.seq (.region Qfv 9 []) (.ret)))))))))))))))⟩
def Qbm (Qbu:Option Bool) (Qba:Qg→Qg→Option Bool) (Qs:Int→Int→Int→Int→Option (Qg×Int)) (Qbd:Int→Int→Int→Int→Option (Qg×Int)) (Qbi:Qg→Option Bool) (fuel:Nat) (xfrom1:Int) (to2:Int) (n3:(Int×Int)):Option Bool :=
  (Qbu.bind fun x5=>(if x5 then ((Qs xfrom1 to2 n3.1 n3.2).bind fun (r8,r9)=>((Qbd xfrom1 to2 n3.1 n3.2).bind fun (r11,r12)=>((Qdu (fun k15 ((want13,x14):Int×Int)=>(if (x14 < 3) then ((((getO [xfrom1,to2,n3.2] x14).bind fun x17=>(((if (x17 < 0) then some true else some (decide (x17≥32)))).bind fun (x20:Bool)=>(if x20 then some 2 else some want13)))).bind fun (want22:Int)=>k15 (want22,(IntKind.wrap .i64 (x14 + 1)))) else some want13)) fuel (0,0)).bind fun (want23:Int)=>(((((if (want23 == 0) then (if (xfrom1 == to2) then some true else (if (xfrom1 == n3.2) then some true else some (to2 == n3.2))) else some false)).bind fun (x27:Bool)=>(if x27 then some 13 else some want23))).bind fun (want29:Int)=>(((((if (want29 == 0) then (if (n3.1 < 0) then some true else some (decide (n3.1 > 16))) else some false)).bind fun (x32:Bool)=>(if x32 then some 2 else some want29))).bind fun (want34:Int)=>(if (want34 != 0) then ((Qbi r8).bind fun x37=>(if x37 then (if (r9 == want34) then ((Qbi r11).bind fun x41=>(if x41 then some (r12 == want34) else some false)) else some false) else some false)) else ((Qdu (fun k51 ((v43,c44,c45,c46,y47,y48,y49,y50):Int×(List Int)×Int×(List Qb)×(List Int)×Int×(List Int)×(List Qb))=>(if (v43 < 32) then (((((if (v43 == xfrom1) then some true else (if (v43 == to2) then some true else some (v43 == n3.2)))).bind fun (x55:Bool)=>(if x55 then ((appO c44 [v43]).bind fun x57=>((appO y47 [v43]).bind fun x59=>some (x57,x59))) else some (c44,y47)))).bind fun ((c61,y62):(List Int)×(List Int))=>k51 ((IntKind.wrap .i64 (v43 + 1)),c61,c45,c46,y62,y48,y49,y50)) else some (c44,c45,c46,y47,y48,y49,y50))) fuel (0,[],(IntKind.wrap .i64 (n3.1 + 2)),[],[],(IntKind.wrap .i64 (n3.1 + 2)),[],[])).bind fun ((c63,c64,c65,y66,y67,y68,y69):(List Int)×Int×(List Qb)×(List Int)×Int×(List Int)×(List Qb))=>((Qdu (fun k74 ((s70,c71,y72,y73):Int×(List Qb)×(List Int)×(List Qb))=>(if (s70 < (IntKind.wrap .i64 (n3.1 + 2))) then ((((appO y72 [s70]).bind fun x76=>Qdu (fun k81 ((x78,c79,y80):Int×(List Qb)×(List Qb))=>(if (x78 < (c63.length:Int)) then ((((getO c63 x78).bind fun x83=>(((if (x83 == xfrom1) then (if (s70 == 0) then some (1,1) else some (s70,1)) else (if (x83 == to2) then (((if (s70 == 0) then some true else some (s70 == (IntKind.wrap .i64 (n3.1 + 1))))).bind fun (x89:Bool)=>(if x89 then some (0,0) else some (0,(-1)))) else (((if (s70 > 0) then some (decide (s70≤n3.1)) else some false)).bind fun (x92:Bool)=>(if x92 then some ((IntKind.wrap .i64 (s70 + 1)),(IntKind.wrap .i64 (s70 + 1))) else (if (s70 > 0) then some ((-1),s70) else some (s70,s70))))))).bind fun ((late95,wait96):Int×Int)=>(((if (late95≥0) then ((appO c79 [(Qb.mk s70 x83 late95)]).bind fun x98=>some x98) else some c79)).bind fun (c100:List Qb)=>(if (wait96≥0) then ((appO y80 [(Qb.mk s70 x83 wait96)]).bind fun x102=>some (c100,x102)) else some (c100,y80)))))).bind fun ((c104,y105):(List Qb)×(List Qb))=>k81 ((IntKind.wrap .i64 (x78 + 1)),c104,y105)) else some (c79,x76,y80))) fuel (0,c71,y73))).bind fun ((c106,y107,y108):(List Qb)×(List Int)×(List Qb))=>k74 ((IntKind.wrap .i64 (s70 + 1)),c106,y107,y108)) else some (c71,y72,y73))) fuel (0,c65,y68,y69)).bind fun ((c109,y110,y111):(List Qb)×(List Int)×(List Qb))=>(if (r9 == 0) then (if (r12 == 0) then ((Qba r8 (Qg.mk c63 c64 [0] c109)).bind fun x115=>(if x115 then ((Qba r11 (Qg.mk y66 y67 y110 y111)).bind fun x118=>some x118) else some false)) else some false) else some false))))))))) else some false))
end Go.Abs
end
