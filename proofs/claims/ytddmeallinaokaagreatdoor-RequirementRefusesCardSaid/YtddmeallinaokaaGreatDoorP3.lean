/-
  Part 3 of the proof: see the last text.
-/
import Derived.Test.YtddmeallinaokaaGreatDoorP2
import Derived.Sort.Grow
set_option linter.unusedVariables false
set_option linter.unusedSimpArgs false
set_option linter.unusedSectionVars false
section
namespace Go.Abs
open Go
variable {Γ:Env} {pc d nb:Nat} {os:List COp} {E:List (Nat×V)} {M M' M0:Mem} {L:List (Nat×Bx)} {Q:St→Prop} {σ:St} {gd:Option (Nat×Bool)} {a b c:Arg}
def Ext (M M2:Mem):Prop:=∀ k b,M k = some b→M2 k = some b
theorem Ext.refl (M:Mem):Ext M M:=fun _ _ h=>h
theorem Ext.trans {A B C:Mem} (h:Ext A B) (k:Ext B C):Ext A C:=fun i b hi=>k i b (h i b hi)
theorem ltB {n0:Nat} (hM:∀ k,n0≤k→M0 k = none) {k:Nat} {b:Bx} (h:M0 k = some b):k < n0:=by
 rcases Nat.lt_or_ge k n0 with hk | hk
 ·exact hk
 ·rw [hM k hk] at h; cases h
theorem Q6d {n0:Nat} (hM:∀ k,n0≤k→M0 k = none):Ext M0 (Qk n0 L M0):=fun k b h=>by rw [Qc (ltB hM h)]; exact h
theorem Q0e {n0:Nat} (hM:∀ k,n0≤k→M0 k = none) {k:Nat} {b:Bx} (h:M0 k = some b):Qk n0 L M0 k = some b:=Q6d hM k b h
theorem Rn.callM {f:FuncId} {as:List Arg} {args:List V} {r:V} (hw:Wn E gd) (ha:V.dems (as.map (·.val (look E))) = args) (hC:∀ M2 nb2,nb≤nb2→Ext M M2→ACalls Γ.P f args M2 nb2 r M2 nb2) (hp2:Nat.ble (pcOf pc) 1 = true) (hpc:pcOf pc = 1→∀ k,nb≤k→M k = none)
  (h:Rn Γ pc os ⟨look ((d,r) :: E),M,nb⟩ Q):Rn Γ pc (⟨some d,.call f,as,false,gd⟩ :: os) ⟨look E,M,nb⟩ Q:=by
 refine Rn.cons ?_
 unfold COp.run
 rw [hw.wanted]
 simp only [show (K.call f).isCall = true from rfl,if_true,COp.callee,ha]
 have h' : Rn Γ pc os ⟨Qv (look E) (some d) r,M,nb⟩ Q:=by
  rw [show Qv (look E) (some d) r = look ((d,r) :: E) from Qce E d r]; exact h
 have hle:=Nat.le_of_ble_eq_true hp2
 match hp:pcOf pc with
 | 0=>exact ⟨r,M,nb,hC _ _ (Nat.le_refl _) (Ext.refl _),fun _ h=>h,fun _ _ _ _=>.inl rfl,h'⟩
 | 1 =>
  refine ⟨r,fun _=>none,nb,fun M2 h1 h2=>?_,?_⟩
  ·have:M2.over nb (fun _=>none) = M2:=by
    funext k; simp only [Mem.over]; split
    ·rfl
    ·exact (h2 k (by omega)).symm
   rw [this]; exact hC _ _ (Nat.le_refl _) fun k b hk=>by rw [h1 k (by simp [hk])]; exact hk
  ·have:M.over nb (fun _=>none) = M:=by
    funext k; simp only [Mem.over]; split
    ·rfl
    ·exact (hpc hp k (by omega)).symm
   rw [this]; exact h'
 | n + 2=>omega
theorem Rn.callvM {t:Nat} {f:FuncId} {caps:List V} {as:List Arg} {args:List V} {r:V} (hw:Wn E gd) (ht:look E t = .clo f caps) (ha:V.dems (as.map (·.val (look E))) ++ V.dems caps = args) (hC:∀ M2 nb2,nb≤nb2→Ext M M2→ACalls Γ.P f args M2 nb2 r M2 nb2) (hp2:Nat.ble (pcOf pc) 1 = true) (hpc:pcOf pc = 1→∀ k,nb≤k→M k = none)
  (h:Rn Γ pc os ⟨look ((d,r) :: E),M,nb⟩ Q):Rn Γ pc (⟨some d,.callv,.t t :: as,false,gd⟩ :: os) ⟨look E,M,nb⟩ Q:=by
 refine Rn.cons ?_
 unfold COp.run
 rw [hw.wanted]
 simp only [show K.callv.isCall = true from rfl,if_true,COp.callee,List.map_cons,show (Arg.t t).val (look E) = .clo f caps from ht,ha]
 have h' : Rn Γ pc os ⟨Qv (look E) (some d) r,M,nb⟩ Q:=by
  rw [show Qv (look E) (some d) r = look ((d,r) :: E) from Qce E d r]; exact h
 have hle:=Nat.le_of_ble_eq_true hp2
 match hp:pcOf pc with
 | 0=>exact ⟨r,M,nb,hC _ _ (Nat.le_refl _) (Ext.refl _),fun _ h=>h,fun _ _ _ _=>.inl rfl,h'⟩
 | 1 =>
  refine ⟨r,fun _=>none,nb,fun M2 h1 h2=>?_,?_⟩
  ·have:M2.over nb (fun _=>none) = M2:=by
    funext k; simp only [Mem.over]; split
    ·rfl
    ·exact (h2 k (by omega)).symm
   rw [this]; exact hC _ _ (Nat.le_refl _) fun k b hk=>by rw [h1 k (by simp [hk])]; exact hk
  ·have:M.over nb (fun _=>none) = M:=by
    funext k; simp only [Mem.over]; split
    ·rfl
    ·exact (hpc hp k (by omega)).symm
   rw [this]; exact h'
 | n + 2=>omega
theorem Q40 {P:Program} {f:FuncId} {cf:CFn} (hcf:Qj P f = some cf) {args:List V} {r:V} (hargs:Nat.beq args.length cf.np = true) (M:Mem) (nb:Nat)
  (hrun:∀ (Γ:Env),Γ.P = P→Γ.nt = cf.nt→Γ.n0 = nb→(∀ k,Γ.n0≤k→M k = none)→Tr Γ cf.body ⟨Qlb args,Qk Γ.n0 [] M,Γ.n0 + cf.nt⟩ (FinP cf.res r Γ.n0 M)):ACalls P f args M nb r M nb:=by
 by_cases hM:∀ k,nb≤k→M k = none
 case neg=>exact Q7n (Qpo hcf) (Nat.le_refl _) hM
 by_cases hon:MOn (There M) M
 case neg=>exact ⟨Qpo hcf,Nat.le_refl _,fun w g us hm h=>absurd h hon⟩
 refine Qbfk hcf hM (Nat.eq_of_beq_eq_true hargs) (Nat.le_refl _) fun Γ hP hn ht=>?_
 have h:=hrun Γ hP ht hn (by rw [hn]; exact hM)
 rw [Q6c (by rw [hn]; exact hM),hn] at h
 refine h.mono ?_
 rintro e σ' ⟨he,r',h1,h2,h3,h4⟩
 have hlt:∀ k,There M k→k < nb:=fun k hk=>by
  rcases Nat.lt_or_ge k nb with h | h
  ·exact h
  ·simp [There,hM k h] at hk
 refine ⟨he,r',h1,h2,fun k b hk=>?_,h3,hon,hlt⟩
 rw [h4 k (hlt k (by simp [There,hk]))]; exact hk
mutual
theorem Q9e {n0:Nat} {sites:List Nat}:∀ v:V,v.on (· < n0)→Qcx (Qhm n0 sites) v = v
 | .und,_=>rfl
 | .d _,_=>rfl
 | .agg cs,h=>by simp only [Qcx]; rw [kills_base cs h]
 | .tup cs,h=>by simp only [Qcx]; rw [kills_base cs h]
 | .own ..,_=>rfl
 | .ownT ..,_=>rfl
 | .ptr k o,h=>by simp only [Qcx]; rw [Qxb h]; rfl
 | .nilp,_=>rfl
 | .f _,_=>rfl
 | .nils _,_=>rfl
 | .cref _,_=>rfl
 | .sl sz k o n c,h=>by simp only [Qcx]; rw [Qxb h]; rfl
 | .clo _ cs,h=>by simp only [Qcx]; rw [kills_base cs h]
 | .mp k,h=>by simp only [Qcx]; rw [Qxb h]; rfl
theorem kills_base {n0:Nat} {sites:List Nat}:∀ vs:List V,V.ons (· < n0) vs→Qcx.go (Qhm n0 sites) vs = vs
 | [],_=>rfl
 | v :: vs,h=>by simp only [Qcx.go]; rw [Q9e v h.1,kills_base vs h.2]
end
theorem kFun {n0:Nat} {sites:List Nat} {g:FuncId} {cp:List V} (hM:∀ k,n0≤k→M0 k = none) (h:V.ons (There M0) cp):WkV (Qcx (Qhm n0 sites) (.clo g cp)) (.clo g cp):=by
 refine .same (Q9e _ (ons_mono (fun k hk=>?_) _ h))
 obtain ⟨b,hb⟩:=Option.isSome_iff_exists.1 hk
 exact ltB hM hb
theorem Q3z {k:Nat} {b:Bx} (h:M k = some b):There M k:=by simp [There,h]
end Go.Abs
end
section
namespace Go.Abs
open Go
def pl0:D→Bool
 | .int .. | .bool _ | .str _=>true
 | _=>false
def frzL (sz:Nat) (l:List (List D)):V:=if l.all fun x=>x.all pl0 then .f (.lst sz l) else .d (.lst sz l)
theorem Qbfm {imm imm' : Nat→Nat→Prop} {w:World}:∀ {x:D} {u:Value},pl0 x = true→RD imm w x u→RD imm' w x u
 | .int ..,_,_,h=>by simpa [RD] using h
 | .bool _,_,_,h=>by simpa [RD] using h
 | .str _,_,_,h=>by simpa [RD] using h
 | .lst ..,_,h,_=>by cases h
theorem Qbe2 {p:Nat→Prop} {sz:Nat} {l:List (List D)}:(frzL sz l).on p:=by unfold frzL; split <;> trivial
theorem Qbd9 {sz:Nat} {l:List (List D)}:WkV (frzL sz l) (.d (.lst sz l)):=by
 unfold frzL
 split
 ·exact ⟨fun g w ℓ u h=>by
   simp only [RV] at h ⊢
   exact Qdi ⟨fun b o h=>h.1,fun _ _ _=>rfl⟩ _ u h,fun _ _=>trivial⟩
 ·exact .same rfl
mutual
def frzV (k:Nat) (ds:List D):V→V
 | .und=>.und
 | .d x=>.d x
 | .agg cs=>.agg (frzVs k ds cs)
 | .tup cs=>.tup (frzVs k ds cs)
 | .own sz l=>.own sz l
 | .ownT sz l=>.ownT sz l
 | .ptr k' o=>if k' = k then .cref (ds.drop o) else .ptr k' o
 | .nilp=>.nilp
 | .f x=>.f x
 | .nils sz=>.nils sz
 | .cref cs=>.cref cs
 | .sl sz k' o n c=>if k' = k then (if o + n * sz≤ds.length∧n≤c then frzL sz (Qij sz n ((ds.drop o).take (n * sz))) else .und) else .sl sz k' o n c
 | .clo f cs=>.clo f (frzVs k ds cs)
 | .mp k'=>if k' = k then .und else .mp k'
def frzVs (k:Nat) (ds:List D):List V→List V
 | []=>[]
 | v :: vs=>frzV k ds v :: frzVs k ds vs
end
theorem Q6e (k:Nat) (ds:List D):∀ vs,frzVs k ds vs = vs.map (frzV k ds)
 | []=>rfl
 | v :: vs=>by simp [frzVs,Q6e k ds vs]
mutual
theorem Qbea {p:Nat→Prop} (k:Nat) (ds:List D):∀ v:V,v.on p→(frzV k ds v).on fun j=>p j∧j≠k
 | .und,_=>trivial
 | .d _,_=>trivial
 | .agg cs,h=>ons_frz k ds cs h
 | .tup cs,h=>ons_frz k ds cs h
 | .own ..,_=>trivial
 | .ownT ..,_=>trivial
 | .ptr k' o,h=>by
  simp only [frzV]; split
  ·trivial
  ·rename_i hne; exact ⟨h,hne⟩
 | .nilp,_=>trivial
 | .f _,_=>trivial
 | .nils _,_=>trivial
 | .cref _,_=>trivial
 | .sl sz k' o n c,h=>by
  simp only [frzV]; split
  ·split
   ·exact Qbe2
   ·trivial
  ·rename_i hne; exact ⟨h,hne⟩
 | .clo _ cs,h=>ons_frz k ds cs h
 | .mp k',h=>by
  simp only [frzV]; split
  ·trivial
  ·rename_i hne; exact ⟨h,hne⟩
theorem ons_frz {p:Nat→Prop} (k:Nat) (ds:List D):∀ vs:List V,V.ons p vs→V.ons (fun j=>p j∧j≠k) (frzVs k ds vs)
 | [],_=>trivial
 | v :: vs,h=>⟨Qbea k ds v h.1,ons_frz k ds vs h.2⟩
end
theorem Qbax {imm:Nat→Nat→Prop} {w:World} {b:Nat}:∀ (j:Nat) {ds:List D} {o:Nat},RDc imm w b ds o→RDc imm w b (ds.drop j) (o + j)
 | 0,_,_,h=>h
 | j + 1,[],o,h=>by simp [RDc]
 | j + 1,d :: ds,o,h=>by
  simp only [RDc] at h
  have:=Qbax j h.2.2
  rw [show o + 1 + j = o + (j + 1) from by omega] at this
  simpa using this
def G.frz (g:G) (k n:Nat) [DecidablePred fun b=>b = g.box k]:G:=⟨g.box,fun b o=>g.imm b o∨(b = g.box k∧o < n),fun b=>if b = g.box k then .ext else g.own b⟩
section
variable {g:G} {w:World} {k:Nat} {ds:List D} (hB:g.own (g.box k) = .box k) (hD:RDc (g.frz k ds.length).imm w (g.box k) ds 0)
include hB hD
theorem Q8d:Imm g.imm (g.frz k ds.length).imm w w:=⟨fun _ _ h=>.inl h,fun _ _ _=>rfl⟩
mutual
theorem Qbeb:∀ (v:V) (ℓ:Owner) (u:Value),ℓ ≠ .box k→RV g w v ℓ u→RV (g.frz k ds.length) w (frzV k ds v) ℓ u
 | .und,_,_,_,_=>by simp [frzV,RV]
 | .d x,_,_,_,h=>by
  simp only [frzV,RV] at h ⊢
  exact Qdi (Q8d hB hD) x _ h
 | .agg cs,ℓ,u,hl,h=>by
  simp only [frzV,RV] at h ⊢
  obtain ⟨vs,rfl,h,h1⟩:=h
  exact ⟨vs,rfl,RVs_frz cs ℓ 0 vs h,h1⟩
 | .tup cs,ℓ,u,hl,h=>by
  simp only [frzV,RV] at h ⊢
  obtain ⟨vs,rfl,h⟩:=h
  exact ⟨vs,rfl,RVs_frz cs ℓ 0 vs h⟩
 | .own sz l,ℓ,u,hl,h=>by
  simp only [frzV,RV] at h ⊢
  rcases h with h | ⟨b,cap,vals,e,h1,h2,h3,h4,h5,h6,h7,h8⟩
  ·exact .inl h
  ·have hne:b≠g.box k:=by rintro rfl; rw [hB] at h2; exact hl h2.symm
   refine .inr ⟨b,cap,vals,e,h1,by simp [G.frz,hne,h2],h3,h4,h5,h6,fun o=>?_,RDL_mono (Q8d hB hD) sz b l 0 h8⟩
   rw [← h7 o]
   simp [G.frz,hne]
 | .ownT sz l,ℓ,u,hl,h=>by
  simp only [frzV,RV] at h ⊢
  rcases h with h | ⟨b,o0,cap,vals,e,h1,h2,h3,h4,h5,h6,h7,h8⟩
  ·exact .inl h
  ·have hne:b≠g.box k:=by rintro rfl; rw [hB] at h2; exact hl h2.symm
   refine .inr ⟨b,o0,cap,vals,e,h1,by simp [G.frz,hne,h2],h3,h4,h5,h6,fun o=>?_,RDL_mono (Q8d hB hD) sz b l o0 h8⟩
   rw [← h7 o]
   simp [G.frz,hne]
 | .ptr k' o,ℓ,u,hl,h=>by
  simp only [frzV]
  split
  ·rename_i he
   subst he
   simp only [RV] at h ⊢
   have:=Qbax o hD
   rw [Nat.zero_add] at this
   exact ⟨_,_,h,this⟩
  ·simpa [RV,G.frz] using h
 | .nilp,_,_,_,h=>by simpa [frzV,RV] using h
 | .f x,_,u,_,h=>by
  simp only [frzV,RV] at h ⊢
  exact Qdi (Qbad (g:=g) (g':=g.frz k ds.length) fun b o h1 h2=>⟨.inl h1,by simp only [G.frz]; split <;> first | rfl | exact h2⟩) x u h
 | .nils _,_,_,_,h=>by simpa [frzV,RV] using h
 | .cref cs,ℓ,u,hl,h=>by
  simp only [frzV,RV] at h ⊢
  obtain ⟨b,o,rfl,h⟩:=h
  exact ⟨b,o,rfl,Q1v (Q8d hB hD) b cs o h⟩
 | .sl sz k' o n c,ℓ,u,hl,h=>by
  simp only [frzV]
  split
  ·rename_i he
   subst he
   split
   ·rename_i hc
    have hlen:((ds.drop o).take (n * sz)).length = n * sz:=by simp; omega
    obtain ⟨h1,h2,h3⟩:=Qw8 n sz _ hlen
    simp only [RV] at h
    have key:∀ i x j y,(Qij sz n ((ds.drop o).take (n * sz)))[i]? = some x→x[j]? = some y→(g.frz k' ds.length).imm (g.box k') (o + i * sz + j)∧∃ u,w.cell? ⟨g.box k',o + i * sz + j,none⟩ = some u∧RD (g.frz k' ds.length).imm w y u:=by
     intro i x j y hx hy
     have h4:=h3 i x j y hx hy
     rw [List.getElem?_take] at h4
     split at h4
     ·rw [List.getElem?_drop] at h4
      have:=Qug hD _ y h4
      rw [show 0 + (o + (i * sz + j)) = o + i * sz + j from by omega] at this
      exact this
     ·cases h4
    unfold frzL
    split
    ·rename_i hp
     simp only [RV,RD]
     refine ⟨_,c,by rw [h1]; exact h,by rw [h1]; exact hc.2,.inr ⟨_,o,rfl,Q5p fun i x hx=>⟨h2 x (List.mem_of_getElem? hx),Q1x fun j y hy=>?_⟩⟩⟩
     obtain ⟨q1,q,q2,q3⟩:=key i x j y hx hy
     refine ⟨⟨q1,by simp [G.frz],by rw [q2]; rfl⟩,q,q2,Qbfm ?_ q3⟩
     exact List.all_eq_true.1 (List.all_eq_true.1 hp x (List.mem_of_getElem? hx)) y (List.mem_of_getElem? hy)
    ·simp only [RV,RD]
     refine ⟨_,c,by rw [h1]; exact h,by rw [h1]; exact hc.2,.inr ⟨_,o,rfl,Q5p fun i x hx=>⟨h2 x (List.mem_of_getElem? hx),Q1x fun j y hy=>key i x j y hx hy⟩⟩⟩
   ·simp [RV]
  ·simpa [RV,G.frz] using h
 | .clo f cs,ℓ,u,hl,h=>by
  simp only [frzV,RV] at h ⊢
  obtain ⟨vs,rfl,h⟩:=h
  exact ⟨vs,rfl,RVs_frz cs .ext 0 vs h⟩
 | .mp k',ℓ,u,hl,h=>by
  simp only [frzV]
  split
  ·simp [RV]
  ·simpa [RV,G.frz] using h
theorem RVs_frz:∀ (cs:List V) (ℓ:Owner) (i:Nat) (us:List Value),RVs g w cs ℓ i us→RVs (g.frz k ds.length) w (frzVs k ds cs) ℓ i us
 | [],_,_,_,h=>by simpa [frzVs,RVs] using h
 | c :: cs,ℓ,i,us,h=>by
  simp only [frzVs,RVs] at h ⊢
  obtain ⟨u,us',rfl,h1,h2⟩:=h
  have hne:ℓ.sub i ≠ .box k:=by cases ℓ <;> simp [Owner.sub]
  exact ⟨u,us',rfl,Qbeb c (ℓ.sub i) u hne h1,RVs_frz cs ℓ (i + 1) us' h2⟩
end
end
def PreD (cs:List V) (ds:List D):Prop:=ds.length≤cs.length∧∀ (j:Nat) v d,cs[j]? = some v→ds[j]? = some d→v.toD = some d
theorem PreD.of {cs:List V} {ds:List D} (h:toDs cs = some ds):PreD cs ds:=⟨Nat.le_of_eq (Qw7 h).1,(Qw7 h).2⟩
theorem PreD.app {cs tl:List V} {ds:List D} (h:toDs cs = some ds):PreD (cs ++ tl) ds:=by
 obtain ⟨h1,h2⟩:=Qw7 h
 refine ⟨by simp; omega,fun j v d hv hd=>?_⟩
 have:=(List.getElem?_eq_some_iff.1 hd).1
 rw [List.getElem?_append_left (by omega)] at hv
 exact h2 j v d hv hd
theorem Qbcu {g:G} {w:World} {M:Mem} {nb k:Nat} {cs:List V} {ds:List D} [DecidablePred fun b=>b = g.box k] (hm:MR g w M nb) (hM:M k = some (.cells cs)) (hd:PreD cs ds):RDc (g.frz k ds.length).imm w (g.box k) ds 0:=by
 obtain ⟨hl,hg⟩:=hd
 refine Q1x fun j y hj=>?_
 have hlt:=(List.getElem?_eq_some_iff.1 hj).1
 have hc:cs[j]? = some (cs[j]'(by omega)):=List.getElem?_eq_getElem _
 obtain ⟨u,h1,h2,h3⟩:=Qw3 hm hM hc
 refine ⟨.inr ⟨rfl,by omega⟩,u,by simpa using h1,?_⟩
 exact Qdi ⟨fun _ _ h=>.inl h,fun _ _ _=>rfl⟩ y u (Q12 (hg j _ y hc hj) h2)
def Qxe (n0 k:Nat) (ds:List D) (σ:St):St :=
 {
  s:=fun t=>frzV k ds (σ.s t)
  M:=fun j=>if j = k then none else if j < n0 then σ.M j else
   match σ.M j with
   | some (.cells cs)=>some (.cells (cs.map (frzV k ds)))
   | b=>b
  nb:=σ.nb }
variable {Γ:Env} {σ:St}
open Classical in
theorem Qbds {k:Nat} {cs:List V} {ds:List D} (hk:Γ.n0≤k) (hM:σ.M k = some (.cells cs)) (hd:PreD cs ds):WeakSt Γ σ (Qxe Γ.n0 k ds σ):=by
 intro a w g hs
 have hB:g.own (g.box k) = .box k:=(hs.mem.box k _ hM).2.1
 have hD:=Qbcu hs.mem hM hd
 have hsub:∀ ℓ i,ℓ≠Owner.box k→ℓ.sub i ≠ .box k:=by intro ℓ i _; cases ℓ <;> simp [Owner.sub]
 have hkept:Kept g w (g.frz k ds.length) w (fun j=>j≠k) (fun o=>o ≠ .box k):=by
  refine ⟨⟨fun _ _ h=>.inl h,fun _ _ _=>rfl⟩,fun _ _=>rfl,fun b hb _=>?_⟩
  have hne:b≠g.box k:=by rintro rfl; exact hb hB
  exact ⟨by simp [G.frz,hne],rfl,fun o=>by simp [G.frz,hne]⟩
 have hthere:∀ j,(There σ.M j∧j≠k)→There (Qxe Γ.n0 k ds σ).M j:=by
  rintro j ⟨h1,h2⟩
  simp only [There,Qxe,h2,if_false] at h1 ⊢
  split
  ·exact h1
  ·cases hj:σ.M j with
   | none=>simp [hj] at h1
   | some b=>cases b <;> rfl
 have hown:∀ j,j≠k→g.own (g.box j) = .box j→(g.frz k ds.length).own (g.box j) = .box j:=by
  intro j hj ho
  have hne:g.box j≠g.box k:=by
   intro e
   rw [e,hB] at ho
   cases ho; exact hj rfl
  simp [G.frz,hne,ho]
 refine ⟨g.frz k ds.length,⟨⟨fun j b hb=>?_,fun b o hbo=>?_⟩,fun t=>Qbeb hB hD _ _ _ (by simp) (hs.slots t),hs.size,hs.defers,fun t=>Qdy hthere _ (Qbea k ds _ (hs.onS t)),fun j cs' hb=>?_,hs.top,?_⟩⟩
 ·simp only [Qxe] at hb
  split at hb
  ·cases hb
  ·rename_i hjk
   split at hb
   ·rename_i hlt
    obtain ⟨h1,h2,h3⟩:=hs.mem.box j b hb
    refine ⟨h1,hown j hjk h2,?_⟩
    cases b with
    | mp es c =>
     obtain ⟨ents,k1,k2⟩:=h3
     exact ⟨ents,k1,Qlh (g:=g) (g':=g.frz k ds.length) hkept.imm k2⟩
    | cells cs2 =>
     obtain ⟨vals,e,k1,k2,k3⟩:=h3
     have hon:=(hs.onM j cs2 hb).2 hlt
     exact ⟨vals,e,k1,RVs_mono hkept hsub (by simp) _ _ _ _ (by intro e; cases e; exact hjk rfl) (ons_mono (fun i hi=>by omega) _ hon) k2,k3⟩
   ·split at hb
    ·rename_i hlt _ cs2 hcs
     cases hb
     obtain ⟨h1,h2,vals,e,k1,k2,k3⟩:=hs.mem.box j _ hcs
     refine ⟨h1,hown j hjk h2,vals,e,k1,?_,k3⟩
     rw [← Q6e]
     exact RVs_frz hB hD _ _ _ _ k2
    ·rename_i hne
     obtain ⟨h1,h2,h3⟩:=hs.mem.box j b hb
     cases b with
     | mp es c =>
      obtain ⟨ents,k1,k2⟩:=h3
      exact ⟨h1,hown j hjk h2,ents,k1,Qlh (g:=g) (g':=g.frz k ds.length) hkept.imm k2⟩
     | cells cs2=>exact absurd hb (hne cs2)
 ·rcases hbo with hbo | ⟨rfl,hlt⟩
  ·obtain ⟨h1,h2⟩:=hs.mem.imm b o hbo
   refine ⟨h1,fun j=>?_⟩
   simp only [G.frz]
   split
   ·simp
   ·exact h2 j
  ·refine ⟨?_,fun j=>by simp [G.frz]⟩
   obtain ⟨_,_,vals,e,k1,_,_⟩:=hs.mem.box k _ hM
   exact (Array.getElem?_eq_some_iff.1 k1).1
 ·simp only [Qxe] at hb
  split at hb
  ·cases hb
  ·rename_i hjk
   split at hb
   ·rename_i hlt
    obtain ⟨h1,h2⟩:=hs.onM j cs' hb
    refine ⟨ons_mono (fun i hi=>hthere i ⟨hi.1,?_⟩) _ (ons_and cs' h1 (h2 hlt)),h2⟩
    have:=hi.2; omega
   ·split at hb
    ·rename_i hlt _ cs2 hcs
     cases hb
     refine ⟨?_,fun h=>absurd h hlt⟩
     rw [← Q6e]
     exact ons_mono hthere _ (ons_frz k ds _ (hs.onM j cs2 hcs).1)
    ·rename_i hne; exact absurd hb (hne cs')
 ·have hf:=hs.fr
  refine ⟨hf.os,hf.tape,hf.output,hf.size,⟨fun b o h=>.inl (hf.imm.mono b o h),hf.imm.cell⟩,hf.box,fun b hb ho=>?_⟩
  obtain ⟨h1,h2,h3⟩:=hf.old b hb ho
  have hne:b≠g.box k:=by
   rintro rfl
   rw [hB] at h1
   rw [← h1] at ho
   exact ho
  exact ⟨by simp [G.frz,hne,h1],h2,fun o=>by simp [G.frz,hne,h3]⟩
def FE (f:V→V) (s:Sl):List (Nat×V)→Prop
 | []=>True
 | (t,v) :: E=>WkV (f (s t)) v∧FE f s E
theorem FE.at {f:V→V} {s:Sl}:∀ {E:List (Nat×V)},FE f s E→∀ t,WkV (f (s t)) (look E t)
 | [],_,t=>.und _
 | (u,v) :: E,h,t=>by
  simp only [look]
  cases hb:Nat.beq t u with
  | true=>have:=Nat.eq_of_beq_eq_true hb; subst this; exact h.1
  | false=>exact FE.at h.2 t
def FB (f:V→V) (t0:Nat) (L:List (Nat×Bx)):List (Nat×Bx)→Prop
 | []=>True
 | (t,.cells cs') :: L'=>(∃ cs,Qb4 L t = some (.cells cs)∧Nat.beq t t0 = false∧WkVs (cs.map f) cs')∧FB f t0 L L'
 | (t,.mp es c) :: L'=>(Qb4 L t = some (.mp es c)∧Nat.beq t t0 = false)∧FB f t0 L L'
theorem FB.at {f:V→V} {t0:Nat} {L:List (Nat×Bx)}:∀ {L' : List (Nat×Bx)},FB f t0 L L' → ∀ t b,Qb4 L' t = some b→Nat.beq t t0 = false ∧
  ((∃ cs' cs,b = .cells cs' ∧ Qb4 L t = some (.cells cs)∧WkVs (cs.map f) cs')∨∃ es c,b = .mp es c∧Qb4 L t = some (.mp es c))
 | [],_,t,b,hb=>by simp [Qb4] at hb
 | (u,.cells cs') :: L',h,t,b,hb=>by
  simp only [Qb4] at hb
  cases hbe:Nat.beq t u with
  | true =>
   have:=Nat.eq_of_beq_eq_true hbe
   subst this
   rw [hbe] at hb
   simp only [cond_true,Option.some.injEq] at hb
   obtain ⟨cs,h1,h2,h3⟩:=h.1
   exact ⟨h2,.inl ⟨cs',cs,hb.symm,h1,h3⟩⟩
  | false =>
   rw [hbe] at hb
   exact FB.at h.2 t b hb
 | (u,.mp es c) :: L',h,t,b,hb=>by
  simp only [Qb4] at hb
  cases hbe:Nat.beq t u with
  | true =>
   have:=Nat.eq_of_beq_eq_true hbe
   subst this
   rw [hbe] at hb
   simp only [cond_true,Option.some.injEq] at hb
   exact ⟨h.1.2,.inr ⟨es,c,hb.symm,h.1.1⟩⟩
  | false =>
   rw [hbe] at hb
   exact FB.at h.2 t b hb
theorem Q41 (t:Nat) {E E' : List (Nat×V)} {L:List (Nat×Bx)} {L' : List (Nat×Bx)} {M0:Mem} {nb:Nat} {cs:List V} (ds:List D) (hM:Qb4 L t = some (.cells cs)) (hd:PreD cs ds)
  (hE:FE (frzV (Γ.n0 + t) ds) (look E) E') (hL:FB (frzV (Γ.n0 + t) ds) t L L') (hk:(L.all fun p=>Nat.beq p.1 t || L'.any fun q=>Nat.beq p.1 q.1) = true) :
  WeakSt Γ ⟨look E,Qk Γ.n0 L M0,nb⟩ ⟨look E',Qk Γ.n0 (bxs L') M0,nb⟩:=by
 refine WeakSt.trans (Qbds (σ:=⟨look E,Qk Γ.n0 L M0,nb⟩) (k:=Γ.n0 + t) (by omega) (by show Qk Γ.n0 L M0 (Γ.n0 + t) = _; rw [Qbz]; exact hM) hd) ?_
 intro a w g hs
 have hbase:∀ k,k < Γ.n0→(Qxe Γ.n0 (Γ.n0 + t) ds ⟨look E,Qk Γ.n0 L M0,nb⟩).M k = M0 k:=by
  intro k hk
  have h1:k≠Γ.n0 + t:=by omega
  simp only [Qxe,h1,if_false,hk,if_true]
  exact Qc hk
 have hown:∀ u cs,Nat.beq u t = false→Qb4 L u = some (.cells cs)→(Qxe Γ.n0 (Γ.n0 + t) ds ⟨look E,Qk Γ.n0 L M0,nb⟩).M (Γ.n0 + u) = some (.cells (cs.map (frzV (Γ.n0 + t) ds))):=by
  intro u cs h1 h2
  have h3:u≠t:=fun e=>by subst e; simp at h1
  have h4:Γ.n0 + u≠Γ.n0 + t:=by omega
  have h5:¬ Γ.n0 + u < Γ.n0:=by omega
  have h6:Qk Γ.n0 L M0 (Γ.n0 + u) = some (.cells cs):=by rw [Qbz]; exact h2
  simp only [Qxe,h4,if_false,h5,h6]
 have hownm:∀ u es c,Nat.beq u t = false→Qb4 L u = some (.mp es c)→(Qxe Γ.n0 (Γ.n0 + t) ds ⟨look E,Qk Γ.n0 L M0,nb⟩).M (Γ.n0 + u) = some (.mp es c):=by
  intro u es c h1 h2
  have h3:u≠t:=fun e=>by subst e; simp at h1
  have h4:Γ.n0 + u≠Γ.n0 + t:=by omega
  have h5:¬ Γ.n0 + u < Γ.n0:=by omega
  have h6:Qk Γ.n0 L M0 (Γ.n0 + u) = some (.mp es c):=by rw [Qbz]; exact h2
  simp only [Qxe,h4,if_false,h5,h6]
 have hsplit:∀ k,k < Γ.n0∨∃ u,k = Γ.n0 + u:=fun k=>by
  rcases Nat.lt_or_ge k Γ.n0 with h | h
  ·exact .inl h
  ·exact .inr ⟨k - Γ.n0,by omega⟩
 have hthere:∀ k,There (Qxe Γ.n0 (Γ.n0 + t) ds ⟨look E,Qk Γ.n0 L M0,nb⟩).M k→There (Qk Γ.n0 (bxs L') M0) k:=by
  intro k hk'
  rcases hsplit k with h | ⟨u,rfl⟩
  ·simp only [There,hbase k h] at hk'
   simp only [There,Qc h,hk']
  ·simp only [There,Qbz]
   have h5:¬ Γ.n0 + u < Γ.n0:=by omega
   have h4:Γ.n0 + u≠Γ.n0 + t:=by
    intro e
    simp [There,Qxe,e] at hk'
   have h7:∃ b,Qb4 L u = some b:=by
    cases hb:Qb4 L u with
    | some b=>exact ⟨b,rfl⟩
    | none =>
     have h6:Qk Γ.n0 L M0 (Γ.n0 + u) = none:=by rw [Qbz]; exact hb
     simp only [There,Qxe,h4,if_false,h5,h6] at hk'
     cases hk'
   obtain ⟨b,hb⟩:=h7
   obtain ⟨p,hp,rfl⟩:=Q2a hb
   have:=List.all_eq_true.1 hk p hp
   rw [Bool.or_eq_true] at this
   rcases this with h8 | h8
   ·have:=Nat.eq_of_beq_eq_true h8; omega
   ·obtain ⟨q,hq,he⟩:=List.any_eq_true.1 h8
    have he:=Nat.eq_of_beq_eq_true he
    have:=Q3y hq
    rw [he]; exact this
 refine ⟨g,⟨⟨fun k b hb=>?_,hs.mem.imm⟩,fun t=>(hE.at t).rd _ _ _ _ (hs.slots t),hs.size,hs.defers,fun t=>Qdy hthere _ ((hE.at t).on _ (hs.onS t)),fun k cs hb=>?_,hs.top,hs.fr⟩⟩
 ·rcases hsplit k with h | ⟨u,rfl⟩
  ·have hb' : (Qxe Γ.n0 (Γ.n0 + t) ds ⟨look E,Qk Γ.n0 L M0,nb⟩).M k = some b:=by rw [hbase k h]; rw [← hb]; exact (Qc h).symm
   exact hs.mem.box k b hb'
  ·have hb' : Qb4 (bxs L') u = some b:=by rw [← hb]; exact Qbz.symm
   obtain ⟨h2,⟨cs',cs,rfl,h1,h3⟩ | ⟨es,c,rfl,h1⟩⟩:=hL.at u b hb'
   ·obtain ⟨k1,k2,vals,e,k3,k4,k5⟩:=hs.mem.box _ _ (hown u cs h2 h1)
    exact ⟨k1,k2,vals,e,k3,h3.rd _ _ _ _ _ k4,k5⟩
   ·exact hs.mem.box _ _ (hownm u es c h2 h1)
 ·rcases hsplit k with h | ⟨u,rfl⟩
  ·have hb' : (Qxe Γ.n0 (Γ.n0 + t) ds ⟨look E,Qk Γ.n0 L M0,nb⟩).M k = some (.cells cs):=by rw [hbase k h]; rw [← hb]; exact (Qc h).symm
   obtain ⟨k1,k2⟩:=hs.onM k cs hb'
   exact ⟨ons_mono hthere _ k1,k2⟩
  ·have hb' : Qb4 (bxs L') u = some (.cells cs):=by rw [← hb]; exact Qbz.symm
   obtain ⟨h2,⟨cs',cs0,he,h1,h3⟩ | ⟨es,c,he,h1⟩⟩:=hL.at u _ hb' <;> cases he
   obtain ⟨k1,k2⟩:=hs.onM _ _ (hown u cs0 h2 h1)
   exact ⟨ons_mono hthere _ (h3.on _ k1),fun hlt=>absurd hlt (by omega)⟩
theorem Qfh (t:Nat) {E E' : List (Nat×V)} {L:List (Nat×Bx)} {L' : List (Nat×Bx)} {M0:Mem} {nb:Nat} {cs:List V} (ds:List D) (hM:Qb4 L t = some (.cells cs)) (hd:toDs cs = some ds)
  (hE:FE (frzV (Γ.n0 + t) ds) (look E) E') (hL:FB (frzV (Γ.n0 + t) ds) t L L') (hk:(L.all fun p=>Nat.beq p.1 t || L'.any fun q=>Nat.beq p.1 q.1) = true) :
  WeakSt Γ ⟨look E,Qk Γ.n0 L M0,nb⟩ ⟨look E',Qk Γ.n0 (bxs L') M0,nb⟩ :=
 Q41 t ds hM (.of hd) hE hL hk
theorem fPtr {n0 t u o:Nat} {ds:List D} (h:Nat.beq u t = false):WkV (frzV (n0 + t) ds (.ptr (n0 + u) o)) (.ptr (n0 + u) o):=by
 have:¬ n0 + u = n0 + t:=by
  intro e
  have:u = t:=by omega
  subst this; simp at h
 exact .same (by simp only [frzV]; rw [if_neg this])
theorem fSlO {n0 t u sz o n c:Nat} {ds:List D} (h:Nat.beq u t = false):WkV (frzV (n0 + t) ds (.sl sz (n0 + u) o n c)) (.sl sz (n0 + u) o n c):=by
 have:¬ n0 + u = n0 + t:=by
  intro e
  have:u = t:=by omega
  subst this; simp at h
 exact .same (by simp only [frzV]; rw [if_neg this])
theorem fSl {n0 t sz o n c:Nat} {ds:List D} {l:List (List D)} (h:(Nat.ble (o + n * sz) ds.length && Nat.ble n c) = true) (hl:Qij sz n ((ds.drop o).take (n * sz)) = l):WkV (frzV (n0 + t) ds (.sl sz (n0 + t) o n c)) (.d (.lst sz l)):=by
 simp only [Bool.and_eq_true] at h
 have h1:=Nat.le_of_ble_eq_true h.1
 have h2:=Nat.le_of_ble_eq_true h.2
 have e:frzV (n0 + t) ds (.sl sz (n0 + t) o n c) = frzL sz l:=by simp [frzV,h1,h2,hl]
 rw [e]
 exact Qbd9
def nilO {α R:Type} [DecidableEq R] (l:List α) (K:Bool→Option R):Option R :=
 match l with
 | []=>if K true = K false then K false else none
 | _ :: _=>K false
theorem Qbcv {α R:Type} [DecidableEq R] {l:List α} {K:Bool→Option R} {r:R} (h:nilO l K = some r) (b:Bool) (hb:b = true→l.length = 0):K b = some r:=by
 cases l with
 | nil =>
  simp only [nilO] at h
  split at h
  ·rename_i he
   cases b with
   | true=>rw [he]; exact h
   | false=>exact h
  ·cases h
 | cons x l =>
  cases b with
  | true=>simp at hb
  | false=>exact h
variable {pc d nb:Nat} {os:List COp} {E:List (Nat×V)} {M:Mem} {Q:St→Prop} {gd:Option (Nat×Bool)} {a:Arg}
theorem Rn.isnil {α R:Type} [DecidableEq R] {e:α→List D} {sz:Nat} {xs:List α} {neg:Bool} {J:Bool→Option R} {r:R} (hw:Wn E gd) (ha:(a.val (look E)).dem = .d (.lst sz (xs.map e))) (h:nilO xs J = some r)
  (hk:∀ b,J b = some r→Rn Γ 9 os ⟨look ((d,.d (.bool (bif neg then !b else b))) :: E),M,nb⟩ Q):Rn Γ 9 (⟨some d,.isnil neg,[a],false,gd⟩ :: os) ⟨look E,M,nb⟩ Q:=by
 refine Rn.cons ?_
 unfold COp.run
 rw [hw.wanted]
 simp only [show (Abs.K.isnil neg).isCall = false from rfl,show (Abs.K.isnil neg).isNil = true from rfl,Bool.false_eq_true,if_false,if_true,COp.xs,List.map_cons,List.map_nil,V.dems,ha,Q61,List.length_map,Abs.K.negNil]
 intro b hb
 have e1:∀ v,Qv (look E) (some d) v = look ((d,v) :: E):=fun v=>Qce E d v
 have h2:=hk b (Qbcv h b hb)
 cases neg with
 | true=>exact (show Rn Γ 9 os ⟨Qv (look E) (some d) (.d (.bool (!b))),M,nb⟩ Q from by rw [e1]; exact h2)
 | false=>exact (show Rn Γ 9 os ⟨Qv (look E) (some d) (.d (.bool b)),M,nb⟩ Q from by rw [e1]; exact h2)
end Go.Abs
end
section
namespace Go.Abs
open Go
variable {Γ:Env} {σ:St}
def G.ow (g:G) (k n:Nat) (ℓ:Owner) [DecidablePred fun b=>b = g.box k]:G:=⟨g.box,fun b o=>g.imm b o∨(b = g.box k∧o < n),fun b=>if b = g.box k then ℓ else g.own b⟩
section
variable {g:G} {w:World} {k n:Nat} {ℓ0:Owner} (hB:g.own (g.box k) = .box k)
include hB
mutual
theorem Qbfn [DecidablePred fun b=>b = g.box k]:∀ (v:V) (ℓ:Owner) (u:Value),ℓ ≠ .box k→RV g w v ℓ u→RV (g.ow k n ℓ0) w v ℓ u
 | .und,_,_,_,_=>by simp [RV]
 | .d x,_,_,_,h=>by
  simp only [RV] at h ⊢
  exact Qdi ⟨fun _ _ h=>.inl h,fun _ _ _=>rfl⟩ x _ h
 | .agg cs,ℓ,u,hl,h=>by
  simp only [RV] at h ⊢
  obtain ⟨vs,rfl,h,h1⟩:=h
  exact ⟨vs,rfl,RVs_ow cs ℓ 0 vs h,h1⟩
 | .tup cs,ℓ,u,hl,h=>by
  simp only [RV] at h ⊢
  obtain ⟨vs,rfl,h⟩:=h
  exact ⟨vs,rfl,RVs_ow cs ℓ 0 vs h⟩
 | .own sz l,ℓ,u,hl,h=>by
  simp only [RV] at h ⊢
  rcases h with h | ⟨b,cap,vals,e,h1,h2,h3,h4,h5,h6,h7,h8⟩
  ·exact .inl h
  ·have hne:b≠g.box k:=by rintro rfl; rw [hB] at h2; exact hl h2.symm
   refine .inr ⟨b,cap,vals,e,h1,by simp [G.ow,hne,h2],h3,h4,h5,h6,fun o=>?_,RDL_mono ⟨fun _ _ h=>.inl h,fun _ _ _=>rfl⟩ sz b l 0 h8⟩
   rw [← h7 o]
   simp [G.ow,hne]
 | .ownT sz l,ℓ,u,hl,h=>by
  simp only [RV] at h ⊢
  rcases h with h | ⟨b,o0,cap,vals,e,h1,h2,h3,h4,h5,h6,h7,h8⟩
  ·exact .inl h
  ·have hne:b≠g.box k:=by rintro rfl; rw [hB] at h2; exact hl h2.symm
   refine .inr ⟨b,o0,cap,vals,e,h1,by simp [G.ow,hne,h2],h3,h4,h5,h6,fun o=>?_,RDL_mono ⟨fun _ _ h=>.inl h,fun _ _ _=>rfl⟩ sz b l o0 h8⟩
   rw [← h7 o]
   simp [G.ow,hne]
 | .ptr k' o,ℓ,u,hl,h=>by simpa [RV,G.ow] using h
 | .nilp,_,_,_,h=>by simpa [RV] using h
 | .f x,_,u,_,h=>by
  simp only [RV] at h ⊢
  refine Qdi (Qbad (g:=g) (g':=g.ow k n ℓ0) fun b o h1 h2=>⟨.inl h1,?_⟩) x u h
  have hne:b≠g.box k:=by rintro rfl; rw [hB] at h2; cases h2
  simp [G.ow,hne,h2]
 | .nils _,_,_,_,h=>by simpa [RV] using h
 | .cref cs,ℓ,u,hl,h=>by
  simp only [RV] at h ⊢
  obtain ⟨b,o,rfl,h⟩:=h
  exact ⟨b,o,rfl,Q1v ⟨fun _ _ h=>.inl h,fun _ _ _=>rfl⟩ b cs o h⟩
 | .sl sz k' o n c,ℓ,u,hl,h=>by simpa [RV,G.ow] using h
 | .clo f cs,ℓ,u,hl,h=>by
  simp only [RV] at h ⊢
  obtain ⟨vs,rfl,h⟩:=h
  exact ⟨vs,rfl,RVs_ow cs .ext 0 vs h⟩
 | .mp k',ℓ,u,hl,h=>by simpa [RV,G.ow] using h
theorem RVs_ow [DecidablePred fun b=>b = g.box k]:∀ (cs:List V) (ℓ:Owner) (i:Nat) (us:List Value),RVs g w cs ℓ i us→RVs (g.ow k n ℓ0) w cs ℓ i us
 | [],_,_,_,h=>by simpa [RVs] using h
 | c :: cs,ℓ,i,us,h=>by
  simp only [RVs] at h ⊢
  obtain ⟨u,us',rfl,h1,h2⟩:=h
  have hne:ℓ.sub i ≠ .box k:=by cases ℓ <;> simp [Owner.sub]
  exact ⟨u,us',rfl,Qbfn c (ℓ.sub i) u hne h1,RVs_ow cs ℓ (i + 1) us' h2⟩
end
end
open Classical in
theorem Qbdt {t t0 sz n:Nat} {cs:List V} {ds:List D} (hM:σ.M (Γ.n0 + t) = some (.cells cs)) (hd:toDs cs = some ds) (hs0:σ.s t0 = .sl sz (Γ.n0 + t) 0 n n) (hn:(Nat.beq (n * sz) ds.length && Nat.ble n 65536) = true) :
  WeakSt Γ σ ⟨(Qip Γ.n0 [t] σ).s.put t0 (.own sz (Qij sz n ds)),(Qip Γ.n0 [t] σ).M,σ.nb⟩:=by
 intro a w g hs
 simp only [Bool.and_eq_true] at hn
 have hn1:n * sz = ds.length:=Nat.eq_of_beq_eq_true hn.1
 have hn2:=Nat.le_of_ble_eq_true hn.2
 have hc:=Q5j hs [t]
 have hB:g.own (g.box (Γ.n0 + t)) = .box (Γ.n0 + t):=(hs.mem.box _ _ hM).2.1
 obtain ⟨hl,hg⟩:=Qw7 hd
 have hself:Qhm Γ.n0 [t] (Γ.n0 + t) = true:=by simp [Qhm]
 have hgone:∀ j,There (Qip Γ.n0 [t] σ).M j→j≠Γ.n0 + t:=by
  rintro j hj rfl
  simp [There,Qip,hself] at hj
 have hD:RDc (g.ow (Γ.n0 + t) (n * sz) (.slot t0 [])).imm w (g.box (Γ.n0 + t)) ds 0:=by
  refine Q1x fun j y hj=>?_
  have hlt:=(List.getElem?_eq_some_iff.1 hj).1
  have hcj:cs[j]? = some (cs[j]'(by omega)):=List.getElem?_eq_getElem _
  obtain ⟨u,h1,h2,h3⟩:=Qw3 hs.mem hM hcj
  refine ⟨.inr ⟨rfl,by omega⟩,u,by simpa using h1,?_⟩
  exact Qdi ⟨fun _ _ h=>.inl h,fun _ _ _=>rfl⟩ y u (Q12 (hg j _ y hcj hj) h2)
 refine ⟨g.ow (Γ.n0 + t) (n * sz) (.slot t0 []),⟨⟨fun j b hb=>?_,fun b o hbo=>?_⟩,fun i=>?_,hs.size,hs.defers,fun i=>?_,hc.onM,hs.top,?_⟩⟩
 ·have hjk:=hgone j (by simp [There,show (Qip Γ.n0 [t] σ).M j = some b from hb])
  obtain ⟨h1,h2,h3⟩:=hc.mem.box j b hb
  have hne:g.box j≠g.box (Γ.n0 + t):=by
   intro e
   rw [e,hB] at h2
   cases h2; exact hjk rfl
  refine ⟨h1,by simp [G.ow,hne,h2],?_⟩
  cases b with
  | mp es c =>
   obtain ⟨ents,k1,k2⟩:=h3
   exact ⟨ents,k1,Qlh (g:=g) (g':=g.ow (Γ.n0 + t) (n * sz) (.slot t0 [])) ⟨fun _ _ h=>.inl h,fun _ _ _=>rfl⟩ k2⟩
  | cells cs2 =>
   obtain ⟨vals,e,k1,k2,k3⟩:=h3
   exact ⟨vals,e,k1,RVs_ow hB _ _ _ _ k2,k3⟩
 ·rcases hbo with hbo | ⟨rfl,hlt⟩
  ·obtain ⟨h1,h2⟩:=hs.mem.imm b o hbo
   refine ⟨h1,fun j=>?_⟩
   simp only [G.ow]
   split
   ·simp
   ·exact h2 j
  ·refine ⟨?_,fun j=>by simp [G.ow]⟩
   obtain ⟨_,_,vals,e,k1,_,_⟩:=hs.mem.box _ _ hM
   exact (Array.getElem?_eq_some_iff.1 k1).1
 ·simp only [Sl.put]
  split
  ·rename_i he
   subst he
   have h0:=hs.slots i
   rw [hs0] at h0
   simp only [RV] at h0 ⊢
   obtain ⟨_,_,vals,e,k1,k2,k3⟩:=hs.mem.box _ _ hM
   have hvl:=Qkb k2
   obtain ⟨q1,q2,q3⟩:=Qw8 n sz ds hn1.symm
   refine .inr ⟨g.box (Γ.n0 + t),n,vals.toArray,e,by rw [q1]; exact h0,by simp [G.ow],k1,by omega,by unfold maxLen; omega,⟨by simp; omega,fun u hu=>k3 u (by simpa using hu)⟩,fun o=>?_,Q5p fun i x hx=>⟨q2 x (List.mem_of_getElem? hx),Q1x fun j y hy=>?_⟩⟩
   ·have hno:¬ g.imm (g.box (Γ.n0 + t)) o:=fun h=>(hs.mem.imm _ _ h).2 _ hB
    simp [G.ow,hno,q1]
   ·have h4:=q3 i x j y hx hy
    have:=Qug hD _ y h4
    rw [show 0 + (i * sz + j) = 0 + i * sz + j from by omega] at this
    exact this
  ·exact Qbfn hB _ _ _ (by simp) (hc.slots i)
 ·simp only [Sl.put]
  split
  ·trivial
  ·exact hc.onS i
 ·have hf:=hs.fr
  refine ⟨hf.os,hf.tape,hf.output,hf.size,⟨fun b o h=>.inl (hf.imm.mono b o h),hf.imm.cell⟩,hf.box,fun b hb ho=>?_⟩
  obtain ⟨h1,h2,h3⟩:=hf.old b hb ho
  have hne:b≠g.box (Γ.n0 + t):=by
   rintro rfl
   rw [hB] at h1
   rw [← h1] at ho
   exact ho
  exact ⟨by simp [G.ow,hne,h1],h2,fun o=>by simp [G.ow,hne,h3]⟩
theorem Qbcw (t t0:Nat) {sz n:Nat} {E E' : List (Nat×V)} {L:List (Nat×Bx)} {L' : List (Nat×Bx)} {M0:Mem} {nb:Nat} {cs:List V} (ds:List D) (hM:Qb4 L t = some (.cells cs)) (hd:toDs cs = some ds) (hs0:look E t0 = .sl sz (Γ.n0 + t) 0 n n)
  (hn:(Nat.beq (n * sz) ds.length && Nat.ble n 65536) = true) {l:List (List D)} (hl:Qij sz n ds = l) (hE:KL Γ.n0 [t] (look E) E') (hL:KB Γ.n0 [t] L L') (hk:(L.all fun p=>[t].any (Nat.beq p.1) || L'.any fun q=>Nat.beq p.1 q.1) = true) :
  WeakSt Γ ⟨look E,Qk Γ.n0 L M0,nb⟩ ⟨look ((t0,.own sz l) :: E'),Qk Γ.n0 (bxs L') M0,nb⟩:=by
 intro a w g hs
 subst hl
 have hwk:∀ i,WkV ((Qip Γ.n0 [t] ⟨look E,Qk Γ.n0 L M0,nb⟩).s.put t0 (.own sz (Qij sz n ds)) i) (look ((t0,.own sz (Qij sz n ds)) :: E') i):=by
  intro i
  simp only [Sl.put,look]
  cases hb:Nat.beq i t0 with
  | true=>have:=Nat.eq_of_beq_eq_true hb; subst this; simp; exact WkV.refl _
  | false =>
   have:i≠t0:=fun e=>by subst e; simp at hb
   simp only [this,if_false,cond_false]
   exact hE.at i
 obtain ⟨g1,h1⟩:=Qbdt (σ:=⟨look E,Qk Γ.n0 L M0,nb⟩) (t:=t) (t0:=t0) (by show Qk Γ.n0 L M0 (Γ.n0 + t) = _; rw [Qbz]; exact hM) hd hs0 hn a w g hs
 exact Qbaw (Γ:=Γ) (sites:=[t]) (E:=E) hwk hL hk a w g1 h1
variable {pc d nb:Nat} {os:List COp} {E:List (Nat×V)} {M M0:Mem} {L:List (Nat×Bx)} {Q:St→Prop} {gd:Option (Nat×Bool)} {b:Arg} {α:Type} {e:α→List D}
theorem Rn.app0 {t u sz bytes:Nat} {ys zs:List α} {src:V} {cs:List V} (hw:Wn E gd) (ha:look E t = .sl sz (Γ.n0 + u) 0 0 0) (hM:Qb4 L u = some (.cells cs)) (hb:b.val (look E) = src) (hf:src.dem = src) (hs:Qfv (Qk Γ.n0 L M0) sz src = some (ys.map e)) (hx:appO ([]:List α) ys = some zs) (hbd:(Nat.ble bytes 128 && Nat.ble 1 sz) = true)
  (h:Rn Γ pc os ⟨look ((d,.own sz (zs.map e)) :: E),Qk Γ.n0 L M0,nb⟩ Q):Rn Γ pc (⟨some d,.append sz bytes,[.t t,b],true,gd⟩ :: os) ⟨look E,Qk Γ.n0 L M0,nb⟩ Q:=by
 unfold appO at hx
 split at hx <;> cases hx
 rename_i hl
 simp only [Bool.and_eq_true] at hbd
 have h1:=Nat.le_of_ble_eq_true hbd.1
 have h2:0 < sz:=Nat.le_of_ble_eq_true hbd.2
 have hm:[Arg.t t,b].map (fun x=>x.val (look E)) = [V.sl sz (Γ.n0 + u) 0 0 0,src]:=by
  simp only [List.map_cons,List.map_nil,hb]; rw [show (Arg.t t).val (look E) = _ from ha]
 have he:Qfv (Qk Γ.n0 L M0) sz (.sl sz (Γ.n0 + u) 0 0 0) = some []:=by simp [Qfv,Ql hM,toDs,Qij]
 refine Rn.kT hw rfl rfl (v:=.own sz (([] ++ ys).map e)) ?_ (fun i=>?_) h
 ·rw [hm]
  simp only [Qg,he,hs]
  by_cases hy:(ys.map e).length = 0
  ·have:ys = []:=by simpa using hy
   subst this
   simp
  ·simp only [hy,if_false]
   simp [h1,h2] at hl ⊢
   exact hl
 ·rw [hm]
  simp only [Q5,hf,show (V.sl sz (Γ.n0 + u) 0 0 0).dem = .sl sz (Γ.n0 + u) 0 0 0 from rfl,Qo,show ∀ s v,(Arg.t t).putTo s v = s.put t v from fun _ _=>rfl]
  have hz:∀ (a:Arg) (v:V) (s:Sl),a.val s = v→a.putTo s v = s:=by
   intro a v s hs
   cases a with
   | c v=>rfl
   | t j =>
    simp only [Arg.val] at hs
    funext i; simp only [Arg.putTo,Sl.put]; split
    ·rename_i e; subst e; exact hs.symm
    ·rfl
  have e1:(look E).put t (.sl sz (Γ.n0 + u) 0 0 0) = look E:=hz (.t t) _ _ ha
  rw [e1,hz b src _ hb,Qce]
end Go.Abs
namespace Go.Abs
open Go
theorem WkV.nilsO (sz:Nat):WkV (.nils sz) (.own sz []):=⟨fun g w ℓ u h=>by
 simp only [RV] at h
 simp only [RV]
 exact .inl ⟨h,trivial⟩,fun _ _=>trivial⟩
theorem WkV.nilsD (sz:Nat):WkV (.nils sz) (.d (.lst sz [])):=⟨fun g w ℓ u h=>by
 simp only [RV] at h ⊢
 obtain ⟨a,rfl⟩:=h
 simp [RD],fun _ _=>trivial⟩
theorem WkVs.rf {g:G} {w:World} {vs vs' : List V} (h:WkVs vs vs'):∀ {us:List Value},RFs g w vs us→RFs g w vs' us:=by
 induction h with
 | nil=>exact fun h=>h
 | cons h t ih =>
  rintro us ⟨u,us',e,h1,h2⟩
  exact ⟨u,us',e,fun ℓ=>h.rd _ _ _ _ (h1 ℓ),ih h2⟩
theorem ACalls.weak {P:Program} {f:FuncId} {args args' : List V} {M M' : Mem} {nb nb' : Nat} {r:V} (h:ACalls P f args' M nb r M' nb') (hw:WkVs args args') (hf:V.dems args' = args'):ACalls P f args M nb r M' nb':=by
 refine ⟨h.1,h.2.1,fun w g us hm hMon hfr hus hfl hons=>h.2.2 w g us hm hMon hfr (hw.rf hus) (fun x hx=>?_) (hw.on _ hons)⟩
 rw [← hf] at hx
 exact Qen x hx
end Go.Abs
end
section
namespace Go.Abs
open Go
variable {α:Type}
def Q9f (g:α→List V) (xs:List α):List V:=(xs.map g).flatten
theorem Qbbf (g:α→List V) (x:α) (xs:List α):Q9f g (x :: xs) = g x ++ Q9f g xs:=by simp [Q9f]
theorem Q9g {g:α→List V} {sz:Nat} (hg:∀ x,(g x).length = sz):∀ xs:List α,(Q9f g xs).length = xs.length * sz
 | []=>by simp [Q9f]
 | x :: xs=>by rw [Qbbf,List.length_append,hg,Q9g hg xs,List.length_cons,Nat.add_mul]; omega
theorem Qbcx (g:α→List V) (x:α) (n:Nat):Q9f g (List.replicate n x) = rep n (g x):=by simp [Q9f,rep]
def mkO (n:Int) (x:α):Option (List α):=if 0≤n∧n≤lim then some (List.replicate n.toNat x) else none
variable {Γ:Env} {pc d nb:Nat} {os:List COp} {E:List (Nat×V)} {M M0:Mem} {L:List (Nat×Bx)} {Q:St→Prop} {gd:Option (Nat×Bool)} {a b:Arg} {g:α→List V} {xs:List α} {sz:Nat}
theorem Rn.makes {bytes:Nat} {z:List V} {n:Int} {x:α} (hw:Wn E gd) (ha:a.val (look E) = .d (.int .i64 n)) (hb:b.val (look E) = .d (.int .i64 n)) (hf:(Qb4 L d).isNone = true) (hz:g x = z) (hc:(Nat.ble bytes 128 && Nat.beq z.length sz && Nat.ble 1 sz) = true) (hx:mkO n x = some xs)
  (h:Rn Γ pc os ⟨look ((d,.sl sz (Γ.n0 + d) 0 n.toNat n.toNat) :: E),Qk Γ.n0 ((d,.cells (Q9f g xs)) :: L) M0,nb⟩ Q):Rn Γ pc (⟨some d,.makes sz bytes z,[a,b],false,gd⟩ :: os) ⟨look E,Qk Γ.n0 L M0,nb⟩ Q:=by
 unfold mkO at hx
 split at hx <;> cases hx
 rename_i hn
 simp only [Bool.and_eq_true] at hc
 have h1:=Nat.le_of_ble_eq_true hc.1.1
 have h2:z.length = sz:=Nat.eq_of_beq_eq_true hc.1.2
 have h3:0 < sz:=Nat.le_of_ble_eq_true hc.2
 refine Rn.k hw rfl rfl ?_ h
 simp only [List.map_cons,List.map_nil,V.dems,ha,hb,V.dem,Qg]
 have hfr:=Qkm (Γ:=Γ) (M0:=M0) hf
 rw [if_pos (by simp [hn.1,hn.2,h1,h2,h3,hfr]),Qc6,Qbcx,hz]
theorem Q6f {e:α→List D} {sz:Nat} (h:∀ x,(e x).length = sz):∀ xs:List α,Qij sz xs.length ((xs.map e).flatten) = xs.map e
 | []=>rfl
 | x :: xs=>by
  simp only [List.length_cons,Qij,List.map_cons,List.flatten_cons]
  have h1:(e x ++ (xs.map e).flatten).take sz = e x:=by rw [← h x]; simp
  have h2:(e x ++ (xs.map e).flatten).drop sz = (xs.map e).flatten:=by rw [← h x]; simp
  rw [h1,h2,Q6f h xs]
theorem Q6g {e:α→List D} {sz:Nat} (h:∀ x,(e x).length = sz):∀ xs:List α,((xs.map e).flatten).length = xs.length * sz
 | []=>by simp
 | x :: xs=>by simp only [List.map_cons,List.flatten_cons,List.length_append,h,Q6g h xs,List.length_cons,Nat.add_mul]; omega
end Go.Abs
end
section
namespace Go.Abs
open Go
def Qz6:D→Bool
 | .lst _ l=>l.isEmpty
 | _=>true
def Qjo (l:List (List D)):Bool:=l.all fun x=>x.all Qz6
def Qed:V→Bool
 | .d x=>Qz6 x
 | .own _ l=>Qjo l
 | .ownT _ l=>Qjo l
 | .cref cs=>cs.isEmpty
 | .agg cs=>go cs
 | .tup vs=>go vs
 | .clo _ vs=>go vs
 | _=>true
where go:List V→Bool
 | []=>true
 | v :: vs=>Qed v && go vs
theorem Qbay:∀ vs:List V,Qed.go vs = true↔∀ v∈vs,Qed v = true
 | []=>by simp [Qed.go]
 | v :: vs=>by simp [Qed.go,Qbay vs]
theorem Q8e {imm imm' : Nat→Nat→Prop} {w:World} {x:D} {u:Value} (hp:Qz6 x = true) (h:RD imm w x u):RD imm' w x u:=by
 cases x with
 | int k n=>simpa [RD] using h
 | bool b=>simpa [RD] using h
 | str s=>simpa [RD] using h
 | lst sz l =>
  simp only [Qz6,List.isEmpty_iff] at hp
  subst hp
  simp only [RD] at h ⊢
  obtain ⟨a,cap,h1,h2,_⟩:=h
  exact ⟨a,cap,h1,h2,.inl trivial⟩
theorem Q9h {imm imm' : Nat→Nat→Prop} {w:World} {b:Nat} (hi:∀ o,imm b o→imm' b o):∀ {xs:List D} {o:Nat},xs.all Qz6 = true→RDc imm w b xs o→RDc imm' w b xs o
 | [],_,_,_=>by simp [RDc]
 | x :: xs,o,hp,h=>by
  simp only [List.all_cons,Bool.and_eq_true] at hp
  simp only [RDc] at h ⊢
  obtain ⟨h1,⟨u,h2,h3⟩,h4⟩:=h
  exact ⟨hi _ h1,⟨u,h2,Q8e hp.1 h3⟩,Q9h hi hp.2 h4⟩
theorem Q2b {imm imm' : Nat→Nat→Prop} {w:World} {sz b:Nat} (hi:∀ o,imm b o→imm' b o):∀ {l:List (List D)} {o:Nat},Qjo l = true→RDL imm w sz b l o→RDL imm' w sz b l o
 | [],_,_,_=>by simp [RDL]
 | x :: l,o,hp,h=>by
  simp only [Qjo,List.all_cons,Bool.and_eq_true] at hp
  simp only [RDL] at h ⊢
  exact ⟨h.1,Q9h hi hp.1 h.2.1,Q2b hi (by simpa [Qjo] using hp.2) h.2.2⟩
theorem Qbaz {imm:Nat→Nat→Prop} {w:World} {sz b:Nat}:∀ {l:List (List D)} {o:Nat},RDL imm w sz b l o→l.flatten.length = l.length * sz∧∀ (j:Nat) y,l.flatten[j]? = some y→∃ u,w.cell? ⟨b,o + j,none⟩ = some u∧RD imm w y u
 | [],o,_=>by simp
 | x :: l,o,h=>by
  simp only [RDL] at h
  obtain ⟨h1,h2,h3⟩:=h
  obtain ⟨h4,h5⟩:=Qbaz h3
  refine ⟨by simp [h1,h4,Nat.add_mul]; omega,fun j y hj=>?_⟩
  simp only [List.flatten_cons] at hj
  by_cases hlt:j < x.length
  ·rw [List.getElem?_append_left hlt] at hj
   obtain ⟨_,u,h6,h7⟩:=Qug h2 j y hj
   exact ⟨u,h6,h7⟩
  ·rw [List.getElem?_append_right (by omega)] at hj
   obtain ⟨u,h6,h7⟩:=h5 _ y hj
   exact ⟨u,by rw [show o + j = o + sz + (j - x.length) from by omega]; exact h6,h7⟩
def G.th (g:G) (b κ:Nat) [DecidablePred fun b'=>b' = b]:G:=⟨fun k=>if k = κ then b else g.box k,fun b' o=>g.imm b' o∧b' ≠ b,fun b'=>if b' = b then .box κ else g.own b'⟩
section
variable {g:G} {w:World} {b κ:Nat} {keep:Owner→Prop} (hB:¬ keep (g.own b)) (hs:∀ ℓ i,keep ℓ→keep (ℓ.sub i)) (he:keep .ext)
include hB hs he
mutual
theorem Qbdu [DecidablePred fun b'=>b' = b]:∀ (v:V) (ℓ:Owner) (u:Value),Qed v = true→v.on (· ≠ κ)→keep ℓ→RV g w v ℓ u→RV (g.th b κ) w v ℓ u
 | .und,_,_,_,_,_,_=>by simp [RV]
 | .d x,_,_,hp,_,_,h=>by
  simp only [RV,Qed] at hp h ⊢
  exact Q8e hp h
 | .agg cs,ℓ,u,hp,ho,hl,h=>by
  simp only [RV,Qed] at hp h ⊢
  obtain ⟨vs,rfl,h,h1⟩:=h
  exact ⟨vs,rfl,RVs_th cs ℓ 0 vs hp ho hl h,h1⟩
 | .tup cs,ℓ,u,hp,ho,hl,h=>by
  simp only [RV,Qed] at hp h ⊢
  obtain ⟨vs,rfl,h⟩:=h
  exact ⟨vs,rfl,RVs_th cs ℓ 0 vs hp ho hl h⟩
 | .own sz l,ℓ,u,hp,ho,hl,h=>by
  simp only [RV,Qed] at hp h ⊢
  rcases h with h | ⟨b',cap,vals,e,h1,h2,h3,h4,h5,h6,h7,h8⟩
  ·exact .inl h
  ·have hne:b' ≠ b:=by rintro rfl; rw [h2] at hB; exact hB hl
   refine .inr ⟨b',cap,vals,e,h1,by simp [G.th,hne,h2],h3,h4,h5,h6,fun o=>?_,Q2b (fun o ho=>⟨ho,hne⟩) hp h8⟩
   rw [← h7 o]
   simp [G.th,hne]
 | .ownT sz l,ℓ,u,hp,ho,hl,h=>by
  simp only [RV,Qed] at hp h ⊢
  rcases h with h | ⟨b',o0,cap,vals,e,h1,h2,h3,h4,h5,h6,h7,h8⟩
  ·exact .inl h
  ·have hne:b' ≠ b:=by rintro rfl; rw [h2] at hB; exact hB hl
   refine .inr ⟨b',o0,cap,vals,e,h1,by simp [G.th,hne,h2],h3,h4,h5,h6,fun o=>?_,Q2b (fun o ho=>⟨ho,hne⟩) hp h8⟩
   rw [← h7 o]
   simp [G.th,hne]
 | .ptr k' o,ℓ,u,_,ho,hl,h=>by
  have:k' ≠ κ:=ho
  simpa [RV,G.th,this] using h
 | .nilp,_,_,_,_,_,h=>by simpa [RV] using h
 | .f x,_,u,_,_,_,h=>by
  simp only [RV] at h ⊢
  refine Qdi (Qbad (g:=g) (g':=g.th b κ) fun b' o h1 h2=>?_) x u h
  have hne:b' ≠ b:=by rintro rfl; rw [h2] at hB; exact hB he
  exact ⟨⟨h1,hne⟩,by simp [G.th,hne,h2]⟩
 | .nils _,_,_,_,_,_,h=>by simpa [RV] using h
 | .cref cs,ℓ,u,hp,_,hl,h=>by
  simp only [Qed,List.isEmpty_iff] at hp
  subst hp
  simp only [RV] at h ⊢
  obtain ⟨b',o,rfl,_⟩:=h
  exact ⟨b',o,rfl,by simp [RDc]⟩
 | .sl sz k' o n c,ℓ,u,_,ho,hl,h=>by
  have:k' ≠ κ:=ho
  simpa [RV,G.th,this] using h
 | .clo f cs,ℓ,u,hp,ho,hl,h=>by
  simp only [RV,Qed] at hp h ⊢
  obtain ⟨vs,rfl,h⟩:=h
  exact ⟨vs,rfl,RVs_th cs .ext 0 vs hp ho he h⟩
 | .mp k',ℓ,u,_,ho,hl,h=>by
  have:k' ≠ κ:=ho
  simpa [RV,G.th,this] using h
theorem RVs_th [DecidablePred fun b'=>b' = b]:∀ (cs:List V) (ℓ:Owner) (i:Nat) (us:List Value),Qed.go cs = true→V.ons (· ≠ κ) cs→keep ℓ→RVs g w cs ℓ i us→RVs (g.th b κ) w cs ℓ i us
 | [],_,_,_,_,_,_,h=>by simpa [RVs] using h
 | c :: cs,ℓ,i,us,hp,ho,hl,h=>by
  simp only [Qed.go,Bool.and_eq_true] at hp
  simp only [RVs] at h ⊢
  obtain ⟨u,us',rfl,h1,h2⟩:=h
  exact ⟨u,us',rfl,Qbdu c (ℓ.sub i) u hp.1 ho.1 (hs _ _ hl) h1,RVs_th cs ℓ (i + 1) us' hp.2 ho.2 hl h2⟩
end
end
variable {Γ:Env} {σ:St}
def Qcb (l:List (List D)) (room:Nat):List V:=l.flatten.map V.d ++ List.replicate room .und
structure Lone (Γ:Env):Prop where
 prot:∀ b,Prot (Γ.g0.own b)
 imm:∀ b o,Γ.g0.imm b o→b < Γ.w0.heap.size
theorem Lone.old {Γ:Env} (h:Lone Γ) {g:G} {w:World} (hf:Fr Γ.n0 Γ.g0 Γ.w0 g w) {b:Nat} (hb:¬ Prot (g.own b)):¬ b < Γ.w0.heap.size:=by
 intro hlt
 obtain ⟨h1,_,_⟩:=hf.old b hlt (h.prot b)
 rw [h1] at hb
 exact hb (h.prot b)
open Classical in
theorem Q9i (hG:Lone Γ) {a:Act} {w:World} {g:G} (hs:SR Γ.n0 Γ.nt Γ.g0 Γ.w0 σ a w g) {κ sz:Nat} {l:List (List D)} {ℓ:Owner} {u:Value} (keep:Owner→Prop) (hkeep:¬ keep ℓ) (hsub:∀ o i,keep o→keep (o.sub i)) (he:keep .ext) (hℓ:¬ Prot ℓ)
  (hown:RV g w (.own sz l) ℓ u) (hl:l≠[]) (hpl:Qjo l = true) (hκ:Γ.n0≤κ) (hκ2:κ < σ.nb) (hκM:σ.M κ = none) :
  ∃ c b,l.length≤c∧c≤maxLen∧u = .slice (some ⟨b,0,none⟩) l.length c∧g.own b = ℓ∧(g.th b κ).box κ = b∧BR (g.th b κ) w κ (.cells (Qcb l ((c - l.length) * sz)))∧Fr Γ.n0 Γ.g0 Γ.w0 (g.th b κ) w ∧
   (∀ b' o,(g.th b κ).imm b' o→b' < w.heap.size∧∀ k,(g.th b κ).own b' ≠ .box k)∧∀ k,There σ.M k→k≠κ:=by
 simp only [RV] at hown
 rcases hown with ⟨_,h⟩ | ⟨b,cap,vals,e,rfl,hb,hh,h4,h5,⟨h6,h6'⟩,h7,h8⟩
 ·exact absurd h hl
 have hnp:¬ Prot (g.own b):=by rw [hb]; exact hℓ
 have hnew:=hG.old hs.fr hnp
 have hk' : ¬ keep (g.own b):=by rw [hb]; exact hkeep
 refine ⟨cap,b,h4,h5,rfl,hb,by simp [G.th],⟨vals.toList,e,by simpa [G.th] using hh,?_,h6'⟩,?_,?_,?_⟩
 ·have h8' : RDL (g.th b κ).imm w sz b l 0→False∨True:=fun _=>.inr trivial
  obtain ⟨hfl,hfg⟩:=Qbaz h8
  have hlen:vals.toList.length = (Qcb l ((cap - l.length) * sz)).length:=by
   simp only [Qcb,List.length_append,List.length_map,List.length_replicate,hfl,Array.length_toList,h6]
   rw [← Nat.add_mul]; congr 1; omega
  refine (Qby _ _ _ _).2 ⟨hlen,fun j c x hc hx=>?_⟩
  simp only [Qcb] at hc
  by_cases hj:j < l.flatten.length
  ·rw [List.getElem?_append_left (by rw [List.length_map]; exact hj),List.getElem?_map] at hc
   obtain ⟨y,hy,rfl⟩:=Option.map_eq_some_iff.1 hc
   obtain ⟨x',hx1,hx2⟩:=hfg j y hy
   have hcell:w.cell? ⟨b,0 + j,none⟩ = vals[j]?:=by simp [World.cell?,hh]
   rw [hcell] at hx1
   have:x = x':=by
    have h9:vals[j]? = some x:=by simpa using hx
    rw [h9] at hx1; exact Option.some.inj hx1
   subst this
   have hmem:y∈l.flatten:=List.mem_of_getElem? hy
   obtain ⟨r,hr1,hr2⟩:=List.mem_flatten.1 hmem
   have hp:Qz6 y = true:=List.all_eq_true.1 (List.all_eq_true.1 hpl r hr1) y hr2
   simp only [RV]
   exact Q8e hp hx2
  ·rw [List.getElem?_append_right (by rw [List.length_map]; omega)] at hc
   have:c = .und:=by
    have:=List.mem_of_getElem? hc
    exact (List.mem_replicate.1 this).2
   subst this; simp [RV]
 ·have hf:=hs.fr
  refine ⟨hf.os,hf.tape,hf.output,hf.size,⟨fun b' o hi=>⟨hf.imm.mono b' o hi,?_⟩,hf.imm.cell⟩,fun k hk=>?_,fun b' hb' ho=>?_⟩
  ·rintro rfl; exact hnew (hG.imm _ _ hi)
  ·have:k≠κ:=by omega
   simp only [G.th,this,if_false]; exact hf.box k hk
  ·have hne:b' ≠ b:=by rintro rfl; exact hnew hb'
   obtain ⟨k1,k2,k3⟩:=hf.old b' hb' ho
   exact ⟨by simp [G.th,hne,k1],k2,fun o=>by simp [G.th,hne,k3]⟩
 ·rintro b' o ⟨hi,hne⟩
  obtain ⟨k1,k2⟩:=hs.mem.imm b' o hi
  exact ⟨k1,fun k=>by simp only [G.th,hne,if_false]; exact k2 k⟩
 ·rintro k hk rfl
  simp [There,hκM] at hk
theorem Qbfo {M:Mem} {κ:Nat} (hκ:∀ k,There M k→k≠κ) {v:V} (h:v.on fun k=>(M k).isSome = true):v.on (· ≠ κ):=Qdy (fun k hk=>hκ k hk) v h
open Classical in
theorem Tr.thawS {cc:CC} {Q:Ex→St→Prop} (hG:Lone Γ) {t κ sz:Nat} {l:List (List D)} (hl:l≠[]) (hpl:Qjo l = true) (hs0:σ.s t = .own sz l) (hκ:Γ.n0≤κ) (hκ2:κ < σ.nb) (hκM:σ.M κ = none)
  (hps:∀ t',t' ≠ t→Qed (σ.s t') = true) (hpm:∀ k cs,σ.M k = some (.cells cs)→Qed.go cs = true) (hpn:∀ k es c,σ.M k≠some (.mp es c))
  (h:∀ c,l.length≤c→c≤maxLen→Tr Γ cc ⟨σ.s.put t (.sl sz κ 0 l.length c),σ.M.put κ (.cells (Qcb l ((c - l.length) * sz))),σ.nb⟩ Q):Tr Γ cc σ Q:=by
 intro code hcode a w g hs
 have hslot:=hs.slots t
 rw [hs0] at hslot
 have hsub:∀ (o:Owner) i,o ≠ .slot t []→o.sub i ≠ .slot t []:=by intro o i ho; cases o <;> simp_all [Owner.sub]
 obtain ⟨c,b,h1,h2,hu,hb,hbox,hbr,hfr,himm,hne⟩:=Q9i hG hs (fun o=>o ≠ .slot t []) (by simp) hsub (by simp) (by simp [Prot]) hslot hl hpl hκ hκ2 hκM
 have hk' : ¬ (fun o=>o≠Owner.slot t []) (g.own b):=by simp [hb]
 refine h c h1 h2 code hcode a w (g.th b κ) ⟨⟨fun k bx hk=>?_,himm⟩,fun t'=>?_,hs.size,hs.defers,fun t'=>?_,fun k cs hk=>?_,hs.top,hfr⟩
 ·replace hk:(σ.M.put κ (.cells (Qcb l ((c - l.length) * sz)))) k = some bx:=hk
  by_cases hkk:k = κ
  ·subst hkk
   rw [Qfc] at hk; cases hk
   exact ⟨hκ2,by rw [hbox]; simp [G.th],hbr⟩
  ·rw [Qcd _ _ hkk] at hk
   obtain ⟨k1,k2,k3⟩:=hs.mem.box k bx hk
   have hbx:(g.th b κ).box k = g.box k:=by simp [G.th,hkk]
   have hne' : g.box k≠b:=by
    rintro rfl
    rw [k2] at hb; cases hb
   refine ⟨k1,by rw [hbx]; simp [G.th,hne',k2],?_⟩
   cases bx with
   | mp es c=>exact absurd hk (hpn k es c)
   | cells cs =>
    obtain ⟨vals,e,q1,q2,q3⟩:=k3
    refine ⟨vals,e,by rw [hbx]; exact q1,RVs_th hk' hsub (by simp) cs (.box k) 0 vals (hpm k cs hk) ?_ (by simp) q2,q3⟩
    exact ons_mono (fun j hj=>hne j hj) _ (hs.onM k cs hk).1
 ·simp only [Sl.put]
  split
  ·rename_i he; subst he
   simp only [RV]; rw [hbox]; exact hu
  ·rename_i hne2
   refine Qbdu hk' hsub (by simp) _ _ _ (hps t' hne2) (Qbfo hne (hs.onS t')) ?_ (hs.slots t')
   simp; exact hne2
 ·simp only [Sl.put]
  split
  ·show There _ κ; exact There.self
  ·exact Qdy (fun k hk=>There.put hk) _ (hs.onS t')
 ·replace hk:(σ.M.put κ (.cells (Qcb l ((c - l.length) * sz)))) k = some (.cells cs):=hk
  by_cases hkk:k = κ
  ·subst hkk
   rw [Qfc] at hk; cases hk
   have hno:∀ p:Nat→Prop,V.ons p (Qcb l ((c - l.length) * sz)):=by
    intro p
    rw [Qet]
    intro v hv
    simp only [Qcb,List.mem_append,List.mem_map,List.mem_replicate] at hv
    rcases hv with ⟨x,_,rfl⟩ | ⟨_,rfl⟩ <;> trivial
   exact ⟨hno _,fun _=>hno _⟩
  ·rw [Qcd _ _ hkk] at hk
   obtain ⟨q1,q2⟩:=hs.onM k cs hk
   exact ⟨ons_mono (fun j hj=>There.put hj) _ q1,q2⟩
open Classical in
theorem Tr.thawC {cc:CC} {Q:Ex→St→Prop} (hG:Lone Γ) {k0 i κ sz:Nat} {l:List (List D)} {cs0:List V} (hl:l≠[]) (hpl:Qjo l = true) (hk0:Γ.n0≤k0) (hM0:σ.M k0 = some (.cells cs0)) (hi:cs0[i]? = some (.own sz l)) (hκ:Γ.n0≤κ) (hκ2:κ < σ.nb) (hκM:σ.M κ = none)
  (hps:∀ t',Qed (σ.s t') = true) (hpm:∀ k cs,σ.M k = some (.cells cs)→Qed.go (if k = k0 then cs.set i .und else cs) = true) (hpn:∀ k es c,σ.M k≠some (.mp es c))
  (h:∀ c,l.length≤c→c≤maxLen→Tr Γ cc ⟨σ.s,(σ.M.put k0 (.cells (cs0.set i (.sl sz κ 0 l.length c)))).put κ (.cells (Qcb l ((c - l.length) * sz))),σ.nb⟩ Q):Tr Γ cc σ Q:=by
 intro code hcode a w g hs
 obtain ⟨u0,hcell,hrv0,_⟩:=Qw3 hs.mem hM0 hi
 have hsub:∀ (o:Owner) j,(o ≠ .cell k0 i∧o ≠ .box k0)→(o.sub j ≠ .cell k0 i∧o.sub j ≠ .box k0):=by
  rintro o j ⟨h1,h2⟩
  cases o <;> simp_all [Owner.sub]
 have hnk:k0≠κ:=by rintro rfl; rw [hM0] at hκM; cases hκM
 obtain ⟨c,b,h1,h2,hu,hb,hbox,hbr,hfr,himm,hne⟩:=Q9i hG hs (fun o=>o ≠ .cell k0 i∧o ≠ .box k0) (by simp) hsub (by simp) (by simp [Prot]) hrv0 hl hpl hκ hκ2 hκM
 have hk' : ¬ (fun o=>o≠Owner.cell k0 i∧o ≠ .box k0) (g.own b):=by simp [hb]
 have hther:∀ j,There σ.M j→There ((σ.M.put k0 (.cells (cs0.set i (.sl sz κ 0 l.length c)))).put κ (.cells (Qcb l ((c - l.length) * sz)))) j:=fun j hj=>There.put (There.put hj)
 refine h c h1 h2 code hcode a w (g.th b κ) ⟨⟨fun k bx hk=>?_,himm⟩,fun t'=>?_,hs.size,hs.defers,fun t'=>?_,fun k cs hk=>?_,hs.top,hfr⟩
 ·replace hk:((σ.M.put k0 (.cells (cs0.set i (.sl sz κ 0 l.length c)))).put κ (.cells (Qcb l ((c - l.length) * sz)))) k = some bx:=hk
  by_cases hkk:k = κ
  ·subst hkk
   rw [Qfc] at hk; cases hk
   exact ⟨hκ2,by rw [hbox]; simp [G.th],hbr⟩
  ·rw [Qcd _ _ hkk] at hk
   have hbx:(g.th b κ).box k = g.box k:=by simp [G.th,hkk]
   by_cases hkz:k = k0
   ·subst hkz
    rw [Qfc] at hk; cases hk
    obtain ⟨k1,k2,vals,e,q1,q2,q3⟩:=hs.mem.box k _ hM0
    have hne' : g.box k≠b:=by
     rintro rfl
     rw [k2] at hb; cases hb
    refine ⟨k1,by rw [hbx]; simp [G.th,hne',k2],vals,e,by rw [hbx]; exact q1,(Qby _ _ _ _).2 ⟨?_,fun j d x hd hx=>?_⟩,q3⟩
    ·rw [List.length_set]; exact Qkb q2
    ·obtain ⟨r1,r2⟩:=(Qby _ _ _ _).1 q2
     by_cases hj:j = i
     ·subst hj
      have hlt:=(List.getElem?_eq_some_iff.1 hi).1
      rw [List.getElem?_set_self hlt] at hd; cases hd
      have hcx:w.cell? ⟨g.box k,j,none⟩ = some x:=by
       have h9:vals.toArray[j]? = some x:=by simpa using hx
       simp [World.cell?,q1]; simpa using hx
      rw [hcell] at hcx; cases hcx
      simp only [RV]; rw [hbox]; exact hu
     ·rw [List.getElem?_set_ne (Ne.symm hj)] at hd
      have hpl2:=hpm k cs0 hM0
      rw [if_pos rfl,Qbay] at hpl2
      have hmem:d∈cs0.set i .und:=by
       have:(cs0.set i .und)[j]? = some d:=by rw [List.getElem?_set_ne (Ne.symm hj)]; exact hd
       exact List.mem_of_getElem? this
      refine Qbdu hk' hsub (by simp) d _ x (hpl2 d hmem) ?_ ?_ (r2 j d x hd hx)
      ·exact Qdy (fun j hj=>hne j hj) _ (Qdb (hs.onM k cs0 hM0).1 hd)
      ·simp [Owner.sub]; omega
   ·rw [Qcd _ _ hkz] at hk
    obtain ⟨k1,k2,k3⟩:=hs.mem.box k bx hk
    have hne' : g.box k≠b:=by
     rintro rfl
     rw [k2] at hb; cases hb
    refine ⟨k1,by rw [hbx]; simp [G.th,hne',k2],?_⟩
    cases bx with
    | mp es c=>exact absurd hk (hpn k es c)
    | cells cs =>
     obtain ⟨vals,e,q1,q2,q3⟩:=k3
     have hp:=hpm k cs hk
     rw [if_neg hkz] at hp
     refine ⟨vals,e,by rw [hbx]; exact q1,RVs_th hk' hsub (by simp) cs (.box k) 0 vals hp ?_ ⟨by simp,by simpa using hkz⟩ q2,q3⟩
     exact ons_mono (fun j hj=>hne j hj) _ (hs.onM k cs hk).1
 ·exact Qbdu hk' hsub (by simp) _ _ _ (hps t') (Qbfo hne (hs.onS t')) (by simp) (hs.slots t')
 ·exact Qdy hther _ (hs.onS t')
 ·replace hk:((σ.M.put k0 (.cells (cs0.set i (.sl sz κ 0 l.length c)))).put κ (.cells (Qcb l ((c - l.length) * sz)))) k = some (.cells cs):=hk
  by_cases hkk:k = κ
  ·subst hkk
   rw [Qfc] at hk; cases hk
   have hno:∀ p:Nat→Prop,V.ons p (Qcb l ((c - l.length) * sz)):=by
    intro p
    rw [Qet]
    intro v hv
    simp only [Qcb,List.mem_append,List.mem_map,List.mem_replicate] at hv
    rcases hv with ⟨x,_,rfl⟩ | ⟨_,rfl⟩ <;> trivial
   exact ⟨hno _,fun _=>hno _⟩
  ·rw [Qcd _ _ hkk] at hk
   by_cases hkz:k = k0
   ·subst hkz
    rw [Qfc] at hk; cases hk
    obtain ⟨q1,q2⟩:=hs.onM k cs0 hM0
    refine ⟨Q5v i (ons_mono hther _ q1) ?_,fun hlt=>absurd hlt (by omega)⟩
    show There _ κ; exact There.self
   ·rw [Qcd _ _ hkz] at hk
    obtain ⟨q1,q2⟩:=hs.onM k cs hk
    exact ⟨ons_mono hther _ q1,q2⟩
end Go.Abs
end
section
namespace Go.Abs
open Go Go.Sort
def D.val:D→Value
 | .int k n=>.int k n
 | .bool b=>.bool b
 | .str s=>.string s
 | .lst _ _=>.slice none 0 0
def D.scalar:D→Bool
 | .lst _ _=>false
 | _=>true
theorem Qbec {imm:Nat→Nat→Prop} {w:World} {x:D} {u:Value} (hs:x.scalar = true):RD imm w x u↔u = x.val:=by
 cases x <;> simp [RD,D.val,D.scalar] at hs ⊢
theorem Qbe3 {x:D} (hs:x.scalar = true):x.val.oneCell' = true:=by cases x <;> simp [D.scalar,D.val] at hs ⊢ <;> rfl
def rowV {α:Type} (e:α→List D) (xs:List α):List Value:=(xs.map e).flatten.map D.val
theorem Q96 (w:World) (n blk:Nat) (F:Array Value) (os:Array Obj) {c:Array Value} {e:TypeId} (h:w.heap[blk]? = some (.cells c e (0,0))):(grow (putRow id (Sort.ahead w n) blk 0 F) os).heap[blk]? = some (.cells (putCells id 0 F c) e (0,0)):=by
 have hlt:blk < w.heap.size:=(Array.getElem?_eq_some_iff.1 h).1
 have hsz:(putRow id (Sort.ahead w n) blk 0 F).heap.size = w.heap.size:=by simp [putRow,mapBlock,Sort.ahead]
 rw [heap_grow_old _ _ (by rw [hsz]; exact hlt)]
 show (w.heap.modify blk (onCells (putCells id 0 F)))[blk]? = _
 rw [Array.getElem?_modify,if_pos rfl,h]
 rfl
theorem Q30 (w:World) (n blk:Nat) (F:Array Value) (os:Array Obj) {b:Nat} (hb:b≠blk) (hlt:b < w.heap.size):(grow (putRow id (Sort.ahead w n) blk 0 F) os).heap[b]? = w.heap[b]?:=by
 have hsz:(putRow id (Sort.ahead w n) blk 0 F).heap.size = w.heap.size:=by simp [putRow,mapBlock,Sort.ahead]
 rw [heap_grow_old _ _ (by rw [hsz]; exact hlt)]
 show (w.heap.modify blk (onCells (putCells id 0 F)))[b]? = _
 rw [Array.getElem?_modify,if_neg (Ne.symm hb)]
def Qbfp {α:Type} (P:Program) (f:FuncId) (e:α→List D) (ex:Array Value) (srt:List α→List α):Prop :=
 ∀ (blk cap:Nat) (xs:List α) (w:World),(∀ j,j < (rowV e xs).length→w.cell? ⟨blk,j,none⟩ = (rowV e xs)[j]? ∧ w.frozen? ⟨blk,j,none⟩ = false)→blk < w.heap.size→xs.length < 4611686018427387904 →
  Calls P f (#[.slice (some ⟨blk,0,none⟩) xs.length cap] ++ ex) w fun e' w'=>e' = .returned (.tuple #[])∧∃ n os,w' = grow (putRow id (Sort.ahead w n) blk 0 (rowV e (srt xs)).toArray) os
theorem Q8f {α:Type} {e:α→List D} {sz:Nat} (hlen:∀ x,(e x).length = sz) (xs:List α):(rowV e xs).length = xs.length * sz:=by
 simp only [rowV,List.length_map]
 induction xs with
 | nil=>simp
 | cons x xs ih=>simp [hlen,ih,Nat.add_mul]; omega
theorem Qbbg {α:Type} {P:Program} {f:FuncId} {e:α→List D} {sz:Nat} (hlen:∀ x,(e x).length = sz) (hsc:∀ x,(e x).all D.scalar = true) {srt:List α→List α} (hsl:∀ xs,(srt xs).length = xs.length)
  {ex:Array Value} {exV:List V} (hex:∀ g w us,RFs g w exV us→us = ex.toList) (hb:Qho P f = true) (hK:Qbfp P f e ex srt)
  (xs:List α) (c k0:Nat) (M:Mem) (nb:Nat) (hM:M k0 = some (.cells (Qcb (xs.map e) ((c - xs.length) * sz)))) (hsz:xs.length < 4611686018427387904) :
  ACalls P f (.sl sz k0 0 xs.length c :: exV) M nb (.tup []) (M.put k0 (.cells (Qcb ((srt xs).map e) ((c - xs.length) * sz)))) nb:=by
 refine ⟨hb,Nat.le_refl _,fun w g us hm hMon hfresh hus hfl hons=>?_⟩
 obtain ⟨u0,us',rfl,hu0,hus'⟩:=hus
 have h0:=Q7v.1 hu0
 subst h0
 have h1:=hex _ _ _ hus'
 obtain ⟨hk0,hown,vals,et,hh,hrv,hone⟩:=hm.box k0 _ hM
 have hlt:g.box k0 < w.heap.size:=(Array.getElem?_eq_some_iff.1 hh).1
 obtain ⟨hvl,hvr⟩:=(Qby _ _ _ _).1 hrv
 have hscf:∀ (l:List α),∀ y∈(l.map e).flatten,y.scalar = true:=by
  intro l y hy
  obtain ⟨r,hr,hy⟩:=List.mem_flatten.1 hy
  obtain ⟨x,_,rfl⟩:=List.mem_map.1 hr
  exact List.all_eq_true.1 (hsc x) y hy
 have hfl' : ∀ l:List α,(l.map e).flatten.length = l.length * sz:=fun l=>by have:=Q8f hlen l; rw [rowV,List.length_map] at this; exact this
 have hcell:∀ j,j < (rowV e xs).length→vals[j]? = (rowV e xs)[j]?:=by
  intro j hj
  rw [Q8f hlen] at hj
  have hjf:j < (xs.map e).flatten.length:=by rw [hfl']; exact hj
  have hjv:j < vals.length:=by
   rw [hvl]; simp only [Qcb,List.length_append,List.length_map]; omega
  have hc:(Qcb (xs.map e) ((c - xs.length) * sz))[j]? = some (.d (xs.map e).flatten[j]):=by
   simp only [Qcb]
   rw [List.getElem?_append_left (by rw [List.length_map]; exact hjf),List.getElem?_map,List.getElem?_eq_getElem hjf]; rfl
  have:=hvr j _ _ hc (List.getElem?_eq_getElem hjv)
  simp only [RV] at this
  rw [Qbec (hscf xs _ (List.getElem_mem hjf))] at this
  rw [List.getElem?_eq_getElem hjv,this]
  simp only [rowV,List.getElem?_map,List.getElem?_eq_getElem hjf,Option.map_some]
 have hcall:=hK (g.box k0) c xs w (fun j hj=>⟨by rw [← hcell j hj]; simp [World.cell?,hh],by simp [World.frozen?,hh]⟩) hlt hsz
 have hus2:(Value.slice (some ⟨g.box k0,0,none⟩) xs.length c :: us').toArray = #[.slice (some ⟨g.box k0,0,none⟩) xs.length c] ++ ex:=by
  rw [h1]; apply Array.ext'; simp
 rw [hus2]
 refine hcall.mono ?_
 rintro e' w' ⟨rfl,n,os,rfl⟩
 generalize hF:(rowV e (srt xs)).toArray = F
 have hFs:F.size = xs.length * sz:=by rw [← hF]; simp [Q8f hlen,hsl]
 have hblk:=Q96 w n (g.box k0) F os hh
 have hoth:∀ b,b≠g.box k0→b < w.heap.size→(grow (putRow id (Sort.ahead w n) (g.box k0) 0 F) os).heap[b]? = w.heap[b]?:=fun b hb hlt=>Q30 w n _ F os hb hlt
 have hsize:w.heap.size≤(grow (putRow id (Sort.ahead w n) (g.box k0) 0 F) os).heap.size:=by
  simp [putRow,mapBlock,Sort.ahead]
 generalize hw' : grow (putRow id (Sort.ahead w n) (g.box k0) 0 F) os = w' at hblk hoth hsize
 have himm:Imm g.imm g.imm w w':=by
  refine ⟨fun _ _ h=>h,fun b o h=>?_⟩
  obtain ⟨k1,k2⟩:=hm.imm b o h
  have hne:b≠g.box k0:=by rintro rfl; exact k2 k0 hown
  simp only [World.cell?,hoth b hne k1]
 have hkept:Kept g w g w' (There M) (fun o=>o ≠ .box k0):=⟨himm,fun _ _=>rfl,fun b hb hl=>⟨rfl,hoth b (by rintro rfl; exact hb hown) hl,fun _=>Iff.rfl⟩⟩
 have hsub:∀ (o:Owner) i,o ≠ .box k0→o.sub i ≠ .box k0:=by intro o i _; cases o <;> simp [Owner.sub]
 have hnew:∀ p:Nat→Prop,V.ons p (Qcb ((srt xs).map e) ((c - xs.length) * sz)):=by
  intro p
  rw [Qet]
  intro v hv
  simp only [Qcb,List.mem_append,List.mem_map,List.mem_replicate] at hv
  rcases hv with ⟨x,_,rfl⟩ | ⟨_,rfl⟩ <;> trivial
 refine ⟨_,g,rfl,⟨fun k b hk=>?_,fun b o h=>⟨Nat.lt_of_lt_of_le (hm.imm b o h).1 hsize,(hm.imm b o h).2⟩⟩,⟨[],rfl,rfl⟩,trivial,fun k cs hk=>?_,?_⟩
 ·by_cases hkk:k = k0
  ·subst hkk
   rw [Qfc] at hk; cases hk
   refine ⟨hk0,hown,(putCells id 0 F vals.toArray).toList,et,by simpa using hblk,(Qby _ _ _ _).2 ⟨?_,fun j cc x hc hx=>?_⟩,fun x hx=>?_⟩
   ·have e1:(Qcb (xs.map e) ((c - xs.length) * sz)).length = xs.length * sz + (c - xs.length) * sz:=by
     simp only [Qcb,List.length_append,List.length_map,List.length_replicate,hfl']
    have e2:(Qcb ((srt xs).map e) ((c - xs.length) * sz)).length = xs.length * sz + (c - xs.length) * sz:=by
     simp only [Qcb,List.length_append,List.length_map,List.length_replicate,hfl',hsl]
    rw [e2,← e1,← hvl]
    simp [putCells]
   ·have hx' : (putCells id 0 F vals.toArray)[j]? = some x:=by simpa using hx
    simp only [putCells,Array.getElem?_mapIdx,List.getElem?_toArray,Option.map_eq_some_iff] at hx'
    obtain ⟨y,hy,rfl⟩:=hx'
    simp only [Qcb] at hc
    by_cases hj:j < ((srt xs).map e).flatten.length
    ·rw [List.getElem?_append_left (by rw [List.length_map]; exact hj),List.getElem?_map,List.getElem?_eq_getElem hj,Option.map_some,Option.some.injEq] at hc
     subst hc
     rw [hfl',hsl] at hj
     have hjF:j < F.size:=by rw [hFs]; exact hj
     rw [if_pos ⟨Nat.zero_le _,by omega⟩]
     have hj2:j < ((srt xs).map e).flatten.length:=by rw [hfl',hsl]; exact hj
     simp only [RV]
     rw [Qbec (hscf (srt xs) _ (List.getElem_mem hj2))]
     simp only [Nat.sub_zero,id]
     rw [getElem!_pos F j hjF]
     subst hF
     simp only [rowV,List.getElem_toArray,List.getElem_map]
    ·rw [List.getElem?_append_right (by rw [List.length_map]; omega)] at hc
     have:cc = .und:=(List.mem_replicate.1 (List.mem_of_getElem? hc)).2
     subst this; simp [RV]
   ·obtain ⟨j,hj⟩:=List.getElem?_of_mem hx
    have hx' : (putCells id 0 F vals.toArray)[j]? = some x:=by simpa using hj
    simp only [putCells,Array.getElem?_mapIdx,List.getElem?_toArray,Option.map_eq_some_iff] at hx'
    obtain ⟨y,hy,rfl⟩:=hx'
    split
    ·rename_i hr
     have hjF:j - 0 < F.size:=by omega
     simp only [id]
     rw [getElem!_pos F _ hjF]
     subst hF
     simp only [rowV,List.getElem_toArray,List.getElem_map]
     exact Qbe3 (hscf (srt xs) _ (List.getElem_mem _))
    ·exact hone y (List.mem_of_getElem? hy)
  ·rw [Qcd _ _ hkk] at hk
   obtain ⟨k1,k2,k3⟩:=hm.box k b hk
   cases b with
   | mp es c =>
    obtain ⟨ents,q1,q2⟩:=k3
    have hne:g.box k≠g.box k0:=by
     intro h; rw [h,hown] at k2; cases k2; exact hkk rfl
    exact ⟨k1,k2,ents,(hoth _ hne (Array.getElem?_eq_some_iff.1 q1).1).trans q1,Qlh (g:=g) (g':=g) hkept.imm q2⟩
   | cells cs =>
    obtain ⟨vals2,e2,q1,q2,q3⟩:=k3
    have hne:g.box k≠g.box k0:=by
     intro h; rw [h,hown] at k2; cases k2; exact hkk rfl
    refine ⟨k1,k2,vals2,e2,(hoth _ hne (Array.getElem?_eq_some_iff.1 q1).1).trans q1,?_,q3⟩
    exact RVs_mono hkept hsub (by simp) cs (.box k) 0 vals2 (by simpa using hkk) (hMon k cs hk) q2
 ·by_cases hkk:k = k0
  ·subst hkk
   rw [Qfc] at hk; cases hk
   exact hnew _
  ·rw [Qcd _ _ hkk] at hk
   exact ons_mono (fun j hj=>There.put hj) _ (hMon k cs hk)
 ·refine ⟨by rw [← hw']; rfl,by rw [← hw']; rfl,by rw [← hw']; rfl,hsize,himm,fun _ _=>rfl,fun b hb ho=>⟨rfl,hoth b ?_ hb,fun _=>Iff.rfl⟩⟩
  rintro rfl
  rw [hown] at ho
  exact ho
end Go.Abs
end
section
namespace Go.Abs
open Go
variable {Γ:Env} {σ:St} {α:Type}
section
variable {g:G} {w:World} (hx:∀ b,g.own b = .ext)
include hx
mutual
theorem Qbed:∀ (v:V) (ℓ:Owner) (u:Value),RV g w v ℓ u→RV g w v.toF ℓ u
 | .d (.lst sz l),_,u,h=>by
  simp only [V.toF,RV] at h ⊢
  exact Qbfi (fun b o h1 h2=>⟨h1,hx b,h2⟩) _ u h
 | .d (.int ..),_,_,h=>by simpa [V.toF] using h
 | .d (.bool _),_,_,h=>by simpa [V.toF] using h
 | .d (.str _),_,_,h=>by simpa [V.toF] using h
 | .agg cs,ℓ,u,h=>by
  simp only [V.toF,RV] at h ⊢
  obtain ⟨vs,rfl,h,h1⟩:=h
  exact ⟨vs,rfl,RVs_toF cs ℓ 0 vs h,h1⟩
 | .und,_,_,h=>h
 | .tup _,_,_,h=>h
 | .own ..,_,_,h=>h
 | .ownT ..,_,_,h=>h
 | .ptr ..,_,_,h=>h
 | .nilp,_,_,h=>h
 | .f _,_,_,h=>h
 | .nils _,_,_,h=>h
 | .cref _,_,_,h=>h
 | .sl ..,_,_,h=>h
 | .clo ..,_,_,h=>h
 | .mp _,_,_,h=>h
theorem RVs_toF:∀ (cs:List V) (ℓ:Owner) (i:Nat) (us:List Value),RVs g w cs ℓ i us→RVs g w (V.toFs cs) ℓ i us
 | [],_,_,_,h=>h
 | c :: cs,ℓ,i,us,h=>by
  simp only [RVs,V.toFs] at h ⊢
  obtain ⟨u,us',rfl,h1,h2⟩:=h
  exact ⟨u,us',rfl,Qbed c _ u h1,RVs_toF cs ℓ (i + 1) us' h2⟩
end
theorem Qbcy:∀ {cs:List V} {us:List Value},RFs g w cs us→RFs g w (V.toFs cs) us
 | [],_,h=>h
 | c :: cs,_,⟨u,us',e,r,h⟩=>⟨u,us',e,fun ℓ=>Qbed hx c ℓ u (r ℓ),Qbcy h⟩
end
theorem Qbee {P:Program} {f:FuncId} {cf:CFn} (hcf:Qj P f = some cf) {args args' : List V} {r:V} (hargs:Nat.beq args'.length cf.np = true) (hr0:r.lt 0 = true) (hr1:Q19 r = true) (ha:V.toFs args = args') (hfl:V.dems args' = args') (hlt:V.lt.go 0 args' = true)
  (hrun:∀ (Γ:Env) (M:Mem),Γ.P = P→Γ.nt = cf.nt→Lone Γ→M = (fun _=>none)→(∀ k,Γ.n0≤k→M k = none)→Tr Γ cf.body ⟨Qlb args',Qk Γ.n0 [] M,Γ.n0 + cf.nt⟩ (FinP cf.res r Γ.n0 M)):∀ M nb,ACalls P f args M nb r M nb:=by
 intro M nb
 have hflat:∀ x∈args',Flat x:=by
  rw [← hfl]; exact Qen
 refine Qbfj hcf hr0 hr1 (fun g0 w0 us hp hi hus=>⟨args',by rw [← ha]; exact Qbcy hp hus,hflat,hlt,Nat.eq_of_beq_eq_true hargs,fun Γ k1 k2 k3 k4 k5=>?_⟩) M
 have h:=hrun Γ _ k1 k3 ⟨fun b=>by rw [k4,hp b]; trivial,fun b o hb=>by rw [k5]; rw [k4] at hb; exact hi b o hb⟩ rfl (fun _ _=>rfl)
 rw [Q6c (fun _ _=>rfl),k2] at h
 refine h.mono ?_
 rintro e σ' ⟨he,r',q1,q2,q3,q4⟩
 exact ⟨he,r',q1,q2,fun k b hk=>(by cases hk),fun _ _ _=>⟨q3,fun k cs hk=>(by cases hk),fun k hk=>(by cases hk)⟩⟩
theorem fToD {x:D}:WkV (.f x) (.d x):=⟨fun g w ℓ u h=>by
  simp only [RV] at h ⊢
  exact Qdi ⟨fun b o h=>h.1,fun _ _ _=>rfl⟩ x u h,fun _ _=>trivial⟩
open Classical in
theorem ACalls.frz {P:Program} {f:FuncId} {args:List V} {M M' : Mem} {nb nb' sz:Nat} {l:List (List D)} (h:ACalls P f args M nb (.own sz l) M' nb') (hpl:Qjo l = true):ACalls P f args M nb (.f (.lst sz l)) M' nb':=by
 obtain ⟨h1,h2,h3⟩:=h
 refine ⟨h1,h2,fun w g us k1 k2 k3 k4 k5 k6=>(h3 w g us k1 k2 k3 k4 k5 k6).mono ?_⟩
 rintro e w' ⟨v,g',rfl,hm,hv,_,hon,hf⟩
 let g2:G:=⟨g'.box,g'.imm,fun b=>if g'.own b = .res [] then .ext else g'.own b⟩
 have hown:∀ b,g'.own b ≠ .res []→g2.own b = g'.own b:=fun b hb=>by simp [g2,hb]
 have hkept:Kept g' w' g2 w' (fun _=>True) (fun o=>o ≠ .res []):=⟨⟨fun _ _ h=>h,fun _ _ _=>rfl⟩,fun _ _=>rfl,fun b hb _=>⟨hown b hb,rfl,fun _=>Iff.rfl⟩⟩
 have hsub:∀ (o:Owner) i,o ≠ .res []→o.sub i ≠ .res []:=by intro o i _; cases o <;> simp [Owner.sub]
 refine ⟨v,g2,rfl,⟨fun k b hk=>?_,fun b o hb=>?_⟩,?_,trivial,hon,?_⟩
 ·obtain ⟨q1,q2,q3⟩:=hm.box k b hk
  refine ⟨q1,(hown _ (by rw [q2]; simp)).trans q2,?_⟩
  cases b with
  | mp es c =>
   obtain ⟨ents,p1,p2⟩:=q3
   exact ⟨ents,p1,Qlh (g:=g') (g':=g2) hkept.imm p2⟩
  | cells cs =>
   obtain ⟨vals,e,p1,p2,p3⟩:=q3
   exact ⟨vals,e,p1,RVs_mono hkept hsub (by simp) cs (.box k) 0 vals (by simp) (by rw [Qet]; intro v _; exact Q94 v) p2,p3⟩
 ·obtain ⟨q1,q2⟩:=hm.imm b o hb
  refine ⟨q1,fun k=>?_⟩
  simp only [g2]
  split
  ·simp
  ·exact q2 k
 ·have hrd:=Qgj hv
  simp only [RV] at hv ⊢
  rcases hv with ⟨⟨a,rfl⟩,rfl⟩ | ⟨b,cap,vals,e,rfl,hb,hh,h4,h5,h6,h7,h8⟩
  ·simp only [RD]; exact ⟨a,0,rfl,Nat.le_refl _,.inl trivial⟩
  ·simp only [RD]
   refine ⟨_,cap,rfl,h4,.inr ⟨b,0,rfl,?_⟩⟩
   have h9:=RDL_strong sz b l 0 h8
   exact Q2b (fun o ho=>⟨ho.1,by simp [g2,hb],ho.2⟩) hpl h9
 ·refine ⟨hf.os,hf.tape,hf.output,hf.size,hf.imm,hf.box,fun b hb ho=>?_⟩
  obtain ⟨q1,q2,q3⟩:=hf.old b hb ho
  exact ⟨(hown b (by rw [q1]; intro e; rw [e] at ho; exact ho)).trans q1,q2,q3⟩
theorem Qbdv {e:α→List D} (h:∀ x,(e x).all Qz6 = true) {sz:Nat} {xs:List α}:Qed (.own sz (List.map e xs)) = true:=by
 simp only [Qed,Qjo,List.all_map]
 exact List.all_eq_true.2 fun x _=>h x
theorem Qba0 {e:α→List D} (h:∀ x,(e x).all Qz6 = true) {xs:List α}:Qjo (List.map e xs) = true:=by
 simp only [Qjo,List.all_map]
 exact List.all_eq_true.2 fun x _=>h x
def PL:List (Nat×V)→Prop
 | []=>True
 | (_,v) :: E=>Qed v = true∧PL E
theorem PL.at:∀ {E:List (Nat×V)},PL E→∀ t,Qed (look E t) = true
 | [],_,t=>rfl
 | (u,v) :: E,h,t=>by
  simp only [look]
  cases hb:Nat.beq t u with
  | true=>exact h.1
  | false=>exact PL.at h.2 t
def PV:List V→Prop
 | []=>True
 | v :: vs=>Qed v = true∧PV vs
theorem PV.go:∀ {vs:List V},PV vs→Qed.go vs = true
 | [],_=>rfl
 | v :: vs,h=>by simp only [Qed.go,Bool.and_eq_true]; exact ⟨h.1,PV.go h.2⟩
def PB (t0 i:Nat):List (Nat×Bx)→Prop
 | []=>True
 | (t,.cells cs) :: L=>PV (bif Nat.beq t t0 then cs.set i .und else cs)∧PB t0 i L
 | (_,.mp ..) :: _=>False
theorem PB.at {t0 i:Nat}:∀ {L:List (Nat×Bx)},PB t0 i L→∀ t cs,Qb4 L t = some (.cells cs)→Qed.go (if t = t0 then cs.set i .und else cs) = true
 | [],_,t,cs,h=>by cases h
 | (u,.cells ds) :: L,hp,t,cs,h=>by
  simp only [Qb4] at h
  cases hb:Nat.beq t u with
  | true =>
   have:=Nat.eq_of_beq_eq_true hb; subst this
   rw [hb] at h; cases h
   have:=hp.1.go
   by_cases ht:t = t0
   ·subst ht; rw [show Nat.beq t t = true from by simp] at this; rw [if_pos rfl]; exact this
   ·have hf:Nat.beq t t0 = false:=by
     cases hq:Nat.beq t t0 with
     | false=>rfl
     | true=>exact absurd (Nat.eq_of_beq_eq_true hq) ht
    rw [hf] at this; rw [if_neg ht]; exact this
  | false=>rw [hb] at h; exact PB.at hp.2 t cs h
 | (u,.mp ..) :: L,hp,t,cs,h=>hp.elim
theorem PB.nomp {t0 i:Nat}:∀ {L:List (Nat×Bx)},PB t0 i L→∀ t es c,Qb4 L t≠some (.mp es c)
 | [],_,t,es,c,h=>by cases h
 | (u,.cells ds) :: L,hp,t,es,c,h=>by
  simp only [Qb4] at h
  cases hb:Nat.beq t u with
  | true=>rw [hb] at h; cases h
  | false=>rw [hb] at h; exact PB.nomp hp.2 t es c h
 | (u,.mp ..) :: L,hp,t,es,c,h=>hp.elim
theorem PB.nomem {t0 i n0:Nat} {L:List (Nat×Bx)} (h:PB t0 i L):∀ k es c,Qk n0 L (fun _=>none) k≠some (.mp es c):=by
 intro k es c hk
 rcases Nat.lt_or_ge k n0 with hlt | hge
 ·rw [Qc hlt] at hk; cases hk
 ·obtain ⟨u,rfl⟩ : ∃ u,k = n0 + u:=⟨k - n0,by omega⟩
  rw [Qbz] at hk
  exact h.nomp u es c hk
theorem Qbf2 {cc:CC} {Q:Ex→St→Prop} (hG:Lone Γ) {M0:Mem} (hMe:M0 = fun _=>none) (t0 i κ:Nat) {sz m:Nat} {e:α→List D} {xs:List α} {E:List (Nat×V)} {L:List (Nat×Bx)} {cs0:List V} (hxs:¬ xs = []) (hpl:∀ x,(e x).all Qz6 = true) (hM0:Qb4 L t0 = some (.cells cs0))
  (hi:cs0[i]? = some (.own sz (List.map e xs))) (hκ2:Nat.blt κ m = true) (hκM:Qb4 L κ = none) (hE:PL E) (hL:PB t0 i L)
  (h:∀ c,xs.length≤c→xs.length≤maxLen→Tr Γ cc ⟨look E,Qk Γ.n0 ((κ,.cells (Qcb (List.map e xs) ((c - xs.length) * sz))) :: (t0,.cells (cs0.set i (.sl sz (Γ.n0 + κ) 0 xs.length c))) :: L) M0,Γ.n0 + m⟩ Q):Tr Γ cc ⟨look E,Qk Γ.n0 L M0,Γ.n0 + m⟩ Q:=by
 subst hMe
 have hlt:κ < m:=Nat.le_of_ble_eq_true hκ2
 refine Tr.thawC (σ:=⟨look E,Qk Γ.n0 L (fun _=>none),Γ.n0 + m⟩) hG (k0:=Γ.n0 + t0) (i:=i) (κ:=Γ.n0 + κ) (l:=List.map e xs) (by simpa using hxs) (Qba0 hpl) (by omega) ((Qbz (n0:=Γ.n0) (L:=L) (M0:=fun _=>none)).trans hM0) hi (by omega) (by show _ < Γ.n0 + m; omega) ((Qbz (n0:=Γ.n0) (L:=L) (M0:=fun _=>none)).trans hκM) (fun t=>hE.at t) ?_ hL.nomem ?_
 ·intro k cs hk
  have hk:Qk Γ.n0 L (fun _=>none) k = some (.cells cs):=hk
  rcases Nat.lt_or_ge k Γ.n0 with hlt | hge
  ·rw [Qc hlt] at hk; cases hk
  ·obtain ⟨t,rfl⟩ : ∃ t,k = Γ.n0 + t:=⟨k - Γ.n0,by omega⟩
   rw [Qbz] at hk
   have:=hL.at t cs hk
   by_cases ht:t = t0
   ·subst ht; simpa using this
   ·have h2:¬ Γ.n0 + t = Γ.n0 + t0:=by omega
    simpa [ht,h2] using this
 ·intro c hc hm
  have:=h c (by simpa using hc) (by simp at hc; omega)
  rw [← Qc6,← Qc6] at this
  simpa using this
theorem Qbfq {cc:CC} {Q:Ex→St→Prop} (hG:Lone Γ) {M0:Mem} (hMe:M0 = fun _=>none) (t κ:Nat) {sz m:Nat} {e:α→List D} {xs:List α} {E:List (Nat×V)} {L:List (Nat×Bx)} (hxs:¬ xs = []) (hpl:∀ x,(e x).all Qz6 = true) (hs0:look E t = .own sz (List.map e xs))
  (hκ2:Nat.blt κ m = true) (hκM:Qb4 L κ = none) (hE:PL ((t,.und) :: E)) (hL:PB κ 0 L)
  (h:∀ c,xs.length≤c→xs.length≤maxLen→Tr Γ cc ⟨look ((t,.sl sz (Γ.n0 + κ) 0 xs.length c) :: E),Qk Γ.n0 ((κ,.cells (Qcb (List.map e xs) ((c - xs.length) * sz))) :: L) M0,Γ.n0 + m⟩ Q):Tr Γ cc ⟨look E,Qk Γ.n0 L M0,Γ.n0 + m⟩ Q:=by
 subst hMe
 have hlt:κ < m:=Nat.le_of_ble_eq_true hκ2
 refine Tr.thawS (σ:=⟨look E,Qk Γ.n0 L (fun _=>none),Γ.n0 + m⟩) hG (t:=t) (κ:=Γ.n0 + κ) (l:=List.map e xs) (by simpa using hxs) (Qba0 hpl) hs0 (by omega) (by show _ < Γ.n0 + m; omega) ((Qbz (n0:=Γ.n0) (L:=L) (M0:=fun _=>none)).trans hκM) (fun t' ht=>?_) ?_ hL.nomem ?_
 ·have:=hE.at t'
  simp only [look] at this
  have hf:Nat.beq t' t = false:=by
   cases hq:Nat.beq t' t with
   | false=>rfl
   | true=>exact absurd (Nat.eq_of_beq_eq_true hq) ht
  rw [hf] at this; exact this
 ·intro k cs hk
  have hk:Qk Γ.n0 L (fun _=>none) k = some (.cells cs):=hk
  rcases Nat.lt_or_ge k Γ.n0 with hlt | hge
  ·rw [Qc hlt] at hk; cases hk
  ·obtain ⟨u,rfl⟩ : ∃ u,k = Γ.n0 + u:=⟨k - Γ.n0,by omega⟩
   rw [Qbz] at hk
   have hne:u≠κ:=by rintro rfl; rw [hκM] at hk; cases hk
   have:=hL.at u cs hk
   rwa [if_neg hne] at this
 ·intro c hc hm
  have:=h c (by simpa using hc) (by simp at hc; omega)
  rw [← Qc6,← Qce] at this
  simpa using this
def RowK (P:Program) (c:Nat) (e:α→List D) (sz:Nat) (ex:List V) (f:List α→Option (List α)):Prop :=
 ∀ xs ys,f xs = some ys→ys.length = xs.length∧(xs = []→ys = xs∧∀ M nb,ACalls P c (.d (.lst sz (List.map e xs)) :: ex) M nb (.tup []) M nb) ∧
  (xs.length≤maxLen→∀ cap k0 M nb,M k0 = some (.cells (Qcb (List.map e xs) ((cap - xs.length) * sz)))→ACalls P c (.sl sz k0 0 xs.length cap :: ex) M nb (.tup []) (M.put k0 (.cells (Qcb (List.map e ys) ((cap - xs.length) * sz)))) nb)
section
variable {pc d nb:Nat} {os:List COp} {E:List (Nat×V)} {M0:Mem} {L:List (Nat×Bx)} {Q:St→Prop} {gd:Option (Nat×Bool)}
theorem Rn.callRow {f:FuncId} {as:List Arg} {args:List V} {r:V} {t:Nat} {cs cs' : List V} (hw:Wn E gd) (ha:V.dems (as.map (·.val (look E))) = args) (ht:Qb4 L t = some (.cells cs)) (hC:∀ M,M (Γ.n0 + t) = some (.cells cs)→ACalls Γ.P f args M nb r (M.put (Γ.n0 + t) (.cells cs')) nb)
  (hpc:pcOf pc = 0) (h:Rn Γ pc os ⟨look ((d,r) :: E),Qk Γ.n0 ((t,.cells cs') :: L) M0,nb⟩ Q):Rn Γ pc (⟨some d,.call f,as,false,gd⟩ :: os) ⟨look E,Qk Γ.n0 L M0,nb⟩ Q:=by
 refine Rn.cons ?_
 unfold COp.run
 rw [hw.wanted]
 simp only [show (K.call f).isCall = true from rfl,if_true,COp.callee,ha]
 rw [hpc]
 refine ⟨r,(Qk Γ.n0 L M0).put (Γ.n0 + t) (.cells cs'),nb,hC _ (by rw [Qbz]; exact ht),fun k hk=>?_,fun k cs2 hk hM=>.inl ?_,?_⟩
 ·simp only [Mem.put]; split
  ·rfl
  ·exact hk
 ·rw [Qcd _ _ (by omega)]
 ·rw [show Qv (look E) (some d) r = look ((d,r) :: E) from Qce E d r,Qc6]
  exact h
end
theorem fSlT {n0 t n c sz:Nat} {e:α→List D} {ys:List α} (h:∀ x,(e x).length = sz) (hn:ys.length = n) (hc:n≤c):WkV (frzV (n0 + t) ((ys.map e).flatten) (.sl sz (n0 + t) 0 n c)) (.d (.lst sz (ys.map e))):=by
 subst hn
 have h1:=Q6g h ys
 have h2:((ys.map e).flatten.drop 0).take (ys.length * sz) = (ys.map e).flatten:=by rw [List.drop_zero,List.take_of_length_le (by omega)]
 simp only [frzV,if_true]
 rw [if_pos ⟨by omega,hc⟩,h2,Q6f h ys]
 exact Qbd9
theorem Q7o:∀ ds:List D,toDs (ds.map V.d) = some ds
 | []=>rfl
 | d :: ds=>by simp only [List.map_cons,toDs,V.toD,Q7o ds]
theorem Qbf0 {e:α→List D} {ys:List α} {room:Nat}:PreD (Qcb (List.map e ys) room) ((List.map e ys).flatten):=PreD.app (Q7o _)
theorem Tr.seqW {x y:CC} {Q:Ex→St→Prop} (σ2:St) (hx:Tr Γ x σ fun e σ'=>e = .norm∧WeakSt Γ σ' σ2) (hy:Tr Γ y σ2 Q):Tr Γ (.seq x y) σ Q:=by
 refine Tr.seq (hx.mono ?_)
 rintro e σ' ⟨rfl,hw⟩
 exact hy.weak hw
end Go.Abs
end
section
namespace Go.Abs
open Go
variable {κ β:Type} [BEq κ]
def mapE (ek:κ→V) (ev:β→V):Nat→List (κ×β)→List (V×V×Nat)
 | _,[]=>[]
 | i,(k,v) :: m=>(ek k,ev v,i) :: mapE ek ev (i + 1) m
def idxS (m:List (κ×β)) (k:κ):Nat:=match m with
 | []=>0
 | (k',_) :: m=>if k == k' then 0 else idxS m k + 1
def hasM (m:List (κ×β)) (k:κ):Bool:=m.any fun p=>k == p.1
def getM (m:List (κ×β)) (k:κ) (z:β):β:=match m with
 | []=>z
 | (k',v) :: m=>if k == k' then v else getM m k z
def setM (m:List (κ×β)) (k:κ) (v:β):List (κ×β):=match m with
 | []=>[(k,v)]
 | (k',v') :: m=>if k == k' then (k,v) :: m else (k',v') :: setM m k v
def putM (m:List (κ×β)) (i:Nat) (v:β):List (κ×β):=m.modify i fun p=>(p.1,v)
theorem Qbcz {k k' : κ} {v:β} {m:List (κ×β)}:hasM ((k',v) :: m) k = ((k == k') || hasM m k):=rfl
theorem Q6h {ek:κ→V} {ev:β→V}:∀ (i:Nat) (m:List (κ×β)),(mapE ek ev i m).length = m.length
 | _,[]=>rfl
 | i,_ :: m=>by simp [mapE,Q6h (i + 1) m]
theorem Q8g {ek:κ→V} {ev:β→V}:∀ (i j:Nat) (m:List (κ×β)),(mapE ek ev i m)[j]? = (m[j]?).map fun p=>(ek p.1,ev p.2,i + j)
 | _,j,[]=>by simp [mapE]
 | i,0,_ :: m=>by simp [mapE]
 | i,j + 1,_ :: m=>by
  simp only [mapE,List.getElem?_cons_succ,Q8g (i + 1) j m]
  rw [show i + 1 + j = i + (j + 1) from by omega]
theorem Q0f {ek:κ→V} {ev:β→V}:∀ (i:Nat) (m n:List (κ×β)),mapE ek ev i (m ++ n) = mapE ek ev i m ++ mapE ek ev (i + m.length) n
 | _,[],n=>by simp [mapE]
 | i,(k,v) :: m,n=>by simp [mapE,Q0f (i + 1) m n]; congr 1; omega
theorem Q2c {ek:κ→V} {ev:β→V} {kd:MK} (hk:∀ a,kd.ok (ek a) = true):∀ (i:Nat) (m:List (κ×β)),kd.all (mapE ek ev i m) = true
 | _,[]=>rfl
 | i,(k,v) :: m=>by
  have:=Q2c (ev:=ev) hk (i + 1) m
  simp only [MK.all] at *
  simp [mapE,hk,this]
section
variable {ek:κ→V} {ev:β→V} (hs:∀ a b,Qfg (ek a) (ek b) = (a == b))
include hs
theorem Qum {k:κ}:∀ (i:Nat) (m:List (κ×β)) (z:β),Qkf (ek k) (mapE ek ev i m) = if hasM m k then some (idxS m k,ev (getM m k z)) else none
 | _,[],z=>rfl
 | i,(k',v) :: m,z=>by
  simp only [mapE,Qkf,hs,Qum (i + 1) m z,Qbcz,idxS,getM]
  by_cases hb:(k == k') = true
  ·simp [hb]
  ·simp only [hb,Bool.false_eq_true,if_false,Bool.false_or]
   by_cases hq:hasM m k = true
   ·rw [if_pos hq,if_pos hq]; rfl
   ·rw [if_neg hq,if_neg hq]; rfl
omit hs in
theorem Qbc0 {k:κ}:∀ {m:List (κ×β)},hasM m k = true→idxS m k < m.length
 | [],h=>by cases h
 | (k',v) :: m,h=>by
  simp only [idxS,hasM,List.any_cons] at *
  cases hb:(k == k') with
  | true=>simp
  | false =>
   rw [hb] at h
   have:=Qbc0 (m:=m) (by simpa [hasM] using h)
   simp; exact this
omit hs in
theorem Q9j {k:κ}:∀ {m:List (κ×β)},hasM m k = false→idxS m k = m.length
 | [],h=>rfl
 | (k',v) :: m,h=>by
  simp only [hasM,List.any_cons,Bool.or_eq_false_iff] at h
  simp only [idxS,h.1,Bool.false_eq_true,if_false,List.length_cons]
  rw [Q9j (m:=m) h.2]
omit hs in
theorem Q6i {k:κ} {v:β}:∀ {m:List (κ×β)},hasM m k = false→setM m k v = m ++ [(k,v)]
 | [],h=>rfl
 | (k',v') :: m,h=>by
  simp only [hasM,List.any_cons,Bool.or_eq_false_iff] at h
  simp only [setM,h.1,Bool.false_eq_true,if_false,List.cons_append]
  rw [Q6i (m:=m) h.2]
omit hs in
theorem Q8h {k:κ} {v:β}:∀ (i:Nat) {m:List (κ×β)},hasM m k = true→modM (ek k) (ev v) (idxS m k) (mapE ek ev i m) = mapE ek ev i (setM m k v)
 | _,[],h=>by cases h
 | i,(k',v') :: m,h=>by
  simp only [idxS,setM,mapE,hasM,List.any_cons] at *
  cases hb:(k == k') with
  | true=>simp [modM,mapE]
  | false =>
   rw [hb] at h
   simp only [Bool.false_eq_true,if_false,modM,mapE]
   rw [Q8h (i + 1) (by simpa [hasM] using h)]
omit hs in
theorem Q0g {k:κ} {v:β}:∀ {m:List (κ×β)},hasM m k = true→(setM m k v).length = m.length
 | [],h=>by cases h
 | (k',v') :: m,h=>by
  simp only [setM,hasM,List.any_cons] at *
  cases hb:(k == k') with
  | true=>simp
  | false =>
   rw [hb] at h
   simp [Q0g (m:=m) (by simpa [hasM] using h)]
omit hs in
theorem Qbc1 {v:β}:∀ (i j:Nat) {m:List (κ×β)} {p:κ×β},m[j]? = some p→modM (ek p.1) (ev v) j (mapE ek ev i m) = mapE ek ev i (putM m j v)
 | i,0,q :: m,p,h=>by simp at h; subst h; simp [putM,mapE,modM]
 | i,j + 1,q :: m,p,h=>by
  simp at h
  have:=Qbc1 (v:=v) (i + 1) j h
  simp only [putM,mapE,modM,List.modify_succ_cons] at *
  rw [this]
 | i,j,[],p,h=>by simp at h
omit hs in
theorem Q9k:∀ (i j:Nat) (m:List (κ×β)),j < m.length→Q6v ((i + j:Nat):Int) (mapE ek ev i m) = some j
 | i,j,[],h=>by simp at h
 | i,0,_ :: m,h=>by simp [mapE,Q6v]
 | i,j + 1,_ :: m,h=>by
  have:=Q9k (i + 1) j m (by simpa using h)
  simp only [mapE,Q6v]
  have hne:((i:Int) == ((i + (j + 1):Nat):Int)) = false:=by simp; omega
  rw [hne,show i + (j + 1) = i + 1 + j from by omega,this]; rfl
end
variable {Γ:Env} {pc d nb:Nat} {os:List COp} {E:List (Nat×V)} {M M' M0:Mem} {L:List (Nat×Bx)} {Q:St→Prop} {gd:Option (Nat×Bool)} {a b c:Arg} {ek:κ→V} {ev:β→V} {m:List (κ×β)}
theorem Rn.k0 {k:K} {as:List Arg} {v:V} (hw:Wn E gd) (hc:k.isCall = false) (hn:k.isNil = false) (hk:Qg Γ.n0 (Γ.n0 + 0) k (V.dems (as.map (·.val (look E)))) M = some (v,M'))
  (h:Rn Γ pc os ⟨look E,M',nb⟩ Q):Rn Γ pc (⟨none,k,as,false,gd⟩ :: os) ⟨look E,M,nb⟩ Q:=by
 refine Rn.cons ?_
 unfold COp.run
 rw [hw.wanted]
 simp only [hc,hn,Bool.false_eq_true,if_false,COp.step,COp.xs,Option.getD_none,hk,Qv]
 exact h
theorem Rn.mkmap (hw:Wn E gd) (hf:(Qb4 L d).isNone = true) (ek:κ→V) (ev:β→V) (h:Rn Γ pc os ⟨look ((d,.mp (Γ.n0 + d)) :: E),Qk Γ.n0 ((d,.mp (mapE ek ev 0 []) 0) :: L) M0,nb⟩ Q) :
  Rn Γ pc (⟨some d,.mkmap,[],false,gd⟩ :: os) ⟨look E,Qk Γ.n0 L M0,nb⟩ Q:=by
 refine Rn.k hw rfl rfl ?_ h
 simp only [List.map_nil,V.dems,Qg]
 rw [if_pos (by simp [Qkm (Γ:=Γ) (M0:=M0) hf]),Qc6]; rfl
theorem Rn.lenm {t:Nat} (hw:Wn E gd) (ha:a.val (look E) = .mp (Γ.n0 + t)) (hM:Qb4 L t = some (.mp (mapE ek ev 0 m) m.length)) (h:Rn Γ pc os ⟨look ((d,.d (.int .i64 m.length)) :: E),Qk Γ.n0 L M0,nb⟩ Q) :
  Rn Γ pc (⟨some d,.lenm,[a],false,gd⟩ :: os) ⟨look E,Qk Γ.n0 L M0,nb⟩ Q:=by
 refine Rn.k hw rfl rfl ?_ h
 simp only [List.map_cons,List.map_nil,V.dems,ha,V.dem,Qg,Ql hM,Q6h]
section
variable (hs:∀ a b,Qfg (ek a) (ek b) = (a == b)) {kd:MK} (hk:∀ a,kd.ok (ek a) = true) (hv:∀ b,(ev b).dat = true)
include hs hk hv
theorem Rn.lookup {t:Nat} {z:V} {k:κ} (zb:β) (hz:ev zb = z) (hw:Wn E gd) (ha:a.val (look E) = .mp (Γ.n0 + t)) (hb:(b.val (look E)).dem = ek k) (hM:Qb4 L t = some (.mp (mapE ek ev 0 m) m.length))
  (h:Rn Γ pc os ⟨look ((d,ev (getM m k zb)) :: E),Qk Γ.n0 L M0,nb⟩ Q):Rn Γ pc (⟨some d,.lookup kd false z,[a,b],false,gd⟩ :: os) ⟨look E,Qk Γ.n0 L M0,nb⟩ Q:=by
 subst hz
 refine Rn.k hw rfl rfl ?_ h
 simp only [List.map_cons,List.map_nil,V.dems,ha,hb,V.dem,Qg,Ql hM,hk,Q2c hk,Bool.and_self,if_true,Qum hs 0 m zb]
 cases hh:hasM m k with
 | true=>simp [hv]
 | false =>
  have:getM m k zb = zb:=by
   clear hM h
   induction m with
   | nil=>rfl
   | cons p m ih =>
    simp only [hasM,List.any_cons,Bool.or_eq_false_iff] at hh
    simp only [getM,hh.1,Bool.false_eq_true,if_false]
    exact ih hh.2
  simp [hv,this]
theorem Rn.lookupC {t:Nat} {z:V} {k:κ} (zb:β) (hz:ev zb = z) (hw:Wn E gd) (ha:a.val (look E) = .mp (Γ.n0 + t)) (hb:(b.val (look E)).dem = ek k) (hM:Qb4 L t = some (.mp (mapE ek ev 0 m) m.length))
  (h:Rn Γ pc os ⟨look ((d,.tup [ev (getM m k zb),.d (.bool (hasM m k))]) :: E),Qk Γ.n0 L M0,nb⟩ Q):Rn Γ pc (⟨some d,.lookup kd true z,[a,b],false,gd⟩ :: os) ⟨look E,Qk Γ.n0 L M0,nb⟩ Q:=by
 subst hz
 refine Rn.k hw rfl rfl ?_ h
 simp only [List.map_cons,List.map_nil,V.dems,ha,hb,V.dem,Qg,Ql hM,hk,Q2c hk,Bool.and_self,if_true,Qum hs 0 m zb]
 cases hh:hasM m k with
 | true=>simp [hv]
 | false =>
  have:getM m k zb = zb:=by
   clear hM h
   induction m with
   | nil=>rfl
   | cons p m ih =>
    simp only [hasM,List.any_cons,Bool.or_eq_false_iff] at hh
    simp only [getM,hh.1,Bool.false_eq_true,if_false]
    exact ih hh.2
  simp [hv,this]
theorem Rn.mapset {t:Nat} {k:κ} {v:β} (hw:Wn E gd) (ha:a.val (look E) = .mp (Γ.n0 + t)) (hb:(b.val (look E)).dem = ek k) (hc:Qxd (c.val (look E)).dem = ev v) (hcd:(c.val (look E)).dem.dat = true) (hM:Qb4 L t = some (.mp (mapE ek ev 0 m) m.length))
  (h:Rn Γ pc os ⟨look E,Qk Γ.n0 ((t,.mp (mapE ek ev 0 (setM m k v)) (setM m k v).length) :: L) M0,nb⟩ Q):Rn Γ pc (⟨none,.mapset kd,[a,b,c],false,gd⟩ :: os) ⟨look E,Qk Γ.n0 L M0,nb⟩ Q:=by
 refine Rn.k0 (v:=.und) hw rfl rfl ?_ h
 simp only [List.map_cons,List.map_nil,V.dems,ha,hb,hc,V.dem,Qg,Ql hM,hk,hcd,Q2c hk,Bool.and_self,if_true]
 rw [Qum hs 0 m v,← Qc6]
 cases hh:hasM m k with
 | true=>simp only [if_true]; rw [Q8h 0 hh,Q0g hh]
 | false =>
  simp only [Bool.false_eq_true,if_false]
  rw [Q6i hh,Q0f]
  simp [mapE]
theorem Rn.mapentry {t:Nat} {z:V} {k:κ} (zb:β) (hz:ev zb = z) (hw:Wn E gd) (ha:a.val (look E) = .mp (Γ.n0 + t)) (hb:(b.val (look E)).dem = ek k) (hM:Qb4 L t = some (.mp (mapE ek ev 0 m) m.length))
  (h:Rn Γ pc os ⟨look ((d,.tup [ev (getM m k zb),.d (.int .i64 (idxS m k))]) :: E),Qk Γ.n0 ((t,.mp (mapE ek ev 0 (setM m k (getM m k zb))) (setM m k (getM m k zb)).length) :: L) M0,nb⟩ Q):Rn Γ pc (⟨some d,.mapentry kd z,[a,b],false,gd⟩ :: os) ⟨look E,Qk Γ.n0 L M0,nb⟩ Q:=by
 subst hz
 refine Rn.k hw rfl rfl ?_ h
 simp only [List.map_cons,List.map_nil,V.dems,ha,hb,V.dem,Qg,Ql hM,hk,hv,Q2c hk,Bool.and_self,if_true,Qum hs 0 m zb]
 rw [← Qc6]
 cases hh:hasM m k with
 | true =>
  have hlt:=Qbc0 hh
  simp only [if_true,hv,Q8g,List.getElem?_eq_getElem hlt,Option.map_some,Nat.zero_add]
  rw [Q8h 0 hh,Q0g hh]
 | false =>
  have:getM m k zb = zb:=by
   clear hM h
   induction m with
   | nil=>rfl
   | cons p m ih =>
    simp only [hasM,List.any_cons,Bool.or_eq_false_iff] at hh
    simp only [getM,hh.1,Bool.false_eq_true,if_false]
    exact ih hh.2
  simp only [Bool.false_eq_true,if_false]
  rw [this,Q6i hh,Q0f,Q9j hh]
  simp [mapE]
omit hs hk in
theorem Rn.entrystore {t i:Nat} {v:β} (hi:i < m.length) (hw:Wn E gd) (ha:a.val (look E) = .mp (Γ.n0 + t)) (hb:b.val (look E) = .d (.int .i64 (i:Int))) (hc:Qxd (c.val (look E)).dem = ev v) (hcd:(c.val (look E)).dem.dat = true) (hM:Qb4 L t = some (.mp (mapE ek ev 0 m) m.length))
  (h:Rn Γ pc os ⟨look E,Qk Γ.n0 ((t,.mp (mapE ek ev 0 (putM m i v)) (putM m i v).length) :: L) M0,nb⟩ Q):Rn Γ pc (⟨none,.entrystore,[a,b,c],false,gd⟩ :: os) ⟨look E,Qk Γ.n0 L M0,nb⟩ Q:=by
 refine Rn.k0 (v:=.und) hw rfl rfl ?_ h
 have hbn:=Q9k (ek:=ek) (ev:=ev) 0 i m hi
 rw [Nat.zero_add] at hbn
 simp only [List.map_cons,List.map_nil,V.dems,ha,hb,hc,V.dem,Qg,Ql hM,hcd,if_true,hbn,Q8g,List.getElem?_eq_getElem hi,Option.map_some]
 rw [← Qc6,Qbc1 0 i (List.getElem?_eq_getElem hi)]
 simp [putM]
end
theorem Rn.idxvalV {α:Type} {e:α→D} {xs:List α} {i:Int} {x:α} {k:IntKind} {len:Nat} (hw:Wn E gd) (ha:(a.val (look E)).dem = .agg (xs.map fun x=>.d (e x))) (hb:b.val (look E) = .d (.int k i)) (hl:xs.length = len) (hx:getO xs i = some x)
  (h:Rn Γ pc os ⟨look ((d,.d (e x)) :: E),M,nb⟩ Q):Rn Γ pc (⟨some d,.idxval false 1 len,[a,b],false,gd⟩ :: os) ⟨look E,M,nb⟩ Q:=by
 unfold getO at hx
 split at hx <;> try (cases hx; done)
 rename_i h0
 obtain ⟨hlt,hx'⟩:=List.getElem?_eq_some_iff.1 hx
 refine Rn.k hw rfl rfl ?_ h
 subst hl
 simp only [List.map_cons,List.map_nil,V.dems,ha,hb,V.dem,Qg]
 have h1:i < (xs.length:Int):=by omega
 simp [h0,h1,hx,hx']
theorem Qbf1 {P:Nat→Bool}:Qcx.go P [] = []:=rfl
theorem Qbfr {n0 t o:Nat} {sites:List Nat} {cs:List V} (h:sites.any (fun u=>Nat.beq t u) = false) (r:Qcx.go (Qhm n0 sites) cs = cs):Qcx.go (Qhm n0 sites) (.ptr (n0 + t) o :: cs) = .ptr (n0 + t) o :: cs:=by
 simp [Qcx.go,Qcx,Qmw,h,r]
theorem kClo {P:Nat→Bool} {f:FuncId} {cs:List V} (h:Qcx.go P cs = cs):WkV (Qcx P (.clo f cs)) (.clo f cs):=.same (by simp [Qcx,h])
theorem kMp {n0 t:Nat} {sites:List Nat} (h:sites.any (fun u=>Nat.beq t u) = false):WkV (Qcx (Qhm n0 sites) (.mp (n0 + t))) (.mp (n0 + t)):=by
 refine .same ?_
 simp [Qcx,Qmw,h]
end Go.Abs
end
section
namespace Go.Abs
open Go
abbrev oo (d:Nat) (k:K) (as:List Arg):COp:=⟨some d,k,as,false,none⟩
abbrev oM (d a:Nat):COp:=⟨some d,.mov,[.t a],false,none⟩
abbrev oL (d a:Nat):COp:=⟨some d,.load false 1,[.t a],false,none⟩
abbrev oF (d n a:Nat):COp:=⟨some d,.fld n,[.t a],false,none⟩
abbrev cI (n:Int):Arg:=.c (.d (.int .i64 n))
abbrev ot (d:Nat) (k:K) (as:List Arg):COp:=⟨some d,k,as,true,none⟩
universe u
variable {α:Type u} {Γ:Env} {pc d nb:Nat} {os:List COp} {E:List (Nat×V)} {M:Mem} {Q:St→Prop} {gd:Option (Nat×Bool)} {a b:Arg} {sz:Nat}
theorem Rn.lit {bytes:Nat} {xs:List α} {e:α→List D} {ls:List (List D)} (hw:Wn E gd) (hl:xs.map e = ls) (hbd:(Nat.ble bytes 128 && Nat.ble 1 sz && Nat.ble ls.length lim) = true)
  (h:Rn Γ pc os ⟨look ((d,.own sz (xs.map e)) :: E),M,nb⟩ Q):Rn Γ pc (⟨some d,.append sz bytes,[.c (.nils sz),.c (.d (.lst sz ls))],true,gd⟩ :: os) ⟨look E,M,nb⟩ Q:=by
 subst hl
 simp only [Bool.and_eq_true] at hbd
 have h1:=Nat.le_of_ble_eq_true hbd.1.1
 have h2:0 < sz:=Nat.le_of_ble_eq_true hbd.1.2
 have h3:=Nat.le_of_ble_eq_true hbd.2
 refine Rn.kT hw rfl rfl (v:=.own sz (xs.map e)) ?_ (fun i=>?_) h
 ·simp only [List.map_cons,List.map_nil,Arg.val,Qg,Qfv,if_true]
  rw [if_pos (by simp only [h1,h2,h3,decide_true,Bool.and_self])]
 ·simp only [List.map_cons,List.map_nil,Arg.val,Q5,Qo,Arg.putTo]
  rw [Qce]
theorem tv:True:=trivial
abbrev f_ (l:List Int):V:=.f (.lst 1 (List.map (eI .i64) l))
abbrev o_ (l:List Int):V:=.own 1 (List.map (eI .i64) l)
theorem si {β:Type u} {x y:β} (h:some x = some y):x = y:=Option.some.inj h
theorem sr {cs:List COp} {y:CC} {σ:St} {Q:Ex→St→Prop} (h:Rn Γ 9 cs σ (Qbdr Γ y Q .norm)):Tr Γ (.seq (.region cs 9 []) y) σ Q:=Tr.seq (Tr.rgn h)
theorem nt {y:CC} {σ:St} {Q:Ex→St→Prop} (h:Tr Γ y σ Q):Rn Γ 9 [] σ (Qbdr Γ y Q .norm):=Rn.nil (toN h)
theorem md {x:D} (ha:a.val (look E) = .d x) (h:Rn Γ pc os ⟨look ((d,.d x) :: E),M,nb⟩ Q):Rn Γ pc (⟨some d,.mov,[a],false,none⟩ :: os) ⟨look E,M,nb⟩ Q:=Rn.movD trivial ha h
end Go.Abs
end
section
namespace Go.Abs
open Go
end Go.Abs
end
section
namespace Go.Abs
open Go
variable {α:Type}
theorem WkVs.app {a a' b b' : List V} (h:WkVs a a') (k:WkVs b b'):WkVs (a ++ b) (a' ++ b'):=by
 induction h with
 | nil=>exact k
 | cons h t ih=>exact .cons h ih
variable {Γ:Env} {pc d nb:Nat} {os:List COp} {E:List (Nat×V)} {M M0:Mem} {L:List (Nat×Bx)} {Q:St→Prop} {gd:Option (Nat×Bool)} {a b:Arg} {sz:Nat} {e:α→List D}
def LOn (p:Nat→Prop):List (Nat×Bx)→Prop
 | []=>True
 | (_,.cells cs) :: L=>V.ons p cs∧LOn p L
 | (_,.mp ..) :: L=>LOn p L
theorem LOn.at {p:Nat→Prop}:∀ {L:List (Nat×Bx)},LOn p L→∀ t cs,Qb4 L t = some (.cells cs)→V.ons p cs
 | [],_,t,cs,h=>by cases h
 | (u,.cells ds) :: L,hp,t,cs,h=>by
  simp only [Qb4] at h
  cases hb:Nat.beq t u with
  | true=>rw [hb] at h; cases h; exact hp.1
  | false=>rw [hb] at h; exact LOn.at hp.2 t cs h
 | (u,.mp ..) :: L,hp,t,cs,h=>by
  simp only [Qb4] at h
  cases hb:Nat.beq t u with
  | true=>rw [hb] at h; cases h
  | false=>rw [hb] at h; exact LOn.at (L:=L) hp t cs h
end Go.Abs
end
section
namespace Go.Abs
open Go
def Mem.puts (M:Mem):List (Nat×Bx)→Mem
 | []=>M
 | (k,b) :: l=>(Mem.puts M l).put k b
variable {M M0 M1 M2 M3:Mem} {k k' : Nat} {b b' c:Bx} {B B' : List (Nat×Bx)}
theorem pg0:M.puts ((k,b) :: B) k = some b:=by simp [Mem.puts,Mem.put]
def Qbc2 (M:Mem):List (Nat×Bx)→Prop
 | []=>True
 | (k,b) :: l=>M k = some b∧Qbc2 M l
theorem Q9l:∀ {B:List (Nat×Bx)},Qbc2 M B→M.puts B = M
 | [],_=>rfl
 | (k,b) :: l,h=>by
  rw [Mem.puts,Q9l h.2]
  funext i
  simp only [Mem.put]
  split
  ·rename_i e; subst e; exact h.1.symm
  ·rfl
theorem There.puts:∀ {B:List (Nat×Bx)} {k:Nat},There M k→There (M.puts B) k
 | [],_,h=>h
 | _ :: l,_,h=>There.put (There.puts (B:=l) h)
variable {Γ:Env} {pc d nb:Nat} {os:List COp} {E:List (Nat×V)} {L L' : List (Nat×Bx)} {Q:St→Prop} {gd:Option (Nat×Bool)} {x y:Arg}
theorem Tr.puts {cc:CC} {s:Sl} {Q:Ex→St→Prop} (B:List (Nat×Bx)) (h:Qbc2 M0 B) (k:Tr Γ cc ⟨s,Qk Γ.n0 L (M0.puts B),nb⟩ Q):Tr Γ cc ⟨s,Qk Γ.n0 L M0,nb⟩ Q:=by
 rw [Q9l h] at k; exact k
def OkB (n0:Nat):List (Nat×Bx)→Prop
 | []=>True
 | (k,.cells cs) :: l=>(n0≤k∨V.lt.go n0 cs = true)∧OkB n0 l
 | (k,.mp ..) :: l=>OkB n0 l
theorem OkB.at {n0:Nat} {M:Mem}:∀ {B:List (Nat×Bx)},OkB n0 B→∀ k cs,k < n0→M.puts B k = some (.cells cs)→M.puts B k = M k∨V.lt.go n0 cs = true
 | [],_,_,_,_,_=>.inl rfl
 | (j,.cells ds) :: l,h,k,cs,hk,hg=>by
  by_cases e:k = j
  ·subst e
   simp only [Mem.puts,Mem.put,if_true,Option.some.injEq,Bx.cells.injEq] at hg
   subst hg
   rcases h.1 with h1 | h1
   ·omega
   ·exact .inr h1
  ·simp only [Mem.puts,Mem.put,e,if_false] at hg ⊢
   exact OkB.at h.2 k cs hk hg
 | (j,.mp ..) :: l,h,k,cs,hk,hg=>by
  by_cases e:k = j
  ·subst e
   simp only [Mem.puts,Mem.put,if_true] at hg
   cases hg
  ·simp only [Mem.puts,Mem.put,e,if_false] at hg ⊢
   exact OkB.at (B:=l) h k cs hk hg
theorem Rn.storeV {t u off:Nat} {v:V} {cs cs' : List V} (hw:Wn E gd) (ha:x.val (look E) = .ptr (Γ.n0 + t) off) (hb:look E u = v) (hv:Qdh v = true) (hf:v.topS = v) (hf2:v.dem = v) (hM:Qb4 L t = some (.cells cs))
  (hn:(Nat.beq v.cells.length 1 && Nat.ble (off + 1) cs.length) = true) (hcs:cs.take off ++ v.cells ++ cs.drop (off + 1) = cs')
  (h:Rn Γ pc os ⟨look E,Qk Γ.n0 ((t,.cells cs') :: L) M0,nb⟩ Q):Rn Γ pc (⟨none,.store 1,[x,.t u],true,gd⟩ :: os) ⟨look E,Qk Γ.n0 L M0,nb⟩ Q:=by
 simp only [Bool.and_eq_true] at hn
 have h1:v.cells.length = 1:=Nat.eq_of_beq_eq_true hn.1
 have h2:=Nat.le_of_ble_eq_true hn.2
 have hm:[x,Arg.t u].map (fun x=>x.val (look E)) = [V.ptr (Γ.n0 + t) off,v]:=by simp only [List.map_cons,List.map_nil,ha]; rw [show (Arg.t u).val (look E) = _ from hb]
 refine Rn.kS (v:=.und) hw ?_ (fun i=>?_) h
 ·simp only [if_true,hm]
  simp only [Qg]
  cases v <;> first
   | (simp [Qdh] at hv; done)
   | (simp only [Ql hM,hf,h1,h2,decide_true,Bool.true_and,Nat.le_add_right,Bool.true_or,if_true]; rw [hcs,Qc6])
 ·simp only [if_true,hm,Q5,Qo,hf2]
  have:x.putTo (look E) (.ptr (Γ.n0 + t) off) = look E:=by
   cases x with
   | c v=>rfl
   | t j =>
    simp only [Arg.val] at ha
    funext i; simp only [Arg.putTo,Sl.put]; split
    ·rename_i e; subst e; exact ha.symm
    ·rfl
  have h3:(look E).put u v = look E:=by
   funext i; simp only [Sl.put]; split
   ·rename_i e; subst e; exact hb.symm
   ·rfl
  rw [this,show (Arg.t u).putTo (look E) v = (look E).put u v from rfl,h3]
def argE:List Arg→List V→List (Nat×V)→List (Nat×V)
 | .t i :: as,v :: vs,E=>argE as vs ((i,v) :: E)
 | .c _ :: as,_ :: vs,E=>argE as vs E
 | _,_,E=>E
theorem Qun:∀ (as:List Arg) (vs:List V) (E:List (Nat×V)),Qo (look E) as vs = look (argE as vs E)
 | [],vs,E=>by cases vs <;> rfl
 | a :: as,[],E=>by cases a <;> rfl
 | .t i :: as,v :: vs,E=>by
  simp only [Qo,argE]
  rw [show (Arg.t i).putTo (look E) v = (look E).put i v from rfl,Qce]
  exact Qun as vs _
 | .c _ :: as,v :: vs,E=>by
  simp only [Qo,argE]
  exact Qun as vs E
theorem Rn.buildT {as:List Arg} {z:List V} {ps:List (Nat×Nat)} {v:V} (hw:Wn E gd) (hk:Qg Γ.n0 (Γ.n0 + d) (.build z ps) (as.map (·.val (look E))) M = some (v,M))
  (h:Rn Γ pc os ⟨look ((d,v) :: argE as (V.dems (as.map (·.val (look E)))) E),M,nb⟩ Q):Rn Γ pc (⟨some d,.build z ps,as,true,gd⟩ :: os) ⟨look E,M,nb⟩ Q:=by
 refine Rn.kT hw rfl rfl hk (fun i=>?_) h
 rw [show Q5 (.build z ps) (as.map (·.val (look E))) = V.dems (as.map (·.val (look E))) from by cases as <;> rfl,Qun,Qce]
theorem Rn.storeT {t u off n:Nat} {v:V} {ds cs cs' : List V} (hw:Wn E gd) (ha:x.val (look E) = .ptr (Γ.n0 + t) off) (hb:look E u = v) (hv:Qdh v = true) (hds:v.topS.cells = ds) (hM:Qb4 L t = some (.cells cs))
  (hn:(Nat.beq ds.length n && Nat.ble (off + n) cs.length) = true) (hcs:cs.take off ++ ds ++ cs.drop (off + n) = cs')
  (h:Rn Γ pc os ⟨look ((u,v.dem) :: E),Qk Γ.n0 ((t,.cells cs') :: L) M0,nb⟩ Q):Rn Γ pc (⟨none,.store n,[x,.t u],true,gd⟩ :: os) ⟨look E,Qk Γ.n0 L M0,nb⟩ Q:=by
 simp only [Bool.and_eq_true] at hn
 have h1:v.topS.cells.length = n:=by rw [hds]; exact Nat.eq_of_beq_eq_true hn.1
 have h2:=Nat.le_of_ble_eq_true hn.2
 have hm:[x,Arg.t u].map (fun x=>x.val (look E)) = [V.ptr (Γ.n0 + t) off,v]:=by simp only [List.map_cons,List.map_nil,ha]; rw [show (Arg.t u).val (look E) = _ from hb]
 refine Rn.kS (v:=.und) hw ?_ (fun i=>?_) h
 ·simp only [if_true,hm]
  simp only [Qg]
  cases v <;> first
   | (simp [Qdh] at hv; done)
   | (simp only [Ql hM,h1,h2,decide_true,Bool.true_and,Nat.le_add_right,Bool.true_or,if_true]; rw [hds,hcs,Qc6])
 ·simp only [if_true,hm,Q5,Qo]
  have:x.putTo (look E) (.ptr (Γ.n0 + t) off) = look E:=by
   cases x with
   | c v=>rfl
   | t j =>
    simp only [Arg.val] at ha
    funext i; simp only [Arg.putTo,Sl.put]; split
    ·rename_i e; subst e; exact ha.symm
    ·rfl
  rw [this,show (Arg.t u).putTo (look E) v.dem = (look E).put u v.dem from rfl,Qce]
def WkB:List (Nat×Bx)→List (Nat×Bx)→Prop
 | [],[]=>True
 | (k,.cells cs) :: B,(k',.cells cs') :: B'=>(k = k' ∧ WkVs cs cs')∧WkB B B'
 | _,_=>False
theorem WkB.at {M:Mem}:∀ {B B' : List (Nat×Bx)},WkB B B' → ∀ k,M.puts B' k = M.puts B k∨∃ cs cs',M.puts B k = some (.cells cs)∧M.puts B' k = some (.cells cs')∧WkVs cs cs'
 | [],[],_,_=>.inl rfl
 | (j,.cells cs) :: B,(j',.cells cs') :: B',h,k=>by
  obtain ⟨⟨e,hw⟩,h⟩:=h
  subst e
  by_cases hk:k = j
  ·subst hk
   exact .inr ⟨cs,cs',pg0,pg0,hw⟩
  ·simp only [Mem.puts,Mem.put,hk,if_false]
   exact WkB.at h k
 | [],_ :: _,h,_=>h.elim
 | (_,.cells _) :: _,[],h,_=>h.elim
 | (_,.mp ..) :: _,[],h,_=>h.elim
 | (_,.mp ..) :: _,_ :: _,h,_=>h.elim
 | (_,.cells _) :: _,(_,.mp ..) :: _,h,_=>h.elim
end Go.Abs
end
section
namespace Go.Abs
open Go
theorem Rn.extTN {Γ:Env} {pc d nb t i sz:Nat} {os:List COp} {E:List (Nat×V)} {M:Mem} {Q:St→Prop} {gd:Option (Nat×Bool)} {vs:List V} (hw:Wn E gd) (ha:look E t = .tup vs) (hv:vs[i]? = some (.nils sz)) (hs:vs.set i (.nils sz) = vs) (h:Rn Γ pc os ⟨look ((d,.nils sz) :: E),M,nb⟩ Q):Rn Γ pc (⟨some d,.extract i,[.t t],true,gd⟩ :: os) ⟨look E,M,nb⟩ Q:=by
 refine Rn.kT hw rfl rfl (v:=.nils sz) (by simp [Arg.val,ha,Qg,hv,V.top,V.dem]) (fun j=>?_) h
 simp only [List.map_cons,List.map_nil,Arg.val,ha,Q5,hv,V.dem,hs,Qo,Arg.putTo]
 rw [← Qce]
 have:(look E).put t (.tup vs) = look E:=by
  funext i; simp only [Sl.put]; split
  ·rename_i e; subst e; exact ha.symm
  ·rfl
 rw [this]
end Go.Abs
end
section
namespace Go.Abs
open Go
set_option maxRecDepth 10000
set_option maxHeartbeats 4000000
structure Qi where
  From:Int
  Event:Int
  To:Int
  deriving DecidableEq
def Qe (x:Qi):List D:=[.int .i64 x.From,.int .i64 x.Event,.int .i64 x.To]
abbrev Qb5 (x:Qi):List V:=[(i_ x.From),(i_ x.Event),(i_ x.To)]
abbrev Qcn (x:Qi):V:=.agg (Qb5 x)
structure Qb where
  Alphabet:List Int
  States:Int
  Marked:List Int
  Edges:List Qi
  deriving DecidableEq
def Q1 (x:Qb):List D:=[.lst 1 (List.map (eI .i64) x.Alphabet),.int .i64 x.States,.lst 1 (List.map (eI .i64) x.Marked),.lst 3 (List.map Qe x.Edges)]
abbrev Qd (x:Qb):List V:=[(l_ x.Alphabet),(i_ x.States),(l_ x.Marked),.d (.lst 3 (List.map Qe x.Edges))]
abbrev Qa (x:Qb):V:=.agg (Qd x)
structure Qp where
  Enter:Int
  Leave:Int
  deriving DecidableEq
def Q6 (x:Qp):List D:=[.int .i64 x.Enter,.int .i64 x.Leave]
abbrev Qdl (x:Qp):List V:=[(i_ x.Enter),(i_ x.Leave)]
abbrev Q0h (x:Qp):V:=.agg (Qdl x)
end Go.Abs
end
section
namespace Go.Abs
open Go
set_option maxRecDepth 10000
set_option maxHeartbeats 4000000
def Qfd (P:Program) (c:Nat) (f:(List Int)→Int→Option Int):Prop:=∀ s1 v2 r,f s1 v2 = some r→∀ M nb,ACalls P c [(l_ s1),(i_ v2)] M nb (i_ r) M nb
def Qxf:List COp:=[oo 4 .mov [cI 0]]
def Qxg:List COp:=[oM 6 0,oo 7 .len [.t 6],oo 8 .mov [cI 0]]
def Qxh:List COp:=[oo 9 (.bin .lss false) [.t 8,.t 7]]
def Qxi:List COp:=[oM 10 8,oM 5 10]
def Qxj:List COp:=[oM 11 1,oM 12 0,oM 13 5,oo 14 (.idx 1) [.t 12,.t 13],oL 15 14,oo 16 (.bin .eql false) [.t 11,.t 15]]
def Qxk:List COp:=[oM 17 5,oM 4 17]
def Qxl:List COp:=[oo 18 (.bin .add false) [.t 8,cI 1],oM 8 18]
def Qxm:List COp:=[oo 4 .mov [cI (-1)]]
def Qhp:CFn:=⟨2,19,[.t 4],.seq (.region Qxf 9 []) (.seq (.seq (.region Qxg 9 []) (.block 0 (.loop [] (.seq (.region Qxh 9 []) (.seq (.cond (.t 9) (.skip) (.exit 0)) (.seq (.block 1 (.seq (.region Qxi 9 []) (.seq (.region Qxj 9 []) (.cond (.t 16) (.seq (.region Qxk 9 []) (.ret)) (.skip))))) (.region Qxl 9 []))))))) (.seq (.region Qxm 9 []) (.ret)))⟩
def Qx (fuel:Nat) (s1:(List Int)) (v2:Int):Option Int :=
  Qhk (fun k4 (x3:Int)=>(if (x3 < (s1.length:Int)) then ((getO s1 x3).bind fun x6=>(if (v2 == x6) then some x3 else k4 (IntKind.wrap .i64 (x3 + 1)))) else some (-1))) fuel 0
def Qdt (P:Program) (c:Nat) (f:(List Int)→Int→Option Bool):Prop:=∀ s1 v2 r,f s1 v2 = some r→∀ M nb,ACalls P c [(l_ s1),(i_ v2)] M nb (b_ r) M nb
def Qpp:List COp:=[oo 4 .mov [.c (.d (.bool false))]]
def Qpq:List COp:=[oM 5 0,oM 6 1,oo 7 (.call 43) [.t 5,.t 6],oo 8 (.bin .geq false) [.t 7,cI 0],oM 4 8]
def Qfi:CFn:=⟨2,9,[.t 4],.seq (.region Qpp 9 []) (.seq (.region Qpq 9 []) (.ret))⟩
def Qq (Qx:(List Int)→Int→Option Int) (s1:(List Int)) (v2:Int):Option Bool :=
  ((Qx s1 v2).bind fun x4=>some (decide (x4≥0)))
def Qdn (P:Program) (c:Nat) (f:(List Int)→Option Int):Prop:=∀ l1 r,f l1 = some r→∀ M nb,ACalls P c [(l_ l1)] M nb (i_ r) M nb
def Qmx:List COp:=[oo 2 .mov [cI 0]]
def Qmy:List COp:=[oM 5 0,oo 6 .len [.t 5],oo 7 .mov [cI 0]]
def Qmz:List COp:=[oo 8 (.bin .lss false) [.t 7,.t 6]]
def Qm0:List COp:=[oM 9 7,oo 10 (.idx 1) [.t 5,.t 7],oL 11 10,oM 3 9,oM 4 11]
def Qm1:List COp:=[oM 12 4,oo 13 (.bin .lss false) [.t 12,cI 0],oM 14 13,⟨some 15,.mov,[.t 4],false,some (14,false)⟩,⟨some 16,.bin .geq false,[.t 15,cI 32],false,some (14,false)⟩,oo 17 .pick [.t 14,.c (.d (.bool true)),.t 16]]
def Qm2:List COp:=[oo 2 .mov [cI 2]]
def Qm3:List COp:=[oM 18 0,oM 19 3,oo 20 (.slice 1 false true) [.t 18,.t 19],oM 21 4,oo 22 (.call 55) [.t 20,.t 21]]
def Qm4:List COp:=[oo 2 .mov [cI 8]]
def Qm5:List COp:=[oo 23 (.bin .add false) [.t 7,cI 1],oM 7 23]
def Qm6:List COp:=[oo 2 .mov [cI 0]]
def Qev:CFn:=⟨1,24,[.t 2],.seq (.region Qmx 9 []) (.seq (.seq (.region Qmy 9 []) (.block 0 (.loop [] (.seq (.region Qmz 9 []) (.seq (.cond (.t 8) (.skip) (.exit 0)) (.seq (.block 1 (.seq (.region Qm0 9 []) (.seq (.seq (.region Qm1 9 []) (.cond (.t 17) (.seq (.region Qm2 9 []) (.ret)) (.skip))) (.seq (.region Qm3 9 []) (.cond (.t 22) (.seq (.region Qm4 9 []) (.ret)) (.skip)))))) (.region Qm5 9 []))))))) (.seq (.region Qm6 9 []) (.ret)))⟩
def Qs (Qq:(List Int)→Int→Option Bool) (fuel:Nat) (l1:(List Int)):Option Int :=
  Qhk (fun k3 (x2:Int)=>(if (x2 < (l1.length:Int)) then ((getO l1 x2).bind fun x5=>(((if (x5 < 0) then some true else some (decide (x5≥32)))).bind fun (x8:Bool)=>(if x8 then some 2 else ((slcO l1 0 x2).bind fun x10=>((Qq x10 x5).bind fun x13=>(if x13 then some 8 else k3 (IntKind.wrap .i64 (x2 + 1)))))))) else some 0)) fuel 0
def Qhq (P:Program) (c:Nat) (f:(List Int)→Option ((List Int))):Prop:=∀ s1 r,f s1 = some r→∀ M nb,ACalls P c [(l_ s1)] M nb (o_ r) M nb
def Qxn:List COp:=[ot 2 .mov [.c (.nils 1)]]
def Qxo:List COp:=[oM 3 0,oo 4 (.isnil false) [.t 3]]
def Qxp:List COp:=[ot 2 .mov [.c (.nils 1)]]
def Qxq:List COp:=[oo 5 (.bslice 1 0 [.d (.int .i64 0)] []) [],oM 6 0,ot 7 (.append 1 8) [.t 5,.t 6],ot 2 .mov [.t 7]]
def Qhr:CFn:=⟨1,8,[.t 2],.seq (.region Qxn 9 []) (.seq (.seq (.region Qxo 9 []) (.cond (.t 4) (.seq (.region Qxp 9 []) (.ret)) (.skip))) (.seq (.region Qxq 9 []) (.ret)))⟩
def Qcf (s1:(List Int)):Option ((List Int)) :=
  (nilO s1 fun b2=>(if b2 then some [] else ((appO [] s1).bind fun x4=>some x4)))
def Qd7 (P:Program) (c:Nat) (f:(List Int)→Option ((List Int))):Prop:=∀ l1 r,f l1 = some r→∀ M nb,ACalls P c [(l_ l1)] M nb (l_ r) M nb
def Qsa:List COp:=[ot 2 .mov [.c (.nils 1)]]
def Qsb:List COp:=[oM 4 0,oo 5 (.call 70) [.t 4],ot 3 .mov [.t 5]]
def Qsc:List COp:=[oM 6 3,oo 7 (.call 59) [.t 6]]
def Qsd:List COp:=[ot 8 .mov [.t 3],ot 2 .mov [.t 8]]
def Qfy:CFn:=⟨1,9,[.t 2],.seq (.region Qsa 9 []) (.seq (.region Qsb 9 []) (.seq (.region Qsc 9 []) (.seq (.region Qsd 9 []) (.ret))))⟩
def Qw (f_slices_Sort_int:List Int→Option (List Int)) (Qcf:(List Int)→Option ((List Int))) (l1:(List Int)):Option ((List Int)) :=
  ((Qcf l1).bind fun x3=>((f_slices_Sort_int x3).bind fun out4=>some out4))
def Qdz (P:Program) (c:Nat) (f:Int→Int→(List Int)→Option (Int×Bool)):Prop:=∀ state1 event2 x3 (k4:Nat) r,f state1 event2 x3 = some r→∀ M nb,(M k4 = some (.cells [(l_ x3)]))→ACalls P c [(i_ state1),(i_ event2),.ptr k4 0] M nb (.tup [(i_ r.1),(b_ r.2)]) M nb
def Qkn:List COp:=[oo 5 .mov [cI 0],oo 6 .mov [.c (.d (.bool false))]]
def Qko:List COp:=[oM 7 0,oo 8 (.bin .add false) [.t 7,cI 1],oL 9 2,oo 10 .len [.t 9],oo 11 (.bin .rem false) [.t 8,.t 10],oL 12 2,oM 13 0,oo 14 (.idx 1) [.t 12,.t 13],oL 15 14,oM 16 1,oo 17 (.bin .eql false) [.t 15,.t 16],oM 5 11,oM 6 17]
def Qd0:CFn:=⟨3,18,[.t 5,.t 6],.seq (.region Qkn 9 []) (.seq (.region Qko 0 []) (.ret))⟩
def Q2 (state1:Int) (event2:Int) (x3:(List Int)):Option (Int×Bool) :=
  ((remO .i64 (IntKind.wrap .i64 (state1 + 1)) (x3.length:Int)).bind fun s6=>((getO x3 state1).bind fun x8=>some (s6,(x8 == event2))))
def Qc7 (P:Program) (c:Nat) (f:(List Int)→(Int→Option Bool)→(Int→Int→Option (Int×Bool))→Option Qb):Prop:=∀ events1 marked2 next9 (g3:Nat) (cp4:List V) (g10:Nat) (cp11:List V) r,f events1 marked2 next9 = some r→∀ M nb,(V.dems cp4 = cp4)→(V.ons (There M) cp4)→(∀ a8 r,marked2 a8 = some r→∀ M2 nb2,nb≤nb2→Ext M M2→ACalls P g3 ([(i_ a8)] ++ cp4) M2 nb2 (b_ r) M2 nb2)→(V.dems cp11 = cp11)→(V.ons (There M) cp11)→(∀ a15 a16 r,next9 a15 a16 = some r→∀ M2 nb2,nb≤nb2→Ext M M2→ACalls P g10 ([(i_ a15),(i_ a16)] ++ cp11) M2 nb2 (.tup [(i_ r.1),(b_ r.2)]) M2 nb2)→ACalls P c [(l_ events1),.clo g3 cp4,.clo g10 cp11] M nb (Qa r) M nb
def Qpr:List COp:=[oo 6 (.alloc [.nils 1,.d (.int .i64 0),.nils 1,.nils 3]) []]
def Qps:List COp:=[oM 17 0,ot 18 (.build [.nils 1,.d (.int .i64 0),.nils 1,.nils 3] [(0,1)]) [.t 17],oo 7 (.alloc [.nils 1,.d (.int .i64 0),.nils 1,.nils 3]) [],⟨none,.store 4,[.t 7,.t 18],true,none⟩]
def Qpt:List COp:=[oo 19 (.bslice 1 1 [.d (.int .i64 0)] [0]) [cI 0],oo 20 .mkmap [],⟨none,.mapset (.int .i64),[.t 20,cI 0,cI 0],false,none⟩,oM 21 20,ot 8 .mov [.t 19],oM 9 21]
def Qpu:List COp:=[oo 10 .mov [cI 0]]
def Qpv:List COp:=[oM 22 10,oM 23 8,oo 24 .len [.t 23],oo 25 (.bin .lss false) [.t 22,.t 24]]
def Qpw:List COp:=[oM 28 1,oM 29 8,oM 30 10,oo 31 (.idx 1) [.t 29,.t 30],oL 32 31,oo 33 .callv [.t 28,.t 32]]
def Qpx:List COp:=[oF 34 2 7,oo 35 .loadT [.t 34],oM 36 10,oo 37 (.bslice 1 1 [.d (.int .i64 0)] [0]) [.t 36],ot 38 (.append 1 8) [.t 35,.t 37],oF 39 2 7,⟨none,.store 1,[.t 39,.t 38],true,none⟩]
def Qpy:List COp:=[oM 40 0,oo 41 .len [.t 40],oo 42 .mov [cI 0]]
def Qpz:List COp:=[oo 43 (.bin .lss false) [.t 42,.t 41]]
def Qp0:List COp:=[oo 44 (.idx 1) [.t 40,.t 42],oL 45 44,oM 12 45]
def Qm7:List COp:=[oM 47 2,oM 48 8,oM 49 10,oo 50 (.idx 1) [.t 48,.t 49],oL 51 50,oM 52 12,oo 53 .callv [.t 47,.t 51,.t 52],oM 46 53,oo 54 (.extract 0) [.t 46],oo 55 (.extract 1) [.t 46],oM 13 54,oM 14 55]
def Qm8:List COp:=[oM 56 14,oo 57 (.un .not) [.t 56]]
def Qm9:List COp:=[oM 59 9,oM 60 13,oo 61 (.lookup (.int .i64) true (.d (.int .i64 0))) [.t 59,.t 60],oM 58 61,oo 62 (.extract 0) [.t 58],oo 63 (.extract 1) [.t 58],oM 15 62,oM 16 63]
def Qna:List COp:=[oM 64 16,oo 65 (.un .not) [.t 64]]
def Qnb:List COp:=[oM 66 8,oo 67 .len [.t 66],oM 15 67]
def Qnc:List COp:=[oM 68 9,oM 69 13,oM 70 15,ot 71 .mov [.t 8],oM 72 13,oo 73 (.bslice 1 1 [.d (.int .i64 0)] [0]) [.t 72],ot 74 (.append 1 8) [.t 71,.t 73],⟨none,.mapset (.int .i64),[.t 68,.t 69,.t 70],false,none⟩,ot 8 .mov [.t 74]]
def Qnd:List COp:=[oF 75 3 7,oo 76 .loadT [.t 75],oM 77 10,oM 78 12,oM 79 15,oo 80 (.build [.d (.int .i64 0),.d (.int .i64 0),.d (.int .i64 0)] [(0,1),(1,1),(2,1)]) [.t 77,.t 78,.t 79],oo 81 (.bslice 3 1 [.d (.int .i64 0),.d (.int .i64 0),.d (.int .i64 0)] [0]) [.t 80],ot 82 (.append 3 24) [.t 76,.t 81],oF 83 3 7,⟨none,.store 1,[.t 83,.t 82],true,none⟩]
def Qne:List COp:=[oo 84 (.bin .add false) [.t 42,cI 1],oM 42 84]
def Qnf:List COp:=[oM 26 10,oo 27 (.bin .add false) [.t 26,cI 1],oM 10 27]
def Qng:List COp:=[oM 85 8,oo 86 .len [.t 85],oF 87 1 7,⟨none,.store 1,[.t 87,.t 86],false,none⟩]
def Qnh:List COp:=[oo 88 (.load true 4) [.t 7],⟨none,.store 4,[.t 6,.t 88],true,none⟩]
def Qfj:CFn:=⟨3,89,[.cell 6 true 4],.seq (.region Qpr 9 []) (.seq (.region Qps 9 []) (.seq (.region Qpt 9 []) (.seq (.seq (.region Qpu 9 []) (.block 0 (.loop [37,73,81] (.seq (.seq (.region Qpv 9 []) (.cond (.t 25) (.skip) (.exit 0))) (.seq (.block 1 (.seq (.seq (.region Qpw 9 []) (.cond (.t 33) (.region Qpx 9 []) (.skip))) (.seq (.region Qpy 9 []) (.block 2 (.loop [73,81] (.seq (.region Qpz 9 []) (.seq (.cond (.t 43) (.skip) (.exit 2)) (.seq (.block 3 (.seq (.region Qp0 9 []) (.seq (.region Qm7 9 []) (.seq (.seq (.region Qm8 9 []) (.cond (.t 57) (.exit 3) (.skip))) (.seq (.region Qm9 9 []) (.seq (.seq (.region Qna 9 []) (.cond (.t 65) (.seq (.region Qnb 9 []) (.region Qnc 9 [])) (.skip))) (.region Qnd 9 []))))))) (.region Qne 9 []))))))))) (.region Qnf 9 [])))))) (.seq (.region Qng 9 []) (.seq (.region Qnh 9 []) (.ret))))))⟩
def Qn (fuel:Nat) (events1:(List Int)) (marked2:(Int→Option Bool)) (next9:(Int→Int→Option (Int×Bool))):Option Qb :=
  ((Qhk (fun k25 ((states17,i18,c19,c20,c21,a22,a23,c24):(List Int)×Int×(List Int)×(List Int)×(List Qi)×(List Int)×(List Qi)×(List (Int×Int)))=>(if (i18 < (states17.length:Int)) then ((((((getO states17 i18).bind fun x27=>((marked2 x27).bind fun x30=>(if x30 then ((appO a22 [i18]).bind fun x32=>some x32) else some a22)))).bind fun (a34:List Int)=>Qhk (fun k39 ((states35,x36,a37,c38):(List Int)×Int×(List Qi)×(List (Int×Int)))=>(if (x36 < (events1.length:Int)) then ((((getO events1 x36).bind fun x41=>((getO states35 i18).bind fun x43=>((next9 x43 x41).bind fun (r47,r48)=>(if r48 then (((if (hasM c38 r47) then some (states35,(getM c38 r47 0),c38) else ((appO states35 [r47]).bind fun x51=>some (x51,(states35.length:Int),(setM c38 r47 (states35.length:Int)))))).bind fun ((states53,k54,c55):(List Int)×Int×(List (Int×Int)))=>((appO a37 [(Qi.mk i18 x41 k54)]).bind fun x56=>some (states53,x56,c55))) else some (states35,a37,c38)))))).bind fun ((states58,a59,c60):(List Int)×(List Qi)×(List (Int×Int)))=>k39 (states58,(IntKind.wrap .i64 (x36 + 1)),a59,c60)) else some (states35,a34,a37,c38))) fuel (states17,0,a23,c24))).bind fun ((states61,a62,a63,c64):(List Int)×(List Int)×(List Qi)×(List (Int×Int)))=>k25 (states61,(IntKind.wrap .i64 (i18 + 1)),c19,c20,c21,a62,a63,c64)) else some (states17,c19,c20,c21,a22,a23,c24))) fuel ([0],0,[],[],[],[],[],(setM ([]:List (Int×Int)) 0 0))).bind fun ((states65,c66,c67,c68,a69,a70,c71):(List Int)×(List Int)×(List Int)×(List Qi)×(List Int)×(List Qi)×(List (Int×Int)))=>some (Qb.mk events1 (states65.length:Int) a69 a70))
def Qef (P:Program) (c:Nat) (f:Int→Option Bool):Prop:=∀ state1 r,f state1 = some r→∀ M nb,ACalls P c [(i_ state1)] M nb (b_ r) M nb
def Quo:List COp:=[oo 2 .mov [.c (.d (.bool false))]]
def Qup:List COp:=[oM 3 0,oo 4 (.bin .eql false) [.t 3,cI 0],oM 2 4]
def Qgz:CFn:=⟨1,5,[.t 2],.seq (.region Quo 9 []) (.seq (.region Qup 9 []) (.ret))⟩
def Qy (state1:Int):Option Bool :=
  some (state1 == 0)
def Qeg (P:Program) (c:Nat) (f:(List Int)→Option (Qb×Int)):Prop:=∀ events1 r,f events1 = some r→∀ M nb,ACalls P c [(l_ events1)] M nb (.tup [(Qa r.1),(i_ r.2)]) M nb
def Qlz:List COp:=[oo 1 (.box 1) [.t 0],oo 2 (.alloc [.nils 1,.d (.int .i64 0),.nils 1,.nils 3]) [],oo 3 .mov [cI 0]]
def Ql0:List COp:=[oL 5 1,oo 6 .len [.t 5],oo 7 (.bin .eql false) [.t 6,cI 0]]
def Ql1:List COp:=[oo 8 (.build [.nils 1,.d (.int .i64 0),.nils 1,.nils 3] []) [],⟨none,.store 4,[.t 2,.t 8],true,none⟩,oo 3 .mov [cI 12]]
def Ql2:List COp:=[oL 9 1,oo 10 (.call 33) [.t 9],oM 4 10]
def Ql3:List COp:=[oM 11 4,oo 12 (.bin .neq false) [.t 11,cI 0]]
def Ql4:List COp:=[oo 13 (.build [.nils 1,.d (.int .i64 0),.nils 1,.nils 3] []) [],oM 14 4,⟨none,.store 4,[.t 2,.t 13],true,none⟩,oM 3 14]
def Ql5:List COp:=[oL 15 1,oo 16 (.call 35) [.t 15],oo 17 (.func 37) [.t 1],oo 18 (.call 34) [.t 16,.c (.clo 36 []),.t 17],⟨none,.store 4,[.t 2,.t 18],true,none⟩,oo 3 .mov [cI 0]]
def Qeh:CFn:=⟨1,19,[.cell 2 true 4,.t 3],.seq (.region Qlz 9 []) (.seq (.seq (.region Ql0 9 []) (.cond (.t 7) (.seq (.region Ql1 9 []) (.ret)) (.skip))) (.seq (.seq (.region Ql2 9 []) (.seq (.region Ql3 9 []) (.cond (.t 12) (.seq (.region Ql4 9 []) (.ret)) (.skip)))) (.seq (.region Ql5 9 []) (.ret))))⟩
def Qbb (Qs:(List Int)→Option Int) (Qn:(List Int)→(Int→Option Bool)→(Int→Int→Option (Int×Bool))→Option Qb) (Qw:(List Int)→Option ((List Int))) (Qy:Int→Option Bool) (Q2:Int→Int→(List Int)→Option (Int×Bool)) (events1:(List Int)):Option (Qb×Int) :=
  (if ((events1.length:Int) == 0) then some ((Qb.mk [] 0 [] []),12) else ((Qs events1).bind fun x4=>(if (x4 != 0) then some ((Qb.mk [] 0 [] []),x4) else ((Qw events1).bind fun x7=>((Qn x7 Qy (fun a11 a12=>Q2 a11 a12 events1)).bind fun x16=>some (x16,0))))))
def Qg0 (P:Program) (c:Nat) (f:(List Int)→Int→Option Int):Prop:=∀ xset1 n2 r,f xset1 n2 = some r→∀ M nb,ACalls P c [(l_ xset1),(i_ n2)] M nb (i_ r) M nb
def Quq:List COp:=[oo 4 .mov [cI 0]]
def Qur:List COp:=[oM 7 0,oo 8 .len [.t 7],oo 9 .mov [cI 0]]
def Qus:List COp:=[oo 10 (.bin .lss false) [.t 9,.t 8]]
def Qut:List COp:=[oM 11 9,oo 12 (.idx 1) [.t 7,.t 9],oL 13 12,oM 5 11,oM 6 13]
def Quu:List COp:=[oM 14 6,oo 15 (.bin .lss false) [.t 14,cI 0],oM 16 15,⟨some 17,.mov,[.t 6],false,some (16,false)⟩,⟨some 18,.mov,[.t 1],false,some (16,false)⟩,⟨some 19,.bin .geq false,[.t 17,.t 18],false,some (16,false)⟩,oo 20 .pick [.t 16,.c (.d (.bool true)),.t 19]]
def Quv:List COp:=[oo 4 .mov [cI 2]]
def Quw:List COp:=[oM 21 5,oo 22 (.bin .gtr false) [.t 21,cI 0],oM 23 22,⟨some 24,.mov,[.t 6],false,some (23,true)⟩,⟨some 25,.mov,[.t 0],false,some (23,true)⟩,⟨some 26,.mov,[.t 5],false,some (23,true)⟩,⟨some 27,.bin .sub false,[.t 26,cI 1],false,some (23,true)⟩,⟨some 28,.idx 1,[.t 25,.t 27],false,some (23,true)⟩,⟨some 29,.load false 1,[.t 28],false,some (23,true)⟩,⟨some 30,.bin .leq false,[.t 24,.t 29],false,some (23,true)⟩,oo 31 .pick [.t 23,.t 30,.c (.d (.bool false))]]
def Qux:List COp:=[oo 4 .mov [cI 5]]
def Quy:List COp:=[oo 32 (.bin .add false) [.t 9,cI 1],oM 9 32]
def Quz:List COp:=[oo 4 .mov [cI 0]]
def Qg1:CFn:=⟨2,33,[.t 4],.seq (.region Quq 9 []) (.seq (.seq (.region Qur 9 []) (.block 0 (.loop [] (.seq (.region Qus 9 []) (.seq (.cond (.t 10) (.skip) (.exit 0)) (.seq (.block 1 (.seq (.region Qut 9 []) (.seq (.seq (.region Quu 9 []) (.cond (.t 20) (.seq (.region Quv 9 []) (.ret)) (.skip))) (.seq (.region Quw 9 []) (.cond (.t 31) (.seq (.region Qux 9 []) (.ret)) (.skip)))))) (.region Quy 9 []))))))) (.seq (.region Quz 9 []) (.ret)))⟩
def Qb6 (fuel:Nat) (xset1:(List Int)) (n2:Int):Option Int :=
  Qhk (fun k4 (x3:Int)=>(if (x3 < (xset1.length:Int)) then ((getO xset1 x3).bind fun x6=>(((if (x6 < 0) then some true else some (decide (x6≥n2)))).bind fun (x9:Bool)=>(if x9 then some 2 else (((if (x3 > 0) then ((getO xset1 (IntKind.wrap .i64 (x3 - 1))).bind fun x12=>some (decide (x6≤x12))) else some false)).bind fun (x14:Bool)=>(if x14 then some 5 else k4 (IntKind.wrap .i64 (x3 + 1))))))) else some 0)) fuel 0
def Qeo (P:Program) (c:Nat) (f:(List Int)→(List Int)→(Bool→Bool→Option Bool)→Option ((List Int))):Prop:=∀ a1 b2 keep3 (g4:Nat) (cp5:List V) r,f a1 b2 keep3 = some r→∀ M nb,(V.dems cp5 = cp5)→(V.ons (There M) cp5)→(∀ a9 a10 r,keep3 a9 a10 = some r→∀ M2 nb2,nb≤nb2→Ext M M2→ACalls P g4 ([(b_ a9),(b_ a10)] ++ cp5) M2 nb2 (b_ r) M2 nb2)→ACalls P c [(l_ a1),(l_ b2),.clo g4 cp5] M nb (o_ r) M nb
def Q2d:List COp:=[ot 6 .mov [.c (.nils 1)]]
def Q2e:List COp:=[ot 7 .mov [.c (.nils 1)]]
def Q2f:List COp:=[oM 11 0,oo 12 .len [.t 11],oo 13 (.bin .gtr false) [.t 12,cI 0],oM 14 13,⟨some 15,.mov,[.t 1],false,some (14,false)⟩,⟨some 16,.len,[.t 15],false,some (14,false)⟩,⟨some 17,.bin .gtr false,[.t 16,cI 0],false,some (14,false)⟩,oo 18 .pick [.t 14,.c (.d (.bool true)),.t 17]]
def Q2g:List COp:=[oM 19 0,oo 20 .len [.t 19],oo 21 (.bin .gtr false) [.t 20,cI 0],oM 22 21,⟨some 23,.mov,[.t 1],false,some (22,true)⟩,⟨some 24,.len,[.t 23],false,some (22,true)⟩,⟨some 25,.bin .eql false,[.t 24,cI 0],false,some (22,true)⟩,⟨some 26,.mov,[.t 25],false,some (22,true)⟩,⟨some 27,.mov,[.t 0],false,some (26,false)⟩,⟨some 28,.idx 1,[.t 27,cI 0],false,some (26,false)⟩,⟨some 29,.load false 1,[.t 28],false,some (26,false)⟩,⟨some 30,.mov,[.t 1],false,some (26,false)⟩,⟨some 31,.idx 1,[.t 30,cI 0],false,some (26,false)⟩,⟨some 32,.load false 1,[.t 31],false,some (26,false)⟩,⟨some 33,.bin .leq false,[.t 29,.t 32],false,some (26,false)⟩,⟨some 34,.pick,[.t 26,.c (.d (.bool true)),.t 33],false,some (22,true)⟩,oo 35 .pick [.t 22,.t 34,.c (.d (.bool false))],oM 8 35]
def Q2h:List COp:=[oM 36 1,oo 37 .len [.t 36],oo 38 (.bin .gtr false) [.t 37,cI 0],oM 39 38,⟨some 40,.mov,[.t 0],false,some (39,true)⟩,⟨some 41,.len,[.t 40],false,some (39,true)⟩,⟨some 42,.bin .eql false,[.t 41,cI 0],false,some (39,true)⟩,⟨some 43,.mov,[.t 42],false,some (39,true)⟩,⟨some 44,.mov,[.t 1],false,some (43,false)⟩,⟨some 45,.idx 1,[.t 44,cI 0],false,some (43,false)⟩,⟨some 46,.load false 1,[.t 45],false,some (43,false)⟩,⟨some 47,.mov,[.t 0],false,some (43,false)⟩,⟨some 48,.idx 1,[.t 47,cI 0],false,some (43,false)⟩,⟨some 49,.load false 1,[.t 48],false,some (43,false)⟩,⟨some 50,.bin .leq false,[.t 46,.t 49],false,some (43,false)⟩,⟨some 51,.pick,[.t 43,.c (.d (.bool true)),.t 50],false,some (39,true)⟩,oo 52 .pick [.t 39,.t 51,.c (.d (.bool false))],oM 9 52]
def Q2i:List COp:=[oo 10 .mov [cI 0]]
def Q2j:List COp:=[oM 53 8]
def Q2k:List COp:=[oM 54 0,oo 55 (.idx 1) [.t 54,cI 0],oL 56 55,ot 57 .mov [.t 0],ot 58 (.slcT 1) [.t 57,cI 1],oM 10 56,ot 0 .mov [.t 58]]
def Q2l:List COp:=[oM 59 9]
def Q2m:List COp:=[oM 60 1,oo 61 (.idx 1) [.t 60,cI 0],oL 62 61,ot 63 .mov [.t 1],ot 64 (.slcT 1) [.t 63,cI 1],oM 10 62,ot 1 .mov [.t 64]]
def Q0i:List COp:=[oM 65 2,oM 66 8,oM 67 9,oo 68 .callv [.t 65,.t 66,.t 67]]
def Q0j:List COp:=[ot 69 .mov [.t 7],oM 70 10,oo 71 (.bslice 1 1 [.d (.int .i64 0)] [0]) [.t 70],ot 72 (.append 1 8) [.t 69,.t 71],ot 7 .mov [.t 72]]
def Q0k:List COp:=[ot 73 .mov [.t 7],ot 6 .mov [.t 73]]
def Qjp:CFn:=⟨3,74,[.t 6],.seq (.region Q2d 9 []) (.seq (.region Q2e 9 []) (.seq (.block 0 (.loop [71] (.seq (.seq (.region Q2f 9 []) (.cond (.t 18) (.skip) (.exit 0))) (.block 1 (.seq (.region Q2g 0 []) (.seq (.region Q2h 0 []) (.seq (.region Q2i 9 []) (.seq (.seq (.region Q2j 9 []) (.cond (.t 53) (.region Q2k 0 []) (.skip))) (.seq (.seq (.region Q2l 9 []) (.cond (.t 59) (.region Q2m 0 []) (.skip))) (.seq (.region Q0i 9 []) (.cond (.t 68) (.region Q0j 9 []) (.skip)))))))))))) (.seq (.region Q0k 9 []) (.ret))))⟩
def Qu (fuel:Nat) (a1:(List Int)) (b2:(List Int)) (keep3:(Bool→Bool→Option Bool)):Option ((List Int)) :=
  ((Qhk (fun k14 ((a11,b12,out13):(List Int)×(List Int)×(List Int))=>(((if ((a11.length:Int) > 0) then some true else some (decide ((b12.length:Int) > 0)))).bind fun (x16:Bool)=>(if x16 then (((if ((a11.length:Int) > 0) then (if ((b12.length:Int) == 0) then some true else ((getO a11 0).bind fun x20=>((getO b12 0).bind fun x22=>some (decide (x20≤x22))))) else some false)).bind fun (inA24:Bool)=>(((if ((b12.length:Int) > 0) then (if ((a11.length:Int) == 0) then some true else ((getO b12 0).bind fun x27=>((getO a11 0).bind fun x29=>some (decide (x27≤x29))))) else some false)).bind fun (inB31:Bool)=>(((if inA24 then ((getO a11 0).bind fun x33=>((slcO a11 1 (a11.length:Int)).bind fun x35=>some (x35,x33))) else some (a11,0))).bind fun ((a37,x38):(List Int)×Int)=>(((if inB31 then ((getO b12 0).bind fun x40=>((slcO b12 1 (b12.length:Int)).bind fun x42=>some (x42,x40))) else some (b12,x38))).bind fun ((b44,x45):(List Int)×Int)=>((keep3 inA24 inB31).bind fun x47=>(if x47 then ((appO out13 [x45]).bind fun x49=>k14 (a37,b44,x49)) else k14 (a37,b44,out13))))))) else some out13))) fuel (a1,b2,[])).bind fun (out51:List Int)=>some out51)
def Qew (P:Program) (c:Nat) (f:Bool→Bool→Option Bool):Prop:=∀ inA1 inB2 r,f inA1 inB2 = some r→∀ M nb,ACalls P c [(b_ inA1),(b_ inB2)] M nb (b_ r) M nb
def Qni:List COp:=[oo 4 .mov [.c (.d (.bool false))]]
def Qnj:List COp:=[oM 5 0,oM 6 5,⟨some 7,.mov,[.t 1],false,some (6,true)⟩,oo 8 .pick [.t 6,.t 7,.c (.d (.bool false))],oM 4 8]
def Qex:CFn:=⟨2,9,[.t 4],.seq (.region Qni 9 []) (.seq (.region Qnj 9 []) (.ret))⟩
def Qbf (inA1:Bool) (inB2:Bool):Option Bool :=
  (if inA1 then some inB2 else some false)
def Qfz (P:Program) (c:Nat) (f:(List Int)→(List Int)→Option ((List Int))):Prop:=∀ a1 b2 r,f a1 b2 = some r→∀ M nb,ACalls P c [(l_ a1),(l_ b2)] M nb (o_ r) M nb
def Qse:List COp:=[ot 4 .mov [.c (.nils 1)]]
def Qsf:List COp:=[oM 5 0,oM 6 1,oo 7 (.call 66) [.t 5,.t 6,.c (.clo 93 [])],ot 4 .mov [.t 7]]
def Qf0:CFn:=⟨2,8,[.t 4],.seq (.region Qse 9 []) (.seq (.region Qsf 9 []) (.ret))⟩
def Qbv (Qu:(List Int)→(List Int)→(Bool→Bool→Option Bool)→Option ((List Int))) (Qbf:Bool→Bool→Option Bool) (a1:(List Int)) (b2:(List Int)):Option ((List Int)) :=
  ((Qu a1 b2 Qbf).bind fun x8=>some x8)
def Qhs (P:Program) (c:Nat) (f:(List Int)→(List Int)→Option Int):Prop:=∀ a1 b2 r,f a1 b2 = some r→∀ M nb,ACalls P c [(l_ a1),(l_ b2)] M nb (i_ r) M nb
def Qxr:List COp:=[oo 4 .mov [cI 0]]
def Qxs:List COp:=[oM 8 0,oM 9 1,oo 10 (.build [.nils 1,.nils 1] [(0,1),(1,1)]) [.t 8,.t 9],oo 11 .mov [cI 0]]
def Qxt:List COp:=[oo 12 (.bin .lss false) [.t 11,cI 2]]
def Qxu:List COp:=[oo 13 (.idxval false 1 2) [.t 10,.t 11],ot 6 .mov [.t 13]]
def Qxv:List COp:=[oM 14 6,oo 15 (.call 71) [.t 14,cI 32],oM 7 15]
def Qxw:List COp:=[oM 16 7,oo 17 (.bin .neq false) [.t 16,cI 0]]
def Qxx:List COp:=[oM 18 7,oM 4 18]
def Qxy:List COp:=[oo 19 (.bin .add false) [.t 11,cI 1],oM 11 19]
def Qxz:List COp:=[oM 20 0,oM 21 1,oo 22 (.call 72) [.t 20,.t 21],oo 23 .len [.t 22],oo 24 (.bin .gtr false) [.t 23,cI 0]]
def Qx0:List COp:=[oo 4 .mov [cI 13]]
def Qu0:List COp:=[oo 4 .mov [cI 0]]
def Qht:CFn:=⟨2,25,[.t 4],.seq (.region Qxr 9 []) (.seq (.seq (.region Qxs 9 []) (.block 0 (.loop [] (.seq (.region Qxt 9 []) (.seq (.cond (.t 12) (.skip) (.exit 0)) (.seq (.block 1 (.seq (.region Qxu 9 []) (.seq (.region Qxv 9 []) (.seq (.region Qxw 9 []) (.cond (.t 17) (.seq (.region Qxx 9 []) (.ret)) (.skip)))))) (.region Qxy 9 []))))))) (.seq (.seq (.region Qxz 9 []) (.cond (.t 24) (.seq (.region Qx0 9 []) (.ret)) (.skip))) (.seq (.region Qu0 9 []) (.ret))))⟩
def Qcg (Qb6:(List Int)→Int→Option Int) (Qbv:(List Int)→(List Int)→Option ((List Int))) (fuel:Nat) (a1:(List Int)) (b2:(List Int)):Option Int :=
  Qhk (fun k4 (x3:Int)=>(if (x3 < 2) then ((getO [a1,b2] x3).bind fun x6=>((Qb6 x6 32).bind fun x9=>(if (x9 != 0) then some x9 else k4 (IntKind.wrap .i64 (x3 + 1))))) else ((Qbv a1 b2).bind fun x12=>(if ((x12.length:Int) > 0) then some 13 else some 0)))) fuel 0
def Qhu (P:Program) (c:Nat) (f:Bool→Bool→Option Bool):Prop:=∀ inA1 inB2 r,f inA1 inB2 = some r→∀ M nb,ACalls P c [(b_ inA1),(b_ inB2)] M nb (b_ r) M nb
def Qx1:List COp:=[oo 4 .mov [.c (.d (.bool false))]]
def Qx2:List COp:=[oM 5 0,oM 6 5,⟨some 7,.mov,[.t 1],false,some (6,false)⟩,oo 8 .pick [.t 6,.c (.d (.bool true)),.t 7],oM 4 8]
def Qhv:CFn:=⟨2,9,[.t 4],.seq (.region Qx1 9 []) (.seq (.region Qx2 9 []) (.ret))⟩
def Qch (inA1:Bool) (inB2:Bool):Option Bool :=
  (if inA1 then some true else some inB2)
def Qjq (P:Program) (c:Nat) (f:(List Int)→(List Int)→Option ((List Int))):Prop:=∀ a1 b2 r,f a1 b2 = some r→∀ M nb,ACalls P c [(l_ a1),(l_ b2)] M nb (o_ r) M nb
def Q2n:List COp:=[ot 4 .mov [.c (.nils 1)]]
def Q2o:List COp:=[oM 5 0,oM 6 1,oo 7 (.call 66) [.t 5,.t 6,.c (.clo 73 [])],ot 4 .mov [.t 7]]
def Qjr:CFn:=⟨2,8,[.t 4],.seq (.region Q2n 9 []) (.seq (.region Q2o 9 []) (.ret))⟩
def Qc1 (Qu:(List Int)→(List Int)→(Bool→Bool→Option Bool)→Option ((List Int))) (Qch:Bool→Bool→Option Bool) (a1:(List Int)) (b2:(List Int)):Option ((List Int)) :=
  ((Qu a1 b2 Qch).bind fun x8=>some x8)
def Qkp (P:Program) (c:Nat) (f:Int→Option Bool):Prop:=∀ x1 r,f x1 = some r→∀ M nb,ACalls P c [(i_ x1)] M nb (b_ r) M nb
def Q31:List COp:=[oo 2 .mov [.c (.d (.bool false))]]
def Q32:List COp:=[oM 3 0,oM 4 0,oo 5 (.bin .neq false) [.t 3,.t 4],oM 2 5]
def Qkq:CFn:=⟨1,6,[.t 2],.seq (.region Q31 9 []) (.seq (.region Q32 9 []) (.ret))⟩
def Qcy (x1:Int):Option Bool :=
  some (x1 != x1)
def Ql6 (P:Program) (c:Nat) (f:Int→Int→Option Bool):Prop:=∀ x1 y2 r,f x1 y2 = some r→∀ M nb,ACalls P c [(i_ x1),(i_ y2)] M nb (b_ r) M nb
def Q44:List COp:=[oo 4 .mov [.c (.d (.bool false))]]
def Q45:List COp:=[oM 5 0,oo 6 (.call 114) [.t 5],oM 7 6,⟨some 8,.mov,[.t 1],false,some (7,true)⟩,⟨some 9,.call 114,[.t 8],false,some (7,true)⟩,⟨some 10,.un .not,[.t 9],false,some (7,true)⟩,oo 11 .pick [.t 7,.t 10,.c (.d (.bool false))],oM 12 11,⟨some 13,.mov,[.t 0],false,some (12,false)⟩,⟨some 14,.mov,[.t 1],false,some (12,false)⟩,⟨some 15,.bin .lss false,[.t 13,.t 14],false,some (12,false)⟩,oo 16 .pick [.t 12,.c (.d (.bool true)),.t 15],oM 4 16]
def Ql7:CFn:=⟨2,17,[.t 4],.seq (.region Q44 9 []) (.seq (.region Q45 9 []) (.ret))⟩
def Qdg (Qcy:Int→Option Bool) (x1:Int) (y2:Int):Option Bool :=
  ((Qcy x1).bind fun x4=>(if x4 then ((Qcy y2).bind fun x7=>(if x7 then some (decide (x1 < y2)) else some true)) else some (decide (x1 < y2))))
def Qhw (P:Program) (c:Nat) (f:Int→Option Bool):Prop:=∀ x1 r,f x1 = some r→∀ M nb,ACalls P c [(i_ x1)] M nb (b_ r) M nb
def Qx3:List COp:=[oo 2 .mov [.c (.d (.bool false))]]
def Qx4:List COp:=[oM 3 0,oM 4 0,oo 5 (.bin .neq false) [.t 3,.t 4],oM 2 5]
def Qhx:CFn:=⟨1,6,[.t 2],.seq (.region Qx3 9 []) (.seq (.region Qx4 9 []) (.ret))⟩
def Qb0 (x1:Int):Option Bool :=
  some (x1 != x1)
def Qd1 (P:Program) (c:Nat) (f:(List Int)→Int→Option (Int×Bool)):Prop:=∀ x1 target2 r,f x1 target2 = some r→∀ M nb,ACalls P c [(l_ x1),(i_ target2)] M nb (.tup [(i_ r.1),(b_ r.2)]) M nb
def Qkr:List COp:=[oo 4 .mov [cI 0],oo 5 .mov [.c (.d (.bool false))]]
def Qks:List COp:=[oM 10 0,oo 11 .len [.t 10],oM 6 11]
def Qkt:List COp:=[oM 12 6,oo 7 .mov [cI 0],oM 8 12]
def Qku:List COp:=[oM 13 7,oM 14 8,oo 15 (.bin .lss false) [.t 13,.t 14]]
def Qkv:List COp:=[oM 16 7,oM 17 8,oo 18 (.bin .add false) [.t 16,.t 17],oo 19 (.conv .u64) [.t 18],oo 20 (.bin .shr false) [.t 19,.c (.d (.int .u64 1))],oo 21 (.conv .i64) [.t 20],oM 9 21]
def Qkw:List COp:=[oM 22 0,oM 23 9,oo 24 (.idx 1) [.t 22,.t 23],oL 25 24,oM 26 1,oo 27 (.call 90) [.t 25,.t 26]]
def Qkx:List COp:=[oM 28 9,oo 29 (.bin .add false) [.t 28,cI 1],oM 7 29]
def Qky:List COp:=[oM 30 9,oM 8 30]
def Qkz:List COp:=[oM 31 7,oM 32 7,oM 33 6,oo 34 (.bin .lss false) [.t 32,.t 33],oM 35 34,⟨some 36,.mov,[.t 0],false,some (35,true)⟩,⟨some 37,.mov,[.t 7],false,some (35,true)⟩,⟨some 38,.idx 1,[.t 36,.t 37],false,some (35,true)⟩,⟨some 39,.load false 1,[.t 38],false,some (35,true)⟩,⟨some 40,.mov,[.t 1],false,some (35,true)⟩,⟨some 41,.bin .eql false,[.t 39,.t 40],false,some (35,true)⟩,⟨some 42,.mov,[.t 41],false,some (35,true)⟩,⟨some 43,.mov,[.t 0],false,some (42,false)⟩,⟨some 44,.mov,[.t 7],false,some (42,false)⟩,⟨some 45,.idx 1,[.t 43,.t 44],false,some (42,false)⟩,⟨some 46,.load false 1,[.t 45],false,some (42,false)⟩,⟨some 47,.call 91,[.t 46],false,some (42,false)⟩,⟨some 48,.mov,[.t 47],false,some (42,false)⟩,⟨some 49,.mov,[.t 1],false,some (48,true)⟩,⟨some 50,.call 91,[.t 49],false,some (48,true)⟩,⟨some 51,.pick,[.t 48,.t 50,.c (.d (.bool false))],false,some (42,false)⟩,⟨some 52,.pick,[.t 42,.c (.d (.bool true)),.t 51],false,some (35,true)⟩,oo 53 .pick [.t 35,.t 52,.c (.d (.bool false))],oM 4 31,oM 5 53]
def Qd2:CFn:=⟨2,54,[.t 4,.t 5],.seq (.region Qkr 9 []) (.seq (.region Qks 9 []) (.seq (.region Qkt 9 []) (.seq (.block 0 (.loop [] (.seq (.seq (.region Qku 9 []) (.cond (.t 15) (.skip) (.exit 0))) (.block 1 (.seq (.region Qkv 9 []) (.seq (.region Qkw 9 []) (.cond (.t 27) (.region Qkx 9 []) (.region Qky 9 [])))))))) (.seq (.region Qkz 9 []) (.ret)))))⟩
def Q3 (Qdg:Int→Int→Option Bool) (Qb0:Int→Option Bool) (fuel:Nat) (x1:(List Int)) (target2:Int):Option (Int×Bool) :=
  ((Qhk (fun k5 ((i3,j4):Int×Int)=>(if (i3 < j4) then ((getO x1 (IntKind.wrap .i64 (Int.fdiv (IntKind.wrap .u64 (IntKind.wrap .i64 (i3 + j4))) (2 ^ (min (Int.toNat 1) (IntKind.bits .u64)))))).bind fun x7=>((Qdg x7 target2).bind fun x10=>(if x10 then k5 ((IntKind.wrap .i64 ((IntKind.wrap .i64 (Int.fdiv (IntKind.wrap .u64 (IntKind.wrap .i64 (i3 + j4))) (2 ^ (min (Int.toNat 1) (IntKind.bits .u64))))) + 1)),j4) else k5 (i3,(IntKind.wrap .i64 (Int.fdiv (IntKind.wrap .u64 (IntKind.wrap .i64 (i3 + j4))) (2 ^ (min (Int.toNat 1) (IntKind.bits .u64))))))))) else some i3)) fuel (0,(x1.length:Int))).bind fun (i12:Int)=>(if (i12 < (x1.length:Int)) then ((getO x1 i12).bind fun x14=>(if (x14 == target2) then some (i12,true) else ((getO x1 i12).bind fun x17=>((Qb0 x17).bind fun x20=>(if x20 then ((Qb0 target2).bind fun x23=>some (i12,x23)) else some (i12,false)))))) else some (i12,false)))
def Qei (P:Program) (c:Nat) (f:(List Int)→Int→Option Bool):Prop:=∀ xset1 x2 r,f xset1 x2 = some r→∀ M nb,ACalls P c [(l_ xset1),(i_ x2)] M nb (b_ r) M nb
def Qu1:List COp:=[oo 4 .mov [.c (.d (.bool false))]]
def Qu2:List COp:=[oM 8 0,oM 9 1,oo 10 (.call 68) [.t 8,.t 9],oM 7 10,oo 11 (.extract 0) [.t 7],oo 12 (.extract 1) [.t 7],oM 5 11,oM 6 12]
def Qu3:List COp:=[oM 13 6,oM 4 13]
def Qg2:CFn:=⟨2,14,[.t 4],.seq (.region Qu1 9 []) (.seq (.region Qu2 9 []) (.seq (.region Qu3 9 []) (.ret)))⟩
def Qz (Q3:(List Int)→Int→Option (Int×Bool)) (xset1:(List Int)) (x2:Int):Option Bool :=
  ((Q3 xset1 x2).bind fun (r4,r5)=>some r5)
def Qey (P:Program) (c:Nat) (f:Int→Int→(List Int)→Int→Option (Int×Bool)):Prop:=∀ state1 event2 x3 x6 (k4:Nat) (k7:Nat) r,f state1 event2 x3 x6 = some r→∀ M nb,(M k4 = some (.cells [(l_ x3)]))→(M k7 = some (.cells [(i_ x6)]))→ACalls P c [(i_ state1),(i_ event2),.ptr k4 0,.ptr k7 0] M nb (.tup [(i_ r.1),(b_ r.2)]) M nb
def Qnk:List COp:=[oo 6 .mov [cI 0],oo 7 .mov [.c (.d (.bool false))]]
def Qnl:List COp:=[oL 8 2,oM 9 1,oo 10 (.call 31) [.t 8,.t 9]]
def Qnm:List COp:=[oM 11 0,oo 12 (.bin .add false) [.t 11,cI 1],oM 13 0,oL 14 3,oo 15 (.bin .lss false) [.t 13,.t 14],oM 6 12,oM 7 15]
def Qnn:List COp:=[oM 16 0,oo 17 (.bin .sub false) [.t 16,cI 1],oM 18 0,oo 19 (.bin .gtr false) [.t 18,cI 0],oM 6 17,oM 7 19]
def Qez:CFn:=⟨4,20,[.t 6,.t 7],.seq (.region Qnk 9 []) (.seq (.seq (.region Qnl 9 []) (.cond (.t 10) (.seq (.region Qnm 0 []) (.ret)) (.skip))) (.seq (.region Qnn 9 []) (.ret)))⟩
def Qbg (Qz:(List Int)→Int→Option Bool) (state1:Int) (event2:Int) (x3:(List Int)) (x6:Int):Option (Int×Bool) :=
  ((Qz x3 event2).bind fun x10=>(if x10 then some ((IntKind.wrap .i64 (state1 + 1)),decide (state1 < x6)) else some ((IntKind.wrap .i64 (state1 - 1)),decide (state1 > 0))))
def Qf1 (P:Program) (c:Nat) (f:(List Int)→(List Int)→Int→Option (Qb×Int)):Prop:=∀ put1 take2 capacity3 r,f put1 take2 capacity3 = some r→∀ M nb,ACalls P c [(l_ put1),(l_ take2),(i_ capacity3)] M nb (.tup [(Qa r.1),(i_ r.2)]) M nb
def Qsg:List COp:=[oo 3 (.box 1) [.t 0],oo 5 (.box 1) [.t 2],oo 6 (.alloc [.nils 1,.d (.int .i64 0),.nils 1,.nils 3]) [],oo 7 .mov [cI 0]]
def Qsh:List COp:=[oL 9 3,oM 10 1,oo 11 (.call 38) [.t 9,.t 10],oM 8 11]
def Qsi:List COp:=[oM 12 8,oo 13 (.bin .neq false) [.t 12,cI 0]]
def Qsj:List COp:=[oo 14 (.build [.nils 1,.d (.int .i64 0),.nils 1,.nils 3] []) [],oM 15 8,⟨none,.store 4,[.t 6,.t 14],true,none⟩,oM 7 15]
def Qsk:List COp:=[oL 16 5,oo 17 (.bin .lss false) [.t 16,cI 1],oM 18 17,⟨some 19,.load false 1,[.t 5],false,some (18,false)⟩,⟨some 20,.bin .gtr false,[.t 19,cI 1024],false,some (18,false)⟩,oo 21 .pick [.t 18,.c (.d (.bool true)),.t 20]]
def Qsl:List COp:=[oo 22 (.build [.nils 1,.d (.int .i64 0),.nils 1,.nils 3] []) [],⟨none,.store 4,[.t 6,.t 22],true,none⟩,oo 7 .mov [cI 2]]
def Qsm:List COp:=[oL 23 3,oM 24 1,oo 25 (.call 39) [.t 23,.t 24],oo 26 (.func 40) [.t 3,.t 5],oo 27 (.call 34) [.t 25,.c (.clo 36 []),.t 26],⟨none,.store 4,[.t 6,.t 27],true,none⟩,oo 7 .mov [cI 0]]
def Qf2:CFn:=⟨3,28,[.cell 6 true 4,.t 7],.seq (.region Qsg 9 []) (.seq (.seq (.region Qsh 9 []) (.seq (.region Qsi 9 []) (.cond (.t 13) (.seq (.region Qsj 9 []) (.ret)) (.skip)))) (.seq (.seq (.region Qsk 9 []) (.cond (.t 21) (.seq (.region Qsl 9 []) (.ret)) (.skip))) (.seq (.region Qsm 9 []) (.ret))))⟩
def Qbw (Qn:(List Int)→(Int→Option Bool)→(Int→Int→Option (Int×Bool))→Option Qb) (Qy:Int→Option Bool) (Qcg:(List Int)→(List Int)→Option Int) (Qc1:(List Int)→(List Int)→Option ((List Int))) (Qbg:Int→Int→(List Int)→Int→Option (Int×Bool)) (put1:(List Int)) (take2:(List Int)) (capacity3:Int):Option (Qb×Int) :=
  ((Qcg put1 take2).bind fun x5=>(if (x5 != 0) then some ((Qb.mk [] 0 [] []),x5) else (((if (capacity3 < 1) then some true else some (decide (capacity3 > 1024)))).bind fun (x8:Bool)=>(if x8 then some ((Qb.mk [] 0 [] []),2) else ((Qc1 put1 take2).bind fun x11=>((Qn x11 Qy (fun a15 a16=>Qbg a15 a16 put1 capacity3)).bind fun x20=>some (x20,0)))))))
def Qhy (P:Program) (c:Nat) (f:Int→Option Int):Prop:=∀ x1 r,f x1 = some r→∀ M nb,ACalls P c [.d (.int .u64 x1)] M nb (i_ r) M nb
def Qx5:List COp:=[oo 2 .mov [cI 0]]
def Qx6:List COp:=[oM 3 0,oo 4 (.bin .shr false) [.t 3,.c (.d (.int .u64 1))],oo 5 (.bin .and false) [.t 4,.c (.d (.int .u64 6148914691236517205))],oM 6 0,oo 7 (.bin .and false) [.t 6,.c (.d (.int .u64 6148914691236517205))],oo 8 (.bin .add false) [.t 5,.t 7],oM 0 8]
def Qx7:List COp:=[oM 9 0,oo 10 (.bin .shr false) [.t 9,.c (.d (.int .u64 2))],oo 11 (.bin .and false) [.t 10,.c (.d (.int .u64 3689348814741910323))],oM 12 0,oo 13 (.bin .and false) [.t 12,.c (.d (.int .u64 3689348814741910323))],oo 14 (.bin .add false) [.t 11,.t 13],oM 0 14]
def Qx8:List COp:=[oM 15 0,oo 16 (.bin .shr false) [.t 15,.c (.d (.int .u64 4))],oM 17 0,oo 18 (.bin .add false) [.t 16,.t 17],oo 19 (.bin .and false) [.t 18,.c (.d (.int .u64 1085102592571150095))],oM 0 19]
def Qx9:List COp:=[oM 20 0,oM 21 0,oo 22 (.bin .shr false) [.t 21,.c (.d (.int .u64 8))],oo 23 (.bin .add false) [.t 20,.t 22],oM 0 23]
def Qya:List COp:=[oM 24 0,oM 25 0,oo 26 (.bin .shr false) [.t 25,.c (.d (.int .u64 16))],oo 27 (.bin .add false) [.t 24,.t 26],oM 0 27]
def Qyb:List COp:=[oM 28 0,oM 29 0,oo 30 (.bin .shr false) [.t 29,.c (.d (.int .u64 32))],oo 31 (.bin .add false) [.t 28,.t 30],oM 0 31]
def Qyc:List COp:=[oM 32 0,oo 33 (.conv .i64) [.t 32],oo 34 (.bin .and false) [.t 33,cI 127],oM 2 34]
def Qhz:CFn:=⟨1,35,[.t 2],.seq (.region Qx5 9 []) (.seq (.region Qx6 9 []) (.seq (.region Qx7 9 []) (.seq (.region Qx8 9 []) (.seq (.region Qx9 9 []) (.seq (.region Qya 9 []) (.seq (.region Qyb 9 []) (.seq (.region Qyc 9 []) (.ret))))))))⟩
def Qci (x1:Int):Option Int :=
  some (andI .i64 (IntKind.wrap .i64 (IntKind.wrap .u64 ((IntKind.wrap .u64 ((IntKind.wrap .u64 ((andI .u64 (IntKind.wrap .u64 ((Int.fdiv (IntKind.wrap .u64 ((andI .u64 (Int.fdiv (IntKind.wrap .u64 ((andI .u64 (Int.fdiv x1 (2 ^ (min (Int.toNat 1) (IntKind.bits .u64)))) 6148914691236517205) + (andI .u64 x1 6148914691236517205))) (2 ^ (min (Int.toNat 2) (IntKind.bits .u64)))) 3689348814741910323) + (andI .u64 (IntKind.wrap .u64 ((andI .u64 (Int.fdiv x1 (2 ^ (min (Int.toNat 1) (IntKind.bits .u64)))) 6148914691236517205) + (andI .u64 x1 6148914691236517205))) 3689348814741910323))) (2 ^ (min (Int.toNat 4) (IntKind.bits .u64)))) + (IntKind.wrap .u64 ((andI .u64 (Int.fdiv (IntKind.wrap .u64 ((andI .u64 (Int.fdiv x1 (2 ^ (min (Int.toNat 1) (IntKind.bits .u64)))) 6148914691236517205) + (andI .u64 x1 6148914691236517205))) (2 ^ (min (Int.toNat 2) (IntKind.bits .u64)))) 3689348814741910323) + (andI .u64 (IntKind.wrap .u64 ((andI .u64 (Int.fdiv x1 (2 ^ (min (Int.toNat 1) (IntKind.bits .u64)))) 6148914691236517205) + (andI .u64 x1 6148914691236517205))) 3689348814741910323))))) 1085102592571150095) + (Int.fdiv (andI .u64 (IntKind.wrap .u64 ((Int.fdiv (IntKind.wrap .u64 ((andI .u64 (Int.fdiv (IntKind.wrap .u64 ((andI .u64 (Int.fdiv x1 (2 ^ (min (Int.toNat 1) (IntKind.bits .u64)))) 6148914691236517205) + (andI .u64 x1 6148914691236517205))) (2 ^ (min (Int.toNat 2) (IntKind.bits .u64)))) 3689348814741910323) + (andI .u64 (IntKind.wrap .u64 ((andI .u64 (Int.fdiv x1 (2 ^ (min (Int.toNat 1) (IntKind.bits .u64)))) 6148914691236517205) + (andI .u64 x1 6148914691236517205))) 3689348814741910323))) (2 ^ (min (Int.toNat 4) (IntKind.bits .u64)))) + (IntKind.wrap .u64 ((andI .u64 (Int.fdiv (IntKind.wrap .u64 ((andI .u64 (Int.fdiv x1 (2 ^ (min (Int.toNat 1) (IntKind.bits .u64)))) 6148914691236517205) + (andI .u64 x1 6148914691236517205))) (2 ^ (min (Int.toNat 2) (IntKind.bits .u64)))) 3689348814741910323) + (andI .u64 (IntKind.wrap .u64 ((andI .u64 (Int.fdiv x1 (2 ^ (min (Int.toNat 1) (IntKind.bits .u64)))) 6148914691236517205) + (andI .u64 x1 6148914691236517205))) 3689348814741910323))))) 1085102592571150095) (2 ^ (min (Int.toNat 8) (IntKind.bits .u64)))))) + (Int.fdiv (IntKind.wrap .u64 ((andI .u64 (IntKind.wrap .u64 ((Int.fdiv (IntKind.wrap .u64 ((andI .u64 (Int.fdiv (IntKind.wrap .u64 ((andI .u64 (Int.fdiv x1 (2 ^ (min (Int.toNat 1) (IntKind.bits .u64)))) 6148914691236517205) + (andI .u64 x1 6148914691236517205))) (2 ^ (min (Int.toNat 2) (IntKind.bits .u64)))) 3689348814741910323) + (andI .u64 (IntKind.wrap .u64 ((andI .u64 (Int.fdiv x1 (2 ^ (min (Int.toNat 1) (IntKind.bits .u64)))) 6148914691236517205) + (andI .u64 x1 6148914691236517205))) 3689348814741910323))) (2 ^ (min (Int.toNat 4) (IntKind.bits .u64)))) + (IntKind.wrap .u64 ((andI .u64 (Int.fdiv (IntKind.wrap .u64 ((andI .u64 (Int.fdiv x1 (2 ^ (min (Int.toNat 1) (IntKind.bits .u64)))) 6148914691236517205) + (andI .u64 x1 6148914691236517205))) (2 ^ (min (Int.toNat 2) (IntKind.bits .u64)))) 3689348814741910323) + (andI .u64 (IntKind.wrap .u64 ((andI .u64 (Int.fdiv x1 (2 ^ (min (Int.toNat 1) (IntKind.bits .u64)))) 6148914691236517205) + (andI .u64 x1 6148914691236517205))) 3689348814741910323))))) 1085102592571150095) + (Int.fdiv (andI .u64 (IntKind.wrap .u64 ((Int.fdiv (IntKind.wrap .u64 ((andI .u64 (Int.fdiv (IntKind.wrap .u64 ((andI .u64 (Int.fdiv x1 (2 ^ (min (Int.toNat 1) (IntKind.bits .u64)))) 6148914691236517205) + (andI .u64 x1 6148914691236517205))) (2 ^ (min (Int.toNat 2) (IntKind.bits .u64)))) 3689348814741910323) + (andI .u64 (IntKind.wrap .u64 ((andI .u64 (Int.fdiv x1 (2 ^ (min (Int.toNat 1) (IntKind.bits .u64)))) 6148914691236517205) + (andI .u64 x1 6148914691236517205))) 3689348814741910323))) (2 ^ (min (Int.toNat 4) (IntKind.bits .u64)))) + (IntKind.wrap .u64 ((andI .u64 (Int.fdiv (IntKind.wrap .u64 ((andI .u64 (Int.fdiv x1 (2 ^ (min (Int.toNat 1) (IntKind.bits .u64)))) 6148914691236517205) + (andI .u64 x1 6148914691236517205))) (2 ^ (min (Int.toNat 2) (IntKind.bits .u64)))) 3689348814741910323) + (andI .u64 (IntKind.wrap .u64 ((andI .u64 (Int.fdiv x1 (2 ^ (min (Int.toNat 1) (IntKind.bits .u64)))) 6148914691236517205) + (andI .u64 x1 6148914691236517205))) 3689348814741910323))))) 1085102592571150095) (2 ^ (min (Int.toNat 8) (IntKind.bits .u64)))))) (2 ^ (min (Int.toNat 16) (IntKind.bits .u64)))))) + (Int.fdiv (IntKind.wrap .u64 ((IntKind.wrap .u64 ((andI .u64 (IntKind.wrap .u64 ((Int.fdiv (IntKind.wrap .u64 ((andI .u64 (Int.fdiv (IntKind.wrap .u64 ((andI .u64 (Int.fdiv x1 (2 ^ (min (Int.toNat 1) (IntKind.bits .u64)))) 6148914691236517205) + (andI .u64 x1 6148914691236517205))) (2 ^ (min (Int.toNat 2) (IntKind.bits .u64)))) 3689348814741910323) + (andI .u64 (IntKind.wrap .u64 ((andI .u64 (Int.fdiv x1 (2 ^ (min (Int.toNat 1) (IntKind.bits .u64)))) 6148914691236517205) + (andI .u64 x1 6148914691236517205))) 3689348814741910323))) (2 ^ (min (Int.toNat 4) (IntKind.bits .u64)))) + (IntKind.wrap .u64 ((andI .u64 (Int.fdiv (IntKind.wrap .u64 ((andI .u64 (Int.fdiv x1 (2 ^ (min (Int.toNat 1) (IntKind.bits .u64)))) 6148914691236517205) + (andI .u64 x1 6148914691236517205))) (2 ^ (min (Int.toNat 2) (IntKind.bits .u64)))) 3689348814741910323) + (andI .u64 (IntKind.wrap .u64 ((andI .u64 (Int.fdiv x1 (2 ^ (min (Int.toNat 1) (IntKind.bits .u64)))) 6148914691236517205) + (andI .u64 x1 6148914691236517205))) 3689348814741910323))))) 1085102592571150095) + (Int.fdiv (andI .u64 (IntKind.wrap .u64 ((Int.fdiv (IntKind.wrap .u64 ((andI .u64 (Int.fdiv (IntKind.wrap .u64 ((andI .u64 (Int.fdiv x1 (2 ^ (min (Int.toNat 1) (IntKind.bits .u64)))) 6148914691236517205) + (andI .u64 x1 6148914691236517205))) (2 ^ (min (Int.toNat 2) (IntKind.bits .u64)))) 3689348814741910323) + (andI .u64 (IntKind.wrap .u64 ((andI .u64 (Int.fdiv x1 (2 ^ (min (Int.toNat 1) (IntKind.bits .u64)))) 6148914691236517205) + (andI .u64 x1 6148914691236517205))) 3689348814741910323))) (2 ^ (min (Int.toNat 4) (IntKind.bits .u64)))) + (IntKind.wrap .u64 ((andI .u64 (Int.fdiv (IntKind.wrap .u64 ((andI .u64 (Int.fdiv x1 (2 ^ (min (Int.toNat 1) (IntKind.bits .u64)))) 6148914691236517205) + (andI .u64 x1 6148914691236517205))) (2 ^ (min (Int.toNat 2) (IntKind.bits .u64)))) 3689348814741910323) + (andI .u64 (IntKind.wrap .u64 ((andI .u64 (Int.fdiv x1 (2 ^ (min (Int.toNat 1) (IntKind.bits .u64)))) 6148914691236517205) + (andI .u64 x1 6148914691236517205))) 3689348814741910323))))) 1085102592571150095) (2 ^ (min (Int.toNat 8) (IntKind.bits .u64)))))) + (Int.fdiv (IntKind.wrap .u64 ((andI .u64 (IntKind.wrap .u64 ((Int.fdiv (IntKind.wrap .u64 ((andI .u64 (Int.fdiv (IntKind.wrap .u64 ((andI .u64 (Int.fdiv x1 (2 ^ (min (Int.toNat 1) (IntKind.bits .u64)))) 6148914691236517205) + (andI .u64 x1 6148914691236517205))) (2 ^ (min (Int.toNat 2) (IntKind.bits .u64)))) 3689348814741910323) + (andI .u64 (IntKind.wrap .u64 ((andI .u64 (Int.fdiv x1 (2 ^ (min (Int.toNat 1) (IntKind.bits .u64)))) 6148914691236517205) + (andI .u64 x1 6148914691236517205))) 3689348814741910323))) (2 ^ (min (Int.toNat 4) (IntKind.bits .u64)))) + (IntKind.wrap .u64 ((andI .u64 (Int.fdiv (IntKind.wrap .u64 ((andI .u64 (Int.fdiv x1 (2 ^ (min (Int.toNat 1) (IntKind.bits .u64)))) 6148914691236517205) + (andI .u64 x1 6148914691236517205))) (2 ^ (min (Int.toNat 2) (IntKind.bits .u64)))) 3689348814741910323) + (andI .u64 (IntKind.wrap .u64 ((andI .u64 (Int.fdiv x1 (2 ^ (min (Int.toNat 1) (IntKind.bits .u64)))) 6148914691236517205) + (andI .u64 x1 6148914691236517205))) 3689348814741910323))))) 1085102592571150095) + (Int.fdiv (andI .u64 (IntKind.wrap .u64 ((Int.fdiv (IntKind.wrap .u64 ((andI .u64 (Int.fdiv (IntKind.wrap .u64 ((andI .u64 (Int.fdiv x1 (2 ^ (min (Int.toNat 1) (IntKind.bits .u64)))) 6148914691236517205) + (andI .u64 x1 6148914691236517205))) (2 ^ (min (Int.toNat 2) (IntKind.bits .u64)))) 3689348814741910323) + (andI .u64 (IntKind.wrap .u64 ((andI .u64 (Int.fdiv x1 (2 ^ (min (Int.toNat 1) (IntKind.bits .u64)))) 6148914691236517205) + (andI .u64 x1 6148914691236517205))) 3689348814741910323))) (2 ^ (min (Int.toNat 4) (IntKind.bits .u64)))) + (IntKind.wrap .u64 ((andI .u64 (Int.fdiv (IntKind.wrap .u64 ((andI .u64 (Int.fdiv x1 (2 ^ (min (Int.toNat 1) (IntKind.bits .u64)))) 6148914691236517205) + (andI .u64 x1 6148914691236517205))) (2 ^ (min (Int.toNat 2) (IntKind.bits .u64)))) 3689348814741910323) + (andI .u64 (IntKind.wrap .u64 ((andI .u64 (Int.fdiv x1 (2 ^ (min (Int.toNat 1) (IntKind.bits .u64)))) 6148914691236517205) + (andI .u64 x1 6148914691236517205))) 3689348814741910323))))) 1085102592571150095) (2 ^ (min (Int.toNat 8) (IntKind.bits .u64)))))) (2 ^ (min (Int.toNat 16) (IntKind.bits .u64)))))) (2 ^ (min (Int.toNat 32) (IntKind.bits .u64))))))) 127)
def Qjs (P:Program) (c:Nat) (f:Int→Option Int):Prop:=∀ x1 r,f x1 = some r→∀ M nb,ACalls P c [.d (.int .u64 x1)] M nb (i_ r) M nb
def Q2p:List COp:=[oo 2 .mov [cI 0]]
def Q2q:List COp:=[oM 3 0,oo 4 (.conv .u32) [.t 3],oo 5 (.call 74) [.t 4],oM 2 5]
def Q2r:List COp:=[oM 6 0,oo 7 (.call 75) [.t 6],oM 2 7]
def Qjt:CFn:=⟨1,8,[.t 2],.seq (.region Q2p 9 []) (.seq (.cond (.c (.d (.bool false))) (.seq (.region Q2q 9 []) (.ret)) (.skip)) (.seq (.region Q2r 9 []) (.ret)))⟩
def Qc2 (Qci:Int→Option Int) (x1:Int):Option Int :=
  ((Qci x1).bind fun x3=>some x3)
def Qe0 (P:Program) (c:Nat) (f:Int→Int→(List Int)→Int→Option (Int×Bool)):Prop:=∀ state1 event2 x3 x6 (k4:Nat) (k7:Nat) r,f state1 event2 x3 x6 = some r→∀ M nb,(M k4 = some (.cells [(l_ x3)]))→(M k7 = some (.cells [(i_ x6)]))→ACalls P c [(i_ state1),(i_ event2),.ptr k4 0,.ptr k7 0] M nb (.tup [(i_ r.1),(b_ r.2)]) M nb
def Qno:List COp:=[oo 6 .mov [cI 0],oo 7 .mov [.c (.d (.bool false))]]
def Qnp:List COp:=[oL 10 2,oM 11 1,oo 12 (.call 43) [.t 10,.t 11],oM 8 12]
def Qnq:List COp:=[oM 13 8,oo 14 (.bin .quo false) [.t 13,cI 2],oo 15 (.bin .shl false) [cI 1,.t 14],oM 9 15]
def Qnr:List COp:=[oM 16 8,oo 17 (.bin .rem false) [.t 16,cI 2],oo 18 (.bin .eql false) [.t 17,cI 0]]
def Qns:List COp:=[oM 19 0,oM 20 9,oo 21 (.bin .or false) [.t 19,.t 20],oM 22 0,oM 23 9,oo 24 (.bin .and false) [.t 22,.t 23],oo 25 (.bin .eql false) [.t 24,cI 0],oM 26 25,⟨some 27,.mov,[.t 0],false,some (26,true)⟩,⟨some 28,.conv .u64,[.t 27],false,some (26,true)⟩,⟨some 29,.call 44,[.t 28],false,some (26,true)⟩,⟨some 30,.load false 1,[.t 3],false,some (26,true)⟩,⟨some 31,.bin .lss false,[.t 29,.t 30],false,some (26,true)⟩,oo 32 .pick [.t 26,.t 31,.c (.d (.bool false))],oM 6 21,oM 7 32]
def Qnt:List COp:=[oM 33 0,oM 34 9,oo 35 (.bin .andNot false) [.t 33,.t 34],oM 36 0,oM 37 9,oo 38 (.bin .and false) [.t 36,.t 37],oo 39 (.bin .neq false) [.t 38,cI 0],oM 6 35,oM 7 39]
def Qe1:CFn:=⟨4,40,[.t 6,.t 7],.seq (.region Qno 9 []) (.seq (.region Qnp 9 []) (.seq (.region Qnq 9 []) (.seq (.seq (.region Qnr 9 []) (.cond (.t 18) (.seq (.region Qns 1 []) (.ret)) (.skip))) (.seq (.region Qnt 9 []) (.ret)))))⟩
def Qbh (Qx:(List Int)→Int→Option Int) (Qc2:Int→Option Int) (state1:Int) (event2:Int) (x3:(List Int)) (x6:Int):Option (Int×Bool) :=
  ((Qx x3 event2).bind fun x10=>((shlO .i64 1 (IntKind.wrap .i64 (Int.tdiv x10 2))).bind fun s11=>(if ((Int.tmod x10 2) == 0) then (if ((andI .i64 state1 s11) == 0) then ((Qc2 (IntKind.wrap .u64 state1)).bind fun x16=>some ((orI .i64 state1 s11),decide (x16 < x6))) else some ((orI .i64 state1 s11),false)) else some ((Qbct .i64 state1 s11),((andI .i64 state1 s11) != 0)))))
def Qis (P:Program) (c:Nat) (f:Int→Option Bool):Prop:=∀ x1 r,f x1 = some r→∀ M nb,ACalls P c [(i_ x1)] M nb (b_ r) M nb
def Q0l:List COp:=[oo 2 .mov [.c (.d (.bool false))]]
def Q0m:List COp:=[oo 2 .mov [.c (.d (.bool true))]]
def Qit:CFn:=⟨1,3,[.t 2],.seq (.region Q0l 9 []) (.seq (.region Q0m 9 []) (.ret))⟩
def Qcq (x1:Int):Option Bool :=
  some true
def Qf3 (P:Program) (c:Nat) (f:(List Qp)→Int→Option (Qb×Int)):Prop:=∀ phases1 most2 r,f phases1 most2 = some r→∀ M nb,ACalls P c [.d (.lst 2 (List.map Q6 phases1)),(i_ most2)] M nb (.tup [(Qa r.1),(i_ r.2)]) M nb
def Qsn:List COp:=[oo 3 (.box 1) [.t 1],oo 4 (.alloc [.nils 1,.d (.int .i64 0),.nils 1,.nils 3]) [],oo 5 .mov [cI 0]]
def Qso:List COp:=[oM 10 0,oo 11 .len [.t 10],oo 12 (.bin .gtr false) [.t 11,cI 10]]
def Qsp:List COp:=[oo 13 (.build [.nils 1,.d (.int .i64 0),.nils 1,.nils 3] []) [],⟨none,.store 4,[.t 4,.t 13],true,none⟩,oo 5 .mov [cI 3]]
def Qsq:List COp:=[oo 6 (.alloc [.nils 1]) []]
def Qsr:List COp:=[oM 14 0,oo 15 .len [.t 14],oo 16 .mov [cI 0]]
def Qss:List COp:=[oo 17 (.bin .lss false) [.t 16,.t 15]]
def Qst:List COp:=[oo 18 (.idx 2) [.t 14,.t 16],oo 19 (.load true 2) [.t 18],oo 8 (.alloc [.d (.int .i64 0),.d (.int .i64 0)]) [],⟨none,.store 2,[.t 8,.t 19],false,none⟩]
def Qsu:List COp:=[oo 20 .loadT [.t 6],oF 21 0 8,oL 22 21,oF 23 1 8,oL 24 23,oo 25 (.bslice 1 2 [.d (.int .i64 0)] [0,1]) [.t 22,.t 24],ot 26 (.append 1 8) [.t 20,.t 25],⟨none,.store 1,[.t 6,.t 26],true,none⟩]
def Qsv:List COp:=[oo 27 (.bin .add false) [.t 16,cI 1],oM 16 27]
def Qsw:List COp:=[oL 28 6,oo 29 (.call 33) [.t 28],oM 9 29]
def Qp1:List COp:=[oM 30 9,oo 31 (.bin .neq false) [.t 30,cI 0]]
def Qp2:List COp:=[oo 32 (.build [.nils 1,.d (.int .i64 0),.nils 1,.nils 3] []) [],oM 33 9,⟨none,.store 4,[.t 4,.t 32],true,none⟩,oM 5 33]
def Qp3:List COp:=[oL 34 3,oo 35 (.bin .lss false) [.t 34,cI 0],oM 36 35,⟨some 37,.load false 1,[.t 3],false,some (36,false)⟩,⟨some 38,.mov,[.t 0],false,some (36,false)⟩,⟨some 39,.len,[.t 38],false,some (36,false)⟩,⟨some 40,.bin .gtr false,[.t 37,.t 39],false,some (36,false)⟩,oo 41 .pick [.t 36,.c (.d (.bool true)),.t 40]]
def Qp4:List COp:=[oo 42 (.build [.nils 1,.d (.int .i64 0),.nils 1,.nils 3] []) [],⟨none,.store 4,[.t 4,.t 42],true,none⟩,oo 5 .mov [cI 2]]
def Qp5:List COp:=[oL 43 6,oo 44 (.call 35) [.t 43],oo 45 (.func 42) [.t 6,.t 3],oo 46 (.call 34) [.t 44,.c (.clo 41 []),.t 45],⟨none,.store 4,[.t 4,.t 46],true,none⟩,oo 5 .mov [cI 0]]
def Qf4:CFn:=⟨2,47,[.cell 4 true 4,.t 5],.seq (.region Qsn 9 []) (.seq (.seq (.region Qso 9 []) (.cond (.t 12) (.seq (.region Qsp 9 []) (.ret)) (.skip))) (.seq (.region Qsq 9 []) (.seq (.seq (.region Qsr 9 []) (.block 0 (.loop [8,25] (.seq (.region Qss 9 []) (.seq (.cond (.t 17) (.skip) (.exit 0)) (.seq (.block 1 (.seq (.region Qst 9 []) (.region Qsu 9 []))) (.region Qsv 9 []))))))) (.seq (.seq (.region Qsw 9 []) (.seq (.region Qp1 9 []) (.cond (.t 31) (.seq (.region Qp2 9 []) (.ret)) (.skip)))) (.seq (.seq (.region Qp3 9 []) (.cond (.t 41) (.seq (.region Qp4 9 []) (.ret)) (.skip))) (.seq (.region Qp5 9 []) (.ret)))))))⟩
def Qbx (Qs:(List Int)→Option Int) (Qn:(List Int)→(Int→Option Bool)→(Int→Int→Option (Int×Bool))→Option Qb) (Qw:(List Int)→Option ((List Int))) (Qcq:Int→Option Bool) (Qbh:Int→Int→(List Int)→Int→Option (Int×Bool)) (fuel:Nat) (phases1:(List Qp)) (most2:Int):Option (Qb×Int) :=
  (if ((phases1.length:Int) > 10) then some ((Qb.mk [] 0 [] []),3) else ((Qhk (fun k9 ((x4,c5,c6,c7,events8):Int×(List Int)×(List Int)×(List Qi)×(List Int))=>(if (x4 < (phases1.length:Int)) then ((getO phases1 x4).bind fun x11=>((appO events8 [x11.Enter,x11.Leave]).bind fun x13=>k9 ((IntKind.wrap .i64 (x4 + 1)),c5,c6,c7,x13))) else some (c5,c6,c7,events8))) fuel (0,[],[],[],[])).bind fun ((c15,c16,c17,events18):(List Int)×(List Int)×(List Qi)×(List Int))=>((Qs events18).bind fun x20=>(if (x20 != 0) then some ((Qb.mk [] 0 [] []),x20) else (((if (most2 < 0) then some true else some (decide (most2 > (phases1.length:Int))))).bind fun (x23:Bool)=>(if x23 then some ((Qb.mk [] 0 [] []),2) else ((Qw events18).bind fun x26=>((Qn x26 Qcq (fun a30 a31=>Qbh a30 a31 events18 most2)).bind fun x35=>some (x35,0)))))))))
def Qf5 (P:Program) (c:Nat) (f:(List Int)→Int→Option Int):Prop:=∀ l1 n2 r,f l1 n2 = some r→∀ M nb,ACalls P c [(l_ l1),(i_ n2)] M nb (i_ r) M nb
def Qsx:List COp:=[oo 4 .mov [cI 0]]
def Qsy:List COp:=[oM 7 0,oo 8 .len [.t 7],oo 9 .mov [cI 0]]
def Qsz:List COp:=[oo 10 (.bin .lss false) [.t 9,.t 8]]
def Qs0:List COp:=[oM 11 9,oo 12 (.idx 1) [.t 7,.t 9],oL 13 12,oM 5 11,oM 6 13]
def Qs1:List COp:=[oM 15 6,oo 16 (.bin .lss false) [.t 15,cI 0],oM 17 16,⟨some 18,.mov,[.t 6],false,some (17,false)⟩,⟨some 19,.mov,[.t 1],false,some (17,false)⟩,⟨some 20,.bin .geq false,[.t 18,.t 19],false,some (17,false)⟩,oo 21 .pick [.t 17,.c (.d (.bool true)),.t 20],oM 14 21]
def Qs2:List COp:=[oo 4 .mov [cI 2]]
def Qs3:List COp:=[oM 23 5,oo 24 (.bin .gtr false) [.t 23,cI 0],oM 25 24,⟨some 26,.mov,[.t 6],false,some (25,true)⟩,⟨some 27,.mov,[.t 0],false,some (25,true)⟩,⟨some 28,.mov,[.t 5],false,some (25,true)⟩,⟨some 29,.bin .sub false,[.t 28,cI 1],false,some (25,true)⟩,⟨some 30,.idx 1,[.t 27,.t 29],false,some (25,true)⟩,⟨some 31,.load false 1,[.t 30],false,some (25,true)⟩,⟨some 32,.bin .leq false,[.t 26,.t 31],false,some (25,true)⟩,oo 33 .pick [.t 25,.t 32,.c (.d (.bool false))],oM 22 33]
def Qs4:List COp:=[oo 4 .mov [cI 5]]
def Qs5:List COp:=[oo 34 (.bin .add false) [.t 9,cI 1],oM 9 34]
def Qs6:List COp:=[oo 4 .mov [cI 0]]
def Qf6:CFn:=⟨2,35,[.t 4],.seq (.region Qsx 9 []) (.seq (.seq (.region Qsy 9 []) (.block 0 (.loop [] (.seq (.region Qsz 9 []) (.seq (.cond (.t 10) (.skip) (.exit 0)) (.seq (.block 1 (.seq (.region Qs0 9 []) (.block 2 (.seq (.region Qs1 9 []) (.cond (.t 14) (.seq (.region Qs2 9 []) (.ret)) (.seq (.region Qs3 9 []) (.cond (.t 22) (.seq (.region Qs4 9 []) (.ret)) (.skip)))))))) (.region Qs5 9 []))))))) (.seq (.region Qs6 9 []) (.ret)))⟩
def Qba (fuel:Nat) (l1:(List Int)) (n2:Int):Option Int :=
  Qhk (fun k4 (x3:Int)=>(if (x3 < (l1.length:Int)) then ((getO l1 x3).bind fun x6=>(((if (x6 < 0) then some true else some (decide (x6≥n2)))).bind fun (x9:Bool)=>(if x9 then some 2 else (((if (x3 > 0) then ((getO l1 (IntKind.wrap .i64 (x3 - 1))).bind fun x12=>some (decide (x6≤x12))) else some false)).bind fun (x14:Bool)=>(if x14 then some 5 else k4 (IntKind.wrap .i64 (x3 + 1))))))) else some 0)) fuel 0
def Qe2 (P:Program) (c:Nat) (f:Qb→Option Int):Prop:=∀ a1 r,f a1 = some r→∀ M nb,ACalls P c [(Qa a1)] M nb (i_ r) M nb
def Qnu:List COp:=[oo 1 (.box 4) [.t 0],oo 2 .mov [cI 0]]
def Qnv:List COp:=[oF 6 3 1,oL 7 6,oo 8 .len [.t 7],oo 9 .mov [cI 0]]
def Qnw:List COp:=[oo 10 (.bin .lss false) [.t 9,.t 8]]
def Qnx:List COp:=[oM 11 9,oo 12 (.idx 3) [.t 7,.t 9],oo 13 (.load true 3) [.t 12],oo 4 (.alloc [.d (.int .i64 0),.d (.int .i64 0),.d (.int .i64 0)]) [],oM 3 11,⟨none,.store 3,[.t 4,.t 13],false,none⟩]
def Qny:List COp:=[oF 15 0 4,oL 16 15,oo 17 (.bin .lss false) [.t 16,cI 0],oM 18 17,⟨some 19,.fld 0,[.t 4],false,some (18,false)⟩,⟨some 20,.load false 1,[.t 19],false,some (18,false)⟩,⟨some 21,.fld 1,[.t 1],false,some (18,false)⟩,⟨some 22,.load false 1,[.t 21],false,some (18,false)⟩,⟨some 23,.bin .geq false,[.t 20,.t 22],false,some (18,false)⟩,oo 24 .pick [.t 18,.c (.d (.bool true)),.t 23],oM 25 24,⟨some 26,.fld 2,[.t 4],false,some (25,false)⟩,⟨some 27,.load false 1,[.t 26],false,some (25,false)⟩,⟨some 28,.bin .lss false,[.t 27,cI 0],false,some (25,false)⟩,oo 29 .pick [.t 25,.c (.d (.bool true)),.t 28],oM 30 29,⟨some 31,.fld 2,[.t 4],false,some (30,false)⟩,⟨some 32,.load false 1,[.t 31],false,some (30,false)⟩,⟨some 33,.fld 1,[.t 1],false,some (30,false)⟩,⟨some 34,.load false 1,[.t 33],false,some (30,false)⟩,⟨some 35,.bin .geq false,[.t 32,.t 34],false,some (30,false)⟩,oo 36 .pick [.t 30,.c (.d (.bool true)),.t 35],oM 14 36]
def Qnz:List COp:=[oo 2 .mov [cI 2]]
def Qn0:List COp:=[oF 38 0 1,oL 39 38,oF 40 1 4,oL 41 40,oo 42 (.call 55) [.t 39,.t 41],oo 43 (.un .not) [.t 42],oM 37 43]
def Qn1:List COp:=[oo 2 .mov [cI 9]]
def Qn2:List COp:=[oM 44 3,oo 45 (.bin .eql false) [.t 44,cI 0]]
def Qn3:List COp:=[oF 46 3 1,oL 47 46,oM 48 3,oo 49 (.bin .sub false) [.t 48,cI 1],oo 50 (.idx 3) [.t 47,.t 49],oo 51 (.load true 3) [.t 50],oo 5 (.alloc [.d (.int .i64 0),.d (.int .i64 0),.d (.int .i64 0)]) [],⟨none,.store 3,[.t 5,.t 51],false,none⟩]
def Ql8:List COp:=[oF 52 0 4,oL 53 52,oF 54 0 5,oL 55 54,oo 56 (.bin .lss false) [.t 53,.t 55],oM 57 56,⟨some 58,.fld 0,[.t 4],false,some (57,false)⟩,⟨some 59,.load false 1,[.t 58],false,some (57,false)⟩,⟨some 60,.fld 0,[.t 5],false,some (57,false)⟩,⟨some 61,.load false 1,[.t 60],false,some (57,false)⟩,⟨some 62,.bin .eql false,[.t 59,.t 61],false,some (57,false)⟩,⟨some 63,.mov,[.t 62],false,some (57,false)⟩,⟨some 64,.fld 1,[.t 4],false,some (63,true)⟩,⟨some 65,.load false 1,[.t 64],false,some (63,true)⟩,⟨some 66,.fld 1,[.t 5],false,some (63,true)⟩,⟨some 67,.load false 1,[.t 66],false,some (63,true)⟩,⟨some 68,.bin .leq false,[.t 65,.t 67],false,some (63,true)⟩,⟨some 69,.pick,[.t 63,.t 68,.c (.d (.bool false))],false,some (57,false)⟩,oo 70 .pick [.t 57,.c (.d (.bool true)),.t 69]]
def Ql9:List COp:=[oo 2 .mov [cI 5]]
def Qma:List COp:=[oo 71 (.bin .add false) [.t 9,cI 1],oM 9 71]
def Qmb:List COp:=[oo 2 .mov [cI 0]]
def Qe3:CFn:=⟨1,72,[.t 2],.seq (.region Qnu 9 []) (.seq (.seq (.region Qnv 9 []) (.block 0 (.loop [4,5] (.seq (.region Qnw 9 []) (.seq (.cond (.t 10) (.skip) (.exit 0)) (.seq (.block 1 (.seq (.region Qnx 9 []) (.seq (.block 2 (.seq (.region Qny 9 []) (.cond (.t 14) (.seq (.region Qnz 9 []) (.ret)) (.seq (.region Qn0 9 []) (.cond (.t 37) (.seq (.region Qn1 9 []) (.ret)) (.skip)))))) (.seq (.seq (.region Qn2 9 []) (.cond (.t 45) (.exit 1) (.skip))) (.seq (.region Qn3 9 []) (.seq (.region Ql8 9 []) (.cond (.t 70) (.seq (.region Ql9 9 []) (.ret)) (.skip)))))))) (.region Qma 9 []))))))) (.seq (.region Qmb 9 []) (.ret)))⟩
def Q7 (Qq:(List Int)→Int→Option Bool) (fuel:Nat) (a1:Qb):Option Int :=
  Qhk (fun k3 (x2:Int)=>(if (x2 < (a1.Edges.length:Int)) then letJ (fun ((c22,c23,c24):Int×Int×Int)=>k3 (IntKind.wrap .i64 (x2 + 1))) fun J25=>((getO a1.Edges x2).bind fun x5=>(((if (x5.From < 0) then some true else (if (x5.From≥a1.States) then some true else (if (x5.To < 0) then some true else some (decide (x5.To≥a1.States)))))).bind fun (x10:Bool)=>(if x10 then some 2 else ((Qq a1.Alphabet x5.Event).bind fun x13=>(if x13 then (if (x2 == 0) then J25 (x5.From,x5.Event,x5.To) else ((getO a1.Edges (IntKind.wrap .i64 (x2 - 1))).bind fun x16=>(((if (x5.From < x16.From) then some true else (if (x5.From == x16.From) then some (decide (x5.Event≤x16.Event)) else some false))).bind fun (x20:Bool)=>(if x20 then some 5 else J25 (x5.From,x5.Event,x5.To))))) else some 9))))) else some 0)) fuel 0
def Qbu (P:Program) (c:Nat) (f:Qb→Option Int):Prop:=∀ a1 r,f a1 = some r→∀ M nb,ACalls P c [(Qa a1)] M nb (i_ r) M nb
def Q0n:List COp:=[oo 1 (.box 4) [.t 0],oo 2 .mov [cI 0]]
def Q0o:List COp:=[oF 5 0 1,oL 6 5,oo 7 (.call 26) [.t 6,cI 32],oM 3 7]
def Q0p:List COp:=[oM 8 3,oo 9 (.bin .neq false) [.t 8,cI 0]]
def Q0q:List COp:=[oM 10 3,oM 2 10]
def Q0r:List COp:=[oF 12 1 1,oL 13 12,oo 14 (.bin .lss false) [.t 13,cI 0],oM 11 14]
def Q0s:List COp:=[oo 2 .mov [cI 2]]
def Q0t:List COp:=[oF 16 1 1,oL 17 16,oo 18 (.bin .gtr false) [.t 17,cI 4096],oM 15 18]
def Q0u:List COp:=[oo 2 .mov [cI 3]]
def Q0v:List COp:=[oF 19 2 1,oL 20 19,oF 21 1 1,oL 22 21,oo 23 (.call 26) [.t 20,.t 22],oM 4 23]
def Q0w:List COp:=[oM 24 4,oo 25 (.bin .neq false) [.t 24,cI 0]]
def Qyd:List COp:=[oM 26 4,oM 2 26]
def Qye:List COp:=[oo 27 (.load true 4) [.t 1],oo 28 (.call 27) [.t 27],oM 2 28]
def Qiu:CFn:=⟨1,29,[.t 2],.seq (.region Q0n 9 []) (.seq (.seq (.region Q0o 9 []) (.seq (.region Q0p 9 []) (.cond (.t 9) (.seq (.region Q0q 9 []) (.ret)) (.skip)))) (.seq (.block 0 (.seq (.region Q0r 9 []) (.cond (.t 11) (.seq (.region Q0s 9 []) (.ret)) (.seq (.region Q0t 9 []) (.cond (.t 15) (.seq (.region Q0u 9 []) (.ret)) (.skip)))))) (.seq (.seq (.region Q0v 9 []) (.seq (.region Q0w 9 []) (.cond (.t 25) (.seq (.region Qyd 9 []) (.ret)) (.skip)))) (.seq (.region Qye 9 []) (.ret)))))⟩
def Qf (Qba:(List Int)→Int→Option Int) (Q7:Qb→Option Int) (a1:Qb):Option Int :=
  ((Qba a1.Alphabet 32).bind fun x3=>(if (x3 != 0) then some x3 else (if (a1.States < 0) then some 2 else (if (a1.States > 4096) then some 3 else ((Qba a1.Marked a1.States).bind fun x8=>(if (x8 != 0) then some x8 else ((Q7 a1).bind fun x11=>some x11)))))))
def Qe4 (P:Program) (c:Nat) (f:Qb→Int→Option Int):Prop:=∀ a1 state2 r,f a1 state2 = some r→∀ M nb,ACalls P c [(Qa a1),(i_ state2)] M nb (i_ r) M nb
def Qn4:List COp:=[oo 2 (.box 4) [.t 0],oo 4 .mov [cI 0]]
def Qn5:List COp:=[oo 6 (.load true 4) [.t 2],oo 7 (.call 13) [.t 6],oM 5 7]
def Qn6:List COp:=[oM 8 5,oo 9 (.bin .neq false) [.t 8,cI 0]]
def Qn7:List COp:=[oM 10 5,oM 4 10]
def Qn8:List COp:=[oM 11 1,oo 12 (.bin .lss false) [.t 11,cI 0],oM 13 12,⟨some 14,.mov,[.t 1],false,some (13,false)⟩,⟨some 15,.fld 1,[.t 2],false,some (13,false)⟩,⟨some 16,.load false 1,[.t 15],false,some (13,false)⟩,⟨some 17,.bin .geq false,[.t 14,.t 16],false,some (13,false)⟩,oo 18 .pick [.t 13,.c (.d (.bool true)),.t 17]]
def Qn9:List COp:=[oo 4 .mov [cI 2]]
def Qoa:List COp:=[oo 4 .mov [cI 0]]
def Qe5:CFn:=⟨2,19,[.t 4],.seq (.region Qn4 9 []) (.seq (.seq (.region Qn5 9 []) (.seq (.region Qn6 9 []) (.cond (.t 9) (.seq (.region Qn7 9 []) (.ret)) (.skip)))) (.seq (.seq (.region Qn8 9 []) (.cond (.t 18) (.seq (.region Qn9 9 []) (.ret)) (.skip))) (.seq (.region Qoa 9 []) (.ret))))⟩
def Q8 (Qf:Qb→Option Int) (a1:Qb) (state2:Int):Option Int :=
  ((Qf a1).bind fun x4=>(if (x4 != 0) then some x4 else (((if (state2 < 0) then some true else some (decide (state2≥a1.States)))).bind fun (x7:Bool)=>(if x7 then some 2 else some 0))))
def Qdc (P:Program) (c:Nat) (f:(List Qi)→Int→(Qi→Int→Option Int)→Option (Int×Bool)):Prop:=∀ x1 target2 cmp3 (g4:Nat) (cp5:List V) r,f x1 target2 cmp3 = some r→∀ M nb,(V.dems cp5 = cp5)→(V.ons (There M) cp5)→(∀ a9 a10 r,cmp3 a9 a10 = some r→∀ M2 nb2,nb≤nb2→Ext M M2→ACalls P g4 ([(Qcn a9),(i_ a10)] ++ cp5) M2 nb2 (i_ r) M2 nb2)→ACalls P c [.d (.lst 3 (List.map Qe x1)),(i_ target2),.clo g4 cp5] M nb (.tup [(i_ r.1),(b_ r.2)]) M nb
def Qiv:List COp:=[oo 6 .mov [cI 0],oo 7 .mov [.c (.d (.bool false))]]
def Qiw:List COp:=[oM 12 0,oo 13 .len [.t 12],oM 8 13]
def Qix:List COp:=[oM 14 8,oo 9 .mov [cI 0],oM 10 14]
def Qiy:List COp:=[oM 15 9,oM 16 10,oo 17 (.bin .lss false) [.t 15,.t 16]]
def Qiz:List COp:=[oM 18 9,oM 19 10,oo 20 (.bin .add false) [.t 18,.t 19],oo 21 (.conv .u64) [.t 20],oo 22 (.bin .shr false) [.t 21,.c (.d (.int .u64 1))],oo 23 (.conv .i64) [.t 22],oM 11 23]
def Qi0:List COp:=[oM 24 2,oM 25 0,oM 26 11,oo 27 (.idx 3) [.t 25,.t 26],oo 28 (.load true 3) [.t 27],oM 29 1,oo 30 .callv [.t 24,.t 28,.t 29],oo 31 (.bin .lss false) [.t 30,cI 0]]
def Qi1:List COp:=[oM 32 11,oo 33 (.bin .add false) [.t 32,cI 1],oM 9 33]
def Qi2:List COp:=[oM 34 11,oM 10 34]
def Qi3:List COp:=[oM 35 9,oM 36 9,oM 37 8,oo 38 (.bin .lss false) [.t 36,.t 37],oM 39 38,⟨some 40,.mov,[.t 2],false,some (39,true)⟩,⟨some 41,.mov,[.t 0],false,some (39,true)⟩,⟨some 42,.mov,[.t 9],false,some (39,true)⟩,⟨some 43,.idx 3,[.t 41,.t 42],false,some (39,true)⟩,⟨some 44,.load true 3,[.t 43],false,some (39,true)⟩,⟨some 45,.mov,[.t 1],false,some (39,true)⟩,⟨some 46,.callv,[.t 40,.t 44,.t 45],false,some (39,true)⟩,⟨some 47,.bin .eql false,[.t 46,cI 0],false,some (39,true)⟩,oo 48 .pick [.t 39,.t 47,.c (.d (.bool false))],oM 6 35,oM 7 48]
def Qdd:CFn:=⟨3,49,[.t 6,.t 7],.seq (.region Qiv 9 []) (.seq (.region Qiw 9 []) (.seq (.region Qix 9 []) (.seq (.block 0 (.loop [] (.seq (.seq (.region Qiy 9 []) (.cond (.t 17) (.skip) (.exit 0))) (.block 1 (.seq (.region Qiz 9 []) (.seq (.region Qi0 9 []) (.cond (.t 31) (.region Qi1 9 []) (.region Qi2 9 [])))))))) (.seq (.region Qi3 9 []) (.ret)))))⟩
def Qt (fuel:Nat) (x1:(List Qi)) (target2:Int) (cmp3:(Qi→Int→Option Int)):Option (Int×Bool) :=
  ((Qhk (fun k13 ((i11,j12):Int×Int)=>(if (i11 < j12) then ((getO x1 (IntKind.wrap .i64 (Int.fdiv (IntKind.wrap .u64 (IntKind.wrap .i64 (i11 + j12))) (2 ^ (min (Int.toNat 1) (IntKind.bits .u64)))))).bind fun x15=>((cmp3 x15 target2).bind fun x18=>(if (x18 < 0) then k13 ((IntKind.wrap .i64 ((IntKind.wrap .i64 (Int.fdiv (IntKind.wrap .u64 (IntKind.wrap .i64 (i11 + j12))) (2 ^ (min (Int.toNat 1) (IntKind.bits .u64))))) + 1)),j12) else k13 (i11,(IntKind.wrap .i64 (Int.fdiv (IntKind.wrap .u64 (IntKind.wrap .i64 (i11 + j12))) (2 ^ (min (Int.toNat 1) (IntKind.bits .u64))))))))) else some i11)) fuel (0,(x1.length:Int))).bind fun (i20:Int)=>(if (i20 < (x1.length:Int)) then ((getO x1 i20).bind fun x22=>((cmp3 x22 target2).bind fun x25=>some (i20,(x25 == 0)))) else some (i20,false)))
def Qi4 (P:Program) (c:Nat) (f:Qi→Int→Option Int):Prop:=∀ x1 s2 r,f x1 s2 = some r→∀ M nb,ACalls P c [(Qcn x1),(i_ s2)] M nb (i_ r) M nb
def Q0x:List COp:=[oo 2 (.box 3) [.t 0],oo 4 .mov [cI 0]]
def Q0y:List COp:=[oF 5 0 2,oL 6 5,oM 7 1,oo 8 (.bin .sub false) [.t 6,.t 7],oM 4 8]
def Qi5:CFn:=⟨2,9,[.t 4],.seq (.region Q0x 9 []) (.seq (.region Q0y 9 []) (.ret))⟩
def Qcr (x1:Qi) (s2:Int):Option Int :=
  some (IntKind.wrap .i64 (x1.From - s2))
def Qi6 (P:Program) (c:Nat) (f:Qi→Int→Option Int):Prop:=∀ x1 s2 r,f x1 s2 = some r→∀ M nb,ACalls P c [(Qcn x1),(i_ s2)] M nb (i_ r) M nb
def Q0z:List COp:=[oo 2 (.box 3) [.t 0],oo 4 .mov [cI 0]]
def Q00:List COp:=[oF 5 0 2,oL 6 5,oM 7 1,oo 8 (.bin .sub false) [.t 6,.t 7],oM 4 8]
def Qi7:CFn:=⟨2,9,[.t 4],.seq (.region Q0z 9 []) (.seq (.region Q00 9 []) (.ret))⟩
def Qcs (x1:Qi) (s2:Int):Option Int :=
  some (IntKind.wrap .i64 (x1.From - s2))
def Qh0 (P:Program) (c:Nat) (f:Qb→Int→Option ((List Qi))):Prop:=∀ a1 state2 r,f a1 state2 = some r→∀ M nb,ACalls P c [(Qa a1),(i_ state2)] M nb (.d (.lst 3 (List.map Qe r))) M nb
def Q33:List COp:=[oo 2 (.box 4) [.t 0],ot 4 .mov [.c (.nils 3)]]
def Q34:List COp:=[oF 10 3 2,oL 11 10,oM 12 1,oo 13 (.call 87) [.t 11,.t 12,.c (.clo 88 [])],oM 9 13,oo 14 (.extract 0) [.t 9],oo 15 (.extract 1) [.t 9],oM 5 14,oM 6 15]
def Q35:List COp:=[oF 17 3 2,oL 18 17,oM 19 1,oo 20 (.bin .add false) [.t 19,cI 1],oo 21 (.call 87) [.t 18,.t 20,.c (.clo 89 [])],oM 16 21,oo 22 (.extract 0) [.t 16],oo 23 (.extract 1) [.t 16],oM 7 22,oM 8 23]
def Q36:List COp:=[oF 24 3 2,oL 25 24,oM 26 5,oM 27 7,oo 28 (.slice 3 true true) [.t 25,.t 26,.t 27],ot 4 .mov [.t 28]]
def Qk0:CFn:=⟨2,29,[.t 4],.seq (.region Q33 9 []) (.seq (.region Q34 9 []) (.seq (.region Q35 9 []) (.seq (.region Q36 9 []) (.ret))))⟩
def Qbl (Qt:(List Qi)→Int→(Qi→Int→Option Int)→Option (Int×Bool)) (Qcr:Qi→Int→Option Int) (Qcs:Qi→Int→Option Int) (a1:Qb) (state2:Int):Option ((List Qi)) :=
  ((Qt a1.Edges state2 Qcr).bind fun (r8,r9)=>((Qt a1.Edges (IntKind.wrap .i64 (state2 + 1)) Qcs).bind fun (r15,r16)=>((slcO a1.Edges r8 r15).bind fun x17=>some x17)))
def Qg3 (P:Program) (c:Nat) (f:Qb→Int→Option ((List Int)×Int)):Prop:=∀ a1 state2 r,f a1 state2 = some r→∀ M nb,ACalls P c [(Qa a1),(i_ state2)] M nb (.tup [(o_ r.1),(i_ r.2)]) M nb
def Qu4:List COp:=[oo 2 (.box 4) [.t 0],ot 4 .mov [.c (.nils 1)],oo 5 .mov [cI 0]]
def Qu5:List COp:=[oo 10 (.load true 4) [.t 2],oM 11 1,oo 12 (.call 64) [.t 10,.t 11],oM 6 12]
def Qu6:List COp:=[oM 13 6,oo 14 (.bin .neq false) [.t 13,cI 0]]
def Qu7:List COp:=[oM 15 6,ot 4 .mov [.c (.nils 1)],oM 5 15]
def Qu8:List COp:=[ot 7 .mov [.c (.nils 1)]]
def Qu9:List COp:=[oo 16 (.load true 4) [.t 2],oM 17 1,oo 18 (.call 65) [.t 16,.t 17],oo 19 .len [.t 18],oo 20 .mov [cI 0]]
def Qva:List COp:=[oo 21 (.bin .lss false) [.t 20,.t 19]]
def Qvb:List COp:=[oo 22 (.idx 3) [.t 18,.t 20],oo 23 (.load true 3) [.t 22],oo 9 (.alloc [.d (.int .i64 0),.d (.int .i64 0),.d (.int .i64 0)]) [],⟨none,.store 3,[.t 9,.t 23],false,none⟩]
def Qvc:List COp:=[ot 24 .mov [.t 7],oF 25 1 9,oL 26 25,oo 27 (.bslice 1 1 [.d (.int .i64 0)] [0]) [.t 26],ot 28 (.append 1 8) [.t 24,.t 27],ot 7 .mov [.t 28]]
def Qvd:List COp:=[oo 29 (.bin .add false) [.t 20,cI 1],oM 20 29]
def Qs7:List COp:=[ot 30 .mov [.t 7],ot 4 .mov [.t 30],oo 5 .mov [cI 0]]
def Qg4:CFn:=⟨2,31,[.t 4,.t 5],.seq (.region Qu4 9 []) (.seq (.seq (.region Qu5 9 []) (.seq (.region Qu6 9 []) (.cond (.t 14) (.seq (.region Qu7 9 []) (.ret)) (.skip)))) (.seq (.region Qu8 9 []) (.seq (.seq (.region Qu9 9 []) (.block 0 (.loop [9,27] (.seq (.region Qva 9 []) (.seq (.cond (.t 21) (.skip) (.exit 0)) (.seq (.block 1 (.seq (.region Qvb 9 []) (.region Qvc 9 []))) (.region Qvd 9 []))))))) (.seq (.region Qs7 9 []) (.ret)))))⟩
def Qbp (Q8:Qb→Int→Option Int) (Qbl:Qb→Int→Option ((List Qi))) (fuel:Nat) (a1:Qb) (state2:Int):Option ((List Int)×Int) :=
  ((Q8 a1 state2).bind fun x4=>(if (x4 != 0) then some ([],x4) else ((((Qbl a1 state2).bind fun x7=>Qhk (fun k10 ((l8,x9):(List Int)×Int)=>(if (x9 < (x7.length:Int)) then ((getO x7 x9).bind fun x12=>((appO l8 [x12.Event]).bind fun x14=>k10 (x14,(IntKind.wrap .i64 (x9 + 1))))) else some l8)) fuel ([],0))).bind fun (l16:List Int)=>some (l16,0))))
def Qh1 (P:Program) (c:Nat) (f:Bool→Bool→Option Bool):Prop:=∀ inA1 inB2 r,f inA1 inB2 = some r→∀ M nb,ACalls P c [(b_ inA1),(b_ inB2)] M nb (b_ r) M nb
def Qyf:List COp:=[oo 4 .mov [.c (.d (.bool false))]]
def Qyg:List COp:=[oM 5 0,oM 6 5,⟨some 7,.mov,[.t 1],false,some (6,true)⟩,⟨some 8,.un .not,[.t 7],false,some (6,true)⟩,oo 9 .pick [.t 6,.t 8,.c (.d (.bool false))],oM 4 9]
def Qh2:CFn:=⟨2,10,[.t 4],.seq (.region Qyf 9 []) (.seq (.region Qyg 9 []) (.ret))⟩
def Qcj (inA1:Bool) (inB2:Bool):Option Bool :=
  (if inA1 then some (!inB2) else some false)
def Qju (P:Program) (c:Nat) (f:(List Int)→(List Int)→Option ((List Int))):Prop:=∀ a1 b2 r,f a1 b2 = some r→∀ M nb,ACalls P c [(l_ a1),(l_ b2)] M nb (o_ r) M nb
def Q2s:List COp:=[ot 4 .mov [.c (.nils 1)]]
def Q2t:List COp:=[oM 5 0,oM 6 1,oo 7 (.call 66) [.t 5,.t 6,.c (.clo 67 [])],ot 4 .mov [.t 7]]
def Qjv:CFn:=⟨2,8,[.t 4],.seq (.region Q2s 9 []) (.seq (.region Q2t 9 []) (.ret))⟩
def Qc3 (Qu:(List Int)→(List Int)→(Bool→Bool→Option Bool)→Option ((List Int))) (Qcj:Bool→Bool→Option Bool) (a1:(List Int)) (b2:(List Int)):Option ((List Int)) :=
  ((Qu a1 b2 Qcj).bind fun x8=>some x8)
def Qdu (P:Program) (c:Nat) (f:Qb→Int→Option ((List Int)×Int)):Prop:=∀ a1 state2 r,f a1 state2 = some r→∀ M nb,ACalls P c [(Qa a1),(i_ state2)] M nb (.tup [(o_ r.1),(i_ r.2)]) M nb
def Qp6:List COp:=[oo 2 (.box 4) [.t 0],ot 4 .mov [.c (.nils 1)],oo 5 .mov [cI 0]]
def Qp7:List COp:=[oo 9 (.load true 4) [.t 2],oM 10 1,oo 11 (.call 29) [.t 9,.t 10],oM 8 11,ot 12 (.extract 0) [.t 8],oo 13 (.extract 1) [.t 8],ot 6 .mov [.t 12],oM 7 13]
def Qp8:List COp:=[oM 14 7,oo 15 (.bin .neq false) [.t 14,cI 0]]
def Qp9:List COp:=[oM 16 7,ot 4 .mov [.c (.nils 1)],oM 5 16]
def Qqa:List COp:=[oF 17 0 2,oL 18 17,oM 19 6,oo 20 (.call 30) [.t 18,.t 19],ot 4 .mov [.t 20],oo 5 .mov [cI 0]]
def Qfk:CFn:=⟨2,21,[.t 4,.t 5],.seq (.region Qp6 9 []) (.seq (.region Qp7 9 []) (.seq (.seq (.region Qp8 9 []) (.cond (.t 15) (.seq (.region Qp9 9 []) (.ret)) (.skip))) (.seq (.region Qqa 9 []) (.ret))))⟩
def Qr (Qbp:Qb→Int→Option ((List Int)×Int)) (Qc3:(List Int)→(List Int)→Option ((List Int))) (a1:Qb) (state2:Int):Option ((List Int)×Int) :=
  ((Qbp a1 state2).bind fun (r4,r5)=>(if (r5 != 0) then some ([],r5) else ((Qc3 a1.Alphabet r4).bind fun x8=>some (x8,0))))
def Qh3 (P:Program) (c:Nat) (f:(List Int)→(List Int)→Option Bool):Prop:=∀ s1 s2 r,f s1 s2 = some r→∀ M nb,ACalls P c [(l_ s1),(l_ s2)] M nb (b_ r) M nb
def Qyh:List COp:=[oo 4 .mov [.c (.d (.bool false))]]
def Qyi:List COp:=[oM 6 0,oo 7 .len [.t 6],oM 8 1,oo 9 .len [.t 8],oo 10 (.bin .neq false) [.t 7,.t 9]]
def Qyj:List COp:=[oo 4 .mov [.c (.d (.bool false))]]
def Qyk:List COp:=[oM 11 0,oo 12 .len [.t 11],oo 13 .mov [cI 0]]
def Qyl:List COp:=[oo 14 (.bin .lss false) [.t 13,.t 12]]
def Qym:List COp:=[oM 15 13,oM 5 15]
def Qyn:List COp:=[oM 16 0,oM 17 5,oo 18 (.idx 1) [.t 16,.t 17],oL 19 18,oM 20 1,oM 21 5,oo 22 (.idx 1) [.t 20,.t 21],oL 23 22,oo 24 (.bin .neq false) [.t 19,.t 23]]
def Qyo:List COp:=[oo 4 .mov [.c (.d (.bool false))]]
def Qyp:List COp:=[oo 25 (.bin .add false) [.t 13,cI 1],oM 13 25]
def Qyq:List COp:=[oo 4 .mov [.c (.d (.bool true))]]
def Qh4:CFn:=⟨2,26,[.t 4],.seq (.region Qyh 9 []) (.seq (.seq (.region Qyi 9 []) (.cond (.t 10) (.seq (.region Qyj 9 []) (.ret)) (.skip))) (.seq (.seq (.region Qyk 9 []) (.block 0 (.loop [] (.seq (.region Qyl 9 []) (.seq (.cond (.t 14) (.skip) (.exit 0)) (.seq (.block 1 (.seq (.region Qym 9 []) (.seq (.region Qyn 0 []) (.cond (.t 24) (.seq (.region Qyo 9 []) (.ret)) (.skip))))) (.region Qyp 9 []))))))) (.seq (.region Qyq 9 []) (.ret))))⟩
def Qb1 (fuel:Nat) (s1:(List Int)) (s2:(List Int)):Option Bool :=
  (if ((s1.length:Int) != (s2.length:Int)) then some false else Qhk (fun k5 (x4:Int)=>(if (x4 < (s1.length:Int)) then ((getO s1 x4).bind fun x7=>((getO s2 x4).bind fun x9=>(if (x7 != x9) then some false else k5 (IntKind.wrap .i64 (x4 + 1))))) else some true)) fuel 0)
def Qg5 (P:Program) (c:Nat) (f:(List Qi)→(List Qi)→Option Bool):Prop:=∀ s1 s2 r,f s1 s2 = some r→∀ M nb,ACalls P c [.d (.lst 3 (List.map Qe s1)),.d (.lst 3 (List.map Qe s2))] M nb (b_ r) M nb
def Qve:List COp:=[oo 4 .mov [.c (.d (.bool false))]]
def Qvf:List COp:=[oM 6 0,oo 7 .len [.t 6],oM 8 1,oo 9 .len [.t 8],oo 10 (.bin .neq false) [.t 7,.t 9]]
def Qvg:List COp:=[oo 4 .mov [.c (.d (.bool false))]]
def Qvh:List COp:=[oM 11 0,oo 12 .len [.t 11],oo 13 .mov [cI 0]]
def Qvi:List COp:=[oo 14 (.bin .lss false) [.t 13,.t 12]]
def Qvj:List COp:=[oM 15 13,oM 5 15]
def Qvk:List COp:=[oM 16 0,oM 17 5,oo 18 (.idx 3) [.t 16,.t 17],oo 19 (.load true 3) [.t 18],oM 20 1,oM 21 5,oo 22 (.idx 3) [.t 20,.t 21],oo 23 (.load true 3) [.t 22],oo 24 (.eqa true [0,0,0]) [.t 19,.t 23]]
def Qvl:List COp:=[oo 4 .mov [.c (.d (.bool false))]]
def Qvm:List COp:=[oo 25 (.bin .add false) [.t 13,cI 1],oM 13 25]
def Qvn:List COp:=[oo 4 .mov [.c (.d (.bool true))]]
def Qg6:CFn:=⟨2,26,[.t 4],.seq (.region Qve 9 []) (.seq (.seq (.region Qvf 9 []) (.cond (.t 10) (.seq (.region Qvg 9 []) (.ret)) (.skip))) (.seq (.seq (.region Qvh 9 []) (.block 0 (.loop [] (.seq (.region Qvi 9 []) (.seq (.cond (.t 14) (.skip) (.exit 0)) (.seq (.block 1 (.seq (.region Qvj 9 []) (.seq (.region Qvk 0 []) (.cond (.t 24) (.seq (.region Qvl 9 []) (.ret)) (.skip))))) (.region Qvm 9 []))))))) (.seq (.region Qvn 9 []) (.ret))))⟩
def Qb7 (fuel:Nat) (s1:(List Qi)) (s2:(List Qi)):Option Bool :=
  (if ((s1.length:Int) != (s2.length:Int)) then some false else Qhk (fun k5 (x4:Int)=>(if (x4 < (s1.length:Int)) then ((getO s1 x4).bind fun x7=>((getO s2 x4).bind fun x9=>(if ((x7.From == x9.From) && ((x7.Event == x9.Event) && ((x7.To == x9.To) && true))) then k5 (IntKind.wrap .i64 (x4 + 1)) else some false))) else some true)) fuel 0)
def Qfl (P:Program) (c:Nat) (f:Option Bool):Prop:=∀ r,f = some r→∀ M nb,ACalls P c [] M nb (b_ r) M nb
def Qqb:List COp:=[oo 0 .mov [.c (.d (.bool false))]]
def Qqc:List COp:=[oo 10 (.bslice 1 2 [.d (.int .i64 0)] [0,1]) [cI 3,cI 1],oo 11 (.call 18) [.t 10],oM 9 11,oo 12 (.extract 0) [.t 9],oo 13 (.extract 1) [.t 9],oo 1 (.alloc [.nils 1,.d (.int .i64 0),.nils 1,.nils 3]) [],⟨none,.store 4,[.t 1,.t 12],true,none⟩,oM 2 13]
def Qqd:List COp:=[oo 15 (.bslice 1 1 [.d (.int .i64 0)] [0]) [cI 0],oo 16 (.bslice 1 1 [.d (.int .i64 0)] [0]) [cI 1],oo 17 (.call 19) [.t 15,.t 16,cI 2],oM 14 17,oo 18 (.extract 0) [.t 14],oo 19 (.extract 1) [.t 14],oo 3 (.alloc [.nils 1,.d (.int .i64 0),.nils 1,.nils 3]) [],⟨none,.store 4,[.t 3,.t 18],true,none⟩,oM 4 19]
def Qqe:List COp:=[oo 21 (.build [.d (.int .i64 0),.d (.int .i64 0)] [(0,1),(1,1)]) [cI 0,cI 1],oo 22 (.build [.d (.int .i64 0),.d (.int .i64 0)] [(0,1),(1,1)]) [cI 2,cI 3],oo 23 (.bslice 2 2 [.d (.int .i64 0),.d (.int .i64 0)] [0,1]) [.t 21,.t 22],oo 24 (.call 20) [.t 23,cI 1],oM 20 24,oo 25 (.extract 0) [.t 20],oo 26 (.extract 1) [.t 20],oo 5 (.alloc [.nils 1,.d (.int .i64 0),.nils 1,.nils 3]) [],⟨none,.store 4,[.t 5,.t 25],true,none⟩,oM 6 26]
def Qqf:List COp:=[oo 28 (.load true 4) [.t 5],oo 29 (.call 16) [.t 28,cI 1],oM 27 29,ot 30 (.extract 0) [.t 27],oo 31 (.extract 1) [.t 27],ot 7 .mov [.t 30],oM 8 31]
def Qqg:List COp:=[oM 32 2,oo 33 (.bin .eql false) [.t 32,cI 0],oM 34 33,⟨some 35,.mov,[.t 4],false,some (34,true)⟩,⟨some 36,.bin .eql false,[.t 35,cI 0],false,some (34,true)⟩,oo 37 .pick [.t 34,.t 36,.c (.d (.bool false))],oM 38 37,⟨some 39,.mov,[.t 6],false,some (38,true)⟩,⟨some 40,.bin .eql false,[.t 39,cI 0],false,some (38,true)⟩,oo 41 .pick [.t 38,.t 40,.c (.d (.bool false))],oM 42 41,⟨some 43,.mov,[.t 8],false,some (42,true)⟩,⟨some 44,.bin .eql false,[.t 43,cI 0],false,some (42,true)⟩,oo 45 .pick [.t 42,.t 44,.c (.d (.bool false))],oM 46 45,⟨some 47,.fld 0,[.t 1],false,some (46,true)⟩,⟨some 48,.load false 1,[.t 47],false,some (46,true)⟩,⟨some 49,.bslice 1 2 [.d (.int .i64 0)] [0,1],[cI 1,cI 3],false,some (46,true)⟩,⟨some 50,.call 21,[.t 48,.t 49],false,some (46,true)⟩,oo 51 .pick [.t 46,.t 50,.c (.d (.bool false))],oM 52 51,⟨some 53,.fld 3,[.t 1],false,some (52,true)⟩,⟨some 54,.load false 1,[.t 53],false,some (52,true)⟩,⟨some 55,.build [.d (.int .i64 0),.d (.int .i64 0),.d (.int .i64 0)] [(0,1),(1,1),(2,1)],[cI 0,cI 3,cI 1],false,some (52,true)⟩,⟨some 56,.build [.d (.int .i64 0),.d (.int .i64 0),.d (.int .i64 0)] [(0,1),(1,1),(2,1)],[cI 1,cI 1,cI 0],false,some (52,true)⟩,⟨some 57,.bslice 3 2 [.d (.int .i64 0),.d (.int .i64 0),.d (.int .i64 0)] [0,1],[.t 55,.t 56],false,some (52,true)⟩,⟨some 58,.call 22,[.t 54,.t 57],false,some (52,true)⟩,oo 59 .pick [.t 52,.t 58,.c (.d (.bool false))],oM 60 59,⟨some 61,.fld 1,[.t 3],false,some (60,true)⟩,⟨some 62,.load false 1,[.t 61],false,some (60,true)⟩,⟨some 63,.bin .eql false,[.t 62,cI 3],false,some (60,true)⟩,oo 64 .pick [.t 60,.t 63,.c (.d (.bool false))],oM 65 64,⟨some 66,.fld 1,[.t 5],false,some (65,true)⟩,⟨some 67,.load false 1,[.t 66],false,some (65,true)⟩,⟨some 68,.bin .eql false,[.t 67,cI 3],false,some (65,true)⟩,oo 69 .pick [.t 65,.t 68,.c (.d (.bool false))],oM 70 69,⟨some 71,.mov,[.t 7],false,some (70,true)⟩,⟨some 72,.bslice 1 3 [.d (.int .i64 0)] [0,1,2],[cI 0,cI 2,cI 3],false,some (70,true)⟩,⟨some 73,.call 21,[.t 71,.t 72],false,some (70,true)⟩,oo 74 .pick [.t 70,.t 73,.c (.d (.bool false))],oM 0 74]
def Qfm:CFn:=⟨0,75,[.t 0],.seq (.region Qqb 9 []) (.seq (.region Qqc 9 []) (.seq (.region Qqd 9 []) (.seq (.region Qqe 9 []) (.seq (.region Qqf 9 []) (.seq (.region Qqg 9 []) (.ret))))))⟩
def Qbc (Qr:Qb→Int→Option ((List Int)×Int)) (Qbb:(List Int)→Option (Qb×Int)) (Qbw:(List Int)→(List Int)→Int→Option (Qb×Int)) (Qbx:(List Qp)→Int→Option (Qb×Int)) (Qb1:(List Int)→(List Int)→Option Bool) (Qb7:(List Qi)→(List Qi)→Option Bool):Option Bool :=
  ((Qbb [3,1]).bind fun (r2,r3)=>((Qbw [0] [1] 2).bind fun (r5,r6)=>((Qbx [(Qp.mk 0 1),(Qp.mk 2 3)] 1).bind fun (r8,r9)=>((Qr r8 1).bind fun (r11,r12)=>(((if (r3 == 0) then (if (r6 == 0) then (if (r9 == 0) then (if (r12 == 0) then ((Qb1 r2.Alphabet [1,3]).bind fun x18=>(if x18 then ((Qb7 r2.Edges [(Qi.mk 0 3 1),(Qi.mk 1 1 0)]).bind fun x21=>(if x21 then (if (r5.States == 3) then (if (r8.States == 3) then ((Qb1 r11 [0,2,3]).bind fun x26=>some x26) else some false) else some false) else some false)) else some false)) else some false) else some false) else some false) else some false)).bind fun (x27:Bool)=>some x27)))))
def Qg7 (P:Program) (c:Nat) (f:Qb→Option Bool):Prop:=∀ a1 r,f a1 = some r→∀ M nb,ACalls P c [(Qa a1)] M nb (b_ r) M nb
def Qvo:List COp:=[oo 1 (.box 4) [.t 0],oo 2 .mov [.c (.d (.bool false))]]
def Qvp:List COp:=[oF 3 1 1,oL 4 3,oo 5 (.bin .leq false) [.t 4,cI 8],oM 6 5,⟨some 7,.fld 0,[.t 1],false,some (6,true)⟩,⟨some 8,.load false 1,[.t 7],false,some (6,true)⟩,⟨some 9,.len,[.t 8],false,some (6,true)⟩,⟨some 10,.bin .leq false,[.t 9,cI 40],false,some (6,true)⟩,oo 11 .pick [.t 6,.t 10,.c (.d (.bool false))],oM 12 11,⟨some 13,.fld 2,[.t 1],false,some (12,true)⟩,⟨some 14,.load false 1,[.t 13],false,some (12,true)⟩,⟨some 15,.len,[.t 14],false,some (12,true)⟩,⟨some 16,.bin .leq false,[.t 15,cI 40],false,some (12,true)⟩,oo 17 .pick [.t 12,.t 16,.c (.d (.bool false))],oM 18 17,⟨some 19,.fld 3,[.t 1],false,some (18,true)⟩,⟨some 20,.load false 1,[.t 19],false,some (18,true)⟩,⟨some 21,.len,[.t 20],false,some (18,true)⟩,⟨some 22,.bin .leq false,[.t 21,cI 40],false,some (18,true)⟩,oo 23 .pick [.t 18,.t 22,.c (.d (.bool false))],oM 2 23]
def Qg8:CFn:=⟨1,24,[.t 2],.seq (.region Qvo 9 []) (.seq (.region Qvp 9 []) (.ret))⟩
def Qbq (a1:Qb):Option Bool :=
  (if (a1.States≤8) then (if ((a1.Alphabet.length:Int)≤40) then (if ((a1.Marked.length:Int)≤40) then some (decide ((a1.Edges.length:Int)≤40)) else some false) else some false) else some false)
def Qfn (P:Program) (c:Nat) (f:(List Int)→Int→Option Int):Prop:=∀ l1 n2 r,f l1 n2 = some r→∀ M nb,ACalls P c [(l_ l1),(i_ n2)] M nb (i_ r) M nb
def Qqh:List COp:=[oo 4 .mov [cI 0]]
def Qqi:List COp:=[oM 7 0,oo 8 .len [.t 7],oo 9 .mov [cI 0]]
def Qqj:List COp:=[oo 10 (.bin .lss false) [.t 9,.t 8]]
def Qqk:List COp:=[oM 11 9,oo 12 (.idx 1) [.t 7,.t 9],oL 13 12,oM 5 11,oM 6 13]
def Qql:List COp:=[oM 15 6,oo 16 (.bin .lss false) [.t 15,cI 0],oM 17 16,⟨some 18,.mov,[.t 6],false,some (17,false)⟩,⟨some 19,.mov,[.t 1],false,some (17,false)⟩,⟨some 20,.bin .geq false,[.t 18,.t 19],false,some (17,false)⟩,oo 21 .pick [.t 17,.c (.d (.bool true)),.t 20],oM 14 21]
def Qqm:List COp:=[oo 4 .mov [cI 2]]
def Qqn:List COp:=[oM 23 5,oo 24 (.bin .gtr false) [.t 23,cI 0],oM 25 24,⟨some 26,.mov,[.t 6],false,some (25,true)⟩,⟨some 27,.mov,[.t 0],false,some (25,true)⟩,⟨some 28,.mov,[.t 5],false,some (25,true)⟩,⟨some 29,.bin .sub false,[.t 28,cI 1],false,some (25,true)⟩,⟨some 30,.idx 1,[.t 27,.t 29],false,some (25,true)⟩,⟨some 31,.load false 1,[.t 30],false,some (25,true)⟩,⟨some 32,.bin .leq false,[.t 26,.t 31],false,some (25,true)⟩,oo 33 .pick [.t 25,.t 32,.c (.d (.bool false))],oM 22 33]
def Qqo:List COp:=[oo 4 .mov [cI 5]]
def Qqp:List COp:=[oo 34 (.bin .add false) [.t 9,cI 1],oM 9 34]
def Qqq:List COp:=[oo 4 .mov [cI 0]]
def Qfo:CFn:=⟨2,35,[.t 4],.seq (.region Qqh 9 []) (.seq (.seq (.region Qqi 9 []) (.block 0 (.loop [] (.seq (.region Qqj 9 []) (.seq (.cond (.t 10) (.skip) (.exit 0)) (.seq (.block 1 (.seq (.region Qqk 9 []) (.block 2 (.seq (.region Qql 9 []) (.cond (.t 14) (.seq (.region Qqm 9 []) (.ret)) (.seq (.region Qqn 9 []) (.cond (.t 22) (.seq (.region Qqo 9 []) (.ret)) (.skip)))))))) (.region Qqp 9 []))))))) (.seq (.region Qqq 9 []) (.ret)))⟩
def Qbn (fuel:Nat) (l1:(List Int)) (n2:Int):Option Int :=
  Qhk (fun k4 (x3:Int)=>(if (x3 < (l1.length:Int)) then ((getO l1 x3).bind fun x6=>(((if (x6 < 0) then some true else some (decide (x6≥n2)))).bind fun (x9:Bool)=>(if x9 then some 2 else (((if (x3 > 0) then ((getO l1 (IntKind.wrap .i64 (x3 - 1))).bind fun x12=>some (decide (x6≤x12))) else some false)).bind fun (x14:Bool)=>(if x14 then some 5 else k4 (IntKind.wrap .i64 (x3 + 1))))))) else some 0)) fuel 0
def Qh5 (P:Program) (c:Nat) (f:Qb→(List Int)→Option Int):Prop:=∀ a1 events2 r,f a1 events2 = some r→∀ M nb,ACalls P c [(Qa a1),(l_ events2)] M nb (i_ r) M nb
def Qyr:List COp:=[oo 2 (.box 4) [.t 0],oo 4 .mov [cI 0]]
def Qys:List COp:=[oo 6 (.load true 4) [.t 2],oo 7 (.call 13) [.t 6],oM 5 7]
def Qyt:List COp:=[oM 8 5,oo 9 (.bin .neq false) [.t 8,cI 0]]
def Qyu:List COp:=[oM 10 5,oM 4 10]
def Qyv:List COp:=[oM 11 1,oo 12 (.call 81) [.t 11,cI 32],oM 4 12]
def Qh6:CFn:=⟨2,13,[.t 4],.seq (.region Qyr 9 []) (.seq (.seq (.region Qys 9 []) (.seq (.region Qyt 9 []) (.cond (.t 9) (.seq (.region Qyu 9 []) (.ret)) (.skip)))) (.seq (.region Qyv 9 []) (.ret)))⟩
def Qb2 (Qf:Qb→Option Int) (Qbn:(List Int)→Int→Option Int) (a1:Qb) (events2:(List Int)):Option Int :=
  ((Qf a1).bind fun x4=>(if (x4 != 0) then some x4 else ((Qbn events2 32).bind fun x7=>some x7)))
def Qg9 (P:Program) (c:Nat) (f:(List Qi)→Option ((List Qi))):Prop:=∀ s1 r,f s1 = some r→∀ M nb,ACalls P c [.d (.lst 3 (List.map Qe s1))] M nb (.own 3 (List.map Qe r)) M nb
def Qvq:List COp:=[ot 2 .mov [.c (.nils 3)]]
def Qvr:List COp:=[oM 3 0,oo 4 (.isnil false) [.t 3]]
def Qvs:List COp:=[ot 2 .mov [.c (.nils 3)]]
def Qvt:List COp:=[oo 5 (.bslice 3 0 [.d (.int .i64 0),.d (.int .i64 0),.d (.int .i64 0)] []) [],oM 6 0,ot 7 (.append 3 24) [.t 5,.t 6],ot 2 .mov [.t 7]]
def Qha:CFn:=⟨1,8,[.t 2],.seq (.region Qvq 9 []) (.seq (.seq (.region Qvr 9 []) (.cond (.t 4) (.seq (.region Qvs 9 []) (.ret)) (.skip))) (.seq (.region Qvt 9 []) (.ret)))⟩
def Qb8 (s1:(List Qi)):Option ((List Qi)) :=
  (nilO s1 fun b2=>(if b2 then some [] else ((appO [] s1).bind fun x4=>some x4)))
def Qf7 (P:Program) (c:Nat) (f:Qb→(List Int)→Option (Qb×Int)):Prop:=∀ a1 alphabet2 r,f a1 alphabet2 = some r→∀ M nb,ACalls P c [(Qa a1),(l_ alphabet2)] M nb (.tup [.agg [.nils 1,(i_ r.1.States),.nils 1,.nils 3],(i_ r.2)]) M nb
def Qs8:List COp:=[oo 2 (.box 4) [.t 0],oo 4 (.alloc [.nils 1,.d (.int .i64 0),.nils 1,.nils 3]) [],oo 5 .mov [cI 0]]
def Qs9:List COp:=[oo 11 (.load true 4) [.t 2],oM 12 1,oo 13 (.call 56) [.t 11,.t 12],oM 6 13]
def Qta:List COp:=[oM 14 6,oo 15 (.bin .neq false) [.t 14,cI 0]]
def Qtb:List COp:=[oo 16 (.build [.nils 1,.d (.int .i64 0),.nils 1,.nils 3] []) [],oM 17 6,⟨none,.store 4,[.t 4,.t 16],true,none⟩,oM 5 17]
def Qtc:List COp:=[oF 18 1 2,oL 19 18,oF 20 2 2,oL 21 20,oF 22 3 2,oL 23 22,oo 24 (.call 57) [.t 23],ot 25 (.build [.nils 1,.d (.int .i64 0),.nils 1,.nils 3] [(1,1),(2,1),(3,1)]) [.t 19,.t 21,.t 24],oo 7 (.alloc [.nils 1,.d (.int .i64 0),.nils 1,.nils 3]) [],⟨none,.store 4,[.t 7,.t 25],true,none⟩]
def Qtd:List COp:=[oF 26 0 2,oL 27 26,oM 28 1,oo 29 (.bslice 1 2 [.nils 1] [0,1]) [.t 27,.t 28],oo 30 (.call 58) [.t 29],oF 31 0 7,⟨none,.store 1,[.t 31,.t 30],true,none⟩]
def Qte:List COp:=[oF 32 0 7,oL 33 32,oo 34 (.call 59) [.t 33]]
def Qtf:List COp:=[oF 35 0 7,oL 36 35,oo 37 (.call 60) [.t 36],oF 38 0 7,⟨none,.store 1,[.t 38,.t 37],true,none⟩]
def Qtg:List COp:=[oF 39 1 2,oL 40 39,oo 41 .mov [cI 0]]
def Qth:List COp:=[oo 42 (.bin .lss false) [.t 41,.t 40]]
def Qqr:List COp:=[oM 43 41,oM 8 43]
def Qqs:List COp:=[oF 44 0 7,oL 45 44,oo 46 .len [.t 45],oo 47 .mov [cI 0]]
def Qqt:List COp:=[oo 48 (.bin .lss false) [.t 47,.t 46]]
def Qqu:List COp:=[oo 49 (.idx 1) [.t 45,.t 47],oL 50 49,oM 10 50]
def Qqv:List COp:=[oF 51 0 2,oL 52 51,oM 53 10,oo 54 (.call 55) [.t 52,.t 53],oo 55 (.un .not) [.t 54]]
def Qqw:List COp:=[oF 56 3 7,oo 57 .loadT [.t 56],oM 58 8,oM 59 10,oM 60 8,oo 61 (.build [.d (.int .i64 0),.d (.int .i64 0),.d (.int .i64 0)] [(0,1),(1,1),(2,1)]) [.t 58,.t 59,.t 60],oo 62 (.bslice 3 1 [.d (.int .i64 0),.d (.int .i64 0),.d (.int .i64 0)] [0]) [.t 61],ot 63 (.append 3 24) [.t 57,.t 62],oF 64 3 7,⟨none,.store 1,[.t 64,.t 63],true,none⟩]
def Qqx:List COp:=[oo 65 (.bin .add false) [.t 47,cI 1],oM 47 65]
def Qqy:List COp:=[oo 66 (.bin .add false) [.t 41,cI 1],oM 41 66]
def Qqz:List COp:=[oF 67 3 7,oL 68 67,oo 69 (.call 61) [.t 68,.c (.clo 62 [])]]
def Qq0:List COp:=[oo 70 (.load true 4) [.t 7],oo 71 (.call 63) [.t 70],oo 72 (.extract 0) [.t 71],oo 73 (.extract 1) [.t 71],⟨none,.store 4,[.t 4,.t 72],true,none⟩,oM 5 73]
def Qf8:CFn:=⟨2,74,[.cell 4 true 4,.t 5],.seq (.region Qs8 9 []) (.seq (.seq (.region Qs9 9 []) (.seq (.region Qta 9 []) (.cond (.t 15) (.seq (.region Qtb 9 []) (.ret)) (.skip)))) (.seq (.region Qtc 1 []) (.seq (.region Qtd 9 []) (.seq (.region Qte 9 []) (.seq (.region Qtf 9 []) (.seq (.seq (.region Qtg 9 []) (.block 0 (.loop [62] (.seq (.region Qth 9 []) (.seq (.cond (.t 42) (.skip) (.exit 0)) (.seq (.block 1 (.seq (.region Qqr 9 []) (.seq (.region Qqs 9 []) (.block 2 (.loop [62] (.seq (.region Qqt 9 []) (.seq (.cond (.t 48) (.skip) (.exit 2)) (.seq (.block 3 (.seq (.region Qqu 9 []) (.seq (.region Qqv 9 []) (.cond (.t 55) (.region Qqw 9 []) (.skip))))) (.region Qqx 9 []))))))))) (.region Qqy 9 []))))))) (.seq (.region Qqz 9 []) (.seq (.region Qq0 9 []) (.ret)))))))))⟩
def Qbi (Qb2:Qb→(List Int)→Option Int) (Qb8:(List Qi)→Option ((List Qi))) (a1:Qb) (alphabet2:(List Int)):Option (Qb×Int) :=
  ((Qb2 a1 alphabet2).bind fun x4=>(if (x4 != 0) then some ((Qb.mk [] 0 [] []),x4) else ((Qb8 a1.Edges).bind fun x7=>none)))
def Qhb (P:Program) (c:Nat) (f:Qb→(List Int)→Option (Qb×Int)):Prop:=∀ a1 events2 r,f a1 events2 = some r→∀ M nb,ACalls P c [(Qa a1),(l_ events2)] M nb (.tup [.agg [.nils 1,(i_ r.1.States),.nils 1,.nils 3],(i_ r.2)]) M nb
def Qvu:List COp:=[oo 2 (.box 4) [.t 0],oo 4 (.alloc [.nils 1,.d (.int .i64 0),.nils 1,.nils 3]) [],oo 5 .mov [cI 0]]
def Qvv:List COp:=[oo 6 (.load true 4) [.t 2],oM 7 1,oo 8 (.call 28) [.t 6,.t 7],oo 9 (.extract 0) [.t 8],oo 10 (.extract 1) [.t 8],⟨none,.store 4,[.t 4,.t 9],true,none⟩,oM 5 10]
def Qhc:CFn:=⟨2,11,[.cell 4 true 4,.t 5],.seq (.region Qvu 9 []) (.seq (.region Qvv 9 []) (.ret))⟩
def Qbr (Qbi:Qb→(List Int)→Option (Qb×Int)) (a1:Qb) (events2:(List Int)):Option (Qb×Int) :=
  ((Qbi a1 events2).bind fun (r4,r5)=>some ((Qb.mk [] r4.States [] []),r5))
def Qk1 (P:Program) (c:Nat) (f:(List Qb)→Option Int):Prop:=∀ l1 r,f l1 = some r→∀ M nb,ACalls P c [.d (.lst 4 (List.map Q1 l1))] M nb (i_ r) M nb
def Q37:List COp:=[oo 2 .mov [cI 0]]
def Q38:List COp:=[oM 6 0,oo 7 .len [.t 6],oo 8 (.bin .gtr false) [.t 7,cI 12]]
def Q39:List COp:=[oo 2 .mov [cI 3]]
def Q4a:List COp:=[oM 9 0,oo 10 .len [.t 9],oo 11 .mov [cI 0]]
def Q4b:List COp:=[oo 12 (.bin .lss false) [.t 11,.t 10]]
def Q4c:List COp:=[oo 13 (.idx 4) [.t 9,.t 11],oo 14 (.load true 4) [.t 13],oo 4 (.alloc [.nils 1,.d (.int .i64 0),.nils 1,.nils 3]) [],⟨none,.store 4,[.t 4,.t 14],true,none⟩]
def Q4d:List COp:=[oo 15 (.load true 4) [.t 4],oo 16 (.call 13) [.t 15],oM 5 16]
def Q4e:List COp:=[oM 17 5,oo 18 (.bin .neq false) [.t 17,cI 0]]
def Q4f:List COp:=[oM 19 5,oM 2 19]
def Q4g:List COp:=[oo 20 (.bin .add false) [.t 11,cI 1],oM 11 20]
def Q2u:List COp:=[oo 2 .mov [cI 0]]
def Qk2:CFn:=⟨1,21,[.t 2],.seq (.region Q37 9 []) (.seq (.seq (.region Q38 9 []) (.cond (.t 8) (.seq (.region Q39 9 []) (.ret)) (.skip))) (.seq (.seq (.region Q4a 9 []) (.block 0 (.loop [4] (.seq (.region Q4b 9 []) (.seq (.cond (.t 12) (.skip) (.exit 0)) (.seq (.block 1 (.seq (.region Q4c 9 []) (.seq (.region Q4d 9 []) (.seq (.region Q4e 9 []) (.cond (.t 18) (.seq (.region Q4f 9 []) (.ret)) (.skip)))))) (.region Q4g 9 []))))))) (.seq (.region Q2u 9 []) (.ret))))⟩
def Qcz (Qf:Qb→Option Int) (fuel:Nat) (l1:(List Qb)):Option Int :=
  (if ((l1.length:Int) > 12) then some 3 else Qhk (fun k4 (x3:Int)=>(if (x3 < (l1.length:Int)) then ((getO l1 x3).bind fun x6=>((Qf x6).bind fun x9=>(if (x9 != 0) then some x9 else k4 (IntKind.wrap .i64 (x3 + 1))))) else some 0)) fuel 0)
def Qfp (P:Program) (c:Nat) (f:(List Qb)→Option (Qb×(List (List Int))×Int)):Prop:=∀ l1 r,f l1 = some r→∀ M nb,ACalls P c [.d (.lst 4 (List.map Q1 l1))] M nb (.tup [.agg [.nils 1,(i_ r.1.States),.nils 1,.nils 3],.nils 1,(i_ r.2.2)]) M nb
def Qq1:List COp:=[oo 2 (.alloc [.nils 1,.d (.int .i64 0),.nils 1,.nils 3]) [],ot 3 .mov [.c (.nils 1)],oo 4 .mov [cI 0]]
def Qq2:List COp:=[oM 17 0,oo 18 (.call 49) [.t 17],oM 5 18]
def Qq3:List COp:=[oM 19 5,oo 20 (.bin .neq false) [.t 19,cI 0]]
def Qq4:List COp:=[oo 21 (.build [.nils 1,.d (.int .i64 0),.nils 1,.nils 3] []) [],oM 22 5,⟨none,.store 4,[.t 2,.t 21],true,none⟩,ot 3 .mov [.c (.nils 1)],oM 4 22]
def Qq5:List COp:=[oM 23 0,oo 24 (.call 50) [.t 23],oo 6 (.alloc [.nils 4,.nils 1,.nils 1]) [],⟨none,.store 3,[.t 6,.t 24],true,none⟩]
def Qq6:List COp:=[oF 25 1 6,oL 26 25,oF 27 0 2,⟨none,.store 1,[.t 27,.t 26],true,none⟩]
def Qq7:List COp:=[oo 29 (.load true 3) [.t 6],oo 30 (.call 51) [.t 29],oM 28 30,ot 31 (.extract 0) [.t 28],oo 32 (.extract 1) [.t 28],ot 7 .mov [.t 31],oM 8 32]
def Qq8:List COp:=[oM 33 8,oo 34 (.un .not) [.t 33]]
def Qq9:List COp:=[oo 35 (.load true 4) [.t 2],⟨none,.store 4,[.t 2,.t 35],true,none⟩,ot 3 .mov [.c (.nils 1)],oo 4 .mov [cI 0]]
def Qra:List COp:=[oM 36 7,oo 37 (.bslice 1 1 [.nils 1] [0]) [.t 36],ot 3 .mov [.t 37]]
def Qob:List COp:=[oo 38 .mkmap [],oM 39 7,oo 40 (.call 52) [.t 39],⟨none,.mapset .str,[.t 38,.t 40,cI 0],false,none⟩,oM 41 38,oM 9 41]
def Qoc:List COp:=[oo 10 .mov [cI 0]]
def Qod:List COp:=[oM 42 10,oM 43 3,oo 44 .len [.t 43],oo 45 (.bin .lss false) [.t 42,.t 44]]
def Qoe:List COp:=[oo 48 (.load true 3) [.t 6],oM 49 3,oM 50 10,oo 51 (.idx 1) [.t 49,.t 50],oL 52 51,oo 53 (.call 53) [.t 48,.t 52]]
def Qof:List COp:=[oF 54 2 2,oo 55 .loadT [.t 54],oM 56 10,oo 57 (.bslice 1 1 [.d (.int .i64 0)] [0]) [.t 56],ot 58 (.append 1 8) [.t 55,.t 57],oF 59 2 2,⟨none,.store 1,[.t 59,.t 58],true,none⟩]
def Qog:List COp:=[oF 60 1 6,oL 61 60,oo 62 .len [.t 61],oo 63 .mov [cI 0]]
def Qoh:List COp:=[oo 64 (.bin .lss false) [.t 63,.t 62]]
def Qoi:List COp:=[oo 65 (.idx 1) [.t 61,.t 63],oL 66 65,oM 12 66]
def Qoj:List COp:=[oo 68 (.load true 3) [.t 6],oM 69 3,oM 70 10,oo 71 (.idx 1) [.t 69,.t 70],oL 72 71,oM 73 12,oo 74 (.call 54) [.t 68,.t 72,.t 73],oM 67 74,ot 75 (.extract 0) [.t 67],oo 76 (.extract 1) [.t 67],ot 13 .mov [.t 75],oM 14 76]
def Qok:List COp:=[oM 77 14,oo 78 (.un .not) [.t 77]]
def Qol:List COp:=[oM 80 9,oM 81 13,oo 82 (.call 52) [.t 81],oo 83 (.lookup .str true (.d (.int .i64 0))) [.t 80,.t 82],oM 79 83,oo 84 (.extract 0) [.t 79],oo 85 (.extract 1) [.t 79],oM 15 84,oM 16 85]
def Qom:List COp:=[oM 86 16,oo 87 (.un .not) [.t 86]]
def Qon:List COp:=[oM 88 3,oo 89 .len [.t 88],oo 90 (.bin .eql false) [.t 89,cI 4096]]
def Qoo:List COp:=[oo 91 (.build [.nils 1,.d (.int .i64 0),.nils 1,.nils 3] []) [],⟨none,.store 4,[.t 2,.t 91],true,none⟩,ot 3 .mov [.c (.nils 1)],oo 4 .mov [cI 3]]
def Qop:List COp:=[oM 92 3,oo 93 .len [.t 92],oM 15 93]
def Qoq:List COp:=[oM 94 9,oM 95 13,oo 96 (.call 52) [.t 95],oM 97 15,⟨none,.mapset .str,[.t 94,.t 96,.t 97],false,none⟩]
def Qor:List COp:=[ot 98 .mov [.t 3],oM 99 13,oo 100 (.bslice 1 1 [.nils 1] [0]) [.t 99],ot 101 (.append 1 24) [.t 98,.t 100],ot 3 .mov [.t 101]]
def Qos:List COp:=[oF 102 3 2,oo 103 .loadT [.t 102],oM 104 10,oM 105 12,oM 106 15,oo 107 (.build [.d (.int .i64 0),.d (.int .i64 0),.d (.int .i64 0)] [(0,1),(1,1),(2,1)]) [.t 104,.t 105,.t 106],oo 108 (.bslice 3 1 [.d (.int .i64 0),.d (.int .i64 0),.d (.int .i64 0)] [0]) [.t 107],ot 109 (.append 3 24) [.t 103,.t 108],oF 110 3 2,⟨none,.store 1,[.t 110,.t 109],true,none⟩]
def Qot:List COp:=[oo 111 (.bin .add false) [.t 63,cI 1],oM 63 111]
def Qou:List COp:=[oM 46 10,oo 47 (.bin .add false) [.t 46,cI 1],oM 10 47]
def Qov:List COp:=[oM 112 3,oo 113 .len [.t 112],oF 114 1 2,⟨none,.store 1,[.t 114,.t 113],false,none⟩]
def Qow:List COp:=[oo 115 (.load true 4) [.t 2],ot 116 .mov [.t 3],⟨none,.store 4,[.t 2,.t 115],true,none⟩,ot 3 .mov [.t 116],oo 4 .mov [cI 0]]
def Qfq:CFn:=⟨1,117,[.cell 2 true 4,.t 3,.t 4],.seq (.region Qq1 9 []) (.seq (.seq (.region Qq2 9 []) (.seq (.region Qq3 9 []) (.cond (.t 20) (.seq (.region Qq4 9 []) (.ret)) (.skip)))) (.seq (.region Qq5 9 []) (.seq (.region Qq6 9 []) (.seq (.region Qq7 9 []) (.seq (.seq (.region Qq8 9 []) (.cond (.t 34) (.seq (.region Qq9 9 []) (.ret)) (.skip))) (.seq (.region Qra 9 []) (.seq (.region Qob 9 []) (.seq (.seq (.region Qoc 9 []) (.block 0 (.loop [57,100,108] (.seq (.seq (.region Qod 9 []) (.cond (.t 45) (.skip) (.exit 0))) (.seq (.block 1 (.seq (.seq (.region Qoe 0 []) (.cond (.t 53) (.region Qof 9 []) (.skip))) (.seq (.region Qog 9 []) (.block 2 (.loop [100,108] (.seq (.region Qoh 9 []) (.seq (.cond (.t 64) (.skip) (.exit 2)) (.seq (.block 3 (.seq (.region Qoi 9 []) (.seq (.region Qoj 0 []) (.seq (.seq (.region Qok 9 []) (.cond (.t 78) (.exit 3) (.skip))) (.seq (.region Qol 9 []) (.seq (.seq (.region Qom 9 []) (.cond (.t 87) (.seq (.seq (.region Qon 9 []) (.cond (.t 90) (.seq (.region Qoo 9 []) (.ret)) (.skip))) (.seq (.region Qop 9 []) (.seq (.region Qoq 9 []) (.region Qor 9 [])))) (.skip))) (.region Qos 9 []))))))) (.region Qot 9 []))))))))) (.region Qou 9 [])))))) (.seq (.region Qov 9 []) (.seq (.region Qow 9 []) (.ret)))))))))))⟩
def Qbd (Qcz:(List Qb)→Option Int) (l1:(List Qb)):Option (Qb×(List (List Int))×Int) :=
  ((Qcz l1).bind fun x3=>(if (x3 != 0) then some ((Qb.mk [] 0 [] []),[],x3) else none))
def Qi8 (P:Program) (c:Nat) (f:(List Qb)→Option (Qb×Int)):Prop:=∀ l1 r,f l1 = some r→∀ M nb,ACalls P c [.d (.lst 4 (List.map Q1 l1))] M nb (.tup [.agg [.nils 1,(i_ r.1.States),.nils 1,.nils 3],(i_ r.2)]) M nb
def Q01:List COp:=[oo 2 (.alloc [.nils 1,.d (.int .i64 0),.nils 1,.nils 3]) [],oo 3 .mov [cI 0]]
def Q02:List COp:=[oM 8 0,oo 9 (.call 25) [.t 8],oM 7 9,oo 10 (.extract 0) [.t 7],ot 11 (.extract 1) [.t 7],oo 12 (.extract 2) [.t 7],oo 4 (.alloc [.nils 1,.d (.int .i64 0),.nils 1,.nils 3]) [],⟨none,.store 4,[.t 4,.t 10],true,none⟩,ot 5 .mov [.t 11],oM 6 12]
def Q03:List COp:=[oo 13 (.load true 4) [.t 4],oM 14 6,⟨none,.store 4,[.t 2,.t 13],true,none⟩,oM 3 14]
def Qi9:CFn:=⟨1,15,[.cell 2 true 4,.t 3],.seq (.region Q01 9 []) (.seq (.region Q02 9 []) (.seq (.region Q03 9 []) (.ret)))⟩
def Qcc (Qbd:(List Qb)→Option (Qb×(List (List Int))×Int)) (l1:(List Qb)):Option (Qb×Int) :=
  ((Qbd l1).bind fun (r3,r4,r5)=>some ((Qb.mk [] r3.States [] []),r5))
def Qd3 (P:Program) (c:Nat) (f:(List Qb)→Option (Qb×Int)):Prop:=∀ l1 r,f l1 = some r→∀ M nb,ACalls P c [.d (.lst 4 (List.map Q1 l1))] M nb (.tup [.agg [.nils 1,(i_ r.1.States),.nils 1,.nils 3],(i_ r.2)]) M nb
def Qk3:List COp:=[oo 2 (.alloc [.nils 1,.d (.int .i64 0),.nils 1,.nils 3]) [],oo 3 .mov [cI 0]]
def Qk4:List COp:=[oM 4 0,oo 5 (.call 10) [.t 4],oo 6 (.extract 0) [.t 5],oo 7 (.extract 1) [.t 5],⟨none,.store 4,[.t 2,.t 6],true,none⟩,oM 3 7]
def Qd4:CFn:=⟨1,8,[.cell 2 true 4,.t 3],.seq (.region Qk3 9 []) (.seq (.region Qk4 9 []) (.ret))⟩
def Q0 (Qcc:(List Qb)→Option (Qb×Int)) (l1:(List Qb)):Option (Qb×Int) :=
  ((Qcc l1).bind fun (r3,r4)=>some ((Qb.mk [] r3.States [] []),r4))
def Qe6 (P:Program) (c:Nat) (f:Qb→Option (Bool×Int)):Prop:=∀ a1 r,f a1 = some r→∀ M nb,ACalls P c [(Qa a1)] M nb (.tup [(b_ r.1),(i_ r.2)]) M nb
def Qox:List COp:=[oo 1 (.box 4) [.t 0],oo 2 .mov [.c (.d (.bool false))],oo 3 .mov [cI 0]]
def Qoy:List COp:=[oo 5 (.load true 4) [.t 1],oo 6 (.call 13) [.t 5],oM 4 6]
def Qoz:List COp:=[oM 7 4,oo 8 (.bin .neq false) [.t 7,cI 0]]
def Qo0:List COp:=[oM 9 4,oo 2 .mov [.c (.d (.bool false))],oM 3 9]
def Qo1:List COp:=[oF 10 2 1,oL 11 10,oo 12 .len [.t 11],oF 13 1 1,oL 14 13,oo 15 (.bin .eql false) [.t 12,.t 14],oM 2 15,oo 3 .mov [cI 0]]
def Qe7:CFn:=⟨1,16,[.t 2,.t 3],.seq (.region Qox 9 []) (.seq (.seq (.region Qoy 9 []) (.seq (.region Qoz 9 []) (.cond (.t 8) (.seq (.region Qo0 9 []) (.ret)) (.skip)))) (.seq (.region Qo1 9 []) (.ret)))⟩
def Q9 (Qf:Qb→Option Int) (a1:Qb):Option (Bool×Int) :=
  ((Qf a1).bind fun x3=>(if (x3 != 0) then some (false,x3) else some (((a1.Marked.length:Int) == a1.States),0)))
def Qh7 (P:Program) (c:Nat) (f:Qb→Option ((List Int)×Int)):Prop:=∀ a1 r,f a1 = some r→∀ M nb,ACalls P c [(Qa a1)] M nb (.tup [(o_ r.1),(i_ r.2)]) M nb
def Qyw:List COp:=[oo 1 (.box 4) [.t 0],ot 2 .mov [.c (.nils 1)],oo 3 .mov [cI 0]]
def Qyx:List COp:=[oo 11 (.load true 4) [.t 1],oo 12 (.call 13) [.t 11],oM 4 12]
def Qyy:List COp:=[oM 13 4,oo 14 (.bin .neq false) [.t 13,cI 0]]
def Qyz:List COp:=[oM 15 4,ot 2 .mov [.c (.nils 1)],oM 3 15]
def Qy0:List COp:=[oo 16 .mkmap [],oM 5 16]
def Qy1:List COp:=[oF 17 3 1,oL 18 17,oo 19 .len [.t 18],oo 20 .mov [cI 0]]
def Qy2:List COp:=[oo 21 (.bin .lss false) [.t 20,.t 19]]
def Qy3:List COp:=[oo 22 (.idx 3) [.t 18,.t 20],oo 23 (.load true 3) [.t 22],oo 7 (.alloc [.d (.int .i64 0),.d (.int .i64 0),.d (.int .i64 0)]) [],⟨none,.store 3,[.t 7,.t 23],false,none⟩]
def Qy4:List COp:=[oF 24 0 7,oL 25 24,oF 26 2 7,oL 27 26,oo 28 (.bin .eql false) [.t 25,.t 27]]
def Qy5:List COp:=[oM 29 5,oF 30 1 7,oL 31 30,oo 32 (.lookup (.int .i64) false (.d (.int .i64 0))) [.t 29,.t 31],oo 33 (.bin .add false) [.t 32,cI 1],⟨none,.mapset (.int .i64),[.t 29,.t 31,.t 33],false,none⟩]
def Qvw:List COp:=[oo 34 (.bin .add false) [.t 20,cI 1],oM 20 34]
def Qvx:List COp:=[ot 8 .mov [.c (.nils 1)]]
def Qvy:List COp:=[oF 35 0 1,oL 36 35,oo 37 .len [.t 36],oo 38 .mov [cI 0]]
def Qvz:List COp:=[oo 39 (.bin .lss false) [.t 38,.t 37]]
def Qv0:List COp:=[oo 40 (.idx 1) [.t 36,.t 38],oL 41 40,oM 10 41]
def Qv1:List COp:=[oM 42 5,oM 43 10,oo 44 (.lookup (.int .i64) false (.d (.int .i64 0))) [.t 42,.t 43],oF 45 1 1,oL 46 45,oo 47 (.bin .eql false) [.t 44,.t 46]]
def Qv2:List COp:=[ot 48 .mov [.t 8],oM 49 10,oo 50 (.bslice 1 1 [.d (.int .i64 0)] [0]) [.t 49],ot 51 (.append 1 8) [.t 48,.t 50],ot 8 .mov [.t 51]]
def Qv3:List COp:=[oo 52 (.bin .add false) [.t 38,cI 1],oM 38 52]
def Qv4:List COp:=[ot 53 .mov [.t 8],ot 2 .mov [.t 53],oo 3 .mov [cI 0]]
def Qh8:CFn:=⟨1,54,[.t 2,.t 3],.seq (.region Qyw 9 []) (.seq (.seq (.region Qyx 9 []) (.seq (.region Qyy 9 []) (.cond (.t 14) (.seq (.region Qyz 9 []) (.ret)) (.skip)))) (.seq (.region Qy0 9 []) (.seq (.seq (.region Qy1 9 []) (.block 0 (.loop [7] (.seq (.region Qy2 9 []) (.seq (.cond (.t 21) (.skip) (.exit 0)) (.seq (.block 1 (.seq (.region Qy3 9 []) (.seq (.region Qy4 9 []) (.cond (.t 28) (.region Qy5 9 []) (.skip))))) (.region Qvw 9 []))))))) (.seq (.region Qvx 9 []) (.seq (.seq (.region Qvy 9 []) (.block 2 (.loop [50] (.seq (.region Qvz 9 []) (.seq (.cond (.t 39) (.skip) (.exit 2)) (.seq (.block 3 (.seq (.region Qv0 9 []) (.seq (.region Qv1 9 []) (.cond (.t 47) (.region Qv2 9 []) (.skip))))) (.region Qv3 9 []))))))) (.seq (.region Qv4 9 []) (.ret)))))))⟩
def Qb3 (Qf:Qb→Option Int) (fuel:Nat) (a1:Qb):Option ((List Int)×Int) :=
  ((Qf a1).bind fun x3=>(if (x3 != 0) then some ([],x3) else ((Qhk (fun k7 ((x5,c6):Int×(List (Int×Int)))=>(if (x5 < (a1.Edges.length:Int)) then ((((getO a1.Edges x5).bind fun x9=>(if (x9.From == x9.To) then some ((setM c6 x9.Event (IntKind.wrap .i64 ((getM c6 x9.Event 0) + 1))),x9.From,x9.Event,x9.To) else some (c6,x9.From,x9.Event,x9.To)))).bind fun ((c12,y13,y14,y15):(List (Int×Int))×Int×Int×Int)=>k7 ((IntKind.wrap .i64 (x5 + 1)),c12)) else some c6)) fuel (0,[])).bind fun (c16:List (Int×Int))=>((Qhk (fun k19 ((out17,x18):(List Int)×Int)=>(if (x18 < (a1.Alphabet.length:Int)) then ((((getO a1.Alphabet x18).bind fun x21=>(if ((getM c16 x21 0) == a1.States) then ((appO out17 [x21]).bind fun x24=>some x24) else some out17))).bind fun (out26:List Int)=>k19 (out26,(IntKind.wrap .i64 (x18 + 1)))) else some out17)) fuel ([],0)).bind fun (out27:List Int)=>some (out27,0)))))
def Qh9 (P:Program) (c:Nat) (f:Qi→Int→Option Bool):Prop:=∀ x1 x2 (k3:Nat) r,f x1 x2 = some r→∀ M nb,(M k3 = some (.cells [(i_ x2)]))→ACalls P c [(Qcn x1),.ptr k3 0] M nb (b_ r) M nb
def Qy6:List COp:=[oo 2 (.box 3) [.t 0],oo 3 .mov [.c (.d (.bool false))]]
def Qy7:List COp:=[oF 4 1 2,oL 5 4,oL 6 1,oo 7 (.bin .eql false) [.t 5,.t 6],oM 3 7]
def Qia:CFn:=⟨2,8,[.t 3],.seq (.region Qy6 9 []) (.seq (.region Qy7 9 []) (.ret))⟩
def Qck (x1:Qi) (x2:Int):Option Bool :=
  some (x1.Event == x2)
def Qej (P:Program) (c:Nat) (f:(List Qi)→(Qi→Option Bool)→Option Int):Prop:=∀ s1 f2 (g3:Nat) (cp4:List V) r,f s1 f2 = some r→∀ M nb,(V.dems cp4 = cp4)→(V.ons (There M) cp4)→(∀ a8 r,f2 a8 = some r→∀ M2 nb2,nb≤nb2→Ext M M2→ACalls P g3 ([(Qcn a8)] ++ cp4) M2 nb2 (b_ r) M2 nb2)→ACalls P c [.d (.lst 3 (List.map Qe s1)),.clo g3 cp4] M nb (i_ r) M nb
def Qmc:List COp:=[oo 4 .mov [cI 0]]
def Qmd:List COp:=[oM 6 0,oo 7 .len [.t 6],oo 8 .mov [cI 0]]
def Qme:List COp:=[oo 9 (.bin .lss false) [.t 8,.t 7]]
def Qmf:List COp:=[oM 10 8,oM 5 10]
def Qmg:List COp:=[oM 11 1,oM 12 0,oM 13 5,oo 14 (.idx 3) [.t 12,.t 13],oo 15 (.load true 3) [.t 14],oo 16 .callv [.t 11,.t 15]]
def Qmh:List COp:=[oM 17 5,oM 4 17]
def Qmi:List COp:=[oo 18 (.bin .add false) [.t 8,cI 1],oM 8 18]
def Qmj:List COp:=[oo 4 .mov [cI (-1)]]
def Qek:CFn:=⟨2,19,[.t 4],.seq (.region Qmc 9 []) (.seq (.seq (.region Qmd 9 []) (.block 0 (.loop [] (.seq (.region Qme 9 []) (.seq (.cond (.t 9) (.skip) (.exit 0)) (.seq (.block 1 (.seq (.region Qmf 9 []) (.seq (.region Qmg 9 []) (.cond (.t 16) (.seq (.region Qmh 9 []) (.ret)) (.skip))))) (.region Qmi 9 []))))))) (.seq (.region Qmj 9 []) (.ret)))⟩
def Qbe (fuel:Nat) (s1:(List Qi)) (f2:(Qi→Option Bool)):Option Int :=
  Qhk (fun k10 (x9:Int)=>(if (x9 < (s1.length:Int)) then ((getO s1 x9).bind fun x12=>((f2 x12).bind fun x15=>(if x15 then some x9 else k10 (IntKind.wrap .i64 (x9 + 1))))) else some (-1))) fuel 0
def Qjw (P:Program) (c:Nat) (f:Qb→Int→Int→Option Int):Prop:=∀ a1 state2 event3 r,f a1 state2 event3 = some r→∀ M nb,ACalls P c [(Qa a1),(i_ state2),(i_ event3)] M nb (i_ r) M nb
def Q2v:List COp:=[oo 3 (.box 4) [.t 0],oo 5 (.box 1) [.t 2],oo 6 .mov [cI 0]]
def Q2w:List COp:=[oo 9 (.load true 4) [.t 3],oM 10 1,oo 11 (.call 65) [.t 9,.t 10],ot 7 .mov [.t 11]]
def Q2x:List COp:=[oM 12 7,oo 13 (.func 127) [.t 5],oo 14 (.call 126) [.t 12,.t 13],oM 8 14]
def Q2y:List COp:=[oM 15 8,oo 16 (.bin .lss false) [.t 15,cI 0]]
def Q2z:List COp:=[oo 6 .mov [cI (-1)]]
def Q20:List COp:=[oM 17 7,oM 18 8,oo 19 (.idx 3) [.t 17,.t 18],oF 20 2 19,oL 21 20,oM 6 21]
def Qjx:CFn:=⟨3,22,[.t 6],.seq (.region Q2v 9 []) (.seq (.region Q2w 9 []) (.seq (.region Q2x 9 []) (.seq (.seq (.region Q2y 9 []) (.cond (.t 16) (.seq (.region Q2z 9 []) (.ret)) (.skip))) (.seq (.region Q20 9 []) (.ret)))))⟩
def Qc4 (Qbl:Qb→Int→Option ((List Qi))) (Qbe:(List Qi)→(Qi→Option Bool)→Option Int) (Qck:Qi→Int→Option Bool) (a1:Qb) (state2:Int) (event3:Int):Option Int :=
  ((Qbl a1 state2).bind fun x5=>((Qbe x5 (fun a6=>Qck a6 event3)).bind fun x10=>(if (x10 < 0) then some (-1) else ((getO x5 x10).bind fun x12=>some x12.To))))
def Qib (P:Program) (c:Nat) (f:Qb→Int→(List Int)→Option (Int×Int)):Prop:=∀ a1 state2 word3 r,f a1 state2 word3 = some r→∀ M nb,ACalls P c [(Qa a1),(i_ state2),(l_ word3)] M nb (.tup [(i_ r.1),(i_ r.2)]) M nb
def Qy8:List COp:=[oo 3 (.box 4) [.t 0],oo 6 .mov [cI 0],oo 7 .mov [cI 0]]
def Qy9:List COp:=[oM 11 2,oo 12 .len [.t 11],oo 13 .mov [cI 0]]
def Qza:List COp:=[oo 14 (.bin .lss false) [.t 13,.t 12]]
def Qzb:List COp:=[oM 15 13,oo 16 (.idx 1) [.t 11,.t 13],oL 17 16,oM 8 15,oM 9 17]
def Qzc:List COp:=[oo 18 (.load true 4) [.t 3],oM 19 1,oM 20 9,oo 21 (.call 115) [.t 18,.t 19,.t 20],oM 10 21]
def Qzd:List COp:=[oM 22 10,oo 23 (.bin .lss false) [.t 22,cI 0]]
def Qze:List COp:=[oM 24 1,oM 25 8,oM 6 24,oM 7 25]
def Qzf:List COp:=[oM 26 10,oM 1 26]
def Qzg:List COp:=[oo 27 (.bin .add false) [.t 13,cI 1],oM 13 27]
def Qzh:List COp:=[oM 28 1,oM 29 2,oo 30 .len [.t 29],oM 6 28,oM 7 30]
def Qic:CFn:=⟨3,31,[.t 6,.t 7],.seq (.region Qy8 9 []) (.seq (.seq (.region Qy9 9 []) (.block 0 (.loop [] (.seq (.region Qza 9 []) (.seq (.cond (.t 14) (.skip) (.exit 0)) (.seq (.block 1 (.seq (.region Qzb 9 []) (.seq (.region Qzc 9 []) (.seq (.seq (.region Qzd 9 []) (.cond (.t 23) (.seq (.region Qze 9 []) (.ret)) (.skip))) (.region Qzf 9 []))))) (.region Qzg 9 []))))))) (.seq (.region Qzh 9 []) (.ret)))⟩
def Qcl (Qc4:Qb→Int→Int→Option Int) (fuel:Nat) (a1:Qb) (state2:Int) (word3:(List Int)):Option (Int×Int) :=
  Qhk (fun k6 ((state4,x5):Int×Int)=>(if (x5 < (word3.length:Int)) then ((getO word3 x5).bind fun x8=>((Qc4 a1 state4 x8).bind fun x11=>(if (x11 < 0) then some (state4,x5) else k6 (x11,(IntKind.wrap .i64 (x5 + 1)))))) else some (state4,(word3.length:Int)))) fuel (state2,0)
def Qhd (P:Program) (c:Nat) (f:Qb→(List Int)→Option (Int×Bool)):Prop:=∀ a1 word2 r,f a1 word2 = some r→∀ M nb,ACalls P c [(Qa a1),(l_ word2)] M nb (.tup [(i_ r.1),(b_ r.2)]) M nb
def Qv5:List COp:=[oo 2 (.box 4) [.t 0],oo 4 .mov [cI 0],oo 5 .mov [.c (.d (.bool false))]]
def Qv6:List COp:=[oF 8 1 2,oL 9 8,oo 10 (.bin .eql false) [.t 9,cI 0]]
def Qv7:List COp:=[oo 4 .mov [cI 0],oo 5 .mov [.c (.d (.bool false))]]
def Qv8:List COp:=[oo 12 (.load true 4) [.t 2],oM 13 1,oo 14 (.call 92) [.t 12,cI 0,.t 13],oM 11 14,oo 15 (.extract 0) [.t 11],oo 16 (.extract 1) [.t 11],oM 6 15,oM 7 16]
def Qv9:List COp:=[oM 17 6,oM 18 7,oM 19 1,oo 20 .len [.t 19],oo 21 (.bin .eql false) [.t 18,.t 20],oM 4 17,oM 5 21]
def Qhe:CFn:=⟨2,22,[.t 4,.t 5],.seq (.region Qv5 9 []) (.seq (.seq (.region Qv6 9 []) (.cond (.t 10) (.seq (.region Qv7 9 []) (.ret)) (.skip))) (.seq (.region Qv8 9 []) (.seq (.region Qv9 9 []) (.ret))))⟩
def Qb9 (Qcl:Qb→Int→(List Int)→Option (Int×Int)) (a1:Qb) (word2:(List Int)):Option (Int×Bool) :=
  (if (a1.States == 0) then some (0,false) else ((Qcl a1 0 word2).bind fun (r5,r6)=>some (r5,(r6 == (word2.length:Int)))))
def Qfr (P:Program) (c:Nat) (f:Qb→(List Int)→Option (Bool×Int)):Prop:=∀ a1 word2 r,f a1 word2 = some r→∀ M nb,ACalls P c [(Qa a1),(l_ word2)] M nb (.tup [(b_ r.1),(i_ r.2)]) M nb
def Qrb:List COp:=[oo 2 (.box 4) [.t 0],oo 4 .mov [.c (.d (.bool false))],oo 5 .mov [cI 0]]
def Qrc:List COp:=[oo 9 (.load true 4) [.t 2],oo 10 (.call 13) [.t 9],oM 6 10]
def Qrd:List COp:=[oM 11 6,oo 12 (.bin .neq false) [.t 11,cI 0]]
def Qre:List COp:=[oM 13 6,oo 4 .mov [.c (.d (.bool false))],oM 5 13]
def Qrf:List COp:=[oo 15 (.load true 4) [.t 2],oM 16 1,oo 17 (.call 69) [.t 15,.t 16],oM 14 17,oo 18 (.extract 0) [.t 14],oo 19 (.extract 1) [.t 14],oM 7 18,oM 8 19]
def Qrg:List COp:=[oM 20 8,oM 4 20,oo 5 .mov [cI 0]]
def Qfs:CFn:=⟨2,21,[.t 4,.t 5],.seq (.region Qrb 9 []) (.seq (.seq (.region Qrc 9 []) (.seq (.region Qrd 9 []) (.cond (.t 12) (.seq (.region Qre 9 []) (.ret)) (.skip)))) (.seq (.region Qrf 9 []) (.seq (.region Qrg 9 []) (.ret))))⟩
def Qbo (Qf:Qb→Option Int) (Qb9:Qb→(List Int)→Option (Int×Bool)) (a1:Qb) (word2:(List Int)):Option (Bool×Int) :=
  ((Qf a1).bind fun x4=>(if (x4 != 0) then some (false,x4) else ((Qb9 a1 word2).bind fun (r7,r8)=>some (r8,0))))
def Qf9 (P:Program) (c:Nat) (f:Qb→(List Int)→Option (Bool×Int)):Prop:=∀ a1 word2 r,f a1 word2 = some r→∀ M nb,ACalls P c [(Qa a1),(l_ word2)] M nb (.tup [(b_ r.1),(i_ r.2)]) M nb
def Qti:List COp:=[oo 2 (.box 4) [.t 0],oo 4 .mov [.c (.d (.bool false))],oo 5 .mov [cI 0]]
def Qtj:List COp:=[oo 10 (.load true 4) [.t 2],oo 11 (.call 13) [.t 10],oM 6 11]
def Qtk:List COp:=[oM 12 6,oo 13 (.bin .neq false) [.t 12,cI 0]]
def Qtl:List COp:=[oM 14 6,oo 4 .mov [.c (.d (.bool false))],oM 5 14]
def Qtm:List COp:=[oM 15 1,oo 16 .len [.t 15],oo 17 (.bin .gtr false) [.t 16,cI 4096]]
def Qtn:List COp:=[oo 4 .mov [.c (.d (.bool false))],oo 5 .mov [cI 15]]
def Qto:List COp:=[ot 7 .mov [.c (.nils 1)]]
def Qtp:List COp:=[oM 18 1,oo 19 .len [.t 18],oo 20 .mov [cI 0]]
def Qtq:List COp:=[oo 21 (.bin .lss false) [.t 20,.t 19]]
def Qtr:List COp:=[oo 22 (.idx 1) [.t 18,.t 20],oL 23 22,oM 9 23]
def Qrh:List COp:=[oM 24 9,oo 25 (.bin .lss false) [.t 24,cI 0],oM 26 25,⟨some 27,.mov,[.t 9],false,some (26,false)⟩,⟨some 28,.bin .geq false,[.t 27,cI 32],false,some (26,false)⟩,oo 29 .pick [.t 26,.c (.d (.bool true)),.t 28]]
def Qri:List COp:=[oo 4 .mov [.c (.d (.bool false))],oo 5 .mov [cI 2]]
def Qrj:List COp:=[oF 30 0 2,oL 31 30,oM 32 9,oo 33 (.call 31) [.t 31,.t 32]]
def Qrk:List COp:=[ot 34 .mov [.t 7],oM 35 9,oo 36 (.bslice 1 1 [.d (.int .i64 0)] [0]) [.t 35],ot 37 (.append 1 8) [.t 34,.t 36],ot 7 .mov [.t 37]]
def Qrl:List COp:=[oo 38 (.bin .add false) [.t 20,cI 1],oM 20 38]
def Qrm:List COp:=[oo 39 (.load true 4) [.t 2],oM 40 7,oo 41 (.call 32) [.t 39,.t 40],oo 42 (.extract 0) [.t 41],oo 43 (.extract 1) [.t 41],oM 4 42,oM 5 43]
def Qga:CFn:=⟨2,44,[.t 4,.t 5],.seq (.region Qti 9 []) (.seq (.seq (.region Qtj 9 []) (.seq (.region Qtk 9 []) (.cond (.t 13) (.seq (.region Qtl 9 []) (.ret)) (.skip)))) (.seq (.seq (.region Qtm 9 []) (.cond (.t 17) (.seq (.region Qtn 9 []) (.ret)) (.skip))) (.seq (.region Qto 9 []) (.seq (.seq (.region Qtp 9 []) (.block 0 (.loop [36] (.seq (.region Qtq 9 []) (.seq (.cond (.t 21) (.skip) (.exit 0)) (.seq (.block 1 (.seq (.region Qtr 9 []) (.seq (.seq (.region Qrh 9 []) (.cond (.t 29) (.seq (.region Qri 9 []) (.ret)) (.skip))) (.seq (.region Qrj 9 []) (.cond (.t 33) (.region Qrk 9 []) (.skip)))))) (.region Qrl 9 []))))))) (.seq (.region Qrm 9 []) (.ret))))))⟩
def Qbj (Qf:Qb→Option Int) (Qz:(List Int)→Int→Option Bool) (Qbo:Qb→(List Int)→Option (Bool×Int)) (fuel:Nat) (a1:Qb) (word2:(List Int)):Option (Bool×Int) :=
  ((Qf a1).bind fun x4=>(if (x4 != 0) then some (false,x4) else (if ((word2.length:Int) > 4096) then some (false,15) else Qhk (fun k9 ((own7,x8):(List Int)×Int)=>(if (x8 < (word2.length:Int)) then letJ (fun (own21:List Int)=>k9 (own21,(IntKind.wrap .i64 (x8 + 1)))) fun J22=>((getO word2 x8).bind fun x11=>(((if (x11 < 0) then some true else some (decide (x11≥32)))).bind fun (x14:Bool)=>(if x14 then some (false,2) else ((Qz a1.Alphabet x11).bind fun x17=>(if x17 then ((appO own7 [x11]).bind fun x19=>J22 x19) else J22 own7))))) else ((Qbo a1 own7).bind fun (r24,r25)=>some (r24,r25)))) fuel ([],0))))
def Qdq (P:Program) (c:Nat) (f:Qb→Option Bool):Prop:=∀ a1 r,f a1 = some r→∀ M nb,ACalls P c [(Qa a1)] M nb (b_ r) M nb
def Qgk:List COp:=[oo 1 (.box 4) [.t 0],oo 2 .mov [.c (.d (.bool false))]]
def Qgl:List COp:=[oo 16 (.call 5) [],oo 17 (.un .not) [.t 16],oM 18 17,⟨some 19,.load true 4,[.t 1],false,some (18,false)⟩,⟨some 20,.call 12,[.t 19],false,some (18,false)⟩,⟨some 21,.un .not,[.t 20],false,some (18,false)⟩,oo 22 .pick [.t 18,.c (.d (.bool true)),.t 21]]
def Qgm:List COp:=[oo 23 (.call 5) [],oM 2 23]
def Qgn:List COp:=[oo 24 (.load true 4) [.t 1],oo 25 (.call 13) [.t 24],oM 3 25]
def Qgo:List COp:=[oM 26 3,oo 27 (.bin .eql false) [.t 26,cI 0]]
def Qgp:List COp:=[oo 2 .mov [.c (.d (.bool true))]]
def Qgq:List COp:=[oo 29 (.load true 4) [.t 1],oo 30 (.call 14) [.t 29,.c (.nils 1)],oM 28 30,oo 31 (.extract 0) [.t 28],oo 32 (.extract 1) [.t 28],oo 4 (.alloc [.nils 1,.d (.int .i64 0),.nils 1,.nils 3]) [],⟨none,.store 4,[.t 4,.t 31],true,none⟩,oM 5 32]
def Qgr:List COp:=[oo 34 (.build [.nils 1,.d (.int .i64 0),.nils 1,.nils 3] [(1,1)]) [cI 1],oo 35 (.load true 4) [.t 1],oo 36 (.bslice 4 2 [.nils 1,.d (.int .i64 0),.nils 1,.nils 3] [0,1]) [.t 34,.t 35],oo 37 (.call 9) [.t 36],oM 33 37,oo 38 (.extract 0) [.t 33],oo 39 (.extract 1) [.t 33],oo 6 (.alloc [.nils 1,.d (.int .i64 0),.nils 1,.nils 3]) [],⟨none,.store 4,[.t 6,.t 38],true,none⟩,oM 7 39]
def Qgs:List COp:=[oo 41 (.load true 4) [.t 1],oo 42 (.call 8) [.t 41],oM 40 42,oo 43 (.extract 0) [.t 40],oo 44 (.extract 1) [.t 40],oM 8 43,oM 9 44]
def Qgt:List COp:=[oo 46 (.load true 4) [.t 1],oo 47 (.call 15) [.t 46],oM 45 47,ot 48 (.extract 0) [.t 45],oo 49 (.extract 1) [.t 45],ot 10 .mov [.t 48],oM 11 49]
def Qgb:List COp:=[oo 51 (.load true 4) [.t 1],oo 52 (.call 16) [.t 51,cI 0],oM 50 52,ot 53 (.extract 0) [.t 50],oo 54 (.extract 1) [.t 50],ot 12 .mov [.t 53],oM 13 54]
def Qgc:List COp:=[oo 56 (.load true 4) [.t 1],oo 57 (.call 17) [.t 56,.c (.nils 1)],oM 55 57,oo 58 (.extract 0) [.t 55],oo 59 (.extract 1) [.t 55],oM 14 58,oM 15 59]
def Qgd:List COp:=[oM 60 5,oM 61 3,oo 62 (.bin .eql false) [.t 60,.t 61],oM 63 62,⟨some 64,.mov,[.t 7],false,some (63,true)⟩,⟨some 65,.mov,[.t 3],false,some (63,true)⟩,⟨some 66,.bin .eql false,[.t 64,.t 65],false,some (63,true)⟩,oo 67 .pick [.t 63,.t 66,.c (.d (.bool false))],oM 68 67,⟨some 69,.mov,[.t 9],false,some (68,true)⟩,⟨some 70,.mov,[.t 3],false,some (68,true)⟩,⟨some 71,.bin .eql false,[.t 69,.t 70],false,some (68,true)⟩,oo 72 .pick [.t 68,.t 71,.c (.d (.bool false))],oM 73 72,⟨some 74,.mov,[.t 11],false,some (73,true)⟩,⟨some 75,.mov,[.t 3],false,some (73,true)⟩,⟨some 76,.bin .eql false,[.t 74,.t 75],false,some (73,true)⟩,oo 77 .pick [.t 73,.t 76,.c (.d (.bool false))],oM 78 77,⟨some 79,.mov,[.t 13],false,some (78,true)⟩,⟨some 80,.mov,[.t 3],false,some (78,true)⟩,⟨some 81,.bin .eql false,[.t 79,.t 80],false,some (78,true)⟩,oo 82 .pick [.t 78,.t 81,.c (.d (.bool false))],oM 83 82,⟨some 84,.mov,[.t 15],false,some (83,true)⟩,⟨some 85,.mov,[.t 3],false,some (83,true)⟩,⟨some 86,.bin .eql false,[.t 84,.t 85],false,some (83,true)⟩,oo 87 .pick [.t 83,.t 86,.c (.d (.bool false))],oM 88 87,⟨some 89,.mov,[.t 8],false,some (88,true)⟩,⟨some 90,.un .not,[.t 89],false,some (88,true)⟩,oo 91 .pick [.t 88,.t 90,.c (.d (.bool false))],oM 92 91,⟨some 93,.mov,[.t 14],false,some (92,true)⟩,⟨some 94,.un .not,[.t 93],false,some (92,true)⟩,oo 95 .pick [.t 92,.t 94,.c (.d (.bool false))],oM 96 95,⟨some 97,.mov,[.t 10],false,some (96,true)⟩,⟨some 98,.len,[.t 97],false,some (96,true)⟩,⟨some 99,.mov,[.t 12],false,some (96,true)⟩,⟨some 100,.len,[.t 99],false,some (96,true)⟩,⟨some 101,.bin .add false,[.t 98,.t 100],false,some (96,true)⟩,⟨some 102,.fld 1,[.t 4],false,some (96,true)⟩,⟨some 103,.load false 1,[.t 102],false,some (96,true)⟩,⟨some 104,.bin .add false,[.t 101,.t 103],false,some (96,true)⟩,⟨some 105,.fld 1,[.t 6],false,some (96,true)⟩,⟨some 106,.load false 1,[.t 105],false,some (96,true)⟩,⟨some 107,.bin .add false,[.t 104,.t 106],false,some (96,true)⟩,⟨some 108,.bin .eql false,[.t 107,cI 0],false,some (96,true)⟩,oo 109 .pick [.t 96,.t 108,.c (.d (.bool false))],oM 2 109]
def Qcv:CFn:=⟨1,110,[.t 2],.seq (.region Qgk 9 []) (.seq (.seq (.region Qgl 9 []) (.cond (.t 22) (.seq (.region Qgm 9 []) (.ret)) (.skip))) (.seq (.region Qgn 9 []) (.seq (.seq (.region Qgo 9 []) (.cond (.t 27) (.seq (.region Qgp 9 []) (.ret)) (.skip))) (.seq (.region Qgq 9 []) (.seq (.region Qgr 9 []) (.seq (.region Qgs 9 []) (.seq (.region Qgt 9 []) (.seq (.region Qgb 9 []) (.seq (.region Qgc 9 []) (.seq (.region Qgd 9 []) (.ret)))))))))))⟩
def Qbt (Qbc:Option Bool) (Q9:Qb→Option (Bool×Int)) (Q0:(List Qb)→Option (Qb×Int)) (Qbq:Qb→Option Bool) (Qf:Qb→Option Int) (Qbr:Qb→(List Int)→Option (Qb×Int)) (Qb3:Qb→Option ((List Int)×Int)) (Qr:Qb→Int→Option ((List Int)×Int)) (Qbj:Qb→(List Int)→Option (Bool×Int)) (a1:Qb):Option Bool :=
  (((Qbc.bind fun x3=>(if x3 then ((Qbq a1).bind fun x6=>some (!x6)) else some true))).bind fun (x7:Bool)=>(if x7 then (Qbc.bind fun x10=>some x10) else ((Qf a1).bind fun x12=>(if (x12 == 0) then some true else ((Qbr a1 []).bind fun (r15,r16)=>((Q0 ([(Qb.mk [] 1 [] []),a1])).bind fun (r18,r19)=>((Q9 a1).bind fun (r21,r22)=>((Qb3 a1).bind fun (r24,r25)=>((Qr a1 0).bind fun (r27,r28)=>((Qbj a1 []).bind fun (r30,r31)=>(((if (r16 == x12) then (if (r19 == x12) then (if (r22 == x12) then (if (r25 == x12) then (if (r28 == x12) then (if (r31 == x12) then (if r21 then some false else (if r30 then some false else some ((IntKind.wrap .i64 ((IntKind.wrap .i64 ((IntKind.wrap .i64 ((r24.length:Int) + (r27.length:Int))) + r15.States)) + r18.States)) == 0))) else some false) else some false) else some false) else some false) else some false) else some false)).bind fun (x40:Bool)=>some x40)))))))))))
end Go.Abs
end
