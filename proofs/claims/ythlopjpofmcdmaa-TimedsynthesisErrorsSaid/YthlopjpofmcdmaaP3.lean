/-
  Part 3 of the proof: see the last text.
-/
import Derived.Test.YthlopjpofmcdmaaP2
import Derived.Sort.Grow
set_option linter.unusedVariables false
set_option linter.unusedSimpArgs false
set_option linter.unusedSectionVars false
section
namespace Go.Abs
open Go
variable {Γ:Env} {pc d nb:Nat} {os:List COp} {E:List (Nat×V)} {M M' M0:Mem} {L:List (Nat×Bx)} {Q:St→Prop} {σ:St} {gd:Option (Nat×Bool)} {a b c:Arg}
def Ext (M M2:Mem):Prop:=∀ k b,M k = some b→M2 k = some b
theorem Ext.refl (M:Mem):Ext M M:=fun _ _ h=>h
theorem Ext.trans {A B C:Mem} (h:Ext A B) (k:Ext B C):Ext A C:=fun i b hi=>k i b (h i b hi)
theorem ltB {n0:Nat} (hM:∀ k,n0≤k→M0 k = none) {k:Nat} {b:Bx} (h:M0 k = some b):k < n0:=by
 rcases Nat.lt_or_ge k n0 with hk | hk
 ·exact hk
 ·rw [hM k hk] at h; cases h
theorem Q02 {n0:Nat} (hM:∀ k,n0≤k→M0 k = none):Ext M0 (Qr n0 L M0):=fun k b h=>by rw [Qf (ltB hM h)]; exact h
theorem Qk {n0:Nat} (hM:∀ k,n0≤k→M0 k = none) {k:Nat} {b:Bx} (h:M0 k = some b):Qr n0 L M0 k = some b:=Q02 hM k b h
theorem Rn.callM {f:FuncId} {as:List Arg} {args:List V} {r:V} (hw:Wn E gd) (ha:V.dems (as.map (·.val (look E))) = args) (hC:∀ M2 nb2,nb≤nb2→Ext M M2→ACalls Γ.P f args M2 nb2 r M2 nb2) (hp2:(Nat.ble (pcOf pc) 1 || Nat.ble 10 (pcOf pc)) = true) (hpc:one (pcOf pc) = true→∀ k,nb≤k→M k = none)
  (h:Rn Γ pc os ⟨look ((d,r) :: E),M,nb⟩ Q):Rn Γ pc (⟨some d,.call f,as,false,gd⟩ :: os) ⟨look E,M,nb⟩ Q:=by
 refine Rn.cons ?_
 unfold COp.run
 rw [hw.wanted]
 simp only [show (K.call f).isCall = true from rfl,if_true,COp.callee,ha]
 have h' : Rn Γ pc os ⟨Qbl (look E) (some d) r,M,nb⟩ Q:=by
  rw [show Qbl (look E) (some d) r = look ((d,r) :: E) from Qdp E d r]; exact h
 match hp:pcOf pc with
 | 0=>exact ⟨r,M,nb,hC _ _ (Nat.le_refl _) (Ext.refl _),fun _ h=>h,fun _ _ _ _=>.inl rfl,h'⟩
 | 1 =>
  refine ⟨r,fun _=>none,nb,fun M2 h1 h2=>?_,?_⟩
  ·have:M2.over nb (fun _=>none) = M2:=by
    funext k; simp only [Mem.over]; split
    ·rfl
    ·exact (h2 k (by omega)).symm
   rw [this]; exact hC _ _ (Nat.le_refl _) fun k b hk=>by rw [h1 k (by simp [hk])]; exact hk
  ·have:M.over nb (fun _=>none) = M:=by
    funext k; simp only [Mem.over]; split
    ·rfl
    ·exact (hpc (by rw [hp]; rfl) k (by omega)).symm
   rw [this]; exact h'
 | n + 2 =>
  have hn8:¬ n < 8:=by
   intro hn
   rw [hp] at hp2
   simp only [Bool.or_eq_true,Nat.ble_eq] at hp2
   omega
  have h1:one (pcOf pc) = true:=by rw [hp]; unfold one; rw [show Nat.ble 10 (n + 2) = true from Nat.ble_eq_true_of_le (by omega),Bool.or_true]
  show (if n < 8 then _ else _)
  rw [if_neg hn8]
  refine ⟨r,fun _=>none,fun _=>none,nb,.inr fun _=>rfl,fun _ h=>(by cases h),fun _ _ _ h=>(by cases h),fun M2 h3 h2=>?_,?_⟩
  ·rw [Qe2 fun _=>rfl]
   have:M2.over nb (fun _=>none) = M2:=by
    funext k; simp only [Mem.over]; split
    ·rfl
    ·exact (h2 k (by omega)).symm
   rw [this]; exact hC _ _ (Nat.le_refl _) fun k b hk=>by rw [h3 k (by simp [hk])]; exact hk
  ·rw [Qe2 fun _=>rfl]
   have:M.over nb (fun _=>none) = M:=by
    funext k; simp only [Mem.over]; split
    ·rfl
    ·exact (hpc h1 k (by omega)).symm
   rw [this]; exact h'
theorem Rn.callvM {t:Nat} {f:FuncId} {caps:List V} {as:List Arg} {args:List V} {r:V} (hw:Wn E gd) (ht:look E t = .clo f caps) (ha:V.dems (as.map (·.val (look E))) ++ V.dems caps = args) (hC:∀ M2 nb2,nb≤nb2→Ext M M2→ACalls Γ.P f args M2 nb2 r M2 nb2) (hp2:(Nat.ble (pcOf pc) 1 || Nat.ble 10 (pcOf pc)) = true) (hpc:one (pcOf pc) = true→∀ k,nb≤k→M k = none)
  (h:Rn Γ pc os ⟨look ((d,r) :: E),M,nb⟩ Q):Rn Γ pc (⟨some d,.callv,.t t :: as,false,gd⟩ :: os) ⟨look E,M,nb⟩ Q:=by
 refine Rn.cons ?_
 unfold COp.run
 rw [hw.wanted]
 simp only [show K.callv.isCall = true from rfl,if_true,COp.callee,List.map_cons,show (Arg.t t).val (look E) = .clo f caps from ht,ha]
 have h' : Rn Γ pc os ⟨Qbl (look E) (some d) r,M,nb⟩ Q:=by
  rw [show Qbl (look E) (some d) r = look ((d,r) :: E) from Qdp E d r]; exact h
 match hp:pcOf pc with
 | 0=>exact ⟨r,M,nb,hC _ _ (Nat.le_refl _) (Ext.refl _),fun _ h=>h,fun _ _ _ _=>.inl rfl,h'⟩
 | 1 =>
  refine ⟨r,fun _=>none,nb,fun M2 h1 h2=>?_,?_⟩
  ·have:M2.over nb (fun _=>none) = M2:=by
    funext k; simp only [Mem.over]; split
    ·rfl
    ·exact (h2 k (by omega)).symm
   rw [this]; exact hC _ _ (Nat.le_refl _) fun k b hk=>by rw [h1 k (by simp [hk])]; exact hk
  ·have:M.over nb (fun _=>none) = M:=by
    funext k; simp only [Mem.over]; split
    ·rfl
    ·exact (hpc (by rw [hp]; rfl) k (by omega)).symm
   rw [this]; exact h'
 | n + 2 =>
  have hn8:¬ n < 8:=by
   intro hn
   rw [hp] at hp2
   simp only [Bool.or_eq_true,Nat.ble_eq] at hp2
   omega
  have h1:one (pcOf pc) = true:=by rw [hp]; unfold one; rw [show Nat.ble 10 (n + 2) = true from Nat.ble_eq_true_of_le (by omega),Bool.or_true]
  show (if n < 8 then _ else _)
  rw [if_neg hn8]
  refine ⟨r,fun _=>none,fun _=>none,nb,.inr fun _=>rfl,fun _ h=>(by cases h),fun _ _ _ h=>(by cases h),fun M2 h3 h2=>?_,?_⟩
  ·rw [Qe2 fun _=>rfl]
   have:M2.over nb (fun _=>none) = M2:=by
    funext k; simp only [Mem.over]; split
    ·rfl
    ·exact (h2 k (by omega)).symm
   rw [this]; exact hC _ _ (Nat.le_refl _) fun k b hk=>by rw [h3 k (by simp [hk])]; exact hk
  ·rw [Qe2 fun _=>rfl]
   have:M.over nb (fun _=>none) = M:=by
    funext k; simp only [Mem.over]; split
    ·rfl
    ·exact (hpc h1 k (by omega)).symm
   rw [this]; exact h'
theorem Qg8 {P:Program} {f:FuncId} {cf:CFn} (hcf:Q1 P f = some cf) {args:List V} {r:V} (hargs:Nat.beq args.length cf.np = true) (M:Mem) (nb:Nat)
  (hrun:∀ (Γ:Env),Γ.P = P→Γ.nt = cf.nt→Γ.n0 = nb→(∀ k,Γ.n0≤k→M k = none)→Tr Γ cf.body ⟨Qs6 args,Qr Γ.n0 [] M,Γ.n0 + cf.nt⟩ (FinP cf.res r Γ.n0 M)):ACalls P f args M nb r M nb:=by
 by_cases hM:∀ k,nb≤k→M k = none
 case neg=>exact Q2u (Qjt hcf) (Nat.le_refl _) hM
 by_cases hon:MOn (There M) M
 case neg=>exact ⟨Qjt hcf,Nat.le_refl _,fun w g us hm h=>absurd h hon⟩
 refine Qbjm hcf hM (Nat.eq_of_beq_eq_true hargs) (Nat.le_refl _) fun Γ hP hn ht=>?_
 have h:=hrun Γ hP ht hn (by rw [hn]; exact hM)
 rw [Q47 (by rw [hn]; exact hM),hn] at h
 refine h.mono ?_
 rintro e σ' ⟨he,r',h1,h2,h3,h4⟩
 have hlt:∀ k,There M k→k < nb:=fun k hk=>by
  rcases Nat.lt_or_ge k nb with h | h
  ·exact h
  ·simp [There,hM k h] at hk
 refine ⟨he,r',h1,h2,fun k b hk=>?_,h3,hon,hlt⟩
 rw [h4 k (hlt k (by simp [There,hk]))]; exact hk
mutual
theorem Qbbv {n0:Nat} {sites:List Nat}:∀ v:V,v.on (· < n0)→Qd7 (Qme n0 sites) v = v
 | .und,_=>rfl
 | .d _,_=>rfl
 | .agg cs,h=>by simp only [Qd7]; rw [kills_base cs h]
 | .tup cs,h=>by simp only [Qd7]; rw [kills_base cs h]
 | .own ..,_=>rfl
 | .ownT ..,_=>rfl
 | .ptr k o,h=>by simp only [Qd7]; rw [Qrv h]; rfl
 | .nilp,_=>rfl
 | .f _,_=>rfl
 | .nils _,_=>rfl
 | .cref _,_=>rfl
 | .sl sz k o n c,h=>by simp only [Qd7]; rw [Qrv h]; rfl
 | .clo _ cs,h=>by simp only [Qd7]; rw [kills_base cs h]
 | .mp k,h=>by simp only [Qd7]; rw [Qrv h]; rfl
theorem kills_base {n0:Nat} {sites:List Nat}:∀ vs:List V,V.ons (· < n0) vs→Qd7.go (Qme n0 sites) vs = vs
 | [],_=>rfl
 | v :: vs,h=>by simp only [Qd7.go]; rw [Qbbv v h.1,kills_base vs h.2]
end
theorem kFun {n0:Nat} {sites:List Nat} {g:FuncId} {cp:List V} (hM:∀ k,n0≤k→M0 k = none) (h:V.ons (There M0) cp):WkV (Qd7 (Qme n0 sites) (.clo g cp)) (.clo g cp):=by
 refine .same (Qbbv _ (ons_mono (fun k hk=>?_) _ h))
 obtain ⟨b,hb⟩:=Option.isSome_iff_exists.1 hk
 exact ltB hM hb
theorem Qfq {k:Nat} {b:Bx} (h:M k = some b):There M k:=by simp [There,h]
theorem Qbgf {cp:List V} (hx:Ext M M') (h:V.ons (There M) cp):V.ons (There M') cp:=ons_mono (fun k hk=>by
 obtain ⟨b,hb⟩:=Option.isSome_iff_exists.1 hk
 exact Qfq (hx k b hb)) _ h
end Go.Abs
end
section
namespace Go.Abs
open Go
def pl0:D→Bool
 | .int .. | .bool _ | .str _=>true
 | _=>false
def frzL (sz:Nat) (l:List (List D)):V:=if l.all fun x=>x.all pl0 then .f (.lst sz l) else .d (.lst sz l)
theorem Qbkj {imm imm' : Nat→Nat→Prop} {w:World}:∀ {x:D} {u:Value},pl0 x = true→RD imm w x u→RD imm' w x u
 | .int ..,_,_,h=>by simpa [RD] using h
 | .bool _,_,_,h=>by simpa [RD] using h
 | .str _,_,_,h=>by simpa [RD] using h
 | .lst ..,_,h,_=>by cases h
theorem Qbjn {p:Nat→Prop} {sz:Nat} {l:List (List D)}:(frzL sz l).on p:=by unfold frzL; split <;> trivial
theorem Qbit {sz:Nat} {l:List (List D)}:WkV (frzL sz l) (.d (.lst sz l)):=by
 unfold frzL
 split
 ·exact ⟨fun g w ℓ u h=>by
   simp only [RV] at h ⊢
   exact Qjq ⟨fun b o h=>h.1,fun _ _ _=>rfl⟩ _ u h,fun _ _=>trivial⟩
 ·exact .same rfl
mutual
def frzV (k:Nat) (ds:List D):V→V
 | .und=>.und
 | .d x=>.d x
 | .agg cs=>.agg (frzVs k ds cs)
 | .tup cs=>.tup (frzVs k ds cs)
 | .own sz l=>.own sz l
 | .ownT sz l=>.ownT sz l
 | .ptr k' o=>if k' = k then .cref (ds.drop o) else .ptr k' o
 | .nilp=>.nilp
 | .f x=>.f x
 | .nils sz=>.nils sz
 | .cref cs=>.cref cs
 | .sl sz k' o n c=>if k' = k then (if o + n * sz≤ds.length∧n≤c then frzL sz (Qtg sz n ((ds.drop o).take (n * sz))) else .und) else .sl sz k' o n c
 | .clo f cs=>.clo f (frzVs k ds cs)
 | .mp k'=>if k' = k then .und else .mp k'
def frzVs (k:Nat) (ds:List D):List V→List V
 | []=>[]
 | v :: vs=>frzV k ds v :: frzVs k ds vs
end
theorem Q73 (k:Nat) (ds:List D):∀ vs,frzVs k ds vs = vs.map (frzV k ds)
 | []=>rfl
 | v :: vs=>by simp [frzVs,Q73 k ds vs]
mutual
theorem Qbiu {p:Nat→Prop} (k:Nat) (ds:List D):∀ v:V,v.on p→(frzV k ds v).on fun j=>p j∧j≠k
 | .und,_=>trivial
 | .d _,_=>trivial
 | .agg cs,h=>ons_frz k ds cs h
 | .tup cs,h=>ons_frz k ds cs h
 | .own ..,_=>trivial
 | .ownT ..,_=>trivial
 | .ptr k' o,h=>by
  simp only [frzV]; split
  ·trivial
  ·rename_i hne; exact ⟨h,hne⟩
 | .nilp,_=>trivial
 | .f _,_=>trivial
 | .nils _,_=>trivial
 | .cref _,_=>trivial
 | .sl sz k' o n c,h=>by
  simp only [frzV]; split
  ·split
   ·exact Qbjn
   ·trivial
  ·rename_i hne; exact ⟨h,hne⟩
 | .clo _ cs,h=>ons_frz k ds cs h
 | .mp k',h=>by
  simp only [frzV]; split
  ·trivial
  ·rename_i hne; exact ⟨h,hne⟩
theorem ons_frz {p:Nat→Prop} (k:Nat) (ds:List D):∀ vs:List V,V.ons p vs→V.ons (fun j=>p j∧j≠k) (frzVs k ds vs)
 | [],_=>trivial
 | v :: vs,h=>⟨Qbiu k ds v h.1,ons_frz k ds vs h.2⟩
end
theorem Qbd1 {imm:Nat→Nat→Prop} {w:World} {b:Nat}:∀ (j:Nat) {ds:List D} {o:Nat},RDc imm w b ds o→RDc imm w b (ds.drop j) (o + j)
 | 0,_,_,h=>h
 | j + 1,[],o,h=>by simp [RDc]
 | j + 1,d :: ds,o,h=>by
  simp only [RDc] at h
  have:=Qbd1 j h.2.2
  rw [show o + 1 + j = o + (j + 1) from by omega] at this
  simpa using this
def G.frz (g:G) (k n:Nat) [DecidablePred fun b=>b = g.box k]:G:=⟨g.box,fun b o=>g.imm b o∨(b = g.box k∧o < n),fun b=>if b = g.box k then .ext else g.own b⟩
section
variable {g:G} {w:World} {k:Nat} {ds:List D} (hB:g.own (g.box k) = .box k) (hD:RDc (g.frz k ds.length).imm w (g.box k) ds 0)
include hB hD
theorem Qbao:Imm g.imm (g.frz k ds.length).imm w w:=⟨fun _ _ h=>.inl h,fun _ _ _=>rfl⟩
mutual
theorem Qbiv:∀ (v:V) (ℓ:Owner) (u:Value),ℓ ≠ .box k→RV g w v ℓ u→RV (g.frz k ds.length) w (frzV k ds v) ℓ u
 | .und,_,_,_,_=>by simp [frzV,RV]
 | .d x,_,_,_,h=>by
  simp only [frzV,RV] at h ⊢
  exact Qjq (Qbao hB hD) x _ h
 | .agg cs,ℓ,u,hl,h=>by
  simp only [frzV,RV] at h ⊢
  obtain ⟨vs,rfl,h,h1⟩:=h
  exact ⟨vs,rfl,RVs_frz cs ℓ 0 vs h,h1⟩
 | .tup cs,ℓ,u,hl,h=>by
  simp only [frzV,RV] at h ⊢
  obtain ⟨vs,rfl,h⟩:=h
  exact ⟨vs,rfl,RVs_frz cs ℓ 0 vs h⟩
 | .own sz l,ℓ,u,hl,h=>by
  simp only [frzV,RV] at h ⊢
  rcases h with h | ⟨b,cap,vals,e,h1,h2,h3,h4,h5,h6,h7,h8⟩
  ·exact .inl h
  ·have hne:b≠g.box k:=by rintro rfl; rw [hB] at h2; exact hl h2.symm
   refine .inr ⟨b,cap,vals,e,h1,by simp [G.frz,hne,h2],h3,h4,h5,h6,fun o=>?_,RDL_mono (Qbao hB hD) sz b l 0 h8⟩
   rw [← h7 o]
   simp [G.frz,hne]
 | .ownT sz l,ℓ,u,hl,h=>by
  simp only [frzV,RV] at h ⊢
  rcases h with h | ⟨b,o0,cap,vals,e,h1,h2,h3,h4,h5,h6,h7,h8⟩
  ·exact .inl h
  ·have hne:b≠g.box k:=by rintro rfl; rw [hB] at h2; exact hl h2.symm
   refine .inr ⟨b,o0,cap,vals,e,h1,by simp [G.frz,hne,h2],h3,h4,h5,h6,fun o=>?_,RDL_mono (Qbao hB hD) sz b l o0 h8⟩
   rw [← h7 o]
   simp [G.frz,hne]
 | .ptr k' o,ℓ,u,hl,h=>by
  simp only [frzV]
  split
  ·rename_i he
   subst he
   simp only [RV] at h ⊢
   have:=Qbd1 o hD
   rw [Nat.zero_add] at this
   exact ⟨_,_,h,this⟩
  ·simpa [RV,G.frz] using h
 | .nilp,_,_,_,h=>by simpa [frzV,RV] using h
 | .f x,_,u,_,h=>by
  simp only [frzV,RV] at h ⊢
  exact Qjq (Qbin (g:=g) (g':=g.frz k ds.length) fun b o h1 h2=>⟨.inl h1,by simp only [G.frz]; split <;> first | rfl | exact h2⟩) x u h
 | .nils _,_,_,_,h=>by simpa [frzV,RV] using h
 | .cref cs,ℓ,u,hl,h=>by
  simp only [frzV,RV] at h ⊢
  obtain ⟨b,o,rfl,h⟩:=h
  exact ⟨b,o,rfl,Q61 (Qbao hB hD) b cs o h⟩
 | .sl sz k' o n c,ℓ,u,hl,h=>by
  simp only [frzV]
  split
  ·rename_i he
   subst he
   split
   ·rename_i hc
    have hlen:((ds.drop o).take (n * sz)).length = n * sz:=by simp; omega
    obtain ⟨h1,h2,h3⟩:=Q5w n sz _ hlen
    simp only [RV] at h
    have key:∀ i x j y,(Qtg sz n ((ds.drop o).take (n * sz)))[i]? = some x→x[j]? = some y→(g.frz k' ds.length).imm (g.box k') (o + i * sz + j)∧∃ u,w.cell? ⟨g.box k',o + i * sz + j,none⟩ = some u∧RD (g.frz k' ds.length).imm w y u:=by
     intro i x j y hx hy
     have h4:=h3 i x j y hx hy
     rw [List.getElem?_take] at h4
     split at h4
     ·rw [List.getElem?_drop] at h4
      have:=Q5s hD _ y h4
      rw [show 0 + (o + (i * sz + j)) = o + i * sz + j from by omega] at this
      exact this
     ·cases h4
    unfold frzL
    split
    ·rename_i hp
     simp only [RV,RD]
     refine ⟨_,c,by rw [h1]; exact h,by rw [h1]; exact hc.2,.inr ⟨_,o,rfl,Q85 fun i x hx=>⟨h2 x (List.mem_of_getElem? hx),Q7g fun j y hy=>?_⟩⟩⟩
     obtain ⟨q1,q,q2,q3⟩:=key i x j y hx hy
     refine ⟨⟨q1,by simp [G.frz],by rw [q2]; rfl⟩,q,q2,Qbkj ?_ q3⟩
     exact List.all_eq_true.1 (List.all_eq_true.1 hp x (List.mem_of_getElem? hx)) y (List.mem_of_getElem? hy)
    ·simp only [RV,RD]
     refine ⟨_,c,by rw [h1]; exact h,by rw [h1]; exact hc.2,.inr ⟨_,o,rfl,Q85 fun i x hx=>⟨h2 x (List.mem_of_getElem? hx),Q7g fun j y hy=>key i x j y hx hy⟩⟩⟩
   ·simp [RV]
  ·simpa [RV,G.frz] using h
 | .clo f cs,ℓ,u,hl,h=>by
  simp only [frzV,RV] at h ⊢
  obtain ⟨vs,rfl,h⟩:=h
  exact ⟨vs,rfl,RVs_frz cs .ext 0 vs h⟩
 | .mp k',ℓ,u,hl,h=>by
  simp only [frzV]
  split
  ·simp [RV]
  ·simpa [RV,G.frz] using h
theorem RVs_frz:∀ (cs:List V) (ℓ:Owner) (i:Nat) (us:List Value),RVs g w cs ℓ i us→RVs (g.frz k ds.length) w (frzVs k ds cs) ℓ i us
 | [],_,_,_,h=>by simpa [frzVs,RVs] using h
 | c :: cs,ℓ,i,us,h=>by
  simp only [frzVs,RVs] at h ⊢
  obtain ⟨u,us',rfl,h1,h2⟩:=h
  have hne:ℓ.sub i ≠ .box k:=by cases ℓ <;> simp [Owner.sub]
  exact ⟨u,us',rfl,Qbiv c (ℓ.sub i) u hne h1,RVs_frz cs ℓ (i + 1) us' h2⟩
end
end
def PreD (cs:List V) (ds:List D):Prop:=ds.length≤cs.length∧∀ (j:Nat) v d,cs[j]? = some v→ds[j]? = some d→v.toD = some d
theorem PreD.of {cs:List V} {ds:List D} (h:toDs cs = some ds):PreD cs ds:=⟨Nat.le_of_eq (Q40 h).1,(Q40 h).2⟩
theorem PreD.app {cs tl:List V} {ds:List D} (h:toDs cs = some ds):PreD (cs ++ tl) ds:=by
 obtain ⟨h1,h2⟩:=Q40 h
 refine ⟨by simp; omega,fun j v d hv hd=>?_⟩
 have:=(List.getElem?_eq_some_iff.1 hd).1
 rw [List.getElem?_append_left (by omega)] at hv
 exact h2 j v d hv hd
theorem Qbgg {g:G} {w:World} {M:Mem} {nb k:Nat} {cs:List V} {ds:List D} [DecidablePred fun b=>b = g.box k] (hm:MR g w M nb) (hM:M k = some (.cells cs)) (hd:PreD cs ds):RDc (g.frz k ds.length).imm w (g.box k) ds 0:=by
 obtain ⟨hl,hg⟩:=hd
 refine Q7g fun j y hj=>?_
 have hlt:=(List.getElem?_eq_some_iff.1 hj).1
 have hc:cs[j]? = some (cs[j]'(by omega)):=List.getElem?_eq_getElem _
 obtain ⟨u,h1,h2,h3⟩:=Q62 hm hM hc
 refine ⟨.inr ⟨rfl,by omega⟩,u,by simpa using h1,?_⟩
 exact Qjq ⟨fun _ _ h=>.inl h,fun _ _ _=>rfl⟩ y u (Q7p (hg j _ y hc hj) h2)
def Q2x (n0 k:Nat) (ds:List D) (σ:St):St :=
 {
  s:=fun t=>frzV k ds (σ.s t)
  M:=fun j=>if j = k then none else if j < n0 then σ.M j else
   match σ.M j with
   | some (.cells cs)=>some (.cells (cs.map (frzV k ds)))
   | b=>b
  nb:=σ.nb }
variable {Γ:Env} {σ:St}
open Classical in
theorem Qbh2 {k:Nat} {cs:List V} {ds:List D} (hk:Γ.n0≤k) (hM:σ.M k = some (.cells cs)) (hd:PreD cs ds):WeakSt Γ σ (Q2x Γ.n0 k ds σ):=by
 intro a w g hs
 have hB:g.own (g.box k) = .box k:=(hs.mem.box k _ hM).2.1
 have hD:=Qbgg hs.mem hM hd
 have hsub:∀ ℓ i,ℓ≠Owner.box k→ℓ.sub i ≠ .box k:=by intro ℓ i _; cases ℓ <;> simp [Owner.sub]
 have hkept:Kept g w (g.frz k ds.length) w (fun j=>j≠k) (fun o=>o ≠ .box k):=by
  refine ⟨⟨fun _ _ h=>.inl h,fun _ _ _=>rfl⟩,fun _ _=>rfl,fun b hb _=>?_⟩
  have hne:b≠g.box k:=by rintro rfl; exact hb hB
  exact ⟨by simp [G.frz,hne],rfl,fun o=>by simp [G.frz,hne]⟩
 have hthere:∀ j,(There σ.M j∧j≠k)→There (Q2x Γ.n0 k ds σ).M j:=by
  rintro j ⟨h1,h2⟩
  simp only [There,Q2x,h2,if_false] at h1 ⊢
  split
  ·exact h1
  ·cases hj:σ.M j with
   | none=>simp [hj] at h1
   | some b=>cases b <;> rfl
 have hown:∀ j,j≠k→g.own (g.box j) = .box j→(g.frz k ds.length).own (g.box j) = .box j:=by
  intro j hj ho
  have hne:g.box j≠g.box k:=by
   intro e
   rw [e,hB] at ho
   cases ho; exact hj rfl
  simp [G.frz,hne,ho]
 refine ⟨g.frz k ds.length,⟨⟨fun j b hb=>?_,fun b o hbo=>?_⟩,fun t=>Qbiv hB hD _ _ _ (by simp) (hs.slots t),hs.size,hs.defers,fun t=>Qi7 hthere _ (Qbiu k ds _ (hs.onS t)),fun j cs' hb=>?_,hs.top,?_⟩⟩
 ·simp only [Q2x] at hb
  split at hb
  ·cases hb
  ·rename_i hjk
   split at hb
   ·rename_i hlt
    obtain ⟨h1,h2,h3⟩:=hs.mem.box j b hb
    refine ⟨h1,hown j hjk h2,?_⟩
    cases b with
    | mp es c =>
     obtain ⟨ents,k1,k2⟩:=h3
     exact ⟨ents,k1,Qzp (g:=g) (g':=g.frz k ds.length) hkept.imm k2⟩
    | cells cs2 =>
     obtain ⟨vals,e,k1,k2,k3⟩:=h3
     have hon:=(hs.onM j cs2 hb).2 hlt
     exact ⟨vals,e,k1,RVs_mono hkept hsub (by simp) _ _ _ _ (by intro e; cases e; exact hjk rfl) (ons_mono (fun i hi=>by omega) _ hon) k2,k3⟩
   ·split at hb
    ·rename_i hlt _ cs2 hcs
     cases hb
     obtain ⟨h1,h2,vals,e,k1,k2,k3⟩:=hs.mem.box j _ hcs
     refine ⟨h1,hown j hjk h2,vals,e,k1,?_,k3⟩
     rw [← Q73]
     exact RVs_frz hB hD _ _ _ _ k2
    ·rename_i hne
     obtain ⟨h1,h2,h3⟩:=hs.mem.box j b hb
     cases b with
     | mp es c =>
      obtain ⟨ents,k1,k2⟩:=h3
      exact ⟨h1,hown j hjk h2,ents,k1,Qzp (g:=g) (g':=g.frz k ds.length) hkept.imm k2⟩
     | cells cs2=>exact absurd hb (hne cs2)
 ·rcases hbo with hbo | ⟨rfl,hlt⟩
  ·obtain ⟨h1,h2⟩:=hs.mem.imm b o hbo
   refine ⟨h1,fun j=>?_⟩
   simp only [G.frz]
   split
   ·simp
   ·exact h2 j
  ·refine ⟨?_,fun j=>by simp [G.frz]⟩
   obtain ⟨_,_,vals,e,k1,_,_⟩:=hs.mem.box k _ hM
   exact (Array.getElem?_eq_some_iff.1 k1).1
 ·simp only [Q2x] at hb
  split at hb
  ·cases hb
  ·rename_i hjk
   split at hb
   ·rename_i hlt
    obtain ⟨h1,h2⟩:=hs.onM j cs' hb
    refine ⟨ons_mono (fun i hi=>hthere i ⟨hi.1,?_⟩) _ (ons_and cs' h1 (h2 hlt)),h2⟩
    have:=hi.2; omega
   ·split at hb
    ·rename_i hlt _ cs2 hcs
     cases hb
     refine ⟨?_,fun h=>absurd h hlt⟩
     rw [← Q73]
     exact ons_mono hthere _ (ons_frz k ds _ (hs.onM j cs2 hcs).1)
    ·rename_i hne; exact absurd hb (hne cs')
 ·have hf:=hs.fr
  refine ⟨hf.os,hf.tape,hf.output,hf.size,⟨fun b o h=>.inl (hf.imm.mono b o h),hf.imm.cell⟩,hf.box,fun b hb ho=>?_⟩
  obtain ⟨h1,h2,h3⟩:=hf.old b hb ho
  have hne:b≠g.box k:=by
   rintro rfl
   rw [hB] at h1
   rw [← h1] at ho
   exact ho
  exact ⟨by simp [G.frz,hne,h1],h2,fun o=>by simp [G.frz,hne,h3]⟩
def FE (f:V→V) (s:Sl):List (Nat×V)→Prop
 | []=>True
 | (t,v) :: E=>WkV (f (s t)) v∧FE f s E
theorem FE.at {f:V→V} {s:Sl}:∀ {E:List (Nat×V)},FE f s E→∀ t,WkV (f (s t)) (look E t)
 | [],_,t=>.und _
 | (u,v) :: E,h,t=>by
  simp only [look]
  cases hb:Nat.beq t u with
  | true=>have:=Nat.eq_of_beq_eq_true hb; subst this; exact h.1
  | false=>exact FE.at h.2 t
def FB (f:V→V) (t0:Nat) (L:List (Nat×Bx)):List (Nat×Bx)→Prop
 | []=>True
 | (t,.cells cs') :: L'=>(∃ cs,Qcp L t = some (.cells cs)∧Nat.beq t t0 = false∧WkVs (cs.map f) cs')∧FB f t0 L L'
 | (t,.mp es c) :: L'=>(Qcp L t = some (.mp es c)∧Nat.beq t t0 = false)∧FB f t0 L L'
theorem FB.at {f:V→V} {t0:Nat} {L:List (Nat×Bx)}:∀ {L' : List (Nat×Bx)},FB f t0 L L' → ∀ t b,Qcp L' t = some b→Nat.beq t t0 = false ∧
  ((∃ cs' cs,b = .cells cs' ∧ Qcp L t = some (.cells cs)∧WkVs (cs.map f) cs')∨∃ es c,b = .mp es c∧Qcp L t = some (.mp es c))
 | [],_,t,b,hb=>by simp [Qcp] at hb
 | (u,.cells cs') :: L',h,t,b,hb=>by
  simp only [Qcp] at hb
  cases hbe:Nat.beq t u with
  | true =>
   have:=Nat.eq_of_beq_eq_true hbe
   subst this
   rw [hbe] at hb
   simp only [cond_true,Option.some.injEq] at hb
   obtain ⟨cs,h1,h2,h3⟩:=h.1
   exact ⟨h2,.inl ⟨cs',cs,hb.symm,h1,h3⟩⟩
  | false =>
   rw [hbe] at hb
   exact FB.at h.2 t b hb
 | (u,.mp es c) :: L',h,t,b,hb=>by
  simp only [Qcp] at hb
  cases hbe:Nat.beq t u with
  | true =>
   have:=Nat.eq_of_beq_eq_true hbe
   subst this
   rw [hbe] at hb
   simp only [cond_true,Option.some.injEq] at hb
   exact ⟨h.1.2,.inr ⟨es,c,hb.symm,h.1.1⟩⟩
  | false =>
   rw [hbe] at hb
   exact FB.at h.2 t b hb
theorem Qbbw (t:Nat) {E E' : List (Nat×V)} {L:List (Nat×Bx)} {L' : List (Nat×Bx)} {M0:Mem} {nb:Nat} {cs:List V} (ds:List D) (hM:Qcp L t = some (.cells cs)) (hd:PreD cs ds)
  (hE:FE (frzV (Γ.n0 + t) ds) (look E) E') (hL:FB (frzV (Γ.n0 + t) ds) t L L') (hk:(L.all fun p=>Nat.beq p.1 t || L'.any fun q=>Nat.beq p.1 q.1) = true) :
  WeakSt Γ ⟨look E,Qr Γ.n0 L M0,nb⟩ ⟨look E',Qr Γ.n0 (bxs L') M0,nb⟩:=by
 refine WeakSt.trans (Qbh2 (σ:=⟨look E,Qr Γ.n0 L M0,nb⟩) (k:=Γ.n0 + t) (by omega) (by show Qr Γ.n0 L M0 (Γ.n0 + t) = _; rw [Qc9]; exact hM) hd) ?_
 intro a w g hs
 have hbase:∀ k,k < Γ.n0→(Q2x Γ.n0 (Γ.n0 + t) ds ⟨look E,Qr Γ.n0 L M0,nb⟩).M k = M0 k:=by
  intro k hk
  have h1:k≠Γ.n0 + t:=by omega
  simp only [Q2x,h1,if_false,hk,if_true]
  exact Qf hk
 have hown:∀ u cs,Nat.beq u t = false→Qcp L u = some (.cells cs)→(Q2x Γ.n0 (Γ.n0 + t) ds ⟨look E,Qr Γ.n0 L M0,nb⟩).M (Γ.n0 + u) = some (.cells (cs.map (frzV (Γ.n0 + t) ds))):=by
  intro u cs h1 h2
  have h3:u≠t:=fun e=>by subst e; simp at h1
  have h4:Γ.n0 + u≠Γ.n0 + t:=by omega
  have h5:¬ Γ.n0 + u < Γ.n0:=by omega
  have h6:Qr Γ.n0 L M0 (Γ.n0 + u) = some (.cells cs):=by rw [Qc9]; exact h2
  simp only [Q2x,h4,if_false,h5,h6]
 have hownm:∀ u es c,Nat.beq u t = false→Qcp L u = some (.mp es c)→(Q2x Γ.n0 (Γ.n0 + t) ds ⟨look E,Qr Γ.n0 L M0,nb⟩).M (Γ.n0 + u) = some (.mp es c):=by
  intro u es c h1 h2
  have h3:u≠t:=fun e=>by subst e; simp at h1
  have h4:Γ.n0 + u≠Γ.n0 + t:=by omega
  have h5:¬ Γ.n0 + u < Γ.n0:=by omega
  have h6:Qr Γ.n0 L M0 (Γ.n0 + u) = some (.mp es c):=by rw [Qc9]; exact h2
  simp only [Q2x,h4,if_false,h5,h6]
 have hsplit:∀ k,k < Γ.n0∨∃ u,k = Γ.n0 + u:=fun k=>by
  rcases Nat.lt_or_ge k Γ.n0 with h | h
  ·exact .inl h
  ·exact .inr ⟨k - Γ.n0,by omega⟩
 have hthere:∀ k,There (Q2x Γ.n0 (Γ.n0 + t) ds ⟨look E,Qr Γ.n0 L M0,nb⟩).M k→There (Qr Γ.n0 (bxs L') M0) k:=by
  intro k hk'
  rcases hsplit k with h | ⟨u,rfl⟩
  ·simp only [There,hbase k h] at hk'
   simp only [There,Qf h,hk']
  ·simp only [There,Qc9]
   have h5:¬ Γ.n0 + u < Γ.n0:=by omega
   have h4:Γ.n0 + u≠Γ.n0 + t:=by
    intro e
    simp [There,Q2x,e] at hk'
   have h7:∃ b,Qcp L u = some b:=by
    cases hb:Qcp L u with
    | some b=>exact ⟨b,rfl⟩
    | none =>
     have h6:Qr Γ.n0 L M0 (Γ.n0 + u) = none:=by rw [Qc9]; exact hb
     simp only [There,Q2x,h4,if_false,h5,h6] at hk'
     cases hk'
   obtain ⟨b,hb⟩:=h7
   obtain ⟨p,hp,rfl⟩:=Q01 hb
   have:=List.all_eq_true.1 hk p hp
   rw [Bool.or_eq_true] at this
   rcases this with h8 | h8
   ·have:=Nat.eq_of_beq_eq_true h8; omega
   ·obtain ⟨q,hq,he⟩:=List.any_eq_true.1 h8
    have he:=Nat.eq_of_beq_eq_true he
    have:=Q51 hq
    rw [he]; exact this
 refine ⟨g,⟨⟨fun k b hb=>?_,hs.mem.imm⟩,fun t=>(hE.at t).rd _ _ _ _ (hs.slots t),hs.size,hs.defers,fun t=>Qi7 hthere _ ((hE.at t).on _ (hs.onS t)),fun k cs hb=>?_,hs.top,hs.fr⟩⟩
 ·rcases hsplit k with h | ⟨u,rfl⟩
  ·have hb' : (Q2x Γ.n0 (Γ.n0 + t) ds ⟨look E,Qr Γ.n0 L M0,nb⟩).M k = some b:=by rw [hbase k h]; rw [← hb]; exact (Qf h).symm
   exact hs.mem.box k b hb'
  ·have hb' : Qcp (bxs L') u = some b:=by rw [← hb]; exact Qc9.symm
   obtain ⟨h2,⟨cs',cs,rfl,h1,h3⟩ | ⟨es,c,rfl,h1⟩⟩:=hL.at u b hb'
   ·obtain ⟨k1,k2,vals,e,k3,k4,k5⟩:=hs.mem.box _ _ (hown u cs h2 h1)
    exact ⟨k1,k2,vals,e,k3,h3.rd _ _ _ _ _ k4,k5⟩
   ·exact hs.mem.box _ _ (hownm u es c h2 h1)
 ·rcases hsplit k with h | ⟨u,rfl⟩
  ·have hb' : (Q2x Γ.n0 (Γ.n0 + t) ds ⟨look E,Qr Γ.n0 L M0,nb⟩).M k = some (.cells cs):=by rw [hbase k h]; rw [← hb]; exact (Qf h).symm
   obtain ⟨k1,k2⟩:=hs.onM k cs hb'
   exact ⟨ons_mono hthere _ k1,k2⟩
  ·have hb' : Qcp (bxs L') u = some (.cells cs):=by rw [← hb]; exact Qc9.symm
   obtain ⟨h2,⟨cs',cs0,he,h1,h3⟩ | ⟨es,c,he,h1⟩⟩:=hL.at u _ hb' <;> cases he
   obtain ⟨k1,k2⟩:=hs.onM _ _ (hown u cs0 h2 h1)
   exact ⟨ons_mono hthere _ (h3.on _ k1),fun hlt=>absurd hlt (by omega)⟩
theorem Qha (t:Nat) {E E' : List (Nat×V)} {L:List (Nat×Bx)} {L' : List (Nat×Bx)} {M0:Mem} {nb:Nat} {cs:List V} (ds:List D) (hM:Qcp L t = some (.cells cs)) (hd:toDs cs = some ds)
  (hE:FE (frzV (Γ.n0 + t) ds) (look E) E') (hL:FB (frzV (Γ.n0 + t) ds) t L L') (hk:(L.all fun p=>Nat.beq p.1 t || L'.any fun q=>Nat.beq p.1 q.1) = true) :
  WeakSt Γ ⟨look E,Qr Γ.n0 L M0,nb⟩ ⟨look E',Qr Γ.n0 (bxs L') M0,nb⟩ :=
 Qbbw t ds hM (.of hd) hE hL hk
theorem fPtr {n0 t u o:Nat} {ds:List D} (h:Nat.beq u t = false):WkV (frzV (n0 + t) ds (.ptr (n0 + u) o)) (.ptr (n0 + u) o):=by
 have:¬ n0 + u = n0 + t:=by
  intro e
  have:u = t:=by omega
  subst this; simp at h
 exact .same (by simp only [frzV]; rw [if_neg this])
theorem fSlO {n0 t u sz o n c:Nat} {ds:List D} (h:Nat.beq u t = false):WkV (frzV (n0 + t) ds (.sl sz (n0 + u) o n c)) (.sl sz (n0 + u) o n c):=by
 have:¬ n0 + u = n0 + t:=by
  intro e
  have:u = t:=by omega
  subst this; simp at h
 exact .same (by simp only [frzV]; rw [if_neg this])
theorem fSl {n0 t sz o n c:Nat} {ds:List D} {l:List (List D)} (h:(Nat.ble (o + n * sz) ds.length && Nat.ble n c) = true) (hl:Qtg sz n ((ds.drop o).take (n * sz)) = l):WkV (frzV (n0 + t) ds (.sl sz (n0 + t) o n c)) (.d (.lst sz l)):=by
 simp only [Bool.and_eq_true] at h
 have h1:=Nat.le_of_ble_eq_true h.1
 have h2:=Nat.le_of_ble_eq_true h.2
 have e:frzV (n0 + t) ds (.sl sz (n0 + t) o n c) = frzL sz l:=by simp [frzV,h1,h2,hl]
 rw [e]
 exact Qbit
def nilO {α R:Type} [DecidableEq R] (l:List α) (K:Bool→Option R):Option R :=
 match l with
 | []=>if K true = K false then K false else none
 | _ :: _=>K false
theorem Qbgh {α R:Type} [DecidableEq R] {l:List α} {K:Bool→Option R} {r:R} (h:nilO l K = some r) (b:Bool) (hb:b = true→l.length = 0):K b = some r:=by
 cases l with
 | nil =>
  simp only [nilO] at h
  split at h
  ·rename_i he
   cases b with
   | true=>rw [he]; exact h
   | false=>exact h
  ·cases h
 | cons x l =>
  cases b with
  | true=>simp at hb
  | false=>exact h
variable {pc d nb:Nat} {os:List COp} {E:List (Nat×V)} {M:Mem} {Q:St→Prop} {gd:Option (Nat×Bool)} {a:Arg}
theorem Rn.isnil {α R:Type} [DecidableEq R] {e:α→List D} {sz:Nat} {xs:List α} {neg:Bool} {J:Bool→Option R} {r:R} (hw:Wn E gd) (ha:(a.val (look E)).dem = .d (.lst sz (xs.map e))) (h:nilO xs J = some r)
  (hk:∀ b,J b = some r→Rn Γ 9 os ⟨look ((d,.d (.bool (bif neg then !b else b))) :: E),M,nb⟩ Q):Rn Γ 9 (⟨some d,.isnil neg,[a],false,gd⟩ :: os) ⟨look E,M,nb⟩ Q:=by
 refine Rn.cons ?_
 unfold COp.run
 rw [hw.wanted]
 simp only [show (Abs.K.isnil neg).isCall = false from rfl,show (Abs.K.isnil neg).isNil = true from rfl,Bool.false_eq_true,if_false,if_true,COp.xs,List.map_cons,List.map_nil,V.dems,ha,Q82,List.length_map,Abs.K.negNil]
 intro b hb
 have e1:∀ v,Qbl (look E) (some d) v = look ((d,v) :: E):=fun v=>Qdp E d v
 have h2:=hk b (Qbgh h b hb)
 cases neg with
 | true=>exact (show Rn Γ 9 os ⟨Qbl (look E) (some d) (.d (.bool (!b))),M,nb⟩ Q from by rw [e1]; exact h2)
 | false=>exact (show Rn Γ 9 os ⟨Qbl (look E) (some d) (.d (.bool b)),M,nb⟩ Q from by rw [e1]; exact h2)
end Go.Abs
end
section
namespace Go.Abs
open Go
variable {Γ:Env} {σ:St}
section
variable {g:G} {w:World} {k n:Nat} {ℓ0:Owner} (hB:g.own (g.box k) = .box k)
include hB
end
variable {pc d nb:Nat} {os:List COp} {E:List (Nat×V)} {M M0:Mem} {L:List (Nat×Bx)} {Q:St→Prop} {gd:Option (Nat×Bool)} {b:Arg} {α:Type} {e:α→List D}
theorem Rn.app0 {t u sz bytes:Nat} {ys zs:List α} {src:V} {cs:List V} (hw:Wn E gd) (ha:look E t = .sl sz (Γ.n0 + u) 0 0 0) (hM:Qcp L u = some (.cells cs)) (hb:b.val (look E) = src) (hf:src.dem = src) (hs:Qit (Qr Γ.n0 L M0) sz src = some (ys.map e)) (hx:appO ([]:List α) ys = some zs) (hbd:(Nat.ble bytes 128 && Nat.ble 1 sz) = true)
  (h:Rn Γ pc os ⟨look ((d,.own sz (zs.map e)) :: E),Qr Γ.n0 L M0,nb⟩ Q):Rn Γ pc (⟨some d,.append sz bytes,[.t t,b],true,gd⟩ :: os) ⟨look E,Qr Γ.n0 L M0,nb⟩ Q:=by
 unfold appO at hx
 split at hx <;> cases hx
 rename_i hl
 simp only [Bool.and_eq_true] at hbd
 have h1:=Nat.le_of_ble_eq_true hbd.1
 have h2:0 < sz:=Nat.le_of_ble_eq_true hbd.2
 have hm:[Arg.t t,b].map (fun x=>x.val (look E)) = [V.sl sz (Γ.n0 + u) 0 0 0,src]:=by
  simp only [List.map_cons,List.map_nil,hb]; rw [show (Arg.t t).val (look E) = _ from ha]
 have he:Qit (Qr Γ.n0 L M0) sz (.sl sz (Γ.n0 + u) 0 0 0) = some []:=by simp [Qit,Qi hM,toDs,Qtg]
 refine Rn.kT hw rfl rfl (v:=.own sz (([] ++ ys).map e)) ?_ (fun i=>?_) h
 ·rw [hm]
  simp only [Qp,he,hs]
  by_cases hy:(ys.map e).length = 0
  ·have:ys = []:=by simpa using hy
   subst this
   simp
  ·simp only [hy,if_false]
   simp [h1,h2] at hl ⊢
   exact hl
 ·rw [hm]
  simp only [Qcc,hf,show (V.sl sz (Γ.n0 + u) 0 0 0).dem = .sl sz (Γ.n0 + u) 0 0 0 from rfl,Qbc,show ∀ s v,(Arg.t t).putTo s v = s.put t v from fun _ _=>rfl]
  have hz:∀ (a:Arg) (v:V) (s:Sl),a.val s = v→a.putTo s v = s:=by
   intro a v s hs
   cases a with
   | c v=>rfl
   | t j =>
    simp only [Arg.val] at hs
    funext i; simp only [Arg.putTo,Sl.put]; split
    ·rename_i e; subst e; exact hs.symm
    ·rfl
  have e1:(look E).put t (.sl sz (Γ.n0 + u) 0 0 0) = look E:=hz (.t t) _ _ ha
  rw [e1,hz b src _ hb,Qdp]
end Go.Abs
namespace Go.Abs
open Go
theorem WkV.nilsO (sz:Nat):WkV (.nils sz) (.own sz []):=⟨fun g w ℓ u h=>by
 simp only [RV] at h
 simp only [RV]
 exact .inl ⟨h,trivial⟩,fun _ _=>trivial⟩
theorem WkV.nilsD (sz:Nat):WkV (.nils sz) (.d (.lst sz [])):=⟨fun g w ℓ u h=>by
 simp only [RV] at h ⊢
 obtain ⟨a,rfl⟩:=h
 simp [RD],fun _ _=>trivial⟩
theorem WkVs.rf {g:G} {w:World} {vs vs' : List V} (h:WkVs vs vs'):∀ {us:List Value},RFs g w vs us→RFs g w vs' us:=by
 induction h with
 | nil=>exact fun h=>h
 | cons h t ih =>
  rintro us ⟨u,us',e,h1,h2⟩
  exact ⟨u,us',e,fun ℓ=>h.rd _ _ _ _ (h1 ℓ),ih h2⟩
theorem ACalls.weak {P:Program} {f:FuncId} {args args' : List V} {M M' : Mem} {nb nb' : Nat} {r:V} (h:ACalls P f args' M nb r M' nb') (hw:WkVs args args') (hf:V.dems args' = args'):ACalls P f args M nb r M' nb':=by
 refine ⟨h.1,h.2.1,fun w g us hm hMon hfr hus hfl hons=>h.2.2 w g us hm hMon hfr (hw.rf hus) (fun x hx=>?_) (hw.on _ hons)⟩
 rw [← hf] at hx
 exact Qh9 x hx
end Go.Abs
end
section
namespace Go.Abs
open Go
variable {α:Type}
def Qz (g:α→List V) (xs:List α):List V:=(xs.map g).flatten
theorem Qg3 (g:α→List V) (x:α) (xs:List α):Qz g (x :: xs) = g x ++ Qz g xs:=by simp [Qz]
theorem Qtk {g:α→List V} {sz:Nat} (hg:∀ x,(g x).length = sz):∀ xs:List α,(Qz g xs).length = xs.length * sz
 | []=>by simp [Qz]
 | x :: xs=>by rw [Qg3,List.length_append,hg,Qtk hg xs,List.length_cons,Nat.add_mul]; omega
theorem Q52 {g:α→List V} {sz:Nat} (hg:∀ x,(g x).length = sz):∀ (xs:List α) (i:Nat),i≤xs.length→(Qz g xs).drop (i * sz) = Qz g (xs.drop i)
 | xs,0,_=>by simp
 | [],i + 1,h=>by simp at h
 | x :: xs,i + 1,h=>by
  rw [Qg3,Nat.add_mul,Nat.add_comm,Nat.one_mul,← List.drop_drop,show (g x ++ Qz g xs).drop sz = Qz g xs from by rw [← hg x]; simp]
  rw [Q52 hg xs i (by simpa using h)]
  rfl
theorem Q9o {g:α→List V} {sz:Nat} (hg:∀ x,(g x).length = sz):∀ (xs:List α) (i:Nat),i≤xs.length→(Qz g xs).take (i * sz) = Qz g (xs.take i)
 | xs,0,_=>by simp [Qz]
 | [],i + 1,h=>by simp at h
 | x :: xs,i + 1,h=>by
  rw [Qg3,Nat.add_mul,Nat.add_comm,Nat.one_mul,List.take_append,hg x]
  have h1:(g x).take (sz + i * sz) = g x:=by rw [List.take_of_length_le]; rw [hg x]; omega
  rw [h1,show sz + i * sz - sz = i * sz from by omega,Q9o hg xs i (by simpa using h),List.take_succ_cons,Qg3]
theorem Qbgi {g:α→List V} {sz:Nat} (hg:∀ x,(g x).length = sz) {xs:List α} {i:Nat} {x:α} (hx:xs[i]? = some x):((Qz g xs).drop (i * sz)).take sz = g x:=by
 obtain ⟨hlt,hx⟩:=List.getElem?_eq_some_iff.1 hx
 rw [Q52 hg xs i (by omega),List.drop_eq_getElem_cons hlt,Qg3,hx,← hg x]
 simp
theorem Qbbx {g:α→List V} {sz:Nat} (hg:∀ x,(g x).length = sz) {xs:List α} {i:Nat} (y:α) (hi:i < xs.length):(Qz g xs).take (i * sz) ++ g y ++ (Qz g xs).drop (i * sz + sz) = Qz g (xs.set i y):=by
 rw [Q9o hg xs i (by omega),show i * sz + sz = (i + 1) * sz from by rw [Nat.add_mul,Nat.one_mul],Q52 hg xs (i + 1) (by omega)]
 rw [List.set_eq_take_append_cons_drop,if_pos hi]
 simp [Qz]
theorem Qbgj (g:α→List V) (x:α) (n:Nat):Qz g (List.replicate n x) = rep n (g x):=by simp [Qz,rep]
def mkO (n:Int) (x:α):Option (List α):=if 0≤n∧n≤lim then some (List.replicate n.toNat x) else none
def inO (len:Nat) (i:Int):Option Unit:=if 0≤i∧i < len then some () else none
def setO (l:List α) (i:Int) (y:α):Option (List α):=if 0≤i∧i.toNat < l.length then some (l.set i.toNat y) else none
variable {Γ:Env} {pc d nb:Nat} {os:List COp} {E:List (Nat×V)} {M M0:Mem} {L:List (Nat×Bx)} {Q:St→Prop} {gd:Option (Nat×Bool)} {a b:Arg} {g:α→List V} {xs:List α} {sz:Nat}
theorem Rn.makes {bytes:Nat} {z:List V} {n:Int} {x:α} (hw:Wn E gd) (ha:a.val (look E) = .d (.int .i64 n)) (hb:b.val (look E) = .d (.int .i64 n)) (hf:(Qcp L d).isNone = true) (hz:g x = z) (hc:(Nat.ble bytes 128 && Nat.beq z.length sz && Nat.ble 1 sz) = true) (hx:mkO n x = some xs)
  (h:Rn Γ pc os ⟨look ((d,.sl sz (Γ.n0 + d) 0 n.toNat n.toNat) :: E),Qr Γ.n0 ((d,.cells (Qz g xs)) :: L) M0,nb⟩ Q):Rn Γ pc (⟨some d,.makes sz bytes z,[a,b],false,gd⟩ :: os) ⟨look E,Qr Γ.n0 L M0,nb⟩ Q:=by
 unfold mkO at hx
 split at hx <;> cases hx
 rename_i hn
 simp only [Bool.and_eq_true] at hc
 have h1:=Nat.le_of_ble_eq_true hc.1.1
 have h2:z.length = sz:=Nat.eq_of_beq_eq_true hc.1.2
 have h3:0 < sz:=Nat.le_of_ble_eq_true hc.2
 refine Rn.k hw rfl rfl ?_ h
 simp only [List.map_cons,List.map_nil,V.dems,ha,hb,V.dem,Qp]
 have hfr:=Qr4 (Γ:=Γ) (M0:=M0) hf
 rw [if_pos (by simp [hn.1,hn.2,h1,h2,h3,hfr]),Qfc,Qbgj,hz]
theorem Rn.idxA {k len cap:Nat} {kk:IntKind} {i:Int} (hw:Wn E gd) (ha:(a.val (look E)).dem = .sl sz k 0 len cap) (hb:b.val (look E) = .d (.int kk i)) (hx:inO len i = some ()) (h:Rn Γ pc os ⟨look ((d,.ptr k (0 + i.toNat * sz)) :: E),M,nb⟩ Q) :
  Rn Γ pc (⟨some d,.idx sz,[a,b],false,gd⟩ :: os) ⟨look E,M,nb⟩ Q:=by
 unfold inO at hx
 split at hx <;> cases hx
 rename_i hc
 refine Rn.k hw rfl rfl ?_ h
 simp [ha,hb,V.dems,V.dem,Qp,hc.1,hc.2]
theorem Rn.lenA {k off len cap:Nat} (hw:Wn E gd) (ha:(a.val (look E)).dem = .sl sz k off len cap) (h:Rn Γ pc os ⟨look ((d,.d (.int .i64 len)) :: E),M,nb⟩ Q):Rn Γ pc (⟨some d,.len,[a],false,gd⟩ :: os) ⟨look E,M,nb⟩ Q:=by
 refine Rn.k hw rfl rfl ?_ h
 simp [ha,V.dems,Qp]
theorem Rn.loadA {k f n:Nat} {ag:Bool} {i:Int} {x:α} {v:V} (hg:∀ x,(g x).length = sz) (hw:Wn E gd) (ha:a.val (look E) = .ptr k (0 + i.toNat * sz + f)) (hM:M k = some (.cells (Qz g xs))) (hx:getO xs i = some x) (hn:Nat.ble (f + max n 1) sz = true)
  (hv:(if ag then some (.agg (V.dems (((g x).drop f).take n))) else ((g x)[f]?).map (·.dem)) = some v) (h:Rn Γ pc os ⟨look ((d,v) :: E),M,nb⟩ Q):Rn Γ pc (⟨some d,.load ag n,[a],false,gd⟩ :: os) ⟨look E,M,nb⟩ Q:=by
 have hn:=Nat.le_of_ble_eq_true hn
 unfold getO at hx
 split at hx <;> try (cases hx; done)
 obtain ⟨hlt,hx'⟩:=List.getElem?_eq_some_iff.1 hx
 have hl:=Qtk hg xs
 have hge:=Qbgi hg hx
 have hb:i.toNat * sz + sz≤xs.length * sz:=by
  rw [show i.toNat * sz + sz = (i.toNat + 1) * sz from by rw [Nat.add_mul,Nat.one_mul]]
  exact Nat.mul_le_mul_right _ hlt
 refine Rn.k hw rfl rfl ?_ h
 simp only [List.map_cons,List.map_nil,V.dems,ha,V.dem,Qp,hM]
 rw [if_pos (by rw [hl]; omega)]
 have hdrop:(Qz g xs).drop (0 + i.toNat * sz + f) = ((Qz g xs).drop (i.toNat * sz)).drop f:=by rw [List.drop_drop]; congr 1; omega
 cases ag with
 | true =>
  simp only [if_true,Option.some.injEq] at hv ⊢
  rw [← hv,← hge,hdrop,List.drop_take,List.take_take]
  have:min n (sz - f) = n:=by omega
  rw [this]
 | false =>
  simp only [Bool.false_eq_true,if_false] at hv ⊢
  have:(Qz g xs)[0 + i.toNat * sz + f]? = (g x)[f]?:=by
   rw [← hge,List.getElem?_take,if_pos (by omega),List.getElem?_drop]
   congr 1; omega
  rw [this]
  rw [Option.map_eq_some_iff] at hv
  obtain ⟨y,hy,rfl⟩:=hv
  rw [hy]; rfl
theorem Rn.storeA {t:Nat} {i:Int} {y:α} {ys:List α} {v:V} (hg:∀ x,(g x).length = sz) (hw:Wn E gd) (ha:a.val (look E) = .ptr (Γ.n0 + t) (0 + i.toNat * sz)) (hb:(b.val (look E)).dem = v) (hv:Qep v = true) (hM:Qcp L t = some (.cells (Qz g xs))) (hc:v.cells = g y)
  (hx:setO xs i y = some ys) (h:Rn Γ pc os ⟨look E,Qr Γ.n0 ((t,.cells (Qz g ys)) :: L) M0,nb⟩ Q):Rn Γ pc (⟨none,.store sz,[a,b],false,gd⟩ :: os) ⟨look E,Qr Γ.n0 L M0,nb⟩ Q:=by
 unfold setO at hx
 split at hx <;> cases hx
 rename_i hi
 have hl:=Qtk hg xs
 have hb2:i.toNat * sz + sz≤xs.length * sz:=by
  rw [show i.toNat * sz + sz = (i.toNat + 1) * sz from by rw [Nat.add_mul,Nat.one_mul]]
  exact Nat.mul_le_mul_right _ hi.2
 refine Rn.store (cs':=Qz g (xs.set i.toNat y)) hw ha hb hv hM ?_ ?_ h
 ·rw [hc,hg,hl]
  simp only [Bool.and_eq_true]
  exact ⟨by simp,Nat.ble_eq_true_of_le (by omega)⟩
 ·rw [hc,Nat.zero_add]; exact Qbbx hg y hi.2
theorem Qu {f:V→V} (h:∀ x,(g x).map f = g x):WkVs ((Qz g xs).map f) (Qz g xs):=by
 refine .same ?_
 unfold Qz
 rw [List.map_flatten,List.map_map]
 congr 1
 exact List.map_congr_left fun x _=>h x
def lenO (l:List α) (n:Nat):Option Unit:=if l.length = n then some () else none
theorem Qd4 {l:List α} {n:Nat} (h:lenO l n = some ()):l.length = n:=by
 unfold lenO at h
 split at h
 ·assumption
 ·cases h
theorem Q74:∀ {a b:List V} {x y:List D},toDs a = some x→toDs b = some y→toDs (a ++ b) = some (x ++ y)
 | [],b,x,y,h,k=>by simp [toDs] at h; subst h; simpa using k
 | v :: a,b,x,y,h,k=>by
  simp only [toDs] at h
  split at h <;> try (cases h; done)
  rename_i d ds hd hds
  cases h
  simp only [List.cons_append,toDs,hd,Q74 hds k]
theorem Q53 {e:α→List D} (h:∀ x,toDs (g x) = some (e x)):∀ xs:List α,toDs (Qz g xs) = some ((xs.map e).flatten)
 | []=>rfl
 | x :: xs=>by rw [Qg3,List.map_cons,List.flatten_cons]; exact Q74 (h x) (Q53 h xs)
theorem Q75 {e:α→List D} {sz:Nat} (h:∀ x,(e x).length = sz):∀ xs:List α,Qtg sz xs.length ((xs.map e).flatten) = xs.map e
 | []=>rfl
 | x :: xs=>by
  simp only [List.length_cons,Qtg,List.map_cons,List.flatten_cons]
  have h1:(e x ++ (xs.map e).flatten).take sz = e x:=by rw [← h x]; simp
  have h2:(e x ++ (xs.map e).flatten).drop sz = (xs.map e).flatten:=by rw [← h x]; simp
  rw [h1,h2,Q75 h xs]
theorem Q76 {e:α→List D} {sz:Nat} (h:∀ x,(e x).length = sz):∀ xs:List α,((xs.map e).flatten).length = xs.length * sz
 | []=>by simp
 | x :: xs=>by simp only [List.map_cons,List.flatten_cons,List.length_append,h,Q76 h xs,List.length_cons,Nat.add_mul]; omega
theorem fSlA {n0 t n:Nat} {e:α→List D} {xs:List α} (h:∀ x,(e x).length = sz) (hn:xs.length = n):WkV (frzV (n0 + t) ((xs.map e).flatten) (.sl sz (n0 + t) 0 n n)) (.d (.lst sz (xs.map e))):=by
 subst hn
 have h1:=Q76 h xs
 have h2:((xs.map e).flatten.drop 0).take (xs.length * sz) = (xs.map e).flatten:=by rw [List.drop_zero,List.take_of_length_le (by omega)]
 simp only [frzV,if_true]
 rw [if_pos ⟨by omega,Nat.le_refl _⟩,h2,Q75 h xs]
 exact Qbit
end Go.Abs
end
section
namespace Go.Abs
open Go
def Qbby:D→Bool
 | .lst _ l=>l.isEmpty
 | _=>true
def Q54 (l:List (List D)):Bool:=l.all fun x=>x.all Qbby
def Q77:V→Bool
 | .d x=>Qbby x
 | .own _ l=>Q54 l
 | .ownT _ l=>Q54 l
 | .cref cs=>cs.isEmpty
 | .agg cs=>go cs
 | .tup vs=>go vs
 | .clo _ vs=>go vs
 | _=>true
where go:List V→Bool
 | []=>true
 | v :: vs=>Q77 v && go vs
theorem Qbh3 {imm imm' : Nat→Nat→Prop} {w:World} {x:D} {u:Value} (hp:Qbby x = true) (h:RD imm w x u):RD imm' w x u:=by
 cases x with
 | int k n=>simpa [RD] using h
 | bool b=>simpa [RD] using h
 | str s=>simpa [RD] using h
 | lst sz l =>
  simp only [Qbby,List.isEmpty_iff] at hp
  subst hp
  simp only [RD] at h ⊢
  obtain ⟨a,cap,h1,h2,_⟩:=h
  exact ⟨a,cap,h1,h2,.inl trivial⟩
theorem Qbbz {imm imm' : Nat→Nat→Prop} {w:World} {b:Nat} (hi:∀ o,imm b o→imm' b o):∀ {xs:List D} {o:Nat},xs.all Qbby = true→RDc imm w b xs o→RDc imm' w b xs o
 | [],_,_,_=>by simp [RDc]
 | x :: xs,o,hp,h=>by
  simp only [List.all_cons,Bool.and_eq_true] at hp
  simp only [RDc] at h ⊢
  obtain ⟨h1,⟨u,h2,h3⟩,h4⟩:=h
  exact ⟨hi _ h1,⟨u,h2,Qbh3 hp.1 h3⟩,Qbbz hi hp.2 h4⟩
theorem Qbb0 {imm imm' : Nat→Nat→Prop} {w:World} {sz b:Nat} (hi:∀ o,imm b o→imm' b o):∀ {l:List (List D)} {o:Nat},Q54 l = true→RDL imm w sz b l o→RDL imm' w sz b l o
 | [],_,_,_=>by simp [RDL]
 | x :: l,o,hp,h=>by
  simp only [Q54,List.all_cons,Bool.and_eq_true] at hp
  simp only [RDL] at h ⊢
  exact ⟨h.1,Qbbz hi hp.1 h.2.1,Qbb0 hi (by simpa [Q54] using hp.2) h.2.2⟩
section
variable {g:G} {w:World} {b κ:Nat} {keep:Owner→Prop} (hB:¬ keep (g.own b)) (hs:∀ ℓ i,keep ℓ→keep (ℓ.sub i)) (he:keep .ext)
include hB hs he
end
variable {Γ:Env} {σ:St}
def Qho (l:List (List D)) (room:Nat):List V:=l.flatten.map V.d ++ List.replicate room .und
structure Lone (Γ:Env):Prop where
 prot:∀ b,Prot (Γ.g0.own b)
 imm:∀ b o,Γ.g0.imm b o→b < Γ.w0.heap.size
theorem Lone.old {Γ:Env} (h:Lone Γ) {g:G} {w:World} (hf:Fr Γ.n0 Γ.g0 Γ.w0 g w) {b:Nat} (hb:¬ Prot (g.own b)):¬ b < Γ.w0.heap.size:=by
 intro hlt
 obtain ⟨h1,_,_⟩:=hf.old b hlt (h.prot b)
 rw [h1] at hb
 exact hb (h.prot b)
end Go.Abs
end
section
namespace Go.Abs
open Go Go.Sort
def D.val:D→Value
 | .int k n=>.int k n
 | .bool b=>.bool b
 | .str s=>.string s
 | .lst _ _=>.slice none 0 0
def D.scalar:D→Bool
 | .lst _ _=>false
 | _=>true
theorem Qbiw {imm:Nat→Nat→Prop} {w:World} {x:D} {u:Value} (hs:x.scalar = true):RD imm w x u↔u = x.val:=by
 cases x <;> simp [RD,D.val,D.scalar] at hs ⊢
theorem Qbjo {x:D} (hs:x.scalar = true):x.val.oneCell' = true:=by cases x <;> simp [D.scalar,D.val] at hs ⊢ <;> rfl
def rowV {α:Type} (e:α→List D) (xs:List α):List Value:=(xs.map e).flatten.map D.val
theorem Qbc7 (w:World) (n blk:Nat) (F:Array Value) (os:Array Obj) {c:Array Value} {e:TypeId} (h:w.heap[blk]? = some (.cells c e (0,0))):(grow (putRow id (Sort.ahead w n) blk 0 F) os).heap[blk]? = some (.cells (putCells id 0 F c) e (0,0)):=by
 have hlt:blk < w.heap.size:=(Array.getElem?_eq_some_iff.1 h).1
 have hsz:(putRow id (Sort.ahead w n) blk 0 F).heap.size = w.heap.size:=by simp [putRow,mapBlock,Sort.ahead]
 rw [heap_grow_old _ _ (by rw [hsz]; exact hlt)]
 show (w.heap.modify blk (onCells (putCells id 0 F)))[blk]? = _
 rw [Array.getElem?_modify,if_pos rfl,h]
 rfl
theorem Q55 (w:World) (n blk:Nat) (F:Array Value) (os:Array Obj) {b:Nat} (hb:b≠blk) (hlt:b < w.heap.size):(grow (putRow id (Sort.ahead w n) blk 0 F) os).heap[b]? = w.heap[b]?:=by
 have hsz:(putRow id (Sort.ahead w n) blk 0 F).heap.size = w.heap.size:=by simp [putRow,mapBlock,Sort.ahead]
 rw [heap_grow_old _ _ (by rw [hsz]; exact hlt)]
 show (w.heap.modify blk (onCells (putCells id 0 F)))[b]? = _
 rw [Array.getElem?_modify,if_neg (Ne.symm hb)]
def Qbkk {α:Type} (P:Program) (f:FuncId) (e:α→List D) (ex:Array Value) (srt:List α→List α):Prop :=
 ∀ (blk cap:Nat) (xs:List α) (w:World),(∀ j,j < (rowV e xs).length→w.cell? ⟨blk,j,none⟩ = (rowV e xs)[j]? ∧ w.frozen? ⟨blk,j,none⟩ = false)→blk < w.heap.size→xs.length < 4611686018427387904 →
  Calls P f (#[.slice (some ⟨blk,0,none⟩) xs.length cap] ++ ex) w fun e' w'=>e' = .returned (.tuple #[])∧∃ n os,w' = grow (putRow id (Sort.ahead w n) blk 0 (rowV e (srt xs)).toArray) os
theorem Qbap {α:Type} {e:α→List D} {sz:Nat} (hlen:∀ x,(e x).length = sz) (xs:List α):(rowV e xs).length = xs.length * sz:=by
 simp only [rowV,List.length_map]
 induction xs with
 | nil=>simp
 | cons x xs ih=>simp [hlen,ih,Nat.add_mul]; omega
theorem Qbep {α:Type} {P:Program} {f:FuncId} {e:α→List D} {sz:Nat} (hlen:∀ x,(e x).length = sz) (hsc:∀ x,(e x).all D.scalar = true) {srt:List α→List α} (hsl:∀ xs,(srt xs).length = xs.length)
  {ex:Array Value} {exV:List V} (hex:∀ g w us,RFs g w exV us→us = ex.toList) (hb:Qm3 P f = true) (hK:Qbkk P f e ex srt)
  (xs:List α) (c k0:Nat) (M:Mem) (nb:Nat) (hM:M k0 = some (.cells (Qho (xs.map e) ((c - xs.length) * sz)))) (hsz:xs.length < 4611686018427387904) :
  ACalls P f (.sl sz k0 0 xs.length c :: exV) M nb (.tup []) (M.put k0 (.cells (Qho ((srt xs).map e) ((c - xs.length) * sz)))) nb:=by
 refine ⟨hb,Nat.le_refl _,fun w g us hm hMon hfresh hus hfl hons=>?_⟩
 obtain ⟨u0,us',rfl,hu0,hus'⟩:=hus
 have h0:=Q93.1 hu0
 subst h0
 have h1:=hex _ _ _ hus'
 obtain ⟨hk0,hown,vals,et,hh,hrv,hone⟩:=hm.box k0 _ hM
 have hlt:g.box k0 < w.heap.size:=(Array.getElem?_eq_some_iff.1 hh).1
 obtain ⟨hvl,hvr⟩:=(Qdm _ _ _ _).1 hrv
 have hscf:∀ (l:List α),∀ y∈(l.map e).flatten,y.scalar = true:=by
  intro l y hy
  obtain ⟨r,hr,hy⟩:=List.mem_flatten.1 hy
  obtain ⟨x,_,rfl⟩:=List.mem_map.1 hr
  exact List.all_eq_true.1 (hsc x) y hy
 have hfl' : ∀ l:List α,(l.map e).flatten.length = l.length * sz:=fun l=>by have:=Qbap hlen l; rw [rowV,List.length_map] at this; exact this
 have hcell:∀ j,j < (rowV e xs).length→vals[j]? = (rowV e xs)[j]?:=by
  intro j hj
  rw [Qbap hlen] at hj
  have hjf:j < (xs.map e).flatten.length:=by rw [hfl']; exact hj
  have hjv:j < vals.length:=by
   rw [hvl]; simp only [Qho,List.length_append,List.length_map]; omega
  have hc:(Qho (xs.map e) ((c - xs.length) * sz))[j]? = some (.d (xs.map e).flatten[j]):=by
   simp only [Qho]
   rw [List.getElem?_append_left (by rw [List.length_map]; exact hjf),List.getElem?_map,List.getElem?_eq_getElem hjf]; rfl
  have:=hvr j _ _ hc (List.getElem?_eq_getElem hjv)
  simp only [RV] at this
  rw [Qbiw (hscf xs _ (List.getElem_mem hjf))] at this
  rw [List.getElem?_eq_getElem hjv,this]
  simp only [rowV,List.getElem?_map,List.getElem?_eq_getElem hjf,Option.map_some]
 have hcall:=hK (g.box k0) c xs w (fun j hj=>⟨by rw [← hcell j hj]; simp [World.cell?,hh],by simp [World.frozen?,hh]⟩) hlt hsz
 have hus2:(Value.slice (some ⟨g.box k0,0,none⟩) xs.length c :: us').toArray = #[.slice (some ⟨g.box k0,0,none⟩) xs.length c] ++ ex:=by
  rw [h1]; apply Array.ext'; simp
 rw [hus2]
 refine hcall.mono ?_
 rintro e' w' ⟨rfl,n,os,rfl⟩
 generalize hF:(rowV e (srt xs)).toArray = F
 have hFs:F.size = xs.length * sz:=by rw [← hF]; simp [Qbap hlen,hsl]
 have hblk:=Qbc7 w n (g.box k0) F os hh
 have hoth:∀ b,b≠g.box k0→b < w.heap.size→(grow (putRow id (Sort.ahead w n) (g.box k0) 0 F) os).heap[b]? = w.heap[b]?:=fun b hb hlt=>Q55 w n _ F os hb hlt
 have hsize:w.heap.size≤(grow (putRow id (Sort.ahead w n) (g.box k0) 0 F) os).heap.size:=by
  simp [putRow,mapBlock,Sort.ahead]
 generalize hw' : grow (putRow id (Sort.ahead w n) (g.box k0) 0 F) os = w' at hblk hoth hsize
 have himm:Imm g.imm g.imm w w':=by
  refine ⟨fun _ _ h=>h,fun b o h=>?_⟩
  obtain ⟨k1,k2⟩:=hm.imm b o h
  have hne:b≠g.box k0:=by rintro rfl; exact k2 k0 hown
  simp only [World.cell?,hoth b hne k1]
 have hkept:Kept g w g w' (There M) (fun o=>o ≠ .box k0):=⟨himm,fun _ _=>rfl,fun b hb hl=>⟨rfl,hoth b (by rintro rfl; exact hb hown) hl,fun _=>Iff.rfl⟩⟩
 have hsub:∀ (o:Owner) i,o ≠ .box k0→o.sub i ≠ .box k0:=by intro o i _; cases o <;> simp [Owner.sub]
 have hnew:∀ p:Nat→Prop,V.ons p (Qho ((srt xs).map e) ((c - xs.length) * sz)):=by
  intro p
  rw [Qi8]
  intro v hv
  simp only [Qho,List.mem_append,List.mem_map,List.mem_replicate] at hv
  rcases hv with ⟨x,_,rfl⟩ | ⟨_,rfl⟩ <;> trivial
 refine ⟨_,g,rfl,⟨fun k b hk=>?_,fun b o h=>⟨Nat.lt_of_lt_of_le (hm.imm b o h).1 hsize,(hm.imm b o h).2⟩⟩,⟨[],rfl,rfl⟩,trivial,fun k cs hk=>?_,?_⟩
 ·by_cases hkk:k = k0
  ·subst hkk
   rw [Qtj] at hk; cases hk
   refine ⟨hk0,hown,(putCells id 0 F vals.toArray).toList,et,by simpa using hblk,(Qdm _ _ _ _).2 ⟨?_,fun j cc x hc hx=>?_⟩,fun x hx=>?_⟩
   ·have e1:(Qho (xs.map e) ((c - xs.length) * sz)).length = xs.length * sz + (c - xs.length) * sz:=by
     simp only [Qho,List.length_append,List.length_map,List.length_replicate,hfl']
    have e2:(Qho ((srt xs).map e) ((c - xs.length) * sz)).length = xs.length * sz + (c - xs.length) * sz:=by
     simp only [Qho,List.length_append,List.length_map,List.length_replicate,hfl',hsl]
    rw [e2,← e1,← hvl]
    simp [putCells]
   ·have hx' : (putCells id 0 F vals.toArray)[j]? = some x:=by simpa using hx
    simp only [putCells,Array.getElem?_mapIdx,List.getElem?_toArray,Option.map_eq_some_iff] at hx'
    obtain ⟨y,hy,rfl⟩:=hx'
    simp only [Qho] at hc
    by_cases hj:j < ((srt xs).map e).flatten.length
    ·rw [List.getElem?_append_left (by rw [List.length_map]; exact hj),List.getElem?_map,List.getElem?_eq_getElem hj,Option.map_some,Option.some.injEq] at hc
     subst hc
     rw [hfl',hsl] at hj
     have hjF:j < F.size:=by rw [hFs]; exact hj
     rw [if_pos ⟨Nat.zero_le _,by omega⟩]
     have hj2:j < ((srt xs).map e).flatten.length:=by rw [hfl',hsl]; exact hj
     simp only [RV]
     rw [Qbiw (hscf (srt xs) _ (List.getElem_mem hj2))]
     simp only [Nat.sub_zero,id]
     rw [getElem!_pos F j hjF]
     subst hF
     simp only [rowV,List.getElem_toArray,List.getElem_map]
    ·rw [List.getElem?_append_right (by rw [List.length_map]; omega)] at hc
     have:cc = .und:=(List.mem_replicate.1 (List.mem_of_getElem? hc)).2
     subst this; simp [RV]
   ·obtain ⟨j,hj⟩:=List.getElem?_of_mem hx
    have hx' : (putCells id 0 F vals.toArray)[j]? = some x:=by simpa using hj
    simp only [putCells,Array.getElem?_mapIdx,List.getElem?_toArray,Option.map_eq_some_iff] at hx'
    obtain ⟨y,hy,rfl⟩:=hx'
    split
    ·rename_i hr
     have hjF:j - 0 < F.size:=by omega
     simp only [id]
     rw [getElem!_pos F _ hjF]
     subst hF
     simp only [rowV,List.getElem_toArray,List.getElem_map]
     exact Qbjo (hscf (srt xs) _ (List.getElem_mem _))
    ·exact hone y (List.mem_of_getElem? hy)
  ·rw [Qfb _ _ hkk] at hk
   obtain ⟨k1,k2,k3⟩:=hm.box k b hk
   cases b with
   | mp es c =>
    obtain ⟨ents,q1,q2⟩:=k3
    have hne:g.box k≠g.box k0:=by
     intro h; rw [h,hown] at k2; cases k2; exact hkk rfl
    exact ⟨k1,k2,ents,(hoth _ hne (Array.getElem?_eq_some_iff.1 q1).1).trans q1,Qzp (g:=g) (g':=g) hkept.imm q2⟩
   | cells cs =>
    obtain ⟨vals2,e2,q1,q2,q3⟩:=k3
    have hne:g.box k≠g.box k0:=by
     intro h; rw [h,hown] at k2; cases k2; exact hkk rfl
    refine ⟨k1,k2,vals2,e2,(hoth _ hne (Array.getElem?_eq_some_iff.1 q1).1).trans q1,?_,q3⟩
    exact RVs_mono hkept hsub (by simp) cs (.box k) 0 vals2 (by simpa using hkk) (hMon k cs hk) q2
 ·by_cases hkk:k = k0
  ·subst hkk
   rw [Qtj] at hk; cases hk
   exact hnew _
  ·rw [Qfb _ _ hkk] at hk
   exact ons_mono (fun j hj=>There.put hj) _ (hMon k cs hk)
 ·refine ⟨by rw [← hw']; rfl,by rw [← hw']; rfl,by rw [← hw']; rfl,hsize,himm,fun _ _=>rfl,fun b hb ho=>⟨rfl,hoth b ?_ hb,fun _=>Iff.rfl⟩⟩
  rintro rfl
  rw [hown] at ho
  exact ho
end Go.Abs
end
section
namespace Go.Abs
open Go
variable {Γ:Env} {σ:St} {α:Type}
section
variable {g:G} {w:World} (hx:∀ b,g.own b = .ext)
include hx
end
open Classical in
theorem ACalls.frz {P:Program} {f:FuncId} {args:List V} {M M' : Mem} {nb nb' sz:Nat} {l:List (List D)} (h:ACalls P f args M nb (.own sz l) M' nb') (hpl:Q54 l = true):ACalls P f args M nb (.f (.lst sz l)) M' nb':=by
 obtain ⟨h1,h2,h3⟩:=h
 refine ⟨h1,h2,fun w g us k1 k2 k3 k4 k5 k6=>(h3 w g us k1 k2 k3 k4 k5 k6).mono ?_⟩
 rintro e w' ⟨v,g',rfl,hm,hv,_,hon,hf⟩
 let g2:G:=⟨g'.box,g'.imm,fun b=>if g'.own b = .res [] then .ext else g'.own b⟩
 have hown:∀ b,g'.own b ≠ .res []→g2.own b = g'.own b:=fun b hb=>by simp [g2,hb]
 have hkept:Kept g' w' g2 w' (fun _=>True) (fun o=>o ≠ .res []):=⟨⟨fun _ _ h=>h,fun _ _ _=>rfl⟩,fun _ _=>rfl,fun b hb _=>⟨hown b hb,rfl,fun _=>Iff.rfl⟩⟩
 have hsub:∀ (o:Owner) i,o ≠ .res []→o.sub i ≠ .res []:=by intro o i _; cases o <;> simp [Owner.sub]
 refine ⟨v,g2,rfl,⟨fun k b hk=>?_,fun b o hb=>?_⟩,?_,trivial,hon,?_⟩
 ·obtain ⟨q1,q2,q3⟩:=hm.box k b hk
  refine ⟨q1,(hown _ (by rw [q2]; simp)).trans q2,?_⟩
  cases b with
  | mp es c =>
   obtain ⟨ents,p1,p2⟩:=q3
   exact ⟨ents,p1,Qzp (g:=g') (g':=g2) hkept.imm p2⟩
  | cells cs =>
   obtain ⟨vals,e,p1,p2,p3⟩:=q3
   exact ⟨vals,e,p1,RVs_mono hkept hsub (by simp) cs (.box k) 0 vals (by simp) (by rw [Qi8]; intro v _; exact Qbc5 v) p2,p3⟩
 ·obtain ⟨q1,q2⟩:=hm.imm b o hb
  refine ⟨q1,fun k=>?_⟩
  simp only [g2]
  split
  ·simp
  ·exact q2 k
 ·have hrd:=Qjh hv
  simp only [RV] at hv ⊢
  rcases hv with ⟨⟨a,rfl⟩,rfl⟩ | ⟨b,cap,vals,e,rfl,hb,hh,h4,h5,h6,h7,h8⟩
  ·simp only [RD]; exact ⟨a,0,rfl,Nat.le_refl _,.inl trivial⟩
  ·simp only [RD]
   refine ⟨_,cap,rfl,h4,.inr ⟨b,0,rfl,?_⟩⟩
   have h9:=RDL_strong sz b l 0 h8
   exact Qbb0 (fun o ho=>⟨ho.1,by simp [g2,hb],ho.2⟩) hpl h9
 ·refine ⟨hf.os,hf.tape,hf.output,hf.size,hf.imm,hf.box,fun b hb ho=>?_⟩
  obtain ⟨q1,q2,q3⟩:=hf.old b hb ho
  exact ⟨(hown b (by rw [q1]; intro e; rw [e] at ho; exact ho)).trans q1,q2,q3⟩
def PL:List (Nat×V)→Prop
 | []=>True
 | (_,v) :: E=>Q77 v = true∧PL E
theorem PL.at:∀ {E:List (Nat×V)},PL E→∀ t,Q77 (look E t) = true
 | [],_,t=>rfl
 | (u,v) :: E,h,t=>by
  simp only [look]
  cases hb:Nat.beq t u with
  | true=>exact h.1
  | false=>exact PL.at h.2 t
def PV:List V→Prop
 | []=>True
 | v :: vs=>Q77 v = true∧PV vs
theorem PV.go:∀ {vs:List V},PV vs→Q77.go vs = true
 | [],_=>rfl
 | v :: vs,h=>by simp only [Q77.go,Bool.and_eq_true]; exact ⟨h.1,PV.go h.2⟩
def PB (t0 i:Nat):List (Nat×Bx)→Prop
 | []=>True
 | (t,.cells cs) :: L=>PV (bif Nat.beq t t0 then cs.set i .und else cs)∧PB t0 i L
 | (_,.mp ..) :: _=>False
theorem PB.at {t0 i:Nat}:∀ {L:List (Nat×Bx)},PB t0 i L→∀ t cs,Qcp L t = some (.cells cs)→Q77.go (if t = t0 then cs.set i .und else cs) = true
 | [],_,t,cs,h=>by cases h
 | (u,.cells ds) :: L,hp,t,cs,h=>by
  simp only [Qcp] at h
  cases hb:Nat.beq t u with
  | true =>
   have:=Nat.eq_of_beq_eq_true hb; subst this
   rw [hb] at h; cases h
   have:=hp.1.go
   by_cases ht:t = t0
   ·subst ht; rw [show Nat.beq t t = true from by simp] at this; rw [if_pos rfl]; exact this
   ·have hf:Nat.beq t t0 = false:=by
     cases hq:Nat.beq t t0 with
     | false=>rfl
     | true=>exact absurd (Nat.eq_of_beq_eq_true hq) ht
    rw [hf] at this; rw [if_neg ht]; exact this
  | false=>rw [hb] at h; exact PB.at hp.2 t cs h
 | (u,.mp ..) :: L,hp,t,cs,h=>hp.elim
def RowK (P:Program) (c:Nat) (e:α→List D) (sz:Nat) (ex:List V) (f:List α→Option (List α)):Prop :=
 ∀ xs ys,f xs = some ys→ys.length = xs.length∧(xs = []→ys = xs∧∀ M nb,ACalls P c (.d (.lst sz (List.map e xs)) :: ex) M nb (.tup []) M nb) ∧
  (xs.length≤maxLen→∀ cap k0 M nb,M k0 = some (.cells (Qho (List.map e xs) ((cap - xs.length) * sz)))→ACalls P c (.sl sz k0 0 xs.length cap :: ex) M nb (.tup []) (M.put k0 (.cells (Qho (List.map e ys) ((cap - xs.length) * sz)))) nb)
section
variable {pc d nb:Nat} {os:List COp} {E:List (Nat×V)} {M0:Mem} {L:List (Nat×Bx)} {Q:St→Prop} {gd:Option (Nat×Bool)}
theorem Rn.callRow {f:FuncId} {as:List Arg} {args:List V} {r:V} {t:Nat} {cs cs' : List V} (hw:Wn E gd) (ha:V.dems (as.map (·.val (look E))) = args) (ht:Qcp L t = some (.cells cs)) (hC:∀ M,M (Γ.n0 + t) = some (.cells cs)→ACalls Γ.P f args M nb r (M.put (Γ.n0 + t) (.cells cs')) nb)
  (hpc:pcOf pc = 0) (h:Rn Γ pc os ⟨look ((d,r) :: E),Qr Γ.n0 ((t,.cells cs') :: L) M0,nb⟩ Q):Rn Γ pc (⟨some d,.call f,as,false,gd⟩ :: os) ⟨look E,Qr Γ.n0 L M0,nb⟩ Q:=by
 refine Rn.cons ?_
 unfold COp.run
 rw [hw.wanted]
 simp only [show (K.call f).isCall = true from rfl,if_true,COp.callee,ha]
 rw [hpc]
 refine ⟨r,(Qr Γ.n0 L M0).put (Γ.n0 + t) (.cells cs'),nb,hC _ (by rw [Qc9]; exact ht),fun k hk=>?_,fun k cs2 hk hM=>.inl ?_,?_⟩
 ·simp only [Mem.put]; split
  ·rfl
  ·exact hk
 ·rw [Qfb _ _ (by omega)]
 ·rw [show Qbl (look E) (some d) r = look ((d,r) :: E) from Qdp E d r,Qfc]
  exact h
end
end Go.Abs
end
section
namespace Go.Abs
open Go
variable {κ β:Type} [BEq κ]
def mapE (ek:κ→V) (ev:β→V):Nat→List (κ×β)→List (V×V×Nat)
 | _,[]=>[]
 | i,(k,v) :: m=>(ek k,ev v,i) :: mapE ek ev (i + 1) m
def idxS (m:List (κ×β)) (k:κ):Nat:=match m with
 | []=>0
 | (k',_) :: m=>if k == k' then 0 else idxS m k + 1
def hasM (m:List (κ×β)) (k:κ):Bool:=m.any fun p=>k == p.1
def getM (m:List (κ×β)) (k:κ) (z:β):β:=match m with
 | []=>z
 | (k',v) :: m=>if k == k' then v else getM m k z
def setM (m:List (κ×β)) (k:κ) (v:β):List (κ×β):=match m with
 | []=>[(k,v)]
 | (k',v') :: m=>if k == k' then (k,v) :: m else (k',v') :: setM m k v
def putM (m:List (κ×β)) (i:Nat) (v:β):List (κ×β):=m.modify i fun p=>(p.1,v)
theorem Q78 {k k' : κ} {v:β} {m:List (κ×β)}:hasM ((k',v) :: m) k = ((k == k') || hasM m k):=rfl
theorem Q79 {ek:κ→V} {ev:β→V}:∀ (i:Nat) (m:List (κ×β)),(mapE ek ev i m).length = m.length
 | _,[]=>rfl
 | i,_ :: m=>by simp [mapE,Q79 (i + 1) m]
theorem Qbaq {ek:κ→V} {ev:β→V}:∀ (i j:Nat) (m:List (κ×β)),(mapE ek ev i m)[j]? = (m[j]?).map fun p=>(ek p.1,ev p.2,i + j)
 | _,j,[]=>by simp [mapE]
 | i,0,_ :: m=>by simp [mapE]
 | i,j + 1,_ :: m=>by
  simp only [mapE,List.getElem?_cons_succ,Qbaq (i + 1) j m]
  rw [show i + 1 + j = i + (j + 1) from by omega]
theorem Q37 {ek:κ→V} {ev:β→V}:∀ (i:Nat) (m n:List (κ×β)),mapE ek ev i (m ++ n) = mapE ek ev i m ++ mapE ek ev (i + m.length) n
 | _,[],n=>by simp [mapE]
 | i,(k,v) :: m,n=>by simp [mapE,Q37 (i + 1) m n]; congr 1; omega
theorem Q48 {ek:κ→V} {ev:β→V} {kd:MK} (hk:∀ a,kd.ok (ek a) = true):∀ (i:Nat) (m:List (κ×β)),kd.all (mapE ek ev i m) = true
 | _,[]=>rfl
 | i,(k,v) :: m=>by
  have:=Q48 (ev:=ev) hk (i + 1) m
  simp only [MK.all] at *
  simp [mapE,hk,this]
section
variable {ek:κ→V} {ev:β→V} (hs:∀ a b,Qh8 (ek a) (ek b) = (a == b))
include hs
theorem Q03 {k:κ}:∀ (i:Nat) (m:List (κ×β)) (z:β),Qry (ek k) (mapE ek ev i m) = if hasM m k then some (idxS m k,ev (getM m k z)) else none
 | _,[],z=>rfl
 | i,(k',v) :: m,z=>by
  simp only [mapE,Qry,hs,Q03 (i + 1) m z,Q78,idxS,getM]
  by_cases hb:(k == k') = true
  ·simp [hb]
  ·simp only [hb,Bool.false_eq_true,if_false,Bool.false_or]
   by_cases hq:hasM m k = true
   ·rw [if_pos hq,if_pos hq]; rfl
   ·rw [if_neg hq,if_neg hq]; rfl
omit hs in
theorem Qbgk {k:κ}:∀ {m:List (κ×β)},hasM m k = true→idxS m k < m.length
 | [],h=>by cases h
 | (k',v) :: m,h=>by
  simp only [idxS,hasM,List.any_cons] at *
  cases hb:(k == k') with
  | true=>simp
  | false =>
   rw [hb] at h
   have:=Qbgk (m:=m) (by simpa [hasM] using h)
   simp; exact this
omit hs in
theorem Qbb1 {k:κ}:∀ {m:List (κ×β)},hasM m k = false→idxS m k = m.length
 | [],h=>rfl
 | (k',v) :: m,h=>by
  simp only [hasM,List.any_cons,Bool.or_eq_false_iff] at h
  simp only [idxS,h.1,Bool.false_eq_true,if_false,List.length_cons]
  rw [Qbb1 (m:=m) h.2]
omit hs in
theorem Q8a {k:κ} {v:β}:∀ {m:List (κ×β)},hasM m k = false→setM m k v = m ++ [(k,v)]
 | [],h=>rfl
 | (k',v') :: m,h=>by
  simp only [hasM,List.any_cons,Bool.or_eq_false_iff] at h
  simp only [setM,h.1,Bool.false_eq_true,if_false,List.cons_append]
  rw [Q8a (m:=m) h.2]
omit hs in
theorem Qbar {k:κ} {v:β}:∀ (i:Nat) {m:List (κ×β)},hasM m k = true→modM (ek k) (ev v) (idxS m k) (mapE ek ev i m) = mapE ek ev i (setM m k v)
 | _,[],h=>by cases h
 | i,(k',v') :: m,h=>by
  simp only [idxS,setM,mapE,hasM,List.any_cons] at *
  cases hb:(k == k') with
  | true=>simp [modM,mapE]
  | false =>
   rw [hb] at h
   simp only [Bool.false_eq_true,if_false,modM,mapE]
   rw [Qbar (i + 1) (by simpa [hasM] using h)]
omit hs in
theorem Q38 {k:κ} {v:β}:∀ {m:List (κ×β)},hasM m k = true→(setM m k v).length = m.length
 | [],h=>by cases h
 | (k',v') :: m,h=>by
  simp only [setM,hasM,List.any_cons] at *
  cases hb:(k == k') with
  | true=>simp
  | false =>
   rw [hb] at h
   simp [Q38 (m:=m) (by simpa [hasM] using h)]
omit hs in
theorem Qbgl {v:β}:∀ (i j:Nat) {m:List (κ×β)} {p:κ×β},m[j]? = some p→modM (ek p.1) (ev v) j (mapE ek ev i m) = mapE ek ev i (putM m j v)
 | i,0,q :: m,p,h=>by simp at h; subst h; simp [putM,mapE,modM]
 | i,j + 1,q :: m,p,h=>by
  simp at h
  have:=Qbgl (v:=v) (i + 1) j h
  simp only [putM,mapE,modM,List.modify_succ_cons] at *
  rw [this]
 | i,j,[],p,h=>by simp at h
omit hs in
theorem Qbb2:∀ (i j:Nat) (m:List (κ×β)),j < m.length→Q8u ((i + j:Nat):Int) (mapE ek ev i m) = some j
 | i,j,[],h=>by simp at h
 | i,0,_ :: m,h=>by simp [mapE,Q8u]
 | i,j + 1,_ :: m,h=>by
  have:=Qbb2 (i + 1) j m (by simpa using h)
  simp only [mapE,Q8u]
  have hne:((i:Int) == ((i + (j + 1):Nat):Int)) = false:=by simp; omega
  rw [hne,show i + (j + 1) = i + 1 + j from by omega,this]; rfl
end
variable {Γ:Env} {pc d nb:Nat} {os:List COp} {E:List (Nat×V)} {M M' M0:Mem} {L:List (Nat×Bx)} {Q:St→Prop} {gd:Option (Nat×Bool)} {a b c:Arg} {ek:κ→V} {ev:β→V} {m:List (κ×β)}
theorem Rn.k0 {k:K} {as:List Arg} {v:V} (hw:Wn E gd) (hc:k.isCall = false) (hn:k.isNil = false) (hk:Qp Γ.n0 (Γ.n0 + 0) k (V.dems (as.map (·.val (look E)))) M = some (v,M'))
  (h:Rn Γ pc os ⟨look E,M',nb⟩ Q):Rn Γ pc (⟨none,k,as,false,gd⟩ :: os) ⟨look E,M,nb⟩ Q:=by
 refine Rn.cons ?_
 unfold COp.run
 rw [hw.wanted]
 simp only [hc,hn,Bool.false_eq_true,if_false,COp.step,COp.xs,Option.getD_none,hk,Qbl]
 exact h
theorem Rn.mkmap (hw:Wn E gd) (hf:(Qcp L d).isNone = true) (ek:κ→V) (ev:β→V) (h:Rn Γ pc os ⟨look ((d,.mp (Γ.n0 + d)) :: E),Qr Γ.n0 ((d,.mp (mapE ek ev 0 []) 0) :: L) M0,nb⟩ Q) :
  Rn Γ pc (⟨some d,.mkmap,[],false,gd⟩ :: os) ⟨look E,Qr Γ.n0 L M0,nb⟩ Q:=by
 refine Rn.k hw rfl rfl ?_ h
 simp only [List.map_nil,V.dems,Qp]
 rw [if_pos (by simp [Qr4 (Γ:=Γ) (M0:=M0) hf]),Qfc]; rfl
theorem Rn.lenm {t:Nat} (hw:Wn E gd) (ha:a.val (look E) = .mp (Γ.n0 + t)) (hM:Qcp L t = some (.mp (mapE ek ev 0 m) m.length)) (h:Rn Γ pc os ⟨look ((d,.d (.int .i64 m.length)) :: E),Qr Γ.n0 L M0,nb⟩ Q) :
  Rn Γ pc (⟨some d,.lenm,[a],false,gd⟩ :: os) ⟨look E,Qr Γ.n0 L M0,nb⟩ Q:=by
 refine Rn.k hw rfl rfl ?_ h
 simp only [List.map_cons,List.map_nil,V.dems,ha,V.dem,Qp,Qi hM,Q79]
section
variable (hs:∀ a b,Qh8 (ek a) (ek b) = (a == b)) {kd:MK} (hk:∀ a,kd.ok (ek a) = true) (hv:∀ b,(ev b).dat = true)
include hs hk hv
theorem Rn.lookup {t:Nat} {z:V} {k:κ} (zb:β) (hz:ev zb = z) (hw:Wn E gd) (ha:a.val (look E) = .mp (Γ.n0 + t)) (hb:(b.val (look E)).dem = ek k) (hM:Qcp L t = some (.mp (mapE ek ev 0 m) m.length))
  (h:Rn Γ pc os ⟨look ((d,ev (getM m k zb)) :: E),Qr Γ.n0 L M0,nb⟩ Q):Rn Γ pc (⟨some d,.lookup kd false z,[a,b],false,gd⟩ :: os) ⟨look E,Qr Γ.n0 L M0,nb⟩ Q:=by
 subst hz
 refine Rn.k hw rfl rfl ?_ h
 simp only [List.map_cons,List.map_nil,V.dems,ha,hb,V.dem,Qp,Qi hM,hk,Q48 hk,Bool.and_self,if_true,Q03 hs 0 m zb]
 cases hh:hasM m k with
 | true=>simp [hv]
 | false =>
  have:getM m k zb = zb:=by
   clear hM h
   induction m with
   | nil=>rfl
   | cons p m ih =>
    simp only [hasM,List.any_cons,Bool.or_eq_false_iff] at hh
    simp only [getM,hh.1,Bool.false_eq_true,if_false]
    exact ih hh.2
  simp [hv,this]
theorem Rn.lookupC {t:Nat} {z:V} {k:κ} (zb:β) (hz:ev zb = z) (hw:Wn E gd) (ha:a.val (look E) = .mp (Γ.n0 + t)) (hb:(b.val (look E)).dem = ek k) (hM:Qcp L t = some (.mp (mapE ek ev 0 m) m.length))
  (h:Rn Γ pc os ⟨look ((d,.tup [ev (getM m k zb),.d (.bool (hasM m k))]) :: E),Qr Γ.n0 L M0,nb⟩ Q):Rn Γ pc (⟨some d,.lookup kd true z,[a,b],false,gd⟩ :: os) ⟨look E,Qr Γ.n0 L M0,nb⟩ Q:=by
 subst hz
 refine Rn.k hw rfl rfl ?_ h
 simp only [List.map_cons,List.map_nil,V.dems,ha,hb,V.dem,Qp,Qi hM,hk,Q48 hk,Bool.and_self,if_true,Q03 hs 0 m zb]
 cases hh:hasM m k with
 | true=>simp [hv]
 | false =>
  have:getM m k zb = zb:=by
   clear hM h
   induction m with
   | nil=>rfl
   | cons p m ih =>
    simp only [hasM,List.any_cons,Bool.or_eq_false_iff] at hh
    simp only [getM,hh.1,Bool.false_eq_true,if_false]
    exact ih hh.2
  simp [hv,this]
theorem Rn.mapset {t:Nat} {k:κ} {v:β} (hw:Wn E gd) (ha:a.val (look E) = .mp (Γ.n0 + t)) (hb:(b.val (look E)).dem = ek k) (hc:Q2w (c.val (look E)).dem = ev v) (hcd:(c.val (look E)).dem.dat = true) (hM:Qcp L t = some (.mp (mapE ek ev 0 m) m.length))
  (h:Rn Γ pc os ⟨look E,Qr Γ.n0 ((t,.mp (mapE ek ev 0 (setM m k v)) (setM m k v).length) :: L) M0,nb⟩ Q):Rn Γ pc (⟨none,.mapset kd,[a,b,c],false,gd⟩ :: os) ⟨look E,Qr Γ.n0 L M0,nb⟩ Q:=by
 refine Rn.k0 (v:=.und) hw rfl rfl ?_ h
 simp only [List.map_cons,List.map_nil,V.dems,ha,hb,hc,V.dem,Qp,Qi hM,hk,hcd,Q48 hk,Bool.and_self,if_true]
 rw [Q03 hs 0 m v,← Qfc]
 cases hh:hasM m k with
 | true=>simp only [if_true]; rw [Qbar 0 hh,Q38 hh]
 | false =>
  simp only [Bool.false_eq_true,if_false]
  rw [Q8a hh,Q37]
  simp [mapE]
theorem Rn.mapentry {t:Nat} {z:V} {k:κ} (zb:β) (hz:ev zb = z) (hw:Wn E gd) (ha:a.val (look E) = .mp (Γ.n0 + t)) (hb:(b.val (look E)).dem = ek k) (hM:Qcp L t = some (.mp (mapE ek ev 0 m) m.length))
  (h:Rn Γ pc os ⟨look ((d,.tup [ev (getM m k zb),.d (.int .i64 (idxS m k))]) :: E),Qr Γ.n0 ((t,.mp (mapE ek ev 0 (setM m k (getM m k zb))) (setM m k (getM m k zb)).length) :: L) M0,nb⟩ Q):Rn Γ pc (⟨some d,.mapentry kd z,[a,b],false,gd⟩ :: os) ⟨look E,Qr Γ.n0 L M0,nb⟩ Q:=by
 subst hz
 refine Rn.k hw rfl rfl ?_ h
 simp only [List.map_cons,List.map_nil,V.dems,ha,hb,V.dem,Qp,Qi hM,hk,hv,Q48 hk,Bool.and_self,if_true,Q03 hs 0 m zb]
 rw [← Qfc]
 cases hh:hasM m k with
 | true =>
  have hlt:=Qbgk hh
  simp only [if_true,hv,Qbaq,List.getElem?_eq_getElem hlt,Option.map_some,Nat.zero_add]
  rw [Qbar 0 hh,Q38 hh]
 | false =>
  have:getM m k zb = zb:=by
   clear hM h
   induction m with
   | nil=>rfl
   | cons p m ih =>
    simp only [hasM,List.any_cons,Bool.or_eq_false_iff] at hh
    simp only [getM,hh.1,Bool.false_eq_true,if_false]
    exact ih hh.2
  simp only [Bool.false_eq_true,if_false]
  rw [this,Q8a hh,Q37,Qbb1 hh]
  simp [mapE]
omit hs hk in
theorem Rn.entrystore {t i:Nat} {v:β} (hi:i < m.length) (hw:Wn E gd) (ha:a.val (look E) = .mp (Γ.n0 + t)) (hb:b.val (look E) = .d (.int .i64 (i:Int))) (hc:Q2w (c.val (look E)).dem = ev v) (hcd:(c.val (look E)).dem.dat = true) (hM:Qcp L t = some (.mp (mapE ek ev 0 m) m.length))
  (h:Rn Γ pc os ⟨look E,Qr Γ.n0 ((t,.mp (mapE ek ev 0 (putM m i v)) (putM m i v).length) :: L) M0,nb⟩ Q):Rn Γ pc (⟨none,.entrystore,[a,b,c],false,gd⟩ :: os) ⟨look E,Qr Γ.n0 L M0,nb⟩ Q:=by
 refine Rn.k0 (v:=.und) hw rfl rfl ?_ h
 have hbn:=Qbb2 (ek:=ek) (ev:=ev) 0 i m hi
 rw [Nat.zero_add] at hbn
 simp only [List.map_cons,List.map_nil,V.dems,ha,hb,hc,V.dem,Qp,Qi hM,hcd,if_true,hbn,Qbaq,List.getElem?_eq_getElem hi,Option.map_some]
 rw [← Qfc,Qbgl 0 i (List.getElem?_eq_getElem hi)]
 simp [putM]
end
theorem kMp {n0 t:Nat} {sites:List Nat} (h:sites.any (fun u=>Nat.beq t u) = false):WkV (Qd7 (Qme n0 sites) (.mp (n0 + t))) (.mp (n0 + t)):=by
 refine .same ?_
 simp [Qd7,Qvr,h]
end Go.Abs
end
section
namespace Go.Abs
open Go
abbrev oo (d:Nat) (k:K) (as:List Arg):COp:=⟨some d,k,as,false,none⟩
abbrev oM (d a:Nat):COp:=⟨some d,.mov,[.t a],false,none⟩
abbrev oL (d a:Nat):COp:=⟨some d,.load false 1,[.t a],false,none⟩
abbrev oF (d n a:Nat):COp:=⟨some d,.fld n,[.t a],false,none⟩
abbrev cI (n:Int):Arg:=.c (.d (.int .i64 n))
abbrev ot (d:Nat) (k:K) (as:List Arg):COp:=⟨some d,k,as,true,none⟩
universe u
variable {α:Type u} {Γ:Env} {pc d nb:Nat} {os:List COp} {E:List (Nat×V)} {M:Mem} {Q:St→Prop} {gd:Option (Nat×Bool)} {a b:Arg} {sz:Nat}
def rowO (l:List α) (i:Nat):Option α:=l[i]?
theorem Rn.lit {bytes:Nat} {xs:List α} {e:α→List D} {ls:List (List D)} (hw:Wn E gd) (hl:xs.map e = ls) (hbd:(Nat.ble bytes 128 && Nat.ble 1 sz && Nat.ble ls.length lim) = true)
  (h:Rn Γ pc os ⟨look ((d,.own sz (xs.map e)) :: E),M,nb⟩ Q):Rn Γ pc (⟨some d,.append sz bytes,[.c (.nils sz),.c (.d (.lst sz ls))],true,gd⟩ :: os) ⟨look E,M,nb⟩ Q:=by
 subst hl
 simp only [Bool.and_eq_true] at hbd
 have h1:=Nat.le_of_ble_eq_true hbd.1.1
 have h2:0 < sz:=Nat.le_of_ble_eq_true hbd.1.2
 have h3:=Nat.le_of_ble_eq_true hbd.2
 refine Rn.kT hw rfl rfl (v:=.own sz (xs.map e)) ?_ (fun i=>?_) h
 ·simp only [List.map_cons,List.map_nil,Arg.val,Qp,Qit,if_true]
  rw [if_pos (by simp only [h1,h2,h3,decide_true,Bool.and_self])]
 ·simp only [List.map_cons,List.map_nil,Arg.val,Qcc,Qbc,Arg.putTo]
  rw [Qdp]
theorem tv:True:=trivial
abbrev o_ (l:List Int):V:=.own 1 (List.map (eI .i64) l)
theorem si {β:Type u} {x y:β} (h:some x = some y):x = y:=Option.some.inj h
theorem sr {cs:List COp} {y:CC} {σ:St} {Q:Ex→St→Prop} (h:Rn Γ 9 cs σ (Qbhz Γ y Q .norm)):Tr Γ (.seq (.region cs 9 []) y) σ Q:=Tr.seq (Tr.rgn h)
theorem nt {y:CC} {σ:St} {Q:Ex→St→Prop} (h:Tr Γ y σ Q):Rn Γ 9 [] σ (Qbhz Γ y Q .norm):=Rn.nil (toN h)
theorem md {x:D} (ha:a.val (look E) = .d x) (h:Rn Γ pc os ⟨look ((d,.d x) :: E),M,nb⟩ Q):Rn Γ pc (⟨some d,.mov,[a],false,none⟩ :: os) ⟨look E,M,nb⟩ Q:=Rn.movD trivial ha h
end Go.Abs
end
section
namespace Go.Abs
open Go
end Go.Abs
end
section
namespace Go.Abs
open Go
variable {α:Type}
theorem WkVs.app {a a' b b' : List V} (h:WkVs a a') (k:WkVs b b'):WkVs (a ++ b) (a' ++ b'):=by
 induction h with
 | nil=>exact k
 | cons h t ih=>exact .cons h ih
theorem Qbjp {g g' : α→List V} {f:V→V}:∀ {xs:List α},(∀ x∈xs,WkVs ((g x).map f) (g' x))→WkVs ((Qz g xs).map f) (Qz g' xs)
 | [],_=>.nil
 | x :: xs,h=>by
  rw [Qg3,Qg3,List.map_append]
  exact .app (h x (by simp)) (Qbjp fun y hy=>h y (by simp [hy]))
theorem Qbk3 {sz:Nat} {e:α→List D} {n:Int} {xs:List (List α)} {f:V→V} (hf:f (.nils sz) = .nils sz) (h:mkO n ([]:List α) = some xs):WkVs ((Qz (fun (x:List α)=>[V.nils sz]) xs).map f) (Qz (fun (x:List α)=>[V.own sz (List.map e x)]) xs):=by
 refine Qbjp fun x hx=>?_
 unfold mkO at h
 split at h <;> cases h
 obtain rfl:=List.eq_of_mem_replicate hx
 simp only [List.map_cons,List.map_nil,hf]
 exact .cons (WkV.nilsO _) .nil
theorem Qbk4 {sz:Nat} {e:α→List D} {xs:List (List α)} {f:V→V} (hf:∀ l,f (.own sz l) = .own sz l):WkVs ((Qz (fun (x:List α)=>[V.own sz (List.map e x)]) xs).map f) (Qz (fun (x:List α)=>[V.d (.lst sz (List.map e x))]) xs):=by
 refine Qbjp fun x hx=>?_
 simp only [List.map_cons,List.map_nil,hf]
 exact .cons (WkV.dem' rfl) .nil
theorem Q04 {g:α→V}:∀ (xs:List α),Qz (fun x=>[g x]) xs = xs.map g
 | []=>rfl
 | x :: xs=>by rw [Qg3,Q04 xs]; rfl
variable {Γ:Env} {pc d nb:Nat} {os:List COp} {E:List (Nat×V)} {M M0:Mem} {L:List (Nat×Bx)} {Q:St→Prop} {gd:Option (Nat×Bool)} {a b:Arg} {sz:Nat} {e:α→List D}
theorem Rn.loadTA {t:Nat} {i:Int} {xs:List (List α)} {x:List α} (hw:Wn E gd) (ha:a.val (look E) = .ptr (Γ.n0 + t) (0 + i.toNat * 1)) (hM:Qcp L t = some (.cells (Qz (fun (r:List α)=>[V.own sz (List.map e r)]) xs))) (hx:getO xs i = some x)
  (h:Rn Γ pc os ⟨look ((d,.own sz (List.map e x)) :: E),Qr Γ.n0 ((t,.cells ((Qz (fun (r:List α)=>[V.own sz (List.map e r)]) xs).set i.toNat (.d (.lst sz (List.map e x))))) :: L) M0,nb⟩ Q) :
  Rn Γ pc (⟨some d,.loadT,[a],false,gd⟩ :: os) ⟨look E,Qr Γ.n0 L M0,nb⟩ Q:=by
 have hx' : xs[i.toNat]? = some x:=by
  unfold getO at hx
  split at hx
  ·exact hx
  ·cases hx
 have e0:0 + i.toNat * 1 = i.toNat:=by omega
 rw [e0] at ha
 refine Rn.loadT hw ha hM ?_ rfl h
 rw [Q04,List.getElem?_map,hx']; rfl
theorem Rn.storeTA {t u:Nat} {i:Int} {xs ys:List (List α)} {y:List α} {c0:V} (hw:Wn E gd) (ha:a.val (look E) = .ptr (Γ.n0 + t) (0 + i.toNat * 1)) (hb:look E u = .own sz (List.map e y)) (hM:Qcp L t = some (.cells ((Qz (fun (r:List α)=>[V.own sz (List.map e r)]) xs).set i.toNat c0))) (hx:setO xs i y = some ys)
  (h:Rn Γ pc os ⟨look ((u,.d (.lst sz (List.map e y))) :: E),Qr Γ.n0 ((t,.cells (Qz (fun (r:List α)=>[V.own sz (List.map e r)]) ys)) :: L) M0,nb⟩ Q) :
  Rn Γ pc (⟨none,.store 1,[a,.t u],true,gd⟩ :: os) ⟨look E,Qr Γ.n0 L M0,nb⟩ Q:=by
 unfold setO at hx
 split at hx <;> cases hx
 rename_i hi
 have e0:0 + i.toNat * 1 = i.toNat:=by omega
 rw [e0] at ha
 refine Rn.storeO hw ha hb hM ?_ ?_ h
 ·rw [Q04]
  exact Nat.ble_eq_true_of_le (by simp only [List.length_set,List.length_map]; omega)
 ·rw [Q04,Q04,List.map_set]
  rw [List.set_eq_take_append_cons_drop (l:=List.map _ xs) (i:=i.toNat) (a:=V.own sz (List.map e y)),if_pos (by simpa using hi.2)]
  rw [List.take_set_of_le (Nat.le_refl _),List.drop_set_of_lt (by omega)]
  simp
def Q6q (m:Nat):List (Nat×Bx)→List (Nat×Bx)
 | []=>[]
 | (t,b) :: L=>(m + t,b) :: Q6q m L
theorem Q39 {m t:Nat}:∀ {Lr:List (Nat×Bx)},Qcp (Q6q m Lr ++ L) t = if m≤t then (match Qcp Lr (t - m) with | some b=>some b | none=>Qcp L t) else Qcp L t
 | []=>by
  simp only [Q6q,List.nil_append,Qcp]
  split <;> rfl
 | (u,b) :: Lr=>by
  simp only [Q6q,List.cons_append,Qcp]
  rw [Q39 (Lr:=Lr)]
  by_cases hm:m≤t
  ·simp only [hm,if_true]
   by_cases hu:t = m + u
   ·have h1:Nat.beq t (m + u) = true:=by rw [hu]; exact Nat.beq_refl _
    have h2:Nat.beq (t - m) u = true:=by
     have:t - m = u:=by omega
     rw [this]; exact Nat.beq_refl _
    rw [h1,h2]; rfl
   ·have h1:Nat.beq t (m + u) = false:=by
     cases hq:Nat.beq t (m + u) with
     | false=>rfl
     | true=>exact absurd (Nat.eq_of_beq_eq_true hq) hu
    have h2:Nat.beq (t - m) u = false:=by
     cases hq:Nat.beq (t - m) u with
     | false=>rfl
     | true=>have:=Nat.eq_of_beq_eq_true hq; omega
    rw [h1,h2]; rfl
  ·have h1:Nat.beq t (m + u) = false:=by
    cases hq:Nat.beq t (m + u) with
    | false=>rfl
    | true=>have:=Nat.eq_of_beq_eq_true hq; omega
   rw [h1]; simp only [hm,if_false,cond_false]
theorem Q56 {m:Nat} (hL:(L.all fun p=>Nat.blt p.1 m) = true) {t:Nat} (h:m≤t):Qcp L t = none:=by
 cases hb:Qcp L t with
 | none=>rfl
 | some b =>
  obtain ⟨p,hp,he⟩:=Q01 hb
  have:=List.all_eq_true.1 hL p hp
  have:=Nat.le_of_ble_eq_true this
  omega
theorem Q4a {n0 m:Nat} {Lr:List (Nat×Bx)} (hL:(L.all fun p=>Nat.blt p.1 m) = true):Qr (n0 + m) Lr (Qr n0 L M0) = Qr n0 (Q6q m Lr ++ L) M0:=by
 funext k
 simp only [Qr]
 by_cases h1:k < n0
 ·rw [if_pos (by omega),if_pos h1,if_pos h1]
 ·by_cases h2:k < n0 + m
  ·rw [if_pos h2,if_neg h1,if_neg h1,Q39,if_neg (by omega)]
  ·rw [if_neg h2,if_neg h1,Q39,if_pos (by omega),Q56 hL (t:=k - n0) (by omega),show k - (n0 + m) = k - n0 - m from by omega]
   cases Qcp Lr (k - n0 - m) <;> rfl
theorem Rn.callNew {f:FuncId} {as:List Arg} {args:List V} {r r' : V} {m n:Nat} {Lr L' : List (Nat×Bx)} (hw:Wn E gd) (ha:V.dems (as.map (·.val (look E))) = args)
  (hC:ACalls Γ.P f args (Qr Γ.n0 L M0) (Γ.n0 + m) r (Qr (Γ.n0 + m) Lr (Qr Γ.n0 L M0)) (Γ.n0 + m + n)) (hr:r = r') (hLr:Q6q m Lr = L') (hL:(L.all fun p=>Nat.blt p.1 m) = true) (hM:∀ k,Γ.n0≤k→M0 k = none) (hpc:pcOf pc = 0)
  (h:Rn Γ pc os ⟨look ((d,r') :: E),Qr Γ.n0 (L' ++ L) M0,Γ.n0 + (m + n)⟩ Q):Rn Γ pc (⟨some d,.call f,as,false,gd⟩ :: os) ⟨look E,Qr Γ.n0 L M0,Γ.n0 + m⟩ Q:=by
 subst hr hLr
 refine Rn.cons ?_
 unfold COp.run
 rw [hw.wanted]
 simp only [show (K.call f).isCall = true from rfl,if_true,COp.callee,ha]
 rw [hpc]
 refine ⟨r,Qr (Γ.n0 + m) Lr (Qr Γ.n0 L M0),Γ.n0 + m + n,hC,fun k hk=>?_,fun k cs2 hk hM'=>.inl ?_,?_⟩
 ·rcases Nat.lt_or_ge k (Γ.n0 + m) with hlt | hge
  ·rw [Qf hlt]; exact hk
  ·rw [Qbd0 hM hL k hge] at hk; cases hk
 ·rw [Qf (by omega)]
 ·rw [show Qbl (look E) (some d) r = look ((d,r) :: E) from Qdp E d r,Q4a hL,show Γ.n0 + m + n = Γ.n0 + (m + n) from by omega]
  exact h
theorem Rn.callNewX {f:FuncId} {as:List Arg} {args:List V} {r r' : V} {m n:Nat} {Lr L' : List (Nat×Bx)} (hw:Wn E gd) (ha:V.dems (as.map (·.val (look E))) = args)
  (hC:∀ M2,ACalls Γ.P f args M2 (Γ.n0 + m) r (Qr (Γ.n0 + m) Lr M2) (Γ.n0 + m + n)) (hr:r = r') (hLr:Q6q m Lr = L') (hL:(L.all fun p=>Nat.blt p.1 m) = true) (hpc:Nat.ble 10 (pcOf pc) = true)
  (h:Rn Γ pc os ⟨look ((d,r') :: E),Qr Γ.n0 (L' ++ L) M0,Γ.n0 + (m + n)⟩ Q):Rn Γ pc (⟨some d,.call f,as,false,gd⟩ :: os) ⟨look E,Qr Γ.n0 L M0,Γ.n0 + m⟩ Q:=by
 subst hr hLr
 refine Rn.cons ?_
 unfold COp.run
 rw [hw.wanted]
 simp only [show (K.call f).isCall = true from rfl,if_true,COp.callee,ha]
 have h10:=Nat.le_of_ble_eq_true hpc
 obtain ⟨p,hp⟩ : ∃ p,pcOf pc = p + 2:=⟨pcOf pc - 2,by omega⟩
 rw [hp]
 show (if p < 8 then _ else _)
 rw [if_neg (by omega)]
 refine ⟨r,fun _=>none,fun k=>Qcp Lr (k - (Γ.n0 + m)),Γ.n0 + m + n,.inr fun _=>rfl,fun _ h=>(by cases h),fun _ _ _ h=>(by cases h),fun M2 _ _=>?_,?_⟩
 ·rw [Qe2 fun _=>rfl]; exact hC M2
 ·rw [Qe2 fun _=>rfl,show Qbl (look E) (some d) r = look ((d,r) :: E) from Qdp E d r,show (Qr Γ.n0 L M0).over (Γ.n0 + m) (fun k=>Qcp Lr (k - (Γ.n0 + m))) = Qr (Γ.n0 + m) Lr (Qr Γ.n0 L M0) from rfl,Q4a hL,show Γ.n0 + m + n = Γ.n0 + (m + n) from by omega]
  exact h
def LOn (p:Nat→Prop):List (Nat×Bx)→Prop
 | []=>True
 | (_,.cells cs) :: L=>V.ons p cs∧LOn p L
 | (_,.mp ..) :: L=>LOn p L
theorem LOn.at {p:Nat→Prop}:∀ {L:List (Nat×Bx)},LOn p L→∀ t cs,Qcp L t = some (.cells cs)→V.ons p cs
 | [],_,t,cs,h=>by cases h
 | (u,.cells ds) :: L,hp,t,cs,h=>by
  simp only [Qcp] at h
  cases hb:Nat.beq t u with
  | true=>rw [hb] at h; cases h; exact hp.1
  | false=>rw [hb] at h; exact LOn.at hp.2 t cs h
 | (u,.mp ..) :: L,hp,t,cs,h=>by
  simp only [Qcp] at h
  cases hb:Nat.beq t u with
  | true=>rw [hb] at h; cases h
  | false=>rw [hb] at h; exact LOn.at (L:=L) hp t cs h
theorem Q57 {p:Nat→Prop} {g:α→List V} (h:∀ x,V.ons p (g x)):∀ xs:List α,V.ons p (Qz g xs)
 | []=>trivial
 | x :: xs=>by rw [Qg3]; exact Qg1.2 ⟨h x,Q57 h xs⟩
theorem thN {n0 t:Nat} {b:Bx} (h:Qcp L t = some b):There (Qr n0 L M0) (n0 + t):=by simp [There,Qc9,h]
def LR (M:Mem) (n0:Nat):List (Nat×Bx)→Prop
 | []=>True
 | (t,b) :: L=>M (n0 + t) = some b∧LR M n0 L
theorem lrAt {n0:Nat}:∀ {Lr:List (Nat×Bx)},LR M n0 Lr→∀ t b,Qcp Lr t = some b→M (n0 + t) = some b
 | [],_,t,b,h=>by cases h
 | (u,c) :: Lr,hp,t,b,h=>by
  simp only [Qcp] at h
  cases hb:Nat.beq t u with
  | true =>
   rw [hb] at h
   have:=Nat.eq_of_beq_eq_true hb
   subst this
   cases h; exact hp.1
  | false=>rw [hb] at h; exact lrAt hp.2 t b h
def FinN (rs:List Res) (r:V) (n0:Nat) (M0:Mem) (Lr:List (Nat×Bx)) (n:Nat):Ex→St→Prop:=fun e σ =>
 (e = .norm∨e = .ret)∧∃ r',Qzn σ rs = some r' ∧ Wk r' r∧r.on (There (Qr n0 Lr M0))∧LOn (There (Qr n0 Lr M0)) Lr∧(∀ k,k < n0→σ.M k = M0 k)∧(∀ t b,Qcp Lr t = some b→σ.M (n0 + t) = some b)∧(Lr.all fun p=>Nat.blt p.1 n) = true
theorem Qbkl {P:Program} {f:FuncId} {cf:CFn} (hcf:Q1 P f = some cf) {args:List V} {r:V} (hargs:Nat.beq args.length cf.np = true) (M:Mem) (nb:Nat) {Lr:List (Nat×Bx)} {n:Nat}
  (hrun:∀ (Γ:Env),Γ.P = P→Γ.nt = cf.nt→Γ.n0 = nb→(∀ k,Γ.n0≤k→M k = none)→Tr Γ cf.body ⟨Qs6 args,Qr Γ.n0 [] M,Γ.n0 + cf.nt⟩ (FinN cf.res r Γ.n0 M Lr n)):ACalls P f args M nb r (Qr nb Lr M) (nb + n):=by
 by_cases hM:∀ k,nb≤k→M k = none
 case neg=>exact Q2u (Qjt hcf) (by omega) hM
 by_cases hon:MOn (There M) M
 case neg=>exact ⟨Qjt hcf,by omega,fun w g us hm h=>absurd h hon⟩
 refine Qbjm hcf hM (Nat.eq_of_beq_eq_true hargs) (by omega) fun Γ hP hn ht=>?_
 have h:=hrun Γ hP ht hn (by rw [hn]; exact hM)
 rw [Q47 (by rw [hn]; exact hM),hn] at h
 refine h.mono ?_
 rintro e σ' ⟨he,r',h1,h2,h3,h4,h5,h6,h7⟩
 have hlt:∀ k,There M k→k < nb:=fun k hk=>by
  rcases Nat.lt_or_ge k nb with h | h
  ·exact h
  ·simp [There,hM k h] at hk
 have hsub:∀ k,There M k→There (Qr nb Lr M) k:=fun k hk=>by
  have:=hlt k hk
  simp only [There] at hk ⊢
  rw [Qf this]; exact hk
 refine ⟨he,r',h1,h2,fun k b hk=>?_,h3,fun k cs hk=>?_,fun k hk=>?_⟩
 ·rcases Nat.lt_or_ge k nb with hl | hge
  ·rw [Qf hl] at hk; rw [h5 k hl]; exact hk
  ·obtain ⟨t,rfl⟩ : ∃ t,k = nb + t:=⟨k - nb,by omega⟩
   rw [Qc9] at hk; exact h6 t b hk
 ·rcases Nat.lt_or_ge k nb with hl | hge
  ·rw [Qf hl] at hk; exact ons_mono hsub cs (hon k cs hk)
  ·obtain ⟨t,rfl⟩ : ∃ t,k = nb + t:=⟨k - nb,by omega⟩
   rw [Qc9] at hk; exact h4.at t cs hk
 ·rcases Nat.lt_or_ge k nb with hl | hge
  ·omega
  ·obtain ⟨t,rfl⟩ : ∃ t,k = nb + t:=⟨k - nb,by omega⟩
   simp only [There,Qc9] at hk
   rcases Nat.lt_or_ge t n with h | h
   ·omega
   ·rw [Q56 h7 h] at hk; cases hk
end Go.Abs
end
section
namespace Go.Abs
open Go
def Mem.puts (M:Mem):List (Nat×Bx)→Mem
 | []=>M
 | (k,b) :: l=>(Mem.puts M l).put k b
variable {M M0 M1 M2 M3:Mem} {k k' : Nat} {b b' c:Bx} {B B' : List (Nat×Bx)}
theorem pg0:M.puts ((k,b) :: B) k = some b:=by simp [Mem.puts,Mem.put]
theorem pgS (h:k≠k') (hg:M.puts B k = some b):M.puts ((k',c) :: B) k = some b:=by simp [Mem.puts,Mem.put,h,hg]
theorem ps0:(M.puts ((k,b) :: B)).put k b' = M.puts ((k,b') :: B):=by
 funext i
 simp only [Mem.puts,Mem.put]
 split <;> rfl
def Qbgm (M:Mem):List (Nat×Bx)→Prop
 | []=>True
 | (k,b) :: l=>M k = some b∧Qbgm M l
theorem Qbb3:∀ {B:List (Nat×Bx)},Qbgm M B→M.puts B = M
 | [],_=>rfl
 | (k,b) :: l,h=>by
  rw [Mem.puts,Qbb3 h.2]
  funext i
  simp only [Mem.put]
  split
  ·rename_i e; subst e; exact h.1.symm
  ·rfl
def Qbix (n:Nat):List (Nat×Bx)→Prop
 | []=>True
 | (k,_) :: l=>k < n∧Qbix n l
theorem Qbgn {n0:Nat} (hM:∀ k,n0≤k→M k = none):∀ {B:List (Nat×Bx)},Qbix n0 B→∀ k,n0≤k→M.puts B k = none
 | [],_,k,hk=>hM k hk
 | (j,b) :: l,h,k,hk=>by
  have h1:k≠j:=by have:=h.1; omega
  simp only [Mem.puts,Mem.put,h1,if_false]
  exact Qbgn hM h.2 k hk
theorem There.puts:∀ {B:List (Nat×Bx)} {k:Nat},There M k→There (M.puts B) k
 | [],_,h=>h
 | _ :: l,_,h=>There.put (There.puts (B:=l) h)
variable {Γ:Env} {pc d nb:Nat} {os:List COp} {E:List (Nat×V)} {L L' : List (Nat×Bx)} {Q:St→Prop} {gd:Option (Nat×Bool)} {x y:Arg}
theorem Tr.puts {cc:CC} {s:Sl} {Q:Ex→St→Prop} (B:List (Nat×Bx)) (h:Qbgm M0 B) (k:Tr Γ cc ⟨s,Qr Γ.n0 L (M0.puts B),nb⟩ Q):Tr Γ cc ⟨s,Qr Γ.n0 L M0,nb⟩ Q:=by
 rw [Qbb3 h] at k; exact k
theorem Rn.storeB {k off n:Nat} {v:V} {cs cs' : List V} (hw:Wn E gd) (ha:x.val (look E) = .ptr k off) (hb:(y.val (look E)).dem = v) (hv:Qep v = true) (hk:k < Γ.n0) (hl:v.lt Γ.n0 = true) (hM:M1 k = some (.cells cs))
  (hn:(Nat.beq v.cells.length n && Nat.ble (off + n) cs.length) = true) (hcs:cs.take off ++ v.cells ++ cs.drop (off + n) = cs') (hp:M1.put k (.cells cs') = M2)
  (h:Rn Γ pc os ⟨look E,Qr Γ.n0 L M2,nb⟩ Q):Rn Γ pc (⟨none,.store n,[x,y],false,gd⟩ :: os) ⟨look E,Qr Γ.n0 L M1,nb⟩ Q:=by
 simp only [Bool.and_eq_true] at hn
 have h1:v.cells.length = n:=Nat.eq_of_beq_eq_true hn.1
 have h2:=Nat.le_of_ble_eq_true hn.2
 have hf:v.dem = v:=by rw [← hb]; exact Qdy _
 have ht:v.topS = v:=Q7f hf
 refine Rn.kS (v:=.und) hw ?_ (fun _=>rfl) h
 simp only [Bool.false_eq_true,if_false,List.map_cons,List.map_nil,V.dems,ha,V.dem,hb]
 simp only [Qp]
 cases v <;> first
  | (simp [Qep] at hv; done)
  | (simp only [Qban hk hM,ht,h1,h2,decide_true,Bool.true_and,hl,Bool.or_true,if_true]; rw [hcs,Qbam hk,hp])
theorem Rn.storeAB {α:Type} {g:α→List V} {xs ys:List α} {sz k:Nat} {i:Int} {z:α} {v:V} (hg:∀ x,(g x).length = sz) (hw:Wn E gd) (ha:x.val (look E) = .ptr k (0 + i.toNat * sz)) (hb:(y.val (look E)).dem = v) (hv:Qep v = true) (hk:k < Γ.n0) (hl:v.lt Γ.n0 = true) (hM:M1 k = some (.cells (Qz g xs))) (hc:v.cells = g z)
  (hx:setO xs i z = some ys) (hp:M1.put k (.cells (Qz g ys)) = M2) (h:Rn Γ pc os ⟨look E,Qr Γ.n0 L M2,nb⟩ Q):Rn Γ pc (⟨none,.store sz,[x,y],false,gd⟩ :: os) ⟨look E,Qr Γ.n0 L M1,nb⟩ Q:=by
 unfold setO at hx
 split at hx <;> cases hx
 rename_i hi
 have hl2:=Qtk hg xs
 have hb2:i.toNat * sz + sz≤xs.length * sz:=by
  rw [show i.toNat * sz + sz = (i.toNat + 1) * sz from by rw [Nat.add_mul,Nat.one_mul]]
  exact Nat.mul_le_mul_right _ hi.2
 refine Rn.storeB (cs':=Qz g (xs.set i.toNat z)) hw ha hb hv hk hl hM ?_ ?_ hp h
 ·rw [hc,hg,hl2]
  simp only [Bool.and_eq_true]
  exact ⟨by simp,Nat.ble_eq_true_of_le (by omega)⟩
 ·rw [hc,Nat.zero_add]; exact Qbbx hg z hi.2
def OkB (n0:Nat):List (Nat×Bx)→Prop
 | []=>True
 | (k,.cells cs) :: l=>(n0≤k∨V.lt.go n0 cs = true)∧OkB n0 l
 | (k,.mp ..) :: l=>OkB n0 l
theorem OkB.at {n0:Nat} {M:Mem}:∀ {B:List (Nat×Bx)},OkB n0 B→∀ k cs,k < n0→M.puts B k = some (.cells cs)→M.puts B k = M k∨V.lt.go n0 cs = true
 | [],_,_,_,_,_=>.inl rfl
 | (j,.cells ds) :: l,h,k,cs,hk,hg=>by
  by_cases e:k = j
  ·subst e
   simp only [Mem.puts,Mem.put,if_true,Option.some.injEq,Bx.cells.injEq] at hg
   subst hg
   rcases h.1 with h1 | h1
   ·omega
   ·exact .inr h1
  ·simp only [Mem.puts,Mem.put,e,if_false] at hg ⊢
   exact OkB.at h.2 k cs hk hg
 | (j,.mp ..) :: l,h,k,cs,hk,hg=>by
  by_cases e:k = j
  ·subst e
   simp only [Mem.puts,Mem.put,if_true] at hg
   cases hg
  ·simp only [Mem.puts,Mem.put,e,if_false] at hg ⊢
   exact OkB.at (B:=l) h k cs hk hg
theorem cw0:(Qr Γ.n0 L M1).puts [] = Qr Γ.n0 L M1:=rfl
theorem Qbkm {t:Nat} (h:(Qr Γ.n0 L M1).puts B = Qr Γ.n0 L' M2):(Qr Γ.n0 L M1).puts ((Γ.n0 + t,b) :: B) = Qr Γ.n0 ((t,b) :: L') M2:=by
 rw [Mem.puts,h,Qfc]
theorem Q58 {M:Mem}:∀ {B:List (Nat×Bx)},M.patch (Mem.puts (fun _=>none) B) = M.puts B
 | []=>by funext k; rfl
 | (j,b) :: B=>by
  funext k
  have:=congrFun (Q58 (M:=M) (B:=B)) k
  simp only [Mem.patch,Mem.puts,Mem.put] at this ⊢
  by_cases h:k = j
  ·simp [h]
  ·simp only [h,if_false]; exact this
theorem Qbb4 {M:Mem}:∀ {B:List (Nat×Bx)} {k:Nat},(Mem.puts (fun _=>none) B k).isSome = true→(B.any fun p=>Nat.beq p.1 k) = true
 | [],k,h=>by cases h
 | (j,b) :: B,k,h=>by
  simp only [Mem.puts,Mem.put] at h
  simp only [List.any_cons,Bool.or_eq_true]
  by_cases e:k = j
  ·subst e; exact .inl (Nat.beq_refl _)
  ·rw [if_neg e] at h; exact .inr (Qbb4 (M:=M) h)
def AllIn (M:Mem):List (Nat×Bx)→Prop
 | []=>True
 | (k,_) :: B=>(M k).isSome = true∧AllIn M B
theorem AllIn.at {M:Mem}:∀ {B:List (Nat×Bx)},AllIn M B→∀ k,(B.any fun p=>Nat.beq p.1 k) = true→(M k).isSome = true
 | [],_,k,h=>by cases h
 | (j,b) :: B,hA,k,h=>by
  simp only [List.any_cons,Bool.or_eq_true] at h
  rcases h with h | h
  ·have:=Nat.eq_of_beq_eq_true h; subst this; exact hA.1
  ·exact AllIn.at hA.2 k h
theorem OkB.cells {n0:Nat}:∀ {B:List (Nat×Bx)},OkB n0 B→∀ k cs,k < n0→Mem.puts (fun _=>none) B k = some (.cells cs)→V.lt.go n0 cs = true
 | [],_,_,_,_,h=>by cases h
 | (j,.cells ds) :: l,h,k,cs,hk,hg=>by
  by_cases e:k = j
  ·subst e
   simp only [Mem.puts,Mem.put,if_true,Option.some.injEq,Bx.cells.injEq] at hg
   subst hg
   rcases h.1 with h1 | h1
   ·omega
   ·exact h1
  ·simp only [Mem.puts,Mem.put,e,if_false] at hg
   exact OkB.cells (B:=l) h.2 k cs hk hg
 | (j,.mp ..) :: l,h,k,cs,hk,hg=>by
  by_cases e:k = j
  ·subst e
   simp only [Mem.puts,Mem.put,if_true] at hg
   cases hg
  ·simp only [Mem.puts,Mem.put,e,if_false] at hg
   exact OkB.cells (B:=l) h k cs hk hg
theorem Qbkn {M M2:Mem} (h:∀ k,(M k).isSome = true→M2 k = M k):Ext M M2:=fun k b hk=>by rw [h k (by rw [hk]; rfl)]; exact hk
theorem isS {M:Mem} {k:Nat} {b:Bx} (h:M k = some b):(M k).isSome = true:=by rw [h]; rfl
theorem nwT {P:Program} {f:FuncId} {args:List V} {nb nb' : Nat} {r1 r2:V} {L1 L2:List (Nat×Bx)} {b:Bool} (hb:b = true) (h:ACalls P f args M nb (bif b then r1 else r2) (Qr nb (bif b then L1 else L2) M1) nb'):ACalls P f args M nb r1 (Qr nb L1 M1) nb':=by
 subst hb; exact h
theorem nwF {P:Program} {f:FuncId} {args:List V} {nb nb' : Nat} {r1 r2:V} {L1 L2:List (Nat×Bx)} {b:Bool} (hb:b = false) (h:ACalls P f args M nb (bif b then r1 else r2) (Qr nb (bif b then L1 else L2) M1) nb'):ACalls P f args M nb r2 (Qr nb L2 M1) nb':=by
 subst hb; exact h
theorem thB {n0:Nat} (hM:∀ k,n0≤k→M k = none) {k:Nat} {b:Bx} (h:M k = some b):There (Qr n0 L (M.puts B)) k:=by
 have h1:There (M.puts B) k:=There.puts (by simp [There,h])
 simp only [There] at h1 ⊢
 rw [Qf (ltB hM h)]; exact h1
theorem Rn.callNW {f:FuncId} {as:List Arg} {args:List V} {r r' : V} {m n:Nat} {Lr L1:List (Nat×Bx)} (hw:Wn E gd) (ha:V.dems (as.map (·.val (look E))) = args)
  (hC:∀ M,(∀ k,(Qr Γ.n0 L M1 k).isSome = true→M k = Qr Γ.n0 L M1 k)→ACalls Γ.P f args M (Γ.n0 + m) r (Qr (Γ.n0 + m) Lr (M.puts B)) (Γ.n0 + m + n)) (hr:r = r') (hB:OkB Γ.n0 B) (hA:AllIn (Qr Γ.n0 L M1) B) (hM:∀ k,Γ.n0≤k→M1 k = none)
  (hp:(Qr Γ.n0 L M1).puts B = Qr Γ.n0 L1 M2) (hLr:Q6q m Lr = L') (hL:(L.all fun p=>Nat.blt p.1 m) = true) (hL1:(L1.all fun p=>Nat.blt p.1 m) = true) (hpc:(Nat.beq (pcOf pc) 0 || (Nat.ble 10 (pcOf pc) && Nat.testBit (pcOf pc - 10) d)) = true)
  (h:Rn Γ pc os ⟨look ((d,r') :: E),Qr Γ.n0 (L' ++ L1) M2,Γ.n0 + (m + n)⟩ Q):Rn Γ pc (⟨some d,.call f,as,false,gd⟩ :: os) ⟨look E,Qr Γ.n0 L M1,Γ.n0 + m⟩ Q:=by
 subst hLr hr
 have h' : Rn Γ pc os ⟨Qbl (look E) (some d) r,Qr (Γ.n0 + m) Lr ((Qr Γ.n0 L M1).puts B),Γ.n0 + m + n⟩ Q:=by
  rw [show Qbl (look E) (some d) r = look ((d,r) :: E) from Qdp E d r,hp,Q4a hL1,show Γ.n0 + m + n = Γ.n0 + (m + n) from by omega]
  exact h
 refine Rn.cons ?_
 unfold COp.run
 rw [hw.wanted]
 simp only [show (K.call f).isCall = true from rfl,if_true,COp.callee,ha]
 rw [Bool.or_eq_true] at hpc
 rcases hpc with hpc | hpc
 ·rw [Nat.eq_of_beq_eq_true hpc]
  refine ⟨r,_,_,hC _ (fun _ _=>rfl),fun k hk=>?_,fun k cs hk hg=>?_,h'⟩
  ·have hlt:k < Γ.n0 + m:=by
    rcases Nat.lt_or_ge k (Γ.n0 + m) with h | h
    ·exact h
    ·rw [Qbd0 hM hL k h] at hk; cases hk
   rw [Qf hlt]; exact There.puts hk
  ·rw [Qf (show k < Γ.n0 + m by omega)] at hg ⊢
   exact hB.at k cs hk hg
 ·rw [Bool.and_eq_true] at hpc
  have h10:=Nat.le_of_ble_eq_true hpc.1
  obtain ⟨p,hpp⟩ : ∃ p,pcOf pc = p + 2:=⟨pcOf pc - 2,by omega⟩
  have hbit:Nat.testBit (p - 8) d = true:=by rw [← hpc.2,hpp,show p + 2 - 10 = p - 8 from by omega]
  rw [hpp]
  show (if p < 8 then _ else _)
  rw [if_neg (by omega)]
  refine ⟨r,Mem.puts (fun _=>none) B,fun k=>Qcp Lr (k - (Γ.n0 + m)),Γ.n0 + m + n,.inl hbit,fun k hk=>hA.at k (Qbb4 (M:=M1) hk),fun k cs hk hg=>hB.cells k cs hk hg,fun M hM1 _=>?_,?_⟩
  ·rw [Q58]; exact hC M hM1
  ·rw [Q58]; exact h'
theorem Rn.storeV {t u off:Nat} {v:V} {cs cs' : List V} (hw:Wn E gd) (ha:x.val (look E) = .ptr (Γ.n0 + t) off) (hb:look E u = v) (hv:Qep v = true) (hf:v.topS = v) (hf2:v.dem = v) (hM:Qcp L t = some (.cells cs))
  (hn:(Nat.beq v.cells.length 1 && Nat.ble (off + 1) cs.length) = true) (hcs:cs.take off ++ v.cells ++ cs.drop (off + 1) = cs')
  (h:Rn Γ pc os ⟨look E,Qr Γ.n0 ((t,.cells cs') :: L) M0,nb⟩ Q):Rn Γ pc (⟨none,.store 1,[x,.t u],true,gd⟩ :: os) ⟨look E,Qr Γ.n0 L M0,nb⟩ Q:=by
 simp only [Bool.and_eq_true] at hn
 have h1:v.cells.length = 1:=Nat.eq_of_beq_eq_true hn.1
 have h2:=Nat.le_of_ble_eq_true hn.2
 have hm:[x,Arg.t u].map (fun x=>x.val (look E)) = [V.ptr (Γ.n0 + t) off,v]:=by simp only [List.map_cons,List.map_nil,ha]; rw [show (Arg.t u).val (look E) = _ from hb]
 refine Rn.kS (v:=.und) hw ?_ (fun i=>?_) h
 ·simp only [if_true,hm]
  simp only [Qp]
  cases v <;> first
   | (simp [Qep] at hv; done)
   | (simp only [Qi hM,hf,h1,h2,decide_true,Bool.true_and,Nat.le_add_right,Bool.true_or,if_true]; rw [hcs,Qfc])
 ·simp only [if_true,hm,Qcc,Qbc,hf2]
  have:x.putTo (look E) (.ptr (Γ.n0 + t) off) = look E:=by
   cases x with
   | c v=>rfl
   | t j =>
    simp only [Arg.val] at ha
    funext i; simp only [Arg.putTo,Sl.put]; split
    ·rename_i e; subst e; exact ha.symm
    ·rfl
  have h3:(look E).put u v = look E:=by
   funext i; simp only [Sl.put]; split
   ·rename_i e; subst e; exact hb.symm
   ·rfl
  rw [this,show (Arg.t u).putTo (look E) v = (look E).put u v from rfl,h3]
def argE:List Arg→List V→List (Nat×V)→List (Nat×V)
 | .t i :: as,v :: vs,E=>argE as vs ((i,v) :: E)
 | .c _ :: as,_ :: vs,E=>argE as vs E
 | _,_,E=>E
theorem Q05:∀ (as:List Arg) (vs:List V) (E:List (Nat×V)),Qbc (look E) as vs = look (argE as vs E)
 | [],vs,E=>by cases vs <;> rfl
 | a :: as,[],E=>by cases a <;> rfl
 | .t i :: as,v :: vs,E=>by
  simp only [Qbc,argE]
  rw [show (Arg.t i).putTo (look E) v = (look E).put i v from rfl,Qdp]
  exact Q05 as vs _
 | .c _ :: as,v :: vs,E=>by
  simp only [Qbc,argE]
  exact Q05 as vs E
theorem Rn.buildT {as:List Arg} {z:List V} {ps:List (Nat×Nat)} {v:V} (hw:Wn E gd) (hk:Qp Γ.n0 (Γ.n0 + d) (.build z ps) (as.map (·.val (look E))) M = some (v,M))
  (h:Rn Γ pc os ⟨look ((d,v) :: argE as (V.dems (as.map (·.val (look E)))) E),M,nb⟩ Q):Rn Γ pc (⟨some d,.build z ps,as,true,gd⟩ :: os) ⟨look E,M,nb⟩ Q:=by
 refine Rn.kT hw rfl rfl hk (fun i=>?_) h
 rw [show Qcc (.build z ps) (as.map (·.val (look E))) = V.dems (as.map (·.val (look E))) from by cases as <;> rfl,Q05,Qdp]
theorem Rn.storeT {t u off n:Nat} {v:V} {ds cs cs' : List V} (hw:Wn E gd) (ha:x.val (look E) = .ptr (Γ.n0 + t) off) (hb:look E u = v) (hv:Qep v = true) (hds:v.topS.cells = ds) (hM:Qcp L t = some (.cells cs))
  (hn:(Nat.beq ds.length n && Nat.ble (off + n) cs.length) = true) (hcs:cs.take off ++ ds ++ cs.drop (off + n) = cs')
  (h:Rn Γ pc os ⟨look ((u,v.dem) :: E),Qr Γ.n0 ((t,.cells cs') :: L) M0,nb⟩ Q):Rn Γ pc (⟨none,.store n,[x,.t u],true,gd⟩ :: os) ⟨look E,Qr Γ.n0 L M0,nb⟩ Q:=by
 simp only [Bool.and_eq_true] at hn
 have h1:v.topS.cells.length = n:=by rw [hds]; exact Nat.eq_of_beq_eq_true hn.1
 have h2:=Nat.le_of_ble_eq_true hn.2
 have hm:[x,Arg.t u].map (fun x=>x.val (look E)) = [V.ptr (Γ.n0 + t) off,v]:=by simp only [List.map_cons,List.map_nil,ha]; rw [show (Arg.t u).val (look E) = _ from hb]
 refine Rn.kS (v:=.und) hw ?_ (fun i=>?_) h
 ·simp only [if_true,hm]
  simp only [Qp]
  cases v <;> first
   | (simp [Qep] at hv; done)
   | (simp only [Qi hM,h1,h2,decide_true,Bool.true_and,Nat.le_add_right,Bool.true_or,if_true]; rw [hds,hcs,Qfc])
 ·simp only [if_true,hm,Qcc,Qbc]
  have:x.putTo (look E) (.ptr (Γ.n0 + t) off) = look E:=by
   cases x with
   | c v=>rfl
   | t j =>
    simp only [Arg.val] at ha
    funext i; simp only [Arg.putTo,Sl.put]; split
    ·rename_i e; subst e; exact ha.symm
    ·rfl
  rw [this,show (Arg.t u).putTo (look E) v.dem = (look E).put u v.dem from rfl,Qdp]
def WkB:List (Nat×Bx)→List (Nat×Bx)→Prop
 | [],[]=>True
 | (k,.cells cs) :: B,(k',.cells cs') :: B'=>(k = k' ∧ WkVs cs cs')∧WkB B B'
 | _,_=>False
theorem WkB.at {M:Mem}:∀ {B B' : List (Nat×Bx)},WkB B B' → ∀ k,M.puts B' k = M.puts B k∨∃ cs cs',M.puts B k = some (.cells cs)∧M.puts B' k = some (.cells cs')∧WkVs cs cs'
 | [],[],_,_=>.inl rfl
 | (j,.cells cs) :: B,(j',.cells cs') :: B',h,k=>by
  obtain ⟨⟨e,hw⟩,h⟩:=h
  subst e
  by_cases hk:k = j
  ·subst hk
   exact .inr ⟨cs,cs',pg0,pg0,hw⟩
  ·simp only [Mem.puts,Mem.put,hk,if_false]
   exact WkB.at h k
 | [],_ :: _,h,_=>h.elim
 | (_,.cells _) :: _,[],h,_=>h.elim
 | (_,.mp ..) :: _,[],h,_=>h.elim
 | (_,.mp ..) :: _,_ :: _,h,_=>h.elim
 | (_,.cells _) :: _,(_,.mp ..) :: _,h,_=>h.elim
def Qbk5 (rs:List Res) (r:V) (n0:Nat) (M1:Mem) (Lr:List (Nat×Bx)) (n:Nat):Ex→St→Prop:=fun e σ =>
 (e = .norm∨e = .ret)∧∃ r',Qzn σ rs = some r' ∧ Wk r' r∧r.on (There (Qr n0 Lr M1))∧LOn (There (Qr n0 Lr M1)) Lr∧(∀ k,k < n0→σ.M k = M1 k)∧(∀ t b,Qcp Lr t = some b→σ.M (n0 + t) = some b)∧(Lr.all fun p=>Nat.blt p.1 n) = true
theorem Qbjq {P:Program} {f:FuncId} {cf:CFn} (hcf:Q1 P f = some cf) {args:List V} {r:V} (hargs:Nat.beq args.length cf.np = true) (M M1:Mem) (nb:Nat) {Lr:List (Nat×Bx)} {n:Nat} (hM1:(∀ k,nb≤k→M k = none)→∀ k,nb≤k→M1 k = none)
  (hrun:∀ (Γ:Env),Γ.P = P→Γ.nt = cf.nt→Γ.n0 = nb→(∀ k,Γ.n0≤k→M k = none)→Tr Γ cf.body ⟨Qs6 args,Qr Γ.n0 [] M,Γ.n0 + cf.nt⟩ (Qbk5 cf.res r Γ.n0 M1 Lr n)):ACalls P f args M nb r (Qr nb Lr M1) (nb + n):=by
 by_cases hM:∀ k,nb≤k→M k = none
 case neg=>exact Q2u (Qjt hcf) (by omega) hM
 have hM1:=hM1 hM
 have hlt:∀ k,There M1 k→k < nb:=fun k hk=>by
  rcases Nat.lt_or_ge k nb with h | h
  ·exact h
  ·simp [There,hM1 k h] at hk
 have hsub:∀ k,There M1 k→There (Qr nb Lr M1) k:=fun k hk=>by
  have:=hlt k hk
  simp only [There] at hk ⊢
  rw [Qf this]; exact hk
 refine Qbis hcf hM (Nat.eq_of_beq_eq_true hargs) (by omega) fun Γ hP hn ht=>?_
 have h:=hrun Γ hP ht hn (by rw [hn]; exact hM)
 rw [Q47 (by rw [hn]; exact hM),hn] at h
 refine h.mono ?_
 rintro e σ' ⟨he,r',h1,h2,h3,h4,h5,h6,h7⟩
 refine ⟨he,r',h1,h2,fun k b hk=>?_,fun _ hons _=>⟨h3,fun k cs hk=>?_,fun k hk=>?_⟩⟩
 ·rcases Nat.lt_or_ge k nb with hl | hge
  ·rw [Qf hl] at hk; rw [h5 k hl]; exact hk
  ·obtain ⟨t,rfl⟩ : ∃ t,k = nb + t:=⟨k - nb,by omega⟩
   rw [Qc9] at hk; exact h6 t b hk
 ·rcases Nat.lt_or_ge k nb with hl | hge
  ·rw [Qf hl] at hk
   have k5:=(hons k cs (by rw [h5 k hl]; exact hk)).1
   have k6:=(hons k cs (by rw [h5 k hl]; exact hk)).2 hl
   refine ons_mono (fun j hj=>hsub j ?_) cs (ons_and cs k5 k6)
   have:=hj.1
   simp only [There] at this ⊢
   rwa [h5 j hj.2] at this
  ·obtain ⟨t,rfl⟩ : ∃ t,k = nb + t:=⟨k - nb,by omega⟩
   rw [Qc9] at hk; exact h4.at t cs hk
 ·rcases Nat.lt_or_ge k nb with hl | hge
  ·omega
  ·obtain ⟨t,rfl⟩ : ∃ t,k = nb + t:=⟨k - nb,by omega⟩
   simp only [There,Qc9] at hk
   rcases Nat.lt_or_ge t n with h | h
   ·omega
   ·rw [Q56 h7 h] at hk; cases hk
theorem Qbh4 {n0 a b:Nat} (h:Nat.beq a b = false):n0 + a≠n0 + b:=by
 intro e
 have:a = b:=by omega
 subst this; simp at h
end Go.Abs
end
section
namespace Go.Abs
open Go
theorem Qbgo {α:Type} {e:α→List D} {g:α→List V} (hg:∀ x,g x = (e x).map V.d):∀ xs:List α,Qho (List.map e xs) 0 = Qz g xs
 | []=>rfl
 | x :: xs=>by
  have:=Qbgo hg xs
  unfold Qho at this ⊢
  rw [Qg3,← this,hg]
  simp
theorem Qbgp {α:Type} {e:α→List D} {g:α→List V} {sz:Nat} {P:Program} {c:Nat} {ex:List V} {xs ys:List α} (hg:∀ x,g x = (e x).map V.d)
  (hr:xs.length≤maxLen→∀ cap k0 M nb,M k0 = some (.cells (Qho (List.map e xs) ((cap - xs.length) * sz)))→ACalls P c (.sl sz k0 0 xs.length cap :: ex) M nb (.tup []) (M.put k0 (.cells (Qho (List.map e ys) ((cap - xs.length) * sz)))) nb)
  (hl:xs.length≤maxLen) {k nb:Nat} {M:Mem} (hM:M k = some (.cells (Qz g xs))):ACalls P c (.sl sz k 0 xs.length xs.length :: ex) M nb (.tup []) (M.put k (.cells (Qz g ys))) nb:=by
 have h:=hr hl xs.length k M nb
 rw [Nat.sub_self,Nat.zero_mul,Qbgo hg,Qbgo hg] at h
 exact h hM
end Go.Abs
end
section
namespace Go.Abs
open Go
set_option maxRecDepth 10000
set_option maxHeartbeats 4000000
structure Qe where
  From:Int
  Event:Int
  To:Int
  deriving DecidableEq
def Qb (x:Qe):List D:=[.int .i64 x.From,.int .i64 x.Event,.int .i64 x.To]
abbrev Qbx (x:Qe):List V:=[(i_ x.From),(i_ x.Event),(i_ x.To)]
abbrev Qbv (x:Qe):V:=.agg (Qbx x)
structure Qm where
  zJ:List Int
  zM:Int
  zK:List Int
  zL:List Qe
  deriving DecidableEq
def Q06 (x:Qm):List D:=[.lst 1 (List.map (eI .i64) x.zJ),.int .i64 x.zM,.lst 1 (List.map (eI .i64) x.zK),.lst 3 (List.map Qb x.zL)]
abbrev Qbq (x:Qm):List V:=[(l_ x.zJ),(i_ x.zM),(l_ x.zK),.d (.lst 3 (List.map Qb x.zL))]
abbrev Qo (x:Qm):V:=.agg (Qbq x)
structure Qa where
  zA:Qm
  zC:List Int
  zB:List Int
  zD:List Int
  Tick:Int
  deriving DecidableEq
def Qkn (x:Qa):List D:=[.lst 1 (List.map (eI .i64) x.zA.zJ),.int .i64 x.zA.zM,.lst 1 (List.map (eI .i64) x.zA.zK),.lst 3 (List.map Qb x.zA.zL),.lst 1 (List.map (eI .i64) x.zC),.lst 1 (List.map (eI .i64) x.zB),.lst 1 (List.map (eI .i64) x.zD),.int .i64 x.Tick]
abbrev Qvs (x:Qa):List V:=[(l_ x.zA.zJ),(i_ x.zA.zM),(l_ x.zA.zK),.d (.lst 3 (List.map Qb x.zA.zL)),(l_ x.zC),(l_ x.zB),(l_ x.zD),(i_ x.Tick)]
abbrev Q9p (x:Qa):V:=.agg (Qvs x)
structure Qd where
  zN:Qa
  from_:List (List Qe)
  left_:List Bool
  deriving DecidableEq
structure Qc where
  State:Int
  Rank:Int
  Reason:Int
  Event:Int
  deriving DecidableEq
def Qg (x:Qc):List D:=[.int .i64 x.State,.int .i64 x.Rank,.int .i64 x.Reason,.int .i64 x.Event]
abbrev Qcu (x:Qc):List V:=[(i_ x.State),(i_ x.Rank),(i_ x.Reason),(i_ x.Event)]
abbrev Qci (x:Qc):V:=.agg (Qcu x)
structure Qv where
  Kept:List Int
  zF:List Int
  zG:List Qc
  deriving DecidableEq
def Qbeq (x:Qv):List D:=[.lst 1 (List.map (eI .i64) x.Kept),.lst 1 (List.map (eI .i64) x.zF),.lst 4 (List.map Qg x.zG)]
abbrev Qby (x:Qv):List V:=[(l_ x.Kept),(l_ x.zF),.d (.lst 4 (List.map Qg x.zG))]
abbrev Q7 (x:Qv):V:=.agg (Qby x)
structure Qbu where
  zE:Qv
  Rounds:Int
  zH:Qm
  zO:List Int
  zI:List Int
  deriving DecidableEq
def Qbas (x:Qbu):List D:=[.lst 1 (List.map (eI .i64) x.zE.Kept),.lst 1 (List.map (eI .i64) x.zE.zF),.lst 4 (List.map Qg x.zE.zG),.int .i64 x.Rounds,.lst 1 (List.map (eI .i64) x.zH.zJ),.int .i64 x.zH.zM,.lst 1 (List.map (eI .i64) x.zH.zK),.lst 3 (List.map Qb x.zH.zL),.lst 1 (List.map (eI .i64) x.zO),.lst 1 (List.map (eI .i64) x.zI)]
abbrev Qyd (x:Qbu):List V:=[(l_ x.zE.Kept),(l_ x.zE.zF),.d (.lst 4 (List.map Qg x.zE.zG)),(i_ x.Rounds),(l_ x.zH.zJ),(i_ x.zH.zM),(l_ x.zH.zK),.d (.lst 3 (List.map Qb x.zH.zL)),(l_ x.zO),(l_ x.zI)]
abbrev Qbat (x:Qbu):V:=.agg (Qyd x)
structure Qj where
  task_:Qd
  ranks_:List Int
  distances_:List Int
  reasons_:List Int
  deriving DecidableEq
end Go.Abs
end
section
namespace Go.Abs
open Go
set_option maxRecDepth 10000
set_option maxHeartbeats 4000000
def Qia (P:Program) (c:Nat) (f:(List Int)→Option Qa):Prop:=∀ forcible1 r,f forcible1 = some r→∀ M nb,ACalls P c [(l_ forcible1)] M nb (.agg [(l_ r.zA.zJ),(i_ r.zA.zM),(l_ r.zA.zK),.d (.lst 3 (List.map Qb r.zA.zL)),(l_ r.zC),.nils 1,(l_ r.zD),(i_ r.Tick)]) M nb
def Qye:List COp:=[oo 2 (.alloc [.nils 1,.d (.int .i64 0),.nils 1,.nils 3,.nils 1,.nils 1,.nils 1,.d (.int .i64 0)]) []]
def Qyf:List COp:=[oo 3 (.bslice 1 2 [.d (.int .i64 0)] [0,1]) [cI 0,cI 2],oo 4 (.bslice 1 1 [.d (.int .i64 0)] [0]) [cI 0],oo 5 (.build [.d (.int .i64 0),.d (.int .i64 0),.d (.int .i64 0)] [(0,1),(1,1),(2,1)]) [cI 0,cI 0,cI 0],oo 6 (.build [.d (.int .i64 0),.d (.int .i64 0),.d (.int .i64 0)] [(0,1),(1,1),(2,1)]) [cI 0,cI 2,cI 1],oo 7 (.bslice 3 2 [.d (.int .i64 0),.d (.int .i64 0),.d (.int .i64 0)] [0,1]) [.t 5,.t 6],ot 8 (.build [.nils 1,.d (.int .i64 0),.nils 1,.nils 3] [(0,1),(1,1),(2,1),(3,1)]) [.t 3,cI 2,.t 4,.t 7],oo 9 (.bslice 1 1 [.d (.int .i64 0)] [0]) [cI 1],oM 10 0,ot 11 (.build [.nils 1,.d (.int .i64 0),.nils 1,.nils 3,.nils 1,.nils 1,.nils 1,.d (.int .i64 0)] [(0,4),(4,1),(6,1),(7,1)]) [.t 8,.t 9,.t 10,cI 2],⟨none,.store 8,[.t 2,.t 11],true,none⟩]
def Qib:CFn:=⟨1,12,[.cell 2 true 8],.seq (.region Qye 9 []) (.seq (.region Qyf 9 []) (.ret))⟩
def Qcj (forcible1:(List Int)):Option Qa :=
  some (Qa.mk (Qm.mk [0,2] 2 [0] [(Qe.mk 0 0 0),(Qe.mk 0 2 1)]) [1] [] forcible1 2)
def Qi9 (P:Program) (c:Nat) (f:(List Int)→Int→Option Int):Prop:=∀ l1 n2 r,f l1 n2 = some r→∀ M nb,ACalls P c [(l_ l1),(i_ n2)] M nb (i_ r) M nb
def Qzr:List COp:=[oo 4 .mov [cI 0]]
def Qzs:List COp:=[oM 7 0,oo 8 .len [.t 7],oo 9 .mov [cI 0]]
def Qzt:List COp:=[oo 10 (.bin .lss false) [.t 9,.t 8]]
def Qzu:List COp:=[oM 11 9,oo 12 (.idx 1) [.t 7,.t 9],oL 13 12,oM 5 11,oM 6 13]
def Qzv:List COp:=[oM 15 6,oo 16 (.bin .lss false) [.t 15,cI 0],oM 17 16,⟨some 18,.mov,[.t 6],false,some (17,false)⟩,⟨some 19,.mov,[.t 1],false,some (17,false)⟩,⟨some 20,.bin .geq false,[.t 18,.t 19],false,some (17,false)⟩,oo 21 .pick [.t 17,.c (.d (.bool true)),.t 20],oM 14 21]
def Qzw:List COp:=[oo 4 .mov [cI 2]]
def Qzx:List COp:=[oM 23 5,oo 24 (.bin .gtr false) [.t 23,cI 0],oM 25 24,⟨some 26,.mov,[.t 6],false,some (25,true)⟩,⟨some 27,.mov,[.t 0],false,some (25,true)⟩,⟨some 28,.mov,[.t 5],false,some (25,true)⟩,⟨some 29,.bin .sub false,[.t 28,cI 1],false,some (25,true)⟩,⟨some 30,.idx 1,[.t 27,.t 29],false,some (25,true)⟩,⟨some 31,.load false 1,[.t 30],false,some (25,true)⟩,⟨some 32,.bin .leq false,[.t 26,.t 31],false,some (25,true)⟩,oo 33 .pick [.t 25,.t 32,.c (.d (.bool false))],oM 22 33]
def Qzy:List COp:=[oo 4 .mov [cI 5]]
def Qzz:List COp:=[oo 34 (.bin .add false) [.t 9,cI 1],oM 9 34]
def Qz0:List COp:=[oo 4 .mov [cI 0]]
def Qja:CFn:=⟨2,35,[.t 4],.seq (.region Qzr 9 []) (.seq (.seq (.region Qzs 9 []) (.block 0 (.loop [] (.seq (.region Qzt 9 []) (.seq (.cond (.t 10) (.skip) (.exit 0)) (.seq (.block 1 (.seq (.region Qzu 9 []) (.block 2 (.seq (.region Qzv 9 []) (.cond (.t 14) (.seq (.region Qzw 9 []) (.ret)) (.seq (.region Qzx 9 []) (.cond (.t 22) (.seq (.region Qzy 9 []) (.ret)) (.skip)))))))) (.region Qzz 9 []))))))) (.seq (.region Qz0 9 []) (.ret)))⟩
def Qcf (fuel:Nat) (l1:(List Int)) (n2:Int):Option Int :=
  Qdz (fun k4 (x3:Int)=>(if (x3 < (l1.length:Int)) then ((getO l1 x3).bind fun x6=>(((if (x6 < 0) then some true else some (decide (x6≥n2)))).bind fun (x9:Bool)=>(if x9 then some 2 else (((if (x3 > 0) then ((getO l1 (IntKind.wrap .i64 (x3 - 1))).bind fun x12=>some (decide (x6≤x12))) else some false)).bind fun (x14:Bool)=>(if x14 then some 5 else k4 (IntKind.wrap .i64 (x3 + 1))))))) else some 0)) fuel 0
def Qlk (P:Program) (c:Nat) (f:(List Int)→Int→Option Int):Prop:=∀ s1 v2 r,f s1 v2 = some r→∀ M nb,ACalls P c [(l_ s1),(i_ v2)] M nb (i_ r) M nb
def Q2y:List COp:=[oo 4 .mov [cI 0]]
def Q2z:List COp:=[oM 6 0,oo 7 .len [.t 6],oo 8 .mov [cI 0]]
def Q20:List COp:=[oo 9 (.bin .lss false) [.t 8,.t 7]]
def Q21:List COp:=[oM 10 8,oM 5 10]
def Q22:List COp:=[oM 11 1,oM 12 0,oM 13 5,oo 14 (.idx 1) [.t 12,.t 13],oL 15 14,oo 16 (.bin .eql false) [.t 11,.t 15]]
def Q23:List COp:=[oM 17 5,oM 4 17]
def Q24:List COp:=[oo 18 (.bin .add false) [.t 8,cI 1],oM 8 18]
def Q25:List COp:=[oo 4 .mov [cI (-1)]]
def Qll:CFn:=⟨2,19,[.t 4],.seq (.region Q2y 9 []) (.seq (.seq (.region Q2z 9 []) (.block 0 (.loop [] (.seq (.region Q20 9 []) (.seq (.cond (.t 9) (.skip) (.exit 0)) (.seq (.block 1 (.seq (.region Q21 9 []) (.seq (.region Q22 9 []) (.cond (.t 16) (.seq (.region Q23 9 []) (.ret)) (.skip))))) (.region Q24 9 []))))))) (.seq (.region Q25 9 []) (.ret)))⟩
def Qda (fuel:Nat) (s1:(List Int)) (v2:Int):Option Int :=
  Qdz (fun k4 (x3:Int)=>(if (x3 < (s1.length:Int)) then ((getO s1 x3).bind fun x6=>(if (v2 == x6) then some x3 else k4 (IntKind.wrap .i64 (x3 + 1)))) else some (-1))) fuel 0
def Qic (P:Program) (c:Nat) (f:(List Int)→Int→Option Bool):Prop:=∀ s1 v2 r,f s1 v2 = some r→∀ M nb,ACalls P c [(l_ s1),(i_ v2)] M nb (b_ r) M nb
def Qyg:List COp:=[oo 4 .mov [.c (.d (.bool false))]]
def Qyh:List COp:=[oM 5 0,oM 6 1,oo 7 (.call 116) [.t 5,.t 6],oo 8 (.bin .geq false) [.t 7,cI 0],oM 4 8]
def Qid:CFn:=⟨2,9,[.t 4],.seq (.region Qyg 9 []) (.seq (.region Qyh 9 []) (.ret))⟩
def Qck (Qda:(List Int)→Int→Option Int) (s1:(List Int)) (v2:Int):Option Bool :=
  ((Qda s1 v2).bind fun x4=>some (decide (x4≥0)))
def Qhp (P:Program) (c:Nat) (f:Qm→Option Int):Prop:=∀ a1 r,f a1 = some r→∀ M nb,ACalls P c [(Qo a1)] M nb (i_ r) M nb
def Qvt:List COp:=[oo 1 (.box 4) [.t 0],oo 2 .mov [cI 0]]
def Qvu:List COp:=[oF 6 3 1,oL 7 6,oo 8 .len [.t 7],oo 9 .mov [cI 0]]
def Qvv:List COp:=[oo 10 (.bin .lss false) [.t 9,.t 8]]
def Qvw:List COp:=[oM 11 9,oo 12 (.idx 3) [.t 7,.t 9],oo 13 (.load true 3) [.t 12],oo 4 (.alloc [.d (.int .i64 0),.d (.int .i64 0),.d (.int .i64 0)]) [],oM 3 11,⟨none,.store 3,[.t 4,.t 13],false,none⟩]
def Qvx:List COp:=[oF 15 0 4,oL 16 15,oo 17 (.bin .lss false) [.t 16,cI 0],oM 18 17,⟨some 19,.fld 0,[.t 4],false,some (18,false)⟩,⟨some 20,.load false 1,[.t 19],false,some (18,false)⟩,⟨some 21,.fld 1,[.t 1],false,some (18,false)⟩,⟨some 22,.load false 1,[.t 21],false,some (18,false)⟩,⟨some 23,.bin .geq false,[.t 20,.t 22],false,some (18,false)⟩,oo 24 .pick [.t 18,.c (.d (.bool true)),.t 23],oM 25 24,⟨some 26,.fld 2,[.t 4],false,some (25,false)⟩,⟨some 27,.load false 1,[.t 26],false,some (25,false)⟩,⟨some 28,.bin .lss false,[.t 27,cI 0],false,some (25,false)⟩,oo 29 .pick [.t 25,.c (.d (.bool true)),.t 28],oM 30 29,⟨some 31,.fld 2,[.t 4],false,some (30,false)⟩,⟨some 32,.load false 1,[.t 31],false,some (30,false)⟩,⟨some 33,.fld 1,[.t 1],false,some (30,false)⟩,⟨some 34,.load false 1,[.t 33],false,some (30,false)⟩,⟨some 35,.bin .geq false,[.t 32,.t 34],false,some (30,false)⟩,oo 36 .pick [.t 30,.c (.d (.bool true)),.t 35],oM 14 36]
def Qvy:List COp:=[oo 2 .mov [cI 2]]
def Qvz:List COp:=[oF 38 0 1,oL 39 38,oF 40 1 4,oL 41 40,oo 42 (.call 98) [.t 39,.t 41],oo 43 (.un .not) [.t 42],oM 37 43]
def Qv0:List COp:=[oo 2 .mov [cI 9]]
def Qv1:List COp:=[oM 44 3,oo 45 (.bin .eql false) [.t 44,cI 0]]
def Qv2:List COp:=[oF 46 3 1,oL 47 46,oM 48 3,oo 49 (.bin .sub false) [.t 48,cI 1],oo 50 (.idx 3) [.t 47,.t 49],oo 51 (.load true 3) [.t 50],oo 5 (.alloc [.d (.int .i64 0),.d (.int .i64 0),.d (.int .i64 0)]) [],⟨none,.store 3,[.t 5,.t 51],false,none⟩]
def Qtu:List COp:=[oF 52 0 4,oL 53 52,oF 54 0 5,oL 55 54,oo 56 (.bin .lss false) [.t 53,.t 55],oM 57 56,⟨some 58,.fld 0,[.t 4],false,some (57,false)⟩,⟨some 59,.load false 1,[.t 58],false,some (57,false)⟩,⟨some 60,.fld 0,[.t 5],false,some (57,false)⟩,⟨some 61,.load false 1,[.t 60],false,some (57,false)⟩,⟨some 62,.bin .eql false,[.t 59,.t 61],false,some (57,false)⟩,⟨some 63,.mov,[.t 62],false,some (57,false)⟩,⟨some 64,.fld 1,[.t 4],false,some (63,true)⟩,⟨some 65,.load false 1,[.t 64],false,some (63,true)⟩,⟨some 66,.fld 1,[.t 5],false,some (63,true)⟩,⟨some 67,.load false 1,[.t 66],false,some (63,true)⟩,⟨some 68,.bin .leq false,[.t 65,.t 67],false,some (63,true)⟩,⟨some 69,.pick,[.t 63,.t 68,.c (.d (.bool false))],false,some (57,false)⟩,oo 70 .pick [.t 57,.c (.d (.bool true)),.t 69]]
def Qtv:List COp:=[oo 2 .mov [cI 5]]
def Qtw:List COp:=[oo 71 (.bin .add false) [.t 9,cI 1],oM 9 71]
def Qtx:List COp:=[oo 2 .mov [cI 0]]
def Qhq:CFn:=⟨1,72,[.t 2],.seq (.region Qvt 9 []) (.seq (.seq (.region Qvu 9 []) (.block 0 (.loop [4,5] (.seq (.region Qvv 9 []) (.seq (.cond (.t 10) (.skip) (.exit 0)) (.seq (.block 1 (.seq (.region Qvw 9 []) (.seq (.block 2 (.seq (.region Qvx 9 []) (.cond (.t 14) (.seq (.region Qvy 9 []) (.ret)) (.seq (.region Qvz 9 []) (.cond (.t 37) (.seq (.region Qv0 9 []) (.ret)) (.skip)))))) (.seq (.seq (.region Qv1 9 []) (.cond (.t 45) (.exit 1) (.skip))) (.seq (.region Qv2 9 []) (.seq (.region Qtu 9 []) (.cond (.t 70) (.seq (.region Qtv 9 []) (.ret)) (.skip)))))))) (.region Qtw 9 []))))))) (.seq (.region Qtx 9 []) (.ret)))⟩
def Qcd (Qck:(List Int)→Int→Option Bool) (fuel:Nat) (a1:Qm):Option Int :=
  Qdz (fun k3 (x2:Int)=>(if (x2 < (a1.zL.length:Int)) then letJ (fun ((c22,c23,c24):Int×Int×Int)=>k3 (IntKind.wrap .i64 (x2 + 1))) fun J25=>((getO a1.zL x2).bind fun x5=>(((if (x5.From < 0) then some true else (if (x5.From≥a1.zM) then some true else (if (x5.To < 0) then some true else some (decide (x5.To≥a1.zM)))))).bind fun (x10:Bool)=>(if x10 then some 2 else ((Qck a1.zJ x5.Event).bind fun x13=>(if x13 then (if (x2 == 0) then J25 (x5.From,x5.Event,x5.To) else ((getO a1.zL (IntKind.wrap .i64 (x2 - 1))).bind fun x16=>(((if (x5.From < x16.From) then some true else (if (x5.From == x16.From) then some (decide (x5.Event≤x16.Event)) else some false))).bind fun (x20:Bool)=>(if x20 then some 5 else J25 (x5.From,x5.Event,x5.To))))) else some 9))))) else some 0)) fuel 0
def Qg4 (P:Program) (c:Nat) (f:Qm→Option Int):Prop:=∀ a1 r,f a1 = some r→∀ M nb,ACalls P c [(Qo a1)] M nb (i_ r) M nb
def Q4b:List COp:=[oo 1 (.box 4) [.t 0],oo 2 .mov [cI 0]]
def Q4c:List COp:=[oF 5 0 1,oL 6 5,oo 7 (.call 85) [.t 6,cI 32],oM 3 7]
def Q4d:List COp:=[oM 8 3,oo 9 (.bin .neq false) [.t 8,cI 0]]
def Q4e:List COp:=[oM 10 3,oM 2 10]
def Q4f:List COp:=[oF 12 1 1,oL 13 12,oo 14 (.bin .lss false) [.t 13,cI 0],oM 11 14]
def Q4g:List COp:=[oo 2 .mov [cI 2]]
def Q4h:List COp:=[oF 16 1 1,oL 17 16,oo 18 (.bin .gtr false) [.t 17,cI 4096],oM 15 18]
def Q4i:List COp:=[oo 2 .mov [cI 3]]
def Q4j:List COp:=[oF 19 2 1,oL 20 19,oF 21 1 1,oL 22 21,oo 23 (.call 85) [.t 20,.t 22],oM 4 23]
def Q4k:List COp:=[oM 24 4,oo 25 (.bin .neq false) [.t 24,cI 0]]
def Q26:List COp:=[oM 26 4,oM 2 26]
def Q27:List COp:=[oo 27 (.load true 4) [.t 1],oo 28 (.call 86) [.t 27],oM 2 28]
def Qm5:CFn:=⟨1,29,[.t 2],.seq (.region Q4b 9 []) (.seq (.seq (.region Q4c 9 []) (.seq (.region Q4d 9 []) (.cond (.t 9) (.seq (.region Q4e 9 []) (.ret)) (.skip)))) (.seq (.block 0 (.seq (.region Q4f 9 []) (.cond (.t 11) (.seq (.region Q4g 9 []) (.ret)) (.seq (.region Q4h 9 []) (.cond (.t 15) (.seq (.region Q4i 9 []) (.ret)) (.skip)))))) (.seq (.seq (.region Q4j 9 []) (.seq (.region Q4k 9 []) (.cond (.t 25) (.seq (.region Q26 9 []) (.ret)) (.skip)))) (.seq (.region Q27 9 []) (.ret)))))⟩
def Qbd (Qcf:(List Int)→Int→Option Int) (Qcd:Qm→Option Int) (a1:Qm):Option Int :=
  ((Qcf a1.zJ 32).bind fun x3=>(if (x3 != 0) then some x3 else (if (a1.zM < 0) then some 2 else (if (a1.zM > 4096) then some 3 else ((Qcf a1.zK a1.zM).bind fun x8=>(if (x8 != 0) then some x8 else ((Qcd a1).bind fun x11=>some x11)))))))
def Qei (P:Program) (c:Nat) (f:(List Int)→Int→Option Int):Prop:=∀ xset1 n2 r,f xset1 n2 = some r→∀ M nb,ACalls P c [(l_ xset1),(i_ n2)] M nb (i_ r) M nb
def Q07:List COp:=[oo 4 .mov [cI 0]]
def Q08:List COp:=[oM 7 0,oo 8 .len [.t 7],oo 9 .mov [cI 0]]
def Q09:List COp:=[oo 10 (.bin .lss false) [.t 9,.t 8]]
def Q1a:List COp:=[oM 11 9,oo 12 (.idx 1) [.t 7,.t 9],oL 13 12,oM 5 11,oM 6 13]
def Q1b:List COp:=[oM 14 6,oo 15 (.bin .lss false) [.t 14,cI 0],oM 16 15,⟨some 17,.mov,[.t 6],false,some (16,false)⟩,⟨some 18,.mov,[.t 1],false,some (16,false)⟩,⟨some 19,.bin .geq false,[.t 17,.t 18],false,some (16,false)⟩,oo 20 .pick [.t 16,.c (.d (.bool true)),.t 19]]
def Q1c:List COp:=[oo 4 .mov [cI 2]]
def Q1d:List COp:=[oM 21 5,oo 22 (.bin .gtr false) [.t 21,cI 0],oM 23 22,⟨some 24,.mov,[.t 6],false,some (23,true)⟩,⟨some 25,.mov,[.t 0],false,some (23,true)⟩,⟨some 26,.mov,[.t 5],false,some (23,true)⟩,⟨some 27,.bin .sub false,[.t 26,cI 1],false,some (23,true)⟩,⟨some 28,.idx 1,[.t 25,.t 27],false,some (23,true)⟩,⟨some 29,.load false 1,[.t 28],false,some (23,true)⟩,⟨some 30,.bin .leq false,[.t 24,.t 29],false,some (23,true)⟩,oo 31 .pick [.t 23,.t 30,.c (.d (.bool false))]]
def Q1e:List COp:=[oo 4 .mov [cI 5]]
def Q1f:List COp:=[oo 32 (.bin .add false) [.t 9,cI 1],oM 9 32]
def Q1g:List COp:=[oo 4 .mov [cI 0]]
def Qju:CFn:=⟨2,33,[.t 4],.seq (.region Q07 9 []) (.seq (.seq (.region Q08 9 []) (.block 0 (.loop [] (.seq (.region Q09 9 []) (.seq (.cond (.t 10) (.skip) (.exit 0)) (.seq (.block 1 (.seq (.region Q1a 9 []) (.seq (.seq (.region Q1b 9 []) (.cond (.t 20) (.seq (.region Q1c 9 []) (.ret)) (.skip))) (.seq (.region Q1d 9 []) (.cond (.t 31) (.seq (.region Q1e 9 []) (.ret)) (.skip)))))) (.region Q1f 9 []))))))) (.seq (.region Q1g 9 []) (.ret)))⟩
def Qy (fuel:Nat) (xset1:(List Int)) (n2:Int):Option Int :=
  Qdz (fun k4 (x3:Int)=>(if (x3 < (xset1.length:Int)) then ((getO xset1 x3).bind fun x6=>(((if (x6 < 0) then some true else some (decide (x6≥n2)))).bind fun (x9:Bool)=>(if x9 then some 2 else (((if (x3 > 0) then ((getO xset1 (IntKind.wrap .i64 (x3 - 1))).bind fun x12=>some (decide (x6≤x12))) else some false)).bind fun (x14:Bool)=>(if x14 then some 5 else k4 (IntKind.wrap .i64 (x3 + 1))))))) else some 0)) fuel 0
def Qf0 (P:Program) (c:Nat) (f:Int→Option Bool):Prop:=∀ n1 r,f n1 = some r→∀ M nb,ACalls P c [(i_ n1)] M nb (b_ r) M nb
def Qv3:List COp:=[oo 2 .mov [.c (.d (.bool false))]]
def Qv4:List COp:=[oM 3 0,oo 4 (.bin .geq false) [.t 3,cI 0],oM 5 4,⟨some 6,.mov,[.t 0],false,some (5,true)⟩,⟨some 7,.bin .lss false,[.t 6,cI 32],false,some (5,true)⟩,oo 8 .pick [.t 5,.t 7,.c (.d (.bool false))],oM 2 8]
def Qhr:CFn:=⟨1,9,[.t 2],.seq (.region Qv3 9 []) (.seq (.region Qv4 9 []) (.ret))⟩
def Q4 (n1:Int):Option Bool :=
  (if (n1≥0) then some (decide (n1 < 32)) else some false)
def Qr5 (P:Program) (c:Nat) (f:Int→Option Bool):Prop:=∀ x1 r,f x1 = some r→∀ M nb,ACalls P c [(i_ x1)] M nb (b_ r) M nb
def Q59:List COp:=[oo 2 .mov [.c (.d (.bool false))]]
def Q6a:List COp:=[oM 3 0,oM 4 0,oo 5 (.bin .neq false) [.t 3,.t 4],oM 2 5]
def Qr6:CFn:=⟨1,6,[.t 2],.seq (.region Q59 9 []) (.seq (.region Q6a 9 []) (.ret))⟩
def Qdt (x1:Int):Option Bool :=
  some (x1 != x1)
def Qty (P:Program) (c:Nat) (f:Int→Int→Option Bool):Prop:=∀ x1 y2 r,f x1 y2 = some r→∀ M nb,ACalls P c [(i_ x1),(i_ y2)] M nb (b_ r) M nb
def Q6w:List COp:=[oo 4 .mov [.c (.d (.bool false))]]
def Q6x:List COp:=[oM 5 0,oo 6 (.call 115) [.t 5],oM 7 6,⟨some 8,.mov,[.t 1],false,some (7,true)⟩,⟨some 9,.call 115,[.t 8],false,some (7,true)⟩,⟨some 10,.un .not,[.t 9],false,some (7,true)⟩,oo 11 .pick [.t 7,.t 10,.c (.d (.bool false))],oM 12 11,⟨some 13,.mov,[.t 0],false,some (12,false)⟩,⟨some 14,.mov,[.t 1],false,some (12,false)⟩,⟨some 15,.bin .lss false,[.t 13,.t 14],false,some (12,false)⟩,oo 16 .pick [.t 12,.c (.d (.bool true)),.t 15],oM 4 16]
def Qtz:CFn:=⟨2,17,[.t 4],.seq (.region Q6w 9 []) (.seq (.region Q6x 9 []) (.ret))⟩
def Qek (Qdt:Int→Option Bool) (x1:Int) (y2:Int):Option Bool :=
  ((Qdt x1).bind fun x4=>(if x4 then ((Qdt y2).bind fun x7=>(if x7 then some (decide (x1 < y2)) else some true)) else some (decide (x1 < y2))))
def Qlm (P:Program) (c:Nat) (f:Int→Option Bool):Prop:=∀ x1 r,f x1 = some r→∀ M nb,ACalls P c [(i_ x1)] M nb (b_ r) M nb
def Q28:List COp:=[oo 2 .mov [.c (.d (.bool false))]]
def Q29:List COp:=[oM 3 0,oM 4 0,oo 5 (.bin .neq false) [.t 3,.t 4],oM 2 5]
def Qln:CFn:=⟨1,6,[.t 2],.seq (.region Q28 9 []) (.seq (.region Q29 9 []) (.ret))⟩
def Qc0 (x1:Int):Option Bool :=
  some (x1 != x1)
def Qgg (P:Program) (c:Nat) (f:(List Int)→Int→Option (Int×Bool)):Prop:=∀ x1 target2 r,f x1 target2 = some r→∀ M nb,ACalls P c [(l_ x1),(i_ target2)] M nb (.tup [(i_ r.1),(b_ r.2)]) M nb
def Qr7:List COp:=[oo 4 .mov [cI 0],oo 5 .mov [.c (.d (.bool false))]]
def Qr8:List COp:=[oM 10 0,oo 11 .len [.t 10],oM 6 11]
def Qr9:List COp:=[oM 12 6,oo 7 .mov [cI 0],oM 8 12]
def Qsa:List COp:=[oM 13 7,oM 14 8,oo 15 (.bin .lss false) [.t 13,.t 14]]
def Qsb:List COp:=[oM 16 7,oM 17 8,oo 18 (.bin .add false) [.t 16,.t 17],oo 19 (.conv .u64) [.t 18],oo 20 (.bin .shr false) [.t 19,.c (.d (.int .u64 1))],oo 21 (.conv .i64) [.t 20],oM 9 21]
def Qsc:List COp:=[oM 22 0,oM 23 9,oo 24 (.idx 1) [.t 22,.t 23],oL 25 24,oM 26 1,oo 27 (.call 95) [.t 25,.t 26]]
def Qsd:List COp:=[oM 28 9,oo 29 (.bin .add false) [.t 28,cI 1],oM 7 29]
def Qse:List COp:=[oM 30 9,oM 8 30]
def Qsf:List COp:=[oM 31 7,oM 32 7,oM 33 6,oo 34 (.bin .lss false) [.t 32,.t 33],oM 35 34,⟨some 36,.mov,[.t 0],false,some (35,true)⟩,⟨some 37,.mov,[.t 7],false,some (35,true)⟩,⟨some 38,.idx 1,[.t 36,.t 37],false,some (35,true)⟩,⟨some 39,.load false 1,[.t 38],false,some (35,true)⟩,⟨some 40,.mov,[.t 1],false,some (35,true)⟩,⟨some 41,.bin .eql false,[.t 39,.t 40],false,some (35,true)⟩,⟨some 42,.mov,[.t 41],false,some (35,true)⟩,⟨some 43,.mov,[.t 0],false,some (42,false)⟩,⟨some 44,.mov,[.t 7],false,some (42,false)⟩,⟨some 45,.idx 1,[.t 43,.t 44],false,some (42,false)⟩,⟨some 46,.load false 1,[.t 45],false,some (42,false)⟩,⟨some 47,.call 96,[.t 46],false,some (42,false)⟩,⟨some 48,.mov,[.t 47],false,some (42,false)⟩,⟨some 49,.mov,[.t 1],false,some (48,true)⟩,⟨some 50,.call 96,[.t 49],false,some (48,true)⟩,⟨some 51,.pick,[.t 48,.t 50,.c (.d (.bool false))],false,some (42,false)⟩,⟨some 52,.pick,[.t 42,.c (.d (.bool true)),.t 51],false,some (35,true)⟩,oo 53 .pick [.t 35,.t 52,.c (.d (.bool false))],oM 4 31,oM 5 53]
def Qgh:CFn:=⟨2,54,[.t 4,.t 5],.seq (.region Qr7 9 []) (.seq (.region Qr8 9 []) (.seq (.region Qr9 9 []) (.seq (.block 0 (.loop [] (.seq (.seq (.region Qsa 9 []) (.cond (.t 15) (.skip) (.exit 0))) (.block 1 (.seq (.region Qsb 9 []) (.seq (.region Qsc 9 []) (.cond (.t 27) (.region Qsd 9 []) (.region Qse 9 [])))))))) (.seq (.region Qsf 9 []) (.ret)))))⟩
def Qb1 (Qek:Int→Int→Option Bool) (Qc0:Int→Option Bool) (fuel:Nat) (x1:(List Int)) (target2:Int):Option (Int×Bool) :=
  ((Qdz (fun k5 ((i3,j4):Int×Int)=>(if (i3 < j4) then ((getO x1 (IntKind.wrap .i64 (Int.fdiv (IntKind.wrap .u64 (IntKind.wrap .i64 (i3 + j4))) (2 ^ (min (Int.toNat 1) (IntKind.bits .u64)))))).bind fun x7=>((Qek x7 target2).bind fun x10=>(if x10 then k5 ((IntKind.wrap .i64 ((IntKind.wrap .i64 (Int.fdiv (IntKind.wrap .u64 (IntKind.wrap .i64 (i3 + j4))) (2 ^ (min (Int.toNat 1) (IntKind.bits .u64))))) + 1)),j4) else k5 (i3,(IntKind.wrap .i64 (Int.fdiv (IntKind.wrap .u64 (IntKind.wrap .i64 (i3 + j4))) (2 ^ (min (Int.toNat 1) (IntKind.bits .u64))))))))) else some i3)) fuel (0,(x1.length:Int))).bind fun (i12:Int)=>(if (i12 < (x1.length:Int)) then ((getO x1 i12).bind fun x14=>(if (x14 == target2) then some (i12,true) else ((getO x1 i12).bind fun x17=>((Qc0 x17).bind fun x20=>(if x20 then ((Qc0 target2).bind fun x23=>some (i12,x23)) else some (i12,false)))))) else some (i12,false)))
def Qbz (P:Program) (c:Nat) (f:(List Int)→Int→Option Bool):Prop:=∀ xset1 x2 r,f xset1 x2 = some r→∀ M nb,ACalls P c [(l_ xset1),(i_ x2)] M nb (b_ r) M nb
def Q1h:List COp:=[oo 4 .mov [.c (.d (.bool false))]]
def Q1i:List COp:=[oM 8 0,oM 9 1,oo 10 (.call 74) [.t 8,.t 9],oM 7 10,oo 11 (.extract 0) [.t 7],oo 12 (.extract 1) [.t 7],oM 5 11,oM 6 12]
def Q1j:List COp:=[oM 13 6,oM 4 13]
def Qjv:CFn:=⟨2,14,[.t 4],.seq (.region Q1h 9 []) (.seq (.region Q1i 9 []) (.seq (.region Q1j 9 []) (.ret)))⟩
def Qh (Qb1:(List Int)→Int→Option (Int×Bool)) (xset1:(List Int)) (x2:Int):Option Bool :=
  ((Qb1 xset1 x2).bind fun (r4,r5)=>some r5)
def Qdr (P:Program) (c:Nat) (f:Qa→Option Int):Prop:=∀ p1 r,f p1 = some r→∀ M nb,ACalls P c [.agg [(l_ p1.zA.zJ),(i_ p1.zA.zM),(l_ p1.zA.zK),.d (.lst 3 (List.map Qb p1.zA.zL)),(l_ p1.zC),(l_ p1.zB),(l_ p1.zD),(i_ p1.Tick)]] M nb (i_ r) M nb
def Qv5:List COp:=[oo 1 (.box 8) [.t 0],oo 2 .mov [cI 0]]
def Qv6:List COp:=[oF 8 0 1,oo 9 (.load true 4) [.t 8],oo 10 (.call 64) [.t 9],oM 3 10]
def Qv7:List COp:=[oM 11 3,oo 12 (.bin .neq false) [.t 11,cI 0]]
def Qv8:List COp:=[oM 13 3,oM 2 13]
def Qv9:List COp:=[oF 14 4 1,oL 15 14,oF 16 0 1,oF 17 1 16,oL 18 17,oo 19 (.call 31) [.t 15,.t 18],oM 4 19]
def Qwa:List COp:=[oM 20 4,oo 21 (.bin .neq false) [.t 20,cI 0]]
def Qwb:List COp:=[oM 22 4,oM 2 22]
def Qwc:List COp:=[oF 23 5 1,oL 24 23,oF 25 6 1,oL 26 25,oo 27 (.bslice 1 2 [.nils 1] [0,1]) [.t 24,.t 26],oo 28 .len [.t 27],oo 29 .mov [cI 0]]
def Qwd:List COp:=[oo 30 (.bin .lss false) [.t 29,.t 28]]
def Qwe:List COp:=[oo 31 (.idx 1) [.t 27,.t 29],oL 32 31,ot 6 .mov [.t 32]]
def Qt0:List COp:=[oM 33 6,oo 34 (.call 31) [.t 33,cI 32],oM 7 34]
def Qt1:List COp:=[oM 35 7,oo 36 (.bin .neq false) [.t 35,cI 0]]
def Qt2:List COp:=[oM 37 7,oM 2 37]
def Qt3:List COp:=[oo 38 (.bin .add false) [.t 29,cI 1],oM 29 38]
def Qt4:List COp:=[oF 40 7 1,oL 41 40,oo 42 (.call 65) [.t 41],oo 43 (.un .not) [.t 42],oM 39 43]
def Qt5:List COp:=[oo 2 .mov [cI 2]]
def Qt6:List COp:=[oF 45 5 1,oL 46 45,oF 47 7 1,oL 48 47,oo 49 (.call 50) [.t 46,.t 48],oM 50 49,⟨some 51,.fld 6,[.t 1],false,some (50,false)⟩,⟨some 52,.load false 1,[.t 51],false,some (50,false)⟩,⟨some 53,.fld 7,[.t 1],false,some (50,false)⟩,⟨some 54,.load false 1,[.t 53],false,some (50,false)⟩,⟨some 55,.call 50,[.t 52,.t 54],false,some (50,false)⟩,oo 56 .pick [.t 50,.c (.d (.bool true)),.t 55],oM 44 56]
def Qt7:List COp:=[oo 2 .mov [cI 13]]
def Qt8:List COp:=[oo 2 .mov [cI 0]]
def Qhs:CFn:=⟨1,57,[.t 2],.seq (.region Qv5 9 []) (.seq (.seq (.region Qv6 9 []) (.seq (.region Qv7 9 []) (.cond (.t 12) (.seq (.region Qv8 9 []) (.ret)) (.skip)))) (.seq (.seq (.region Qv9 9 []) (.seq (.region Qwa 9 []) (.cond (.t 21) (.seq (.region Qwb 9 []) (.ret)) (.skip)))) (.seq (.seq (.region Qwc 9 []) (.block 0 (.loop [] (.seq (.region Qwd 9 []) (.seq (.cond (.t 30) (.skip) (.exit 0)) (.seq (.block 1 (.seq (.region Qwe 9 []) (.seq (.region Qt0 9 []) (.seq (.region Qt1 9 []) (.cond (.t 36) (.seq (.region Qt2 9 []) (.ret)) (.skip)))))) (.region Qt3 9 []))))))) (.seq (.block 2 (.seq (.region Qt4 9 []) (.cond (.t 39) (.seq (.region Qt5 9 []) (.ret)) (.seq (.region Qt6 9 []) (.cond (.t 44) (.seq (.region Qt7 9 []) (.ret)) (.skip)))))) (.seq (.region Qt8 9 []) (.ret))))))⟩
def Qw (Qy:(List Int)→Int→Option Int) (Qh:(List Int)→Int→Option Bool) (Qbd:Qm→Option Int) (Q4:Int→Option Bool) (fuel:Nat) (p1:Qa):Option Int :=
  ((Qbd p1.zA).bind fun x3=>(if (x3 != 0) then some x3 else ((Qy p1.zC p1.zA.zM).bind fun x6=>(if (x6 != 0) then some x6 else Qdz (fun k9 (x8:Int)=>(if (x8 < 2) then ((getO [p1.zB,p1.zD] x8).bind fun x11=>((Qy x11 32).bind fun x14=>(if (x14 != 0) then some x14 else k9 (IntKind.wrap .i64 (x8 + 1))))) else ((Q4 p1.Tick).bind fun x17=>(if x17 then ((((Qh p1.zB p1.Tick).bind fun x20=>(if x20 then some true else ((Qh p1.zD p1.Tick).bind fun x23=>some x23)))).bind fun (x24:Bool)=>(if x24 then some 13 else some 0)) else some 2)))) fuel 0))))
def Qeh (P:Program) (c:Nat) (f:Qa→Option Qd):Prop:=∀ p1 r,f p1 = some r→∀ M nb,ACalls P c [.agg [(l_ p1.zA.zJ),(i_ p1.zA.zM),(l_ p1.zA.zK),.d (.lst 3 (List.map Qb p1.zA.zL)),(l_ p1.zC),(l_ p1.zB),(l_ p1.zD),(i_ p1.Tick)]] M nb (.ptr (nb + 17) 0) (Qr nb [(17,.cells [(l_ r.zN.zA.zJ),(i_ r.zN.zA.zM),(l_ r.zN.zA.zK),.d (.lst 3 (List.map Qb r.zN.zA.zL)),(l_ r.zN.zC),(l_ r.zN.zB),(l_ r.zN.zD),(i_ r.zN.Tick),.sl 1 (nb + 11) 0 r.from_.length r.from_.length,.sl 1 (nb + 15) 0 r.left_.length r.left_.length]),(11,.cells (Qz (fun (x:List Qe)=>[V.d (.lst 3 (List.map Qb x))]) r.from_)),(15,.cells (Qz (fun (x:Bool)=>[V.d (.bool x)]) r.left_))] M) (nb + 66)
def Qwf:List COp:=[oo 1 (.box 8) [.t 0],oo 2 .mov [.c (.nilp)]]
def Qwg:List COp:=[oo 7 (.load true 8) [.t 1],oF 8 0 1,oF 9 1 8,oL 10 9,oo 11 (.makes 1 24 [.nils 3]) [.t 10,.t 10],oF 12 0 1,oF 13 1 12,oL 14 13,oo 15 (.makes 1 1 [.d (.bool false)]) [.t 14,.t 14],ot 16 (.build [.nils 1,.d (.int .i64 0),.nils 1,.nils 3,.nils 1,.nils 1,.nils 1,.d (.int .i64 0),.nils 1,.nils 1] [(0,8),(8,1),(9,1)]) [.t 7,.t 11,.t 15],oo 17 (.box 10) [.t 16],oM 3 17]
def Qwh:List COp:=[oF 18 0 1,oF 19 3 18,oL 20 19,oo 21 .len [.t 20],oo 22 .mov [cI 0]]
def Qwi:List COp:=[oo 23 (.bin .lss false) [.t 22,.t 21]]
def Qwj:List COp:=[oo 24 (.idx 3) [.t 20,.t 22],oo 25 (.load true 3) [.t 24],oo 5 (.alloc [.d (.int .i64 0),.d (.int .i64 0),.d (.int .i64 0)]) [],⟨none,.store 3,[.t 5,.t 25],false,none⟩]
def Qwk:List COp:=[oM 26 3,oo 27 .nilchk [.t 26],oF 28 8 27,oL 29 28,oF 30 0 5,oL 31 30,oM 32 3,oo 33 .nilchk [.t 32],oF 34 8 33,oL 35 34,oF 36 0 5,oL 37 36,oo 38 (.idx 1) [.t 35,.t 37],oo 39 .loadT [.t 38],oo 40 (.load true 3) [.t 5],oo 41 (.bslice 3 1 [.d (.int .i64 0),.d (.int .i64 0),.d (.int .i64 0)] [0]) [.t 40],ot 42 (.append 3 24) [.t 39,.t 41],oo 43 (.idx 1) [.t 29,.t 31],⟨none,.store 1,[.t 43,.t 42],true,none⟩]
def Qwl:List COp:=[oo 44 (.bin .add false) [.t 22,cI 1],oM 22 44]
def Qwm:List COp:=[oM 45 3,oo 46 .nilchk [.t 45],oF 47 9 46,oL 48 47,oo 49 .len [.t 48],oo 50 .mov [cI 0]]
def Qwn:List COp:=[oo 51 (.bin .lss false) [.t 50,.t 49]]
def Qwo:List COp:=[oM 52 50,oM 6 52]
def Qt9:List COp:=[oM 53 3,oo 54 .nilchk [.t 53],oF 55 9 54,oL 56 55,oM 57 6,oF 58 4 1,oL 59 58,oM 60 6,oo 61 (.call 50) [.t 59,.t 60],oo 62 (.un .not) [.t 61],oo 63 (.idx 1) [.t 56,.t 57],⟨none,.store 1,[.t 63,.t 62],false,none⟩]
def Qua:List COp:=[oo 64 (.bin .add false) [.t 50,cI 1],oM 50 64]
def Qub:List COp:=[oM 65 3,oM 2 65]
def Qht:CFn:=⟨1,66,[.t 2],.seq (.region Qwf 9 []) (.seq (.region Qwg 0 []) (.seq (.seq (.region Qwh 9 []) (.block 0 (.loop [5,41] (.seq (.region Qwi 9 []) (.seq (.cond (.t 23) (.skip) (.exit 0)) (.seq (.block 1 (.seq (.region Qwj 9 []) (.region Qwk 0 []))) (.region Qwl 9 []))))))) (.seq (.seq (.region Qwm 9 []) (.block 2 (.loop [] (.seq (.region Qwn 9 []) (.seq (.cond (.t 51) (.skip) (.exit 2)) (.seq (.block 3 (.seq (.region Qwo 9 []) (.region Qt9 1 []))) (.region Qua 9 []))))))) (.seq (.region Qub 9 []) (.ret)))))⟩
def Q2 (Qh:(List Int)→Int→Option Bool) (fuel:Nat) (p1:Qa):Option Qd :=
  ((mkO p1.zA.zM ([]:List Qe)).bind fun x2=>((mkO p1.zA.zM false).bind fun x4=>((Qdz (fun k8 ((x6,c7):Int×(List (List Qe)))=>(if (x6 < (p1.zA.zL.length:Int)) then ((getO p1.zA.zL x6).bind fun x10=>((inO (Int.toNat p1.zA.zM) x10.From).bind fun u12=>((getO c7 x10.From).bind fun x14=>((appO x14 [x10]).bind fun x16=>((inO (Int.toNat p1.zA.zM) x10.From).bind fun u18=>((setO c7 x10.From x16).bind fun x20=>k8 ((IntKind.wrap .i64 (x6 + 1)),x20))))))) else some c7)) fuel (0,x2)).bind fun (c22:List (List Qe))=>((Qdz (fun k25 ((x23,c24):Int×(List Bool))=>(if (x23 < ((Int.toNat p1.zA.zM):Int)) then ((Qh p1.zC x23).bind fun x28=>((inO (Int.toNat p1.zA.zM) x23).bind fun u29=>((setO c24 x23 (!x28)).bind fun x31=>k25 ((IntKind.wrap .i64 (x23 + 1)),x31)))) else some c24)) fuel (0,x4)).bind fun (c33:List Bool)=>(lenO c22 (Int.toNat p1.zA.zM)).bind fun _=>(lenO c33 (Int.toNat p1.zA.zM)).bind fun _=>some (Qd.mk p1 c22 c33)))))
def Qeq (P:Program) (c:Nat) (f:Qe→Qd→Option Bool):Prop:=∀ x1 x2 (k3:Nat) (k5:Nat) (k7:Nat) (k9:Nat) r,f x1 x2 = some r→∀ M nb,(M k3 = some (.cells [.ptr k5 0]))→(M k5 = some (.cells [(l_ x2.zN.zA.zJ),(i_ x2.zN.zA.zM),(l_ x2.zN.zA.zK),.d (.lst 3 (List.map Qb x2.zN.zA.zL)),(l_ x2.zN.zC),(l_ x2.zN.zB),(l_ x2.zN.zD),(i_ x2.zN.Tick),.sl 1 k7 0 x2.from_.length x2.from_.length,.sl 1 k9 0 x2.left_.length x2.left_.length]))→(M k7 = some (.cells (Qz (fun (x:List Qe)=>[V.d (.lst 3 (List.map Qb x))]) x2.from_)))→(M k9 = some (.cells (Qz (fun (x:Bool)=>[V.d (.bool x)]) x2.left_)))→ACalls P c [(Qbv x1),.ptr k3 0] M nb (b_ r) M nb
def Qmf:List COp:=[oo 2 (.box 3) [.t 0],oo 3 .mov [.c (.d (.bool false))]]
def Qmg:List COp:=[oF 4 1 2,oL 5 4,oL 6 1,oo 7 .nilchk [.t 6],oF 8 0 7,oF 9 7 8,oL 10 9,oo 11 (.bin .eql false) [.t 5,.t 10],oM 12 11,⟨some 13,.load false 1,[.t 1],false,some (12,true)⟩,⟨some 14,.nilchk,[.t 13],false,some (12,true)⟩,⟨some 15,.fld 9,[.t 14],false,some (12,true)⟩,⟨some 16,.load false 1,[.t 15],false,some (12,true)⟩,⟨some 17,.fld 2,[.t 2],false,some (12,true)⟩,⟨some 18,.load false 1,[.t 17],false,some (12,true)⟩,⟨some 19,.idx 1,[.t 16,.t 18],false,some (12,true)⟩,⟨some 20,.load false 1,[.t 19],false,some (12,true)⟩,⟨some 21,.un .not,[.t 20],false,some (12,true)⟩,oo 22 .pick [.t 12,.t 21,.c (.d (.bool false))],oM 3 22]
def Qer:CFn:=⟨2,23,[.t 3],.seq (.region Qmf 9 []) (.seq (.region Qmg 0 []) (.ret))⟩
def Qbf (x1:Qe) (x2:Qd):Option Bool :=
  (if (x1.Event == x2.zN.Tick) then ((inO x2.left_.length x1.To).bind fun u12=>((getO x2.left_ x1.To).bind fun x14=>some (!x14))) else some false)
def Qhb (P:Program) (c:Nat) (f:(List Qe)→(Qe→Option Bool)→Option Int):Prop:=∀ s1 f2 (g3:Nat) (cp4:List V) r,f s1 f2 = some r→∀ M nb,(V.dems cp4 = cp4)→(V.ons (There M) cp4)→(∀ a8 r,f2 a8 = some r→∀ M2 nb2,nb≤nb2→Ext M M2→ACalls P g3 ([(Qbv a8)] ++ cp4) M2 nb2 (b_ r) M2 nb2)→ACalls P c [.d (.lst 3 (List.map Qb s1)),.clo g3 cp4] M nb (i_ r) M nb
def Quc:List COp:=[oo 4 .mov [cI 0]]
def Qud:List COp:=[oM 6 0,oo 7 .len [.t 6],oo 8 .mov [cI 0]]
def Que:List COp:=[oo 9 (.bin .lss false) [.t 8,.t 7]]
def Quf:List COp:=[oM 10 8,oM 5 10]
def Qug:List COp:=[oM 11 1,oM 12 0,oM 13 5,oo 14 (.idx 3) [.t 12,.t 13],oo 15 (.load true 3) [.t 14],oo 16 .callv [.t 11,.t 15]]
def Quh:List COp:=[oM 17 5,oM 4 17]
def Qui:List COp:=[oo 18 (.bin .add false) [.t 8,cI 1],oM 8 18]
def Quj:List COp:=[oo 4 .mov [cI (-1)]]
def Qhc:CFn:=⟨2,19,[.t 4],.seq (.region Quc 9 []) (.seq (.seq (.region Qud 9 []) (.block 0 (.loop [] (.seq (.region Que 9 []) (.seq (.cond (.t 9) (.skip) (.exit 0)) (.seq (.block 1 (.seq (.region Quf 9 []) (.seq (.region Qug 9 []) (.cond (.t 16) (.seq (.region Quh 9 []) (.ret)) (.skip))))) (.region Qui 9 []))))))) (.seq (.region Quj 9 []) (.ret)))⟩
def Qb7 (fuel:Nat) (s1:(List Qe)) (f2:(Qe→Option Bool)):Option Int :=
  Qdz (fun k10 (x9:Int)=>(if (x9 < (s1.length:Int)) then ((getO s1 x9).bind fun x12=>((f2 x12).bind fun x15=>(if x15 then some x9 else k10 (IntKind.wrap .i64 (x9 + 1))))) else some (-1))) fuel 0
def Qch (P:Program) (c:Nat) (f:(List Qe)→(Qe→Option Bool)→Option Bool):Prop:=∀ s1 f2 (g3:Nat) (cp4:List V) r,f s1 f2 = some r→∀ M nb,(V.dems cp4 = cp4)→(V.ons (There M) cp4)→(∀ a8 r,f2 a8 = some r→∀ M2 nb2,nb≤nb2→Ext M M2→ACalls P g3 ([(Qbv a8)] ++ cp4) M2 nb2 (b_ r) M2 nb2)→ACalls P c [.d (.lst 3 (List.map Qb s1)),.clo g3 cp4] M nb (b_ r) M nb
def Qqw:List COp:=[oo 4 .mov [.c (.d (.bool false))]]
def Qqx:List COp:=[oM 5 0,oM 6 1,oo 7 (.call 71) [.t 5,.t 6],oo 8 (.bin .geq false) [.t 7,cI 0],oM 4 8]
def Qf5:CFn:=⟨2,9,[.t 4],.seq (.region Qqw 9 []) (.seq (.region Qqx 9 []) (.ret))⟩
def Ql (Qb7:(List Qe)→(Qe→Option Bool)→Option Int) (s1:(List Qe)) (f2:(Qe→Option Bool)):Option Bool :=
  ((Qb7 s1 f2).bind fun x13=>some (decide (x13≥0)))
def Qes (P:Program) (c:Nat) (f:Qe→Qd→Option Bool):Prop:=∀ x1 x2 (k3:Nat) (k5:Nat) (k7:Nat) (k9:Nat) r,f x1 x2 = some r→∀ M nb,(M k3 = some (.cells [.ptr k5 0]))→(M k5 = some (.cells [(l_ x2.zN.zA.zJ),(i_ x2.zN.zA.zM),(l_ x2.zN.zA.zK),.d (.lst 3 (List.map Qb x2.zN.zA.zL)),(l_ x2.zN.zC),(l_ x2.zN.zB),(l_ x2.zN.zD),(i_ x2.zN.Tick),.sl 1 k7 0 x2.from_.length x2.from_.length,.sl 1 k9 0 x2.left_.length x2.left_.length]))→(M k7 = some (.cells (Qz (fun (x:List Qe)=>[V.d (.lst 3 (List.map Qb x))]) x2.from_)))→(M k9 = some (.cells (Qz (fun (x:Bool)=>[V.d (.bool x)]) x2.left_)))→ACalls P c [(Qbv x1),.ptr k3 0] M nb (b_ r) M nb
def Qmh:List COp:=[oo 2 (.box 3) [.t 0],oo 3 .mov [.c (.d (.bool false))]]
def Qmi:List COp:=[oL 4 1,oo 5 .nilchk [.t 4],oF 6 9 5,oL 7 6,oF 8 2 2,oL 9 8,oo 10 (.idx 1) [.t 7,.t 9],oL 11 10,oM 12 11,⟨some 13,.load false 1,[.t 1],false,some (12,true)⟩,⟨some 14,.nilchk,[.t 13],false,some (12,true)⟩,⟨some 15,.fld 0,[.t 14],false,some (12,true)⟩,⟨some 16,.fld 6,[.t 15],false,some (12,true)⟩,⟨some 17,.load false 1,[.t 16],false,some (12,true)⟩,⟨some 18,.fld 1,[.t 2],false,some (12,true)⟩,⟨some 19,.load false 1,[.t 18],false,some (12,true)⟩,⟨some 20,.call 50,[.t 17,.t 19],false,some (12,true)⟩,oo 21 .pick [.t 12,.t 20,.c (.d (.bool false))],oM 3 21]
def Qet:CFn:=⟨2,22,[.t 3],.seq (.region Qmh 9 []) (.seq (.region Qmi 0 []) (.ret))⟩
def Qbg (Qh:(List Int)→Int→Option Bool) (x1:Qe) (x2:Qd):Option Bool :=
  ((inO x2.left_.length x1.To).bind fun u11=>((getO x2.left_ x1.To).bind fun x13=>(if x13 then ((Qh x2.zN.zD x1.Event).bind fun x17=>some x17) else some false)))
def Qff (P:Program) (c:Nat) (f:Qd→Int→Option Bool):Prop:=∀ t1 state8 (k2:Nat) (k4:Nat) (k6:Nat) r,f t1 state8 = some r→∀ M nb,(M k2 = some (.cells [(l_ t1.zN.zA.zJ),(i_ t1.zN.zA.zM),(l_ t1.zN.zA.zK),.d (.lst 3 (List.map Qb t1.zN.zA.zL)),(l_ t1.zN.zC),(l_ t1.zN.zB),(l_ t1.zN.zD),(i_ t1.zN.Tick),.sl 1 k4 0 t1.from_.length t1.from_.length,.sl 1 k6 0 t1.left_.length t1.left_.length]))→(M k4 = some (.cells (Qz (fun (x:List Qe)=>[V.d (.lst 3 (List.map Qb x))]) t1.from_)))→(M k6 = some (.cells (Qz (fun (x:Bool)=>[V.d (.bool x)]) t1.left_)))→ACalls P c [.ptr k2 0,(i_ state8)] M nb (b_ r) M nb
def Qnv:List COp:=[oo 2 (.box 1) [.t 0],oo 4 .mov [.c (.d (.bool false))]]
def Qnw:List COp:=[oL 5 2,oo 6 .nilchk [.t 5],oF 7 8 6,oL 8 7,oM 9 1,oo 10 (.idx 1) [.t 8,.t 9],oL 11 10,oo 12 (.func 97) [.t 2],oo 13 (.call 40) [.t 11,.t 12],oM 4 13]
def Qfg:CFn:=⟨2,14,[.t 4],.seq (.region Qnv 9 []) (.seq (.region Qnw 9 []) (.ret))⟩
def Qbo (Ql:(List Qe)→(Qe→Option Bool)→Option Bool) (Qbg:Qe→Qd→Option Bool) (t1:Qd) (state8:Int):Option Bool :=
  ((inO t1.from_.length state8).bind fun u9=>((getO t1.from_ state8).bind fun x11=>((Ql x11 (fun a13=>Qbg a13 t1)).bind fun x17=>some x17)))
def Qdb (P:Program) (c:Nat) (f:Qd→Int→Option (Int×Int)):Prop:=∀ t1 state8 (k2:Nat) (k4:Nat) (k6:Nat) r,f t1 state8 = some r→∀ M nb,(M k2 = some (.cells [(l_ t1.zN.zA.zJ),(i_ t1.zN.zA.zM),(l_ t1.zN.zA.zK),.d (.lst 3 (List.map Qb t1.zN.zA.zL)),(l_ t1.zN.zC),(l_ t1.zN.zB),(l_ t1.zN.zD),(i_ t1.zN.Tick),.sl 1 k4 0 t1.from_.length t1.from_.length,.sl 1 k6 0 t1.left_.length t1.left_.length]))→(M k4 = some (.cells (Qz (fun (x:List Qe)=>[V.d (.lst 3 (List.map Qb x))]) t1.from_)))→(M k6 = some (.cells (Qz (fun (x:Bool)=>[V.d (.bool x)]) t1.left_)))→ACalls P c [.ptr k2 0,(i_ state8)] M nb (.tup [(i_ r.1),(i_ r.2)]) M nb
def Qnx:List COp:=[oo 2 (.box 1) [.t 0],oo 4 .mov [cI 0],oo 5 .mov [cI 0]]
def Qny:List COp:=[oL 9 2,oo 10 .nilchk [.t 9],oF 11 8 10,oL 12 11,oM 13 1,oo 14 (.idx 1) [.t 12,.t 13],oL 15 14,oo 16 .len [.t 15],oo 17 .mov [cI 0]]
def Qnz:List COp:=[oo 18 (.bin .lss false) [.t 17,.t 16]]
def Qn0:List COp:=[oo 19 (.idx 3) [.t 15,.t 17],oo 20 (.load true 3) [.t 19],oo 7 (.alloc [.d (.int .i64 0),.d (.int .i64 0),.d (.int .i64 0)]) [],⟨none,.store 3,[.t 7,.t 20],false,none⟩]
def Qn1:List COp:=[oL 21 2,oo 22 .nilchk [.t 21],oF 23 9 22,oL 24 23,oF 25 2 7,oL 26 25,oo 27 (.idx 1) [.t 24,.t 26],oL 28 27,oo 29 (.un .not) [.t 28],oM 30 29,⟨some 31,.load false 1,[.t 2],false,some (30,true)⟩,⟨some 32,.nilchk,[.t 31],false,some (30,true)⟩,⟨some 33,.fld 0,[.t 32],false,some (30,true)⟩,⟨some 34,.fld 5,[.t 33],false,some (30,true)⟩,⟨some 35,.load false 1,[.t 34],false,some (30,true)⟩,⟨some 36,.fld 1,[.t 7],false,some (30,true)⟩,⟨some 37,.load false 1,[.t 36],false,some (30,true)⟩,⟨some 38,.call 50,[.t 35,.t 37],false,some (30,true)⟩,oo 39 .pick [.t 30,.t 38,.c (.d (.bool false))]]
def Qn2:List COp:=[oF 40 1 7,oL 41 40,oo 4 .mov [cI 2],oM 5 41]
def Qn3:List COp:=[oo 42 (.bin .add false) [.t 17,cI 1],oM 17 42]
def Qn4:List COp:=[oL 43 2,oo 44 .nilchk [.t 43],oF 45 8 44,oL 46 45,oM 47 1,oo 48 (.idx 1) [.t 46,.t 47],oL 49 48,oo 50 (.func 76) [.t 2],oo 51 (.call 40) [.t 49,.t 50],oM 8 51]
def Qn5:List COp:=[oM 52 8,oM 53 52,⟨some 54,.load false 1,[.t 2],false,some (53,true)⟩,⟨some 55,.mov,[.t 1],false,some (53,true)⟩,⟨some 56,.call 77,[.t 54,.t 55],false,some (53,true)⟩,⟨some 57,.un .not,[.t 56],false,some (53,true)⟩,oo 58 .pick [.t 53,.t 57,.c (.d (.bool false))]]
def Qn6:List COp:=[oL 59 2,oo 60 .nilchk [.t 59],oF 61 0 60,oF 62 7 61,oL 63 62,oo 4 .mov [cI 4],oM 5 63]
def Qm6:List COp:=[oo 4 .mov [cI 0],oo 5 .mov [cI (-1)]]
def Qfh:CFn:=⟨2,64,[.t 4,.t 5],.seq (.region Qnx 9 []) (.seq (.seq (.region Qny 9 []) (.block 0 (.loop [7] (.seq (.region Qnz 9 []) (.seq (.cond (.t 18) (.skip) (.exit 0)) (.seq (.block 1 (.seq (.region Qn0 9 []) (.seq (.region Qn1 0 []) (.cond (.t 39) (.seq (.region Qn2 0 []) (.ret)) (.skip))))) (.region Qn3 9 []))))))) (.seq (.region Qn4 9 []) (.seq (.seq (.region Qn5 9 []) (.cond (.t 58) (.seq (.region Qn6 0 []) (.ret)) (.skip))) (.seq (.region Qm6 9 []) (.ret)))))⟩
def Qs (Ql:(List Qe)→(Qe→Option Bool)→Option Bool) (Qh:(List Int)→Int→Option Bool) (Qbf:Qe→Qd→Option Bool) (Qbo:Qd→Int→Option Bool) (fuel:Nat) (t1:Qd) (state8:Int):Option (Int×Int) :=
  ((inO t1.from_.length state8).bind fun u9=>((getO t1.from_ state8).bind fun x11=>Qdz (fun k14 (x13:Int)=>(if (x13 < (x11.length:Int)) then ((getO x11 x13).bind fun x16=>((((inO t1.left_.length x16.To).bind fun u18=>((getO t1.left_ x16.To).bind fun x20=>(if x20 then some false else ((Qh t1.zN.zB x16.Event).bind fun x24=>some x24))))).bind fun (x25:Bool)=>(if x25 then some (2,x16.Event) else k14 (IntKind.wrap .i64 (x13 + 1))))) else ((inO t1.from_.length state8).bind fun u27=>((getO t1.from_ state8).bind fun x29=>((Ql x29 (fun a31=>Qbf a31 t1)).bind fun x35=>(((if x35 then ((Qbo t1 state8).bind fun x38=>some (!x38)) else some false)).bind fun (x39:Bool)=>(if x39 then some (4,t1.zN.Tick) else some (0,(-1))))))))) fuel 0))
def Qcz (P:Program) (c:Nat) (f:Qd→Option ((List Int))):Prop:=∀ t1 (k2:Nat) (k4:Nat) (k6:Nat) r,f t1 = some r→∀ M nb,(M k2 = some (.cells [(l_ t1.zN.zA.zJ),(i_ t1.zN.zA.zM),(l_ t1.zN.zA.zK),.d (.lst 3 (List.map Qb t1.zN.zA.zL)),(l_ t1.zN.zC),(l_ t1.zN.zB),(l_ t1.zN.zD),(i_ t1.zN.Tick),.sl 1 k4 0 t1.from_.length t1.from_.length,.sl 1 k6 0 t1.left_.length t1.left_.length]))→(M k4 = some (.cells (Qz (fun (x:List Qe)=>[V.d (.lst 3 (List.map Qb x))]) t1.from_)))→(M k6 = some (.cells (Qz (fun (x:Bool)=>[V.d (.bool x)]) t1.left_)))→ACalls P c [.ptr k2 0] M nb (l_ r) M nb
def Qlo:List COp:=[ot 2 .mov [.c (.nils 1)]]
def Qlp:List COp:=[oM 9 0,oo 10 .nilchk [.t 9],oF 11 0 10,oF 12 0 11,oF 13 1 12,oL 14 13,oo 15 (.makes 1 8 [.d (.int .i64 0)]) [.t 14,.t 14],ot 3 .mov [.t 15]]
def Qlq:List COp:=[oM 16 3,oo 17 .len [.t 16],oo 18 .mov [cI 0]]
def Qlr:List COp:=[oo 19 (.bin .lss false) [.t 18,.t 17]]
def Qls:List COp:=[oM 20 18,oM 4 20]
def Qlt:List COp:=[oM 21 3,oM 22 4,oo 23 (.idx 1) [.t 21,.t 22],⟨none,.store 1,[.t 23,cI (-1)],false,none⟩]
def Qlu:List COp:=[oM 24 0,oo 25 .nilchk [.t 24],oF 26 9 25,oL 27 26,oM 28 4,oo 29 (.idx 1) [.t 27,.t 28],oL 30 29,oM 31 30,⟨some 32,.mov,[.t 0],false,some (31,true)⟩,⟨some 33,.nilchk,[.t 32],false,some (31,true)⟩,⟨some 34,.fld 0,[.t 33],false,some (31,true)⟩,⟨some 35,.fld 0,[.t 34],false,some (31,true)⟩,⟨some 36,.fld 2,[.t 35],false,some (31,true)⟩,⟨some 37,.load false 1,[.t 36],false,some (31,true)⟩,⟨some 38,.mov,[.t 4],false,some (31,true)⟩,⟨some 39,.call 50,[.t 37,.t 38],false,some (31,true)⟩,oo 40 .pick [.t 31,.t 39,.c (.d (.bool false))]]
def Qlv:List COp:=[oM 41 3,oM 42 4,oo 43 (.idx 1) [.t 41,.t 42],⟨none,.store 1,[.t 43,cI 0],false,none⟩]
def Qlw:List COp:=[oo 44 (.bin .add false) [.t 18,cI 1],oM 18 44]
def Qlx:List COp:=[oo 5 .mov [cI 1],oo 6 .mov [.c (.d (.bool true))]]
def Qkp:List COp:=[oM 45 6]
def Qkq:List COp:=[oo 6 .mov [.c (.d (.bool false))]]
def Qkr:List COp:=[oM 48 0,oo 49 .nilchk [.t 48],oF 50 0 49,oF 51 0 50,oF 52 3 51,oL 53 52,oo 54 .len [.t 53],oo 55 .mov [cI 0]]
def Qks:List COp:=[oo 56 (.bin .lss false) [.t 55,.t 54]]
def Qkt:List COp:=[oo 57 (.idx 3) [.t 53,.t 55],oo 58 (.load true 3) [.t 57],oo 8 (.alloc [.d (.int .i64 0),.d (.int .i64 0),.d (.int .i64 0)]) [],⟨none,.store 3,[.t 8,.t 58],false,none⟩]
def Qku:List COp:=[oM 59 0,oo 60 .nilchk [.t 59],oF 61 9 60,oL 62 61,oF 63 0 8,oL 64 63,oo 65 (.idx 1) [.t 62,.t 64],oL 66 65,oM 67 66,⟨some 68,.mov,[.t 0],false,some (67,true)⟩,⟨some 69,.nilchk,[.t 68],false,some (67,true)⟩,⟨some 70,.fld 9,[.t 69],false,some (67,true)⟩,⟨some 71,.load false 1,[.t 70],false,some (67,true)⟩,⟨some 72,.fld 2,[.t 8],false,some (67,true)⟩,⟨some 73,.load false 1,[.t 72],false,some (67,true)⟩,⟨some 74,.idx 1,[.t 71,.t 73],false,some (67,true)⟩,⟨some 75,.load false 1,[.t 74],false,some (67,true)⟩,oo 76 .pick [.t 67,.t 75,.c (.d (.bool false))],oM 77 76,⟨some 78,.mov,[.t 3],false,some (77,true)⟩,⟨some 79,.fld 0,[.t 8],false,some (77,true)⟩,⟨some 80,.load false 1,[.t 79],false,some (77,true)⟩,⟨some 81,.idx 1,[.t 78,.t 80],false,some (77,true)⟩,⟨some 82,.load false 1,[.t 81],false,some (77,true)⟩,⟨some 83,.bin .lss false,[.t 82,cI 0],false,some (77,true)⟩,oo 84 .pick [.t 77,.t 83,.c (.d (.bool false))],oM 85 84,⟨some 86,.mov,[.t 3],false,some (85,true)⟩,⟨some 87,.fld 2,[.t 8],false,some (85,true)⟩,⟨some 88,.load false 1,[.t 87],false,some (85,true)⟩,⟨some 89,.idx 1,[.t 86,.t 88],false,some (85,true)⟩,⟨some 90,.load false 1,[.t 89],false,some (85,true)⟩,⟨some 91,.mov,[.t 5],false,some (85,true)⟩,⟨some 92,.bin .sub false,[.t 91,cI 1],false,some (85,true)⟩,⟨some 93,.bin .eql false,[.t 90,.t 92],false,some (85,true)⟩,oo 94 .pick [.t 85,.t 93,.c (.d (.bool false))]]
def Qkv:List COp:=[oM 95 3,oF 96 0 8,oL 97 96,oM 98 5,oo 99 (.idx 1) [.t 95,.t 97],⟨none,.store 1,[.t 99,.t 98],false,none⟩,oo 6 .mov [.c (.d (.bool true))]]
def Qkw:List COp:=[oo 100 (.bin .add false) [.t 55,cI 1],oM 55 100]
def Qkx:List COp:=[oM 46 5,oo 47 (.bin .add false) [.t 46,cI 1],oM 5 47]
def Qky:List COp:=[ot 101 .mov [.t 3],ot 2 .mov [.t 101]]
def Qej:CFn:=⟨1,102,[.t 2],.seq (.region Qlo 9 []) (.seq (.region Qlp 9 []) (.seq (.seq (.region Qlq 9 []) (.block 0 (.loop [] (.seq (.region Qlr 9 []) (.seq (.cond (.t 19) (.skip) (.exit 0)) (.seq (.block 1 (.seq (.region Qls 9 []) (.seq (.region Qlt 9 []) (.seq (.region Qlu 9 []) (.cond (.t 40) (.region Qlv 9 []) (.skip)))))) (.region Qlw 9 []))))))) (.seq (.seq (.region Qlx 9 []) (.block 2 (.loop [8] (.seq (.seq (.region Qkp 9 []) (.cond (.t 45) (.skip) (.exit 2))) (.seq (.block 3 (.seq (.region Qkq 9 []) (.seq (.region Qkr 9 []) (.block 4 (.loop [8] (.seq (.region Qks 9 []) (.seq (.cond (.t 56) (.skip) (.exit 4)) (.seq (.block 5 (.seq (.region Qkt 9 []) (.seq (.region Qku 0 []) (.cond (.t 94) (.region Qkv 9 []) (.skip))))) (.region Qkw 9 []))))))))) (.region Qkx 9 [])))))) (.seq (.region Qky 9 []) (.ret)))))⟩
def Qq (Qh:(List Int)→Int→Option Bool) (fuel:Nat) (t1:Qd):Option ((List Int)) :=
  ((mkO t1.zN.zA.zM 0).bind fun x8=>((Qdz (fun k12 ((x10,c11):Int×(List Int))=>(if (x10 < ((Int.toNat t1.zN.zA.zM):Int)) then ((((inO (Int.toNat t1.zN.zA.zM) x10).bind fun u14=>((setO c11 x10 (-1)).bind fun x16=>((((inO t1.left_.length x10).bind fun u18=>((getO t1.left_ x10).bind fun x20=>(if x20 then ((Qh t1.zN.zA.zK x10).bind fun x24=>some x24) else some false)))).bind fun (x25:Bool)=>(if x25 then ((inO (Int.toNat t1.zN.zA.zM) x10).bind fun u27=>((setO x16 x10 0).bind fun x29=>some x29)) else some x16))))).bind fun (c31:List Int)=>k12 ((IntKind.wrap .i64 (x10 + 1)),c31)) else some c11)) fuel (0,x8)).bind fun (c32:List Int)=>((Qdz (fun k36 ((round33,more34,c35):Int×Bool×(List Int))=>(if more34 then ((Qdz (fun k41 ((more38,x39,c40):Bool×Int×(List Int))=>(if (x39 < (t1.zN.zA.zL.length:Int)) then ((((getO t1.zN.zA.zL x39).bind fun x43=>((((inO t1.left_.length x43.From).bind fun u45=>((getO t1.left_ x43.From).bind fun x47=>(if x47 then ((inO t1.left_.length x43.To).bind fun u50=>((getO t1.left_ x43.To).bind fun x52=>(if x52 then ((inO (Int.toNat t1.zN.zA.zM) x43.From).bind fun u55=>((getO c40 x43.From).bind fun x57=>(if (x57 < 0) then ((inO (Int.toNat t1.zN.zA.zM) x43.To).bind fun u60=>((getO c40 x43.To).bind fun x62=>some (x62 == (IntKind.wrap .i64 (round33 - 1))))) else some false))) else some false))) else some false)))).bind fun (x64:Bool)=>(if x64 then ((inO (Int.toNat t1.zN.zA.zM) x43.From).bind fun u66=>((setO c40 x43.From round33).bind fun x68=>some (true,x68,x43.From,x43.Event,x43.To))) else some (more38,c40,x43.From,x43.Event,x43.To))))).bind fun ((more70,c71,c72,c73,c74):Bool×(List Int)×Int×Int×Int)=>k41 (more70,(IntKind.wrap .i64 (x39 + 1)),c71)) else some (more38,c40))) fuel (false,0,c35)).bind fun ((more75,c76):Bool×(List Int))=>k36 ((IntKind.wrap .i64 (round33 + 1)),more75,c76)) else some c35)) fuel (1,true,c32)).bind fun (c77:List Int)=>((lenO c77 (Int.toNat t1.zN.zA.zM)).bind fun _=>some c77))))
def Qfr (P:Program) (c:Nat) (f:Qd→Int→Option ((List Qc))):Prop:=∀ t1 rank8 (k2:Nat) (k4:Nat) (k6:Nat) r,f t1 rank8 = some r→∀ M nb,(M k2 = some (.cells [(l_ t1.zN.zA.zJ),(i_ t1.zN.zA.zM),(l_ t1.zN.zA.zK),.d (.lst 3 (List.map Qb t1.zN.zA.zL)),(l_ t1.zN.zC),(l_ t1.zN.zB),(l_ t1.zN.zD),(i_ t1.zN.Tick),.sl 1 k4 0 t1.from_.length t1.from_.length,.sl 1 k6 0 t1.left_.length t1.left_.length]))→(M k4 = some (.cells (Qz (fun (x:List Qe)=>[V.d (.lst 3 (List.map Qb x))]) t1.from_)))→(M k6 = some (.cells (Qz (fun (x:Bool)=>[V.d (.bool x)]) t1.left_)))→ACalls P c [.ptr k2 0,(i_ rank8)] M nb (.own 4 (List.map Qg r)) M nb
def Qpq:List COp:=[ot 4 .mov [.c (.nils 4)]]
def Qpr:List COp:=[ot 5 .mov [.c (.nils 4)]]
def Qps:List COp:=[oM 12 0,oo 13 .nilchk [.t 12],oF 14 9 13,oL 15 14,oo 16 .len [.t 15],oo 17 .mov [cI 0]]
def Qpt:List COp:=[oo 18 (.bin .lss false) [.t 17,.t 16]]
def Qpu:List COp:=[oM 19 17,oo 20 (.idx 1) [.t 15,.t 17],oL 21 20,oM 6 19,oM 7 21]
def Qpv:List COp:=[oM 23 0,oM 24 6,oo 25 (.call 53) [.t 23,.t 24],oM 22 25,oo 26 (.extract 0) [.t 22],oo 27 (.extract 1) [.t 22],oM 8 26,oM 9 27]
def Qpw:List COp:=[oM 28 7,oM 29 28,⟨some 30,.mov,[.t 8],false,some (29,true)⟩,⟨some 31,.bin .neq false,[.t 30,cI 0],false,some (29,true)⟩,oo 32 .pick [.t 29,.t 31,.c (.d (.bool false))]]
def Qpx:List COp:=[ot 33 .mov [.t 5],oM 34 6,oM 35 1,oM 36 8,oM 37 9,oo 38 (.build [.d (.int .i64 0),.d (.int .i64 0),.d (.int .i64 0),.d (.int .i64 0)] [(0,1),(1,1),(2,1),(3,1)]) [.t 34,.t 35,.t 36,.t 37],oo 39 (.bslice 4 1 [.d (.int .i64 0),.d (.int .i64 0),.d (.int .i64 0),.d (.int .i64 0)] [0]) [.t 38],ot 40 (.append 4 32) [.t 33,.t 39],ot 5 .mov [.t 40]]
def Qpy:List COp:=[oo 41 (.bin .add false) [.t 17,cI 1],oM 17 41]
def Qpz:List COp:=[oM 42 5,oo 43 .len [.t 42],oo 44 (.bin .gtr false) [.t 43,cI 0]]
def Qn7:List COp:=[ot 45 .mov [.t 5],ot 4 .mov [.t 45]]
def Qn8:List COp:=[oM 46 0,oo 47 (.call 39) [.t 46],oo 48 .len [.t 47],oo 49 .mov [cI 0]]
def Qn9:List COp:=[oo 50 (.bin .lss false) [.t 49,.t 48]]
def Qoa:List COp:=[oM 51 49,oo 52 (.idx 1) [.t 47,.t 49],oL 53 52,oM 10 51,oM 11 53]
def Qob:List COp:=[oM 54 0,oo 55 .nilchk [.t 54],oF 56 9 55,oL 57 56,oM 58 10,oo 59 (.idx 1) [.t 57,.t 58],oL 60 59,oM 61 60,⟨some 62,.mov,[.t 11],false,some (61,true)⟩,⟨some 63,.bin .lss false,[.t 62,cI 0],false,some (61,true)⟩,oo 64 .pick [.t 61,.t 63,.c (.d (.bool false))]]
def Qoc:List COp:=[ot 65 .mov [.t 5],oM 66 10,oM 67 1,oo 68 (.build [.d (.int .i64 0),.d (.int .i64 0),.d (.int .i64 0),.d (.int .i64 0)] [(0,1),(1,1),(2,1),(3,1)]) [.t 66,.t 67,cI 3,cI (-1)],oo 69 (.bslice 4 1 [.d (.int .i64 0),.d (.int .i64 0),.d (.int .i64 0),.d (.int .i64 0)] [0]) [.t 68],ot 70 (.append 4 32) [.t 65,.t 69],ot 5 .mov [.t 70]]
def Qod:List COp:=[oo 71 (.bin .add false) [.t 49,cI 1],oM 49 71]
def Qoe:List COp:=[ot 72 .mov [.t 5],ot 4 .mov [.t 72]]
def Qfs:CFn:=⟨2,73,[.t 4],.seq (.region Qpq 9 []) (.seq (.region Qpr 9 []) (.seq (.seq (.region Qps 9 []) (.block 0 (.loop [39] (.seq (.region Qpt 9 []) (.seq (.cond (.t 18) (.skip) (.exit 0)) (.seq (.block 1 (.seq (.region Qpu 9 []) (.seq (.region Qpv 9 []) (.seq (.region Qpw 9 []) (.cond (.t 32) (.region Qpx 9 []) (.skip)))))) (.region Qpy 9 []))))))) (.seq (.seq (.region Qpz 9 []) (.cond (.t 44) (.seq (.region Qn7 9 []) (.ret)) (.skip))) (.seq (.seq (.region Qn8 9 []) (.block 2 (.loop [69] (.seq (.region Qn9 9 []) (.seq (.cond (.t 50) (.skip) (.exit 2)) (.seq (.block 3 (.seq (.region Qoa 9 []) (.seq (.region Qob 9 []) (.cond (.t 64) (.region Qoc 9 []) (.skip))))) (.region Qod 9 []))))))) (.seq (.region Qoe 9 []) (.ret))))))⟩
def Qbr (Qq:Qd→Option ((List Int))) (Qs:Qd→Int→Option (Int×Int)) (fuel:Nat) (t1:Qd) (rank8:Int):Option ((List Qc)) :=
  ((Qdz (fun k11 ((out9,x10):(List Qc)×Int)=>(if (x10 < (t1.left_.length:Int)) then ((((inO t1.left_.length x10).bind fun u13=>((getO t1.left_ x10).bind fun x15=>((Qs t1 x10).bind fun (r18,r19)=>(((if x15 then some (r18 != 0) else some false)).bind fun (x21:Bool)=>(if x21 then ((appO out9 [(Qc.mk x10 rank8 r18 r19)]).bind fun x23=>some x23) else some out9)))))).bind fun (out25:List Qc)=>k11 (out25,(IntKind.wrap .i64 (x10 + 1)))) else some out9)) fuel ([],0)).bind fun (out26:List Qc)=>(if ((out26.length:Int) > 0) then some out26 else ((((Qq t1).bind fun x29=>Qdz (fun k32 ((out30,x31):(List Qc)×Int)=>(if (x31 < (x29.length:Int)) then ((((getO x29 x31).bind fun x34=>((((inO t1.left_.length x31).bind fun u36=>((getO t1.left_ x31).bind fun x38=>(if x38 then some (decide (x34 < 0)) else some false)))).bind fun (x41:Bool)=>(if x41 then ((appO out30 [(Qc.mk x31 rank8 3 (-1))]).bind fun x43=>some x43) else some out30)))).bind fun (out45:List Qc)=>k32 (out45,(IntKind.wrap .i64 (x31 + 1)))) else some out30)) fuel (out26,0))).bind fun (out46:List Qc)=>some out46)))
def Qe3 (P:Program) (c:Nat) (f:Qe→Qa→Qd→Option Bool):Prop:=∀ x1 x2 x5 (k3:Nat) (k6:Nat) (k8:Nat) (k10:Nat) (k12:Nat) r,f x1 x2 x5 = some r→∀ M nb,(M k3 = some (.cells [(l_ x2.zA.zJ),(i_ x2.zA.zM),(l_ x2.zA.zK),.d (.lst 3 (List.map Qb x2.zA.zL)),(l_ x2.zC),(l_ x2.zB),(l_ x2.zD),(i_ x2.Tick)]))→(M k6 = some (.cells [.ptr k8 0]))→(M k8 = some (.cells [(l_ x5.zN.zA.zJ),(i_ x5.zN.zA.zM),(l_ x5.zN.zA.zK),.d (.lst 3 (List.map Qb x5.zN.zA.zL)),(l_ x5.zN.zC),(l_ x5.zN.zB),(l_ x5.zN.zD),(i_ x5.zN.Tick),.sl 1 k10 0 x5.from_.length x5.from_.length,.sl 1 k12 0 x5.left_.length x5.left_.length]))→(M k10 = some (.cells (Qz (fun (x:List Qe)=>[V.d (.lst 3 (List.map Qb x))]) x5.from_)))→(M k12 = some (.cells (Qz (fun (x:Bool)=>[V.d (.bool x)]) x5.left_)))→ACalls P c [(Qbv x1),.ptr k3 0,.ptr k6 0] M nb (b_ r) M nb
def Qm7:List COp:=[oo 3 (.box 3) [.t 0],oo 4 .mov [.c (.d (.bool false))]]
def Qm8:List COp:=[oF 5 1 3,oL 6 5,oF 7 7 1,oL 8 7,oo 9 (.bin .eql false) [.t 6,.t 8],oM 10 9,⟨some 11,.load false 1,[.t 2],false,some (10,true)⟩,⟨some 12,.nilchk,[.t 11],false,some (10,true)⟩,⟨some 13,.fld 9,[.t 12],false,some (10,true)⟩,⟨some 14,.load false 1,[.t 13],false,some (10,true)⟩,⟨some 15,.fld 2,[.t 3],false,some (10,true)⟩,⟨some 16,.load false 1,[.t 15],false,some (10,true)⟩,⟨some 17,.idx 1,[.t 14,.t 16],false,some (10,true)⟩,⟨some 18,.load false 1,[.t 17],false,some (10,true)⟩,⟨some 19,.un .not,[.t 18],false,some (10,true)⟩,oo 20 .pick [.t 10,.t 19,.c (.d (.bool false))],oM 4 20]
def Qe4:CFn:=⟨3,21,[.t 4],.seq (.region Qm7 9 []) (.seq (.region Qm8 0 []) (.ret))⟩
def Qbm (x1:Qe) (x2:Qa) (x5:Qd):Option Bool :=
  (if (x1.Event == x2.Tick) then ((inO x5.left_.length x1.To).bind fun u15=>((getO x5.left_ x1.To).bind fun x17=>some (!x17))) else some false)
def Qly (P:Program) (c:Nat) (f:(List Int)→Option ((List Int))):Prop:=∀ s1 r,f s1 = some r→∀ M nb,ACalls P c [(l_ s1)] M nb (o_ r) M nb
def Q3a:List COp:=[ot 2 .mov [.c (.nils 1)]]
def Q3b:List COp:=[oM 3 0,oo 4 (.isnil false) [.t 3]]
def Q3c:List COp:=[ot 2 .mov [.c (.nils 1)]]
def Q3d:List COp:=[oo 5 (.bslice 1 0 [.d (.int .i64 0)] []) [],oM 6 0,ot 7 (.append 1 8) [.t 5,.t 6],ot 2 .mov [.t 7]]
def Qlz:CFn:=⟨1,8,[.t 2],.seq (.region Q3a 9 []) (.seq (.seq (.region Q3b 9 []) (.cond (.t 4) (.seq (.region Q3c 9 []) (.ret)) (.skip))) (.seq (.region Q3d 9 []) (.ret)))⟩
def Qdc (s1:(List Int)):Option ((List Int)) :=
  (nilO s1 fun b2=>(if b2 then some [] else ((appO [] s1).bind fun x4=>some x4)))
def Qd8 (P:Program) (c:Nat) (f:Qd→Option (Qm×(List Int))):Prop:=∀ t1 (k2:Nat) (k4:Nat) (k6:Nat) r,f t1 = some r→∀ M nb,(M k2 = some (.cells [(l_ t1.zN.zA.zJ),(i_ t1.zN.zA.zM),(l_ t1.zN.zA.zK),.d (.lst 3 (List.map Qb t1.zN.zA.zL)),(l_ t1.zN.zC),(l_ t1.zN.zB),(l_ t1.zN.zD),(i_ t1.zN.Tick),.sl 1 k4 0 t1.from_.length t1.from_.length,.sl 1 k6 0 t1.left_.length t1.left_.length]))→(M k4 = some (.cells (Qz (fun (x:List Qe)=>[V.d (.lst 3 (List.map Qb x))]) t1.from_)))→(M k6 = some (.cells (Qz (fun (x:Bool)=>[V.d (.bool x)]) t1.left_)))→ACalls P c [.ptr k2 0] M nb (.tup [(Qo r.1),(o_ r.2)]) M nb
def Qkz:List COp:=[oo 2 (.alloc [.nils 1,.d (.int .i64 0),.nils 1,.nils 3]) [],ot 3 .mov [.c (.nils 1)]]
def Qk0:List COp:=[oM 12 0,oo 13 .nilchk [.t 12],oF 14 0 13,oF 15 0 14,oF 16 0 15,oL 17 16,oo 18 (.call 72) [.t 17],ot 19 (.build [.nils 1,.d (.int .i64 0),.nils 1,.nils 3] [(0,1)]) [.t 18],oo 4 (.alloc [.nils 1,.d (.int .i64 0),.nils 1,.nils 3]) [],⟨none,.store 4,[.t 4,.t 19],true,none⟩]
def Qk1:List COp:=[ot 5 .mov [.c (.nils 1)]]
def Qk2:List COp:=[oo 20 .mkmap [],oM 6 20]
def Qk3:List COp:=[oM 21 0,oo 22 .nilchk [.t 21],oF 23 9 22,oL 24 23,oo 25 .len [.t 24],oo 26 (.bin .gtr false) [.t 25,cI 0],oM 27 26,⟨some 28,.mov,[.t 0],false,some (27,true)⟩,⟨some 29,.nilchk,[.t 28],false,some (27,true)⟩,⟨some 30,.fld 9,[.t 29],false,some (27,true)⟩,⟨some 31,.load false 1,[.t 30],false,some (27,true)⟩,⟨some 32,.idx 1,[.t 31,cI 0],false,some (27,true)⟩,⟨some 33,.load false 1,[.t 32],false,some (27,true)⟩,oo 34 .pick [.t 27,.t 33,.c (.d (.bool false))]]
def Qk4:List COp:=[ot 35 .mov [.t 5],oo 36 (.bslice 1 1 [.d (.int .i64 0)] [0]) [cI 0],ot 37 (.append 1 8) [.t 35,.t 36],ot 5 .mov [.t 37]]
def Qk5:List COp:=[oM 38 6,⟨none,.mapset (.int .i64),[.t 38,cI 0,cI 0],false,none⟩]
def Qk6:List COp:=[oo 7 .mov [cI 0]]
def Qk7:List COp:=[oM 39 7,oM 40 5,oo 41 .len [.t 40],oo 42 (.bin .lss false) [.t 39,.t 41]]
def Qk8:List COp:=[oM 45 0,oo 46 .nilchk [.t 45],oF 47 0 46,oF 48 0 47,oF 49 2 48,oL 50 49,oM 51 5,oM 52 7,oo 53 (.idx 1) [.t 51,.t 52],oL 54 53,oo 55 (.call 50) [.t 50,.t 54]]
def Qjw:List COp:=[oF 56 2 4,oo 57 .loadT [.t 56],oM 58 7,oo 59 (.bslice 1 1 [.d (.int .i64 0)] [0]) [.t 58],ot 60 (.append 1 8) [.t 57,.t 59],oF 61 2 4,⟨none,.store 1,[.t 61,.t 60],true,none⟩]
def Qjx:List COp:=[oM 62 0,oo 63 .nilchk [.t 62],oF 64 8 63,oL 65 64,oM 66 5,oM 67 7,oo 68 (.idx 1) [.t 66,.t 67],oL 69 68,oo 70 (.idx 1) [.t 65,.t 69],oL 71 70,oo 72 .len [.t 71],oo 73 .mov [cI 0]]
def Qjy:List COp:=[oo 74 (.bin .lss false) [.t 73,.t 72]]
def Qjz:List COp:=[oo 75 (.idx 3) [.t 71,.t 73],oo 76 (.load true 3) [.t 75],oo 9 (.alloc [.d (.int .i64 0),.d (.int .i64 0),.d (.int .i64 0)]) [],⟨none,.store 3,[.t 9,.t 76],false,none⟩]
def Qj0:List COp:=[oM 77 0,oo 78 .nilchk [.t 77],oF 79 9 78,oL 80 79,oF 81 2 9,oL 82 81,oo 83 (.idx 1) [.t 80,.t 82],oL 84 83,oo 85 (.un .not) [.t 84]]
def Qj1:List COp:=[oM 87 6,oF 88 2 9,oL 89 88,oo 90 (.lookup (.int .i64) true (.d (.int .i64 0))) [.t 87,.t 89],oM 86 90,oo 91 (.extract 0) [.t 86],oo 92 (.extract 1) [.t 86],oM 10 91,oM 11 92]
def Qj2:List COp:=[oM 93 11,oo 94 (.un .not) [.t 93]]
def Qj3:List COp:=[oM 95 6,oF 96 2 9,oL 97 96,oM 98 5,oo 99 .len [.t 98],⟨none,.mapset (.int .i64),[.t 95,.t 97,.t 99],false,none⟩]
def Qj4:List COp:=[ot 100 .mov [.t 5],oF 101 2 9,oL 102 101,oo 103 (.bslice 1 1 [.d (.int .i64 0)] [0]) [.t 102],ot 104 (.append 1 8) [.t 100,.t 103],ot 5 .mov [.t 104]]
def Qj5:List COp:=[oF 105 3 4,oo 106 .loadT [.t 105],oM 107 7,oF 108 1 9,oL 109 108,oM 110 6,oF 111 2 9,oL 112 111,oo 113 (.lookup (.int .i64) false (.d (.int .i64 0))) [.t 110,.t 112],oo 114 (.build [.d (.int .i64 0),.d (.int .i64 0),.d (.int .i64 0)] [(0,1),(1,1),(2,1)]) [.t 107,.t 109,.t 113],oo 115 (.bslice 3 1 [.d (.int .i64 0),.d (.int .i64 0),.d (.int .i64 0)] [0]) [.t 114],ot 116 (.append 3 24) [.t 106,.t 115],oF 117 3 4,⟨none,.store 1,[.t 117,.t 116],true,none⟩]
def Qj6:List COp:=[oo 118 (.bin .add false) [.t 73,cI 1],oM 73 118]
def Qj7:List COp:=[oM 43 7,oo 44 (.bin .add false) [.t 43,cI 1],oM 7 44]
def Qj8:List COp:=[oM 119 5,oo 120 .len [.t 119],oF 121 1 4,⟨none,.store 1,[.t 121,.t 120],false,none⟩]
def Qj9:List COp:=[oo 122 (.load true 4) [.t 4],ot 123 .mov [.t 5],⟨none,.store 4,[.t 2,.t 122],true,none⟩,ot 3 .mov [.t 123]]
def Qd9:CFn:=⟨1,124,[.cell 2 true 4,.t 3],.seq (.region Qkz 9 []) (.seq (.region Qk0 9 []) (.seq (.region Qk1 9 []) (.seq (.region Qk2 9 []) (.seq (.seq (.region Qk3 9 []) (.cond (.t 34) (.seq (.region Qk4 9 []) (.region Qk5 9 [])) (.skip))) (.seq (.seq (.region Qk6 9 []) (.block 0 (.loop [59,9,103,115] (.seq (.seq (.region Qk7 9 []) (.cond (.t 42) (.skip) (.exit 0))) (.seq (.block 1 (.seq (.seq (.region Qk8 0 []) (.cond (.t 55) (.region Qjw 9 []) (.skip))) (.seq (.region Qjx 0 []) (.block 2 (.loop [9,103,115] (.seq (.region Qjy 9 []) (.seq (.cond (.t 74) (.skip) (.exit 2)) (.seq (.block 3 (.seq (.region Qjz 9 []) (.seq (.seq (.region Qj0 0 []) (.cond (.t 85) (.exit 3) (.skip))) (.seq (.seq (.region Qj1 9 []) (.seq (.region Qj2 9 []) (.cond (.t 94) (.seq (.region Qj3 9 []) (.region Qj4 9 [])) (.skip)))) (.region Qj5 9 []))))) (.region Qj6 9 []))))))))) (.region Qj7 9 [])))))) (.seq (.region Qj8 9 []) (.seq (.region Qj9 9 []) (.ret))))))))⟩
def Q9 (Qh:(List Int)→Int→Option Bool) (Qdc:(List Int)→Option ((List Int))) (fuel:Nat) (t1:Qd):Option (Qm×(List Int)) :=
  ((Qdc t1.zN.zA.zJ).bind fun x9=>(((((if ((t1.left_.length:Int) > 0) then ((inO t1.left_.length 0).bind fun u11=>((getO t1.left_ 0).bind fun x13=>some x13)) else some false)).bind fun (x15:Bool)=>(if x15 then ((appO [] [0]).bind fun x17=>some (x17,(setM ([]:List (Int×Int)) 0 0))) else some ([],[])))).bind fun ((origins19,c20):(List Int)×(List (Int×Int)))=>((Qdz (fun k29 ((origins21,i22,c23,c24,c25,a26,a27,c28):(List Int)×Int×(List Int)×(List Int)×(List Qe)×(List Int)×(List Qe)×(List (Int×Int)))=>(if (i22 < (origins21.length:Int)) then ((((((getO origins21 i22).bind fun x31=>((Qh t1.zN.zA.zK x31).bind fun x34=>(if x34 then ((appO a26 [i22]).bind fun x36=>some x36) else some a26)))).bind fun (a38:List Int)=>((getO origins21 i22).bind fun x39=>((inO t1.from_.length x39).bind fun u41=>((getO t1.from_ x39).bind fun x43=>Qdz (fun k49 ((origins45,x46,a47,c48):(List Int)×Int×(List Qe)×(List (Int×Int)))=>(if (x46 < (x43.length:Int)) then ((((getO x43 x46).bind fun x51=>((inO t1.left_.length x51.To).bind fun u53=>((getO t1.left_ x51.To).bind fun x55=>(if x55 then (((if (hasM c48 x51.To) then some (origins45,c48) else ((appO origins45 [x51.To]).bind fun x59=>some (x59,(setM c48 x51.To (origins45.length:Int)))))).bind fun ((origins61,c62):(List Int)×(List (Int×Int)))=>((appO a47 [(Qe.mk i22 x51.Event (getM c62 x51.To 0))]).bind fun x63=>some (origins61,x63,c62,x51.From,x51.Event,x51.To))) else some (origins45,a47,c48,x51.From,x51.Event,x51.To)))))).bind fun ((origins65,a66,c67,c68,c69,c70):(List Int)×(List Qe)×(List (Int×Int))×Int×Int×Int)=>k49 (origins65,(IntKind.wrap .i64 (x46 + 1)),a66,c67)) else some (origins45,a38,a47,c48))) fuel (origins21,0,a27,c28)))))).bind fun ((origins71,a72,a73,c74):(List Int)×(List Int)×(List Qe)×(List (Int×Int)))=>k29 (origins71,(IntKind.wrap .i64 (i22 + 1)),c23,c24,c25,a72,a73,c74)) else some (origins21,c23,c24,c25,a26,a27,c28))) fuel (origins19,0,[],[],[],[],[],c20)).bind fun ((origins75,c76,c77,c78,a79,a80,c81):(List Int)×(List Int)×(List Int)×(List Qe)×(List Int)×(List Qe)×(List (Int×Int)))=>some ((Qm.mk x9 (origins75.length:Int) a79 a80),origins75))))
def Qd5 (P:Program) (c:Nat) (f:Qa→Option (Qbu×Int)):Prop:=∀ p1 r,f p1 = some r→∀ M nb,ACalls P c [.agg [(l_ p1.zA.zJ),(i_ p1.zA.zM),(l_ p1.zA.zK),.d (.lst 3 (List.map Qb p1.zA.zL)),(l_ p1.zC),(l_ p1.zB),(l_ p1.zD),(i_ p1.Tick)]] M nb (.tup [.agg [(l_ r.1.zE.Kept),(l_ r.1.zE.zF),.d (.lst 4 (List.map Qg r.1.zE.zG)),(i_ r.1.Rounds),(l_ r.1.zH.zJ),(i_ r.1.zH.zM),(l_ r.1.zH.zK),.d (.lst 3 (List.map Qb r.1.zH.zL)),(l_ r.1.zO),(l_ r.1.zI)],(i_ r.2)]) M nb
def Qp0:List COp:=[oo 1 (.box 8) [.t 0],oo 2 (.alloc [.nils 1,.nils 1,.nils 4,.d (.int .i64 0),.nils 1,.d (.int .i64 0),.nils 1,.nils 3,.nils 1,.nils 1]) [],oo 3 .mov [cI 0]]
def Qp1:List COp:=[oo 17 (.load true 8) [.t 1],oo 18 (.call 30) [.t 17],oM 4 18]
def Qp2:List COp:=[oM 19 4,oo 20 (.bin .neq false) [.t 19,cI 0]]
def Qp3:List COp:=[oo 21 (.build [.nils 1,.nils 1,.nils 4,.d (.int .i64 0),.nils 1,.d (.int .i64 0),.nils 1,.nils 3,.nils 1,.nils 1] []) [],oM 22 4,⟨none,.store 10,[.t 2,.t 21],true,none⟩,oM 3 22]
def Qp4:List COp:=[oo 23 (.load true 8) [.t 1],oo 24 (.call 37) [.t 23],oo 5 (.alloc [.nilp]) [],⟨none,.store 1,[.t 5,.t 24],false,none⟩]
def Qp5:List COp:=[oo 6 (.alloc [.nils 1,.nils 1,.nils 4,.d (.int .i64 0),.nils 1,.d (.int .i64 0),.nils 1,.nils 3,.nils 1,.nils 1]) []]
def Qp6:List COp:=[oL 25 5,oo 26 .nilchk [.t 25],oF 27 9 26,oL 28 27,oo 29 .len [.t 28],oo 30 (.makes 4 32 [.d (.int .i64 0),.d (.int .i64 0),.d (.int .i64 0),.d (.int .i64 0)]) [.t 29,.t 29],ot 7 .mov [.t 30]]
def Qp7:List COp:=[oF 31 4 1,oL 32 31,oo 33 .len [.t 32],oo 34 .mov [cI 0]]
def Qp8:List COp:=[oo 35 (.bin .lss false) [.t 34,.t 33]]
def Qp9:List COp:=[oo 36 (.idx 1) [.t 32,.t 34],oL 37 36,oM 9 37]
def Qof:List COp:=[oM 38 7,oM 39 9,oM 40 9,oo 41 (.build [.d (.int .i64 0),.d (.int .i64 0),.d (.int .i64 0),.d (.int .i64 0)] [(0,1),(1,1),(2,1),(3,1)]) [.t 40,cI 1,cI 1,cI (-1)],oo 42 (.idx 4) [.t 38,.t 39],⟨none,.store 4,[.t 42,.t 41],false,none⟩,oF 43 3 6,⟨none,.store 1,[.t 43,cI 1],false,none⟩]
def Qog:List COp:=[oo 44 (.bin .add false) [.t 34,cI 1],oM 34 44]
def Qoh:List COp:=[oo 10 .mov [cI 2]]
def Qoi:List COp:=[oL 47 5,oM 48 10,oo 49 (.call 38) [.t 47,.t 48],ot 11 .mov [.t 49]]
def Qoj:List COp:=[oM 50 11,oo 51 .len [.t 50],oo 52 (.bin .eql false) [.t 51,cI 0]]
def Qok:List COp:=[oM 53 11,oo 54 .len [.t 53],oo 55 .mov [cI 0]]
def Qol:List COp:=[oo 56 (.bin .lss false) [.t 55,.t 54]]
def Qom:List COp:=[oo 57 (.idx 4) [.t 53,.t 55],oo 58 (.load true 4) [.t 57],oo 13 (.alloc [.d (.int .i64 0),.d (.int .i64 0),.d (.int .i64 0),.d (.int .i64 0)]) [],⟨none,.store 4,[.t 13,.t 58],false,none⟩]
def Qon:List COp:=[oL 59 5,oo 60 .nilchk [.t 59],oF 61 9 60,oL 62 61,oF 63 0 13,oL 64 63,oM 65 7,oF 66 0 13,oL 67 66,oo 68 (.load true 4) [.t 13],oo 69 (.idx 1) [.t 62,.t 64],⟨none,.store 1,[.t 69,.c (.d (.bool false))],false,none⟩,oo 70 (.idx 4) [.t 65,.t 67],⟨none,.store 4,[.t 70,.t 68],false,none⟩]
def Qoo:List COp:=[oo 71 (.bin .add false) [.t 55,cI 1],oM 55 71]
def Qop:List COp:=[oM 72 10,oF 73 3 6,⟨none,.store 1,[.t 73,.t 72],false,none⟩]
def Qoq:List COp:=[oM 45 10,oo 46 (.bin .add false) [.t 45,cI 1],oM 10 46]
def Qor:List COp:=[oF 74 0 6,oM 14 74]
def Qos:List COp:=[oL 75 5,oo 76 (.call 39) [.t 75],oo 77 .len [.t 76],oo 78 .mov [cI 0]]
def Qot:List COp:=[oo 79 (.bin .lss false) [.t 78,.t 77]]
def Qou:List COp:=[oM 80 78,oo 81 (.idx 1) [.t 76,.t 78],oL 82 81,oM 15 80,oM 16 82]
def Qov:List COp:=[oL 83 5,oo 84 .nilchk [.t 83],oF 85 9 84,oL 86 85,oM 87 15,oo 88 (.idx 1) [.t 86,.t 87],oL 89 88,oo 90 (.un .not) [.t 89]]
def Qow:List COp:=[oM 91 14,oM 92 14,oo 93 .nilchk [.t 92],oF 94 2 93,oo 95 .loadT [.t 94],oM 96 7,oM 97 15,oo 98 (.idx 4) [.t 96,.t 97],oo 99 (.load true 4) [.t 98],oo 100 (.bslice 4 1 [.d (.int .i64 0),.d (.int .i64 0),.d (.int .i64 0),.d (.int .i64 0)] [0]) [.t 99],ot 101 (.append 4 32) [.t 95,.t 100],oo 102 .nilchk [.t 91],oF 103 2 102,⟨none,.store 1,[.t 103,.t 101],true,none⟩]
def Qox:List COp:=[oM 104 14,oM 105 14,oM 106 14,oo 107 .nilchk [.t 106],oF 108 0 107,oo 109 .loadT [.t 108],oM 110 15,oo 111 (.bslice 1 1 [.d (.int .i64 0)] [0]) [.t 110],ot 112 (.append 1 8) [.t 109,.t 111],oM 113 14,oo 114 .nilchk [.t 113],oF 115 1 114,oo 116 .loadT [.t 115],oM 117 16,oo 118 (.bslice 1 1 [.d (.int .i64 0)] [0]) [.t 117],ot 119 (.append 1 8) [.t 116,.t 118],oo 120 .nilchk [.t 104],oF 121 0 120,⟨none,.store 1,[.t 121,.t 112],true,none⟩,oo 122 .nilchk [.t 105],oF 123 1 122,⟨none,.store 1,[.t 123,.t 119],true,none⟩]
def Qoy:List COp:=[oL 124 5,oo 125 .nilchk [.t 124],oF 126 8 125,oL 127 126,oM 128 15,oo 129 (.idx 1) [.t 127,.t 128],oL 130 129,oo 131 (.func 41) [.t 1,.t 5],oo 132 (.call 40) [.t 130,.t 131]]
def Qoz:List COp:=[oF 133 9 6,oo 134 .loadT [.t 133],oM 135 15,oo 136 (.bslice 1 1 [.d (.int .i64 0)] [0]) [.t 135],ot 137 (.append 1 8) [.t 134,.t 136],oF 138 9 6,⟨none,.store 1,[.t 138,.t 137],true,none⟩]
def Qo0:List COp:=[oo 139 (.bin .add false) [.t 78,cI 1],oM 78 139]
def Qo1:List COp:=[oL 141 5,oo 142 (.call 42) [.t 141],oM 140 142,oo 143 (.extract 0) [.t 140],ot 144 (.extract 1) [.t 140],oF 145 4 6,⟨none,.store 4,[.t 145,.t 143],true,none⟩,oF 146 8 6,⟨none,.store 1,[.t 146,.t 144],true,none⟩]
def Qo2:List COp:=[oo 147 (.load true 10) [.t 6],⟨none,.store 10,[.t 2,.t 147],true,none⟩,oo 3 .mov [cI 0]]
def Qft:CFn:=⟨1,148,[.cell 2 true 10,.t 3],.seq (.region Qp0 9 []) (.seq (.seq (.region Qp1 9 []) (.seq (.region Qp2 9 []) (.cond (.t 20) (.seq (.region Qp3 9 []) (.ret)) (.skip)))) (.seq (.region Qp4 9 []) (.seq (.region Qp5 9 []) (.seq (.region Qp6 9 []) (.seq (.seq (.region Qp7 9 []) (.block 0 (.loop [] (.seq (.region Qp8 9 []) (.seq (.cond (.t 35) (.skip) (.exit 0)) (.seq (.block 1 (.seq (.region Qp9 9 []) (.region Qof 9 []))) (.region Qog 9 []))))))) (.seq (.seq (.region Qoh 9 []) (.block 2 (.loop [13] (.seq (.block 3 (.seq (.region Qoi 9 []) (.seq (.seq (.region Qoj 9 []) (.cond (.t 52) (.exit 2) (.skip))) (.seq (.seq (.region Qok 9 []) (.block 4 (.loop [13] (.seq (.region Qol 9 []) (.seq (.cond (.t 56) (.skip) (.exit 4)) (.seq (.block 5 (.seq (.region Qom 9 []) (.region Qon 0 [⟨66,1,69,1⟩,⟨13,4,69,1⟩]))) (.region Qoo 9 []))))))) (.region Qop 9 []))))) (.region Qoq 9 []))))) (.seq (.region Qor 9 []) (.seq (.seq (.region Qos 9 []) (.block 6 (.loop [100,111,118,136] (.seq (.region Qot 9 []) (.seq (.cond (.t 79) (.skip) (.exit 6)) (.seq (.block 7 (.seq (.region Qou 9 []) (.seq (.seq (.region Qov 9 []) (.cond (.t 90) (.seq (.region Qow 0 []) (.exit 7)) (.skip))) (.seq (.region Qox 0 [⟨108,1,115,1⟩]) (.seq (.region Qoy 9 []) (.cond (.t 132) (.region Qoz 9 []) (.skip))))))) (.region Qo0 9 []))))))) (.seq (.region Qo1 9 []) (.seq (.region Qo2 9 []) (.ret)))))))))))⟩
def Q0 (Qw:Qa→Option Int) (Q2:Qa→Option Qd) (Qbr:Qd→Int→Option ((List Qc))) (Qq:Qd→Option ((List Int))) (Ql:(List Qe)→(Qe→Option Bool)→Option Bool) (Qbm:Qe→Qa→Qd→Option Bool) (Q9:Qd→Option (Qm×(List Int))) (fuel:Nat) (p1:Qa):Option (Qbu×Int) :=
  ((Qw p1).bind fun x3=>(if (x3 != 0) then some ((Qbu.mk (Qv.mk [] [] []) 0 (Qm.mk [] 0 [] []) [] []),x3) else ((Q2 p1).bind fun x5=>((mkO (x5.left_.length:Int) (Qc.mk 0 0 0 0)).bind fun x7=>((Qdz (fun k12 ((x9,r10,c11):Int×Int×(List Qc))=>(if (x9 < (p1.zC.length:Int)) then ((getO p1.zC x9).bind fun x14=>((inO (Int.toNat (x5.left_.length:Int)) x14).bind fun u16=>((setO c11 x14 (Qc.mk x14 1 1 (-1))).bind fun x18=>k12 ((IntKind.wrap .i64 (x9 + 1)),1,x18)))) else some (r10,c11))) fuel (0,0,x7)).bind fun ((r20,c21):Int×(List Qc))=>((Qdz (fun k26 ((rank22,r23,c24,c25):Int×Int×(List Qc)×(List Bool))=>((lenO c25 x5.left_.length).bind fun _=>((Qbr (Qd.mk x5.zN x5.from_ c25) rank22).bind fun x29=>(if ((x29.length:Int) == 0) then some (r23,c24,c25) else ((Qdz (fun k34 ((x31,c32,c33):Int×(List Qc)×(List Bool))=>(if (x31 < (x29.length:Int)) then ((getO x29 x31).bind fun x36=>((inO x5.left_.length x36.State).bind fun u38=>((setO c33 x36.State false).bind fun x40=>((inO (Int.toNat (x5.left_.length:Int)) x36.State).bind fun u42=>((setO c32 x36.State x36).bind fun x44=>k34 ((IntKind.wrap .i64 (x31 + 1)),x44,x40)))))) else some (c32,c33))) fuel (0,c24,c25)).bind fun ((c46,c47):(List Qc)×(List Bool))=>k26 ((IntKind.wrap .i64 (rank22 + 1)),rank22,c46,c47)))))) fuel (2,r20,c21,x5.left_)).bind fun ((r48,c49,c50):Int×(List Qc)×(List Bool))=>((((lenO c50 x5.left_.length).bind fun _=>((Qq (Qd.mk x5.zN x5.from_ c50)).bind fun x53=>Qdz (fun k71 ((x54,c55,c56,c57,c58,c59,c60,c61,c62,r63,r64,r65,r66,r67,r68,r69,r70):Int×(List Int)×(List Int)×(List Qc)×(List Int)×(List Int)×(List Qe)×(List Int)×(List Int)×(List Int)×(List Int)×(List Qc)×(List Int)×(List Int)×(List Qe)×(List Int)×(List Int))=>(if (x54 < (x53.length:Int)) then ((((getO x53 x54).bind fun x73=>((inO x5.left_.length x54).bind fun u75=>((getO c50 x54).bind fun x77=>(if x77 then ((appO r63 [x54]).bind fun x86=>((appO r64 [x73]).bind fun x88=>((inO x5.from_.length x54).bind fun u90=>((getO x5.from_ x54).bind fun x92=>((lenO c50 x5.left_.length).bind fun _=>((Ql x92 (fun a94=>Qbm a94 p1 (Qd.mk x5.zN x5.from_ c50))).bind fun x99=>(if x99 then ((appO r70 [x54]).bind fun x101=>some (x86,x88,r65,x101)) else some (x86,x88,r65,r70)))))))) else ((inO (Int.toNat (x5.left_.length:Int)) x54).bind fun u80=>((getO c49 x54).bind fun x82=>((appO r65 [x82]).bind fun x84=>some (r63,r64,x84,r70))))))))).bind fun ((r103,r104,r105,r106):(List Int)×(List Int)×(List Qc)×(List Int))=>k71 ((IntKind.wrap .i64 (x54 + 1)),c55,c56,c57,c58,c59,c60,c61,c62,r103,r104,r105,r66,r67,r68,r69,r106)) else some (c55,c56,c57,c58,c59,c60,c61,c62,r63,r64,r65,r66,r67,r68,r69,r70))) fuel (0,[],[],[],[],[],[],[],[],[],[],[],[],[],[],[],[])))).bind fun ((c107,c108,c109,c110,c111,c112,c113,c114,r115,r116,r117,r118,r119,r120,r121,r122):(List Int)×(List Int)×(List Qc)×(List Int)×(List Int)×(List Qe)×(List Int)×(List Int)×(List Int)×(List Int)×(List Qc)×(List Int)×(List Int)×(List Qe)×(List Int)×(List Int))=>((lenO c50 x5.left_.length).bind fun _=>((Q9 (Qd.mk x5.zN x5.from_ c50)).bind fun (r125,r126)=>some ((Qbu.mk (Qv.mk r115 r116 r117) r48 r125 r126 r122),0))))))))))
def Qfu (P:Program) (c:Nat) (f:Int→Int→Int→Int→Int→Option Int):Prop:=∀ state1 x2 x3 x6 x9 (k4:Nat) (k7:Nat) (k10:Nat) r,f state1 x2 x3 x6 x9 = some r→∀ M nb,(M k4 = some (.cells [(i_ x3)]))→(M k7 = some (.cells [(i_ x6)]))→(M k10 = some (.cells [(i_ x9)]))→ACalls P c [(i_ state1),(i_ x2),.ptr k4 0,.ptr k7 0,.ptr k10 0] M nb (i_ r) M nb
def Qqa:List COp:=[oo 7 .mov [cI 0]]
def Qqb:List COp:=[oM 9 1,oL 10 2,oo 11 (.bin .eql false) [.t 9,.t 10],oM 8 11]
def Qqc:List COp:=[oM 12 0,oM 7 12]
def Qqd:List COp:=[oM 14 1,oL 15 3,oo 16 (.bin .eql false) [.t 14,.t 15],oM 13 16]
def Qqe:List COp:=[oo 7 .mov [cI 0]]
def Qqf:List COp:=[oM 18 0,oL 19 4,oo 20 (.bin .leq false) [.t 18,.t 19],oM 17 20]
def Qqg:List COp:=[oM 21 0,oo 22 (.bin .add false) [.t 21,cI 1],oM 7 22]
def Qqh:List COp:=[oo 7 .mov [cI (-1)]]
def Qfv:CFn:=⟨5,23,[.t 7],.seq (.region Qqa 9 []) (.seq (.block 0 (.seq (.region Qqb 9 []) (.cond (.t 8) (.seq (.region Qqc 9 []) (.ret)) (.seq (.region Qqd 9 []) (.cond (.t 13) (.seq (.region Qqe 9 []) (.ret)) (.seq (.region Qqf 9 []) (.cond (.t 17) (.seq (.region Qqg 9 []) (.ret)) (.skip)))))))) (.seq (.region Qqh 9 []) (.ret)))⟩
def Qb5 (state1:Int) (x2:Int) (x3:Int) (x6:Int) (x9:Int):Option Int :=
  (if (x2 == x3) then some state1 else (if (x2 == x6) then some 0 else (if (state1≤x9) then some (IntKind.wrap .i64 (state1 + 1)) else some (-1))))
def Qhu (P:Program) (c:Nat) (f:Int→Int→Int→Int→Bool→(Int→Int→Option Int)→Option (Qm×Int)):Prop:=∀ xfrom1 to2 ticks3 tick4 marked5 lead6 (g7:Nat) (cp8:List V) r,f xfrom1 to2 ticks3 tick4 marked5 lead6 = some r→∀ M nb,(V.dems cp8 = cp8)→(V.ons (There M) cp8)→(∀ a12 a13 r,lead6 a12 a13 = some r→∀ M2 nb2,nb≤nb2→Ext M M2→ACalls P g7 ([(i_ a12),(i_ a13)] ++ cp8) M2 nb2 (i_ r) M2 nb2)→ACalls P c [(i_ xfrom1),(i_ to2),(i_ ticks3),(i_ tick4),(b_ marked5),.clo g7 cp8] M nb (.tup [(Qo r.1),(i_ r.2)]) M nb
def Qwp:List COp:=[oo 12 (.alloc [.nils 1,.d (.int .i64 0),.nils 1,.nils 3]) [],oo 13 .mov [cI 0]]
def Qwq:List COp:=[oM 20 0,oo 21 (.call 65) [.t 20],oo 22 (.un .not) [.t 21],oM 23 22,⟨some 24,.mov,[.t 1],false,some (23,false)⟩,⟨some 25,.call 65,[.t 24],false,some (23,false)⟩,⟨some 26,.un .not,[.t 25],false,some (23,false)⟩,oo 27 .pick [.t 23,.c (.d (.bool true)),.t 26],oM 28 27,⟨some 29,.mov,[.t 3],false,some (28,false)⟩,⟨some 30,.call 65,[.t 29],false,some (28,false)⟩,⟨some 31,.un .not,[.t 30],false,some (28,false)⟩,oo 32 .pick [.t 28,.c (.d (.bool true)),.t 31],oM 19 32]
def Qwr:List COp:=[oo 33 (.build [.nils 1,.d (.int .i64 0),.nils 1,.nils 3] []) [],⟨none,.store 4,[.t 12,.t 33],true,none⟩,oo 13 .mov [cI 2]]
def Qws:List COp:=[oM 35 0,oM 36 1,oo 37 (.bin .eql false) [.t 35,.t 36],oM 38 37,⟨some 39,.mov,[.t 0],false,some (38,false)⟩,⟨some 40,.mov,[.t 3],false,some (38,false)⟩,⟨some 41,.bin .eql false,[.t 39,.t 40],false,some (38,false)⟩,oo 42 .pick [.t 38,.c (.d (.bool true)),.t 41],oM 43 42,⟨some 44,.mov,[.t 1],false,some (43,false)⟩,⟨some 45,.mov,[.t 3],false,some (43,false)⟩,⟨some 46,.bin .eql false,[.t 44,.t 45],false,some (43,false)⟩,oo 47 .pick [.t 43,.c (.d (.bool true)),.t 46],oM 34 47]
def Qwt:List COp:=[oo 48 (.build [.nils 1,.d (.int .i64 0),.nils 1,.nils 3] []) [],⟨none,.store 4,[.t 12,.t 48],true,none⟩,oo 13 .mov [cI 13]]
def Qwu:List COp:=[oM 50 2,oo 51 (.bin .lss false) [.t 50,cI 0],oM 52 51,⟨some 53,.mov,[.t 2],false,some (52,false)⟩,⟨some 54,.bin .gtr false,[.t 53,cI 16],false,some (52,false)⟩,oo 55 .pick [.t 52,.c (.d (.bool true)),.t 54],oM 49 55]
def Qwv:List COp:=[oo 56 (.build [.nils 1,.d (.int .i64 0),.nils 1,.nils 3] []) [],⟨none,.store 4,[.t 12,.t 56],true,none⟩,oo 13 .mov [cI 2]]
def Qww:List COp:=[oM 57 0,oM 58 1,oM 59 3,oo 60 (.bslice 1 3 [.d (.int .i64 0)] [0,1,2]) [.t 57,.t 58,.t 59],oM 61 2,oo 62 (.bin .add false) [.t 61,cI 2],ot 63 (.build [.nils 1,.d (.int .i64 0),.nils 1,.nils 3] [(0,1),(1,1)]) [.t 60,.t 62],oo 14 (.alloc [.nils 1,.d (.int .i64 0),.nils 1,.nils 3]) [],⟨none,.store 4,[.t 14,.t 63],true,none⟩]
def Qwx:List COp:=[oF 64 0 14,oL 65 64,oo 66 (.call 73) [.t 65]]
def Qwy:List COp:=[oF 67 1 14,oL 68 67,oo 69 .mov [cI 0]]
def Quk:List COp:=[oo 70 (.bin .lss false) [.t 69,.t 68]]
def Qul:List COp:=[oM 71 69,oM 15 71]
def Qum:List COp:=[oM 72 15,oo 73 (.bin .eql false) [.t 72,cI 0],oM 74 73,⟨some 75,.mov,[.t 4],false,some (74,false)⟩,oo 76 .pick [.t 74,.c (.d (.bool true)),.t 75]]
def Qun:List COp:=[oF 77 2 14,oo 78 .loadT [.t 77],oM 79 15,oo 80 (.bslice 1 1 [.d (.int .i64 0)] [0]) [.t 79],ot 81 (.append 1 8) [.t 78,.t 80],oF 82 2 14,⟨none,.store 1,[.t 82,.t 81],true,none⟩]
def Quo:List COp:=[oF 83 0 14,oL 84 83,oo 85 .len [.t 84],oo 86 .mov [cI 0]]
def Qup:List COp:=[oo 87 (.bin .lss false) [.t 86,.t 85]]
def Quq:List COp:=[oo 88 (.idx 1) [.t 84,.t 86],oL 89 88,oM 17 89]
def Qur:List COp:=[oM 90 5,oM 91 15,oM 92 17,oo 93 .callv [.t 90,.t 91,.t 92],oM 18 93]
def Qus:List COp:=[oM 94 15,oo 95 (.bin .eql false) [.t 94,cI 0]]
def Qut:List COp:=[oo 18 .mov [cI 0]]
def Quu:List COp:=[oM 96 17,oM 97 0,oo 98 (.bin .eql false) [.t 96,.t 97]]
def Quv:List COp:=[oo 18 .mov [cI 1]]
def Quw:List COp:=[oM 99 18,oo 100 (.bin .neq false) [.t 99,cI (-1)]]
def Qux:List COp:=[oF 101 3 14,oo 102 .loadT [.t 101],oM 103 15,oM 104 17,oM 105 18,oo 106 (.build [.d (.int .i64 0),.d (.int .i64 0),.d (.int .i64 0)] [(0,1),(1,1),(2,1)]) [.t 103,.t 104,.t 105],oo 107 (.bslice 3 1 [.d (.int .i64 0),.d (.int .i64 0),.d (.int .i64 0)] [0]) [.t 106],ot 108 (.append 3 24) [.t 102,.t 107],oF 109 3 14,⟨none,.store 1,[.t 109,.t 108],true,none⟩]
def Quy:List COp:=[oo 110 (.bin .add false) [.t 86,cI 1],oM 86 110]
def Quz:List COp:=[oo 111 (.bin .add false) [.t 69,cI 1],oM 69 111]
def Qu0:List COp:=[oo 112 (.load true 4) [.t 14],⟨none,.store 4,[.t 12,.t 112],true,none⟩,oo 13 .mov [cI 0]]
def Qhv:CFn:=⟨6,113,[.cell 12 true 4,.t 13],.seq (.region Qwp 9 []) (.seq (.block 0 (.seq (.region Qwq 9 []) (.cond (.t 19) (.seq (.region Qwr 9 []) (.ret)) (.seq (.region Qws 9 []) (.cond (.t 34) (.seq (.region Qwt 9 []) (.ret)) (.seq (.region Qwu 9 []) (.cond (.t 49) (.seq (.region Qwv 9 []) (.ret)) (.skip)))))))) (.seq (.region Qww 9 []) (.seq (.region Qwx 9 []) (.seq (.seq (.region Qwy 9 []) (.block 1 (.loop [80,107] (.seq (.region Quk 9 []) (.seq (.cond (.t 70) (.skip) (.exit 1)) (.seq (.block 2 (.seq (.region Qul 9 []) (.seq (.seq (.region Qum 9 []) (.cond (.t 76) (.region Qun 9 []) (.skip))) (.seq (.region Quo 9 []) (.block 3 (.loop [107] (.seq (.region Qup 9 []) (.seq (.cond (.t 87) (.skip) (.exit 3)) (.seq (.block 4 (.seq (.region Quq 9 []) (.seq (.region Qur 9 []) (.seq (.seq (.region Qus 9 []) (.cond (.t 95) (.seq (.region Qut 9 []) (.seq (.region Quu 9 []) (.cond (.t 98) (.region Quv 9 []) (.skip)))) (.skip))) (.seq (.region Quw 9 []) (.cond (.t 100) (.region Qux 9 []) (.skip))))))) (.region Quy 9 [])))))))))) (.region Quz 9 []))))))) (.seq (.region Qu0 9 []) (.ret))))))⟩
def Qct (Q4:Int→Option Bool) (f_slices_Sort_int:List Int→Option (List Int)) (fuel:Nat) (xfrom1:Int) (to2:Int) (ticks3:Int) (tick4:Int) (marked5:Bool) (lead6:(Int→Int→Option Int)):Option (Qm×Int) :=
  ((((Q4 xfrom1).bind fun x15=>(if x15 then ((Q4 to2).bind fun x18=>(if x18 then ((Q4 tick4).bind fun x21=>some (!x21)) else some true)) else some true))).bind fun (x22:Bool)=>(if x22 then some ((Qm.mk [] 0 [] []),2) else (((if (xfrom1 == to2) then some true else (if (xfrom1 == tick4) then some true else some (to2 == tick4)))).bind fun (x26:Bool)=>(if x26 then some ((Qm.mk [] 0 [] []),13) else (((if (ticks3 < 0) then some true else some (decide (ticks3 > 16)))).bind fun (x29:Bool)=>(if x29 then some ((Qm.mk [] 0 [] []),2) else ((f_slices_Sort_int [xfrom1,to2,tick4]).bind fun row31=>((Qdz (fun k44 ((x36,x37,c38,c39,c40,a41,a42,a43):Int×Int×(List Int)×(List Int)×(List Qe)×Int×(List Int)×(List Qe))=>(if (x37 < x36) then (((((((if (x37 == 0) then some true else some marked5)).bind fun (x47:Bool)=>(if x47 then ((appO a42 [x37]).bind fun x49=>some x49) else some a42))).bind fun (a51:List Int)=>Qdz (fun k54 ((x52,a53):Int×(List Qe))=>(if (x52 < (3:Int)) then ((((inO 3 x52).bind fun u56=>((getO row31 x52).bind fun x58=>((lead6 x37 x58).bind fun x61=>(((if (x37 == 0) then (if (x58 == xfrom1) then some 1 else some 0) else some x61)).bind fun (next64:Int)=>(if (next64 != (-1)) then ((appO a53 [(Qe.mk x37 x58 next64)]).bind fun x66=>some x66) else some a53)))))).bind fun (a68:List Qe)=>k54 ((IntKind.wrap .i64 (x52 + 1)),a68)) else some (a51,a53))) fuel (0,a43))).bind fun ((a69,a70):(List Int)×(List Qe))=>k44 (x36,(IntKind.wrap .i64 (x37 + 1)),c38,c39,c40,a41,a69,a70)) else some (c38,c39,c40,a41,a42,a43))) fuel ((IntKind.wrap .i64 (ticks3 + 2)),0,[],[],[],(IntKind.wrap .i64 (ticks3 + 2)),[],[])).bind fun ((c71,c72,c73,a74,a75,a76):(List Int)×(List Int)×(List Qe)×Int×(List Int)×(List Qe))=>((lenO row31 3).bind fun _=>some ((Qm.mk row31 a74 a75 a76),0))))))))))
def Qgi (P:Program) (c:Nat) (f:Int→Int→Int→Int→Option (Qm×Int)):Prop:=∀ xfrom1 to2 ticks3 tick4 r,f xfrom1 to2 ticks3 tick4 = some r→∀ M nb,ACalls P c [(i_ xfrom1),(i_ to2),(i_ ticks3),(i_ tick4)] M nb (.tup [(Qo r.1),(i_ r.2)]) M nb
def Qsg:List COp:=[oo 4 (.box 1) [.t 0],oo 5 (.box 1) [.t 1],oo 6 (.box 1) [.t 2],oo 8 (.alloc [.nils 1,.d (.int .i64 0),.nils 1,.nils 3]) [],oo 9 .mov [cI 0]]
def Qsh:List COp:=[oL 10 4,oL 11 5,oL 12 6,oM 13 3,oo 14 (.func 48) [.t 4,.t 5,.t 6],oo 15 (.call 47) [.t 10,.t 11,.t 12,.t 13,.c (.d (.bool false)),.t 14],oo 16 (.extract 0) [.t 15],oo 17 (.extract 1) [.t 15],⟨none,.store 4,[.t 8,.t 16],true,none⟩,oM 9 17]
def Qgj:CFn:=⟨4,18,[.cell 8 true 4,.t 9],.seq (.region Qsg 9 []) (.seq (.region Qsh 9 []) (.ret))⟩
def Qb8 (Qct:Int→Int→Int→Int→Bool→(Int→Int→Option Int)→Option (Qm×Int)) (Qb5:Int→Int→Int→Int→Int→Option Int) (xfrom1:Int) (to2:Int) (ticks3:Int) (tick4:Int):Option (Qm×Int) :=
  ((Qct xfrom1 to2 ticks3 tick4 false (fun a5 a6=>Qb5 a5 a6 xfrom1 to2 ticks3)).bind fun (r10,r11)=>some (r10,r11))
def Qh1 (P:Program) (c:Nat) (f:(List Int)→(List Int)→Option Bool):Prop:=∀ s1 s2 r,f s1 s2 = some r→∀ M nb,ACalls P c [(l_ s1),(l_ s2)] M nb (b_ r) M nb
def Q3e:List COp:=[oo 4 .mov [.c (.d (.bool false))]]
def Q3f:List COp:=[oM 6 0,oo 7 .len [.t 6],oM 8 1,oo 9 .len [.t 8],oo 10 (.bin .neq false) [.t 7,.t 9]]
def Q3g:List COp:=[oo 4 .mov [.c (.d (.bool false))]]
def Q3h:List COp:=[oM 11 0,oo 12 .len [.t 11],oo 13 .mov [cI 0]]
def Q3i:List COp:=[oo 14 (.bin .lss false) [.t 13,.t 12]]
def Q3j:List COp:=[oM 15 13,oM 5 15]
def Q3k:List COp:=[oM 16 0,oM 17 5,oo 18 (.idx 1) [.t 16,.t 17],oL 19 18,oM 20 1,oM 21 5,oo 22 (.idx 1) [.t 20,.t 21],oL 23 22,oo 24 (.bin .neq false) [.t 19,.t 23]]
def Q3l:List COp:=[oo 4 .mov [.c (.d (.bool false))]]
def Q3m:List COp:=[oo 25 (.bin .add false) [.t 13,cI 1],oM 13 25]
def Q3n:List COp:=[oo 4 .mov [.c (.d (.bool true))]]
def Ql0:CFn:=⟨2,26,[.t 4],.seq (.region Q3e 9 []) (.seq (.seq (.region Q3f 9 []) (.cond (.t 10) (.seq (.region Q3g 9 []) (.ret)) (.skip))) (.seq (.seq (.region Q3h 9 []) (.block 0 (.loop [] (.seq (.region Q3i 9 []) (.seq (.cond (.t 14) (.skip) (.exit 0)) (.seq (.block 1 (.seq (.region Q3j 9 []) (.seq (.region Q3k 0 []) (.cond (.t 24) (.seq (.region Q3l 9 []) (.ret)) (.skip))))) (.region Q3m 9 []))))))) (.seq (.region Q3n 9 []) (.ret))))⟩
def Qbs (fuel:Nat) (s1:(List Int)) (s2:(List Int)):Option Bool :=
  (if ((s1.length:Int) != (s2.length:Int)) then some false else Qdz (fun k5 (x4:Int)=>(if (x4 < (s1.length:Int)) then ((getO s1 x4).bind fun x7=>((getO s2 x4).bind fun x9=>(if (x7 != x9) then some false else k5 (IntKind.wrap .i64 (x4 + 1))))) else some true)) fuel 0)
def Qtl (P:Program) (c:Nat) (f:(List Int)→(List Int)→Option Bool):Prop:=∀ a1 b2 r,f a1 b2 = some r→∀ M nb,ACalls P c [(l_ a1),(l_ b2)] M nb (b_ r) M nb
def Q8y:List COp:=[oo 4 .mov [.c (.d (.bool false))]]
def Q8z:List COp:=[oM 5 0,oM 6 1,oo 7 (.call 45) [.t 5,.t 6],oM 4 7]
def Q1k:CFn:=⟨2,8,[.t 4],.seq (.region Q8y 9 []) (.seq (.region Q8z 9 []) (.ret))⟩
def Qdi (Qbs:(List Int)→(List Int)→Option Bool) (a1:(List Int)) (b2:(List Int)):Option Bool :=
  ((Qbs a1 b2).bind fun x4=>some x4)
def Qie (P:Program) (c:Nat) (f:Option Bool):Prop:=∀ r,f = some r→∀ M nb,ACalls P c [] M nb (b_ r) M nb
def Qyi:List COp:=[oo 0 .mov [.c (.d (.bool false))]]
def Qyj:List COp:=[oo 8 (.bslice 1 1 [.d (.int .i64 0)] [0]) [cI 0],oo 9 (.call 35) [.t 8],oo 10 (.call 11) [.t 9],oM 7 10,oo 11 (.extract 0) [.t 7],oo 12 (.extract 1) [.t 7],oo 1 (.alloc [.nils 1,.nils 1,.nils 4,.d (.int .i64 0),.nils 1,.d (.int .i64 0),.nils 1,.nils 3,.nils 1,.nils 1]) [],⟨none,.store 10,[.t 1,.t 11],true,none⟩,oM 2 12]
def Qyk:List COp:=[oo 14 (.call 35) [.c (.nils 1)],oo 15 (.call 11) [.t 14],oM 13 15,oo 16 (.extract 0) [.t 13],oo 17 (.extract 1) [.t 13],oo 3 (.alloc [.nils 1,.nils 1,.nils 4,.d (.int .i64 0),.nils 1,.d (.int .i64 0),.nils 1,.nils 3,.nils 1,.nils 1]) [],⟨none,.store 10,[.t 3,.t 16],true,none⟩,oM 4 17]
def Qyl:List COp:=[oo 19 (.call 17) [cI 0,cI 1,cI 1,cI 2],oM 18 19,oo 20 (.extract 0) [.t 18],oo 21 (.extract 1) [.t 18],oo 5 (.alloc [.nils 1,.d (.int .i64 0),.nils 1,.nils 3]) [],⟨none,.store 4,[.t 5,.t 20],true,none⟩,oM 6 21]
def Qym:List COp:=[oM 22 2,oo 23 (.bin .eql false) [.t 22,cI 0],oM 24 23,⟨some 25,.fld 9,[.t 1],false,some (24,true)⟩,⟨some 26,.load false 1,[.t 25],false,some (24,true)⟩,⟨some 27,.bslice 1 1 [.d (.int .i64 0)] [0],[cI 0],false,some (24,true)⟩,⟨some 28,.call 16,[.t 26,.t 27],false,some (24,true)⟩,oo 29 .pick [.t 24,.t 28,.c (.d (.bool false))],oM 30 29,⟨some 31,.fld 9,[.t 1],false,some (30,true)⟩,⟨some 32,.load false 1,[.t 31],false,some (30,true)⟩,⟨some 33,.len,[.t 32],false,some (30,true)⟩,⟨some 34,.bin .eql false,[.t 33,cI 1],false,some (30,true)⟩,oo 35 .pick [.t 30,.t 34,.c (.d (.bool false))],oM 36 35,⟨some 37,.fld 4,[.t 1],false,some (36,true)⟩,⟨some 38,.fld 1,[.t 37],false,some (36,true)⟩,⟨some 39,.load false 1,[.t 38],false,some (36,true)⟩,⟨some 40,.bin .eql false,[.t 39,cI 1],false,some (36,true)⟩,oo 41 .pick [.t 36,.t 40,.c (.d (.bool false))],oM 42 41,⟨some 43,.mov,[.t 4],false,some (42,true)⟩,⟨some 44,.bin .eql false,[.t 43,cI 0],false,some (42,true)⟩,oo 45 .pick [.t 42,.t 44,.c (.d (.bool false))],oM 46 45,⟨some 47,.fld 0,[.t 3],false,some (46,true)⟩,⟨some 48,.fld 2,[.t 47],false,some (46,true)⟩,⟨some 49,.load false 1,[.t 48],false,some (46,true)⟩,⟨some 50,.len,[.t 49],false,some (46,true)⟩,⟨some 51,.bin .eql false,[.t 50,cI 2],false,some (46,true)⟩,oo 52 .pick [.t 46,.t 51,.c (.d (.bool false))],oM 53 52,⟨some 54,.fld 0,[.t 3],false,some (53,true)⟩,⟨some 55,.fld 2,[.t 54],false,some (53,true)⟩,⟨some 56,.load false 1,[.t 55],false,some (53,true)⟩,⟨some 57,.idx 4,[.t 56,cI 0],false,some (53,true)⟩,⟨some 58,.load true 4,[.t 57],false,some (53,true)⟩,⟨some 59,.build [.d (.int .i64 0),.d (.int .i64 0),.d (.int .i64 0),.d (.int .i64 0)] [(0,1),(1,1),(2,1),(3,1)],[cI 0,cI 2,cI 4,cI 2],false,some (53,true)⟩,⟨some 60,.eqa false [0,0,0,0],[.t 58,.t 59],false,some (53,true)⟩,oo 61 .pick [.t 53,.t 60,.c (.d (.bool false))],oM 62 61,⟨some 63,.mov,[.t 6],false,some (62,true)⟩,⟨some 64,.bin .eql false,[.t 63,cI 0],false,some (62,true)⟩,oo 65 .pick [.t 62,.t 64,.c (.d (.bool false))],oM 66 65,⟨some 67,.fld 1,[.t 5],false,some (66,true)⟩,⟨some 68,.load false 1,[.t 67],false,some (66,true)⟩,⟨some 69,.bin .eql false,[.t 68,cI 3],false,some (66,true)⟩,oo 70 .pick [.t 66,.t 69,.c (.d (.bool false))],oM 71 70,⟨some 72,.fld 3,[.t 5],false,some (71,true)⟩,⟨some 73,.load false 1,[.t 72],false,some (71,true)⟩,⟨some 74,.len,[.t 73],false,some (71,true)⟩,⟨some 75,.bin .eql false,[.t 74,cI 8],false,some (71,true)⟩,oo 76 .pick [.t 71,.t 75,.c (.d (.bool false))],oM 0 76]
def Qif:CFn:=⟨0,77,[.t 0],.seq (.region Qyi 9 []) (.seq (.region Qyj 9 []) (.seq (.region Qyk 9 []) (.seq (.region Qyl 9 []) (.seq (.region Qym 9 []) (.ret)))))⟩
def Qcl (Q0:Qa→Option (Qbu×Int)) (Qdi:(List Int)→(List Int)→Option Bool) (Qb8:Int→Int→Int→Int→Option (Qm×Int)) (Qcj:(List Int)→Option Qa):Option Bool :=
  ((Qcj [0]).bind fun x2=>((Q0 (Qa.mk x2.zA x2.zC [] x2.zD x2.Tick)).bind fun (r4,r5)=>((Qcj []).bind fun x7=>((Q0 (Qa.mk x7.zA x7.zC [] x7.zD x7.Tick)).bind fun (r9,r10)=>((Qb8 0 1 1 2).bind fun (r12,r13)=>(((if (r5 == 0) then ((Qdi r4.zI [0]).bind fun x16=>(if x16 then (if ((r4.zI.length:Int) == 1) then (if (r4.zH.zM == 1) then (if (r10 == 0) then (if ((r9.zE.zG.length:Int) == 2) then ((getO r9.zE.zG 0).bind fun x22=>(if ((x22.State == 0) && ((x22.Rank == 2) && ((x22.Reason == 4) && ((x22.Event == 2) && true)))) then (if (r13 == 0) then (if (r12.zM == 3) then some ((r12.zL.length:Int) == 8) else some false) else some false) else some false)) else some false) else some false) else some false) else some false) else some false)) else some false)).bind fun (x27:Bool)=>some x27))))))
def Qka (P:Program) (c:Nat) (f:Qm→Option Bool):Prop:=∀ a1 r,f a1 = some r→∀ M nb,ACalls P c [(Qo a1)] M nb (b_ r) M nb
def Q1l:List COp:=[oo 1 (.box 4) [.t 0],oo 2 .mov [.c (.d (.bool false))]]
def Q1m:List COp:=[oF 3 0 1,oL 4 3,oo 5 .len [.t 4],oo 6 (.bin .leq false) [.t 5,cI 10],oM 7 6,⟨some 8,.fld 2,[.t 1],false,some (7,true)⟩,⟨some 9,.load false 1,[.t 8],false,some (7,true)⟩,⟨some 10,.len,[.t 9],false,some (7,true)⟩,⟨some 11,.bin .leq false,[.t 10,cI 10],false,some (7,true)⟩,oo 12 .pick [.t 7,.t 11,.c (.d (.bool false))],oM 13 12,⟨some 14,.fld 3,[.t 1],false,some (13,true)⟩,⟨some 15,.load false 1,[.t 14],false,some (13,true)⟩,⟨some 16,.len,[.t 15],false,some (13,true)⟩,⟨some 17,.bin .leq false,[.t 16,cI 10],false,some (13,true)⟩,oo 18 .pick [.t 13,.t 17,.c (.d (.bool false))],oM 19 18,⟨some 20,.fld 1,[.t 1],false,some (19,true)⟩,⟨some 21,.load false 1,[.t 20],false,some (19,true)⟩,⟨some 22,.bin .leq false,[.t 21,cI 40],false,some (19,true)⟩,⟨some 23,.mov,[.t 22],false,some (19,true)⟩,⟨some 24,.load true 4,[.t 1],false,some (23,false)⟩,⟨some 25,.call 64,[.t 24],false,some (23,false)⟩,⟨some 26,.bin .neq false,[.t 25,cI 0],false,some (23,false)⟩,⟨some 27,.pick,[.t 23,.c (.d (.bool true)),.t 26],false,some (19,true)⟩,oo 28 .pick [.t 19,.t 27,.c (.d (.bool false))],oM 2 28]
def Qkb:CFn:=⟨1,29,[.t 2],.seq (.region Q1l 9 []) (.seq (.region Q1m 9 []) (.ret))⟩
def Qc4 (Qbd:Qm→Option Int) (a1:Qm):Option Bool :=
  (((if ((a1.zJ.length:Int)≤10) then (if ((a1.zK.length:Int)≤10) then (if ((a1.zL.length:Int)≤10) then (if (a1.zM≤40) then some true else ((Qbd a1).bind fun x7=>some (x7 != 0))) else some false) else some false) else some false)).bind fun (x8:Bool)=>some x8)
def Qkc (P:Program) (c:Nat) (f:(List Int)→Int→Option Bool):Prop:=∀ l1 n2 r,f l1 n2 = some r→∀ M nb,ACalls P c [(l_ l1),(i_ n2)] M nb (b_ r) M nb
def Q1n:List COp:=[oo 4 .mov [.c (.d (.bool false))]]
def Q1o:List COp:=[oo 5 .mov [cI 0]]
def Q1p:List COp:=[oM 6 5,oM 7 0,oo 8 .len [.t 7],oo 9 (.bin .lss false) [.t 6,.t 8]]
def Q1q:List COp:=[oM 12 0,oM 13 5,oo 14 (.idx 1) [.t 12,.t 13],oL 15 14,oM 16 1,oo 17 (.bin .eql false) [.t 15,.t 16]]
def Q1r:List COp:=[oo 4 .mov [.c (.d (.bool true))]]
def Q1s:List COp:=[oM 10 5,oo 11 (.bin .add false) [.t 10,cI 1],oM 5 11]
def Q1t:List COp:=[oo 4 .mov [.c (.d (.bool false))]]
def Qkd:CFn:=⟨2,18,[.t 4],.seq (.region Q1n 9 []) (.seq (.seq (.region Q1o 9 []) (.block 0 (.loop [] (.seq (.seq (.region Q1p 9 []) (.cond (.t 9) (.skip) (.exit 0))) (.seq (.block 1 (.seq (.region Q1q 9 []) (.cond (.t 17) (.seq (.region Q1r 9 []) (.ret)) (.skip)))) (.region Q1s 9 [])))))) (.seq (.region Q1t 9 []) (.ret)))⟩
def Qcq (fuel:Nat) (l1:(List Int)) (n2:Int):Option Bool :=
  Qdz (fun k4 (i3:Int)=>(if (i3 < (l1.length:Int)) then ((getO l1 i3).bind fun x6=>(if (x6 == n2) then some true else k4 (IntKind.wrap .i64 (i3 + 1)))) else some false)) fuel 0
def Qig (P:Program) (c:Nat) (f:Qa→Option Int):Prop:=∀ p1 r,f p1 = some r→∀ M nb,ACalls P c [.agg [(l_ p1.zA.zJ),(i_ p1.zA.zM),(l_ p1.zA.zK),.d (.lst 3 (List.map Qb p1.zA.zL)),(l_ p1.zC),(l_ p1.zB),(l_ p1.zD),(i_ p1.Tick)]] M nb (i_ r) M nb
def Qyn:List COp:=[oo 1 (.box 8) [.t 0],oo 2 .mov [cI 0]]
def Qyo:List COp:=[oF 7 0 1,oo 8 (.load true 4) [.t 7],oo 9 (.call 64) [.t 8],oM 3 9]
def Qyp:List COp:=[oM 10 3,oo 11 (.bin .neq false) [.t 10,cI 0]]
def Qyq:List COp:=[oM 12 3,oM 2 12]
def Qyr:List COp:=[oF 13 4 1,oL 14 13,oF 15 0 1,oF 16 1 15,oL 17 16,oo 18 (.call 31) [.t 14,.t 17],oM 4 18]
def Qys:List COp:=[oM 19 4,oo 20 (.bin .neq false) [.t 19,cI 0]]
def Qyt:List COp:=[oM 21 4,oM 2 21]
def Qyu:List COp:=[oF 22 5 1,oL 23 22,oo 24 (.call 31) [.t 23,cI 32],oM 5 24]
def Qyv:List COp:=[oM 25 5,oo 26 (.bin .neq false) [.t 25,cI 0]]
def Qyw:List COp:=[oM 27 5,oM 2 27]
def Qwz:List COp:=[oF 28 6 1,oL 29 28,oo 30 (.call 31) [.t 29,cI 32],oM 6 30]
def Qw0:List COp:=[oM 31 6,oo 32 (.bin .neq false) [.t 31,cI 0]]
def Qw1:List COp:=[oM 33 6,oM 2 33]
def Qw2:List COp:=[oF 34 7 1,oL 35 34,oo 36 (.bin .lss false) [.t 35,cI 0],oM 37 36,⟨some 38,.fld 7,[.t 1],false,some (37,false)⟩,⟨some 39,.load false 1,[.t 38],false,some (37,false)⟩,⟨some 40,.bin .geq false,[.t 39,cI 32],false,some (37,false)⟩,oo 41 .pick [.t 37,.c (.d (.bool true)),.t 40]]
def Qw3:List COp:=[oo 2 .mov [cI 2]]
def Qw4:List COp:=[oF 42 5 1,oL 43 42,oF 44 7 1,oL 45 44,oo 46 (.call 23) [.t 43,.t 45],oM 47 46,⟨some 48,.fld 6,[.t 1],false,some (47,false)⟩,⟨some 49,.load false 1,[.t 48],false,some (47,false)⟩,⟨some 50,.fld 7,[.t 1],false,some (47,false)⟩,⟨some 51,.load false 1,[.t 50],false,some (47,false)⟩,⟨some 52,.call 23,[.t 49,.t 51],false,some (47,false)⟩,oo 53 .pick [.t 47,.c (.d (.bool true)),.t 52]]
def Qw5:List COp:=[oo 2 .mov [cI 13]]
def Qw6:List COp:=[oo 2 .mov [cI 0]]
def Qih:CFn:=⟨1,54,[.t 2],.seq (.region Qyn 9 []) (.seq (.seq (.region Qyo 9 []) (.seq (.region Qyp 9 []) (.cond (.t 11) (.seq (.region Qyq 9 []) (.ret)) (.skip)))) (.seq (.seq (.region Qyr 9 []) (.seq (.region Qys 9 []) (.cond (.t 20) (.seq (.region Qyt 9 []) (.ret)) (.skip)))) (.seq (.seq (.region Qyu 9 []) (.seq (.region Qyv 9 []) (.cond (.t 26) (.seq (.region Qyw 9 []) (.ret)) (.skip)))) (.seq (.seq (.region Qwz 9 []) (.seq (.region Qw0 9 []) (.cond (.t 32) (.seq (.region Qw1 9 []) (.ret)) (.skip)))) (.seq (.seq (.region Qw2 9 []) (.cond (.t 41) (.seq (.region Qw3 9 []) (.ret)) (.skip))) (.seq (.seq (.region Qw4 9 []) (.cond (.t 53) (.seq (.region Qw5 9 []) (.ret)) (.skip))) (.seq (.region Qw6 9 []) (.ret))))))))⟩
def Qcm (Qcq:(List Int)→Int→Option Bool) (Qy:(List Int)→Int→Option Int) (Qbd:Qm→Option Int) (p1:Qa):Option Int :=
  ((Qbd p1.zA).bind fun x3=>(if (x3 != 0) then some x3 else ((Qy p1.zC p1.zA.zM).bind fun x6=>(if (x6 != 0) then some x6 else ((Qy p1.zB 32).bind fun x9=>(if (x9 != 0) then some x9 else ((Qy p1.zD 32).bind fun x12=>(if (x12 != 0) then some x12 else (((if (p1.Tick < 0) then some true else some (decide (p1.Tick≥32)))).bind fun (x15:Bool)=>(if x15 then some 2 else ((((Qcq p1.zB p1.Tick).bind fun x18=>(if x18 then some true else ((Qcq p1.zD p1.Tick).bind fun x21=>some x21)))).bind fun (x22:Bool)=>(if x22 then some 13 else some 0))))))))))))
def Qfw (P:Program) (c:Nat) (f:Int→Qd→(List Int)→Qa→Option Bool):Prop:=∀ i1 x2 x11 x14 (k3:Nat) (k5:Nat) (k7:Nat) (k9:Nat) (k12:Nat) (k15:Nat) r,f i1 x2 x11 x14 = some r→∀ M nb,(M k3 = some (.cells [.ptr k5 0]))→(M k5 = some (.cells [(l_ x2.zN.zA.zJ),(i_ x2.zN.zA.zM),(l_ x2.zN.zA.zK),.d (.lst 3 (List.map Qb x2.zN.zA.zL)),(l_ x2.zN.zC),(l_ x2.zN.zB),(l_ x2.zN.zD),(i_ x2.zN.Tick),.sl 1 k7 0 x2.from_.length x2.from_.length,.sl 1 k9 0 x2.left_.length x2.left_.length]))→(M k7 = some (.cells (Qz (fun (x:List Qe)=>[V.d (.lst 3 (List.map Qb x))]) x2.from_)))→(M k9 = some (.cells (Qz (fun (x:Bool)=>[V.d (.bool x)]) x2.left_)))→(M k12 = some (.cells [(l_ x11)]))→(M k15 = some (.cells [(l_ x14.zA.zJ),(i_ x14.zA.zM),(l_ x14.zA.zK),.d (.lst 3 (List.map Qb x14.zA.zL)),(l_ x14.zC),(l_ x14.zB),(l_ x14.zD),(i_ x14.Tick)]))→ACalls P c [(i_ i1),.ptr k3 0,.ptr k12 0,.ptr k15 0] M nb (b_ r) M nb
def Qqi:List COp:=[oo 5 .mov [.c (.d (.bool false))]]
def Qqj:List COp:=[oL 9 1,oM 10 0,oo 11 (.call 53) [.t 9,.t 10],oM 8 11,oo 12 (.extract 0) [.t 8],oo 13 (.extract 1) [.t 8],oM 6 12,oM 7 13]
def Qqk:List COp:=[oM 14 6,oo 15 (.bin .neq false) [.t 14,cI 0],oM 16 15,⟨some 17,.load false 1,[.t 2],false,some (16,false)⟩,⟨some 18,.mov,[.t 0],false,some (16,false)⟩,⟨some 19,.idx 1,[.t 17,.t 18],false,some (16,false)⟩,⟨some 20,.load false 1,[.t 19],false,some (16,false)⟩,⟨some 21,.bin .lss false,[.t 20,cI 0],false,some (16,false)⟩,oo 22 .pick [.t 16,.c (.d (.bool true)),.t 21],oM 23 22,⟨some 24,.fld 4,[.t 3],false,some (23,false)⟩,⟨some 25,.load false 1,[.t 24],false,some (23,false)⟩,⟨some 26,.mov,[.t 0],false,some (23,false)⟩,⟨some 27,.call 50,[.t 25,.t 26],false,some (23,false)⟩,oo 28 .pick [.t 23,.c (.d (.bool true)),.t 27],oM 5 28]
def Qfx:CFn:=⟨4,29,[.t 5],.seq (.region Qqi 9 []) (.seq (.region Qqj 9 []) (.seq (.region Qqk 9 []) (.ret)))⟩
def Qbt (Qh:(List Int)→Int→Option Bool) (Qs:Qd→Int→Option (Int×Int)) (i1:Int) (x2:Qd) (x11:(List Int)) (x14:Qa):Option Bool :=
  ((Qs x2 i1).bind fun (r18,r19)=>(if (r18 != 0) then some true else ((getO x11 i1).bind fun x21=>(if (x21 < 0) then some true else ((Qh x14.zC i1).bind fun x25=>some x25)))))
def Qhw (P:Program) (c:Nat) (f:(List Int)→(Int→Option Bool)→Option Int):Prop:=∀ s1 f2 (g3:Nat) (cp4:List V) r,f s1 f2 = some r→∀ M nb,(V.dems cp4 = cp4)→(V.ons (There M) cp4)→(∀ a8 r,f2 a8 = some r→∀ M2 nb2,nb≤nb2→Ext M M2→ACalls P g3 ([(i_ a8)] ++ cp4) M2 nb2 (b_ r) M2 nb2)→ACalls P c [(l_ s1),.clo g3 cp4] M nb (i_ r) M nb
def Qw7:List COp:=[oo 4 .mov [cI 0]]
def Qw8:List COp:=[oM 6 0,oo 7 .len [.t 6],oo 8 .mov [cI 0]]
def Qw9:List COp:=[oo 9 (.bin .lss false) [.t 8,.t 7]]
def Qxa:List COp:=[oM 10 8,oM 5 10]
def Qxb:List COp:=[oM 11 1,oM 12 0,oM 13 5,oo 14 (.idx 1) [.t 12,.t 13],oL 15 14,oo 16 .callv [.t 11,.t 15]]
def Qxc:List COp:=[oM 17 5,oM 4 17]
def Qxd:List COp:=[oo 18 (.bin .add false) [.t 8,cI 1],oM 8 18]
def Qxe:List COp:=[oo 4 .mov [cI (-1)]]
def Qhx:CFn:=⟨2,19,[.t 4],.seq (.region Qw7 9 []) (.seq (.seq (.region Qw8 9 []) (.block 0 (.loop [] (.seq (.region Qw9 9 []) (.seq (.cond (.t 9) (.skip) (.exit 0)) (.seq (.block 1 (.seq (.region Qxa 9 []) (.seq (.region Qxb 9 []) (.cond (.t 16) (.seq (.region Qxc 9 []) (.ret)) (.skip))))) (.region Qxd 9 []))))))) (.seq (.region Qxe 9 []) (.ret)))⟩
def Qce (fuel:Nat) (s1:(List Int)) (f2:(Int→Option Bool)):Option Int :=
  Qdz (fun k10 (x9:Int)=>(if (x9 < (s1.length:Int)) then ((getO s1 x9).bind fun x12=>((f2 x12).bind fun x15=>(if x15 then some x9 else k10 (IntKind.wrap .i64 (x9 + 1))))) else some (-1))) fuel 0
def Qel (P:Program) (c:Nat) (f:(List Int)→(Int→Option Bool)→Option Bool):Prop:=∀ s1 f2 (g3:Nat) (cp4:List V) r,f s1 f2 = some r→∀ M nb,(V.dems cp4 = cp4)→(V.ons (There M) cp4)→(∀ a8 r,f2 a8 = some r→∀ M2 nb2,nb≤nb2→Ext M M2→ACalls P g3 ([(i_ a8)] ++ cp4) M2 nb2 (b_ r) M2 nb2)→ACalls P c [(l_ s1),.clo g3 cp4] M nb (b_ r) M nb
def Qsi:List COp:=[oo 4 .mov [.c (.d (.bool false))]]
def Qsj:List COp:=[oM 5 0,oM 6 1,oo 7 (.call 75) [.t 5,.t 6],oo 8 (.bin .geq false) [.t 7,cI 0],oM 4 8]
def Qgk:CFn:=⟨2,9,[.t 4],.seq (.region Qsi 9 []) (.seq (.region Qsj 9 []) (.ret))⟩
def Q3 (Qce:(List Int)→(Int→Option Bool)→Option Int) (s1:(List Int)) (f2:(Int→Option Bool)):Option Bool :=
  ((Qce s1 f2).bind fun x13=>some (decide (x13≥0)))
def Qgl (P:Program) (c:Nat) (f:Qa→(List Int)→Option (Bool×Int)):Prop:=∀ p1 xset2 r,f p1 xset2 = some r→∀ M nb,ACalls P c [.agg [(l_ p1.zA.zJ),(i_ p1.zA.zM),(l_ p1.zA.zK),.d (.lst 3 (List.map Qb p1.zA.zL)),(l_ p1.zC),(l_ p1.zB),(l_ p1.zD),(i_ p1.Tick)],(l_ xset2)] M nb (.tup [(b_ r.1),(i_ r.2)]) M nb
def Qsk:List COp:=[oo 2 (.box 8) [.t 0],oo 4 .mov [.c (.d (.bool false))],oo 5 .mov [cI 0]]
def Qsl:List COp:=[oo 11 (.load true 8) [.t 2],oo 12 (.call 30) [.t 11],oM 6 12]
def Qsm:List COp:=[oM 13 6,oo 14 (.bin .neq false) [.t 13,cI 0]]
def Qsn:List COp:=[oM 15 6,oo 4 .mov [.c (.d (.bool false))],oM 5 15]
def Qso:List COp:=[oM 16 1,oF 17 0 2,oF 18 1 17,oL 19 18,oo 20 (.call 31) [.t 16,.t 19],oM 7 20]
def Qsp:List COp:=[oM 21 7,oo 22 (.bin .neq false) [.t 21,cI 0]]
def Qsq:List COp:=[oM 23 7,oo 4 .mov [.c (.d (.bool false))],oM 5 23]
def Qsr:List COp:=[oo 24 (.load true 8) [.t 2],oo 25 (.call 37) [.t 24],oo 8 (.alloc [.nilp]) [],⟨none,.store 1,[.t 8,.t 25],false,none⟩]
def Qss:List COp:=[oL 26 8,oo 27 .nilchk [.t 26],oF 28 9 27,oL 29 28,oo 30 .len [.t 29],oo 31 .mov [cI 0]]
def Qst:List COp:=[oo 32 (.bin .lss false) [.t 31,.t 30]]
def Qqy:List COp:=[oM 33 31,oM 9 33]
def Qqz:List COp:=[oL 34 8,oo 35 .nilchk [.t 34],oF 36 9 35,oL 37 36,oM 38 9,oM 39 1,oM 40 9,oo 41 (.call 50) [.t 39,.t 40],oo 42 (.idx 1) [.t 37,.t 38],⟨none,.store 1,[.t 42,.t 41],false,none⟩]
def Qq0:List COp:=[oo 43 (.bin .add false) [.t 31,cI 1],oM 31 43]
def Qq1:List COp:=[oL 44 8,oo 45 (.call 39) [.t 44],oo 10 (.alloc [.nils 1]) [],⟨none,.store 1,[.t 10,.t 45],true,none⟩]
def Qq2:List COp:=[oM 46 1,oo 47 (.func 52) [.t 8,.t 10,.t 2],oo 48 (.call 51) [.t 46,.t 47],oo 49 (.un .not) [.t 48],oM 4 49,oo 5 .mov [cI 0]]
def Qgm:CFn:=⟨2,50,[.t 4,.t 5],.seq (.region Qsk 9 []) (.seq (.seq (.region Qsl 9 []) (.seq (.region Qsm 9 []) (.cond (.t 14) (.seq (.region Qsn 9 []) (.ret)) (.skip)))) (.seq (.seq (.region Qso 9 []) (.seq (.region Qsp 9 []) (.cond (.t 22) (.seq (.region Qsq 9 []) (.ret)) (.skip)))) (.seq (.region Qsr 9 []) (.seq (.seq (.region Qss 9 []) (.block 0 (.loop [] (.seq (.region Qst 9 []) (.seq (.cond (.t 32) (.skip) (.exit 0)) (.seq (.block 1 (.seq (.region Qqy 9 []) (.region Qqz 1 []))) (.region Qq0 9 []))))))) (.seq (.region Qq1 9 []) (.seq (.region Qq2 9 []) (.ret)))))))⟩
def Qbj (Qw:Qa→Option Int) (Qy:(List Int)→Int→Option Int) (Q2:Qa→Option Qd) (Qq:Qd→Option ((List Int))) (Qh:(List Int)→Int→Option Bool) (Q3:(List Int)→(Int→Option Bool)→Option Bool) (Qbt:Int→Qd→(List Int)→Qa→Option Bool) (fuel:Nat) (p1:Qa) (xset2:(List Int)):Option (Bool×Int) :=
  ((Qw p1).bind fun x4=>(if (x4 != 0) then some (false,x4) else ((Qy xset2 p1.zA.zM).bind fun x7=>(if (x7 != 0) then some (false,x7) else ((Q2 p1).bind fun x9=>((Qdz (fun k13 ((x11,c12):Int×(List Bool))=>(if (x11 < (x9.left_.length:Int)) then ((Qh xset2 x11).bind fun x16=>((inO x9.left_.length x11).bind fun u17=>((setO c12 x11 x16).bind fun x19=>k13 ((IntKind.wrap .i64 (x11 + 1)),x19)))) else some c12)) fuel (0,x9.left_)).bind fun (c21:List Bool)=>((lenO c21 x9.left_.length).bind fun _=>((Qq (Qd.mk x9.zN x9.from_ c21)).bind fun x24=>((lenO c21 x9.left_.length).bind fun _=>((Q3 xset2 (fun a25=>Qbt a25 (Qd.mk x9.zN x9.from_ c21) x24 p1)).bind fun x30=>some ((!x30),0)))))))))))
def Qii (P:Program) (c:Nat) (f:Qd→Qv→Option (Qj×Bool×Qd)):Prop:=∀ t1 c8 (k2:Nat) (k4:Nat) (k6:Nat) r,f t1 c8 = some r→∀ M nb,(M k2 = some (.cells [(l_ t1.zN.zA.zJ),(i_ t1.zN.zA.zM),(l_ t1.zN.zA.zK),.d (.lst 3 (List.map Qb t1.zN.zA.zL)),(l_ t1.zN.zC),(l_ t1.zN.zB),(l_ t1.zN.zD),(i_ t1.zN.Tick),.sl 1 k4 0 t1.from_.length t1.from_.length,.sl 1 k6 0 t1.left_.length t1.left_.length]))→(M k4 = some (.cells (Qz (fun (x:List Qe)=>[V.d (.lst 3 (List.map Qb x))]) t1.from_)))→(M k6 = some (.cells (Qz (fun (x:Bool)=>[V.d (.bool x)]) t1.left_)))→(k6≠k2)→(k6≠k4)→ACalls P c [.ptr k2 0,(Q7 c8)] M nb (bif r.2.1 then .tup [.ptr (nb + 44) 0,.d (.bool true)] else .tup [.nilp,.d (.bool false)]) (Qr nb (bif r.2.1 then [(44,.cells [.ptr k2 0,.sl 1 (nb + 38) 0 r.1.ranks_.length r.1.ranks_.length,.sl 1 (nb + 40) 0 r.1.distances_.length r.1.distances_.length,.sl 1 (nb + 42) 0 r.1.reasons_.length r.1.reasons_.length]),(38,.cells (Qz (fun (x:Int)=>[V.d (.int .i64 x)]) r.1.ranks_)),(40,.cells (Qz (fun (x:Int)=>[V.d (.int .i64 x)]) r.1.distances_)),(42,.cells (Qz (fun (x:Int)=>[V.d (.int .i64 x)]) r.1.reasons_))] else []) (Mem.puts M [(k6,.cells (Qz (fun (x:Bool)=>[V.d (.bool x)]) r.2.2.left_))])) (nb + 169)
def Qyx:List COp:=[oo 3 (.box 3) [.t 1],oo 4 .mov [.c (.nilp)],oo 5 .mov [.c (.d (.bool false))]]
def Qyy:List COp:=[oM 13 0,oo 14 .nilchk [.t 13],oF 15 9 14,oL 16 15,oo 17 .len [.t 16],oM 6 17]
def Qyz:List COp:=[oF 18 0 3,oL 19 18,oo 20 .len [.t 19],oF 21 2 3,oL 22 21,oo 23 .len [.t 22],oo 24 (.bin .add false) [.t 20,.t 23],oM 25 6,oo 26 (.bin .neq false) [.t 24,.t 25],oM 27 26,⟨some 28,.fld 1,[.t 3],false,some (27,false)⟩,⟨some 29,.load false 1,[.t 28],false,some (27,false)⟩,⟨some 30,.len,[.t 29],false,some (27,false)⟩,⟨some 31,.fld 0,[.t 3],false,some (27,false)⟩,⟨some 32,.load false 1,[.t 31],false,some (27,false)⟩,⟨some 33,.len,[.t 32],false,some (27,false)⟩,⟨some 34,.bin .neq false,[.t 30,.t 33],false,some (27,false)⟩,oo 35 .pick [.t 27,.c (.d (.bool true)),.t 34]]
def Qy0:List COp:=[oo 4 .mov [.c (.nilp)],oo 5 .mov [.c (.d (.bool false))]]
def Qy1:List COp:=[oM 36 0,oM 37 6,oo 38 (.makes 1 8 [.d (.int .i64 0)]) [.t 37,.t 37],oM 39 6,oo 40 (.makes 1 8 [.d (.int .i64 0)]) [.t 39,.t 39],oM 41 6,oo 42 (.makes 1 8 [.d (.int .i64 0)]) [.t 41,.t 41],ot 43 (.build [.nilp,.nils 1,.nils 1,.nils 1] [(0,1),(1,1),(2,1),(3,1)]) [.t 36,.t 38,.t 40,.t 42],oo 44 (.box 4) [.t 43],oM 7 44]
def Qy2:List COp:=[oM 45 6,oo 46 (.makes 1 1 [.d (.bool false)]) [.t 45,.t 45],ot 8 .mov [.t 46]]
def Qy3:List COp:=[oF 47 0 3,oL 48 47,oo 49 .len [.t 48],oo 50 .mov [cI 0]]
def Qy4:List COp:=[oo 51 (.bin .lss false) [.t 50,.t 49]]
def Qy5:List COp:=[oM 52 50,oo 53 (.idx 1) [.t 48,.t 50],oL 54 53,oM 9 52,oM 10 54]
def Qy6:List COp:=[oM 55 10,oo 56 (.bin .lss false) [.t 55,cI 0],oM 57 56,⟨some 58,.mov,[.t 10],false,some (57,false)⟩,⟨some 59,.mov,[.t 6],false,some (57,false)⟩,⟨some 60,.bin .geq false,[.t 58,.t 59],false,some (57,false)⟩,oo 61 .pick [.t 57,.c (.d (.bool true)),.t 60],oM 62 61,⟨some 63,.mov,[.t 9],false,some (62,false)⟩,⟨some 64,.bin .gtr false,[.t 63,cI 0],false,some (62,false)⟩,⟨some 65,.mov,[.t 64],false,some (62,false)⟩,⟨some 66,.mov,[.t 10],false,some (65,true)⟩,⟨some 67,.fld 0,[.t 3],false,some (65,true)⟩,⟨some 68,.load false 1,[.t 67],false,some (65,true)⟩,⟨some 69,.mov,[.t 9],false,some (65,true)⟩,⟨some 70,.bin .sub false,[.t 69,cI 1],false,some (65,true)⟩,⟨some 71,.idx 1,[.t 68,.t 70],false,some (65,true)⟩,⟨some 72,.load false 1,[.t 71],false,some (65,true)⟩,⟨some 73,.bin .leq false,[.t 66,.t 72],false,some (65,true)⟩,⟨some 74,.pick,[.t 65,.t 73,.c (.d (.bool false))],false,some (62,false)⟩,oo 75 .pick [.t 62,.c (.d (.bool true)),.t 74]]
def Qxf:List COp:=[oo 4 .mov [.c (.nilp)],oo 5 .mov [.c (.d (.bool false))]]
def Qxg:List COp:=[oM 76 8,oM 77 10,oM 78 0,oo 79 .nilchk [.t 78],oF 80 9 79,oL 81 80,oM 82 10,oM 83 7,oo 84 .nilchk [.t 83],oF 85 2 84,oL 86 85,oM 87 10,oF 88 1 3,oL 89 88,oM 90 9,oo 91 (.idx 1) [.t 89,.t 90],oL 92 91,oo 93 (.idx 1) [.t 76,.t 77],⟨none,.store 1,[.t 93,.c (.d (.bool true))],false,none⟩,oo 94 (.idx 1) [.t 81,.t 82],⟨none,.store 1,[.t 94,.c (.d (.bool true))],false,none⟩,oo 95 (.idx 1) [.t 86,.t 87],⟨none,.store 1,[.t 95,.t 92],false,none⟩]
def Qxh:List COp:=[oo 96 (.bin .add false) [.t 50,cI 1],oM 50 96]
def Qxi:List COp:=[oF 97 2 3,oL 98 97,oo 99 .len [.t 98],oo 100 .mov [cI 0]]
def Qxj:List COp:=[oo 101 (.bin .lss false) [.t 100,.t 99]]
def Qxk:List COp:=[oM 102 100,oo 103 (.idx 4) [.t 98,.t 100],oo 104 (.load true 4) [.t 103],oo 12 (.alloc [.d (.int .i64 0),.d (.int .i64 0),.d (.int .i64 0),.d (.int .i64 0)]) [],oM 11 102,⟨none,.store 4,[.t 12,.t 104],false,none⟩]
def Qxl:List COp:=[oF 105 0 12,oL 106 105,oo 107 (.bin .lss false) [.t 106,cI 0],oM 108 107,⟨some 109,.fld 0,[.t 12],false,some (108,false)⟩,⟨some 110,.load false 1,[.t 109],false,some (108,false)⟩,⟨some 111,.mov,[.t 6],false,some (108,false)⟩,⟨some 112,.bin .geq false,[.t 110,.t 111],false,some (108,false)⟩,oo 113 .pick [.t 108,.c (.d (.bool true)),.t 112],oM 114 113,⟨some 115,.mov,[.t 8],false,some (114,false)⟩,⟨some 116,.fld 0,[.t 12],false,some (114,false)⟩,⟨some 117,.load false 1,[.t 116],false,some (114,false)⟩,⟨some 118,.idx 1,[.t 115,.t 117],false,some (114,false)⟩,⟨some 119,.load false 1,[.t 118],false,some (114,false)⟩,oo 120 .pick [.t 114,.c (.d (.bool true)),.t 119],oM 121 120,⟨some 122,.mov,[.t 11],false,some (121,false)⟩,⟨some 123,.bin .gtr false,[.t 122,cI 0],false,some (121,false)⟩,⟨some 124,.mov,[.t 123],false,some (121,false)⟩,⟨some 125,.fld 0,[.t 12],false,some (124,true)⟩,⟨some 126,.load false 1,[.t 125],false,some (124,true)⟩,⟨some 127,.fld 2,[.t 3],false,some (124,true)⟩,⟨some 128,.load false 1,[.t 127],false,some (124,true)⟩,⟨some 129,.mov,[.t 11],false,some (124,true)⟩,⟨some 130,.bin .sub false,[.t 129,cI 1],false,some (124,true)⟩,⟨some 131,.idx 4,[.t 128,.t 130],false,some (124,true)⟩,⟨some 132,.fld 0,[.t 131],false,some (124,true)⟩,⟨some 133,.load false 1,[.t 132],false,some (124,true)⟩,⟨some 134,.bin .leq false,[.t 126,.t 133],false,some (124,true)⟩,⟨some 135,.pick,[.t 124,.t 134,.c (.d (.bool false))],false,some (121,false)⟩,oo 136 .pick [.t 121,.c (.d (.bool true)),.t 135],oM 137 136,⟨some 138,.fld 1,[.t 12],false,some (137,false)⟩,⟨some 139,.load false 1,[.t 138],false,some (137,false)⟩,⟨some 140,.bin .lss false,[.t 139,cI 1],false,some (137,false)⟩,oo 141 .pick [.t 137,.c (.d (.bool true)),.t 140]]
def Qxm:List COp:=[oo 4 .mov [.c (.nilp)],oo 5 .mov [.c (.d (.bool false))]]
def Qxn:List COp:=[oM 142 0,oo 143 .nilchk [.t 142],oF 144 9 143,oL 145 144,oF 146 0 12,oL 147 146,oM 148 7,oo 149 .nilchk [.t 148],oF 150 1 149,oL 151 150,oF 152 0 12,oL 153 152,oM 154 7,oo 155 .nilchk [.t 154],oF 156 3 155,oL 157 156,oF 158 0 12,oL 159 158,oF 160 1 12,oL 161 160,oF 162 2 12,oL 163 162,oo 164 (.idx 1) [.t 145,.t 147],⟨none,.store 1,[.t 164,.c (.d (.bool false))],false,none⟩,oo 165 (.idx 1) [.t 151,.t 153],⟨none,.store 1,[.t 165,.t 161],false,none⟩,oo 166 (.idx 1) [.t 157,.t 159],⟨none,.store 1,[.t 166,.t 163],false,none⟩]
def Qxo:List COp:=[oo 167 (.bin .add false) [.t 100,cI 1],oM 100 167]
def Qxp:List COp:=[oM 168 7,oM 4 168,oo 5 .mov [.c (.d (.bool true))]]
def Qij:CFn:=⟨2,169,[.t 4,.t 5],.seq (.region Qyx 9 []) (.seq (.region Qyy 9 []) (.seq (.seq (.region Qyz 9 []) (.cond (.t 35) (.seq (.region Qy0 9 []) (.ret)) (.skip))) (.seq (.region Qy1 0 []) (.seq (.region Qy2 9 []) (.seq (.seq (.region Qy3 9 []) (.block 0 (.loop [] (.seq (.region Qy4 9 []) (.seq (.cond (.t 51) (.skip) (.exit 0)) (.seq (.block 1 (.seq (.region Qy5 9 []) (.seq (.seq (.region Qy6 9 []) (.cond (.t 75) (.seq (.region Qxf 9 []) (.ret)) (.skip))) (.region Qxg 0 [])))) (.region Qxh 9 []))))))) (.seq (.seq (.region Qxi 9 []) (.block 2 (.loop [12] (.seq (.region Qxj 9 []) (.seq (.cond (.t 101) (.skip) (.exit 2)) (.seq (.block 3 (.seq (.region Qxk 9 []) (.seq (.seq (.region Qxl 0 []) (.cond (.t 141) (.seq (.region Qxm 9 []) (.ret)) (.skip))) (.region Qxn 0 [⟨152,1,164,1⟩,⟨158,1,164,1⟩,⟨158,1,165,1⟩,⟨160,1,164,1⟩,⟨162,1,164,1⟩,⟨162,1,165,1⟩])))) (.region Qxo 9 []))))))) (.seq (.region Qxp 9 []) (.ret))))))))⟩
def Qcn (fuel:Nat) (t1:Qd) (c8:Qv):Option (Qj×Bool×Qd) :=
  (((if ((IntKind.wrap .i64 ((c8.Kept.length:Int) + (c8.zG.length:Int))) != (t1.left_.length:Int)) then some true else some ((c8.zF.length:Int) != (c8.Kept.length:Int)))).bind fun (x12:Bool)=>(if x12 then some ((Qj.mk t1 [] [] []),false,t1) else ((mkO (t1.left_.length:Int) 0).bind fun x14=>((mkO (t1.left_.length:Int) 0).bind fun x16=>((mkO (t1.left_.length:Int) 0).bind fun x18=>((mkO (t1.left_.length:Int) false).bind fun x20=>Qdz (fun k26 ((x22,c23,c24,c25):Int×(List Int)×(List Bool)×(List Bool))=>(if (x22 < (c8.Kept.length:Int)) then ((getO c8.Kept x22).bind fun x28=>(((if (x28 < 0) then some true else (if (x28≥(t1.left_.length:Int)) then some true else (if (x22 > 0) then ((getO c8.Kept (IntKind.wrap .i64 (x22 - 1))).bind fun x33=>some (decide (x28≤x33))) else some false)))).bind fun (x35:Bool)=>(if x35 then some ((Qj.mk (Qd.mk t1.zN t1.from_ c25) [] [] []),false,(Qd.mk t1.zN t1.from_ c25)) else ((getO c8.zF x22).bind fun x37=>((inO (Int.toNat (t1.left_.length:Int)) x28).bind fun u39=>((setO c24 x28 true).bind fun x41=>((inO t1.left_.length x28).bind fun u43=>((setO c25 x28 true).bind fun c45=>((inO (Int.toNat (t1.left_.length:Int)) x28).bind fun u47=>((setO c23 x28 x37).bind fun x49=>k26 ((IntKind.wrap .i64 (x22 + 1)),x49,x41,c45))))))))))) else Qdz (fun k55 ((x51,c52,c53,c54):Int×(List Int)×(List Int)×(List Bool))=>(if (x51 < (c8.zG.length:Int)) then ((getO c8.zG x51).bind fun x57=>(((if (x57.State < 0) then some true else (if (x57.State≥(t1.left_.length:Int)) then some true else ((inO (Int.toNat (t1.left_.length:Int)) x57.State).bind fun u61=>((getO c24 x57.State).bind fun x63=>(if x63 then some true else (if (x51 > 0) then ((getO c8.zG (IntKind.wrap .i64 (x51 - 1))).bind fun x67=>(if (x57.State≤x67.State) then some true else some (decide (x57.Rank < 1)))) else some (decide (x57.Rank < 1))))))))).bind fun (x70:Bool)=>(if x70 then some ((Qj.mk (Qd.mk t1.zN t1.from_ c54) [] [] []),false,(Qd.mk t1.zN t1.from_ c54)) else ((inO t1.left_.length x57.State).bind fun u72=>((setO c54 x57.State false).bind fun c74=>((inO (Int.toNat (t1.left_.length:Int)) x57.State).bind fun u76=>((setO c52 x57.State x57.Rank).bind fun x78=>((inO (Int.toNat (t1.left_.length:Int)) x57.State).bind fun u80=>((setO c53 x57.State x57.Reason).bind fun x82=>k55 ((IntKind.wrap .i64 (x51 + 1)),x78,x82,c74)))))))))) else (lenO c52 (Int.toNat (t1.left_.length:Int))).bind fun _=>(lenO c23 (Int.toNat (t1.left_.length:Int))).bind fun _=>(lenO c53 (Int.toNat (t1.left_.length:Int))).bind fun _=>some ((Qj.mk (Qd.mk t1.zN t1.from_ c54) c52 c23 c53),true,(Qd.mk t1.zN t1.from_ c54)))) fuel (0,x14,x18,c25))) fuel (0,x16,x20,t1.left_)))))))
def Qeu (P:Program) (c:Nat) (f:Qe→Qj→Int→Option Bool):Prop:=∀ x1 x2 x19 (k3:Nat) (k5:Nat) (k7:Nat) (k15:Nat) (k17:Nat) (k8:Nat) (k10:Nat) (k12:Nat) (k20:Nat) r,f x1 x2 x19 = some r→∀ M nb,(M k3 = some (.cells [.ptr k5 0]))→(M k5 = some (.cells [.ptr k7 0,.sl 1 k8 0 x2.ranks_.length x2.ranks_.length,.sl 1 k10 0 x2.distances_.length x2.distances_.length,.sl 1 k12 0 x2.reasons_.length x2.reasons_.length]))→(M k7 = some (.cells [(l_ x2.task_.zN.zA.zJ),(i_ x2.task_.zN.zA.zM),(l_ x2.task_.zN.zA.zK),.d (.lst 3 (List.map Qb x2.task_.zN.zA.zL)),(l_ x2.task_.zN.zC),(l_ x2.task_.zN.zB),(l_ x2.task_.zN.zD),(i_ x2.task_.zN.Tick),.sl 1 k15 0 x2.task_.from_.length x2.task_.from_.length,.sl 1 k17 0 x2.task_.left_.length x2.task_.left_.length]))→(M k15 = some (.cells (Qz (fun (x:List Qe)=>[V.d (.lst 3 (List.map Qb x))]) x2.task_.from_)))→(M k17 = some (.cells (Qz (fun (x:Bool)=>[V.d (.bool x)]) x2.task_.left_)))→(M k8 = some (.cells (Qz (fun (x:Int)=>[V.d (.int .i64 x)]) x2.ranks_)))→(M k10 = some (.cells (Qz (fun (x:Int)=>[V.d (.int .i64 x)]) x2.distances_)))→(M k12 = some (.cells (Qz (fun (x:Int)=>[V.d (.int .i64 x)]) x2.reasons_)))→(M k20 = some (.cells [(i_ x19)]))→ACalls P c [(Qbv x1),.ptr k3 0,.ptr k20 0] M nb (b_ r) M nb
def Qmj:List COp:=[oo 3 (.box 3) [.t 0],oo 4 .mov [.c (.d (.bool false))]]
def Qmk:List COp:=[oL 5 1,oo 6 .nilchk [.t 5],oF 7 0 6,oL 8 7,oo 9 .nilchk [.t 8],oF 10 9 9,oL 11 10,oF 12 2 3,oL 13 12,oo 14 (.idx 1) [.t 11,.t 13],oL 15 14,oM 16 15,⟨some 17,.load false 1,[.t 1],false,some (16,true)⟩,⟨some 18,.nilchk,[.t 17],false,some (16,true)⟩,⟨some 19,.fld 2,[.t 18],false,some (16,true)⟩,⟨some 20,.load false 1,[.t 19],false,some (16,true)⟩,⟨some 21,.fld 2,[.t 3],false,some (16,true)⟩,⟨some 22,.load false 1,[.t 21],false,some (16,true)⟩,⟨some 23,.idx 1,[.t 20,.t 22],false,some (16,true)⟩,⟨some 24,.load false 1,[.t 23],false,some (16,true)⟩,⟨some 25,.load false 1,[.t 2],false,some (16,true)⟩,⟨some 26,.bin .lss false,[.t 24,.t 25],false,some (16,true)⟩,oo 27 .pick [.t 16,.t 26,.c (.d (.bool false))],oM 4 27]
def Qev:CFn:=⟨3,28,[.t 4],.seq (.region Qmj 9 []) (.seq (.region Qmk 0 []) (.ret))⟩
def Qbh (x1:Qe) (x2:Qj) (x19:Int):Option Bool :=
  ((inO x2.task_.left_.length x1.To).bind fun u22=>((getO x2.task_.left_ x1.To).bind fun x24=>(if x24 then ((inO x2.distances_.length x1.To).bind fun u27=>((getO x2.distances_ x1.To).bind fun x29=>some (decide (x29 < x19)))) else some false)))
def Qfi (P:Program) (c:Nat) (f:Qj→Int→Option Bool):Prop:=∀ p1 i16 (k2:Nat) (k4:Nat) (k12:Nat) (k14:Nat) (k5:Nat) (k7:Nat) (k9:Nat) r,f p1 i16 = some r→∀ M nb,(M k2 = some (.cells [.ptr k4 0,.sl 1 k5 0 p1.ranks_.length p1.ranks_.length,.sl 1 k7 0 p1.distances_.length p1.distances_.length,.sl 1 k9 0 p1.reasons_.length p1.reasons_.length]))→(M k4 = some (.cells [(l_ p1.task_.zN.zA.zJ),(i_ p1.task_.zN.zA.zM),(l_ p1.task_.zN.zA.zK),.d (.lst 3 (List.map Qb p1.task_.zN.zA.zL)),(l_ p1.task_.zN.zC),(l_ p1.task_.zN.zB),(l_ p1.task_.zN.zD),(i_ p1.task_.zN.Tick),.sl 1 k12 0 p1.task_.from_.length p1.task_.from_.length,.sl 1 k14 0 p1.task_.left_.length p1.task_.left_.length]))→(M k12 = some (.cells (Qz (fun (x:List Qe)=>[V.d (.lst 3 (List.map Qb x))]) p1.task_.from_)))→(M k14 = some (.cells (Qz (fun (x:Bool)=>[V.d (.bool x)]) p1.task_.left_)))→(M k5 = some (.cells (Qz (fun (x:Int)=>[V.d (.int .i64 x)]) p1.ranks_)))→(M k7 = some (.cells (Qz (fun (x:Int)=>[V.d (.int .i64 x)]) p1.distances_)))→(M k9 = some (.cells (Qz (fun (x:Int)=>[V.d (.int .i64 x)]) p1.reasons_)))→ACalls P c [.ptr k2 0,(i_ i16)] M nb (b_ r) M nb
def Qo3:List COp:=[oo 2 (.box 1) [.t 0],oo 4 .mov [.c (.d (.bool false))]]
def Qo4:List COp:=[oL 9 2,oo 10 .nilchk [.t 9],oF 11 0 10,oL 12 11,oM 13 1,oo 14 (.call 53) [.t 12,.t 13],oM 8 14,oo 15 (.extract 0) [.t 8],oo 16 (.extract 1) [.t 8],oM 5 15,oM 6 16]
def Qo5:List COp:=[oM 17 5,oo 18 (.bin .neq false) [.t 17,cI 0],oM 19 18,⟨some 20,.load false 1,[.t 2],false,some (19,false)⟩,⟨some 21,.nilchk,[.t 20],false,some (19,false)⟩,⟨some 22,.fld 0,[.t 21],false,some (19,false)⟩,⟨some 23,.load false 1,[.t 22],false,some (19,false)⟩,⟨some 24,.nilchk,[.t 23],false,some (19,false)⟩,⟨some 25,.fld 0,[.t 24],false,some (19,false)⟩,⟨some 26,.fld 4,[.t 25],false,some (19,false)⟩,⟨some 27,.load false 1,[.t 26],false,some (19,false)⟩,⟨some 28,.mov,[.t 1],false,some (19,false)⟩,⟨some 29,.call 50,[.t 27,.t 28],false,some (19,false)⟩,oo 30 .pick [.t 19,.c (.d (.bool true)),.t 29]]
def Qo6:List COp:=[oo 4 .mov [.c (.d (.bool false))]]
def Qo7:List COp:=[oL 31 2,oo 32 .nilchk [.t 31],oF 33 2 32,oL 34 33,oM 35 1,oo 36 (.idx 1) [.t 34,.t 35],oL 37 36,oo 7 (.alloc [.d (.int .i64 0)]) [],⟨none,.store 1,[.t 7,.t 37],false,none⟩]
def Qo8:List COp:=[oL 38 7,oo 39 (.bin .eql false) [.t 38,cI 0]]
def Qo9:List COp:=[oL 40 2,oo 41 .nilchk [.t 40],oF 42 0 41,oL 43 42,oo 44 .nilchk [.t 43],oF 45 0 44,oF 46 0 45,oF 47 2 46,oL 48 47,oM 49 1,oo 50 (.call 50) [.t 48,.t 49],oM 4 50]
def Qpa:List COp:=[oL 51 7,oo 52 (.bin .gtr false) [.t 51,cI 0],oM 53 52,⟨some 54,.load false 1,[.t 2],false,some (53,true)⟩,⟨some 55,.nilchk,[.t 54],false,some (53,true)⟩,⟨some 56,.fld 0,[.t 55],false,some (53,true)⟩,⟨some 57,.load false 1,[.t 56],false,some (53,true)⟩,⟨some 58,.nilchk,[.t 57],false,some (53,true)⟩,⟨some 59,.fld 8,[.t 58],false,some (53,true)⟩,⟨some 60,.load false 1,[.t 59],false,some (53,true)⟩,⟨some 61,.mov,[.t 1],false,some (53,true)⟩,⟨some 62,.idx 1,[.t 60,.t 61],false,some (53,true)⟩,⟨some 63,.load false 1,[.t 62],false,some (53,true)⟩,⟨some 64,.func 79,[.t 2,.t 7],false,some (53,true)⟩,⟨some 65,.call 40,[.t 63,.t 64],false,some (53,true)⟩,oo 66 .pick [.t 53,.t 65,.c (.d (.bool false))],oM 4 66]
def Qfj:CFn:=⟨2,67,[.t 4],.seq (.region Qo3 9 []) (.seq (.seq (.region Qo4 9 []) (.seq (.region Qo5 9 []) (.cond (.t 30) (.seq (.region Qo6 9 []) (.ret)) (.skip)))) (.seq (.region Qo7 9 []) (.seq (.seq (.region Qo8 9 []) (.cond (.t 39) (.seq (.region Qo9 9 []) (.ret)) (.skip))) (.seq (.region Qpa 9 []) (.ret)))))⟩
def Qbp (Ql:(List Qe)→(Qe→Option Bool)→Option Bool) (Qh:(List Int)→Int→Option Bool) (Qs:Qd→Int→Option (Int×Int)) (Qbh:Qe→Qj→Int→Option Bool) (p1:Qj) (i16:Int):Option Bool :=
  ((Qs p1.task_ i16).bind fun (r18,r19)=>(((if (r18 != 0) then some true else ((Qh p1.task_.zN.zC i16).bind fun x22=>some x22))).bind fun (x23:Bool)=>(if x23 then some false else ((inO p1.distances_.length i16).bind fun u25=>((getO p1.distances_ i16).bind fun x27=>(if (x27 == 0) then ((Qh p1.task_.zN.zA.zK i16).bind fun x31=>some x31) else (if (x27 > 0) then ((inO p1.task_.from_.length i16).bind fun u33=>((getO p1.task_.from_ i16).bind fun x35=>((Ql x35 (fun a37=>Qbh a37 p1 x27)).bind fun x41=>some x41))) else some false)))))))
def Qgn (P:Program) (c:Nat) (f:Int→Qj→Option Bool):Prop:=∀ i1 x2 (k3:Nat) (k5:Nat) (k7:Nat) (k15:Nat) (k17:Nat) (k8:Nat) (k10:Nat) (k12:Nat) r,f i1 x2 = some r→∀ M nb,(M k3 = some (.cells [.ptr k5 0]))→(M k5 = some (.cells [.ptr k7 0,.sl 1 k8 0 x2.ranks_.length x2.ranks_.length,.sl 1 k10 0 x2.distances_.length x2.distances_.length,.sl 1 k12 0 x2.reasons_.length x2.reasons_.length]))→(M k7 = some (.cells [(l_ x2.task_.zN.zA.zJ),(i_ x2.task_.zN.zA.zM),(l_ x2.task_.zN.zA.zK),.d (.lst 3 (List.map Qb x2.task_.zN.zA.zL)),(l_ x2.task_.zN.zC),(l_ x2.task_.zN.zB),(l_ x2.task_.zN.zD),(i_ x2.task_.zN.Tick),.sl 1 k15 0 x2.task_.from_.length x2.task_.from_.length,.sl 1 k17 0 x2.task_.left_.length x2.task_.left_.length]))→(M k15 = some (.cells (Qz (fun (x:List Qe)=>[V.d (.lst 3 (List.map Qb x))]) x2.task_.from_)))→(M k17 = some (.cells (Qz (fun (x:Bool)=>[V.d (.bool x)]) x2.task_.left_)))→(M k8 = some (.cells (Qz (fun (x:Int)=>[V.d (.int .i64 x)]) x2.ranks_)))→(M k10 = some (.cells (Qz (fun (x:Int)=>[V.d (.int .i64 x)]) x2.distances_)))→(M k12 = some (.cells (Qz (fun (x:Int)=>[V.d (.int .i64 x)]) x2.reasons_)))→ACalls P c [(i_ i1),.ptr k3 0] M nb (b_ r) M nb
def Qsu:List COp:=[oo 3 .mov [.c (.d (.bool false))]]
def Qsv:List COp:=[oL 4 1,oM 5 0,oo 6 (.call 58) [.t 4,.t 5],oo 7 (.un .not) [.t 6],oM 3 7]
def Qgo:CFn:=⟨2,8,[.t 3],.seq (.region Qsu 9 []) (.seq (.region Qsv 9 []) (.ret))⟩
def Qb2 (Qbp:Qj→Int→Option Bool) (i1:Int) (x2:Qj):Option Bool :=
  ((Qbp x2 i1).bind fun x20=>some (!x20))
def Qdd (P:Program) (c:Nat) (f:Qj→Int→Int→Option Bool):Prop:=∀ p1 state16 rank17 (k2:Nat) (k4:Nat) (k12:Nat) (k14:Nat) (k5:Nat) (k7:Nat) (k9:Nat) r,f p1 state16 rank17 = some r→∀ M nb,(M k2 = some (.cells [.ptr k4 0,.sl 1 k5 0 p1.ranks_.length p1.ranks_.length,.sl 1 k7 0 p1.distances_.length p1.distances_.length,.sl 1 k9 0 p1.reasons_.length p1.reasons_.length]))→(M k4 = some (.cells [(l_ p1.task_.zN.zA.zJ),(i_ p1.task_.zN.zA.zM),(l_ p1.task_.zN.zA.zK),.d (.lst 3 (List.map Qb p1.task_.zN.zA.zL)),(l_ p1.task_.zN.zC),(l_ p1.task_.zN.zB),(l_ p1.task_.zN.zD),(i_ p1.task_.zN.Tick),.sl 1 k12 0 p1.task_.from_.length p1.task_.from_.length,.sl 1 k14 0 p1.task_.left_.length p1.task_.left_.length]))→(M k12 = some (.cells (Qz (fun (x:List Qe)=>[V.d (.lst 3 (List.map Qb x))]) p1.task_.from_)))→(M k14 = some (.cells (Qz (fun (x:Bool)=>[V.d (.bool x)]) p1.task_.left_)))→(M k5 = some (.cells (Qz (fun (x:Int)=>[V.d (.int .i64 x)]) p1.ranks_)))→(M k7 = some (.cells (Qz (fun (x:Int)=>[V.d (.int .i64 x)]) p1.distances_)))→(M k9 = some (.cells (Qz (fun (x:Int)=>[V.d (.int .i64 x)]) p1.reasons_)))→ACalls P c [.ptr k2 0,(i_ state16),(i_ rank17)] M nb (b_ r) M nb
def Qpb:List COp:=[oo 6 .mov [.c (.d (.bool false))]]
def Qpc:List COp:=[oM 7 0,oo 8 .nilchk [.t 7],oF 9 0 8,oL 10 9,oo 11 .nilchk [.t 10],oF 12 9 11,oL 13 12,oM 14 1,oo 15 (.idx 1) [.t 13,.t 14],oL 16 15,oo 17 (.un .not) [.t 16],oM 18 17,⟨some 19,.mov,[.t 0],false,some (18,true)⟩,⟨some 20,.nilchk,[.t 19],false,some (18,true)⟩,⟨some 21,.fld 1,[.t 20],false,some (18,true)⟩,⟨some 22,.load false 1,[.t 21],false,some (18,true)⟩,⟨some 23,.mov,[.t 1],false,some (18,true)⟩,⟨some 24,.idx 1,[.t 22,.t 23],false,some (18,true)⟩,⟨some 25,.load false 1,[.t 24],false,some (18,true)⟩,⟨some 26,.mov,[.t 2],false,some (18,true)⟩,⟨some 27,.bin .lss false,[.t 25,.t 26],false,some (18,true)⟩,oo 28 .pick [.t 18,.t 27,.c (.d (.bool false))],oM 6 28]
def Qfk:CFn:=⟨3,29,[.t 6],.seq (.region Qpb 9 []) (.seq (.region Qpc 9 []) (.ret))⟩
def Qt (p1:Qj) (state16:Int) (rank17:Int):Option Bool :=
  ((inO p1.task_.left_.length state16).bind fun u18=>((getO p1.task_.left_ state16).bind fun x20=>(if x20 then some false else ((inO p1.ranks_.length state16).bind fun u23=>((getO p1.ranks_ state16).bind fun x25=>some (decide (x25 < rank17)))))))
def Qea (P:Program) (c:Nat) (f:Qe→Qc→Qj→Option Bool):Prop:=∀ x1 x2 x5 (k3:Nat) (k6:Nat) (k8:Nat) (k10:Nat) (k18:Nat) (k20:Nat) (k11:Nat) (k13:Nat) (k15:Nat) r,f x1 x2 x5 = some r→∀ M nb,(M k3 = some (.cells (Qcu x2)))→(M k6 = some (.cells [.ptr k8 0]))→(M k8 = some (.cells [.ptr k10 0,.sl 1 k11 0 x5.ranks_.length x5.ranks_.length,.sl 1 k13 0 x5.distances_.length x5.distances_.length,.sl 1 k15 0 x5.reasons_.length x5.reasons_.length]))→(M k10 = some (.cells [(l_ x5.task_.zN.zA.zJ),(i_ x5.task_.zN.zA.zM),(l_ x5.task_.zN.zA.zK),.d (.lst 3 (List.map Qb x5.task_.zN.zA.zL)),(l_ x5.task_.zN.zC),(l_ x5.task_.zN.zB),(l_ x5.task_.zN.zD),(i_ x5.task_.zN.Tick),.sl 1 k18 0 x5.task_.from_.length x5.task_.from_.length,.sl 1 k20 0 x5.task_.left_.length x5.task_.left_.length]))→(M k18 = some (.cells (Qz (fun (x:List Qe)=>[V.d (.lst 3 (List.map Qb x))]) x5.task_.from_)))→(M k20 = some (.cells (Qz (fun (x:Bool)=>[V.d (.bool x)]) x5.task_.left_)))→(M k11 = some (.cells (Qz (fun (x:Int)=>[V.d (.int .i64 x)]) x5.ranks_)))→(M k13 = some (.cells (Qz (fun (x:Int)=>[V.d (.int .i64 x)]) x5.distances_)))→(M k15 = some (.cells (Qz (fun (x:Int)=>[V.d (.int .i64 x)]) x5.reasons_)))→ACalls P c [(Qbv x1),.ptr k3 0,.ptr k6 0] M nb (b_ r) M nb
def Qk9:List COp:=[oo 3 (.box 3) [.t 0],oo 4 .mov [.c (.d (.bool false))]]
def Qla:List COp:=[oF 5 1 3,oL 6 5,oF 7 3 1,oL 8 7,oo 9 (.bin .eql false) [.t 6,.t 8],oM 10 9,⟨some 11,.load false 1,[.t 2],false,some (10,true)⟩,⟨some 12,.fld 2,[.t 3],false,some (10,true)⟩,⟨some 13,.load false 1,[.t 12],false,some (10,true)⟩,⟨some 14,.fld 1,[.t 1],false,some (10,true)⟩,⟨some 15,.load false 1,[.t 14],false,some (10,true)⟩,⟨some 16,.call 82,[.t 11,.t 13,.t 15],false,some (10,true)⟩,oo 17 .pick [.t 10,.t 16,.c (.d (.bool false))],oM 4 17]
def Qeb:CFn:=⟨3,18,[.t 4],.seq (.region Qk9 9 []) (.seq (.region Qla 9 []) (.ret))⟩
def Q5 (Qt:Qj→Int→Int→Option Bool) (x1:Qe) (x2:Qc) (x5:Qj):Option Bool :=
  (if (x1.Event == x2.Event) then ((Qt x5 x1.To x2.Rank).bind fun x24=>some x24) else some false)
def Qec (P:Program) (c:Nat) (f:Qe→Qj→Qc→Option Bool):Prop:=∀ x1 x2 x19 (k3:Nat) (k5:Nat) (k7:Nat) (k15:Nat) (k17:Nat) (k8:Nat) (k10:Nat) (k12:Nat) (k20:Nat) r,f x1 x2 x19 = some r→∀ M nb,(M k3 = some (.cells [.ptr k5 0]))→(M k5 = some (.cells [.ptr k7 0,.sl 1 k8 0 x2.ranks_.length x2.ranks_.length,.sl 1 k10 0 x2.distances_.length x2.distances_.length,.sl 1 k12 0 x2.reasons_.length x2.reasons_.length]))→(M k7 = some (.cells [(l_ x2.task_.zN.zA.zJ),(i_ x2.task_.zN.zA.zM),(l_ x2.task_.zN.zA.zK),.d (.lst 3 (List.map Qb x2.task_.zN.zA.zL)),(l_ x2.task_.zN.zC),(l_ x2.task_.zN.zB),(l_ x2.task_.zN.zD),(i_ x2.task_.zN.Tick),.sl 1 k15 0 x2.task_.from_.length x2.task_.from_.length,.sl 1 k17 0 x2.task_.left_.length x2.task_.left_.length]))→(M k15 = some (.cells (Qz (fun (x:List Qe)=>[V.d (.lst 3 (List.map Qb x))]) x2.task_.from_)))→(M k17 = some (.cells (Qz (fun (x:Bool)=>[V.d (.bool x)]) x2.task_.left_)))→(M k8 = some (.cells (Qz (fun (x:Int)=>[V.d (.int .i64 x)]) x2.ranks_)))→(M k10 = some (.cells (Qz (fun (x:Int)=>[V.d (.int .i64 x)]) x2.distances_)))→(M k12 = some (.cells (Qz (fun (x:Int)=>[V.d (.int .i64 x)]) x2.reasons_)))→(M k20 = some (.cells (Qcu x19)))→ACalls P c [(Qbv x1),.ptr k3 0,.ptr k20 0] M nb (b_ r) M nb
def Qlb:List COp:=[oo 3 (.box 3) [.t 0],oo 4 .mov [.c (.d (.bool false))]]
def Qlc:List COp:=[oL 5 1,oo 6 .nilchk [.t 5],oF 7 0 6,oL 8 7,oo 9 .nilchk [.t 8],oF 10 0 9,oF 11 6 10,oL 12 11,oF 13 1 3,oL 14 13,oo 15 (.call 50) [.t 12,.t 14],oM 16 15,⟨some 17,.load false 1,[.t 1],false,some (16,true)⟩,⟨some 18,.fld 2,[.t 3],false,some (16,true)⟩,⟨some 19,.load false 1,[.t 18],false,some (16,true)⟩,⟨some 20,.fld 1,[.t 2],false,some (16,true)⟩,⟨some 21,.load false 1,[.t 20],false,some (16,true)⟩,⟨some 22,.call 82,[.t 17,.t 19,.t 21],false,some (16,true)⟩,⟨some 23,.un .not,[.t 22],false,some (16,true)⟩,oo 24 .pick [.t 16,.t 23,.c (.d (.bool false))],oM 4 24]
def Qed:CFn:=⟨3,25,[.t 4],.seq (.region Qlb 9 []) (.seq (.region Qlc 0 []) (.ret))⟩
def Qba (Qh:(List Int)→Int→Option Bool) (Qt:Qj→Int→Int→Option Bool) (x1:Qe) (x2:Qj) (x19:Qc):Option Bool :=
  ((Qh x2.task_.zN.zD x1.Event).bind fun x23=>(if x23 then ((Qt x2 x1.To x19.Rank).bind fun x26=>some (!x26)) else some false))
def Qee (P:Program) (c:Nat) (f:Qe→Qj→Qc→Option Bool):Prop:=∀ x1 x2 x19 (k3:Nat) (k5:Nat) (k7:Nat) (k15:Nat) (k17:Nat) (k8:Nat) (k10:Nat) (k12:Nat) (k20:Nat) r,f x1 x2 x19 = some r→∀ M nb,(M k3 = some (.cells [.ptr k5 0]))→(M k5 = some (.cells [.ptr k7 0,.sl 1 k8 0 x2.ranks_.length x2.ranks_.length,.sl 1 k10 0 x2.distances_.length x2.distances_.length,.sl 1 k12 0 x2.reasons_.length x2.reasons_.length]))→(M k7 = some (.cells [(l_ x2.task_.zN.zA.zJ),(i_ x2.task_.zN.zA.zM),(l_ x2.task_.zN.zA.zK),.d (.lst 3 (List.map Qb x2.task_.zN.zA.zL)),(l_ x2.task_.zN.zC),(l_ x2.task_.zN.zB),(l_ x2.task_.zN.zD),(i_ x2.task_.zN.Tick),.sl 1 k15 0 x2.task_.from_.length x2.task_.from_.length,.sl 1 k17 0 x2.task_.left_.length x2.task_.left_.length]))→(M k15 = some (.cells (Qz (fun (x:List Qe)=>[V.d (.lst 3 (List.map Qb x))]) x2.task_.from_)))→(M k17 = some (.cells (Qz (fun (x:Bool)=>[V.d (.bool x)]) x2.task_.left_)))→(M k8 = some (.cells (Qz (fun (x:Int)=>[V.d (.int .i64 x)]) x2.ranks_)))→(M k10 = some (.cells (Qz (fun (x:Int)=>[V.d (.int .i64 x)]) x2.distances_)))→(M k12 = some (.cells (Qz (fun (x:Int)=>[V.d (.int .i64 x)]) x2.reasons_)))→(M k20 = some (.cells (Qcu x19)))→ACalls P c [(Qbv x1),.ptr k3 0,.ptr k20 0] M nb (b_ r) M nb
def Qld:List COp:=[oo 3 (.box 3) [.t 0],oo 4 .mov [.c (.d (.bool false))]]
def Qle:List COp:=[oL 6 1,oo 7 .nilchk [.t 6],oF 8 0 7,oL 9 8,oo 10 .nilchk [.t 9],oF 11 9 10,oL 12 11,oF 13 2 3,oL 14 13,oo 15 (.idx 1) [.t 12,.t 14],oL 16 15,oo 17 (.un .not) [.t 16],oM 18 17,⟨some 19,.load false 1,[.t 1],false,some (18,true)⟩,⟨some 20,.nilchk,[.t 19],false,some (18,true)⟩,⟨some 21,.fld 3,[.t 20],false,some (18,true)⟩,⟨some 22,.load false 1,[.t 21],false,some (18,true)⟩,⟨some 23,.fld 2,[.t 3],false,some (18,true)⟩,⟨some 24,.load false 1,[.t 23],false,some (18,true)⟩,⟨some 25,.idx 1,[.t 22,.t 24],false,some (18,true)⟩,⟨some 26,.load false 1,[.t 25],false,some (18,true)⟩,⟨some 27,.bin .eql false,[.t 26,cI 3],false,some (18,true)⟩,oo 28 .pick [.t 18,.t 27,.c (.d (.bool false))],oM 29 28,⟨some 30,.load false 1,[.t 1],false,some (29,true)⟩,⟨some 31,.nilchk,[.t 30],false,some (29,true)⟩,⟨some 32,.fld 1,[.t 31],false,some (29,true)⟩,⟨some 33,.load false 1,[.t 32],false,some (29,true)⟩,⟨some 34,.fld 2,[.t 3],false,some (29,true)⟩,⟨some 35,.load false 1,[.t 34],false,some (29,true)⟩,⟨some 36,.idx 1,[.t 33,.t 35],false,some (29,true)⟩,⟨some 37,.load false 1,[.t 36],false,some (29,true)⟩,⟨some 38,.fld 1,[.t 2],false,some (29,true)⟩,⟨some 39,.load false 1,[.t 38],false,some (29,true)⟩,⟨some 40,.bin .eql false,[.t 37,.t 39],false,some (29,true)⟩,oo 41 .pick [.t 29,.t 40,.c (.d (.bool false))],oM 5 41]
def Qlf:List COp:=[oM 42 5,oo 43 (.un .not) [.t 42],oM 44 43,⟨some 45,.load false 1,[.t 1],false,some (44,true)⟩,⟨some 46,.fld 2,[.t 3],false,some (44,true)⟩,⟨some 47,.load false 1,[.t 46],false,some (44,true)⟩,⟨some 48,.fld 1,[.t 2],false,some (44,true)⟩,⟨some 49,.load false 1,[.t 48],false,some (44,true)⟩,⟨some 50,.call 82,[.t 45,.t 47,.t 49],false,some (44,true)⟩,⟨some 51,.un .not,[.t 50],false,some (44,true)⟩,oo 52 .pick [.t 44,.t 51,.c (.d (.bool false))],oM 4 52]
def Qef:CFn:=⟨3,53,[.t 4],.seq (.region Qld 9 []) (.seq (.region Qle 0 []) (.seq (.region Qlf 9 []) (.ret)))⟩
def Qbb (Qt:Qj→Int→Int→Option Bool) (x1:Qe) (x2:Qj) (x19:Qc):Option Bool :=
  ((((inO x2.task_.left_.length x1.To).bind fun u22=>((getO x2.task_.left_ x1.To).bind fun x24=>(if x24 then some false else ((inO x2.reasons_.length x1.To).bind fun u27=>((getO x2.reasons_ x1.To).bind fun x29=>(if (x29 == 3) then ((inO x2.ranks_.length x1.To).bind fun u32=>((getO x2.ranks_ x1.To).bind fun x34=>some (x34 == x19.Rank))) else some false))))))).bind fun (same36:Bool)=>(if same36 then some false else ((Qt x2 x1.To x19.Rank).bind fun x39=>some (!x39))))
def Qew (P:Program) (c:Nat) (f:Qj→Qc→Option Bool):Prop:=∀ p1 r16 (k2:Nat) (k4:Nat) (k12:Nat) (k14:Nat) (k5:Nat) (k7:Nat) (k9:Nat) r,f p1 r16 = some r→∀ M nb,(M k2 = some (.cells [.ptr k4 0,.sl 1 k5 0 p1.ranks_.length p1.ranks_.length,.sl 1 k7 0 p1.distances_.length p1.distances_.length,.sl 1 k9 0 p1.reasons_.length p1.reasons_.length]))→(M k4 = some (.cells [(l_ p1.task_.zN.zA.zJ),(i_ p1.task_.zN.zA.zM),(l_ p1.task_.zN.zA.zK),.d (.lst 3 (List.map Qb p1.task_.zN.zA.zL)),(l_ p1.task_.zN.zC),(l_ p1.task_.zN.zB),(l_ p1.task_.zN.zD),(i_ p1.task_.zN.Tick),.sl 1 k12 0 p1.task_.from_.length p1.task_.from_.length,.sl 1 k14 0 p1.task_.left_.length p1.task_.left_.length]))→(M k12 = some (.cells (Qz (fun (x:List Qe)=>[V.d (.lst 3 (List.map Qb x))]) p1.task_.from_)))→(M k14 = some (.cells (Qz (fun (x:Bool)=>[V.d (.bool x)]) p1.task_.left_)))→(M k5 = some (.cells (Qz (fun (x:Int)=>[V.d (.int .i64 x)]) p1.ranks_)))→(M k7 = some (.cells (Qz (fun (x:Int)=>[V.d (.int .i64 x)]) p1.distances_)))→(M k9 = some (.cells (Qz (fun (x:Int)=>[V.d (.int .i64 x)]) p1.reasons_)))→ACalls P c [.ptr k2 0,(Qci r16)] M nb (b_ r) M nb
def Qml:List COp:=[oo 2 (.box 1) [.t 0],oo 3 (.box 4) [.t 1],oo 4 .mov [.c (.d (.bool false))]]
def Qmm:List COp:=[oo 7 (.func 81) [.t 3,.t 2],oM 5 7]
def Qmn:List COp:=[oL 8 2,oo 9 .nilchk [.t 8],oF 10 0 9,oL 11 10,oo 12 .nilchk [.t 11],oF 13 8 12,oL 14 13,oF 15 0 3,oL 16 15,oo 17 (.idx 1) [.t 14,.t 16],oL 18 17,ot 6 .mov [.t 18]]
def Qmo:List COp:=[oF 19 2 3,oL 20 19]
def Qmp:List COp:=[oo 22 (.bin .eql false) [.t 20,cI 1],oM 21 22]
def Qmq:List COp:=[oF 23 3 3,oL 24 23,oo 25 (.bin .eql false) [.t 24,cI (-1)],oM 26 25,⟨some 27,.load false 1,[.t 2],false,some (26,true)⟩,⟨some 28,.nilchk,[.t 27],false,some (26,true)⟩,⟨some 29,.fld 0,[.t 28],false,some (26,true)⟩,⟨some 30,.load false 1,[.t 29],false,some (26,true)⟩,⟨some 31,.nilchk,[.t 30],false,some (26,true)⟩,⟨some 32,.fld 0,[.t 31],false,some (26,true)⟩,⟨some 33,.fld 4,[.t 32],false,some (26,true)⟩,⟨some 34,.load false 1,[.t 33],false,some (26,true)⟩,⟨some 35,.fld 0,[.t 3],false,some (26,true)⟩,⟨some 36,.load false 1,[.t 35],false,some (26,true)⟩,⟨some 37,.call 50,[.t 34,.t 36],false,some (26,true)⟩,oo 38 .pick [.t 26,.t 37,.c (.d (.bool false))],oM 4 38]
def Qmr:List COp:=[oo 40 (.bin .eql false) [.t 20,cI 2],oM 39 40]
def Qms:List COp:=[oL 41 2,oo 42 .nilchk [.t 41],oF 43 0 42,oL 44 43,oo 45 .nilchk [.t 44],oF 46 0 45,oF 47 5 46,oL 48 47,oF 49 3 3,oL 50 49,oo 51 (.call 50) [.t 48,.t 50],oM 52 51,⟨some 53,.mov,[.t 6],false,some (52,true)⟩,⟨some 54,.mov,[.t 5],false,some (52,true)⟩,⟨some 55,.call 40,[.t 53,.t 54],false,some (52,true)⟩,oo 56 .pick [.t 52,.t 55,.c (.d (.bool false))],oM 4 56]
def Qmt:List COp:=[oo 58 (.bin .eql false) [.t 20,cI 4],oM 57 58]
def Qmu:List COp:=[oF 59 3 3,oL 60 59,oL 61 2,oo 62 .nilchk [.t 61],oF 63 0 62,oL 64 63,oo 65 .nilchk [.t 64],oF 66 0 65,oF 67 7 66,oL 68 67,oo 69 (.bin .eql false) [.t 60,.t 68],oM 70 69,⟨some 71,.mov,[.t 6],false,some (70,true)⟩,⟨some 72,.mov,[.t 5],false,some (70,true)⟩,⟨some 73,.call 40,[.t 71,.t 72],false,some (70,true)⟩,oo 74 .pick [.t 70,.t 73,.c (.d (.bool false))],oM 75 74,⟨some 76,.mov,[.t 6],false,some (75,true)⟩,⟨some 77,.func 83,[.t 2,.t 3],false,some (75,true)⟩,⟨some 78,.call 40,[.t 76,.t 77],false,some (75,true)⟩,⟨some 79,.un .not,[.t 78],false,some (75,true)⟩,oo 80 .pick [.t 75,.t 79,.c (.d (.bool false))],oM 4 80]
def Ql1:List COp:=[oo 82 (.bin .eql false) [.t 20,cI 3],oM 81 82]
def Ql2:List COp:=[oF 83 3 3,oL 84 83,oo 85 (.bin .eql false) [.t 84,cI (-1)],oM 86 85,⟨some 87,.load false 1,[.t 2],false,some (86,true)⟩,⟨some 88,.nilchk,[.t 87],false,some (86,true)⟩,⟨some 89,.fld 0,[.t 88],false,some (86,true)⟩,⟨some 90,.load false 1,[.t 89],false,some (86,true)⟩,⟨some 91,.nilchk,[.t 90],false,some (86,true)⟩,⟨some 92,.fld 0,[.t 91],false,some (86,true)⟩,⟨some 93,.fld 0,[.t 92],false,some (86,true)⟩,⟨some 94,.fld 2,[.t 93],false,some (86,true)⟩,⟨some 95,.load false 1,[.t 94],false,some (86,true)⟩,⟨some 96,.fld 0,[.t 3],false,some (86,true)⟩,⟨some 97,.load false 1,[.t 96],false,some (86,true)⟩,⟨some 98,.call 50,[.t 95,.t 97],false,some (86,true)⟩,⟨some 99,.un .not,[.t 98],false,some (86,true)⟩,oo 100 .pick [.t 86,.t 99,.c (.d (.bool false))],oM 101 100,⟨some 102,.mov,[.t 6],false,some (101,true)⟩,⟨some 103,.func 84,[.t 2,.t 3],false,some (101,true)⟩,⟨some 104,.call 40,[.t 102,.t 103],false,some (101,true)⟩,⟨some 105,.un .not,[.t 104],false,some (101,true)⟩,oo 106 .pick [.t 101,.t 105,.c (.d (.bool false))],oM 4 106]
def Ql3:List COp:=[oo 4 .mov [.c (.d (.bool false))]]
def Qex:CFn:=⟨2,107,[.t 4],.seq (.region Qml 9 []) (.seq (.region Qmm 9 []) (.seq (.region Qmn 0 []) (.seq (.seq (.region Qmo 9 []) (.block 0 (.seq (.region Qmp 9 []) (.cond (.t 21) (.seq (.region Qmq 0 []) (.ret)) (.seq (.region Qmr 9 []) (.cond (.t 39) (.seq (.region Qms 0 []) (.ret)) (.seq (.region Qmt 9 []) (.cond (.t 57) (.seq (.region Qmu 0 []) (.ret)) (.seq (.region Ql1 9 []) (.cond (.t 81) (.seq (.region Ql2 0 []) (.ret)) (.skip))))))))))) (.seq (.region Ql3 9 []) (.ret)))))⟩
def Qbi (Ql:(List Qe)→(Qe→Option Bool)→Option Bool) (Qh:(List Int)→Int→Option Bool) (Q5:Qe→Qc→Qj→Option Bool) (Qba:Qe→Qj→Qc→Option Bool) (Qbb:Qe→Qj→Qc→Option Bool) (p1:Qj) (r16:Qc):Option Bool :=
  ((inO p1.task_.from_.length r16.State).bind fun u17=>((getO p1.task_.from_ r16.State).bind fun x19=>(if (r16.Reason == 1) then (if (r16.Event == (-1)) then ((Qh p1.task_.zN.zC r16.State).bind fun x24=>some x24) else some false) else (if (r16.Reason == 2) then ((Qh p1.task_.zN.zB r16.Event).bind fun x27=>(if x27 then ((Ql x19 (fun a29=>Q5 a29 r16 p1)).bind fun x33=>some x33) else some false)) else (if (r16.Reason == 4) then (if (r16.Event == p1.task_.zN.Tick) then ((Ql x19 (fun a36=>Q5 a36 r16 p1)).bind fun x40=>(if x40 then ((Ql x19 (fun a42=>Qba a42 p1 r16)).bind fun x46=>some (!x46)) else some false)) else some false) else (if (r16.Reason == 3) then (if (r16.Event == (-1)) then ((Qh p1.task_.zN.zA.zK r16.State).bind fun x50=>(if x50 then some false else ((Ql x19 (fun a52=>Qbb a52 p1 r16)).bind fun x56=>some (!x56)))) else some false) else some false))))))
def Qgp (P:Program) (c:Nat) (f:Qc→Qj→Option Bool):Prop:=∀ r1 x2 (k3:Nat) (k5:Nat) (k7:Nat) (k15:Nat) (k17:Nat) (k8:Nat) (k10:Nat) (k12:Nat) r,f r1 x2 = some r→∀ M nb,(M k3 = some (.cells [.ptr k5 0]))→(M k5 = some (.cells [.ptr k7 0,.sl 1 k8 0 x2.ranks_.length x2.ranks_.length,.sl 1 k10 0 x2.distances_.length x2.distances_.length,.sl 1 k12 0 x2.reasons_.length x2.reasons_.length]))→(M k7 = some (.cells [(l_ x2.task_.zN.zA.zJ),(i_ x2.task_.zN.zA.zM),(l_ x2.task_.zN.zA.zK),.d (.lst 3 (List.map Qb x2.task_.zN.zA.zL)),(l_ x2.task_.zN.zC),(l_ x2.task_.zN.zB),(l_ x2.task_.zN.zD),(i_ x2.task_.zN.Tick),.sl 1 k15 0 x2.task_.from_.length x2.task_.from_.length,.sl 1 k17 0 x2.task_.left_.length x2.task_.left_.length]))→(M k15 = some (.cells (Qz (fun (x:List Qe)=>[V.d (.lst 3 (List.map Qb x))]) x2.task_.from_)))→(M k17 = some (.cells (Qz (fun (x:Bool)=>[V.d (.bool x)]) x2.task_.left_)))→(M k8 = some (.cells (Qz (fun (x:Int)=>[V.d (.int .i64 x)]) x2.ranks_)))→(M k10 = some (.cells (Qz (fun (x:Int)=>[V.d (.int .i64 x)]) x2.distances_)))→(M k12 = some (.cells (Qz (fun (x:Int)=>[V.d (.int .i64 x)]) x2.reasons_)))→ACalls P c [(Qci r1),.ptr k3 0] M nb (b_ r) M nb
def Qsw:List COp:=[oo 2 (.box 4) [.t 0],oo 3 .mov [.c (.d (.bool false))]]
def Qsx:List COp:=[oL 4 1,oo 5 (.load true 4) [.t 2],oo 6 (.call 61) [.t 4,.t 5],oo 7 (.un .not) [.t 6],oM 3 7]
def Qgq:CFn:=⟨2,8,[.t 3],.seq (.region Qsw 9 []) (.seq (.region Qsx 9 []) (.ret))⟩
def Qb3 (Qbi:Qj→Qc→Option Bool) (r1:Qc) (x2:Qj):Option Bool :=
  ((Qbi x2 r1).bind fun x20=>some (!x20))
def Qf6 (P:Program) (c:Nat) (f:(List Qc)→(Qc→Option Bool)→Option Int):Prop:=∀ s1 f2 (g3:Nat) (cp4:List V) r,f s1 f2 = some r→∀ M nb,(V.dems cp4 = cp4)→(V.ons (There M) cp4)→(∀ a8 r,f2 a8 = some r→∀ M2 nb2,nb≤nb2→Ext M M2→ACalls P g3 ([(Qci a8)] ++ cp4) M2 nb2 (b_ r) M2 nb2)→ACalls P c [.d (.lst 4 (List.map Qg s1)),.clo g3 cp4] M nb (i_ r) M nb
def Qq3:List COp:=[oo 4 .mov [cI 0]]
def Qq4:List COp:=[oM 6 0,oo 7 .len [.t 6],oo 8 .mov [cI 0]]
def Qq5:List COp:=[oo 9 (.bin .lss false) [.t 8,.t 7]]
def Qq6:List COp:=[oM 10 8,oM 5 10]
def Qq7:List COp:=[oM 11 1,oM 12 0,oM 13 5,oo 14 (.idx 4) [.t 12,.t 13],oo 15 (.load true 4) [.t 14],oo 16 .callv [.t 11,.t 15]]
def Qq8:List COp:=[oM 17 5,oM 4 17]
def Qq9:List COp:=[oo 18 (.bin .add false) [.t 8,cI 1],oM 8 18]
def Qra:List COp:=[oo 4 .mov [cI (-1)]]
def Qf7:CFn:=⟨2,19,[.t 4],.seq (.region Qq3 9 []) (.seq (.seq (.region Qq4 9 []) (.block 0 (.loop [] (.seq (.region Qq5 9 []) (.seq (.cond (.t 9) (.skip) (.exit 0)) (.seq (.block 1 (.seq (.region Qq6 9 []) (.seq (.region Qq7 9 []) (.cond (.t 16) (.seq (.region Qq8 9 []) (.ret)) (.skip))))) (.region Qq9 9 []))))))) (.seq (.region Qra 9 []) (.ret)))⟩
def Qbw (fuel:Nat) (s1:(List Qc)) (f2:(Qc→Option Bool)):Option Int :=
  Qdz (fun k10 (x9:Int)=>(if (x9 < (s1.length:Int)) then ((getO s1 x9).bind fun x12=>((f2 x12).bind fun x15=>(if x15 then some x9 else k10 (IntKind.wrap .i64 (x9 + 1))))) else some (-1))) fuel 0
def Qe5 (P:Program) (c:Nat) (f:(List Qc)→(Qc→Option Bool)→Option Bool):Prop:=∀ s1 f2 (g3:Nat) (cp4:List V) r,f s1 f2 = some r→∀ M nb,(V.dems cp4 = cp4)→(V.ons (There M) cp4)→(∀ a8 r,f2 a8 = some r→∀ M2 nb2,nb≤nb2→Ext M M2→ACalls P g3 ([(Qci a8)] ++ cp4) M2 nb2 (b_ r) M2 nb2)→ACalls P c [.d (.lst 4 (List.map Qg s1)),.clo g3 cp4] M nb (b_ r) M nb
def Qm9:List COp:=[oo 4 .mov [.c (.d (.bool false))]]
def Qna:List COp:=[oM 5 0,oM 6 1,oo 7 (.call 80) [.t 5,.t 6],oo 8 (.bin .geq false) [.t 7,cI 0],oM 4 8]
def Qe6:CFn:=⟨2,9,[.t 4],.seq (.region Qm9 9 []) (.seq (.region Qna 9 []) (.ret))⟩
def Qbn (Qbw:(List Qc)→(Qc→Option Bool)→Option Int) (s1:(List Qc)) (f2:(Qc→Option Bool)):Option Bool :=
  ((Qbw s1 f2).bind fun x13=>some (decide (x13≥0)))
def Qhd (P:Program) (c:Nat) (f:Qa→Qv→Option Int):Prop:=∀ p1 c2 r,f p1 c2 = some r→∀ M nb,ACalls P c [.agg [(l_ p1.zA.zJ),(i_ p1.zA.zM),(l_ p1.zA.zK),.d (.lst 3 (List.map Qb p1.zA.zL)),(l_ p1.zC),(l_ p1.zB),(l_ p1.zD),(i_ p1.Tick)],(Q7 c2)] M nb (i_ r) M nb
def Qu1:List COp:=[oo 2 (.box 8) [.t 0],oo 3 (.box 3) [.t 1],oo 4 .mov [cI 0]]
def Qu2:List COp:=[oo 8 (.load true 8) [.t 2],oo 9 (.call 30) [.t 8],oM 5 9]
def Qu3:List COp:=[oM 10 5,oo 11 (.bin .neq false) [.t 10,cI 0]]
def Qu4:List COp:=[oM 12 5,oM 4 12]
def Qu5:List COp:=[oo 14 (.load true 8) [.t 2],oo 15 (.call 37) [.t 14],oo 16 (.load true 3) [.t 3],oo 17 (.call 56) [.t 15,.t 16],oM 13 17,oo 18 (.extract 0) [.t 13],oo 19 (.extract 1) [.t 13],oo 6 (.alloc [.nilp]) [],⟨none,.store 1,[.t 6,.t 18],false,none⟩,oM 7 19]
def Qu6:List COp:=[oM 20 7,oo 21 (.un .not) [.t 20],oM 22 21,⟨some 23,.fld 0,[.t 3],false,some (22,false)⟩,⟨some 24,.load false 1,[.t 23],false,some (22,false)⟩,⟨some 25,.func 57,[.t 6],false,some (22,false)⟩,⟨some 26,.call 51,[.t 24,.t 25],false,some (22,false)⟩,oo 27 .pick [.t 22,.c (.d (.bool true)),.t 26],oM 28 27,⟨some 29,.fld 2,[.t 3],false,some (28,false)⟩,⟨some 30,.load false 1,[.t 29],false,some (28,false)⟩,⟨some 31,.func 60,[.t 6],false,some (28,false)⟩,⟨some 32,.call 59,[.t 30,.t 31],false,some (28,false)⟩,oo 33 .pick [.t 28,.c (.d (.bool true)),.t 32]]
def Qu7:List COp:=[oo 4 .mov [cI 24]]
def Qu8:List COp:=[oo 4 .mov [cI 0]]
def Qhe:CFn:=⟨2,34,[.t 4],.seq (.region Qu1 9 []) (.seq (.seq (.region Qu2 9 []) (.seq (.region Qu3 9 []) (.cond (.t 11) (.seq (.region Qu4 9 []) (.ret)) (.skip)))) (.seq (.region Qu5 131082 []) (.seq (.seq (.region Qu6 9 []) (.cond (.t 33) (.seq (.region Qu7 9 []) (.ret)) (.skip))) (.seq (.region Qu8 9 []) (.ret)))))⟩
def Qb4 (Qw:Qa→Option Int) (Q2:Qa→Option Qd) (Q3:(List Int)→(Int→Option Bool)→Option Bool) (Qcn:Qd→Qv→Option (Qj×Bool×Qd)) (Qb2:Int→Qj→Option Bool) (Qbn:(List Qc)→(Qc→Option Bool)→Option Bool) (Qb3:Qc→Qj→Option Bool) (p1:Qa) (c2:Qv):Option Int :=
  ((Qw p1).bind fun x4=>(if (x4 != 0) then some x4 else ((Q2 p1).bind fun x6=>((Qcn x6 c2).bind fun (r8,ok9,c10)=>(if ok9 then ((((lenO c10.left_ x6.left_.length).bind fun _=>((Q3 c2.Kept (fun a13=>Qb2 a13 (Qj.mk (Qd.mk x6.zN x6.from_ c10.left_) r8.ranks_ r8.distances_ r8.reasons_))).bind fun x18=>(if x18 then some true else ((lenO c10.left_ x6.left_.length).bind fun _=>((Qbn c2.zG (fun a20=>Qb3 a20 (Qj.mk (Qd.mk x6.zN x6.from_ c10.left_) r8.ranks_ r8.distances_ r8.reasons_))).bind fun x25=>some x25)))))).bind fun (x26:Bool)=>(if x26 then some 24 else some 0)) else some 24)))))
def Qjb (P:Program) (c:Nat) (f:Qv→Qv→Option Bool):Prop:=∀ a1 b2 r,f a1 b2 = some r→∀ M nb,ACalls P c [(Q7 a1),(Q7 b2)] M nb (b_ r) M nb
def Qz1:List COp:=[oo 2 (.box 3) [.t 0],oo 3 (.box 3) [.t 1],oo 4 .mov [.c (.d (.bool false))]]
def Qz2:List COp:=[oF 6 0 2,oL 7 6,oF 8 0 3,oL 9 8,oo 10 (.call 16) [.t 7,.t 9],oo 11 (.un .not) [.t 10],oM 12 11,⟨some 13,.fld 1,[.t 2],false,some (12,false)⟩,⟨some 14,.load false 1,[.t 13],false,some (12,false)⟩,⟨some 15,.fld 1,[.t 3],false,some (12,false)⟩,⟨some 16,.load false 1,[.t 15],false,some (12,false)⟩,⟨some 17,.call 16,[.t 14,.t 16],false,some (12,false)⟩,⟨some 18,.un .not,[.t 17],false,some (12,false)⟩,oo 19 .pick [.t 12,.c (.d (.bool true)),.t 18],oM 20 19,⟨some 21,.fld 2,[.t 2],false,some (20,false)⟩,⟨some 22,.load false 1,[.t 21],false,some (20,false)⟩,⟨some 23,.len,[.t 22],false,some (20,false)⟩,⟨some 24,.fld 2,[.t 3],false,some (20,false)⟩,⟨some 25,.load false 1,[.t 24],false,some (20,false)⟩,⟨some 26,.len,[.t 25],false,some (20,false)⟩,⟨some 27,.bin .neq false,[.t 23,.t 26],false,some (20,false)⟩,oo 28 .pick [.t 20,.c (.d (.bool true)),.t 27]]
def Qz3:List COp:=[oo 4 .mov [.c (.d (.bool false))]]
def Qz4:List COp:=[oo 5 .mov [cI 0]]
def Qz5:List COp:=[oM 29 5,oF 30 2 2,oL 31 30,oo 32 .len [.t 31],oo 33 (.bin .lss false) [.t 29,.t 32]]
def Qz6:List COp:=[oF 36 2 2,oL 37 36,oM 38 5,oo 39 (.idx 4) [.t 37,.t 38],oo 40 (.load true 4) [.t 39],oF 41 2 3,oL 42 41,oM 43 5,oo 44 (.idx 4) [.t 42,.t 43],oo 45 (.load true 4) [.t 44],oo 46 (.eqa true [0,0,0,0]) [.t 40,.t 45]]
def Qz7:List COp:=[oo 4 .mov [.c (.d (.bool false))]]
def Qz8:List COp:=[oM 34 5,oo 35 (.bin .add false) [.t 34,cI 1],oM 5 35]
def Qz9:List COp:=[oo 4 .mov [.c (.d (.bool true))]]
def Qjc:CFn:=⟨2,47,[.t 4],.seq (.region Qz1 9 []) (.seq (.seq (.region Qz2 9 []) (.cond (.t 28) (.seq (.region Qz3 9 []) (.ret)) (.skip))) (.seq (.seq (.region Qz4 9 []) (.block 0 (.loop [] (.seq (.seq (.region Qz5 9 []) (.cond (.t 33) (.skip) (.exit 0))) (.seq (.block 1 (.seq (.region Qz6 0 []) (.cond (.t 46) (.seq (.region Qz7 9 []) (.ret)) (.skip)))) (.region Qz8 9 [])))))) (.seq (.region Qz9 9 []) (.ret))))⟩
def Qcv (Qdi:(List Int)→(List Int)→Option Bool) (fuel:Nat) (a1:Qv) (b2:Qv):Option Bool :=
  ((((Qdi a1.Kept b2.Kept).bind fun x4=>(if x4 then ((Qdi a1.zF b2.zF).bind fun x7=>(if x7 then some ((a1.zG.length:Int) != (b2.zG.length:Int)) else some true)) else some true))).bind fun (x9:Bool)=>(if x9 then some false else Qdz (fun k12 (i11:Int)=>(if (i11 < (a1.zG.length:Int)) then ((getO a1.zG i11).bind fun x14=>((getO b2.zG i11).bind fun x16=>(if ((x14.State == x16.State) && ((x14.Rank == x16.Rank) && ((x14.Reason == x16.Reason) && ((x14.Event == x16.Event) && true)))) then k12 (IntKind.wrap .i64 (i11 + 1)) else some false))) else some true)) fuel 0))
def Qke (P:Program) (c:Nat) (f:(List Qe)→(List Qe)→Option Bool):Prop:=∀ s1 s2 r,f s1 s2 = some r→∀ M nb,ACalls P c [.d (.lst 3 (List.map Qb s1)),.d (.lst 3 (List.map Qb s2))] M nb (b_ r) M nb
def Q1u:List COp:=[oo 4 .mov [.c (.d (.bool false))]]
def Q1v:List COp:=[oM 6 0,oo 7 .len [.t 6],oM 8 1,oo 9 .len [.t 8],oo 10 (.bin .neq false) [.t 7,.t 9]]
def Q1w:List COp:=[oo 4 .mov [.c (.d (.bool false))]]
def Q1x:List COp:=[oM 11 0,oo 12 .len [.t 11],oo 13 .mov [cI 0]]
def Q1y:List COp:=[oo 14 (.bin .lss false) [.t 13,.t 12]]
def Q1z:List COp:=[oM 15 13,oM 5 15]
def Q10:List COp:=[oM 16 0,oM 17 5,oo 18 (.idx 3) [.t 16,.t 17],oo 19 (.load true 3) [.t 18],oM 20 1,oM 21 5,oo 22 (.idx 3) [.t 20,.t 21],oo 23 (.load true 3) [.t 22],oo 24 (.eqa true [0,0,0]) [.t 19,.t 23]]
def Q11:List COp:=[oo 4 .mov [.c (.d (.bool false))]]
def Q12:List COp:=[oo 25 (.bin .add false) [.t 13,cI 1],oM 13 25]
def Q13:List COp:=[oo 4 .mov [.c (.d (.bool true))]]
def Qkf:CFn:=⟨2,26,[.t 4],.seq (.region Q1u 9 []) (.seq (.seq (.region Q1v 9 []) (.cond (.t 10) (.seq (.region Q1w 9 []) (.ret)) (.skip))) (.seq (.seq (.region Q1x 9 []) (.block 0 (.loop [] (.seq (.region Q1y 9 []) (.seq (.cond (.t 14) (.skip) (.exit 0)) (.seq (.block 1 (.seq (.region Q1z 9 []) (.seq (.region Q10 0 []) (.cond (.t 24) (.seq (.region Q11 9 []) (.ret)) (.skip))))) (.region Q12 9 []))))))) (.seq (.region Q13 9 []) (.ret))))⟩
def Qc5 (fuel:Nat) (s1:(List Qe)) (s2:(List Qe)):Option Bool :=
  (if ((s1.length:Int) != (s2.length:Int)) then some false else Qdz (fun k5 (x4:Int)=>(if (x4 < (s1.length:Int)) then ((getO s1 x4).bind fun x7=>((getO s2 x4).bind fun x9=>(if ((x7.From == x9.From) && ((x7.Event == x9.Event) && ((x7.To == x9.To) && true))) then k5 (IntKind.wrap .i64 (x4 + 1)) else some false))) else some true)) fuel 0)
def Qnb (P:Program) (c:Nat) (f:Qm→Qm→Option Bool):Prop:=∀ a1 b2 r,f a1 b2 = some r→∀ M nb,ACalls P c [(Qo a1),(Qo b2)] M nb (b_ r) M nb
def Q4l:List COp:=[oo 2 (.box 4) [.t 0],oo 3 (.box 4) [.t 1],oo 4 .mov [.c (.d (.bool false))]]
def Q4m:List COp:=[oF 5 1 2,oL 6 5,oF 7 1 3,oL 8 7,oo 9 (.bin .eql false) [.t 6,.t 8],oM 10 9,⟨some 11,.fld 0,[.t 2],false,some (10,true)⟩,⟨some 12,.load false 1,[.t 11],false,some (10,true)⟩,⟨some 13,.fld 0,[.t 3],false,some (10,true)⟩,⟨some 14,.load false 1,[.t 13],false,some (10,true)⟩,⟨some 15,.call 45,[.t 12,.t 14],false,some (10,true)⟩,oo 16 .pick [.t 10,.t 15,.c (.d (.bool false))],oM 17 16,⟨some 18,.fld 2,[.t 2],false,some (17,true)⟩,⟨some 19,.load false 1,[.t 18],false,some (17,true)⟩,⟨some 20,.fld 2,[.t 3],false,some (17,true)⟩,⟨some 21,.load false 1,[.t 20],false,some (17,true)⟩,⟨some 22,.call 45,[.t 19,.t 21],false,some (17,true)⟩,oo 23 .pick [.t 17,.t 22,.c (.d (.bool false))],oM 24 23,⟨some 25,.fld 3,[.t 2],false,some (24,true)⟩,⟨some 26,.load false 1,[.t 25],false,some (24,true)⟩,⟨some 27,.fld 3,[.t 3],false,some (24,true)⟩,⟨some 28,.load false 1,[.t 27],false,some (24,true)⟩,⟨some 29,.call 46,[.t 26,.t 28],false,some (24,true)⟩,oo 30 .pick [.t 24,.t 29,.c (.d (.bool false))],oM 4 30]
def Qnc:CFn:=⟨2,31,[.t 4],.seq (.region Q4l 9 []) (.seq (.region Q4m 9 []) (.ret))⟩
def Qdn (Qbs:(List Int)→(List Int)→Option Bool) (Qc5:(List Qe)→(List Qe)→Option Bool) (a1:Qm) (b2:Qm):Option Bool :=
  (if (a1.zM == b2.zM) then ((Qbs a1.zJ b2.zJ).bind fun x5=>(if x5 then ((Qbs a1.zK b2.zK).bind fun x8=>(if x8 then ((Qc5 a1.zL b2.zL).bind fun x11=>some x11) else some false)) else some false)) else some false)
def Qjd (P:Program) (c:Nat) (f:Qm→Option Bool):Prop:=∀ a1 r,f a1 = some r→∀ M nb,ACalls P c [(Qo a1)] M nb (b_ r) M nb
def Q0a:List COp:=[oo 1 (.box 4) [.t 0],oo 2 .mov [.c (.d (.bool false))]]
def Q0b:List COp:=[oo 3 (.load true 4) [.t 1],oo 4 (.build [.nils 1,.d (.int .i64 0),.nils 1,.nils 3] []) [],oo 5 (.call 15) [.t 3,.t 4],oM 2 5]
def Qje:CFn:=⟨1,6,[.t 2],.seq (.region Q0a 9 []) (.seq (.region Q0b 9 []) (.ret))⟩
def Qcw (Qdn:Qm→Qm→Option Bool) (a1:Qm):Option Bool :=
  ((Qdn a1 (Qm.mk [] 0 [] [])).bind fun x3=>some x3)
def Qfm (P:Program) (c:Nat) (f:Qa→(List Int)→Option Bool):Prop:=∀ p1 xset2 r,f p1 xset2 = some r→∀ M nb,ACalls P c [.agg [(l_ p1.zA.zJ),(i_ p1.zA.zM),(l_ p1.zA.zK),.d (.lst 3 (List.map Qb p1.zA.zL)),(l_ p1.zC),(l_ p1.zB),(l_ p1.zD),(i_ p1.Tick)],(l_ xset2)] M nb (b_ r) M nb
def Qiu:List COp:=[oo 2 (.box 8) [.t 0],oo 4 .mov [.c (.d (.bool false))]]
def Qiv:List COp:=[oo 11 (.call 9) [],oo 12 (.un .not) [.t 11],oM 13 12,⟨some 14,.fld 0,[.t 2],false,some (13,false)⟩,⟨some 15,.load true 4,[.t 14],false,some (13,false)⟩,⟨some 16,.call 28,[.t 15],false,some (13,false)⟩,⟨some 17,.un .not,[.t 16],false,some (13,false)⟩,oo 18 .pick [.t 13,.c (.d (.bool true)),.t 17],oM 19 18,⟨some 20,.fld 4,[.t 2],false,some (19,false)⟩,⟨some 21,.load false 1,[.t 20],false,some (19,false)⟩,⟨some 22,.len,[.t 21],false,some (19,false)⟩,⟨some 23,.bin .gtr false,[.t 22,cI 10],false,some (19,false)⟩,oo 24 .pick [.t 19,.c (.d (.bool true)),.t 23],oM 25 24,⟨some 26,.fld 5,[.t 2],false,some (25,false)⟩,⟨some 27,.load false 1,[.t 26],false,some (25,false)⟩,⟨some 28,.len,[.t 27],false,some (25,false)⟩,⟨some 29,.bin .gtr false,[.t 28,cI 10],false,some (25,false)⟩,oo 30 .pick [.t 25,.c (.d (.bool true)),.t 29],oM 31 30,⟨some 32,.fld 6,[.t 2],false,some (31,false)⟩,⟨some 33,.load false 1,[.t 32],false,some (31,false)⟩,⟨some 34,.len,[.t 33],false,some (31,false)⟩,⟨some 35,.bin .gtr false,[.t 34,cI 10],false,some (31,false)⟩,oo 36 .pick [.t 31,.c (.d (.bool true)),.t 35],oM 37 36,⟨some 38,.mov,[.t 1],false,some (37,false)⟩,⟨some 39,.len,[.t 38],false,some (37,false)⟩,⟨some 40,.bin .gtr false,[.t 39,cI 10],false,some (37,false)⟩,oo 41 .pick [.t 37,.c (.d (.bool true)),.t 40]]
def Qiw:List COp:=[oo 42 (.call 9) [],oM 4 42]
def Qix:List COp:=[oo 43 (.load true 8) [.t 2],oo 44 (.call 29) [.t 43],oM 5 44]
def Qiy:List COp:=[oo 46 (.load true 8) [.t 2],oo 47 (.call 11) [.t 46],oM 45 47,oo 48 (.extract 0) [.t 45],oo 49 (.extract 1) [.t 45],oo 6 (.alloc [.nils 1,.nils 1,.nils 4,.d (.int .i64 0),.nils 1,.d (.int .i64 0),.nils 1,.nils 3,.nils 1,.nils 1]) [],⟨none,.store 10,[.t 6,.t 48],true,none⟩,oM 7 49]
def Qiz:List COp:=[oo 51 (.load true 8) [.t 2],oM 52 1,oo 53 (.call 20) [.t 51,.t 52],oM 50 53,oo 54 (.extract 0) [.t 50],oo 55 (.extract 1) [.t 50],oM 8 54,oM 9 55]
def Qi0:List COp:=[oo 56 (.load true 8) [.t 2],oo 57 (.call 30) [.t 56],oM 58 5,oo 59 (.bin .neq false) [.t 57,.t 58],oM 60 59,⟨some 61,.mov,[.t 7],false,some (60,false)⟩,⟨some 62,.mov,[.t 5],false,some (60,false)⟩,⟨some 63,.bin .neq false,[.t 61,.t 62],false,some (60,false)⟩,oo 64 .pick [.t 60,.c (.d (.bool true)),.t 63],oM 65 64,⟨some 66,.load true 8,[.t 2],false,some (65,false)⟩,⟨some 67,.fld 0,[.t 6],false,some (65,false)⟩,⟨some 68,.load true 3,[.t 67],false,some (65,false)⟩,⟨some 69,.call 26,[.t 66,.t 68],false,some (65,false)⟩,⟨some 70,.mov,[.t 5],false,some (65,false)⟩,⟨some 71,.bin .neq false,[.t 69,.t 70],false,some (65,false)⟩,oo 72 .pick [.t 65,.c (.d (.bool true)),.t 71]]
def Qi1:List COp:=[oo 4 .mov [.c (.d (.bool false))]]
def Qi2:List COp:=[oM 73 5,oo 74 (.bin .neq false) [.t 73,cI 0]]
def Qi3:List COp:=[oF 75 0 6,oo 76 (.load true 3) [.t 75],oo 77 (.build [.nils 1,.nils 1,.nils 4] []) [],oo 78 (.call 14) [.t 76,.t 77],oM 79 78,⟨some 80,.fld 3,[.t 6],false,some (79,true)⟩,⟨some 81,.load false 1,[.t 80],false,some (79,true)⟩,⟨some 82,.bin .eql false,[.t 81,cI 0],false,some (79,true)⟩,oo 83 .pick [.t 79,.t 82,.c (.d (.bool false))],oM 84 83,⟨some 85,.fld 4,[.t 6],false,some (84,true)⟩,⟨some 86,.load true 4,[.t 85],false,some (84,true)⟩,⟨some 87,.call 19,[.t 86],false,some (84,true)⟩,oo 88 .pick [.t 84,.t 87,.c (.d (.bool false))],oM 89 88,⟨some 90,.fld 8,[.t 6],false,some (89,true)⟩,⟨some 91,.load false 1,[.t 90],false,some (89,true)⟩,⟨some 92,.len,[.t 91],false,some (89,true)⟩,⟨some 93,.fld 9,[.t 6],false,some (89,true)⟩,⟨some 94,.load false 1,[.t 93],false,some (89,true)⟩,⟨some 95,.len,[.t 94],false,some (89,true)⟩,⟨some 96,.bin .add false,[.t 92,.t 95],false,some (89,true)⟩,⟨some 97,.bin .eql false,[.t 96,cI 0],false,some (89,true)⟩,oo 98 .pick [.t 89,.t 97,.c (.d (.bool false))],oM 99 98,⟨some 100,.mov,[.t 8],false,some (99,true)⟩,⟨some 101,.un .not,[.t 100],false,some (99,true)⟩,oo 102 .pick [.t 99,.t 101,.c (.d (.bool false))],oM 103 102,⟨some 104,.mov,[.t 9],false,some (103,true)⟩,⟨some 105,.mov,[.t 5],false,some (103,true)⟩,⟨some 106,.bin .eql false,[.t 104,.t 105],false,some (103,true)⟩,oo 107 .pick [.t 103,.t 106,.c (.d (.bool false))],oM 4 107]
def Qik:List COp:=[oM 108 1,oF 109 0 2,oF 110 1 109,oL 111 110,oo 112 (.call 31) [.t 108,.t 111],oM 10 112]
def Qil:List COp:=[oM 113 9,oM 114 10,oo 115 (.bin .eql false) [.t 113,.t 114],oM 116 115,⟨some 117,.mov,[.t 10],false,some (116,true)⟩,⟨some 118,.bin .eql false,[.t 117,cI 0],false,some (116,true)⟩,⟨some 119,.mov,[.t 118],false,some (116,true)⟩,⟨some 120,.mov,[.t 8],false,some (119,false)⟩,⟨some 121,.un .not,[.t 120],false,some (119,false)⟩,⟨some 122,.pick,[.t 119,.c (.d (.bool true)),.t 121],false,some (116,true)⟩,oo 123 .pick [.t 116,.t 122,.c (.d (.bool false))],oM 4 123]
def Qdu:CFn:=⟨2,124,[.t 4],.seq (.region Qiu 9 []) (.seq (.seq (.region Qiv 9 []) (.cond (.t 41) (.seq (.region Qiw 9 []) (.ret)) (.skip))) (.seq (.region Qix 9 []) (.seq (.region Qiy 9 []) (.seq (.region Qiz 9 []) (.seq (.seq (.region Qi0 9 []) (.cond (.t 72) (.seq (.region Qi1 9 []) (.ret)) (.skip))) (.seq (.seq (.region Qi2 9 []) (.cond (.t 74) (.seq (.region Qi3 9 []) (.ret)) (.skip))) (.seq (.region Qik 9 []) (.seq (.region Qil 9 []) (.ret)))))))))⟩
def Qc1 (Qcl:Option Bool) (Q0:Qa→Option (Qbu×Int)) (Qcv:Qv→Qv→Option Bool) (Qcw:Qm→Option Bool) (Qbj:Qa→(List Int)→Option (Bool×Int)) (Qb4:Qa→Qv→Option Int) (Qc4:Qm→Option Bool) (Qcm:Qa→Option Int) (Qw:Qa→Option Int) (Qy:(List Int)→Int→Option Int) (p1:Qa) (xset2:(List Int)):Option Bool :=
  (((Qcl.bind fun x4=>(if x4 then ((Qc4 p1.zA).bind fun x7=>(if x7 then (if ((p1.zC.length:Int) > 10) then some true else (if ((p1.zB.length:Int) > 10) then some true else (if ((p1.zD.length:Int) > 10) then some true else some (decide ((xset2.length:Int) > 10))))) else some true)) else some true))).bind fun (x12:Bool)=>(if x12 then (Qcl.bind fun x15=>some x15) else ((Qcm p1).bind fun x17=>((Q0 p1).bind fun (r19,r20)=>((Qbj p1 xset2).bind fun (r22,r23)=>((((Qw p1).bind fun x25=>(if (x25 != x17) then some true else (if (r20 != x17) then some true else ((Qb4 p1 r19.zE).bind fun x29=>some (x29 != x17)))))).bind fun (x30:Bool)=>(if x30 then some false else (if (x17 != 0) then ((((Qcv r19.zE (Qv.mk [] [] [])).bind fun x34=>(if x34 then (if (r19.Rounds == 0) then ((Qcw r19.zH).bind fun x38=>(if x38 then (if ((IntKind.wrap .i64 ((r19.zO.length:Int) + (r19.zI.length:Int))) == 0) then (if r22 then some false else some (r23 == x17)) else some false) else some false)) else some false) else some false))).bind fun (x42:Bool)=>some x42) else ((Qy xset2 p1.zA.zM).bind fun x44=>(if (r23 == x44) then (if (x44 == 0) then some true else some (!r22)) else some false))))))))))
end Go.Abs
end
