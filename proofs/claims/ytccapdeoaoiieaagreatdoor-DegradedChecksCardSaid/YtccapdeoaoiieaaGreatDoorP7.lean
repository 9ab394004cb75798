/-
  Part 7 of the proof: see the last text.
-/
import Derived.Test.YtccapdeoaoiieaaGreatDoorP6
set_option linter.unusedVariables false
set_option linter.unusedSimpArgs false
set_option linter.unusedSectionVars false
section
namespace Go.Abs
open Go
mutual
def pubV (p q:Nat):V→V
 | .und=>.und
 | .d x=>.d x
 | .agg cs=>.agg (pubVs p q cs)
 | .tup cs=>.tup (pubVs p q cs)
 | .own sz l=>.own sz l
 | .ownT sz l=>.ownT sz l
 | .ownV sz l=>.ownV sz l
 | .ptr k o=>if k=q then .ptr p o else .ptr k o
 | .nilp=>.nilp
 | .f x=>.f x
 | .nils sz=>.nils sz
 | .cref cs=>.cref cs
 | .sl sz k o n c=>if k=q then .sl sz p o n c else .sl sz k o n c
 | .clo f cs=>.clo f (pubVs p q cs)
 | .mp k=>if k=q then .mp p else .mp k
def pubVs (p q:Nat):List V→List V
 | []=>[]
 | v::vs=>pubV p q v::pubVs p q vs
end
theorem Q2v (p q:Nat):∀ vs,pubVs p q vs=vs.map (pubV p q)
 | []=>rfl
 | v::vs=>by simp [pubVs,Q2v p q vs]
mutual
theorem Qbed {P:Nat→Prop} (p q:Nat):∀ v:V,v.on P→(pubV p q v).on fun j=>j=p∨(P j∧j≠q)
 | .und,_=>trivial
 | .d _,_=>trivial
 | .agg cs,h=>ons_pub p q cs h
 | .tup cs,h=>ons_pub p q cs h
 | .own ..,_=>trivial
 | .ownT ..,_=>trivial
 | .ownV ..,_=>trivial
 | .ptr k o,h=>by
  simp only [pubV];split
  ·exact .inl rfl
  ·rename_i hne;exact .inr ⟨h,hne⟩
 | .nilp,_=>trivial
 | .f _,_=>trivial
 | .nils _,_=>trivial
 | .cref _,_=>trivial
 | .sl sz k o n c,h=>by
  simp only [pubV];split
  ·exact .inl rfl
  ·rename_i hne;exact .inr ⟨h,hne⟩
 | .clo _ cs,h=>ons_pub p q cs h
 | .mp k,h=>by
  simp only [pubV];split
  ·exact .inl rfl
  ·rename_i hne;exact .inr ⟨h,hne⟩
theorem ons_pub {P:Nat→Prop} (p q:Nat):∀ vs:List V,V.ons P vs→V.ons (fun j=>j=p∨(P j∧j≠q)) (pubVs p q vs)
 | [],_=>trivial
 | v::vs,h=>⟨Qbed p q v h.1,ons_pub p q vs h.2⟩
end
def G.pub (g:G) (p q:Nat):G:=⟨fun k=>if k=p then g.box q else g.box k,g.imm,fun b=>if b=g.box q then .box p else g.own b⟩
section
variable {g:G} {w:World} {p q:Nat} (hB:g.own (g.box q) = .box q)
include hB
mutual
theorem Qbee:∀ (v:V) (ℓ:Owner) (u:Value),ℓ ≠ .box q→v.on (· ≠ p)→RV g w v ℓ u→RV (g.pub p q) w (pubV p q v) ℓ u
 | .und,_,_,_,_,_=>by simp [pubV,RV]
 | .d x,_,_,_,_,h=>by simpa [pubV,RV,G.pub] using h
 | .agg cs,ℓ,u,hl,ho,h=>by
  simp only [pubV,RV] at h ⊢;obtain ⟨vs,rfl,h,h1⟩:=h;exact ⟨vs,rfl,RVs_pub cs ℓ 0 vs ho h,h1⟩
 | .tup cs,ℓ,u,hl,ho,h=>by
  simp only [pubV,RV] at h ⊢;obtain ⟨vs,rfl,h⟩:=h;exact ⟨vs,rfl,RVs_pub cs ℓ 0 vs ho h⟩
 | .own sz l,ℓ,u,hl,_,h=>by
  simp only [pubV,RV] at h ⊢;rcases h with h|⟨b,cap,vals,e,h1,h2,h3⟩
  ·exact .inl h
  ·have hne:b≠g.box q:=by rintro rfl;rw [hB] at h2;exact hl h2.symm
   exact .inr ⟨b,cap,vals,e,h1,by simp [G.pub,hne,h2],h3⟩
 | .ownT sz l,ℓ,u,hl,_,h=>by
  simp only [pubV,RV] at h ⊢;rcases h with h|⟨b,o0,cap,vals,e,h1,h2,h3⟩
  ·exact .inl h
  ·have hne:b≠g.box q:=by rintro rfl;rw [hB] at h2;exact hl h2.symm
   exact .inr ⟨b,o0,cap,vals,e,h1,by simp [G.pub,hne,h2],h3⟩
 | .ownV sz l,ℓ,u,hl,_,h=>by
  simp only [pubV,RV] at h ⊢;rcases h with h|⟨b,cap,vals,e,h1,h2,h3⟩
  ·exact .inl h
  ·have hne:b≠g.box q:=by rintro rfl;rw [hB] at h2;exact hl h2.symm
   exact .inr ⟨b,cap,vals,e,h1,by simp [G.pub,hne,h2],h3⟩
 | .ptr k o,ℓ,u,hl,ho,h=>by
  have ho:k≠p:=ho;simp only [pubV];split
  ·rename_i he;subst he;simpa [RV,G.pub] using h
  ·simpa [RV,G.pub,ho] using h
 | .nilp,_,_,_,_,h=>by simpa [pubV,RV] using h
 | .f x,_,u,_,_,h=>by
  simp only [pubV,RV] at h ⊢;exact Qfl (Q5t (g:=g) (g':=g.pub p q) fun b o h1 h2=>⟨h1,by
   have hne:b≠g.box q:=by rintro rfl;rw [hB] at h2;cases h2
   simp [G.pub,hne,h2]⟩) x u h
 | .nils _,_,_,_,_,h=>by simpa [pubV,RV] using h
 | .cref cs,ℓ,u,hl,_,h=>by simpa [pubV,RV,G.pub] using h
 | .sl sz k o n c,ℓ,u,hl,ho,h=>by
  have ho:k≠p:=ho;simp only [pubV];split
  ·rename_i he;subst he;simpa [RV,G.pub] using h
  ·simpa [RV,G.pub,ho] using h
 | .clo f cs,ℓ,u,hl,ho,h=>by
  simp only [pubV,RV] at h ⊢;obtain ⟨vs,rfl,h⟩:=h;exact ⟨vs,rfl,RVs_pub cs .ext 0 vs ho h⟩
 | .mp k,ℓ,u,hl,ho,h=>by
  have ho:k≠p:=ho;simp only [pubV];split
  ·rename_i he;subst he;simpa [RV,G.pub] using h
  ·simpa [RV,G.pub,ho] using h
theorem RVs_pub:∀ (cs:List V) (ℓ:Owner) (i:Nat) (us:List Value),V.ons (· ≠ p) cs→RVs g w cs ℓ i us→RVs (g.pub p q) w (pubVs p q cs) ℓ i us
 | [],_,_,_,_,h=>by simpa [pubVs,RVs] using h
 | c::cs,ℓ,i,us,ho,h=>by
  simp only [pubVs,RVs] at h ⊢;obtain ⟨u,us',rfl,h1,h2⟩:=h;have hne:ℓ.sub i ≠ .box q:=by cases ℓ<;>simp [Owner.sub]
  exact ⟨u,us',rfl,Qbee c (ℓ.sub i) u hne ho.1 h1,RVs_pub cs ℓ (i+1) us' ho.2 h2⟩
end
end
def Q2w (n0 p q:Nat) (σ:St):St :=
 ⟨fun t=>pubV p q (σ.s t),fun j=>if j=q then none else if j=p then σ.M q else if j<n0 then σ.M j else (match σ.M j with|some (.cells cs)=>some (.cells (cs.map (pubV p q)))|b=>b),σ.nb⟩
structure Pub (Γ:Env) (M:Mem) (p:Nat):Prop where
 vac:Γ.g0.box p=Γ.w0.heap.size
 lt:p<Γ.n0
 none:M p=none
 on:MOn (There M) M
theorem Qh5 {Γ:Env} {M:Mem} {p k:Nat} {b:Bx} (h:Pub Γ M p) (hk:M k=some b):k≠p:=by
 rintro rfl;rw [h.none] at hk;cases hk
variable {Γ:Env} {σ:St}
theorem Qbb5 {p q:Nat} {cs:List V} (hv:Γ.g0.box p=Γ.w0.heap.size) (hlt:p<Γ.n0) (hp:σ.M p=none) (hq:Γ.n0≤q) (hM:σ.M q=some (.cells cs)) (hcs:cs.all V.dat1=true):WeakSt Γ σ (Q2w Γ.n0 p q σ):=by
 intro a w g hs;have hB:g.own (g.box q) = .box q:=(hs.mem.box q _ hM).2.1;have hpq:p≠q:=by omega
 have hsub:∀ ℓ i,ℓ≠Owner.box q→ℓ.sub i ≠ .box q:=by intro ℓ i _;cases ℓ<;>simp [Owner.sub]
 have hkept:Kept g w (g.pub p q) w (fun j=>j≠p) (fun o=>o ≠ .box q):=by
  refine ⟨⟨fun _ _ h=>h,fun _ _ _=>rfl⟩,fun k hk=>by simp [G.pub,hk],fun b hb _=>?_⟩;have hne:b≠g.box q:=by rintro rfl;exact hb hB
  exact ⟨by simp [G.pub,hne],rfl,fun o=>Iff.rfl⟩
 have hnp:∀ j,There σ.M j→j≠p:=by rintro j hj rfl;simp [There,hp] at hj
 have hth:∀ j,j=p∨(There σ.M j∧j≠q)→There (Q2w Γ.n0 p q σ).M j:=by
  rintro j (rfl|⟨h1,h2⟩)
  ·simp [There,Q2w,hpq,hM]
  ·have h3:=hnp j h1;simp only [There,Q2w,h2,h3,if_false] at h1 ⊢;split
   ·exact h1
   ·cases hj:σ.M j with
    | none=>simp [hj] at h1
    | some b=>cases b<;>rfl
 have hown:∀ j,j≠q→g.own (g.box j) = .box j→(g.pub p q).own (g.box j) = .box j:=by
  intro j hj ho;have hne:g.box j≠g.box q:=by
   intro e;rw [e,hB] at ho;cases ho;exact hj rfl
  simp [G.pub,hne,ho]
 have hbx:∀ j,j≠p→(g.pub p q).box j=g.box j:=fun j hj=>by simp [G.pub,hj]
 have hdat:∀ P:Nat→Prop,V.ons P cs:=fun P=>Qh0.2 fun v hv=>Q96 (List.all_eq_true.1 hcs v hv);refine ⟨g.pub p q,⟨⟨fun j b hb=>?_,fun b o hbo=>?_⟩,fun t=>Qbee hB _ _ _ (by simp) (Qdp hnp _ (hs.onS t)) (hs.slots t),hs.size,hs.defers,fun t=>Qdp hth _ (Qbed p q _ (hs.onS t)),fun j cs' hb=>?_,hs.top,?_⟩⟩
 ·simp only [Q2w] at hb;split at hb
  ·cases hb
  ·rename_i hjq;split at hb
   ·rename_i hjp;subst hjp;rw [hM] at hb;cases hb;obtain ⟨h1,h2,vals,e,k1,k2,k3⟩:=hs.mem.box q _ hM;refine ⟨by have:=hs.top;show j<σ.nb;omega,by simp [G.pub],vals,e,by simpa [G.pub] using k1,Q4s hkept.imm hcs k2,k3⟩
   ·rename_i hjp;split at hb
    ·rename_i hlt';obtain ⟨h1,h2,h3⟩:=hs.mem.box j b hb;refine ⟨h1,by rw [hbx j hjp];exact hown j hjq h2,?_⟩;cases b with
     | mp es c =>
      obtain ⟨ents,k1,k2⟩:=h3;exact ⟨ents,by rw [hbx j hjp];exact k1,Qi8 (g:=g) (g':=g.pub p q) hkept (fun _=>by simp) k2⟩
     | cells cs2 =>
      obtain ⟨vals,e,k1,k2,k3⟩:=h3;have hon:=(hs.onM j cs2 hb).1;exact ⟨vals,e,by rw [hbx j hjp];exact k1,RVs_mono hkept hsub (by simp) _ _ _ _ (by intro e;cases e;exact hjq rfl) (ons_mono hnp _ hon) k2,k3⟩
    ·split at hb
     ·rename_i hlt' _ cs2 hcs2;cases hb;obtain ⟨h1,h2,vals,e,k1,k2,k3⟩:=hs.mem.box j _ hcs2;refine ⟨h1,by rw [hbx j hjp];exact hown j hjq h2,vals,e,by rw [hbx j hjp];exact k1,?_,k3⟩;rw [← Q2v];exact RVs_pub hB _ _ _ _ (ons_mono hnp _ (hs.onM j cs2 hcs2).1) k2
     ·rename_i hne;obtain ⟨h1,h2,h3⟩:=hs.mem.box j b hb;cases b with
      | mp es c =>
       obtain ⟨ents,k1,k2⟩:=h3;exact ⟨h1,by rw [hbx j hjp];exact hown j hjq h2,ents,by rw [hbx j hjp];exact k1,Qi8 (g:=g) (g':=g.pub p q) hkept (fun _=>by simp) k2⟩
      | cells cs2=>exact absurd hb (hne cs2)
 ·obtain ⟨h1,h2⟩:=hs.mem.imm b o hbo;refine ⟨h1,fun j=>?_⟩;have hne:b≠g.box q:=by rintro rfl;exact h2 q hB
  simp only [G.pub,hne,if_false];exact h2 j
 ·simp only [Q2w] at hb;split at hb
  ·cases hb
  ·rename_i hjq;split at hb
   ·rw [hM] at hb;cases hb;exact ⟨hdat _,fun _=>hdat _⟩
   ·split at hb
    ·rename_i hlt';obtain ⟨h1,h2⟩:=hs.onM j cs' hb;refine ⟨ons_mono (fun i hi=>hth i (.inr ⟨hi.1,?_⟩)) _ (ons_and cs' h1 (h2 hlt')),h2⟩;have:=hi.2;omega
    ·split at hb
     ·rename_i hlt' _ cs2 hcs2;cases hb;refine ⟨?_,fun h=>absurd h hlt'⟩;rw [← Q2v];exact ons_mono hth _ (ons_pub p q _ (hs.onM j cs2 hcs2).1)
     ·rename_i hne;exact absurd hb (hne cs')
 ·have hf:=hs.fr;refine ⟨hf.os,hf.tape,hf.output,hf.size,hf.imm,fun k hk=>?_,fun b hb ho=>?_⟩
  ·have:k≠p:=by rintro rfl;have:=hk.2;rw [hv] at this;omega
   rw [hbx k this];exact hf.box k hk
  ·obtain ⟨h1,h2,h3⟩:=hf.old b hb ho;have hne:b≠g.box q:=by
    rintro rfl;rw [hB] at h1;rw [← h1] at ho;exact ho
   exact ⟨by simp [G.pub,hne,h1],h2,h3⟩
theorem Q2x (f:V→V) (t:Nat) {E E' : List (Nat×V)} {L L' : List (Nat×Bx)} {M0 M1:Mem} {nb:Nat} {σm:St} (hW:WeakSt Γ ⟨look E,Ql Γ.n0 L M0,nb⟩ σm) (h0:σm.nb=nb) (h1:∀ u,σm.s u=f (look E u)) (hbase:∀ k,k<Γ.n0→σm.M k=M1 k)
  (hown:∀ u cs,Nat.beq u t=false→Qbu L u=some (.cells cs)→σm.M (Γ.n0+u)=some (.cells (cs.map f)))
  (hownm:∀ u es c,Nat.beq u t=false→Qbu L u=some (.mp es c)→σm.M (Γ.n0+u)=some (.mp es c))
  (hnone:∀ u,There σm.M (Γ.n0+u)→u≠t∧(Qbu L u).isSome=true)
  (hE:FE f (look E) E') (hL:FB f t L L') (hk:(L.all fun p=>Nat.beq p.1 t||L'.any fun q=>Nat.beq p.1 q.1)=true) :
  WeakSt Γ ⟨look E,Ql Γ.n0 L M0,nb⟩ ⟨look E',Ql Γ.n0 (bxs L') M1,nb⟩:=by
 refine WeakSt.trans hW ?_;intro a w g hs;subst h0;have hsplit:∀ k,k<Γ.n0∨∃ u,k=Γ.n0+u:=fun k=>by
  rcases Nat.lt_or_ge k Γ.n0 with h|h
  ·exact .inl h
  ·exact .inr ⟨k-Γ.n0,by omega⟩
 have hthere:∀ k,There σm.M k→There (Ql Γ.n0 (bxs L') M1) k:=by
  intro k hk';rcases hsplit k with h|⟨u,rfl⟩
  ·simp only [There,Q8 h,← hbase k h];exact hk'
  ·simp only [There,Qbt];obtain ⟨h5,h6⟩:=hnone u hk';obtain ⟨b,hb⟩:=Option.isSome_iff_exists.1 h6;obtain ⟨p,hp,rfl⟩:=Qs0 hb;have:=List.all_eq_true.1 hk p hp;rw [Bool.or_eq_true] at this;rcases this with h8|h8
   ·exact absurd (Nat.eq_of_beq_eq_true h8) h5
   ·obtain ⟨q,hq,he⟩:=List.any_eq_true.1 h8
    grind [Nat.eq_of_beq_eq_true,Qxo]
 refine ⟨g,⟨⟨fun k b hb=>?_,hs.mem.imm⟩,fun t=>(hE.at t).rd _ _ _ _ (by rw [← h1];exact hs.slots t),hs.size,hs.defers,fun t=>Qdp hthere _ ((hE.at t).on _ (by rw [← h1];exact hs.onS t)),fun k cs hb=>?_,hs.top,hs.fr⟩⟩
 ·rcases hsplit k with h|⟨u,rfl⟩
  ·have hb:Ql Γ.n0 (bxs L') M1 k=some b:=hb;rw [Q8 h,← hbase k h] at hb;exact hs.mem.box k b hb
  ·have hb' : Qbu (bxs L') u=some b:=by rw [← hb];exact Qbt.symm
   obtain ⟨h2,⟨cs',cs,rfl,h1,h3⟩|⟨es,c,rfl,h1⟩⟩:=hL.at u b hb'
   ·obtain ⟨k1,k2,vals,e,k3,k4,k5⟩:=hs.mem.box _ _ (hown u cs h2 h1);exact ⟨k1,k2,vals,e,k3,h3.rd _ _ _ _ _ k4,k5⟩
   ·exact hs.mem.box _ _ (hownm u es c h2 h1)
 ·rcases hsplit k with h|⟨u,rfl⟩
  ·have hb:Ql Γ.n0 (bxs L') M1 k=some (.cells cs):=hb;rw [Q8 h,← hbase k h] at hb;obtain ⟨k1,k2⟩:=hs.onM k cs hb;exact ⟨ons_mono hthere _ k1,k2⟩
  ·have hb' : Qbu (bxs L') u=some (.cells cs):=by rw [← hb];exact Qbt.symm
   obtain ⟨h2,⟨cs',cs0,he,h1,h3⟩|⟨es,c,he,h1⟩⟩:=hL.at u _ hb'<;>cases he;obtain ⟨k1,k2⟩:=hs.onM _ _ (hown u cs0 h2 h1);exact ⟨ons_mono hthere _ (h3.on _ k1),fun hlt=>absurd hlt (by omega)⟩
def Qbdm (p:Nat):List (Nat×Bx)→Prop
 | []=>True
 | (k,_)::B=>k≠p∧Qbdm p B
theorem Q0o {M:Mem} {p:Nat}:∀ {B:List (Nat×Bx)},Qbdm p B→M.puts B p=M p
 | [],_=>rfl
 | (k,b)::B,h=>by
  have:=h.1;simp only [Mem.puts,Mem.put,this.symm,if_false];exact Q0o h.2
theorem Qbdn {p:Nat} (t:Nat) {E E' : List (Nat×V)} {L L' B:List (Nat×Bx)} {M:Mem} {nb:Nat} {cs:List V} (hU:Pub Γ M p) (hB:Qbdm p B) (hM:Qbu L t=some (.cells cs)) (hcs:cs.all V.dat1=true)
  (hE:FE (pubV p (Γ.n0+t)) (look E) E') (hL:FB (pubV p (Γ.n0+t)) t L L') (hk:(L.all fun p=>Nat.beq p.1 t||L'.any fun q=>Nat.beq p.1 q.1)=true) :
  WeakSt Γ ⟨look E,Ql Γ.n0 L (M.puts B),nb⟩ ⟨look E',Ql Γ.n0 (bxs L') (M.puts ((p,.cells cs)::B)),nb⟩:=by
 have hp:Ql Γ.n0 L (M.puts B) p=none:=by rw [Q8 hU.lt,Q0o hB,hU.none]
 have hq:Ql Γ.n0 L (M.puts B) (Γ.n0+t)=some (.cells cs):=by rw [Qbt];exact hM
 have hlt:=hU.lt;refine Q2x (pubV p (Γ.n0+t)) t (Qbb5 (σ:=⟨look E,Ql Γ.n0 L (M.puts B),nb⟩) hU.vac hU.lt hp (by omega) hq hcs) rfl (fun _=>rfl) (fun k hk=>?_) (fun u cs' h1 h2=>?_) (fun u es c h1 h2=>?_) (fun u hu=>?_) hE hL hk
 ·have h1:k≠Γ.n0+t:=by omega
  simp only [Q2w,h1,if_false,hq,hk,if_true,Mem.puts,Mem.put,Q8 hk]
 ·have h3:u≠t:=fun e=>by subst e;simp at h1
  have h4:Γ.n0+u≠Γ.n0+t:=by omega
  have h5:¬ Γ.n0+u<Γ.n0:=by omega
  have h6:Γ.n0+u≠p:=by omega
  have h7:Ql Γ.n0 L (M.puts B) (Γ.n0+u)=some (.cells cs'):=by rw [Qbt];exact h2
  simp only [Q2w,h4,h5,h6,if_false,h7]
 ·have h3:u≠t:=fun e=>by subst e;simp at h1
  have h4:Γ.n0+u≠Γ.n0+t:=by omega
  have h5:¬ Γ.n0+u<Γ.n0:=by omega
  have h6:Γ.n0+u≠p:=by omega
  have h7:Ql Γ.n0 L (M.puts B) (Γ.n0+u)=some (.mp es c):=by rw [Qbt];exact h2
  simp only [Q2w,h4,h5,h6,if_false,h7]
 ·have h5:¬ Γ.n0+u<Γ.n0:=by omega
  have h6:Γ.n0+u≠p:=by omega
  have h3:u≠t:=by
   rintro rfl;simp [There,Q2w] at hu
  have h4:Γ.n0+u≠Γ.n0+t:=by omega
  refine ⟨h3,?_⟩;cases hl:Qbu L u with
  | some b=>rfl
  | none =>
   have h7:Ql Γ.n0 L (M.puts B) (Γ.n0+u)=none:=by rw [Qbt];exact hl
   simp only [There,Q2w,h4,h5,h6,if_false,h7] at hu;cases hu
def Qvb (k:Nat) (ds:List D) (σ:St):St :=
 ⟨fun t=>frzV k ds (σ.s t),fun j=>if j=k then none else (match σ.M j with|some (.cells cs)=>some (.cells (cs.map (frzV k ds)))|b=>b),σ.nb⟩
open Classical in
theorem Qbb6 {k:Nat} {cs:List V} {ds:List D} (hM:σ.M k=some (.cells cs)) (hd:PreD cs ds):WeakSt Γ σ (Qvb k ds σ):=by
 intro a w g hs;have hB:g.own (g.box k) = .box k:=(hs.mem.box k _ hM).2.1;have hD:=Q6p hs.mem hM hd;have hkept:Kept g w (g.frz k ds.length) w (fun j=>j≠k) (fun o=>o ≠ .box k):=by
  refine ⟨⟨fun _ _ h=>.inl h,fun _ _ _=>rfl⟩,fun _ _=>rfl,fun b hb _=>?_⟩;have hne:b≠g.box k:=by rintro rfl;exact hb hB
  exact ⟨by simp [G.frz,hne],rfl,fun o=>by simp [G.frz,hne]⟩
 have hthere:∀ j,(There σ.M j∧j≠k)→There (Qvb k ds σ).M j:=by
  rintro j ⟨h1,h2⟩;simp only [There,Qvb,h2,if_false] at h1 ⊢;cases hj:σ.M j with
  | none=>simp [hj] at h1
  | some b=>cases b<;>rfl
 have hown:∀ j,j≠k→g.own (g.box j) = .box j→(g.frz k ds.length).own (g.box j) = .box j:=by
  intro j hj ho;have hne:g.box j≠g.box k:=by
   intro e;rw [e,hB] at ho;cases ho;exact hj rfl
  simp [G.frz,hne,ho]
 refine ⟨g.frz k ds.length,⟨⟨fun j b hb=>?_,fun b o hbo=>?_⟩,fun t=>Qbbs hB hD _ _ _ (by simp) (hs.slots t),hs.size,hs.defers,fun t=>Qdp hthere _ (Qbbr k ds _ (hs.onS t)),fun j cs' hb=>?_,hs.top,?_⟩⟩
 ·simp only [Qvb] at hb;split at hb
  ·cases hb
  ·rename_i hjk;split at hb
   ·rename_i _ cs2 hcs;cases hb;obtain ⟨h1,h2,vals,e,k1,k2,k3⟩:=hs.mem.box j _ hcs;refine ⟨h1,hown j hjk h2,vals,e,k1,?_,k3⟩;rw [← Qs1];exact RVs_frz hB hD _ _ _ _ k2
   ·rename_i hne;obtain ⟨h1,h2,h3⟩:=hs.mem.box j b hb;cases b with
    | mp es c =>
     obtain ⟨ents,k1,k2⟩:=h3;exact ⟨h1,hown j hjk h2,ents,k1,Qi8 (g:=g) (g':=g.frz k ds.length) hkept (fun _=>by simp) k2⟩
    | cells cs2=>exact absurd hb (hne cs2)
 ·rcases hbo with hbo|⟨rfl,hlt⟩
  ·obtain ⟨h1,h2⟩:=hs.mem.imm b o hbo;refine ⟨h1,fun j=>?_⟩;simp only [G.frz];split
   ·simp
   ·exact h2 j
  ·refine ⟨?_,fun j=>by simp [G.frz]⟩;obtain ⟨_,_,vals,e,k1,_,_⟩:=hs.mem.box k _ hM;exact (Array.getElem?_eq_some_iff.1 k1).1
 ·simp only [Qvb] at hb;split at hb
  ·cases hb
  ·split at hb
   ·rename_i _ cs2 hcs;cases hb;obtain ⟨h1,h2⟩:=hs.onM j cs2 hcs;rw [← Qs1];exact ⟨ons_mono hthere _ (ons_frz k ds _ h1),fun hlt=>ons_mono (fun i hi=>hi.1) _ (ons_frz k ds _ (h2 hlt))⟩
   ·rename_i hne;exact absurd hb (hne cs')
 ·have hf:=hs.fr;refine ⟨hf.os,hf.tape,hf.output,hf.size,⟨fun b o h=>.inl (hf.imm.mono b o h),hf.imm.look⟩,hf.box,fun b hb ho=>?_⟩;obtain ⟨h1,h2,h3⟩:=hf.old b hb ho;have hne:b≠g.box k:=by
   rintro rfl;rw [hB] at h1;rw [← h1] at ho;exact ho
  exact ⟨by simp [G.frz,hne,h1],h2,fun o=>by simp [G.frz,hne,h3]⟩
mutual
theorem Qbfi {p:Nat} {ds:List D}:∀ v:V,v.on (· ≠ p)→frzV p ds v=v
 | .und,_=>rfl
 | .d _,_=>rfl
 | .agg cs,h=>by simp only [frzV];rw [frzs_off cs h]
 | .tup cs,h=>by simp only [frzV];rw [frzs_off cs h]
 | .own ..,_=>rfl
 | .ownT ..,_=>rfl
 | .ownV ..,_=>rfl
 | .ptr k o,h=>by
  have h:k≠p:=h;simp only [frzV];rw [if_neg h]
 | .nilp,_=>rfl
 | .f _,_=>rfl
 | .nils _,_=>rfl
 | .cref _,_=>rfl
 | .sl sz k o n c,h=>by
  have h:k≠p:=h;simp only [frzV];rw [if_neg h]
 | .clo f cs,h=>by simp only [frzV];rw [frzs_off cs h]
 | .mp k,h=>by
  have h:k≠p:=h;simp only [frzV];rw [if_neg h]
theorem frzs_off {p:Nat} {ds:List D}:∀ vs:List V,V.ons (· ≠ p) vs→frzVs p ds vs=vs
 | [],_=>rfl
 | v::vs,h=>by simp only [frzVs];rw [Qbfi v h.1,frzs_off vs h.2]
end
def FBB (f:V→V) (p:Nat):List (Nat×Bx)→List (Nat×Bx)→Prop
 | [],[]=>True
 | (k,.cells cs)::B,(k',.cells cs')::B'=>(k=k'∧k≠p∧WkVs (cs.map f) cs')∧FBB f p B B'
 | (k,.mp es c)::B,(k',.mp es' c')::B'=>(k=k'∧k≠p∧es=es'∧c=c')∧FBB f p B B'
 | _,_=>False
theorem FBB.at {M:Mem} {p:Nat} {ds:List D} (hMM:MOn (There M) M) (hMp:M p=none):∀ {B B' : List (Nat×Bx)},FBB (frzV p ds) p B B'→(M.puts B' p=none)∧∀ k,k≠p →
  (M.puts B' k=(match M.puts B k with|some (.cells cs)=>some (.cells (cs.map (frzV p ds)))|b=>b))∨∃ cs cs',M.puts B k=some (.cells cs)∧M.puts B' k=some (.cells cs')∧WkVs (cs.map (frzV p ds)) cs'
 | [],[],_=>⟨hMp,fun k hk=>.inl (by
   simp only [Mem.puts];split
   ·rename_i cs hcs;rw [hcs,← Qs1,frzs_off cs (ons_mono (fun j hj=>by rintro rfl;simp [There,hMp] at hj) _ (hMM k cs hcs))]
   ·rfl)⟩
 | (j,.cells cs)::B,(j',.cells cs')::B',h=>by
  obtain ⟨⟨rfl,hj,hw⟩,h⟩:=h;obtain ⟨h1,h2⟩:=FBB.at hMM hMp h;refine ⟨by simp only [Mem.puts,Mem.put,Ne.symm hj,if_false];exact h1,fun k hk=>?_⟩;by_cases hkj:k=j
  ·subst hkj;exact .inr ⟨cs,cs',pg0,pg0,hw⟩
  ·simp only [Mem.puts,Mem.put,hkj,if_false];exact h2 k hk
 | (j,.mp es c)::B,(j',.mp es' c')::B',h=>by
  obtain ⟨⟨rfl,hj,rfl,rfl⟩,h⟩:=h;obtain ⟨h1,h2⟩:=FBB.at hMM hMp h;refine ⟨by simp only [Mem.puts,Mem.put,Ne.symm hj,if_false];exact h1,fun k hk=>?_⟩;by_cases hkj:k=j
  ·subst hkj;exact .inl (by simp [Mem.puts,Mem.put])
  ·simp only [Mem.puts,Mem.put,hkj,if_false];exact h2 k hk
 | [],_::_,h=>h.elim
 | (_,.cells _)::_,[],h=>h.elim
 | (_,.mp ..)::_,[],h=>h.elim
 | (_,.mp ..)::_,(_,.cells _)::_,h=>h.elim
 | (_,.cells _)::_,(_,.mp ..)::_,h=>h.elim
theorem Q2y {p:Nat} {E E' : List (Nat×V)} {L L' B B' : List (Nat×Bx)} {M:Mem} {nb:Nat} {cs:List V} (ds:List D) (hU:Pub Γ M p) (hd:PreD cs ds) (t:Nat) (ht:Qbu L t=none)
  (hE:FE (frzV p ds) (look E) E') (hL:FB (frzV p ds) t L L') (hk:(L.all fun p=>Nat.beq p.1 t||L'.any fun q=>Nat.beq p.1 q.1)=true) (hB:FBB (frzV p ds) p B B') :
  WeakSt Γ ⟨look E,Ql Γ.n0 L (M.puts ((p,.cells cs)::B)),nb⟩ ⟨look E',Ql Γ.n0 (bxs L') (M.puts B'),nb⟩:=by
 have hlt:=hU.lt;have hp:Ql Γ.n0 L (M.puts ((p,.cells cs)::B)) p=some (.cells cs):=by rw [Q8 hlt];exact pg0
 have hW:=Qbb6 (σ:=⟨look E,Ql Γ.n0 L (M.puts ((p,.cells cs)::B)),nb⟩) (Γ:=Γ) hp hd;obtain ⟨hB1,hB2⟩:=FBB.at (ds:=ds) hU.on hU.none hB;refine WeakSt.trans (Q2x (M1:=(Qvb p ds ⟨look E,Ql Γ.n0 L (M.puts ((p,.cells cs)::B)),nb⟩).M) (frzV p ds) t hW rfl (fun _=>rfl) (fun k hk=>rfl) (fun u cs' h1 h2=>?_) (fun u es c h1 h2=>?_) (fun u hu=>?_) hE hL hk)
  (Qbec (σ':=⟨look E',Ql Γ.n0 (bxs L') (M.puts B'),nb⟩) rfl rfl fun k=>?_)
 ·have h6:Γ.n0+u≠p:=by omega
  have h7:Ql Γ.n0 L (M.puts ((p,.cells cs)::B)) (Γ.n0+u)=some (.cells cs'):=by rw [Qbt];exact h2
  simp only [Qvb,h6,if_false,h7]
 ·have h6:Γ.n0+u≠p:=by omega
  have h7:Ql Γ.n0 L (M.puts ((p,.cells cs)::B)) (Γ.n0+u)=some (.mp es c):=by rw [Qbt];exact h2
  simp only [Qvb,h6,if_false,h7]
 ·have h6:Γ.n0+u≠p:=by omega
  cases hl:Qbu L u with
  | some b =>
   refine ⟨?_,rfl⟩;rintro rfl;rw [ht] at hl;cases hl
  | none =>
   have h7:Ql Γ.n0 L (M.puts ((p,.cells cs)::B)) (Γ.n0+u)=none:=by rw [Qbt];exact hl
   simp only [There,Qvb,h6,if_false,h7] at hu;cases hu
 ·show Ql Γ.n0 (bxs L') (M.puts B') k=Ql Γ.n0 (bxs L') _ k∨_;by_cases hk:k<Γ.n0
  ·rw [Q8 hk];simp only [Q8 hk];by_cases hkp:k=p
   ·subst hkp;exact .inl (by simp [Qvb,hB1])
   ·have e1:Ql Γ.n0 L (M.puts ((p,.cells cs)::B)) k=M.puts B k:=by
     rw [Q8 hk];simp only [Mem.puts,Mem.put,hkp,if_false]
    rcases hB2 k hkp with h|⟨c1,c2,h1,h2,h3⟩
    ·refine .inl ?_;simp only [Qvb,hkp,if_false,e1];exact h
    ·refine .inr ⟨_,c2,?_,h2,h3⟩;simp only [Qvb,hkp,if_false,e1,h1]
  ·exact .inl (by simp only [Ql,hk,if_false])
theorem Q7v {n0 p t k o:Nat} (h:k<n0):WkV (pubV p (n0+t) (.ptr k o)) (.ptr k o):=by
 have:¬ k=n0+t:=by omega
 exact .same (by simp [pubV,this])
theorem pSl {n0 p t sz o n c:Nat}:WkV (pubV p (n0+t) (.sl sz (n0+t) o n c)) (.sl sz p o n c):=.same (by simp [pubV])
theorem Qbgl {α:Type} {g:α→List V} (h:∀ x,(g x).all V.dat1=true):∀ xs:List α,(Qb7 g xs).all V.dat1=true
 | []=>rfl
 | x::xs=>by rw [Qi6,List.all_append,h x,Qbgl h xs];rfl
theorem qPtr {p k o:Nat} {ds:List D} (h:k≠p):WkV (frzV p ds (.ptr k o)) (.ptr k o):=.same (by simp [frzV,h])
theorem qSl {p k sz o n c:Nat} {ds:List D} (h:k≠p):WkV (frzV p ds (.sl sz k o n c)) (.sl sz k o n c):=.same (by simp [frzV,h])
theorem qMp {p k:Nat} {ds:List D} (h:k≠p):WkV (frzV p ds (.mp k)) (.mp k):=.same (by simp [frzV,h])
theorem qRow {α:Type} {g:α→List V} {p:Nat} {ds:List D} (h:∀ x,(g x).map (frzV p ds)=g x) (xs:List α):WkVs ((Qb7 g xs).map (frzV p ds)) (Qb7 g xs):=by
 have:(Qb7 g xs).map (frzV p ds)=Qb7 g xs:=by
  induction xs with
  | nil=>rfl
  | cons x xs ih=>rw [Qi6,List.map_append,h x,ih]
 rw [this];exact WkVs.refl _
theorem Q8y {g g' : G} {w:World} {P:Nat→Prop} (h:Kept g w g' w P fun _=>True):∀ {j:Nat} {xs:List V} {us:List Value},V.ons P xs→RAs g w j xs us→RAs g' w j xs us
 | _,[],_,_,h=>h
 | _,_::_,_,ho,⟨u,us',e,h1,h2⟩=>⟨u,us',e,Qch h (fun _ _ _=>trivial) trivial _ _ _ trivial ho.1 h1,Q8y h ho.2 h2⟩
theorem Qbfj {P:Program} {f:FuncId} {cf:CFn} (hcf:Qr P f=some cf) {args:List V} {M:Mem} {nb:Nat} (n:Nat) {r:V} {M' : Mem} (hM0:∀ k,nb≤k→M k=none) (hargs:args.length=cf.np) (hlt:∀ k,There M' k→k<nb)
  (hrun:∀ Γ:Env,Γ.P=P→Γ.n0=nb+n→Γ.nt=cf.nt→(∀ p,nb≤p→p<nb+n→Pub Γ M p)→Tr Γ cf.body ⟨Qkb args,M,nb+n+cf.nt⟩ (Fin2 (nb+n) cf.res r M' (nb+n))):ACalls P f args M nb r M' nb:=by
 refine ⟨Qhh hcf,Nat.le_refl _,fun w g us ht hm hMon hus hons=>?_⟩;let g1:G:=⟨fun k=>if nb≤k then w.heap.size else g.box k,g.imm,g.own⟩;have hne:∀ k,k<nb→g1.box k=g.box k:=fun k hk=>by
  have:¬ nb≤k:=by omega
  simp [g1,this]
 have hk1:Kept g w g1 w (There M) (fun _=>True):=⟨Imm.refl _ _,fun k hk=>by
  obtain ⟨b,hb⟩:=Option.isSome_iff_exists.1 hk;exact hne k (hm.box k b hb).1,fun b _ _=>⟨rfl,rfl,fun _=>Iff.rfl⟩⟩
 have hm0:=hm.kept hk1 hMon (fun _ _ _=>trivial) trivial (fun _ _=>trivial) (fun b o h=>hm.imm b o h);have hm1:MR g1 w M (nb+n):=⟨fun k b hk=>⟨Nat.lt_of_lt_of_le (hm0.box k b hk).1 (Nat.le_add_right _ _),(hm0.box k b hk).2⟩,hm0.imm⟩;refine Calls.mono (Qbbm hcf (M:=M) (nb:=nb+n) (nb':=nb+n) (M':=M') (r:=r) (fun k hk=>hM0 k (by omega)) hargs (Nat.le_refl _) (g:=g1) (fun gl hg=>ht gl hg) hm1 hMon (Q8y hk1 hons hus) hons fun Γ h1 h2 h3 h4 h5=>hrun Γ h1 h2 h3 fun p hp hp2=>⟨by rw [h4,h5];simp [g1,hp],by omega,hM0 p hp,hMon⟩).2 ?_;rintro e w' ⟨v,g',rfl,a1,a2,a3,a4,a5⟩;refine ⟨v,g',rfl,⟨fun k b hk=>⟨hlt k (by simp [There,hk]),(a1.box k b hk).2⟩,a1.imm⟩,a2,a3,a4,?_⟩;exact ⟨a5.os,a5.tape,a5.output,a5.size,⟨a5.imm.mono,a5.imm.look⟩,fun k hk=>(a5.box k ⟨by omega,by rw [hne k hk.1];exact hk.2⟩).trans (hne k hk.1),a5.old⟩
theorem Qbfk {P:Program} {f:FuncId} {cf:CFn} (hcf:Qr P f=some cf) {args:List V} {r:V} (hargs:Nat.beq args.length cf.np=true) (M M1:Mem) (nb:Nat) (hM1:(∀ k,nb≤k→M k=none)→∀ k,nb≤k→M1 k=none)
  (hrun:∀ (Γ:Env),Γ.P=P→Γ.nt=cf.nt→(∀ k,Γ.n0≤k→M k=none)→(∀ p,nb≤p→p<nb+2→Pub Γ M p)→Tr Γ cf.body ⟨Qkb args,Ql Γ.n0 [] M,Γ.n0+cf.nt⟩ (FinW cf.res r Γ.n0 M1)):ACalls P f args M nb r M1 nb:=by
 by_cases hM:∀ k,nb≤k→M k=none
 case neg=>exact Qp0 (Qhh hcf) (Nat.le_refl _) hM
 have hM1:=hM1 hM;have hlt:∀ k,There M1 k→k<nb:=fun k hk=>by
  grind [Nat.lt_or_ge,There]
 refine Qbfj hcf 2 hM (Nat.eq_of_beq_eq_true hargs) hlt fun Γ hP hn ht hU=>?_;have hM2:∀ k,nb+2≤k→M k=none:=fun k hk=>hM k (by omega);have h:=hrun Γ hP ht (by rw [hn];exact hM2) hU;rw [Qn7 (by rw [hn];exact hM2),hn] at h;refine h.mono ?_;rintro e σ' ⟨he,r',h1,h2,h3,h4⟩;have hlt' : ∀ k,There M1 k→k<nb+2:=fun k hk=>Nat.lt_of_lt_of_le (hlt k hk) (Nat.le_add_right _ _);refine ⟨he,r',h1,h2,fun k b hk=>?_,fun _ hons _=>⟨h3,fun k cs hk=>?_,hlt'⟩⟩
 ·rw [h4 k (hlt' k (by simp [There,hk]))];exact hk
 ·have hk':=hlt' k (by simp [There,hk]);have h5:=(hons k cs (by rw [h4 k hk'];exact hk)).1;have h6:=(hons k cs (by rw [h4 k hk'];exact hk)).2 hk';refine ons_mono (fun j hj=>?_) cs (ons_and cs h5 h6);have:=h4 j hj.2;simp only [There] at hj ⊢;rw [← this];exact hj.1
theorem ltMp {n0 k:Nat} (h:k<n0):V.lt n0 (.mp k)=true:=by simp [V.lt,h]
theorem Tr.endW {x:CC} {Q:Ex→St→Prop} (σ2:St) (hx:Tr Γ x σ fun e σ'=>e = .norm∧WeakSt Γ σ' σ2) (hy:Q .norm σ2):Tr Γ x σ Q:=fun c hc a w g hs =>
 wp_mono (hx c hc a w g hs) fun _ _ _ ⟨x,σ',g',he,⟨h1,hw⟩,hs'⟩=>by
  subst h1;obtain ⟨g2,h2⟩:=hw _ _ _ hs';exact ⟨.norm,σ2,g2,he,hy,h2⟩
end Go.Abs
end
section
namespace Go.Abs
open Go
mutual
def frmV (k:Nat) (x:D):V→V
 | .und=>.und
 | .d y=>.d y
 | .agg cs=>.agg (frmVs k x cs)
 | .tup cs=>.tup (frmVs k x cs)
 | .own sz l=>.own sz l
 | .ownT sz l=>.ownT sz l
 | .ownV sz l=>.ownV sz l
 | .ptr k' o=>if k'=k then .und else .ptr k' o
 | .nilp=>.nilp
 | .f y=>.f y
 | .nils sz=>.nils sz
 | .cref cs=>.cref cs
 | .sl sz k' o n c=>if k'=k then .und else .sl sz k' o n c
 | .clo f cs=>.clo f (frmVs k x cs)
 | .mp k'=>if k'=k then .d x else .mp k'
def frmVs (k:Nat) (x:D):List V→List V
 | []=>[]
 | v::vs=>frmV k x v::frmVs k x vs
end
theorem Q2z (k:Nat) (x:D):∀ vs,frmVs k x vs=vs.map (frmV k x)
 | []=>rfl
 | v::vs=>by simp [frmVs,Q2z k x vs]
mutual
theorem Qbef {p:Nat→Prop} (k:Nat) (x:D):∀ v:V,v.on p→(frmV k x v).on fun j=>p j∧j≠k
 | .und,_=>trivial
 | .d _,_=>trivial
 | .agg cs,h=>ons_frm k x cs h
 | .tup cs,h=>ons_frm k x cs h
 | .own ..,_=>trivial
 | .ownT ..,_=>trivial
 | .ownV ..,_=>trivial
 | .ptr k' o,h=>by
  simp only [frmV];split
  ·trivial
  ·rename_i hne;exact ⟨h,hne⟩
 | .nilp,_=>trivial
 | .f _,_=>trivial
 | .nils _,_=>trivial
 | .cref _,_=>trivial
 | .sl sz k' o n c,h=>by
  simp only [frmV];split
  ·trivial
  ·rename_i hne;exact ⟨h,hne⟩
 | .clo _ cs,h=>ons_frm k x cs h
 | .mp k',h=>by
  simp only [frmV];split
  ·trivial
  ·rename_i hne;exact ⟨h,hne⟩
theorem ons_frm {p:Nat→Prop} (k:Nat) (x:D):∀ vs:List V,V.ons p vs→V.ons (fun j=>p j∧j≠k) (frmVs k x vs)
 | [],_=>trivial
 | v::vs,h=>⟨Qbef k x v h.1,ons_frm k x vs h.2⟩
end
section
variable {g:G} {w:World} {k:Nat} {x:D} [DecidablePred fun b=>b=g.box k] (hB:g.own (g.box k) = .box k) (hx:RD (g.frz k 1).imm w x (.map (some (g.box k))))
theorem Qow {k:Nat}:∀ ℓ i,ℓ≠Owner.box k→ℓ.sub i ≠ .box k:=by intro ℓ i _;cases ℓ<;>simp [Owner.sub]
include hB
theorem Qlb:Kept g w (g.frz k 1) w (fun j=>j≠k) (fun o=>o ≠ .box k):=by
 refine ⟨⟨fun _ _ h=>.inl h,fun _ _ _=>rfl⟩,fun _ _=>rfl,fun b hb _=>?_⟩;have hne:b≠g.box k:=by rintro rfl;exact hb hB
 exact ⟨by simp [G.frz,hne],rfl,fun o=>by simp [G.frz,hne]⟩
include hx
mutual
theorem Qbeg:∀ (v:V) (ℓ:Owner) (u:Value),ℓ ≠ .box k→RV g w v ℓ u→RV (g.frz k 1) w (frmV k x v) ℓ u
 | .agg cs,ℓ,u,hl,h=>by
  simp only [frmV,RV] at h ⊢;obtain ⟨vs,rfl,h,h1⟩:=h;exact ⟨vs,rfl,RVs_frm cs ℓ 0 vs h,h1⟩
 | .tup cs,ℓ,u,hl,h=>by
  simp only [frmV,RV] at h ⊢;obtain ⟨vs,rfl,h⟩:=h;exact ⟨vs,rfl,RVs_frm cs ℓ 0 vs h⟩
 | .clo f cs,ℓ,u,hl,h=>by
  simp only [frmV,RV] at h ⊢;obtain ⟨vs,rfl,h⟩:=h;exact ⟨vs,rfl,RVs_frm cs .ext 0 vs h⟩
 | .ptr k' o,ℓ,u,hl,h=>by
  simp only [frmV];split
  ·simp [RV]
  ·rename_i hne;exact Qch (Qlb hB) Qow (by simp) (.ptr k' o) ℓ u hl hne h
 | .sl sz k' o n c,ℓ,u,hl,h=>by
  simp only [frmV];split
  ·simp [RV]
  ·rename_i hne;exact Qch (Qlb hB) Qow (by simp) (.sl sz k' o n c) ℓ u hl hne h
 | .mp k',ℓ,u,hl,h=>by
  simp only [frmV];split
  ·rename_i he;subst he;simp only [RV] at h ⊢;subst h;exact hx
  ·rename_i hne;exact Qch (Qlb hB) Qow (by simp) (.mp k') ℓ u hl hne h
 | .und,_,_,_,_=>by simp [frmV,RV]
 | .d y,ℓ,u,hl,h=>Qch (Qlb hB) Qow (by simp) (.d y) ℓ u hl trivial h
 | .own sz l,ℓ,u,hl,h=>Qch (Qlb hB) Qow (by simp) (.own sz l) ℓ u hl trivial h
 | .ownT sz l,ℓ,u,hl,h=>Qch (Qlb hB) Qow (by simp) (.ownT sz l) ℓ u hl trivial h
 | .ownV sz l,ℓ,u,hl,h=>Qch (Qlb hB) Qow (by simp) (.ownV sz l) ℓ u hl trivial h
 | .nilp,ℓ,u,hl,h=>Qch (Qlb hB) Qow (by simp) .nilp ℓ u hl trivial h
 | .f y,ℓ,u,hl,h=>Qch (Qlb hB) Qow (by simp) (.f y) ℓ u hl trivial h
 | .nils sz,ℓ,u,hl,h=>Qch (Qlb hB) Qow (by simp) (.nils sz) ℓ u hl trivial h
 | .cref cs,ℓ,u,hl,h=>Qch (Qlb hB) Qow (by simp) (.cref cs) ℓ u hl trivial h
theorem RVs_frm:∀ (cs:List V) (ℓ:Owner) (i:Nat) (us:List Value),RVs g w cs ℓ i us→RVs (g.frz k 1) w (frmVs k x cs) ℓ i us
 | [],_,_,_,h=>by simpa [frmVs,RVs] using h
 | c::cs,ℓ,i,us,h=>by
  simp only [frmVs,RVs] at h ⊢;obtain ⟨u,us',rfl,h1,h2⟩:=h;have hne:ℓ.sub i ≠ .box k:=by cases ℓ<;>simp [Owner.sub]
  exact ⟨u,us',rfl,Qbeg c (ℓ.sub i) u hne h1,RVs_frm cs ℓ (i+1) us' h2⟩
end
end
theorem Qbb7 {g:G} {w:World} {ℓ:Owner} {u u' : Value} (h:(Qn3 u).dat1=true) (hr:RV g w (Qn3 u) ℓ u'):u'=u:=by
 cases u<;>simp [Qn3,V.dat1] at h<;>simpa [Qn3,RV,RD] using hr
theorem Q4i {g:G} {w:World} {ℓ:Owner}:∀ {us us' : List Value} {i:Nat},(us.map Qn3).all V.dat1=true→RVs g w (us.map Qn3) ℓ i us'→us'=us
 | [],_,_,_,h=>by simpa [RVs] using h
 | u::us,us',i,hd,h=>by
  simp only [List.map_cons,List.all_cons,Bool.and_eq_true] at hd;simp only [List.map_cons,RVs] at h;obtain ⟨v,vs,rfl,h1,h2⟩:=h;rw [Qbb7 hd.1 h1,Q4i hd.2 h2]
theorem Q8z {g:G} {w:World} {ℓ:Owner} {u u' : Value} (h:(Qvi u).dat=true) (hr:RV g w (Qvi u) ℓ u'):u'=u:=by
 cases u with
 | agg vs =>
  simp only [Qvi,RV] at hr;obtain ⟨us,rfl,h1,_⟩:=hr;rw [Q4i h h1]
 | _=>grind [Qvi,Qn3,V.dat,RV,RD]
theorem Qbb8 {g:G} {w:World} {kb:Nat}:∀ {ents ents' : List MapEntry},RM g w kb (ents.map entV) ents'→ents'=ents
 | [],_,h=>by simpa [RM] using h
 | e::ents,ents',h=>by
  simp only [List.map_cons,RM] at h;obtain ⟨e',t,rfl,⟨a1,a2⟩,⟨b1,b2⟩,h3,h4⟩:=h;rw [Qbb8 h4];obtain ⟨k,v,b⟩:=e;obtain ⟨k',v',b'⟩:=e';have b3:(Qvi v).dat=true:=by
   rcases Qrv b1 with h|⟨sz,l,h⟩
   ·exact h
   ·cases v<;>simp [entV,Qvi,Qn3] at h
  rw [show k'=k from Q8z a1 a2,show v'=v from Q8z b3 b2,show b'=b from h3]
variable {Γ:Env} {σ:St}
open Classical in
theorem Qbdo {k c:Nat} {ents:List MapEntry} (hk:Γ.n0≤k) (hM:σ.M k=some (.mp (ents.map entV) c)):WeakSt Γ σ (Qsa Γ.n0 k (frmV k (.mp ents c)) σ):=by
 intro a w g hs;obtain ⟨hltk,hB,ents',hh,hr⟩:=hs.mem.box k _ hM;rw [Qbb8 hr] at hh;have hx:RD (g.frz k 1).imm w (.mp ents c) (.map (some (g.box k))):=by
  simp only [RD];exact ⟨_,rfl,.inr ⟨rfl,by omega⟩,Qbcw hh⟩
 have hkept:=Qlb (w:=w) hB;have hthere:∀ j,(There σ.M j∧j≠k)→There (Qsa Γ.n0 k (frmV k (.mp ents c)) σ).M j:=by
  rintro j ⟨h1,h2⟩;simp only [There,Qsa,h2,if_false] at h1 ⊢;split
  ·exact h1
  ·cases hj:σ.M j with
   | none=>simp [hj] at h1
   | some b=>cases b<;>rfl
 have hown:∀ j,j≠k→g.own (g.box j) = .box j→(g.frz k 1).own (g.box j) = .box j:=by
  intro j hj ho;have hne:g.box j≠g.box k:=by
   intro e;rw [e,hB] at ho;cases ho;exact hj rfl
  simp [G.frz,hne,ho]
 refine ⟨g.frz k 1,⟨⟨fun j b hb=>?_,fun b o hbo=>?_⟩,fun t=>Qbeg hB hx _ _ _ (by simp) (hs.slots t),hs.size,hs.defers,fun t=>Qdp hthere _ (Qbef k _ _ (hs.onS t)),fun j cs' hb=>?_,hs.top,?_⟩⟩
 ·simp only [Qsa] at hb;split at hb
  ·cases hb
  ·rename_i hjk;split at hb
   ·rename_i hlt;obtain ⟨h1,h2,h3⟩:=hs.mem.box j b hb;refine ⟨h1,hown j hjk h2,?_⟩;cases b with
    | mp es c =>
     obtain ⟨ents,k1,k2⟩:=h3;exact ⟨ents,k1,Qi8 (g:=g) (g':=g.frz k 1) hkept (fun _=>by simp) k2⟩
    | cells cs2 =>
     obtain ⟨vals,e,k1,k2,k3⟩:=h3;have hon:=(hs.onM j cs2 hb).2 hlt;exact ⟨vals,e,k1,RVs_mono hkept Qow (by simp) _ _ _ _ (by intro e;cases e;exact hjk rfl) (ons_mono (fun i hi=>by omega) _ hon) k2,k3⟩
   ·split at hb
    ·rename_i hlt _ cs2 hcs;cases hb;obtain ⟨h1,h2,vals,e,k1,k2,k3⟩:=hs.mem.box j _ hcs;refine ⟨h1,hown j hjk h2,vals,e,k1,?_,k3⟩;rw [← Q2z];exact RVs_frm hB hx _ _ _ _ k2
    ·rename_i hne;obtain ⟨h1,h2,h3⟩:=hs.mem.box j b hb;cases b with
     | mp es c =>
      obtain ⟨ents,k1,k2⟩:=h3;exact ⟨h1,hown j hjk h2,ents,k1,Qi8 (g:=g) (g':=g.frz k 1) hkept (fun _=>by simp) k2⟩
     | cells cs2=>exact absurd hb (hne cs2)
 ·rcases hbo with hbo|⟨rfl,hlt⟩
  ·obtain ⟨h1,h2⟩:=hs.mem.imm b o hbo;refine ⟨h1,fun j=>?_⟩;simp only [G.frz];split
   ·simp
   ·exact h2 j
  ·exact ⟨(Array.getElem?_eq_some_iff.1 hh).1,fun j=>by simp [G.frz]⟩
 ·simp only [Qsa] at hb;split at hb
  ·cases hb
  ·rename_i hjk;split at hb
   ·rename_i hlt;obtain ⟨h1,h2⟩:=hs.onM j cs' hb;refine ⟨ons_mono (fun i hi=>hthere i ⟨hi.1,?_⟩) _ (ons_and cs' h1 (h2 hlt)),h2⟩;have:=hi.2;omega
   ·split at hb
    ·rename_i hlt _ cs2 hcs;cases hb;refine ⟨?_,fun h=>absurd h hlt⟩;rw [← Q2z];exact ons_mono hthere _ (ons_frm k _ _ (hs.onM j cs2 hcs).1)
    ·rename_i hne;exact absurd hb (hne cs')
 ·have hf:=hs.fr;refine ⟨hf.os,hf.tape,hf.output,hf.size,⟨fun b o h=>.inl (hf.imm.mono b o h),hf.imm.look⟩,hf.box,fun b hb ho=>?_⟩;obtain ⟨h1,h2,h3⟩:=hf.old b hb ho;have hne:b≠g.box k:=by
   rintro rfl;rw [hB] at h1;rw [← h1] at ho;exact ho
  exact ⟨by simp [G.frz,hne,h1],h2,fun o=>by simp [G.frz,hne,h3]⟩
def Qbeh:V→Value
 | .d (.int k n)=>.int k n
 | .d (.bool b)=>.bool b
 | .d (.str s)=>.string s
 | _=>undef
def Q6y:V→Value
 | .agg cs=>.agg (cs.map Qbeh).toArray
 | v=>Qbeh v
def Qbfl (e:V×V×Nat):MapEntry:=⟨Q6y e.1,Q6y e.2.1,e.2.2⟩
section
variable {κ β:Type}
def mpD (ek:κ→V) (ev:β→V) (m:List (κ×β)):D:=.mp ((mapE ek ev 0 m).map Qbfl) m.length
theorem Qzn {ek:κ→V} {ev:β→V} (hk:∀ a,Qvi (Q6y (ek a))=ek a) (hv:∀ b,Qvi (Q6y (ev b))=ev b):∀ (i:Nat) (m:List (κ×β)),((mapE ek ev i m).map Qbfl).map entV=mapE ek ev i m
 | _,[]=>rfl
 | i,(k,v)::m=>by
  have:=Qzn hk hv (i+1) m;simp only [mapE,List.map_cons,this];simp only [Qbfl,entV,hk,hv]
theorem Q1d (t:Nat) {E E' : List (Nat×V)} {L:List (Nat×Bx)} {L' : List (Nat×Bx)} {M0:Mem} {nb:Nat} {ek:κ→V} {ev:β→V} {m:List (κ×β)} (hM:Qbu L t=some (.mp (mapE ek ev 0 m) m.length))
  (hkk:∀ a,Qvi (Q6y (ek a))=ek a) (hvv:∀ b,Qvi (Q6y (ev b))=ev b)
  (hE:FE (frmV (Γ.n0+t) (mpD ek ev m)) (look E) E') (hL:FB (frmV (Γ.n0+t) (mpD ek ev m)) t L L') (hk:(L.all fun p=>Nat.beq p.1 t||L'.any fun q=>Nat.beq p.1 q.1)=true) :
  WeakSt Γ ⟨look E,Ql Γ.n0 L M0,nb⟩ ⟨look E',Ql Γ.n0 (bxs L') M0,nb⟩ :=
 Q4b _ t (Qbdo (σ:=⟨look E,Ql Γ.n0 L M0,nb⟩) (k:=Γ.n0+t) (by omega) (by show Ql Γ.n0 L M0 (Γ.n0+t)=_;rw [Qbt,Qzn hkk hvv];exact hM)) hE hL hk
end
theorem mMpS {n0 t:Nat} {x:D}:WkV (frmV (n0+t) x (.mp (n0+t))) (.d x):=.same (by simp [frmV])
section
variable {κ β:Type} [BEq κ] {Γ:Env} {pc d nb:Nat} {os:List COp} {E:List (Nat×V)} {M:Mem} {Q:St→Prop} {gd:Option (Nat×Bool)} {a b:Arg} {ek:κ→V} {ev:β→V} {m:List (κ×β)}
variable (hs:∀ a b,Qea (ek a) (ek b)=(a==b)) {kd:MK} (hk:∀ a,kd.ok (ek a)=true) (hv:∀ b,(ev b).dat=true) (hkk:∀ a,Qvi (Q6y (ek a))=ek a) (hvv:∀ b,Qvi (Q6y (ev b))=ev b)
theorem Q5e {k:κ} {zb:β}:∀ {m:List (κ×β)},hasM m k=false→getM m k zb=zb
 | [],_=>rfl
 | p::m,hh=>by
  simp only [hasM,List.any_cons,Bool.or_eq_false_iff] at hh;simp only [getM,hh.1,Bool.false_eq_true,if_false];exact Q5e hh.2
theorem Q5f (hv:∀ b,(ev b).dat=true):∀ (i:Nat) (m:List (κ×β)),((mapE ek ev i m).all fun e=>e.2.1.dat)=true
 | _,[]=>rfl
 | i,(k,v)::m=>by simp only [mapE,List.all_cons,hv,Q5f hv (i+1) m,Bool.and_self]
include hs hk hv hkk hvv
theorem Rn.lookupD {z:V} {k:κ} (zb:β) (hz:ev zb=z) (hw:Wn E gd) (ha:a.val (look E) = .d (mpD ek ev m)) (hb:(b.val (look E)).dem=ek k)
  (h:Rn Γ pc os ⟨look ((d,ev (getM m k zb))::E),M,nb⟩ Q):Rn Γ pc (⟨some d,.lookup kd false z,[a,b],false,gd⟩::os) ⟨look E,M,nb⟩ Q:=by
 subst hz;refine Rn.k hw rfl rfl ?_ h;simp only [List.map_cons,List.map_nil,V.dems,ha,hb,V.dem,mpD,Qm,Qzn hkk hvv,hk,Qjj hk,Bool.and_self,if_true,Qh4 hs 0 m zb,Q5f hv]
 grind [hasM,Q5e]
theorem Rn.lookupDC {z:V} {k:κ} (zb:β) (hz:ev zb=z) (hw:Wn E gd) (ha:a.val (look E) = .d (mpD ek ev m)) (hb:(b.val (look E)).dem=ek k)
  (h:Rn Γ pc os ⟨look ((d,.tup [ev (getM m k zb),.d (.bool (hasM m k))])::E),M,nb⟩ Q):Rn Γ pc (⟨some d,.lookup kd true z,[a,b],false,gd⟩::os) ⟨look E,M,nb⟩ Q:=by
 subst hz;refine Rn.k hw rfl rfl ?_ h;simp only [List.map_cons,List.map_nil,V.dems,ha,hb,V.dem,mpD,Qm,Qzn hkk hvv,hk,Qjj hk,Bool.and_self,if_true,Qh4 hs 0 m zb,Q5f hv]
 grind [hasM,Q5e]
end
end Go.Abs
end
section
namespace Go.Abs
open Go
theorem acB {P:Program} {f:FuncId} {args:List V} {M:Mem} {nb nb' : Nat} {r:V} {B B' : List (Nat×Bx)} (h:ACalls P f args M nb r (M.puts B') nb') (e:B'=B):ACalls P f args M nb r (M.puts B) nb':=e ▸ h
end Go.Abs
end
section
namespace Go.Abs
open Go
variable {α:Type}
variable {Γ:Env} {pc d nb:Nat} {os:List COp} {E:List (Nat×V)} {M M0:Mem} {L:List (Nat×Bx)} {Q:St→Prop} {gd:Option (Nat×Bool)} {a b:Arg} {g:α→List V} {xs:List α} {sz:Nat}
end Go.Abs
end
section
namespace Go.Abs
open Go
section
variable {lk:Option Bx} {P:Prop} {f:V→V} {cs cs' : List V}
theorem bS (h1:lk=some (.cells cs)) (h2:P) (h3:cs.map f=cs'):∃ cs,lk=some (.cells cs)∧P∧WkVs (cs.map f) cs':=⟨cs,h1,h2,.same h3⟩
theorem bM {α:Type} {g:α→List V} {xs:List α} (h1:lk=some (.cells (Qb7 g xs))) (h2:P) (h3:∀ x,(g x).map f=g x):∃ cs,lk=some (.cells cs)∧P∧WkVs (cs.map f) (Qb7 g xs):=⟨_,h1,h2,Qbd9 h3⟩
end
theorem mB {n0:Nat} {L:List (Nat×Bx)} {M0:Mem}:∀ k,k<n0→Ql n0 L M0 k=M0 k:=fun _ hk=>Q8 hk
theorem cS {v v' : V} {vs vs' : List V} (h:v=v') (t:WkVs vs vs'):WkVs (v::vs) (v'::vs'):=.cons (sm h) t
section
variable {Γ:Env} {pc:Nat} {os:List COp} {E:List (Nat×V)} {M:Mem} {nb:Nat} {Q:St→Prop}
theorem lB {d:Nat} {a:Arg} {L:List (Nat×Bx)} {M0:Mem} {t off n:Nat} {ag:Bool} {cs:List V} {v:V} (ha:a.val (look E) = .ptr (Γ.n0+t) off) (hM:Qbu L t=some (.cells cs)) (hn:Nat.ble (off+n) cs.length=true) (hv:(if ag then some (.agg (V.dems ((cs.drop off).take n))) else (cs[off]?).map (·.dem))=some v)
  (h:Rn Γ pc os ⟨look ((d,v)::E),Ql Γ.n0 L M0,nb⟩ Q):Rn Γ pc (⟨some d,.load ag n,[a],false,none⟩::os) ⟨look E,Ql Γ.n0 L M0,nb⟩ Q:=Rn.load trivial ha (Qbf hM) hn hv h
end
end Go.Abs
end
section
namespace Go.Abs
universe u
open Go
section
variable {κ α:Type} [BEq κ]
abbrev ownE (sz:Nat) (e:α→List D) (x:List α):V:=.own sz (x.map e)
def mapH (ek:κ→V) (sz:Nat) (e:α→List D) (k:κ):Nat→List (κ×List α)→List (V×V×Nat)
 | _,[]=>[]
 | i,(k',v)::m=>if k==k' then (ek k',.d (.lst sz (v.map e)),i)::mapE ek (ownE sz e) (i+1) m else (ek k',ownE sz e v,i)::mapH ek sz e k (i+1) m
abbrev takH (sz:Nat) (e:α→List D) (m:List (κ×List α)) (k:κ):V:=if hasM m k then .own sz ((getM m k []).map e) else .nils sz
variable {ek:κ→V} {sz:Nat} {e:α→List D}
theorem Q80 {ev:α→V}:∀ {n i:Nat} (m:List (κ×α)),n≤i→upM n (mapE ek ev i m)=true
 | _,_,[],_=>rfl
 | n,i,_::m,h=>by
  simp only [mapE,upM,decide_eq_true h,Bool.true_and];exact Q80 m (Nat.le_refl _)
theorem Q20 {k:κ}:∀ {i:Nat} {m:List (κ×List α)},hasM m k=false→mapH ek sz e k i m=mapE ek (ownE sz e) i m
 | _,[],_=>rfl
 | i,(k',v)::m,h=>by
  simp only [hasM,List.any_cons,Bool.or_eq_false_iff] at h;simp only [mapH,mapE,h.1,Bool.false_eq_true,if_false];rw [Q20 (m:=m) h.2]
theorem Q6z {k:κ}:∀ {i:Nat} {m:List (κ×List α)},hasM m k=true→∃ x,(mapE ek (ownE sz e) i m)[idxS m k]? = some x∧modM x.1 (.d (.lst sz ((getM m k []).map e))) (idxS m k) (mapE ek (ownE sz e) i m)=mapH ek sz e k i m
 | _,[],h=>by cases h
 | i,(k',v)::m,h=>by
  simp only [hasM,List.any_cons] at h;simp only [idxS,mapE,mapH,getM];cases hb:(k==k') with
  | true=>exact ⟨_,rfl,by simp [modM]⟩
  | false =>
   rw [hb] at h;obtain ⟨x,h1,h2⟩:=Q6z (i:=i+1) (m:=m) (k:=k) (by simpa [hasM] using h);refine ⟨x,by simpa using h1,?_⟩;simp only [Bool.false_eq_true,if_false,modM,h2]
theorem Q81 {k:κ} {kd:MK} (hk:∀ a,kd.ok (ek a)=true):∀ (i:Nat) (m:List (κ×List α)),kd.all (mapH ek sz e k i m)=true
 | _,[]=>rfl
 | i,(k',v)::m=>by
  simp only [mapH];have h1:=Qjj (ev:=ownE sz e) hk (i+1) m;have h2:=Q81 (k:=k) hk (i+1) m;simp only [MK.all] at *
  split<;>simp [hk,h1,h2]
theorem Q60 (hs:∀ a b,Qea (ek a) (ek b)=(a==b)) {k:κ}:∀ (i:Nat) (m:List (κ×List α)),Qg1 (ek k) (mapH ek sz e k i m)=if hasM m k then some (idxS m k,.d (.lst sz ((getM m k []).map e))) else none
 | _,[]=>rfl
 | i,(k',v)::m=>by
  simp only [mapH,Q6s,idxS,getM];by_cases hb:(k==k')=true
  ·simp [Qg1,hs,hb]
  ·simp only [hb,Bool.false_eq_true,if_false,Qg1,hs,Bool.false_or,Q60 hs (i+1) m];by_cases hq:hasM m k=true
   ·rw [if_pos hq,if_pos hq];rfl
   ·rw [if_neg hq,if_neg hq];rfl
theorem Q82 {k:κ} {v:List α}:∀ (i:Nat) {m:List (κ×List α)},hasM m k=true→modM (ek k) (ownE sz e v) (idxS m k) (mapH ek sz e k i m)=mapE ek (ownE sz e) i (setM m k v)
 | _,[],h=>by cases h
 | i,(k',v')::m,h=>by
  simp only [hasM,List.any_cons] at h;simp only [idxS,setM,mapH];cases hb:(k==k') with
  | true=>simp [modM,mapE]
  | false =>
   rw [hb] at h;simp only [Bool.false_eq_true,if_false,modM,mapE];rw [Q82 (i+1) (by simpa [hasM] using h)]
variable {Γ:Env} {pc d nb:Nat} {os:List COp} {E:List (Nat×V)} {M M' M0:Mem} {L:List (Nat×Bx)} {Q:St→Prop} {gd:Option (Nat×Bool)} {a b c:Arg} {m:List (κ×List α)}
section
variable (hs:∀ a b,Qea (ek a) (ek b)=(a==b)) {kd:MK} (hk:∀ a,kd.ok (ek a)=true)
include hs hk
theorem Rn.lookupT {t:Nat} {z:V} {k:κ} (hz:z = .nils sz) (hw:Wn E gd) (ha:a.val (look E) = .mp (Γ.n0+t)) (hb:(b.val (look E)).dem=ek k) (hM:Qbu L t=some (.mp (mapE ek (ownE sz e) 0 m) m.length))
  (h:Rn Γ pc os ⟨look ((d,takH sz e m k)::E),Ql Γ.n0 ((t,.mp (mapH ek sz e k 0 m) m.length)::L) M0,nb⟩ Q):Rn Γ pc (⟨some d,.lookupT kd z,[a,b],false,gd⟩::os) ⟨look E,Ql Γ.n0 L M0,nb⟩ Q:=by
 subst hz;refine Rn.k hw rfl rfl ?_ h;simp only [List.map_cons,List.map_nil,V.dems,ha,hb,V.dem,Qm,Qbf hM,hk,Qjj hk,Q80 m (Nat.le_refl _),Bool.and_self,if_true,Qh4 hs 0 m []];rw [← Qeu];cases hh:hasM m k with
 | true =>
  obtain ⟨x,h1,h2⟩:=Q6z (ek:=ek) (sz:=sz) (e:=e) (i:=0) hh;simp only [if_true,h1,Option.map_some,takH,hh,h2]
 | false =>
  simp only [Bool.false_eq_true,if_false,takH,hh,Q20 hh];have:(Ql Γ.n0 L M0).put (Γ.n0+t) (.mp (mapE ek (ownE sz e) 0 m) m.length)=Ql Γ.n0 L M0:=by
   funext j;simp only [Mem.put];split
   ·rename_i hj;subst hj;exact (Qbf hM).symm
   ·rfl
  rw [this];rfl
theorem Rn.lookupO {k0:Nat} {z:V} {k:κ} (hz:z = .d (.lst sz [])) (hw:Wn E gd) (ha:a.val (look E) = .mp k0) (hb:(b.val (look E)).dem=ek k) (hM:M k0=some (.mp (mapE ek (ownE sz e) 0 m) m.length))
  (h:Rn Γ pc os ⟨look ((d,.d (.lst sz ((getM m k []).map e)))::E),M,nb⟩ Q):Rn Γ pc (⟨some d,.lookup kd false z,[a,b],false,gd⟩::os) ⟨look E,M,nb⟩ Q:=by
 subst hz;refine Rn.k hw rfl rfl ?_ h;simp only [List.map_cons,List.map_nil,V.dems,ha,hb,V.dem,Qm,hM,hk,Qjj hk,Bool.and_self,if_true,Qh4 hs 0 m []];cases hh:hasM m k with
 | true=>simp [V.mv,V.dem]
 | false =>
  have:getM m k ([]:List α)=[]:=by
   clear hM h
   induction m with
   | nil=>rfl
   | cons p m ih =>
    simp only [hasM,List.any_cons,Bool.or_eq_false_iff] at hh;simp only [getM,hh.1,Bool.false_eq_true,if_false];exact ih hh.2
  simp [this,V.dat]
theorem Rn.mapsetT {t u:Nat} {k:κ} {v:List α} (hw:Wn E gd) (ha:a.val (look E) = .mp (Γ.n0+t)) (hb:b.val (look E)=ek k) (hc:look E u = .own sz (v.map e)) (hM:Qbu L t=some (.mp (mapH ek sz e k 0 m) m.length))
  (h:Rn Γ pc os ⟨look ((u,.d (.lst sz (v.map e)))::E),Ql Γ.n0 ((t,.mp (mapE ek (ownE sz e) 0 (setM m k v)) (setM m k v).length)::L) M0,nb⟩ Q):Rn Γ pc (⟨none,.mapsetT kd,[a,b,.t u],true,gd⟩::os) ⟨look E,Ql Γ.n0 L M0,nb⟩ Q:=by
 refine Rn.cons ?_;unfold COp.run;rw [hw.wanted];have hm:[a,b,Arg.t u].map (fun x=>x.val (look E))=[.mp (Γ.n0+t),ek k,.own sz (v.map e)]:=by
  simp only [List.map_cons,List.map_nil,ha,hb];rw [show (Arg.t u).val (look E)=_ from hc]
 have hst:Qm Γ.n0 (Γ.n0+0) (.mapsetT kd) [.mp (Γ.n0+t),ek k,.own sz (v.map e)] (Ql Γ.n0 L M0)=some (.und,Ql Γ.n0 ((t,.mp (mapE ek (ownE sz e) 0 (setM m k v)) (setM m k v).length)::L) M0):=by
  simp only [Qm,Qbf hM,hk,Q81 hk,Bool.and_self,if_true,Q60 hs];rw [← Qeu];cases hh:hasM m k with
  | true=>simp only [if_true];rw [Q82 0 hh,Qqj hh]
  | false =>
   simp only [Bool.false_eq_true,if_false];rw [Qwi hh,Qqi,Q20 hh];simp [mapE]
 simp only [K.isCall,K.isNil,Bool.false_eq_true,if_false,COp.step,COp.xs,if_true,Option.getD_none,hm,hst,Qbd];have hsl:Qba (look E) [a,b,Arg.t u] (Qb4 (.mapsetT kd) [.mp (Γ.n0+t),ek k,.own sz (v.map e)])=look ((u,.d (.lst sz (v.map e)))::E):=by
  simp only [Qb4,Qba,V.dem];have put_same' : ∀ (x:Arg) (v:V),x.val (look E)=v→x.putTo (look E) v=look E:=by
   intro x v hv;cases x with
   | c _=>rfl
   | t i =>
    funext j;simp only [Arg.putTo,Sl.put];split
    ·rename_i hj;subst hj;exact hv.symm
    ·rfl
  rw [put_same' a _ ha,put_same' b _ hb];exact Qcj E u _
 rw [hsl];exact h
end
theorem Rn.appH {t bytes:Nat} {k:κ} {ys zs:List α} {src:V} (hw:Wn E gd) (ha:look E t=takH sz e m k) (hb:b.val (look E)=src) (hf:src.dem=src) (hss:Qf8 M sz src=some (ys.map e)) (hx:appO (getM m k []) ys=some zs) (hbd:(Nat.ble bytes 128&&Nat.ble 1 sz)=true)
  (h:Rn Γ pc os ⟨look ((d,.own sz (zs.map e))::(t,(takH sz e m k).dem)::E),M,nb⟩ Q):Rn Γ pc (⟨some d,.append sz bytes,[.t t,b],true,gd⟩::os) ⟨look E,M,nb⟩ Q:=by
 unfold appO at hx;split at hx<;>cases hx;rename_i hl;simp only [Bool.and_eq_true] at hbd;have h1:=Nat.le_of_ble_eq_true hbd.1;have h2:0<sz:=Nat.le_of_ble_eq_true hbd.2;have hm:[Arg.t t,b].map (fun x=>x.val (look E))=[takH sz e m k,src]:=by
  simp only [List.map_cons,List.map_nil,hb];rw [show (Arg.t t).val (look E)=_ from ha]
 have hgn:hasM m k=false→getM m k ([]:List α)=[]:=by
  intro hh;clear ha h hm hl
  induction m with
  | nil=>rfl
  | cons p m ih =>
   simp only [hasM,List.any_cons,Bool.or_eq_false_iff] at hh;simp only [getM,hh.1,Bool.false_eq_true,if_false];exact ih hh.2
 refine Rn.kT hw rfl rfl (v:=.own sz ((getM m k []++ys).map e)) ?_ (fun i=>?_) h
 ·rw [hm];cases hh:hasM m k with
  | true=>simp [takH,hh,Qm,hss,h1,h2,hl]
  | false =>
   have:=hgn hh;rw [this] at hl ⊢;simp at hl;simp [takH,hh,Qm,hss,h1,h2,hl]
 ·rw [hm];simp only [Qb4,hf,Qba,show ∀ s v,(Arg.t t).putTo s v=s.put t v from fun _ _=>rfl];have hz:∀ s:Sl,b.val s=src→b.putTo s src=s:=by
   intro s hs;cases b with
   | c v=>rfl
   | t u =>
    simp only [Arg.val] at hs;funext i;simp only [Arg.putTo,Sl.put];split
    ·rename_i e;subst e;exact hs.symm
    ·rfl
  have hne:∀ u,b = .t u→u≠t∨src=(takH sz e m k).dem:=by
   rintro u rfl;by_cases hut:u=t
   ·subst hut;simp only [Arg.val] at hb;rw [ha] at hb;exact .inr (by rw [hb,hf])
   ·exact .inl hut
  rw [hz]
  ·rw [Qcj,Qcj]
  ·cases b with
   | c v=>exact hb
   | t u =>
    simp only [Arg.val,Sl.put];split
    ·rename_i hut;rcases hne u rfl with h|h
     ·exact absurd hut h
     ·exact h.symm
    ·exact hb
end
theorem sq {v:V}:WkV v v:=.same rfl
theorem sj {β:Type u} {x y:β} (h:some x=some y):y=x:=(Option.some.inj h).symm
def fl2 (off:Nat):V→Option (Nat×Nat)
 | .ptr k o=>some (k,o+off)
 | _=>none
def bi2 (op:BinOp) (tb:Bool):V→V→Option D
 | .d x,.d y=>binD op tb x y
 | _,_=>none
section
variable {Γ:Env} {pc:Nat} {os:List COp} {E:List (Nat×V)} {M:Mem} {nb:Nat} {Q:St→Prop} {d:Nat} {a b c:Arg}
theorem fP {k off o' : Nat} (ha:fl2 off (a.val (look E))=some (k,o')) (h:Rn Γ pc os ⟨look ((d,.ptr k o')::E),M,nb⟩ Q):Rn Γ pc (⟨some d,.fld off,[a],false,none⟩::os) ⟨look E,M,nb⟩ Q:=by
 cases hv:a.val (look E)<;>rw [hv] at ha<;>simp only [fl2,Option.some.injEq,Prod.mk.injEq,reduceCtorEq] at ha;obtain ⟨rfl,rfl⟩:=ha;exact Rn.fldP tv hv rfl h
theorem bN {op:BinOp} {tb:Bool} {z:D} (ha:bi2 op tb (a.val (look E)) (b.val (look E))=some z) (h:Rn Γ pc os ⟨look ((d,.d z)::E),M,nb⟩ Q):Rn Γ pc (⟨some d,.bin op tb,[a,b],false,none⟩::os) ⟨look E,M,nb⟩ Q:=by
 cases hv:a.val (look E)<;>cases hw:b.val (look E)<;>rw [hv,hw] at ha<;>simp only [bi2,reduceCtorEq] at ha;exact Rn.bin tv hv hw ha h
theorem sK {t:Nat} {k:K} {as:List Arg} {tk:Bool} {g:Nat} {q want:Bool} (h1:look E g = .d (.bool q)) (h2:q = !want) (h:Rn Γ pc os ⟨look ((t,.tup [])::E),M,nb⟩ Q):Rn Γ pc (⟨some t,k,as,tk,some (g,want)⟩::os) ⟨look E,M,nb⟩ Q:=Rn.sk (nw h1 h2) h
theorem pT (v:V) {q:Bool} (hq:c.val (look E) = .d (.bool q)) (hb:q=true) (ha:(a.val (look E)).dem=v) (h:Rn Γ pc os ⟨look ((d,v)::E),M,nb⟩ Q):Rn Γ pc (⟨some d,.pick,[c,a,b],false,none⟩::os) ⟨look E,M,nb⟩ Q:=Rn.pickT tv hq hb ha h
theorem pF (v:V) {q:Bool} (hq:c.val (look E) = .d (.bool q)) (hb:q=false) (ha:(b.val (look E)).dem=v) (h:Rn Γ pc os ⟨look ((d,v)::E),M,nb⟩ Q):Rn Γ pc (⟨some d,.pick,[c,a,b],false,none⟩::os) ⟨look E,M,nb⟩ Q:=Rn.pickF tv hq hb ha h
theorem mv (v:V) (ha:(a.val (look E)).dem=v) (h:Rn Γ pc os ⟨look ((d,v)::E),M,nb⟩ Q):Rn Γ pc (⟨some d,.mov,[a],false,none⟩::os) ⟨look E,M,nb⟩ Q:=Rn.mov tv ha h
theorem nO {σ:St} {y:CC} {Q:Ex→St→Prop} (h:Tr Γ y σ Q):Rn Γ pc [] σ (Qbbo Γ y Q .norm):=Rn.nil (toN h)
end
end Go.Abs
end
section
namespace Go.Abs
open Go
variable {α:Type}
def updO (xs:List α) (i:Int) (φ:α→α):Option (List α):=(getO xs i).bind fun x=>setO xs i (φ x)
variable {Γ:Env} {pc d nb:Nat} {os:List COp} {E:List (Nat×V)} {M M0:Mem} {L:List (Nat×Bx)} {Q:St→Prop} {gd:Option (Nat×Bool)} {a b:Arg} {g:α→List V} {e:α→List D} {xs:List α} {sz:Nat}
end Go.Abs
end
section
namespace Go.Abs
open Go
variable {Γ:Env} {pc d nb sz:Nat} {os:List COp} {E:List (Nat×V)} {M M0:Mem} {Q:St→Prop} {L:List (Nat×Bx)} {a b c:Arg} {R:Type} {r:R} {gd:Option (Nat×Bool)} {α:Type} {e:α→List D} {xs:List α} {k:IntKind} {i:Int}
abbrev g1 (g:Nat) (o:COp):COp:=⟨o.dst,o.kind,o.args,o.tk,some (g,true)⟩
abbrev g0 (g:Nat) (o:COp):COp:=⟨o.dst,o.kind,o.args,o.tk,some (g,false)⟩
abbrev oI (d n a b:Nat):COp:=⟨some d,.idx n,[.t a,.t b],false,none⟩
abbrev oB (d:Nat) (p:BinOp) (a b:Arg):COp:=⟨some d,.bin p false,[a,b],false,none⟩
abbrev oN (d a:Nat):COp:=⟨some d,.nilchk,[.t a],false,none⟩
abbrev oE (d a:Nat):COp:=⟨some d,.len,[.t a],false,none⟩
abbrev oC (d:Nat) (n:Int):COp:=⟨some d,.mov,[cI n],false,none⟩
abbrev oJ (d n a:Nat):COp:=⟨some d,.load true n,[.t a],false,none⟩
abbrev oT (d a:Nat):COp:=⟨some d,.mov,[.t a],true,none⟩
abbrev oX (d i a:Nat):COp:=⟨some d,.extract i,[.t a],false,none⟩
abbrev oK (d f:Nat) (l:List Arg):COp:=⟨some d,.call f,l,false,none⟩
abbrev oP (d g x:Nat):COp:=⟨some d,.pick,[.t g,.t x,.c (.d (.bool false))],false,none⟩
abbrev oQ (d g x:Nat):COp:=⟨some d,.pick,[.t g,.c (.d (.bool true)),.t x],false,none⟩
abbrev oS (n a b:Nat):COp:=⟨none,.store n,[.t a,.t b],true,none⟩
abbrev oU (n a b:Nat):COp:=⟨none,.store n,[.t a,.t b],false,none⟩
abbrev oA (d n m a b:Nat):COp:=⟨some d,.append n m,[.t a,.t b],true,none⟩
abbrev sg (l:List COp) (c:CC):CC:=.seq (.region l 9 []) c
abbrev rg (l:List COp):CC:=.region l 9 []
inductive Ls:List V→List V→Prop
  | nil:Ls [] []
  | d {x:D} {l m:List V} (h:Ls l m):Ls (.d x::l) (.d x::m)
  | cons {x:V} {l m:List V} (h:Ls l m):Ls (x::l) (x::m)
theorem Ls.eq {l m:List V} (h:Ls l m):l=m:=by
  induction h with
  | nil=>rfl
  | d _ ih=>rw [ih]
  | cons _ ih=>rw [ih]
structure Fu (n:Nat):Prop where
  t:True
structure Hd (m:Nat) (q:Prop):Prop where
  g:q
theorem Fu.dn {n:Nat} (h:Fu (n+1)):Fu n:=⟨tv⟩
theorem zL {t off n:Nat} {ag:Bool} {cs:List V} {v w:V} (hw:Wn E gd) (ha:a.val (look E) = .ptr (Γ.n0+t) off) (hM:Qbu L t=some (.cells cs)) (hn:Nat.ble (off+n) cs.length=true) (hv:(if ag then some (.agg (V.dems ((cs.drop off).take n))) else (cs[off]?).map (·.dem))=some w) (he:w=v)
    (h:Rn Γ pc os ⟨look ((d,v)::E),Ql Γ.n0 L M0,nb⟩ Q):Rn Γ pc (⟨some d,.load ag n,[a],false,gd⟩::os) ⟨look E,Ql Γ.n0 L M0,nb⟩ Q:=Rn.load hw ha (Qbf hM) hn (he ▸ hv) h
theorem zLb {k off n:Nat} {ag:Bool} {cs:List V} {v w:V} (hw:Wn E gd) (ha:a.val (look E) = .ptr k off) (hM:M k=some (.cells cs)) (hn:Nat.ble (off+n) cs.length=true) (hv:(if ag then some (.agg (V.dems ((cs.drop off).take n))) else (cs[off]?).map (·.dem))=some w) (he:w=v)
    (h:Rn Γ pc os ⟨look ((d,v)::E),M,nb⟩ Q):Rn Γ pc (⟨some d,.load ag n,[a],false,gd⟩::os) ⟨look E,M,nb⟩ Q:=Rn.load hw ha hM hn (he ▸ hv) h
theorem zI {g:α→Option R} (hw:Wn E gd) (ha:(a.val (look E)).dem = .d (.lst sz (xs.map e))) (hb:b.val (look E) = .d (.int k i)) (h:(getO xs i).bind g=some r)
    (K:∀ x,g x=some r→Rn Γ pc os ⟨look ((d,.cref (e x))::E),M,nb⟩ Q):Rn Γ pc (⟨some d,.idx sz,[a,b],false,gd⟩::os) ⟨look E,M,nb⟩ Q:=by
  obtain ⟨x,hx,h⟩:=bnd h
  exact Rn.idxD hw ha hb hx (K x h)
theorem zX {kk len cap:Nat} {g:Unit→Option R} (hw:Wn E gd) (ha:(a.val (look E)).dem = .sl sz kk 0 len cap) (hb:b.val (look E) = .d (.int k i)) (h:(inO len i).bind g=some r)
    (K:g ()=some r→Rn Γ pc os ⟨look ((d,.ptr kk (0+i.toNat*sz))::E),M,nb⟩ Q):Rn Γ pc (⟨some d,.idx sz,[a,b],false,gd⟩::os) ⟨look E,M,nb⟩ Q:=by
  obtain ⟨⟨⟩,hx,h⟩:=bnd h
  exact Rn.idxA hw ha hb hx (K h)
section
variable {t bytes:Nat} {ys:List α} {src:V} {g:List α→Option R}
theorem zA (hw:Wn E gd) (ha:look E t = .own sz (xs.map e)) (hb:b.val (look E)=src) (hf:src.dem=src) (h:(appO xs ys).bind g=some r) (hs:Qf8 M sz src=some (ys.map e)) (hbd:(Nat.ble bytes 128&&Nat.ble 1 sz)=true)
    (K:∀ x,g x=some r→Rn Γ pc os ⟨look ((d,.own sz (x.map e))::(t,.d (.lst sz (xs.map e)))::E),M,nb⟩ Q):Rn Γ pc (⟨some d,.append sz bytes,[.t t,b],true,gd⟩::os) ⟨look E,M,nb⟩ Q:=by
  obtain ⟨x,hx,h⟩:=bnd h
  exact Rn.app hw ha hb hf hs hx hbd (K x h)
theorem zA0 {u:Nat} {cs:List V} (hw:Wn E gd) (ha:look E t = .sl sz (Γ.n0+u) 0 0 0) (hM:Qbu L u=some (.cells cs)) (hb:b.val (look E)=src) (hf:src.dem=src) (h:(appO ([]:List α) ys).bind g=some r) (hs:Qf8 (Ql Γ.n0 L M0) sz src=some (ys.map e)) (hbd:(Nat.ble bytes 128&&Nat.ble 1 sz)=true)
    (K:∀ x,g x=some r→Rn Γ pc os ⟨look ((d,.own sz (x.map e))::E),Ql Γ.n0 L M0,nb⟩ Q):Rn Γ pc (⟨some d,.append sz bytes,[.t t,b],true,gd⟩::os) ⟨look E,Ql Γ.n0 L M0,nb⟩ Q:=by
  obtain ⟨x,hx,h⟩:=bnd h
  exact Rn.app0 hw ha hM hb hf hs hx hbd (K x h)
theorem zSL {lo:Int} (hw:Wn E gd) (ha:(a.val (look E)).dem = .d (.lst sz (xs.map e))) (hb:b.val (look E) = .d (.int k lo)) (h:(slcO xs lo xs.length).bind g=some r) (K:∀ x,g x=some r→Rn Γ pc os ⟨look ((d,.d (.lst sz (x.map e)))::E),M,nb⟩ Q):Rn Γ pc (⟨some d,.slice sz true false,[a,b],false,gd⟩::os) ⟨look E,M,nb⟩ Q:=by
  obtain ⟨x,hx,h⟩:=bnd h
  exact Rn.slcL hw ha hb hx (K x h)
theorem zSH {hi:Int} (hw:Wn E gd) (ha:(a.val (look E)).dem = .d (.lst sz (xs.map e))) (hb:b.val (look E) = .d (.int k hi)) (h:(slcO xs 0 hi).bind g=some r) (K:∀ x,g x=some r→Rn Γ pc os ⟨look ((d,.d (.lst sz (x.map e)))::E),M,nb⟩ Q):Rn Γ pc (⟨some d,.slice sz false true,[a,b],false,gd⟩::os) ⟨look E,M,nb⟩ Q:=by
  obtain ⟨x,hx,h⟩:=bnd h
  exact Rn.slcH hw ha hb hx (K x h)
end
section
variable {g:α→List V} {G:α→Option R} {f n:Nat} {ag:Bool} {kk:Nat}
theorem zLa (hw:Wn E gd) (ha:a.val (look E) = .ptr kk (0+i.toNat*sz+f)) (hM:M kk=some (.cells (Qb7 g xs))) (h:(getO xs i).bind G=some r) (K:((∀ x,(g x).length=sz)∧Nat.ble (f+max n 1) sz=true)∧∀ x,G x=some r→∃ v w,(if ag then some (.agg (V.dems (((g x).drop f).take n))) else ((g x)[f]?).map (·.dem))=some w∧w=v∧Rn Γ pc os ⟨look ((d,v)::E),M,nb⟩ Q) :
    Rn Γ pc (⟨some d,.load ag n,[a],false,gd⟩::os) ⟨look E,M,nb⟩ Q:=by
  obtain ⟨x,hx,h⟩:=bnd h
  obtain ⟨v,w,h1,rfl,h2⟩:=K.2 x h
  exact Rn.loadA K.1.1 hw ha hM hx K.1.2 h1 h2
theorem zLa0 (hw:Wn E gd) (ha:a.val (look E) = .ptr kk (0+i.toNat*sz)) (hM:M kk=some (.cells (Qb7 g xs))) (h:(getO xs i).bind G=some r) (K:((∀ x,(g x).length=sz)∧Nat.ble (0+max n 1) sz=true)∧∀ x,G x=some r→∃ v w,(if ag then some (.agg (V.dems (((g x).drop 0).take n))) else ((g x)[0]?).map (·.dem))=some w∧w=v∧Rn Γ pc os ⟨look ((d,v)::E),M,nb⟩ Q) :
    Rn Γ pc (⟨some d,.load ag n,[a],false,gd⟩::os) ⟨look E,M,nb⟩ Q:=zLa (f:=0) hw ha hM h K
end
theorem zK {X:Option V} {v w:V} (hv:X=some w) (he:w=v) (h:Rn Γ pc os ⟨look ((d,v)::E),M,nb⟩ Q):∃ v w,X=some w∧w=v∧Rn Γ pc os ⟨look ((d,v)::E),M,nb⟩ Q:=⟨v,w,hv,he,h⟩
theorem zBx {n:Nat} {v:V} {cs:List V} (hw:Wn E gd) (ha:(a.val (look E)).dem=v) (hv:Qdy v=true) (hc:Ls v.cells cs) (hn:Nat.beq cs.length n=true) (hf:(Qbu L d).isNone=true)
    (h:Rn Γ pc os ⟨look ((d,.ptr (Γ.n0+d) 0)::E),Ql Γ.n0 ((d,.cells cs)::L) M0,nb⟩ Q):Rn Γ pc (⟨some d,.box n,[a],false,gd⟩::os) ⟨look E,Ql Γ.n0 L M0,nb⟩ Q:=Rn.box hw ha hv hc.eq hn hf h
theorem zBs {n:Nat} {z:List V} {ps:List Nat} {as:List Arg} {xs cs:List V} (hw:Wn E gd) (ha:Ls (V.dems (as.map (·.val (look E)))) xs) (hf:(Qbu L d).isNone=true)
    (hc:(Nat.beq ps.length xs.length&&decide (0<sz)&&z.length==sz&&(ps.zip xs).all (fun (i,x)=>Qdy x&&x.cells.length==sz&&decide (i<n)))=true)
    (hcs:Ls (Qiy (rep n z) ((ps.zip xs).map fun (i,x)=>(i*sz,x.cells))) cs)
    (h:Rn Γ pc os ⟨look ((d,.sl sz (Γ.n0+d) 0 n n)::E),Ql Γ.n0 ((d,.cells cs)::L) M0,nb⟩ Q):Rn Γ pc (⟨some d,.bslice sz n z ps,as,false,gd⟩::os) ⟨look E,Ql Γ.n0 L M0,nb⟩ Q:=Rn.bslice hw ha.eq hf hc hcs.eq h
theorem zBd {as:List Arg} {z vs cs xs:List V} {ps:List (Nat×Nat)} (hw:Wn E gd) (ha:Ls (V.dems (as.map (·.val (look E)))) xs) (hk:Qm Γ.n0 (Γ.n0+d) (.build z ps) xs M=some (.agg vs,M)) (hc:Ls vs cs) (h:Rn Γ pc os ⟨look ((d,.agg cs)::E),M,nb⟩ Q):Rn Γ pc (⟨some d,.build z ps,as,false,gd⟩::os) ⟨look E,M,nb⟩ Q :=
  Rn.build hw (by rw [ha.eq,hk,hc.eq]) h
theorem zSt {t off n:Nat} {v:V} {cs cs' : List V} (hw:Wn E gd) (ha:a.val (look E) = .ptr (Γ.n0+t) off) (hb:(b.val (look E)).dem=v) (hv:Qdy v=true) (hM:Qbu L t=some (.cells cs))
    (hn:(Nat.beq v.cells.length n&&Nat.ble (off+n) cs.length)=true) (hcs:Ls (cs.take off++v.cells++cs.drop (off+n)) cs')
    (h:Rn Γ pc os ⟨look E,Ql Γ.n0 ((t,.cells cs')::L) M0,nb⟩ Q):Rn Γ pc (⟨none,.store n,[a,b],false,gd⟩::os) ⟨look E,Ql Γ.n0 L M0,nb⟩ Q:=Rn.store hw ha hb hv hM hn hcs.eq h
theorem zSO {t u off:Nat} {l:List (List D)} {cs cs' : List V} (hw:Wn E gd) (ha:a.val (look E) = .ptr (Γ.n0+t) off) (hb:look E u = .own sz l) (hM:Qbu L t=some (.cells cs))
    (hn:Nat.ble (off+1) cs.length=true) (hcs:Ls (cs.take off++[.own sz l]++cs.drop (off+1)) cs')
    (h:Rn Γ pc os ⟨look ((u,.d (.lst sz l))::E),Ql Γ.n0 ((t,.cells cs')::L) M0,nb⟩ Q):Rn Γ pc (⟨none,.store 1,[a,.t u],true,gd⟩::os) ⟨look E,Ql Γ.n0 L M0,nb⟩ Q:=Rn.storeO hw ha hb hM hn hcs.eq h
theorem zSV {t u off:Nat} {v:V} {cs cs' : List V} (hw:Wn E gd) (ha:a.val (look E) = .ptr (Γ.n0+t) off) (hb:look E u=v) (hv:Qdy v=true) (hf:v.topS=v) (hf2:v.dem=v) (hM:Qbu L t=some (.cells cs))
    (hn:(Nat.beq v.cells.length 1&&Nat.ble (off+1) cs.length)=true) (hcs:Ls (cs.take off++v.cells++cs.drop (off+1)) cs')
    (h:Rn Γ pc os ⟨look E,Ql Γ.n0 ((t,.cells cs')::L) M0,nb⟩ Q):Rn Γ pc (⟨none,.store 1,[a,.t u],true,gd⟩::os) ⟨look E,Ql Γ.n0 L M0,nb⟩ Q:=Rn.storeV hw ha hb hv hf hf2 hM hn hcs.eq h
theorem zST {t u off n:Nat} {v:V} {ds cs cs' : List V} (hw:Wn E gd) (ha:a.val (look E) = .ptr (Γ.n0+t) off) (hb:look E u=v) (hv:Qdy v=true) (hds:Ls v.topS.cells ds) (hM:Qbu L t=some (.cells cs))
    (hn:(Nat.beq ds.length n&&Nat.ble (off+n) cs.length)=true) (hcs:Ls (cs.take off++ds++cs.drop (off+n)) cs')
    (h:Rn Γ pc os ⟨look ((u,v.dem)::E),Ql Γ.n0 ((t,.cells cs')::L) M0,nb⟩ Q):Rn Γ pc (⟨none,.store n,[a,.t u],true,gd⟩::os) ⟨look E,Ql Γ.n0 L M0,nb⟩ Q:=Rn.storeT hw ha hb hv hds.eq hM hn hcs.eq h
theorem zLT {t off:Nat} {l:List (List D)} {cs cs' : List V} (hw:Wn E gd) (ha:a.val (look E) = .ptr (Γ.n0+t) off) (hM:Qbu L t=some (.cells cs)) (hx:cs[off]? = some (.own sz l)) (hcs:Ls (cs.set off (.d (.lst sz l))) cs')
    (h:Rn Γ pc os ⟨look ((d,.own sz l)::E),Ql Γ.n0 ((t,.cells cs')::L) M0,nb⟩ Q):Rn Γ pc (⟨some d,.loadT,[a],false,gd⟩::os) ⟨look E,Ql Γ.n0 L M0,nb⟩ Q:=Rn.loadT hw ha hM hx hcs.eq h
theorem zE {i:Nat} {vs:List V} {v w:V} (hw:Wn E gd) (ha:(a.val (look E)).dem = .tup vs) (hv:vs[i]? = some w) (he:w=v) (ht:v.top=v) (h:Rn Γ pc os ⟨look ((d,v)::E),M,nb⟩ Q):Rn Γ pc (⟨some d,.extract i,[a],false,gd⟩::os) ⟨look E,M,nb⟩ Q:=Rn.ext hw ha (he ▸ hv) ht h
inductive Dr (L' : List (Nat×Bx)):List (Nat×Bx)→List Nat→Prop
  | nil:Dr L' [] []
  | keep {k:Nat} {v:Bx} {l:List (Nat×Bx)} {s:List Nat} (h:(L'.any fun q=>Nat.beq k q.1)=true) (t:Dr L' l s):Dr L' ((k,v)::l) s
  | drop {k:Nat} {v:Bx} {l:List (Nat×Bx)} {s:List Nat} (t:Dr L' l s):Dr L' ((k,v)::l) (k::s)
theorem Qbg2 {E E' : List (Nat×V)} {L L' : List (Nat×Bx)} {M0:Mem} {nb:Nat} {s:List Nat} (hs:Dr L' L s) (hE:KL Γ.n0 s (look E) E') (hL:KB Γ.n0 s L L')
    (hk:(L.all fun p=>s.any (Nat.beq p.1)||L'.any fun q=>Nat.beq p.1 q.1)=true):WeakSt Γ ⟨look E,Ql Γ.n0 L M0,nb⟩ ⟨look E',Ql Γ.n0 (bxs L') M0,nb⟩:=Ql8 _ hE hL hk
theorem exR {rs:List Res} {r' v:V} {σ:St} {M0:Mem} {n0:Nat} (h1:Qn4 σ rs=some r') (h2:Wk r' v) (h3:v.on (There M0)) (h4:∀ k,k<n0→σ.M k=M0 k):∃ r',Qn4 σ rs=some r'∧Wk r' v∧v.on (There M0)∧∀ k,k<n0→σ.M k=M0 k:=⟨r',h1,h2,h3,h4⟩
theorem KLn {n0:Nat} {s:List Nat} {f:Sl}:KL n0 s f []:=tv
theorem KLc {n0 t:Nat} {s:List Nat} {f:Sl} {v v0:V} {E:List (Nat×V)} (h0:f t=v0) (h:WkV (Qdl (Qjq n0 s) v0) v) (r:KL n0 s f E):KL n0 s f ((t,v)::E):=⟨h0 ▸ h,r⟩
theorem KBn {n0:Nat} {s:List Nat} {L:List (Nat×Bx)}:KB n0 s L []:=tv
theorem KBc {n0 t:Nat} {s:List Nat} {L L' : List (Nat×Bx)} {cs cs' : List V} (h:Qbu L t=some (.cells cs)) (h2:s.all (fun u=>!Nat.beq t u)=true) (h3:WkVs (cs.map (Qdl (Qjq n0 s))) cs') (r:KB n0 s L L'):KB n0 s L ((t,.cells cs')::L'):=⟨⟨cs,h,h2,h3⟩,r⟩
theorem KBm {n0 t c:Nat} {s:List Nat} {L L' : List (Nat×Bx)} {es:List (V×V×Nat)} (h:Qbu L t=some (.mp es c)) (h2:s.all (fun u=>!Nat.beq t u)=true) (r:KB n0 s L L'):KB n0 s L ((t,.mp es c)::L'):=⟨⟨h,h2⟩,r⟩
theorem v1 {p:Prop} (h:p:=by
  first
    | (apply kPtr;exact rfl)
    | (apply kSl;exact rfl)
    | (apply kMp;exact rfl)
    | exact sq
    | (apply WkV.dem';exact rfl)
    | exact WkV.nilsO _
    | exact WkV.nilsD _
    | (apply Qys;apply ltB hM;assumption)
    | (apply kSlB;apply ltB hM;assumption)
    | exact fToD
    | (apply kFun hM;assumption)
    | exact WkV.und _):p:=h
theorem vM {p:Prop} (h:p:=by repeat first|exact WkVs.nil|(apply WkVs.cons;exact v1)):p:=h
theorem vL {p:Prop} (h:p:=by repeat first|exact WkVs.nil|(apply WkVs.cons;first|exact v1|(apply WkV.agg;exact vM)|(apply WkV.tup;exact vM))):p:=h
theorem vK {p:Prop} (h:p:=by first
    | exact v1
    | (apply WkV.agg;exact vL)
    | (apply WkV.tup;exact vL)
    | (apply kClo;repeat first|exact Qbfg|apply kgD|(apply Qbfh;exact rfl)|(apply Qbgj;apply ltB hM;assumption))):p:=h
theorem vS {p:Prop} (h:p:=by first
    | (apply WkVs.same;exact rfl)
    | exact Qbd9 fun _=>rfl
    | (apply Qbg0;exact rfl;assumption)
    | exact vL):p:=h
theorem wk {p:Prop} (h:p:=by
  first
    | (show WeakSt _ (Ql2 _ _ _) ⟨look _,Ql _ (bxs _) _,_⟩;apply Q39
       · repeat first|exact KLn|(apply KLc;(conv=>lhs;whnf);exact vK)
       · repeat first|exact KBn|(apply KBc;exact rfl;exact rfl;exact vS)|(apply KBm;exact rfl;exact rfl)
       · exact rfl)
    | (show WeakSt _ ⟨look _,Ql _ _ _,_⟩ ⟨look _,Ql _ (bxs _) _,_⟩;apply Qbg2;(repeat first|exact Dr.nil|(apply Dr.keep;exact rfl)|apply Dr.drop)
       · repeat first|exact KLn|(apply KLc;(conv=>lhs;whnf);exact vK)
       · repeat first|exact KBn|(apply KBc;exact rfl;exact rfl;exact vS)|(apply KBm;exact rfl;exact rfl)
       · exact rfl)
    | (show WkV _ _;exact vK)):p:=h
theorem Z (n m:Nat) {p q:Prop} (k:q) (f:Fu n→Hd m q→p:=by
  intro t k
  repeat (replace t:=Fu.dn t;first
        | (show Rn _ _ (_::_) _ _;first
          | (apply md;exact rfl)
          | (apply bN;exact rfl)
          | (apply fP;exact rfl)
          | (apply zL;(first|exact tv|(apply gw;exact rfl;first|assumption|exact rfl|exact nT (by assumption)|exact nF (by assumption)));exact rfl;exact rfl;exact rfl;exact rfl;(conv=>lhs;whnf))
          | (apply sK;exact rfl;(first|assumption|exact rfl|exact nT (by assumption)|exact nF (by assumption)))
          | (apply Rn.sk (nu rfl))
          | (apply pT;exact rfl;(first|assumption|exact rfl|exact nT (by assumption)|exact nF (by assumption));(conv=>lhs;whnf))
          | (apply pF;exact rfl;(first|assumption|exact rfl|exact nT (by assumption)|exact nF (by assumption));(conv=>lhs;whnf))
          | (apply mv;(conv=>lhs;whnf))
          | (apply Rn.mov;(first|exact tv|(apply gw;exact rfl;first|assumption|exact rfl|exact nT (by assumption)|exact nF (by assumption)));(conv=>lhs;whnf))
          | (apply Rn.movTF;(first|exact tv|(apply gw;exact rfl;first|assumption|exact rfl|exact nT (by assumption)|exact nF (by assumption)));(conv=>lhs;whnf);exact rfl)
          | (apply Rn.movTO;(first|exact tv|(apply gw;exact rfl;first|assumption|exact rfl|exact nT (by assumption)|exact nF (by assumption)));exact rfl)
          | (apply Rn.movTC;(first|exact tv|(apply gw;exact rfl;first|assumption|exact rfl|exact nT (by assumption)|exact nF (by assumption))))
          | (apply Rn.bin;(first|exact tv|(apply gw;exact rfl;first|assumption|exact rfl|exact nT (by assumption)|exact nF (by assumption)));exact rfl;exact rfl;exact rfl)
          | (apply Rn.nilchkP;(first|exact tv|(apply gw;exact rfl;first|assumption|exact rfl|exact nT (by assumption)|exact nF (by assumption)));exact rfl)
          | (apply Rn.fldP;(first|exact tv|(apply gw;exact rfl;first|assumption|exact rfl|exact nT (by assumption)|exact nF (by assumption)));exact rfl;exact rfl)
          | (apply Rn.fldC;(first|exact tv|(apply gw;exact rfl;first|assumption|exact rfl|exact nT (by assumption)|exact nF (by assumption)));exact rfl)
          | (apply Rn.lenD;(first|exact tv|(apply gw;exact rfl;first|assumption|exact rfl|exact nT (by assumption)|exact nF (by assumption)));exact rfl)
          | (apply Rn.loadC;(first|exact tv|(apply gw;exact rfl;first|assumption|exact rfl|exact nT (by assumption)|exact nF (by assumption)));exact rfl)
          | (apply Rn.loadCA;(first|exact tv|(apply gw;exact rfl;first|assumption|exact rfl|exact nT (by assumption)|exact nF (by assumption)));exact rfl;exact rfl;exact rfl)
          | (apply zI;(first|exact tv|(apply gw;exact rfl;first|assumption|exact rfl|exact nT (by assumption)|exact nF (by assumption)));exact rfl;exact rfl;exact h;(try clear h);intro y h)
          | (apply zX;(first|exact tv|(apply gw;exact rfl;first|assumption|exact rfl|exact nT (by assumption)|exact nF (by assumption)));exact rfl;exact rfl;exact h;(try clear h);intro h)
          | (apply zLa0;(first|exact tv|(apply gw;exact rfl;first|assumption|exact rfl|exact nT (by assumption)|exact nF (by assumption)));exact rfl;(first|(apply Qbf;exact rfl)|(apply Qfm hM;assumption));exact h;refine ⟨⟨fun _=>rfl,rfl⟩,?_⟩;(try clear h);intro y h;apply zK;exact rfl;(conv=>lhs;whnf))
          | (apply zLa;(first|exact tv|(apply gw;exact rfl;first|assumption|exact rfl|exact nT (by assumption)|exact nF (by assumption)));exact rfl;(first|(apply Qbf;exact rfl)|(apply Qfm hM;assumption));exact h;refine ⟨⟨fun _=>rfl,rfl⟩,?_⟩;(try clear h);intro y h;apply zK;exact rfl;(conv=>lhs;whnf))
          | (apply zA;(first|exact tv|(apply gw;exact rfl;first|assumption|exact rfl|exact nT (by assumption)|exact nF (by assumption)));exact rfl;exact rfl;exact rfl;exact h;(first|(apply Q2r;exact rfl;exact rfl;exact rfl)|exact Q2q|exact rfl);exact rfl;(try clear h);intro y h)
          | (apply zA0;(first|exact tv|(apply gw;exact rfl;first|assumption|exact rfl|exact nT (by assumption)|exact nF (by assumption)));exact rfl;exact rfl;exact rfl;exact rfl;exact h;(first|(apply Q2r;exact rfl;exact rfl;exact rfl)|exact Q2q|exact rfl);exact rfl;(try clear h);intro y h)
          | (apply zLb;(first|exact tv|(apply gw;exact rfl;first|assumption|exact rfl|exact nT (by assumption)|exact nF (by assumption)));exact rfl;(first|(apply Qbf;exact rfl)|(apply Qfm hM;assumption));exact rfl;exact rfl;(conv=>lhs;whnf))
          | (apply zBs;(first|exact tv|(apply gw;exact rfl;first|assumption|exact rfl|exact nT (by assumption)|exact nF (by assumption)));(repeat first|exact Ls.nil|apply Ls.d|apply Ls.cons);exact rfl;exact rfl;(repeat first|exact Ls.nil|apply Ls.d|apply Ls.cons))
          | (apply zE;(first|exact tv|(apply gw;exact rfl;first|assumption|exact rfl|exact nT (by assumption)|exact nF (by assumption)));exact rfl;exact rfl;(conv=>lhs;whnf);exact rfl)
          | (apply Rn.un;(first|exact tv|(apply gw;exact rfl;first|assumption|exact rfl|exact nT (by assumption)|exact nF (by assumption)));exact rfl;exact rfl)
          | (apply zSt;(first|exact tv|(apply gw;exact rfl;first|assumption|exact rfl|exact nT (by assumption)|exact nF (by assumption)));exact rfl;(conv=>lhs;whnf);exact rfl;exact rfl;exact rfl;(repeat first|exact Ls.nil|apply Ls.d|apply Ls.cons))
          | (apply zSO;(first|exact tv|(apply gw;exact rfl;first|assumption|exact rfl|exact nT (by assumption)|exact nF (by assumption)));exact rfl;exact rfl;exact rfl;exact rfl;(repeat first|exact Ls.nil|apply Ls.d|apply Ls.cons))
          | (apply zSV;(first|exact tv|(apply gw;exact rfl;first|assumption|exact rfl|exact nT (by assumption)|exact nF (by assumption)));exact rfl;(conv=>lhs;whnf);exact rfl;exact rfl;exact rfl;exact rfl;exact rfl;(repeat first|exact Ls.nil|apply Ls.d|apply Ls.cons))
          | (apply zST;(first|exact tv|(apply gw;exact rfl;first|assumption|exact rfl|exact nT (by assumption)|exact nF (by assumption)));exact rfl;(conv=>lhs;whnf);exact rfl;(repeat first|exact Ls.nil|apply Ls.d|apply Ls.cons);exact rfl;exact rfl;(repeat first|exact Ls.nil|apply Ls.d|apply Ls.cons))
          | (apply zLT;(first|exact tv|(apply gw;exact rfl;first|assumption|exact rfl|exact nT (by assumption)|exact nF (by assumption)));exact rfl;exact rfl;exact rfl;(repeat first|exact Ls.nil|apply Ls.d|apply Ls.cons))
          | (apply zBx;(first|exact tv|(apply gw;exact rfl;first|assumption|exact rfl|exact nT (by assumption)|exact nF (by assumption)));(conv=>lhs;whnf);exact rfl;(repeat first|exact Ls.nil|apply Ls.d|apply Ls.cons);exact rfl;exact rfl)
          | (apply zBd;(first|exact tv|(apply gw;exact rfl;first|assumption|exact rfl|exact nT (by assumption)|exact nF (by assumption)));(repeat first|exact Ls.nil|apply Ls.d|apply Ls.cons);exact rfl;(repeat first|exact Ls.nil|apply Ls.d|apply Ls.cons))
          | (apply Rn.alloc;(first|exact tv|(apply gw;exact rfl;first|assumption|exact rfl|exact nT (by assumption)|exact nF (by assumption)));exact rfl)
          | (apply Rn.pickT;(first|exact tv|(apply gw;exact rfl;first|assumption|exact rfl|exact nT (by assumption)|exact nF (by assumption)));exact rfl;(first|assumption|exact rfl|exact nT (by assumption)|exact nF (by assumption));(conv=>lhs;whnf))
          | (apply Rn.pickF;(first|exact tv|(apply gw;exact rfl;first|assumption|exact rfl|exact nT (by assumption)|exact nF (by assumption)));exact rfl;(first|assumption|exact rfl|exact nT (by assumption)|exact nF (by assumption));(conv=>lhs;whnf))
          | (apply Rn.extTD;(first|exact tv|(apply gw;exact rfl;first|assumption|exact rfl|exact nT (by assumption)|exact nF (by assumption)));exact rfl;exact rfl;exact rfl)
          | (apply Rn.conv;(first|exact tv|(apply gw;exact rfl;first|assumption|exact rfl|exact nT (by assumption)|exact nF (by assumption)));exact rfl)
          | (apply Rn.lenS;(first|exact tv|(apply gw;exact rfl;first|assumption|exact rfl|exact nT (by assumption)|exact nF (by assumption)));exact rfl)
          | (apply zSL;(first|exact tv|(apply gw;exact rfl;first|assumption|exact rfl|exact nT (by assumption)|exact nF (by assumption)));exact rfl;exact rfl;exact h;(try clear h);intro y h)
          | (apply zSH;(first|exact tv|(apply gw;exact rfl;first|assumption|exact rfl|exact nT (by assumption)|exact nF (by assumption)));exact rfl;exact rfl;exact h;(try clear h);intro y h))
        | (show Rn _ _ _ _ _;first
          | refine Rn.nil ⟨rfl,?_⟩
          | refine Rn.nil ⟨by show Qpz _ _=true;first|rfl|(simp [Qpz,Qkv,look,Bool.cond_eq_ite,Nat.beq_eq];done),?_⟩
          | apply Rn.nil)
        | apply Tr.seq
        | apply Tr.rgn
        | apply Tr.rgnD (by decide)
        | apply Tr.block
        | apply Tr.skip
        | apply Tr.ret
        | apply Tr.exit)
  first
    | exact (k:Hd 0 _).g
    | (have k:=(k:Hd 1 _);clear t;revert h;repeat revert y
       exact k.g)
    | exact ⟨_,h,wk⟩
    | (cases sj h
       first
        | exact wk
        | exact ⟨.inr rfl,_,rfl,fun _ _ _ _ h=>h,tv,mB⟩
        | (refine ⟨by first|exact .inr rfl|exact .inl rfl,?_⟩;apply exR
           · first|exact rfl|(apply Q0k;exact rfl;exact rfl;exact rfl;exact rfl)|(apply res2<;>first|exact rfl|(apply Q0k;exact rfl;exact rfl;exact rfl;exact rfl))|(apply res3<;>first|exact rfl|(apply Q0k;exact rfl;exact rfl;exact rfl;exact rfl))|exact res0
           · first|exact fun _ _ _ _ h=>h|exact WkV.rd wk
           · repeat' first|exact tv|refine ⟨?_,?_⟩
           · exact mB)))
  : p:=f ⟨tv⟩ ⟨k⟩
section
variable {q:Arg} {x y:CC} {σ:St} {Q:Ex→St→Prop}
theorem cd {b:Bool} {A B:Option R} (h:(if b then A else B)=some r) (hb:q.val σ.s = .d (.bool b)) (hx:A=some r→Tr Γ x σ Q) (hy:B=some r→Tr Γ y σ Q):Tr Γ (.cond q x y) σ Q :=
  Tr.cond hb (fun e=>hx (bT e h)) (fun e=>hy (bF e h))
theorem ci {p:Prop} [Decidable p] {A B:Option R} (h:(if p then A else B)=some r) (hb:q.val σ.s = .d (.bool (decide p))) (hx:A=some r→Tr Γ x σ Q) (hy:B=some r→Tr Γ y σ Q):Tr Γ (.cond q x y) σ Q :=
  Tr.cond hb (fun e=>hx (ifT e h)) (fun e=>hy (ifF e h))
theorem bs {G:Prop} {b:Bool} {A B:Option R} (h:(if b then A else B)=some r) (hx:b=true→A=some r→G) (hy:b=false→B=some r→G):G :=
  Qbbq b (fun e=>hx e (bT e h)) (fun e=>hy e (bF e h))
theorem bi {G:Prop} {p:Prop} [Decidable p] {A B:Option R} (h:(if p then A else B)=some r) (hx:decide p=true→A=some r→G) (hy:decide p=false→B=some r→G):G :=
  Qbbq (decide p) (fun e=>hx e (ifT e h)) (fun e=>hy e (ifF e h))
theorem cu {X:Type} {A:Option X} {g:X→Option R} (h:A.bind g=some r) (mk:X→St) (hx:∀ z,A=some z→Tr Γ x σ (Qbe9 Γ mk z Q)) (hy:∀ z,g z=some r→Tr Γ y (mk z) Q):Tr Γ (.seq x y) σ Q:=Tr.cutB mk h hx hy
theorem lo {X:Type} {F:(X→Option R)→X→Option R} {n:Nat} {x0:X} {sites:List Nat} (h:Qc0 F n x0=some r) (mk:X→St) (h0:WeakSt Γ (Ql2 Γ.n0 sites σ) (mk x0))
    (body:∀ (rec' : X→Option R) y,F rec' y=some r→Tr Γ x (mk y) (Qbe8 Γ sites mk rec' r Q)):Tr Γ (.loop sites x) σ Q:=Tr.loop h h0 body
end
inductive Le (E:List (Nat×V)):List Nat→List (Nat×V)→Prop
  | nil:Le E [] []
  | cons {k:Nat} {v:V} {ks:List Nat} {l:List (Nat×V)} (h:look E k=v) (t:Le E ks l):Le E (k::ks) ((k,v)::l)
inductive Lb (L:List (Nat×Bx)):List Nat→List (Nat×Bx)→Prop
  | nil:Lb L [] []
  | cons {k:Nat} {v:Bx} {ks:List Nat} {l:List (Nat×Bx)} (h:Qbu L k=some v) (t:Lb L ks l):Lb L (k::ks) ((k,v)::l)
theorem ke {A B:Prop} (w:A∧B:=by
  constructor
  · repeat first|exact Le.nil|(apply Le.cons;(conv=>lhs;whnf))
  · repeat first|exact Lb.nil|(apply Lb.cons;exact rfl)):A∧B:=w
theorem wS (ks bs:List Nat) (dE:List (Nat×V)→List (Nat×V)) (dL:List (Nat×Bx)→List (Nat×Bx)) {E1:List (Nat×V)} {L1:List (Nat×Bx)} (w:Le E ks E1∧Lb L bs L1) (h:WeakSt Γ ⟨look E,Ql Γ.n0 L M,nb⟩ ⟨look (dE E1),Ql Γ.n0 (bxs (dL L1)) M,nb⟩):WeakSt Γ ⟨look E,Ql Γ.n0 L M,nb⟩ ⟨look (dE E1),Ql Γ.n0 (bxs (dL L1)) M,nb⟩:=h
section
variable {x y:CC} {Q:Ex→St→Prop} {X:Type} {E1:List (Nat×V)} {L1:List (Nat×Bx)}
theorem cw {A:Option X} {g:X→Option R} (h:A.bind g=some r) (ks bs:List Nat) (dE:X→List (Nat×V)→List (Nat×V)) (dL:X→List (Nat×Bx)→List (Nat×Bx)) (w:Le E ks E1∧Lb L bs L1)
    (hx:∀ z,A=some z→Tr Γ x ⟨look E,Ql Γ.n0 L M,nb⟩ (Qbe9 Γ (fun z=>⟨look (dE z E1),Ql Γ.n0 (bxs (dL z L1)) M,nb⟩) z Q)) (hy:∀ z,g z=some r→Tr Γ y ⟨look (dE z E1),Ql Γ.n0 (bxs (dL z L1)) M,nb⟩ Q):Tr Γ (.seq x y) ⟨look E,Ql Γ.n0 L M,nb⟩ Q:=Tr.cutB _ h hx hy
theorem lw {F:(X→Option R)→X→Option R} {n:Nat} {x0:X} {sites:List Nat} (h:Qc0 F n x0=some r) (ks bs:List Nat) (dE:X→List (Nat×V)→List (Nat×V)) (dL:X→List (Nat×Bx)→List (Nat×Bx)) (w:Le E ks E1∧Lb L bs L1)
    (h0:WeakSt Γ (Ql2 Γ.n0 sites ⟨look E,Ql Γ.n0 L M,nb⟩) ⟨look (dE x0 E1),Ql Γ.n0 (bxs (dL x0 L1)) M,nb⟩)
    (body:∀ (rec' : X→Option R) y,F rec' y=some r→Tr Γ x ⟨look (dE y E1),Ql Γ.n0 (bxs (dL y L1)) M,nb⟩ (Qbe8 Γ sites (fun y=>⟨look (dE y E1),Ql Γ.n0 (bxs (dL y L1)) M,nb⟩) rec' r Q)):Tr Γ (.loop sites x) ⟨look E,Ql Γ.n0 L M,nb⟩ Q:=Tr.loop h h0 body
end
theorem cl {X:Type} {g:X→Option R} {o:Option X} {f:FuncId} {as:List Arg} {args:List V} {w:X→V} (H:∀ x,o=some x→∀ M nb,ACalls Γ.P f args M nb (w x) M nb) (h:o.bind g=some r)
    (K:(Wn E gd∧(one (pcOf pc)=true→∀ k,nb≤k→M k=none)∧V.dems (as.map (·.val (look E)))=args)∧∀ x,g x=some r→Rn Γ pc os ⟨look ((d,w x)::E),M,nb⟩ Q):Rn Γ pc (⟨some d,.call f,as,false,gd⟩::os) ⟨look E,M,nb⟩ Q:=by
  obtain ⟨x,hx,h⟩:=bnd h
  exact Rn.call K.1.1 K.1.2.2 (H x hx) K.1.2.1 (K.2 x h)
theorem cm {X:Type} {g:X→Option R} {o:Option X} {f:FuncId} {as:List Arg} {args:List V} {w:X→V} (h:o.bind g=some r) (H:∀ x,o=some x→∀ M2 nb2,nb≤nb2→Ext M M2→ACalls Γ.P f args M2 nb2 (w x) M2 nb2) (hp:(Nat.ble (pcOf pc) 1||Nat.ble 10 (pcOf pc))=true)
    (K:(Wn E gd∧(one (pcOf pc)=true→∀ k,nb≤k→M k=none)∧V.dems (as.map (·.val (look E)))=args)∧∀ x,g x=some r→Rn Γ pc os ⟨look ((d,w x)::E),M,nb⟩ Q):Rn Γ pc (⟨some d,.call f,as,false,gd⟩::os) ⟨look E,M,nb⟩ Q:=by
  obtain ⟨x,hx,h⟩:=bnd h
  exact Rn.callM K.1.1 K.1.2.2 (H x hx) hp K.1.2.1 (K.2 x h)
theorem ini {cc:CC} {args:List V} {Q:Ex→St→Prop} (k:Tr Γ cc ⟨look ((List.range' 0 args.length).zip args),M,nb⟩ Q):Tr Γ cc ⟨Qkb args,M,nb⟩ Q:=Tr.init _ rfl k
theorem cq {A B C p:Prop} (k:p) (w:A∧B∧C:=by refine ⟨?_,?_,rfl⟩;(first|exact tv|(apply gw;exact rfl;first|assumption|exact rfl|exact nT (by assumption)|exact nF (by assumption)));first|exact pc0|exact pc9|exact pc2|exact fun _=>Q6n hM rfl):(A∧B∧C)∧p:=⟨w,k⟩
theorem Y {p:Prop} (h:p:=by exact Z 99 2 tv):p:=h
end Go.Abs
end
section
namespace Go.Abs
open Go
variable {Γ:Env} {pc d nb sz:Nat} {os:List COp} {E:List (Nat×V)} {M M0 M1 M2:Mem} {Q:St→Prop} {L:List (Nat×Bx)} {a b c:Arg} {gd:Option (Nat×Bool)} {α:Type}
theorem Rn.callO {f i t:Nat} {as:List Arg} {args args' : List V} {r:V} (hw:Wn E gd) (ht:Qtz i as=some t) (ha:Qyj (look E) i as=args) (hk:WkVs args args') (hC:∀ M nb,ACalls Γ.P f args' M nb r M nb)
  (h:Rn Γ 9 os ⟨look ((d,r)::(t,(look E t).dem)::E),M,nb⟩ Q):Rn Γ 9 (⟨some d,.callO f i,as,false,gd⟩::os) ⟨look E,M,nb⟩ Q:=by
 refine Rn.cons ?_;unfold COp.run;rw [hw.wanted];simp only [show (K.callO f i).isCall=false from rfl,show (K.callO f i).isNil=true from rfl,Bool.false_eq_true,if_false,if_true,COp.runN,ha];refine ⟨rfl,r,M,nb,(hC _ _).weakO hk,fun _ h=>h,fun _ _ _ _=>.inl rfl,?_⟩;rw [show Qbd (Qt0 (look E) (Qtz i as)) (some d) r=look ((d,r)::(t,(look E t).dem)::E) from by
  rw [ht];show Qbd ((look E).put t (look E t).dem) (some d) r=_;rw [show (look E).put t (look E t).dem=look ((t,(look E t).dem)::E) from Qcj E t _];exact Qcj _ d r]
 exact h
def chrO (s:ByteArray) (i:Int):Option Int:=if hi:0≤i∧i<s.size then some (s[i.toNat]'(by omega)).toNat else none
theorem Rn.idxs {k:IntKind} {s:ByteArray} {i x:Int} (hw:Wn E gd) (ha:a.val (look E) = .d (.str s)) (hb:b.val (look E) = .d (.int k i)) (hx:chrO s i=some x) (h:Rn Γ pc os ⟨look ((d,.d (.int .u8 x))::E),M,nb⟩ Q) :
  Rn Γ pc (⟨some d,.idxs,[a,b],false,gd⟩::os) ⟨look E,M,nb⟩ Q:=by
 refine Rn.k hw rfl rfl ?_ h;unfold chrO at hx;split at hx<;>cases hx;rename_i hi;simp only [List.map_cons,List.map_nil,V.dems,ha,hb,V.dem,Qm];rw [dif_pos hi]
theorem Q61:∀ xs:List Int,Q5q (xs.map (eI .u8))=some xs
 | []=>rfl
 | x::xs=>by
  rw [List.map_cons];show (Q5q (xs.map (eI .u8))).map (x :: ·)=_;rw [Q61 xs];rfl
theorem Rn.bstr {xs:List Int} (hw:Wn E gd) (ha:(a.val (look E)).dem = .d (.lst 1 (xs.map (eI .u8)))) (h:Rn Γ pc os ⟨look ((d,.d (.str (strB xs)))::E),M,nb⟩ Q):Rn Γ pc (⟨some d,.bstr,[a],false,gd⟩::os) ⟨look E,M,nb⟩ Q:=by
 refine Rn.k hw rfl rfl ?_ h;simp only [List.map_cons,List.map_nil,V.dems,ha,Qm,Q61,Option.map_some]
theorem Rn.blit {n:Nat} {z:List V} {ps:List Nat} {as:List Arg} {xs:List V} {ds:List D} {l:List (List D)} (hw:Wn E gd) (ha:V.dems (as.map (·.val (look E)))=xs)
  (hc:(ps.length=xs.length&&decide (0<sz)&&z.length==sz&&(ps.zip xs).all (fun (i,x)=>Qdy x&&x.cells.length==sz&&decide (i<n)))=true)
  (hd:toDs (Qiy (rep n z) ((ps.zip xs).map fun (i,x)=>(i*sz,x.cells)))=some ds) (hl:Qix sz n ds=l)
  (h:Rn Γ pc os ⟨look ((d,.d (.lst sz l))::E),M,nb⟩ Q):Rn Γ pc (⟨some d,.blit sz n z ps,as,false,gd⟩::os) ⟨look E,M,nb⟩ Q:=by
 refine Rn.k hw rfl rfl ?_ h;rw [ha];have hs:∀ κ,Qm Γ.n0 κ (.blit sz n z ps) xs M=(if ps.length=xs.length&&decide (0<sz)&&z.length==sz&&(ps.zip xs).all (fun (i,x)=>Qdy x&&x.cells.length==sz&&decide (i<n))
   then (toDs (Qiy (rep n z) ((ps.zip xs).map fun (i,x)=>(i*sz,x.cells)))).map fun ds=>(V.d (.lst sz (Qix sz n ds)),M) else none):=fun κ=>by cases xs<;>rfl
 rw [hs,if_pos hc,hd,Option.map_some,hl]
section
variable {κ β:Type} [BEq κ] {ek:κ→V} {ev:β→V} {m:List (κ×β)} (hs:∀ a b,Qea (ek a) (ek b)=(a==b)) {kd:MK} (hk:∀ a,kd.ok (ek a)=true) (hv:∀ b,(ev b).dat=true)
include hs hk hv
theorem Rn.lookupB {k0:Nat} {z:V} {k:κ} (zb:β) (hz:ev zb=z) (hw:Wn E gd) (ha:a.val (look E) = .mp k0) (hb:(b.val (look E)).dem=ek k) (hM:M k0=some (.mp (mapE ek ev 0 m) m.length))
  (h:Rn Γ pc os ⟨look ((d,ev (getM m k zb))::E),M,nb⟩ Q):Rn Γ pc (⟨some d,.lookup kd false z,[a,b],false,gd⟩::os) ⟨look E,M,nb⟩ Q:=by
 subst hz;refine Rn.k hw rfl rfl ?_ h;simp only [List.map_cons,List.map_nil,V.dems,ha,hb,V.dem,Qm,hM,hk,Qjj hk,Bool.and_self,if_true,Qh4 hs 0 m zb];cases hh:hasM m k with
 | true=>simp [Qu7 (hv _),Qr7 (hv _)]
 | false =>
  have:getM m k zb=zb:=by
   clear hM h
   induction m with
   | nil=>rfl
   | cons p m ih =>
    simp only [hasM,List.any_cons,Bool.or_eq_false_iff] at hh;simp only [getM,hh.1,Bool.false_eq_true,if_false];exact ih hh.2
  simp [this,hv]
omit hv in
theorem Rn.mapsetB {k0:Nat} {k:κ} {v:β} (hw:Wn E gd) (ha:a.val (look E) = .mp k0) (hb:(b.val (look E)).dem=ek k) (hc:Qv3 (c.val (look E)).dem=ev v) (hcd:(c.val (look E)).dem.dat=true) (hk0:k0<Γ.n0) (hM:M1 k0=some (.mp (mapE ek ev 0 m) m.length))
  (hp:M1.put k0 (.mp (mapE ek ev 0 (setM m k v)) (setM m k v).length)=M2) (h:Rn Γ pc os ⟨look E,Ql Γ.n0 L M2,nb⟩ Q):Rn Γ pc (⟨none,.mapset kd,[a,b,c],false,gd⟩::os) ⟨look E,Ql Γ.n0 L M1,nb⟩ Q:=by
 refine Rn.k0 (v:=.und) hw rfl rfl ?_ h;have hM' : Ql Γ.n0 L M1 k0=some (.mp (mapE ek ev 0 m) m.length):=by rw [Q8 hk0];exact hM
 simp only [List.map_cons,List.map_nil,V.dems,ha,hb,hc,V.dem,Qm,hM',hk,hcd,Qjj hk,Bool.and_self,if_true];rw [Qh4 hs 0 m v,← hp,← Qfv hk0];cases hh:hasM m k with
 | true=>simp only [if_true];rw [Q1v 0 hh,Qqj hh]
 | false =>
  simp only [Bool.false_eq_true,if_false];rw [Qwi hh,Qqi];simp [mapE]
end
section
variable {κ β:Type} [BEq κ] {ek:κ→V} {ev:β→V} {m:List (κ×β)} (hs:∀ a b,Qea (ek a) (ek b)=(a==b)) {kd:MK} (hk:∀ a,kd.ok (ek a)=true) (hv:∀ b,(ev b).dat=true)
include hs hk hv
theorem Rn.lookupF {t:Nat} {z:V} {k:κ} (zb:β) (hh:hasM m k=true) (hw:Wn E gd) (ha:a.val (look E) = .mp (Γ.n0+t)) (hb:(b.val (look E)).dem=ek k) (hM:Qbu L t=some (.mp (mapE ek ev 0 m) m.length))
  (h:Rn Γ pc os ⟨look ((d,.tup [ev (getM m k zb),.d (.bool true)])::E),Ql Γ.n0 L M0,nb⟩ Q):Rn Γ pc (⟨some d,.lookup kd true z,[a,b],false,gd⟩::os) ⟨look E,Ql Γ.n0 L M0,nb⟩ Q:=by
 refine Rn.k hw rfl rfl ?_ h;simp only [List.map_cons,List.map_nil,V.dems,ha,hb,V.dem,Qm,Qbf hM,hk,Qjj hk,Bool.and_self,if_true,Qh4 hs 0 m zb];simp [hh,Qu7 (hv _),Qr7 (hv _)]
end
end Go.Abs
end
section
namespace Go.Abs
open Go
variable {Γ:Env} {α:Type}
section
variable {g:G} {w:World} {ow:Nat→Owner} (hb:∀ b,g.own b = .ext→ow b = .ext)
include hb
end
end Go.Abs
end
section
namespace Go.Abs
open Go
variable {Γ:Env} {pc d nb sz:Nat} {os:List COp} {E:List (Nat×V)} {M M0 M1 M2:Mem} {Q:St→Prop} {L:List (Nat×Bx)} {a b c:Arg} {gd:Option (Nat×Bool)} {α:Type}
section
variable {κ β:Type} [BEq κ] {ek:κ→V} {ev:β→V} {m:List (κ×β)} (hs:∀ a b,Qea (ek a) (ek b)=(a==b)) {kd:MK} (hk:∀ a,kd.ok (ek a)=true) (hv:∀ b,(ev b).dat=true)
include hs hk hv
theorem Rn.lookupBC {k0:Nat} {z:V} {k:κ} (zb:β) (hz:ev zb=z) (hw:Wn E gd) (ha:a.val (look E) = .mp k0) (hb:(b.val (look E)).dem=ek k) (hM:M k0=some (.mp (mapE ek ev 0 m) m.length))
  (h:Rn Γ pc os ⟨look ((d,.tup [ev (getM m k zb),.d (.bool (hasM m k))])::E),M,nb⟩ Q):Rn Γ pc (⟨some d,.lookup kd true z,[a,b],false,gd⟩::os) ⟨look E,M,nb⟩ Q:=by
 subst hz;refine Rn.k hw rfl rfl ?_ h;simp only [List.map_cons,List.map_nil,V.dems,ha,hb,V.dem,Qm,hM,hk,Qjj hk,Bool.and_self,if_true,Qh4 hs 0 m zb];cases hh:hasM m k with
 | true=>simp [Qu7 (hv _),Qr7 (hv _)]
 | false =>
  have:getM m k zb=zb:=by
   clear hM h
   induction m with
   | nil=>rfl
   | cons p m ih =>
    simp only [hasM,List.any_cons,Bool.or_eq_false_iff] at hh;simp only [getM,hh.1,Bool.false_eq_true,if_false];exact ih hh.2
  simp [hv,this]
end
end Go.Abs
end
section
namespace Go.Abs
open Go
variable {Γ:Env} {σ:St}
theorem Tr.thawV {cc:CC} {Q:Ex→St→Prop} {p k i sz:Nat} {l:List (List D)} {cs:List V} (hv:Γ.g0.box p=Γ.w0.heap.size) (hlt:p<Γ.n0) (hp:σ.M p=none) (hk:σ.M k=some (.cells cs)) (hk0:k<Γ.n0) (hi:cs[i]? = some (.ownV sz l)) (hl:l≠[])
  (hQ:∀ c,l.length≤c→c≤maxLen→Tr Γ cc { s:=σ.s,M:=(σ.M.put k (.cells (cs.set i (.sl sz p 0 l.length c)))).put p (.cells (Qce l ((c-l.length)*sz))),nb:=σ.nb } Q):Tr Γ cc σ Q:=by
 intro c0 hc0 a w g hs;obtain ⟨hkb,hbo,vals,et,hh,hr,h1⟩:=hs.mem.box k _ hk;obtain ⟨hvl,hrv⟩:=(Qci _ _ _ _).1 hr;have hil:=(List.getElem?_eq_some_iff.1 hi).1;obtain ⟨u,hu⟩ : ∃ u,vals[i]? = some u:=⟨_,List.getElem?_eq_getElem (by omega)⟩;have hru:=hrv i _ u hi hu;simp only [Nat.zero_add,Owner.sub,RV] at hru;rcases hru with ⟨_,h⟩|⟨b,cap,vb,e,rfl,hb,hhb,hlc,hcm,⟨hvs,hvone⟩,him,hrow,hsc⟩
 ·exact absurd h hl
 have hpk:k≠p:=by rintro rfl;rw [hp] at hk;cases hk
 let g' : G:=⟨fun j=>if j=p then b else g.box j,g.imm,fun b'=>if b'=b then .box p else g.own b'⟩;have hkept:Kept g w g' w (fun j=>j≠p) (fun o=>o ≠ .cell k i∧∀ j,o ≠ .box j):=by
  refine ⟨⟨fun _ _ h=>h,fun _ _ _=>rfl⟩,fun j hj=>by simp [g',hj],fun b' hb' _=>?_⟩;have hne:b' ≠ b:=by rintro rfl;exact hb'.1 hb
  exact ⟨by simp [g',hne],rfl,fun o=>Iff.rfl⟩
 have hsub:∀ ℓ j,(ℓ ≠ .cell k i∧∀ j,ℓ≠Owner.box j)→(ℓ.sub j ≠ .cell k i∧∀ j',ℓ.sub j ≠ .box j'):=by
  intro ℓ j h;cases ℓ<;>simp_all [Owner.sub]
 have hext:(Owner.ext ≠ .cell k i∧∀ j,Owner.ext ≠ .box j):=⟨by simp,by simp⟩;have hnp:∀ j,There σ.M j→j≠p:=by rintro j hj rfl;simp [There,hp] at hj
 have hlab:∀ j,g.own (g.box j) = .box j→g'.own (g.box j) = .box j:=by
  intro j ho;have hne:g.box j≠b:=by intro e;rw [e,hb] at ho;cases ho
  simp [g',hne,ho]
 have hbx:∀ j,j≠p→g'.box j=g.box j:=fun j hj=>by simp [g',hj]
 have hth:∀ j,There σ.M j→There ((σ.M.put k (.cells (cs.set i (.sl sz p 0 l.length cap)))).put p (.cells (Qce l ((cap-l.length)*sz)))) j:=fun j hj=>hj.put.put;have hthp:There ((σ.M.put k (.cells (cs.set i (.sl sz p 0 l.length cap)))).put p (.cells (Qce l ((cap-l.length)*sz)))) p:=There.self;have hflat:∀ P:Nat→Prop,V.ons P (Qce l ((cap-l.length)*sz)):=fun P=>Qh0.2 fun v hv=>by
  simp only [Qce,List.mem_append,List.mem_map,List.mem_replicate] at hv;rcases hv with ⟨x,_,rfl⟩|⟨_,rfl⟩<;>trivial
 have hgp:({ s:=σ.s,M:=(σ.M.put k (.cells (cs.set i (.sl sz p 0 l.length cap)))).put p (.cells (Qce l ((cap-l.length)*sz))),nb:=σ.nb }:St).M p=some (.cells (Qce l ((cap-l.length)*sz))):=by simp [Mem.put]
 refine hQ cap hlc hcm c0 hc0 a w g' ⟨⟨fun j bx hj=>?_,fun b' o hbo'=>?_⟩,fun t=>Qch hkept hsub hext _ _ _ ⟨by simp,by simp⟩ (Qdp hnp _ (hs.onS t)) (hs.slots t),hs.size,hs.defers,fun t=>Qdp hth _ (hs.onS t),fun j cs' hj=>?_,hs.top,?_⟩
 ·simp only [Mem.put] at hj;split at hj
  ·rename_i he;subst he;cases hj;refine ⟨by have:=hs.top;show j<σ.nb;omega,by simp [g'],vb.toList,e,by simpa [g'] using hhb,?_,hvone⟩;obtain ⟨hfl,hfg⟩:=Q5b hrow;have hlen:vb.toList.length=(Qce l ((cap-l.length)*sz)).length:=by
    simp only [Qce,List.length_append,List.length_map,List.length_replicate,hfl,Array.length_toList,hvs];rw [← Nat.add_mul];congr 1;omega
   refine (Qci _ _ _ _).2 ⟨hlen,fun m c x hc hx=>?_⟩;simp only [Qce] at hc;by_cases hm:m<l.flatten.length
   ·rw [List.getElem?_append_left (by rw [List.length_map];exact hm),List.getElem?_map] at hc;obtain ⟨y,hy,rfl⟩:=Option.map_eq_some_iff.1 hc;obtain ⟨x',hx1,hx2⟩:=hfg m y hy;have hcell:w.cell? ⟨b,0+m,none⟩=vb[m]?:=by simp [World.cell?,hhb]
    rw [hcell] at hx1;have:x=x':=by
     have h9:vb[m]? = some x:=by simpa using hx
     rw [h9] at hx1;exact Option.some.inj hx1
    subst this;have hmem:y∈l.flatten:=List.mem_of_getElem? hy;obtain ⟨r,hr1,hr2⟩:=List.mem_flatten.1 hmem;simp only [RV];exact Qv4 (List.all_eq_true.1 (List.all_eq_true.1 hsc r hr1) y hr2) hx2
   ·rw [List.getElem?_append_right (by rw [List.length_map];omega)] at hc;have:c = .und:=by
     have:=List.mem_of_getElem? hc;exact (List.mem_replicate.1 this).2
    subst this;simp [RV]
  ·rename_i hjp;split at hj
   ·rename_i he;subst he;cases hj;refine ⟨hkb,by rw [hbx j hjp];exact hlab j hbo,vals,et,by rw [hbx j hjp];exact hh,(Qci _ _ _ _).2 ⟨by simp [hvl],fun m c z hc hz=>?_⟩,h1⟩;simp only [Nat.zero_add,Owner.sub];by_cases he:i=m
    ·subst he;have e1:(cs.set i (.sl sz p 0 l.length cap))[i]? = some (.sl sz p 0 l.length cap):=by simp [hil]
     rw [e1] at hc;cases hc;rw [hu] at hz;cases hz;simp [RV,g']
    ·have hne:=he;rw [List.getElem?_set_ne he] at hc;have hcz:=hrv m c z hc hz;simp only [Nat.zero_add,Owner.sub] at hcz;exact Qch hkept hsub hext c _ z ⟨by intro e;cases e;exact hne rfl,by simp⟩ (Qdp hnp _ (Qe3 (hs.mOn j cs hk) hc)) hcz
   ·rename_i hjk;obtain ⟨k1,k2,k3⟩:=hs.mem.box j bx hj;refine ⟨k1,by rw [hbx j hjp];exact hlab j k2,?_⟩;cases bx with
    | mp es c =>
     obtain ⟨ents,hh',hr'⟩:=k3;exact ⟨ents,by rw [hbx j hjp];exact hh',Qi8 (g:=g) (g':=g') hkept (fun m=>⟨by intro e;cases e;exact hjk rfl,by simp⟩) hr'⟩
    | cells cs2 =>
     obtain ⟨vs,e',hh',hr',ho'⟩:=k3;refine ⟨vs,e',by rw [hbx j hjp];exact hh',(Qci _ _ _ _).2 ⟨Qng hr',fun m c z hc hz=>?_⟩,ho'⟩;have hcz:=((Qci _ _ _ _).1 hr').2 m c z hc hz;simp only [Nat.zero_add,Owner.sub] at hcz ⊢;exact Qch hkept hsub hext c _ z ⟨by intro e;cases e;exact hjk rfl,by simp⟩ (Qdp hnp _ (Qe3 (hs.mOn j cs2 hj) hc)) hcz
 ·obtain ⟨h3,h4⟩:=hs.mem.imm b' o hbo';refine ⟨h3,fun j=>?_⟩;have hne:b' ≠ b:=by rintro rfl;exact him o hbo'
  simp only [g',hne,if_false];exact h4 j
 ·simp only [Mem.put] at hj;split at hj
  ·cases hj;exact ⟨hflat _,fun _=>hflat _⟩
  ·split at hj
   ·rename_i he;subst he;cases hj;obtain ⟨q1,q2⟩:=hs.onM j cs hk;exact ⟨Qr8 _ (ons_mono hth _ q1) hthp,fun hlt'=>Qr8 _ (q2 hlt') hlt⟩
   ·obtain ⟨q1,q2⟩:=hs.onM j cs' hj;exact ⟨ons_mono hth _ q1,q2⟩
 ·have hf:=hs.fr;refine ⟨hf.os,hf.tape,hf.output,hf.size,hf.imm,fun j hj=>?_,fun b' hb' ho=>?_⟩
  ·have:j≠p:=by rintro rfl;have:=hj.2;rw [hv] at this;omega
   rw [hbx j this];exact hf.box j hj
  ·obtain ⟨q1,q2,q3⟩:=hf.old b' hb' ho;have hne:b' ≠ b:=by
    rintro rfl;rw [hb] at q1;rw [← q1] at ho;exact ho
   exact ⟨by simp [g',hne,q1],q2,q3⟩
variable {α:Type}
theorem pgE {M:Mem} {k:Nat} {b:Bx} (h:M k=some b):M.puts [] k=some b:=h
theorem Qbgm {cc:CC} {Q:Ex→St→Prop} {M:Mem} {p k i sz nb:Nat} {e:α→List D} {xs:List α} {cs:List V} {E:List (Nat×V)} {L B:List (Nat×Bx)} {B' : Nat→List (Nat×Bx)} (hU:Pub Γ M p) (hB:Qbdm p B) (hk0:k<Γ.n0) (hk:M.puts B k=some (.cells cs)) (hi:cs[i]? = some (.ownV sz (List.map e xs))) (hl:¬ xs=[])
  (hset:∀ c,(M.puts B).put k (.cells (cs.set i (.sl sz p 0 xs.length c)))=M.puts (B' c))
  (hQ:∀ c,xs.length≤c→c≤maxLen→Tr Γ cc ⟨look E,Ql Γ.n0 L (M.puts ((p,.cells (Qce (List.map e xs) ((c-xs.length)*sz)))::B' c)),nb⟩ Q):Tr Γ cc ⟨look E,Ql Γ.n0 L (M.puts B),nb⟩ Q:=by
 have hlt:=hU.lt;refine Tr.thawV (σ:=⟨look E,Ql Γ.n0 L (M.puts B),nb⟩) (p:=p) (k:=k) (i:=i) (sz:=sz) (l:=List.map e xs) (cs:=cs) hU.vac hU.lt ?_ ?_ hk0 hi (by simpa using hl) fun c h1 h2=>?_
 ·show Ql Γ.n0 L (M.puts B) p=none;rw [Q8 hlt,Q0o hB,hU.none]
 ·show Ql Γ.n0 L (M.puts B) k=_;rw [Q8 hk0];exact hk
 ·have:=hQ c (by simpa using h1) h2;have e1:((Ql Γ.n0 L (M.puts B)).put k (.cells (cs.set i (.sl sz p 0 (List.map e xs).length c)))).put p (.cells (Qce (List.map e xs) ((c-(List.map e xs).length)*sz)))=Ql Γ.n0 L (M.puts ((p,.cells (Qce (List.map e xs) ((c-xs.length)*sz)))::B' c)):=by
   rw [List.length_map,Qfv hk0,hset c,Qfv hlt];rfl
  rw [e1];exact this
section
variable {pc d nb:Nat} {os:List COp} {E:List (Nat×V)} {L:List (Nat×Bx)} {M M1 M2:Mem} {Q:St→Prop} {gd:Option (Nat×Bool)} {a b x:Arg}
theorem Rn.loadTBV {k off sz:Nat} {l:List (List D)} {cs cs' : List V} (hw:Wn E gd) (ha:x.val (look E) = .ptr k off) (hk:k<Γ.n0) (hM:M1 k=some (.cells cs)) (hx:cs[off]? = some (.ownV sz l)) (hcs:cs.set off .und=cs') (hp:M1.put k (.cells cs')=M2)
  (h:Rn Γ pc os ⟨look ((d,.ownV sz l)::E),Ql Γ.n0 L M2,nb⟩ Q):Rn Γ pc (⟨some d,.loadT,[x],false,gd⟩::os) ⟨look E,Ql Γ.n0 L M1,nb⟩ Q:=by
 refine Rn.k hw rfl rfl ?_ h
 grind [V.dems,V.dem,Qm,Qbh,V.topL,Qfv]
theorem Rn.storeOBV {k u off sz:Nat} {l:List (List D)} {cs cs' : List V} (hw:Wn E gd) (ha:x.val (look E) = .ptr k off) (hb:look E u = .ownV sz l) (hk:k<Γ.n0) (hM:M1 k=some (.cells cs))
  (hn:Nat.ble (off+1) cs.length=true) (hcs:cs.take off++[.ownV sz l]++cs.drop (off+1)=cs') (hp:M1.put k (.cells cs')=M2)
  (h:Rn Γ pc os ⟨look ((u,.und)::E),Ql Γ.n0 L M2,nb⟩ Q):Rn Γ pc (⟨none,.store 1,[x,.t u],true,gd⟩::os) ⟨look E,Ql Γ.n0 L M1,nb⟩ Q:=by
 have h2:=Nat.le_of_ble_eq_true hn;have hm:[x,Arg.t u].map (fun x=>x.val (look E))=[V.ptr k off,.ownV sz l]:=by simp only [List.map_cons,List.map_nil,ha];rw [show (Arg.t u).val (look E)=_ from hb]
 refine Rn.kS (v:=.und) hw ?_ (fun i=>?_) h
 ·simp_all [if_true,Qm,Qbh,V.topS,V.cells,List.length_cons,List.length_nil,decide_true,Bool.true_and,V.lt,Bool.or_true,Qfv]
 ·simp only [if_true,hm,Qb4,Qba,V.dem];have:x.putTo (look E) (.ptr k off)=look E:=by
   cases x with
   | c v=>rfl
   | t j =>
    simp only [Arg.val] at ha;funext i;simp_all [Arg.putTo,Sl.put]
  rw [this,show (Arg.t u).putTo (look E) .und=(look E).put u .und from rfl,Qcj]
theorem Rn.appV {sz:Nat} {e:α→List D} {xs:List α} {t bytes:Nat} {ys zs:List α} {src:V} (hsc:∀ x,(e x).all D.scal=true) (hw:Wn E gd) (ha:look E t = .ownV sz (xs.map e)) (hb:b.val (look E)=src) (hf:src.dem=src) (hs:Qf8 M sz src=some (ys.map e)) (hx:appO xs ys=some zs) (hbd:(Nat.ble bytes 128&&Nat.ble 1 sz)=true)
  (h:Rn Γ pc os ⟨look ((d,.ownV sz (zs.map e))::(t,.und)::E),M,nb⟩ Q):Rn Γ pc (⟨some d,.append sz bytes,[.t t,b],true,gd⟩::os) ⟨look E,M,nb⟩ Q:=by
 unfold appO at hx;split at hx<;>cases hx;rename_i hl;simp only [Bool.and_eq_true] at hbd;have h1:=Nat.le_of_ble_eq_true hbd.1;have h2:0<sz:=Nat.le_of_ble_eq_true hbd.2;have h3:(ys.map e).all (fun y=>y.all D.scal)=true:=by
  rw [List.all_map,List.all_eq_true];exact fun x _=>hsc x
 have hm:[Arg.t t,b].map (fun x=>x.val (look E))=[V.ownV sz (xs.map e),src]:=by
  simp only [List.map_cons,List.map_nil,hb];rw [show (Arg.t t).val (look E)=_ from ha]
 refine Rn.kT hw rfl rfl (v:=.ownV sz ((xs++ys).map e)) ?_ (fun i=>?_) h
 ·rw [hm];simp only [Qm,hs,List.length_map,h3,List.map_append];simp [h1,h2,hl]
 ·rw [hm];simp only [Qb4,hf,show (V.ownV sz (xs.map e)).dem = .und from rfl,Qba,show ∀ s v,(Arg.t t).putTo s v=s.put t v from fun _ _=>rfl];have hz:∀ s:Sl,b.val s=src→b.putTo s src=s:=by
   intro s hs;cases b with
   | c v=>rfl
   | t u =>
    simp only [Arg.val] at hs;funext i;simp only [Arg.putTo,Sl.put];split
    ·rename_i e;subst e;exact hs.symm
    ·rfl
  rw [hz]
  ·rw [Qcj,Qcj]
  ·cases b with
   | c v=>exact hb
   | t u =>
    have:u≠t:=by
     rintro rfl;simp only [Arg.val] at hb;rw [ha] at hb;subst hb;simp [V.dem] at hf
    simp only [Arg.val,Sl.put,this,if_false];exact hb
theorem Rn.storeVB {k u off:Nat} {v:V} {cs cs' : List V} (hw:Wn E gd) (ha:x.val (look E) = .ptr k off) (hb:look E u=v) (hv:Qdy v=true) (hf:v.topS=v) (hf2:v.dem=v) (hlt:v.lt Γ.n0=true) (hk:k<Γ.n0) (hM:M1 k=some (.cells cs))
  (hn:(Nat.beq v.cells.length 1&&Nat.ble (off+1) cs.length)=true) (hcs:cs.take off++v.cells++cs.drop (off+1)=cs') (hp:M1.put k (.cells cs')=M2)
  (h:Rn Γ pc os ⟨look E,Ql Γ.n0 L M2,nb⟩ Q):Rn Γ pc (⟨none,.store 1,[x,.t u],true,gd⟩::os) ⟨look E,Ql Γ.n0 L M1,nb⟩ Q:=by
 simp only [Bool.and_eq_true] at hn;have h1:v.cells.length=1:=Nat.eq_of_beq_eq_true hn.1;have h2:=Nat.le_of_ble_eq_true hn.2;have hm:[x,Arg.t u].map (fun x=>x.val (look E))=[V.ptr k off,v]:=by simp only [List.map_cons,List.map_nil,ha];rw [show (Arg.t u).val (look E)=_ from hb]
 refine Rn.kS (v:=.und) hw ?_ (fun i=>?_) h
 ·simp only [if_true,hm];simp only [Qm];cases v<;>first
   | (simp [Qdy] at hv;done)
   | simp_all [Qbh,decide_true,Bool.true_and,Bool.or_true,if_true,Qfv]
 ·simp only [if_true,hm,Qb4,Qba,hf2];have:x.putTo (look E) (.ptr k off)=look E:=by
   cases x with
   | c v=>rfl
   | t j =>
    simp only [Arg.val] at ha;funext i;simp_all [Arg.putTo,Sl.put]
  have h3:(look E).put u v=look E:=by
   grind [Sl.put]
  rw [this,show (Arg.t u).putTo (look E) v=(look E).put u v from rfl,h3]
theorem rowB {P:Program} {c:Nat} {e:α→List D} {sz:Nat} {ex:List V} {f:List α→Option (List α)} (H:RowK P c e sz ex f) {xs ys:List α} (h:f xs=some ys) {cap k:Nat} (hc:xs.length≤cap) (hm:cap≤maxLen) {M:Mem} {nb:Nat} (hM:M k=some (.cells (Qce (List.map e xs) ((cap-xs.length)*sz)))) :
  ACalls P c (.sl sz k 0 xs.length cap::ex) M nb (.tup []) (M.puts [(k,.cells (Qce (List.map e ys) ((cap-xs.length)*sz)))]) nb :=
 (H _ _ h).2.2 (Nat.le_trans hc hm) cap k M nb hM
theorem okTh {n0 k room:Nat} {l:List (List D)} {B:List (Nat×Bx)} (h:OkB n0 B):OkB n0 ((k,.cells (Qce l room))::B):=by
 refine ⟨.inr ?_,h⟩;have:∀ vs:List V,(∀ v∈vs,v.lt n0=true)→V.lt.go n0 vs=true:=by
  intro vs hvs
  induction vs with
  | nil=>rfl
  | cons v vs ih=>simp [V.lt.go,hvs v (by simp),ih fun x hx=>hvs x (by simp [hx])]
 refine this _ fun v hv=>?_;simp only [Qce,List.mem_append,List.mem_map,List.mem_replicate] at hv;rcases hv with ⟨x,_,rfl⟩|⟨_,rfl⟩<;>rfl
theorem qSlT {n c p sz:Nat} {e:α→List D} {ys:List α} (h:∀ x,(e x).length=sz) (hn:ys.length=n) (hc:n≤c):WkV (frzV p ((ys.map e).flatten) (.sl sz p 0 n c)) (.d (.lst sz (ys.map e))):=by
 subst hn;have h1:=Quh h ys
 simp_all [List.drop_zero,List.take_of_length_le,frzV,if_true,if_pos,Qug,Q8s]
theorem Qbg3 {sz:Nat} {e:α→List D} {l:List α} (h:l=[]):WkV (.ownV sz (List.map e l)) (.d (.lst sz (List.map e l))):=by
 subst h;refine ⟨fun g w ℓ u h=>?_,fun _ _=>trivial⟩;obtain ⟨base,cap,rfl,hc⟩:=Q1o h;simp only [RV,RD];exact ⟨base,cap,rfl,hc,.inl rfl⟩
end
end Go.Abs
end
