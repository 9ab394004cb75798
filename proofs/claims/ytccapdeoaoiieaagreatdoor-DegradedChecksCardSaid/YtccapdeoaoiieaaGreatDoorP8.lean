/-
  Part 8 of the proof: see the last text.
-/
import Derived.Test.YtccapdeoaoiieaaGreatDoorP7
set_option linter.unusedVariables false
set_option linter.unusedSimpArgs false
set_option linter.unusedSectionVars false
section
namespace Go.Abs
open Go
section
variable {P:Program} {T:Tk} {o:Oper} {as:List Arg} {tk:Bool}
set_option maxHeartbeats 2000000
theorem Qbb9 {off:Nat} (hk:Qe2 P T o=some (.fld off,as,tk)) :
  ∃ s x f fs fd a,o.op = .fieldAddr s x f∧P.underlying s=some (.struct fs)∧fs[f]? = some fd∧Qe1 P 0 x=some a∧as=[a]∧P.cellsOf fd.type≠0∧off=fd.offset:=by
 unfold Qe2 Qp2 at hk
 repeat' split at hk
 all_goals grind [Option.map_eq_some_iff,Option.bind_eq_some_iff,Option.some.injEq,Prod.mk.injEq]
theorem Qbdp {ag:Bool} {n:Nat} (hk:Qe2 P T o=some (.load ag n,as,tk)) :
  ∃ t x a d,o.op = .load t x∧P.underlying t=some d∧Qe1 P 0 x=some a∧as=[a]∧ag=Qgp P t∧n=P.cellsOf t:=by
 unfold Qe2 Qp2 at hk
 repeat' split at hk
 all_goals grind [Option.map_eq_some_iff,Option.bind_eq_some_iff,Option.some.injEq,Prod.mk.injEq,Option.isSome_iff_exists]
theorem Qbfm {n:Nat} (hk:Qe2 P T o=some (.idx n,as,tk)) :
  ∃ t e x i,o.op = .indexAddr t x i∧P.underlying t=some (.slice e)∧Qek P (fun j=>if j=0 then t else 0) 0 [x,i]=some as∧n=P.cellsOf e∧n≠0:=by
 unfold Qe2 Qp2 at hk
 repeat' split at hk
 all_goals grind [Option.map_eq_some_iff,Option.bind_eq_some_iff,Option.some.injEq,Prod.mk.injEq]
theorem Qbca {n:Nat} (hk:Qe2 P T o=some (.store n,as,tk)) :
  ∃ t x y p v d,o.op = .store t x y∧P.underlying t=some d∧Qe1 P 0 x=some p∧Qe1 P t y=some v∧as=[p,v]∧n=P.cellsOf t∧o.dst=none:=by
 unfold Qe2 Qp2 at hk
 repeat' split at hk
 all_goals grind [Option.map_eq_some_iff,Option.bind_eq_some_iff,Option.some.injEq,Prod.mk.injEq,Option.isSome_iff_exists,Option.isNone_iff_eq_none]
end
mutual
def nbD:D→Bool
 | .bool _=>false
 | .lst _ l=>nbLL l
 | _=>true
def nbL:List D→Bool
 | []=>true
 | x::xs=>nbD x&&nbL xs
def nbLL:List (List D)→Bool
 | []=>true
 | x::xs=>nbL x&&nbLL xs
end
mutual
def nbV:V→Bool
 | .d (.bool _)=>true
 | .d x=>nbD x
 | .agg cs=>nbVs cs
 | .tup cs=>nbVs cs
 | .own _ l=>nbLL l
 | .ownT _ l=>nbLL l
 | .f (.bool _)=>true
 | .f x=>nbD x
 | .cref cs=>nbL cs
 | .clo _ cs=>nbVs cs
 | _=>true
def nbVs:List V→Bool
 | []=>true
 | v::vs=>nbV v&&nbVs vs
end
structure SetB (w w' : World) (b o:Nat) (y:Bool):Prop where
 oth:∀ b',b' ≠ b→w'.heap[b']? = w.heap[b']?
 cell:∀ o',o' ≠ o→w'.cell? ⟨b,o',none⟩=w.cell? ⟨b,o',none⟩
 was:∃ x,w.cell? ⟨b,o,none⟩=some (.bool x)
 new:w'.cell? ⟨b,o,none⟩=some (.bool y)
 mp:Qp4 w' b=Qp4 w b
section
variable {w w' : World} {b o:Nat} {y:Bool} (hB:SetB w w' b o y)
include hB
theorem SetB.cells {b' o' : Nat} (h:b' ≠ b∨o' ≠ o):w'.cell? ⟨b',o',none⟩=w.cell? ⟨b',o',none⟩:=by
 by_cases hb:b'=b
 ·subst hb;exact hB.cell o' (h.resolve_left (by simp))
 ·simp only [World.cell?];rw [hB.oth b' hb]
theorem SetB.mps (b' : Nat):Qp4 w' b'=Qp4 w b':=by
 by_cases hb:b'=b
 ·subst hb;exact hB.mp
 ·exact Q9c (hB.oth b' hb)
theorem SetB.there {b' o' : Nat} (h:Qru w b' o'):Qru w' b' o':=by
 unfold Qru at *
 rw [hB.mps];by_cases hb:b'=b∧o'=o
 ·obtain ⟨rfl,rfl⟩:=hb;rw [hB.new];exact .inl rfl
 ·rw [hB.cells (by omega)];exact h
mutual
theorem Qbcb {imm:Nat→Nat→Prop}:∀ (x:D) (v:Value),nbD x=true→RD imm w x v→RD imm w' x v
 | .int k n,v,_,hv=>by simpa [RD] using hv
 | .bool b,v,_,hv=>by simpa [RD] using hv
 | .str s,v,_,hv=>by simpa [RD] using hv
 | .lst sz l,v,hn,hv=>by
  simp only [RD] at hv ⊢;obtain ⟨a,cap,rfl,hc,hl⟩:=hv;refine ⟨a,cap,rfl,hc,?_⟩;rcases hl with hl|⟨b,o,ha,hl⟩
  ·exact .inl hl
  ·exact .inr ⟨b,o,ha,RDL_setB sz b l o (by simpa [nbD] using hn) hl⟩
 | .mp es c,v,_,hv=>by
  simp only [RD] at hv ⊢;obtain ⟨b,rfl,h1,h2⟩:=hv;exact ⟨b,rfl,h1,(hB.mps b).trans h2⟩
theorem Q5g {imm:Nat→Nat→Prop} (b' : Nat):∀ (ys:List D) (o' : Nat),nbL ys=true→RDc imm w b' ys o'→RDc imm w' b' ys o'
 | [],_,_,_=>by simp [RDc]
 | y::ys,o',hn,hv=>by
  simp only [RDc,nbL,Bool.and_eq_true] at hv hn ⊢;obtain ⟨hi,⟨u,hu,hy⟩,hr⟩:=hv;refine ⟨hi,⟨u,?_,Qbcb y u hn.1 hy⟩,Q5g b' ys (o'+1) hn.2 hr⟩;by_cases hb:b'=b∧o'=o
  ·obtain ⟨rfl,rfl⟩:=hb;obtain ⟨x,hx⟩:=hB.was;rw [hx] at hu;cases hu;cases y<;>simp [RD,nbD] at hy hn
  ·rw [hB.cells (by omega)];exact hu
theorem RDL_setB {imm:Nat→Nat→Prop} (sz b' : Nat):∀ (l:List (List D)) (o' : Nat),nbLL l=true→RDL imm w sz b' l o'→RDL imm w' sz b' l o'
 | [],_,_,_=>by simp [RDL]
 | x::xs,o',hn,hv=>by
  simp only [RDL,nbLL,Bool.and_eq_true] at hv hn ⊢;exact ⟨hv.1,Q5g b' x o' hn.1 hv.2.1,RDL_setB sz b' xs (o'+sz) hn.2 hv.2.2⟩
end
theorem Q83 {imm imm' : Nat→Nat→Prop} (hi:∀ b o,imm b o→imm' b o) {x:D} {v:Value} (hn:nbV (.d x)=true) (h:RD imm w x v):RD imm' w' x v:=by
 refine Qfl ⟨hi,fun _ _ _=>rfl⟩ x v ?_;cases x with
 | bool=>simpa [RD] using h
 | int|str|lst|mp=>exact Qbcb hB _ v (by simpa [nbV] using hn) h
variable {g:G} {k0 i0:Nat} (hb:g.own b = .cell k0 i0)
include hb
mutual
theorem Q7w:∀ (v:V) (ℓ:Owner) (u:Value),nbV v=true→(ℓ ≠ .cell k0 i0∧ℓ ≠ .box k0)→RV g w v ℓ u→RV g w' v ℓ u
 | .und,_,_,_,_,_=>by simp [RV]
 | .d x,_,_,hn,_,h=>by simp only [RV] at h ⊢;exact Q83 hB (fun _ _ h=>h) hn h
 | .agg cs,ℓ,u,hn,hl,h=>by
  simp only [RV] at h ⊢;obtain ⟨vs,rfl,h,h1⟩:=h;exact ⟨vs,rfl,RVs_setB cs ℓ 0 vs (by simpa [nbV] using hn) hl h,h1⟩
 | .tup cs,ℓ,u,hn,hl,h=>by
  simp only [RV] at h ⊢;obtain ⟨vs,rfl,h⟩:=h;exact ⟨vs,rfl,RVs_setB cs ℓ 0 vs (by simpa [nbV] using hn) hl h⟩
 | .own sz l,ℓ,u,hn,hl,h=>by
  simp only [RV] at h ⊢;rcases h with h|⟨b',cap,vals,e,h1,h2,h3,h4,h5,h6,h7,h8⟩
  ·exact .inl h
  ·have hne:b' ≠ b:=by rintro rfl;rw [hb] at h2;exact hl.1 h2.symm
   exact .inr ⟨b',cap,vals,e,h1,h2,(hB.oth b' hne).trans h3,h4,h5,h6,h7,RDL_setB hB sz b' l 0 (by simpa [nbV] using hn) h8⟩
 | .ownT sz l,ℓ,u,hn,hl,h=>by
  simp only [RV] at h ⊢;rcases h with h|⟨b',o0,cap,vals,e,h1,h2,h3,h4,h5,h6,h7,h8⟩
  ·exact .inl h
  ·have hne:b' ≠ b:=by rintro rfl;rw [hb] at h2;exact hl.1 h2.symm
   exact .inr ⟨b',o0,cap,vals,e,h1,h2,(hB.oth b' hne).trans h3,h4,h5,h6,h7,RDL_setB hB sz b' l o0 (by simpa [nbV] using hn) h8⟩
 | .ownV sz l,ℓ,u,_,hl,h=>by
  simp only [RV] at h ⊢;rcases h with h|⟨b',cap,vals,e,h1,h2,h3,h4,h5,h6,h7,h8,h9⟩
  ·exact .inl h
  ·have hne:b' ≠ b:=by rintro rfl;rw [hb] at h2;exact hl.1 h2.symm
   refine .inr ⟨b',cap,vals,e,h1,h2,(hB.oth b' hne).trans h3,h4,h5,h6,h7,RDL_mono ⟨fun _ _ h=>h,?_⟩ sz b' l 0 h8,h9⟩;rintro b2 o2 rfl;exact Qdo (hB.oth b2 hne)
 | .ptr k o,ℓ,u,_,_,h=>by simpa [RV] using h
 | .nilp,_,_,_,_,h=>by simpa [RV] using h
 | .f x,_,u,hn,_,h=>by
  simp only [RV] at h ⊢;exact Q83 hB (imm':=immf g w') (fun b o h=>⟨h.1,h.2.1,hB.there h.2.2⟩) (by cases x<;>exact hn) h
 | .nils _,_,_,_,_,h=>by simpa [RV] using h
 | .cref cs,ℓ,u,hn,_,h=>by
  simp only [RV] at h ⊢;obtain ⟨b',o',rfl,h⟩:=h;exact ⟨b',o',rfl,Q5g hB b' cs o' (by simpa [nbV] using hn) h⟩
 | .sl sz k o n c,ℓ,u,_,_,h=>by simpa [RV] using h
 | .clo f cs,ℓ,u,hn,hl,h=>by
  simp only [RV] at h ⊢;obtain ⟨vs,rfl,h⟩:=h;exact ⟨vs,rfl,RVs_setB cs .ext 0 vs (by simpa [nbV] using hn) (by simp) h⟩
 | .mp k,ℓ,u,_,_,h=>by simpa [RV] using h
theorem RVs_setB:∀ (cs:List V) (ℓ:Owner) (i:Nat) (us:List Value),nbVs cs=true→(ℓ ≠ .cell k0 i0∧ℓ ≠ .box k0)→RVs g w cs ℓ i us→RVs g w' cs ℓ i us
 | [],_,_,_,_,_,h=>by simpa [RVs] using h
 | c::cs,ℓ,i,us,hn,hl,h=>by
  simp only [RVs,nbVs,Bool.and_eq_true] at h hn ⊢;obtain ⟨u,us',rfl,h1,h2⟩:=h;have hsub:ℓ.sub i ≠ .cell k0 i0∧ℓ.sub i ≠ .box k0:=by cases ℓ<;>simp_all [Owner.sub]
  exact ⟨u,us',rfl,Q7w c (ℓ.sub i) u hn.1 hsub h1,RVs_setB cs ℓ (i+1) us' hn.2 hl h2⟩
end
end
theorem Q84:∀ {cs:List V} {j:Nat} {c:V},nbVs cs=true→cs[j]? = some c→nbV c=true
 | v::vs,0,c,h,hj=>by
  simp only [nbVs,Bool.and_eq_true] at h;simp only [List.getElem?_cons_zero,Option.some.injEq] at hj;subst hj;exact h.1
 | v::vs,j+1,c,h,hj=>by
  simp only [nbVs,Bool.and_eq_true] at h;exact Q84 h.2 (by simpa using hj)
theorem Qbfn {imm:Nat→Nat→Prop} {w w' : World} {b sz j c:Nat} {y x:Bool} {l:List (List D)} {row:List D} (hB:SetB w w' b (j*sz+c) y) (hsc:(l.all fun x=>x.all D.scal)=true) (hr:RDL imm w sz b l 0) (hj:l[j]? = some row) (hc:row[c]? = some (.bool x)) :
  RDL imm w' sz b (l.set j (row.set c (.bool y))) 0:=by
 have hjl:=(List.getElem?_eq_some_iff.1 hj).1;have hcl:=(List.getElem?_eq_some_iff.1 hc).1;have hlen:=(Qou hr j row hj).1;refine Qzd fun i r hi=>?_;by_cases he:j=i
 ·subst he;rw [List.getElem?_set_self hjl] at hi;cases hi;refine ⟨by simp [hlen],Qu9 fun m d hm=>?_⟩;by_cases hmc:c=m
  ·subst hmc;rw [List.getElem?_set_self hcl] at hm;cases hm;obtain ⟨h1,u,h2,h3⟩:=Qni (Qou hr j row hj).2 c _ hc;refine ⟨h1,.bool y,?_,by simp [RD]⟩;have:=hB.new;simpa using this
  ·rw [List.getElem?_set_ne hmc] at hm;obtain ⟨h1,u,h2,h3⟩:=Qni (Qou hr j row hj).2 m _ hm;refine ⟨h1,u,by rw [hB.cells (.inr (by omega))];exact h2,Qv4 ?_ h3⟩;exact List.all_eq_true.1 (List.all_eq_true.1 hsc row (List.mem_of_getElem? hj)) d (List.mem_of_getElem? hm)
 ·rw [List.getElem?_set_ne he] at hi;obtain ⟨hl,hrr⟩:=Qou hr i r hi;refine ⟨hl,Qu9 fun m d hm=>?_⟩;obtain ⟨h1,u,h2,h3⟩:=Qni hrr m _ hm;have hml:=(List.getElem?_eq_some_iff.1 hm).1;refine ⟨h1,u,?_,Qv4 (List.all_eq_true.1 (List.all_eq_true.1 hsc r (List.mem_of_getElem? hi)) d (List.mem_of_getElem? hm)) h3⟩;rw [hB.cells (.inr ?_)];exact h2;rcases Nat.lt_or_gt_of_ne he with h|h
  ·have:=Nat.mul_le_mul_right sz h;rw [Nat.succ_mul] at this;omega
  ·have:=Nat.mul_le_mul_right sz h;rw [Nat.succ_mul] at this;omega
theorem SetB.row {w:World} {b p:Nat} {x y:Bool} {vals:Array Value} {e:TypeId} (hh:w.heap[b]? = some (.cells vals e (0,0))) (hx:vals[p]? = some (.bool x)) :
  SetB w (w.setRow b (vals.toList.take p++[Value.bool y]++vals.toList.drop (p+1)).toArray) b p y:=by
 have hp:p<vals.size:=(Array.getElem?_eq_some_iff.1 hx).1;have hn:=setRow_heap w b vals (vals.toList.take p++[Value.bool y]++vals.toList.drop (p+1)).toArray e (0,0) hh;refine ⟨fun b' hb=>setRow_other w b b' _ hb,fun o' ho=>?_,⟨x,by simp [World.cell?,hh,hx]⟩,?_,by simp only [Qp4,hn,hh]⟩
 ·simp only [World.cell?,hn,hh];have:=Qh1 vals.toList [Value.bool y] p 1 rfl (by simpa using (show p+1≤vals.size from hp)) o';simp only [List.getElem?_toArray,Array.getElem?_toList] at this ⊢;rw [this];by_cases hlt:o'<p
  ·simp [hlt]
  ·have h2:¬ o'<p+1:=by omega
   simp [hlt,h2]
 ·simp only [World.cell?,hn];have:=Qh1 vals.toList [Value.bool y] p 1 rfl (by simpa using (show p+1≤vals.size from hp)) p;simp only [List.getElem?_toArray,Array.getElem?_toList] at this ⊢;rw [this];simp
theorem Qbfo {n0 nt:Nat} {g0:G} {w0 w w' : World} {σ:St} {a:Act} {g:G} (hs:SR n0 nt g0 w0 σ a w g) {b k0 i0 sz j c cap:Nat} {y x:Bool} {l:List (List D)} {row:List D} {cs:List V} {vals vals' : Array Value} {e:TypeId}
  (hnew:¬ b<w0.heap.size) (himm0:∀ b o,g0.imm b o→b<w0.heap.size) (hB:SetB w w' b (j*sz+c) y) (hos:w'.os=w.os) (htape:w'.tape=w.tape) (hout:w'.output=w.output) (hsize:w'.heap.size=w.heap.size)
  (hM:σ.M k0=some (.cells cs)) (hi:cs[i0]? = some (.own sz l)) (hb:g.own b = .cell k0 i0) (hu:w.cell? ⟨g.box k0,i0,none⟩=some (.slice (some ⟨b,0,none⟩) l.length cap)) (hh:w.heap[b]? = some (.cells vals e (0,0))) (h4:l.length≤cap) (h5:cap≤maxLen) (h6:vals.size=cap*sz)
  (h7:∀ o,g.imm b o↔o<l.length*sz) (h8:RDL g.imm w sz b l 0) (hsc:(l.all fun x=>x.all D.scal)=true) (hj:l[j]? = some row) (hc:row[c]? = some (.bool x))
  (hh' : w'.heap[b]? = some (.cells vals' e (0,0))) (h6' : vals'.size=vals.size) (h61:∀ u∈vals'.toList,u.oneCell'=true)
  (hps:∀ t,nbV (σ.s t)=true) (hpm:∀ k bx,σ.M k=some bx→∃ cs',bx = .cells cs'∧nbVs (if k=k0 then cs'.set i0 .und else cs')=true) :
  SR n0 nt g0 w0 ⟨σ.s,σ.M.put k0 (.cells (cs.set i0 (.own sz (l.set j (row.set c (.bool y)))))),σ.nb⟩ a w' g:=by
 have hil:=(List.getElem?_eq_some_iff.1 hi).1;have hth:∀ j',There σ.M j'→There (σ.M.put k0 (.cells (cs.set i0 (.own sz (l.set j (row.set c (.bool y))))))) j':=fun j' hj=>hj.put;refine ⟨⟨fun k bx hk=>?_,fun b' o hbo=>?_⟩,fun t=>Q7w hB hb _ _ _ (hps t) (by simp) (hs.slots t),hs.size,hs.defers,fun t=>Qdp hth _ (hs.onS t),fun k cs' hk=>?_,hs.top,?_⟩
 ·have hbk:∀ k bx,σ.M k=some bx→g.box k≠b:=by
   intro k bx hk e;have:=(hs.mem.box k bx hk).2.1;rw [e,hb] at this;cases this
  simp only [Mem.put] at hk;split at hk
  ·rename_i he;subst he;cases hk;obtain ⟨k1,k2,vs,e',q1,q2,q3⟩:=hs.mem.box k _ hM;refine ⟨k1,k2,vs,e',(hB.oth _ (hbk k _ hM)).trans q1,?_,q3⟩;obtain ⟨hl,hr⟩:=(Qci _ _ _ _).1 q2;obtain ⟨cs2,h2,hn⟩:=hpm k _ hM;cases h2;rw [if_pos rfl] at hn;refine (Qci _ _ _ _).2 ⟨by simp [hl],fun m v z hv hz=>?_⟩;simp only [Nat.zero_add,Owner.sub];by_cases he:i0=m
   ·subst he;rw [List.getElem?_set_self hil] at hv;cases hv;have hz' : w.cell? ⟨g.box k,i0,none⟩=some z:=by simp [World.cell?,q1,hz]
    rw [hu] at hz';cases hz';simp only [RV];refine .inr ⟨b,cap,vals',e,by simp,hb,hh',by simpa using h4,h5,⟨by omega,h61⟩,by simpa using h7,Qbfn hB hsc h8 hj hc⟩
   ·rw [List.getElem?_set_ne he] at hv;have:=hr m v z hv hz;simp only [Nat.zero_add,Owner.sub] at this;refine Q7w hB hb v _ z (Q84 (j:=m) hn (by rw [List.getElem?_set_ne he];exact hv)) ⟨by intro e;cases e;exact he rfl,by simp⟩ this
  ·rename_i hne;obtain ⟨cs2,rfl,hn⟩:=hpm k _ hk;rw [if_neg hne] at hn;obtain ⟨k1,k2,vs,e',q1,q2,q3⟩:=hs.mem.box k _ hk;exact ⟨k1,k2,vs,e',(hB.oth _ (hbk k _ hk)).trans q1,RVs_setB hB hb cs2 (.box k) 0 vs hn ⟨by simp,by intro e;cases e;exact hne rfl⟩ q2,q3⟩
 ·obtain ⟨k1,k2⟩:=hs.mem.imm b' o hbo;exact ⟨by rw [hsize];exact k1,k2⟩
 ·simp only [Mem.put] at hk;split at hk
  ·rename_i he;subst he;cases hk;obtain ⟨q1,q2⟩:=hs.onM k cs hM;exact ⟨Qr8 _ (ons_mono hth _ q1) trivial,fun hlt=>Qr8 _ (q2 hlt) trivial⟩
  ·obtain ⟨q1,q2⟩:=hs.onM k cs' hk;exact ⟨ons_mono hth _ q1,q2⟩
 ·have hf:=hs.fr;have hne:∀ b',b'<w0.heap.size→b' ≠ b:=by rintro b' h rfl;exact hnew h
  refine ⟨hos.trans hf.os,htape.trans hf.tape,hout.trans hf.output,by rw [hsize];exact hf.size,⟨hf.imm.mono,fun b' o h=>(Qdo (hB.oth b' (hne b' (himm0 _ _ h)))).trans (hf.imm.look b' o h)⟩,hf.box,fun b' hb' ho=>?_⟩;obtain ⟨q1,q2,q3⟩:=hf.old b' hb' ho;exact ⟨q1,(hB.oth b' (hne b' hb')).trans q2,q3⟩
section
variable {P:Program} {ops:Array Oper} {QQ:Exit→Act→World→Prop} {a:Act} {w w' : World}
theorem Qzo {i:Nat} {rest:List Nat} {o:Oper} {v:Value} (ho:ops[i]? = some o) (hg:o.guard=none) (hr:(execOp a.eval o).run P w = .ok (.value v) w') (h:wpOps P ops QQ rest (a.put o.dst v) w'):wpOps P ops QQ (i::rest) a w:=by
 simp only [wpOps,ho];rw [if_pos (by simp [Region.wanted,hg])];exact .inl (by unfold Oper.wp;rw [hr];exact h)
theorem Q9s {i:Nat} {rest:List Nat} {o:Oper} (ho:ops[i]? = some o) (hg:o.guard=none) (hr:(execOp a.eval o).run P w = .ok .skip w') (h:wpOps P ops QQ rest (a.put o.dst undef) w'):wpOps P ops QQ (i::rest) a w:=by
 simp only [wpOps,ho];rw [if_pos (by simp [Region.wanted,hg])];exact .inl (by unfold Oper.wp;rw [hr];exact h)
theorem Qs4 {T:Tk} {nt:Nat} {o:Oper} {d:Option Nat} {k:K} {as:List Arg} {tk:Bool} (h:Qiz P T nt ops o=some ⟨d,k,as,tk,none⟩):Qe2 P T o=some (k,as,tk)∧o.dst=d∧o.guard=none∧Q7d nt d=true:=by
 unfold Qiz at h
 repeat' split at h
 all_goals grind
end
theorem Q1w {a:Act} {d:Nat} {v:Value} (h:d<a.tmps.size):(a.put (some d) v).eval (.tmp d)=v:=by
 simp [Act.put,Act.eval,h]
variable {Γ:Env} {σ:St}
theorem Tr.setB {Q:Ex→St→Prop} {MB:Mem} (hG:Lone Γ MB) (hBo:∀ k,k<Γ.n0→(MB k).isSome=true→(σ.M k).isSome=true) {t1 d1 d2 d3 d4 k0 i0 sz j c:Nat} {κ:IntKind} {x y:Bool} {l:List (List D)} {row:List D} {cs:List V}
  (hs1:σ.s t1 = .ptr k0 0) (hM:σ.M k0=some (.cells cs)) (hi:cs[i0]? = some (.own sz l)) (hsc:(l.all fun x=>x.all D.scal)=true) (hj:l[j]? = some row) (hc:row[c]? = some (.bool x))
  (hps:∀ t,nbV (σ.s t)=true) (hpm:∀ k bx,σ.M k=some bx→∃ cs',bx = .cells cs'∧nbVs (if k=k0 then cs'.set i0 .und else cs')=true)
  (hQ:Q .norm ⟨(((σ.s.put d1 .und).put d2 .und).put d3 .und).put d4 .und,σ.M.put k0 (.cells (cs.set i0 (.own sz (l.set j (row.set c (.bool y)))))),σ.nb⟩) :
  Tr Γ (.region [⟨some d1,.fld i0,[.t t1],false,none⟩,⟨some d2,.load false 1,[.t d1],false,none⟩,⟨some d3,.idx sz,[.t d2,.c (.d (.int κ j))],false,none⟩,⟨some d4,.fld c,[.t d3],false,none⟩,⟨none,.store 1,[.t d4,.c (.d (.bool y))],false,none⟩] 9 []) σ Q:=by
 intro cd hcd a w g hs;cases cd<;>simp only [Qt3] at hcd<;>try (cases hcd;done)
 case region id ops draw =>
  have hcd:=Q0i hcd;unfold Qlp at hcd;split at hcd<;>try (cases hcd;done)
  rename_i cs' hcs;cases draw with
  | true=>grind
  | false =>
   simp only [Bool.false_eq_true,if_false,Option.some.injEq,CC.region.injEq,true_and,and_true] at hcd;subst hcd;refine wp_region ?_;obtain ⟨hlen,hget⟩:=Qim hcs;have hsz:ops.size=5:=by simpa using hlen.symm
   have get:∀ i (hi:i<5),ops[i]? = some (ops[i]'(by omega)):=fun i hi=>by simp [hsz,hi]
   have lget:∀ i (hi:i<5),ops.toList[i]? = some (ops[i]'(by omega)):=fun i hi=>by simp [hsz,hi]
   obtain ⟨k1,e1,g1,n1⟩:=Qs4 (hget 0 _ _ (lget 0 (by omega)) rfl);obtain ⟨k2,e2,g2,n2⟩:=Qs4 (hget 1 _ _ (lget 1 (by omega)) rfl);obtain ⟨k3,e3,g3,n3⟩:=Qs4 (hget 2 _ _ (lget 2 (by omega)) rfl);obtain ⟨k4,e4,g4,n4⟩:=Qs4 (hget 3 _ _ (lget 3 (by omega)) rfl);obtain ⟨k5,e5,g5,n5⟩:=Qs4 (hget 4 _ _ (lget 4 (by omega)) rfl);simp only [Q7d,decide_eq_true_eq] at n1 n2 n3 n4;obtain ⟨s1,x1,f1,fs1,fd1,a1,o1,u1,q1,c1,b1,z1,w1⟩:=Qbb9 k1;obtain ⟨t2,x2,a2,td2,o2,u2,c2,b2,z2,w2⟩:=Qbdp k2;obtain ⟨t3,el3,x3,y3,o3,u3,c3,w3,z3⟩:=Qbfm k3;obtain ⟨s4,x4,f4,fs4,fd4,a4,o4,u4,q4,c4,b4,z4,w4⟩:=Qbb9 k4;obtain ⟨t5,x5,y5,p5,v5,td5,o5,u5,c5,c5',b5,w5,_⟩:=Qbca k5;simp only [List.cons.injEq,and_true] at b1 b2 b4 b5;obtain ⟨b5,b5'⟩:=b5;subst b1 b2 b4 b5 b5';obtain ⟨uc,hcell,hrv,_⟩:=Qt6 hs.mem hM hi;have hjl:=(List.getElem?_eq_some_iff.1 hj).1;have hrv0:=hrv;simp only [RV] at hrv;rcases hrv with ⟨_,hl0⟩|⟨b,cap,vals,e,rfl,hb,hh,h4,h5,⟨h6,h61⟩,h7,h8⟩
   ·subst hl0;simp at hjl
   have hnew:=hG.old hs.mem hBo hs.fr (b:=b) (by rw [hb];simp [Prot]) (fun k=>by rw [hb];simp);obtain ⟨hrl,hrc⟩:=Qou h8 j row hj;obtain ⟨_,ub,hub,hubr⟩:=Qni hrc c _ hc;simp only [RD] at hubr;subst hubr;simp only [Nat.zero_add] at hub;have hcl:=(List.getElem?_eq_some_iff.1 hc).1;have hvp:vals[j*sz+c]? = some (.bool x):=by simpa [World.cell?,hh] using hub
   have hts:a.tmps.size=Γ.nt:=hs.size;rw [hsz];show wpOps _ _ _ [0,1,2,3,4] _ _;have hx1:RF g w (.ptr k0 0) (a.eval x1):=by
    rcases Qlq Γ.P hs c1 with ⟨t,rfl,ht,h1,_⟩|⟨_,c',ht,_⟩
    ·cases ht;rw [hs1] at h1;intro ℓ;simpa [RV] using h1
    ·cases ht
   obtain ⟨_,v1,r1,rf1⟩:=Qbac Γ.P s1 fs1 u1 f1 fd1 q1 z1 (n0:=0) (κ:=0) (M:=σ.M) hx1 rfl;rw [Qm0] at rf1;have hs2:=hs.pure (dst:=some d1) (v:=.und) (val:=v1) (fun d h=>by cases h;exact n1) (fun _ _=>by simp [RV]) trivial;have v1e:=Q1w (v:=v1) (a:=a) (hts ▸ n1);refine Qzo (get 0 (by omega)) g1 (w':=w) (v:=v1) (by simp only [execOp,o1];exact Qg3 Γ.P _ r1) ?_;rw [e1];generalize a.put (some d1) v1=A1 at hs2 v1e ⊢;have hx2:x2 = .tmp d1:=by
    rcases Qlq Γ.P hs2 c2 with ⟨t,rfl,ht,_⟩|⟨_,c',ht,_⟩<;>cases ht;rfl
   subst hx2;have r2:(Instr.loadAt t2 (A1.eval (.tmp d1))).run Γ.P w = .ok (.slice (some ⟨b,0,none⟩) l.length cap) w:=by
    rw [v1e,rf1];have:=Qze Γ.P t2 u2 z2.symm ⟨g.box k0,fd1.offset,none⟩ _ (by rw [← w1];exact hcell);simp [Instr.loadAt,Instr.sureAddr,this]
   have hs3:=hs2.pure (dst:=some d2) (v:=.und) (val:=.slice (some ⟨b,0,none⟩) l.length cap) (fun d h=>by cases h;exact n2) (fun _ _=>by simp [RV]) trivial;have v2e:=Q1w (v:=.slice (some ⟨b,0,none⟩) l.length cap) (a:=A1) (hs2.size ▸ n2);refine Qzo (get 1 (by omega)) g2 (w':=w) (by simp only [execOp,o2];exact Qg3 Γ.P _ r2) ?_;rw [e2];generalize A1.put (some d2) (.slice (some ⟨b,0,none⟩) l.length cap)=A2 at hs3 v2e ⊢;let g' : G:=⟨fun _=>b,g.imm,g.own⟩;simp only [Qek] at c3;split at c3<;>try (cases c3;done)
   rename_i p3 ps3 hp3 hps3;split at hps3<;>try (cases hps3;done)
   rename_i q3 qs3 hq3 hqs3;cases hps3;cases hqs3;cases c3;have hx3:x3 = .tmp d2:=by
    rcases Qlq Γ.P hs3 hp3 with ⟨t,rfl,ht,_⟩|⟨_,c',ht,_⟩<;>cases ht;rfl
   subst hx3;have hy3:RF g' w (.d (.int κ j)) (A2.eval y3):=by
    rcases Qlq Γ.P hs3 hq3 with ⟨t,rfl,ht,_⟩|⟨_,c',ht,h1,_⟩<;>cases ht;rw [Qov h1,RF_d];simp [RD]
   have hx3:RF g' w (.sl sz 0 0 l.length cap) (A2.eval (.tmp d2)):=by
    rw [v2e];intro ℓ;simp [RV,g']
   obtain ⟨_,v3,r3,rf3⟩:=Qbd2 Γ.P t3 el3 u3 (by rw [← w3];exact z3) (n0:=0) (κ:=0) (M:=σ.M) (M':=σ.M) (v:=.ptr 0 (0+j*sz)) hx3 hy3 (by rw [w3];simp [Qm,hjl]);rw [Qm0] at rf3;have hs4:=hs3.pure (dst:=some d3) (v:=.und) (val:=v3) (fun d h=>by cases h;exact n3) (fun _ _=>by simp [RV]) trivial;have v3e:=Q1w (v:=v3) (a:=A2) (hs3.size ▸ n3);refine Qzo (get 2 (by omega)) g3 (w':=w) (by simp only [execOp,o3];exact Qg3 Γ.P _ r3) ?_;rw [e3];generalize A2.put (some d3) v3=A3 at hs4 v3e ⊢;have hx4:x4 = .tmp d3:=by
    rcases Qlq Γ.P hs4 c4 with ⟨t,rfl,ht,_⟩|⟨_,c',ht,_⟩<;>cases ht;rfl
   subst hx4;have hx4:RF g' w (.ptr 0 (0+j*sz)) (A3.eval (.tmp d3)):=by rw [v3e];exact Qm0.2 rf3
   obtain ⟨_,v4,r4,rf4⟩:=Qbac Γ.P s4 fs4 u4 f4 fd4 q4 z4 (n0:=0) (κ:=0) (M:=σ.M) hx4 rfl;rw [Qm0] at rf4;have hs5:=hs4.pure (dst:=some d4) (v:=.und) (val:=v4) (fun d h=>by cases h;exact n4) (fun _ _=>by simp [RV]) trivial;have v4e:=Q1w (v:=v4) (a:=A3) (hs4.size ▸ n4);refine Qzo (get 3 (by omega)) g4 (w':=w) (by simp only [execOp,o4];exact Qg3 Γ.P _ r4) ?_;rw [e4];generalize A3.put (some d4) v4=A4 at hs5 v4e ⊢;have hx5:x5 = .tmp d4:=by
    rcases Qlq Γ.P hs5 c5 with ⟨t,rfl,ht,_⟩|⟨_,c',ht,_⟩<;>cases ht;rfl
   subst hx5;have hy5:A4.eval y5 = .bool y:=by
    rcases Qlq Γ.P hs5 c5' with ⟨t,rfl,ht,_⟩|⟨_,c',ht,h1,_⟩<;>cases ht;exact Q05 h1
   have hp:j*sz+c<vals.size:=(Array.getElem?_eq_some_iff.1 hvp).1;have hst:=run_storeCells_at (P:=Γ.P) b (j*sz+c) e [Value.bool y] 0 vals w hh (by simpa using (show j*sz+c+1≤vals.size from hp)) (by simp [Value.oneCell']);simp only [Nat.add_zero,List.length_singleton] at hst;have hB:=SetB.row (y:=y) hh hvp;have r5:(Instr.storeAt t5 (A4.eval (.tmp d4)) (A4.eval y5)).run Γ.P w = .ok () (w.setRow b (vals.toList.take (j*sz+c)++[Value.bool y]++vals.toList.drop (j*sz+c+1)).toArray):=by
    rw [v4e,rf4,hy5];obtain ⟨i5,hi5⟩:=Qf5 Γ.P u5;have hc5:=Qdx Γ.P hi5;rw [← w5] at hc5;simp only [Nat.zero_add,g',← w4];have hc1:(Value.bool y).cells.size=1:=rfl
    simp_all [Go.Instr.storeAt,Go.Instr.sureAddr,Go.storeVar,Go.Sem.run_bind,Go.Sem.run_pure,Go.Result.andThen_ok,Qf4,Qdx,Value.cells]
   refine Q9s (get 4 (by omega)) g5 (by simp only [execOp,o5];exact Q6a Γ.P _ r5) ?_;rw [e5];have hlast:=Qbfo hs5 hnew hG.imm hB rfl rfl rfl (by simp) hM hi hb hcell hh h4 h5 h6 h7 h8 hsc hj hc (setRow_heap w b vals _ e (0,0) hh) (by simp;omega) ?_ ?_ hpm
   ·exact ⟨.norm,_,g,rfl,hQ,hlast.pure (dst:=none) (v:=.und) (val:=undef) (fun _ h=>by cases h) (fun _ h=>by cases h) trivial⟩
   ·intro u hu;simp only [List.mem_append,List.mem_singleton,or_assoc] at hu;rcases hu with hu|rfl|hu
    ·exact h61 u (List.mem_of_mem_take hu)
    ·rfl
    ·exact h61 u (List.mem_of_mem_drop hu)
   ·intro t;simp only [Qbd,Sl.put]
    repeat' split
    all_goals first|rfl|exact hps t
 ·split at hcd<;>cases hcd
 ·split at hcd<;>cases hcd
 ·simp at hcd
 ·simp at hcd
theorem Q5h {α:Type} {e:α→List D} (h:∀ x,nbL (e x)=true):∀ xs:List α,nbLL (xs.map e)=true
 | []=>rfl
 | x::xs=>by simp [nbLL,h x,Q5h h xs]
theorem Qbcc:∀ {E:List (Nat×V)},(E.all fun p=>nbV p.2)=true→∀ t,nbV (look E t)=true
 | [],_,t=>rfl
 | (i,v)::E,h,t=>by
  simp only [List.all_cons,Bool.and_eq_true] at h;simp only [look];cases Nat.beq t i with
  | true=>exact h.1
  | false=>exact Qbcc h.2 t
def nbB (k0 i0:Nat) (p:Nat×Bx):Bool:=match p.2 with
 | .cells cs=>nbVs (if p.1=k0 then cs.set i0 .und else cs)
 | _=>false
theorem Q85 {k0 i0:Nat}:∀ {L:List (Nat×Bx)},L.all (nbB k0 i0)=true→∀ k bx,Qbu L k=some bx→∃ cs,bx = .cells cs∧nbVs (if k=k0 then cs.set i0 .und else cs)=true
 | [],_,_,_,h=>by cases h
 | (i,b)::L,h,k,bx,hk=>by
  simp only [List.all_cons,Bool.and_eq_true] at h;simp only [Qbu] at hk;cases hb:Nat.beq k i with
  | true =>
   rw [hb] at hk;cases hk;have:=Nat.eq_of_beq_eq_true hb;subst this;cases b with
   | mp=>simp [nbB] at h
   | cells cs =>
    refine ⟨cs,rfl,?_⟩;have h1:=h.1;simp only [nbB] at h1;exact h1
  | false=>rw [hb] at hk;exact Q85 h.2 k bx hk
theorem sbL {α:Type} {Q:Ex→St→Prop} {E:List (Nat×V)} {L:List (Nat×Bx)} {M:Mem} {nb:Nat} (hG:Lone Γ M) (hN:∀ k,M k=none) {t1 d1 d2 d3 d4 k0 i0 sz c j:Nat} {κ:IntKind} {y:Bool} {e:α→List D} {φ:α→α} {xs zs:List α} {cs cs' : List V}
  (hsc:∀ x,(e x).all D.scal=true) (hb:∀ x,∃ b,(e x)[c]? = some (.bool b)) (hφ:∀ x,(e x).set c (.bool y)=e (φ x)) (hu:updO xs (j:Int) φ=some zs)
  (hs1:look E t1 = .ptr (Γ.n0+k0) 0) (hM:Qbu L k0=some (.cells cs)) (hi:cs[i0]? = some (.own sz (xs.map e))) (hcs:cs.set i0 (.own sz (zs.map e))=cs') (hE:(E.all fun p=>nbV p.2)=true) (hL:L.all (nbB k0 i0)=true)
  (h:Q .norm ⟨look ((d4,.und)::(d3,.und)::(d2,.und)::(d1,.und)::E),Ql Γ.n0 ((k0,.cells cs')::L) M,nb⟩) :
  Tr Γ (.region [⟨some d1,.fld i0,[.t t1],false,none⟩,⟨some d2,.load false 1,[.t d1],false,none⟩,⟨some d3,.idx sz,[.t d2,.c (.d (.int κ (j:Int)))],false,none⟩,⟨some d4,.fld c,[.t d3],false,none⟩,⟨none,.store 1,[.t d4,.c (.d (.bool y))],false,none⟩] 9 []) ⟨look E,Ql Γ.n0 L M,nb⟩ Q:=by
 subst hcs;unfold updO getO setO at hu;obtain ⟨x,hx,hz⟩:=Option.bind_eq_some_iff.1 hu;have hx' : xs[j]? = some x:=by
  split at hx
  ·simpa using hx
  ·cases hx
 have hz' : zs=xs.set j (φ x):=by
  split at hz
  ·cases hz;simp
  ·cases hz
 obtain ⟨b,hb'⟩:=hb x;refine Tr.setB (σ:=⟨look E,Ql Γ.n0 L M,nb⟩) hG (fun k _ hk=>by rw [hN k] at hk;cases hk) (x:=b) (row:=e x) (l:=xs.map e) hs1 (by show Ql _ _ _ _=_;rw [Qbt];exact hM) hi ?_ (by simp [hx']) hb' (Qbcc hE) (fun k bx hk=>?_) ?_
 ·rw [List.all_map,List.all_eq_true];exact fun x _=>hsc x
 ·have hk:Ql Γ.n0 L M k=some bx:=hk;rcases Nat.lt_or_ge k Γ.n0 with h1|h1
  ·rw [Q8 h1,hN k] at hk;cases hk
  ·obtain ⟨m,rfl⟩ : ∃ m,k=Γ.n0+m:=⟨k-Γ.n0,by omega⟩;rw [Qbt] at hk;obtain ⟨cs',h2,h3⟩:=Q85 hL m bx hk;exact ⟨cs',h2,by simpa using h3⟩
 ·have e1:(xs.map e).set j ((e x).set c (.bool y))=zs.map e:=by
   rw [hz',List.map_set,hφ]
  rw [e1,Qcj,Qcj,Qcj,Qcj];show Q .norm ⟨_,(Ql Γ.n0 L M).put (Γ.n0+k0) _,nb⟩;rw [Qeu];exact h
theorem Qbgn {P:Program} {f:FuncId} {cf:CFn} (hcf:Qr P f=some cf) {r:V} (hargs:Nat.beq 0 cf.np=true) (hr0:r.lt 0=true) (hr1:Qwf r=true)
  (hrun:∀ (Γ:Env) (M:Mem),Γ.P=P→Γ.nt=cf.nt→Lone Γ M→(∀ k,M k=none)→(∀ k,Γ.n0≤k→M k=none)→Tr Γ cf.body ⟨Qkb [],Ql Γ.n0 [] M,Γ.n0+cf.nt⟩ (FinP cf.res r Γ.n0 M)):∀ M nb,ACalls P f [] M nb r M nb:=by
 intro M nb;refine Qbd8 hcf hr0 hr1 rfl (fun g0 w0 us hp hi hus=>⟨[],hus,by simp,rfl,Nat.eq_of_beq_eq_true hargs,fun Γ k1 k2 k3 k4 k5=>?_⟩) M;have h:=hrun Γ (fun _=>none) k1 k3 ⟨fun b _=>.inl (by rw [k4,hp b];trivial),fun b o hb=>by grind⟩ (fun _=>rfl) (fun _ _=>rfl);rw [Qn7 (fun _ _=>rfl),k2] at h;refine h.mono ?_;rintro e σ' ⟨he,r',q1,q2,q3,q4⟩;exact ⟨he,r',q1,q2,fun k b hk=>(by cases hk),fun _ _ _=>⟨q3,fun k cs hk=>(by cases hk),fun k hk=>(by cases hk)⟩⟩
def Qbdq:V→Bool
 | .d _ | .own _ _ | .nils _=>true
 | _=>false
def outG (g:G) (k:Nat):G:=⟨g.box,g.imm,fun b=>match g.own b with
 | .cell k' i=>if k'=k then .res [i] else .cell k' i
 | o=>o⟩
theorem Q5i {g:G} {k b:Nat} (h:∀ i,g.own b ≠ .cell k i):(outG g k).own b=g.own b:=by
 simp only [outG];split
 ·rename_i k' i e;rw [if_neg (by rintro rfl;exact h i e),e]
 ·rfl
theorem Qbgo {g:G} {w:World} {k i:Nat} {v:V} {u:Value} (hv:Qbdq v=true) (h:RV g w v (.cell k i) u):RV (outG g k) w v (.res [i]) u:=by
 cases v<;>simp only [Qbdq] at hv<;>try (cases hv;done)
 ·simpa [RV,outG] using h
 ·simp only [RV] at h ⊢;rcases h with h|⟨b,cap,vals,e,h1,h2,h3⟩
  ·exact .inl h
  ·exact .inr ⟨b,cap,vals,e,h1,by simp [outG,h2],h3⟩
 ·simpa [RV] using h
def FinO (p n:Nat) (cs:List V) (n0:Nat) (M0:Mem):Ex→St→Prop:=fun e σ =>
 (e = .norm∨e = .ret)∧∃ k,n0≤k∧σ.s p = .ptr k 0∧σ.M k=some (.cells cs)∧cs.length=n∧∀ k,k<n0→σ.M k=M0 k
theorem Qbgp {P:Program} {f:FuncId} {cf:CFn} (hcf:Qr P f=some cf) {p n:Nat} {cs:List V} (hargs:Nat.beq 0 cf.np=true) (hres:cf.res=[.cell p true n]) (hcs:cs.all Qbdq=true)
  (hrun:∀ (Γ:Env) (M:Mem),Γ.P=P→Γ.nt=cf.nt→(∀ k,Γ.n0≤k→M k=none)→Tr Γ cf.body ⟨Qkb [],Ql Γ.n0 [] M,Γ.n0+cf.nt⟩ (FinO p n cs Γ.n0 M)):∀ M nb,ACalls P f [] M nb (.agg cs) M nb:=by
 intro M nb;by_cases hM0:∀ k,nb≤k→M k=none
 case neg=>exact Qp0 (Qhh hcf) (Nat.le_refl _) hM0
 refine ⟨Qhh hcf,Nat.le_refl _,fun w g us htab hm hMon hus _=>?_⟩;unfold Qr at hcf;split at hcf<;>try (cases hcf;done)
 rename_i fn hfn;split at hcf<;>try (cases hcf;done)
 rename_i code hbody;split at hcf<;>try (cases hcf;done)
 rename_i b rss hb hrss;split at hcf<;>try (cases hcf;done)
 rename_i hnd;obtain ⟨hnd,hnp,hname⟩:=hnd;cases hcf;simp only at hargs hrun hres;subst hres;have hlen:us.length=0:=hus.length;have hus0:us=[]:=List.eq_nil_of_length_eq_zero hlen;subst hus0;let a0:Act:={ tmps:=([]:List Value).toArray++Array.replicate (fn.ntmps-([]:List Value).toArray.size) undef,defers:=[] };have hsz:a0.tmps.size=fn.ntmps:=by simp [a0]
 have hSR:SR nb fn.ntmps g w ⟨Qkb [],M,nb+fn.ntmps⟩ a0 w g:=by
  refine ⟨⟨fun k b hk=>?_,hm.imm⟩,fun t=>by simp [Qkb,RV],hsz,rfl,fun t=>by simp [Qkb,V.on],fun k cs hk=>⟨hMon k cs hk,fun hlt=>?_⟩,Nat.le_refl _,Fr.refl _ _ _⟩
  ·obtain ⟨h1,h2⟩:=hm.box k b hk
   grind
  ·refine ons_mono (fun j hj=>?_) cs (hMon k cs hk)
   grind [Nat.lt_or_ge,There]
 let Γ:Env:={ P,n0:=nb,nt:=fn.ntmps,g0:=g,w0:=w,T:=Q92 P code,tab:=htab };have hr:=hrun Γ M rfl rfl hM0;have hr:Tr Γ b ⟨Qkb [],Ql nb [] M,nb+fn.ntmps⟩ (FinO p n cs nb M):=hr;rw [Qn7 hM0] at hr;refine calls_of_wp hfn hbody (wp_mono (hr code hb a0 w g hSR) ?_);rintro e a' w' ⟨x,σ,g',rfl,⟨hx,k,hk0,hsp,hMk,hcl,hM1⟩,hs⟩;have hs:SR nb fn.ntmps g w σ a' w' g':=hs;obtain ⟨rv,hrvs,hrv⟩ : ∃ rv,fn.results.toList=[rv]∧Qt4 P fn.ntmps rv=some (.cell p true n):=by
  match hl:fn.results.toList,hrss with
  | [],h=>simp at h
  | [rv],h=>exact ⟨rv,rfl,by cases hc:Qt4 P fn.ntmps rv<;>simp_all⟩
  | rv::rv'::rest,h =>
   exfalso;simp only [List.mapM_cons,Option.bind_eq_bind,Option.bind_eq_some_iff,Option.pure_def,Option.some.injEq] at h;obtain ⟨s,_,ss,⟨s',_,ss',_,rfl⟩,h⟩:=h;cases h
 obtain ⟨p',t,rfl,rfl,hA,hn,d,hd⟩ : ∃ p' t,rv = .cell p' t∧p'=p∧Qgp P t=true∧P.cellsOf t=n∧∃ d,P.underlying t=some d:=by
  cases rv with
  | tmp t =>
   simp only [Qt4] at hrv;split at hrv<;>simp at hrv
  | cell p' t =>
   simp only [Qt4] at hrv;split at hrv
   ·rename_i hp;simp only [Option.some.injEq,Res.cell.injEq] at hrv;exact ⟨p',t,rfl,hrv.1,hrv.2.1,hrv.2.2,Option.isSome_iff_exists.1 hp.2⟩
   ·cases hrv
 have hptr:a'.tmps.getD p' undef = .pointer (some ⟨g'.box k,0,none⟩):=by
  have:=hs.slots p';rw [hsp] at this;simpa [RV] using this
 obtain ⟨vs,hvl,hvc,hv1,hvr⟩:=Qzf hs.mem hMk 0 cs.length (by omega);have hload:=Qyk P t hd hA (g'.box k) 0 vs (by rw [hvl,hcl,hn]) hvc;have hresrun:(results fn a'.tmps).run P w' = .ok (.agg vs.toArray) w':=by
  show ((do let vs ← fn.results.mapM (Q37 a'.tmps);pure (if h:vs.size=1 then vs[0] else .tuple vs)):Sem Value).run P w'=_;rw [Array.mapM_eq_mapM_toList,hrvs];simp [Q37,hptr,asAddr,hload]
 have hlt:∀ j,There M j→j<nb:=fun j hj=>by
  rcases Nat.lt_or_ge j nb with h|h
  ·exact h
  ·simp [There,hM0 j h] at hj
 have hkept:Kept g' w' (outG g' k) w' (There M) (fun o=>o ≠ .box k∧∀ i,o ≠ .cell k i) :=
  ⟨⟨fun _ _ h=>h,fun _ _ _=>rfl⟩,fun _ _=>rfl,fun b hb _=>⟨Q5i hb.2,rfl,fun _=>Iff.rfl⟩⟩
 have hsub:∀ ℓ i,(ℓ ≠ .box k∧∀ i,ℓ≠Owner.cell k i)→(ℓ.sub i ≠ .box k∧∀ i',ℓ.sub i ≠ .cell k i'):=by
  intro ℓ i h;cases ℓ<;>simp_all [Owner.sub]
 have hpost:∃ v' g'',Ending.returned (.agg vs.toArray) = .returned v'∧MR g'' w' M nb∧RV g'' w' (.agg cs) (.res []) v'∧(V.agg cs).on (There M)∧MOn (There M) M∧Fr nb g w g'' w':=by
  refine ⟨_,outG g' k,rfl,⟨fun j bx hj=>?_,fun b' o hbo=>?_⟩,?_,?_,hMon,?_⟩
  ·have hjn:=hlt j (by simp [There,hj]);have hjk:j≠k:=by omega
   obtain ⟨_,k2,k3⟩:=hs.mem.box j bx (by rw [hM1 j hjn];exact hj);refine ⟨hjn,(Q5i (fun i=>by show g'.own (g'.box j)≠_;rw [k2];simp)).trans k2,?_⟩;cases bx with
   | mp es c =>
    obtain ⟨ents,q1,q2⟩:=k3;exact ⟨ents,q1,Qi8 (g:=g') (g':=outG g' k) hkept (fun i=>⟨by simp,fun i' e=>by cases e;exact hjk rfl⟩) q2⟩
   | cells cs2 =>
    obtain ⟨vals,e,q1,q2,q3⟩:=k3;exact ⟨vals,e,q1,RVs_mono hkept hsub ⟨by simp,by simp⟩ _ _ _ _ ⟨fun e=>by cases e;exact hjk rfl,by simp⟩ (hMon j cs2 hj) q2,q3⟩
  ·obtain ⟨h1,h2⟩:=hs.mem.imm b' o hbo;refine ⟨h1,fun j e=>?_⟩;simp only [outG] at e;split at e
   ·split at e<;>cases e
   ·exact h2 j e
  ·simp only [RV];refine ⟨vs,rfl,(Qci _ _ _ _).2 ⟨hvl,fun j c u hc hu=>?_⟩,hv1⟩;simp only [Nat.zero_add,Owner.sub];have:=hvr j c u (by simpa using hc) hu;rw [Nat.zero_add] at this;exact Qbgo (List.all_eq_true.1 hcs c (List.mem_of_getElem? hc)) this
  ·show V.ons _ cs;refine Qh0.2 fun v hv=>?_;have:=List.all_eq_true.1 hcs v hv;cases v<;>simp_all [Qbdq,V.on]
  ·have hf:=hs.fr;refine ⟨hf.os,hf.tape,hf.output,hf.size,hf.imm,hf.box,fun b' hb' ho=>?_⟩;obtain ⟨q1,q2,q3⟩:=hf.old b' hb' ho;exact ⟨(Q5i (fun i e=>by rw [q1] at e;rw [e] at ho;exact ho)).trans q1,q2,q3⟩
 rcases hx with rfl|rfl
 ·exact ⟨hs.defers,_,hresrun,hpost⟩
 ·exact ⟨hs.defers,_,hresrun,hpost⟩
theorem finO {E:List (Nat×V)} {L:List (Nat×Bx)} {M:Mem} {nb n0 p n k:Nat} {cs:List V} (hs:look E p = .ptr (n0+k) 0) (hM:Qbu L k=some (.cells cs)) (hn:Nat.beq cs.length n=true):FinO p n cs n0 M .ret ⟨look E,Ql n0 L M,nb⟩ :=
 ⟨.inr rfl,n0+k,Nat.le_add_right _ _,hs,Qbt.trans hM,Nat.eq_of_beq_eq_true hn,fun _ h=>Q8 h⟩
end Go.Abs
end
section
namespace Go.Abs
open Go
set_option maxRecDepth 10000
set_option maxHeartbeats 4000000
structure Q4 where
  State:Int
  Rank:Int
  Reason:Int
  Event:Int
  deriving DecidableEq
def Q3 (x:Q4):List D:=[.int .i64 x.State,.int .i64 x.Rank,.int .i64 x.Reason,.int .i64 x.Event]
abbrev Q5j (x:Q4):List V:=[(i_ x.State),(i_ x.Rank),(i_ x.Reason),(i_ x.Event)]
abbrev Qbdr (x:Q4):V:=.agg (Q5j x)
abbrev Qcp (x:List Q4):V:=.d (.lst 4 (List.map Q3 x))
abbrev Qcq (x:List Q4):V:=.own 4 (List.map Q3 x)
structure Qq where
  Name:ByteArray
  Controllable:Bool
  Observable:Bool
  zD:Bool
  Fault:Int
def Qf9 (x:Qq):List D:=[.str x.Name,.bool x.Controllable,.bool x.Observable,.bool x.zD,.int .i64 x.Fault]
abbrev Q7x (x:Qq):List V:=[.d (.str x.Name),(b_ x.Controllable),(b_ x.Observable),(b_ x.zD),(i_ x.Fault)]
abbrev Qyv (x:Qq):V:=.agg (Q7x x)
abbrev Qj (x:List Qq):V:=.d (.lst 5 (List.map Qf9 x))
abbrev Qe4 (x:List Qq):V:=.own 5 (List.map Qf9 x)
structure Qo where
  From:Int
  Event:Int
  To:Int
  deriving DecidableEq
def Qh (x:Qo):List D:=[.int .i64 x.From,.int .i64 x.Event,.int .i64 x.To]
abbrev Qs5 (x:Qo):List V:=[(i_ x.From),(i_ x.Event),(i_ x.To)]
abbrev Qbfv (x:Qo):V:=.agg (Qs5 x)
abbrev Qc (x:List Qo):V:=.d (.lst 3 (List.map Qh x))
abbrev Qb1 (x:List Qo):V:=.own 3 (List.map Qh x)
structure Qd where
  zG:List Int
  zM:Int
  zH:List Int
  zJ:List Qo
  deriving DecidableEq
def Ql9 (x:Qd):List D:=[.lst 1 (List.map (eI .i64) x.zG),.int .i64 x.zM,.lst 1 (List.map (eI .i64) x.zH),.lst 3 (List.map Qh x.zJ)]
abbrev Q0 (x:Qd):List V:=[(l_ x.zG),(i_ x.zM),(l_ x.zH),.d (.lst 3 (List.map Qh x.zJ))]
abbrev Qbm (x:Qd):V:=.agg (Q0 x)
structure Qk where
  Events:List Qq
  Plant:Qd
  First:Qd
  Class:Int
  zC:List Int
def Qwl (x:Qk):List D:=[.lst 5 (List.map Qf9 x.Events),.lst 1 (List.map (eI .i64) x.Plant.zG),.int .i64 x.Plant.zM,.lst 1 (List.map (eI .i64) x.Plant.zH),.lst 3 (List.map Qh x.Plant.zJ),.lst 1 (List.map (eI .i64) x.First.zG),.int .i64 x.First.zM,.lst 1 (List.map (eI .i64) x.First.zH),.lst 3 (List.map Qh x.First.zJ),.int .i64 x.Class,.lst 1 (List.map (eI .i64) x.zC)]
abbrev Qe5 (x:Qk):List V:=[.d (.lst 5 (List.map Qf9 x.Events)),(l_ x.Plant.zG),(i_ x.Plant.zM),(l_ x.Plant.zH),.d (.lst 3 (List.map Qh x.Plant.zJ)),(l_ x.First.zG),(i_ x.First.zM),(l_ x.First.zH),.d (.lst 3 (List.map Qh x.First.zJ)),(i_ x.Class),(l_ x.zC)]
abbrev Q1 (x:Qk):V:=.agg (Qe5 x)
structure Qb where
  state_:Int
  event_:Int
  deriving DecidableEq
def Qbcd (x:Qb):List D:=[.int .i64 x.state_,.int .i64 x.event_]
abbrev Qn (x:Qb):List V:=[(i_ x.state_),(i_ x.event_)]
abbrev Qql (x:Qb):V:=.agg (Qn x)
theorem Qdw (a b:Qb):Qea (Qql a) (Qql b)=(a==b):=by
  cases a;cases b;refine (decB ?_);simp [Qql,Qn,Qea,Qhy,Qhs]
structure Qw where
  Observation:List Int
  Estimate:List Int
  deriving DecidableEq
def Q9 (x:Qw):List D:=[.lst 1 (List.map (eI .i64) x.Observation),.lst 1 (List.map (eI .i64) x.Estimate)]
abbrev Qev (x:Qw):List V:=[(l_ x.Observation),(l_ x.Estimate)]
abbrev Qz (x:Qw):V:=.agg (Qev x)
abbrev Qbc (x:List Qw):V:=.d (.lst 2 (List.map Q9 x))
abbrev Qe (x:List Qw):V:=.own 2 (List.map Q9 x)
structure Qa where
  Task:Qk
  observable_:List Int
  out_:List (List Qo)
  certain_:List Bool
  states_:List (List Int)
  diagnosed_:List (Qb×Int)
  firsts_:List (Qb×Int)
  switches_:List Qw
  estimates_:List (List Int)
  number_:List (ByteArray×Int)
  next_:List (Qb×Int)
  rank_:List Int
  removals_:List Q4
  rounds_:Int
abbrev Qs (x:Qa) (k0 k1:Nat):List V:=[.d (.lst 5 (List.map Qf9 x.Task.Events)),(l_ x.Task.Plant.zG),(i_ x.Task.Plant.zM),(l_ x.Task.Plant.zH),.d (.lst 3 (List.map Qh x.Task.Plant.zJ)),(l_ x.Task.First.zG),(i_ x.Task.First.zM),(l_ x.Task.First.zH),.d (.lst 3 (List.map Qh x.Task.First.zJ)),(i_ x.Task.Class),(l_ x.Task.zC),.own 1 (List.map (eI .i64) x.observable_),.d (.lst 1 (List.map (eL 3 Qh) x.out_)),.own 1 (List.map eB x.certain_),.own 1 (List.map (eL 1 (eI .i64)) x.states_),.d (mpD (fun (x:Qb)=>(.agg [(i_ x.state_),(i_ x.event_)]:V)) (fun (x:Int)=>((i_ x):V)) x.diagnosed_),.d (mpD (fun (x:Qb)=>(.agg [(i_ x.state_),(i_ x.event_)]:V)) (fun (x:Int)=>((i_ x):V)) x.firsts_),.own 2 (List.map Q9 x.switches_),.own 1 (List.map (eL 1 (eI .i64)) x.estimates_),.mp k0,.mp k1,(l_ x.rank_),.d (.lst 4 (List.map Q3 x.removals_)),(i_ x.rounds_)]
structure Qi where
  State:Int
  Classes:Int
  deriving DecidableEq
def Qcr (x:Qi):List D:=[.int .i64 x.State,.int .i64 x.Classes]
abbrev Qb6 (x:Qi):List V:=[(i_ x.State),(i_ x.Classes)]
abbrev Qko (x:Qi):V:=.agg (Qb6 x)
abbrev Qkp (x:List Qi):V:=.d (.lst 2 (List.map Qcr x))
abbrev Qc6 (x:List Qi):V:=.own 2 (List.map Qcr x)
theorem Qgf (a b:Qi):Qea (Qko a) (Qko b)=(a==b):=by
  cases a;cases b;refine (decB ?_);simp [Qko,Qb6,Qea,Qhy,Qhs]
structure Qy where
  out_:List (List Qo)
  kept_:List Int
  erased_:List Int
  marked_:List Int
  deriving DecidableEq
def Q62 (x:Qy):List D:=[.lst 1 (List.map (eL 3 Qh) x.out_),.lst 1 (List.map (eI .i64) x.kept_),.lst 1 (List.map (eI .i64) x.erased_),.lst 1 (List.map (eI .i64) x.marked_)]
abbrev Qcf (x:Qy):List V:=[.d (.lst 1 (List.map (eL 3 Qh) x.out_)),(l_ x.kept_),(l_ x.erased_),(l_ x.marked_)]
abbrev Qc1 (x:Qy):V:=.agg (Qcf x)
structure Qdh where
  zB:Qd
  Estimates:List (List Qi)
  deriving DecidableEq
def Q63 (x:Qdh):List D:=[.lst 1 (List.map (eI .i64) x.zB.zG),.int .i64 x.zB.zM,.lst 1 (List.map (eI .i64) x.zB.zH),.lst 3 (List.map Qh x.zB.zJ),.lst 1 (List.map (eL 2 Qcr) x.Estimates)]
abbrev Qn8 (x:Qdh):List V:=[(l_ x.zB.zG),(i_ x.zB.zM),(l_ x.zB.zH),.d (.lst 3 (List.map Qh x.zB.zJ)),.d (.lst 1 (List.map (eL 2 Qcr) x.Estimates))]
abbrev Qwm (x:Qdh):V:=.agg (Qn8 x)
structure Qp where
  diagnoser_:Int
  first_:Int
  deriving DecidableEq
def Qwn (x:Qp):List D:=[.int .i64 x.diagnoser_,.int .i64 x.first_]
abbrev Qc8 (x:Qp):List V:=[(i_ x.diagnoser_),(i_ x.first_)]
abbrev Qb2 (x:Qp):V:=.agg (Qc8 x)
abbrev Qma (x:List Qp):V:=.own 2 (List.map Qwn x)
theorem Qjk (a b:Qp):Qea (Qb2 a) (Qb2 b)=(a==b):=by
  cases a;cases b;refine (decB ?_);simp [Qb2,Qc8,Qea,Qhy,Qhs]
structure Qg where
  estimate_:Int
  state_:Int
  deriving DecidableEq
def Qcv (x:Qg):List D:=[.int .i64 x.estimate_,.int .i64 x.state_]
abbrev Qx (x:Qg):List V:=[(i_ x.estimate_),(i_ x.state_)]
abbrev Qox (x:Qg):V:=.agg (Qx x)
abbrev Qd4 (x:List Qg):V:=.own 2 (List.map Qcv x)
theorem Qep (a b:Qg):Qea (Qox a) (Qox b)=(a==b):=by
  cases a;cases b;refine (decB ?_);simp [Qox,Qx,Qea,Qhy,Qhs]
structure Qb3 where
  Switches:List Qw
  Estimates:List (List Int)
  Kept:List Int
  zF:List Q4
  Rounds:Int
  deriving DecidableEq
def Q9t (x:Qb3):List D:=[.lst 2 (List.map Q9 x.Switches),.lst 1 (List.map (eL 1 (eI .i64)) x.Estimates),.lst 1 (List.map (eI .i64) x.Kept),.lst 4 (List.map Q3 x.zF),.int .i64 x.Rounds]
abbrev Qd8 (x:Qb3):List V:=[.d (.lst 2 (List.map Q9 x.Switches)),.d (.lst 1 (List.map (eL 1 (eI .i64)) x.Estimates)),(l_ x.Kept),.d (.lst 4 (List.map Q3 x.zF)),(i_ x.Rounds)]
abbrev Qew (x:Qb3):V:=.agg (Qd8 x)
structure Qu where
  at_:Qp
  estimate_:Int
  deriving DecidableEq
def Qwo (x:Qu):List D:=[.int .i64 x.at_.diagnoser_,.int .i64 x.at_.first_,.int .i64 x.estimate_]
abbrev Qck (x:Qu):List V:=[(i_ x.at_.diagnoser_),(i_ x.at_.first_),(i_ x.estimate_)]
abbrev Qdk (x:Qu):V:=.agg (Qck x)
abbrev Qjt (x:List Qu):V:=.own 3 (List.map Qwo x)
theorem Qmb (a b:Qu):Qea (Qdk a) (Qdk b)=(a==b):=by
  obtain ⟨⟨_,_⟩,_⟩:=a;obtain ⟨⟨_,_⟩,_⟩:=b;refine (decB ?_);simp [Qdk,Qck,Qea,Qhy,Qhs,and_assoc]
abbrev mq0 (p:List ((Qb)×(Int))):D:=mpD (fun (x:Qb)=>(.agg (Qn x):V)) (fun (x:Int)=>((i_ x):V)) p
abbrev mq1 (p:List ((Qg)×(Bool))):D:=mpD (fun (x:Qg)=>(.agg (Qx x):V)) (fun (x:Bool)=>((b_ x):V)) p
end Go.Abs
end
section
namespace Go.Abs
open Go
set_option maxRecDepth 10000
set_option maxHeartbeats 4000000
def K_bits_Len (P:Program) (c:Nat) (f:Int→Option Int):Prop:=∀ x1 r,f x1=some r→∀ M nb,ACalls P c [.d (.int .u64 x1)] M nb (i_ r) M nb
def Qqm (P:Program) (c:Nat) (f:Int→Option Bool):Prop:=∀ x1 r,f x1=some r→∀ M nb,ACalls P c [(i_ x1)] M nb (b_ r) M nb
def Qwp:CFn:=⟨1,6,[.t 2],sg [oo 2 .mov [.c (.d (.bool false))]] (sg [oM 3 0,oM 4 0,oB 5 .neq (.t 3) (.t 4),oM 2 5] .ret)⟩
def Qfx (x1:Int):Option Bool :=
  some (x1 != x1)
def Qn2 (P:Program) (c:Nat) (f:Int→Int→Option Bool):Prop:=∀ x1 y2 r,f x1 y2=some r→∀ M nb,ACalls P c [(i_ x1),(i_ y2)] M nb (b_ r) M nb
def Qyi:CFn:=⟨2,17,[.t 4],sg [oo 4 .mov [.c (.d (.bool false))]] (sg [oM 5 0,oK 6 172 [.t 5],oM 7 6,g1 7 (oM 8 1),g1 7 (oK 9 172 [.t 8]),g1 7 (oo 10 (.un .not) [.t 9]),oP 11 7 10,oM 12 11,g0 12 (oM 13 0),g0 12 (oM 14 1),g0 12 (oB 15 .lss (.t 13) (.t 14)),oQ 16 12 15,oM 4 16] .ret)⟩
def Qd5 (Qfx:Int→Option Bool) (x1:Int) (y2:Int):Option Bool :=
  ((Qfx x1).bind fun x4=>(if x4 then ((Qfx y2).bind fun x7=>(if x7 then some (decide (x1<y2)) else some true)) else some (decide (x1<y2))))
def Qe6 (P:Program) (c:Nat) (f:(List Int)→Int→Int→Option Unit):Prop:=∀ dv1 a2 b3 r,f dv1 a2 b3=some r→∀ M nb,ACalls P c [(l_ dv1),(i_ a2),(i_ b3)] M nb (.tup []) M nb
def Qhb:CFn:=⟨3,49,[],sg [oM 8 1,oB 9 .add (.t 8) (cI 1),oM 6 9] (.block 0 (.loop [] (.seq (sg [oM 10 6,oM 11 2,oB 12 .lss (.t 10) (.t 11)] (.cond (.t 12) .skip (.exit 0))) (.seq (.block 1 (sg [oM 15 6,oM 7 15] (.block 2 (.loop [] (.seq (.seq (.region [oM 16 7,oM 17 1,oB 18 .gtr (.t 16) (.t 17),oM 19 18,g1 19 (oM 20 0),g1 19 (oM 21 7),g1 19 (oI 22 1 20 21),g1 19 (oL 23 22),g1 19 (oM 24 0),g1 19 (oM 25 7),g1 19 (oB 26 .sub (.t 25) (cI 1)),g1 19 (oI 27 1 24 26),g1 19 (oL 28 27),g1 19 (oK 29 144 [.t 23,.t 28]),oP 30 19 29] 0 []) (.cond (.t 30) .skip (.exit 2))) (.seq (.block 3 (.region [oM 33 0,oM 34 7,oM 35 0,oM 36 7,oB 37 .sub (.t 36) (cI 1),oM 38 0,oM 39 7,oB 40 .sub (.t 39) (cI 1),oI 41 1 38 40,oL 42 41,oM 43 0,oM 44 7,oI 45 1 43 44,oL 46 45,oI 47 1 33 34,oU 1 47 42,oI 48 1 35 37,oU 1 48 46] 0 [])) (rg [oM 31 7,oB 32 .sub (.t 31) (cI 1),oM 7 32]))))))) (rg [oM 13 6,oB 14 .add (.t 13) (cI 1),oM 6 14])))))⟩
def Qbv (Qd5:Int→Int→Option Bool) (fuel:Nat) (dv1:(List Int)) (a2:Int) (b3:Int):Option Unit :=
  Qc0 (fun k5 (i4:Int)=>(if (i4<b3) then ((Qc0 (fun k8 (j7:Int)=>(((if (j7>a2) then ((getO dv1 j7).bind fun x10=>((getO dv1 (IntKind.wrap .i64 (j7-1))).bind fun x12=>((Qd5 x10 x12).bind fun x15=>some x15))) else some false)).bind fun (x16:Bool)=>(if x16 then none else some ()))) fuel i4).bind fun (_:Unit)=>k5 (IntKind.wrap .i64 (i4+1))) else some ())) fuel (IntKind.wrap .i64 (a2+1))
def Qgq (P:Program) (c:Nat) (f:(List Int)→Int→Int→Int→Option Unit):Prop:=∀ dv1 a2 b3 lv4 r,f dv1 a2 b3 lv4=some r→∀ M nb,ACalls P c [(l_ dv1),(i_ a2),(i_ b3),(i_ lv4)] M nb (.tup []) M nb
def Qju:CFn:=⟨4,134,[],sg [oo 8 .mov [.c (.d (.bool true))]] (sg [oo 9 .mov [.c (.d (.bool true))]] (.block 0 (.loop [] (.block 1 (sg [oM 19 2,oM 20 1,oB 21 .sub (.t 19) (.t 20),oM 10 21] (.seq (sg [oM 22 10,oB 23 .leq (.t 22) (cI 12)] (.cond (.t 23) (sg [oM 24 0,oM 25 1,oM 26 2,oK 27 157 [.t 24,.t 25,.t 26]] .ret) .skip)) (.seq (sg [oM 28 3,oB 29 .eql (.t 28) (cI 0)] (.cond (.t 29) (sg [oM 30 0,oM 31 1,oM 32 2,oK 33 158 [.t 30,.t 31,.t 32]] .ret) .skip)) (.seq (sg [oM 34 8,oo 35 (.un .not) [.t 34]] (.cond (.t 35) (sg [oM 36 0,oM 37 1,oM 38 2,oK 39 159 [.t 36,.t 37,.t 38]] (rg [oM 40 3,oB 41 .sub (.t 40) (cI 1),oM 3 41])) .skip)) (sg [oM 43 0,oM 44 1,oM 45 2,oK 46 160 [.t 43,.t 44,.t 45],oM 42 46,oX 47 0 42,oX 48 1 42,oM 11 47,oM 12 48] (.seq (sg [oM 49 12,oB 50 .eql (.t 49) (cI 2)] (.cond (.t 50) (sg [oM 51 0,oM 52 1,oM 53 2,oK 54 161 [.t 51,.t 52,.t 53]] (sg [oM 55 2,oB 56 .sub (.t 55) (cI 1),oM 57 11,oM 58 1,oB 59 .sub (.t 57) (.t 58),oB 60 .sub (.t 56) (.t 59),oM 11 60] (rg [oC 12 1]))) .skip)) (.seq (sg [oM 61 8,oM 62 61,g1 62 (oM 63 9),oP 64 62 63,oM 65 64,g1 65 (oM 66 12),g1 65 (oB 67 .eql (.t 66) (cI 1)),oP 68 65 67] (.cond (.t 68) (sg [oM 69 0,oM 70 1,oM 71 2,oK 72 162 [.t 69,.t 70,.t 71]] (.cond (.t 72) .ret .skip)) .skip)) (.seq (.seq (.region [oM 73 1,oB 74 .gtr (.t 73) (cI 0),oM 75 74,g1 75 (oM 76 0),g1 75 (oM 77 1),g1 75 (oB 78 .sub (.t 77) (cI 1)),g1 75 (oI 79 1 76 78),g1 75 (oL 80 79),g1 75 (oM 81 0),g1 75 (oM 82 11),g1 75 (oI 83 1 81 82),g1 75 (oL 84 83),g1 75 (oK 85 144 [.t 80,.t 84]),g1 75 (oo 86 (.un .not) [.t 85]),oP 87 75 86] 0 []) (.cond (.t 87) (sg [oM 88 0,oM 89 1,oM 90 2,oM 91 11,oK 92 163 [.t 88,.t 89,.t 90,.t 91],oM 13 92] (sg [oM 93 13,oM 1 93] (.exit 1))) .skip)) (sg [oM 95 0,oM 96 1,oM 97 2,oM 98 11,oK 99 164 [.t 95,.t 96,.t 97,.t 98],oM 94 99,oX 100 0 94,oX 101 1 94,oM 14 100,oM 15 101] (sg [oM 102 15,oM 9 102] (sg [oM 103 14,oM 104 1,oB 105 .sub (.t 103) (.t 104),oM 106 2,oM 107 14,oB 108 .sub (.t 106) (.t 107),oM 16 105,oM 17 108] (sg [oM 109 10,oB 110 .quo (.t 109) (cI 8),oM 18 110] (sg [oM 111 16,oM 112 17,oB 113 .lss (.t 111) (.t 112)] (.cond (.t 113) (sg [oM 114 16,oM 115 18,oB 116 .geq (.t 114) (.t 115),oM 8 116] (sg [oM 117 0,oM 118 1,oM 119 14,oM 120 3,oK 121 133 [.t 117,.t 118,.t 119,.t 120]] (rg [oM 122 14,oB 123 .add (.t 122) (cI 1),oM 1 123]))) (sg [oM 124 17,oM 125 18,oB 126 .geq (.t 124) (.t 125),oM 8 126] (sg [oM 127 0,oM 128 14,oB 129 .add (.t 128) (cI 1),oM 130 2,oM 131 3,oK 132 133 [.t 127,.t 129,.t 130,.t 131]] (rg [oM 133 14,oM 2 133])))))))))))))))))))))⟩
def Qcl (Qbv:(List Int)→Int→Int→Option Unit) (fuel:Nat) (dv1:(List Int)) (a2:Int) (b3:Int) (lv4:Int):Option Unit :=
  Qc0 (fun k10 ((a5,b6,lv7,wv8,wv9):Int×Int×Int×Bool×Bool)=>(if ((IntKind.wrap .i64 (b6-a5))≤12) then ((Qbv dv1 a5 b6).bind fun u13=>some ()) else (if (lv7==0) then none else (if wv8 then none else none)))) fuel (a2,b3,lv4,true,true)
def Qgg (P:Program) (c:Nat) (f:(List Int)→Option Unit):Prop:=∀ x1 r,f x1=some r→∀ M nb,ACalls P c [(l_ x1)] M nb (.tup []) M nb
def Qmc:CFn:=⟨1,11,[],sg [oM 3 0,oE 4 3,oM 2 4] (rg [oM 5 0,oM 6 2,oM 7 2,oo 8 (.conv .u64) [.t 7],oK 9 134 [.t 8],oK 10 133 [.t 5,cI 0,.t 6,.t 9]])⟩
def Qbn (Qcl:(List Int)→Int→Int→Int→Option Unit) (f_bits_Len:Int→Option Int) (x1:(List Int)):Option Unit :=
  ((f_bits_Len (IntKind.wrap .u64 (x1.length:Int))).bind fun x3=>((Qcl x1 0 (x1.length:Int) x3).bind fun u5=>some ()))
def Qg4 (P:Program) (c:Nat) (f:(List Int)→Option ((List Int))):Prop:=∀ s1 r,f s1=some r→∀ M nb,ACalls P c [(l_ s1)] M nb (l_ r) M nb
def Qke:CFn:=⟨1,61,[.t 2],sg [ot 2 .mov [.c (.nils 1)]] (.seq (sg [oM 6 0,oE 7 6,oB 8 .lss (.t 7) (cI 2)] (.cond (.t 8) (sg [oT 9 0,oT 2 9] .ret) .skip)) (.seq (sg [oC 3 1] (.block 0 (.loop [] (.seq (sg [oM 10 3,oM 11 0,oE 12 11,oB 13 .lss (.t 10) (.t 12)] (.cond (.t 13) .skip (.exit 0))) (.seq (.block 1 (.seq (.region [oM 16 0,oM 17 3,oI 18 1 16 17,oL 19 18,oM 20 0,oM 21 3,oB 22 .sub (.t 21) (cI 1),oI 23 1 20 22,oL 24 23,oB 25 .eql (.t 19) (.t 24)] 0 []) (.cond (.t 25) (sg [oM 26 0,oM 27 3,oo 28 (.slice 1 true false) [.t 26,.t 27],oT 4 28] (.seq (sg [oC 5 1] (.block 2 (.loop [] (.seq (sg [oM 29 5,oM 30 4,oE 31 30,oB 32 .lss (.t 29) (.t 31)] (.cond (.t 32) .skip (.exit 2))) (.seq (.block 3 (.seq (.region [oM 35 4,oM 36 5,oI 37 1 35 36,oL 38 37,oM 39 4,oM 40 5,oB 41 .sub (.t 40) (cI 1),oI 42 1 39 41,oL 43 42,oB 44 .neq (.t 38) (.t 43)] 0 []) (.cond (.t 44) (sg [oM 45 0,oM 46 3,oM 47 4,oM 48 5,oI 49 1 47 48,oL 50 49,oI 51 1 45 46,oU 1 51 50] (rg [oM 52 3,oB 53 .add (.t 52) (cI 1),oM 3 53])) .skip))) (rg [oM 33 5,oB 34 .add (.t 33) (cI 1),oM 5 34])))))) (.seq .dead (sg [oM 57 0,oM 58 3,oo 59 (.slice 1 false true) [.t 57,.t 58],oT 2 59] .ret)))) .skip))) (rg [oM 14 3,oB 15 .add (.t 14) (cI 1),oM 3 15])))))) (sg [oT 60 0,oT 2 60] .ret)))⟩
def Qcs (fuel:Nat) (s1:(List Int)):Option ((List Int)) :=
  (if ((s1.length:Int)<2) then some s1 else ((Qc0 (fun k4 (k3:Int)=>(if (k3<(s1.length:Int)) then ((((getO s1 k3).bind fun x6=>((getO s1 (IntKind.wrap .i64 (k3-1))).bind fun x8=>(if (x6==x8) then ((slcO s1 k3 (s1.length:Int)).bind fun x11=>((Qc0 (fun k15 ((k13,k14):Int×Int)=>(if (k14<(x11.length:Int)) then ((getO x11 k14).bind fun x17=>((getO x11 (IntKind.wrap .i64 (k14-1))).bind fun x19=>(if (x17 != x19) then none else k15 (k13,(IntKind.wrap .i64 (k14+1)))))) else some ())) fuel (k3,1)).bind fun (_:Unit)=>none)) else some ())))).bind fun (_:Unit)=>k4 (IntKind.wrap .i64 (k3+1))) else some ())) fuel 1).bind fun (_:Unit)=>some s1))
def Qkq (P:Program) (c:Nat) (f:Option Qk):Prop:=∀ r,f=some r→∀ M nb,ACalls P c [] M nb (.agg [(Qe4 r.Events),(l_ r.Plant.zG),(i_ r.Plant.zM),(l_ r.Plant.zH),(Qc r.Plant.zJ),.nils 1,(i_ r.First.zM),.nils 1,.nils 3,(i_ r.Class),(l_ r.zC)]) M nb
def Qo6:CFn:=⟨0,19,[.cell 0 true 11],sg [oo 0 (.alloc [.nils 5,.nils 1,.d (.int .i64 0),.nils 1,.nils 3,.nils 1,.d (.int .i64 0),.nils 1,.nils 3,.d (.int .i64 0),.nils 1]) []] (sg [oo 1 (.build [.d (.str ⟨#[]⟩),.d (.bool false),.d (.bool false),.d (.bool false),.d (.int .i64 0)] [(0,1),(1,1),(2,1)]) [.c (.d (.str ⟨#[97]⟩)),.c (.d (.bool true)),.c (.d (.bool true))],oo 2 (.build [.d (.str ⟨#[]⟩),.d (.bool false),.d (.bool false),.d (.bool false),.d (.int .i64 0)] [(0,1),(1,1),(2,1)]) [.c (.d (.str ⟨#[98]⟩)),.c (.d (.bool true)),.c (.d (.bool true))],oo 3 (.build [.d (.str ⟨#[]⟩),.d (.bool false),.d (.bool false),.d (.bool false),.d (.int .i64 0)] [(0,1),(1,1),(2,1)]) [.c (.d (.str ⟨#[99]⟩)),.c (.d (.bool true)),.c (.d (.bool true))],oo 4 (.build [.d (.str ⟨#[]⟩),.d (.bool false),.d (.bool false),.d (.bool false),.d (.int .i64 0)] [(0,1),(4,1)]) [.c (.d (.str ⟨#[102]⟩)),cI 1],oo 5 (.bslice 5 4 [.d (.str ⟨#[]⟩),.d (.bool false),.d (.bool false),.d (.bool false),.d (.int .i64 0)] [0,1,2,3]) [.t 1,.t 2,.t 3,.t 4],oo 6 (.bslice 1 4 [.d (.int .i64 0)] [0,1,2,3]) [cI 0,cI 1,cI 2,cI 3],oo 7 (.bslice 1 2 [.d (.int .i64 0)] [0,1]) [cI 0,cI 3],oo 8 (.build [.d (.int .i64 0),.d (.int .i64 0),.d (.int .i64 0)] [(0,1),(1,1),(2,1)]) [cI 0,cI 0,cI 1],oo 9 (.build [.d (.int .i64 0),.d (.int .i64 0),.d (.int .i64 0)] [(0,1),(1,1),(2,1)]) [cI 1,cI 1,cI 0],oo 10 (.build [.d (.int .i64 0),.d (.int .i64 0),.d (.int .i64 0)] [(0,1),(1,1),(2,1)]) [cI 1,cI 3,cI 2],oo 11 (.build [.d (.int .i64 0),.d (.int .i64 0),.d (.int .i64 0)] [(0,1),(1,1),(2,1)]) [cI 2,cI 2,cI 3],oo 12 (.build [.d (.int .i64 0),.d (.int .i64 0),.d (.int .i64 0)] [(0,1),(1,1),(2,1)]) [cI 3,cI 0,cI 3],oo 13 (.build [.d (.int .i64 0),.d (.int .i64 0),.d (.int .i64 0)] [(0,1),(1,1),(2,1)]) [cI 3,cI 1,cI 4],oo 14 (.bslice 3 6 [.d (.int .i64 0),.d (.int .i64 0),.d (.int .i64 0)] [0,1,2,3,4,5]) [.t 8,.t 9,.t 10,.t 11,.t 12,.t 13],ot 15 (.build [.nils 1,.d (.int .i64 0),.nils 1,.nils 3] [(0,1),(1,1),(2,1),(3,1)]) [.t 6,cI 5,.t 7,.t 14],oo 16 (.build [.nils 1,.d (.int .i64 0),.nils 1,.nils 3] [(1,1)]) [cI 1],oo 17 (.bslice 1 1 [.d (.int .i64 0)] [0]) [cI 4],ot 18 (.build [.nils 5,.nils 1,.d (.int .i64 0),.nils 1,.nils 3,.nils 1,.d (.int .i64 0),.nils 1,.nils 3,.d (.int .i64 0),.nils 1] [(0,1),(1,4),(5,4),(9,1),(10,1)]) [.t 5,.t 15,.t 16,cI 1,.t 17],oS 11 0 18] .ret)⟩
def Qec:Option Qk :=
  some (Qk.mk ([(Qq.mk (⟨#[97]⟩) true true false 0),(Qq.mk (⟨#[98]⟩) true true false 0),(Qq.mk (⟨#[99]⟩) true true false 0),(Qq.mk (⟨#[102]⟩) false false false 1)]) (Qd.mk [0,1,2,3] 5 [0,3] [(Qo.mk 0 0 1),(Qo.mk 1 1 0),(Qo.mk 1 3 2),(Qo.mk 2 2 3),(Qo.mk 3 0 3),(Qo.mk 3 1 4)]) (Qd.mk [] 1 [] []) 1 [4])
def Qno (P:Program) (c:Nat) (f:ByteArray→Option Bool):Prop:=∀ s1 r,f s1=some r→∀ M nb,ACalls P c [.d (.str s1)] M nb (b_ r) M nb
def Qs6:CFn:=⟨1,55,[.t 2],sg [oo 2 .mov [.c (.d (.bool false))]] (.seq (sg [oM 6 0,oo 7 .lens [.t 6],oC 8 0] (.block 0 (.loop [] (sg [oB 9 .lss (.t 8) (.t 7)] (.seq (.cond (.t 9) .skip (.exit 0)) (.seq (.block 1 (sg [oM 10 8,oM 3 10] (sg [oM 11 0,oM 12 3,oo 13 .idxs [.t 11,.t 12],oM 4 13] (sg [oM 14 4,oB 15 .geq (.t 14) (.c (.d (.int .u8 97))),oM 16 15,g1 16 (oM 17 4),g1 16 (oB 18 .leq (.t 17) (.c (.d (.int .u8 122)))),oP 19 16 18,oM 20 19,g0 20 (oM 21 4),g0 20 (oB 22 .geq (.t 21) (.c (.d (.int .u8 65)))),g0 20 (oM 23 22),g1 23 (oM 24 4),g1 23 (oB 25 .leq (.t 24) (.c (.d (.int .u8 90)))),g0 20 (oP 26 23 25),oQ 27 20 26,oM 28 27,g0 28 (oM 29 4),g0 28 (oB 30 .eql (.t 29) (.c (.d (.int .u8 95)))),oQ 31 28 30,oM 5 31] (sg [oM 32 5,oo 33 (.un .not) [.t 32],oM 34 33,g1 34 (oM 35 3),g1 34 (oB 36 .eql (.t 35) (cI 0)),g1 34 (oM 37 36),g0 37 (oM 38 4),g0 37 (oB 39 .lss (.t 38) (.c (.d (.int .u8 48)))),g1 34 (oQ 40 37 39),g1 34 (oM 41 40),g0 41 (oM 42 4),g0 41 (oB 43 .gtr (.t 42) (.c (.d (.int .u8 57)))),g1 34 (oQ 44 41 43),oP 45 34 44] (.cond (.t 45) (sg [oo 2 .mov [.c (.d (.bool false))]] .ret) .skip)))))) (rg [oB 46 .add (.t 8) (cI 1),oM 8 46]))))))) (sg [oM 47 0,oo 48 .lens [.t 47],oB 49 .gtr (.t 48) (cI 0),oM 50 49,g1 50 (oM 51 0),g1 50 (oo 52 .lens [.t 51]),g1 50 (oB 53 .leq (.t 52) (cI 32)),oP 54 50 53,oM 2 54] .ret))⟩
def Qex (fuel:Nat) (s1:ByteArray):Option Bool :=
  Qc0 (fun k3 (x2:Int)=>(if (x2<(s1.size:Int)) then ((chrO s1 x2).bind fun x5=>(((if (x5≥97) then (if (x5≤122) then some true else (if (x5≥65) then (if (x5≤90) then some true else some (x5==95)) else some (x5==95))) else (if (x5≥65) then (if (x5≤90) then some true else some (x5==95)) else some (x5==95)))).bind fun (lv13:Bool)=>(((if lv13 then some false else (if (x2==0) then some true else (if (x5<48) then some true else some (decide (x5>57)))))).bind fun (x17:Bool)=>(if x17 then some false else k3 (IntKind.wrap .i64 (x2+1)))))) else (if ((s1.size:Int)>0) then some (decide ((s1.size:Int)≤32)) else some false))) fuel 0
def Qlc (P:Program) (c:Nat) (f:(List Qq)→Option Int):Prop:=∀ l1 r,f l1=some r→∀ M nb,ACalls P c [(Qj l1)] M nb (i_ r) M nb
def Qvc:CFn:=⟨1,51,[.t 2],sg [oC 2 0] (.seq (sg [oM 6 0,oE 7 6,oB 8 .gtr (.t 7) (cI 32)] (.cond (.t 8) (sg [oC 2 3] .ret) .skip)) (sg [oo 9 .mkmap [],oM 3 9] (.seq (sg [oM 10 0,oE 11 10,oC 12 0] (.block 0 (.loop [5] (sg [oB 13 .lss (.t 12) (.t 11)] (.seq (.cond (.t 13) .skip (.exit 0)) (.seq (.block 1 (sg [oI 14 5 10 12,oJ 15 5 14,oo 5 (.alloc [.d (.str ⟨#[]⟩),.d (.bool false),.d (.bool false),.d (.bool false),.d (.int .i64 0)]) [],oU 5 5 15] (.seq (.block 2 (sg [oF 17 0 5,oL 18 17,oK 19 113 [.t 18],oo 20 (.un .not) [.t 19],oM 16 20] (.cond (.t 16) (sg [oC 2 7] .ret) (sg [oM 22 3,oF 23 0 5,oL 24 23,oo 25 (.lookup .str false (.d (.bool false))) [.t 22,.t 24],oM 21 25] (.cond (.t 21) (sg [oC 2 8] .ret) (sg [oF 27 4 5,oL 28 27,oB 29 .lss (.t 28) (cI 0),oM 30 29,g0 30 (oF 31 4 5),g0 30 (oL 32 31),g0 30 (oB 33 .gtr (.t 32) (cI 4)),oQ 34 30 33,oM 26 34] (.cond (.t 26) (sg [oC 2 2] .ret) (sg [oF 36 4 5,oL 37 36,oB 38 .neq (.t 37) (cI 0),oM 39 38,g1 39 (oF 40 1 5),g1 39 (oL 41 40),g1 39 (oM 42 41),g0 42 (oF 43 2 5),g0 42 (oL 44 43),g1 39 (oQ 45 42 44),oP 46 39 45,oM 35 46] (.cond (.t 35) (sg [oC 2 13] .ret) .skip))))))))) (rg [oM 47 3,oF 48 0 5,oL 49 48,⟨none,.mapset .str,[.t 47,.t 49,.c (.d (.bool true))],false,none⟩])))) (rg [oB 50 .add (.t 12) (cI 1),oM 12 50]))))))) (sg [oC 2 0] .ret))))⟩
def Qcw (Qex:ByteArray→Option Bool) (fuel:Nat) (l1:(List Qq)):Option Int :=
  (if ((l1.length:Int)>32) then some 3 else Qc0 (fun k5 ((x3,c4):Int×(List (ByteArray×Bool)))=>(if (x3<(l1.length:Int)) then ((getO l1 x3).bind fun x7=>((Qex x7.Name).bind fun x10=>(if x10 then (if (getM c4 x7.Name false) then some 8 else (((if (x7.Fault<0) then some true else some (decide (x7.Fault>4)))).bind fun (x14:Bool)=>(if x14 then some 2 else (((if (x7.Fault != 0) then (if x7.Controllable then some true else some x7.Observable) else some false)).bind fun (x18:Bool)=>(if x18 then some 13 else k5 ((IntKind.wrap .i64 (x3+1)),(setM c4 x7.Name true))))))) else some 7))) else some 0)) fuel (0,[]))
def Qkr (P:Program) (c:Nat) (f:(List Int)→Int→Option Int):Prop:=∀ l1 n2 r,f l1 n2=some r→∀ M nb,ACalls P c [(l_ l1),(i_ n2)] M nb (i_ r) M nb
def Qo7:CFn:=⟨2,35,[.t 4],sg [oC 4 0] (.seq (sg [oM 7 0,oE 8 7,oC 9 0] (.block 0 (.loop [] (sg [oB 10 .lss (.t 9) (.t 8)] (.seq (.cond (.t 10) .skip (.exit 0)) (.seq (.block 1 (sg [oM 11 9,oI 12 1 7 9,oL 13 12,oM 5 11,oM 6 13] (.block 2 (sg [oM 15 6,oB 16 .lss (.t 15) (cI 0),oM 17 16,g0 17 (oM 18 6),g0 17 (oM 19 1),g0 17 (oB 20 .geq (.t 18) (.t 19)),oQ 21 17 20,oM 14 21] (.cond (.t 14) (sg [oC 4 2] .ret) (sg [oM 23 5,oB 24 .gtr (.t 23) (cI 0),oM 25 24,g1 25 (oM 26 6),g1 25 (oM 27 0),g1 25 (oM 28 5),g1 25 (oB 29 .sub (.t 28) (cI 1)),g1 25 (oI 30 1 27 29),g1 25 (oL 31 30),g1 25 (oB 32 .leq (.t 26) (.t 31)),oP 33 25 32,oM 22 33] (.cond (.t 22) (sg [oC 4 5] .ret) .skip))))))) (rg [oB 34 .add (.t 9) (cI 1),oM 9 34]))))))) (sg [oC 4 0] .ret))⟩
def Qc7 (fuel:Nat) (l1:(List Int)) (n2:Int):Option Int :=
  Qc0 (fun k4 (x3:Int)=>(if (x3<(l1.length:Int)) then ((getO l1 x3).bind fun x6=>(((if (x6<0) then some true else some (decide (x6≥n2)))).bind fun (x9:Bool)=>(if x9 then some 2 else (((if (x3>0) then ((getO l1 (IntKind.wrap .i64 (x3-1))).bind fun x12=>some (decide (x6≤x12))) else some false)).bind fun (x14:Bool)=>(if x14 then some 5 else k4 (IntKind.wrap .i64 (x3+1))))))) else some 0)) fuel 0
def Qmd (P:Program) (c:Nat) (f:(List Int)→Int→Option Int):Prop:=∀ s1 v2 r,f s1 v2=some r→∀ M nb,ACalls P c [(l_ s1),(i_ v2)] M nb (i_ r) M nb
def Qrz:CFn:=⟨2,19,[.t 4],sg [oC 4 0] (.seq (sg [oM 6 0,oE 7 6,oC 8 0] (.block 0 (.loop [] (sg [oB 9 .lss (.t 8) (.t 7)] (.seq (.cond (.t 9) .skip (.exit 0)) (.seq (.block 1 (sg [oM 10 8,oM 5 10] (sg [oM 11 1,oM 12 0,oM 13 5,oI 14 1 12 13,oL 15 14,oB 16 .eql (.t 11) (.t 15)] (.cond (.t 16) (sg [oM 17 5,oM 4 17] .ret) .skip)))) (rg [oB 18 .add (.t 8) (cI 1),oM 8 18]))))))) (sg [oC 4 (-1)] .ret))⟩
def Qei (fuel:Nat) (s1:(List Int)) (v2:Int):Option Int :=
  Qc0 (fun k4 (x3:Int)=>(if (x3<(s1.length:Int)) then ((getO s1 x3).bind fun x6=>(if (v2==x6) then some x3 else k4 (IntKind.wrap .i64 (x3+1)))) else some (-1))) fuel 0
def Qbx (P:Program) (c:Nat) (f:(List Int)→Int→Option Bool):Prop:=∀ s1 v2 r,f s1 v2=some r→∀ M nb,ACalls P c [(l_ s1),(i_ v2)] M nb (b_ r) M nb
def Qn9:CFn:=⟨2,9,[.t 4],sg [oo 4 .mov [.c (.d (.bool false))]] (sg [oM 5 0,oM 6 1,oK 7 91 [.t 5,.t 6],oB 8 .geq (.t 7) (cI 0),oM 4 8] .ret)⟩
def Qf (Qei:(List Int)→Int→Option Int) (s1:(List Int)) (v2:Int):Option Bool :=
  ((Qei s1 v2).bind fun x4=>some (decide (x4≥0)))
def Qi9 (P:Program) (c:Nat) (f:Qd→Option Int):Prop:=∀ a1 r,f a1=some r→∀ M nb,ACalls P c [(Qbm a1)] M nb (i_ r) M nb
def Qm1:CFn:=⟨1,72,[.t 2],sg [oo 1 (.box 4) [.t 0],oC 2 0] (.seq (sg [oF 6 3 1,oL 7 6,oE 8 7,oC 9 0] (.block 0 (.loop [4,5] (sg [oB 10 .lss (.t 9) (.t 8)] (.seq (.cond (.t 10) .skip (.exit 0)) (.seq (.block 1 (sg [oM 11 9,oI 12 3 7 9,oJ 13 3 12,oo 4 (.alloc [.d (.int .i64 0),.d (.int .i64 0),.d (.int .i64 0)]) [],oM 3 11,oU 3 4 13] (.seq (.block 2 (sg [oF 15 0 4,oL 16 15,oB 17 .lss (.t 16) (cI 0),oM 18 17,g0 18 (oF 19 0 4),g0 18 (oL 20 19),g0 18 (oF 21 1 1),g0 18 (oL 22 21),g0 18 (oB 23 .geq (.t 20) (.t 22)),oQ 24 18 23,oM 25 24,g0 25 (oF 26 2 4),g0 25 (oL 27 26),g0 25 (oB 28 .lss (.t 27) (cI 0)),oQ 29 25 28,oM 30 29,g0 30 (oF 31 2 4),g0 30 (oL 32 31),g0 30 (oF 33 1 1),g0 30 (oL 34 33),g0 30 (oB 35 .geq (.t 32) (.t 34)),oQ 36 30 35,oM 14 36] (.cond (.t 14) (sg [oC 2 2] .ret) (sg [oF 38 0 1,oL 39 38,oF 40 1 4,oL 41 40,oK 42 52 [.t 39,.t 41],oo 43 (.un .not) [.t 42],oM 37 43] (.cond (.t 37) (sg [oC 2 9] .ret) .skip))))) (.seq (sg [oM 44 3,oB 45 .eql (.t 44) (cI 0)] (.cond (.t 45) (.exit 1) .skip)) (sg [oF 46 3 1,oL 47 46,oM 48 3,oB 49 .sub (.t 48) (cI 1),oI 50 3 47 49,oJ 51 3 50,oo 5 (.alloc [.d (.int .i64 0),.d (.int .i64 0),.d (.int .i64 0)]) [],oU 3 5 51] (sg [oF 52 0 4,oL 53 52,oF 54 0 5,oL 55 54,oB 56 .lss (.t 53) (.t 55),oM 57 56,g0 57 (oF 58 0 4),g0 57 (oL 59 58),g0 57 (oF 60 0 5),g0 57 (oL 61 60),g0 57 (oB 62 .eql (.t 59) (.t 61)),g0 57 (oM 63 62),g1 63 (oF 64 1 4),g1 63 (oL 65 64),g1 63 (oF 66 1 5),g1 63 (oL 67 66),g1 63 (oB 68 .leq (.t 65) (.t 67)),g0 57 (oP 69 63 68),oQ 70 57 69] (.cond (.t 70) (sg [oC 2 5] .ret) .skip))))))) (rg [oB 71 .add (.t 9) (cI 1),oM 9 71]))))))) (sg [oC 2 0] .ret))⟩
def Qc5 (Qf:(List Int)→Int→Option Bool) (fuel:Nat) (a1:Qd):Option Int :=
  Qc0 (fun k3 (x2:Int)=>(if (x2<(a1.zJ.length:Int)) then letJ (fun ((c22,c23,c24):Int×Int×Int)=>k3 (IntKind.wrap .i64 (x2+1))) fun J25=>((getO a1.zJ x2).bind fun x5=>(((if (x5.From<0) then some true else (if (x5.From≥a1.zM) then some true else (if (x5.To<0) then some true else some (decide (x5.To≥a1.zM)))))).bind fun (x10:Bool)=>(if x10 then some 2 else ((Qf a1.zG x5.Event).bind fun x13=>(if x13 then (if (x2==0) then J25 (x5.From,x5.Event,x5.To) else ((getO a1.zJ (IntKind.wrap .i64 (x2-1))).bind fun x16=>(((if (x5.From<x16.From) then some true else (if (x5.From==x16.From) then some (decide (x5.Event≤x16.Event)) else some false))).bind fun (x20:Bool)=>(if x20 then some 5 else J25 (x5.From,x5.Event,x5.To))))) else some 9))))) else some 0)) fuel 0
def Qh6 (P:Program) (c:Nat) (f:Qd→Option Int):Prop:=∀ a1 r,f a1=some r→∀ M nb,ACalls P c [(Qbm a1)] M nb (i_ r) M nb
def Qs7:CFn:=⟨1,29,[.t 2],sg [oo 1 (.box 4) [.t 0],oC 2 0] (.seq (sg [oF 5 0 1,oL 6 5,oK 7 114 [.t 6,cI 32],oM 3 7] (sg [oM 8 3,oB 9 .neq (.t 8) (cI 0)] (.cond (.t 9) (sg [oM 10 3,oM 2 10] .ret) .skip))) (.seq (.block 0 (sg [oF 12 1 1,oL 13 12,oB 14 .lss (.t 13) (cI 0),oM 11 14] (.cond (.t 11) (sg [oC 2 2] .ret) (sg [oF 16 1 1,oL 17 16,oB 18 .gtr (.t 17) (cI 4096),oM 15 18] (.cond (.t 15) (sg [oC 2 3] .ret) .skip))))) (.seq (sg [oF 19 2 1,oL 20 19,oF 21 1 1,oL 22 21,oK 23 114 [.t 20,.t 22],oM 4 23] (sg [oM 24 4,oB 25 .neq (.t 24) (cI 0)] (.cond (.t 25) (sg [oM 26 4,oM 2 26] .ret) .skip))) (sg [oJ 27 4 1,oK 28 115 [.t 27],oM 2 28] .ret))))⟩
def Qbk (Qc7:(List Int)→Int→Option Int) (Qc5:Qd→Option Int) (a1:Qd):Option Int :=
  ((Qc7 a1.zG 32).bind fun x3=>(if (x3 != 0) then some x3 else (if (a1.zM<0) then some 2 else (if (a1.zM>4096) then some 3 else ((Qc7 a1.zH a1.zM).bind fun x8=>(if (x8 != 0) then some x8 else ((Qc5 a1).bind fun x11=>some x11)))))))
def Qh7 (P:Program) (c:Nat) (f:(List Qq)→Qd→Option Int):Prop:=∀ ev1 a2 r,f ev1 a2=some r→∀ M nb,ACalls P c [(Qj ev1),(Qbm a2)] M nb (i_ r) M nb
def Qs8:CFn:=⟨2,34,[.t 4],sg [oo 3 (.box 4) [.t 1],oC 4 0] (.seq (sg [oM 8 0,oK 9 72 [.t 8],oM 5 9] (sg [oM 10 5,oB 11 .neq (.t 10) (cI 0)] (.cond (.t 11) (sg [oM 12 5,oM 4 12] .ret) .skip))) (.seq (sg [oJ 13 4 3,oK 14 73 [.t 13],oM 6 14] (sg [oM 15 6,oB 16 .neq (.t 15) (cI 0)] (.cond (.t 16) (sg [oM 17 6,oM 4 17] .ret) .skip))) (.seq (sg [oF 18 0 3,oL 19 18,oE 20 19,oM 7 20] (sg [oM 21 7,oB 22 .gtr (.t 21) (cI 0),oM 23 22,g1 23 (oF 24 0 3),g1 23 (oL 25 24),g1 23 (oM 26 7),g1 23 (oB 27 .sub (.t 26) (cI 1)),g1 23 (oI 28 1 25 27),g1 23 (oL 29 28),g1 23 (oM 30 0),g1 23 (oE 31 30),g1 23 (oB 32 .geq (.t 29) (.t 31)),oP 33 23 32] (.cond (.t 33) (sg [oC 4 2] .ret) .skip))) (sg [oC 4 0] .ret))))⟩
def Qbl (Qcw:(List Qq)→Option Int) (Qbk:Qd→Option Int) (ev1:(List Qq)) (a2:Qd):Option Int :=
  ((Qcw ev1).bind fun x4=>(if (x4 != 0) then some x4 else ((Qbk a2).bind fun x7=>(if (x7 != 0) then some x7 else (((if ((a2.zG.length:Int)>0) then ((getO a2.zG (IntKind.wrap .i64 ((a2.zG.length:Int)-1))).bind fun x10=>some (decide (x10≥(ev1.length:Int)))) else some false)).bind fun (x12:Bool)=>(if x12 then some 2 else some 0))))))
def Qlf (P:Program) (c:Nat) (f:(List Int)→Int→Option Int):Prop:=∀ xv1 n2 r,f xv1 n2=some r→∀ M nb,ACalls P c [(l_ xv1),(i_ n2)] M nb (i_ r) M nb
def Qqn:CFn:=⟨2,33,[.t 4],sg [oC 4 0] (.seq (sg [oM 7 0,oE 8 7,oC 9 0] (.block 0 (.loop [] (sg [oB 10 .lss (.t 9) (.t 8)] (.seq (.cond (.t 10) .skip (.exit 0)) (.seq (.block 1 (sg [oM 11 9,oI 12 1 7 9,oL 13 12,oM 5 11,oM 6 13] (.seq (sg [oM 14 6,oB 15 .lss (.t 14) (cI 0),oM 16 15,g0 16 (oM 17 6),g0 16 (oM 18 1),g0 16 (oB 19 .geq (.t 17) (.t 18)),oQ 20 16 19] (.cond (.t 20) (sg [oC 4 2] .ret) .skip)) (sg [oM 21 5,oB 22 .gtr (.t 21) (cI 0),oM 23 22,g1 23 (oM 24 6),g1 23 (oM 25 0),g1 23 (oM 26 5),g1 23 (oB 27 .sub (.t 26) (cI 1)),g1 23 (oI 28 1 25 27),g1 23 (oL 29 28),g1 23 (oB 30 .leq (.t 24) (.t 29)),oP 31 23 30] (.cond (.t 31) (sg [oC 4 5] .ret) .skip))))) (rg [oB 32 .add (.t 9) (cI 1),oM 9 32]))))))) (sg [oC 4 0] .ret))⟩
def Qdz (fuel:Nat) (xv1:(List Int)) (n2:Int):Option Int :=
  Qc0 (fun k4 (x3:Int)=>(if (x3<(xv1.length:Int)) then ((getO xv1 x3).bind fun x6=>(((if (x6<0) then some true else some (decide (x6≥n2)))).bind fun (x9:Bool)=>(if x9 then some 2 else (((if (x3>0) then ((getO xv1 (IntKind.wrap .i64 (x3-1))).bind fun x12=>some (decide (x6≤x12))) else some false)).bind fun (x14:Bool)=>(if x14 then some 5 else k4 (IntKind.wrap .i64 (x3+1))))))) else some 0)) fuel 0
def Qld (P:Program) (c:Nat) (f:Qk→Option Int):Prop:=∀ t1 r,f t1=some r→∀ M nb,ACalls P c [(Q1 t1)] M nb (i_ r) M nb
def Qvd:CFn:=⟨1,59,[.t 2],sg [oo 1 (.box 11) [.t 0],oC 2 0] (.seq (sg [oF 7 0 1,oL 8 7,oF 9 1 1,oJ 10 4 9,oK 11 32 [.t 8,.t 10],oM 3 11] (sg [oM 12 3,oB 13 .neq (.t 12) (cI 0)] (.cond (.t 13) (sg [oM 14 3,oM 2 14] .ret) .skip))) (.seq (sg [oF 15 5 1,oJ 16 4 15,oK 17 73 [.t 16],oM 4 17] (sg [oM 18 4,oB 19 .neq (.t 18) (cI 0)] (.cond (.t 19) (sg [oM 20 4,oM 2 20] .ret) .skip))) (.seq (sg [oF 21 5 1,oF 22 0 21,oL 23 22,oE 24 23,oC 25 0] (.block 0 (.loop [] (sg [oB 26 .lss (.t 25) (.t 24)] (.seq (.cond (.t 26) .skip (.exit 0)) (.seq (.block 1 (sg [oI 27 1 23 25,oL 28 27,oM 6 28] (sg [oF 29 1 1,oF 30 0 29,oL 31 30,oM 32 6,oK 33 52 [.t 31,.t 32],oo 34 (.un .not) [.t 33],oM 35 34,g0 35 (oF 36 0 1),g0 35 (oL 37 36),g0 35 (oM 38 6),g0 35 (oI 39 5 37 38),g0 35 (oF 40 2 39),g0 35 (oL 41 40),g0 35 (oo 42 (.un .not) [.t 41]),oQ 43 35 42] (.cond (.t 43) (sg [oC 2 13] .ret) .skip)))) (rg [oB 44 .add (.t 25) (cI 1),oM 25 44]))))))) (.seq (sg [oF 45 9 1,oL 46 45,oB 47 .lss (.t 46) (cI 1),oM 48 47,g0 48 (oF 49 9 1),g0 48 (oL 50 49),g0 48 (oB 51 .gtr (.t 50) (cI 4)),oQ 52 48 51] (.cond (.t 52) (sg [oC 2 2] .ret) .skip)) (sg [oF 53 10 1,oL 54 53,oF 55 1 1,oF 56 1 55,oL 57 56,oK 58 75 [.t 54,.t 57],oM 2 58] .ret)))))⟩
def Qcx (Qbl:(List Qq)→Qd→Option Int) (Qf:(List Int)→Int→Option Bool) (Qbk:Qd→Option Int) (Qdz:(List Int)→Int→Option Int) (fuel:Nat) (t1:Qk):Option Int :=
  ((Qbl t1.Events t1.Plant).bind fun x3=>(if (x3 != 0) then some x3 else ((Qbk t1.First).bind fun x6=>(if (x6 != 0) then some x6 else Qc0 (fun k9 (x8:Int)=>(if (x8<(t1.First.zG.length:Int)) then ((getO t1.First.zG x8).bind fun x11=>((((Qf t1.Plant.zG x11).bind fun x14=>(if x14 then ((getO t1.Events x11).bind fun x16=>some (!x16.Observable)) else some true))).bind fun (x18:Bool)=>(if x18 then some 13 else k9 (IntKind.wrap .i64 (x8+1))))) else (((if (t1.Class<1) then some true else some (decide (t1.Class>4)))).bind fun (x21:Bool)=>(if x21 then some 2 else ((Qdz t1.zC t1.Plant.zM).bind fun x24=>some x24))))) fuel 0))))
def Qhc (P:Program) (c:Nat) (f:(List Int)→Option ((List Int))):Prop:=∀ s1 r,f s1=some r→∀ M nb,ACalls P c [(l_ s1)] M nb (o_ r) M nb
def Qr0:CFn:=⟨1,8,[.t 2],sg [ot 2 .mov [.c (.nils 1)]] (.seq (sg [oM 3 0,oo 4 (.isnil false) [.t 3]] (.cond (.t 4) (sg [ot 2 .mov [.c (.nils 1)]] .ret) .skip)) (sg [oo 5 (.bslice 1 0 [.d (.int .i64 0)] []) [],oM 6 0,oA 7 1 8 5 6,oT 2 7] .ret))⟩
def Qbj (s1:(List Int)):Option ((List Int)) :=
  (nilO s1 fun b2=>(if b2 then some [] else ((appO [] s1).bind fun x4=>some x4)))
def Qme (P:Program) (c:Nat) (f:Int→Option Bool):Prop:=∀ x1 r,f x1=some r→∀ M nb,ACalls P c [(i_ x1)] M nb (b_ r) M nb
def Qr1:CFn:=⟨1,6,[.t 2],sg [oo 2 .mov [.c (.d (.bool false))]] (sg [oM 3 0,oM 4 0,oB 5 .neq (.t 3) (.t 4),oM 2 5] .ret)⟩
def Qej (x1:Int):Option Bool :=
  some (x1 != x1)
def Qhi (P:Program) (c:Nat) (f:(List Int)→Int→Option (Int×Bool)):Prop:=∀ x1 tv2 r,f x1 tv2=some r→∀ M nb,ACalls P c [(l_ x1),(i_ tv2)] M nb (.tup [(i_ r.1),(b_ r.2)]) M nb
def Qkx:CFn:=⟨2,54,[.t 4,.t 5],sg [oC 4 0,oo 5 .mov [.c (.d (.bool false))]] (sg [oM 10 0,oE 11 10,oM 6 11] (sg [oM 12 6,oC 7 0,oM 8 12] (.seq (.block 0 (.loop [] (.seq (sg [oM 13 7,oM 14 8,oB 15 .lss (.t 13) (.t 14)] (.cond (.t 15) .skip (.exit 0))) (.block 1 (sg [oM 16 7,oM 17 8,oB 18 .add (.t 16) (.t 17),oo 19 (.conv .u64) [.t 18],oB 20 .shr (.t 19) (.c (.d (.int .u64 1))),oo 21 (.conv .i64) [.t 20],oM 9 21] (sg [oM 22 0,oM 23 9,oI 24 1 22 23,oL 25 24,oM 26 1,oK 27 144 [.t 25,.t 26]] (.cond (.t 27) (rg [oM 28 9,oB 29 .add (.t 28) (cI 1),oM 7 29]) (rg [oM 30 9,oM 8 30])))))))) (sg [oM 31 7,oM 32 7,oM 33 6,oB 34 .lss (.t 32) (.t 33),oM 35 34,g1 35 (oM 36 0),g1 35 (oM 37 7),g1 35 (oI 38 1 36 37),g1 35 (oL 39 38),g1 35 (oM 40 1),g1 35 (oB 41 .eql (.t 39) (.t 40)),g1 35 (oM 42 41),g0 42 (oM 43 0),g0 42 (oM 44 7),g0 42 (oI 45 1 43 44),g0 42 (oL 46 45),g0 42 (oK 47 145 [.t 46]),g0 42 (oM 48 47),g1 48 (oM 49 1),g1 48 (oK 50 145 [.t 49]),g0 42 (oP 51 48 50),g1 35 (oQ 52 42 51),oP 53 35 52,oM 4 31,oM 5 53] .ret))))⟩
def Qc2 (Qd5:Int→Int→Option Bool) (Qej:Int→Option Bool) (fuel:Nat) (x1:(List Int)) (tv2:Int):Option (Int×Bool) :=
  ((Qc0 (fun k5 ((i3,j4):Int×Int)=>(if (i3<j4) then ((getO x1 (IntKind.wrap .i64 (Int.fdiv (IntKind.wrap .u64 (IntKind.wrap .i64 (i3+j4))) (2 ^ (min (Int.toNat 1) (IntKind.bits .u64)))))).bind fun x7=>((Qd5 x7 tv2).bind fun x10=>(if x10 then k5 ((IntKind.wrap .i64 ((IntKind.wrap .i64 (Int.fdiv (IntKind.wrap .u64 (IntKind.wrap .i64 (i3+j4))) (2 ^ (min (Int.toNat 1) (IntKind.bits .u64)))))+1)),j4) else k5 (i3,(IntKind.wrap .i64 (Int.fdiv (IntKind.wrap .u64 (IntKind.wrap .i64 (i3+j4))) (2 ^ (min (Int.toNat 1) (IntKind.bits .u64))))))))) else some i3)) fuel (0,(x1.length:Int))).bind fun (i12:Int)=>(if (i12<(x1.length:Int)) then ((getO x1 i12).bind fun x14=>(if (x14==tv2) then some (i12,true) else ((getO x1 i12).bind fun x17=>((Qej x17).bind fun x20=>(if x20 then ((Qej tv2).bind fun x23=>some (i12,x23)) else some (i12,false)))))) else some (i12,false)))
def Qlg (P:Program) (c:Nat) (f:(List Int)→Int→Option Bool):Prop:=∀ xv1 x2 r,f xv1 x2=some r→∀ M nb,ACalls P c [(l_ xv1),(i_ x2)] M nb (b_ r) M nb
def Qqo:CFn:=⟨2,14,[.t 4],sg [oo 4 .mov [.c (.d (.bool false))]] (sg [oM 8 0,oM 9 1,oK 10 110 [.t 8,.t 9],oM 7 10,oX 11 0 7,oX 12 1 7,oM 5 11,oM 6 12] (sg [oM 13 6,oM 4 13] .ret))⟩
def Qeq (Qc2:(List Int)→Int→Option (Int×Bool)) (xv1:(List Int)) (x2:Int):Option Bool :=
  ((Qc2 xv1 x2).bind fun (r4,r5)=>some r5)
def Qqp (P:Program) (c:Nat) (f:(List Qq)→Int→Option Int):Prop:=∀ ev1 ev2 r,f ev1 ev2=some r→∀ M nb,ACalls P c [(Qj ev1),(i_ ev2)] M nb (i_ r) M nb
def Qwq:CFn:=⟨2,16,[.t 4],sg [oC 4 0] (.seq (sg [oM 6 0,oM 7 1,oI 8 5 6 7,oF 9 4 8,oL 10 9,oM 5 10] (sg [oM 11 5,oB 12 .gtr (.t 11) (cI 0)] (.cond (.t 12) (sg [oM 13 5,oB 14 .sub (.t 13) (cI 1),oB 15 .shl (cI 1) (.t 14),oM 4 15] .ret) .skip))) (sg [oC 4 0] .ret))⟩
def Qgr (ev1:(List Qq)) (ev2:Int):Option Int :=
  ((getO ev1 ev2).bind fun x3=>(if (x3.Fault>0) then ((shlO .i64 1 (IntKind.wrap .i64 (x3.Fault-1))).bind fun s6=>some s6) else some 0))
def Qnp (P:Program) (c:Nat) (f:(List Qq)→Qd→Option (Qd×(List Qi)×Int)):Prop:=∀ ev1 a2 r,f ev1 a2=some r→∀ M nb,ACalls P c [(Qj ev1),(Qbm a2)] M nb (.tup [(Qbm r.1),(Qc6 r.2.1),(i_ r.2.2)]) M nb
def Qs9:CFn:=⟨2,148,[.cell 4 true 4,.t 5,.t 6],sg [oo 3 (.box 4) [.t 1],oo 4 (.alloc [.nils 1,.d (.int .i64 0),.nils 1,.nils 3]) [],ot 5 .mov [.c (.nils 2)],oC 6 0] (.seq (sg [oM 20 0,oJ 21 4 3,oK 22 32 [.t 20,.t 21],oM 7 22] (sg [oM 23 7,oB 24 .neq (.t 23) (cI 0)] (.cond (.t 24) (sg [oo 25 (.build [.nils 1,.d (.int .i64 0),.nils 1,.nils 3] []) [],oM 26 7,oS 4 4 25,ot 5 .mov [.c (.nils 2)],oM 6 26] .ret) .skip))) (sg [oF 27 0 3,oL 28 27,oK 29 79 [.t 28],ot 30 (.build [.nils 1,.d (.int .i64 0),.nils 1,.nils 3] [(0,1)]) [.t 29],oo 8 (.alloc [.nils 1,.d (.int .i64 0),.nils 1,.nils 3]) [],oS 4 8 30] (sg [oF 31 1 3,oL 32 31,oo 33 (.makes 1 24 [.nils 3]) [.t 32,.t 32],oT 9 33] (.seq (sg [oF 34 3 3,oL 35 34,oE 36 35,oC 37 0] (.block 0 (.loop [11,50] (sg [oB 38 .lss (.t 37) (.t 36)] (.seq (.cond (.t 38) .skip (.exit 0)) (.seq (.block 1 (sg [oI 39 3 35 37,oJ 40 3 39,oo 11 (.alloc [.d (.int .i64 0),.d (.int .i64 0),.d (.int .i64 0)]) [],oU 3 11 40] (.region [oM 41 9,oF 42 0 11,oL 43 42,oM 44 9,oF 45 0 11,oL 46 45,oI 47 1 44 46,oo 48 .loadT [.t 47],oJ 49 3 11,oo 50 (.bslice 3 1 [.d (.int .i64 0),.d (.int .i64 0),.d (.int .i64 0)] [0]) [.t 49],oA 51 3 24 48 50,oI 52 1 41 43,oS 1 52 51] 0 []))) (rg [oB 53 .add (.t 37) (cI 1),oM 37 53]))))))) (sg [ot 12 .mov [.c (.nils 2)]] (sg [oo 54 .mkmap [],oM 13 54] (.seq (sg [oF 55 1 3,oL 56 55,oB 57 .gtr (.t 56) (cI 0)] (.cond (.t 57) (sg [oT 58 12,oo 59 (.build [.d (.int .i64 0),.d (.int .i64 0)] []) [],oo 60 (.bslice 2 1 [.d (.int .i64 0),.d (.int .i64 0)] [0]) [.t 59],oA 61 2 16 58 60,oT 12 61] (rg [oM 62 13,oo 63 (.build [.d (.int .i64 0),.d (.int .i64 0)] []) [],⟨none,.mapset (.st [.int .i64,.int .i64]),[.t 62,.t 63,cI 0],false,none⟩])) .skip)) (.seq (sg [oC 14 0] (.block 2 (.loop [81,16,17,128,139] (.seq (sg [oM 64 14,oM 65 12,oE 66 65,oB 67 .lss (.t 64) (.t 66)] (.cond (.t 67) .skip (.exit 2))) (.seq (.block 3 (.seq (.seq (.region [oF 70 2 3,oL 71 70,oM 72 12,oM 73 14,oI 74 2 72 73,oF 75 0 74,oL 76 75,oK 77 70 [.t 71,.t 76]] 0 []) (.cond (.t 77) (rg [oF 78 2 8,oo 79 .loadT [.t 78],oM 80 14,oo 81 (.bslice 1 1 [.d (.int .i64 0)] [0]) [.t 80],oA 82 1 8 79 81,oF 83 2 8,oS 1 83 82]) .skip)) (sg [oM 84 9,oM 85 12,oM 86 14,oI 87 2 85 86,oF 88 0 87,oL 89 88,oI 90 1 84 89,oL 91 90,oE 92 91,oC 93 0] (.block 4 (.loop [16,17,128,139] (sg [oB 94 .lss (.t 93) (.t 92)] (.seq (.cond (.t 94) .skip (.exit 4)) (.seq (.block 5 (sg [oI 95 3 91 93,oJ 96 3 95,oo 16 (.alloc [.d (.int .i64 0),.d (.int .i64 0),.d (.int .i64 0)]) [],oU 3 16 96] (.seq (.region [oF 97 2 16,oL 98 97,oM 99 12,oM 100 14,oI 101 2 99 100,oF 102 1 101,oL 103 102,oM 104 0,oF 105 1 16,oL 106 105,oK 107 80 [.t 104,.t 106],oB 108 .or (.t 103) (.t 107),oo 109 (.build [.d (.int .i64 0),.d (.int .i64 0)] [(0,1),(1,1)]) [.t 98,.t 108],oo 17 (.alloc [.d (.int .i64 0),.d (.int .i64 0)]) [],oU 2 17 109] 1 []) (.seq (sg [oM 111 13,oJ 112 2 17,oo 113 (.lookup (.st [.int .i64,.int .i64]) true (.d (.int .i64 0))) [.t 111,.t 112],oM 110 113,oX 114 0 110,oX 115 1 110,oM 18 114,oM 19 115] (sg [oM 116 19,oo 117 (.un .not) [.t 116]] (.cond (.t 117) (.seq (sg [oM 118 12,oE 119 118,oB 120 .eql (.t 119) (cI 4096)] (.cond (.t 120) (sg [oo 121 (.build [.nils 1,.d (.int .i64 0),.nils 1,.nils 3] []) [],oS 4 4 121,ot 5 .mov [.c (.nils 2)],oC 6 3] .ret) .skip)) (sg [oM 122 13,oJ 123 2 17,oM 124 12,oE 125 124,⟨none,.mapset (.st [.int .i64,.int .i64]),[.t 122,.t 123,.t 125],false,none⟩] (rg [oT 126 12,oJ 127 2 17,oo 128 (.bslice 2 1 [.d (.int .i64 0),.d (.int .i64 0)] [0]) [.t 127],oA 129 2 16 126 128,oT 12 129]))) .skip))) (.region [oF 130 3 8,oo 131 .loadT [.t 130],oM 132 14,oF 133 1 16,oL 134 133,oM 135 13,oJ 136 2 17,oo 137 (.lookup (.st [.int .i64,.int .i64]) false (.d (.int .i64 0))) [.t 135,.t 136],oo 138 (.build [.d (.int .i64 0),.d (.int .i64 0),.d (.int .i64 0)] [(0,1),(1,1),(2,1)]) [.t 132,.t 134,.t 137],oo 139 (.bslice 3 1 [.d (.int .i64 0),.d (.int .i64 0),.d (.int .i64 0)] [0]) [.t 138],oA 140 3 24 131 139,oF 141 3 8,oS 1 141 140] 0 []))))) (rg [oB 142 .add (.t 93) (cI 1),oM 93 142]))))))))) (rg [oM 68 14,oB 69 .add (.t 68) (cI 1),oM 14 69])))))) (sg [oM 143 12,oE 144 143,oF 145 1 8,oU 1 145 144] (sg [oJ 146 4 8,oT 147 12,oS 4 4 146,oT 5 147,oC 6 0] .ret))))))))))⟩
def Qfn (Qbl:(List Qq)→Qd→Option Int) (Qeq:(List Int)→Int→Option Bool) (Qbj:(List Int)→Option ((List Int))) (Qgr:(List Qq)→Int→Option Int) (fuel:Nat) (ev1:(List Qq)) (a2:Qd):Option (Qd×(List Qi)×Int) :=
  ((Qbl ev1 a2).bind fun x4=>(if (x4 != 0) then some ((Qd.mk [] 0 [] []),[],x4) else ((Qbj a2.zG).bind fun x7=>((mkO a2.zM ([]:List Qo)).bind fun x8=>((Qc0 (fun k12 ((x10,c11):Int×(List (List Qo)))=>(if (x10<(a2.zJ.length:Int)) then ((getO a2.zJ x10).bind fun x14=>((inO (Int.toNat a2.zM) x14.From).bind fun u16=>((getO c11 x14.From).bind fun x18=>((appO x18 [x14]).bind fun x20=>((inO (Int.toNat a2.zM) x14.From).bind fun u22=>((setO c11 x14.From x20).bind fun x24=>k12 ((IntKind.wrap .i64 (x10+1)),x24))))))) else some c11)) fuel (0,x8)).bind fun (c26:List (List Qo))=>(((if (a2.zM>0) then ((appO [] [(Qi.mk 0 0)]).bind fun x28=>some (x28,(setM ([]:List (Qi×Int)) (Qi.mk 0 0) 0))) else some ([],[]))).bind fun ((l30,c31):(List Qi)×(List (Qi×Int)))=>Qc0 (fun k40 ((l32,i33,c34,c35,c36,ov37,ov38,c39):(List Qi)×Int×(List Int)×(List Int)×(List Qo)×(List Int)×(List Qo)×(List (Qi×Int)))=>(if (i33<(l32.length:Int)) then ((((getO l32 i33).bind fun x42=>((Qeq a2.zH x42.State).bind fun x45=>(if x45 then ((appO ov37 [i33]).bind fun x47=>some x47) else some ov37)))).bind fun (ov49:List Int)=>((getO l32 i33).bind fun x50=>((inO (Int.toNat a2.zM) x50.State).bind fun u52=>((getO c26 x50.State).bind fun x54=>Qc0 (fun k60 ((l56,x57,ov58,c59):(List Qi)×Int×(List Qo)×(List (Qi×Int)))=>(if (x57<(x54.length:Int)) then ((getO x54 x57).bind fun x62=>((getO l56 i33).bind fun x64=>((Qgr ev1 x62.Event).bind fun x67=>letJ (fun ((l72,c73):(List Qi)×(List (Qi×Int)))=>((appO ov58 [(Qo.mk i33 x62.Event (getM c73 (Qi.mk x62.To (orI .i64 x64.Classes x67)) 0))]).bind fun x74=>k60 (l72,(IntKind.wrap .i64 (x57+1)),x74,c73))) fun J76=>(if (hasM c59 (Qi.mk x62.To (orI .i64 x64.Classes x67))) then J76 (l56,c59) else (if ((l56.length:Int)==4096) then some ((Qd.mk [] 0 [] []),[],3) else ((appO l56 [(Qi.mk x62.To (orI .i64 x64.Classes x67))]).bind fun x70=>J76 (x70,(setM c59 (Qi.mk x62.To (orI .i64 x64.Classes x67)) (l56.length:Int))))))))) else k40 (l56,(IntKind.wrap .i64 (i33+1)),c34,c35,c36,ov49,ov58,c59))) fuel (l32,0,ov38,c39))))) else some ((Qd.mk x7 (l32.length:Int) ov37 ov38),l32,0))) fuel (l30,0,[],[],[],[],[],c31)))))))
def Qlh (P:Program) (c:Nat) (f:Qq→Option Bool):Prop:=∀ x1 r,f x1=some r→∀ M nb,ACalls P c [(Qyv x1)] M nb (b_ r) M nb
def Qqq:CFn:=⟨1,5,[.t 2],sg [oo 1 (.box 5) [.t 0],oo 2 .mov [.c (.d (.bool false))]] (sg [oF 3 2 1,oL 4 3,oM 2 4] .ret)⟩
def Qer (x1:Qq):Option Bool :=
  some x1.Observable
def Qnq (P:Program) (c:Nat) (f:(List Qq)→(Qq→Option Bool)→Option ((List Int))):Prop:=∀ l1 cv2 (g3:Nat) (cp4:List V) r,f l1 cv2=some r→∀ M nb,(V.dems cp4=cp4)→(V.ons (There M) cp4)→(∀ a8 r,cv2 a8=some r→∀ M2 nb2,nb≤nb2→Ext M M2→ACalls P g3 ([(Qyv a8)]++cp4) M2 nb2 (b_ r) M2 nb2)→ACalls P c [(Qj l1),.clo g3 cp4] M nb (o_ r) M nb
def Qta:CFn:=⟨2,24,[.t 4],sg [ot 4 .mov [.c (.nils 1)]] (sg [ot 5 .mov [.c (.nils 1)]] (.seq (sg [oM 8 0,oE 9 8,oC 10 0] (.block 0 (.loop [7,20] (sg [oB 11 .lss (.t 10) (.t 9)] (.seq (.cond (.t 11) .skip (.exit 0)) (.seq (.block 1 (sg [oM 12 10,oI 13 5 8 10,oJ 14 5 13,oo 7 (.alloc [.d (.str ⟨#[]⟩),.d (.bool false),.d (.bool false),.d (.bool false),.d (.int .i64 0)]) [],oM 6 12,oU 5 7 14] (sg [oM 15 1,oJ 16 5 7,oo 17 .callv [.t 15,.t 16]] (.cond (.t 17) (rg [oT 18 5,oM 19 6,oo 20 (.bslice 1 1 [.d (.int .i64 0)] [0]) [.t 19],oA 21 1 8 18 20,oT 5 21]) .skip)))) (rg [oB 22 .add (.t 10) (cI 1),oM 10 22]))))))) (sg [oT 23 5,oT 4 23] .ret)))⟩
def Qfo (fuel:Nat) (l1:(List Qq)) (cv2:(Qq→Option Bool)):Option ((List Int)) :=
  ((Qc0 (fun k11 ((ov9,x10):(List Int)×Int)=>(if (x10<(l1.length:Int)) then ((((getO l1 x10).bind fun x13=>((cv2 x13).bind fun x16=>(if x16 then ((appO ov9 [x10]).bind fun x18=>some (x18,x13.Name,x13.Controllable,x13.Observable,x13.zD,x13.Fault)) else some (ov9,x13.Name,x13.Controllable,x13.Observable,x13.zD,x13.Fault))))).bind fun ((ov20,c21,c22,c23,c24,c25):(List Int)×ByteArray×Bool×Bool×Bool×Int)=>k11 (ov20,(IntKind.wrap .i64 (x10+1)))) else some ov9)) fuel ([],0)).bind fun (ov26:List Int)=>some ov26)
def Qjv (P:Program) (c:Nat) (f:(List Qq)→Option ((List Int)×Int)):Prop:=∀ l1 r,f l1=some r→∀ M nb,ACalls P c [(Qj l1),(i_ 3)] M nb (.tup [(o_ r.1),(i_ r.2)]) M nb
def Qoa:CFn:=⟨2,28,[.t 4,.t 5],sg [ot 4 .mov [.c (.nils 1)],oC 5 0] (.seq (sg [oM 10 0,oK 11 72 [.t 10],oM 6 11] (sg [oM 12 6,oB 13 .neq (.t 12) (cI 0)] (.cond (.t 13) (sg [oM 14 6,ot 4 .mov [.c (.nils 1)],oM 5 14] .ret) .skip))) (sg [oo 15 .mkmap [],⟨none,.mapset (.int .i64),[.t 15,cI 1,.c (.clo 123 [])],false,none⟩,⟨none,.mapset (.int .i64),[.t 15,cI 2,.c (.clo 124 [])],false,none⟩,⟨none,.mapset (.int .i64),[.t 15,cI 3,.c (.clo 125 [])],false,none⟩,⟨none,.mapset (.int .i64),[.t 15,cI 4,.c (.clo 126 [])],false,none⟩,⟨none,.mapset (.int .i64),[.t 15,cI 5,.c (.clo 127 [])],false,none⟩,⟨none,.mapset (.int .i64),[.t 15,cI 6,.c (.clo 128 [])],false,none⟩,oM 16 15,oM 7 16] (sg [oM 18 7,oM 19 1,oo 20 (.lookup (.int .i64) true (.und)) [.t 18,.t 19],oM 17 20,oX 21 0 17,oX 22 1 17,oM 8 21,oM 9 22] (.seq (sg [oM 23 9,oo 24 (.un .not) [.t 23]] (.cond (.t 24) (sg [ot 4 .mov [.c (.nils 1)],oC 5 11] .ret) .skip)) (sg [oM 25 0,oM 26 8,oK 27 129 [.t 25,.t 26],oT 4 27,oC 5 0] .ret)))))⟩
def Qd0 (Qcw:(List Qq)→Option Int) (Qer:Qq→Option Bool) (Qfo:(List Qq)→(Qq→Option Bool)→Option ((List Int))) (l1:(List Qq)):Option ((List Int)×Int) :=
  ((Qcw l1).bind fun x3=>(if (x3 != 0) then some ([],x3) else ((Qfo l1 Qer).bind fun x9=>some (x9,0))))
def Qja (P:Program) (c:Nat) (f:(List Qq)→Option ((List Int))):Prop:=∀ ev1 r,f ev1=some r→∀ M nb,ACalls P c [(Qj ev1)] M nb (l_ r) M nb
def Qm2:CFn:=⟨1,11,[.t 2],sg [ot 2 .mov [.c (.nils 1)]] (sg [oM 6 0,oK 7 87 [.t 6,cI 3],oM 5 7,ot 8 (.extract 0) [.t 5],oX 9 1 5,oT 3 8,oM 4 9] (sg [oT 10 3,oT 2 10] .ret))⟩
def Qdq (Qd0:(List Qq)→Option ((List Int)×Int)) (ev1:(List Qq)):Option ((List Int)) :=
  ((Qd0 ev1).bind fun (r3,r4)=>some r3)
def Qjw (P:Program) (c:Nat) (f:(List Int)→Int→Option Int):Prop:=∀ l1 n2 r,f l1 n2=some r→∀ M nb,ACalls P c [(l_ l1),(i_ n2)] M nb (i_ r) M nb
def Qob:CFn:=⟨2,35,[.t 4],sg [oC 4 0] (.seq (sg [oM 7 0,oE 8 7,oC 9 0] (.block 0 (.loop [] (sg [oB 10 .lss (.t 9) (.t 8)] (.seq (.cond (.t 10) .skip (.exit 0)) (.seq (.block 1 (sg [oM 11 9,oI 12 1 7 9,oL 13 12,oM 5 11,oM 6 13] (.block 2 (sg [oM 15 6,oB 16 .lss (.t 15) (cI 0),oM 17 16,g0 17 (oM 18 6),g0 17 (oM 19 1),g0 17 (oB 20 .geq (.t 18) (.t 19)),oQ 21 17 20,oM 14 21] (.cond (.t 14) (sg [oC 4 2] .ret) (sg [oM 23 5,oB 24 .gtr (.t 23) (cI 0),oM 25 24,g1 25 (oM 26 6),g1 25 (oM 27 0),g1 25 (oM 28 5),g1 25 (oB 29 .sub (.t 28) (cI 1)),g1 25 (oI 30 1 27 29),g1 25 (oL 31 30),g1 25 (oB 32 .leq (.t 26) (.t 31)),oP 33 25 32,oM 22 33] (.cond (.t 22) (sg [oC 4 5] .ret) .skip))))))) (rg [oB 34 .add (.t 9) (cI 1),oM 9 34]))))))) (sg [oC 4 0] .ret))⟩
def Qd1 (fuel:Nat) (l1:(List Int)) (n2:Int):Option Int :=
  Qc0 (fun k4 (x3:Int)=>(if (x3<(l1.length:Int)) then ((getO l1 x3).bind fun x6=>(((if (x6<0) then some true else some (decide (x6≥n2)))).bind fun (x9:Bool)=>(if x9 then some 2 else (((if (x3>0) then ((getO l1 (IntKind.wrap .i64 (x3-1))).bind fun x12=>some (decide (x6≤x12))) else some false)).bind fun (x14:Bool)=>(if x14 then some 5 else k4 (IntKind.wrap .i64 (x3+1))))))) else some 0)) fuel 0
def Qmf (P:Program) (c:Nat) (f:Qd→(List Int)→Option Int):Prop:=∀ a1 ev2 r,f a1 ev2=some r→∀ M nb,ACalls P c [(Qbm a1),(l_ ev2)] M nb (i_ r) M nb
def Qr2:CFn:=⟨2,13,[.t 4],sg [oo 2 (.box 4) [.t 0],oC 4 0] (.seq (sg [oJ 6 4 2,oK 7 73 [.t 6],oM 5 7] (sg [oM 8 5,oB 9 .neq (.t 8) (cI 0)] (.cond (.t 9) (sg [oM 10 5,oM 4 10] .ret) .skip))) (sg [oM 11 1,oK 12 111 [.t 11,cI 32],oM 4 12] .ret))⟩
def Qe7 (Qbk:Qd→Option Int) (Qd1:(List Int)→Int→Option Int) (a1:Qd) (ev2:(List Int)):Option Int :=
  ((Qbk a1).bind fun x4=>(if (x4 != 0) then some x4 else ((Qd1 ev2 32).bind fun x7=>some x7)))
def Qks (P:Program) (c:Nat) (f:Qd→(List Int)→Option Qy):Prop:=∀ a1 ov2 r,f a1 ov2=some r→∀ M nb,ACalls P c [(Qbm a1),(l_ ov2)] M nb (Qc1 r) M nb
def Qo8:CFn:=⟨2,62,[.cell 4 true 4],sg [oo 2 (.box 4) [.t 0],oo 4 (.alloc [.nils 1,.nils 1,.nils 1,.nils 1]) []] (.seq (.region [oF 10 1 2,oL 11 10,oo 12 (.makes 1 24 [.nils 3]) [.t 11,.t 11],oF 13 2 2,oL 14 13,ot 15 (.build [.nils 1,.nils 1,.nils 1,.nils 1] [(0,1),(3,1)]) [.t 12,.t 14],oo 5 (.alloc [.nils 1,.nils 1,.nils 1,.nils 1]) [],oS 4 5 15] 0 []) (.seq (sg [oF 16 3 2,oL 17 16,oE 18 17,oC 19 0] (.block 0 (.loop [7,34] (sg [oB 20 .lss (.t 19) (.t 18)] (.seq (.cond (.t 20) .skip (.exit 0)) (.seq (.block 1 (sg [oI 21 3 17 19,oJ 22 3 21,oo 7 (.alloc [.d (.int .i64 0),.d (.int .i64 0),.d (.int .i64 0)]) [],oU 3 7 22] (.region [oF 23 0 5,oL 24 23,oF 25 0 7,oL 26 25,oF 27 0 5,oL 28 27,oF 29 0 7,oL 30 29,oI 31 1 28 30,oo 32 .loadT [.t 31],oJ 33 3 7,oo 34 (.bslice 3 1 [.d (.int .i64 0),.d (.int .i64 0),.d (.int .i64 0)] [0]) [.t 33],oA 35 3 24 32 34,oI 36 1 24 26,oS 1 36 35] 0 []))) (rg [oB 37 .add (.t 19) (cI 1),oM 19 37]))))))) (.seq (sg [oF 38 0 2,oL 39 38,oE 40 39,oC 41 0] (.block 2 (.loop [51,57] (sg [oB 42 .lss (.t 41) (.t 40)] (.seq (.cond (.t 42) .skip (.exit 2)) (.seq (.block 3 (sg [oI 43 1 39 41,oL 44 43,oM 9 44] (sg [oM 45 1,oM 46 9,oK 47 52 [.t 45,.t 46]] (.cond (.t 47) (rg [oF 48 1 5,oo 49 .loadT [.t 48],oM 50 9,oo 51 (.bslice 1 1 [.d (.int .i64 0)] [0]) [.t 50],oA 52 1 8 49 51,oF 53 1 5,oS 1 53 52]) (rg [oF 54 2 5,oo 55 .loadT [.t 54],oM 56 9,oo 57 (.bslice 1 1 [.d (.int .i64 0)] [0]) [.t 56],oA 58 1 8 55 57,oF 59 2 5,oS 1 59 58]))))) (rg [oB 60 .add (.t 41) (cI 1),oM 41 60]))))))) (sg [oJ 61 4 5,oS 4 4 61] .ret))))⟩
def Qed (Qf:(List Int)→Int→Option Bool) (fuel:Nat) (a1:Qd) (ov2:(List Int)):Option Qy :=
  ((mkO a1.zM ([]:List Qo)).bind fun x3=>((Qc0 (fun k7 ((x5,c6):Int×(List (List Qo)))=>(if (x5<(a1.zJ.length:Int)) then ((getO a1.zJ x5).bind fun x9=>((inO (Int.toNat a1.zM) x9.From).bind fun u11=>((getO c6 x9.From).bind fun x13=>((appO x13 [x9]).bind fun x15=>((inO (Int.toNat a1.zM) x9.From).bind fun u17=>((setO c6 x9.From x15).bind fun x19=>k7 ((IntKind.wrap .i64 (x5+1)),x19))))))) else some c6)) fuel (0,x3)).bind fun (c21:List (List Qo))=>((Qc0 (fun k29 ((x22,c23,c24,c25,c26,o27,o28):Int×(List (List Qo))×(List Int)×(List Int)×(List Int)×(List Int)×(List Int))=>(if (x22<(a1.zG.length:Int)) then ((((getO a1.zG x22).bind fun x31=>((Qf ov2 x31).bind fun x34=>(if x34 then ((appO o27 [x31]).bind fun x36=>some (x36,o28)) else ((appO o28 [x31]).bind fun x38=>some (o27,x38)))))).bind fun ((o40,o41):(List Int)×(List Int))=>k29 ((IntKind.wrap .i64 (x22+1)),c23,c24,c25,c26,o40,o41)) else some (c23,c24,c25,c26,o27,o28))) fuel (0,[],[],[],[],[],[])).bind fun ((c42,c43,c44,c45,o46,o47):(List (List Qo))×(List Int)×(List Int)×(List Int)×(List Int)×(List Int))=>((lenO c21 (Int.toNat a1.zM)).bind fun _=>some (Qy.mk c21 o46 o47 a1.zH)))))
def Qga (P:Program) (c:Nat) (f:Int→(List Bool)→(List Int)→Option ((List Bool)×(List Int))):Prop:=∀ x1 x2 x7 (k3:Nat) (k5:Nat) (k8:Nat) r,f x1 x2 x7=some r→∀ M nb,(M k3=some (.cells [.sl 1 k5 0 x2.length x2.length]))→(M k5=some (.cells (Qb7 (fun (x:Bool)=>[V.d (.bool x)]) x2)))→(M k8=some (.cells [(o_ x7)]))→(k5≠k3)→(k5≠k8)→(k8≠k3)→ACalls P c [(i_ x1),.ptr k3 0,.ptr k8 0] M nb (.tup []) (Mem.puts M [(k5,.cells (Qb7 (fun (x:Bool)=>[V.d (.bool x)]) r.1)),(k8,.cells ([(o_ r.2)]))]) nb
def Qi0:CFn:=⟨3,16,[],sg [oL 4 1,oM 5 0,oI 6 1 4 5,oL 7 6,oo 8 (.un .not) [.t 7]] (.cond (.t 8) (sg [oL 9 1,oM 10 0,oI 11 1 9 10,⟨none,.store 1,[.t 11,.c (.d (.bool true))],false,none⟩] (rg [oo 12 .loadT [.t 2],oM 13 0,oo 14 (.bslice 1 1 [.d (.int .i64 0)] [0]) [.t 13],oA 15 1 8 12 14,oS 1 2 15])) .skip)⟩
def Qby (x1:Int) (x2:(List Bool)) (x7:(List Int)):Option ((List Bool)×(List Int)) :=
  ((inO x2.length x1).bind fun u13=>((getO x2 x1).bind fun x15=>(if x15 then some (x2,x7) else ((inO x2.length x1).bind fun u18=>((setO x2 x1 true).bind fun c20=>((appO x7 [x1]).bind fun x22=>some (c20,x22)))))))
def Qe8 (P:Program) (c:Nat) (f:Qy→(List Int)→(List Int)→Option ((List Int))):Prop:=∀ o1 xv2 ev3 r,f o1 xv2 ev3=some r→∀ M nb,ACalls P c [(Qc1 o1),(l_ xv2),(l_ ev3)] M nb (l_ r) M nb
def Qjx:CFn:=⟨3,61,[.t 6],sg [oo 3 (.box 4) [.t 0],ot 6 .mov [.c (.nils 1)]] (sg [oF 15 0 3,oL 16 15,oE 17 16,oo 18 (.makes 1 1 [.d (.bool false)]) [.t 17,.t 17],oo 7 (.alloc [.nils 1]) [],oS 1 7 18] (sg [oo 8 (.alloc [.nils 1]) []] (sg [oo 19 (.func 153) [.t 7,.t 8],oM 9 19] (.seq (sg [oM 20 1,oE 21 20,oC 22 0] (.block 0 (.loop [] (sg [oB 23 .lss (.t 22) (.t 21)] (.seq (.cond (.t 23) .skip (.exit 0)) (.seq (.block 1 (sg [oI 24 1 20 22,oL 25 24,oM 11 25] (rg [oM 26 9,oM 27 11,oo 28 .callv [.t 26,.t 27]]))) (rg [oB 29 .add (.t 22) (cI 1),oM 22 29]))))))) (.seq (sg [oC 12 0] (.block 2 (.loop [14] (.seq (sg [oM 30 12,oL 31 8,oE 32 31,oB 33 .lss (.t 30) (.t 32)] (.cond (.t 33) .skip (.exit 2))) (.seq (.block 3 (.seq (.region [oF 36 0 3,oL 37 36,oL 38 8,oM 39 12,oI 40 1 38 39,oL 41 40,oI 42 1 37 41,oL 43 42,oE 44 43,oC 45 0] 0 []) (.block 4 (.loop [14] (sg [oB 46 .lss (.t 45) (.t 44)] (.seq (.cond (.t 46) .skip (.exit 4)) (.seq (.block 5 (sg [oI 47 3 43 45,oJ 48 3 47,oo 14 (.alloc [.d (.int .i64 0),.d (.int .i64 0),.d (.int .i64 0)]) [],oU 3 14 48] (sg [oM 49 2,oF 50 1 14,oL 51 50,oK 52 52 [.t 49,.t 51]] (.cond (.t 52) (rg [oM 53 9,oF 54 2 14,oL 55 54,oo 56 .callv [.t 53,.t 55]]) .skip)))) (rg [oB 57 .add (.t 45) (cI 1),oM 45 57])))))))) (rg [oM 34 12,oB 35 .add (.t 34) (cI 1),oM 12 35])))))) (sg [oL 58 8,oK 59 95 [.t 58]] (sg [oL 60 8,oT 6 60] .ret)))))))⟩
def Qbb (Qf:(List Int)→Int→Option Bool) (f_slices_Sort_int:List Int→Option (List Int)) (Qby:Int→(List Bool)→(List Int)→Option ((List Bool)×(List Int))) (fuel:Nat) (o1:Qy) (xv2:(List Int)) (ev3:(List Int)):Option ((List Int)) :=
  ((mkO (o1.out_.length:Int) false).bind fun x4=>((Qc0 (fun k9 ((x6,l7,c8):Int×(List Int)×(List Bool))=>(if (x6<(xv2.length:Int)) then ((getO xv2 x6).bind fun x11=>((lenO c8 (Int.toNat (o1.out_.length:Int))).bind fun _=>((Qby x11 c8 l7).bind fun (c14,c15)=>k9 ((IntKind.wrap .i64 (x6+1)),c15,c14)))) else some (l7,c8))) fuel (0,[],x4)).bind fun ((l17,c18):(List Int)×(List Bool))=>((Qc0 (fun k22 ((i19,l20,c21):Int×(List Int)×(List Bool))=>(if (i19<(l20.length:Int)) then ((((getO l20 i19).bind fun x24=>((getO o1.out_ x24).bind fun x26=>Qc0 (fun k31 ((x28,l29,c30):Int×(List Int)×(List Bool))=>(if (x28<(x26.length:Int)) then ((((getO x26 x28).bind fun x33=>((Qf ev3 x33.Event).bind fun x36=>(if x36 then ((lenO c30 (Int.toNat (o1.out_.length:Int))).bind fun _=>((Qby x33.To c30 l29).bind fun (c39,c40)=>some (c40,c39,x33.From,x33.Event,x33.To))) else some (l29,c30,x33.From,x33.Event,x33.To))))).bind fun ((l42,c43,c44,c45,c46):(List Int)×(List Bool)×Int×Int×Int)=>k31 ((IntKind.wrap .i64 (x28+1)),l42,c43)) else some (l29,c30))) fuel (0,l20,c21)))).bind fun ((l47,c48):(List Int)×(List Bool))=>k22 ((IntKind.wrap .i64 (i19+1)),l47,c48)) else some (l20,c21))) fuel (0,l17,c18)).bind fun ((l49,c50):(List Int)×(List Bool))=>((f_slices_Sort_int l49).bind fun rv51=>some rv51))))
def Qgs (P:Program) (c:Nat) (f:Qy→Option ((List Int))):Prop:=∀ o1 r,f o1=some r→∀ M nb,ACalls P c [(Qc1 o1)] M nb (l_ r) M nb
def Qjy:CFn:=⟨1,12,[.t 2],sg [oo 1 (.box 4) [.t 0],ot 2 .mov [.c (.nils 1)]] (.seq (sg [oF 3 0 1,oL 4 3,oE 5 4,oB 6 .eql (.t 5) (cI 0)] (.cond (.t 6) (sg [ot 2 .mov [.c (.nils 1)]] .ret) .skip)) (sg [oJ 7 4 1,oo 8 (.bslice 1 1 [.d (.int .i64 0)] [0]) [cI 0],oF 9 2 1,oL 10 9,oK 11 119 [.t 7,.t 8,.t 10],oT 2 11] .ret))⟩
def Qcm (Qbb:Qy→(List Int)→(List Int)→Option ((List Int))) (o1:Qy):Option ((List Int)) :=
  (if ((o1.out_.length:Int)==0) then some [] else ((Qbb o1 [0] o1.erased_).bind fun x4=>some x4))
def K_projection_key (P:Program) (c:Nat) (f:(List Int)→Option ByteArray):Prop:=∀ l1 r,f l1=some r→∀ M nb,ACalls P c [(l_ l1)] M nb (.d (.str r)) M nb
def Qff (P:Program) (c:Nat) (f:Int→Qy→Option Bool):Prop:=∀ x1 x2 (k3:Nat) r,f x1 x2=some r→∀ M nb,(M k3=some (.cells (Qcf x2)))→ACalls P c [(i_ x1),.ptr k3 0] M nb (b_ r) M nb
def Qho:CFn:=⟨2,8,[.t 3],sg [oo 3 .mov [.c (.d (.bool false))]] (sg [oF 4 3 1,oL 5 4,oM 6 0,oK 7 52 [.t 5,.t 6],oM 3 7] .ret)⟩
def Qbz (Qf:(List Int)→Int→Option Bool) (x1:Int) (x2:Qy):Option Bool :=
  ((Qf x2.marked_ x1).bind fun x6=>some x6)
def Qjb (P:Program) (c:Nat) (f:(List Int)→(Int→Option Bool)→Option Int):Prop:=∀ s1 f2 (g3:Nat) (cp4:List V) r,f s1 f2=some r→∀ M nb,(V.dems cp4=cp4)→(V.ons (There M) cp4)→(∀ a8 r,f2 a8=some r→∀ M2 nb2,nb≤nb2→Ext M M2→ACalls P g3 ([(i_ a8)]++cp4) M2 nb2 (b_ r) M2 nb2)→ACalls P c [(l_ s1),.clo g3 cp4] M nb (i_ r) M nb
def Qm3:CFn:=⟨2,19,[.t 4],sg [oC 4 0] (.seq (sg [oM 6 0,oE 7 6,oC 8 0] (.block 0 (.loop [] (sg [oB 9 .lss (.t 8) (.t 7)] (.seq (.cond (.t 9) .skip (.exit 0)) (.seq (.block 1 (sg [oM 10 8,oM 5 10] (sg [oM 11 1,oM 12 0,oM 13 5,oI 14 1 12 13,oL 15 14,oo 16 .callv [.t 11,.t 15]] (.cond (.t 16) (sg [oM 17 5,oM 4 17] .ret) .skip)))) (rg [oB 18 .add (.t 8) (cI 1),oM 8 18]))))))) (sg [oC 4 (-1)] .ret))⟩
def Qdr (fuel:Nat) (s1:(List Int)) (f2:(Int→Option Bool)):Option Int :=
  Qc0 (fun k10 (x9:Int)=>(if (x9<(s1.length:Int)) then ((getO s1 x9).bind fun x12=>((f2 x12).bind fun x15=>(if x15 then some x9 else k10 (IntKind.wrap .i64 (x9+1))))) else some (-1))) fuel 0
def Qdm (P:Program) (c:Nat) (f:(List Int)→(Int→Option Bool)→Option Bool):Prop:=∀ s1 f2 (g3:Nat) (cp4:List V) r,f s1 f2=some r→∀ M nb,(V.dems cp4=cp4)→(V.ons (There M) cp4)→(∀ a8 r,f2 a8=some r→∀ M2 nb2,nb≤nb2→Ext M M2→ACalls P g3 ([(i_ a8)]++cp4) M2 nb2 (b_ r) M2 nb2)→ACalls P c [(l_ s1),.clo g3 cp4] M nb (b_ r) M nb
def Qky:CFn:=⟨2,9,[.t 4],sg [oo 4 .mov [.c (.d (.bool false))]] (sg [oM 5 0,oM 6 1,oK 7 90 [.t 5,.t 6],oB 8 .geq (.t 7) (cI 0),oM 4 8] .ret)⟩
def Qt (Qdr:(List Int)→(Int→Option Bool)→Option Int) (s1:(List Int)) (f2:(Int→Option Bool)):Option Bool :=
  ((Qdr s1 f2).bind fun x13=>some (decide (x13≥0)))
def Qfy (P:Program) (c:Nat) (f:Qy→(List Int)→Option Bool):Prop:=∀ o1 ev2 r,f o1 ev2=some r→∀ M nb,ACalls P c [(Qc1 o1),(l_ ev2)] M nb (b_ r) M nb
def Qii:CFn:=⟨2,8,[.t 4],sg [oo 2 (.box 4) [.t 0],oo 4 .mov [.c (.d (.bool false))]] (sg [oM 5 1,oo 6 (.func 122) [.t 2],oK 7 50 [.t 5,.t 6],oM 4 7] .ret)⟩
def Qb9 (Qt:(List Int)→(Int→Option Bool)→Option Bool) (Qbz:Int→Qy→Option Bool) (o1:Qy) (ev2:(List Int)):Option Bool :=
  ((Qt ev2 (fun a3=>Qbz a3 o1)).bind fun x7=>some x7)
def Qg5 (P:Program) (c:Nat) (f:Qy→(List Int)→Int→Option ((List Int))):Prop:=∀ o1 ev2 ev3 r,f o1 ev2 ev3=some r→∀ M nb,ACalls P c [(Qc1 o1),(l_ ev2),(i_ ev3)] M nb (l_ r) M nb
def Qkf:CFn:=⟨3,44,[.t 6],sg [oo 3 (.box 4) [.t 0],ot 6 .mov [.c (.nils 1)]] (sg [ot 7 .mov [.c (.nils 1)]] (.seq (sg [oM 12 1,oE 13 12,oC 14 0] (.block 0 (.loop [11,35] (sg [oB 15 .lss (.t 14) (.t 13)] (.seq (.cond (.t 15) .skip (.exit 0)) (.seq (.block 1 (sg [oI 16 1 12 14,oL 17 16,oM 9 17] (sg [oF 18 0 3,oL 19 18,oM 20 9,oI 21 1 19 20,oL 22 21,oE 23 22,oC 24 0] (.block 2 (.loop [11,35] (sg [oB 25 .lss (.t 24) (.t 23)] (.seq (.cond (.t 25) .skip (.exit 2)) (.seq (.block 3 (sg [oI 26 3 22 24,oJ 27 3 26,oo 11 (.alloc [.d (.int .i64 0),.d (.int .i64 0),.d (.int .i64 0)]) [],oU 3 11 27] (sg [oF 28 1 11,oL 29 28,oM 30 2,oB 31 .eql (.t 29) (.t 30)] (.cond (.t 31) (rg [oT 32 7,oF 33 2 11,oL 34 33,oo 35 (.bslice 1 1 [.d (.int .i64 0)] [0]) [.t 34],oA 36 1 8 32 35,oT 7 36]) .skip)))) (rg [oB 37 .add (.t 24) (cI 1),oM 24 37]))))))))) (rg [oB 38 .add (.t 14) (cI 1),oM 14 38]))))))) (sg [oJ 39 4 3,oM 40 7,oF 41 2 3,oL 42 41,oK 43 119 [.t 39,.t 40,.t 42],oT 6 43] .ret)))⟩
def Qct (Qbb:Qy→(List Int)→(List Int)→Option ((List Int))) (fuel:Nat) (o1:Qy) (ev2:(List Int)) (ev3:Int):Option ((List Int)) :=
  ((Qc0 (fun k6 ((l4,x5):(List Int)×Int)=>(if (x5<(ev2.length:Int)) then ((((getO ev2 x5).bind fun x8=>((getO o1.out_ x8).bind fun x10=>Qc0 (fun k14 ((l12,x13):(List Int)×Int)=>(if (x13<(x10.length:Int)) then ((((getO x10 x13).bind fun x16=>(if (x16.Event==ev3) then ((appO l12 [x16.To]).bind fun x19=>some (x19,x16.From,x16.Event,x16.To)) else some (l12,x16.From,x16.Event,x16.To)))).bind fun ((l21,c22,c23,c24):(List Int)×Int×Int×Int)=>k14 (l21,(IntKind.wrap .i64 (x13+1)))) else some l12)) fuel (l4,0)))).bind fun (l25:List Int)=>k6 (l25,(IntKind.wrap .i64 (x5+1)))) else some l4)) fuel ([],0)).bind fun (l26:List Int)=>((Qbb o1 l26 o1.erased_).bind fun x28=>some x28))
def Qkt (P:Program) (c:Nat) (f:Qd→(List Int)→Option (Qd×(List (List Int))×Int)):Prop:=∀ a1 ov2 r,f a1 ov2=some r→∀ M nb,ACalls P c [(Qbm a1),(l_ ov2)] M nb (.tup [(Qbm r.1),.own 1 (List.map (eL 1 (eI .i64)) r.2.1),(i_ r.2.2)]) M nb
def Qo9:CFn:=⟨2,117,[.cell 4 true 4,.t 5,.t 6],sg [oo 2 (.box 4) [.t 0],oo 4 (.alloc [.nils 1,.d (.int .i64 0),.nils 1,.nils 3]) [],ot 5 .mov [.c (.nils 1)],oC 6 0] (.seq (sg [oJ 18 4 2,oM 19 1,oK 20 81 [.t 18,.t 19],oM 7 20] (sg [oM 21 7,oB 22 .neq (.t 21) (cI 0)] (.cond (.t 22) (sg [oo 23 (.build [.nils 1,.d (.int .i64 0),.nils 1,.nils 3] []) [],oM 24 7,oS 4 4 23,ot 5 .mov [.c (.nils 1)],oM 6 24] .ret) .skip))) (sg [oJ 25 4 2,oM 26 1,oK 27 82 [.t 25,.t 26],oo 8 (.alloc [.nils 1,.nils 1,.nils 1,.nils 1]) [],oS 4 8 27] (sg [oF 28 1 8,oL 29 28,ot 30 (.build [.nils 1,.d (.int .i64 0),.nils 1,.nils 3] [(0,1)]) [.t 29],oo 9 (.alloc [.nils 1,.d (.int .i64 0),.nils 1,.nils 3]) [],oS 4 9 30] (.seq (sg [oF 31 1 2,oL 32 31,oB 33 .eql (.t 32) (cI 0)] (.cond (.t 33) (sg [oJ 34 4 9,oS 4 4 34,ot 5 .mov [.c (.nils 1)],oC 6 0] .ret) .skip)) (sg [oJ 35 4 8,oK 36 83 [.t 35],oo 37 (.bslice 1 1 [.nils 1] [0]) [.t 36],oT 10 37] (sg [oo 38 .mkmap [],oM 39 10,oo 40 (.idx 1) [.t 39,cI 0],oL 41 40,oK 42 84 [.t 41],⟨none,.mapset .str,[.t 38,.t 42,cI 0],false,none⟩,oM 43 38,oM 11 43] (.seq (sg [oC 12 0] (.block 0 (.loop [59,96,104] (.seq (sg [oM 44 12,oM 45 10,oE 46 45,oB 47 .lss (.t 44) (.t 46)] (.cond (.t 47) .skip (.exit 0))) (.seq (.block 1 (.seq (.seq (.region [oJ 50 4 8,oM 51 10,oM 52 12,oI 53 1 51 52,oL 54 53,oK 55 85 [.t 50,.t 54]] 0 []) (.cond (.t 55) (rg [oF 56 2 9,oo 57 .loadT [.t 56],oM 58 12,oo 59 (.bslice 1 1 [.d (.int .i64 0)] [0]) [.t 58],oA 60 1 8 57 59,oF 61 2 9,oS 1 61 60]) .skip)) (.seq (sg [oF 62 1 8,oL 63 62,oE 64 63,oC 65 0] (.block 2 (.loop [96,104] (sg [oB 66 .lss (.t 65) (.t 64)] (.seq (.cond (.t 66) .skip (.exit 2)) (.seq (.block 3 (sg [oI 67 1 63 65,oL 68 67,oM 14 68] (.seq (.region [oJ 69 4 8,oM 70 10,oM 71 12,oI 72 1 70 71,oL 73 72,oM 74 14,oK 75 86 [.t 69,.t 73,.t 74],oT 15 75] 0 []) (.seq (sg [oM 76 15,oE 77 76,oB 78 .eql (.t 77) (cI 0)] (.cond (.t 78) (.exit 3) .skip)) (sg [oM 80 11,oM 81 15,oK 82 84 [.t 81],oo 83 (.lookup .str true (.d (.int .i64 0))) [.t 80,.t 82],oM 79 83,oX 84 0 79,oX 85 1 79,oM 16 84,oM 17 85] (.seq (sg [oM 86 17,oo 87 (.un .not) [.t 86]] (.cond (.t 87) (sg [oM 88 10,oE 89 88,oM 16 89] (sg [oM 90 11,oM 91 15,oK 92 84 [.t 91],oM 93 16,⟨none,.mapset .str,[.t 90,.t 92,.t 93],false,none⟩] (rg [oT 94 10,oM 95 15,oo 96 (.bslice 1 1 [.nils 1] [0]) [.t 95],oA 97 1 24 94 96,oT 10 97]))) .skip)) (rg [oF 98 3 9,oo 99 .loadT [.t 98],oM 100 12,oM 101 14,oM 102 16,oo 103 (.build [.d (.int .i64 0),.d (.int .i64 0),.d (.int .i64 0)] [(0,1),(1,1),(2,1)]) [.t 100,.t 101,.t 102],oo 104 (.bslice 3 1 [.d (.int .i64 0),.d (.int .i64 0),.d (.int .i64 0)] [0]) [.t 103],oA 105 3 24 99 104,oF 106 3 9,oS 1 106 105]))))))) (rg [oB 107 .add (.t 65) (cI 1),oM 65 107]))))))) (sg [oM 108 10,oE 109 108,oB 110 .gtr (.t 109) (cI 4096)] (.cond (.t 110) (sg [oo 111 (.build [.nils 1,.d (.int .i64 0),.nils 1,.nils 3] []) [],oS 4 4 111,ot 5 .mov [.c (.nils 1)],oC 6 3] .ret) .skip))))) (rg [oM 48 12,oB 49 .add (.t 48) (cI 1),oM 12 49])))))) (sg [oM 112 10,oE 113 112,oF 114 1 9,oU 1 114 113] (sg [oJ 115 4 9,oT 116 10,oS 4 4 115,oT 5 116,oC 6 0] .ret)))))))))⟩
def Qee (Qe7:Qd→(List Int)→Option Int) (Qed:Qd→(List Int)→Option Qy) (Qcm:Qy→Option ((List Int))) (f_projection_key:(List Int)→Option ByteArray) (Qb9:Qy→(List Int)→Option Bool) (Qct:Qy→(List Int)→Int→Option ((List Int))) (fuel:Nat) (a1:Qd) (ov2:(List Int)):Option (Qd×(List (List Int))×Int) :=
  ((Qe7 a1 ov2).bind fun x4=>(if (x4 != 0) then some ((Qd.mk [] 0 [] []),[],x4) else ((Qed a1 ov2).bind fun x7=>(if (a1.zM==0) then some ((Qd.mk x7.kept_ 0 [] []),[],0) else ((Qcm x7).bind fun x10=>((f_projection_key x10).bind fun x12=>Qc0 (fun k21 ((sv13,i14,c15,c16,c17,r18,r19,c20):(List (List Int))×Int×(List Int)×(List Int)×(List Qo)×(List Int)×(List Qo)×(List (ByteArray×Int)))=>(if (i14<(sv13.length:Int)) then ((((getO sv13 i14).bind fun x23=>((Qb9 x7 x23).bind fun x26=>(if x26 then ((appO r18 [i14]).bind fun x28=>some x28) else some r18)))).bind fun (r30:List Int)=>((Qc0 (fun k35 ((sv31,x32,r33,c34):(List (List Int))×Int×(List Qo)×(List (ByteArray×Int)))=>(if (x32<(x7.kept_.length:Int)) then ((((getO x7.kept_ x32).bind fun x37=>((getO sv31 i14).bind fun x39=>((Qct x7 x39 x37).bind fun x42=>(if ((x42.length:Int)==0) then some (sv31,r33,c34) else ((f_projection_key x42).bind fun x45=>(((if (hasM c34 x45) then some (sv31,(getM c34 x45 0),c34) else ((f_projection_key x42).bind fun x48=>((appO sv31 [x42]).bind fun x49=>some (x49,(sv31.length:Int),(setM c34 x48 (sv31.length:Int))))))).bind fun ((sv51,to52,c53):(List (List Int))×Int×(List (ByteArray×Int)))=>((appO r33 [(Qo.mk i14 x37 to52)]).bind fun x54=>some (sv51,x54,c53))))))))).bind fun ((sv56,r57,c58):(List (List Int))×(List Qo)×(List (ByteArray×Int)))=>k35 (sv56,(IntKind.wrap .i64 (x32+1)),r57,c58)) else some (sv31,r33,c34))) fuel (sv13,0,r19,c20)).bind fun ((sv59,r60,c61):(List (List Int))×(List Qo)×(List (ByteArray×Int)))=>(if ((sv59.length:Int)>4096) then some ((Qd.mk [] 0 [] []),[],3) else k21 (sv59,(IntKind.wrap .i64 (i14+1)),c15,c16,c17,r30,r60,c61)))) else some ((Qd.mk x7.kept_ (sv13.length:Int) r18 r19),sv13,0))) fuel ([x10],0,[],[],[],[],[],(setM ([]:List (ByteArray×Int)) x12 0))))))))
def Qmg (P:Program) (c:Nat) (f:(List Qi)→(List Int)→Option ((List Qi))):Prop:=∀ l1 xv2 r,f l1 xv2=some r→∀ M nb,ACalls P c [(Qkp l1),(l_ xv2)] M nb (Qc6 r) M nb
def Qr3:CFn:=⟨2,23,[.t 4],sg [ot 4 .mov [.c (.nils 2)]] (sg [ot 5 .mov [.c (.nils 2)]] (.seq (sg [oM 8 1,oE 9 8,oC 10 0] (.block 0 (.loop [19] (sg [oB 11 .lss (.t 10) (.t 9)] (.seq (.cond (.t 11) .skip (.exit 0)) (.seq (.block 1 (sg [oI 12 1 8 10,oL 13 12,oM 7 13] (rg [oT 14 5,oM 15 0,oM 16 7,oI 17 2 15 16,oJ 18 2 17,oo 19 (.bslice 2 1 [.d (.int .i64 0),.d (.int .i64 0)] [0]) [.t 18],oA 20 2 16 14 19,oT 5 20]))) (rg [oB 21 .add (.t 10) (cI 1),oM 10 21]))))))) (sg [oT 22 5,oT 4 22] .ret)))⟩
def Qe9 (fuel:Nat) (l1:(List Qi)) (xv2:(List Int)):Option ((List Qi)) :=
  ((Qc0 (fun k5 ((ov3,x4):(List Qi)×Int)=>(if (x4<(xv2.length:Int)) then ((getO xv2 x4).bind fun x7=>((getO l1 x7).bind fun x9=>((appO ov3 [x9]).bind fun x11=>k5 (x11,(IntKind.wrap .i64 (x4+1)))))) else some ov3)) fuel ([],0)).bind fun (ov13:List Qi)=>some ov13)
def Qnr (P:Program) (c:Nat) (f:(List Qq)→Qd→Option (Qdh×Int)):Prop:=∀ ev1 a2 r,f ev1 a2=some r→∀ M nb,ACalls P c [(Qj ev1),(Qbm a2)] M nb (.tup [(Qwm r.1),(i_ r.2)]) M nb
def Qtb:CFn:=⟨2,55,[.cell 4 true 5,.t 5],sg [oo 3 (.box 4) [.t 1],oo 4 (.alloc [.nils 1,.d (.int .i64 0),.nils 1,.nils 3,.nils 1]) [],oC 5 0] (sg [oM 15 0,oJ 16 4 3,oK 17 42 [.t 15,.t 16],oM 14 17,oX 18 0 14,ot 19 (.extract 1) [.t 14],oX 20 2 14,oo 6 (.alloc [.nils 1,.d (.int .i64 0),.nils 1,.nils 3]) [],oS 4 6 18,oT 7 19,oM 8 20] (.seq (sg [oM 21 8,oB 22 .neq (.t 21) (cI 0)] (.cond (.t 22) (sg [oo 23 (.build [.nils 1,.d (.int .i64 0),.nils 1,.nils 3,.nils 1] []) [],oM 24 8,oS 5 4 23,oM 5 24] .ret) .skip)) (.seq (.region [oJ 26 4 6,oM 27 0,oK 28 44 [.t 27],oK 29 43 [.t 26,.t 28],oM 25 29,oX 30 0 25,ot 31 (.extract 1) [.t 25],oX 32 2 25,oo 9 (.alloc [.nils 1,.d (.int .i64 0),.nils 1,.nils 3]) [],oS 4 9 30,oT 10 31,oM 8 32] 536870922 []) (.seq (sg [oM 33 8,oB 34 .neq (.t 33) (cI 0)] (.cond (.t 34) (sg [oo 35 (.build [.nils 1,.d (.int .i64 0),.nils 1,.nils 3,.nils 1] []) [],oM 36 8,oS 5 4 35,oM 5 36] .ret) .skip)) (sg [oJ 37 4 9,oo 38 (.build [.nils 1,.d (.int .i64 0),.nils 1,.nils 3,.nils 1] [(0,4)]) [.t 37],oo 11 (.alloc [.nils 1,.d (.int .i64 0),.nils 1,.nils 3,.nils 1]) [],oS 5 11 38] (.seq (sg [oM 39 10,oE 40 39,oC 41 0] (.block 0 (.loop [50] (sg [oB 42 .lss (.t 41) (.t 40)] (.seq (.cond (.t 42) .skip (.exit 0)) (.seq (.block 1 (sg [oI 43 1 39 41,oL 44 43,oT 13 44] (.region [oF 45 4 11,oo 46 .loadT [.t 45],oM 47 7,oM 48 13,oK 49 45 [.t 47,.t 48],oo 50 (.bslice 1 1 [.nils 2] [0]) [.t 49],oA 51 1 24 46 50,oF 52 4 11,oS 1 52 51] 2 []))) (rg [oB 53 .add (.t 41) (cI 1),oM 41 53]))))))) (sg [oJ 54 5 11,oS 5 4 54,oC 5 0] .ret)))))))⟩
def Qfp (Qfn:(List Qq)→Qd→Option (Qd×(List Qi)×Int)) (Qee:Qd→(List Int)→Option (Qd×(List (List Int))×Int)) (Qdq:(List Qq)→Option ((List Int))) (Qe9:(List Qi)→(List Int)→Option ((List Qi))) (fuel:Nat) (ev1:(List Qq)) (a2:Qd):Option (Qdh×Int) :=
  ((Qfn ev1 a2).bind fun (r4,r5,r6)=>(if (r6 != 0) then some ((Qdh.mk (Qd.mk [] 0 [] []) []),r6) else ((Qdq ev1).bind fun x9=>((Qee r4 x9).bind fun (r11,r12,r13)=>(if (r13 != 0) then some ((Qdh.mk (Qd.mk [] 0 [] []) []),r13) else ((Qc0 (fun k21 ((x15,c16,c17,c18,c19,d20):Int×(List Int)×(List Int)×(List Qo)×(List (List Qi))×(List (List Qi)))=>(if (x15<(r12.length:Int)) then ((getO r12 x15).bind fun x23=>((Qe9 r5 x23).bind fun x26=>((appO d20 [x26]).bind fun x27=>k21 ((IntKind.wrap .i64 (x15+1)),c16,c17,c18,c19,x27)))) else some (c16,c17,c18,c19,d20))) fuel (0,[],[],[],[],[])).bind fun ((c29,c30,c31,c32,d33):(List Int)×(List Int)×(List Qo)×(List (List Qi))×(List (List Qi)))=>some ((Qdh.mk r11 d33),0)))))))
def Qoy (P:Program) (c:Nat) (f:Qd→Option ((List (Qb×Int)))):Prop:=∀ a1 r,f a1=some r→∀ M nb,ACalls P c [(Qbm a1)] M nb (.d (mq0 r)) M nb
def Qve:CFn:=⟨1,24,[.t 2],sg [oo 1 (.box 4) [.t 0],oo 2 .mov [.c (.und)]] (sg [oo 6 .mkmap [],oM 3 6] (.seq (sg [oF 7 3 1,oL 8 7,oE 9 8,oC 10 0] (.block 0 (.loop [5] (sg [oB 11 .lss (.t 10) (.t 9)] (.seq (.cond (.t 11) .skip (.exit 0)) (.seq (.block 1 (sg [oI 12 3 8 10,oJ 13 3 12,oo 5 (.alloc [.d (.int .i64 0),.d (.int .i64 0),.d (.int .i64 0)]) [],oU 3 5 13] (rg [oM 14 3,oF 15 0 5,oL 16 15,oF 17 1 5,oL 18 17,oo 19 (.build [.d (.int .i64 0),.d (.int .i64 0)] [(0,1),(1,1)]) [.t 16,.t 18],oF 20 2 5,oL 21 20,⟨none,.mapset (.st [.int .i64,.int .i64]),[.t 14,.t 19,.t 21],false,none⟩]))) (rg [oB 22 .add (.t 10) (cI 1),oM 10 22]))))))) (sg [oM 23 3,oM 2 23] .ret)))⟩
def Qfd (fuel:Nat) (a1:Qd):Option ((List (Qb×Int))) :=
  ((Qc0 (fun k4 ((x2,c3):Int×(List (Qb×Int)))=>(if (x2<(a1.zJ.length:Int)) then ((getO a1.zJ x2).bind fun x6=>k4 ((IntKind.wrap .i64 (x2+1)),(setM c3 (Qb.mk x6.From x6.Event) x6.To))) else some c3)) fuel (0,[])).bind fun (c8:List (Qb×Int))=>some c8)
def Qns (P:Program) (c:Nat) (f:Int→Option Bool):Prop:=∀ cv1 r,f cv1=some r→∀ M nb,ACalls P c [(i_ cv1)] M nb (b_ r) M nb
def Qtc:CFn:=⟨1,9,[.t 2],sg [oo 2 .mov [.c (.d (.bool false))]] (sg [oM 3 0,oB 4 .lss (.t 3) (cI 1),oM 5 4,g0 5 (oM 6 0),g0 5 (oB 7 .gtr (.t 6) (cI 4)),oQ 8 5 7,oM 2 8] .ret)⟩
def Qfq (cv1:Int):Option Bool :=
  (if (cv1<1) then some true else some (decide (cv1>4)))
end Go.Abs
end
