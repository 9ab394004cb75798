/-
  Part 7 of the proof: see the last text.
-/
import Derived.Test.YtjoeogboieenlaaGreatDoorP6
set_option linter.unusedVariables false
set_option linter.unusedSimpArgs false
set_option linter.unusedSectionVars false
section
namespace Go.Abs
universe u
open Go
section
variable {κ α:Type} [BEq κ]
abbrev ownE (sz:Nat) (e:α→List D) (x:List α):V:=.own sz (x.map e)
def mapH (ek:κ→V) (sz:Nat) (e:α→List D) (k:κ):Nat→List (κ×List α)→List (V×V×Nat)
 | _,[]=>[]
 | i,(k',v)::m=>if k==k' then (ek k',.d (.lst sz (v.map e)),i)::mapE ek (ownE sz e) (i+1) m else (ek k',ownE sz e v,i)::mapH ek sz e k (i+1) m
abbrev takH (sz:Nat) (e:α→List D) (m:List (κ×List α)) (k:κ):V:=if hasM m k then .own sz ((getM m k []).map e) else .nils sz
variable {ek:κ→V} {sz:Nat} {e:α→List D}
theorem Qbaq {ev:α→V}:∀ {n i:Nat} (m:List (κ×α)),n≤i→upM n (mapE ek ev i m)=true
 | _,_,[],_=>rfl
 | n,i,_::m,h=>by
  simp only [mapE,upM,decide_eq_true h,Bool.true_and];exact Qbaq m (Nat.le_refl _)
theorem Q2k {k:κ}:∀ {i:Nat} {m:List (κ×List α)},hasM m k=false→mapH ek sz e k i m=mapE ek (ownE sz e) i m
 | _,[],_=>rfl
 | i,(k',v)::m,h=>by
  simp only [hasM,List.any_cons,Bool.or_eq_false_iff] at h;simp only [mapH,mapE,h.1,Bool.false_eq_true,if_false];rw [Q2k (m:=m) h.2]
theorem Q7k {k:κ}:∀ {i:Nat} {m:List (κ×List α)},hasM m k=true→∃ x,(mapE ek (ownE sz e) i m)[idxS m k]? = some x∧modM x.1 (.d (.lst sz ((getM m k []).map e))) (idxS m k) (mapE ek (ownE sz e) i m)=mapH ek sz e k i m
 | _,[],h=>by cases h
 | i,(k',v)::m,h=>by
  simp only [hasM,List.any_cons] at h;simp only [idxS,mapE,mapH,getM];cases hb:(k==k') with
  | true=>exact ⟨_,rfl,by simp [modM]⟩
  | false =>
   rw [hb] at h;obtain ⟨x,h1,h2⟩:=Q7k (i:=i+1) (m:=m) (k:=k) (by simpa [hasM] using h);refine ⟨x,by simpa using h1,?_⟩;simp only [Bool.false_eq_true,if_false,modM,h2]
theorem Qbar {k:κ} {kd:MK} (hk:∀ a,kd.ok (ek a)=true):∀ (i:Nat) (m:List (κ×List α)),kd.all (mapH ek sz e k i m)=true
 | _,[]=>rfl
 | i,(k',v)::m=>by
  simp only [mapH];have h1:=Qow (ev:=ownE sz e) hk (i+1) m;have h2:=Qbar (k:=k) hk (i+1) m;simp only [MK.all] at *
  split<;>simp [hk,h1,h2]
theorem Q7l (hs:∀ a b,Qgd (ek a) (ek b)=(a==b)) {k:κ}:∀ (i:Nat) (m:List (κ×List α)),Qg4 (ek k) (mapH ek sz e k i m)=if hasM m k then some (idxS m k,.d (.lst sz ((getM m k []).map e))) else none
 | _,[]=>rfl
 | i,(k',v)::m=>by
  simp only [mapH,Qng,idxS,getM];by_cases hb:(k==k')=true
  ·simp [Qg4,hs,hb]
  ·simp only [hb,Bool.false_eq_true,if_false,Qg4,hs,Bool.false_or,Q7l hs (i+1) m];by_cases hq:hasM m k=true
   ·rw [if_pos hq,if_pos hq];rfl
   ·rw [if_neg hq,if_neg hq];rfl
theorem Qbas {k:κ} {v:List α}:∀ (i:Nat) {m:List (κ×List α)},hasM m k=true→modM (ek k) (ownE sz e v) (idxS m k) (mapH ek sz e k i m)=mapE ek (ownE sz e) i (setM m k v)
 | _,[],h=>by cases h
 | i,(k',v')::m,h=>by
  simp only [hasM,List.any_cons] at h;simp only [idxS,setM,mapH];cases hb:(k==k') with
  | true=>simp [modM,mapE]
  | false =>
   rw [hb] at h;simp only [Bool.false_eq_true,if_false,modM,mapE];rw [Qbas (i+1) (by simpa [hasM] using h)]
variable {Γ:Env} {pc d nb:Nat} {os:List COp} {E:List (Nat×V)} {M M' M0:Mem} {L:List (Nat×Bx)} {Q:St→Prop} {gd:Option (Nat×Bool)} {a b c:Arg} {m:List (κ×List α)}
section
variable (hs:∀ a b,Qgd (ek a) (ek b)=(a==b)) {kd:MK} (hk:∀ a,kd.ok (ek a)=true)
include hs hk
theorem Rn.lookupT {t:Nat} {z:V} {k:κ} (hz:z = .nils sz) (hw:Wn E gd) (ha:a.val (look E) = .mp (Γ.n0+t)) (hb:(b.val (look E)).dem=ek k) (hM:Qbx L t=some (.mp (mapE ek (ownE sz e) 0 m) m.length))
  (h:Rn Γ pc os ⟨look ((d,takH sz e m k)::E),Qi Γ.n0 ((t,.mp (mapH ek sz e k 0 m) m.length)::L) M0,nb⟩ Q):Rn Γ pc (⟨some d,.lookupT kd z,[a,b],false,gd⟩::os) ⟨look E,Qi Γ.n0 L M0,nb⟩ Q:=by
 subst hz;refine Rn.k hw rfl rfl ?_ h;simp only [List.map_cons,List.map_nil,V.dems,ha,hb,V.dem,Qf,Qca hM,hk,Qow hk,Qbaq m (Nat.le_refl _),Bool.and_self,if_true,Qnh hs 0 m []];rw [← Qet];cases hh:hasM m k with
 | true =>
  obtain ⟨x,h1,h2⟩:=Q7k (ek:=ek) (sz:=sz) (e:=e) (i:=0) hh;simp only [if_true,h1,Option.map_some,takH,hh,h2]
 | false =>
  simp only [Bool.false_eq_true,if_false,takH,hh,Q2k hh];have:(Qi Γ.n0 L M0).put (Γ.n0+t) (.mp (mapE ek (ownE sz e) 0 m) m.length)=Qi Γ.n0 L M0:=by
   funext j;simp only [Mem.put];split
   ·rename_i hj;subst hj;exact (Qca hM).symm
   ·rfl
  rw [this];rfl
theorem Rn.lookupO {k0:Nat} {z:V} {k:κ} (hz:z = .d (.lst sz [])) (hw:Wn E gd) (ha:a.val (look E) = .mp k0) (hb:(b.val (look E)).dem=ek k) (hM:M k0=some (.mp (mapE ek (ownE sz e) 0 m) m.length))
  (h:Rn Γ pc os ⟨look ((d,.d (.lst sz ((getM m k []).map e)))::E),M,nb⟩ Q):Rn Γ pc (⟨some d,.lookup kd false z,[a,b],false,gd⟩::os) ⟨look E,M,nb⟩ Q:=by
 subst hz;refine Rn.k hw rfl rfl ?_ h;simp only [List.map_cons,List.map_nil,V.dems,ha,hb,V.dem,Qf,hM,hk,Qow hk,Bool.and_self,if_true,Qnh hs 0 m []];cases hh:hasM m k with
 | true=>simp [V.mv,V.dem]
 | false =>
  have:getM m k ([]:List α)=[]:=by
   clear hM h
   induction m with
   | nil=>rfl
   | cons p m ih =>
    simp only [hasM,List.any_cons,Bool.or_eq_false_iff] at hh;simp only [getM,hh.1,Bool.false_eq_true,if_false];exact ih hh.2
  simp [this,V.dat]
theorem Rn.mapsetT {t u:Nat} {k:κ} {v:List α} (hw:Wn E gd) (ha:a.val (look E) = .mp (Γ.n0+t)) (hb:b.val (look E)=ek k) (hc:look E u = .own sz (v.map e)) (hM:Qbx L t=some (.mp (mapH ek sz e k 0 m) m.length))
  (h:Rn Γ pc os ⟨look ((u,.d (.lst sz (v.map e)))::E),Qi Γ.n0 ((t,.mp (mapE ek (ownE sz e) 0 (setM m k v)) (setM m k v).length)::L) M0,nb⟩ Q):Rn Γ pc (⟨none,.mapsetT kd,[a,b,.t u],true,gd⟩::os) ⟨look E,Qi Γ.n0 L M0,nb⟩ Q:=by
 refine Rn.cons ?_;unfold COp.run;rw [hw.wanted];have hm:[a,b,Arg.t u].map (fun x=>x.val (look E))=[.mp (Γ.n0+t),ek k,.own sz (v.map e)]:=by
  simp only [List.map_cons,List.map_nil,ha,hb];rw [show (Arg.t u).val (look E)=_ from hc]
 have hst:Qf Γ.n0 (Γ.n0+0) (.mapsetT kd) [.mp (Γ.n0+t),ek k,.own sz (v.map e)] (Qi Γ.n0 L M0)=some (.und,Qi Γ.n0 ((t,.mp (mapE ek (ownE sz e) 0 (setM m k v)) (setM m k v).length)::L) M0):=by
  simp only [Qf,Qca hM,hk,Qbar hk,Bool.and_self,if_true,Q7l hs];rw [← Qet];cases hh:hasM m k with
  | true=>simp only [if_true];rw [Qbas 0 hh,Qs8 hh]
  | false =>
   simp only [Bool.false_eq_true,if_false];rw [Qye hh,Qs7,Q2k hh];simp [mapE]
 simp only [K.isCall,K.isNil,Bool.false_eq_true,if_false,COp.step,COp.xs,if_true,Option.getD_none,hm,hst,Q9];have hsl:Q5 (look E) [a,b,Arg.t u] (Qb2 (.mapsetT kd) [.mp (Γ.n0+t),ek k,.own sz (v.map e)])=look ((u,.d (.lst sz (v.map e)))::E):=by
  simp only [Qb2,Q5,V.dem];have put_same' : ∀ (x:Arg) (v:V),x.val (look E)=v→x.putTo (look E) v=look E:=by
   intro x v hv;cases x with
   | c _=>rfl
   | t i =>
    funext j;simp only [Arg.putTo,Sl.put];split
    ·rename_i hj;subst hj;exact hv.symm
    ·rfl
  rw [put_same' a _ ha,put_same' b _ hb];exact Qdf E u _
 rw [hsl];exact h
end
theorem Rn.appH {t bytes:Nat} {k:κ} {ys zs:List α} {src:V} (hw:Wn E gd) (ha:look E t=takH sz e m k) (hb:b.val (look E)=src) (hf:src.dem=src) (hss:Qgk M sz src=some (ys.map e)) (hx:appO (getM m k []) ys=some zs) (hbd:(Nat.ble bytes 128&&Nat.ble 1 sz)=true)
  (h:Rn Γ pc os ⟨look ((d,.own sz (zs.map e))::(t,(takH sz e m k).dem)::E),M,nb⟩ Q):Rn Γ pc (⟨some d,.append sz bytes,[.t t,b],true,gd⟩::os) ⟨look E,M,nb⟩ Q:=by
 unfold appO at hx;split at hx<;>cases hx;rename_i hl;simp only [Bool.and_eq_true] at hbd;have h1:=Nat.le_of_ble_eq_true hbd.1;have h2:0<sz:=Nat.le_of_ble_eq_true hbd.2;have hm:[Arg.t t,b].map (fun x=>x.val (look E))=[takH sz e m k,src]:=by
  simp only [List.map_cons,List.map_nil,hb];rw [show (Arg.t t).val (look E)=_ from ha]
 have hgn:hasM m k=false→getM m k ([]:List α)=[]:=by
  intro hh;clear ha h hm hl
  induction m with
  | nil=>rfl
  | cons p m ih =>
   simp only [hasM,List.any_cons,Bool.or_eq_false_iff] at hh;simp only [getM,hh.1,Bool.false_eq_true,if_false];exact ih hh.2
 refine Rn.kT hw rfl rfl (v:=.own sz ((getM m k []++ys).map e)) ?_ (fun i=>?_) h
 ·rw [hm];cases hh:hasM m k with
  | true=>simp [takH,hh,Qf,hss,h1,h2,hl]
  | false =>
   have:=hgn hh;rw [this] at hl ⊢;simp at hl;simp [takH,hh,Qf,hss,h1,h2,hl]
 ·rw [hm];simp only [Qb2,hf,Q5,show ∀ s v,(Arg.t t).putTo s v=s.put t v from fun _ _=>rfl];have hz:∀ s:Sl,b.val s=src→b.putTo s src=s:=by
   intro s hs;cases b with
   | c v=>rfl
   | t u =>
    simp only [Arg.val] at hs;funext i;simp only [Arg.putTo,Sl.put];split
    ·rename_i e;subst e;exact hs.symm
    ·rfl
  have hne:∀ u,b = .t u→u≠t∨src=(takH sz e m k).dem:=by
   rintro u rfl;by_cases hut:u=t
   ·subst hut;simp only [Arg.val] at hb;rw [ha] at hb;exact .inr (by rw [hb,hf])
   ·exact .inl hut
  rw [hz]
  ·rw [Qdf,Qdf]
  ·cases b with
   | c v=>exact hb
   | t u =>
    simp only [Arg.val,Sl.put];split
    ·rename_i hut;rcases hne u rfl with h|h
     ·exact absurd hut h
     ·exact h.symm
    ·exact hb
end
theorem PVf {β:Type} {g:β→List V} (h:∀ x,PV (g x)):∀ {xs:List β},PV (Q8 g xs)
 | []=>trivial
 | x::xs=>by
  rw [Qhw];exact go (h x) (PVf h)
where go:∀ {a b:List V},PV a→PV b→PV (a++b)
 | [],_,_,hb=>hb
 | _::_,_,ha,hb=>⟨ha.1,go ha.2 hb⟩
theorem Qbej {κ α:Type} {ek:κ→V} {sz:Nat} {e:α→List D} (hk:∀ k,Qg5 (ek k)=true) (h:∀ x,(e x).all Qr1=true):∀ {i:Nat} {m:List (κ×List α)},Qyd (mapE ek (ownE sz e) i m)
 | _,[]=>trivial
 | _,_::_=>⟨hk _,Qif h,Qbej hk h⟩
theorem sq {v:V}:WkV v v:=.same rfl
theorem sj {β:Type u} {x y:β} (h:some x=some y):y=x:=(Option.some.inj h).symm
def fl2 (off:Nat):V→Option (Nat×Nat)
 | .ptr k o=>some (k,o+off)
 | _=>none
def bi2 (op:BinOp) (tb:Bool):V→V→Option D
 | .d x,.d y=>binD op tb x y
 | _,_=>none
section
variable {Γ:Env} {pc:Nat} {os:List COp} {E:List (Nat×V)} {M:Mem} {nb:Nat} {Q:St→Prop} {d:Nat} {a b c:Arg}
theorem fP {k off o' : Nat} (ha:fl2 off (a.val (look E))=some (k,o')) (h:Rn Γ pc os ⟨look ((d,.ptr k o')::E),M,nb⟩ Q):Rn Γ pc (⟨some d,.fld off,[a],false,none⟩::os) ⟨look E,M,nb⟩ Q:=by
 cases hv:a.val (look E)<;>rw [hv] at ha<;>simp only [fl2,Option.some.injEq,Prod.mk.injEq,reduceCtorEq] at ha;obtain ⟨rfl,rfl⟩:=ha;exact Rn.fldP tv hv rfl h
theorem bN {op:BinOp} {tb:Bool} {z:D} (ha:bi2 op tb (a.val (look E)) (b.val (look E))=some z) (h:Rn Γ pc os ⟨look ((d,.d z)::E),M,nb⟩ Q):Rn Γ pc (⟨some d,.bin op tb,[a,b],false,none⟩::os) ⟨look E,M,nb⟩ Q:=by
 cases hv:a.val (look E)<;>cases hw:b.val (look E)<;>rw [hv,hw] at ha<;>simp only [bi2,reduceCtorEq] at ha;exact Rn.bin tv hv hw ha h
theorem sK {t:Nat} {k:K} {as:List Arg} {tk:Bool} {g:Nat} {q want:Bool} (h1:look E g = .d (.bool q)) (h2:q = !want) (h:Rn Γ pc os ⟨look ((t,.tup [])::E),M,nb⟩ Q):Rn Γ pc (⟨some t,k,as,tk,some (g,want)⟩::os) ⟨look E,M,nb⟩ Q:=Rn.sk (nw h1 h2) h
theorem pT (v:V) {q:Bool} (hq:c.val (look E) = .d (.bool q)) (hb:q=true) (ha:(a.val (look E)).dem=v) (h:Rn Γ pc os ⟨look ((d,v)::E),M,nb⟩ Q):Rn Γ pc (⟨some d,.pick,[c,a,b],false,none⟩::os) ⟨look E,M,nb⟩ Q:=Rn.pickT tv hq hb ha h
theorem pF (v:V) {q:Bool} (hq:c.val (look E) = .d (.bool q)) (hb:q=false) (ha:(b.val (look E)).dem=v) (h:Rn Γ pc os ⟨look ((d,v)::E),M,nb⟩ Q):Rn Γ pc (⟨some d,.pick,[c,a,b],false,none⟩::os) ⟨look E,M,nb⟩ Q:=Rn.pickF tv hq hb ha h
theorem mv (v:V) (ha:(a.val (look E)).dem=v) (h:Rn Γ pc os ⟨look ((d,v)::E),M,nb⟩ Q):Rn Γ pc (⟨some d,.mov,[a],false,none⟩::os) ⟨look E,M,nb⟩ Q:=Rn.mov tv ha h
end
end Go.Abs
end
section
namespace Go.Abs
open Go
variable {α:Type}
variable {Γ:Env} {pc d nb:Nat} {os:List COp} {E:List (Nat×V)} {M M0:Mem} {L:List (Nat×Bx)} {Q:St→Prop} {gd:Option (Nat×Bool)} {a b:Arg} {g:α→List V} {e:α→List D} {xs:List α} {sz:Nat}
end Go.Abs
end
section
namespace Go.Abs
open Go
variable {Γ:Env} {pc d nb sz:Nat} {os:List COp} {E:List (Nat×V)} {M M0:Mem} {Q:St→Prop} {L:List (Nat×Bx)} {a b c:Arg} {R:Type} {r:R} {gd:Option (Nat×Bool)} {α:Type} {e:α→List D} {xs:List α} {k:IntKind} {i:Int}
abbrev g1 (g:Nat) (o:COp):COp:=⟨o.dst,o.kind,o.args,o.tk,some (g,true)⟩
abbrev g0 (g:Nat) (o:COp):COp:=⟨o.dst,o.kind,o.args,o.tk,some (g,false)⟩
abbrev oI (d n a b:Nat):COp:=⟨some d,.idx n,[.t a,.t b],false,none⟩
abbrev oB (d:Nat) (p:BinOp) (a b:Arg):COp:=⟨some d,.bin p false,[a,b],false,none⟩
abbrev oN (d a:Nat):COp:=⟨some d,.nilchk,[.t a],false,none⟩
abbrev oE (d a:Nat):COp:=⟨some d,.len,[.t a],false,none⟩
abbrev oC (d:Nat) (n:Int):COp:=⟨some d,.mov,[cI n],false,none⟩
abbrev oJ (d n a:Nat):COp:=⟨some d,.load true n,[.t a],false,none⟩
abbrev oT (d a:Nat):COp:=⟨some d,.mov,[.t a],true,none⟩
abbrev oX (d i a:Nat):COp:=⟨some d,.extract i,[.t a],false,none⟩
abbrev oK (d f:Nat) (l:List Arg):COp:=⟨some d,.call f,l,false,none⟩
abbrev oP (d g x:Nat):COp:=⟨some d,.pick,[.t g,.t x,.c (.d (.bool false))],false,none⟩
abbrev oQ (d g x:Nat):COp:=⟨some d,.pick,[.t g,.c (.d (.bool true)),.t x],false,none⟩
abbrev oS (n a b:Nat):COp:=⟨none,.store n,[.t a,.t b],true,none⟩
abbrev oU (n a b:Nat):COp:=⟨none,.store n,[.t a,.t b],false,none⟩
abbrev oA (d n m a b:Nat):COp:=⟨some d,.append n m,[.t a,.t b],true,none⟩
abbrev sg (l:List COp) (c:CC):CC:=.seq (.region l 9 []) c
abbrev rg (l:List COp):CC:=.region l 9 []
inductive Ls:List V→List V→Prop
  | nil:Ls [] []
  | d {x:D} {l m:List V} (h:Ls l m):Ls (.d x::l) (.d x::m)
  | cons {x:V} {l m:List V} (h:Ls l m):Ls (x::l) (x::m)
theorem Ls.eq {l m:List V} (h:Ls l m):l=m:=by
  induction h with
  | nil=>rfl
  | d _ ih=>rw [ih]
  | cons _ ih=>rw [ih]
structure Fu (n:Nat):Prop where
  t:True
structure Hd (m:Nat) (q:Prop):Prop where
  g:q
theorem Fu.dn {n:Nat} (h:Fu (n+1)):Fu n:=⟨tv⟩
theorem zL {t off n:Nat} {ag:Bool} {cs:List V} {v w:V} (hw:Wn E gd) (ha:a.val (look E) = .ptr (Γ.n0+t) off) (hM:Qbx L t=some (.cells cs)) (hn:Nat.ble (off+n) cs.length=true) (hv:(if ag then some (.agg (V.dems ((cs.drop off).take n))) else (cs[off]?).map (·.dem))=some w) (he:w=v)
    (h:Rn Γ pc os ⟨look ((d,v)::E),Qi Γ.n0 L M0,nb⟩ Q):Rn Γ pc (⟨some d,.load ag n,[a],false,gd⟩::os) ⟨look E,Qi Γ.n0 L M0,nb⟩ Q:=Rn.load hw ha (Qca hM) hn (he ▸ hv) h
theorem zLb {k off n:Nat} {ag:Bool} {cs:List V} {v w:V} (hw:Wn E gd) (ha:a.val (look E) = .ptr k off) (hM:M k=some (.cells cs)) (hn:Nat.ble (off+n) cs.length=true) (hv:(if ag then some (.agg (V.dems ((cs.drop off).take n))) else (cs[off]?).map (·.dem))=some w) (he:w=v)
    (h:Rn Γ pc os ⟨look ((d,v)::E),M,nb⟩ Q):Rn Γ pc (⟨some d,.load ag n,[a],false,gd⟩::os) ⟨look E,M,nb⟩ Q:=Rn.load hw ha hM hn (he ▸ hv) h
theorem zI {g:α→Option R} (hw:Wn E gd) (ha:(a.val (look E)).dem = .d (.lst sz (xs.map e))) (hb:b.val (look E) = .d (.int k i)) (h:(getO xs i).bind g=some r)
    (K:∀ x,g x=some r→Rn Γ pc os ⟨look ((d,.cref (e x))::E),M,nb⟩ Q):Rn Γ pc (⟨some d,.idx sz,[a,b],false,gd⟩::os) ⟨look E,M,nb⟩ Q:=by
  obtain ⟨x,hx,h⟩:=bnd h
  exact Rn.idxD hw ha hb hx (K x h)
theorem zX {kk len cap:Nat} {g:Unit→Option R} (hw:Wn E gd) (ha:(a.val (look E)).dem = .sl sz kk 0 len cap) (hb:b.val (look E) = .d (.int k i)) (h:(inO len i).bind g=some r)
    (K:g ()=some r→Rn Γ pc os ⟨look ((d,.ptr kk (0+i.toNat*sz))::E),M,nb⟩ Q):Rn Γ pc (⟨some d,.idx sz,[a,b],false,gd⟩::os) ⟨look E,M,nb⟩ Q:=by
  obtain ⟨⟨⟩,hx,h⟩:=bnd h
  exact Rn.idxA hw ha hb hx (K h)
section
variable {t bytes:Nat} {ys:List α} {src:V} {g:List α→Option R}
theorem zA (hw:Wn E gd) (ha:look E t = .own sz (xs.map e)) (hb:b.val (look E)=src) (hf:src.dem=src) (h:(appO xs ys).bind g=some r) (hs:Qgk M sz src=some (ys.map e)) (hbd:(Nat.ble bytes 128&&Nat.ble 1 sz)=true)
    (K:∀ x,g x=some r→Rn Γ pc os ⟨look ((d,.own sz (x.map e))::(t,.d (.lst sz (xs.map e)))::E),M,nb⟩ Q):Rn Γ pc (⟨some d,.append sz bytes,[.t t,b],true,gd⟩::os) ⟨look E,M,nb⟩ Q:=by
  obtain ⟨x,hx,h⟩:=bnd h
  exact Rn.app hw ha hb hf hs hx hbd (K x h)
theorem zA0 {u:Nat} {cs:List V} (hw:Wn E gd) (ha:look E t = .sl sz (Γ.n0+u) 0 0 0) (hM:Qbx L u=some (.cells cs)) (hb:b.val (look E)=src) (hf:src.dem=src) (h:(appO ([]:List α) ys).bind g=some r) (hs:Qgk (Qi Γ.n0 L M0) sz src=some (ys.map e)) (hbd:(Nat.ble bytes 128&&Nat.ble 1 sz)=true)
    (K:∀ x,g x=some r→Rn Γ pc os ⟨look ((d,.own sz (x.map e))::E),Qi Γ.n0 L M0,nb⟩ Q):Rn Γ pc (⟨some d,.append sz bytes,[.t t,b],true,gd⟩::os) ⟨look E,Qi Γ.n0 L M0,nb⟩ Q:=by
  obtain ⟨x,hx,h⟩:=bnd h
  exact Rn.app0 hw ha hM hb hf hs hx hbd (K x h)
theorem zS2 {k' : IntKind} {lo hi:Int} (hw:Wn E gd) (ha:(a.val (look E)).dem = .d (.lst sz (xs.map e))) (hb:b.val (look E) = .d (.int k lo)) (hc:c.val (look E) = .d (.int k' hi)) (h:(slcO xs lo hi).bind g=some r) (K:∀ x,g x=some r→Rn Γ pc os ⟨look ((d,.d (.lst sz (x.map e)))::E),M,nb⟩ Q):Rn Γ pc (⟨some d,.slice sz true true,[a,b,c],false,gd⟩::os) ⟨look E,M,nb⟩ Q:=by
  obtain ⟨x,hx,h⟩:=bnd h
  exact Rn.slc2 hw ha hb hc hx (K x h)
theorem zSH {hi:Int} (hw:Wn E gd) (ha:(a.val (look E)).dem = .d (.lst sz (xs.map e))) (hb:b.val (look E) = .d (.int k hi)) (h:(slcO xs 0 hi).bind g=some r) (K:∀ x,g x=some r→Rn Γ pc os ⟨look ((d,.d (.lst sz (x.map e)))::E),M,nb⟩ Q):Rn Γ pc (⟨some d,.slice sz false true,[a,b],false,gd⟩::os) ⟨look E,M,nb⟩ Q:=by
  obtain ⟨x,hx,h⟩:=bnd h
  exact Rn.slcH hw ha hb hx (K x h)
end
section
variable {g:α→List V} {G:α→Option R} {f n:Nat} {ag:Bool} {kk:Nat}
theorem zLa (hw:Wn E gd) (ha:a.val (look E) = .ptr kk (0+i.toNat*sz+f)) (hM:M kk=some (.cells (Q8 g xs))) (h:(getO xs i).bind G=some r) (K:((∀ x,(g x).length=sz)∧Nat.ble (f+max n 1) sz=true)∧∀ x,G x=some r→∃ v w,(if ag then some (.agg (V.dems (((g x).drop f).take n))) else ((g x)[f]?).map (·.dem))=some w∧w=v∧Rn Γ pc os ⟨look ((d,v)::E),M,nb⟩ Q) :
    Rn Γ pc (⟨some d,.load ag n,[a],false,gd⟩::os) ⟨look E,M,nb⟩ Q:=by
  obtain ⟨x,hx,h⟩:=bnd h
  obtain ⟨v,w,h1,rfl,h2⟩:=K.2 x h
  exact Rn.loadA K.1.1 hw ha hM hx K.1.2 h1 h2
theorem zLa0 (hw:Wn E gd) (ha:a.val (look E) = .ptr kk (0+i.toNat*sz)) (hM:M kk=some (.cells (Q8 g xs))) (h:(getO xs i).bind G=some r) (K:((∀ x,(g x).length=sz)∧Nat.ble (0+max n 1) sz=true)∧∀ x,G x=some r→∃ v w,(if ag then some (.agg (V.dems (((g x).drop 0).take n))) else ((g x)[0]?).map (·.dem))=some w∧w=v∧Rn Γ pc os ⟨look ((d,v)::E),M,nb⟩ Q) :
    Rn Γ pc (⟨some d,.load ag n,[a],false,gd⟩::os) ⟨look E,M,nb⟩ Q:=zLa (f:=0) hw ha hM h K
end
theorem zK {X:Option V} {v w:V} (hv:X=some w) (he:w=v) (h:Rn Γ pc os ⟨look ((d,v)::E),M,nb⟩ Q):∃ v w,X=some w∧w=v∧Rn Γ pc os ⟨look ((d,v)::E),M,nb⟩ Q:=⟨v,w,hv,he,h⟩
theorem zBx {n:Nat} {v:V} {cs:List V} (hw:Wn E gd) (ha:(a.val (look E)).dem=v) (hv:Qeg v=true) (hc:Ls v.cells cs) (hn:Nat.beq cs.length n=true) (hf:(Qbx L d).isNone=true)
    (h:Rn Γ pc os ⟨look ((d,.ptr (Γ.n0+d) 0)::E),Qi Γ.n0 ((d,.cells cs)::L) M0,nb⟩ Q):Rn Γ pc (⟨some d,.box n,[a],false,gd⟩::os) ⟨look E,Qi Γ.n0 L M0,nb⟩ Q:=Rn.box hw ha hv hc.eq hn hf h
theorem zBs {n:Nat} {z:List V} {ps:List Nat} {as:List Arg} {xs cs:List V} (hw:Wn E gd) (ha:Ls (V.dems (as.map (·.val (look E)))) xs) (hf:(Qbx L d).isNone=true)
    (hc:(Nat.beq ps.length xs.length&&decide (0<sz)&&z.length==sz&&(ps.zip xs).all (fun (i,x)=>Qeg x&&x.cells.length==sz&&decide (i<n)))=true)
    (hcs:Ls (Qiq (rep n z) ((ps.zip xs).map fun (i,x)=>(i*sz,x.cells))) cs)
    (h:Rn Γ pc os ⟨look ((d,.sl sz (Γ.n0+d) 0 n n)::E),Qi Γ.n0 ((d,.cells cs)::L) M0,nb⟩ Q):Rn Γ pc (⟨some d,.bslice sz n z ps,as,false,gd⟩::os) ⟨look E,Qi Γ.n0 L M0,nb⟩ Q:=Rn.bslice hw ha.eq hf hc hcs.eq h
theorem zBd {as:List Arg} {z vs cs xs:List V} {ps:List (Nat×Nat)} (hw:Wn E gd) (ha:Ls (V.dems (as.map (·.val (look E)))) xs) (hk:Qf Γ.n0 (Γ.n0+d) (.build z ps) xs M=some (.agg vs,M)) (hc:Ls vs cs) (h:Rn Γ pc os ⟨look ((d,.agg cs)::E),M,nb⟩ Q):Rn Γ pc (⟨some d,.build z ps,as,false,gd⟩::os) ⟨look E,M,nb⟩ Q :=
  Rn.build hw (by rw [ha.eq,hk,hc.eq]) h
theorem zSt {t off n:Nat} {v:V} {cs cs' : List V} (hw:Wn E gd) (ha:a.val (look E) = .ptr (Γ.n0+t) off) (hb:(b.val (look E)).dem=v) (hv:Qeg v=true) (hM:Qbx L t=some (.cells cs))
    (hn:(Nat.beq v.cells.length n&&Nat.ble (off+n) cs.length)=true) (hcs:Ls (cs.take off++v.cells++cs.drop (off+n)) cs')
    (h:Rn Γ pc os ⟨look E,Qi Γ.n0 ((t,.cells cs')::L) M0,nb⟩ Q):Rn Γ pc (⟨none,.store n,[a,b],false,gd⟩::os) ⟨look E,Qi Γ.n0 L M0,nb⟩ Q:=Rn.store hw ha hb hv hM hn hcs.eq h
theorem zSO {t u off:Nat} {l:List (List D)} {cs cs' : List V} (hw:Wn E gd) (ha:a.val (look E) = .ptr (Γ.n0+t) off) (hb:look E u = .own sz l) (hM:Qbx L t=some (.cells cs))
    (hn:Nat.ble (off+1) cs.length=true) (hcs:Ls (cs.take off++[.own sz l]++cs.drop (off+1)) cs')
    (h:Rn Γ pc os ⟨look ((u,.d (.lst sz l))::E),Qi Γ.n0 ((t,.cells cs')::L) M0,nb⟩ Q):Rn Γ pc (⟨none,.store 1,[a,.t u],true,gd⟩::os) ⟨look E,Qi Γ.n0 L M0,nb⟩ Q:=Rn.storeO hw ha hb hM hn hcs.eq h
theorem zSD {t u off:Nat} {x:D} {cs cs' : List V} (hw:Wn E gd) (ha:a.val (look E) = .ptr (Γ.n0+t) off) (hb:look E u = .d x) (hM:Qbx L t=some (.cells cs))
    (hn:Nat.ble (off+1) cs.length=true) (hcs:Ls (cs.take off++[.d x]++cs.drop (off+1)) cs')
    (h:Rn Γ pc os ⟨look E,Qi Γ.n0 ((t,.cells cs')::L) M0,nb⟩ Q):Rn Γ pc (⟨none,.store 1,[a,.t u],true,gd⟩::os) ⟨look E,Qi Γ.n0 L M0,nb⟩ Q:=Rn.storeD hw ha hb hM hn hcs.eq h
theorem zST {t u off n:Nat} {v:V} {ds cs cs' : List V} (hw:Wn E gd) (ha:a.val (look E) = .ptr (Γ.n0+t) off) (hb:look E u=v) (hv:Qeg v=true) (hds:Ls v.topS.cells ds) (hM:Qbx L t=some (.cells cs))
    (hn:(Nat.beq ds.length n&&Nat.ble (off+n) cs.length)=true) (hcs:Ls (cs.take off++ds++cs.drop (off+n)) cs')
    (h:Rn Γ pc os ⟨look ((u,v.dem)::E),Qi Γ.n0 ((t,.cells cs')::L) M0,nb⟩ Q):Rn Γ pc (⟨none,.store n,[a,.t u],true,gd⟩::os) ⟨look E,Qi Γ.n0 L M0,nb⟩ Q:=Rn.storeT hw ha hb hv hds.eq hM hn hcs.eq h
theorem zLT {t off:Nat} {l:List (List D)} {cs cs' : List V} (hw:Wn E gd) (ha:a.val (look E) = .ptr (Γ.n0+t) off) (hM:Qbx L t=some (.cells cs)) (hx:cs[off]? = some (.own sz l)) (hcs:Ls (cs.set off (.d (.lst sz l))) cs')
    (h:Rn Γ pc os ⟨look ((d,.own sz l)::E),Qi Γ.n0 ((t,.cells cs')::L) M0,nb⟩ Q):Rn Γ pc (⟨some d,.loadT,[a],false,gd⟩::os) ⟨look E,Qi Γ.n0 L M0,nb⟩ Q:=Rn.loadT hw ha hM hx hcs.eq h
theorem zE {i:Nat} {vs:List V} {v w:V} (hw:Wn E gd) (ha:(a.val (look E)).dem = .tup vs) (hv:vs[i]? = some w) (he:w=v) (ht:v.top=v) (h:Rn Γ pc os ⟨look ((d,v)::E),M,nb⟩ Q):Rn Γ pc (⟨some d,.extract i,[a],false,gd⟩::os) ⟨look E,M,nb⟩ Q:=Rn.ext hw ha (he ▸ hv) ht h
inductive Dr (L' : List (Nat×Bx)):List (Nat×Bx)→List Nat→Prop
  | nil:Dr L' [] []
  | keep {k:Nat} {v:Bx} {l:List (Nat×Bx)} {s:List Nat} (h:(L'.any fun q=>Nat.beq k q.1)=true) (t:Dr L' l s):Dr L' ((k,v)::l) s
  | drop {k:Nat} {v:Bx} {l:List (Nat×Bx)} {s:List Nat} (t:Dr L' l s):Dr L' ((k,v)::l) (k::s)
theorem Qble {E E' : List (Nat×V)} {L L' : List (Nat×Bx)} {M0:Mem} {nb:Nat} {s:List Nat} (hs:Dr L' L s) (hE:KL Γ.n0 s (look E) E') (hL:KB Γ.n0 s L L')
    (hk:(L.all fun p=>s.any (Nat.beq p.1)||L'.any fun q=>Nat.beq p.1 q.1)=true):WeakSt Γ ⟨look E,Qi Γ.n0 L M0,nb⟩ ⟨look E',Qi Γ.n0 (bxs L') M0,nb⟩:=Qj5 _ hE hL hk
theorem exR {rs:List Res} {r' v:V} {σ:St} {M0:Mem} {n0:Nat} (h1:Qoh σ rs=some r') (h2:Wk r' v) (h3:v.on (There M0)) (h4:∀ k,k<n0→σ.M k=M0 k):∃ r',Qoh σ rs=some r'∧Wk r' v∧v.on (There M0)∧∀ k,k<n0→σ.M k=M0 k:=⟨r',h1,h2,h3,h4⟩
theorem KLn {n0:Nat} {s:List Nat} {f:Sl}:KL n0 s f []:=tv
theorem KLc {n0 t:Nat} {s:List Nat} {f:Sl} {v v0:V} {E:List (Nat×V)} (h0:f t=v0) (h:WkV (Qdi (Qjl n0 s) v0) v) (r:KL n0 s f E):KL n0 s f ((t,v)::E):=⟨h0 ▸ h,r⟩
theorem KBn {n0:Nat} {s:List Nat} {L:List (Nat×Bx)}:KB n0 s L []:=tv
theorem KBc {n0 t:Nat} {s:List Nat} {L L' : List (Nat×Bx)} {cs cs' : List V} (h:Qbx L t=some (.cells cs)) (h2:s.all (fun u=>!Nat.beq t u)=true) (h3:WkVs (cs.map (Qdi (Qjl n0 s))) cs') (r:KB n0 s L L'):KB n0 s L ((t,.cells cs')::L'):=⟨⟨cs,h,h2,h3⟩,r⟩
theorem KBm {n0 t c:Nat} {s:List Nat} {L L' : List (Nat×Bx)} {es:List (V×V×Nat)} (h:Qbx L t=some (.mp es c)) (h2:s.all (fun u=>!Nat.beq t u)=true) (r:KB n0 s L L'):KB n0 s L ((t,.mp es c)::L'):=⟨⟨h,h2⟩,r⟩
theorem v1 {p:Prop} (h:p:=by
  first
    | (apply kPtr;exact rfl)
    | (apply kSl;exact rfl)
    | (apply kMp;exact rfl)
    | exact sq
    | (apply WkV.dem';exact rfl)
    | exact WkV.nilsO _
    | exact WkV.nilsD _
    | (apply Qbkh;apply ltB hM;assumption)
    | (apply kSlB;apply ltB hM;assumption)
    | exact fToD
    | (apply kFun hM;assumption)
    | exact WkV.und _):p:=h
theorem vM {p:Prop} (h:p:=by repeat first|exact WkVs.nil|(apply WkVs.cons;exact v1)):p:=h
theorem vL {p:Prop} (h:p:=by repeat first|exact WkVs.nil|(apply WkVs.cons;first|exact v1|(apply WkV.agg;exact vM)|(apply WkV.tup;exact vM))):p:=h
theorem vK {p:Prop} (h:p:=by first
    | exact v1
    | (apply WkV.agg;exact vL)
    | (apply WkV.tup;exact vL)
    | (apply kClo;repeat first|exact Qbla|apply kgD|(apply Qblb;exact rfl)|(apply Qbks;apply ltB hM;assumption))):p:=h
theorem vS {p:Prop} (h:p:=by first
    | (apply WkVs.same;exact rfl)
    | exact Qbhw fun _=>rfl
    | exact Q89 (fun _=>rfl) rfl
    | exact Qbld fun _=>rfl
    | (apply Qblc;exact rfl;assumption)
    | exact vL):p:=h
theorem wk {p:Prop} (h:p:=by
  first
    | (show WeakSt _ (Qlc _ _ _) ⟨look _,Qi _ (bxs _) _,_⟩;apply Q37
       · repeat first|exact KLn|(apply KLc;(conv=>lhs;whnf);exact vK)
       · repeat first|exact KBn|(apply KBc;exact rfl;exact rfl;exact vS)|(apply KBm;exact rfl;exact rfl)
       · exact rfl)
    | (show WeakSt _ ⟨look _,Qi _ _ _,_⟩ ⟨look _,Qi _ (bxs _) _,_⟩;apply Qble;(repeat first|exact Dr.nil|(apply Dr.keep;exact rfl)|apply Dr.drop)
       · repeat first|exact KLn|(apply KLc;(conv=>lhs;whnf);exact vK)
       · repeat first|exact KBn|(apply KBc;exact rfl;exact rfl;exact vS)|(apply KBm;exact rfl;exact rfl)
       · exact rfl)
    | (show WkV _ _;exact vK)):p:=h
theorem Z (n m:Nat) {p q:Prop} (k:q) (f:Fu n→Hd m q→p:=by
  intro t k
  repeat (replace t:=Fu.dn t;first
        | (show Rn _ _ (_::_) _ _;first
          | (apply md;exact rfl)
          | (apply bN;exact rfl)
          | (apply fP;exact rfl)
          | (apply zL;(first|exact tv|(apply gw;exact rfl;first|assumption|exact rfl|exact nT (by assumption)|exact nF (by assumption)));exact rfl;exact rfl;exact rfl;exact rfl;(conv=>lhs;whnf))
          | (apply sK;exact rfl;(first|assumption|exact rfl|exact nT (by assumption)|exact nF (by assumption)))
          | (apply Rn.sk (nu rfl))
          | (apply pT;exact rfl;(first|assumption|exact rfl|exact nT (by assumption)|exact nF (by assumption));(conv=>lhs;whnf))
          | (apply pF;exact rfl;(first|assumption|exact rfl|exact nT (by assumption)|exact nF (by assumption));(conv=>lhs;whnf))
          | (apply mv;(conv=>lhs;whnf))
          | (apply Rn.mov;(first|exact tv|(apply gw;exact rfl;first|assumption|exact rfl|exact nT (by assumption)|exact nF (by assumption)));(conv=>lhs;whnf))
          | (apply Rn.movTF;(first|exact tv|(apply gw;exact rfl;first|assumption|exact rfl|exact nT (by assumption)|exact nF (by assumption)));(conv=>lhs;whnf);exact rfl)
          | (apply Rn.movTO;(first|exact tv|(apply gw;exact rfl;first|assumption|exact rfl|exact nT (by assumption)|exact nF (by assumption)));exact rfl)
          | (apply Rn.movTC;(first|exact tv|(apply gw;exact rfl;first|assumption|exact rfl|exact nT (by assumption)|exact nF (by assumption))))
          | (apply Rn.bin;(first|exact tv|(apply gw;exact rfl;first|assumption|exact rfl|exact nT (by assumption)|exact nF (by assumption)));exact rfl;exact rfl;exact rfl)
          | (apply Rn.nilchkP;(first|exact tv|(apply gw;exact rfl;first|assumption|exact rfl|exact nT (by assumption)|exact nF (by assumption)));exact rfl)
          | (apply Rn.fldP;(first|exact tv|(apply gw;exact rfl;first|assumption|exact rfl|exact nT (by assumption)|exact nF (by assumption)));exact rfl;exact rfl)
          | (apply Rn.fldC;(first|exact tv|(apply gw;exact rfl;first|assumption|exact rfl|exact nT (by assumption)|exact nF (by assumption)));exact rfl)
          | (apply Rn.lenD;(first|exact tv|(apply gw;exact rfl;first|assumption|exact rfl|exact nT (by assumption)|exact nF (by assumption)));exact rfl)
          | (apply Rn.lenA;(first|exact tv|(apply gw;exact rfl;first|assumption|exact rfl|exact nT (by assumption)|exact nF (by assumption)));exact rfl)
          | (apply Rn.loadC;(first|exact tv|(apply gw;exact rfl;first|assumption|exact rfl|exact nT (by assumption)|exact nF (by assumption)));exact rfl)
          | (apply Rn.loadCA;(first|exact tv|(apply gw;exact rfl;first|assumption|exact rfl|exact nT (by assumption)|exact nF (by assumption)));exact rfl;exact rfl;exact rfl)
          | (apply zI;(first|exact tv|(apply gw;exact rfl;first|assumption|exact rfl|exact nT (by assumption)|exact nF (by assumption)));exact rfl;exact rfl;exact h;(try clear h);intro y h)
          | (apply zX;(first|exact tv|(apply gw;exact rfl;first|assumption|exact rfl|exact nT (by assumption)|exact nF (by assumption)));exact rfl;exact rfl;exact h;(try clear h);intro h)
          | (apply zLa0;(first|exact tv|(apply gw;exact rfl;first|assumption|exact rfl|exact nT (by assumption)|exact nF (by assumption)));exact rfl;(first|(apply Qca;exact rfl)|(apply Qe8 hM;assumption));exact h;refine ⟨⟨fun _=>rfl,rfl⟩,?_⟩;(try clear h);intro y h;apply zK;exact rfl;(conv=>lhs;whnf))
          | (apply zLa;(first|exact tv|(apply gw;exact rfl;first|assumption|exact rfl|exact nT (by assumption)|exact nF (by assumption)));exact rfl;(first|(apply Qca;exact rfl)|(apply Qe8 hM;assumption));exact h;refine ⟨⟨fun _=>rfl,rfl⟩,?_⟩;(try clear h);intro y h;apply zK;exact rfl;(conv=>lhs;whnf))
          | (apply zA;(first|exact tv|(apply gw;exact rfl;first|assumption|exact rfl|exact nT (by assumption)|exact nF (by assumption)));exact rfl;exact rfl;exact rfl;exact h;(first|(apply Q2d;exact rfl;exact rfl;exact rfl)|exact Q7a|exact rfl);exact rfl;(try clear h);intro y h)
          | (apply zA0;(first|exact tv|(apply gw;exact rfl;first|assumption|exact rfl|exact nT (by assumption)|exact nF (by assumption)));exact rfl;exact rfl;exact rfl;exact rfl;exact h;(first|(apply Q2d;exact rfl;exact rfl;exact rfl)|exact Q7a|exact rfl);exact rfl;(try clear h);intro y h)
          | (apply zLb;(first|exact tv|(apply gw;exact rfl;first|assumption|exact rfl|exact nT (by assumption)|exact nF (by assumption)));exact rfl;(first|(apply Qca;exact rfl)|(apply Qe8 hM;assumption));exact rfl;exact rfl;(conv=>lhs;whnf))
          | (apply zBs;(first|exact tv|(apply gw;exact rfl;first|assumption|exact rfl|exact nT (by assumption)|exact nF (by assumption)));(repeat first|exact Ls.nil|apply Ls.d|apply Ls.cons);exact rfl;exact rfl;(repeat first|exact Ls.nil|apply Ls.d|apply Ls.cons))
          | (apply zE;(first|exact tv|(apply gw;exact rfl;first|assumption|exact rfl|exact nT (by assumption)|exact nF (by assumption)));exact rfl;exact rfl;(conv=>lhs;whnf);exact rfl)
          | (apply Rn.un;(first|exact tv|(apply gw;exact rfl;first|assumption|exact rfl|exact nT (by assumption)|exact nF (by assumption)));exact rfl;exact rfl)
          | (apply zSt;(first|exact tv|(apply gw;exact rfl;first|assumption|exact rfl|exact nT (by assumption)|exact nF (by assumption)));exact rfl;(conv=>lhs;whnf);exact rfl;exact rfl;exact rfl;(repeat first|exact Ls.nil|apply Ls.d|apply Ls.cons))
          | (apply zSO;(first|exact tv|(apply gw;exact rfl;first|assumption|exact rfl|exact nT (by assumption)|exact nF (by assumption)));exact rfl;exact rfl;exact rfl;exact rfl;(repeat first|exact Ls.nil|apply Ls.d|apply Ls.cons))
          | (apply zSD;(first|exact tv|(apply gw;exact rfl;first|assumption|exact rfl|exact nT (by assumption)|exact nF (by assumption)));exact rfl;exact rfl;exact rfl;exact rfl;(repeat first|exact Ls.nil|apply Ls.d|apply Ls.cons))
          | (apply zST;(first|exact tv|(apply gw;exact rfl;first|assumption|exact rfl|exact nT (by assumption)|exact nF (by assumption)));exact rfl;(conv=>lhs;whnf);exact rfl;(repeat first|exact Ls.nil|apply Ls.d|apply Ls.cons);exact rfl;exact rfl;(repeat first|exact Ls.nil|apply Ls.d|apply Ls.cons))
          | (apply zLT;(first|exact tv|(apply gw;exact rfl;first|assumption|exact rfl|exact nT (by assumption)|exact nF (by assumption)));exact rfl;exact rfl;exact rfl;(repeat first|exact Ls.nil|apply Ls.d|apply Ls.cons))
          | (apply zBx;(first|exact tv|(apply gw;exact rfl;first|assumption|exact rfl|exact nT (by assumption)|exact nF (by assumption)));(conv=>lhs;whnf);exact rfl;(repeat first|exact Ls.nil|apply Ls.d|apply Ls.cons);exact rfl;exact rfl)
          | (apply zBd;(first|exact tv|(apply gw;exact rfl;first|assumption|exact rfl|exact nT (by assumption)|exact nF (by assumption)));(repeat first|exact Ls.nil|apply Ls.d|apply Ls.cons);exact rfl;(repeat first|exact Ls.nil|apply Ls.d|apply Ls.cons))
          | (apply Rn.alloc;(first|exact tv|(apply gw;exact rfl;first|assumption|exact rfl|exact nT (by assumption)|exact nF (by assumption)));exact rfl)
          | (apply Rn.pickT;(first|exact tv|(apply gw;exact rfl;first|assumption|exact rfl|exact nT (by assumption)|exact nF (by assumption)));exact rfl;(first|assumption|exact rfl|exact nT (by assumption)|exact nF (by assumption));(conv=>lhs;whnf))
          | (apply Rn.pickF;(first|exact tv|(apply gw;exact rfl;first|assumption|exact rfl|exact nT (by assumption)|exact nF (by assumption)));exact rfl;(first|assumption|exact rfl|exact nT (by assumption)|exact nF (by assumption));(conv=>lhs;whnf))
          | (apply Rn.extTD;(first|exact tv|(apply gw;exact rfl;first|assumption|exact rfl|exact nT (by assumption)|exact nF (by assumption)));exact rfl;exact rfl;exact rfl)
          | (apply Rn.conv;(first|exact tv|(apply gw;exact rfl;first|assumption|exact rfl|exact nT (by assumption)|exact nF (by assumption)));exact rfl)
          | (apply zS2;(first|exact tv|(apply gw;exact rfl;first|assumption|exact rfl|exact nT (by assumption)|exact nF (by assumption)));exact rfl;exact rfl;exact rfl;exact h;(try clear h);intro y h)
          | (apply zSH;(first|exact tv|(apply gw;exact rfl;first|assumption|exact rfl|exact nT (by assumption)|exact nF (by assumption)));exact rfl;exact rfl;exact h;(try clear h);intro y h))
        | (show Rn _ _ _ _ _;first
          | refine Rn.nil ⟨rfl,?_⟩
          | refine Rn.nil ⟨by show Qv4 _ _=true;first|rfl|(simp [Qv4,Qlf,look,Bool.cond_eq_ite,Nat.beq_eq];done),?_⟩
          | apply Rn.nil)
        | apply Tr.seq
        | apply Tr.rgn
        | apply Tr.rgnD (by decide)
        | apply Tr.block
        | apply Tr.skip
        | apply Tr.ret
        | apply Tr.exit)
  first
    | exact (k:Hd 0 _).g
    | (have k:=(k:Hd 1 _);clear t;revert h;repeat revert y
       exact k.g)
    | exact ⟨_,h,wk⟩
    | (cases sj h
       first
        | exact wk
        | exact ⟨.inr rfl,_,rfl,fun _ _ _ _ h=>h,tv,mB⟩
        | (refine ⟨by first|exact .inr rfl|exact .inl rfl,?_⟩;apply exR
           · first|exact rfl|(apply Q85;exact rfl;exact rfl;exact rfl;exact rfl)|(apply res2<;>first|exact rfl|(apply Q85;exact rfl;exact rfl;exact rfl;exact rfl))|(apply res3<;>first|exact rfl|(apply Q85;exact rfl;exact rfl;exact rfl;exact rfl))|exact res0
           · first|exact fun _ _ _ _ h=>h|exact WkV.rd wk
           · repeat' first|exact tv|refine ⟨?_,?_⟩
           · exact mB)))
  : p:=f ⟨tv⟩ ⟨k⟩
section
variable {q:Arg} {x y:CC} {σ:St} {Q:Ex→St→Prop}
theorem cd {b:Bool} {A B:Option R} (h:(if b then A else B)=some r) (hb:q.val σ.s = .d (.bool b)) (hx:A=some r→Tr Γ x σ Q) (hy:B=some r→Tr Γ y σ Q):Tr Γ (.cond q x y) σ Q :=
  Tr.cond hb (fun e=>hx (bT e h)) (fun e=>hy (bF e h))
theorem ci {p:Prop} [Decidable p] {A B:Option R} (h:(if p then A else B)=some r) (hb:q.val σ.s = .d (.bool (decide p))) (hx:A=some r→Tr Γ x σ Q) (hy:B=some r→Tr Γ y σ Q):Tr Γ (.cond q x y) σ Q :=
  Tr.cond hb (fun e=>hx (ifT e h)) (fun e=>hy (ifF e h))
theorem bs {G:Prop} {b:Bool} {A B:Option R} (h:(if b then A else B)=some r) (hx:b=true→A=some r→G) (hy:b=false→B=some r→G):G :=
  Qbhs b (fun e=>hx e (bT e h)) (fun e=>hy e (bF e h))
theorem bi {G:Prop} {p:Prop} [Decidable p] {A B:Option R} (h:(if p then A else B)=some r) (hx:decide p=true→A=some r→G) (hy:decide p=false→B=some r→G):G :=
  Qbhs (decide p) (fun e=>hx e (ifT e h)) (fun e=>hy e (ifF e h))
theorem cu {X:Type} {A:Option X} {g:X→Option R} (h:A.bind g=some r) (mk:X→St) (hx:∀ z,A=some z→Tr Γ x σ (Qbi3 Γ mk z Q)) (hy:∀ z,g z=some r→Tr Γ y (mk z) Q):Tr Γ (.seq x y) σ Q:=Tr.cutB mk h hx hy
theorem lo {X:Type} {F:(X→Option R)→X→Option R} {n:Nat} {x0:X} {sites:List Nat} (h:Qbi F n x0=some r) (mk:X→St) (h0:WeakSt Γ (Qlc Γ.n0 sites σ) (mk x0))
    (body:∀ (rec' : X→Option R) y,F rec' y=some r→Tr Γ x (mk y) (Qbi2 Γ sites mk rec' r Q)):Tr Γ (.loop sites x) σ Q:=Tr.loop h h0 body
end
inductive Le (E:List (Nat×V)):List Nat→List (Nat×V)→Prop
  | nil:Le E [] []
  | cons {k:Nat} {v:V} {ks:List Nat} {l:List (Nat×V)} (h:look E k=v) (t:Le E ks l):Le E (k::ks) ((k,v)::l)
inductive Lb (L:List (Nat×Bx)):List Nat→List (Nat×Bx)→Prop
  | nil:Lb L [] []
  | cons {k:Nat} {v:Bx} {ks:List Nat} {l:List (Nat×Bx)} (h:Qbx L k=some v) (t:Lb L ks l):Lb L (k::ks) ((k,v)::l)
theorem ke {A B:Prop} (w:A∧B:=by
  constructor
  · repeat first|exact Le.nil|(apply Le.cons;(conv=>lhs;whnf))
  · repeat first|exact Lb.nil|(apply Lb.cons;exact rfl)):A∧B:=w
theorem wS (ks bs:List Nat) (dE:List (Nat×V)→List (Nat×V)) (dL:List (Nat×Bx)→List (Nat×Bx)) {E1:List (Nat×V)} {L1:List (Nat×Bx)} (w:Le E ks E1∧Lb L bs L1) (h:WeakSt Γ ⟨look E,Qi Γ.n0 L M,nb⟩ ⟨look (dE E1),Qi Γ.n0 (bxs (dL L1)) M,nb⟩):WeakSt Γ ⟨look E,Qi Γ.n0 L M,nb⟩ ⟨look (dE E1),Qi Γ.n0 (bxs (dL L1)) M,nb⟩:=h
section
variable {x y:CC} {Q:Ex→St→Prop} {X:Type} {E1:List (Nat×V)} {L1:List (Nat×Bx)}
theorem cw {A:Option X} {g:X→Option R} (h:A.bind g=some r) (ks bs:List Nat) (dE:X→List (Nat×V)→List (Nat×V)) (dL:X→List (Nat×Bx)→List (Nat×Bx)) (w:Le E ks E1∧Lb L bs L1)
    (hx:∀ z,A=some z→Tr Γ x ⟨look E,Qi Γ.n0 L M,nb⟩ (Qbi3 Γ (fun z=>⟨look (dE z E1),Qi Γ.n0 (bxs (dL z L1)) M,nb⟩) z Q)) (hy:∀ z,g z=some r→Tr Γ y ⟨look (dE z E1),Qi Γ.n0 (bxs (dL z L1)) M,nb⟩ Q):Tr Γ (.seq x y) ⟨look E,Qi Γ.n0 L M,nb⟩ Q:=Tr.cutB _ h hx hy
theorem lw {F:(X→Option R)→X→Option R} {n:Nat} {x0:X} {sites:List Nat} (h:Qbi F n x0=some r) (ks bs:List Nat) (dE:X→List (Nat×V)→List (Nat×V)) (dL:X→List (Nat×Bx)→List (Nat×Bx)) (w:Le E ks E1∧Lb L bs L1)
    (h0:WeakSt Γ (Qlc Γ.n0 sites ⟨look E,Qi Γ.n0 L M,nb⟩) ⟨look (dE x0 E1),Qi Γ.n0 (bxs (dL x0 L1)) M,nb⟩)
    (body:∀ (rec' : X→Option R) y,F rec' y=some r→Tr Γ x ⟨look (dE y E1),Qi Γ.n0 (bxs (dL y L1)) M,nb⟩ (Qbi2 Γ sites (fun y=>⟨look (dE y E1),Qi Γ.n0 (bxs (dL y L1)) M,nb⟩) rec' r Q)):Tr Γ (.loop sites x) ⟨look E,Qi Γ.n0 L M,nb⟩ Q:=Tr.loop h h0 body
end
theorem cl {X:Type} {g:X→Option R} {o:Option X} {f:FuncId} {as:List Arg} {args:List V} {w:X→V} (H:∀ x,o=some x→∀ M nb,ACalls Γ.P f args M nb (w x) M nb) (h:o.bind g=some r)
    (K:(Wn E gd∧(one (pcOf pc)=true→∀ k,nb≤k→M k=none)∧V.dems (as.map (·.val (look E)))=args)∧∀ x,g x=some r→Rn Γ pc os ⟨look ((d,w x)::E),M,nb⟩ Q):Rn Γ pc (⟨some d,.call f,as,false,gd⟩::os) ⟨look E,M,nb⟩ Q:=by
  obtain ⟨x,hx,h⟩:=bnd h
  exact Rn.call K.1.1 K.1.2.2 (H x hx) K.1.2.1 (K.2 x h)
theorem cm {X:Type} {g:X→Option R} {o:Option X} {f:FuncId} {as:List Arg} {args:List V} {w:X→V} (h:o.bind g=some r) (H:∀ x,o=some x→∀ M2 nb2,nb≤nb2→Ext M M2→ACalls Γ.P f args M2 nb2 (w x) M2 nb2) (hp:(Nat.ble (pcOf pc) 1||Nat.ble 10 (pcOf pc))=true)
    (K:(Wn E gd∧(one (pcOf pc)=true→∀ k,nb≤k→M k=none)∧V.dems (as.map (·.val (look E)))=args)∧∀ x,g x=some r→Rn Γ pc os ⟨look ((d,w x)::E),M,nb⟩ Q):Rn Γ pc (⟨some d,.call f,as,false,gd⟩::os) ⟨look E,M,nb⟩ Q:=by
  obtain ⟨x,hx,h⟩:=bnd h
  exact Rn.callM K.1.1 K.1.2.2 (H x hx) hp K.1.2.1 (K.2 x h)
theorem ini {cc:CC} {args:List V} {Q:Ex→St→Prop} (k:Tr Γ cc ⟨look ((List.range' 0 args.length).zip args),M,nb⟩ Q):Tr Γ cc ⟨Qpf args,M,nb⟩ Q:=Tr.init _ rfl k
theorem cq {A B C p:Prop} (k:p) (w:A∧B∧C:=by refine ⟨?_,?_,rfl⟩;(first|exact tv|(apply gw;exact rfl;first|assumption|exact rfl|exact nT (by assumption)|exact nF (by assumption)));first|exact pc0|exact pc9|exact pc2|exact fun _=>Qbht hM rfl):(A∧B∧C)∧p:=⟨w,k⟩
theorem Y {p:Prop} (h:p:=by exact Z 99 2 tv):p:=h
end Go.Abs
end
section
namespace Go.Abs
open Go
variable {Γ:Env} {pc d nb sz:Nat} {os:List COp} {E:List (Nat×V)} {M M0 M1 M2:Mem} {Q:St→Prop} {L:List (Nat×Bx)} {a b c:Arg} {gd:Option (Nat×Bool)} {α:Type}
theorem Rn.callO {f i t:Nat} {as:List Arg} {args args' : List V} {r:V} (hw:Wn E gd) (ht:Qsq i as=some t) (ha:Qw3 (look E) i as=args) (hk:WkVs args args') (hC:∀ M nb,ACalls Γ.P f args' M nb r M nb)
  (h:Rn Γ 9 os ⟨look ((d,r)::(t,(look E t).dem)::E),M,nb⟩ Q):Rn Γ 9 (⟨some d,.callO f i,as,false,gd⟩::os) ⟨look E,M,nb⟩ Q:=by
 refine Rn.cons ?_;unfold COp.run;rw [hw.wanted];simp only [show (K.callO f i).isCall=false from rfl,show (K.callO f i).isNil=true from rfl,Bool.false_eq_true,if_false,if_true,COp.runN,ha];refine ⟨rfl,r,M,nb,(hC _ _).weakO hk,fun _ h=>h,fun _ _ _ _=>.inl rfl,?_⟩;rw [show Q9 (Qsr (look E) (Qsq i as)) (some d) r=look ((d,r)::(t,(look E t).dem)::E) from by
  rw [ht];show Q9 ((look E).put t (look E t).dem) (some d) r=_;rw [show (look E).put t (look E t).dem=look ((t,(look E t).dem)::E) from Qdf E t _];exact Qdf _ d r]
 exact h
def chrO (s:ByteArray) (i:Int):Option Int:=if hi:0≤i∧i<s.size then some (s[i.toNat]'(by omega)).toNat else none
theorem Rn.idxs {k:IntKind} {s:ByteArray} {i x:Int} (hw:Wn E gd) (ha:a.val (look E) = .d (.str s)) (hb:b.val (look E) = .d (.int k i)) (hx:chrO s i=some x) (h:Rn Γ pc os ⟨look ((d,.d (.int .u8 x))::E),M,nb⟩ Q) :
  Rn Γ pc (⟨some d,.idxs,[a,b],false,gd⟩::os) ⟨look E,M,nb⟩ Q:=by
 refine Rn.k hw rfl rfl ?_ h;unfold chrO at hx;split at hx<;>cases hx;rename_i hi;simp only [List.map_cons,List.map_nil,V.dems,ha,hb,V.dem,Qf];rw [dif_pos hi]
theorem Q7m:∀ xs:List Int,Q6h (xs.map (eI .u8))=some xs
 | []=>rfl
 | x::xs=>by
  rw [List.map_cons];show (Q6h (xs.map (eI .u8))).map (x :: ·)=_;rw [Q7m xs];rfl
theorem Rn.bstr {xs:List Int} (hw:Wn E gd) (ha:(a.val (look E)).dem = .d (.lst 1 (xs.map (eI .u8)))) (h:Rn Γ pc os ⟨look ((d,.d (.str (strB xs)))::E),M,nb⟩ Q):Rn Γ pc (⟨some d,.bstr,[a],false,gd⟩::os) ⟨look E,M,nb⟩ Q:=by
 refine Rn.k hw rfl rfl ?_ h;simp only [List.map_cons,List.map_nil,V.dems,ha,Qf,Q7m,Option.map_some]
theorem Rn.blit {n:Nat} {z:List V} {ps:List Nat} {as:List Arg} {xs:List V} {ds:List D} {l:List (List D)} (hw:Wn E gd) (ha:V.dems (as.map (·.val (look E)))=xs)
  (hc:(ps.length=xs.length&&decide (0<sz)&&z.length==sz&&(ps.zip xs).all (fun (i,x)=>Qeg x&&x.cells.length==sz&&decide (i<n)))=true)
  (hd:toDs (Qiq (rep n z) ((ps.zip xs).map fun (i,x)=>(i*sz,x.cells)))=some ds) (hl:Qip sz n ds=l)
  (h:Rn Γ pc os ⟨look ((d,.d (.lst sz l))::E),M,nb⟩ Q):Rn Γ pc (⟨some d,.blit sz n z ps,as,false,gd⟩::os) ⟨look E,M,nb⟩ Q:=by
 refine Rn.k hw rfl rfl ?_ h;rw [ha];have hs:∀ κ,Qf Γ.n0 κ (.blit sz n z ps) xs M=(if ps.length=xs.length&&decide (0<sz)&&z.length==sz&&(ps.zip xs).all (fun (i,x)=>Qeg x&&x.cells.length==sz&&decide (i<n))
   then (toDs (Qiq (rep n z) ((ps.zip xs).map fun (i,x)=>(i*sz,x.cells)))).map fun ds=>(V.d (.lst sz (Qip sz n ds)),M) else none):=fun κ=>by cases xs<;>rfl
 rw [hs,if_pos hc,hd,Option.map_some,hl]
section
variable {κ β:Type} [BEq κ] {ek:κ→V} {ev:β→V} {m:List (κ×β)} (hs:∀ a b,Qgd (ek a) (ek b)=(a==b)) {kd:MK} (hk:∀ a,kd.ok (ek a)=true) (hv:∀ b,(ev b).dat=true)
include hs hk hv
end
section
variable {κ β:Type} [BEq κ] {ek:κ→V} {ev:β→V} {m:List (κ×β)} (hs:∀ a b,Qgd (ek a) (ek b)=(a==b)) {kd:MK} (hk:∀ a,kd.ok (ek a)=true) (hv:∀ b,(ev b).dat=true)
include hs hk hv
end
end Go.Abs
end
section
namespace Go.Abs
open Go
set_option maxRecDepth 10000
set_option maxHeartbeats 4000000
structure Qd where
  State:Int
  Rank:Int
  Reason:Int
  Event:Int
  deriving DecidableEq
def Qbh (x:Qd):List D:=[.int .i64 x.State,.int .i64 x.Rank,.int .i64 x.Reason,.int .i64 x.Event]
abbrev Q5o (x:Qd):List V:=[(i_ x.State),(i_ x.Rank),(i_ x.Reason),(i_ x.Event)]
abbrev Q5p (x:Qd):V:=.agg (Q5o x)
abbrev Qyf (x:List Qd):V:=.d (.lst 4 (List.map Qbh x))
abbrev Qq (x:List Qd):V:=.own 4 (List.map Qbh x)
structure Qc where
  From:Int
  Event:Int
  To:Int
  deriving DecidableEq
def Qy (x:Qc):List D:=[.int .i64 x.From,.int .i64 x.Event,.int .i64 x.To]
abbrev Qr2 (x:Qc):List V:=[(i_ x.From),(i_ x.Event),(i_ x.To)]
abbrev Qha (x:Qc):V:=.agg (Qr2 x)
abbrev Q1 (x:List Qc):V:=.d (.lst 3 (List.map Qy x))
abbrev Qh (x:List Qc):V:=.own 3 (List.map Qy x)
structure Qa where
  zO:List Int
  zS:Int
  zP:List Int
  zQ:List Qc
  deriving DecidableEq
def Qdr (x:Qa):List D:=[.lst 1 (List.map (eI .i64) x.zO),.int .i64 x.zS,.lst 1 (List.map (eI .i64) x.zP),.lst 3 (List.map Qy x.zQ)]
abbrev Qw (x:Qa):List V:=[(l_ x.zO),(i_ x.zS),(l_ x.zP),.d (.lst 3 (List.map Qy x.zQ))]
abbrev Qn (x:Qa):V:=.agg (Qw x)
abbrev Q7 (x:List Qa):V:=.d (.lst 4 (List.map Qdr x))
abbrev Qlk (x:List Qa):V:=.own 4 (List.map Qdr x)
structure Qb where
  zB:Qa
  zD:List Int
  zC:List Int
  zF:List Int
  Tick:Int
  deriving DecidableEq
def Q4g (x:Qb):List D:=[.lst 1 (List.map (eI .i64) x.zB.zO),.int .i64 x.zB.zS,.lst 1 (List.map (eI .i64) x.zB.zP),.lst 3 (List.map Qy x.zB.zQ),.lst 1 (List.map (eI .i64) x.zD),.lst 1 (List.map (eI .i64) x.zC),.lst 1 (List.map (eI .i64) x.zF),.int .i64 x.Tick]
abbrev Qf0 (x:Qb):List V:=[(l_ x.zB.zO),(i_ x.zB.zS),(l_ x.zB.zP),.d (.lst 3 (List.map Qy x.zB.zQ)),(l_ x.zD),(l_ x.zC),(l_ x.zF),(i_ x.Tick)]
abbrev Qcf (x:Qb):V:=.agg (Qf0 x)
structure Qg where
  zT:Qb
  from_:List (List Qc)
  left_:List Bool
  deriving DecidableEq
abbrev Qs (x:Qg) (k0 k1:Nat):List V:=[(l_ x.zT.zB.zO),(i_ x.zT.zB.zS),(l_ x.zT.zB.zP),.d (.lst 3 (List.map Qy x.zT.zB.zQ)),(l_ x.zT.zD),(l_ x.zT.zC),(l_ x.zT.zF),(i_ x.zT.Tick),.sl 1 k0 0 x.from_.length x.from_.length,.sl 1 k1 0 x.left_.length x.left_.length]
structure Qeu where
  Kept:List Int
  zH:List Int
  zJ:List Qd
  deriving DecidableEq
def Qbby (x:Qeu):List D:=[.lst 1 (List.map (eI .i64) x.Kept),.lst 1 (List.map (eI .i64) x.zH),.lst 4 (List.map Qbh x.zJ)]
abbrev Qzp (x:Qeu):List V:=[(l_ x.Kept),(l_ x.zH),.d (.lst 4 (List.map Qbh x.zJ))]
abbrev Qbbz (x:Qeu):V:=.agg (Qzp x)
structure Qb5 where
  zG:Qeu
  Rounds:Int
  zM:Qa
  zU:List Int
  zN:List Int
  deriving DecidableEq
def Q5q (x:Qb5):List D:=[.lst 1 (List.map (eI .i64) x.zG.Kept),.lst 1 (List.map (eI .i64) x.zG.zH),.lst 4 (List.map Qbh x.zG.zJ),.int .i64 x.Rounds,.lst 1 (List.map (eI .i64) x.zM.zO),.int .i64 x.zM.zS,.lst 1 (List.map (eI .i64) x.zM.zP),.lst 3 (List.map Qy x.zM.zQ),.lst 1 (List.map (eI .i64) x.zU),.lst 1 (List.map (eI .i64) x.zN)]
abbrev Qig (x:Qb5):List V:=[(l_ x.zG.Kept),(l_ x.zG.zH),.d (.lst 4 (List.map Qbh x.zG.zJ)),(i_ x.Rounds),(l_ x.zM.zO),(i_ x.zM.zS),(l_ x.zM.zP),.d (.lst 3 (List.map Qy x.zM.zQ)),(l_ x.zU),(l_ x.zN)]
abbrev Qdb (x:Qb5):V:=.agg (Qig x)
structure Qcc where
  zS:Int
  Marks:Int
  To:(Int×Int×Int×Int×Int)×(Int×Int×Int×Int×Int)×(Int×Int×Int×Int×Int)×(Int×Int×Int×Int×Int)×(Int×Int×Int×Int×Int)
def Qni (x:Qcc):List D:=[.int .u8 x.zS,.int .u8 x.Marks,.int .u8 x.To.1.1,.int .u8 x.To.1.2.1,.int .u8 x.To.1.2.2.1,.int .u8 x.To.1.2.2.2.1,.int .u8 x.To.1.2.2.2.2,.int .u8 x.To.2.1.1,.int .u8 x.To.2.1.2.1,.int .u8 x.To.2.1.2.2.1,.int .u8 x.To.2.1.2.2.2.1,.int .u8 x.To.2.1.2.2.2.2,.int .u8 x.To.2.2.1.1,.int .u8 x.To.2.2.1.2.1,.int .u8 x.To.2.2.1.2.2.1,.int .u8 x.To.2.2.1.2.2.2.1,.int .u8 x.To.2.2.1.2.2.2.2,.int .u8 x.To.2.2.2.1.1,.int .u8 x.To.2.2.2.1.2.1,.int .u8 x.To.2.2.2.1.2.2.1,.int .u8 x.To.2.2.2.1.2.2.2.1,.int .u8 x.To.2.2.2.1.2.2.2.2,.int .u8 x.To.2.2.2.2.1,.int .u8 x.To.2.2.2.2.2.1,.int .u8 x.To.2.2.2.2.2.2.1,.int .u8 x.To.2.2.2.2.2.2.2.1,.int .u8 x.To.2.2.2.2.2.2.2.2]
abbrev Qu1 (x:Qcc):List V:=[.d (.int .u8 x.zS),.d (.int .u8 x.Marks),.d (.int .u8 x.To.1.1),.d (.int .u8 x.To.1.2.1),.d (.int .u8 x.To.1.2.2.1),.d (.int .u8 x.To.1.2.2.2.1),.d (.int .u8 x.To.1.2.2.2.2),.d (.int .u8 x.To.2.1.1),.d (.int .u8 x.To.2.1.2.1),.d (.int .u8 x.To.2.1.2.2.1),.d (.int .u8 x.To.2.1.2.2.2.1),.d (.int .u8 x.To.2.1.2.2.2.2),.d (.int .u8 x.To.2.2.1.1),.d (.int .u8 x.To.2.2.1.2.1),.d (.int .u8 x.To.2.2.1.2.2.1),.d (.int .u8 x.To.2.2.1.2.2.2.1),.d (.int .u8 x.To.2.2.1.2.2.2.2),.d (.int .u8 x.To.2.2.2.1.1),.d (.int .u8 x.To.2.2.2.1.2.1),.d (.int .u8 x.To.2.2.2.1.2.2.1),.d (.int .u8 x.To.2.2.2.1.2.2.2.1),.d (.int .u8 x.To.2.2.2.1.2.2.2.2),.d (.int .u8 x.To.2.2.2.2.1),.d (.int .u8 x.To.2.2.2.2.2.1),.d (.int .u8 x.To.2.2.2.2.2.2.1),.d (.int .u8 x.To.2.2.2.2.2.2.2.1),.d (.int .u8 x.To.2.2.2.2.2.2.2.2)]
abbrev Qu2 (x:Qcc):V:=.agg (Qu1 x)
structure Qf1 where
  Events:Int
  Graph:Qcc
def Qoi (x:Qf1):List D:=[.int .u8 x.Events,.int .u8 x.Graph.zS,.int .u8 x.Graph.Marks,.int .u8 x.Graph.To.1.1,.int .u8 x.Graph.To.1.2.1,.int .u8 x.Graph.To.1.2.2.1,.int .u8 x.Graph.To.1.2.2.2.1,.int .u8 x.Graph.To.1.2.2.2.2,.int .u8 x.Graph.To.2.1.1,.int .u8 x.Graph.To.2.1.2.1,.int .u8 x.Graph.To.2.1.2.2.1,.int .u8 x.Graph.To.2.1.2.2.2.1,.int .u8 x.Graph.To.2.1.2.2.2.2,.int .u8 x.Graph.To.2.2.1.1,.int .u8 x.Graph.To.2.2.1.2.1,.int .u8 x.Graph.To.2.2.1.2.2.1,.int .u8 x.Graph.To.2.2.1.2.2.2.1,.int .u8 x.Graph.To.2.2.1.2.2.2.2,.int .u8 x.Graph.To.2.2.2.1.1,.int .u8 x.Graph.To.2.2.2.1.2.1,.int .u8 x.Graph.To.2.2.2.1.2.2.1,.int .u8 x.Graph.To.2.2.2.1.2.2.2.1,.int .u8 x.Graph.To.2.2.2.1.2.2.2.2,.int .u8 x.Graph.To.2.2.2.2.1,.int .u8 x.Graph.To.2.2.2.2.2.1,.int .u8 x.Graph.To.2.2.2.2.2.2.1,.int .u8 x.Graph.To.2.2.2.2.2.2.2.1,.int .u8 x.Graph.To.2.2.2.2.2.2.2.2]
abbrev Qwc (x:Qf1):List V:=[.d (.int .u8 x.Events),.d (.int .u8 x.Graph.zS),.d (.int .u8 x.Graph.Marks),.d (.int .u8 x.Graph.To.1.1),.d (.int .u8 x.Graph.To.1.2.1),.d (.int .u8 x.Graph.To.1.2.2.1),.d (.int .u8 x.Graph.To.1.2.2.2.1),.d (.int .u8 x.Graph.To.1.2.2.2.2),.d (.int .u8 x.Graph.To.2.1.1),.d (.int .u8 x.Graph.To.2.1.2.1),.d (.int .u8 x.Graph.To.2.1.2.2.1),.d (.int .u8 x.Graph.To.2.1.2.2.2.1),.d (.int .u8 x.Graph.To.2.1.2.2.2.2),.d (.int .u8 x.Graph.To.2.2.1.1),.d (.int .u8 x.Graph.To.2.2.1.2.1),.d (.int .u8 x.Graph.To.2.2.1.2.2.1),.d (.int .u8 x.Graph.To.2.2.1.2.2.2.1),.d (.int .u8 x.Graph.To.2.2.1.2.2.2.2),.d (.int .u8 x.Graph.To.2.2.2.1.1),.d (.int .u8 x.Graph.To.2.2.2.1.2.1),.d (.int .u8 x.Graph.To.2.2.2.1.2.2.1),.d (.int .u8 x.Graph.To.2.2.2.1.2.2.2.1),.d (.int .u8 x.Graph.To.2.2.2.1.2.2.2.2),.d (.int .u8 x.Graph.To.2.2.2.2.1),.d (.int .u8 x.Graph.To.2.2.2.2.2.1),.d (.int .u8 x.Graph.To.2.2.2.2.2.2.1),.d (.int .u8 x.Graph.To.2.2.2.2.2.2.2.1),.d (.int .u8 x.Graph.To.2.2.2.2.2.2.2.2)]
abbrev Q8o (x:Qf1):V:=.agg (Qwc x)
structure Qba where
  Part:Qf1
  zD:Int
  zC:Int
  zF:Int
def Ql8 (x:Qba):List D:=[.int .u8 x.Part.Events,.int .u8 x.Part.Graph.zS,.int .u8 x.Part.Graph.Marks,.int .u8 x.Part.Graph.To.1.1,.int .u8 x.Part.Graph.To.1.2.1,.int .u8 x.Part.Graph.To.1.2.2.1,.int .u8 x.Part.Graph.To.1.2.2.2.1,.int .u8 x.Part.Graph.To.1.2.2.2.2,.int .u8 x.Part.Graph.To.2.1.1,.int .u8 x.Part.Graph.To.2.1.2.1,.int .u8 x.Part.Graph.To.2.1.2.2.1,.int .u8 x.Part.Graph.To.2.1.2.2.2.1,.int .u8 x.Part.Graph.To.2.1.2.2.2.2,.int .u8 x.Part.Graph.To.2.2.1.1,.int .u8 x.Part.Graph.To.2.2.1.2.1,.int .u8 x.Part.Graph.To.2.2.1.2.2.1,.int .u8 x.Part.Graph.To.2.2.1.2.2.2.1,.int .u8 x.Part.Graph.To.2.2.1.2.2.2.2,.int .u8 x.Part.Graph.To.2.2.2.1.1,.int .u8 x.Part.Graph.To.2.2.2.1.2.1,.int .u8 x.Part.Graph.To.2.2.2.1.2.2.1,.int .u8 x.Part.Graph.To.2.2.2.1.2.2.2.1,.int .u8 x.Part.Graph.To.2.2.2.1.2.2.2.2,.int .u8 x.Part.Graph.To.2.2.2.2.1,.int .u8 x.Part.Graph.To.2.2.2.2.2.1,.int .u8 x.Part.Graph.To.2.2.2.2.2.2.1,.int .u8 x.Part.Graph.To.2.2.2.2.2.2.2.1,.int .u8 x.Part.Graph.To.2.2.2.2.2.2.2.2,.int .u8 x.zD,.int .u8 x.zC,.int .u8 x.zF]
abbrev Qt3 (x:Qba):List V:=[.d (.int .u8 x.Part.Events),.d (.int .u8 x.Part.Graph.zS),.d (.int .u8 x.Part.Graph.Marks),.d (.int .u8 x.Part.Graph.To.1.1),.d (.int .u8 x.Part.Graph.To.1.2.1),.d (.int .u8 x.Part.Graph.To.1.2.2.1),.d (.int .u8 x.Part.Graph.To.1.2.2.2.1),.d (.int .u8 x.Part.Graph.To.1.2.2.2.2),.d (.int .u8 x.Part.Graph.To.2.1.1),.d (.int .u8 x.Part.Graph.To.2.1.2.1),.d (.int .u8 x.Part.Graph.To.2.1.2.2.1),.d (.int .u8 x.Part.Graph.To.2.1.2.2.2.1),.d (.int .u8 x.Part.Graph.To.2.1.2.2.2.2),.d (.int .u8 x.Part.Graph.To.2.2.1.1),.d (.int .u8 x.Part.Graph.To.2.2.1.2.1),.d (.int .u8 x.Part.Graph.To.2.2.1.2.2.1),.d (.int .u8 x.Part.Graph.To.2.2.1.2.2.2.1),.d (.int .u8 x.Part.Graph.To.2.2.1.2.2.2.2),.d (.int .u8 x.Part.Graph.To.2.2.2.1.1),.d (.int .u8 x.Part.Graph.To.2.2.2.1.2.1),.d (.int .u8 x.Part.Graph.To.2.2.2.1.2.2.1),.d (.int .u8 x.Part.Graph.To.2.2.2.1.2.2.2.1),.d (.int .u8 x.Part.Graph.To.2.2.2.1.2.2.2.2),.d (.int .u8 x.Part.Graph.To.2.2.2.2.1),.d (.int .u8 x.Part.Graph.To.2.2.2.2.2.1),.d (.int .u8 x.Part.Graph.To.2.2.2.2.2.2.1),.d (.int .u8 x.Part.Graph.To.2.2.2.2.2.2.2.1),.d (.int .u8 x.Part.Graph.To.2.2.2.2.2.2.2.2),.d (.int .u8 x.zD),.d (.int .u8 x.zC),.d (.int .u8 x.zF)]
abbrev Qi1 (x:Qba):V:=.agg (Qt3 x)
structure Qb4 where
  list_:List Qa
  events_:List Int
  edges_:List (List ((Int×Int)×Int))
def Qbb0 (x:Qb4):List D:=[.lst 4 (List.map Qdr x.list_),.lst 1 (List.map (eI .i64) x.events_),.lst 1 (List.map (fun p:List ((Int×Int)×Int)=>[mpD (fun (x:Int×Int)=>(.agg [(i_ x.1),(i_ x.2)]:V)) (fun (x:Int)=>((i_ x):V)) p]) x.edges_)]
abbrev Qej (x:Qb4):List V:=[.d (.lst 4 (List.map Qdr x.list_)),(l_ x.events_),.d (.lst 1 (List.map (fun p:List ((Int×Int)×Int)=>[mpD (fun (x:Int×Int)=>(.agg [(i_ x.1),(i_ x.2)]:V)) (fun (x:Int)=>((i_ x):V)) p]) x.edges_))]
abbrev Qgm (x:Qb4):V:=.agg (Qej x)
structure Qu where
  zB:Qa
  uncontrollable_:List Int
  back_:List (Int×(List Int))
  left_:List Bool
abbrev Qm (x:Qu) (k0 k1:Nat):List V:=[.f (.lst 1 (List.map (eI .i64) x.zB.zO)),(i_ x.zB.zS),.f (.lst 1 (List.map (eI .i64) x.zB.zP)),.f (.lst 3 (List.map Qy x.zB.zQ)),.f (.lst 1 (List.map (eI .i64) x.uncontrollable_)),.mp k0,.sl 1 k1 0 x.left_.length x.left_.length]
structure Qdc where
  zG:Qeu
  Rounds:Int
  zM:Qa
  zU:List Int
  deriving DecidableEq
def Qbat (x:Qdc):List D:=[.lst 1 (List.map (eI .i64) x.zG.Kept),.lst 1 (List.map (eI .i64) x.zG.zH),.lst 4 (List.map Qbh x.zG.zJ),.int .i64 x.Rounds,.lst 1 (List.map (eI .i64) x.zM.zO),.int .i64 x.zM.zS,.lst 1 (List.map (eI .i64) x.zM.zP),.lst 3 (List.map Qy x.zM.zQ),.lst 1 (List.map (eI .i64) x.zU)]
abbrev Qyg (x:Qdc):List V:=[(l_ x.zG.Kept),(l_ x.zG.zH),.d (.lst 4 (List.map Qbh x.zG.zJ)),(i_ x.Rounds),(l_ x.zM.zO),(i_ x.zM.zS),(l_ x.zM.zP),.d (.lst 3 (List.map Qy x.zM.zQ)),(l_ x.zU)]
abbrev Qqs (x:Qdc):V:=.agg (Qyg x)
structure Qj where
  word_:List Int
  state_:Int
  deriving DecidableEq
def Qr3 (x:Qj):List D:=[.lst 1 (List.map (eI .i64) x.word_),.int .i64 x.state_]
abbrev Qr4 (x:Qj):List V:=[(l_ x.word_),(i_ x.state_)]
abbrev Qbb1 (x:Qj):V:=.agg (Qr4 x)
abbrev Qmr (x:List Qj):V:=.d (.lst 2 (List.map Qr3 x))
abbrev Qhx (x:List Qj):V:=.own 2 (List.map Qr3 x)
abbrev mq0 (p:List ((Int×Int)×(Int))):D:=mpD (fun (x:Int×Int)=>(.agg [(i_ x.1),(i_ x.2)]:V)) (fun (x:Int)=>((i_ x):V)) p
end Go.Abs
end
