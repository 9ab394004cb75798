/-
  Part 2 of the proof: see the last text.
-/
import Derived.Test.YtccapdeoaoiieaaGreatDoorP1
import Derived.Laws.MakeOwn
set_option linter.unusedVariables false
set_option linter.unusedSimpArgs false
set_option linter.unusedSectionVars false
section
namespace Go.Abs
open Go
section
variable (P:Program) {g:G} {w:World}
structure CR (g:G) (w:World) (cs:List V) (us:List Value):Prop where
 len:us.length=cs.length
 rf:∀ (j:Nat) (c:V) (y:Value),cs[j]? = some c→us[j]? = some y→RF g w c y
 one:∀ y∈us,y.oneCell'=true
theorem CR.append {a b:List V} {x y:List Value} (h:CR g w a x) (k:CR g w b y):CR g w (a++b) (x++y):={
 len:=by simp [h.len,k.len]
 rf:=fun j c z hc hz=>by
  rcases Nat.lt_or_ge j a.length with hlt|hge
  ·rw [List.getElem?_append_left hlt] at hc;rw [List.getElem?_append_left (by rw [h.len];exact hlt)] at hz;exact h.rf j c z hc hz
  ·rw [List.getElem?_append_right hge] at hc;rw [List.getElem?_append_right (by rw [h.len];exact hge),h.len] at hz;exact k.rf _ c z hc hz
 one:=fun z hz=>by
  rcases List.mem_append.1 hz with hz|hz
  ·exact h.one z hz
  ·exact k.one z hz }
theorem CR.take {a:List V} {x:List Value} (h:CR g w a x) (n:Nat):CR g w (a.take n) (x.take n):={
 len:=by simp [h.len]
 rf:=fun j c z hc hz=>by
  simp only [List.getElem?_take] at hc hz;split at hc
  ·rename_i hn;rw [if_pos hn] at hz;exact h.rf j c z hc hz
  ·cases hc
 one:=fun z hz=>h.one z (List.mem_of_mem_take hz) }
theorem CR.drop {a:List V} {x:List Value} (h:CR g w a x) (n:Nat):CR g w (a.drop n) (x.drop n):={
 len:=by simp [h.len]
 rf:=fun j c z hc hz=>by
  simp only [List.getElem?_drop] at hc hz;exact h.rf _ c z hc hz
 one:=fun z hz=>h.one z (List.mem_of_mem_drop hz) }
theorem CR.nil:CR g w [] []:=⟨rfl,by simp,by simp⟩
theorem CR.cons {c:V} {y:Value} {cs:List V} {us:List Value} (h:RF g w c y) (h1:y.oneCell'=true) (k:CR g w cs us):CR g w (c::cs) (y::us) :=
 CR.append (a:=[c]) (x:=[y]) ⟨rfl,fun j c' z hc hz=>by cases j<;>simp_all,by simpa using h1⟩ k
theorem CR.rep {z:List V} {u:List Value} (h:CR g w z u):∀ n,CR g w (rep n z) (List.replicate n u).flatten
 | 0=>by simpa [Abs.rep] using CR.nil
 | n+1=>by
  simp only [Abs.rep,List.replicate_succ,List.flatten_cons];exact CR.append h (CR.rep h n)
def Q7h (cells:List Value):List (Nat×List Value)→List Value
 | []=>cells
 | (off,vs)::rest=>Q7h (cells.take off++vs++cells.drop (off+vs.length)) rest
theorem Q78:∀ (vs:List Value) (off i:Nat) (cells:List Value),off+i+vs.length≤cells.length →
  ((vs.zipIdx i).foldl (fun (cs:Array Value) (p:Value×Nat)=>cs.setIfInBounds (off+p.2) p.1) cells.toArray).toList=cells.take (off+i)++vs++cells.drop (off+i+vs.length)
 | [],off,i,cells,h=>by simp
 | v::vs,off,i,cells,h=>by
  simp only [List.zipIdx_cons,List.foldl_cons];have e:cells.toArray.setIfInBounds (off+i) v=(cells.set (off+i) v).toArray:=by simp
  rw [e,Q78 vs off (i+1) (cells.set (off+i) v) (by simp at h ⊢;omega)];simp only [List.length_cons] at h ⊢;apply List.ext_getElem?;intro j;simp only [List.getElem?_append,List.getElem?_take,List.getElem?_drop,List.length_append,List.length_take,List.length_set,List.length_cons,List.getElem?_set]
  grind
theorem Qbag (vs:Array Value) (off:Nat) (cells:Array Value) (h:off+vs.size≤cells.size) :
  (vs.zipIdx.foldl (fun (cs:Array Value) (p:Value×Nat)=>cs.setIfInBounds (off+p.2) p.1) cells)=(cells.toList.take off++vs.toList++cells.toList.drop (off+vs.size)).toArray:=by
 have:=Q78 vs.toList off 0 cells.toList (by simpa using h);apply Array.ext';have e:vs.zipIdx.foldl (fun (cs:Array Value) (p:Value×Nat)=>cs.setIfInBounds (off+p.2) p.1) cells=vs.toList.zipIdx.foldl (fun (cs:Array Value) (p:Value×Nat)=>cs.setIfInBounds (off+p.2) p.1) cells:=by
  rw [← Array.foldl_toList];congr 1;simp
 rw [e];simpa using this
theorem Q79 (place:Nat→Option (Nat×Nat)):∀ (parts:List (Nat×Value)) (offs:List Nat) (cells:List Value),
  offs.length=parts.length →
  (∀ (j i off:Nat) (v:Value),parts[j]? = some (i,v)→offs[j]? = some off→place i=some (off,v.cells.size)∧off+v.cells.size≤cells.length) →
  Instr.fill place cells.toArray parts=some (Q7h cells ((offs.zip parts).map fun p=>(p.1,p.2.2.cells.toList))).toArray
 | [],offs,cells,hl,_=>by
  simp_all [List.eq_nil_of_length_eq_zero,Go.Instr.fill,Q7h]
 | (i,v)::parts,[],cells,hl,_=>by simp at hl
 | (i,v)::parts,off::offs,cells,hl,h=>by
  obtain ⟨hp,hle⟩:=h 0 i off v rfl rfl;simp only [Instr.fill,hp,List.zip_cons_cons,List.map_cons,Q7h];rw [if_neg (by simp;omega)];rw [Qbag _ _ _ (by simpa using hle)];have:=Q79 place parts offs (cells.take off++v.cells.toList++cells.drop (off+v.cells.size)) (by simpa using hl) (fun j i' off' v' hj ho=>by
   obtain ⟨h1,h2⟩:=h (j+1) i' off' v' (by simpa using hj) (by simpa using ho)
   grind)
  simpa using this
theorem Qbah:∀ (ps:List (Nat×List V)) (qs:List (Nat×List Value)) {cells:List V} {us:List Value},CR g w cells us→ps.length=qs.length →
  (∀ (j o o' : Nat) (cs:List V) (vs:List Value),ps[j]? = some (o,cs)→qs[j]? = some (o',vs)→o=o'∧CR g w cs vs)→CR g w (Qiy cells ps) (Q7h us qs)
 | [],[],_,_,h,_,_=>h
 | [],_::_,_,_,_,hl,_=>by simp at hl
 | _::_,[],_,_,_,hl,_=>by simp at hl
 | (o,cs)::ps,(o',vs)::qs,cells,us,h,hl,hp=>by
  obtain ⟨rfl,hcv⟩:=hp 0 o o' cs vs rfl rfl;simp only [Qiy,Q7h];refine Qbah ps qs ?_ (by simpa using hl) (fun j o o' cs vs hj hj'=>hp (j+1) o o' cs vs (by simpa using hj) (by simpa using hj'));rw [hcv.len];exact CR.append (CR.append (h.take o) hcv) (h.drop _)
theorem Q07:∀ (ps:List (Nat×List V)) (cells:List V),(∀ p∈ps,p.1+p.2.length≤cells.length)→(Qiy cells ps).length=cells.length
 | [],_,_=>rfl
 | (o,cs)::ps,cells,h=>by
  have h0:=h (o,cs) (by simp);simp only at h0;simp only [Qiy];rw [Q07 ps _ (fun p hp=>by have:=h p (by simp [hp]);simp;omega)];simp;omega
theorem Q7i {v:Value} {x:V} (h:Q4o v=some x):RF g w x v∧v.oneCell'=true∧Flat x∧∀ n,x.lt n=true:=by
 cases v<;>simp only [Q4o] at h<;>try (cases h;done)
 case bool=>cases h;exact ⟨by rw [RF_d];simp [RD],rfl,rfl,fun _=>rfl⟩
 case int=>cases h;exact ⟨by rw [RF_d];simp [RD],rfl,rfl,fun _=>rfl⟩
 case string=>cases h;exact ⟨by rw [RF_d];simp [RD],rfl,rfl,fun _=>rfl⟩
 case pointer a =>
  cases a with
  | none=>cases h;exact ⟨fun ℓ=>by simp [RV],rfl,rfl,fun _=>rfl⟩
  | some a=>cases h;exact ⟨fun ℓ=>by simp [RV],rfl,rfl,fun _=>rfl⟩
 all_goals (cases h;exact ⟨fun ℓ=>by simp [RV],rfl,rfl,fun _=>rfl⟩)
theorem Qt7:∀ (ss:List (Option Nat)) (vs:List Value) (xs:List V),Qnx ss vs=some xs→CR g w xs vs∧∀ n,V.lt.go n xs=true
 | [],[],xs,h=>by simp [Qnx] at h;subst h;exact ⟨CR.nil,fun _=>rfl⟩
 | [],_::_,xs,h=>by simp [Qnx] at h
 | some n::ss,[],xs,h=>by simp [Qnx] at h
 | none::ss,[],xs,h=>by simp [Qnx] at h
 | some n::ss,v::vs,xs,h=>by
  unfold Qnx at h;split at h<;>try (cases h;done)
  ·simp_all
  ·rename_i heq1 heq2;simp only [List.cons.injEq] at heq1 heq2;obtain ⟨h1,rfl⟩:=heq1;obtain ⟨rfl,rfl⟩:=heq2;simp only [Option.map_eq_some_iff] at h;obtain ⟨ys,hy,rfl⟩:=h;obtain ⟨hc,hl⟩:=Qt7 _ _ _ hy;exact ⟨CR.cons (fun ℓ=>by simp [RV]) rfl hc,fun n=>by simp [V.lt.go,V.lt,hl]⟩
  grind
 | none::ss,v::vs,xs,h=>by
  simp only [Qnx] at h;split at h
  ·rename_i x xs' hx hxs;cases h;obtain ⟨hc,hl⟩:=Qt7 _ _ _ hxs;obtain ⟨h1,h2,_,h3⟩:=Q7i (g:=g) (w:=w) hx;exact ⟨CR.cons h1 h2 hc,fun n=>by simp [V.lt.go,h3,hl]⟩
  ·cases h
theorem Qji {t:TypeId} {z:List V} (h:Qrf P t=some z):∃ i zv,P.info? t=some i∧i.zero=some zv∧(∀ (g:G) (w:World),CR g w z zv.cells.toList)∧∀ n,V.lt.go n z=true:=by
 unfold Qrf at h;split at h
 ·rename_i ss zv hs hz;cases hi:P.info? t with
  | none=>simp [hi] at hz
  | some i =>
   simp [hi] at hz;refine ⟨i,zv,rfl,hz,fun g w=>(Qt7 (g:=g) (w:=w) _ _ _ h).1,(Qt7 (g:=⟨fun _=>0,fun _ _=>False,fun _=>.free⟩) (w:=default) _ _ _ h).2⟩
 ·cases h
theorem Qpj {t:TypeId} {i:TypeInfo} {z:Value} (hi:P.info? t=some i) (hz:i.zero=some z) (w:World):(zeroValue t).run P w = .ok z w:=by simp [zeroValue,typeInfo,hi,hz]
theorem Qsv (place:Nat→Option (Nat×Nat)) (z:List V) (zu:List Value) (hz:CR g w z zu) (is:List Nat) (offs szs:List Nat) (xs:List V) (us:List Value)
  (hx:RFs g w xs us) (hfl:∀ x∈xs,Flat x) (hli:is.length=xs.length) (hlo:offs.length=xs.length) (hls:szs.length=xs.length)
  (hok:∀ (j:Nat) (x:V) (i o s:Nat),xs[j]? = some x→is[j]? = some i→offs[j]? = some o→szs[j]? = some s→Qdy x=true∧x.cells.length=s∧o+s≤z.length∧place i=some (o,s)) :
  ∃ out:List Value,Instr.fill place zu.toArray (is.zip us)=some out.toArray∧CR g w (Qiy z ((offs.zip xs).map fun p=>(p.1,p.2.cells))) out:=by
 have hlu:=Qf3 hx;have hget:∀ j,j<xs.length→∃ x u i o s,xs[j]? = some x∧us[j]? = some u∧is[j]? = some i∧offs[j]? = some o∧szs[j]? = some s∧Qdy x=true∧x.cells.length=s∧o+s≤z.length∧place i=some (o,s)∧CR g w x.cells u.cells.toList:=by
  intro j hj;have e1:=List.getElem?_eq_getElem hj;have e2:=List.getElem?_eq_getElem (show j<us.length by omega);have e3:=List.getElem?_eq_getElem (show j<is.length by omega);have e4:=List.getElem?_eq_getElem (show j<offs.length by omega);have e5:=List.getElem?_eq_getElem (show j<szs.length by omega);obtain ⟨h1,h2,h3,h4⟩:=hok j _ _ _ _ e1 e3 e4 e5;obtain ⟨k1,k2,k3⟩:=Q4v (hfl _ (List.getElem_mem hj)) (Qnh hx j _ _ e1 e2) h1;exact ⟨_,_,_,_,_,e1,e2,e3,e4,e5,h1,h2,h3,h4,⟨k1,k2,k3⟩⟩
 refine ⟨Q7h zu ((offs.zip (is.zip us)).map fun p=>(p.1,p.2.2.cells.toList)),?_,?_⟩
 ·refine Q79 place (is.zip us) offs zu (by simp;omega) fun j i off v hj ho=>?_;have hj' : j<xs.length:=by
   grind
  obtain ⟨x,u,i',o,s,e1,e2,e3,e4,e5,h1,h2,h3,h4,hc⟩:=hget j hj';rw [List.getElem?_zip_eq_some] at hj;obtain ⟨hj1,hj2⟩:=hj;rw [e3] at hj1;cases hj1;rw [e2] at hj2;cases hj2;rw [e4] at ho;cases ho;have hsz:v.cells.size=s:=by have:=hc.len;simp at this;omega
  rw [hsz,hz.len];exact ⟨h4,h3⟩
 ·refine Qbah _ _ hz (by simp;omega) fun j o o' cs vs hj hj'=>?_
  grind
theorem Qim {α β:Type} {f:α→Option β}:∀ {l:List α} {r:List β},l.mapM f=some r→r.length=l.length∧∀ (j:Nat) (a:α) (b:β),l[j]? = some a→r[j]? = some b→f a=some b
 | [],r,h=>by grind
 | a::l,r,h=>by
  simp only [List.mapM_cons,Option.bind_eq_bind,Option.bind_eq_some_iff,Option.pure_def,Option.some.injEq] at h;obtain ⟨b,hb,r',hr,rfl⟩:=h;obtain ⟨h1,h2⟩:=Qim hr;refine ⟨by simp [h1],fun j a' b' ha hb'=>?_⟩;cases j with
  | zero=>simp at ha hb';subst ha hb';exact hb
  | succ j=>exact h2 j a' b' (by simpa using ha) (by simpa using hb')
theorem Qv8 (t:TypeId) (fs:Array Field) (ht:P.underlying t=some (.struct fs)) {z:List V} (hz:Qrf P t=some z) (is:List Nat) (pl:List (Nat×Nat)) (hpl:Q02 P fs is=some pl)
  (hft:∀ f∈fs.toList,(P.info? f.type).isSome=true)
  {xs:List V} {us:List Value} {v:V} {n0 κ:Nat} {M M' : Mem} (hfl:∀ x∈xs,Flat x) (hx:RFs g w xs us) (hs:Qm n0 κ (.build z pl) xs M=some (v,M')) :
  M'=M∧∃ val,(Instr.build t (is.zip us).toArray).run P w = .ok val w∧RF g w v val:=by
 obtain ⟨i,zv,hi,hzv,hcz,_⟩:=Qji P hz;have hstep:(if pl.length=xs.length&&(pl.zip xs).all (fun (p,x)=>Qdy x&&x.cells.length==p.2&&decide (p.1+p.2≤z.length))
  then some (V.agg (Qiy z ((pl.zip xs).map fun (p,x)=>(p.1,x.cells))),M) else none)=some (v,M'):=by
  have hs:(if pl.length=(own1 xs).length&&(pl.zip (own1 xs)).all (fun (p,x)=>Qdy x&&x.cells.length==p.2&&decide (p.1+p.2≤z.length))
   then some (V.agg (Qiy z ((pl.zip (own1 xs)).map fun (p,x)=>(p.1,x.cells))),M) else none)=some (v,M'):=by cases xs<;>exact hs
  rw [Q11 hfl] at hs;exact hs
 split at hstep
 case isFalse=>cases hstep
 case isTrue h =>
  cases hstep;simp only [Bool.and_eq_true,decide_eq_true_eq,List.all_eq_true] at h;obtain ⟨hpll,hall⟩:=h;obtain ⟨hl1,hg1⟩:=Qim hpl;let places:List (Nat×Nat):=fs.toList.map fun f=>(f.offset,P.cellsOf f.type);have hplaces:fs.toList.mapM (fun f=>(P.info? f.type).map fun i=>(f.offset,i.size))=some places:=by
   have:∀ l:List Field,(∀ f∈l,(P.info? f.type).isSome=true)→l.mapM (fun f=>(P.info? f.type).map fun i=>(f.offset,i.size))=some (l.map fun f=>(f.offset,P.cellsOf f.type)):=by
    intro l hl
    induction l with
    | nil=>simp
    | cons f l ih =>
     cases hfi:P.info? f.type with
     | none=>grind
     | some i=>grind [Qdx]
   exact this _ hft
  obtain ⟨out,hfill,hcr⟩:=Qsv (g:=g) (w:=w) (places.toArray[·]?) z zv.cells.toList (hcz g w) is (pl.map (·.1)) (pl.map (·.2)) xs us hx hfl (by omega) (by simp [hpll]) (by simp [hpll])
   (fun j x i o s hxj hij hoj hsj=>by
    simp only [List.getElem?_map,Option.map_eq_some_iff] at hoj hsj;obtain ⟨p,hp,rfl⟩:=hoj;obtain ⟨p',hp',rfl⟩:=hsj;rw [hp] at hp';cases hp';have:=hall (p,x) (List.mem_of_getElem? (i:=j) (by grind))
    grind)
  refine ⟨rfl,.agg out.toArray,?_,fun ℓ=>?_⟩
  ·simp_all [Go.run_build,Go.Program.built]
  ·simp only [RV];have e:(pl.zip xs).map (fun (p,x)=>(p.1,x.cells))=((pl.map (·.1)).zip xs).map fun p=>(p.1,p.2.cells):=by
    rw [List.zip_map_left,List.map_map];rfl
   rw [e];exact ⟨out,rfl,(Qci _ _ _ _).2 ⟨hcr.len,fun j c u hc hu=>hcr.rf j c u hc hu _⟩,hcr.one⟩
theorem Q3g (t e:TypeId) (n:Nat) (ht:P.underlying t=some (.array n e)) (hie:(P.info? e).isSome=true) {z:List V} (hz:Qrf P t=some z) (is:List Nat)
  {xs:List V} {us:List Value} {v:V} {n0 κ:Nat} {M M' : Mem} (hfl:∀ x∈xs,Flat x) (hx:RFs g w xs us) (hs:Qm n0 κ (.build z (is.map fun i=>(i*P.cellsOf e,P.cellsOf e))) xs M=some (v,M')) :
  M'=M∧∃ val,(Instr.build t (is.zip us).toArray).run P w = .ok val w∧RF g w v val:=by
 obtain ⟨i,zv,hi,hzv,hcz,_⟩:=Qji P hz;generalize hpl:(is.map fun i=>(i*P.cellsOf e,P.cellsOf e))=pl at hs;have hstep:(if pl.length=xs.length&&(pl.zip xs).all (fun (p,x)=>Qdy x&&x.cells.length==p.2&&decide (p.1+p.2≤z.length))
  then some (V.agg (Qiy z ((pl.zip xs).map fun (p,x)=>(p.1,x.cells))),M) else none)=some (v,M'):=by
  have hs:(if pl.length=(own1 xs).length&&(pl.zip (own1 xs)).all (fun (p,x)=>Qdy x&&x.cells.length==p.2&&decide (p.1+p.2≤z.length))
   then some (V.agg (Qiy z ((pl.zip (own1 xs)).map fun (p,x)=>(p.1,x.cells))),M) else none)=some (v,M'):=by cases xs<;>exact hs
  rw [Q11 hfl] at hs;exact hs
 split at hstep
 case isFalse=>cases hstep
 case isTrue h =>
  cases hstep;simp only [Bool.and_eq_true,decide_eq_true_eq,List.all_eq_true] at h;obtain ⟨hpll,hall⟩:=h;obtain ⟨ie,hie⟩:=Option.isSome_iff_exists.1 hie;have hli:is.length=xs.length:=by grind
  obtain ⟨out,hfill,hcr⟩:=Qsv (g:=g) (w:=w) (fun i=>some (i*ie.size,ie.size)) z zv.cells.toList (hcz g w) is (pl.map (·.1)) (pl.map (·.2)) xs us hx hfl hli (by simp [hpll]) (by simp [hpll])
   (fun j x i o s hxj hij hoj hsj=>by
    simp only [List.getElem?_map,Option.map_eq_some_iff] at hoj hsj;obtain ⟨p,hp,rfl⟩:=hoj;obtain ⟨p',hp',rfl⟩:=hsj;rw [hp] at hp';cases hp';have:=hall (p,x) (List.mem_of_getElem? (i:=j) (by grind));simp only [Bool.and_eq_true,beq_iff_eq,decide_eq_true_eq] at this
    grind [Option.some.injEq,Qdx])
  refine ⟨rfl,.agg out.toArray,?_,fun ℓ=>?_⟩
  ·simp_all [Go.run_build,Go.Program.built]
  ·simp only [RV];have e:(pl.zip xs).map (fun (p,x)=>(p.1,x.cells))=((pl.map (·.1)).zip xs).map fun p=>(p.1,p.2.cells):=by
    rw [List.zip_map_left,List.map_map];rfl
   rw [e];exact ⟨out,rfl,(Qci _ _ _ _).2 ⟨hcr.len,fun j c u hc hu=>hcr.rf j c u hc hu _⟩,hcr.one⟩
end
end Go.Abs
end
section
namespace Go.Abs
open Go
theorem Q5y {n0 κ:Nat} {xs:List V} {M M' : Mem} {v:V} (hs:Qm n0 κ .mkmap xs M=some (v,M')) :
  (xs=[]∨∃ k n,xs=[.d (.int k n)])∧M κ=none∧v = .mp κ∧M'=M.put κ (.mp [] 0):=by
 match xs,hs with
 | [],hs =>
  simp only [Qm] at hs
  simp_all
 | [x],hs =>
  cases x with
  | d x =>
   cases x with
   | int k n =>
    simp only [Qm] at hs
    simp_all
   | _=>simp [Qm] at hs
  | _=>simp [Qm] at hs
 | _::_::_,hs=>simp [Qm] at hs
theorem Qt8 {M:Mem} {k:Nat} {R:Type} {f:List (V×V×Nat)→Nat→Option R} {r:R} (h:(match M k with|some (.mp es c)=>f es c|_=>none)=some r):∃ es c,M k=some (.mp es c)∧f es c=some r:=by
 grind
theorem Q4w {n0 κ:Nat} {xs:List V} {M M' : Mem} {v:V} (hs:Qm n0 κ .lenm xs M=some (v,M')) :
  M'=M∧((∃ k es c,xs=[.mp k]∧M k=some (.mp es c)∧v = .d (.int .i64 es.length))∨∃ es c,xs=[.d (.mp es c)]∧v = .d (.int .i64 es.length)):=by
 match xs,hs with
 | [],hs=>simp [Qm] at hs
 | [x],hs =>
  cases x with
  | mp k =>
   obtain ⟨es,c,h1,h2⟩:=Qt8 (f:=fun es c=>some ((.d (.int .i64 es.length):V),M)) hs
   grind
  | d x =>
   cases x with
   | mp es c=>simp only [Qm] at hs;grind
   | _=>simp [Qm] at hs
  | _=>simp [Qm] at hs
 | _::_::_,hs=>simp [Qm] at hs
def Qbc2 (kd:MK) (c:Bool) (z key v:V) (es:List (V×V×Nat)):Prop :=
 kd.ok key=true∧kd.all es=true∧((∃ i u,Qg1 key es=some (i,u)∧u.mv=true∧v=if c then .tup [u.dem,.d (.bool true)] else u.dem)∨(Qg1 key es=none∧z.dat=true∧v=if c then .tup [z,.d (.bool false)] else z))
theorem Q0e {n0 κ:Nat} {kd:MK} {c:Bool} {z:V} {xs:List V} {M M' : Mem} {v:V} (hs:Qm n0 κ (.lookup kd c z) xs M=some (v,M')) :
  M'=M∧((∃ k key es cl,xs=[.mp k,key]∧M k=some (.mp es cl)∧Qbc2 kd c z key v es) ∨
   (∃ key ents cl,xs=[.d (.mp ents cl),key]∧((ents.map entV).all fun e=>e.2.1.dat)=true∧Qbc2 kd c z key v (ents.map entV))):=by
 match xs,hs with
 | [],hs=>simp [Qm] at hs
 | [x],hs =>
  grind [Qm]
 | [x,key],hs =>
  cases x with
  | mp k =>
   obtain ⟨es,cl,h1,h2⟩:=Qt8 (f:=fun es cl=>if kd.ok key&&kd.all es then
    (match Qg1 key es with
     | some (_,v)=>if v.mv then some (if c then .tup [v.dem,.d (.bool true)] else v.dem,M) else none
     | none=>if z.dat then some (if c then .tup [z,.d (.bool false)] else z,M) else none) else none) hs
   split at h2<;>try (cases h2;done)
   rename_i h3;rw [Bool.and_eq_true] at h3;cases hf:Qg1 key es with
   | none =>
    rw [hf] at h2;dsimp only at h2;by_cases h4:z.dat=true
    ·rw [if_pos h4] at h2;cases h2;exact ⟨rfl,.inl ⟨k,key,es,cl,rfl,h1,h3.1,h3.2,.inr ⟨hf,h4,rfl⟩⟩⟩
    grind
   | some p =>
    rw [hf] at h2;obtain ⟨i,u⟩:=p;dsimp only at h2;by_cases h4:u.mv=true
    ·rw [if_pos h4] at h2;cases h2;exact ⟨rfl,.inl ⟨k,key,es,cl,rfl,h1,h3.1,h3.2,.inl ⟨i,u,hf,h4,rfl⟩⟩⟩
    grind
  | d x =>
   cases x with
   | mp ents cl =>
    simp only [Qm] at hs;split at hs<;>try (cases hs;done)
    rename_i h3;rw [Bool.and_eq_true] at h3;cases hf:Qg1 key (ents.map entV) with
    | none =>
     rw [hf] at hs;dsimp only at hs;by_cases h4:(z.dat&&(ents.map entV).all fun e=>e.2.1.dat)=true
     ·rw [if_pos h4] at hs;cases hs;rw [Bool.and_eq_true] at h4;exact ⟨rfl,.inr ⟨key,ents,cl,rfl,h4.2,h3.1,h3.2,.inr ⟨hf,h4.1,rfl⟩⟩⟩
     grind
    | some p =>
     rw [hf] at hs;obtain ⟨i,u⟩:=p;dsimp only at hs;by_cases h4:(u.dat&&(ents.map entV).all fun e=>e.2.1.dat)=true
     ·rw [if_pos h4] at hs;cases hs;rw [Bool.and_eq_true] at h4;exact ⟨rfl,.inr ⟨key,ents,cl,rfl,h4.2,h3.1,h3.2,.inl ⟨i,u,hf,Qu7 h4.1,by rw [Qr7 h4.1]⟩⟩⟩
     grind
   | _=>simp [Qm] at hs
  | _=>simp [Qm] at hs
 | x::_::_::_,hs =>
  grind [Qm]
theorem Q3q {n0 κ:Nat} {kd:MK} {xs:List V} {M M' : Mem} {v:V} (hs:Qm n0 κ (.mapset kd) xs M=some (v,M')) :
  ∃ k key u es cl,xs=[.mp k,key,u]∧M k=some (.mp es cl)∧kd.ok key=true∧kd.all es=true∧u.dat=true∧v = .und ∧
   M'=M.put k (match Qg1 key es with|some (i,_)=>.mp (modM key (Qv3 u) i es) cl|none=>.mp (es++[(key,Qv3 u,cl)]) (cl+1)):=by
 match xs,hs with
 | [],hs=>simp [Qm] at hs
 | [x],hs=>cases x<;>simp [Qm] at hs
 | [x,_],hs=>cases x<;>simp [Qm] at hs
 | [x,key,u],hs =>
  cases x with
  | mp k =>
   obtain ⟨es,cl,h1,h2⟩:=Qt8 (f:=fun es cl=>if kd.ok key&&kd.all es&&u.dat then
    some ((.und:V),M.put k (match Qg1 key es with
     | some (i,_)=>.mp (modM key (Qv3 u) i es) cl
     | none=>.mp (es++[(key,Qv3 u,cl)]) (cl+1))) else none) hs
   grind
  | _=>simp [Qm] at hs
 | x::_::_::_::_,hs=>cases x<;>simp [Qm] at hs
theorem Qym {n0 κ:Nat} {kd:MK} {z:V} {xs:List V} {M M' : Mem} {v:V} (hs:Qm n0 κ (.lookupT kd z) xs M=some (v,M')) :
  ∃ k key es cl,xs=[.mp k,key]∧M k=some (.mp es cl)∧kd.ok key=true∧kd.all es=true∧upM 0 es=true ∧
   ((∃ i sz l e,Qg1 key es=some (i,.own sz l)∧es[i]? = some e∧v = .own sz l∧M'=M.put k (.mp (modM e.1 (.d (.lst sz l)) i es) cl))∨(Qg1 key es=none∧z.dat=true∧v=z∧M'=M)):=by
 match xs,hs with
 | [],hs=>simp [Qm] at hs
 | [x],hs=>cases x<;>simp [Qm] at hs
 | [x,key],hs =>
  cases x with
  | mp k =>
   obtain ⟨es,cl,h1,h2⟩:=Qt8 (f:=fun es cl=>if kd.ok key&&kd.all es&&upM 0 es then
    (match Qg1 key es with
     | some (i,.own sz l)=>(es[i]?).map fun e=>((.own sz l:V),M.put k (.mp (modM e.1 (.d (.lst sz l)) i es) cl))
     | some _=>none
     | none=>if z.dat then some (z,M) else none) else none) hs
   grind
  | _=>simp [Qm] at hs
 | x::_::_::_,hs=>cases x<;>simp [Qm] at hs
theorem Qyn {n0 κ:Nat} {kd:MK} {xs:List V} {M M' : Mem} {v:V} (hs:Qm n0 κ (.mapsetT kd) xs M=some (v,M')) :
  ∃ k key sz l es cl,xs=[.mp k,key,.own sz l]∧M k=some (.mp es cl)∧kd.ok key=true∧kd.all es=true∧v = .und ∧
   M'=M.put k (match Qg1 key es with|some (i,_)=>.mp (modM key (.own sz l) i es) cl|none=>.mp (es++[(key,.own sz l,cl)]) (cl+1)):=by
 match xs,hs with
 | [],hs=>simp [Qm] at hs
 | [x],hs=>cases x<;>simp [Qm] at hs
 | [x,_],hs=>cases x<;>simp [Qm] at hs
 | [x,key,u],hs =>
  cases x with
  | mp k =>
   cases u with
   | own sz l =>
    obtain ⟨es,cl,h1,h2⟩:=Qt8 (f:=fun es cl=>if kd.ok key&&kd.all es then
     some ((.und:V),M.put k (match Qg1 key es with
      | some (i,_)=>.mp (modM key (.own sz l) i es) cl
      | none=>.mp (es++[(key,.own sz l,cl)]) (cl+1))) else none) hs
    grind
   | _=>simp [Qm] at hs
  | _=>simp [Qm] at hs
 | x::_::_::_::_,hs=>cases x<;>simp [Qm] at hs
theorem Q08 {n0 κ:Nat} {kd:MK} {z:V} {xs:List V} {M M' : Mem} {v:V} (hs:Qm n0 κ (.mapentry kd z) xs M=some (v,M')) :
  ∃ k key es cl,xs=[.mp k,key]∧M k=some (.mp es cl)∧kd.ok key=true∧kd.all es=true∧z.dat=true ∧
   ((∃ i u e,Qg1 key es=some (i,u)∧u.dat=true∧es[i]? = some e∧v = .tup [u,.d (.int .i64 e.2.2)]∧M'=M.put k (.mp (modM key u i es) cl))∨(Qg1 key es=none∧v = .tup [z,.d (.int .i64 cl)]∧M'=M.put k (.mp (es++[(key,z,cl)]) (cl+1)))):=by
 match xs,hs with
 | [],hs=>simp [Qm] at hs
 | [x],hs=>cases x<;>simp [Qm] at hs
 | [x,key],hs =>
  cases x with
  | mp k =>
   obtain ⟨es,cl,h1,h2⟩:=Qt8 (f:=fun es cl=>if kd.ok key&&kd.all es&&z.dat then
    (match Qg1 key es with
     | some (i,v)=>if v.dat then (es[i]?).map fun e=>((V.tup [v,.d (.int .i64 e.2.2)]),M.put k (.mp (modM key v i es) cl)) else none
     | none=>some ((V.tup [z,.d (.int .i64 cl)]),M.put k (.mp (es++[(key,z,cl)]) (cl+1)))) else none) hs
   split at h2<;>try (cases h2;done)
   rename_i h3;rw [Bool.and_eq_true,Bool.and_eq_true] at h3;refine ⟨k,key,es,cl,rfl,h1,h3.1.1,h3.1.2,h3.2,?_⟩
   grind
  | _=>simp [Qm] at hs
 | x::_::_::_,hs=>cases x<;>simp [Qm] at hs
theorem Qye {n0 κ:Nat} {xs:List V} {M M' : Mem} {v:V} (hs:Qm n0 κ .entrystore xs M=some (v,M')) :
  ∃ k b u es cl i e,xs=[.mp k,.d (.int .i64 b),u]∧M k=some (.mp es cl)∧u.dat=true∧Q4n b es=some i∧es[i]? = some e∧v = .und∧M'=M.put k (.mp (modM e.1 (Qv3 u) i es) cl):=by
 match xs,hs with
 | [],hs=>simp [Qm] at hs
 | [x],hs=>cases x<;>simp [Qm] at hs
 | [x,_],hs=>cases x<;>simp [Qm] at hs
 | [x,y,u],hs =>
  cases x with
  | mp k =>
   cases y with
   | d y =>
    cases y with
    | int q b =>
     cases q with
     | i64 =>
      obtain ⟨es,cl,h1,h2⟩:=Qt8 (f:=fun es cl=>if u.dat then
       (match Q4n b es with
        | some i=>(es[i]?).map fun e=>((.und:V),M.put k (.mp (modM e.1 (Qv3 u) i es) cl))
        | none=>none) else none) hs
      grind
     | _=>simp [Qm] at hs
    | _=>simp [Qm] at hs
   | _=>simp [Qm] at hs
  | _=>simp [Qm] at hs
 | x::y::_::_::_,hs=>cases x<;>simp [Qm] at hs
end Go.Abs
end
section
namespace Go.Abs
open Go
def There (M:Mem) (k:Nat):Prop:=(M k).isSome=true
theorem There.put {M:Mem} {κ:Nat} {b:Bx} {k:Nat} (h:There M k):There (M.put κ b) k:=by
 grind [There,Mem.put]
theorem There.self {M:Mem} {κ:Nat} {b:Bx}:There (M.put κ b) κ:=by simp [There,Mem.put]
def MOn (p:Nat→Prop) (M:Mem):Prop:=∀ k cs,M k=some (.cells cs)→V.ons p cs
theorem Qfa {p:Nat→Prop} {a b:List V}:V.ons p (a++b)↔V.ons p a∧V.ons p b:=by
 grind [Qh0]
theorem Qnz {p:Nat→Prop} {a:List V} (n:Nat) (h:V.ons p a):V.ons p (a.take n):=by
 grind [Qh0,List.mem_of_mem_take]
theorem Qn0 {p:Nat→Prop} {a:List V} (n:Nat) (h:V.ons p a):V.ons p (a.drop n):=by
 grind [Qh0,List.mem_of_mem_drop]
theorem Qr8 {p:Nat→Prop} {a:List V} (n:Nat) {x:V} (h:V.ons p a) (hx:x.on p):V.ons p (a.set n x):=by
 rw [Qh0] at *
 grind
theorem Qe3 {p:Nat→Prop} {a:List V} {n:Nat} {x:V} (h:V.ons p a) (hx:a[n]? = some x):x.on p:=by
 rw [Qh0] at h;grind
theorem Qn6 {p:Nat→Prop} {x:V} (h:x.on p):V.ons p x.cells:=by
 cases x<;>simp_all [V.cells,V.ons,V.on]
theorem Qzg {p:Nat→Prop}:∀ (ps:List (Nat×List V)) (cells:List V),V.ons p cells→(∀ q∈ps,V.ons p q.2)→V.ons p (Qiy cells ps)
 | [],_,h,_=>h
 | (o,vs)::rest,cells,h,hp=>by
  simp only [Qiy];exact Qzg rest _ (Qfa.2 ⟨Qfa.2 ⟨Qnz _ h,hp (o,vs) (by simp)⟩,Qn0 _ h⟩) (fun q hq=>hp q (by simp [hq]))
theorem Q14 {p:Nat→Prop} {z:List V} (h:V.ons p z):∀ n,V.ons p (rep n z)
 | 0=>by simp [rep,V.ons]
 | n+1=>by
  simp only [rep,List.replicate_succ,List.flatten_cons];exact Qfa.2 ⟨h,Q14 h n⟩
theorem Qbc3 {p:Nat→Prop} (cs:List D):V.ons p (cs.map V.d):=by
 rw [Qh0];simp [V.on]
def K.okz:K→Prop
 | .alloc z=>∀ p,V.ons p z
 | .build z _=>∀ p,V.ons p z
 | .bslice _ _ z _=>∀ p,V.ons p z
 | .makes _ _ z=>∀ p,V.ons p z
 | _=>True
theorem Qyo {α β:Type} {a:List α} {b:List β} {q:α×β} (h:q∈a.zip b):q.2∈b:=(List.of_mem_zip h).2
theorem Q4x {n0 κ:Nat} {k:K} {xs:List V} {M M' : Mem} {v:V} (hz:k.okz) (hs:Qm n0 κ k xs M=some (v,M')) (hx:V.ons (There M) xs) (hM:MOn (There M) M) :
  v.on (There M')∧MOn (There M') M'∧∀ k,There M k→There M' k:=by
 have keep:∀ {v' : V},some (v',M)=some (v,M')→v'.on (There M)→v.on (There M')∧MOn (There M') M'∧∀ k,There M k→There M' k:=by
  grind
 have put:∀ {κ:Nat} {cs:List V} {v' : V},some (v',M.put κ (.cells cs))=some (v,M')→V.ons (There M) cs→v'.on (There (M.put κ (.cells cs)))→v.on (There M')∧MOn (There M') M'∧∀ k,There M k→There M' k:=by
  intro κ cs v' e h h';cases e;refine ⟨h',fun k cs' hk=>?_,fun k hk=>hk.put⟩;simp only [Mem.put] at hk;split at hk
  ·cases hk;exact ons_mono (fun _ h=>h.put) _ h
  ·exact ons_mono (fun _ h=>h.put) _ (hM k cs' hk)
 have putm:∀ {κ:Nat} {es:List (V×V×Nat)} {c:Nat} {v' : V},v'.on (There (M.put κ (.mp es c)))→v'.on (There (M.put κ (.mp es c)))∧MOn (There (M.put κ (.mp es c))) (M.put κ (.mp es c))∧∀ k,There M k→There (M.put κ (.mp es c)) k:=by
  intro κ es c v' h';refine ⟨h',fun k cs' hk=>?_,fun k hk=>hk.put⟩;simp only [Mem.put] at hk;split at hk
  ·cases hk
  ·exact ons_mono (fun _ h=>h.put) _ (hM k cs' hk)
 cases k
 case mov=>match xs,hs,hx with|[x],hs,hx=>exact keep hs hx.1
 case pick =>
  match xs,hs,hx with
  | [.d (.bool b),x,y],hs,hx =>
   simp only [Qm] at hs;exact keep hs (by cases b;exact hx.2.2.1;exact hx.2.1)
 case box n =>
  match xs,hs,hx with
  | [x],hs,hx =>
   simp only [Qm] at hs;split at hs<;>try (cases hs;done)
   split at hs<;>try (cases hs;done)
   exact put hs (Qn6 hx.1) There.self
 case alloc z =>
  match xs,hs with
  | [],hs =>
   simp only [Qm] at hs;split at hs<;>try (cases hs;done)
   exact put hs (hz _) There.self
 case build z ps =>
  have hs' : (if ps.length=(own1 xs).length&&(ps.zip (own1 xs)).all (fun (p,x)=>Qdy x&&x.cells.length==p.2&&decide (p.1+p.2≤z.length))
   then some (V.agg (Qiy z ((ps.zip (own1 xs)).map fun (p,x)=>(p.1,x.cells))),M) else none)=some (v,M'):=by cases xs<;>exact hs
  have hx:=(Q4r xs).2 hx;split at hs'<;>try (cases hs';done)
  refine keep hs' ?_;simp only [V.on];refine Qzg _ _ (hz _) fun q hq=>?_;simp only [List.mem_map] at hq;obtain ⟨⟨p,x⟩,hm,rfl⟩:=hq;exact Qn6 (Qh0.1 hx x (Qyo hm))
 case blit sz n z ps =>
  have hs' : (if ps.length=xs.length&&decide (0<sz)&&z.length==sz&&(ps.zip xs).all (fun (i,x)=>Qdy x&&x.cells.length==sz&&decide (i<n))
   then (toDs (Qiy (rep n z) ((ps.zip xs).map fun (i,x)=>(i*sz,x.cells)))).map fun ds=>(V.d (.lst sz (Qix sz n ds)),M) else none)=some (v,M'):=by cases xs<;>exact hs
  split at hs'<;>try (cases hs';done)
  simp only [Option.map_eq_some_iff,Prod.mk.injEq] at hs';obtain ⟨ds,_,rfl,rfl⟩:=hs';exact keep rfl trivial
 case bslice sz n z ps =>
  have hs' : (if ps.length=xs.length&&decide (0<sz)&&z.length==sz&&(ps.zip xs).all (fun (i,x)=>Qdy x&&x.cells.length==sz&&decide (i<n))&&(M κ).isNone
   then some (V.sl sz κ 0 n n,M.put κ (.cells (Qiy (rep n z) ((ps.zip xs).map fun (i,x)=>(i*sz,x.cells))))) else none)=some (v,M'):=by cases xs<;>exact hs
  split at hs'<;>try (cases hs';done)
  refine put hs' (Qzg _ _ (Q14 (hz _) n) fun q hq=>?_) There.self;simp only [List.mem_map] at hq;obtain ⟨⟨p,x⟩,hm,rfl⟩:=hq;exact Qn6 (Qh0.1 hx x (Qyo hm))
 case load agg n =>
  match xs,hs,hx with
  | [.ptr k off],hs,hx =>
   simp only [Qm] at hs;split at hs<;>try (cases hs;done)
   rename_i cs hk;split at hs<;>try (cases hs;done)
   split at hs
   ·exact keep hs (by simp only [V.on];exact (ons_dems _).2 (Qnz _ (Qn0 _ (hM k cs hk))))
   ·simp only [Option.map_eq_some_iff,Prod.mk.injEq] at hs;obtain ⟨c,hc,rfl,rfl⟩:=hs;exact keep rfl ((Qdn c).2 (Qe3 (hM k cs hk) hc))
  | [.cref cs],hs,hx =>
   simp only [Qm] at hs;split at hs<;>try (cases hs;done)
   split at hs
   ·grind [V.on,Qbc3]
   ·simp only [Option.map_eq_some_iff,Prod.mk.injEq] at hs;obtain ⟨c,hc,rfl,rfl⟩:=hs;exact keep rfl trivial
 case loadT =>
  match xs,hs,hx with
  | [.ptr k off],hs,hx =>
   simp only [Qm] at hs;split at hs<;>try (cases hs;done)
   rename_i cs hk;simp only [Option.map_eq_some_iff] at hs;obtain ⟨c,hc,hs⟩:=hs;have hc':=Qe3 (hM k cs hk) hc;exact put (congrArg some hs) (Qr8 _ (hM k cs hk) ((Qdn c).2 hc')) (Qdp (fun _ h=>h.put) _ ((Q95 c).2 hc'))
 case store n =>
  match xs,hs,hx with
  | [.ptr k off,x],hs,hx =>
   simp only [Qm] at hs;split at hs<;>try (cases hs;done)
   split at hs<;>try (cases hs;done)
   rename_i cs hk;split at hs<;>try (cases hs;done)
   exact put hs (Qfa.2 ⟨Qfa.2 ⟨Qnz _ (hM k cs hk),Qn6 ((Q7f x).2 hx.2.1)⟩,Qn0 _ (hM k cs hk)⟩) trivial
 case nilchk =>
  match xs,hs,hx with
  | [x],hs,hx =>
   simp only [Qm] at hs;split at hs<;>try (cases hs;done)
   all_goals exact keep hs hx.1
 case bin op tb =>
  match xs,hs,hx with
  | [.d x,.d y],hs,hx =>
   simp only [Qm,Option.map_eq_some_iff,Prod.mk.injEq] at hs;obtain ⟨c,hc,rfl,rfl⟩:=hs;exact keep rfl trivial
 case eqa neg ks =>
  match xs,hs,hx with
  | [.agg x,.agg y],hs,hx =>
   simp only [Qm,Option.map_eq_some_iff,Prod.mk.injEq] at hs;obtain ⟨c,hc,rfl,rfl⟩:=hs;exact keep rfl trivial
 case un op =>
  match xs,hs,hx with
  | [.d x],hs,hx =>
   simp only [Qm,Option.map_eq_some_iff,Prod.mk.injEq] at hs;obtain ⟨c,hc,rfl,rfl⟩:=hs;exact keep rfl trivial
 case conv k =>
  match xs,hs,hx with
  | [.d (.int k' n)],hs,hx=>exact keep hs trivial
 case bstr =>
  match xs,hs,hx with
  | [.d (.lst sz l)],hs,hx =>
   simp only [Qm,Option.map_eq_some_iff,Prod.mk.injEq] at hs;obtain ⟨c,hc,rfl,rfl⟩:=hs;exact keep rfl trivial
 case pnil neg =>
  match xs,hs,hx with
  | [x],hs,hx =>
   simp only [Qm,Option.map_eq_some_iff,Prod.mk.injEq] at hs;obtain ⟨c,hc,rfl,rfl⟩:=hs;exact keep rfl trivial
 case func f =>
  have hs' : some (V.clo f xs,M)=some (v,M'):=by cases xs<;>exact hs
  grind [V.on]
 case makes sz bytes z =>
  match xs,hs,hx with
  | [.d (.int .i64 l),.d (.int .i64 c)],hs,hx =>
   simp only [Qm] at hs;split at hs<;>try (cases hs;done)
   exact put hs (Q14 (hz _) _) There.self
 case slice sz lo hi =>
  match xs,hs,hx with
  | x::bs,hs,hx =>
   rw [Qyl] at hs;split at hs<;>try (cases hs;done)
   split at hs<;>try (cases hs;done)
   all_goals
    try simp only at hs
    split at hs<;>try (cases hs;done)
   ·exact keep hs trivial
   ·exact keep hs trivial
   ·refine keep hs ?_;split
    ·exact hx.1
    ·exact hx.1
   ·exact keep hs trivial
 case slcT sz =>
  match xs,hs,hx with
  | [x,.d (.int _ a)],hs,hx =>
   simp only [Qm] at hs;split at hs<;>try (cases hs;done)
   all_goals
    split at hs<;>try (cases hs;done)
    exact keep hs trivial
 case fld off =>
  match xs,hs,hx with
  | [.ptr k o],hs,hx=>exact keep hs (v':=.ptr k (o+off)) hx.1
  | [.cref cs],hs,hx=>exact keep hs trivial
 case field agg off n =>
  match xs,hs,hx with
  | [.agg cs],hs,hx =>
   simp only [Qm] at hs;split at hs<;>try (cases hs;done)
   split at hs
   ·exact keep hs (by simp only [V.on];exact Qnz _ (Qn0 _ hx.1))
   ·simp only [Option.map_eq_some_iff,Prod.mk.injEq] at hs;obtain ⟨c,hc,rfl,rfl⟩:=hs;exact keep rfl (Qe3 hx.1 hc)
 case idx sz =>
  match xs,hs,hx with
  | [x,.d (.int _ i)],hs,hx =>
   simp only [Qm] at hs;split at hs<;>try (cases hs;done)
   all_goals split at hs<;>try (cases hs;done)
   ·simp only [Option.map_eq_some_iff,Prod.mk.injEq] at hs;obtain ⟨c,hc,rfl,rfl⟩:=hs;exact keep rfl trivial
   ·simp only [Option.map_eq_some_iff,Prod.mk.injEq] at hs;obtain ⟨c,hc,rfl,rfl⟩:=hs;exact keep rfl trivial
   ·exact keep (v':=.ptr _ _) hs hx.1
 case idxarr sz len =>
  match xs,hs,hx with
  | [x,.d (.int _ i)],hs,hx =>
   simp only [Qm] at hs;split at hs<;>try (cases hs;done)
   split at hs<;>try (cases hs;done)
   ·exact keep (v':=.ptr _ _) hs hx.1
   ·exact keep hs trivial
 case idxval agg sz len =>
  match xs,hs,hx with
  | [.agg cs,.d (.int _ i)],hs,hx =>
   simp only [Qm] at hs;split at hs<;>try (cases hs;done)
   split at hs
   ·exact keep hs (by simp only [V.on];exact Qnz _ (Qn0 _ hx.1))
   ·simp only [Option.map_eq_some_iff,Prod.mk.injEq] at hs;obtain ⟨c,hc,rfl,rfl⟩:=hs;exact keep rfl (Qe3 hx.1 hc)
 case extract i =>
  match xs,hs,hx with
  | [.tup vs],hs,hx =>
   simp only [Qm,Option.map_eq_some_iff,Prod.mk.injEq] at hs;obtain ⟨c,hc,rfl,rfl⟩:=hs;exact keep rfl ((Q5u c).2 (Qe3 hx.1 hc))
 case len =>
  match xs,hs,hx with
  | [x],hs,hx =>
   simp only [Qm] at hs;split at hs<;>try (cases hs;done)
   ·exact keep hs trivial
   ·exact keep hs trivial
   ·exact keep hs trivial
   ·exact keep hs trivial
 case lens =>
  match xs,hs,hx with
  | [.d (.str s)],hs,hx=>exact keep hs trivial
 case idxs =>
  match xs,hs,hx with
  | [.d (.str s),.d (.int _ i)],hs,hx =>
   simp only [Qm] at hs;split at hs<;>try (cases hs;done)
   exact keep hs trivial
 case append sz bytes =>
  match xs,hs,hx with
  | [.nils sz',x],hs,hx =>
   simp only [Qm] at hs;split at hs<;>try (cases hs;done)
   split at hs<;>try (cases hs;done)
   exact keep hs trivial
  | [.own sz' l,x],hs,hx =>
   simp only [Qm] at hs;split at hs<;>try (cases hs;done)
   split at hs<;>try (cases hs;done)
   exact keep hs trivial
  | [.ownT sz' l,x],hs,hx =>
   simp only [Qm] at hs;split at hs<;>try (cases hs;done)
   split at hs<;>try (cases hs;done)
   exact keep hs trivial
  | [.ownV sz' l,x],hs,hx =>
   simp only [Qm] at hs;split at hs<;>try (cases hs;done)
   split at hs<;>try (cases hs;done)
   exact keep hs trivial
  | [.sl sz' k off len cap,x],hs,hx =>
   simp only [Qm] at hs;split at hs<;>try (cases hs;done)
   split at hs
   ·split at hs
    ·exact keep hs trivial
    ·split at hs<;>try (cases hs;done)
     exact keep hs hx.1
   ·split at hs<;>try (cases hs;done)
    exact keep hs trivial
 case appw sz bytes =>
  match xs,hs,hx with
  | [.nils sz',x],hs,hx =>
   simp only [Qm] at hs;split at hs<;>try (cases hs;done)
   split at hs<;>try (cases hs;done)
   exact keep hs trivial
  | [.sl sz' k off len cap,x],hs,hx =>
   simp only [Qm] at hs;split at hs<;>try (cases hs;done)
   rename_i l ys cs hl hy hk;split at hs
   ·split at hs
    ·exact keep hs trivial
    ·split at hs<;>try (cases hs;done)
     exact keep hs hx.1
   ·split at hs
    ·split at hs<;>try (cases hs;done)
     exact put hs (Qfa.2 ⟨Qfa.2 ⟨Qnz _ (hM k cs hk),Qbc3 _⟩,Qn0 _ (hM k cs hk)⟩) There.self
    ·split at hs<;>try (cases hs;done)
     exact keep hs trivial
 case max2 =>
  match xs,hs,hx with
  | [.d (.int k a),.d (.int k' b)],hs,hx =>
   simp only [Qm] at hs;split at hs<;>try (cases hs;done)
   exact keep hs trivial
 case min2 =>
  match xs,hs,hx with
  | [.d (.int k a),.d (.int k' b)],hs,hx =>
   simp only [Qm] at hs;split at hs<;>try (cases hs;done)
   exact keep hs trivial
 case call f=>cases xs<;>simp [Qm] at hs
 case callv=>cases xs<;>simp [Qm] at hs
 case callO=>cases xs<;>simp [Qm] at hs
 case isnil b=>cases xs<;>simp [Qm] at hs
 case lenm =>
  obtain ⟨rfl,⟨k,es,c,rfl,h1,rfl⟩|⟨es,c,rfl,rfl⟩⟩:=Q4w hs<;>exact keep rfl trivial
 case mkmap =>
  obtain ⟨_,h1,rfl,rfl⟩:=Q5y hs;exact putm There.self
 case lookup kd c z =>
  obtain ⟨es,rfl,h4⟩ : ∃ es,M'=M∧Qbc2 kd c z (xs.getD 1 .und) v es:=by
   obtain ⟨rfl,⟨b,key,es,cl,rfl,_,h⟩|⟨key,ents,cl,rfl,_,h⟩⟩:=Q0e hs
   all_goals grind
  rcases h4.2.2 with ⟨i,u,h5,h6,rfl⟩|⟨h5,h6,rfl⟩
  ·refine keep rfl ?_;cases c
   ·exact Qv5 (Q97 h6)
   ·exact ⟨Qv5 (Q97 h6),trivial,trivial⟩
  ·refine keep rfl ?_;cases c
   ·exact Qv5 h6
   ·exact ⟨Qv5 h6,trivial,trivial⟩
 case lookupT kd z =>
  obtain ⟨k,key,es,cl,rfl,h1,h2,h3,h4,h5⟩:=Qym hs;rcases h5 with ⟨i,sz,l,e,h6,h7,rfl,rfl⟩|⟨h6,h7,rfl,rfl⟩
  ·exact putm trivial
  ·exact keep rfl (Qv5 h7)
 case mapsetT kd =>
  obtain ⟨k,key,sz,l,es,cl,rfl,h1,h2,h3,rfl,rfl⟩:=Qyn hs;split<;>exact putm trivial
 case mapset kd =>
  obtain ⟨k,key,u,es,cl,rfl,h1,h2,h3,h4,rfl,rfl⟩:=Q3q hs;split<;>exact putm trivial
 case mapentry kd z =>
  obtain ⟨k,key,es,cl,rfl,h1,h2,h3,h4,h5⟩:=Q08 hs;rcases h5 with ⟨i,u,e,h6,h7,h8,rfl,rfl⟩|⟨h6,rfl,rfl⟩
  ·exact putm ⟨Qv5 h7,trivial,trivial⟩
  ·exact putm ⟨Qv5 h4,trivial,trivial⟩
 case entrystore =>
  obtain ⟨k,b,u,es,cl,i,e,rfl,h1,h2,h3,h4,rfl,rfl⟩:=Qye hs;exact putm trivial
end Go.Abs
end
section
namespace Go.Abs
open Go
def G.re (g:G) (f:Owner→Owner):G:={ g with own:=fun b=>f (g.own b) }
section
variable {g:G} {w:World}
mutual
theorem Qrg {f:Owner→Owner} (hs:∀ o i,f (o.sub i)=(f o).sub i) (he:f .ext = .ext):∀ (v:V) (ℓ:Owner) (u:Value),RV g w v ℓ u→RV (g.re f) w v (f ℓ) u
 | .und,_,_,_=>by simp [RV]
 | .d x,_,_,h=>by simpa [RV,G.re] using h
 | .agg cs,ℓ,u,h=>by
  simp only [RV] at h ⊢;obtain ⟨vs,rfl,h,h1⟩:=h;exact ⟨vs,rfl,RVs_re hs he cs ℓ 0 vs h,h1⟩
 | .tup cs,ℓ,u,h=>by
  simp only [RV] at h ⊢;obtain ⟨vs,rfl,h⟩:=h;exact ⟨vs,rfl,RVs_re hs he cs ℓ 0 vs h⟩
 | .own sz l,ℓ,u,h=>by
  simp only [RV] at h ⊢;rcases h with h|⟨b,cap,vals,e,h1,h2,h3⟩
  ·exact .inl h
  ·exact .inr ⟨b,cap,vals,e,h1,by simp [G.re,h2],h3⟩
 | .ownT sz l,ℓ,u,h=>by
  simp only [RV] at h ⊢;rcases h with h|⟨b,o0,cap,vals,e,h1,h2,h3⟩
  ·exact .inl h
  ·exact .inr ⟨b,o0,cap,vals,e,h1,by simp [G.re,h2],h3⟩
 | .ownV sz l,ℓ,u,h=>by
  simp only [RV] at h ⊢;rcases h with h|⟨b,cap,vals,e,h1,h2,h3⟩
  ·exact .inl h
  ·exact .inr ⟨b,cap,vals,e,h1,by simp [G.re,h2],h3⟩
 | .ptr k off,_,_,h=>by simpa [RV,G.re] using h
 | .nilp,_,_,h=>by simpa [RV] using h
 | .f x,_,u,h=>by
  simp only [RV] at h ⊢;exact Qfl (Q5t (g:=g) (g':=g.re f) fun b o h1 h2=>⟨h1,by show f (g.own b) = .ext;rw [h2,he]⟩) x u h
 | .nils _,_,_,h=>by simpa [RV] using h
 | .cref cs,_,_,h=>by simpa [RV,G.re] using h
 | .sl ..,_,_,h=>by simpa [RV,G.re] using h
 | .clo f' caps,_,u,h=>by
  simp only [RV] at h ⊢;obtain ⟨vs,rfl,h⟩:=h;have:=RVs_re hs he caps .ext 0 vs h;rw [he] at this;exact ⟨vs,rfl,this⟩
 | .mp k,_,_,h=>by simpa [RV,G.re] using h
theorem RVs_re {f:Owner→Owner} (hs:∀ o i,f (o.sub i)=(f o).sub i) (he:f .ext = .ext):∀ (cs:List V) (ℓ:Owner) (i:Nat) (us:List Value),RVs g w cs ℓ i us→RVs (g.re f) w cs (f ℓ) i us
 | [],_,_,_,h=>by simpa [RVs] using h
 | c::cs,ℓ,i,us,h=>by
  simp only [RVs] at h ⊢;obtain ⟨u,us,rfl,h1,h2⟩:=h;exact ⟨u,us,rfl,by rw [← hs];exact Qrg hs he c _ u h1,RVs_re hs he cs ℓ (i+1) us h2⟩
end
theorem Imm.refl (imm:Nat→Nat→Prop) (w:World):Imm imm imm w w:=⟨fun _ _ h=>h,fun _ _ _=>rfl⟩
theorem Kept.re (g:G) (w:World) (f:Owner→Owner) (p:Nat→Prop):Kept g w (g.re f) w p (fun o=>f o=o) :=
 ⟨Imm.refl _ _,fun _ _=>rfl,fun b hb _=>⟨hb,rfl,fun _=>Iff.rfl⟩⟩
open Classical in
noncomputable def ex (a b:Owner) (o:Owner):Owner:=if o=a then b else o
theorem Kept.ex (g:G) (w:World) (a b:Owner) (p:Nat→Prop):Kept g w (g.re (ex a b)) w p (fun o=>o≠a) :=
 ⟨Imm.refl _ _,fun _ _=>rfl,fun c hc _=>⟨by simp [G.re,Abs.ex,hc],rfl,fun _=>Iff.rfl⟩⟩
theorem Qbd4 {sz:Nat} {l:List (List D)} {f:Owner→Owner} {a b:Owner} {u:Value} (h:RV g w (.own sz l) a u) (hf:f a=b):RV (g.re f) w (.own sz l) b u:=by
 simp only [RV] at h ⊢;rcases h with h|⟨c,cap,vals,e,h1,h2,h3⟩
 ·exact .inl h
 ·exact .inr ⟨c,cap,vals,e,h1,by simp only [G.re];rw [h2,hf],h3⟩
theorem Q3r {sz:Nat} {l:List (List D)} {a b:Owner} {u:Value} (h:RV g w (.own sz l) a u):RV (g.re (ex a b)) w (.own sz l) b u:=by
 simp only [RV] at h ⊢;rcases h with h|⟨c,cap,vals,e,h1,h2,h3⟩
 ·exact .inl h
 ·exact .inr ⟨c,cap,vals,e,h1,by simp [G.re,Abs.ex,h2],h3⟩
theorem Qbev {sz:Nat} {l:List (List D)} {a b:Owner} {u:Value} (h:RV g w (.ownT sz l) a u):RV (g.re (ex a b)) w (.ownT sz l) b u:=by
 simp only [RV] at h ⊢;rcases h with h|⟨c,o0,cap,vals,e,h1,h2,h3⟩
 ·exact .inl h
 ·exact .inr ⟨c,o0,cap,vals,e,h1,by simp [G.re,Abs.ex,h2],h3⟩
theorem Q7j {sz:Nat} {l:List (List D)} {a b:Owner} {u:Value} (h:RV g w (.ownV sz l) a u):RV (g.re (ex a b)) w (.ownV sz l) b u:=by
 simp only [RV] at h ⊢;rcases h with h|⟨c,cap,vals,e,h1,h2,h3⟩
 ·exact .inl h
 ·exact .inr ⟨c,cap,vals,e,h1,by simp [G.re,Abs.ex,h2],h3⟩
theorem Q1o {sz:Nat} {l:List (List D)} {a:Owner} {u:Value} (h:RV g w (.ownV sz l) a u):∃ base cap,u = .slice base l.length cap∧l.length≤cap:=by
 simp only [RV] at h;rcases h with ⟨⟨c,rfl⟩,rfl⟩|⟨b,cap,_,_,h1,_,_,h4,_⟩
 ·exact ⟨c,0,rfl,Nat.le_refl _⟩
 ·exact ⟨_,cap,h1,h4⟩
theorem Qig {g' : G} {w' : World} {p:Nat→Prop} (h:Kept g w g' w' p (· = .ext)) {v:V} (hf:Flat v) (hp:v.on p) {ℓ ℓ' : Owner} {u:Value} (hv:RV g w v ℓ u):RV g' w' v ℓ' u :=
 Ql6 hf (Qch h (by rintro ℓ i rfl;rfl) rfl v .ext u rfl hp (Ql6 hf hv))
theorem Kept.weaken {g' : G} {w' : World} {p q:Nat→Prop} {keep keep' : Owner→Prop} (h:Kept g w g' w' p keep) (hp:∀ k,q k→p k) (hk:∀ o,keep' o→keep o):Kept g w g' w' q keep' :=
 ⟨h.imm,fun k hk'=>h.box k (hp k hk'),fun b hb hlt=>h.own b (hk _ hb) hlt⟩
theorem MR.kept {g' : G} {w' : World} {M:Mem} {nb:Nat} {keep:Owner→Prop} (hm:MR g w M nb) (h:Kept g w g' w' (There M) keep) (hon:MOn (There M) M)
  (hs:∀ ℓ i,keep ℓ→keep (ℓ.sub i)) (he:keep .ext) (hb:∀ k,There M k→keep (.box k))
  (himm:∀ b o,g'.imm b o→b<w'.heap.size∧∀ k,g'.own b ≠ .box k):MR g' w' M nb:=by
 refine ⟨fun k b hk=>?_,himm⟩;have ht:There M k:=by simp [There,hk]
 obtain ⟨h1,h2,h3⟩:=hm.box k b hk;cases b with
 | mp es c =>
  obtain ⟨ents,hh,hr⟩:=h3;have hlt:g.box k<w.heap.size:=by
   grind
  obtain ⟨k1,k2,_⟩:=h.own (g.box k) (by rw [h2];exact hb k ht) hlt;have hbox:=h.box k ht;exact ⟨h1,by rw [hbox,k1,h2],ents,by rw [hbox,k2,hh],Qi8 h (fun i=>hs (.box k) i (hb k ht)) hr⟩
 | cells cs =>
  obtain ⟨vals,e,hh,hr,ho⟩:=h3;have hlt:g.box k<w.heap.size:=by
   grind
  obtain ⟨k1,k2,_⟩:=h.own (g.box k) (by rw [h2];exact hb k ht) hlt;have hbox:=h.box k ht;refine ⟨h1,by rw [hbox,k1,h2],vals,e,by rw [hbox,k2,hh],RVs_mono h hs he cs (.box k) 0 vals (hb k ht) (hon k cs hk) hr,ho⟩
theorem Qfi {s:Sl} {a:Act} {dst:Option Nat} {v:V} {val:Value} (hsz:∀ d,dst=some d→d<a.tmps.size)
  (h:∀ t,dst≠some t→RV g w (s t) (.slot t []) (a.tmps.getD t undef)) (hv:∀ d,dst=some d→RV g w v (.slot d []) val) :
  ∀ t,RV g w (Qbd s dst v t) (.slot t []) ((a.put dst val).tmps.getD t undef):=by
 intro t;cases dst with
 | none=>exact h t (by simp)
 | some d =>
  have hd:=hsz d rfl;by_cases ht:t=d
  ·subst ht;simpa [Qbd,Sl.put,Act.put,hd] using hv t rfl
  ·have:=h t (by simpa using fun e=>ht e.symm);simpa [Qbd,Sl.put,Act.put,ht,Array.getElem?_setIfInBounds_ne (Ne.symm ht)] using this
theorem Qge (a:Act) (dst:Option Nat) (val:Value):(a.put dst val).tmps.size=a.tmps.size:=by cases dst<;>simp [Act.put]
theorem Qd7 (a:Act) (dst:Option Nat) (val:Value):(a.put dst val).defers=a.defers:=by cases dst<;>rfl
theorem Qfj {p:Nat→Prop} {s:Sl} {dst:Option Nat} {v:V} (h:∀ t,(s t).on p) (hv:v.on p):∀ t,(Qbd s dst v t).on p:=by
 intro t;cases dst with
 | none=>exact h t
 | some d =>
  simp only [Qbd,Sl.put]
  grind
theorem SR.step {n0 nt:Nat} {g0 g' : G} {w0 w' : World} {σ:St} {a a' : Act} {s' : Sl} {M' : Mem} (h:SR n0 nt g0 w0 σ a w g)
  (hm:MR g' w' M' σ.nb) (hf:Fr n0 g w g' w') (hs:∀ t,RV g' w' (s' t) (.slot t []) (a'.tmps.getD t undef)) (hsz:a'.tmps.size=a.tmps.size) (hd:a'.defers=a.defers)
  (hon:∀ t,(s' t).on (There M')) (honM:MOn (There M') M') (hout:∀ k cs,M' k=some (.cells cs)→k<n0→V.ons (· < n0) cs) :
  SR n0 nt g0 w0 ⟨s',M',σ.nb⟩ a' w' g' where
 mem:=hm
 slots:=hs
 size:=hsz.trans h.size
 defers:=hd.trans h.defers
 onS:=hon
 onM:=fun k cs hk=>⟨honM k cs hk,hout k cs hk⟩
 top:=h.top
 fr:=h.fr.next (Nat.le_refl _) hf
theorem SR.mOn {n0 nt:Nat} {g0:G} {w0:World} {σ:St} {a:Act} (h:SR n0 nt g0 w0 σ a w g):MOn (There σ.M) σ.M:=fun k cs hk=>(h.onM k cs hk).1
theorem SR.out {n0 nt:Nat} {g0:G} {w0:World} {σ:St} {a:Act} (h:SR n0 nt g0 w0 σ a w g):∀ k cs,σ.M k=some (.cells cs)→k<n0→V.ons (· < n0) cs:=fun k cs hk hlt=>(h.onM k cs hk).2 hlt
theorem SR.pure {n0 nt:Nat} {g0:G} {w0:World} {σ:St} {a:Act} (h:SR n0 nt g0 w0 σ a w g) {dst:Option Nat} {v:V} {val:Value} (hd:∀ d,dst=some d→d<nt)
  (hv:∀ d,dst=some d→RV g w v (.slot d []) val) (hon:v.on (There σ.M)):SR n0 nt g0 w0 ⟨Qbd σ.s dst v,σ.M,σ.nb⟩ (a.put dst val) w g :=
 h.step h.mem (Fr.refl _ _ _) (Qfi (fun d hd'=>by rw [h.size];exact hd d hd') (fun t _=>h.slots t) hv) (Qge _ _ _) (Qd7 _ _ _) (Qfj h.onS hon) h.mOn h.out
theorem SR.alloc {n0 nt:Nat} {g0:G} {w0:World} {σ:St} {a:Act} (h:SR n0 nt g0 w0 σ a w g) {dst:Option Nat} {κ:Nat} {cs:List V} {us:List Value} {e:TypeId} {v:V} {val:Value} (hd:∀ d,dst=some d→d<nt)
  (hκ:n0≤κ) (hκ' : κ<σ.nb) (hfree:σ.M κ=none) (hcs:CR g w cs us) (hon:V.ons (There σ.M) cs) (hvon:v.on (There (σ.M.put κ (.cells cs))))
  (hv:∀ (g' : G) (w' : World),g'.box κ=w.heap.size→RF g' w' v val) :
  ∃ g',SR n0 nt g0 w0 ⟨Qbd σ.s dst v,σ.M.put κ (.cells cs),σ.nb⟩ (a.put dst val) (w.alloc (.cells us.toArray e)) g':=by
 let g' : G:={ box:=fun k=>if k=κ then w.heap.size else g.box k,imm:=g.imm,own:=fun b=>if b=w.heap.size then .box κ else g.own b };have hkept:Kept g w g' (w.alloc (.cells us.toArray e)) (There σ.M) (fun _=>True):=by
  refine ⟨⟨fun _ _ hb=>hb,fun b o hb=>?_⟩,fun k hk=>?_,fun b _ hb=>⟨?_,?_,fun _=>Iff.rfl⟩⟩
  ·exact Qdo (RowKit.Below.heap_alloc w _ b (h.mem.imm b o hb).1)
  ·have:k≠κ:=by rintro rfl;simp [There,hfree] at hk
   simp [g',this]
  all_goals grind [Go.RowKit.Below.heap_alloc]
 have hslots:∀ t,RV g' (w.alloc (.cells us.toArray e)) (σ.s t) (.slot t []) (a.tmps.getD t undef):=fun t =>
  Qch hkept (fun _ _ h=>h) trivial _ _ _ trivial (h.onS t) (h.slots t)
 have himm:∀ b o,g'.imm b o→b<(w.alloc (.cells us.toArray e)).heap.size∧∀ k,g'.own b ≠ .box k:=by
  intro b o hb;obtain ⟨h1,h2⟩:=h.mem.imm b o hb
  grind [Go.World.size_alloc]
 have hm:=h.mem.kept hkept h.mOn (fun _ _ h=>h) trivial (fun _ _=>trivial) himm;have hmon:∀ k,There σ.M k→There (σ.M.put κ (.cells cs)) k:=fun k hk=>hk.put;refine ⟨g',h.step ?_ ?_ (Qfi (fun d hd'=>by rw [h.size];exact hd d hd') (fun t _=>hslots t) (fun d _=>hv g' _ (by simp [g']) _)) (Qge _ _ _) (Qd7 _ _ _) (Qfj (fun t=>Qdp hmon _ (h.onS t)) hvon) ?_ ?_⟩
 ·refine ⟨fun k b hk=>?_,himm⟩;simp only [Mem.put] at hk;split at hk
  ·rename_i heq;subst heq;cases hk;refine ⟨hκ',by simp [g'],us,e,?_,?_,hcs.one⟩
   ·simp only [g',if_true];exact heap_alloc_new w _
   ·refine (Qci _ _ _ _).2 ⟨hcs.len,fun j c u hc hu=>?_⟩;have hf:=hcs.rf j c u hc hu;exact Qch hkept (fun _ _ h=>h) trivial c _ u trivial (Qe3 hon hc) (hf _)
  ·exact hm.box k b hk
 ·exact ⟨rfl,rfl,rfl,by simp,hkept.imm,fun k hk=>(by
   grind),fun b hb _=>hkept.own b trivial hb⟩
 ·intro k cs' hk;simp only [Mem.put] at hk;split at hk
  ·cases hk;exact ons_mono hmon _ hon
  ·exact ons_mono hmon _ (h.mOn k cs' hk)
 ·intro k cs' hk hlt;simp only [Mem.put] at hk;rw [if_neg (by omega)] at hk;exact h.out k cs' hk hlt
end
end Go.Abs
end
section
namespace Go.Abs
open Go
section
variable (P:Program) {g:G} {w:World} {n0 nt:Nat} {g0:G} {w0:World} {σ:St} {a:Act}
theorem Qbfz (h:SR n0 nt g0 w0 σ a w g) {dst:Option Nat} (hd:∀ d,dst=some d→d<nt) (e:TypeId) {x v:V} {u:Value} {κ n:Nat} {M' : Mem} (hκ:n0≤κ) (hκ' : κ<σ.nb)
  (hf:Flat x) (hx:RF g w x u) (hon:x.on (There σ.M)) (hs:Qm n0 κ (.box n) [x] σ.M=some (v,M')) :
  ∃ val w' g',(Instr.box e u).run P w = .ok val w'∧SR n0 nt g0 w0 ⟨Qbd σ.s dst v,M',σ.nb⟩ (a.put dst val) w' g':=by
 have key:Qdy x=true∧σ.M κ=none∧v = .ptr κ 0∧M'=σ.M.put κ (.cells x.cells):=by
  simp only [Qm] at hs;split at hs<;>try (cases hs;done)
  rename_i h1 h2;split at hs<;>try (cases hs;done)
  rename_i hc;simp only [Bool.and_eq_true,decide_eq_true_eq,Option.isNone_iff_eq_none] at hc;cases hs;refine ⟨?_,hc.2,rfl,rfl⟩;cases x<;>simp_all [Qdy]
 obtain ⟨hok,hfree,rfl,rfl⟩:=key;obtain ⟨k1,k2,k3⟩:=Q4v hf hx hok;obtain ⟨g',hsr⟩:=h.alloc (dst:=dst) (v:=.ptr κ 0) (val:=.pointer (some ⟨w.heap.size,0,none⟩)) (e:=e) hd hκ hκ' hfree ⟨k1,k2,k3⟩ (Qn6 hon) There.self
  (fun g' w' hg=>Qm0.2 (by rw [hg]))
 exact ⟨.pointer (some ⟨w.heap.size,0,none⟩),w.alloc (.cells u.cells e),g',by simp [Instr.box,newVar,newRow],by simpa using hsr⟩
theorem Qbc4 (h:SR n0 nt g0 w0 σ a w g) {dst:Option Nat} (hd:∀ d,dst=some d→d<nt) (e:TypeId) {z:List V} (hz:Qrf P e=some z) {v:V} {κ:Nat} {M' : Mem} (hκ:n0≤κ) (hκ' : κ<σ.nb)
  (hs:Qm n0 κ (.alloc z) [] σ.M=some (v,M')) :
  ∃ val w' g',(Instr.alloc e true (.tuple #[])).run P w = .ok val w'∧SR n0 nt g0 w0 ⟨Qbd σ.s dst v,M',σ.nb⟩ (a.put dst val) w' g':=by
 obtain ⟨i,zv,hi,hzv,hcz,hlt⟩:=Qji P hz;simp only [Qm] at hs;split at hs<;>try (cases hs;done)
 rename_i hfree;simp only [Option.isNone_iff_eq_none] at hfree;cases hs;obtain ⟨g',hsr⟩:=h.alloc (dst:=dst) (v:=.ptr κ 0) (val:=.pointer (some ⟨w.heap.size,0,none⟩)) (e:=e) hd hκ hκ' hfree (hcz g w) (ons_mono (by simp) z (ons_lt (n:=0) z (hlt 0))) There.self
  (fun g' w' hg=>Qm0.2 (by rw [hg]))
 exact ⟨.pointer (some ⟨w.heap.size,0,none⟩),w.alloc (.cells zv.cells e),g',by simp [Instr.alloc,Qpj P hi hzv,newVar,newRow],by simpa using hsr⟩
theorem Q15 (z:List Value) (hz:0<z.length):∀ (n j:Nat),j<n*z.length→(List.replicate n z).flatten[j]? = z[j % z.length]?
 | 0,j,h=>by simp at h
 | n+1,j,h=>by
  simp only [List.replicate_succ,List.flatten_cons];rcases Nat.lt_or_ge j z.length with hlt|hge
  ·rw [List.getElem?_append_left hlt,Nat.mod_eq_of_lt hlt]
  ·rw [List.getElem?_append_right hge,Q15 z hz n (j-z.length) (by rw [Nat.add_mul] at h;omega)];congr 1
   conv=>rhs;rw [← Nat.sub_add_cancel hge,Nat.add_mod_right]
theorem Qpk (z:Array Value) (hz:0<z.size) (n:Nat):madeCells z (n*z.size)=(List.replicate n z.toList).flatten.toArray:=by
 apply Array.ext';apply List.ext_getElem?;intro j;rcases Nat.lt_or_ge j (n*z.size) with hlt|hge
 ·grind [Q15,Nat.mod_lt,Go.madeCells]
 simp_all [List.getElem?_eq_none,Go.madeCells]
theorem Qbc5 (h:SR n0 nt g0 w0 σ a w g) {dst:Option Nat} (hd:∀ d,dst=some d→d<nt) (t e:TypeId) (ht:P.underlying t=some (.slice e)) {z:List V} (hz:Qrf P e=some z)
  {x y v:V} {u q:Value} {κ:Nat} {M' : Mem} (hκ:n0≤κ) (hκ' : κ<σ.nb) (hx:RF g w x u) (hy:RF g w y q)
  (hs:Qm n0 κ (.makes (P.cellsOf e) (P.bytesOf e) z) [x,y] σ.M=some (v,M')) :
  ∃ val w' g',(Instr.makeSlice t u q).run P w = .ok val w'∧SR n0 nt g0 w0 ⟨Qbd σ.s dst v,M',σ.nb⟩ (a.put dst val) w' g':=by
 obtain ⟨i,zv,hi,hzv,hcz,hlt⟩:=Qji P hz
 match x,y,hs with
 | .d (.int .i64 l),.d (.int .i64 c),hs =>
  simp only [Qm] at hs;split at hs<;>try (cases hs;done)
  rename_i hc;simp only [Bool.and_eq_true,decide_eq_true_eq,beq_iff_eq,Option.isNone_iff_eq_none] at hc;obtain ⟨⟨⟨⟨⟨⟨h0,hlc⟩,hlim⟩,hby⟩,hzl⟩,hsz⟩,hfree⟩:=hc;cases hs;have hcl:=(hcz g w).len;have hzs:zv.cells.size=P.cellsOf e:=by grind
  have hbi:P.bytesOf e=i.bytes:=by simp [Program.bytesOf,hi]
  have hbytes:(i.bytes:Int)*c≤281474976710656:=by
   have h1:(i.bytes:Int)≤128:=by omega
   have h2:c≤1099511627776:=by simpa [lim] using hlim
   have h3:(i.bytes:Int)*c≤128*c:=Int.mul_le_mul_of_nonneg_right h1 (by omega);omega
  have hrun:=run_make (P:=P) w t e i zv ht hi hzv .i64 .i64 l c h0 hlc hbytes (by simp only [lim] at hlim;omega);rw [← Qdx P hi,← hzs,Qpk zv.cells (by omega)] at hrun;rw [Qov hx,Qov hy];obtain ⟨g',hsr⟩:=h.alloc (dst:=dst) (v:=.sl (P.cellsOf e) κ 0 l.toNat c.toNat) (val:=.slice (some ⟨w.heap.size,0,none⟩) l.toNat c.toNat) (e:=e) hd hκ hκ' hfree (CR.rep (hcz g w) c.toNat)
   (Q14 (ons_mono (by simp) z (ons_lt (n:=0) z (hlt 0))) _) There.self (fun g' w' hg=>Q4u.2 (by rw [hg]))
  grind
theorem Qbai (h:SR n0 nt g0 w0 σ a w g) {dst:Option Nat} (hd:∀ d,dst=some d→d<nt) (t e:TypeId) (ht:P.underlying t=some (.slice e)) {z:List V} (hz:Qrf P e=some z) (n:Nat) (hn:n*P.cellsOf e≤65536) (is:List Nat)
  {xs:List V} {us:List Value} {v:V} {κ:Nat} {M' : Mem} (hκ:n0≤κ) (hκ' : κ<σ.nb) (hfl:∀ x∈xs,Flat x) (hx:RFs g w xs us) (hon:V.ons (There σ.M) xs)
  (hs:Qm n0 κ (.bslice (P.cellsOf e) n z is) xs σ.M=some (v,M')) :
  ∃ val w' g',(Instr.buildSlice t n (is.zip us).toArray).run P w = .ok val w'∧SR n0 nt g0 w0 ⟨Qbd σ.s dst v,M',σ.nb⟩ (a.put dst val) w' g':=by
 obtain ⟨i,zv,hi,hzv,hcz,hlt⟩:=Qji P hz;have hs' : (if is.length=xs.length&&decide (0<P.cellsOf e)&&z.length==P.cellsOf e&&(is.zip xs).all (fun (i,x)=>Qdy x&&x.cells.length==P.cellsOf e&&decide (i<n))&&(σ.M κ).isNone
   then some (V.sl (P.cellsOf e) κ 0 n n,σ.M.put κ (.cells (Qiy (rep n z) ((is.zip xs).map fun (i,x)=>(i*P.cellsOf e,x.cells))))) else none)=some (v,M'):=by cases xs<;>exact hs
 split at hs'<;>try (cases hs';done)
 rename_i hc;simp only [Bool.and_eq_true,decide_eq_true_eq,beq_iff_eq,Option.isNone_iff_eq_none,List.all_eq_true] at hc;obtain ⟨⟨⟨⟨hil,hsz⟩,hzl⟩,hall⟩,hfree⟩:=hc;cases hs';have hcl:=(hcz g w).len;have hzs:zv.cells.size=P.cellsOf e:=by grind
 have hrep:(rep n z).length=n*P.cellsOf e:=by simp [rep,hzl]
 have hcrep:=CR.rep (hcz g w) n;obtain ⟨out,hfill,hcr⟩:=Qsv (g:=g) (w:=w) (fun i=>some (i*P.cellsOf e,P.cellsOf e)) (rep n z) _ hcrep is (is.map (· * P.cellsOf e)) (is.map fun _=>P.cellsOf e) xs us hx hfl hil (by simp [hil]) (by simp [hil])
  (fun j x i o s hxj hij hoj hsj=>by
   simp only [List.getElem?_map,Option.map_eq_some_iff] at hoj hsj;obtain ⟨p,hp,rfl⟩:=hoj;obtain ⟨p',hp',rfl⟩:=hsj;rw [hij] at hp;cases hp;have:=hall (i,x) (List.mem_of_getElem? (i:=j) (by grind));simp only [Bool.and_eq_true,beq_iff_eq,decide_eq_true_eq] at this;refine ⟨this.1.1,this.1.2,?_,rfl⟩;rw [hrep]
   calc i*P.cellsOf e+P.cellsOf e=(i+1)*P.cellsOf e:=by rw [Nat.add_mul];omega
    _≤n*P.cellsOf e:=Nat.mul_le_mul_right _ this.2)
 have hons:V.ons (There σ.M) (Qiy (rep n z) ((is.zip xs).map fun (i,x)=>(i*P.cellsOf e,x.cells))):=by
  refine Qzg _ _ (Q14 (ons_mono (by simp) z (ons_lt (n:=0) z (hlt 0))) n) fun q hq=>?_;simp only [List.mem_map] at hq;obtain ⟨⟨p,x⟩,hm,rfl⟩:=hq;exact Qn6 (Qh0.1 hon x (Qyo hm))
 have e1:((is.map (· * P.cellsOf e)).zip xs).map (fun p=>(p.1,p.2.cells))=(is.zip xs).map fun (i,x)=>(i*P.cellsOf e,x.cells):=by
  rw [List.zip_map_left,List.map_map];rfl
 rw [e1] at hcr;obtain ⟨g',hsr⟩:=h.alloc (dst:=dst) (v:=.sl (P.cellsOf e) κ 0 n n) (val:=.slice (some ⟨w.heap.size,0,none⟩) n n) (e:=e) hd hκ hκ' hfree hcr hons There.self (fun g' w' hg=>Q4u.2 (by rw [hg]));refine ⟨_,_,g',?_,hsr⟩;have hm:=Qpk zv.cells (by omega) n;rw [hzs] at hm;unfold madeCells at hm;have hnb:¬ (16777216<n*P.cellsOf e):=by omega
 have hso:∀ w,(sizeOf e).run P w = .ok (P.cellsOf e) w:=fun w=>by rw [Qf4 P hi,Qdx P hi]
 by_cases hn0:n*P.cellsOf e=0
 ·have:n=0:=by
   grind [Nat.mul_eq_zero]
  simp_all [absurd,List.replicate_zero,List.flatten_nil,List.zip_nil_left,Go.Instr.fill,Option.some.injEq,Go.Instr.buildSlice,Go.run_underlying,Go.newRow,Qpj,Go.Array.range_zero']
 ·rw [← hm] at hfill;rw [hzs] at hfill;simp [Instr.buildSlice,run_underlying ht,hso,Qpj P hi hzv,hnb,hn0,hzs,hfill,newRow]
end
end Go.Abs
end
section
namespace Go.Abs
open Go
set_option maxHeartbeats 1000000
section
variable (P:Program) {g:G} {w:World} {n0 nt:Nat} {g0:G} {w0:World} {σ:St} {a:Act}
theorem Qxk {v:V} (h:∀ sz l,v ≠ .own sz l):v.top=v.dem:=by
 cases v<;>first|rfl|exact absurd rfl (h _ _)
theorem Qyp (hm:MR g w σ.M σ.nb) {k:Nat} {cs:List V} (hk:σ.M k=some (.cells cs)) (new:Array Value) :
  Kept g w g (w.setRow (g.box k) new) (There σ.M) (fun o=>o ≠ .box k):=by
 obtain ⟨_,hb,_⟩:=hm.box k _ hk;refine ⟨⟨fun _ _ h=>h,fun b o hbo=>?_⟩,fun _ _=>rfl,fun b hbk hlt=>⟨rfl,?_,fun _=>Iff.rfl⟩⟩
 ·have:b≠g.box k:=by rintro rfl;exact (hm.imm _ _ hbo).2 k hb
  exact Qdo (setRow_other w _ _ _ this)
 ·have:b≠g.box k:=by rintro rfl;exact hbk hb
  exact setRow_other w _ _ _ this
theorem Qnj {o:Owner} {i k:Nat} (h:o ≠ .box k):o.sub i ≠ .box k:=by
 cases o<;>simp_all [Owner.sub]
theorem SR.row (h:SR n0 nt g0 w0 σ a w g) {k:Nat} {cs new:List V} {us vals:List Value} {e:TypeId} {f:Owner→Owner} (hbox:∀ o j,f o = .box j↔o = .box j) (hfree:∀ o,Prot o→f o=o) (hk:σ.M k=some (.cells cs))
  (hh:w.heap[g.box k]? = some (.cells vals.toArray e (0,0))) (hnew:RVs (g.re f) (w.setRow (g.box k) us.toArray) new (.box k) 0 us) (h1:∀ u∈us,u.oneCell'=true)
  {s' : Sl} {a' : Act} (hs:∀ t,RV (g.re f) (w.setRow (g.box k) us.toArray) (s' t) (.slot t []) (a'.tmps.getD t undef)) (hsz:a'.tmps.size=a.tmps.size) (hd:a'.defers=a.defers)
  (hons:∀ t,(s' t).on (There σ.M)) (honn:V.ons (There σ.M) new) (hout:k<n0→V.ons (· < n0) new) (hoth:∀ j cs',j≠k→σ.M j=some (.cells cs')→∀ i c u,cs'[i]? = some c→RV g w c (.cell j i) u→RV (g.re f) w c (.cell j i) u) (hothm:∀ j i sz l u,RV g w (.own sz l) (.cell j i) u→RV (g.re f) w (.own sz l) (.cell j i) u) :
  SR n0 nt g0 w0 ⟨s',σ.M.put k (.cells new),σ.nb⟩ a' (w.setRow (g.box k) us.toArray) (g.re f):=by
 obtain ⟨hltnb,hb,_⟩:=h.mem.box k _ hk;have hkept:=Qyp (g:=g) (w:=w) h.mem hk us.toArray;have hkept2:Kept (g.re f) w (g.re f) (w.setRow (g.box k) us.toArray) (There σ.M) (fun o=>o ≠ .box k) :=
  ⟨hkept.imm,fun _ _=>rfl,fun b hbk hlt=>⟨rfl,(hkept.own b (fun e=>hbk (by
   show f (g.own b)=_
   grind)) hlt).2.1,fun _=>Iff.rfl⟩⟩
 have hthere:∀ j,There σ.M j→There (σ.M.put k (.cells new)) j:=fun j hj=>hj.put;refine h.step ?_ ?_ hs hsz hd (fun t=>Qdp hthere _ (hons t)) ?_ ?_
 ·refine ⟨fun j b hj=>?_,fun b o hbo=>?_⟩
  ·simp only [Mem.put] at hj;split at hj
   ·rename_i he;subst he;cases hj;refine ⟨hltnb,(hbox _ _).2 hb,us,e,setRow_heap w _ _ _ e _ hh,hnew,h1⟩
   ·rename_i hne;obtain ⟨k1,k2,k3⟩:=h.mem.box j b hj;refine ⟨k1,(hbox _ _).2 k2,?_⟩;cases b with
    | mp es c =>
     obtain ⟨ents,hh',hr'⟩:=k3;have hbj:g.box j≠g.box k:=by
      grind
     exact ⟨ents,(setRow_other w _ _ _ hbj).trans hh',Qi8 (g:=g.re f) hkept2 (fun _=>by simp) (Q98 (g:=g) (g':=g.re f) (Imm.refl _ _) (fun sz l i u hv=>hothm j i sz l u hv) hr')⟩
    | cells cs' =>
     obtain ⟨vs,e',hh',hr',ho'⟩:=k3;have hbj:g.box j≠g.box k:=by
      grind
     refine ⟨vs,e',(setRow_other w _ _ _ hbj).trans hh',(Qci _ _ _ _).2 ⟨Qng hr',fun i c u hc hu=>?_⟩,ho'⟩;have hru:=((Qci _ _ _ _).1 hr').2 i c u hc hu;have h2:=hoth j cs' hne hj i c u hc (by simpa [Owner.sub] using hru);have hkept' : Kept (g.re f) w (g.re f) (w.setRow (g.box k) us.toArray) (There σ.M) (fun o=>o ≠ .box k) :=
      ⟨hkept.imm,fun _ _=>rfl,fun b hbk hlt=>⟨rfl,(hkept.own b (fun e=>hbk ((hbox _ _).2 e)) hlt).2.1,fun _=>Iff.rfl⟩⟩
     have:=Qch hkept' (fun _ i h=>Qnj h) (by simp) c (.cell j i) u (by simp) (Qe3 (h.mOn j cs' hj) hc) h2;simpa [Owner.sub] using this
  ·obtain ⟨h3,h4⟩:=h.mem.imm b o hbo;refine ⟨by rw [setRow_size];exact h3,fun j e=>h4 j ((hbox _ _).1 e)⟩
 ·refine ⟨rfl,rfl,rfl,by simp,hkept.imm,fun _ _=>rfl,fun b hb' ho=>?_⟩;have hne:g.own b ≠ .box k:=by intro e;rw [e] at ho;exact ho
  exact ⟨hfree _ ho,(hkept.own b hne hb').2.1,fun _=>Iff.rfl⟩
 ·intro j cs' hj;simp only [Mem.put] at hj;split at hj
  ·grind [ons_mono]
  ·exact ons_mono hthere _ (h.mOn j cs' hj)
 ·intro j cs' hj hlt;simp only [Mem.put] at hj;split at hj
  ·grind
  ·exact h.out j cs' hj hlt
theorem Qh1 {α:Type} (a:List α) (b:List α) (off n:Nat) (hb:b.length=n) (hle:off+n≤a.length) (i:Nat) :
  (a.take off++b++a.drop (off+n))[i]? = if i<off then a[i]? else if i<off+n then b[i-off]? else a[i]?:=by
 grind
theorem Q8a (h:SR n0 nt g0 w0 σ a w g) (t:TypeId) {d:TypeDesc} (hd:P.underlying t=some d) {p v r:V} {up uv:Value} {κ:Nat} {M' : Mem}
  (hp:RF g w p up) (hpon:p.on (There σ.M)) (hvon:v.on (There σ.M)) (tk:Option Nat) (hv:match tk with|none=>RF g w v uv∧Flat v|some t0=>v=σ.s t0∧uv=a.tmps.getD t0 undef)
  (hs:Qm n0 κ (.store (P.cellsOf t)) [p,v] σ.M=some (r,M')) :
  ∃ w' g',(Instr.storeAt t up uv).run P w = .ok () w'∧SR n0 nt g0 w0 ⟨(match tk with|none=>σ.s|some t0=>σ.s.put t0 v.dem),M',σ.nb⟩ a w' g':=by
 have key:∃ k off cs,p = .ptr k off∧Qdy v=true∧σ.M k=some (.cells cs)∧v.topS.cells.length=P.cellsOf t∧off+P.cellsOf t≤cs.length∧(n0≤k∨v.lt n0=true) ∧
   M'=σ.M.put k (.cells (cs.take off++v.topS.cells++cs.drop (off+P.cellsOf t))):=by
  cases p<;>try (simp [Qm] at hs;done)
  rename_i k off;simp only [Qm] at hs;split at hs<;>try (cases hs;done)
  rename_i h1 h2;split at hs<;>try (cases hs;done)
  rename_i cs hk;split at hs<;>try (cases hs;done)
  rename_i hc;simp only [Bool.and_eq_true,decide_eq_true_eq,Bool.or_eq_true] at hc;cases hs;refine ⟨k,off,cs,rfl,?_,hk,hc.1.1,hc.1.2,hc.2,rfl⟩;cases v<;>simp_all [Qdy]
 obtain ⟨k,off,cs,rfl,hok,hk,hlen,hle,hsc,rfl⟩:=key;rw [Qm0] at hp;subst hp;obtain ⟨hkb,hbo,vals,e,hh,hr,h1⟩:=h.mem.box k _ hk;obtain ⟨hvl,hrv⟩:=(Qci _ _ _ _).1 hr;obtain ⟨i,hi⟩:=Qf5 P hd;have main:∀ (f:Owner→Owner) (ncs:List V) (nus:List Value) (s' : Sl),(∀ o j,f o = .box j↔o = .box j)→(∀ o,Prot o→f o=o) →
   v.topS.cells=ncs→uv.cells.toList=nus→nus.length=ncs.length→(∀ u∈nus,u.oneCell'=true) →
   (∀ (j:Nat) c u,ncs[j]? = some c→nus[j]? = some u→RV (g.re f) w c (.cell k (off+j)) u) →
   (∀ j i c u,c.on (There σ.M)→RV g w c (.cell j i) u→RV (g.re f) w c (.cell j i) u) →
   (∀ t,RV (g.re f) w (s' t) (.slot t []) (a.tmps.getD t undef))→(∀ t,(s' t).on (There σ.M)) →
   ∃ w' g',(Instr.storeAt t (.pointer (some ⟨g.box k,off,none⟩)) uv).run P w = .ok () w'∧SR n0 nt g0 w0 ⟨s',σ.M.put k (.cells (cs.take off++ncs++cs.drop (off+P.cellsOf t))),σ.nb⟩ a w' g':=by
  intro f ncs nus s' hbj hfr hncs hnus hnl hn1 hnr hoth hs' hons';have hnlen:ncs.length=P.cellsOf t:=by grind
  have hst:=run_storeCells_at (P:=P) (g.box k) off e nus 0 vals.toArray w hh (by simp;omega) hn1;simp only [Nat.add_zero] at hst;have hrow:(vals.toArray.toList.take off++nus++vals.toArray.toList.drop (off+nus.length))=vals.take off++nus++vals.drop (off+P.cellsOf t):=by rw [hnl,hnlen]
  rw [hrow] at hst;have hkept:=Qyp (g:=g) (w:=w) h.mem hk (vals.take off++nus++vals.drop (off+P.cellsOf t)).toArray;have hboxk:f (.box k) = .box k:=(hbj _ k).2 rfl;have hkept' : Kept (g.re f) w (g.re f) (w.setRow (g.box k) (vals.take off++nus++vals.drop (off+P.cellsOf t)).toArray) (There σ.M) (fun o=>o ≠ .box k) :=
   ⟨hkept.imm,fun _ _=>rfl,fun b hbk hlt=>⟨rfl,(hkept.own b (fun e=>hbk (by
    show f (g.own b)=_;rw [e];exact hboxk)) hlt).2.1,fun _=>Iff.rfl⟩⟩
  have hmono:∀ c ℓ u,ℓ ≠ .box k→c.on (There σ.M)→RV (g.re f) w c ℓ u→RV (g.re f) (w.setRow (g.box k) (vals.take off++nus++vals.drop (off+P.cellsOf t)).toArray) c ℓ u :=
   fun c ℓ u hℓ hc hv=>Qch hkept' (fun _ i h=>Qnj h) (by simp) c ℓ u hℓ hc hv
  have honn:V.ons (There σ.M) ncs:=by grind [Qn6,Q7f]
  refine ⟨_,g.re f,?_,SR.row h hbj hfr hk hh ((Qci _ _ _ _).2 ⟨by simp [hvl,hnl],fun j c u hc hu=>?_⟩) (fun u hu=>?_) (fun t=>hmono _ _ _ (by simp) (hons' t) (hs' t)) rfl rfl hons' ?_ (fun hlt=>?_) (fun j cs' _ hj i c u hc hru=>hoth j i c u (Qe3 (h.mOn j cs' hj) hc) hru) (fun j i sz l u hv=>hoth j i (.own sz l) u trivial hv)⟩
  ·have hcs:uv.cells.size=P.cellsOf t:=by grind
   simp_all [Go.Instr.storeAt,Go.Instr.sureAddr,Go.storeVar,Go.Sem.run_bind,Go.Sem.run_pure,Go.Result.andThen_ok,Qf4,Qdx]
  ·rw [Qh1 cs ncs off _ hnlen hle] at hc;rw [Qh1 vals nus off _ (by omega) (by omega)] at hu;simp only [Nat.zero_add,Owner.sub];split at hc
   ·rename_i hlt;rw [if_pos hlt] at hu;exact hmono _ _ _ (by simp) (Qe3 (h.mOn k cs hk) hc) (hoth k j c u (Qe3 (h.mOn k cs hk) hc) (by grind [Owner.sub]))
   ·rename_i hge;rw [if_neg hge] at hu;split at hc
    ·rename_i hlt;rw [if_pos hlt] at hu
     grind [Qe3]
    ·rename_i hge2;rw [if_neg hge2] at hu;exact hmono _ _ _ (by simp) (Qe3 (h.mOn k cs hk) hc) (hoth k j c u (Qe3 (h.mOn k cs hk) hc) (by grind [Owner.sub]))
  ·grind
  ·exact Qfa.2 ⟨Qfa.2 ⟨Qnz _ (h.mOn k cs hk),honn⟩,Qn0 _ (h.mOn k cs hk)⟩
  ·have hvlt:v.lt n0=true:=by
    grind
   have:=(Q7f (p:=(· < n0)) v).2 (Qbcx v hvlt);have hc':=Qn6 this;rw [hncs] at hc';exact Qfa.2 ⟨Qfa.2 ⟨Qnz _ (h.out k cs hk hlt),hc'⟩,Qn0 _ (h.out k cs hk hlt)⟩
 have flatcase:(∀ sz l,v ≠ .ownV sz l)→v.topS=v.dem→RF g w v.dem uv→(∀ t,RV g w ((match tk with|none=>σ.s|some t0=>σ.s.put t0 v.dem) t) (.slot t []) (a.tmps.getD t undef))→(∀ t,((match tk with|none=>σ.s|some t0=>σ.s.put t0 v.dem) t).on (There σ.M)) →
   ∃ w' g',(Instr.storeAt t (.pointer (some ⟨g.box k,off,none⟩)) uv).run P w = .ok () w'∧SR n0 nt g0 w0 ⟨(match tk with|none=>σ.s|some t0=>σ.s.put t0 v.dem),σ.M.put k (.cells (cs.take off++v.topS.cells++cs.drop (off+P.cellsOf t))),σ.nb⟩ a w' g':=by
  intro hnv hno hrf hsl hsl';have hok' : Qdy v.dem=true:=by cases v<;>first|exact absurd rfl (hnv _ _)|simp_all [Qdy,V.dem]
  obtain ⟨k1,k2,k3⟩:=Q4v (Qdj v) hrf hok';have hm:=main id v.dem.cells uv.cells.toList;rw [hno] at hm ⊢;exact hm _ (fun _ _=>Iff.rfl) (fun _ _=>rfl) rfl rfl k1 k3 (fun j c u hc hu=>k2 j c u hc hu _) (fun j i c u _ hv=>hv) hsl hsl'
 cases tk with
 | none =>
  obtain ⟨hrf,hfl⟩:=hv;refine flatcase (fun sz l e=>by rw [e] at hfl;simp [Flat,V.dem] at hfl) (by rw [Q12 hfl];exact hfl.symm) (by rw [hfl];exact hrf) h.slots h.onS
 | some t0 =>
  obtain ⟨hvs,huv⟩:=hv;have hslot:=h.slots t0;rw [← hvs,← huv] at hslot;have hput:∀ (f:Owner→Owner),RV (g.re f) w v.dem (.slot t0 []) uv→(∀ t,t≠t0→RV (g.re f) w (σ.s t) (.slot t []) (a.tmps.getD t undef))→∀ t,RV (g.re f) w (σ.s.put t0 v.dem t) (.slot t []) (a.tmps.getD t undef):=by
   grind [Sl.put]
  have hon' : ∀ t,(σ.s.put t0 v.dem t).on (There σ.M):=by
   intro t;simp only [Sl.put];split
   ·exact (Qdn v).2 hvon
   ·exact h.onS t
  by_cases hown:∃ sz l,v = .own sz l
  ·obtain ⟨sz,l,rfl⟩:=hown;have hkx:=Kept.ex g w (.slot t0 []) (.cell k off) (There σ.M);have hsub:∀ (ℓ:Owner) (i:Nat),ℓ ≠ .slot t0 []→ℓ.sub i ≠ .slot t0 []:=by
    intro ℓ i hne;cases ℓ<;>simp_all [Owner.sub]
   have hcells:(V.own sz l).topS.cells=[.own sz l]:=rfl;have huc:uv.cells.toList=[uv]:=by
    have:=Ql5 hslot;simp only [RD] at this;obtain ⟨a,cap,rfl,_⟩:=this;rfl
   refine main (ex (.slot t0 []) (.cell k off)) [.own sz l] [uv] _ (fun o j=>?_) (fun o ho=>?_) hcells huc rfl (fun u hu=>?_) (fun j c u hc hu=>?_) (fun j i c u hc hv=>Qch hkx hsub (by simp) c _ u (by simp) hc hv) (hput _ ?_ ?_) hon'
   ·unfold ex;grind
   ·unfold ex;rw [if_neg];rintro rfl;exact ho
   ·simp at hu;subst hu;exact Q0d (Ql5 hslot)
   ·grind [Q3r]
   ·exact Qig (hkx.weaken (fun _ h=>h) (by rintro o rfl;simp)) (Qdj _) ((Qdn _).2 hvon) (Qha _ _ (.slot t0 []) _ hslot)
   ·intro t hne;exact Qch hkx hsub (by simp) _ _ _ (by simp [hne]) (h.onS t) (h.slots t)
  ·by_cases hownV:∃ sz l,v = .ownV sz l
   ·obtain ⟨sz,l,rfl⟩:=hownV;have hkx:=Kept.ex g w (.slot t0 []) (.cell k off) (There σ.M);have hsub:∀ (ℓ:Owner) (i:Nat),ℓ ≠ .slot t0 []→ℓ.sub i ≠ .slot t0 []:=by
     intro ℓ i hne;cases ℓ<;>simp_all [Owner.sub]
    have hcells:(V.ownV sz l).topS.cells=[.ownV sz l]:=rfl;have huc:uv.cells.toList=[uv]:=by
     obtain ⟨a,cap,rfl,_⟩:=Q1o hslot;rfl
    refine main (ex (.slot t0 []) (.cell k off)) [.ownV sz l] [uv] _ (fun o j=>?_) (fun o ho=>?_) hcells huc rfl (fun u hu=>?_) (fun j c u hc hu=>?_) (fun j i c u hc hv=>Qch hkx hsub (by simp) c _ u (by simp) hc hv) (hput _ ?_ ?_) hon'
    ·unfold ex;grind
    ·unfold ex;rw [if_neg];rintro rfl;exact ho
    ·simp at hu;subst hu;obtain ⟨a,cap,rfl,_⟩:=Q1o hslot;rfl
    ·grind [Q7j]
    ·exact Qig (hkx.weaken (fun _ h=>h) (by rintro o rfl;simp)) (Qdj _) ((Qdn _).2 hvon) (Qha _ _ (.slot t0 []) _ hslot)
    ·intro t hne;exact Qch hkx hsub (by simp) _ _ _ (by simp [hne]) (h.onS t) (h.slots t)
   ·by_cases hagg:∃ cs2,v = .agg cs2
    ·obtain ⟨cs2,rfl⟩:=hagg;obtain ⟨f,hfo,hfs,hf1,hfb⟩ : ∃ f:Owner→Owner,(∀ o,(∀ t p,o ≠ .slot t p)→f o=o)∧(∀ t p,t≠t0→f (.slot t p) = .slot t p)∧(∀ j,f (.slot t0 [j]) = .cell k (off+j))∧∀ o j,f o = .box j↔o = .box j:=by
      refine ⟨fun o=>match o with
       | .slot t [j]=>if t=t0 then .cell k (off+j) else o
       | o=>o,fun o ho=>?_,fun t p hne=>?_,fun j=>by simp,fun o j=>?_⟩
      ·grind
      all_goals grind
     have hkx:=Kept.re g w f (There σ.M);simp only [RV] at hslot;obtain ⟨vs2,huvs,hrs,hone⟩:=hslot;obtain ⟨hvl2,hrv2⟩:=(Qci _ _ _ _).1 hrs;have honv:V.ons (There σ.M) cs2:=hvon;have hcell:Kept g w (g.re f) w (There σ.M) (fun o=>(∃ k c,o = .cell k c)∨o = .ext) :=
      hkx.weaken (fun _ h=>h) (by grind)
     have hslt:∀ t,t≠t0→Kept g w (g.re f) w (There σ.M) (fun o=>(∃ q,o = .slot t q)∨o = .ext):=by
      intro t hne;refine hkx.weaken (fun _ h=>h) ?_
      grind
     have hflat:∀ {c:V} {ℓ ℓ' : Owner} {u:Value},c.on (There σ.M)→RV g w c ℓ u→RV (g.re f) w c.dem ℓ' u :=
      fun {c ℓ ℓ' u} hon hv=>Qig (hkx.weaken (fun _ h=>h) (by grind)) (Qdj _) ((Qdn _).2 hon) (Qha _ _ ℓ _ hv)
     refine main f (own1 cs2) vs2 _ hfb (fun o ho=>hfo o fun t p e=>by rw [e] at ho;exact ho) rfl (by rw [huvs];rfl) (by rw [Qzc,List.length_map];exact hvl2) hone (fun j c u hc hu=>?_) (fun j i c u hc hv=>?_) (hput _ ?_ ?_) hon'
     ·rw [Qzc,List.getElem?_map,Option.map_eq_some_iff] at hc;obtain ⟨c',hc',rfl⟩:=hc;have hr:=hrv2 j c' u hc' hu;by_cases ho:∃ sz l,c' = .own sz l
      ·obtain ⟨sz,l,rfl⟩:=ho;exact Qbd4 (by simpa [Owner.sub] using hr) (hf1 j)
      grind [Qxk,Qe3]
     ·refine Qch hcell ?_ (.inr rfl) c _ u (.inl ⟨j,i,rfl⟩) hc hv;rintro ℓ i (⟨k,c,rfl⟩|rfl)
      ·exact .inl ⟨k,c,rfl⟩
      ·exact .inr rfl
     ·exact hflat hvon (show RV g w (.agg cs2) (.slot t0 []) uv by grind [RV])
     ·intro t hne;refine Qch (hslt t hne) ?_ (.inr rfl) _ _ _ (.inl ⟨[],rfl⟩) (h.onS t) (h.slots t);rintro ℓ i' (⟨q,rfl⟩|rfl)
      ·exact .inl ⟨i'::q,rfl⟩
      ·exact .inr rfl
    have hrf:RF g w v.dem uv:=Qv6 hslot;have hno:v.topS=v.dem:=by
     cases v<;>first|rfl|grind|grind
    exact flatcase (fun sz l e=>hownV ⟨sz,l,e⟩) hno hrf (hput id (by have:=hrf (.slot t0 []);exact this) (fun t _=>h.slots t)) hon'
end
end Go.Abs
end
section
namespace Go.Abs
open Go
section
variable (P:Program) {g:G} {w:World} {n0 nt:Nat} {g0:G} {w0:World} {σ:St} {a:Act}
theorem Qhg {o:Owner} {i t:Nat} (h:o ≠ .slot t []):o.sub i ≠ .slot t []:=by cases o<;>simp_all [Owner.sub]
structure Src (g:G) (w:World) (sz:Nat) (ys:List (List D)) (u:Value) (us:List Value):Prop where
 len:us.length=ys.length*sz
 shape:∃ ad c,u = .slice ad ys.length c∧((ys=[]∧True)∨∃ b o,ad=some ⟨b,o,none⟩∧∀ j x,us[j]? = some x→w.cell? ⟨b,o+j,none⟩=some x)
 sizes:∀ y∈ys,y.length=sz
 rd:∀ i y j d x,ys[i]? = some y→y[j]? = some d→us[i*sz+j]? = some x→RD g.imm w d x
 one:∀ x∈us,x.oneCell'=true
theorem Q0f {sz:Nat}:∀ (l:List (List D)) (b o:Nat),RDL g.imm w sz b l o →
  ∃ us:List Value,us.length=l.length*sz∧(∀ (j:Nat) x,us[j]? = some x→w.cell? ⟨b,o+j,none⟩=some x)∧(∀ y∈l,y.length=sz) ∧
   (∀ (i:Nat) y (j:Nat) d x,l[i]? = some y→y[j]? = some d→us[i*sz+j]? = some x→RD g.imm w d x)∧∀ x∈us,x.oneCell'=true
 | [],b,o,_=>⟨[],by simp,by simp,by simp,by simp,by simp⟩
 | y::l,b,o,h=>by
  simp only [RDL] at h;obtain ⟨hl,hc,hr⟩:=h;obtain ⟨us,h1,h2,h3,h4,h5⟩:=Q0f l b (o+sz) hr;have hrow:∃ vs:List Value,vs.length=y.length∧(∀ (j:Nat) x,vs[j]? = some x→w.cell? ⟨b,o+j,none⟩=some x)∧(∀ (j:Nat) d x,y[j]? = some d→vs[j]? = some x→RD g.imm w d x)∧∀ x∈vs,x.oneCell'=true:=by
   clear h1 h2 h3 h4 h5 hr hl
   induction y generalizing o with
   | nil=>simp_all
   | cons d y ih =>
    simp only [RDc] at hc;obtain ⟨_,⟨u,hu,hd⟩,hc⟩:=hc;obtain ⟨vs,k1,k2,k3,k4⟩:=ih (o+1) hc;refine ⟨u::vs,by simp [k1],fun j x hj=>?_,fun j d' x hj hx=>?_,fun x hx=>?_⟩
    ·grind
    ·grind
    ·simp at hx;rcases hx with rfl|hx
     all_goals grind [Q0d]
  obtain ⟨vs,k1,k2,k3,k4⟩:=hrow;refine ⟨vs++us,by grind,fun j x hj=>?_,by simp [hl];exact h3,fun i y' j d x hi hj hx=>?_,fun x hx=>?_⟩
  ·grind
  ·cases i with
   | zero =>
    grind
   | succ i =>
    grind
  grind
theorem Qt9:∀ {vs:List V} {ds:List D},toDs vs=some ds→ds.length=vs.length∧∀ (j:Nat) v d,vs[j]? = some v→ds[j]? = some d→v.toD=some d
 | [],ds,h=>by simp [toDs] at h;subst h;exact ⟨rfl,by simp⟩
 | v::vs,ds,h=>by
  simp only [toDs] at h;split at h
  ·rename_i x xs hx hxs;cases h;obtain ⟨h1,h2⟩:=Qt9 hxs;refine ⟨by simp [h1],fun j v' d hv hd=>?_⟩;cases j with
   | zero=>simp at hv hd;subst hv hd;exact hx
   | succ j=>exact h2 j v' d (by simpa using hv) (by simpa using hd)
  ·cases h
theorem Qv9 {v:V} {d:D} {ℓ:Owner} {u:Value} (h:v.toD=some d) (hv:RV g w v ℓ u):RD g.imm w d u:=by
 cases v<;>simp only [V.toD] at h<;>try (cases h;done)
 ·cases h;simpa [RV] using hv
 ·cases h;exact Ql5 hv
 ·cases h;simp only [RV] at hv;obtain ⟨ad,rfl⟩:=hv;simp [RD]
 ·cases h;exact Qxi hv
theorem Qsw:∀ (k n:Nat) (l:List D),l.length=k*n→(Qix n k l).length=k∧(∀ y∈Qix n k l,y.length=n)∧∀ (i:Nat) y (j:Nat) d,(Qix n k l)[i]? = some y→y[j]? = some d→l[i*n+j]? = some d
 | 0,n,l,h=>by simp [Qix]
 | k+1,n,l,h=>by
  simp only [Qix];have hn:n≤l.length:=by grind
  obtain ⟨h1,h2,h3⟩:=Qsw k n (l.drop n) (by grind);refine ⟨by simp [h1],fun y hy=>?_,fun i y j d hi hj=>?_⟩
  ·grind
  ·cases i with
   | zero =>
    grind
   | succ i =>
    grind
theorem Qp8 {M:Mem} {nb:Nat} (hM:MR g w M nb) {sz:Nat} {x:V} {ys:List (List D)} {ℓ:Owner} {u:Value} (hx:RV g w x ℓ u) (he:Qf8 M sz x=some ys):∃ us,Src g w sz ys u us:=by
 have lst:∀ l,RD g.imm w (.lst sz l) u→∃ us,Src g w sz l u us:=by
  intro l h;simp only [RD] at h;obtain ⟨ad,cap,rfl,_,hl⟩:=h;rcases hl with rfl|⟨b,o,rfl,hl⟩
  ·exact ⟨[],by simp,⟨ad,cap,rfl,.inl ⟨rfl,trivial⟩⟩,by simp,by simp,by simp⟩
  ·obtain ⟨us,h1,h2,h3,h4,h5⟩:=Q0f l b o hl;exact ⟨us,h1,⟨_,cap,rfl,.inr ⟨b,o,rfl,h2⟩⟩,h3,h4,h5⟩
 cases x<;>try (simp [Qf8] at he;done)
 case d dx =>
  cases dx<;>simp only [Qf8] at he<;>try (cases he;done)
  grind [RV]
 case own sz' l =>
  simp only [Qf8] at he;split at he<;>cases he;rename_i h;subst h;exact lst _ (Ql5 hx)
 case ownT sz' l =>
  simp only [Qf8] at he;split at he<;>cases he;rename_i h;subst h;exact lst _ (Qxi hx)
 case nils sz' =>
  simp only [Qf8] at he;split at he<;>cases he;rename_i h;subst h;exact lst _ (Qv9 rfl hx)
 case sl sz' k off len cap =>
  simp only [Qf8] at he;split at he<;>try (cases he;done)
  rename_i h;subst h;split at he<;>try (cases he;done)
  rename_i cs hk;split at he<;>try (cases he;done)
  rename_i hle;simp only [Option.map_eq_some_iff] at he;obtain ⟨ds,hds,rfl⟩:=he;obtain ⟨us,h1,h2,h3,h4⟩:=Qzf hM hk off _ hle;obtain ⟨hdl,hdg⟩:=Qt9 hds;have hdl' : ds.length=len*sz':=by grind
  obtain ⟨c1,c2,c3⟩:=Qsw len sz' ds hdl';simp only [RV] at hx;subst hx;refine ⟨us,by rw [c1,h1],⟨_,cap,by rw [c1],.inr ⟨g.box k,off,rfl,h2⟩⟩,c2,fun i y j d x hi hj hx=>?_,h3⟩;have hd:=c3 i y j d hi hj;have hlt:=(List.getElem?_eq_some_iff.1 hx).1;have hv:=List.getElem?_eq_getElem (show i*sz'+j<((cs.drop off).take (len*sz')).length by grind)
  grind [Qv9]
theorem Qva (w:World) (t ty e e' : TypeId) (i:TypeInfo) (ht:P.underlying t=some (.slice e)) (hi:P.info? e=some i)
  (b sLen sCap:Nat) (cur:Array Value) (hg:w.heap[b]? = some (.cells cur e' (0,0)))
  (ad:Addr) (m c:Nat) (news:List Value) (hl:news.length=m*i.size) (hnews:∀ j u,news[j]? = some u→w.cell? (ad.add j)=some u) (h1:∀ u∈news,u.oneCell'=true)
  (hroom:sLen+m≤sCap) (hfit:sLen*i.size+news.length≤cur.size) :
  (Builtin.append_ #[t,t] ty #[.slice (some ⟨b,0,none⟩) sLen sCap,.slice (some ad) m c]).run P w =
   .ok (.slice (some ⟨b,0,none⟩) (sLen+m) sCap) (w.setRow b (cur.toList.take (sLen*i.size)++news++cur.toList.drop (sLen*i.size+news.length)).toArray):=by
 have hf:=run_firstCells_some (P:=P) w i.size m ad m c news hl hnews;have hst:=run_storeCells_at (P:=P) b (sLen*i.size) e' news 0 cur w hg (by simpa using hfit) h1;simp only [Nat.add_zero] at hst;simp [Builtin.append_,run_underlying ht,sizeOf,typeInfo,hi,Builtin.lenOf,hroom,hf,Addr.add_lit,hst]
theorem Qsx (w:World) (t ty e e' : TypeId) (i:TypeInfo) (ht:P.underlying t=some (.slice e)) (hi:P.info? e=some i)
  (b o0 sLen sCap:Nat) (cur:Array Value) (hg:w.heap[b]? = some (.cells cur e' (0,0)))
  (ad:Addr) (m c:Nat) (news:List Value) (hl:news.length=m*i.size) (hnews:∀ j u,news[j]? = some u→w.cell? (ad.add j)=some u) (h1:∀ u∈news,u.oneCell'=true)
  (hroom:sLen+m≤sCap) (hfit:o0+sLen*i.size+news.length≤cur.size) :
  (Builtin.append_ #[t,t] ty #[.slice (some ⟨b,o0,none⟩) sLen sCap,.slice (some ad) m c]).run P w =
   .ok (.slice (some ⟨b,o0,none⟩) (sLen+m) sCap) (w.setRow b (cur.toList.take (o0+sLen*i.size)++news++cur.toList.drop (o0+sLen*i.size+news.length)).toArray):=by
 have hf:=run_firstCells_some (P:=P) w i.size m ad m c news hl hnews;have hst:=run_storeCells_at (P:=P) b (o0+sLen*i.size) e' news 0 cur w hg (by simpa using hfit) h1;simp only [Nat.add_zero] at hst;simp [Builtin.append_,run_underlying ht,sizeOf,typeInfo,hi,Builtin.lenOf,hroom,hf,Addr.add_lit,hst]
theorem Qrw (w:World) (t ty e:TypeId) (i:TypeInfo) (ht:P.underlying t=some (.slice e)) (hi:P.info? e=some i) (base:Option Addr) (n cap:Nat) (hn:n≤cap) (ad:Option Addr) (c:Nat) :
  (Builtin.append_ #[t,t] ty #[.slice base n cap,.slice ad 0 c]).run P w = .ok (.slice base n cap) w:=by
 cases base<;>cases ad<;>simp [Builtin.append_,run_underlying ht,sizeOf,typeInfo,hi,Builtin.lenOf,hn,Builtin.firstCells,loadCells,loadCellsFrom,storeCells]
end
end Go.Abs
end
section
namespace Go.Abs
open Go
section
variable (P:Program) {g:G} {w:World} {n0 nt:Nat} {g0:G} {w0:World} {σ:St} {a:Act}
theorem Qpx {imm:Nat→Nat→Prop} {w:World} {sz b:Nat}:∀ {l l' : List (List D)} {o:Nat},RDL imm w sz b l o→RDL imm w sz b l' (o+l.length*sz)→RDL imm w sz b (l++l') o
 | [],l',o,_,h=>by simpa using h
 | x::l,l',o,h,h'=>by
  simp only [RDL,List.cons_append] at h ⊢;refine ⟨h.1,h.2.1,Qpx h.2.2 ?_⟩
  rwa [show o+(x::l).length*sz=o+sz+l.length*sz from by simp [Nat.add_mul];omega] at h'
theorem Qwa {imm:Nat→Nat→Prop} {w' : World} {sz b o:Nat} {ys:List (List D)} {us:List Value} (hl:us.length=ys.length*sz) (hsz:∀ y∈ys,y.length=sz)
  (hrd:∀ (i:Nat) y (j:Nat) d x,ys[i]? = some y→y[j]? = some d→us[i*sz+j]? = some x→RD imm w' d x)
  (hc:∀ (j:Nat) x,us[j]? = some x→w'.cell? ⟨b,o+j,none⟩=some x∧imm b (o+j)):RDL imm w' sz b ys o:=by
 refine Qzd fun i y hi=>⟨hsz y (List.mem_of_getElem? hi),Qu9 fun j d hj=>?_⟩;have hil:=(List.getElem?_eq_some_iff.1 hi).1;have hjl:=(List.getElem?_eq_some_iff.1 hj).1;rw [hsz y (List.mem_of_getElem? hi)] at hjl;have hlt:i*sz+j<us.length:=by
  rw [hl]
  calc i*sz+j<i*sz+sz:=by omega
   _=(i+1)*sz:=by rw [Nat.add_mul];omega
   _≤ys.length*sz:=Nat.mul_le_mul_right _ hil
 obtain ⟨h1,h2⟩:=hc _ _ (List.getElem?_eq_getElem hlt)
 grind
theorem SR.grow (h:SR n0 nt g0 w0 σ a w g) {dst:Option Nat} (hd:∀ d,dst=some d→d<nt) {w' : World} {g' : G} {v:V} {val:Value} (t0:Nat) (hm:MR g' w' σ.M σ.nb) (hkept:Kept g w g' w' (There σ.M) (fun o=>o ≠ .slot t0 []))
  (hos:w'.os=w.os) (htape:w'.tape=w.tape) (hout:w'.output=w.output) (hsize:w.heap.size≤w'.heap.size) (hbox:∀ k,g'.box k=g.box k)
  (hv:∀ d,dst=some d→RV g' w' v (.slot d []) val) (hvon:v.on (There σ.M)) :
  SR n0 nt g0 w0 ⟨Qbd (σ.s.put t0 (σ.s t0).dem) dst v,σ.M,σ.nb⟩ (a.put dst val) w' g':=by
 refine h.step hm ⟨hos,htape,hout,hsize,hkept.imm,fun k _=>hbox k,fun b hb ho=>hkept.own b (by intro e;rw [e] at ho;exact ho) hb⟩
  (Qfi (fun d hd'=>by rw [h.size];exact hd d hd') (fun t _=>?_) hv) (Qge _ _ _) (Qd7 _ _ _) (Qfj (fun t=>?_) hvon) h.mOn h.out
 ·simp only [Sl.put];split
  ·rename_i he;subst he;exact Qig (hkept.weaken (fun _ h=>h) (by rintro o rfl;simp)) (Qdj _) ((Qdn _).2 (h.onS t)) (Qha _ _ (.slot t []) _ (h.slots t))
  ·rename_i hne;exact Qch hkept (fun _ i h=>Qhg h) (by simp) _ _ _ (by simp [hne]) (h.onS t) (h.slots t)
 ·simp only [Sl.put];split
  ·exact (Qdn _).2 (h.onS t0)
  ·exact h.onS t
theorem Q5z {κ sz bytes:Nat} {s x v:V} {M M' : Mem} (hs:Qm n0 κ (.append sz bytes) [s,x] M=some (v,M')) :
  M'=M∧∃ ys,Qf8 M sz x=some ys ∧
   ((∃ l,s = .own sz l∧l.length+ys.length≤lim∧bytes≤128∧0<sz∧v = .own sz (l++ys)) ∨
    (s = .nils sz∧ys.length≤lim∧bytes≤128∧v = .own sz ys) ∨
    (∃ l,s = .ownT sz l∧l.length+ys.length≤lim∧bytes≤128∧0<sz∧v = .ownT sz (l++ys)) ∨
    (∃ l,s = .ownV sz l∧l.length+ys.length≤lim∧bytes≤128∧0<sz∧(ys.all fun y=>y.all D.scal)=true∧v = .ownV sz (l++ys)) ∨
    (∃ k off len cap l,s = .sl sz k off len cap∧Qf8 M sz s=some l∧((ys.length=0∧len=0∧cap=0∧v = .own sz [])∨(ys.length=0∧len≤cap∧v=s)∨(0<ys.length∧cap<len+ys.length∧l.length+ys.length≤lim∧bytes≤128∧0<sz∧v = .own sz (l++ys))))):=by
 cases s<;>try (simp [Qm] at hs;done)
 case own sz' l =>
  simp only [Qm] at hs
  grind
 case nils sz' =>
  simp only [Qm] at hs
  grind
 case ownT sz' l =>
  simp only [Qm] at hs
  grind
 case ownV sz' l =>
  simp only [Qm] at hs
  grind
 case sl sz' k off len cap =>
  simp only [Qm] at hs;split at hs<;>try (cases hs;done)
  rename_i l ys hl hy;have hsz:sz'=sz:=by
   grind [Qf8]
  grind
theorem Q3s {κ sz bytes:Nat} {s x v:V} {M M' : Mem} (hs:Qm n0 κ (.appw sz bytes) [s,x] M=some (v,M')) :
  ((∃ k off len cap,s = .sl sz k off len cap)∨∃ sz',s = .nils sz')∧(Qm n0 κ (.append sz bytes) [s,x] M=some (v,M') ∨
  ∃ k off len cap cs ys,s = .sl sz k off len cap∧M k=some (.cells cs)∧Qf8 M sz x=some ys∧0<ys.length∧0<sz∧len+ys.length≤cap∧off+(len+ys.length)*sz≤cs.length∧(∀ y∈ys,y.length=sz) ∧
   v = .sl sz k off (len+ys.length) cap∧M'=M.put k (.cells (cs.take (off+len*sz)++ys.flatten.map V.d++cs.drop (off+len*sz+ys.length*sz)))):=by
 cases s<;>try (simp [Qm] at hs;done)
 case nils sz'=>exact ⟨.inr ⟨_,rfl⟩,.inl hs⟩
 case sl sz' k off len cap =>
  simp only [Qm] at hs;split at hs<;>try (cases hs;done)
  rename_i l ys cs hl hy hM;have hsz:sz'=sz:=by
   grind [Qf8]
  subst hsz;refine ⟨.inl ⟨k,off,len,cap,rfl⟩,?_⟩;by_cases h0:ys.length=0
  ·simp_all [Qm,if_pos]
  ·rw [if_neg h0] at hs;by_cases hr:len+ys.length≤cap
   ·rw [if_pos hr] at hs;split at hs<;>try (cases hs;done)
    grind
   simp_all [if_neg,Qm]
theorem Qbaj {sz:Nat}:∀ {ys:List (List D)},(∀ y∈ys,y.length=sz)→ys.flatten.length=ys.length*sz∧∀ n d,ys.flatten[n]? = some d→∃ i j y,n=i*sz+j∧ys[i]? = some y∧y[j]? = some d
 | [],_=>⟨by simp,fun n d h=>by simp at h⟩
 | y::ys,h=>by
  obtain ⟨h1,h2⟩:=Qbaj (ys:=ys) fun z hz=>h z (by simp [hz]);have hy:=h y (by simp);refine ⟨by simp [h1,hy,Nat.add_mul];omega,fun n d hn=>?_⟩;rw [List.flatten_cons] at hn;by_cases hlt:n<y.length
  ·rw [List.getElem?_append_left hlt] at hn;exact ⟨0,n,y,by omega,by simp,hn⟩
  ·rw [List.getElem?_append_right (by omega)] at hn;obtain ⟨i,j,z,e1,e2,e3⟩:=h2 _ d hn;exact ⟨i+1,j,z,by rw [Nat.add_mul];omega,by simpa using e2,e3⟩
theorem SR.newblock (h:SR n0 nt g0 w0 σ a w g) {dst:Option Nat} (hd:∀ d,dst=some d→d<nt) (t0:Nat) {sz:Nat} {l ys:List (List D)} {u0 ux:Value} {olds news zeros:List Value}
  (hl:Src g w sz l u0 olds) (hy:Src g w sz ys ux news) {cap:Nat} (hcap:l.length+ys.length≤cap) (hmax:cap≤maxLen) (hz:zeros.length=(cap-(l.length+ys.length))*sz) (hz1:∀ u∈zeros,u.oneCell'=true) (e:TypeId) :
  ∃ g',SR n0 nt g0 w0 ⟨Qbd (σ.s.put t0 (σ.s t0).dem) dst (.own sz (l++ys)),σ.M,σ.nb⟩ (a.put dst (.slice (some ⟨w.heap.size,0,none⟩) (l.length+ys.length) cap))
   (w.drew.alloc (.cells (olds++news++zeros).toArray e)) g':=by
 let d0:=dst.getD 0;let g' : G:={ box:=g.box,imm:=fun b o=>g.imm b o∨(b=w.heap.size∧o<(l.length+ys.length)*sz),own:=fun b=>if b=w.heap.size then .slot d0 [] else g.own b };let w':=w.drew.alloc (.cells (olds++news++zeros).toArray e);have hcell:∀ b o,b<w.heap.size→w'.cell? ⟨b,o,none⟩=w.cell? ⟨b,o,none⟩:=fun b o hb=>by
  have:=World.cell?_alloc_past (w:=w.drew) (.cells (olds++news++zeros).toArray e) b o (by simpa using hb);exact this
 have hnew:∀ o,w'.cell? ⟨w.heap.size,o,none⟩=(olds++news++zeros)[o]?:=fun o=>by
  have:=World.cell?_alloc_at (w:=w.drew) (olds++news++zeros).toArray e w.heap.size o (by simp)
  grind
 have himm0:∀ o,¬ g.imm w.heap.size o:=fun o ho=>by have:=(h.mem.imm _ _ ho).1;omega
 have hI:Imm g.imm g'.imm w w':=⟨fun b o hb=>.inl hb,fun b o hb=>Qdo (RowKit.Below.heap_alloc w.drew _ b (by simpa using (h.mem.imm b o hb).1))⟩;have hkept:Kept g w g' w' (There σ.M) (fun o=>o ≠ .slot t0 []):=by
  refine ⟨hI,fun _ _=>rfl,fun b _ hlt=>⟨?_,?_,fun o=>?_⟩⟩
  ·grind
  ·exact RowKit.Below.heap_alloc w.drew _ b (by simpa using hlt)
  grind
 have himm:∀ b o,g'.imm b o→b<w'.heap.size∧∀ k,g'.own b ≠ .box k:=by
  rintro b o (hb|⟨rfl,_⟩)
  ·obtain ⟨h1,h2⟩:=h.mem.imm b o hb;refine ⟨by simp [w'];omega,fun k=>?_⟩
   grind
  ·refine ⟨by simp [w'],fun k=>by simp [g']⟩
 have hlen:(olds++news).length=(l.length+ys.length)*sz:=by rw [List.length_append,hl.len,hy.len,Nat.add_mul]
 have hrow:RDL g'.imm w' sz w.heap.size (l++ys) 0:=by
  refine Qpx ?_ ?_
  ·refine Qwa hl.len hl.sizes (fun i y j d x h1 h2 h3=>Qfl hI d x (hl.rd i y j d x h1 h2 h3)) fun j x hj=>?_
   grind
  ·refine Qwa hy.len hy.sizes (fun i y j d x h1 h2 h3=>Qfl hI d x (hy.rd i y j d x h1 h2 h3)) fun j x hj=>?_;have hj':=(List.getElem?_eq_some_iff.1 hj).1;refine ⟨?_,.inr ⟨rfl,?_⟩⟩
   ·rw [Nat.zero_add,hnew,List.append_assoc,List.getElem?_append_right (by rw [hl.len];omega),hl.len]
    grind
   ·rw [hy.len] at hj';rw [Nat.add_mul];omega
 have hm:MR g' w' σ.M σ.nb:=h.mem.kept hkept h.mOn (fun _ i h=>Qhg h) (by simp) (fun _ _=>by simp) himm;refine ⟨g',h.grow hd t0 hm hkept rfl rfl rfl (by simp) (fun _=>rfl) (fun d hd'=>?_) trivial⟩;simp only [RV];refine .inr ⟨w.heap.size,cap,(olds++news++zeros).toArray,e,by simp,by simp [g',d0,hd'],?_,by simpa using hcap,hmax,⟨?_,?_⟩,fun o=>?_,hrow⟩
 ·exact heap_alloc_new w.drew _
 ·simp only [List.size_toArray,List.length_append] at hlen ⊢;rw [hz,hlen,← Nat.add_mul];congr 1;omega
 ·intro u hu;simp only [List.mem_append] at hu;rcases hu with (hu|hu)|hu
  ·exact hl.one u hu
  ·exact hy.one u hu
  ·exact hz1 u hu
 grind
theorem SR.newlit (h:SR n0 nt g0 w0 σ a w g) {d:Nat} (hd:d<nt) {x:D} {u:Value} (hx:RD g.imm w x u) (h1:u.oneCell'=true) (e:TypeId) :
  ∃ g',SR n0 nt g0 w0 ⟨Qbd σ.s (some d) (.own 1 [[x]]),σ.M,σ.nb⟩ (a.put (some d) (.slice (some ⟨w.heap.size,0,none⟩) 1 1)) (w.alloc (.cells #[u] e)) g':=by
 let g' : G:={ box:=g.box,imm:=fun b o=>g.imm b o∨(b=w.heap.size∧o<1),own:=fun b=>if b=w.heap.size then .slot d [] else g.own b };let w':=w.alloc (.cells #[u] e);have hcell:∀ b o,b<w.heap.size→w'.cell? ⟨b,o,none⟩=w.cell? ⟨b,o,none⟩:=fun b o hb=>World.cell?_alloc_past (w:=w) (.cells #[u] e) b o hb;have hnew:w'.cell? ⟨w.heap.size,0,none⟩=some u:=by
  exact (World.cell?_alloc_at (w:=w) #[u] e w.heap.size 0 rfl).trans rfl
 have himm0:∀ o,¬ g.imm w.heap.size o:=fun o ho=>by have:=(h.mem.imm _ _ ho).1;omega
 have hI:Imm g.imm g'.imm w w':=⟨fun b o hb=>.inl hb,fun b o hb=>Qdo (RowKit.Below.heap_alloc w _ b (h.mem.imm b o hb).1)⟩;have hkept:Kept g w g' w' (There σ.M) (fun o=>o ≠ .slot d []):=by
  refine ⟨hI,fun _ _=>rfl,fun b _ hlt=>⟨?_,?_,fun o=>?_⟩⟩
  all_goals grind [Go.RowKit.Below.heap_alloc]
 have himm:∀ b o,g'.imm b o→b<w'.heap.size∧∀ k,g'.own b ≠ .box k:=by
  rintro b o (hb|⟨rfl,_⟩)
  ·obtain ⟨h1,h2⟩:=h.mem.imm b o hb;refine ⟨by simp [w'];omega,fun k=>?_⟩
   grind
  ·refine ⟨by simp [w'],fun k=>by simp [g']⟩
 have hm:MR g' w' σ.M σ.nb:=h.mem.kept hkept h.mOn (fun _ i h=>Qhg h) (by simp) (fun _ _=>by simp) himm;have hput:Qbd (σ.s.put d (σ.s d).dem) (some d) (.own 1 [[x]])=Qbd σ.s (some d) (.own 1 [[x]]):=by
  funext i;simp only [Qbd,Sl.put];split<;>rfl
 refine ⟨g',hput ▸ h.grow (dst:=some d) (fun d' hd'=>by cases hd';exact hd) d hm hkept rfl rfl rfl (by simp) (fun _=>rfl) (fun d' hd'=>?_) trivial⟩;cases hd';simp only [RV];refine .inr ⟨w.heap.size,1,#[u],e,by simp,by simp [g'],heap_alloc_new w _,by simp,by simp [maxLen],⟨by simp,by simpa using h1⟩,fun o=>?_,?_⟩
 ·grind
 ·simp only [RDL,RDc];exact ⟨rfl,⟨.inr ⟨rfl,by omega⟩,⟨u,hnew,Qfl hI x u hx⟩,trivial⟩,trivial⟩
theorem SR.allocD (h:SR n0 nt g0 w0 σ a w g) {dst:Option Nat} (hd:∀ d,dst=some d→d<nt) {ds:List D} {us:List Value} (hl:us.length=ds.length) (hr:∀ (j:Nat) x u,ds[j]? = some x→us[j]? = some u→RD g.imm w x u) {sz n:Nat} (hn:ds.length=n*sz) (e:TypeId) :
  ∃ g',SR n0 nt g0 w0 ⟨Qbd σ.s dst (.d (.lst sz (Qix sz n ds))),σ.M,σ.nb⟩ (a.put dst (.slice (some ⟨w.heap.size,0,none⟩) n n)) (w.alloc (.cells us.toArray e)) g':=by
 let g' : G:={ box:=g.box,imm:=fun b o=>g.imm b o∨(b=w.heap.size∧o<ds.length),own:=fun b=>if b=w.heap.size then .ext else g.own b };let w':=w.alloc (.cells us.toArray e);have hnew:∀ o,w'.cell? ⟨w.heap.size,o,none⟩=us[o]?:=fun o =>
  (World.cell?_alloc_at (w:=w) us.toArray e w.heap.size o rfl).trans (by simp)
 have himm0:∀ o,¬ g.imm w.heap.size o:=fun o ho=>by have:=(h.mem.imm _ _ ho).1;omega
 have hI:Imm g.imm g'.imm w w':=⟨fun b o hb=>.inl hb,fun b o hb=>Qdo (RowKit.Below.heap_alloc w _ b (h.mem.imm b o hb).1)⟩;have hkept:Kept g w g' w' (There σ.M) (fun _=>True):=by
  refine ⟨hI,fun _ _=>rfl,fun b _ hlt=>⟨?_,?_,fun o=>?_⟩⟩
  all_goals grind [Go.RowKit.Below.heap_alloc]
 have himm:∀ b o,g'.imm b o→b<w'.heap.size∧∀ k,g'.own b ≠ .box k:=by
  rintro b o (hb|⟨rfl,_⟩)
  ·obtain ⟨h1,h2⟩:=h.mem.imm b o hb;refine ⟨by simp [w'];omega,fun k=>?_⟩
   grind
  ·refine ⟨by simp [w'],fun k=>by simp [g']⟩
 have hm:MR g' w' σ.M σ.nb:=h.mem.kept hkept h.mOn (fun _ _ h=>h) trivial (fun _ _=>trivial) himm;refine ⟨g',h.step hm ⟨rfl,rfl,rfl,by simp,hI,fun _ _=>rfl,fun b hb _=>hkept.own b trivial hb⟩ (Qfi (fun d hd'=>by rw [h.size];exact hd d hd') (fun t _=>Qch hkept (fun _ _ h=>h) trivial _ _ _ trivial (h.onS t) (h.slots t)) (fun d _=>?_)) (Qge _ _ _) (Qd7 _ _ _) (Qfj h.onS trivial) h.mOn h.out⟩;obtain ⟨c1,c2,c3⟩:=Qsw n sz ds hn;simp only [RV,RD,c1];refine ⟨_,n,rfl,Nat.le_refl _,.inr ⟨w.heap.size,0,rfl,Qzd fun i x hi=>⟨c2 x (List.mem_of_getElem? hi),Qu9 fun j y hj=>?_⟩⟩⟩;have h1:=c3 i x j y hi hj;have hlt:=(List.getElem?_eq_some_iff.1 h1).1;obtain ⟨u,hu⟩ : ∃ u,us[i*sz+j]? = some u:=⟨_,List.getElem?_eq_getElem (by omega)⟩;refine ⟨.inr ⟨rfl,by omega⟩,u,?_,Qfl hI y u (hr _ y u h1 hu)⟩;rw [hnew,Nat.zero_add];exact hu
theorem Qbew (h:SR n0 nt g0 w0 σ a w g) {dst:Option Nat} (hd:∀ d,dst=some d→d<nt) (t e:TypeId) (ht:P.underlying t=some (.slice e)) {z:List V} (hz:Qrf P e=some z) (n:Nat) (hn:n*P.cellsOf e≤65536) (is:List Nat)
  {xs:List V} {us:List Value} {v:V} {κ:Nat} {M' : Mem} (hfl:∀ x∈xs,Flat x) (hx:RFs g w xs us)
  (hs:Qm n0 κ (.blit (P.cellsOf e) n z is) xs σ.M=some (v,M')) :
  ∃ val w' g',(Instr.buildSlice t n (is.zip us).toArray).run P w = .ok val w'∧SR n0 nt g0 w0 ⟨Qbd σ.s dst v,M',σ.nb⟩ (a.put dst val) w' g':=by
 obtain ⟨i,zv,hi,hzv,hcz,hlt⟩:=Qji P hz;have hs' : (if is.length=xs.length&&decide (0<P.cellsOf e)&&z.length==P.cellsOf e&&(is.zip xs).all (fun (i,x)=>Qdy x&&x.cells.length==P.cellsOf e&&decide (i<n))
   then (toDs (Qiy (rep n z) ((is.zip xs).map fun (i,x)=>(i*P.cellsOf e,x.cells)))).map fun ds=>(V.d (.lst (P.cellsOf e) (Qix (P.cellsOf e) n ds)),σ.M) else none)=some (v,M'):=by cases xs<;>exact hs
 split at hs'<;>try (cases hs';done)
 rename_i hc;simp only [Bool.and_eq_true,decide_eq_true_eq,beq_iff_eq,List.all_eq_true] at hc;obtain ⟨⟨⟨hil,hsz⟩,hzl⟩,hall⟩:=hc;simp only [Option.map_eq_some_iff,Prod.mk.injEq] at hs';obtain ⟨ds,hds,rfl,rfl⟩:=hs';have hcl:=(hcz g w).len;have hzs:zv.cells.size=P.cellsOf e:=by grind
 have hrep:(rep n z).length=n*P.cellsOf e:=by simp [rep,hzl]
 have hcrep:=CR.rep (hcz g w) n;obtain ⟨out,hfill,hcr⟩:=Qsv (g:=g) (w:=w) (fun i=>some (i*P.cellsOf e,P.cellsOf e)) (rep n z) _ hcrep is (is.map (· * P.cellsOf e)) (is.map fun _=>P.cellsOf e) xs us hx hfl hil (by simp [hil]) (by simp [hil])
  (fun j x i o s hxj hij hoj hsj=>by
   simp only [List.getElem?_map,Option.map_eq_some_iff] at hoj hsj;obtain ⟨p,hp,rfl⟩:=hoj;obtain ⟨p',hp',rfl⟩:=hsj;rw [hij] at hp;cases hp;have:=hall (i,x) (List.mem_of_getElem? (i:=j) (by grind));simp only [Bool.and_eq_true,beq_iff_eq,decide_eq_true_eq] at this;refine ⟨this.1.1,this.1.2,?_,rfl⟩;rw [hrep]
   calc i*P.cellsOf e+P.cellsOf e=(i+1)*P.cellsOf e:=by rw [Nat.add_mul];omega
    _≤n*P.cellsOf e:=Nat.mul_le_mul_right _ this.2)
 have e1:((is.map (· * P.cellsOf e)).zip xs).map (fun p=>(p.1,p.2.cells))=(is.zip xs).map fun (i,x)=>(i*P.cellsOf e,x.cells):=by
  rw [List.zip_map_left,List.map_map];rfl
 rw [e1] at hcr;generalize hF:(Qiy (rep n z) ((is.zip xs).map fun (i,x)=>(i*P.cellsOf e,x.cells)))=F at hds hcr;obtain ⟨hdl,hdg⟩:=Qt9 hds;have hlen:=hcr.len;have hfl2:F.length=n*P.cellsOf e:=by
  rw [← hF];rw [Q07,hrep];intro p hp;simp only [List.mem_map] at hp;obtain ⟨⟨i,x⟩,hm,rfl⟩:=hp;have:=hall (i,x) hm;simp only [Bool.and_eq_true,beq_iff_eq,decide_eq_true_eq] at this;simp only;rw [this.1.2,hrep]
  calc i*P.cellsOf e+P.cellsOf e=(i+1)*P.cellsOf e:=by rw [Nat.add_mul];omega
   _≤n*P.cellsOf e:=Nat.mul_le_mul_right _ this.2
 obtain ⟨g',hsr⟩:=h.allocD (dst:=dst) hd (ds:=ds) (us:=out) (by omega) (fun j x u hj hu=>by
  obtain ⟨c,hc⟩ : ∃ c,F[j]? = some c:=⟨_,List.getElem?_eq_getElem (by have:=(List.getElem?_eq_some_iff.1 hj).1;omega)⟩;exact Qv9 (hdg j c x hc hj) (hcr.rf j c u hc hu .ext)) (sz:=P.cellsOf e) (n:=n) (by omega) e
 refine ⟨_,_,g',?_,hsr⟩;have hm:=Qpk zv.cells (by omega) n;rw [hzs] at hm;unfold madeCells at hm;have hnb:¬ (16777216<n*P.cellsOf e):=by omega
 have hso:∀ w,(sizeOf e).run P w = .ok (P.cellsOf e) w:=fun w=>by rw [Qf4 P hi,Qdx P hi]
 by_cases hn0:n*P.cellsOf e=0
 ·have:n=0:=by
   grind [Nat.mul_eq_zero]
  simp_all [absurd,List.replicate_zero,List.flatten_nil,List.zip_nil_left,Go.Instr.fill,Option.some.injEq,Go.Instr.buildSlice,Go.run_underlying,Go.newRow,Qpj,Go.Array.range_zero']
 ·rw [← hm] at hfill;rw [hzs] at hfill;simp [Instr.buildSlice,run_underlying ht,hso,Qpj P hi hzv,hnb,hn0,hzs,hfill,newRow]
theorem Qbex {s s' : Sl} {M:Mem} {nb:Nat} {a:Act} (h:SR n0 nt g0 w0 ⟨s,M,nb⟩ a w g) (he:∀ i,s' i=s i∨∃ sz l,s i = .own sz l∧s' i = .ownT sz l):SR n0 nt g0 w0 ⟨s',M,nb⟩ a w g:={
 mem:=h.mem
 slots:=fun t=>by
  rcases he t with e|⟨sz,l,e1,e2⟩
  ·show RV g w (s' t) _ _;rw [e];exact h.slots t
  ·show RV g w (s' t) _ _;have:=h.slots t
   grind [Q7e]
 size:=h.size
 defers:=h.defers
 onS:=fun t=>by
  rcases he t with e|⟨sz,l,e1,e2⟩
  ·show (s' t).on _;rw [e];exact h.onS t
  ·show (s' t).on _;rw [e2];trivial
 onM:=h.onM
 top:=h.top
 fr:=h.fr }
theorem SR.newblockV (h:SR n0 nt g0 w0 σ a w g) {dst:Option Nat} (hd:∀ d,dst=some d→d<nt) (t0:Nat) {sz:Nat} {l ys:List (List D)} {u0 ux:Value} {olds news zeros:List Value}
  (hl:Src g w sz l u0 olds) (hy:Src g w sz ys ux news) (hls:(l.all fun x=>x.all D.scal)=true) (hys:(ys.all fun x=>x.all D.scal)=true) {cap:Nat} (hcap:l.length+ys.length≤cap) (hmax:cap≤maxLen) (hz:zeros.length=(cap-(l.length+ys.length))*sz) (hz1:∀ u∈zeros,u.oneCell'=true) (e:TypeId) :
  ∃ g',SR n0 nt g0 w0 ⟨Qbd (σ.s.put t0 (σ.s t0).dem) dst (.ownV sz (l++ys)),σ.M,σ.nb⟩ (a.put dst (.slice (some ⟨w.heap.size,0,none⟩) (l.length+ys.length) cap))
   (w.drew.alloc (.cells (olds++news++zeros).toArray e)) g':=by
 let d0:=dst.getD 0;let g' : G:={ box:=g.box,imm:=g.imm,own:=fun b=>if b=w.heap.size then .slot d0 [] else g.own b };let w':=w.drew.alloc (.cells (olds++news++zeros).toArray e);have hnew:∀ o,w'.cell? ⟨w.heap.size,o,none⟩=(olds++news++zeros)[o]?:=fun o=>by
  have:=World.cell?_alloc_at (w:=w.drew) (olds++news++zeros).toArray e w.heap.size o (by simp)
  grind
 have himm0:∀ o,¬ g.imm w.heap.size o:=fun o ho=>by have:=(h.mem.imm _ _ ho).1;omega
 have hI:Imm g.imm g'.imm w w':=⟨fun b o hb=>hb,fun b o hb=>Qdo (RowKit.Below.heap_alloc w.drew _ b (by simpa using (h.mem.imm b o hb).1))⟩;have hkept:Kept g w g' w' (There σ.M) (fun o=>o ≠ .slot t0 []):=by
  refine ⟨hI,fun _ _=>rfl,fun b _ hlt=>⟨?_,?_,fun o=>Iff.rfl⟩⟩
  ·have:b≠w.heap.size:=by omega
   simp [g',this]
  ·exact RowKit.Below.heap_alloc w.drew _ b (by simpa using hlt)
 have himm:∀ b o,g'.imm b o→b<w'.heap.size∧∀ k,g'.own b ≠ .box k:=by
  intro b o hb;obtain ⟨h1,h2⟩:=h.mem.imm b o hb;refine ⟨by simp [w'];omega,fun k=>?_⟩;have:b≠w.heap.size:=by omega
  simp only [g',this,if_false];exact h2 k
 have hrow:RDL (fun b' _=>b'=w.heap.size) w' sz w.heap.size (l++ys) 0:=by
  have sc:∀ {q:List (List D)} {i:Nat} {y:List D} {j:Nat} {d:D},(q.all fun x=>x.all D.scal)=true→q[i]? = some y→y[j]? = some d→d.scal=true:=fun hq h1 h2 =>
   List.all_eq_true.1 (List.all_eq_true.1 hq _ (List.mem_of_getElem? h1)) _ (List.mem_of_getElem? h2)
  refine Qpx ?_ ?_
  ·refine Qwa hl.len hl.sizes (fun i y j d x h1 h2 h3=>Qv4 (sc hls h1 h2) (hl.rd i y j d x h1 h2 h3)) fun j x hj=>⟨?_,rfl⟩;have hj':=(List.getElem?_eq_some_iff.1 hj).1;rw [Nat.zero_add,hnew,List.append_assoc,List.getElem?_append_left hj'];exact hj
  ·refine Qwa hy.len hy.sizes (fun i y j d x h1 h2 h3=>Qv4 (sc hys h1 h2) (hy.rd i y j d x h1 h2 h3)) fun j x hj=>⟨?_,rfl⟩;have hj':=(List.getElem?_eq_some_iff.1 hj).1;rw [Nat.zero_add,hnew,List.append_assoc,List.getElem?_append_right (by rw [hl.len];omega),hl.len]
   grind
 have hm:MR g' w' σ.M σ.nb:=h.mem.kept hkept h.mOn (fun _ i h=>Qhg h) (by simp) (fun _ _=>by simp) himm;refine ⟨g',h.grow hd t0 hm hkept rfl rfl rfl (by simp) (fun _=>rfl) (fun d hd'=>?_) trivial⟩;have hlen:(olds++news).length=(l.length+ys.length)*sz:=by rw [List.length_append,hl.len,hy.len,Nat.add_mul]
 simp only [RV];refine .inr ⟨w.heap.size,cap,(olds++news++zeros).toArray,e,by simp,by simp [g',d0,hd'],?_,by simpa using hcap,hmax,⟨?_,?_⟩,himm0,hrow,by rw [List.all_append,hls,hys];rfl⟩
 ·exact heap_alloc_new w.drew _
 ·simp only [List.size_toArray,List.length_append] at hlen ⊢;rw [hz,hlen,← Nat.add_mul];congr 1;omega
 ·intro u hu;simp only [List.mem_append] at hu;rcases hu with (hu|hu)|hu
  ·exact hl.one u hu
  ·exact hy.one u hu
  ·exact hz1 u hu
theorem Q9e (h:SR n0 nt g0 w0 σ a w g) {dst:Option Nat} (hd:∀ d,dst=some d→d<nt) (t ty e:TypeId) (ht:P.underlying t=some (.slice e)) {z:List V} (hz:Qrf P e=some z) (hzl:z.length=P.cellsOf e)
  (t0:Nat) {x:V} {ux:Value} {ℓx:Owner} (hx:RV g w x ℓx ux) {l ys:List (List D)} (hy:Qf8 σ.M (P.cellsOf e) x=some ys) (hsown:σ.s t0 = .ownV (P.cellsOf e) l) (hlim:l.length+ys.length≤lim) (hbytes:P.bytesOf e≤128) (hsc:(ys.all fun y=>y.all D.scal)=true) :
  ∃ val w' g',(Builtin.append_ #[t,t] ty #[a.tmps.getD t0 undef,ux]).run P w = .ok val w'∧SR n0 nt g0 w0 ⟨Qbd (σ.s.put t0 (σ.s t0).dem) dst (.ownV (P.cellsOf e) (l++ys)),σ.M,σ.nb⟩ (a.put dst val) w' g':=by
 obtain ⟨i,zv,hi,hzv,hcz,_⟩:=Qji P hz;have hz1:∀ q,∀ u∈(Builtin.zeroCells zv.cells q).toList,u.oneCell'=true:=by
  intro q u hu;refine (hcz g w).one u ?_;simp only [Builtin.zeroCells] at hu;have hu' : ∃ a,a<q*zv.cells.size∧zv.cells[a % zv.cells.size]! = u:=by simpa using hu
  obtain ⟨j,hj,rfl⟩:=hu'
  grind [Nat.eq_zero_or_pos,Nat.mod_lt]
 have hsz:i.size=P.cellsOf e:=(Qdx P hi).symm;have hby:i.bytes=P.bytesOf e:=by simp [Program.bytesOf,hi]
 have hzs:zv.cells.size=P.cellsOf e:=by have:=(hcz g w).len;grind
 obtain ⟨news,hsy⟩:=Qp8 h.mem hx hy;have hslot:=h.slots t0;obtain ⟨adx,cx,hux,hshape⟩:=hsy.shape;rw [hsown] at hslot;obtain ⟨base0,cap0,hu0,hn0⟩:=Q1o hslot;have hkx:=Kept.ex g w (.slot t0 []) (.slot (dst.getD 0) []) (There σ.M);by_cases h0:ys.length=0
 ·have hnil:ys=[]:=List.eq_nil_of_length_eq_zero h0;subst hnil;simp only [List.append_nil];refine ⟨_,w,g.re (ex (.slot t0 []) (.slot (dst.getD 0) [])),(by grind [Qrw]:(Builtin.append_ #[t,t] ty #[a.tmps.getD t0 undef,ux]).run P w = .ok (a.tmps.getD t0 undef) w),h.grow hd t0 ?_ hkx rfl rfl rfl (Nat.le_refl _) (fun _=>rfl) (fun d hd'=>by grind [Q7j]) trivial⟩;refine h.mem.kept hkx h.mOn (fun _ i h=>Qhg h) (by simp) (fun _ _=>by simp) fun b o hb=>?_;obtain ⟨h1,h2⟩:=h.mem.imm b o hb
  grind [G.re,ex]
 have hpos:0<ys.length:=by omega
 rcases hshape with ⟨rfl,_⟩|⟨bx,ox,rfl,hcx⟩
 ·simp at hpos
 have hnews:∀ j u,news[j]? = some u→w.cell? ((⟨bx,ox,none⟩ : Addr).add j)=some u:=fun j u hj=>by rw [Qgd];exact hcx j u hj
 have growV:∀ (l:List (List D)) (u0:Value) (olds:List Value) (base:Option Addr) (cap:Nat),Src g w (P.cellsOf e) l u0 olds→(l.all fun x=>x.all D.scal)=true→u0 = .slice base l.length cap→cap<l.length+ys.length→(base=none→l=[]∧cap=0) →
   l.length+ys.length≤lim →
   ∃ val w' g',(Builtin.append_ #[t,t] ty #[u0,ux]).run P w = .ok val w'∧SR n0 nt g0 w0 ⟨Qbd (σ.s.put t0 (σ.s t0).dem) dst (.ownV (P.cellsOf e) (l++ys)),σ.M,σ.nb⟩ (a.put dst val) w' g':=by
  intro l u0 olds base cap hsl hls hu0 hcap hnil hlim;have hb128:(l.length+ys.length)*i.bytes≤140737488355328:=by
   rw [hby]
   calc (l.length+ys.length)*P.bytesOf e≤lim*128:=Nat.mul_le_mul hlim hbytes
    _≤140737488355328:=by simp [lim]
  have hmaxl:l.length+ys.length≤maxLen:=by grind [lim,Go.maxLen]
  have hge:=grownCap_ge w (l.length+ys.length) cap e;have hle:=grownCap_le_maxLen w (l.length+ys.length) cap e hmaxl;have hzeros:∀ q,(Builtin.zeroCells zv.cells q).toList.length=q*P.cellsOf e:=fun q=>by simp [size_zeroCells,hzs]
  obtain ⟨g',hsr⟩:=h.newblockV (w:=w) hd t0 hsl hsy hls hsc (zeros:=(Builtin.zeroCells zv.cells (grownCap w (l.length+ys.length) cap e-(l.length+ys.length))).toList) hge hle (hzeros _) (hz1 _) e;refine ⟨_,_,g',?_,hsr⟩;rw [hu0,hux];cases base with
  | none =>
   obtain ⟨rfl,rfl⟩:=hnil rfl;have holds:olds=[]:=List.eq_nil_of_length_eq_zero (by simpa using hsl.len);subst holds;have:=run_append_nil (P:=P) w t ty e i zv ht hi hzv ⟨bx,ox,none⟩ ys.length cx news (by rw [hsz];exact hsy.len) hnews hpos (by grind [lim]) (by simp at hb128;omega);have earr:∀ zc:Array Value,(([]:List Value)++news++zc.toList).toArray=news.toArray++zc:=fun zc=>by apply Array.ext';simp
   grind
  | some ad =>
   obtain ⟨ad',c',hu',hsh⟩:=hsl.shape;rw [hu0] at hu';injection hu' with e1 _ e3
   have holds:∀ j u,olds[j]? = some u→w.cell? (ad.add j)=some u:=by
    intro j u hj;rcases hsh with ⟨rfl,_⟩|⟨b,o,hb,hc⟩
    ·have:olds=[]:=List.eq_nil_of_length_eq_zero (by simpa using hsl.len);subst this;simp at hj
    grind [Qgd]
   have:=run_append_grow (P:=P) w t ty e i zv ht hi hzv ad l.length cap olds (by rw [hsz];exact hsl.len) holds ⟨bx,ox,none⟩ ys.length cx news (by rw [hsz];exact hsy.len) hnews hcap (by simp only [lim] at hlim;omega) (growslice_fits (by omega) hb128);have earr:∀ zc:Array Value,(olds++news++zc.toList).toArray=olds.toArray++news.toArray++zc:=fun zc=>by apply Array.ext';simp
   grind
 simp only [RV] at hslot;rcases hslot with ⟨⟨base,hu⟩,rfl⟩|⟨b,cap,vals,e',hu,hb,hh,hlc,hcm,⟨hvs,hvone⟩,him,hrow,hls⟩
 ·refine growV [] _ [] base 0 ⟨by simp,⟨base,0,hu,.inl ⟨rfl,trivial⟩⟩,by simp,by simp,by simp⟩ rfl (by simpa using hu) (by simpa using hpos) (fun _=>⟨rfl,rfl⟩) hlim
 obtain ⟨olds,k1,k2,k3,k4,k5⟩:=Q0f (g:=⟨g.box,fun b' _=>b'=b,g.own⟩) (w:=w) l b 0 hrow;have hsl:Src g w (P.cellsOf e) l (a.tmps.getD t0 undef) olds:=⟨k1,⟨_,cap,hu,.inr ⟨b,0,rfl,k2⟩⟩,k3,fun i y j d x h1 h2 h3=>Qv4 (List.all_eq_true.1 (List.all_eq_true.1 hls _ (List.mem_of_getElem? h1)) _ (List.mem_of_getElem? h2)) (k4 i y j d x h1 h2 h3),k5⟩;by_cases hroom:l.length+ys.length≤cap
 case neg=>exact growV l _ olds (some ⟨b,0,none⟩) cap hsl hls hu (by omega) (by simp) hlim
 have hfit:l.length*i.size+news.length≤vals.size:=by
  rw [hsy.len,hvs,hsz,← Nat.add_mul];exact Nat.mul_le_mul_right _ hroom
 have hrun:=Qva P w t ty e e' i ht hi b l.length cap vals hh ⟨bx,ox,none⟩ ys.length cx news (by rw [hsz];exact hsy.len) hnews hsy.one hroom hfit;rw [hsz] at hrun;generalize hrowdef:(vals.toList.take (l.length*P.cellsOf e)++news++vals.toList.drop (l.length*P.cellsOf e+news.length))=row at hrun;have hrg:∀ j,row[j]? = if j<l.length*P.cellsOf e then vals[j]? else if j<l.length*P.cellsOf e+news.length then news[j-l.length*P.cellsOf e]? else vals[j]?:=by
  intro j;rw [← hrowdef,Qh1 vals.toList news _ _ rfl (by grind)];simp
 have hlt:b<w.heap.size:=(Array.getElem?_eq_some_iff.1 hh).1;let g' : G:=g.re (ex (.slot t0 []) (.slot (dst.getD 0) []));have hI:Imm g.imm g'.imm w (w.setRow b row.toArray):=⟨fun _ _ hc=>hc,fun c o hc=>Qdo (setRow_other w b c _ (by rintro rfl;exact him o hc))⟩;have hkept:Kept g w g' (w.setRow b row.toArray) (There σ.M) (fun o=>o ≠ .slot t0 []):=by
  refine ⟨hI,fun _ _=>rfl,fun c hc hclt=>?_⟩;have hcb:c≠b:=by rintro rfl;exact hc hb
  exact ⟨by simp only [g',G.re,ex];rw [if_neg hc],setRow_other w b c _ hcb,fun o=>Iff.rfl⟩
 have hm:MR g' (w.setRow b row.toArray) σ.M σ.nb:=by
  refine h.mem.kept hkept h.mOn (fun _ i h=>Qhg h) (by simp) (fun _ _=>by simp) fun c o hc=>?_;obtain ⟨h1,h2⟩:=h.mem.imm c o hc;refine ⟨by rw [setRow_size];exact h1,fun k=>?_⟩;simp only [g',G.re,ex];split
  ·simp
  ·exact h2 k
 refine ⟨_,_,g',by rw [hu,hux];exact hrun,h.grow hd t0 hm hkept rfl rfl rfl (by simp) (fun _=>rfl) (fun d hd'=>?_) trivial⟩;simp only [RV];refine .inr ⟨b,cap,row.toArray,e',by simp,by simp only [g',G.re,ex];grind,setRow_heap w b vals _ e' (0,0) hh,by simpa using hroom,hcm,⟨?_,?_⟩,him,?_,by rw [List.all_append,hls,hsc];rfl⟩
 ·grind
 ·intro u hu';rw [← hrowdef] at hu';simp only [List.mem_append] at hu';rcases hu' with (hu'|hu')|hu'
  ·grind
  ·exact hsy.one u hu'
  grind
 ·have hcell:∀ o,(w.setRow b row.toArray).cell? ⟨b,o,none⟩=row[o]?:=fun o=>by
   rw [cell_setRow_same w b _ vals row.toArray e' (0,0) hh];simp
  have hold:∀ o,w.cell? ⟨b,o,none⟩=vals[o]?:=fun o=>by simp [World.cell?,hh]
  refine Qpx ?_ ?_
  ·refine Qwa hsl.len hsl.sizes (fun i y j d x h1 h2 h3=>Qv4 (List.all_eq_true.1 (List.all_eq_true.1 hls _ (List.mem_of_getElem? h1)) _ (List.mem_of_getElem? h2)) (hsl.rd i y j d x h1 h2 h3)) fun j x hj=>⟨?_,rfl⟩;have hj':=(List.getElem?_eq_some_iff.1 hj).1;rw [hsl.len] at hj';have:=k2 j x hj;rw [Nat.zero_add] at this ⊢;rw [hcell,hrg,if_pos hj',← hold];exact this
  ·refine Qwa hsy.len hsy.sizes (fun i y j d x h1 h2 h3=>Qv4 (List.all_eq_true.1 (List.all_eq_true.1 hsc _ (List.mem_of_getElem? h1)) _ (List.mem_of_getElem? h2)) (hsy.rd i y j d x h1 h2 h3)) fun j x hj=>⟨?_,rfl⟩;have hj':=(List.getElem?_eq_some_iff.1 hj).1;rw [hcell,hrg,if_neg (by omega),if_pos (by omega),show 0+l.length*P.cellsOf e+j-l.length*P.cellsOf e=j from by omega];exact hj
theorem Q50 (h:SR n0 nt g0 w0 σ a w g) {dst:Option Nat} (hd:∀ d,dst=some d→d<nt) (t ty e:TypeId) (ht:P.underlying t=some (.slice e)) {z:List V} (hz:Qrf P e=some z) (hzl:z.length=P.cellsOf e)
  (t0:Nat) {x v:V} {ux:Value} {ℓx:Owner} {κ:Nat} {M' : Mem} (hx:RV g w x ℓx ux)
  (hs:Qm n0 κ (.append (P.cellsOf e) (P.bytesOf e)) [σ.s t0,x] σ.M=some (v,M')) :
  ∃ val w' g',(Builtin.append_ #[t,t] ty #[a.tmps.getD t0 undef,ux]).run P w = .ok val w'∧SR n0 nt g0 w0 ⟨Qbd (σ.s.put t0 (σ.s t0).dem) dst v,M',σ.nb⟩ (a.put dst val) w' g':=by
 obtain ⟨rfl,ys,hy,hcases⟩:=Q5z hs;obtain ⟨i,zv,hi,hzv,hcz,_⟩:=Qji P hz;have hz1:∀ q,∀ u∈(Builtin.zeroCells zv.cells q).toList,u.oneCell'=true:=by
  intro q u hu;refine (hcz g w).one u ?_;simp only [Builtin.zeroCells] at hu;have hu' : ∃ a,a<q*zv.cells.size∧zv.cells[a % zv.cells.size]! = u:=by simpa using hu
  obtain ⟨j,hj,rfl⟩:=hu'
  grind [Nat.eq_zero_or_pos,Nat.mod_lt]
 have hsz:i.size=P.cellsOf e:=(Qdx P hi).symm;have hby:i.bytes=P.bytesOf e:=by simp [Program.bytesOf,hi]
 have hzs:zv.cells.size=P.cellsOf e:=by have:=(hcz g w).len;grind
 obtain ⟨news,hsy⟩:=Qp8 h.mem hx hy;have hslot:=h.slots t0;have keptrefl:Kept g w g w (There σ.M) (fun o=>o ≠ .slot t0 []):=⟨Imm.refl _ _,fun _ _=>rfl,fun _ _ _=>⟨rfl,rfl,fun _=>Iff.rfl⟩⟩;obtain ⟨adx,cx,hux,hshape⟩:=hsy.shape;have grow:∀ (l:List (List D)) (u0:Value) (olds:List Value) (base:Option Addr) (cap:Nat),Src g w (P.cellsOf e) l u0 olds→u0 = .slice base l.length cap→cap<l.length+ys.length→(base=none→l=[]∧cap=0) →
   l.length+ys.length≤lim→P.bytesOf e≤128→0<ys.length →
   ∃ val w' g',(Builtin.append_ #[t,t] ty #[u0,ux]).run P w = .ok val w'∧SR n0 nt g0 w0 ⟨Qbd (σ.s.put t0 (σ.s t0).dem) dst (.own (P.cellsOf e) (l++ys)),σ.M,σ.nb⟩ (a.put dst val) w' g':=by
  intro l u0 olds base cap hsl hu0 hcap hnil hlim hbytes hpos;rcases hshape with ⟨rfl,_⟩|⟨bx,ox,rfl,hcx⟩
  ·simp at hpos
  ·have hnews:∀ j u,news[j]? = some u→w.cell? ((⟨bx,ox,none⟩ : Addr).add j)=some u:=fun j u hj=>by rw [Qgd];exact hcx j u hj
   have hb128:(l.length+ys.length)*i.bytes≤140737488355328:=by
    rw [hby]
    calc (l.length+ys.length)*P.bytesOf e≤lim*128:=Nat.mul_le_mul hlim hbytes
     _≤140737488355328:=by simp [lim]
   have hmaxl:l.length+ys.length≤maxLen:=by grind [lim,Go.maxLen]
   have hge:=grownCap_ge w (l.length+ys.length) cap e;have hle:=grownCap_le_maxLen w (l.length+ys.length) cap e hmaxl;have hzeros:∀ q,(Builtin.zeroCells zv.cells q).toList.length=q*P.cellsOf e:=fun q=>by simp [size_zeroCells,hzs]
   obtain ⟨g',hsr⟩:=h.newblock (w:=w) hd t0 hsl hsy (zeros:=(Builtin.zeroCells zv.cells (grownCap w (l.length+ys.length) cap e-(l.length+ys.length))).toList) hge hle (hzeros _) (hz1 _) e;refine ⟨_,_,g',?_,hsr⟩;rw [hu0,hux];cases base with
   | none =>
    obtain ⟨rfl,rfl⟩:=hnil rfl;have holds:olds=[]:=List.eq_nil_of_length_eq_zero (by simpa using hsl.len);subst holds;have:=run_append_nil (P:=P) w t ty e i zv ht hi hzv ⟨bx,ox,none⟩ ys.length cx news (by rw [hsz];exact hsy.len) hnews hpos (by grind [lim]) (by simp at hb128;omega);have earr:∀ zc:Array Value,(([]:List Value)++news++zc.toList).toArray=news.toArray++zc:=fun zc=>by apply Array.ext';simp
    grind
   | some ad =>
    obtain ⟨ad',c',hu',hsh⟩:=hsl.shape;rw [hu0] at hu';injection hu' with e1 _ e3
    have holds:∀ j u,olds[j]? = some u→w.cell? (ad.add j)=some u:=by
     intro j u hj;rcases hsh with ⟨rfl,_⟩|⟨b,o,hb,hc⟩
     ·have:olds=[]:=List.eq_nil_of_length_eq_zero (by simpa using hsl.len);subst this;simp at hj
     grind [Qgd]
    have:=run_append_grow (P:=P) w t ty e i zv ht hi hzv ad l.length cap olds (by rw [hsz];exact hsl.len) holds ⟨bx,ox,none⟩ ys.length cx news (by rw [hsz];exact hsy.len) hnews hcap (by simp only [lim] at hlim;omega) (growslice_fits (by omega) hb128);have earr:∀ zc:Array Value,(olds++news++zc.toList).toArray=olds.toArray++news.toArray++zc:=fun zc=>by apply Array.ext';simp
    grind
 have nothing:∀ (base:Option Addr) (n cap:Nat),a.tmps.getD t0 undef = .slice base n cap→n≤cap→ys.length=0→(Builtin.append_ #[t,t] ty #[a.tmps.getD t0 undef,ux]).run P w = .ok (a.tmps.getD t0 undef) w:=by
  grind [Qrw]
 rcases hcases with ⟨l,hsown,hlim,hbytes,hpos,rfl⟩|⟨hsnil,hlim,hbytes,rfl⟩|⟨l,hsown,hlim,hbytes,hpos,rfl⟩|⟨l,hsown,hlim,hbytes,hpos,hsc,rfl⟩|⟨k,off,len,cap,l,hssl,hel,hcases⟩
 ·rw [hsown] at hslot;have hon:(V.own (P.cellsOf e) (l++ys)).on (There σ.M):=trivial;by_cases h0:ys.length=0
  ·have hnil:ys=[]:=List.eq_nil_of_length_eq_zero h0;subst hnil;simp only [List.append_nil] at hon ⊢;have hshape0:∃ base cap,a.tmps.getD t0 undef = .slice base l.length cap∧l.length≤cap:=by
    have:=Ql5 hslot
    grind [RD]
   obtain ⟨base,cap,hu,hn⟩:=hshape0;have hkx:=Kept.ex g w (.slot t0 []) (.slot (dst.getD 0) []) (There σ.M);refine ⟨_,w,g.re (ex (.slot t0 []) (.slot (dst.getD 0) [])),nothing base l.length cap hu hn rfl,h.grow hd t0 ?_ hkx rfl rfl rfl (Nat.le_refl _) (fun _=>rfl) (fun d hd'=>by grind [Q3r]) hon⟩;refine h.mem.kept hkx h.mOn (fun _ i h=>Qhg h) (by simp) (fun _ _=>by simp) fun b o hb=>?_;obtain ⟨h1,h2⟩:=h.mem.imm b o hb
   grind [G.re,ex]
  ·obtain ⟨olds,hsl⟩:=Qp8 (sz:=P.cellsOf e) h.mem hslot (ys:=l) (by simp [Qf8]);simp only [RV] at hslot;rcases hslot with ⟨⟨base,hu⟩,rfl⟩|⟨b,cap,vals,e',hu,hb,hh,hlc,hcm,⟨hvs,hvone⟩,him,hrow⟩
   ·grind
   ·by_cases hroom:l.length+ys.length≤cap
    ·rcases hshape with ⟨rfl,_⟩|⟨bx,ox,hax,hcx⟩
     ·simp at h0
     ·subst hax;have hnews:∀ j u,news[j]? = some u→w.cell? ((⟨bx,ox,none⟩ : Addr).add j)=some u:=fun j u hj=>by rw [Qgd];exact hcx j u hj
      have hfit:l.length*i.size+news.length≤vals.size:=by
       rw [hsy.len,hvs,hsz,← Nat.add_mul];exact Nat.mul_le_mul_right _ hroom
      have hrun:=Qva P w t ty e e' i ht hi b l.length cap vals hh ⟨bx,ox,none⟩ ys.length cx news (by rw [hsz];exact hsy.len) hnews hsy.one hroom hfit;rw [hsz] at hrun;generalize hrowdef:(vals.toList.take (l.length*P.cellsOf e)++news++vals.toList.drop (l.length*P.cellsOf e+news.length))=row at hrun;have hrg:∀ j,row[j]? = if j<l.length*P.cellsOf e then vals[j]? else if j<l.length*P.cellsOf e+news.length then news[j-l.length*P.cellsOf e]? else vals[j]?:=by
       intro j;rw [← hrowdef,Qh1 vals.toList news _ _ rfl (by grind)];simp
      have hlt:b<w.heap.size:=(Array.getElem?_eq_some_iff.1 hh).1;let g' : G:={ box:=g.box,imm:=fun c o=>g.imm c o∨(c=b∧o<(l.length+ys.length)*P.cellsOf e),own:=fun c=>ex (.slot t0 []) (.slot (dst.getD 0) []) (g.own c) };have hI:Imm g.imm g'.imm w (w.setRow b row.toArray):=by
       refine ⟨fun _ _ hc=>.inl hc,fun c o hc=>?_⟩;by_cases hcb:c=b
       ·subst hcb;refine Q3n hh (setRow_heap w c vals row.toArray e' (0,0) hh) ?_;have ho:=(him o).1 hc;rw [cell_setRow_same w c o vals row.toArray e' (0,0) hh];have:w.cell? ⟨c,o,none⟩=vals[o]?:=by simp [World.cell?,hh]
        grind
       ·exact Qdo (setRow_other w b c _ hcb)
      have hkept:Kept g w g' (w.setRow b row.toArray) (There σ.M) (fun o=>o ≠ .slot t0 []):=by
       refine ⟨hI,fun _ _=>rfl,fun c hc hclt=>?_⟩;have hcb:c≠b:=by rintro rfl;exact hc hb
       exact ⟨by simp only [g',ex];rw [if_neg hc],setRow_other w b c _ hcb,fun o=>by simp [g',hcb]⟩
      have hm:MR g' (w.setRow b row.toArray) σ.M σ.nb:=by
       refine h.mem.kept hkept h.mOn (fun _ i h=>Qhg h) (by simp) (fun _ _=>by simp) ?_;rintro c o (hc|⟨rfl,_⟩)
       ·obtain ⟨h1,h2⟩:=h.mem.imm c o hc
        grind [Go.setRow_size,ex]
       ·refine ⟨by rw [setRow_size];exact hlt,fun k=>?_⟩;simp only [g',ex];rw [if_pos hb];simp
      refine ⟨_,_,g',by rw [hu,hux];exact hrun,h.grow hd t0 hm hkept rfl rfl rfl (by simp) (fun _=>rfl) (fun d hd'=>?_) hon⟩;simp only [RV];refine .inr ⟨b,cap,row.toArray,e',by simp,by simp only [g',ex];grind,setRow_heap w b vals _ e' (0,0) hh,by simpa using hroom,hcm,⟨?_,?_⟩,fun o=>?_,?_⟩
      ·grind
      ·intro u hu';rw [← hrowdef] at hu';simp only [List.mem_append] at hu';rcases hu' with (hu'|hu')|hu'
       ·grind
       ·exact hsy.one u hu'
       grind
      ·rw [List.length_append]
       grind
      ·refine Qpx (RDL_mono hI _ b l 0 hrow) (Qwa hsy.len hsy.sizes (fun i y j d x h1 h2 h3=>Qfl hI d x (hsy.rd i y j d x h1 h2 h3)) fun j x hj=>?_);have hj':=(List.getElem?_eq_some_iff.1 hj).1;refine ⟨?_,.inr ⟨rfl,by rw [hsy.len] at hj';rw [Nat.add_mul];omega⟩⟩;rw [cell_setRow_same w b _ vals row.toArray e' (0,0) hh]
       simp_all [if_neg,if_pos]
    grind
 ·rw [hsnil] at hslot;obtain ⟨olds,hsl⟩:=Qp8 (sz:=P.cellsOf e) h.mem hslot (ys:=[]) (by simp [Qf8]);simp only [RV] at hslot;obtain ⟨base,hu⟩:=hslot;by_cases h0:ys.length=0
  ·have hnil:ys=[]:=List.eq_nil_of_length_eq_zero h0;subst hnil;refine ⟨_,w,g,nothing _ 0 0 hu (Nat.le_refl _) rfl,h.grow hd t0 h.mem keptrefl rfl rfl rfl (Nat.le_refl _) (fun _=>rfl) (fun d hd'=>?_) trivial⟩
   simp_all [RV,trivial]
  ·have:=grow [] _ olds base 0 hsl hu (by simp;omega) (fun _=>⟨rfl,rfl⟩) (by simpa using hlim) hbytes (by omega);simpa using this
 ·rw [hsown] at hslot;have hon:(V.ownT (P.cellsOf e) (l++ys)).on (There σ.M):=trivial;by_cases h0:ys.length=0
  ·have hnil:ys=[]:=List.eq_nil_of_length_eq_zero h0;subst hnil;simp only [List.append_nil] at hon ⊢;have hshape0:∃ base cap,a.tmps.getD t0 undef = .slice base l.length cap∧l.length≤cap:=by
    have:=Qxi hslot
    grind [RD]
   obtain ⟨base,cap,hu,hn⟩:=hshape0;have hkx:=Kept.ex g w (.slot t0 []) (.slot (dst.getD 0) []) (There σ.M);refine ⟨_,w,g.re (ex (.slot t0 []) (.slot (dst.getD 0) [])),nothing base l.length cap hu hn rfl,h.grow hd t0 ?_ hkx rfl rfl rfl (Nat.le_refl _) (fun _=>rfl) (fun d hd'=>by grind [Qbev]) hon⟩;refine h.mem.kept hkx h.mOn (fun _ i h=>Qhg h) (by simp) (fun _ _=>by simp) fun b o hb=>?_;obtain ⟨h1,h2⟩:=h.mem.imm b o hb
   grind [G.re,ex]
  ·obtain ⟨olds,hsl⟩:=Qp8 (sz:=P.cellsOf e) h.mem hslot (ys:=l) (by simp [Qf8]);have growT:∀ (l:List (List D)) (u0:Value) (olds:List Value) (base:Option Addr) (cap:Nat),Src g w (P.cellsOf e) l u0 olds→u0 = .slice base l.length cap→cap<l.length+ys.length→(base=none→l=[]∧cap=0) →
     l.length+ys.length≤lim →
     ∃ val w' g',(Builtin.append_ #[t,t] ty #[u0,ux]).run P w = .ok val w'∧SR n0 nt g0 w0 ⟨Qbd (σ.s.put t0 (σ.s t0).dem) dst (.ownT (P.cellsOf e) (l++ys)),σ.M,σ.nb⟩ (a.put dst val) w' g':=by
    intro l u0 olds base cap a1 a2 a3 a4 a5;obtain ⟨val,w',g',r1,r2⟩:=grow l u0 olds base cap a1 a2 a3 a4 a5 hbytes (by omega);refine ⟨val,w',g',r1,Qbex r2 fun i=>?_⟩;cases dst with
    | none=>exact .inl rfl
    | some d =>
     simp only [Qbd,Sl.put]
     grind
   simp only [RV] at hslot;rcases hslot with ⟨⟨base,hu⟩,rfl⟩|⟨b,o0,cap,vals,e',hu,hb,hh,hlc,hcm,⟨hvs,hvone⟩,him,hrow⟩
   ·grind
   ·by_cases hroom:l.length+ys.length≤cap
    ·rcases hshape with ⟨rfl,_⟩|⟨bx,ox,hax,hcx⟩
     ·simp at h0
     ·subst hax;have hnews:∀ j u,news[j]? = some u→w.cell? ((⟨bx,ox,none⟩ : Addr).add j)=some u:=fun j u hj=>by rw [Qgd];exact hcx j u hj
      have hfit:o0+l.length*i.size+news.length≤vals.size:=by
       rw [hsy.len,hvs,hsz,Nat.add_assoc,← Nat.add_mul];exact Nat.add_le_add_left (Nat.mul_le_mul_right _ hroom) _
      have hrun:=Qsx P w t ty e e' i ht hi b o0 l.length cap vals hh ⟨bx,ox,none⟩ ys.length cx news (by rw [hsz];exact hsy.len) hnews hsy.one hroom hfit;rw [hsz] at hrun;generalize hrowdef:(vals.toList.take (o0+l.length*P.cellsOf e)++news++vals.toList.drop (o0+l.length*P.cellsOf e+news.length))=row at hrun;have hrg:∀ j,row[j]? = if j<o0+l.length*P.cellsOf e then vals[j]? else if j<o0+l.length*P.cellsOf e+news.length then news[j-(o0+l.length*P.cellsOf e)]? else vals[j]?:=by
       intro j;rw [← hrowdef,Qh1 vals.toList news _ _ rfl (by grind)];simp
      have hlt:b<w.heap.size:=(Array.getElem?_eq_some_iff.1 hh).1;let g' : G:={ box:=g.box,imm:=fun c o=>g.imm c o∨(c=b∧o<o0+(l.length+ys.length)*P.cellsOf e),own:=fun c=>ex (.slot t0 []) (.slot (dst.getD 0) []) (g.own c) };have hI:Imm g.imm g'.imm w (w.setRow b row.toArray):=by
       refine ⟨fun _ _ hc=>.inl hc,fun c o hc=>?_⟩;by_cases hcb:c=b
       ·subst hcb;refine Q3n hh (setRow_heap w c vals row.toArray e' (0,0) hh) ?_;have ho:=(him o).1 hc;rw [cell_setRow_same w c o vals row.toArray e' (0,0) hh];have:w.cell? ⟨c,o,none⟩=vals[o]?:=by simp [World.cell?,hh]
        grind
       ·exact Qdo (setRow_other w b c _ hcb)
      have hkept:Kept g w g' (w.setRow b row.toArray) (There σ.M) (fun o=>o ≠ .slot t0 []):=by
       refine ⟨hI,fun _ _=>rfl,fun c hc hclt=>?_⟩;have hcb:c≠b:=by rintro rfl;exact hc hb
       exact ⟨by simp only [g',ex];rw [if_neg hc],setRow_other w b c _ hcb,fun o=>by simp [g',hcb]⟩
      have hm:MR g' (w.setRow b row.toArray) σ.M σ.nb:=by
       refine h.mem.kept hkept h.mOn (fun _ i h=>Qhg h) (by simp) (fun _ _=>by simp) ?_;rintro c o (hc|⟨rfl,_⟩)
       ·obtain ⟨h1,h2⟩:=h.mem.imm c o hc
        grind [Go.setRow_size,ex]
       ·refine ⟨by rw [setRow_size];exact hlt,fun k=>?_⟩;simp only [g',ex];rw [if_pos hb];simp
      refine ⟨_,_,g',by rw [hu,hux];exact hrun,h.grow hd t0 hm hkept rfl rfl rfl (by simp) (fun _=>rfl) (fun d hd'=>?_) hon⟩;simp only [RV];refine .inr ⟨b,o0,cap,row.toArray,e',by simp,by simp only [g',ex];grind,setRow_heap w b vals _ e' (0,0) hh,by simpa using hroom,hcm,⟨?_,?_⟩,fun o=>?_,?_⟩
      ·grind
      ·intro u hu';rw [← hrowdef] at hu';simp only [List.mem_append] at hu';rcases hu' with (hu'|hu')|hu'
       ·grind
       ·exact hsy.one u hu'
       grind
      ·rw [List.length_append]
       grind
      ·refine Qpx (RDL_mono hI _ b l o0 hrow) (Qwa hsy.len hsy.sizes (fun i y j d x h1 h2 h3=>Qfl hI d x (hsy.rd i y j d x h1 h2 h3)) fun j x hj=>?_);have hj':=(List.getElem?_eq_some_iff.1 hj).1;refine ⟨?_,.inr ⟨rfl,by rw [hsy.len] at hj';rw [Nat.add_mul];omega⟩⟩;rw [cell_setRow_same w b _ vals row.toArray e' (0,0) hh];have:=hrg (o0+l.length*P.cellsOf e+j);rw [if_neg (by omega),if_pos (by omega),show o0+l.length*P.cellsOf e+j-(o0+l.length*P.cellsOf e)=j from by omega,hj] at this;simpa using this
    grind
 ·exact Q9e P h hd t ty e ht hz hzl t0 hx hy hsown hlim hbytes hsc
 ·rw [hssl] at hslot;obtain ⟨olds,hsl⟩:=Qp8 h.mem hslot (by rw [← hssl];exact hel);have hu:a.tmps.getD t0 undef = .slice (some ⟨g.box k,off,none⟩) len cap:=by simpa [RV] using hslot
  have hlen:l.length=len:=by
   obtain ⟨_,_,h1,_⟩:=hsl.shape
   grind
  rcases hcases with ⟨h0,rfl,rfl,rfl⟩|⟨h0,hlc,rfl⟩|⟨hpos,hcl,hlim,hbytes,_,rfl⟩
  ·refine ⟨_,w,g,nothing _ 0 0 hu (Nat.le_refl _) h0,h.grow hd t0 h.mem keptrefl rfl rfl rfl (Nat.le_refl _) (fun _=>rfl) (fun d hd'=>?_) trivial⟩
   simp_all [RV,trivial]
  ·refine ⟨_,w,g,nothing _ len cap hu hlc h0,h.grow hd t0 h.mem keptrefl rfl rfl rfl (Nat.le_refl _) (fun _=>rfl) (fun d hd'=>?_) (h.onS t0)⟩
   grind [RV]
  grind
theorem Qbey (h:SR n0 nt g0 w0 σ a w g) {dst:Option Nat} (hd:∀ d,dst=some d→d<nt) (t ty e:TypeId) (ht:P.underlying t=some (.slice e)) {z:List V} (hz:Qrf P e=some z) (hzl:z.length=P.cellsOf e)
  (t0:Nat) {x v:V} {ux:Value} {ℓx:Owner} {κ:Nat} {M' : Mem} (hx:RV g w x ℓx ux)
  (hs:Qm n0 κ (.appw (P.cellsOf e) (P.bytesOf e)) [σ.s t0,x] σ.M=some (v,M')) :
  ∃ val w' g',(Builtin.append_ #[t,t] ty #[a.tmps.getD t0 undef,ux]).run P w = .ok val w'∧SR n0 nt g0 w0 ⟨Qbd σ.s dst v,M',σ.nb⟩ (a.put dst val) w' g':=by
 obtain ⟨hs0,hs|⟨k,off,len,cap,cs,ys,hsl,hMk,hy,hpos,hsz0,hroom,hle,hys,rfl,rfl⟩⟩:=Q3s hs
 ·obtain ⟨val,w',g',h1,h2⟩:=Q50 P h hd t ty e ht hz hzl t0 hx hs;have e0:σ.s.put t0 (σ.s t0).dem=σ.s:=by
   funext i;simp only [Sl.put];split
   ·rename_i e;subst e;rcases hs0 with ⟨_,_,_,_,e⟩|⟨_,e⟩<;>rw [e]<;>rfl
   ·rfl
  grind
 ·obtain ⟨i,zv,hi,_,_,_⟩:=Qji P hz;have hsz:i.size=P.cellsOf e:=(Qdx P hi).symm;obtain ⟨news,hsy⟩:=Qp8 h.mem hx hy;obtain ⟨adx,cx,hux,hshape⟩:=hsy.shape;have hslot:=h.slots t0;rw [hsl] at hslot;have hu:a.tmps.getD t0 undef = .slice (some ⟨g.box k,off,none⟩) len cap:=by simpa [RV] using hslot
  obtain ⟨hkb,hbo,vals,e',hh,hr,h1⟩:=h.mem.box k _ hMk;obtain ⟨hvl,hrv⟩:=(Qci _ _ _ _).1 hr;obtain ⟨hfl,hfa⟩:=Qbaj hys;rcases hshape with ⟨rfl,_⟩|⟨bx,ox,rfl,hcx⟩
  ·simp at hpos
  have hnews:∀ j u,news[j]? = some u→w.cell? ((⟨bx,ox,none⟩ : Addr).add j)=some u:=fun j u hj=>by rw [Qgd];exact hcx j u hj
  have hnl:=hsy.len;have hmul:(len+ys.length)*P.cellsOf e=len*P.cellsOf e+ys.length*P.cellsOf e:=Nat.add_mul _ _ _;have hrun:=Qsx P w t ty e e' i ht hi (g.box k) off len cap vals.toArray hh ⟨bx,ox,none⟩ ys.length cx news (by rw [hsz];exact hsy.len) hnews hsy.one hroom (by grind);rw [hsz,hnl] at hrun;have hkept:=Qyp (g:=g) (w:=w) h.mem hMk (vals.toArray.toList.take (off+len*P.cellsOf e)++news++vals.toArray.toList.drop (off+len*P.cellsOf e+ys.length*P.cellsOf e)).toArray;have hmono:∀ c ℓ u,ℓ ≠ .box k→c.on (There σ.M)→RV g w c ℓ u→RV g (w.setRow (g.box k) (vals.toArray.toList.take (off+len*P.cellsOf e)++news++vals.toArray.toList.drop (off+len*P.cellsOf e+ys.length*P.cellsOf e)).toArray) c ℓ u :=
   fun c ℓ u hℓ hc hv=>Qch hkept (fun _ i h=>Qnj h) (by simp) c ℓ u hℓ hc hv
  have hT:There (σ.M.put k (.cells (cs.take (off+len*P.cellsOf e)++ys.flatten.map V.d++cs.drop (off+len*P.cellsOf e+ys.length*P.cellsOf e)))) k:=There.self;have hTk:There σ.M k:=by simp [There,hMk]
  refine ⟨_,_,g,by rw [hu,hux];exact hrun,SR.row h (f:=id) (fun _ _=>Iff.rfl) (fun _ _=>rfl) hMk hh ((Qci _ _ _ _).2 ⟨by grind,fun j c u hc hu'=>?_⟩) (fun u hu'=>?_)
   (Qfi (fun d hd'=>by rw [h.size];exact hd d hd') (fun t _=>hmono _ _ _ (by simp) (h.onS t) (h.slots t)) (fun d _=>by simp only [RV];rfl)) (Qge _ _ _) (Qd7 _ _ _) (Qfj (fun t=>h.onS t) hTk) ?_ (fun hlt=>?_) (fun j cs' _ hj i c u hc hru=>hru) (fun j i sz l u hv=>hv)⟩
  ·rw [Qh1 cs _ _ _ (by grind) (by omega)] at hc;rw [Qh1 vals news _ _ hnl (by omega)] at hu';simp only [Nat.zero_add,Owner.sub];split at hc
   ·rename_i hlt;rw [if_pos hlt] at hu';exact hmono _ _ _ (by simp) (Qe3 (h.mOn k cs hMk) hc) (by grind [Owner.sub])
   ·rename_i hge;rw [if_neg hge] at hu';split at hc
    ·rename_i hlt;rw [if_pos hlt] at hu';rw [List.getElem?_map] at hc;obtain ⟨d,hd',rfl⟩:=Option.map_eq_some_iff.1 hc;obtain ⟨p,q,y,e1,e2,e3⟩:=hfa _ d hd';have:=hsy.rd p y q d u e2 e3 (by rw [← e1];exact hu');simp only [RV];exact Qfl hkept.imm d u this
    ·rename_i hge2;rw [if_neg hge2] at hu';exact hmono _ _ _ (by simp) (Qe3 (h.mOn k cs hMk) hc) (by grind [Owner.sub])
  ·rcases List.mem_append.1 hu' with hu'|hu'
   ·rcases List.mem_append.1 hu' with hu'|hu'
    ·grind
    ·exact hsy.one u hu'
   grind
  ·exact Qfa.2 ⟨Qfa.2 ⟨Qnz _ (h.mOn k cs hMk),Qbc3 _⟩,Qn0 _ (h.mOn k cs hMk)⟩
  ·exact Qfa.2 ⟨Qfa.2 ⟨Qnz _ (h.out k cs hMk hlt),Qbc3 _⟩,Qn0 _ (h.out k cs hMk hlt)⟩
end
end Go.Abs
end
