/-
  Part 3 of the proof: see the last text.
-/
import Derived.Test.YthlopjpofmcdmaaP2
import Derived.Sort.Grow
set_option linter.unusedVariables false
set_option linter.unusedSimpArgs false
set_option linter.unusedSectionVars false
section
namespace Go.Abs
open Go
def WeakSt (Γ:Env) (σ σ' : St):Prop:=∀ a w g,SR Γ.n0 Γ.nt Γ.g0 Γ.w0 σ a w g→∃ g',SR Γ.n0 Γ.nt Γ.g0 Γ.w0 σ' a w g'
theorem WeakSt.refl {Γ:Env} (σ:St):WeakSt Γ σ σ:=fun _ _ g h=>⟨g,h⟩
theorem WeakSt.trans {Γ:Env} {σ σ' σ'' : St} (h:WeakSt Γ σ σ') (k:WeakSt Γ σ' σ''):WeakSt Γ σ σ'':=fun a w g hs=>let ⟨g',h'⟩:=h a w g hs;k a w g' h'
variable {Γ:Env} {σ:St} {Q:Ex→St→Prop}
theorem Tr.weak {cc:CC} {σ' : St} (h:WeakSt Γ σ σ') (k:Tr Γ cc σ' Q):Tr Γ cc σ Q:=fun c hc a w g hs=>let ⟨g',h'⟩:=h a w g hs;k c hc a w g' h'
theorem Tr.mono {cc:CC} {Q' : Ex→St→Prop} (h:Tr Γ cc σ Q) (k:∀ e σ',Q e σ'→Q' e σ'):Tr Γ cc σ Q':=fun c hc a w g hs =>
 wp_mono (h c hc a w g hs) fun _ _ _ ⟨x,σ',g',he,hq,hs'⟩=>⟨x,σ',g',he,k _ _ hq,hs'⟩
theorem Qbfu {P:Program} {T:Tk} {nt:Nat} {ops:Array Oper} {draw:Bool} {cc:CC} (h:Qn8 P T nt ops draw=some cc):∃ cs pc ps,cc = .region cs pc ps:=by
 unfold Qn8 at h;split at h<;>try (cases h;done)
 split at h
 ·split at h<;>try (cases h;done)
  split at h
  ·cases h;exact ⟨_,_,_,rfl⟩
  ·split at h
   ·cases h;exact ⟨_,_,_,rfl⟩
   ·split at h
    ·cases h;exact ⟨_,_,_,rfl⟩
    ·split at h<;>cases h;exact ⟨_,_,_,rfl⟩
 ·cases h;exact ⟨_,_,_,rfl⟩
theorem Qtq {P:Program} {T:Tk} {nt:Nat} {ops:Array Oper} {draw:Bool} {cc:CC} (h:Qblg (Qn8 P T nt ops draw)=some cc):(∃ cs pc ps,cc = .region cs pc ps)∨cc = .dead:=by
 cases hr:Qn8 P T nt ops draw with
 | none=>rw [hr] at h;cases h;exact .inr rfl
 | some c=>rw [hr] at h;cases h;exact .inl (Qbfu hr)
theorem Qbel {o:Option CC} {cs:List COp} {pc:Nat} {ps:List Pair} (h:Qblg o=some (.region cs pc ps)):o=some (.region cs pc ps):=by
 cases o with
 | none=>cases h
 | some c=>exact h
theorem Tr.skip (h:Q .norm σ):Tr Γ .skip σ Q:=by
 intro c hc a w g hs;cases c<;>simp only [Q2j] at hc<;>try (cases hc;done)
 ·exact wp_skip ⟨.norm,σ,g,rfl,h,hs⟩
 ·rcases Qtq hc with ⟨_,_,_,h'⟩|h'<;>cases h'
 ·split at hc<;>cases hc
 ·split at hc<;>cases hc
 ·simp at hc
 ·simp at hc
theorem Tr.exit {id:Nat} (h:Q (.exit id) σ):Tr Γ (.exit id) σ Q:=by
 intro c hc a w g hs;cases c<;>simp only [Q2j] at hc<;>try (cases hc;done)
 ·rcases Qtq hc with ⟨_,_,_,h'⟩|h'<;>cases h'
 ·split at hc<;>cases hc
 ·split at hc<;>cases hc
 ·simp at hc
 ·simp at hc
 ·cases hc;exact wp_exit ⟨.exit id,σ,g,rfl,h,hs⟩
theorem Tr.ret (h:Q .ret σ):Tr Γ .ret σ Q:=by
 intro c hc a w g hs;cases c<;>simp only [Q2j] at hc<;>try (cases hc;done)
 ·rcases Qtq hc with ⟨_,_,_,h'⟩|h'<;>cases h'
 ·split at hc<;>cases hc
 ·split at hc<;>cases hc
 ·simp at hc
 ·simp at hc
 ·exact wp_ret ⟨.ret,σ,g,rfl,h,hs⟩
def Qbms (Γ:Env) (b:CC) (Q:Ex→St→Prop):Ex→St→Prop
 | .norm,σ'=>Tr Γ b σ' Q
 | .exit i,σ'=>Q (.exit i) σ'
 | .ret,σ'=>Q .ret σ'
theorem Tr.seq {x y:CC} (h:Tr Γ x σ (Qbms Γ y Q)):Tr Γ (.seq x y) σ Q:=by
 intro c hc a w g hs;cases c<;>simp only [Q2j] at hc<;>try (cases hc;done)
 ·rcases Qtq hc with ⟨_,_,_,h'⟩|h'<;>cases h'
 ·split at hc<;>cases hc;rename_i hx hy;refine wp_seq (wp_mono (h _ hx a w g hs) ?_);rintro e a' w' ⟨e',σ',g',rfl,hq,hs'⟩;cases e' with
  | norm=>exact hq _ hy a' w' g' hs'
  | exit id=>exact ⟨.exit id,σ',g',rfl,hq,hs'⟩
  | ret=>exact ⟨.ret,σ',g',rfl,hq,hs'⟩
 ·split at hc<;>cases hc
 ·simp at hc
 ·simp at hc
theorem Tr.cond {q:Arg} {x y:CC} {b:Bool} (hb:q.val σ.s = .d (.bool b)) (hx:b=true→Tr Γ x σ Q) (hy:b=false→Tr Γ y σ Q):Tr Γ (.cond q x y) σ Q:=by
 intro c hc a w g hs;cases c<;>simp only [Q2j] at hc<;>try (cases hc;done)
 ·rcases Qtq hc with ⟨_,_,_,h'⟩|h'<;>cases h'
 ·split at hc<;>cases hc
 ·split at hc<;>cases hc;rename_i ha hcx hcy;obtain ⟨h1,_⟩:=Qg6 Γ.P hs ha;rw [hb] at h1;refine wp_cond (Qbcb (by simpa [V.dem] using h1)) ?_;cases b with
  | true=>exact hx rfl _ hcx a w g hs
  | false=>exact hy rfl _ hcy a w g hs
 ·simp at hc
 ·simp at hc
def inB (id:Nat) (Q:Ex→St→Prop):Ex→St→Prop
 | .exit i,σ'=>bif Nat.beq i id then Q .norm σ' else Q (.exit i) σ'
 | .norm,σ'=>Q .norm σ'
 | .ret,σ'=>Q .ret σ'
theorem Tr.block {id:Nat} {x:CC} (h:Tr Γ x σ (inB id Q)):Tr Γ (.block id x) σ Q:=by
 intro c hc a w g hs;cases c<;>simp only [Q2j] at hc<;>try (cases hc;done)
 ·rcases Qtq hc with ⟨_,_,_,h'⟩|h'<;>cases h'
 ·split at hc<;>cases hc
 ·split at hc<;>cases hc
 ·rename_i bid bc;simp only [Option.map_eq_some_iff,CC.block.injEq] at hc;obtain ⟨cx,hx,rfl,rfl⟩:=hc;refine wp_block (wp_mono (h _ hx a w g hs) ?_);rintro e a' w' ⟨e',σ',g',rfl,hq,hs'⟩;cases e' with
  | norm=>exact ⟨.norm,σ',g',rfl,hq,hs'⟩
  | exit id' =>
   simp only [Ex.to,Exit.inBlock];simp only [inB] at hq;split
   ·rename_i he;subst he;rw [show Nat.beq id' id'=true from by simp] at hq;exact ⟨.norm,σ',g',rfl,hq,hs'⟩
   ·rename_i he;have:Nat.beq id' bid=false:=by
     cases hb:Nat.beq id' bid with
     | false=>rfl
     | true=>exact absurd (Nat.eq_of_beq_eq_true hb) he
    rw [this] at hq;exact ⟨.exit id',σ',g',rfl,hq,hs'⟩
  | ret=>exact ⟨.ret,σ',g',rfl,hq,hs'⟩
 ·simp at hc
def Qcm {X R:Type} (F:(X→Option R)→X→Option R):Nat→X→Option R
 | 0,_=>none
 | n+1,x=>F (Qcm F n) x
def Qbr7 {X R:Type} (Γ:Env) (sites:List Nat) (mk:X→St) (rec' : X→Option R) (r:R) (Q:Ex→St→Prop):Ex→St→Prop
 | .norm,σ'=>∃ x',rec' x'=some r∧WeakSt Γ (Qn7 Γ.n0 sites σ') (mk x')
 | .exit i,σ'=>Q (.exit i) σ'
 | .ret,σ'=>Q .ret σ'
theorem Tr.loop {X R:Type} {F:(X→Option R)→X→Option R} {mk:X→St} {n:Nat} {x0:X} {r:R} {sites:List Nat} {x:CC} (h:Qcm F n x0=some r) (h0:WeakSt Γ (Qn7 Γ.n0 sites σ) (mk x0))
  (body:∀ (rec' : X→Option R) y,F rec' y=some r→Tr Γ x (mk y) (Qbr7 Γ sites mk rec' r Q)):Tr Γ (.loop sites x) σ Q:=by
 intro c hc a w g hs;cases c<;>simp only [Q2j] at hc<;>try (cases hc;done)
 ·rcases Qtq hc with ⟨_,_,_,h'⟩|h'<;>cases h'
 ·split at hc<;>cases hc
 ·split at hc<;>cases hc
 ·simp at hc
 rename_i cb;simp only [Option.map_eq_some_iff,CC.loop.injEq] at hc;obtain ⟨cx,hx,rfl,rfl⟩:=hc;let S:Nat→Act→World→Prop:=fun n a w=>∃ y g,Qcm F n y=some r∧SR Γ.n0 Γ.nt Γ.g0 Γ.w0 (mk y) a w g;let μ:Act→World→Nat:=fun a w=>Qbmo fun n=>S n a w;obtain ⟨g',h'⟩:=h0 a w g (Qbby hs _);refine wp_loop (fun a w=>∃ n,S n a w) μ ⟨n,x0,g',h,h'⟩ ?_;intro a w hI;obtain ⟨y,g,hn,hy⟩:=Qbkq hI;change Qcm F (μ a w) y=some r at hn;generalize μ a w=m at hn;cases m with
 | zero=>cases hn
 | succ m =>
  refine wp_mono (body (Qcm F m) y hn cb hx a w g hy) ?_;rintro e a' w' ⟨e',σ',g',rfl,hq,hs'⟩;cases e' with
  | norm =>
   obtain ⟨x',hr,hw⟩:=hq;obtain ⟨g2,h2⟩:=hw a' w' g' (Qbby hs' _);have hI' : ∃ n,S n a' w':=⟨m,x',g2,hr,h2⟩;exact ⟨hI',Nat.lt_succ_of_le (Qbof (p:=fun n=>S n a' w') ⟨x',g2,hr,h2⟩)⟩
  | exit id=>exact ⟨.exit id,σ',g',rfl,hq,hs'⟩
  | ret=>exact ⟨.ret,σ',g',rfl,hq,hs'⟩
def Qbrh {X R:Type} (Γ:Env) (mk:X→St) (J:X→Option R) (r:R) (Q:Ex→St→Prop):Ex→St→Prop
 | .norm,σ'=>∃ x',J x'=some r∧WeakSt Γ σ' (mk x')
 | .exit i,σ'=>Q (.exit i) σ'
 | .ret,σ'=>Q .ret σ'
theorem Tr.cut {X R:Type} {x y:CC} (mk:X→St) (J:X→Option R) (r:R) (hy:∀ z,J z=some r→Tr Γ y (mk z) Q) (hx:Tr Γ x σ (Qbrh Γ mk J r Q)):Tr Γ (.seq x y) σ Q:=by
 refine Tr.seq (hx.mono ?_);intro e σ' hq;cases e with
 | norm=>obtain ⟨z,hj,hw⟩:=hq;exact (hy z hj).weak hw
 | exit id=>exact hq
 | ret=>exact hq
theorem Qbem (P:Program):Qbl7 P (ACalls P):=fun _ _ _ _ _ _ _ h=>h
def Qbaj (Γ:Env):List COp→St→(St→Prop)→Prop
 | [],σ,Q=>∃ σ',WeakSt Γ σ σ'∧Q σ'
 | o::os,σ,Q=>∃ σ',WeakSt Γ σ σ'∧o.run (ACalls Γ.P) Γ.n0 0 σ' fun σ''=>Qbaj Γ os σ'' Q
theorem Qbg1 {os:List COp} {σ σ' : St} {Q:St→Prop} (h:WeakSt Γ σ σ') (k:Qbaj Γ os σ' Q):Qbaj Γ os σ Q:=by
 cases os with
 | nil=>obtain ⟨σ2,h2,k⟩:=k;exact ⟨σ2,h.trans h2,k⟩
 | cons o os=>obtain ⟨σ2,h2,k⟩:=k;exact ⟨σ2,h.trans h2,k⟩
theorem Qbfv {ops:Array Oper} {cs:List COp} (hcs:ops.toList.mapM (Qjm Γ.P Γ.T Γ.nt ops)=some cs) {Q:St→Prop} {QQ:Exit→Act→World→Prop}
  (hQ:∀ σ' a' w' g',Q σ'→SR Γ.n0 Γ.nt Γ.g0 Γ.w0 σ' a' w' g'→QQ .normal a' w'):∀ (m j:Nat) (σ:St) (a:Act) (w:World) (g:G),j+m=ops.size→SR Γ.n0 Γ.nt Γ.g0 Γ.w0 σ a w g →
  Qbaj Γ (cs.drop j) σ Q→wpOps Γ.P ops QQ (List.range' j m) a w:=by
 obtain ⟨hlen,hget⟩:=Qsh hcs;intro m
 induction m with
 | zero =>
  intro j σ a w g hj h hr;have:cs.drop j=[]:=List.drop_eq_nil_of_le (by rw [hlen];simp;omega);rw [this] at hr;obtain ⟨σ',hw,hq⟩:=hr;obtain ⟨g2,h2⟩:=hw a w g h;exact hQ _ _ _ g2 hq h2
 | succ m ih =>
  intro j σ a w g hj h hr;have hjl:j<cs.length:=by rw [hlen];simp;omega
  have hjo:j<ops.size:=by omega
  rw [List.drop_eq_getElem_cons hjl] at hr;obtain ⟨σ1,hw1,hr⟩:=hr;obtain ⟨g1,h⟩:=hw1 a w g h;have hc:Qjm Γ.P Γ.T Γ.nt ops ops[j]=some cs[j]:=hget j ops[j] cs[j] (by simp [hjo]) (List.getElem?_eq_getElem hjl);have:=Qbfp (QQ:=QQ) (Qbem Γ.P) hc h hr (KK:=wpOps Γ.P ops QQ (List.range' (j+1) m)) fun σ' a' w' g' hq hs=>ih (j+1) σ' a' w' g' (by omega) hs hq;simp only [List.range'_succ,wpOps,Array.getElem?_eq_getElem hjo];split
  ·rename_i hw;rw [hw] at this;exact .inl (by simpa using this)
  ·rename_i hw;simp only [hw] at this;exact (by simpa using this)
theorem Tr.region {cs:List COp} (h:Qbaj Γ cs σ (Q .norm)):Tr Γ (.region cs 9 []) σ Q:=by
 intro c hc a w g hs;cases c<;>simp only [Q2j] at hc<;>try (cases hc;done)
 case region id ops draw =>
  have hc:=Qbel hc;unfold Qn8 at hc;split at hc<;>try (cases hc;done)
  rename_i cs' hcs;cases draw with
  | true =>
   exfalso;simp only [if_true] at hc;split at hc<;>try (cases hc;done)
   split at hc
   ·cases hc
   ·split at hc
    ·simp only [Option.some.injEq,CC.region.injEq] at hc;omega
    ·split at hc
     ·cases hc
     ·split at hc<;>cases hc
  | false =>
   simp only [Bool.false_eq_true,if_false,Option.some.injEq,CC.region.injEq,true_and,and_true] at hc;subst hc;refine wp_region ?_;rw [List.range_eq_range'];exact Qbfv (Γ:=Γ) hcs (Q:=Q .norm) (fun σ' a' w' g' hq hs'=>⟨.norm,σ',g',rfl,hq,hs'⟩) ops.size 0 σ a w g (by omega) hs (by simpa using h)
 ·split at hc<;>cases hc
 ·split at hc<;>cases hc
 ·simp at hc
 ·simp at hc
def Q4v (ps:List Pair) (σ:St):Bool:=ps.all fun p=>Qo7 (σ.s p.a) p.n (σ.s p.b) p.m
theorem Tr.regionD {cs:List COp} {pc:Nat} {ps:List Pair} (hpc:pc≠9) (h:Qbgd (ACalls Γ.P) Γ.n0 pc cs σ fun σ'=>Q4v ps σ'=true∧Q .norm σ'):Tr Γ (.region cs pc ps) σ Q:=by
 intro c hc a w g hs;cases c<;>simp only [Q2j] at hc<;>try (cases hc;done)
 case region id ops draw =>
  have hc:=Qbel hc;unfold Qn8 at hc;split at hc<;>try (cases hc;done)
  rename_i cs' hcs;cases draw with
  | false=>simp at hc;exact absurd hc.2.1.symm hpc
  | true =>
   simp only [if_true] at hc;split at hc<;>try (cases hc;done)
   rename_i hcond;simp only [Bool.or_eq_true,Bool.not_eq_true',not_or,Bool.not_eq_false,Bool.not_eq_true] at hcond;obtain ⟨⟨hup,hm⟩,hn⟩:=hcond;have hnil:∀ c∈cs',c.kind.isNil=false:=by
    intro c hc;rw [List.any_eq_false] at hn;simpa using hn c hc
   have fin:Qy3 pc (ancs ops.toList) cs'=some ps→cs'=cs→(Code.region id ops true).wp Γ.P (lift Γ.n0 Γ.nt Γ.g0 Γ.w0 Q) a w:=by
    intro hps he;subst he;exact Qbkp (Qbem Γ.P) hcs hup hm hnil hps (Q:=fun σ'=>Q .norm σ') (fun σ' a' w' g' hq hs=>⟨.norm,σ',g',rfl,hq,hs⟩) hs h
   split at hc
   ·rename_i ps' hps;simp only [Option.some.injEq,CC.region.injEq] at hc;obtain ⟨h1,h2,h3⟩:=hc;subst h2 h3;exact fin hps h1
   ·split at hc
    ·rename_i ps' hps;simp only [Option.some.injEq,CC.region.injEq] at hc;obtain ⟨h1,h2,h3⟩:=hc;subst h2 h3;split at hps
     ·cases hps
     ·exact fin hps h1
    ·split at hc
     ·rename_i ps' hps;simp only [Option.some.injEq,CC.region.injEq] at hc;obtain ⟨h1,h2,h3⟩:=hc;subst h2 h3;exact fin hps h1
     ·split at hc<;>try (cases hc;done)
      rename_i ps' hps;simp only [Option.some.injEq,CC.region.injEq] at hc;obtain ⟨h1,h2,h3⟩:=hc;subst h2 h3;exact fin hps h1
 ·split at hc<;>cases hc
 ·split at hc<;>cases hc
 ·simp at hc
 ·simp at hc
structure WkV (v v' : V):Prop where
 rd:Wk v v'
 on:∀ p,v.on p→v'.on p
theorem WkV.refl (v:V):WkV v v:=⟨fun _ _ _ _ h=>h,fun _ h=>h⟩
theorem WkV.same {v v' : V} (h:v=v'):WkV v v':=h ▸ .refl v
theorem sm {v v' : V} (h:v=v'):WkV v v':=h ▸ .refl v
theorem WkV.und (v:V):WkV v .und:=⟨fun _ _ _ _ _=>by simp [RV],fun _ _=>trivial⟩
theorem WkV.dem (v:V):WkV v v.dem:=⟨fun _ _ ℓ _ h=>Qh8 v ℓ ℓ _ h,fun _ h=>(Qdw v).2 h⟩
theorem WkV.dem' {v v' : V} (h:v.dem=v'):WkV v v':=h ▸ .dem v
theorem WkV.ownT (sz:Nat) (l:List (List D)):WkV (.own sz l) (.ownT sz l):=⟨fun _ _ _ _ h=>Qbh4 h,fun _ _=>trivial⟩
theorem WkV.trans {a b c:V} (h:WkV a b) (k:WkV b c):WkV a c:=⟨fun g w ℓ u hv=>k.rd g w ℓ u (h.rd g w ℓ u hv),fun p hp=>k.on p (h.on p hp)⟩
inductive WkVs:List V→List V→Prop where
 | nil:WkVs [] []
 | cons {v v' : V} {vs vs' : List V} (h:WkV v v') (t:WkVs vs vs'):WkVs (v::vs) (v'::vs')
theorem WkVs.rd {vs vs' : List V} (h:WkVs vs vs'):∀ g w ℓ i us,RVs g w vs ℓ i us→RVs g w vs' ℓ i us:=by
 induction h with
 | nil=>exact fun _ _ _ _ _ h=>h
 | cons h t ih =>
  intro g w ℓ i us hv;simp only [RVs] at hv ⊢;obtain ⟨u,us',rfl,h1,h2⟩:=hv;exact ⟨u,us',rfl,h.rd _ _ _ _ h1,ih _ _ _ _ _ h2⟩
theorem WkVs.on {vs vs' : List V} (h:WkVs vs vs'):∀ p,V.ons p vs→V.ons p vs':=by
 induction h with
 | nil=>exact fun _ h=>h
 | cons h t ih=>exact fun p hv=>⟨h.on p hv.1,ih p hv.2⟩
theorem WkVs.refl:∀ vs:List V,WkVs vs vs
 | []=>.nil
 | v::vs=>.cons (.refl v) (WkVs.refl vs)
theorem WkV.tup {vs vs' : List V} (h:WkVs vs vs'):WkV (.tup vs) (.tup vs'):=by
 refine ⟨fun g w ℓ u hv=>?_,fun p hv=>h.on p hv⟩;simp only [RV] at hv ⊢;obtain ⟨us,rfl,hv⟩:=hv;exact ⟨us,rfl,h.rd _ _ _ _ _ hv⟩
theorem WkV.agg {vs vs' : List V} (h:WkVs vs vs'):WkV (.agg vs) (.agg vs'):=by
 refine ⟨fun g w ℓ u hv=>?_,fun p hv=>h.on p hv⟩;simp only [RV] at hv ⊢;obtain ⟨us,rfl,hv,h1⟩:=hv;exact ⟨us,rfl,h.rd _ _ _ _ _ hv,h1⟩
def look:List (Nat×V)→Sl
 | [],_=>.und
 | (t,v)::E,i=>bif Nat.beq i t then v else look E i
def WkL (s:Sl):List (Nat×V)→Prop
 | []=>True
 | (t,v)::E=>WkV (s t) v∧WkL s E
theorem WkL.at {s:Sl}:∀ {E:List (Nat×V)},WkL s E→∀ t,WkV (s t) (look E t)
 | [],_,t=>.und _
 | (u,v)::E,h,t=>by
  simp only [look];cases hb:Nat.beq t u with
  | true=>have:=Nat.eq_of_beq_eq_true hb;subst this;exact h.1
  | false=>exact WkL.at h.2 t
theorem Qdc (E:List (Nat×V)) (t:Nat) (v:V):(look E).put t v=look ((t,v)::E):=by
 funext i;simp only [Sl.put,look];cases hb:Nat.beq i t with
 | true=>have:=Nat.eq_of_beq_eq_true hb;simp [this]
 | false =>
  have:i≠t:=fun e=>by subst e;simp at hb
  simp [this]
def Qb9:List (Nat×Bx)→Nat→Option Bx
 | [],_=>none
 | (t,b)::L,i=>bif Nat.beq i t then some b else Qb9 L i
def Qo (n0:Nat) (L:List (Nat×Bx)) (M0:Mem):Mem:=fun k=>if k<n0 then M0 k else Qb9 L (k-n0)
theorem Qcx {n0:Nat} {L:List (Nat×Bx)} {M0:Mem} {t:Nat}:Qo n0 L M0 (n0+t)=Qb9 L t:=by
 simp only [Qo,Nat.add_sub_cancel_left];rw [if_neg (by omega)]
theorem Qdl {n0:Nat} {L:List (Nat×Bx)} {M0:Mem} {k:Nat} (h:k<n0):Qo n0 L M0 k=M0 k:=by
 simp [Qo,h]
theorem Q81 {n0:Nat} {M0:Mem} (h:∀ k,n0≤k→M0 k=none):Qo n0 [] M0=M0:=by
 funext k;simp only [Qo];split
 ·rfl
 ·exact (h k (by omega)).symm
theorem Qeb {n0:Nat} {L:List (Nat×Bx)} {M0:Mem} {t:Nat} {b:Bx}:(Qo n0 L M0).put (n0+t) b=Qo n0 ((t,b)::L) M0:=by
 funext k;simp only [Mem.put,Qo,Qb9];by_cases h:k=n0+t
 ·subst h;rw [if_pos rfl,if_neg (by omega)];simp
 ·rw [if_neg h];by_cases hk:k<n0
  ·simp [hk]
  ·simp only [hk,if_false];have:Nat.beq (k-n0) t=false:=by
    cases hb:Nat.beq (k-n0) t with
    | false=>rfl
    | true=>have:=Nat.eq_of_beq_eq_true hb;omega
   rw [this];rfl
def KL (n0:Nat) (sites:List Nat) (s:Sl):List (Nat×V)→Prop
 | []=>True
 | (t,v)::E=>WkV (Qej (Qkw n0 sites) (s t)) v∧KL n0 sites s E
theorem KL.at {n0:Nat} {sites:List Nat} {s:Sl}:∀ {E:List (Nat×V)},KL n0 sites s E→∀ t,WkV (Qej (Qkw n0 sites) (s t)) (look E t)
 | [],_,t=>.und _
 | (u,v)::E,h,t=>by
  simp only [look];cases hb:Nat.beq t u with
  | true=>have:=Nat.eq_of_beq_eq_true hb;subst this;exact h.1
  | false=>exact KL.at h.2 t
def KB (n0:Nat) (sites:List Nat) (L:List (Nat×Bx)):List (Nat×Bx)→Prop
 | []=>True
 | (t,.cells cs')::L'=>(∃ cs,Qb9 L t=some (.cells cs)∧sites.all (fun u=>!Nat.beq t u)=true∧WkVs (cs.map (Qej (Qkw n0 sites))) cs')∧KB n0 sites L L'
 | (t,.mp es c)::L'=>(Qb9 L t=some (.mp es c)∧sites.all (fun u=>!Nat.beq t u)=true)∧KB n0 sites L L'
abbrev bxs (L:List (Nat×Bx)):List (Nat×Bx):=L
theorem KB.at {n0:Nat} {sites:List Nat} {L:List (Nat×Bx)}:∀ {L' : List (Nat×Bx)},KB n0 sites L L'→∀ t b,Qb9 L' t=some b→sites.all (fun u=>!Nat.beq t u)=true ∧
  ((∃ cs' cs,b = .cells cs'∧Qb9 L t=some (.cells cs)∧WkVs (cs.map (Qej (Qkw n0 sites))) cs')∨∃ es c,b = .mp es c∧Qb9 L t=some (.mp es c))
 | [],_,t,b,hb=>by simp [Qb9] at hb
 | (u,.cells cs')::L',h,t,b,hb=>by
  simp only [Qb9] at hb;cases hbe:Nat.beq t u with
  | true =>
   have:=Nat.eq_of_beq_eq_true hbe;subst this;rw [hbe] at hb;simp only [cond_true,Option.some.injEq] at hb;obtain ⟨cs,h1,h2,h3⟩:=h.1;exact ⟨h2,.inl ⟨cs',cs,hb.symm,h1,h3⟩⟩
  | false =>
   rw [hbe] at hb;exact KB.at h.2 t b hb
 | (u,.mp es c)::L',h,t,b,hb=>by
  simp only [Qb9] at hb;cases hbe:Nat.beq t u with
  | true =>
   have:=Nat.eq_of_beq_eq_true hbe;subst this;rw [hbe] at hb;simp only [cond_true,Option.some.injEq] at hb;exact ⟨h.1.2,.inr ⟨es,c,hb.symm,h.1.1⟩⟩
  | false =>
   rw [hbe] at hb;exact KB.at h.2 t b hb
theorem Q2t:∀ {L:List (Nat×Bx)} {t:Nat} {b:Bx},Qb9 L t=some b→∃ p∈L,p.1=t
 | [],_,_,h=>by simp [Qb9] at h
 | (u,c)::L,t,b,h=>by
  simp only [Qb9] at h;cases hbe:Nat.beq t u with
  | true=>exact ⟨(u,c),by simp,(Nat.eq_of_beq_eq_true hbe).symm⟩
  | false =>
   rw [hbe] at h;obtain ⟨p,hp,e⟩:=Q2t h;exact ⟨p,by simp [hp],e⟩
theorem Qbak:∀ {L:List (Nat×Bx)} {p:Nat×Bx},p∈L→(Qb9 L p.1).isSome=true
 | (u,c)::L,p,h=>by
  simp only [Qb9];cases hbe:Nat.beq p.1 u with
  | true=>rfl
  | false =>
   rcases List.mem_cons.1 h with rfl|h
   ·simp at hbe
   ·exact Qbak h
theorem Qxa {n0 t:Nat} {sites:List Nat}:Qkw n0 sites (n0+t)=sites.any fun u=>Nat.beq t u:=by
 unfold Qkw;congr 1;funext u;cases hb:Nat.beq t u with
 | true=>have:=Nat.eq_of_beq_eq_true hb;subst this;simp
 | false =>
  have:t≠u:=fun e=>by subst e;simp at hb
  simp [this]
theorem Qti {n0 k:Nat} {sites:List Nat} (h:k<n0):Qkw n0 sites k=false:=by
 cases hs:Qkw n0 sites k with
 | false=>rfl
 | true=>have:=Qbmn hs;omega
theorem Qbjl {sites:List Nat} {s1 s' : Sl} {E:List (Nat×V)} {L:List (Nat×Bx)} {L' : List (Nat×Bx)} {M0:Mem} {nb:Nat} (hE:∀ t,WkV (s1 t) (s' t)) (hL:KB Γ.n0 sites L L')
  (hk:(L.all fun p=>sites.any (Nat.beq p.1)||L'.any fun q=>Nat.beq p.1 q.1)=true) :
  WeakSt Γ ⟨s1,(Qn7 Γ.n0 sites ⟨look E,Qo Γ.n0 L M0,nb⟩).M,nb⟩ ⟨s',Qo Γ.n0 (bxs L') M0,nb⟩:=by
 intro a w g hs;have hbase:∀ k,k<Γ.n0→(Qn7 Γ.n0 sites ⟨look E,Qo Γ.n0 L M0,nb⟩).M k=M0 k:=by
  intro k hk;simp only [Qn7,Qti hk,Bool.false_eq_true,if_false,hk,if_true];exact Qdl hk
 have hown:∀ t cs,sites.all (fun u=>!Nat.beq t u)=true→Qb9 L t=some (.cells cs)→(Qn7 Γ.n0 sites ⟨look E,Qo Γ.n0 L M0,nb⟩).M (Γ.n0+t)=some (.cells (cs.map (Qej (Qkw Γ.n0 sites)))):=by
  intro t cs h1 h2;have h3:Qkw Γ.n0 sites (Γ.n0+t)=false:=by
   rw [Qxa];rw [List.any_eq_false];rw [List.all_eq_true] at h1;intro u hu;have:=h1 u hu;simp only [Bool.not_eq_true'] at this;rw [this];simp
  have h4:¬ Γ.n0+t<Γ.n0:=by omega
  have h5:Qo Γ.n0 L M0 (Γ.n0+t)=some (.cells cs):=by rw [Qcx];exact h2
  simp only [Qn7,h3,Bool.false_eq_true,if_false,h4,h5]
 have hownm:∀ t es c,sites.all (fun u=>!Nat.beq t u)=true→Qb9 L t=some (.mp es c)→(Qn7 Γ.n0 sites ⟨look E,Qo Γ.n0 L M0,nb⟩).M (Γ.n0+t)=some (.mp es c):=by
  intro t es c h1 h2;have h3:Qkw Γ.n0 sites (Γ.n0+t)=false:=by
   rw [Qxa];rw [List.any_eq_false];rw [List.all_eq_true] at h1;intro u hu;have:=h1 u hu;simp only [Bool.not_eq_true'] at this;rw [this];simp
  have h4:¬ Γ.n0+t<Γ.n0:=by omega
  have h5:Qo Γ.n0 L M0 (Γ.n0+t)=some (.mp es c):=by rw [Qcx];exact h2
  simp only [Qn7,h3,Bool.false_eq_true,if_false,h4,h5]
 have hsplit:∀ k,k<Γ.n0∨∃ t,k=Γ.n0+t:=fun k=>by
  rcases Nat.lt_or_ge k Γ.n0 with h|h
  ·exact .inl h
  ·exact .inr ⟨k-Γ.n0,by omega⟩
 have hthere:∀ k,There (Qn7 Γ.n0 sites ⟨look E,Qo Γ.n0 L M0,nb⟩).M k→There (Qo Γ.n0 (bxs L') M0) k:=by
  intro k hk';rcases hsplit k with h|⟨t,rfl⟩
  ·simp only [There,hbase k h] at hk';simp only [There,Qdl h,hk']
  ·simp only [There,Qcx];have h4:¬ Γ.n0+t<Γ.n0:=by omega
   have h6:Qkw Γ.n0 sites (Γ.n0+t)=false:=by
    cases hsp:Qkw Γ.n0 sites (Γ.n0+t) with
    | false=>rfl
    | true=>simp [There,Qn7,hsp] at hk'
   have h7:∃ b,Qb9 L t=some b:=by
    cases hb:Qb9 L t with
    | some b=>exact ⟨b,rfl⟩
    | none =>
     have h5:Qo Γ.n0 L M0 (Γ.n0+t)=none:=by rw [Qcx];exact hb
     simp only [There,Qn7,h6,Bool.false_eq_true,if_false,h4,h5] at hk';cases hk'
   obtain ⟨b,hb⟩:=h7;obtain ⟨p,hp,rfl⟩:=Q2t hb;have:=List.all_eq_true.1 hk p hp;rw [Qxa] at h6;rw [Bool.or_eq_true] at this;rcases this with h8|h8
   ·rw [h6] at h8;cases h8
   ·obtain ⟨q,hq,he⟩:=List.any_eq_true.1 h8;have he:=Nat.eq_of_beq_eq_true he;have:=Qbak hq;rw [he];exact this
 refine ⟨g,⟨⟨fun k b hb=>?_,hs.mem.imm⟩,fun t=>(hE t).rd _ _ _ _ (hs.slots t),hs.size,hs.defers,fun t=>Qf8 hthere _ ((hE t).on _ (hs.onS t)),fun k cs hb=>?_,hs.top,hs.fr⟩⟩
 ·rcases hsplit k with h|⟨t,rfl⟩
  ·have hb' : (Qn7 Γ.n0 sites ⟨look E,Qo Γ.n0 L M0,nb⟩).M k=some b:=by rw [hbase k h];rw [← hb];exact (Qdl h).symm
   exact hs.mem.box k b hb'
  ·have hb' : Qb9 (bxs L') t=some b:=by rw [← hb];exact Qcx.symm
   obtain ⟨h2,⟨cs',cs,rfl,h1,h3⟩|⟨es,c,rfl,h1⟩⟩:=hL.at t b hb'
   ·obtain ⟨k1,k2,vals,e,k3,k4,k5⟩:=hs.mem.box _ _ (hown t cs h2 h1);exact ⟨k1,k2,vals,e,k3,h3.rd _ _ _ _ _ k4,k5⟩
   ·exact hs.mem.box _ _ (hownm t es c h2 h1)
 ·rcases hsplit k with h|⟨t,rfl⟩
  ·have hb' : (Qn7 Γ.n0 sites ⟨look E,Qo Γ.n0 L M0,nb⟩).M k=some (.cells cs):=by rw [hbase k h];rw [← hb];exact (Qdl h).symm
   obtain ⟨k1,k2⟩:=hs.onM k cs hb';exact ⟨ons_mono hthere _ k1,k2⟩
  ·have hb' : Qb9 (bxs L') t=some (.cells cs):=by rw [← hb];exact Qcx.symm
   obtain ⟨h2,⟨cs',cs0,he,h1,h3⟩|⟨es,c,he,h1⟩⟩:=hL.at t _ hb'<;>cases he;obtain ⟨k1,k2⟩:=hs.onM _ _ (hown t cs0 h2 h1);exact ⟨ons_mono hthere _ (h3.on _ k1),fun hlt=>absurd hlt (by omega)⟩
theorem Qk {sites:List Nat} {E E' : List (Nat×V)} {L:List (Nat×Bx)} {L' : List (Nat×Bx)} {M0:Mem} {nb:Nat} (hE:KL Γ.n0 sites (look E) E') (hL:KB Γ.n0 sites L L')
  (hk:(L.all fun p=>sites.any (Nat.beq p.1)||L'.any fun q=>Nat.beq p.1 q.1)=true) :
  WeakSt Γ (Qn7 Γ.n0 sites ⟨look E,Qo Γ.n0 L M0,nb⟩) ⟨look E',Qo Γ.n0 (bxs L') M0,nb⟩:=Qbjl (E:=E) (s1:=(Qn7 Γ.n0 sites ⟨look E,Qo Γ.n0 L M0,nb⟩).s) hE.at hL hk
theorem Qf (sites:List Nat) {E E' : List (Nat×V)} {L:List (Nat×Bx)} {L' : List (Nat×Bx)} {M0:Mem} {nb:Nat} (hE:KL Γ.n0 sites (look E) E') (hL:KB Γ.n0 sites L L')
  (hk:(L.all fun p=>sites.any (Nat.beq p.1)||L'.any fun q=>Nat.beq p.1 q.1)=true) :
  WeakSt Γ ⟨look E,Qo Γ.n0 L M0,nb⟩ ⟨look E',Qo Γ.n0 (bxs L') M0,nb⟩ :=
 WeakSt.trans (fun a w g hs=>⟨g,Qbby hs sites⟩) (Qk hE hL hk)
theorem kPtr {n0 t o:Nat} {sites:List Nat} (h:sites.any (fun u=>Nat.beq t u)=false):WkV (Qej (Qkw n0 sites) (.ptr (n0+t) o)) (.ptr (n0+t) o):=by
 refine .same ?_;simp [Qej,Qxa,h]
theorem Qbg {n0 k o:Nat} {sites:List Nat} (h:k<n0):WkV (Qej (Qkw n0 sites) (.ptr k o)) (.ptr k o):=by
 refine .same ?_;simp [Qej,Qti h]
theorem kSl {n0 t sz o n c:Nat} {sites:List Nat} (h:sites.any (fun u=>Nat.beq t u)=false):WkV (Qej (Qkw n0 sites) (.sl sz (n0+t) o n c)) (.sl sz (n0+t) o n c):=by
 refine .same ?_;simp [Qej,Qxa,h]
theorem kSlB {n0 k sz o n c:Nat} {sites:List Nat} (h:k<n0):WkV (Qej (Qkw n0 sites) (.sl sz k o n c)) (.sl sz k o n c):=by
 refine .same ?_;simp [Qej,Qti h]
theorem WkVs.same {vs vs' : List V} (h:vs=vs'):WkVs vs vs':=h ▸ .refl vs
end Go.Abs
end
section
namespace Go.Abs
open Go
variable {Γ:Env} {pc d nb:Nat} {os:List COp} {E:List (Nat×V)} {M M' M0:Mem} {L:List (Nat×Bx)} {Q:St→Prop} {σ:St}
def RnP (Γ:Env) (pc:Nat) (os:List COp) (σ:St) (Q:St→Prop):Prop :=
 bif Nat.beq pc 9 then Qbaj Γ os σ Q else Qbgd (ACalls Γ.P) Γ.n0 pc os σ Q
structure Rn (Γ:Env) (pc:Nat) (os:List COp) (σ:St) (Q:St→Prop):Prop where
 run:RnP Γ pc os σ Q
theorem Tr.rgn {cs:List COp} {Q:Ex→St→Prop} (h:Rn Γ 9 cs σ (Q .norm)):Tr Γ (.region cs 9 []) σ Q:=Tr.region h.run
theorem Tr.rgnD {cs:List COp} {Q:Ex→St→Prop} {pc:Nat} {ps:List Pair} (hpc:pc≠9) (h:Rn Γ pc cs σ fun σ'=>Q4v ps σ'=true∧Q .norm σ'):Tr Γ (.region cs pc ps) σ Q:=by
 refine Tr.regionD hpc ?_;have h:=h.run;unfold RnP at h;have:Nat.beq pc 9=false:=by
  cases hb:Nat.beq pc 9 with
  | false=>rfl
  | true=>exact absurd (Nat.eq_of_beq_eq_true hb) hpc
 rw [this] at h;exact h
theorem Rn.weak {σ' : St} (h:WeakSt Γ σ σ') (k:Rn Γ 9 os σ' Q):Rn Γ 9 os σ Q:=⟨Qbg1 h k.run⟩
theorem Rn.nil (h:Q σ):Rn Γ pc [] σ Q:=by
 refine ⟨?_⟩;unfold RnP;cases Nat.beq pc 9 with
 | true=>exact ⟨σ,.refl _,h⟩
 | false=>exact h
theorem COp.run_mono {C:Ctx} {n0 pc:Nat} {o:COp} {σ:St} {Q Q' : St→Prop} (h:o.run C n0 pc σ Q) (k:∀ σ',Q σ'→Q' σ'):o.run C n0 pc σ Q':=by
 unfold COp.run at *
 cases hw:o.wanted σ.s with
 | none=>rw [hw] at h;exact h.elim
 | some b =>
  rw [hw] at h;cases b with
  | false=>exact k _ h
  | true =>
   simp only at h ⊢;cases hc:o.kind.isCall with
   | true =>
    rw [hc] at h;simp only [if_true] at h ⊢;cases hcal:o.callee σ.s with
    | none=>rw [hcal] at h;exact h.elim
    | some fa =>
     rw [hcal] at h;simp only at h ⊢
     match pc,h with
     | 0,⟨r,M,nb,h1,h2,h3,h4⟩=>exact ⟨r,M,nb,h1,h2,h3,k _ h4⟩
     | 1,⟨r,Δ,nb,h1,h4⟩=>exact ⟨r,Δ,nb,h1,k _ h4⟩
     | n+2,h =>
      have h:(if n<8 then _ else _):=h;show (if n<8 then _ else _);by_cases hn8:n<8
      ·rw [if_pos hn8] at h ⊢;obtain ⟨r,h1,h4⟩:=h;exact ⟨r,h1,k _ h4⟩
      ·rw [if_neg hn8] at h ⊢;obtain ⟨r,W,Δ,nb,h1,h2,h3,h5,h4⟩:=h;exact ⟨r,W,Δ,nb,h1,h2,h3,h5,k _ h4⟩
   | false =>
    rw [hc] at h;simp only [Bool.false_eq_true,if_false] at h ⊢;cases hn:o.kind.isNil with
    | true =>
     rw [hn] at h;simp only [if_true] at h ⊢;cases hl:Qbd1 (o.xs σ.s) with
     | none=>rw [hl] at h;exact h.elim
     | some n=>rw [hl] at h;exact fun b hb=>k _ (h b hb)
    | false =>
     rw [hn] at h;simp only [Bool.false_eq_true,if_false] at h ⊢;cases hs:o.step n0 σ with
     | none=>rw [hs] at h;exact h.elim
     | some σ'=>rw [hs] at h;exact k _ h
def pcOf (pc:Nat):Nat:=bif Nat.beq pc 9 then 0 else pc
def one (n:Nat):Bool:=Nat.beq n 1||Nat.ble 10 n
theorem Rn.cons {o:COp} (h:o.run (ACalls Γ.P) Γ.n0 (pcOf pc) σ fun σ'=>Rn Γ pc os σ' Q):Rn Γ pc (o::os) σ Q:=by
 have h:=COp.run_mono h (Q':=fun σ'=>RnP Γ pc os σ' Q) fun _ h=>h.run;refine ⟨?_⟩;unfold RnP pcOf at *
 cases hb:Nat.beq pc 9 with
 | true=>rw [hb] at h;exact ⟨σ,.refl _,h⟩
 | false=>rw [hb] at h;exact h
def Wn (E:List (Nat×V)):Option (Nat×Bool)→Prop
 | none=>True
 | some (g,w)=>look E g = .d (.bool w)
theorem gw {g:Nat} {b w:Bool} (h:look E g = .d (.bool b)) (hb:b=w):Wn E (some (g,w)):=hb ▸ h
theorem Wn.wanted {gd:Option (Nat×Bool)} (h:Wn E gd) (dst:Option Nat) (k:K) (as:List Arg) (tk:Bool):COp.wanted ⟨dst,k,as,tk,gd⟩ (look E)=some true:=by
 unfold COp.wanted;cases gd with
 | none=>rfl
 | some p =>
  obtain ⟨g,w⟩:=p;have h:look E g = .d (.bool w):=h;simp [h]
def Nw (E:List (Nat×V)) (g:Nat) (want:Bool):Prop:=look E g = .d (.bool (!want))∨look E g = .tup []
theorem nw {g:Nat} {b w:Bool} (h:look E g = .d (.bool b)) (hb:b = !w):Nw E g w:=.inl (hb ▸ h)
theorem nu {g:Nat} {w:Bool} (h:look E g = .tup []):Nw E g w:=.inr h
theorem Rn.gF {dst:Option Nat} {k:K} {as:List Arg} {tk:Bool} {g:Nat} {want:Bool} (hg:Nw E g want) (h:Rn Γ pc os ⟨Qbf (look E) dst (.tup []),M,nb⟩ Q):Rn Γ pc (⟨dst,k,as,tk,some (g,want)⟩::os) ⟨look E,M,nb⟩ Q:=by
 refine Rn.cons ?_;have hw:COp.wanted ⟨dst,k,as,tk,some (g,want)⟩ (look E)=some false:=by
  rcases hg with hg|hg<;>simp [COp.wanted,hg]
 unfold COp.run;rw [hw];exact h
theorem Rn.sk {t:Nat} {k:K} {as:List Arg} {tk:Bool} {g:Nat} {want:Bool} (hg:Nw E g want) (h:Rn Γ pc os ⟨look ((t,.tup [])::E),M,nb⟩ Q):Rn Γ pc (⟨some t,k,as,tk,some (g,want)⟩::os) ⟨look E,M,nb⟩ Q:=by
 refine Rn.gF hg ?_;rw [show Qbf (look E) (some t) (.tup [])=look ((t,.tup [])::E) from Qdc E t _];exact h
variable {gd:Option (Nat×Bool)}
theorem Rn.k {k:K} {as:List Arg} {v:V} (hw:Wn E gd) (hc:k.isCall=false) (hn:k.isNil=false) (hk:Qn Γ.n0 (Γ.n0+d) k (V.dems (as.map (·.val (look E)))) M=some (v,M'))
  (h:Rn Γ pc os ⟨look ((d,v)::E),M',nb⟩ Q):Rn Γ pc (⟨some d,k,as,false,gd⟩::os) ⟨look E,M,nb⟩ Q:=by
 refine Rn.cons ?_;unfold COp.run;rw [hw.wanted];simp only [hc,hn,Bool.false_eq_true,if_false,COp.step,COp.xs,Option.getD_some,hk,Qbf];rw [Qdc];exact h
theorem Rn.kT {k:K} {as:List Arg} {v:V} {E' : List (Nat×V)} (hw:Wn E gd) (hc:k.isCall=false) (hn:k.isNil=false) (hk:Qn Γ.n0 (Γ.n0+d) k (as.map (·.val (look E))) M=some (v,M'))
  (hp:∀ i,(Q7 (look E) as (Qbu k (as.map (·.val (look E))))).put d v i=look E' i)
  (h:Rn Γ pc os ⟨look E',M',nb⟩ Q):Rn Γ pc (⟨some d,k,as,true,gd⟩::os) ⟨look E,M,nb⟩ Q:=by
 refine Rn.cons ?_;unfold COp.run;rw [hw.wanted];simp only [hc,hn,Bool.false_eq_true,if_false,COp.step,COp.xs,Option.getD_some,hk,Qbf,if_true];have:(Q7 (look E) as (Qbu k (as.map (·.val (look E))))).put d v=look E':=funext hp;rw [this];exact h
theorem Rn.kS {n:Nat} {as:List Arg} {tk:Bool} {v:V} {E' : List (Nat×V)} (hw:Wn E gd) (hk:Qn Γ.n0 (Γ.n0+0) (.store n) (if tk then as.map (·.val (look E)) else V.dems (as.map (·.val (look E)))) M=some (v,M'))
  (hp:∀ i,(if tk then Q7 (look E) as (Qbu (.store n) (as.map (·.val (look E)))) else look E) i=look E' i)
  (h:Rn Γ pc os ⟨look E',M',nb⟩ Q):Rn Γ pc (⟨none,.store n,as,tk,gd⟩::os) ⟨look E,M,nb⟩ Q:=by
 refine Rn.cons ?_;unfold COp.run;rw [hw.wanted];have hk' : Qn Γ.n0 (Γ.n0+(none:Option Nat).getD 0) (.store n) (COp.xs ⟨none,.store n,as,tk,gd⟩ (look E)) M=some (v,M'):=hk;simp only [show (K.store n).isCall=false from rfl,show (K.store n).isNil=false from rfl,Bool.false_eq_true,if_false,COp.step,hk',Qbf];have hp' : (if tk=true then Q7 (look E) as (Qbu (.store n) (COp.xs ⟨none,.store n,as,tk,gd⟩ (look E))) else look E)=look E':=by
  funext i;rw [← hp i];cases tk<;>simp [COp.xs]
 rw [hp'];exact h
variable {a b c:Arg} {x y:D}
theorem Rn.mov {v:V} (hw:Wn E gd) (ha:(a.val (look E)).dem=v) (h:Rn Γ pc os ⟨look ((d,v)::E),M,nb⟩ Q):Rn Γ pc (⟨some d,.mov,[a],false,gd⟩::os) ⟨look E,M,nb⟩ Q:=by
 refine Rn.k hw rfl rfl ?_ h;simp [V.dems,Qn,ha]
theorem Rn.movD (hw:Wn E gd) (ha:a.val (look E) = .d x) (h:Rn Γ pc os ⟨look ((d,.d x)::E),M,nb⟩ Q):Rn Γ pc (⟨some d,.mov,[a],false,gd⟩::os) ⟨look E,M,nb⟩ Q :=
 Rn.mov hw (by rw [ha];rfl) h
theorem Rn.movTD {t:Nat} (hw:Wn E gd) (ha:look E t = .d x) (h:Rn Γ pc os ⟨look ((d,.d x)::E),M,nb⟩ Q):Rn Γ pc (⟨some d,.mov,[.t t],true,gd⟩::os) ⟨look E,M,nb⟩ Q:=by
 refine Rn.kT hw rfl rfl (v:=.d x) (by simp [Arg.val,ha,Qn]) (fun i=>?_) h;simp only [List.map_cons,List.map_nil,Arg.val,ha,Qbu,V.dem,Q7,Arg.putTo];rw [← Qdc];have:(look E).put t (.d x)=look E:=by
  funext i;simp only [Sl.put];split
  ·rename_i e;subst e;exact ha.symm
  ·rfl
 rw [this]
theorem Rn.movTF {t:Nat} {v:V} (hw:Wn E gd) (ha:look E t=v) (hf:v.dem=v) (h:Rn Γ pc os ⟨look ((d,v)::E),M,nb⟩ Q):Rn Γ pc (⟨some d,.mov,[.t t],true,gd⟩::os) ⟨look E,M,nb⟩ Q:=by
 refine Rn.kT hw rfl rfl (v:=v) (by simp [Arg.val,ha,Qn]) (fun i=>?_) h;simp only [List.map_cons,List.map_nil,Arg.val,ha,Qbu,hf,Q7,Arg.putTo];rw [← Qdc];have:(look E).put t v=look E:=by
  funext i;simp only [Sl.put];split
  ·rename_i e;subst e;exact ha.symm
  ·rfl
 rw [this]
theorem Rn.movTC {v:V} (hw:Wn E gd) (h:Rn Γ pc os ⟨look ((d,v)::E),M,nb⟩ Q):Rn Γ pc (⟨some d,.mov,[.c v],true,gd⟩::os) ⟨look E,M,nb⟩ Q:=by
 refine Rn.kT hw rfl rfl (v:=v) (by simp [Arg.val,Qn]) (fun i=>?_) h;simp only [List.map_cons,List.map_nil,Arg.val,Qbu,Q7,Arg.putTo];rw [← Qdc]
theorem Rn.movTO {t sz:Nat} {l:List (List D)} (hw:Wn E gd) (ha:look E t = .own sz l) (h:Rn Γ pc os ⟨look ((d,.own sz l)::(t,.d (.lst sz l))::E),M,nb⟩ Q):Rn Γ pc (⟨some d,.mov,[.t t],true,gd⟩::os) ⟨look E,M,nb⟩ Q:=by
 refine Rn.kT hw rfl rfl (v:=.own sz l) (by simp [Arg.val,ha,Qn]) (fun i=>?_) h;simp only [List.map_cons,List.map_nil,Arg.val,ha,Qbu,V.dem,Q7,Arg.putTo];rw [← Qdc,← Qdc]
theorem Rn.bin {op:BinOp} {tb:Bool} {z:D} (hw:Wn E gd) (ha:a.val (look E) = .d x) (hb:b.val (look E) = .d y) (hz:binD op tb x y=some z) (h:Rn Γ pc os ⟨look ((d,.d z)::E),M,nb⟩ Q):Rn Γ pc (⟨some d,.bin op tb,[a,b],false,gd⟩::os) ⟨look E,M,nb⟩ Q:=by
 refine Rn.k hw rfl rfl ?_ h;simp [ha,hb,V.dems,V.dem,Qn,hz]
theorem Rn.un {op:UnOp} {z:D} (hw:Wn E gd) (ha:a.val (look E) = .d x) (hz:unD op x=some z) (h:Rn Γ pc os ⟨look ((d,.d z)::E),M,nb⟩ Q):Rn Γ pc (⟨some d,.un op,[a],false,gd⟩::os) ⟨look E,M,nb⟩ Q:=by
 refine Rn.k hw rfl rfl ?_ h;simp [ha,V.dems,V.dem,Qn,hz]
theorem Rn.conv {k k' : IntKind} {n:Int} (hw:Wn E gd) (ha:a.val (look E) = .d (.int k' n)) (h:Rn Γ pc os ⟨look ((d,.d (.int k (k.wrap n)))::E),M,nb⟩ Q):Rn Γ pc (⟨some d,.conv k,[a],false,gd⟩::os) ⟨look E,M,nb⟩ Q:=by
 refine Rn.k hw rfl rfl ?_ h;simp [ha,V.dems,V.dem,Qn]
theorem Rn.eqa {neg r:Bool} {ks:List Nat} {xs ys:List V} (hw:Wn E gd) (ha:(a.val (look E)).dem = .agg xs) (hb:(b.val (look E)).dem = .agg ys) (hz:Qdk ks xs ys=some r) (h:Rn Γ pc os ⟨look ((d,.d (.bool (bif neg then !r else r)))::E),M,nb⟩ Q):Rn Γ pc (⟨some d,.eqa neg ks,[a,b],false,gd⟩::os) ⟨look E,M,nb⟩ Q:=by
 refine Rn.k hw rfl rfl ?_ h;cases neg<;>simp [ha,hb,V.dems,Qn,hz]
theorem Rn.pickT {v:V} {q:Bool} (hw:Wn E gd) (hq:c.val (look E) = .d (.bool q)) (hb:q=true) (ha:(a.val (look E)).dem=v) (h:Rn Γ pc os ⟨look ((d,v)::E),M,nb⟩ Q):Rn Γ pc (⟨some d,.pick,[c,a,b],false,gd⟩::os) ⟨look E,M,nb⟩ Q:=by
 subst hb;refine Rn.k hw rfl rfl ?_ h;simp [hq,V.dems,V.dem,Qn,ha]
theorem Rn.pickF {v:V} {q:Bool} (hw:Wn E gd) (hq:c.val (look E) = .d (.bool q)) (hb:q=false) (ha:(b.val (look E)).dem=v) (h:Rn Γ pc os ⟨look ((d,v)::E),M,nb⟩ Q):Rn Γ pc (⟨some d,.pick,[c,a,b],false,gd⟩::os) ⟨look E,M,nb⟩ Q:=by
 subst hb;refine Rn.k hw rfl rfl ?_ h;simp [hq,V.dems,V.dem,Qn,ha]
theorem Rn.max2 {k:IntKind} {m n:Int} (hw:Wn E gd) (ha:a.val (look E) = .d (.int k m)) (hb:b.val (look E) = .d (.int k n)) (h:Rn Γ pc os ⟨look ((d,.d (.int k (if n>m then n else m)))::E),M,nb⟩ Q):Rn Γ pc (⟨some d,.max2,[a,b],false,gd⟩::os) ⟨look E,M,nb⟩ Q:=by
 refine Rn.k hw rfl rfl ?_ h;simp [ha,hb,V.dems,V.dem,Qn]
theorem Rn.min2 {k:IntKind} {m n:Int} (hw:Wn E gd) (ha:a.val (look E) = .d (.int k m)) (hb:b.val (look E) = .d (.int k n)) (h:Rn Γ pc os ⟨look ((d,.d (.int k (if n<m then n else m)))::E),M,nb⟩ Q):Rn Γ pc (⟨some d,.min2,[a,b],false,gd⟩::os) ⟨look E,M,nb⟩ Q:=by
 refine Rn.k hw rfl rfl ?_ h;simp [ha,hb,V.dems,V.dem,Qn]
variable {α:Type} {e:α→List D} {xs:List α} {sz:Nat}
theorem Rn.lenD (hw:Wn E gd) (ha:(a.val (look E)).dem = .d (.lst sz (xs.map e))) (h:Rn Γ pc os ⟨look ((d,.d (.int .i64 xs.length))::E),M,nb⟩ Q):Rn Γ pc (⟨some d,.len,[a],false,gd⟩::os) ⟨look E,M,nb⟩ Q:=by
 refine Rn.k hw rfl rfl ?_ h;simp [ha,V.dems,Qn]
def getO (l:List α) (i:Int):Option α:=if 0≤i then l[i.toNat]? else none
def slcO (l:List α) (lo hi:Int):Option (List α):=if 0≤lo∧lo≤hi∧hi≤l.length then some ((l.take hi.toNat).drop lo.toNat) else none
def appO (l m:List α):Option (List α):=if l.length+m.length≤lim then some (l++m) else none
theorem Rn.idxD {k:IntKind} {i:Int} {x:α} (hw:Wn E gd) (ha:(a.val (look E)).dem = .d (.lst sz (xs.map e))) (hb:b.val (look E) = .d (.int k i)) (hx:getO xs i=some x) (h:Rn Γ pc os ⟨look ((d,.cref (e x))::E),M,nb⟩ Q):Rn Γ pc (⟨some d,.idx sz,[a,b],false,gd⟩::os) ⟨look E,M,nb⟩ Q:=by
 refine Rn.k hw rfl rfl ?_ h;unfold getO at hx;split at hx<;>try (cases hx;done)
 rename_i h0;simp [ha,hb,V.dems,V.dem,Qn,h0,hx]
theorem Rn.loadC {cs:List D} (hw:Wn E gd) (ha:a.val (look E) = .cref (x::cs)) (h:Rn Γ pc os ⟨look ((d,.d x)::E),M,nb⟩ Q):Rn Γ pc (⟨some d,.load false 1,[a],false,gd⟩::os) ⟨look E,M,nb⟩ Q:=by
 refine Rn.k hw rfl rfl ?_ h;simp [ha,V.dems,V.dem,Qn]
theorem Rn.loadCA {cs:List D} {vs:List V} {n:Nat} (hw:Wn E gd) (ha:a.val (look E) = .cref cs) (hn:Nat.ble n cs.length=true) (hv:(cs.take n).map .d=vs) (h:Rn Γ pc os ⟨look ((d,.agg vs)::E),M,nb⟩ Q):Rn Γ pc (⟨some d,.load true n,[a],false,gd⟩::os) ⟨look E,M,nb⟩ Q:=by
 refine Rn.k hw rfl rfl ?_ h;have:=Nat.le_of_ble_eq_true hn;simp [ha,V.dems,V.dem,Qn,this,hv]
theorem Rn.fldC {cs:List D} {off:Nat} (hw:Wn E gd) (ha:a.val (look E) = .cref cs) (h:Rn Γ pc os ⟨look ((d,.cref (cs.drop off))::E),M,nb⟩ Q):Rn Γ pc (⟨some d,.fld off,[a],false,gd⟩::os) ⟨look E,M,nb⟩ Q:=by
 refine Rn.k hw rfl rfl ?_ h;simp [ha,V.dems,V.dem,Qn]
theorem Rn.fldP {k o off o' : Nat} (hw:Wn E gd) (ha:a.val (look E) = .ptr k o) (ho:o+off=o') (h:Rn Γ pc os ⟨look ((d,.ptr k o')::E),M,nb⟩ Q):Rn Γ pc (⟨some d,.fld off,[a],false,gd⟩::os) ⟨look E,M,nb⟩ Q:=by
 refine Rn.k hw rfl rfl ?_ h;subst ho;simp [ha,V.dems,V.dem,Qn]
theorem Rn.nilchkP {k o:Nat} (hw:Wn E gd) (ha:a.val (look E) = .ptr k o) (h:Rn Γ pc os ⟨look ((d,.ptr k o)::E),M,nb⟩ Q):Rn Γ pc (⟨some d,.nilchk,[a],false,gd⟩::os) ⟨look E,M,nb⟩ Q:=by
 refine Rn.k hw rfl rfl ?_ h;simp [ha,V.dems,V.dem,Qn]
theorem Rn.build {as:List Arg} {z:List V} {ps:List (Nat×Nat)} {v:V} (hw:Wn E gd) (hk:Qn Γ.n0 (Γ.n0+d) (.build z ps) (V.dems (as.map (·.val (look E)))) M=some (v,M)) (h:Rn Γ pc os ⟨look ((d,v)::E),M,nb⟩ Q):Rn Γ pc (⟨some d,.build z ps,as,false,gd⟩::os) ⟨look E,M,nb⟩ Q :=
 Rn.k hw rfl rfl hk h
theorem Rn.ext {i:Nat} {vs:List V} {v:V} (hw:Wn E gd) (ha:(a.val (look E)).dem = .tup vs) (hv:vs[i]? = some v) (ht:v.top=v) (h:Rn Γ pc os ⟨look ((d,v)::E),M,nb⟩ Q):Rn Γ pc (⟨some d,.extract i,[a],false,gd⟩::os) ⟨look E,M,nb⟩ Q:=by
 refine Rn.k hw rfl rfl ?_ h;simp [ha,V.dems,Qn,hv,ht]
theorem Rn.extTD {t i:Nat} {vs:List V} {x:D} (hw:Wn E gd) (ha:look E t = .tup vs) (hv:vs[i]? = some (.d x)) (hs:vs.set i (.d x)=vs) (h:Rn Γ pc os ⟨look ((d,.d x)::E),M,nb⟩ Q):Rn Γ pc (⟨some d,.extract i,[.t t],true,gd⟩::os) ⟨look E,M,nb⟩ Q:=by
 refine Rn.kT hw rfl rfl (v:=.d x) (by simp [Arg.val,ha,Qn,hv,V.top,V.dem]) (fun j=>?_) h;simp only [List.map_cons,List.map_nil,Arg.val,ha,Qbu,hv,V.dem,hs,Q7,Arg.putTo];rw [← Qdc];have:(look E).put t (.tup vs)=look E:=by
  funext i;simp only [Sl.put];split
  ·rename_i e;subst e;exact ha.symm
  ·rfl
 rw [this]
theorem Qbjm {l:List α} {lo hi:Int} {ys:List α} (h:slcO l lo hi=some ys):0≤lo∧lo≤hi∧hi≤l.length∧(((l.map e).take hi.toNat).drop lo.toNat)=ys.map e:=by
 unfold slcO at h;split at h<;>cases h;rename_i hc;refine ⟨hc.1,hc.2.1,hc.2.2,by simp [List.map_drop,List.map_take]⟩
theorem Rn.app {t bytes:Nat} {ys zs:List α} {src:V} (hw:Wn E gd) (ha:look E t = .own sz (xs.map e)) (hb:b.val (look E)=src) (hf:src.dem=src) (hs:Qjk M sz src=some (ys.map e)) (hx:appO xs ys=some zs) (hbd:(Nat.ble bytes 128&&Nat.ble 1 sz)=true)
  (h:Rn Γ pc os ⟨look ((d,.own sz (zs.map e))::(t,.d (.lst sz (xs.map e)))::E),M,nb⟩ Q):Rn Γ pc (⟨some d,.append sz bytes,[.t t,b],true,gd⟩::os) ⟨look E,M,nb⟩ Q:=by
 unfold appO at hx;split at hx<;>cases hx;rename_i hl;simp only [Bool.and_eq_true] at hbd;have h1:=Nat.le_of_ble_eq_true hbd.1;have h2:0<sz:=Nat.le_of_ble_eq_true hbd.2;have hm:[Arg.t t,b].map (fun x=>x.val (look E))=[V.own sz (xs.map e),src]:=by
  simp only [List.map_cons,List.map_nil,hb];rw [show (Arg.t t).val (look E)=_ from ha]
 refine Rn.kT hw rfl rfl (v:=.own sz ((xs++ys).map e)) ?_ (fun i=>?_) h
 ·rw [hm];simp [Qn,hs,h1,h2,hl]
 ·rw [hm];simp only [Qbu,hf,show (V.own sz (xs.map e)).dem = .d (.lst sz (xs.map e)) from rfl,Q7,show ∀ s v,(Arg.t t).putTo s v=s.put t v from fun _ _=>rfl];have hz:∀ s:Sl,b.val s=src→b.putTo s src=s:=by
   intro s hs;cases b with
   | c v=>rfl
   | t u =>
    simp only [Arg.val] at hs;funext i;simp only [Arg.putTo,Sl.put];split
    ·rename_i e;subst e;exact hs.symm
    ·rfl
  rw [hz]
  ·rw [Qdc,Qdc]
  ·cases b with
   | c v=>exact hb
   | t u =>
    have:u≠t:=by
     rintro rfl;simp only [Arg.val] at hb;rw [ha] at hb;subst hb;simp [V.dem] at hf
    simp only [Arg.val,Sl.put,this,if_false];exact hb
theorem Rn.slcT {t:Nat} {k:IntKind} {lo:Int} {ys:List α} (hw:Wn E gd) (ha:look E t = .own sz (xs.map e)∨look E t = .ownT sz (xs.map e)) (hb:b.val (look E) = .d (.int k lo)) (hx:slcO xs lo xs.length=some ys)
  (h:Rn Γ pc os ⟨look ((d,.ownT sz (ys.map e))::(t,.d (.lst sz (xs.map e)))::E),M,nb⟩ Q):Rn Γ pc (⟨some d,.slcT sz,[.t t,b],true,gd⟩::os) ⟨look E,M,nb⟩ Q:=by
 obtain ⟨h1,h2,h3,h4⟩:=Qbjm (e:=e) hx;have h5:(xs.map e).take xs.length=xs.map e:=by rw [List.take_of_length_le (by simp)]
 simp only [Int.toNat_natCast,h5] at h4;have hm:∀ v,look E t=v→[Arg.t t,b].map (fun x=>x.val (look E))=[v,V.d (.int k lo)]:=by
  intro v hv;simp only [List.map_cons,List.map_nil,hb];rw [show (Arg.t t).val (look E)=_ from hv]
 have hd:(look E t).dem = .d (.lst sz (xs.map e)):=by rcases ha with ha|ha<;>rw [ha]<;>rfl
 have hne:∀ u,b = .t u→u≠t:=by
  rintro u rfl rfl;simp only [Arg.val] at hb;rw [hb] at hd;cases hd
 refine Rn.kT hw rfl rfl (v:=.ownT sz (ys.map e)) ?_ (fun i=>?_) h
 ·rcases ha with ha|ha<;>rw [hm _ ha]<;>simp [Qn,h1,h2,h4]
 ·rw [hm _ rfl];simp only [Qbu,hd,Q7,show ∀ s v,(Arg.t t).putTo s v=s.put t v from fun _ _=>rfl];have hz:∀ s:Sl,b.val s = .d (.int k lo)→b.putTo s (.d (.int k lo))=s:=by
   intro s hs;cases b with
   | c v=>rfl
   | t u =>
    simp only [Arg.val] at hs;funext i;simp only [Arg.putTo,Sl.put];split
    ·rename_i e;subst e;exact hs.symm
    ·rfl
  rw [hz]
  ·rw [Qdc,Qdc]
  ·cases b with
   | c v=>exact hb
   | t u=>simp only [Arg.val,Sl.put,hne u rfl,if_false];exact hb
theorem Rn.slcTD {t:Nat} {k:IntKind} {lo:Int} {ys:List α} (hw:Wn E gd) (ha:look E t = .d (.lst sz (xs.map e))) (hb:b.val (look E) = .d (.int k lo)) (hx:slcO xs lo xs.length=some ys)
  (h:Rn Γ pc os ⟨look ((d,.d (.lst sz (ys.map e)))::E),M,nb⟩ Q):Rn Γ pc (⟨some d,.slcT sz,[.t t,b],true,gd⟩::os) ⟨look E,M,nb⟩ Q:=by
 obtain ⟨h1,h2,h3,h4⟩:=Qbjm (e:=e) hx;have h5:(xs.map e).take xs.length=xs.map e:=by rw [List.take_of_length_le (by simp)]
 simp only [Int.toNat_natCast,h5] at h4;have hm:[Arg.t t,b].map (fun x=>x.val (look E))=[V.d (.lst sz (xs.map e)),V.d (.int k lo)]:=by
  simp only [List.map_cons,List.map_nil,hb];rw [show (Arg.t t).val (look E)=_ from ha]
 have hz:∀ (b:Arg) (v:V) (s:Sl),b.val s=v→b.putTo s v=s:=by
  intro b v s hs;cases b with
  | c v=>rfl
  | t u =>
   simp only [Arg.val] at hs;funext i;simp only [Arg.putTo,Sl.put];split
   ·rename_i e;subst e;exact hs.symm
   ·rfl
 refine Rn.kT hw rfl rfl (v:=.d (.lst sz (ys.map e))) ?_ (fun i=>?_) h
 ·rw [hm];simp [Qn,h1,h2,h4]
 ·rw [hm];simp only [Qbu,V.dem,Q7];rw [hz (.t t) _ _ ha,hz b _ _ hb,Qdc]
end Go.Abs
end
section
namespace Go.Abs
open Go
variable {Γ : Env} {pc d nb : Nat} {os : List COp} {E : List (Nat × V)} {M M' M0 : Mem} {L : List (Nat × Bx)} {Q : St → Prop} {σ : St} {gd : Option (Nat × Bool)} {a b c : Arg}
theorem Qtr (h : (Qb9 L d).isNone = true) : (Qo Γ.n0 L M0 (Γ.n0 + d)).isNone = true := by rw [Qcx]; exact h
theorem Rn.box {n : Nat} {v : V} {cs : List V} (hw : Wn E gd) (ha : (a.val (look E)).dem = v) (hv : Qfm v = true) (hc : v.cells = cs) (hn : Nat.beq cs.length n = true) (hf : (Qb9 L d).isNone = true)
  (h : Rn Γ pc os ⟨look ((d, .ptr (Γ.n0 + d) 0) :: E), Qo Γ.n0 ((d, .cells cs) :: L) M0, nb⟩ Q) : Rn Γ pc (⟨some d, .box n, [a], false, gd⟩ :: os) ⟨look E, Qo Γ.n0 L M0, nb⟩ Q := by
 refine Rn.k hw rfl rfl ?_ h
 have hfr := Qtr (Γ := Γ) (M0 := M0) hf
 have hn' : v.cells.length = n := by rw [hc]; exact Nat.eq_of_beq_eq_true hn
 simp only [List.map_cons, List.map_nil, V.dems, ha, Qn]
 cases v <;> first | (simp [Qfm] at hv; done) | (simp only [hn', hfr, decide_true, Bool.and_self, if_true, Qeb]; rw [← hc])
theorem Rn.alloc {z : List V} (hw : Wn E gd) (hf : (Qb9 L d).isNone = true)
  (h : Rn Γ pc os ⟨look ((d, .ptr (Γ.n0 + d) 0) :: E), Qo Γ.n0 ((d, .cells z) :: L) M0, nb⟩ Q) : Rn Γ pc (⟨some d, .alloc z, [], false, gd⟩ :: os) ⟨look E, Qo Γ.n0 L M0, nb⟩ Q := by
 refine Rn.k hw rfl rfl ?_ h
 simp only [List.map_nil, V.dems, Qn, Qtr (Γ := Γ) (M0 := M0) hf, if_true, Qeb]
theorem Rn.bslice {sz n : Nat} {z : List V} {ps : List Nat} {as : List Arg} {xs cs : List V} (hw : Wn E gd) (ha : V.dems (as.map (·.val (look E))) = xs) (hf : (Qb9 L d).isNone = true)
  (hc : (Nat.beq ps.length xs.length && decide (0 < sz) && z.length == sz && (ps.zip xs).all (fun (i, x) => Qfm x && x.cells.length == sz && decide (i < n))) = true)
  (hcs : Qjl (rep n z) ((ps.zip xs).map fun (i, x) => (i * sz, x.cells)) = cs)
  (h : Rn Γ pc os ⟨look ((d, .sl sz (Γ.n0 + d) 0 n n) :: E), Qo Γ.n0 ((d, .cells cs) :: L) M0, nb⟩ Q) : Rn Γ pc (⟨some d, .bslice sz n z ps, as, false, gd⟩ :: os) ⟨look E, Qo Γ.n0 L M0, nb⟩ Q := by
 refine Rn.k hw rfl rfl ?_ h
 rw [ha]
 simp only [Bool.and_eq_true] at hc
 have h1 : ps.length = xs.length := Nat.eq_of_beq_eq_true hc.1.1.1
 have hs : Qn Γ.n0 (Γ.n0 + d) (.bslice sz n z ps) xs (Qo Γ.n0 L M0) = (if ps.length = xs.length && decide (0 < sz) && z.length == sz && (ps.zip xs).all (fun (i, x) => Qfm x && x.cells.length == sz && decide (i < n)) && (Qo Γ.n0 L M0 (Γ.n0 + d)).isNone
  then some (.sl sz (Γ.n0 + d) 0 n n, (Qo Γ.n0 L M0).put (Γ.n0 + d) (.cells (Qjl (rep n z) ((ps.zip xs).map fun (i, x) => (i * sz, x.cells))))) else none) := by cases xs <;> rfl
 rw [hs, if_pos, Qeb, hcs]
 simp only [Bool.and_eq_true, Qtr (Γ := Γ) (M0 := M0) hf, and_true]
 exact ⟨⟨⟨by simpa using h1, hc.1.1.2⟩, hc.1.2⟩, hc.2⟩
theorem Q5 {t : Nat} {bx : Bx} (h : Qb9 L t = some bx) : Qo Γ.n0 L M0 (Γ.n0 + t) = some bx := by rw [Qcx]; exact h
theorem Rn.load {k off n : Nat} {ag : Bool} {cs : List V} {v : V} (hw : Wn E gd) (ha : a.val (look E) = .ptr k off) (hM : M k = some (.cells cs)) (hn : Nat.ble (off + n) cs.length = true) (hv : (if ag then some (.agg (V.dems ((cs.drop off).take n))) else (cs[off]?).map (·.dem)) = some v)
  (h : Rn Γ pc os ⟨look ((d, v) :: E), M, nb⟩ Q) : Rn Γ pc (⟨some d, .load ag n, [a], false, gd⟩ :: os) ⟨look E, M, nb⟩ Q := by
 refine Rn.k hw rfl rfl ?_ h
 have := Nat.le_of_ble_eq_true hn
 simp only [List.map_cons, List.map_nil, V.dems, ha, V.dem, Qn, hM, this, if_true]
 cases ag with
 | true => simp only [if_true, Option.some.injEq] at hv ⊢; rw [hv]
 | false =>
  simp only [Bool.false_eq_true, if_false, Option.map_eq_some_iff] at hv ⊢
  obtain ⟨x, hx, rfl⟩ := hv
  exact ⟨x, hx, rfl⟩
theorem Rn.loadT {t off sz : Nat} {l : List (List D)} {cs cs' : List V} (hw : Wn E gd) (ha : a.val (look E) = .ptr (Γ.n0 + t) off) (hM : Qb9 L t = some (.cells cs)) (hx : cs[off]? = some (.own sz l)) (hcs : cs.set off (.d (.lst sz l)) = cs')
  (h : Rn Γ pc os ⟨look ((d, .own sz l) :: E), Qo Γ.n0 ((t, .cells cs') :: L) M0, nb⟩ Q) : Rn Γ pc (⟨some d, .loadT, [a], false, gd⟩ :: os) ⟨look E, Qo Γ.n0 L M0, nb⟩ Q := by
 refine Rn.k hw rfl rfl ?_ h
 simp only [List.map_cons, List.map_nil, V.dems, ha, V.dem, Qn, Q5 hM, hx, Option.map_some, V.top]
 rw [← hcs, Qeb]
theorem Rn.store {t off n : Nat} {v : V} {cs cs' : List V} (hw : Wn E gd) (ha : a.val (look E) = .ptr (Γ.n0 + t) off) (hb : (b.val (look E)).dem = v) (hv : Qfm v = true) (hM : Qb9 L t = some (.cells cs))
  (hn : (Nat.beq v.cells.length n && Nat.ble (off + n) cs.length) = true) (hcs : cs.take off ++ v.cells ++ cs.drop (off + n) = cs')
  (h : Rn Γ pc os ⟨look E, Qo Γ.n0 ((t, .cells cs') :: L) M0, nb⟩ Q) : Rn Γ pc (⟨none, .store n, [a, b], false, gd⟩ :: os) ⟨look E, Qo Γ.n0 L M0, nb⟩ Q := by
 simp only [Bool.and_eq_true] at hn
 have h1 : v.cells.length = n := Nat.eq_of_beq_eq_true hn.1
 have h2 := Nat.le_of_ble_eq_true hn.2
 have hf : v.dem = v := by rw [← hb]; exact Qd8 _
 have ht : v.topS = v := Qbgf hf
 refine Rn.kS (v := .und) hw ?_ (fun _ => rfl) h
 simp only [Bool.false_eq_true, if_false, List.map_cons, List.map_nil, V.dems, ha, V.dem, hb]
 simp only [Qn]
 cases v <;> first
  | (simp [Qfm] at hv; done)
  | (simp only [Q5 hM, ht, h1, h2, decide_true, Bool.true_and, Nat.le_add_right, Bool.true_or, if_true]; rw [← hcs, Qeb])
theorem Rn.storeO {t u off sz : Nat} {l : List (List D)} {cs cs' : List V} (hw : Wn E gd) (ha : a.val (look E) = .ptr (Γ.n0 + t) off) (hb : look E u = .own sz l) (hM : Qb9 L t = some (.cells cs))
  (hn : Nat.ble (off + 1) cs.length = true) (hcs : cs.take off ++ [.own sz l] ++ cs.drop (off + 1) = cs')
  (h : Rn Γ pc os ⟨look ((u, .d (.lst sz l)) :: E), Qo Γ.n0 ((t, .cells cs') :: L) M0, nb⟩ Q) : Rn Γ pc (⟨none, .store 1, [a, .t u], true, gd⟩ :: os) ⟨look E, Qo Γ.n0 L M0, nb⟩ Q := by
 have h2 := Nat.le_of_ble_eq_true hn
 have hm : [a, Arg.t u].map (fun x => x.val (look E)) = [V.ptr (Γ.n0 + t) off, .own sz l] := by simp only [List.map_cons, List.map_nil, ha]; rw [show (Arg.t u).val (look E) = _ from hb]
 refine Rn.kS (v := .und) hw ?_ (fun i => ?_) h
 ·simp only [if_true, hm]
  simp only [Qn, Q5 hM, V.topS, V.cells, List.length_cons, List.length_nil, h2, decide_true, Bool.true_and, Nat.le_add_right, Bool.true_or, if_true]
  rw [← hcs, Qeb]
 ·simp only [if_true, hm, Qbu, Q7, V.dem]
  have : a.putTo (look E) (.ptr (Γ.n0 + t) off) = look E := by
   cases a with
   | c v => rfl
   | t j =>
    simp only [Arg.val] at ha
    funext i; simp only [Arg.putTo, Sl.put]; split
    ·rename_i e; subst e; exact ha.symm
    ·rfl
  rw [this, show (Arg.t u).putTo (look E) (.d (.lst sz l)) = (look E).put u (.d (.lst sz l)) from rfl, Qdc]
theorem Rn.storeD {t u off : Nat} {x : D} {cs cs' : List V} (hw : Wn E gd) (ha : a.val (look E) = .ptr (Γ.n0 + t) off) (hb : look E u = .d x) (hM : Qb9 L t = some (.cells cs))
  (hn : Nat.ble (off + 1) cs.length = true) (hcs : cs.take off ++ [.d x] ++ cs.drop (off + 1) = cs')
  (h : Rn Γ pc os ⟨look E, Qo Γ.n0 ((t, .cells cs') :: L) M0, nb⟩ Q) : Rn Γ pc (⟨none, .store 1, [a, .t u], true, gd⟩ :: os) ⟨look E, Qo Γ.n0 L M0, nb⟩ Q := by
 have h2 := Nat.le_of_ble_eq_true hn
 have hm : [a, Arg.t u].map (fun x => x.val (look E)) = [V.ptr (Γ.n0 + t) off, .d x] := by simp only [List.map_cons, List.map_nil, ha]; rw [show (Arg.t u).val (look E) = _ from hb]
 refine Rn.kS (v := .und) hw ?_ (fun i => ?_) h
 ·simp only [if_true, hm]
  simp only [Qn, Q5 hM, V.topS, V.dem, V.cells, List.length_cons, List.length_nil, h2, decide_true, Bool.true_and, Nat.le_add_right, Bool.true_or, if_true]
  rw [← hcs, Qeb]
 ·simp only [if_true, hm, Qbu, Q7, V.dem]
  have : a.putTo (look E) (.ptr (Γ.n0 + t) off) = look E := by
   cases a with
   | c v => rfl
   | t j =>
    simp only [Arg.val] at ha
    funext i; simp only [Arg.putTo, Sl.put]; split
    ·rename_i e; subst e; exact ha.symm
    ·rfl
  have h3 : (look E).put u (.d x) = look E := by
   funext i; simp only [Sl.put]; split
   ·rename_i e; subst e; exact hb.symm
   ·rfl
  rw [this, show (Arg.t u).putTo (look E) (.d x) = (look E).put u (.d x) from rfl, h3]
theorem Qbc1 {sz : Nat} {l : List (List D)} : Qjk M sz (.d (.lst sz l)) = some l := by simp [Qjk]
theorem Qbz {sz t off len cap : Nat} {cs : List V} {l : List (List D)} (hM : Qb9 L t = some (.cells cs)) (hle : Nat.ble (off + len * sz) cs.length = true) (hl : (toDs ((cs.drop off).take (len * sz))).map (Qn2 sz len) = some l) :
  Qjk (Qo Γ.n0 L M0) sz (.sl sz (Γ.n0 + t) off len cap) = some l := by
 have := Nat.le_of_ble_eq_true hle
 simp [Qjk, Q5 hM, this, hl]
theorem Rn.call {f : FuncId} {as : List Arg} {args : List V} {r : V} (hw : Wn E gd) (ha : V.dems (as.map (·.val (look E))) = args) (hC : ∀ M nb, ACalls Γ.P f args M nb r M nb) (hpc : one (pcOf pc) = true → ∀ k, nb ≤ k → M k = none)
  (h : Rn Γ pc os ⟨look ((d, r) :: E), M, nb⟩ Q) : Rn Γ pc (⟨some d, .call f, as, false, gd⟩ :: os) ⟨look E, M, nb⟩ Q := by
 refine Rn.cons ?_
 unfold COp.run
 rw [hw.wanted]
 simp only [show (K.call f).isCall = true from rfl, if_true, COp.callee, ha]
 have h' : Rn Γ pc os ⟨Qbf (look E) (some d) r, M, nb⟩ Q := by
  rw [show Qbf (look E) (some d) r = look ((d, r) :: E) from Qdc E d r]; exact h
 match hp : pcOf pc with
 | 0 => exact ⟨r, M, nb, hC _ _, fun _ h => h, fun _ _ _ _ => .inl rfl, h'⟩
 | 1 =>
  refine ⟨r, fun _ => none, nb, fun M2 _ h2 => ?_, ?_⟩
  ·have : M2.over nb (fun _ => none) = M2 := by
    funext k; simp only [Mem.over]; split
    ·rfl
    ·exact (h2 k (by omega)).symm
   rw [this]; exact hC _ _
  ·have : M.over nb (fun _ => none) = M := by
    funext k; simp only [Mem.over]; split
    ·rfl
    ·exact (hpc (by rw [hp]; rfl) k (by omega)).symm
   rw [this]; exact h'
 | n + 2 =>
  show (if n < 8 then _ else _)
  by_cases hn8 : n < 8
  ·rw [if_pos hn8]; exact ⟨r, hC, h'⟩
  ·rw [if_neg hn8]
   have h1 : one (pcOf pc) = true := by rw [hp]; unfold one; rw [show Nat.ble 10 (n + 2) = true from Nat.ble_eq_true_of_le (by omega), Bool.or_true]
   refine ⟨r, fun _ => none, fun _ => none, nb, .inr fun _ => rfl, fun _ h => (by cases h), fun _ _ _ h => (by cases h), fun M2 _ h2 => ?_, ?_⟩
   ·rw [Qgc fun _ => rfl]
    have : M2.over nb (fun _ => none) = M2 := by
     funext k; simp only [Mem.over]; split
     ·rfl
     ·exact (h2 k (by omega)).symm
    rw [this]; exact hC _ _
   ·rw [Qgc fun _ => rfl]
    have : M.over nb (fun _ => none) = M := by
     funext k; simp only [Mem.over]; split
     ·rfl
     ·exact (hpc h1 k (by omega)).symm
    rw [this]; exact h'
def FinP (rs : List Res) (r : V) (n0 : Nat) (M0 : Mem) : Ex → St → Prop := fun e σ =>
 (e = .norm ∨ e = .ret) ∧ ∃ r', Q2i σ rs = some r' ∧ Wk r' r ∧ r.on (There M0) ∧ ∀ k, k < n0 → σ.M k = M0 k
theorem Qbal {P : Program} {f : FuncId} {args : List V} {M M' : Mem} {nb nb' : Nat} {r : V} (hb : Qj8 P f = true) (hn : nb ≤ nb') (h : ¬ (∀ k, nb ≤ k → M k = none)) : ACalls P f args M nb r M' nb' := by
 refine ⟨hb, hn, fun w g us hm => ?_⟩
 refine absurd (fun k hk => ?_) h
 cases hM : M k with
 | none => rfl
 | some b => have := (hm.box k b hM).1; omega
theorem Qoa {P : Program} {f : FuncId} {cf : CFn} (hcf : Qy P f = some cf) : Qj8 P f = true := by
 unfold Qy at hcf
 split at hcf <;> try (cases hcf; done)
 rename_i fn hfn
 split at hcf <;> try (cases hcf; done)
 rename_i code hbody
 split at hcf <;> try (cases hcf; done)
 split at hcf <;> try (cases hcf; done)
 rename_i hnd
 obtain ⟨hnd, hnp, hname⟩ := hnd
 simp [Qj8, hfn, hbody, Qbb4] at hname ⊢; exact hname
theorem Qec {P : Program} {f : FuncId} {cf : CFn} (hcf : Qy P f = some cf) {args : List V} {r : V} (hargs : Nat.beq args.length cf.np = true)
  (hrun : ∀ (Γ : Env) (M : Mem), Γ.P = P → Γ.nt = cf.nt → (∀ k, Γ.n0 ≤ k → M k = none) → Tr Γ cf.body ⟨Qtk args, Qo Γ.n0 [] M, Γ.n0 + cf.nt⟩ (FinP cf.res r Γ.n0 M)) : ∀ M nb, ACalls P f args M nb r M nb := by
 intro M nb
 by_cases hM : ∀ k, nb ≤ k → M k = none
 case neg => exact Qbal (Qoa hcf) (Nat.le_refl _) hM
 by_cases hon : MOn (There M) M
 case neg => exact ⟨Qoa hcf, Nat.le_refl _, fun w g us hm h => absurd h hon⟩
 refine Qbqb hcf hM (Nat.eq_of_beq_eq_true hargs) (Nat.le_refl _) fun Γ hP hn ht => ?_
 have h := hrun Γ M hP ht (by rw [hn]; exact hM)
 rw [Q81 (by rw [hn]; exact hM), hn] at h
 refine h.mono ?_
 rintro e σ' ⟨he, r', h1, h2, h3, h4⟩
 have hlt : ∀ k, There M k → k < nb := fun k hk => by
  rcases Nat.lt_or_ge k nb with h | h
  ·exact h
  ·simp [There, hM k h] at hk
 refine ⟨he, r', h1, h2, fun k b hk => ?_, h3, hon, hlt⟩
 rw [h4 k (hlt k (by simp [There, hk]))]; exact hk
theorem Qbg2 : ∀ (args : List V) (i : Nat), look ((List.range' i args.length).zip args) = fun t => if t < i then .und else args.getD (t - i) .und
 | [], i => by funext t; simp [look]
 | v :: vs, i => by
  funext t
  simp only [List.length_cons, List.range'_succ, List.zip_cons_cons, look, Qbg2 vs (i + 1)]
  cases hb : Nat.beq t i with
  | true => have := Nat.eq_of_beq_eq_true hb; subst this; simp
  | false =>
   have : t ≠ i := fun e => by subst e; simp at hb
   by_cases hlt : t < i
   ·have : t < i + 1 := by omega
    simp [hlt, this]
   ·have h1 : ¬ t < i + 1 := by omega
    have h2 : t - i = (t - (i + 1)) + 1 := by omega
    simp [hlt, h1, h2]
theorem Qbmt {args : List V} {E : List (Nat × V)} (h : (List.range' 0 args.length).zip args = E) : Qtk args = look E := by
 rw [← h, Qbg2]
 funext t
 simp [Qtk]
theorem Tr.init {cc : CC} {args : List V} {Q : Ex → St → Prop} (E : List (Nat × V)) (h : (List.range' 0 args.length).zip args = E) (k : Tr Γ cc ⟨look E, M, nb⟩ Q) : Tr Γ cc ⟨Qtk args, M, nb⟩ Q := by
 rw [Qbmt h]; exact k
theorem ifT {R : Type} {p : Prop} [Decidable p] {A B : Option R} {r : R} (hb : decide p = true) (h : (if p then A else B) = some r) : A = some r := by rwa [if_pos (of_decide_eq_true hb)] at h
theorem ifF {R : Type} {p : Prop} [Decidable p] {A B : Option R} {r : R} (hb : decide p = false) (h : (if p then A else B) = some r) : B = some r := by rwa [if_neg (of_decide_eq_false hb)] at h
theorem bT {R : Type} {b : Bool} {A B : Option R} {r : R} (hb : b = true) (h : (if b then A else B) = some r) : A = some r := by subst hb; simpa using h
theorem bF {R : Type} {b : Bool} {A B : Option R} {r : R} (hb : b = false) (h : (if b then A else B) = some r) : B = some r := by subst hb; simpa using h
theorem bnd {X R : Type} {A : Option X} {g : X → Option R} {r : R} (h : A.bind g = some r) : ∃ x, A = some x ∧ g x = some r := Option.bind_eq_some_iff.1 h
theorem nT {b : Bool} (h : b = true) : (!b) = false := by subst h; rfl
theorem nF {b : Bool} (h : b = false) : (!b) = true := by subst h; rfl
theorem nT' {b : Bool} (h : (!b) = true) : b = false := by cases b <;> simp_all
theorem nF' {b : Bool} (h : (!b) = false) : b = true := by cases b <;> simp_all
def Qbr8 {X : Type} (Γ : Env) (mk : X → St) (z : X) (Q : Ex → St → Prop) : Ex → St → Prop
 | .norm, σ' => WeakSt Γ σ' (mk z)
 | .exit i, σ' => Q (.exit i) σ'
 | .ret, σ' => Q .ret σ'
theorem Tr.cutB {X R : Type} {x y : CC} {Q : Ex → St → Prop} (mk : X → St) {A : Option X} {g : X → Option R} {r : R} (h : A.bind g = some r) (hx : ∀ z, A = some z → Tr Γ x σ (Qbr8 Γ mk z Q)) (hy : ∀ z, g z = some r → Tr Γ y (mk z) Q) : Tr Γ (.seq x y) σ Q := by
 obtain ⟨z, h1, h2⟩ := bnd h
 refine Tr.seq ((hx z h1).mono ?_)
 intro e σ' hq
 cases e with
 | norm => exact (hy z h2).weak hq
 | exit id => exact hq
 | ret => exact hq
def letJ {X R : Type} (J : X → Option R) (body : (X → Option R) → Option R) : Option R := body J
theorem Tr.cutJ {X R : Type} {x y : CC} {Q : Ex → St → Prop} (mk : X → St) {J : X → Option R} {body : (X → Option R) → Option R} {r : R} (h : letJ J body = some r)
  (hx : ∀ J', body J' = some r → Tr Γ x σ (Qbrh Γ mk J' r Q)) (hy : ∀ z, J z = some r → Tr Γ y (mk z) Q) : Tr Γ (.seq x y) σ Q := Tr.cut mk J r hy (hx J h)
def eI (k : IntKind) (n : Int) : List D := [.int k n]
abbrev i_ (n : Int) : V := .d (.int .i64 n)
abbrev b_ (b : Bool) : V := .d (.bool b)
abbrev l_ (l : List Int) : V := .d (.lst 1 (List.map (eI .i64) l))
def eL {α : Type} (sz : Nat) (e : α → List D) (l : List α) : List D := [.lst sz (List.map e l)]
theorem toN {y : CC} {Q : Ex → St → Prop} (h : Tr Γ y σ Q) : Qbms Γ y Q .norm σ := h
theorem Qb4 {G : Prop} (b : Bool) (h1 : b = true → G) (h2 : b = false → G) : G := by cases b; exact h2 rfl; exact h1 rfl
theorem pc9 {p : Prop} : one (pcOf 9) = true → p := by intro h; cases h
theorem pc0 {p : Prop} : one (pcOf 0) = true → p := by intro h; cases h
theorem pc2 {p : Prop} : one (pcOf 2) = true → p := by intro h; cases h
theorem Q6v {n0 nt : Nat} {L : List (Nat × Bx)} {M0 : Mem} (hM : ∀ k, n0 ≤ k → M0 k = none) (hL : (L.all fun p => Nat.blt p.1 nt) = true) : ∀ k, n0 + nt ≤ k → Qo n0 L M0 k = none := by
 intro k hk
 simp only [Qo]
 rw [if_neg (by omega)]
 cases hb : Qb9 L (k - n0) with
 | none => rfl
 | some b =>
  obtain ⟨p, hp, he⟩ := Q2t hb
  have := List.all_eq_true.1 hL p hp
  have := Nat.le_of_ble_eq_true this
  omega
theorem Qhi {E : List (Nat × V)} {n0 p t off n nb : Nat} {ag : Bool} {cs : List V} {v : V} (hp : look E p = .ptr (n0 + t) off) (hM : Qb9 L t = some (.cells cs)) (hn : Nat.ble (off + n) cs.length = true) (hv : (if ag then some (.agg (V.dems ((cs.drop off).take n))) else (cs[off]?).map (·.dem)) = some v) :
  Res.val ⟨look E, Qo n0 L M0, nb⟩ (.cell p ag n) = some v := by
 have := Nat.le_of_ble_eq_true hn
 have hb : Qo n0 L M0 (n0 + t) = some (.cells cs) := by rw [Qcx]; exact hM
 simp only [Res.val, hp, Qn, hb, this, if_true]
 cases ag with
 | true => simp only [if_true, Option.some.injEq] at hv ⊢; rw [hv]; rfl
 | false =>
  simp only [Bool.false_eq_true, if_false] at hv ⊢
  rw [Option.map_map]
  rw [← hv]; congr 1
theorem res2 {x y : Res} {v w : V} (h1 : x.val σ = some v) (h2 : y.val σ = some w) : Q2i σ [x, y] = some (.tup [v, w]) := by simp [Q2i, h1, h2]
def remO (k : IntKind) (a b : Int) : Option Int := if b = 0 then none else some (a.tmod b)
def shlO (k : IntKind) (a b : Int) : Option Int := if b < 0 then none else some (k.wrap (a * 2 ^ (min b.toNat k.bits)))
def shrO (k : IntKind) (a b : Int) : Option Int := if b < 0 then none else some (a.fdiv (2 ^ (min b.toNat k.bits)))
def andI (k : IntKind) (a b : Int) : Int := k.wrap ((BitVec.ofInt k.bits a) &&& (BitVec.ofInt k.bits b)).toNat
theorem Qbqc {k : IntKind} {tb : Bool} {x y z : Int} (h : remO k x y = some z) : binD .rem tb (.int k x) (.int k y) = some (.int k z) := by
 unfold remO at h; split at h <;> cases h
 simp [binD, Qbgc, *]
theorem Qbr9 {k k' : IntKind} {tb : Bool} {x y z : Int} (h : shlO k x y = some z) : binD .shl tb (.int k x) (.int k' y) = some (.int k z) := by
 unfold shlO at h; split at h <;> cases h
 simp [binD, *]
theorem Qbil {k k' : IntKind} {tb : Bool} {x y z : Int} (h : shrO k x y = some z) : binD .shr tb (.int k x) (.int k' y) = some (.int k z) := by
 unfold shrO at h; split at h <;> cases h
 simp [binD, *]
end Go.Abs
end
section
namespace Go.Abs
open Go
variable {Γ:Env} {pc d nb:Nat} {os:List COp} {E:List (Nat×V)} {M M' M0:Mem} {L:List (Nat×Bx)} {Q:St→Prop} {σ:St} {gd:Option (Nat×Bool)} {a b c:Arg}
def Ext (M M2:Mem):Prop:=∀ k b,M k=some b→M2 k=some b
theorem Ext.refl (M:Mem):Ext M M:=fun _ _ h=>h
theorem Ext.trans {A B C:Mem} (h:Ext A B) (k:Ext B C):Ext A C:=fun i b hi=>k i b (h i b hi)
theorem ltB {n0:Nat} (hM:∀ k,n0≤k→M0 k=none) {k:Nat} {b:Bx} (h:M0 k=some b):k<n0:=by
 rcases Nat.lt_or_ge k n0 with hk|hk
 ·exact hk
 ·rw [hM k hk] at h;cases h
theorem Qben {n0:Nat} (hM:∀ k,n0≤k→M0 k=none):Ext M0 (Qo n0 L M0):=fun k b h=>by rw [Qdl (ltB hM h)];exact h
theorem Qz {n0:Nat} (hM:∀ k,n0≤k→M0 k=none) {k:Nat} {b:Bx} (h:M0 k=some b):Qo n0 L M0 k=some b:=Qben hM k b h
theorem Rn.callM {f:FuncId} {as:List Arg} {args:List V} {r:V} (hw:Wn E gd) (ha:V.dems (as.map (·.val (look E)))=args) (hC:∀ M2 nb2,nb≤nb2→Ext M M2→ACalls Γ.P f args M2 nb2 r M2 nb2) (hp2:(Nat.ble (pcOf pc) 1||Nat.ble 10 (pcOf pc))=true) (hpc:one (pcOf pc)=true→∀ k,nb≤k→M k=none)
  (h:Rn Γ pc os ⟨look ((d,r)::E),M,nb⟩ Q):Rn Γ pc (⟨some d,.call f,as,false,gd⟩::os) ⟨look E,M,nb⟩ Q:=by
 refine Rn.cons ?_;unfold COp.run;rw [hw.wanted];simp only [show (K.call f).isCall=true from rfl,if_true,COp.callee,ha];have h' : Rn Γ pc os ⟨Qbf (look E) (some d) r,M,nb⟩ Q:=by
  rw [show Qbf (look E) (some d) r=look ((d,r)::E) from Qdc E d r];exact h
 match hp:pcOf pc with
 | 0=>exact ⟨r,M,nb,hC _ _ (Nat.le_refl _) (Ext.refl _),fun _ h=>h,fun _ _ _ _=>.inl rfl,h'⟩
 | 1 =>
  refine ⟨r,fun _=>none,nb,fun M2 h1 h2=>?_,?_⟩
  ·have:M2.over nb (fun _=>none)=M2:=by
    funext k;simp only [Mem.over];split
    ·rfl
    ·exact (h2 k (by omega)).symm
   rw [this];exact hC _ _ (Nat.le_refl _) fun k b hk=>by rw [h1 k (by simp [hk])];exact hk
  ·have:M.over nb (fun _=>none)=M:=by
    funext k;simp only [Mem.over];split
    ·rfl
    ·exact (hpc (by rw [hp];rfl) k (by omega)).symm
   rw [this];exact h'
 | n+2 =>
  have hn8:¬ n<8:=by
   intro hn;rw [hp] at hp2;simp only [Bool.or_eq_true,Nat.ble_eq] at hp2;omega
  have h1:one (pcOf pc)=true:=by rw [hp];unfold one;rw [show Nat.ble 10 (n+2)=true from Nat.ble_eq_true_of_le (by omega),Bool.or_true]
  show (if n<8 then _ else _);rw [if_neg hn8];refine ⟨r,fun _=>none,fun _=>none,nb,.inr fun _=>rfl,fun _ h=>(by cases h),fun _ _ _ h=>(by cases h),fun M2 h3 h2=>?_,?_⟩
  ·rw [Qgc fun _=>rfl];have:M2.over nb (fun _=>none)=M2:=by
    funext k;simp only [Mem.over];split
    ·rfl
    ·exact (h2 k (by omega)).symm
   rw [this];exact hC _ _ (Nat.le_refl _) fun k b hk=>by rw [h3 k (by simp [hk])];exact hk
  ·rw [Qgc fun _=>rfl];have:M.over nb (fun _=>none)=M:=by
    funext k;simp only [Mem.over];split
    ·rfl
    ·exact (hpc h1 k (by omega)).symm
   rw [this];exact h'
theorem Rn.callvM {t:Nat} {f:FuncId} {caps:List V} {as:List Arg} {args:List V} {r:V} (hw:Wn E gd) (ht:look E t = .clo f caps) (ha:V.dems (as.map (·.val (look E)))++V.dems caps=args) (hC:∀ M2 nb2,nb≤nb2→Ext M M2→ACalls Γ.P f args M2 nb2 r M2 nb2) (hp2:(Nat.ble (pcOf pc) 1||Nat.ble 10 (pcOf pc))=true) (hpc:one (pcOf pc)=true→∀ k,nb≤k→M k=none)
  (h:Rn Γ pc os ⟨look ((d,r)::E),M,nb⟩ Q):Rn Γ pc (⟨some d,.callv,.t t::as,false,gd⟩::os) ⟨look E,M,nb⟩ Q:=by
 refine Rn.cons ?_;unfold COp.run;rw [hw.wanted];simp only [show K.callv.isCall=true from rfl,if_true,COp.callee,List.map_cons,show (Arg.t t).val (look E) = .clo f caps from ht,ha];have h' : Rn Γ pc os ⟨Qbf (look E) (some d) r,M,nb⟩ Q:=by
  rw [show Qbf (look E) (some d) r=look ((d,r)::E) from Qdc E d r];exact h
 match hp:pcOf pc with
 | 0=>exact ⟨r,M,nb,hC _ _ (Nat.le_refl _) (Ext.refl _),fun _ h=>h,fun _ _ _ _=>.inl rfl,h'⟩
 | 1 =>
  refine ⟨r,fun _=>none,nb,fun M2 h1 h2=>?_,?_⟩
  ·have:M2.over nb (fun _=>none)=M2:=by
    funext k;simp only [Mem.over];split
    ·rfl
    ·exact (h2 k (by omega)).symm
   rw [this];exact hC _ _ (Nat.le_refl _) fun k b hk=>by rw [h1 k (by simp [hk])];exact hk
  ·have:M.over nb (fun _=>none)=M:=by
    funext k;simp only [Mem.over];split
    ·rfl
    ·exact (hpc (by rw [hp];rfl) k (by omega)).symm
   rw [this];exact h'
 | n+2 =>
  have hn8:¬ n<8:=by
   intro hn;rw [hp] at hp2;simp only [Bool.or_eq_true,Nat.ble_eq] at hp2;omega
  have h1:one (pcOf pc)=true:=by rw [hp];unfold one;rw [show Nat.ble 10 (n+2)=true from Nat.ble_eq_true_of_le (by omega),Bool.or_true]
  show (if n<8 then _ else _);rw [if_neg hn8];refine ⟨r,fun _=>none,fun _=>none,nb,.inr fun _=>rfl,fun _ h=>(by cases h),fun _ _ _ h=>(by cases h),fun M2 h3 h2=>?_,?_⟩
  ·rw [Qgc fun _=>rfl];have:M2.over nb (fun _=>none)=M2:=by
    funext k;simp only [Mem.over];split
    ·rfl
    ·exact (h2 k (by omega)).symm
   rw [this];exact hC _ _ (Nat.le_refl _) fun k b hk=>by rw [h3 k (by simp [hk])];exact hk
  ·rw [Qgc fun _=>rfl];have:M.over nb (fun _=>none)=M:=by
    funext k;simp only [Mem.over];split
    ·rfl
    ·exact (hpc h1 k (by omega)).symm
   rw [this];exact h'
theorem Qn3 {P:Program} {f:FuncId} {cf:CFn} (hcf:Qy P f=some cf) {args:List V} {r:V} (hargs:Nat.beq args.length cf.np=true) (M:Mem) (nb:Nat)
  (hrun:∀ (Γ:Env),Γ.P=P→Γ.nt=cf.nt→Γ.n0=nb→(∀ k,Γ.n0≤k→M k=none)→Tr Γ cf.body ⟨Qtk args,Qo Γ.n0 [] M,Γ.n0+cf.nt⟩ (FinP cf.res r Γ.n0 M)):ACalls P f args M nb r M nb:=by
 by_cases hM:∀ k,nb≤k→M k=none
 case neg=>exact Qbal (Qoa hcf) (Nat.le_refl _) hM
 by_cases hon:MOn (There M) M
 case neg=>exact ⟨Qoa hcf,Nat.le_refl _,fun w g us hm h=>absurd h hon⟩
 refine Qbqb hcf hM (Nat.eq_of_beq_eq_true hargs) (Nat.le_refl _) fun Γ hP hn ht=>?_;have h:=hrun Γ hP ht hn (by rw [hn];exact hM);rw [Q81 (by rw [hn];exact hM),hn] at h;refine h.mono ?_;rintro e σ' ⟨he,r',h1,h2,h3,h4⟩;have hlt:∀ k,There M k→k<nb:=fun k hk=>by
  rcases Nat.lt_or_ge k nb with h|h
  ·exact h
  ·simp [There,hM k h] at hk
 refine ⟨he,r',h1,h2,fun k b hk=>?_,h3,hon,hlt⟩;rw [h4 k (hlt k (by simp [There,hk]))];exact hk
mutual
theorem Qbg3 {n0:Nat} {sites:List Nat}:∀ v:V,v.on (· < n0)→Qej (Qkw n0 sites) v=v
 | .und,_=>rfl
 | .d _,_=>rfl
 | .agg cs,h=>by simp only [Qej];rw [kills_base cs h]
 | .tup cs,h=>by simp only [Qej];rw [kills_base cs h]
 | .own ..,_=>rfl
 | .ownT ..,_=>rfl
 | .ptr k o,h=>by simp only [Qej];rw [Qti h];rfl
 | .nilp,_=>rfl
 | .f _,_=>rfl
 | .nils _,_=>rfl
 | .cref _,_=>rfl
 | .sl sz k o n c,h=>by simp only [Qej];rw [Qti h];rfl
 | .clo _ cs,h=>by simp only [Qej];rw [kills_base cs h]
 | .mp k,h=>by simp only [Qej];rw [Qti h];rfl
theorem kills_base {n0:Nat} {sites:List Nat}:∀ vs:List V,V.ons (· < n0) vs→Qej.go (Qkw n0 sites) vs=vs
 | [],_=>rfl
 | v::vs,h=>by simp only [Qej.go];rw [Qbg3 v h.1,kills_base vs h.2]
end
theorem kFun {n0:Nat} {sites:List Nat} {g:FuncId} {cp:List V} (hM:∀ k,n0≤k→M0 k=none) (h:V.ons (There M0) cp):WkV (Qej (Qkw n0 sites) (.clo g cp)) (.clo g cp):=by
 refine .same (Qbg3 _ (ons_mono (fun k hk=>?_) _ h));obtain ⟨b,hb⟩:=Option.isSome_iff_exists.1 hk;exact ltB hM hb
theorem Q2u {k:Nat} {b:Bx} (h:M k=some b):There M k:=by simp [There,h]
theorem Qbri {cp:List V} (hx:Ext M M') (h:V.ons (There M) cp):V.ons (There M') cp:=ons_mono (fun k hk=>by
 obtain ⟨b,hb⟩:=Option.isSome_iff_exists.1 hk;exact Q2u (hx k b hb)) _ h
end Go.Abs
end
section
namespace Go.Abs
open Go
def pl0:D→Bool
 | .int .. | .bool _ | .str _=>true
 | _=>false
def frzL (sz:Nat) (l:List (List D)):V:=if l.all fun x=>x.all pl0 then .f (.lst sz l) else .d (.lst sz l)
theorem Qbrj {imm imm' : Nat→Nat→Prop} {w:World}:∀ {x:D} {u:Value},pl0 x=true→RD imm w x u→RD imm' w x u
 | .int ..,_,_,h=>by simpa [RD] using h
 | .bool _,_,_,h=>by simpa [RD] using h
 | .str _,_,_,h=>by simpa [RD] using h
 | .lst ..,_,h,_=>by cases h
 | .mp ..,_,h,_=>by cases h
theorem Qbqd {p:Nat→Prop} {sz:Nat} {l:List (List D)}:(frzL sz l).on p:=by unfold frzL;split<;>trivial
theorem Qbmu {sz:Nat} {l:List (List D)}:WkV (frzL sz l) (.d (.lst sz l)):=by
 unfold frzL;split
 ·exact ⟨fun g w ℓ u h=>by
   simp only [RV] at h ⊢;exact Qfq ⟨fun b o h=>h.1,fun _ _ _=>rfl⟩ _ u h,fun _ _=>trivial⟩
 ·exact .same rfl
theorem Qbrk {sz:Nat} {l:List (List D)} (h:(l.all fun x=>x.all pl0)=true):frzL sz l = .f (.lst sz l):=by unfold frzL;rw [if_pos h]
mutual
def frzV (k:Nat) (ds:List D):V→V
 | .und=>.und
 | .d x=>.d x
 | .agg cs=>.agg (frzVs k ds cs)
 | .tup cs=>.tup (frzVs k ds cs)
 | .own sz l=>.own sz l
 | .ownT sz l=>.ownT sz l
 | .ptr k' o=>if k'=k then .cref (ds.drop o) else .ptr k' o
 | .nilp=>.nilp
 | .f x=>.f x
 | .nils sz=>.nils sz
 | .cref cs=>.cref cs
 | .sl sz k' o n c=>if k'=k then (if o+n*sz≤ds.length∧n≤c then frzL sz (Qn2 sz n ((ds.drop o).take (n*sz))) else .und) else .sl sz k' o n c
 | .clo f cs=>.clo f (frzVs k ds cs)
 | .mp k'=>if k'=k then .und else .mp k'
def frzVs (k:Nat) (ds:List D):List V→List V
 | []=>[]
 | v::vs=>frzV k ds v::frzVs k ds vs
end
theorem Qbc2 (k:Nat) (ds:List D):∀ vs,frzVs k ds vs=vs.map (frzV k ds)
 | []=>rfl
 | v::vs=>by simp [frzVs,Qbc2 k ds vs]
mutual
theorem Qbpg {p:Nat→Prop} (k:Nat) (ds:List D):∀ v:V,v.on p→(frzV k ds v).on fun j=>p j∧j≠k
 | .und,_=>trivial
 | .d _,_=>trivial
 | .agg cs,h=>ons_frz k ds cs h
 | .tup cs,h=>ons_frz k ds cs h
 | .own ..,_=>trivial
 | .ownT ..,_=>trivial
 | .ptr k' o,h=>by
  simp only [frzV];split
  ·trivial
  ·rename_i hne;exact ⟨h,hne⟩
 | .nilp,_=>trivial
 | .f _,_=>trivial
 | .nils _,_=>trivial
 | .cref _,_=>trivial
 | .sl sz k' o n c,h=>by
  simp only [frzV];split
  ·split
   ·exact Qbqd
   ·trivial
  ·rename_i hne;exact ⟨h,hne⟩
 | .clo _ cs,h=>ons_frz k ds cs h
 | .mp k',h=>by
  simp only [frzV];split
  ·trivial
  ·rename_i hne;exact ⟨h,hne⟩
theorem ons_frz {p:Nat→Prop} (k:Nat) (ds:List D):∀ vs:List V,V.ons p vs→V.ons (fun j=>p j∧j≠k) (frzVs k ds vs)
 | [],_=>trivial
 | v::vs,h=>⟨Qbpg k ds v h.1,ons_frz k ds vs h.2⟩
end
theorem Qbjn {imm:Nat→Nat→Prop} {w:World} {b:Nat}:∀ (j:Nat) {ds:List D} {o:Nat},RDc imm w b ds o→RDc imm w b (ds.drop j) (o+j)
 | 0,_,_,h=>h
 | j+1,[],o,h=>by simp [RDc]
 | j+1,d::ds,o,h=>by
  simp only [RDc] at h;have:=Qbjn j h.2.2;rw [show o+1+j=o+(j+1) from by omega] at this;simpa using this
def G.frz (g:G) (k n:Nat) [DecidablePred fun b=>b=g.box k]:G:=⟨g.box,fun b o=>g.imm b o∨(b=g.box k∧o<n),fun b=>if b=g.box k then .ext else g.own b⟩
section
variable {g:G} {w:World} {k:Nat} {ds:List D} (hB:g.own (g.box k) = .box k) (hD:RDc (g.frz k ds.length).imm w (g.box k) ds 0)
include hB hD
theorem Qbfw:Imm g.imm (g.frz k ds.length).imm w w:=⟨fun _ _ h=>.inl h,fun _ _ _=>rfl⟩
mutual
theorem Qbph:∀ (v:V) (ℓ:Owner) (u:Value),ℓ ≠ .box k→RV g w v ℓ u→RV (g.frz k ds.length) w (frzV k ds v) ℓ u
 | .und,_,_,_,_=>by simp [frzV,RV]
 | .d x,_,_,_,h=>by
  simp only [frzV,RV] at h ⊢;exact Qfq (Qbfw hB hD) x _ h
 | .agg cs,ℓ,u,hl,h=>by
  simp only [frzV,RV] at h ⊢;obtain ⟨vs,rfl,h,h1⟩:=h;exact ⟨vs,rfl,RVs_frz cs ℓ 0 vs h,h1⟩
 | .tup cs,ℓ,u,hl,h=>by
  simp only [frzV,RV] at h ⊢;obtain ⟨vs,rfl,h⟩:=h;exact ⟨vs,rfl,RVs_frz cs ℓ 0 vs h⟩
 | .own sz l,ℓ,u,hl,h=>by
  simp only [frzV,RV] at h ⊢;rcases h with h|⟨b,cap,vals,e,h1,h2,h3,h4,h5,h6,h7,h8⟩
  ·exact .inl h
  ·have hne:b≠g.box k:=by rintro rfl;rw [hB] at h2;exact hl h2.symm
   refine .inr ⟨b,cap,vals,e,h1,by simp [G.frz,hne,h2],h3,h4,h5,h6,fun o=>?_,RDL_mono (Qbfw hB hD) sz b l 0 h8⟩;rw [← h7 o];simp [G.frz,hne]
 | .ownT sz l,ℓ,u,hl,h=>by
  simp only [frzV,RV] at h ⊢;rcases h with h|⟨b,o0,cap,vals,e,h1,h2,h3,h4,h5,h6,h7,h8⟩
  ·exact .inl h
  ·have hne:b≠g.box k:=by rintro rfl;rw [hB] at h2;exact hl h2.symm
   refine .inr ⟨b,o0,cap,vals,e,h1,by simp [G.frz,hne,h2],h3,h4,h5,h6,fun o=>?_,RDL_mono (Qbfw hB hD) sz b l o0 h8⟩;rw [← h7 o];simp [G.frz,hne]
 | .ptr k' o,ℓ,u,hl,h=>by
  simp only [frzV];split
  ·rename_i he;subst he;simp only [RV] at h ⊢;have:=Qbjn o hD;rw [Nat.zero_add] at this;exact ⟨_,_,h,this⟩
  ·simpa [RV,G.frz] using h
 | .nilp,_,_,_,h=>by simpa [frzV,RV] using h
 | .f x,_,u,_,h=>by
  simp only [frzV,RV] at h ⊢;exact Qfq (Qbi1 (g:=g) (g':=g.frz k ds.length) fun b o h1 h2=>⟨.inl h1,by simp only [G.frz];split<;>first|rfl|exact h2⟩) x u h
 | .nils _,_,_,_,h=>by simpa [frzV,RV] using h
 | .cref cs,ℓ,u,hl,h=>by
  simp only [frzV,RV] at h ⊢;obtain ⟨b,o,rfl,h⟩:=h;exact ⟨b,o,rfl,Q8m (Qbfw hB hD) b cs o h⟩
 | .sl sz k' o n c,ℓ,u,hl,h=>by
  simp only [frzV];split
  ·rename_i he;subst he;split
   ·rename_i hc;have hlen:((ds.drop o).take (n*sz)).length=n*sz:=by simp;omega
    obtain ⟨h1,h2,h3⟩:=Q4r n sz _ hlen;simp only [RV] at h;have key:∀ i x j y,(Qn2 sz n ((ds.drop o).take (n*sz)))[i]? = some x→x[j]? = some y→(g.frz k' ds.length).imm (g.box k') (o+i*sz+j)∧∃ u,w.cell? ⟨g.box k',o+i*sz+j,none⟩=some u∧RD (g.frz k' ds.length).imm w y u:=by
     intro i x j y hx hy;have h4:=h3 i x j y hx hy;rw [List.getElem?_take] at h4;split at h4
     ·rw [List.getElem?_drop] at h4;have:=Q2n hD _ y h4;rw [show 0+(o+(i*sz+j))=o+i*sz+j from by omega] at this;exact this
     ·cases h4
    unfold frzL;split
    ·rename_i hp;simp only [RV,RD];refine ⟨_,c,by rw [h1];exact h,by rw [h1];exact hc.2,.inr ⟨_,o,rfl,Qbb7 fun i x hx=>⟨h2 x (List.mem_of_getElem? hx),Q8p fun j y hy=>?_⟩⟩⟩;obtain ⟨q1,q,q2,q3⟩:=key i x j y hx hy;refine ⟨⟨q1,by simp [G.frz],.inl (by rw [q2];rfl)⟩,q,q2,Qbrj ?_ q3⟩;exact List.all_eq_true.1 (List.all_eq_true.1 hp x (List.mem_of_getElem? hx)) y (List.mem_of_getElem? hy)
    ·simp only [RV,RD];refine ⟨_,c,by rw [h1];exact h,by rw [h1];exact hc.2,.inr ⟨_,o,rfl,Qbb7 fun i x hx=>⟨h2 x (List.mem_of_getElem? hx),Q8p fun j y hy=>key i x j y hx hy⟩⟩⟩
   ·simp [RV]
  ·simpa [RV,G.frz] using h
 | .clo f cs,ℓ,u,hl,h=>by
  simp only [frzV,RV] at h ⊢;obtain ⟨vs,rfl,h⟩:=h;exact ⟨vs,rfl,RVs_frz cs .ext 0 vs h⟩
 | .mp k',ℓ,u,hl,h=>by
  simp only [frzV];split
  ·simp [RV]
  ·simpa [RV,G.frz] using h
theorem RVs_frz:∀ (cs:List V) (ℓ:Owner) (i:Nat) (us:List Value),RVs g w cs ℓ i us→RVs (g.frz k ds.length) w (frzVs k ds cs) ℓ i us
 | [],_,_,_,h=>by simpa [frzVs,RVs] using h
 | c::cs,ℓ,i,us,h=>by
  simp only [frzVs,RVs] at h ⊢;obtain ⟨u,us',rfl,h1,h2⟩:=h;have hne:ℓ.sub i ≠ .box k:=by cases ℓ<;>simp [Owner.sub]
  exact ⟨u,us',rfl,Qbph c (ℓ.sub i) u hne h1,RVs_frz cs ℓ (i+1) us' h2⟩
end
end
def PreD (cs:List V) (ds:List D):Prop:=ds.length≤cs.length∧∀ (j:Nat) v d,cs[j]? = some v→ds[j]? = some d→v.toD=some d
theorem PreD.of {cs:List V} {ds:List D} (h:toDs cs=some ds):PreD cs ds:=⟨Nat.le_of_eq (Q4q h).1,(Q4q h).2⟩
theorem PreD.app {cs tl:List V} {ds:List D} (h:toDs cs=some ds):PreD (cs++tl) ds:=by
 obtain ⟨h1,h2⟩:=Q4q h;refine ⟨by simp;omega,fun j v d hv hd=>?_⟩;have:=(List.getElem?_eq_some_iff.1 hd).1;rw [List.getElem?_append_left (by omega)] at hv;exact h2 j v d hv hd
theorem Qbmv {g:G} {w:World} {M:Mem} {nb k:Nat} {cs:List V} {ds:List D} [DecidablePred fun b=>b=g.box k] (hm:MR g w M nb) (hM:M k=some (.cells cs)) (hd:PreD cs ds):RDc (g.frz k ds.length).imm w (g.box k) ds 0:=by
 obtain ⟨hl,hg⟩:=hd;refine Q8p fun j y hj=>?_;have hlt:=(List.getElem?_eq_some_iff.1 hj).1;have hc:cs[j]? = some (cs[j]'(by omega)):=List.getElem?_eq_getElem _;obtain ⟨u,h1,h2,h3⟩:=Q4o hm hM hc;refine ⟨.inr ⟨rfl,by omega⟩,u,by simpa using h1,?_⟩;exact Qfq ⟨fun _ _ h=>.inl h,fun _ _ _=>rfl⟩ y u (Q8t (hg j _ y hc hj) h2)
def Q42 (n0 k:Nat) (f:V→V) (σ:St):St :=
 {
  s:=fun t=>f (σ.s t)
  M:=fun j=>if j=k then none else if j<n0 then σ.M j else
   match σ.M j with
   | some (.cells cs)=>some (.cells (cs.map f))
   | b=>b
  nb:=σ.nb }
abbrev Qbrl (n0 k:Nat) (ds:List D) (σ:St):St:=Q42 n0 k (frzV k ds) σ
variable {Γ:Env} {σ:St}
open Classical in
theorem Qboh {k:Nat} {cs:List V} {ds:List D} (hk:Γ.n0≤k) (hM:σ.M k=some (.cells cs)) (hd:PreD cs ds):WeakSt Γ σ (Qbrl Γ.n0 k ds σ):=by
 intro a w g hs;have hB:g.own (g.box k) = .box k:=(hs.mem.box k _ hM).2.1;have hD:=Qbmv hs.mem hM hd;have hsub:∀ ℓ i,ℓ≠Owner.box k→ℓ.sub i ≠ .box k:=by intro ℓ i _;cases ℓ<;>simp [Owner.sub]
 have hkept:Kept g w (g.frz k ds.length) w (fun j=>j≠k) (fun o=>o ≠ .box k):=by
  refine ⟨⟨fun _ _ h=>.inl h,fun _ _ _=>rfl⟩,fun _ _=>rfl,fun b hb _=>?_⟩;have hne:b≠g.box k:=by rintro rfl;exact hb hB
  exact ⟨by simp [G.frz,hne],rfl,fun o=>by simp [G.frz,hne]⟩
 have hthere:∀ j,(There σ.M j∧j≠k)→There (Qbrl Γ.n0 k ds σ).M j:=by
  rintro j ⟨h1,h2⟩;simp only [There,Q42,h2,if_false] at h1 ⊢;split
  ·exact h1
  ·cases hj:σ.M j with
   | none=>simp [hj] at h1
   | some b=>cases b<;>rfl
 have hown:∀ j,j≠k→g.own (g.box j) = .box j→(g.frz k ds.length).own (g.box j) = .box j:=by
  intro j hj ho;have hne:g.box j≠g.box k:=by
   intro e;rw [e,hB] at ho;cases ho;exact hj rfl
  simp [G.frz,hne,ho]
 refine ⟨g.frz k ds.length,⟨⟨fun j b hb=>?_,fun b o hbo=>?_⟩,fun t=>Qbph hB hD _ _ _ (by simp) (hs.slots t),hs.size,hs.defers,fun t=>Qf8 hthere _ (Qbpg k ds _ (hs.onS t)),fun j cs' hb=>?_,hs.top,?_⟩⟩
 ·simp only [Q42] at hb;split at hb
  ·cases hb
  ·rename_i hjk;split at hb
   ·rename_i hlt;obtain ⟨h1,h2,h3⟩:=hs.mem.box j b hb;refine ⟨h1,hown j hjk h2,?_⟩;cases b with
    | mp es c =>
     obtain ⟨ents,k1,k2⟩:=h3;exact ⟨ents,k1,Qqt (g:=g) (g':=g.frz k ds.length) hkept (fun _=>by simp) k2⟩
    | cells cs2 =>
     obtain ⟨vals,e,k1,k2,k3⟩:=h3;have hon:=(hs.onM j cs2 hb).2 hlt;exact ⟨vals,e,k1,RVs_mono hkept hsub (by simp) _ _ _ _ (by intro e;cases e;exact hjk rfl) (ons_mono (fun i hi=>by omega) _ hon) k2,k3⟩
   ·split at hb
    ·rename_i hlt _ cs2 hcs;cases hb;obtain ⟨h1,h2,vals,e,k1,k2,k3⟩:=hs.mem.box j _ hcs;refine ⟨h1,hown j hjk h2,vals,e,k1,?_,k3⟩;rw [← Qbc2];exact RVs_frz hB hD _ _ _ _ k2
    ·rename_i hne;obtain ⟨h1,h2,h3⟩:=hs.mem.box j b hb;cases b with
     | mp es c =>
      obtain ⟨ents,k1,k2⟩:=h3;exact ⟨h1,hown j hjk h2,ents,k1,Qqt (g:=g) (g':=g.frz k ds.length) hkept (fun _=>by simp) k2⟩
     | cells cs2=>exact absurd hb (hne cs2)
 ·rcases hbo with hbo|⟨rfl,hlt⟩
  ·obtain ⟨h1,h2⟩:=hs.mem.imm b o hbo;refine ⟨h1,fun j=>?_⟩;simp only [G.frz];split
   ·simp
   ·exact h2 j
  ·refine ⟨?_,fun j=>by simp [G.frz]⟩;obtain ⟨_,_,vals,e,k1,_,_⟩:=hs.mem.box k _ hM;exact (Array.getElem?_eq_some_iff.1 k1).1
 ·simp only [Q42] at hb;split at hb
  ·cases hb
  ·rename_i hjk;split at hb
   ·rename_i hlt;obtain ⟨h1,h2⟩:=hs.onM j cs' hb;refine ⟨ons_mono (fun i hi=>hthere i ⟨hi.1,?_⟩) _ (ons_and cs' h1 (h2 hlt)),h2⟩;have:=hi.2;omega
   ·split at hb
    ·rename_i hlt _ cs2 hcs;cases hb;refine ⟨?_,fun h=>absurd h hlt⟩;rw [← Qbc2];exact ons_mono hthere _ (ons_frz k ds _ (hs.onM j cs2 hcs).1)
    ·rename_i hne;exact absurd hb (hne cs')
 ·have hf:=hs.fr;refine ⟨hf.os,hf.tape,hf.output,hf.size,⟨fun b o h=>.inl (hf.imm.mono b o h),hf.imm.look⟩,hf.box,fun b hb ho=>?_⟩;obtain ⟨h1,h2,h3⟩:=hf.old b hb ho;have hne:b≠g.box k:=by
   rintro rfl;rw [hB] at h1;rw [← h1] at ho;exact ho
  exact ⟨by simp [G.frz,hne,h1],h2,fun o=>by simp [G.frz,hne,h3]⟩
def FE (f:V→V) (s:Sl):List (Nat×V)→Prop
 | []=>True
 | (t,v)::E=>WkV (f (s t)) v∧FE f s E
theorem FE.at {f:V→V} {s:Sl}:∀ {E:List (Nat×V)},FE f s E→∀ t,WkV (f (s t)) (look E t)
 | [],_,t=>.und _
 | (u,v)::E,h,t=>by
  simp only [look];cases hb:Nat.beq t u with
  | true=>have:=Nat.eq_of_beq_eq_true hb;subst this;exact h.1
  | false=>exact FE.at h.2 t
def FB (f:V→V) (t0:Nat) (L:List (Nat×Bx)):List (Nat×Bx)→Prop
 | []=>True
 | (t,.cells cs')::L'=>(∃ cs,Qb9 L t=some (.cells cs)∧Nat.beq t t0=false∧WkVs (cs.map f) cs')∧FB f t0 L L'
 | (t,.mp es c)::L'=>(Qb9 L t=some (.mp es c)∧Nat.beq t t0=false)∧FB f t0 L L'
theorem FB.at {f:V→V} {t0:Nat} {L:List (Nat×Bx)}:∀ {L' : List (Nat×Bx)},FB f t0 L L'→∀ t b,Qb9 L' t=some b→Nat.beq t t0=false ∧
  ((∃ cs' cs,b = .cells cs'∧Qb9 L t=some (.cells cs)∧WkVs (cs.map f) cs')∨∃ es c,b = .mp es c∧Qb9 L t=some (.mp es c))
 | [],_,t,b,hb=>by simp [Qb9] at hb
 | (u,.cells cs')::L',h,t,b,hb=>by
  simp only [Qb9] at hb;cases hbe:Nat.beq t u with
  | true =>
   have:=Nat.eq_of_beq_eq_true hbe;subst this;rw [hbe] at hb;simp only [cond_true,Option.some.injEq] at hb;obtain ⟨cs,h1,h2,h3⟩:=h.1;exact ⟨h2,.inl ⟨cs',cs,hb.symm,h1,h3⟩⟩
  | false =>
   rw [hbe] at hb;exact FB.at h.2 t b hb
 | (u,.mp es c)::L',h,t,b,hb=>by
  simp only [Qb9] at hb;cases hbe:Nat.beq t u with
  | true =>
   have:=Nat.eq_of_beq_eq_true hbe;subst this;rw [hbe] at hb;simp only [cond_true,Option.some.injEq] at hb;exact ⟨h.1.2,.inr ⟨es,c,hb.symm,h.1.1⟩⟩
  | false =>
   rw [hbe] at hb;exact FB.at h.2 t b hb
theorem Qbkr (f:V→V) (t:Nat) {E E' : List (Nat×V)} {L:List (Nat×Bx)} {L' : List (Nat×Bx)} {M0:Mem} {nb:Nat} (hW:WeakSt Γ ⟨look E,Qo Γ.n0 L M0,nb⟩ (Q42 Γ.n0 (Γ.n0+t) f ⟨look E,Qo Γ.n0 L M0,nb⟩))
  (hE:FE f (look E) E') (hL:FB f t L L') (hk:(L.all fun p=>Nat.beq p.1 t||L'.any fun q=>Nat.beq p.1 q.1)=true) :
  WeakSt Γ ⟨look E,Qo Γ.n0 L M0,nb⟩ ⟨look E',Qo Γ.n0 (bxs L') M0,nb⟩:=by
 refine WeakSt.trans hW ?_;intro a w g hs;have hbase:∀ k,k<Γ.n0→(Q42 Γ.n0 (Γ.n0+t) f ⟨look E,Qo Γ.n0 L M0,nb⟩).M k=M0 k:=by
  intro k hk;have h1:k≠Γ.n0+t:=by omega
  simp only [Q42,h1,if_false,hk,if_true];exact Qdl hk
 have hown:∀ u cs,Nat.beq u t=false→Qb9 L u=some (.cells cs)→(Q42 Γ.n0 (Γ.n0+t) f ⟨look E,Qo Γ.n0 L M0,nb⟩).M (Γ.n0+u)=some (.cells (cs.map f)):=by
  intro u cs h1 h2;have h3:u≠t:=fun e=>by subst e;simp at h1
  have h4:Γ.n0+u≠Γ.n0+t:=by omega
  have h5:¬ Γ.n0+u<Γ.n0:=by omega
  have h6:Qo Γ.n0 L M0 (Γ.n0+u)=some (.cells cs):=by rw [Qcx];exact h2
  simp only [Q42,h4,if_false,h5,h6]
 have hownm:∀ u es c,Nat.beq u t=false→Qb9 L u=some (.mp es c)→(Q42 Γ.n0 (Γ.n0+t) f ⟨look E,Qo Γ.n0 L M0,nb⟩).M (Γ.n0+u)=some (.mp es c):=by
  intro u es c h1 h2;have h3:u≠t:=fun e=>by subst e;simp at h1
  have h4:Γ.n0+u≠Γ.n0+t:=by omega
  have h5:¬ Γ.n0+u<Γ.n0:=by omega
  have h6:Qo Γ.n0 L M0 (Γ.n0+u)=some (.mp es c):=by rw [Qcx];exact h2
  simp only [Q42,h4,if_false,h5,h6]
 have hsplit:∀ k,k<Γ.n0∨∃ u,k=Γ.n0+u:=fun k=>by
  rcases Nat.lt_or_ge k Γ.n0 with h|h
  ·exact .inl h
  ·exact .inr ⟨k-Γ.n0,by omega⟩
 have hthere:∀ k,There (Q42 Γ.n0 (Γ.n0+t) f ⟨look E,Qo Γ.n0 L M0,nb⟩).M k→There (Qo Γ.n0 (bxs L') M0) k:=by
  intro k hk';rcases hsplit k with h|⟨u,rfl⟩
  ·simp only [There,hbase k h] at hk';simp only [There,Qdl h,hk']
  ·simp only [There,Qcx];have h5:¬ Γ.n0+u<Γ.n0:=by omega
   have h4:Γ.n0+u≠Γ.n0+t:=by
    intro e;simp [There,Q42,e] at hk'
   have h7:∃ b,Qb9 L u=some b:=by
    cases hb:Qb9 L u with
    | some b=>exact ⟨b,rfl⟩
    | none =>
     have h6:Qo Γ.n0 L M0 (Γ.n0+u)=none:=by rw [Qcx];exact hb
     simp only [There,Q42,h4,if_false,h5,h6] at hk';cases hk'
   obtain ⟨b,hb⟩:=h7;obtain ⟨p,hp,rfl⟩:=Q2t hb;have:=List.all_eq_true.1 hk p hp;rw [Bool.or_eq_true] at this;rcases this with h8|h8
   ·have:=Nat.eq_of_beq_eq_true h8;omega
   ·obtain ⟨q,hq,he⟩:=List.any_eq_true.1 h8;have he:=Nat.eq_of_beq_eq_true he;have:=Qbak hq;rw [he];exact this
 refine ⟨g,⟨⟨fun k b hb=>?_,hs.mem.imm⟩,fun t=>(hE.at t).rd _ _ _ _ (hs.slots t),hs.size,hs.defers,fun t=>Qf8 hthere _ ((hE.at t).on _ (hs.onS t)),fun k cs hb=>?_,hs.top,hs.fr⟩⟩
 ·rcases hsplit k with h|⟨u,rfl⟩
  ·have hb' : (Q42 Γ.n0 (Γ.n0+t) f ⟨look E,Qo Γ.n0 L M0,nb⟩).M k=some b:=by rw [hbase k h];rw [← hb];exact (Qdl h).symm
   exact hs.mem.box k b hb'
  ·have hb' : Qb9 (bxs L') u=some b:=by rw [← hb];exact Qcx.symm
   obtain ⟨h2,⟨cs',cs,rfl,h1,h3⟩|⟨es,c,rfl,h1⟩⟩:=hL.at u b hb'
   ·obtain ⟨k1,k2,vals,e,k3,k4,k5⟩:=hs.mem.box _ _ (hown u cs h2 h1);exact ⟨k1,k2,vals,e,k3,h3.rd _ _ _ _ _ k4,k5⟩
   ·exact hs.mem.box _ _ (hownm u es c h2 h1)
 ·rcases hsplit k with h|⟨u,rfl⟩
  ·have hb' : (Q42 Γ.n0 (Γ.n0+t) f ⟨look E,Qo Γ.n0 L M0,nb⟩).M k=some (.cells cs):=by rw [hbase k h];rw [← hb];exact (Qdl h).symm
   obtain ⟨k1,k2⟩:=hs.onM k cs hb';exact ⟨ons_mono hthere _ k1,k2⟩
  ·have hb' : Qb9 (bxs L') u=some (.cells cs):=by rw [← hb];exact Qcx.symm
   obtain ⟨h2,⟨cs',cs0,he,h1,h3⟩|⟨es,c,he,h1⟩⟩:=hL.at u _ hb'<;>cases he;obtain ⟨k1,k2⟩:=hs.onM _ _ (hown u cs0 h2 h1);exact ⟨ons_mono hthere _ (h3.on _ k1),fun hlt=>absurd hlt (by omega)⟩
theorem Qbbe (t:Nat) {E E' : List (Nat×V)} {L:List (Nat×Bx)} {L' : List (Nat×Bx)} {M0:Mem} {nb:Nat} {cs:List V} (ds:List D) (hM:Qb9 L t=some (.cells cs)) (hd:PreD cs ds)
  (hE:FE (frzV (Γ.n0+t) ds) (look E) E') (hL:FB (frzV (Γ.n0+t) ds) t L L') (hk:(L.all fun p=>Nat.beq p.1 t||L'.any fun q=>Nat.beq p.1 q.1)=true) :
  WeakSt Γ ⟨look E,Qo Γ.n0 L M0,nb⟩ ⟨look E',Qo Γ.n0 (bxs L') M0,nb⟩ :=
 Qbkr (frzV (Γ.n0+t) ds) t (Qboh (σ:=⟨look E,Qo Γ.n0 L M0,nb⟩) (k:=Γ.n0+t) (by omega) (by show Qo Γ.n0 L M0 (Γ.n0+t)=_;rw [Qcx];exact hM) hd) hE hL hk
theorem Qgo (t:Nat) {E E' : List (Nat×V)} {L:List (Nat×Bx)} {L' : List (Nat×Bx)} {M0:Mem} {nb:Nat} {cs:List V} (ds:List D) (hM:Qb9 L t=some (.cells cs)) (hd:toDs cs=some ds)
  (hE:FE (frzV (Γ.n0+t) ds) (look E) E') (hL:FB (frzV (Γ.n0+t) ds) t L L') (hk:(L.all fun p=>Nat.beq p.1 t||L'.any fun q=>Nat.beq p.1 q.1)=true) :
  WeakSt Γ ⟨look E,Qo Γ.n0 L M0,nb⟩ ⟨look E',Qo Γ.n0 (bxs L') M0,nb⟩ :=
 Qbbe t ds hM (.of hd) hE hL hk
theorem fPtr {n0 t u o:Nat} {ds:List D} (h:Nat.beq u t=false):WkV (frzV (n0+t) ds (.ptr (n0+u) o)) (.ptr (n0+u) o):=by
 have:¬ n0+u=n0+t:=by
  intro e;have:u=t:=by omega
  subst this;simp at h
 exact .same (by simp only [frzV];rw [if_neg this])
theorem fSlO {n0 t u sz o n c:Nat} {ds:List D} (h:Nat.beq u t=false):WkV (frzV (n0+t) ds (.sl sz (n0+u) o n c)) (.sl sz (n0+u) o n c):=by
 have:¬ n0+u=n0+t:=by
  intro e;have:u=t:=by omega
  subst this;simp at h
 exact .same (by simp only [frzV];rw [if_neg this])
theorem fSl {n0 t sz o n c:Nat} {ds:List D} {l:List (List D)} (h:(Nat.ble (o+n*sz) ds.length&&Nat.ble n c)=true) (hl:Qn2 sz n ((ds.drop o).take (n*sz))=l):WkV (frzV (n0+t) ds (.sl sz (n0+t) o n c)) (.d (.lst sz l)):=by
 simp only [Bool.and_eq_true] at h;have h1:=Nat.le_of_ble_eq_true h.1;have h2:=Nat.le_of_ble_eq_true h.2;have e:frzV (n0+t) ds (.sl sz (n0+t) o n c)=frzL sz l:=by simp [frzV,h1,h2,hl]
 rw [e];exact Qbmu
def nilO {α R:Type} [DecidableEq R] (l:List α) (K:Bool→Option R):Option R :=
 match l with
 | []=>if K true=K false then K false else none
 | _::_=>K false
theorem Qbmw {α R:Type} [DecidableEq R] {l:List α} {K:Bool→Option R} {r:R} (h:nilO l K=some r) (b:Bool) (hb:b=true→l.length=0):K b=some r:=by
 cases l with
 | nil =>
  simp only [nilO] at h;split at h
  ·rename_i he;cases b with
   | true=>rw [he];exact h
   | false=>exact h
  ·cases h
 | cons x l =>
  cases b with
  | true=>simp at hb
  | false=>exact h
variable {pc d nb:Nat} {os:List COp} {E:List (Nat×V)} {M:Mem} {Q:St→Prop} {gd:Option (Nat×Bool)} {a:Arg}
theorem Rn.isnil {α R:Type} [DecidableEq R] {e:α→List D} {sz:Nat} {xs:List α} {neg:Bool} {J:Bool→Option R} {r:R} (hw:Wn E gd) (ha:(a.val (look E)).dem = .d (.lst sz (xs.map e))) (h:nilO xs J=some r)
  (hk:∀ b,J b=some r→Rn Γ 9 os ⟨look ((d,.d (.bool (bif neg then !b else b)))::E),M,nb⟩ Q):Rn Γ 9 (⟨some d,.isnil neg,[a],false,gd⟩::os) ⟨look E,M,nb⟩ Q:=by
 refine Rn.cons ?_;unfold COp.run;rw [hw.wanted];simp only [show (Abs.K.isnil neg).isCall=false from rfl,show (Abs.K.isnil neg).isNil=true from rfl,Bool.false_eq_true,if_false,if_true,COp.xs,List.map_cons,List.map_nil,V.dems,ha,Qbd1,List.length_map,Abs.K.negNil];intro b hb;have e1:∀ v,Qbf (look E) (some d) v=look ((d,v)::E):=fun v=>Qdc E d v;have h2:=hk b (Qbmw h b hb);cases neg with
 | true=>exact (show Rn Γ 9 os ⟨Qbf (look E) (some d) (.d (.bool (!b))),M,nb⟩ Q from by rw [e1];exact h2)
 | false=>exact (show Rn Γ 9 os ⟨Qbf (look E) (some d) (.d (.bool b)),M,nb⟩ Q from by rw [e1];exact h2)
end Go.Abs
end
section
namespace Go.Abs
open Go
variable {Γ:Env} {σ:St}
def G.ow (g:G) (k n:Nat) (ℓ:Owner) [DecidablePred fun b=>b=g.box k]:G:=⟨g.box,fun b o=>g.imm b o∨(b=g.box k∧o<n),fun b=>if b=g.box k then ℓ else g.own b⟩
section
variable {g:G} {w:World} {k n:Nat} {ℓ0:Owner} (hB:g.own (g.box k) = .box k)
include hB
mutual
theorem Qbrm [DecidablePred fun b=>b=g.box k]:∀ (v:V) (ℓ:Owner) (u:Value),ℓ ≠ .box k→RV g w v ℓ u→RV (g.ow k n ℓ0) w v ℓ u
 | .und,_,_,_,_=>by simp [RV]
 | .d x,_,_,_,h=>by
  simp only [RV] at h ⊢;exact Qfq ⟨fun _ _ h=>.inl h,fun _ _ _=>rfl⟩ x _ h
 | .agg cs,ℓ,u,hl,h=>by
  simp only [RV] at h ⊢;obtain ⟨vs,rfl,h,h1⟩:=h;exact ⟨vs,rfl,RVs_ow cs ℓ 0 vs h,h1⟩
 | .tup cs,ℓ,u,hl,h=>by
  simp only [RV] at h ⊢;obtain ⟨vs,rfl,h⟩:=h;exact ⟨vs,rfl,RVs_ow cs ℓ 0 vs h⟩
 | .own sz l,ℓ,u,hl,h=>by
  simp only [RV] at h ⊢;rcases h with h|⟨b,cap,vals,e,h1,h2,h3,h4,h5,h6,h7,h8⟩
  ·exact .inl h
  ·have hne:b≠g.box k:=by rintro rfl;rw [hB] at h2;exact hl h2.symm
   refine .inr ⟨b,cap,vals,e,h1,by simp [G.ow,hne,h2],h3,h4,h5,h6,fun o=>?_,RDL_mono ⟨fun _ _ h=>.inl h,fun _ _ _=>rfl⟩ sz b l 0 h8⟩;rw [← h7 o];simp [G.ow,hne]
 | .ownT sz l,ℓ,u,hl,h=>by
  simp only [RV] at h ⊢;rcases h with h|⟨b,o0,cap,vals,e,h1,h2,h3,h4,h5,h6,h7,h8⟩
  ·exact .inl h
  ·have hne:b≠g.box k:=by rintro rfl;rw [hB] at h2;exact hl h2.symm
   refine .inr ⟨b,o0,cap,vals,e,h1,by simp [G.ow,hne,h2],h3,h4,h5,h6,fun o=>?_,RDL_mono ⟨fun _ _ h=>.inl h,fun _ _ _=>rfl⟩ sz b l o0 h8⟩;rw [← h7 o];simp [G.ow,hne]
 | .ptr k' o,ℓ,u,hl,h=>by simpa [RV,G.ow] using h
 | .nilp,_,_,_,h=>by simpa [RV] using h
 | .f x,_,u,_,h=>by
  simp only [RV] at h ⊢;refine Qfq (Qbi1 (g:=g) (g':=g.ow k n ℓ0) fun b o h1 h2=>⟨.inl h1,?_⟩) x u h;have hne:b≠g.box k:=by rintro rfl;rw [hB] at h2;cases h2
  simp [G.ow,hne,h2]
 | .nils _,_,_,_,h=>by simpa [RV] using h
 | .cref cs,ℓ,u,hl,h=>by
  simp only [RV] at h ⊢;obtain ⟨b,o,rfl,h⟩:=h;exact ⟨b,o,rfl,Q8m ⟨fun _ _ h=>.inl h,fun _ _ _=>rfl⟩ b cs o h⟩
 | .sl sz k' o n c,ℓ,u,hl,h=>by simpa [RV,G.ow] using h
 | .clo f cs,ℓ,u,hl,h=>by
  simp only [RV] at h ⊢;obtain ⟨vs,rfl,h⟩:=h;exact ⟨vs,rfl,RVs_ow cs .ext 0 vs h⟩
 | .mp k',ℓ,u,hl,h=>by simpa [RV,G.ow] using h
theorem RVs_ow [DecidablePred fun b=>b=g.box k]:∀ (cs:List V) (ℓ:Owner) (i:Nat) (us:List Value),RVs g w cs ℓ i us→RVs (g.ow k n ℓ0) w cs ℓ i us
 | [],_,_,_,h=>by simpa [RVs] using h
 | c::cs,ℓ,i,us,h=>by
  simp only [RVs] at h ⊢;obtain ⟨u,us',rfl,h1,h2⟩:=h;have hne:ℓ.sub i ≠ .box k:=by cases ℓ<;>simp [Owner.sub]
  exact ⟨u,us',rfl,Qbrm c (ℓ.sub i) u hne h1,RVs_ow cs ℓ (i+1) us' h2⟩
end
end
open Classical in
theorem Qboi {t t0 sz n:Nat} {cs:List V} {ds:List D} (hM:σ.M (Γ.n0+t)=some (.cells cs)) (hd:toDs cs=some ds) (hs0:σ.s t0 = .sl sz (Γ.n0+t) 0 n n) (hn:(Nat.beq (n*sz) ds.length&&Nat.ble n 65536)=true) :
  WeakSt Γ σ ⟨(Qn7 Γ.n0 [t] σ).s.put t0 (.own sz (Qn2 sz n ds)),(Qn7 Γ.n0 [t] σ).M,σ.nb⟩:=by
 intro a w g hs;simp only [Bool.and_eq_true] at hn;have hn1:n*sz=ds.length:=Nat.eq_of_beq_eq_true hn.1;have hn2:=Nat.le_of_ble_eq_true hn.2;have hc:=Qbby hs [t];have hB:g.own (g.box (Γ.n0+t)) = .box (Γ.n0+t):=(hs.mem.box _ _ hM).2.1;obtain ⟨hl,hg⟩:=Q4q hd;have hself:Qkw Γ.n0 [t] (Γ.n0+t)=true:=by simp [Qkw]
 have hgone:∀ j,There (Qn7 Γ.n0 [t] σ).M j→j≠Γ.n0+t:=by
  rintro j hj rfl;simp [There,Qn7,hself] at hj
 have hD:RDc (g.ow (Γ.n0+t) (n*sz) (.slot t0 [])).imm w (g.box (Γ.n0+t)) ds 0:=by
  refine Q8p fun j y hj=>?_;have hlt:=(List.getElem?_eq_some_iff.1 hj).1;have hcj:cs[j]? = some (cs[j]'(by omega)):=List.getElem?_eq_getElem _;obtain ⟨u,h1,h2,h3⟩:=Q4o hs.mem hM hcj;refine ⟨.inr ⟨rfl,by omega⟩,u,by simpa using h1,?_⟩;exact Qfq ⟨fun _ _ h=>.inl h,fun _ _ _=>rfl⟩ y u (Q8t (hg j _ y hcj hj) h2)
 refine ⟨g.ow (Γ.n0+t) (n*sz) (.slot t0 []),⟨⟨fun j b hb=>?_,fun b o hbo=>?_⟩,fun i=>?_,hs.size,hs.defers,fun i=>?_,hc.onM,hs.top,?_⟩⟩
 ·have hjk:=hgone j (by simp [There,show (Qn7 Γ.n0 [t] σ).M j=some b from hb]);obtain ⟨h1,h2,h3⟩:=hc.mem.box j b hb;have hne:g.box j≠g.box (Γ.n0+t):=by
   intro e;rw [e,hB] at h2;cases h2;exact hjk rfl
  refine ⟨h1,by simp [G.ow,hne,h2],?_⟩;cases b with
  | mp es c =>
   obtain ⟨ents,k1,k2⟩:=h3;exact ⟨ents,k1,Qbgh (g:=g) (g':=g.ow (Γ.n0+t) (n*sz) (.slot t0 [])) ⟨fun _ _ h=>.inl h,fun _ _ _=>rfl⟩ (fun b i hbi _=>by have hne2:b≠g.box (Γ.n0+t):=(by rintro rfl;rw [hB] at hbi;cases hbi);exact ⟨by simp [G.ow,hne2,hbi],rfl,fun o=>by simp [G.ow,hne2]⟩) k2⟩
  | cells cs2 =>
   obtain ⟨vals,e,k1,k2,k3⟩:=h3;exact ⟨vals,e,k1,RVs_ow hB _ _ _ _ k2,k3⟩
 ·rcases hbo with hbo|⟨rfl,hlt⟩
  ·obtain ⟨h1,h2⟩:=hs.mem.imm b o hbo;refine ⟨h1,fun j=>?_⟩;simp only [G.ow];split
   ·simp
   ·exact h2 j
  ·refine ⟨?_,fun j=>by simp [G.ow]⟩;obtain ⟨_,_,vals,e,k1,_,_⟩:=hs.mem.box _ _ hM;exact (Array.getElem?_eq_some_iff.1 k1).1
 ·simp only [Sl.put];split
  ·rename_i he;subst he;have h0:=hs.slots i;rw [hs0] at h0;simp only [RV] at h0 ⊢;obtain ⟨_,_,vals,e,k1,k2,k3⟩:=hs.mem.box _ _ hM;have hvl:=Qtd k2;obtain ⟨q1,q2,q3⟩:=Q4r n sz ds hn1.symm;refine .inr ⟨g.box (Γ.n0+t),n,vals.toArray,e,by rw [q1];exact h0,by simp [G.ow],k1,by omega,by unfold maxLen;omega,⟨by simp;omega,fun u hu=>k3 u (by simpa using hu)⟩,fun o=>?_,Qbb7 fun i x hx=>⟨q2 x (List.mem_of_getElem? hx),Q8p fun j y hy=>?_⟩⟩
   ·have hno:¬ g.imm (g.box (Γ.n0+t)) o:=fun h=>(hs.mem.imm _ _ h).2 _ hB;simp [G.ow,hno,q1]
   ·have h4:=q3 i x j y hx hy;have:=Q2n hD _ y h4;rw [show 0+(i*sz+j)=0+i*sz+j from by omega] at this;exact this
  ·exact Qbrm hB _ _ _ (by simp) (hc.slots i)
 ·simp only [Sl.put];split
  ·trivial
  ·exact hc.onS i
 ·have hf:=hs.fr;refine ⟨hf.os,hf.tape,hf.output,hf.size,⟨fun b o h=>.inl (hf.imm.mono b o h),hf.imm.look⟩,hf.box,fun b hb ho=>?_⟩;obtain ⟨h1,h2,h3⟩:=hf.old b hb ho;have hne:b≠g.box (Γ.n0+t):=by
   rintro rfl;rw [hB] at h1;rw [← h1] at ho;exact ho
  exact ⟨by simp [G.ow,hne,h1],h2,fun o=>by simp [G.ow,hne,h3]⟩
theorem Qbmx (t t0:Nat) {sz n:Nat} {E E' : List (Nat×V)} {L:List (Nat×Bx)} {L' : List (Nat×Bx)} {M0:Mem} {nb:Nat} {cs:List V} (ds:List D) (hM:Qb9 L t=some (.cells cs)) (hd:toDs cs=some ds) (hs0:look E t0 = .sl sz (Γ.n0+t) 0 n n)
  (hn:(Nat.beq (n*sz) ds.length&&Nat.ble n 65536)=true) {l:List (List D)} (hl:Qn2 sz n ds=l) (hE:KL Γ.n0 [t] (look E) E') (hL:KB Γ.n0 [t] L L') (hk:(L.all fun p=>[t].any (Nat.beq p.1)||L'.any fun q=>Nat.beq p.1 q.1)=true) :
  WeakSt Γ ⟨look E,Qo Γ.n0 L M0,nb⟩ ⟨look ((t0,.own sz l)::E'),Qo Γ.n0 (bxs L') M0,nb⟩:=by
 intro a w g hs;subst hl;have hwk:∀ i,WkV ((Qn7 Γ.n0 [t] ⟨look E,Qo Γ.n0 L M0,nb⟩).s.put t0 (.own sz (Qn2 sz n ds)) i) (look ((t0,.own sz (Qn2 sz n ds))::E') i):=by
  intro i;simp only [Sl.put,look];cases hb:Nat.beq i t0 with
  | true=>have:=Nat.eq_of_beq_eq_true hb;subst this;simp;exact WkV.refl _
  | false =>
   have:i≠t0:=fun e=>by subst e;simp at hb
   simp only [this,if_false,cond_false];exact hE.at i
 obtain ⟨g1,h1⟩:=Qboi (σ:=⟨look E,Qo Γ.n0 L M0,nb⟩) (t:=t) (t0:=t0) (by show Qo Γ.n0 L M0 (Γ.n0+t)=_;rw [Qcx];exact hM) hd hs0 hn a w g hs;exact Qbjl (Γ:=Γ) (sites:=[t]) (E:=E) hwk hL hk a w g1 h1
variable {pc d nb:Nat} {os:List COp} {E:List (Nat×V)} {M M0:Mem} {L:List (Nat×Bx)} {Q:St→Prop} {gd:Option (Nat×Bool)} {b:Arg} {α:Type} {e:α→List D}
theorem Rn.app0 {t u sz bytes:Nat} {ys zs:List α} {src:V} {cs:List V} (hw:Wn E gd) (ha:look E t = .sl sz (Γ.n0+u) 0 0 0) (hM:Qb9 L u=some (.cells cs)) (hb:b.val (look E)=src) (hf:src.dem=src) (hs:Qjk (Qo Γ.n0 L M0) sz src=some (ys.map e)) (hx:appO ([]:List α) ys=some zs) (hbd:(Nat.ble bytes 128&&Nat.ble 1 sz)=true)
  (h:Rn Γ pc os ⟨look ((d,.own sz (zs.map e))::E),Qo Γ.n0 L M0,nb⟩ Q):Rn Γ pc (⟨some d,.append sz bytes,[.t t,b],true,gd⟩::os) ⟨look E,Qo Γ.n0 L M0,nb⟩ Q:=by
 unfold appO at hx;split at hx<;>cases hx;rename_i hl;simp only [Bool.and_eq_true] at hbd;have h1:=Nat.le_of_ble_eq_true hbd.1;have h2:0<sz:=Nat.le_of_ble_eq_true hbd.2;have hm:[Arg.t t,b].map (fun x=>x.val (look E))=[V.sl sz (Γ.n0+u) 0 0 0,src]:=by
  simp only [List.map_cons,List.map_nil,hb];rw [show (Arg.t t).val (look E)=_ from ha]
 have he:Qjk (Qo Γ.n0 L M0) sz (.sl sz (Γ.n0+u) 0 0 0)=some []:=by simp [Qjk,Q5 hM,toDs,Qn2]
 refine Rn.kT hw rfl rfl (v:=.own sz (([]++ys).map e)) ?_ (fun i=>?_) h
 ·rw [hm];simp only [Qn,he,hs];by_cases hy:(ys.map e).length=0
  ·have:ys=[]:=by simpa using hy
   subst this;simp
  ·simp only [hy,if_false];simp [h1,h2] at hl ⊢;exact hl
 ·rw [hm];simp only [Qbu,hf,show (V.sl sz (Γ.n0+u) 0 0 0).dem = .sl sz (Γ.n0+u) 0 0 0 from rfl,Q7,show ∀ s v,(Arg.t t).putTo s v=s.put t v from fun _ _=>rfl];have hz:∀ (a:Arg) (v:V) (s:Sl),a.val s=v→a.putTo s v=s:=by
   intro a v s hs;cases a with
   | c v=>rfl
   | t j =>
    simp only [Arg.val] at hs;funext i;simp only [Arg.putTo,Sl.put];split
    ·rename_i e;subst e;exact hs.symm
    ·rfl
  have e1:(look E).put t (.sl sz (Γ.n0+u) 0 0 0)=look E:=hz (.t t) _ _ ha;rw [e1,hz b src _ hb,Qdc]
end Go.Abs
namespace Go.Abs
open Go
theorem WkV.nilsO (sz:Nat):WkV (.nils sz) (.own sz []):=⟨fun g w ℓ u h=>by
 simp only [RV] at h;simp only [RV];exact .inl ⟨h,trivial⟩,fun _ _=>trivial⟩
theorem WkV.nilsD (sz:Nat):WkV (.nils sz) (.d (.lst sz [])):=⟨fun g w ℓ u h=>by
 simp only [RV] at h ⊢;obtain ⟨a,rfl⟩:=h;simp [RD],fun _ _=>trivial⟩
theorem WkVs.rf {g:G} {w:World} {vs vs' : List V} (h:WkVs vs vs'):∀ {us:List Value},RFs g w vs us→RFs g w vs' us:=by
 induction h with
 | nil=>exact fun h=>h
 | cons h t ih =>
  rintro us ⟨u,us',e,h1,h2⟩;exact ⟨u,us',e,fun ℓ=>h.rd _ _ _ _ (h1 ℓ),ih h2⟩
theorem ACalls.weak {P:Program} {f:FuncId} {args args' : List V} {M M' : Mem} {nb nb' : Nat} {r:V} (h:ACalls P f args' M nb r M' nb') (hw:WkVs args args') (hf:V.dems args'=args'):ACalls P f args M nb r M' nb':=by
 refine ⟨h.1,h.2.1,fun w g us hm hMon hfr hus hfl hons=>h.2.2 w g us hm hMon hfr (hw.rf hus) (fun x hx=>?_) (hw.on _ hons)⟩;rw [← hf] at hx;exact Qhq x hx
end Go.Abs
end
section
namespace Go.Abs
open Go
variable {α:Type}
def Q3 (g:α→List V) (xs:List α):List V:=(xs.map g).flatten
theorem Qgd (g:α→List V) (x:α) (xs:List α):Q3 g (x::xs)=g x++Q3 g xs:=by simp [Q3]
theorem Q2v {g:α→List V} {sz:Nat} (hg:∀ x,(g x).length=sz):∀ xs:List α,(Q3 g xs).length=xs.length*sz
 | []=>by simp [Q3]
 | x::xs=>by rw [Qgd,List.length_append,hg,Q2v hg xs,List.length_cons,Nat.add_mul];omega
theorem Qbam {g:α→List V} {sz:Nat} (hg:∀ x,(g x).length=sz):∀ (xs:List α) (i:Nat),i≤xs.length→(Q3 g xs).drop (i*sz)=Q3 g (xs.drop i)
 | xs,0,_=>by simp
 | [],i+1,h=>by simp at h
 | x::xs,i+1,h=>by
  rw [Qgd,Nat.add_mul,Nat.add_comm,Nat.one_mul,← List.drop_drop,show (g x++Q3 g xs).drop sz=Q3 g xs from by rw [← hg x];simp];rw [Qbam hg xs i (by simpa using h)]
  rfl
theorem Qbeo {g:α→List V} {sz:Nat} (hg:∀ x,(g x).length=sz):∀ (xs:List α) (i:Nat),i≤xs.length→(Q3 g xs).take (i*sz)=Q3 g (xs.take i)
 | xs,0,_=>by simp [Q3]
 | [],i+1,h=>by simp at h
 | x::xs,i+1,h=>by
  rw [Qgd,Nat.add_mul,Nat.add_comm,Nat.one_mul,List.take_append,hg x];have h1:(g x).take (sz+i*sz)=g x:=by rw [List.take_of_length_le];rw [hg x];omega
  rw [h1,show sz+i*sz-sz=i*sz from by omega,Qbeo hg xs i (by simpa using h),List.take_succ_cons,Qgd]
theorem Qbmy {g:α→List V} {sz:Nat} (hg:∀ x,(g x).length=sz) {xs:List α} {i:Nat} {x:α} (hx:xs[i]? = some x):((Q3 g xs).drop (i*sz)).take sz=g x:=by
 obtain ⟨hlt,hx⟩:=List.getElem?_eq_some_iff.1 hx;rw [Qbam hg xs i (by omega),List.drop_eq_getElem_cons hlt,Qgd,hx,← hg x];simp
theorem Qbmz {g:α→List V} {sz:Nat} (hg:∀ x,(g x).length=sz) {xs:List α} {i:Nat} (y:α) (hi:i<xs.length):(Q3 g xs).take (i*sz)++g y++(Q3 g xs).drop (i*sz+sz)=Q3 g (xs.set i y):=by
 rw [Qbeo hg xs i (by omega),show i*sz+sz=(i+1)*sz from by rw [Nat.add_mul,Nat.one_mul],Qbam hg xs (i+1) (by omega)];rw [List.set_eq_take_append_cons_drop,if_pos hi];simp [Q3]
theorem Qbm0 (g:α→List V) (x:α) (n:Nat):Q3 g (List.replicate n x)=rep n (g x):=by simp [Q3,rep]
def mkO (n:Int) (x:α):Option (List α):=if 0≤n∧n≤lim then some (List.replicate n.toNat x) else none
def inO (len:Nat) (i:Int):Option Unit:=if 0≤i∧i<len then some () else none
def setO (l:List α) (i:Int) (y:α):Option (List α):=if 0≤i∧i.toNat<l.length then some (l.set i.toNat y) else none
variable {Γ:Env} {pc d nb:Nat} {os:List COp} {E:List (Nat×V)} {M M0:Mem} {L:List (Nat×Bx)} {Q:St→Prop} {gd:Option (Nat×Bool)} {a b:Arg} {g:α→List V} {xs:List α} {sz:Nat}
theorem Rn.makes {bytes:Nat} {z:List V} {n:Int} {x:α} (hw:Wn E gd) (ha:a.val (look E) = .d (.int .i64 n)) (hb:b.val (look E) = .d (.int .i64 n)) (hf:(Qb9 L d).isNone=true) (hz:g x=z) (hc:(Nat.ble bytes 128&&Nat.beq z.length sz&&Nat.ble 1 sz)=true) (hx:mkO n x=some xs)
  (h:Rn Γ pc os ⟨look ((d,.sl sz (Γ.n0+d) 0 n.toNat n.toNat)::E),Qo Γ.n0 ((d,.cells (Q3 g xs))::L) M0,nb⟩ Q):Rn Γ pc (⟨some d,.makes sz bytes z,[a,b],false,gd⟩::os) ⟨look E,Qo Γ.n0 L M0,nb⟩ Q:=by
 unfold mkO at hx;split at hx<;>cases hx;rename_i hn;simp only [Bool.and_eq_true] at hc;have h1:=Nat.le_of_ble_eq_true hc.1.1;have h2:z.length=sz:=Nat.eq_of_beq_eq_true hc.1.2;have h3:0<sz:=Nat.le_of_ble_eq_true hc.2;refine Rn.k hw rfl rfl ?_ h;simp only [List.map_cons,List.map_nil,V.dems,ha,hb,V.dem,Qn];have hfr:=Qtr (Γ:=Γ) (M0:=M0) hf;rw [if_pos (by simp [hn.1,hn.2,h1,h2,h3,hfr]),Qeb,Qbm0,hz]
theorem Rn.idxA {k len cap:Nat} {kk:IntKind} {i:Int} (hw:Wn E gd) (ha:(a.val (look E)).dem = .sl sz k 0 len cap) (hb:b.val (look E) = .d (.int kk i)) (hx:inO len i=some ()) (h:Rn Γ pc os ⟨look ((d,.ptr k (0+i.toNat*sz))::E),M,nb⟩ Q) :
  Rn Γ pc (⟨some d,.idx sz,[a,b],false,gd⟩::os) ⟨look E,M,nb⟩ Q:=by
 unfold inO at hx;split at hx<;>cases hx;rename_i hc;refine Rn.k hw rfl rfl ?_ h;simp [ha,hb,V.dems,V.dem,Qn,hc.1,hc.2]
theorem Rn.lenA {k off len cap:Nat} (hw:Wn E gd) (ha:(a.val (look E)).dem = .sl sz k off len cap) (h:Rn Γ pc os ⟨look ((d,.d (.int .i64 len))::E),M,nb⟩ Q):Rn Γ pc (⟨some d,.len,[a],false,gd⟩::os) ⟨look E,M,nb⟩ Q:=by
 refine Rn.k hw rfl rfl ?_ h;simp [ha,V.dems,Qn]
theorem Rn.loadA {k f n:Nat} {ag:Bool} {i:Int} {x:α} {v:V} (hg:∀ x,(g x).length=sz) (hw:Wn E gd) (ha:a.val (look E) = .ptr k (0+i.toNat*sz+f)) (hM:M k=some (.cells (Q3 g xs))) (hx:getO xs i=some x) (hn:Nat.ble (f+max n 1) sz=true)
  (hv:(if ag then some (.agg (V.dems (((g x).drop f).take n))) else ((g x)[f]?).map (·.dem))=some v) (h:Rn Γ pc os ⟨look ((d,v)::E),M,nb⟩ Q):Rn Γ pc (⟨some d,.load ag n,[a],false,gd⟩::os) ⟨look E,M,nb⟩ Q:=by
 have hn:=Nat.le_of_ble_eq_true hn;unfold getO at hx;split at hx<;>try (cases hx;done)
 obtain ⟨hlt,hx'⟩:=List.getElem?_eq_some_iff.1 hx;have hl:=Q2v hg xs;have hge:=Qbmy hg hx;have hb:i.toNat*sz+sz≤xs.length*sz:=by
  rw [show i.toNat*sz+sz=(i.toNat+1)*sz from by rw [Nat.add_mul,Nat.one_mul]];exact Nat.mul_le_mul_right _ hlt
 refine Rn.k hw rfl rfl ?_ h;simp only [List.map_cons,List.map_nil,V.dems,ha,V.dem,Qn,hM];rw [if_pos (by rw [hl];omega)];have hdrop:(Q3 g xs).drop (0+i.toNat*sz+f)=((Q3 g xs).drop (i.toNat*sz)).drop f:=by rw [List.drop_drop];congr 1;omega
 cases ag with
 | true =>
  simp only [if_true,Option.some.injEq] at hv ⊢;rw [← hv,← hge,hdrop,List.drop_take,List.take_take];have:min n (sz-f)=n:=by omega
  rw [this]
 | false =>
  simp only [Bool.false_eq_true,if_false] at hv ⊢;have:(Q3 g xs)[0+i.toNat*sz+f]? = (g x)[f]?:=by
   rw [← hge,List.getElem?_take,if_pos (by omega),List.getElem?_drop];congr 1;omega
  rw [this];rw [Option.map_eq_some_iff] at hv;obtain ⟨y,hy,rfl⟩:=hv;rw [hy];rfl
theorem Rn.storeA {t:Nat} {i:Int} {y:α} {ys:List α} {v:V} (hg:∀ x,(g x).length=sz) (hw:Wn E gd) (ha:a.val (look E) = .ptr (Γ.n0+t) (0+i.toNat*sz)) (hb:(b.val (look E)).dem=v) (hv:Qfm v=true) (hM:Qb9 L t=some (.cells (Q3 g xs))) (hc:v.cells=g y)
  (hx:setO xs i y=some ys) (h:Rn Γ pc os ⟨look E,Qo Γ.n0 ((t,.cells (Q3 g ys))::L) M0,nb⟩ Q):Rn Γ pc (⟨none,.store sz,[a,b],false,gd⟩::os) ⟨look E,Qo Γ.n0 L M0,nb⟩ Q:=by
 unfold setO at hx;split at hx<;>cases hx;rename_i hi;have hl:=Q2v hg xs;have hb2:i.toNat*sz+sz≤xs.length*sz:=by
  rw [show i.toNat*sz+sz=(i.toNat+1)*sz from by rw [Nat.add_mul,Nat.one_mul]];exact Nat.mul_le_mul_right _ hi.2
 refine Rn.store (cs':=Q3 g (xs.set i.toNat y)) hw ha hb hv hM ?_ ?_ h
 ·rw [hc,hg,hl];simp only [Bool.and_eq_true];exact ⟨by simp,Nat.ble_eq_true_of_le (by omega)⟩
 ·rw [hc,Nat.zero_add];exact Qbmz hg y hi.2
theorem Qbrn {f:V→V} (h:∀ x,(g x).map f=g x):WkVs ((Q3 g xs).map f) (Q3 g xs):=by
 refine .same ?_;unfold Q3;rw [List.map_flatten,List.map_map];congr 1;exact List.map_congr_left fun x _=>h x
def lenO (l:List α) (n:Nat):Option Unit:=if l.length=n then some () else none
theorem Qed {l:List α} {n:Nat} (h:lenO l n=some ()):l.length=n:=by
 unfold lenO at h;split at h
 ·assumption
 ·cases h
theorem Qbc3:∀ {a b:List V} {x y:List D},toDs a=some x→toDs b=some y→toDs (a++b)=some (x++y)
 | [],b,x,y,h,k=>by simp [toDs] at h;subst h;simpa using k
 | v::a,b,x,y,h,k=>by
  simp only [toDs] at h;split at h<;>try (cases h;done)
  rename_i d ds hd hds;cases h;simp only [List.cons_append,toDs,hd,Qbc3 hds k]
theorem Q4w {e:α→List D} (h:∀ x,toDs (g x)=some (e x)):∀ xs:List α,toDs (Q3 g xs)=some ((xs.map e).flatten)
 | []=>rfl
 | x::xs=>by rw [Qgd,List.map_cons,List.flatten_cons];exact Qbc3 (h x) (Q4w h xs)
theorem Qzh {e:α→List D} {sz:Nat} (h:∀ x,(e x).length=sz):∀ xs:List α,Qn2 sz xs.length ((xs.map e).flatten)=xs.map e
 | []=>rfl
 | x::xs=>by
  simp only [List.length_cons,Qn2,List.map_cons,List.flatten_cons];have h1:(e x++(xs.map e).flatten).take sz=e x:=by rw [← h x];simp
  have h2:(e x++(xs.map e).flatten).drop sz=(xs.map e).flatten:=by rw [← h x];simp
  rw [h1,h2,Qzh h xs]
theorem Qzi {e:α→List D} {sz:Nat} (h:∀ x,(e x).length=sz):∀ xs:List α,((xs.map e).flatten).length=xs.length*sz
 | []=>by simp
 | x::xs=>by simp only [List.map_cons,List.flatten_cons,List.length_append,h,Qzi h xs,List.length_cons,Nat.add_mul];omega
theorem fSlA {n0 t n:Nat} {e:α→List D} {xs:List α} (h:∀ x,(e x).length=sz) (hn:xs.length=n):WkV (frzV (n0+t) ((xs.map e).flatten) (.sl sz (n0+t) 0 n n)) (.d (.lst sz (xs.map e))):=by
 subst hn;have h1:=Qzi h xs;have h2:((xs.map e).flatten.drop 0).take (xs.length*sz)=(xs.map e).flatten:=by rw [List.drop_zero,List.take_of_length_le (by omega)]
 simp only [frzV,if_true];rw [if_pos ⟨by omega,Nat.le_refl _⟩,h2,Qzh h xs];exact Qbmu
end Go.Abs
end
section
namespace Go.Abs
open Go
def Q6w:D→Bool
 | .lst _ l=>l.isEmpty
 | .mp ..=>false
 | _=>true
def Qqu (l:List (List D)):Bool:=l.all fun x=>x.all Q6w
def Qf6:V→Bool
 | .d x=>Q6w x
 | .own _ l=>Qqu l
 | .ownT _ l=>Qqu l
 | .cref cs=>cs.isEmpty
 | .agg cs=>go cs
 | .tup vs=>go vs
 | .clo _ vs=>go vs
 | _=>true
where go:List V→Bool
 | []=>true
 | v::vs=>Qf6 v&&go vs
theorem Qbjo:∀ vs:List V,Qf6.go vs=true↔∀ v∈vs,Qf6 v=true
 | []=>by simp [Qf6.go]
 | v::vs=>by simp [Qf6.go,Qbjo vs]
def Qbbf:List (V×V×Nat)→Prop
 | []=>True
 | x::r=>Qf6 x.1=true∧Qf6 x.2.1=true∧Qbbf r
theorem Qbfx {imm imm' : Nat→Nat→Prop} {w:World} {x:D} {u:Value} (hp:Q6w x=true) (h:RD imm w x u):RD imm' w x u:=by
 cases x with
 | int k n=>simpa [RD] using h
 | bool b=>simpa [RD] using h
 | str s=>simpa [RD] using h
 | lst sz l =>
  simp only [Q6w,List.isEmpty_iff] at hp;subst hp;simp only [RD] at h ⊢;obtain ⟨a,cap,h1,h2,_⟩:=h;exact ⟨a,cap,h1,h2,.inl trivial⟩
 | mp es c=>cases hp
theorem Qbg4 {imm imm' : Nat→Nat→Prop} {w:World} {b:Nat} (hi:∀ o,imm b o→imm' b o):∀ {xs:List D} {o:Nat},xs.all Q6w=true→RDc imm w b xs o→RDc imm' w b xs o
 | [],_,_,_=>by simp [RDc]
 | x::xs,o,hp,h=>by
  simp only [List.all_cons,Bool.and_eq_true] at hp;simp only [RDc] at h ⊢;obtain ⟨h1,⟨u,h2,h3⟩,h4⟩:=h;exact ⟨hi _ h1,⟨u,h2,Qbfx hp.1 h3⟩,Qbg4 hi hp.2 h4⟩
theorem Q82 {imm imm' : Nat→Nat→Prop} {w:World} {sz b:Nat} (hi:∀ o,imm b o→imm' b o):∀ {l:List (List D)} {o:Nat},Qqu l=true→RDL imm w sz b l o→RDL imm' w sz b l o
 | [],_,_,_=>by simp [RDL]
 | x::l,o,hp,h=>by
  simp only [Qqu,List.all_cons,Bool.and_eq_true] at hp;simp only [RDL] at h ⊢;exact ⟨h.1,Qbg4 hi hp.1 h.2.1,Q82 hi (by simpa [Qqu] using hp.2) h.2.2⟩
theorem Qbjp {imm:Nat→Nat→Prop} {w:World} {sz b:Nat}:∀ {l:List (List D)} {o:Nat},RDL imm w sz b l o→l.flatten.length=l.length*sz∧∀ (j:Nat) y,l.flatten[j]? = some y→∃ u,w.cell? ⟨b,o+j,none⟩=some u∧RD imm w y u
 | [],o,_=>by simp
 | x::l,o,h=>by
  simp only [RDL] at h;obtain ⟨h1,h2,h3⟩:=h;obtain ⟨h4,h5⟩:=Qbjp h3;refine ⟨by simp [h1,h4,Nat.add_mul];omega,fun j y hj=>?_⟩;simp only [List.flatten_cons] at hj;by_cases hlt:j<x.length
  ·rw [List.getElem?_append_left hlt] at hj;obtain ⟨_,u,h6,h7⟩:=Q2n h2 j y hj;exact ⟨u,h6,h7⟩
  ·rw [List.getElem?_append_right (by omega)] at hj;obtain ⟨u,h6,h7⟩:=h5 _ y hj;exact ⟨u,by rw [show o+j=o+sz+(j-x.length) from by omega];exact h6,h7⟩
def G.th (g:G) (b κ:Nat) [DecidablePred fun b'=>b'=b]:G:=⟨fun k=>if k=κ then b else g.box k,fun b' o=>g.imm b' o∧b' ≠ b,fun b'=>if b'=b then .box κ else g.own b'⟩
section
variable {g:G} {w:World} {b κ:Nat} {keep:Owner→Prop} (hB:¬ keep (g.own b)) (hs:∀ ℓ i,keep ℓ→keep (ℓ.sub i)) (he:keep .ext)
include hB hs he
mutual
theorem Qbks [DecidablePred fun b'=>b'=b]:∀ (v:V) (ℓ:Owner) (u:Value),Qf6 v=true→v.on (· ≠ κ)→keep ℓ→RV g w v ℓ u→RV (g.th b κ) w v ℓ u
 | .und,_,_,_,_,_,_=>by simp [RV]
 | .d x,_,_,hp,_,_,h=>by
  simp only [RV,Qf6] at hp h ⊢;exact Qbfx hp h
 | .agg cs,ℓ,u,hp,ho,hl,h=>by
  simp only [RV,Qf6] at hp h ⊢;obtain ⟨vs,rfl,h,h1⟩:=h;exact ⟨vs,rfl,RVs_th cs ℓ 0 vs hp ho hl h,h1⟩
 | .tup cs,ℓ,u,hp,ho,hl,h=>by
  simp only [RV,Qf6] at hp h ⊢;obtain ⟨vs,rfl,h⟩:=h;exact ⟨vs,rfl,RVs_th cs ℓ 0 vs hp ho hl h⟩
 | .own sz l,ℓ,u,hp,ho,hl,h=>by
  simp only [RV,Qf6] at hp h ⊢;rcases h with h|⟨b',cap,vals,e,h1,h2,h3,h4,h5,h6,h7,h8⟩
  ·exact .inl h
  ·have hne:b' ≠ b:=by rintro rfl;rw [h2] at hB;exact hB hl
   refine .inr ⟨b',cap,vals,e,h1,by simp [G.th,hne,h2],h3,h4,h5,h6,fun o=>?_,Q82 (fun o ho=>⟨ho,hne⟩) hp h8⟩;rw [← h7 o];simp [G.th,hne]
 | .ownT sz l,ℓ,u,hp,ho,hl,h=>by
  simp only [RV,Qf6] at hp h ⊢;rcases h with h|⟨b',o0,cap,vals,e,h1,h2,h3,h4,h5,h6,h7,h8⟩
  ·exact .inl h
  ·have hne:b' ≠ b:=by rintro rfl;rw [h2] at hB;exact hB hl
   refine .inr ⟨b',o0,cap,vals,e,h1,by simp [G.th,hne,h2],h3,h4,h5,h6,fun o=>?_,Q82 (fun o ho=>⟨ho,hne⟩) hp h8⟩;rw [← h7 o];simp [G.th,hne]
 | .ptr k' o,ℓ,u,_,ho,hl,h=>by
  have:k' ≠ κ:=ho;simpa [RV,G.th,this] using h
 | .nilp,_,_,_,_,_,h=>by simpa [RV] using h
 | .f x,_,u,_,_,_,h=>by
  simp only [RV] at h ⊢;refine Qfq (Qbi1 (g:=g) (g':=g.th b κ) fun b' o h1 h2=>?_) x u h;have hne:b' ≠ b:=by rintro rfl;rw [h2] at hB;exact hB he
  exact ⟨⟨h1,hne⟩,by simp [G.th,hne,h2]⟩
 | .nils _,_,_,_,_,_,h=>by simpa [RV] using h
 | .cref cs,ℓ,u,hp,_,hl,h=>by
  simp only [Qf6,List.isEmpty_iff] at hp;subst hp;simp only [RV] at h ⊢;obtain ⟨b',o,rfl,_⟩:=h;exact ⟨b',o,rfl,by simp [RDc]⟩
 | .sl sz k' o n c,ℓ,u,_,ho,hl,h=>by
  have:k' ≠ κ:=ho;simpa [RV,G.th,this] using h
 | .clo f cs,ℓ,u,hp,ho,hl,h=>by
  simp only [RV,Qf6] at hp h ⊢;obtain ⟨vs,rfl,h⟩:=h;exact ⟨vs,rfl,RVs_th cs .ext 0 vs hp ho he h⟩
 | .mp k',ℓ,u,_,ho,hl,h=>by
  have:k' ≠ κ:=ho;simpa [RV,G.th,this] using h
theorem RVs_th [DecidablePred fun b'=>b'=b]:∀ (cs:List V) (ℓ:Owner) (i:Nat) (us:List Value),Qf6.go cs=true→V.ons (· ≠ κ) cs→keep ℓ→RVs g w cs ℓ i us→RVs (g.th b κ) w cs ℓ i us
 | [],_,_,_,_,_,_,h=>by simpa [RVs] using h
 | c::cs,ℓ,i,us,hp,ho,hl,h=>by
  simp only [Qf6.go,Bool.and_eq_true] at hp;simp only [RVs] at h ⊢;obtain ⟨u,us',rfl,h1,h2⟩:=h;exact ⟨u,us',rfl,Qbks c (ℓ.sub i) u hp.1 ho.1 (hs _ _ hl) h1,RVs_th cs ℓ (i+1) us' hp.2 ho.2 hl h2⟩
end
end
theorem Qbqe {g:G} {w:World} {b κ:Nat} {keep:Owner→Prop} [DecidablePred fun b'=>b'=b] (hB:¬ keep (g.own b)) (hs:∀ ℓ i,keep ℓ→keep (ℓ.sub i)) (he:keep .ext) {k:Nat} (hk:∀ i,keep (.cell k i)):∀ {es:List (V×V×Nat)} {ents:List MapEntry},Qbbf es→RM g w k es ents→RM (g.th b κ) w k es ents
 | [],_,_,hr=>hr
 | x::r,_,hp,hr=>by
  simp only [RM] at hr ⊢;obtain ⟨e,t,rfl,⟨a1,a2⟩,⟨b1,b2⟩,h3,h4⟩:=hr;exact ⟨e,t,rfl,⟨a1,Qbks hB hs he _ _ _ hp.1 (Q2l a1) he a2⟩,⟨b1,Qbks hB hs he _ _ _ hp.2.1 (Qbr3 b1) (hk _) b2⟩,h3,Qbqe hB hs he hk hp.2.2 h4⟩
variable {Γ:Env} {σ:St}
def Qc1 (l:List (List D)) (room:Nat):List V:=l.flatten.map V.d++List.replicate room .und
structure Lone (Γ:Env):Prop where
 prot:∀ b,Prot (Γ.g0.own b)
 imm:∀ b o,Γ.g0.imm b o→b<Γ.w0.heap.size
theorem Lone.old {Γ:Env} (h:Lone Γ) {g:G} {w:World} (hf:Fr Γ.n0 Γ.g0 Γ.w0 g w) {b:Nat} (hb:¬ Prot (g.own b)):¬ b<Γ.w0.heap.size:=by
 intro hlt;obtain ⟨h1,_,_⟩:=hf.old b hlt (h.prot b);rw [h1] at hb;exact hb (h.prot b)
open Classical in
theorem Qbg5 (hG:Lone Γ) {a:Act} {w:World} {g:G} (hs:SR Γ.n0 Γ.nt Γ.g0 Γ.w0 σ a w g) {κ sz:Nat} {l:List (List D)} {ℓ:Owner} {u:Value} (keep:Owner→Prop) (hkeep:¬ keep ℓ) (hsub:∀ o i,keep o→keep (o.sub i)) (he:keep .ext) (hℓ:¬ Prot ℓ)
  (hown:RV g w (.own sz l) ℓ u) (hl:l≠[]) (hpl:Qqu l=true) (hκ:Γ.n0≤κ) (hκ2:κ<σ.nb) (hκM:σ.M κ=none) :
  ∃ c b,l.length≤c∧c≤maxLen∧u = .slice (some ⟨b,0,none⟩) l.length c∧g.own b=ℓ∧(g.th b κ).box κ=b∧BR (g.th b κ) w κ (.cells (Qc1 l ((c-l.length)*sz)))∧Fr Γ.n0 Γ.g0 Γ.w0 (g.th b κ) w ∧
   (∀ b' o,(g.th b κ).imm b' o→b'<w.heap.size∧∀ k,(g.th b κ).own b' ≠ .box k)∧∀ k,There σ.M k→k≠κ:=by
 simp only [RV] at hown;rcases hown with ⟨_,h⟩|⟨b,cap,vals,e,rfl,hb,hh,h4,h5,⟨h6,h6'⟩,h7,h8⟩
 ·exact absurd h hl
 have hnp:¬ Prot (g.own b):=by rw [hb];exact hℓ
 have hnew:=hG.old hs.fr hnp;have hk' : ¬ keep (g.own b):=by rw [hb];exact hkeep
 refine ⟨cap,b,h4,h5,rfl,hb,by simp [G.th],⟨vals.toList,e,by simpa [G.th] using hh,?_,h6'⟩,?_,?_,?_⟩
 ·have h8' : RDL (g.th b κ).imm w sz b l 0→False∨True:=fun _=>.inr trivial;obtain ⟨hfl,hfg⟩:=Qbjp h8;have hlen:vals.toList.length=(Qc1 l ((cap-l.length)*sz)).length:=by
   simp only [Qc1,List.length_append,List.length_map,List.length_replicate,hfl,Array.length_toList,h6];rw [← Nat.add_mul];congr 1;omega
  refine (Qc6 _ _ _ _).2 ⟨hlen,fun j c x hc hx=>?_⟩;simp only [Qc1] at hc;by_cases hj:j<l.flatten.length
  ·rw [List.getElem?_append_left (by rw [List.length_map];exact hj),List.getElem?_map] at hc;obtain ⟨y,hy,rfl⟩:=Option.map_eq_some_iff.1 hc;obtain ⟨x',hx1,hx2⟩:=hfg j y hy;have hcell:w.cell? ⟨b,0+j,none⟩=vals[j]?:=by simp [World.cell?,hh]
   rw [hcell] at hx1;have:x=x':=by
    have h9:vals[j]? = some x:=by simpa using hx
    rw [h9] at hx1;exact Option.some.inj hx1
   subst this;have hmem:y∈l.flatten:=List.mem_of_getElem? hy;obtain ⟨r,hr1,hr2⟩:=List.mem_flatten.1 hmem;have hp:Q6w y=true:=List.all_eq_true.1 (List.all_eq_true.1 hpl r hr1) y hr2;simp only [RV];exact Qbfx hp hx2
  ·rw [List.getElem?_append_right (by rw [List.length_map];omega)] at hc;have:c = .und:=by
    have:=List.mem_of_getElem? hc;exact (List.mem_replicate.1 this).2
   subst this;simp [RV]
 ·have hf:=hs.fr;refine ⟨hf.os,hf.tape,hf.output,hf.size,⟨fun b' o hi=>⟨hf.imm.mono b' o hi,?_⟩,hf.imm.look⟩,fun k hk=>?_,fun b' hb' ho=>?_⟩
  ·rintro rfl;exact hnew (hG.imm _ _ hi)
  ·have:k≠κ:=by omega
   simp only [G.th,this,if_false];exact hf.box k hk
  ·have hne:b' ≠ b:=by rintro rfl;exact hnew hb'
   obtain ⟨k1,k2,k3⟩:=hf.old b' hb' ho;exact ⟨by simp [G.th,hne,k1],k2,fun o=>by simp [G.th,hne,k3]⟩
 ·rintro b' o ⟨hi,hne⟩;obtain ⟨k1,k2⟩:=hs.mem.imm b' o hi;exact ⟨k1,fun k=>by simp only [G.th,hne,if_false];exact k2 k⟩
 ·rintro k hk rfl;simp [There,hκM] at hk
theorem Qbro {M:Mem} {κ:Nat} (hκ:∀ k,There M k→k≠κ) {v:V} (h:v.on fun k=>(M k).isSome=true):v.on (· ≠ κ):=Qf8 (fun k hk=>hκ k hk) v h
open Classical in
theorem Tr.thawS {cc:CC} {Q:Ex→St→Prop} (hG:Lone Γ) {t κ sz:Nat} {l:List (List D)} (hl:l≠[]) (hpl:Qqu l=true) (hs0:σ.s t = .own sz l) (hκ:Γ.n0≤κ) (hκ2:κ<σ.nb) (hκM:σ.M κ=none)
  (hps:∀ t',t' ≠ t→Qf6 (σ.s t')=true) (hpm:∀ k cs,σ.M k=some (.cells cs)→Qf6.go cs=true) (hpn:∀ k es c,σ.M k=some (.mp es c)→Qbbf es)
  (h:∀ c,l.length≤c→c≤maxLen→Tr Γ cc ⟨σ.s.put t (.sl sz κ 0 l.length c),σ.M.put κ (.cells (Qc1 l ((c-l.length)*sz))),σ.nb⟩ Q):Tr Γ cc σ Q:=by
 intro code hcode a w g hs;have hslot:=hs.slots t;rw [hs0] at hslot;have hsub:∀ (o:Owner) i,o ≠ .slot t []→o.sub i ≠ .slot t []:=by intro o i ho;cases o<;>simp_all [Owner.sub]
 obtain ⟨c,b,h1,h2,hu,hb,hbox,hbr,hfr,himm,hne⟩:=Qbg5 hG hs (fun o=>o ≠ .slot t []) (by simp) hsub (by simp) (by simp [Prot]) hslot hl hpl hκ hκ2 hκM;have hk' : ¬ (fun o=>o≠Owner.slot t []) (g.own b):=by simp [hb]
 refine h c h1 h2 code hcode a w (g.th b κ) ⟨⟨fun k bx hk=>?_,himm⟩,fun t'=>?_,hs.size,hs.defers,fun t'=>?_,fun k cs hk=>?_,hs.top,hfr⟩
 ·replace hk:(σ.M.put κ (.cells (Qc1 l ((c-l.length)*sz)))) k=some bx:=hk;by_cases hkk:k=κ
  ·subst hkk;rw [Qhh] at hk;cases hk;exact ⟨hκ2,by rw [hbox];simp [G.th],hbr⟩
  ·rw [Qcu _ _ hkk] at hk;obtain ⟨k1,k2,k3⟩:=hs.mem.box k bx hk;have hbx:(g.th b κ).box k=g.box k:=by simp [G.th,hkk]
   have hne' : g.box k≠b:=by
    rintro rfl;rw [k2] at hb;cases hb
   refine ⟨k1,by rw [hbx];simp [G.th,hne',k2],?_⟩;cases bx with
   | mp es c =>
    obtain ⟨ents,q1,q2⟩:=k3;exact ⟨ents,by rw [hbx];exact q1,Qbqe hk' hsub (by simp) (fun _=>by simp) (hpn k es c hk) q2⟩
   | cells cs =>
    obtain ⟨vals,e,q1,q2,q3⟩:=k3;refine ⟨vals,e,by rw [hbx];exact q1,RVs_th hk' hsub (by simp) cs (.box k) 0 vals (hpm k cs hk) ?_ (by simp) q2,q3⟩;exact ons_mono (fun j hj=>hne j hj) _ (hs.onM k cs hk).1
 ·simp only [Sl.put];split
  ·rename_i he;subst he;simp only [RV];rw [hbox];exact hu
  ·rename_i hne2;refine Qbks hk' hsub (by simp) _ _ _ (hps t' hne2) (Qbro hne (hs.onS t')) ?_ (hs.slots t');simp;exact hne2
 ·simp only [Sl.put];split
  ·show There _ κ;exact There.self
  ·exact Qf8 (fun k hk=>There.put hk) _ (hs.onS t')
 ·replace hk:(σ.M.put κ (.cells (Qc1 l ((c-l.length)*sz)))) k=some (.cells cs):=hk;by_cases hkk:k=κ
  ·subst hkk;rw [Qhh] at hk;cases hk;have hno:∀ p:Nat→Prop,V.ons p (Qc1 l ((c-l.length)*sz)):=by
    intro p;rw [Qht];intro v hv;simp only [Qc1,List.mem_append,List.mem_map,List.mem_replicate] at hv;rcases hv with ⟨x,_,rfl⟩|⟨_,rfl⟩<;>trivial
   exact ⟨hno _,fun _=>hno _⟩
  ·rw [Qcu _ _ hkk] at hk;obtain ⟨q1,q2⟩:=hs.onM k cs hk;exact ⟨ons_mono (fun j hj=>There.put hj) _ q1,q2⟩
open Classical in
theorem Tr.thawC {cc:CC} {Q:Ex→St→Prop} (hG:Lone Γ) {k0 i κ sz:Nat} {l:List (List D)} {cs0:List V} (hl:l≠[]) (hpl:Qqu l=true) (hk0:Γ.n0≤k0) (hM0:σ.M k0=some (.cells cs0)) (hi:cs0[i]? = some (.own sz l)) (hκ:Γ.n0≤κ) (hκ2:κ<σ.nb) (hκM:σ.M κ=none)
  (hps:∀ t',Qf6 (σ.s t')=true) (hpm:∀ k cs,σ.M k=some (.cells cs)→Qf6.go (if k=k0 then cs.set i .und else cs)=true) (hpn:∀ k es c,σ.M k=some (.mp es c)→Qbbf es)
  (h:∀ c,l.length≤c→c≤maxLen→Tr Γ cc ⟨σ.s,(σ.M.put k0 (.cells (cs0.set i (.sl sz κ 0 l.length c)))).put κ (.cells (Qc1 l ((c-l.length)*sz))),σ.nb⟩ Q):Tr Γ cc σ Q:=by
 intro code hcode a w g hs;obtain ⟨u0,hcell,hrv0,_⟩:=Q4o hs.mem hM0 hi;have hsub:∀ (o:Owner) j,(o ≠ .cell k0 i∧o ≠ .box k0)→(o.sub j ≠ .cell k0 i∧o.sub j ≠ .box k0):=by
  rintro o j ⟨h1,h2⟩;cases o<;>simp_all [Owner.sub]
 have hnk:k0≠κ:=by rintro rfl;rw [hM0] at hκM;cases hκM
 obtain ⟨c,b,h1,h2,hu,hb,hbox,hbr,hfr,himm,hne⟩:=Qbg5 hG hs (fun o=>o ≠ .cell k0 i∧o ≠ .box k0) (by simp) hsub (by simp) (by simp [Prot]) hrv0 hl hpl hκ hκ2 hκM;have hk' : ¬ (fun o=>o≠Owner.cell k0 i∧o ≠ .box k0) (g.own b):=by simp [hb]
 have hther:∀ j,There σ.M j→There ((σ.M.put k0 (.cells (cs0.set i (.sl sz κ 0 l.length c)))).put κ (.cells (Qc1 l ((c-l.length)*sz)))) j:=fun j hj=>There.put (There.put hj);refine h c h1 h2 code hcode a w (g.th b κ) ⟨⟨fun k bx hk=>?_,himm⟩,fun t'=>?_,hs.size,hs.defers,fun t'=>?_,fun k cs hk=>?_,hs.top,hfr⟩
 ·replace hk:((σ.M.put k0 (.cells (cs0.set i (.sl sz κ 0 l.length c)))).put κ (.cells (Qc1 l ((c-l.length)*sz)))) k=some bx:=hk;by_cases hkk:k=κ
  ·subst hkk;rw [Qhh] at hk;cases hk;exact ⟨hκ2,by rw [hbox];simp [G.th],hbr⟩
  ·rw [Qcu _ _ hkk] at hk;have hbx:(g.th b κ).box k=g.box k:=by simp [G.th,hkk]
   by_cases hkz:k=k0
   ·subst hkz;rw [Qhh] at hk;cases hk;obtain ⟨k1,k2,vals,e,q1,q2,q3⟩:=hs.mem.box k _ hM0;have hne' : g.box k≠b:=by
     rintro rfl;rw [k2] at hb;cases hb
    refine ⟨k1,by rw [hbx];simp [G.th,hne',k2],vals,e,by rw [hbx];exact q1,(Qc6 _ _ _ _).2 ⟨?_,fun j d x hd hx=>?_⟩,q3⟩
    ·rw [List.length_set];exact Qtd q2
    ·obtain ⟨r1,r2⟩:=(Qc6 _ _ _ _).1 q2;by_cases hj:j=i
     ·subst hj;have hlt:=(List.getElem?_eq_some_iff.1 hi).1;rw [List.getElem?_set_self hlt] at hd;cases hd;have hcx:w.cell? ⟨g.box k,j,none⟩=some x:=by
       have h9:vals.toArray[j]? = some x:=by simpa using hx
       simp [World.cell?,q1];simpa using hx
      rw [hcell] at hcx;cases hcx;simp only [RV];rw [hbox];exact hu
     ·rw [List.getElem?_set_ne (Ne.symm hj)] at hd;have hpl2:=hpm k cs0 hM0;rw [if_pos rfl,Qbjo] at hpl2;have hmem:d∈cs0.set i .und:=by
       have:(cs0.set i .und)[j]? = some d:=by rw [List.getElem?_set_ne (Ne.symm hj)];exact hd
       exact List.mem_of_getElem? this
      refine Qbks hk' hsub (by simp) d _ x (hpl2 d hmem) ?_ ?_ (r2 j d x hd hx)
      ·exact Qf8 (fun j hj=>hne j hj) _ (Qe9 (hs.onM k cs0 hM0).1 hd)
      ·simp [Owner.sub];omega
   ·rw [Qcu _ _ hkz] at hk;obtain ⟨k1,k2,k3⟩:=hs.mem.box k bx hk;have hne' : g.box k≠b:=by
     rintro rfl;rw [k2] at hb;cases hb
    refine ⟨k1,by rw [hbx];simp [G.th,hne',k2],?_⟩;cases bx with
    | mp es c =>
     obtain ⟨ents,q1,q2⟩:=k3;exact ⟨ents,by rw [hbx];exact q1,Qbqe hk' hsub (by simp) (fun _=>⟨by intro h;injection h with h1;exact hkz h1,by simp⟩) (hpn k es c hk) q2⟩
    | cells cs =>
     obtain ⟨vals,e,q1,q2,q3⟩:=k3;have hp:=hpm k cs hk;rw [if_neg hkz] at hp;refine ⟨vals,e,by rw [hbx];exact q1,RVs_th hk' hsub (by simp) cs (.box k) 0 vals hp ?_ ⟨by simp,by simpa using hkz⟩ q2,q3⟩;exact ons_mono (fun j hj=>hne j hj) _ (hs.onM k cs hk).1
 ·exact Qbks hk' hsub (by simp) _ _ _ (hps t') (Qbro hne (hs.onS t')) (by simp) (hs.slots t')
 ·exact Qf8 hther _ (hs.onS t')
 ·replace hk:((σ.M.put k0 (.cells (cs0.set i (.sl sz κ 0 l.length c)))).put κ (.cells (Qc1 l ((c-l.length)*sz)))) k=some (.cells cs):=hk;by_cases hkk:k=κ
  ·subst hkk;rw [Qhh] at hk;cases hk;have hno:∀ p:Nat→Prop,V.ons p (Qc1 l ((c-l.length)*sz)):=by
    intro p;rw [Qht];intro v hv;simp only [Qc1,List.mem_append,List.mem_map,List.mem_replicate] at hv;rcases hv with ⟨x,_,rfl⟩|⟨_,rfl⟩<;>trivial
   exact ⟨hno _,fun _=>hno _⟩
  ·rw [Qcu _ _ hkk] at hk;by_cases hkz:k=k0
   ·subst hkz;rw [Qhh] at hk;cases hk;obtain ⟨q1,q2⟩:=hs.onM k cs0 hM0;refine ⟨Qbcd i (ons_mono hther _ q1) ?_,fun hlt=>absurd hlt (by omega)⟩;show There _ κ;exact There.self
   ·rw [Qcu _ _ hkz] at hk;obtain ⟨q1,q2⟩:=hs.onM k cs hk;exact ⟨ons_mono hther _ q1,q2⟩
end Go.Abs
end
section
namespace Go.Abs
open Go Go.Sort
def D.val:D→Value
 | .int k n=>.int k n
 | .bool b=>.bool b
 | .str s=>.string s
 | .lst _ _=>.slice none 0 0
 | .mp ..=>.map none
def D.scalar:D→Bool
 | .lst _ _=>false
 | .mp ..=>false
 | _=>true
theorem Qbpi {imm:Nat→Nat→Prop} {w:World} {x:D} {u:Value} (hs:x.scalar=true):RD imm w x u↔u=x.val:=by
 cases x<;>simp [RD,D.val,D.scalar] at hs ⊢
theorem Qbm1 {x:D} (hs:x.scalar=true):x.val.oneCell'=true:=by cases x<;>simp [D.scalar,D.val] at hs ⊢ <;> rfl
def rowV {α:Type} (e:α→List D) (xs:List α):List Value:=(xs.map e).flatten.map D.val
theorem Qbim (w:World) (n blk:Nat) (F:Array Value) (os:Array Obj) {c:Array Value} {e:TypeId} (h:w.heap[blk]? = some (.cells c e (0,0))):(grow (putRow id (Sort.ahead w n) blk 0 F) os).heap[blk]? = some (.cells (putCells id 0 F c) e (0,0)):=by
 have hlt:blk<w.heap.size:=(Array.getElem?_eq_some_iff.1 h).1;have hsz:(putRow id (Sort.ahead w n) blk 0 F).heap.size=w.heap.size:=by simp [putRow,mapBlock,Sort.ahead]
 rw [heap_grow_old _ _ (by rw [hsz];exact hlt)];show (w.heap.modify blk (onCells (putCells id 0 F)))[blk]? = _;rw [Array.getElem?_modify,if_pos rfl,h]
 rfl
theorem Qban (w:World) (n blk:Nat) (F:Array Value) (os:Array Obj) {b:Nat} (hb:b≠blk) (hlt:b<w.heap.size):(grow (putRow id (Sort.ahead w n) blk 0 F) os).heap[b]? = w.heap[b]?:=by
 have hsz:(putRow id (Sort.ahead w n) blk 0 F).heap.size=w.heap.size:=by simp [putRow,mapBlock,Sort.ahead]
 rw [heap_grow_old _ _ (by rw [hsz];exact hlt)];show (w.heap.modify blk (onCells (putCells id 0 F)))[b]? = _;rw [Array.getElem?_modify,if_neg (Ne.symm hb)]
def Qbm2 {α:Type} (P:Program) (f:FuncId) (e:α→List D) (ex:Array Value) (srt:List α→List α):Prop :=
 ∀ (blk cap:Nat) (xs:List α) (w:World),(∀ j,j<(rowV e xs).length→w.cell? ⟨blk,j,none⟩=(rowV e xs)[j]? ∧ w.frozen? ⟨blk,j,none⟩=false)→blk<w.heap.size→xs.length<4611686018427387904 →
  Calls P f (#[.slice (some ⟨blk,0,none⟩) xs.length cap]++ex) w fun e' w'=>e' = .returned (.tuple #[])∧∃ n os,w'=grow (putRow id (Sort.ahead w n) blk 0 (rowV e (srt xs)).toArray) os
theorem Qbfy {α:Type} {e:α→List D} {sz:Nat} (hlen:∀ x,(e x).length=sz) (xs:List α):(rowV e xs).length=xs.length*sz:=by
 simp only [rowV,List.length_map]
 induction xs with
 | nil=>simp
 | cons x xs ih=>simp [hlen,ih,Nat.add_mul];omega
theorem Qbep {α:Type} {P:Program} {f:FuncId} {e:α→List D} {sz:Nat} (hlen:∀ x,(e x).length=sz) (hsc:∀ x,(e x).all D.scalar=true) {srt:List α→List α} (hsl:∀ xs,(srt xs).length=xs.length)
  {ex:Array Value} {exV:List V} (hex:∀ g w us,RFs g w exV us→us=ex.toList) (hb:Qj8 P f=true) (hK:Qbm2 P f e ex srt)
  (xs:List α) (c k0:Nat) (M:Mem) (nb:Nat) (hM:M k0=some (.cells (Qc1 (xs.map e) ((c-xs.length)*sz)))) (hsz:xs.length<4611686018427387904) :
  ACalls P f (.sl sz k0 0 xs.length c::exV) M nb (.tup []) (M.put k0 (.cells (Qc1 ((srt xs).map e) ((c-xs.length)*sz)))) nb:=by
 refine ⟨hb,Nat.le_refl _,fun w g us hm hMon hfresh hus hfl hons=>?_⟩;obtain ⟨u0,us',rfl,hu0,hus'⟩:=hus;have h0:=Qbfe.1 hu0;subst h0;have h1:=hex _ _ _ hus';obtain ⟨hk0,hown,vals,et,hh,hrv,hone⟩:=hm.box k0 _ hM;have hlt:g.box k0<w.heap.size:=(Array.getElem?_eq_some_iff.1 hh).1;obtain ⟨hvl,hvr⟩:=(Qc6 _ _ _ _).1 hrv;have hscf:∀ (l:List α),∀ y∈(l.map e).flatten,y.scalar=true:=by
  intro l y hy;obtain ⟨r,hr,hy⟩:=List.mem_flatten.1 hy;obtain ⟨x,_,rfl⟩:=List.mem_map.1 hr;exact List.all_eq_true.1 (hsc x) y hy
 have hfl' : ∀ l:List α,(l.map e).flatten.length=l.length*sz:=fun l=>by have:=Qbfy hlen l;rw [rowV,List.length_map] at this;exact this
 have hcell:∀ j,j<(rowV e xs).length→vals[j]? = (rowV e xs)[j]?:=by
  intro j hj;rw [Qbfy hlen] at hj;have hjf:j<(xs.map e).flatten.length:=by rw [hfl'];exact hj
  have hjv:j<vals.length:=by
   rw [hvl];simp only [Qc1,List.length_append,List.length_map];omega
  have hc:(Qc1 (xs.map e) ((c-xs.length)*sz))[j]? = some (.d (xs.map e).flatten[j]):=by
   simp only [Qc1];rw [List.getElem?_append_left (by rw [List.length_map];exact hjf),List.getElem?_map,List.getElem?_eq_getElem hjf];rfl
  have:=hvr j _ _ hc (List.getElem?_eq_getElem hjv);simp only [RV] at this;rw [Qbpi (hscf xs _ (List.getElem_mem hjf))] at this;rw [List.getElem?_eq_getElem hjv,this];simp only [rowV,List.getElem?_map,List.getElem?_eq_getElem hjf,Option.map_some]
 have hcall:=hK (g.box k0) c xs w (fun j hj=>⟨by rw [← hcell j hj];simp [World.cell?,hh],by simp [World.frozen?,hh]⟩) hlt hsz;have hus2:(Value.slice (some ⟨g.box k0,0,none⟩) xs.length c::us').toArray = #[.slice (some ⟨g.box k0,0,none⟩) xs.length c]++ex:=by
  rw [h1];apply Array.ext';simp
 rw [hus2];refine hcall.mono ?_;rintro e' w' ⟨rfl,n,os,rfl⟩;generalize hF:(rowV e (srt xs)).toArray=F;have hFs:F.size=xs.length*sz:=by rw [← hF];simp [Qbfy hlen,hsl]
 have hblk:=Qbim w n (g.box k0) F os hh;have hoth:∀ b,b≠g.box k0→b<w.heap.size→(grow (putRow id (Sort.ahead w n) (g.box k0) 0 F) os).heap[b]? = w.heap[b]?:=fun b hb hlt=>Qban w n _ F os hb hlt;have hsize:w.heap.size≤(grow (putRow id (Sort.ahead w n) (g.box k0) 0 F) os).heap.size:=by
  simp [putRow,mapBlock,Sort.ahead]
 generalize hw' : grow (putRow id (Sort.ahead w n) (g.box k0) 0 F) os=w' at hblk hoth hsize;have himm:Imm g.imm g.imm w w':=by
  refine ⟨fun _ _ h=>h,fun b o h=>?_⟩;obtain ⟨k1,k2⟩:=hm.imm b o h;have hne:b≠g.box k0:=by rintro rfl;exact k2 k0 hown
  exact Qfp (hoth b hne k1)
 have hkept:Kept g w g w' (There M) (fun o=>o ≠ .box k0):=⟨himm,fun _ _=>rfl,fun b hb hl=>⟨rfl,hoth b (by rintro rfl;exact hb hown) hl,fun _=>Iff.rfl⟩⟩;have hsub:∀ (o:Owner) i,o ≠ .box k0→o.sub i ≠ .box k0:=by intro o i _;cases o<;>simp [Owner.sub]
 have hnew:∀ p:Nat→Prop,V.ons p (Qc1 ((srt xs).map e) ((c-xs.length)*sz)):=by
  intro p;rw [Qht];intro v hv;simp only [Qc1,List.mem_append,List.mem_map,List.mem_replicate] at hv;rcases hv with ⟨x,_,rfl⟩|⟨_,rfl⟩<;>trivial
 refine ⟨_,g,rfl,⟨fun k b hk=>?_,fun b o h=>⟨Nat.lt_of_lt_of_le (hm.imm b o h).1 hsize,(hm.imm b o h).2⟩⟩,⟨[],rfl,rfl⟩,trivial,fun k cs hk=>?_,?_⟩
 ·by_cases hkk:k=k0
  ·subst hkk;rw [Qhh] at hk;cases hk;refine ⟨hk0,hown,(putCells id 0 F vals.toArray).toList,et,by simpa using hblk,(Qc6 _ _ _ _).2 ⟨?_,fun j cc x hc hx=>?_⟩,fun x hx=>?_⟩
   ·have e1:(Qc1 (xs.map e) ((c-xs.length)*sz)).length=xs.length*sz+(c-xs.length)*sz:=by
     simp only [Qc1,List.length_append,List.length_map,List.length_replicate,hfl']
    have e2:(Qc1 ((srt xs).map e) ((c-xs.length)*sz)).length=xs.length*sz+(c-xs.length)*sz:=by
     simp only [Qc1,List.length_append,List.length_map,List.length_replicate,hfl',hsl]
    rw [e2,← e1,← hvl];simp [putCells]
   ·have hx' : (putCells id 0 F vals.toArray)[j]? = some x:=by simpa using hx
    simp only [putCells,Array.getElem?_mapIdx,List.getElem?_toArray,Option.map_eq_some_iff] at hx';obtain ⟨y,hy,rfl⟩:=hx';simp only [Qc1] at hc;by_cases hj:j<((srt xs).map e).flatten.length
    ·rw [List.getElem?_append_left (by rw [List.length_map];exact hj),List.getElem?_map,List.getElem?_eq_getElem hj,Option.map_some,Option.some.injEq] at hc;subst hc;rw [hfl',hsl] at hj;have hjF:j<F.size:=by rw [hFs];exact hj
     rw [if_pos ⟨Nat.zero_le _,by omega⟩];have hj2:j<((srt xs).map e).flatten.length:=by rw [hfl',hsl];exact hj
     simp only [RV];rw [Qbpi (hscf (srt xs) _ (List.getElem_mem hj2))];simp only [Nat.sub_zero,id];rw [getElem!_pos F j hjF];subst hF;simp only [rowV,List.getElem_toArray,List.getElem_map]
    ·rw [List.getElem?_append_right (by rw [List.length_map];omega)] at hc;have:cc = .und:=(List.mem_replicate.1 (List.mem_of_getElem? hc)).2;subst this;simp [RV]
   ·obtain ⟨j,hj⟩:=List.getElem?_of_mem hx;have hx' : (putCells id 0 F vals.toArray)[j]? = some x:=by simpa using hj
    simp only [putCells,Array.getElem?_mapIdx,List.getElem?_toArray,Option.map_eq_some_iff] at hx';obtain ⟨y,hy,rfl⟩:=hx';split
    ·rename_i hr;have hjF:j-0<F.size:=by omega
     simp only [id];rw [getElem!_pos F _ hjF];subst hF;simp only [rowV,List.getElem_toArray,List.getElem_map];exact Qbm1 (hscf (srt xs) _ (List.getElem_mem _))
    ·exact hone y (List.mem_of_getElem? hy)
  ·rw [Qcu _ _ hkk] at hk;obtain ⟨k1,k2,k3⟩:=hm.box k b hk;cases b with
   | mp es c =>
    obtain ⟨ents,q1,q2⟩:=k3;have hne:g.box k≠g.box k0:=by
     intro h;rw [h,hown] at k2;cases k2;exact hkk rfl
    exact ⟨k1,k2,ents,(hoth _ hne (Array.getElem?_eq_some_iff.1 q1).1).trans q1,Qqt (g:=g) (g':=g) hkept (fun _=>by simp) q2⟩
   | cells cs =>
    obtain ⟨vals2,e2,q1,q2,q3⟩:=k3;have hne:g.box k≠g.box k0:=by
     intro h;rw [h,hown] at k2;cases k2;exact hkk rfl
    refine ⟨k1,k2,vals2,e2,(hoth _ hne (Array.getElem?_eq_some_iff.1 q1).1).trans q1,?_,q3⟩;exact RVs_mono hkept hsub (by simp) cs (.box k) 0 vals2 (by simpa using hkk) (hMon k cs hk) q2
 ·by_cases hkk:k=k0
  ·subst hkk;rw [Qhh] at hk;cases hk;exact hnew _
  ·rw [Qcu _ _ hkk] at hk;exact ons_mono (fun j hj=>There.put hj) _ (hMon k cs hk)
 ·refine ⟨by rw [← hw'];rfl,by rw [← hw'];rfl,by rw [← hw'];rfl,hsize,himm,fun _ _=>rfl,fun b hb ho=>⟨rfl,hoth b ?_ hb,fun _=>Iff.rfl⟩⟩;rintro rfl;rw [hown] at ho;exact ho
end Go.Abs
end
section
namespace Go.Abs
open Go
variable {Γ:Env} {σ:St} {α:Type}
section
variable {g:G} {w:World} (hx:∀ b,g.own b = .ext)
include hx
mutual
theorem Qbpj:∀ (v:V) (ℓ:Owner) (u:Value),RV g w v ℓ u→RV g w v.toF ℓ u
 | .d (.lst sz l),_,u,h=>by
  simp only [V.toF,RV] at h ⊢;exact Qbrf (fun b o h1 h2=>⟨h1,hx b,h2⟩) _ u h
 | .d (.int ..),_,_,h=>by simpa [V.toF] using h
 | .d (.bool _),_,_,h=>by simpa [V.toF] using h
 | .d (.str _),_,_,h=>by simpa [V.toF] using h
 | .d (.mp ..),_,_,h=>by simpa [V.toF] using h
 | .agg cs,ℓ,u,h=>by
  simp only [V.toF,RV] at h ⊢;obtain ⟨vs,rfl,h,h1⟩:=h;exact ⟨vs,rfl,RVs_toF cs ℓ 0 vs h,h1⟩
 | .und,_,_,h=>h
 | .tup _,_,_,h=>h
 | .own ..,_,_,h=>h
 | .ownT ..,_,_,h=>h
 | .ptr ..,_,_,h=>h
 | .nilp,_,_,h=>h
 | .f _,_,_,h=>h
 | .nils _,_,_,h=>h
 | .cref _,_,_,h=>h
 | .sl ..,_,_,h=>h
 | .clo ..,_,_,h=>h
 | .mp _,_,_,h=>h
theorem RVs_toF:∀ (cs:List V) (ℓ:Owner) (i:Nat) (us:List Value),RVs g w cs ℓ i us→RVs g w (V.toFs cs) ℓ i us
 | [],_,_,_,h=>h
 | c::cs,ℓ,i,us,h=>by
  simp only [RVs,V.toFs] at h ⊢;obtain ⟨u,us',rfl,h1,h2⟩:=h;exact ⟨u,us',rfl,Qbpj c _ u h1,RVs_toF cs ℓ (i+1) us' h2⟩
end
theorem Qbm3:∀ {cs:List V} {us:List Value},RFs g w cs us→RFs g w (V.toFs cs) us
 | [],_,h=>h
 | c::cs,_,⟨u,us',e,r,h⟩=>⟨u,us',e,fun ℓ=>Qbpj hx c ℓ u (r ℓ),Qbm3 h⟩
end
theorem Qbrp {P:Program} {f:FuncId} {cf:CFn} (hcf:Qy P f=some cf) {args args' : List V} {r:V} (hargs:Nat.beq args'.length cf.np=true) (hr0:r.lt 0=true) (hr1:Q80 r=true) (ha:V.toFs args=args') (hfl:V.dems args'=args') (hlt:V.lt.go 0 args'=true)
  (hrun:∀ (Γ:Env) (M:Mem),Γ.P=P→Γ.nt=cf.nt→Lone Γ→M=(fun _=>none)→(∀ k,Γ.n0≤k→M k=none)→Tr Γ cf.body ⟨Qtk args',Qo Γ.n0 [] M,Γ.n0+cf.nt⟩ (FinP cf.res r Γ.n0 M)):∀ M nb,ACalls P f args M nb r M nb:=by
 intro M nb;have hflat:∀ x∈args',Flat x:=by
  rw [← hfl];exact Qhq
 refine Qbrg hcf hr0 hr1 (fun g0 w0 us hp hi hus=>⟨args',by rw [← ha];exact Qbm3 hp hus,hflat,hlt,Nat.eq_of_beq_eq_true hargs,fun Γ k1 k2 k3 k4 k5=>?_⟩) M;have h:=hrun Γ _ k1 k3 ⟨fun b=>by rw [k4,hp b];trivial,fun b o hb=>by rw [k5];rw [k4] at hb;exact hi b o hb⟩ rfl (fun _ _=>rfl);rw [Q81 (fun _ _=>rfl),k2] at h;refine h.mono ?_;rintro e σ' ⟨he,r',q1,q2,q3,q4⟩;exact ⟨he,r',q1,q2,fun k b hk=>(by cases hk),fun _ _ _=>⟨q3,fun k cs hk=>(by cases hk),fun k hk=>(by cases hk)⟩⟩
theorem fToD {x:D}:WkV (.f x) (.d x):=⟨fun g w ℓ u h=>by
  simp only [RV] at h ⊢;exact Qfq ⟨fun b o h=>h.1,fun _ _ _=>rfl⟩ x u h,fun _ _=>trivial⟩
open Classical in
theorem ACalls.frz {P:Program} {f:FuncId} {args:List V} {M M' : Mem} {nb nb' sz:Nat} {l:List (List D)} (h:ACalls P f args M nb (.own sz l) M' nb') (hpl:Qqu l=true):ACalls P f args M nb (.f (.lst sz l)) M' nb':=by
 obtain ⟨h1,h2,h3⟩:=h;refine ⟨h1,h2,fun w g us k1 k2 k3 k4 k5 k6=>(h3 w g us k1 k2 k3 k4 k5 k6).mono ?_⟩;rintro e w' ⟨v,g',rfl,hm,hv,_,hon,hf⟩;let g2:G:=⟨g'.box,g'.imm,fun b=>if g'.own b = .res [] then .ext else g'.own b⟩;have hown:∀ b,g'.own b ≠ .res []→g2.own b=g'.own b:=fun b hb=>by simp [g2,hb]
 have hkept:Kept g' w' g2 w' (fun _=>True) (fun o=>o ≠ .res []):=⟨⟨fun _ _ h=>h,fun _ _ _=>rfl⟩,fun _ _=>rfl,fun b hb _=>⟨hown b hb,rfl,fun _=>Iff.rfl⟩⟩;have hsub:∀ (o:Owner) i,o ≠ .res []→o.sub i ≠ .res []:=by intro o i _;cases o<;>simp [Owner.sub]
 refine ⟨v,g2,rfl,⟨fun k b hk=>?_,fun b o hb=>?_⟩,?_,trivial,hon,?_⟩
 ·obtain ⟨q1,q2,q3⟩:=hm.box k b hk;refine ⟨q1,(hown _ (by rw [q2];simp)).trans q2,?_⟩;cases b with
  | mp es c =>
   obtain ⟨ents,p1,p2⟩:=q3;exact ⟨ents,p1,Qqt (g:=g') (g':=g2) hkept (fun _=>by simp) p2⟩
  | cells cs =>
   obtain ⟨vals,e,p1,p2,p3⟩:=q3;exact ⟨vals,e,p1,RVs_mono hkept hsub (by simp) cs (.box k) 0 vals (by simp) (by rw [Qht];intro v _;exact Qbij v) p2,p3⟩
 ·obtain ⟨q1,q2⟩:=hm.imm b o hb;refine ⟨q1,fun k=>?_⟩;simp only [g2];split
  ·simp
  ·exact q2 k
 ·have hrd:=Qjn hv;simp only [RV] at hv ⊢;rcases hv with ⟨⟨a,rfl⟩,rfl⟩|⟨b,cap,vals,e,rfl,hb,hh,h4,h5,h6,h7,h8⟩
  ·simp only [RD];exact ⟨a,0,rfl,Nat.le_refl _,.inl trivial⟩
  ·simp only [RD];refine ⟨_,cap,rfl,h4,.inr ⟨b,0,rfl,?_⟩⟩;have h9:=RDL_strong sz b l 0 h8;exact Q82 (fun o ho=>⟨ho.1,by simp [g2,hb],ho.2⟩) hpl h9
 ·refine ⟨hf.os,hf.tape,hf.output,hf.size,hf.imm,hf.box,fun b hb ho=>?_⟩;obtain ⟨q1,q2,q3⟩:=hf.old b hb ho;exact ⟨(hown b (by rw [q1];intro e;rw [e] at ho;exact ho)).trans q1,q2,q3⟩
theorem Qib {e:α→List D} (h:∀ x,(e x).all Q6w=true) {sz:Nat} {xs:List α}:Qf6 (.own sz (List.map e xs))=true:=by
 simp only [Qf6,Qqu,List.all_map];exact List.all_eq_true.2 fun x _=>h x
theorem Qboj {e:α→List D} (h:∀ x,(e x).all Q6w=true) {xs:List α}:Qqu (List.map e xs)=true:=by
 simp only [Qqu,List.all_map];exact List.all_eq_true.2 fun x _=>h x
def PL:List (Nat×V)→Prop
 | []=>True
 | (_,v)::E=>Qf6 v=true∧PL E
theorem PL.at:∀ {E:List (Nat×V)},PL E→∀ t,Qf6 (look E t)=true
 | [],_,t=>rfl
 | (u,v)::E,h,t=>by
  simp only [look];cases hb:Nat.beq t u with
  | true=>exact h.1
  | false=>exact PL.at h.2 t
def PV:List V→Prop
 | []=>True
 | v::vs=>Qf6 v=true∧PV vs
theorem PV.go:∀ {vs:List V},PV vs→Qf6.go vs=true
 | [],_=>rfl
 | v::vs,h=>by simp only [Qf6.go,Bool.and_eq_true];exact ⟨h.1,PV.go h.2⟩
def PB (t0 i:Nat):List (Nat×Bx)→Prop
 | []=>True
 | (t,.cells cs)::L=>PV (bif Nat.beq t t0 then cs.set i .und else cs)∧PB t0 i L
 | (_,.mp es _)::L=>Qbbf es∧PB t0 i L
theorem PB.at {t0 i:Nat}:∀ {L:List (Nat×Bx)},PB t0 i L→∀ t cs,Qb9 L t=some (.cells cs)→Qf6.go (if t=t0 then cs.set i .und else cs)=true
 | [],_,t,cs,h=>by cases h
 | (u,.cells ds)::L,hp,t,cs,h=>by
  simp only [Qb9] at h;cases hb:Nat.beq t u with
  | true =>
   have:=Nat.eq_of_beq_eq_true hb;subst this;rw [hb] at h;cases h;have:=hp.1.go;by_cases ht:t=t0
   ·subst ht;rw [show Nat.beq t t=true from by simp] at this;rw [if_pos rfl];exact this
   ·have hf:Nat.beq t t0=false:=by
     cases hq:Nat.beq t t0 with
     | false=>rfl
     | true=>exact absurd (Nat.eq_of_beq_eq_true hq) ht
    rw [hf] at this;rw [if_neg ht];exact this
  | false=>rw [hb] at h;exact PB.at hp.2 t cs h
 | (u,.mp ..)::L,hp,t,cs,h=>by
  simp only [Qb9] at h;cases hb:Nat.beq t u with
  | true=>rw [hb] at h;cases h
  | false=>rw [hb] at h;exact PB.at hp.2 t cs h
theorem PB.nomp {t0 i:Nat}:∀ {L:List (Nat×Bx)},PB t0 i L→∀ t es c,Qb9 L t=some (.mp es c)→Qbbf es
 | [],_,t,es,c,h=>by cases h
 | (u,.cells ds)::L,hp,t,es,c,h=>by
  simp only [Qb9] at h;cases hb:Nat.beq t u with
  | true=>rw [hb] at h;cases h
  | false=>rw [hb] at h;exact PB.nomp hp.2 t es c h
 | (u,.mp ..)::L,hp,t,es,c,h=>by
  simp only [Qb9] at h;cases hb:Nat.beq t u with
  | true=>rw [hb] at h;cases h;exact hp.1
  | false=>rw [hb] at h;exact PB.nomp hp.2 t es c h
theorem PB.nomem {t0 i n0:Nat} {L:List (Nat×Bx)} (h:PB t0 i L):∀ k es c,Qo n0 L (fun _=>none) k=some (.mp es c)→Qbbf es:=by
 intro k es c hk;rcases Nat.lt_or_ge k n0 with hlt|hge
 ·rw [Qdl hlt] at hk;cases hk
 ·obtain ⟨u,rfl⟩ : ∃ u,k=n0+u:=⟨k-n0,by omega⟩;rw [Qcx] at hk;exact h.nomp u es c hk
theorem Qbrq {cc:CC} {Q:Ex→St→Prop} (hG:Lone Γ) {M0:Mem} (hMe:M0=fun _=>none) (t0 i κ:Nat) {sz m:Nat} {e:α→List D} {xs:List α} {E:List (Nat×V)} {L:List (Nat×Bx)} {cs0:List V} (hxs:¬ xs=[]) (hpl:∀ x,(e x).all Q6w=true) (hM0:Qb9 L t0=some (.cells cs0))
  (hi:cs0[i]? = some (.own sz (List.map e xs))) (hκ2:Nat.blt κ m=true) (hκM:Qb9 L κ=none) (hE:PL E) (hL:PB t0 i L)
  (h:∀ c,xs.length≤c→xs.length≤maxLen→Tr Γ cc ⟨look E,Qo Γ.n0 ((κ,.cells (Qc1 (List.map e xs) ((c-xs.length)*sz)))::(t0,.cells (cs0.set i (.sl sz (Γ.n0+κ) 0 xs.length c)))::L) M0,Γ.n0+m⟩ Q):Tr Γ cc ⟨look E,Qo Γ.n0 L M0,Γ.n0+m⟩ Q:=by
 subst hMe;have hlt:κ<m:=Nat.le_of_ble_eq_true hκ2;refine Tr.thawC (σ:=⟨look E,Qo Γ.n0 L (fun _=>none),Γ.n0+m⟩) hG (k0:=Γ.n0+t0) (i:=i) (κ:=Γ.n0+κ) (l:=List.map e xs) (by simpa using hxs) (Qboj hpl) (by omega) ((Qcx (n0:=Γ.n0) (L:=L) (M0:=fun _=>none)).trans hM0) hi (by omega) (by show _<Γ.n0+m;omega) ((Qcx (n0:=Γ.n0) (L:=L) (M0:=fun _=>none)).trans hκM) (fun t=>hE.at t) ?_ hL.nomem ?_
 ·intro k cs hk;have hk:Qo Γ.n0 L (fun _=>none) k=some (.cells cs):=hk;rcases Nat.lt_or_ge k Γ.n0 with hlt|hge
  ·rw [Qdl hlt] at hk;cases hk
  ·obtain ⟨t,rfl⟩ : ∃ t,k=Γ.n0+t:=⟨k-Γ.n0,by omega⟩;rw [Qcx] at hk;have:=hL.at t cs hk;by_cases ht:t=t0
   ·subst ht;simpa using this
   ·have h2:¬ Γ.n0+t=Γ.n0+t0:=by omega
    simpa [ht,h2] using this
 ·intro c hc hm;have:=h c (by simpa using hc) (by simp at hc;omega);rw [← Qeb,← Qeb] at this;simpa using this
def RowK (P:Program) (c:Nat) (e:α→List D) (sz:Nat) (ex:List V) (f:List α→Option (List α)):Prop :=
 ∀ xs ys,f xs=some ys→ys.length=xs.length∧(xs=[]→ys=xs∧∀ M nb,ACalls P c (.d (.lst sz (List.map e xs))::ex) M nb (.tup []) M nb) ∧
  (xs.length≤maxLen→∀ cap k0 M nb,M k0=some (.cells (Qc1 (List.map e xs) ((cap-xs.length)*sz)))→ACalls P c (.sl sz k0 0 xs.length cap::ex) M nb (.tup []) (M.put k0 (.cells (Qc1 (List.map e ys) ((cap-xs.length)*sz)))) nb)
section
variable {pc d nb:Nat} {os:List COp} {E:List (Nat×V)} {M0:Mem} {L:List (Nat×Bx)} {Q:St→Prop} {gd:Option (Nat×Bool)}
theorem Rn.callRow {f:FuncId} {as:List Arg} {args:List V} {r:V} {t:Nat} {cs cs' : List V} (hw:Wn E gd) (ha:V.dems (as.map (·.val (look E)))=args) (ht:Qb9 L t=some (.cells cs)) (hC:∀ M,M (Γ.n0+t)=some (.cells cs)→ACalls Γ.P f args M nb r (M.put (Γ.n0+t) (.cells cs')) nb)
  (hpc:pcOf pc=0) (h:Rn Γ pc os ⟨look ((d,r)::E),Qo Γ.n0 ((t,.cells cs')::L) M0,nb⟩ Q):Rn Γ pc (⟨some d,.call f,as,false,gd⟩::os) ⟨look E,Qo Γ.n0 L M0,nb⟩ Q:=by
 refine Rn.cons ?_;unfold COp.run;rw [hw.wanted];simp only [show (K.call f).isCall=true from rfl,if_true,COp.callee,ha];rw [hpc];refine ⟨r,(Qo Γ.n0 L M0).put (Γ.n0+t) (.cells cs'),nb,hC _ (by rw [Qcx];exact ht),fun k hk=>?_,fun k cs2 hk hM=>.inl ?_,?_⟩
 ·simp only [Mem.put];split
  ·rfl
  ·exact hk
 ·rw [Qcu _ _ (by omega)]
 ·rw [show Qbf (look E) (some d) r=look ((d,r)::E) from Qdc E d r,Qeb];exact h
end
theorem fSlT {n0 t n c sz:Nat} {e:α→List D} {ys:List α} (h:∀ x,(e x).length=sz) (hn:ys.length=n) (hc:n≤c):WkV (frzV (n0+t) ((ys.map e).flatten) (.sl sz (n0+t) 0 n c)) (.d (.lst sz (ys.map e))):=by
 subst hn;have h1:=Qzi h ys;have h2:((ys.map e).flatten.drop 0).take (ys.length*sz)=(ys.map e).flatten:=by rw [List.drop_zero,List.take_of_length_le (by omega)]
 simp only [frzV,if_true];rw [if_pos ⟨by omega,hc⟩,h2,Qzh h ys];exact Qbmu
theorem Qbsa {sz:Nat} {e:α→List D} {l:List α} (h:l=[]):WkV (.d (.lst sz (List.map e l))) (.f (.lst sz (List.map e l))):=by
 subst h;exact ⟨fun g w ℓ u h=>by simpa [RV,RD,RDL] using h,fun _ _=>trivial⟩
theorem Qbsb {sz:Nat} {e:α→List D} {l:List α} (h:l=[]):WkV (.own sz (List.map e l)) (.f (.lst sz (List.map e l))) :=
 (WkV.dem (.own sz (List.map e l))).trans (Qbsa h)
theorem Qbrr {n0 t n c sz:Nat} {e:α→List D} {ys:List α} (h:∀ x,(e x).length=sz) (hp:∀ x,(e x).all pl0=true) (hn:ys.length=n) (hc:n≤c):WkV (frzV (n0+t) ((ys.map e).flatten) (.sl sz (n0+t) 0 n c)) (.f (.lst sz (ys.map e))):=by
 subst hn;have h1:=Qzi h ys;have h2:((ys.map e).flatten.drop 0).take (ys.length*sz)=(ys.map e).flatten:=by rw [List.drop_zero,List.take_of_length_le (by omega)]
 simp only [frzV,if_true];rw [if_pos ⟨by omega,hc⟩,h2,Qzh h ys,Qbrk (by simp only [List.all_map];exact List.all_eq_true.2 fun x _=>hp x)];exact .same rfl
theorem Qbeq:∀ ds:List D,toDs (ds.map V.d)=some ds
 | []=>rfl
 | d::ds=>by simp only [List.map_cons,toDs,V.toD,Qbeq ds]
theorem Qbsc {e:α→List D} {ys:List α} {room:Nat}:PreD (Qc1 (List.map e ys) room) ((List.map e ys).flatten):=PreD.app (Qbeq _)
theorem Tr.seqW {x y:CC} {Q:Ex→St→Prop} (σ2:St) (hx:Tr Γ x σ fun e σ'=>e = .norm∧WeakSt Γ σ' σ2) (hy:Tr Γ y σ2 Q):Tr Γ (.seq x y) σ Q:=by
 refine Tr.seq (hx.mono ?_);rintro e σ' ⟨rfl,hw⟩;exact hy.weak hw
end Go.Abs
end
section
namespace Go.Abs
open Go
variable {κ β:Type} [BEq κ]
def mapE (ek:κ→V) (ev:β→V):Nat→List (κ×β)→List (V×V×Nat)
 | _,[]=>[]
 | i,(k,v)::m=>(ek k,ev v,i)::mapE ek ev (i+1) m
def idxS (m:List (κ×β)) (k:κ):Nat:=match m with
 | []=>0
 | (k',_)::m=>if k==k' then 0 else idxS m k+1
def hasM (m:List (κ×β)) (k:κ):Bool:=m.any fun p=>k==p.1
def getM (m:List (κ×β)) (k:κ) (z:β):β:=match m with
 | []=>z
 | (k',v)::m=>if k==k' then v else getM m k z
def setM (m:List (κ×β)) (k:κ) (v:β):List (κ×β):=match m with
 | []=>[(k,v)]
 | (k',v')::m=>if k==k' then (k,v)::m else (k',v')::setM m k v
def putM (m:List (κ×β)) (i:Nat) (v:β):List (κ×β):=m.modify i fun p=>(p.1,v)
theorem Q83 {k k' : κ} {v:β} {m:List (κ×β)}:hasM ((k',v)::m) k=((k==k')||hasM m k):=rfl
theorem Qbc4 {ek:κ→V} {ev:β→V}:∀ (i:Nat) (m:List (κ×β)),(mapE ek ev i m).length=m.length
 | _,[]=>rfl
 | i,_::m=>by simp [mapE,Qbc4 (i+1) m]
theorem Qbfz {ek:κ→V} {ev:β→V}:∀ (i j:Nat) (m:List (κ×β)),(mapE ek ev i m)[j]? = (m[j]?).map fun p=>(ek p.1,ev p.2,i+j)
 | _,j,[]=>by simp [mapE]
 | i,0,_::m=>by simp [mapE]
 | i,j+1,_::m=>by
  simp only [mapE,List.getElem?_cons_succ,Qbfz (i+1) j m];rw [show i+1+j=i+(j+1) from by omega]
theorem Qzj {ek:κ→V} {ev:β→V}:∀ (i:Nat) (m n:List (κ×β)),mapE ek ev i (m++n)=mapE ek ev i m++mapE ek ev (i+m.length) n
 | _,[],n=>by simp [mapE]
 | i,(k,v)::m,n=>by simp [mapE,Qzj (i+1) m n];congr 1;omega
theorem Qvh {ek:κ→V} {ev:β→V} {kd:MK} (hk:∀ a,kd.ok (ek a)=true):∀ (i:Nat) (m:List (κ×β)),kd.all (mapE ek ev i m)=true
 | _,[]=>rfl
 | i,(k,v)::m=>by
  have:=Qvh (ev:=ev) hk (i+1) m;simp only [MK.all] at *
  simp [mapE,hk,this]
section
variable {ek:κ→V} {ev:β→V} (hs:∀ a b,Qg1 (ek a) (ek b)=(a==b))
include hs
theorem Qts {k:κ}:∀ (i:Nat) (m:List (κ×β)) (z:β),Qfn (ek k) (mapE ek ev i m)=if hasM m k then some (idxS m k,ev (getM m k z)) else none
 | _,[],z=>rfl
 | i,(k',v)::m,z=>by
  simp only [mapE,Qfn,hs,Qts (i+1) m z,Q83,idxS,getM];by_cases hb:(k==k')=true
  ·simp [hb]
  ·simp only [hb,Bool.false_eq_true,if_false,Bool.false_or];by_cases hq:hasM m k=true
   ·rw [if_pos hq,if_pos hq];rfl
   ·rw [if_neg hq,if_neg hq];rfl
omit hs in
theorem Qbm4 {k:κ}:∀ {m:List (κ×β)},hasM m k=true→idxS m k<m.length
 | [],h=>by cases h
 | (k',v)::m,h=>by
  simp only [idxS,hasM,List.any_cons] at *
  cases hb:(k==k') with
  | true=>simp
  | false =>
   rw [hb] at h;have:=Qbm4 (m:=m) (by simpa [hasM] using h);simp;exact this
omit hs in
theorem Qbg6 {k:κ}:∀ {m:List (κ×β)},hasM m k=false→idxS m k=m.length
 | [],h=>rfl
 | (k',v)::m,h=>by
  simp only [hasM,List.any_cons,Bool.or_eq_false_iff] at h;simp only [idxS,h.1,Bool.false_eq_true,if_false,List.length_cons];rw [Qbg6 (m:=m) h.2]
omit hs in
theorem Q84 {k:κ} {v:β}:∀ {m:List (κ×β)},hasM m k=false→setM m k v=m++[(k,v)]
 | [],h=>rfl
 | (k',v')::m,h=>by
  simp only [hasM,List.any_cons,Bool.or_eq_false_iff] at h;simp only [setM,h.1,Bool.false_eq_true,if_false,List.cons_append];rw [Q84 (m:=m) h.2]
omit hs in
theorem Qbf0 {k:κ} {v:β}:∀ (i:Nat) {m:List (κ×β)},hasM m k=true→modM (ek k) (ev v) (idxS m k) (mapE ek ev i m)=mapE ek ev i (setM m k v)
 | _,[],h=>by cases h
 | i,(k',v')::m,h=>by
  simp only [idxS,setM,mapE,hasM,List.any_cons] at *
  cases hb:(k==k') with
  | true=>simp [modM,mapE]
  | false =>
   rw [hb] at h;simp only [Bool.false_eq_true,if_false,modM,mapE];rw [Qbf0 (i+1) (by simpa [hasM] using h)]
omit hs in
theorem Qzk {k:κ} {v:β}:∀ {m:List (κ×β)},hasM m k=true→(setM m k v).length=m.length
 | [],h=>by cases h
 | (k',v')::m,h=>by
  simp only [setM,hasM,List.any_cons] at *
  cases hb:(k==k') with
  | true=>simp
  | false =>
   rw [hb] at h;simp [Qzk (m:=m) (by simpa [hasM] using h)]
omit hs in
theorem Qbm5 {v:β}:∀ (i j:Nat) {m:List (κ×β)} {p:κ×β},m[j]? = some p→modM (ek p.1) (ev v) j (mapE ek ev i m)=mapE ek ev i (putM m j v)
 | i,0,q::m,p,h=>by simp at h;subst h;simp [putM,mapE,modM]
 | i,j+1,q::m,p,h=>by
  simp at h;have:=Qbm5 (v:=v) (i+1) j h;simp only [putM,mapE,modM,List.modify_succ_cons] at *
  rw [this]
 | i,j,[],p,h=>by simp at h
omit hs in
theorem Qbg7:∀ (i j:Nat) (m:List (κ×β)),j<m.length→Qbds ((i+j:Nat):Int) (mapE ek ev i m)=some j
 | i,j,[],h=>by simp at h
 | i,0,_::m,h=>by simp [mapE,Qbds]
 | i,j+1,_::m,h=>by
  have:=Qbg7 (i+1) j m (by simpa using h);simp only [mapE,Qbds];have hne:((i:Int)==((i+(j+1):Nat):Int))=false:=by simp;omega
  rw [hne,show i+(j+1)=i+1+j from by omega,this];rfl
end
variable {Γ:Env} {pc d nb:Nat} {os:List COp} {E:List (Nat×V)} {M M' M0:Mem} {L:List (Nat×Bx)} {Q:St→Prop} {gd:Option (Nat×Bool)} {a b c:Arg} {ek:κ→V} {ev:β→V} {m:List (κ×β)}
theorem Rn.k0 {k:K} {as:List Arg} {v:V} (hw:Wn E gd) (hc:k.isCall=false) (hn:k.isNil=false) (hk:Qn Γ.n0 (Γ.n0+0) k (V.dems (as.map (·.val (look E)))) M=some (v,M'))
  (h:Rn Γ pc os ⟨look E,M',nb⟩ Q):Rn Γ pc (⟨none,k,as,false,gd⟩::os) ⟨look E,M,nb⟩ Q:=by
 refine Rn.cons ?_;unfold COp.run;rw [hw.wanted];simp only [hc,hn,Bool.false_eq_true,if_false,COp.step,COp.xs,Option.getD_none,hk,Qbf];exact h
theorem Rn.mkmap (hw:Wn E gd) (hf:(Qb9 L d).isNone=true) (ek:κ→V) (ev:β→V) (h:Rn Γ pc os ⟨look ((d,.mp (Γ.n0+d))::E),Qo Γ.n0 ((d,.mp (mapE ek ev 0 []) 0)::L) M0,nb⟩ Q) :
  Rn Γ pc (⟨some d,.mkmap,[],false,gd⟩::os) ⟨look E,Qo Γ.n0 L M0,nb⟩ Q:=by
 refine Rn.k hw rfl rfl ?_ h;simp only [List.map_nil,V.dems,Qn];rw [if_pos (by simp [Qtr (Γ:=Γ) (M0:=M0) hf]),Qeb];rfl
theorem Rn.lenm {t:Nat} (hw:Wn E gd) (ha:a.val (look E) = .mp (Γ.n0+t)) (hM:Qb9 L t=some (.mp (mapE ek ev 0 m) m.length)) (h:Rn Γ pc os ⟨look ((d,.d (.int .i64 m.length))::E),Qo Γ.n0 L M0,nb⟩ Q) :
  Rn Γ pc (⟨some d,.lenm,[a],false,gd⟩::os) ⟨look E,Qo Γ.n0 L M0,nb⟩ Q:=by
 refine Rn.k hw rfl rfl ?_ h;simp only [List.map_cons,List.map_nil,V.dems,ha,V.dem,Qn,Q5 hM,Qbc4]
section
variable (hs:∀ a b,Qg1 (ek a) (ek b)=(a==b)) {kd:MK} (hk:∀ a,kd.ok (ek a)=true) (hv:∀ b,(ev b).dat=true)
include hs hk hv
theorem Rn.lookup {t:Nat} {z:V} {k:κ} (zb:β) (hz:ev zb=z) (hw:Wn E gd) (ha:a.val (look E) = .mp (Γ.n0+t)) (hb:(b.val (look E)).dem=ek k) (hM:Qb9 L t=some (.mp (mapE ek ev 0 m) m.length))
  (h:Rn Γ pc os ⟨look ((d,ev (getM m k zb))::E),Qo Γ.n0 L M0,nb⟩ Q):Rn Γ pc (⟨some d,.lookup kd false z,[a,b],false,gd⟩::os) ⟨look E,Qo Γ.n0 L M0,nb⟩ Q:=by
 subst hz;refine Rn.k hw rfl rfl ?_ h;simp only [List.map_cons,List.map_nil,V.dems,ha,hb,V.dem,Qn,Q5 hM,hk,Qvh hk,Bool.and_self,if_true,Qts hs 0 m zb];cases hh:hasM m k with
 | true=>simp [Q8o (hv _),Q60 (hv _)]
 | false =>
  have:getM m k zb=zb:=by
   clear hM h
   induction m with
   | nil=>rfl
   | cons p m ih =>
    simp only [hasM,List.any_cons,Bool.or_eq_false_iff] at hh;simp only [getM,hh.1,Bool.false_eq_true,if_false];exact ih hh.2
  simp [hv,this]
theorem Rn.lookupC {t:Nat} {z:V} {k:κ} (zb:β) (hz:ev zb=z) (hw:Wn E gd) (ha:a.val (look E) = .mp (Γ.n0+t)) (hb:(b.val (look E)).dem=ek k) (hM:Qb9 L t=some (.mp (mapE ek ev 0 m) m.length))
  (h:Rn Γ pc os ⟨look ((d,.tup [ev (getM m k zb),.d (.bool (hasM m k))])::E),Qo Γ.n0 L M0,nb⟩ Q):Rn Γ pc (⟨some d,.lookup kd true z,[a,b],false,gd⟩::os) ⟨look E,Qo Γ.n0 L M0,nb⟩ Q:=by
 subst hz;refine Rn.k hw rfl rfl ?_ h;simp only [List.map_cons,List.map_nil,V.dems,ha,hb,V.dem,Qn,Q5 hM,hk,Qvh hk,Bool.and_self,if_true,Qts hs 0 m zb];cases hh:hasM m k with
 | true=>simp [Q8o (hv _),Q60 (hv _)]
 | false =>
  have:getM m k zb=zb:=by
   clear hM h
   induction m with
   | nil=>rfl
   | cons p m ih =>
    simp only [hasM,List.any_cons,Bool.or_eq_false_iff] at hh;simp only [getM,hh.1,Bool.false_eq_true,if_false];exact ih hh.2
  simp [hv,this]
theorem Rn.mapset {t:Nat} {k:κ} {v:β} (hw:Wn E gd) (ha:a.val (look E) = .mp (Γ.n0+t)) (hb:(b.val (look E)).dem=ek k) (hc:Q41 (c.val (look E)).dem=ev v) (hcd:(c.val (look E)).dem.dat=true) (hM:Qb9 L t=some (.mp (mapE ek ev 0 m) m.length))
  (h:Rn Γ pc os ⟨look E,Qo Γ.n0 ((t,.mp (mapE ek ev 0 (setM m k v)) (setM m k v).length)::L) M0,nb⟩ Q):Rn Γ pc (⟨none,.mapset kd,[a,b,c],false,gd⟩::os) ⟨look E,Qo Γ.n0 L M0,nb⟩ Q:=by
 refine Rn.k0 (v:=.und) hw rfl rfl ?_ h;simp only [List.map_cons,List.map_nil,V.dems,ha,hb,hc,V.dem,Qn,Q5 hM,hk,hcd,Qvh hk,Bool.and_self,if_true];rw [Qts hs 0 m v,← Qeb];cases hh:hasM m k with
 | true=>simp only [if_true];rw [Qbf0 0 hh,Qzk hh]
 | false =>
  simp only [Bool.false_eq_true,if_false];rw [Q84 hh,Qzj];simp [mapE]
theorem Rn.mapentry {t:Nat} {z:V} {k:κ} (zb:β) (hz:ev zb=z) (hw:Wn E gd) (ha:a.val (look E) = .mp (Γ.n0+t)) (hb:(b.val (look E)).dem=ek k) (hM:Qb9 L t=some (.mp (mapE ek ev 0 m) m.length))
  (h:Rn Γ pc os ⟨look ((d,.tup [ev (getM m k zb),.d (.int .i64 (idxS m k))])::E),Qo Γ.n0 ((t,.mp (mapE ek ev 0 (setM m k (getM m k zb))) (setM m k (getM m k zb)).length)::L) M0,nb⟩ Q):Rn Γ pc (⟨some d,.mapentry kd z,[a,b],false,gd⟩::os) ⟨look E,Qo Γ.n0 L M0,nb⟩ Q:=by
 subst hz;refine Rn.k hw rfl rfl ?_ h;simp only [List.map_cons,List.map_nil,V.dems,ha,hb,V.dem,Qn,Q5 hM,hk,hv,Qvh hk,Bool.and_self,if_true,Qts hs 0 m zb];rw [← Qeb];cases hh:hasM m k with
 | true =>
  have hlt:=Qbm4 hh;simp only [if_true,hv,Qbfz,List.getElem?_eq_getElem hlt,Option.map_some,Nat.zero_add];rw [Qbf0 0 hh,Qzk hh]
 | false =>
  have:getM m k zb=zb:=by
   clear hM h
   induction m with
   | nil=>rfl
   | cons p m ih =>
    simp only [hasM,List.any_cons,Bool.or_eq_false_iff] at hh;simp only [getM,hh.1,Bool.false_eq_true,if_false];exact ih hh.2
  simp only [Bool.false_eq_true,if_false];rw [this,Q84 hh,Qzj,Qbg6 hh];simp [mapE]
omit hs hk in
theorem Rn.entrystore {t i:Nat} {v:β} (hi:i<m.length) (hw:Wn E gd) (ha:a.val (look E) = .mp (Γ.n0+t)) (hb:b.val (look E) = .d (.int .i64 (i:Int))) (hc:Q41 (c.val (look E)).dem=ev v) (hcd:(c.val (look E)).dem.dat=true) (hM:Qb9 L t=some (.mp (mapE ek ev 0 m) m.length))
  (h:Rn Γ pc os ⟨look E,Qo Γ.n0 ((t,.mp (mapE ek ev 0 (putM m i v)) (putM m i v).length)::L) M0,nb⟩ Q):Rn Γ pc (⟨none,.entrystore,[a,b,c],false,gd⟩::os) ⟨look E,Qo Γ.n0 L M0,nb⟩ Q:=by
 refine Rn.k0 (v:=.und) hw rfl rfl ?_ h;have hbn:=Qbg7 (ek:=ek) (ev:=ev) 0 i m hi;rw [Nat.zero_add] at hbn;simp only [List.map_cons,List.map_nil,V.dems,ha,hb,hc,V.dem,Qn,Q5 hM,hcd,if_true,hbn,Qbfz,List.getElem?_eq_getElem hi,Option.map_some];rw [← Qeb,Qbm5 0 i (List.getElem?_eq_getElem hi)];simp [putM]
end
theorem kMp {n0 t:Nat} {sites:List Nat} (h:sites.any (fun u=>Nat.beq t u)=false):WkV (Qej (Qkw n0 sites) (.mp (n0+t))) (.mp (n0+t)):=by
 refine .same ?_;simp [Qej,Qxa,h]
theorem fMp {n0 t u:Nat} {ds:List D} (h:Nat.beq u t=false):WkV (frzV (n0+t) ds (.mp (n0+u))) (.mp (n0+u)):=by
 have:¬ n0+u=n0+t:=by
  intro e;have:u=t:=by omega
  subst this;simp at h
 exact .same (by simp only [frzV];rw [if_neg this])
end Go.Abs
end
section
namespace Go.Abs
open Go
section
variable {g:G} {w:World} {k:Nat} {x:D} [DecidablePred fun b=>b=g.box k] (hB:g.own (g.box k) = .box k) (hx:RD (g.frz k 1).imm w x (.map (some (g.box k))))
include hB
include hx
end
variable {Γ:Env} {σ:St}
def Qbpk:V→Value
 | .d (.int k n)=>.int k n
 | .d (.bool b)=>.bool b
 | .d (.str s)=>.string s
 | _=>undef
def Qbrs:V→Value
 | .agg cs=>.agg (cs.map Qbpk).toArray
 | v=>Qbpk v
section
variable {κ β:Type}
end
section
variable {κ β:Type} [BEq κ] {Γ:Env} {pc d nb:Nat} {os:List COp} {E:List (Nat×V)} {M:Mem} {Q:St→Prop} {gd:Option (Nat×Bool)} {a b:Arg} {ek:κ→V} {ev:β→V} {m:List (κ×β)}
variable (hs:∀ a b,Qg1 (ek a) (ek b)=(a==b)) {kd:MK} (hk:∀ a,kd.ok (ek a)=true) (hv:∀ b,(ev b).dat=true) (hkk:∀ a,Qbe7 (Qbrs (ek a))=ek a) (hvv:∀ b,Qbe7 (Qbrs (ev b))=ev b)
include hs hk hv hkk hvv
end
end Go.Abs
end
section
namespace Go.Abs
open Go
abbrev oo (d:Nat) (k:K) (as:List Arg):COp:=⟨some d,k,as,false,none⟩
abbrev oM (d a:Nat):COp:=⟨some d,.mov,[.t a],false,none⟩
abbrev oL (d a:Nat):COp:=⟨some d,.load false 1,[.t a],false,none⟩
abbrev oF (d n a:Nat):COp:=⟨some d,.fld n,[.t a],false,none⟩
abbrev cI (n:Int):Arg:=.c (.d (.int .i64 n))
abbrev ot (d:Nat) (k:K) (as:List Arg):COp:=⟨some d,k,as,true,none⟩
universe u
variable {α:Type u} {Γ:Env} {pc d nb:Nat} {os:List COp} {E:List (Nat×V)} {M:Mem} {Q:St→Prop} {gd:Option (Nat×Bool)} {a b:Arg} {sz:Nat}
theorem Rn.idxArr {k o o' len:Nat} {kk:IntKind} {i:Int} (hw:Wn E gd) (ha:a.val (look E) = .ptr k o) (hb:b.val (look E) = .d (.int kk i)) (ho:o'=o+i.toNat*sz) (hx:inO len i=some ()) (h:Rn Γ pc os ⟨look ((d,.ptr k o')::E),M,nb⟩ Q) :
  Rn Γ pc (⟨some d,.idxarr sz len,[a,b],false,gd⟩::os) ⟨look E,M,nb⟩ Q:=by
 subst ho;unfold inO at hx;split at hx<;>cases hx;rename_i hc;refine Rn.k hw rfl rfl ?_ h;simp [ha,hb,V.dems,V.dem,Qn,hc.1,hc.2]
def rowO (l:List α) (i:Nat):Option α:=l[i]?
theorem Rn.loadArr {k off o n:Nat} {cs pre post:List V} {e:α→D} {l:List α} {x:α} (hw:Wn E gd) (ha:a.val (look E) = .ptr k off) (ho:off=o+n) (hM:M k=some (.cells cs)) (hc:cs=pre++(l.map fun x=>V.d (e x))++post) (hp:pre.length=o) (hx:rowO l n=some x)
  (h:Rn Γ pc os ⟨look ((d,.d (e x))::E),M,nb⟩ Q):Rn Γ pc (⟨some d,.load false 1,[a],false,gd⟩::os) ⟨look E,M,nb⟩ Q:=by
 subst ho hc hp;unfold rowO at hx;obtain ⟨hlt,hx'⟩:=List.getElem?_eq_some_iff.1 hx;refine Rn.k hw rfl rfl ?_ h;have h2:(pre++(l.map fun x=>V.d (e x))++post)[pre.length+n]? = some (.d (e x)):=by
  rw [List.append_assoc,List.getElem?_append_right (by omega),show pre.length+n-pre.length=n from by omega,List.getElem?_append_left (by simpa using hlt),List.getElem?_map,hx];rfl
 simp only [List.map_cons,List.map_nil,V.dems,ha,V.dem,Qn,hM];rw [if_pos (by simp only [List.length_append,List.length_map];omega)];simp only [Bool.false_eq_true,if_false,Option.map_eq_some_iff];exact ⟨_,h2,rfl⟩
theorem Rn.lit {bytes:Nat} {xs:List α} {e:α→List D} {ls:List (List D)} (hw:Wn E gd) (hl:xs.map e=ls) (hbd:(Nat.ble bytes 128&&Nat.ble 1 sz&&Nat.ble ls.length lim)=true)
  (h:Rn Γ pc os ⟨look ((d,.own sz (xs.map e))::E),M,nb⟩ Q):Rn Γ pc (⟨some d,.append sz bytes,[.c (.nils sz),.c (.d (.lst sz ls))],true,gd⟩::os) ⟨look E,M,nb⟩ Q:=by
 subst hl;simp only [Bool.and_eq_true] at hbd;have h1:=Nat.le_of_ble_eq_true hbd.1.1;have h2:0<sz:=Nat.le_of_ble_eq_true hbd.1.2;have h3:=Nat.le_of_ble_eq_true hbd.2;refine Rn.kT hw rfl rfl (v:=.own sz (xs.map e)) ?_ (fun i=>?_) h
 ·simp only [List.map_cons,List.map_nil,Arg.val,Qn,Qjk,if_true];rw [if_pos (by simp only [h1,h2,h3,decide_true,Bool.and_self])]
 ·simp only [List.map_cons,List.map_nil,Arg.val,Qbu,Q7,Arg.putTo];rw [Qdc]
theorem tv:True:=trivial
abbrev f_ (l:List Int):V:=.f (.lst 1 (List.map (eI .i64) l))
abbrev o_ (l:List Int):V:=.own 1 (List.map (eI .i64) l)
theorem si {β:Type u} {x y:β} (h:some x=some y):x=y:=Option.some.inj h
theorem sr {cs:List COp} {y:CC} {σ:St} {Q:Ex→St→Prop} (h:Rn Γ 9 cs σ (Qbms Γ y Q .norm)):Tr Γ (.seq (.region cs 9 []) y) σ Q:=Tr.seq (Tr.rgn h)
theorem nt {y:CC} {σ:St} {Q:Ex→St→Prop} (h:Tr Γ y σ Q):Rn Γ 9 [] σ (Qbms Γ y Q .norm):=Rn.nil (toN h)
theorem md {x:D} (ha:a.val (look E) = .d x) (h:Rn Γ pc os ⟨look ((d,.d x)::E),M,nb⟩ Q):Rn Γ pc (⟨some d,.mov,[a],false,none⟩::os) ⟨look E,M,nb⟩ Q:=Rn.movD trivial ha h
end Go.Abs
end
section
namespace Go.Abs
open Go
end Go.Abs
end
section
namespace Go.Abs
open Go
variable {α:Type}
theorem WkVs.app {a a' b b' : List V} (h:WkVs a a') (k:WkVs b b'):WkVs (a++b) (a'++b'):=by
 induction h with
 | nil=>exact k
 | cons h t ih=>exact .cons h ih
theorem Qbqf {g g' : α→List V} {f:V→V}:∀ {xs:List α},(∀ x∈xs,WkVs ((g x).map f) (g' x))→WkVs ((Q3 g xs).map f) (Q3 g' xs)
 | [],_=>.nil
 | x::xs,h=>by
  rw [Qgd,Qgd,List.map_append];exact .app (h x (by simp)) (Qbqf fun y hy=>h y (by simp [hy]))
theorem Qbrt {sz:Nat} {e:α→List D} {n:Int} {xs:List (List α)} {f:V→V} (hf:f (.nils sz) = .nils sz) (h:mkO n ([]:List α)=some xs):WkVs ((Q3 (fun (x:List α)=>[V.nils sz]) xs).map f) (Q3 (fun (x:List α)=>[V.own sz (List.map e x)]) xs):=by
 refine Qbqf fun x hx=>?_;unfold mkO at h;split at h<;>cases h;obtain rfl:=List.eq_of_mem_replicate hx;simp only [List.map_cons,List.map_nil,hf];exact .cons (WkV.nilsO _) .nil
theorem Qbsd {sz:Nat} {e:α→List D} {xs:List (List α)} {f:V→V} (hf:∀ l,f (.own sz l) = .own sz l):WkVs ((Q3 (fun (x:List α)=>[V.own sz (List.map e x)]) xs).map f) (Q3 (fun (x:List α)=>[V.d (.lst sz (List.map e x))]) xs):=by
 refine Qbqf fun x hx=>?_;simp only [List.map_cons,List.map_nil,hf];exact .cons (WkV.dem' rfl) .nil
theorem Q2w {g:α→V}:∀ (xs:List α),Q3 (fun x=>[g x]) xs=xs.map g
 | []=>rfl
 | x::xs=>by rw [Qgd,Q2w xs];rfl
variable {Γ:Env} {pc d nb:Nat} {os:List COp} {E:List (Nat×V)} {M M0:Mem} {L:List (Nat×Bx)} {Q:St→Prop} {gd:Option (Nat×Bool)} {a b:Arg} {sz:Nat} {e:α→List D}
theorem Rn.loadTA {t:Nat} {i:Int} {xs:List (List α)} {x:List α} (hw:Wn E gd) (ha:a.val (look E) = .ptr (Γ.n0+t) (0+i.toNat*1)) (hM:Qb9 L t=some (.cells (Q3 (fun (r:List α)=>[V.own sz (List.map e r)]) xs))) (hx:getO xs i=some x)
  (h:Rn Γ pc os ⟨look ((d,.own sz (List.map e x))::E),Qo Γ.n0 ((t,.cells ((Q3 (fun (r:List α)=>[V.own sz (List.map e r)]) xs).set i.toNat (.d (.lst sz (List.map e x)))))::L) M0,nb⟩ Q) :
  Rn Γ pc (⟨some d,.loadT,[a],false,gd⟩::os) ⟨look E,Qo Γ.n0 L M0,nb⟩ Q:=by
 have hx' : xs[i.toNat]? = some x:=by
  unfold getO at hx;split at hx
  ·exact hx
  ·cases hx
 have e0:0+i.toNat*1=i.toNat:=by omega
 rw [e0] at ha;refine Rn.loadT hw ha hM ?_ rfl h;rw [Q2w,List.getElem?_map,hx'];rfl
theorem Rn.storeTA {t u:Nat} {i:Int} {xs ys:List (List α)} {y:List α} {c0:V} (hw:Wn E gd) (ha:a.val (look E) = .ptr (Γ.n0+t) (0+i.toNat*1)) (hb:look E u = .own sz (List.map e y)) (hM:Qb9 L t=some (.cells ((Q3 (fun (r:List α)=>[V.own sz (List.map e r)]) xs).set i.toNat c0))) (hx:setO xs i y=some ys)
  (h:Rn Γ pc os ⟨look ((u,.d (.lst sz (List.map e y)))::E),Qo Γ.n0 ((t,.cells (Q3 (fun (r:List α)=>[V.own sz (List.map e r)]) ys))::L) M0,nb⟩ Q) :
  Rn Γ pc (⟨none,.store 1,[a,.t u],true,gd⟩::os) ⟨look E,Qo Γ.n0 L M0,nb⟩ Q:=by
 unfold setO at hx;split at hx<;>cases hx;rename_i hi;have e0:0+i.toNat*1=i.toNat:=by omega
 rw [e0] at ha;refine Rn.storeO hw ha hb hM ?_ ?_ h
 ·rw [Q2w];exact Nat.ble_eq_true_of_le (by simp only [List.length_set,List.length_map];omega)
 ·rw [Q2w,Q2w,List.map_set];rw [List.set_eq_take_append_cons_drop (l:=List.map _ xs) (i:=i.toNat) (a:=V.own sz (List.map e y)),if_pos (by simpa using hi.2)];rw [List.take_set_of_le (Nat.le_refl _),List.drop_set_of_lt (by omega)];simp
def Qber (m:Nat):List (Nat×Bx)→List (Nat×Bx)
 | []=>[]
 | (t,b)::L=>(m+t,b)::Qber m L
theorem Q66 {m t:Nat}:∀ {Lr:List (Nat×Bx)},Qb9 (Qber m Lr++L) t=if m≤t then (match Qb9 Lr (t-m) with|some b=>some b|none=>Qb9 L t) else Qb9 L t
 | []=>by
  simp only [Qber,List.nil_append,Qb9];split<;>rfl
 | (u,b)::Lr=>by
  simp only [Qber,List.cons_append,Qb9];rw [Q66 (Lr:=Lr)];by_cases hm:m≤t
  ·simp only [hm,if_true];by_cases hu:t=m+u
   ·have h1:Nat.beq t (m+u)=true:=by rw [hu];exact Nat.beq_refl _
    have h2:Nat.beq (t-m) u=true:=by
     have:t-m=u:=by omega
     rw [this];exact Nat.beq_refl _
    rw [h1,h2];rfl
   ·have h1:Nat.beq t (m+u)=false:=by
     cases hq:Nat.beq t (m+u) with
     | false=>rfl
     | true=>exact absurd (Nat.eq_of_beq_eq_true hq) hu
    have h2:Nat.beq (t-m) u=false:=by
     cases hq:Nat.beq (t-m) u with
     | false=>rfl
     | true=>have:=Nat.eq_of_beq_eq_true hq;omega
    rw [h1,h2];rfl
  ·have h1:Nat.beq t (m+u)=false:=by
    cases hq:Nat.beq t (m+u) with
    | false=>rfl
    | true=>have:=Nat.eq_of_beq_eq_true hq;omega
   rw [h1];simp only [hm,if_false,cond_false]
theorem Qbes {m:Nat} (hL:(L.all fun p=>Nat.blt p.1 m)=true) {t:Nat} (h:m≤t):Qb9 L t=none:=by
 cases hb:Qb9 L t with
 | none=>rfl
 | some b =>
  obtain ⟨p,hp,he⟩:=Q2t hb;have:=List.all_eq_true.1 hL p hp;have:=Nat.le_of_ble_eq_true this;omega
theorem Qbin {n0 m:Nat} {Lr:List (Nat×Bx)} (hL:(L.all fun p=>Nat.blt p.1 m)=true):Qo (n0+m) Lr (Qo n0 L M0)=Qo n0 (Qber m Lr++L) M0:=by
 funext k;simp only [Qo];by_cases h1:k<n0
 ·rw [if_pos (by omega),if_pos h1,if_pos h1]
 ·by_cases h2:k<n0+m
  ·rw [if_pos h2,if_neg h1,if_neg h1,Q66,if_neg (by omega)]
  ·rw [if_neg h2,if_neg h1,Q66,if_pos (by omega),Qbes hL (t:=k-n0) (by omega),show k-(n0+m)=k-n0-m from by omega];cases Qb9 Lr (k-n0-m)<;>rfl
theorem Rn.callNew {f:FuncId} {as:List Arg} {args:List V} {r r' : V} {m n:Nat} {Lr L' : List (Nat×Bx)} (hw:Wn E gd) (ha:V.dems (as.map (·.val (look E)))=args)
  (hC:ACalls Γ.P f args (Qo Γ.n0 L M0) (Γ.n0+m) r (Qo (Γ.n0+m) Lr (Qo Γ.n0 L M0)) (Γ.n0+m+n)) (hr:r=r') (hLr:Qber m Lr=L') (hL:(L.all fun p=>Nat.blt p.1 m)=true) (hM:∀ k,Γ.n0≤k→M0 k=none) (hpc:pcOf pc=0)
  (h:Rn Γ pc os ⟨look ((d,r')::E),Qo Γ.n0 (L'++L) M0,Γ.n0+(m+n)⟩ Q):Rn Γ pc (⟨some d,.call f,as,false,gd⟩::os) ⟨look E,Qo Γ.n0 L M0,Γ.n0+m⟩ Q:=by
 subst hr hLr;refine Rn.cons ?_;unfold COp.run;rw [hw.wanted];simp only [show (K.call f).isCall=true from rfl,if_true,COp.callee,ha];rw [hpc];refine ⟨r,Qo (Γ.n0+m) Lr (Qo Γ.n0 L M0),Γ.n0+m+n,hC,fun k hk=>?_,fun k cs2 hk hM'=>.inl ?_,?_⟩
 ·rcases Nat.lt_or_ge k (Γ.n0+m) with hlt|hge
  ·rw [Qdl hlt];exact hk
  ·rw [Q6v hM hL k hge] at hk;cases hk
 ·rw [Qdl (by omega)]
 ·rw [show Qbf (look E) (some d) r=look ((d,r)::E) from Qdc E d r,Qbin hL,show Γ.n0+m+n=Γ.n0+(m+n) from by omega];exact h
def LOn (p:Nat→Prop):List (Nat×Bx)→Prop
 | []=>True
 | (_,.cells cs)::L=>V.ons p cs∧LOn p L
 | (_,.mp ..)::L=>LOn p L
theorem LOn.at {p:Nat→Prop}:∀ {L:List (Nat×Bx)},LOn p L→∀ t cs,Qb9 L t=some (.cells cs)→V.ons p cs
 | [],_,t,cs,h=>by cases h
 | (u,.cells ds)::L,hp,t,cs,h=>by
  simp only [Qb9] at h;cases hb:Nat.beq t u with
  | true=>rw [hb] at h;cases h;exact hp.1
  | false=>rw [hb] at h;exact LOn.at hp.2 t cs h
 | (u,.mp ..)::L,hp,t,cs,h=>by
  simp only [Qb9] at h;cases hb:Nat.beq t u with
  | true=>rw [hb] at h;cases h
  | false=>rw [hb] at h;exact LOn.at (L:=L) hp t cs h
theorem Qbf1 {p:Nat→Prop} {g:α→List V} (h:∀ x,V.ons p (g x)):∀ xs:List α,V.ons p (Q3 g xs)
 | []=>trivial
 | x::xs=>by rw [Qgd];exact Qg5.2 ⟨h x,Qbf1 h xs⟩
theorem thN {n0 t:Nat} {b:Bx} (h:Qb9 L t=some b):There (Qo n0 L M0) (n0+t):=by simp [There,Qcx,h]
def LR (M:Mem) (n0:Nat):List (Nat×Bx)→Prop
 | []=>True
 | (t,b)::L=>M (n0+t)=some b∧LR M n0 L
theorem lrAt {n0:Nat}:∀ {Lr:List (Nat×Bx)},LR M n0 Lr→∀ t b,Qb9 Lr t=some b→M (n0+t)=some b
 | [],_,t,b,h=>by cases h
 | (u,c)::Lr,hp,t,b,h=>by
  simp only [Qb9] at h;cases hb:Nat.beq t u with
  | true =>
   rw [hb] at h;have:=Nat.eq_of_beq_eq_true hb;subst this;cases h;exact hp.1
  | false=>rw [hb] at h;exact lrAt hp.2 t b h
def FinN (rs:List Res) (r:V) (n0:Nat) (M0:Mem) (Lr:List (Nat×Bx)) (n:Nat):Ex→St→Prop:=fun e σ =>
 (e = .norm∨e = .ret)∧∃ r',Q2i σ rs=some r'∧Wk r' r∧r.on (There (Qo n0 Lr M0))∧LOn (There (Qo n0 Lr M0)) Lr∧(∀ k,k<n0→σ.M k=M0 k)∧(∀ t b,Qb9 Lr t=some b→σ.M (n0+t)=some b)∧(Lr.all fun p=>Nat.blt p.1 n)=true
theorem Qbpl {P:Program} {f:FuncId} {cf:CFn} (hcf:Qy P f=some cf) {args:List V} {r:V} (hargs:Nat.beq args.length cf.np=true) (M:Mem) (nb:Nat) {Lr:List (Nat×Bx)} {n:Nat}
  (hrun:∀ (Γ:Env),Γ.P=P→Γ.nt=cf.nt→Γ.n0=nb→(∀ k,Γ.n0≤k→M k=none)→Tr Γ cf.body ⟨Qtk args,Qo Γ.n0 [] M,Γ.n0+cf.nt⟩ (FinN cf.res r Γ.n0 M Lr n)):ACalls P f args M nb r (Qo nb Lr M) (nb+n):=by
 by_cases hM:∀ k,nb≤k→M k=none
 case neg=>exact Qbal (Qoa hcf) (by omega) hM
 by_cases hon:MOn (There M) M
 case neg=>exact ⟨Qoa hcf,by omega,fun w g us hm h=>absurd h hon⟩
 refine Qbqb hcf hM (Nat.eq_of_beq_eq_true hargs) (by omega) fun Γ hP hn ht=>?_;have h:=hrun Γ hP ht hn (by rw [hn];exact hM);rw [Q81 (by rw [hn];exact hM),hn] at h;refine h.mono ?_;rintro e σ' ⟨he,r',h1,h2,h3,h4,h5,h6,h7⟩;have hlt:∀ k,There M k→k<nb:=fun k hk=>by
  rcases Nat.lt_or_ge k nb with h|h
  ·exact h
  ·simp [There,hM k h] at hk
 have hsub:∀ k,There M k→There (Qo nb Lr M) k:=fun k hk=>by
  have:=hlt k hk;simp only [There] at hk ⊢;rw [Qdl this];exact hk
 refine ⟨he,r',h1,h2,fun k b hk=>?_,h3,fun k cs hk=>?_,fun k hk=>?_⟩
 ·rcases Nat.lt_or_ge k nb with hl|hge
  ·rw [Qdl hl] at hk;rw [h5 k hl];exact hk
  ·obtain ⟨t,rfl⟩ : ∃ t,k=nb+t:=⟨k-nb,by omega⟩;rw [Qcx] at hk;exact h6 t b hk
 ·rcases Nat.lt_or_ge k nb with hl|hge
  ·rw [Qdl hl] at hk;exact ons_mono hsub cs (hon k cs hk)
  ·obtain ⟨t,rfl⟩ : ∃ t,k=nb+t:=⟨k-nb,by omega⟩;rw [Qcx] at hk;exact h4.at t cs hk
 ·rcases Nat.lt_or_ge k nb with hl|hge
  ·omega
  ·obtain ⟨t,rfl⟩ : ∃ t,k=nb+t:=⟨k-nb,by omega⟩;simp only [There,Qcx] at hk;rcases Nat.lt_or_ge t n with h|h
   ·omega
   ·rw [Qbes h7 h] at hk;cases hk
end Go.Abs
end
section
namespace Go.Abs
open Go
def Mem.puts (M:Mem):List (Nat×Bx)→Mem
 | []=>M
 | (k,b)::l=>(Mem.puts M l).put k b
variable {M M0 M1 M2 M3:Mem} {k k' : Nat} {b b' c:Bx} {B B' : List (Nat×Bx)}
theorem pg0:M.puts ((k,b)::B) k=some b:=by simp [Mem.puts,Mem.put]
def Qbm6 (M:Mem):List (Nat×Bx)→Prop
 | []=>True
 | (k,b)::l=>M k=some b∧Qbm6 M l
theorem Qbg8:∀ {B:List (Nat×Bx)},Qbm6 M B→M.puts B=M
 | [],_=>rfl
 | (k,b)::l,h=>by
  rw [Mem.puts,Qbg8 h.2];funext i;simp only [Mem.put];split
  ·rename_i e;subst e;exact h.1.symm
  ·rfl
theorem There.puts:∀ {B:List (Nat×Bx)} {k:Nat},There M k→There (M.puts B) k
 | [],_,h=>h
 | _::l,_,h=>There.put (There.puts (B:=l) h)
variable {Γ:Env} {pc d nb:Nat} {os:List COp} {E:List (Nat×V)} {L L' : List (Nat×Bx)} {Q:St→Prop} {gd:Option (Nat×Bool)} {x y:Arg}
theorem Tr.puts {cc:CC} {s:Sl} {Q:Ex→St→Prop} (B:List (Nat×Bx)) (h:Qbm6 M0 B) (k:Tr Γ cc ⟨s,Qo Γ.n0 L (M0.puts B),nb⟩ Q):Tr Γ cc ⟨s,Qo Γ.n0 L M0,nb⟩ Q:=by
 rw [Qbg8 h] at k;exact k
def OkB (n0:Nat):List (Nat×Bx)→Prop
 | []=>True
 | (k,.cells cs)::l=>(n0≤k∨V.lt.go n0 cs=true)∧OkB n0 l
 | (k,.mp ..)::l=>OkB n0 l
theorem OkB.at {n0:Nat} {M:Mem}:∀ {B:List (Nat×Bx)},OkB n0 B→∀ k cs,k<n0→M.puts B k=some (.cells cs)→M.puts B k=M k∨V.lt.go n0 cs=true
 | [],_,_,_,_,_=>.inl rfl
 | (j,.cells ds)::l,h,k,cs,hk,hg=>by
  by_cases e:k=j
  ·subst e;simp only [Mem.puts,Mem.put,if_true,Option.some.injEq,Bx.cells.injEq] at hg;subst hg;rcases h.1 with h1|h1
   ·omega
   ·exact .inr h1
  ·simp only [Mem.puts,Mem.put,e,if_false] at hg ⊢;exact OkB.at h.2 k cs hk hg
 | (j,.mp ..)::l,h,k,cs,hk,hg=>by
  by_cases e:k=j
  ·subst e;simp only [Mem.puts,Mem.put,if_true] at hg;cases hg
  ·simp only [Mem.puts,Mem.put,e,if_false] at hg ⊢;exact OkB.at (B:=l) h k cs hk hg
def AllIn (M:Mem):List (Nat×Bx)→Prop
 | []=>True
 | (k,_)::B=>(M k).isSome=true∧AllIn M B
theorem AllIn.at {M:Mem}:∀ {B:List (Nat×Bx)},AllIn M B→∀ k,(B.any fun p=>Nat.beq p.1 k)=true→(M k).isSome=true
 | [],_,k,h=>by cases h
 | (j,b)::B,hA,k,h=>by
  simp only [List.any_cons,Bool.or_eq_true] at h;rcases h with h|h
  ·have:=Nat.eq_of_beq_eq_true h;subst this;exact hA.1
  ·exact AllIn.at hA.2 k h
theorem OkB.cells {n0:Nat}:∀ {B:List (Nat×Bx)},OkB n0 B→∀ k cs,k<n0→Mem.puts (fun _=>none) B k=some (.cells cs)→V.lt.go n0 cs=true
 | [],_,_,_,_,h=>by cases h
 | (j,.cells ds)::l,h,k,cs,hk,hg=>by
  by_cases e:k=j
  ·subst e;simp only [Mem.puts,Mem.put,if_true,Option.some.injEq,Bx.cells.injEq] at hg;subst hg;rcases h.1 with h1|h1
   ·omega
   ·exact h1
  ·simp only [Mem.puts,Mem.put,e,if_false] at hg;exact OkB.cells (B:=l) h.2 k cs hk hg
 | (j,.mp ..)::l,h,k,cs,hk,hg=>by
  by_cases e:k=j
  ·subst e;simp only [Mem.puts,Mem.put,if_true] at hg;cases hg
  ·simp only [Mem.puts,Mem.put,e,if_false] at hg;exact OkB.cells (B:=l) h k cs hk hg
theorem Rn.storeV {t u off:Nat} {v:V} {cs cs' : List V} (hw:Wn E gd) (ha:x.val (look E) = .ptr (Γ.n0+t) off) (hb:look E u=v) (hv:Qfm v=true) (hf:v.topS=v) (hf2:v.dem=v) (hM:Qb9 L t=some (.cells cs))
  (hn:(Nat.beq v.cells.length 1&&Nat.ble (off+1) cs.length)=true) (hcs:cs.take off++v.cells++cs.drop (off+1)=cs')
  (h:Rn Γ pc os ⟨look E,Qo Γ.n0 ((t,.cells cs')::L) M0,nb⟩ Q):Rn Γ pc (⟨none,.store 1,[x,.t u],true,gd⟩::os) ⟨look E,Qo Γ.n0 L M0,nb⟩ Q:=by
 simp only [Bool.and_eq_true] at hn;have h1:v.cells.length=1:=Nat.eq_of_beq_eq_true hn.1;have h2:=Nat.le_of_ble_eq_true hn.2;have hm:[x,Arg.t u].map (fun x=>x.val (look E))=[V.ptr (Γ.n0+t) off,v]:=by simp only [List.map_cons,List.map_nil,ha];rw [show (Arg.t u).val (look E)=_ from hb]
 refine Rn.kS (v:=.und) hw ?_ (fun i=>?_) h
 ·simp only [if_true,hm];simp only [Qn];cases v<;>first
   | (simp [Qfm] at hv;done)
   | (simp only [Q5 hM,hf,h1,h2,decide_true,Bool.true_and,Nat.le_add_right,Bool.true_or,if_true];rw [hcs,Qeb])
 ·simp only [if_true,hm,Qbu,Q7,hf2];have:x.putTo (look E) (.ptr (Γ.n0+t) off)=look E:=by
   cases x with
   | c v=>rfl
   | t j =>
    simp only [Arg.val] at ha;funext i;simp only [Arg.putTo,Sl.put];split
    ·rename_i e;subst e;exact ha.symm
    ·rfl
  have h3:(look E).put u v=look E:=by
   funext i;simp only [Sl.put];split
   ·rename_i e;subst e;exact hb.symm
   ·rfl
  rw [this,show (Arg.t u).putTo (look E) v=(look E).put u v from rfl,h3]
def argE:List Arg→List V→List (Nat×V)→List (Nat×V)
 | .t i::as,v::vs,E=>argE as vs ((i,v)::E)
 | .c _::as,_::vs,E=>argE as vs E
 | _,_,E=>E
theorem Q2x:∀ (as:List Arg) (vs:List V) (E:List (Nat×V)),Q7 (look E) as vs=look (argE as vs E)
 | [],vs,E=>by cases vs<;>rfl
 | a::as,[],E=>by cases a<;>rfl
 | .t i::as,v::vs,E=>by
  simp only [Q7,argE];rw [show (Arg.t i).putTo (look E) v=(look E).put i v from rfl,Qdc];exact Q2x as vs _
 | .c _::as,v::vs,E=>by
  simp only [Q7,argE];exact Q2x as vs E
theorem Rn.buildT {as:List Arg} {z:List V} {ps:List (Nat×Nat)} {v:V} (hw:Wn E gd) (hk:Qn Γ.n0 (Γ.n0+d) (.build z ps) (as.map (·.val (look E))) M=some (v,M))
  (h:Rn Γ pc os ⟨look ((d,v)::argE as (V.dems (as.map (·.val (look E)))) E),M,nb⟩ Q):Rn Γ pc (⟨some d,.build z ps,as,true,gd⟩::os) ⟨look E,M,nb⟩ Q:=by
 refine Rn.kT hw rfl rfl hk (fun i=>?_) h;rw [show Qbu (.build z ps) (as.map (·.val (look E)))=V.dems (as.map (·.val (look E))) from by cases as<;>rfl,Q2x,Qdc]
theorem Rn.storeT {t u off n:Nat} {v:V} {ds cs cs' : List V} (hw:Wn E gd) (ha:x.val (look E) = .ptr (Γ.n0+t) off) (hb:look E u=v) (hv:Qfm v=true) (hds:v.topS.cells=ds) (hM:Qb9 L t=some (.cells cs))
  (hn:(Nat.beq ds.length n&&Nat.ble (off+n) cs.length)=true) (hcs:cs.take off++ds++cs.drop (off+n)=cs')
  (h:Rn Γ pc os ⟨look ((u,v.dem)::E),Qo Γ.n0 ((t,.cells cs')::L) M0,nb⟩ Q):Rn Γ pc (⟨none,.store n,[x,.t u],true,gd⟩::os) ⟨look E,Qo Γ.n0 L M0,nb⟩ Q:=by
 simp only [Bool.and_eq_true] at hn;have h1:v.topS.cells.length=n:=by rw [hds];exact Nat.eq_of_beq_eq_true hn.1
 have h2:=Nat.le_of_ble_eq_true hn.2;have hm:[x,Arg.t u].map (fun x=>x.val (look E))=[V.ptr (Γ.n0+t) off,v]:=by simp only [List.map_cons,List.map_nil,ha];rw [show (Arg.t u).val (look E)=_ from hb]
 refine Rn.kS (v:=.und) hw ?_ (fun i=>?_) h
 ·simp only [if_true,hm];simp only [Qn];cases v<;>first
   | (simp [Qfm] at hv;done)
   | (simp only [Q5 hM,h1,h2,decide_true,Bool.true_and,Nat.le_add_right,Bool.true_or,if_true];rw [hds,hcs,Qeb])
 ·simp only [if_true,hm,Qbu,Q7];have:x.putTo (look E) (.ptr (Γ.n0+t) off)=look E:=by
   cases x with
   | c v=>rfl
   | t j =>
    simp only [Arg.val] at ha;funext i;simp only [Arg.putTo,Sl.put];split
    ·rename_i e;subst e;exact ha.symm
    ·rfl
  rw [this,show (Arg.t u).putTo (look E) v.dem=(look E).put u v.dem from rfl,Qdc]
def WkB:List (Nat×Bx)→List (Nat×Bx)→Prop
 | [],[]=>True
 | (k,.cells cs)::B,(k',.cells cs')::B'=>(k=k'∧WkVs cs cs')∧WkB B B'
 | _,_=>False
theorem WkB.at {M:Mem}:∀ {B B' : List (Nat×Bx)},WkB B B'→∀ k,M.puts B' k=M.puts B k∨∃ cs cs',M.puts B k=some (.cells cs)∧M.puts B' k=some (.cells cs')∧WkVs cs cs'
 | [],[],_,_=>.inl rfl
 | (j,.cells cs)::B,(j',.cells cs')::B',h,k=>by
  obtain ⟨⟨e,hw⟩,h⟩:=h;subst e;by_cases hk:k=j
  ·subst hk;exact .inr ⟨cs,cs',pg0,pg0,hw⟩
  ·simp only [Mem.puts,Mem.put,hk,if_false];exact WkB.at h k
 | [],_::_,h,_=>h.elim
 | (_,.cells _)::_,[],h,_=>h.elim
 | (_,.mp ..)::_,[],h,_=>h.elim
 | (_,.mp ..)::_,_::_,h,_=>h.elim
 | (_,.cells _)::_,(_,.mp ..)::_,h,_=>h.elim
end Go.Abs
end
section
namespace Go.Abs
open Go
theorem Qbm7 {α:Type} {e:α→List D} {g:α→List V} (hg:∀ x,g x=(e x).map V.d):∀ xs:List α,Qc1 (List.map e xs) 0=Q3 g xs
 | []=>rfl
 | x::xs=>by
  have:=Qbm7 hg xs;unfold Qc1 at this ⊢;rw [Qgd,← this,hg];simp
theorem Qbm8 {α:Type} {e:α→List D} {g:α→List V} {sz:Nat} {P:Program} {c:Nat} {ex:List V} {xs ys:List α} (hg:∀ x,g x=(e x).map V.d)
  (hr:xs.length≤maxLen→∀ cap k0 M nb,M k0=some (.cells (Qc1 (List.map e xs) ((cap-xs.length)*sz)))→ACalls P c (.sl sz k0 0 xs.length cap::ex) M nb (.tup []) (M.put k0 (.cells (Qc1 (List.map e ys) ((cap-xs.length)*sz)))) nb)
  (hl:xs.length≤maxLen) {k nb:Nat} {M:Mem} (hM:M k=some (.cells (Q3 g xs))):ACalls P c (.sl sz k 0 xs.length xs.length::ex) M nb (.tup []) (M.put k (.cells (Q3 g ys))) nb:=by
 have h:=hr hl xs.length k M nb;rw [Nat.sub_self,Nat.zero_mul,Qbm7 hg,Qbm7 hg] at h;exact h hM
end Go.Abs
end
section
namespace Go.Abs
open Go
variable {α:Type}
variable {Γ:Env} {pc d nb:Nat} {os:List COp} {E:List (Nat×V)} {M M0:Mem} {L:List (Nat×Bx)} {Q:St→Prop} {gd:Option (Nat×Bool)} {a b:Arg} {g:α→List V} {xs:List α} {sz:Nat}
end Go.Abs
end
section
namespace Go.Abs
open Go
section
variable {lk:Option Bx} {P:Prop} {f:V→V} {cs cs' : List V}
theorem bS (h1:lk=some (.cells cs)) (h2:P) (h3:cs.map f=cs'):∃ cs,lk=some (.cells cs)∧P∧WkVs (cs.map f) cs':=⟨cs,h1,h2,.same h3⟩
theorem bM {α:Type} {g:α→List V} {xs:List α} (h1:lk=some (.cells (Q3 g xs))) (h2:P) (h3:∀ x,(g x).map f=g x):∃ cs,lk=some (.cells cs)∧P∧WkVs (cs.map f) (Q3 g xs):=⟨_,h1,h2,Qbrn h3⟩
end
theorem mB {n0:Nat} {L:List (Nat×Bx)} {M0:Mem}:∀ k,k<n0→Qo n0 L M0 k=M0 k:=fun _ hk=>Qdl hk
theorem cS {v v' : V} {vs vs' : List V} (h:v=v') (t:WkVs vs vs'):WkVs (v::vs) (v'::vs'):=.cons (sm h) t
section
variable {Γ:Env} {pc:Nat} {os:List COp} {E:List (Nat×V)} {M:Mem} {nb:Nat} {Q:St→Prop}
theorem sF {t:Nat} {k:K} {as:List Arg} {tk:Bool} {g:Nat} {want:Bool} (h1:look E g = .d (.bool false)) (h2:false = !want) (h:Rn Γ pc os ⟨look ((t,.tup [])::E),M,nb⟩ Q):Rn Γ pc (⟨some t,k,as,tk,some (g,want)⟩::os) ⟨look E,M,nb⟩ Q:=Rn.sk (nw h1 h2) h
theorem sT {t:Nat} {k:K} {as:List Arg} {tk:Bool} {g:Nat} {want:Bool} (h1:look E g = .d (.bool true)) (h2:true = !want) (h:Rn Γ pc os ⟨look ((t,.tup [])::E),M,nb⟩ Q):Rn Γ pc (⟨some t,k,as,tk,some (g,want)⟩::os) ⟨look E,M,nb⟩ Q:=Rn.sk (nw h1 h2) h
theorem lB {d:Nat} {a:Arg} {L:List (Nat×Bx)} {M0:Mem} {t off n:Nat} {ag:Bool} {cs:List V} {v:V} (ha:a.val (look E) = .ptr (Γ.n0+t) off) (hM:Qb9 L t=some (.cells cs)) (hn:Nat.ble (off+n) cs.length=true) (hv:(if ag then some (.agg (V.dems ((cs.drop off).take n))) else (cs[off]?).map (·.dem))=some v)
  (h:Rn Γ pc os ⟨look ((d,v)::E),Qo Γ.n0 L M0,nb⟩ Q):Rn Γ pc (⟨some d,.load ag n,[a],false,none⟩::os) ⟨look E,Qo Γ.n0 L M0,nb⟩ Q:=Rn.load trivial ha (Q5 hM) hn hv h
end
end Go.Abs
end
section
namespace Go.Abs
universe u
open Go
section
variable {κ α:Type} [BEq κ]
abbrev ownE (sz:Nat) (e:α→List D) (x:List α):V:=.own sz (x.map e)
def mapH (ek:κ→V) (sz:Nat) (e:α→List D) (k:κ):Nat→List (κ×List α)→List (V×V×Nat)
 | _,[]=>[]
 | i,(k',v)::m=>if k==k' then (ek k',.d (.lst sz (v.map e)),i)::mapE ek (ownE sz e) (i+1) m else (ek k',ownE sz e v,i)::mapH ek sz e k (i+1) m
abbrev takH (sz:Nat) (e:α→List D) (m:List (κ×List α)) (k:κ):V:=if hasM m k then .own sz ((getM m k []).map e) else .nils sz
variable {ek:κ→V} {sz:Nat} {e:α→List D}
theorem Qbjq {ev:α→V}:∀ {n i:Nat} (m:List (κ×α)),n≤i→upM n (mapE ek ev i m)=true
 | _,_,[],_=>rfl
 | n,i,_::m,h=>by
  simp only [mapE,upM,decide_eq_true h,Bool.true_and];exact Qbjq m (Nat.le_refl _)
theorem Qbc5 {k:κ}:∀ {i:Nat} {m:List (κ×List α)},hasM m k=false→mapH ek sz e k i m=mapE ek (ownE sz e) i m
 | _,[],_=>rfl
 | i,(k',v)::m,h=>by
  simp only [hasM,List.any_cons,Bool.or_eq_false_iff] at h;simp only [mapH,mapE,h.1,Bool.false_eq_true,if_false];rw [Qbc5 (m:=m) h.2]
theorem Qbg9 {k:κ}:∀ {i:Nat} {m:List (κ×List α)},hasM m k=true→∃ x,(mapE ek (ownE sz e) i m)[idxS m k]? = some x∧modM x.1 (.d (.lst sz ((getM m k []).map e))) (idxS m k) (mapE ek (ownE sz e) i m)=mapH ek sz e k i m
 | _,[],h=>by cases h
 | i,(k',v)::m,h=>by
  simp only [hasM,List.any_cons] at h;simp only [idxS,mapE,mapH,getM];cases hb:(k==k') with
  | true=>exact ⟨_,rfl,by simp [modM]⟩
  | false =>
   rw [hb] at h;obtain ⟨x,h1,h2⟩:=Qbg9 (i:=i+1) (m:=m) (k:=k) (by simpa [hasM] using h);refine ⟨x,by simpa using h1,?_⟩;simp only [Bool.false_eq_true,if_false,modM,h2]
theorem Qbjr {k:κ} {kd:MK} (hk:∀ a,kd.ok (ek a)=true):∀ (i:Nat) (m:List (κ×List α)),kd.all (mapH ek sz e k i m)=true
 | _,[]=>rfl
 | i,(k',v)::m=>by
  simp only [mapH];have h1:=Qvh (ev:=ownE sz e) hk (i+1) m;have h2:=Qbjr (k:=k) hk (i+1) m;simp only [MK.all] at *
  split<;>simp [hk,h1,h2]
theorem Qbha (hs:∀ a b,Qg1 (ek a) (ek b)=(a==b)) {k:κ}:∀ (i:Nat) (m:List (κ×List α)),Qfn (ek k) (mapH ek sz e k i m)=if hasM m k then some (idxS m k,.d (.lst sz ((getM m k []).map e))) else none
 | _,[]=>rfl
 | i,(k',v)::m=>by
  simp only [mapH,Q83,idxS,getM];by_cases hb:(k==k')=true
  ·simp [Qfn,hs,hb]
  ·simp only [hb,Bool.false_eq_true,if_false,Qfn,hs,Bool.false_or,Qbha hs (i+1) m];by_cases hq:hasM m k=true
   ·rw [if_pos hq,if_pos hq];rfl
   ·rw [if_neg hq,if_neg hq];rfl
theorem Qbjs {k:κ} {v:List α}:∀ (i:Nat) {m:List (κ×List α)},hasM m k=true→modM (ek k) (ownE sz e v) (idxS m k) (mapH ek sz e k i m)=mapE ek (ownE sz e) i (setM m k v)
 | _,[],h=>by cases h
 | i,(k',v')::m,h=>by
  simp only [hasM,List.any_cons] at h;simp only [idxS,setM,mapH];cases hb:(k==k') with
  | true=>simp [modM,mapE]
  | false =>
   rw [hb] at h;simp only [Bool.false_eq_true,if_false,modM,mapE];rw [Qbjs (i+1) (by simpa [hasM] using h)]
variable {Γ:Env} {pc d nb:Nat} {os:List COp} {E:List (Nat×V)} {M M' M0:Mem} {L:List (Nat×Bx)} {Q:St→Prop} {gd:Option (Nat×Bool)} {a b c:Arg} {m:List (κ×List α)}
section
variable (hs:∀ a b,Qg1 (ek a) (ek b)=(a==b)) {kd:MK} (hk:∀ a,kd.ok (ek a)=true)
include hs hk
theorem Rn.lookupT {t:Nat} {z:V} {k:κ} (hz:z = .nils sz) (hw:Wn E gd) (ha:a.val (look E) = .mp (Γ.n0+t)) (hb:(b.val (look E)).dem=ek k) (hM:Qb9 L t=some (.mp (mapE ek (ownE sz e) 0 m) m.length))
  (h:Rn Γ pc os ⟨look ((d,takH sz e m k)::E),Qo Γ.n0 ((t,.mp (mapH ek sz e k 0 m) m.length)::L) M0,nb⟩ Q):Rn Γ pc (⟨some d,.lookupT kd z,[a,b],false,gd⟩::os) ⟨look E,Qo Γ.n0 L M0,nb⟩ Q:=by
 subst hz;refine Rn.k hw rfl rfl ?_ h;simp only [List.map_cons,List.map_nil,V.dems,ha,hb,V.dem,Qn,Q5 hM,hk,Qvh hk,Qbjq m (Nat.le_refl _),Bool.and_self,if_true,Qts hs 0 m []];rw [← Qeb];cases hh:hasM m k with
 | true =>
  obtain ⟨x,h1,h2⟩:=Qbg9 (ek:=ek) (sz:=sz) (e:=e) (i:=0) hh;simp only [if_true,h1,Option.map_some,takH,hh,h2]
 | false =>
  simp only [Bool.false_eq_true,if_false,takH,hh,Qbc5 hh];have:(Qo Γ.n0 L M0).put (Γ.n0+t) (.mp (mapE ek (ownE sz e) 0 m) m.length)=Qo Γ.n0 L M0:=by
   funext j;simp only [Mem.put];split
   ·rename_i hj;subst hj;exact (Q5 hM).symm
   ·rfl
  rw [this];rfl
theorem Rn.lookupO {k0:Nat} {z:V} {k:κ} (hz:z = .d (.lst sz [])) (hw:Wn E gd) (ha:a.val (look E) = .mp k0) (hb:(b.val (look E)).dem=ek k) (hM:M k0=some (.mp (mapE ek (ownE sz e) 0 m) m.length))
  (h:Rn Γ pc os ⟨look ((d,.d (.lst sz ((getM m k []).map e)))::E),M,nb⟩ Q):Rn Γ pc (⟨some d,.lookup kd false z,[a,b],false,gd⟩::os) ⟨look E,M,nb⟩ Q:=by
 subst hz;refine Rn.k hw rfl rfl ?_ h;simp only [List.map_cons,List.map_nil,V.dems,ha,hb,V.dem,Qn,hM,hk,Qvh hk,Bool.and_self,if_true,Qts hs 0 m []];cases hh:hasM m k with
 | true=>simp [V.mv,V.dem]
 | false =>
  have:getM m k ([]:List α)=[]:=by
   clear hM h
   induction m with
   | nil=>rfl
   | cons p m ih =>
    simp only [hasM,List.any_cons,Bool.or_eq_false_iff] at hh;simp only [getM,hh.1,Bool.false_eq_true,if_false];exact ih hh.2
  simp [this,V.dat]
theorem Rn.mapsetT {t u:Nat} {k:κ} {v:List α} (hw:Wn E gd) (ha:a.val (look E) = .mp (Γ.n0+t)) (hb:b.val (look E)=ek k) (hc:look E u = .own sz (v.map e)) (hM:Qb9 L t=some (.mp (mapH ek sz e k 0 m) m.length))
  (h:Rn Γ pc os ⟨look ((u,.d (.lst sz (v.map e)))::E),Qo Γ.n0 ((t,.mp (mapE ek (ownE sz e) 0 (setM m k v)) (setM m k v).length)::L) M0,nb⟩ Q):Rn Γ pc (⟨none,.mapsetT kd,[a,b,.t u],true,gd⟩::os) ⟨look E,Qo Γ.n0 L M0,nb⟩ Q:=by
 refine Rn.cons ?_;unfold COp.run;rw [hw.wanted];have hm:[a,b,Arg.t u].map (fun x=>x.val (look E))=[.mp (Γ.n0+t),ek k,.own sz (v.map e)]:=by
  simp only [List.map_cons,List.map_nil,ha,hb];rw [show (Arg.t u).val (look E)=_ from hc]
 have hst:Qn Γ.n0 (Γ.n0+0) (.mapsetT kd) [.mp (Γ.n0+t),ek k,.own sz (v.map e)] (Qo Γ.n0 L M0)=some (.und,Qo Γ.n0 ((t,.mp (mapE ek (ownE sz e) 0 (setM m k v)) (setM m k v).length)::L) M0):=by
  simp only [Qn,Q5 hM,hk,Qbjr hk,Bool.and_self,if_true,Qbha hs];rw [← Qeb];cases hh:hasM m k with
  | true=>simp only [if_true];rw [Qbjs 0 hh,Qzk hh]
  | false =>
   simp only [Bool.false_eq_true,if_false];rw [Q84 hh,Qzj,Qbc5 hh];simp [mapE]
 simp only [K.isCall,K.isNil,Bool.false_eq_true,if_false,COp.step,COp.xs,if_true,Option.getD_none,hm,hst,Qbf];have hsl:Q7 (look E) [a,b,Arg.t u] (Qbu (.mapsetT kd) [.mp (Γ.n0+t),ek k,.own sz (v.map e)])=look ((u,.d (.lst sz (v.map e)))::E):=by
  simp only [Qbu,Q7,V.dem];have put_same' : ∀ (x:Arg) (v:V),x.val (look E)=v→x.putTo (look E) v=look E:=by
   intro x v hv;cases x with
   | c _=>rfl
   | t i =>
    funext j;simp only [Arg.putTo,Sl.put];split
    ·rename_i hj;subst hj;exact hv.symm
    ·rfl
  rw [put_same' a _ ha,put_same' b _ hb];exact Qdc E u _
 rw [hsl];exact h
end
theorem Rn.appH {t bytes:Nat} {k:κ} {ys zs:List α} {src:V} (hw:Wn E gd) (ha:look E t=takH sz e m k) (hb:b.val (look E)=src) (hf:src.dem=src) (hss:Qjk M sz src=some (ys.map e)) (hx:appO (getM m k []) ys=some zs) (hbd:(Nat.ble bytes 128&&Nat.ble 1 sz)=true)
  (h:Rn Γ pc os ⟨look ((d,.own sz (zs.map e))::(t,(takH sz e m k).dem)::E),M,nb⟩ Q):Rn Γ pc (⟨some d,.append sz bytes,[.t t,b],true,gd⟩::os) ⟨look E,M,nb⟩ Q:=by
 unfold appO at hx;split at hx<;>cases hx;rename_i hl;simp only [Bool.and_eq_true] at hbd;have h1:=Nat.le_of_ble_eq_true hbd.1;have h2:0<sz:=Nat.le_of_ble_eq_true hbd.2;have hm:[Arg.t t,b].map (fun x=>x.val (look E))=[takH sz e m k,src]:=by
  simp only [List.map_cons,List.map_nil,hb];rw [show (Arg.t t).val (look E)=_ from ha]
 have hgn:hasM m k=false→getM m k ([]:List α)=[]:=by
  intro hh;clear ha h hm hl
  induction m with
  | nil=>rfl
  | cons p m ih =>
   simp only [hasM,List.any_cons,Bool.or_eq_false_iff] at hh;simp only [getM,hh.1,Bool.false_eq_true,if_false];exact ih hh.2
 refine Rn.kT hw rfl rfl (v:=.own sz ((getM m k []++ys).map e)) ?_ (fun i=>?_) h
 ·rw [hm];cases hh:hasM m k with
  | true=>simp [takH,hh,Qn,hss,h1,h2,hl]
  | false =>
   have:=hgn hh;rw [this] at hl ⊢;simp at hl;simp [takH,hh,Qn,hss,h1,h2,hl]
 ·rw [hm];simp only [Qbu,hf,Q7,show ∀ s v,(Arg.t t).putTo s v=s.put t v from fun _ _=>rfl];have hz:∀ s:Sl,b.val s=src→b.putTo s src=s:=by
   intro s hs;cases b with
   | c v=>rfl
   | t u =>
    simp only [Arg.val] at hs;funext i;simp only [Arg.putTo,Sl.put];split
    ·rename_i e;subst e;exact hs.symm
    ·rfl
  have hne:∀ u,b = .t u→u≠t∨src=(takH sz e m k).dem:=by
   rintro u rfl;by_cases hut:u=t
   ·subst hut;simp only [Arg.val] at hb;rw [ha] at hb;exact .inr (by rw [hb,hf])
   ·exact .inl hut
  rw [hz]
  ·rw [Qdc,Qdc]
  ·cases b with
   | c v=>exact hb
   | t u =>
    simp only [Arg.val,Sl.put];split
    ·rename_i hut;rcases hne u rfl with h|h
     ·exact absurd hut h
     ·exact h.symm
    ·exact hb
end
theorem PVf {β:Type} {g:β→List V} (h:∀ x,PV (g x)):∀ {xs:List β},PV (Q3 g xs)
 | []=>trivial
 | x::xs=>by
  rw [Qgd];exact go (h x) (PVf h)
where go:∀ {a b:List V},PV a→PV b→PV (a++b)
 | [],_,_,hb=>hb
 | _::_,_,ha,hb=>⟨ha.1,go ha.2 hb⟩
theorem Qbm9 {κ α:Type} {ek:κ→V} {sz:Nat} {e:α→List D} (hk:∀ k,Qf6 (ek k)=true) (h:∀ x,(e x).all Q6w=true):∀ {i:Nat} {m:List (κ×List α)},Qbbf (mapE ek (ownE sz e) i m)
 | _,[]=>trivial
 | _,_::_=>⟨hk _,Qib h,Qbm9 hk h⟩
theorem sq {v:V}:WkV v v:=.same rfl
theorem sj {β:Type u} {x y:β} (h:some x=some y):y=x:=(Option.some.inj h).symm
def fl2 (off:Nat):V→Option (Nat×Nat)
 | .ptr k o=>some (k,o+off)
 | _=>none
def bi2 (op:BinOp) (tb:Bool):V→V→Option D
 | .d x,.d y=>binD op tb x y
 | _,_=>none
section
variable {Γ:Env} {pc:Nat} {os:List COp} {E:List (Nat×V)} {M:Mem} {nb:Nat} {Q:St→Prop} {d:Nat} {a b c:Arg}
theorem fP {k off o' : Nat} (ha:fl2 off (a.val (look E))=some (k,o')) (h:Rn Γ pc os ⟨look ((d,.ptr k o')::E),M,nb⟩ Q):Rn Γ pc (⟨some d,.fld off,[a],false,none⟩::os) ⟨look E,M,nb⟩ Q:=by
 cases hv:a.val (look E)<;>rw [hv] at ha<;>simp only [fl2,Option.some.injEq,Prod.mk.injEq,reduceCtorEq] at ha;obtain ⟨rfl,rfl⟩:=ha;exact Rn.fldP tv hv rfl h
theorem bN {op:BinOp} {tb:Bool} {z:D} (ha:bi2 op tb (a.val (look E)) (b.val (look E))=some z) (h:Rn Γ pc os ⟨look ((d,.d z)::E),M,nb⟩ Q):Rn Γ pc (⟨some d,.bin op tb,[a,b],false,none⟩::os) ⟨look E,M,nb⟩ Q:=by
 cases hv:a.val (look E)<;>cases hw:b.val (look E)<;>rw [hv,hw] at ha<;>simp only [bi2,reduceCtorEq] at ha;exact Rn.bin tv hv hw ha h
theorem sK {t:Nat} {k:K} {as:List Arg} {tk:Bool} {g:Nat} {q want:Bool} (h1:look E g = .d (.bool q)) (h2:q = !want) (h:Rn Γ pc os ⟨look ((t,.tup [])::E),M,nb⟩ Q):Rn Γ pc (⟨some t,k,as,tk,some (g,want)⟩::os) ⟨look E,M,nb⟩ Q:=Rn.sk (nw h1 h2) h
theorem pT (v:V) {q:Bool} (hq:c.val (look E) = .d (.bool q)) (hb:q=true) (ha:(a.val (look E)).dem=v) (h:Rn Γ pc os ⟨look ((d,v)::E),M,nb⟩ Q):Rn Γ pc (⟨some d,.pick,[c,a,b],false,none⟩::os) ⟨look E,M,nb⟩ Q:=Rn.pickT tv hq hb ha h
theorem pF (v:V) {q:Bool} (hq:c.val (look E) = .d (.bool q)) (hb:q=false) (ha:(b.val (look E)).dem=v) (h:Rn Γ pc os ⟨look ((d,v)::E),M,nb⟩ Q):Rn Γ pc (⟨some d,.pick,[c,a,b],false,none⟩::os) ⟨look E,M,nb⟩ Q:=Rn.pickF tv hq hb ha h
theorem mv (v:V) (ha:(a.val (look E)).dem=v) (h:Rn Γ pc os ⟨look ((d,v)::E),M,nb⟩ Q):Rn Γ pc (⟨some d,.mov,[a],false,none⟩::os) ⟨look E,M,nb⟩ Q:=Rn.mov tv ha h
theorem nO {σ:St} {y:CC} {Q:Ex→St→Prop} (h:Tr Γ y σ Q):Rn Γ pc [] σ (Qbms Γ y Q .norm):=Rn.nil (toN h)
end
end Go.Abs
end
section
namespace Go.Abs
open Go
set_option maxRecDepth 10000
set_option maxHeartbeats 4000000
structure Qb where
  State:Int
  Rank:Int
  Reason:Int
  Event:Int
  deriving DecidableEq
def Qt (x:Qb):List D:=[.int .i64 x.State,.int .i64 x.Rank,.int .i64 x.Reason,.int .i64 x.Event]
abbrev Qfg (x:Qb):List V:=[(i_ x.State),(i_ x.Rank),(i_ x.Reason),(i_ x.Event)]
abbrev Qdy (x:Qb):V:=.agg (Qfg x)
abbrev Qbn (x:List Qb):V:=.d (.lst 4 (List.map Qt x))
abbrev Qm (x:List Qb):V:=.own 4 (List.map Qt x)
structure Qc where
  From:Int
  Event:Int
  To:Int
  deriving DecidableEq
def Qi (x:Qc):List D:=[.int .i64 x.From,.int .i64 x.Event,.int .i64 x.To]
abbrev Qbi (x:Qc):List V:=[(i_ x.From),(i_ x.Event),(i_ x.To)]
abbrev Qce (x:Qc):V:=.agg (Qbi x)
abbrev Qd (x:List Qc):V:=.d (.lst 3 (List.map Qi x))
abbrev Qg (x:List Qc):V:=.own 3 (List.map Qi x)
structure Qe where
  zK:List Int
  zN:Int
  zL:List Int
  zM:List Qc
  deriving DecidableEq
def Qbna (x:Qe):List D:=[.lst 1 (List.map (eI .i64) x.zK),.int .i64 x.zN,.lst 1 (List.map (eI .i64) x.zL),.lst 3 (List.map Qi x.zM)]
abbrev Qs (x:Qe):List V:=[(l_ x.zK),(i_ x.zN),(l_ x.zL),.d (.lst 3 (List.map Qi x.zM))]
abbrev Qh (x:Qe):V:=.agg (Qs x)
structure Qa where
  zA:Qe
  zC:List Int
  zB:List Int
  zD:List Int
  Tick:Int
  deriving DecidableEq
def Qbet (x:Qa):List D:=[.lst 1 (List.map (eI .i64) x.zA.zK),.int .i64 x.zA.zN,.lst 1 (List.map (eI .i64) x.zA.zL),.lst 3 (List.map Qi x.zA.zM),.lst 1 (List.map (eI .i64) x.zC),.lst 1 (List.map (eI .i64) x.zB),.lst 1 (List.map (eI .i64) x.zD),.int .i64 x.Tick]
abbrev Ql (x:Qa):List V:=[(l_ x.zA.zK),(i_ x.zA.zN),(l_ x.zA.zL),.d (.lst 3 (List.map Qi x.zA.zM)),(l_ x.zC),(l_ x.zB),(l_ x.zD),(i_ x.Tick)]
abbrev Qq (x:Qa):V:=.agg (Ql x)
structure Qp where
  zO:Qa
  from_:List (List Qc)
  left_:List Bool
  deriving DecidableEq
structure Qee where
  Kept:List Int
  zG:List Int
  zH:List Qb
  deriving DecidableEq
def Qbkt (x:Qee):List D:=[.lst 1 (List.map (eI .i64) x.Kept),.lst 1 (List.map (eI .i64) x.zG),.lst 4 (List.map Qt x.zH)]
abbrev Qbao (x:Qee):List V:=[(l_ x.Kept),(l_ x.zG),.d (.lst 4 (List.map Qt x.zH))]
abbrev Qbku (x:Qee):V:=.agg (Qbao x)
structure Qb6 where
  zF:Qee
  Rounds:Int
  zI:Qe
  zP:List Int
  zJ:List Int
  deriving DecidableEq
def Qbf2 (x:Qb6):List D:=[.lst 1 (List.map (eI .i64) x.zF.Kept),.lst 1 (List.map (eI .i64) x.zF.zG),.lst 4 (List.map Qt x.zF.zH),.int .i64 x.Rounds,.lst 1 (List.map (eI .i64) x.zI.zK),.int .i64 x.zI.zN,.lst 1 (List.map (eI .i64) x.zI.zL),.lst 3 (List.map Qi x.zI.zM),.lst 1 (List.map (eI .i64) x.zP),.lst 1 (List.map (eI .i64) x.zJ)]
abbrev Qw (x:Qb6):List V:=[(l_ x.zF.Kept),(l_ x.zF.zG),.d (.lst 4 (List.map Qt x.zF.zH)),(i_ x.Rounds),(l_ x.zI.zK),(i_ x.zI.zN),(l_ x.zI.zL),.d (.lst 3 (List.map Qi x.zI.zM)),(l_ x.zP),(l_ x.zJ)]
abbrev Qj (x:Qb6):V:=.agg (Qw x)
structure Qb8 where
  zN:Int
  Marks:Int
  To:(Int×Int×Int×Int×Int)×(Int×Int×Int×Int×Int)×(Int×Int×Int×Int×Int)×(Int×Int×Int×Int×Int)×(Int×Int×Int×Int×Int)
def Qpa (x:Qb8):List D:=[.int .u8 x.zN,.int .u8 x.Marks,.int .u8 x.To.1.1,.int .u8 x.To.1.2.1,.int .u8 x.To.1.2.2.1,.int .u8 x.To.1.2.2.2.1,.int .u8 x.To.1.2.2.2.2,.int .u8 x.To.2.1.1,.int .u8 x.To.2.1.2.1,.int .u8 x.To.2.1.2.2.1,.int .u8 x.To.2.1.2.2.2.1,.int .u8 x.To.2.1.2.2.2.2,.int .u8 x.To.2.2.1.1,.int .u8 x.To.2.2.1.2.1,.int .u8 x.To.2.2.1.2.2.1,.int .u8 x.To.2.2.1.2.2.2.1,.int .u8 x.To.2.2.1.2.2.2.2,.int .u8 x.To.2.2.2.1.1,.int .u8 x.To.2.2.2.1.2.1,.int .u8 x.To.2.2.2.1.2.2.1,.int .u8 x.To.2.2.2.1.2.2.2.1,.int .u8 x.To.2.2.2.1.2.2.2.2,.int .u8 x.To.2.2.2.2.1,.int .u8 x.To.2.2.2.2.2.1,.int .u8 x.To.2.2.2.2.2.2.1,.int .u8 x.To.2.2.2.2.2.2.2.1,.int .u8 x.To.2.2.2.2.2.2.2.2]
abbrev Qci (x:Qb8):List V:=[.d (.int .u8 x.zN),.d (.int .u8 x.Marks),.d (.int .u8 x.To.1.1),.d (.int .u8 x.To.1.2.1),.d (.int .u8 x.To.1.2.2.1),.d (.int .u8 x.To.1.2.2.2.1),.d (.int .u8 x.To.1.2.2.2.2),.d (.int .u8 x.To.2.1.1),.d (.int .u8 x.To.2.1.2.1),.d (.int .u8 x.To.2.1.2.2.1),.d (.int .u8 x.To.2.1.2.2.2.1),.d (.int .u8 x.To.2.1.2.2.2.2),.d (.int .u8 x.To.2.2.1.1),.d (.int .u8 x.To.2.2.1.2.1),.d (.int .u8 x.To.2.2.1.2.2.1),.d (.int .u8 x.To.2.2.1.2.2.2.1),.d (.int .u8 x.To.2.2.1.2.2.2.2),.d (.int .u8 x.To.2.2.2.1.1),.d (.int .u8 x.To.2.2.2.1.2.1),.d (.int .u8 x.To.2.2.2.1.2.2.1),.d (.int .u8 x.To.2.2.2.1.2.2.2.1),.d (.int .u8 x.To.2.2.2.1.2.2.2.2),.d (.int .u8 x.To.2.2.2.2.1),.d (.int .u8 x.To.2.2.2.2.2.1),.d (.int .u8 x.To.2.2.2.2.2.2.1),.d (.int .u8 x.To.2.2.2.2.2.2.2.1),.d (.int .u8 x.To.2.2.2.2.2.2.2.2)]
abbrev Qet (x:Qb8):V:=.agg (Qci x)
structure Qgi where
  Events:Int
  Graph:Qb8
def Qsa (x:Qgi):List D:=[.int .u8 x.Events,.int .u8 x.Graph.zN,.int .u8 x.Graph.Marks,.int .u8 x.Graph.To.1.1,.int .u8 x.Graph.To.1.2.1,.int .u8 x.Graph.To.1.2.2.1,.int .u8 x.Graph.To.1.2.2.2.1,.int .u8 x.Graph.To.1.2.2.2.2,.int .u8 x.Graph.To.2.1.1,.int .u8 x.Graph.To.2.1.2.1,.int .u8 x.Graph.To.2.1.2.2.1,.int .u8 x.Graph.To.2.1.2.2.2.1,.int .u8 x.Graph.To.2.1.2.2.2.2,.int .u8 x.Graph.To.2.2.1.1,.int .u8 x.Graph.To.2.2.1.2.1,.int .u8 x.Graph.To.2.2.1.2.2.1,.int .u8 x.Graph.To.2.2.1.2.2.2.1,.int .u8 x.Graph.To.2.2.1.2.2.2.2,.int .u8 x.Graph.To.2.2.2.1.1,.int .u8 x.Graph.To.2.2.2.1.2.1,.int .u8 x.Graph.To.2.2.2.1.2.2.1,.int .u8 x.Graph.To.2.2.2.1.2.2.2.1,.int .u8 x.Graph.To.2.2.2.1.2.2.2.2,.int .u8 x.Graph.To.2.2.2.2.1,.int .u8 x.Graph.To.2.2.2.2.2.1,.int .u8 x.Graph.To.2.2.2.2.2.2.1,.int .u8 x.Graph.To.2.2.2.2.2.2.2.1,.int .u8 x.Graph.To.2.2.2.2.2.2.2.2]
abbrev Q43 (x:Qgi):List V:=[.d (.int .u8 x.Events),.d (.int .u8 x.Graph.zN),.d (.int .u8 x.Graph.Marks),.d (.int .u8 x.Graph.To.1.1),.d (.int .u8 x.Graph.To.1.2.1),.d (.int .u8 x.Graph.To.1.2.2.1),.d (.int .u8 x.Graph.To.1.2.2.2.1),.d (.int .u8 x.Graph.To.1.2.2.2.2),.d (.int .u8 x.Graph.To.2.1.1),.d (.int .u8 x.Graph.To.2.1.2.1),.d (.int .u8 x.Graph.To.2.1.2.2.1),.d (.int .u8 x.Graph.To.2.1.2.2.2.1),.d (.int .u8 x.Graph.To.2.1.2.2.2.2),.d (.int .u8 x.Graph.To.2.2.1.1),.d (.int .u8 x.Graph.To.2.2.1.2.1),.d (.int .u8 x.Graph.To.2.2.1.2.2.1),.d (.int .u8 x.Graph.To.2.2.1.2.2.2.1),.d (.int .u8 x.Graph.To.2.2.1.2.2.2.2),.d (.int .u8 x.Graph.To.2.2.2.1.1),.d (.int .u8 x.Graph.To.2.2.2.1.2.1),.d (.int .u8 x.Graph.To.2.2.2.1.2.2.1),.d (.int .u8 x.Graph.To.2.2.2.1.2.2.2.1),.d (.int .u8 x.Graph.To.2.2.2.1.2.2.2.2),.d (.int .u8 x.Graph.To.2.2.2.2.1),.d (.int .u8 x.Graph.To.2.2.2.2.2.1),.d (.int .u8 x.Graph.To.2.2.2.2.2.2.1),.d (.int .u8 x.Graph.To.2.2.2.2.2.2.2.1),.d (.int .u8 x.Graph.To.2.2.2.2.2.2.2.2)]
abbrev Qbh3 (x:Qgi):V:=.agg (Q43 x)
structure Qbj where
  Part:Qgi
  zC:Int
  zB:Int
  zD:Int
def Qn4 (x:Qbj):List D:=[.int .u8 x.Part.Events,.int .u8 x.Part.Graph.zN,.int .u8 x.Part.Graph.Marks,.int .u8 x.Part.Graph.To.1.1,.int .u8 x.Part.Graph.To.1.2.1,.int .u8 x.Part.Graph.To.1.2.2.1,.int .u8 x.Part.Graph.To.1.2.2.2.1,.int .u8 x.Part.Graph.To.1.2.2.2.2,.int .u8 x.Part.Graph.To.2.1.1,.int .u8 x.Part.Graph.To.2.1.2.1,.int .u8 x.Part.Graph.To.2.1.2.2.1,.int .u8 x.Part.Graph.To.2.1.2.2.2.1,.int .u8 x.Part.Graph.To.2.1.2.2.2.2,.int .u8 x.Part.Graph.To.2.2.1.1,.int .u8 x.Part.Graph.To.2.2.1.2.1,.int .u8 x.Part.Graph.To.2.2.1.2.2.1,.int .u8 x.Part.Graph.To.2.2.1.2.2.2.1,.int .u8 x.Part.Graph.To.2.2.1.2.2.2.2,.int .u8 x.Part.Graph.To.2.2.2.1.1,.int .u8 x.Part.Graph.To.2.2.2.1.2.1,.int .u8 x.Part.Graph.To.2.2.2.1.2.2.1,.int .u8 x.Part.Graph.To.2.2.2.1.2.2.2.1,.int .u8 x.Part.Graph.To.2.2.2.1.2.2.2.2,.int .u8 x.Part.Graph.To.2.2.2.2.1,.int .u8 x.Part.Graph.To.2.2.2.2.2.1,.int .u8 x.Part.Graph.To.2.2.2.2.2.2.1,.int .u8 x.Part.Graph.To.2.2.2.2.2.2.2.1,.int .u8 x.Part.Graph.To.2.2.2.2.2.2.2.2,.int .u8 x.zC,.int .u8 x.zB,.int .u8 x.zD]
abbrev Qc7 (x:Qbj):List V:=[.d (.int .u8 x.Part.Events),.d (.int .u8 x.Part.Graph.zN),.d (.int .u8 x.Part.Graph.Marks),.d (.int .u8 x.Part.Graph.To.1.1),.d (.int .u8 x.Part.Graph.To.1.2.1),.d (.int .u8 x.Part.Graph.To.1.2.2.1),.d (.int .u8 x.Part.Graph.To.1.2.2.2.1),.d (.int .u8 x.Part.Graph.To.1.2.2.2.2),.d (.int .u8 x.Part.Graph.To.2.1.1),.d (.int .u8 x.Part.Graph.To.2.1.2.1),.d (.int .u8 x.Part.Graph.To.2.1.2.2.1),.d (.int .u8 x.Part.Graph.To.2.1.2.2.2.1),.d (.int .u8 x.Part.Graph.To.2.1.2.2.2.2),.d (.int .u8 x.Part.Graph.To.2.2.1.1),.d (.int .u8 x.Part.Graph.To.2.2.1.2.1),.d (.int .u8 x.Part.Graph.To.2.2.1.2.2.1),.d (.int .u8 x.Part.Graph.To.2.2.1.2.2.2.1),.d (.int .u8 x.Part.Graph.To.2.2.1.2.2.2.2),.d (.int .u8 x.Part.Graph.To.2.2.2.1.1),.d (.int .u8 x.Part.Graph.To.2.2.2.1.2.1),.d (.int .u8 x.Part.Graph.To.2.2.2.1.2.2.1),.d (.int .u8 x.Part.Graph.To.2.2.2.1.2.2.2.1),.d (.int .u8 x.Part.Graph.To.2.2.2.1.2.2.2.2),.d (.int .u8 x.Part.Graph.To.2.2.2.2.1),.d (.int .u8 x.Part.Graph.To.2.2.2.2.2.1),.d (.int .u8 x.Part.Graph.To.2.2.2.2.2.2.1),.d (.int .u8 x.Part.Graph.To.2.2.2.2.2.2.2.1),.d (.int .u8 x.Part.Graph.To.2.2.2.2.2.2.2.2),.d (.int .u8 x.zC),.d (.int .u8 x.zB),.d (.int .u8 x.zD)]
abbrev Qco (x:Qbj):V:=.agg (Qc7 x)
structure Q2 where
  zA:Qe
  uncontrollable_:List Int
  back_:List (Int×(List Int))
  left_:List Bool
structure Qc2 where
  zF:Qee
  Rounds:Int
  zI:Qe
  zP:List Int
  deriving DecidableEq
def Qbjt (x:Qc2):List D:=[.lst 1 (List.map (eI .i64) x.zF.Kept),.lst 1 (List.map (eI .i64) x.zF.zG),.lst 4 (List.map Qt x.zF.zH),.int .i64 x.Rounds,.lst 1 (List.map (eI .i64) x.zI.zK),.int .i64 x.zI.zN,.lst 1 (List.map (eI .i64) x.zI.zL),.lst 3 (List.map Qi x.zI.zM),.lst 1 (List.map (eI .i64) x.zP)]
abbrev Qgj (x:Qc2):List V:=[(l_ x.zF.Kept),(l_ x.zF.zG),.d (.lst 4 (List.map Qt x.zF.zH)),(i_ x.Rounds),(l_ x.zI.zK),(i_ x.zI.zN),(l_ x.zI.zL),.d (.lst 3 (List.map Qi x.zI.zM)),(l_ x.zP)]
abbrev Qc8 (x:Qc2):V:=.agg (Qgj x)
end Go.Abs
end
