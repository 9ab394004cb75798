/-
  Part 11 of the proof: see the last text.
-/
import Derived.Test.YtjngkimolkhdmaaGreatP10
import Derived.OpenShut
import Derived.ProofKit
import Derived.Carry
import GoSem.Claim
import GoSem.ClaimJoined
import Derived.JoinedTies
import Derived.KernelRfl
import Derived.Test.YtjngkimolkhdmaaGreatProg
set_option linter.unusedVariables false
set_option linter.unusedSimpArgs false
set_option linter.unusedSectionVars false
section
namespace Go.Abs
open Go Go.ChangeShapes Go.WideShapes Go.ChangeAt Go.RowKit
def live (w:World):Nat→Nat→Prop:=fun b o=>(w.cell? ⟨b,o,none⟩).isSome=true
def RDs (w:World):List D→List Value→Prop
 | [],vs=>vs=[]
 | x::xs,vs=>∃ u us,vs=u::us∧RD (live w) w x u∧RDs w xs us
theorem Q4s {w:World}:∀ {xs ys:List D} {us vs:List Value},RDs w xs us→RDs w ys vs→RDs w (xs++ys) (us++vs)
 | [],ys,us,vs,h,k=>by grind [RDs]
 | x::xs,ys,us,vs,⟨u,us',e,r,h⟩,k=>by subst e;exact ⟨u,us'++vs,by simp,r,Q4s h k⟩
def RDat (w:World) (cs:List Value) (off:Nat) (xs:List D):Prop:=RDs w xs ((cs.drop off).take xs.length)
theorem RDat.app {w:World} {cs:List Value} {off:Nat} {xs ys:List D} (h:RDat w cs off xs) {n:Nat} (hn:n=off+xs.length) (k:RDat w cs n ys):RDat w cs off (xs++ys):=by
 grind [Q4s,RDat,List.length_append,List.drop_drop]
theorem RDat.all {w:World} {cs:List Value} {xs:List D} (h:RDat w cs 0 xs) (hl:cs.length=xs.length):RDs w xs cs:=by
 grind [RDat,List.take_length]
theorem Qbeb {w:World} {b:Nat}:∀ {xs:List D} {vs:List Value} {o:Nat},RDs w xs vs→(∀ i v,vs[i]? = some v→w.cell? ⟨b,o+i,none⟩=some v)→RDc (live w) w b xs o
 | [],vs,o,_,_=>by simp [RDc]
 | x::xs,vs,o,⟨u,us,e,r,h⟩,hc=>by
  subst e;have h0:=hc 0 u rfl;rw [Nat.add_zero] at h0;refine ⟨by simp [live,h0],⟨u,h0,r⟩,Qbeb h fun i v hv=>?_⟩;have:=hc (i+1) v (by simpa using hv)
  grind
def Qxy {α:Type} (P:Program) (t:TypeId) (e:α→List D) (wf:α→Prop):Prop :=
 ∀ {H:Type} {enc:TypeId×Value→H} {w:World} {base:Nat} {spare:Nat→Bool} {held:Bool} {fuel:Nat} {cs:List Value} {x:DataW H×List MemPlace},
  DataW.trod enc P w base spare held fuel t cs=some x→∃ a,wf a∧RDs w (e a) cs
def wfI (k:IntKind) (n:Int):Prop:=(Lit.int k n).wf=true
def wfL {α:Type} (wf:α→Prop) (l:List α):Prop:=l.length≤maxLen∧∀ a∈l,wf a
variable {P:Program} {t:TypeId}
theorem Q20 {k:IntKind} (ht:P.underlying t=some (.int k)):Qxy P t (fun n:Int=>[.int k n]) (wfI k):=by
 intro H enc w base spare held fuel cs x h;obtain ⟨n,rfl,_,hw⟩:=DataW.trod_int ht h;exact ⟨n,hw,_,_,rfl,by simp [RD],rfl⟩
theorem cells?_get {w:World} {base:Nat} {a:Addr} {n:Nat} {cs:List Value} (h:w.cells? base a n=some cs):cs.length=n∧∀ i v,cs[i]? = some v→w.cell? (a.add i)=some v:=by
 obtain ⟨h1,h2,h3⟩:=World.cells?_some h
 grind
theorem Q9b {α:Type} {el:TypeId} {e:α→List D} {wf:α→Prop} {sz:Nat} (ht:P.underlying t=some (.slice el)) (he:Qxy P el e wf) (hsz:P.cellsOf el=sz) (hpos:0<sz) (hlen:∀ a,(e a).length=sz) :
  Qxy P t (fun l:List α=>[.lst sz (l.map e)]) (wfL wf):=by
 intro H enc w base spare held fuel cs x h;rcases DataW.trod_slice ht h with ⟨rfl,_⟩|⟨a,len,cap,Qf2,rest,n,_,rfl,_,hb,hl,hm,helen,hel,_,_⟩
 ·exact ⟨[],⟨by simp,by simp⟩,_,_,rfl,by simp only [RD,List.map_nil,List.length_nil];exact ⟨none,0,rfl,Nat.le_refl _,.inl trivial⟩,rfl⟩
 ·have key:∀ m,m≤len→∃ l:List α,l.length=m∧(∀ x∈l,wf x)∧∀ i y,l[i]? = some y→∃ vs,w.cells? base (a.add (i*sz)) sz=some vs∧RDs w (e y) vs:=by
   intro m
   induction m with
   | zero=>simp_all
   | succ m ih =>
    intro hm';obtain ⟨l,h1,h2,h3⟩:=ih (by omega);have h4:=hel m (by omega);have h5:Qf2[m]? = some Qf2[m]:=List.getElem?_eq_getElem (by omega);rw [h5,hsz,Option.bind_eq_some_iff] at h4;obtain ⟨vs,h6,h7⟩:=h4;obtain ⟨y,h8,h9⟩:=he h7;refine ⟨l++[y],by simp [h1],?_,fun i z hz=>?_⟩
    all_goals grind
  obtain ⟨l,h1,h2,h3⟩:=key len (Nat.le_refl _);have hmax:l.length≤maxLen:=by omega
  refine ⟨l,⟨hmax,h2⟩,_,_,rfl,?_,rfl⟩;simp only [RD,List.length_map,h1];refine ⟨some a,cap,rfl,hl,?_⟩;cases l with
  | nil=>exact .inl rfl
  | cons y l =>
   right;have hspot:a.spot=none:=by
    obtain ⟨vs,h4,h5⟩:=h3 0 y rfl;obtain ⟨h6,h7⟩:=cells?_get h4;have hv:vs[0]? = some vs[0]:=List.getElem?_eq_getElem (by omega);have:=h7 0 _ hv;cases hs:a.spot with
    | none=>rfl
    | some s =>
     grind [Go.World.cell?,Go.Addr.add]
   obtain ⟨b,o,sp⟩:=a;simp only at hspot;subst hspot;refine ⟨b,o,rfl,?_⟩;have row:∀ (l:List α) (j:Nat),(∀ i y,l[i]? = some y→∃ vs,w.cells? base ((⟨b,o,none⟩ : Addr).add ((j+i)*sz)) sz=some vs∧RDs w (e y) vs)→RDL (live w) w sz b (l.map e) (o+j*sz):=by
    intro l
    induction l with
    | nil=>intro j _;simp [RDL]
    | cons y l ih =>
     intro j h;obtain ⟨vs,h4,h5⟩:=h 0 y rfl;obtain ⟨h6,h7⟩:=cells?_get h4;refine ⟨hlen y,Qbeb h5 fun i v hv=>?_,?_⟩
     ·grind [Qgk,Nat.add_assoc]
     ·have:=ih (j+1) fun i y hy=>by
       have:=h (i+1) y (by simpa using hy)
       grind
      grind
   have:=row (y::l) 0 fun i y hy=>by simpa using h3 i y hy
   simpa using this
theorem Qfa {α:Type} {el:TypeId} {e:α→List D} {wf:α→Prop} {sz:Nat} (he:Qxy P el e wf) (hsz:P.cellsOf el=sz) (hlen:∀ a,(e a).length=sz)
  {H:Type} {enc:TypeId×Value→H} {w:World} {base:Nat} {spare:Nat→Bool} {held:Bool} {fuel off:Nat} {cs:List Value} {x:DataW H×List MemPlace}
  (h:DataW.trod enc P w base spare held fuel el ((cs.drop off).take (P.cellsOf el))=some x):∃ a,wf a∧RDat w cs off (e a):=by
 obtain ⟨a,h1,h2⟩:=he h
 grind [RDat]
theorem Q7w {H:Type} {enc:TypeId×Value→H} {w:World} {base:Nat} {spare:Nat→Bool} {held:Bool} {fuel:Nat} {cs:List Value} {x:DataW H×List MemPlace} {fs:Array Field}
  (ht:P.underlying t=some (.struct fs)) (h:DataW.trod enc P w base spare held fuel t cs=some x) :
  cs.length=P.cellsOf t∧∃ n,∀ (i:Nat) (f:Field),fs[i]? = some f→∃ y,DataW.trod enc P w base spare held n f.type ((cs.drop f.offset).take (P.cellsOf f.type))=some y:=by
 obtain ⟨xs,n,_,_,h1,h2,h3⟩:=DataW.trod_struct ht h;refine ⟨h1,n,fun i f hf=>?_⟩
 grind
theorem Qbf8 {H:Type} {enc:TypeId×Value→H} {w:World} {base:Nat} {spare:Nat→Bool} {held:Bool} {fuel:Nat} {cs:List Value} {x:DataW H×List MemPlace} {n:Nat} {el:TypeId}
  (ht:P.underlying t=some (.array n el)) (h:DataW.trod enc P w base spare held fuel t cs=some x) :
  cs.length=P.cellsOf t∧∃ m,∀ i,i<n→∃ y,DataW.trod enc P w base spare held m el ((cs.drop (i*P.cellsOf el)).take (P.cellsOf el))=some y:=by
 obtain ⟨xs,m,_,_,h1,h2,h3⟩:=DataW.trod_array ht h;exact ⟨h1,m,fun i hi=>⟨xs[i]'(by omega),by grind⟩⟩
def Qmb {α:Type} (P:Program) (t:TypeId) (v:α→V) (wf:α→Prop):Prop :=
 ∀ {H:Type} {enc:TypeId×Value→H} {w:World} {base b0:Nat} {spare:Nat→Bool} {held:Bool} {u:Value} {d:DataW H} {ps:List MemPlace},
  Value.okWide P w .any b0 t u→DataW.Trod enc P w base spare held t u d ps→∃ a,wf a∧RF ⟨fun _=>0,live w,fun _=>.ext⟩ w (v a) u
theorem Qbec {α:Type} {e:α→D} {wf:α→Prop} (he:Qxy P t (fun a=>[e a]) wf) (hone:∀ w b0 u,Value.okWide P w .any b0 t u→u.cells = #[u]):Qmb P t (fun a=>.d (e a)) wf:=by
 intro H enc w base b0 spare held u d ps hok hd;obtain ⟨fuel,hf⟩:=hd;rw [hone _ _ _ hok] at hf;obtain ⟨a,h1,u',us,h2,h3,h4⟩:=he hf;simp only [RDs] at h4;subst h4;simp at h2;subst h2;exact ⟨a,h1,fun ℓ=>by simpa [RV] using h3⟩
theorem Qbiv {k:IntKind} (ht:P.underlying t=some (.int k)):∀ w b0 u,Value.okWide P w .any b0 t u→u.cells = #[u]:=by
 intro w b0 u h;simp only [Value.okWide,ht] at h;cases u<;>first|rfl|(simp [Cell.okWide,Cell.ok,ht] at h)
theorem Qbed {el:TypeId} (ht:P.underlying t=some (.slice el)):∀ w b0 u,Value.okWide P w .any b0 t u→u.cells = #[u]:=by
 intro w b0 u h;simp only [Value.okWide,ht] at h;cases u<;>first|rfl|(simp [Cell.okWide,Cell.ok,ht] at h)
theorem Qbj7 {imm:Nat→Nat→Prop} {w:World} {x:D} {u:Value} (h:RD imm w x u):u.oneCell'=true:=by
 cases x with
 | int k n=>simp only [RD] at h;subst h;rfl
 | bool b=>simp only [RD] at h;subst h;rfl
 | str s=>simp only [RD] at h;subst h;rfl
 | lst sz l=>simp only [RD] at h;obtain ⟨a,cap,rfl,_⟩:=h;cases a<;>rfl
 | mp es c=>simp only [RD] at h;obtain ⟨b,rfl,_⟩:=h;rfl
theorem Qbee {w:World} {g:G} (hg:g.imm=live w):∀ {xs:List D} {us:List Value} {ℓ:Owner} {i:Nat},RDs w xs us→RVs g w (xs.map V.d) ℓ i us∧∀ u∈us,u.oneCell'=true
 | [],us,ℓ,i,h=>by grind [RDs,RVs]
 | x::xs,us,ℓ,i,⟨u,us',e,r,h⟩=>by
  subst e;obtain ⟨h1,h2⟩:=Qbee hg (ℓ:=ℓ) (i:=i+1) h;refine ⟨⟨u,us',rfl,by simpa [RV,hg] using r,h1⟩,fun v hv=>?_⟩;rcases List.mem_cons.1 hv with rfl|hv
  ·exact Qbj7 r
  ·exact h2 v hv
theorem Qbiw {α:Type} {e:α→List D} {wf:α→Prop} (he:Qxy P t e wf) (hagg:(∃ fs,P.underlying t=some (.struct fs))∨∃ n el,P.underlying t=some (.array n el)):Qmb P t (fun a=>.agg ((e a).map V.d)) wf:=by
 intro H enc w base b0 spare held u d ps hok hd;obtain ⟨cs,rfl⟩ : ∃ cs,u = .agg cs:=by
  rcases hagg with ⟨fs,ht⟩|⟨n,el,ht⟩
  ·simp only [Value.okWide,ht] at hok;grind
  ·simp only [Value.okWide,ht] at hok;grind
 obtain ⟨fuel,hf⟩:=hd;obtain ⟨a,h1,h2⟩:=he hf;refine ⟨a,h1,fun ℓ=>?_⟩;simp only [RV];obtain ⟨h3,h4⟩:=Qbee (g:=⟨fun _=>0,live w,fun _=>.ext⟩) rfl (ℓ:=ℓ) (i:=0) h2;exact ⟨cs.toList,by simp,h3,h4⟩
def Qbix (P:Program) (f:FuncId) (ts:List TypeId):Prop :=
 ∀ {H:Type} {enc:TypeId×Value→H} {w:World} {b0:Nat} {us:List Value} {ds:List (DataW H)} {ps:List MemPlace},
  (∀ (j:Nat) t u,ts[j]? = some t→us[j]? = some u→Value.okWide P w .any b0 t u)→DataW.TrodAll enc P w 0 (fun _=>true) true ts us ds ps →
  ∃ vs,RFs ⟨fun _=>0,live w,fun _=>.ext⟩ w vs us∧(∀ x∈vs,Flat x)∧V.lt.go 0 vs=true∧∀ M nb,ACalls P f vs M nb (.d (.bool true)) M nb
theorem Qy4 (hl:laidOutB P=true) {W W' : World} {sp:Nat→Bool} {H:Type} {enc:TypeId×Value→H}:∀ {ts:List TypeId} {us:List Value} {ds:List (DataW H)} {ps:List MemPlace},
  (∀ t∈ts,P.readableRec t=true∧t<P.types.size)→DataW.TrodAll enc P W 0 (fun _=>true) true ts us ds ps→(∀ p∈ps,W.sameAt W' p)→(∀ p∈ps,sp p.block=true)→DataW.TrodAll enc P W' 0 sp true ts us ds ps
 | [],[],[],ps,_,h,_,_=>h
 | t::ts,u::us,d::ds,ps,hr,⟨p,q,h1,h2,e⟩,hs,hp=>by
  subst e;obtain ⟨r1,r2⟩:=hr t (by simp);exact ⟨p,q,WideElems.Trod_stays hl r1 r2 h1 (fun x hx=>hs x (by simp [hx])) (fun x hx=>hp x (by simp [hx])),Qy4 hl (fun t ht=>hr t (by simp [ht])) h2 (fun x hx=>hs x (by simp [hx])) (fun x hx=>hp x (by simp [hx])),rfl⟩
 | [],[],_::_,_,_,h,_,_=>h.elim
 | [],_::_,_,_,_,h,_,_=>h.elim
 | _::_,[],_,_,_,h,_,_=>h.elim
 | _::_,_::_,[],_,_,h,_,_=>h.elim
theorem Q21 {W:World} {sp:Nat→Bool} {held:Bool} {base:Nat} {H:Type} {enc:TypeId×Value→H}:∀ {ts:List TypeId} {us:List Value} {ds:List (DataW H)} {ps:List MemPlace},
  DataW.TrodAll enc P W base sp held ts us ds ps→ds.length=ts.length∧us.length=ts.length
 | [],[],[],ps,h=>⟨rfl,rfl⟩
 | t::ts,u::us,d::ds,ps,⟨p,q,h1,h2,e⟩=>by have:=Q21 h2;simp [this.1,this.2]
 | [],[],_::_,_,h=>h.elim
 | [],_::_,_,_,h=>h.elim
 | _::_,[],_,_,h=>h.elim
 | _::_,_::_,[],_,h=>h.elim
theorem Qbkg {P : Program} (h : P.globalNamed "internal/strconv.uint64pow10" = none) {X : World → Array Value → Prop} : ∀ W args, X W args → Tab P ⟨fun _ => 0, live W, fun _ => .ext⟩ W := fun _ _ _ gl hg => by rw [h] at hg; cases hg
theorem Qbiy {C:Checked} {f:FuncId} {fn:Func} {s:ChangeSpec} {conds:List PathCond} {bt:TypeId} {os:Os} {H:Type} {enc:TypeId×Value→H}
  (own:ownKnob C.prog.godebug=none) (started:os.Started) (noInit:C.prog.inits.idxOf? f=none) (hfn:C.prog.funcs[f]? = some fn)
  (witness:∃ (w:World) (tape:Tape) (i:Input),w.os=os∧(w.forCall tape i).Shaped C.prog∧i.vars=[]∧Input.okWide C.prog (w.forCall tape i) .any w.heap.size f i ∧
   s.pre6 enc C.prog fn conds false (w.forCall tape i).memory i.args∧({}:Assume).holds C.prog (lone (Frame.enter C.prog f i.args .normal) [] (w.forCall tape i)))
  (hvars:s.vars=[]) (hres:fn.resultTypes = #[bt]) (hbt:C.prog.underlying bt=some .bool)
  (hl:laidOutB C.prog=true) (hread:∀ t∈fn.params.toList,C.prog.readableRec t=true∧t<C.prog.types.size)
  (hspec:∀ ds:List (DataW H),ds.length=fn.params.size→s.fn H ds={ results:=[.lit (.bool true)],args:=ds })
  (ht:∀ (W:World) (args:Array Value),True→Tab C.prog ⟨fun _=>0,live W,fun _=>.ext⟩ W) (law:Qbix C.prog f fn.params.toList) :
  ReturnsInHanded {} C os f .any (s.pre6 enc C.prog fn conds false) (s.post enc C.prog fn false true false false):=by
 refine returnsInHanded_of_change own started noInit hfn witness ?_;intro W base args ds gs before hval hW hcnd _;have hW':=hW;obtain ⟨p,q,hA,hV,hps,hfz,hnd⟩:=hW;rw [hvars] at hV;obtain ⟨rfl,rfl⟩ : gs=[]∧q=[]:=by
  cases gs with
  | nil=>exact ⟨rfl,hV⟩
  | cons _ _=>exact hV.elim
 obtain ⟨vs,h1,h2,h3,h4⟩:=law (fun j t u ht hu=>hval j t u (by simpa using ht) (by simpa using hu)) hA;obtain ⟨hb,_,h5⟩:=h4 (fun _=>none) 0;have hlv:∀ b o,live W b o→b<W.heap.size:=by
  grind [live,Option.isSome_iff_exists,Go.World.cell?,Array.getElem?_eq_some_iff]
 have hmr:MR ⟨fun _=>0,live W,fun _=>.ext⟩ W (fun _=>none) 0:=⟨fun k b h=>(by cases h),fun b o h=>⟨hlv b o h,fun k h=>by cases h⟩⟩;have h6:=h5 W ⟨fun _=>0,live W,fun _=>.ext⟩ args.toList (ht W args trivial) hmr (fun k cs h=>by cases h) (RAs.of_flat h1) (ons_mono (fun k hk=>absurd hk (Nat.not_lt_zero k)) _ (ons_lt vs h3));refine Calls.mono h6 fun e W' ⟨v,g',he,_,hr,_,_,hf⟩=>?_;subst he;have hv:v = .bool true:=by simpa [RV,RD] using hr
 subst hv;have hbelow:Below W.heap.size W W':=⟨hf.os,hf.tape,hf.output,hf.size,fun k hk=>(hf.old k hk trivial).2.1⟩;have hrl:(Value.bool true).resultList fn.resultTypes.size=[.bool true]:=by rw [hres];rfl
 have hsp:s.fn H (ds++[])={ results:=[.lit (.bool true)],args:=ds }:=by
  rw [List.append_nil];exact hspec ds (by have:=(Q21 hA).1;simpa using this)
 have hlt:∀ p∈before,p.block<W.heap.size:=fun x hx=>hW'.lt x hx;have hst:∀ sp:Nat→Bool,(∀ p∈before,sp p.block=true)→DataW.TrodAll enc C.prog W' 0 sp true fn.params.toList args.toList ds before:=by
  intro sp hsp';have e:p=before:=by grind
  subst e;exact Qy4 hl hread hA (fun x hx=>hbelow.same (hlt x hx)) hsp'
 refine ⟨_,rfl,ds,[],before,[],before,[],hW',?_,?_,?_,World.keptBut_mono (fun p hp=>⟨hp,.inr (.inl hp)⟩) (hbelow.frame (· ∈ before)),fun h=>by cases h⟩
 ·rw [hsp,hrl,hres];exact ⟨[],[],⟨1,by simp [DataW.trod,Value.cells,hbt]⟩,rfl,rfl⟩
 ·grind
 ·rw [hsp,hvars];rfl
section
variable {α β γ δ:Type} {f:FuncId} {ta tb tc td:TypeId} {va:α→V} {vb:β→V} {vc:γ→V} {vd:δ→V} {wa:α→Prop} {wb:β→Prop} {wc:γ→Prop} {wd:δ→Prop}
theorem Qpi {H:Type} {enc:TypeId×Value→H} {w:World} {base:Nat} {sp:Nat→Bool} {held:Bool} {t:TypeId} {ts:List TypeId} {us:List Value} {ds:List (DataW H)} {ps:List MemPlace} (h:DataW.TrodAll enc P w base sp held (t::ts) us ds ps) :
  ∃ u us' d ds' p q,us=u::us'∧ds=d::ds'∧DataW.Trod enc P w base sp held t u d p∧DataW.TrodAll enc P w base sp held ts us' ds' q:=by
 match us,ds,h with
 | u::us',d::ds',⟨p,q,h1,h2,_⟩=>grind
 | [],[],h=>exact h.elim
 | [],_::_,h=>exact h.elim
 | _::_,[],h=>exact h.elim
theorem Q22 {H:Type} {enc:TypeId×Value→H} {w:World} {base:Nat} {sp:Nat→Bool} {held:Bool} {us:List Value} {ds:List (DataW H)} {ps:List MemPlace} (h:DataW.TrodAll enc P w base sp held [] us ds ps):us=[]:=by
 match us,ds,h with
 | [],[],_=>rfl
 | [],_::_,h=>exact h.elim
 | _::_,[],h=>exact h.elim
 | _::_,_::_,h=>exact h.elim
theorem Qbks (ra:Qmb P ta va wa) (fa:∀ a,(va a).dem=va a) (la:∀ a,(va a).lt 0=true) (rb:Qmb P tb vb wb) (fb:∀ a,(vb a).dem=vb a) (lb:∀ a,(vb a).lt 0=true)
  (law:∀ a b,wa a→wb b→∀ M nb,ACalls P f [va a,vb b] M nb (.d (.bool true)) M nb):Qbix P f [ta,tb]:=by
 intro H enc w b0 us ds ps hok hT;obtain ⟨u,us',d,ds',p,q,rfl,rfl,h1,hT⟩:=Qpi hT;obtain ⟨u2,us',d2,ds',p2,q2,rfl,rfl,h2,hT⟩:=Qpi hT;obtain rfl:=Q22 hT;obtain ⟨a,ha,hra⟩:=ra (hok 0 _ _ rfl rfl) h1;obtain ⟨b,hb,hrb⟩:=rb (hok 1 _ _ rfl rfl) h2;refine ⟨[va a,vb b],⟨u,_,rfl,hra,u2,_,rfl,hrb,rfl⟩,?_,by simp [V.lt.go,la,lb],law a b ha hb⟩;intro x hx;simp only [List.mem_cons,List.not_mem_nil,or_false] at hx;rcases hx with rfl|rfl
 ·exact fa a
 ·exact fb b
theorem Qbkt (ra:Qmb P ta va wa) (fa:∀ a,(va a).dem=va a) (la:∀ a,(va a).lt 0=true) (rb:Qmb P tb vb wb) (fb:∀ a,(vb a).dem=vb a) (lb:∀ a,(vb a).lt 0=true)
  (rc:Qmb P tc vc wc) (fc:∀ a,(vc a).dem=vc a) (lc:∀ a,(vc a).lt 0=true)
  (law:∀ a b c,wa a→wb b→wc c→∀ M nb,ACalls P f [va a,vb b,vc c] M nb (.d (.bool true)) M nb):Qbix P f [ta,tb,tc]:=by
 intro H enc w b0 us ds ps hok hT;obtain ⟨u,us',d,ds',p,q,rfl,rfl,h1,hT⟩:=Qpi hT;obtain ⟨u2,us',d2,ds',p2,q2,rfl,rfl,h2,hT⟩:=Qpi hT;obtain ⟨u3,us',d3,ds',p3,q3,rfl,rfl,h3,hT⟩:=Qpi hT;obtain rfl:=Q22 hT;obtain ⟨a,ha,hra⟩:=ra (hok 0 _ _ rfl rfl) h1;obtain ⟨b,hb,hrb⟩:=rb (hok 1 _ _ rfl rfl) h2;obtain ⟨c,hc,hrc⟩:=rc (hok 2 _ _ rfl rfl) h3;refine ⟨[va a,vb b,vc c],⟨u,_,rfl,hra,u2,_,rfl,hrb,u3,_,rfl,hrc,rfl⟩,?_,by simp [V.lt.go,la,lb,lc],law a b c ha hb hc⟩;intro x hx;simp only [List.mem_cons,List.not_mem_nil,or_false] at hx;rcases hx with rfl|rfl|rfl
 ·exact fa a
 ·exact fb b
 ·exact fc c
end
theorem Qbef {H:Type} {enc:TypeId×Value→H} {w:World} {base:Nat} {spare:Nat→Bool} {held:Bool} {fuel:Nat} {cs:List Value} {x:DataW H×List MemPlace} {n sz:Nat} {el:TypeId}
  (ht:P.underlying t=some (.array n el)) (hsz:P.cellsOf el=sz) (h:DataW.trod enc P w base spare held fuel t cs=some x) :
  cs.length=P.cellsOf t∧∃ m,∀ i,i<n→∃ y,DataW.trod enc P w base spare held m el ((cs.drop (i*sz)).take (P.cellsOf el))=some y:=by
 obtain ⟨h1,m,h2⟩:=Qbf8 ht h;exact ⟨h1,m,fun i hi=>by grind⟩
end Go.Abs
end
section
namespace Go.Proofs
open Go Go.Abs
set_option maxRecDepth 100000
def W_22 (x:Int):Prop:=wfI .u8 x
theorem R_22:Qxy Tryz.prog 22 (eI .u8) W_22:=Q20 Tryz.underlying22
def W_5 (x:Int):Prop:=wfI .u8 x
theorem R_5:Qxy Tryz.prog 5 (eI .u8) W_5:=Q20 Tryz.underlying5
def W_23 (x:Int×Int×Int×Int×Int):Prop:=W_5 x.1∧W_5 x.2.1∧W_5 x.2.2.1∧W_5 x.2.2.2.1∧W_5 x.2.2.2.2
theorem R_23:Qxy Tryz.prog 23 (fun p:Int×Int×Int×Int×Int=>[.int .u8 p.1,.int .u8 p.2.1,.int .u8 p.2.2.1,.int .u8 p.2.2.2.1,.int .u8 p.2.2.2.2]) W_23:=by
  intro H enc w base spare held fuel cs x h;obtain ⟨hl,n,hf⟩:=Qbef (sz:=1) Tryz.underlying23 (by kernel_rfl) h;obtain ⟨y0,h0⟩:=hf 0 (by decide);obtain ⟨a0,w0,r0⟩:=Qfa (off:=0*1) (sz:=1) R_5 (by kernel_rfl) (fun _=>rfl) h0;obtain ⟨y1,h1⟩:=hf 1 (by decide);obtain ⟨a1,w1,r1⟩:=Qfa (off:=1*1) (sz:=1) R_5 (by kernel_rfl) (fun _=>rfl) h1;obtain ⟨y2,h2⟩:=hf 2 (by decide);obtain ⟨a2,w2,r2⟩:=Qfa (off:=2*1) (sz:=1) R_5 (by kernel_rfl) (fun _=>rfl) h2;obtain ⟨y3,h3⟩:=hf 3 (by decide);obtain ⟨a3,w3,r3⟩:=Qfa (off:=3*1) (sz:=1) R_5 (by kernel_rfl) (fun _=>rfl) h3;obtain ⟨y4,h4⟩:=hf 4 (by decide);obtain ⟨a4,w4,r4⟩:=Qfa (off:=4*1) (sz:=1) R_5 (by kernel_rfl) (fun _=>rfl) h4;exact ⟨(a0,a1,a2,a3,a4),⟨w0,w1,w2,w3,w4⟩,RDat.all (xs:=(fun p:Int×Int×Int×Int×Int=>[.int .u8 p.1,.int .u8 p.2.1,.int .u8 p.2.2.1,.int .u8 p.2.2.2.1,.int .u8 p.2.2.2.2]) (a0,a1,a2,a3,a4)) (RDat.app r0 rfl (RDat.app r1 rfl (RDat.app r2 rfl (RDat.app r3 rfl r4)))) (hl.trans (by kernel_rfl))⟩
def W_24 (x:(Int×Int×Int×Int×Int)×(Int×Int×Int×Int×Int)×(Int×Int×Int×Int×Int)×(Int×Int×Int×Int×Int)×(Int×Int×Int×Int×Int)):Prop:=W_23 x.1∧W_23 x.2.1∧W_23 x.2.2.1∧W_23 x.2.2.2.1∧W_23 x.2.2.2.2
theorem R_24:Qxy Tryz.prog 24 (fun p:(Int×Int×Int×Int×Int)×(Int×Int×Int×Int×Int)×(Int×Int×Int×Int×Int)×(Int×Int×Int×Int×Int)×(Int×Int×Int×Int×Int)=>[.int .u8 p.1.1,.int .u8 p.1.2.1,.int .u8 p.1.2.2.1,.int .u8 p.1.2.2.2.1,.int .u8 p.1.2.2.2.2,.int .u8 p.2.1.1,.int .u8 p.2.1.2.1,.int .u8 p.2.1.2.2.1,.int .u8 p.2.1.2.2.2.1,.int .u8 p.2.1.2.2.2.2,.int .u8 p.2.2.1.1,.int .u8 p.2.2.1.2.1,.int .u8 p.2.2.1.2.2.1,.int .u8 p.2.2.1.2.2.2.1,.int .u8 p.2.2.1.2.2.2.2,.int .u8 p.2.2.2.1.1,.int .u8 p.2.2.2.1.2.1,.int .u8 p.2.2.2.1.2.2.1,.int .u8 p.2.2.2.1.2.2.2.1,.int .u8 p.2.2.2.1.2.2.2.2,.int .u8 p.2.2.2.2.1,.int .u8 p.2.2.2.2.2.1,.int .u8 p.2.2.2.2.2.2.1,.int .u8 p.2.2.2.2.2.2.2.1,.int .u8 p.2.2.2.2.2.2.2.2]) W_24:=by
  intro H enc w base spare held fuel cs x h;obtain ⟨hl,n,hf⟩:=Qbef (sz:=5) Tryz.underlying24 (by kernel_rfl) h;obtain ⟨y0,h0⟩:=hf 0 (by decide);obtain ⟨a0,w0,r0⟩:=Qfa (off:=0*5) (sz:=5) R_23 (by kernel_rfl) (fun _=>rfl) h0;obtain ⟨y1,h1⟩:=hf 1 (by decide);obtain ⟨a1,w1,r1⟩:=Qfa (off:=1*5) (sz:=5) R_23 (by kernel_rfl) (fun _=>rfl) h1;obtain ⟨y2,h2⟩:=hf 2 (by decide);obtain ⟨a2,w2,r2⟩:=Qfa (off:=2*5) (sz:=5) R_23 (by kernel_rfl) (fun _=>rfl) h2;obtain ⟨y3,h3⟩:=hf 3 (by decide);obtain ⟨a3,w3,r3⟩:=Qfa (off:=3*5) (sz:=5) R_23 (by kernel_rfl) (fun _=>rfl) h3;obtain ⟨y4,h4⟩:=hf 4 (by decide);obtain ⟨a4,w4,r4⟩:=Qfa (off:=4*5) (sz:=5) R_23 (by kernel_rfl) (fun _=>rfl) h4;exact ⟨(a0,a1,a2,a3,a4),⟨w0,w1,w2,w3,w4⟩,RDat.all (xs:=(fun p:(Int×Int×Int×Int×Int)×(Int×Int×Int×Int×Int)×(Int×Int×Int×Int×Int)×(Int×Int×Int×Int×Int)×(Int×Int×Int×Int×Int)=>[.int .u8 p.1.1,.int .u8 p.1.2.1,.int .u8 p.1.2.2.1,.int .u8 p.1.2.2.2.1,.int .u8 p.1.2.2.2.2,.int .u8 p.2.1.1,.int .u8 p.2.1.2.1,.int .u8 p.2.1.2.2.1,.int .u8 p.2.1.2.2.2.1,.int .u8 p.2.1.2.2.2.2,.int .u8 p.2.2.1.1,.int .u8 p.2.2.1.2.1,.int .u8 p.2.2.1.2.2.1,.int .u8 p.2.2.1.2.2.2.1,.int .u8 p.2.2.1.2.2.2.2,.int .u8 p.2.2.2.1.1,.int .u8 p.2.2.2.1.2.1,.int .u8 p.2.2.2.1.2.2.1,.int .u8 p.2.2.2.1.2.2.2.1,.int .u8 p.2.2.2.1.2.2.2.2,.int .u8 p.2.2.2.2.1,.int .u8 p.2.2.2.2.2.1,.int .u8 p.2.2.2.2.2.2.1,.int .u8 p.2.2.2.2.2.2.2.1,.int .u8 p.2.2.2.2.2.2.2.2]) (a0,a1,a2,a3,a4)) (RDat.app r0 rfl (RDat.app r1 rfl (RDat.app r2 rfl (RDat.app r3 rfl r4)))) (hl.trans (by kernel_rfl))⟩
def W_26 (x:Qcf):Prop:=W_5 x.zH∧W_5 x.Marks∧W_24 x.To
theorem R_26:Qxy Tryz.prog 26 Qmf W_26:=by
  intro H enc w base spare held fuel cs x h;obtain ⟨hl,n,hf⟩:=Q7w Tryz.underlying26 h;obtain ⟨y0,h0⟩:=hf 0 _ rfl;obtain ⟨a0,w0,r0⟩:=Qfa (off:=0) (sz:=1) R_5 (by kernel_rfl) (fun _=>rfl) h0;obtain ⟨y1,h1⟩:=hf 1 _ rfl;obtain ⟨a1,w1,r1⟩:=Qfa (off:=1) (sz:=1) R_5 (by kernel_rfl) (fun _=>rfl) h1;obtain ⟨y2,h2⟩:=hf 2 _ rfl;obtain ⟨a2,w2,r2⟩:=Qfa (off:=2) (sz:=25) R_24 (by kernel_rfl) (fun _=>rfl) h2;exact ⟨⟨a0,a1,a2⟩,⟨w0,w1,w2⟩,RDat.all (xs:=Qmf ⟨a0,a1,a2⟩) (RDat.app r0 rfl (RDat.app r1 rfl r2)) (hl.trans (by kernel_rfl))⟩
def W_27 (x:Int×Int×Int×Int×Int):Prop:=W_5 x.1∧W_5 x.2.1∧W_5 x.2.2.1∧W_5 x.2.2.2.1∧W_5 x.2.2.2.2
theorem R_27:Qxy Tryz.prog 27 (fun p:Int×Int×Int×Int×Int=>[.int .u8 p.1,.int .u8 p.2.1,.int .u8 p.2.2.1,.int .u8 p.2.2.2.1,.int .u8 p.2.2.2.2]) W_27:=by
  intro H enc w base spare held fuel cs x h;obtain ⟨hl,n,hf⟩:=Qbef (sz:=1) Tryz.underlying27 (by kernel_rfl) h;obtain ⟨y0,h0⟩:=hf 0 (by decide);obtain ⟨a0,w0,r0⟩:=Qfa (off:=0*1) (sz:=1) R_5 (by kernel_rfl) (fun _=>rfl) h0;obtain ⟨y1,h1⟩:=hf 1 (by decide);obtain ⟨a1,w1,r1⟩:=Qfa (off:=1*1) (sz:=1) R_5 (by kernel_rfl) (fun _=>rfl) h1;obtain ⟨y2,h2⟩:=hf 2 (by decide);obtain ⟨a2,w2,r2⟩:=Qfa (off:=2*1) (sz:=1) R_5 (by kernel_rfl) (fun _=>rfl) h2;obtain ⟨y3,h3⟩:=hf 3 (by decide);obtain ⟨a3,w3,r3⟩:=Qfa (off:=3*1) (sz:=1) R_5 (by kernel_rfl) (fun _=>rfl) h3;obtain ⟨y4,h4⟩:=hf 4 (by decide);obtain ⟨a4,w4,r4⟩:=Qfa (off:=4*1) (sz:=1) R_5 (by kernel_rfl) (fun _=>rfl) h4;exact ⟨(a0,a1,a2,a3,a4),⟨w0,w1,w2,w3,w4⟩,RDat.all (xs:=(fun p:Int×Int×Int×Int×Int=>[.int .u8 p.1,.int .u8 p.2.1,.int .u8 p.2.2.1,.int .u8 p.2.2.2.1,.int .u8 p.2.2.2.2]) (a0,a1,a2,a3,a4)) (RDat.app r0 rfl (RDat.app r1 rfl (RDat.app r2 rfl (RDat.app r3 rfl r4)))) (hl.trans (by kernel_rfl))⟩
def W_29 (x:Qbj):Prop:=W_22 x.Events∧W_26 x.Graph∧W_27 x.Flags
theorem R_29:Qxy Tryz.prog 29 Qmg W_29:=by
  intro H enc w base spare held fuel cs x h;obtain ⟨hl,n,hf⟩:=Q7w Tryz.underlying29 h;obtain ⟨y0,h0⟩:=hf 0 _ rfl;obtain ⟨a0,w0,r0⟩:=Qfa (off:=0) (sz:=1) R_22 (by kernel_rfl) (fun _=>rfl) h0;obtain ⟨y1,h1⟩:=hf 1 _ rfl;obtain ⟨a1,w1,r1⟩:=Qfa (off:=1) (sz:=27) R_26 (by kernel_rfl) (fun _=>rfl) h1;obtain ⟨y2,h2⟩:=hf 2 _ rfl;obtain ⟨a2,w2,r2⟩:=Qfa (off:=28) (sz:=5) R_27 (by kernel_rfl) (fun _=>rfl) h2;exact ⟨⟨a0,a1,a2⟩,⟨w0,w1,w2⟩,RDat.all (xs:=Qmg ⟨a0,a1,a2⟩) (RDat.app r0 rfl (RDat.app r1 rfl r2)) (hl.trans (by kernel_rfl))⟩
theorem A_29:Qmb Tryz.prog 29 (fun (a:Qbj)=>.agg [.d (.int .u8 a.Events),.d (.int .u8 a.Graph.zH),.d (.int .u8 a.Graph.Marks),.d (.int .u8 a.Graph.To.1.1),.d (.int .u8 a.Graph.To.1.2.1),.d (.int .u8 a.Graph.To.1.2.2.1),.d (.int .u8 a.Graph.To.1.2.2.2.1),.d (.int .u8 a.Graph.To.1.2.2.2.2),.d (.int .u8 a.Graph.To.2.1.1),.d (.int .u8 a.Graph.To.2.1.2.1),.d (.int .u8 a.Graph.To.2.1.2.2.1),.d (.int .u8 a.Graph.To.2.1.2.2.2.1),.d (.int .u8 a.Graph.To.2.1.2.2.2.2),.d (.int .u8 a.Graph.To.2.2.1.1),.d (.int .u8 a.Graph.To.2.2.1.2.1),.d (.int .u8 a.Graph.To.2.2.1.2.2.1),.d (.int .u8 a.Graph.To.2.2.1.2.2.2.1),.d (.int .u8 a.Graph.To.2.2.1.2.2.2.2),.d (.int .u8 a.Graph.To.2.2.2.1.1),.d (.int .u8 a.Graph.To.2.2.2.1.2.1),.d (.int .u8 a.Graph.To.2.2.2.1.2.2.1),.d (.int .u8 a.Graph.To.2.2.2.1.2.2.2.1),.d (.int .u8 a.Graph.To.2.2.2.1.2.2.2.2),.d (.int .u8 a.Graph.To.2.2.2.2.1),.d (.int .u8 a.Graph.To.2.2.2.2.2.1),.d (.int .u8 a.Graph.To.2.2.2.2.2.2.1),.d (.int .u8 a.Graph.To.2.2.2.2.2.2.2.1),.d (.int .u8 a.Graph.To.2.2.2.2.2.2.2.2),.d (.int .u8 a.Flags.1),.d (.int .u8 a.Flags.2.1),.d (.int .u8 a.Flags.2.2.1),.d (.int .u8 a.Flags.2.2.2.1),.d (.int .u8 a.Flags.2.2.2.2)]) W_29:=Qbiw R_29 (.inl ⟨_,Tryz.underlying29⟩)
def W_3 (x:Int):Prop:=wfI .i64 x
theorem R_3:Qxy Tryz.prog 3 (eI .i64) W_3:=Q20 Tryz.underlying3
def W_32 (x:List Int):Prop:=wfL W_3 x
theorem R_32:Qxy Tryz.prog 32 (eL 1 (eI .i64)) W_32:=Q9b Tryz.underlying32 R_3 (by kernel_rfl) (by decide) (fun _=>rfl)
theorem A_32:Qmb Tryz.prog 32 (fun (a:List Int)=>.d (.lst 1 (List.map (eI .i64) a))) W_32:=Qbec R_32 (Qbed Tryz.underlying32)
theorem A_5:Qmb Tryz.prog 5 (fun (a:Int)=>.d (.int .u8 a)) W_5:=Qbec R_5 (Qbiv Tryz.underlying5)
end Go.Proofs
end
section
namespace Go.Abs
open Go
theorem Qcx {X R:Type} {F:(X→Option R)→X→Option R} (I:X→Prop) (m:X→Nat) (Q:X→Option R→Prop)
  (step:∀ (k:X→Option R) (x:X),I x→(∀ y,I y→m y<m x→Q y (k y))→Q x (F k x)):∀ (fuel:Nat) (x:X),I x→m x<fuel→Q x (Qb9 F fuel x)
 | 0,x,_,h=>absurd h (Nat.not_lt_zero _)
 | fuel+1,x,hi,h=>step _ x hi fun y hy hm=>Qcx I m Q step fuel y hy (by omega)
theorem Qkp {x:Int} (h1 : -9223372036854775808≤x) (h2:x≤9223372036854775807):IntKind.wrap .i64 x=x:=by
 simp [IntKind.wrap,IntKind.bits,IntKind.signed];omega
theorem Qy {n:Nat} (h:n<9223372036854775807):IntKind.wrap .i64 ((n:Int)+1)=((n+1:Nat):Int):=by
 grind [Qkp]
theorem Qbg {α:Type} {l:List α} {n:Nat} (h:n<l.length):getO l (n:Int)=some l[n]:=by
 simp [getO,h]
theorem Qfm {α:Type} {l:List α} {i:Int} {x:α}:getO l i=some x↔0≤i∧l[i.toNat]? = some x:=by
 simp_all [getO,reduceCtorEq,false_iff,not_and,absurd]
theorem Qb4 {α:Type} {l m:List α} (h:l.length+m.length≤lim):appO l m=some (l++m):=by
 unfold appO;rw [if_pos h]
theorem Qj5 {R:Type} {F:(Int→Option R)→Int→Option R} {len fuel:Nat} (G:Nat→Option R) (hf:len<fuel)
  (step:∀ (k:Int→Option R) (n:Nat),n<len→k ((n+1:Nat):Int)=G (n+1)→F k (n:Int)=G n) (last:∀ k:Int→Option R,F k (len:Int)=G len):Qb9 F fuel 0=G 0:=by
 have:=Qcx (F:=F) (fun x=>∃ n:Nat,x=(n:Int)∧n≤len) (fun x=>len-x.toNat) (fun x r=>∀ n:Nat,x=(n:Int)→r=G n) (fun k x hx ih=>by
  obtain ⟨n,rfl,hn⟩:=hx;intro m hm;obtain rfl:n=m:=by omega
  by_cases h:n<len
  ·exact step k n h (ih _ ⟨n+1,rfl,by omega⟩ (by omega) (n+1) rfl)
  grind) fuel 0 ⟨0,rfl,by omega⟩ (by simpa using hf)
 exact this 0 rfl
theorem Q23 {n:Nat} (h0:0<n) (h:n<9223372036854775807):IntKind.wrap .i64 ((n:Int)-1)=((n-1:Nat):Int):=by
 grind [Qkp]
theorem Qbf9 {X S R:Type} {F:(X→Option R)→X→Option R} {len:Nat} (mk:Nat→S→X) (G:Nat→S→Option R)
  (step:∀ (k:X→Option R) (n:Nat) (s:S),n<len→(∀ s',k (mk (n+1) s')=G (n+1) s')→F k (mk n s)=G n s) (last:∀ (k:X→Option R) (s:S),F k (mk len s)=G len s) :
  ∀ (fuel n:Nat) (s:S),n≤len→len-n<fuel→Qb9 F fuel (mk n s)=G n s
 | 0,n,s,_,h=>by omega
 | fuel+1,n,s,hn,h=>by
  show F (Qb9 F fuel) (mk n s)=_;by_cases hlt:n<len
  ·exact step _ n s hlt fun s'=>Qbf9 mk G step last fuel (n+1) s' (by omega) (by omega)
  grind
theorem Qbhd {i j:Nat} (hi:i<1000000000000) (hj:j<1000000000000):IntKind.wrap .i64 (Int.fdiv (IntKind.wrap .u64 (IntKind.wrap .i64 ((i:Int)+j))) (2 ^ (min (Int.toNat 1) (IntKind.bits .u64))))=(((i+j) / 2:Nat):Int):=by
 grind [Go.IntKind.wrap,Qkp,Go.IntKind.bits,Go.IntKind.signed,Min.min,Int.toNat,Int.fdiv_eq_ediv_of_nonneg]
theorem Q5y {α:Type} {l:List α} {i j:Nat} (h:i≤j) (hj:j≤l.length):slcO l (i:Int) (j:Int)=some ((l.take j).drop i):=by
 simp [slcO,h,hj]
theorem Qbbx:∀ {l m:List Int},l.Pairwise (· < ·)→m.Pairwise (· < ·)→(∀ x,x∈l↔x∈m)→l=m
 | l,m,h1,h2,h=>by
  have n1:l.Nodup:=h1.imp fun h=>by omega
  have n2:m.Nodup:=h2.imp fun h=>by omega
  grind [List.perm_ext_iff_of_nodup,List.Perm.eq_of_pairwise]
section
variable {α:Type} {p:α→Bool}
theorem Qz7:∀ {l:List α},l.Pairwise (fun a b=>p b=true→p a=true)→∀ (n:Nat) (h:n<l.length),p l[n]=true↔n<(l.filter p).length
 | [],_,n,h=>by simp at h
 | x::xs,hs,n,h=>by
  obtain ⟨h1,h2⟩:=List.pairwise_cons.1 hs;cases n with
  | zero =>
   cases hx:p x with
   | true=>simp [hx]
   | false =>
    have:xs.filter p=[]:=List.filter_eq_nil_iff.2 fun y hy hp=>by have:=h1 y hy hp;rw [hx] at this;cases this
    simp [hx,this]
  | succ n =>
   have ih:=Qz7 h2 n (by simpa using h);cases hx:p x with
   | true=>simp [hx,ih]
   | false =>
    have:xs.filter p=[]:=List.filter_eq_nil_iff.2 fun y hy hp=>by have:=h1 y hy hp;rw [hx] at this;cases this
    rw [this] at ih;simp [hx,this] at ih ⊢;exact ih
end
theorem Qfn {X S R:Type} {F:(X→Option R)→X→Option R} {len:Nat} (mk:Nat→S→X) (I:Nat→S→Prop) (G:Nat→S→Option R)
  (step:∀ (k:X→Option R) (n:Nat) (s:S),n<len→I n s→(∀ s',I (n+1) s'→k (mk (n+1) s')=G (n+1) s')→F k (mk n s)=G n s) (last:∀ (k:X→Option R) (s:S),I len s→F k (mk len s)=G len s) :
  ∀ (fuel n:Nat) (s:S),n≤len→len-n<fuel→I n s→Qb9 F fuel (mk n s)=G n s
 | 0,n,s,_,h,_=>by omega
 | fuel+1,n,s,hn,h,hi=>by
  show F (Qb9 F fuel) (mk n s)=_;by_cases hlt:n<len
  ·exact step _ n s hlt hi fun s' hi'=>Qfn mk I G step last fuel (n+1) s' (by omega) (by omega) hi'
  grind
theorem Qf6:∀ {l:List Int} {a b:Int},l.Pairwise (· < ·)→(∀ x∈l,a≤x∧x<b)→l.length≤(b-a).toNat
 | [],_,_,_,_=>by simp
 | x::xs,a,b,h,hr=>by
  obtain ⟨h1,h2⟩:=List.pairwise_cons.1 h;have:=Qf6 (a:=x+1) (b:=b) h2 fun y hy=>⟨by have:=h1 y hy;omega,(hr y (by simp [hy])).2⟩;have:=hr x (by simp)
  grind
end Go.Abs
end
section
namespace Go.Abs
abbrev big : Nat := 1000000000000
def small (a : Qa) : Prop := a.zD.length < big ∧ a.zF.length < big ∧ a.zG.length < big
end Go.Abs
end
section
namespace Go.Abs
open Go
end Go.Abs
end
section
namespace Go.Abs
open Go
end Go.Abs
end
section
namespace Go.Abs
open Go
def Qgh (n:Int):Option Int→List Int→Int
 | _,[]=>0
 | p,x::xs=>if x<0∨x≥n then 2 else if ∃ y,p=some y∧x≤y then 5 else Qgh n (some x) xs
def Qkb (al:List Int) (st:Int):Option Qg→List Qg→Int
 | _,[]=>0
 | p,x::xs=>if x.From<0∨x.From≥st∨x.To<0∨x.To≥st then 2 else if x.Event∉al then 9 else if ∃ y,p=some y∧(x.From<y.From∨x.From=y.From∧x.Event≤y.Event) then 5 else Qkb al st (some x) xs
def Qsw (a:Qa):Int :=
 if Qgh 32 none a.zD≠0 then Qgh 32 none a.zD else if a.zH<0 then 2 else if a.zH>4096 then 3 else
 if Qgh a.zH none a.zF≠0 then Qgh a.zH none a.zF else Qkb a.zD a.zH none a.zG
def ahead {α:Type} (l:List α) (n:Nat):Option α:=if n=0 then none else l[n-1]?
theorem Qvo {α:Type} (l:List α):ahead l 0=none:=rfl
theorem Q4t {α:Type} (l:List α) {n:Nat} (h:n<l.length):ahead l (n+1)=some l[n]:=by simp [ahead,h]
theorem Q7x {α:Type} (l:List α) {n:Nat} (h0:0<n) (h:n≤l.length):ahead l n=some (l[n-1]'(by omega)):=by
 simp [ahead,show n≠0 from by omega,show n-1<l.length from by omega]
theorem Q7y {n:Int} {l:List Int} {k:Nat} (h:k<l.length):Qgh n (ahead l k) (l.drop k)=if l[k]<0∨l[k]≥n then 2 else if ∃ y,ahead l k=some y∧l[k]≤y then 5 else Qgh n (ahead l (k+1)) (l.drop (k+1)):=by
 rw [List.drop_eq_getElem_cons h,Qgh,Q4t l h]
theorem Q5z {al:List Int} {n:Int} {l:List Qg} {k:Nat} (h:k<l.length):Qkb al n (ahead l k) (l.drop k)=if l[k].From<0∨l[k].From≥n∨l[k].To<0∨l[k].To≥n then 2 else if l[k].Event∉al then 9 else if ∃ y,ahead l k=some y∧(l[k].From<y.From∨l[k].From=y.From∧l[k].Event≤y.Event) then 5 else Qkb al n (ahead l (k+1)) (l.drop (k+1)):=by
 rw [List.drop_eq_getElem_cons h,Qkb,Q4t l h]
theorem Qxz {l:List Int} {n:Int} (hl:l.length<big):Qg5 l n=some (Qgh n none l):=by
 unfold Qg5 Qck;refine (Qj5 (len:=l.length) (fun k=>some (Qgh n (ahead l k) (l.drop k))) (by unfold Q9;unfold big at hl;omega) ?_ ?_).trans (by simp [Qvo])
 ·intro k i hi ih;have hb:i<1000000000000:=by unfold big at hl;omega
  rw [Q7y hi]
  try dsimp only
  rw [if_pos (by omega),Qbg hi,Qy (by omega),ih];simp only [Option.bind_some];by_cases h1:l[i]<0
  ·simp [h1]
  ·by_cases h2:l[i]≥n
   ·simp [h1,h2]
   ·by_cases h0:0<i
    ·rw [Q23 h0 (by omega),Qbg (by omega:i-1<l.length),Q7x l h0 (by omega)];by_cases h3:l[i]≤l[i-1]<;>simp [h1,h2,h3,h0]
    ·obtain rfl:i=0:=by omega
     simp [h1,h2,Qvo]
 ·intro k;simp [Qgh]
theorem Qbga {l:List Int} {v:Int} (hl:l.length<big):Qii l v=some (if v∈l then (l.idxOf v:Int) else -1):=by
 unfold Qii Qdq;refine (Qj5 (len:=l.length) (fun k=>some (if v∈l.drop k then ((k+(l.drop k).idxOf v:Nat):Int) else -1)) (by unfold Q9;unfold big at hl;omega) ?_ ?_).trans (by simp)
 ·intro k i hi ih;have hb:i<1000000000000:=by unfold big at hl;omega
  try dsimp only
  rw [if_pos (by omega),Qbg hi,Qy (by omega),ih,List.drop_eq_getElem_cons hi];simp only [Option.bind_some,List.mem_cons,List.idxOf_cons];by_cases h:v=l[i]
  ·simp [← h]
  ·have:¬ l[i]=v:=fun e=>h e.symm;have hbq:(l[i]==v)=false:=by simp [this]
   by_cases h2:v∈l.drop (i+1)<;>simp [h,h2,hbq];omega
 ·intro k;simp
theorem Qpj {l:List Int} {v:Int} (hl:l.length<big):Qbi l v=some (decide (v∈l)):=by
 unfold Qbi Qj;rw [Qbga hl];simp only [Option.bind_some,Option.some.injEq];by_cases h:v∈l<;>simp [h]
theorem Qbhe {l:List Int} {v:Int} (hl:l.length<big):Qdj l v=some (decide (v∈l)):=by
 unfold Qdj Qbt;refine (Qj5 (len:=l.length) (fun k=>some (decide (v∈l.drop k))) (by unfold Q9;unfold big at hl;omega) ?_ ?_).trans (by simp)
 ·intro k i hi ih;have hb:i<1000000000000:=by unfold big at hl;omega
  try dsimp only
  rw [if_pos (by omega),Qbg hi,Qy (by omega),ih,List.drop_eq_getElem_cons hi];simp only [Option.bind_some,List.mem_cons];by_cases h:l[i]=v
  ·simp [h]
  ·have:¬ v=l[i]:=fun e=>h e.symm;simp [h,this]
 ·intro k;simp
theorem Q50 {a:Qa} (h:small a):Qf9 a=some (Qkb a.zD a.zH none a.zG):=by
 obtain ⟨hal,_,hl⟩:=h;unfold Qf9 Qch;refine (Qj5 (len:=a.zG.length) (fun k=>some (Qkb a.zD a.zH (ahead a.zG k) (a.zG.drop k))) (by unfold Q9;unfold big at hl;omega) ?_ ?_).trans (by simp [Qvo])
 ·intro k i hi ih;have hb:i<1000000000000:=by unfold big at hl;omega
  rw [Q5z hi];unfold letJ
  try dsimp only
  rw [if_pos (by omega),Qbg hi,Qy (by omega),ih];simp only [Option.bind_some,Qpj hal];generalize a.zG[i]=x;by_cases h1:x.From<0
  ·simp [h1]
  by_cases h2:x.From≥a.zH
  ·simp [h1,h2]
  by_cases h3:x.To<0
  ·simp [h1,h2,h3]
  by_cases h4:x.To≥a.zH
  ·simp [h1,h2,h3,h4]
  by_cases h5:x.Event∈a.zD
  ·by_cases h0:0<i
   ·rw [Q23 h0 (by omega),Qbg (by omega:i-1<a.zG.length),Q7x a.zG h0 (by omega)];generalize a.zG[i-1]=y;have hi0:i≠0:=by omega
    by_cases h6:x.From<y.From
    ·simp [h1,h2,h3,h4,h5,h6,hi0]
    by_cases h7:y.From=x.From
    ·by_cases h8:x.Event≤y.Event<;>simp [h1,h2,h3,h4,h5,h6,h7,h8,hi0]
    ·have h7' : ¬ x.From=y.From:=fun e=>h7 e.symm;simp [h1,h2,h3,h4,h5,h6,h7,hi0,h7']
   ·obtain rfl:i=0:=by omega
    simp [h1,h2,h3,h4,h5,Qvo]
  ·simp [h1,h2,h3,h4,h5]
 ·intro k;unfold letJ;simp [Qkb]
theorem Qbar {a:Qa} (h:small a):Qe5 a=some (Qsw a):=by
 unfold Qe5 Qbc Qsw;rw [Qxz h.1,Qxz h.2.1,Q50 h];simp only [Option.bind_some];by_cases h1:Qgh 32 none a.zD=0
 ·by_cases h2:a.zH<0
  ·simp [h1,h2]
  by_cases h3:a.zH>4096
  ·simp [h1,h2,h3]
  by_cases h4:Qgh a.zH none a.zF=0<;>simp [h1,h2,h3,h4]
 ·simp [h1]
end Go.Abs
end
section
namespace Go.Abs
open Go
def Qkq (x y:Qg):Prop:=x.From<y.From∨x.From=y.From∧x.Event<y.Event
instance (x y:Qg):Decidable (Qkq x y):=by unfold Qkq;infer_instance
structure Right (a:Qa):Prop where
 al0:∀ x∈a.zD,0≤x∧x<32
 al:a.zD.Pairwise (· < ·)
 st:0≤a.zH∧a.zH≤4096
 ma0:∀ x∈a.zF,0≤x∧x<a.zH
 ma:a.zF.Pairwise (· < ·)
 ed0:∀ x∈a.zG,0≤x.From∧x.From<a.zH∧0≤x.To∧x.To<a.zH∧x.Event∈a.zD
 ed:a.zG.Pairwise Qkq
theorem Qku {n:Int}:∀ {l:List Int} {p:Option Int},Qgh n p l=0↔(∀ x∈l,0≤x∧x<n)∧l.Pairwise (· < ·)∧∀ y,p=some y→∀ x∈l,y<x
 | [],p=>by simp [Qgh]
 | x::xs,p=>by
  rw [Qgh];split
  ·rename_i h;refine ⟨fun h=>by omega,fun hh=>?_⟩;have:=hh.1 x (by simp);omega
  ·rename_i h;split
   ·rename_i h2;obtain ⟨y,hy,hxy⟩:=h2;refine ⟨fun h=>by omega,fun hh=>?_⟩;have:=hh.2.2 y hy x (by simp);omega
   ·rename_i h2;rw [Qku];constructor
    ·rintro ⟨k1,k2,k3⟩;refine ⟨fun z hz=>?_,List.pairwise_cons.2 ⟨fun z hz=>k3 x rfl z hz,k2⟩,fun y hy z hz=>?_⟩
     ·rcases List.mem_cons.1 hz with rfl|hz
      ·omega
      ·exact k1 z hz
     ·have hyx:y<x:=by
       rcases Int.lt_or_le y x with h|h
       ·exact h
       ·exact absurd ⟨y,hy,h⟩ h2
      rcases List.mem_cons.1 hz with rfl|hz
      ·exact hyx
      ·have:=k3 x rfl z hz;omega
    ·rintro ⟨k1,k2,k3⟩;obtain ⟨k4,k5⟩:=List.pairwise_cons.1 k2;exact ⟨fun z hz=>k1 z (by simp [hz]),k5,fun y hy z hz=>by cases hy;exact k4 z hz⟩
theorem Qsx {al:List Int} {n:Int}:∀ {l:List Qg} {p:Option Qg},Qkb al n p l=0↔(∀ x∈l,0≤x.From∧x.From<n∧0≤x.To∧x.To<n∧x.Event∈al)∧l.Pairwise Qkq∧∀ y,p=some y→∀ x∈l,Qkq y x
 | [],p=>by simp [Qkb]
 | x::xs,p=>by
  have tr:∀ a b c:Qg,Qkq a b→Qkq b c→Qkq a c:=fun a b c h k=>by unfold Qkq at *;omega
  rw [Qkb];split
  ·rename_i h;refine ⟨fun h=>by omega,fun hh=>?_⟩;have:=hh.1 x (by simp);omega
  ·rename_i h;split
   ·rename_i h2;refine ⟨fun h=>by omega,fun hh=>?_⟩;exact absurd (hh.1 x (by simp)).2.2.2.2 h2
   ·rename_i hal;split
    ·rename_i h2;obtain ⟨y,hy,hxy⟩:=h2;refine ⟨fun h=>by omega,fun hh=>?_⟩;have:=hh.2.2 y hy x (by simp);unfold Qkq at this;omega
    ·rename_i h2;rw [Qsx];constructor
     ·rintro ⟨k1,k2,k3⟩;refine ⟨fun z hz=>?_,List.pairwise_cons.2 ⟨fun z hz=>k3 x rfl z hz,k2⟩,fun y hy z hz=>?_⟩
      ·rcases List.mem_cons.1 hz with rfl|hz
       ·exact ⟨by omega,by omega,by omega,by omega,Decidable.not_not.1 hal⟩
       ·exact k1 z hz
      ·have hyx:Qkq y x:=by
        apply Decidable.byContradiction;intro h;exact h2 ⟨y,hy,by unfold Qkq at h;omega⟩
       rcases List.mem_cons.1 hz with rfl|hz
       ·exact hyx
       ·exact tr _ _ _ hyx (k3 x rfl z hz)
     ·rintro ⟨k1,k2,k3⟩;obtain ⟨k4,k5⟩:=List.pairwise_cons.1 k2;exact ⟨fun z hz=>k1 z (by simp [hz]),k5,fun y hy z hz=>by cases hy;exact k4 z hz⟩
theorem Q7z {a:Qa}:Qsw a=0↔Right a:=by
 unfold Qsw;constructor
 ·intro h;split at h
  ·rename_i h1;exact absurd h h1
  rename_i h1;split at h
  ·omega
  split at h
  ·omega
  split at h
  ·rename_i h4;exact absurd h h4
  rename_i h4;have q1:=Qku.1 (Decidable.not_not.1 h1);have q2:=Qku.1 (Decidable.not_not.1 h4);have q3:=Qsx.1 h;exact ⟨q1.1,q1.2.1,⟨by omega,by omega⟩,q2.1,q2.2.1,q3.1,q3.2.1⟩
 ·intro h;have q1:Qgh 32 none a.zD=0:=Qku.2 ⟨h.al0,h.al,fun y hy=>by cases hy⟩;have q2:Qgh a.zH none a.zF=0:=Qku.2 ⟨h.ma0,h.ma,fun y hy=>by cases hy⟩;have q3:Qkb a.zD a.zH none a.zG=0:=Qsx.2 ⟨h.ed0,h.ed,fun y hy=>by cases hy⟩;have:=h.st;rw [if_neg (by simp [q1]),if_neg (by omega),if_neg (by omega),if_neg (by simp [q2]),q3]
def outP (a:Qa) (s:Int):List Qg:=a.zG.filter fun x=>x.From==s
def Qea (a:Qa) (s e:Int):Int:=match a.zG.find? fun x=>x.From==s&&x.Event==e with
 | some x=>x.To
 | none=>-1
theorem Qbeg {l:List Qg} (h:l.Pairwise Qkq) (s:Int):l.Pairwise fun a b=>decide (b.From<s)=true→decide (a.From<s)=true :=
 h.imp fun h=>by unfold Qkq at h;simp;omega
theorem Qbhf {l:List Qg} {s:Int} {cmp:Qg→Int→Option Int} (hcmp:∀ x∈l,cmp x s=some (x.From-s)) (hs:l.Pairwise Qkq) (hl:l.length<big) :
  ∃ b,Qdy l s cmp=some (((l.filter fun x=>decide (x.From<s)).length:Int),b):=by
 have hc:=fun n h=>Qz7 (p:=fun x:Qg=>decide (x.From<s)) (Qbeg hs s) n h;have hcl:(l.filter fun x=>decide (x.From<s)).length≤l.length:=List.length_filter_le _ _;generalize (l.filter fun x=>decide (x.From<s)).length=c at hc hcl;have hb:l.length<1000000000000:=hl;unfold Qdy Qbf;have hloop:=Qcx (F:=fun (k13:Int×Int→Option Int) ((i11,j12):Int×Int)=>(if (i11<j12) then ((getO l (IntKind.wrap .i64 (Int.fdiv (IntKind.wrap .u64 (IntKind.wrap .i64 (i11+j12))) (2 ^ (min (Int.toNat 1) (IntKind.bits .u64)))))).bind fun x15=>((cmp x15 s).bind fun x18=>(if (x18<0) then k13 ((IntKind.wrap .i64 ((IntKind.wrap .i64 (Int.fdiv (IntKind.wrap .u64 (IntKind.wrap .i64 (i11+j12))) (2 ^ (min (Int.toNat 1) (IntKind.bits .u64)))))+1)),j12) else k13 (i11,(IntKind.wrap .i64 (Int.fdiv (IntKind.wrap .u64 (IntKind.wrap .i64 (i11+j12))) (2 ^ (min (Int.toNat 1) (IntKind.bits .u64))))))))) else some i11))
  (fun x=>∃ i j:Nat,x=((i:Int),(j:Int))∧i≤c∧c≤j∧j≤l.length) (fun x=>(x.2-x.1).toNat) (fun _ r=>r=some (c:Int)) (by
   rintro k _ ⟨i,j,rfl,h1,h2,h3⟩ ih;dsimp only;by_cases hij:i<j
   ·rw [if_pos (by omega),Qbhd (by omega) (by omega)];have hm:(i+j) / 2<l.length:=by omega
    rw [Qbg hm];simp only [Option.bind_some];rw [hcmp _ (List.getElem_mem hm)];simp only [Option.bind_some];have hcm:=hc ((i+j) / 2) hm;by_cases hlt:l[(i+j) / 2].From<s
    ·rw [if_pos (by omega),Qy (by omega)];have:(i+j) / 2<c:=hcm.1 (by simpa using hlt);exact ih _ ⟨_,_,rfl,by omega,h2,h3⟩ (by simp only;omega)
    ·rw [if_neg (by omega)];have:¬ (i+j) / 2<c:=fun h=>hlt (by simpa using hcm.2 h);exact ih _ ⟨_,_,rfl,h1,by omega,by omega⟩ (by simp only;omega)
   ·rw [if_neg (by omega)];have:i=c:=by omega
    rw [this]) Q9 (0,(l.length:Int)) ⟨0,l.length,rfl,by omega,hcl,Nat.le_refl _⟩ (by unfold Q9;simp only;omega)
 rw [hloop];simp only [Option.bind_some];by_cases hlt:c<l.length
 ·rw [if_pos (by omega),Qbg hlt];simp only [Option.bind_some];rw [hcmp _ (List.getElem_mem hlt)];exact ⟨_,rfl⟩
 ·rw [if_neg (by omega)];exact ⟨_,rfl⟩
theorem Q70:∀ {l:List Qg} (s:Int),l.Pairwise Qkq→(l.take (l.filter fun x=>decide (x.From<s+1)).length).drop (l.filter fun x=>decide (x.From<s)).length=l.filter fun x=>x.From==s
 | [],s,_=>by simp
 | x::xs,s,h=>by
  obtain ⟨h1,h2⟩:=List.pairwise_cons.1 h;have ih:=Q70 s h2;have hge:∀ y∈xs,x.From≤y.From:=fun y hy=>by have:=h1 y hy;unfold Qkq at this;omega
  by_cases hx:x.From<s
  ·have e1:decide (x.From<s)=true:=by simpa using hx
   have e2:decide (x.From<s+1)=true:=by simp;omega
   have e3:(x.From==s)=false:=by simp;omega
   simp only [List.filter_cons,e1,e2,e3,if_true,List.length_cons,List.take_succ_cons,List.drop_succ_cons,Bool.false_eq_true,if_false];exact ih
  ·have hz:xs.filter (fun x=>decide (x.From<s))=[]:=List.filter_eq_nil_iff.2 fun y hy=>by have:=hge y hy;simp;omega
   have e1:decide (x.From<s)=false:=by simpa using hx
   by_cases hq:x.From=s
   ·have e2:decide (x.From<s+1)=true:=by simp;omega
    have e3:(x.From==s)=true:=by simp [hq]
    simp only [List.filter_cons,e1,e2,e3,if_true,List.length_cons,List.take_succ_cons,Bool.false_eq_true,if_false,hz,List.length_nil,List.drop_zero];rw [hz,List.length_nil,List.drop_zero] at ih;rw [ih]
   ·have e2:decide (x.From<s+1)=false:=by simp;omega
    have e3:(x.From==s)=false:=by simp [hq]
    have hz1:xs.filter (fun x=>decide (x.From<s+1))=[]:=List.filter_eq_nil_iff.2 fun y hy=>by have:=hge y hy;simp;omega
    have hz2:xs.filter (fun x=>x.From==s)=[]:=List.filter_eq_nil_iff.2 fun y hy=>by have:=hge y hy;simp;omega
    simp only [List.filter_cons,e1,e2,e3,Bool.false_eq_true,if_false,hz,hz1,hz2,List.length_nil,List.take_zero,List.drop_zero]
section
variable {a:Qa} (h:Right a) (hs:small a)
include h hs
theorem Qbj8 {s:Int} (h0 : -1000000000000<s) (h1:s<1000000000000):Qla a s=some (outP a s):=by
 unfold Qla Qfh;have hst:=h.st;have hw:∀ t:Int,-1000000000002<t→t<1000000000002→∀ x∈a.zG,IntKind.wrap .i64 (x.From-t)=x.From-t:=fun t k1 k2 x hx=>by
  have:=h.ed0 x hx;exact Qkp (by omega) (by omega)
 have e1:IntKind.wrap .i64 (s+1)=s+1:=Qkp (by omega) (by omega);obtain ⟨b1,k1⟩:=Qbhf (s:=s) (cmp:=Qjk) (fun x hx=>by unfold Qjk Qd5;rw [hw s (by omega) (by omega) x hx]) h.ed hs.2.2;obtain ⟨b2,k2⟩:=Qbhf (s:=s+1) (cmp:=Qjl) (fun x hx=>by unfold Qjl Qd6;rw [hw (s+1) (by omega) (by omega) x hx]) h.ed hs.2.2;rw [k1,e1];simp only [Option.bind_some];rw [k2];simp only [Option.bind_some];have hle:(a.zG.filter fun x=>decide (x.From<s)).length≤(a.zG.filter fun x=>decide (x.From<s+1)).length :=
  by rw [← List.countP_eq_length_filter,← List.countP_eq_length_filter];exact List.countP_mono_left fun x _ hx=>by simp at hx ⊢;omega
 rw [Q5y hle (List.length_filter_le _ _),Q70 s h.ed]
 rfl
theorem Qbiz {s e:Int} (h0 : -1000000000000<s) (h1:s<1000000000000):Qka a s e=some (Qea a s e):=by
 unfold Qka Qer;rw [Qbj8 h hs h0 h1];simp only [Option.bind_some];have hl:(outP a s).length<big:=Nat.lt_of_le_of_lt (List.length_filter_le _ _) hs.2.2;have hf:Qea a s e=match (outP a s).find? (fun x=>x.Event==e) with|some x=>x.To|none=>-1:=by
  unfold Qea outP;rw [List.find?_filter];have:(fun x:Qg=>decide ((x.From==s)=true∧(x.Event==e)=true))=fun x=>x.From==s&&x.Event==e:=by
   funext x;rw [Bool.eq_iff_iff];simp
  rw [this]
 rw [hf];generalize outP a s=l at hl;have hi:Qfy l (fun a6=>Qik a6 e)=some (if ∃ x∈l,x.Event=e then (l.findIdx (fun x=>x.Event==e):Int) else -1):=by
  have hb:l.length<1000000000000:=hl;unfold Qfy Qce;refine (Qj5 (len:=l.length) (fun k=>some (if ∃ x∈l.drop k,x.Event=e then ((k+(l.drop k).findIdx (fun x=>x.Event==e):Nat):Int) else -1)) (by unfold Q9;omega) ?_ ?_).trans (by simp)
  ·intro k i hi ih;rw [if_pos (by omega),Qbg hi,Qy (by omega),ih,List.drop_eq_getElem_cons hi];simp only [Option.bind_some,Qik,Qdr,List.findIdx_cons];by_cases hx:l[i].Event=e
   ·have hxb:(l[i].Event==e)=true:=by simp [hx]
    have hz:∃ x∈l[i]::l.drop (i+1),x.Event=e:=⟨l[i],List.mem_cons_self,hx⟩;simp only [hxb,if_true,if_pos hz,cond_true];rfl
   ·have hxb:(l[i].Event==e)=false:=by simp [hx]
    by_cases hy:∃ x∈l.drop (i+1),x.Event=e
    ·have hz:∃ x∈l[i]::l.drop (i+1),x.Event=e:=by obtain ⟨x,k1,k2⟩:=hy;exact ⟨x,List.mem_cons_of_mem _ k1,k2⟩
     simp only [hxb,Bool.false_eq_true,if_false,if_pos hy,if_pos hz,cond_false];have:∀ n:Nat,i+1+n=i+(n+1):=fun n=>by omega
     rw [this]
    ·have hz:¬ ∃ x∈l[i]::l.drop (i+1),x.Event=e:=by
      rintro ⟨x,k1,k2⟩;rcases List.mem_cons.1 k1 with rfl|k1
      ·exact hx k2
      ·exact hy ⟨x,k1,k2⟩
     simp only [hxb,Bool.false_eq_true,if_false,if_neg hy,if_neg hz,cond_false]
  ·intro k;simp
 rw [hi];simp only [Option.bind_some];by_cases hx:∃ x∈l,x.Event=e
 ·rw [if_pos hx,if_neg (by omega)];have hlt:l.findIdx (fun x=>x.Event==e)<l.length:=by
   rw [List.findIdx_lt_length];obtain ⟨x,k1,k2⟩:=hx;exact ⟨x,k1,by simp [k2]⟩
  rw [Qbg hlt];simp only [Option.bind_some];rw [show l.find? (fun x=>x.Event==e)=some l[l.findIdx (fun x=>x.Event==e)] from by
   rw [List.find?_eq_some_iff_getElem];refine ⟨List.findIdx_getElem (w:=hlt),_,hlt,rfl,fun j hj=>?_⟩;have:=List.not_of_lt_findIdx hj;simpa using this]
 ·rw [if_neg hx,if_pos (by omega)];rw [show l.find? (fun x=>x.Event==e)=none from List.find?_eq_none.2 fun x hx' hy=>hx ⟨x,hx',by simpa using hy⟩]
omit h in
theorem Q4u {s e:Int}:Qcl a s e=some (Qea a s e):=by
 have hb:a.zG.length<1000000000000:=hs.2.2;unfold Qcl Qbl;refine (Qj5 (len:=a.zG.length) (fun k=>some (match (a.zG.drop k).find? (fun x=>x.From==s&&x.Event==e) with|some x=>x.To|none=>-1)) (by unfold Q9;omega) ?_ ?_).trans (by simp [Qea])
 ·intro k i hi ih;rw [if_pos (by omega),Qbg hi,Qy (by omega),ih,List.drop_eq_getElem_cons hi];simp only [Option.bind_some,List.find?_cons];cases h1:a.zG[i].From==s<;>cases h2:a.zG[i].Event==e<;>simp [h1,h2]
 ·intro k;simp
end
theorem Q24 {a:Qa} (h:Right a) (s e:Int):Qea a s e = -1∨0≤Qea a s e∧Qea a s e<a.zH∧0≤s∧s<a.zH∧e∈a.zD:=by
 unfold Qea;split
 ·rename_i x hx;have hm:=List.mem_of_find?_eq_some hx;have hp:=List.find?_some hx;obtain ⟨k1,k2,k3,k4,k5⟩:=h.ed0 x hm;simp at hp;exact .inr ⟨k3,k4,by omega,by omega,hp.2 ▸ k5⟩
 ·exact .inl rfl
theorem Qm7 {a:Qa} (h:Right a) {s e:Int}:0≤Qea a s e↔∃ x∈outP a s,x.Event=e:=by
 unfold Qea outP;split
 ·rename_i x hx;have hm:=List.mem_of_find?_eq_some hx;have hp:=List.find?_some hx;simp at hp;refine ⟨fun _=>⟨x,by simp [hm,hp.1],hp.2⟩,fun _=>(h.ed0 x hm).2.2.1⟩
 ·rename_i hx;have:=List.find?_eq_none.1 hx;refine ⟨fun h=>by omega,?_⟩;rintro ⟨x,h1,h2⟩;simp at h1;exact absurd (by simp [h1.2,h2]) (this x h1.1)
theorem Qx0 {a:Qa} (h:Right a) (s:Int):(outP a s).map (·.Event)=a.zD.filter fun e=>decide (0≤Qea a s e):=by
 refine Qbbx ?_ (h.al.filter _) fun e=>?_
 ·rw [List.pairwise_map];have h1:(outP a s).Pairwise Qkq:=h.ed.filter _;have h2:∀ x∈outP a s,x.From=s:=fun x hx=>by unfold outP at hx;simp at hx;exact hx.2
  exact List.Pairwise.imp_of_mem (fun {x y} hx hy hk=>by have:=h2 x hx;have:=h2 y hy;unfold Qkq at hk;omega) h1
 ·simp only [List.mem_map,List.mem_filter,decide_eq_true_eq,Qm7 h];constructor
  ·rintro ⟨x,hx,rfl⟩;refine ⟨?_,x,hx,rfl⟩;unfold outP at hx;simp at hx;exact (h.ed0 x hx.1).2.2.2.2
  ·rintro ⟨_,x,hx,rfl⟩;exact ⟨x,hx,rfl⟩
theorem Qrt {a:Qa} (h:Right a) {s:Int} {x:Qg} (hx:x∈outP a s):Qea a s x.Event=x.To:=by
 unfold outP at hx;simp at hx;unfold Qea;split
 ·rename_i y hy;have hm:=List.mem_of_find?_eq_some hy;have hp:=List.find?_some hy;simp at hp;have:x=y:=by
   rcases Classical.em (x=y) with e|hne
   ·exact e
   ·exfalso;have hk:Qkq x y∨Qkq y x:=by
     have:=List.pairwise_iff_getElem.1 h.ed;obtain ⟨i,hi,rfl⟩:=List.getElem_of_mem hx.1;obtain ⟨j,hj,rfl⟩:=List.getElem_of_mem hm;rcases Nat.lt_trichotomy i j with hij|hij|hij
     ·exact .inl (this i j hi hj hij)
     ·subst hij;exact absurd rfl hne
     ·exact .inr (this j i hj hi hij)
    unfold Qkq at hk;omega
  rw [this]
 ·rename_i hn;exact absurd (by simp [hx.2]) (List.find?_eq_none.1 hn x hx.1)
end Go.Abs
end
section
namespace Go.Abs
open Go
theorem Right.small {a:Qa} (h:Right a):small a∧a.zD.length≤32∧a.zF.length≤4096∧a.zG.length≤131072:=by
 have h1:=Qf6 h.al h.al0;have h2:=Qf6 h.ma h.ma0;have h3:(a.zG.map fun x=>x.From*32+x.Event).Pairwise (· < ·):=by
  rw [List.pairwise_map];refine List.Pairwise.imp_of_mem (fun {x y} hx hy hk=>?_) h.ed;have:=h.al0 _ (h.ed0 x hx).2.2.2.2;have:=h.al0 _ (h.ed0 y hy).2.2.2.2;unfold Qkq at hk;omega
 have h4:=Qf6 (a:=0) (b:=131072) h3 (by
  intro z hz;obtain ⟨x,hx,rfl⟩:=List.mem_map.1 hz;have:=h.al0 _ (h.ed0 x hx).2.2.2.2;have:=h.ed0 x hx;have:=h.st;omega)
 rw [List.length_map] at h4;have:=h.st;refine ⟨⟨?_,?_,?_⟩,?_,?_,?_⟩<;>(try unfold big)<;>omega
theorem Q25 {a:Qa} (h:Right a):Qe5 a=some 0:=by rw [Qbar h.small.1,Q7z.2 h]
theorem Qbby {α β:Type} {l:List α} {f:α→β} {fuel:Nat} (hl:l.length<big) (hf:l.length<fuel) {F:(List β×Int→Option (List β))→List β×Int→Option (List β)}
  (hF:∀ (k:List β×Int→Option (List β)) (acc:List β) (n:Nat) (h:n<l.length),F k (acc,(n:Int))=(appO acc [f l[n]]).bind fun x=>k (x,IntKind.wrap .i64 ((n:Int)+1)))
  (hlast:∀ (k:List β×Int→Option (List β)) (acc:List β),F k (acc,(l.length:Int))=some acc):Qb9 F fuel ([],0)=some (l.map f):=by
 have hb:l.length<1000000000000:=hl;refine (Qfn (len:=l.length) (fun n (acc:List β)=>(acc,(n:Int))) (fun n acc=>acc.length≤n) (fun n acc=>some (acc++(l.drop n).map f)) ?_ ?_ fuel 0 [] (Nat.zero_le _) (by omega) (Nat.le_refl _)).trans (by simp)
 ·intro k n acc hn hi ih;rw [hF k acc n hn,Qb4 (by simp only [List.length_cons,List.length_nil];unfold lim;omega),Option.bind_some,Qy (by omega),ih _ (by simp;omega),List.drop_eq_getElem_cons hn];simp only [List.map_cons,List.append_assoc,List.cons_append,List.nil_append]
 ·intro k acc _;rw [hlast];simp
end Go.Abs
end
section
namespace Go.Abs
open Go
def ins (o:List Int) (t:Int):List Int:=if t∈o then o else o++[t]
def Qru (a:Qa) (s:Int):List Int:=(outP a s).map (·.To)
def bfs (a:Qa):Nat→Nat→List Int→List Int
 | 0,_,o=>o
 | fuel+1,i,o=>match o[i]? with
  | some s=>bfs a fuel (i+1) ((Qru a s).foldl ins o)
  | none=>o
def Qm8 (a:Qa):List Int:=bfs a (a.zH.toNat+1) 0 (if 0<a.zH then [0] else [])
structure Fnd (a:Qa) (o:List Int):Prop where
 nd:o.Nodup
 rg:∀ s∈o,0≤s∧s<a.zH
theorem Fnd.len {a:Qa} {o:List Int} (h:Fnd a o):o.length≤a.zH.toNat:=by
 have hO:Go.Sort.SWO Qf1:=⟨fun x=>by simp [Qf1],fun x y z h1 h2=>by simp [Qf1] at *;omega,fun x y z h1 h2=>by simp [Qf1] at *;omega⟩;have hp:=Qpa Qf1 o;have hs:=Qoa hO o;have hn:(Qnu Qf1 o).Nodup:=(hp.nodup_iff).2 h.nd;have hlt:(Qnu Qf1 o).Pairwise (· < ·):=by
  have:(Qnu Qf1 o).Pairwise fun x y=>Qf1 y x=false∧x≠y:=hs.and hn;exact this.imp fun ⟨h1,h2⟩=>by simp [Qf1] at h1;omega
 have:=Qf6 hlt (a:=0) (b:=a.zH) fun x hx=>h.rg x (hp.mem_iff.1 hx);rw [Qn9] at this;simpa using this
theorem Q26 {o:List Int} {t x:Int}:x∈ins o t↔x∈o∨x=t:=by
 unfold ins;split
 ·rename_i h;constructor
  ·exact .inl
  ·rintro (h'|rfl)
   ·exact h'
   ·exact h
 ·simp
theorem Qbi0 (o:List Int) (t:Int):o <+: ins o t:=by
 unfold ins;split
 ·exact List.prefix_refl o
 ·exact List.prefix_append o [t]
theorem Fnd.ins {a:Qa} {o:List Int} (h:Fnd a o) {t:Int} (ht:0≤t∧t<a.zH):Fnd a (ins o t):=by
 refine ⟨?_,fun s hs=>?_⟩
 ·unfold Go.Abs.ins;split
  ·exact h.nd
  ·rename_i hn;rw [List.nodup_append];exact ⟨h.nd,by simp,fun x hx y hy=>by simp at hy;subst hy;exact fun e=>hn (e ▸ hx)⟩
 ·rcases Q26.1 hs with hs|rfl
  ·exact h.rg s hs
  ·exact ht
theorem Qu5 {a:Qa}:∀ {ts o:List Int},Fnd a o→(∀ t∈ts,0≤t∧t<a.zH)→Fnd a (ts.foldl ins o)∧o <+: ts.foldl ins o∧(∀ t∈ts,t∈ts.foldl ins o)∧∀ x∈ts.foldl ins o,x∈o∨x∈ts
 | [],o,h,_=>⟨h,List.prefix_refl o,by simp,fun x hx=>.inl hx⟩
 | t::ts,o,h,ht=>by
  obtain ⟨h1,h2,h3,h4⟩:=Qu5 (ts:=ts) (h.ins (ht t (by simp))) fun t ht'=>ht t (by simp [ht']);refine ⟨h1,(Qbi0 o t).trans h2,fun x hx=>?_,fun x hx=>?_⟩
  ·rcases List.mem_cons.1 hx with rfl|hx
   ·exact h2.subset (Q26.2 (.inr rfl))
   ·exact h3 x hx
  ·rcases h4 x hx with h5|h5
   ·rcases Q26.1 h5 with h6|rfl
    ·exact .inl h6
    ·exact .inr (by simp)
   ·exact .inr (by simp [h5])
theorem Qx1 {a:Qa} (h:Right a) (s:Int):∀ t∈Qru a s,0≤t∧t<a.zH:=by
 intro t ht;unfold Qru outP at ht;obtain ⟨x,hx,rfl⟩:=List.mem_map.1 ht;have:=h.ed0 x ((List.mem_filter.1 hx).1);omega
theorem Qvp {α:Type} {l m:List α} (h:l <+: m) {i:Nat} {x:α} (hx:l[i]? = some x):m[i]? = some x:=by
 obtain ⟨t,rfl⟩:=h;have:=(List.getElem?_eq_some_iff.1 hx).1;rw [List.getElem?_append_left this];exact hx
theorem Q51 {a:Qa} (h:Right a):∀ (fuel i:Nat) (o:List Int),Fnd a o→i≤o.length→a.zH.toNat+1≤fuel+i→(∀ j s,j<i→o[j]? = some s→∀ t∈Qru a s,t∈o) →
  Fnd a (bfs a fuel i o)∧o <+: bfs a fuel i o∧∀ s∈bfs a fuel i o,∀ t∈Qru a s,t∈bfs a fuel i o
 | 0,i,o,hf,hi,hfu,_=>by have:=hf.len;omega
 | fuel+1,i,o,hf,hi,hfu,hc=>by
  unfold bfs;cases hg:o[i]? with
  | none =>
   dsimp only;refine ⟨hf,List.prefix_refl o,fun s hs t ht=>?_⟩;obtain ⟨j,hj⟩:=List.getElem?_of_mem hs;have hlt:=(List.getElem?_eq_some_iff.1 hj).1;exact hc j s (by have:=List.getElem?_eq_none_iff.1 hg;omega) hj t ht
  | some s =>
   dsimp only;obtain ⟨h1,h2,h3,_⟩:=Qu5 hf (Qx1 h s);have hlen:i<o.length:=(List.getElem?_eq_some_iff.1 hg).1;have hle:=h2.length_le;obtain ⟨k1,k2,k3⟩:=Q51 h fuel (i+1) ((Qru a s).foldl ins o) h1 (by omega) (by omega) (fun j s' hj hs' t ht=>by
    by_cases hji:j<i
    ·have hjl:j<o.length:=by omega
     have:o[j]? = some s':=by
      have:=Qvp h2 (List.getElem?_eq_getElem hjl);rw [hs'] at this;rw [List.getElem?_eq_getElem hjl];exact this.symm
     exact h2.subset (hc j s' hji this t ht)
    ·obtain rfl:j=i:=by omega
     have:=Qvp h2 hg;rw [hs'] at this;cases this;exact h3 t ht)
   exact ⟨k1,h2.trans k2,k3⟩
theorem Qvq {a:Qa} (h:Right a):Fnd a (Qm8 a)∧(if 0<a.zH then [0] else []) <+: Qm8 a∧∀ s∈Qm8 a,∀ t∈Qru a s,t∈Qm8 a :=
 Q51 h _ 0 _ ⟨by split<;>simp,fun s hs=>by split at hs<;>simp at hs;subst hs;omega⟩ (Nat.zero_le _) (by omega) fun j s hj=>by omega
def Qwx (m:List Int):Nat→List Int→List Int
 | _,[]=>[]
 | i,s::t=>(if s∈m then [(i:Int)] else [])++Qwx m (i+1) t
def rowP (a:Qa) (F:List Int) (i:Nat) (s:Int):List Qg:=(outP a s).map fun x=>⟨(i:Int),x.Event,(F.idxOf x.To:Int)⟩
def Qwy (a:Qa) (F:List Int):Nat→List Int→List Qg
 | _,[]=>[]
 | i,s::t=>rowP a F i s++Qwy a F (i+1) t
def Qu6 (a:Qa):Qa:=⟨a.zD,((Qm8 a).length:Int),Qwx a.zF 0 (Qm8 a),Qwy a (Qm8 a) 0 (Qm8 a)⟩
theorem Qu7 {m:List Int}:∀ {l:List Int} {i:Nat},∀ x∈Qwx m i l,(i:Int)≤x∧x<(i+l.length:Nat)
 | [],i,x,hx=>by simp [Qwx] at hx
 | s::t,i,x,hx=>by
  simp only [Qwx,List.mem_append] at hx;rcases hx with hx|hx
  ·split at hx<;>simp at hx;subst hx;simp only [List.length_cons];omega
  ·have:=Qu7 x hx;simp only [List.length_cons];omega
theorem Qy5 {m:List Int}:∀ {l:List Int} {i:Nat},(Qwx m i l).Pairwise (· < ·)
 | [],i=>.nil
 | s::t,i=>by
  simp only [Qwx];rw [List.pairwise_append];refine ⟨by split<;>simp,Qy5,fun x hx y hy=>?_⟩;have:=Qu7 y hy;split at hx<;>simp at hx;omega
theorem Qx2 {a:Qa} {F:List Int}:∀ {l:List Int} {i:Nat},∀ x∈Qwy a F i l,(i:Int)≤x.From∧x.From<(i+l.length:Nat)∧∃ s∈l,∃ y∈outP a s,x.Event=y.Event∧x.To=(F.idxOf y.To:Int)
 | [],i,x,hx=>by simp [Qwy] at hx
 | s::t,i,x,hx=>by
  simp only [Qwy,List.mem_append] at hx;rcases hx with hx|hx
  ·obtain ⟨y,hy,rfl⟩:=List.mem_map.1 hx;simp only [List.length_cons];exact ⟨by omega,by omega,s,by simp,y,hy,rfl,rfl⟩
  ·obtain ⟨h1,h2,s',h3,h4⟩:=Qx2 x hx;simp only [List.length_cons];exact ⟨by omega,by omega,s',by simp [h3],h4⟩
theorem Qy6 {a:Qa} (h:Right a) {F:List Int}:∀ {l:List Int} {i:Nat},(Qwy a F i l).Pairwise Qkq
 | [],i=>.nil
 | s::t,i=>by
  simp only [Qwy];rw [List.pairwise_append];refine ⟨?_,Qy6 h,fun x hx y hy=>?_⟩
  ·unfold rowP;rw [List.pairwise_map];have h1:(outP a s).Pairwise Qkq:=h.ed.filter _;have h2:∀ x∈outP a s,x.From=s:=fun x hx=>by unfold outP at hx;simp at hx;exact hx.2
   exact List.Pairwise.imp_of_mem (fun {x y} hx hy hk=>by have:=h2 x hx;have:=h2 y hy;unfold Qkq at hk;exact .inr ⟨rfl,by show x.Event<y.Event;omega⟩) h1
  ·obtain ⟨z,_,rfl⟩:=List.mem_map.1 hx;have:=(Qx2 y hy).1;unfold Qkq;simp only;omega
theorem Q71 {a:Qa} (h:Right a):Right (Qu6 a):=by
 obtain ⟨h1,h2,h3⟩:=Qvq h;have hl:=h1.len;have hst:=h.st;refine ⟨h.al0,h.al,⟨by simp only [Qu6];omega,by simp only [Qu6];omega⟩,fun x hx=>?_,Qy5,fun x hx=>?_,Qy6 h⟩
 ·have:=Qu7 x hx;simp only [Qu6];omega
 ·obtain ⟨k1,k2,s,hs,y,hy,k3,k4⟩:=Qx2 x hx;have hy' : y.To∈Qm8 a:=h3 s hs y.To (List.mem_map.2 ⟨y,hy,rfl⟩);have:=List.idxOf_lt_length_iff.2 hy';simp only [Qu6];refine ⟨by omega,by omega,by omega,by omega,?_⟩;rw [k3];unfold outP at hy;exact (h.ed0 y ((List.mem_filter.1 hy).1)).2.2.2.2
end Go.Abs
end
section
namespace Go.Abs
open Go
theorem Qbas {l:List Int} (hl:l.length≤lim):Qfj l=some ⟨l,0,[],[]⟩:=by
 unfold Qfj Qbb;rw [Qb4 (by simpa using hl)];rfl
theorem Q9c {l:List Int} {v:Int} (hl:l.length<big):Qfk l v=some (if v∈l then (l.idxOf v:Int) else -1):=by
 have hb:l.length<1000000000000:=hl;unfold Qfk Qcv;refine (Qj5 (len:=l.length) (fun k=>some (if v∈l.drop k then ((k+(l.drop k).idxOf v:Nat):Int) else -1)) (by unfold Q9;omega) ?_ ?_).trans (by simp)
 ·intro k i hi ih;rw [if_pos (by omega),Qbg hi,Qy (by omega),ih,List.drop_eq_getElem_cons hi];simp only [Option.bind_some,List.mem_cons,List.idxOf_cons];by_cases h:v=l[i]
  ·simp [← h]
  ·have h' : ¬ l[i]=v:=fun e=>h e.symm;have hbq:(l[i]==v)=false:=by simp [h']
   by_cases h2:v∈l.drop (i+1)<;>simp [h,h2,hbq];omega
 ·intro k;simp
theorem Q0o {a:Qa} (h:Right a) (s:Int):Qru a s=(a.zD.filter fun e=>decide (0≤Qea a s e)).map (Qea a s):=by
 rw [← Qx0 h,List.map_map];unfold Qru;exact List.map_congr_left fun x hx=>(Qrt h hx).symm
theorem Q4v {a:Qa} (s:Int):∀ (al o:List Int),al.foldl (fun o e=>if 0≤Qea a s e then ins o (Qea a s e) else o) o=((al.filter fun e=>decide (0≤Qea a s e)).map (Qea a s)).foldl ins o
 | [],o=>rfl
 | e::al,o=>by
  by_cases hx:0≤Qea a s e<;>simp [List.filter_cons,hx,Q4v s al]
theorem Qbat {a:Qa} {fuel i:Nat} {o:List Int} (hi:i<o.length):bfs a (fuel+1) i o=bfs a fuel (i+1) ((Qru a o[i]).foldl ins o):=by
 conv=>lhs;unfold bfs
 rw [List.getElem?_eq_getElem hi]
theorem Qbeh {a:Qa} {fuel:Nat} {o:List Int}:bfs a fuel o.length o=o:=by
 cases fuel with
 | zero=>rfl
 | succ n=>unfold bfs;simp
section
variable {a:Qa} (h:Right a)
include h
theorem Qbbz (fuel:Nat) (hfu:1099511627776≤fuel) {s:Int} {o:List Int} {i:Nat} (hf:Fnd a o) (hi:o[i]? = some s) :
  Qb9 (fun k12 ((out10,k11):(List Int)×Int)=>(if (k11<(a.zD.length:Int)) then ((((getO out10 (i:Int)).bind fun x14=>((getO a.zD k11).bind fun x16=>((Qcl a x14 x16).bind fun x19=>(((if (x19≥0) then ((Qdj out10 x19).bind fun x22=>some (!x22)) else some false)).bind fun (x23:Bool)=>(if x23 then ((appO out10 [x19]).bind fun x25=>some x25) else some out10)))))).bind fun (out27:List Int)=>k12 (out27,(IntKind.wrap .i64 (k11+1)))) else some out10)) fuel (o,0)=some ((Qru a s).foldl ins o):=by
 have hs:=h.small.1;have hst:=h.st;have hb:a.zD.length<1000000000000:=hs.1;rw [Q0o h,← Q4v];refine (Qfn (len:=a.zD.length) (fun n (acc:List Int)=>(acc,(n:Int))) (fun n acc=>Fnd a acc∧acc[i]? = some s) (fun n acc=>some ((a.zD.drop n).foldl (fun o e=>if 0≤Qea a s e then ins o (Qea a s e) else o) acc)) ?_ ?_ fuel 0 o (Nat.zero_le _) (by omega) ⟨hf,hi⟩).trans (by simp)
 ·intro k n acc hn ⟨k1,k2⟩ ih;have hlen:=k1.len;have hg:getO acc (i:Int)=some s:=by rw [Qfm];exact ⟨by omega,by simpa using k2⟩
  dsimp only;rw [if_pos (by omega),hg,Qbg hn];simp only [Option.bind_some];rw [Q4u hs,Qy (by omega)];simp only [Option.bind_some];rw [Qbhe (by unfold big;omega),List.drop_eq_getElem_cons hn,List.foldl_cons];rcases Q24 h s a.zD[n] with hr|hr
  ·rw [hr];simp only [show ¬ ((-1:Int)≥0) from by omega,show ¬ ((0:Int) ≤ -1) from by omega,if_false,Option.bind_some,Bool.false_eq_true];exact ih _ ⟨k1,k2⟩
  ·have hge:Qea a s a.zD[n]≥0:=hr.1;by_cases hm:Qea a s a.zD[n]∈acc
   ·simp only [hge,hm,decide_true,Bool.not_true,if_true,Option.bind_some,Bool.false_eq_true,if_false,hr.1,ins];exact ih _ ⟨k1,k2⟩
   ·simp only [hge,hm,decide_false,Bool.not_false,if_true,Option.bind_some,hr.1,ins,if_false];rw [Qb4 (by simp only [List.length_cons,List.length_nil];unfold lim;omega)];simp only [Option.bind_some];have hi':=k1.ins (t:=Qea a s a.zD[n]) ⟨hr.1,hr.2.1⟩;unfold ins at hi';rw [if_neg hm] at hi';exact ih _ ⟨hi',Qvp (List.prefix_append acc _) k2⟩
 ·intro k acc _;dsimp only;rw [if_neg (by omega)];simp
theorem Q9d:Qgu a=some (Qm8 a):=by
 have hs:=h.small.1;have hst:=h.st;unfold Qgu Qcu;obtain ⟨fuel,hfu,hge⟩ : ∃ f,Q9=f∧1099511627776≤f:=⟨_,rfl,Nat.le_refl _⟩;rw [hfu];have hloop:∀ o:List Int,Fnd a o→Qb9 (fun (k8:List Int×Int→Option (List Int)) ((out6,i7):(List Int)×Int)=>(if (i7<(out6.length:Int)) then ((Qb9 (fun k12 ((out10,k11):(List Int)×Int)=>(if (k11<(a.zD.length:Int)) then ((((getO out10 i7).bind fun x14=>((getO a.zD k11).bind fun x16=>((Qcl a x14 x16).bind fun x19=>(((if (x19≥0) then ((Qdj out10 x19).bind fun x22=>some (!x22)) else some false)).bind fun (x23:Bool)=>(if x23 then ((appO out10 [x19]).bind fun x25=>some x25) else some out10)))))).bind fun (out27:List Int)=>k12 (out27,(IntKind.wrap .i64 (k11+1)))) else some out10)) fuel (out6,0)).bind fun (out28:List Int)=>k8 (out28,(IntKind.wrap .i64 (i7+1)))) else some out6)) fuel (o,0)=some (bfs a (a.zH.toNat+1) 0 o):=by
  intro o ho;have:=Qcx (F:=fun (k8:List Int×Int→Option (List Int)) ((out6,i7):(List Int)×Int)=>(if (i7<(out6.length:Int)) then ((Qb9 (fun k12 ((out10,k11):(List Int)×Int)=>(if (k11<(a.zD.length:Int)) then ((((getO out10 i7).bind fun x14=>((getO a.zD k11).bind fun x16=>((Qcl a x14 x16).bind fun x19=>(((if (x19≥0) then ((Qdj out10 x19).bind fun x22=>some (!x22)) else some false)).bind fun (x23:Bool)=>(if x23 then ((appO out10 [x19]).bind fun x25=>some x25) else some out10)))))).bind fun (out27:List Int)=>k12 (out27,(IntKind.wrap .i64 (k11+1)))) else some out10)) fuel (out6,0)).bind fun (out28:List Int)=>k8 (out28,(IntKind.wrap .i64 (i7+1)))) else some out6))
   (fun x=>∃ i:Nat,x.2=(i:Int)∧i≤x.1.length∧Fnd a x.1) (fun x=>a.zH.toNat+1-x.2.toNat) (fun x r=>r=some (bfs a (a.zH.toNat+1-x.2.toNat) x.2.toNat x.1)) (by
    rintro k ⟨o,i⟩ ⟨i,rfl,hi,hf⟩ ih;replace hi:i≤o.length:=hi;replace hf:Fnd a o:=hf;have hl:=hf.len;dsimp only;by_cases hlt:i<o.length
    ·rw [if_pos (by omega),Qbbz h fuel hge hf (List.getElem?_eq_getElem hlt),Option.bind_some,Qy (by omega)];obtain ⟨q1,q2,_,_⟩:=Qu5 hf (Qx1 h o[i]);have hle:=q2.length_le;rw [ih _ ⟨i+1,rfl,by simp only;omega,q1⟩ (by simp only;omega)];simp only [Int.toNat_natCast];rw [show a.zH.toNat+1-i=(a.zH.toNat+1-(i+1))+1 from by omega,Qbat hlt]
    ·rw [if_neg (by omega)];obtain rfl:i=o.length:=by omega
     simp only [Int.toNat_natCast,Qbeh]) fuel (o,0) ⟨0,rfl,Nat.zero_le _,ho⟩ (by simp only;omega)
  simpa using this
 by_cases h0:0<a.zH
 ·rw [if_pos (by omega),Qb4 (by simp only [List.length_cons,List.length_nil];unfold lim;omega)];simp only [Option.bind_some];rw [show ([]++[0]:List Int)=[0] from rfl,hloop [0] ⟨by simp,fun s hs=>by simp at hs;subst hs;omega⟩];simp only [Option.bind_some,Qm8,if_pos h0]
 ·rw [if_neg (by omega)];simp only [Option.bind_some];rw [hloop [] ⟨by simp,fun s hs=>by simp at hs⟩];simp only [Option.bind_some,Qm8,if_neg h0]
theorem Q4w (fuel:Nat) (hfu:1099511627776≤fuel) {F:List Int} (hF:Fnd a F) (hcl:∀ s∈F,∀ t∈Qru a s,t∈F) {s:Int} {i:Nat} (hi:F[i]? = some s) (ms:List Int) (es:List Qg) (hes:es.length≤200000) :
  Qb9 (fun (k24:Int×List Qg→Option (List Int×List Qg)) ((k22,out23):Int×(List Qg))=>(if (k22<(a.zD.length:Int)) then ((((getO F (i:Int)).bind fun x26=>((getO a.zD k22).bind fun x28=>((Qcl a x26 x28).bind fun x31=>(if (x31≥0) then ((getO a.zD k22).bind fun x33=>((Qfk F x31).bind fun x36=>((appO out23 [(Qg.mk (i:Int) x33 x36)]).bind fun x37=>some x37))) else some out23))))).bind fun (out39:List Qg)=>k24 ((IntKind.wrap .i64 (k22+1)),out39)) else some (ms,out23))) fuel (0,es)=some (ms,es++rowP a F i s):=by
 have hs:=h.small.1;have hst:=h.st;have hal:=h.small.2.1;have hb:a.zD.length<1000000000000:=hs.1;have hFl:=hF.len;have hrow:rowP a F i s=(a.zD.filter fun e=>decide (0≤Qea a s e)).map fun e=>⟨(i:Int),e,(F.idxOf (Qea a s e):Int)⟩:=by
  rw [← Qx0 h,List.map_map];unfold rowP;exact List.map_congr_left fun x hx=>by simp only [Function.comp];rw [Qrt h hx]
 rw [hrow];refine (Qfn (len:=a.zD.length) (fun n (acc:List Qg)=>((n:Int),acc)) (fun n acc=>acc.length≤200000+n) (fun n acc=>some (ms,acc++((a.zD.drop n).filter fun e=>decide (0≤Qea a s e)).map fun e=>⟨(i:Int),e,(F.idxOf (Qea a s e):Int)⟩)) ?_ ?_ fuel 0 es (Nat.zero_le _) (by omega) (by omega)).trans (by simp)
 ·intro k n acc hn k1 ih;have hg:getO F (i:Int)=some s:=by rw [Qfm];exact ⟨by omega,by simpa using hi⟩
  dsimp only;rw [if_pos (by omega),hg,Qbg hn];simp only [Option.bind_some];rw [Q4u hs,Qy (by omega)];simp only [Option.bind_some];rw [List.drop_eq_getElem_cons hn,List.filter_cons];by_cases hr:0≤Qea a s a.zD[n]
  ·have hm:Qea a s a.zD[n]∈F:=hcl s (List.mem_of_getElem? hi) _ (by rw [Q0o h];exact List.mem_map.2 ⟨_,List.mem_filter.2 ⟨List.getElem_mem hn,by simpa using hr⟩,rfl⟩);rw [if_pos hr,Q9c (by unfold big;omega),if_pos hm];simp only [Option.bind_some];rw [Qb4 (by simp only [List.length_cons,List.length_nil];unfold lim;omega)];simp only [Option.bind_some];rw [ih _ (by simp only [List.length_append,List.length_cons,List.length_nil];omega)];simp only [hr,decide_true,if_true,List.map_cons,List.append_assoc,List.cons_append,List.nil_append]
  ·rw [if_neg (by omega)];simp only [Option.bind_some];rw [ih _ (by omega)];simp only [hr,decide_false,Bool.false_eq_true,if_false]
 ·intro k acc _;dsimp only;rw [if_neg (by omega)];simp
theorem Qbgb {F:List Int} {i:Nat} {s:Int}:(rowP a F i s).length≤32:=by
 have:=h.small.2.1;have h1:(rowP a F i s).length=((outP a s).map (·.Event)).length:=by simp [rowP]
 rw [h1,Qx0 h];exact Nat.le_trans (List.length_filter_le _ _) this
theorem Q27:Qe9 a=some (Qu6 a):=by
 have hs:=h.small.1;have hst:=h.st;have hal:=h.small.2.1;have hb:a.zD.length<1000000000000:=hs.1;obtain ⟨hF,_,hcl⟩:=Qvq h;have hFl:=hF.len;unfold Qe9 Qb2;obtain ⟨fuel,hfu,hge⟩ : ∃ f,Q9=f∧1099511627776≤f:=⟨_,rfl,Nat.le_refl _⟩;rw [hfu,Q9d h,Option.bind_some,Qbas (by unfold lim;omega),Option.bind_some];unfold Qu6;generalize Qm8 a=F at hF hcl hFl;show Option.bind (Qb9 _ fuel (((0:Nat):Int),[],[],[],[],[])) _=_;rw [Qfn (len:=F.length) (R:=List Int×List Int×List Qg×List Int×List Qg) (fun n (acc:List Int×List Qg)=>((n:Int),([]:List Int),([]:List Int),([]:List Qg),acc.1,acc.2)) (fun n acc=>acc.1.length≤n∧acc.2.length≤32*n)
  (fun n acc=>some (([]:List Int),([]:List Int),([]:List Qg),acc.1++Qwx a.zF n (F.drop n),acc.2++Qwy a F n (F.drop n))) ?_ ?_ fuel 0 ([],[]) (Nat.zero_le _) (by omega) ⟨Nat.zero_le _,Nat.zero_le _⟩]
 ·simp
 ·rintro k n ⟨ms,es⟩ hn ⟨k1,k2⟩ ih;replace k1:ms.length≤n:=k1;replace k2:es.length≤32*n:=k2;have hg:=List.getElem?_eq_getElem hn;dsimp only;rw [if_pos (by omega),Qbg hn];simp only [Option.bind_some];rw [Qbhe hs.2.1];simp only [Option.bind_some];have hrl:=Qbgb h (F:=F) (i:=n) (s:=F[n]);rw [List.drop_eq_getElem_cons hn];simp only [Qwx,Qwy];by_cases hm:F[n]∈a.zF
  ·simp only [hm,decide_true,if_true];rw [Qb4 (by simp only [List.length_cons,List.length_nil];unfold lim;omega)];simp only [Option.bind_some];have:=Q4w h fuel hge hF hcl hg (ms++[(n:Int)]) es (by omega);rw [Qbg hn] at this;simp only [Option.bind_some] at this;rw [this];simp only [Option.bind_some];rw [Qy (by omega),ih (ms++[(n:Int)],es++rowP a F n F[n]) ⟨by simp only [List.length_append,List.length_cons,List.length_nil];omega,by simp only [List.length_append];omega⟩];simp only [List.append_assoc]
  ·simp only [hm,decide_false,Bool.false_eq_true,if_false,Option.bind_some];have:=Q4w h fuel hge hF hcl hg ms es (by omega);rw [Qbg hn] at this;simp only [Option.bind_some] at this;rw [this];simp only [Option.bind_some];rw [Qy (by omega),ih (ms,es++rowP a F n F[n]) ⟨by simp only;omega,by simp only [List.length_append];omega⟩];simp only [List.append_assoc,List.nil_append]
 ·rintro k ⟨ms,es⟩ _;dsimp only;rw [if_neg (by omega)];simp [Qwx,Qwy]
end
end Go.Abs
end
section
namespace Go.Abs
open Go
theorem Qbi1 (x y:Int):Qj3 x y=some (decide (x<y)):=by
 unfold Qj3 Qf0 Qpb Qec;simp
theorem Qbgc (x:Int):Qij x=some false:=by
 unfold Qij Qc4;simp
theorem Qbei {l:List Int} (h:l.Pairwise (· < ·)) (v:Int):l.Pairwise fun a b=>decide (b<v)=true→decide (a<v)=true :=
 h.imp fun h=>by simp;omega
theorem Qbej {l:List Int} {v:Int} (hs:l.Pairwise (· < ·)) (hl:l.length<big):∃ n,Qe8 l v=some (n,decide (v∈l)):=by
 have hc:=fun n h=>Qz7 (p:=fun x:Int=>decide (x<v)) (Qbei hs v) n h;have hcl:(l.filter fun x=>decide (x<v)).length≤l.length:=List.length_filter_le _ _;generalize (l.filter fun x=>decide (x<v)).length=c at hc hcl;have hb:l.length<1000000000000:=hl;unfold Qe8 Qb1;obtain ⟨fuel,hfu,hge⟩ : ∃ f,Q9=f∧1099511627776≤f:=⟨_,rfl,Nat.le_refl _⟩;rw [hfu];have hloop:=Qcx (F:=fun (k5:Int×Int→Option Int) ((i3,j4):Int×Int)=>(if (i3<j4) then ((getO l (IntKind.wrap .i64 (Int.fdiv (IntKind.wrap .u64 (IntKind.wrap .i64 (i3+j4))) (2 ^ (min (Int.toNat 1) (IntKind.bits .u64)))))).bind fun x7=>((Qj3 x7 v).bind fun x10=>(if x10 then k5 ((IntKind.wrap .i64 ((IntKind.wrap .i64 (Int.fdiv (IntKind.wrap .u64 (IntKind.wrap .i64 (i3+j4))) (2 ^ (min (Int.toNat 1) (IntKind.bits .u64)))))+1)),j4) else k5 (i3,(IntKind.wrap .i64 (Int.fdiv (IntKind.wrap .u64 (IntKind.wrap .i64 (i3+j4))) (2 ^ (min (Int.toNat 1) (IntKind.bits .u64))))))))) else some i3))
  (fun x=>∃ i j:Nat,x=((i:Int),(j:Int))∧i≤c∧c≤j∧j≤l.length) (fun x=>(x.2-x.1).toNat) (fun _ r=>r=some (c:Int)) (by
   rintro k _ ⟨i,j,rfl,h1,h2,h3⟩ ih;dsimp only;by_cases hij:i<j
   ·rw [if_pos (by omega),Qbhd (by omega) (by omega)];have hm:(i+j) / 2<l.length:=by omega
    rw [Qbg hm];simp only [Option.bind_some];rw [Qbi1];simp only [Option.bind_some];have hcm:=hc ((i+j) / 2) hm;by_cases hlt:l[(i+j) / 2]<v
    ·rw [if_pos (by simpa using hlt),Qy (by omega)];have:(i+j) / 2<c:=hcm.1 (by simpa using hlt);exact ih _ ⟨_,_,rfl,by omega,h2,h3⟩ (by simp only;omega)
    ·rw [if_neg (by simpa using hlt)];have:¬ (i+j) / 2<c:=fun h=>hlt (by simpa using hcm.2 h);exact ih _ ⟨_,_,rfl,h1,by omega,by omega⟩ (by simp only;omega)
   ·rw [if_neg (by omega)];have:i=c:=by omega
    rw [this]) fuel (0,(l.length:Int)) ⟨0,l.length,rfl,by omega,hcl,Nat.le_refl _⟩ (by simp only;omega)
 rw [hloop];simp only [Option.bind_some];have hmem:v∈l↔∃ h:c<l.length,l[c]=v:=by
  constructor
  ·intro hv;obtain ⟨j,hj,rfl⟩:=List.getElem_of_mem hv;have h1:¬ j<c:=fun h=>by have:=(hc j hj).2 h;simp at this
   have h2:c<l.length:=by omega
   refine ⟨h2,?_⟩;have h3:¬ l[c]<l[j]:=fun h=>by have:=(hc c h2).1 (by simpa using h);omega
   rcases Nat.lt_or_ge c j with h|h
   ·have:=List.pairwise_iff_getElem.1 hs c j h2 hj h;omega
   ·have:c=j:=by omega
    subst this;rfl
  ·rintro ⟨h,rfl⟩;exact List.getElem_mem h
 by_cases hlt:c<l.length
 ·rw [if_pos (by omega),Qbg hlt];simp only [Option.bind_some];by_cases he:l[c]=v
  ·rw [if_pos (by simpa using he)];exact ⟨_,by rw [decide_eq_true (hmem.2 ⟨hlt,he⟩)]⟩
  ·rw [if_neg (by simpa using he),Qbgc];exact ⟨_,by rw [decide_eq_false (fun h=>he (hmem.1 h).2)];rfl⟩
 ·rw [if_neg (by omega)];exact ⟨_,by rw [decide_eq_false (fun h=>hlt (hmem.1 h).1)]⟩
theorem Qbau {l:List Int} (hl:l.length≤lim):Qgr l=some l:=by
 unfold Qgr Qbw;rw [Qb4 (by simpa using hl)];cases l<;>simp [nilO]
section
variable {a:Qa} (h:Right a)
include h
end
end Go.Abs
end
section
namespace Go.Abs
open Go
def runP (a:Qa):Int→Nat→List Int→Int×Int
 | s,n,[]=>(s,n)
 | s,n,e::w=>if 0≤Qea a s e then runP a (Qea a s e) (n+1) w else (s,n)
section
variable {a:Qa} (h:Right a)
include h
theorem Qbek {s:Int} {w:List Int} (h0 : -1000000<s) (h1:s<1000000) (hw:w.length<big):Qil a s w=some (runP a s 0 w):=by
 have hs:=h.small.1;have hst:=h.st;have hb:w.length<1000000000000:=hw;unfold Qil Qds;obtain ⟨fuel,hfu,hge⟩ : ∃ f,Q9=f∧1099511627776≤f:=⟨_,rfl,Nat.le_refl _⟩;rw [hfu];refine (Qfn (len:=w.length) (fun n (s:Int)=>(s,(n:Int))) (fun n s=>-1000000<s∧s<1000000) (fun n s=>some (runP a s n (w.drop n))) ?_ ?_ fuel 0 s (Nat.zero_le _) (by omega) ⟨h0,h1⟩).trans (by simp)
 ·intro k n s hn ⟨k1,k2⟩ ih;dsimp only;rw [if_pos (by omega),Qbg hn];simp only [Option.bind_some];rw [Qbiz h hs (by omega) (by omega)];simp only [Option.bind_some];rw [List.drop_eq_getElem_cons hn,runP];rcases Q24 h s w[n] with hr|hr
  ·rw [if_pos (by omega),if_neg (by omega)]
  ·rw [if_neg (by omega),if_pos hr.1,Qy (by omega)];exact ih _ ⟨by omega,by omega⟩
 ·intro k s _;dsimp only;rw [if_neg (by omega)];simp [runP]
omit h in
theorem Q28 {w:List Int} {p:Int→Bool} {f:Int→Option Bool} (hf:∀ x,f x=some (p x)) (hw:w.length<big):Qb3 w f=some (w.any p):=by
 have hb:w.length<1000000000000:=hw;unfold Qb3 Qq Qga Qb8;obtain ⟨fuel,hfu,hge⟩ : ∃ f,Q9=f∧1099511627776≤f:=⟨_,rfl,Nat.le_refl _⟩;rw [hfu];have:=Qj5 (F:=fun (k10:Int→Option Int) (x9:Int)=>(if (x9<(w.length:Int)) then ((getO w x9).bind fun x12=>((f x12).bind fun x15=>(if x15 then some x9 else k10 (IntKind.wrap .i64 (x9+1))))) else some (-1))) (len:=w.length) (fuel:=fuel)
  (fun n=>some (if (w.drop n).any p then ((n+(w.drop n).findIdx p:Nat):Int) else -1)) (by omega) (by
   intro k n hn ih;rw [if_pos (by omega),Qbg hn,Qy (by omega),ih];simp only [Option.bind_some,hf];rw [List.drop_eq_getElem_cons hn];cases hp:p w[n] with
   | true=>simp only [List.any_cons,hp,Bool.true_or,if_true,List.findIdx_cons,cond_true,Nat.add_zero]
   | false =>
    simp only [List.any_cons,hp,Bool.false_or,List.findIdx_cons,cond_false,Bool.false_eq_true,if_false];rw [show n+1+(w.drop (n+1)).findIdx p=n+((w.drop (n+1)).findIdx p+1) from by omega]) (by intro k;simp)
 rw [this];simp only [Option.bind_some,List.drop_zero,Nat.zero_add];cases w.any p<;>simp
def genP (a:Qa) (w:List Int):Bool:=decide (0<a.zH)&&(runP a 0 0 w).2==(w.length:Int)
theorem Q72 {w:List Int} (hw:w.length<big):Qgv a w=some (genP a w,0):=by
 have hst:=h.st;unfold Qgv Qcw Qkn Qdd;rw [Q25 h,Qbek h (by omega) (by omega) hw];unfold genP;by_cases h0:a.zH=0
 ·simp [h0]
 ·have:0<a.zH:=by omega
  simp [h0,this]
end
end Go.Abs
end
section
namespace Go.Abs
open Go
theorem Q73 {P:Int→Prop}:∀ (ts o:List Int),(∀ s∈o,P s)→(∀ t∈ts,P t)→∀ s∈ts.foldl ins o,P s
 | [],o,h,_=>h
 | t::ts,o,h,ht=>Q73 ts (ins o t) (fun s hs=>by
   rcases Q26.1 hs with hs|rfl
   ·exact h s hs
   ·exact ht _ (by simp)) fun u hu=>ht u (by simp [hu])
theorem Q74 {a:Qa} {P:Int→Prop} (hP:∀ s,P s→∀ t∈Qru a s,P t):∀ (fuel i:Nat) (o:List Int),(∀ s∈o,P s)→∀ s∈bfs a fuel i o,P s
 | 0,i,o,h=>h
 | fuel+1,i,o,h=>by
  unfold bfs;cases hg:o[i]? with
  | none=>exact h
  | some s=>exact Q74 hP fuel (i+1) _ (Q73 _ _ h (hP s (h s (List.mem_of_getElem? hg))))
structure Like (a b:Qa) (φ:Int→Int):Prop where
 al:b.zD=a.zD
 st:0<b.zH↔0<a.zH
 zero:0<a.zH→φ 0=0
 inj:∀ s∈Qm8 a,∀ t∈Qm8 a,φ s=φ t→s=t
 out:∀ s∈Qm8 a,outP b (φ s)=(outP a s).map fun x=>⟨φ s,x.Event,φ x.To⟩
 ma:∀ s∈Qm8 a,(φ s∈b.zF↔s∈a.zF)
section
variable {F:List Int} {φ:Int→Int} (inj:∀ s∈F,∀ t∈F,φ s=φ t→s=t)
include inj
end
section
variable {a b:Qa} {φ:Int→Int} (ha:Right a) (hb:Right b) (h:Like a b φ)
include ha h
include hb
end
section
variable {a b:Qa} {φ:Int→Int} (ha:Right a) (hb:Right b) (h:Like a b φ)
include ha h
end
end Go.Abs
end
section
namespace Go.Abs
open Go
theorem Qek {α β:Type} {o:Option α} {x:α} {K:α→Option β} {r:Option β} (h:o=some x) (h2:K x=r):o.bind K=r:=by rw [h];exact h2
theorem Q4x {X S R α:Type} {F:(X→Option R)→X→Option R} {l:List α} {fuel:Nat} (mk:Nat→S→X) (f:S→α→S) (fin:S→Option R) (I:Nat→S→Prop)
  (step:∀ (k:X→Option R) (n:Nat) (h:n<l.length) (s:S),I n s→I (n+1) (f s l[n])∧F k (mk n s)=k (mk (n+1) (f s l[n]))) (last:∀ (k:X→Option R) (s:S),I l.length s→F k (mk l.length s)=fin s)
  (hf:l.length<fuel) (s0:S) (h0:I 0 s0):Qb9 F fuel (mk 0 s0)=fin (l.foldl f s0):=by
 have:=Qfn (F:=F) (len:=l.length) mk I (fun n s=>fin ((l.drop n).foldl f s)) (fun k n s hn hi ih=>by
  obtain ⟨h1,h2⟩:=step k n hn s hi;rw [h2,ih _ h1,List.drop_eq_getElem_cons hn,List.foldl_cons]) (fun k s hi=>by rw [last k s hi];simp) fuel 0 s0 (Nat.zero_le _) (by omega) h0
 simpa using this
theorem Qbi2 {l m:List Int} (hl:l.Pairwise (· < ·)) (hm:m.Pairwise (· < ·)) (h:∀ x,x∈l↔x∈m):l=m:=by
 refine List.Perm.eq_of_pairwise (le:=(· < ·)) (fun a b _ _ h1 h2=>by omega) hl hm ?_;rw [List.perm_ext_iff_of_nodup (hl.imp fun h=>by omega) (hm.imp fun h=>by omega)];exact h
theorem swoI:Go.Sort.SWO Qf1:=⟨fun x=>by simp [Qf1],fun x y z h1 h2=>by simp [Qf1] at *;omega,fun x y z h1 h2=>by simp [Qf1] at *;omega⟩
theorem Q75 {l:List Int} (h:l.Nodup):(Qnu Qf1 l).Pairwise (· < ·)∧∀ x,x∈Qnu Qf1 l↔x∈l:=by
 have hp:=Qpa Qf1 l;refine ⟨?_,fun x=>hp.mem_iff⟩;have hs:=Qoa swoI l;have hn:=(hp.nodup_iff).2 h;exact (hs.and hn).imp fun ⟨h1,h2⟩=>by simp [Qf1] at h1;omega
inductive Rch (a:Qa) (ev fr:List Int):Int→Prop where
 | base {s:Int}:s∈fr→Rch a ev fr s
 | step {x:Qg}:Rch a ev fr x.From→x∈a.zG→x.Event∈ev→Rch a ev fr x.To
def upto (n:Int):List Int:=(List.range n.toNat).map fun (i:Nat)=>(i:Int)
theorem Qbav {n x:Int}:x∈upto n↔0≤x∧x<n:=by
 simp only [upto,List.mem_map,List.mem_range];constructor
 ·rintro ⟨i,hi,rfl⟩;omega
 ·rintro ⟨h1,h2⟩;exact ⟨x.toNat,by omega,by omega⟩
theorem Q76 (n:Int):(upto n).Pairwise (· < ·):=by
 unfold upto;rw [List.pairwise_map];exact List.pairwise_lt_range.imp fun h=>by omega
theorem Q1a (n:Int):(upto n).length=n.toNat:=by simp [upto]
theorem Qbgd {n:Int} {i:Nat} (h:i<n.toNat):(upto n)[i]'(by rw [Q1a];exact h)=(i:Int):=by simp [upto]
open Classical in
noncomputable def Qrv (a:Qa) (fr ev:List Int):List Int:=(upto a.zH).filter fun s=>decide (Rch a ev fr s)
theorem Q29 (a:Qa) (fr ev:List Int):(Qrv a fr ev).Pairwise (· < ·):=(Q76 _).filter _
theorem Q4y {a:Qa} {fr ev:List Int} {s:Int}:s∈Qrv a fr ev↔(0≤s∧s<a.zH)∧Rch a ev fr s:=by
 classical
 simp only [Qrv,List.mem_filter,Qbav,decide_eq_true_eq]
theorem Rch.range {a:Qa} (h:Right a) {ev fr:List Int} (hf:∀ s∈fr,0≤s∧s<a.zH) {s:Int} (hr:Rch a ev fr s):0≤s∧s<a.zH:=by
 induction hr with
 | base hs=>exact hf _ hs
 | step _ hx _ _=>have:=h.ed0 _ hx;exact ⟨this.2.2.1,this.2.2.2.1⟩
theorem Q3a {a:Qa} (h:Right a) {fr ev:List Int} (hf:∀ s∈fr,0≤s∧s<a.zH) {s:Int}:s∈Qrv a fr ev↔Rch a ev fr s:=by
 rw [Q4y];exact ⟨fun h=>h.2,fun hr=>⟨hr.range h hf,hr⟩⟩
theorem Qbel {a:Qa} (h:Right a) {fr ev l:List Int} (hf:∀ s∈fr,0≤s∧s<a.zH) (hl:l.Pairwise (· < ·)) (h1:∀ s∈l,Rch a ev fr s) (h2:∀ s∈fr,s∈l)
  (h3:∀ x∈a.zG,x.From∈l→x.Event∈ev→x.To∈l):l=Qrv a fr ev:=by
 refine Qbi2 hl (Q29 _ _ _) fun x=>?_;rw [Q3a h hf];refine ⟨h1 x,fun hr=>?_⟩
 induction hr with
 | base hs=>exact h2 _ hs
 | step _ hx he ih=>exact h3 _ hx ih he
def Qob (a:Qa) (ev:List Int):Qa:={ a with zG:=a.zG.filter fun x=>decide (x.Event∈ev) }
theorem Q3b {a:Qa} (h:Right a) (ev:List Int):Right (Qob a ev) :=
 ⟨h.al0,h.al,h.st,h.ma0,h.ma,fun x hx=>h.ed0 x (List.mem_filter.1 hx).1,h.ed.filter _⟩
theorem Qbb0 (a:Qa) (ev:List Int) (s:Int):Qru (Qob a ev) s=((outP a s).filter fun x=>decide (x.Event∈ev)).map (·.To):=by
 simp only [Qru,outP,Qob,List.filter_filter];congr 1;exact List.filter_congr fun x _=>Bool.and_comm _ _
theorem Qbaw {a:Qa} {s t:Int}:t∈Qru a s↔∃ x∈a.zG,x.From=s∧x.To=t:=by
 simp only [Qru,outP,List.mem_map,List.mem_filter,beq_iff_eq];constructor
 ·rintro ⟨x,⟨h1,h2⟩,h3⟩;exact ⟨x,h1,h2,h3⟩
 ·rintro ⟨x,h1,h2,h3⟩;exact ⟨x,⟨h1,h2⟩,h3⟩
theorem Q77 {a:Qa} (h:Right a) {ev fr o:List Int} (hf:∀ s∈fr,0≤s∧s<a.zH) (ho:∀ s,s∈o↔s∈fr) (hn:o.Nodup) :
  Fnd (Qob a ev) (bfs (Qob a ev) (a.zH.toNat+1) 0 o)∧Qnu Qf1 (bfs (Qob a ev) (a.zH.toNat+1) 0 o)=Qrv a fr ev:=by
 have hr:=Q3b h ev;have hfo:Fnd (Qob a ev) o:=⟨hn,fun s hs=>hf s ((ho s).1 hs)⟩;obtain ⟨q1,q2,q3⟩:=Q51 hr (a.zH.toNat+1) 0 o hfo (Nat.zero_le _) (by show a.zH.toNat+1≤_;omega) (fun j s hj=>by omega);obtain ⟨r1,r2⟩:=Q75 q1.nd;refine ⟨q1,Qbel h hf r1 (fun s hs=>?_) (fun s hs=>?_) (fun x hx hfx hex=>?_)⟩
 ·have hs:=(r2 s).1 hs;refine Q74 (a:=Qob a ev) (P:=Rch a ev fr) (fun s hs t ht=>?_) _ 0 o (fun s hs=>.base ((ho s).1 hs)) s hs;obtain ⟨x,hx,rfl,rfl⟩:=Qbaw.1 ht;obtain ⟨hx,he⟩:=List.mem_filter.1 hx;exact .step hs hx (by simpa using he)
 ·exact (r2 s).2 (q2.subset ((ho s).2 hs))
 ·exact (r2 _).2 (q3 _ ((r2 _).1 hfx) _ (Qbaw.2 ⟨x,List.mem_filter.2 ⟨hx,by simpa using hex⟩,rfl,rfl⟩))
theorem Qy7:∀ (ts o:List Int) (x:Int),x∈ts.foldl ins o↔x∈o∨x∈ts
 | [],o,x=>by simp
 | t::ts,o,x=>by
  simp only [List.foldl_cons,Qy7 ts,Q26,List.mem_cons];constructor
  ·rintro ((h|h)|h)
   ·exact .inl h
   ·exact .inr (.inl h)
   ·exact .inr (.inr h)
  ·rintro (h|h|h)
   ·exact .inl (.inl h)
   ·exact .inl (.inr h)
   ·exact .inr h
end Go.Abs
end
section
namespace Go.Abs
open Go
def Qx3 (a:Qa) (onto:List Int):List Int:=a.zD.filter fun x=>decide (x∈onto)
def Qic (a:Qa) (onto:List Int):List Int:=a.zD.filter fun x=>!decide (x∈onto)
def Q0z (a:Qa):List (List Qg):=(upto a.zH).map (outP a)
def obsP (a:Qa) (onto:List Int):Qk:=⟨Q0z a,Qx3 a onto,Qic a onto,a.zF⟩
theorem Qu8 (a:Qa):(Q0z a).length=a.zH.toNat:=by simp [Q0z,Q1a]
theorem Q3c (a:Qa) {s:Nat} (h:s<a.zH.toNat):(Q0z a)[s]? = some (outP a (s:Int)):=by
 simp only [Q0z,upto,List.getElem?_map,List.getElem?_range h,Option.map_some]
theorem Q52 {a:Qa} {s:Int} (h:0≤s∧s<a.zH):getO (Q0z a) s=some (outP a s):=by
 rw [Qfm];refine ⟨h.1,?_⟩;rw [Q3c a (by omega)];congr 2;omega
theorem Qz8 (onto:List Int):∀ (l k e:List Int),l.foldl (fun (s:List Int×List Int) x=>if x∈onto then (s.1++[x],s.2) else (s.1,s.2++[x])) (k,e)=(k++l.filter (fun x=>decide (x∈onto)),e++l.filter fun x=>!decide (x∈onto))
 | [],k,e=>by simp
 | x::l,k,e=>by
  rw [List.foldl_cons];by_cases hx:x∈onto
  ·rw [if_pos hx,Qz8 onto l];simp [hx]
  ·rw [if_neg hx,Qz8 onto l];simp [hx]
theorem Qbb1 {a:Qa} (h:Right a) {onto:List Int} (ho:onto.length<big):Qeo a onto=some (obsP a onto):=by
 have hs:=h.small;have hst:=h.st;unfold Qeo Qz;refine Qek (x:=List.replicate a.zH.toNat []) (by unfold mkO;rw [if_pos ⟨hst.1,by unfold lim;omega⟩]) ?_;refine Qek (x:=Q0z a) ?_ ?_
 ·refine (Qfn (len:=a.zG.length) (fun n (c:List (List Qg))=>((n:Int),c)) (fun n c=>c.length=a.zH.toNat∧∀ s:Nat,s<a.zH.toNat→c[s]? = some ((a.zG.take n).filter fun x=>x.From==(s:Int))) (fun n c=>some (Q0z a)) ?_ ?_ Q9 0 _ (Nat.zero_le _) (by unfold Q9;omega) ⟨by simp,fun s hs=>by simp [hs]⟩)
  ·intro k n c hn ⟨i1,i2⟩ ih;have he:=h.ed0 _ (List.getElem_mem hn);dsimp only;rw [if_pos (by omega),Qbg hn];simp only [Option.bind_some];have hin:inO (Int.toNat a.zH) a.zG[n].From=some ():=by unfold inO;rw [if_pos ⟨he.1,by omega⟩]
   have hto:((a.zG[n].From.toNat:Nat):Int)=a.zG[n].From:=by omega
   have hg:getO c a.zG[n].From=some ((a.zG.take n).filter fun x=>x.From==a.zG[n].From):=by
    rw [Qfm];refine ⟨he.1,?_⟩;rw [i2 _ (by omega),hto]
   have hfl:((a.zG.take n).filter fun x=>x.From==a.zG[n].From).length≤a.zG.length:=Nat.le_trans (List.length_filter_le _ _) (by rw [List.length_take];omega);rw [hin,hg];simp only [Option.bind_some];rw [Qb4 (by simp only [List.length_cons,List.length_nil];unfold lim;omega)];simp only [Option.bind_some];unfold setO;rw [if_pos ⟨he.1,by omega⟩,Qy (by omega)];simp only [Option.bind_some];refine ih _ ⟨by simp [i1],fun s hs=>?_⟩;rw [List.getElem?_set,List.take_succ_eq_append_getElem hn,List.filter_append];split
   ·rename_i hss;subst hss;rw [if_pos (by omega),hto];simp
   ·rename_i hss;have:¬ a.zG[n].From=(s:Int):=by omega
    rw [i2 s hs];simp [this]
  ·intro k c ⟨i1,i2⟩;dsimp only;rw [if_neg (by omega)];congr 1;refine List.ext_getElem? fun s=>?_;by_cases hs:s<a.zH.toNat
   ·rw [i2 s hs,Q3c a hs,List.take_length];rfl
   ·rw [List.getElem?_eq_none (by omega),List.getElem?_eq_none (by rw [Qu8];omega)]
 ·refine Qek (x:=([],[],[],[],Qx3 a onto,Qic a onto)) ?_ ?_
  ·refine (Q4x (l:=a.zD) (fun n (s:List Int×List Int)=>((n:Int),[],[],[],[],s.1,s.2)) (fun (s:List Int×List Int) x=>if x∈onto then (s.1++[x],s.2) else (s.1,s.2++[x])) (fun s=>some ([],[],[],[],s.1,s.2)) (fun n s=>s.1.length≤n∧s.2.length≤n) ?_ ?_ (by unfold Q9;omega) ([],[]) ⟨by simp,by simp⟩).trans ?_
   ·intro k n hn s ⟨i1,i2⟩;by_cases hx:a.zD[n]∈onto
    ·rw [if_pos hx];refine ⟨⟨by simp;omega,by simp;omega⟩,?_⟩;dsimp only;rw [if_pos (by omega),Qbg hn];simp only [Option.bind_some];rw [Qpj ho];simp only [Option.bind_some,hx,decide_true,if_true];rw [Qb4 (by simp only [List.length_cons,List.length_nil];unfold lim;omega),Qy (by omega)]
     rfl
    ·rw [if_neg hx];refine ⟨⟨by simp;omega,by simp;omega⟩,?_⟩;dsimp only;rw [if_pos (by omega),Qbg hn];simp only [Option.bind_some];rw [Qpj ho];simp only [Option.bind_some,hx,decide_false,Bool.false_eq_true,if_false];rw [Qb4 (by simp only [List.length_cons,List.length_nil];unfold lim;omega),Qy (by omega)]
     rfl
   ·intro k s _;dsimp only;rw [if_neg (by omega)]
   ·rw [Qz8];rfl
  ·dsimp only;unfold lenO;rw [if_pos (by rw [Qu8])]
   rfl
structure Seen (n:Nat) (l:List Int) (c:List Bool):Prop where
 len:c.length=n
 at1:∀ s:Nat,s<n→c[s]? = some (decide ((s:Int)∈l))
theorem Seen.start (n:Nat):Seen n [] (List.replicate n false):=⟨by simp,fun s hs=>by simp [hs]⟩
theorem Qbhg {n:Nat} {l:List Int} {c:List Bool} (h:Seen n l c) {x:Int} (hx:0≤x∧x<n) (hl:l.length<big):∃ c',Q6 x c l=some (c',ins l x)∧Seen n (ins l x) c':=by
 have hg:getO c x=some (decide (x∈l)):=by
  rw [Qfm];refine ⟨hx.1,?_⟩;rw [h.at1 _ (by omega)];congr 2;rw [show ((x.toNat:Nat):Int)=x from by omega]
 unfold Q6 Qbe;have hin:inO c.length x=some ():=by unfold inO;rw [if_pos ⟨hx.1,by rw [h.len];omega⟩]
 rw [hin,hg];simp only [Option.bind_some];by_cases hm:x∈l
 ·rw [if_pos (by simp [hm])];exact ⟨c,by simp [ins,hm],by simpa [ins,hm] using h⟩
 ·rw [if_neg (by simp [hm])];unfold setO;rw [if_pos ⟨hx.1,by rw [h.len];omega⟩];simp only [Option.bind_some];rw [Qb4 (by simp only [List.length_cons,List.length_nil];unfold big at hl;unfold lim;omega)];refine ⟨c.set x.toNat true,by simp [ins,hm],?_⟩;simp only [ins,hm,if_false];refine ⟨by simp [h.len],fun s hs=>?_⟩;rw [List.getElem?_set];split
  ·rename_i e;subst e;rw [if_pos (by rw [h.len];exact hs)];simp;omega
  ·rename_i e;rw [h.at1 s hs];have:¬ (s:Int)=x:=by omega
   simp [this]
theorem Qbax {a:Qa} (h:Right a) {onto fr ev:List Int} (hf:∀ s∈fr,0≤s∧s<a.zH) (hfl:fr.length<big) (hev:ev.length<big) :
  Qdh (obsP a onto) fr ev=some (Qrv a fr ev):=by
 have hst:=h.st;have hsm:=h.small;have hr:=Q3b h ev;have hlen:((obsP a onto).out_.length:Int)=a.zH:=by show ((Q0z a).length:Int)=_;rw [Qu8];omega
 unfold Qdh Qw;rw [hlen];refine Qek (x:=List.replicate a.zH.toNat false) (by unfold mkO;rw [if_pos ⟨hst.1,by unfold lim;omega⟩]) ?_;have hF0:Fnd (Qob a ev) (fr.foldl ins []):=(Qu5 (a:=Qob a ev) ⟨by simp,by simp⟩ hf).1;have hlo:∀ {o:List Int},Fnd (Qob a ev) o→o.length≤a.zH.toNat:=fun h=>h.len;obtain ⟨c1,hc1,h1⟩ : ∃ c1,Seen a.zH.toNat (fr.foldl ins []) c1∧Qb9 (fun (k9:Int×List Int×List Bool→Option (List Int×List Bool)) ((x6,l7,c8):Int×(List Int)×(List Bool))=>(if (x6<(fr.length:Int)) then ((getO fr x6).bind fun x11=>((lenO c8 (Int.toNat a.zH)).bind fun _=>((Q6 x11 c8 l7).bind fun (c14,c15)=>k9 ((IntKind.wrap .i64 (x6+1)),c15,c14)))) else some (l7,c8))) Q9 (0,[],List.replicate a.zH.toNat false)=some (fr.foldl ins [],c1):=by
  have:=Qcx (F:=fun (k9:Int×List Int×List Bool→Option (List Int×List Bool)) ((x6,l7,c8):Int×(List Int)×(List Bool))=>(if (x6<(fr.length:Int)) then ((getO fr x6).bind fun x11=>((lenO c8 (Int.toNat a.zH)).bind fun _=>((Q6 x11 c8 l7).bind fun (c14,c15)=>k9 ((IntKind.wrap .i64 (x6+1)),c15,c14)))) else some (l7,c8)))
   (fun x=>∃ n:Nat,x.1=(n:Int)∧n≤fr.length∧Fnd (Qob a ev) x.2.1∧Seen a.zH.toNat x.2.1 x.2.2∧(fr.drop n).foldl ins x.2.1=fr.foldl ins []) (fun x=>fr.length-x.1.toNat)
   (fun x r=>∃ c1,Seen a.zH.toNat (fr.foldl ins []) c1∧r=some (fr.foldl ins [],c1)) (by
    rintro k ⟨_,l,c⟩ ⟨n,rfl,hn,hF,hS,he⟩ ih;replace hF:Fnd (Qob a ev) l:=hF;replace hS:Seen a.zH.toNat l c:=hS;have hll:=hlo hF;dsimp only at he ⊢;by_cases hlt:n<fr.length
    ·rw [if_pos (by omega),Qbg hlt];simp only [Option.bind_some];have hx:=hf _ (List.getElem_mem hlt);obtain ⟨c',hadd,hS'⟩:=Qbhg hS (x:=fr[n]) ⟨hx.1,by omega⟩ (by unfold big;omega);unfold lenO;rw [if_pos hS.len];simp only [Option.bind_some];rw [hadd];simp only [Option.bind_some];rw [Qy (by unfold big at hfl;omega)];rw [List.drop_eq_getElem_cons hlt,List.foldl_cons] at he;exact ih _ ⟨n+1,rfl,by omega,hF.ins hx,hS',he⟩ (by simp only;omega)
    ·rw [if_neg (by omega)];have:fr.drop n=[]:=List.drop_eq_nil_of_le (by omega);rw [this] at he;exact ⟨c,by rw [← he];exact hS,by rw [← he];rfl⟩) Q9 (0,[],List.replicate a.zH.toNat false) ⟨0,rfl,by omega,⟨by simp,by simp⟩,Seen.start _,rfl⟩ (by simp only [Int.toNat_zero];unfold Q9;unfold big at hfl;omega)
  exact this
 refine Qek h1 ?_;dsimp only;obtain ⟨c2,h2⟩ : ∃ c2,Qb9 (fun (k22:Int×List Int×List Bool→Option (List Int×List Bool)) ((i19,l20,c21):Int×(List Int)×(List Bool))=>(if (i19<(l20.length:Int)) then ((((getO l20 i19).bind fun x24=>((getO (obsP a onto).out_ x24).bind fun x26=>Qb9 (fun (k31:Int×List Int×List Bool→Option (List Int×List Bool)) ((x28,l29,c30):Int×(List Int)×(List Bool))=>(if (x28<(x26.length:Int)) then ((((getO x26 x28).bind fun x33=>((Qbi ev x33.Event).bind fun x36=>(if x36 then ((lenO c30 (Int.toNat a.zH)).bind fun _=>((Q6 x33.To c30 l29).bind fun (c39,c40)=>some (c40,c39,x33.From,x33.Event,x33.To))) else some (l29,c30,x33.From,x33.Event,x33.To))))).bind fun ((l42,c43,c44,c45,c46):(List Int)×(List Bool)×Int×Int×Int)=>k31 ((IntKind.wrap .i64 (x28+1)),l42,c43)) else some (l29,c30))) Q9 (0,l20,c21)))).bind fun ((l47,c48):(List Int)×(List Bool))=>k22 ((IntKind.wrap .i64 (i19+1)),l47,c48)) else some (l20,c21))) Q9 (0,fr.foldl ins [],c1)=some (bfs (Qob a ev) (a.zH.toNat+1) 0 (fr.foldl ins []),c2):=by
  have:=Qcx (F:=fun (k22:Int×List Int×List Bool→Option (List Int×List Bool)) ((i19,l20,c21):Int×(List Int)×(List Bool))=>(if (i19<(l20.length:Int)) then ((((getO l20 i19).bind fun x24=>((getO (obsP a onto).out_ x24).bind fun x26=>Qb9 (fun (k31:Int×List Int×List Bool→Option (List Int×List Bool)) ((x28,l29,c30):Int×(List Int)×(List Bool))=>(if (x28<(x26.length:Int)) then ((((getO x26 x28).bind fun x33=>((Qbi ev x33.Event).bind fun x36=>(if x36 then ((lenO c30 (Int.toNat a.zH)).bind fun _=>((Q6 x33.To c30 l29).bind fun (c39,c40)=>some (c40,c39,x33.From,x33.Event,x33.To))) else some (l29,c30,x33.From,x33.Event,x33.To))))).bind fun ((l42,c43,c44,c45,c46):(List Int)×(List Bool)×Int×Int×Int)=>k31 ((IntKind.wrap .i64 (x28+1)),l42,c43)) else some (l29,c30))) Q9 (0,l20,c21)))).bind fun ((l47,c48):(List Int)×(List Bool))=>k22 ((IntKind.wrap .i64 (i19+1)),l47,c48)) else some (l20,c21)))
   (fun x=>∃ i:Nat,x.1=(i:Int)∧i≤x.2.1.length∧Fnd (Qob a ev) x.2.1∧Seen a.zH.toNat x.2.1 x.2.2) (fun x=>a.zH.toNat+1-x.1.toNat)
   (fun x r=>∃ c2,r=some (bfs (Qob a ev) (a.zH.toNat+1-x.1.toNat) x.1.toNat x.2.1,c2)) (by
    rintro k ⟨_,l,c⟩ ⟨i,rfl,hi,hF,hS⟩ ih;replace hi:i≤l.length:=hi;replace hF:Fnd (Qob a ev) l:=hF;replace hS:Seen a.zH.toNat l c:=hS;have hll:=hlo hF;dsimp only;by_cases hlt:i<l.length
    ·rw [if_pos (by omega),Qbg hlt];have hx:=hF.rg _ (List.getElem_mem hlt);have hx:0≤l[i]∧l[i]<a.zH:=hx;simp only [Option.bind_some];rw [show getO (obsP a onto).out_ l[i]=_ from Q52 hx];simp only [Option.bind_some];have hlo2:(outP a l[i]).length≤a.zG.length:=List.length_filter_le _ _;obtain ⟨c',hF',hS',hin⟩ : ∃ c',Fnd (Qob a ev) ((Qru (Qob a ev) l[i]).foldl ins l)∧Seen a.zH.toNat ((Qru (Qob a ev) l[i]).foldl ins l) c'∧Qb9 (fun (k31:Int×List Int×List Bool→Option (List Int×List Bool)) ((x28,l29,c30):Int×(List Int)×(List Bool))=>(if (x28<((outP a l[i]).length:Int)) then ((((getO (outP a l[i]) x28).bind fun x33=>((Qbi ev x33.Event).bind fun x36=>(if x36 then ((lenO c30 (Int.toNat a.zH)).bind fun _=>((Q6 x33.To c30 l29).bind fun (c39,c40)=>some (c40,c39,x33.From,x33.Event,x33.To))) else some (l29,c30,x33.From,x33.Event,x33.To))))).bind fun ((l42,c43,c44,c45,c46):(List Int)×(List Bool)×Int×Int×Int)=>k31 ((IntKind.wrap .i64 (x28+1)),l42,c43)) else some (l29,c30))) Q9 (0,l,c)=some ((Qru (Qob a ev) l[i]).foldl ins l,c'):=by
      rw [Qbb0];have:=Qcx (F:=fun (k31:Int×List Int×List Bool→Option (List Int×List Bool)) ((x28,l29,c30):Int×(List Int)×(List Bool))=>(if (x28<((outP a l[i]).length:Int)) then ((((getO (outP a l[i]) x28).bind fun x33=>((Qbi ev x33.Event).bind fun x36=>(if x36 then ((lenO c30 (Int.toNat a.zH)).bind fun _=>((Q6 x33.To c30 l29).bind fun (c39,c40)=>some (c40,c39,x33.From,x33.Event,x33.To))) else some (l29,c30,x33.From,x33.Event,x33.To))))).bind fun ((l42,c43,c44,c45,c46):(List Int)×(List Bool)×Int×Int×Int)=>k31 ((IntKind.wrap .i64 (x28+1)),l42,c43)) else some (l29,c30)))
       (fun x=>∃ n:Nat,x.1=(n:Int)∧n≤(outP a l[i]).length∧Fnd (Qob a ev) x.2.1∧Seen a.zH.toNat x.2.1 x.2.2∧((((outP a l[i]).drop n).filter fun x=>decide (x.Event∈ev)).map (·.To)).foldl ins x.2.1=(((outP a l[i]).filter fun x=>decide (x.Event∈ev)).map (·.To)).foldl ins l) (fun x=>(outP a l[i]).length-x.1.toNat)
       (fun x r=>∃ c1,Fnd (Qob a ev) ((((outP a l[i]).filter fun x=>decide (x.Event∈ev)).map (·.To)).foldl ins l)∧Seen a.zH.toNat ((((outP a l[i]).filter fun x=>decide (x.Event∈ev)).map (·.To)).foldl ins l) c1∧r=some ((((outP a l[i]).filter fun x=>decide (x.Event∈ev)).map (·.To)).foldl ins l,c1)) (by
        rintro k ⟨_,l2,c2⟩ ⟨n,rfl,hn,hF,hS,he⟩ ih;replace hF:Fnd (Qob a ev) l2:=hF;replace hS:Seen a.zH.toNat l2 c2:=hS;have hll:=hlo hF;dsimp only at he ⊢;by_cases hlt2:n<(outP a l[i]).length
        ·rw [if_pos (by omega),Qbg hlt2];simp only [Option.bind_some];rw [Qpj hev];rw [List.drop_eq_getElem_cons hlt2,List.filter_cons] at he;have hed:(outP a l[i])[n]∈a.zG:=(List.mem_filter.1 (List.getElem_mem hlt2)).1;have hto:=(h.ed0 _ hed).2.2;by_cases hx:(outP a l[i])[n].Event∈ev
         ·simp only [Option.bind_some,hx,decide_true,if_true] at he ⊢;obtain ⟨c',hadd,hS'⟩:=Qbhg hS (x:=(outP a l[i])[n].To) ⟨hto.1,by omega⟩ (by unfold big;omega);unfold lenO;rw [if_pos hS.len];simp only [Option.bind_some];rw [hadd];simp only [Option.bind_some];rw [Qy (by omega)];exact ih _ ⟨n+1,rfl,by omega,hF.ins ⟨hto.1,hto.2.1⟩,hS',he⟩ (by simp only;omega)
         ·simp only [Option.bind_some,hx,decide_false,Bool.false_eq_true,if_false] at he ⊢;rw [Qy (by omega)];exact ih _ ⟨n+1,rfl,by omega,hF,hS,he⟩ (by simp only;omega)
        ·rw [if_neg (by omega)];have:(outP a l[i]).drop n=[]:=List.drop_eq_nil_of_le (by omega);rw [this] at he;simp only [List.filter_nil,List.map_nil,List.foldl_nil] at he;exact ⟨c2,by rw [← he];exact hF,by rw [← he];exact hS,by rw [← he]⟩) Q9 (0,l,c) ⟨0,rfl,Nat.zero_le _,hF,hS,rfl⟩ (by simp only [Int.toNat_zero];unfold Q9;omega)
      exact this
     rw [hin];simp only [Option.bind_some];rw [Qy (by omega)];have hpre:=(Qu5 hF (Qx1 hr l[i])).2.1;obtain ⟨c3,hc3⟩:=ih ((i+1:Nat),_,c') ⟨i+1,rfl,by have:=hpre.length_le;simp only;omega,hF',hS'⟩ (by simp only;omega);refine ⟨c3,hc3.trans ?_⟩;simp only [Int.toNat_natCast];rw [show a.zH.toNat+1-i=(a.zH.toNat+1-(i+1))+1 from by omega,Qbat hlt]
    ·rw [if_neg (by omega)];obtain rfl:i=l.length:=by omega
     exact ⟨c,by simp only [Int.toNat_natCast,Qbeh]⟩) Q9 (0,fr.foldl ins [],c1) ⟨0,rfl,Nat.zero_le _,hF0,hc1⟩ (by simp only [Int.toNat_zero];unfold Q9;omega)
  simpa using this
 refine Qek h2 ?_;dsimp only;obtain ⟨q1,q2⟩:=Q77 h (ev:=ev) hf (o:=fr.foldl ins []) (fun s=>by rw [Qy7];simp) hF0.nd;have hql:=hlo q1;unfold Qbiq;rw [if_pos (by unfold lim;omega),q2]
 rfl
end Go.Abs
end
section
namespace Go.Abs
open Go
structure Evs (l:List Int):Prop where
 rg:∀ x∈l,0≤x∧x<5
 so:l.Pairwise (· < ·)
theorem Evs.len {l:List Int} (h:Evs l):l.length≤5:=by have:=Qf6 h.so h.rg;simpa using this
def Qbge:List Int→Bool
 | []=>true
 | x::xs=>xs.all (fun y=>decide (x<y))&&Qbge xs
theorem Q78:∀ {l:List Int},Qbge l=true→l.Pairwise (· < ·)
 | [],_=>.nil
 | x::xs,h=>by
  simp only [Qbge,Bool.and_eq_true,List.all_eq_true,decide_eq_true_eq] at h;exact List.pairwise_cons.2 ⟨h.1,Q78 h.2⟩
def evB (s:Nat):Bool:=match Qev (s:Int) with
 | some l=>Qbge l&&l.all fun x=>decide (0≤x)&&decide (x<5)
 | none=>false
theorem Qbi3:(List.range 256).all evB=true:=by kernel_rfl
theorem Qbem {s:Int} (h0:0≤s) (h1:s<256):∃ l,Qev s=some l∧Evs l:=by
 have:=List.all_eq_true.1 Qbi3 s.toNat (List.mem_range.2 (by omega));unfold evB at this;rw [show ((s.toNat:Nat):Int)=s from by omega] at this;split at this
 ·rename_i l hl;simp only [Bool.and_eq_true,List.all_eq_true,decide_eq_true_eq] at this;exact ⟨l,hl,fun x hx=>this.2 x hx,Q78 this.1⟩
 ·cases this
structure Mks (n:Nat) (ms:List Int):Prop where
 rg:∀ x∈ms,0≤x∧x<n
 so:ms.Pairwise (· < ·)
structure Eds (al:List Int) (N:Int) (i k:Nat) (es:List Qg):Prop where
 rg:∀ x∈es,0≤x.From∧0≤x.To∧x.To<N∧x.Event∈al∧(x.From<i∨x.From=i∧∃ j:Nat,j<k∧al[j]? = some x.Event)
 so:es.Pairwise Qkq
 ln:es.length≤5*i+k
theorem Mks.up {n:Nat} {ms:List Int} (h:Mks n ms):Mks (n+1) ms:=⟨fun x hx=>by have:=h.rg x hx;omega,h.so⟩
theorem Mks.add {n:Nat} {ms:List Int} (h:Mks n ms):Mks (n+1) (ms++[(n:Int)]):=by
 refine ⟨fun x hx=>?_,?_⟩
 ·rcases List.mem_append.1 hx with hx|hx
  ·have:=h.rg x hx;omega
  ·simp at hx;omega
 ·rw [List.pairwise_append];exact ⟨h.so,by simp,fun x hx y hy=>by simp at hy;have:=h.rg x hx;omega⟩
theorem Mks.len {n:Nat} {ms:List Int} (h:Mks n ms):ms.length≤n:=by have:=Qf6 h.so h.rg;simpa using this
section
variable {al:List Int} (hal:Evs al) {N:Int} {i k:Nat} {es:List Qg}
theorem Eds.up (h:Eds al N i k es):Eds al N i (k+1) es:=⟨fun x hx=>by
 obtain ⟨h1,h2,h3,h4,h5⟩:=h.rg x hx;refine ⟨h1,h2,h3,h4,?_⟩;rcases h5 with h5|⟨h5,j,h6,h7⟩
 ·exact .inl h5
 ·exact .inr ⟨h5,j,by omega,h7⟩,h.so,by have:=h.ln;omega⟩
theorem Eds.next (h:Eds al N i k es) (hk:k≤5):Eds al N (i+1) 0 es:=⟨fun x hx=>by
 obtain ⟨h1,h2,h3,h4,h5⟩:=h.rg x hx;exact ⟨h1,h2,h3,h4,.inl (by rcases h5 with h5|⟨h5,_⟩<;>omega)⟩,h.so,by have:=h.ln;omega⟩
include hal in
theorem Eds.add (h:Eds al N i k es) (hk:k<al.length) {t:Int} (ht:0≤t∧t<N):Eds al N i (k+1) (es++[⟨(i:Int),al[k],t⟩]):=by
 refine ⟨fun x hx=>?_,?_,by have:=h.ln;simp only [List.length_append,List.length_cons,List.length_nil];omega⟩
 ·rcases List.mem_append.1 hx with hx|hx
  ·exact h.up.rg x hx
  ·simp at hx;subst hx;exact ⟨by simp only;omega,ht.1,ht.2,List.getElem_mem hk,.inr ⟨rfl,k,by omega,List.getElem?_eq_getElem hk⟩⟩
 ·rw [List.pairwise_append];refine ⟨h.so,by simp,fun x hx y hy=>?_⟩;simp at hy;subst hy;obtain ⟨_,_,_,_,h5⟩:=h.rg x hx;rcases h5 with h5|⟨h5,j,h6,h7⟩
  ·exact .inl h5
  ·refine .inr ⟨h5,?_⟩;obtain ⟨h8,h9⟩:=List.getElem?_eq_some_iff.1 h7;rw [← h9];exact List.pairwise_iff_getElem.1 hal.so j k h8 hk h6
end
structure Qbhh (g:Qcf):Prop where
 st:0≤g.zH∧g.zH<256
 tos:∀ x∈[g.To.1.1,g.To.1.2.1,g.To.1.2.2.1,g.To.1.2.2.2.1,g.To.1.2.2.2.2,g.To.2.1.1,g.To.2.1.2.1,g.To.2.1.2.2.1,g.To.2.1.2.2.2.1,g.To.2.1.2.2.2.2,g.To.2.2.1.1,g.To.2.2.1.2.1,g.To.2.2.1.2.2.1,g.To.2.2.1.2.2.2.1,g.To.2.2.1.2.2.2.2,g.To.2.2.2.1.1,g.To.2.2.2.1.2.1,g.To.2.2.2.1.2.2.1,g.To.2.2.2.1.2.2.2.1,g.To.2.2.2.1.2.2.2.2,g.To.2.2.2.2.1,g.To.2.2.2.2.2.1,g.To.2.2.2.2.2.2.1,g.To.2.2.2.2.2.2.2.1,g.To.2.2.2.2.2.2.2.2],0≤x∧x<256
theorem Qbay {al:List Int} (hal:Evs al) (fuel:Nat) (hfu:1099511627776≤fuel) {L:List Int} (hL:L.length=25) (hL2:∀ x∈L,0≤x∧x<256) {N:Int} (hN:1≤N∧N≤5) {i:Nat} (hi:(i:Int)<N) {ms:List Int} {es:List Qg} (hes:Eds al N i 0 es) :
  ∃ es',Eds al N (i+1) 0 es'∧Qb9 (fun (k25:Int×List Qg→Option (List Int×List Qg)) ((k23,a24):Int×(List Qg))=>(((if (k23<(al.length:Int)) then some (decide (k23<5)) else some false)).bind fun (x27:Bool)=>(if x27 then ((((inO 5 (i:Int)).bind fun _=>((inO 5 k23).bind fun _=>((rowO L (Int.toNat (i:Int)*5+Int.toNat k23*1)).bind fun x31=>((remO .i64 (IntKind.wrap .i64 x31) (IntKind.wrap .i64 (N+2))).bind fun s33=>(if (s33<N) then ((getO al k23).bind fun x36=>((appO a24 [(Qg.mk (i:Int) x36 s33)]).bind fun x38=>some x38)) else some a24)))))).bind fun (a40:List Qg)=>k25 ((IntKind.wrap .i64 (k23+1)),a40)) else some (ms,a24)))) fuel (0,es)=some (ms,es'):=by
 have hl:=hal.len;have:=Qcx (F:=fun (k25:Int×List Qg→Option (List Int×List Qg)) ((k23,a24):Int×(List Qg))=>(((if (k23<(al.length:Int)) then some (decide (k23<5)) else some false)).bind fun (x27:Bool)=>(if x27 then ((((inO 5 (i:Int)).bind fun _=>((inO 5 k23).bind fun _=>((rowO L (Int.toNat (i:Int)*5+Int.toNat k23*1)).bind fun x31=>((remO .i64 (IntKind.wrap .i64 x31) (IntKind.wrap .i64 (N+2))).bind fun s33=>(if (s33<N) then ((getO al k23).bind fun x36=>((appO a24 [(Qg.mk (i:Int) x36 s33)]).bind fun x38=>some x38)) else some a24)))))).bind fun (a40:List Qg)=>k25 ((IntKind.wrap .i64 (k23+1)),a40)) else some (ms,a24))))
  (fun x=>∃ k:Nat,x.1=(k:Int)∧k≤al.length∧Eds al N i k x.2) (fun x=>al.length-x.1.toNat) (fun _ r=>∃ es',r=some (ms,es')∧Eds al N (i+1) 0 es') (by
   rintro kk ⟨k,es⟩ ⟨k,rfl,hk,he⟩ ih;replace he:Eds al N i k es:=he;replace hk:k≤al.length:=hk;dsimp only;by_cases hlt:k<al.length
   ·rw [if_pos (by omega)];simp only [Option.bind_some,show decide ((k:Int)<5)=true from by simp;omega,if_true];rw [show inO 5 (i:Int)=some () from by unfold inO;rw [if_pos (by omega)],show inO 5 (k:Int)=some () from by unfold inO;rw [if_pos (by omega)]];simp only [Option.bind_some,Int.toNat_natCast];have hidx:i*5+k*1<L.length:=by omega
    have hx:=hL2 _ (List.getElem_mem hidx);rw [show rowO L (i*5+k*1)=some L[i*5+k*1] from by unfold rowO;exact List.getElem?_eq_getElem hidx];simp only [Option.bind_some];rw [Qkp (x:=L[i*5+k*1]) (by omega) (by omega),Qkp (x:=N+2) (by omega) (by omega),show remO .i64 L[i*5+k*1] (N+2)=some (L[i*5+k*1].tmod (N+2)) from by unfold remO;rw [if_neg (by omega)]];simp only [Option.bind_some];have hmod:0≤L[i*5+k*1].tmod (N+2):=Int.tmod_nonneg _ hx.1;have hln:=he.ln;by_cases hm:L[i*5+k*1].tmod (N+2)<N
    ·rw [if_pos hm,Qbg hlt];simp only [Option.bind_some];rw [Qb4 (by simp only [List.length_cons,List.length_nil];unfold lim;omega)];simp only [Option.bind_some];rw [Qy (by omega)];exact ih _ ⟨k+1,rfl,hlt,he.add hal hlt ⟨hmod,hm⟩⟩ (by simp only;omega)
    ·rw [if_neg hm];simp only [Option.bind_some];rw [Qy (by omega)];exact ih _ ⟨k+1,rfl,hlt,he.up⟩ (by simp only;omega)
   ·rw [if_neg (by omega)];exact ⟨es,rfl,he.next (by omega)⟩) fuel (0,es) ⟨0,rfl,Nat.zero_le _,hes⟩ (by simp only;omega)
 obtain ⟨es',h1,h2⟩:=this;exact ⟨es',h2,h1⟩
theorem Q9e {al:List Int} (hal:Evs al):Right ⟨al,0,[],[]⟩ :=
 ⟨fun x hx=>by have:=hal.rg x hx;omega,hal.so,⟨by simp,by simp⟩,by simp,.nil,by simp,.nil⟩
theorem Qbi4 {al:List Int} (hal:Evs al) {g:Qcf} (hg:Qbhh g):∃ m,Right m∧m.zD=al∧Qg7 al g=some (Qu6 m)∧m.zH≤5:=by
 have hl:=hal.len;obtain ⟨hst,hto⟩:=hg;unfold Qg7 Qc0;obtain ⟨fuel,hfu,hge⟩ : ∃ f,Q9=f∧1099511627776≤f:=⟨_,rfl,Nat.le_refl _⟩;rw [hfu,Qbas (by unfold lim;omega)];simp only [Option.bind_some];by_cases h250:g.zH≥250
 ·rw [if_pos h250];exact ⟨⟨al,0,[],[]⟩,Q9e hal,rfl,rfl,by simp⟩
 rw [if_neg h250];have hL:[g.To.1.1,g.To.1.2.1,g.To.1.2.2.1,g.To.1.2.2.2.1,g.To.1.2.2.2.2,g.To.2.1.1,g.To.2.1.2.1,g.To.2.1.2.2.1,g.To.2.1.2.2.2.1,g.To.2.1.2.2.2.2,g.To.2.2.1.1,g.To.2.2.1.2.1,g.To.2.2.1.2.2.1,g.To.2.2.1.2.2.2.1,g.To.2.2.1.2.2.2.2,g.To.2.2.2.1.1,g.To.2.2.2.1.2.1,g.To.2.2.2.1.2.2.1,g.To.2.2.2.1.2.2.2.1,g.To.2.2.2.1.2.2.2.2,g.To.2.2.2.2.1,g.To.2.2.2.2.2.1,g.To.2.2.2.2.2.2.1,g.To.2.2.2.2.2.2.2.1,g.To.2.2.2.2.2.2.2.2].length=25:=rfl;generalize [g.To.1.1,g.To.1.2.1,g.To.1.2.2.1,g.To.1.2.2.2.1,g.To.1.2.2.2.2,g.To.2.1.1,g.To.2.1.2.1,g.To.2.1.2.2.1,g.To.2.1.2.2.2.1,g.To.2.1.2.2.2.2,g.To.2.2.1.1,g.To.2.2.1.2.1,g.To.2.2.1.2.2.1,g.To.2.2.1.2.2.2.1,g.To.2.2.1.2.2.2.2,g.To.2.2.2.1.1,g.To.2.2.2.1.2.1,g.To.2.2.2.1.2.2.1,g.To.2.2.2.1.2.2.2.1,g.To.2.2.2.1.2.2.2.2,g.To.2.2.2.2.1,g.To.2.2.2.2.2.1,g.To.2.2.2.2.2.2.1,g.To.2.2.2.2.2.2.2.1,g.To.2.2.2.2.2.2.2.2]=L at hto hL ⊢;have hmod:0≤g.zH.tmod 5∧g.zH.tmod 5<5:=⟨Int.tmod_nonneg _ hst.1,Int.tmod_lt_of_pos _ (by omega)⟩;have hN:1≤IntKind.wrap .i64 (1+(IntKind.wrap .i64 (Int.tmod g.zH 5)))∧IntKind.wrap .i64 (1+(IntKind.wrap .i64 (Int.tmod g.zH 5)))≤5:=by
  rw [Qkp (x:=g.zH.tmod 5) (by omega) (by omega),Qkp (by omega) (by omega)];omega
 generalize IntKind.wrap .i64 (1+(IntKind.wrap .i64 (Int.tmod g.zH 5)))=N at hN ⊢;have hloop:=Qcx (F:=(fun (k15:Int×List Int×List Int×List Qg×Int×List Int×List Qg→Option (List Int×List Int×List Qg×Int×List Int×List Qg)) ((i8,c9,c10,c11,a12,a13,a14):Int×(List Int)×(List Int)×(List Qg)×Int×(List Int)×(List Qg))=>(if (i8<a12) then ((((((shrO .u8 g.Marks i8).bind fun s17=>(if ((andI .u8 s17 1)==1) then ((appO a13 [i8]).bind fun x20=>some x20) else some a13))).bind fun (a22:List Int)=>Qb9 (fun k25 ((k23,a24):Int×(List Qg))=>(((if (k23<(al.length:Int)) then some (decide (k23<5)) else some false)).bind fun (x27:Bool)=>(if x27 then ((((inO 5 i8).bind fun _=>((inO 5 k23).bind fun _=>((rowO L (Int.toNat i8*5+Int.toNat k23*1)).bind fun x31=>((remO .i64 (IntKind.wrap .i64 x31) (IntKind.wrap .i64 (a12+2))).bind fun s33=>(if (s33<a12) then ((getO al k23).bind fun x36=>((appO a24 [(Qg.mk i8 x36 s33)]).bind fun x38=>some x38)) else some a24)))))).bind fun (a40:List Qg)=>k25 ((IntKind.wrap .i64 (k23+1)),a40)) else some (a22,a24)))) fuel (0,a14))).bind fun ((a41,a42):(List Int)×(List Qg))=>k15 ((IntKind.wrap .i64 (i8+1)),c9,c10,c11,a12,a41,a42)) else some (c9,c10,c11,a12,a13,a14))))
  (fun x=>∃ (i:Nat) (ms:List Int) (es:List Qg),x=((i:Int),[],[],[],N,ms,es)∧(i:Int)≤N∧Mks i ms∧Eds al N i 0 es) (fun x=>(N-x.1).toNat)
  (fun _ r=>∃ (i:Nat) (ms:List Int) (es:List Qg),r=some ([],[],[],N,ms,es)∧(i:Int)=N∧Mks i ms∧Eds al N i 0 es) (by
   rintro k _ ⟨i,ms,es,rfl,hi,hm,he⟩ ih;dsimp only;by_cases hlt:(i:Int)<N
   ·rw [if_pos hlt,show shrO .u8 g.Marks (i:Int)=some (g.Marks.fdiv (2 ^ (min (Int.toNat (i:Int)) (IntKind.bits .u8)))) from by unfold shrO;rw [if_neg (by omega)]];simp only [Option.bind_some];have hml:=hm.len;by_cases hb:(andI .u8 (g.Marks.fdiv (2 ^ (min (Int.toNat (i:Int)) (IntKind.bits .u8)))) 1==1)=true
    ·rw [if_pos hb,Qb4 (by simp only [List.length_cons,List.length_nil];unfold lim;omega)];simp only [Option.bind_some];obtain ⟨es',h1,h2⟩:=Qbay hal fuel hge hL hto hN hlt (ms:=ms++[(i:Int)]) he;rw [h2];simp only [Option.bind_some];rw [Qy (by omega)];exact ih _ ⟨i+1,_,_,rfl,by omega,hm.add,h1⟩ (by simp only;omega)
    ·rw [if_neg hb];simp only [Option.bind_some];obtain ⟨es',h1,h2⟩:=Qbay hal fuel hge hL hto hN hlt (ms:=ms) he;rw [h2];simp only [Option.bind_some];rw [Qy (by omega)];exact ih _ ⟨i+1,_,_,rfl,by omega,hm.up,h1⟩ (by simp only;omega)
   ·rw [if_neg hlt];exact ⟨i,ms,es,rfl,by omega,hm,he⟩) fuel (0,[],[],[],N,[],[]) ⟨0,[],[],rfl,by omega,⟨by simp,.nil⟩,⟨by simp,.nil,by simp⟩⟩ (by simp only;omega)
 obtain ⟨i,ms,es,h1,h2,h3,h4⟩:=hloop;rw [h1];simp only [Option.bind_some];have hr:Right ⟨al,N,ms,es⟩:=⟨fun x hx=>by have:=hal.rg x hx;omega,hal.so,⟨by simp only;omega,by simp only;omega⟩,fun x hx=>by have:=h3.rg x hx;simp only;omega,h3.so,fun x hx=>by
  obtain ⟨k1,k2,k3,k4,k5⟩:=h4.rg x hx;refine ⟨k1,?_,k2,k3,k4⟩;rcases k5 with k5|⟨_,j,k6,_⟩
  ·simp only;omega
  ·omega,h4.so⟩
 rw [Q27 hr];exact ⟨_,hr,rfl,rfl,by simp only;omega⟩
end Go.Abs
end
section
namespace Go.Abs
open Go
def Qpk (a:Qa) (est:List Int) (e:Int):List Int:=est.flatMap fun s=>((outP a s).filter fun x=>x.Event==e).map (·.To)
noncomputable def Q3s (a:Qa) (onto est:List Int) (e:Int):List Int:=Qrv a (Qpk a est e) (Qic a onto)
noncomputable def Q0p (a:Qa) (onto:List Int):List Int:=if a.zH=0 then [] else Qrv a [0] (Qic a onto)
noncomputable def estP (a:Qa) (onto obs:List Int):List Int:=obs.foldl (Q3s a onto) (Q0p a onto)
structure Sts (a:Qa) (l:List Int):Prop where
 rg:∀ s∈l,0≤s∧s<a.zH
 so:l.Pairwise (· < ·)
theorem Sts.len {a:Qa} {l:List Int} (h:Sts a l):l.length≤a.zH.toNat:=by
 have:=Qf6 (a:=0) (b:=a.zH) h.so h.rg;omega
theorem Q4z (a:Qa) (fr ev:List Int):Sts a (Qrv a fr ev):=⟨fun s hs=>(Q4y.1 hs).1,Q29 _ _ _⟩
theorem Q79 (a:Qa) (onto est:List Int) (e:Int):Sts a (Q3s a onto est e):=Q4z _ _ _
theorem Q40 (a:Qa) (onto:List Int):Sts a (Q0p a onto):=by
 unfold Q0p;split
 ·exact ⟨by simp,by simp⟩
 ·exact Q4z _ _ _
theorem Q3d {a:Qa} {est:List Int} {e t:Int}:t∈Qpk a est e↔∃ x∈a.zG,x.From∈est∧x.Event=e∧x.To=t:=by
 simp only [Qpk,outP,List.mem_flatMap,List.mem_map,List.mem_filter,beq_iff_eq];constructor
 ·rintro ⟨s,hs,x,⟨⟨h1,h2⟩,h3⟩,h4⟩;exact ⟨x,h1,by rw [h2];exact hs,h3,h4⟩
 ·rintro ⟨x,h1,h2,h3,h4⟩;exact ⟨x.From,h2,x,⟨⟨h1,rfl⟩,h3⟩,h4⟩
theorem Q3e {a:Qa} (h:Right a) {est:List Int} {e:Int}:∀ s∈Qpk a est e,0≤s∧s<a.zH:=by
 intro s hs;obtain ⟨x,hx,_,_,rfl⟩:=Q3d.1 hs;exact ⟨(h.ed0 x hx).2.2.1,(h.ed0 x hx).2.2.2.1⟩
theorem Qbaz {α β:Type} {f:α→List β} {m:Nat}:∀ {l:List α},(∀ x∈l,(f x).length≤m)→(l.flatMap f).length≤m*l.length
 | [],_=>by simp
 | x::l,h=>by
  have h1:=h x (by simp);have h2:=Qbaz (l:=l) fun y hy=>h y (by simp [hy]);simp only [List.flatMap_cons,List.length_append,List.length_cons,Nat.mul_succ];omega
theorem Qbi5 (a:Qa) (s e:Int):((outP a s).filter fun x=>x.Event==e).length≤a.zG.length:=Nat.le_trans (List.length_filter_le _ _) (List.length_filter_le _ _)
theorem Q8a {a:Qa} (h:Right a) {est:List Int} (hl:est.length≤5000) (e:Int):(Qpk a est e).length≤131072*5000:=by
 have:=Qbaz (f:=fun s=>((outP a s).filter fun x=>x.Event==e).map (·.To)) (m:=131072) (l:=est) fun s _=>by
  have:=Qbi5 a s e;have:=h.small.2.2.2;rw [List.length_map];omega
 exact Nat.le_trans this (Nat.mul_le_mul_left _ hl)
theorem Q41 {a:Qa} (h:Right a) (onto:List Int):(Qic a onto).length<big:=by
 have:=h.small.2.1;have:(Qic a onto).length≤a.zD.length:=List.length_filter_le _ _;unfold big;omega
theorem Qbgf {a:Qa} (h:Right a) (onto:List Int):(Qx3 a onto).length≤32:=by
 have:=h.small.2.1;have:(Qx3 a onto).length≤a.zD.length:=List.length_filter_le _ _;omega
theorem Qbb2 {a:Qa} (h:Right a) {onto est:List Int} (he:∀ s∈est,0≤s∧s<a.zH) (hl:est.length≤5000) (e:Int) :
  Qdm (obsP a onto) est e=some (Q3s a onto est e):=by
 have hsm:=h.small;have hmax:=Q8a h hl e;unfold Qdm Q0;refine Qek (x:=Qpk a est e) ?_ ?_
 ·refine (Qfn (len:=est.length) (fun n (l:List Int)=>(l,(n:Int))) (fun n l=>l=Qpk a (est.take n) e) (fun n l=>some (Qpk a est e)) ?_ ?_ Q9 0 [] (Nat.zero_le _) (by unfold Q9;omega) (by simp [Qpk]))
  ·rintro k n l hn rfl ih;have hx:=he _ (List.getElem_mem hn);dsimp only;rw [if_pos (by omega),Qbg hn];simp only [Option.bind_some];rw [show getO (obsP a onto).out_ est[n]=_ from Q52 hx];simp only [Option.bind_some];have hol:(outP a est[n]).length≤131072:=Nat.le_trans (List.length_filter_le _ _) hsm.2.2.2;have hml:(Qpk a (est.take n) e).length≤131072*5000:=Q8a h (by rw [List.length_take];omega) e;refine Qek (x:=Qpk a (est.take n) e++((outP a est[n]).filter fun x=>x.Event==e).map (·.To)) ?_ ?_
   ·refine (Qfn (len:=(outP a est[n]).length) (fun m (l:List Int)=>(l,(m:Int))) (fun m l=>l=Qpk a (est.take n) e++(((outP a est[n]).take m).filter fun x=>x.Event==e).map (·.To)) (fun m l=>some (Qpk a (est.take n) e++((outP a est[n]).filter fun x=>x.Event==e).map (·.To))) ?_ ?_ Q9 0 _ (Nat.zero_le _) (by unfold Q9;omega) (by simp))
    ·rintro k m l hm rfl ih;dsimp only;rw [if_pos (by omega),Qbg hm];simp only [Option.bind_some];have hfl:((((outP a est[n]).take m).filter fun x=>x.Event==e).map (·.To)).length≤131072:=by
      rw [List.length_map];exact Nat.le_trans (List.length_filter_le _ _) (by rw [List.length_take];omega)
     by_cases hx:(outP a est[n])[m].Event=e
     ·rw [if_pos (by simp [hx]),Qb4 (by rw [List.length_append];simp only [List.length_cons,List.length_nil];unfold lim;omega)];simp only [Option.bind_some];rw [Qy (by omega)];refine ih _ ?_;rw [List.take_succ_eq_append_getElem hm,List.filter_append,List.map_append,List.append_assoc];simp [hx]
     ·rw [if_neg (by simp [hx])];simp only [Option.bind_some];rw [Qy (by omega)];refine ih _ ?_;rw [List.take_succ_eq_append_getElem hm,List.filter_append,List.map_append];simp [hx]
    ·rintro k l rfl;dsimp only;rw [if_neg (by omega),List.take_length]
   ·rw [Qy (by omega)];refine ih _ ?_;rw [List.take_succ_eq_append_getElem hn];simp only [Qpk,List.flatMap_append,List.flatMap_cons,List.flatMap_nil,List.append_nil]
  ·rintro k l rfl;dsimp only;rw [if_neg (by omega),List.take_length]
 ·rw [show (obsP a onto).erased_=Qic a onto from rfl,Qbax h (Q3e h) (by unfold big;omega) (Q41 h onto)]
  rfl
theorem Qbgg {a:Qa} (h:Right a) (onto:List Int):Qdi (obsP a onto)=some (Q0p a onto):=by
 have hst:=h.st;unfold Qdi Qx;have hlen:((obsP a onto).out_.length:Int)=a.zH:=by show ((Q0z a).length:Int)=_;rw [Qu8];omega
 rw [hlen];unfold Q0p;by_cases h0:a.zH=0
 ·rw [if_pos (by simp [h0]),if_pos h0]
 ·rw [if_neg (by simp [h0]),if_neg h0,show (obsP a onto).erased_=Qic a onto from rfl,Qbax h (fun s hs=>by simp at hs;subst hs;omega) (by unfold big;simp) (Q41 h onto)]
  rfl
theorem Q9f {a:Qa} (h:Right a) {onto obs:List Int} (hl:obs.length<big):Qdg (obsP a onto) obs=some (obs.all fun x=>decide (x∈Qx3 a onto)):=by
 have hk:=Qbgf h onto;unfold Qdg Qv;rw [Q28 (p:=fun x=>!decide (x∈Qx3 a onto)) (fun x=>by
  unfold Qft Qbo;rw [show (obsP a onto).kept_=Qx3 a onto from rfl,Qpj (by unfold big;omega)];rfl) hl]
 simp only [Option.bind_some];congr 1;rw [List.not_any_eq_all_not];simp
theorem Q8b {l:List Int} {n:Int} (hl:l.length<big):Qi8 l n=some (Qgh n none l):=Qxz hl
theorem Qben {a:Qa} (h:small a) {ev:List Int} (hl:ev.length<big):Qej a ev=some (if Qsw a=0 then Qgh 32 none ev else Qsw a):=by
 unfold Qej Q7;rw [Qbar h];simp only [Option.bind_some];by_cases h0:Qsw a=0
 ·rw [if_neg (by simp [h0]),if_pos h0,Q8b hl];rfl
 ·rw [if_pos (by simp [h0]),if_neg h0]
theorem Q8c {a:Qa} (h:Right a) {ev:List Int} (hl:ev.length<big):Qej a ev=some (Qgh 32 none ev):=by
 rw [Qben h.small.1 hl,if_pos (Q7z.2 h)]
structure EvSet (l:List Int):Prop where
 rg:∀ x∈l,0≤x∧x<32
 so:l.Pairwise (· < ·)
theorem EvSet.err {l:List Int} (h:EvSet l):Qgh 32 none l=0:=Qku.2 ⟨h.rg,h.so,fun y hy=>by cases hy⟩
theorem EvSet.len {l:List Int} (h:EvSet l):l.length≤32:=by have:=Qf6 (a:=0) (b:=32) h.so h.rg;omega
theorem Qbeo {l:List Int} {N:Nat} (hn:l.Nodup) (hr:∀ x∈l,0≤x∧x<N):l.length≤N:=by
 obtain ⟨h1,h2⟩:=Q75 hn;have:=Qf6 (a:=0) (b:=N) h1 fun x hx=>hr x ((h2 x).1 hx);rw [Qn9] at this;omega
end Go.Abs
end
section
namespace Go.Abs
open Go
theorem Q3f {κ β:Type} [DecidableEq κ] {v:β} {k k' : κ}:∀ {m:List (κ×β)},hasM (setM m k v) k'=(decide (k'=k)||hasM m k')
 | []=>by simp only [setM,hasM,List.any_cons,List.any_nil];rw [Bool.eq_iff_iff];simp
 | (q,w)::m=>by
  have ih:=Q3f (v:=v) (k:=k) (k':=k') (m:=m);simp only [setM];by_cases h:k=q
  ·subst h;simp only [beq_self_eq_true,if_true,Qqx];rw [Bool.eq_iff_iff];simp
  ·have:(k==q)=false:=by simp [h]
   simp only [this,Bool.false_eq_true,if_false,Qqx];rw [ih];cases (k'==q)<;>cases decide (k'=k)<;>rfl
theorem Q3g {κ β:Type} [DecidableEq κ] {z v:β} {k k' : κ}:∀ {m:List (κ×β)},getM (setM m k v) k' z=if k'=k then v else getM m k' z
 | []=>by
  simp only [setM,getM];by_cases h:k'=k
  ·subst h;simp
  ·have:(k'==k)=false:=by simp [h]
   simp [this,h]
 | (q,w)::m=>by
  have ih:=Q3g (z:=z) (v:=v) (k:=k) (k':=k') (m:=m);simp only [setM];by_cases h:k=q
  ·subst h;simp only [beq_self_eq_true,if_true,getM];by_cases h2:k'=k
   ·subst h2;simp
   ·have:(k'==k)=false:=by simp [h2]
    simp [this,h2]
  ·have e:(k==q)=false:=by simp [h]
   simp only [e,Bool.false_eq_true,if_false,getM];by_cases h2:k'=q
   ·subst h2;have:¬ k'=k:=fun e=>h e.symm;simp [this]
   ·have:(k'==q)=false:=by simp [h2]
    simp only [this,Bool.false_eq_true,if_false,ih]
end Go.Abs
end
section
namespace Go.Abs
open Go
end Go.Abs
end
section
namespace Go.Abs
open Go
theorem bytes_beq (a b:ByteArray):(a==b)=decide (a=b):=by
 cases a;cases b;rw [Bool.eq_iff_iff];simp only [decide_eq_true_eq,ByteArray.mk.injEq];exact beq_iff_eq (α:=Array UInt8)
theorem Qbep {β:Type} {v:β} {k k' : ByteArray}:∀ {m:List (ByteArray×β)},hasM (setM m k v) k'=(decide (k'=k)||hasM m k')
 | []=>by simp [setM,hasM,bytes_beq]
 | (q,w)::m=>by
  have ih:=Qbep (v:=v) (k:=k) (k':=k') (m:=m);simp only [setM];by_cases h:k=q
  ·subst h;simp only [bytes_beq,decide_true,if_true,Qqx];by_cases h2:k'=k<;>simp [h2,bytes_beq]
  ·simp only [bytes_beq,h,decide_false,Bool.false_eq_true,if_false,Qqx];rw [ih];cases decide (k'=q)<;>cases decide (k'=k)<;>rfl
theorem Q8d {β:Type} {z v:β} {k k' : ByteArray}:∀ {m:List (ByteArray×β)},getM (setM m k v) k' z=if k'=k then v else getM m k' z
 | []=>by simp [setM,getM,bytes_beq]
 | (q,w)::m=>by
  have ih:=Q8d (z:=z) (v:=v) (k:=k) (k':=k') (m:=m);simp only [setM];by_cases h:k=q
  ·subst h;simp only [bytes_beq,decide_true,if_true,getM];by_cases h2:k'=k
   ·subst h2;simp
   ·simp [h2]
  ·simp only [bytes_beq,h,decide_false,Bool.false_eq_true,if_false,getM];by_cases h2:k'=q
   ·subst h2;have:¬ k'=k:=fun e=>h e.symm;simp [this]
   ·simp only [h2,decide_false,Bool.false_eq_true,if_false,ih]
end Go.Abs
end
section
namespace Go.Abs
open Go
structure Ests (a:Qa) (S:List (List Int)):Prop where
 nd:S.Nodup
 ok:∀ s∈S,Sts a s∧s≠[]
end Go.Abs
end
section
namespace Go.Abs
open Go
end Go.Abs
end
section
namespace Go.Abs
open Go
section
variable {a b:Qa} {φ:Int→Int} (ha:Right a) (hb:Right b) (h:Like a b φ)
include ha hb h
end
end Go.Abs
end
section
namespace Go.Abs
open Go
def Qbj9 (b:Qa) (onto:List Int):Prop:=∀ x∈b.zG,x.Event∉onto→x.To=x.From
section
variable {b:Qa} (hb:Right b) {onto:List Int} (hs:Qbj9 b onto)
include hb hs
end
end Go.Abs
end
section
namespace Go.Abs
open Go
section
variable {b:Qa} (hb:Right b) {onto:List Int} (hs:Qbj9 b onto)
include hb hs
end
end Go.Abs
end
section
namespace Go.Abs
open Go
end Go.Abs
end
section
namespace Go.Abs
open Go
end Go.Abs
end
section
namespace Go.Abs
open Go
set_option maxRecDepth 100000
set_option maxHeartbeats 4000000
theorem Qbb3:Qi9=some true:=by kernel_rfl
end Go.Abs
end
