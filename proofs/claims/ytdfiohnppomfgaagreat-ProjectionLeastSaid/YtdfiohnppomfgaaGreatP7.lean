/-
  Part 7 of the proof: see the last text.
-/
import Derived.Test.YtdfiohnppomfgaaGreatP6
import Derived.OpenShut
import Derived.ProofKit
import Derived.Carry
import GoSem.Claim
import GoSem.ClaimJoined
import Derived.JoinedTies
import Derived.KernelRfl
import Derived.Test.YtdfiohnppomfgaaGreatProg
set_option linter.unusedVariables false
set_option linter.unusedSimpArgs false
set_option linter.unusedSectionVars false
section
namespace Go.Abs
open Go Go.ChangeShapes Go.WideShapes Go.ChangeAt Go.RowKit
def live (w:World):Nat→Nat→Prop:=fun b o=>(w.cell? ⟨b,o,none⟩).isSome = true
def RDs (w:World):List D→List Value→Prop
 | [],vs=>vs = []
 | x :: xs,vs=>∃ u us,vs = u :: us∧RD (live w) w x u∧RDs w xs us
theorem Qbed {w:World}:∀ {xs ys:List D} {us vs:List Value},RDs w xs us→RDs w ys vs→RDs w (xs ++ ys) (us ++ vs)
 | [],ys,us,vs,h,k=>by simp only [RDs] at h; subst h; simpa using k
 | x :: xs,ys,us,vs,⟨u,us',e,r,h⟩,k=>by subst e; exact ⟨u,us' ++ vs,by simp,r,Qbed h k⟩
def RDat (w:World) (cs:List Value) (off:Nat) (xs:List D):Prop:=RDs w xs ((cs.drop off).take xs.length)
theorem RDat.app {w:World} {cs:List Value} {off:Nat} {xs ys:List D} (h:RDat w cs off xs) {n:Nat} (hn:n = off + xs.length) (k:RDat w cs n ys):RDat w cs off (xs ++ ys):=by
 subst hn
 have:=Qbed h k
 unfold RDat
 rw [List.length_append,List.take_add,List.drop_drop]
 exact this
theorem RDat.nil {w:World} {cs:List Value} {off:Nat}:RDat w cs off []:=by simp [RDat,RDs]
theorem RDat.all {w:World} {cs:List Value} {xs:List D} (h:RDat w cs 0 xs) (hl:cs.length = xs.length):RDs w xs cs:=by
 unfold RDat at h
 rw [List.drop_zero,← hl,List.take_length] at h
 exact h
def Qbcv {α:Type} (P:Program) (t:TypeId) (e:α→List D) (wf:α→Prop):Prop :=
 ∀ {H:Type} {enc:TypeId×Value→H} {w:World} {base:Nat} {spare:Nat→Bool} {held:Bool} {fuel:Nat} {cs:List Value} {x:DataW H×List MemPlace},
  DataW.trod enc P w base spare held fuel t cs = some x→∃ a,wf a∧RDs w (e a) cs
def wfI (k:IntKind) (n:Int):Prop:=(Lit.int k n).wf = true
variable {P:Program} {t:TypeId}
theorem Qbcw {k:IntKind} (ht:P.underlying t = some (.int k)):Qbcv P t (fun n:Int=>[.int k n]) (wfI k):=by
 intro H enc w base spare held fuel cs x h
 obtain ⟨n,rfl,_,hw⟩:=DataW.trod_int ht h
 exact ⟨n,hw,_,_,rfl,by simp [RD],rfl⟩
theorem Qgu {α:Type} {el:TypeId} {e:α→List D} {wf:α→Prop} {sz:Nat} (he:Qbcv P el e wf) (hsz:P.cellsOf el = sz) (hlen:∀ a,(e a).length = sz)
  {H:Type} {enc:TypeId×Value→H} {w:World} {base:Nat} {spare:Nat→Bool} {held:Bool} {fuel off:Nat} {cs:List Value} {x:DataW H×List MemPlace}
  (h:DataW.trod enc P w base spare held fuel el ((cs.drop off).take (P.cellsOf el)) = some x):∃ a,wf a∧RDat w cs off (e a):=by
 obtain ⟨a,h1,h2⟩:=he h
 refine ⟨a,h1,?_⟩
 unfold RDat
 rw [hlen,← hsz]; exact h2
theorem Qbly {H:Type} {enc:TypeId×Value→H} {w:World} {base:Nat} {spare:Nat→Bool} {held:Bool} {fuel:Nat} {cs:List Value} {x:DataW H×List MemPlace} {fs:Array Field}
  (ht:P.underlying t = some (.struct fs)) (h:DataW.trod enc P w base spare held fuel t cs = some x) :
  cs.length = P.cellsOf t∧∃ n,∀ (i:Nat) (f:Field),fs[i]? = some f→∃ y,DataW.trod enc P w base spare held n f.type ((cs.drop f.offset).take (P.cellsOf f.type)) = some y:=by
 obtain ⟨xs,n,_,_,h1,h2,h3⟩:=DataW.trod_struct ht h
 refine ⟨h1,n,fun i f hf=>?_⟩
 have hi:i < fs.size:=(Array.getElem?_eq_some_iff.1 hf).1
 exact ⟨xs[i]'(by omega),by rw [h3 i f hf]; exact List.getElem?_eq_getElem (by omega)⟩
theorem Qbnd {H:Type} {enc:TypeId×Value→H} {w:World} {base:Nat} {spare:Nat→Bool} {held:Bool} {fuel:Nat} {cs:List Value} {x:DataW H×List MemPlace} {n:Nat} {el:TypeId}
  (ht:P.underlying t = some (.array n el)) (h:DataW.trod enc P w base spare held fuel t cs = some x) :
  cs.length = P.cellsOf t∧∃ m,∀ i,i < n→∃ y,DataW.trod enc P w base spare held m el ((cs.drop (i * P.cellsOf el)).take (P.cellsOf el)) = some y:=by
 obtain ⟨xs,m,_,_,h1,h2,h3⟩:=DataW.trod_array ht h
 exact ⟨h1,m,fun i hi=>⟨xs[i]'(by omega),by rw [h3 i hi]; exact List.getElem?_eq_getElem (by omega)⟩⟩
def Qmp {α:Type} (P:Program) (t:TypeId) (v:α→V) (wf:α→Prop):Prop :=
 ∀ {H:Type} {enc:TypeId×Value→H} {w:World} {base b0:Nat} {spare:Nat→Bool} {held:Bool} {u:Value} {d:DataW H} {ps:List MemPlace},
  Value.okWide P w .any b0 t u→DataW.Trod enc P w base spare held t u d ps→∃ a,wf a∧RF ⟨fun _=>0,live w,fun _=>.ext⟩ w (v a) u
theorem Qbo2 {α:Type} {e:α→D} {wf:α→Prop} (he:Qbcv P t (fun a=>[e a]) wf) (hone:∀ w b0 u,Value.okWide P w .any b0 t u→u.cells = #[u]):Qmp P t (fun a=>.d (e a)) wf:=by
 intro H enc w base b0 spare held u d ps hok hd
 obtain ⟨fuel,hf⟩:=hd
 rw [hone _ _ _ hok] at hf
 obtain ⟨a,h1,u',us,h2,h3,h4⟩:=he hf
 simp only [RDs] at h4; subst h4
 simp at h2; subst h2
 exact ⟨a,h1,fun ℓ=>by simpa [RV] using h3⟩
theorem Qbo3 {k:IntKind} (ht:P.underlying t = some (.int k)):∀ w b0 u,Value.okWide P w .any b0 t u→u.cells = #[u]:=by
 intro w b0 u h
 simp only [Value.okWide,ht] at h
 cases u <;> first | rfl | (simp [Cell.okWide,Cell.ok,ht] at h)
theorem Qbp2 {imm:Nat→Nat→Prop} {w:World} {x:D} {u:Value} (h:RD imm w x u):u.oneCell' = true:=by
 cases x with
 | int k n=>simp only [RD] at h; subst h; rfl
 | bool b=>simp only [RD] at h; subst h; rfl
 | str s=>simp only [RD] at h; subst h; rfl
 | lst sz l=>simp only [RD] at h; obtain ⟨a,cap,rfl,_⟩:=h; cases a <;> rfl
theorem Qblz {w:World} {g:G} (hg:g.imm = live w):∀ {xs:List D} {us:List Value} {ℓ:Owner} {i:Nat},RDs w xs us→RVs g w (xs.map V.d) ℓ i us∧∀ u∈us,u.oneCell' = true
 | [],us,ℓ,i,h=>by simp only [RDs] at h; subst h; simp [RVs]
 | x :: xs,us,ℓ,i,⟨u,us',e,r,h⟩=>by
  subst e
  obtain ⟨h1,h2⟩:=Qblz hg (ℓ:=ℓ) (i:=i + 1) h
  refine ⟨⟨u,us',rfl,by simpa [RV,hg] using r,h1⟩,fun v hv=>?_⟩
  rcases List.mem_cons.1 hv with rfl | hv
  ·exact Qbp2 r
  ·exact h2 v hv
theorem Qbl0 {α:Type} {e:α→List D} {wf:α→Prop} (he:Qbcv P t e wf) (hagg:(∃ fs,P.underlying t = some (.struct fs))∨∃ n el,P.underlying t = some (.array n el)):Qmp P t (fun a=>.agg ((e a).map V.d)) wf:=by
 intro H enc w base b0 spare held u d ps hok hd
 obtain ⟨cs,rfl⟩ : ∃ cs,u = .agg cs:=by
  rcases hagg with ⟨fs,ht⟩ | ⟨n,el,ht⟩
  ·simp only [Value.okWide,ht] at hok; obtain ⟨cs,rfl,_⟩:=hok; exact ⟨cs,rfl⟩
  ·simp only [Value.okWide,ht] at hok; obtain ⟨cs,rfl,_⟩:=hok; exact ⟨cs,rfl⟩
 obtain ⟨fuel,hf⟩:=hd
 obtain ⟨a,h1,h2⟩:=he hf
 refine ⟨a,h1,fun ℓ=>?_⟩
 simp only [RV]
 obtain ⟨h3,h4⟩:=Qblz (g:=⟨fun _=>0,live w,fun _=>.ext⟩) rfl (ℓ:=ℓ) (i:=0) h2
 exact ⟨cs.toList,by simp,h3,h4⟩
def Qbo4 (P:Program) (f:FuncId) (ts:List TypeId):Prop :=
 ∀ {H:Type} {enc:TypeId×Value→H} {w:World} {b0:Nat} {us:List Value} {ds:List (DataW H)} {ps:List MemPlace},
  (∀ (j:Nat) t u,ts[j]? = some t→us[j]? = some u→Value.okWide P w .any b0 t u)→DataW.TrodAll enc P w 0 (fun _=>true) true ts us ds ps →
  ∃ vs,RFs ⟨fun _=>0,live w,fun _=>.ext⟩ w vs us∧(∀ x∈vs,Flat x)∧V.lt.go 0 vs = true∧∀ M nb,ACalls P f vs M nb (.d (.bool true)) M nb
theorem Q9l (hl:laidOutB P = true) {W W' : World} {sp:Nat→Bool} {H:Type} {enc:TypeId×Value→H}:∀ {ts:List TypeId} {us:List Value} {ds:List (DataW H)} {ps:List MemPlace},
  (∀ t∈ts,P.readableRec t = true∧t < P.types.size)→DataW.TrodAll enc P W 0 (fun _=>true) true ts us ds ps→(∀ p∈ps,W.sameAt W' p)→(∀ p∈ps,sp p.block = true)→DataW.TrodAll enc P W' 0 sp true ts us ds ps
 | [],[],[],ps,_,h,_,_=>h
 | t :: ts,u :: us,d :: ds,ps,hr,⟨p,q,h1,h2,e⟩,hs,hp=>by
  subst e
  obtain ⟨r1,r2⟩:=hr t (by simp)
  exact ⟨p,q,WideElems.Trod_stays hl r1 r2 h1 (fun x hx=>hs x (by simp [hx])) (fun x hx=>hp x (by simp [hx])),Q9l hl (fun t ht=>hr t (by simp [ht])) h2 (fun x hx=>hs x (by simp [hx])) (fun x hx=>hp x (by simp [hx])),rfl⟩
 | [],[],_ :: _,_,_,h,_,_=>h.elim
 | [],_ :: _,_,_,_,h,_,_=>h.elim
 | _ :: _,[],_,_,_,h,_,_=>h.elim
 | _ :: _,_ :: _,[],_,_,h,_,_=>h.elim
theorem Qbcx {W:World} {sp:Nat→Bool} {held:Bool} {base:Nat} {H:Type} {enc:TypeId×Value→H}:∀ {ts:List TypeId} {us:List Value} {ds:List (DataW H)} {ps:List MemPlace},
  DataW.TrodAll enc P W base sp held ts us ds ps→ds.length = ts.length∧us.length = ts.length
 | [],[],[],ps,h=>⟨rfl,rfl⟩
 | t :: ts,u :: us,d :: ds,ps,⟨p,q,h1,h2,e⟩=>by have:=Qbcx h2; simp [this.1,this.2]
 | [],[],_ :: _,_,h=>h.elim
 | [],_ :: _,_,_,h=>h.elim
 | _ :: _,[],_,_,h=>h.elim
 | _ :: _,_ :: _,[],_,h=>h.elim
theorem Qbo5 {C:Checked} {f:FuncId} {fn:Func} {s:ChangeSpec} {conds:List PathCond} {bt:TypeId} {os:Os} {H:Type} {enc:TypeId×Value→H}
  (own:ownKnob C.prog.godebug = none) (started:os.Started) (noInit:C.prog.inits.idxOf? f = none) (hfn:C.prog.funcs[f]? = some fn)
  (witness:∃ (w:World) (tape:Tape) (i:Input),w.os = os∧(w.forCall tape i).Shaped C.prog∧i.vars = []∧Input.okWide C.prog (w.forCall tape i) .any w.heap.size f i ∧
   s.pre6 enc C.prog fn conds false (w.forCall tape i).memory i.args∧({}:Assume).holds C.prog (lone (Frame.enter C.prog f i.args .normal) [] (w.forCall tape i)))
  (hvars:s.vars = []) (hres:fn.resultTypes = #[bt]) (hbt:C.prog.underlying bt = some .bool)
  (hl:laidOutB C.prog = true) (hread:∀ t∈fn.params.toList,C.prog.readableRec t = true∧t < C.prog.types.size)
  (hspec:∀ ds:List (DataW H),ds.length = fn.params.size→s.fn H ds = { results:=[.lit (.bool true)],args:=ds })
  (law:Qbo4 C.prog f fn.params.toList) :
  ReturnsInHanded {} C os f .any (s.pre6 enc C.prog fn conds false) (s.post enc C.prog fn false true false false):=by
 refine returnsInHanded_of_change own started noInit hfn witness ?_
 intro W base args ds gs before hval hW hcnd _
 have hW':=hW
 obtain ⟨p,q,hA,hV,hps,hfz,hnd⟩:=hW
 rw [hvars] at hV
 obtain ⟨rfl,rfl⟩ : gs = []∧q = []:=by
  cases gs with
  | nil=>exact ⟨rfl,hV⟩
  | cons _ _=>exact hV.elim
 obtain ⟨vs,h1,h2,h3,h4⟩:=law (fun j t u ht hu=>hval j t u (by simpa using ht) (by simpa using hu)) hA
 obtain ⟨hb,_,h5⟩:=h4 (fun _=>none) 0
 have hlv:∀ b o,live W b o→b < W.heap.size:=by
  intro b o h
  simp only [live] at h
  obtain ⟨v,hv⟩:=Option.isSome_iff_exists.1 h
  unfold World.cell? at hv
  split at hv
  ·rename_i hh; exact (Array.getElem?_eq_some_iff.1 hh).1
  ·cases hv
 have hmr:MR ⟨fun _=>0,live W,fun _=>.ext⟩ W (fun _=>none) 0:=⟨fun k b h=>(by cases h),fun b o h=>⟨hlv b o h,fun k h=>by cases h⟩⟩
 have h6:=h5 W ⟨fun _=>0,live W,fun _=>.ext⟩ args.toList hmr (fun k cs h=>by cases h) (fun b=>⟨fun t p h=>(by cases h),fun p h=>(by cases h)⟩) h1 h2 (ons_mono (fun k hk=>absurd hk (Nat.not_lt_zero k)) _ (ons_lt vs h3))
 refine Calls.mono h6 fun e W' ⟨v,g',he,_,hr,_,_,hf⟩=>?_
 subst he
 have hv:v = .bool true:=by simpa [RV,RD] using hr
 subst hv
 have hbelow:Below W.heap.size W W':=⟨hf.os,hf.tape,hf.output,hf.size,fun k hk=>(hf.old k hk trivial).2.1⟩
 have hrl:(Value.bool true).resultList fn.resultTypes.size = [.bool true]:=by rw [hres]; rfl
 have hsp:s.fn H (ds ++ []) = { results:=[.lit (.bool true)],args:=ds }:=by
  rw [List.append_nil]
  exact hspec ds (by have:=(Qbcx hA).1; simpa using this)
 have hlt:∀ p∈before,p.block < W.heap.size:=fun x hx=>hW'.lt x hx
 have hst:∀ sp:Nat→Bool,(∀ p∈before,sp p.block = true)→DataW.TrodAll enc C.prog W' 0 sp true fn.params.toList args.toList ds before:=by
  intro sp hsp'
  have e:p = before:=by rw [hps,List.append_nil]
  subst e
  exact Q9l hl hread hA (fun x hx=>hbelow.same (hlt x hx)) hsp'
 refine ⟨_,rfl,ds,[],before,[],before,[],hW',?_,?_,?_,World.keptBut_mono (fun p hp=>⟨hp,.inr (.inl hp)⟩) (hbelow.frame (· ∈ before)),fun h=>by cases h⟩
 ·rw [hsp,hrl,hres]
  exact ⟨[],[],⟨1,by simp [DataW.trod,Value.cells,hbt]⟩,rfl,rfl⟩
 ·rw [hsp]
  exact hst _ fun p hp=>by simpa using hlt p hp
 ·rw [hsp,hvars]; rfl
section
variable {α β γ δ:Type} {f:FuncId} {ta tb tc td:TypeId} {va:α→V} {vb:β→V} {vc:γ→V} {vd:δ→V} {wa:α→Prop} {wb:β→Prop} {wc:γ→Prop} {wd:δ→Prop}
theorem Qqz {H:Type} {enc:TypeId×Value→H} {w:World} {base:Nat} {sp:Nat→Bool} {held:Bool} {t:TypeId} {ts:List TypeId} {us:List Value} {ds:List (DataW H)} {ps:List MemPlace} (h:DataW.TrodAll enc P w base sp held (t :: ts) us ds ps) :
  ∃ u us' d ds' p q,us = u :: us' ∧ ds = d :: ds' ∧ DataW.Trod enc P w base sp held t u d p∧DataW.TrodAll enc P w base sp held ts us' ds' q:=by
 match us,ds,h with
 | u :: us',d :: ds',⟨p,q,h1,h2,_⟩=>exact ⟨u,us',d,ds',p,q,rfl,rfl,h1,h2⟩
 | [],[],h=>exact h.elim
 | [],_ :: _,h=>exact h.elim
 | _ :: _,[],h=>exact h.elim
theorem Qbcy {H:Type} {enc:TypeId×Value→H} {w:World} {base:Nat} {sp:Nat→Bool} {held:Bool} {us:List Value} {ds:List (DataW H)} {ps:List MemPlace} (h:DataW.TrodAll enc P w base sp held [] us ds ps):us = []:=by
 match us,ds,h with
 | [],[],_=>rfl
 | [],_ :: _,h=>exact h.elim
 | _ :: _,[],h=>exact h.elim
 | _ :: _,_ :: _,h=>exact h.elim
theorem Qbqi (ra:Qmp P ta va wa) (fa:∀ a,(va a).dem = va a) (la:∀ a,(va a).lt 0 = true) (rb:Qmp P tb vb wb) (fb:∀ a,(vb a).dem = vb a) (lb:∀ a,(vb a).lt 0 = true)
  (law:∀ a b,wa a→wb b→∀ M nb,ACalls P f [va a,vb b] M nb (.d (.bool true)) M nb):Qbo4 P f [ta,tb]:=by
 intro H enc w b0 us ds ps hok hT
 obtain ⟨u,us',d,ds',p,q,rfl,rfl,h1,hT⟩:=Qqz hT
 obtain ⟨u2,us',d2,ds',p2,q2,rfl,rfl,h2,hT⟩:=Qqz hT
 obtain rfl:=Qbcy hT
 obtain ⟨a,ha,hra⟩:=ra (hok 0 _ _ rfl rfl) h1
 obtain ⟨b,hb,hrb⟩:=rb (hok 1 _ _ rfl rfl) h2
 refine ⟨[va a,vb b],⟨u,_,rfl,hra,u2,_,rfl,hrb,rfl⟩,?_,by simp [V.lt.go,la,lb],law a b ha hb⟩
 intro x hx
 simp only [List.mem_cons,List.not_mem_nil,or_false] at hx
 rcases hx with rfl | rfl
 ·exact fa a
 ·exact fb b
theorem Qbqj (ra:Qmp P ta va wa) (fa:∀ a,(va a).dem = va a) (la:∀ a,(va a).lt 0 = true) (rb:Qmp P tb vb wb) (fb:∀ a,(vb a).dem = vb a) (lb:∀ a,(vb a).lt 0 = true)
  (rc:Qmp P tc vc wc) (fc:∀ a,(vc a).dem = vc a) (lc:∀ a,(vc a).lt 0 = true)
  (law:∀ a b c,wa a→wb b→wc c→∀ M nb,ACalls P f [va a,vb b,vc c] M nb (.d (.bool true)) M nb):Qbo4 P f [ta,tb,tc]:=by
 intro H enc w b0 us ds ps hok hT
 obtain ⟨u,us',d,ds',p,q,rfl,rfl,h1,hT⟩:=Qqz hT
 obtain ⟨u2,us',d2,ds',p2,q2,rfl,rfl,h2,hT⟩:=Qqz hT
 obtain ⟨u3,us',d3,ds',p3,q3,rfl,rfl,h3,hT⟩:=Qqz hT
 obtain rfl:=Qbcy hT
 obtain ⟨a,ha,hra⟩:=ra (hok 0 _ _ rfl rfl) h1
 obtain ⟨b,hb,hrb⟩:=rb (hok 1 _ _ rfl rfl) h2
 obtain ⟨c,hc,hrc⟩:=rc (hok 2 _ _ rfl rfl) h3
 refine ⟨[va a,vb b,vc c],⟨u,_,rfl,hra,u2,_,rfl,hrb,u3,_,rfl,hrc,rfl⟩,?_,by simp [V.lt.go,la,lb,lc],law a b c ha hb hc⟩
 intro x hx
 simp only [List.mem_cons,List.not_mem_nil,or_false] at hx
 rcases hx with rfl | rfl | rfl
 ·exact fa a
 ·exact fb b
 ·exact fc c
end
theorem Qbl1 {H:Type} {enc:TypeId×Value→H} {w:World} {base:Nat} {spare:Nat→Bool} {held:Bool} {fuel:Nat} {cs:List Value} {x:DataW H×List MemPlace} {n sz:Nat} {el:TypeId}
  (ht:P.underlying t = some (.array n el)) (hsz:P.cellsOf el = sz) (h:DataW.trod enc P w base spare held fuel t cs = some x) :
  cs.length = P.cellsOf t∧∃ m,∀ i,i < n→∃ y,DataW.trod enc P w base spare held m el ((cs.drop (i * sz)).take (P.cellsOf el)) = some y:=by
 obtain ⟨h1,m,h2⟩:=Qbnd ht h
 exact ⟨h1,m,fun i hi=>by have:=h2 i hi; rwa [show i * P.cellsOf el = i * sz from by rw [hsz]] at this⟩
end Go.Abs
end
section
namespace Go.Proofs
open Go Go.Abs
set_option maxRecDepth 100000
def W_22 (x:Int):Prop:=wfI .u8 x
theorem R_22:Qbcv Tryz.prog 22 (eI .u8) W_22:=Qbcw Tryz.underlying22
def W_45 (x:Int×Int):Prop:=W_22 x.1∧W_22 x.2
theorem R_45:Qbcv Tryz.prog 45 (fun p:Int×Int=>[.int .u8 p.1,.int .u8 p.2]) W_45:=by
  intro H enc w base spare held fuel cs x h
  obtain ⟨hl,n,hf⟩:=Qbl1 (sz:=1) Tryz.underlying45 (by kernel_rfl) h
  obtain ⟨y0,h0⟩:=hf 0 (by decide)
  obtain ⟨a0,w0,r0⟩:=Qgu (off:=0 * 1) (sz:=1) R_22 (by kernel_rfl) (fun _=>rfl) h0
  obtain ⟨y1,h1⟩:=hf 1 (by decide)
  obtain ⟨a1,w1,r1⟩:=Qgu (off:=1 * 1) (sz:=1) R_22 (by kernel_rfl) (fun _=>rfl) h1
  exact ⟨(a0,a1),⟨w0,w1⟩,RDat.all (xs:=(fun p:Int×Int=>[.int .u8 p.1,.int .u8 p.2]) (a0,a1)) (RDat.app r0 rfl r1) (hl.trans (by kernel_rfl))⟩
theorem A_45:Qmp Tryz.prog 45 (fun (a:Int×Int)=>.agg [.d (.int .u8 a.1),.d (.int .u8 a.2)]) W_45:=Qbl0 R_45 (.inr ⟨_,_,Tryz.underlying45⟩)
def W_5 (x:Int):Prop:=wfI .u8 x
theorem R_5:Qbcv Tryz.prog 5 (eI .u8) W_5:=Qbcw Tryz.underlying5
def W_23 (x:Int×Int×Int×Int×Int):Prop:=W_5 x.1∧W_5 x.2.1∧W_5 x.2.2.1∧W_5 x.2.2.2.1∧W_5 x.2.2.2.2
theorem R_23:Qbcv Tryz.prog 23 (fun p:Int×Int×Int×Int×Int=>[.int .u8 p.1,.int .u8 p.2.1,.int .u8 p.2.2.1,.int .u8 p.2.2.2.1,.int .u8 p.2.2.2.2]) W_23:=by
  intro H enc w base spare held fuel cs x h
  obtain ⟨hl,n,hf⟩:=Qbl1 (sz:=1) Tryz.underlying23 (by kernel_rfl) h
  obtain ⟨y0,h0⟩:=hf 0 (by decide)
  obtain ⟨a0,w0,r0⟩:=Qgu (off:=0 * 1) (sz:=1) R_5 (by kernel_rfl) (fun _=>rfl) h0
  obtain ⟨y1,h1⟩:=hf 1 (by decide)
  obtain ⟨a1,w1,r1⟩:=Qgu (off:=1 * 1) (sz:=1) R_5 (by kernel_rfl) (fun _=>rfl) h1
  obtain ⟨y2,h2⟩:=hf 2 (by decide)
  obtain ⟨a2,w2,r2⟩:=Qgu (off:=2 * 1) (sz:=1) R_5 (by kernel_rfl) (fun _=>rfl) h2
  obtain ⟨y3,h3⟩:=hf 3 (by decide)
  obtain ⟨a3,w3,r3⟩:=Qgu (off:=3 * 1) (sz:=1) R_5 (by kernel_rfl) (fun _=>rfl) h3
  obtain ⟨y4,h4⟩:=hf 4 (by decide)
  obtain ⟨a4,w4,r4⟩:=Qgu (off:=4 * 1) (sz:=1) R_5 (by kernel_rfl) (fun _=>rfl) h4
  exact ⟨(a0,a1,a2,a3,a4),⟨w0,w1,w2,w3,w4⟩,RDat.all (xs:=(fun p:Int×Int×Int×Int×Int=>[.int .u8 p.1,.int .u8 p.2.1,.int .u8 p.2.2.1,.int .u8 p.2.2.2.1,.int .u8 p.2.2.2.2]) (a0,a1,a2,a3,a4)) (RDat.app r0 rfl (RDat.app r1 rfl (RDat.app r2 rfl (RDat.app r3 rfl r4)))) (hl.trans (by kernel_rfl))⟩
def W_24 (x:(Int×Int×Int×Int×Int)×(Int×Int×Int×Int×Int)×(Int×Int×Int×Int×Int)×(Int×Int×Int×Int×Int)×(Int×Int×Int×Int×Int)):Prop:=W_23 x.1∧W_23 x.2.1∧W_23 x.2.2.1∧W_23 x.2.2.2.1∧W_23 x.2.2.2.2
theorem R_24:Qbcv Tryz.prog 24 (fun p:(Int×Int×Int×Int×Int)×(Int×Int×Int×Int×Int)×(Int×Int×Int×Int×Int)×(Int×Int×Int×Int×Int)×(Int×Int×Int×Int×Int)=>[.int .u8 p.1.1,.int .u8 p.1.2.1,.int .u8 p.1.2.2.1,.int .u8 p.1.2.2.2.1,.int .u8 p.1.2.2.2.2,.int .u8 p.2.1.1,.int .u8 p.2.1.2.1,.int .u8 p.2.1.2.2.1,.int .u8 p.2.1.2.2.2.1,.int .u8 p.2.1.2.2.2.2,.int .u8 p.2.2.1.1,.int .u8 p.2.2.1.2.1,.int .u8 p.2.2.1.2.2.1,.int .u8 p.2.2.1.2.2.2.1,.int .u8 p.2.2.1.2.2.2.2,.int .u8 p.2.2.2.1.1,.int .u8 p.2.2.2.1.2.1,.int .u8 p.2.2.2.1.2.2.1,.int .u8 p.2.2.2.1.2.2.2.1,.int .u8 p.2.2.2.1.2.2.2.2,.int .u8 p.2.2.2.2.1,.int .u8 p.2.2.2.2.2.1,.int .u8 p.2.2.2.2.2.2.1,.int .u8 p.2.2.2.2.2.2.2.1,.int .u8 p.2.2.2.2.2.2.2.2]) W_24:=by
  intro H enc w base spare held fuel cs x h
  obtain ⟨hl,n,hf⟩:=Qbl1 (sz:=5) Tryz.underlying24 (by kernel_rfl) h
  obtain ⟨y0,h0⟩:=hf 0 (by decide)
  obtain ⟨a0,w0,r0⟩:=Qgu (off:=0 * 5) (sz:=5) R_23 (by kernel_rfl) (fun _=>rfl) h0
  obtain ⟨y1,h1⟩:=hf 1 (by decide)
  obtain ⟨a1,w1,r1⟩:=Qgu (off:=1 * 5) (sz:=5) R_23 (by kernel_rfl) (fun _=>rfl) h1
  obtain ⟨y2,h2⟩:=hf 2 (by decide)
  obtain ⟨a2,w2,r2⟩:=Qgu (off:=2 * 5) (sz:=5) R_23 (by kernel_rfl) (fun _=>rfl) h2
  obtain ⟨y3,h3⟩:=hf 3 (by decide)
  obtain ⟨a3,w3,r3⟩:=Qgu (off:=3 * 5) (sz:=5) R_23 (by kernel_rfl) (fun _=>rfl) h3
  obtain ⟨y4,h4⟩:=hf 4 (by decide)
  obtain ⟨a4,w4,r4⟩:=Qgu (off:=4 * 5) (sz:=5) R_23 (by kernel_rfl) (fun _=>rfl) h4
  exact ⟨(a0,a1,a2,a3,a4),⟨w0,w1,w2,w3,w4⟩,RDat.all (xs:=(fun p:(Int×Int×Int×Int×Int)×(Int×Int×Int×Int×Int)×(Int×Int×Int×Int×Int)×(Int×Int×Int×Int×Int)×(Int×Int×Int×Int×Int)=>[.int .u8 p.1.1,.int .u8 p.1.2.1,.int .u8 p.1.2.2.1,.int .u8 p.1.2.2.2.1,.int .u8 p.1.2.2.2.2,.int .u8 p.2.1.1,.int .u8 p.2.1.2.1,.int .u8 p.2.1.2.2.1,.int .u8 p.2.1.2.2.2.1,.int .u8 p.2.1.2.2.2.2,.int .u8 p.2.2.1.1,.int .u8 p.2.2.1.2.1,.int .u8 p.2.2.1.2.2.1,.int .u8 p.2.2.1.2.2.2.1,.int .u8 p.2.2.1.2.2.2.2,.int .u8 p.2.2.2.1.1,.int .u8 p.2.2.2.1.2.1,.int .u8 p.2.2.2.1.2.2.1,.int .u8 p.2.2.2.1.2.2.2.1,.int .u8 p.2.2.2.1.2.2.2.2,.int .u8 p.2.2.2.2.1,.int .u8 p.2.2.2.2.2.1,.int .u8 p.2.2.2.2.2.2.1,.int .u8 p.2.2.2.2.2.2.2.1,.int .u8 p.2.2.2.2.2.2.2.2]) (a0,a1,a2,a3,a4)) (RDat.app r0 rfl (RDat.app r1 rfl (RDat.app r2 rfl (RDat.app r3 rfl r4)))) (hl.trans (by kernel_rfl))⟩
def W_26 (x:Qz):Prop:=W_5 x.States∧W_5 x.Marks∧W_24 x.To
theorem R_26:Qbcv Tryz.prog 26 Qms W_26:=by
  intro H enc w base spare held fuel cs x h
  obtain ⟨hl,n,hf⟩:=Qbly Tryz.underlying26 h
  obtain ⟨y0,h0⟩:=hf 0 _ rfl
  obtain ⟨a0,w0,r0⟩:=Qgu (off:=0) (sz:=1) R_5 (by kernel_rfl) (fun _=>rfl) h0
  obtain ⟨y1,h1⟩:=hf 1 _ rfl
  obtain ⟨a1,w1,r1⟩:=Qgu (off:=1) (sz:=1) R_5 (by kernel_rfl) (fun _=>rfl) h1
  obtain ⟨y2,h2⟩:=hf 2 _ rfl
  obtain ⟨a2,w2,r2⟩:=Qgu (off:=2) (sz:=25) R_24 (by kernel_rfl) (fun _=>rfl) h2
  exact ⟨⟨a0,a1,a2⟩,⟨w0,w1,w2⟩,RDat.all (xs:=Qms ⟨a0,a1,a2⟩) (RDat.app r0 rfl (RDat.app r1 rfl r2)) (hl.trans (by kernel_rfl))⟩
theorem A_26:Qmp Tryz.prog 26 (fun (a:Qz)=>.agg [.d (.int .u8 a.States),.d (.int .u8 a.Marks),.d (.int .u8 a.To.1.1),.d (.int .u8 a.To.1.2.1),.d (.int .u8 a.To.1.2.2.1),.d (.int .u8 a.To.1.2.2.2.1),.d (.int .u8 a.To.1.2.2.2.2),.d (.int .u8 a.To.2.1.1),.d (.int .u8 a.To.2.1.2.1),.d (.int .u8 a.To.2.1.2.2.1),.d (.int .u8 a.To.2.1.2.2.2.1),.d (.int .u8 a.To.2.1.2.2.2.2),.d (.int .u8 a.To.2.2.1.1),.d (.int .u8 a.To.2.2.1.2.1),.d (.int .u8 a.To.2.2.1.2.2.1),.d (.int .u8 a.To.2.2.1.2.2.2.1),.d (.int .u8 a.To.2.2.1.2.2.2.2),.d (.int .u8 a.To.2.2.2.1.1),.d (.int .u8 a.To.2.2.2.1.2.1),.d (.int .u8 a.To.2.2.2.1.2.2.1),.d (.int .u8 a.To.2.2.2.1.2.2.2.1),.d (.int .u8 a.To.2.2.2.1.2.2.2.2),.d (.int .u8 a.To.2.2.2.2.1),.d (.int .u8 a.To.2.2.2.2.2.1),.d (.int .u8 a.To.2.2.2.2.2.2.1),.d (.int .u8 a.To.2.2.2.2.2.2.2.1),.d (.int .u8 a.To.2.2.2.2.2.2.2.2)]) W_26:=Qbl0 R_26 (.inl ⟨_,Tryz.underlying26⟩)
def W_67 (x:Int):Prop:=wfI .u16 x
theorem R_67:Qbcv Tryz.prog 67 (eI .u16) W_67:=Qbcw Tryz.underlying67
theorem A_67:Qmp Tryz.prog 67 (fun (a:Int)=>.d (.int .u16 a)) W_67:=Qbo2 R_67 (Qbo3 Tryz.underlying67)
end Go.Proofs
end
section
namespace Go.Abs
open Go
theorem Qjo {X R:Type} {F:(X→Option R)→X→Option R} (I:X→Prop) (m:X→Nat) (Q:X→Option R→Prop)
  (step:∀ (k:X→Option R) (x:X),I x→(∀ y,I y→m y < m x→Q y (k y))→Q x (F k x)):∀ (fuel:Nat) (x:X),I x→m x < fuel→Q x (Qcl F fuel x)
 | 0,x,_,h=>absurd h (Nat.not_lt_zero _)
 | fuel + 1,x,hi,h=>step _ x hi fun y hy hm=>Qjo I m Q step fuel y hy (by omega)
theorem Qbne {X R:Type} {F:(X→Option R)→X→Option R} {fuel:Nat} {x:X} (I:X→Prop) (m:X→Nat) (q:Option R) (hi:I x) (hm:m x < fuel)
  (step:∀ (k:X→Option R) (x:X),I x→(∀ y,I y→m y < m x→k y = q)→F k x = q):Qcl F fuel x = q :=
 Qjo I m (fun _ r=>r = q) step fuel x hi hm
theorem Qoa {x:Int} (h1 : -9223372036854775808≤x) (h2:x≤9223372036854775807):IntKind.wrap .i64 x = x:=by
 simp [IntKind.wrap,IntKind.bits,IntKind.signed]; omega
theorem Qcb {n:Nat} (h:n < 9223372036854775807):IntKind.wrap .i64 ((n:Int) + 1) = ((n + 1:Nat):Int):=by
 rw [Qoa (by omega) (by omega)]; omega
theorem Qcn {α:Type} {l:List α} {n:Nat} (h:n < l.length):getO l (n:Int) = some l[n]:=by
 simp [getO,h]
theorem Qiy {α:Type} {l:List α} {i:Int} {x:α}:getO l i = some x↔0≤i∧l[i.toNat]? = some x:=by
 unfold getO; split
 ·rename_i h; simp [h]
 ·rename_i h; simp only [reduceCtorEq,false_iff,not_and]; exact fun h'=>absurd h' h
theorem Qdv {α:Type} {l m:List α} (h:l.length + m.length≤lim):appO l m = some (l ++ m):=by
 unfold appO; rw [if_pos h]
theorem Qbgn {α:Type} {s t:List α} {k:Nat} (hs:k < s.length) (ht:k < t.length) (h:s.take k = t.take k) (he:s[k] = t[k]):s.take (k + 1) = t.take (k + 1):=by
 rw [List.take_add_one,List.take_add_one,h,List.getElem?_eq_getElem hs,List.getElem?_eq_getElem ht,he]
theorem Qng {R:Type} {F:(Int→Option R)→Int→Option R} {len fuel:Nat} (G:Nat→Option R) (hf:len < fuel)
  (step:∀ (k:Int→Option R) (n:Nat),n < len→k ((n + 1:Nat):Int) = G (n + 1)→F k (n:Int) = G n) (last:∀ k:Int→Option R,F k (len:Int) = G len):Qcl F fuel 0 = G 0:=by
 have:=Qjo (F:=F) (fun x=>∃ n:Nat,x = (n:Int)∧n≤len) (fun x=>len - x.toNat) (fun x r=>∀ n:Nat,x = (n:Int)→r = G n) (fun k x hx ih=>by
  obtain ⟨n,rfl,hn⟩:=hx
  intro m hm
  obtain rfl:n = m:=by omega
  by_cases h:n < len
  ·exact step k n h (ih _ ⟨n + 1,rfl,by omega⟩ (by omega) (n + 1) rfl)
  ·obtain rfl:n = len:=by omega
   exact last k) fuel 0 ⟨0,rfl,by omega⟩ (by simpa using hf)
 exact this 0 rfl
theorem Qbgo {n:Nat} (h0:0 < n) (h:n < 9223372036854775807):IntKind.wrap .i64 ((n:Int) - 1) = ((n - 1:Nat):Int):=by
 rw [Qoa (by omega) (by omega)]; omega
theorem Qbnf {X S R:Type} {F:(X→Option R)→X→Option R} {len:Nat} (mk:Nat→S→X) (G:Nat→S→Option R)
  (step:∀ (k:X→Option R) (n:Nat) (s:S),n < len→(∀ s',k (mk (n + 1) s') = G (n + 1) s')→F k (mk n s) = G n s) (last:∀ (k:X→Option R) (s:S),F k (mk len s) = G len s) :
  ∀ (fuel n:Nat) (s:S),n≤len→len - n < fuel→Qcl F fuel (mk n s) = G n s
 | 0,n,s,_,h=>by omega
 | fuel + 1,n,s,hn,h=>by
  show F (Qcl F fuel) (mk n s) = _
  by_cases hlt:n < len
  ·exact step _ n s hlt fun s'=>Qbnf mk G step last fuel (n + 1) s' (by omega) (by omega)
  ·obtain rfl:n = len:=by omega
   exact last _ s
theorem Qbp3 {i j:Nat} (hi:i < 1000000000000) (hj:j < 1000000000000):IntKind.wrap .i64 (Int.fdiv (IntKind.wrap .u64 (IntKind.wrap .i64 ((i:Int) + j))) (2 ^ (min (Int.toNat 1) (IntKind.bits .u64)))) = (((i + j) / 2:Nat):Int):=by
 have h1:IntKind.wrap .i64 ((i:Int) + j) = ((i + j:Nat):Int):=by rw [Qoa (by omega) (by omega)]; omega
 have h2:IntKind.wrap .u64 ((i + j:Nat):Int) = ((i + j:Nat):Int):=by
  simp [IntKind.wrap,IntKind.bits,IntKind.signed]; omega
 have h3:(2:Int) ^ (min (Int.toNat 1) (IntKind.bits .u64)) = 2:=by decide
 rw [h1,h2,h3,Int.fdiv_eq_ediv_of_nonneg _ (by omega),show ((i + j:Nat):Int) / 2 = (((i + j) / 2:Nat):Int) from by omega,Qoa (by omega) (by omega)]
theorem Qbng {α:Type} {l:List α} {i j:Nat} (h:i≤j) (hj:j≤l.length):slcO l (i:Int) (j:Int) = some ((l.take j).drop i):=by
 simp [slcO,h,hj]
theorem Qbjp:∀ {l m:List Int},l.Pairwise (· < ·)→m.Pairwise (· < ·)→(∀ x,x∈l↔x∈m)→l = m
 | l,m,h1,h2,h=>by
  have n1:l.Nodup:=h1.imp fun h=>by omega
  have n2:m.Nodup:=h2.imp fun h=>by omega
  have hp:l.Perm m:=(List.perm_ext_iff_of_nodup n1 n2).2 h
  exact List.Perm.eq_of_pairwise (le:=(· < ·)) (fun a b _ _ h1 h2=>by omega) h1 h2 hp
section
variable {α:Type} {p:α→Bool}
theorem Qbee:∀ {l:List α},l.Pairwise (fun a b=>p b = true→p a = true)→∀ (n:Nat) (h:n < l.length),p l[n] = true↔n < (l.filter p).length
 | [],_,n,h=>by simp at h
 | x :: xs,hs,n,h=>by
  obtain ⟨h1,h2⟩:=List.pairwise_cons.1 hs
  cases n with
  | zero =>
   cases hx:p x with
   | true=>simp [hx]
   | false =>
    have:xs.filter p = []:=List.filter_eq_nil_iff.2 fun y hy hp=>by have:=h1 y hy hp; rw [hx] at this; cases this
    simp [hx,this]
  | succ n =>
   have ih:=Qbee h2 n (by simpa using h)
   cases hx:p x with
   | true=>simp [hx,ih]
   | false =>
    have:xs.filter p = []:=List.filter_eq_nil_iff.2 fun y hy hp=>by have:=h1 y hy hp; rw [hx] at this; cases this
    rw [this] at ih
    simp [hx,this] at ih ⊢
    exact ih
end
theorem Qiz {X S R:Type} {F:(X→Option R)→X→Option R} {len:Nat} (mk:Nat→S→X) (I:Nat→S→Prop) (G:Nat→S→Option R)
  (step:∀ (k:X→Option R) (n:Nat) (s:S),n < len→I n s→(∀ s',I (n + 1) s' → k (mk (n + 1) s') = G (n + 1) s')→F k (mk n s) = G n s) (last:∀ (k:X→Option R) (s:S),I len s→F k (mk len s) = G len s) :
  ∀ (fuel n:Nat) (s:S),n≤len→len - n < fuel→I n s→Qcl F fuel (mk n s) = G n s
 | 0,n,s,_,h,_=>by omega
 | fuel + 1,n,s,hn,h,hi=>by
  show F (Qcl F fuel) (mk n s) = _
  by_cases hlt:n < len
  ·exact step _ n s hlt hi fun s' hi'=>Qiz mk I G step last fuel (n + 1) s' (by omega) (by omega) hi'
  ·obtain rfl:n = len:=by omega
   exact last _ s hi
theorem Qg0:∀ {l:List Int} {a b:Int},l.Pairwise (· < ·)→(∀ x∈l,a≤x∧x < b)→l.length≤(b - a).toNat
 | [],_,_,_,_=>by simp
 | x :: xs,a,b,h,hr=>by
  obtain ⟨h1,h2⟩:=List.pairwise_cons.1 h
  have:=Qg0 (a:=x + 1) (b:=b) h2 fun y hy=>⟨by have:=h1 y hy; omega,(hr y (by simp [hy])).2⟩
  have:=hr x (by simp)
  simp only [List.length_cons]
  omega
end Go.Abs
end
section
namespace Go.Abs
abbrev big : Nat := 1000000000000
def small (a : Qb) : Prop := a.Alphabet.length < big ∧ a.Marked.length < big ∧ a.Edges.length < big
end Go.Abs
end
section
namespace Go.Abs
open Go
def Qfa (n:Int):Option Int→List Int→Int
 | _,[]=>0
 | p,x :: xs=>if x < 0∨x≥n then 2 else if ∃ y,p = some y∧x≤y then 5 else Qfa n (some x) xs
def Qi1 (al:List Int) (st:Int):Option Qe→List Qe→Int
 | _,[]=>0
 | p,x :: xs=>if x.From < 0∨x.From≥st∨x.To < 0∨x.To≥st then 2 else if x.Event∉al then 9 else if ∃ y,p = some y∧(x.From < y.From∨x.From = y.From∧x.Event≤y.Event) then 5 else Qi1 al st (some x) xs
def Qyo (a:Qb):Int :=
 if Qfa 32 none a.Alphabet≠0 then Qfa 32 none a.Alphabet else if a.States < 0 then 2 else if a.States > 4096 then 3 else
 if Qfa a.States none a.Marked≠0 then Qfa a.States none a.Marked else Qi1 a.Alphabet a.States none a.Edges
def ahead {α:Type} (l:List α) (n:Nat):Option α:=if n = 0 then none else l[n - 1]?
theorem Q31 {α:Type} (l:List α):ahead l 0 = none:=rfl
theorem Qbef {α:Type} (l:List α) {n:Nat} (h:n < l.length):ahead l (n + 1) = some l[n]:=by simp [ahead,h]
theorem Qbgp {α:Type} (l:List α) {n:Nat} (h0:0 < n) (h:n≤l.length):ahead l n = some (l[n - 1]'(by omega)):=by
 simp [ahead,show n≠0 from by omega,show n - 1 < l.length from by omega]
theorem Qbgq {n:Int} {l:List Int} {k:Nat} (h:k < l.length):Qfa n (ahead l k) (l.drop k) = if l[k] < 0∨l[k]≥n then 2 else if ∃ y,ahead l k = some y∧l[k]≤y then 5 else Qfa n (ahead l (k + 1)) (l.drop (k + 1)):=by
 rw [List.drop_eq_getElem_cons h,Qfa,Qbef l h]
theorem Qbff {al:List Int} {n:Int} {l:List Qe} {k:Nat} (h:k < l.length):Qi1 al n (ahead l k) (l.drop k) = if l[k].From < 0∨l[k].From≥n∨l[k].To < 0∨l[k].To≥n then 2 else if l[k].Event∉al then 9 else if ∃ y,ahead l k = some y∧(l[k].From < y.From∨l[k].From = y.From∧l[k].Event≤y.Event) then 5 else Qi1 al n (ahead l (k + 1)) (l.drop (k + 1)):=by
 rw [List.drop_eq_getElem_cons h,Qi1,Qbef l h]
theorem Q8c {l:List Int} {n:Int} (hl:l.length < big):Qf7 l n = some (Qfa n none l):=by
 unfold Qf7 Qb5
 refine (Qng (len:=l.length) (fun k=>some (Qfa n (ahead l k) (l.drop k))) (by unfold Qb6; unfold big at hl; omega) ?_ ?_).trans (by simp [Q31])
 ·intro k i hi ih
  have hb:i < 1000000000000:=by unfold big at hl; omega
  rw [Qbgq hi]
  try dsimp only
  rw [if_pos (by omega),Qcn hi,Qcb (by omega),ih]
  simp only [Option.bind_some]
  by_cases h1:l[i] < 0
  ·simp [h1]
  ·by_cases h2:l[i]≥n
   ·simp [h1,h2]
   ·by_cases h0:0 < i
    ·rw [Qbgo h0 (by omega),Qcn (by omega:i - 1 < l.length),Qbgp l h0 (by omega)]
     by_cases h3:l[i]≤l[i - 1] <;> simp [h1,h2,h3,h0]
    ·obtain rfl:i = 0:=by omega
     simp [h1,h2,Q31]
 ·intro k; simp [Qfa]
theorem Qbnh {l:List Int} {v:Int} (hl:l.length < big):Qhf l v = some (if v∈l then (l.idxOf v:Int) else -1):=by
 unfold Qhf Qcw
 refine (Qng (len:=l.length) (fun k=>some (if v∈l.drop k then ((k + (l.drop k).idxOf v:Nat):Int) else -1)) (by unfold Qb6; unfold big at hl; omega) ?_ ?_).trans (by simp)
 ·intro k i hi ih
  have hb:i < 1000000000000:=by unfold big at hl; omega
  try dsimp only
  rw [if_pos (by omega),Qcn hi,Qcb (by omega),ih,List.drop_eq_getElem_cons hi]
  simp only [Option.bind_some,List.mem_cons,List.idxOf_cons]
  by_cases h:v = l[i]
  ·simp [← h]
  ·have:¬ l[i] = v:=fun e=>h e.symm
   have hbq:(l[i] == v) = false:=by simp [this]
   by_cases h2:v∈l.drop (i + 1) <;> simp [h,h2,hbq]
   omega
 ·intro k; simp
theorem Qjk {l:List Int} {v:Int} (hl:l.length < big):Q6 l v = some (decide (v∈l)):=by
 unfold Q6 Qg
 rw [Qbnh hl]
 simp only [Option.bind_some,Option.some.injEq]
 by_cases h:v∈l <;> simp [h]
theorem Qbl2 {l:List Int} {v:Int} (hl:l.length < big):Qc6 l v = some (decide (v∈l)):=by
 unfold Qc6 Qbm
 refine (Qng (len:=l.length) (fun k=>some (decide (v∈l.drop k))) (by unfold Qb6; unfold big at hl; omega) ?_ ?_).trans (by simp)
 ·intro k i hi ih
  have hb:i < 1000000000000:=by unfold big at hl; omega
  try dsimp only
  rw [if_pos (by omega),Qcn hi,Qcb (by omega),ih,List.drop_eq_getElem_cons hi]
  simp only [Option.bind_some,List.mem_cons]
  by_cases h:l[i] = v
  ·simp [h]
  ·have:¬ v = l[i]:=fun e=>h e.symm
   simp [h,this]
 ·intro k; simp
theorem Qbfg {a:Qb} (h:small a):Qfc a = some (Qi1 a.Alphabet a.States none a.Edges):=by
 obtain ⟨hal,_,hl⟩:=h
 unfold Qfc Qb3
 refine (Qng (len:=a.Edges.length) (fun k=>some (Qi1 a.Alphabet a.States (ahead a.Edges k) (a.Edges.drop k))) (by unfold Qb6; unfold big at hl; omega) ?_ ?_).trans (by simp [Q31])
 ·intro k i hi ih
  have hb:i < 1000000000000:=by unfold big at hl; omega
  rw [Qbff hi]
  unfold letJ
  try dsimp only
  rw [if_pos (by omega),Qcn hi,Qcb (by omega),ih]
  simp only [Option.bind_some,Qjk hal]
  generalize a.Edges[i] = x
  by_cases h1:x.From < 0
  ·simp [h1]
  by_cases h2:x.From≥a.States
  ·simp [h1,h2]
  by_cases h3:x.To < 0
  ·simp [h1,h2,h3]
  by_cases h4:x.To≥a.States
  ·simp [h1,h2,h3,h4]
  by_cases h5:x.Event∈a.Alphabet
  ·by_cases h0:0 < i
   ·rw [Qbgo h0 (by omega),Qcn (by omega:i - 1 < a.Edges.length),Qbgp a.Edges h0 (by omega)]
    generalize a.Edges[i - 1] = y
    have hi0:i≠0:=by omega
    by_cases h6:x.From < y.From
    ·simp [h1,h2,h3,h4,h5,h6,hi0]
    by_cases h7:y.From = x.From
    ·by_cases h8:x.Event≤y.Event <;> simp [h1,h2,h3,h4,h5,h6,h7,h8,hi0]
    ·have h7' : ¬ x.From = y.From:=fun e=>h7 e.symm
     simp [h1,h2,h3,h4,h5,h6,h7,hi0,h7']
   ·obtain rfl:i = 0:=by omega
    simp [h1,h2,h3,h4,h5,Q31]
  ·simp [h1,h2,h3,h4,h5]
 ·intro k; unfold letJ; simp [Qi1]
theorem Qbiw {a:Qb} (h:small a):Qcp a = some (Qyo a):=by
 unfold Qcp Qs Qyo
 rw [Q8c h.1,Q8c h.2.1,Qbfg h]
 simp only [Option.bind_some]
 by_cases h1:Qfa 32 none a.Alphabet = 0
 ·by_cases h2:a.States < 0
  ·simp [h1,h2]
  by_cases h3:a.States > 4096
  ·simp [h1,h2,h3]
  by_cases h4:Qfa a.States none a.Marked = 0 <;> simp [h1,h2,h3,h4]
 ·simp [h1]
end Go.Abs
end
section
namespace Go.Abs
open Go
def Qln (x y:Qe):Prop:=x.From < y.From∨x.From = y.From∧x.Event < y.Event
instance (x y:Qe):Decidable (Qln x y):=by unfold Qln; infer_instance
structure Right (a:Qb):Prop where
 al0:∀ x∈a.Alphabet,0≤x∧x < 32
 al:a.Alphabet.Pairwise (· < ·)
 st:0≤a.States∧a.States≤4096
 ma0:∀ x∈a.Marked,0≤x∧x < a.States
 ma:a.Marked.Pairwise (· < ·)
 ed0:∀ x∈a.Edges,0≤x.From∧x.From < a.States∧0≤x.To∧x.To < a.States∧x.Event∈a.Alphabet
 ed:a.Edges.Pairwise Qln
theorem Qh7 {n:Int}:∀ {l:List Int} {p:Option Int},Qfa n p l = 0↔(∀ x∈l,0≤x∧x < n)∧l.Pairwise (· < ·)∧∀ y,p = some y→∀ x∈l,y < x
 | [],p=>by simp [Qfa]
 | x :: xs,p=>by
  rw [Qfa]
  split
  ·rename_i h
   refine ⟨fun h=>by omega,fun hh=>?_⟩
   have:=hh.1 x (by simp); omega
  ·rename_i h
   split
   ·rename_i h2
    obtain ⟨y,hy,hxy⟩:=h2
    refine ⟨fun h=>by omega,fun hh=>?_⟩
    have:=hh.2.2 y hy x (by simp); omega
   ·rename_i h2
    rw [Qh7]
    constructor
    ·rintro ⟨k1,k2,k3⟩
     refine ⟨fun z hz=>?_,List.pairwise_cons.2 ⟨fun z hz=>k3 x rfl z hz,k2⟩,fun y hy z hz=>?_⟩
     ·rcases List.mem_cons.1 hz with rfl | hz
      ·omega
      ·exact k1 z hz
     ·have hyx:y < x:=by
       rcases Int.lt_or_le y x with h | h
       ·exact h
       ·exact absurd ⟨y,hy,h⟩ h2
      rcases List.mem_cons.1 hz with rfl | hz
      ·exact hyx
      ·have:=k3 x rfl z hz; omega
    ·rintro ⟨k1,k2,k3⟩
     obtain ⟨k4,k5⟩:=List.pairwise_cons.1 k2
     exact ⟨fun z hz=>k1 z (by simp [hz]),k5,fun y hy z hz=>by cases hy; exact k4 z hz⟩
theorem Qyp {al:List Int} {n:Int}:∀ {l:List Qe} {p:Option Qe},Qi1 al n p l = 0↔(∀ x∈l,0≤x.From∧x.From < n∧0≤x.To∧x.To < n∧x.Event∈al)∧l.Pairwise Qln∧∀ y,p = some y→∀ x∈l,Qln y x
 | [],p=>by simp [Qi1]
 | x :: xs,p=>by
  have tr:∀ a b c:Qe,Qln a b→Qln b c→Qln a c:=fun a b c h k=>by unfold Qln at *; omega
  rw [Qi1]
  split
  ·rename_i h
   refine ⟨fun h=>by omega,fun hh=>?_⟩
   have:=hh.1 x (by simp); omega
  ·rename_i h
   split
   ·rename_i h2
    refine ⟨fun h=>by omega,fun hh=>?_⟩
    exact absurd (hh.1 x (by simp)).2.2.2.2 h2
   ·rename_i hal
    split
    ·rename_i h2
     obtain ⟨y,hy,hxy⟩:=h2
     refine ⟨fun h=>by omega,fun hh=>?_⟩
     have:=hh.2.2 y hy x (by simp)
     unfold Qln at this; omega
    ·rename_i h2
     rw [Qyp]
     constructor
     ·rintro ⟨k1,k2,k3⟩
      refine ⟨fun z hz=>?_,List.pairwise_cons.2 ⟨fun z hz=>k3 x rfl z hz,k2⟩,fun y hy z hz=>?_⟩
      ·rcases List.mem_cons.1 hz with rfl | hz
       ·exact ⟨by omega,by omega,by omega,by omega,Decidable.not_not.1 hal⟩
       ·exact k1 z hz
      ·have hyx:Qln y x:=by
        apply Decidable.byContradiction
        intro h
        exact h2 ⟨y,hy,by unfold Qln at h; omega⟩
       rcases List.mem_cons.1 hz with rfl | hz
       ·exact hyx
       ·exact tr _ _ _ hyx (k3 x rfl z hz)
     ·rintro ⟨k1,k2,k3⟩
      obtain ⟨k4,k5⟩:=List.pairwise_cons.1 k2
      exact ⟨fun z hz=>k1 z (by simp [hz]),k5,fun y hy z hz=>by cases hy; exact k4 z hz⟩
theorem Qbgr {a:Qb}:Qyo a = 0↔Right a:=by
 unfold Qyo
 constructor
 ·intro h
  split at h
  ·rename_i h1; exact absurd h h1
  rename_i h1
  split at h
  ·omega
  split at h
  ·omega
  split at h
  ·rename_i h4; exact absurd h h4
  rename_i h4
  have q1:=Qh7.1 (Decidable.not_not.1 h1)
  have q2:=Qh7.1 (Decidable.not_not.1 h4)
  have q3:=Qyp.1 h
  exact ⟨q1.1,q1.2.1,⟨by omega,by omega⟩,q2.1,q2.2.1,q3.1,q3.2.1⟩
 ·intro h
  have q1:Qfa 32 none a.Alphabet = 0:=Qh7.2 ⟨h.al0,h.al,fun y hy=>by cases hy⟩
  have q2:Qfa a.States none a.Marked = 0:=Qh7.2 ⟨h.ma0,h.ma,fun y hy=>by cases hy⟩
  have q3:Qi1 a.Alphabet a.States none a.Edges = 0:=Qyp.2 ⟨h.ed0,h.ed,fun y hy=>by cases hy⟩
  have:=h.st
  rw [if_neg (by simp [q1]),if_neg (by omega),if_neg (by omega),if_neg (by simp [q2]),q3]
def outP (a:Qb) (s:Int):List Qe:=a.Edges.filter fun x=>x.From == s
def Qfr (a:Qb) (s e:Int):Int:=match a.Edges.find? fun x=>x.From == s && x.Event == e with
 | some x=>x.To
 | none=>-1
theorem Qbl3 {l:List Qe} (h:l.Pairwise Qln) (s:Int):l.Pairwise fun a b=>decide (b.From < s) = true→decide (a.From < s) = true :=
 h.imp fun h=>by unfold Qln at h; simp; omega
theorem Qbn9 {l:List Qe} {s:Int} {cmp:Qe→Int→Option Int} (hcmp:∀ x∈l,cmp x s = some (x.From - s)) (hs:l.Pairwise Qln) (hl:l.length < big) :
  ∃ b,Qdg l s cmp = some (((l.filter fun x=>decide (x.From < s)).length:Int),b):=by
 have hc:=fun n h=>Qbee (p:=fun x:Qe=>decide (x.From < s)) (Qbl3 hs s) n h
 have hcl:(l.filter fun x=>decide (x.From < s)).length≤l.length:=List.length_filter_le _ _
 generalize (l.filter fun x=>decide (x.From < s)).length = c at hc hcl
 have hb:l.length < 1000000000000:=hl
 unfold Qdg Qba
 have hloop:=Qjo (F:=fun (k13:Int×Int→Option Int) ((i11,j12):Int×Int)=>(if (i11 < j12) then ((getO l (IntKind.wrap .i64 (Int.fdiv (IntKind.wrap .u64 (IntKind.wrap .i64 (i11 + j12))) (2 ^ (min (Int.toNat 1) (IntKind.bits .u64)))))).bind fun x15=>((cmp x15 s).bind fun x18=>(if (x18 < 0) then k13 ((IntKind.wrap .i64 ((IntKind.wrap .i64 (Int.fdiv (IntKind.wrap .u64 (IntKind.wrap .i64 (i11 + j12))) (2 ^ (min (Int.toNat 1) (IntKind.bits .u64))))) + 1)),j12) else k13 (i11,(IntKind.wrap .i64 (Int.fdiv (IntKind.wrap .u64 (IntKind.wrap .i64 (i11 + j12))) (2 ^ (min (Int.toNat 1) (IntKind.bits .u64))))))))) else some i11))
  (fun x=>∃ i j:Nat,x = ((i:Int),(j:Int))∧i≤c∧c≤j∧j≤l.length) (fun x=>(x.2 - x.1).toNat) (fun _ r=>r = some (c:Int)) (by
   rintro k _ ⟨i,j,rfl,h1,h2,h3⟩ ih
   dsimp only
   by_cases hij:i < j
   ·rw [if_pos (by omega),Qbp3 (by omega) (by omega)]
    have hm:(i + j) / 2 < l.length:=by omega
    rw [Qcn hm]
    simp only [Option.bind_some]
    rw [hcmp _ (List.getElem_mem hm)]
    simp only [Option.bind_some]
    have hcm:=hc ((i + j) / 2) hm
    by_cases hlt:l[(i + j) / 2].From < s
    ·rw [if_pos (by omega),Qcb (by omega)]
     have:(i + j) / 2 < c:=hcm.1 (by simpa using hlt)
     exact ih _ ⟨_,_,rfl,by omega,h2,h3⟩ (by simp only; omega)
    ·rw [if_neg (by omega)]
     have:¬ (i + j) / 2 < c:=fun h=>hlt (by simpa using hcm.2 h)
     exact ih _ ⟨_,_,rfl,h1,by omega,by omega⟩ (by simp only; omega)
   ·rw [if_neg (by omega)]
    have:i = c:=by omega
    rw [this]) Qb6 (0,(l.length:Int)) ⟨0,l.length,rfl,by omega,hcl,Nat.le_refl _⟩ (by unfold Qb6; simp only; omega)
 rw [hloop]
 simp only [Option.bind_some]
 by_cases hlt:c < l.length
 ·rw [if_pos (by omega),Qcn hlt]
  simp only [Option.bind_some]
  rw [hcmp _ (List.getElem_mem hlt)]
  exact ⟨_,rfl⟩
 ·rw [if_neg (by omega)]
  exact ⟨_,rfl⟩
theorem Qbgs:∀ {l:List Qe} (s:Int),l.Pairwise Qln→(l.take (l.filter fun x=>decide (x.From < s + 1)).length).drop (l.filter fun x=>decide (x.From < s)).length = l.filter fun x=>x.From == s
 | [],s,_=>by simp
 | x :: xs,s,h=>by
  obtain ⟨h1,h2⟩:=List.pairwise_cons.1 h
  have ih:=Qbgs s h2
  have hge:∀ y∈xs,x.From≤y.From:=fun y hy=>by have:=h1 y hy; unfold Qln at this; omega
  by_cases hx:x.From < s
  ·have e1:decide (x.From < s) = true:=by simpa using hx
   have e2:decide (x.From < s + 1) = true:=by simp; omega
   have e3:(x.From == s) = false:=by simp; omega
   simp only [List.filter_cons,e1,e2,e3,if_true,List.length_cons,List.take_succ_cons,List.drop_succ_cons,Bool.false_eq_true,if_false]
   exact ih
  ·have hz:xs.filter (fun x=>decide (x.From < s)) = []:=List.filter_eq_nil_iff.2 fun y hy=>by have:=hge y hy; simp; omega
   have e1:decide (x.From < s) = false:=by simpa using hx
   by_cases hq:x.From = s
   ·have e2:decide (x.From < s + 1) = true:=by simp; omega
    have e3:(x.From == s) = true:=by simp [hq]
    simp only [List.filter_cons,e1,e2,e3,if_true,List.length_cons,List.take_succ_cons,Bool.false_eq_true,if_false,hz,List.length_nil,List.drop_zero]
    rw [hz,List.length_nil,List.drop_zero] at ih
    rw [ih]
   ·have e2:decide (x.From < s + 1) = false:=by simp; omega
    have e3:(x.From == s) = false:=by simp [hq]
    have hz1:xs.filter (fun x=>decide (x.From < s + 1)) = []:=List.filter_eq_nil_iff.2 fun y hy=>by have:=hge y hy; simp; omega
    have hz2:xs.filter (fun x=>x.From == s) = []:=List.filter_eq_nil_iff.2 fun y hy=>by have:=hge y hy; simp; omega
    simp only [List.filter_cons,e1,e2,e3,Bool.false_eq_true,if_false,hz,hz1,hz2,List.length_nil,List.take_zero,List.drop_zero]
section
variable {a:Qb} (h:Right a) (hs:small a)
include h hs
theorem Qboa {s:Int} (h0 : -1000000000000 < s) (h1:s < 1000000000000):Qeg a s = some (outP a s):=by
 unfold Qeg Qbl
 have hst:=h.st
 have hw:∀ t:Int,-1000000000002 < t→t < 1000000000002→∀ x∈a.Edges,IntKind.wrap .i64 (x.From - t) = x.From - t:=fun t k1 k2 x hx=>by
  have:=h.ed0 x hx; exact Qoa (by omega) (by omega)
 have e1:IntKind.wrap .i64 (s + 1) = s + 1:=Qoa (by omega) (by omega)
 obtain ⟨b1,k1⟩:=Qbn9 (s:=s) (cmp:=Qic) (fun x hx=>by unfold Qic Qc8; rw [hw s (by omega) (by omega) x hx]) h.ed hs.2.2
 obtain ⟨b2,k2⟩:=Qbn9 (s:=s + 1) (cmp:=Qid) (fun x hx=>by unfold Qid Qc9; rw [hw (s + 1) (by omega) (by omega) x hx]) h.ed hs.2.2
 rw [k1,e1]
 simp only [Option.bind_some]
 rw [k2]
 simp only [Option.bind_some]
 have hle:(a.Edges.filter fun x=>decide (x.From < s)).length≤(a.Edges.filter fun x=>decide (x.From < s + 1)).length :=
  by rw [← List.countP_eq_length_filter,← List.countP_eq_length_filter]; exact List.countP_mono_left fun x _ hx=>by simp at hx ⊢; omega
 rw [Qbng hle (List.length_filter_le _ _),Qbgs s h.ed]
 rfl
theorem Qbo6 {s e:Int} (h0 : -1000000000000 < s) (h1:s < 1000000000000):Qi0 a s e = some (Qfr a s e):=by
 unfold Qi0 Qdf
 rw [Qboa h hs h0 h1]
 simp only [Option.bind_some]
 have hl:(outP a s).length < big:=Nat.lt_of_le_of_lt (List.length_filter_le _ _) hs.2.2
 have hf:Qfr a s e = match (outP a s).find? (fun x=>x.Event == e) with | some x=>x.To | none=>-1:=by
  unfold Qfr outP; rw [List.find?_filter]
  have:(fun x:Qe=>decide ((x.From == s) = true∧(x.Event == e) = true)) = fun x=>x.From == s && x.Event == e:=by
   funext x; rw [Bool.eq_iff_iff]; simp
  rw [this]
 rw [hf]
 generalize outP a s = l at hl
 have hi:Qe0 l (fun a6=>Qhg a6 e) = some (if ∃ x∈l,x.Event = e then (l.findIdx (fun x=>x.Event == e):Int) else -1):=by
  have hb:l.length < 1000000000000:=hl
  unfold Qe0 Qby
  refine (Qng (len:=l.length) (fun k=>some (if ∃ x∈l.drop k,x.Event = e then ((k + (l.drop k).findIdx (fun x=>x.Event == e):Nat):Int) else -1)) (by unfold Qb6; omega) ?_ ?_).trans (by simp)
  ·intro k i hi ih
   rw [if_pos (by omega),Qcn hi,Qcb (by omega),ih,List.drop_eq_getElem_cons hi]
   simp only [Option.bind_some,Qhg,Qcy,List.findIdx_cons]
   by_cases hx:l[i].Event = e
   ·have hxb:(l[i].Event == e) = true:=by simp [hx]
    have hz:∃ x∈l[i] :: l.drop (i + 1),x.Event = e:=⟨l[i],List.mem_cons_self,hx⟩
    simp only [hxb,if_true,if_pos hz,cond_true]; rfl
   ·have hxb:(l[i].Event == e) = false:=by simp [hx]
    by_cases hy:∃ x∈l.drop (i + 1),x.Event = e
    ·have hz:∃ x∈l[i] :: l.drop (i + 1),x.Event = e:=by obtain ⟨x,k1,k2⟩:=hy; exact ⟨x,List.mem_cons_of_mem _ k1,k2⟩
     simp only [hxb,Bool.false_eq_true,if_false,if_pos hy,if_pos hz,cond_false]
     have:∀ n:Nat,i + 1 + n = i + (n + 1):=fun n=>by omega
     rw [this]
    ·have hz:¬ ∃ x∈l[i] :: l.drop (i + 1),x.Event = e:=by
      rintro ⟨x,k1,k2⟩
      rcases List.mem_cons.1 k1 with rfl | k1
      ·exact hx k2
      ·exact hy ⟨x,k1,k2⟩
     simp only [hxb,Bool.false_eq_true,if_false,if_neg hy,if_neg hz,cond_false]
  ·intro k; simp
 rw [hi]
 simp only [Option.bind_some]
 by_cases hx:∃ x∈l,x.Event = e
 ·rw [if_pos hx,if_neg (by omega)]
  have hlt:l.findIdx (fun x=>x.Event == e) < l.length:=by
   rw [List.findIdx_lt_length]; obtain ⟨x,k1,k2⟩:=hx; exact ⟨x,k1,by simp [k2]⟩
  rw [Qcn hlt]
  simp only [Option.bind_some]
  rw [show l.find? (fun x=>x.Event == e) = some l[l.findIdx (fun x=>x.Event == e)] from by
   rw [List.find?_eq_some_iff_getElem]
   refine ⟨List.findIdx_getElem (w:=hlt),_,hlt,rfl,fun j hj=>?_⟩
   have:=List.not_of_lt_findIdx hj
   simpa using this]
 ·rw [if_neg hx,if_pos (by omega)]
  rw [show l.find? (fun x=>x.Event == e) = none from List.find?_eq_none.2 fun x hx' hy=>hx ⟨x,hx',by simpa using hy⟩]
omit h in
theorem Qbeg {s e:Int}:Qcd a s e = some (Qfr a s e):=by
 have hb:a.Edges.length < 1000000000000:=hs.2.2
 unfold Qcd Qbf
 refine (Qng (len:=a.Edges.length) (fun k=>some (match (a.Edges.drop k).find? (fun x=>x.From == s && x.Event == e) with | some x=>x.To | none=>-1)) (by unfold Qb6; omega) ?_ ?_).trans (by simp [Qfr])
 ·intro k i hi ih
  rw [if_pos (by omega),Qcn hi,Qcb (by omega),ih,List.drop_eq_getElem_cons hi]
  simp only [Option.bind_some,List.find?_cons]
  cases h1:a.Edges[i].From == s <;> cases h2:a.Edges[i].Event == e <;> simp [h1,h2]
 ·intro k; simp
end
theorem Qbcz {a:Qb} (h:Right a) (s e:Int):Qfr a s e = -1∨0≤Qfr a s e∧Qfr a s e < a.States∧0≤s∧s < a.States∧e∈a.Alphabet:=by
 unfold Qfr
 split
 ·rename_i x hx
  have hm:=List.mem_of_find?_eq_some hx
  have hp:=List.find?_some hx
  obtain ⟨k1,k2,k3,k4,k5⟩:=h.ed0 x hm
  simp at hp
  exact .inr ⟨k3,k4,by omega,by omega,hp.2 ▸ k5⟩
 ·exact .inl rfl
theorem Q3o {a:Qb} (h:Right a) {s e:Int}:0≤Qfr a s e↔∃ x∈outP a s,x.Event = e:=by
 unfold Qfr outP
 split
 ·rename_i x hx
  have hm:=List.mem_of_find?_eq_some hx
  have hp:=List.find?_some hx
  simp at hp
  refine ⟨fun _=>⟨x,by simp [hm,hp.1],hp.2⟩,fun _=>(h.ed0 x hm).2.2.1⟩
 ·rename_i hx
  have:=List.find?_eq_none.1 hx
  refine ⟨fun h=>by omega,?_⟩
  rintro ⟨x,h1,h2⟩
  simp at h1
  exact absurd (by simp [h1.2,h2]) (this x h1.1)
theorem Qq0 {a:Qb} (h:Right a) (s:Int):(outP a s).map (·.Event) = a.Alphabet.filter fun e=>decide (0≤Qfr a s e):=by
 refine Qbjp ?_ (h.al.filter _) fun e=>?_
 ·rw [List.pairwise_map]
  have h1:(outP a s).Pairwise Qln:=h.ed.filter _
  have h2:∀ x∈outP a s,x.From = s:=fun x hx=>by unfold outP at hx; simp at hx; exact hx.2
  exact List.Pairwise.imp_of_mem (fun {x y} hx hy hk=>by have:=h2 x hx; have:=h2 y hy; unfold Qln at hk; omega) h1
 ·simp only [List.mem_map,List.mem_filter,decide_eq_true_eq,Q3o h]
  constructor
  ·rintro ⟨x,hx,rfl⟩
   refine ⟨?_,x,hx,rfl⟩
   unfold outP at hx; simp at hx; exact (h.ed0 x hx.1).2.2.2.2
  ·rintro ⟨_,x,hx,rfl⟩; exact ⟨x,hx,rfl⟩
theorem Qus {a:Qb} (h:Right a) {s:Int} {x:Qe} (hx:x∈outP a s):Qfr a s x.Event = x.To:=by
 unfold outP at hx
 simp at hx
 unfold Qfr
 split
 ·rename_i y hy
  have hm:=List.mem_of_find?_eq_some hy
  have hp:=List.find?_some hy
  simp at hp
  have:x = y:=by
   rcases Classical.em (x = y) with e | hne
   ·exact e
   ·exfalso
    have hk:Qln x y∨Qln y x:=by
     have:=List.pairwise_iff_getElem.1 h.ed
     obtain ⟨i,hi,rfl⟩:=List.getElem_of_mem hx.1
     obtain ⟨j,hj,rfl⟩:=List.getElem_of_mem hm
     rcases Nat.lt_trichotomy i j with hij | hij | hij
     ·exact .inl (this i j hi hj hij)
     ·subst hij; exact absurd rfl hne
     ·exact .inr (this j i hj hi hij)
    unfold Qln at hk; omega
  rw [this]
 ·rename_i hn
  exact absurd (by simp [hx.2]) (List.find?_eq_none.1 hn x hx.1)
end Go.Abs
end
section
namespace Go.Abs
open Go
theorem Right.small {a:Qb} (h:Right a):small a∧a.Alphabet.length≤32∧a.Marked.length≤4096∧a.Edges.length≤131072:=by
 have h1:=Qg0 h.al h.al0
 have h2:=Qg0 h.ma h.ma0
 have h3:(a.Edges.map fun x=>x.From * 32 + x.Event).Pairwise (· < ·):=by
  rw [List.pairwise_map]
  refine List.Pairwise.imp_of_mem (fun {x y} hx hy hk=>?_) h.ed
  have:=h.al0 _ (h.ed0 x hx).2.2.2.2
  have:=h.al0 _ (h.ed0 y hy).2.2.2.2
  unfold Qln at hk; omega
 have h4:=Qg0 (a:=0) (b:=131072) h3 (by
  intro z hz
  obtain ⟨x,hx,rfl⟩:=List.mem_map.1 hz
  have:=h.al0 _ (h.ed0 x hx).2.2.2.2
  have:=h.ed0 x hx
  have:=h.st
  omega)
 rw [List.length_map] at h4
 have:=h.st
 refine ⟨⟨?_,?_,?_⟩,?_,?_,?_⟩ <;> (try unfold big) <;> omega
theorem Qbc0 {a:Qb} (h:Right a):Qcp a = some 0:=by rw [Qbiw h.small.1,Qbgr.2 h]
theorem Qbl4 {α β:Type} {l:List α} {f:α→Option β} {fuel:Nat} (hl:l.length < big) (hf:l.length < fuel) {F:(List β×Int→Option (List β))→List β×Int→Option (List β)}
  (hF:∀ (k:List β×Int→Option (List β)) (acc:List β) (n:Nat) (h:n < l.length),acc.length≤n→F k (acc,(n:Int)) = k (acc ++ (f l[n]).toList,IntKind.wrap .i64 ((n:Int) + 1)))
  (hlast:∀ (k:List β×Int→Option (List β)) (acc:List β),F k (acc,(l.length:Int)) = some acc):Qcl F fuel ([],0) = some (l.filterMap f):=by
 have hb:l.length < 1000000000000:=hl
 refine (Qiz (len:=l.length) (fun n (acc:List β)=>(acc,(n:Int))) (fun n acc=>acc.length≤n) (fun n acc=>some (acc ++ (l.drop n).filterMap f)) ?_ ?_ fuel 0 [] (Nat.zero_le _) (by omega) (Nat.le_refl _)).trans (by simp)
 ·intro k n acc hn hi ih
  have hlen:(f l[n]).toList.length≤1:=by cases f l[n] <;> simp
  rw [hF k acc n hn hi,Qcb (by omega),ih _ (by simp only [List.length_append]; omega),List.drop_eq_getElem_cons hn]
  rw [List.filterMap_cons]
  cases f l[n] <;> simp only [Option.toList_none,Option.toList_some,List.append_nil,List.append_assoc,List.cons_append,List.nil_append]
 ·intro k acc _; rw [hlast]; simp
end Go.Abs
end
section
namespace Go.Abs
open Go
def ins (o:List Int) (t:Int):List Int:=if t∈o then o else o ++ [t]
def Qbbc (a:Qb) (s:Int):List Int:=(outP a s).map (·.To)
def bfs (a:Qb):Nat→Nat→List Int→List Int
 | 0,_,o=>o
 | fuel + 1,i,o=>match o[i]? with
  | some s=>bfs a fuel (i + 1) ((Qbbc a s).foldl ins o)
  | none=>o
def Qnh (a:Qb):List Int:=bfs a (a.States.toNat + 1) 0 (if 0 < a.States then [0] else [])
structure Fnd (a:Qb) (o:List Int):Prop where
 nd:o.Nodup
 rg:∀ s∈o,0≤s∧s < a.States
theorem Fnd.len {a:Qb} {o:List Int} (h:Fnd a o):o.length≤a.States.toNat:=by
 have hO:Go.Sort.SWO Qfm:=⟨fun x=>by simp [Qfm],fun x y z h1 h2=>by simp [Qfm] at *; omega,fun x y z h1 h2=>by simp [Qfm] at *; omega⟩
 have hp:=Qjh Qfm o
 have hs:=Qle hO o
 have hn:(Qiv Qfm o).Nodup:=(hp.nodup_iff).2 h.nd
 have hlt:(Qiv Qfm o).Pairwise (· < ·):=by
  have:(Qiv Qfm o).Pairwise fun x y=>Qfm y x = false∧x≠y:=hs.and hn
  exact this.imp fun ⟨h1,h2⟩=>by simp [Qfm] at h1; omega
 have:=Qg0 hlt (a:=0) (b:=a.States) fun x hx=>h.rg x (hp.mem_iff.1 hx)
 rw [Qld] at this
 simpa using this
theorem Qbht {o:List Int} {t x:Int}:x∈ins o t↔x∈o∨x = t:=by
 unfold ins; split
 ·rename_i h; constructor
  ·exact .inl
  ·rintro (h' | rfl)
   ·exact h'
   ·exact h
 ·simp
theorem Qbo7 (o:List Int) (t:Int):o <+: ins o t:=by
 unfold ins; split
 ·exact List.prefix_refl o
 ·exact List.prefix_append o [t]
theorem Fnd.ins {a:Qb} {o:List Int} (h:Fnd a o) {t:Int} (ht:0≤t∧t < a.States):Fnd a (ins o t):=by
 refine ⟨?_,fun s hs=>?_⟩
 ·unfold Go.Abs.ins; split
  ·exact h.nd
  ·rename_i hn
   rw [List.nodup_append]
   exact ⟨h.nd,by simp,fun x hx y hy=>by simp at hy; subst hy; exact fun e=>hn (e ▸ hx)⟩
 ·rcases Qbht.1 hs with hs | rfl
  ·exact h.rg s hs
  ·exact ht
theorem Qbc1 {a:Qb}:∀ {ts o:List Int},Fnd a o→(∀ t∈ts,0≤t∧t < a.States)→Fnd a (ts.foldl ins o)∧o <+: ts.foldl ins o∧(∀ t∈ts,t∈ts.foldl ins o)∧∀ x∈ts.foldl ins o,x∈o∨x∈ts
 | [],o,h,_=>⟨h,List.prefix_refl o,by simp,fun x hx=>.inl hx⟩
 | t :: ts,o,h,ht=>by
  obtain ⟨h1,h2,h3,h4⟩:=Qbc1 (ts:=ts) (h.ins (ht t (by simp))) fun t ht'=>ht t (by simp [ht'])
  refine ⟨h1,(Qbo7 o t).trans h2,fun x hx=>?_,fun x hx=>?_⟩
  ·rcases List.mem_cons.1 hx with rfl | hx
   ·exact h2.subset (Qbht.2 (.inr rfl))
   ·exact h3 x hx
  ·rcases h4 x hx with h5 | h5
   ·rcases Qbht.1 h5 with h6 | rfl
    ·exact .inl h6
    ·exact .inr (by simp)
   ·exact .inr (by simp [h5])
theorem Qbc2 {a:Qb} (h:Right a) (s:Int):∀ t∈Qbbc a s,0≤t∧t < a.States:=by
 intro t ht
 unfold Qbbc outP at ht
 obtain ⟨x,hx,rfl⟩:=List.mem_map.1 ht
 have:=h.ed0 x ((List.mem_filter.1 hx).1)
 omega
theorem Qut {α:Type} {l m:List α} (h:l <+: m) {i:Nat} {x:α} (hx:l[i]? = some x):m[i]? = some x:=by
 obtain ⟨t,rfl⟩:=h
 have:=(List.getElem?_eq_some_iff.1 hx).1
 rw [List.getElem?_append_left this]; exact hx
theorem Qbix {a:Qb} (h:Right a):∀ (fuel i:Nat) (o:List Int),Fnd a o→i≤o.length→a.States.toNat + 1≤fuel + i→(∀ j s,j < i→o[j]? = some s→∀ t∈Qbbc a s,t∈o) →
  Fnd a (bfs a fuel i o)∧o <+: bfs a fuel i o∧∀ s∈bfs a fuel i o,∀ t∈Qbbc a s,t∈bfs a fuel i o
 | 0,i,o,hf,hi,hfu,_=>by have:=hf.len; omega
 | fuel + 1,i,o,hf,hi,hfu,hc=>by
  unfold bfs
  cases hg:o[i]? with
  | none =>
   dsimp only
   refine ⟨hf,List.prefix_refl o,fun s hs t ht=>?_⟩
   obtain ⟨j,hj⟩:=List.getElem?_of_mem hs
   have hlt:=(List.getElem?_eq_some_iff.1 hj).1
   exact hc j s (by have:=List.getElem?_eq_none_iff.1 hg; omega) hj t ht
  | some s =>
   dsimp only
   obtain ⟨h1,h2,h3,_⟩:=Qbc1 hf (Qbc2 h s)
   have hlen:i < o.length:=(List.getElem?_eq_some_iff.1 hg).1
   have hle:=h2.length_le
   obtain ⟨k1,k2,k3⟩:=Qbix h fuel (i + 1) ((Qbbc a s).foldl ins o) h1 (by omega) (by omega) (fun j s' hj hs' t ht=>by
    by_cases hji:j < i
    ·have hjl:j < o.length:=by omega
     have:o[j]? = some s':=by
      have:=Qut h2 (List.getElem?_eq_getElem hjl)
      rw [hs'] at this; rw [List.getElem?_eq_getElem hjl]; exact this.symm
     exact h2.subset (hc j s' hji this t ht)
    ·obtain rfl:j = i:=by omega
     have:=Qut h2 hg
     rw [hs'] at this; cases this
     exact h3 t ht)
   exact ⟨k1,h2.trans k2,k3⟩
theorem Qbas {a:Qb} (h:Right a):Fnd a (Qnh a)∧(if 0 < a.States then [0] else []) <+: Qnh a∧∀ s∈Qnh a,∀ t∈Qbbc a s,t∈Qnh a :=
 Qbix h _ 0 _ ⟨by split <;> simp,fun s hs=>by split at hs <;> simp at hs; subst hs; omega⟩ (Nat.zero_le _) (by omega) fun j s hj=>by omega
def Q6q (m:List Int):Nat→List Int→List Int
 | _,[]=>[]
 | i,s :: t=>(if s∈m then [(i:Int)] else []) ++ Q6q m (i + 1) t
def rowP (a:Qb) (F:List Int) (i:Nat) (s:Int):List Qe:=(outP a s).map fun x=>⟨(i:Int),x.Event,(F.idxOf x.To:Int)⟩
def Quu (a:Qb) (F:List Int):Nat→List Int→List Qe
 | _,[]=>[]
 | i,s :: t=>rowP a F i s ++ Quu a F (i + 1) t
def Qrq (a:Qb):Qb:=⟨a.Alphabet,((Qnh a).length:Int),Q6q a.Marked 0 (Qnh a),Quu a (Qnh a) 0 (Qnh a)⟩
theorem Q3p {m:List Int}:∀ {l:List Int} {i:Nat},∀ x∈Q6q m i l,(i:Int)≤x∧x < (i + l.length:Nat)
 | [],i,x,hx=>by simp [Q6q] at hx
 | s :: t,i,x,hx=>by
  simp only [Q6q,List.mem_append] at hx
  rcases hx with hx | hx
  ·split at hx <;> simp at hx
   subst hx; simp only [List.length_cons]; omega
  ·have:=Q3p x hx; simp only [List.length_cons]; omega
theorem Q9m {m:List Int}:∀ {l:List Int} {i:Nat},(Q6q m i l).Pairwise (· < ·)
 | [],i=>.nil
 | s :: t,i=>by
  simp only [Q6q]
  rw [List.pairwise_append]
  refine ⟨by split <;> simp,Q9m,fun x hx y hy=>?_⟩
  have:=Q3p y hy
  split at hx <;> simp at hx
  omega
theorem Q8d {a:Qb} {F:List Int}:∀ {l:List Int} {i:Nat},∀ x∈Quu a F i l,(i:Int)≤x.From∧x.From < (i + l.length:Nat)∧∃ s∈l,∃ y∈outP a s,x.Event = y.Event∧x.To = (F.idxOf y.To:Int)
 | [],i,x,hx=>by simp [Quu] at hx
 | s :: t,i,x,hx=>by
  simp only [Quu,List.mem_append] at hx
  rcases hx with hx | hx
  ·obtain ⟨y,hy,rfl⟩:=List.mem_map.1 hx
   simp only [List.length_cons]
   exact ⟨by omega,by omega,s,by simp,y,hy,rfl,rfl⟩
  ·obtain ⟨h1,h2,s',h3,h4⟩:=Q8d x hx
   simp only [List.length_cons]
   exact ⟨by omega,by omega,s',by simp [h3],h4⟩
theorem Q9n {a:Qb} (h:Right a) {F:List Int}:∀ {l:List Int} {i:Nat},(Quu a F i l).Pairwise Qln
 | [],i=>.nil
 | s :: t,i=>by
  simp only [Quu]
  rw [List.pairwise_append]
  refine ⟨?_,Q9n h,fun x hx y hy=>?_⟩
  ·unfold rowP
   rw [List.pairwise_map]
   have h1:(outP a s).Pairwise Qln:=h.ed.filter _
   have h2:∀ x∈outP a s,x.From = s:=fun x hx=>by unfold outP at hx; simp at hx; exact hx.2
   exact List.Pairwise.imp_of_mem (fun {x y} hx hy hk=>by have:=h2 x hx; have:=h2 y hy; unfold Qln at hk; exact .inr ⟨rfl,by show x.Event < y.Event; omega⟩) h1
  ·obtain ⟨z,_,rfl⟩:=List.mem_map.1 hx
   have:=(Q8d y hy).1
   unfold Qln; simp only; omega
theorem Qbgt {a:Qb} (h:Right a):Right (Qrq a):=by
 obtain ⟨h1,h2,h3⟩:=Qbas h
 have hl:=h1.len
 have hst:=h.st
 refine ⟨h.al0,h.al,⟨by simp only [Qrq]; omega,by simp only [Qrq]; omega⟩,fun x hx=>?_,Q9m,fun x hx=>?_,Q9n h⟩
 ·have:=Q3p x hx; simp only [Qrq]; omega
 ·obtain ⟨k1,k2,s,hs,y,hy,k3,k4⟩:=Q8d x hx
  have hy' : y.To∈Qnh a:=h3 s hs y.To (List.mem_map.2 ⟨y,hy,rfl⟩)
  have:=List.idxOf_lt_length_iff.2 hy'
  simp only [Qrq]
  refine ⟨by omega,by omega,by omega,by omega,?_⟩
  rw [k3]
  unfold outP at hy
  exact (h.ed0 y ((List.mem_filter.1 hy).1)).2.2.2.2
end Go.Abs
end
section
namespace Go.Abs
open Go
theorem Qbiy {l:List Int} (hl:l.length≤lim):Qeh l = some ⟨l,0,[],[]⟩:=by
 unfold Qeh Q9
 rw [Qdv (by simpa using hl)]; rfl
theorem Qbhu {l:List Int} {v:Int} (hl:l.length < big):Qei l v = some (if v∈l then (l.idxOf v:Int) else -1):=by
 have hb:l.length < 1000000000000:=hl
 unfold Qei Qb9
 refine (Qng (len:=l.length) (fun k=>some (if v∈l.drop k then ((k + (l.drop k).idxOf v:Nat):Int) else -1)) (by unfold Qb6; omega) ?_ ?_).trans (by simp)
 ·intro k i hi ih
  rw [if_pos (by omega),Qcn hi,Qcb (by omega),ih,List.drop_eq_getElem_cons hi]
  simp only [Option.bind_some,List.mem_cons,List.idxOf_cons]
  by_cases h:v = l[i]
  ·simp [← h]
  ·have h' : ¬ l[i] = v:=fun e=>h e.symm
   have hbq:(l[i] == v) = false:=by simp [h']
   by_cases h2:v∈l.drop (i + 1) <;> simp [h,h2,hbq]
   omega
 ·intro k; simp
theorem Qba4 {a:Qb} (h:Right a) (s:Int):Qbbc a s = (a.Alphabet.filter fun e=>decide (0≤Qfr a s e)).map (Qfr a s):=by
 rw [← Qq0 h,List.map_map]
 unfold Qbbc
 exact List.map_congr_left fun x hx=>(Qus h hx).symm
theorem Qbeh {a:Qb} (s:Int):∀ (al o:List Int),al.foldl (fun o e=>if 0≤Qfr a s e then ins o (Qfr a s e) else o) o = ((al.filter fun e=>decide (0≤Qfr a s e)).map (Qfr a s)).foldl ins o
 | [],o=>rfl
 | e :: al,o=>by
  by_cases hx:0≤Qfr a s e <;> simp [List.filter_cons,hx,Qbeh s al]
theorem Qbni {a:Qb} {fuel i:Nat} {o:List Int} (hi:i < o.length):bfs a (fuel + 1) i o = bfs a fuel (i + 1) ((Qbbc a o[i]).foldl ins o):=by
 conv=>lhs; unfold bfs
 rw [List.getElem?_eq_getElem hi]
theorem Qbo8 {a:Qb} {fuel:Nat} {o:List Int}:bfs a fuel o.length o = o:=by
 cases fuel with
 | zero=>rfl
 | succ n=>unfold bfs; simp
section
variable {a:Qb} (h:Right a)
include h
theorem Qbjq (fuel:Nat) (hfu:1099511627776≤fuel) {s:Int} {o:List Int} {i:Nat} (hf:Fnd a o) (hi:o[i]? = some s) :
  Qcl (fun k12 ((out10,k11):(List Int)×Int)=>(if (k11 < (a.Alphabet.length:Int)) then ((((getO out10 (i:Int)).bind fun x14=>((getO a.Alphabet k11).bind fun x16=>((Qcd a x14 x16).bind fun x19=>(((if (x19≥0) then ((Qc6 out10 x19).bind fun x22=>some (!x22)) else some false)).bind fun (x23:Bool)=>(if x23 then ((appO out10 [x19]).bind fun x25=>some x25) else some out10)))))).bind fun (out27:List Int)=>k12 (out27,(IntKind.wrap .i64 (k11 + 1)))) else some out10)) fuel (o,0) = some ((Qbbc a s).foldl ins o):=by
 have hs:=h.small.1
 have hst:=h.st
 have hb:a.Alphabet.length < 1000000000000:=hs.1
 rw [Qba4 h,← Qbeh]
 refine (Qiz (len:=a.Alphabet.length) (fun n (acc:List Int)=>(acc,(n:Int))) (fun n acc=>Fnd a acc∧acc[i]? = some s) (fun n acc=>some ((a.Alphabet.drop n).foldl (fun o e=>if 0≤Qfr a s e then ins o (Qfr a s e) else o) acc)) ?_ ?_ fuel 0 o (Nat.zero_le _) (by omega) ⟨hf,hi⟩).trans (by simp)
 ·intro k n acc hn ⟨k1,k2⟩ ih
  have hlen:=k1.len
  have hg:getO acc (i:Int) = some s:=by rw [Qiy]; exact ⟨by omega,by simpa using k2⟩
  dsimp only
  rw [if_pos (by omega),hg,Qcn hn]
  simp only [Option.bind_some]
  rw [Qbeg hs,Qcb (by omega)]
  simp only [Option.bind_some]
  rw [Qbl2 (by unfold big; omega),List.drop_eq_getElem_cons hn,List.foldl_cons]
  rcases Qbcz h s a.Alphabet[n] with hr | hr
  ·rw [hr]; simp only [show ¬ ((-1:Int)≥0) from by omega,show ¬ ((0:Int) ≤ -1) from by omega,if_false,Option.bind_some,Bool.false_eq_true]
   exact ih _ ⟨k1,k2⟩
  ·have hge:Qfr a s a.Alphabet[n]≥0:=hr.1
   by_cases hm:Qfr a s a.Alphabet[n]∈acc
   ·simp only [hge,hm,decide_true,Bool.not_true,if_true,Option.bind_some,Bool.false_eq_true,if_false,hr.1,ins]
    exact ih _ ⟨k1,k2⟩
   ·simp only [hge,hm,decide_false,Bool.not_false,if_true,Option.bind_some,hr.1,ins,if_false]
    rw [Qdv (by simp only [List.length_cons,List.length_nil]; unfold lim; omega)]
    simp only [Option.bind_some]
    have hi':=k1.ins (t:=Qfr a s a.Alphabet[n]) ⟨hr.1,hr.2.1⟩
    unfold ins at hi'
    rw [if_neg hm] at hi'
    exact ih _ ⟨hi',Qut (List.prefix_append acc _) k2⟩
 ·intro k acc _
  dsimp only
  rw [if_neg (by omega)]; simp
theorem Qbhv:Qfo a = some (Qnh a):=by
 have hs:=h.small.1
 have hst:=h.st
 unfold Qfo Qb8
 obtain ⟨fuel,hfu,hge⟩ : ∃ f,Qb6 = f∧1099511627776≤f:=⟨_,rfl,Nat.le_refl _⟩
 rw [hfu]
 have hloop:∀ o:List Int,Fnd a o→Qcl (fun (k8:List Int×Int→Option (List Int)) ((out6,i7):(List Int)×Int)=>(if (i7 < (out6.length:Int)) then ((Qcl (fun k12 ((out10,k11):(List Int)×Int)=>(if (k11 < (a.Alphabet.length:Int)) then ((((getO out10 i7).bind fun x14=>((getO a.Alphabet k11).bind fun x16=>((Qcd a x14 x16).bind fun x19=>(((if (x19≥0) then ((Qc6 out10 x19).bind fun x22=>some (!x22)) else some false)).bind fun (x23:Bool)=>(if x23 then ((appO out10 [x19]).bind fun x25=>some x25) else some out10)))))).bind fun (out27:List Int)=>k12 (out27,(IntKind.wrap .i64 (k11 + 1)))) else some out10)) fuel (out6,0)).bind fun (out28:List Int)=>k8 (out28,(IntKind.wrap .i64 (i7 + 1)))) else some out6)) fuel (o,0) = some (bfs a (a.States.toNat + 1) 0 o):=by
  intro o ho
  have:=Qjo (F:=fun (k8:List Int×Int→Option (List Int)) ((out6,i7):(List Int)×Int)=>(if (i7 < (out6.length:Int)) then ((Qcl (fun k12 ((out10,k11):(List Int)×Int)=>(if (k11 < (a.Alphabet.length:Int)) then ((((getO out10 i7).bind fun x14=>((getO a.Alphabet k11).bind fun x16=>((Qcd a x14 x16).bind fun x19=>(((if (x19≥0) then ((Qc6 out10 x19).bind fun x22=>some (!x22)) else some false)).bind fun (x23:Bool)=>(if x23 then ((appO out10 [x19]).bind fun x25=>some x25) else some out10)))))).bind fun (out27:List Int)=>k12 (out27,(IntKind.wrap .i64 (k11 + 1)))) else some out10)) fuel (out6,0)).bind fun (out28:List Int)=>k8 (out28,(IntKind.wrap .i64 (i7 + 1)))) else some out6))
   (fun x=>∃ i:Nat,x.2 = (i:Int)∧i≤x.1.length∧Fnd a x.1) (fun x=>a.States.toNat + 1 - x.2.toNat) (fun x r=>r = some (bfs a (a.States.toNat + 1 - x.2.toNat) x.2.toNat x.1)) (by
    rintro k ⟨o,i⟩ ⟨i,rfl,hi,hf⟩ ih
    replace hi:i≤o.length:=hi
    replace hf:Fnd a o:=hf
    have hl:=hf.len
    dsimp only
    by_cases hlt:i < o.length
    ·rw [if_pos (by omega),Qbjq h fuel hge hf (List.getElem?_eq_getElem hlt),Option.bind_some,Qcb (by omega)]
     obtain ⟨q1,q2,_,_⟩:=Qbc1 hf (Qbc2 h o[i])
     have hle:=q2.length_le
     rw [ih _ ⟨i + 1,rfl,by simp only; omega,q1⟩ (by simp only; omega)]
     simp only [Int.toNat_natCast]
     rw [show a.States.toNat + 1 - i = (a.States.toNat + 1 - (i + 1)) + 1 from by omega,Qbni hlt]
    ·rw [if_neg (by omega)]
     obtain rfl:i = o.length:=by omega
     simp only [Int.toNat_natCast,Qbo8]) fuel (o,0) ⟨0,rfl,Nat.zero_le _,ho⟩ (by simp only; omega)
  simpa using this
 by_cases h0:0 < a.States
 ·rw [if_pos (by omega),Qdv (by simp only [List.length_cons,List.length_nil]; unfold lim; omega)]
  simp only [Option.bind_some]
  rw [show ([] ++ [0]:List Int) = [0] from rfl,hloop [0] ⟨by simp,fun s hs=>by simp at hs; subst hs; omega⟩]
  simp only [Option.bind_some,Qnh,if_pos h0]
 ·rw [if_neg (by omega)]
  simp only [Option.bind_some]
  rw [hloop [] ⟨by simp,fun s hs=>by simp at hs⟩]
  simp only [Option.bind_some,Qnh,if_neg h0]
theorem Qbei (fuel:Nat) (hfu:1099511627776≤fuel) {F:List Int} (hF:Fnd a F) (hcl:∀ s∈F,∀ t∈Qbbc a s,t∈F) {s:Int} {i:Nat} (hi:F[i]? = some s) (ms:List Int) (es:List Qe) (hes:es.length≤200000) :
  Qcl (fun (k24:Int×List Qe→Option (List Int×List Qe)) ((k22,out23):Int×(List Qe))=>(if (k22 < (a.Alphabet.length:Int)) then ((((getO F (i:Int)).bind fun x26=>((getO a.Alphabet k22).bind fun x28=>((Qcd a x26 x28).bind fun x31=>(if (x31≥0) then ((getO a.Alphabet k22).bind fun x33=>((Qei F x31).bind fun x36=>((appO out23 [(Qe.mk (i:Int) x33 x36)]).bind fun x37=>some x37))) else some out23))))).bind fun (out39:List Qe)=>k24 ((IntKind.wrap .i64 (k22 + 1)),out39)) else some (ms,out23))) fuel (0,es) = some (ms,es ++ rowP a F i s):=by
 have hs:=h.small.1
 have hst:=h.st
 have hal:=h.small.2.1
 have hb:a.Alphabet.length < 1000000000000:=hs.1
 have hFl:=hF.len
 have hrow:rowP a F i s = (a.Alphabet.filter fun e=>decide (0≤Qfr a s e)).map fun e=>⟨(i:Int),e,(F.idxOf (Qfr a s e):Int)⟩:=by
  rw [← Qq0 h,List.map_map]
  unfold rowP
  exact List.map_congr_left fun x hx=>by simp only [Function.comp]; rw [Qus h hx]
 rw [hrow]
 refine (Qiz (len:=a.Alphabet.length) (fun n (acc:List Qe)=>((n:Int),acc)) (fun n acc=>acc.length≤200000 + n) (fun n acc=>some (ms,acc ++ ((a.Alphabet.drop n).filter fun e=>decide (0≤Qfr a s e)).map fun e=>⟨(i:Int),e,(F.idxOf (Qfr a s e):Int)⟩)) ?_ ?_ fuel 0 es (Nat.zero_le _) (by omega) (by omega)).trans (by simp)
 ·intro k n acc hn k1 ih
  have hg:getO F (i:Int) = some s:=by rw [Qiy]; exact ⟨by omega,by simpa using hi⟩
  dsimp only
  rw [if_pos (by omega),hg,Qcn hn]
  simp only [Option.bind_some]
  rw [Qbeg hs,Qcb (by omega)]
  simp only [Option.bind_some]
  rw [List.drop_eq_getElem_cons hn,List.filter_cons]
  by_cases hr:0≤Qfr a s a.Alphabet[n]
  ·have hm:Qfr a s a.Alphabet[n]∈F:=hcl s (List.mem_of_getElem? hi) _ (by rw [Qba4 h]; exact List.mem_map.2 ⟨_,List.mem_filter.2 ⟨List.getElem_mem hn,by simpa using hr⟩,rfl⟩)
   rw [if_pos hr,Qbhu (by unfold big; omega),if_pos hm]
   simp only [Option.bind_some]
   rw [Qdv (by simp only [List.length_cons,List.length_nil]; unfold lim; omega)]
   simp only [Option.bind_some]
   rw [ih _ (by simp only [List.length_append,List.length_cons,List.length_nil]; omega)]
   simp only [hr,decide_true,if_true,List.map_cons,List.append_assoc,List.cons_append,List.nil_append]
  ·rw [if_neg (by omega)]
   simp only [Option.bind_some]
   rw [ih _ (by omega)]
   simp only [hr,decide_false,Bool.false_eq_true,if_false]
 ·intro k acc _
  dsimp only
  rw [if_neg (by omega)]; simp
theorem Qbnj {F:List Int} {i:Nat} {s:Int}:(rowP a F i s).length≤32:=by
 have:=h.small.2.1
 have h1:(rowP a F i s).length = ((outP a s).map (·.Event)).length:=by simp [rowP]
 rw [h1,Qq0 h]
 exact Nat.le_trans (List.length_filter_le _ _) this
theorem Qbc3:Qeb a = some (Qrq a):=by
 have hs:=h.small.1
 have hst:=h.st
 have hal:=h.small.2.1
 have hb:a.Alphabet.length < 1000000000000:=hs.1
 obtain ⟨hF,_,hcl⟩:=Qbas h
 have hFl:=hF.len
 unfold Qeb Qbr
 obtain ⟨fuel,hfu,hge⟩ : ∃ f,Qb6 = f∧1099511627776≤f:=⟨_,rfl,Nat.le_refl _⟩
 rw [hfu,Qbhv h,Option.bind_some,Qbiy (by unfold lim; omega),Option.bind_some]
 unfold Qrq
 generalize Qnh a = F at hF hcl hFl
 show Option.bind (Qcl _ fuel (((0:Nat):Int),[],[],[],[],[])) _ = _
 rw [Qiz (len:=F.length) (R:=List Int×List Int×List Qe×List Int×List Qe) (fun n (acc:List Int×List Qe)=>((n:Int),([]:List Int),([]:List Int),([]:List Qe),acc.1,acc.2)) (fun n acc=>acc.1.length≤n∧acc.2.length≤32 * n)
  (fun n acc=>some (([]:List Int),([]:List Int),([]:List Qe),acc.1 ++ Q6q a.Marked n (F.drop n),acc.2 ++ Quu a F n (F.drop n))) ?_ ?_ fuel 0 ([],[]) (Nat.zero_le _) (by omega) ⟨Nat.zero_le _,Nat.zero_le _⟩]
 ·simp
 ·rintro k n ⟨ms,es⟩ hn ⟨k1,k2⟩ ih
  replace k1:ms.length≤n:=k1
  replace k2:es.length≤32 * n:=k2
  have hg:=List.getElem?_eq_getElem hn
  dsimp only
  rw [if_pos (by omega),Qcn hn]
  simp only [Option.bind_some]
  rw [Qbl2 hs.2.1]
  simp only [Option.bind_some]
  have hrl:=Qbnj h (F:=F) (i:=n) (s:=F[n])
  rw [List.drop_eq_getElem_cons hn]
  simp only [Q6q,Quu]
  by_cases hm:F[n]∈a.Marked
  ·simp only [hm,decide_true,if_true]
   rw [Qdv (by simp only [List.length_cons,List.length_nil]; unfold lim; omega)]
   simp only [Option.bind_some]
   have:=Qbei h fuel hge hF hcl hg (ms ++ [(n:Int)]) es (by omega)
   rw [Qcn hn] at this
   simp only [Option.bind_some] at this
   rw [this]
   simp only [Option.bind_some]
   rw [Qcb (by omega),ih (ms ++ [(n:Int)],es ++ rowP a F n F[n]) ⟨by simp only [List.length_append,List.length_cons,List.length_nil]; omega,by simp only [List.length_append]; omega⟩]
   simp only [List.append_assoc]
  ·simp only [hm,decide_false,Bool.false_eq_true,if_false,Option.bind_some]
   have:=Qbei h fuel hge hF hcl hg ms es (by omega)
   rw [Qcn hn] at this
   simp only [Option.bind_some] at this
   rw [this]
   simp only [Option.bind_some]
   rw [Qcb (by omega),ih (ms,es ++ rowP a F n F[n]) ⟨by simp only; omega,by simp only [List.length_append]; omega⟩]
   simp only [List.append_assoc,List.nil_append]
 ·rintro k ⟨ms,es⟩ _
  dsimp only
  rw [if_neg (by omega)]
  simp [Q6q,Quu]
end
end Go.Abs
end
section
namespace Go.Abs
open Go
structure Evs (l:List Int):Prop where
 rg:∀ x∈l,0≤x∧x < 5
 so:l.Pairwise (· < ·)
theorem Evs.len {l:List Int} (h:Evs l):l.length≤5:=by have:=Qg0 h.so h.rg; simpa using this
def Qbnk:List Int→Bool
 | []=>true
 | x :: xs=>xs.all (fun y=>decide (x < y)) && Qbnk xs
theorem Qbgu:∀ {l:List Int},Qbnk l = true→l.Pairwise (· < ·)
 | [],_=>.nil
 | x :: xs,h=>by
  simp only [Qbnk,Bool.and_eq_true,List.all_eq_true,decide_eq_true_eq] at h
  exact List.pairwise_cons.2 ⟨h.1,Qbgu h.2⟩
def evB (s:Nat):Bool:=match Qdc (s:Int) with
 | some l=>Qbnk l && l.all fun x=>decide (0≤x) && decide (x < 5)
 | none=>false
theorem Qbo9:(List.range 256).all evB = true:=by kernel_rfl
theorem Qbgv {s:Int} (h0:0≤s) (h1:s < 256):∃ l,Qdc s = some l∧Evs l:=by
 have:=List.all_eq_true.1 Qbo9 s.toNat (List.mem_range.2 (by omega))
 unfold evB at this
 rw [show ((s.toNat:Nat):Int) = s from by omega] at this
 split at this
 ·rename_i l hl
  simp only [Bool.and_eq_true,List.all_eq_true,decide_eq_true_eq] at this
  exact ⟨l,hl,fun x hx=>this.2 x hx,Qbgu this.1⟩
 ·cases this
structure Mks (n:Nat) (ms:List Int):Prop where
 rg:∀ x∈ms,0≤x∧x < n
 so:ms.Pairwise (· < ·)
structure Eds (al:List Int) (N:Int) (i k:Nat) (es:List Qe):Prop where
 rg:∀ x∈es,0≤x.From∧0≤x.To∧x.To < N∧x.Event∈al∧(x.From < i∨x.From = i∧∃ j:Nat,j < k∧al[j]? = some x.Event)
 so:es.Pairwise Qln
 ln:es.length≤5 * i + k
theorem Mks.up {n:Nat} {ms:List Int} (h:Mks n ms):Mks (n + 1) ms:=⟨fun x hx=>by have:=h.rg x hx; omega,h.so⟩
theorem Mks.add {n:Nat} {ms:List Int} (h:Mks n ms):Mks (n + 1) (ms ++ [(n:Int)]):=by
 refine ⟨fun x hx=>?_,?_⟩
 ·rcases List.mem_append.1 hx with hx | hx
  ·have:=h.rg x hx; omega
  ·simp at hx; omega
 ·rw [List.pairwise_append]
  exact ⟨h.so,by simp,fun x hx y hy=>by simp at hy; have:=h.rg x hx; omega⟩
theorem Mks.len {n:Nat} {ms:List Int} (h:Mks n ms):ms.length≤n:=by have:=Qg0 h.so h.rg; simpa using this
section
variable {al:List Int} (hal:Evs al) {N:Int} {i k:Nat} {es:List Qe}
theorem Eds.up (h:Eds al N i k es):Eds al N i (k + 1) es:=⟨fun x hx=>by
 obtain ⟨h1,h2,h3,h4,h5⟩:=h.rg x hx
 refine ⟨h1,h2,h3,h4,?_⟩
 rcases h5 with h5 | ⟨h5,j,h6,h7⟩
 ·exact .inl h5
 ·exact .inr ⟨h5,j,by omega,h7⟩,h.so,by have:=h.ln; omega⟩
theorem Eds.next (h:Eds al N i k es) (hk:k≤5):Eds al N (i + 1) 0 es:=⟨fun x hx=>by
 obtain ⟨h1,h2,h3,h4,h5⟩:=h.rg x hx
 exact ⟨h1,h2,h3,h4,.inl (by rcases h5 with h5 | ⟨h5,_⟩ <;> omega)⟩,h.so,by have:=h.ln; omega⟩
include hal in
theorem Eds.add (h:Eds al N i k es) (hk:k < al.length) {t:Int} (ht:0≤t∧t < N):Eds al N i (k + 1) (es ++ [⟨(i:Int),al[k],t⟩]):=by
 refine ⟨fun x hx=>?_,?_,by have:=h.ln; simp only [List.length_append,List.length_cons,List.length_nil]; omega⟩
 ·rcases List.mem_append.1 hx with hx | hx
  ·exact h.up.rg x hx
  ·simp at hx; subst hx
   exact ⟨by simp only; omega,ht.1,ht.2,List.getElem_mem hk,.inr ⟨rfl,k,by omega,List.getElem?_eq_getElem hk⟩⟩
 ·rw [List.pairwise_append]
  refine ⟨h.so,by simp,fun x hx y hy=>?_⟩
  simp at hy; subst hy
  obtain ⟨_,_,_,_,h5⟩:=h.rg x hx
  rcases h5 with h5 | ⟨h5,j,h6,h7⟩
  ·exact .inl h5
  ·refine .inr ⟨h5,?_⟩
   obtain ⟨h8,h9⟩:=List.getElem?_eq_some_iff.1 h7
   rw [← h9]
   exact List.pairwise_iff_getElem.1 hal.so j k h8 hk h6
end
structure Qbl5 (g:Qz):Prop where
 st:0≤g.States∧g.States < 256
 to:∀ x∈[g.To.1.1,g.To.1.2.1,g.To.1.2.2.1,g.To.1.2.2.2.1,g.To.1.2.2.2.2,g.To.2.1.1,g.To.2.1.2.1,g.To.2.1.2.2.1,g.To.2.1.2.2.2.1,g.To.2.1.2.2.2.2,g.To.2.2.1.1,g.To.2.2.1.2.1,g.To.2.2.1.2.2.1,g.To.2.2.1.2.2.2.1,g.To.2.2.1.2.2.2.2,g.To.2.2.2.1.1,g.To.2.2.2.1.2.1,g.To.2.2.2.1.2.2.1,g.To.2.2.2.1.2.2.2.1,g.To.2.2.2.1.2.2.2.2,g.To.2.2.2.2.1,g.To.2.2.2.2.2.1,g.To.2.2.2.2.2.2.1,g.To.2.2.2.2.2.2.2.1,g.To.2.2.2.2.2.2.2.2],0≤x∧x < 256
theorem Qbiz {al:List Int} (hal:Evs al) (fuel:Nat) (hfu:1099511627776≤fuel) {L:List Int} (hL:L.length = 25) (hL2:∀ x∈L,0≤x∧x < 256) {N:Int} (hN:1≤N∧N≤5) {i:Nat} (hi:(i:Int) < N) {ms:List Int} {es:List Qe} (hes:Eds al N i 0 es) :
  ∃ es',Eds al N (i + 1) 0 es' ∧ Qcl (fun (k25:Int×List Qe→Option (List Int×List Qe)) ((k23,a24):Int×(List Qe))=>(((if (k23 < (al.length:Int)) then some (decide (k23 < 5)) else some false)).bind fun (x27:Bool)=>(if x27 then ((((inO 5 (i:Int)).bind fun _=>((inO 5 k23).bind fun _=>((rowO L (Int.toNat (i:Int) * 5 + Int.toNat k23 * 1)).bind fun x31=>((remO .i64 (IntKind.wrap .i64 x31) (IntKind.wrap .i64 (N + 2))).bind fun s33=>(if (s33 < N) then ((getO al k23).bind fun x36=>((appO a24 [(Qe.mk (i:Int) x36 s33)]).bind fun x38=>some x38)) else some a24)))))).bind fun (a40:List Qe)=>k25 ((IntKind.wrap .i64 (k23 + 1)),a40)) else some (ms,a24)))) fuel (0,es) = some (ms,es'):=by
 have hl:=hal.len
 have:=Qjo (F:=fun (k25:Int×List Qe→Option (List Int×List Qe)) ((k23,a24):Int×(List Qe))=>(((if (k23 < (al.length:Int)) then some (decide (k23 < 5)) else some false)).bind fun (x27:Bool)=>(if x27 then ((((inO 5 (i:Int)).bind fun _=>((inO 5 k23).bind fun _=>((rowO L (Int.toNat (i:Int) * 5 + Int.toNat k23 * 1)).bind fun x31=>((remO .i64 (IntKind.wrap .i64 x31) (IntKind.wrap .i64 (N + 2))).bind fun s33=>(if (s33 < N) then ((getO al k23).bind fun x36=>((appO a24 [(Qe.mk (i:Int) x36 s33)]).bind fun x38=>some x38)) else some a24)))))).bind fun (a40:List Qe)=>k25 ((IntKind.wrap .i64 (k23 + 1)),a40)) else some (ms,a24))))
  (fun x=>∃ k:Nat,x.1 = (k:Int)∧k≤al.length∧Eds al N i k x.2) (fun x=>al.length - x.1.toNat) (fun _ r=>∃ es',r = some (ms,es')∧Eds al N (i + 1) 0 es') (by
   rintro kk ⟨k,es⟩ ⟨k,rfl,hk,he⟩ ih
   replace he:Eds al N i k es:=he
   replace hk:k≤al.length:=hk
   dsimp only
   by_cases hlt:k < al.length
   ·rw [if_pos (by omega)]
    simp only [Option.bind_some,show decide ((k:Int) < 5) = true from by simp; omega,if_true]
    rw [show inO 5 (i:Int) = some () from by unfold inO; rw [if_pos (by omega)],show inO 5 (k:Int) = some () from by unfold inO; rw [if_pos (by omega)]]
    simp only [Option.bind_some,Int.toNat_natCast]
    have hidx:i * 5 + k * 1 < L.length:=by omega
    have hx:=hL2 _ (List.getElem_mem hidx)
    rw [show rowO L (i * 5 + k * 1) = some L[i * 5 + k * 1] from by unfold rowO; exact List.getElem?_eq_getElem hidx]
    simp only [Option.bind_some]
    rw [Qoa (x:=L[i * 5 + k * 1]) (by omega) (by omega),Qoa (x:=N + 2) (by omega) (by omega),show remO .i64 L[i * 5 + k * 1] (N + 2) = some (L[i * 5 + k * 1].tmod (N + 2)) from by unfold remO; rw [if_neg (by omega)]]
    simp only [Option.bind_some]
    have hmod:0≤L[i * 5 + k * 1].tmod (N + 2):=Int.tmod_nonneg _ hx.1
    have hln:=he.ln
    by_cases hm:L[i * 5 + k * 1].tmod (N + 2) < N
    ·rw [if_pos hm,Qcn hlt]
     simp only [Option.bind_some]
     rw [Qdv (by simp only [List.length_cons,List.length_nil]; unfold lim; omega)]
     simp only [Option.bind_some]
     rw [Qcb (by omega)]
     exact ih _ ⟨k + 1,rfl,hlt,he.add hal hlt ⟨hmod,hm⟩⟩ (by simp only; omega)
    ·rw [if_neg hm]
     simp only [Option.bind_some]
     rw [Qcb (by omega)]
     exact ih _ ⟨k + 1,rfl,hlt,he.up⟩ (by simp only; omega)
   ·rw [if_neg (by omega)]
    exact ⟨es,rfl,he.next (by omega)⟩) fuel (0,es) ⟨0,rfl,Nat.zero_le _,hes⟩ (by simp only; omega)
 obtain ⟨es',h1,h2⟩:=this
 exact ⟨es',h2,h1⟩
theorem Qbhw {al:List Int} (hal:Evs al):Right ⟨al,0,[],[]⟩ :=
 ⟨fun x hx=>by have:=hal.rg x hx; omega,hal.so,⟨by simp,by simp⟩,by simp,.nil,by simp,.nil⟩
theorem Qbpa {al:List Int} (hal:Evs al) {g:Qz} (hg:Qbl5 g):∃ m,Right m∧m.Alphabet = al∧Qex al g = some (Qrq m)∧m.States≤5:=by
 have hl:=hal.len
 obtain ⟨hst,hto⟩:=hg
 unfold Qex Qbg
 obtain ⟨fuel,hfu,hge⟩ : ∃ f,Qb6 = f∧1099511627776≤f:=⟨_,rfl,Nat.le_refl _⟩
 rw [hfu,Qbiy (by unfold lim; omega)]
 simp only [Option.bind_some]
 by_cases h250:g.States≥250
 ·rw [if_pos h250]
  exact ⟨⟨al,0,[],[]⟩,Qbhw hal,rfl,rfl,by simp⟩
 rw [if_neg h250]
 have hL:[g.To.1.1,g.To.1.2.1,g.To.1.2.2.1,g.To.1.2.2.2.1,g.To.1.2.2.2.2,g.To.2.1.1,g.To.2.1.2.1,g.To.2.1.2.2.1,g.To.2.1.2.2.2.1,g.To.2.1.2.2.2.2,g.To.2.2.1.1,g.To.2.2.1.2.1,g.To.2.2.1.2.2.1,g.To.2.2.1.2.2.2.1,g.To.2.2.1.2.2.2.2,g.To.2.2.2.1.1,g.To.2.2.2.1.2.1,g.To.2.2.2.1.2.2.1,g.To.2.2.2.1.2.2.2.1,g.To.2.2.2.1.2.2.2.2,g.To.2.2.2.2.1,g.To.2.2.2.2.2.1,g.To.2.2.2.2.2.2.1,g.To.2.2.2.2.2.2.2.1,g.To.2.2.2.2.2.2.2.2].length = 25:=rfl
 generalize [g.To.1.1,g.To.1.2.1,g.To.1.2.2.1,g.To.1.2.2.2.1,g.To.1.2.2.2.2,g.To.2.1.1,g.To.2.1.2.1,g.To.2.1.2.2.1,g.To.2.1.2.2.2.1,g.To.2.1.2.2.2.2,g.To.2.2.1.1,g.To.2.2.1.2.1,g.To.2.2.1.2.2.1,g.To.2.2.1.2.2.2.1,g.To.2.2.1.2.2.2.2,g.To.2.2.2.1.1,g.To.2.2.2.1.2.1,g.To.2.2.2.1.2.2.1,g.To.2.2.2.1.2.2.2.1,g.To.2.2.2.1.2.2.2.2,g.To.2.2.2.2.1,g.To.2.2.2.2.2.1,g.To.2.2.2.2.2.2.1,g.To.2.2.2.2.2.2.2.1,g.To.2.2.2.2.2.2.2.2] = L at hto hL ⊢
 have hmod:0≤g.States.tmod 5∧g.States.tmod 5 < 5:=⟨Int.tmod_nonneg _ hst.1,Int.tmod_lt_of_pos _ (by omega)⟩
 have hN:1≤IntKind.wrap .i64 (1 + (IntKind.wrap .i64 (Int.tmod g.States 5)))∧IntKind.wrap .i64 (1 + (IntKind.wrap .i64 (Int.tmod g.States 5)))≤5:=by
  rw [Qoa (x:=g.States.tmod 5) (by omega) (by omega),Qoa (by omega) (by omega)]; omega
 generalize IntKind.wrap .i64 (1 + (IntKind.wrap .i64 (Int.tmod g.States 5))) = N at hN ⊢
 have hloop:=Qjo (F:=(fun (k15:Int×List Int×List Int×List Qe×Int×List Int×List Qe→Option (List Int×List Int×List Qe×Int×List Int×List Qe)) ((i8,c9,c10,c11,a12,a13,a14):Int×(List Int)×(List Int)×(List Qe)×Int×(List Int)×(List Qe))=>(if (i8 < a12) then ((((((shrO .u8 g.Marks i8).bind fun s17=>(if ((andI .u8 s17 1) == 1) then ((appO a13 [i8]).bind fun x20=>some x20) else some a13))).bind fun (a22:List Int)=>Qcl (fun k25 ((k23,a24):Int×(List Qe))=>(((if (k23 < (al.length:Int)) then some (decide (k23 < 5)) else some false)).bind fun (x27:Bool)=>(if x27 then ((((inO 5 i8).bind fun _=>((inO 5 k23).bind fun _=>((rowO L (Int.toNat i8 * 5 + Int.toNat k23 * 1)).bind fun x31=>((remO .i64 (IntKind.wrap .i64 x31) (IntKind.wrap .i64 (a12 + 2))).bind fun s33=>(if (s33 < a12) then ((getO al k23).bind fun x36=>((appO a24 [(Qe.mk i8 x36 s33)]).bind fun x38=>some x38)) else some a24)))))).bind fun (a40:List Qe)=>k25 ((IntKind.wrap .i64 (k23 + 1)),a40)) else some (a22,a24)))) fuel (0,a14))).bind fun ((a41,a42):(List Int)×(List Qe))=>k15 ((IntKind.wrap .i64 (i8 + 1)),c9,c10,c11,a12,a41,a42)) else some (c9,c10,c11,a12,a13,a14))))
  (fun x=>∃ (i:Nat) (ms:List Int) (es:List Qe),x = ((i:Int),[],[],[],N,ms,es)∧(i:Int)≤N∧Mks i ms∧Eds al N i 0 es) (fun x=>(N - x.1).toNat)
  (fun _ r=>∃ (i:Nat) (ms:List Int) (es:List Qe),r = some ([],[],[],N,ms,es)∧(i:Int) = N∧Mks i ms∧Eds al N i 0 es) (by
   rintro k _ ⟨i,ms,es,rfl,hi,hm,he⟩ ih
   dsimp only
   by_cases hlt:(i:Int) < N
   ·rw [if_pos hlt,show shrO .u8 g.Marks (i:Int) = some (g.Marks.fdiv (2 ^ (min (Int.toNat (i:Int)) (IntKind.bits .u8)))) from by unfold shrO; rw [if_neg (by omega)]]
    simp only [Option.bind_some]
    have hml:=hm.len
    by_cases hb:(andI .u8 (g.Marks.fdiv (2 ^ (min (Int.toNat (i:Int)) (IntKind.bits .u8)))) 1 == 1) = true
    ·rw [if_pos hb,Qdv (by simp only [List.length_cons,List.length_nil]; unfold lim; omega)]
     simp only [Option.bind_some]
     obtain ⟨es',h1,h2⟩:=Qbiz hal fuel hge hL hto hN hlt (ms:=ms ++ [(i:Int)]) he
     rw [h2]
     simp only [Option.bind_some]
     rw [Qcb (by omega)]
     exact ih _ ⟨i + 1,_,_,rfl,by omega,hm.add,h1⟩ (by simp only; omega)
    ·rw [if_neg hb]
     simp only [Option.bind_some]
     obtain ⟨es',h1,h2⟩:=Qbiz hal fuel hge hL hto hN hlt (ms:=ms) he
     rw [h2]
     simp only [Option.bind_some]
     rw [Qcb (by omega)]
     exact ih _ ⟨i + 1,_,_,rfl,by omega,hm.up,h1⟩ (by simp only; omega)
   ·rw [if_neg hlt]
    exact ⟨i,ms,es,rfl,by omega,hm,he⟩) fuel (0,[],[],[],N,[],[]) ⟨0,[],[],rfl,by omega,⟨by simp,.nil⟩,⟨by simp,.nil,by simp⟩⟩ (by simp only; omega)
 obtain ⟨i,ms,es,h1,h2,h3,h4⟩:=hloop
 rw [h1]
 simp only [Option.bind_some]
 have hr:Right ⟨al,N,ms,es⟩:=⟨fun x hx=>by have:=hal.rg x hx; omega,hal.so,⟨by simp only; omega,by simp only; omega⟩,fun x hx=>by have:=h3.rg x hx; simp only; omega,h3.so,fun x hx=>by
  obtain ⟨k1,k2,k3,k4,k5⟩:=h4.rg x hx
  refine ⟨k1,?_,k2,k3,k4⟩
  rcases k5 with k5 | ⟨_,j,k6,_⟩
  ·simp only; omega
  ·omega,h4.so⟩
 rw [Qbc3 hr]
 exact ⟨_,hr,rfl,rfl,by simp only; omega⟩
end Go.Abs
end
section
namespace Go.Proofs
open Go Go.Abs
theorem Qbp4 {x:Int} (h:wfI .u8 x):0≤x∧x < 256:=by
 unfold wfI at h
 simp [Lit.wf,IntKind.min,IntKind.max,IntKind.bits,IntKind.signed] at h
 omega
theorem Qbp9 {g:Qz} (h:W_26 g):Qbl5 g:=by
 unfold W_26 W_24 W_23 W_5 at h
 obtain ⟨h1,h2,⟨a1,a2,a3,a4,a5⟩,⟨b1,b2,b3,b4,b5⟩,⟨c1,c2,c3,c4,c5⟩,⟨d1,d2,d3,d4,d5⟩,⟨e1,e2,e3,e4,e5⟩⟩:=h
 refine ⟨Qbp4 h1,fun x hx=>?_⟩
 simp only [List.mem_cons,List.not_mem_nil,or_false] at hx
 rcases hx with rfl | rfl | rfl | rfl | rfl | rfl | rfl | rfl | rfl | rfl | rfl | rfl | rfl | rfl | rfl | rfl | rfl | rfl | rfl | rfl | rfl | rfl | rfl | rfl | rfl <;> exact Qbp4 (by assumption)
end Go.Proofs
end
section
namespace Go.Proofs
open Go Go.Abs
theorem Qbqk {x:Int} (h:wfI .u16 x):0≤x∧x < 65536:=by
 unfold wfI at h
 simp [Lit.wf,IntKind.min,IntKind.max,IntKind.bits,IntKind.signed] at h
 omega
end Go.Proofs
end
section
namespace Go.Abs
open Go
end Go.Abs
end
section
namespace Go.Abs
open Go
theorem Qbl6:Qfn = some true:=by kernel_rfl
end Go.Abs
end
section
namespace Go.Abs
open Go
theorem Qbnl {l:List Int} (hl:l.length≤lim):Qb2 l = some l:=by
 unfold Qb2 Q5
 rw [Qdv (by simpa using hl)]
 cases l <;> simp [nilO]
structure Num (a:Qb) (o num:List Int):Prop where
 len:num.length = a.States.toNat
 at1:∀ s:Nat,s < a.States.toNat→num[s]? = some (if (s:Int)∈o then (o.idxOf (s:Int):Int) else -1)
theorem Num.get {a:Qb} {o num:List Int} (h:Num a o num) {t:Int} (ht:0≤t∧t < a.States):getO num t = some (if t∈o then (o.idxOf t:Int) else -1):=by
 rw [Qiy]
 refine ⟨ht.1,?_⟩
 have:=h.at1 t.toNat (by omega)
 rwa [show ((t.toNat:Nat):Int) = t from by omega] at this
theorem Num.set {a:Qb} {o num:List Int} (h:Num a o num) {t:Int} (ht:0≤t∧t < a.States) (hn:t∉o):∃ num',setO num t (o.length:Int) = some num' ∧ Num a (o ++ [t]) num':=by
 refine ⟨num.set t.toNat (o.length:Int),by unfold setO; rw [if_pos ⟨ht.1,by rw [h.len]; omega⟩],by rw [List.length_set]; exact h.len,fun s hs=>?_⟩
 rw [List.getElem?_set]
 by_cases he:t.toNat = s
 ·subst he
  rw [if_pos rfl,if_pos (by rw [h.len]; omega),show ((t.toNat:Nat):Int) = t from by omega,if_pos (by simp),List.idxOf_append,if_neg hn]
  simp
 ·rw [if_neg he,h.at1 s hs]
  have hne:(s:Int)≠t:=by omega
  by_cases hm:(s:Int)∈o
  ·rw [if_pos hm,if_pos (by simp [hm]),List.idxOf_append,if_pos hm]
  ·rw [if_neg hm,if_neg (by simp [hm,hne])]
section
variable {a:Qb} (h:Right a)
include h
end
end Go.Abs
end
section
namespace Go.Abs
open Go
def runP (a:Qb):Int→Nat→List Int→Int×Int
 | s,n,[]=>(s,n)
 | s,n,e :: w=>if 0≤Qfr a s e then runP a (Qfr a s e) (n + 1) w else (s,n)
section
variable {a:Qb} (h:Right a)
include h
theorem Qbl7 {s:Int} {w:List Int} (h0 : -1000000 < s) (h1:s < 1000000) (hw:w.length < big):Qfp a s w = some (runP a s 0 w):=by
 have hs:=h.small.1
 have hst:=h.st
 have hb:w.length < 1000000000000:=hw
 unfold Qfp Qbq
 obtain ⟨fuel,hfu,hge⟩ : ∃ f,Qb6 = f∧1099511627776≤f:=⟨_,rfl,Nat.le_refl _⟩
 rw [hfu]
 refine (Qiz (len:=w.length) (fun n (s:Int)=>(s,(n:Int))) (fun n s=>-1000000 < s∧s < 1000000) (fun n s=>some (runP a s n (w.drop n))) ?_ ?_ fuel 0 s (Nat.zero_le _) (by omega) ⟨h0,h1⟩).trans (by simp)
 ·intro k n s hn ⟨k1,k2⟩ ih
  dsimp only
  rw [if_pos (by omega),Qcn hn]
  simp only [Option.bind_some]
  rw [Qbo6 h hs (by omega) (by omega)]
  simp only [Option.bind_some]
  rw [List.drop_eq_getElem_cons hn,runP]
  rcases Qbcz h s w[n] with hr | hr
  ·rw [if_pos (by omega),if_neg (by omega)]
  ·rw [if_neg (by omega),if_pos hr.1,Qcb (by omega)]
   exact ih _ ⟨by omega,by omega⟩
 ·intro k s _
  dsimp only
  rw [if_neg (by omega)]; simp [runP]
omit h in
theorem Qbc4 {w:List Int} {p:Int→Bool} {f:Int→Option Bool} (hf:∀ x,f x = some (p x)) (hw:w.length < big):Qcq w f = some (w.any p):=by
 have hb:w.length < 1000000000000:=hw
 unfold Qcq Qt Qhb Qb4
 obtain ⟨fuel,hfu,hge⟩ : ∃ f,Qb6 = f∧1099511627776≤f:=⟨_,rfl,Nat.le_refl _⟩
 rw [hfu]
 have:=Qng (F:=fun (k10:Int→Option Int) (x9:Int)=>(if (x9 < (w.length:Int)) then ((getO w x9).bind fun x12=>((f x12).bind fun x15=>(if x15 then some x9 else k10 (IntKind.wrap .i64 (x9 + 1))))) else some (-1))) (len:=w.length) (fuel:=fuel)
  (fun n=>some (if (w.drop n).any p then ((n + (w.drop n).findIdx p:Nat):Int) else -1)) (by omega) (by
   intro k n hn ih
   rw [if_pos (by omega),Qcn hn,Qcb (by omega),ih]
   simp only [Option.bind_some,hf]
   rw [List.drop_eq_getElem_cons hn]
   cases hp:p w[n] with
   | true=>simp only [List.any_cons,hp,Bool.true_or,if_true,List.findIdx_cons,cond_true,Nat.add_zero]
   | false =>
    simp only [List.any_cons,hp,Bool.false_or,List.findIdx_cons,cond_false,Bool.false_eq_true,if_false]
    rw [show n + 1 + (w.drop (n + 1)).findIdx p = n + ((w.drop (n + 1)).findIdx p + 1) from by omega]) (by intro k; simp)
 rw [this]
 simp only [Option.bind_some,List.drop_zero,Nat.zero_add]
 cases w.any p <;> simp
def genP (a:Qb) (w:List Int):Bool:=decide (0 < a.States) && (runP a 0 0 w).2 == (w.length:Int)
theorem Qbgw {w:List Int} (hw:w.length < big):Qfq a w = some (genP a w,0):=by
 have hst:=h.st
 unfold Qfq Qca Qgs Qbn
 rw [Qbc0 h,Qbl7 h (by omega) (by omega) hw]
 unfold genP
 by_cases h0:a.States = 0
 ·simp [h0]
 ·have:0 < a.States:=by omega
  simp [h0,this]
end
end Go.Abs
end
section
namespace Go.Abs
open Go
structure Like (a b:Qb) (φ:Int→Int):Prop where
 al:b.Alphabet = a.Alphabet
 st:0 < b.States↔0 < a.States
 zero:0 < a.States→φ 0 = 0
 inj:∀ s∈Qnh a,∀ t∈Qnh a,φ s = φ t→s = t
 out:∀ s∈Qnh a,outP b (φ s) = (outP a s).map fun x=>⟨φ s,x.Event,φ x.To⟩
 ma:∀ s∈Qnh a,(φ s∈b.Marked↔s∈a.Marked)
section
variable {F:List Int} {φ:Int→Int} (inj:∀ s∈F,∀ t∈F,φ s = φ t→s = t)
include inj
end
section
variable {a b:Qb} {φ:Int→Int} (ha:Right a) (hb:Right b) (h:Like a b φ)
include ha h
include hb
end
section
variable {a b:Qb} {φ:Int→Int} (ha:Right a) (hb:Right b) (h:Like a b φ)
include ha h
end
end Go.Abs
end
section
namespace Go.Abs
open Go
theorem Qbfh {α β:Type} {o:Option α} {x:α} {K:α→Option β} {r:Option β} (h:o = some x) (h2:K x = r):o.bind K = r:=by rw [h]; exact h2
theorem Qbjr {X S R α:Type} {F:(X→Option R)→X→Option R} {l:List α} {fuel:Nat} (mk:Nat→S→X) (f:S→α→S) (fin:S→Option R) (I:Nat→S→Prop)
  (step:∀ (k:X→Option R) (n:Nat) (h:n < l.length) (s:S),I n s→I (n + 1) (f s l[n])∧F k (mk n s) = k (mk (n + 1) (f s l[n]))) (last:∀ (k:X→Option R) (s:S),I l.length s→F k (mk l.length s) = fin s)
  (hf:l.length < fuel) (s0:S) (h0:I 0 s0):Qcl F fuel (mk 0 s0) = fin (l.foldl f s0):=by
 have:=Qiz (F:=F) (len:=l.length) mk I (fun n s=>fin ((l.drop n).foldl f s)) (fun k n s hn hi ih=>by
  obtain ⟨h1,h2⟩:=step k n hn s hi
  rw [h2,ih _ h1,List.drop_eq_getElem_cons hn,List.foldl_cons]) (fun k s hi=>by rw [last k s hi]; simp) fuel 0 s0 (Nat.zero_le _) (by omega) h0
 simpa using this
theorem swoI:Go.Sort.SWO Qfm:=⟨fun x=>by simp [Qfm],fun x y z h1 h2=>by simp [Qfm] at *; omega,fun x y z h1 h2=>by simp [Qfm] at *; omega⟩
theorem Qbl8 {l:List Int} (h:l.Nodup):(Qiv Qfm l).Pairwise (· < ·)∧∀ x,x∈Qiv Qfm l↔x∈l:=by
 have hp:=Qjh Qfm l
 refine ⟨?_,fun x=>hp.mem_iff⟩
 have hs:=Qle swoI l
 have hn:=(hp.nodup_iff).2 h
 exact (hs.and hn).imp fun ⟨h1,h2⟩=>by simp [Qfm] at h1; omega
inductive Rch (a:Qb) (ev fr:List Int):Int→Prop where
 | base {s:Int}:s∈fr→Rch a ev fr s
 | step {x:Qe}:Rch a ev fr x.From→x∈a.Edges→x.Event∈ev→Rch a ev fr x.To
def upto (n:Int):List Int:=(List.range n.toNat).map fun (i:Nat)=>(i:Int)
theorem Qbnm {n x:Int}:x∈upto n↔0≤x∧x < n:=by
 simp only [upto,List.mem_map,List.mem_range]
 constructor
 ·rintro ⟨i,hi,rfl⟩; omega
 ·rintro ⟨h1,h2⟩; exact ⟨x.toNat,by omega,by omega⟩
theorem Qbl9 (n:Int):(upto n).Pairwise (· < ·):=by
 unfold upto
 rw [List.pairwise_map]
 exact List.pairwise_lt_range.imp fun h=>by omega
theorem Qbnn (n:Int):(upto n).length = n.toNat:=by simp [upto]
open Classical in
noncomputable def Qbc5 (a:Qb) (fr ev:List Int):List Int:=(upto a.States).filter fun s=>decide (Rch a ev fr s)
theorem Qbhx (a:Qb) (fr ev:List Int):(Qbc5 a fr ev).Pairwise (· < ·):=(Qbl9 _).filter _
theorem Qbjs {a:Qb} {fr ev:List Int} {s:Int}:s∈Qbc5 a fr ev↔(0≤s∧s < a.States)∧Rch a ev fr s:=by
 classical
 simp only [Qbc5,List.mem_filter,Qbnm,decide_eq_true_eq]
theorem Rch.range {a:Qb} (h:Right a) {ev fr:List Int} (hf:∀ s∈fr,0≤s∧s < a.States) {s:Int} (hr:Rch a ev fr s):0≤s∧s < a.States:=by
 induction hr with
 | base hs=>exact hf _ hs
 | step _ hx _ _=>have:=h.ed0 _ hx; exact ⟨this.2.2.1,this.2.2.2.1⟩
theorem Rch.mono {a:Qb} {ev fr fr' : List Int} (hf:∀ s∈fr,Rch a ev fr' s) {s:Int} (hr:Rch a ev fr s):Rch a ev fr' s:=by
 induction hr with
 | base hs=>exact hf _ hs
 | step _ hx he ih=>exact .step ih hx he
end Go.Abs
end
section
namespace Go.Abs
open Go
def Q8e (a:Qb) (onto:List Int):List Int:=a.Alphabet.filter fun x=>decide (x∈onto)
def Qbc6 (a:Qb) (onto:List Int):List Int:=a.Alphabet.filter fun x=>!decide (x∈onto)
def Qbgx (a:Qb):List (List Qe):=(upto a.States).map (outP a)
def obsP (a:Qb) (onto:List Int):Qi:=⟨Qbgx a,Q8e a onto,Qbc6 a onto,a.Marked⟩
theorem Qbgy (a:Qb):(Qbgx a).length = a.States.toNat:=by simp [Qbgx,Qbnn]
theorem Qbgz (a:Qb) {s:Nat} (h:s < a.States.toNat):(Qbgx a)[s]? = some (outP a (s:Int)):=by
 simp only [Qbgx,upto,List.getElem?_map,List.getElem?_range h,Option.map_some]
theorem Qbno {a:Qb} {s:Int} (h:0≤s∧s < a.States):getO (Qbgx a) s = some (outP a s):=by
 rw [Qiy]
 refine ⟨h.1,?_⟩
 rw [Qbgz a (by omega)]
 congr 2; omega
theorem Qbat (onto:List Int):∀ (l k e:List Int),l.foldl (fun (s:List Int×List Int) x=>if x∈onto then (s.1 ++ [x],s.2) else (s.1,s.2 ++ [x])) (k,e) = (k ++ l.filter (fun x=>decide (x∈onto)),e ++ l.filter fun x=>!decide (x∈onto))
 | [],k,e=>by simp
 | x :: l,k,e=>by
  rw [List.foldl_cons]
  by_cases hx:x∈onto
  ·rw [if_pos hx,Qbat onto l]; simp [hx]
  ·rw [if_neg hx,Qbat onto l]; simp [hx]
theorem Qbjt {a:Qb} (h:Right a) {onto:List Int} (ho:onto.length < big):Qdy a onto = some (obsP a onto):=by
 have hs:=h.small
 have hst:=h.st
 unfold Qdy Q1
 refine Qbfh (x:=List.replicate a.States.toNat []) (by unfold mkO; rw [if_pos ⟨hst.1,by unfold lim; omega⟩]) ?_
 refine Qbfh (x:=Qbgx a) ?_ ?_
 ·refine (Qiz (len:=a.Edges.length) (fun n (c:List (List Qe))=>((n:Int),c)) (fun n c=>c.length = a.States.toNat∧∀ s:Nat,s < a.States.toNat→c[s]? = some ((a.Edges.take n).filter fun x=>x.From == (s:Int))) (fun n c=>some (Qbgx a)) ?_ ?_ Qb6 0 _ (Nat.zero_le _) (by unfold Qb6; omega) ⟨by simp,fun s hs=>by simp [hs]⟩)
  ·intro k n c hn ⟨i1,i2⟩ ih
   have he:=h.ed0 _ (List.getElem_mem hn)
   dsimp only
   rw [if_pos (by omega),Qcn hn]
   simp only [Option.bind_some]
   have hin:inO (Int.toNat a.States) a.Edges[n].From = some ():=by unfold inO; rw [if_pos ⟨he.1,by omega⟩]
   have hto:((a.Edges[n].From.toNat:Nat):Int) = a.Edges[n].From:=by omega
   have hg:getO c a.Edges[n].From = some ((a.Edges.take n).filter fun x=>x.From == a.Edges[n].From):=by
    rw [Qiy]; refine ⟨he.1,?_⟩
    rw [i2 _ (by omega),hto]
   have hfl:((a.Edges.take n).filter fun x=>x.From == a.Edges[n].From).length≤a.Edges.length:=Nat.le_trans (List.length_filter_le _ _) (by rw [List.length_take]; omega)
   rw [hin,hg]
   simp only [Option.bind_some]
   rw [Qdv (by simp only [List.length_cons,List.length_nil]; unfold lim; omega)]
   simp only [Option.bind_some]
   unfold setO
   rw [if_pos ⟨he.1,by omega⟩,Qcb (by omega)]
   simp only [Option.bind_some]
   refine ih _ ⟨by simp [i1],fun s hs=>?_⟩
   rw [List.getElem?_set,List.take_succ_eq_append_getElem hn,List.filter_append]
   split
   ·rename_i hss
    subst hss
    rw [if_pos (by omega),hto]
    simp
   ·rename_i hss
    have:¬ a.Edges[n].From = (s:Int):=by omega
    rw [i2 s hs]
    simp [this]
  ·intro k c ⟨i1,i2⟩
   dsimp only
   rw [if_neg (by omega)]
   congr 1
   refine List.ext_getElem? fun s=>?_
   by_cases hs:s < a.States.toNat
   ·rw [i2 s hs,Qbgz a hs,List.take_length]; rfl
   ·rw [List.getElem?_eq_none (by omega),List.getElem?_eq_none (by rw [Qbgy]; omega)]
 ·refine Qbfh (x:=([],[],[],[],Q8e a onto,Qbc6 a onto)) ?_ ?_
  ·refine (Qbjr (l:=a.Alphabet) (fun n (s:List Int×List Int)=>((n:Int),[],[],[],[],s.1,s.2)) (fun (s:List Int×List Int) x=>if x∈onto then (s.1 ++ [x],s.2) else (s.1,s.2 ++ [x])) (fun s=>some ([],[],[],[],s.1,s.2)) (fun n s=>s.1.length≤n∧s.2.length≤n) ?_ ?_ (by unfold Qb6; omega) ([],[]) ⟨by simp,by simp⟩).trans ?_
   ·intro k n hn s ⟨i1,i2⟩
    by_cases hx:a.Alphabet[n]∈onto
    ·rw [if_pos hx]
     refine ⟨⟨by simp; omega,by simp; omega⟩,?_⟩
     dsimp only
     rw [if_pos (by omega),Qcn hn]
     simp only [Option.bind_some]
     rw [Qjk ho]
     simp only [Option.bind_some,hx,decide_true,if_true]
     rw [Qdv (by simp only [List.length_cons,List.length_nil]; unfold lim; omega),Qcb (by omega)]
     rfl
    ·rw [if_neg hx]
     refine ⟨⟨by simp; omega,by simp; omega⟩,?_⟩
     dsimp only
     rw [if_pos (by omega),Qcn hn]
     simp only [Option.bind_some]
     rw [Qjk ho]
     simp only [Option.bind_some,hx,decide_false,Bool.false_eq_true,if_false]
     rw [Qdv (by simp only [List.length_cons,List.length_nil]; unfold lim; omega),Qcb (by omega)]
     rfl
   ·intro k s _
    dsimp only
    rw [if_neg (by omega)]
   ·rw [Qbat]; rfl
  ·dsimp only
   unfold lenO
   rw [if_pos (by rw [Qbgy])]
   rfl
end Go.Abs
end
section
namespace Go.Abs
open Go
def Qbp5 (a:Qb) (est:List Int) (e:Int):List Int:=est.flatMap fun s=>((outP a s).filter fun x=>x.Event == e).map (·.To)
noncomputable def Qbju (a:Qb) (onto est:List Int) (e:Int):List Int:=Qbc5 a (Qbp5 a est e) (Qbc6 a onto)
noncomputable def Qbp6 (a:Qb) (onto:List Int):List Int:=if a.States = 0 then [] else Qbc5 a [0] (Qbc6 a onto)
structure Sts (a:Qb) (l:List Int):Prop where
 rg:∀ s∈l,0≤s∧s < a.States
 so:l.Pairwise (· < ·)
theorem Sts.len {a:Qb} {l:List Int} (h:Sts a l):l.length≤a.States.toNat:=by
 have:=Qg0 (a:=0) (b:=a.States) h.so h.rg; omega
theorem Qbjv (a:Qb) (fr ev:List Int):Sts a (Qbc5 a fr ev):=⟨fun s hs=>(Qbjs.1 hs).1,Qbhx _ _ _⟩
theorem Qbma (a:Qb) (onto est:List Int) (e:Int):Sts a (Qbju a onto est e):=Qbjv _ _ _
theorem Qbi0 {a:Qb} (h:Right a) (onto:List Int):(Q8e a onto).length≤32:=by
 have:=h.small.2.1
 have:(Q8e a onto).length≤a.Alphabet.length:=List.length_filter_le _ _
 omega
theorem Qbhy {a:Qb} (h:Right a) {onto obs:List Int} (hl:obs.length < big):Qc5 (obsP a onto) obs = some (obs.all fun x=>decide (x∈Q8e a onto)):=by
 have hk:=Qbi0 h onto
 unfold Qc5 Qy
 rw [Qbc4 (p:=fun x=>!decide (x∈Q8e a onto)) (fun x=>by
  unfold Qeu Qbe
  rw [show (obsP a onto).kept_ = Q8e a onto from rfl,Qjk (by unfold big; omega)]; rfl) hl]
 simp only [Option.bind_some]
 congr 1
 rw [List.not_any_eq_all_not]
 simp
theorem Qbg0 {l:List Int} {n:Int} (hl:l.length < big):Qh3 l n = some (Qfa n none l):=Q8c hl
theorem Qbmb {a:Qb} (h:small a) {ev:List Int} (hl:ev.length < big):Qdd a ev = some (if Qyo a = 0 then Qfa 32 none ev else Qyo a):=by
 unfold Qdd Qw
 rw [Qbiw h]
 simp only [Option.bind_some]
 by_cases h0:Qyo a = 0
 ·rw [if_neg (by simp [h0]),if_pos h0,Qbg0 hl]; rfl
 ·rw [if_pos (by simp [h0]),if_neg h0]
theorem Qbg1 {a:Qb} (h:Right a) {ev:List Int} (hl:ev.length < big):Qdd a ev = some (Qfa 32 none ev):=by
 rw [Qbmb h.small.1 hl,if_pos (Qbgr.2 h)]
structure EvSet (l:List Int):Prop where
 rg:∀ x∈l,0≤x∧x < 32
 so:l.Pairwise (· < ·)
theorem EvSet.err {l:List Int} (h:EvSet l):Qfa 32 none l = 0:=Qh7.2 ⟨h.rg,h.so,fun y hy=>by cases hy⟩
theorem EvSet.len {l:List Int} (h:EvSet l):l.length≤32:=by have:=Qg0 (a:=0) (b:=32) h.so h.rg; omega
theorem Evs.set {l:List Int} (h:Evs l):EvSet l:=⟨fun x hx=>by have:=h.rg x hx; omega,h.so⟩
theorem Qbmc {l:List Int} {N:Nat} (hn:l.Nodup) (hr:∀ x∈l,0≤x∧x < N):l.length≤N:=by
 obtain ⟨h1,h2⟩:=Qbl8 hn
 have:=Qg0 (a:=0) (b:=N) h1 fun x hx=>hr x ((h2 x).1 hx)
 rw [Qld] at this; omega
end Go.Abs
end
section
namespace Go.Abs
open Go
theorem Qbqh {l:List Int} {v:Int} (hl:l.length < big):Qji l v = some (decide (v∈l)):=Qbl2 hl
theorem Qbhz {α β R:Type} {F:(List β×Int→Option R)→List β×Int→Option R} {l:List α} {fuel:Nat} (p:α→Bool) (f:α→β) (fin:List β→Option R)
  (step:∀ (k:List β×Int→Option R) (n:Nat) (h:n < l.length) (s:List β),s.length≤n→F k (s,(n:Int)) = k (if p l[n] then s ++ [f l[n]] else s,((n + 1:Nat):Int)))
  (last:∀ (k:List β×Int→Option R) (s:List β),F k (s,(l.length:Int)) = fin s) (hf:l.length < fuel):Qcl F fuel ([],0) = fin ((l.filter p).map f):=by
 refine (Qiz (len:=l.length) (fun n (s:List β)=>(s,(n:Int))) (fun n s=>s = ((l.take n).filter p).map f) (fun n s=>fin ((l.filter p).map f)) ?_ ?_ fuel 0 [] (Nat.zero_le _) (by omega) (by simp))
 ·rintro k n s hn rfl ih
  rw [step k n hn _ (by rw [List.length_map]; exact Nat.le_trans (List.length_filter_le _ _) (by rw [List.length_take]; omega))]
  refine ih _ ?_
  rw [List.take_succ_eq_append_getElem hn,List.filter_append,List.map_append]
  cases hp:p l[n] <;> simp [hp]
 ·rintro k s rfl
  rw [last,List.take_length]
structure RI (a:Qb) (ev fr o:List Int):Prop where
 rch:∀ s∈o,Rch a ev fr s
 sub:∃ ad,o = fr ++ ad∧Fnd a ad
theorem RI.len {a:Qb} {ev fr o:List Int} (h:RI a ev fr o):o.length≤fr.length + a.States.toNat:=by
 obtain ⟨ad,rfl,hf⟩:=h.sub
 have:=hf.len
 rw [List.length_append]; omega
end Go.Abs
end
section
namespace Go.Abs
open Go
section
variable {a b:Qb} {φ:Int→Int} (ha:Right a) (hb:Right b) (h:Like a b φ)
include ha hb h
end
theorem Qbg2 {a:Qb} {F:List Int}:∀ (l:List Int) (i:Nat),l.Nodup→(Quu a F i l).length≤(a.Edges.filter fun x=>decide (x.From∈l)).length
 | [],i,_=>by simp [Quu]
 | s :: l,i,hn=>by
  have hn:=List.nodup_cons.1 hn
  simp only [Quu,List.length_append]
  have ih:=Qbg2 (a:=a) (F:=F) l (i + 1) hn.2
  have h1:(rowP a F i s).length = (a.Edges.filter fun x=>x.From == s).length:=by simp [rowP,outP]
  have h2:a.Edges.filter (fun x=>decide (x.From∈s :: l)) = a.Edges.filter (fun x=>x.From == s || decide (x.From∈l)):=by
   congr 1; funext x; rw [Bool.eq_iff_iff]; simp
  rw [h1,h2]
  have h3:∀ L:List Qe,(L.filter (fun x=>x.From == s)).length + (L.filter fun x=>decide (x.From∈l)).length = (L.filter (fun x=>x.From == s || decide (x.From∈l))).length:=by
   intro L
   induction L with
   | nil=>simp
   | cons x L ih =>
    by_cases hx:x.From = s
    ·have:¬ x.From∈l:=by rw [hx]; exact hn.1
     simp [hx,hn.1] at ih ⊢; omega
    ·by_cases hm:x.From∈l <;> simp [hx,hm] at ih ⊢ <;> omega
  have:=h3 a.Edges
  omega
theorem Qbjw {a:Qb} (ha:Right a):(Qrq a).States≤a.States∧(Qrq a).Edges.length≤a.Edges.length:=by
 have hF:=(Qbas ha).1
 have:=hF.len
 have hst:=ha.st
 refine ⟨by simp only [Qrq]; omega,?_⟩
 exact Nat.le_trans (Qbg2 _ _ hF.nd) (List.length_filter_le _ _)
end Go.Abs
end
section
namespace Go.Abs
open Go
theorem Sts.err {a:Qb} {l:List Int} (h:Sts a l):Qfa a.States none l = 0:=Qh7.2 ⟨h.rg,h.so,fun y hy=>by cases hy⟩
theorem Sts.big {a:Qb} (ha:Right a) {l:List Int} (h:Sts a l):l.length < big:=by have:=h.len; have:=ha.st; unfold Abs.big; omega
theorem EvSet.big {l:List Int} (h:EvSet l):l.length < big:=by have:=h.len; unfold Abs.big; omega
theorem Sts.t {a:Qb} (ha:Right a) {l:List Int} (h:Sts a l):l.length < 1000000000000:=by have:=h.len; have:=ha.st; omega
end Go.Abs
end
section
namespace Go.Abs
open Go
theorem bytes_beq (a b:ByteArray):(a == b) = decide (a = b):=by
 cases a; cases b
 rw [Bool.eq_iff_iff]
 simp only [decide_eq_true_eq,ByteArray.mk.injEq]
 exact beq_iff_eq (α:=Array UInt8)
theorem Qys {x y:Int} (hx:0≤x∧x < 256) (hy:0≤y∧y < 256) (h:x.toNat.toUInt8 = y.toNat.toUInt8):x = y:=by
 have:=congrArg UInt8.toNat h
 simp only [Nat.toUInt8,UInt8.toNat_ofNat'] at this
 omega
theorem Qba5 {r:Int} (h0:1≤r) (h1:r≤50000) :
  (r≤127∧Lib.encodeRuneZ r = [r])∨(128≤r∧r≤2047∧Lib.encodeRuneZ r = [192 + r / 64,128 + r % 64])∨(2048≤r∧Lib.encodeRuneZ r = [224 + r / 4096,128 + r / 64 % 64,128 + r % 64]):=by
 by_cases h2:r≤127
 ·exact .inl ⟨h2,Lib.encodeRuneZ_one (by omega) h2⟩
 ·by_cases h3:r≤2047
  ·exact .inr (.inl ⟨by omega,h3,Lib.encodeRuneZ_two (by omega) h3⟩)
  ·exact .inr (.inr ⟨by omega,Lib.encodeRuneZ_three (.inl ⟨by omega,by omega⟩)⟩)
theorem Qbjx {r q:Int} (hr:1≤r∧r≤50000) (hq:1≤q∧q≤50000) {s t:List UInt8} (h:Lib.encodeRune r ++ s = Lib.encodeRune q ++ t):r = q∧s = t:=by
 unfold Lib.encodeRune at h
 rcases Qba5 hr.1 hr.2 with ⟨a1,a2⟩ | ⟨a0,a1,a2⟩ | ⟨a1,a2⟩ <;> rcases Qba5 hq.1 hq.2 with ⟨b1,b2⟩ | ⟨b0,b1,b2⟩ | ⟨b1,b2⟩ <;> rw [a2,b2] at h <;>
  simp only [List.map_cons,List.map_nil,List.cons_append,List.nil_append,List.cons.injEq] at h
 ·exact ⟨Qys (by omega) (by omega) h.1,h.2⟩
 ·have:=Qys (by omega) (by omega) h.1; omega
 ·have:=Qys (by omega) (by omega) h.1; omega
 ·have:=Qys (by omega) (by omega) h.1; omega
 ·have e1:=Qys (by omega) (by omega) h.1
  have e2:=Qys (by omega) (by omega) h.2.1
  exact ⟨by omega,h.2.2⟩
 ·have:=Qys (by omega) (by omega) h.1; omega
 ·have:=Qys (by omega) (by omega) h.1; omega
 ·have:=Qys (by omega) (by omega) h.1; omega
 ·have e1:=Qys (by omega) (by omega) h.1
  have e2:=Qys (by omega) (by omega) h.2.1
  have e3:=Qys (by omega) (by omega) h.2.2.1
  exact ⟨by omega,h.2.2.2⟩
theorem Qbg3 (r:Int):Lib.encodeRune r≠[]:=by
 unfold Lib.encodeRune Lib.encodeRuneZ
 split
 ·simp
 ·split
  ·simp
  ·split
   ·simp
   ·split <;> simp
theorem Qbi1:∀ {l m:List Int},(∀ x∈l,0≤x∧x < 50000)→(∀ x∈m,0≤x∧x < 50000)→(l.flatMap fun x=>Lib.encodeRune (x + 1)) = (m.flatMap fun x=>Lib.encodeRune (x + 1))→l = m
 | [],[],_,_,_=>rfl
 | [],y :: m,_,_,h=>by
  simp only [List.flatMap_nil,List.flatMap_cons] at h
  exact absurd (List.append_eq_nil_iff.1 h.symm).1 (Qbg3 _)
 | x :: l,[],_,_,h=>by
  simp only [List.flatMap_nil,List.flatMap_cons] at h
  exact absurd (List.append_eq_nil_iff.1 h).1 (Qbg3 _)
 | x :: l,y :: m,hl,hm,h=>by
  simp only [List.flatMap_cons] at h
  have hx:=hl x (by simp); have hy:=hm y (by simp)
  obtain ⟨h1,h2⟩:=Qbjx ⟨by omega,by omega⟩ ⟨by omega,by omega⟩ h
  rw [Qbi1 (fun z hz=>hl z (by simp [hz])) (fun z hz=>hm z (by simp [hz])) h2,show x = y from by omega]
theorem Qbi2 {l m:List Int} (hl:∀ x∈l,0≤x∧x < 50000) (hm:∀ x∈m,0≤x∧x < 50000) (h:keyB l = keyB m):l = m:=by
 unfold keyB at h
 have h:=congrArg (fun b:ByteArray=>b.data.toList) h
 simp only [List.toList_toArray] at h
 exact Qbi1 hl hm h
structure KM (S:List (List Int)) (c:List (ByteArray×Int)):Prop where
 has:∀ n,(∀ x∈n,0≤x∧x < 50000)→hasM c (keyB n) = decide (n∈S)
 get:∀ n∈S,getM c (keyB n) 0 = (S.idxOf n:Int)
 rg:∀ n∈S,∀ x∈n,0≤x∧x < 50000
theorem Qbg4 {β:Type} {v:β} {k k' : ByteArray}:∀ {m:List (ByteArray×β)},hasM (setM m k v) k' = (decide (k' = k) || hasM m k')
 | []=>by simp [setM,hasM,bytes_beq]
 | (q,w) :: m=>by
  have ih:=Qbg4 (v:=v) (k:=k) (k':=k') (m:=m)
  simp only [setM]
  by_cases h:k = q
  ·subst h
   simp only [bytes_beq,decide_true,if_true,Q1n]
   by_cases h2:k' = k <;> simp [h2,bytes_beq]
  ·simp only [bytes_beq,h,decide_false,Bool.false_eq_true,if_false,Q1n]
   rw [ih]
   cases decide (k' = q) <;> cases decide (k' = k) <;> rfl
theorem Qbg5 {β:Type} {z v:β} {k k' : ByteArray}:∀ {m:List (ByteArray×β)},getM (setM m k v) k' z = if k' = k then v else getM m k' z
 | []=>by simp [setM,getM,bytes_beq]
 | (q,w) :: m=>by
  have ih:=Qbg5 (z:=z) (v:=v) (k:=k) (k':=k') (m:=m)
  simp only [setM]
  by_cases h:k = q
  ·subst h
   simp only [bytes_beq,decide_true,if_true,getM]
   by_cases h2:k' = k
   ·subst h2; simp
   ·simp [h2]
  ·simp only [bytes_beq,h,decide_false,Bool.false_eq_true,if_false,getM]
   by_cases h2:k' = q
   ·subst h2
    have:¬ k' = k:=fun e=>h e.symm
    simp [this]
   ·simp only [h2,decide_false,Bool.false_eq_true,if_false,ih]
theorem KM.add {S:List (List Int)} {c:List (ByteArray×Int)} (h:KM S c) {n:List Int} (hn:∀ x∈n,0≤x∧x < 50000) (hm:n∉S):KM (S ++ [n]) (setM c (keyB n) (S.length:Int)):=by
 refine ⟨fun m hm'=>?_,fun m hm'=>?_,fun m hm'=>?_⟩
 ·rw [Qbg4,h.has m hm',← Bool.decide_or]
  apply decide_eq_decide.2
  rw [List.mem_append,List.mem_singleton]
  constructor
  ·rintro (e | e)
   ·exact .inr (Qbi2 hm' hn e)
   ·exact .inl e
  ·rintro (e | e)
   ·exact .inr e
   ·exact .inl (by rw [e])
 ·rw [Qbg5]
  rw [List.mem_append,List.mem_singleton] at hm'
  rcases hm' with hm' | rfl
  ·rw [if_neg (fun e=>hm (by rw [← Qbi2 (h.rg m hm') hn e]; exact hm')),h.get m hm',List.idxOf_append,if_pos hm']
  ·rw [if_pos rfl,List.idxOf_append,if_neg hm]; simp
 ·rw [List.mem_append,List.mem_singleton] at hm'
  rcases hm' with hm' | rfl
  ·exact h.rg m hm'
  ·exact hn
end Go.Abs
end
section
namespace Go.Abs
open Go
def insL (o:List (List Int)) (t:List Int):List (List Int):=if t∈o then o else o ++ [t]
noncomputable def Qbpb (a:Qb) (onto est:List Int) (l:List Int):List (Int×List Int):=l.filterMap fun x=>if Qbju a onto est x = [] then none else some (x,Qbju a onto est x)
def Qbmd (S:List (List Int)) (row:List (Int×List Int)):List (List Int):=row.foldl (fun o p=>insL o p.2) S
theorem Qbnp {o:List (List Int)} {t x:List Int}:x∈insL o t↔x∈o∨x = t:=by
 unfold insL; split
 ·rename_i h
  exact ⟨.inl,fun e=>e.elim id fun e=>by rw [e]; exact h⟩
 ·simp
theorem Qbjy {o:List (List Int)} (h:o.Nodup) (t:List Int):(insL o t).Nodup:=by
 unfold insL; split
 ·exact h
 ·rename_i hn
  rw [List.nodup_append]
  exact ⟨h,by simp,fun x hx y hy e=>by simp at hy; subst hy; subst e; exact hn hx⟩
theorem Qbc7:∀ (row:List (Int×List Int)) {S:List (List Int)},S.Nodup→(Qbmd S row).Nodup
 | [],S,h=>h
 | p :: row,S,h=>Qbc7 row (Qbjy h p.2)
theorem Qbg6:∀ (row:List (Int×List Int)) (S:List (List Int)) (x:List Int),x∈Qbmd S row↔x∈S∨∃ p∈row,p.2 = x
 | [],S,x=>by simp [Qbmd]
 | p :: row,S,x=>by
  show x∈Qbmd (insL S p.2) row↔_
  rw [Qbg6 row,Qbnp]
  simp only [List.mem_cons,exists_eq_or_imp]
  constructor
  ·rintro ((h | h) | h)
   ·exact .inl h
   ·exact .inr (.inl h.symm)
   ·exact .inr (.inr h)
  ·rintro (h | h | h)
   ·exact .inl (.inl h)
   ·exact .inl (.inr h.symm)
   ·exact .inr h
theorem Qbme {a:Qb} {onto est l:List Int} {p:Int×List Int}:p∈Qbpb a onto est l↔p.1∈l∧p.2 = Qbju a onto est p.1∧p.2≠[]:=by
 obtain ⟨x,n⟩:=p
 simp only [Qbpb,List.mem_filterMap]
 constructor
 ·rintro ⟨y,hy,h⟩
  split at h
  ·cases h
  ·rename_i hne
   cases h; exact ⟨hy,rfl,hne⟩
 ·rintro ⟨h1,h2,h3⟩
  refine ⟨x,h1,?_⟩
  subst h2
  rw [if_neg h3]
structure Ests (a:Qb) (S:List (List Int)):Prop where
 nd:S.Nodup
 ok:∀ s∈S,Sts a s∧s≠[]
theorem Ests.grow {a:Qb} {S:List (List Int)} (h:Ests a S) (onto est l:List Int):Ests a (Qbmd S (Qbpb a onto est l)):=by
 refine ⟨Qbc7 _ h.nd,fun s hs=>?_⟩
 rcases (Qbg6 _ _ _).1 hs with hs | ⟨p,hp,rfl⟩
 ·exact h.ok s hs
 ·obtain ⟨_,h2,h3⟩:=Qbme.1 hp
  exact ⟨by rw [h2]; exact Qbma _ _ _ _,h3⟩
theorem Sts.lt {a:Qb} (h:Right a) {l:List Int} (hl:Sts a l):∀ x∈l,0≤x∧x < 50000:=fun x hx=>by
 have:=hl.rg x hx; have:=h.st; omega
end Go.Abs
end
section
namespace Go.Abs
open Go
end Go.Abs
end
section
namespace Go.Abs
open Go
def Qbp7 (b:Qb) (onto:List Int):Prop:=∀ x∈b.Edges,x.Event∉onto→x.To = x.From
section
variable {b:Qb} (hb:Right b) {onto:List Int} (hs:Qbp7 b onto)
include hb hs
end
end Go.Abs
end
section
namespace Go.Abs
open Go
structure Proj (a:Qb) (onto:List Int) (S:List (List Int)):Prop where
 es:Ests a S
 first:S[0]? = some (Qbp6 a onto)
 cl:∀ s∈S,∀ e∈Q8e a onto,Qbju a onto s e≠[]→Qbju a onto s e∈S
 form:∀ s∈S,∃ fr,(∀ t∈fr,0≤t∧t < a.States)∧s = Qbc5 a fr (Qbc6 a onto)
section
variable {a:Qb} {onto:List Int} {S:List (List Int)}
variable (h:Right a) (hP:Proj a onto S)
include h hP
end
end Go.Abs
end
section
namespace Go.Abs
open Go
end Go.Abs
end
section
namespace Go.Abs
open Go
end Go.Abs
end
section
namespace Go.Abs
open Go
def kids (a:Qb) (x:Qo):List Qo:=(outP a x.state_).map fun e=>⟨x.word_ ++ [e.Event],e.To⟩
def wq (a:Qb) (most:Int):Nat→Nat→List Qo→Option (List Qo)
 | 0,_,all=>some all
 | fuel + 1,i,all=>match all[i]? with
  | none=>some all
  | some x=>if (x.word_.length:Int) = most then some all else if (all ++ kids a x).length > 1024 then none else wq a most fuel (i + 1) (all ++ kids a x)
theorem Qbi3 {a:Qb} (h:Right a) (s:Int):(outP a s).length≤a.Alphabet.length:=by
 have:=congrArg List.length (Qq0 h s)
 rw [List.length_map] at this
 rw [this]; exact List.length_filter_le _ _
section
variable {a:Qb} (h:Right a)
include h
theorem Qbmf (fuel:Nat) (hfu:1099511627776≤fuel) {all:List Qo} {i:Nat} {x:Qo} (hx:all[i]? = some x) (hall:all.length≤2000) (hw:x.word_.length≤2000) :
  Qcl (fun k24 ((all22,x23):(List Qo)×Int)=>(if (x23 < ((outP a x.state_).length:Int)) then ((getO (outP a x.state_) x23).bind fun x26=>((getO all22 (i:Int)).bind fun x28=>((Qb2 x28.word_).bind fun x31=>((appO x31 [x26.Event]).bind fun x32=>((appO all22 [(Qo.mk x32 x26.To)]).bind fun x34=>k24 (x34,(IntKind.wrap .i64 (x23 + 1)))))))) else some all22)) fuel (all,0) = some (all ++ kids a x):=by
 have hl:=Qbi3 h x.state_
 have hsm:=h.small.2.1
 refine (Qiz (len:=(outP a x.state_).length) (fun n (acc:List Qo)=>(acc,(n:Int))) (fun n acc=>acc = all ++ ((outP a x.state_).take n).map fun e=>⟨x.word_ ++ [e.Event],e.To⟩) (fun n acc=>some (all ++ kids a x)) ?_ ?_ fuel 0 all (Nat.zero_le _) (by omega) (by simp))
 ·intro k n acc hn hi ih
  subst hi
  dsimp only
  have hg:getO (all ++ ((outP a x.state_).take n).map fun e=>(⟨x.word_ ++ [e.Event],e.To⟩ : Qo)) (i:Int) = some x:=by
   rw [Qiy]
   refine ⟨by omega,?_⟩
   have:=(List.getElem?_eq_some_iff.1 hx).1
   rw [Int.toNat_natCast,List.getElem?_append_left this]; exact hx
  rw [if_pos (by omega),Qcn hn]
  simp only [Option.bind_some]
  rw [hg]
  simp only [Option.bind_some]
  rw [Qbnl (by unfold lim; omega)]
  simp only [Option.bind_some]
  rw [Qdv (by simp only [List.length_cons,List.length_nil]; unfold lim; omega)]
  simp only [Option.bind_some]
  rw [Qdv (by simp only [List.length_cons,List.length_nil,List.length_append,List.length_map,List.length_take]; unfold lim; omega)]
  simp only [Option.bind_some]
  rw [Qcb (by omega)]
  refine ih _ ?_
  rw [List.take_succ_eq_append_getElem hn,List.map_append,List.append_assoc]; rfl
 ·intro k acc hi
  subst hi
  dsimp only
  rw [if_neg (by omega),List.take_length]; rfl
theorem Qbc8 {x y:Qo} (hy:y∈kids a x):y.word_.length = x.word_.length + 1:=by
 obtain ⟨e,_,rfl⟩:=List.mem_map.1 hy
 simp
theorem Qbjz {x y:Qo} (hy:y∈kids a x):0≤y.state_∧y.state_ < a.States:=by
 obtain ⟨e,he,rfl⟩:=List.mem_map.1 hy
 unfold outP at he
 have:=h.ed0 e (List.mem_filter.1 he).1
 simp only; omega
structure QOk (a:Qb) (i:Nat) (all:List Qo):Prop where
 le:i≤all.length
 ln:all.length≤1024
 wl:∀ x∈all,x.word_.length≤i
 sr:∀ x∈all,0≤x.state_∧x.state_ < a.States
theorem QOk.next {i:Nat} {all:List Qo} (q:QOk a i all) {x:Qo} (hx:all[i]? = some x) (hl:(all ++ kids a x).length≤1024):QOk a (i + 1) (all ++ kids a x):=by
 have hi:=(List.getElem?_eq_some_iff.1 hx).1
 have hm:=List.mem_of_getElem? hx
 refine ⟨by simp only [List.length_append]; omega,hl,fun y hy=>?_,fun y hy=>?_⟩
 ·rcases List.mem_append.1 hy with hy | hy
  ·have:=q.wl y hy; omega
  ·have:=Qbc8 h hy; have:=q.wl x hm; omega
 ·rcases List.mem_append.1 hy with hy | hy
  ·exact q.sr y hy
  ·exact Qbjz h hy
def Q6r (a:Qb) (marked:Bool) (all:List Qo):List (List Int):=(all.filter fun x=>!marked || decide (x.state_∈a.Marked)).map (·.word_)
theorem Qbh0 (fuel:Nat) (hfu:1099511627776≤fuel) (marked:Bool) {all:List Qo} (hall:all.length≤2000) (hw:∀ x∈all,x.word_.length≤2000) :
  ((Qcl (fun k41 ((l39,x40):(List (List Int))×Int)=>(if (x40 < (all.length:Int)) then ((((getO all x40).bind fun x43=>(((if marked then ((Q6 a.Marked x43.state_).bind fun x47=>some x47) else some true)).bind fun (x48:Bool)=>(if x48 then ((appO [] x43.word_).bind fun x50=>((appO l39 [x50]).bind fun x52=>some (x52,x43.word_,x43.state_))) else some (l39,x43.word_,x43.state_))))).bind fun ((l54,c55,c56):(List (List Int))×(List Int)×Int)=>k41 (l54,(IntKind.wrap .i64 (x40 + 1)))) else some l39)) fuel ([],0)).bind fun (l57:List (List Int))=>some (l57,(0:Int))) = some (Q6r a marked all,0):=by
 have hsm:=h.small.1
 have:=Qbl4 (l:=all) (f:=fun x=>if (!marked || decide (x.state_∈a.Marked)) = true then some x.word_ else none) (fuel:=fuel) (F:=fun k41 ((l39,x40):(List (List Int))×Int)=>(if (x40 < (all.length:Int)) then ((((getO all x40).bind fun x43=>(((if marked then ((Q6 a.Marked x43.state_).bind fun x47=>some x47) else some true)).bind fun (x48:Bool)=>(if x48 then ((appO [] x43.word_).bind fun x50=>((appO l39 [x50]).bind fun x52=>some (x52,x43.word_,x43.state_))) else some (l39,x43.word_,x43.state_))))).bind fun ((l54,c55,c56):(List (List Int))×(List Int)×Int)=>k41 (l54,(IntKind.wrap .i64 (x40 + 1)))) else some l39)) (by unfold big; omega) (by omega) (by
  intro k acc n hn hacc
  dsimp only
  have hwl:=hw _ (List.getElem_mem hn)
  rw [if_pos (by omega),Qcn hn]
  simp only [Option.bind_some]
  rw [Qjk hsm.2.1]
  have hb:(if marked = true then (some (decide (all[n].state_∈a.Marked))).bind (fun x47=>some x47) else some true) = some (!marked || decide (all[n].state_∈a.Marked)):=by cases marked <;> rfl
  rw [hb]
  simp only [Option.bind_some]
  by_cases hc:(!marked || decide (all[n].state_∈a.Marked)) = true
  ·rw [if_pos hc,if_pos hc,Qdv (by simp only [List.length_nil]; unfold lim; omega)]
   simp only [Option.bind_some,List.nil_append]
   rw [Qdv (by simp only [List.length_cons,List.length_nil]; unfold lim; omega)]; rfl
  ·rw [if_neg hc,if_neg hc]; simp) (by
  intro k acc
  dsimp only
  rw [if_neg (by omega)])
 refine (congrArg (fun w=>Option.bind w _) this).trans ?_
 rw [Option.bind_some]
 congr 2
 unfold Q6r
 generalize all = l
 induction l with
 | nil=>rfl
 | cons x l ih =>
  by_cases hc:(!marked || decide (x.state_∈a.Marked)) = true
  ·rw [List.filterMap_cons,List.filter_cons,if_pos hc,if_pos hc,ih]; rfl
  ·rw [List.filterMap_cons,List.filter_cons,if_neg hc,if_neg hc,ih]
theorem Qbj0 (marked:Bool) (most:Int) (fuel:Nat) (hfu:1099511627776≤fuel) (i:Nat) (all:List Qo) (q:QOk a i all) (J:List Qo→Option (List (List Int)×Int)) (hJ:∀ all:List Qo,all.length≤2000→(∀ x∈all,x.word_.length≤2000)→J all = some (Q6r a marked all,0)) :
  Qcl (fun k13 ((all11,i12):(List Qo)×Int)=>(if (i12 < (all11.length:Int)) then ((getO all11 i12).bind fun x15=>(if ((x15.word_.length:Int) == most) then J all11 else ((((getO all11 i12).bind fun x18=>((Qeg a x18.state_).bind fun x21=>Qcl (fun k24 ((all22,x23):(List Qo)×Int)=>(if (x23 < (x21.length:Int)) then ((getO x21 x23).bind fun x26=>((getO all22 i12).bind fun x28=>((Qb2 x28.word_).bind fun x31=>((appO x31 [x26.Event]).bind fun x32=>((appO all22 [(Qo.mk x32 x26.To)]).bind fun x34=>k24 (x34,(IntKind.wrap .i64 (x23 + 1)))))))) else some all22)) fuel (all11,0)))).bind fun (all36:List Qo)=>(if ((all36.length:Int) > 1024) then some ([],3) else k13 (all36,(IntKind.wrap .i64 (i12 + 1))))))) else J all11)) fuel (all,(i:Int)) =
  some (match wq a most (1025 - i) i all with | none=>([],3) | some all=>(Q6r a marked all,0)):=by
 have hsm:=h.small.1
 have hst:=h.st
 have key:=Qjo (F:=(fun (k13:List Qo×Int→Option (List (List Int)×Int)) ((all11,i12):(List Qo)×Int)=>(if (i12 < (all11.length:Int)) then ((getO all11 i12).bind fun x15=>(if ((x15.word_.length:Int) == most) then J all11 else ((((getO all11 i12).bind fun x18=>((Qeg a x18.state_).bind fun x21=>Qcl (fun k24 ((all22,x23):(List Qo)×Int)=>(if (x23 < (x21.length:Int)) then ((getO x21 x23).bind fun x26=>((getO all22 i12).bind fun x28=>((Qb2 x28.word_).bind fun x31=>((appO x31 [x26.Event]).bind fun x32=>((appO all22 [(Qo.mk x32 x26.To)]).bind fun x34=>k24 (x34,(IntKind.wrap .i64 (x23 + 1)))))))) else some all22)) fuel (all11,0)))).bind fun (all36:List Qo)=>(if ((all36.length:Int) > 1024) then some ([],3) else k13 (all36,(IntKind.wrap .i64 (i12 + 1))))))) else J all11)))
  (fun x=>∃ i:Nat,x.2 = (i:Int)∧QOk a i x.1) (fun x=>1025 - x.2.toNat) (fun x r=>∀ i:Nat,x.2 = (i:Int)→r = some (match wq a most (1025 - i) i x.1 with | none=>([],3) | some all=>(Q6r a marked all,0))) (by
   rintro k ⟨all,_⟩ ⟨i,rfl,q⟩ ih j hj
   replace q:QOk a i all:=q
   obtain rfl:i = j:=by have:(i:Int) = j:=hj; omega
   have hfin:J all = some (Q6r a marked all,0):=hJ all (by have:=q.ln; omega) fun x hx=>by have:=q.wl x hx; have:=q.le; have:=q.ln; omega
   have hle:=q.le
   have hln:=q.ln
   dsimp only
   rw [show 1025 - i = (1024 - i) + 1 from by omega]
   by_cases hlt:i < all.length
   ·have hg:=List.getElem?_eq_getElem hlt
    have hsr:=q.sr _ (List.getElem_mem hlt)
    have hwl:=q.wl _ (List.getElem_mem hlt)
    simp only [wq,hg]
    rw [if_pos (by omega),Qcn hlt]
    simp only [Option.bind_some]
    by_cases hm:(all[i].word_.length:Int) = most
    ·rw [if_pos (by simpa using hm),if_pos hm,hfin]
    ·rw [if_neg (by simpa using hm),if_neg hm,Qboa h hsm (by omega) (by omega)]
     simp only [Option.bind_some]
     rw [Qbmf h fuel hfu hg (by omega) (by omega)]
     simp only [Option.bind_some]
     by_cases hb:(all ++ kids a all[i]).length > 1024
     ·rw [if_pos (by omega),if_pos hb]
     ·rw [if_neg (by omega),if_neg hb,Qcb (by omega)]
      have:=ih (all ++ kids a all[i],((i + 1:Nat):Int)) ⟨i + 1,rfl,q.next h hg (by omega)⟩ (by simp only; omega) (i + 1) rfl
      rw [this,show 1025 - (i + 1) = 1024 - i from by omega]
   ·rw [if_neg (by omega),hfin]
    have:all[i]? = none:=List.getElem?_eq_none_iff.2 (by omega)
    simp only [wq,this]) fuel (all,(i:Int)) ⟨i,rfl,q⟩ (by simp only; omega)
 exact key i rfl
theorem Qbnq (most:Int) (marked:Bool):Qd8 a most marked = some (if most < 0∨most > 4096 then ([],(2:Int)) else if a.States = 0 then ([],0) else match wq a most 1025 0 [⟨[],0⟩] with | none=>([],3) | some all=>(Q6r a marked all,0)):=by
 have hst:=h.st
 unfold Qd8 Qbv
 obtain ⟨fuel,hfu,hge⟩ : ∃ f,Qb6 = f∧1099511627776≤f:=⟨_,rfl,Nat.le_refl _⟩
 rw [hfu,Qbc0 h,Option.bind_some,if_neg (by simp)]
 by_cases h1:most < 0∨most > 4096
 ·rw [if_pos h1]
  rcases h1 with h1 | h1
  ·simp [h1]
  ·rw [if_neg (by omega)]; simp [h1]
 ·rw [if_neg h1,if_neg (by omega)]
  simp only [Option.bind_some,show decide (most > 4096) = false from by simp; omega,Bool.false_eq_true,if_false]
  by_cases h0:a.States = 0
  ·simp [h0]
  ·rw [if_neg (by simpa using h0),if_neg h0]
   unfold letJ
   exact Qbj0 h marked most fuel hge 0 [⟨[],0⟩] ⟨by simp,by simp,by simp,by simp; omega⟩ _ fun all h1 h2=>Qbh0 h fuel hge marked h1 h2
end
end Go.Abs
end
section
namespace Go.Abs
open Go
def wt:Nat→Nat
 | 0=>781
 | 1=>156
 | 2=>31
 | 3=>6
 | _=>1
theorem Qbpc {l:Nat} (h:l < 4):wt l = 1 + 5 * wt (l + 1):=by
 match l,h with
 | 0,_=>rfl
 | 1,_=>rfl
 | 2,_=>rfl
 | 3,_=>rfl
theorem Qbp8:∀ l,1≤wt l
 | 0=>by decide
 | 1=>by decide
 | 2=>by decide
 | 3=>by decide
 | _ + 4=>Nat.le_refl 1
def wsum (l:List Qo):Nat:=(l.map fun x=>wt x.word_.length).sum
theorem Qbmg:∀ l:List Qo,l.length≤wsum l
 | []=>Nat.le_refl _
 | x :: l=>by
  have:=Qbmg l
  have:=Qbp8 x.word_.length
  unfold wsum at *
  simp only [List.map_cons,List.sum_cons,List.length_cons]; omega
theorem Qbh1 (l m:List Qo):wsum (l ++ m) = wsum l + wsum m:=by simp [wsum]
theorem Qbej {n:Nat}:∀ l:List Qo,(∀ x∈l,x.word_.length = n)→wsum l = l.length * wt n
 | [],_=>by simp [wsum]
 | x :: l,h=>by
  have ih:=Qbej l fun y hy=>h y (by simp [hy])
  unfold wsum at *
  simp only [List.map_cons,List.sum_cons,List.length_cons,h x (by simp),ih,Nat.succ_mul]; omega
theorem Qbc9 {a:Qb} {e:Int}:∀ (w:List Int) (s t:Int) (n:Nat),runP a s n w = (t,((n + w.length:Nat):Int))→runP a s n (w ++ [e]) = if 0≤Qfr a t e then (Qfr a t e,((n + w.length + 1:Nat):Int)) else (t,((n + w.length:Nat):Int))
 | [],s,t,n,h=>by
  simp only [runP,Prod.mk.injEq] at h
  obtain ⟨rfl,_⟩:=h
  simp [runP]
 | x :: w,s,t,n,h=>by
  simp only [List.cons_append,runP] at h ⊢
  by_cases h0:0≤Qfr a s x
  ·rw [if_pos h0] at h ⊢
   have:=Qbc9 (e:=e) w (Qfr a s x) t (n + 1) (by rw [h]; simp only [List.length_cons]; congr 2; omega)
   rw [this]
   simp only [List.length_cons]
   rw [show n + 1 + w.length = n + (w.length + 1) from by omega]
  ·rw [if_neg h0] at h
   have:=(Prod.mk.inj h).2
   simp only [List.length_cons] at this; omega
section
variable {a:Qb} (h:Right a) (h5:a.Alphabet.length≤5) {most:Nat} (h4:most≤4)
structure QW (a:Qb) (most i:Nat) (all:List Qo):Prop extends QOk a i all where
 ml:∀ x∈all,x.word_.length≤most
 rn:∀ x∈all,runP a 0 0 x.word_ = (x.state_,(x.word_.length:Int))
 ws:i + wsum (all.drop i)≤781
include h h5 h4
theorem QW.next {i:Nat} {all:List Qo} (q:QW a most i all) {x:Qo} (hx:all[i]? = some x) (hm:x.word_.length≠most):QW a most (i + 1) (all ++ kids a x)∧(all ++ kids a x).length≤1024:=by
 obtain ⟨hi,hxi⟩:=List.getElem?_eq_some_iff.1 hx
 have hmem:=List.mem_of_getElem? hx
 have hml:=q.ml x hmem
 have hkl:(kids a x).length≤5:=by
  have:=Qbi3 h x.state_
  simp only [kids,List.length_map]; omega
 have hws:=q.ws
 rw [List.drop_eq_getElem_cons hi,hxi] at hws
 have e1:wsum (x :: all.drop (i + 1)) = wt x.word_.length + wsum (all.drop (i + 1)):=by simp [wsum]
 rw [e1,Qbpc (by omega)] at hws
 have hk:=Qbej (n:=x.word_.length + 1) (kids a x) fun y hy=>Qbc8 h hy
 have hd:(all ++ kids a x).drop (i + 1) = all.drop (i + 1) ++ kids a x:=by rw [List.drop_append_of_le_length (by omega)]
 have hmul:(kids a x).length * wt (x.word_.length + 1)≤5 * wt (x.word_.length + 1):=Nat.mul_le_mul_right _ hkl
 have hws' : i + 1 + wsum ((all ++ kids a x).drop (i + 1))≤781:=by rw [hd,Qbh1,hk]; omega
 have hlen:(all ++ kids a x).length≤1024:=by
  have:=Qbmg ((all ++ kids a x).drop (i + 1))
  rw [List.length_drop] at this; omega
 refine ⟨⟨q.toQOk.next h hx hlen,fun y hy=>?_,fun y hy=>?_,hws'⟩,hlen⟩
 ·rcases List.mem_append.1 hy with hy | hy
  ·exact q.ml y hy
  ·have:=Qbc8 h hy; omega
 ·rcases List.mem_append.1 hy with hy | hy
  ·exact q.rn y hy
  ·obtain ⟨e,he,rfl⟩:=List.mem_map.1 hy
   have hr:=q.rn x hmem
   have hse:=Qus h he
   have he2:0≤e.To:=by unfold outP at he; exact (h.ed0 e (List.mem_filter.1 he).1).2.2.1
   have:=Qbc9 (a:=a) (e:=e.Event) x.word_ 0 x.state_ 0 (by rw [hr]; simp)
   rw [hse,if_pos he2] at this
   simp only
   rw [this]; simp
end
end Go.Abs
end
section
namespace Go.Abs
open Go
section
variable {b:Qb} (hb:Right b) {onto:List Int} (hs:Qbp7 b onto)
include hb hs
end
end Go.Abs
end
section
namespace Go.Abs
open Go
end Go.Abs
end
section
namespace Go.Abs
open Go
section
variable {a:Qb} (h:Right a) (h5:a.Alphabet.length≤5) {most:Nat} (h4:most≤4)
include h h5 h4
theorem Qbmh:∀ (f i:Nat) (all:List Qo),QW a most i all→∃ fin,wq a most f i all = some fin∧∃ j,QW a most j fin
 | 0,i,all,q=>⟨all,rfl,i,q⟩
 | f + 1,i,all,q=>by
  unfold wq
  cases hg:all[i]? with
  | none=>exact ⟨all,rfl,i,q⟩
  | some x =>
   dsimp only
   by_cases hm:x.word_.length = most
   ·rw [if_pos (by omega)]
    exact ⟨all,rfl,i,q⟩
   ·obtain ⟨q1,q2⟩:=q.next h h5 h4 hg hm
    rw [if_neg (by omega),if_neg (by omega)]
    exact Qbmh f (i + 1) _ q1
theorem Qbmi:∃ l,Qd8 a most false = some (l,0)∧l.length≤1024∧∀ w∈l,w.length≤most∧0 < a.States∧∃ t,runP a 0 0 w = (t,(w.length:Int)):=by
 rw [Qbnq h]
 rw [if_neg (by omega)]
 by_cases h0:a.States = 0
 ·rw [if_pos h0]
  exact ⟨[],rfl,by simp,by simp⟩
 ·have hst:=h.st
  rw [if_neg h0]
  obtain ⟨fin,h1,j,q⟩:=Qbmh h h5 h4 1025 0 [⟨[],0⟩] ⟨⟨by simp,by simp,by simp,by simp; omega⟩,by simp,by simp [runP],by simp [wsum,wt]⟩
  rw [h1]
  refine ⟨Q6r a false fin,rfl,?_,fun w hw=>?_⟩
  ·simp only [Q6r,List.length_map]
   exact Nat.le_trans (List.length_filter_le _ _) q.ln
  ·simp only [Q6r,List.mem_map,List.mem_filter] at hw
   obtain ⟨x,⟨hx,_⟩,rfl⟩:=hw
   exact ⟨q.ml x hx,by omega,x.state_,q.rn x hx⟩
end
def obsW (onto w:List Int):List Int:=w.filter fun e=>decide (e∈onto)
theorem Qbh2 {onto w:List Int} (ho:onto.length < big) (hw:w.length < big):Qdu onto w = some (obsW onto w):=by
 unfold Qdu Q7
 refine Qbfh (x:=obsW onto w) ?_ rfl
 rw [Qbhz (l:=w) (fun x=>decide (x∈onto)) id some ?_ ?_ (by unfold Qb6; unfold Abs.big at hw; omega)]
 ·simp [obsW]
 ·intro k n hn s hs
  unfold Abs.big at hw
  dsimp only
  rw [if_pos (by omega),Qcn hn]
  simp only [Option.bind_some]
  rw [Qbqh ho]
  simp only [Option.bind_some]
  by_cases hx:w[n]∈onto
  ·simp only [hx,decide_true,if_true]
   rw [Qdv (by simp only [List.length_cons,List.length_nil]; unfold lim; omega),Qcb (by omega)]
   rfl
  ·simp only [hx,decide_false,Bool.false_eq_true,if_false,Option.bind_some]
   rw [Qcb (by omega)]
 ·intro k s
  dsimp only
  rw [if_neg (by omega)]
theorem Qbmj {a:Qb} (h:Right a) {s e:Int} (h0:0≤Qfr a s e):∃ x∈a.Edges,x.From = s∧x.Event = e∧x.To = Qfr a s e:=by
 obtain ⟨x,hx,he⟩:=(Q3o h).1 h0
 obtain ⟨h1,h2⟩:=List.mem_filter.1 hx
 refine ⟨x,h1,by simpa using h2,he,?_⟩
 rw [← Qus h hx,he]
theorem Qbek {a:Qb} (h:Right a):∀ (w:List Int) (s t:Int) (n:Nat),runP a s n w = (t,((n + w.length:Nat):Int))→∀ e∈w,e∈a.Alphabet
 | [],_,_,_,_=>by simp
 | e :: w,s,t,n,hr=>by
  unfold runP at hr
  split at hr
  ·rename_i h0
   intro y hy
   rcases List.mem_cons.1 hy with rfl | hy
   ·obtain ⟨x,hx,_,he,_⟩:=Qbmj h h0
    rw [← he]; exact (h.ed0 x hx).2.2.2.2
   ·exact Qbek h w _ t (n + 1) (by rw [hr]; simp only [List.length_cons]; congr 1; omega) y hy
  ·have:=(Prod.mk.inj hr).2
   simp only [List.length_cons] at this; omega
section
variable {a:Qb} (h:Right a) {onto:List Int} {S:List (List Int)} (hP:Proj a onto S) (hl:S.length≤4096)
include h hP hl
end
end Go.Abs
end
section
namespace Go.Abs
open Go
theorem Q8f {X R S:Type} {F:(X→Option R)→X→Option R} (I:S→X→Prop) (m:S→Nat) (Q:S→Option R→Prop)
  (step:∀ (k:X→Option R) (s:S) (x:X),I s x→(∀ s' y,I s' y→m s' < m s→Q s' (k y))→Q s (F k x)):∀ (fuel:Nat) (s:S) (x:X),I s x→m s < fuel→Q s (Qcl F fuel x)
 | 0,_,_,_,h=>absurd h (Nat.not_lt_zero _)
 | fuel + 1,s,x,hi,h=>step _ s x hi fun s' y hy hm=>Q8f I m Q step fuel s' y hy (by omega)
theorem Qbda {κ β:Type} [DecidableEq κ] {v:β} {k k' : κ}:∀ {m:List (κ×β)},hasM (setM m k v) k' = (decide (k' = k) || hasM m k')
 | []=>by simp only [setM,hasM,List.any_cons,List.any_nil]; rw [Bool.eq_iff_iff]; simp
 | (q,w) :: m=>by
  have ih:=Qbda (v:=v) (k:=k) (k':=k') (m:=m)
  simp only [setM]
  by_cases h:k = q
  ·subst h
   simp only [beq_self_eq_true,if_true,Q1n]
   rw [Bool.eq_iff_iff]; simp
  ·have:(k == q) = false:=by simp [h]
   simp only [this,Bool.false_eq_true,if_false,Q1n]
   rw [ih]
   cases (k' == q) <;> cases decide (k' = k) <;> rfl
theorem Qbdb {κ β:Type} [DecidableEq κ] {z v:β} {k k' : κ}:∀ {m:List (κ×β)},getM (setM m k v) k' z = if k' = k then v else getM m k' z
 | []=>by
  simp only [setM,getM]
  by_cases h:k' = k
  ·subst h; simp
  ·have:(k' == k) = false:=by simp [h]
   simp [this,h]
 | (q,w) :: m=>by
  have ih:=Qbdb (z:=z) (v:=v) (k:=k) (k':=k') (m:=m)
  simp only [setM]
  by_cases h:k = q
  ·subst h
   simp only [beq_self_eq_true,if_true,getM]
   by_cases h2:k' = k
   ·subst h2; simp
   ·have:(k' == k) = false:=by simp [h2]
    simp [this,h2]
  ·have e:(k == q) = false:=by simp [h]
   simp only [e,Bool.false_eq_true,if_false,getM]
   by_cases h2:k' = q
   ·subst h2
    have:¬ k' = k:=fun e=>h e.symm
    simp [this]
   ·have:(k' == q) = false:=by simp [h2]
    simp only [this,Bool.false_eq_true,if_false,ih]
structure Qr where
 state_:Int
 done_:Int
 word_:List Int
 deriving DecidableEq
def Qdw (z:Qr):Qh:=⟨z.state_,z.done_⟩
def Q8g (onto obs:List Int) (done e:Int):Option Int:=if e∈onto then (if done = obs.length∨getO obs done≠some e then none else some (done + 1)) else some done
def addN (onto obs:List Int) (x:Qr) (L:List Qr) (y:Qe):List Qr :=
 match Q8g onto obs x.done_ y.Event with
 | none=>L
 | some d=>if (L.any fun z=>decide (Qdw z = ⟨y.To,d⟩)) then L else L ++ [⟨y.To,d,x.word_ ++ [y.Event]⟩]
def Qbg7 (a:Qb) (obs:List Int) (marked:Bool) (x:Qr):Bool:=decide (x.done_ = obs.length) && (!marked || decide (x.state_∈a.Marked))
def Q1a (a:Qb) (onto obs:List Int) (marked:Bool):Nat→Nat→List Qr→List Int×Bool
 | 0,_,_=>([],false)
 | f + 1,i,L=>match L[i]? with
  | none=>([],false)
  | some x=>if Qbg7 a obs marked x then (x.word_,true) else Q1a a onto obs marked f (i + 1) ((outP a x.state_).foldl (addN onto obs x) L)
structure Nodes (a:Qb) (n:Nat) (L:List Qr):Prop where
 rg:∀ z∈L,(0≤z.state_∧z.state_ < a.States)∧0≤z.done_∧z.done_≤n
 nd:(L.map Qdw).Nodup
 wl:∀ (j:Nat) z,L[j]? = some z→z.word_.length≤j
theorem Nodes.len {a:Qb} {n:Nat} {L:List Qr} (h:Nodes a n L):L.length≤a.States.toNat * (n + 1):=by
 have h1:((L.map Qdw).map fun p=>p.state_ * ((n:Int) + 1) + p.done_).Nodup:=by
  refine List.Pairwise.map _ (S:=fun a b=>a≠b) (fun p q h=>h) ?_
  refine List.Pairwise.imp_of_mem (fun {p q} hp hq hne=>?_) h.nd
  obtain ⟨z,hz,rfl⟩:=List.mem_map.1 hp
  obtain ⟨y,hy,rfl⟩:=List.mem_map.1 hq
  have hz:=h.rg z hz; have hy:=h.rg y hy
  intro e
  refine hne ?_
  simp only [Qdw] at e ⊢
  have e1:z.state_ = y.state_:=by
   rcases Int.lt_trichotomy z.state_ y.state_ with hlt | heq | hgt
   ·exfalso
    have:(z.state_ + 1) * ((n:Int) + 1)≤y.state_ * ((n:Int) + 1):=Int.mul_le_mul_of_nonneg_right (by omega) (by omega)
    rw [Int.add_mul] at this; omega
   ·exact heq
   ·exfalso
    have:(y.state_ + 1) * ((n:Int) + 1)≤z.state_ * ((n:Int) + 1):=Int.mul_le_mul_of_nonneg_right (by omega) (by omega)
    rw [Int.add_mul] at this; omega
  rw [e1] at e ⊢
  have:z.done_ = y.done_:=by omega
  rw [this]
 have:=Qbmc (N:=a.States.toNat * (n + 1)) h1 fun x hx=>by
  obtain ⟨p,hp,rfl⟩:=List.mem_map.1 hx
  obtain ⟨z,hz,rfl⟩:=List.mem_map.1 hp
  have hz:=h.rg z hz
  simp only [Qdw]
  have h0:0≤z.state_ * ((n:Int) + 1):=Int.mul_nonneg hz.1.1 (by omega)
  have h2:(z.state_ + 1) * ((n:Int) + 1)≤a.States * ((n:Int) + 1):=Int.mul_le_mul_of_nonneg_right (by omega) (by omega)
  rw [Int.add_mul] at h2
  have e:((a.States.toNat * (n + 1):Nat):Int) = a.States * ((n:Int) + 1):=by
   rw [Int.natCast_mul,Int.natCast_add,Int.natCast_one,Int.toNat_of_nonneg (by omega)]
  rw [e]; omega
 simpa using this
structure KW (L:List Qr) (c:List (Qh×List Int)):Prop where
 has:∀ p,hasM c p = L.any fun z=>decide (Qdw z = p)
 get:∀ z∈L,getM c (Qdw z) [] = z.word_
theorem KW.add {a:Qb} {n:Nat} {L:List Qr} {c:List (Qh×List Int)} (h:KW L c) (z:Qr) (hz:(L.any fun y=>decide (Qdw y = Qdw z)) = false):KW (L ++ [z]) (setM c (Qdw z) z.word_):=by
 refine ⟨fun p=>?_,fun y hy=>?_⟩
 ·rw [Qbda,h.has,List.any_append]
  simp only [List.any_cons,List.any_nil,Bool.or_false]
  rw [Bool.or_comm]
  congr 1
  exact decide_eq_decide.2 ⟨fun e=>e.symm,fun e=>e.symm⟩
 ·rw [Qbdb]
  rw [List.mem_append,List.mem_singleton] at hy
  rcases hy with hy | rfl
  ·have:¬ Qdw y = Qdw z:=fun e=>by
    have:=List.any_eq_false.1 hz y hy
    simp [e] at this
   rw [if_neg this,h.get y hy]
  ·rw [if_pos rfl]
theorem Nodes.add {a:Qb} {n:Nat} {L:List Qr} (h:Nodes a n L) {onto obs:List Int} (ho:obs.length = n) {x:Qr} {i:Nat} (hx:L[i]? = some x) {y:Qe} (hy:0≤y.To∧y.To < a.States):Nodes a n (addN onto obs x L y)∧L <+: addN onto obs x L y:=by
 unfold addN
 cases hd:Q8g onto obs x.done_ y.Event with
 | none=>exact ⟨h,List.prefix_refl L⟩
 | some d =>
  dsimp only
  split
  ·exact ⟨h,List.prefix_refl L⟩
  ·rename_i hn
   have hn:(L.any fun z=>decide (Qdw z = ⟨y.To,d⟩)) = false:=by simpa using hn
   have hxm:=h.rg x (List.mem_of_getElem? hx)
   have hdr:0≤d∧d≤n:=by
    unfold Q8g at hd
    split at hd
    ·split at hd
     ·cases hd
     ·rename_i hc; cases hd
      have:¬ x.done_ = obs.length:=fun e=>hc (.inl e)
      omega
    ·cases hd; exact hxm.2
   refine ⟨⟨fun z hz=>?_,?_,fun j z hz=>?_⟩,List.prefix_append L _⟩
   ·rcases List.mem_append.1 hz with hz | hz
    ·exact h.rg z hz
    ·simp at hz; subst hz; exact ⟨hy,hdr⟩
   ·rw [List.map_append,List.nodup_append]
    refine ⟨h.nd,by simp,fun p hp q hq e=>?_⟩
    simp at hq; subst hq; subst e
    obtain ⟨z,hz,hpz⟩:=List.mem_map.1 hp
    have:=List.any_eq_false.1 hn z hz
    rw [hpz] at this
    simp [Qdw] at this
   ·rw [List.getElem?_append] at hz
    split at hz
    ·exact h.wl j z hz
    ·rename_i hlt
     have hi:=(List.getElem?_eq_some_iff.1 hx).1
     have hwl:=h.wl i x hx
     have:j - L.length = 0:=by
      have:=(List.getElem?_eq_some_iff.1 hz).1; simp at this; omega
     rw [this] at hz; simp at hz; subst hz
     simp only [List.length_append,List.length_cons,List.length_nil]; omega
theorem Nodes.fold {a:Qb} {n:Nat} {onto obs:List Int} (ho:obs.length = n) {x:Qr} {i:Nat}:∀ {l:List Qe} {L:List Qr},Nodes a n L→L[i]? = some x→(∀ y∈l,0≤y.To∧y.To < a.States)→Nodes a n (l.foldl (addN onto obs x) L)∧L <+: l.foldl (addN onto obs x) L
 | [],L,h,_,_=>⟨h,List.prefix_refl L⟩
 | y :: l,L,h,hx,hl=>by
  obtain ⟨h1,h2⟩:=h.add (onto:=onto) ho hx (hl y (by simp))
  obtain ⟨k1,k2⟩:=Nodes.fold (onto:=onto) (l:=l) ho h1 (Qut h2 hx) fun z hz=>hl z (by simp [hz])
  exact ⟨k1,h2.trans k2⟩
theorem Qbmk {l:List Int} (hl:l.length≤lim):Qb2 l = some l:=by
 unfold Qb2 Q5
 cases l with
 | nil=>rfl
 | cons x l =>
  simp only [nilO,Bool.false_eq_true,if_false]
  rw [Qdv (by simpa using hl)]
  rfl
end Go.Abs
end
section
namespace Go.Abs
open Go
theorem Qbj1 {a:Qb} {onto:List Int} {e:Int} (he:e∈a.Alphabet):decide (e∈Q8e a onto) = decide (e∈onto):=by
 apply decide_eq_decide.2
 unfold Q8e
 rw [List.mem_filter]
 simp [he]
def Qh8 (a:Qb) (obs:List Int):Nat:=a.States.toNat * (obs.length + 1)
theorem Qbml {a:Qb} (h:Right a) {obs:List Int} (ho:obs.length≤1000):Qh8 a obs≤4100096:=by
 unfold Qh8
 have:=h.st
 calc a.States.toNat * (obs.length + 1)≤4096 * 1001:=Nat.mul_le_mul (by omega) (by omega)
  _≤4100096:=by omega
theorem Qbnr {α:Type} {l:List α} {i:Int} (h:0≤i∧i < l.length):∃ x,getO l i = some x:=by
 refine ⟨l[i.toNat]'(by omega),?_⟩
 rw [Qiy]; exact ⟨h.1,List.getElem?_eq_getElem (by omega)⟩
theorem Qbj2 {obs:List Int} {d e:Int} (hd:0≤d∧d≤obs.length):(if (d == (obs.length:Int)) then some true else ((getO obs d).bind fun x41=>some (x41 != e))) = some (decide (d = obs.length∨getO obs d≠some e)):=by
 by_cases h:d = obs.length
 ·simp [h]
 ·obtain ⟨x,hx⟩:=Qbnr (l:=obs) (i:=d) ⟨hd.1,by omega⟩
  rw [if_neg (by simpa using h),hx]
  simp only [Option.bind_some]
  congr 1
  rw [Bool.eq_iff_iff]; simp [h]
theorem Qbpd {a:Qb} (h:Right a) {onto obs:List Int} (hon:EvSet onto) (ho:obs.length≤1000) (marked:Bool) (h0:0 < a.States) (hk:(obs.all fun x=>decide (x∈Q8e a onto)) = true) :
  Qgg a onto obs marked = some ((Q1a a onto obs marked (Qh8 a obs + 1) 0 [⟨0,0,[]⟩]).1,(Q1a a onto obs marked (Qh8 a obs + 1) 0 [⟨0,0,[]⟩]).2,0):=by
 have hsm:=h.small
 have hNl:=Qbml h ho
 have hkl:=Qbi0 h onto
 have hob:onto.length < big:=by have:=hon.len; unfold big; omega
 have hmb:a.Marked.length < big:=by unfold big; omega
 unfold Qgg Qbu
 rw [Qbg1 h hob,hon.err]
 simp only [Option.bind_some]
 rw [if_neg (by decide),Qbjt h hob]
 simp only [Option.bind_some]
 rw [Qbhy h (by unfold big; omega),hk]
 simp only [Option.bind_some,if_true]
 rw [if_neg (by simp; omega)]
 refine Q8f (S:=Nat×List Qr) (fun s x=>Nodes a obs.length s.2∧s.1≤s.2.length∧x.1 = (s.2.drop s.1).map Qdw∧KW s.2 x.2) (fun s=>Qh8 a obs + 1 - s.1)
  (fun s r=>r = some ((Q1a a onto obs marked (Qh8 a obs + 1 - s.1) s.1 s.2).1,(Q1a a onto obs marked (Qh8 a obs + 1 - s.1) s.1 s.2).2,0)) ?_ Qb6 (0,[⟨0,0,[]⟩]) _ ?_ ?_
 ·rintro k ⟨i,L⟩ ⟨q,c⟩ ⟨hN,hi,rfl,hK⟩ ih
  have hNlen:L.length≤Qh8 a obs:=hN.len
  dsimp only at hi hK ⊢
  by_cases hlt:i < L.length
  ·have hd:L.drop i = L[i] :: L.drop (i + 1):=List.drop_eq_getElem_cons hlt
   have hxg:L[i]? = some L[i]:=List.getElem?_eq_getElem hlt
   generalize L[i] = x at hd hxg
   have hxm:=hN.rg x (List.mem_of_getElem? hxg)
   have hwl:=hN.wl i x hxg
   have hq:((L.drop i).map Qdw).length = L.length - i:=by rw [List.length_map,List.length_drop]
   rw [if_pos (by rw [hq]; omega)]
   have hg0:getO ((L.drop i).map Qdw) 0 = some (Qdw x):=by rw [hd]; rfl
   rw [hg0]
   simp only [Option.bind_some]
   rw [show Qh8 a obs + 1 - i = (Qh8 a obs - i) + 1 from by omega]
   simp only [Q1a,hxg]
   have hgoal:(if ((Qdw x).done_ == (obs.length:Int)) then (if marked then ((Q6 a.Marked (Qdw x).state_).bind fun x23=>some x23) else some true) else some false) = some (Qbg7 a obs marked x):=by
    simp only [Qdw,Qbg7]
    rw [Qjk hmb]
    by_cases e1:x.done_ = (obs.length:Int) <;> cases marked <;> simp [e1]
   rw [hgoal]
   simp only [Option.bind_some]
   by_cases hgp:Qbg7 a obs marked x = true
   ·rw [if_pos hgp,if_pos hgp,hK.get x (List.mem_of_getElem? hxg)]
   ·rw [if_neg hgp,if_neg hgp,show getO (obsP a onto).out_ (Qdw x).state_ = some (outP a x.state_) from Qbno hxm.1]
    simp only [Option.bind_some]
    have hto:∀ y∈outP a x.state_,(0≤y.To∧y.To < a.States)∧y.Event∈a.Alphabet:=fun y hy=>by
     have:=h.ed0 y (List.mem_filter.1 hy).1; exact ⟨this.2.2.1 |> fun h=>⟨h,this.2.2.2.1⟩,this.2.2.2.2⟩
    have hol:(outP a x.state_).length≤131072:=Nat.le_trans (List.length_filter_le _ _) hsm.2.2.2
    refine Q8f (S:=Nat×List Qr) (fun s y=>Nodes a obs.length s.2∧L <+: s.2∧s.1≤(outP a x.state_).length∧KW s.2 y.2.2∧y.1 = (s.2.drop i).map Qdw∧y.2.1 = (s.1:Int)∧((outP a x.state_).drop s.1).foldl (addN onto obs x) s.2 = (outP a x.state_).foldl (addN onto obs x) L) (fun s=>(outP a x.state_).length - s.1)
     (fun s r=>r = some ((Q1a a onto obs marked (Qh8 a obs - i) (i + 1) ((outP a x.state_).foldl (addN onto obs x) L)).1,(Q1a a onto obs marked (Qh8 a obs - i) (i + 1) ((outP a x.state_).foldl (addN onto obs x) L)).2,0)) ?_ Qb6 (0,L) _ ⟨hN,List.prefix_refl L,Nat.zero_le _,hK,rfl,rfl,rfl⟩ (by simp only; unfold Qb6; omega)
    ·rintro k2 ⟨n,M⟩ ⟨q,_,c⟩ ⟨hM,hLM,hn,hKM,rfl,rfl,hfold⟩ ih2
     have hMlen:M.length≤Qh8 a obs:=hM.len
     have hxM:=Qut hLM hxg
     have hiM:i < M.length:=(List.getElem?_eq_some_iff.1 hxM).1
     dsimp only at hn hKM hfold ⊢
     by_cases hln:n < (outP a x.state_).length
     ·rw [if_pos (by omega),Qcn hln]
      simp only [Option.bind_some]
      rw [List.drop_eq_getElem_cons hln,List.foldl_cons] at hfold
      have hy:=hto _ (List.getElem_mem hln)
      generalize (outP a x.state_)[n] = y at hy hfold ⊢
      rw [Qjk (by unfold big; rw [show (obsP a onto).kept_ = Q8e a onto from rfl]; omega),show (obsP a onto).kept_ = Q8e a onto from rfl,Qbj1 hy.2]
      simp only [Option.bind_some]
      rw [Qcb (by omega)]
      -- what is done with the next place
      have hJ:∀ d,Q8g onto obs x.done_ y.Event = some d →
        ((if (hasM c (Qh.mk y.To d)) then some ((M.drop i).map Qdw,c,y.From,y.Event,y.To,y.To,d) else ((Qb2 (getM c (Qdw x) [])).bind fun x46=>((appO x46 [y.Event]).bind fun x47=>((appO ((M.drop i).map Qdw) [(Qh.mk y.To d)]).bind fun x49=>some (x49,(setM c (Qh.mk y.To d) x47),y.From,y.Event,y.To,y.To,d))))).bind fun ((l52,c53,c54,c55,c56,q57,q58):(List Qh)×(List (Qh×(List Int)))×Int×Int×Int×Int×Int)=>k2 (l52,((n + 1:Nat):Int),c53)) =
        some ((Q1a a onto obs marked (Qh8 a obs - i) (i + 1) ((outP a x.state_).foldl (addN onto obs x) L)).1,(Q1a a onto obs marked (Qh8 a obs - i) (i + 1) ((outP a x.state_).foldl (addN onto obs x) L)).2,0):=by
       intro d hdd
       obtain ⟨hA1,hA2⟩:=hM.add (onto:=onto) rfl hxM hy.1
       have hadd:addN onto obs x M y = if (M.any fun z=>decide (Qdw z = ⟨y.To,d⟩)) then M else M ++ [⟨y.To,d,x.word_ ++ [y.Event]⟩]:=by
        unfold addN; rw [hdd]
       rw [hKM.has]
       by_cases hany:(M.any fun z=>decide (Qdw z = ⟨y.To,d⟩)) = true
       ·rw [if_pos hany] at hadd
        rw [if_pos hany]
        simp only [Option.bind_some]
        rw [hadd] at hfold
        exact ih2 (n + 1,M) _ ⟨hM,hLM,by simp only; omega,hKM,rfl,rfl,hfold⟩ (by simp only; omega)
       ·rw [if_neg hany] at hadd
        rw [if_neg hany,hKM.get x (List.mem_of_getElem? hxM),Qbmk (by unfold lim; omega)]
        simp only [Option.bind_some]
        rw [Qdv (by simp only [List.length_cons,List.length_nil]; unfold lim; omega)]
        simp only [Option.bind_some]
        rw [Qdv (by rw [List.length_map,List.length_drop]; simp only [List.length_cons,List.length_nil]; unfold lim; omega)]
        simp only [Option.bind_some]
        rw [hadd] at hA1 hA2 hfold
        have hKA:=hKM.add (a:=a) (n:=obs.length) ⟨y.To,d,x.word_ ++ [y.Event]⟩ (by simpa [Qdw] using hany)
        refine ih2 (n + 1,M ++ [⟨y.To,d,x.word_ ++ [y.Event]⟩]) _ ⟨hA1,hLM.trans hA2,by simp only; omega,hKA,?_,rfl,hfold⟩ (by simp only; omega)
        simp only [List.drop_append_of_le_length (Nat.le_of_lt hiM),List.map_append,List.map_cons,List.map_nil]
        rfl
      unfold letJ
      by_cases hev:y.Event∈onto
      ·simp only [hev,decide_true,if_true]
       have htest:=Qbj2 (obs:=obs) (d:=x.done_) (e:=y.Event) ⟨hxm.2.1,hxm.2.2⟩
       rw [show (Qdw x).done_ = x.done_ from rfl,htest]
       simp only [Option.bind_some]
       by_cases hc:x.done_ = obs.length∨getO obs x.done_≠some y.Event
       ·rw [if_pos (by simpa using hc)]
        simp only [Option.bind_some]
        have hadd:addN onto obs x M y = M:=by
         unfold addN Q8g; rw [if_pos hev,if_pos hc]
        rw [hadd] at hfold
        exact ih2 (n + 1,M) _ ⟨hM,hLM,by simp only; omega,hKM,rfl,rfl,hfold⟩ (by simp only; omega)
       ·rw [if_neg (by simpa using hc),Qoa (by omega) (by omega)]
        exact hJ (x.done_ + 1) (by unfold Q8g; rw [if_pos hev,if_neg hc])
      ·simp only [hev,decide_false,Bool.false_eq_true,if_false]
       exact hJ x.done_ (by unfold Q8g; rw [if_neg hev])
     ·rw [if_neg (by omega)]
      have hdn:(outP a x.state_).drop n = []:=List.drop_eq_nil_of_le (by omega)
      rw [hdn] at hfold
      have hfold:M = (outP a x.state_).foldl (addN onto obs x) L:=hfold
      subst hfold
      have hdd:((((outP a x.state_).foldl (addN onto obs x) L).drop i).map Qdw) = Qdw x :: (((outP a x.state_).foldl (addN onto obs x) L).drop (i + 1)).map Qdw:=by
       rw [List.drop_eq_getElem_cons hiM]
       have:((outP a x.state_).foldl (addN onto obs x) L)[i] = x:=by
        rw [List.getElem?_eq_getElem hiM] at hxM; exact Option.some.inj hxM
       rw [List.map_cons,this]
      rw [hdd]
      unfold slcO
      rw [if_pos ⟨by decide,by simp only [List.length_cons]; omega,Int.le_refl _⟩]
      simp only [Option.bind_some]
      rw [show Qh8 a obs - i = Qh8 a obs + 1 - (i + 1) from by omega]
      refine ih (i + 1,_) _ ⟨hM,by simp only; omega,?_,hKM⟩ (by simp only; omega)
      simp only [Int.toNat_natCast,List.take_length]
      rfl
  ·rw [if_neg (by rw [List.length_map,List.length_drop]; omega)]
   have:i = L.length:=by omega
   rw [show Qh8 a obs + 1 - i = (Qh8 a obs - i) + 1 from by omega]
   simp only [Q1a]
   rw [List.getElem?_eq_none (by omega)]
 ·refine ⟨⟨fun z hz=>?_,by simp,fun j z hz=>?_⟩,Nat.zero_le _,rfl,?_⟩
  ·simp at hz; subst hz; simp only; omega
  ·have hj:=(List.getElem?_eq_some_iff.1 hz).1
   simp at hj; subst hj; simp at hz; subst hz; simp
  ·refine ⟨fun p=>?_,fun z hz=>?_⟩
   ·rw [Qbda]
    have e:hasM ([]:List (Qh×List Int)) p = false:=rfl
    rw [e,Bool.or_false]
    simp only [List.any_cons,List.any_nil,Bool.or_false]
    exact decide_eq_decide.2 ⟨fun e=>e.symm,fun e=>e.symm⟩
   ·simp at hz; subst hz
    rw [Qbdb]; simp [Qdw]
 ·simp only; unfold Qb6; omega
end Go.Abs
end
section
namespace Go.Abs
open Go
end Go.Abs
end
section
namespace Go.Abs
open Go
theorem Qbh3 {a:Qb} (h0:0 < a.States) (n:Nat):Nodes a n [⟨0,0,[]⟩]:=by
 refine ⟨fun z hz=>?_,by simp,fun j z hz=>?_⟩
 ·simp at hz; subst hz; simp only; omega
 ·have hj:=(List.getElem?_eq_some_iff.1 hz).1
  simp at hj; subst hj; simp at hz; subst hz; simp
end Go.Abs
end
section
namespace Go.Abs
open Go
def wlt:List Int→List Int→Bool
 | a :: v,b :: w=>decide (a < b) || (decide (a = b) && wlt v w)
 | _,_=>false
theorem Qbi4:∀ {v w:List Int},v.length = w.length→wlt v w = true→∀ a b,wlt (v ++ [a]) (w ++ [b]) = true
 | [],_,_,h,_,_=>by simp [wlt] at h
 | _ :: _,[],_,h,_,_=>by simp [wlt] at h
 | x :: v,y :: w,hl,h,a,b=>by
  simp only [wlt,Bool.or_eq_true,Bool.and_eq_true,decide_eq_true_eq,List.cons_append] at h ⊢
  rcases h with h | ⟨h1,h2⟩
  ·exact .inl h
  ·exact .inr ⟨h1,Qbi4 (by simpa using hl) h2 a b⟩
theorem Qbi5:∀ (v:List Int) {a b:Int},a < b→wlt (v ++ [a]) (v ++ [b]) = true
 | [],a,b,h=>by simp [wlt,h]
 | x :: v,a,b,h=>by simp [wlt,Qbi5 v h]
theorem Qbg8:∀ {u v w:List Int},wlt u v = true→wlt v w = true→wlt u w = true
 | [],_,_,h,_=>by simp [wlt] at h
 | _ :: _,[],_,h,_=>by simp [wlt] at h
 | _ :: _,_ :: _,[],_,h=>by simp [wlt] at h
 | x :: u,y :: v,z :: w,h,k=>by
  simp only [wlt,Bool.or_eq_true,Bool.and_eq_true,decide_eq_true_eq] at h k ⊢
  rcases h with h | ⟨h1,h2⟩
  ·rcases k with k | ⟨k1,k2⟩
   ·left; omega
   ·left; omega
  ·rcases k with k | ⟨k1,k2⟩
   ·left; omega
   ·exact .inr ⟨by omega,Qbg8 h2 k2⟩
def slt (v w:List Int):Prop:=v.length < w.length∨(v.length = w.length∧wlt v w = true)
def sle (v w:List Int):Prop:=v = w∨slt v w
theorem Qbmm {u v w:List Int} (h:slt u v) (k:slt v w):slt u w:=by
 rcases h with h | ⟨h1,h2⟩
 ·rcases k with k | ⟨k1,k2⟩
  ·left; omega
  ·left; omega
 ·rcases k with k | ⟨k1,k2⟩
  ·left; omega
  ·exact .inr ⟨by omega,Qbg8 h2 k2⟩
theorem Qbg9 {u v w:List Int} (h:sle u v) (k:sle v w):sle u w:=by
 rcases h with rfl | h
 ·exact k
 ·rcases k with rfl | k
  ·exact .inr h
  ·exact .inr (Qbmm h k)
theorem Qbi6 {v w:List Int} (h:slt v w) (a b:Int):slt (v ++ [a]) (w ++ [b]):=by
 rcases h with h | ⟨h1,h2⟩
 ·left; simp; omega
 ·exact .inr ⟨by simp [h1],Qbi4 h1 h2 a b⟩
theorem Qbns {v w:List Int} (h:sle v w) (e:Int):sle (v ++ [e]) (w ++ [e]):=by
 rcases h with rfl | h
 ·exact .inl rfl
 ·exact .inr (Qbi6 h e e)
theorem Qbmn {v w:List Int} (h:sle v w):v.length≤w.length:=by
 rcases h with rfl | h | ⟨h,_⟩ <;> omega
theorem Qbnt {v w:List Int} (h:sle v w) (e:Int):sle v (w ++ [e]):=by
 have:=Qbmn h
 exact .inr (.inl (by simp; omega))
theorem Qbob:∀ (n:Nat) {v w:List Int},v.length = w.length→(v = w∨wlt v w = true)→v.take n = w.take n→∀ (h1:n < v.length) (h2:n < w.length),v[n]≠w[n]→v[n] < w[n]
 | n,[],_,_,_,_,h1,_,_=>absurd h1 (by simp)
 | n,_ :: _,[],_,_,_,_,h2,_=>absurd h2 (by simp)
 | 0,x :: v,y :: w,hl,h,_,_,_,hne=>by
  simp only [List.getElem_cons_zero] at hne ⊢
  rcases h with h | h
  ·exact absurd (List.cons.inj h).1 hne
  ·simp only [wlt,Bool.or_eq_true,Bool.and_eq_true,decide_eq_true_eq] at h
   rcases h with h | ⟨h,_⟩
   ·exact h
   ·exact absurd h hne
 | n + 1,x :: v,y :: w,hl,h,ht,h1,h2,hne=>by
  simp only [List.take_succ_cons,List.cons.injEq] at ht
  simp only [List.getElem_cons_succ] at hne ⊢
  refine Qbob n (by simpa using hl) ?_ ht.2 (by simpa using h1) (by simpa using h2) hne
  rcases h with h | h
  ·exact .inl (List.cons.inj h).2
  ·simp only [wlt,Bool.or_eq_true,Bool.and_eq_true,decide_eq_true_eq] at h
   rcases h with h | ⟨_,h⟩
   ·omega
   ·exact .inr h
theorem Q9o (onto w:List Int) (e:Int):obsW onto (w ++ [e]) = if e∈onto then obsW onto w ++ [e] else obsW onto w:=by
 unfold obsW
 rw [List.filter_append]
 by_cases h:e∈onto <;> simp [h]
theorem Qbi7 {a:Qb} {e:Int}:∀ (w:List Int) (s t:Int) (n:Nat),runP a s n (w ++ [e]) = (t,((n + (w ++ [e]).length:Nat):Int))→∃ s',runP a s n w = (s',((n + w.length:Nat):Int))∧0≤Qfr a s' e∧t = Qfr a s' e
 | [],s,t,n,h=>by
  simp only [List.nil_append,runP] at h
  split at h
  ·rename_i h0; exact ⟨s,rfl,h0,(Prod.mk.inj h).1.symm⟩
  ·have:=(Prod.mk.inj h).2; simp at this; omega
 | x :: w,s,t,n,h=>by
  simp only [List.cons_append,runP] at h ⊢
  split at h
  ·rename_i h0
   rw [if_pos h0]
   obtain ⟨s',h1,h2,h3⟩:=Qbi7 w (Qfr a s x) t (n + 1) (by rw [h]; simp only [List.length_append,List.length_cons,List.length_nil]; congr 2; omega)
   exact ⟨s',by rw [h1]; simp only [List.length_cons]; congr 2; omega,h2,h3⟩
  ·have:=(Prod.mk.inj h).2; simp only [List.length_append,List.length_cons,List.length_nil] at this; omega
section
variable {a:Qb} (h:Right a) {onto obs:List Int}
structure KI (a:Qb) (onto obs:List Int) (i:Nat) (x:Qr) (pr:List Qe) (L:List Qr):Prop where
 xi:L[i]? = some x
 rt:L[0]? = some ⟨0,0,[]⟩
 srt:∀ (j k:Nat) y z,j < k→L[j]? = some y→L[k]? = some z→slt y.word_ z.word_
 par:∀ z∈L,z.word_ = []∨(∃ (j:Nat) (y:Qr) (e:Int),j < i∧L[j]? = some y∧z.word_ = y.word_ ++ [e])∨∃ y∈pr,z.word_ = x.word_ ++ [y.Event]
 run:∀ z∈L,runP a 0 0 z.word_ = (z.state_,(z.word_.length:Int))∧0≤z.done_∧z.done_≤obs.length∧obsW onto z.word_ = obs.take z.done_.toNat
 don:∀ (j:Nat) y,j < i→L[j]? = some y→y.done_≠obs.length∧∀ p∈outP a y.state_,∀ d,Q8g onto obs y.done_ p.Event = some d→∃ (k:Nat) (z:Qr),L[k]? = some z∧Qdw z = ⟨p.To,d⟩∧sle z.word_ (y.word_ ++ [p.Event])
 kid:∀ p∈pr,∀ d,Q8g onto obs x.done_ p.Event = some d→∃ (k:Nat) (z:Qr),L[k]? = some z∧Qdw z = ⟨p.To,d⟩∧sle z.word_ (x.word_ ++ [p.Event])
theorem KI.below {i:Nat} {x:Qr} {pr:List Qe} {L:List Qr} (q:KI a onto obs i x pr L) {e:Int} (he:∀ y∈pr,y.Event < e):∀ z∈L,slt z.word_ (x.word_ ++ [e]):=by
 intro z hz
 rcases q.par z hz with h | ⟨j,y,e',hj,hy,h⟩ | ⟨y,hy,h⟩
 ·rw [h]; left; simp
 ·rw [h]; exact Qbi6 (q.srt j i y x hj hy q.xi) e' e
 ·rw [h]; exact .inr ⟨by simp,Qbi5 _ (he y hy)⟩
include h
theorem KI.add {i:Nat} {x:Qr} {pr:List Qe} {L:List Qr} (q:KI a onto obs i x pr L) {p:Qe} (hp:p∈outP a x.state_) (he:∀ y∈pr,y.Event < p.Event):KI a onto obs i x (pr ++ [p]) (addN onto obs x L p):=by
 have hb:=q.below he
 have keep:(∀ d,Q8g onto obs x.done_ p.Event = some d→∃ (k:Nat) (z:Qr),L[k]? = some z∧Qdw z = ⟨p.To,d⟩∧sle z.word_ (x.word_ ++ [p.Event]))→KI a onto obs i x (pr ++ [p]) L:=fun hk=>{
  xi:=q.xi
  rt:=q.rt
  srt:=q.srt
  par:=fun z hz=>by
   rcases q.par z hz with h | h | ⟨y,hy,h⟩
   ·exact .inl h
   ·exact .inr (.inl h)
   ·exact .inr (.inr ⟨y,List.mem_append_left _ hy,h⟩)
  run:=q.run
  don:=q.don
  kid:=fun y hy=>by
   rcases List.mem_append.1 hy with hy | hy
   ·exact q.kid y hy
   ·rw [List.mem_singleton.1 hy]; exact hk }
 unfold addN
 cases hd:Q8g onto obs x.done_ p.Event with
 | none=>exact keep fun d hd'=>by rw [hd] at hd'; cases hd'
 | some d =>
  dsimp only
  split
  ·rename_i hany
   refine keep fun d' hd'=>?_
   rw [hd] at hd'; cases hd'
   obtain ⟨z,hz,hpz⟩:=List.any_eq_true.1 hany
   obtain ⟨k,hk⟩:=List.getElem?_of_mem hz
   exact ⟨k,z,hk,by simpa using hpz,.inr (hb z hz)⟩
  ·have hil:=(List.getElem?_eq_some_iff.1 q.xi).1
   have hold:∀ {j:Nat} {y:Qr},L[j]? = some y→(L ++ [(⟨p.To,d,x.word_ ++ [p.Event]⟩ : Qr)])[j]? = some y:=fun {j y} hj=>by
    rw [List.getElem?_append_left (List.getElem?_eq_some_iff.1 hj).1]; exact hj
   have hx:=q.run x (List.mem_of_getElem? q.xi)
   have hto:0≤p.To:=(h.ed0 p (List.mem_filter.1 hp).1).2.2.1
   have hstep:=Qus h hp
   refine ⟨hold q.xi,hold q.rt,fun j k y z hjk hy hz=>?_,fun z hz=>?_,fun z hz=>?_,fun j y hj hy=>?_,fun y hy d' hd'=>?_⟩
   ·have hkl:=(List.getElem?_eq_some_iff.1 hz).1
    simp only [List.length_append,List.length_cons,List.length_nil] at hkl
    rw [List.getElem?_append_left (by omega)] at hy
    rcases Nat.lt_or_ge k L.length with hk | hk
    ·rw [List.getElem?_append_left hk] at hz
     exact q.srt j k y z hjk hy hz
    ·have:k = L.length:=by omega
     subst this
     simp at hz; subst hz
     exact hb y (List.mem_of_getElem? hy)
   ·rcases List.mem_append.1 hz with hz | hz
    ·rcases q.par z hz with h | ⟨j,y,e,h1,h2,h3⟩ | ⟨y,hy,h⟩
     ·exact .inl h
     ·exact .inr (.inl ⟨j,y,e,h1,hold h2,h3⟩)
     ·exact .inr (.inr ⟨y,List.mem_append_left _ hy,h⟩)
    ·rw [List.mem_singleton.1 hz]
     exact .inr (.inr ⟨p,by simp,rfl⟩)
   ·rcases List.mem_append.1 hz with hz | hz
    ·exact q.run z hz
    ·rw [List.mem_singleton.1 hz]
     dsimp only
     have hr:=Qbc9 (a:=a) (e:=p.Event) x.word_ 0 x.state_ 0 (by rw [hx.1]; simp)
     rw [hstep,if_pos hto] at hr
     refine ⟨by rw [hr]; simp,?_⟩
     unfold Q8g at hd
     rw [Q9o]
     by_cases hon:p.Event∈onto
     ·rw [if_pos hon] at hd ⊢
      split at hd
      ·cases hd
      ·rename_i hc
       cases hd
       have hc1:¬ x.done_ = obs.length:=fun e=>hc (.inl e)
       have hc2:getO obs x.done_ = some p.Event:=Classical.byContradiction fun e=>hc (.inr e)
       have:=(Qiy.1 hc2).2
       refine ⟨by omega,by omega,?_⟩
       rw [hx.2.2.2,show (x.done_ + 1).toNat = x.done_.toNat + 1 from by omega,List.take_add_one,this]
       rfl
     ·rw [if_neg hon] at hd ⊢
      cases hd
      exact hx.2
   ·rw [List.getElem?_append_left (by omega)] at hy
    obtain ⟨k1,k2⟩:=q.don j y hj hy
    refine ⟨k1,fun p' hp' d' hd'=>?_⟩
    obtain ⟨k,z,m1,m2,m3⟩:=k2 p' hp' d' hd'
    exact ⟨k,z,hold m1,m2,m3⟩
   ·rcases List.mem_append.1 hy with hy | hy
    ·obtain ⟨k,z,m1,m2,m3⟩:=q.kid y hy d' hd'
     exact ⟨k,z,hold m1,m2,m3⟩
    ·rw [List.mem_singleton.1 hy] at hd' ⊢
     rw [hd] at hd'; cases hd'
     exact ⟨L.length,⟨p.To,d,x.word_ ++ [p.Event]⟩,by simp,rfl,.inl rfl⟩
theorem KI.fold {i:Nat} {x:Qr}:∀ (es pr:List Qe) (L:List Qr),(∀ p∈es,p∈outP a x.state_)→(pr ++ es).Pairwise (fun p q=>p.Event < q.Event)→KI a onto obs i x pr L→KI a onto obs i x (pr ++ es) (es.foldl (addN onto obs x) L)
 | [],pr,L,_,_,q=>by simpa using q
 | p :: es,pr,L,hes,hs,q=>by
  have h1:=q.add h (hes p (by simp)) fun y hy=>(List.pairwise_append.1 hs).2.2 y hy p (by simp)
  have:=KI.fold es (pr ++ [p]) _ (fun y hy=>hes y (by simp [hy])) (by rw [List.append_assoc]; exact hs) h1
  rw [List.append_assoc] at this
  exact this
theorem Qbnu (s:Int):(outP a s).Pairwise fun p q=>p.Event < q.Event:=by
 have:=Qq0 h s
 have h2:((outP a s).map (·.Event)).Pairwise (· < ·):=by rw [this]; exact h.al.filter _
 exact List.pairwise_map.1 h2
structure QL (a:Qb) (onto obs:List Int) (i:Nat) (L:List Qr):Prop where
 rt:L[0]? = some ⟨0,0,[]⟩
 srt:∀ (j k:Nat) y z,j < k→L[j]? = some y→L[k]? = some z→slt y.word_ z.word_
 par:∀ z∈L,z.word_ = []∨∃ (j:Nat) (y:Qr) (e:Int),j < i∧L[j]? = some y∧z.word_ = y.word_ ++ [e]
 run:∀ z∈L,runP a 0 0 z.word_ = (z.state_,(z.word_.length:Int))∧0≤z.done_∧z.done_≤obs.length∧obsW onto z.word_ = obs.take z.done_.toNat
 don:∀ (j:Nat) y,j < i→L[j]? = some y→y.done_≠obs.length∧∀ p∈outP a y.state_,∀ d,Q8g onto obs y.done_ p.Event = some d→∃ (k:Nat) (z:Qr),L[k]? = some z∧Qdw z = ⟨p.To,d⟩∧sle z.word_ (y.word_ ++ [p.Event])
theorem QL.next {i:Nat} {x:Qr} {L:List Qr} (q:QL a onto obs i L) (hx:L[i]? = some x) (hg:x.done_≠obs.length):QL a onto obs (i + 1) ((outP a x.state_).foldl (addN onto obs x) L):=by
 have k0:KI a onto obs i x [] L:=⟨hx,q.rt,q.srt,fun z hz=>(q.par z hz).elim .inl fun h=>.inr (.inl h),q.run,q.don,by simp⟩
 have k:=KI.fold h (outP a x.state_) [] L (fun p hp=>hp) (Qbnu h x.state_) k0
 rw [List.nil_append] at k
 refine ⟨k.rt,k.srt,fun z hz=>?_,k.run,fun j y hj hy=>?_⟩
 ·rcases k.par z hz with h | ⟨j,y,e,h1,h2,h3⟩ | ⟨y,hy,h⟩
  ·exact .inl h
  ·exact .inr ⟨j,y,e,by omega,h2,h3⟩
  ·exact .inr ⟨i,x,y.Event,by omega,k.xi,h⟩
 ·rcases Nat.lt_or_ge j i with hji | hji
  ·exact k.don j y hji hy
  ·have:j = i:=by omega
   subst this
   rw [k.xi] at hy; cases hy
   exact ⟨hg,k.kid⟩
theorem QL.chain {i:Nat} {L:List Qr} (q:QL a onto obs i L):∀ (n:Nat) (u:List Int) (s:Int),u.length = n→runP a 0 0 u = (s,(u.length:Int))→obsW onto u <+: obs →
  (∃ (j:Nat) (z:Qr),j < i∧L[j]? = some z∧Qdw z = ⟨s,((obsW onto u).length:Int)⟩∧sle z.word_ u)∨∃ x,L[i]? = some x∧sle x.word_ u
 | 0,u,s,hn,hr,hp=>by
  have:u = []:=List.eq_nil_of_length_eq_zero hn
  subst this
  have hs:s = 0:=by simp [runP] at hr; exact hr.symm
  subst hs
  rcases Nat.eq_zero_or_pos i with rfl | hi
  ·exact .inr ⟨_,q.rt,.inl rfl⟩
  ·exact .inl ⟨0,_,hi,q.rt,rfl,.inl rfl⟩
 | n + 1,u,s,hn,hr,hp=>by
  obtain ⟨u',e,rfl⟩ : ∃ u' e,u = u' ++ [e]:=by
   rcases List.eq_nil_or_concat u with rfl | ⟨l,x,rfl⟩
   ·simp at hn
   ·exact ⟨l,x,by simp⟩
  obtain ⟨s',r1,r2,rfl⟩:=Qbi7 u' 0 s 0 (by rw [hr]; simp)
  rw [Nat.zero_add] at r1
  have hp' : obsW onto u' <+: obs:=by
   refine List.IsPrefix.trans ?_ hp
   rw [Q9o]
   split
   ·exact List.prefix_append _ _
   ·exact List.prefix_refl _
  rcases QL.chain q n u' s' (by simpa using hn) r1 hp' with ⟨j,z,hj,hz,hpl,hle⟩ | ⟨x,hx,hle⟩
  ·obtain ⟨p,hpm,hpe⟩:=(Q3o h).1 r2
   have hz1:z.state_ = s':=congrArg Qh.state_ hpl
   have hz2:z.done_ = ((obsW onto u').length:Int):=congrArg Qh.done_ hpl
   rw [← hz1] at hpm
   have hto:p.To = Qfr a s' e:=by have:=Qus h hpm; rw [hz1,hpe] at this; exact this.symm
   have hnd:Q8g onto obs z.done_ p.Event = some ((obsW onto (u' ++ [e])).length:Int):=by
    unfold Q8g
    rw [hpe,Q9o]
    by_cases hon:e∈onto
    ·rw [if_pos hon,if_pos hon]
     rw [Q9o,if_pos hon] at hp
     obtain ⟨t,ht⟩:=hp
     have hg:getO obs z.done_ = some e:=by
      rw [Qiy,hz2]
      refine ⟨by omega,?_⟩
      rw [← ht]; simp
     have hlen:(obsW onto u').length < obs.length:=by
      have:=congrArg List.length ht
      simp only [List.length_append,List.length_cons,List.length_nil] at this
      omega
     rw [if_neg (by rw [hg]; simp <;> omega)]
     simp [hz2]
    ·rw [if_neg hon,if_neg hon,hz2]
   obtain ⟨k,z',m1,m2,m3⟩:=(q.don j z hj hz).2 p hpm _ hnd
   rw [hto] at m2
   rw [hpe] at m3
   have hle' : sle z'.word_ (u' ++ [e]):=Qbg9 m3 (Qbns hle e)
   rcases Nat.lt_or_ge k i with hk | hk
   ·exact .inl ⟨k,z',hk,m1,m2,hle'⟩
   ·have hkl:=(List.getElem?_eq_some_iff.1 m1).1
    refine .inr ⟨L[i],List.getElem?_eq_getElem (by omega),?_⟩
    rcases Nat.eq_or_lt_of_le hk with rfl | hik
    ·have:L[i] = z':=by rw [List.getElem?_eq_getElem (by omega)] at m1; exact Option.some.inj m1
     rw [this]; exact hle'
    ·exact Qbg9 (.inr (q.srt i k _ z' hik (List.getElem?_eq_getElem (by omega)) m1)) hle'
  ·exact .inr ⟨x,hx,Qbnt hle e⟩
theorem Qbel (h0:0 < a.States) {w:List Int} {t:Int} (hw:runP a 0 0 w = (t,(w.length:Int))) (ho:obsW onto w = obs):∀ (f i:Nat) (L:List Qr),QL a onto obs i L→Nodes a obs.length L→i≤L.length→Qh8 a obs + 1≤i + f →
  (Q1a a onto obs false f i L).2 = true∧sle (Q1a a onto obs false f i L).1 w∧obsW onto (Q1a a onto obs false f i L).1 = obs∧∃ s,runP a 0 0 (Q1a a onto obs false f i L).1 = (s,((Q1a a onto obs false f i L).1.length:Int))
 | 0,i,L,q,hN,hi,hf=>by
  have:L.length≤Qh8 a obs:=hN.len
  omega
 | f + 1,i,L,q,hN,hi,hf=>by
  obtain ⟨x,hx,hle⟩ : ∃ x,L[i]? = some x∧sle x.word_ w:=by
   rcases q.chain h w.length w t rfl hw (by rw [ho]; exact List.prefix_refl _) with ⟨j,z,hj,hz,hpl,_⟩ | hr
   ·exact absurd (by have:=congrArg Qh.done_ hpl; rw [ho] at this; exact this) (q.don j z hj hz).1
   ·exact hr
  unfold Q1a
  rw [hx]
  dsimp only
  have hxr:=q.run x (List.mem_of_getElem? hx)
  by_cases hg:x.done_ = obs.length
  ·have:Qbg7 a obs false x = true:=by simp [Qbg7,hg]
   rw [if_pos this]
   refine ⟨rfl,hle,?_,x.state_,hxr.1⟩
   rw [hxr.2.2.2,hg]; simp
  ·have:¬ Qbg7 a obs false x = true:=by simp [Qbg7,hg]
   rw [if_neg this]
   obtain ⟨h1,h2⟩:=Nodes.fold (onto:=onto) (l:=outP a x.state_) rfl hN hx fun y hy=>by
    have:=h.ed0 y (List.mem_filter.1 hy).1; exact ⟨this.2.2.1,this.2.2.2.1⟩
   have hil:=(List.getElem?_eq_some_iff.1 hx).1
   exact Qbel h0 hw ho f (i + 1) _ (q.next h hx hg) h1 (by have:=h2.length_le; omega) (by omega)
end
end Go.Abs
end
section
namespace Go.Abs
open Go
theorem Qbnv {a:Qb} {onto obs:List Int}:QL a onto obs 0 [⟨0,0,[]⟩]:=by
 refine ⟨rfl,fun j k y z hjk hy hz=>?_,fun z hz=>?_,fun z hz=>?_,fun j y hj=>absurd hj (by omega)⟩
 ·have:=(List.getElem?_eq_some_iff.1 hz).1
  simp at this; omega
 ·simp at hz; subst hz; exact .inl rfl
 ·simp at hz; subst hz; exact ⟨rfl,by simp,by simp,by simp [obsW]⟩
theorem Qbi8 (s:Int×Int) (g:Qz) (at_:Int) (hs1:0≤s.1∧s.1 < 256) (hs2:0≤s.2∧s.2 < 256) (hg:Qbl5 g) (hat:0≤at_∧at_ < 65536):Qd9 s g at_ = some true:=by
 unfold Qd9 Qda
 rw [Qbl6]
 simp only [Option.bind_some,if_true]
 obtain ⟨ev,hE,hev⟩:=Qbgv hs1.1 hs1.2
 obtain ⟨on,hE2,hon'⟩:=Qbgv hs2.1 hs2.2
 obtain ⟨m,hm,hmal,hM,hm5⟩:=Qbpa hev hg
 have ha:=Qbgt hm
 have h5:(Qrq m).States≤5:=Int.le_trans (Qbjw hm).1 hm5
 have hal:(Qrq m).Alphabet.length≤5:=by show m.Alphabet.length≤5; rw [hmal]; exact hev.len
 have hon:=hon'.set
 rw [hE]
 simp only [Option.bind_some]
 rw [hM]
 simp only [Option.bind_some]
 rw [hE2]
 simp only [Option.bind_some]
 generalize Qrq m = a at ha h5 hal ⊢
 have hst:=ha.st
 obtain ⟨L,hW,hLl,hL⟩:=Qbmi ha hal (most:=4) (by omega)
 replace hW:Qd8 a 4 false = some (L,0):=hW
 rw [hW]
 simp only [Option.bind_some,show ((0:Int) != 0) = false from rfl,Bool.false_eq_true,if_false]
 by_cases hLe:L = []
 ·subst hLe
  simp
 ·have hlp:0 < L.length:=List.length_pos_iff.2 hLe
  have hne:((L.length:Int) == 0) = false:=by simp; omega
  simp only [hne,Bool.false_eq_true,if_false]
  have hrem:remO .i64 (IntKind.wrap .i64 at_) (L.length:Int) = some (at_.tmod (L.length:Int)):=by
   unfold remO
   rw [if_neg (by omega),Qoa (by omega) (by omega)]
  have hmod:0≤at_.tmod (L.length:Int)∧at_.tmod (L.length:Int) < L.length:=⟨Int.tmod_nonneg _ hat.1,Int.tmod_lt_of_pos _ (by omega)⟩
  rw [hrem]
  simp only [Option.bind_some]
  have hgw:getO L (at_.tmod (L.length:Int)) = some L[(at_.tmod (L.length:Int)).toNat]:=by
   rw [Qiy]; exact ⟨hmod.1,List.getElem?_eq_getElem (by omega)⟩
  rw [hgw]
  simp only [Option.bind_some]
  obtain ⟨hw4,hpos,t,hrun⟩:=hL _ (List.getElem_mem (show (at_.tmod (L.length:Int)).toNat < L.length by omega))
  generalize L[(at_.tmod (L.length:Int)).toNat] = w at hw4 hrun ⊢
  have hrun0:runP a 0 0 w = (t,((0 + w.length:Nat):Int)):=by rw [hrun]; simp
  have hev1:=Qbek ha w 0 t 0 hrun0
  rw [Qbh2 hon.big (by unfold Abs.big; omega)]
  simp only [Option.bind_some]
  have hol:(obsW on w).length≤4:=Nat.le_trans (List.length_filter_le _ _) hw4
  have hk:((obsW on w).all fun x=>decide (x∈Q8e a on)) = true:=List.all_eq_true.2 fun x hx=>by
   obtain ⟨q1,q2⟩:=List.mem_filter.1 hx
   exact decide_eq_true (show x∈Q8e a on from List.mem_filter.2 ⟨hev1 x q1,q2⟩)
  rw [Qbpd ha hon (by omega) false hpos hk]
  simp only [Option.bind_some]
  obtain ⟨l1,l2,l3,s',l4⟩:=Qbel ha hpos hrun rfl (Qh8 a (obsW on w) + 1) 0 [⟨0,0,[]⟩] (Qbnv (a:=a) (onto:=on) (obs:=obsW on w)) (Qbh3 hpos _) (Nat.zero_le _) (by omega)
  generalize hv:Q1a a on (obsW on w) false (Qh8 a (obsW on w) + 1) 0 [⟨0,0,[]⟩] = R at l1 l2 l3 l4 ⊢
  obtain ⟨v,b⟩:=R
  simp only at l1 l2 l3 l4 ⊢
  subst l1
  have hvl:=Qbmn l2
  have hlike:Qbgi on v w = some true:=by
   unfold Qbgi
   have:=hon.len
   rw [if_pos ⟨by unfold lim; omega,by unfold lim; omega,by unfold lim; omega⟩]
   have:(v.filter fun e=>decide (e∈on)) = w.filter fun e=>decide (e∈on):=l3
   rw [this]; simp
  rw [hlike]
  simp only [Option.bind_some,if_true,show ((0:Int) != 0) = false from rfl,Bool.false_eq_true,if_false]
  rw [show decide ((v.length:Int) > (w.length:Int)) = false from by simp; omega]
  simp only [Bool.false_eq_true,if_false,Option.bind_some]
  rw [Qbgw ha (by unfold Abs.big; omega)]
  have hgen:genP a v = true:=by
   simp only [genP,Bool.and_eq_true,decide_eq_true_eq,beq_iff_eq]
   rw [l4]; exact ⟨hpos,rfl⟩
  rw [hgen]
  simp only [Option.bind_some,if_true,show ((0:Int) != 0) = false from rfl,Bool.false_eq_true,if_false]
  refine Qbne (fun i:Int=>∃ n:Nat,i = n∧n≤v.length∧v.take n = w.take n) (fun i=>v.length - i.toNat) _ ⟨0,rfl,Nat.zero_le _,by simp⟩ (by simp only [Int.toNat_zero]; unfold Qb6; omega) ?_
  rintro k _ ⟨n,rfl,hn,he⟩ ih
  by_cases hlt:n < v.length
  ·rw [if_pos (by omega)]
   simp only [Option.bind_some]
   by_cases hle:v.length = w.length
   ·rw [if_pos (by simp [hle]),Qcn hlt,Qcn (by omega:n < w.length)]
    simp only [Option.bind_some]
    by_cases hx:v[n] = w[n]'(by omega)
    ·rw [if_neg (by simp [hx]),Qcb (by omega)]
     refine ih _ ⟨n + 1,rfl,by omega,?_⟩ (by omega)
     exact Qbgn hlt (by omega) he hx
    ·rw [if_pos (by simpa using hx)]
     have hs:v = w∨wlt v w = true:=by
      rcases l2 with h | h | h
      ·exact .inl h
      ·omega
      ·exact .inr h.2
     have:=Qbob n hle hs he hlt (by omega) hx
     simp [this]
   ·rw [if_neg (by simp; omega)]
  ·rw [if_neg (by omega)]
   simp
end Go.Abs
end
