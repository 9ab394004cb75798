/-
  Part 7 of the proof: see the last text.
-/
import Derived.Test.YtdfiohnppomfgaaGreatP6
import Derived.OpenShut
import Derived.ProofKit
import Derived.Carry
import GoSem.Claim
import GoSem.ClaimJoined
import Derived.JoinedTies
import Derived.KernelRfl
import Derived.Test.YtdfiohnppomfgaaGreatProg
set_option linter.unusedVariables false
set_option linter.unusedSimpArgs false
set_option linter.unusedSectionVars false
section
namespace Go.Abs
open Go Go.ChangeShapes Go.WideShapes Go.ChangeAt Go.RowKit
set_option linter.unusedVariables false
set_option linter.unusedSimpArgs false
def live (w : World) : Nat → Nat → Prop:=fun b o=>(w.cell? ⟨b,o,none⟩).isSome = true
def RDs (w : World) : List D → List Value → Prop
 | [],vs=>vs = []
 | x :: xs,vs=>∃ u us,vs = u :: us ∧ RD (live w) w x u ∧ RDs w xs us
theorem Qbcl {w : World} : ∀ {xs ys : List D} {us vs : List Value},RDs w xs us → RDs w ys vs → RDs w (xs ++ ys) (us ++ vs)
 | [],ys,us,vs,h,k=>by simp only [RDs] at h; subst h; simpa using k
 | x :: xs,ys,us,vs,⟨u,us',e,r,h⟩,k=>by subst e; exact ⟨u,us' ++ vs,by simp,r,Qbcl h k⟩
def RDat (w : World) (cs : List Value) (off : Nat) (xs : List D) : Prop:=RDs w xs ((cs.drop off).take xs.length)
theorem RDat.app {w : World} {cs : List Value} {off : Nat} {xs ys : List D} (h : RDat w cs off xs) {n : Nat} (hn : n = off + xs.length) (k : RDat w cs n ys) : RDat w cs off (xs ++ ys):=by
 subst hn
 have:=Qbcl h k
 unfold RDat
 rw [List.length_append,List.take_add,List.drop_drop]
 exact this
theorem RDat.nil {w : World} {cs : List Value} {off : Nat} : RDat w cs off []:=by simp [RDat,RDs]
theorem RDat.all {w : World} {cs : List Value} {xs : List D} (h : RDat w cs 0 xs) (hl : cs.length = xs.length) : RDs w xs cs:=by
 unfold RDat at h
 rw [List.drop_zero,← hl,List.take_length] at h
 exact h
theorem Qbjt {w : World} {b : Nat} : ∀ {xs : List D} {vs : List Value} {o : Nat},RDs w xs vs → (∀ i v,vs[i]? = some v → w.cell? ⟨b,o + i,none⟩ = some v) → RDc (live w) w b xs o
 | [],vs,o,_,_=>by simp [RDc]
 | x :: xs,vs,o,⟨u,us,e,r,h⟩,hc=>by
  subst e
  have h0:=hc 0 u rfl
  rw [Nat.add_zero] at h0
  refine ⟨by simp [live,h0],⟨u,h0,r⟩,Qbjt h fun i v hv=>?_⟩
  have:=hc (i + 1) v (by simpa using hv)
  rw [show o + 1 + i = o + (i + 1) from by omega]; exact this
def Q79 {α : Type} (P : Program) (t : TypeId) (e : α → List D) (wf : α → Prop) : Prop :=
 ∀ {H : Type} {enc : TypeId × Value → H} {w : World} {base : Nat} {spare : Nat → Bool} {held : Bool} {fuel : Nat} {cs : List Value} {x : DataW H × List MemPlace},
  DataW.trod enc P w base spare held fuel t cs = some x → ∃ a,wf a ∧ RDs w (e a) cs
def wfI (k : IntKind) (n : Int) : Prop:=(Lit.int k n).wf = true
def wfL {α : Type} (wf : α → Prop) (l : List α) : Prop:=l.length ≤ maxLen ∧ ∀ a ∈ l,wf a
variable {P : Program} {t : TypeId}
theorem Qba8 {k : IntKind} (ht : P.underlying t = some (.int k)) : Q79 P t (fun n : Int=>[.int k n]) (wfI k):=by
 intro H enc w base spare held fuel cs x h
 obtain ⟨n,rfl,_,hw⟩:=DataW.trod_int ht h
 exact ⟨n,hw,_,_,rfl,by simp [RD],rfl⟩
theorem cells?_get {w : World} {base : Nat} {a : Addr} {n : Nat} {cs : List Value} (h : w.cells? base a n = some cs) : cs.length = n ∧ ∀ i v,cs[i]? = some v → w.cell? (a.add i) = some v:=by
 obtain ⟨h1,h2,h3⟩:=World.cells?_some h
 refine ⟨h2,fun i v hv=>?_⟩
 have hi:=(List.getElem?_eq_some_iff.1 hv).1
 have:=h3 i (by omega)
 rw [this]; simpa using hv
theorem Qbf3 {α : Type} {el : TypeId} {e : α → List D} {wf : α → Prop} {sz : Nat} (ht : P.underlying t = some (.slice el)) (he : Q79 P el e wf) (hsz : P.cellsOf el = sz) (hpos : 0 < sz) (hlen : ∀ a,(e a).length = sz) :
  Q79 P t (fun l : List α=>[.lst sz (l.map e)]) (wfL wf):=by
 intro H enc w base spare held fuel cs x h
 rcases DataW.trod_slice ht h with ⟨rfl,_⟩ | ⟨a,len,cap,Qg8,rest,n,_,rfl,_,hb,hl,hm,helen,hel,_,_⟩
 ·exact ⟨[],⟨by simp,by simp⟩,_,_,rfl,by simp only [RD,List.map_nil,List.length_nil]; exact ⟨none,0,rfl,Nat.le_refl _,.inl trivial⟩,rfl⟩
 ·have key : ∀ m,m ≤ len → ∃ l : List α,l.length = m ∧ (∀ x ∈ l,wf x) ∧ ∀ i y,l[i]? = some y → ∃ vs,w.cells? base (a.add (i * sz)) sz = some vs ∧ RDs w (e y) vs:=by
   intro m
   induction m with
   | zero=>exact fun _=>⟨[],rfl,by simp,by simp⟩
   | succ m ih =>
    intro hm'
    obtain ⟨l,h1,h2,h3⟩:=ih (by omega)
    have h4:=hel m (by omega)
    have h5 : Qg8[m]? = some Qg8[m]:=List.getElem?_eq_getElem (by omega)
    rw [h5,hsz,Option.bind_eq_some_iff] at h4
    obtain ⟨vs,h6,h7⟩:=h4
    obtain ⟨y,h8,h9⟩:=he h7
    refine ⟨l ++ [y],by simp [h1],?_,fun i z hz=>?_⟩
    ·intro x hx
     rcases List.mem_append.1 hx with hx | hx
     ·exact h2 x hx
     ·simp at hx; subst hx; exact h8
    ·by_cases hi : i < m
     ·rw [List.getElem?_append_left (by omega)] at hz; exact h3 i z hz
     ·have : i = m:=by
       have:=(List.getElem?_eq_some_iff.1 hz).1
       simp at this; omega
      subst this
      rw [List.getElem?_append_right (by omega),h1] at hz
      simp at hz; subst hz
      exact ⟨vs,h6,h9⟩
  obtain ⟨l,h1,h2,h3⟩:=key len (Nat.le_refl _)
  have hmax : l.length ≤ maxLen:=by omega
  refine ⟨l,⟨hmax,h2⟩,_,_,rfl,?_,rfl⟩
  simp only [RD,List.length_map,h1]
  refine ⟨some a,cap,rfl,hl,?_⟩
  cases l with
  | nil=>exact .inl rfl
  | cons y l =>
   right
   have hspot : a.spot = none:=by
    obtain ⟨vs,h4,h5⟩:=h3 0 y rfl
    obtain ⟨h6,h7⟩:=cells?_get h4
    have hv : vs[0]? = some vs[0]:=List.getElem?_eq_getElem (by omega)
    have:=h7 0 _ hv
    cases hs : a.spot with
    | none=>rfl
    | some s =>
     unfold World.cell? at this
     split at this
     ·simp [Addr.add,hs] at this
     ·cases this
   obtain ⟨b,o,sp⟩:=a
   simp only at hspot
   subst hspot
   refine ⟨b,o,rfl,?_⟩
   have row : ∀ (l : List α) (j : Nat),(∀ i y,l[i]? = some y → ∃ vs,w.cells? base ((⟨b,o,none⟩ : Addr).add ((j + i) * sz)) sz = some vs ∧ RDs w (e y) vs) → RDL (live w) w sz b (l.map e) (o + j * sz):=by
    intro l
    induction l with
    | nil=>intro j _; simp [RDL]
    | cons y l ih =>
     intro j h
     obtain ⟨vs,h4,h5⟩:=h 0 y rfl
     obtain ⟨h6,h7⟩:=cells?_get h4
     refine ⟨hlen y,Qbjt h5 fun i v hv=>?_,?_⟩
     ·have:=h7 i v hv
      rw [Qfv,Qfv] at this
      simpa [Nat.add_assoc] using this
     ·have:=ih (j + 1) fun i y hy=>by
       have:=h (i + 1) y (by simpa using hy)
       rw [show j + 1 + i = j + (i + 1) from by omega]; exact this
      rw [show o + j * sz + sz = o + (j + 1) * sz from by rw [Nat.add_mul]; omega]
      exact this
   have:=row (y :: l) 0 fun i y hy=>by simpa using h3 i y hy
   simpa using this
theorem Qgj {α : Type} {el : TypeId} {e : α → List D} {wf : α → Prop} {sz : Nat} (he : Q79 P el e wf) (hsz : P.cellsOf el = sz) (hlen : ∀ a,(e a).length = sz)
  {H : Type} {enc : TypeId × Value → H} {w : World} {base : Nat} {spare : Nat → Bool} {held : Bool} {fuel off : Nat} {cs : List Value} {x : DataW H × List MemPlace}
  (h : DataW.trod enc P w base spare held fuel el ((cs.drop off).take (P.cellsOf el)) = some x) : ∃ a,wf a ∧ RDat w cs off (e a):=by
 obtain ⟨a,h1,h2⟩:=he h
 refine ⟨a,h1,?_⟩
 unfold RDat
 rw [hlen,← hsz]; exact h2
theorem Qbju {H : Type} {enc : TypeId × Value → H} {w : World} {base : Nat} {spare : Nat → Bool} {held : Bool} {fuel : Nat} {cs : List Value} {x : DataW H × List MemPlace} {fs : Array Field}
  (ht : P.underlying t = some (.struct fs)) (h : DataW.trod enc P w base spare held fuel t cs = some x) :
  cs.length = P.cellsOf t ∧ ∃ n,∀ (i : Nat) (f : Field),fs[i]? = some f → ∃ y,DataW.trod enc P w base spare held n f.type ((cs.drop f.offset).take (P.cellsOf f.type)) = some y:=by
 obtain ⟨xs,n,_,_,h1,h2,h3⟩:=DataW.trod_struct ht h
 refine ⟨h1,n,fun i f hf=>?_⟩
 have hi : i < fs.size:=(Array.getElem?_eq_some_iff.1 hf).1
 exact ⟨xs[i]'(by omega),by rw [h3 i f hf]; exact List.getElem?_eq_getElem (by omega)⟩
theorem Qbkz {H : Type} {enc : TypeId × Value → H} {w : World} {base : Nat} {spare : Nat → Bool} {held : Bool} {fuel : Nat} {cs : List Value} {x : DataW H × List MemPlace} {n : Nat} {el : TypeId}
  (ht : P.underlying t = some (.array n el)) (h : DataW.trod enc P w base spare held fuel t cs = some x) :
  cs.length = P.cellsOf t ∧ ∃ m,∀ i,i < n → ∃ y,DataW.trod enc P w base spare held m el ((cs.drop (i * P.cellsOf el)).take (P.cellsOf el)) = some y:=by
 obtain ⟨xs,m,_,_,h1,h2,h3⟩:=DataW.trod_array ht h
 exact ⟨h1,m,fun i hi=>⟨xs[i]'(by omega),by rw [h3 i hi]; exact List.getElem?_eq_getElem (by omega)⟩⟩
def Qlh {α : Type} (P : Program) (t : TypeId) (v : α → V) (wf : α → Prop) : Prop :=
 ∀ {H : Type} {enc : TypeId × Value → H} {w : World} {base b0 : Nat} {spare : Nat → Bool} {held : Bool} {u : Value} {d : DataW H} {ps : List MemPlace},
  Value.okWide P w .any b0 t u → DataW.Trod enc P w base spare held t u d ps → ∃ a,wf a ∧ RF ⟨fun _=>0,live w,fun _=>.ext⟩ w (v a) u
theorem Qbmf {α : Type} {e : α → D} {wf : α → Prop} (he : Q79 P t (fun a=>[e a]) wf) (hone : ∀ w b0 u,Value.okWide P w .any b0 t u → u.cells = #[u]) : Qlh P t (fun a=>.d (e a)) wf:=by
 intro H enc w base b0 spare held u d ps hok hd
 obtain ⟨fuel,hf⟩:=hd
 rw [hone _ _ _ hok] at hf
 obtain ⟨a,h1,u',us,h2,h3,h4⟩:=he hf
 simp only [RDs] at h4; subst h4
 simp at h2; subst h2
 exact ⟨a,h1,fun ℓ=>by simpa [RV] using h3⟩
theorem Qbjv {el : TypeId} (ht : P.underlying t = some (.slice el)) : ∀ w b0 u,Value.okWide P w .any b0 t u → u.cells = #[u]:=by
 intro w b0 u h
 simp only [Value.okWide,ht] at h
 cases u <;> first | rfl | (simp [Cell.okWide,Cell.ok,ht] at h)
theorem Qbnb {imm : Nat → Nat → Prop} {w : World} {x : D} {u : Value} (h : RD imm w x u) : u.oneCell' = true:=by
 cases x with
 | int k n=>simp only [RD] at h; subst h; rfl
 | bool b=>simp only [RD] at h; subst h; rfl
 | str s=>simp only [RD] at h; subst h; rfl
 | lst sz l=>simp only [RD] at h; obtain ⟨a,cap,rfl,_⟩:=h; cases a <;> rfl
theorem Qbjw {w : World} {g : G} (hg : g.imm = live w) : ∀ {xs : List D} {us : List Value} {ℓ : Owner} {i : Nat},RDs w xs us → RVs g w (xs.map V.d) ℓ i us ∧ ∀ u ∈ us,u.oneCell' = true
 | [],us,ℓ,i,h=>by simp only [RDs] at h; subst h; simp [RVs]
 | x :: xs,us,ℓ,i,⟨u,us',e,r,h⟩=>by
  subst e
  obtain ⟨h1,h2⟩:=Qbjw hg (ℓ:=ℓ) (i:=i + 1) h
  refine ⟨⟨u,us',rfl,by simpa [RV,hg] using r,h1⟩,fun v hv=>?_⟩
  rcases List.mem_cons.1 hv with rfl | hv
  ·exact Qbnb r
  ·exact h2 v hv
theorem Qbjx {α : Type} {e : α → List D} {wf : α → Prop} (he : Q79 P t e wf) (hagg : (∃ fs,P.underlying t = some (.struct fs)) ∨ ∃ n el,P.underlying t = some (.array n el)) : Qlh P t (fun a=>.agg ((e a).map V.d)) wf:=by
 intro H enc w base b0 spare held u d ps hok hd
 obtain ⟨cs,rfl⟩ : ∃ cs,u = .agg cs:=by
  rcases hagg with ⟨fs,ht⟩ | ⟨n,el,ht⟩
  ·simp only [Value.okWide,ht] at hok; obtain ⟨cs,rfl,_⟩:=hok; exact ⟨cs,rfl⟩
  ·simp only [Value.okWide,ht] at hok; obtain ⟨cs,rfl,_⟩:=hok; exact ⟨cs,rfl⟩
 obtain ⟨fuel,hf⟩:=hd
 obtain ⟨a,h1,h2⟩:=he hf
 refine ⟨a,h1,fun ℓ=>?_⟩
 simp only [RV]
 obtain ⟨h3,h4⟩:=Qbjw (g:=⟨fun _=>0,live w,fun _=>.ext⟩) rfl (ℓ:=ℓ) (i:=0) h2
 exact ⟨cs.toList,by simp,h3,h4⟩
def Qbmg (P : Program) (f : FuncId) (ts : List TypeId) : Prop :=
 ∀ {H : Type} {enc : TypeId × Value → H} {w : World} {b0 : Nat} {us : List Value} {ds : List (DataW H)} {ps : List MemPlace},
  (∀ (j : Nat) t u,ts[j]? = some t → us[j]? = some u → Value.okWide P w .any b0 t u) → DataW.TrodAll enc P w 0 (fun _=>true) true ts us ds ps →
  ∃ vs,RFs ⟨fun _=>0,live w,fun _=>.ext⟩ w vs us ∧ (∀ x ∈ vs,Flat x) ∧ V.lt.go 0 vs = true ∧ ∀ M nb,ACalls P f vs M nb (.d (.bool true)) M nb
theorem Q8a (hl : laidOutB P = true) {W W' : World} {sp : Nat → Bool} {H : Type} {enc : TypeId × Value → H} : ∀ {ts : List TypeId} {us : List Value} {ds : List (DataW H)} {ps : List MemPlace},
  (∀ t ∈ ts,P.readableRec t = true ∧ t < P.types.size) → DataW.TrodAll enc P W 0 (fun _=>true) true ts us ds ps → (∀ p ∈ ps,W.sameAt W' p) → (∀ p ∈ ps,sp p.block = true) → DataW.TrodAll enc P W' 0 sp true ts us ds ps
 | [],[],[],ps,_,h,_,_=>h
 | t :: ts,u :: us,d :: ds,ps,hr,⟨p,q,h1,h2,e⟩,hs,hp=>by
  subst e
  obtain ⟨r1,r2⟩:=hr t (by simp)
  exact ⟨p,q,WideElems.Trod_stays hl r1 r2 h1 (fun x hx=>hs x (by simp [hx])) (fun x hx=>hp x (by simp [hx])),Q8a hl (fun t ht=>hr t (by simp [ht])) h2 (fun x hx=>hs x (by simp [hx])) (fun x hx=>hp x (by simp [hx])),rfl⟩
 | [],[],_ :: _,_,_,h,_,_=>h.elim
 | [],_ :: _,_,_,_,h,_,_=>h.elim
 | _ :: _,[],_,_,_,h,_,_=>h.elim
 | _ :: _,_ :: _,[],_,_,h,_,_=>h.elim
theorem Qba9 {W : World} {sp : Nat → Bool} {held : Bool} {base : Nat} {H : Type} {enc : TypeId × Value → H} : ∀ {ts : List TypeId} {us : List Value} {ds : List (DataW H)} {ps : List MemPlace},
  DataW.TrodAll enc P W base sp held ts us ds ps → ds.length = ts.length ∧ us.length = ts.length
 | [],[],[],ps,h=>⟨rfl,rfl⟩
 | t :: ts,u :: us,d :: ds,ps,⟨p,q,h1,h2,e⟩=>by have:=Qba9 h2; simp [this.1,this.2]
 | [],[],_ :: _,_,h=>h.elim
 | [],_ :: _,_,_,h=>h.elim
 | _ :: _,[],_,_,h=>h.elim
 | _ :: _,_ :: _,[],_,h=>h.elim
theorem Qbmh {C : Checked} {f : FuncId} {fn : Func} {s : ChangeSpec} {conds : List PathCond} {bt : TypeId} {os : Os} {H : Type} {enc : TypeId × Value → H}
  (own : ownKnob C.prog.godebug = none) (started : os.Started) (noInit : C.prog.inits.idxOf? f = none) (hfn : C.prog.funcs[f]? = some fn)
  (witness : ∃ (w : World) (tape : Tape) (i : Input),w.os = os ∧ (w.forCall tape i).Shaped C.prog ∧ i.vars = [] ∧ Input.okWide C.prog (w.forCall tape i) .any w.heap.size f i ∧
   s.pre6 enc C.prog fn conds false (w.forCall tape i).memory i.args ∧ ({} : Assume).holds C.prog (lone (Frame.enter C.prog f i.args .normal) [] (w.forCall tape i)))
  (hvars : s.vars = []) (hres : fn.resultTypes = #[bt]) (hbt : C.prog.underlying bt = some .bool)
  (hl : laidOutB C.prog = true) (hread : ∀ t ∈ fn.params.toList,C.prog.readableRec t = true ∧ t < C.prog.types.size)
  (hspec : ∀ ds : List (DataW H),ds.length = fn.params.size → s.fn H ds = { results:=[.lit (.bool true)],args:=ds })
  (law : Qbmg C.prog f fn.params.toList) :
  ReturnsInHanded {} C os f .any (s.pre6 enc C.prog fn conds false) (s.post enc C.prog fn false true false false):=by
 refine returnsInHanded_of_change own started noInit hfn witness ?_
 intro W base args ds gs before hval hW hcnd _
 have hW':=hW
 obtain ⟨p,q,hA,hV,hps,hfz,hnd⟩:=hW
 rw [hvars] at hV
 obtain ⟨rfl,rfl⟩ : gs = [] ∧ q = []:=by
  cases gs with
  | nil=>exact ⟨rfl,hV⟩
  | cons _ _=>exact hV.elim
 obtain ⟨vs,h1,h2,h3,h4⟩:=law (fun j t u ht hu=>hval j t u (by simpa using ht) (by simpa using hu)) hA
 obtain ⟨hb,_,h5⟩:=h4 (fun _=>none) 0
 have hlv : ∀ b o,live W b o → b < W.heap.size:=by
  intro b o h
  simp only [live] at h
  obtain ⟨v,hv⟩:=Option.isSome_iff_exists.1 h
  unfold World.cell? at hv
  split at hv
  ·rename_i hh; exact (Array.getElem?_eq_some_iff.1 hh).1
  ·cases hv
 have hmr : MR ⟨fun _=>0,live W,fun _=>.ext⟩ W (fun _=>none) 0:=⟨fun k b h=>(by cases h),fun b o h=>⟨hlv b o h,fun k h=>by cases h⟩⟩
 have h6:=h5 W ⟨fun _=>0,live W,fun _=>.ext⟩ args.toList hmr (fun k cs h=>by cases h) (fun b=>⟨fun t p h=>(by cases h),fun p h=>(by cases h)⟩) h1 h2 (ons_mono (fun k hk=>absurd hk (Nat.not_lt_zero k)) _ (ons_lt vs h3))
 refine Calls.mono h6 fun e W' ⟨v,g',he,_,hr,_,_,hf⟩=>?_
 subst he
 have hv : v = .bool true:=by simpa [RV,RD] using hr
 subst hv
 have hbelow : Below W.heap.size W W':=⟨hf.os,hf.tape,hf.output,hf.size,fun k hk=>(hf.old k hk trivial).2.1⟩
 have hrl : (Value.bool true).resultList fn.resultTypes.size = [.bool true]:=by rw [hres]; rfl
 have hsp : s.fn H (ds ++ []) = { results:=[.lit (.bool true)],args:=ds }:=by
  rw [List.append_nil]
  exact hspec ds (by have:=(Qba9 hA).1; simpa using this)
 have hlt : ∀ p ∈ before,p.block < W.heap.size:=fun x hx=>hW'.lt x hx
 have hst : ∀ sp : Nat → Bool,(∀ p ∈ before,sp p.block = true) → DataW.TrodAll enc C.prog W' 0 sp true fn.params.toList args.toList ds before:=by
  intro sp hsp'
  have e : p = before:=by rw [hps,List.append_nil]
  subst e
  exact Q8a hl hread hA (fun x hx=>hbelow.same (hlt x hx)) hsp'
 refine ⟨_,rfl,ds,[],before,[],before,[],hW',?_,?_,?_,World.keptBut_mono (fun p hp=>⟨hp,.inr (.inl hp)⟩) (hbelow.frame (· ∈ before)),fun h=>by cases h⟩
 ·rw [hsp,hrl,hres]
  exact ⟨[],[],⟨1,by simp [DataW.trod,Value.cells,hbt]⟩,rfl,rfl⟩
 ·rw [hsp]
  exact hst _ fun p hp=>by simpa using hlt p hp
 ·rw [hsp,hvars]; rfl
section
variable {α β γ δ : Type} {f : FuncId} {ta tb tc td : TypeId} {va : α → V} {vb : β → V} {vc : γ → V} {vd : δ → V} {wa : α → Prop} {wb : β → Prop} {wc : γ → Prop} {wd : δ → Prop}
theorem Qpl {H : Type} {enc : TypeId × Value → H} {w : World} {base : Nat} {sp : Nat → Bool} {held : Bool} {t : TypeId} {ts : List TypeId} {us : List Value} {ds : List (DataW H)} {ps : List MemPlace} (h : DataW.TrodAll enc P w base sp held (t :: ts) us ds ps) :
  ∃ u us' d ds' p q,us = u :: us' ∧ ds = d :: ds' ∧ DataW.Trod enc P w base sp held t u d p ∧ DataW.TrodAll enc P w base sp held ts us' ds' q:=by
 match us,ds,h with
 | u :: us',d :: ds',⟨p,q,h1,h2,_⟩=>exact ⟨u,us',d,ds',p,q,rfl,rfl,h1,h2⟩
 | [],[],h=>exact h.elim
 | [],_ :: _,h=>exact h.elim
 | _ :: _,[],h=>exact h.elim
theorem Qbba {H : Type} {enc : TypeId × Value → H} {w : World} {base : Nat} {sp : Nat → Bool} {held : Bool} {us : List Value} {ds : List (DataW H)} {ps : List MemPlace} (h : DataW.TrodAll enc P w base sp held [] us ds ps) : us = []:=by
 match us,ds,h with
 | [],[],_=>rfl
 | [],_ :: _,h=>exact h.elim
 | _ :: _,[],h=>exact h.elim
 | _ :: _,_ :: _,h=>exact h.elim
theorem Qbnn (ra : Qlh P ta va wa) (fa : ∀ a,(va a).dem = va a) (la : ∀ a,(va a).lt 0 = true) (rb : Qlh P tb vb wb) (fb : ∀ a,(vb a).dem = vb a) (lb : ∀ a,(vb a).lt 0 = true)
  (law : ∀ a b,wa a → wb b → ∀ M nb,ACalls P f [va a,vb b] M nb (.d (.bool true)) M nb) : Qbmg P f [ta,tb]:=by
 intro H enc w b0 us ds ps hok hT
 obtain ⟨u,us',d,ds',p,q,rfl,rfl,h1,hT⟩:=Qpl hT
 obtain ⟨u2,us',d2,ds',p2,q2,rfl,rfl,h2,hT⟩:=Qpl hT
 obtain rfl:=Qbba hT
 obtain ⟨a,ha,hra⟩:=ra (hok 0 _ _ rfl rfl) h1
 obtain ⟨b,hb,hrb⟩:=rb (hok 1 _ _ rfl rfl) h2
 refine ⟨[va a,vb b],⟨u,_,rfl,hra,u2,_,rfl,hrb,rfl⟩,?_,by simp [V.lt.go,la,lb],law a b ha hb⟩
 intro x hx
 simp only [List.mem_cons,List.not_mem_nil,or_false] at hx
 rcases hx with rfl | rfl
 ·exact fa a
 ·exact fb b
theorem Qbno (ra : Qlh P ta va wa) (fa : ∀ a,(va a).dem = va a) (la : ∀ a,(va a).lt 0 = true) (rb : Qlh P tb vb wb) (fb : ∀ a,(vb a).dem = vb a) (lb : ∀ a,(vb a).lt 0 = true)
  (rc : Qlh P tc vc wc) (fc : ∀ a,(vc a).dem = vc a) (lc : ∀ a,(vc a).lt 0 = true)
  (law : ∀ a b c,wa a → wb b → wc c → ∀ M nb,ACalls P f [va a,vb b,vc c] M nb (.d (.bool true)) M nb) : Qbmg P f [ta,tb,tc]:=by
 intro H enc w b0 us ds ps hok hT
 obtain ⟨u,us',d,ds',p,q,rfl,rfl,h1,hT⟩:=Qpl hT
 obtain ⟨u2,us',d2,ds',p2,q2,rfl,rfl,h2,hT⟩:=Qpl hT
 obtain ⟨u3,us',d3,ds',p3,q3,rfl,rfl,h3,hT⟩:=Qpl hT
 obtain rfl:=Qbba hT
 obtain ⟨a,ha,hra⟩:=ra (hok 0 _ _ rfl rfl) h1
 obtain ⟨b,hb,hrb⟩:=rb (hok 1 _ _ rfl rfl) h2
 obtain ⟨c,hc,hrc⟩:=rc (hok 2 _ _ rfl rfl) h3
 refine ⟨[va a,vb b,vc c],⟨u,_,rfl,hra,u2,_,rfl,hrb,u3,_,rfl,hrc,rfl⟩,?_,by simp [V.lt.go,la,lb,lc],law a b c ha hb hc⟩
 intro x hx
 simp only [List.mem_cons,List.not_mem_nil,or_false] at hx
 rcases hx with rfl | rfl | rfl
 ·exact fa a
 ·exact fb b
 ·exact fc c
end
theorem Qbjy {H : Type} {enc : TypeId × Value → H} {w : World} {base : Nat} {spare : Nat → Bool} {held : Bool} {fuel : Nat} {cs : List Value} {x : DataW H × List MemPlace} {n sz : Nat} {el : TypeId}
  (ht : P.underlying t = some (.array n el)) (hsz : P.cellsOf el = sz) (h : DataW.trod enc P w base spare held fuel t cs = some x) :
  cs.length = P.cellsOf t ∧ ∃ m,∀ i,i < n → ∃ y,DataW.trod enc P w base spare held m el ((cs.drop (i * sz)).take (P.cellsOf el)) = some y:=by
 obtain ⟨h1,m,h2⟩:=Qbkz ht h
 exact ⟨h1,m,fun i hi=>by have:=h2 i hi; rwa [show i * P.cellsOf el = i * sz from by rw [hsz]] at this⟩
end Go.Abs
end
section
namespace Go.Proofs
open Go Go.Abs
set_option linter.unusedVariables false
set_option maxRecDepth 100000
def W_22 (x : Int) : Prop:=wfI .u8 x
theorem R_22 : Q79 Tryz.prog 22 (eI .u8) W_22:=Qba8 Tryz.underlying22
def W_45 (x : Int × Int) : Prop:=W_22 x.1 ∧ W_22 x.2
theorem R_45 : Q79 Tryz.prog 45 (fun p : Int × Int=>[.int .u8 p.1,.int .u8 p.2]) W_45:=by
  intro H enc w base spare held fuel cs x h
  obtain ⟨hl,n,hf⟩:=Qbjy (sz:=1) Tryz.underlying45 (by kernel_rfl) h
  obtain ⟨y0,h0⟩:=hf 0 (by decide)
  obtain ⟨a0,w0,r0⟩:=Qgj (off:=0 * 1) (sz:=1) R_22 (by kernel_rfl) (fun _=>rfl) h0
  obtain ⟨y1,h1⟩:=hf 1 (by decide)
  obtain ⟨a1,w1,r1⟩:=Qgj (off:=1 * 1) (sz:=1) R_22 (by kernel_rfl) (fun _=>rfl) h1
  exact ⟨(a0,a1),⟨w0,w1⟩,RDat.all (xs:=(fun p : Int × Int=>[.int .u8 p.1,.int .u8 p.2]) (a0,a1)) (RDat.app r0 rfl r1) (hl.trans (by kernel_rfl))⟩
theorem A_45 : Qlh Tryz.prog 45 (fun (a : Int × Int)=>.agg [.d (.int .u8 a.1),.d (.int .u8 a.2)]) W_45:=Qbjx R_45 (.inr ⟨_,_,Tryz.underlying45⟩)
def W_5 (x : Int) : Prop:=wfI .u8 x
theorem R_5 : Q79 Tryz.prog 5 (eI .u8) W_5:=Qba8 Tryz.underlying5
def W_23 (x : Int × Int × Int × Int × Int) : Prop:=W_5 x.1 ∧ W_5 x.2.1 ∧ W_5 x.2.2.1 ∧ W_5 x.2.2.2.1 ∧ W_5 x.2.2.2.2
theorem R_23 : Q79 Tryz.prog 23 (fun p : Int × Int × Int × Int × Int=>[.int .u8 p.1,.int .u8 p.2.1,.int .u8 p.2.2.1,.int .u8 p.2.2.2.1,.int .u8 p.2.2.2.2]) W_23:=by
  intro H enc w base spare held fuel cs x h
  obtain ⟨hl,n,hf⟩:=Qbjy (sz:=1) Tryz.underlying23 (by kernel_rfl) h
  obtain ⟨y0,h0⟩:=hf 0 (by decide)
  obtain ⟨a0,w0,r0⟩:=Qgj (off:=0 * 1) (sz:=1) R_5 (by kernel_rfl) (fun _=>rfl) h0
  obtain ⟨y1,h1⟩:=hf 1 (by decide)
  obtain ⟨a1,w1,r1⟩:=Qgj (off:=1 * 1) (sz:=1) R_5 (by kernel_rfl) (fun _=>rfl) h1
  obtain ⟨y2,h2⟩:=hf 2 (by decide)
  obtain ⟨a2,w2,r2⟩:=Qgj (off:=2 * 1) (sz:=1) R_5 (by kernel_rfl) (fun _=>rfl) h2
  obtain ⟨y3,h3⟩:=hf 3 (by decide)
  obtain ⟨a3,w3,r3⟩:=Qgj (off:=3 * 1) (sz:=1) R_5 (by kernel_rfl) (fun _=>rfl) h3
  obtain ⟨y4,h4⟩:=hf 4 (by decide)
  obtain ⟨a4,w4,r4⟩:=Qgj (off:=4 * 1) (sz:=1) R_5 (by kernel_rfl) (fun _=>rfl) h4
  exact ⟨(a0,a1,a2,a3,a4),⟨w0,w1,w2,w3,w4⟩,RDat.all (xs:=(fun p : Int × Int × Int × Int × Int=>[.int .u8 p.1,.int .u8 p.2.1,.int .u8 p.2.2.1,.int .u8 p.2.2.2.1,.int .u8 p.2.2.2.2]) (a0,a1,a2,a3,a4)) (RDat.app r0 rfl (RDat.app r1 rfl (RDat.app r2 rfl (RDat.app r3 rfl r4)))) (hl.trans (by kernel_rfl))⟩
def W_24 (x : (Int × Int × Int × Int × Int) × (Int × Int × Int × Int × Int) × (Int × Int × Int × Int × Int) × (Int × Int × Int × Int × Int) × (Int × Int × Int × Int × Int)) : Prop:=W_23 x.1 ∧ W_23 x.2.1 ∧ W_23 x.2.2.1 ∧ W_23 x.2.2.2.1 ∧ W_23 x.2.2.2.2
theorem R_24 : Q79 Tryz.prog 24 (fun p : (Int × Int × Int × Int × Int) × (Int × Int × Int × Int × Int) × (Int × Int × Int × Int × Int) × (Int × Int × Int × Int × Int) × (Int × Int × Int × Int × Int)=>[.int .u8 p.1.1,.int .u8 p.1.2.1,.int .u8 p.1.2.2.1,.int .u8 p.1.2.2.2.1,.int .u8 p.1.2.2.2.2,.int .u8 p.2.1.1,.int .u8 p.2.1.2.1,.int .u8 p.2.1.2.2.1,.int .u8 p.2.1.2.2.2.1,.int .u8 p.2.1.2.2.2.2,.int .u8 p.2.2.1.1,.int .u8 p.2.2.1.2.1,.int .u8 p.2.2.1.2.2.1,.int .u8 p.2.2.1.2.2.2.1,.int .u8 p.2.2.1.2.2.2.2,.int .u8 p.2.2.2.1.1,.int .u8 p.2.2.2.1.2.1,.int .u8 p.2.2.2.1.2.2.1,.int .u8 p.2.2.2.1.2.2.2.1,.int .u8 p.2.2.2.1.2.2.2.2,.int .u8 p.2.2.2.2.1,.int .u8 p.2.2.2.2.2.1,.int .u8 p.2.2.2.2.2.2.1,.int .u8 p.2.2.2.2.2.2.2.1,.int .u8 p.2.2.2.2.2.2.2.2]) W_24:=by
  intro H enc w base spare held fuel cs x h
  obtain ⟨hl,n,hf⟩:=Qbjy (sz:=5) Tryz.underlying24 (by kernel_rfl) h
  obtain ⟨y0,h0⟩:=hf 0 (by decide)
  obtain ⟨a0,w0,r0⟩:=Qgj (off:=0 * 5) (sz:=5) R_23 (by kernel_rfl) (fun _=>rfl) h0
  obtain ⟨y1,h1⟩:=hf 1 (by decide)
  obtain ⟨a1,w1,r1⟩:=Qgj (off:=1 * 5) (sz:=5) R_23 (by kernel_rfl) (fun _=>rfl) h1
  obtain ⟨y2,h2⟩:=hf 2 (by decide)
  obtain ⟨a2,w2,r2⟩:=Qgj (off:=2 * 5) (sz:=5) R_23 (by kernel_rfl) (fun _=>rfl) h2
  obtain ⟨y3,h3⟩:=hf 3 (by decide)
  obtain ⟨a3,w3,r3⟩:=Qgj (off:=3 * 5) (sz:=5) R_23 (by kernel_rfl) (fun _=>rfl) h3
  obtain ⟨y4,h4⟩:=hf 4 (by decide)
  obtain ⟨a4,w4,r4⟩:=Qgj (off:=4 * 5) (sz:=5) R_23 (by kernel_rfl) (fun _=>rfl) h4
  exact ⟨(a0,a1,a2,a3,a4),⟨w0,w1,w2,w3,w4⟩,RDat.all (xs:=(fun p : (Int × Int × Int × Int × Int) × (Int × Int × Int × Int × Int) × (Int × Int × Int × Int × Int) × (Int × Int × Int × Int × Int) × (Int × Int × Int × Int × Int)=>[.int .u8 p.1.1,.int .u8 p.1.2.1,.int .u8 p.1.2.2.1,.int .u8 p.1.2.2.2.1,.int .u8 p.1.2.2.2.2,.int .u8 p.2.1.1,.int .u8 p.2.1.2.1,.int .u8 p.2.1.2.2.1,.int .u8 p.2.1.2.2.2.1,.int .u8 p.2.1.2.2.2.2,.int .u8 p.2.2.1.1,.int .u8 p.2.2.1.2.1,.int .u8 p.2.2.1.2.2.1,.int .u8 p.2.2.1.2.2.2.1,.int .u8 p.2.2.1.2.2.2.2,.int .u8 p.2.2.2.1.1,.int .u8 p.2.2.2.1.2.1,.int .u8 p.2.2.2.1.2.2.1,.int .u8 p.2.2.2.1.2.2.2.1,.int .u8 p.2.2.2.1.2.2.2.2,.int .u8 p.2.2.2.2.1,.int .u8 p.2.2.2.2.2.1,.int .u8 p.2.2.2.2.2.2.1,.int .u8 p.2.2.2.2.2.2.2.1,.int .u8 p.2.2.2.2.2.2.2.2]) (a0,a1,a2,a3,a4)) (RDat.app r0 rfl (RDat.app r1 rfl (RDat.app r2 rfl (RDat.app r3 rfl r4)))) (hl.trans (by kernel_rfl))⟩
def W_26 (x : Q7) : Prop:=W_5 x.States ∧ W_5 x.Marks ∧ W_24 x.To
theorem R_26 : Q79 Tryz.prog 26 Qlk W_26:=by
  intro H enc w base spare held fuel cs x h
  obtain ⟨hl,n,hf⟩:=Qbju Tryz.underlying26 h
  obtain ⟨y0,h0⟩:=hf 0 _ rfl
  obtain ⟨a0,w0,r0⟩:=Qgj (off:=0) (sz:=1) R_5 (by kernel_rfl) (fun _=>rfl) h0
  obtain ⟨y1,h1⟩:=hf 1 _ rfl
  obtain ⟨a1,w1,r1⟩:=Qgj (off:=1) (sz:=1) R_5 (by kernel_rfl) (fun _=>rfl) h1
  obtain ⟨y2,h2⟩:=hf 2 _ rfl
  obtain ⟨a2,w2,r2⟩:=Qgj (off:=2) (sz:=25) R_24 (by kernel_rfl) (fun _=>rfl) h2
  exact ⟨⟨a0,a1,a2⟩,⟨w0,w1,w2⟩,RDat.all (xs:=Qlk ⟨a0,a1,a2⟩) (RDat.app r0 rfl (RDat.app r1 rfl r2)) (hl.trans (by kernel_rfl))⟩
theorem A_26 : Qlh Tryz.prog 26 (fun (a : Q7)=>.agg [.d (.int .u8 a.States),.d (.int .u8 a.Marks),.d (.int .u8 a.To.1.1),.d (.int .u8 a.To.1.2.1),.d (.int .u8 a.To.1.2.2.1),.d (.int .u8 a.To.1.2.2.2.1),.d (.int .u8 a.To.1.2.2.2.2),.d (.int .u8 a.To.2.1.1),.d (.int .u8 a.To.2.1.2.1),.d (.int .u8 a.To.2.1.2.2.1),.d (.int .u8 a.To.2.1.2.2.2.1),.d (.int .u8 a.To.2.1.2.2.2.2),.d (.int .u8 a.To.2.2.1.1),.d (.int .u8 a.To.2.2.1.2.1),.d (.int .u8 a.To.2.2.1.2.2.1),.d (.int .u8 a.To.2.2.1.2.2.2.1),.d (.int .u8 a.To.2.2.1.2.2.2.2),.d (.int .u8 a.To.2.2.2.1.1),.d (.int .u8 a.To.2.2.2.1.2.1),.d (.int .u8 a.To.2.2.2.1.2.2.1),.d (.int .u8 a.To.2.2.2.1.2.2.2.1),.d (.int .u8 a.To.2.2.2.1.2.2.2.2),.d (.int .u8 a.To.2.2.2.2.1),.d (.int .u8 a.To.2.2.2.2.2.1),.d (.int .u8 a.To.2.2.2.2.2.2.1),.d (.int .u8 a.To.2.2.2.2.2.2.2.1),.d (.int .u8 a.To.2.2.2.2.2.2.2.2)]) W_26:=Qbjx R_26 (.inl ⟨_,Tryz.underlying26⟩)
def W_3 (x : Int) : Prop:=wfI .i64 x
theorem R_3 : Q79 Tryz.prog 3 (eI .i64) W_3:=Qba8 Tryz.underlying3
def W_27 (x : List Int) : Prop:=wfL W_3 x
theorem R_27 : Q79 Tryz.prog 27 (eL 1 (eI .i64)) W_27:=Qbf3 Tryz.underlying27 R_3 (by kernel_rfl) (by decide) (fun _=>rfl)
theorem A_27 : Qlh Tryz.prog 27 (fun (a : List Int)=>.d (.lst 1 (List.map (eI .i64) a))) W_27:=Qbmf R_27 (Qbjv Tryz.underlying27)
end Go.Proofs
end
section
namespace Go.Abs
open Go
theorem Qfc {X R : Type} {F : (X → Option R) → X → Option R} (I : X → Prop) (m : X → Nat) (Q : X → Option R → Prop)
  (step : ∀ (k : X → Option R) (x : X),I x → (∀ y,I y → m y < m x → Q y (k y)) → Q x (F k x)) : ∀ (fuel : Nat) (x : X),I x → m x < fuel → Q x (Qcf F fuel x)
 | 0,x,_,h=>absurd h (Nat.not_lt_zero _)
 | fuel + 1,x,hi,h=>step _ x hi fun y hy hm=>Qfc I m Q step fuel y hy (by omega)
theorem Qbg0 {X R : Type} {F : (X → Option R) → X → Option R} {fuel : Nat} {x : X} (I : X → Prop) (m : X → Nat) (q : Option R) (hi : I x) (hm : m x < fuel)
  (step : ∀ (k : X → Option R) (x : X),I x → (∀ y,I y → m y < m x → k y = q) → F k x = q) : Qcf F fuel x = q :=
 Qfc I m (fun _ r=>r = q) step fuel x hi hm
theorem Q88 {x : Int} (h1 : -9223372036854775808 ≤ x) (h2 : x ≤ 9223372036854775807) : IntKind.wrap .i64 x = x:=by
 simp [IntKind.wrap,IntKind.bits,IntKind.signed]; omega
theorem Q6 {n : Nat} (h : n < 9223372036854775807) : IntKind.wrap .i64 ((n : Int) + 1) = ((n + 1 : Nat) : Int):=by
 rw [Q88 (by omega) (by omega)]; omega
theorem Qca {α : Type} {l : List α} {n : Nat} (h : n < l.length) : getO l (n : Int) = some l[n]:=by
 simp [getO,h]
theorem Qtm {α : Type} {l : List α} {i : Int} {x : α} : getO l i = some x ↔ 0 ≤ i ∧ l[i.toNat]? = some x:=by
 unfold getO; split
 ·rename_i h; simp [h]
 ·rename_i h; simp only [reduceCtorEq,false_iff,not_and]; exact fun h'=>absurd h' h
theorem Qdt {α : Type} {l m : List α} (h : l.length + m.length ≤ lim) : appO l m = some (l ++ m):=by
 unfold appO; rw [if_pos h]
theorem Qbey {α : Type} {s t : List α} {k : Nat} (hs : k < s.length) (ht : k < t.length) (h : s.take k = t.take k) (he : s[k] = t[k]) : s.take (k + 1) = t.take (k + 1):=by
 rw [List.take_add_one,List.take_add_one,h,List.getElem?_eq_getElem hs,List.getElem?_eq_getElem ht,he]
theorem Qpm {R : Type} {F : (Int → Option R) → Int → Option R} {len fuel : Nat} (G : Nat → Option R) (hf : len < fuel)
  (step : ∀ (k : Int → Option R) (n : Nat),n < len → k ((n + 1 : Nat) : Int) = G (n + 1) → F k (n : Int) = G n) (last : ∀ k : Int → Option R,F k (len : Int) = G len) : Qcf F fuel 0 = G 0:=by
 have:=Qfc (F:=F) (fun x=>∃ n : Nat,x = (n : Int) ∧ n ≤ len) (fun x=>len - x.toNat) (fun x r=>∀ n : Nat,x = (n : Int) → r = G n) (fun k x hx ih=>by
  obtain ⟨n,rfl,hn⟩:=hx
  intro m hm
  obtain rfl : n = m:=by omega
  by_cases h : n < len
  ·exact step k n h (ih _ ⟨n + 1,rfl,by omega⟩ (by omega) (n + 1) rfl)
  ·obtain rfl : n = len:=by omega
   exact last k) fuel 0 ⟨0,rfl,by omega⟩ (by simpa using hf)
 exact this 0 rfl
theorem Qbez {n : Nat} (h0 : 0 < n) (h : n < 9223372036854775807) : IntKind.wrap .i64 ((n : Int) - 1) = ((n - 1 : Nat) : Int):=by
 rw [Q88 (by omega) (by omega)]; omega
theorem Qbk0 {X S R : Type} {F : (X → Option R) → X → Option R} {len : Nat} (mk : Nat → S → X) (G : Nat → S → Option R)
  (step : ∀ (k : X → Option R) (n : Nat) (s : S),n < len → (∀ s',k (mk (n + 1) s') = G (n + 1) s') → F k (mk n s) = G n s) (last : ∀ (k : X → Option R) (s : S),F k (mk len s) = G len s) :
  ∀ (fuel n : Nat) (s : S),n ≤ len → len - n < fuel → Qcf F fuel (mk n s) = G n s
 | 0,n,s,_,h=>by omega
 | fuel + 1,n,s,hn,h=>by
  show F (Qcf F fuel) (mk n s) = _
  by_cases hlt : n < len
  ·exact step _ n s hlt fun s'=>Qbk0 mk G step last fuel (n + 1) s' (by omega) (by omega)
  ·obtain rfl : n = len:=by omega
   exact last _ s
theorem Qbht : ∀ {l m : List Int},l.Pairwise (· < ·) → m.Pairwise (· < ·) → (∀ x,x ∈ l ↔ x ∈ m) → l = m
 | l,m,h1,h2,h=>by
  have n1 : l.Nodup:=h1.imp fun h=>by omega
  have n2 : m.Nodup:=h2.imp fun h=>by omega
  have hp : l.Perm m:=(List.perm_ext_iff_of_nodup n1 n2).2 h
  exact List.Perm.eq_of_pairwise (le:=(· < ·)) (fun a b _ _ h1 h2=>by omega) h1 h2 hp
section
variable {α : Type} {p : α → Bool}
end
theorem Qkb {X S R : Type} {F : (X → Option R) → X → Option R} {len : Nat} (mk : Nat → S → X) (I : Nat → S → Prop) (G : Nat → S → Option R)
  (step : ∀ (k : X → Option R) (n : Nat) (s : S),n < len → I n s → (∀ s',I (n + 1) s' → k (mk (n + 1) s') = G (n + 1) s') → F k (mk n s) = G n s) (last : ∀ (k : X → Option R) (s : S),I len s → F k (mk len s) = G len s) :
  ∀ (fuel n : Nat) (s : S),n ≤ len → len - n < fuel → I n s → Qcf F fuel (mk n s) = G n s
 | 0,n,s,_,h,_=>by omega
 | fuel + 1,n,s,hn,h,hi=>by
  show F (Qcf F fuel) (mk n s) = _
  by_cases hlt : n < len
  ·exact step _ n s hlt hi fun s' hi'=>Qkb mk I G step last fuel (n + 1) s' (by omega) (by omega) hi'
  ·obtain rfl : n = len:=by omega
   exact last _ s hi
theorem Qh7 : ∀ {l : List Int} {a b : Int},l.Pairwise (· < ·) → (∀ x ∈ l,a ≤ x ∧ x < b) → l.length ≤ (b - a).toNat
 | [],_,_,_,_=>by simp
 | x :: xs,a,b,h,hr=>by
  obtain ⟨h1,h2⟩:=List.pairwise_cons.1 h
  have:=Qh7 (a:=x + 1) (b:=b) h2 fun y hy=>⟨by have:=h1 y hy; omega,(hr y (by simp [hy])).2⟩
  have:=hr x (by simp)
  simp only [List.length_cons]
  omega
end Go.Abs
end
section
namespace Go.Abs
abbrev big : Nat := 1000000000000
def small (a : Qb) : Prop := a.Alphabet.length < big ∧ a.Marked.length < big ∧ a.Edges.length < big
end Go.Abs
end
section
namespace Go.Abs
open Go
set_option linter.unusedSimpArgs false
def Qe2 (n : Int) : Option Int → List Int → Int
 | _,[]=>0
 | p,x :: xs=>if x < 0 ∨ x ≥ n then 2 else if ∃ y,p = some y ∧ x ≤ y then 5 else Qe2 n (some x) xs
def Qi9 (al : List Int) (st : Int) : Option Qe → List Qe → Int
 | _,[]=>0
 | p,x :: xs=>if x.From < 0 ∨ x.From ≥ st ∨ x.To < 0 ∨ x.To ≥ st then 2 else if x.Event ∉ al then 9 else if ∃ y,p = some y ∧ (x.From < y.From ∨ x.From = y.From ∧ x.Event ≤ y.Event) then 5 else Qi9 al st (some x) xs
def Qxr (a : Qb) : Int :=
 if Qe2 32 none a.Alphabet ≠ 0 then Qe2 32 none a.Alphabet else if a.States < 0 then 2 else if a.States > 4096 then 3 else
 if Qe2 a.States none a.Marked ≠ 0 then Qe2 a.States none a.Marked else Qi9 a.Alphabet a.States none a.Edges
def ahead {α : Type} (l : List α) (n : Nat) : Option α:=if n = 0 then none else l[n - 1]?
theorem Q3j {α : Type} (l : List α) : ahead l 0 = none:=rfl
theorem Qbcm {α : Type} (l : List α) {n : Nat} (h : n < l.length) : ahead l (n + 1) = some l[n]:=by simp [ahead,h]
theorem Qbe0 {α : Type} (l : List α) {n : Nat} (h0 : 0 < n) (h : n ≤ l.length) : ahead l n = some (l[n - 1]'(by omega)):=by
 simp [ahead,show n ≠ 0 from by omega,show n - 1 < l.length from by omega]
theorem Qbe1 {n : Int} {l : List Int} {k : Nat} (h : k < l.length) : Qe2 n (ahead l k) (l.drop k) = if l[k] < 0 ∨ l[k] ≥ n then 2 else if ∃ y,ahead l k = some y ∧ l[k] ≤ y then 5 else Qe2 n (ahead l (k + 1)) (l.drop (k + 1)):=by
 rw [List.drop_eq_getElem_cons h,Qe2,Qbcm l h]
theorem Qbdn {al : List Int} {n : Int} {l : List Qe} {k : Nat} (h : k < l.length) : Qi9 al n (ahead l k) (l.drop k) = if l[k].From < 0 ∨ l[k].From ≥ n ∨ l[k].To < 0 ∨ l[k].To ≥ n then 2 else if l[k].Event ∉ al then 9 else if ∃ y,ahead l k = some y ∧ (l[k].From < y.From ∨ l[k].From = y.From ∧ l[k].Event ≤ y.Event) then 5 else Qi9 al n (ahead l (k + 1)) (l.drop (k + 1)):=by
 rw [List.drop_eq_getElem_cons h,Qi9,Qbcm l h]
theorem Q69 {l : List Int} {n : Int} (hl : l.length < big) : Qf0 l n = some (Qe2 n none l):=by
 unfold Qf0 Qby
 refine (Qpm (len:=l.length) (fun k=>some (Qe2 n (ahead l k) (l.drop k))) (by unfold Qbj; unfold big at hl; omega) ?_ ?_).trans (by simp [Q3j])
 ·intro k i hi ih
  have hb : i < 1000000000000:=by unfold big at hl; omega
  rw [Qbe1 hi]
  try dsimp only
  rw [if_pos (by omega),Qca hi,Q6 (by omega),ih]
  simp only [Option.bind_some]
  by_cases h1 : l[i] < 0
  ·simp [h1]
  ·by_cases h2 : l[i] ≥ n
   ·simp [h1,h2]
   ·by_cases h0 : 0 < i
    ·rw [Qbez h0 (by omega),Qca (by omega : i - 1 < l.length),Qbe0 l h0 (by omega)]
     by_cases h3 : l[i] ≤ l[i - 1] <;> simp [h1,h2,h3,h0]
    ·obtain rfl : i = 0:=by omega
     simp [h1,h2,Q3j]
 ·intro k; simp [Qe2]
theorem Qbk1 {l : List Int} {v : Int} (hl : l.length < big) : Qg4 l v = some (if v ∈ l then (l.idxOf v : Int) else -1):=by
 unfold Qg4 Qct
 refine (Qpm (len:=l.length) (fun k=>some (if v ∈ l.drop k then ((k + (l.drop k).idxOf v : Nat) : Int) else -1)) (by unfold Qbj; unfold big at hl; omega) ?_ ?_).trans (by simp)
 ·intro k i hi ih
  have hb : i < 1000000000000:=by unfold big at hl; omega
  try dsimp only
  rw [if_pos (by omega),Qca hi,Q6 (by omega),ih,List.drop_eq_getElem_cons hi]
  simp only [Option.bind_some,List.mem_cons,List.idxOf_cons]
  by_cases h : v = l[i]
  ·simp [← h]
  ·have : ¬ l[i] = v:=fun e=>h e.symm
   have hbq : (l[i] == v) = false:=by simp [this]
   by_cases h2 : v ∈ l.drop (i + 1) <;> simp [h,h2,hbq]
   omega
 ·intro k; simp
theorem Qpn {l : List Int} {v : Int} (hl : l.length < big) : Q9 l v = some (decide (v ∈ l)):=by
 unfold Q9 Qk
 rw [Qbk1 hl]
 simp only [Option.bind_some,Option.some.injEq]
 by_cases h : v ∈ l <;> simp [h]
theorem Qbg1 {l : List Int} {v : Int} (hl : l.length < big) : Qc5 l v = some (decide (v ∈ l)):=by
 unfold Qc5 Qbh
 refine (Qpm (len:=l.length) (fun k=>some (decide (v ∈ l.drop k))) (by unfold Qbj; unfold big at hl; omega) ?_ ?_).trans (by simp)
 ·intro k i hi ih
  have hb : i < 1000000000000:=by unfold big at hl; omega
  try dsimp only
  rw [if_pos (by omega),Qca hi,Q6 (by omega),ih,List.drop_eq_getElem_cons hi]
  simp only [Option.bind_some,List.mem_cons]
  by_cases h : l[i] = v
  ·simp [h]
  ·have : ¬ v = l[i]:=fun e=>h e.symm
   simp [h,this]
 ·intro k; simp
theorem Qbdo {a : Qb} (h : small a) : Qe5 a = some (Qi9 a.Alphabet a.States none a.Edges):=by
 obtain ⟨hal,_,hl⟩:=h
 unfold Qe5 Qbv
 refine (Qpm (len:=a.Edges.length) (fun k=>some (Qi9 a.Alphabet a.States (ahead a.Edges k) (a.Edges.drop k))) (by unfold Qbj; unfold big at hl; omega) ?_ ?_).trans (by simp [Q3j])
 ·intro k i hi ih
  have hb : i < 1000000000000:=by unfold big at hl; omega
  rw [Qbdn hi]
  unfold letJ
  try dsimp only
  rw [if_pos (by omega),Qca hi,Q6 (by omega),ih]
  simp only [Option.bind_some,Qpn hal]
  generalize a.Edges[i] = x
  by_cases h1 : x.From < 0
  ·simp [h1]
  by_cases h2 : x.From ≥ a.States
  ·simp [h1,h2]
  by_cases h3 : x.To < 0
  ·simp [h1,h2,h3]
  by_cases h4 : x.To ≥ a.States
  ·simp [h1,h2,h3,h4]
  by_cases h5 : x.Event ∈ a.Alphabet
  ·by_cases h0 : 0 < i
   ·rw [Qbez h0 (by omega),Qca (by omega : i - 1 < a.Edges.length),Qbe0 a.Edges h0 (by omega)]
    generalize a.Edges[i - 1] = y
    have hi0 : i ≠ 0:=by omega
    by_cases h6 : x.From < y.From
    ·simp [h1,h2,h3,h4,h5,h6,hi0]
    by_cases h7 : y.From = x.From
    ·by_cases h8 : x.Event ≤ y.Event <;> simp [h1,h2,h3,h4,h5,h6,h7,h8,hi0]
    ·have h7' : ¬ x.From = y.From:=fun e=>h7 e.symm
     simp [h1,h2,h3,h4,h5,h6,h7,hi0,h7']
   ·obtain rfl : i = 0:=by omega
    simp [h1,h2,h3,h4,h5,Q3j]
  ·simp [h1,h2,h3,h4,h5]
 ·intro k; unfold letJ; simp [Qi9]
theorem Qbk2 {a : Qb} (h : small a) : Qgb a = some (Qxr a):=by
 unfold Qgb Qbn Qxr
 rw [Q69 h.1,Q69 h.2.1,Qbdo h]
 simp only [Option.bind_some]
 by_cases h1 : Qe2 32 none a.Alphabet = 0
 ·by_cases h2 : a.States < 0
  ·simp [h1,h2]
  by_cases h3 : a.States > 4096
  ·simp [h1,h2,h3]
  by_cases h4 : Qe2 a.States none a.Marked = 0 <;> simp [h1,h2,h3,h4]
 ·simp [h1]
end Go.Abs
end
section
namespace Go.Abs
open Go
set_option linter.unusedSimpArgs false
set_option linter.unusedVariables false
def Qpo (x y : Qe) : Prop:=x.From < y.From ∨ x.From = y.From ∧ x.Event < y.Event
instance (x y : Qe) : Decidable (Qpo x y):=by unfold Qpo; infer_instance
structure Right (a : Qb) : Prop where
 al0 : ∀ x ∈ a.Alphabet,0 ≤ x ∧ x < 32
 al : a.Alphabet.Pairwise (· < ·)
 st : 0 ≤ a.States ∧ a.States ≤ 4096
 ma0 : ∀ x ∈ a.Marked,0 ≤ x ∧ x < a.States
 ma : a.Marked.Pairwise (· < ·)
 ed0 : ∀ x ∈ a.Edges,0 ≤ x.From ∧ x.From < a.States ∧ 0 ≤ x.To ∧ x.To < a.States ∧ x.Event ∈ a.Alphabet
 ed : a.Edges.Pairwise Qpo
theorem Qhs {n : Int} : ∀ {l : List Int} {p : Option Int},Qe2 n p l = 0 ↔ (∀ x ∈ l,0 ≤ x ∧ x < n) ∧ l.Pairwise (· < ·) ∧ ∀ y,p = some y → ∀ x ∈ l,y < x
 | [],p=>by simp [Qe2]
 | x :: xs,p=>by
  rw [Qe2]
  split
  ·rename_i h
   refine ⟨fun h=>by omega,fun hh=>?_⟩
   have:=hh.1 x (by simp); omega
  ·rename_i h
   split
   ·rename_i h2
    obtain ⟨y,hy,hxy⟩:=h2
    refine ⟨fun h=>by omega,fun hh=>?_⟩
    have:=hh.2.2 y hy x (by simp); omega
   ·rename_i h2
    rw [Qhs]
    constructor
    ·rintro ⟨k1,k2,k3⟩
     refine ⟨fun z hz=>?_,List.pairwise_cons.2 ⟨fun z hz=>k3 x rfl z hz,k2⟩,fun y hy z hz=>?_⟩
     ·rcases List.mem_cons.1 hz with rfl | hz
      ·omega
      ·exact k1 z hz
     ·have hyx : y < x:=by
       rcases Int.lt_or_le y x with h | h
       ·exact h
       ·exact absurd ⟨y,hy,h⟩ h2
      rcases List.mem_cons.1 hz with rfl | hz
      ·exact hyx
      ·have:=k3 x rfl z hz; omega
    ·rintro ⟨k1,k2,k3⟩
     obtain ⟨k4,k5⟩:=List.pairwise_cons.1 k2
     exact ⟨fun z hz=>k1 z (by simp [hz]),k5,fun y hy z hz=>by cases hy; exact k4 z hz⟩
theorem Qxs {al : List Int} {n : Int} : ∀ {l : List Qe} {p : Option Qe},Qi9 al n p l = 0 ↔ (∀ x ∈ l,0 ≤ x.From ∧ x.From < n ∧ 0 ≤ x.To ∧ x.To < n ∧ x.Event ∈ al) ∧ l.Pairwise Qpo ∧ ∀ y,p = some y → ∀ x ∈ l,Qpo y x
 | [],p=>by simp [Qi9]
 | x :: xs,p=>by
  have tr : ∀ a b c : Qe,Qpo a b → Qpo b c → Qpo a c:=fun a b c h k=>by unfold Qpo at *; omega
  rw [Qi9]
  split
  ·rename_i h
   refine ⟨fun h=>by omega,fun hh=>?_⟩
   have:=hh.1 x (by simp); omega
  ·rename_i h
   split
   ·rename_i h2
    refine ⟨fun h=>by omega,fun hh=>?_⟩
    exact absurd (hh.1 x (by simp)).2.2.2.2 h2
   ·rename_i hal
    split
    ·rename_i h2
     obtain ⟨y,hy,hxy⟩:=h2
     refine ⟨fun h=>by omega,fun hh=>?_⟩
     have:=hh.2.2 y hy x (by simp)
     unfold Qpo at this; omega
    ·rename_i h2
     rw [Qxs]
     constructor
     ·rintro ⟨k1,k2,k3⟩
      refine ⟨fun z hz=>?_,List.pairwise_cons.2 ⟨fun z hz=>k3 x rfl z hz,k2⟩,fun y hy z hz=>?_⟩
      ·rcases List.mem_cons.1 hz with rfl | hz
       ·exact ⟨by omega,by omega,by omega,by omega,Decidable.not_not.1 hal⟩
       ·exact k1 z hz
      ·have hyx : Qpo y x:=by
        apply Decidable.byContradiction
        intro h
        exact h2 ⟨y,hy,by unfold Qpo at h; omega⟩
       rcases List.mem_cons.1 hz with rfl | hz
       ·exact hyx
       ·exact tr _ _ _ hyx (k3 x rfl z hz)
     ·rintro ⟨k1,k2,k3⟩
      obtain ⟨k4,k5⟩:=List.pairwise_cons.1 k2
      exact ⟨fun z hz=>k1 z (by simp [hz]),k5,fun y hy z hz=>by cases hy; exact k4 z hz⟩
theorem Qbjz {a : Qb} : Qxr a = 0 ↔ Right a:=by
 unfold Qxr
 constructor
 ·intro h
  split at h
  ·rename_i h1; exact absurd h h1
  rename_i h1
  split at h
  ·omega
  split at h
  ·omega
  split at h
  ·rename_i h4; exact absurd h h4
  rename_i h4
  have q1:=Qhs.1 (Decidable.not_not.1 h1)
  have q2:=Qhs.1 (Decidable.not_not.1 h4)
  have q3:=Qxs.1 h
  exact ⟨q1.1,q1.2.1,⟨by omega,by omega⟩,q2.1,q2.2.1,q3.1,q3.2.1⟩
 ·intro h
  have q1 : Qe2 32 none a.Alphabet = 0:=Qhs.2 ⟨h.al0,h.al,fun y hy=>by cases hy⟩
  have q2 : Qe2 a.States none a.Marked = 0:=Qhs.2 ⟨h.ma0,h.ma,fun y hy=>by cases hy⟩
  have q3 : Qi9 a.Alphabet a.States none a.Edges = 0:=Qxs.2 ⟨h.ed0,h.ed,fun y hy=>by cases hy⟩
  have:=h.st
  rw [if_neg (by simp [q1]),if_neg (by omega),if_neg (by omega),if_neg (by simp [q2]),q3]
def outP (a : Qb) (s : Int) : List Qe:=a.Edges.filter fun x=>x.From == s
def Qkc (a : Qb) (s e : Int) : Int:=match a.Edges.find? fun x=>x.From == s && x.Event == e with
 | some x=>x.To
 | none=>-1
section
variable {a : Qb} (h : Right a) (hs : small a)
include h hs
omit h in
theorem Qbcn {s e : Int} : Qb9 a s e = some (Qkc a s e):=by
 have hb : a.Edges.length < 1000000000000:=hs.2.2
 unfold Qb9 Qbd
 refine (Qpm (len:=a.Edges.length) (fun k=>some (match (a.Edges.drop k).find? (fun x=>x.From == s && x.Event == e) with | some x=>x.To | none=>-1)) (by unfold Qbj; omega) ?_ ?_).trans (by simp [Qkc])
 ·intro k i hi ih
  rw [if_pos (by omega),Qca hi,Q6 (by omega),ih,List.drop_eq_getElem_cons hi]
  simp only [Option.bind_some,List.find?_cons]
  cases h1 : a.Edges[i].From == s <;> cases h2 : a.Edges[i].Event == e <;> simp [h1,h2]
 ·intro k; simp
end
theorem Qbf4 {a : Qb} (h : Right a) (s e : Int) : Qkc a s e = -1 ∨ 0 ≤ Qkc a s e ∧ Qkc a s e < a.States ∧ 0 ≤ s ∧ s < a.States ∧ e ∈ a.Alphabet:=by
 unfold Qkc
 split
 ·rename_i x hx
  have hm:=List.mem_of_find?_eq_some hx
  have hp:=List.find?_some hx
  obtain ⟨k1,k2,k3,k4,k5⟩:=h.ed0 x hm
  simp at hp
  exact .inr ⟨k3,k4,by omega,by omega,hp.2 ▸ k5⟩
 ·exact .inl rfl
theorem Qbe2 {a : Qb} (h : Right a) {s e : Int} : 0 ≤ Qkc a s e ↔ ∃ x ∈ outP a s,x.Event = e:=by
 unfold Qkc outP
 split
 ·rename_i x hx
  have hm:=List.mem_of_find?_eq_some hx
  have hp:=List.find?_some hx
  simp at hp
  refine ⟨fun _=>⟨x,by simp [hm,hp.1],hp.2⟩,fun _=>(h.ed0 x hm).2.2.1⟩
 ·rename_i hx
  have:=List.find?_eq_none.1 hx
  refine ⟨fun h=>by omega,?_⟩
  rintro ⟨x,h1,h2⟩
  simp at h1
  exact absurd (by simp [h1.2,h2]) (this x h1.1)
theorem Q7a {a : Qb} (h : Right a) (s : Int) : (outP a s).map (·.Event) = a.Alphabet.filter fun e=>decide (0 ≤ Qkc a s e):=by
 refine Qbht ?_ (h.al.filter _) fun e=>?_
 ·rw [List.pairwise_map]
  have h1 : (outP a s).Pairwise Qpo:=h.ed.filter _
  have h2 : ∀ x ∈ outP a s,x.From = s:=fun x hx=>by unfold outP at hx; simp at hx; exact hx.2
  exact List.Pairwise.imp_of_mem (fun {x y} hx hy hk=>by have:=h2 x hx; have:=h2 y hy; unfold Qpo at hk; omega) h1
 ·simp only [List.mem_map,List.mem_filter,decide_eq_true_eq,Qbe2 h]
  constructor
  ·rintro ⟨x,hx,rfl⟩
   refine ⟨?_,x,hx,rfl⟩
   unfold outP at hx; simp at hx; exact (h.ed0 x hx.1).2.2.2.2
  ·rintro ⟨_,x,hx,rfl⟩; exact ⟨x,hx,rfl⟩
theorem Qbe3 {a : Qb} (h : Right a) {s : Int} {x : Qe} (hx : x ∈ outP a s) : Qkc a s x.Event = x.To:=by
 unfold outP at hx
 simp at hx
 unfold Qkc
 split
 ·rename_i y hy
  have hm:=List.mem_of_find?_eq_some hy
  have hp:=List.find?_some hy
  simp at hp
  have : x = y:=by
   rcases Classical.em (x = y) with e | hne
   ·exact e
   ·exfalso
    have hk : Qpo x y ∨ Qpo y x:=by
     have:=List.pairwise_iff_getElem.1 h.ed
     obtain ⟨i,hi,rfl⟩:=List.getElem_of_mem hx.1
     obtain ⟨j,hj,rfl⟩:=List.getElem_of_mem hm
     rcases Nat.lt_trichotomy i j with hij | hij | hij
     ·exact .inl (this i j hi hj hij)
     ·subst hij; exact absurd rfl hne
     ·exact .inr (this j i hj hi hij)
    unfold Qpo at hk; omega
  rw [this]
 ·rename_i hn
  exact absurd (by simp [hx.2]) (List.find?_eq_none.1 hn x hx.1)
end Go.Abs
end
section
namespace Go.Abs
open Go
set_option linter.unusedSimpArgs false
set_option linter.unusedVariables false
theorem Right.small {a : Qb} (h : Right a) : small a ∧ a.Alphabet.length ≤ 32 ∧ a.Marked.length ≤ 4096 ∧ a.Edges.length ≤ 131072:=by
 have h1:=Qh7 h.al h.al0
 have h2:=Qh7 h.ma h.ma0
 have h3 : (a.Edges.map fun x=>x.From * 32 + x.Event).Pairwise (· < ·):=by
  rw [List.pairwise_map]
  refine List.Pairwise.imp_of_mem (fun {x y} hx hy hk=>?_) h.ed
  have:=h.al0 _ (h.ed0 x hx).2.2.2.2
  have:=h.al0 _ (h.ed0 y hy).2.2.2.2
  unfold Qpo at hk; omega
 have h4:=Qh7 (a:=0) (b:=131072) h3 (by
  intro z hz
  obtain ⟨x,hx,rfl⟩:=List.mem_map.1 hz
  have:=h.al0 _ (h.ed0 x hx).2.2.2.2
  have:=h.ed0 x hx
  have:=h.st
  omega)
 rw [List.length_map] at h4
 have:=h.st
 refine ⟨⟨?_,?_,?_⟩,?_,?_,?_⟩ <;> (try unfold big) <;> omega
theorem Qbnc {l : List Int} {v : Int} (hl : l.length < big) : Qjn l v = some (decide (v ∈ l)):=Qbg1 hl
end Go.Abs
end
section
namespace Go.Abs
open Go
set_option linter.unusedSimpArgs false
set_option linter.unusedVariables false
def ins (o : List Int) (t : Int) : List Int:=if t ∈ o then o else o ++ [t]
def Qtn (a : Qb) (s : Int) : List Int:=(outP a s).map (·.To)
def bfs (a : Qb) : Nat → Nat → List Int → List Int
 | 0,_,o=>o
 | fuel + 1,i,o=>match o[i]? with
  | some s=>bfs a fuel (i + 1) ((Qtn a s).foldl ins o)
  | none=>o
def Ql5 (a : Qb) : List Int:=bfs a (a.States.toNat + 1) 0 (if 0 < a.States then [0] else [])
structure Fnd (a : Qb) (o : List Int) : Prop where
 nd : o.Nodup
 rg : ∀ s ∈ o,0 ≤ s ∧ s < a.States
theorem Fnd.len {a : Qb} {o : List Int} (h : Fnd a o) : o.length ≤ a.States.toNat:=by
 have hO : Go.Sort.SWO Qe7:=⟨fun x=>by simp [Qe7],fun x y z h1 h2=>by simp [Qe7] at *; omega,fun x y z h1 h2=>by simp [Qe7] at *; omega⟩
 have hp:=Qjm Qe7 o
 have hs:=Qj5 hO o
 have hn : (Qh8 Qe7 o).Nodup:=(hp.nodup_iff).2 h.nd
 have hlt : (Qh8 Qe7 o).Pairwise (· < ·):=by
  have : (Qh8 Qe7 o).Pairwise fun x y=>Qe7 y x = false ∧ x ≠ y:=hs.and hn
  exact this.imp fun ⟨h1,h2⟩=>by simp [Qe7] at h1; omega
 have:=Qh7 hlt (a:=0) (b:=a.States) fun x hx=>h.rg x (hp.mem_iff.1 hx)
 rw [Qnx] at this
 simpa using this
theorem Qbbb {o : List Int} {t x : Int} : x ∈ ins o t ↔ x ∈ o ∨ x = t:=by
 unfold ins; split
 ·rename_i h; constructor
  ·exact .inl
  ·rintro (h' | rfl)
   ·exact h'
   ·exact h
 ·simp
theorem Qbmi (o : List Int) (t : Int) : o <+: ins o t:=by
 unfold ins; split
 ·exact List.prefix_refl o
 ·exact List.prefix_append o [t]
theorem Fnd.ins {a : Qb} {o : List Int} (h : Fnd a o) {t : Int} (ht : 0 ≤ t ∧ t < a.States) : Fnd a (ins o t):=by
 refine ⟨?_,fun s hs=>?_⟩
 ·unfold Go.Abs.ins; split
  ·exact h.nd
  ·rename_i hn
   rw [List.nodup_append]
   exact ⟨h.nd,by simp,fun x hx y hy=>by simp at hy; subst hy; exact fun e=>hn (e ▸ hx)⟩
 ·rcases Qbbb.1 hs with hs | rfl
  ·exact h.rg s hs
  ·exact ht
theorem Q26 {a : Qb} : ∀ {ts o : List Int},Fnd a o → (∀ t ∈ ts,0 ≤ t ∧ t < a.States) → Fnd a (ts.foldl ins o) ∧ o <+: ts.foldl ins o ∧ (∀ t ∈ ts,t ∈ ts.foldl ins o) ∧ ∀ x ∈ ts.foldl ins o,x ∈ o ∨ x ∈ ts
 | [],o,h,_=>⟨h,List.prefix_refl o,by simp,fun x hx=>.inl hx⟩
 | t :: ts,o,h,ht=>by
  obtain ⟨h1,h2,h3,h4⟩:=Q26 (ts:=ts) (h.ins (ht t (by simp))) fun t ht'=>ht t (by simp [ht'])
  refine ⟨h1,(Qbmi o t).trans h2,fun x hx=>?_,fun x hx=>?_⟩
  ·rcases List.mem_cons.1 hx with rfl | hx
   ·exact h2.subset (Qbbb.2 (.inr rfl))
   ·exact h3 x hx
  ·rcases h4 x hx with h5 | h5
   ·rcases Qbbb.1 h5 with h6 | rfl
    ·exact .inl h6
    ·exact .inr (by simp)
   ·exact .inr (by simp [h5])
theorem Q7b {a : Qb} (h : Right a) (s : Int) : ∀ t ∈ Qtn a s,0 ≤ t ∧ t < a.States:=by
 intro t ht
 unfold Qtn outP at ht
 obtain ⟨x,hx,rfl⟩:=List.mem_map.1 ht
 have:=h.ed0 x ((List.mem_filter.1 hx).1)
 omega
theorem Q89 {α : Type} {l m : List α} (h : l <+: m) {i : Nat} {x : α} (hx : l[i]? = some x) : m[i]? = some x:=by
 obtain ⟨t,rfl⟩:=h
 have:=(List.getElem?_eq_some_iff.1 hx).1
 rw [List.getElem?_append_left this]; exact hx
theorem Qbdp {a : Qb} (h : Right a) : ∀ (fuel i : Nat) (o : List Int),Fnd a o → i ≤ o.length → a.States.toNat + 1 ≤ fuel + i → (∀ j s,j < i → o[j]? = some s → ∀ t ∈ Qtn a s,t ∈ o) →
  Fnd a (bfs a fuel i o) ∧ o <+: bfs a fuel i o ∧ ∀ s ∈ bfs a fuel i o,∀ t ∈ Qtn a s,t ∈ bfs a fuel i o
 | 0,i,o,hf,hi,hfu,_=>by have:=hf.len; omega
 | fuel + 1,i,o,hf,hi,hfu,hc=>by
  unfold bfs
  cases hg : o[i]? with
  | none =>
   dsimp only
   refine ⟨hf,List.prefix_refl o,fun s hs t ht=>?_⟩
   obtain ⟨j,hj⟩:=List.getElem?_of_mem hs
   have hlt:=(List.getElem?_eq_some_iff.1 hj).1
   exact hc j s (by have:=List.getElem?_eq_none_iff.1 hg; omega) hj t ht
  | some s =>
   dsimp only
   obtain ⟨h1,h2,h3,_⟩:=Q26 hf (Q7b h s)
   have hlen : i < o.length:=(List.getElem?_eq_some_iff.1 hg).1
   have hle:=h2.length_le
   obtain ⟨k1,k2,k3⟩:=Qbdp h fuel (i + 1) ((Qtn a s).foldl ins o) h1 (by omega) (by omega) (fun j s' hj hs' t ht=>by
    by_cases hji : j < i
    ·have hjl : j < o.length:=by omega
     have : o[j]? = some s':=by
      have:=Q89 h2 (List.getElem?_eq_getElem hjl)
      rw [hs'] at this; rw [List.getElem?_eq_getElem hjl]; exact this.symm
     exact h2.subset (hc j s' hji this t ht)
    ·obtain rfl : j = i:=by omega
     have:=Q89 h2 hg
     rw [hs'] at this; cases this
     exact h3 t ht)
   exact ⟨k1,h2.trans k2,k3⟩
theorem Qbco {a : Qb} (h : Right a) : Fnd a (Ql5 a) ∧ (if 0 < a.States then [0] else []) <+: Ql5 a ∧ ∀ s ∈ Ql5 a,∀ t ∈ Qtn a s,t ∈ Ql5 a :=
 Qbdp h _ 0 _ ⟨by split <;> simp,fun s hs=>by split at hs <;> simp at hs; subst hs; omega⟩ (Nat.zero_le _) (by omega) fun j s hj=>by omega
def Q5t (m : List Int) : Nat → List Int → List Int
 | _,[]=>[]
 | i,s :: t=>(if s ∈ m then [(i : Int)] else []) ++ Q5t m (i + 1) t
def rowP (a : Qb) (F : List Int) (i : Nat) (s : Int) : List Qe:=(outP a s).map fun x=>⟨(i : Int),x.Event,(F.idxOf x.To : Int)⟩
def Q5u (a : Qb) (F : List Int) : Nat → List Int → List Qe
 | _,[]=>[]
 | i,s :: t=>rowP a F i s ++ Q5u a F (i + 1) t
def Q8b (a : Qb) : Qb:=⟨a.Alphabet,((Ql5 a).length : Int),Q5t a.Marked 0 (Ql5 a),Q5u a (Ql5 a) 0 (Ql5 a)⟩
theorem Q27 {m : List Int} : ∀ {l : List Int} {i : Nat},∀ x ∈ Q5t m i l,(i : Int) ≤ x ∧ x < (i + l.length : Nat)
 | [],i,x,hx=>by simp [Q5t] at hx
 | s :: t,i,x,hx=>by
  simp only [Q5t,List.mem_append] at hx
  rcases hx with hx | hx
  ·split at hx <;> simp at hx
   subst hx; simp only [List.length_cons]; omega
  ·have:=Q27 x hx; simp only [List.length_cons]; omega
theorem Q8c {m : List Int} : ∀ {l : List Int} {i : Nat},(Q5t m i l).Pairwise (· < ·)
 | [],i=>.nil
 | s :: t,i=>by
  simp only [Q5t]
  rw [List.pairwise_append]
  refine ⟨by split <;> simp,Q8c,fun x hx y hy=>?_⟩
  have:=Q27 y hy
  split at hx <;> simp at hx
  omega
theorem Q7c {a : Qb} {F : List Int} : ∀ {l : List Int} {i : Nat},∀ x ∈ Q5u a F i l,(i : Int) ≤ x.From ∧ x.From < (i + l.length : Nat) ∧ ∃ s ∈ l,∃ y ∈ outP a s,x.Event = y.Event ∧ x.To = (F.idxOf y.To : Int)
 | [],i,x,hx=>by simp [Q5u] at hx
 | s :: t,i,x,hx=>by
  simp only [Q5u,List.mem_append] at hx
  rcases hx with hx | hx
  ·obtain ⟨y,hy,rfl⟩:=List.mem_map.1 hx
   simp only [List.length_cons]
   exact ⟨by omega,by omega,s,by simp,y,hy,rfl,rfl⟩
  ·obtain ⟨h1,h2,s',h3,h4⟩:=Q7c x hx
   simp only [List.length_cons]
   exact ⟨by omega,by omega,s',by simp [h3],h4⟩
theorem Q8d {a : Qb} (h : Right a) {F : List Int} : ∀ {l : List Int} {i : Nat},(Q5u a F i l).Pairwise Qpo
 | [],i=>.nil
 | s :: t,i=>by
  simp only [Q5u]
  rw [List.pairwise_append]
  refine ⟨?_,Q8d h,fun x hx y hy=>?_⟩
  ·unfold rowP
   rw [List.pairwise_map]
   have h1 : (outP a s).Pairwise Qpo:=h.ed.filter _
   have h2 : ∀ x ∈ outP a s,x.From = s:=fun x hx=>by unfold outP at hx; simp at hx; exact hx.2
   exact List.Pairwise.imp_of_mem (fun {x y} hx hy hk=>by have:=h2 x hx; have:=h2 y hy; unfold Qpo at hk; exact .inr ⟨rfl,by show x.Event < y.Event; omega⟩) h1
  ·obtain ⟨z,_,rfl⟩:=List.mem_map.1 hx
   have:=(Q7c y hy).1
   unfold Qpo; simp only; omega
theorem Qbe4 {a : Qb} (h : Right a) : Right (Q8b a):=by
 obtain ⟨h1,h2,h3⟩:=Qbco h
 have hl:=h1.len
 have hst:=h.st
 refine ⟨h.al0,h.al,⟨by simp only [Q8b]; omega,by simp only [Q8b]; omega⟩,fun x hx=>?_,Q8c,fun x hx=>?_,Q8d h⟩
 ·have:=Q27 x hx; simp only [Q8b]; omega
 ·obtain ⟨k1,k2,s,hs,y,hy,k3,k4⟩:=Q7c x hx
  have hy' : y.To ∈ Ql5 a:=h3 s hs y.To (List.mem_map.2 ⟨y,hy,rfl⟩)
  have:=List.idxOf_lt_length_iff.2 hy'
  simp only [Q8b]
  refine ⟨by omega,by omega,by omega,by omega,?_⟩
  rw [k3]
  unfold outP at hy
  exact (h.ed0 y ((List.mem_filter.1 hy).1)).2.2.2.2
end Go.Abs
end
section
namespace Go.Abs
open Go
set_option linter.unusedSimpArgs false
set_option linter.unusedVariables false
theorem Qbg2 {l : List Int} (hl : l.length ≤ lim) : Qeb l = some ⟨l,0,[],[]⟩:=by
 unfold Qeb Q2
 rw [Qdt (by simpa using hl)]; rfl
theorem Qbf5 {l : List Int} {v : Int} (hl : l.length < big) : Qec l v = some (if v ∈ l then (l.idxOf v : Int) else -1):=by
 have hb : l.length < 1000000000000:=hl
 unfold Qec Qb4
 refine (Qpm (len:=l.length) (fun k=>some (if v ∈ l.drop k then ((k + (l.drop k).idxOf v : Nat) : Int) else -1)) (by unfold Qbj; omega) ?_ ?_).trans (by simp)
 ·intro k i hi ih
  rw [if_pos (by omega),Qca hi,Q6 (by omega),ih,List.drop_eq_getElem_cons hi]
  simp only [Option.bind_some,List.mem_cons,List.idxOf_cons]
  by_cases h : v = l[i]
  ·simp [← h]
  ·have h' : ¬ l[i] = v:=fun e=>h e.symm
   have hbq : (l[i] == v) = false:=by simp [h']
   by_cases h2 : v ∈ l.drop (i + 1) <;> simp [h,h2,hbq]
   omega
 ·intro k; simp
theorem Q9l {a : Qb} (h : Right a) (s : Int) : Qtn a s = (a.Alphabet.filter fun e=>decide (0 ≤ Qkc a s e)).map (Qkc a s):=by
 rw [← Q7a h,List.map_map]
 unfold Qtn
 exact List.map_congr_left fun x hx=>(Qbe3 h hx).symm
theorem Qbcp {a : Qb} (s : Int) : ∀ (al o : List Int),al.foldl (fun o e=>if 0 ≤ Qkc a s e then ins o (Qkc a s e) else o) o = ((al.filter fun e=>decide (0 ≤ Qkc a s e)).map (Qkc a s)).foldl ins o
 | [],o=>rfl
 | e :: al,o=>by
  by_cases hx : 0 ≤ Qkc a s e <;> simp [List.filter_cons,hx,Qbcp s al]
theorem Qbg3 {a : Qb} {fuel i : Nat} {o : List Int} (hi : i < o.length) : bfs a (fuel + 1) i o = bfs a fuel (i + 1) ((Qtn a o[i]).foldl ins o):=by
 conv=>lhs; unfold bfs
 rw [List.getElem?_eq_getElem hi]
theorem Qbj0 {a : Qb} {fuel : Nat} {o : List Int} : bfs a fuel o.length o = o:=by
 cases fuel with
 | zero=>rfl
 | succ n=>unfold bfs; simp
section
variable {a : Qb} (h : Right a)
include h
theorem Qbhu (fuel : Nat) (hfu : 1099511627776 ≤ fuel) {s : Int} {o : List Int} {i : Nat} (hf : Fnd a o) (hi : o[i]? = some s) :
  Qcf (fun k12 ((out10,k11) : (List Int) × Int)=>(if (k11 < (a.Alphabet.length : Int)) then ((((getO out10 (i : Int)).bind fun x14=>((getO a.Alphabet k11).bind fun x16=>((Qb9 a x14 x16).bind fun x19=>(((if (x19 ≥ 0) then ((Qc5 out10 x19).bind fun x22=>some (!x22)) else some false)).bind fun (x23 : Bool)=>(if x23 then ((appO out10 [x19]).bind fun x25=>some x25) else some out10)))))).bind fun (out27 : List Int)=>k12 (out27,(IntKind.wrap .i64 (k11 + 1)))) else some out10)) fuel (o,0) = some ((Qtn a s).foldl ins o):=by
 have hs:=h.small.1
 have hst:=h.st
 have hb : a.Alphabet.length < 1000000000000:=hs.1
 rw [Q9l h,← Qbcp]
 refine (Qkb (len:=a.Alphabet.length) (fun n (acc : List Int)=>(acc,(n : Int))) (fun n acc=>Fnd a acc ∧ acc[i]? = some s) (fun n acc=>some ((a.Alphabet.drop n).foldl (fun o e=>if 0 ≤ Qkc a s e then ins o (Qkc a s e) else o) acc)) ?_ ?_ fuel 0 o (Nat.zero_le _) (by omega) ⟨hf,hi⟩).trans (by simp)
 ·intro k n acc hn ⟨k1,k2⟩ ih
  have hlen:=k1.len
  have hg : getO acc (i : Int) = some s:=by rw [Qtm]; exact ⟨by omega,by simpa using k2⟩
  dsimp only
  rw [if_pos (by omega),hg,Qca hn]
  simp only [Option.bind_some]
  rw [Qbcn hs,Q6 (by omega)]
  simp only [Option.bind_some]
  rw [Qbg1 (by unfold big; omega),List.drop_eq_getElem_cons hn,List.foldl_cons]
  rcases Qbf4 h s a.Alphabet[n] with hr | hr
  ·rw [hr]; simp only [show ¬ ((-1 : Int) ≥ 0) from by omega,show ¬ ((0 : Int) ≤ -1) from by omega,if_false,Option.bind_some,Bool.false_eq_true]
   exact ih _ ⟨k1,k2⟩
  ·have hge : Qkc a s a.Alphabet[n] ≥ 0:=hr.1
   by_cases hm : Qkc a s a.Alphabet[n] ∈ acc
   ·simp only [hge,hm,decide_true,Bool.not_true,if_true,Option.bind_some,Bool.false_eq_true,if_false,hr.1,ins]
    exact ih _ ⟨k1,k2⟩
   ·simp only [hge,hm,decide_false,Bool.not_false,if_true,Option.bind_some,hr.1,ins,if_false]
    rw [Qdt (by simp only [List.length_cons,List.length_nil]; unfold lim; omega)]
    simp only [Option.bind_some]
    have hi':=k1.ins (t:=Qkc a s a.Alphabet[n]) ⟨hr.1,hr.2.1⟩
    unfold ins at hi'
    rw [if_neg hm] at hi'
    exact ih _ ⟨hi',Q89 (List.prefix_append acc _) k2⟩
 ·intro k acc _
  dsimp only
  rw [if_neg (by omega)]; simp
theorem Qbf6 : Qfi a = some (Ql5 a):=by
 have hs:=h.small.1
 have hst:=h.st
 unfold Qfi Qb3
 obtain ⟨fuel,hfu,hge⟩ : ∃ f,Qbj = f ∧ 1099511627776 ≤ f:=⟨_,rfl,Nat.le_refl _⟩
 rw [hfu]
 have hloop : ∀ o : List Int,Fnd a o → Qcf (fun (k8 : List Int × Int → Option (List Int)) ((out6,i7) : (List Int) × Int)=>(if (i7 < (out6.length : Int)) then ((Qcf (fun k12 ((out10,k11) : (List Int) × Int)=>(if (k11 < (a.Alphabet.length : Int)) then ((((getO out10 i7).bind fun x14=>((getO a.Alphabet k11).bind fun x16=>((Qb9 a x14 x16).bind fun x19=>(((if (x19 ≥ 0) then ((Qc5 out10 x19).bind fun x22=>some (!x22)) else some false)).bind fun (x23 : Bool)=>(if x23 then ((appO out10 [x19]).bind fun x25=>some x25) else some out10)))))).bind fun (out27 : List Int)=>k12 (out27,(IntKind.wrap .i64 (k11 + 1)))) else some out10)) fuel (out6,0)).bind fun (out28 : List Int)=>k8 (out28,(IntKind.wrap .i64 (i7 + 1)))) else some out6)) fuel (o,0) = some (bfs a (a.States.toNat + 1) 0 o):=by
  intro o ho
  have:=Qfc (F:=fun (k8 : List Int × Int → Option (List Int)) ((out6,i7) : (List Int) × Int)=>(if (i7 < (out6.length : Int)) then ((Qcf (fun k12 ((out10,k11) : (List Int) × Int)=>(if (k11 < (a.Alphabet.length : Int)) then ((((getO out10 i7).bind fun x14=>((getO a.Alphabet k11).bind fun x16=>((Qb9 a x14 x16).bind fun x19=>(((if (x19 ≥ 0) then ((Qc5 out10 x19).bind fun x22=>some (!x22)) else some false)).bind fun (x23 : Bool)=>(if x23 then ((appO out10 [x19]).bind fun x25=>some x25) else some out10)))))).bind fun (out27 : List Int)=>k12 (out27,(IntKind.wrap .i64 (k11 + 1)))) else some out10)) fuel (out6,0)).bind fun (out28 : List Int)=>k8 (out28,(IntKind.wrap .i64 (i7 + 1)))) else some out6))
   (fun x=>∃ i : Nat,x.2 = (i : Int) ∧ i ≤ x.1.length ∧ Fnd a x.1) (fun x=>a.States.toNat + 1 - x.2.toNat) (fun x r=>r = some (bfs a (a.States.toNat + 1 - x.2.toNat) x.2.toNat x.1)) (by
    rintro k ⟨o,i⟩ ⟨i,rfl,hi,hf⟩ ih
    replace hi : i ≤ o.length:=hi
    replace hf : Fnd a o:=hf
    have hl:=hf.len
    dsimp only
    by_cases hlt : i < o.length
    ·rw [if_pos (by omega),Qbhu h fuel hge hf (List.getElem?_eq_getElem hlt),Option.bind_some,Q6 (by omega)]
     obtain ⟨q1,q2,_,_⟩:=Q26 hf (Q7b h o[i])
     have hle:=q2.length_le
     rw [ih _ ⟨i + 1,rfl,by simp only; omega,q1⟩ (by simp only; omega)]
     simp only [Int.toNat_natCast]
     rw [show a.States.toNat + 1 - i = (a.States.toNat + 1 - (i + 1)) + 1 from by omega,Qbg3 hlt]
    ·rw [if_neg (by omega)]
     obtain rfl : i = o.length:=by omega
     simp only [Int.toNat_natCast,Qbj0]) fuel (o,0) ⟨0,rfl,Nat.zero_le _,ho⟩ (by simp only; omega)
  simpa using this
 by_cases h0 : 0 < a.States
 ·rw [if_pos (by omega),Qdt (by simp only [List.length_cons,List.length_nil]; unfold lim; omega)]
  simp only [Option.bind_some]
  rw [show ([] ++ [0] : List Int) = [0] from rfl,hloop [0] ⟨by simp,fun s hs=>by simp at hs; subst hs; omega⟩]
  simp only [Option.bind_some,Ql5,if_pos h0]
 ·rw [if_neg (by omega)]
  simp only [Option.bind_some]
  rw [hloop [] ⟨by simp,fun s hs=>by simp at hs⟩]
  simp only [Option.bind_some,Ql5,if_neg h0]
theorem Qbcq (fuel : Nat) (hfu : 1099511627776 ≤ fuel) {F : List Int} (hF : Fnd a F) (hcl : ∀ s ∈ F,∀ t ∈ Qtn a s,t ∈ F) {s : Int} {i : Nat} (hi : F[i]? = some s) (ms : List Int) (es : List Qe) (hes : es.length ≤ 200000) :
  Qcf (fun (k24 : Int × List Qe → Option (List Int × List Qe)) ((k22,out23) : Int × (List Qe))=>(if (k22 < (a.Alphabet.length : Int)) then ((((getO F (i : Int)).bind fun x26=>((getO a.Alphabet k22).bind fun x28=>((Qb9 a x26 x28).bind fun x31=>(if (x31 ≥ 0) then ((getO a.Alphabet k22).bind fun x33=>((Qec F x31).bind fun x36=>((appO out23 [(Qe.mk (i : Int) x33 x36)]).bind fun x37=>some x37))) else some out23))))).bind fun (out39 : List Qe)=>k24 ((IntKind.wrap .i64 (k22 + 1)),out39)) else some (ms,out23))) fuel (0,es) = some (ms,es ++ rowP a F i s):=by
 have hs:=h.small.1
 have hst:=h.st
 have hal:=h.small.2.1
 have hb : a.Alphabet.length < 1000000000000:=hs.1
 have hFl:=hF.len
 have hrow : rowP a F i s = (a.Alphabet.filter fun e=>decide (0 ≤ Qkc a s e)).map fun e=>⟨(i : Int),e,(F.idxOf (Qkc a s e) : Int)⟩:=by
  rw [← Q7a h,List.map_map]
  unfold rowP
  exact List.map_congr_left fun x hx=>by simp only [Function.comp]; rw [Qbe3 h hx]
 rw [hrow]
 refine (Qkb (len:=a.Alphabet.length) (fun n (acc : List Qe)=>((n : Int),acc)) (fun n acc=>acc.length ≤ 200000 + n) (fun n acc=>some (ms,acc ++ ((a.Alphabet.drop n).filter fun e=>decide (0 ≤ Qkc a s e)).map fun e=>⟨(i : Int),e,(F.idxOf (Qkc a s e) : Int)⟩)) ?_ ?_ fuel 0 es (Nat.zero_le _) (by omega) (by omega)).trans (by simp)
 ·intro k n acc hn k1 ih
  have hg : getO F (i : Int) = some s:=by rw [Qtm]; exact ⟨by omega,by simpa using hi⟩
  dsimp only
  rw [if_pos (by omega),hg,Qca hn]
  simp only [Option.bind_some]
  rw [Qbcn hs,Q6 (by omega)]
  simp only [Option.bind_some]
  rw [List.drop_eq_getElem_cons hn,List.filter_cons]
  by_cases hr : 0 ≤ Qkc a s a.Alphabet[n]
  ·have hm : Qkc a s a.Alphabet[n] ∈ F:=hcl s (List.mem_of_getElem? hi) _ (by rw [Q9l h]; exact List.mem_map.2 ⟨_,List.mem_filter.2 ⟨List.getElem_mem hn,by simpa using hr⟩,rfl⟩)
   rw [if_pos hr,Qbf5 (by unfold big; omega),if_pos hm]
   simp only [Option.bind_some]
   rw [Qdt (by simp only [List.length_cons,List.length_nil]; unfold lim; omega)]
   simp only [Option.bind_some]
   rw [ih _ (by simp only [List.length_append,List.length_cons,List.length_nil]; omega)]
   simp only [hr,decide_true,if_true,List.map_cons,List.append_assoc,List.cons_append,List.nil_append]
  ·rw [if_neg (by omega)]
   simp only [Option.bind_some]
   rw [ih _ (by omega)]
   simp only [hr,decide_false,Bool.false_eq_true,if_false]
 ·intro k acc _
  dsimp only
  rw [if_neg (by omega)]; simp
theorem Qbk3 {F : List Int} {i : Nat} {s : Int} : (rowP a F i s).length ≤ 32:=by
 have:=h.small.2.1
 have h1 : (rowP a F i s).length = ((outP a s).map (·.Event)).length:=by simp [rowP]
 rw [h1,Q7a h]
 exact Nat.le_trans (List.length_filter_le _ _) this
theorem Qbbc : Qd4 a = some (Q8b a):=by
 have hs:=h.small.1
 have hst:=h.st
 have hal:=h.small.2.1
 have hb : a.Alphabet.length < 1000000000000:=hs.1
 obtain ⟨hF,_,hcl⟩:=Qbco h
 have hFl:=hF.len
 unfold Qd4 Qbl
 obtain ⟨fuel,hfu,hge⟩ : ∃ f,Qbj = f ∧ 1099511627776 ≤ f:=⟨_,rfl,Nat.le_refl _⟩
 rw [hfu,Qbf6 h,Option.bind_some,Qbg2 (by unfold lim; omega),Option.bind_some]
 unfold Q8b
 generalize Ql5 a = F at hF hcl hFl
 show Option.bind (Qcf _ fuel (((0 : Nat) : Int),[],[],[],[],[])) _ = _
 rw [Qkb (len:=F.length) (R:=List Int × List Int × List Qe × List Int × List Qe) (fun n (acc : List Int × List Qe)=>((n : Int),([] : List Int),([] : List Int),([] : List Qe),acc.1,acc.2)) (fun n acc=>acc.1.length ≤ n ∧ acc.2.length ≤ 32 * n)
  (fun n acc=>some (([] : List Int),([] : List Int),([] : List Qe),acc.1 ++ Q5t a.Marked n (F.drop n),acc.2 ++ Q5u a F n (F.drop n))) ?_ ?_ fuel 0 ([],[]) (Nat.zero_le _) (by omega) ⟨Nat.zero_le _,Nat.zero_le _⟩]
 ·simp
 ·rintro k n ⟨ms,es⟩ hn ⟨k1,k2⟩ ih
  replace k1 : ms.length ≤ n:=k1
  replace k2 : es.length ≤ 32 * n:=k2
  have hg:=List.getElem?_eq_getElem hn
  dsimp only
  rw [if_pos (by omega),Qca hn]
  simp only [Option.bind_some]
  rw [Qbg1 hs.2.1]
  simp only [Option.bind_some]
  have hrl:=Qbk3 h (F:=F) (i:=n) (s:=F[n])
  rw [List.drop_eq_getElem_cons hn]
  simp only [Q5t,Q5u]
  by_cases hm : F[n] ∈ a.Marked
  ·simp only [hm,decide_true,if_true]
   rw [Qdt (by simp only [List.length_cons,List.length_nil]; unfold lim; omega)]
   simp only [Option.bind_some]
   have:=Qbcq h fuel hge hF hcl hg (ms ++ [(n : Int)]) es (by omega)
   rw [Qca hn] at this
   simp only [Option.bind_some] at this
   rw [this]
   simp only [Option.bind_some]
   rw [Q6 (by omega),ih (ms ++ [(n : Int)],es ++ rowP a F n F[n]) ⟨by simp only [List.length_append,List.length_cons,List.length_nil]; omega,by simp only [List.length_append]; omega⟩]
   simp only [List.append_assoc]
  ·simp only [hm,decide_false,Bool.false_eq_true,if_false,Option.bind_some]
   have:=Qbcq h fuel hge hF hcl hg ms es (by omega)
   rw [Qca hn] at this
   simp only [Option.bind_some] at this
   rw [this]
   simp only [Option.bind_some]
   rw [Q6 (by omega),ih (ms,es ++ rowP a F n F[n]) ⟨by simp only; omega,by simp only [List.length_append]; omega⟩]
   simp only [List.append_assoc,List.nil_append]
 ·rintro k ⟨ms,es⟩ _
  dsimp only
  rw [if_neg (by omega)]
  simp [Q5t,Q5u]
end
end Go.Abs
end
section
namespace Go.Abs
open Go
set_option linter.unusedSimpArgs false
set_option linter.unusedVariables false
structure Evs (l : List Int) : Prop where
 rg : ∀ x ∈ l,0 ≤ x ∧ x < 5
 so : l.Pairwise (· < ·)
theorem Evs.len {l : List Int} (h : Evs l) : l.length ≤ 5:=by have:=Qh7 h.so h.rg; simpa using this
def Qbk4 : List Int → Bool
 | []=>true
 | x :: xs=>xs.all (fun y=>decide (x < y)) && Qbk4 xs
theorem Qbe5 : ∀ {l : List Int},Qbk4 l = true → l.Pairwise (· < ·)
 | [],_=>.nil
 | x :: xs,h=>by
  simp only [Qbk4,Bool.and_eq_true,List.all_eq_true,decide_eq_true_eq] at h
  exact List.pairwise_cons.2 ⟨h.1,Qbe5 h.2⟩
def evB (s : Nat) : Bool:=match Qdy (s : Int) with
 | some l=>Qbk4 l && l.all fun x=>decide (0 ≤ x) && decide (x < 5)
 | none=>false
theorem Qbmj : (List.range 256).all evB = true:=by kernel_rfl
theorem Qbe6 {s : Int} (h0 : 0 ≤ s) (h1 : s < 256) : ∃ l,Qdy s = some l ∧ Evs l:=by
 have:=List.all_eq_true.1 Qbmj s.toNat (List.mem_range.2 (by omega))
 unfold evB at this
 rw [show ((s.toNat : Nat) : Int) = s from by omega] at this
 split at this
 ·rename_i l hl
  simp only [Bool.and_eq_true,List.all_eq_true,decide_eq_true_eq] at this
  exact ⟨l,hl,fun x hx=>this.2 x hx,Qbe5 this.1⟩
 ·cases this
structure Mks (n : Nat) (ms : List Int) : Prop where
 rg : ∀ x ∈ ms,0 ≤ x ∧ x < n
 so : ms.Pairwise (· < ·)
structure Eds (al : List Int) (N : Int) (i k : Nat) (es : List Qe) : Prop where
 rg : ∀ x ∈ es,0 ≤ x.From ∧ 0 ≤ x.To ∧ x.To < N ∧ x.Event ∈ al ∧ (x.From < i ∨ x.From = i ∧ ∃ j : Nat,j < k ∧ al[j]? = some x.Event)
 so : es.Pairwise Qpo
 ln : es.length ≤ 5 * i + k
theorem Mks.up {n : Nat} {ms : List Int} (h : Mks n ms) : Mks (n + 1) ms:=⟨fun x hx=>by have:=h.rg x hx; omega,h.so⟩
theorem Mks.add {n : Nat} {ms : List Int} (h : Mks n ms) : Mks (n + 1) (ms ++ [(n : Int)]):=by
 refine ⟨fun x hx=>?_,?_⟩
 ·rcases List.mem_append.1 hx with hx | hx
  ·have:=h.rg x hx; omega
  ·simp at hx; omega
 ·rw [List.pairwise_append]
  exact ⟨h.so,by simp,fun x hx y hy=>by simp at hy; have:=h.rg x hx; omega⟩
theorem Mks.len {n : Nat} {ms : List Int} (h : Mks n ms) : ms.length ≤ n:=by have:=Qh7 h.so h.rg; simpa using this
section
variable {al : List Int} (hal : Evs al) {N : Int} {i k : Nat} {es : List Qe}
theorem Eds.up (h : Eds al N i k es) : Eds al N i (k + 1) es:=⟨fun x hx=>by
 obtain ⟨h1,h2,h3,h4,h5⟩:=h.rg x hx
 refine ⟨h1,h2,h3,h4,?_⟩
 rcases h5 with h5 | ⟨h5,j,h6,h7⟩
 ·exact .inl h5
 ·exact .inr ⟨h5,j,by omega,h7⟩,h.so,by have:=h.ln; omega⟩
theorem Eds.next (h : Eds al N i k es) (hk : k ≤ 5) : Eds al N (i + 1) 0 es:=⟨fun x hx=>by
 obtain ⟨h1,h2,h3,h4,h5⟩:=h.rg x hx
 exact ⟨h1,h2,h3,h4,.inl (by rcases h5 with h5 | ⟨h5,_⟩ <;> omega)⟩,h.so,by have:=h.ln; omega⟩
include hal in
theorem Eds.add (h : Eds al N i k es) (hk : k < al.length) {t : Int} (ht : 0 ≤ t ∧ t < N) : Eds al N i (k + 1) (es ++ [⟨(i : Int),al[k],t⟩]):=by
 refine ⟨fun x hx=>?_,?_,by have:=h.ln; simp only [List.length_append,List.length_cons,List.length_nil]; omega⟩
 ·rcases List.mem_append.1 hx with hx | hx
  ·exact h.up.rg x hx
  ·simp at hx; subst hx
   exact ⟨by simp only; omega,ht.1,ht.2,List.getElem_mem hk,.inr ⟨rfl,k,by omega,List.getElem?_eq_getElem hk⟩⟩
 ·rw [List.pairwise_append]
  refine ⟨h.so,by simp,fun x hx y hy=>?_⟩
  simp at hy; subst hy
  obtain ⟨_,_,_,_,h5⟩:=h.rg x hx
  rcases h5 with h5 | ⟨h5,j,h6,h7⟩
  ·exact .inl h5
  ·refine .inr ⟨h5,?_⟩
   obtain ⟨h8,h9⟩:=List.getElem?_eq_some_iff.1 h7
   rw [← h9]
   exact List.pairwise_iff_getElem.1 hal.so j k h8 hk h6
end
structure Qbj1 (g : Q7) : Prop where
 st : 0 ≤ g.States ∧ g.States < 256
 to : ∀ x ∈ [g.To.1.1,g.To.1.2.1,g.To.1.2.2.1,g.To.1.2.2.2.1,g.To.1.2.2.2.2,g.To.2.1.1,g.To.2.1.2.1,g.To.2.1.2.2.1,g.To.2.1.2.2.2.1,g.To.2.1.2.2.2.2,g.To.2.2.1.1,g.To.2.2.1.2.1,g.To.2.2.1.2.2.1,g.To.2.2.1.2.2.2.1,g.To.2.2.1.2.2.2.2,g.To.2.2.2.1.1,g.To.2.2.2.1.2.1,g.To.2.2.2.1.2.2.1,g.To.2.2.2.1.2.2.2.1,g.To.2.2.2.1.2.2.2.2,g.To.2.2.2.2.1,g.To.2.2.2.2.2.1,g.To.2.2.2.2.2.2.1,g.To.2.2.2.2.2.2.2.1,g.To.2.2.2.2.2.2.2.2],0 ≤ x ∧ x < 256
theorem Qbg4 {al : List Int} (hal : Evs al) (fuel : Nat) (hfu : 1099511627776 ≤ fuel) {L : List Int} (hL : L.length = 25) (hL2 : ∀ x ∈ L,0 ≤ x ∧ x < 256) {N : Int} (hN : 1 ≤ N ∧ N ≤ 5) {i : Nat} (hi : (i : Int) < N) {ms : List Int} {es : List Qe} (hes : Eds al N i 0 es) :
  ∃ es',Eds al N (i + 1) 0 es' ∧ Qcf (fun (k25 : Int × List Qe → Option (List Int × List Qe)) ((k23,a24) : Int × (List Qe))=>(((if (k23 < (al.length : Int)) then some (decide (k23 < 5)) else some false)).bind fun (x27 : Bool)=>(if x27 then ((((inO 5 (i : Int)).bind fun _=>((inO 5 k23).bind fun _=>((rowO L (Int.toNat (i : Int) * 5 + Int.toNat k23 * 1)).bind fun x31=>((remO .i64 (IntKind.wrap .i64 x31) (IntKind.wrap .i64 (N + 2))).bind fun s33=>(if (s33 < N) then ((getO al k23).bind fun x36=>((appO a24 [(Qe.mk (i : Int) x36 s33)]).bind fun x38=>some x38)) else some a24)))))).bind fun (a40 : List Qe)=>k25 ((IntKind.wrap .i64 (k23 + 1)),a40)) else some (ms,a24)))) fuel (0,es) = some (ms,es'):=by
 have hl:=hal.len
 have:=Qfc (F:=fun (k25 : Int × List Qe → Option (List Int × List Qe)) ((k23,a24) : Int × (List Qe))=>(((if (k23 < (al.length : Int)) then some (decide (k23 < 5)) else some false)).bind fun (x27 : Bool)=>(if x27 then ((((inO 5 (i : Int)).bind fun _=>((inO 5 k23).bind fun _=>((rowO L (Int.toNat (i : Int) * 5 + Int.toNat k23 * 1)).bind fun x31=>((remO .i64 (IntKind.wrap .i64 x31) (IntKind.wrap .i64 (N + 2))).bind fun s33=>(if (s33 < N) then ((getO al k23).bind fun x36=>((appO a24 [(Qe.mk (i : Int) x36 s33)]).bind fun x38=>some x38)) else some a24)))))).bind fun (a40 : List Qe)=>k25 ((IntKind.wrap .i64 (k23 + 1)),a40)) else some (ms,a24))))
  (fun x=>∃ k : Nat,x.1 = (k : Int) ∧ k ≤ al.length ∧ Eds al N i k x.2) (fun x=>al.length - x.1.toNat) (fun _ r=>∃ es',r = some (ms,es') ∧ Eds al N (i + 1) 0 es') (by
   rintro kk ⟨k,es⟩ ⟨k,rfl,hk,he⟩ ih
   replace he : Eds al N i k es:=he
   replace hk : k ≤ al.length:=hk
   dsimp only
   by_cases hlt : k < al.length
   ·rw [if_pos (by omega)]
    simp only [Option.bind_some,show decide ((k : Int) < 5) = true from by simp; omega,if_true]
    rw [show inO 5 (i : Int) = some () from by unfold inO; rw [if_pos (by omega)],show inO 5 (k : Int) = some () from by unfold inO; rw [if_pos (by omega)]]
    simp only [Option.bind_some,Int.toNat_natCast]
    have hidx : i * 5 + k * 1 < L.length:=by omega
    have hx:=hL2 _ (List.getElem_mem hidx)
    rw [show rowO L (i * 5 + k * 1) = some L[i * 5 + k * 1] from by unfold rowO; exact List.getElem?_eq_getElem hidx]
    simp only [Option.bind_some]
    rw [Q88 (x:=L[i * 5 + k * 1]) (by omega) (by omega),Q88 (x:=N + 2) (by omega) (by omega),show remO .i64 L[i * 5 + k * 1] (N + 2) = some (L[i * 5 + k * 1].tmod (N + 2)) from by unfold remO; rw [if_neg (by omega)]]
    simp only [Option.bind_some]
    have hmod : 0 ≤ L[i * 5 + k * 1].tmod (N + 2):=Int.tmod_nonneg _ hx.1
    have hln:=he.ln
    by_cases hm : L[i * 5 + k * 1].tmod (N + 2) < N
    ·rw [if_pos hm,Qca hlt]
     simp only [Option.bind_some]
     rw [Qdt (by simp only [List.length_cons,List.length_nil]; unfold lim; omega)]
     simp only [Option.bind_some]
     rw [Q6 (by omega)]
     exact ih _ ⟨k + 1,rfl,hlt,he.add hal hlt ⟨hmod,hm⟩⟩ (by simp only; omega)
    ·rw [if_neg hm]
     simp only [Option.bind_some]
     rw [Q6 (by omega)]
     exact ih _ ⟨k + 1,rfl,hlt,he.up⟩ (by simp only; omega)
   ·rw [if_neg (by omega)]
    exact ⟨es,rfl,he.next (by omega)⟩) fuel (0,es) ⟨0,rfl,Nat.zero_le _,hes⟩ (by simp only; omega)
 obtain ⟨es',h1,h2⟩:=this
 exact ⟨es',h2,h1⟩
theorem Qbf7 {al : List Int} (hal : Evs al) : Right ⟨al,0,[],[]⟩ :=
 ⟨fun x hx=>by have:=hal.rg x hx; omega,hal.so,⟨by simp,by simp⟩,by simp,.nil,by simp,.nil⟩
theorem Qbmk {al : List Int} (hal : Evs al) {g : Q7} (hg : Qbj1 g) : ∃ m,Right m ∧ m.Alphabet = al ∧ Qf1 al g = some (Q8b m) ∧ m.States ≤ 5:=by
 have hl:=hal.len
 obtain ⟨hst,hto⟩:=hg
 unfold Qf1 Qb6
 obtain ⟨fuel,hfu,hge⟩ : ∃ f,Qbj = f ∧ 1099511627776 ≤ f:=⟨_,rfl,Nat.le_refl _⟩
 rw [hfu,Qbg2 (by unfold lim; omega)]
 simp only [Option.bind_some]
 by_cases h250 : g.States ≥ 250
 ·rw [if_pos h250]
  exact ⟨⟨al,0,[],[]⟩,Qbf7 hal,rfl,rfl,by simp⟩
 rw [if_neg h250]
 have hL : [g.To.1.1,g.To.1.2.1,g.To.1.2.2.1,g.To.1.2.2.2.1,g.To.1.2.2.2.2,g.To.2.1.1,g.To.2.1.2.1,g.To.2.1.2.2.1,g.To.2.1.2.2.2.1,g.To.2.1.2.2.2.2,g.To.2.2.1.1,g.To.2.2.1.2.1,g.To.2.2.1.2.2.1,g.To.2.2.1.2.2.2.1,g.To.2.2.1.2.2.2.2,g.To.2.2.2.1.1,g.To.2.2.2.1.2.1,g.To.2.2.2.1.2.2.1,g.To.2.2.2.1.2.2.2.1,g.To.2.2.2.1.2.2.2.2,g.To.2.2.2.2.1,g.To.2.2.2.2.2.1,g.To.2.2.2.2.2.2.1,g.To.2.2.2.2.2.2.2.1,g.To.2.2.2.2.2.2.2.2].length = 25:=rfl
 generalize [g.To.1.1,g.To.1.2.1,g.To.1.2.2.1,g.To.1.2.2.2.1,g.To.1.2.2.2.2,g.To.2.1.1,g.To.2.1.2.1,g.To.2.1.2.2.1,g.To.2.1.2.2.2.1,g.To.2.1.2.2.2.2,g.To.2.2.1.1,g.To.2.2.1.2.1,g.To.2.2.1.2.2.1,g.To.2.2.1.2.2.2.1,g.To.2.2.1.2.2.2.2,g.To.2.2.2.1.1,g.To.2.2.2.1.2.1,g.To.2.2.2.1.2.2.1,g.To.2.2.2.1.2.2.2.1,g.To.2.2.2.1.2.2.2.2,g.To.2.2.2.2.1,g.To.2.2.2.2.2.1,g.To.2.2.2.2.2.2.1,g.To.2.2.2.2.2.2.2.1,g.To.2.2.2.2.2.2.2.2] = L at hto hL ⊢
 have hmod : 0 ≤ g.States.tmod 5 ∧ g.States.tmod 5 < 5:=⟨Int.tmod_nonneg _ hst.1,Int.tmod_lt_of_pos _ (by omega)⟩
 have hN : 1 ≤ IntKind.wrap .i64 (1 + (IntKind.wrap .i64 (Int.tmod g.States 5))) ∧ IntKind.wrap .i64 (1 + (IntKind.wrap .i64 (Int.tmod g.States 5))) ≤ 5:=by
  rw [Q88 (x:=g.States.tmod 5) (by omega) (by omega),Q88 (by omega) (by omega)]; omega
 generalize IntKind.wrap .i64 (1 + (IntKind.wrap .i64 (Int.tmod g.States 5))) = N at hN ⊢
 have hloop:=Qfc (F:=(fun (k15 : Int × List Int × List Int × List Qe × Int × List Int × List Qe → Option (List Int × List Int × List Qe × Int × List Int × List Qe)) ((i8,c9,c10,c11,a12,a13,a14) : Int × (List Int) × (List Int) × (List Qe) × Int × (List Int) × (List Qe))=>(if (i8 < a12) then ((((((shrO .u8 g.Marks i8).bind fun s17=>(if ((andI .u8 s17 1) == 1) then ((appO a13 [i8]).bind fun x20=>some x20) else some a13))).bind fun (a22 : List Int)=>Qcf (fun k25 ((k23,a24) : Int × (List Qe))=>(((if (k23 < (al.length : Int)) then some (decide (k23 < 5)) else some false)).bind fun (x27 : Bool)=>(if x27 then ((((inO 5 i8).bind fun _=>((inO 5 k23).bind fun _=>((rowO L (Int.toNat i8 * 5 + Int.toNat k23 * 1)).bind fun x31=>((remO .i64 (IntKind.wrap .i64 x31) (IntKind.wrap .i64 (a12 + 2))).bind fun s33=>(if (s33 < a12) then ((getO al k23).bind fun x36=>((appO a24 [(Qe.mk i8 x36 s33)]).bind fun x38=>some x38)) else some a24)))))).bind fun (a40 : List Qe)=>k25 ((IntKind.wrap .i64 (k23 + 1)),a40)) else some (a22,a24)))) fuel (0,a14))).bind fun ((a41,a42) : (List Int) × (List Qe))=>k15 ((IntKind.wrap .i64 (i8 + 1)),c9,c10,c11,a12,a41,a42)) else some (c9,c10,c11,a12,a13,a14))))
  (fun x=>∃ (i : Nat) (ms : List Int) (es : List Qe),x = ((i : Int),[],[],[],N,ms,es) ∧ (i : Int) ≤ N ∧ Mks i ms ∧ Eds al N i 0 es) (fun x=>(N - x.1).toNat)
  (fun _ r=>∃ (i : Nat) (ms : List Int) (es : List Qe),r = some ([],[],[],N,ms,es) ∧ (i : Int) = N ∧ Mks i ms ∧ Eds al N i 0 es) (by
   rintro k _ ⟨i,ms,es,rfl,hi,hm,he⟩ ih
   dsimp only
   by_cases hlt : (i : Int) < N
   ·rw [if_pos hlt,show shrO .u8 g.Marks (i : Int) = some (g.Marks.fdiv (2 ^ (min (Int.toNat (i : Int)) (IntKind.bits .u8)))) from by unfold shrO; rw [if_neg (by omega)]]
    simp only [Option.bind_some]
    have hml:=hm.len
    by_cases hb : (andI .u8 (g.Marks.fdiv (2 ^ (min (Int.toNat (i : Int)) (IntKind.bits .u8)))) 1 == 1) = true
    ·rw [if_pos hb,Qdt (by simp only [List.length_cons,List.length_nil]; unfold lim; omega)]
     simp only [Option.bind_some]
     obtain ⟨es',h1,h2⟩:=Qbg4 hal fuel hge hL hto hN hlt (ms:=ms ++ [(i : Int)]) he
     rw [h2]
     simp only [Option.bind_some]
     rw [Q6 (by omega)]
     exact ih _ ⟨i + 1,_,_,rfl,by omega,hm.add,h1⟩ (by simp only; omega)
    ·rw [if_neg hb]
     simp only [Option.bind_some]
     obtain ⟨es',h1,h2⟩:=Qbg4 hal fuel hge hL hto hN hlt (ms:=ms) he
     rw [h2]
     simp only [Option.bind_some]
     rw [Q6 (by omega)]
     exact ih _ ⟨i + 1,_,_,rfl,by omega,hm.up,h1⟩ (by simp only; omega)
   ·rw [if_neg hlt]
    exact ⟨i,ms,es,rfl,by omega,hm,he⟩) fuel (0,[],[],[],N,[],[]) ⟨0,[],[],rfl,by omega,⟨by simp,.nil⟩,⟨by simp,.nil,by simp⟩⟩ (by simp only; omega)
 obtain ⟨i,ms,es,h1,h2,h3,h4⟩:=hloop
 rw [h1]
 simp only [Option.bind_some]
 have hr : Right ⟨al,N,ms,es⟩:=⟨fun x hx=>by have:=hal.rg x hx; omega,hal.so,⟨by simp only; omega,by simp only; omega⟩,fun x hx=>by have:=h3.rg x hx; simp only; omega,h3.so,fun x hx=>by
  obtain ⟨k1,k2,k3,k4,k5⟩:=h4.rg x hx
  refine ⟨k1,?_,k2,k3,k4⟩
  rcases k5 with k5 | ⟨_,j,k6,_⟩
  ·simp only; omega
  ·omega,h4.so⟩
 rw [Qbbc hr]
 exact ⟨_,hr,rfl,rfl,by simp only; omega⟩
end Go.Abs
end
section
namespace Go.Proofs
open Go Go.Abs
theorem Qbnd {x : Int} (h : wfI .u8 x) : 0 ≤ x ∧ x < 256:=by
 unfold wfI at h
 simp [Lit.wf,IntKind.min,IntKind.max,IntKind.bits,IntKind.signed] at h
 omega
theorem Qbne {g : Q7} (h : W_26 g) : Qbj1 g:=by
 unfold W_26 W_24 W_23 W_5 at h
 obtain ⟨h1,h2,⟨a1,a2,a3,a4,a5⟩,⟨b1,b2,b3,b4,b5⟩,⟨c1,c2,c3,c4,c5⟩,⟨d1,d2,d3,d4,d5⟩,⟨e1,e2,e3,e4,e5⟩⟩:=h
 refine ⟨Qbnd h1,fun x hx=>?_⟩
 simp only [List.mem_cons,List.not_mem_nil,or_false] at hx
 rcases hx with rfl | rfl | rfl | rfl | rfl | rfl | rfl | rfl | rfl | rfl | rfl | rfl | rfl | rfl | rfl | rfl | rfl | rfl | rfl | rfl | rfl | rfl | rfl | rfl | rfl <;> exact Qbnd (by assumption)
end Go.Proofs
end
section
namespace Go.Abs
open Go
theorem Qbj2 {α : Type} [DecidableEq α] {s t : List α} {ne : α → α → Bool} (hne : ∀ x y,ne x y = decide (x ≠ y)) (hl : s.length = t.length) (h : s.length < 1000000000000) :
  Qcf (fun k5 (i4 : Int)=>(if (i4 < (s.length : Int)) then ((getO s i4).bind fun x7=>((getO t i4).bind fun x9=>(if ne x7 x9 then some false else k5 (IntKind.wrap .i64 (i4 + 1))))) else some true)) Qbj 0 = some (decide (s = t)):=by
 refine Qbg0 (fun i : Int=>∃ n : Nat,i = n ∧ n ≤ s.length ∧ s.take n = t.take n) (fun i=>s.length - i.toNat) _ ⟨0,rfl,by omega,by simp⟩ (by unfold Qbj; omega) ?_
 rintro k _ ⟨n,rfl,hn,he⟩ ih
 by_cases hlt : n < s.length
 ·rw [if_pos (by omega),Qca hlt,Qca (by omega : n < t.length)]
  simp only [Option.bind_some,hne]
  by_cases hx : s[n] = t[n]
  ·rw [if_neg (by simp [hx]),Q6 (by omega)]
   exact ih _ ⟨n + 1,rfl,by omega,Qbey hlt (by omega) he hx⟩ (by omega)
  ·rw [if_pos (by simp [hx])]
   have : s ≠ t:=fun e=>hx (by subst e; rfl)
   simp [this]
 ·rw [if_neg (by omega)]
  have e : n = s.length:=by omega
  have : s = t:=by
   rw [e,List.take_length,hl,List.take_length] at he; exact he
  simp [this]
theorem Qbj3 {s t : List Int} (h : s.length < 1000000000000) : Qj8 s t = some (decide (s = t)):=by
 unfold Qj8 Qg3
 by_cases hl : s.length = t.length
 ·rw [if_neg (by simp [hl])]
  exact Qbj2 (ne:=fun x y=>x != y) (fun x y=>by rw [Bool.eq_iff_iff]; simp) hl h
 ·rw [if_pos (by simp; omega)]
  have : s ≠ t:=fun e=>hl (by rw [e])
  simp [this]
theorem Qbg5 {s t : List Int} (h : s.length < 1000000000000) : Qcy s t = some (decide (s = t)):=Qbj3 h
end Go.Abs
end
section
namespace Go.Abs
open Go
theorem Qbj4 : Qhr = some true:=by kernel_rfl
end Go.Abs
end
section
namespace Go.Abs
open Go
set_option linter.unusedSimpArgs false
set_option linter.unusedVariables false
structure Num (a : Qb) (o num : List Int) : Prop where
 len : num.length = a.States.toNat
 at1 : ∀ s : Nat,s < a.States.toNat → num[s]? = some (if (s : Int) ∈ o then (o.idxOf (s : Int) : Int) else -1)
theorem Num.set {a : Qb} {o num : List Int} (h : Num a o num) {t : Int} (ht : 0 ≤ t ∧ t < a.States) (hn : t ∉ o) : ∃ num',setO num t (o.length : Int) = some num' ∧ Num a (o ++ [t]) num':=by
 refine ⟨num.set t.toNat (o.length : Int),by unfold setO; rw [if_pos ⟨ht.1,by rw [h.len]; omega⟩],by rw [List.length_set]; exact h.len,fun s hs=>?_⟩
 rw [List.getElem?_set]
 by_cases he : t.toNat = s
 ·subst he
  rw [if_pos rfl,if_pos (by rw [h.len]; omega),show ((t.toNat : Nat) : Int) = t from by omega,if_pos (by simp),List.idxOf_append,if_neg hn]
  simp
 ·rw [if_neg he,h.at1 s hs]
  have hne : (s : Int) ≠ t:=by omega
  by_cases hm : (s : Int) ∈ o
  ·rw [if_pos hm,if_pos (by simp [hm]),List.idxOf_append,if_pos hm]
  ·rw [if_neg hm,if_neg (by simp [hm,hne])]
section
variable {a : Qb} (h : Right a)
include h
end
end Go.Abs
end
section
namespace Go.Abs
open Go
set_option linter.unusedSimpArgs false
set_option linter.unusedVariables false
section
variable {a : Qb} (h : Right a)
include h
omit h in
theorem Qbbd {w : List Int} {p : Int → Bool} {f : Int → Option Bool} (hf : ∀ x,f x = some (p x)) (hw : w.length < big) : Qdb w f = some (w.any p):=by
 have hb : w.length < 1000000000000:=hw
 unfold Qdb Q0 Qg0 Qbw
 obtain ⟨fuel,hfu,hge⟩ : ∃ f,Qbj = f ∧ 1099511627776 ≤ f:=⟨_,rfl,Nat.le_refl _⟩
 rw [hfu]
 have:=Qpm (F:=fun (k10 : Int → Option Int) (x9 : Int)=>(if (x9 < (w.length : Int)) then ((getO w x9).bind fun x12=>((f x12).bind fun x15=>(if x15 then some x9 else k10 (IntKind.wrap .i64 (x9 + 1))))) else some (-1))) (len:=w.length) (fuel:=fuel)
  (fun n=>some (if (w.drop n).any p then ((n + (w.drop n).findIdx p : Nat) : Int) else -1)) (by omega) (by
   intro k n hn ih
   rw [if_pos (by omega),Qca hn,Q6 (by omega),ih]
   simp only [Option.bind_some,hf]
   rw [List.drop_eq_getElem_cons hn]
   cases hp : p w[n] with
   | true=>simp only [List.any_cons,hp,Bool.true_or,if_true,List.findIdx_cons,cond_true,Nat.add_zero]
   | false =>
    simp only [List.any_cons,hp,Bool.false_or,List.findIdx_cons,cond_false,Bool.false_eq_true,if_false]
    rw [show n + 1 + (w.drop (n + 1)).findIdx p = n + ((w.drop (n + 1)).findIdx p + 1) from by omega]) (by intro k; simp)
 rw [this]
 simp only [Option.bind_some,List.drop_zero,Nat.zero_add]
 cases w.any p <;> simp
end
end Go.Abs
end
section
namespace Go.Abs
open Go
set_option linter.unusedSimpArgs false
set_option linter.unusedVariables false
theorem Qbe7 {P : Int → Prop} : ∀ (ts o : List Int),(∀ s ∈ o,P s) → (∀ t ∈ ts,P t) → ∀ s ∈ ts.foldl ins o,P s
 | [],o,h,_=>h
 | t :: ts,o,h,ht=>Qbe7 ts (ins o t) (fun s hs=>by
   rcases Qbbb.1 hs with hs | rfl
   ·exact h s hs
   ·exact ht _ (by simp)) fun u hu=>ht u (by simp [hu])
theorem Qbe8 {a : Qb} {P : Int → Prop} (hP : ∀ s,P s → ∀ t ∈ Qtn a s,P t) : ∀ (fuel i : Nat) (o : List Int),(∀ s ∈ o,P s) → ∀ s ∈ bfs a fuel i o,P s
 | 0,i,o,h=>h
 | fuel + 1,i,o,h=>by
  unfold bfs
  cases hg : o[i]? with
  | none=>exact h
  | some s=>exact Qbe8 hP fuel (i + 1) _ (Qbe7 _ _ h (hP s (h s (List.mem_of_getElem? hg))))
structure Like (a b : Qb) (φ : Int → Int) : Prop where
 al : b.Alphabet = a.Alphabet
 st : 0 < b.States ↔ 0 < a.States
 zero : 0 < a.States → φ 0 = 0
 inj : ∀ s ∈ Ql5 a,∀ t ∈ Ql5 a,φ s = φ t → s = t
 out : ∀ s ∈ Ql5 a,outP b (φ s) = (outP a s).map fun x=>⟨φ s,x.Event,φ x.To⟩
 ma : ∀ s ∈ Ql5 a,(φ s ∈ b.Marked ↔ s ∈ a.Marked)
section
variable {F : List Int} {φ : Int → Int} (inj : ∀ s ∈ F,∀ t ∈ F,φ s = φ t → s = t)
include inj
end
section
variable {a b : Qb} {φ : Int → Int} (ha : Right a) (hb : Right b) (h : Like a b φ)
include ha h
include hb
end
section
variable {a b : Qb} {φ : Int → Int} (ha : Right a) (hb : Right b) (h : Like a b φ)
include ha h
end
end Go.Abs
end
section
namespace Go.Abs
open Go
set_option linter.unusedSimpArgs false
set_option linter.unusedVariables false
theorem Qht {α β : Type} {o : Option α} {x : α} {K : α → Option β} {r : Option β} (h : o = some x) (h2 : K x = r) : o.bind K = r:=by rw [h]; exact h2
theorem Qbml {α β : Type} {o : Option α} {K : α → Option β} {r : Option β} (P : α → Prop) (h : ∃ x,o = some x ∧ P x) (h2 : ∀ x,P x → K x = r) : o.bind K = r:=by
 obtain ⟨x,h,hp⟩:=h
 rw [h]; exact h2 x hp
theorem Qbg6 {α β : Type} {o : Option α} {K : α → Option β} {Q : β → Prop} (P : α → Prop) (h : ∃ x,o = some x ∧ P x) (h2 : ∀ x,P x → ∃ y,K x = some y ∧ Q y) : ∃ y,o.bind K = some y ∧ Q y:=by
 obtain ⟨x,h,hp⟩:=h
 rw [h]; exact h2 x hp
theorem Q3k {X S R α : Type} {F : (X → Option R) → X → Option R} {l : List α} {fuel : Nat} (mk : Nat → S → X) (f : S → α → S) (fin : S → Option R) (I : Nat → S → Prop)
  (step : ∀ (k : X → Option R) (n : Nat) (h : n < l.length) (s : S),I n s → I (n + 1) (f s l[n]) ∧ F k (mk n s) = k (mk (n + 1) (f s l[n]))) (last : ∀ (k : X → Option R) (s : S),I l.length s → F k (mk l.length s) = fin s)
  (hf : l.length < fuel) (s0 : S) (h0 : I 0 s0) : Qcf F fuel (mk 0 s0) = fin (l.foldl f s0):=by
 have:=Qkb (F:=F) (len:=l.length) mk I (fun n s=>fin ((l.drop n).foldl f s)) (fun k n s hn hi ih=>by
  obtain ⟨h1,h2⟩:=step k n hn s hi
  rw [h2,ih _ h1,List.drop_eq_getElem_cons hn,List.foldl_cons]) (fun k s hi=>by rw [last k s hi]; simp) fuel 0 s0 (Nat.zero_le _) (by omega) h0
 simpa using this
theorem Qbj5 {l m : List Int} (hl : l.Pairwise (· < ·)) (hm : m.Pairwise (· < ·)) (h : ∀ x,x ∈ l ↔ x ∈ m) : l = m:=by
 refine List.Perm.eq_of_pairwise (le:=(· < ·)) (fun a b _ _ h1 h2=>by omega) hl hm ?_
 rw [List.perm_ext_iff_of_nodup (hl.imp fun h=>by omega) (hm.imp fun h=>by omega)]
 exact h
theorem swoI : Go.Sort.SWO Qe7:=⟨fun x=>by simp [Qe7],fun x y z h1 h2=>by simp [Qe7] at *; omega,fun x y z h1 h2=>by simp [Qe7] at *; omega⟩
theorem Qbj6 {l : List Int} (h : l.Nodup) : (Qh8 Qe7 l).Pairwise (· < ·) ∧ ∀ x,x ∈ Qh8 Qe7 l ↔ x ∈ l:=by
 have hp:=Qjm Qe7 l
 refine ⟨?_,fun x=>hp.mem_iff⟩
 have hs:=Qj5 swoI l
 have hn:=(hp.nodup_iff).2 h
 exact (hs.and hn).imp fun ⟨h1,h2⟩=>by simp [Qe7] at h1; omega
inductive Rch (a : Qb) (ev fr : List Int) : Int → Prop where
 | base {s : Int} : s ∈ fr → Rch a ev fr s
 | step {x : Qe} : Rch a ev fr x.From → x ∈ a.Edges → x.Event ∈ ev → Rch a ev fr x.To
def upto (n : Int) : List Int:=(List.range n.toNat).map fun (i : Nat)=>(i : Int)
theorem Qbdq {n x : Int} : x ∈ upto n ↔ 0 ≤ x ∧ x < n:=by
 simp only [upto,List.mem_map,List.mem_range]
 constructor
 ·rintro ⟨i,hi,rfl⟩; omega
 ·rintro ⟨h1,h2⟩; exact ⟨x.toNat,by omega,by omega⟩
theorem Qbe9 (n : Int) : (upto n).Pairwise (· < ·):=by
 unfold upto
 rw [List.pairwise_map]
 exact List.pairwise_lt_range.imp fun h=>by omega
theorem Q8e (n : Int) : (upto n).length = n.toNat:=by simp [upto]
theorem Qbk5 {n : Int} {i : Nat} (h : i < n.toNat) : (upto n)[i]'(by rw [Q8e]; exact h) = (i : Int):=by simp [upto]
open Classical in
noncomputable def Qto (a : Qb) (fr ev : List Int) : List Int:=(upto a.States).filter fun s=>decide (Rch a ev fr s)
theorem Qxt (a : Qb) (fr ev : List Int) : (Qto a fr ev).Pairwise (· < ·):=(Qbe9 _).filter _
theorem Q3l {a : Qb} {fr ev : List Int} {s : Int} : s ∈ Qto a fr ev ↔ (0 ≤ s ∧ s < a.States) ∧ Rch a ev fr s:=by
 classical
 simp only [Qto,List.mem_filter,Qbdq,decide_eq_true_eq]
theorem Rch.range {a : Qb} (h : Right a) {ev fr : List Int} (hf : ∀ s ∈ fr,0 ≤ s ∧ s < a.States) {s : Int} (hr : Rch a ev fr s) : 0 ≤ s ∧ s < a.States:=by
 induction hr with
 | base hs=>exact hf _ hs
 | step _ hx _ _=>have:=h.ed0 _ hx; exact ⟨this.2.2.1,this.2.2.2.1⟩
theorem Qbj7 {a : Qb} (h : Right a) {fr ev : List Int} (hf : ∀ s ∈ fr,0 ≤ s ∧ s < a.States) {s : Int} : s ∈ Qto a fr ev ↔ Rch a ev fr s:=by
 rw [Q3l]; exact ⟨fun h=>h.2,fun hr=>⟨hr.range h hf,hr⟩⟩
theorem Rch.mono {a : Qb} {ev fr fr' : List Int} (hf : ∀ s ∈ fr,Rch a ev fr' s) {s : Int} (hr : Rch a ev fr s) : Rch a ev fr' s:=by
 induction hr with
 | base hs=>exact hf _ hs
 | step _ hx he ih=>exact .step ih hx he
theorem Qbfa {a : Qb} {fr fr' ev : List Int} (h : ∀ s,s ∈ fr ↔ s ∈ fr') : Qto a fr ev = Qto a fr' ev:=by
 refine Qbj5 (Qxt _ _ _) (Qxt _ _ _) fun x=>?_
 rw [Q3l,Q3l]
 have : Rch a ev fr x ↔ Rch a ev fr' x:=⟨Rch.mono fun s hs=>.base ((h s).1 hs),Rch.mono fun s hs=>.base ((h s).2 hs)⟩
 rw [this]
theorem Qbfb {a : Qb} (h : Right a) {fr ev l : List Int} (hf : ∀ s ∈ fr,0 ≤ s ∧ s < a.States) (hl : l.Pairwise (· < ·)) (h1 : ∀ s ∈ l,Rch a ev fr s) (h2 : ∀ s ∈ fr,s ∈ l)
  (h3 : ∀ x ∈ a.Edges,x.From ∈ l → x.Event ∈ ev → x.To ∈ l) : l = Qto a fr ev:=by
 refine Qbj5 hl (Qxt _ _ _) fun x=>?_
 rw [Qbj7 h hf]
 refine ⟨h1 x,fun hr=>?_⟩
 induction hr with
 | base hs=>exact h2 _ hs
 | step _ hx he ih=>exact h3 _ hx ih he
def Qny (a : Qb) (ev : List Int) : Qb:={ a with Edges:=a.Edges.filter fun x=>decide (x.Event ∈ ev) }
theorem Qbbe {a : Qb} (h : Right a) (ev : List Int) : Right (Qny a ev) :=
 ⟨h.al0,h.al,h.st,h.ma0,h.ma,fun x hx=>h.ed0 x (List.mem_filter.1 hx).1,h.ed.filter _⟩
theorem Qbhv (a : Qb) (ev : List Int) (s : Int) : Qtn (Qny a ev) s = ((outP a s).filter fun x=>decide (x.Event ∈ ev)).map (·.To):=by
 simp only [Qtn,outP,Qny,List.filter_filter]
 congr 1
 exact List.filter_congr fun x _=>Bool.and_comm _ _
theorem Qbg7 {a : Qb} {s t : Int} : t ∈ Qtn a s ↔ ∃ x ∈ a.Edges,x.From = s ∧ x.To = t:=by
 simp only [Qtn,outP,List.mem_map,List.mem_filter,beq_iff_eq]
 constructor
 ·rintro ⟨x,⟨h1,h2⟩,h3⟩; exact ⟨x,h1,h2,h3⟩
 ·rintro ⟨x,h1,h2,h3⟩; exact ⟨x,⟨h1,h2⟩,h3⟩
theorem Qbfc {a : Qb} (h : Right a) {ev fr o : List Int} (hf : ∀ s ∈ fr,0 ≤ s ∧ s < a.States) (ho : ∀ s,s ∈ o ↔ s ∈ fr) (hn : o.Nodup) :
  Fnd (Qny a ev) (bfs (Qny a ev) (a.States.toNat + 1) 0 o) ∧ Qh8 Qe7 (bfs (Qny a ev) (a.States.toNat + 1) 0 o) = Qto a fr ev:=by
 have hr:=Qbbe h ev
 have hfo : Fnd (Qny a ev) o:=⟨hn,fun s hs=>hf s ((ho s).1 hs)⟩
 obtain ⟨q1,q2,q3⟩:=Qbdp hr (a.States.toNat + 1) 0 o hfo (Nat.zero_le _) (by show a.States.toNat + 1 ≤ _; omega) (fun j s hj=>by omega)
 obtain ⟨r1,r2⟩:=Qbj6 q1.nd
 refine ⟨q1,Qbfb h hf r1 (fun s hs=>?_) (fun s hs=>?_) (fun x hx hfx hex=>?_)⟩
 ·have hs:=(r2 s).1 hs
  refine Qbe8 (a:=Qny a ev) (P:=Rch a ev fr) (fun s hs t ht=>?_) _ 0 o (fun s hs=>.base ((ho s).1 hs)) s hs
  obtain ⟨x,hx,rfl,rfl⟩:=Qbg7.1 ht
  obtain ⟨hx,he⟩:=List.mem_filter.1 hx
  exact .step hs hx (by simpa using he)
 ·exact (r2 s).2 (q2.subset ((ho s).2 hs))
 ·exact (r2 _).2 (q3 _ ((r2 _).1 hfx) _ (Qbg7.2 ⟨x,List.mem_filter.2 ⟨hx,by simpa using hex⟩,rfl,rfl⟩))
theorem Q8f : ∀ (ts o : List Int) (x : Int),x ∈ ts.foldl ins o ↔ x ∈ o ∨ x ∈ ts
 | [],o,x=>by simp
 | t :: ts,o,x=>by
  simp only [List.foldl_cons,Q8f ts,Qbbb,List.mem_cons]
  constructor
  ·rintro ((h | h) | h)
   ·exact .inl h
   ·exact .inr (.inl h)
   ·exact .inr (.inr h)
  ·rintro (h | h | h)
   ·exact .inl (.inl h)
   ·exact .inl (.inr h)
   ·exact .inr h
end Go.Abs
end
section
namespace Go.Abs
open Go
set_option linter.unusedSimpArgs false
set_option linter.unusedVariables false
def Qxu (a : Qb) (onto : List Int) : List Int:=a.Alphabet.filter fun x=>decide (x ∈ onto)
def Qpp (a : Qb) (onto : List Int) : List Int:=a.Alphabet.filter fun x=>!decide (x ∈ onto)
def Qbbq (a : Qb) : List (List Qe):=(upto a.States).map (outP a)
def obsP (a : Qb) (onto : List Int) : Qg:=⟨Qbbq a,Qxu a onto,Qpp a onto,a.Marked⟩
theorem Q8g (a : Qb) : (Qbbq a).length = a.States.toNat:=by simp [Qbbq,Q8e]
theorem Qbfd (a : Qb) {s : Nat} (h : s < a.States.toNat) : (Qbbq a)[s]? = some (outP a (s : Int)):=by
 simp only [Qbbq,upto,List.getElem?_map,List.getElem?_range h,Option.map_some]
theorem Qbg8 {a : Qb} {s : Int} (h : 0 ≤ s ∧ s < a.States) : getO (Qbbq a) s = some (outP a s):=by
 rw [Qtm]
 refine ⟨h.1,?_⟩
 rw [Qbfd a (by omega)]
 congr 2; omega
theorem Q9a (onto : List Int) : ∀ (l k e : List Int),l.foldl (fun (s : List Int × List Int) x=>if x ∈ onto then (s.1 ++ [x],s.2) else (s.1,s.2 ++ [x])) (k,e) = (k ++ l.filter (fun x=>decide (x ∈ onto)),e ++ l.filter fun x=>!decide (x ∈ onto))
 | [],k,e=>by simp
 | x :: l,k,e=>by
  rw [List.foldl_cons]
  by_cases hx : x ∈ onto
  ·rw [if_pos hx,Q9a onto l]; simp [hx]
  ·rw [if_neg hx,Q9a onto l]; simp [hx]
theorem Qbcr {a : Qb} (h : Right a) {onto : List Int} (ho : onto.length < big) : Qda a onto = some (obsP a onto):=by
 have hs:=h.small
 have hst:=h.st
 unfold Qda Qv
 refine Qht (x:=List.replicate a.States.toNat []) (by unfold mkO; rw [if_pos ⟨hst.1,by unfold lim; omega⟩]) ?_
 refine Qht (x:=Qbbq a) ?_ ?_
 ·refine (Qkb (len:=a.Edges.length) (fun n (c : List (List Qe))=>((n : Int),c)) (fun n c=>c.length = a.States.toNat ∧ ∀ s : Nat,s < a.States.toNat → c[s]? = some ((a.Edges.take n).filter fun x=>x.From == (s : Int))) (fun n c=>some (Qbbq a)) ?_ ?_ Qbj 0 _ (Nat.zero_le _) (by unfold Qbj; omega) ⟨by simp,fun s hs=>by simp [hs]⟩)
  ·intro k n c hn ⟨i1,i2⟩ ih
   have he:=h.ed0 _ (List.getElem_mem hn)
   dsimp only
   rw [if_pos (by omega),Qca hn]
   simp only [Option.bind_some]
   have hin : inO (Int.toNat a.States) a.Edges[n].From = some ():=by unfold inO; rw [if_pos ⟨he.1,by omega⟩]
   have hto : ((a.Edges[n].From.toNat : Nat) : Int) = a.Edges[n].From:=by omega
   have hg : getO c a.Edges[n].From = some ((a.Edges.take n).filter fun x=>x.From == a.Edges[n].From):=by
    rw [Qtm]; refine ⟨he.1,?_⟩
    rw [i2 _ (by omega),hto]
   have hfl : ((a.Edges.take n).filter fun x=>x.From == a.Edges[n].From).length ≤ a.Edges.length:=Nat.le_trans (List.length_filter_le _ _) (by rw [List.length_take]; omega)
   rw [hin,hg]
   simp only [Option.bind_some]
   rw [Qdt (by simp only [List.length_cons,List.length_nil]; unfold lim; omega)]
   simp only [Option.bind_some]
   unfold setO
   rw [if_pos ⟨he.1,by omega⟩,Q6 (by omega)]
   simp only [Option.bind_some]
   refine ih _ ⟨by simp [i1],fun s hs=>?_⟩
   rw [List.getElem?_set,List.take_succ_eq_append_getElem hn,List.filter_append]
   split
   ·rename_i hss
    subst hss
    rw [if_pos (by omega),hto]
    simp
   ·rename_i hss
    have : ¬ a.Edges[n].From = (s : Int):=by omega
    rw [i2 s hs]
    simp [this]
  ·intro k c ⟨i1,i2⟩
   dsimp only
   rw [if_neg (by omega)]
   congr 1
   refine List.ext_getElem? fun s=>?_
   by_cases hs : s < a.States.toNat
   ·rw [i2 s hs,Qbfd a hs,List.take_length]; rfl
   ·rw [List.getElem?_eq_none (by omega),List.getElem?_eq_none (by rw [Q8g]; omega)]
 ·refine Qht (x:=([],[],[],[],Qxu a onto,Qpp a onto)) ?_ ?_
  ·refine (Q3k (l:=a.Alphabet) (fun n (s : List Int × List Int)=>((n : Int),[],[],[],[],s.1,s.2)) (fun (s : List Int × List Int) x=>if x ∈ onto then (s.1 ++ [x],s.2) else (s.1,s.2 ++ [x])) (fun s=>some ([],[],[],[],s.1,s.2)) (fun n s=>s.1.length ≤ n ∧ s.2.length ≤ n) ?_ ?_ (by unfold Qbj; omega) ([],[]) ⟨by simp,by simp⟩).trans ?_
   ·intro k n hn s ⟨i1,i2⟩
    by_cases hx : a.Alphabet[n] ∈ onto
    ·rw [if_pos hx]
     refine ⟨⟨by simp; omega,by simp; omega⟩,?_⟩
     dsimp only
     rw [if_pos (by omega),Qca hn]
     simp only [Option.bind_some]
     rw [Qpn ho]
     simp only [Option.bind_some,hx,decide_true,if_true]
     rw [Qdt (by simp only [List.length_cons,List.length_nil]; unfold lim; omega),Q6 (by omega)]
     rfl
    ·rw [if_neg hx]
     refine ⟨⟨by simp; omega,by simp; omega⟩,?_⟩
     dsimp only
     rw [if_pos (by omega),Qca hn]
     simp only [Option.bind_some]
     rw [Qpn ho]
     simp only [Option.bind_some,hx,decide_false,Bool.false_eq_true,if_false]
     rw [Qdt (by simp only [List.length_cons,List.length_nil]; unfold lim; omega),Q6 (by omega)]
     rfl
   ·intro k s _
    dsimp only
    rw [if_neg (by omega)]
   ·rw [Q9a]; rfl
  ·dsimp only
   unfold lenO
   rw [if_pos (by rw [Q8g])]
   rfl
structure Seen (n : Nat) (l : List Int) (c : List Bool) : Prop where
 len : c.length = n
 at1 : ∀ s : Nat,s < n → c[s]? = some (decide ((s : Int) ∈ l))
theorem Seen.start (n : Nat) : Seen n [] (List.replicate n false):=⟨by simp,fun s hs=>by simp [hs]⟩
theorem Qblm {n : Nat} {l : List Int} {c : List Bool} (h : Seen n l c) {x : Int} (hx : 0 ≤ x ∧ x < n) (hl : l.length < big) : ∃ c',Q4 x c l = some (c',ins l x) ∧ Seen n (ins l x) c':=by
 have hg : getO c x = some (decide (x ∈ l)):=by
  rw [Qtm]; refine ⟨hx.1,?_⟩
  rw [h.at1 _ (by omega)]; congr 2; rw [show ((x.toNat : Nat) : Int) = x from by omega]
 unfold Q4 Q3
 have hin : inO c.length x = some ():=by unfold inO; rw [if_pos ⟨hx.1,by rw [h.len]; omega⟩]
 rw [hin,hg]
 simp only [Option.bind_some]
 by_cases hm : x ∈ l
 ·rw [if_pos (by simp [hm])]
  exact ⟨c,by simp [ins,hm],by simpa [ins,hm] using h⟩
 ·rw [if_neg (by simp [hm])]
  unfold setO
  rw [if_pos ⟨hx.1,by rw [h.len]; omega⟩]
  simp only [Option.bind_some]
  rw [Qdt (by simp only [List.length_cons,List.length_nil]; unfold big at hl; unfold lim; omega)]
  refine ⟨c.set x.toNat true,by simp [ins,hm],?_⟩
  simp only [ins,hm,if_false]
  refine ⟨by simp [h.len],fun s hs=>?_⟩
  rw [List.getElem?_set]
  split
  ·rename_i e; subst e
   rw [if_pos (by rw [h.len]; exact hs)]
   simp; omega
  ·rename_i e
   rw [h.at1 s hs]
   have : ¬ (s : Int) = x:=by omega
   simp [this]
theorem Qbg9 {a : Qb} (h : Right a) {onto fr ev : List Int} (hf : ∀ s ∈ fr,0 ≤ s ∧ s < a.States) (hfl : fr.length < big) (hev : ev.length < big) :
  Qc3 (obsP a onto) fr ev = some (Qto a fr ev):=by
 have hst:=h.st
 have hsm:=h.small
 have hr:=Qbbe h ev
 have hlen : ((obsP a onto).out_.length : Int) = a.States:=by show ((Qbbq a).length : Int) = _; rw [Q8g]; omega
 unfold Qc3 Qx
 rw [hlen]
 refine Qht (x:=List.replicate a.States.toNat false) (by unfold mkO; rw [if_pos ⟨hst.1,by unfold lim; omega⟩]) ?_
 have hF0 : Fnd (Qny a ev) (fr.foldl ins []):=(Q26 (a:=Qny a ev) ⟨by simp,by simp⟩ hf).1
 have hlo : ∀ {o : List Int},Fnd (Qny a ev) o → o.length ≤ a.States.toNat:=fun h=>h.len
 -- what is given
 obtain ⟨c1,hc1,h1⟩ : ∃ c1,Seen a.States.toNat (fr.foldl ins []) c1 ∧ Qcf (fun (k9 : Int × List Int × List Bool → Option (List Int × List Bool)) ((x6,l7,c8) : Int × (List Int) × (List Bool))=>(if (x6 < (fr.length : Int)) then ((getO fr x6).bind fun x11=>((lenO c8 (Int.toNat a.States)).bind fun _=>((Q4 x11 c8 l7).bind fun (c14,c15)=>k9 ((IntKind.wrap .i64 (x6 + 1)),c15,c14)))) else some (l7,c8))) Qbj (0,[],List.replicate a.States.toNat false) = some (fr.foldl ins [],c1):=by
  have:=Qfc (F:=fun (k9 : Int × List Int × List Bool → Option (List Int × List Bool)) ((x6,l7,c8) : Int × (List Int) × (List Bool))=>(if (x6 < (fr.length : Int)) then ((getO fr x6).bind fun x11=>((lenO c8 (Int.toNat a.States)).bind fun _=>((Q4 x11 c8 l7).bind fun (c14,c15)=>k9 ((IntKind.wrap .i64 (x6 + 1)),c15,c14)))) else some (l7,c8)))
   (fun x=>∃ n : Nat,x.1 = (n : Int) ∧ n ≤ fr.length ∧ Fnd (Qny a ev) x.2.1 ∧ Seen a.States.toNat x.2.1 x.2.2 ∧ (fr.drop n).foldl ins x.2.1 = fr.foldl ins []) (fun x=>fr.length - x.1.toNat)
   (fun x r=>∃ c1,Seen a.States.toNat (fr.foldl ins []) c1 ∧ r = some (fr.foldl ins [],c1)) (by
    rintro k ⟨_,l,c⟩ ⟨n,rfl,hn,hF,hS,he⟩ ih
    replace hF : Fnd (Qny a ev) l:=hF
    replace hS : Seen a.States.toNat l c:=hS
    have hll:=hlo hF
    dsimp only at he ⊢
    by_cases hlt : n < fr.length
    ·rw [if_pos (by omega),Qca hlt]
     simp only [Option.bind_some]
     have hx:=hf _ (List.getElem_mem hlt)
     obtain ⟨c',hadd,hS'⟩:=Qblm hS (x:=fr[n]) ⟨hx.1,by omega⟩ (by unfold big; omega)
     unfold lenO
     rw [if_pos hS.len]
     simp only [Option.bind_some]
     rw [hadd]
     simp only [Option.bind_some]
     rw [Q6 (by unfold big at hfl; omega)]
     rw [List.drop_eq_getElem_cons hlt,List.foldl_cons] at he
     exact ih _ ⟨n + 1,rfl,by omega,hF.ins hx,hS',he⟩ (by simp only; omega)
    ·rw [if_neg (by omega)]
     have : fr.drop n = []:=List.drop_eq_nil_of_le (by omega)
     rw [this] at he
     exact ⟨c,by rw [← he]; exact hS,by rw [← he]; rfl⟩) Qbj (0,[],List.replicate a.States.toNat false) ⟨0,rfl,by omega,⟨by simp,by simp⟩,Seen.start _,rfl⟩ (by simp only [Int.toNat_zero]; unfold Qbj; unfold big at hfl; omega)
  exact this
 refine Qht h1 ?_
 dsimp only
 -- the search
 obtain ⟨c2,h2⟩ : ∃ c2,Qcf (fun (k22 : Int × List Int × List Bool → Option (List Int × List Bool)) ((i19,l20,c21) : Int × (List Int) × (List Bool))=>(if (i19 < (l20.length : Int)) then ((((getO l20 i19).bind fun x24=>((getO (obsP a onto).out_ x24).bind fun x26=>Qcf (fun (k31 : Int × List Int × List Bool → Option (List Int × List Bool)) ((x28,l29,c30) : Int × (List Int) × (List Bool))=>(if (x28 < (x26.length : Int)) then ((((getO x26 x28).bind fun x33=>((Q9 ev x33.Event).bind fun x36=>(if x36 then ((lenO c30 (Int.toNat a.States)).bind fun _=>((Q4 x33.To c30 l29).bind fun (c39,c40)=>some (c40,c39,x33.From,x33.Event,x33.To))) else some (l29,c30,x33.From,x33.Event,x33.To))))).bind fun ((l42,c43,c44,c45,c46) : (List Int) × (List Bool) × Int × Int × Int)=>k31 ((IntKind.wrap .i64 (x28 + 1)),l42,c43)) else some (l29,c30))) Qbj (0,l20,c21)))).bind fun ((l47,c48) : (List Int) × (List Bool))=>k22 ((IntKind.wrap .i64 (i19 + 1)),l47,c48)) else some (l20,c21))) Qbj (0,fr.foldl ins [],c1) = some (bfs (Qny a ev) (a.States.toNat + 1) 0 (fr.foldl ins []),c2):=by
  have:=Qfc (F:=fun (k22 : Int × List Int × List Bool → Option (List Int × List Bool)) ((i19,l20,c21) : Int × (List Int) × (List Bool))=>(if (i19 < (l20.length : Int)) then ((((getO l20 i19).bind fun x24=>((getO (obsP a onto).out_ x24).bind fun x26=>Qcf (fun (k31 : Int × List Int × List Bool → Option (List Int × List Bool)) ((x28,l29,c30) : Int × (List Int) × (List Bool))=>(if (x28 < (x26.length : Int)) then ((((getO x26 x28).bind fun x33=>((Q9 ev x33.Event).bind fun x36=>(if x36 then ((lenO c30 (Int.toNat a.States)).bind fun _=>((Q4 x33.To c30 l29).bind fun (c39,c40)=>some (c40,c39,x33.From,x33.Event,x33.To))) else some (l29,c30,x33.From,x33.Event,x33.To))))).bind fun ((l42,c43,c44,c45,c46) : (List Int) × (List Bool) × Int × Int × Int)=>k31 ((IntKind.wrap .i64 (x28 + 1)),l42,c43)) else some (l29,c30))) Qbj (0,l20,c21)))).bind fun ((l47,c48) : (List Int) × (List Bool))=>k22 ((IntKind.wrap .i64 (i19 + 1)),l47,c48)) else some (l20,c21)))
   (fun x=>∃ i : Nat,x.1 = (i : Int) ∧ i ≤ x.2.1.length ∧ Fnd (Qny a ev) x.2.1 ∧ Seen a.States.toNat x.2.1 x.2.2) (fun x=>a.States.toNat + 1 - x.1.toNat)
   (fun x r=>∃ c2,r = some (bfs (Qny a ev) (a.States.toNat + 1 - x.1.toNat) x.1.toNat x.2.1,c2)) (by
    rintro k ⟨_,l,c⟩ ⟨i,rfl,hi,hF,hS⟩ ih
    replace hi : i ≤ l.length:=hi
    replace hF : Fnd (Qny a ev) l:=hF
    replace hS : Seen a.States.toNat l c:=hS
    have hll:=hlo hF
    dsimp only
    by_cases hlt : i < l.length
    ·rw [if_pos (by omega),Qca hlt]
     have hx:=hF.rg _ (List.getElem_mem hlt)
     have hx : 0 ≤ l[i] ∧ l[i] < a.States:=hx
     simp only [Option.bind_some]
     rw [show getO (obsP a onto).out_ l[i] = _ from Qbg8 hx]
     simp only [Option.bind_some]
     have hlo2 : (outP a l[i]).length ≤ a.Edges.length:=List.length_filter_le _ _
     obtain ⟨c',hF',hS',hin⟩ : ∃ c',Fnd (Qny a ev) ((Qtn (Qny a ev) l[i]).foldl ins l) ∧ Seen a.States.toNat ((Qtn (Qny a ev) l[i]).foldl ins l) c' ∧ Qcf (fun (k31 : Int × List Int × List Bool → Option (List Int × List Bool)) ((x28,l29,c30) : Int × (List Int) × (List Bool))=>(if (x28 < ((outP a l[i]).length : Int)) then ((((getO (outP a l[i]) x28).bind fun x33=>((Q9 ev x33.Event).bind fun x36=>(if x36 then ((lenO c30 (Int.toNat a.States)).bind fun _=>((Q4 x33.To c30 l29).bind fun (c39,c40)=>some (c40,c39,x33.From,x33.Event,x33.To))) else some (l29,c30,x33.From,x33.Event,x33.To))))).bind fun ((l42,c43,c44,c45,c46) : (List Int) × (List Bool) × Int × Int × Int)=>k31 ((IntKind.wrap .i64 (x28 + 1)),l42,c43)) else some (l29,c30))) Qbj (0,l,c) = some ((Qtn (Qny a ev) l[i]).foldl ins l,c'):=by
      rw [Qbhv]
      have:=Qfc (F:=fun (k31 : Int × List Int × List Bool → Option (List Int × List Bool)) ((x28,l29,c30) : Int × (List Int) × (List Bool))=>(if (x28 < ((outP a l[i]).length : Int)) then ((((getO (outP a l[i]) x28).bind fun x33=>((Q9 ev x33.Event).bind fun x36=>(if x36 then ((lenO c30 (Int.toNat a.States)).bind fun _=>((Q4 x33.To c30 l29).bind fun (c39,c40)=>some (c40,c39,x33.From,x33.Event,x33.To))) else some (l29,c30,x33.From,x33.Event,x33.To))))).bind fun ((l42,c43,c44,c45,c46) : (List Int) × (List Bool) × Int × Int × Int)=>k31 ((IntKind.wrap .i64 (x28 + 1)),l42,c43)) else some (l29,c30)))
       (fun x=>∃ n : Nat,x.1 = (n : Int) ∧ n ≤ (outP a l[i]).length ∧ Fnd (Qny a ev) x.2.1 ∧ Seen a.States.toNat x.2.1 x.2.2 ∧ ((((outP a l[i]).drop n).filter fun x=>decide (x.Event ∈ ev)).map (·.To)).foldl ins x.2.1 = (((outP a l[i]).filter fun x=>decide (x.Event ∈ ev)).map (·.To)).foldl ins l) (fun x=>(outP a l[i]).length - x.1.toNat)
       (fun x r=>∃ c1,Fnd (Qny a ev) ((((outP a l[i]).filter fun x=>decide (x.Event ∈ ev)).map (·.To)).foldl ins l) ∧ Seen a.States.toNat ((((outP a l[i]).filter fun x=>decide (x.Event ∈ ev)).map (·.To)).foldl ins l) c1 ∧ r = some ((((outP a l[i]).filter fun x=>decide (x.Event ∈ ev)).map (·.To)).foldl ins l,c1)) (by
        rintro k ⟨_,l2,c2⟩ ⟨n,rfl,hn,hF,hS,he⟩ ih
        replace hF : Fnd (Qny a ev) l2:=hF
        replace hS : Seen a.States.toNat l2 c2:=hS
        have hll:=hlo hF
        dsimp only at he ⊢
        by_cases hlt2 : n < (outP a l[i]).length
        ·rw [if_pos (by omega),Qca hlt2]
         simp only [Option.bind_some]
         rw [Qpn hev]
         rw [List.drop_eq_getElem_cons hlt2,List.filter_cons] at he
         have hed : (outP a l[i])[n] ∈ a.Edges:=(List.mem_filter.1 (List.getElem_mem hlt2)).1
         have hto:=(h.ed0 _ hed).2.2
         by_cases hx : (outP a l[i])[n].Event ∈ ev
         ·simp only [Option.bind_some,hx,decide_true,if_true] at he ⊢
          obtain ⟨c',hadd,hS'⟩:=Qblm hS (x:=(outP a l[i])[n].To) ⟨hto.1,by omega⟩ (by unfold big; omega)
          unfold lenO
          rw [if_pos hS.len]
          simp only [Option.bind_some]
          rw [hadd]
          simp only [Option.bind_some]
          rw [Q6 (by omega)]
          exact ih _ ⟨n + 1,rfl,by omega,hF.ins ⟨hto.1,hto.2.1⟩,hS',he⟩ (by simp only; omega)
         ·simp only [Option.bind_some,hx,decide_false,Bool.false_eq_true,if_false] at he ⊢
          rw [Q6 (by omega)]
          exact ih _ ⟨n + 1,rfl,by omega,hF,hS,he⟩ (by simp only; omega)
        ·rw [if_neg (by omega)]
         have : (outP a l[i]).drop n = []:=List.drop_eq_nil_of_le (by omega)
         rw [this] at he
         simp only [List.filter_nil,List.map_nil,List.foldl_nil] at he
         exact ⟨c2,by rw [← he]; exact hF,by rw [← he]; exact hS,by rw [← he]⟩) Qbj (0,l,c) ⟨0,rfl,Nat.zero_le _,hF,hS,rfl⟩ (by simp only [Int.toNat_zero]; unfold Qbj; omega)
      exact this
     rw [hin]
     simp only [Option.bind_some]
     rw [Q6 (by omega)]
     have hpre:=(Q26 hF (Q7b hr l[i])).2.1
     obtain ⟨c3,hc3⟩:=ih ((i + 1 : Nat),_,c') ⟨i + 1,rfl,by have:=hpre.length_le; simp only; omega,hF',hS'⟩ (by simp only; omega)
     refine ⟨c3,hc3.trans ?_⟩
     simp only [Int.toNat_natCast]
     rw [show a.States.toNat + 1 - i = (a.States.toNat + 1 - (i + 1)) + 1 from by omega,Qbg3 hlt]
    ·rw [if_neg (by omega)]
     obtain rfl : i = l.length:=by omega
     exact ⟨c,by simp only [Int.toNat_natCast,Qbj0]⟩) Qbj (0,fr.foldl ins [],c1) ⟨0,rfl,Nat.zero_le _,hF0,hc1⟩ (by simp only [Int.toNat_zero]; unfold Qbj; omega)
  simpa using this
 refine Qht h2 ?_
 dsimp only
 obtain ⟨q1,q2⟩:=Qbfc h (ev:=ev) hf (o:=fr.foldl ins []) (fun s=>by rw [Q8f]; simp) hF0.nd
 have hql:=hlo q1
 unfold sortI
 rw [if_pos (by unfold lim; omega),q2]
 rfl
end Go.Abs
end
section
namespace Go.Abs
open Go
set_option linter.unusedSimpArgs false
set_option linter.unusedVariables false
def Qpq (a : Qb) (est : List Int) (e : Int) : List Int:=est.flatMap fun s=>((outP a s).filter fun x=>x.Event == e).map (·.To)
noncomputable def Qbdr (a : Qb) (onto est : List Int) (e : Int) : List Int:=Qto a (Qpq a est e) (Qpp a onto)
noncomputable def Qbbf (a : Qb) (onto : List Int) : List Int:=if a.States = 0 then [] else Qto a [0] (Qpp a onto)
noncomputable def estP (a : Qb) (onto obs : List Int) : List Int:=obs.foldl (Qbdr a onto) (Qbbf a onto)
structure Sts (a : Qb) (l : List Int) : Prop where
 rg : ∀ s ∈ l,0 ≤ s ∧ s < a.States
 so : l.Pairwise (· < ·)
theorem Sts.len {a : Qb} {l : List Int} (h : Sts a l) : l.length ≤ a.States.toNat:=by
 have:=Qh7 (a:=0) (b:=a.States) h.so h.rg; omega
theorem Qbcs (a : Qb) (fr ev : List Int) : Sts a (Qto a fr ev):=⟨fun s hs=>(Q3l.1 hs).1,Qxt _ _ _⟩
theorem Q8h (a : Qb) (onto est : List Int) (e : Int) : Sts a (Qbdr a onto est e):=Qbcs _ _ _
theorem Q9b (a : Qb) (onto : List Int) : Sts a (Qbbf a onto):=by
 unfold Qbbf; split
 ·exact ⟨by simp,by simp⟩
 ·exact Qbcs _ _ _
theorem Qbfe {a : Qb} {est : List Int} {e t : Int} : t ∈ Qpq a est e ↔ ∃ x ∈ a.Edges,x.From ∈ est ∧ x.Event = e ∧ x.To = t:=by
 simp only [Qpq,outP,List.mem_flatMap,List.mem_map,List.mem_filter,beq_iff_eq]
 constructor
 ·rintro ⟨s,hs,x,⟨⟨h1,h2⟩,h3⟩,h4⟩; exact ⟨x,h1,by rw [h2]; exact hs,h3,h4⟩
 ·rintro ⟨x,h1,h2,h3,h4⟩; exact ⟨x.From,h2,x,⟨⟨h1,rfl⟩,h3⟩,h4⟩
theorem Qbbg {a : Qb} (h : Right a) {est : List Int} {e : Int} : ∀ s ∈ Qpq a est e,0 ≤ s ∧ s < a.States:=by
 intro s hs
 obtain ⟨x,hx,_,_,rfl⟩:=Qbfe.1 hs
 exact ⟨(h.ed0 x hx).2.2.1,(h.ed0 x hx).2.2.2.1⟩
theorem Qbha {α β : Type} {f : α → List β} {m : Nat} : ∀ {l : List α},(∀ x ∈ l,(f x).length ≤ m) → (l.flatMap f).length ≤ m * l.length
 | [],_=>by simp
 | x :: l,h=>by
  have h1:=h x (by simp)
  have h2:=Qbha (l:=l) fun y hy=>h y (by simp [hy])
  simp only [List.flatMap_cons,List.length_append,List.length_cons,Nat.mul_succ]; omega
theorem Qbmm (a : Qb) (s e : Int) : ((outP a s).filter fun x=>x.Event == e).length ≤ a.Edges.length:=Nat.le_trans (List.length_filter_le _ _) (List.length_filter_le _ _)
theorem Qbff {a : Qb} (h : Right a) {est : List Int} (hl : est.length ≤ 5000) (e : Int) : (Qpq a est e).length ≤ 131072 * 5000:=by
 have:=Qbha (f:=fun s=>((outP a s).filter fun x=>x.Event == e).map (·.To)) (m:=131072) (l:=est) fun s _=>by
  have:=Qbmm a s e; have:=h.small.2.2.2; rw [List.length_map]; omega
 exact Nat.le_trans this (Nat.mul_le_mul_left _ hl)
theorem Q3m {a : Qb} (h : Right a) (onto : List Int) : (Qpp a onto).length < big:=by
 have:=h.small.2.1
 have : (Qpp a onto).length ≤ a.Alphabet.length:=List.length_filter_le _ _
 unfold big; omega
theorem Qbhb {a : Qb} (h : Right a) (onto : List Int) : (Qxu a onto).length ≤ 32:=by
 have:=h.small.2.1
 have : (Qxu a onto).length ≤ a.Alphabet.length:=List.length_filter_le _ _
 omega
theorem Qbct {a : Qb} (h : Right a) {onto est : List Int} (he : ∀ s ∈ est,0 ≤ s ∧ s < a.States) (hl : est.length ≤ 5000) (e : Int) :
  Qci (obsP a onto) est e = some (Qbdr a onto est e):=by
 have hsm:=h.small
 have hmax:=Qbff h hl e
 unfold Qci Qt
 refine Qht (x:=Qpq a est e) ?_ ?_
 ·refine (Qkb (len:=est.length) (fun n (l : List Int)=>(l,(n : Int))) (fun n l=>l = Qpq a (est.take n) e) (fun n l=>some (Qpq a est e)) ?_ ?_ Qbj 0 [] (Nat.zero_le _) (by unfold Qbj; omega) (by simp [Qpq]))
  ·rintro k n l hn rfl ih
   have hx:=he _ (List.getElem_mem hn)
   dsimp only
   rw [if_pos (by omega),Qca hn]
   simp only [Option.bind_some]
   rw [show getO (obsP a onto).out_ est[n] = _ from Qbg8 hx]
   simp only [Option.bind_some]
   have hol : (outP a est[n]).length ≤ 131072:=Nat.le_trans (List.length_filter_le _ _) hsm.2.2.2
   have hml : (Qpq a (est.take n) e).length ≤ 131072 * 5000:=Qbff h (by rw [List.length_take]; omega) e
   refine Qht (x:=Qpq a (est.take n) e ++ ((outP a est[n]).filter fun x=>x.Event == e).map (·.To)) ?_ ?_
   ·refine (Qkb (len:=(outP a est[n]).length) (fun m (l : List Int)=>(l,(m : Int))) (fun m l=>l = Qpq a (est.take n) e ++ (((outP a est[n]).take m).filter fun x=>x.Event == e).map (·.To)) (fun m l=>some (Qpq a (est.take n) e ++ ((outP a est[n]).filter fun x=>x.Event == e).map (·.To))) ?_ ?_ Qbj 0 _ (Nat.zero_le _) (by unfold Qbj; omega) (by simp))
    ·rintro k m l hm rfl ih
     dsimp only
     rw [if_pos (by omega),Qca hm]
     simp only [Option.bind_some]
     have hfl : ((((outP a est[n]).take m).filter fun x=>x.Event == e).map (·.To)).length ≤ 131072:=by
      rw [List.length_map]
      exact Nat.le_trans (List.length_filter_le _ _) (by rw [List.length_take]; omega)
     by_cases hx : (outP a est[n])[m].Event = e
     ·rw [if_pos (by simp [hx]),Qdt (by rw [List.length_append]; simp only [List.length_cons,List.length_nil]; unfold lim; omega)]
      simp only [Option.bind_some]
      rw [Q6 (by omega)]
      refine ih _ ?_
      rw [List.take_succ_eq_append_getElem hm,List.filter_append,List.map_append,List.append_assoc]
      simp [hx]
     ·rw [if_neg (by simp [hx])]
      simp only [Option.bind_some]
      rw [Q6 (by omega)]
      refine ih _ ?_
      rw [List.take_succ_eq_append_getElem hm,List.filter_append,List.map_append]
      simp [hx]
    ·rintro k l rfl
     dsimp only
     rw [if_neg (by omega),List.take_length]
   ·rw [Q6 (by omega)]
    refine ih _ ?_
    rw [List.take_succ_eq_append_getElem hn]
    simp only [Qpq,List.flatMap_append,List.flatMap_cons,List.flatMap_nil,List.append_nil]
  ·rintro k l rfl
   dsimp only
   rw [if_neg (by omega),List.take_length]
 ·rw [show (obsP a onto).erased_ = Qpp a onto from rfl,Qbg9 h (Qbbg h) (by unfold big; omega) (Q3m h onto)]
  rfl
theorem Qbk6 {a : Qb} (h : Right a) (onto : List Int) : Qc4 (obsP a onto) = some (Qbbf a onto):=by
 have hst:=h.st
 unfold Qc4 Qy
 have hlen : ((obsP a onto).out_.length : Int) = a.States:=by show ((Qbbq a).length : Int) = _; rw [Q8g]; omega
 rw [hlen]
 unfold Qbbf
 by_cases h0 : a.States = 0
 ·rw [if_pos (by simp [h0]),if_pos h0]
 ·rw [if_neg (by simp [h0]),if_neg h0,show (obsP a onto).erased_ = Qpp a onto from rfl,Qbg9 h (fun s hs=>by simp at hs; subst hs; omega) (by unfold big; simp) (Q3m h onto)]
  rfl
theorem Qbhc {a : Qb} (h : Right a) {onto obs : List Int} (hl : obs.length < big) : Qcd (obsP a onto) obs = some (obs.all fun x=>decide (x ∈ Qxu a onto)):=by
 have hk:=Qbhb h onto
 unfold Qcd Qr
 rw [Qbbd (p:=fun x=>!decide (x ∈ Qxu a onto)) (fun x=>by
  unfold Qen Qbb
  rw [show (obsP a onto).kept_ = Qxu a onto from rfl,Qpn (by unfold big; omega)]; rfl) hl]
 simp only [Option.bind_some]
 congr 1
 rw [List.not_any_eq_all_not]
 simp
theorem Q9m {l : List Int} {n : Int} (hl : l.length < big) : Qfh l n = some (Qe2 n none l):=Q69 hl
theorem Qbj8 {a : Qb} (h : small a) {ev : List Int} (hl : ev.length < big) : Qcv a ev = some (if Qxr a = 0 then Qe2 32 none ev else Qxr a):=by
 unfold Qcv Qu
 rw [Qbk2 h]
 simp only [Option.bind_some]
 by_cases h0 : Qxr a = 0
 ·rw [if_neg (by simp [h0]),if_pos h0,Q9m hl]; rfl
 ·rw [if_pos (by simp [h0]),if_neg h0]
theorem Q9n {a : Qb} (h : Right a) {ev : List Int} (hl : ev.length < big) : Qcv a ev = some (Qe2 32 none ev):=by
 rw [Qbj8 h.small.1 hl,if_pos (Qbjz.2 h)]
structure EvSet (l : List Int) : Prop where
 rg : ∀ x ∈ l,0 ≤ x ∧ x < 32
 so : l.Pairwise (· < ·)
theorem EvSet.err {l : List Int} (h : EvSet l) : Qe2 32 none l = 0:=Qhs.2 ⟨h.rg,h.so,fun y hy=>by cases hy⟩
theorem EvSet.len {l : List Int} (h : EvSet l) : l.length ≤ 32:=by have:=Qh7 (a:=0) (b:=32) h.so h.rg; omega
theorem Evs.set {l : List Int} (h : Evs l) : EvSet l:=⟨fun x hx=>by have:=h.rg x hx; omega,h.so⟩
end Go.Abs
end
section
namespace Go.Abs
open Go
set_option linter.unusedSimpArgs false
set_option linter.unusedVariables false
theorem Qbhw {l : List Int} {v : Int} (hl : l.length < big) : Qdh l v = some (decide (v ∈ l)):=Qbg1 hl
theorem Qxv {α β R : Type} {F : (List β × Int → Option R) → List β × Int → Option R} {l : List α} {fuel : Nat} (p : α → Bool) (f : α → β) (fin : List β → Option R)
  (step : ∀ (k : List β × Int → Option R) (n : Nat) (h : n < l.length) (s : List β),s.length ≤ n → F k (s,(n : Int)) = k (if p l[n] then s ++ [f l[n]] else s,((n + 1 : Nat) : Int)))
  (last : ∀ (k : List β × Int → Option R) (s : List β),F k (s,(l.length : Int)) = fin s) (hf : l.length < fuel) : Qcf F fuel ([],0) = fin ((l.filter p).map f):=by
 refine (Qkb (len:=l.length) (fun n (s : List β)=>(s,(n : Int))) (fun n s=>s = ((l.take n).filter p).map f) (fun n s=>fin ((l.filter p).map f)) ?_ ?_ fuel 0 [] (Nat.zero_le _) (by omega) (by simp))
 ·rintro k n s hn rfl ih
  rw [step k n hn _ (by rw [List.length_map]; exact Nat.le_trans (List.length_filter_le _ _) (by rw [List.length_take]; omega))]
  refine ih _ ?_
  rw [List.take_succ_eq_append_getElem hn,List.filter_append,List.map_append]
  cases hp : p l[n] <;> simp [hp]
 ·rintro k s rfl
  rw [last,List.take_length]
theorem Qbk7 {a : Qb} (h : Right a) {onto : List Int} (ho : onto.length < big) : Qf2 a onto = some (Qxu a onto):=by
 have hl:=h.small.2.1
 unfold Qf2 Qb7
 refine Qht (x:=Qxu a onto) ?_ rfl
 rw [Qxv (l:=a.Alphabet) (fun x=>decide (x ∈ onto)) id some ?_ ?_ (by unfold Qbj; omega)]
 ·simp [Qxu]
 ·intro k n hn s hs
  dsimp only
  rw [if_pos (by omega),Qca hn]
  simp only [Option.bind_some]
  rw [Qbhw ho]
  simp only [Option.bind_some]
  by_cases hx : a.Alphabet[n] ∈ onto
  ·simp only [hx,decide_true,if_true]
   rw [Qdt (by simp only [List.length_cons,List.length_nil]; unfold lim; omega),Q6 (by omega)]
   rfl
  ·simp only [hx,decide_false,Bool.false_eq_true,if_false,Option.bind_some]
   rw [Q6 (by omega)]
 ·intro k s
  dsimp only
  rw [if_neg (by omega)]
theorem Qbcu {a : Qb} (h : Right a) {onto : List Int} (ho : onto.length < big) : Qd0 a onto = some (Qpp a onto):=by
 have hl:=h.small.2.1
 unfold Qd0 Q5
 refine Qht (x:=Qpp a onto) ?_ rfl
 rw [Qxv (l:=a.Alphabet) (fun x=>!decide (x ∈ onto)) id some ?_ ?_ (by unfold Qbj; omega)]
 ·simp [Qpp]
 ·intro k n hn s hs
  dsimp only
  rw [if_pos (by omega),Qca hn]
  simp only [Option.bind_some]
  rw [Qbhw ho]
  simp only [Option.bind_some]
  by_cases hx : a.Alphabet[n] ∈ onto
  ·simp only [hx,decide_true,if_true,Bool.not_true,Bool.false_eq_true,if_false,Option.bind_some]
   rw [Q6 (by omega)]
  ·simp only [hx,decide_false,Bool.false_eq_true,if_false,Bool.not_false,if_true]
   rw [Qdt (by simp only [List.length_cons,List.length_nil]; unfold lim; omega),Q6 (by omega)]
   rfl
 ·intro k s
  dsimp only
  rw [if_neg (by omega)]
theorem Qbhx {l : List Int} {n : Int} (hl : l.length < big) (h0 : 0 ≤ n) (hn : n ≤ 4096) : Qe6 l n = some ((upto n).filter fun x=>decide (x ∈ l)):=by
 unfold Qe6 Qbx
 refine Qht (x:=(upto n).filter fun x=>decide (x ∈ l)) ?_ rfl
 rw [Qxv (l:=upto n) (fun x=>decide (x ∈ l)) id some ?_ ?_ (by rw [Q8e]; unfold Qbj; omega)]
 ·simp
 ·intro k m hm s hs
  rw [Q8e] at hm
  dsimp only
  rw [if_pos (by omega),Qbhw hl,Qbk5 hm]
  simp only [Option.bind_some]
  by_cases hx : (m : Int) ∈ l
  ·simp only [hx,decide_true,if_true]
   rw [Qdt (by simp only [List.length_cons,List.length_nil]; unfold lim; omega),Q6 (by omega)]
   rfl
  ·simp only [hx,decide_false,Bool.false_eq_true,if_false,Option.bind_some]
   rw [Q6 (by omega)]
 ·intro k s
  dsimp only
  rw [if_neg (by rw [Q8e]; omega)]
structure RI (a : Qb) (ev fr o : List Int) : Prop where
 rch : ∀ s ∈ o,Rch a ev fr s
 sub : ∃ ad,o = fr ++ ad ∧ Fnd a ad
theorem RI.len {a : Qb} {ev fr o : List Int} (h : RI a ev fr o) : o.length ≤ fr.length + a.States.toNat:=by
 obtain ⟨ad,rfl,hf⟩:=h.sub
 have:=hf.len
 rw [List.length_append]; omega
theorem RI.base {a : Qb} {ev fr o : List Int} (h : RI a ev fr o) : ∀ s ∈ fr,s ∈ o:=by
 obtain ⟨ad,rfl,hf⟩:=h.sub
 exact fun s hs=>List.mem_append_left _ hs
theorem Qbfg {a : Qb} (h : Right a) {fr ev : List Int} (hf : ∀ s ∈ fr,0 ≤ s ∧ s < a.States) (hl : fr.length ≤ 1000000000) (he : ev.length < big) : Qed a fr ev = some (Qto a fr ev):=by
 have hst:=h.st
 have hsm:=h.small.2.2.2
 unfold Qed Q8
 refine Qht (x:=fr) (by rw [Qdt (by simp only [List.length_nil]; unfold lim; omega)]; rfl) ?_
 refine Qbml (fun o=>RI a ev fr o ∧ ∀ s ∈ o,∀ x ∈ a.Edges,x.From = s → x.Event ∈ ev → x.To ∈ o) ?_ ?_
 ·refine Qfc (fun x=>∃ i : Nat,x.2 = (i : Int) ∧ i ≤ x.1.length ∧ RI a ev fr x.1 ∧ ∀ j s,j < i → x.1[j]? = some s → ∀ x' ∈ a.Edges,x'.From = s → x'.Event ∈ ev → x'.To ∈ x.1) (fun x=>fr.length + a.States.toNat + 1 - x.2.toNat)
   (fun x r=>∃ o,r = some o ∧ RI a ev fr o ∧ ∀ s ∈ o,∀ x ∈ a.Edges,x.From = s → x.Event ∈ ev → x.To ∈ o) ?_ Qbj _ ?_ ?_
  ·rintro k ⟨o,_⟩ ⟨i,rfl,hi,hI,hc⟩ ih
   dsimp only at hi hI hc ⊢
   have hol:=hI.len
   by_cases hlt : i < o.length
   ·rw [if_pos (by omega)]
    generalize hs : o[i] = s
    have hg : o[i]? = some s:=by rw [List.getElem?_eq_getElem hlt,hs]
    refine Qbg6 (fun o'=>RI a ev fr o' ∧ o <+: o' ∧ ∀ x ∈ a.Edges,x.From = s → x.Event ∈ ev → x.To ∈ o') ?_ ?_
    ·refine Qfc (fun x=>∃ n : Nat,x.2 = (n : Int) ∧ n ≤ a.Edges.length ∧ RI a ev fr x.1 ∧ o <+: x.1 ∧ ∀ x' ∈ a.Edges.take n,x'.From = s → x'.Event ∈ ev → x'.To ∈ x.1) (fun x=>a.Edges.length - x.2.toNat)
      (fun x r=>∃ o',r = some o' ∧ RI a ev fr o' ∧ o <+: o' ∧ ∀ x ∈ a.Edges,x.From = s → x.Event ∈ ev → x.To ∈ o') ?_ Qbj _ ?_ ?_
     ·rintro k ⟨o2,_⟩ ⟨n,rfl,hn,hI2,hp,hc2⟩ ih
      dsimp only at hn hI2 hp hc2 ⊢
      have hol2:=hI2.len
      by_cases hlt2 : n < a.Edges.length
      ·rw [if_pos (by omega),Qca hlt2]
       have hg2 : getO o2 (i : Int) = some s:=by
        rw [Qtm]; refine ⟨by omega,?_⟩
        obtain ⟨r,rfl⟩:=hp
        rw [Int.toNat_natCast,List.getElem?_append_left hlt]; exact hg
       have hmem : a.Edges[n] ∈ a.Edges:=List.getElem_mem hlt2
       have hto:=h.ed0 _ hmem
       rw [hg2]
       simp only [Option.bind_some]
       rw [Qbhw he]
       have htk : a.Edges.take (n + 1) = a.Edges.take n ++ [a.Edges[n]]:=List.take_succ_eq_append_getElem hlt2
       generalize a.Edges[n] = x at hmem hto htk ⊢
       have skip : ¬ (x.From = s ∧ x.Event ∈ ev ∧ x.To ∉ o2) → ∃ o',k (o2,IntKind.wrap .i64 ((n : Int) + 1)) = some o' ∧ RI a ev fr o' ∧ o <+: o' ∧ ∀ x ∈ a.Edges,x.From = s → x.Event ∈ ev → x.To ∈ o':=by
        intro hno
        rw [Q6 (by omega)]
        refine ih _ ⟨n + 1,rfl,by omega,hI2,hp,fun y hy hy1 hy2=>?_⟩ (by simp only; omega)
        rw [htk] at hy
        rcases List.mem_append.1 hy with hy | hy
        ·exact hc2 y hy hy1 hy2
        ·simp only [List.mem_singleton] at hy
         subst hy
         exact Classical.byContradiction fun hn=>hno ⟨hy1,hy2,hn⟩
       by_cases h1 : x.From = s
       ·rw [if_pos (by simp [h1])]
        by_cases h2 : x.Event ∈ ev
        ·simp only [h2,decide_true,if_true,Option.bind_some]
         rw [Qbhw (by unfold big; omega)]
         by_cases h3 : x.To ∈ o2
         ·simp only [h3,decide_true,Bool.not_true,Option.bind_some,Bool.false_eq_true,if_false]
          exact skip fun hh=>hh.2.2 h3
         ·simp only [h3,decide_false,Bool.not_false,Option.bind_some,if_true]
          rw [Qdt (by simp only [List.length_cons,List.length_nil]; unfold lim; omega)]
          simp only [Option.bind_some]
          rw [Q6 (by omega)]
          refine ih _ ⟨n + 1,rfl,by omega,⟨fun t ht=>?_,?_⟩,hp.trans (List.prefix_append _ _),fun y hy hy1 hy2=>?_⟩ (by simp only; omega)
          ·rcases List.mem_append.1 ht with ht | ht
           ·exact hI2.rch t ht
           ·simp only [List.mem_singleton] at ht
            subst ht
            refine .step (hI2.rch x.From ?_) hmem h2
            rw [h1]
            exact hp.subset (List.mem_of_getElem? hg)
          ·obtain ⟨ad,rfl,hF⟩:=hI2.sub
           refine ⟨ad ++ [x.To],by rw [List.append_assoc],?_,?_⟩
           ·rw [List.nodup_append]
            refine ⟨hF.nd,by simp,fun u hu v hv e=>?_⟩
            simp only [List.mem_singleton] at hv
            subst hv e
            exact h3 (List.mem_append_right _ hu)
           ·intro u hu
            rcases List.mem_append.1 hu with hu | hu
            ·exact hF.rg u hu
            ·simp only [List.mem_singleton] at hu
             subst hu
             exact ⟨hto.2.2.1,hto.2.2.2.1⟩
          ·rw [htk] at hy
           rcases List.mem_append.1 hy with hy | hy
           ·exact List.mem_append_left _ (hc2 y hy hy1 hy2)
           ·simp only [List.mem_singleton] at hy
            subst hy
            exact List.mem_append_right _ (by simp)
        ·simp only [h2,decide_false,Bool.false_eq_true,if_false,Option.bind_some]
         exact skip fun hh=>h2 hh.2.1
       ·rw [if_neg (by simp [h1])]
        simp only [Option.bind_some,Bool.false_eq_true,if_false]
        exact skip fun hh=>h1 hh.1
      ·rw [if_neg (by omega)]
       exact ⟨o2,rfl,hI2,hp,fun y hy=>hc2 y (by rw [List.take_of_length_le (by omega)]; exact hy)⟩
     ·exact ⟨0,rfl,Nat.zero_le _,hI,List.prefix_refl _,by simp⟩
     ·simp only [Int.toNat_zero]; unfold Qbj; omega
    ·rintro o' ⟨hI',hp,hc'⟩
     have:=hp.length_le
     have hl':=hI'.len
     rw [Q6 (by omega)]
     refine ih _ ⟨i + 1,rfl,by simp only; omega,hI',fun j t hj ht x hx h1 h2=>?_⟩ (by simp only; omega)
     obtain ⟨r,hr⟩:=hp
     dsimp only at ht ⊢
     rw [← hr,List.getElem?_append_left (by omega)] at ht
     rcases Nat.lt_or_ge j i with hji | hji
     ·rw [← hr]; exact List.mem_append_left _ (hc j t hji ht x hx h1 h2)
     ·obtain rfl : j = i:=by omega
      rw [hg] at ht; cases ht
      exact hc' x hx h1 h2
   ·rw [if_neg (by omega)]
    refine ⟨o,rfl,hI,fun s hs x hx h1 h2=>?_⟩
    obtain ⟨j,hj⟩:=List.getElem?_of_mem hs
    have hjl:=(List.getElem?_eq_some_iff.1 hj).1
    exact hc j s (by omega) hj x hx h1 h2
  ·exact ⟨0,rfl,Nat.zero_le _,⟨fun s hs=>.base hs,[],by simp,by simp,by simp⟩,fun j s hj=>absurd hj (by omega)⟩
  ·simp only [Int.toNat_zero]; unfold Qbj; omega
 ·rintro o ⟨hI,hc⟩
  have hol:=hI.len
  refine Qht (x:=(upto a.States).filter fun x=>decide (x ∈ o)) (Qbhx (by unfold big; omega) hst.1 hst.2) ?_
  congr 1
  refine Qbfb h hf ((Qbe9 _).filter _) (fun s hs=>?_) (fun s hs=>?_) fun x hx h1 h2=>?_
  ·have:=(List.mem_filter.1 hs).2
   exact hI.rch s (by simpa using this)
  ·exact List.mem_filter.2 ⟨Qbdq.2 (hf s hs),by simpa using hI.base s hs⟩
  ·have hto:=h.ed0 x hx
   have:=(List.mem_filter.1 h1).2
   exact List.mem_filter.2 ⟨Qbdq.2 ⟨hto.2.2.1,hto.2.2.2.1⟩,by simpa using hc _ (by simpa using this) x hx rfl h2⟩
theorem Qbk8 {a : Qb} (h : Right a) {onto est : List Int} (ho : onto.length < big) (hl : est.length < big) (e : Int) : Qf3 a onto est e = some (Qbdr a onto est e):=by
 have hsm:=h.small.2.2.2
 unfold Qf3 Qb8
 refine Qht (x:=(a.Edges.filter fun x=>x.Event == e && decide (x.From ∈ est)).map (·.To)) ?_ ?_
 ·rw [Qxv (l:=a.Edges) (fun x=>x.Event == e && decide (x.From ∈ est)) (·.To) some ?_ ?_ (by unfold Qbj; omega)]
  ·intro k n hn s hs
   dsimp only
   rw [if_pos (by omega),Qca hn]
   simp only [Option.bind_some]
   by_cases h1 : a.Edges[n].Event = e
   ·rw [if_pos (by simp [h1]),Qbhw hl]
    simp only [Option.bind_some]
    by_cases h2 : a.Edges[n].From ∈ est
    ·simp only [h1,h2,decide_true,if_true,BEq.rfl,Bool.and_self,Option.bind_some]
     rw [Qdt (by simp only [List.length_cons,List.length_nil]; unfold lim; omega),Q6 (by omega)]
     rfl
    ·simp only [h1,h2,decide_false,Bool.false_eq_true,if_false,Bool.and_false,Option.bind_some]
     rw [Q6 (by omega)]
   ·have : (a.Edges[n].Event == e) = false:=by simp [h1]
    rw [if_neg (by simp [h1])]
    simp only [this,Bool.false_and,Bool.false_eq_true,if_false,Option.bind_some]
    rw [Q6 (by omega)]
  ·intro k s
   dsimp only
   rw [if_neg (by omega)]
 ·rw [Qbcu h ho]
  simp only [Option.bind_some]
  have hmm : ∀ t,t ∈ (a.Edges.filter fun x=>x.Event == e && decide (x.From ∈ est)).map (·.To) ↔ t ∈ Qpq a est e:=by
   intro t
   rw [Qbfe]
   simp only [List.mem_map,List.mem_filter,Bool.and_eq_true,beq_iff_eq,decide_eq_true_eq]
   constructor
   ·rintro ⟨x,⟨h1,h2,h3⟩,h4⟩; exact ⟨x,h1,h3,h2,h4⟩
   ·rintro ⟨x,h1,h2,h3,h4⟩; exact ⟨x,⟨h1,h3,h2⟩,h4⟩
  have hlen : ((a.Edges.filter fun x=>x.Event == e && decide (x.From ∈ est)).map (·.To)).length ≤ 131072:=by
   rw [List.length_map]; exact Nat.le_trans (List.length_filter_le _ _) hsm
  rw [Qbfg h (fun s hs=>Qbbg h s ((hmm s).1 hs)) (by omega) (Q3m h onto)]
  simp only [Option.bind_some]
  rw [Qbdr,Qbfa hmm]
theorem Qbj9 {a : Qb} (h : Right a) {onto : List Int} (ho : onto.length < big) : Qfk a onto = some (Qbbf a onto):=by
 unfold Qfk Qb5 Qbbf
 have hst:=h.st
 by_cases h0 : a.States = 0
 ·rw [if_pos (by simp [h0]),if_pos h0]
 ·rw [if_neg (by simp [h0]),if_neg h0,Qbcu h ho]
  simp only [Option.bind_some]
  rw [Qbfg h (fun s hs=>by simp at hs; subst hs; omega) (by simp) (Q3m h onto)]
  rfl
theorem Qbds {a : Qb} {onto : List Int} : ∀ (obs : List Int),Sts a (estP a onto obs):=by
 intro obs
 unfold estP
 rcases List.eq_nil_or_concat obs with rfl | ⟨l,x,rfl⟩
 ·exact Q9b _ _
 ·rw [List.concat_eq_append,List.foldl_append]; exact Q8h _ _ _ _
theorem Qbfh {a : Qb} (h : Right a) {onto obs : List Int} (ho : onto.length < big) (hl : obs.length < big) : Qef a onto obs = some (estP a onto obs):=by
 have hst:=h.st
 unfold Qef Qbp
 rw [Qbj9 h ho]
 simp only [Option.bind_some]
 refine Qht (x:=estP a onto obs) ?_ rfl
 refine (Q3k (l:=obs) (fun n (s : List Int)=>(s,(n : Int))) (Qbdr a onto) (fun s=>some s) (fun n s=>Sts a s) ?_ ?_ (by unfold Qbj; unfold big at hl; omega) _ (Q9b a onto)).trans rfl
 ·intro k n hn s hs
  refine ⟨Q8h _ _ _ _,?_⟩
  have:=hs.len
  dsimp only
  rw [if_pos (by omega),Qca hn]
  simp only [Option.bind_some]
  rw [Qbk8 h ho (by unfold big; omega)]
  simp only [Option.bind_some]
  rw [Q6 (by unfold big at hl; omega)]
 ·intro k s _
  dsimp only
  rw [if_neg (by omega)]
end Go.Abs
end
section
namespace Go.Abs
open Go
set_option linter.unusedSimpArgs false
set_option linter.unusedVariables false
section
variable {a b : Qb} {φ : Int → Int} (ha : Right a) (hb : Right b) (h : Like a b φ)
include ha hb h
end
end Go.Abs
end
section
namespace Go.Abs
open Go
set_option linter.unusedSimpArgs false
set_option linter.unusedVariables false
theorem Qbnm {a : Qb} (h : Right a) (b : Int) : ∃ l,Qi3 a b = some l ∧ Sts a l:=by
 have hst:=h.st
 unfold Qi3 Qfz
 refine Qbg6 (Sts a) ?_ fun l hl=>⟨l,rfl,hl⟩
 refine Qfc (fun x=>∃ n : Nat,x.2 = (n : Int) ∧ n ≤ a.States.toNat ∧ x.1.length ≤ n ∧ (∀ s ∈ x.1,0 ≤ s ∧ s < (n : Int)) ∧ x.1.Pairwise (· < ·)) (fun x=>a.States.toNat - x.2.toNat) (fun x r=>∃ l,r = some l ∧ Sts a l) ?_ Qbj _ ?_ ?_
 ·rintro k ⟨l,_⟩ ⟨n,rfl,hn,hln,hr,hs⟩ ih
  dsimp only at hn hln hr hs ⊢
  have hdone : Sts a l:=⟨fun s hm=>by have:=hr s hm; omega,hs⟩
  by_cases hlt : (n : Int) < a.States
  ·rw [if_pos hlt]
   simp only [Option.bind_some]
   by_cases h8 : (n : Int) < 8
   ·simp only [h8,decide_true,if_true]
    unfold shrO
    rw [if_neg (by omega)]
    simp only [Option.bind_some]
    split
    ·rw [Qdt (by simp only [List.length_cons,List.length_nil]; unfold lim; omega)]
     simp only [Option.bind_some]
     rw [Q6 (by omega)]
     refine ih _ ⟨n + 1,rfl,by omega,by simp; omega,fun s hm=>?_,?_⟩ (by simp only; omega)
     ·rcases List.mem_append.1 hm with hm | hm
      ·have:=hr s hm; omega
      ·simp only [List.mem_singleton] at hm; omega
     ·rw [List.pairwise_append]
      refine ⟨hs,by simp,fun x hx y hy=>?_⟩
      simp only [List.mem_singleton] at hy
      have:=hr x hx; omega
    ·simp only [Option.bind_some]
     rw [Q6 (by omega)]
     exact ih _ ⟨n + 1,rfl,by omega,by simp only; omega,fun s hm=>by have:=hr s hm; omega,hs⟩ (by simp only; omega)
   ·simp only [h8,decide_false,Bool.false_eq_true,if_false]
    exact ⟨l,rfl,hdone⟩
  ·rw [if_neg hlt]
   simp only [Option.bind_some,Bool.false_eq_true,if_false]
   exact ⟨l,rfl,hdone⟩
 ·exact ⟨0,rfl,Nat.zero_le _,by simp,by simp,by simp⟩
 ·simp only [Int.toNat_zero]; unfold Qbj; omega
theorem Sts.err {a : Qb} {l : List Int} (h : Sts a l) : Qe2 a.States none l = 0:=Qhs.2 ⟨h.rg,h.so,fun y hy=>by cases hy⟩
theorem Sts.big {a : Qb} (ha : Right a) {l : List Int} (h : Sts a l) : l.length < big:=by have:=h.len; have:=ha.st; unfold Abs.big; omega
theorem EvSet.big {l : List Int} (h : EvSet l) : l.length < big:=by have:=h.len; unfold Abs.big; omega
theorem Qbmn {a : Qb} (h : Right a) {onto est : List Int} (ho : EvSet onto) (he : Sts a est) (e : Int) : Qh6 a onto est e = some (if e ∈ Qxu a onto then (Qbdr a onto est e,0) else ([],9)):=by
 have hel:=he.len
 have hst:=h.st
 unfold Qh6 Qc7
 rw [Q9n h ho.big,ho.err]
 simp only [Option.bind_some,show ((0 : Int) != 0) = false from rfl,Bool.false_eq_true,if_false]
 rw [Q9m (he.big h),he.err]
 simp only [Option.bind_some,show ((0 : Int) != 0) = false from rfl,Bool.false_eq_true,if_false]
 rw [Qbcr h ho.big]
 simp only [Option.bind_some]
 rw [Qbhc h (by simp [Abs.big])]
 simp only [Option.bind_some,List.all_cons,List.all_nil,Bool.and_true]
 by_cases hk : e ∈ Qxu a onto
 ·simp only [hk,decide_true,if_true]
  rw [Qbct h he.rg (by omega)]
  rfl
 ·simp only [hk,decide_false,Bool.false_eq_true,if_false]
theorem Qbbh {a : Qb} (h : Right a) {onto obs : List Int} (ho : EvSet onto) (hl : obs.length < big) : Qfj a onto obs = some (if (obs.all fun x=>decide (x ∈ Qxu a onto)) = true then (estP a onto obs,0) else ([],9)):=by
 have hst:=h.st
 unfold Qfj Qbt
 rw [Q9n h ho.big,ho.err]
 simp only [Option.bind_some,show ((0 : Int) != 0) = false from rfl,Bool.false_eq_true,if_false]
 rw [Qbcr h ho.big]
 simp only [Option.bind_some]
 rw [Qbhc h hl]
 simp only [Option.bind_some]
 by_cases hk : (obs.all fun x=>decide (x ∈ Qxu a onto)) = true
 ·rw [if_pos hk,if_pos hk,Qbk6 h onto]
  simp only [Option.bind_some]
  refine Qht (x:=estP a onto obs) ?_ rfl
  refine (Q3k (l:=obs) (fun n (s : List Int)=>(s,(n : Int))) (Qbdr a onto) (fun s=>some s) (fun n s=>Sts a s) ?_ ?_ (by unfold Qbj; unfold Abs.big at hl; omega) _ (Q9b a onto)).trans rfl
  ·intro k n hn s hs
   refine ⟨Q8h _ _ _ _,?_⟩
   have:=hs.len
   dsimp only
   rw [if_pos (by omega),Qca hn]
   simp only [Option.bind_some]
   rw [Qbct h hs.rg (by omega)]
   simp only [Option.bind_some]
   rw [Q6 (by unfold Abs.big at hl; omega)]
  ·intro k s _
   dsimp only
   rw [if_neg (by omega)]
 ·rw [if_neg hk,if_neg hk]
theorem Sts.t {a : Qb} (ha : Right a) {l : List Int} (h : Sts a l) : l.length < 1000000000000:=by have:=h.len; have:=ha.st; omega
theorem Qbdt (s : Int × Int) (g : Q7) (obs : List Int) (hs1 : 0 ≤ s.1 ∧ s.1 < 256) (hs2 : 0 ≤ s.2 ∧ s.2 < 256) (hg : Qbj1 g) : Qdi s g obs = some true:=by
 unfold Qdi Qcl
 rw [Qbj4]
 simp only [Option.bind_some,if_true]
 by_cases hl : obs.length ≤ 6
 ·rw [if_neg (by simp; omega)]
  obtain ⟨ev,hE,hev⟩:=Qbe6 hs1.1 hs1.2
  obtain ⟨on,hE2,hon'⟩:=Qbe6 hs2.1 hs2.2
  obtain ⟨m,hm,_,hM,_⟩:=Qbmk hev hg
  have ha:=Qbe4 hm
  have hon:=hon'.set
  rw [hE]
  simp only [Option.bind_some]
  rw [hM]
  simp only [Option.bind_some]
  rw [hE2]
  simp only [Option.bind_some]
  generalize Q8b m = a at ha ⊢
  have hob : obs.length < big:=by unfold Abs.big; omega
  rw [Qbbh ha hon hob]
  simp only [Option.bind_some]
  rw [Qbk7 ha hon.big]
  simp only [Option.bind_some]
  have hkl:=Qbhb ha on
  refine Qbg0 (fun i : Int=>∃ n : Nat,i = n ∧ n ≤ obs.length ∧ ∀ y ∈ obs.take n,y ∈ Qxu a on) (fun i=>obs.length - i.toNat) _ ⟨0,rfl,by omega,by simp⟩ (by simp only [Int.toNat_zero]; unfold Qbj; omega) ?_
  rintro k _ ⟨n,rfl,hn,hal⟩ ih
  by_cases hlt : n < obs.length
  ·rw [if_pos (by omega),Qca hlt]
   simp only [Option.bind_some]
   rw [Qbnc (by unfold Abs.big; omega)]
   simp only [Option.bind_some]
   by_cases hx : obs[n] ∈ Qxu a on
   ·simp only [hx,decide_true,if_true]
    rw [Q6 (by omega)]
    refine ih _ ⟨n + 1,rfl,by omega,fun y hy=>?_⟩ (by omega)
    rw [List.take_succ_eq_append_getElem hlt] at hy
    rcases List.mem_append.1 hy with hy | hy
    ·exact hal y hy
    ·simp only [List.mem_singleton] at hy; subst hy; exact hx
   ·simp only [hx,decide_false,Bool.false_eq_true,if_false]
    have : ¬ (obs.all fun x=>decide (x ∈ Qxu a on)) = true:=fun hc=>hx (by
     have:=List.all_eq_true.1 hc _ (List.getElem_mem hlt); simpa using this)
    rw [if_neg this]
    rfl
  ·rw [if_neg (by omega)]
   have hall : ∀ y ∈ obs,y ∈ Qxu a on:=fun y hy=>hal y (by rw [List.take_of_length_le (by omega)]; exact hy)
   have hc : (obs.all fun x=>decide (x ∈ Qxu a on)) = true:=List.all_eq_true.2 fun y hy=>by simpa using hall y hy
   rw [if_pos hc,Qbfh ha hon.big hob]
   simp only [Option.bind_some]
   rw [Qbg5 ((Qbds obs).t ha)]
   simp only [Option.bind_some,decide_true,if_true,show ((0 : Int) != 0) = false from rfl,Bool.false_eq_true,if_false]
   rw [Qbbh ha hon (by simp [Abs.big])]
   simp only [Option.bind_some,List.all_nil,if_true]
   refine Qht (x:=(estP a on obs,0)) ?_ ?_
   ·refine (Q3k (l:=obs) (fun n (s : List Int)=>(s,(0 : Int),(n : Int))) (Qbdr a on) (fun s=>some (s,0)) (fun n s=>Sts a s) ?_ ?_ (by unfold Qbj; omega) _ (Qbds [])).trans rfl
    ·intro k n hn s hs
     refine ⟨Q8h _ _ _ _,?_⟩
     dsimp only
     rw [if_pos (by omega)]
     simp only [Option.bind_some,show ((0 : Int) == 0) = true from rfl,if_true]
     rw [Qca hn]
     simp only [Option.bind_some]
     rw [Qbmn ha hon hs,if_pos (hall _ (List.getElem_mem hn))]
     simp only [Option.bind_some]
     rw [Q6 (by omega)]
    ·intro k s _
     dsimp only
     rw [if_neg (by omega)]
     simp only [Option.bind_some,Bool.false_eq_true,if_false]
   ·simp only [show ((0 : Int) == 0) = true from rfl,if_true]
    rw [Qbg5 ((Qbds obs).t ha)]
    simp
 ·rw [if_pos (by simp; omega)]
end Go.Abs
end
