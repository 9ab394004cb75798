/-
  Part 5 of the proof: see the last text.
-/
import Derived.Test.YthlopjpofmcdmaaP4
import Derived.Sort.Grow
set_option linter.unusedVariables false
set_option linter.unusedSimpArgs false
set_option linter.unusedSectionVars false
section
namespace Go.Abs
open Go
variable {Γ:Env} {pc d nb:Nat} {os:List COp} {E:List (Nat×V)} {M M' M0:Mem} {L:List (Nat×Bx)} {Q:St→Prop} {σ:St}
def RnP (Γ:Env) (pc:Nat) (os:List COp) (σ:St) (Q:St→Prop):Prop :=
 bif Nat.beq pc 9 then Qx5 Γ os σ Q else Q3v (ACalls Γ.P) Γ.n0 pc os σ Q
structure Rn (Γ:Env) (pc:Nat) (os:List COp) (σ:St) (Q:St→Prop):Prop where
 run:RnP Γ pc os σ Q
theorem Tr.rgn {cs:List COp} {Q:Ex→St→Prop} (h:Rn Γ 9 cs σ (Q .norm)):Tr Γ (.region cs 9 []) σ Q:=Tr.region h.run
theorem Tr.rgnD {cs:List COp} {Q:Ex→St→Prop} {pc:Nat} {ps:List Pair} (hpc:pc≠9) (h:Rn Γ pc cs σ fun σ'=>Qmo ps σ'=true∧Q .norm σ'):Tr Γ (.region cs pc ps) σ Q:=by
 refine Tr.regionD hpc ?_;have h:=h.run;unfold RnP at h;have:Nat.beq pc 9=false:=by
  cases hb:Nat.beq pc 9 with
  | false=>rfl
  | true=>exact absurd (Nat.eq_of_beq_eq_true hb) hpc
 rw [this] at h;exact h
theorem Rn.weak {σ' : St} (h:WeakSt Γ σ σ') (k:Rn Γ 9 os σ' Q):Rn Γ 9 os σ Q:=⟨Q4k h k.run⟩
theorem Rn.nil (h:Q σ):Rn Γ pc [] σ Q:=by
 refine ⟨?_⟩;unfold RnP;cases Nat.beq pc 9 with
 | true=>exact ⟨σ,.refl _,h⟩
 | false=>exact h
theorem COp.run_mono {C:Ctx} {n0 pc:Nat} {o:COp} {σ:St} {Q Q' : St→Prop} (h:o.run C n0 pc σ Q) (k:∀ σ',Q σ'→Q' σ'):o.run C n0 pc σ Q':=by
 unfold COp.run at *
 cases hw:o.wanted σ.s with
 | none=>rw [hw] at h;exact h.elim
 | some b =>
  rw [hw] at h;cases b with
  | false=>exact k _ h
  | true =>
   simp only at h ⊢;cases hc:o.kind.isCall with
   | true =>
    rw [hc] at h;simp only [if_true] at h ⊢;cases hcal:o.callee σ.s with
    | none=>rw [hcal] at h;exact h.elim
    | some fa =>
     rw [hcal] at h;simp only at h ⊢
     match pc,h with
     | 0,⟨r,M,nb,h1,h2,h3,h4⟩=>exact ⟨r,M,nb,h1,h2,h3,k _ h4⟩
     | 1,⟨r,Δ,nb,h1,h4⟩=>exact ⟨r,Δ,nb,h1,k _ h4⟩
     | n+2,h =>
      have h:(if n<8 then _ else _):=h;show (if n<8 then _ else _);by_cases hn8:n<8
      ·rw [if_pos hn8] at h ⊢;obtain ⟨r,h1,h4⟩:=h;exact ⟨r,h1,k _ h4⟩
      ·rw [if_neg hn8] at h ⊢;obtain ⟨r,W,Δ,nb,h1,h2,h3,h5,h4⟩:=h;exact ⟨r,W,Δ,nb,h1,h2,h3,h5,k _ h4⟩
   | false =>
    rw [hc] at h;simp only [Bool.false_eq_true,if_false] at h ⊢;cases hn:o.kind.isNil with
    | true =>
     rw [hn] at h;simp only [if_true] at h ⊢;cases hl:Q1e (o.xs σ.s) with
     | none=>rw [hl] at h;exact h.elim
     | some n=>rw [hl] at h;exact fun b hb=>k _ (h b hb)
    | false =>
     rw [hn] at h;simp only [Bool.false_eq_true,if_false] at h ⊢;cases hs:o.step n0 σ with
     | none=>rw [hs] at h;exact h.elim
     | some σ'=>rw [hs] at h;exact k _ h
def pcOf (pc:Nat):Nat:=bif Nat.beq pc 9 then 0 else pc
def one (n:Nat):Bool:=Nat.beq n 1||Nat.ble 10 n
theorem Rn.cons {o:COp} (h:o.run (ACalls Γ.P) Γ.n0 (pcOf pc) σ fun σ'=>Rn Γ pc os σ' Q):Rn Γ pc (o::os) σ Q:=by
 have h:=COp.run_mono h (Q':=fun σ'=>RnP Γ pc os σ' Q) fun _ h=>h.run;refine ⟨?_⟩;unfold RnP pcOf at *
 cases hb:Nat.beq pc 9 with
 | true=>rw [hb] at h;exact ⟨σ,.refl _,h⟩
 | false=>rw [hb] at h;exact h
def Wn (E:List (Nat×V)):Option (Nat×Bool)→Prop
 | none=>True
 | some (g,w)=>look E g = .d (.bool w)
theorem gw {g:Nat} {b w:Bool} (h:look E g = .d (.bool b)) (hb:b=w):Wn E (some (g,w)):=hb ▸ h
theorem Wn.wanted {gd:Option (Nat×Bool)} (h:Wn E gd) (dst:Option Nat) (k:K) (as:List Arg) (tk:Bool):COp.wanted ⟨dst,k,as,tk,gd⟩ (look E)=some true:=by
 unfold COp.wanted;cases gd with
 | none=>rfl
 | some p =>
  obtain ⟨g,w⟩:=p;have h:look E g = .d (.bool w):=h;simp [h]
def Nw (E:List (Nat×V)) (g:Nat) (want:Bool):Prop:=look E g = .d (.bool (!want))∨look E g = .tup []
theorem nw {g:Nat} {b w:Bool} (h:look E g = .d (.bool b)) (hb:b = !w):Nw E g w:=.inl (hb ▸ h)
theorem nu {g:Nat} {w:Bool} (h:look E g = .tup []):Nw E g w:=.inr h
theorem Rn.gF {dst:Option Nat} {k:K} {as:List Arg} {tk:Bool} {g:Nat} {want:Bool} (hg:Nw E g want) (h:Rn Γ pc os ⟨Qbf (look E) dst (.tup []),M,nb⟩ Q):Rn Γ pc (⟨dst,k,as,tk,some (g,want)⟩::os) ⟨look E,M,nb⟩ Q:=by
 refine Rn.cons ?_;have hw:COp.wanted ⟨dst,k,as,tk,some (g,want)⟩ (look E)=some false:=by
  rcases hg with hg|hg<;>simp [COp.wanted,hg]
 unfold COp.run;rw [hw];exact h
theorem Rn.sk {t:Nat} {k:K} {as:List Arg} {tk:Bool} {g:Nat} {want:Bool} (hg:Nw E g want) (h:Rn Γ pc os ⟨look ((t,.tup [])::E),M,nb⟩ Q):Rn Γ pc (⟨some t,k,as,tk,some (g,want)⟩::os) ⟨look E,M,nb⟩ Q:=by
 refine Rn.gF hg ?_;rw [show Qbf (look E) (some t) (.tup [])=look ((t,.tup [])::E) from Qdt E t _];exact h
variable {gd:Option (Nat×Bool)}
theorem Rn.k {k:K} {as:List Arg} {v:V} (hw:Wn E gd) (hc:k.isCall=false) (hn:k.isNil=false) (hk:Qk Γ.n0 (Γ.n0+d) k (V.dems (as.map (·.val (look E)))) M=some (v,M'))
  (h:Rn Γ pc os ⟨look ((d,v)::E),M',nb⟩ Q):Rn Γ pc (⟨some d,k,as,false,gd⟩::os) ⟨look E,M,nb⟩ Q:=by
 refine Rn.cons ?_;unfold COp.run;rw [hw.wanted];simp only [hc,hn,Bool.false_eq_true,if_false,COp.step,COp.xs,Option.getD_some,hk,Qbf];rw [Qdt];exact h
theorem Rn.kT {k:K} {as:List Arg} {v:V} {E' : List (Nat×V)} (hw:Wn E gd) (hc:k.isCall=false) (hn:k.isNil=false) (hk:Qk Γ.n0 (Γ.n0+d) k (as.map (·.val (look E))) M=some (v,M'))
  (hp:∀ i,(Q5 (look E) as (Qb1 k (as.map (·.val (look E))))).put d v i=look E' i)
  (h:Rn Γ pc os ⟨look E',M',nb⟩ Q):Rn Γ pc (⟨some d,k,as,true,gd⟩::os) ⟨look E,M,nb⟩ Q:=by
 refine Rn.cons ?_;unfold COp.run;rw [hw.wanted];simp only [hc,hn,Bool.false_eq_true,if_false,COp.step,COp.xs,Option.getD_some,hk,Qbf,if_true];have:(Q5 (look E) as (Qb1 k (as.map (·.val (look E))))).put d v=look E':=funext hp;rw [this];exact h
theorem Rn.kS {n:Nat} {as:List Arg} {tk:Bool} {v:V} {E' : List (Nat×V)} (hw:Wn E gd) (hk:Qk Γ.n0 (Γ.n0+0) (.store n) (if tk then as.map (·.val (look E)) else V.dems (as.map (·.val (look E)))) M=some (v,M'))
  (hp:∀ i,(if tk then Q5 (look E) as (Qb1 (.store n) (as.map (·.val (look E)))) else look E) i=look E' i)
  (h:Rn Γ pc os ⟨look E',M',nb⟩ Q):Rn Γ pc (⟨none,.store n,as,tk,gd⟩::os) ⟨look E,M,nb⟩ Q:=by
 refine Rn.cons ?_;unfold COp.run;rw [hw.wanted];have hk' : Qk Γ.n0 (Γ.n0+(none:Option Nat).getD 0) (.store n) (COp.xs ⟨none,.store n,as,tk,gd⟩ (look E)) M=some (v,M'):=hk;simp only [show (K.store n).isCall=false from rfl,show (K.store n).isNil=false from rfl,Bool.false_eq_true,if_false,COp.step,hk',Qbf];have hp' : (if tk=true then Q5 (look E) as (Qb1 (.store n) (COp.xs ⟨none,.store n,as,tk,gd⟩ (look E))) else look E)=look E':=by
  funext i;rw [← hp i];cases tk<;>simp [COp.xs]
 rw [hp'];exact h
variable {a b c:Arg} {x y:D}
theorem Rn.mov {v:V} (hw:Wn E gd) (ha:(a.val (look E)).dem=v) (h:Rn Γ pc os ⟨look ((d,v)::E),M,nb⟩ Q):Rn Γ pc (⟨some d,.mov,[a],false,gd⟩::os) ⟨look E,M,nb⟩ Q:=by
 refine Rn.k hw rfl rfl ?_ h;simp [V.dems,Qk,ha]
theorem Rn.movD (hw:Wn E gd) (ha:a.val (look E) = .d x) (h:Rn Γ pc os ⟨look ((d,.d x)::E),M,nb⟩ Q):Rn Γ pc (⟨some d,.mov,[a],false,gd⟩::os) ⟨look E,M,nb⟩ Q :=
 Rn.mov hw (by rw [ha];rfl) h
theorem Rn.movTF {t:Nat} {v:V} (hw:Wn E gd) (ha:look E t=v) (hf:v.dem=v) (h:Rn Γ pc os ⟨look ((d,v)::E),M,nb⟩ Q):Rn Γ pc (⟨some d,.mov,[.t t],true,gd⟩::os) ⟨look E,M,nb⟩ Q:=by
 refine Rn.kT hw rfl rfl (v:=v) (by simp [Arg.val,ha,Qk]) (fun i=>?_) h;simp only [List.map_cons,List.map_nil,Arg.val,ha,Qb1,hf,Q5,Arg.putTo];rw [← Qdt];have:(look E).put t v=look E:=by
  funext i;simp only [Sl.put];split
  ·rename_i e;subst e;exact ha.symm
  ·rfl
 rw [this]
theorem Rn.movTC {v:V} (hw:Wn E gd) (h:Rn Γ pc os ⟨look ((d,v)::E),M,nb⟩ Q):Rn Γ pc (⟨some d,.mov,[.c v],true,gd⟩::os) ⟨look E,M,nb⟩ Q:=by
 refine Rn.kT hw rfl rfl (v:=v) (by simp [Arg.val,Qk]) (fun i=>?_) h;simp only [List.map_cons,List.map_nil,Arg.val,Qb1,Q5,Arg.putTo];rw [← Qdt]
theorem Rn.movTO {t sz:Nat} {l:List (List D)} (hw:Wn E gd) (ha:look E t = .own sz l) (h:Rn Γ pc os ⟨look ((d,.own sz l)::(t,.d (.lst sz l))::E),M,nb⟩ Q):Rn Γ pc (⟨some d,.mov,[.t t],true,gd⟩::os) ⟨look E,M,nb⟩ Q:=by
 refine Rn.kT hw rfl rfl (v:=.own sz l) (by simp [Arg.val,ha,Qk]) (fun i=>?_) h;simp only [List.map_cons,List.map_nil,Arg.val,ha,Qb1,V.dem,Q5,Arg.putTo];rw [← Qdt,← Qdt]
theorem Rn.bin {op:BinOp} {tb:Bool} {z:D} (hw:Wn E gd) (ha:a.val (look E) = .d x) (hb:b.val (look E) = .d y) (hz:binD op tb x y=some z) (h:Rn Γ pc os ⟨look ((d,.d z)::E),M,nb⟩ Q):Rn Γ pc (⟨some d,.bin op tb,[a,b],false,gd⟩::os) ⟨look E,M,nb⟩ Q:=by
 refine Rn.k hw rfl rfl ?_ h;simp [ha,hb,V.dems,V.dem,Qk,hz]
theorem Rn.un {op:UnOp} {z:D} (hw:Wn E gd) (ha:a.val (look E) = .d x) (hz:unD op x=some z) (h:Rn Γ pc os ⟨look ((d,.d z)::E),M,nb⟩ Q):Rn Γ pc (⟨some d,.un op,[a],false,gd⟩::os) ⟨look E,M,nb⟩ Q:=by
 refine Rn.k hw rfl rfl ?_ h;simp [ha,V.dems,V.dem,Qk,hz]
theorem Rn.conv {k k' : IntKind} {n:Int} (hw:Wn E gd) (ha:a.val (look E) = .d (.int k' n)) (h:Rn Γ pc os ⟨look ((d,.d (.int k (k.wrap n)))::E),M,nb⟩ Q):Rn Γ pc (⟨some d,.conv k,[a],false,gd⟩::os) ⟨look E,M,nb⟩ Q:=by
 refine Rn.k hw rfl rfl ?_ h;simp [ha,V.dems,V.dem,Qk]
theorem Rn.eqa {neg r:Bool} {ks:List Nat} {xs ys:List V} (hw:Wn E gd) (ha:(a.val (look E)).dem = .agg xs) (hb:(b.val (look E)).dem = .agg ys) (hz:Qd8 ks xs ys=some r) (h:Rn Γ pc os ⟨look ((d,.d (.bool (bif neg then !r else r)))::E),M,nb⟩ Q):Rn Γ pc (⟨some d,.eqa neg ks,[a,b],false,gd⟩::os) ⟨look E,M,nb⟩ Q:=by
 refine Rn.k hw rfl rfl ?_ h;cases neg<;>simp [ha,hb,V.dems,Qk,hz]
theorem Rn.pickT {v:V} {q:Bool} (hw:Wn E gd) (hq:c.val (look E) = .d (.bool q)) (hb:q=true) (ha:(a.val (look E)).dem=v) (h:Rn Γ pc os ⟨look ((d,v)::E),M,nb⟩ Q):Rn Γ pc (⟨some d,.pick,[c,a,b],false,gd⟩::os) ⟨look E,M,nb⟩ Q:=by
 subst hb;refine Rn.k hw rfl rfl ?_ h;simp [hq,V.dems,V.dem,Qk,ha]
theorem Rn.pickF {v:V} {q:Bool} (hw:Wn E gd) (hq:c.val (look E) = .d (.bool q)) (hb:q=false) (ha:(b.val (look E)).dem=v) (h:Rn Γ pc os ⟨look ((d,v)::E),M,nb⟩ Q):Rn Γ pc (⟨some d,.pick,[c,a,b],false,gd⟩::os) ⟨look E,M,nb⟩ Q:=by
 subst hb;refine Rn.k hw rfl rfl ?_ h;simp [hq,V.dems,V.dem,Qk,ha]
theorem Rn.max2 {k:IntKind} {m n:Int} (hw:Wn E gd) (ha:a.val (look E) = .d (.int k m)) (hb:b.val (look E) = .d (.int k n)) (h:Rn Γ pc os ⟨look ((d,.d (.int k (if n>m then n else m)))::E),M,nb⟩ Q):Rn Γ pc (⟨some d,.max2,[a,b],false,gd⟩::os) ⟨look E,M,nb⟩ Q:=by
 refine Rn.k hw rfl rfl ?_ h;simp [ha,hb,V.dems,V.dem,Qk]
theorem Rn.min2 {k:IntKind} {m n:Int} (hw:Wn E gd) (ha:a.val (look E) = .d (.int k m)) (hb:b.val (look E) = .d (.int k n)) (h:Rn Γ pc os ⟨look ((d,.d (.int k (if n<m then n else m)))::E),M,nb⟩ Q):Rn Γ pc (⟨some d,.min2,[a,b],false,gd⟩::os) ⟨look E,M,nb⟩ Q:=by
 refine Rn.k hw rfl rfl ?_ h;simp [ha,hb,V.dems,V.dem,Qk]
variable {α:Type} {e:α→List D} {xs:List α} {sz:Nat}
theorem Rn.lenD (hw:Wn E gd) (ha:(a.val (look E)).dem = .d (.lst sz (xs.map e))) (h:Rn Γ pc os ⟨look ((d,.d (.int .i64 xs.length))::E),M,nb⟩ Q):Rn Γ pc (⟨some d,.len,[a],false,gd⟩::os) ⟨look E,M,nb⟩ Q:=by
 refine Rn.k hw rfl rfl ?_ h;simp [ha,V.dems,Qk]
def getO (l:List α) (i:Int):Option α:=if 0≤i then l[i.toNat]? else none
def slcO (l:List α) (lo hi:Int):Option (List α):=if 0≤lo∧lo≤hi∧hi≤l.length then some ((l.take hi.toNat).drop lo.toNat) else none
def appO (l m:List α):Option (List α):=if l.length+m.length≤lim then some (l++m) else none
theorem Rn.idxD {k:IntKind} {i:Int} {x:α} (hw:Wn E gd) (ha:(a.val (look E)).dem = .d (.lst sz (xs.map e))) (hb:b.val (look E) = .d (.int k i)) (hx:getO xs i=some x) (h:Rn Γ pc os ⟨look ((d,.cref (e x))::E),M,nb⟩ Q):Rn Γ pc (⟨some d,.idx sz,[a,b],false,gd⟩::os) ⟨look E,M,nb⟩ Q:=by
 refine Rn.k hw rfl rfl ?_ h;unfold getO at hx;split at hx<;>try (cases hx;done)
 rename_i h0;simp [ha,hb,V.dems,V.dem,Qk,h0,hx]
theorem Rn.loadC {cs:List D} (hw:Wn E gd) (ha:a.val (look E) = .cref (x::cs)) (h:Rn Γ pc os ⟨look ((d,.d x)::E),M,nb⟩ Q):Rn Γ pc (⟨some d,.load false 1,[a],false,gd⟩::os) ⟨look E,M,nb⟩ Q:=by
 refine Rn.k hw rfl rfl ?_ h;simp [ha,V.dems,V.dem,Qk]
theorem Rn.loadCA {cs:List D} {vs:List V} {n:Nat} (hw:Wn E gd) (ha:a.val (look E) = .cref cs) (hn:Nat.ble n cs.length=true) (hv:(cs.take n).map .d=vs) (h:Rn Γ pc os ⟨look ((d,.agg vs)::E),M,nb⟩ Q):Rn Γ pc (⟨some d,.load true n,[a],false,gd⟩::os) ⟨look E,M,nb⟩ Q:=by
 refine Rn.k hw rfl rfl ?_ h;have:=Nat.le_of_ble_eq_true hn;simp [ha,V.dems,V.dem,Qk,this,hv]
theorem Rn.fldC {cs:List D} {off:Nat} (hw:Wn E gd) (ha:a.val (look E) = .cref cs) (h:Rn Γ pc os ⟨look ((d,.cref (cs.drop off))::E),M,nb⟩ Q):Rn Γ pc (⟨some d,.fld off,[a],false,gd⟩::os) ⟨look E,M,nb⟩ Q:=by
 refine Rn.k hw rfl rfl ?_ h;simp [ha,V.dems,V.dem,Qk]
theorem Rn.fldP {k o off o' : Nat} (hw:Wn E gd) (ha:a.val (look E) = .ptr k o) (ho:o+off=o') (h:Rn Γ pc os ⟨look ((d,.ptr k o')::E),M,nb⟩ Q):Rn Γ pc (⟨some d,.fld off,[a],false,gd⟩::os) ⟨look E,M,nb⟩ Q:=by
 refine Rn.k hw rfl rfl ?_ h;subst ho;simp [ha,V.dems,V.dem,Qk]
theorem Rn.nilchkP {k o:Nat} (hw:Wn E gd) (ha:a.val (look E) = .ptr k o) (h:Rn Γ pc os ⟨look ((d,.ptr k o)::E),M,nb⟩ Q):Rn Γ pc (⟨some d,.nilchk,[a],false,gd⟩::os) ⟨look E,M,nb⟩ Q:=by
 refine Rn.k hw rfl rfl ?_ h;simp [ha,V.dems,V.dem,Qk]
theorem Rn.fieldA {cs vs:List V} {off n:Nat} (hw:Wn E gd) (ha:(a.val (look E)).dem = .agg cs) (hn:Nat.ble (off+n) cs.length=true) (hv:(cs.drop off).take n=vs) (h:Rn Γ pc os ⟨look ((d,.agg vs)::E),M,nb⟩ Q):Rn Γ pc (⟨some d,.field true off n,[a],false,gd⟩::os) ⟨look E,M,nb⟩ Q:=by
 refine Rn.k hw rfl rfl ?_ h;have:=Nat.le_of_ble_eq_true hn;simp [ha,V.dems,Qk,this,hv]
theorem Rn.build {as:List Arg} {z:List V} {ps:List (Nat×Nat)} {v:V} (hw:Wn E gd) (hk:Qk Γ.n0 (Γ.n0+d) (.build z ps) (V.dems (as.map (·.val (look E)))) M=some (v,M)) (h:Rn Γ pc os ⟨look ((d,v)::E),M,nb⟩ Q):Rn Γ pc (⟨some d,.build z ps,as,false,gd⟩::os) ⟨look E,M,nb⟩ Q :=
 Rn.k hw rfl rfl hk h
theorem Rn.ext {i:Nat} {vs:List V} {v:V} (hw:Wn E gd) (ha:(a.val (look E)).dem = .tup vs) (hv:vs[i]? = some v) (ht:v.top=v) (h:Rn Γ pc os ⟨look ((d,v)::E),M,nb⟩ Q):Rn Γ pc (⟨some d,.extract i,[a],false,gd⟩::os) ⟨look E,M,nb⟩ Q:=by
 refine Rn.k hw rfl rfl ?_ h;simp [ha,V.dems,Qk,hv,ht]
theorem Rn.extTD {t i:Nat} {vs:List V} {x:D} (hw:Wn E gd) (ha:look E t = .tup vs) (hv:vs[i]? = some (.d x)) (hs:vs.set i (.d x)=vs) (h:Rn Γ pc os ⟨look ((d,.d x)::E),M,nb⟩ Q):Rn Γ pc (⟨some d,.extract i,[.t t],true,gd⟩::os) ⟨look E,M,nb⟩ Q:=by
 refine Rn.kT hw rfl rfl (v:=.d x) (by simp [Arg.val,ha,Qk,hv,V.top,V.dem]) (fun j=>?_) h;simp only [List.map_cons,List.map_nil,Arg.val,ha,Qb1,hv,V.dem,hs,Q5,Arg.putTo];rw [← Qdt];have:(look E).put t (.tup vs)=look E:=by
  funext i;simp only [Sl.put];split
  ·rename_i e;subst e;exact ha.symm
  ·rfl
 rw [this]
theorem Q7k {l:List α} {lo hi:Int} {ys:List α} (h:slcO l lo hi=some ys):0≤lo∧lo≤hi∧hi≤l.length∧(((l.map e).take hi.toNat).drop lo.toNat)=ys.map e:=by
 unfold slcO at h;split at h<;>cases h;rename_i hc;refine ⟨hc.1,hc.2.1,hc.2.2,by simp [List.map_drop,List.map_take]⟩
theorem Rn.slcH {k:IntKind} {hi:Int} {ys:List α} (hw:Wn E gd) (ha:(a.val (look E)).dem = .d (.lst sz (xs.map e))) (hb:b.val (look E) = .d (.int k hi)) (hx:slcO xs 0 hi=some ys) (h:Rn Γ pc os ⟨look ((d,.d (.lst sz (ys.map e)))::E),M,nb⟩ Q) :
  Rn Γ pc (⟨some d,.slice sz false true,[a,b],false,gd⟩::os) ⟨look E,M,nb⟩ Q:=by
 refine Rn.k hw rfl rfl ?_ h;obtain ⟨h1,h2,h3,h4⟩:=Q7k (e:=e) hx;simp only [Int.toNat_zero,List.drop_zero] at h4;simp [ha,hb,V.dems,V.dem,Qk,h2,h3,h4]
theorem Rn.app {t bytes:Nat} {ys zs:List α} {src:V} (hw:Wn E gd) (ha:look E t = .own sz (xs.map e)) (hb:b.val (look E)=src) (hf:src.dem=src) (hs:Qe4 M sz src=some (ys.map e)) (hx:appO xs ys=some zs) (hbd:(Nat.ble bytes 128&&Nat.ble 1 sz)=true)
  (h:Rn Γ pc os ⟨look ((d,.own sz (zs.map e))::(t,.d (.lst sz (xs.map e)))::E),M,nb⟩ Q):Rn Γ pc (⟨some d,.append sz bytes,[.t t,b],true,gd⟩::os) ⟨look E,M,nb⟩ Q:=by
 unfold appO at hx;split at hx<;>cases hx;rename_i hl;simp only [Bool.and_eq_true] at hbd;have h1:=Nat.le_of_ble_eq_true hbd.1;have h2:0<sz:=Nat.le_of_ble_eq_true hbd.2;have hm:[Arg.t t,b].map (fun x=>x.val (look E))=[V.own sz (xs.map e),src]:=by
  simp only [List.map_cons,List.map_nil,hb];rw [show (Arg.t t).val (look E)=_ from ha]
 refine Rn.kT hw rfl rfl (v:=.own sz ((xs++ys).map e)) ?_ (fun i=>?_) h
 ·rw [hm];simp [Qk,hs,h1,h2,hl]
 ·rw [hm];simp only [Qb1,hf,show (V.own sz (xs.map e)).dem = .d (.lst sz (xs.map e)) from rfl,Q5,show ∀ s v,(Arg.t t).putTo s v=s.put t v from fun _ _=>rfl];have hz:∀ s:Sl,b.val s=src→b.putTo s src=s:=by
   intro s hs;cases b with
   | c v=>rfl
   | t u =>
    simp only [Arg.val] at hs;funext i;simp only [Arg.putTo,Sl.put];split
    ·rename_i e;subst e;exact hs.symm
    ·rfl
  rw [hz]
  ·rw [Qdt,Qdt]
  ·cases b with
   | c v=>exact hb
   | t u =>
    have:u≠t:=by
     rintro rfl;simp only [Arg.val] at hb;rw [ha] at hb;subst hb;simp [V.dem] at hf
    simp only [Arg.val,Sl.put,this,if_false];exact hb
theorem Rn.slcT {t:Nat} {k:IntKind} {lo:Int} {ys:List α} (hw:Wn E gd) (ha:look E t = .own sz (xs.map e)∨look E t = .ownT sz (xs.map e)) (hb:b.val (look E) = .d (.int k lo)) (hx:slcO xs lo xs.length=some ys)
  (h:Rn Γ pc os ⟨look ((d,.ownT sz (ys.map e))::(t,.d (.lst sz (xs.map e)))::E),M,nb⟩ Q):Rn Γ pc (⟨some d,.slcT sz,[.t t,b],true,gd⟩::os) ⟨look E,M,nb⟩ Q:=by
 obtain ⟨h1,h2,h3,h4⟩:=Q7k (e:=e) hx;have h5:(xs.map e).take xs.length=xs.map e:=by rw [List.take_of_length_le (by simp)]
 simp only [Int.toNat_natCast,h5] at h4;have hm:∀ v,look E t=v→[Arg.t t,b].map (fun x=>x.val (look E))=[v,V.d (.int k lo)]:=by
  intro v hv;simp only [List.map_cons,List.map_nil,hb];rw [show (Arg.t t).val (look E)=_ from hv]
 have hd:(look E t).dem = .d (.lst sz (xs.map e)):=by rcases ha with ha|ha<;>rw [ha]<;>rfl
 have hne:∀ u,b = .t u→u≠t:=by
  rintro u rfl rfl;simp only [Arg.val] at hb;rw [hb] at hd;cases hd
 refine Rn.kT hw rfl rfl (v:=.ownT sz (ys.map e)) ?_ (fun i=>?_) h
 ·rcases ha with ha|ha<;>rw [hm _ ha]<;>simp [Qk,h1,h2,h4]
 ·rw [hm _ rfl];simp only [Qb1,hd,Q5,show ∀ s v,(Arg.t t).putTo s v=s.put t v from fun _ _=>rfl];have hz:∀ s:Sl,b.val s = .d (.int k lo)→b.putTo s (.d (.int k lo))=s:=by
   intro s hs;cases b with
   | c v=>rfl
   | t u =>
    simp only [Arg.val] at hs;funext i;simp only [Arg.putTo,Sl.put];split
    ·rename_i e;subst e;exact hs.symm
    ·rfl
  rw [hz]
  ·rw [Qdt,Qdt]
  ·cases b with
   | c v=>exact hb
   | t u=>simp only [Arg.val,Sl.put,hne u rfl,if_false];exact hb
end Go.Abs
end
section
namespace Go.Abs
open Go
variable {Γ : Env} {pc d nb : Nat} {os : List COp} {E : List (Nat × V)} {M M' M0 : Mem} {L : List (Nat × Bx)} {Q : St → Prop} {σ : St} {gd : Option (Nat × Bool)} {a b c : Arg}
theorem Qpp (h : (Qbo L d).isNone = true) : (Ql Γ.n0 L M0 (Γ.n0 + d)).isNone = true := by rw [Qci]; exact h
theorem Rn.box {n : Nat} {v : V} {cs : List V} (hw : Wn E gd) (ha : (a.val (look E)).dem = v) (hv : Qel v = true) (hc : v.cells = cs) (hn : Nat.beq cs.length n = true) (hf : (Qbo L d).isNone = true)
  (h : Rn Γ pc os ⟨look ((d, .ptr (Γ.n0 + d) 0) :: E), Ql Γ.n0 ((d, .cells cs) :: L) M0, nb⟩ Q) : Rn Γ pc (⟨some d, .box n, [a], false, gd⟩ :: os) ⟨look E, Ql Γ.n0 L M0, nb⟩ Q := by
 refine Rn.k hw rfl rfl ?_ h
 have hfr := Qpp (Γ := Γ) (M0 := M0) hf
 have hn' : v.cells.length = n := by rw [hc]; exact Nat.eq_of_beq_eq_true hn
 simp only [List.map_cons, List.map_nil, V.dems, ha, Qk]
 cases v <;> first | (simp [Qel] at hv; done) | (simp only [hn', hfr, decide_true, Bool.and_self, if_true, Qee]; rw [← hc])
theorem Rn.alloc {z : List V} (hw : Wn E gd) (hf : (Qbo L d).isNone = true)
  (h : Rn Γ pc os ⟨look ((d, .ptr (Γ.n0 + d) 0) :: E), Ql Γ.n0 ((d, .cells z) :: L) M0, nb⟩ Q) : Rn Γ pc (⟨some d, .alloc z, [], false, gd⟩ :: os) ⟨look E, Ql Γ.n0 L M0, nb⟩ Q := by
 refine Rn.k hw rfl rfl ?_ h
 simp only [List.map_nil, V.dems, Qk, Qpp (Γ := Γ) (M0 := M0) hf, if_true, Qee]
theorem Rn.bslice {sz n : Nat} {z : List V} {ps : List Nat} {as : List Arg} {xs cs : List V} (hw : Wn E gd) (ha : V.dems (as.map (·.val (look E))) = xs) (hf : (Qbo L d).isNone = true)
  (hc : (Nat.beq ps.length xs.length && decide (0 < sz) && z.length == sz && (ps.zip xs).all (fun (i, x) => Qel x && x.cells.length == sz && decide (i < n))) = true)
  (hcs : Qk7 (rep n z) ((ps.zip xs).map fun (i, x) => (i * sz, x.cells)) = cs)
  (h : Rn Γ pc os ⟨look ((d, .sl sz (Γ.n0 + d) 0 n n) :: E), Ql Γ.n0 ((d, .cells cs) :: L) M0, nb⟩ Q) : Rn Γ pc (⟨some d, .bslice sz n z ps, as, false, gd⟩ :: os) ⟨look E, Ql Γ.n0 L M0, nb⟩ Q := by
 refine Rn.k hw rfl rfl ?_ h
 rw [ha]
 simp only [Bool.and_eq_true] at hc
 have h1 : ps.length = xs.length := Nat.eq_of_beq_eq_true hc.1.1.1
 have hs : Qk Γ.n0 (Γ.n0 + d) (.bslice sz n z ps) xs (Ql Γ.n0 L M0) = (if ps.length = xs.length && decide (0 < sz) && z.length == sz && (ps.zip xs).all (fun (i, x) => Qel x && x.cells.length == sz && decide (i < n)) && (Ql Γ.n0 L M0 (Γ.n0 + d)).isNone
  then some (.sl sz (Γ.n0 + d) 0 n n, (Ql Γ.n0 L M0).put (Γ.n0 + d) (.cells (Qk7 (rep n z) ((ps.zip xs).map fun (i, x) => (i * sz, x.cells))))) else none) := by cases xs <;> rfl
 rw [hs, if_pos, Qee, hcs]
 simp only [Bool.and_eq_true, Qpp (Γ := Γ) (M0 := M0) hf, and_true]
 exact ⟨⟨⟨by simpa using h1, hc.1.1.2⟩, hc.1.2⟩, hc.2⟩
theorem Q1 {t : Nat} {bx : Bx} (h : Qbo L t = some bx) : Ql Γ.n0 L M0 (Γ.n0 + t) = some bx := by rw [Qci]; exact h
theorem Rn.load {k off n : Nat} {ag : Bool} {cs : List V} {v : V} (hw : Wn E gd) (ha : a.val (look E) = .ptr k off) (hM : M k = some (.cells cs)) (hn : Nat.ble (off + n) cs.length = true) (hv : (if ag then some (.agg (V.dems ((cs.drop off).take n))) else (cs[off]?).map (·.dem)) = some v)
  (h : Rn Γ pc os ⟨look ((d, v) :: E), M, nb⟩ Q) : Rn Γ pc (⟨some d, .load ag n, [a], false, gd⟩ :: os) ⟨look E, M, nb⟩ Q := by
 refine Rn.k hw rfl rfl ?_ h
 have := Nat.le_of_ble_eq_true hn
 simp only [List.map_cons, List.map_nil, V.dems, ha, V.dem, Qk, hM, this, if_true]
 cases ag with
 | true => simp only [if_true, Option.some.injEq] at hv ⊢; rw [hv]
 | false =>
  simp only [Bool.false_eq_true, if_false, Option.map_eq_some_iff] at hv ⊢
  obtain ⟨x, hx, rfl⟩ := hv
  exact ⟨x, hx, rfl⟩
theorem Qua {k : Nat} {bx : Bx} (hk : k < Γ.n0) (h : M0 k = some bx) : Ql Γ.n0 L M0 k = some bx := by rw [Qb7 hk]; exact h
theorem Rn.loadT {t off sz : Nat} {l : List (List D)} {cs cs' : List V} (hw : Wn E gd) (ha : a.val (look E) = .ptr (Γ.n0 + t) off) (hM : Qbo L t = some (.cells cs)) (hx : cs[off]? = some (.own sz l)) (hcs : cs.set off (.d (.lst sz l)) = cs')
  (h : Rn Γ pc os ⟨look ((d, .own sz l) :: E), Ql Γ.n0 ((t, .cells cs') :: L) M0, nb⟩ Q) : Rn Γ pc (⟨some d, .loadT, [a], false, gd⟩ :: os) ⟨look E, Ql Γ.n0 L M0, nb⟩ Q := by
 refine Rn.k hw rfl rfl ?_ h
 simp only [List.map_cons, List.map_nil, V.dems, ha, V.dem, Qk, Q1 hM, hx, Option.map_some, V.top]
 rw [← hcs, Qee]
theorem Rn.store {t off n : Nat} {v : V} {cs cs' : List V} (hw : Wn E gd) (ha : a.val (look E) = .ptr (Γ.n0 + t) off) (hb : (b.val (look E)).dem = v) (hv : Qel v = true) (hM : Qbo L t = some (.cells cs))
  (hn : (Nat.beq v.cells.length n && Nat.ble (off + n) cs.length) = true) (hcs : cs.take off ++ v.cells ++ cs.drop (off + n) = cs')
  (h : Rn Γ pc os ⟨look E, Ql Γ.n0 ((t, .cells cs') :: L) M0, nb⟩ Q) : Rn Γ pc (⟨none, .store n, [a, b], false, gd⟩ :: os) ⟨look E, Ql Γ.n0 L M0, nb⟩ Q := by
 simp only [Bool.and_eq_true] at hn
 have h1 : v.cells.length = n := Nat.eq_of_beq_eq_true hn.1
 have h2 := Nat.le_of_ble_eq_true hn.2
 have hf : v.dem = v := by rw [← hb]; exact Qef _
 have ht : v.topS = v := Qzn hf
 refine Rn.kS (v := .und) hw ?_ (fun _ => rfl) h
 simp only [Bool.false_eq_true, if_false, List.map_cons, List.map_nil, V.dems, ha, V.dem, hb]
 simp only [Qk]
 cases v <;> first
  | (simp [Qel] at hv; done)
  | (simp only [Q1 hM, ht, h1, h2, decide_true, Bool.true_and, Nat.le_add_right, Bool.true_or, if_true]; rw [← hcs, Qee])
theorem Rn.storeO {t u off sz : Nat} {l : List (List D)} {cs cs' : List V} (hw : Wn E gd) (ha : a.val (look E) = .ptr (Γ.n0 + t) off) (hb : look E u = .own sz l) (hM : Qbo L t = some (.cells cs))
  (hn : Nat.ble (off + 1) cs.length = true) (hcs : cs.take off ++ [.own sz l] ++ cs.drop (off + 1) = cs')
  (h : Rn Γ pc os ⟨look ((u, .d (.lst sz l)) :: E), Ql Γ.n0 ((t, .cells cs') :: L) M0, nb⟩ Q) : Rn Γ pc (⟨none, .store 1, [a, .t u], true, gd⟩ :: os) ⟨look E, Ql Γ.n0 L M0, nb⟩ Q := by
 have h2 := Nat.le_of_ble_eq_true hn
 have hm : [a, Arg.t u].map (fun x => x.val (look E)) = [V.ptr (Γ.n0 + t) off, .own sz l] := by simp only [List.map_cons, List.map_nil, ha]; rw [show (Arg.t u).val (look E) = _ from hb]
 refine Rn.kS (v := .und) hw ?_ (fun i => ?_) h
 ·simp only [if_true, hm]
  simp only [Qk, Q1 hM, V.topS, V.cells, List.length_cons, List.length_nil, h2, decide_true, Bool.true_and, Nat.le_add_right, Bool.true_or, if_true]
  rw [← hcs, Qee]
 ·simp only [if_true, hm, Qb1, Q5, V.dem]
  have : a.putTo (look E) (.ptr (Γ.n0 + t) off) = look E := by
   cases a with
   | c v => rfl
   | t j =>
    simp only [Arg.val] at ha
    funext i; simp only [Arg.putTo, Sl.put]; split
    ·rename_i e; subst e; exact ha.symm
    ·rfl
  rw [this, show (Arg.t u).putTo (look E) (.d (.lst sz l)) = (look E).put u (.d (.lst sz l)) from rfl, Qdt]
theorem Rn.storeD {t u off : Nat} {x : D} {cs cs' : List V} (hw : Wn E gd) (ha : a.val (look E) = .ptr (Γ.n0 + t) off) (hb : look E u = .d x) (hM : Qbo L t = some (.cells cs))
  (hn : Nat.ble (off + 1) cs.length = true) (hcs : cs.take off ++ [.d x] ++ cs.drop (off + 1) = cs')
  (h : Rn Γ pc os ⟨look E, Ql Γ.n0 ((t, .cells cs') :: L) M0, nb⟩ Q) : Rn Γ pc (⟨none, .store 1, [a, .t u], true, gd⟩ :: os) ⟨look E, Ql Γ.n0 L M0, nb⟩ Q := by
 have h2 := Nat.le_of_ble_eq_true hn
 have hm : [a, Arg.t u].map (fun x => x.val (look E)) = [V.ptr (Γ.n0 + t) off, .d x] := by simp only [List.map_cons, List.map_nil, ha]; rw [show (Arg.t u).val (look E) = _ from hb]
 refine Rn.kS (v := .und) hw ?_ (fun i => ?_) h
 ·simp only [if_true, hm]
  simp only [Qk, Q1 hM, V.topS, V.dem, V.cells, List.length_cons, List.length_nil, h2, decide_true, Bool.true_and, Nat.le_add_right, Bool.true_or, if_true]
  rw [← hcs, Qee]
 ·simp only [if_true, hm, Qb1, Q5, V.dem]
  have : a.putTo (look E) (.ptr (Γ.n0 + t) off) = look E := by
   cases a with
   | c v => rfl
   | t j =>
    simp only [Arg.val] at ha
    funext i; simp only [Arg.putTo, Sl.put]; split
    ·rename_i e; subst e; exact ha.symm
    ·rfl
  have h3 : (look E).put u (.d x) = look E := by
   funext i; simp only [Sl.put]; split
   ·rename_i e; subst e; exact hb.symm
   ·rfl
  rw [this, show (Arg.t u).putTo (look E) (.d x) = (look E).put u (.d x) from rfl, h3]
theorem Q4l {sz : Nat} {l : List (List D)} : Qe4 M sz (.d (.lst sz l)) = some l := by simp [Qe4]
theorem Q4m {sz t off len cap : Nat} {cs : List V} {l : List (List D)} (hM : Qbo L t = some (.cells cs)) (hle : Nat.ble (off + len * sz) cs.length = true) (hl : (toDs ((cs.drop off).take (len * sz))).map (Ql5 sz len) = some l) :
  Qe4 (Ql Γ.n0 L M0) sz (.sl sz (Γ.n0 + t) off len cap) = some l := by
 have := Nat.le_of_ble_eq_true hle
 simp [Qe4, Q1 hM, this, hl]
theorem Rn.call {f : FuncId} {as : List Arg} {args : List V} {r : V} (hw : Wn E gd) (ha : V.dems (as.map (·.val (look E))) = args) (hC : ∀ M nb, ACalls Γ.P f args M nb r M nb) (hpc : one (pcOf pc) = true → ∀ k, nb ≤ k → M k = none)
  (h : Rn Γ pc os ⟨look ((d, r) :: E), M, nb⟩ Q) : Rn Γ pc (⟨some d, .call f, as, false, gd⟩ :: os) ⟨look E, M, nb⟩ Q := by
 refine Rn.cons ?_
 unfold COp.run
 rw [hw.wanted]
 simp only [show (K.call f).isCall = true from rfl, if_true, COp.callee, ha]
 have h' : Rn Γ pc os ⟨Qbf (look E) (some d) r, M, nb⟩ Q := by
  rw [show Qbf (look E) (some d) r = look ((d, r) :: E) from Qdt E d r]; exact h
 match hp : pcOf pc with
 | 0 => exact ⟨r, M, nb, hC _ _, fun _ h => h, fun _ _ _ _ => .inl rfl, h'⟩
 | 1 =>
  refine ⟨r, fun _ => none, nb, fun M2 _ h2 => ?_, ?_⟩
  ·have : M2.over nb (fun _ => none) = M2 := by
    funext k; simp only [Mem.over]; split
    ·rfl
    ·exact (h2 k (by omega)).symm
   rw [this]; exact hC _ _
  ·have : M.over nb (fun _ => none) = M := by
    funext k; simp only [Mem.over]; split
    ·rfl
    ·exact (hpc (by rw [hp]; rfl) k (by omega)).symm
   rw [this]; exact h'
 | n + 2 =>
  show (if n < 8 then _ else _)
  by_cases hn8 : n < 8
  ·rw [if_pos hn8]; exact ⟨r, hC, h'⟩
  ·rw [if_neg hn8]
   have h1 : one (pcOf pc) = true := by rw [hp]; unfold one; rw [show Nat.ble 10 (n + 2) = true from Nat.ble_eq_true_of_le (by omega), Bool.or_true]
   refine ⟨r, fun _ => none, fun _ => none, nb, .inr fun _ => rfl, fun _ h => (by cases h), fun _ _ _ h => (by cases h), fun M2 _ h2 => ?_, ?_⟩
   ·rw [Qfy fun _ => rfl]
    have : M2.over nb (fun _ => none) = M2 := by
     funext k; simp only [Mem.over]; split
     ·rfl
     ·exact (h2 k (by omega)).symm
    rw [this]; exact hC _ _
   ·rw [Qfy fun _ => rfl]
    have : M.over nb (fun _ => none) = M := by
     funext k; simp only [Mem.over]; split
     ·rfl
     ·exact (hpc h1 k (by omega)).symm
    rw [this]; exact h'
def FinP (rs : List Res) (r : V) (n0 : Nat) (M0 : Mem) : Ex → St → Prop := fun e σ =>
 (e = .norm ∨ e = .ret) ∧ ∃ r', Ql6 σ rs = some r' ∧ Wk r' r ∧ r.on (There M0) ∧ ∀ k, k < n0 → σ.M k = M0 k
theorem Qro {P : Program} {f : FuncId} {args : List V} {M M' : Mem} {nb nb' : Nat} {r : V} (hb : Qk9 P f = true) (hn : nb ≤ nb') (h : ¬ (∀ k, nb ≤ k → M k = none)) : ACalls P f args M nb r M' nb' := by
 refine ⟨hb, hn, fun w g us hm => ?_⟩
 refine absurd (fun k hk => ?_) h
 cases hM : M k with
 | none => rfl
 | some b => have := (hm.box k b hM).1; omega
theorem Qjh {P : Program} {f : FuncId} {cf : CFn} (hcf : Qv P f = some cf) : Qk9 P f = true := by
 unfold Qv at hcf
 split at hcf <;> try (cases hcf; done)
 rename_i fn hfn
 split at hcf <;> try (cases hcf; done)
 rename_i code hbody
 split at hcf <;> try (cases hcf; done)
 split at hcf <;> try (cases hcf; done)
 rename_i hnd
 obtain ⟨hnd, hnp, hname⟩ := hnd
 simp [Qk9, hfn, hbody, Qzk] at hname ⊢; exact hname
theorem Qfm {P : Program} {f : FuncId} {cf : CFn} (hcf : Qv P f = some cf) {args : List V} {r : V} (hargs : Nat.beq args.length cf.np = true)
  (hrun : ∀ (Γ : Env) (M : Mem), Γ.P = P → Γ.nt = cf.nt → (∀ k, Γ.n0 ≤ k → M k = none) → Tr Γ cf.body ⟨Qn5 args, Ql Γ.n0 [] M, Γ.n0 + cf.nt⟩ (FinP cf.res r Γ.n0 M)) : ∀ M nb, ACalls P f args M nb r M nb := by
 intro M nb
 by_cases hM : ∀ k, nb ≤ k → M k = none
 case neg => exact Qro (Qjh hcf) (Nat.le_refl _) hM
 by_cases hon : MOn (There M) M
 case neg => exact ⟨Qjh hcf, Nat.le_refl _, fun w g us hm h => absurd h hon⟩
 refine Qbew hcf hM (Nat.eq_of_beq_eq_true hargs) (Nat.le_refl _) fun Γ hP hn ht => ?_
 have h := hrun Γ M hP ht (by rw [hn]; exact hM)
 rw [Qrn (by rw [hn]; exact hM), hn] at h
 refine h.mono ?_
 rintro e σ' ⟨he, r', h1, h2, h3, h4⟩
 have hlt : ∀ k, There M k → k < nb := fun k hk => by
  rcases Nat.lt_or_ge k nb with h | h
  ·exact h
  ·simp [There, hM k h] at hk
 refine ⟨he, r', h1, h2, fun k b hk => ?_, h3, hon, hlt⟩
 rw [h4 k (hlt k (by simp [There, hk]))]; exact hk
theorem Q4n : ∀ (args : List V) (i : Nat), look ((List.range' i args.length).zip args) = fun t => if t < i then .und else args.getD (t - i) .und
 | [], i => by funext t; simp [look]
 | v :: vs, i => by
  funext t
  simp only [List.length_cons, List.range'_succ, List.zip_cons_cons, look, Q4n vs (i + 1)]
  cases hb : Nat.beq t i with
  | true => have := Nat.eq_of_beq_eq_true hb; subst this; simp
  | false =>
   have : t ≠ i := fun e => by subst e; simp at hb
   by_cases hlt : t < i
   ·have : t < i + 1 := by omega
    simp [hlt, this]
   ·have h1 : ¬ t < i + 1 := by omega
    have h2 : t - i = (t - (i + 1)) + 1 := by omega
    simp [hlt, h1, h2]
theorem Qbaq {args : List V} {E : List (Nat × V)} (h : (List.range' 0 args.length).zip args = E) : Qn5 args = look E := by
 rw [← h, Q4n]
 funext t
 simp [Qn5]
theorem Tr.init {cc : CC} {args : List V} {Q : Ex → St → Prop} (E : List (Nat × V)) (h : (List.range' 0 args.length).zip args = E) (k : Tr Γ cc ⟨look E, M, nb⟩ Q) : Tr Γ cc ⟨Qn5 args, M, nb⟩ Q := by
 rw [Qbaq h]; exact k
theorem ifT {R : Type} {p : Prop} [Decidable p] {A B : Option R} {r : R} (hb : decide p = true) (h : (if p then A else B) = some r) : A = some r := by rwa [if_pos (of_decide_eq_true hb)] at h
theorem ifF {R : Type} {p : Prop} [Decidable p] {A B : Option R} {r : R} (hb : decide p = false) (h : (if p then A else B) = some r) : B = some r := by rwa [if_neg (of_decide_eq_false hb)] at h
theorem bT {R : Type} {b : Bool} {A B : Option R} {r : R} (hb : b = true) (h : (if b then A else B) = some r) : A = some r := by subst hb; simpa using h
theorem bF {R : Type} {b : Bool} {A B : Option R} {r : R} (hb : b = false) (h : (if b then A else B) = some r) : B = some r := by subst hb; simpa using h
theorem bnd {X R : Type} {A : Option X} {g : X → Option R} {r : R} (h : A.bind g = some r) : ∃ x, A = some x ∧ g x = some r := Option.bind_eq_some_iff.1 h
theorem nT {b : Bool} (h : b = true) : (!b) = false := by subst h; rfl
theorem nF {b : Bool} (h : b = false) : (!b) = true := by subst h; rfl
theorem nT' {b : Bool} (h : (!b) = true) : b = false := by cases b <;> simp_all
theorem nF' {b : Bool} (h : (!b) = false) : b = true := by cases b <;> simp_all
def Qbez {X : Type} (Γ : Env) (mk : X → St) (z : X) (Q : Ex → St → Prop) : Ex → St → Prop
 | .norm, σ' => WeakSt Γ σ' (mk z)
 | .exit i, σ' => Q (.exit i) σ'
 | .ret, σ' => Q .ret σ'
theorem Tr.cutB {X R : Type} {x y : CC} {Q : Ex → St → Prop} (mk : X → St) {A : Option X} {g : X → Option R} {r : R} (h : A.bind g = some r) (hx : ∀ z, A = some z → Tr Γ x σ (Qbez Γ mk z Q)) (hy : ∀ z, g z = some r → Tr Γ y (mk z) Q) : Tr Γ (.seq x y) σ Q := by
 obtain ⟨z, h1, h2⟩ := bnd h
 refine Tr.seq ((hx z h1).mono ?_)
 intro e σ' hq
 cases e with
 | norm => exact (hy z h2).weak hq
 | exit id => exact hq
 | ret => exact hq
def letJ {X R : Type} (J : X → Option R) (body : (X → Option R) → Option R) : Option R := body J
theorem Tr.cutJ {X R : Type} {x y : CC} {Q : Ex → St → Prop} (mk : X → St) {J : X → Option R} {body : (X → Option R) → Option R} {r : R} (h : letJ J body = some r)
  (hx : ∀ J', body J' = some r → Tr Γ x σ (Qbf6 Γ mk J' r Q)) (hy : ∀ z, J z = some r → Tr Γ y (mk z) Q) : Tr Γ (.seq x y) σ Q := Tr.cut mk J r hy (hx J h)
def eI (k : IntKind) (n : Int) : List D := [.int k n]
abbrev i_ (n : Int) : V := .d (.int .i64 n)
abbrev b_ (b : Bool) : V := .d (.bool b)
abbrev l_ (l : List Int) : V := .d (.lst 1 (List.map (eI .i64) l))
def eL {α : Type} (sz : Nat) (e : α → List D) (l : List α) : List D := [.lst sz (List.map e l)]
theorem toN {y : CC} {Q : Ex → St → Prop} (h : Tr Γ y σ Q) : Qbex Γ y Q .norm σ := h
theorem Tr.condT {q : Arg} {x y : CC} {b : Bool} {Q : Ex → St → Prop} (hb : q.val σ.s = .d (.bool b)) (h : b = true) (hx : Tr Γ x σ Q) : Tr Γ (.cond q x y) σ Q := Tr.cond hb (fun _ => hx) fun h' => by rw [h] at h'; cases h'
theorem Qbdu {G : Prop} (b : Bool) (h1 : b = true → G) (h2 : b = false → G) : G := by cases b; exact h2 rfl; exact h1 rfl
theorem pc9 {p : Prop} : one (pcOf 9) = true → p := by intro h; cases h
theorem pc0 {p : Prop} : one (pcOf 0) = true → p := by intro h; cases h
theorem pc2 {p : Prop} : one (pcOf 2) = true → p := by intro h; cases h
theorem Qbar {n0 nt : Nat} {L : List (Nat × Bx)} {M0 : Mem} (hM : ∀ k, n0 ≤ k → M0 k = none) (hL : (L.all fun p => Nat.blt p.1 nt) = true) : ∀ k, n0 + nt ≤ k → Ql n0 L M0 k = none := by
 intro k hk
 simp only [Ql]
 rw [if_neg (by omega)]
 cases hb : Qbo L (k - n0) with
 | none => rfl
 | some b =>
  obtain ⟨p, hp, he⟩ := Qt9 hb
  have := List.all_eq_true.1 hL p hp
  have := Nat.le_of_ble_eq_true this
  omega
theorem Q6a {E : List (Nat × V)} {n0 p t off n nb : Nat} {ag : Bool} {cs : List V} {v : V} (hp : look E p = .ptr (n0 + t) off) (hM : Qbo L t = some (.cells cs)) (hn : Nat.ble (off + n) cs.length = true) (hv : (if ag then some (.agg (V.dems ((cs.drop off).take n))) else (cs[off]?).map (·.dem)) = some v) :
  Res.val ⟨look E, Ql n0 L M0, nb⟩ (.cell p ag n) = some v := by
 have := Nat.le_of_ble_eq_true hn
 have hb : Ql n0 L M0 (n0 + t) = some (.cells cs) := by rw [Qci]; exact hM
 simp only [Res.val, hp, Qk, hb, this, if_true]
 cases ag with
 | true => simp only [if_true, Option.some.injEq] at hv ⊢; rw [hv]; rfl
 | false =>
  simp only [Bool.false_eq_true, if_false] at hv ⊢
  rw [Option.map_map]
  rw [← hv]; congr 1
theorem res2 {x y : Res} {v w : V} (h1 : x.val σ = some v) (h2 : y.val σ = some w) : Ql6 σ [x, y] = some (.tup [v, w]) := by simp [Ql6, h1, h2]
theorem res3 {x y z : Res} {v w u : V} (h1 : x.val σ = some v) (h2 : y.val σ = some w) (h3 : z.val σ = some u) : Ql6 σ [x, y, z] = some (.tup [v, w, u]) := by simp [Ql6, h1, h2, h3]
def remO (k : IntKind) (a b : Int) : Option Int := if b = 0 then none else some (a.tmod b)
def shrO (k : IntKind) (a b : Int) : Option Int := if b < 0 then none else some (a.fdiv (2 ^ (min b.toNat k.bits)))
def andI (k : IntKind) (a b : Int) : Int := k.wrap ((BitVec.ofInt k.bits a) &&& (BitVec.ofInt k.bits b)).toNat
theorem Q0g {k : IntKind} {tb : Bool} {x y z : Int} (h : remO k x y = some z) : binD .rem tb (.int k x) (.int k y) = some (.int k z) := by
 unfold remO at h; split at h <;> cases h
 simp [binD, Q3u, *]
theorem Q6b {k k' : IntKind} {tb : Bool} {x y z : Int} (h : shrO k x y = some z) : binD .shr tb (.int k x) (.int k' y) = some (.int k z) := by
 unfold shrO at h; split at h <;> cases h
 simp [binD, *]
end Go.Abs
end
section
namespace Go.Abs
open Go
variable {Γ:Env} {pc d nb:Nat} {os:List COp} {E:List (Nat×V)} {M M' M0:Mem} {L:List (Nat×Bx)} {Q:St→Prop} {σ:St} {gd:Option (Nat×Bool)} {a b c:Arg}
def Ext (M M2:Mem):Prop:=∀ k b,M k=some b→M2 k=some b
theorem Ext.refl (M:Mem):Ext M M:=fun _ _ h=>h
theorem Ext.trans {A B C:Mem} (h:Ext A B) (k:Ext B C):Ext A C:=fun i b hi=>k i b (h i b hi)
theorem ltB {n0:Nat} (hM:∀ k,n0≤k→M0 k=none) {k:Nat} {b:Bx} (h:M0 k=some b):k<n0:=by
 rcases Nat.lt_or_ge k n0 with hk|hk
 ·exact hk
 ·rw [hM k hk] at h;cases h
theorem Qub {n0:Nat} (hM:∀ k,n0≤k→M0 k=none):Ext M0 (Ql n0 L M0):=fun k b h=>by rw [Qb7 (ltB hM h)];exact h
theorem Qy {n0:Nat} (hM:∀ k,n0≤k→M0 k=none) {k:Nat} {b:Bx} (h:M0 k=some b):Ql n0 L M0 k=some b:=Qub hM k b h
theorem Rn.callM {f:FuncId} {as:List Arg} {args:List V} {r:V} (hw:Wn E gd) (ha:V.dems (as.map (·.val (look E)))=args) (hC:∀ M2 nb2,nb≤nb2→Ext M M2→ACalls Γ.P f args M2 nb2 r M2 nb2) (hp2:(Nat.ble (pcOf pc) 1||Nat.ble 10 (pcOf pc))=true) (hpc:one (pcOf pc)=true→∀ k,nb≤k→M k=none)
  (h:Rn Γ pc os ⟨look ((d,r)::E),M,nb⟩ Q):Rn Γ pc (⟨some d,.call f,as,false,gd⟩::os) ⟨look E,M,nb⟩ Q:=by
 refine Rn.cons ?_;unfold COp.run;rw [hw.wanted];simp only [show (K.call f).isCall=true from rfl,if_true,COp.callee,ha];have h' : Rn Γ pc os ⟨Qbf (look E) (some d) r,M,nb⟩ Q:=by
  rw [show Qbf (look E) (some d) r=look ((d,r)::E) from Qdt E d r];exact h
 match hp:pcOf pc with
 | 0=>exact ⟨r,M,nb,hC _ _ (Nat.le_refl _) (Ext.refl _),fun _ h=>h,fun _ _ _ _=>.inl rfl,h'⟩
 | 1 =>
  refine ⟨r,fun _=>none,nb,fun M2 h1 h2=>?_,?_⟩
  ·have:M2.over nb (fun _=>none)=M2:=by
    funext k;simp only [Mem.over];split
    ·rfl
    ·exact (h2 k (by omega)).symm
   rw [this];exact hC _ _ (Nat.le_refl _) fun k b hk=>by rw [h1 k (by simp [hk])];exact hk
  ·have:M.over nb (fun _=>none)=M:=by
    funext k;simp only [Mem.over];split
    ·rfl
    ·exact (hpc (by rw [hp];rfl) k (by omega)).symm
   rw [this];exact h'
 | n+2 =>
  have hn8:¬ n<8:=by
   intro hn;rw [hp] at hp2;simp only [Bool.or_eq_true,Nat.ble_eq] at hp2;omega
  have h1:one (pcOf pc)=true:=by rw [hp];unfold one;rw [show Nat.ble 10 (n+2)=true from Nat.ble_eq_true_of_le (by omega),Bool.or_true]
  show (if n<8 then _ else _);rw [if_neg hn8];refine ⟨r,fun _=>none,fun _=>none,nb,.inr fun _=>rfl,fun _ h=>(by cases h),fun _ _ _ h=>(by cases h),fun M2 h3 h2=>?_,?_⟩
  ·rw [Qfy fun _=>rfl];have:M2.over nb (fun _=>none)=M2:=by
    funext k;simp only [Mem.over];split
    ·rfl
    ·exact (h2 k (by omega)).symm
   rw [this];exact hC _ _ (Nat.le_refl _) fun k b hk=>by rw [h3 k (by simp [hk])];exact hk
  ·rw [Qfy fun _=>rfl];have:M.over nb (fun _=>none)=M:=by
    funext k;simp only [Mem.over];split
    ·rfl
    ·exact (hpc h1 k (by omega)).symm
   rw [this];exact h'
theorem Rn.callvM {t:Nat} {f:FuncId} {caps:List V} {as:List Arg} {args:List V} {r:V} (hw:Wn E gd) (ht:look E t = .clo f caps) (ha:V.dems (as.map (·.val (look E)))++V.dems caps=args) (hC:∀ M2 nb2,nb≤nb2→Ext M M2→ACalls Γ.P f args M2 nb2 r M2 nb2) (hp2:(Nat.ble (pcOf pc) 1||Nat.ble 10 (pcOf pc))=true) (hpc:one (pcOf pc)=true→∀ k,nb≤k→M k=none)
  (h:Rn Γ pc os ⟨look ((d,r)::E),M,nb⟩ Q):Rn Γ pc (⟨some d,.callv,.t t::as,false,gd⟩::os) ⟨look E,M,nb⟩ Q:=by
 refine Rn.cons ?_;unfold COp.run;rw [hw.wanted];simp only [show K.callv.isCall=true from rfl,if_true,COp.callee,List.map_cons,show (Arg.t t).val (look E) = .clo f caps from ht,ha];have h' : Rn Γ pc os ⟨Qbf (look E) (some d) r,M,nb⟩ Q:=by
  rw [show Qbf (look E) (some d) r=look ((d,r)::E) from Qdt E d r];exact h
 match hp:pcOf pc with
 | 0=>exact ⟨r,M,nb,hC _ _ (Nat.le_refl _) (Ext.refl _),fun _ h=>h,fun _ _ _ _=>.inl rfl,h'⟩
 | 1 =>
  refine ⟨r,fun _=>none,nb,fun M2 h1 h2=>?_,?_⟩
  ·have:M2.over nb (fun _=>none)=M2:=by
    funext k;simp only [Mem.over];split
    ·rfl
    ·exact (h2 k (by omega)).symm
   rw [this];exact hC _ _ (Nat.le_refl _) fun k b hk=>by rw [h1 k (by simp [hk])];exact hk
  ·have:M.over nb (fun _=>none)=M:=by
    funext k;simp only [Mem.over];split
    ·rfl
    ·exact (hpc (by rw [hp];rfl) k (by omega)).symm
   rw [this];exact h'
 | n+2 =>
  have hn8:¬ n<8:=by
   intro hn;rw [hp] at hp2;simp only [Bool.or_eq_true,Nat.ble_eq] at hp2;omega
  have h1:one (pcOf pc)=true:=by rw [hp];unfold one;rw [show Nat.ble 10 (n+2)=true from Nat.ble_eq_true_of_le (by omega),Bool.or_true]
  show (if n<8 then _ else _);rw [if_neg hn8];refine ⟨r,fun _=>none,fun _=>none,nb,.inr fun _=>rfl,fun _ h=>(by cases h),fun _ _ _ h=>(by cases h),fun M2 h3 h2=>?_,?_⟩
  ·rw [Qfy fun _=>rfl];have:M2.over nb (fun _=>none)=M2:=by
    funext k;simp only [Mem.over];split
    ·rfl
    ·exact (h2 k (by omega)).symm
   rw [this];exact hC _ _ (Nat.le_refl _) fun k b hk=>by rw [h3 k (by simp [hk])];exact hk
  ·rw [Qfy fun _=>rfl];have:M.over nb (fun _=>none)=M:=by
    funext k;simp only [Mem.over];split
    ·rfl
    ·exact (hpc h1 k (by omega)).symm
   rw [this];exact h'
theorem Qg0 {P:Program} {f:FuncId} {cf:CFn} (hcf:Qv P f=some cf) {args:List V} {r:V} (hargs:Nat.beq args.length cf.np=true) (M:Mem) (nb:Nat)
  (hrun:∀ (Γ:Env),Γ.P=P→Γ.nt=cf.nt→Γ.n0=nb→(∀ k,Γ.n0≤k→M k=none)→Tr Γ cf.body ⟨Qn5 args,Ql Γ.n0 [] M,Γ.n0+cf.nt⟩ (FinP cf.res r Γ.n0 M)):ACalls P f args M nb r M nb:=by
 by_cases hM:∀ k,nb≤k→M k=none
 case neg=>exact Qro (Qjh hcf) (Nat.le_refl _) hM
 by_cases hon:MOn (There M) M
 case neg=>exact ⟨Qjh hcf,Nat.le_refl _,fun w g us hm h=>absurd h hon⟩
 refine Qbew hcf hM (Nat.eq_of_beq_eq_true hargs) (Nat.le_refl _) fun Γ hP hn ht=>?_;have h:=hrun Γ hP ht hn (by rw [hn];exact hM);rw [Qrn (by rw [hn];exact hM),hn] at h;refine h.mono ?_;rintro e σ' ⟨he,r',h1,h2,h3,h4⟩;have hlt:∀ k,There M k→k<nb:=fun k hk=>by
  rcases Nat.lt_or_ge k nb with h|h
  ·exact h
  ·simp [There,hM k h] at hk
 refine ⟨he,r',h1,h2,fun k b hk=>?_,h3,hon,hlt⟩;rw [h4 k (hlt k (by simp [There,hk]))];exact hk
mutual
theorem Q4o {n0:Nat} {sites:List Nat}:∀ v:V,v.on (· < n0)→Qdq (Qjf n0 sites) v=v
 | .und,_=>rfl
 | .d _,_=>rfl
 | .agg cs,h=>by simp only [Qdq];rw [kills_base cs h]
 | .tup cs,h=>by simp only [Qdq];rw [kills_base cs h]
 | .own ..,_=>rfl
 | .ownT ..,_=>rfl
 | .ptr k o,h=>by simp only [Qdq];rw [Qmp h];rfl
 | .nilp,_=>rfl
 | .f _,_=>rfl
 | .nils _,_=>rfl
 | .cref _,_=>rfl
 | .sl sz k o n c,h=>by simp only [Qdq];rw [Qmp h];rfl
 | .clo _ cs,h=>by simp only [Qdq];rw [kills_base cs h]
 | .mp k,h=>by simp only [Qdq];rw [Qmp h];rfl
theorem kills_base {n0:Nat} {sites:List Nat}:∀ vs:List V,V.ons (· < n0) vs→Qdq.go (Qjf n0 sites) vs=vs
 | [],_=>rfl
 | v::vs,h=>by simp only [Qdq.go];rw [Q4o v h.1,kills_base vs h.2]
end
theorem kFun {n0:Nat} {sites:List Nat} {g:FuncId} {cp:List V} (hM:∀ k,n0≤k→M0 k=none) (h:V.ons (There M0) cp):WkV (Qdq (Qjf n0 sites) (.clo g cp)) (.clo g cp):=by
 refine .same (Q4o _ (ons_mono (fun k hk=>?_) _ h));obtain ⟨b,hb⟩:=Option.isSome_iff_exists.1 hk;exact ltB hM hb
theorem Qh3 {k:Nat} {b:Bx} (h:M k=some b):There M k:=by simp [There,h]
theorem Qbas {cp:List V} (hx:Ext M M') (h:V.ons (There M) cp):V.ons (There M') cp:=ons_mono (fun k hk=>by
 obtain ⟨b,hb⟩:=Option.isSome_iff_exists.1 hk;exact Qh3 (hx k b hb)) _ h
end Go.Abs
end
section
namespace Go.Abs
open Go
def pl0:D→Bool
 | .int .. | .bool _ | .str _=>true
 | _=>false
def frzL (sz:Nat) (l:List (List D)):V:=if l.all fun x=>x.all pl0 then .f (.lst sz l) else .d (.lst sz l)
theorem Qbf8 {imm imm' : Nat→Nat→Prop} {w:World}:∀ {x:D} {u:Value},pl0 x=true→RD imm w x u→RD imm' w x u
 | .int ..,_,_,h=>by simpa [RD] using h
 | .bool _,_,_,h=>by simpa [RD] using h
 | .str _,_,_,h=>by simpa [RD] using h
 | .lst ..,_,h,_=>by cases h
 | .mp ..,_,h,_=>by cases h
theorem Qbe0 {p:Nat→Prop} {sz:Nat} {l:List (List D)}:(frzL sz l).on p:=by unfold frzL;split<;>trivial
theorem Qbat {sz:Nat} {l:List (List D)}:WkV (frzL sz l) (.d (.lst sz l)):=by
 unfold frzL;split
 ·exact ⟨fun g w ℓ u h=>by
   simp only [RV] at h ⊢;exact Qf9 ⟨fun b o h=>h.1,fun _ _ _=>rfl⟩ _ u h,fun _ _=>trivial⟩
 ·exact .same rfl
mutual
def frzV (k:Nat) (ds:List D):V→V
 | .und=>.und
 | .d x=>.d x
 | .agg cs=>.agg (frzVs k ds cs)
 | .tup cs=>.tup (frzVs k ds cs)
 | .own sz l=>.own sz l
 | .ownT sz l=>.ownT sz l
 | .ptr k' o=>if k'=k then .cref (ds.drop o) else .ptr k' o
 | .nilp=>.nilp
 | .f x=>.f x
 | .nils sz=>.nils sz
 | .cref cs=>.cref cs
 | .sl sz k' o n c=>if k'=k then (if o+n*sz≤ds.length∧n≤c then frzL sz (Ql5 sz n ((ds.drop o).take (n*sz))) else .und) else .sl sz k' o n c
 | .clo f cs=>.clo f (frzVs k ds cs)
 | .mp k'=>if k'=k then .und else .mp k'
def frzVs (k:Nat) (ds:List D):List V→List V
 | []=>[]
 | v::vs=>frzV k ds v::frzVs k ds vs
end
theorem Q0h (k:Nat) (ds:List D):∀ vs,frzVs k ds vs=vs.map (frzV k ds)
 | []=>rfl
 | v::vs=>by simp [frzVs,Q0h k ds vs]
mutual
theorem Qbdv {p:Nat→Prop} (k:Nat) (ds:List D):∀ v:V,v.on p→(frzV k ds v).on fun j=>p j∧j≠k
 | .und,_=>trivial
 | .d _,_=>trivial
 | .agg cs,h=>ons_frz k ds cs h
 | .tup cs,h=>ons_frz k ds cs h
 | .own ..,_=>trivial
 | .ownT ..,_=>trivial
 | .ptr k' o,h=>by
  simp only [frzV];split
  ·trivial
  ·rename_i hne;exact ⟨h,hne⟩
 | .nilp,_=>trivial
 | .f _,_=>trivial
 | .nils _,_=>trivial
 | .cref _,_=>trivial
 | .sl sz k' o n c,h=>by
  simp only [frzV];split
  ·split
   ·exact Qbe0
   ·trivial
  ·rename_i hne;exact ⟨h,hne⟩
 | .clo _ cs,h=>ons_frz k ds cs h
 | .mp k',h=>by
  simp only [frzV];split
  ·trivial
  ·rename_i hne;exact ⟨h,hne⟩
theorem ons_frz {p:Nat→Prop} (k:Nat) (ds:List D):∀ vs:List V,V.ons p vs→V.ons (fun j=>p j∧j≠k) (frzVs k ds vs)
 | [],_=>trivial
 | v::vs,h=>⟨Qbdv k ds v h.1,ons_frz k ds vs h.2⟩
end
theorem Q7l {imm:Nat→Nat→Prop} {w:World} {b:Nat}:∀ (j:Nat) {ds:List D} {o:Nat},RDc imm w b ds o→RDc imm w b (ds.drop j) (o+j)
 | 0,_,_,h=>h
 | j+1,[],o,h=>by simp [RDc]
 | j+1,d::ds,o,h=>by
  simp only [RDc] at h;have:=Q7l j h.2.2
  grind
def G.frz (g:G) (k n:Nat) [DecidablePred fun b=>b=g.box k]:G:=⟨g.box,fun b o=>g.imm b o∨(b=g.box k∧o<n),fun b=>if b=g.box k then .ext else g.own b⟩
section
variable {g:G} {w:World} {k:Nat} {ds:List D} (hB:g.own (g.box k) = .box k) (hD:RDc (g.frz k ds.length).imm w (g.box k) ds 0)
include hB hD
theorem Q28:Imm g.imm (g.frz k ds.length).imm w w:=⟨fun _ _ h=>.inl h,fun _ _ _=>rfl⟩
mutual
theorem Qbdw:∀ (v:V) (ℓ:Owner) (u:Value),ℓ ≠ .box k→RV g w v ℓ u→RV (g.frz k ds.length) w (frzV k ds v) ℓ u
 | .und,_,_,_,_=>by simp [frzV,RV]
 | .d x,_,_,_,h=>by
  simp only [frzV,RV] at h ⊢;exact Qf9 (Q28 hB hD) x _ h
 | .agg cs,ℓ,u,hl,h=>by
  simp only [frzV,RV] at h ⊢;obtain ⟨vs,rfl,h,h1⟩:=h;exact ⟨vs,rfl,RVs_frz cs ℓ 0 vs h,h1⟩
 | .tup cs,ℓ,u,hl,h=>by
  simp only [frzV,RV] at h ⊢;obtain ⟨vs,rfl,h⟩:=h;exact ⟨vs,rfl,RVs_frz cs ℓ 0 vs h⟩
 | .own sz l,ℓ,u,hl,h=>by
  simp only [frzV,RV] at h ⊢;rcases h with h|⟨b,cap,vals,e,h1,h2,h3,h4,h5,h6,h7,h8⟩
  ·exact .inl h
  ·have hne:b≠g.box k:=by rintro rfl;rw [hB] at h2;exact hl h2.symm
   refine .inr ⟨b,cap,vals,e,h1,by simp [G.frz,hne,h2],h3,h4,h5,h6,fun o=>?_,RDL_mono (Q28 hB hD) sz b l 0 h8⟩;rw [← h7 o];simp [G.frz,hne]
 | .ownT sz l,ℓ,u,hl,h=>by
  simp only [frzV,RV] at h ⊢;rcases h with h|⟨b,o0,cap,vals,e,h1,h2,h3,h4,h5,h6,h7,h8⟩
  ·exact .inl h
  ·have hne:b≠g.box k:=by rintro rfl;rw [hB] at h2;exact hl h2.symm
   refine .inr ⟨b,o0,cap,vals,e,h1,by simp [G.frz,hne,h2],h3,h4,h5,h6,fun o=>?_,RDL_mono (Q28 hB hD) sz b l o0 h8⟩;rw [← h7 o];simp [G.frz,hne]
 | .ptr k' o,ℓ,u,hl,h=>by
  simp only [frzV];split
  ·rename_i he;subst he;simp only [RV] at h ⊢;have:=Q7l o hD;rw [Nat.zero_add] at this;exact ⟨_,_,h,this⟩
  ·simpa [RV,G.frz] using h
 | .nilp,_,_,_,h=>by simpa [frzV,RV] using h
 | .f x,_,u,_,h=>by
  simp only [frzV,RV] at h ⊢;exact Qf9 (Q6w (g:=g) (g':=g.frz k ds.length) fun b o h1 h2=>⟨.inl h1,by simp only [G.frz];split<;>first|rfl|exact h2⟩) x u h
 | .nils _,_,_,_,h=>by simpa [frzV,RV] using h
 | .cref cs,ℓ,u,hl,h=>by
  simp only [frzV,RV] at h ⊢;obtain ⟨b,o,rfl,h⟩:=h;exact ⟨b,o,rfl,Qwv (Q28 hB hD) b cs o h⟩
 | .sl sz k' o n c,ℓ,u,hl,h=>by
  simp only [frzV];split
  ·rename_i he;subst he;split
   ·rename_i hc;have hlen:((ds.drop o).take (n*sz)).length=n*sz:=by simp;omega
    obtain ⟨h1,h2,h3⟩:=Qvb n sz _ hlen;simp only [RV] at h;have key:∀ i x j y,(Ql5 sz n ((ds.drop o).take (n*sz)))[i]? = some x→x[j]? = some y→(g.frz k' ds.length).imm (g.box k') (o+i*sz+j)∧∃ u,w.cell? ⟨g.box k',o+i*sz+j,none⟩=some u∧RD (g.frz k' ds.length).imm w y u:=by
     intro i x j y hx hy;have h4:=h3 i x j y hx hy;rw [List.getElem?_take] at h4;split at h4
     ·rw [List.getElem?_drop] at h4;have:=Qt4 hD _ y h4;rw [show 0+(o+(i*sz+j))=o+i*sz+j from by omega] at this;exact this
     ·cases h4
    unfold frzL;split
    ·rename_i hp;simp only [RV,RD];refine ⟨_,c,by rw [h1];exact h,by rw [h1];exact hc.2,.inr ⟨_,o,rfl,Qzo fun i x hx=>⟨h2 x (List.mem_of_getElem? hx),Qwy fun j y hy=>?_⟩⟩⟩;obtain ⟨q1,q,q2,q3⟩:=key i x j y hx hy;refine ⟨⟨q1,by simp [G.frz],.inl (by rw [q2];rfl)⟩,q,q2,Qbf8 ?_ q3⟩;exact List.all_eq_true.1 (List.all_eq_true.1 hp x (List.mem_of_getElem? hx)) y (List.mem_of_getElem? hy)
    ·simp only [RV,RD];refine ⟨_,c,by rw [h1];exact h,by rw [h1];exact hc.2,.inr ⟨_,o,rfl,Qzo fun i x hx=>⟨h2 x (List.mem_of_getElem? hx),Qwy fun j y hy=>key i x j y hx hy⟩⟩⟩
   ·simp [RV]
  ·simpa [RV,G.frz] using h
 | .clo f cs,ℓ,u,hl,h=>by
  simp only [frzV,RV] at h ⊢;obtain ⟨vs,rfl,h⟩:=h;exact ⟨vs,rfl,RVs_frz cs .ext 0 vs h⟩
 | .mp k',ℓ,u,hl,h=>by
  simp only [frzV];split
  ·simp [RV]
  ·simpa [RV,G.frz] using h
theorem RVs_frz:∀ (cs:List V) (ℓ:Owner) (i:Nat) (us:List Value),RVs g w cs ℓ i us→RVs (g.frz k ds.length) w (frzVs k ds cs) ℓ i us
 | [],_,_,_,h=>by simpa [frzVs,RVs] using h
 | c::cs,ℓ,i,us,h=>by
  simp only [frzVs,RVs] at h ⊢;obtain ⟨u,us',rfl,h1,h2⟩:=h;have hne:ℓ.sub i ≠ .box k:=by cases ℓ<;>simp [Owner.sub]
  exact ⟨u,us',rfl,Qbdw c (ℓ.sub i) u hne h1,RVs_frz cs ℓ (i+1) us' h2⟩
end
end
def PreD (cs:List V) (ds:List D):Prop:=ds.length≤cs.length∧∀ (j:Nat) v d,cs[j]? = some v→ds[j]? = some d→v.toD=some d
theorem PreD.of {cs:List V} {ds:List D} (h:toDs cs=some ds):PreD cs ds:=⟨Nat.le_of_eq (Qva h).1,(Qva h).2⟩
theorem PreD.app {cs tl:List V} {ds:List D} (h:toDs cs=some ds):PreD (cs++tl) ds:=by
 obtain ⟨h1,h2⟩:=Qva h;refine ⟨by simp;omega,fun j v d hv hd=>?_⟩
 grind
theorem Qbau {g:G} {w:World} {M:Mem} {nb k:Nat} {cs:List V} {ds:List D} [DecidablePred fun b=>b=g.box k] (hm:MR g w M nb) (hM:M k=some (.cells cs)) (hd:PreD cs ds):RDc (g.frz k ds.length).imm w (g.box k) ds 0:=by
 obtain ⟨hl,hg⟩:=hd;refine Qwy fun j y hj=>?_;have hlt:=(List.getElem?_eq_some_iff.1 hj).1;have hc:cs[j]? = some (cs[j]'(by omega)):=List.getElem?_eq_getElem _;obtain ⟨u,h1,h2,h3⟩:=Qu6 hm hM hc;refine ⟨.inr ⟨rfl,by omega⟩,u,by simpa using h1,?_⟩;exact Qf9 ⟨fun _ _ h=>.inl h,fun _ _ _=>rfl⟩ y u (Qw2 (hg j _ y hc hj) h2)
def Qvl (n0 k:Nat) (f:V→V) (σ:St):St :=
 {
  s:=fun t=>f (σ.s t)
  M:=fun j=>if j=k then none else if j<n0 then σ.M j else
   match σ.M j with
   | some (.cells cs)=>some (.cells (cs.map f))
   | b=>b
  nb:=σ.nb }
abbrev Qbf9 (n0 k:Nat) (ds:List D) (σ:St):St:=Qvl n0 k (frzV k ds) σ
variable {Γ:Env} {σ:St}
open Classical in
theorem Qbcr {k:Nat} {cs:List V} {ds:List D} (hk:Γ.n0≤k) (hM:σ.M k=some (.cells cs)) (hd:PreD cs ds):WeakSt Γ σ (Qbf9 Γ.n0 k ds σ):=by
 intro a w g hs;have hB:g.own (g.box k) = .box k:=(hs.mem.box k _ hM).2.1;have hD:=Qbau hs.mem hM hd;have hsub:∀ ℓ i,ℓ≠Owner.box k→ℓ.sub i ≠ .box k:=by intro ℓ i _;cases ℓ<;>simp [Owner.sub]
 have hkept:Kept g w (g.frz k ds.length) w (fun j=>j≠k) (fun o=>o ≠ .box k):=by
  refine ⟨⟨fun _ _ h=>.inl h,fun _ _ _=>rfl⟩,fun _ _=>rfl,fun b hb _=>?_⟩;have hne:b≠g.box k:=by rintro rfl;exact hb hB
  exact ⟨by simp [G.frz,hne],rfl,fun o=>by simp [G.frz,hne]⟩
 have hthere:∀ j,(There σ.M j∧j≠k)→There (Qbf9 Γ.n0 k ds σ).M j:=by
  rintro j ⟨h1,h2⟩;simp only [There,Qvl,h2,if_false] at h1 ⊢;split
  ·exact h1
  ·cases hj:σ.M j with
   | none=>simp [hj] at h1
   | some b=>cases b<;>rfl
 have hown:∀ j,j≠k→g.own (g.box j) = .box j→(g.frz k ds.length).own (g.box j) = .box j:=by
  intro j hj ho;have hne:g.box j≠g.box k:=by
   intro e;rw [e,hB] at ho;cases ho;exact hj rfl
  simp [G.frz,hne,ho]
 refine ⟨g.frz k ds.length,⟨⟨fun j b hb=>?_,fun b o hbo=>?_⟩,fun t=>Qbdw hB hD _ _ _ (by simp) (hs.slots t),hs.size,hs.defers,fun t=>Qgj hthere _ (Qbdv k ds _ (hs.onS t)),fun j cs' hb=>?_,hs.top,?_⟩⟩
 ·simp only [Qvl] at hb;split at hb
  ·cases hb
  ·rename_i hjk;split at hb
   ·rename_i hlt;obtain ⟨h1,h2,h3⟩:=hs.mem.box j b hb;refine ⟨h1,hown j hjk h2,?_⟩;cases b with
    | mp es c =>
     obtain ⟨ents,k1,k2⟩:=h3;exact ⟨ents,k1,Qn6 (g:=g) (g':=g.frz k ds.length) hkept (fun _=>by simp) k2⟩
    | cells cs2 =>
     obtain ⟨vals,e,k1,k2,k3⟩:=h3;have hon:=(hs.onM j cs2 hb).2 hlt;exact ⟨vals,e,k1,RVs_mono hkept hsub (by simp) _ _ _ _ (by intro e;cases e;exact hjk rfl) (ons_mono (fun i hi=>by omega) _ hon) k2,k3⟩
   ·split at hb
    ·rename_i hlt _ cs2 hcs;cases hb;obtain ⟨h1,h2,vals,e,k1,k2,k3⟩:=hs.mem.box j _ hcs;refine ⟨h1,hown j hjk h2,vals,e,k1,?_,k3⟩;rw [← Q0h];exact RVs_frz hB hD _ _ _ _ k2
    ·rename_i hne;obtain ⟨h1,h2,h3⟩:=hs.mem.box j b hb;cases b with
     | mp es c =>
      obtain ⟨ents,k1,k2⟩:=h3;exact ⟨h1,hown j hjk h2,ents,k1,Qn6 (g:=g) (g':=g.frz k ds.length) hkept (fun _=>by simp) k2⟩
     | cells cs2=>exact absurd hb (hne cs2)
 ·rcases hbo with hbo|⟨rfl,hlt⟩
  ·obtain ⟨h1,h2⟩:=hs.mem.imm b o hbo;refine ⟨h1,fun j=>?_⟩;simp only [G.frz];split
   ·simp
   ·exact h2 j
  ·refine ⟨?_,fun j=>by simp [G.frz]⟩;obtain ⟨_,_,vals,e,k1,_,_⟩:=hs.mem.box k _ hM;exact (Array.getElem?_eq_some_iff.1 k1).1
 ·simp only [Qvl] at hb;split at hb
  ·cases hb
  ·rename_i hjk;split at hb
   ·rename_i hlt;obtain ⟨h1,h2⟩:=hs.onM j cs' hb;refine ⟨ons_mono (fun i hi=>hthere i ⟨hi.1,?_⟩) _ (ons_and cs' h1 (h2 hlt)),h2⟩;have:=hi.2;omega
   ·split at hb
    ·rename_i hlt _ cs2 hcs;cases hb;refine ⟨?_,fun h=>absurd h hlt⟩;rw [← Q0h];exact ons_mono hthere _ (ons_frz k ds _ (hs.onM j cs2 hcs).1)
    ·rename_i hne;exact absurd hb (hne cs')
 ·have hf:=hs.fr;refine ⟨hf.os,hf.tape,hf.output,hf.size,⟨fun b o h=>.inl (hf.imm.mono b o h),hf.imm.look⟩,hf.box,fun b hb ho=>?_⟩;obtain ⟨h1,h2,h3⟩:=hf.old b hb ho;have hne:b≠g.box k:=by
   rintro rfl;rw [hB] at h1;rw [← h1] at ho;exact ho
  exact ⟨by simp [G.frz,hne,h1],h2,fun o=>by simp [G.frz,hne,h3]⟩
def FE (f:V→V) (s:Sl):List (Nat×V)→Prop
 | []=>True
 | (t,v)::E=>WkV (f (s t)) v∧FE f s E
theorem FE.at {f:V→V} {s:Sl}:∀ {E:List (Nat×V)},FE f s E→∀ t,WkV (f (s t)) (look E t)
 | [],_,t=>.und _
 | (u,v)::E,h,t=>by
  simp only [look];cases hb:Nat.beq t u with
  | true=>have:=Nat.eq_of_beq_eq_true hb;subst this;exact h.1
  | false=>exact FE.at h.2 t
def FB (f:V→V) (t0:Nat) (L:List (Nat×Bx)):List (Nat×Bx)→Prop
 | []=>True
 | (t,.cells cs')::L'=>(∃ cs,Qbo L t=some (.cells cs)∧Nat.beq t t0=false∧WkVs (cs.map f) cs')∧FB f t0 L L'
 | (t,.mp es c)::L'=>(Qbo L t=some (.mp es c)∧Nat.beq t t0=false)∧FB f t0 L L'
theorem FB.at {f:V→V} {t0:Nat} {L:List (Nat×Bx)}:∀ {L' : List (Nat×Bx)},FB f t0 L L'→∀ t b,Qbo L' t=some b→Nat.beq t t0=false ∧
  ((∃ cs' cs,b = .cells cs'∧Qbo L t=some (.cells cs)∧WkVs (cs.map f) cs')∨∃ es c,b = .mp es c∧Qbo L t=some (.mp es c))
 | [],_,t,b,hb=>by simp [Qbo] at hb
 | (u,.cells cs')::L',h,t,b,hb=>by
  simp only [Qbo] at hb;cases hbe:Nat.beq t u with
  | true =>
   have:=Nat.eq_of_beq_eq_true hbe;subst this;rw [hbe] at hb;simp only [cond_true,Option.some.injEq] at hb;obtain ⟨cs,h1,h2,h3⟩:=h.1
   grind
  | false =>
   rw [hbe] at hb;exact FB.at h.2 t b hb
 | (u,.mp es c)::L',h,t,b,hb=>by
  simp only [Qbo] at hb;cases hbe:Nat.beq t u with
  | true =>
   have:=Nat.eq_of_beq_eq_true hbe;subst this;rw [hbe] at hb;simp only [cond_true,Option.some.injEq] at hb;exact ⟨h.1.2,.inr ⟨es,c,hb.symm,h.1.1⟩⟩
  | false =>
   rw [hbe] at hb;exact FB.at h.2 t b hb
theorem Q8o (f:V→V) (t:Nat) {E E' : List (Nat×V)} {L:List (Nat×Bx)} {L' : List (Nat×Bx)} {M0:Mem} {nb:Nat} (hW:WeakSt Γ ⟨look E,Ql Γ.n0 L M0,nb⟩ (Qvl Γ.n0 (Γ.n0+t) f ⟨look E,Ql Γ.n0 L M0,nb⟩))
  (hE:FE f (look E) E') (hL:FB f t L L') (hk:(L.all fun p=>Nat.beq p.1 t||L'.any fun q=>Nat.beq p.1 q.1)=true) :
  WeakSt Γ ⟨look E,Ql Γ.n0 L M0,nb⟩ ⟨look E',Ql Γ.n0 (bxs L') M0,nb⟩:=by
 refine WeakSt.trans hW ?_;intro a w g hs;have hbase:∀ k,k<Γ.n0→(Qvl Γ.n0 (Γ.n0+t) f ⟨look E,Ql Γ.n0 L M0,nb⟩).M k=M0 k:=by
  intro k hk;have h1:k≠Γ.n0+t:=by omega
  simp_all [Qvl,if_false,if_true,Qb7]
 have hown:∀ u cs,Nat.beq u t=false→Qbo L u=some (.cells cs)→(Qvl Γ.n0 (Γ.n0+t) f ⟨look E,Ql Γ.n0 L M0,nb⟩).M (Γ.n0+u)=some (.cells (cs.map f)):=by
  intro u cs h1 h2;have h3:u≠t:=fun e=>by subst e;simp at h1
  have h4:Γ.n0+u≠Γ.n0+t:=by omega
  have h5:¬ Γ.n0+u<Γ.n0:=by omega
  have h6:Ql Γ.n0 L M0 (Γ.n0+u)=some (.cells cs):=by rw [Qci];exact h2
  simp only [Qvl,h4,if_false,h5,h6]
 have hownm:∀ u es c,Nat.beq u t=false→Qbo L u=some (.mp es c)→(Qvl Γ.n0 (Γ.n0+t) f ⟨look E,Ql Γ.n0 L M0,nb⟩).M (Γ.n0+u)=some (.mp es c):=by
  intro u es c h1 h2;have h3:u≠t:=fun e=>by subst e;simp at h1
  have h4:Γ.n0+u≠Γ.n0+t:=by omega
  have h5:¬ Γ.n0+u<Γ.n0:=by omega
  have h6:Ql Γ.n0 L M0 (Γ.n0+u)=some (.mp es c):=by rw [Qci];exact h2
  simp only [Qvl,h4,if_false,h5,h6]
 have hsplit:∀ k,k<Γ.n0∨∃ u,k=Γ.n0+u:=fun k=>by
  rcases Nat.lt_or_ge k Γ.n0 with h|h
  ·exact .inl h
  ·exact .inr ⟨k-Γ.n0,by omega⟩
 have hthere:∀ k,There (Qvl Γ.n0 (Γ.n0+t) f ⟨look E,Ql Γ.n0 L M0,nb⟩).M k→There (Ql Γ.n0 (bxs L') M0) k:=by
  intro k hk';rcases hsplit k with h|⟨u,rfl⟩
  ·grind [There,Qb7]
  ·simp only [There,Qci];have h5:¬ Γ.n0+u<Γ.n0:=by omega
   have h4:Γ.n0+u≠Γ.n0+t:=by
    grind [There,Qvl]
   have h7:∃ b,Qbo L u=some b:=by
    cases hb:Qbo L u with
    | some b=>exact ⟨b,rfl⟩
    | none =>
     have h6:Ql Γ.n0 L M0 (Γ.n0+u)=none:=by rw [Qci];exact hb
     simp only [There,Qvl,h4,if_false,h5,h6] at hk';cases hk'
   obtain ⟨b,hb⟩:=h7;obtain ⟨p,hp,rfl⟩:=Qt9 hb;have:=List.all_eq_true.1 hk p hp;rw [Bool.or_eq_true] at this;rcases this with h8|h8
   ·simp_all
   ·obtain ⟨q,hq,he⟩:=List.any_eq_true.1 h8
    grind [Nat.eq_of_beq_eq_true,Qx6]
 refine ⟨g,⟨⟨fun k b hb=>?_,hs.mem.imm⟩,fun t=>(hE.at t).rd _ _ _ _ (hs.slots t),hs.size,hs.defers,fun t=>Qgj hthere _ ((hE.at t).on _ (hs.onS t)),fun k cs hb=>?_,hs.top,hs.fr⟩⟩
 ·rcases hsplit k with h|⟨u,rfl⟩
  ·have hb' : (Qvl Γ.n0 (Γ.n0+t) f ⟨look E,Ql Γ.n0 L M0,nb⟩).M k=some b:=by grind [Qb7]
   exact hs.mem.box k b hb'
  ·have hb' : Qbo (bxs L') u=some b:=by rw [← hb];exact Qci.symm
   obtain ⟨h2,⟨cs',cs,rfl,h1,h3⟩|⟨es,c,rfl,h1⟩⟩:=hL.at u b hb'
   ·obtain ⟨k1,k2,vals,e,k3,k4,k5⟩:=hs.mem.box _ _ (hown u cs h2 h1);exact ⟨k1,k2,vals,e,k3,h3.rd _ _ _ _ _ k4,k5⟩
   ·exact hs.mem.box _ _ (hownm u es c h2 h1)
 ·rcases hsplit k with h|⟨u,rfl⟩
  ·have hb' : (Qvl Γ.n0 (Γ.n0+t) f ⟨look E,Ql Γ.n0 L M0,nb⟩).M k=some (.cells cs):=by grind [Qb7]
   obtain ⟨k1,k2⟩:=hs.onM k cs hb';exact ⟨ons_mono hthere _ k1,k2⟩
  ·have hb' : Qbo (bxs L') u=some (.cells cs):=by rw [← hb];exact Qci.symm
   obtain ⟨h2,⟨cs',cs0,he,h1,h3⟩|⟨es,c,he,h1⟩⟩:=hL.at u _ hb'<;>cases he;obtain ⟨k1,k2⟩:=hs.onM _ _ (hown u cs0 h2 h1);exact ⟨ons_mono hthere _ (h3.on _ k1),fun hlt=>absurd hlt (by omega)⟩
theorem Qeh (t:Nat) {E E' : List (Nat×V)} {L:List (Nat×Bx)} {L' : List (Nat×Bx)} {M0:Mem} {nb:Nat} {cs:List V} (ds:List D) (hM:Qbo L t=some (.cells cs)) (hd:PreD cs ds)
  (hE:FE (frzV (Γ.n0+t) ds) (look E) E') (hL:FB (frzV (Γ.n0+t) ds) t L L') (hk:(L.all fun p=>Nat.beq p.1 t||L'.any fun q=>Nat.beq p.1 q.1)=true) :
  WeakSt Γ ⟨look E,Ql Γ.n0 L M0,nb⟩ ⟨look E',Ql Γ.n0 (bxs L') M0,nb⟩ :=
 Q8o (frzV (Γ.n0+t) ds) t (Qbcr (σ:=⟨look E,Ql Γ.n0 L M0,nb⟩) (k:=Γ.n0+t) (by omega) (by grind [Ql,Qci]) hd) hE hL hk
theorem Qff (t:Nat) {E E' : List (Nat×V)} {L:List (Nat×Bx)} {L' : List (Nat×Bx)} {M0:Mem} {nb:Nat} {cs:List V} (ds:List D) (hM:Qbo L t=some (.cells cs)) (hd:toDs cs=some ds)
  (hE:FE (frzV (Γ.n0+t) ds) (look E) E') (hL:FB (frzV (Γ.n0+t) ds) t L L') (hk:(L.all fun p=>Nat.beq p.1 t||L'.any fun q=>Nat.beq p.1 q.1)=true) :
  WeakSt Γ ⟨look E,Ql Γ.n0 L M0,nb⟩ ⟨look E',Ql Γ.n0 (bxs L') M0,nb⟩ :=
 Qeh t ds hM (.of hd) hE hL hk
theorem fPtr {n0 t u o:Nat} {ds:List D} (h:Nat.beq u t=false):WkV (frzV (n0+t) ds (.ptr (n0+u) o)) (.ptr (n0+u) o):=by
 have:¬ n0+u=n0+t:=by
  intro e
  simp_all
 exact .same (by simp only [frzV];rw [if_neg this])
theorem fSlO {n0 t u sz o n c:Nat} {ds:List D} (h:Nat.beq u t=false):WkV (frzV (n0+t) ds (.sl sz (n0+u) o n c)) (.sl sz (n0+u) o n c):=by
 have:¬ n0+u=n0+t:=by
  intro e
  simp_all
 exact .same (by simp only [frzV];rw [if_neg this])
theorem fSl {n0 t sz o n c:Nat} {ds:List D} {l:List (List D)} (h:(Nat.ble (o+n*sz) ds.length&&Nat.ble n c)=true) (hl:Ql5 sz n ((ds.drop o).take (n*sz))=l):WkV (frzV (n0+t) ds (.sl sz (n0+t) o n c)) (.d (.lst sz l)):=by
 simp only [Bool.and_eq_true] at h
 grind [Nat.le_of_ble_eq_true,frzV,frzL,Qbat]
def nilO {α R:Type} [DecidableEq R] (l:List α) (K:Bool→Option R):Option R :=
 match l with
 | []=>if K true=K false then K false else none
 | _::_=>K false
theorem Qbav {α R:Type} [DecidableEq R] {l:List α} {K:Bool→Option R} {r:R} (h:nilO l K=some r) (b:Bool) (hb:b=true→l.length=0):K b=some r:=by
 cases l with
 | nil =>
  simp only [nilO] at h;split at h
  ·rename_i he;cases b with
   | true=>rw [he];exact h
   | false=>exact h
  ·cases h
 | cons x l =>
  cases b with
  | true=>simp at hb
  | false=>exact h
variable {pc d nb:Nat} {os:List COp} {E:List (Nat×V)} {M:Mem} {Q:St→Prop} {gd:Option (Nat×Bool)} {a:Arg}
theorem Rn.isnil {α R:Type} [DecidableEq R] {e:α→List D} {sz:Nat} {xs:List α} {neg:Bool} {J:Bool→Option R} {r:R} (hw:Wn E gd) (ha:(a.val (look E)).dem = .d (.lst sz (xs.map e))) (h:nilO xs J=some r)
  (hk:∀ b,J b=some r→Rn Γ 9 os ⟨look ((d,.d (.bool (bif neg then !b else b)))::E),M,nb⟩ Q):Rn Γ 9 (⟨some d,.isnil neg,[a],false,gd⟩::os) ⟨look E,M,nb⟩ Q:=by
 refine Rn.cons ?_;unfold COp.run;rw [hw.wanted];simp only [show (Abs.K.isnil neg).isCall=false from rfl,show (Abs.K.isnil neg).isNil=true from rfl,Bool.false_eq_true,if_false,if_true,COp.xs,List.map_cons,List.map_nil,V.dems,ha,Q1e,List.length_map,Abs.K.negNil];intro b hb;have e1:∀ v,Qbf (look E) (some d) v=look ((d,v)::E):=fun v=>Qdt E d v;have h2:=hk b (Qbav h b hb)
 grind
end Go.Abs
end
section
namespace Go.Abs
open Go
variable {Γ:Env} {σ:St}
def G.ow (g:G) (k n:Nat) (ℓ:Owner) [DecidablePred fun b=>b=g.box k]:G:=⟨g.box,fun b o=>g.imm b o∨(b=g.box k∧o<n),fun b=>if b=g.box k then ℓ else g.own b⟩
section
variable {g:G} {w:World} {k n:Nat} {ℓ0:Owner} (hB:g.own (g.box k) = .box k)
include hB
mutual
theorem Qbga [DecidablePred fun b=>b=g.box k]:∀ (v:V) (ℓ:Owner) (u:Value),ℓ ≠ .box k→RV g w v ℓ u→RV (g.ow k n ℓ0) w v ℓ u
 | .und,_,_,_,_=>by simp [RV]
 | .d x,_,_,_,h=>by
  simp only [RV] at h ⊢;exact Qf9 ⟨fun _ _ h=>.inl h,fun _ _ _=>rfl⟩ x _ h
 | .agg cs,ℓ,u,hl,h=>by
  simp only [RV] at h ⊢;obtain ⟨vs,rfl,h,h1⟩:=h;exact ⟨vs,rfl,RVs_ow cs ℓ 0 vs h,h1⟩
 | .tup cs,ℓ,u,hl,h=>by
  simp only [RV] at h ⊢;obtain ⟨vs,rfl,h⟩:=h;exact ⟨vs,rfl,RVs_ow cs ℓ 0 vs h⟩
 | .own sz l,ℓ,u,hl,h=>by
  simp only [RV] at h ⊢;rcases h with h|⟨b,cap,vals,e,h1,h2,h3,h4,h5,h6,h7,h8⟩
  ·exact .inl h
  ·have hne:b≠g.box k:=by rintro rfl;rw [hB] at h2;exact hl h2.symm
   refine .inr ⟨b,cap,vals,e,h1,by simp [G.ow,hne,h2],h3,h4,h5,h6,fun o=>?_,RDL_mono ⟨fun _ _ h=>.inl h,fun _ _ _=>rfl⟩ sz b l 0 h8⟩;rw [← h7 o];simp [G.ow,hne]
 | .ownT sz l,ℓ,u,hl,h=>by
  simp only [RV] at h ⊢;rcases h with h|⟨b,o0,cap,vals,e,h1,h2,h3,h4,h5,h6,h7,h8⟩
  ·exact .inl h
  ·have hne:b≠g.box k:=by rintro rfl;rw [hB] at h2;exact hl h2.symm
   refine .inr ⟨b,o0,cap,vals,e,h1,by simp [G.ow,hne,h2],h3,h4,h5,h6,fun o=>?_,RDL_mono ⟨fun _ _ h=>.inl h,fun _ _ _=>rfl⟩ sz b l o0 h8⟩;rw [← h7 o];simp [G.ow,hne]
 | .ptr k' o,ℓ,u,hl,h=>by simpa [RV,G.ow] using h
 | .nilp,_,_,_,h=>by simpa [RV] using h
 | .f x,_,u,_,h=>by
  simp only [RV] at h ⊢;refine Qf9 (Q6w (g:=g) (g':=g.ow k n ℓ0) fun b o h1 h2=>⟨.inl h1,?_⟩) x u h;have hne:b≠g.box k:=by rintro rfl;rw [hB] at h2;cases h2
  simp [G.ow,hne,h2]
 | .nils _,_,_,_,h=>by simpa [RV] using h
 | .cref cs,ℓ,u,hl,h=>by
  simp only [RV] at h ⊢;obtain ⟨b,o,rfl,h⟩:=h;exact ⟨b,o,rfl,Qwv ⟨fun _ _ h=>.inl h,fun _ _ _=>rfl⟩ b cs o h⟩
 | .sl sz k' o n c,ℓ,u,hl,h=>by simpa [RV,G.ow] using h
 | .clo f cs,ℓ,u,hl,h=>by
  simp only [RV] at h ⊢;obtain ⟨vs,rfl,h⟩:=h;exact ⟨vs,rfl,RVs_ow cs .ext 0 vs h⟩
 | .mp k',ℓ,u,hl,h=>by simpa [RV,G.ow] using h
theorem RVs_ow [DecidablePred fun b=>b=g.box k]:∀ (cs:List V) (ℓ:Owner) (i:Nat) (us:List Value),RVs g w cs ℓ i us→RVs (g.ow k n ℓ0) w cs ℓ i us
 | [],_,_,_,h=>by simpa [RVs] using h
 | c::cs,ℓ,i,us,h=>by
  simp only [RVs] at h ⊢;obtain ⟨u,us',rfl,h1,h2⟩:=h;have hne:ℓ.sub i ≠ .box k:=by cases ℓ<;>simp [Owner.sub]
  exact ⟨u,us',rfl,Qbga c (ℓ.sub i) u hne h1,RVs_ow cs ℓ (i+1) us' h2⟩
end
end
open Classical in
theorem Qbcs {t t0 sz n:Nat} {cs:List V} {ds:List D} (hM:σ.M (Γ.n0+t)=some (.cells cs)) (hd:toDs cs=some ds) (hs0:σ.s t0 = .sl sz (Γ.n0+t) 0 n n) (hn:(Nat.beq (n*sz) ds.length&&Nat.ble n 65536)=true) :
  WeakSt Γ σ ⟨(Qk4 Γ.n0 [t] σ).s.put t0 (.own sz (Ql5 sz n ds)),(Qk4 Γ.n0 [t] σ).M,σ.nb⟩:=by
 intro a w g hs;simp only [Bool.and_eq_true] at hn;have hn1:n*sz=ds.length:=Nat.eq_of_beq_eq_true hn.1;have hn2:=Nat.le_of_ble_eq_true hn.2;have hc:=Qzc hs [t];have hB:g.own (g.box (Γ.n0+t)) = .box (Γ.n0+t):=(hs.mem.box _ _ hM).2.1;obtain ⟨hl,hg⟩:=Qva hd;have hself:Qjf Γ.n0 [t] (Γ.n0+t)=true:=by simp [Qjf]
 have hgone:∀ j,There (Qk4 Γ.n0 [t] σ).M j→j≠Γ.n0+t:=by
  rintro j hj rfl;simp [There,Qk4,hself] at hj
 have hD:RDc (g.ow (Γ.n0+t) (n*sz) (.slot t0 [])).imm w (g.box (Γ.n0+t)) ds 0:=by
  refine Qwy fun j y hj=>?_;have hlt:=(List.getElem?_eq_some_iff.1 hj).1;have hcj:cs[j]? = some (cs[j]'(by omega)):=List.getElem?_eq_getElem _;obtain ⟨u,h1,h2,h3⟩:=Qu6 hs.mem hM hcj;refine ⟨.inr ⟨rfl,by omega⟩,u,by simpa using h1,?_⟩;exact Qf9 ⟨fun _ _ h=>.inl h,fun _ _ _=>rfl⟩ y u (Qw2 (hg j _ y hcj hj) h2)
 refine ⟨g.ow (Γ.n0+t) (n*sz) (.slot t0 []),⟨⟨fun j b hb=>?_,fun b o hbo=>?_⟩,fun i=>?_,hs.size,hs.defers,fun i=>?_,hc.onM,hs.top,?_⟩⟩
 ·have hjk:=hgone j (by simp [There,show (Qk4 Γ.n0 [t] σ).M j=some b from hb]);obtain ⟨h1,h2,h3⟩:=hc.mem.box j b hb;have hne:g.box j≠g.box (Γ.n0+t):=by
   intro e;rw [e,hB] at h2;cases h2;exact hjk rfl
  refine ⟨h1,by simp [G.ow,hne,h2],?_⟩;cases b with
  | mp es c =>
   obtain ⟨ents,k1,k2⟩:=h3;exact ⟨ents,k1,Q3z (g:=g) (g':=g.ow (Γ.n0+t) (n*sz) (.slot t0 [])) ⟨fun _ _ h=>.inl h,fun _ _ _=>rfl⟩ (fun b i hbi _=>by have hne2:b≠g.box (Γ.n0+t):=(by rintro rfl;rw [hB] at hbi;cases hbi);exact ⟨by simp [G.ow,hne2,hbi],rfl,fun o=>by simp [G.ow,hne2]⟩) k2⟩
  | cells cs2 =>
   obtain ⟨vals,e,k1,k2,k3⟩:=h3;exact ⟨vals,e,k1,RVs_ow hB _ _ _ _ k2,k3⟩
 ·rcases hbo with hbo|⟨rfl,hlt⟩
  ·obtain ⟨h1,h2⟩:=hs.mem.imm b o hbo;refine ⟨h1,fun j=>?_⟩;simp only [G.ow];split
   ·simp
   ·exact h2 j
  ·refine ⟨?_,fun j=>by simp [G.ow]⟩;obtain ⟨_,_,vals,e,k1,_,_⟩:=hs.mem.box _ _ hM;exact (Array.getElem?_eq_some_iff.1 k1).1
 ·simp only [Sl.put];split
  ·rename_i he;subst he;have h0:=hs.slots i;rw [hs0] at h0;simp only [RV] at h0 ⊢;obtain ⟨_,_,vals,e,k1,k2,k3⟩:=hs.mem.box _ _ hM;have hvl:=Qpe k2;obtain ⟨q1,q2,q3⟩:=Qvb n sz ds hn1.symm;refine .inr ⟨g.box (Γ.n0+t),n,vals.toArray,e,by rw [q1];exact h0,by simp [G.ow],k1,by omega,by unfold maxLen;omega,⟨by simp;omega,fun u hu=>k3 u (by simpa using hu)⟩,fun o=>?_,Qzo fun i x hx=>⟨q2 x (List.mem_of_getElem? hx),Qwy fun j y hy=>?_⟩⟩
   ·have hno:¬ g.imm (g.box (Γ.n0+t)) o:=fun h=>(hs.mem.imm _ _ h).2 _ hB;simp [G.ow,hno,q1]
   ·have h4:=q3 i x j y hx hy;have:=Qt4 hD _ y h4;rw [show 0+(i*sz+j)=0+i*sz+j from by omega] at this;exact this
  ·exact Qbga hB _ _ _ (by simp) (hc.slots i)
 ·simp only [Sl.put];split
  ·trivial
  ·exact hc.onS i
 ·have hf:=hs.fr;refine ⟨hf.os,hf.tape,hf.output,hf.size,⟨fun b o h=>.inl (hf.imm.mono b o h),hf.imm.look⟩,hf.box,fun b hb ho=>?_⟩;obtain ⟨h1,h2,h3⟩:=hf.old b hb ho;have hne:b≠g.box (Γ.n0+t):=by
   rintro rfl;rw [hB] at h1;rw [← h1] at ho;exact ho
  exact ⟨by simp [G.ow,hne,h1],h2,fun o=>by simp [G.ow,hne,h3]⟩
theorem Qbaw (t t0:Nat) {sz n:Nat} {E E' : List (Nat×V)} {L:List (Nat×Bx)} {L' : List (Nat×Bx)} {M0:Mem} {nb:Nat} {cs:List V} (ds:List D) (hM:Qbo L t=some (.cells cs)) (hd:toDs cs=some ds) (hs0:look E t0 = .sl sz (Γ.n0+t) 0 n n)
  (hn:(Nat.beq (n*sz) ds.length&&Nat.ble n 65536)=true) {l:List (List D)} (hl:Ql5 sz n ds=l) (hE:KL Γ.n0 [t] (look E) E') (hL:KB Γ.n0 [t] L L') (hk:(L.all fun p=>[t].any (Nat.beq p.1)||L'.any fun q=>Nat.beq p.1 q.1)=true) :
  WeakSt Γ ⟨look E,Ql Γ.n0 L M0,nb⟩ ⟨look ((t0,.own sz l)::E'),Ql Γ.n0 (bxs L') M0,nb⟩:=by
 intro a w g hs;subst hl;have hwk:∀ i,WkV ((Qk4 Γ.n0 [t] ⟨look E,Ql Γ.n0 L M0,nb⟩).s.put t0 (.own sz (Ql5 sz n ds)) i) (look ((t0,.own sz (Ql5 sz n ds))::E') i):=by
  intro i;simp only [Sl.put,look];cases hb:Nat.beq i t0 with
  | true=>grind [Nat.eq_of_beq_eq_true,WkV.refl]
  | false =>
   have:i≠t0:=fun e=>by subst e;simp at hb
   simp only [this,if_false,cond_false];exact hE.at i
 obtain ⟨g1,h1⟩:=Qbcs (σ:=⟨look E,Ql Γ.n0 L M0,nb⟩) (t:=t) (t0:=t0) (by grind [Ql,Qci]) hd hs0 hn a w g hs;exact Q7j (Γ:=Γ) (sites:=[t]) (E:=E) hwk hL hk a w g1 h1
variable {pc d nb:Nat} {os:List COp} {E:List (Nat×V)} {M M0:Mem} {L:List (Nat×Bx)} {Q:St→Prop} {gd:Option (Nat×Bool)} {b:Arg} {α:Type} {e:α→List D}
theorem Rn.app0 {t u sz bytes:Nat} {ys zs:List α} {src:V} {cs:List V} (hw:Wn E gd) (ha:look E t = .sl sz (Γ.n0+u) 0 0 0) (hM:Qbo L u=some (.cells cs)) (hb:b.val (look E)=src) (hf:src.dem=src) (hs:Qe4 (Ql Γ.n0 L M0) sz src=some (ys.map e)) (hx:appO ([]:List α) ys=some zs) (hbd:(Nat.ble bytes 128&&Nat.ble 1 sz)=true)
  (h:Rn Γ pc os ⟨look ((d,.own sz (zs.map e))::E),Ql Γ.n0 L M0,nb⟩ Q):Rn Γ pc (⟨some d,.append sz bytes,[.t t,b],true,gd⟩::os) ⟨look E,Ql Γ.n0 L M0,nb⟩ Q:=by
 unfold appO at hx;split at hx<;>cases hx;rename_i hl;simp only [Bool.and_eq_true] at hbd;have h1:=Nat.le_of_ble_eq_true hbd.1;have h2:0<sz:=Nat.le_of_ble_eq_true hbd.2;have hm:[Arg.t t,b].map (fun x=>x.val (look E))=[V.sl sz (Γ.n0+u) 0 0 0,src]:=by
  simp only [List.map_cons,List.map_nil,hb];rw [show (Arg.t t).val (look E)=_ from ha]
 have he:Qe4 (Ql Γ.n0 L M0) sz (.sl sz (Γ.n0+u) 0 0 0)=some []:=by simp [Qe4,Q1 hM,toDs,Ql5]
 refine Rn.kT hw rfl rfl (v:=.own sz (([]++ys).map e)) ?_ (fun i=>?_) h
 ·rw [hm];simp only [Qk,he,hs]
  grind
 ·rw [hm];simp only [Qb1,hf,show (V.sl sz (Γ.n0+u) 0 0 0).dem = .sl sz (Γ.n0+u) 0 0 0 from rfl,Q5,show ∀ s v,(Arg.t t).putTo s v=s.put t v from fun _ _=>rfl];have hz:∀ (a:Arg) (v:V) (s:Sl),a.val s=v→a.putTo s v=s:=by
   intro a v s hs;cases a with
   | c v=>rfl
   | t j =>
    simp only [Arg.val] at hs;funext i;simp_all [Arg.putTo,Sl.put]
  have e1:(look E).put t (.sl sz (Γ.n0+u) 0 0 0)=look E:=hz (.t t) _ _ ha;rw [e1,hz b src _ hb,Qdt]
end Go.Abs
namespace Go.Abs
open Go
theorem WkV.nilsO (sz:Nat):WkV (.nils sz) (.own sz []):=⟨fun g w ℓ u h=>by
 simp_all [RV,trivial],fun _ _=>trivial⟩
theorem WkV.nilsD (sz:Nat):WkV (.nils sz) (.d (.lst sz [])):=⟨fun g w ℓ u h=>by
 simp only [RV] at h ⊢;obtain ⟨a,rfl⟩:=h;simp [RD],fun _ _=>trivial⟩
theorem WkVs.rf {g:G} {w:World} {vs vs' : List V} (h:WkVs vs vs'):∀ {us:List Value},RFs g w vs us→RFs g w vs' us:=by
 induction h with
 | nil=>exact fun h=>h
 | cons h t ih =>
  rintro us ⟨u,us',e,h1,h2⟩;exact ⟨u,us',e,fun ℓ=>h.rd _ _ _ _ (h1 ℓ),ih h2⟩
theorem ACalls.weak {P:Program} {f:FuncId} {args args' : List V} {M M' : Mem} {nb nb' : Nat} {r:V} (h:ACalls P f args' M nb r M' nb') (hw:WkVs args args') (hf:V.dems args'=args'):ACalls P f args M nb r M' nb':=by
 refine ⟨h.1,h.2.1,fun w g us hm hMon hfr hus hfl hons=>h.2.2 w g us hm hMon hfr (hw.rf hus) (fun x hx=>?_) (hw.on _ hons)⟩
 grind [Qng]
end Go.Abs
end
section
namespace Go.Abs
open Go
variable {α:Type}
def Qw (g:α→List V) (xs:List α):List V:=(xs.map g).flatten
theorem Qiu (g:α→List V) (x:α) (xs:List α):Qw g (x::xs)=g x++Qw g xs:=by simp [Qw]
theorem Qfn {g:α→List V} {sz:Nat} (hg:∀ x,(g x).length=sz):∀ xs:List α,(Qw g xs).length=xs.length*sz
 | []=>by simp [Qw]
 | x::xs=>by rw [Qiu,List.length_append,hg,Qfn hg xs,List.length_cons,Nat.add_mul];omega
theorem Qve {g:α→List V} {sz:Nat} (hg:∀ x,(g x).length=sz):∀ (xs:List α) (i:Nat),i≤xs.length→(Qw g xs).drop (i*sz)=Qw g (xs.drop i)
 | xs,0,_=>by simp
 | [],i+1,h=>by simp at h
 | x::xs,i+1,h=>by
  rw [Qiu,Nat.add_mul,Nat.add_comm,Nat.one_mul,← List.drop_drop,show (g x++Qw g xs).drop sz=Qw g xs from by rw [← hg x];simp];rw [Qve hg xs i (by simpa using h)]
  rfl
theorem Qvf {g:α→List V} {sz:Nat} (hg:∀ x,(g x).length=sz):∀ (xs:List α) (i:Nat),i≤xs.length→(Qw g xs).take (i*sz)=Qw g (xs.take i)
 | xs,0,_=>by simp [Qw]
 | [],i+1,h=>by simp at h
 | x::xs,i+1,h=>by
  simp_all [Qiu,Nat.add_mul,Nat.add_comm,Nat.one_mul,List.take_append,List.take_of_length_le,Qvf,List.take_succ_cons]
theorem Q0i {g:α→List V} {sz:Nat} (hg:∀ x,(g x).length=sz) {xs:List α} {i:Nat} {x:α} (hx:xs[i]? = some x):((Qw g xs).drop (i*sz)).take sz=g x:=by
 grind [List.getElem?_eq_some_iff,Qve,List.drop_eq_getElem_cons,Qiu]
theorem Qw8 {g:α→List V} {sz:Nat} (hg:∀ x,(g x).length=sz) {xs:List α} {i:Nat} (y:α) (hi:i<xs.length):(Qw g xs).take (i*sz)++g y++(Qw g xs).drop (i*sz+sz)=Qw g (xs.set i y):=by
 rw [Qvf hg xs i (by omega),show i*sz+sz=(i+1)*sz from by grind,Qve hg xs (i+1) (by omega)];rw [List.set_eq_take_append_cons_drop,if_pos hi];simp [Qw]
theorem Qbax (g:α→List V) (x:α) (n:Nat):Qw g (List.replicate n x)=rep n (g x):=by simp [Qw,rep]
def mkO (n:Int) (x:α):Option (List α):=if 0≤n∧n≤lim then some (List.replicate n.toNat x) else none
def inO (len:Nat) (i:Int):Option Unit:=if 0≤i∧i<len then some () else none
def setO (l:List α) (i:Int) (y:α):Option (List α):=if 0≤i∧i.toNat<l.length then some (l.set i.toNat y) else none
variable {Γ:Env} {pc d nb:Nat} {os:List COp} {E:List (Nat×V)} {M M0:Mem} {L:List (Nat×Bx)} {Q:St→Prop} {gd:Option (Nat×Bool)} {a b:Arg} {g:α→List V} {xs:List α} {sz:Nat}
theorem Rn.makes {bytes:Nat} {z:List V} {n:Int} {x:α} (hw:Wn E gd) (ha:a.val (look E) = .d (.int .i64 n)) (hb:b.val (look E) = .d (.int .i64 n)) (hf:(Qbo L d).isNone=true) (hz:g x=z) (hc:(Nat.ble bytes 128&&Nat.beq z.length sz&&Nat.ble 1 sz)=true) (hx:mkO n x=some xs)
  (h:Rn Γ pc os ⟨look ((d,.sl sz (Γ.n0+d) 0 n.toNat n.toNat)::E),Ql Γ.n0 ((d,.cells (Qw g xs))::L) M0,nb⟩ Q):Rn Γ pc (⟨some d,.makes sz bytes z,[a,b],false,gd⟩::os) ⟨look E,Ql Γ.n0 L M0,nb⟩ Q:=by
 unfold mkO at hx;split at hx<;>cases hx;rename_i hn;simp only [Bool.and_eq_true] at hc;have h1:=Nat.le_of_ble_eq_true hc.1.1;have h2:z.length=sz:=Nat.eq_of_beq_eq_true hc.1.2;have h3:0<sz:=Nat.le_of_ble_eq_true hc.2;refine Rn.k hw rfl rfl ?_ h
 simp_all [List.map_cons,List.map_nil,V.dems,V.dem,Qk,Qpp,if_pos,Qee,Qbax]
theorem Rn.idxA {k len cap:Nat} {kk:IntKind} {i:Int} (hw:Wn E gd) (ha:(a.val (look E)).dem = .sl sz k 0 len cap) (hb:b.val (look E) = .d (.int kk i)) (hx:inO len i=some ()) (h:Rn Γ pc os ⟨look ((d,.ptr k (0+i.toNat*sz))::E),M,nb⟩ Q) :
  Rn Γ pc (⟨some d,.idx sz,[a,b],false,gd⟩::os) ⟨look E,M,nb⟩ Q:=by
 unfold inO at hx;split at hx<;>cases hx;rename_i hc;refine Rn.k hw rfl rfl ?_ h
 grind [V.dems,V.dem,Qk]
theorem Rn.lenA {k off len cap:Nat} (hw:Wn E gd) (ha:(a.val (look E)).dem = .sl sz k off len cap) (h:Rn Γ pc os ⟨look ((d,.d (.int .i64 len))::E),M,nb⟩ Q):Rn Γ pc (⟨some d,.len,[a],false,gd⟩::os) ⟨look E,M,nb⟩ Q:=by
 refine Rn.k hw rfl rfl ?_ h;simp [ha,V.dems,Qk]
theorem Rn.loadA {k f n:Nat} {ag:Bool} {i:Int} {x:α} {v:V} (hg:∀ x,(g x).length=sz) (hw:Wn E gd) (ha:a.val (look E) = .ptr k (0+i.toNat*sz+f)) (hM:M k=some (.cells (Qw g xs))) (hx:getO xs i=some x) (hn:Nat.ble (f+max n 1) sz=true)
  (hv:(if ag then some (.agg (V.dems (((g x).drop f).take n))) else ((g x)[f]?).map (·.dem))=some v) (h:Rn Γ pc os ⟨look ((d,v)::E),M,nb⟩ Q):Rn Γ pc (⟨some d,.load ag n,[a],false,gd⟩::os) ⟨look E,M,nb⟩ Q:=by
 have hn:=Nat.le_of_ble_eq_true hn;unfold getO at hx;split at hx<;>try (cases hx;done)
 obtain ⟨hlt,hx'⟩:=List.getElem?_eq_some_iff.1 hx;have hl:=Qfn hg xs;have hge:=Q0i hg hx;have hb:i.toNat*sz+sz≤xs.length*sz:=by
  grind
 refine Rn.k hw rfl rfl ?_ h;simp only [List.map_cons,List.map_nil,V.dems,ha,V.dem,Qk,hM];rw [if_pos (by rw [hl];omega)];have hdrop:(Qw g xs).drop (0+i.toNat*sz+f)=((Qw g xs).drop (i.toNat*sz)).drop f:=by simp_all
 cases ag with
 | true =>
  simp only [if_true,Option.some.injEq] at hv ⊢
  grind [List.drop_take,Min.min]
 | false =>
  grind
theorem Rn.storeA {t:Nat} {i:Int} {y:α} {ys:List α} {v:V} (hg:∀ x,(g x).length=sz) (hw:Wn E gd) (ha:a.val (look E) = .ptr (Γ.n0+t) (0+i.toNat*sz)) (hb:(b.val (look E)).dem=v) (hv:Qel v=true) (hM:Qbo L t=some (.cells (Qw g xs))) (hc:v.cells=g y)
  (hx:setO xs i y=some ys) (h:Rn Γ pc os ⟨look E,Ql Γ.n0 ((t,.cells (Qw g ys))::L) M0,nb⟩ Q):Rn Γ pc (⟨none,.store sz,[a,b],false,gd⟩::os) ⟨look E,Ql Γ.n0 L M0,nb⟩ Q:=by
 unfold setO at hx;split at hx<;>cases hx;rename_i hi;have hl:=Qfn hg xs;have hb2:i.toNat*sz+sz≤xs.length*sz:=by
  rw [show i.toNat*sz+sz=(i.toNat+1)*sz from by grind];exact Nat.mul_le_mul_right _ hi.2
 refine Rn.store (cs':=Qw g (xs.set i.toNat y)) hw ha hb hv hM ?_ ?_ h
 ·simp_all
 ·rw [hc,Nat.zero_add];exact Qw8 hg y hi.2
theorem Qbdx {f:V→V} (h:∀ x,(g x).map f=g x):WkVs ((Qw g xs).map f) (Qw g xs):=by
 refine .same ?_
 grind [Qw,List.map_map,List.map_congr_left]
def lenO (l:List α) (n:Nat):Option Unit:=if l.length=n then some () else none
theorem Q7 {l:List α} {n:Nat} (h:lenO l n=some ()):l.length=n:=by
 grind [lenO]
theorem Q0j:∀ {a b:List V} {x y:List D},toDs a=some x→toDs b=some y→toDs (a++b)=some (x++y)
 | [],b,x,y,h,k=>by grind [toDs]
 | v::a,b,x,y,h,k=>by
  simp only [toDs] at h;split at h<;>try (cases h;done)
  rename_i d ds hd hds;cases h;simp only [List.cons_append,toDs,hd,Q0j hds k]
theorem Qmq {e:α→List D} (h:∀ x,toDs (g x)=some (e x)):∀ xs:List α,toDs (Qw g xs)=some ((xs.map e).flatten)
 | []=>rfl
 | x::xs=>by rw [Qiu,List.map_cons,List.flatten_cons];exact Q0j (h x) (Qmq h xs)
theorem Qsm {e:α→List D} {sz:Nat} (h:∀ x,(e x).length=sz):∀ xs:List α,Ql5 sz xs.length ((xs.map e).flatten)=xs.map e
 | []=>rfl
 | x::xs=>by
  simp only [List.length_cons,Ql5,List.map_cons,List.flatten_cons];have h1:(e x++(xs.map e).flatten).take sz=e x:=by rw [← h x];simp
  have h2:(e x++(xs.map e).flatten).drop sz=(xs.map e).flatten:=by rw [← h x];simp
  rw [h1,h2,Qsm h xs]
theorem Qwa {e:α→List D} {sz:Nat} (h:∀ x,(e x).length=sz):∀ xs:List α,((xs.map e).flatten).length=xs.length*sz
 | []=>by simp
 | x::xs=>by simp only [List.map_cons,List.flatten_cons,List.length_append,h,Qwa h xs,List.length_cons,Nat.add_mul];omega
theorem fSlA {n0 t n:Nat} {e:α→List D} {xs:List α} (h:∀ x,(e x).length=sz) (hn:xs.length=n):WkV (frzV (n0+t) ((xs.map e).flatten) (.sl sz (n0+t) 0 n n)) (.d (.lst sz (xs.map e))):=by
 subst hn;have h1:=Qwa h xs
 simp_all [List.drop_zero,List.take_of_length_le,frzV,if_true,if_pos,Nat.le_refl,Qsm,Qbat]
end Go.Abs
end
section
namespace Go.Abs
open Go
def Qrp:D→Bool
 | .lst _ l=>l.isEmpty
 | .mp ..=>false
 | _=>true
def Qn7 (l:List (List D)):Bool:=l.all fun x=>x.all Qrp
def Qgm:V→Bool
 | .d x=>Qrp x
 | .own _ l=>Qn7 l
 | .ownT _ l=>Qn7 l
 | .cref cs=>cs.isEmpty
 | .agg cs=>go cs
 | .tup vs=>go vs
 | .clo _ vs=>go vs
 | _=>true
where go:List V→Bool
 | []=>true
 | v::vs=>Qgm v&&go vs
theorem Q29:∀ vs:List V,Qgm.go vs=true↔∀ v∈vs,Qgm v=true
 | []=>by simp [Qgm.go]
 | v::vs=>by simp [Qgm.go,Q29 vs]
def Q0k:List (V×V×Nat)→Prop
 | []=>True
 | x::r=>Qgm x.1=true∧Qgm x.2.1=true∧Q0k r
theorem Q3a {imm imm' : Nat→Nat→Prop} {w:World} {x:D} {u:Value} (hp:Qrp x=true) (h:RD imm w x u):RD imm' w x u:=by
 cases x with
 | int k n=>simpa [RD] using h
 | bool b=>simpa [RD] using h
 | str s=>simpa [RD] using h
 | lst sz l =>
  simp_all [Qrp,List.isEmpty_iff,RD,trivial]
 | mp es c=>cases hp
theorem Q4p {imm imm' : Nat→Nat→Prop} {w:World} {b:Nat} (hi:∀ o,imm b o→imm' b o):∀ {xs:List D} {o:Nat},xs.all Qrp=true→RDc imm w b xs o→RDc imm' w b xs o
 | [],_,_,_=>by simp [RDc]
 | x::xs,o,hp,h=>by
  simp only [List.all_cons,Bool.and_eq_true] at hp;simp only [RDc] at h ⊢;obtain ⟨h1,⟨u,h2,h3⟩,h4⟩:=h;exact ⟨hi _ h1,⟨u,h2,Q3a hp.1 h3⟩,Q4p hi hp.2 h4⟩
theorem Qw9 {imm imm' : Nat→Nat→Prop} {w:World} {sz b:Nat} (hi:∀ o,imm b o→imm' b o):∀ {l:List (List D)} {o:Nat},Qn7 l=true→RDL imm w sz b l o→RDL imm' w sz b l o
 | [],_,_,_=>by simp [RDL]
 | x::l,o,hp,h=>by
  simp only [Qn7,List.all_cons,Bool.and_eq_true] at hp;simp only [RDL] at h ⊢;exact ⟨h.1,Q4p hi hp.1 h.2.1,Qw9 hi (by simpa [Qn7] using hp.2) h.2.2⟩
theorem Q7m {imm:Nat→Nat→Prop} {w:World} {sz b:Nat}:∀ {l:List (List D)} {o:Nat},RDL imm w sz b l o→l.flatten.length=l.length*sz∧∀ (j:Nat) y,l.flatten[j]? = some y→∃ u,w.cell? ⟨b,o+j,none⟩=some u∧RD imm w y u
 | [],o,_=>by simp
 | x::l,o,h=>by
  simp only [RDL] at h;obtain ⟨h1,h2,h3⟩:=h;obtain ⟨h4,h5⟩:=Q7m h3;refine ⟨by simp [h1,h4,Nat.add_mul];omega,fun j y hj=>?_⟩;simp only [List.flatten_cons] at hj;by_cases hlt:j<x.length
  ·rw [List.getElem?_append_left hlt] at hj;obtain ⟨_,u,h6,h7⟩:=Qt4 h2 j y hj;exact ⟨u,h6,h7⟩
  ·rw [List.getElem?_append_right (by omega)] at hj;obtain ⟨u,h6,h7⟩:=h5 _ y hj;exact ⟨u,by rw [show o+j=o+sz+(j-x.length) from by omega];exact h6,h7⟩
def G.th (g:G) (b κ:Nat) [DecidablePred fun b'=>b'=b]:G:=⟨fun k=>if k=κ then b else g.box k,fun b' o=>g.imm b' o∧b' ≠ b,fun b'=>if b'=b then .box κ else g.own b'⟩
section
variable {g:G} {w:World} {b κ:Nat} {keep:Owner→Prop} (hB:¬ keep (g.own b)) (hs:∀ ℓ i,keep ℓ→keep (ℓ.sub i)) (he:keep .ext)
include hB hs he
mutual
theorem Q8p [DecidablePred fun b'=>b'=b]:∀ (v:V) (ℓ:Owner) (u:Value),Qgm v=true→v.on (· ≠ κ)→keep ℓ→RV g w v ℓ u→RV (g.th b κ) w v ℓ u
 | .und,_,_,_,_,_,_=>by simp [RV]
 | .d x,_,_,hp,_,_,h=>by
  simp only [RV,Qgm] at hp h ⊢;exact Q3a hp h
 | .agg cs,ℓ,u,hp,ho,hl,h=>by
  simp only [RV,Qgm] at hp h ⊢;obtain ⟨vs,rfl,h,h1⟩:=h;exact ⟨vs,rfl,RVs_th cs ℓ 0 vs hp ho hl h,h1⟩
 | .tup cs,ℓ,u,hp,ho,hl,h=>by
  simp only [RV,Qgm] at hp h ⊢;obtain ⟨vs,rfl,h⟩:=h;exact ⟨vs,rfl,RVs_th cs ℓ 0 vs hp ho hl h⟩
 | .own sz l,ℓ,u,hp,ho,hl,h=>by
  simp only [RV,Qgm] at hp h ⊢;rcases h with h|⟨b',cap,vals,e,h1,h2,h3,h4,h5,h6,h7,h8⟩
  ·exact .inl h
  ·have hne:b' ≠ b:=by rintro rfl;rw [h2] at hB;exact hB hl
   refine .inr ⟨b',cap,vals,e,h1,by simp [G.th,hne,h2],h3,h4,h5,h6,fun o=>?_,Qw9 (fun o ho=>⟨ho,hne⟩) hp h8⟩;rw [← h7 o];simp [G.th,hne]
 | .ownT sz l,ℓ,u,hp,ho,hl,h=>by
  simp only [RV,Qgm] at hp h ⊢;rcases h with h|⟨b',o0,cap,vals,e,h1,h2,h3,h4,h5,h6,h7,h8⟩
  ·exact .inl h
  ·have hne:b' ≠ b:=by rintro rfl;rw [h2] at hB;exact hB hl
   refine .inr ⟨b',o0,cap,vals,e,h1,by simp [G.th,hne,h2],h3,h4,h5,h6,fun o=>?_,Qw9 (fun o ho=>⟨ho,hne⟩) hp h8⟩;rw [← h7 o];simp [G.th,hne]
 | .ptr k' o,ℓ,u,_,ho,hl,h=>by
  have:k' ≠ κ:=ho;simpa [RV,G.th,this] using h
 | .nilp,_,_,_,_,_,h=>by simpa [RV] using h
 | .f x,_,u,_,_,_,h=>by
  simp only [RV] at h ⊢;refine Qf9 (Q6w (g:=g) (g':=g.th b κ) fun b' o h1 h2=>?_) x u h;have hne:b' ≠ b:=by rintro rfl;rw [h2] at hB;exact hB he
  exact ⟨⟨h1,hne⟩,by simp [G.th,hne,h2]⟩
 | .nils _,_,_,_,_,_,h=>by simpa [RV] using h
 | .cref cs,ℓ,u,hp,_,hl,h=>by
  simp only [Qgm,List.isEmpty_iff] at hp;subst hp;simp only [RV] at h ⊢;obtain ⟨b',o,rfl,_⟩:=h;exact ⟨b',o,rfl,by simp [RDc]⟩
 | .sl sz k' o n c,ℓ,u,_,ho,hl,h=>by
  have:k' ≠ κ:=ho;simpa [RV,G.th,this] using h
 | .clo f cs,ℓ,u,hp,ho,hl,h=>by
  simp only [RV,Qgm] at hp h ⊢;obtain ⟨vs,rfl,h⟩:=h;exact ⟨vs,rfl,RVs_th cs .ext 0 vs hp ho he h⟩
 | .mp k',ℓ,u,_,ho,hl,h=>by
  have:k' ≠ κ:=ho;simpa [RV,G.th,this] using h
theorem RVs_th [DecidablePred fun b'=>b'=b]:∀ (cs:List V) (ℓ:Owner) (i:Nat) (us:List Value),Qgm.go cs=true→V.ons (· ≠ κ) cs→keep ℓ→RVs g w cs ℓ i us→RVs (g.th b κ) w cs ℓ i us
 | [],_,_,_,_,_,_,h=>by simpa [RVs] using h
 | c::cs,ℓ,i,us,hp,ho,hl,h=>by
  simp only [Qgm.go,Bool.and_eq_true] at hp;simp only [RVs] at h ⊢;obtain ⟨u,us',rfl,h1,h2⟩:=h;exact ⟨u,us',rfl,Q8p c (ℓ.sub i) u hp.1 ho.1 (hs _ _ hl) h1,RVs_th cs ℓ (i+1) us' hp.2 ho.2 hl h2⟩
end
end
theorem Qbe1 {g:G} {w:World} {b κ:Nat} {keep:Owner→Prop} [DecidablePred fun b'=>b'=b] (hB:¬ keep (g.own b)) (hs:∀ ℓ i,keep ℓ→keep (ℓ.sub i)) (he:keep .ext) {k:Nat} (hk:∀ i,keep (.cell k i)):∀ {es:List (V×V×Nat)} {ents:List MapEntry},Q0k es→RM g w k es ents→RM (g.th b κ) w k es ents
 | [],_,_,hr=>hr
 | x::r,_,hp,hr=>by
  simp only [RM] at hr ⊢;obtain ⟨e,t,rfl,⟨a1,a2⟩,⟨b1,b2⟩,h3,h4⟩:=hr;exact ⟨e,t,rfl,⟨a1,Q8p hB hs he _ _ _ hp.1 (Qt2 a1) he a2⟩,⟨b1,Q8p hB hs he _ _ _ hp.2.1 (Qbgx b1) (hk _) b2⟩,h3,Qbe1 hB hs he hk hp.2.2 h4⟩
variable {Γ:Env} {σ:St}
def Qdy (l:List (List D)) (room:Nat):List V:=l.flatten.map V.d++List.replicate room .und
structure Lone (Γ:Env):Prop where
 prot:∀ b,Prot (Γ.g0.own b)
 imm:∀ b o,Γ.g0.imm b o→b<Γ.w0.heap.size
theorem Lone.old {Γ:Env} (h:Lone Γ) {g:G} {w:World} (hf:Fr Γ.n0 Γ.g0 Γ.w0 g w) {b:Nat} (hb:¬ Prot (g.own b)):¬ b<Γ.w0.heap.size:=by
 intro hlt;obtain ⟨h1,_,_⟩:=hf.old b hlt (h.prot b);rw [h1] at hb;exact hb (h.prot b)
open Classical in
theorem Q4q (hG:Lone Γ) {a:Act} {w:World} {g:G} (hs:SR Γ.n0 Γ.nt Γ.g0 Γ.w0 σ a w g) {κ sz:Nat} {l:List (List D)} {ℓ:Owner} {u:Value} (keep:Owner→Prop) (hkeep:¬ keep ℓ) (hsub:∀ o i,keep o→keep (o.sub i)) (he:keep .ext) (hℓ:¬ Prot ℓ)
  (hown:RV g w (.own sz l) ℓ u) (hl:¬ ∃ ad,u = .slice ad 0 0) (hpl:Qn7 l=true) (hκ:Γ.n0≤κ) (hκ2:κ<σ.nb) (hκM:σ.M κ=none) :
  ∃ c b,l.length≤c∧c≤maxLen∧u = .slice (some ⟨b,0,none⟩) l.length c∧g.own b=ℓ∧(g.th b κ).box κ=b∧BR (g.th b κ) w κ (.cells (Qdy l ((c-l.length)*sz)))∧Fr Γ.n0 Γ.g0 Γ.w0 (g.th b κ) w ∧
   (∀ b' o,(g.th b κ).imm b' o→b'<w.heap.size∧∀ k,(g.th b κ).own b' ≠ .box k)∧∀ k,There σ.M k→k≠κ:=by
 simp only [RV] at hown;rcases hown with ⟨h,_⟩|⟨b,cap,vals,e,rfl,hb,hh,h4,h5,⟨h6,h6'⟩,h7,h8⟩
 ·exact absurd h hl
 have hnp:¬ Prot (g.own b):=by rw [hb];exact hℓ
 have hnew:=hG.old hs.fr hnp;have hk' : ¬ keep (g.own b):=by rw [hb];exact hkeep
 refine ⟨cap,b,h4,h5,rfl,hb,by simp [G.th],⟨vals.toList,e,by simpa [G.th] using hh,?_,h6'⟩,?_,?_,?_⟩
 ·have h8' : RDL (g.th b κ).imm w sz b l 0→False∨True:=fun _=>.inr trivial;obtain ⟨hfl,hfg⟩:=Q7m h8;have hlen:vals.toList.length=(Qdy l ((cap-l.length)*sz)).length:=by
   simp only [Qdy,List.length_append,List.length_map,List.length_replicate,hfl,Array.length_toList,h6];rw [← Nat.add_mul];congr 1;omega
  refine (Qdb _ _ _ _).2 ⟨hlen,fun j c x hc hx=>?_⟩;simp only [Qdy] at hc;by_cases hj:j<l.flatten.length
  ·rw [List.getElem?_append_left (by rw [List.length_map];exact hj),List.getElem?_map] at hc;obtain ⟨y,hy,rfl⟩:=Option.map_eq_some_iff.1 hc;obtain ⟨x',hx1,hx2⟩:=hfg j y hy;have hcell:w.cell? ⟨b,0+j,none⟩=vals[j]?:=by simp [World.cell?,hh]
   rw [hcell] at hx1;have:x=x':=by
    have h9:vals[j]? = some x:=by simpa using hx
    rw [h9] at hx1;exact Option.some.inj hx1
   subst this;have hmem:y∈l.flatten:=List.mem_of_getElem? hy;obtain ⟨r,hr1,hr2⟩:=List.mem_flatten.1 hmem;have hp:Qrp y=true:=List.all_eq_true.1 (List.all_eq_true.1 hpl r hr1) y hr2;simp only [RV];exact Q3a hp hx2
  ·rw [List.getElem?_append_right (by rw [List.length_map];omega)] at hc;have:c = .und:=by
    have:=List.mem_of_getElem? hc;exact (List.mem_replicate.1 this).2
   subst this;simp [RV]
 ·have hf:=hs.fr;refine ⟨hf.os,hf.tape,hf.output,hf.size,⟨fun b' o hi=>⟨hf.imm.mono b' o hi,?_⟩,hf.imm.look⟩,fun k hk=>?_,fun b' hb' ho=>?_⟩
  ·rintro rfl;exact hnew (hG.imm _ _ hi)
  ·have:k≠κ:=by omega
   simp only [G.th,this,if_false];exact hf.box k hk
  ·have hne:b' ≠ b:=by rintro rfl;exact hnew hb'
   obtain ⟨k1,k2,k3⟩:=hf.old b' hb' ho;exact ⟨by simp [G.th,hne,k1],k2,fun o=>by simp [G.th,hne,k3]⟩
 ·rintro b' o ⟨hi,hne⟩;obtain ⟨k1,k2⟩:=hs.mem.imm b' o hi;exact ⟨k1,fun k=>by simp only [G.th,hne,if_false];exact k2 k⟩
 ·rintro k hk rfl;simp [There,hκM] at hk
theorem Qbgb {M:Mem} {κ:Nat} (hκ:∀ k,There M k→k≠κ) {v:V} (h:v.on fun k=>(M k).isSome=true):v.on (· ≠ κ):=Qgj (fun k hk=>hκ k hk) v h
theorem Q7n {g:G} {w:World} {sz:Nat} {l:List (List D)} {ℓ:Owner} {u:Value} (h:RV g w (.own sz l) ℓ u) (hu:∃ ad,u = .slice ad 0 0):l=[]:=by
 obtain ⟨ad,rfl⟩:=hu
 grind [RV,List.eq_nil_of_length_eq_zero]
open Classical in
theorem Tr.thawS {cc:CC} {Q:Ex→St→Prop} (hG:Lone Γ) {t κ sz:Nat} {l:List (List D)} (hl:l≠[]) (hpl:Qn7 l=true) (hs0:σ.s t = .own sz l) (hκ:Γ.n0≤κ) (hκ2:κ<σ.nb) (hκM:σ.M κ=none)
  (hps:∀ t',t' ≠ t→Qgm (σ.s t')=true) (hpm:∀ k cs,σ.M k=some (.cells cs)→Qgm.go cs=true) (hpn:∀ k es c,σ.M k=some (.mp es c)→Q0k es)
  (h:∀ c,l.length≤c→c≤maxLen→Tr Γ cc ⟨σ.s.put t (.sl sz κ 0 l.length c),σ.M.put κ (.cells (Qdy l ((c-l.length)*sz))),σ.nb⟩ Q):Tr Γ cc σ Q:=by
 intro code hcode a w g hs;have hslot:=hs.slots t;rw [hs0] at hslot;have hsub:∀ (o:Owner) i,o ≠ .slot t []→o.sub i ≠ .slot t []:=by intro o i ho;cases o<;>simp_all [Owner.sub]
 obtain ⟨c,b,h1,h2,hu,hb,hbox,hbr,hfr,himm,hne⟩:=Q4q hG hs (fun o=>o ≠ .slot t []) (by simp) hsub (by simp) (by simp [Prot]) hslot (fun h=>hl (Q7n hslot h)) hpl hκ hκ2 hκM;have hk' : ¬ (fun o=>o≠Owner.slot t []) (g.own b):=by simp [hb]
 refine h c h1 h2 code hcode a w (g.th b κ) ⟨⟨fun k bx hk=>?_,himm⟩,fun t'=>?_,hs.size,hs.defers,fun t'=>?_,fun k cs hk=>?_,hs.top,hfr⟩
 ·replace hk:(σ.M.put κ (.cells (Qdy l ((c-l.length)*sz)))) k=some bx:=hk;by_cases hkk:k=κ
  ·subst hkk;rw [Qht] at hk;cases hk;exact ⟨hκ2,by rw [hbox];simp [G.th],hbr⟩
  ·rw [Qcu _ _ hkk] at hk;obtain ⟨k1,k2,k3⟩:=hs.mem.box k bx hk;have hbx:(g.th b κ).box k=g.box k:=by simp [G.th,hkk]
   have hne' : g.box k≠b:=by
    rintro rfl;rw [k2] at hb;cases hb
   refine ⟨k1,by rw [hbx];simp [G.th,hne',k2],?_⟩;cases bx with
   | mp es c =>
    obtain ⟨ents,q1,q2⟩:=k3;exact ⟨ents,by rw [hbx];exact q1,Qbe1 hk' hsub (by simp) (fun _=>by simp) (hpn k es c hk) q2⟩
   | cells cs =>
    obtain ⟨vals,e,q1,q2,q3⟩:=k3;refine ⟨vals,e,by rw [hbx];exact q1,RVs_th hk' hsub (by simp) cs (.box k) 0 vals (hpm k cs hk) ?_ (by simp) q2,q3⟩;exact ons_mono (fun j hj=>hne j hj) _ (hs.onM k cs hk).1
 ·simp only [Sl.put];split
  ·rename_i he;subst he;simp only [RV];rw [hbox];exact hu
  ·rename_i hne2;refine Q8p hk' hsub (by simp) _ _ _ (hps t' hne2) (Qbgb hne (hs.onS t')) ?_ (hs.slots t');simp;exact hne2
 ·simp only [Sl.put];split
  ·show There _ κ;exact There.self
  ·exact Qgj (fun k hk=>There.put hk) _ (hs.onS t')
 ·replace hk:(σ.M.put κ (.cells (Qdy l ((c-l.length)*sz)))) k=some (.cells cs):=hk;by_cases hkk:k=κ
  ·subst hkk;rw [Qht] at hk;cases hk;have hno:∀ p:Nat→Prop,V.ons p (Qdy l ((c-l.length)*sz)):=by
    intro p;rw [Qiw];intro v hv;simp only [Qdy,List.mem_append,List.mem_map,List.mem_replicate] at hv;rcases hv with ⟨x,_,rfl⟩|⟨_,rfl⟩<;>trivial
   exact ⟨hno _,fun _=>hno _⟩
  ·rw [Qcu _ _ hkk] at hk;obtain ⟨q1,q2⟩:=hs.onM k cs hk;exact ⟨ons_mono (fun j hj=>There.put hj) _ q1,q2⟩
open Classical in
theorem Tr.thawCE {cc:CC} {Q:Ex→St→Prop} (hG:Lone Γ) {k0 i κ sz:Nat} {l:List (List D)} {cs0:List V} (hl:l=[]→Tr Γ cc ⟨σ.s,σ.M.put k0 (.cells (cs0.set i (.nils sz))),σ.nb⟩ Q) (hpl:Qn7 l=true) (hk0:Γ.n0≤k0) (hM0:σ.M k0=some (.cells cs0)) (hi:cs0[i]? = some (.own sz l)) (hκ:Γ.n0≤κ) (hκ2:κ<σ.nb) (hκM:σ.M κ=none)
  (hps:∀ t',Qgm (σ.s t')=true) (hpm:∀ k cs,σ.M k=some (.cells cs)→Qgm.go (if k=k0 then cs.set i .und else cs)=true) (hpn:∀ k es c,σ.M k=some (.mp es c)→Q0k es)
  (h:∀ c,l.length≤c→c≤maxLen→Tr Γ cc ⟨σ.s,(σ.M.put k0 (.cells (cs0.set i (.sl sz κ 0 l.length c)))).put κ (.cells (Qdy l ((c-l.length)*sz))),σ.nb⟩ Q):Tr Γ cc σ Q:=by
 intro code hcode a w g hs;obtain ⟨u0,hcell,hrv0,_⟩:=Qu6 hs.mem hM0 hi;have hsub:∀ (o:Owner) j,(o ≠ .cell k0 i∧o ≠ .box k0)→(o.sub j ≠ .cell k0 i∧o.sub j ≠ .box k0):=by
  rintro o j ⟨h1,h2⟩;cases o<;>simp_all [Owner.sub]
 have hnk:k0≠κ:=by rintro rfl;rw [hM0] at hκM;cases hκM
 by_cases hnn:∃ ad,u0 = .slice ad 0 0
 ·refine hl (Q7n hrv0 hnn) code hcode a w g ⟨⟨fun k bx hk=>?_,hs.mem.imm⟩,hs.slots,hs.size,hs.defers,fun t=>Qgj (fun _ hj=>There.put hj) _ (hs.onS t),fun k cs hk=>?_,hs.top,hs.fr⟩
  ·replace hk:(σ.M.put k0 (.cells (cs0.set i (.nils sz)))) k=some bx:=hk;by_cases hkz:k=k0
   ·subst hkz;rw [Qht] at hk;cases hk;obtain ⟨k1,k2,vals,e,q1,q2,q3⟩:=hs.mem.box k _ hM0;obtain ⟨r1,r2⟩:=(Qdb _ _ _ _).1 q2;refine ⟨k1,k2,vals,e,q1,(Qdb _ _ _ _).2 ⟨by rw [List.length_set];exact r1,fun j d x hd hx=>?_⟩,q3⟩;by_cases hj:j=i
    ·subst hj;rw [List.getElem?_set_self (List.getElem?_eq_some_iff.1 hi).1] at hd;cases hd;have hcx:w.cell? ⟨g.box k,j,none⟩=some x:=by simp [World.cell?,q1];simpa using hx
     rw [hcell] at hcx;cases hcx;simp only [RV];exact hnn
    ·rw [List.getElem?_set_ne (Ne.symm hj)] at hd;exact r2 j d x hd hx
   ·rw [Qcu _ _ hkz] at hk;exact hs.mem.box k bx hk
  ·replace hk:(σ.M.put k0 (.cells (cs0.set i (.nils sz)))) k=some (.cells cs):=hk;by_cases hkz:k=k0
   ·subst hkz;rw [Qht] at hk;cases hk;obtain ⟨q1,q2⟩:=hs.onM k cs0 hM0;exact ⟨Qx2 i (ons_mono (fun j hj=>There.put hj) _ q1) trivial,fun hlt=>absurd hlt (by omega)⟩
   ·rw [Qcu _ _ hkz] at hk;obtain ⟨q1,q2⟩:=hs.onM k cs hk;exact ⟨ons_mono (fun j hj=>There.put hj) _ q1,q2⟩
 obtain ⟨c,b,h1,h2,hu,hb,hbox,hbr,hfr,himm,hne⟩:=Q4q hG hs (fun o=>o ≠ .cell k0 i∧o ≠ .box k0) (by simp) hsub (by simp) (by simp [Prot]) hrv0 hnn hpl hκ hκ2 hκM;have hk' : ¬ (fun o=>o≠Owner.cell k0 i∧o ≠ .box k0) (g.own b):=by simp [hb]
 have hther:∀ j,There σ.M j→There ((σ.M.put k0 (.cells (cs0.set i (.sl sz κ 0 l.length c)))).put κ (.cells (Qdy l ((c-l.length)*sz)))) j:=fun j hj=>There.put (There.put hj);refine h c h1 h2 code hcode a w (g.th b κ) ⟨⟨fun k bx hk=>?_,himm⟩,fun t'=>?_,hs.size,hs.defers,fun t'=>?_,fun k cs hk=>?_,hs.top,hfr⟩
 ·replace hk:((σ.M.put k0 (.cells (cs0.set i (.sl sz κ 0 l.length c)))).put κ (.cells (Qdy l ((c-l.length)*sz)))) k=some bx:=hk;by_cases hkk:k=κ
  ·subst hkk;rw [Qht] at hk;cases hk;exact ⟨hκ2,by rw [hbox];simp [G.th],hbr⟩
  ·rw [Qcu _ _ hkk] at hk;have hbx:(g.th b κ).box k=g.box k:=by simp [G.th,hkk]
   by_cases hkz:k=k0
   ·subst hkz;rw [Qht] at hk;cases hk;obtain ⟨k1,k2,vals,e,q1,q2,q3⟩:=hs.mem.box k _ hM0;have hne' : g.box k≠b:=by
     rintro rfl;rw [k2] at hb;cases hb
    refine ⟨k1,by rw [hbx];simp [G.th,hne',k2],vals,e,by rw [hbx];exact q1,(Qdb _ _ _ _).2 ⟨?_,fun j d x hd hx=>?_⟩,q3⟩
    ·rw [List.length_set];exact Qpe q2
    ·obtain ⟨r1,r2⟩:=(Qdb _ _ _ _).1 q2;by_cases hj:j=i
     ·subst hj;have hlt:=(List.getElem?_eq_some_iff.1 hi).1;rw [List.getElem?_set_self hlt] at hd;cases hd;have hcx:w.cell? ⟨g.box k,j,none⟩=some x:=by
       have h9:vals.toArray[j]? = some x:=by simpa using hx
       simp [World.cell?,q1];simpa using hx
      rw [hcell] at hcx;cases hcx;simp only [RV];rw [hbox];exact hu
     ·rw [List.getElem?_set_ne (Ne.symm hj)] at hd;have hpl2:=hpm k cs0 hM0;rw [if_pos rfl,Q29] at hpl2;have hmem:d∈cs0.set i .und:=by
       have:(cs0.set i .und)[j]? = some d:=by rw [List.getElem?_set_ne (Ne.symm hj)];exact hd
       exact List.mem_of_getElem? this
      refine Q8p hk' hsub (by simp) d _ x (hpl2 d hmem) ?_ ?_ (r2 j d x hd hx)
      ·exact Qgj (fun j hj=>hne j hj) _ (Qfe (hs.onM k cs0 hM0).1 hd)
      ·simp [Owner.sub];omega
   ·rw [Qcu _ _ hkz] at hk;obtain ⟨k1,k2,k3⟩:=hs.mem.box k bx hk;have hne' : g.box k≠b:=by
     rintro rfl;rw [k2] at hb;cases hb
    refine ⟨k1,by rw [hbx];simp [G.th,hne',k2],?_⟩;cases bx with
    | mp es c =>
     obtain ⟨ents,q1,q2⟩:=k3;exact ⟨ents,by rw [hbx];exact q1,Qbe1 hk' hsub (by simp) (fun _=>⟨by intro h;injection h with h1;exact hkz h1,by simp⟩) (hpn k es c hk) q2⟩
    | cells cs =>
     obtain ⟨vals,e,q1,q2,q3⟩:=k3;have hp:=hpm k cs hk;rw [if_neg hkz] at hp;refine ⟨vals,e,by rw [hbx];exact q1,RVs_th hk' hsub (by simp) cs (.box k) 0 vals hp ?_ ⟨by simp,by simpa using hkz⟩ q2,q3⟩;exact ons_mono (fun j hj=>hne j hj) _ (hs.onM k cs hk).1
 ·exact Q8p hk' hsub (by simp) _ _ _ (hps t') (Qbgb hne (hs.onS t')) (by simp) (hs.slots t')
 ·exact Qgj hther _ (hs.onS t')
 ·replace hk:((σ.M.put k0 (.cells (cs0.set i (.sl sz κ 0 l.length c)))).put κ (.cells (Qdy l ((c-l.length)*sz)))) k=some (.cells cs):=hk;by_cases hkk:k=κ
  ·subst hkk;rw [Qht] at hk;cases hk;have hno:∀ p:Nat→Prop,V.ons p (Qdy l ((c-l.length)*sz)):=by
    intro p;rw [Qiw];intro v hv;simp only [Qdy,List.mem_append,List.mem_map,List.mem_replicate] at hv;rcases hv with ⟨x,_,rfl⟩|⟨_,rfl⟩<;>trivial
   exact ⟨hno _,fun _=>hno _⟩
  ·rw [Qcu _ _ hkk] at hk;by_cases hkz:k=k0
   ·subst hkz;rw [Qht] at hk;cases hk;obtain ⟨q1,q2⟩:=hs.onM k cs0 hM0;refine ⟨Qx2 i (ons_mono hther _ q1) ?_,fun hlt=>absurd hlt (by omega)⟩;show There _ κ;exact There.self
   ·rw [Qcu _ _ hkz] at hk;obtain ⟨q1,q2⟩:=hs.onM k cs hk;exact ⟨ons_mono hther _ q1,q2⟩
end Go.Abs
end
section
namespace Go.Abs
open Go Go.Sort
def D.val:D→Value
 | .int k n=>.int k n
 | .bool b=>.bool b
 | .str s=>.string s
 | .lst _ _=>.slice none 0 0
 | .mp ..=>.map none
def D.scalar:D→Bool
 | .lst _ _=>false
 | .mp ..=>false
 | _=>true
theorem Qbdy {imm:Nat→Nat→Prop} {w:World} {x:D} {u:Value} (hs:x.scalar=true):RD imm w x u↔u=x.val:=by
 cases x<;>simp [RD,D.val,D.scalar] at hs ⊢
theorem Qbe2 {x:D} (hs:x.scalar=true):x.val.oneCell'=true:=by cases x<;>simp [D.scalar,D.val] at hs ⊢ <;> rfl
def rowV {α:Type} (e:α→List D) (xs:List α):List Value:=(xs.map e).flatten.map D.val
theorem Q6c (w:World) (n blk:Nat) (F:Array Value) (os:Array Obj) {c:Array Value} {e:TypeId} (h:w.heap[blk]? = some (.cells c e (0,0))):(grow (putRow id (Sort.ahead w n) blk 0 F) os).heap[blk]? = some (.cells (putCells id 0 F c) e (0,0)):=by
 have hlt:blk<w.heap.size:=(Array.getElem?_eq_some_iff.1 h).1;have hsz:(putRow id (Sort.ahead w n) blk 0 F).heap.size=w.heap.size:=by simp_all
 rw [heap_grow_old _ _ (by rw [hsz];exact hlt)];show (w.heap.modify blk (onCells (putCells id 0 F)))[blk]? = _;rw [Array.getElem?_modify,if_pos rfl,h]
 rfl
theorem Qx7 (w:World) (n blk:Nat) (F:Array Value) (os:Array Obj) {b:Nat} (hb:b≠blk) (hlt:b<w.heap.size):(grow (putRow id (Sort.ahead w n) blk 0 F) os).heap[b]? = w.heap[b]?:=by
 have hsz:(putRow id (Sort.ahead w n) blk 0 F).heap.size=w.heap.size:=by simp_all
 rw [heap_grow_old _ _ (by rw [hsz];exact hlt)];show (w.heap.modify blk (onCells (putCells id 0 F)))[b]? = _
 grind
def Qbgc {α:Type} (P:Program) (f:FuncId) (e:α→List D) (ex:Array Value) (srt:List α→List α):Prop :=
 ∀ (blk cap:Nat) (xs:List α) (w:World),(∀ j,j<(rowV e xs).length→w.cell? ⟨blk,j,none⟩=(rowV e xs)[j]? ∧ w.frozen? ⟨blk,j,none⟩=false)→blk<w.heap.size→xs.length<4611686018427387904 →
  Calls P f (#[.slice (some ⟨blk,0,none⟩) xs.length cap]++ex) w fun e' w'=>e' = .returned (.tuple #[])∧∃ n os,w'=grow (putRow id (Sort.ahead w n) blk 0 (rowV e (srt xs)).toArray) os
theorem Q3b {α:Type} {e:α→List D} {sz:Nat} (hlen:∀ x,(e x).length=sz) (xs:List α):(rowV e xs).length=xs.length*sz:=by
 simp only [rowV,List.length_map]
 induction xs with
 | nil=>simp
 | cons x xs ih=>grind
theorem Q8q {α:Type} {P:Program} {f:FuncId} {e:α→List D} {sz:Nat} (hlen:∀ x,(e x).length=sz) (hsc:∀ x,(e x).all D.scalar=true) {srt:List α→List α} (hsl:∀ xs,(srt xs).length=xs.length)
  {ex:Array Value} {exV:List V} (hex:∀ g w us,RFs g w exV us→us=ex.toList) (hb:Qk9 P f=true) (hK:Qbgc P f e ex srt)
  (xs:List α) (c k0:Nat) (M:Mem) (nb:Nat) (hM:M k0=some (.cells (Qdy (xs.map e) ((c-xs.length)*sz)))) (hsz:xs.length<4611686018427387904) :
  ACalls P f (.sl sz k0 0 xs.length c::exV) M nb (.tup []) (M.put k0 (.cells (Qdy ((srt xs).map e) ((c-xs.length)*sz)))) nb:=by
 refine ⟨hb,Nat.le_refl _,fun w g us hm hMon hfresh hus hfl hons=>?_⟩;obtain ⟨u0,us',rfl,hu0,hus'⟩:=hus;have h0:=Q2r.1 hu0;subst h0;have h1:=hex _ _ _ hus';obtain ⟨hk0,hown,vals,et,hh,hrv,hone⟩:=hm.box k0 _ hM;have hlt:g.box k0<w.heap.size:=(Array.getElem?_eq_some_iff.1 hh).1;obtain ⟨hvl,hvr⟩:=(Qdb _ _ _ _).1 hrv;have hscf:∀ (l:List α),∀ y∈(l.map e).flatten,y.scalar=true:=by
  grind
 have hfl' : ∀ l:List α,(l.map e).flatten.length=l.length*sz:=fun l=>by have:=Q3b hlen l;rw [rowV,List.length_map] at this;exact this
 have hcell:∀ j,j<(rowV e xs).length→vals[j]? = (rowV e xs)[j]?:=by
  intro j hj;rw [Q3b hlen] at hj;have hjf:j<(xs.map e).flatten.length:=by rw [hfl'];exact hj
  have hjv:j<vals.length:=by
   grind [Qdy,List.length_append,List.length_map]
  have hc:(Qdy (xs.map e) ((c-xs.length)*sz))[j]? = some (.d (xs.map e).flatten[j]):=by
   grind [Qdy,List.getElem?_append_left,List.length_map,List.getElem?_eq_getElem]
  grind [List.getElem?_eq_getElem,RV,Qbdy,List.getElem_mem,rowV]
 have hcall:=hK (g.box k0) c xs w (fun j hj=>⟨by grind [Go.World.cell?],by simp [World.frozen?,hh]⟩) hlt hsz;have hus2:(Value.slice (some ⟨g.box k0,0,none⟩) xs.length c::us').toArray = #[.slice (some ⟨g.box k0,0,none⟩) xs.length c]++ex:=by
  grind
 rw [hus2];refine hcall.mono ?_;rintro e' w' ⟨rfl,n,os,rfl⟩;generalize hF:(rowV e (srt xs)).toArray=F;have hFs:F.size=xs.length*sz:=by grind [Q3b]
 have hblk:=Q6c w n (g.box k0) F os hh;have hoth:∀ b,b≠g.box k0→b<w.heap.size→(grow (putRow id (Sort.ahead w n) (g.box k0) 0 F) os).heap[b]? = w.heap[b]?:=fun b hb hlt=>Qx7 w n _ F os hb hlt;have hsize:w.heap.size≤(grow (putRow id (Sort.ahead w n) (g.box k0) 0 F) os).heap.size:=by
  grind
 generalize hw' : grow (putRow id (Sort.ahead w n) (g.box k0) 0 F) os=w' at hblk hoth hsize;have himm:Imm g.imm g.imm w w':=by
  refine ⟨fun _ _ h=>h,fun b o h=>?_⟩;obtain ⟨k1,k2⟩:=hm.imm b o h;have hne:b≠g.box k0:=by grind
  exact Qgi (hoth b hne k1)
 have hkept:Kept g w g w' (There M) (fun o=>o ≠ .box k0):=⟨himm,fun _ _=>rfl,fun b hb hl=>⟨rfl,hoth b (by grind) hl,fun _=>Iff.rfl⟩⟩;have hsub:∀ (o:Owner) i,o ≠ .box k0→o.sub i ≠ .box k0:=by intro o i _;cases o<;>simp [Owner.sub]
 have hnew:∀ p:Nat→Prop,V.ons p (Qdy ((srt xs).map e) ((c-xs.length)*sz)):=by
  intro p;rw [Qiw];intro v hv;simp only [Qdy,List.mem_append,List.mem_map,List.mem_replicate] at hv;rcases hv with ⟨x,_,rfl⟩|⟨_,rfl⟩<;>trivial
 refine ⟨_,g,rfl,⟨fun k b hk=>?_,fun b o h=>⟨Nat.lt_of_lt_of_le (hm.imm b o h).1 hsize,(hm.imm b o h).2⟩⟩,⟨[],rfl,rfl⟩,trivial,fun k cs hk=>?_,?_⟩
 ·by_cases hkk:k=k0
  ·subst hkk;rw [Qht] at hk;cases hk;refine ⟨hk0,hown,(putCells id 0 F vals.toArray).toList,et,by simpa using hblk,(Qdb _ _ _ _).2 ⟨?_,fun j cc x hc hx=>?_⟩,fun x hx=>?_⟩
   ·grind [Qdy,List.length_append,List.length_map,List.length_replicate,Go.Sort.putCells]
   ·have hx' : (putCells id 0 F vals.toArray)[j]? = some x:=by simpa using hx
    simp only [putCells,Array.getElem?_mapIdx,List.getElem?_toArray,Option.map_eq_some_iff] at hx';obtain ⟨y,hy,rfl⟩:=hx';simp only [Qdy] at hc;by_cases hj:j<((srt xs).map e).flatten.length
    ·rw [List.getElem?_append_left (by grind),List.getElem?_map,List.getElem?_eq_getElem hj,Option.map_some,Option.some.injEq] at hc;subst hc;rw [hfl',hsl] at hj;have hjF:j<F.size:=by rw [hFs];exact hj
     rw [if_pos ⟨Nat.zero_le _,by omega⟩];have hj2:j<((srt xs).map e).flatten.length:=by rw [hfl',hsl];exact hj
     simp only [RV];rw [Qbdy (hscf (srt xs) _ (List.getElem_mem hj2))];simp only [Nat.sub_zero,id]
     grind [rowV]
    grind [List.getElem?_append_right,List.length_map,List.mem_of_getElem?,RV]
   ·obtain ⟨j,hj⟩:=List.getElem?_of_mem hx;have hx' : (putCells id 0 F vals.toArray)[j]? = some x:=by simpa using hj
    simp only [putCells,Array.getElem?_mapIdx,List.getElem?_toArray,Option.map_eq_some_iff] at hx';obtain ⟨y,hy,rfl⟩:=hx'
    grind [id,rowV,Qbe2,List.getElem_mem,List.mem_of_getElem?]
  ·rw [Qcu _ _ hkk] at hk;obtain ⟨k1,k2,k3⟩:=hm.box k b hk;cases b with
   | mp es c =>
    obtain ⟨ents,q1,q2⟩:=k3;have hne:g.box k≠g.box k0:=by
     grind
    exact ⟨k1,k2,ents,(hoth _ hne (Array.getElem?_eq_some_iff.1 q1).1).trans q1,Qn6 (g:=g) (g':=g) hkept (fun _=>by simp) q2⟩
   | cells cs =>
    obtain ⟨vals2,e2,q1,q2,q3⟩:=k3;have hne:g.box k≠g.box k0:=by
     grind
    refine ⟨k1,k2,vals2,e2,(hoth _ hne (Array.getElem?_eq_some_iff.1 q1).1).trans q1,?_,q3⟩;exact RVs_mono hkept hsub (by simp) cs (.box k) 0 vals2 (by simpa using hkk) (hMon k cs hk) q2
 ·by_cases hkk:k=k0
  ·grind [Qht]
  ·rw [Qcu _ _ hkk] at hk;exact ons_mono (fun j hj=>There.put hj) _ (hMon k cs hk)
 ·refine ⟨by rw [← hw'];rfl,by rw [← hw'];rfl,by rw [← hw'];rfl,hsize,himm,fun _ _=>rfl,fun b hb ho=>⟨rfl,hoth b ?_ hb,fun _=>Iff.rfl⟩⟩;rintro rfl;rw [hown] at ho;exact ho
end Go.Abs
end
section
namespace Go.Abs
open Go
variable {Γ:Env} {σ:St} {α:Type}
section
variable {g:G} {w:World} (hx:∀ b,g.own b = .ext)
include hx
mutual
theorem Qbdz:∀ (v:V) (ℓ:Owner) (u:Value),RV g w v ℓ u→RV g w v.toF ℓ u
 | .d (.lst sz l),_,u,h=>by
  simp only [V.toF,RV] at h ⊢;exact Qbf4 (fun b o h1 h2=>⟨h1,hx b,h2⟩) _ u h
 | .d (.int ..),_,_,h=>by simpa [V.toF] using h
 | .d (.bool _),_,_,h=>by simpa [V.toF] using h
 | .d (.str _),_,_,h=>by simpa [V.toF] using h
 | .d (.mp ..),_,_,h=>by simpa [V.toF] using h
 | .agg cs,ℓ,u,h=>by
  simp only [V.toF,RV] at h ⊢;obtain ⟨vs,rfl,h,h1⟩:=h;exact ⟨vs,rfl,RVs_toF cs ℓ 0 vs h,h1⟩
 | .und,_,_,h=>h
 | .tup _,_,_,h=>h
 | .own ..,_,_,h=>h
 | .ownT ..,_,_,h=>h
 | .ptr ..,_,_,h=>h
 | .nilp,_,_,h=>h
 | .f _,_,_,h=>h
 | .nils _,_,_,h=>h
 | .cref _,_,_,h=>h
 | .sl ..,_,_,h=>h
 | .clo ..,_,_,h=>h
 | .mp _,_,_,h=>h
theorem RVs_toF:∀ (cs:List V) (ℓ:Owner) (i:Nat) (us:List Value),RVs g w cs ℓ i us→RVs g w (V.toFs cs) ℓ i us
 | [],_,_,_,h=>h
 | c::cs,ℓ,i,us,h=>by
  simp only [RVs,V.toFs] at h ⊢;obtain ⟨u,us',rfl,h1,h2⟩:=h;exact ⟨u,us',rfl,Qbdz c _ u h1,RVs_toF cs ℓ (i+1) us' h2⟩
end
theorem Qbay:∀ {cs:List V} {us:List Value},RFs g w cs us→RFs g w (V.toFs cs) us
 | [],_,h=>h
 | c::cs,_,⟨u,us',e,r,h⟩=>⟨u,us',e,fun ℓ=>Qbdz hx c ℓ u (r ℓ),Qbay h⟩
end
theorem Qbgd {P:Program} {f:FuncId} {cf:CFn} (hcf:Qv P f=some cf) {args args' : List V} {r:V} (hargs:Nat.beq args'.length cf.np=true) (hr0:r.lt 0=true) (hr1:Qw7 r=true) (ha:V.toFs args=args') (hfl:V.dems args'=args') (hlt:V.lt.go 0 args'=true)
  (hrun:∀ (Γ:Env) (M:Mem),Γ.P=P→Γ.nt=cf.nt→Lone Γ→M=(fun _=>none)→(∀ k,Γ.n0≤k→M k=none)→Tr Γ cf.body ⟨Qn5 args',Ql Γ.n0 [] M,Γ.n0+cf.nt⟩ (FinP cf.res r Γ.n0 M)):∀ M nb,ACalls P f args M nb r M nb:=by
 intro M nb;have hflat:∀ x∈args',Flat x:=by
  rw [← hfl];exact Qng
 refine Qbf5 hcf hr0 hr1 (fun g0 w0 us hp hi hus=>⟨args',by rw [← ha];exact Qbay hp hus,hflat,hlt,Nat.eq_of_beq_eq_true hargs,fun Γ k1 k2 k3 k4 k5=>?_⟩) M;have h:=hrun Γ _ k1 k3 ⟨fun b=>by rw [k4,hp b];trivial,fun b o hb=>by grind⟩ rfl (fun _ _=>rfl);rw [Qrn (fun _ _=>rfl),k2] at h;refine h.mono ?_;rintro e σ' ⟨he,r',q1,q2,q3,q4⟩;exact ⟨he,r',q1,q2,fun k b hk=>(by cases hk),fun _ _ _=>⟨q3,fun k cs hk=>(by cases hk),fun k hk=>(by cases hk)⟩⟩
theorem fToD {x:D}:WkV (.f x) (.d x):=⟨fun g w ℓ u h=>by
  simp only [RV] at h ⊢;exact Qf9 ⟨fun b o h=>h.1,fun _ _ _=>rfl⟩ x u h,fun _ _=>trivial⟩
open Classical in
theorem ACalls.frz {P:Program} {f:FuncId} {args:List V} {M M' : Mem} {nb nb' sz:Nat} {l:List (List D)} (h:ACalls P f args M nb (.own sz l) M' nb') (hpl:Qn7 l=true):ACalls P f args M nb (.f (.lst sz l)) M' nb':=by
 obtain ⟨h1,h2,h3⟩:=h;refine ⟨h1,h2,fun w g us k1 k2 k3 k4 k5 k6=>(h3 w g us k1 k2 k3 k4 k5 k6).mono ?_⟩;rintro e w' ⟨v,g',rfl,hm,hv,_,hon,hf⟩;let g2:G:=⟨g'.box,g'.imm,fun b=>if g'.own b = .res [] then .ext else g'.own b⟩;have hown:∀ b,g'.own b ≠ .res []→g2.own b=g'.own b:=fun b hb=>by simp [g2,hb]
 have hkept:Kept g' w' g2 w' (fun _=>True) (fun o=>o ≠ .res []):=⟨⟨fun _ _ h=>h,fun _ _ _=>rfl⟩,fun _ _=>rfl,fun b hb _=>⟨hown b hb,rfl,fun _=>Iff.rfl⟩⟩;have hsub:∀ (o:Owner) i,o ≠ .res []→o.sub i ≠ .res []:=by intro o i _;cases o<;>simp [Owner.sub]
 refine ⟨v,g2,rfl,⟨fun k b hk=>?_,fun b o hb=>?_⟩,?_,trivial,hon,?_⟩
 ·obtain ⟨q1,q2,q3⟩:=hm.box k b hk;refine ⟨q1,(hown _ (by rw [q2];simp)).trans q2,?_⟩;cases b with
  | mp es c =>
   obtain ⟨ents,p1,p2⟩:=q3;exact ⟨ents,p1,Qn6 (g:=g') (g':=g2) hkept (fun _=>by simp) p2⟩
  | cells cs =>
   obtain ⟨vals,e,p1,p2,p3⟩:=q3;exact ⟨vals,e,p1,RVs_mono hkept hsub (by simp) cs (.box k) 0 vals (by simp) (by rw [Qiw];intro v _;exact Q58 v) p2,p3⟩
 ·obtain ⟨q1,q2⟩:=hm.imm b o hb;refine ⟨q1,fun k=>?_⟩;simp only [g2];split
  ·simp
  ·exact q2 k
 ·have hrd:=Qke hv;simp only [RV] at hv ⊢;rcases hv with ⟨⟨a,rfl⟩,rfl⟩|⟨b,cap,vals,e,rfl,hb,hh,h4,h5,h6,h7,h8⟩
  ·simp only [RD];exact ⟨a,0,rfl,Nat.le_refl _,.inl trivial⟩
  ·simp only [RD];refine ⟨_,cap,rfl,h4,.inr ⟨b,0,rfl,?_⟩⟩;have h9:=RDL_strong sz b l 0 h8;exact Qw9 (fun o ho=>⟨ho.1,by simp [g2,hb],ho.2⟩) hpl h9
 ·refine ⟨hf.os,hf.tape,hf.output,hf.size,hf.imm,hf.box,fun b hb ho=>?_⟩;obtain ⟨q1,q2,q3⟩:=hf.old b hb ho;exact ⟨(hown b (by rw [q1];intro e;rw [e] at ho;exact ho)).trans q1,q2,q3⟩
theorem Qou {e:α→List D} (h:∀ x,(e x).all Qrp=true) {sz:Nat} {xs:List α}:Qgm (.own sz (List.map e xs))=true:=by
 grind [Qgm,Qn7,List.all_map,List.all_eq_true]
theorem Qbct {e:α→List D} (h:∀ x,(e x).all Qrp=true) {xs:List α}:Qn7 (List.map e xs)=true:=by
 grind [Qn7,List.all_map,List.all_eq_true]
def PL:List (Nat×V)→Prop
 | []=>True
 | (_,v)::E=>Qgm v=true∧PL E
theorem PL.at:∀ {E:List (Nat×V)},PL E→∀ t,Qgm (look E t)=true
 | [],_,t=>rfl
 | (u,v)::E,h,t=>by
  simp only [look];cases hb:Nat.beq t u with
  | true=>exact h.1
  | false=>exact PL.at h.2 t
def PV:List V→Prop
 | []=>True
 | v::vs=>Qgm v=true∧PV vs
theorem PV.go:∀ {vs:List V},PV vs→Qgm.go vs=true
 | [],_=>rfl
 | v::vs,h=>by simp only [Qgm.go,Bool.and_eq_true];exact ⟨h.1,PV.go h.2⟩
def PB (t0 i:Nat):List (Nat×Bx)→Prop
 | []=>True
 | (t,.cells cs)::L=>PV (bif Nat.beq t t0 then cs.set i .und else cs)∧PB t0 i L
 | (_,.mp es _)::L=>Q0k es∧PB t0 i L
theorem PB.at {t0 i:Nat}:∀ {L:List (Nat×Bx)},PB t0 i L→∀ t cs,Qbo L t=some (.cells cs)→Qgm.go (if t=t0 then cs.set i .und else cs)=true
 | [],_,t,cs,h=>by cases h
 | (u,.cells ds)::L,hp,t,cs,h=>by
  simp only [Qbo] at h;cases hb:Nat.beq t u with
  | true =>
   have:=Nat.eq_of_beq_eq_true hb;subst this;rw [hb] at h;cases h;have:=hp.1.go;by_cases ht:t=t0
   ·grind
   ·have hf:Nat.beq t t0=false:=by
     grind [Nat.beq,absurd,Nat.eq_of_beq_eq_true]
    grind
  | false=>rw [hb] at h;exact PB.at hp.2 t cs h
 | (u,.mp ..)::L,hp,t,cs,h=>by
  simp only [Qbo] at h;cases hb:Nat.beq t u with
  | true=>rw [hb] at h;cases h
  | false=>rw [hb] at h;exact PB.at hp.2 t cs h
theorem PB.nomp {t0 i:Nat}:∀ {L:List (Nat×Bx)},PB t0 i L→∀ t es c,Qbo L t=some (.mp es c)→Q0k es
 | [],_,t,es,c,h=>by cases h
 | (u,.cells ds)::L,hp,t,es,c,h=>by
  simp only [Qbo] at h;cases hb:Nat.beq t u with
  | true=>rw [hb] at h;cases h
  | false=>rw [hb] at h;exact PB.nomp hp.2 t es c h
 | (u,.mp ..)::L,hp,t,es,c,h=>by
  simp only [Qbo] at h;cases hb:Nat.beq t u with
  | true=>rw [hb] at h;cases h;exact hp.1
  | false=>rw [hb] at h;exact PB.nomp hp.2 t es c h
theorem PB.nomem {t0 i n0:Nat} {L:List (Nat×Bx)} (h:PB t0 i L):∀ k es c,Ql n0 L (fun _=>none) k=some (.mp es c)→Q0k es:=by
 intro k es c hk;rcases Nat.lt_or_ge k n0 with hlt|hge
 ·rw [Qb7 hlt] at hk;cases hk
 ·obtain ⟨u,rfl⟩ : ∃ u,k=n0+u:=⟨k-n0,by omega⟩;rw [Qci] at hk;exact h.nomp u es c hk
theorem Qbaz {cc:CC} {Q:Ex→St→Prop} (hG:Lone Γ) {M0:Mem} (hMe:M0=fun _=>none) (t0 i κ:Nat) {sz m:Nat} {e:α→List D} {xs:List α} {E:List (Nat×V)} {L:List (Nat×Bx)} {cs0:List V} (hxs:xs=[]→Tr Γ cc ⟨look E,Ql Γ.n0 ((t0,.cells (cs0.set i (.nils sz)))::L) M0,Γ.n0+m⟩ Q) (hpl:∀ x,(e x).all Qrp=true) (hM0:Qbo L t0=some (.cells cs0))
  (hi:cs0[i]? = some (.own sz (List.map e xs))) (hκ2:Nat.blt κ m=true) (hκM:Qbo L κ=none) (hE:PL E) (hL:PB t0 i L)
  (h:∀ c,xs.length≤c→xs.length≤maxLen→Tr Γ cc ⟨look E,Ql Γ.n0 ((κ,.cells (Qdy (List.map e xs) ((c-xs.length)*sz)))::(t0,.cells (cs0.set i (.sl sz (Γ.n0+κ) 0 xs.length c)))::L) M0,Γ.n0+m⟩ Q):Tr Γ cc ⟨look E,Ql Γ.n0 L M0,Γ.n0+m⟩ Q:=by
 subst hMe;have hlt:κ<m:=Nat.le_of_ble_eq_true hκ2;refine Tr.thawCE (σ:=⟨look E,Ql Γ.n0 L (fun _=>none),Γ.n0+m⟩) hG (k0:=Γ.n0+t0) (i:=i) (κ:=Γ.n0+κ) (l:=List.map e xs) (fun hn=>by simp_all [Qee]) (Qbct hpl) (by omega) ((Qci (n0:=Γ.n0) (L:=L) (M0:=fun _=>none)).trans hM0) hi (by omega) (by grind) ((Qci (n0:=Γ.n0) (L:=L) (M0:=fun _=>none)).trans hκM) (fun t=>hE.at t) ?_ hL.nomem ?_
 ·intro k cs hk;have hk:Ql Γ.n0 L (fun _=>none) k=some (.cells cs):=hk;rcases Nat.lt_or_ge k Γ.n0 with hlt|hge
  ·rw [Qb7 hlt] at hk;cases hk
  ·obtain ⟨t,rfl⟩ : ∃ t,k=Γ.n0+t:=⟨k-Γ.n0,by omega⟩;rw [Qci] at hk;have:=hL.at t cs hk
   grind
 ·intro c hc hm;have:=h c (by simpa using hc) (by simp at hc;omega)
  simp_all [Qee]
theorem Qbge {cc:CC} {Q:Ex→St→Prop} (hG:Lone Γ) {M0:Mem} (hMe:M0=fun _=>none) (t0 i κ:Nat) {sz m:Nat} {e:α→List D} {xs:List α} {E:List (Nat×V)} {L:List (Nat×Bx)} {cs0:List V} (hxs:¬ xs=[]) (hpl:∀ x,(e x).all Qrp=true) (hM0:Qbo L t0=some (.cells cs0))
  (hi:cs0[i]? = some (.own sz (List.map e xs))) (hκ2:Nat.blt κ m=true) (hκM:Qbo L κ=none) (hE:PL E) (hL:PB t0 i L)
  (h:∀ c,xs.length≤c→xs.length≤maxLen→Tr Γ cc ⟨look E,Ql Γ.n0 ((κ,.cells (Qdy (List.map e xs) ((c-xs.length)*sz)))::(t0,.cells (cs0.set i (.sl sz (Γ.n0+κ) 0 xs.length c)))::L) M0,Γ.n0+m⟩ Q):Tr Γ cc ⟨look E,Ql Γ.n0 L M0,Γ.n0+m⟩ Q :=
 Qbaz hG hMe t0 i κ (fun h=>absurd h hxs) hpl hM0 hi hκ2 hκM hE hL h
def RowK (P:Program) (c:Nat) (e:α→List D) (sz:Nat) (ex:List V) (f:List α→Option (List α)):Prop :=
 ∀ xs ys,f xs=some ys→ys.length=xs.length∧(xs=[]→ys=xs∧∀ M nb,ACalls P c (.d (.lst sz (List.map e xs))::ex) M nb (.tup []) M nb) ∧
  (xs.length≤maxLen→∀ cap k0 M nb,M k0=some (.cells (Qdy (List.map e xs) ((cap-xs.length)*sz)))→ACalls P c (.sl sz k0 0 xs.length cap::ex) M nb (.tup []) (M.put k0 (.cells (Qdy (List.map e ys) ((cap-xs.length)*sz)))) nb)
section
variable {pc d nb:Nat} {os:List COp} {E:List (Nat×V)} {M0:Mem} {L:List (Nat×Bx)} {Q:St→Prop} {gd:Option (Nat×Bool)}
theorem Rn.callRow {f:FuncId} {as:List Arg} {args:List V} {r:V} {t:Nat} {cs cs' : List V} (hw:Wn E gd) (ha:V.dems (as.map (·.val (look E)))=args) (ht:Qbo L t=some (.cells cs)) (hC:∀ M,M (Γ.n0+t)=some (.cells cs)→ACalls Γ.P f args M nb r (M.put (Γ.n0+t) (.cells cs')) nb)
  (hpc:pcOf pc=0) (h:Rn Γ pc os ⟨look ((d,r)::E),Ql Γ.n0 ((t,.cells cs')::L) M0,nb⟩ Q):Rn Γ pc (⟨some d,.call f,as,false,gd⟩::os) ⟨look E,Ql Γ.n0 L M0,nb⟩ Q:=by
 refine Rn.cons ?_;unfold COp.run;rw [hw.wanted];simp only [show (K.call f).isCall=true from rfl,if_true,COp.callee,ha];rw [hpc];refine ⟨r,(Ql Γ.n0 L M0).put (Γ.n0+t) (.cells cs'),nb,hC _ (by rw [Qci];exact ht),fun k hk=>?_,fun k cs2 hk hM=>.inl ?_,?_⟩
 ·grind [Mem.put]
 ·rw [Qcu _ _ (by omega)]
 simp_all [Qbf,look,Qdt,Qee]
end
theorem fSlT {n0 t n c sz:Nat} {e:α→List D} {ys:List α} (h:∀ x,(e x).length=sz) (hn:ys.length=n) (hc:n≤c):WkV (frzV (n0+t) ((ys.map e).flatten) (.sl sz (n0+t) 0 n c)) (.d (.lst sz (ys.map e))):=by
 subst hn;have h1:=Qwa h ys
 simp_all [List.drop_zero,List.take_of_length_le,frzV,if_true,if_pos,Qsm,Qbat]
theorem Qx8:∀ ds:List D,toDs (ds.map V.d)=some ds
 | []=>rfl
 | d::ds=>by simp only [List.map_cons,toDs,V.toD,Qx8 ds]
theorem Qbg0 {e:α→List D} {ys:List α} {room:Nat}:PreD (Qdy (List.map e ys) room) ((List.map e ys).flatten):=PreD.app (Qx8 _)
end Go.Abs
end
