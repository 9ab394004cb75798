/-
  Part 6 of the proof: see the last text.
-/
import Derived.Test.YthlopjpofmcdmaaP5
set_option linter.unusedVariables false
set_option linter.unusedSimpArgs false
set_option linter.unusedSectionVars false
section
namespace Go.Abs
open Go
variable {κ β:Type} [BEq κ]
def mapE (ek:κ→V) (ev:β→V):Nat→List (κ×β)→List (V×V×Nat)
 | _,[]=>[]
 | i,(k,v)::m=>(ek k,ev v,i)::mapE ek ev (i+1) m
def idxS (m:List (κ×β)) (k:κ):Nat:=match m with
 | []=>0
 | (k',_)::m=>if k==k' then 0 else idxS m k+1
def hasM (m:List (κ×β)) (k:κ):Bool:=m.any fun p=>k==p.1
def getM (m:List (κ×β)) (k:κ) (z:β):β:=match m with
 | []=>z
 | (k',v)::m=>if k==k' then v else getM m k z
def setM (m:List (κ×β)) (k:κ) (v:β):List (κ×β):=match m with
 | []=>[(k,v)]
 | (k',v')::m=>if k==k' then (k,v)::m else (k',v')::setM m k v
def putM (m:List (κ×β)) (i:Nat) (v:β):List (κ×β):=m.modify i fun p=>(p.1,v)
theorem Qxa {k k' : κ} {v:β} {m:List (κ×β)}:hasM ((k',v)::m) k=((k==k')||hasM m k):=rfl
theorem Q0l {ek:κ→V} {ev:β→V}:∀ (i:Nat) (m:List (κ×β)),(mapE ek ev i m).length=m.length
 | _,[]=>rfl
 | i,_::m=>by simp [mapE,Q0l (i+1) m]
theorem Q3c {ek:κ→V} {ev:β→V}:∀ (i j:Nat) (m:List (κ×β)),(mapE ek ev i m)[j]? = (m[j]?).map fun p=>(ek p.1,ev p.2,i+j)
 | _,j,[]=>by simp [mapE]
 | i,0,_::m=>by simp [mapE]
 | i,j+1,_::m=>by
  simp only [mapE,List.getElem?_cons_succ,Q3c (i+1) j m];rw [show i+1+j=i+(j+1) from by omega]
theorem Qsn {ek:κ→V} {ev:β→V}:∀ (i:Nat) (m n:List (κ×β)),mapE ek ev i (m++n)=mapE ek ev i m++mapE ek ev (i+m.length) n
 | _,[],n=>by simp [mapE]
 | i,(k,v)::m,n=>by simp [mapE,Qsn (i+1) m n];congr 1;omega
theorem Qso {ek:κ→V} {ev:β→V} {kd:MK} (hk:∀ a,kd.ok (ek a)=true):∀ (i:Nat) (m:List (κ×β)),kd.all (mapE ek ev i m)=true
 | _,[]=>rfl
 | i,(k,v)::m=>by
  have:=Qso (ev:=ev) hk (i+1) m;simp only [MK.all] at *
  simp [mapE,hk,this]
section
variable {ek:κ→V} {ev:β→V} (hs:∀ a b,Qhx (ek a) (ek b)=(a==b))
include hs
theorem Qrq {k:κ}:∀ (i:Nat) (m:List (κ×β)) (z:β),Qgz (ek k) (mapE ek ev i m)=if hasM m k then some (idxS m k,ev (getM m k z)) else none
 | _,[],z=>rfl
 | i,(k',v)::m,z=>by
  simp only [mapE,Qgz,hs,Qrq (i+1) m z,Qxa,idxS,getM];by_cases hb:(k==k')=true
  ·simp [hb]
  ·simp only [hb,Bool.false_eq_true,if_false,Bool.false_or];by_cases hq:hasM m k=true
   ·rw [if_pos hq,if_pos hq];rfl
   ·rw [if_neg hq,if_neg hq];rfl
omit hs in
theorem Qba0 {k:κ}:∀ {m:List (κ×β)},hasM m k=true→idxS m k<m.length
 | [],h=>by cases h
 | (k',v)::m,h=>by
  simp only [idxS,hasM,List.any_cons] at *
  cases hb:(k==k') with
  | true=>simp
  | false =>
   rw [hb] at h;have:=Qba0 (m:=m) (by simpa [hasM] using h);simp;exact this
omit hs in
theorem Q4r {k:κ}:∀ {m:List (κ×β)},hasM m k=false→idxS m k=m.length
 | [],h=>rfl
 | (k',v)::m,h=>by
  simp only [hasM,List.any_cons,Bool.or_eq_false_iff] at h;simp only [idxS,h.1,Bool.false_eq_true,if_false,List.length_cons];rw [Q4r (m:=m) h.2]
omit hs in
theorem Qxb {k:κ} {v:β}:∀ {m:List (κ×β)},hasM m k=false→setM m k v=m++[(k,v)]
 | [],h=>rfl
 | (k',v')::m,h=>by
  simp only [hasM,List.any_cons,Bool.or_eq_false_iff] at h;simp only [setM,h.1,Bool.false_eq_true,if_false,List.cons_append];rw [Qxb (m:=m) h.2]
omit hs in
theorem Q3d {k:κ} {v:β}:∀ (i:Nat) {m:List (κ×β)},hasM m k=true→modM (ek k) (ev v) (idxS m k) (mapE ek ev i m)=mapE ek ev i (setM m k v)
 | _,[],h=>by cases h
 | i,(k',v')::m,h=>by
  simp only [idxS,setM,mapE,hasM,List.any_cons] at *
  cases hb:(k==k') with
  | true=>simp [modM,mapE]
  | false =>
   rw [hb] at h;simp only [Bool.false_eq_true,if_false,modM,mapE];rw [Q3d (i+1) (by simpa [hasM] using h)]
omit hs in
theorem Qsp {k:κ} {v:β}:∀ {m:List (κ×β)},hasM m k=true→(setM m k v).length=m.length
 | [],h=>by cases h
 | (k',v')::m,h=>by
  simp only [setM,hasM,List.any_cons] at *
  cases hb:(k==k') with
  | true=>simp
  | false =>
   rw [hb] at h;simp [Qsp (m:=m) (by simpa [hasM] using h)]
omit hs in
theorem Qba1 {v:β}:∀ (i j:Nat) {m:List (κ×β)} {p:κ×β},m[j]? = some p→modM (ek p.1) (ev v) j (mapE ek ev i m)=mapE ek ev i (putM m j v)
 | i,0,q::m,p,h=>by simp at h;subst h;simp [putM,mapE,modM]
 | i,j+1,q::m,p,h=>by
  simp at h;have:=Qba1 (v:=v) (i+1) j h;simp only [putM,mapE,modM,List.modify_succ_cons] at *
  rw [this]
 | i,j,[],p,h=>by simp at h
omit hs in
theorem Q4s:∀ (i j:Nat) (m:List (κ×β)),j<m.length→Q2k ((i+j:Nat):Int) (mapE ek ev i m)=some j
 | i,j,[],h=>by simp at h
 | i,0,_::m,h=>by simp [mapE,Q2k]
 | i,j+1,_::m,h=>by
  have:=Q4s (i+1) j m (by simpa using h);simp only [mapE,Q2k];have hne:((i:Int)==((i+(j+1):Nat):Int))=false:=by simp;omega
  rw [hne,show i+(j+1)=i+1+j from by omega,this];rfl
end
variable {Γ:Env} {pc d nb:Nat} {os:List COp} {E:List (Nat×V)} {M M' M0:Mem} {L:List (Nat×Bx)} {Q:St→Prop} {gd:Option (Nat×Bool)} {a b c:Arg} {ek:κ→V} {ev:β→V} {m:List (κ×β)}
theorem Rn.k0 {k:K} {as:List Arg} {v:V} (hw:Wn E gd) (hc:k.isCall=false) (hn:k.isNil=false) (hk:Qk Γ.n0 (Γ.n0+0) k (V.dems (as.map (·.val (look E)))) M=some (v,M'))
  (h:Rn Γ pc os ⟨look E,M',nb⟩ Q):Rn Γ pc (⟨none,k,as,false,gd⟩::os) ⟨look E,M,nb⟩ Q:=by
 refine Rn.cons ?_;unfold COp.run;rw [hw.wanted];simp only [hc,hn,Bool.false_eq_true,if_false,COp.step,COp.xs,Option.getD_none,hk,Qbf];exact h
theorem Rn.mkmap (hw:Wn E gd) (hf:(Qbo L d).isNone=true) (ek:κ→V) (ev:β→V) (h:Rn Γ pc os ⟨look ((d,.mp (Γ.n0+d))::E),Ql Γ.n0 ((d,.mp (mapE ek ev 0 []) 0)::L) M0,nb⟩ Q) :
  Rn Γ pc (⟨some d,.mkmap,[],false,gd⟩::os) ⟨look E,Ql Γ.n0 L M0,nb⟩ Q:=by
 refine Rn.k hw rfl rfl ?_ h;simp only [List.map_nil,V.dems,Qk];rw [if_pos (by simp [Qpp (Γ:=Γ) (M0:=M0) hf]),Qee];rfl
theorem Rn.lenm {t:Nat} (hw:Wn E gd) (ha:a.val (look E) = .mp (Γ.n0+t)) (hM:Qbo L t=some (.mp (mapE ek ev 0 m) m.length)) (h:Rn Γ pc os ⟨look ((d,.d (.int .i64 m.length))::E),Ql Γ.n0 L M0,nb⟩ Q) :
  Rn Γ pc (⟨some d,.lenm,[a],false,gd⟩::os) ⟨look E,Ql Γ.n0 L M0,nb⟩ Q:=by
 refine Rn.k hw rfl rfl ?_ h;simp only [List.map_cons,List.map_nil,V.dems,ha,V.dem,Qk,Q1 hM,Q0l]
section
variable (hs:∀ a b,Qhx (ek a) (ek b)=(a==b)) {kd:MK} (hk:∀ a,kd.ok (ek a)=true) (hv:∀ b,(ev b).dat=true)
include hs hk hv
theorem Rn.lookup {t:Nat} {z:V} {k:κ} (zb:β) (hz:ev zb=z) (hw:Wn E gd) (ha:a.val (look E) = .mp (Γ.n0+t)) (hb:(b.val (look E)).dem=ek k) (hM:Qbo L t=some (.mp (mapE ek ev 0 m) m.length))
  (h:Rn Γ pc os ⟨look ((d,ev (getM m k zb))::E),Ql Γ.n0 L M0,nb⟩ Q):Rn Γ pc (⟨some d,.lookup kd false z,[a,b],false,gd⟩::os) ⟨look E,Ql Γ.n0 L M0,nb⟩ Q:=by
 subst hz;refine Rn.k hw rfl rfl ?_ h;simp only [List.map_cons,List.map_nil,V.dems,ha,hb,V.dem,Qk,Q1 hM,hk,Qso hk,Bool.and_self,if_true,Qrq hs 0 m zb];cases hh:hasM m k with
 | true=>simp [Qwx (hv _),Qv3 (hv _)]
 | false =>
  have:getM m k zb=zb:=by
   clear hM h
   induction m with
   | nil=>rfl
   | cons p m ih =>
    simp only [hasM,List.any_cons,Bool.or_eq_false_iff] at hh;simp only [getM,hh.1,Bool.false_eq_true,if_false];exact ih hh.2
  simp [hv,this]
theorem Rn.lookupC {t:Nat} {z:V} {k:κ} (zb:β) (hz:ev zb=z) (hw:Wn E gd) (ha:a.val (look E) = .mp (Γ.n0+t)) (hb:(b.val (look E)).dem=ek k) (hM:Qbo L t=some (.mp (mapE ek ev 0 m) m.length))
  (h:Rn Γ pc os ⟨look ((d,.tup [ev (getM m k zb),.d (.bool (hasM m k))])::E),Ql Γ.n0 L M0,nb⟩ Q):Rn Γ pc (⟨some d,.lookup kd true z,[a,b],false,gd⟩::os) ⟨look E,Ql Γ.n0 L M0,nb⟩ Q:=by
 subst hz;refine Rn.k hw rfl rfl ?_ h;simp only [List.map_cons,List.map_nil,V.dems,ha,hb,V.dem,Qk,Q1 hM,hk,Qso hk,Bool.and_self,if_true,Qrq hs 0 m zb];cases hh:hasM m k with
 | true=>simp [Qwx (hv _),Qv3 (hv _)]
 | false =>
  have:getM m k zb=zb:=by
   clear hM h
   induction m with
   | nil=>rfl
   | cons p m ih =>
    simp only [hasM,List.any_cons,Bool.or_eq_false_iff] at hh;simp only [getM,hh.1,Bool.false_eq_true,if_false];exact ih hh.2
  simp [hv,this]
theorem Rn.mapset {t:Nat} {k:κ} {v:β} (hw:Wn E gd) (ha:a.val (look E) = .mp (Γ.n0+t)) (hb:(b.val (look E)).dem=ek k) (hc:Qvk (c.val (look E)).dem=ev v) (hcd:(c.val (look E)).dem.dat=true) (hM:Qbo L t=some (.mp (mapE ek ev 0 m) m.length))
  (h:Rn Γ pc os ⟨look E,Ql Γ.n0 ((t,.mp (mapE ek ev 0 (setM m k v)) (setM m k v).length)::L) M0,nb⟩ Q):Rn Γ pc (⟨none,.mapset kd,[a,b,c],false,gd⟩::os) ⟨look E,Ql Γ.n0 L M0,nb⟩ Q:=by
 refine Rn.k0 (v:=.und) hw rfl rfl ?_ h;simp only [List.map_cons,List.map_nil,V.dems,ha,hb,hc,V.dem,Qk,Q1 hM,hk,hcd,Qso hk,Bool.and_self,if_true];rw [Qrq hs 0 m v,← Qee];cases hh:hasM m k with
 | true=>simp only [if_true];rw [Q3d 0 hh,Qsp hh]
 | false =>
  simp only [Bool.false_eq_true,if_false];rw [Qxb hh,Qsn];simp [mapE]
theorem Rn.mapentry {t:Nat} {z:V} {k:κ} (zb:β) (hz:ev zb=z) (hw:Wn E gd) (ha:a.val (look E) = .mp (Γ.n0+t)) (hb:(b.val (look E)).dem=ek k) (hM:Qbo L t=some (.mp (mapE ek ev 0 m) m.length))
  (h:Rn Γ pc os ⟨look ((d,.tup [ev (getM m k zb),.d (.int .i64 (idxS m k))])::E),Ql Γ.n0 ((t,.mp (mapE ek ev 0 (setM m k (getM m k zb))) (setM m k (getM m k zb)).length)::L) M0,nb⟩ Q):Rn Γ pc (⟨some d,.mapentry kd z,[a,b],false,gd⟩::os) ⟨look E,Ql Γ.n0 L M0,nb⟩ Q:=by
 subst hz;refine Rn.k hw rfl rfl ?_ h;simp only [List.map_cons,List.map_nil,V.dems,ha,hb,V.dem,Qk,Q1 hM,hk,hv,Qso hk,Bool.and_self,if_true,Qrq hs 0 m zb];rw [← Qee];cases hh:hasM m k with
 | true =>
  have hlt:=Qba0 hh;simp only [if_true,hv,Q3c,List.getElem?_eq_getElem hlt,Option.map_some,Nat.zero_add];rw [Q3d 0 hh,Qsp hh]
 | false =>
  have:getM m k zb=zb:=by
   clear hM h
   induction m with
   | nil=>rfl
   | cons p m ih =>
    simp only [hasM,List.any_cons,Bool.or_eq_false_iff] at hh;simp only [getM,hh.1,Bool.false_eq_true,if_false];exact ih hh.2
  simp only [Bool.false_eq_true,if_false];rw [this,Qxb hh,Qsn,Q4r hh];simp [mapE]
omit hs hk in
theorem Rn.entrystore {t i:Nat} {v:β} (hi:i<m.length) (hw:Wn E gd) (ha:a.val (look E) = .mp (Γ.n0+t)) (hb:b.val (look E) = .d (.int .i64 (i:Int))) (hc:Qvk (c.val (look E)).dem=ev v) (hcd:(c.val (look E)).dem.dat=true) (hM:Qbo L t=some (.mp (mapE ek ev 0 m) m.length))
  (h:Rn Γ pc os ⟨look E,Ql Γ.n0 ((t,.mp (mapE ek ev 0 (putM m i v)) (putM m i v).length)::L) M0,nb⟩ Q):Rn Γ pc (⟨none,.entrystore,[a,b,c],false,gd⟩::os) ⟨look E,Ql Γ.n0 L M0,nb⟩ Q:=by
 refine Rn.k0 (v:=.und) hw rfl rfl ?_ h;have hbn:=Q4s (ek:=ek) (ev:=ev) 0 i m hi;rw [Nat.zero_add] at hbn;simp only [List.map_cons,List.map_nil,V.dems,ha,hb,hc,V.dem,Qk,Q1 hM,hcd,if_true,hbn,Q3c,List.getElem?_eq_getElem hi,Option.map_some];rw [← Qee,Qba1 0 i (List.getElem?_eq_getElem hi)];simp [putM]
end
theorem Qbg1 {P:Nat→Bool}:Qdq.go P []=[]:=rfl
theorem Qbg2 {n0 t o:Nat} {sites:List Nat} {cs:List V} (h:sites.any (fun u=>Nat.beq t u)=false) (r:Qdq.go (Qjf n0 sites) cs=cs):Qdq.go (Qjf n0 sites) (.ptr (n0+t) o::cs) = .ptr (n0+t) o::cs:=by
 simp [Qdq.go,Qdq,Qpo,h,r]
theorem Qbgf {n0 k o:Nat} {sites:List Nat} {cs:List V} (h:k<n0) (r:Qdq.go (Qjf n0 sites) cs=cs):Qdq.go (Qjf n0 sites) (.ptr k o::cs) = .ptr k o::cs:=by
 simp [Qdq.go,Qdq,Qmp h,r]
theorem kgD {P:Nat→Bool} {x:D} {cs:List V} (r:Qdq.go P cs=cs):Qdq.go P (.d x::cs) = .d x::cs:=by
 simp [Qdq.go,Qdq,r]
theorem kClo {P:Nat→Bool} {f:FuncId} {cs:List V} (h:Qdq.go P cs=cs):WkV (Qdq P (.clo f cs)) (.clo f cs):=.same (by simp [Qdq,h])
theorem kMp {n0 t:Nat} {sites:List Nat} (h:sites.any (fun u=>Nat.beq t u)=false):WkV (Qdq (Qjf n0 sites) (.mp (n0+t))) (.mp (n0+t)):=by
 refine .same ?_;simp [Qdq,Qpo,h]
end Go.Abs
end
section
namespace Go.Abs
open Go
section
variable {g:G} {w:World} {k:Nat} {x:D} [DecidablePred fun b=>b=g.box k] (hB:g.own (g.box k) = .box k) (hx:RD (g.frz k 1).imm w x (.map (some (g.box k))))
include hB
include hx
end
variable {Γ:Env} {σ:St}
def Qbd0:V→Value
 | .d (.int k n)=>.int k n
 | .d (.bool b)=>.bool b
 | .d (.str s)=>.string s
 | _=>undef
def Qbgg:V→Value
 | .agg cs=>.agg (cs.map Qbd0).toArray
 | v=>Qbd0 v
section
variable {κ β:Type}
end
section
variable {κ β:Type} [BEq κ] {Γ:Env} {pc d nb:Nat} {os:List COp} {E:List (Nat×V)} {M:Mem} {Q:St→Prop} {gd:Option (Nat×Bool)} {a b:Arg} {ek:κ→V} {ev:β→V} {m:List (κ×β)}
variable (hs:∀ a b,Qhx (ek a) (ek b)=(a==b)) {kd:MK} (hk:∀ a,kd.ok (ek a)=true) (hv:∀ b,(ev b).dat=true) (hkk:∀ a,Q3t (Qbgg (ek a))=ek a) (hvv:∀ b,Q3t (Qbgg (ev b))=ev b)
include hs hk hv hkk hvv
end
end Go.Abs
end
section
namespace Go.Abs
open Go
abbrev oo (d:Nat) (k:K) (as:List Arg):COp:=⟨some d,k,as,false,none⟩
abbrev oM (d a:Nat):COp:=⟨some d,.mov,[.t a],false,none⟩
abbrev oL (d a:Nat):COp:=⟨some d,.load false 1,[.t a],false,none⟩
abbrev oF (d n a:Nat):COp:=⟨some d,.fld n,[.t a],false,none⟩
abbrev cI (n:Int):Arg:=.c (.d (.int .i64 n))
abbrev ot (d:Nat) (k:K) (as:List Arg):COp:=⟨some d,k,as,true,none⟩
universe u
variable {α:Type u} {Γ:Env} {pc d nb:Nat} {os:List COp} {E:List (Nat×V)} {M:Mem} {Q:St→Prop} {gd:Option (Nat×Bool)} {a b:Arg} {sz:Nat}
theorem Rn.idxArr {k o o' len:Nat} {kk:IntKind} {i:Int} (hw:Wn E gd) (ha:a.val (look E) = .ptr k o) (hb:b.val (look E) = .d (.int kk i)) (ho:o'=o+i.toNat*sz) (hx:inO len i=some ()) (h:Rn Γ pc os ⟨look ((d,.ptr k o')::E),M,nb⟩ Q) :
  Rn Γ pc (⟨some d,.idxarr sz len,[a,b],false,gd⟩::os) ⟨look E,M,nb⟩ Q:=by
 subst ho;unfold inO at hx;split at hx<;>cases hx;rename_i hc;refine Rn.k hw rfl rfl ?_ h;simp [ha,hb,V.dems,V.dem,Qk,hc.1,hc.2]
def rowO (l:List α) (i:Nat):Option α:=l[i]?
theorem Rn.loadArr {k off o n:Nat} {cs pre post:List V} {e:α→D} {l:List α} {x:α} (hw:Wn E gd) (ha:a.val (look E) = .ptr k off) (ho:off=o+n) (hM:M k=some (.cells cs)) (hc:cs=pre++(l.map fun x=>V.d (e x))++post) (hp:pre.length=o) (hx:rowO l n=some x)
  (h:Rn Γ pc os ⟨look ((d,.d (e x))::E),M,nb⟩ Q):Rn Γ pc (⟨some d,.load false 1,[a],false,gd⟩::os) ⟨look E,M,nb⟩ Q:=by
 subst ho hc hp;unfold rowO at hx;obtain ⟨hlt,hx'⟩:=List.getElem?_eq_some_iff.1 hx;refine Rn.k hw rfl rfl ?_ h;have h2:(pre++(l.map fun x=>V.d (e x))++post)[pre.length+n]? = some (.d (e x)):=by
  rw [List.append_assoc,List.getElem?_append_right (by omega),show pre.length+n-pre.length=n from by omega,List.getElem?_append_left (by simpa using hlt),List.getElem?_map,hx];rfl
 simp only [List.map_cons,List.map_nil,V.dems,ha,V.dem,Qk,hM];rw [if_pos (by simp only [List.length_append,List.length_map];omega)];simp only [Bool.false_eq_true,if_false,Option.map_eq_some_iff];exact ⟨_,h2,rfl⟩
theorem Rn.lit {bytes:Nat} {xs:List α} {e:α→List D} {ls:List (List D)} (hw:Wn E gd) (hl:xs.map e=ls) (hbd:(Nat.ble bytes 128&&Nat.ble 1 sz&&Nat.ble ls.length lim)=true)
  (h:Rn Γ pc os ⟨look ((d,.own sz (xs.map e))::E),M,nb⟩ Q):Rn Γ pc (⟨some d,.append sz bytes,[.c (.nils sz),.c (.d (.lst sz ls))],true,gd⟩::os) ⟨look E,M,nb⟩ Q:=by
 subst hl;simp only [Bool.and_eq_true] at hbd;have h1:=Nat.le_of_ble_eq_true hbd.1.1;have h2:0<sz:=Nat.le_of_ble_eq_true hbd.1.2;have h3:=Nat.le_of_ble_eq_true hbd.2;refine Rn.kT hw rfl rfl (v:=.own sz (xs.map e)) ?_ (fun i=>?_) h
 ·simp only [List.map_cons,List.map_nil,Arg.val,Qk,Qe4,if_true];rw [if_pos (by simp only [h1,h2,h3,decide_true,Bool.and_self])]
 ·simp only [List.map_cons,List.map_nil,Arg.val,Qb1,Q5,Arg.putTo];rw [Qdt]
theorem tv:True:=trivial
abbrev f_ (l:List Int):V:=.f (.lst 1 (List.map (eI .i64) l))
abbrev o_ (l:List Int):V:=.own 1 (List.map (eI .i64) l)
theorem nt {y:CC} {σ:St} {Q:Ex→St→Prop} (h:Tr Γ y σ Q):Rn Γ 9 [] σ (Qbex Γ y Q .norm):=Rn.nil (toN h)
theorem md {x:D} (ha:a.val (look E) = .d x) (h:Rn Γ pc os ⟨look ((d,.d x)::E),M,nb⟩ Q):Rn Γ pc (⟨some d,.mov,[a],false,none⟩::os) ⟨look E,M,nb⟩ Q:=Rn.movD trivial ha h
end Go.Abs
end
section
namespace Go.Abs
open Go
end Go.Abs
end
section
namespace Go.Abs
open Go
variable {α:Type}
theorem WkVs.app {a a' b b' : List V} (h:WkVs a a') (k:WkVs b b'):WkVs (a++b) (a'++b'):=by
 induction h with
 | nil=>exact k
 | cons h t ih=>exact .cons h ih
theorem Qbe3 {g g' : α→List V} {f:V→V}:∀ {xs:List α},(∀ x∈xs,WkVs ((g x).map f) (g' x))→WkVs ((Qw g xs).map f) (Qw g' xs)
 | [],_=>.nil
 | x::xs,h=>by
  rw [Qiu,Qiu,List.map_append];exact .app (h x (by simp)) (Qbe3 fun y hy=>h y (by simp [hy]))
theorem Qbg3 {sz:Nat} {e:α→List D} {n:Int} {xs:List (List α)} {f:V→V} (hf:f (.nils sz) = .nils sz) (h:mkO n ([]:List α)=some xs):WkVs ((Qw (fun (x:List α)=>[V.nils sz]) xs).map f) (Qw (fun (x:List α)=>[V.own sz (List.map e x)]) xs):=by
 refine Qbe3 fun x hx=>?_;unfold mkO at h;split at h<;>cases h;obtain rfl:=List.eq_of_mem_replicate hx;simp only [List.map_cons,List.map_nil,hf];exact .cons (WkV.nilsO _) .nil
theorem Qbg4 {sz:Nat} {e:α→List D} {xs:List (List α)} {f:V→V} (hf:∀ l,f (.own sz l) = .own sz l):WkVs ((Qw (fun (x:List α)=>[V.own sz (List.map e x)]) xs).map f) (Qw (fun (x:List α)=>[V.d (.lst sz (List.map e x))]) xs):=by
 refine Qbe3 fun x hx=>?_;simp only [List.map_cons,List.map_nil,hf];exact .cons (WkV.dem' rfl) .nil
theorem Quc {g:α→V}:∀ (xs:List α),Qw (fun x=>[g x]) xs=xs.map g
 | []=>rfl
 | x::xs=>by rw [Qiu,Quc xs];rfl
variable {Γ:Env} {pc d nb:Nat} {os:List COp} {E:List (Nat×V)} {M M0:Mem} {L:List (Nat×Bx)} {Q:St→Prop} {gd:Option (Nat×Bool)} {a b:Arg} {sz:Nat} {e:α→List D}
theorem Rn.loadTA {t:Nat} {i:Int} {xs:List (List α)} {x:List α} (hw:Wn E gd) (ha:a.val (look E) = .ptr (Γ.n0+t) (0+i.toNat*1)) (hM:Qbo L t=some (.cells (Qw (fun (r:List α)=>[V.own sz (List.map e r)]) xs))) (hx:getO xs i=some x)
  (h:Rn Γ pc os ⟨look ((d,.own sz (List.map e x))::E),Ql Γ.n0 ((t,.cells ((Qw (fun (r:List α)=>[V.own sz (List.map e r)]) xs).set i.toNat (.d (.lst sz (List.map e x)))))::L) M0,nb⟩ Q) :
  Rn Γ pc (⟨some d,.loadT,[a],false,gd⟩::os) ⟨look E,Ql Γ.n0 L M0,nb⟩ Q:=by
 have hx' : xs[i.toNat]? = some x:=by
  grind [getO]
 have e0:0+i.toNat*1=i.toNat:=by omega
 rw [e0] at ha;refine Rn.loadT hw ha hM ?_ rfl h;rw [Quc,List.getElem?_map,hx'];rfl
theorem Rn.storeTA {t u:Nat} {i:Int} {xs ys:List (List α)} {y:List α} {c0:V} (hw:Wn E gd) (ha:a.val (look E) = .ptr (Γ.n0+t) (0+i.toNat*1)) (hb:look E u = .own sz (List.map e y)) (hM:Qbo L t=some (.cells ((Qw (fun (r:List α)=>[V.own sz (List.map e r)]) xs).set i.toNat c0))) (hx:setO xs i y=some ys)
  (h:Rn Γ pc os ⟨look ((u,.d (.lst sz (List.map e y)))::E),Ql Γ.n0 ((t,.cells (Qw (fun (r:List α)=>[V.own sz (List.map e r)]) ys))::L) M0,nb⟩ Q) :
  Rn Γ pc (⟨none,.store 1,[a,.t u],true,gd⟩::os) ⟨look E,Ql Γ.n0 L M0,nb⟩ Q:=by
 unfold setO at hx;split at hx<;>cases hx;rename_i hi;have e0:0+i.toNat*1=i.toNat:=by omega
 rw [e0] at ha;refine Rn.storeO hw ha hb hM ?_ ?_ h
 ·rw [Quc]
  grind [Nat.ble_eq_true_of_le,List.length_set,List.length_map]
 ·rw [Quc,Quc,List.map_set];rw [List.set_eq_take_append_cons_drop (l:=List.map _ xs) (i:=i.toNat) (a:=V.own sz (List.map e y)),if_pos (by simpa using hi.2)];simp [List.take_set_of_le,Nat.le_refl,List.drop_set_of_lt]
def Qyv (m:Nat):List (Nat×Bx)→List (Nat×Bx)
 | []=>[]
 | (t,b)::L=>(m+t,b)::Qyv m L
theorem Qwb {m t:Nat}:∀ {Lr:List (Nat×Bx)},Qbo (Qyv m Lr++L) t=if m≤t then (match Qbo Lr (t-m) with|some b=>some b|none=>Qbo L t) else Qbo L t
 | []=>by
  grind [Qyv,Qbo]
 | (u,b)::Lr=>by
  simp only [Qyv,List.cons_append,Qbo];rw [Qwb (Lr:=Lr)];by_cases hm:m≤t
  ·simp only [hm,if_true];by_cases hu:t=m+u
   ·simp_all
   grind [Nat.beq,absurd,Nat.eq_of_beq_eq_true]
  ·have h1:Nat.beq t (m+u)=false:=by
    grind [Nat.beq,Nat.eq_of_beq_eq_true]
   grind
theorem Qx9 {m:Nat} (hL:(L.all fun p=>Nat.blt p.1 m)=true) {t:Nat} (h:m≤t):Qbo L t=none:=by
 cases hb:Qbo L t with
 | none=>rfl
 | some b =>
  obtain ⟨p,hp,he⟩:=Qt9 hb;have:=List.all_eq_true.1 hL p hp;have:=Nat.le_of_ble_eq_true this;omega
theorem Qwc {n0 m:Nat} {Lr:List (Nat×Bx)} (hL:(L.all fun p=>Nat.blt p.1 m)=true):Ql (n0+m) Lr (Ql n0 L M0)=Ql n0 (Qyv m Lr++L) M0:=by
 funext k;simp only [Ql];by_cases h1:k<n0
 ·grind
 ·by_cases h2:k<n0+m
  ·rw [if_pos h2,if_neg h1,if_neg h1,Qwb,if_neg (by omega)]
  ·rw [if_neg h2,if_neg h1,Qwb,if_pos (by omega),Qx9 hL (t:=k-n0) (by omega),show k-(n0+m)=k-n0-m from by omega]
   grind
theorem Rn.callNew {f:FuncId} {as:List Arg} {args:List V} {r r' : V} {m n:Nat} {Lr L' : List (Nat×Bx)} (hw:Wn E gd) (ha:V.dems (as.map (·.val (look E)))=args)
  (hC:ACalls Γ.P f args (Ql Γ.n0 L M0) (Γ.n0+m) r (Ql (Γ.n0+m) Lr (Ql Γ.n0 L M0)) (Γ.n0+m+n)) (hr:r=r') (hLr:Qyv m Lr=L') (hL:(L.all fun p=>Nat.blt p.1 m)=true) (hM:∀ k,Γ.n0≤k→M0 k=none) (hpc:pcOf pc=0)
  (h:Rn Γ pc os ⟨look ((d,r')::E),Ql Γ.n0 (L'++L) M0,Γ.n0+(m+n)⟩ Q):Rn Γ pc (⟨some d,.call f,as,false,gd⟩::os) ⟨look E,Ql Γ.n0 L M0,Γ.n0+m⟩ Q:=by
 subst hr hLr;refine Rn.cons ?_;unfold COp.run;rw [hw.wanted];simp only [show (K.call f).isCall=true from rfl,if_true,COp.callee,ha];rw [hpc];refine ⟨r,Ql (Γ.n0+m) Lr (Ql Γ.n0 L M0),Γ.n0+m+n,hC,fun k hk=>?_,fun k cs2 hk hM'=>.inl ?_,?_⟩
 ·rcases Nat.lt_or_ge k (Γ.n0+m) with hlt|hge
  ·rw [Qb7 hlt];exact hk
  ·rw [Qbar hM hL k hge] at hk;cases hk
 ·rw [Qb7 (by omega)]
 ·rw [show Qbf (look E) (some d) r=look ((d,r)::E) from Qdt E d r,Qwc hL,show Γ.n0+m+n=Γ.n0+(m+n) from by omega];exact h
theorem Rn.callNewX {f:FuncId} {as:List Arg} {args:List V} {r r' : V} {m n:Nat} {Lr L' : List (Nat×Bx)} (hw:Wn E gd) (ha:V.dems (as.map (·.val (look E)))=args)
  (hC:∀ M2,ACalls Γ.P f args M2 (Γ.n0+m) r (Ql (Γ.n0+m) Lr M2) (Γ.n0+m+n)) (hr:r=r') (hLr:Qyv m Lr=L') (hL:(L.all fun p=>Nat.blt p.1 m)=true) (hpc:Nat.ble 10 (pcOf pc)=true)
  (h:Rn Γ pc os ⟨look ((d,r')::E),Ql Γ.n0 (L'++L) M0,Γ.n0+(m+n)⟩ Q):Rn Γ pc (⟨some d,.call f,as,false,gd⟩::os) ⟨look E,Ql Γ.n0 L M0,Γ.n0+m⟩ Q:=by
 subst hr hLr;refine Rn.cons ?_;unfold COp.run;rw [hw.wanted];simp only [show (K.call f).isCall=true from rfl,if_true,COp.callee,ha];have h10:=Nat.le_of_ble_eq_true hpc;obtain ⟨p,hp⟩ : ∃ p,pcOf pc=p+2:=⟨pcOf pc-2,by omega⟩;rw [hp];show (if p<8 then _ else _);rw [if_neg (by omega)];refine ⟨r,fun _=>none,fun k=>Qbo Lr (k-(Γ.n0+m)),Γ.n0+m+n,.inr fun _=>rfl,fun _ h=>(by cases h),fun _ _ _ h=>(by cases h),fun M2 _ _=>?_,?_⟩
 ·rw [Qfy fun _=>rfl];exact hC M2
 ·rw [Qfy fun _=>rfl,show Qbf (look E) (some d) r=look ((d,r)::E) from Qdt E d r,show (Ql Γ.n0 L M0).over (Γ.n0+m) (fun k=>Qbo Lr (k-(Γ.n0+m)))=Ql (Γ.n0+m) Lr (Ql Γ.n0 L M0) from rfl,Qwc hL,show Γ.n0+m+n=Γ.n0+(m+n) from by omega];exact h
def LOn (p:Nat→Prop):List (Nat×Bx)→Prop
 | []=>True
 | (_,.cells cs)::L=>V.ons p cs∧LOn p L
 | (_,.mp ..)::L=>LOn p L
theorem LOn.at {p:Nat→Prop}:∀ {L:List (Nat×Bx)},LOn p L→∀ t cs,Qbo L t=some (.cells cs)→V.ons p cs
 | [],_,t,cs,h=>by cases h
 | (u,.cells ds)::L,hp,t,cs,h=>by
  simp only [Qbo] at h;cases hb:Nat.beq t u with
  | true=>rw [hb] at h;cases h;exact hp.1
  | false=>rw [hb] at h;exact LOn.at hp.2 t cs h
 | (u,.mp ..)::L,hp,t,cs,h=>by
  simp only [Qbo] at h;cases hb:Nat.beq t u with
  | true=>rw [hb] at h;cases h
  | false=>rw [hb] at h;exact LOn.at (L:=L) hp t cs h
theorem Qwd {p:Nat→Prop} {g:α→List V} (h:∀ x,V.ons p (g x)):∀ xs:List α,V.ons p (Qw g xs)
 | []=>trivial
 | x::xs=>by rw [Qiu];exact Qen.2 ⟨h x,Qwd h xs⟩
theorem thN {n0 t:Nat} {b:Bx} (h:Qbo L t=some b):There (Ql n0 L M0) (n0+t):=by simp [There,Qci,h]
def LR (M:Mem) (n0:Nat):List (Nat×Bx)→Prop
 | []=>True
 | (t,b)::L=>M (n0+t)=some b∧LR M n0 L
theorem lrAt {n0:Nat}:∀ {Lr:List (Nat×Bx)},LR M n0 Lr→∀ t b,Qbo Lr t=some b→M (n0+t)=some b
 | [],_,t,b,h=>by cases h
 | (u,c)::Lr,hp,t,b,h=>by
  simp only [Qbo] at h;cases hb:Nat.beq t u with
  | true =>
   rw [hb] at h;have:=Nat.eq_of_beq_eq_true hb;subst this;cases h;exact hp.1
  | false=>rw [hb] at h;exact lrAt hp.2 t b h
def FinN (rs:List Res) (r:V) (n0:Nat) (M0:Mem) (Lr:List (Nat×Bx)) (n:Nat):Ex→St→Prop:=fun e σ =>
 (e = .norm∨e = .ret)∧∃ r',Ql6 σ rs=some r'∧Wk r' r∧r.on (There (Ql n0 Lr M0))∧LOn (There (Ql n0 Lr M0)) Lr∧(∀ k,k<n0→σ.M k=M0 k)∧(∀ t b,Qbo Lr t=some b→σ.M (n0+t)=some b)∧(Lr.all fun p=>Nat.blt p.1 n)=true
theorem Qbd1 {P:Program} {f:FuncId} {cf:CFn} (hcf:Qv P f=some cf) {args:List V} {r:V} (hargs:Nat.beq args.length cf.np=true) (M:Mem) (nb:Nat) {Lr:List (Nat×Bx)} {n:Nat}
  (hrun:∀ (Γ:Env),Γ.P=P→Γ.nt=cf.nt→Γ.n0=nb→(∀ k,Γ.n0≤k→M k=none)→Tr Γ cf.body ⟨Qn5 args,Ql Γ.n0 [] M,Γ.n0+cf.nt⟩ (FinN cf.res r Γ.n0 M Lr n)):ACalls P f args M nb r (Ql nb Lr M) (nb+n):=by
 by_cases hM:∀ k,nb≤k→M k=none
 case neg=>exact Qro (Qjh hcf) (by omega) hM
 by_cases hon:MOn (There M) M
 case neg=>exact ⟨Qjh hcf,by omega,fun w g us hm h=>absurd h hon⟩
 refine Qbew hcf hM (Nat.eq_of_beq_eq_true hargs) (by omega) fun Γ hP hn ht=>?_;have h:=hrun Γ hP ht hn (by rw [hn];exact hM);rw [Qrn (by rw [hn];exact hM),hn] at h;refine h.mono ?_;rintro e σ' ⟨he,r',h1,h2,h3,h4,h5,h6,h7⟩;have hlt:∀ k,There M k→k<nb:=fun k hk=>by
  grind [Nat.lt_or_ge,There]
 have hsub:∀ k,There M k→There (Ql nb Lr M) k:=fun k hk=>by
  grind [There,Qb7]
 refine ⟨he,r',h1,h2,fun k b hk=>?_,h3,fun k cs hk=>?_,fun k hk=>?_⟩
 ·rcases Nat.lt_or_ge k nb with hl|hge
  ·grind [Qb7]
  ·obtain ⟨t,rfl⟩ : ∃ t,k=nb+t:=⟨k-nb,by omega⟩
   grind [Qci]
 ·rcases Nat.lt_or_ge k nb with hl|hge
  ·rw [Qb7 hl] at hk;exact ons_mono hsub cs (hon k cs hk)
  ·obtain ⟨t,rfl⟩ : ∃ t,k=nb+t:=⟨k-nb,by omega⟩;rw [Qci] at hk;exact h4.at t cs hk
 ·rcases Nat.lt_or_ge k nb with hl|hge
  ·omega
  ·obtain ⟨t,rfl⟩ : ∃ t,k=nb+t:=⟨k-nb,by omega⟩
   grind [There,Qci,Nat.lt_or_ge,Qx9]
end Go.Abs
end
section
namespace Go.Abs
open Go
def Mem.puts (M:Mem):List (Nat×Bx)→Mem
 | []=>M
 | (k,b)::l=>(Mem.puts M l).put k b
variable {M M0 M1 M2 M3:Mem} {k k' : Nat} {b b' c:Bx} {B B' : List (Nat×Bx)}
theorem pg0:M.puts ((k,b)::B) k=some b:=by simp [Mem.puts,Mem.put]
theorem pgS (h:k≠k') (hg:M.puts B k=some b):M.puts ((k',c)::B) k=some b:=by simp [Mem.puts,Mem.put,h,hg]
theorem ps0:(M.puts ((k,b)::B)).put k b'=M.puts ((k,b')::B):=by
 funext i;simp only [Mem.puts,Mem.put];split<;>rfl
theorem psS (h:k≠k') (hp:(M.puts B).put k b=M.puts B'):(M.puts ((k',c)::B)).put k b=M.puts ((k',c)::B'):=by
 simp only [Mem.puts];rw [← hp]
 grind [Mem.put]
def Qba2 (M:Mem):List (Nat×Bx)→Prop
 | []=>True
 | (k,b)::l=>M k=some b∧Qba2 M l
theorem Q4t:∀ {B:List (Nat×Bx)},Qba2 M B→M.puts B=M
 | [],_=>rfl
 | (k,b)::l,h=>by
  rw [Mem.puts,Q4t h.2];funext i;simp only [Mem.put];split
  ·rename_i e;subst e;exact h.1.symm
  ·rfl
def Qbd2 (n:Nat):List (Nat×Bx)→Prop
 | []=>True
 | (k,_)::l=>k<n∧Qbd2 n l
theorem Q6d {n0:Nat} (hM:∀ k,n0≤k→M k=none):∀ {B:List (Nat×Bx)},Qbd2 n0 B→∀ k,n0≤k→M.puts B k=none
 | [],_,k,hk=>hM k hk
 | (j,b)::l,h,k,hk=>by
  have h1:k≠j:=by have:=h.1;omega
  simp only [Mem.puts,Mem.put,h1,if_false];exact Q6d hM h.2 k hk
theorem There.puts:∀ {B:List (Nat×Bx)} {k:Nat},There M k→There (M.puts B) k
 | [],_,h=>h
 | _::l,_,h=>There.put (There.puts (B:=l) h)
variable {Γ:Env} {pc d nb:Nat} {os:List COp} {E:List (Nat×V)} {L L' : List (Nat×Bx)} {Q:St→Prop} {gd:Option (Nat×Bool)} {x y:Arg}
theorem Tr.puts {cc:CC} {s:Sl} {Q:Ex→St→Prop} (B:List (Nat×Bx)) (h:Qba2 M0 B) (k:Tr Γ cc ⟨s,Ql Γ.n0 L (M0.puts B),nb⟩ Q):Tr Γ cc ⟨s,Ql Γ.n0 L M0,nb⟩ Q:=by
 rw [Q4t h] at k;exact k
theorem Rn.storeB {k off n:Nat} {v:V} {cs cs' : List V} (hw:Wn E gd) (ha:x.val (look E) = .ptr k off) (hb:(y.val (look E)).dem=v) (hv:Qel v=true) (hk:k<Γ.n0) (hl:v.lt Γ.n0=true) (hM:M1 k=some (.cells cs))
  (hn:(Nat.beq v.cells.length n&&Nat.ble (off+n) cs.length)=true) (hcs:cs.take off++v.cells++cs.drop (off+n)=cs') (hp:M1.put k (.cells cs')=M2)
  (h:Rn Γ pc os ⟨look E,Ql Γ.n0 L M2,nb⟩ Q):Rn Γ pc (⟨none,.store n,[x,y],false,gd⟩::os) ⟨look E,Ql Γ.n0 L M1,nb⟩ Q:=by
 simp only [Bool.and_eq_true] at hn;have h1:v.cells.length=n:=Nat.eq_of_beq_eq_true hn.1;have h2:=Nat.le_of_ble_eq_true hn.2;have hf:v.dem=v:=by rw [← hb];exact Qef _
 have ht:v.topS=v:=Qzn hf;refine Rn.kS (v:=.und) hw ?_ (fun _=>rfl) h;simp only [Bool.false_eq_true,if_false,List.map_cons,List.map_nil,V.dems,ha,V.dem,hb];simp only [Qk];cases v<;>first
  | (simp [Qel] at hv;done)
  | simp_all [Qua,decide_true,Bool.true_and,Bool.or_true,if_true,Qsl]
theorem Rn.storeOB {k u off sz:Nat} {l:List (List D)} {cs cs' : List V} (hw:Wn E gd) (ha:x.val (look E) = .ptr k off) (hb:look E u = .own sz l) (hk:k<Γ.n0) (hM:M1 k=some (.cells cs))
  (hn:Nat.ble (off+1) cs.length=true) (hcs:cs.take off++[.own sz l]++cs.drop (off+1)=cs') (hp:M1.put k (.cells cs')=M2)
  (h:Rn Γ pc os ⟨look ((u,.d (.lst sz l))::E),Ql Γ.n0 L M2,nb⟩ Q):Rn Γ pc (⟨none,.store 1,[x,.t u],true,gd⟩::os) ⟨look E,Ql Γ.n0 L M1,nb⟩ Q:=by
 have h2:=Nat.le_of_ble_eq_true hn;have hm:[x,Arg.t u].map (fun x=>x.val (look E))=[V.ptr k off,.own sz l]:=by simp only [List.map_cons,List.map_nil,ha];rw [show (Arg.t u).val (look E)=_ from hb]
 refine Rn.kS (v:=.und) hw ?_ (fun i=>?_) h
 ·simp_all [if_true,Qk,Qua,V.topS,V.cells,List.length_cons,List.length_nil,decide_true,Bool.true_and,V.lt,Bool.or_true,Qsl]
 ·simp only [if_true,hm,Qb1,Q5,V.dem];have:x.putTo (look E) (.ptr k off)=look E:=by
   cases x with
   | c v=>rfl
   | t j =>
    simp only [Arg.val] at ha;funext i;simp_all [Arg.putTo,Sl.put]
  rw [this,show (Arg.t u).putTo (look E) (.d (.lst sz l))=(look E).put u (.d (.lst sz l)) from rfl,Qdt]
theorem Rn.loadTB {k off sz:Nat} {l:List (List D)} {cs cs' : List V} (hw:Wn E gd) (ha:x.val (look E) = .ptr k off) (hk:k<Γ.n0) (hM:M1 k=some (.cells cs)) (hx:cs[off]? = some (.own sz l)) (hcs:cs.set off (.d (.lst sz l))=cs') (hp:M1.put k (.cells cs')=M2)
  (h:Rn Γ pc os ⟨look ((d,.own sz l)::E),Ql Γ.n0 L M2,nb⟩ Q):Rn Γ pc (⟨some d,.loadT,[x],false,gd⟩::os) ⟨look E,Ql Γ.n0 L M1,nb⟩ Q:=by
 refine Rn.k hw rfl rfl ?_ h
 grind [V.dems,V.dem,Qk,Qua,V.top,Qsl]
theorem Rn.storeAB {α:Type} {g:α→List V} {xs ys:List α} {sz k:Nat} {i:Int} {z:α} {v:V} (hg:∀ x,(g x).length=sz) (hw:Wn E gd) (ha:x.val (look E) = .ptr k (0+i.toNat*sz)) (hb:(y.val (look E)).dem=v) (hv:Qel v=true) (hk:k<Γ.n0) (hl:v.lt Γ.n0=true) (hM:M1 k=some (.cells (Qw g xs))) (hc:v.cells=g z)
  (hx:setO xs i z=some ys) (hp:M1.put k (.cells (Qw g ys))=M2) (h:Rn Γ pc os ⟨look E,Ql Γ.n0 L M2,nb⟩ Q):Rn Γ pc (⟨none,.store sz,[x,y],false,gd⟩::os) ⟨look E,Ql Γ.n0 L M1,nb⟩ Q:=by
 unfold setO at hx;split at hx<;>cases hx;rename_i hi;have hl2:=Qfn hg xs;have hb2:i.toNat*sz+sz≤xs.length*sz:=by
  rw [show i.toNat*sz+sz=(i.toNat+1)*sz from by grind];exact Nat.mul_le_mul_right _ hi.2
 refine Rn.storeB (cs':=Qw g (xs.set i.toNat z)) hw ha hb hv hk hl hM ?_ ?_ hp h
 ·simp_all
 ·rw [hc,Nat.zero_add];exact Qw8 hg z hi.2
def OkB (n0:Nat):List (Nat×Bx)→Prop
 | []=>True
 | (k,.cells cs)::l=>(n0≤k∨V.lt.go n0 cs=true)∧OkB n0 l
 | (k,.mp ..)::l=>OkB n0 l
theorem OkB.at {n0:Nat} {M:Mem}:∀ {B:List (Nat×Bx)},OkB n0 B→∀ k cs,k<n0→M.puts B k=some (.cells cs)→M.puts B k=M k∨V.lt.go n0 cs=true
 | [],_,_,_,_,_=>.inl rfl
 | (j,.cells ds)::l,h,k,cs,hk,hg=>by
  by_cases e:k=j
  ·subst e;simp only [Mem.puts,Mem.put,if_true,Option.some.injEq,Bx.cells.injEq] at hg;subst hg;rcases h.1 with h1|h1
   ·omega
   ·exact .inr h1
  ·simp only [Mem.puts,Mem.put,e,if_false] at hg ⊢;exact OkB.at h.2 k cs hk hg
 | (j,.mp ..)::l,h,k,cs,hk,hg=>by
  by_cases e:k=j
  ·simp_all [Mem.puts,Mem.put,if_true]
  ·simp only [Mem.puts,Mem.put,e,if_false] at hg ⊢;exact OkB.at (B:=l) h k cs hk hg
theorem cw0:(Ql Γ.n0 L M1).puts []=Ql Γ.n0 L M1:=rfl
theorem Q8r {t:Nat} (h:(Ql Γ.n0 L M1).puts B=Ql Γ.n0 L' M2):(Ql Γ.n0 L M1).puts ((Γ.n0+t,b)::B)=Ql Γ.n0 ((t,b)::L') M2:=by
 rw [Mem.puts,h,Qee]
theorem runW {o:COp} {f:FuncId} {args:List V} {r:V} (hw:o.wanted (look E)=some true) (hc:o.kind.isCall=true) (ha:o.callee (look E)=some (f,args)) (hC:ACalls Γ.P f args (Ql Γ.n0 L M1) nb r ((Ql Γ.n0 L M1).puts B) nb) (hB:OkB Γ.n0 B) (hp:(Ql Γ.n0 L M1).puts B=Ql Γ.n0 L' M2) (hpc:pcOf pc=0)
  (h:Rn Γ pc os ⟨Qbf (look E) o.dst r,Ql Γ.n0 L' M2,nb⟩ Q):Rn Γ pc (o::os) ⟨look E,Ql Γ.n0 L M1,nb⟩ Q:=by
 refine Rn.cons ?_;unfold COp.run;rw [hw];simp only [hc,if_true,ha,hpc];refine ⟨r,_,nb,hC,fun k hk=>There.puts hk,fun k cs hk hg=>hB.at k cs hk hg,?_⟩;rw [hp];exact h
theorem Rn.callW {f:FuncId} {as:List Arg} {args:List V} {r:V} (hw:Wn E gd) (ha:V.dems (as.map (·.val (look E)))=args) (hC:ACalls Γ.P f args (Ql Γ.n0 L M1) nb r ((Ql Γ.n0 L M1).puts B) nb) (hB:OkB Γ.n0 B) (hp:(Ql Γ.n0 L M1).puts B=Ql Γ.n0 L' M2) (hpc:pcOf pc=0)
  (h:Rn Γ pc os ⟨look ((d,r)::E),Ql Γ.n0 L' M2,nb⟩ Q):Rn Γ pc (⟨some d,.call f,as,false,gd⟩::os) ⟨look E,Ql Γ.n0 L M1,nb⟩ Q :=
 runW (hw.wanted _ _ _ _) rfl (by simp [COp.callee,ha]) hC hB hp hpc (by grind [Qbf,look,Qdt])
theorem Qya {M:Mem}:∀ {B:List (Nat×Bx)},M.patch (Mem.puts (fun _=>none) B)=M.puts B
 | []=>by funext k;rfl
 | (j,b)::B=>by
  funext k;have:=congrFun (Qya (M:=M) (B:=B)) k;simp only [Mem.patch,Mem.puts,Mem.put] at this ⊢
  grind
theorem Q4u {M:Mem}:∀ {B:List (Nat×Bx)} {k:Nat},(Mem.puts (fun _=>none) B k).isSome=true→(B.any fun p=>Nat.beq p.1 k)=true
 | [],k,h=>by cases h
 | (j,b)::B,k,h=>by
  simp only [Mem.puts,Mem.put] at h;simp only [List.any_cons,Bool.or_eq_true];by_cases e:k=j
  ·simp_all
  ·rw [if_neg e] at h;exact .inr (Q4u (M:=M) h)
def AllIn (M:Mem):List (Nat×Bx)→Prop
 | []=>True
 | (k,_)::B=>(M k).isSome=true∧AllIn M B
theorem AllIn.at {M:Mem}:∀ {B:List (Nat×Bx)},AllIn M B→∀ k,(B.any fun p=>Nat.beq p.1 k)=true→(M k).isSome=true
 | [],_,k,h=>by cases h
 | (j,b)::B,hA,k,h=>by
  simp only [List.any_cons,Bool.or_eq_true] at h;rcases h with h|h
  ·have:=Nat.eq_of_beq_eq_true h;subst this;exact hA.1
  ·exact AllIn.at hA.2 k h
theorem OkB.cells {n0:Nat}:∀ {B:List (Nat×Bx)},OkB n0 B→∀ k cs,k<n0→Mem.puts (fun _=>none) B k=some (.cells cs)→V.lt.go n0 cs=true
 | [],_,_,_,_,h=>by cases h
 | (j,.cells ds)::l,h,k,cs,hk,hg=>by
  by_cases e:k=j
  ·subst e;simp only [Mem.puts,Mem.put,if_true,Option.some.injEq,Bx.cells.injEq] at hg;subst hg;rcases h.1 with h1|h1
   ·omega
   ·exact h1
  ·simp only [Mem.puts,Mem.put,e,if_false] at hg;exact OkB.cells (B:=l) h.2 k cs hk hg
 | (j,.mp ..)::l,h,k,cs,hk,hg=>by
  by_cases e:k=j
  ·simp_all [Mem.puts,Mem.put,if_true]
  ·simp only [Mem.puts,Mem.put,e,if_false] at hg;exact OkB.cells (B:=l) h k cs hk hg
theorem Qbgh {M M2:Mem} (h:∀ k,(M k).isSome=true→M2 k=M k):Ext M M2:=fun k b hk=>by grind
theorem isS {M:Mem} {k:Nat} {b:Bx} (h:M k=some b):(M k).isSome=true:=by rw [h];rfl
theorem nwT {P:Program} {f:FuncId} {args:List V} {nb nb' : Nat} {r1 r2:V} {L1 L2:List (Nat×Bx)} {b:Bool} (hb:b=true) (h:ACalls P f args M nb (bif b then r1 else r2) (Ql nb (bif b then L1 else L2) M1) nb'):ACalls P f args M nb r1 (Ql nb L1 M1) nb':=by
 subst hb;exact h
theorem nwF {P:Program} {f:FuncId} {args:List V} {nb nb' : Nat} {r1 r2:V} {L1 L2:List (Nat×Bx)} {b:Bool} (hb:b=false) (h:ACalls P f args M nb (bif b then r1 else r2) (Ql nb (bif b then L1 else L2) M1) nb'):ACalls P f args M nb r2 (Ql nb L2 M1) nb':=by
 subst hb;exact h
theorem thB {n0:Nat} (hM:∀ k,n0≤k→M k=none) {k:Nat} {b:Bx} (h:M k=some b):There (Ql n0 L (M.puts B)) k:=by
 have h1:There (M.puts B) k:=There.puts (by simp [There,h]);simp only [There] at h1 ⊢;rw [Qb7 (ltB hM h)];exact h1
theorem Rn.callNW {f:FuncId} {as:List Arg} {args:List V} {r r' : V} {m n:Nat} {Lr L1:List (Nat×Bx)} (hw:Wn E gd) (ha:V.dems (as.map (·.val (look E)))=args)
  (hC:∀ M,(∀ k,(Ql Γ.n0 L M1 k).isSome=true→M k=Ql Γ.n0 L M1 k)→ACalls Γ.P f args M (Γ.n0+m) r (Ql (Γ.n0+m) Lr (M.puts B)) (Γ.n0+m+n)) (hr:r=r') (hB:OkB Γ.n0 B) (hA:AllIn (Ql Γ.n0 L M1) B) (hM:∀ k,Γ.n0≤k→M1 k=none)
  (hp:(Ql Γ.n0 L M1).puts B=Ql Γ.n0 L1 M2) (hLr:Qyv m Lr=L') (hL:(L.all fun p=>Nat.blt p.1 m)=true) (hL1:(L1.all fun p=>Nat.blt p.1 m)=true) (hpc:(Nat.beq (pcOf pc) 0||(Nat.ble 10 (pcOf pc)&&Nat.testBit (pcOf pc-10) d))=true)
  (h:Rn Γ pc os ⟨look ((d,r')::E),Ql Γ.n0 (L'++L1) M2,Γ.n0+(m+n)⟩ Q):Rn Γ pc (⟨some d,.call f,as,false,gd⟩::os) ⟨look E,Ql Γ.n0 L M1,Γ.n0+m⟩ Q:=by
 subst hLr hr;have h' : Rn Γ pc os ⟨Qbf (look E) (some d) r,Ql (Γ.n0+m) Lr ((Ql Γ.n0 L M1).puts B),Γ.n0+m+n⟩ Q:=by
  rw [show Qbf (look E) (some d) r=look ((d,r)::E) from Qdt E d r,hp,Qwc hL1,show Γ.n0+m+n=Γ.n0+(m+n) from by omega];exact h
 refine Rn.cons ?_;unfold COp.run;rw [hw.wanted];simp only [show (K.call f).isCall=true from rfl,if_true,COp.callee,ha];rw [Bool.or_eq_true] at hpc;rcases hpc with hpc|hpc
 ·rw [Nat.eq_of_beq_eq_true hpc];refine ⟨r,_,_,hC _ (fun _ _=>rfl),fun k hk=>?_,fun k cs hk hg=>?_,h'⟩
  ·have hlt:k<Γ.n0+m:=by
    rcases Nat.lt_or_ge k (Γ.n0+m) with h|h
    ·exact h
    ·rw [Qbar hM hL k h] at hk;cases hk
   rw [Qb7 hlt];exact There.puts hk
  ·rw [Qb7 (show k<Γ.n0+m by omega)] at hg ⊢;exact hB.at k cs hk hg
 ·rw [Bool.and_eq_true] at hpc;have h10:=Nat.le_of_ble_eq_true hpc.1;obtain ⟨p,hpp⟩ : ∃ p,pcOf pc=p+2:=⟨pcOf pc-2,by omega⟩;have hbit:Nat.testBit (p-8) d=true:=by grind
  rw [hpp];show (if p<8 then _ else _);rw [if_neg (by omega)];refine ⟨r,Mem.puts (fun _=>none) B,fun k=>Qbo Lr (k-(Γ.n0+m)),Γ.n0+m+n,.inl hbit,fun k hk=>hA.at k (Q4u (M:=M1) hk),fun k cs hk hg=>hB.cells k cs hk hg,fun M hM1 _=>?_,?_⟩
  ·rw [Qya];exact hC M hM1
  ·rw [Qya];exact h'
theorem Rn.storeV {t u off:Nat} {v:V} {cs cs' : List V} (hw:Wn E gd) (ha:x.val (look E) = .ptr (Γ.n0+t) off) (hb:look E u=v) (hv:Qel v=true) (hf:v.topS=v) (hf2:v.dem=v) (hM:Qbo L t=some (.cells cs))
  (hn:(Nat.beq v.cells.length 1&&Nat.ble (off+1) cs.length)=true) (hcs:cs.take off++v.cells++cs.drop (off+1)=cs')
  (h:Rn Γ pc os ⟨look E,Ql Γ.n0 ((t,.cells cs')::L) M0,nb⟩ Q):Rn Γ pc (⟨none,.store 1,[x,.t u],true,gd⟩::os) ⟨look E,Ql Γ.n0 L M0,nb⟩ Q:=by
 simp only [Bool.and_eq_true] at hn;have h1:v.cells.length=1:=Nat.eq_of_beq_eq_true hn.1;have h2:=Nat.le_of_ble_eq_true hn.2;have hm:[x,Arg.t u].map (fun x=>x.val (look E))=[V.ptr (Γ.n0+t) off,v]:=by simp only [List.map_cons,List.map_nil,ha];rw [show (Arg.t u).val (look E)=_ from hb]
 refine Rn.kS (v:=.und) hw ?_ (fun i=>?_) h
 ·simp only [if_true,hm];simp only [Qk];cases v<;>first
   | (simp [Qel] at hv;done)
   | simp_all [Q1,decide_true,Bool.true_and,Nat.le_add_right,Bool.true_or,if_true,Qee]
 ·simp only [if_true,hm,Qb1,Q5,hf2];have:x.putTo (look E) (.ptr (Γ.n0+t) off)=look E:=by
   cases x with
   | c v=>rfl
   | t j =>
    simp only [Arg.val] at ha;funext i;simp_all [Arg.putTo,Sl.put]
  have h3:(look E).put u v=look E:=by
   grind [Sl.put]
  rw [this,show (Arg.t u).putTo (look E) v=(look E).put u v from rfl,h3]
def argE:List Arg→List V→List (Nat×V)→List (Nat×V)
 | .t i::as,v::vs,E=>argE as vs ((i,v)::E)
 | .c _::as,_::vs,E=>argE as vs E
 | _,_,E=>E
theorem Qud:∀ (as:List Arg) (vs:List V) (E:List (Nat×V)),Q5 (look E) as vs=look (argE as vs E)
 | [],vs,E=>by cases vs<;>rfl
 | a::as,[],E=>by cases a<;>rfl
 | .t i::as,v::vs,E=>by
  simp only [Q5,argE];rw [show (Arg.t i).putTo (look E) v=(look E).put i v from rfl,Qdt];exact Qud as vs _
 | .c _::as,v::vs,E=>by
  simp only [Q5,argE];exact Qud as vs E
theorem Rn.buildT {as:List Arg} {z:List V} {ps:List (Nat×Nat)} {v:V} (hw:Wn E gd) (hk:Qk Γ.n0 (Γ.n0+d) (.build z ps) (as.map (·.val (look E))) M=some (v,M))
  (h:Rn Γ pc os ⟨look ((d,v)::argE as (V.dems (as.map (·.val (look E)))) E),M,nb⟩ Q):Rn Γ pc (⟨some d,.build z ps,as,true,gd⟩::os) ⟨look E,M,nb⟩ Q:=by
 refine Rn.kT hw rfl rfl hk (fun i=>?_) h
 simp_all [Qb1,look,V.dems,Qud,Qdt]
theorem Rn.storeT {t u off n:Nat} {v:V} {ds cs cs' : List V} (hw:Wn E gd) (ha:x.val (look E) = .ptr (Γ.n0+t) off) (hb:look E u=v) (hv:Qel v=true) (hds:v.topS.cells=ds) (hM:Qbo L t=some (.cells cs))
  (hn:(Nat.beq ds.length n&&Nat.ble (off+n) cs.length)=true) (hcs:cs.take off++ds++cs.drop (off+n)=cs')
  (h:Rn Γ pc os ⟨look ((u,v.dem)::E),Ql Γ.n0 ((t,.cells cs')::L) M0,nb⟩ Q):Rn Γ pc (⟨none,.store n,[x,.t u],true,gd⟩::os) ⟨look E,Ql Γ.n0 L M0,nb⟩ Q:=by
 simp only [Bool.and_eq_true] at hn;have h1:v.topS.cells.length=n:=by simp_all
 have h2:=Nat.le_of_ble_eq_true hn.2;have hm:[x,Arg.t u].map (fun x=>x.val (look E))=[V.ptr (Γ.n0+t) off,v]:=by simp only [List.map_cons,List.map_nil,ha];rw [show (Arg.t u).val (look E)=_ from hb]
 refine Rn.kS (v:=.und) hw ?_ (fun i=>?_) h
 ·simp only [if_true,hm];simp only [Qk];cases v<;>first
   | (simp [Qel] at hv;done)
   | simp_all [Q1,decide_true,Bool.true_and,Nat.le_add_right,Bool.true_or,if_true,Qee]
 ·simp only [if_true,hm,Qb1,Q5];have:x.putTo (look E) (.ptr (Γ.n0+t) off)=look E:=by
   cases x with
   | c v=>rfl
   | t j =>
    simp only [Arg.val] at ha;funext i;simp_all [Arg.putTo,Sl.put]
  rw [this,show (Arg.t u).putTo (look E) v.dem=(look E).put u v.dem from rfl,Qdt]
def WkB:List (Nat×Bx)→List (Nat×Bx)→Prop
 | [],[]=>True
 | (k,.cells cs)::B,(k',.cells cs')::B'=>(k=k'∧WkVs cs cs')∧WkB B B'
 | _,_=>False
theorem WkB.at {M:Mem}:∀ {B B' : List (Nat×Bx)},WkB B B'→∀ k,M.puts B' k=M.puts B k∨∃ cs cs',M.puts B k=some (.cells cs)∧M.puts B' k=some (.cells cs')∧WkVs cs cs'
 | [],[],_,_=>.inl rfl
 | (j,.cells cs)::B,(j',.cells cs')::B',h,k=>by
  obtain ⟨⟨e,hw⟩,h⟩:=h;subst e;by_cases hk:k=j
  ·grind [pg0]
  ·simp only [Mem.puts,Mem.put,hk,if_false];exact WkB.at h k
 | [],_::_,h,_=>h.elim
 | (_,.cells _)::_,[],h,_=>h.elim
 | (_,.mp ..)::_,[],h,_=>h.elim
 | (_,.mp ..)::_,_::_,h,_=>h.elim
 | (_,.cells _)::_,(_,.mp ..)::_,h,_=>h.elim
def FinW (rs:List Res) (r:V) (n0:Nat) (M1:Mem):Ex→St→Prop:=fun e σ =>
 (e = .norm∨e = .ret)∧∃ r',Ql6 σ rs=some r'∧Wk r' r∧r.on (There M1)∧∀ k,k<n0→σ.M k=M1 k
theorem Qbgi {P:Program} {f:FuncId} {cf:CFn} (hcf:Qv P f=some cf) {args:List V} {r:V} (hargs:Nat.beq args.length cf.np=true) (M M1:Mem) (nb:Nat) (hM1:(∀ k,nb≤k→M k=none)→∀ k,nb≤k→M1 k=none)
  (hrun:∀ (Γ:Env),Γ.P=P→Γ.nt=cf.nt→Γ.n0=nb→(∀ k,Γ.n0≤k→M k=none)→Tr Γ cf.body ⟨Qn5 args,Ql Γ.n0 [] M,Γ.n0+cf.nt⟩ (FinW cf.res r Γ.n0 M1)):ACalls P f args M nb r M1 nb:=by
 by_cases hM:∀ k,nb≤k→M k=none
 case neg=>exact Qro (Qjh hcf) (Nat.le_refl _) hM
 have hM1:=hM1 hM;have hlt:∀ k,There M1 k→k<nb:=fun k hk=>by
  grind [Nat.lt_or_ge,There]
 refine Qbap hcf hM (Nat.eq_of_beq_eq_true hargs) (Nat.le_refl _) fun Γ hP hn ht=>?_;have h:=hrun Γ hP ht hn (by rw [hn];exact hM);rw [Qrn (by rw [hn];exact hM),hn] at h;refine h.mono ?_;rintro e σ' ⟨he,r',h1,h2,h3,h4⟩;refine ⟨he,r',h1,h2,fun k b hk=>?_,fun _ hons _=>⟨h3,fun k cs hk=>?_,hlt⟩⟩
 ·grind
 ·have hk':=hlt k (by simp [There,hk]);have h5:=(hons k cs (by rw [h4 k hk'];exact hk)).1;have h6:=(hons k cs (by rw [h4 k hk'];exact hk)).2 hk';refine ons_mono (fun j hj=>?_) cs (ons_and cs h5 h6)
  grind [There]
def Qbg5 (rs:List Res) (r:V) (n0:Nat) (M1:Mem) (Lr:List (Nat×Bx)) (n:Nat):Ex→St→Prop:=fun e σ =>
 (e = .norm∨e = .ret)∧∃ r',Ql6 σ rs=some r'∧Wk r' r∧r.on (There (Ql n0 Lr M1))∧LOn (There (Ql n0 Lr M1)) Lr∧(∀ k,k<n0→σ.M k=M1 k)∧(∀ t b,Qbo Lr t=some b→σ.M (n0+t)=some b)∧(Lr.all fun p=>Nat.blt p.1 n)=true
theorem Qbe4 {P:Program} {f:FuncId} {cf:CFn} (hcf:Qv P f=some cf) {args:List V} {r:V} (hargs:Nat.beq args.length cf.np=true) (M M1:Mem) (nb:Nat) {Lr:List (Nat×Bx)} {n:Nat} (hM1:(∀ k,nb≤k→M k=none)→∀ k,nb≤k→M1 k=none)
  (hrun:∀ (Γ:Env),Γ.P=P→Γ.nt=cf.nt→Γ.n0=nb→(∀ k,Γ.n0≤k→M k=none)→Tr Γ cf.body ⟨Qn5 args,Ql Γ.n0 [] M,Γ.n0+cf.nt⟩ (Qbg5 cf.res r Γ.n0 M1 Lr n)):ACalls P f args M nb r (Ql nb Lr M1) (nb+n):=by
 by_cases hM:∀ k,nb≤k→M k=none
 case neg=>exact Qro (Qjh hcf) (by omega) hM
 have hM1:=hM1 hM;have hlt:∀ k,There M1 k→k<nb:=fun k hk=>by
  grind [Nat.lt_or_ge,There]
 have hsub:∀ k,There M1 k→There (Ql nb Lr M1) k:=fun k hk=>by
  grind [There,Qb7]
 refine Qbap hcf hM (Nat.eq_of_beq_eq_true hargs) (by omega) fun Γ hP hn ht=>?_;have h:=hrun Γ hP ht hn (by rw [hn];exact hM);rw [Qrn (by rw [hn];exact hM),hn] at h;refine h.mono ?_;rintro e σ' ⟨he,r',h1,h2,h3,h4,h5,h6,h7⟩;refine ⟨he,r',h1,h2,fun k b hk=>?_,fun _ hons _=>⟨h3,fun k cs hk=>?_,fun k hk=>?_⟩⟩
 ·rcases Nat.lt_or_ge k nb with hl|hge
  ·grind [Qb7]
  ·obtain ⟨t,rfl⟩ : ∃ t,k=nb+t:=⟨k-nb,by omega⟩
   grind [Qci]
 ·rcases Nat.lt_or_ge k nb with hl|hge
  ·rw [Qb7 hl] at hk;have k5:=(hons k cs (by rw [h5 k hl];exact hk)).1;have k6:=(hons k cs (by rw [h5 k hl];exact hk)).2 hl;refine ons_mono (fun j hj=>hsub j ?_) cs (ons_and cs k5 k6)
   grind [There]
  ·obtain ⟨t,rfl⟩ : ∃ t,k=nb+t:=⟨k-nb,by omega⟩;rw [Qci] at hk;exact h4.at t cs hk
 ·rcases Nat.lt_or_ge k nb with hl|hge
  ·omega
  ·obtain ⟨t,rfl⟩ : ∃ t,k=nb+t:=⟨k-nb,by omega⟩
   grind [There,Qci,Nat.lt_or_ge,Qx9]
theorem res0 {σ:St}:Ql6 σ []=some (.tup []):=rfl
theorem Q8s {n0 a b:Nat} (h:Nat.beq a b=false):n0+a≠n0+b:=by
 intro e
 simp_all
end Go.Abs
end
section
namespace Go.Abs
open Go
theorem Q7o {α:Type} {e:α→List D} {g:α→List V} (hg:∀ x,g x=(e x).map V.d):∀ xs:List α,Qdy (List.map e xs) 0=Qw g xs
 | []=>rfl
 | x::xs=>by
  have:=Q7o hg xs;unfold Qdy at this ⊢;rw [Qiu,← this,hg];simp
theorem Qba3 {α:Type} {e:α→List D} {g:α→List V} {sz:Nat} {P:Program} {c:Nat} {ex:List V} {xs ys:List α} (hg:∀ x,g x=(e x).map V.d)
  (hr:xs.length≤maxLen→∀ cap k0 M nb,M k0=some (.cells (Qdy (List.map e xs) ((cap-xs.length)*sz)))→ACalls P c (.sl sz k0 0 xs.length cap::ex) M nb (.tup []) (M.put k0 (.cells (Qdy (List.map e ys) ((cap-xs.length)*sz)))) nb)
  (hl:xs.length≤maxLen) {k nb:Nat} {M:Mem} (hM:M k=some (.cells (Qw g xs))):ACalls P c (.sl sz k 0 xs.length xs.length::ex) M nb (.tup []) (M.put k (.cells (Qw g ys))) nb:=by
 have h:=hr hl xs.length k M nb;rw [Nat.sub_self,Nat.zero_mul,Q7o hg,Q7o hg] at h;exact h hM
theorem acB {P:Program} {f:FuncId} {args:List V} {M:Mem} {nb nb' : Nat} {r:V} {B B' : List (Nat×Bx)} (h:ACalls P f args M nb r (M.puts B') nb') (e:B'=B):ACalls P f args M nb r (M.puts B) nb':=e ▸ h
end Go.Abs
end
section
namespace Go.Abs
open Go
variable {α:Type}
def neO (l:List α):Option Unit:=match l with
 | []=>none
 | _::_=>some ()
theorem Qsq {l:List α} (h:neO l=some ()):¬ l=[]:=by
 rintro rfl;cases h
abbrev rowR (g:α→List V) (xs:List α) (R:Nat):List V:=Qw g xs++List.replicate R .und
theorem Qbcu {e:α→List D} {g:α→List V} (hg:∀ x,g x=(e x).map V.d) (xs:List α) (R:Nat):Qdy (List.map e xs) R=rowR g xs R:=by
 have:=Q7o hg xs;unfold Qdy at this ⊢;rw [List.replicate_zero,List.append_nil] at this;rw [this]
theorem Q4v {Γ:Env} {cc:CC} {Q:Ex→St→Prop} (hG:Lone Γ) {M0:Mem} (hMe:M0=fun _=>none) (t0 i κ:Nat) {sz m:Nat} {e:α→List D} (g:α→List V) {xs:List α} {E:List (Nat×V)} {L:List (Nat×Bx)} {cs0:List V} (hg:∀ x,g x=(e x).map V.d) (hxs:¬ xs=[]) (hpl:∀ x,(e x).all Qrp=true) (hM0:Qbo L t0=some (.cells cs0))
  (hi:cs0[i]? = some (.own sz (List.map e xs))) (hκ2:Nat.blt κ m=true) (hκM:Qbo L κ=none) (hE:PL E) (hL:PB t0 i L)
  (h:∀ c R,xs.length≤c→Tr Γ cc ⟨look E,Ql Γ.n0 ((κ,.cells (rowR g xs R))::(t0,.cells (cs0.set i (.sl sz (Γ.n0+κ) 0 xs.length c)))::L) M0,Γ.n0+m⟩ Q):Tr Γ cc ⟨look E,Ql Γ.n0 L M0,Γ.n0+m⟩ Q:=by
 refine Qbge hG hMe t0 i κ hxs hpl hM0 hi hκ2 hκM hE hL fun c h1 h2=>?_;rw [Qbcu hg];exact h c _ h1
theorem PV.of:∀ {vs:List V},Qgm.go vs=true→PV vs
 | [],_=>trivial
 | v::vs,h=>by simp only [Qgm.go,Bool.and_eq_true] at h;exact ⟨h.1,PV.of h.2⟩
theorem Q3e {e:α→List D} {g:α→List V} {xs:List α} {R:Nat} (hg:∀ x,g x=(e x).map V.d) (hpl:∀ x,(e x).all Qrp=true):PV (rowR g xs R):=by
 refine PV.of ?_;rw [Q29,← Qbcu hg];intro v hv;simp only [Qdy,List.mem_append,List.mem_map,List.mem_replicate,List.mem_flatten] at hv;rcases hv with ⟨x,⟨l,⟨y,_,rfl⟩,hx⟩,rfl⟩|⟨_,rfl⟩
 ·exact List.all_eq_true.1 (hpl y) x hx
 ·rfl
theorem Qn8 {g:α→List V} {xs:List α} {R:Nat} {f:V→V} (h:∀ x,(g x).map f=g x) (hu:f .und = .und):WkVs ((rowR g xs R).map f) (rowR g xs R):=by
 refine .same ?_;unfold rowR Qw;rw [List.map_append,List.map_replicate,hu,List.map_flatten,List.map_map];congr 2;exact List.map_congr_left fun x _=>h x
theorem preR {e:α→List D} {g:α→List V} {ys:List α} {R:Nat} (hg:∀ x,g x=(e x).map V.d):PreD (rowR g ys R) ((List.map e ys).flatten):=by
 rw [← Qbcu hg];exact Qbg0
variable {Γ:Env} {pc d nb:Nat} {os:List COp} {E:List (Nat×V)} {M M0:Mem} {L:List (Nat×Bx)} {Q:St→Prop} {gd:Option (Nat×Bool)} {a b:Arg} {g:α→List V} {xs:List α} {sz:Nat}
theorem Rn.loadR {k f n R:Nat} {ag:Bool} {i:Int} {x:α} {v:V} (hg:∀ x,(g x).length=sz) (hw:Wn E gd) (ha:a.val (look E) = .ptr k (0+i.toNat*sz+f)) (hM:M k=some (.cells (rowR g xs R))) (hx:getO xs i=some x) (hn:Nat.ble (f+max n 1) sz=true)
  (hv:(if ag then some (.agg (V.dems (((g x).drop f).take n))) else ((g x)[f]?).map (·.dem))=some v) (h:Rn Γ pc os ⟨look ((d,v)::E),M,nb⟩ Q):Rn Γ pc (⟨some d,.load ag n,[a],false,gd⟩::os) ⟨look E,M,nb⟩ Q:=by
 have hn:=Nat.le_of_ble_eq_true hn;unfold getO at hx;split at hx<;>try (cases hx;done)
 obtain ⟨hlt,hx'⟩:=List.getElem?_eq_some_iff.1 hx;have hl:=Qfn hg xs;have hge:=Q0i hg hx;have hb:i.toNat*sz+sz≤xs.length*sz:=by
  rw [show i.toNat*sz+sz=(i.toNat+1)*sz from by rw [Nat.add_mul,Nat.one_mul]];exact Nat.mul_le_mul_right _ hlt
 refine Rn.k hw rfl rfl ?_ h;simp only [List.map_cons,List.map_nil,V.dems,ha,V.dem,Qk,hM];rw [if_pos (by rw [List.length_append,hl];omega)];have hdrop:(rowR g xs R).drop (0+i.toNat*sz+f)=((Qw g xs).drop (i.toNat*sz)).drop f++List.replicate R .und:=by
  rw [List.drop_append_of_le_length (by omega),List.drop_drop];congr 2;omega
 cases ag with
 | true =>
  simp only [if_true,Option.some.injEq] at hv ⊢;have h2:(((Qw g xs).drop (i.toNat*sz)).drop f++List.replicate R V.und).take n=((g x).drop f).take n:=by
   rw [List.take_append_of_le_length (by simp only [List.length_drop];omega),← hge,List.drop_take,List.take_take];have:min n (sz-f)=n:=by omega
   rw [this]
  rw [← hv,hdrop,h2]
 | false =>
  simp only [Bool.false_eq_true,if_false] at hv ⊢;have:(rowR g xs R)[0+i.toNat*sz+f]? = (g x)[f]?:=by
   rw [List.getElem?_append_left (by omega),← hge,List.getElem?_take,if_pos (by omega),List.getElem?_drop];congr 1;omega
  rw [this];rw [Option.map_eq_some_iff] at hv;obtain ⟨y,hy,rfl⟩:=hv;rw [hy];rfl
theorem Rn.storeR {t R:Nat} {i:Int} {y:α} {ys:List α} {v:V} (hg:∀ x,(g x).length=sz) (hw:Wn E gd) (ha:a.val (look E) = .ptr (Γ.n0+t) (0+i.toNat*sz)) (hb:(b.val (look E)).dem=v) (hv:Qel v=true) (hM:Qbo L t=some (.cells (rowR g xs R))) (hc:v.cells=g y)
  (hx:setO xs i y=some ys) (h:Rn Γ pc os ⟨look E,Ql Γ.n0 ((t,.cells (rowR g ys R))::L) M0,nb⟩ Q):Rn Γ pc (⟨none,.store sz,[a,b],false,gd⟩::os) ⟨look E,Ql Γ.n0 L M0,nb⟩ Q:=by
 unfold setO at hx;split at hx<;>cases hx;rename_i hi;have hl:=Qfn hg xs;have hb2:i.toNat*sz+sz≤xs.length*sz:=by
  rw [show i.toNat*sz+sz=(i.toNat+1)*sz from by rw [Nat.add_mul,Nat.one_mul]];exact Nat.mul_le_mul_right _ hi.2
 refine Rn.store (cs':=rowR g (xs.set i.toNat y) R) hw ha hb hv hM ?_ ?_ h
 ·rw [hc,hg,List.length_append,hl];simp only [Bool.and_eq_true];exact ⟨by simp,Nat.ble_eq_true_of_le (by omega)⟩
 ·rw [hc,Nat.zero_add,List.take_append_of_le_length (by omega),List.drop_append_of_le_length (by omega),← List.append_assoc,Qw8 hg y hi.2]
end Go.Abs
end
section
namespace Go.Abs
open Go
section
variable {lk:Option Bx} {P:Prop} {f:V→V} {cs cs' : List V}
theorem bS (h1:lk=some (.cells cs)) (h2:P) (h3:cs.map f=cs'):∃ cs,lk=some (.cells cs)∧P∧WkVs (cs.map f) cs':=⟨cs,h1,h2,.same h3⟩
theorem bM {α:Type} {g:α→List V} {xs:List α} (h1:lk=some (.cells (Qw g xs))) (h2:P) (h3:∀ x,(g x).map f=g x):∃ cs,lk=some (.cells cs)∧P∧WkVs (cs.map f) (Qw g xs):=⟨_,h1,h2,Qbdx h3⟩
end
theorem mB {n0:Nat} {L:List (Nat×Bx)} {M0:Mem}:∀ k,k<n0→Ql n0 L M0 k=M0 k:=fun _ hk=>Qb7 hk
theorem cS {v v' : V} {vs vs' : List V} (h:v=v') (t:WkVs vs vs'):WkVs (v::vs) (v'::vs'):=.cons (sm h) t
section
variable {Γ:Env} {pc:Nat} {os:List COp} {E:List (Nat×V)} {M:Mem} {nb:Nat} {Q:St→Prop}
theorem lB {d:Nat} {a:Arg} {L:List (Nat×Bx)} {M0:Mem} {t off n:Nat} {ag:Bool} {cs:List V} {v:V} (ha:a.val (look E) = .ptr (Γ.n0+t) off) (hM:Qbo L t=some (.cells cs)) (hn:Nat.ble (off+n) cs.length=true) (hv:(if ag then some (.agg (V.dems ((cs.drop off).take n))) else (cs[off]?).map (·.dem))=some v)
  (h:Rn Γ pc os ⟨look ((d,v)::E),Ql Γ.n0 L M0,nb⟩ Q):Rn Γ pc (⟨some d,.load ag n,[a],false,none⟩::os) ⟨look E,Ql Γ.n0 L M0,nb⟩ Q:=Rn.load trivial ha (Q1 hM) hn hv h
end
end Go.Abs
end
section
namespace Go.Abs
universe u
open Go
section
variable {κ α:Type} [BEq κ]
abbrev ownE (sz:Nat) (e:α→List D) (x:List α):V:=.own sz (x.map e)
def mapH (ek:κ→V) (sz:Nat) (e:α→List D) (k:κ):Nat→List (κ×List α)→List (V×V×Nat)
 | _,[]=>[]
 | i,(k',v)::m=>if k==k' then (ek k',.d (.lst sz (v.map e)),i)::mapE ek (ownE sz e) (i+1) m else (ek k',ownE sz e v,i)::mapH ek sz e k (i+1) m
abbrev takH (sz:Nat) (e:α→List D) (m:List (κ×List α)) (k:κ):V:=if hasM m k then .own sz ((getM m k []).map e) else .nils sz
variable {ek:κ→V} {sz:Nat} {e:α→List D}
theorem Q7p {ev:α→V}:∀ {n i:Nat} (m:List (κ×α)),n≤i→upM n (mapE ek ev i m)=true
 | _,_,[],_=>rfl
 | n,i,_::m,h=>by
  simp only [mapE,upM,decide_eq_true h,Bool.true_and];exact Q7p m (Nat.le_refl _)
theorem Q0m {k:κ}:∀ {i:Nat} {m:List (κ×List α)},hasM m k=false→mapH ek sz e k i m=mapE ek (ownE sz e) i m
 | _,[],_=>rfl
 | i,(k',v)::m,h=>by
  simp only [hasM,List.any_cons,Bool.or_eq_false_iff] at h;simp only [mapH,mapE,h.1,Bool.false_eq_true,if_false];rw [Q0m (m:=m) h.2]
theorem Q4w {k:κ}:∀ {i:Nat} {m:List (κ×List α)},hasM m k=true→∃ x,(mapE ek (ownE sz e) i m)[idxS m k]? = some x∧modM x.1 (.d (.lst sz ((getM m k []).map e))) (idxS m k) (mapE ek (ownE sz e) i m)=mapH ek sz e k i m
 | _,[],h=>by cases h
 | i,(k',v)::m,h=>by
  simp only [hasM,List.any_cons] at h;simp only [idxS,mapE,mapH,getM];cases hb:(k==k') with
  | true=>exact ⟨_,rfl,by simp [modM]⟩
  | false =>
   rw [hb] at h;obtain ⟨x,h1,h2⟩:=Q4w (i:=i+1) (m:=m) (k:=k) (by simpa [hasM] using h);refine ⟨x,by simpa using h1,?_⟩;simp only [Bool.false_eq_true,if_false,modM,h2]
theorem Q7q {k:κ} {kd:MK} (hk:∀ a,kd.ok (ek a)=true):∀ (i:Nat) (m:List (κ×List α)),kd.all (mapH ek sz e k i m)=true
 | _,[]=>rfl
 | i,(k',v)::m=>by
  simp only [mapH];have h1:=Qso (ev:=ownE sz e) hk (i+1) m;have h2:=Q7q (k:=k) hk (i+1) m;simp only [MK.all] at *
  split<;>simp [hk,h1,h2]
theorem Q4x (hs:∀ a b,Qhx (ek a) (ek b)=(a==b)) {k:κ}:∀ (i:Nat) (m:List (κ×List α)),Qgz (ek k) (mapH ek sz e k i m)=if hasM m k then some (idxS m k,.d (.lst sz ((getM m k []).map e))) else none
 | _,[]=>rfl
 | i,(k',v)::m=>by
  simp only [mapH,Qxa,idxS,getM];by_cases hb:(k==k')=true
  ·simp [Qgz,hs,hb]
  ·simp only [hb,Bool.false_eq_true,if_false,Qgz,hs,Bool.false_or,Q4x hs (i+1) m];by_cases hq:hasM m k=true
   ·rw [if_pos hq,if_pos hq];rfl
   ·rw [if_neg hq,if_neg hq];rfl
theorem Q7r {k:κ} {v:List α}:∀ (i:Nat) {m:List (κ×List α)},hasM m k=true→modM (ek k) (ownE sz e v) (idxS m k) (mapH ek sz e k i m)=mapE ek (ownE sz e) i (setM m k v)
 | _,[],h=>by cases h
 | i,(k',v')::m,h=>by
  simp only [hasM,List.any_cons] at h;simp only [idxS,setM,mapH];cases hb:(k==k') with
  | true=>simp [modM,mapE]
  | false =>
   rw [hb] at h;simp only [Bool.false_eq_true,if_false,modM,mapE];rw [Q7r (i+1) (by simpa [hasM] using h)]
variable {Γ:Env} {pc d nb:Nat} {os:List COp} {E:List (Nat×V)} {M M' M0:Mem} {L:List (Nat×Bx)} {Q:St→Prop} {gd:Option (Nat×Bool)} {a b c:Arg} {m:List (κ×List α)}
section
variable (hs:∀ a b,Qhx (ek a) (ek b)=(a==b)) {kd:MK} (hk:∀ a,kd.ok (ek a)=true)
include hs hk
theorem Rn.lookupT {t:Nat} {z:V} {k:κ} (hz:z = .nils sz) (hw:Wn E gd) (ha:a.val (look E) = .mp (Γ.n0+t)) (hb:(b.val (look E)).dem=ek k) (hM:Qbo L t=some (.mp (mapE ek (ownE sz e) 0 m) m.length))
  (h:Rn Γ pc os ⟨look ((d,takH sz e m k)::E),Ql Γ.n0 ((t,.mp (mapH ek sz e k 0 m) m.length)::L) M0,nb⟩ Q):Rn Γ pc (⟨some d,.lookupT kd z,[a,b],false,gd⟩::os) ⟨look E,Ql Γ.n0 L M0,nb⟩ Q:=by
 subst hz;refine Rn.k hw rfl rfl ?_ h;simp only [List.map_cons,List.map_nil,V.dems,ha,hb,V.dem,Qk,Q1 hM,hk,Qso hk,Q7p m (Nat.le_refl _),Bool.and_self,if_true,Qrq hs 0 m []];rw [← Qee];cases hh:hasM m k with
 | true =>
  obtain ⟨x,h1,h2⟩:=Q4w (ek:=ek) (sz:=sz) (e:=e) (i:=0) hh;simp only [if_true,h1,Option.map_some,takH,hh,h2]
 | false =>
  simp only [Bool.false_eq_true,if_false,takH,hh,Q0m hh];have:(Ql Γ.n0 L M0).put (Γ.n0+t) (.mp (mapE ek (ownE sz e) 0 m) m.length)=Ql Γ.n0 L M0:=by
   funext j;simp only [Mem.put];split
   ·rename_i hj;subst hj;exact (Q1 hM).symm
   ·rfl
  rw [this];rfl
theorem Rn.mapsetT {t u:Nat} {k:κ} {v:List α} (hw:Wn E gd) (ha:a.val (look E) = .mp (Γ.n0+t)) (hb:b.val (look E)=ek k) (hc:look E u = .own sz (v.map e)) (hM:Qbo L t=some (.mp (mapH ek sz e k 0 m) m.length))
  (h:Rn Γ pc os ⟨look ((u,.d (.lst sz (v.map e)))::E),Ql Γ.n0 ((t,.mp (mapE ek (ownE sz e) 0 (setM m k v)) (setM m k v).length)::L) M0,nb⟩ Q):Rn Γ pc (⟨none,.mapsetT kd,[a,b,.t u],true,gd⟩::os) ⟨look E,Ql Γ.n0 L M0,nb⟩ Q:=by
 refine Rn.cons ?_;unfold COp.run;rw [hw.wanted];have hm:[a,b,Arg.t u].map (fun x=>x.val (look E))=[.mp (Γ.n0+t),ek k,.own sz (v.map e)]:=by
  simp only [List.map_cons,List.map_nil,ha,hb];rw [show (Arg.t u).val (look E)=_ from hc]
 have hst:Qk Γ.n0 (Γ.n0+0) (.mapsetT kd) [.mp (Γ.n0+t),ek k,.own sz (v.map e)] (Ql Γ.n0 L M0)=some (.und,Ql Γ.n0 ((t,.mp (mapE ek (ownE sz e) 0 (setM m k v)) (setM m k v).length)::L) M0):=by
  simp only [Qk,Q1 hM,hk,Q7q hk,Bool.and_self,if_true,Q4x hs];rw [← Qee];cases hh:hasM m k with
  | true=>simp only [if_true];rw [Q7r 0 hh,Qsp hh]
  | false =>
   simp only [Bool.false_eq_true,if_false];rw [Qxb hh,Qsn,Q0m hh];simp [mapE]
 simp only [K.isCall,K.isNil,Bool.false_eq_true,if_false,COp.step,COp.xs,if_true,Option.getD_none,hm,hst,Qbf];have hsl:Q5 (look E) [a,b,Arg.t u] (Qb1 (.mapsetT kd) [.mp (Γ.n0+t),ek k,.own sz (v.map e)])=look ((u,.d (.lst sz (v.map e)))::E):=by
  simp only [Qb1,Q5,V.dem];have put_same' : ∀ (x:Arg) (v:V),x.val (look E)=v→x.putTo (look E) v=look E:=by
   intro x v hv;cases x with
   | c _=>rfl
   | t i =>
    funext j;simp only [Arg.putTo,Sl.put];split
    ·rename_i hj;subst hj;exact hv.symm
    ·rfl
  rw [put_same' a _ ha,put_same' b _ hb];exact Qdt E u _
 rw [hsl];exact h
end
end
theorem sq {v:V}:WkV v v:=.same rfl
theorem sj {β:Type u} {x y:β} (h:some x=some y):y=x:=(Option.some.inj h).symm
def fl2 (off:Nat):V→Option (Nat×Nat)
 | .ptr k o=>some (k,o+off)
 | _=>none
def bi2 (op:BinOp) (tb:Bool):V→V→Option D
 | .d x,.d y=>binD op tb x y
 | _,_=>none
section
variable {Γ:Env} {pc:Nat} {os:List COp} {E:List (Nat×V)} {M:Mem} {nb:Nat} {Q:St→Prop} {d:Nat} {a b c:Arg}
theorem fP {k off o' : Nat} (ha:fl2 off (a.val (look E))=some (k,o')) (h:Rn Γ pc os ⟨look ((d,.ptr k o')::E),M,nb⟩ Q):Rn Γ pc (⟨some d,.fld off,[a],false,none⟩::os) ⟨look E,M,nb⟩ Q:=by
 cases hv:a.val (look E)<;>rw [hv] at ha<;>simp only [fl2,Option.some.injEq,Prod.mk.injEq,reduceCtorEq] at ha;obtain ⟨rfl,rfl⟩:=ha;exact Rn.fldP tv hv rfl h
theorem bN {op:BinOp} {tb:Bool} {z:D} (ha:bi2 op tb (a.val (look E)) (b.val (look E))=some z) (h:Rn Γ pc os ⟨look ((d,.d z)::E),M,nb⟩ Q):Rn Γ pc (⟨some d,.bin op tb,[a,b],false,none⟩::os) ⟨look E,M,nb⟩ Q:=by
 cases hv:a.val (look E)<;>cases hw:b.val (look E)<;>rw [hv,hw] at ha<;>simp only [bi2,reduceCtorEq] at ha;exact Rn.bin tv hv hw ha h
theorem sK {t:Nat} {k:K} {as:List Arg} {tk:Bool} {g:Nat} {q want:Bool} (h1:look E g = .d (.bool q)) (h2:q = !want) (h:Rn Γ pc os ⟨look ((t,.tup [])::E),M,nb⟩ Q):Rn Γ pc (⟨some t,k,as,tk,some (g,want)⟩::os) ⟨look E,M,nb⟩ Q:=Rn.sk (nw h1 h2) h
theorem pT (v:V) {q:Bool} (hq:c.val (look E) = .d (.bool q)) (hb:q=true) (ha:(a.val (look E)).dem=v) (h:Rn Γ pc os ⟨look ((d,v)::E),M,nb⟩ Q):Rn Γ pc (⟨some d,.pick,[c,a,b],false,none⟩::os) ⟨look E,M,nb⟩ Q:=Rn.pickT tv hq hb ha h
theorem pF (v:V) {q:Bool} (hq:c.val (look E) = .d (.bool q)) (hb:q=false) (ha:(b.val (look E)).dem=v) (h:Rn Γ pc os ⟨look ((d,v)::E),M,nb⟩ Q):Rn Γ pc (⟨some d,.pick,[c,a,b],false,none⟩::os) ⟨look E,M,nb⟩ Q:=Rn.pickF tv hq hb ha h
theorem mv (v:V) (ha:(a.val (look E)).dem=v) (h:Rn Γ pc os ⟨look ((d,v)::E),M,nb⟩ Q):Rn Γ pc (⟨some d,.mov,[a],false,none⟩::os) ⟨look E,M,nb⟩ Q:=Rn.mov tv ha h
end
end Go.Abs
end
section
namespace Go.Abs
open Go
variable {α:Type}
def updO (xs:List α) (i:Int) (φ:α→α):Option (List α):=(getO xs i).bind fun x=>setO xs i (φ x)
def preO (n:Nat) (j:Int):Option Unit:=if 0≤j∧j≤n then some () else none
theorem Qni {n:Nat} {j:Int} (h:preO n j=some ()):0≤j∧j≤n:=by
 unfold preO at h;split at h
 ·assumption
 ·cases h
def sufV (sz κ a n c:Nat):V:=if c=a then .sl sz κ 0 0 0 else .sl sz κ (a*sz) (n-a) (c-a)
theorem Q7s {sz κ a n c:Nat}:(sufV sz κ a n c).dem=sufV sz κ a n c:=by unfold sufV;split<;>rfl
theorem Qbgj {M:Mem} {k:Nat} {b:Bx} (h:M k=some b):M.put k b=M:=by
 funext j;unfold Mem.put;split
 ·rename_i e;rw [e,h]
 ·rfl
theorem Qxc {e:α→List D} {g:α→List V} {sz:Nat} (hge:∀ x,g x=(e x).map V.d) (hsz:∀ x,(e x).length=sz) {M:Mem} {xs:List α} {tl:List V} {k a n c:Nat} (hM:M k=some (.cells (Qw g xs++tl))) (h:a+n≤xs.length) :
  Qe4 M sz (.sl sz k (a*sz) n c)=some (((xs.drop a).take n).map e):=by
 have hg:∀ x,(g x).length=sz:=fun x=>by rw [hge,List.length_map,hsz]
 simp only [Qe4,if_true,hM];have hl:=Qfn hg xs;have h1:a*sz+n*sz≤xs.length*sz:=by rw [← Nat.add_mul];exact Nat.mul_le_mul_right _ h
 rw [if_pos (by rw [List.length_append,hl];omega)];have:((Qw g xs++tl).drop (a*sz)).take (n*sz)=Qw g ((xs.drop a).take n):=by
  rw [List.drop_append_of_le_length (by omega),List.take_append_of_le_length (by rw [List.length_drop];omega),Qve hg xs a (by omega),Qvf hg _ n (by rw [List.length_drop];omega)]
 rw [this,Qmq (fun x=>by rw [hge];exact Qx8 _),Option.map_some];have hc:=Qsm hsz ((xs.drop a).take n);have hn:((xs.drop a).take n).length=n:=by rw [List.length_take,List.length_drop];omega
 rw [hn] at hc;rw [hc]
variable {Γ:Env} {pc d nb:Nat} {os:List COp} {E:List (Nat×V)} {M M0:Mem} {L:List (Nat×Bx)} {Q:St→Prop} {gd:Option (Nat×Bool)} {a b:Arg} {g:α→List V} {e:α→List D} {xs:List α} {sz:Nat}
theorem Rn.storeF {t R f:Nat} {i:Int} {φ:α→α} {ys:List α} {v:V} (hg:∀ x,(g x).length=sz) (hφ:∀ x,g (φ x)=(g x).set f v) (hw:Wn E gd) (ha:a.val (look E) = .ptr (Γ.n0+t) (0+i.toNat*sz+f)) (hf:Nat.blt f sz=true) (hb:(b.val (look E)).dem=v) (hv:Qel v=true) (hc:v.cells=[v]) (hM:Qbo L t=some (.cells (rowR g xs R)))
  (hx:updO xs i φ=some ys) (h:Rn Γ pc os ⟨look E,Ql Γ.n0 ((t,.cells (rowR g ys R))::L) M0,nb⟩ Q):Rn Γ pc (⟨none,.store 1,[a,b],false,gd⟩::os) ⟨look E,Ql Γ.n0 L M0,nb⟩ Q:=by
 have hf:f<sz:=Nat.le_of_ble_eq_true hf;unfold updO getO setO at hx;split at hx<;>try (cases hx;done)
 rw [Option.bind_eq_some_iff] at hx;obtain ⟨x,hx1,hx2⟩:=hx;split at hx2<;>cases hx2;obtain ⟨hlt,hxe⟩:=List.getElem?_eq_some_iff.1 hx1;have hl:=Qfn hg xs;have hb2:i.toNat*sz+sz≤xs.length*sz:=by
  rw [show i.toNat*sz+sz=(i.toNat+1)*sz from by rw [Nat.add_mul,Nat.one_mul]];exact Nat.mul_le_mul_right _ hlt
 refine Rn.store (cs':=rowR g (xs.set i.toNat (φ x)) R) hw ha hb hv hM ?_ ?_ h
 ·rw [hc,List.length_append,hl];simp only [Bool.and_eq_true];exact ⟨by simp,Nat.ble_eq_true_of_le (by omega)⟩
 ·have hs:=Qw8 hg (φ x) hlt;have hge:=Q0i hg hx1;rw [hc];unfold rowR;rw [← hs,hφ,← hge,Nat.zero_add];generalize hA:Qw g xs=A at *
  rw [List.take_append_of_le_length (by omega),List.drop_append_of_le_length (by omega),← List.append_assoc];congr 1;refine List.ext_getElem? fun j=>?_;have e1:(A.take (i.toNat*sz+f)).length=i.toNat*sz+f:=by rw [List.length_take];omega
  have e2:(A.take (i.toNat*sz)).length=i.toNat*sz:=by rw [List.length_take];omega
  have e3:(((A.drop (i.toNat*sz)).take sz).set f v).length=sz:=by rw [List.length_set,List.length_take,List.length_drop];omega
  rw [List.append_assoc,List.append_assoc];by_cases h1:j<i.toNat*sz
  ·rw [List.getElem?_append_left (by omega),List.getElem?_append_left (by omega),List.getElem?_take,List.getElem?_take,if_pos (by omega),if_pos h1]
  ·rw [List.getElem?_append_right (l₁:=A.take (i.toNat*sz)) (by omega),e2];by_cases h2:j<i.toNat*sz+sz
   ·rw [List.getElem?_append_left (l₁:=((A.drop (i.toNat*sz)).take sz).set f v) (by omega),List.getElem?_set];by_cases h3:f=j-i.toNat*sz
    ·have:j=i.toNat*sz+f:=by omega
     subst this;rw [List.getElem?_append_right (by omega),e1,Nat.sub_self,if_pos h3,if_pos (by rw [List.length_take,List.length_drop];omega)]
     rfl
    ·rw [if_neg h3,List.getElem?_take,if_pos (by omega),List.getElem?_drop];by_cases h4:j<i.toNat*sz+f
     ·rw [List.getElem?_append_left (by omega),List.getElem?_take,if_pos h4];congr 1;omega
     ·rw [List.getElem?_append_right (by omega),e1,List.getElem?_append_right (by simp;omega),List.getElem?_drop];congr 1;simp;omega
   ·rw [List.getElem?_append_right (l₁:=((A.drop (i.toNat*sz)).take sz).set f v) (by omega),e3,List.getElem?_append_right (by omega),e1,List.getElem?_append_right (by simp;omega),List.getElem?_drop,List.getElem?_drop];congr 1;simp;omega
theorem Rn.slPre {κ n c:Nat} {kd:IntKind} {j:Int} (hw:Wn E gd) (ha:a.val (look E) = .sl sz κ 0 n c) (hb:b.val (look E) = .d (.int kd j)) (hj:preO n j=some ()) (hc:n≤c) (h:Rn Γ pc os ⟨look ((d,.sl sz κ 0 j.toNat c)::E),M,nb⟩ Q) :
  Rn Γ pc (⟨some d,.slice sz false true,[a,b],false,gd⟩::os) ⟨look E,M,nb⟩ Q:=by
 obtain ⟨h1,h2⟩:=Qni hj;refine Rn.k hw rfl rfl ?_ h;simp only [List.map_cons,List.map_nil,V.dems,ha,hb,V.dem,Qk,Option.getD_none,Option.getD_some,Int.toNat_zero,Nat.zero_mul,Nat.add_zero,Nat.sub_zero,Nat.zero_add];rw [if_pos (by simp [h1,h2,hc])];by_cases h0:c=0
 ·rw [if_pos h0];have:j.toNat=0:=by omega
  rw [h0,this]
 ·rw [if_neg h0]
theorem Rn.slSuf {κ n c:Nat} {kd:IntKind} {j:Int} (hw:Wn E gd) (ha:a.val (look E) = .sl sz κ 0 n c) (hb:b.val (look E) = .d (.int kd j)) (hj:preO n j=some ()) (hc:n≤c) (h:Rn Γ pc os ⟨look ((d,sufV sz κ j.toNat n c)::E),M,nb⟩ Q) :
  Rn Γ pc (⟨some d,.slice sz true false,[a,b],false,gd⟩::os) ⟨look E,M,nb⟩ Q:=by
 obtain ⟨h1,h2⟩:=Qni hj;refine Rn.k hw rfl rfl ?_ h;simp only [List.map_cons,List.map_nil,V.dems,ha,hb,V.dem,Qk,Option.getD_none,Option.getD_some,Nat.zero_add];rw [if_pos (by simp [h1,h2,hc])];simp [sufV]
theorem Rn.slPreN {kd:IntKind} {j:Int} (hw:Wn E gd) (ha:a.val (look E) = .nils sz) (hb:b.val (look E) = .d (.int kd j)) (hj:preO 0 j=some ()) (h:Rn Γ pc os ⟨look ((d,.nils sz)::E),M,nb⟩ Q) :
  Rn Γ pc (⟨some d,.slice sz false true,[a,b],false,gd⟩::os) ⟨look E,M,nb⟩ Q:=by
 obtain ⟨h1,h2⟩:=Qni hj;refine Rn.k hw rfl rfl ?_ h;have h2:j≤0:=by simpa using h2
 simp only [List.map_cons,List.map_nil,V.dems,ha,hb,V.dem,Qk,Option.getD_none,Option.getD_some];rw [if_pos (by simp [h1,h2])]
theorem Rn.slSufN {kd:IntKind} {j:Int} (hw:Wn E gd) (ha:a.val (look E) = .nils sz) (hb:b.val (look E) = .d (.int kd j)) (hj:preO 0 j=some ()) (h:Rn Γ pc os ⟨look ((d,.nils sz)::E),M,nb⟩ Q) :
  Rn Γ pc (⟨some d,.slice sz true false,[a,b],false,gd⟩::os) ⟨look E,M,nb⟩ Q:=by
 obtain ⟨h1,h2⟩:=Qni hj;refine Rn.k hw rfl rfl ?_ h;have h2:j≤0:=by simpa using h2
 simp only [List.map_cons,List.map_nil,V.dems,ha,hb,V.dem,Qk,Option.getD_none,Option.getD_some];rw [if_pos (by simp [h1,h2])]
theorem Q4y (hge:∀ x,g x=(e x).map V.d) (hsz:∀ x,(e x).length=sz) {M:Mem} {tl:List V} {κ s c:Nat} (hM:M κ=some (.cells (Qw g xs++tl))) (hs:s≤xs.length) (hc:xs.length≤c) :
  Qe4 M sz (sufV sz κ s xs.length c)=some ((xs.drop s).map e):=by
 unfold sufV;split
 ·have:=Qxc hge hsz (a:=0) (n:=0) (c:=0) hM (by omega);rw [Nat.zero_mul] at this;rw [this,show xs.drop s=[] from List.drop_eq_nil_of_le (by omega)];simp
 ·rw [Qxc hge hsz hM (by omega),List.take_of_length_le (by rw [List.length_drop];omega)]
theorem Rn.appwX {bytes κ k c:Nat} {x:V} {ys zs:List α} {tl:List V} (hge:∀ x,g x=(e x).map V.d) (hsz:∀ x,(e x).length=sz) (h0:(Nat.blt 0 sz&&Nat.ble bytes 128)=true) (hw:Wn E gd) (ha:a.val (look E) = .sl sz (Γ.n0+κ) 0 k c) (hb:(b.val (look E)).dem=x) (hM:Qbo L κ=some (.cells (Qw g xs++tl)))
  (hy:Qe4 (Ql Γ.n0 L M0) sz x=some (ys.map e)) (hk:k≤xs.length) (hk0:ys≠[]∨0<c) (hc:k≤c) (hroom:k+ys.length≤c→(k+ys.length)*sz≤(Qw g xs++tl).length) (hz:appO (xs.take k) ys=some zs)
  (h1:∀ tl',zs.length≤c→Rn Γ pc os ⟨look ((d,.sl sz (Γ.n0+κ) 0 zs.length c)::E),Ql Γ.n0 ((κ,.cells (Qw g zs++tl'))::L) M0,nb⟩ Q)
  (h2:c<k+ys.length→Rn Γ pc os ⟨look ((d,.own sz (zs.map e))::E),Ql Γ.n0 L M0,nb⟩ Q):Rn Γ pc (⟨some d,.appw sz bytes,[a,b],false,gd⟩::os) ⟨look E,Ql Γ.n0 L M0,nb⟩ Q:=by
 simp only [Bool.and_eq_true] at h0;have h01:0<sz:=Nat.le_of_ble_eq_true h0.1;have h02:=Nat.le_of_ble_eq_true h0.2;have hg:∀ x,(g x).length=sz:=fun x=>by rw [hge,List.length_map,hsz]
 have hMm:Ql Γ.n0 L M0 (Γ.n0+κ)=some (.cells (Qw g xs++tl)):=(Qci ..).trans hM;have el:Qe4 (Ql Γ.n0 L M0) sz (.sl sz (Γ.n0+κ) 0 k c)=some ((xs.take k).map e):=by
  have:=Qxc hge hsz (a:=0) (n:=k) (c:=c) hMm (by omega)
  rwa [Nat.zero_mul,List.drop_zero] at this
 unfold appO at hz;split at hz<;>cases hz;rename_i hlim;have hlk:(xs.take k).length=k:=by rw [List.length_take];omega
 have hzl:(xs.take k++ys).length=k+ys.length:=by rw [List.length_append,hlk]
 have hl:=Qfn hg xs;have hkm:k*sz≤xs.length*sz:=Nat.mul_le_mul_right _ hk;have htk:(Qw g xs++tl).take (k*sz)=Qw g (xs.take k):=by
  rw [List.take_append_of_le_length (by omega),Qvf hg xs k hk]
 by_cases hfit:k+ys.length≤c
 ·rw [hzl] at h1;by_cases hy0:ys=[]
  ·subst hy0;refine Rn.k (v:=.sl sz (Γ.n0+κ) 0 k c) (M':=Ql Γ.n0 L M0) hw rfl rfl ?_ ?_
   ·simp only [List.map_cons,List.map_nil,V.dems,ha,hb,V.dem,Qk,el,hy,hMm,List.length_nil,if_true];have h3:0<c:=hk0.resolve_left (by simp);rw [if_neg (by simp;omega),if_pos hc]
   ·have:=h1 ((Qw g xs++tl).drop (k*sz)) hfit;rw [List.append_nil,← htk,List.take_append_drop,← Qee,Qbgj hMm] at this;simpa using this
  ·have hyl:0<ys.length:=List.length_pos_iff.2 hy0;refine Rn.k (v:=.sl sz (Γ.n0+κ) 0 (k+ys.length) c) (M':=(Ql Γ.n0 L M0).put (Γ.n0+κ) (.cells ((Qw g xs++tl).take (0+k*sz)++(ys.map e).flatten.map V.d++(Qw g xs++tl).drop (0+k*sz+ys.length*sz)))) hw rfl rfl ?_ ?_
   ·simp only [List.map_cons,List.map_nil,V.dems,ha,hb,V.dem,Qk,el,hy,hMm,List.length_map];rw [if_neg (by omega),if_pos hfit,if_pos]
    ·simp only [Bool.and_eq_true,decide_eq_true_eq,List.all_eq_true,beq_iff_eq,Nat.zero_add];refine ⟨⟨h01,hroom hfit⟩,fun y hy=>?_⟩;obtain ⟨x,_,rfl⟩:=List.mem_map.1 hy;exact hsz x
   ·have:=h1 ((Qw g xs++tl).drop (k*sz+ys.length*sz)) hfit;rw [← Qee] at this;simp only [Nat.zero_add];rw [htk];have hyf:(List.map e ys).flatten.map V.d=Qw g ys:=by
     unfold Qw;rw [List.map_flatten,List.map_map];congr 1;exact List.map_congr_left fun x _=>(hge x).symm
    rw [hyf];have hfa:Qw g (xs.take k++ys)=Qw g (xs.take k)++Qw g ys:=by simp [Qw]
    rw [hfa] at this;exact this
 ·refine Rn.k (v:=.own sz ((xs.take k++ys).map e)) (M':=Ql Γ.n0 L M0) hw rfl rfl ?_ (h2 (by omega));simp only [List.map_cons,List.map_nil,V.dems,ha,hb,V.dem,Qk,el,hy,hMm,List.length_map];rw [if_neg (by omega),if_neg hfit,if_pos (by simp only [Bool.and_eq_true,decide_eq_true_eq];exact ⟨⟨⟨by omega,by omega⟩,h02⟩,h01⟩),List.map_append]
theorem Rn.appwN {bytes:Nat} {x:V} {ys zs:List α} (h0:(Nat.blt 0 sz&&Nat.ble bytes 128)=true) (hw:Wn E gd) (ha:a.val (look E) = .nils sz) (hb:(b.val (look E)).dem=x) (hy:Qe4 M sz x=some (ys.map e)) (hz:appO [] ys=some zs)
  (h:Rn Γ pc os ⟨look ((d,.own sz (zs.map e))::E),M,nb⟩ Q):Rn Γ pc (⟨some d,.appw sz bytes,[a,b],false,gd⟩::os) ⟨look E,M,nb⟩ Q:=by
 simp only [Bool.and_eq_true] at h0;have h01:0<sz:=Nat.le_of_ble_eq_true h0.1;have h02:=Nat.le_of_ble_eq_true h0.2;unfold appO at hz;split at hz<;>cases hz;rename_i hlim;refine Rn.k hw rfl rfl ?_ h;simp only [List.map_cons,List.map_nil,V.dems,ha,hb,V.dem,Qk,hy,List.length_map];simp only [List.length_nil,Nat.zero_add] at hlim;rw [if_pos (by simp only [Bool.and_eq_true,decide_eq_true_eq];exact ⟨⟨⟨trivial,hlim⟩,h02⟩,h01⟩),List.nil_append]
def leO (j s:Int):Option Unit:=if j.toNat≤s.toNat then some () else none
theorem Qbcv {j s:Int} (h:leO j s=some ()):j.toNat≤s.toNat:=by
 unfold leO at h;split at h
 ·assumption
 ·cases h
def delO (l:List α) (j s:Int):Option (List α):=(leO j s).bind fun _=>appO (l.take j.toNat) (l.drop s.toNat)
theorem Rn.appwD {bytes κ c R:Nat} {j s:Int} {zs:List α} (hge:∀ x,g x=(e x).map V.d) (hsz:∀ x,(e x).length=sz) (h0:(Nat.blt 0 sz&&Nat.ble bytes 128)=true) (hw:Wn E gd) (ha:a.val (look E) = .sl sz (Γ.n0+κ) 0 j.toNat c) (hb:b.val (look E)=sufV sz (Γ.n0+κ) s.toNat xs.length c) (hM:Qbo L κ=some (.cells (rowR g xs R)))
  (hx:¬ xs=[]) (hs:preO xs.length s=some ()) (hc:xs.length≤c) (hz:delO xs j s=some zs)
  (h:∀ tl,zs.length≤c→Rn Γ pc os ⟨look ((d,.sl sz (Γ.n0+κ) 0 zs.length c)::E),Ql Γ.n0 ((κ,.cells (Qw g zs++tl))::L) M0,nb⟩ Q):Rn Γ pc (⟨some d,.appw sz bytes,[a,b],false,gd⟩::os) ⟨look E,Ql Γ.n0 L M0,nb⟩ Q:=by
 obtain ⟨h1,h2⟩:=Qni hs;unfold delO at hz;rw [Option.bind_eq_some_iff] at hz;obtain ⟨⟨⟩,hle,hz⟩:=hz;have h3:=Qbcv hle;have hx0:0<xs.length:=List.length_pos_iff.2 hx;have hg:∀ x,(g x).length=sz:=fun x=>by rw [hge,List.length_map,hsz]
 have hl:=Qfn hg xs;have hzl:zs.length≤c:=by
  unfold appO at hz;split at hz<;>cases hz;rw [List.length_append,List.length_take,List.length_drop];omega
 have hMm:Ql Γ.n0 L M0 (Γ.n0+κ)=some (.cells (Qw g xs++List.replicate R .und)):=(Qci ..).trans hM;refine Rn.appwX (ys:=xs.drop s.toNat) hge hsz h0 hw ha (by rw [hb];exact Q7s) hM (Q4y hge hsz hMm (by omega) hc) (by omega) (.inr (by omega)) (by omega) (fun _=>?_) hz (fun tl _=>h tl hzl) (fun hlt=>?_)
 ·rw [List.length_append,hl,List.length_drop];have:(j.toNat+(xs.length-s.toNat))*sz≤xs.length*sz:=Nat.mul_le_mul_right _ (by omega);omega
 ·rw [List.length_drop] at hlt;omega
theorem Qbcw (hg:∀ x,(g x).length=sz) {c:Nat} (hc:xs.length≤c):(rowR g xs ((c-xs.length)*sz)).length=c*sz:=by
 unfold rowR;rw [List.length_append,Qfn hg,List.length_replicate,← Nat.add_mul];congr 1;omega
theorem Rn.app1 {t u bytes:Nat} {x0:α} {ys zs:List α} {src:V} (hge:∀ x,g x=(e x).map V.d) (hsz:∀ x,(e x).length=sz) (hw:Wn E gd) (ha:look E t = .sl sz (Γ.n0+u) 0 1 1) (hM:Qbo L u=some (.cells (g x0))) (hb:b.val (look E)=src) (hf:src.dem=src) (hs:Qe4 (Ql Γ.n0 L M0) sz src=some (ys.map e)) (hx:appO [x0] ys=some zs) (hbd:(Nat.ble bytes 128&&Nat.ble 1 sz)=true)
  (h:∀ v:V,Qe4 (Ql Γ.n0 L M0) sz v.dem=some (zs.map e)→zs≠[]→Rn Γ pc os ⟨look ((d,v)::E),Ql Γ.n0 L M0,nb⟩ Q):Rn Γ pc (⟨some d,.append sz bytes,[.t t,b],true,gd⟩::os) ⟨look E,Ql Γ.n0 L M0,nb⟩ Q:=by
 unfold appO at hx;split at hx<;>cases hx;rename_i hl;simp only [Bool.and_eq_true] at hbd;have h1:=Nat.le_of_ble_eq_true hbd.1;have h2:0<sz:=Nat.le_of_ble_eq_true hbd.2;have hm:[Arg.t t,b].map (fun x=>x.val (look E))=[V.sl sz (Γ.n0+u) 0 1 1,src]:=by
  simp only [List.map_cons,List.map_nil,hb];rw [show (Arg.t t).val (look E)=_ from ha]
 have hMm:Ql Γ.n0 L M0 (Γ.n0+u)=some (.cells (Qw g [x0]++[])):=by rw [Qci,hM];simp [Qw]
 have he:Qe4 (Ql Γ.n0 L M0) sz (.sl sz (Γ.n0+u) 0 1 1)=some [e x0]:=by
  have:=Qxc hge hsz (a:=0) (n:=1) (c:=1) hMm (by simp);rw [Nat.zero_mul] at this;rw [this];rfl
 have hp:∀ v i,(Q5 (look E) [Arg.t t,b] (Qb1 (.append sz bytes) [V.sl sz (Γ.n0+u) 0 1 1,src])).put d v i=look ((d,v)::E) i:=by
  intro v i;have e1:Q5 (look E) [Arg.t t,b] (Qb1 (.append sz bytes) [V.sl sz (Γ.n0+u) 0 1 1,src])=look E:=by
   have q1:(look E).put t (V.sl sz (Γ.n0+u) 0 1 1)=look E:=by
    funext j;simp only [Sl.put];split
    ·rename_i q;rw [q,ha]
    ·rfl
   simp only [Qb1,hf,show (V.sl sz (Γ.n0+u) 0 1 1).dem = .sl sz (Γ.n0+u) 0 1 1 from rfl,Q5,show ∀ s v,(Arg.t t).putTo s v=s.put t v from fun _ _=>rfl,q1];cases b with
   | c _=>rfl
   | t j =>
    simp only [Arg.putTo,Arg.val] at hb ⊢;funext j';simp only [Sl.put];split
    ·rename_i q;rw [q,hb]
    ·rfl
  rw [e1,Qdt]
 by_cases hy:ys=[]
 ·subst hy;refine Rn.kT hw rfl rfl (v:=.sl sz (Γ.n0+u) 0 1 1) ?_ (fun i=>by rw [hm];exact hp _ i) (h _ (by simpa [V.dem] using he) (by simp));rw [hm];simp [Qk,he,hs]
 ·have hyl:0<ys.length:=List.length_pos_iff.2 hy;refine Rn.kT hw rfl rfl (v:=.own sz (([x0]++ys).map e)) ?_ (fun i=>by rw [hm];exact hp _ i) (h _ (by simp [V.dem,Qe4]) (by simp));rw [hm];have h0:¬ (ys.map e).length=0:=by simpa using hy
  simp only [Qk,he,hs,if_neg h0];rw [if_pos]
  ·simp
  ·simp [h1,h2] at hl ⊢;exact ⟨by omega,by omega⟩
theorem mapX {f:V→V} {tl:List V} (h:∀ x,(g x).map f=g x):WkVs ((Qw g xs++tl).map f) (rowR g xs tl.length):=by
 unfold rowR;rw [List.map_append];refine .app (.same ?_) ?_
 ·unfold Qw;rw [List.map_flatten,List.map_map];congr 1;exact List.map_congr_left fun x _=>h x
 ·induction tl with
  | nil=>exact .nil
  | cons v tl ih=>exact .cons (.und _) ih
theorem Qba4 {k a n c i o m sz κ:Nat}:Qi5 (sufV sz k a n c) i (.ptr κ o) m=decide (k≠κ):=by
 unfold sufV;split<;>simp [Qi5,eq_comm]
theorem Qbe5 {cc:CC} {Q:Ex→St→Prop} (hG:Lone Γ) (hMe:M0=fun _=>none) (t0 i κ:Nat) {m:Nat} (e:α→List D) (g:α→List V) {cs0:List V} (hg:∀ x,g x=(e x).map V.d) (hxs:xs=[]→Tr Γ cc ⟨look E,Ql Γ.n0 ((t0,.cells (cs0.set i (.nils sz)))::L) M0,Γ.n0+m⟩ Q) (hpl:∀ x,(e x).all Qrp=true) (hM0:Qbo L t0=some (.cells cs0))
  (hi:cs0[i]? = some (.own sz (List.map e xs))) (hκ2:Nat.blt κ m=true) (hκM:Qbo L κ=none) (hE:PL E) (hL:PB t0 i L)
  (h:∀ c,xs.length≤c→Tr Γ cc ⟨look E,Ql Γ.n0 ((κ,.cells (rowR g xs ((c-xs.length)*sz)))::(t0,.cells (cs0.set i (.sl sz (Γ.n0+κ) 0 xs.length c)))::L) M0,Γ.n0+m⟩ Q):Tr Γ cc ⟨look E,Ql Γ.n0 L M0,Γ.n0+m⟩ Q:=by
 refine Qbaz hG hMe t0 i κ hxs hpl hM0 hi hκ2 hκM hE hL fun c h1 h2=>?_;rw [Qbcu hg];exact h c h1
end Go.Abs
end
section
namespace Go.Abs
open Go
variable {Γ:Env} {pc d nb sz:Nat} {os:List COp} {E:List (Nat×V)} {M M0:Mem} {Q:St→Prop} {L:List (Nat×Bx)} {a b c:Arg} {R:Type} {r:R} {gd:Option (Nat×Bool)} {α:Type} {e:α→List D} {xs:List α} {k:IntKind} {i:Int}
abbrev g1 (g:Nat) (o:COp):COp:=⟨o.dst,o.kind,o.args,o.tk,some (g,true)⟩
abbrev g0 (g:Nat) (o:COp):COp:=⟨o.dst,o.kind,o.args,o.tk,some (g,false)⟩
abbrev oI (d n a b:Nat):COp:=⟨some d,.idx n,[.t a,.t b],false,none⟩
abbrev oB (d:Nat) (p:BinOp) (a b:Arg):COp:=⟨some d,.bin p false,[a,b],false,none⟩
abbrev oN (d a:Nat):COp:=⟨some d,.nilchk,[.t a],false,none⟩
abbrev oE (d a:Nat):COp:=⟨some d,.len,[.t a],false,none⟩
abbrev oC (d:Nat) (n:Int):COp:=⟨some d,.mov,[cI n],false,none⟩
abbrev oJ (d n a:Nat):COp:=⟨some d,.load true n,[.t a],false,none⟩
abbrev oT (d a:Nat):COp:=⟨some d,.mov,[.t a],true,none⟩
abbrev oX (d i a:Nat):COp:=⟨some d,.extract i,[.t a],false,none⟩
abbrev oK (d f:Nat) (l:List Arg):COp:=⟨some d,.call f,l,false,none⟩
abbrev oP (d g x:Nat):COp:=⟨some d,.pick,[.t g,.t x,.c (.d (.bool false))],false,none⟩
abbrev oQ (d g x:Nat):COp:=⟨some d,.pick,[.t g,.c (.d (.bool true)),.t x],false,none⟩
abbrev oS (n a b:Nat):COp:=⟨none,.store n,[.t a,.t b],true,none⟩
abbrev oU (n a b:Nat):COp:=⟨none,.store n,[.t a,.t b],false,none⟩
abbrev oA (d n m a b:Nat):COp:=⟨some d,.append n m,[.t a,.t b],true,none⟩
abbrev sg (l:List COp) (c:CC):CC:=.seq (.region l 9 []) c
abbrev rg (l:List COp):CC:=.region l 9 []
inductive Ls:List V→List V→Prop
  | nil:Ls [] []
  | d {x:D} {l m:List V} (h:Ls l m):Ls (.d x::l) (.d x::m)
  | cons {x:V} {l m:List V} (h:Ls l m):Ls (x::l) (x::m)
theorem Ls.eq {l m:List V} (h:Ls l m):l=m:=by
  induction h with
  | nil=>rfl
  | d _ ih=>rw [ih]
  | cons _ ih=>rw [ih]
structure Fu (n:Nat):Prop where
  t:True
structure Hd (m:Nat) (q:Prop):Prop where
  g:q
theorem Fu.dn {n:Nat} (h:Fu (n+1)):Fu n:=⟨tv⟩
theorem zL {t off n:Nat} {ag:Bool} {cs:List V} {v w:V} (hw:Wn E gd) (ha:a.val (look E) = .ptr (Γ.n0+t) off) (hM:Qbo L t=some (.cells cs)) (hn:Nat.ble (off+n) cs.length=true) (hv:(if ag then some (.agg (V.dems ((cs.drop off).take n))) else (cs[off]?).map (·.dem))=some w) (he:w=v)
    (h:Rn Γ pc os ⟨look ((d,v)::E),Ql Γ.n0 L M0,nb⟩ Q):Rn Γ pc (⟨some d,.load ag n,[a],false,gd⟩::os) ⟨look E,Ql Γ.n0 L M0,nb⟩ Q:=Rn.load hw ha (Q1 hM) hn (he ▸ hv) h
theorem zLb {k off n:Nat} {ag:Bool} {cs:List V} {v w:V} (hw:Wn E gd) (ha:a.val (look E) = .ptr k off) (hM:M k=some (.cells cs)) (hn:Nat.ble (off+n) cs.length=true) (hv:(if ag then some (.agg (V.dems ((cs.drop off).take n))) else (cs[off]?).map (·.dem))=some w) (he:w=v)
    (h:Rn Γ pc os ⟨look ((d,v)::E),M,nb⟩ Q):Rn Γ pc (⟨some d,.load ag n,[a],false,gd⟩::os) ⟨look E,M,nb⟩ Q:=Rn.load hw ha hM hn (he ▸ hv) h
theorem zI {g:α→Option R} (hw:Wn E gd) (ha:(a.val (look E)).dem = .d (.lst sz (xs.map e))) (hb:b.val (look E) = .d (.int k i)) (h:(getO xs i).bind g=some r)
    (K:∀ x,g x=some r→Rn Γ pc os ⟨look ((d,.cref (e x))::E),M,nb⟩ Q):Rn Γ pc (⟨some d,.idx sz,[a,b],false,gd⟩::os) ⟨look E,M,nb⟩ Q:=by
  obtain ⟨x,hx,h⟩:=bnd h
  exact Rn.idxD hw ha hb hx (K x h)
theorem zX {kk len cap:Nat} {g:Unit→Option R} (hw:Wn E gd) (ha:(a.val (look E)).dem = .sl sz kk 0 len cap) (hb:b.val (look E) = .d (.int k i)) (h:(inO len i).bind g=some r)
    (K:g ()=some r→Rn Γ pc os ⟨look ((d,.ptr kk (0+i.toNat*sz))::E),M,nb⟩ Q):Rn Γ pc (⟨some d,.idx sz,[a,b],false,gd⟩::os) ⟨look E,M,nb⟩ Q:=by
  obtain ⟨⟨⟩,hx,h⟩:=bnd h
  exact Rn.idxA hw ha hb hx (K h)
section
variable {t bytes:Nat} {ys:List α} {src:V} {g:List α→Option R}
theorem zA (hw:Wn E gd) (ha:look E t = .own sz (xs.map e)) (hb:b.val (look E)=src) (hf:src.dem=src) (h:(appO xs ys).bind g=some r) (hs:Qe4 M sz src=some (ys.map e)) (hbd:(Nat.ble bytes 128&&Nat.ble 1 sz)=true)
    (K:∀ x,g x=some r→Rn Γ pc os ⟨look ((d,.own sz (x.map e))::(t,.d (.lst sz (xs.map e)))::E),M,nb⟩ Q):Rn Γ pc (⟨some d,.append sz bytes,[.t t,b],true,gd⟩::os) ⟨look E,M,nb⟩ Q:=by
  obtain ⟨x,hx,h⟩:=bnd h
  exact Rn.app hw ha hb hf hs hx hbd (K x h)
theorem zA0 {u:Nat} {cs:List V} (hw:Wn E gd) (ha:look E t = .sl sz (Γ.n0+u) 0 0 0) (hM:Qbo L u=some (.cells cs)) (hb:b.val (look E)=src) (hf:src.dem=src) (h:(appO ([]:List α) ys).bind g=some r) (hs:Qe4 (Ql Γ.n0 L M0) sz src=some (ys.map e)) (hbd:(Nat.ble bytes 128&&Nat.ble 1 sz)=true)
    (K:∀ x,g x=some r→Rn Γ pc os ⟨look ((d,.own sz (x.map e))::E),Ql Γ.n0 L M0,nb⟩ Q):Rn Γ pc (⟨some d,.append sz bytes,[.t t,b],true,gd⟩::os) ⟨look E,Ql Γ.n0 L M0,nb⟩ Q:=by
  obtain ⟨x,hx,h⟩:=bnd h
  exact Rn.app0 hw ha hM hb hf hs hx hbd (K x h)
theorem zSH {hi:Int} (hw:Wn E gd) (ha:(a.val (look E)).dem = .d (.lst sz (xs.map e))) (hb:b.val (look E) = .d (.int k hi)) (h:(slcO xs 0 hi).bind g=some r) (K:∀ x,g x=some r→Rn Γ pc os ⟨look ((d,.d (.lst sz (x.map e)))::E),M,nb⟩ Q):Rn Γ pc (⟨some d,.slice sz false true,[a,b],false,gd⟩::os) ⟨look E,M,nb⟩ Q:=by
  obtain ⟨x,hx,h⟩:=bnd h
  exact Rn.slcH hw ha hb hx (K x h)
end
section
variable {g:α→List V} {G:α→Option R} {f n:Nat} {ag:Bool} {kk:Nat}
theorem zLa (hw:Wn E gd) (ha:a.val (look E) = .ptr kk (0+i.toNat*sz+f)) (hM:M kk=some (.cells (Qw g xs))) (h:(getO xs i).bind G=some r) (K:((∀ x,(g x).length=sz)∧Nat.ble (f+max n 1) sz=true)∧∀ x,G x=some r→∃ v w,(if ag then some (.agg (V.dems (((g x).drop f).take n))) else ((g x)[f]?).map (·.dem))=some w∧w=v∧Rn Γ pc os ⟨look ((d,v)::E),M,nb⟩ Q) :
    Rn Γ pc (⟨some d,.load ag n,[a],false,gd⟩::os) ⟨look E,M,nb⟩ Q:=by
  obtain ⟨x,hx,h⟩:=bnd h
  obtain ⟨v,w,h1,rfl,h2⟩:=K.2 x h
  exact Rn.loadA K.1.1 hw ha hM hx K.1.2 h1 h2
theorem zLa0 (hw:Wn E gd) (ha:a.val (look E) = .ptr kk (0+i.toNat*sz)) (hM:M kk=some (.cells (Qw g xs))) (h:(getO xs i).bind G=some r) (K:((∀ x,(g x).length=sz)∧Nat.ble (0+max n 1) sz=true)∧∀ x,G x=some r→∃ v w,(if ag then some (.agg (V.dems (((g x).drop 0).take n))) else ((g x)[0]?).map (·.dem))=some w∧w=v∧Rn Γ pc os ⟨look ((d,v)::E),M,nb⟩ Q) :
    Rn Γ pc (⟨some d,.load ag n,[a],false,gd⟩::os) ⟨look E,M,nb⟩ Q:=zLa (f:=0) hw ha hM h K
end
theorem zK {X:Option V} {v w:V} (hv:X=some w) (he:w=v) (h:Rn Γ pc os ⟨look ((d,v)::E),M,nb⟩ Q):∃ v w,X=some w∧w=v∧Rn Γ pc os ⟨look ((d,v)::E),M,nb⟩ Q:=⟨v,w,hv,he,h⟩
theorem zBx {n:Nat} {v:V} {cs:List V} (hw:Wn E gd) (ha:(a.val (look E)).dem=v) (hv:Qel v=true) (hc:Ls v.cells cs) (hn:Nat.beq cs.length n=true) (hf:(Qbo L d).isNone=true)
    (h:Rn Γ pc os ⟨look ((d,.ptr (Γ.n0+d) 0)::E),Ql Γ.n0 ((d,.cells cs)::L) M0,nb⟩ Q):Rn Γ pc (⟨some d,.box n,[a],false,gd⟩::os) ⟨look E,Ql Γ.n0 L M0,nb⟩ Q:=Rn.box hw ha hv hc.eq hn hf h
theorem zBs {n:Nat} {z:List V} {ps:List Nat} {as:List Arg} {xs cs:List V} (hw:Wn E gd) (ha:Ls (V.dems (as.map (·.val (look E)))) xs) (hf:(Qbo L d).isNone=true)
    (hc:(Nat.beq ps.length xs.length&&decide (0<sz)&&z.length==sz&&(ps.zip xs).all (fun (i,x)=>Qel x&&x.cells.length==sz&&decide (i<n)))=true)
    (hcs:Ls (Qk7 (rep n z) ((ps.zip xs).map fun (i,x)=>(i*sz,x.cells))) cs)
    (h:Rn Γ pc os ⟨look ((d,.sl sz (Γ.n0+d) 0 n n)::E),Ql Γ.n0 ((d,.cells cs)::L) M0,nb⟩ Q):Rn Γ pc (⟨some d,.bslice sz n z ps,as,false,gd⟩::os) ⟨look E,Ql Γ.n0 L M0,nb⟩ Q:=Rn.bslice hw ha.eq hf hc hcs.eq h
theorem zBd {as:List Arg} {z vs cs xs:List V} {ps:List (Nat×Nat)} (hw:Wn E gd) (ha:Ls (V.dems (as.map (·.val (look E)))) xs) (hk:Qk Γ.n0 (Γ.n0+d) (.build z ps) xs M=some (.agg vs,M)) (hc:Ls vs cs) (h:Rn Γ pc os ⟨look ((d,.agg cs)::E),M,nb⟩ Q):Rn Γ pc (⟨some d,.build z ps,as,false,gd⟩::os) ⟨look E,M,nb⟩ Q :=
  Rn.build hw (by rw [ha.eq,hk,hc.eq]) h
theorem zSt {t off n:Nat} {v:V} {cs cs' : List V} (hw:Wn E gd) (ha:a.val (look E) = .ptr (Γ.n0+t) off) (hb:(b.val (look E)).dem=v) (hv:Qel v=true) (hM:Qbo L t=some (.cells cs))
    (hn:(Nat.beq v.cells.length n&&Nat.ble (off+n) cs.length)=true) (hcs:Ls (cs.take off++v.cells++cs.drop (off+n)) cs')
    (h:Rn Γ pc os ⟨look E,Ql Γ.n0 ((t,.cells cs')::L) M0,nb⟩ Q):Rn Γ pc (⟨none,.store n,[a,b],false,gd⟩::os) ⟨look E,Ql Γ.n0 L M0,nb⟩ Q:=Rn.store hw ha hb hv hM hn hcs.eq h
theorem zSO {t u off:Nat} {l:List (List D)} {cs cs' : List V} (hw:Wn E gd) (ha:a.val (look E) = .ptr (Γ.n0+t) off) (hb:look E u = .own sz l) (hM:Qbo L t=some (.cells cs))
    (hn:Nat.ble (off+1) cs.length=true) (hcs:Ls (cs.take off++[.own sz l]++cs.drop (off+1)) cs')
    (h:Rn Γ pc os ⟨look ((u,.d (.lst sz l))::E),Ql Γ.n0 ((t,.cells cs')::L) M0,nb⟩ Q):Rn Γ pc (⟨none,.store 1,[a,.t u],true,gd⟩::os) ⟨look E,Ql Γ.n0 L M0,nb⟩ Q:=Rn.storeO hw ha hb hM hn hcs.eq h
theorem zSD {t u off:Nat} {x:D} {cs cs' : List V} (hw:Wn E gd) (ha:a.val (look E) = .ptr (Γ.n0+t) off) (hb:look E u = .d x) (hM:Qbo L t=some (.cells cs))
    (hn:Nat.ble (off+1) cs.length=true) (hcs:Ls (cs.take off++[.d x]++cs.drop (off+1)) cs')
    (h:Rn Γ pc os ⟨look E,Ql Γ.n0 ((t,.cells cs')::L) M0,nb⟩ Q):Rn Γ pc (⟨none,.store 1,[a,.t u],true,gd⟩::os) ⟨look E,Ql Γ.n0 L M0,nb⟩ Q:=Rn.storeD hw ha hb hM hn hcs.eq h
theorem zSV {t u off:Nat} {v:V} {cs cs' : List V} (hw:Wn E gd) (ha:a.val (look E) = .ptr (Γ.n0+t) off) (hb:look E u=v) (hv:Qel v=true) (hf:v.topS=v) (hf2:v.dem=v) (hM:Qbo L t=some (.cells cs))
    (hn:(Nat.beq v.cells.length 1&&Nat.ble (off+1) cs.length)=true) (hcs:Ls (cs.take off++v.cells++cs.drop (off+1)) cs')
    (h:Rn Γ pc os ⟨look E,Ql Γ.n0 ((t,.cells cs')::L) M0,nb⟩ Q):Rn Γ pc (⟨none,.store 1,[a,.t u],true,gd⟩::os) ⟨look E,Ql Γ.n0 L M0,nb⟩ Q:=Rn.storeV hw ha hb hv hf hf2 hM hn hcs.eq h
theorem zST {t u off n:Nat} {v:V} {ds cs cs' : List V} (hw:Wn E gd) (ha:a.val (look E) = .ptr (Γ.n0+t) off) (hb:look E u=v) (hv:Qel v=true) (hds:Ls v.topS.cells ds) (hM:Qbo L t=some (.cells cs))
    (hn:(Nat.beq ds.length n&&Nat.ble (off+n) cs.length)=true) (hcs:Ls (cs.take off++ds++cs.drop (off+n)) cs')
    (h:Rn Γ pc os ⟨look ((u,v.dem)::E),Ql Γ.n0 ((t,.cells cs')::L) M0,nb⟩ Q):Rn Γ pc (⟨none,.store n,[a,.t u],true,gd⟩::os) ⟨look E,Ql Γ.n0 L M0,nb⟩ Q:=Rn.storeT hw ha hb hv hds.eq hM hn hcs.eq h
theorem zLT {t off:Nat} {l:List (List D)} {cs cs' : List V} (hw:Wn E gd) (ha:a.val (look E) = .ptr (Γ.n0+t) off) (hM:Qbo L t=some (.cells cs)) (hx:cs[off]? = some (.own sz l)) (hcs:Ls (cs.set off (.d (.lst sz l))) cs')
    (h:Rn Γ pc os ⟨look ((d,.own sz l)::E),Ql Γ.n0 ((t,.cells cs')::L) M0,nb⟩ Q):Rn Γ pc (⟨some d,.loadT,[a],false,gd⟩::os) ⟨look E,Ql Γ.n0 L M0,nb⟩ Q:=Rn.loadT hw ha hM hx hcs.eq h
theorem zE {i:Nat} {vs:List V} {v w:V} (hw:Wn E gd) (ha:(a.val (look E)).dem = .tup vs) (hv:vs[i]? = some w) (he:w=v) (ht:v.top=v) (h:Rn Γ pc os ⟨look ((d,v)::E),M,nb⟩ Q):Rn Γ pc (⟨some d,.extract i,[a],false,gd⟩::os) ⟨look E,M,nb⟩ Q:=Rn.ext hw ha (he ▸ hv) ht h
inductive Dr (L' : List (Nat×Bx)):List (Nat×Bx)→List Nat→Prop
  | nil:Dr L' [] []
  | keep {k:Nat} {v:Bx} {l:List (Nat×Bx)} {s:List Nat} (h:(L'.any fun q=>Nat.beq k q.1)=true) (t:Dr L' l s):Dr L' ((k,v)::l) s
  | drop {k:Nat} {v:Bx} {l:List (Nat×Bx)} {s:List Nat} (t:Dr L' l s):Dr L' ((k,v)::l) (k::s)
theorem Qbg6 {E E' : List (Nat×V)} {L L' : List (Nat×Bx)} {M0:Mem} {nb:Nat} {s:List Nat} (hs:Dr L' L s) (hE:KL Γ.n0 s (look E) E') (hL:KB Γ.n0 s L L')
    (hk:(L.all fun p=>s.any (Nat.beq p.1)||L'.any fun q=>Nat.beq p.1 q.1)=true):WeakSt Γ ⟨look E,Ql Γ.n0 L M0,nb⟩ ⟨look E',Ql Γ.n0 (bxs L') M0,nb⟩:=Qga _ hE hL hk
theorem exR {rs:List Res} {r' v:V} {σ:St} {M0:Mem} {n0:Nat} (h1:Ql6 σ rs=some r') (h2:Wk r' v) (h3:v.on (There M0)) (h4:∀ k,k<n0→σ.M k=M0 k):∃ r',Ql6 σ rs=some r'∧Wk r' v∧v.on (There M0)∧∀ k,k<n0→σ.M k=M0 k:=⟨r',h1,h2,h3,h4⟩
theorem KLn {n0:Nat} {s:List Nat} {f:Sl}:KL n0 s f []:=tv
theorem KLc {n0 t:Nat} {s:List Nat} {f:Sl} {v v0:V} {E:List (Nat×V)} (h0:f t=v0) (h:WkV (Qdq (Qjf n0 s) v0) v) (r:KL n0 s f E):KL n0 s f ((t,v)::E):=⟨h0 ▸ h,r⟩
theorem KBn {n0:Nat} {s:List Nat} {L:List (Nat×Bx)}:KB n0 s L []:=tv
theorem KBc {n0 t:Nat} {s:List Nat} {L L' : List (Nat×Bx)} {cs cs' : List V} (h:Qbo L t=some (.cells cs)) (h2:s.all (fun u=>!Nat.beq t u)=true) (h3:WkVs (cs.map (Qdq (Qjf n0 s))) cs') (r:KB n0 s L L'):KB n0 s L ((t,.cells cs')::L'):=⟨⟨cs,h,h2,h3⟩,r⟩
theorem KBm {n0 t c:Nat} {s:List Nat} {L L' : List (Nat×Bx)} {es:List (V×V×Nat)} (h:Qbo L t=some (.mp es c)) (h2:s.all (fun u=>!Nat.beq t u)=true) (r:KB n0 s L L'):KB n0 s L ((t,.mp es c)::L'):=⟨⟨h,h2⟩,r⟩
theorem v1 {p:Prop} (h:p:=by
  first
    | (apply kPtr;exact rfl)
    | (apply kSl;exact rfl)
    | (apply kMp;exact rfl)
    | exact sq
    | (apply WkV.dem';exact rfl)
    | exact WkV.nilsO _
    | exact WkV.nilsD _
    | (apply Qbf7;apply ltB hM;assumption)
    | (apply kSlB;apply ltB hM;assumption)
    | exact fToD
    | (apply kFun hM;assumption)
    | exact WkV.und _):p:=h
theorem vM {p:Prop} (h:p:=by repeat first|exact WkVs.nil|(apply WkVs.cons;exact v1)):p:=h
theorem vL {p:Prop} (h:p:=by repeat first|exact WkVs.nil|(apply WkVs.cons;first|exact v1|(apply WkV.agg;exact vM)|(apply WkV.tup;exact vM))):p:=h
theorem vK {p:Prop} (h:p:=by first
    | exact v1
    | (apply WkV.agg;exact vL)
    | (apply WkV.tup;exact vL)
    | (apply kClo;repeat first|exact Qbg1|apply kgD|(apply Qbg2;exact rfl)|(apply Qbgf;apply ltB hM;assumption))):p:=h
theorem vS {p:Prop} (h:p:=by first
    | (apply WkVs.same;exact rfl)
    | exact Qbdx fun _=>rfl
    | exact Qn8 (fun _=>rfl) rfl
    | exact Qbg4 fun _=>rfl
    | (apply Qbg3;exact rfl;assumption)
    | exact vL):p:=h
theorem wk {p:Prop} (h:p:=by
  first
    | (show WeakSt _ (Qk4 _ _ _) ⟨look _,Ql _ (bxs _) _,_⟩;apply Q12
       · repeat first|exact KLn|(apply KLc;(conv=>lhs;whnf);exact vK)
       · repeat first|exact KBn|(apply KBc;exact rfl;exact rfl;exact vS)|(apply KBm;exact rfl;exact rfl)
       · exact rfl)
    | (show WeakSt _ ⟨look _,Ql _ _ _,_⟩ ⟨look _,Ql _ (bxs _) _,_⟩;apply Qbg6;(repeat first|exact Dr.nil|(apply Dr.keep;exact rfl)|apply Dr.drop)
       · repeat first|exact KLn|(apply KLc;(conv=>lhs;whnf);exact vK)
       · repeat first|exact KBn|(apply KBc;exact rfl;exact rfl;exact vS)|(apply KBm;exact rfl;exact rfl)
       · exact rfl)
    | (show WkV _ _;exact vK)):p:=h
theorem Z (n m:Nat) {p q:Prop} (k:q) (f:Fu n→Hd m q→p:=by
  intro t k
  repeat (replace t:=Fu.dn t;first
        | (show Rn _ _ (_::_) _ _;first
          | (apply md;exact rfl)
          | (apply bN;exact rfl)
          | (apply fP;exact rfl)
          | (apply zL;(first|exact tv|(apply gw;exact rfl;first|assumption|exact rfl|exact nT (by assumption)|exact nF (by assumption)));exact rfl;exact rfl;exact rfl;exact rfl;(conv=>lhs;whnf))
          | (apply sK;exact rfl;(first|assumption|exact rfl|exact nT (by assumption)|exact nF (by assumption)))
          | (apply Rn.sk (nu rfl))
          | (apply pT;exact rfl;(first|assumption|exact rfl|exact nT (by assumption)|exact nF (by assumption));(conv=>lhs;whnf))
          | (apply pF;exact rfl;(first|assumption|exact rfl|exact nT (by assumption)|exact nF (by assumption));(conv=>lhs;whnf))
          | (apply mv;(conv=>lhs;whnf))
          | (apply Rn.mov;(first|exact tv|(apply gw;exact rfl;first|assumption|exact rfl|exact nT (by assumption)|exact nF (by assumption)));(conv=>lhs;whnf))
          | (apply Rn.movTF;(first|exact tv|(apply gw;exact rfl;first|assumption|exact rfl|exact nT (by assumption)|exact nF (by assumption)));(conv=>lhs;whnf);exact rfl)
          | (apply Rn.movTO;(first|exact tv|(apply gw;exact rfl;first|assumption|exact rfl|exact nT (by assumption)|exact nF (by assumption)));exact rfl)
          | (apply Rn.movTC;(first|exact tv|(apply gw;exact rfl;first|assumption|exact rfl|exact nT (by assumption)|exact nF (by assumption))))
          | (apply Rn.bin;(first|exact tv|(apply gw;exact rfl;first|assumption|exact rfl|exact nT (by assumption)|exact nF (by assumption)));exact rfl;exact rfl;exact rfl)
          | (apply Rn.nilchkP;(first|exact tv|(apply gw;exact rfl;first|assumption|exact rfl|exact nT (by assumption)|exact nF (by assumption)));exact rfl)
          | (apply Rn.fldP;(first|exact tv|(apply gw;exact rfl;first|assumption|exact rfl|exact nT (by assumption)|exact nF (by assumption)));exact rfl;exact rfl)
          | (apply Rn.fldC;(first|exact tv|(apply gw;exact rfl;first|assumption|exact rfl|exact nT (by assumption)|exact nF (by assumption)));exact rfl)
          | (apply Rn.lenD;(first|exact tv|(apply gw;exact rfl;first|assumption|exact rfl|exact nT (by assumption)|exact nF (by assumption)));exact rfl)
          | (apply Rn.lenA;(first|exact tv|(apply gw;exact rfl;first|assumption|exact rfl|exact nT (by assumption)|exact nF (by assumption)));exact rfl)
          | (apply Rn.loadC;(first|exact tv|(apply gw;exact rfl;first|assumption|exact rfl|exact nT (by assumption)|exact nF (by assumption)));exact rfl)
          | (apply Rn.loadCA;(first|exact tv|(apply gw;exact rfl;first|assumption|exact rfl|exact nT (by assumption)|exact nF (by assumption)));exact rfl;exact rfl;exact rfl)
          | (apply zI;(first|exact tv|(apply gw;exact rfl;first|assumption|exact rfl|exact nT (by assumption)|exact nF (by assumption)));exact rfl;exact rfl;exact h;(try clear h);intro y h)
          | (apply zX;(first|exact tv|(apply gw;exact rfl;first|assumption|exact rfl|exact nT (by assumption)|exact nF (by assumption)));exact rfl;exact rfl;exact h;(try clear h);intro h)
          | (apply zLa0;(first|exact tv|(apply gw;exact rfl;first|assumption|exact rfl|exact nT (by assumption)|exact nF (by assumption)));exact rfl;(first|(apply Q1;exact rfl)|(apply Qy hM;assumption));exact h;refine ⟨⟨fun _=>rfl,rfl⟩,?_⟩;(try clear h);intro y h;apply zK;exact rfl;(conv=>lhs;whnf))
          | (apply zLa;(first|exact tv|(apply gw;exact rfl;first|assumption|exact rfl|exact nT (by assumption)|exact nF (by assumption)));exact rfl;(first|(apply Q1;exact rfl)|(apply Qy hM;assumption));exact h;refine ⟨⟨fun _=>rfl,rfl⟩,?_⟩;(try clear h);intro y h;apply zK;exact rfl;(conv=>lhs;whnf))
          | (apply zA;(first|exact tv|(apply gw;exact rfl;first|assumption|exact rfl|exact nT (by assumption)|exact nF (by assumption)));exact rfl;exact rfl;exact rfl;exact h;(first|(apply Q4m;exact rfl;exact rfl;exact rfl)|exact Q4l|exact rfl);exact rfl;(try clear h);intro y h)
          | (apply zA0;(first|exact tv|(apply gw;exact rfl;first|assumption|exact rfl|exact nT (by assumption)|exact nF (by assumption)));exact rfl;exact rfl;exact rfl;exact rfl;exact h;(first|(apply Q4m;exact rfl;exact rfl;exact rfl)|exact Q4l|exact rfl);exact rfl;(try clear h);intro y h)
          | (apply zLb;(first|exact tv|(apply gw;exact rfl;first|assumption|exact rfl|exact nT (by assumption)|exact nF (by assumption)));exact rfl;(first|(apply Q1;exact rfl)|(apply Qy hM;assumption));exact rfl;exact rfl;(conv=>lhs;whnf))
          | (apply zBs;(first|exact tv|(apply gw;exact rfl;first|assumption|exact rfl|exact nT (by assumption)|exact nF (by assumption)));(repeat first|exact Ls.nil|apply Ls.d|apply Ls.cons);exact rfl;exact rfl;(repeat first|exact Ls.nil|apply Ls.d|apply Ls.cons))
          | (apply zE;(first|exact tv|(apply gw;exact rfl;first|assumption|exact rfl|exact nT (by assumption)|exact nF (by assumption)));exact rfl;exact rfl;(conv=>lhs;whnf);exact rfl)
          | (apply Rn.un;(first|exact tv|(apply gw;exact rfl;first|assumption|exact rfl|exact nT (by assumption)|exact nF (by assumption)));exact rfl;exact rfl)
          | (apply zSt;(first|exact tv|(apply gw;exact rfl;first|assumption|exact rfl|exact nT (by assumption)|exact nF (by assumption)));exact rfl;(conv=>lhs;whnf);exact rfl;exact rfl;exact rfl;(repeat first|exact Ls.nil|apply Ls.d|apply Ls.cons))
          | (apply zSO;(first|exact tv|(apply gw;exact rfl;first|assumption|exact rfl|exact nT (by assumption)|exact nF (by assumption)));exact rfl;exact rfl;exact rfl;exact rfl;(repeat first|exact Ls.nil|apply Ls.d|apply Ls.cons))
          | (apply zSD;(first|exact tv|(apply gw;exact rfl;first|assumption|exact rfl|exact nT (by assumption)|exact nF (by assumption)));exact rfl;exact rfl;exact rfl;exact rfl;(repeat first|exact Ls.nil|apply Ls.d|apply Ls.cons))
          | (apply zSV;(first|exact tv|(apply gw;exact rfl;first|assumption|exact rfl|exact nT (by assumption)|exact nF (by assumption)));exact rfl;(conv=>lhs;whnf);exact rfl;exact rfl;exact rfl;exact rfl;exact rfl;(repeat first|exact Ls.nil|apply Ls.d|apply Ls.cons))
          | (apply zST;(first|exact tv|(apply gw;exact rfl;first|assumption|exact rfl|exact nT (by assumption)|exact nF (by assumption)));exact rfl;(conv=>lhs;whnf);exact rfl;(repeat first|exact Ls.nil|apply Ls.d|apply Ls.cons);exact rfl;exact rfl;(repeat first|exact Ls.nil|apply Ls.d|apply Ls.cons))
          | (apply zLT;(first|exact tv|(apply gw;exact rfl;first|assumption|exact rfl|exact nT (by assumption)|exact nF (by assumption)));exact rfl;exact rfl;exact rfl;(repeat first|exact Ls.nil|apply Ls.d|apply Ls.cons))
          | (apply zBx;(first|exact tv|(apply gw;exact rfl;first|assumption|exact rfl|exact nT (by assumption)|exact nF (by assumption)));(conv=>lhs;whnf);exact rfl;(repeat first|exact Ls.nil|apply Ls.d|apply Ls.cons);exact rfl;exact rfl)
          | (apply zBd;(first|exact tv|(apply gw;exact rfl;first|assumption|exact rfl|exact nT (by assumption)|exact nF (by assumption)));(repeat first|exact Ls.nil|apply Ls.d|apply Ls.cons);exact rfl;(repeat first|exact Ls.nil|apply Ls.d|apply Ls.cons))
          | (apply Rn.alloc;(first|exact tv|(apply gw;exact rfl;first|assumption|exact rfl|exact nT (by assumption)|exact nF (by assumption)));exact rfl)
          | (apply Rn.pickT;(first|exact tv|(apply gw;exact rfl;first|assumption|exact rfl|exact nT (by assumption)|exact nF (by assumption)));exact rfl;(first|assumption|exact rfl|exact nT (by assumption)|exact nF (by assumption));(conv=>lhs;whnf))
          | (apply Rn.pickF;(first|exact tv|(apply gw;exact rfl;first|assumption|exact rfl|exact nT (by assumption)|exact nF (by assumption)));exact rfl;(first|assumption|exact rfl|exact nT (by assumption)|exact nF (by assumption));(conv=>lhs;whnf))
          | (apply Rn.fieldA;(first|exact tv|(apply gw;exact rfl;first|assumption|exact rfl|exact nT (by assumption)|exact nF (by assumption)));exact rfl;exact rfl;exact rfl)
          | (apply Rn.extTD;(first|exact tv|(apply gw;exact rfl;first|assumption|exact rfl|exact nT (by assumption)|exact nF (by assumption)));exact rfl;exact rfl;exact rfl)
          | (apply Rn.conv;(first|exact tv|(apply gw;exact rfl;first|assumption|exact rfl|exact nT (by assumption)|exact nF (by assumption)));exact rfl)
          | (apply Rn.max2;(first|exact tv|(apply gw;exact rfl;first|assumption|exact rfl|exact nT (by assumption)|exact nF (by assumption)));exact rfl;exact rfl)
          | (apply Rn.min2;(first|exact tv|(apply gw;exact rfl;first|assumption|exact rfl|exact nT (by assumption)|exact nF (by assumption)));exact rfl;exact rfl)
          | (apply zSH;(first|exact tv|(apply gw;exact rfl;first|assumption|exact rfl|exact nT (by assumption)|exact nF (by assumption)));exact rfl;exact rfl;exact h;(try clear h);intro y h))
        | (show Rn _ _ _ _ _;first
          | refine Rn.nil ⟨rfl,?_⟩
          | refine Rn.nil ⟨by show Qmo _ _=true;first|rfl|(simp [Qmo,Qi5,look,Bool.cond_eq_ite,Nat.beq_eq];done),?_⟩
          | apply Rn.nil)
        | apply Tr.seq
        | apply Tr.rgn
        | apply Tr.rgnD (by decide)
        | apply Tr.block
        | apply Tr.skip
        | apply Tr.ret
        | apply Tr.exit)
  first
    | exact (k:Hd 0 _).g
    | (have k:=(k:Hd 1 _);clear t;revert h;repeat revert y
       exact k.g)
    | exact ⟨_,h,wk⟩
    | (cases sj h
       first
        | exact wk
        | exact ⟨.inr rfl,_,rfl,fun _ _ _ _ h=>h,tv,mB⟩
        | (refine ⟨by first|exact .inr rfl|exact .inl rfl,?_⟩;apply exR
           · first|exact rfl|(apply Q6a;exact rfl;exact rfl;exact rfl;exact rfl)|(apply res2<;>first|exact rfl|(apply Q6a;exact rfl;exact rfl;exact rfl;exact rfl))|(apply res3<;>first|exact rfl|(apply Q6a;exact rfl;exact rfl;exact rfl;exact rfl))|exact res0
           · first|exact fun _ _ _ _ h=>h|exact WkV.rd wk
           · repeat' first|exact tv|refine ⟨?_,?_⟩
           · exact mB)))
  : p:=f ⟨tv⟩ ⟨k⟩
section
variable {q:Arg} {x y:CC} {σ:St} {Q:Ex→St→Prop}
theorem cd {b:Bool} {A B:Option R} (h:(if b then A else B)=some r) (hb:q.val σ.s = .d (.bool b)) (hx:A=some r→Tr Γ x σ Q) (hy:B=some r→Tr Γ y σ Q):Tr Γ (.cond q x y) σ Q :=
  Tr.cond hb (fun e=>hx (bT e h)) (fun e=>hy (bF e h))
theorem ci {p:Prop} [Decidable p] {A B:Option R} (h:(if p then A else B)=some r) (hb:q.val σ.s = .d (.bool (decide p))) (hx:A=some r→Tr Γ x σ Q) (hy:B=some r→Tr Γ y σ Q):Tr Γ (.cond q x y) σ Q :=
  Tr.cond hb (fun e=>hx (ifT e h)) (fun e=>hy (ifF e h))
theorem bs {G:Prop} {b:Bool} {A B:Option R} (h:(if b then A else B)=some r) (hx:b=true→A=some r→G) (hy:b=false→B=some r→G):G :=
  Qbdu b (fun e=>hx e (bT e h)) (fun e=>hy e (bF e h))
theorem bi {G:Prop} {p:Prop} [Decidable p] {A B:Option R} (h:(if p then A else B)=some r) (hx:decide p=true→A=some r→G) (hy:decide p=false→B=some r→G):G :=
  Qbdu (decide p) (fun e=>hx e (ifT e h)) (fun e=>hy e (ifF e h))
theorem cu {X:Type} {A:Option X} {g:X→Option R} (h:A.bind g=some r) (mk:X→St) (hx:∀ z,A=some z→Tr Γ x σ (Qbez Γ mk z Q)) (hy:∀ z,g z=some r→Tr Γ y (mk z) Q):Tr Γ (.seq x y) σ Q:=Tr.cutB mk h hx hy
theorem lo {X:Type} {F:(X→Option R)→X→Option R} {n:Nat} {x0:X} {sites:List Nat} (h:Qbv F n x0=some r) (mk:X→St) (h0:WeakSt Γ (Qk4 Γ.n0 sites σ) (mk x0))
    (body:∀ (rec' : X→Option R) y,F rec' y=some r→Tr Γ x (mk y) (Qbey Γ sites mk rec' r Q)):Tr Γ (.loop sites x) σ Q:=Tr.loop h h0 body
end
inductive Le (E:List (Nat×V)):List Nat→List (Nat×V)→Prop
  | nil:Le E [] []
  | cons {k:Nat} {v:V} {ks:List Nat} {l:List (Nat×V)} (h:look E k=v) (t:Le E ks l):Le E (k::ks) ((k,v)::l)
inductive Lb (L:List (Nat×Bx)):List Nat→List (Nat×Bx)→Prop
  | nil:Lb L [] []
  | cons {k:Nat} {v:Bx} {ks:List Nat} {l:List (Nat×Bx)} (h:Qbo L k=some v) (t:Lb L ks l):Lb L (k::ks) ((k,v)::l)
theorem ke {A B:Prop} (w:A∧B:=by
  constructor
  · repeat first|exact Le.nil|(apply Le.cons;(conv=>lhs;whnf))
  · repeat first|exact Lb.nil|(apply Lb.cons;exact rfl)):A∧B:=w
theorem wS (ks bs:List Nat) (dE:List (Nat×V)→List (Nat×V)) (dL:List (Nat×Bx)→List (Nat×Bx)) {E1:List (Nat×V)} {L1:List (Nat×Bx)} (w:Le E ks E1∧Lb L bs L1) (h:WeakSt Γ ⟨look E,Ql Γ.n0 L M,nb⟩ ⟨look (dE E1),Ql Γ.n0 (bxs (dL L1)) M,nb⟩):WeakSt Γ ⟨look E,Ql Γ.n0 L M,nb⟩ ⟨look (dE E1),Ql Γ.n0 (bxs (dL L1)) M,nb⟩:=h
section
variable {x y:CC} {Q:Ex→St→Prop} {X:Type} {E1:List (Nat×V)} {L1:List (Nat×Bx)}
theorem cw {A:Option X} {g:X→Option R} (h:A.bind g=some r) (ks bs:List Nat) (dE:X→List (Nat×V)→List (Nat×V)) (dL:X→List (Nat×Bx)→List (Nat×Bx)) (w:Le E ks E1∧Lb L bs L1)
    (hx:∀ z,A=some z→Tr Γ x ⟨look E,Ql Γ.n0 L M,nb⟩ (Qbez Γ (fun z=>⟨look (dE z E1),Ql Γ.n0 (bxs (dL z L1)) M,nb⟩) z Q)) (hy:∀ z,g z=some r→Tr Γ y ⟨look (dE z E1),Ql Γ.n0 (bxs (dL z L1)) M,nb⟩ Q):Tr Γ (.seq x y) ⟨look E,Ql Γ.n0 L M,nb⟩ Q:=Tr.cutB _ h hx hy
theorem lw {F:(X→Option R)→X→Option R} {n:Nat} {x0:X} {sites:List Nat} (h:Qbv F n x0=some r) (ks bs:List Nat) (dE:X→List (Nat×V)→List (Nat×V)) (dL:X→List (Nat×Bx)→List (Nat×Bx)) (w:Le E ks E1∧Lb L bs L1)
    (h0:WeakSt Γ (Qk4 Γ.n0 sites ⟨look E,Ql Γ.n0 L M,nb⟩) ⟨look (dE x0 E1),Ql Γ.n0 (bxs (dL x0 L1)) M,nb⟩)
    (body:∀ (rec' : X→Option R) y,F rec' y=some r→Tr Γ x ⟨look (dE y E1),Ql Γ.n0 (bxs (dL y L1)) M,nb⟩ (Qbey Γ sites (fun y=>⟨look (dE y E1),Ql Γ.n0 (bxs (dL y L1)) M,nb⟩) rec' r Q)):Tr Γ (.loop sites x) ⟨look E,Ql Γ.n0 L M,nb⟩ Q:=Tr.loop h h0 body
end
theorem cl {X:Type} {g:X→Option R} {o:Option X} {f:FuncId} {as:List Arg} {args:List V} {w:X→V} (H:∀ x,o=some x→∀ M nb,ACalls Γ.P f args M nb (w x) M nb) (h:o.bind g=some r)
    (K:(Wn E gd∧(one (pcOf pc)=true→∀ k,nb≤k→M k=none)∧V.dems (as.map (·.val (look E)))=args)∧∀ x,g x=some r→Rn Γ pc os ⟨look ((d,w x)::E),M,nb⟩ Q):Rn Γ pc (⟨some d,.call f,as,false,gd⟩::os) ⟨look E,M,nb⟩ Q:=by
  obtain ⟨x,hx,h⟩:=bnd h
  exact Rn.call K.1.1 K.1.2.2 (H x hx) K.1.2.1 (K.2 x h)
theorem cm {X:Type} {g:X→Option R} {o:Option X} {f:FuncId} {as:List Arg} {args:List V} {w:X→V} (h:o.bind g=some r) (H:∀ x,o=some x→∀ M2 nb2,nb≤nb2→Ext M M2→ACalls Γ.P f args M2 nb2 (w x) M2 nb2) (hp:(Nat.ble (pcOf pc) 1||Nat.ble 10 (pcOf pc))=true)
    (K:(Wn E gd∧(one (pcOf pc)=true→∀ k,nb≤k→M k=none)∧V.dems (as.map (·.val (look E)))=args)∧∀ x,g x=some r→Rn Γ pc os ⟨look ((d,w x)::E),M,nb⟩ Q):Rn Γ pc (⟨some d,.call f,as,false,gd⟩::os) ⟨look E,M,nb⟩ Q:=by
  obtain ⟨x,hx,h⟩:=bnd h
  exact Rn.callM K.1.1 K.1.2.2 (H x hx) hp K.1.2.1 (K.2 x h)
theorem ini {cc:CC} {args:List V} {Q:Ex→St→Prop} (k:Tr Γ cc ⟨look ((List.range' 0 args.length).zip args),M,nb⟩ Q):Tr Γ cc ⟨Qn5 args,M,nb⟩ Q:=Tr.init _ rfl k
theorem cq {A B C p:Prop} (k:p) (w:A∧B∧C:=by refine ⟨?_,?_,rfl⟩;(first|exact tv|(apply gw;exact rfl;first|assumption|exact rfl|exact nT (by assumption)|exact nF (by assumption)));first|exact pc0|exact pc9|exact pc2|exact fun _=>Qbar hM rfl):(A∧B∧C)∧p:=⟨w,k⟩
theorem Y {p:Prop} (h:p:=by exact Z 99 2 tv):p:=h
end Go.Abs
end
section
namespace Go.Abs
open Go
set_option maxRecDepth 10000
set_option maxHeartbeats 4000000
structure Qb where
  State:Int
  Rank:Int
  Reason:Int
  Event:Int
  deriving DecidableEq
def Q9 (x:Qb):List D:=[.int .i64 x.State,.int .i64 x.Rank,.int .i64 x.Reason,.int .i64 x.Event]
abbrev Qov (x:Qb):List V:=[(i_ x.State),(i_ x.Rank),(i_ x.Reason),(i_ x.Event)]
abbrev Qjy (x:Qb):V:=.agg (Qov x)
abbrev Qbt (x:List Qb):V:=.d (.lst 4 (List.map Q9 x))
abbrev Qg (x:List Qb):V:=.own 4 (List.map Q9 x)
structure Qc where
  From:Int
  Event:Int
  To:Int
  deriving DecidableEq
def Qdj (x:Qc):List D:=[.int .i64 x.From,.int .i64 x.Event,.int .i64 x.To]
abbrev Qgh (x:Qc):List V:=[(i_ x.From),(i_ x.Event),(i_ x.To)]
abbrev Qiv (x:Qc):V:=.agg (Qgh x)
abbrev Qp (x:List Qc):V:=.d (.lst 3 (List.map Qdj x))
abbrev Qo (x:List Qc):V:=.own 3 (List.map Qdj x)
structure Qd where
  zO:List Int
  zS:Int
  zP:List Int
  zQ:List Qc
  deriving DecidableEq
def Qba5 (x:Qd):List D:=[.lst 1 (List.map (eI .i64) x.zO),.int .i64 x.zS,.lst 1 (List.map (eI .i64) x.zP),.lst 3 (List.map Qdj x.zQ)]
abbrev Qh4 (x:Qd):List V:=[(l_ x.zO),(i_ x.zS),(l_ x.zP),.d (.lst 3 (List.map Qdj x.zQ))]
abbrev Qcv (x:Qd):V:=.agg (Qh4 x)
structure Qa where
  zB:Qd
  zD:List Int
  zC:List Int
  zF:List Int
  Tick:Int
  deriving DecidableEq
def Q13 (x:Qa):List D:=[.lst 1 (List.map (eI .i64) x.zB.zO),.int .i64 x.zB.zS,.lst 1 (List.map (eI .i64) x.zB.zP),.lst 3 (List.map Qdj x.zB.zQ),.lst 1 (List.map (eI .i64) x.zD),.lst 1 (List.map (eI .i64) x.zC),.lst 1 (List.map (eI .i64) x.zF),.int .i64 x.Tick]
abbrev Q8 (x:Qa):List V:=[(l_ x.zB.zO),(i_ x.zB.zS),(l_ x.zB.zP),.d (.lst 3 (List.map Qdj x.zB.zQ)),(l_ x.zD),(l_ x.zC),(l_ x.zF),(i_ x.Tick)]
abbrev Q4 (x:Qa):V:=.agg (Q8 x)
structure Qe where
  zT:Qa
  from_:List (List Qc)
  left_:List Bool
  deriving DecidableEq
abbrev Qm (x:Qe) (k0 k1:Nat):List V:=[(l_ x.zT.zB.zO),(i_ x.zT.zB.zS),(l_ x.zT.zB.zP),.d (.lst 3 (List.map Qdj x.zT.zB.zQ)),(l_ x.zT.zD),(l_ x.zT.zC),(l_ x.zT.zF),(i_ x.zT.Tick),.sl 1 k0 0 x.from_.length x.from_.length,.sl 1 k1 0 x.left_.length x.left_.length]
structure Qf where
  Kept:List Int
  zH:List Int
  zJ:List Qb
  deriving DecidableEq
def Qyb (x:Qf):List D:=[.lst 1 (List.map (eI .i64) x.Kept),.lst 1 (List.map (eI .i64) x.zH),.lst 4 (List.map Q9 x.zJ)]
abbrev Qbd (x:Qf):List V:=[(l_ x.Kept),(l_ x.zH),.d (.lst 4 (List.map Q9 x.zJ))]
abbrev Qct (x:Qf):V:=.agg (Qbd x)
abbrev Qyc (x:List Qf):V:=.d (.lst 3 (List.map Qyb x))
structure Qbh where
  zG:Qf
  Rounds:Int
  zM:Qd
  zU:List Int
  zN:List Int
  deriving DecidableEq
def Q3f (x:Qbh):List D:=[.lst 1 (List.map (eI .i64) x.zG.Kept),.lst 1 (List.map (eI .i64) x.zG.zH),.lst 4 (List.map Q9 x.zG.zJ),.int .i64 x.Rounds,.lst 1 (List.map (eI .i64) x.zM.zO),.int .i64 x.zM.zS,.lst 1 (List.map (eI .i64) x.zM.zP),.lst 3 (List.map Qdj x.zM.zQ),.lst 1 (List.map (eI .i64) x.zU),.lst 1 (List.map (eI .i64) x.zN)]
abbrev Qig (x:Qbh):List V:=[(l_ x.zG.Kept),(l_ x.zG.zH),.d (.lst 4 (List.map Q9 x.zG.zJ)),(i_ x.Rounds),(l_ x.zM.zO),(i_ x.zM.zS),(l_ x.zM.zP),.d (.lst 3 (List.map Qdj x.zM.zQ)),(l_ x.zU),(l_ x.zN)]
abbrev Qcw (x:Qbh):V:=.agg (Qig x)
structure Qco where
  zS:Int
  Marks:Int
  To:(Int×Int×Int×Int×Int)×(Int×Int×Int×Int×Int)×(Int×Int×Int×Int×Int)×(Int×Int×Int×Int×Int)×(Int×Int×Int×Int×Int)
def Qnj (x:Qco):List D:=[.int .u8 x.zS,.int .u8 x.Marks,.int .u8 x.To.1.1,.int .u8 x.To.1.2.1,.int .u8 x.To.1.2.2.1,.int .u8 x.To.1.2.2.2.1,.int .u8 x.To.1.2.2.2.2,.int .u8 x.To.2.1.1,.int .u8 x.To.2.1.2.1,.int .u8 x.To.2.1.2.2.1,.int .u8 x.To.2.1.2.2.2.1,.int .u8 x.To.2.1.2.2.2.2,.int .u8 x.To.2.2.1.1,.int .u8 x.To.2.2.1.2.1,.int .u8 x.To.2.2.1.2.2.1,.int .u8 x.To.2.2.1.2.2.2.1,.int .u8 x.To.2.2.1.2.2.2.2,.int .u8 x.To.2.2.2.1.1,.int .u8 x.To.2.2.2.1.2.1,.int .u8 x.To.2.2.2.1.2.2.1,.int .u8 x.To.2.2.2.1.2.2.2.1,.int .u8 x.To.2.2.2.1.2.2.2.2,.int .u8 x.To.2.2.2.2.1,.int .u8 x.To.2.2.2.2.2.1,.int .u8 x.To.2.2.2.2.2.2.1,.int .u8 x.To.2.2.2.2.2.2.2.1,.int .u8 x.To.2.2.2.2.2.2.2.2]
abbrev Que (x:Qco):List V:=[.d (.int .u8 x.zS),.d (.int .u8 x.Marks),.d (.int .u8 x.To.1.1),.d (.int .u8 x.To.1.2.1),.d (.int .u8 x.To.1.2.2.1),.d (.int .u8 x.To.1.2.2.2.1),.d (.int .u8 x.To.1.2.2.2.2),.d (.int .u8 x.To.2.1.1),.d (.int .u8 x.To.2.1.2.1),.d (.int .u8 x.To.2.1.2.2.1),.d (.int .u8 x.To.2.1.2.2.2.1),.d (.int .u8 x.To.2.1.2.2.2.2),.d (.int .u8 x.To.2.2.1.1),.d (.int .u8 x.To.2.2.1.2.1),.d (.int .u8 x.To.2.2.1.2.2.1),.d (.int .u8 x.To.2.2.1.2.2.2.1),.d (.int .u8 x.To.2.2.1.2.2.2.2),.d (.int .u8 x.To.2.2.2.1.1),.d (.int .u8 x.To.2.2.2.1.2.1),.d (.int .u8 x.To.2.2.2.1.2.2.1),.d (.int .u8 x.To.2.2.2.1.2.2.2.1),.d (.int .u8 x.To.2.2.2.1.2.2.2.2),.d (.int .u8 x.To.2.2.2.2.1),.d (.int .u8 x.To.2.2.2.2.2.1),.d (.int .u8 x.To.2.2.2.2.2.2.1),.d (.int .u8 x.To.2.2.2.2.2.2.2.1),.d (.int .u8 x.To.2.2.2.2.2.2.2.2)]
abbrev Quf (x:Qco):V:=.agg (Que x)
structure Qg6 where
  Events:Int
  Graph:Qco
def Qok (x:Qg6):List D:=[.int .u8 x.Events,.int .u8 x.Graph.zS,.int .u8 x.Graph.Marks,.int .u8 x.Graph.To.1.1,.int .u8 x.Graph.To.1.2.1,.int .u8 x.Graph.To.1.2.2.1,.int .u8 x.Graph.To.1.2.2.2.1,.int .u8 x.Graph.To.1.2.2.2.2,.int .u8 x.Graph.To.2.1.1,.int .u8 x.Graph.To.2.1.2.1,.int .u8 x.Graph.To.2.1.2.2.1,.int .u8 x.Graph.To.2.1.2.2.2.1,.int .u8 x.Graph.To.2.1.2.2.2.2,.int .u8 x.Graph.To.2.2.1.1,.int .u8 x.Graph.To.2.2.1.2.1,.int .u8 x.Graph.To.2.2.1.2.2.1,.int .u8 x.Graph.To.2.2.1.2.2.2.1,.int .u8 x.Graph.To.2.2.1.2.2.2.2,.int .u8 x.Graph.To.2.2.2.1.1,.int .u8 x.Graph.To.2.2.2.1.2.1,.int .u8 x.Graph.To.2.2.2.1.2.2.1,.int .u8 x.Graph.To.2.2.2.1.2.2.2.1,.int .u8 x.Graph.To.2.2.2.1.2.2.2.2,.int .u8 x.Graph.To.2.2.2.2.1,.int .u8 x.Graph.To.2.2.2.2.2.1,.int .u8 x.Graph.To.2.2.2.2.2.2.1,.int .u8 x.Graph.To.2.2.2.2.2.2.2.1,.int .u8 x.Graph.To.2.2.2.2.2.2.2.2]
abbrev Qvm (x:Qg6):List V:=[.d (.int .u8 x.Events),.d (.int .u8 x.Graph.zS),.d (.int .u8 x.Graph.Marks),.d (.int .u8 x.Graph.To.1.1),.d (.int .u8 x.Graph.To.1.2.1),.d (.int .u8 x.Graph.To.1.2.2.1),.d (.int .u8 x.Graph.To.1.2.2.2.1),.d (.int .u8 x.Graph.To.1.2.2.2.2),.d (.int .u8 x.Graph.To.2.1.1),.d (.int .u8 x.Graph.To.2.1.2.1),.d (.int .u8 x.Graph.To.2.1.2.2.1),.d (.int .u8 x.Graph.To.2.1.2.2.2.1),.d (.int .u8 x.Graph.To.2.1.2.2.2.2),.d (.int .u8 x.Graph.To.2.2.1.1),.d (.int .u8 x.Graph.To.2.2.1.2.1),.d (.int .u8 x.Graph.To.2.2.1.2.2.1),.d (.int .u8 x.Graph.To.2.2.1.2.2.2.1),.d (.int .u8 x.Graph.To.2.2.1.2.2.2.2),.d (.int .u8 x.Graph.To.2.2.2.1.1),.d (.int .u8 x.Graph.To.2.2.2.1.2.1),.d (.int .u8 x.Graph.To.2.2.2.1.2.2.1),.d (.int .u8 x.Graph.To.2.2.2.1.2.2.2.1),.d (.int .u8 x.Graph.To.2.2.2.1.2.2.2.2),.d (.int .u8 x.Graph.To.2.2.2.2.1),.d (.int .u8 x.Graph.To.2.2.2.2.2.1),.d (.int .u8 x.Graph.To.2.2.2.2.2.2.1),.d (.int .u8 x.Graph.To.2.2.2.2.2.2.2.1),.d (.int .u8 x.Graph.To.2.2.2.2.2.2.2.2)]
abbrev Q5s (x:Qg6):V:=.agg (Qvm x)
structure Qbb where
  Part:Qg6
  zD:Int
  zC:Int
  zF:Int
def Ql7 (x:Qbb):List D:=[.int .u8 x.Part.Events,.int .u8 x.Part.Graph.zS,.int .u8 x.Part.Graph.Marks,.int .u8 x.Part.Graph.To.1.1,.int .u8 x.Part.Graph.To.1.2.1,.int .u8 x.Part.Graph.To.1.2.2.1,.int .u8 x.Part.Graph.To.1.2.2.2.1,.int .u8 x.Part.Graph.To.1.2.2.2.2,.int .u8 x.Part.Graph.To.2.1.1,.int .u8 x.Part.Graph.To.2.1.2.1,.int .u8 x.Part.Graph.To.2.1.2.2.1,.int .u8 x.Part.Graph.To.2.1.2.2.2.1,.int .u8 x.Part.Graph.To.2.1.2.2.2.2,.int .u8 x.Part.Graph.To.2.2.1.1,.int .u8 x.Part.Graph.To.2.2.1.2.1,.int .u8 x.Part.Graph.To.2.2.1.2.2.1,.int .u8 x.Part.Graph.To.2.2.1.2.2.2.1,.int .u8 x.Part.Graph.To.2.2.1.2.2.2.2,.int .u8 x.Part.Graph.To.2.2.2.1.1,.int .u8 x.Part.Graph.To.2.2.2.1.2.1,.int .u8 x.Part.Graph.To.2.2.2.1.2.2.1,.int .u8 x.Part.Graph.To.2.2.2.1.2.2.2.1,.int .u8 x.Part.Graph.To.2.2.2.1.2.2.2.2,.int .u8 x.Part.Graph.To.2.2.2.2.1,.int .u8 x.Part.Graph.To.2.2.2.2.2.1,.int .u8 x.Part.Graph.To.2.2.2.2.2.2.1,.int .u8 x.Part.Graph.To.2.2.2.2.2.2.2.1,.int .u8 x.Part.Graph.To.2.2.2.2.2.2.2.2,.int .u8 x.zD,.int .u8 x.zC,.int .u8 x.zF]
abbrev Ql8 (x:Qbb):List V:=[.d (.int .u8 x.Part.Events),.d (.int .u8 x.Part.Graph.zS),.d (.int .u8 x.Part.Graph.Marks),.d (.int .u8 x.Part.Graph.To.1.1),.d (.int .u8 x.Part.Graph.To.1.2.1),.d (.int .u8 x.Part.Graph.To.1.2.2.1),.d (.int .u8 x.Part.Graph.To.1.2.2.2.1),.d (.int .u8 x.Part.Graph.To.1.2.2.2.2),.d (.int .u8 x.Part.Graph.To.2.1.1),.d (.int .u8 x.Part.Graph.To.2.1.2.1),.d (.int .u8 x.Part.Graph.To.2.1.2.2.1),.d (.int .u8 x.Part.Graph.To.2.1.2.2.2.1),.d (.int .u8 x.Part.Graph.To.2.1.2.2.2.2),.d (.int .u8 x.Part.Graph.To.2.2.1.1),.d (.int .u8 x.Part.Graph.To.2.2.1.2.1),.d (.int .u8 x.Part.Graph.To.2.2.1.2.2.1),.d (.int .u8 x.Part.Graph.To.2.2.1.2.2.2.1),.d (.int .u8 x.Part.Graph.To.2.2.1.2.2.2.2),.d (.int .u8 x.Part.Graph.To.2.2.2.1.1),.d (.int .u8 x.Part.Graph.To.2.2.2.1.2.1),.d (.int .u8 x.Part.Graph.To.2.2.2.1.2.2.1),.d (.int .u8 x.Part.Graph.To.2.2.2.1.2.2.2.1),.d (.int .u8 x.Part.Graph.To.2.2.2.1.2.2.2.2),.d (.int .u8 x.Part.Graph.To.2.2.2.2.1),.d (.int .u8 x.Part.Graph.To.2.2.2.2.2.1),.d (.int .u8 x.Part.Graph.To.2.2.2.2.2.2.1),.d (.int .u8 x.Part.Graph.To.2.2.2.2.2.2.2.1),.d (.int .u8 x.Part.Graph.To.2.2.2.2.2.2.2.2),.d (.int .u8 x.zD),.d (.int .u8 x.zC),.d (.int .u8 x.zF)]
abbrev Ql9 (x:Qbb):V:=.agg (Ql8 x)
structure Qq where
  p_:Qa
  rank_:List Int
  removals_:List Qb
  rounds_:Int
  deriving DecidableEq
abbrev Qx (x:Qq) (k0:Nat):List V:=[(l_ x.p_.zB.zO),(i_ x.p_.zB.zS),(l_ x.p_.zB.zP),.d (.lst 3 (List.map Qdj x.p_.zB.zQ)),(l_ x.p_.zD),(l_ x.p_.zC),(l_ x.p_.zF),(i_ x.p_.Tick),.sl 1 k0 0 x.rank_.length x.rank_.length,.own 4 (List.map Q9 x.removals_),(i_ x.rounds_)]
structure Qs where
  Field:Int
  At:Int
  By:Int
  deriving DecidableEq
def Qma (x:Qs):List D:=[.int .u8 x.Field,.int .u8 x.At,.int .i8 x.By]
abbrev Qt (x:Qs):List V:=[.d (.int .u8 x.Field),.d (.int .u8 x.At),.d (.int .i8 x.By)]
abbrev Qmb (x:Qs):V:=.agg (Qt x)
structure Qi where
  task_:Qe
  ranks_:List Int
  distances_:List Int
  reasons_:List Int
  deriving DecidableEq
abbrev Qr (x:Qi) (k0 k1 k2 k3:Nat):List V:=[.ptr k0 0,.sl 1 k1 0 x.ranks_.length x.ranks_.length,.sl 1 k2 0 x.distances_.length x.distances_.length,.sl 1 k3 0 x.reasons_.length x.reasons_.length]
end Go.Abs
end
