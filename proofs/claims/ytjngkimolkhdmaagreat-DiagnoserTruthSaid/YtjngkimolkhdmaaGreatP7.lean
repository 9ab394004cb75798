/-
  Part 7 of the proof: see the last text.
-/
import Derived.Test.YtjngkimolkhdmaaGreatP6
set_option linter.unusedVariables false
set_option linter.unusedSimpArgs false
set_option linter.unusedSectionVars false
section
namespace Go.Abs
open Go
variable {α:Type}
def updO (xs:List α) (i:Int) (φ:α→α):Option (List α):=(getO xs i).bind fun x=>setO xs i (φ x)
variable {Γ:Env} {pc d nb:Nat} {os:List COp} {E:List (Nat×V)} {M M0:Mem} {L:List (Nat×Bx)} {Q:St→Prop} {gd:Option (Nat×Bool)} {a b:Arg} {g:α→List V} {e:α→List D} {xs:List α} {sz:Nat}
theorem Rn.storeF {t R f:Nat} {i:Int} {φ:α→α} {ys:List α} {v:V} (hg:∀ x,(g x).length=sz) (hφ:∀ x,g (φ x)=(g x).set f v) (hw:Wn E gd) (ha:a.val (look E) = .ptr (Γ.n0+t) (0+i.toNat*sz+f)) (hf:Nat.blt f sz=true) (hb:(b.val (look E)).dem=v) (hv:Qc9 v=true) (hc:v.cells=[v]) (hM:Qb0 L t=some (.cells (rowR g xs R)))
  (hx:updO xs i φ=some ys) (h:Rn Γ pc os ⟨look E,Qi Γ.n0 ((t,.cells (rowR g ys R))::L) M0,nb⟩ Q):Rn Γ pc (⟨none,.store 1,[a,b],false,gd⟩::os) ⟨look E,Qi Γ.n0 L M0,nb⟩ Q:=by
 have hf:f<sz:=Nat.le_of_ble_eq_true hf;unfold updO getO setO at hx;split at hx<;>try (cases hx;done)
 rw [Option.bind_eq_some_iff] at hx;obtain ⟨x,hx1,hx2⟩:=hx;split at hx2<;>cases hx2;obtain ⟨hlt,hxe⟩:=List.getElem?_eq_some_iff.1 hx1;have hl:=Qkt hg xs;have hb2:i.toNat*sz+sz≤xs.length*sz:=by
  rw [show i.toNat*sz+sz=(i.toNat+1)*sz from by rw [Nat.add_mul,Nat.one_mul]];exact Nat.mul_le_mul_right _ hlt
 refine Rn.store (cs':=rowR g (xs.set i.toNat (φ x)) R) hw ha hb hv hM ?_ ?_ h
 ·rw [hc,List.length_append,hl];simp only [Bool.and_eq_true];exact ⟨by simp,Nat.ble_eq_true_of_le (by omega)⟩
 ·have hs:=Q2i hg (φ x) hlt;have hge:=Q2h hg hx1;rw [hc];unfold rowR;rw [← hs,hφ,← hge,Nat.zero_add];generalize hA:Qb7 g xs=A at *
  rw [List.take_append_of_le_length (by omega),List.drop_append_of_le_length (by omega),← List.append_assoc];congr 1;refine List.ext_getElem? fun j=>?_;have e1:(A.take (i.toNat*sz+f)).length=i.toNat*sz+f:=by rw [List.length_take];omega
  have e2:(A.take (i.toNat*sz)).length=i.toNat*sz:=by rw [List.length_take];omega
  have e3:(((A.drop (i.toNat*sz)).take sz).set f v).length=sz:=by rw [List.length_set,List.length_take,List.length_drop];omega
  rw [List.append_assoc,List.append_assoc];by_cases h1:j<i.toNat*sz
  ·rw [List.getElem?_append_left (by omega),List.getElem?_append_left (by omega),List.getElem?_take,List.getElem?_take,if_pos (by omega),if_pos h1]
  ·rw [List.getElem?_append_right (l₁:=A.take (i.toNat*sz)) (by omega),e2];by_cases h2:j<i.toNat*sz+sz
   ·rw [List.getElem?_append_left (l₁:=((A.drop (i.toNat*sz)).take sz).set f v) (by omega),List.getElem?_set];by_cases h3:f=j-i.toNat*sz
    ·have:j=i.toNat*sz+f:=by omega
     subst this;rw [List.getElem?_append_right (by omega),e1,Nat.sub_self,if_pos h3,if_pos (by rw [List.length_take,List.length_drop];omega)]
     rfl
    ·rw [if_neg h3,List.getElem?_take,if_pos (by omega),List.getElem?_drop];by_cases h4:j<i.toNat*sz+f
     ·rw [List.getElem?_append_left (by omega),List.getElem?_take,if_pos h4];congr 1;omega
     ·rw [List.getElem?_append_right (by omega),e1,List.getElem?_append_right (by simp;omega),List.getElem?_drop];congr 1;simp;omega
   ·rw [List.getElem?_append_right (l₁:=((A.drop (i.toNat*sz)).take sz).set f v) (by omega),e3,List.getElem?_append_right (by omega),e1,List.getElem?_append_right (by simp;omega),List.getElem?_drop,List.getElem?_drop];congr 1;simp;omega
end Go.Abs
end
section
namespace Go.Abs
open Go
variable {Γ:Env} {pc d nb sz:Nat} {os:List COp} {E:List (Nat×V)} {M M0:Mem} {Q:St→Prop} {L:List (Nat×Bx)} {a b c:Arg} {R:Type} {r:R} {gd:Option (Nat×Bool)} {α:Type} {e:α→List D} {xs:List α} {k:IntKind} {i:Int}
abbrev g1 (g:Nat) (o:COp):COp:=⟨o.dst,o.kind,o.args,o.tk,some (g,true)⟩
abbrev g0 (g:Nat) (o:COp):COp:=⟨o.dst,o.kind,o.args,o.tk,some (g,false)⟩
abbrev oI (d n a b:Nat):COp:=⟨some d,.idx n,[.t a,.t b],false,none⟩
abbrev oB (d:Nat) (p:BinOp) (a b:Arg):COp:=⟨some d,.bin p false,[a,b],false,none⟩
abbrev oE (d a:Nat):COp:=⟨some d,.len,[.t a],false,none⟩
abbrev oC (d:Nat) (n:Int):COp:=⟨some d,.mov,[cI n],false,none⟩
abbrev oJ (d n a:Nat):COp:=⟨some d,.load true n,[.t a],false,none⟩
abbrev oT (d a:Nat):COp:=⟨some d,.mov,[.t a],true,none⟩
abbrev oX (d i a:Nat):COp:=⟨some d,.extract i,[.t a],false,none⟩
abbrev oK (d f:Nat) (l:List Arg):COp:=⟨some d,.call f,l,false,none⟩
abbrev oP (d g x:Nat):COp:=⟨some d,.pick,[.t g,.t x,.c (.d (.bool false))],false,none⟩
abbrev oQ (d g x:Nat):COp:=⟨some d,.pick,[.t g,.c (.d (.bool true)),.t x],false,none⟩
abbrev oS (n a b:Nat):COp:=⟨none,.store n,[.t a,.t b],true,none⟩
abbrev oU (n a b:Nat):COp:=⟨none,.store n,[.t a,.t b],false,none⟩
abbrev oA (d n m a b:Nat):COp:=⟨some d,.append n m,[.t a,.t b],true,none⟩
abbrev sg (l:List COp) (c:CC):CC:=.seq (.region l 9 []) c
abbrev rg (l:List COp):CC:=.region l 9 []
inductive Ls:List V→List V→Prop
  | nil:Ls [] []
  | d {x:D} {l m:List V} (h:Ls l m):Ls (.d x::l) (.d x::m)
  | cons {x:V} {l m:List V} (h:Ls l m):Ls (x::l) (x::m)
theorem Ls.eq {l m:List V} (h:Ls l m):l=m:=by
  induction h with
  | nil=>rfl
  | d _ ih=>rw [ih]
  | cons _ ih=>rw [ih]
structure Fu (n:Nat):Prop where
  t:True
structure Hd (m:Nat) (q:Prop):Prop where
  g:q
theorem Fu.dn {n:Nat} (h:Fu (n+1)):Fu n:=⟨tv⟩
theorem zL {t off n:Nat} {ag:Bool} {cs:List V} {v w:V} (hw:Wn E gd) (ha:a.val (look E) = .ptr (Γ.n0+t) off) (hM:Qb0 L t=some (.cells cs)) (hn:Nat.ble (off+n) cs.length=true) (hv:(if ag then some (.agg (V.dems ((cs.drop off).take n))) else (cs[off]?).map (·.dem))=some w) (he:w=v)
    (h:Rn Γ pc os ⟨look ((d,v)::E),Qi Γ.n0 L M0,nb⟩ Q):Rn Γ pc (⟨some d,.load ag n,[a],false,gd⟩::os) ⟨look E,Qi Γ.n0 L M0,nb⟩ Q:=Rn.load hw ha (Qcm hM) hn (he ▸ hv) h
theorem zLb {k off n:Nat} {ag:Bool} {cs:List V} {v w:V} (hw:Wn E gd) (ha:a.val (look E) = .ptr k off) (hM:M k=some (.cells cs)) (hn:Nat.ble (off+n) cs.length=true) (hv:(if ag then some (.agg (V.dems ((cs.drop off).take n))) else (cs[off]?).map (·.dem))=some w) (he:w=v)
    (h:Rn Γ pc os ⟨look ((d,v)::E),M,nb⟩ Q):Rn Γ pc (⟨some d,.load ag n,[a],false,gd⟩::os) ⟨look E,M,nb⟩ Q:=Rn.load hw ha hM hn (he ▸ hv) h
theorem zI {g:α→Option R} (hw:Wn E gd) (ha:(a.val (look E)).dem = .d (.lst sz (xs.map e))) (hb:b.val (look E) = .d (.int k i)) (h:(getO xs i).bind g=some r)
    (K:∀ x,g x=some r→Rn Γ pc os ⟨look ((d,.cref (e x))::E),M,nb⟩ Q):Rn Γ pc (⟨some d,.idx sz,[a,b],false,gd⟩::os) ⟨look E,M,nb⟩ Q:=by
  obtain ⟨x,hx,h⟩:=bnd h
  exact Rn.idxD hw ha hb hx (K x h)
theorem zX {kk len cap:Nat} {g:Unit→Option R} (hw:Wn E gd) (ha:(a.val (look E)).dem = .sl sz kk 0 len cap) (hb:b.val (look E) = .d (.int k i)) (h:(inO len i).bind g=some r)
    (K:g ()=some r→Rn Γ pc os ⟨look ((d,.ptr kk (0+i.toNat*sz))::E),M,nb⟩ Q):Rn Γ pc (⟨some d,.idx sz,[a,b],false,gd⟩::os) ⟨look E,M,nb⟩ Q:=by
  obtain ⟨⟨⟩,hx,h⟩:=bnd h
  exact Rn.idxA hw ha hb hx (K h)
section
variable {t bytes:Nat} {ys:List α} {src:V} {g:List α→Option R}
theorem zA (hw:Wn E gd) (ha:look E t = .own sz (xs.map e)) (hb:b.val (look E)=src) (hf:src.dem=src) (h:(appO xs ys).bind g=some r) (hs:Qf2 M sz src=some (ys.map e)) (hbd:(Nat.ble bytes 128&&Nat.ble 1 sz)=true)
    (K:∀ x,g x=some r→Rn Γ pc os ⟨look ((d,.own sz (x.map e))::(t,.d (.lst sz (xs.map e)))::E),M,nb⟩ Q):Rn Γ pc (⟨some d,.append sz bytes,[.t t,b],true,gd⟩::os) ⟨look E,M,nb⟩ Q:=by
  obtain ⟨x,hx,h⟩:=bnd h
  exact Rn.app hw ha hb hf hs hx hbd (K x h)
theorem zA0 {u:Nat} {cs:List V} (hw:Wn E gd) (ha:look E t = .sl sz (Γ.n0+u) 0 0 0) (hM:Qb0 L u=some (.cells cs)) (hb:b.val (look E)=src) (hf:src.dem=src) (h:(appO ([]:List α) ys).bind g=some r) (hs:Qf2 (Qi Γ.n0 L M0) sz src=some (ys.map e)) (hbd:(Nat.ble bytes 128&&Nat.ble 1 sz)=true)
    (K:∀ x,g x=some r→Rn Γ pc os ⟨look ((d,.own sz (x.map e))::E),Qi Γ.n0 L M0,nb⟩ Q):Rn Γ pc (⟨some d,.append sz bytes,[.t t,b],true,gd⟩::os) ⟨look E,Qi Γ.n0 L M0,nb⟩ Q:=by
  obtain ⟨x,hx,h⟩:=bnd h
  exact Rn.app0 hw ha hM hb hf hs hx hbd (K x h)
theorem zS2 {k' : IntKind} {lo hi:Int} (hw:Wn E gd) (ha:(a.val (look E)).dem = .d (.lst sz (xs.map e))) (hb:b.val (look E) = .d (.int k lo)) (hc:c.val (look E) = .d (.int k' hi)) (h:(slcO xs lo hi).bind g=some r) (K:∀ x,g x=some r→Rn Γ pc os ⟨look ((d,.d (.lst sz (x.map e)))::E),M,nb⟩ Q):Rn Γ pc (⟨some d,.slice sz true true,[a,b,c],false,gd⟩::os) ⟨look E,M,nb⟩ Q:=by
  obtain ⟨x,hx,h⟩:=bnd h
  exact Rn.slc2 hw ha hb hc hx (K x h)
theorem zSH {hi:Int} (hw:Wn E gd) (ha:(a.val (look E)).dem = .d (.lst sz (xs.map e))) (hb:b.val (look E) = .d (.int k hi)) (h:(slcO xs 0 hi).bind g=some r) (K:∀ x,g x=some r→Rn Γ pc os ⟨look ((d,.d (.lst sz (x.map e)))::E),M,nb⟩ Q):Rn Γ pc (⟨some d,.slice sz false true,[a,b],false,gd⟩::os) ⟨look E,M,nb⟩ Q:=by
  obtain ⟨x,hx,h⟩:=bnd h
  exact Rn.slcH hw ha hb hx (K x h)
end
section
variable {g:α→List V} {G:α→Option R} {f n:Nat} {ag:Bool} {kk:Nat}
theorem zLa (hw:Wn E gd) (ha:a.val (look E) = .ptr kk (0+i.toNat*sz+f)) (hM:M kk=some (.cells (Qb7 g xs))) (h:(getO xs i).bind G=some r) (K:((∀ x,(g x).length=sz)∧Nat.ble (f+max n 1) sz=true)∧∀ x,G x=some r→∃ v w,(if ag then some (.agg (V.dems (((g x).drop f).take n))) else ((g x)[f]?).map (·.dem))=some w∧w=v∧Rn Γ pc os ⟨look ((d,v)::E),M,nb⟩ Q) :
    Rn Γ pc (⟨some d,.load ag n,[a],false,gd⟩::os) ⟨look E,M,nb⟩ Q:=by
  obtain ⟨x,hx,h⟩:=bnd h
  obtain ⟨v,w,h1,rfl,h2⟩:=K.2 x h
  exact Rn.loadA K.1.1 hw ha hM hx K.1.2 h1 h2
theorem zLa0 (hw:Wn E gd) (ha:a.val (look E) = .ptr kk (0+i.toNat*sz)) (hM:M kk=some (.cells (Qb7 g xs))) (h:(getO xs i).bind G=some r) (K:((∀ x,(g x).length=sz)∧Nat.ble (0+max n 1) sz=true)∧∀ x,G x=some r→∃ v w,(if ag then some (.agg (V.dems (((g x).drop 0).take n))) else ((g x)[0]?).map (·.dem))=some w∧w=v∧Rn Γ pc os ⟨look ((d,v)::E),M,nb⟩ Q) :
    Rn Γ pc (⟨some d,.load ag n,[a],false,gd⟩::os) ⟨look E,M,nb⟩ Q:=zLa (f:=0) hw ha hM h K
end
theorem zK {X:Option V} {v w:V} (hv:X=some w) (he:w=v) (h:Rn Γ pc os ⟨look ((d,v)::E),M,nb⟩ Q):∃ v w,X=some w∧w=v∧Rn Γ pc os ⟨look ((d,v)::E),M,nb⟩ Q:=⟨v,w,hv,he,h⟩
theorem zBx {n:Nat} {v:V} {cs:List V} (hw:Wn E gd) (ha:(a.val (look E)).dem=v) (hv:Qc9 v=true) (hc:Ls v.cells cs) (hn:Nat.beq cs.length n=true) (hf:(Qb0 L d).isNone=true)
    (h:Rn Γ pc os ⟨look ((d,.ptr (Γ.n0+d) 0)::E),Qi Γ.n0 ((d,.cells cs)::L) M0,nb⟩ Q):Rn Γ pc (⟨some d,.box n,[a],false,gd⟩::os) ⟨look E,Qi Γ.n0 L M0,nb⟩ Q:=Rn.box hw ha hv hc.eq hn hf h
theorem zBs {n:Nat} {z:List V} {ps:List Nat} {as:List Arg} {xs cs:List V} (hw:Wn E gd) (ha:Ls (V.dems (as.map (·.val (look E)))) xs) (hf:(Qb0 L d).isNone=true)
    (hc:(Nat.beq ps.length xs.length&&decide (0<sz)&&z.length==sz&&(ps.zip xs).all (fun (i,x)=>Qc9 x&&x.cells.length==sz&&decide (i<n)))=true)
    (hcs:Ls (Qhw (rep n z) ((ps.zip xs).map fun (i,x)=>(i*sz,x.cells))) cs)
    (h:Rn Γ pc os ⟨look ((d,.sl sz (Γ.n0+d) 0 n n)::E),Qi Γ.n0 ((d,.cells cs)::L) M0,nb⟩ Q):Rn Γ pc (⟨some d,.bslice sz n z ps,as,false,gd⟩::os) ⟨look E,Qi Γ.n0 L M0,nb⟩ Q:=Rn.bslice hw ha.eq hf hc hcs.eq h
theorem zBd {as:List Arg} {z vs cs xs:List V} {ps:List (Nat×Nat)} (hw:Wn E gd) (ha:Ls (V.dems (as.map (·.val (look E)))) xs) (hk:Qh Γ.n0 (Γ.n0+d) (.build z ps) xs M=some (.agg vs,M)) (hc:Ls vs cs) (h:Rn Γ pc os ⟨look ((d,.agg cs)::E),M,nb⟩ Q):Rn Γ pc (⟨some d,.build z ps,as,false,gd⟩::os) ⟨look E,M,nb⟩ Q :=
  Rn.build hw (by rw [ha.eq,hk,hc.eq]) h
theorem zSt {t off n:Nat} {v:V} {cs cs' : List V} (hw:Wn E gd) (ha:a.val (look E) = .ptr (Γ.n0+t) off) (hb:(b.val (look E)).dem=v) (hv:Qc9 v=true) (hM:Qb0 L t=some (.cells cs))
    (hn:(Nat.beq v.cells.length n&&Nat.ble (off+n) cs.length)=true) (hcs:Ls (cs.take off++v.cells++cs.drop (off+n)) cs')
    (h:Rn Γ pc os ⟨look E,Qi Γ.n0 ((t,.cells cs')::L) M0,nb⟩ Q):Rn Γ pc (⟨none,.store n,[a,b],false,gd⟩::os) ⟨look E,Qi Γ.n0 L M0,nb⟩ Q:=Rn.store hw ha hb hv hM hn hcs.eq h
theorem zSO {t u off:Nat} {l:List (List D)} {cs cs' : List V} (hw:Wn E gd) (ha:a.val (look E) = .ptr (Γ.n0+t) off) (hb:look E u = .own sz l) (hM:Qb0 L t=some (.cells cs))
    (hn:Nat.ble (off+1) cs.length=true) (hcs:Ls (cs.take off++[.own sz l]++cs.drop (off+1)) cs')
    (h:Rn Γ pc os ⟨look ((u,.d (.lst sz l))::E),Qi Γ.n0 ((t,.cells cs')::L) M0,nb⟩ Q):Rn Γ pc (⟨none,.store 1,[a,.t u],true,gd⟩::os) ⟨look E,Qi Γ.n0 L M0,nb⟩ Q:=Rn.storeO hw ha hb hM hn hcs.eq h
theorem zSD {t u off:Nat} {x:D} {cs cs' : List V} (hw:Wn E gd) (ha:a.val (look E) = .ptr (Γ.n0+t) off) (hb:look E u = .d x) (hM:Qb0 L t=some (.cells cs))
    (hn:Nat.ble (off+1) cs.length=true) (hcs:Ls (cs.take off++[.d x]++cs.drop (off+1)) cs')
    (h:Rn Γ pc os ⟨look E,Qi Γ.n0 ((t,.cells cs')::L) M0,nb⟩ Q):Rn Γ pc (⟨none,.store 1,[a,.t u],true,gd⟩::os) ⟨look E,Qi Γ.n0 L M0,nb⟩ Q:=Rn.storeD hw ha hb hM hn hcs.eq h
theorem zSV {t u off:Nat} {v:V} {cs cs' : List V} (hw:Wn E gd) (ha:a.val (look E) = .ptr (Γ.n0+t) off) (hb:look E u=v) (hv:Qc9 v=true) (hf:v.topS=v) (hf2:v.dem=v) (hM:Qb0 L t=some (.cells cs))
    (hn:(Nat.beq v.cells.length 1&&Nat.ble (off+1) cs.length)=true) (hcs:Ls (cs.take off++v.cells++cs.drop (off+1)) cs')
    (h:Rn Γ pc os ⟨look E,Qi Γ.n0 ((t,.cells cs')::L) M0,nb⟩ Q):Rn Γ pc (⟨none,.store 1,[a,.t u],true,gd⟩::os) ⟨look E,Qi Γ.n0 L M0,nb⟩ Q:=Rn.storeV hw ha hb hv hf hf2 hM hn hcs.eq h
theorem zST {t u off n:Nat} {v:V} {ds cs cs' : List V} (hw:Wn E gd) (ha:a.val (look E) = .ptr (Γ.n0+t) off) (hb:look E u=v) (hv:Qc9 v=true) (hds:Ls v.topS.cells ds) (hM:Qb0 L t=some (.cells cs))
    (hn:(Nat.beq ds.length n&&Nat.ble (off+n) cs.length)=true) (hcs:Ls (cs.take off++ds++cs.drop (off+n)) cs')
    (h:Rn Γ pc os ⟨look ((u,v.dem)::E),Qi Γ.n0 ((t,.cells cs')::L) M0,nb⟩ Q):Rn Γ pc (⟨none,.store n,[a,.t u],true,gd⟩::os) ⟨look E,Qi Γ.n0 L M0,nb⟩ Q:=Rn.storeT hw ha hb hv hds.eq hM hn hcs.eq h
theorem zLT {t off:Nat} {l:List (List D)} {cs cs' : List V} (hw:Wn E gd) (ha:a.val (look E) = .ptr (Γ.n0+t) off) (hM:Qb0 L t=some (.cells cs)) (hx:cs[off]? = some (.own sz l)) (hcs:Ls (cs.set off (.d (.lst sz l))) cs')
    (h:Rn Γ pc os ⟨look ((d,.own sz l)::E),Qi Γ.n0 ((t,.cells cs')::L) M0,nb⟩ Q):Rn Γ pc (⟨some d,.loadT,[a],false,gd⟩::os) ⟨look E,Qi Γ.n0 L M0,nb⟩ Q:=Rn.loadT hw ha hM hx hcs.eq h
theorem zE {i:Nat} {vs:List V} {v w:V} (hw:Wn E gd) (ha:(a.val (look E)).dem = .tup vs) (hv:vs[i]? = some w) (he:w=v) (ht:v.top=v) (h:Rn Γ pc os ⟨look ((d,v)::E),M,nb⟩ Q):Rn Γ pc (⟨some d,.extract i,[a],false,gd⟩::os) ⟨look E,M,nb⟩ Q:=Rn.ext hw ha (he ▸ hv) ht h
inductive Dr (L' : List (Nat×Bx)):List (Nat×Bx)→List Nat→Prop
  | nil:Dr L' [] []
  | keep {k:Nat} {v:Bx} {l:List (Nat×Bx)} {s:List Nat} (h:(L'.any fun q=>Nat.beq k q.1)=true) (t:Dr L' l s):Dr L' ((k,v)::l) s
  | drop {k:Nat} {v:Bx} {l:List (Nat×Bx)} {s:List Nat} (t:Dr L' l s):Dr L' ((k,v)::l) (k::s)
theorem Qbko {E E' : List (Nat×V)} {L L' : List (Nat×Bx)} {M0:Mem} {nb:Nat} {s:List Nat} (hs:Dr L' L s) (hE:KL Γ.n0 s (look E) E') (hL:KB Γ.n0 s L L')
    (hk:(L.all fun p=>s.any (Nat.beq p.1)||L'.any fun q=>Nat.beq p.1 q.1)=true):WeakSt Γ ⟨look E,Qi Γ.n0 L M0,nb⟩ ⟨look E',Qi Γ.n0 (bxs L') M0,nb⟩:=Qif _ hE hL hk
theorem exR {rs:List Res} {r' v:V} {σ:St} {M0:Mem} {n0:Nat} (h1:Qni σ rs=some r') (h2:Wk r' v) (h3:v.on (There M0)) (h4:∀ k,k<n0→σ.M k=M0 k):∃ r',Qni σ rs=some r'∧Wk r' v∧v.on (There M0)∧∀ k,k<n0→σ.M k=M0 k:=⟨r',h1,h2,h3,h4⟩
theorem KLn {n0:Nat} {s:List Nat} {f:Sl}:KL n0 s f []:=tv
theorem KLc {n0 t:Nat} {s:List Nat} {f:Sl} {v v0:V} {E:List (Nat×V)} (h0:f t=v0) (h:WkV (Qc5 (Qip n0 s) v0) v) (r:KL n0 s f E):KL n0 s f ((t,v)::E):=⟨h0 ▸ h,r⟩
theorem KBn {n0:Nat} {s:List Nat} {L:List (Nat×Bx)}:KB n0 s L []:=tv
theorem KBc {n0 t:Nat} {s:List Nat} {L L' : List (Nat×Bx)} {cs cs' : List V} (h:Qb0 L t=some (.cells cs)) (h2:s.all (fun u=>!Nat.beq t u)=true) (h3:WkVs (cs.map (Qc5 (Qip n0 s))) cs') (r:KB n0 s L L'):KB n0 s L ((t,.cells cs')::L'):=⟨⟨cs,h,h2,h3⟩,r⟩
theorem KBm {n0 t c:Nat} {s:List Nat} {L L' : List (Nat×Bx)} {es:List (V×V×Nat)} (h:Qb0 L t=some (.mp es c)) (h2:s.all (fun u=>!Nat.beq t u)=true) (r:KB n0 s L L'):KB n0 s L ((t,.mp es c)::L'):=⟨⟨h,h2⟩,r⟩
theorem v1 {p:Prop} (h:p:=by
  first
    | (apply kPtr;exact rfl)
    | (apply kSl;exact rfl)
    | (apply kMp;exact rfl)
    | exact sq
    | (apply WkV.dem';exact rfl)
    | exact WkV.nilsO _
    | exact WkV.nilsD _
    | (apply Q3p;apply ltB hM;assumption)
    | exact fToD
    | (apply kFun hM;assumption)
    | exact WkV.ownT _ _
    | exact WkV.und _):p:=h
theorem vM {p:Prop} (h:p:=by repeat first|exact WkVs.nil|(apply WkVs.cons;exact v1)):p:=h
theorem vL {p:Prop} (h:p:=by repeat first|exact WkVs.nil|(apply WkVs.cons;first|exact v1|(apply WkV.agg;exact vM)|(apply WkV.tup;exact vM))):p:=h
theorem vK {p:Prop} (h:p:=by first
    | exact v1
    | (apply WkV.agg;exact vL)
    | (apply WkV.tup;exact vL)
    | (apply kClo;repeat first|exact Qbkl|apply kgD|(apply Qbkm;exact rfl)|(apply Qbjz;apply ltB hM;assumption))):p:=h
theorem vS {p:Prop} (h:p:=by first
    | (apply WkVs.same;exact rfl)
    | exact Q7d fun _=>rfl
    | exact Qbin (fun _=>rfl) rfl
    | (apply Qbkn;exact rfl;assumption)
    | exact vL):p:=h
theorem wk {p:Prop} (h:p:=by
  first
    | (show WeakSt _ (Qkv _ _ _) ⟨look _,Qi _ (bxs _) _,_⟩;apply Q4n
       · repeat first|exact KLn|(apply KLc;(conv=>lhs;whnf);exact vK)
       · repeat first|exact KBn|(apply KBc;exact rfl;exact rfl;exact vS)|(apply KBm;exact rfl;exact rfl)
       · exact rfl)
    | (show WeakSt _ ⟨look _,Qi _ _ _,_⟩ ⟨look _,Qi _ (bxs _) _,_⟩;apply Qbko;(repeat first|exact Dr.nil|(apply Dr.keep;exact rfl)|apply Dr.drop)
       · repeat first|exact KLn|(apply KLc;(conv=>lhs;whnf);exact vK)
       · repeat first|exact KBn|(apply KBc;exact rfl;exact rfl;exact vS)|(apply KBm;exact rfl;exact rfl)
       · exact rfl)
    | (show WkV _ _;exact vK)):p:=h
theorem Z (n m:Nat) {p q:Prop} (k:q) (f:Fu n→Hd m q→p:=by
  intro t k
  repeat (replace t:=Fu.dn t;first
        | (show Rn _ _ (_::_) _ _;first
          | (apply md;exact rfl)
          | (apply bN;exact rfl)
          | (apply fP;exact rfl)
          | (apply zL;(first|exact tv|(apply gw;exact rfl;first|assumption|exact rfl|exact nT (by assumption)|exact nF (by assumption)));exact rfl;exact rfl;exact rfl;exact rfl;(conv=>lhs;whnf))
          | (apply sK;exact rfl;(first|assumption|exact rfl|exact nT (by assumption)|exact nF (by assumption)))
          | (apply Rn.sk (nu rfl))
          | (apply pT;exact rfl;(first|assumption|exact rfl|exact nT (by assumption)|exact nF (by assumption));(conv=>lhs;whnf))
          | (apply pF;exact rfl;(first|assumption|exact rfl|exact nT (by assumption)|exact nF (by assumption));(conv=>lhs;whnf))
          | (apply mv;(conv=>lhs;whnf))
          | (apply Rn.mov;(first|exact tv|(apply gw;exact rfl;first|assumption|exact rfl|exact nT (by assumption)|exact nF (by assumption)));(conv=>lhs;whnf))
          | (apply Rn.movTF;(first|exact tv|(apply gw;exact rfl;first|assumption|exact rfl|exact nT (by assumption)|exact nF (by assumption)));(conv=>lhs;whnf);exact rfl)
          | (apply Rn.movTO;(first|exact tv|(apply gw;exact rfl;first|assumption|exact rfl|exact nT (by assumption)|exact nF (by assumption)));exact rfl)
          | (apply Rn.movTOT;(first|exact tv|(apply gw;exact rfl;first|assumption|exact rfl|exact nT (by assumption)|exact nF (by assumption)));exact rfl)
          | (apply Rn.movTC;(first|exact tv|(apply gw;exact rfl;first|assumption|exact rfl|exact nT (by assumption)|exact nF (by assumption))))
          | (apply Rn.bin;(first|exact tv|(apply gw;exact rfl;first|assumption|exact rfl|exact nT (by assumption)|exact nF (by assumption)));exact rfl;exact rfl;exact rfl)
          | (apply Rn.fldP;(first|exact tv|(apply gw;exact rfl;first|assumption|exact rfl|exact nT (by assumption)|exact nF (by assumption)));exact rfl;exact rfl)
          | (apply Rn.fldC;(first|exact tv|(apply gw;exact rfl;first|assumption|exact rfl|exact nT (by assumption)|exact nF (by assumption)));exact rfl)
          | (apply Rn.lenD;(first|exact tv|(apply gw;exact rfl;first|assumption|exact rfl|exact nT (by assumption)|exact nF (by assumption)));exact rfl)
          | (apply Rn.lenA;(first|exact tv|(apply gw;exact rfl;first|assumption|exact rfl|exact nT (by assumption)|exact nF (by assumption)));exact rfl)
          | (apply Rn.loadC;(first|exact tv|(apply gw;exact rfl;first|assumption|exact rfl|exact nT (by assumption)|exact nF (by assumption)));exact rfl)
          | (apply Rn.loadCA;(first|exact tv|(apply gw;exact rfl;first|assumption|exact rfl|exact nT (by assumption)|exact nF (by assumption)));exact rfl;exact rfl;exact rfl)
          | (apply zI;(first|exact tv|(apply gw;exact rfl;first|assumption|exact rfl|exact nT (by assumption)|exact nF (by assumption)));exact rfl;exact rfl;exact h;(try clear h);intro y h)
          | (apply zX;(first|exact tv|(apply gw;exact rfl;first|assumption|exact rfl|exact nT (by assumption)|exact nF (by assumption)));exact rfl;exact rfl;exact h;(try clear h);intro h)
          | (apply zLa0;(first|exact tv|(apply gw;exact rfl;first|assumption|exact rfl|exact nT (by assumption)|exact nF (by assumption)));exact rfl;(first|(apply Qcm;exact rfl)|(apply Q84 hM;assumption));exact h;refine ⟨⟨fun _=>rfl,rfl⟩,?_⟩;(try clear h);intro y h;apply zK;exact rfl;(conv=>lhs;whnf))
          | (apply zLa;(first|exact tv|(apply gw;exact rfl;first|assumption|exact rfl|exact nT (by assumption)|exact nF (by assumption)));exact rfl;(first|(apply Qcm;exact rfl)|(apply Q84 hM;assumption));exact h;refine ⟨⟨fun _=>rfl,rfl⟩,?_⟩;(try clear h);intro y h;apply zK;exact rfl;(conv=>lhs;whnf))
          | (apply zA;(first|exact tv|(apply gw;exact rfl;first|assumption|exact rfl|exact nT (by assumption)|exact nF (by assumption)));exact rfl;exact rfl;exact rfl;exact h;(first|(apply Q2b;exact rfl;exact rfl;exact rfl)|exact Q7a|exact rfl);exact rfl;(try clear h);intro y h)
          | (apply zA0;(first|exact tv|(apply gw;exact rfl;first|assumption|exact rfl|exact nT (by assumption)|exact nF (by assumption)));exact rfl;exact rfl;exact rfl;exact rfl;exact h;(first|(apply Q2b;exact rfl;exact rfl;exact rfl)|exact Q7a|exact rfl);exact rfl;(try clear h);intro y h)
          | (apply zLb;(first|exact tv|(apply gw;exact rfl;first|assumption|exact rfl|exact nT (by assumption)|exact nF (by assumption)));exact rfl;(first|(apply Qcm;exact rfl)|(apply Q84 hM;assumption));exact rfl;exact rfl;(conv=>lhs;whnf))
          | (apply zBs;(first|exact tv|(apply gw;exact rfl;first|assumption|exact rfl|exact nT (by assumption)|exact nF (by assumption)));(repeat first|exact Ls.nil|apply Ls.d|apply Ls.cons);exact rfl;exact rfl;(repeat first|exact Ls.nil|apply Ls.d|apply Ls.cons))
          | (apply zE;(first|exact tv|(apply gw;exact rfl;first|assumption|exact rfl|exact nT (by assumption)|exact nF (by assumption)));exact rfl;exact rfl;(conv=>lhs;whnf);exact rfl)
          | (apply Rn.un;(first|exact tv|(apply gw;exact rfl;first|assumption|exact rfl|exact nT (by assumption)|exact nF (by assumption)));exact rfl;exact rfl)
          | (apply zSt;(first|exact tv|(apply gw;exact rfl;first|assumption|exact rfl|exact nT (by assumption)|exact nF (by assumption)));exact rfl;(conv=>lhs;whnf);exact rfl;exact rfl;exact rfl;(repeat first|exact Ls.nil|apply Ls.d|apply Ls.cons))
          | (apply zSO;(first|exact tv|(apply gw;exact rfl;first|assumption|exact rfl|exact nT (by assumption)|exact nF (by assumption)));exact rfl;exact rfl;exact rfl;exact rfl;(repeat first|exact Ls.nil|apply Ls.d|apply Ls.cons))
          | (apply zSD;(first|exact tv|(apply gw;exact rfl;first|assumption|exact rfl|exact nT (by assumption)|exact nF (by assumption)));exact rfl;exact rfl;exact rfl;exact rfl;(repeat first|exact Ls.nil|apply Ls.d|apply Ls.cons))
          | (apply zSV;(first|exact tv|(apply gw;exact rfl;first|assumption|exact rfl|exact nT (by assumption)|exact nF (by assumption)));exact rfl;(conv=>lhs;whnf);exact rfl;exact rfl;exact rfl;exact rfl;exact rfl;(repeat first|exact Ls.nil|apply Ls.d|apply Ls.cons))
          | (apply zST;(first|exact tv|(apply gw;exact rfl;first|assumption|exact rfl|exact nT (by assumption)|exact nF (by assumption)));exact rfl;(conv=>lhs;whnf);exact rfl;(repeat first|exact Ls.nil|apply Ls.d|apply Ls.cons);exact rfl;exact rfl;(repeat first|exact Ls.nil|apply Ls.d|apply Ls.cons))
          | (apply zLT;(first|exact tv|(apply gw;exact rfl;first|assumption|exact rfl|exact nT (by assumption)|exact nF (by assumption)));exact rfl;exact rfl;exact rfl;(repeat first|exact Ls.nil|apply Ls.d|apply Ls.cons))
          | (apply zBx;(first|exact tv|(apply gw;exact rfl;first|assumption|exact rfl|exact nT (by assumption)|exact nF (by assumption)));(conv=>lhs;whnf);exact rfl;(repeat first|exact Ls.nil|apply Ls.d|apply Ls.cons);exact rfl;exact rfl)
          | (apply zBd;(first|exact tv|(apply gw;exact rfl;first|assumption|exact rfl|exact nT (by assumption)|exact nF (by assumption)));(repeat first|exact Ls.nil|apply Ls.d|apply Ls.cons);exact rfl;(repeat first|exact Ls.nil|apply Ls.d|apply Ls.cons))
          | (apply Rn.alloc;(first|exact tv|(apply gw;exact rfl;first|assumption|exact rfl|exact nT (by assumption)|exact nF (by assumption)));exact rfl)
          | (apply Rn.pickT;(first|exact tv|(apply gw;exact rfl;first|assumption|exact rfl|exact nT (by assumption)|exact nF (by assumption)));exact rfl;(first|assumption|exact rfl|exact nT (by assumption)|exact nF (by assumption));(conv=>lhs;whnf))
          | (apply Rn.pickF;(first|exact tv|(apply gw;exact rfl;first|assumption|exact rfl|exact nT (by assumption)|exact nF (by assumption)));exact rfl;(first|assumption|exact rfl|exact nT (by assumption)|exact nF (by assumption));(conv=>lhs;whnf))
          | (apply Rn.extTD;(first|exact tv|(apply gw;exact rfl;first|assumption|exact rfl|exact nT (by assumption)|exact nF (by assumption)));exact rfl;exact rfl;exact rfl)
          | (apply Rn.conv;(first|exact tv|(apply gw;exact rfl;first|assumption|exact rfl|exact nT (by assumption)|exact nF (by assumption)));exact rfl)
          | (apply Rn.lenS;(first|exact tv|(apply gw;exact rfl;first|assumption|exact rfl|exact nT (by assumption)|exact nF (by assumption)));exact rfl)
          | (apply zS2;(first|exact tv|(apply gw;exact rfl;first|assumption|exact rfl|exact nT (by assumption)|exact nF (by assumption)));exact rfl;exact rfl;exact rfl;exact h;(try clear h);intro y h)
          | (apply zSH;(first|exact tv|(apply gw;exact rfl;first|assumption|exact rfl|exact nT (by assumption)|exact nF (by assumption)));exact rfl;exact rfl;exact h;(try clear h);intro y h))
        | (show Rn _ _ _ _ _;first
          | refine Rn.nil ⟨rfl,?_⟩
          | refine Rn.nil ⟨by show Qvk _ _=true;first|rfl|(simp [Qvk,Qkw,look,Bool.cond_eq_ite,Nat.beq_eq];done),?_⟩
          | apply Rn.nil)
        | apply Tr.seq
        | apply Tr.rgn
        | apply Tr.rgnD (by decide)
        | apply Tr.block
        | apply Tr.skip
        | apply Tr.ret
        | apply Tr.exit)
  first
    | exact (k:Hd 0 _).g
    | (have k:=(k:Hd 1 _);clear t;revert h;repeat revert y
       exact k.g)
    | exact ⟨_,h,wk⟩
    | (cases sj h
       first
        | exact wk
        | exact ⟨.inr rfl,_,rfl,fun _ _ _ _ h=>h,tv,mB⟩
        | (refine ⟨by first|exact .inr rfl|exact .inl rfl,?_⟩;apply exR
           · first|exact rfl|(apply Q83;exact rfl;exact rfl;exact rfl;exact rfl)|(apply res2<;>first|exact rfl|(apply Q83;exact rfl;exact rfl;exact rfl;exact rfl))|(apply res3<;>first|exact rfl|(apply Q83;exact rfl;exact rfl;exact rfl;exact rfl))|exact res0
           · first|exact fun _ _ _ _ h=>h|exact WkV.rd wk
           · repeat' first|exact tv|refine ⟨?_,?_⟩
           · exact mB)))
  : p:=f ⟨tv⟩ ⟨k⟩
section
variable {q:Arg} {x y:CC} {σ:St} {Q:Ex→St→Prop}
theorem cd {b:Bool} {A B:Option R} (h:(if b then A else B)=some r) (hb:q.val σ.s = .d (.bool b)) (hx:A=some r→Tr Γ x σ Q) (hy:B=some r→Tr Γ y σ Q):Tr Γ (.cond q x y) σ Q :=
  Tr.cond hb (fun e=>hx (bT e h)) (fun e=>hy (bF e h))
theorem ci {p:Prop} [Decidable p] {A B:Option R} (h:(if p then A else B)=some r) (hb:q.val σ.s = .d (.bool (decide p))) (hx:A=some r→Tr Γ x σ Q) (hy:B=some r→Tr Γ y σ Q):Tr Γ (.cond q x y) σ Q :=
  Tr.cond hb (fun e=>hx (ifT e h)) (fun e=>hy (ifF e h))
theorem bs {G:Prop} {b:Bool} {A B:Option R} (h:(if b then A else B)=some r) (hx:b=true→A=some r→G) (hy:b=false→B=some r→G):G :=
  Qbg4 b (fun e=>hx e (bT e h)) (fun e=>hy e (bF e h))
theorem bi {G:Prop} {p:Prop} [Decidable p] {A B:Option R} (h:(if p then A else B)=some r) (hx:decide p=true→A=some r→G) (hy:decide p=false→B=some r→G):G :=
  Qbg4 (decide p) (fun e=>hx e (ifT e h)) (fun e=>hy e (ifF e h))
theorem cu {X:Type} {A:Option X} {g:X→Option R} (h:A.bind g=some r) (mk:X→St) (hx:∀ z,A=some z→Tr Γ x σ (Qbif Γ mk z Q)) (hy:∀ z,g z=some r→Tr Γ y (mk z) Q):Tr Γ (.seq x y) σ Q:=Tr.cutB mk h hx hy
theorem lo {X:Type} {F:(X→Option R)→X→Option R} {n:Nat} {x0:X} {sites:List Nat} (h:Qb9 F n x0=some r) (mk:X→St) (h0:WeakSt Γ (Qkv Γ.n0 sites σ) (mk x0))
    (body:∀ (rec' : X→Option R) y,F rec' y=some r→Tr Γ x (mk y) (Qbie Γ sites mk rec' r Q)):Tr Γ (.loop sites x) σ Q:=Tr.loop h h0 body
end
inductive Le (E:List (Nat×V)):List Nat→List (Nat×V)→Prop
  | nil:Le E [] []
  | cons {k:Nat} {v:V} {ks:List Nat} {l:List (Nat×V)} (h:look E k=v) (t:Le E ks l):Le E (k::ks) ((k,v)::l)
inductive Lb (L:List (Nat×Bx)):List Nat→List (Nat×Bx)→Prop
  | nil:Lb L [] []
  | cons {k:Nat} {v:Bx} {ks:List Nat} {l:List (Nat×Bx)} (h:Qb0 L k=some v) (t:Lb L ks l):Lb L (k::ks) ((k,v)::l)
theorem ke {A B:Prop} (w:A∧B:=by
  constructor
  · repeat first|exact Le.nil|(apply Le.cons;(conv=>lhs;whnf))
  · repeat first|exact Lb.nil|(apply Lb.cons;exact rfl)):A∧B:=w
theorem wS (ks bs:List Nat) (dE:List (Nat×V)→List (Nat×V)) (dL:List (Nat×Bx)→List (Nat×Bx)) {E1:List (Nat×V)} {L1:List (Nat×Bx)} (w:Le E ks E1∧Lb L bs L1) (h:WeakSt Γ ⟨look E,Qi Γ.n0 L M,nb⟩ ⟨look (dE E1),Qi Γ.n0 (bxs (dL L1)) M,nb⟩):WeakSt Γ ⟨look E,Qi Γ.n0 L M,nb⟩ ⟨look (dE E1),Qi Γ.n0 (bxs (dL L1)) M,nb⟩:=h
section
variable {x y:CC} {Q:Ex→St→Prop} {X:Type} {E1:List (Nat×V)} {L1:List (Nat×Bx)}
theorem cw {A:Option X} {g:X→Option R} (h:A.bind g=some r) (ks bs:List Nat) (dE:X→List (Nat×V)→List (Nat×V)) (dL:X→List (Nat×Bx)→List (Nat×Bx)) (w:Le E ks E1∧Lb L bs L1)
    (hx:∀ z,A=some z→Tr Γ x ⟨look E,Qi Γ.n0 L M,nb⟩ (Qbif Γ (fun z=>⟨look (dE z E1),Qi Γ.n0 (bxs (dL z L1)) M,nb⟩) z Q)) (hy:∀ z,g z=some r→Tr Γ y ⟨look (dE z E1),Qi Γ.n0 (bxs (dL z L1)) M,nb⟩ Q):Tr Γ (.seq x y) ⟨look E,Qi Γ.n0 L M,nb⟩ Q:=Tr.cutB _ h hx hy
theorem lw {F:(X→Option R)→X→Option R} {n:Nat} {x0:X} {sites:List Nat} (h:Qb9 F n x0=some r) (ks bs:List Nat) (dE:X→List (Nat×V)→List (Nat×V)) (dL:X→List (Nat×Bx)→List (Nat×Bx)) (w:Le E ks E1∧Lb L bs L1)
    (h0:WeakSt Γ (Qkv Γ.n0 sites ⟨look E,Qi Γ.n0 L M,nb⟩) ⟨look (dE x0 E1),Qi Γ.n0 (bxs (dL x0 L1)) M,nb⟩)
    (body:∀ (rec' : X→Option R) y,F rec' y=some r→Tr Γ x ⟨look (dE y E1),Qi Γ.n0 (bxs (dL y L1)) M,nb⟩ (Qbie Γ sites (fun y=>⟨look (dE y E1),Qi Γ.n0 (bxs (dL y L1)) M,nb⟩) rec' r Q)):Tr Γ (.loop sites x) ⟨look E,Qi Γ.n0 L M,nb⟩ Q:=Tr.loop h h0 body
end
theorem cl {X:Type} {g:X→Option R} {o:Option X} {f:FuncId} {as:List Arg} {args:List V} {w:X→V} (H:∀ x,o=some x→∀ M nb,ACalls Γ.P f args M nb (w x) M nb) (h:o.bind g=some r)
    (K:(Wn E gd∧(one (pcOf pc)=true→∀ k,nb≤k→M k=none)∧V.dems (as.map (·.val (look E)))=args)∧∀ x,g x=some r→Rn Γ pc os ⟨look ((d,w x)::E),M,nb⟩ Q):Rn Γ pc (⟨some d,.call f,as,false,gd⟩::os) ⟨look E,M,nb⟩ Q:=by
  obtain ⟨x,hx,h⟩:=bnd h
  exact Rn.call K.1.1 K.1.2.2 (H x hx) K.1.2.1 (K.2 x h)
theorem cm {X:Type} {g:X→Option R} {o:Option X} {f:FuncId} {as:List Arg} {args:List V} {w:X→V} (h:o.bind g=some r) (H:∀ x,o=some x→∀ M2 nb2,nb≤nb2→Ext M M2→ACalls Γ.P f args M2 nb2 (w x) M2 nb2) (hp:(Nat.ble (pcOf pc) 1||Nat.ble 10 (pcOf pc))=true)
    (K:(Wn E gd∧(one (pcOf pc)=true→∀ k,nb≤k→M k=none)∧V.dems (as.map (·.val (look E)))=args)∧∀ x,g x=some r→Rn Γ pc os ⟨look ((d,w x)::E),M,nb⟩ Q):Rn Γ pc (⟨some d,.call f,as,false,gd⟩::os) ⟨look E,M,nb⟩ Q:=by
  obtain ⟨x,hx,h⟩:=bnd h
  exact Rn.callM K.1.1 K.1.2.2 (H x hx) hp K.1.2.1 (K.2 x h)
theorem ini {cc:CC} {args:List V} {Q:Ex→St→Prop} (k:Tr Γ cc ⟨look ((List.range' 0 args.length).zip args),M,nb⟩ Q):Tr Γ cc ⟨Qn0 args,M,nb⟩ Q:=Tr.init _ rfl k
theorem cq {A B C p:Prop} (k:p) (w:A∧B∧C:=by refine ⟨?_,?_,rfl⟩;(first|exact tv|(apply gw;exact rfl;first|assumption|exact rfl|exact nT (by assumption)|exact nF (by assumption)));first|exact pc0|exact pc9|exact pc2|exact fun _=>Q2c hM rfl):(A∧B∧C)∧p:=⟨w,k⟩
theorem Y {p:Prop} (h:p:=by exact Z 99 2 tv):p:=h
end Go.Abs
end
section
namespace Go.Abs
open Go
variable {Γ:Env} {pc d nb sz:Nat} {os:List COp} {E:List (Nat×V)} {M M0 M1 M2:Mem} {Q:St→Prop} {L:List (Nat×Bx)} {a b c:Arg} {gd:Option (Nat×Bool)} {α:Type}
theorem Rn.callO {f i t:Nat} {as:List Arg} {args args' : List V} {r:V} (hw:Wn E gd) (ht:Qrw i as=some t) (ha:Qw1 (look E) i as=args) (hk:WkVs args args') (hC:∀ M nb,ACalls Γ.P f args' M nb r M nb)
  (h:Rn Γ 9 os ⟨look ((d,r)::(t,(look E t).dem)::E),M,nb⟩ Q):Rn Γ 9 (⟨some d,.callO f i,as,false,gd⟩::os) ⟨look E,M,nb⟩ Q:=by
 refine Rn.cons ?_;unfold COp.run;rw [hw.wanted];simp only [show (K.callO f i).isCall=false from rfl,show (K.callO f i).isNil=true from rfl,Bool.false_eq_true,if_false,if_true,COp.runN,ha];refine ⟨rfl,r,M,nb,(hC _ _).weakO hk,fun _ h=>h,fun _ _ _ _=>.inl rfl,?_⟩;rw [show Q4 (Qrx (look E) (Qrw i as)) (some d) r=look ((d,r)::(t,(look E t).dem)::E) from by
  rw [ht];show Q4 ((look E).put t (look E t).dem) (some d) r=_;rw [show (look E).put t (look E t).dem=look ((t,(look E t).dem)::E) from Qcg E t _];exact Qcg _ d r]
 exact h
def chrO (s:ByteArray) (i:Int):Option Int:=if hi:0≤i∧i<s.size then some (s[i.toNat]'(by omega)).toNat else none
theorem Rn.idxs {k:IntKind} {s:ByteArray} {i x:Int} (hw:Wn E gd) (ha:a.val (look E) = .d (.str s)) (hb:b.val (look E) = .d (.int k i)) (hx:chrO s i=some x) (h:Rn Γ pc os ⟨look ((d,.d (.int .u8 x))::E),M,nb⟩ Q) :
  Rn Γ pc (⟨some d,.idxs,[a,b],false,gd⟩::os) ⟨look E,M,nb⟩ Q:=by
 refine Rn.k hw rfl rfl ?_ h;unfold chrO at hx;split at hx<;>cases hx;rename_i hi;simp only [List.map_cons,List.map_nil,V.dems,ha,hb,V.dem,Qh];rw [dif_pos hi]
theorem Q7m:∀ xs:List Int,Q6i (xs.map (eI .u8))=some xs
 | []=>rfl
 | x::xs=>by
  rw [List.map_cons];show (Q6i (xs.map (eI .u8))).map (x :: ·)=_;rw [Q7m xs];rfl
theorem Rn.bstr {xs:List Int} (hw:Wn E gd) (ha:(a.val (look E)).dem = .d (.lst 1 (xs.map (eI .u8)))) (h:Rn Γ pc os ⟨look ((d,.d (.str (strB xs)))::E),M,nb⟩ Q):Rn Γ pc (⟨some d,.bstr,[a],false,gd⟩::os) ⟨look E,M,nb⟩ Q:=by
 refine Rn.k hw rfl rfl ?_ h;simp only [List.map_cons,List.map_nil,V.dems,ha,Qh,Q7m,Option.map_some]
theorem Rn.blit {n:Nat} {z:List V} {ps:List Nat} {as:List Arg} {xs:List V} {ds:List D} {l:List (List D)} (hw:Wn E gd) (ha:V.dems (as.map (·.val (look E)))=xs)
  (hc:(ps.length=xs.length&&decide (0<sz)&&z.length==sz&&(ps.zip xs).all (fun (i,x)=>Qc9 x&&x.cells.length==sz&&decide (i<n)))=true)
  (hd:toDs (Qhw (rep n z) ((ps.zip xs).map fun (i,x)=>(i*sz,x.cells)))=some ds) (hl:Qhv sz n ds=l)
  (h:Rn Γ pc os ⟨look ((d,.d (.lst sz l))::E),M,nb⟩ Q):Rn Γ pc (⟨some d,.blit sz n z ps,as,false,gd⟩::os) ⟨look E,M,nb⟩ Q:=by
 refine Rn.k hw rfl rfl ?_ h;rw [ha];have hs:∀ κ,Qh Γ.n0 κ (.blit sz n z ps) xs M=(if ps.length=xs.length&&decide (0<sz)&&z.length==sz&&(ps.zip xs).all (fun (i,x)=>Qc9 x&&x.cells.length==sz&&decide (i<n))
   then (toDs (Qhw (rep n z) ((ps.zip xs).map fun (i,x)=>(i*sz,x.cells)))).map fun ds=>(V.d (.lst sz (Qhv sz n ds)),M) else none):=fun κ=>by cases xs<;>rfl
 rw [hs,if_pos hc,hd,Option.map_some,hl]
section
variable {κ β:Type} [BEq κ] {ek:κ→V} {ev:β→V} {m:List (κ×β)} (hs:∀ a b,Qfb (ek a) (ek b)=(a==b)) {kd:MK} (hk:∀ a,kd.ok (ek a)=true) (hv:∀ b,(ev b).dat=true)
include hs hk hv
end
section
variable {κ β:Type} [BEq κ] {ek:κ→V} {ev:β→V} {m:List (κ×β)} (hs:∀ a b,Qfb (ek a) (ek b)=(a==b)) {kd:MK} (hk:∀ a,kd.ok (ek a)=true) (hv:∀ b,(ev b).dat=true)
include hs hk hv
theorem Rn.lookupF {t:Nat} {z:V} {k:κ} (zb:β) (hh:hasM m k=true) (hw:Wn E gd) (ha:a.val (look E) = .mp (Γ.n0+t)) (hb:(b.val (look E)).dem=ek k) (hM:Qb0 L t=some (.mp (mapE ek ev 0 m) m.length))
  (h:Rn Γ pc os ⟨look ((d,.tup [ev (getM m k zb),.d (.bool true)])::E),Qi Γ.n0 L M0,nb⟩ Q):Rn Γ pc (⟨some d,.lookup kd true z,[a,b],false,gd⟩::os) ⟨look E,Qi Γ.n0 L M0,nb⟩ Q:=by
 refine Rn.k hw rfl rfl ?_ h;simp only [List.map_cons,List.map_nil,V.dems,ha,hb,V.dem,Qh,Qcm hM,hk,Qpv hk,Bool.and_self,if_true,Qou hs 0 m zb];simp [hh,Qwn (hv _),Qtx (hv _)]
end
end Go.Abs
end
section
namespace Go.Abs
open Go
variable {Γ:Env} {α:Type}
mutual
def V.nwn:V→Bool
 | .own ..=>false
 | .ownT ..=>false
 | .agg cs=>V.nwns cs
 | .tup cs=>V.nwns cs
 | .clo _ cs=>V.nwns cs
 | _=>true
def V.nwns:List V→Bool
 | []=>true
 | v::vs=>v.nwn&&V.nwns vs
end
section
variable {g:G} {w:World} {ow:Nat→Owner} (hb:∀ b,g.own b = .ext→ow b = .ext)
include hb
mutual
theorem Qbhb:∀ (v:V) (ℓ:Owner) (u:Value),v.nwn=true→RV g w v ℓ u→RV ⟨g.box,g.imm,ow⟩ w v ℓ u
 | .und,_,_,_,h=>h
 | .d _,_,_,_,h=>h
 | .agg cs,ℓ,u,hn,h=>by
  simp only [V.nwn] at hn;simp only [RV] at h ⊢;obtain ⟨vs,rfl,h,h1⟩:=h;exact ⟨vs,rfl,RVs_lab cs ℓ 0 vs hn h,h1⟩
 | .tup cs,ℓ,u,hn,h=>by
  simp only [V.nwn] at hn;simp only [RV] at h ⊢;obtain ⟨vs,rfl,h⟩:=h;exact ⟨vs,rfl,RVs_lab cs ℓ 0 vs hn h⟩
 | .own ..,_,_,hn,_=>by cases hn
 | .ownT ..,_,_,hn,_=>by cases hn
 | .ptr ..,_,_,_,h=>h
 | .nilp,_,_,_,h=>h
 | .f x,_,u,_,h=>by
  simp only [RV] at h ⊢;exact Qfc ⟨fun b o ⟨h1,h2,h3⟩=>⟨h1,hb b h2,h3⟩,fun _ _ _=>rfl⟩ x u h
 | .nils _,_,_,_,h=>h
 | .cref _,_,_,_,h=>h
 | .sl ..,_,_,_,h=>h
 | .clo f cs,_,u,hn,h=>by
  simp only [V.nwn] at hn;simp only [RV] at h ⊢;obtain ⟨vs,rfl,h⟩:=h;exact ⟨vs,rfl,RVs_lab cs .ext 0 vs hn h⟩
 | .mp _,_,_,_,h=>h
theorem RVs_lab:∀ (cs:List V) (ℓ:Owner) (i:Nat) (us:List Value),V.nwns cs=true→RVs g w cs ℓ i us→RVs ⟨g.box,g.imm,ow⟩ w cs ℓ i us
 | [],_,_,_,_,h=>h
 | c::cs,ℓ,i,us,hn,h=>by
  simp only [V.nwns,Bool.and_eq_true] at hn;simp only [RVs] at h ⊢;obtain ⟨u,us',rfl,h1,h2⟩:=h;exact ⟨u,us',rfl,Qbhb c _ u hn.1 h1,RVs_lab cs ℓ (i+1) us' hn.2 h2⟩
end
end
mutual
theorem Qbhc {p:Nat→Prop}:∀ v:V,v.on p→v.toF.on p
 | .d (.lst ..),_=>trivial
 | .d (.int ..),_=>trivial
 | .d (.bool _),_=>trivial
 | .d (.str _),_=>trivial
 | .d (.mp ..),_=>trivial
 | .agg cs,h=>ons_toF cs h
 | .und,_=>trivial
 | .tup _,h=>h
 | .own ..,_=>trivial
 | .ownT ..,_=>trivial
 | .ptr ..,h=>h
 | .nilp,_=>trivial
 | .f _,_=>trivial
 | .nils _,_=>trivial
 | .cref _,_=>trivial
 | .sl ..,h=>h
 | .clo ..,h=>h
 | .mp _,h=>h
theorem ons_toF {p:Nat→Prop}:∀ vs:List V,V.ons p vs→V.ons p (V.toFs vs)
 | [],_=>trivial
 | v::vs,h=>⟨Qbhc v h.1,ons_toF vs h.2⟩
end
def exO (o:Owner):Owner:=match o with
 | .box k=>.box k
 | _=>.ext
theorem Qbio {o:Owner} (h:∀ k,o ≠ .box k):exO o = .ext:=by
 cases o<;>first|rfl|exact absurd rfl (h _)
theorem Tr.toF {cc:CC} {Q:Ex→St→Prop} (hX:∀ b,Γ.g0.own b = .ext) {s s' : Sl} {M M' : Mem} {nb:Nat} (hs:∀ t,(s t).nwn=true∧s' t=(s t).toF)
  (hM:∀ k,(M k=none∧M' k=none)∨∃ cs,M k=some (.cells cs)∧V.nwns cs=true∧M' k=some (.cells (V.toFs cs))) (h:Tr Γ cc ⟨s',M',nb⟩ Q):Tr Γ cc ⟨s,M,nb⟩ Q:=by
 intro c hc a w g hr;have hb:∀ b,g.own b = .ext→exO (g.own b) = .ext:=fun b e=>by rw [e];rfl
 have hx:∀ b o,(⟨g.box,g.imm,fun b=>exO (g.own b)⟩ : G).imm b o→(⟨g.box,g.imm,fun b=>exO (g.own b)⟩ : G).own b = .ext:=fun b o hi=>Qbio (hr.mem.imm b o hi).2;have hsome:∀ k,(M k).isSome=true→(M' k).isSome=true:=fun k hk=>by
  rcases hM k with ⟨h1,_⟩|⟨cs,_,_,h3⟩
  ·rw [h1] at hk;cases hk
  ·rw [h3];rfl
 refine h c hc a w ⟨g.box,g.imm,fun b=>exO (g.own b)⟩ ⟨⟨fun k bx hk=>?_,fun b o hi=>⟨(hr.mem.imm b o hi).1,fun k=>by rw [hx b o hi];simp⟩⟩,fun t=>?_,hr.size,hr.defers,fun t=>?_,fun k cs hk=>?_,hr.top,?_⟩
 ·rcases hM k with ⟨_,h1⟩|⟨cs,h1,h2,h3⟩
  ·have hk:M' k=some bx:=hk;rw [h1] at hk;cases hk
  ·have hk:M' k=some bx:=hk;rw [h3] at hk;cases hk;obtain ⟨q1,q2,vals,e,q3,q4,q5⟩:=hr.mem.box k _ h1;exact ⟨q1,by show exO (g.own (g.box k))=_;rw [q2];rfl,vals,e,q3,RVs_toF hx cs _ 0 _ (RVs_lab hb cs _ 0 _ h2 q4),q5⟩
 ·obtain ⟨h1,h2⟩:=hs t;show RV _ w (s' t) _ _;rw [h2];exact Qbd2 hx _ _ _ (Qbhb hb _ _ _ h1 (hr.slots t))
 ·show (s' t).on _;rw [(hs t).2];exact Qbhc _ (Qey hsome _ (hr.onS t))
 ·rcases hM k with ⟨_,h1⟩|⟨cs',h1,h2,h3⟩
  ·have hk:M' k=some (.cells cs):=hk;rw [h1] at hk;cases hk
  ·have hk:M' k=some (.cells cs):=hk;rw [h3] at hk;cases hk;obtain ⟨q1,q2⟩:=hr.onM k cs' h1;exact ⟨ons_toF _ (ons_mono hsome _ q1),fun hk=>ons_toF _ (q2 hk)⟩
 ·have hf:=hr.fr;refine ⟨hf.os,hf.tape,hf.output,hf.size,hf.imm,hf.box,fun b hb' ho=>?_⟩;obtain ⟨q1,q2,q3⟩:=hf.old b hb' ho;refine ⟨?_,q2,q3⟩;show exO (g.own b)=_;rw [q1,hX b];rfl
def toFB:Bx→Bx
 | .cells cs=>.cells (V.toFs cs)
 | b=>b
def nwnB:Bx→Bool
 | .cells cs=>V.nwns cs
 | _=>false
theorem Qbam:∀ {E:List (Nat×V)},(E.all fun p=>p.2.nwn)=true→∀ t,(look E t).nwn=true∧look (E.map fun p=>(p.1,p.2.toF)) t=(look E t).toF
 | [],_,t=>⟨rfl,rfl⟩
 | (i,v)::E,h,t=>by
  simp only [List.all_cons,Bool.and_eq_true] at h;have ih:=Qbam h.2 t;simp only [look,List.map_cons];cases Nat.beq t i with
  | true=>exact ⟨h.1,rfl⟩
  | false=>exact ih
theorem Q7n:∀ {L:List (Nat×Bx)},(L.all fun p=>nwnB p.2)=true→∀ t,(Qb0 L t=none∧Qb0 (L.map fun p=>(p.1,toFB p.2)) t=none)∨∃ cs,Qb0 L t=some (.cells cs)∧V.nwns cs=true∧Qb0 (L.map fun p=>(p.1,toFB p.2)) t=some (.cells (V.toFs cs))
 | [],_,t=>.inl ⟨rfl,rfl⟩
 | (i,b)::L,h,t=>by
  simp only [List.all_cons,Bool.and_eq_true] at h;have ih:=Q7n h.2 t;simp only [Qb0,List.map_cons];cases Nat.beq t i with
  | true =>
   cases b with
   | cells cs=>exact .inr ⟨cs,rfl,h.1,rfl⟩
   | mp es c=>cases h.1
  | false=>exact ih
theorem toFL {cc:CC} {Q:Ex→St→Prop} {M0:Mem} (hX:(∀ b,Γ.g0.own b = .ext)∧∀ k,M0 k=none) {E E' : List (Nat×V)} {L L' : List (Nat×Bx)} {nb:Nat} (hE:(E.all fun p=>p.2.nwn)=true) (hL:(L.all fun p=>nwnB p.2)=true) (hE' : E.map (fun p=>(p.1,p.2.toF))=E') (hL' : L.map (fun p=>(p.1,toFB p.2))=L')
  (h:Tr Γ cc ⟨look E',Qi Γ.n0 L' M0,nb⟩ Q):Tr Γ cc ⟨look E,Qi Γ.n0 L M0,nb⟩ Q:=by
 subst hE' hL';refine Tr.toF hX.1 (Qbam hE) (fun k=>?_) h;rcases Nat.lt_or_ge k Γ.n0 with hk|hk
 ·rw [Qdu hk,Qdu hk];exact .inl ⟨hX.2 k,hX.2 k⟩
 ·obtain ⟨t,rfl⟩ : ∃ t,k=Γ.n0+t:=⟨k-Γ.n0,by omega⟩;rw [Qco,Qco];exact Q7n hL t
theorem Qbip {P:Program} {f:FuncId} {cf:CFn} (hcf:Ql P f=some cf) {args args' : List V} {r:V} (hargs:Nat.beq args'.length cf.np=true) (hr0:r.lt 0=true) (hr1:Qxa r=true) (ha:V.toFs args=args') (hfl:V.dems args'=args') (hlt:V.lt.go 0 args'=true)
  (hrun:∀ (Γ:Env) (M:Mem),Γ.P=P→Γ.nt=cf.nt→Lone Γ M→Q2l M→(∀ k,Γ.n0≤k→M k=none)→((∀ b,Γ.g0.own b = .ext)∧∀ k,M k=none)→Tr Γ cf.body ⟨Qn0 args',Qi Γ.n0 [] M,Γ.n0+cf.nt⟩ (FinP cf.res r Γ.n0 M)):∀ M nb,ACalls P f args M nb r M nb:=by
 intro M nb;have hflat:∀ x∈args',Flat x:=by
  rw [← hfl];exact Qhx
 refine Qbg3 hcf hr0 hr1 (dems_toF args (by rw [ha];exact hfl)) (fun g0 w0 us hp hi hus=>⟨args',by rw [← ha];exact Q86 (fun b _ _=>hp b) hus,hflat,hlt,Nat.eq_of_beq_eq_true hargs,fun Γ k1 k2 k3 k4 k5=>?_⟩) M;have h:=hrun Γ (fun _=>none) k1 k3 ⟨fun b _=>.inl (by rw [k4,hp b];trivial),fun b o hb=>by grind⟩ ⟨fun _ _ h=>(by cases h),fun _ _ _ h=>(by cases h)⟩ (fun _ _=>rfl) ⟨fun b=>by rw [k4];exact hp b,fun _=>rfl⟩;rw [Qme (fun _ _=>rfl),k2] at h;refine h.mono ?_;rintro e σ' ⟨he,r',q1,q2,q3,q4⟩;exact ⟨he,r',q1,q2,fun k b hk=>(by cases hk),fun _ _ _=>⟨q3,fun k cs hk=>(by cases hk),fun k hk=>(by cases hk)⟩⟩
end Go.Abs
end
section
namespace Go.Abs
open Go
set_option maxRecDepth 10000
set_option maxHeartbeats 4000000
structure Qg where
  From:Int
  Event:Int
  To:Int
  deriving DecidableEq
def Qd (x:Qg):List D:=[.int .i64 x.From,.int .i64 x.Event,.int .i64 x.To]
abbrev Qh4 (x:Qg):List V:=[(i_ x.From),(i_ x.Event),(i_ x.To)]
abbrev Qjg (x:Qg):V:=.agg (Qh4 x)
structure Qa where
  zD:List Int
  zH:Int
  zF:List Int
  zG:List Qg
  deriving DecidableEq
def Qbd6 (x:Qa):List D:=[.lst 1 (List.map (eI .i64) x.zD),.int .i64 x.zH,.lst 1 (List.map (eI .i64) x.zF),.lst 3 (List.map Qd x.zG)]
abbrev Qn (x:Qa):List V:=[(l_ x.zD),(i_ x.zH),(l_ x.zF),.d (.lst 3 (List.map Qd x.zG))]
abbrev Qp (x:Qa):V:=.agg (Qn x)
structure Qe where
  Name:ByteArray
  Controllable:Bool
  Observable:Bool
  zC:Bool
  Fault:Int
def Qf (x:Qe):List D:=[.str x.Name,.bool x.Controllable,.bool x.Observable,.bool x.zC,.int .i64 x.Fault]
abbrev Q87 (x:Qe):List V:=[.d (.str x.Name),(b_ x.Controllable),(b_ x.Observable),(b_ x.zC),(i_ x.Fault)]
abbrev Qxd (x:Qe):V:=.agg (Q87 x)
structure Qb where
  State:Int
  Classes:Int
  deriving DecidableEq
def Qc (x:Qb):List D:=[.int .i64 x.State,.int .i64 x.Classes]
abbrev Qbk (x:Qb):List V:=[(i_ x.State),(i_ x.Classes)]
abbrev Qen (x:Qb):V:=.agg (Qbk x)
theorem Qfx (a b:Qb):Qfb (Qen a) (Qen b)=(a==b):=by
  cases a;cases b;refine (decB ?_);simp [Qen,Qbk,Qfb,Qqo,Qj6]
structure Qk where
  out_:List (List Qg)
  kept_:List Int
  erased_:List Int
  marked_:List Int
  deriving DecidableEq
def Q7o (x:Qk):List D:=[.lst 1 (List.map (eL 3 Qd) x.out_),.lst 1 (List.map (eI .i64) x.kept_),.lst 1 (List.map (eI .i64) x.erased_),.lst 1 (List.map (eI .i64) x.marked_)]
abbrev Qu (x:Qk):List V:=[.d (.lst 1 (List.map (eL 3 Qd) x.out_)),(l_ x.kept_),(l_ x.erased_),(l_ x.marked_)]
abbrev Qbn (x:Qk):V:=.agg (Qu x)
structure Qby where
  zB:Qa
  Estimates:List (List Qb)
  deriving DecidableEq
def Q7p (x:Qby):List D:=[.lst 1 (List.map (eI .i64) x.zB.zD),.int .i64 x.zB.zH,.lst 1 (List.map (eI .i64) x.zB.zF),.lst 3 (List.map Qd x.zB.zG),.lst 1 (List.map (eL 2 Qc) x.Estimates)]
abbrev Qs (x:Qby):List V:=[(l_ x.zB.zD),(i_ x.zB.zH),(l_ x.zB.zF),.d (.lst 3 (List.map Qd x.zB.zG)),.d (.lst 1 (List.map (eL 2 Qc) x.Estimates))]
abbrev Qo (x:Qby):V:=.agg (Qs x)
structure Qm where
  state_:Int
  done_:Int
  deriving DecidableEq
def Qc3 (x:Qm):List D:=[.int .i64 x.state_,.int .i64 x.done_]
abbrev Q1 (x:Qm):List V:=[(i_ x.state_),(i_ x.done_)]
abbrev Qk0 (x:Qm):V:=.agg (Q1 x)
theorem Qff (a b:Qm):Qfb (Qk0 a) (Qk0 b)=(a==b):=by
  cases a;cases b;refine (decB ?_);simp [Qk0,Q1,Qfb,Qqo,Qj6]
structure Qcf where
  zH:Int
  Marks:Int
  To:(Int×Int×Int×Int×Int)×(Int×Int×Int×Int×Int)×(Int×Int×Int×Int×Int)×(Int×Int×Int×Int×Int)×(Int×Int×Int×Int×Int)
def Qmf (x:Qcf):List D:=[.int .u8 x.zH,.int .u8 x.Marks,.int .u8 x.To.1.1,.int .u8 x.To.1.2.1,.int .u8 x.To.1.2.2.1,.int .u8 x.To.1.2.2.2.1,.int .u8 x.To.1.2.2.2.2,.int .u8 x.To.2.1.1,.int .u8 x.To.2.1.2.1,.int .u8 x.To.2.1.2.2.1,.int .u8 x.To.2.1.2.2.2.1,.int .u8 x.To.2.1.2.2.2.2,.int .u8 x.To.2.2.1.1,.int .u8 x.To.2.2.1.2.1,.int .u8 x.To.2.2.1.2.2.1,.int .u8 x.To.2.2.1.2.2.2.1,.int .u8 x.To.2.2.1.2.2.2.2,.int .u8 x.To.2.2.2.1.1,.int .u8 x.To.2.2.2.1.2.1,.int .u8 x.To.2.2.2.1.2.2.1,.int .u8 x.To.2.2.2.1.2.2.2.1,.int .u8 x.To.2.2.2.1.2.2.2.2,.int .u8 x.To.2.2.2.2.1,.int .u8 x.To.2.2.2.2.2.1,.int .u8 x.To.2.2.2.2.2.2.1,.int .u8 x.To.2.2.2.2.2.2.2.1,.int .u8 x.To.2.2.2.2.2.2.2.2]
abbrev Qt7 (x:Qcf):List V:=[.d (.int .u8 x.zH),.d (.int .u8 x.Marks),.d (.int .u8 x.To.1.1),.d (.int .u8 x.To.1.2.1),.d (.int .u8 x.To.1.2.2.1),.d (.int .u8 x.To.1.2.2.2.1),.d (.int .u8 x.To.1.2.2.2.2),.d (.int .u8 x.To.2.1.1),.d (.int .u8 x.To.2.1.2.1),.d (.int .u8 x.To.2.1.2.2.1),.d (.int .u8 x.To.2.1.2.2.2.1),.d (.int .u8 x.To.2.1.2.2.2.2),.d (.int .u8 x.To.2.2.1.1),.d (.int .u8 x.To.2.2.1.2.1),.d (.int .u8 x.To.2.2.1.2.2.1),.d (.int .u8 x.To.2.2.1.2.2.2.1),.d (.int .u8 x.To.2.2.1.2.2.2.2),.d (.int .u8 x.To.2.2.2.1.1),.d (.int .u8 x.To.2.2.2.1.2.1),.d (.int .u8 x.To.2.2.2.1.2.2.1),.d (.int .u8 x.To.2.2.2.1.2.2.2.1),.d (.int .u8 x.To.2.2.2.1.2.2.2.2),.d (.int .u8 x.To.2.2.2.2.1),.d (.int .u8 x.To.2.2.2.2.2.1),.d (.int .u8 x.To.2.2.2.2.2.2.1),.d (.int .u8 x.To.2.2.2.2.2.2.2.1),.d (.int .u8 x.To.2.2.2.2.2.2.2.2)]
abbrev Qt8 (x:Qcf):V:=.agg (Qt7 x)
structure Qbj where
  Events:Int
  Graph:Qcf
  Flags:Int×Int×Int×Int×Int
def Qmg (x:Qbj):List D:=[.int .u8 x.Events,.int .u8 x.Graph.zH,.int .u8 x.Graph.Marks,.int .u8 x.Graph.To.1.1,.int .u8 x.Graph.To.1.2.1,.int .u8 x.Graph.To.1.2.2.1,.int .u8 x.Graph.To.1.2.2.2.1,.int .u8 x.Graph.To.1.2.2.2.2,.int .u8 x.Graph.To.2.1.1,.int .u8 x.Graph.To.2.1.2.1,.int .u8 x.Graph.To.2.1.2.2.1,.int .u8 x.Graph.To.2.1.2.2.2.1,.int .u8 x.Graph.To.2.1.2.2.2.2,.int .u8 x.Graph.To.2.2.1.1,.int .u8 x.Graph.To.2.2.1.2.1,.int .u8 x.Graph.To.2.2.1.2.2.1,.int .u8 x.Graph.To.2.2.1.2.2.2.1,.int .u8 x.Graph.To.2.2.1.2.2.2.2,.int .u8 x.Graph.To.2.2.2.1.1,.int .u8 x.Graph.To.2.2.2.1.2.1,.int .u8 x.Graph.To.2.2.2.1.2.2.1,.int .u8 x.Graph.To.2.2.2.1.2.2.2.1,.int .u8 x.Graph.To.2.2.2.1.2.2.2.2,.int .u8 x.Graph.To.2.2.2.2.1,.int .u8 x.Graph.To.2.2.2.2.2.1,.int .u8 x.Graph.To.2.2.2.2.2.2.1,.int .u8 x.Graph.To.2.2.2.2.2.2.2.1,.int .u8 x.Graph.To.2.2.2.2.2.2.2.2,.int .u8 x.Flags.1,.int .u8 x.Flags.2.1,.int .u8 x.Flags.2.2.1,.int .u8 x.Flags.2.2.2.1,.int .u8 x.Flags.2.2.2.2]
abbrev Q5 (x:Qbj):List V:=[.d (.int .u8 x.Events),.d (.int .u8 x.Graph.zH),.d (.int .u8 x.Graph.Marks),.d (.int .u8 x.Graph.To.1.1),.d (.int .u8 x.Graph.To.1.2.1),.d (.int .u8 x.Graph.To.1.2.2.1),.d (.int .u8 x.Graph.To.1.2.2.2.1),.d (.int .u8 x.Graph.To.1.2.2.2.2),.d (.int .u8 x.Graph.To.2.1.1),.d (.int .u8 x.Graph.To.2.1.2.1),.d (.int .u8 x.Graph.To.2.1.2.2.1),.d (.int .u8 x.Graph.To.2.1.2.2.2.1),.d (.int .u8 x.Graph.To.2.1.2.2.2.2),.d (.int .u8 x.Graph.To.2.2.1.1),.d (.int .u8 x.Graph.To.2.2.1.2.1),.d (.int .u8 x.Graph.To.2.2.1.2.2.1),.d (.int .u8 x.Graph.To.2.2.1.2.2.2.1),.d (.int .u8 x.Graph.To.2.2.1.2.2.2.2),.d (.int .u8 x.Graph.To.2.2.2.1.1),.d (.int .u8 x.Graph.To.2.2.2.1.2.1),.d (.int .u8 x.Graph.To.2.2.2.1.2.2.1),.d (.int .u8 x.Graph.To.2.2.2.1.2.2.2.1),.d (.int .u8 x.Graph.To.2.2.2.1.2.2.2.2),.d (.int .u8 x.Graph.To.2.2.2.2.1),.d (.int .u8 x.Graph.To.2.2.2.2.2.1),.d (.int .u8 x.Graph.To.2.2.2.2.2.2.1),.d (.int .u8 x.Graph.To.2.2.2.2.2.2.2.1),.d (.int .u8 x.Graph.To.2.2.2.2.2.2.2.2),.d (.int .u8 x.Flags.1),.d (.int .u8 x.Flags.2.1),.d (.int .u8 x.Flags.2.2.1),.d (.int .u8 x.Flags.2.2.2.1),.d (.int .u8 x.Flags.2.2.2.2)]
abbrev Qit (x:Qbj):V:=.agg (Q5 x)
end Go.Abs
end
section
namespace Go.Abs
open Go
set_option maxRecDepth 10000
set_option maxHeartbeats 4000000
def Qiu (P:Program) (c:Nat) (f:Option ((List Qe)×Qa)):Prop:=∀ r,f=some r→∀ M nb,ACalls P c [] M nb (.tup [.d (.lst 5 (List.map Qf r.1)),.agg [(l_ r.2.zD),(i_ r.2.zH),.nils 1,.d (.lst 3 (List.map Qd r.2.zG))]]) M nb
def Qmh:CFn:=⟨0,17,[.t 0,.cell 1 true 4],sg [ot 0 .mov [.c (.nils 5)],oo 1 (.alloc [.nils 1,.d (.int .i64 0),.nils 1,.nils 3]) []] (sg [oo 3 (.build [.d (.str ⟨#[]⟩),.d (.bool false),.d (.bool false),.d (.bool false),.d (.int .i64 0)] [(0,1),(2,1)]) [.c (.d (.str ⟨#[97]⟩)),.c (.d (.bool true))],oo 4 (.build [.d (.str ⟨#[]⟩),.d (.bool false),.d (.bool false),.d (.bool false),.d (.int .i64 0)] [(0,1),(2,1)]) [.c (.d (.str ⟨#[98]⟩)),.c (.d (.bool true))],oo 5 (.build [.d (.str ⟨#[]⟩),.d (.bool false),.d (.bool false),.d (.bool false),.d (.int .i64 0)] [(0,1),(4,1)]) [.c (.d (.str ⟨#[102]⟩)),cI 1],oo 6 (.build [.d (.str ⟨#[]⟩),.d (.bool false),.d (.bool false),.d (.bool false),.d (.int .i64 0)] [(0,1),(4,1)]) [.c (.d (.str ⟨#[103]⟩)),cI 2],oo 7 (.bslice 5 4 [.d (.str ⟨#[]⟩),.d (.bool false),.d (.bool false),.d (.bool false),.d (.int .i64 0)] [0,1,2,3]) [.t 3,.t 4,.t 5,.t 6],oT 2 7] (sg [oT 8 2,oo 9 (.bslice 1 3 [.d (.int .i64 0)] [0,1,2]) [cI 0,cI 1,cI 2],oo 10 (.build [.d (.int .i64 0),.d (.int .i64 0),.d (.int .i64 0)] [(0,1),(1,1),(2,1)]) [cI 0,cI 0,cI 0],oo 11 (.build [.d (.int .i64 0),.d (.int .i64 0),.d (.int .i64 0)] [(0,1),(1,1),(2,1)]) [cI 0,cI 2,cI 1],oo 12 (.build [.d (.int .i64 0),.d (.int .i64 0),.d (.int .i64 0)] [(0,1),(1,1),(2,1)]) [cI 1,cI 0,cI 1],oo 13 (.build [.d (.int .i64 0),.d (.int .i64 0),.d (.int .i64 0)] [(0,1),(1,1),(2,1)]) [cI 1,cI 1,cI 2],oo 14 (.build [.d (.int .i64 0),.d (.int .i64 0),.d (.int .i64 0)] [(0,1),(1,1),(2,1)]) [cI 2,cI 1,cI 2],oo 15 (.bslice 3 5 [.d (.int .i64 0),.d (.int .i64 0),.d (.int .i64 0)] [0,1,2,3,4]) [.t 10,.t 11,.t 12,.t 13,.t 14],ot 16 (.build [.nils 1,.d (.int .i64 0),.nils 1,.nils 3] [(0,1),(1,1),(3,1)]) [.t 9,cI 3,.t 15],oT 0 8,oS 4 1 16] .ret))⟩
def Qdb:Option ((List Qe)×Qa) :=
  some ([(Qe.mk (⟨#[97]⟩) false true false 0),(Qe.mk (⟨#[98]⟩) false true false 0),(Qe.mk (⟨#[102]⟩) false false false 1),(Qe.mk (⟨#[103]⟩) false false false 2)],(Qa.mk [0,1,2] 3 [] [(Qg.mk 0 0 0),(Qg.mk 0 2 1),(Qg.mk 1 0 1),(Qg.mk 1 1 2),(Qg.mk 2 1 2)]))
def Qlw (P:Program) (c:Nat) (f:ByteArray→Option Bool):Prop:=∀ s1 r,f s1=some r→∀ M nb,ACalls P c [.d (.str s1)] M nb (b_ r) M nb
def Qqy:CFn:=⟨1,55,[.t 2],sg [oo 2 .mov [.c (.d (.bool false))]] (.seq (sg [oM 6 0,oo 7 .lens [.t 6],oC 8 0] (.block 0 (.loop [] (sg [oB 9 .lss (.t 8) (.t 7)] (.seq (.cond (.t 9) .skip (.exit 0)) (.seq (.block 1 (sg [oM 10 8,oM 3 10] (sg [oM 11 0,oM 12 3,oo 13 .idxs [.t 11,.t 12],oM 4 13] (sg [oM 14 4,oB 15 .geq (.t 14) (.c (.d (.int .u8 97))),oM 16 15,g1 16 (oM 17 4),g1 16 (oB 18 .leq (.t 17) (.c (.d (.int .u8 122)))),oP 19 16 18,oM 20 19,g0 20 (oM 21 4),g0 20 (oB 22 .geq (.t 21) (.c (.d (.int .u8 65)))),g0 20 (oM 23 22),g1 23 (oM 24 4),g1 23 (oB 25 .leq (.t 24) (.c (.d (.int .u8 90)))),g0 20 (oP 26 23 25),oQ 27 20 26,oM 28 27,g0 28 (oM 29 4),g0 28 (oB 30 .eql (.t 29) (.c (.d (.int .u8 95)))),oQ 31 28 30,oM 5 31] (sg [oM 32 5,oo 33 (.un .not) [.t 32],oM 34 33,g1 34 (oM 35 3),g1 34 (oB 36 .eql (.t 35) (cI 0)),g1 34 (oM 37 36),g0 37 (oM 38 4),g0 37 (oB 39 .lss (.t 38) (.c (.d (.int .u8 48)))),g1 34 (oQ 40 37 39),g1 34 (oM 41 40),g0 41 (oM 42 4),g0 41 (oB 43 .gtr (.t 42) (.c (.d (.int .u8 57)))),g1 34 (oQ 44 41 43),oP 45 34 44] (.cond (.t 45) (sg [oo 2 .mov [.c (.d (.bool false))]] .ret) .skip)))))) (rg [oB 46 .add (.t 8) (cI 1),oM 8 46]))))))) (sg [oM 47 0,oo 48 .lens [.t 47],oB 49 .gtr (.t 48) (cI 0),oM 50 49,g1 50 (oM 51 0),g1 50 (oo 52 .lens [.t 51]),g1 50 (oB 53 .leq (.t 52) (cI 32)),oP 54 50 53,oM 2 54] .ret))⟩
def Qd3 (fuel:Nat) (s1:ByteArray):Option Bool :=
  Qb9 (fun k3 (x2:Int)=>(if (x2<(s1.size:Int)) then ((chrO s1 x2).bind fun x5=>(((if (x5≥97) then (if (x5≤122) then some true else (if (x5≥65) then (if (x5≤90) then some true else some (x5==95)) else some (x5==95))) else (if (x5≥65) then (if (x5≤90) then some true else some (x5==95)) else some (x5==95)))).bind fun (lv13:Bool)=>(((if lv13 then some false else (if (x2==0) then some true else (if (x5<48) then some true else some (decide (x5>57)))))).bind fun (x17:Bool)=>(if x17 then some false else k3 (IntKind.wrap .i64 (x2+1)))))) else (if ((s1.size:Int)>0) then some (decide ((s1.size:Int)≤32)) else some false))) fuel 0
def Qj8 (P:Program) (c:Nat) (f:(List Qe)→Option Int):Prop:=∀ l1 r,f l1=some r→∀ M nb,ACalls P c [.d (.lst 5 (List.map Qf l1))] M nb (i_ r) M nb
def Qs2:CFn:=⟨1,51,[.t 2],sg [oC 2 0] (.seq (sg [oM 6 0,oE 7 6,oB 8 .gtr (.t 7) (cI 32)] (.cond (.t 8) (sg [oC 2 3] .ret) .skip)) (sg [oo 9 .mkmap [],oM 3 9] (.seq (sg [oM 10 0,oE 11 10,oC 12 0] (.block 0 (.loop [5] (sg [oB 13 .lss (.t 12) (.t 11)] (.seq (.cond (.t 13) .skip (.exit 0)) (.seq (.block 1 (sg [oI 14 5 10 12,oJ 15 5 14,oo 5 (.alloc [.d (.str ⟨#[]⟩),.d (.bool false),.d (.bool false),.d (.bool false),.d (.int .i64 0)]) [],oU 5 5 15] (.seq (.block 2 (sg [oF 17 0 5,oL 18 17,oK 19 112 [.t 18],oo 20 (.un .not) [.t 19],oM 16 20] (.cond (.t 16) (sg [oC 2 7] .ret) (sg [oM 22 3,oF 23 0 5,oL 24 23,oo 25 (.lookup .str false (.d (.bool false))) [.t 22,.t 24],oM 21 25] (.cond (.t 21) (sg [oC 2 8] .ret) (sg [oF 27 4 5,oL 28 27,oB 29 .lss (.t 28) (cI 0),oM 30 29,g0 30 (oF 31 4 5),g0 30 (oL 32 31),g0 30 (oB 33 .gtr (.t 32) (cI 4)),oQ 34 30 33,oM 26 34] (.cond (.t 26) (sg [oC 2 2] .ret) (sg [oF 36 4 5,oL 37 36,oB 38 .neq (.t 37) (cI 0),oM 39 38,g1 39 (oF 40 1 5),g1 39 (oL 41 40),g1 39 (oM 42 41),g0 42 (oF 43 2 5),g0 42 (oL 44 43),g1 39 (oQ 45 42 44),oP 46 39 45,oM 35 46] (.cond (.t 35) (sg [oC 2 13] .ret) .skip))))))))) (rg [oM 47 3,oF 48 0 5,oL 49 48,⟨none,.mapset .str,[.t 47,.t 49,.c (.d (.bool true))],false,none⟩])))) (rg [oB 50 .add (.t 12) (cI 1),oM 12 50]))))))) (sg [oC 2 0] .ret))))⟩
def Qcb (Qd3:ByteArray→Option Bool) (fuel:Nat) (l1:(List Qe)):Option Int :=
  (if ((l1.length:Int)>32) then some 3 else Qb9 (fun k5 ((x3,c4):Int×(List (ByteArray×Bool)))=>(if (x3<(l1.length:Int)) then ((getO l1 x3).bind fun x7=>((Qd3 x7.Name).bind fun x10=>(if x10 then (if (getM c4 x7.Name false) then some 8 else (((if (x7.Fault<0) then some true else some (decide (x7.Fault>4)))).bind fun (x14:Bool)=>(if x14 then some 2 else (((if (x7.Fault != 0) then (if x7.Controllable then some true else some x7.Observable) else some false)).bind fun (x18:Bool)=>(if x18 then some 13 else k5 ((IntKind.wrap .i64 (x3+1)),(setM c4 x7.Name true))))))) else some 7))) else some 0)) fuel (0,[]))
def Qjr (P:Program) (c:Nat) (f:(List Int)→Int→Option Int):Prop:=∀ l1 n2 r,f l1 n2=some r→∀ M nb,ACalls P c [(l_ l1),(i_ n2)] M nb (i_ r) M nb
def Qnj:CFn:=⟨2,35,[.t 4],sg [oC 4 0] (.seq (sg [oM 7 0,oE 8 7,oC 9 0] (.block 0 (.loop [] (sg [oB 10 .lss (.t 9) (.t 8)] (.seq (.cond (.t 10) .skip (.exit 0)) (.seq (.block 1 (sg [oM 11 9,oI 12 1 7 9,oL 13 12,oM 5 11,oM 6 13] (.block 2 (sg [oM 15 6,oB 16 .lss (.t 15) (cI 0),oM 17 16,g0 17 (oM 18 6),g0 17 (oM 19 1),g0 17 (oB 20 .geq (.t 18) (.t 19)),oQ 21 17 20,oM 14 21] (.cond (.t 14) (sg [oC 4 2] .ret) (sg [oM 23 5,oB 24 .gtr (.t 23) (cI 0),oM 25 24,g1 25 (oM 26 6),g1 25 (oM 27 0),g1 25 (oM 28 5),g1 25 (oB 29 .sub (.t 28) (cI 1)),g1 25 (oI 30 1 27 29),g1 25 (oL 31 30),g1 25 (oB 32 .leq (.t 26) (.t 31)),oP 33 25 32,oM 22 33] (.cond (.t 22) (sg [oC 4 5] .ret) .skip))))))) (rg [oB 34 .add (.t 9) (cI 1),oM 9 34]))))))) (sg [oC 4 0] .ret))⟩
def Qck (fuel:Nat) (l1:(List Int)) (n2:Int):Option Int :=
  Qb9 (fun k4 (x3:Int)=>(if (x3<(l1.length:Int)) then ((getO l1 x3).bind fun x6=>(((if (x6<0) then some true else some (decide (x6≥n2)))).bind fun (x9:Bool)=>(if x9 then some 2 else (((if (x3>0) then ((getO l1 (IntKind.wrap .i64 (x3-1))).bind fun x12=>some (decide (x6≤x12))) else some false)).bind fun (x14:Bool)=>(if x14 then some 5 else k4 (IntKind.wrap .i64 (x3+1))))))) else some 0)) fuel 0
def Qk1 (P:Program) (c:Nat) (f:(List Int)→Int→Option Int):Prop:=∀ s1 v2 r,f s1 v2=some r→∀ M nb,ACalls P c [(l_ s1),(i_ v2)] M nb (i_ r) M nb
def Qpw:CFn:=⟨2,19,[.t 4],sg [oC 4 0] (.seq (sg [oM 6 0,oE 7 6,oC 8 0] (.block 0 (.loop [] (sg [oB 9 .lss (.t 8) (.t 7)] (.seq (.cond (.t 9) .skip (.exit 0)) (.seq (.block 1 (sg [oM 10 8,oM 5 10] (sg [oM 11 1,oM 12 0,oM 13 5,oI 14 1 12 13,oL 15 14,oB 16 .eql (.t 11) (.t 15)] (.cond (.t 16) (sg [oM 17 5,oM 4 17] .ret) .skip)))) (rg [oB 18 .add (.t 8) (cI 1),oM 8 18]))))))) (sg [oC 4 (-1)] .ret))⟩
def Qdq (fuel:Nat) (s1:(List Int)) (v2:Int):Option Int :=
  Qb9 (fun k4 (x3:Int)=>(if (x3<(s1.length:Int)) then ((getO s1 x3).bind fun x6=>(if (v2==x6) then some x3 else k4 (IntKind.wrap .i64 (x3+1)))) else some (-1))) fuel 0
def Qcp (P:Program) (c:Nat) (f:(List Int)→Int→Option Bool):Prop:=∀ s1 v2 r,f s1 v2=some r→∀ M nb,ACalls P c [(l_ s1),(i_ v2)] M nb (b_ r) M nb
def Qmi:CFn:=⟨2,9,[.t 4],sg [oo 4 .mov [.c (.d (.bool false))]] (sg [oM 5 0,oM 6 1,oK 7 118 [.t 5,.t 6],oB 8 .geq (.t 7) (cI 0),oM 4 8] .ret)⟩
def Qj (Qdq:(List Int)→Int→Option Int) (s1:(List Int)) (v2:Int):Option Bool :=
  ((Qdq s1 v2).bind fun x4=>some (decide (x4≥0)))
def Qh5 (P:Program) (c:Nat) (f:Qa→Option Int):Prop:=∀ a1 r,f a1=some r→∀ M nb,ACalls P c [(Qp a1)] M nb (i_ r) M nb
def Qll:CFn:=⟨1,72,[.t 2],sg [oo 1 (.box 4) [.t 0],oC 2 0] (.seq (sg [oF 6 3 1,oL 7 6,oE 8 7,oC 9 0] (.block 0 (.loop [4,5] (sg [oB 10 .lss (.t 9) (.t 8)] (.seq (.cond (.t 10) .skip (.exit 0)) (.seq (.block 1 (sg [oM 11 9,oI 12 3 7 9,oJ 13 3 12,oo 4 (.alloc [.d (.int .i64 0),.d (.int .i64 0),.d (.int .i64 0)]) [],oM 3 11,oU 3 4 13] (.seq (.block 2 (sg [oF 15 0 4,oL 16 15,oB 17 .lss (.t 16) (cI 0),oM 18 17,g0 18 (oF 19 0 4),g0 18 (oL 20 19),g0 18 (oF 21 1 1),g0 18 (oL 22 21),g0 18 (oB 23 .geq (.t 20) (.t 22)),oQ 24 18 23,oM 25 24,g0 25 (oF 26 2 4),g0 25 (oL 27 26),g0 25 (oB 28 .lss (.t 27) (cI 0)),oQ 29 25 28,oM 30 29,g0 30 (oF 31 2 4),g0 30 (oL 32 31),g0 30 (oF 33 1 1),g0 30 (oL 34 33),g0 30 (oB 35 .geq (.t 32) (.t 34)),oQ 36 30 35,oM 14 36] (.cond (.t 14) (sg [oC 2 2] .ret) (sg [oF 38 0 1,oL 39 38,oF 40 1 4,oL 41 40,oK 42 87 [.t 39,.t 41],oo 43 (.un .not) [.t 42],oM 37 43] (.cond (.t 37) (sg [oC 2 9] .ret) .skip))))) (.seq (sg [oM 44 3,oB 45 .eql (.t 44) (cI 0)] (.cond (.t 45) (.exit 1) .skip)) (sg [oF 46 3 1,oL 47 46,oM 48 3,oB 49 .sub (.t 48) (cI 1),oI 50 3 47 49,oJ 51 3 50,oo 5 (.alloc [.d (.int .i64 0),.d (.int .i64 0),.d (.int .i64 0)]) [],oU 3 5 51] (sg [oF 52 0 4,oL 53 52,oF 54 0 5,oL 55 54,oB 56 .lss (.t 53) (.t 55),oM 57 56,g0 57 (oF 58 0 4),g0 57 (oL 59 58),g0 57 (oF 60 0 5),g0 57 (oL 61 60),g0 57 (oB 62 .eql (.t 59) (.t 61)),g0 57 (oM 63 62),g1 63 (oF 64 1 4),g1 63 (oL 65 64),g1 63 (oF 66 1 5),g1 63 (oL 67 66),g1 63 (oB 68 .leq (.t 65) (.t 67)),g0 57 (oP 69 63 68),oQ 70 57 69] (.cond (.t 70) (sg [oC 2 5] .ret) .skip))))))) (rg [oB 71 .add (.t 9) (cI 1),oM 9 71]))))))) (sg [oC 2 0] .ret))⟩
def Qch (Qj:(List Int)→Int→Option Bool) (fuel:Nat) (a1:Qa):Option Int :=
  Qb9 (fun k3 (x2:Int)=>(if (x2<(a1.zG.length:Int)) then letJ (fun ((c22,c23,c24):Int×Int×Int)=>k3 (IntKind.wrap .i64 (x2+1))) fun J25=>((getO a1.zG x2).bind fun x5=>(((if (x5.From<0) then some true else (if (x5.From≥a1.zH) then some true else (if (x5.To<0) then some true else some (decide (x5.To≥a1.zH)))))).bind fun (x10:Bool)=>(if x10 then some 2 else ((Qj a1.zD x5.Event).bind fun x13=>(if x13 then (if (x2==0) then J25 (x5.From,x5.Event,x5.To) else ((getO a1.zG (IntKind.wrap .i64 (x2-1))).bind fun x16=>(((if (x5.From<x16.From) then some true else (if (x5.From==x16.From) then some (decide (x5.Event≤x16.Event)) else some false))).bind fun (x20:Bool)=>(if x20 then some 5 else J25 (x5.From,x5.Event,x5.To))))) else some 9))))) else some 0)) fuel 0
def Qhd (P:Program) (c:Nat) (f:Qa→Option Int):Prop:=∀ a1 r,f a1=some r→∀ M nb,ACalls P c [(Qp a1)] M nb (i_ r) M nb
def Qqz:CFn:=⟨1,29,[.t 2],sg [oo 1 (.box 4) [.t 0],oC 2 0] (.seq (sg [oF 5 0 1,oL 6 5,oK 7 110 [.t 6,cI 32],oM 3 7] (sg [oM 8 3,oB 9 .neq (.t 8) (cI 0)] (.cond (.t 9) (sg [oM 10 3,oM 2 10] .ret) .skip))) (.seq (.block 0 (sg [oF 12 1 1,oL 13 12,oB 14 .lss (.t 13) (cI 0),oM 11 14] (.cond (.t 11) (sg [oC 2 2] .ret) (sg [oF 16 1 1,oL 17 16,oB 18 .gtr (.t 17) (cI 4096),oM 15 18] (.cond (.t 15) (sg [oC 2 3] .ret) .skip))))) (.seq (sg [oF 19 2 1,oL 20 19,oF 21 1 1,oL 22 21,oK 23 110 [.t 20,.t 22],oM 4 23] (sg [oM 24 4,oB 25 .neq (.t 24) (cI 0)] (.cond (.t 25) (sg [oM 26 4,oM 2 26] .ret) .skip))) (sg [oJ 27 4 1,oK 28 111 [.t 27],oM 2 28] .ret))))⟩
def Qbc (Qck:(List Int)→Int→Option Int) (Qch:Qa→Option Int) (a1:Qa):Option Int :=
  ((Qck a1.zD 32).bind fun x3=>(if (x3 != 0) then some x3 else (if (a1.zH<0) then some 2 else (if (a1.zH>4096) then some 3 else ((Qck a1.zF a1.zH).bind fun x8=>(if (x8 != 0) then some x8 else ((Qch a1).bind fun x11=>some x11)))))))
def Qhe (P:Program) (c:Nat) (f:(List Qe)→Qa→Option Int):Prop:=∀ ev1 a2 r,f ev1 a2=some r→∀ M nb,ACalls P c [.d (.lst 5 (List.map Qf ev1)),(Qp a2)] M nb (i_ r) M nb
def Qq0:CFn:=⟨2,34,[.t 4],sg [oo 3 (.box 4) [.t 1],oC 4 0] (.seq (sg [oM 8 0,oK 9 80 [.t 8],oM 5 9] (sg [oM 10 5,oB 11 .neq (.t 10) (cI 0)] (.cond (.t 11) (sg [oM 12 5,oM 4 12] .ret) .skip))) (.seq (sg [oJ 13 4 3,oK 14 79 [.t 13],oM 6 14] (sg [oM 15 6,oB 16 .neq (.t 15) (cI 0)] (.cond (.t 16) (sg [oM 17 6,oM 4 17] .ret) .skip))) (.seq (sg [oF 18 0 3,oL 19 18,oE 20 19,oM 7 20] (sg [oM 21 7,oB 22 .gtr (.t 21) (cI 0),oM 23 22,g1 23 (oF 24 0 3),g1 23 (oL 25 24),g1 23 (oM 26 7),g1 23 (oB 27 .sub (.t 26) (cI 1)),g1 23 (oI 28 1 25 27),g1 23 (oL 29 28),g1 23 (oM 30 0),g1 23 (oE 31 30),g1 23 (oB 32 .geq (.t 29) (.t 31)),oP 33 23 32] (.cond (.t 33) (sg [oC 4 2] .ret) .skip))) (sg [oC 4 0] .ret))))⟩
def Qbd (Qbc:Qa→Option Int) (Qcb:(List Qe)→Option Int) (ev1:(List Qe)) (a2:Qa):Option Int :=
  ((Qcb ev1).bind fun x4=>(if (x4 != 0) then some x4 else ((Qbc a2).bind fun x7=>(if (x7 != 0) then some x7 else (((if ((a2.zD.length:Int)>0) then ((getO a2.zD (IntKind.wrap .i64 ((a2.zD.length:Int)-1))).bind fun x10=>some (decide (x10≥(ev1.length:Int)))) else some false)).bind fun (x12:Bool)=>(if x12 then some 2 else some 0))))))
def Qke (P:Program) (c:Nat) (f:Qe→Option Bool):Prop:=∀ x1 r,f x1=some r→∀ M nb,ACalls P c [(Qxd x1)] M nb (b_ r) M nb
def Qov:CFn:=⟨1,5,[.t 2],sg [oo 1 (.box 5) [.t 0],oo 2 .mov [.c (.d (.bool false))]] (sg [oF 3 2 1,oL 4 3,oM 2 4] .ret)⟩
def Qd0 (x1:Qe):Option Bool :=
  some x1.Observable
def Qlx (P:Program) (c:Nat) (f:(List Qe)→(Qe→Option Bool)→Option ((List Int))):Prop:=∀ l1 cv2 (g3:Nat) (cp4:List V) r,f l1 cv2=some r→∀ M nb,(V.dems cp4=cp4)→(V.ons (There M) cp4)→(∀ a8 r,cv2 a8=some r→∀ M2 nb2,nb≤nb2→Ext M M2→ACalls P g3 ([(Qxd a8)]++cp4) M2 nb2 (b_ r) M2 nb2)→ACalls P c [.d (.lst 5 (List.map Qf l1)),.clo g3 cp4] M nb (o_ r) M nb
def Qq1:CFn:=⟨2,24,[.t 4],sg [ot 4 .mov [.c (.nils 1)]] (sg [ot 5 .mov [.c (.nils 1)]] (.seq (sg [oM 8 0,oE 9 8,oC 10 0] (.block 0 (.loop [7,20] (sg [oB 11 .lss (.t 10) (.t 9)] (.seq (.cond (.t 11) .skip (.exit 0)) (.seq (.block 1 (sg [oM 12 10,oI 13 5 8 10,oJ 14 5 13,oo 7 (.alloc [.d (.str ⟨#[]⟩),.d (.bool false),.d (.bool false),.d (.bool false),.d (.int .i64 0)]) [],oM 6 12,oU 5 7 14] (sg [oM 15 1,oJ 16 5 7,oo 17 .callv [.t 15,.t 16]] (.cond (.t 17) (rg [oT 18 5,oM 19 6,oo 20 (.bslice 1 1 [.d (.int .i64 0)] [0]) [.t 19],oA 21 1 8 18 20,oT 5 21]) .skip)))) (rg [oB 22 .add (.t 10) (cI 1),oM 10 22]))))))) (sg [oT 23 5,oT 4 23] .ret)))⟩
def Qd4 (fuel:Nat) (l1:(List Qe)) (cv2:(Qe→Option Bool)):Option ((List Int)) :=
  ((Qb9 (fun k11 ((ov9,x10):(List Int)×Int)=>(if (x10<(l1.length:Int)) then ((((getO l1 x10).bind fun x13=>((cv2 x13).bind fun x16=>(if x16 then ((appO ov9 [x10]).bind fun x18=>some (x18,x13.Name,x13.Controllable,x13.Observable,x13.zC,x13.Fault)) else some (ov9,x13.Name,x13.Controllable,x13.Observable,x13.zC,x13.Fault))))).bind fun ((ov20,c21,c22,c23,c24,c25):(List Int)×ByteArray×Bool×Bool×Bool×Int)=>k11 (ov20,(IntKind.wrap .i64 (x10+1)))) else some ov9)) fuel ([],0)).bind fun (ov26:List Int)=>some ov26)
def Qiv (P:Program) (c:Nat) (f:(List Qe)→Option ((List Int)×Int)):Prop:=∀ l1 r,f l1=some r→∀ M nb,ACalls P c [.d (.lst 5 (List.map Qf l1)),(i_ 3)] M nb (.tup [(o_ r.1),(i_ r.2)]) M nb
def Qmj:CFn:=⟨2,28,[.t 4,.t 5],sg [ot 4 .mov [.c (.nils 1)],oC 5 0] (.seq (sg [oM 10 0,oK 11 80 [.t 10],oM 6 11] (sg [oM 12 6,oB 13 .neq (.t 12) (cI 0)] (.cond (.t 13) (sg [oM 14 6,ot 4 .mov [.c (.nils 1)],oM 5 14] .ret) .skip))) (sg [oo 15 .mkmap [],⟨none,.mapset (.int .i64),[.t 15,cI 1,.c (.clo 123 [])],false,none⟩,⟨none,.mapset (.int .i64),[.t 15,cI 2,.c (.clo 124 [])],false,none⟩,⟨none,.mapset (.int .i64),[.t 15,cI 3,.c (.clo 125 [])],false,none⟩,⟨none,.mapset (.int .i64),[.t 15,cI 4,.c (.clo 126 [])],false,none⟩,⟨none,.mapset (.int .i64),[.t 15,cI 5,.c (.clo 127 [])],false,none⟩,⟨none,.mapset (.int .i64),[.t 15,cI 6,.c (.clo 128 [])],false,none⟩,oM 16 15,oM 7 16] (sg [oM 18 7,oM 19 1,oo 20 (.lookup (.int .i64) true (.und)) [.t 18,.t 19],oM 17 20,oX 21 0 17,oX 22 1 17,oM 8 21,oM 9 22] (.seq (sg [oM 23 9,oo 24 (.un .not) [.t 23]] (.cond (.t 24) (sg [ot 4 .mov [.c (.nils 1)],oC 5 11] .ret) .skip)) (sg [oM 25 0,oM 26 8,oK 27 129 [.t 25,.t 26],oT 4 27,oC 5 0] .ret)))))⟩
def Qcq (Qcb:(List Qe)→Option Int) (Qd0:Qe→Option Bool) (Qd4:(List Qe)→(Qe→Option Bool)→Option ((List Int))) (l1:(List Qe)):Option ((List Int)×Int) :=
  ((Qcb l1).bind fun x3=>(if (x3 != 0) then some ([],x3) else ((Qd4 l1 Qd0).bind fun x9=>some (x9,0))))
def Qex (P:Program) (c:Nat) (f:(List Qe)→Option ((List Int))):Prop:=∀ ev1 r,f ev1=some r→∀ M nb,ACalls P c [.d (.lst 5 (List.map Qf ev1))] M nb (l_ r) M nb
def Qlm:CFn:=⟨1,11,[.t 2],sg [ot 2 .mov [.c (.nils 1)]] (sg [oM 6 0,oK 7 90 [.t 6,cI 3],oM 5 7,ot 8 (.extract 0) [.t 5],oX 9 1 5,oT 3 8,oM 4 9] (sg [oT 10 3,oT 2 10] .ret))⟩
def Qr (Qcq:(List Qe)→Option ((List Int)×Int)) (ev1:(List Qe)):Option ((List Int)) :=
  ((Qcq ev1).bind fun (r3,r4)=>some r3)
def Qj9 (P:Program) (c:Nat) (f:(List Int)→(List Int)→(Bool→Bool→Option Bool)→Option ((List Int))):Prop:=∀ a1 b2 kv3 (g4:Nat) (cp5:List V) r,f a1 b2 kv3=some r→∀ M nb,(V.dems cp5=cp5)→(V.ons (There M) cp5)→(∀ a9 a10 r,kv3 a9 a10=some r→∀ M2 nb2,nb≤nb2→Ext M M2→ACalls P g4 ([(b_ a9),(b_ a10)]++cp5) M2 nb2 (b_ r) M2 nb2)→ACalls P c [(l_ a1),(l_ b2),.clo g4 cp5] M nb (o_ r) M nb
def Qs3:CFn:=⟨3,74,[.t 6],sg [ot 6 .mov [.c (.nils 1)]] (sg [ot 7 .mov [.c (.nils 1)]] (.seq (.block 0 (.loop [71] (.seq (sg [oM 11 0,oE 12 11,oB 13 .gtr (.t 12) (cI 0),oM 14 13,g0 14 (oM 15 1),g0 14 (oE 16 15),g0 14 (oB 17 .gtr (.t 16) (cI 0)),oQ 18 14 17] (.cond (.t 18) .skip (.exit 0))) (.block 1 (.seq (.region [oM 19 0,oE 20 19,oB 21 .gtr (.t 20) (cI 0),oM 22 21,g1 22 (oM 23 1),g1 22 (oE 24 23),g1 22 (oB 25 .eql (.t 24) (cI 0)),g1 22 (oM 26 25),g0 26 (oM 27 0),g0 26 (oo 28 (.idx 1) [.t 27,cI 0]),g0 26 (oL 29 28),g0 26 (oM 30 1),g0 26 (oo 31 (.idx 1) [.t 30,cI 0]),g0 26 (oL 32 31),g0 26 (oB 33 .leq (.t 29) (.t 32)),g1 22 (oQ 34 26 33),oP 35 22 34,oM 8 35] 0 []) (.seq (.region [oM 36 1,oE 37 36,oB 38 .gtr (.t 37) (cI 0),oM 39 38,g1 39 (oM 40 0),g1 39 (oE 41 40),g1 39 (oB 42 .eql (.t 41) (cI 0)),g1 39 (oM 43 42),g0 43 (oM 44 1),g0 43 (oo 45 (.idx 1) [.t 44,cI 0]),g0 43 (oL 46 45),g0 43 (oM 47 0),g0 43 (oo 48 (.idx 1) [.t 47,cI 0]),g0 43 (oL 49 48),g0 43 (oB 50 .leq (.t 46) (.t 49)),g1 39 (oQ 51 43 50),oP 52 39 51,oM 9 52] 0 []) (sg [oC 10 0] (.seq (sg [oM 53 8] (.cond (.t 53) (.region [oM 54 0,oo 55 (.idx 1) [.t 54,cI 0],oL 56 55,oT 57 0,ot 58 (.slcT 1) [.t 57,cI 1],oM 10 56,oT 0 58] 0 []) .skip)) (.seq (sg [oM 59 9] (.cond (.t 59) (.region [oM 60 1,oo 61 (.idx 1) [.t 60,cI 0],oL 62 61,oT 63 1,ot 64 (.slcT 1) [.t 63,cI 1],oM 10 62,oT 1 64] 0 []) .skip)) (sg [oM 65 2,oM 66 8,oM 67 9,oo 68 .callv [.t 65,.t 66,.t 67]] (.cond (.t 68) (rg [oT 69 7,oM 70 10,oo 71 (.bslice 1 1 [.d (.int .i64 0)] [0]) [.t 70],oA 72 1 8 69 71,oT 7 72]) .skip))))))))))) (sg [oT 73 7,oT 6 73] .ret)))⟩
def Qcc (fuel:Nat) (a1:(List Int)) (b2:(List Int)) (kv3:(Bool→Bool→Option Bool)):Option ((List Int)) :=
  ((Qb9 (fun k14 ((a11,b12,ov13):(List Int)×(List Int)×(List Int))=>(((if ((a11.length:Int)>0) then some true else some (decide ((b12.length:Int)>0)))).bind fun (x16:Bool)=>(if x16 then (((if ((a11.length:Int)>0) then (if ((b12.length:Int)==0) then some true else ((getO a11 0).bind fun x20=>((getO b12 0).bind fun x22=>some (decide (x20≤x22))))) else some false)).bind fun (iv24:Bool)=>(((if ((b12.length:Int)>0) then (if ((a11.length:Int)==0) then some true else ((getO b12 0).bind fun x27=>((getO a11 0).bind fun x29=>some (decide (x27≤x29))))) else some false)).bind fun (iv31:Bool)=>(((if iv24 then ((getO a11 0).bind fun x33=>((slcO a11 1 (a11.length:Int)).bind fun x35=>some (x35,x33))) else some (a11,0))).bind fun ((a37,x38):(List Int)×Int)=>(((if iv31 then ((getO b12 0).bind fun x40=>((slcO b12 1 (b12.length:Int)).bind fun x42=>some (x42,x40))) else some (b12,x38))).bind fun ((b44,x45):(List Int)×Int)=>((kv3 iv24 iv31).bind fun x47=>(if x47 then ((appO ov13 [x45]).bind fun x49=>k14 (a37,b44,x49)) else k14 (a37,b44,ov13))))))) else some ov13))) fuel (a1,b2,[])).bind fun (ov51:List Int)=>some ov51)
def Qh6 (P:Program) (c:Nat) (f:Bool→Bool→Option Bool):Prop:=∀ iv1 iv2 r,f iv1 iv2=some r→∀ M nb,ACalls P c [(b_ iv1),(b_ iv2)] M nb (b_ r) M nb
def Qln:CFn:=⟨2,9,[.t 4],sg [oo 4 .mov [.c (.d (.bool false))]] (sg [oM 5 0,oM 6 5,g1 6 (oM 7 1),oP 8 6 7,oM 4 8] .ret)⟩
def Qc2 (iv1:Bool) (iv2:Bool):Option Bool :=
  (if iv1 then some iv2 else some false)
def Qjs (P:Program) (c:Nat) (f:(List Int)→(List Int)→Option ((List Int))):Prop:=∀ a1 b2 r,f a1 b2=some r→∀ M nb,ACalls P c [(l_ a1),(l_ b2)] M nb (o_ r) M nb
def Qnk:CFn:=⟨2,8,[.t 4],sg [ot 4 .mov [.c (.nils 1)]] (sg [oM 5 0,oM 6 1,oK 7 106 [.t 5,.t 6,.c (.clo 107 [])],oT 4 7] .ret)⟩
def Qcy (Qcc:(List Int)→(List Int)→(Bool→Bool→Option Bool)→Option ((List Int))) (Qc2:Bool→Bool→Option Bool) (a1:(List Int)) (b2:(List Int)):Option ((List Int)) :=
  ((Qcc a1 b2 Qc2).bind fun x8=>some x8)
def Qow (P:Program) (c:Nat) (f:Int→Option Bool):Prop:=∀ x1 r,f x1=some r→∀ M nb,ACalls P c [(i_ x1)] M nb (b_ r) M nb
def Qt9:CFn:=⟨1,6,[.t 2],sg [oo 2 .mov [.c (.d (.bool false))]] (sg [oM 3 0,oM 4 0,oB 5 .neq (.t 3) (.t 4),oM 2 5] .ret)⟩
def Qec (x1:Int):Option Bool :=
  some (x1 != x1)
def Qqc (P:Program) (c:Nat) (f:Int→Int→Option Bool):Prop:=∀ x1 y2 r,f x1 y2=some r→∀ M nb,ACalls P c [(i_ x1),(i_ y2)] M nb (b_ r) M nb
def Qwu:CFn:=⟨2,17,[.t 4],sg [oo 4 .mov [.c (.d (.bool false))]] (sg [oM 5 0,oK 6 162 [.t 5],oM 7 6,g1 7 (oM 8 1),g1 7 (oK 9 162 [.t 8]),g1 7 (oo 10 (.un .not) [.t 9]),oP 11 7 10,oM 12 11,g0 12 (oM 13 0),g0 12 (oM 14 1),g0 12 (oB 15 .lss (.t 13) (.t 14)),oQ 16 12 15,oM 4 16] .ret)⟩
def Qf0 (Qec:Int→Option Bool) (x1:Int) (y2:Int):Option Bool :=
  ((Qec x1).bind fun x4=>(if x4 then ((Qec y2).bind fun x7=>(if x7 then some (decide (x1<y2)) else some true)) else some (decide (x1<y2))))
def Qk2 (P:Program) (c:Nat) (f:Int→Option Bool):Prop:=∀ x1 r,f x1=some r→∀ M nb,ACalls P c [(i_ x1)] M nb (b_ r) M nb
def Qpx:CFn:=⟨1,6,[.t 2],sg [oo 2 .mov [.c (.d (.bool false))]] (sg [oM 3 0,oM 4 0,oB 5 .neq (.t 3) (.t 4),oM 2 5] .ret)⟩
def Qc4 (x1:Int):Option Bool :=
  some (x1 != x1)
def Qgx (P:Program) (c:Nat) (f:(List Int)→Int→Option (Int×Bool)):Prop:=∀ x1 tv2 r,f x1 tv2=some r→∀ M nb,ACalls P c [(l_ x1),(i_ tv2)] M nb (.tup [(i_ r.1),(b_ r.2)]) M nb
def Qj0:CFn:=⟨2,54,[.t 4,.t 5],sg [oC 4 0,oo 5 .mov [.c (.d (.bool false))]] (sg [oM 10 0,oE 11 10,oM 6 11] (sg [oM 12 6,oC 7 0,oM 8 12] (.seq (.block 0 (.loop [] (.seq (sg [oM 13 7,oM 14 8,oB 15 .lss (.t 13) (.t 14)] (.cond (.t 15) .skip (.exit 0))) (.block 1 (sg [oM 16 7,oM 17 8,oB 18 .add (.t 16) (.t 17),oo 19 (.conv .u64) [.t 18],oB 20 .shr (.t 19) (.c (.d (.int .u64 1))),oo 21 (.conv .i64) [.t 20],oM 9 21] (sg [oM 22 0,oM 23 9,oI 24 1 22 23,oL 25 24,oM 26 1,oK 27 143 [.t 25,.t 26]] (.cond (.t 27) (rg [oM 28 9,oB 29 .add (.t 28) (cI 1),oM 7 29]) (rg [oM 30 9,oM 8 30])))))))) (sg [oM 31 7,oM 32 7,oM 33 6,oB 34 .lss (.t 32) (.t 33),oM 35 34,g1 35 (oM 36 0),g1 35 (oM 37 7),g1 35 (oI 38 1 36 37),g1 35 (oL 39 38),g1 35 (oM 40 1),g1 35 (oB 41 .eql (.t 39) (.t 40)),g1 35 (oM 42 41),g0 42 (oM 43 0),g0 42 (oM 44 7),g0 42 (oI 45 1 43 44),g0 42 (oL 46 45),g0 42 (oK 47 144 [.t 46]),g0 42 (oM 48 47),g1 48 (oM 49 1),g1 48 (oK 50 144 [.t 49]),g0 42 (oP 51 48 50),g1 35 (oQ 52 42 51),oP 53 35 52,oM 4 31,oM 5 53] .ret))))⟩
def Qb1 (Qf0:Int→Int→Option Bool) (Qc4:Int→Option Bool) (fuel:Nat) (x1:(List Int)) (tv2:Int):Option (Int×Bool) :=
  ((Qb9 (fun k5 ((i3,j4):Int×Int)=>(if (i3<j4) then ((getO x1 (IntKind.wrap .i64 (Int.fdiv (IntKind.wrap .u64 (IntKind.wrap .i64 (i3+j4))) (2 ^ (min (Int.toNat 1) (IntKind.bits .u64)))))).bind fun x7=>((Qf0 x7 tv2).bind fun x10=>(if x10 then k5 ((IntKind.wrap .i64 ((IntKind.wrap .i64 (Int.fdiv (IntKind.wrap .u64 (IntKind.wrap .i64 (i3+j4))) (2 ^ (min (Int.toNat 1) (IntKind.bits .u64)))))+1)),j4) else k5 (i3,(IntKind.wrap .i64 (Int.fdiv (IntKind.wrap .u64 (IntKind.wrap .i64 (i3+j4))) (2 ^ (min (Int.toNat 1) (IntKind.bits .u64))))))))) else some i3)) fuel (0,(x1.length:Int))).bind fun (i12:Int)=>(if (i12<(x1.length:Int)) then ((getO x1 i12).bind fun x14=>(if (x14==tv2) then some (i12,true) else ((getO x1 i12).bind fun x17=>((Qc4 x17).bind fun x20=>(if x20 then ((Qc4 tv2).bind fun x23=>some (i12,x23)) else some (i12,false)))))) else some (i12,false)))
def Qf7 (P:Program) (c:Nat) (f:(List Int)→Int→Option Bool):Prop:=∀ xv1 x2 r,f xv1 x2=some r→∀ M nb,ACalls P c [(l_ xv1),(i_ x2)] M nb (b_ r) M nb
def Qox:CFn:=⟨2,14,[.t 4],sg [oo 4 .mov [.c (.d (.bool false))]] (sg [oM 8 0,oM 9 1,oK 10 100 [.t 8,.t 9],oM 7 10,oX 11 0 7,oX 12 1 7,oM 5 11,oM 6 12] (sg [oM 13 6,oM 4 13] .ret))⟩
def Q3 (Qb1:(List Int)→Int→Option (Int×Bool)) (xv1:(List Int)) (x2:Int):Option Bool :=
  ((Qb1 xv1 x2).bind fun (r4,r5)=>some r5)
def Qh7 (P:Program) (c:Nat) (f:Int→(List Int)→Option Bool):Prop:=∀ ev1 x2 (k3:Nat) r,f ev1 x2=some r→∀ M nb,(M k3=some (.cells [(l_ x2)]))→ACalls P c [(i_ ev1),.ptr k3 0] M nb (b_ r) M nb
def Qlo:CFn:=⟨2,8,[.t 3],sg [oo 3 .mov [.c (.d (.bool false))]] (sg [oL 4 1,oM 5 0,oK 6 64 [.t 4,.t 5],oo 7 (.un .not) [.t 6],oM 3 7] .ret)⟩
def Qci (Q3:(List Int)→Int→Option Bool) (ev1:Int) (x2:(List Int)):Option Bool :=
  ((Q3 x2 ev1).bind fun x6=>some (!x6))
def Qh8 (P:Program) (c:Nat) (f:(List Int)→(Int→Option Bool)→Option Int):Prop:=∀ s1 f2 (g3:Nat) (cp4:List V) r,f s1 f2=some r→∀ M nb,(V.dems cp4=cp4)→(V.ons (There M) cp4)→(∀ a8 r,f2 a8=some r→∀ M2 nb2,nb≤nb2→Ext M M2→ACalls P g3 ([(i_ a8)]++cp4) M2 nb2 (b_ r) M2 nb2)→ACalls P c [(l_ s1),.clo g3 cp4] M nb (i_ r) M nb
def Qlp:CFn:=⟨2,19,[.t 4],sg [oC 4 0] (.seq (sg [oM 6 0,oE 7 6,oC 8 0] (.block 0 (.loop [] (sg [oB 9 .lss (.t 8) (.t 7)] (.seq (.cond (.t 9) .skip (.exit 0)) (.seq (.block 1 (sg [oM 10 8,oM 5 10] (sg [oM 11 1,oM 12 0,oM 13 5,oI 14 1 12 13,oL 15 14,oo 16 .callv [.t 11,.t 15]] (.cond (.t 16) (sg [oM 17 5,oM 4 17] .ret) .skip)))) (rg [oB 18 .add (.t 8) (cI 1),oM 8 18]))))))) (sg [oC 4 (-1)] .ret))⟩
def Qb8 (fuel:Nat) (s1:(List Int)) (f2:(Int→Option Bool)):Option Int :=
  Qb9 (fun k10 (x9:Int)=>(if (x9<(s1.length:Int)) then ((getO s1 x9).bind fun x12=>((f2 x12).bind fun x15=>(if x15 then some x9 else k10 (IntKind.wrap .i64 (x9+1))))) else some (-1))) fuel 0
def Qdx (P:Program) (c:Nat) (f:(List Int)→(Int→Option Bool)→Option Bool):Prop:=∀ s1 f2 (g3:Nat) (cp4:List V) r,f s1 f2=some r→∀ M nb,(V.dems cp4=cp4)→(V.ons (There M) cp4)→(∀ a8 r,f2 a8=some r→∀ M2 nb2,nb≤nb2→Ext M M2→ACalls P g3 ([(i_ a8)]++cp4) M2 nb2 (b_ r) M2 nb2)→ACalls P c [(l_ s1),.clo g3 cp4] M nb (b_ r) M nb
def Qj1:CFn:=⟨2,9,[.t 4],sg [oo 4 .mov [.c (.d (.bool false))]] (sg [oM 5 0,oM 6 1,oK 7 108 [.t 5,.t 6],oB 8 .geq (.t 7) (cI 0),oM 4 8] .ret)⟩
def Qq (Qb8:(List Int)→(Int→Option Bool)→Option Int) (s1:(List Int)) (f2:(Int→Option Bool)):Option Bool :=
  ((Qb8 s1 f2).bind fun x13=>some (decide (x13≥0)))
def Qig (P:Program) (c:Nat) (f:(List Int)→Option ((List Int))):Prop:=∀ s1 r,f s1=some r→∀ M nb,ACalls P c [(l_ s1)] M nb (o_ r) M nb
def Qpy:CFn:=⟨1,8,[.t 2],sg [ot 2 .mov [.c (.nils 1)]] (.seq (sg [oM 3 0,oo 4 (.isnil false) [.t 3]] (.cond (.t 4) (sg [ot 2 .mov [.c (.nils 1)]] .ret) .skip)) (sg [oo 5 (.bslice 1 0 [.d (.int .i64 0)] []) [],oM 6 0,oA 7 1 8 5 6,oT 2 7] .ret))⟩
def Qbw (s1:(List Int)):Option ((List Int)) :=
  (nilO s1 fun b2=>(if b2 then some [] else ((appO [] s1).bind fun x4=>some x4)))
def Qoy (P:Program) (c:Nat) (f:(List Qe)→Int→Option Int):Prop:=∀ ev1 ev2 r,f ev1 ev2=some r→∀ M nb,ACalls P c [.d (.lst 5 (List.map Qf ev1)),(i_ ev2)] M nb (i_ r) M nb
def Qua:CFn:=⟨2,16,[.t 4],sg [oC 4 0] (.seq (sg [oM 6 0,oM 7 1,oI 8 5 6 7,oF 9 4 8,oL 10 9,oM 5 10] (sg [oM 11 5,oB 12 .gtr (.t 11) (cI 0)] (.cond (.t 12) (sg [oM 13 5,oB 14 .sub (.t 13) (cI 1),oB 15 .shl (cI 1) (.t 14),oM 4 15] .ret) .skip))) (sg [oC 4 0] .ret))⟩
def Qed (ev1:(List Qe)) (ev2:Int):Option Int :=
  ((getO ev1 ev2).bind fun x3=>(if (x3.Fault>0) then ((shlO .i64 1 (IntKind.wrap .i64 (x3.Fault-1))).bind fun s6=>some s6) else some 0))
def Qhf (P:Program) (c:Nat) (f:(List Qe)→Qa→Option (Qa×(List Qb)×Int)):Prop:=∀ ev1 a2 r,f ev1 a2=some r→∀ M nb,ACalls P c [.d (.lst 5 (List.map Qf ev1)),(Qp a2)] M nb (.tup [(Qp r.1),.own 2 (List.map Qc r.2.1),(i_ r.2.2)]) M nb
def Qq2:CFn:=⟨2,148,[.cell 4 true 4,.t 5,.t 6],sg [oo 3 (.box 4) [.t 1],oo 4 (.alloc [.nils 1,.d (.int .i64 0),.nils 1,.nils 3]) [],ot 5 .mov [.c (.nils 2)],oC 6 0] (.seq (sg [oM 20 0,oJ 21 4 3,oK 22 36 [.t 20,.t 21],oM 7 22] (sg [oM 23 7,oB 24 .neq (.t 23) (cI 0)] (.cond (.t 24) (sg [oo 25 (.build [.nils 1,.d (.int .i64 0),.nils 1,.nils 3] []) [],oM 26 7,oS 4 4 25,ot 5 .mov [.c (.nils 2)],oM 6 26] .ret) .skip))) (sg [oF 27 0 3,oL 28 27,oK 29 63 [.t 28],ot 30 (.build [.nils 1,.d (.int .i64 0),.nils 1,.nils 3] [(0,1)]) [.t 29],oo 8 (.alloc [.nils 1,.d (.int .i64 0),.nils 1,.nils 3]) [],oS 4 8 30] (sg [oF 31 1 3,oL 32 31,oo 33 (.makes 1 24 [.nils 3]) [.t 32,.t 32],oT 9 33] (.seq (sg [oF 34 3 3,oL 35 34,oE 36 35,oC 37 0] (.block 0 (.loop [11,50] (sg [oB 38 .lss (.t 37) (.t 36)] (.seq (.cond (.t 38) .skip (.exit 0)) (.seq (.block 1 (sg [oI 39 3 35 37,oJ 40 3 39,oo 11 (.alloc [.d (.int .i64 0),.d (.int .i64 0),.d (.int .i64 0)]) [],oU 3 11 40] (.region [oM 41 9,oF 42 0 11,oL 43 42,oM 44 9,oF 45 0 11,oL 46 45,oI 47 1 44 46,oo 48 .loadT [.t 47],oJ 49 3 11,oo 50 (.bslice 3 1 [.d (.int .i64 0),.d (.int .i64 0),.d (.int .i64 0)] [0]) [.t 49],oA 51 3 24 48 50,oI 52 1 41 43,oS 1 52 51] 0 []))) (rg [oB 53 .add (.t 37) (cI 1),oM 37 53]))))))) (sg [ot 12 .mov [.c (.nils 2)]] (sg [oo 54 .mkmap [],oM 13 54] (.seq (sg [oF 55 1 3,oL 56 55,oB 57 .gtr (.t 56) (cI 0)] (.cond (.t 57) (sg [oT 58 12,oo 59 (.build [.d (.int .i64 0),.d (.int .i64 0)] []) [],oo 60 (.bslice 2 1 [.d (.int .i64 0),.d (.int .i64 0)] [0]) [.t 59],oA 61 2 16 58 60,oT 12 61] (rg [oM 62 13,oo 63 (.build [.d (.int .i64 0),.d (.int .i64 0)] []) [],⟨none,.mapset (.st [.int .i64,.int .i64]),[.t 62,.t 63,cI 0],false,none⟩])) .skip)) (.seq (sg [oC 14 0] (.block 2 (.loop [81,16,17,128,139] (.seq (sg [oM 64 14,oM 65 12,oE 66 65,oB 67 .lss (.t 64) (.t 66)] (.cond (.t 67) .skip (.exit 2))) (.seq (.block 3 (.seq (.seq (.region [oF 70 2 3,oL 71 70,oM 72 12,oM 73 14,oI 74 2 72 73,oF 75 0 74,oL 76 75,oK 77 64 [.t 71,.t 76]] 0 []) (.cond (.t 77) (rg [oF 78 2 8,oo 79 .loadT [.t 78],oM 80 14,oo 81 (.bslice 1 1 [.d (.int .i64 0)] [0]) [.t 80],oA 82 1 8 79 81,oF 83 2 8,oS 1 83 82]) .skip)) (sg [oM 84 9,oM 85 12,oM 86 14,oI 87 2 85 86,oF 88 0 87,oL 89 88,oI 90 1 84 89,oL 91 90,oE 92 91,oC 93 0] (.block 4 (.loop [16,17,128,139] (sg [oB 94 .lss (.t 93) (.t 92)] (.seq (.cond (.t 94) .skip (.exit 4)) (.seq (.block 5 (sg [oI 95 3 91 93,oJ 96 3 95,oo 16 (.alloc [.d (.int .i64 0),.d (.int .i64 0),.d (.int .i64 0)]) [],oU 3 16 96] (.seq (.region [oF 97 2 16,oL 98 97,oM 99 12,oM 100 14,oI 101 2 99 100,oF 102 1 101,oL 103 102,oM 104 0,oF 105 1 16,oL 106 105,oK 107 65 [.t 104,.t 106],oB 108 .or (.t 103) (.t 107),oo 109 (.build [.d (.int .i64 0),.d (.int .i64 0)] [(0,1),(1,1)]) [.t 98,.t 108],oo 17 (.alloc [.d (.int .i64 0),.d (.int .i64 0)]) [],oU 2 17 109] 1 []) (.seq (sg [oM 111 13,oJ 112 2 17,oo 113 (.lookup (.st [.int .i64,.int .i64]) true (.d (.int .i64 0))) [.t 111,.t 112],oM 110 113,oX 114 0 110,oX 115 1 110,oM 18 114,oM 19 115] (sg [oM 116 19,oo 117 (.un .not) [.t 116]] (.cond (.t 117) (.seq (sg [oM 118 12,oE 119 118,oB 120 .eql (.t 119) (cI 4096)] (.cond (.t 120) (sg [oo 121 (.build [.nils 1,.d (.int .i64 0),.nils 1,.nils 3] []) [],oS 4 4 121,ot 5 .mov [.c (.nils 2)],oC 6 3] .ret) .skip)) (sg [oM 122 13,oJ 123 2 17,oM 124 12,oE 125 124,⟨none,.mapset (.st [.int .i64,.int .i64]),[.t 122,.t 123,.t 125],false,none⟩] (rg [oT 126 12,oJ 127 2 17,oo 128 (.bslice 2 1 [.d (.int .i64 0),.d (.int .i64 0)] [0]) [.t 127],oA 129 2 16 126 128,oT 12 129]))) .skip))) (.region [oF 130 3 8,oo 131 .loadT [.t 130],oM 132 14,oF 133 1 16,oL 134 133,oM 135 13,oJ 136 2 17,oo 137 (.lookup (.st [.int .i64,.int .i64]) false (.d (.int .i64 0))) [.t 135,.t 136],oo 138 (.build [.d (.int .i64 0),.d (.int .i64 0),.d (.int .i64 0)] [(0,1),(1,1),(2,1)]) [.t 132,.t 134,.t 137],oo 139 (.bslice 3 1 [.d (.int .i64 0),.d (.int .i64 0),.d (.int .i64 0)] [0]) [.t 138],oA 140 3 24 131 139,oF 141 3 8,oS 1 141 140] 0 []))))) (rg [oB 142 .add (.t 93) (cI 1),oM 93 142]))))))))) (rg [oM 68 14,oB 69 .add (.t 68) (cI 1),oM 14 69])))))) (sg [oM 143 12,oE 144 143,oF 145 1 8,oU 1 145 144] (sg [oJ 146 4 8,oT 147 12,oS 4 4 146,oT 5 147,oC 6 0] .ret))))))))))⟩
def Q8 (Qbd:(List Qe)→Qa→Option Int) (Qbw:(List Int)→Option ((List Int))) (Q3:(List Int)→Int→Option Bool) (Qed:(List Qe)→Int→Option Int) (fuel:Nat) (ev1:(List Qe)) (a2:Qa):Option (Qa×(List Qb)×Int) :=
  ((Qbd ev1 a2).bind fun x4=>(if (x4 != 0) then some ((Qa.mk [] 0 [] []),[],x4) else ((Qbw a2.zD).bind fun x7=>((mkO a2.zH ([]:List Qg)).bind fun x8=>((Qb9 (fun k12 ((x10,c11):Int×(List (List Qg)))=>(if (x10<(a2.zG.length:Int)) then ((getO a2.zG x10).bind fun x14=>((inO (Int.toNat a2.zH) x14.From).bind fun u16=>((getO c11 x14.From).bind fun x18=>((appO x18 [x14]).bind fun x20=>((inO (Int.toNat a2.zH) x14.From).bind fun u22=>((setO c11 x14.From x20).bind fun x24=>k12 ((IntKind.wrap .i64 (x10+1)),x24))))))) else some c11)) fuel (0,x8)).bind fun (c26:List (List Qg))=>(((if (a2.zH>0) then ((appO [] [(Qb.mk 0 0)]).bind fun x28=>some (x28,(setM ([]:List (Qb×Int)) (Qb.mk 0 0) 0))) else some ([],[]))).bind fun ((l30,c31):(List Qb)×(List (Qb×Int)))=>Qb9 (fun k40 ((l32,i33,c34,c35,c36,ov37,ov38,c39):(List Qb)×Int×(List Int)×(List Int)×(List Qg)×(List Int)×(List Qg)×(List (Qb×Int)))=>(if (i33<(l32.length:Int)) then ((((getO l32 i33).bind fun x42=>((Q3 a2.zF x42.State).bind fun x45=>(if x45 then ((appO ov37 [i33]).bind fun x47=>some x47) else some ov37)))).bind fun (ov49:List Int)=>((getO l32 i33).bind fun x50=>((inO (Int.toNat a2.zH) x50.State).bind fun u52=>((getO c26 x50.State).bind fun x54=>Qb9 (fun k60 ((l56,x57,ov58,c59):(List Qb)×Int×(List Qg)×(List (Qb×Int)))=>(if (x57<(x54.length:Int)) then ((getO x54 x57).bind fun x62=>((getO l56 i33).bind fun x64=>((Qed ev1 x62.Event).bind fun x67=>letJ (fun ((l72,c73):(List Qb)×(List (Qb×Int)))=>((appO ov58 [(Qg.mk i33 x62.Event (getM c73 (Qb.mk x62.To (orI .i64 x64.Classes x67)) 0))]).bind fun x74=>k60 (l72,(IntKind.wrap .i64 (x57+1)),x74,c73))) fun J76=>(if (hasM c59 (Qb.mk x62.To (orI .i64 x64.Classes x67))) then J76 (l56,c59) else (if ((l56.length:Int)==4096) then some ((Qa.mk [] 0 [] []),[],3) else ((appO l56 [(Qb.mk x62.To (orI .i64 x64.Classes x67))]).bind fun x70=>J76 (x70,(setM c59 (Qb.mk x62.To (orI .i64 x64.Classes x67)) (l56.length:Int))))))))) else k40 (l56,(IntKind.wrap .i64 (i33+1)),c34,c35,c36,ov49,ov58,c59))) fuel (l32,0,ov38,c39))))) else some ((Qa.mk x7 (l32.length:Int) ov37 ov38),l32,0))) fuel (l30,0,[],[],[],[],[],c31)))))))
def Qiw (P:Program) (c:Nat) (f:(List Int)→Int→Option Int):Prop:=∀ l1 n2 r,f l1 n2=some r→∀ M nb,ACalls P c [(l_ l1),(i_ n2)] M nb (i_ r) M nb
def Qmk:CFn:=⟨2,35,[.t 4],sg [oC 4 0] (.seq (sg [oM 7 0,oE 8 7,oC 9 0] (.block 0 (.loop [] (sg [oB 10 .lss (.t 9) (.t 8)] (.seq (.cond (.t 10) .skip (.exit 0)) (.seq (.block 1 (sg [oM 11 9,oI 12 1 7 9,oL 13 12,oM 5 11,oM 6 13] (.block 2 (sg [oM 15 6,oB 16 .lss (.t 15) (cI 0),oM 17 16,g0 17 (oM 18 6),g0 17 (oM 19 1),g0 17 (oB 20 .geq (.t 18) (.t 19)),oQ 21 17 20,oM 14 21] (.cond (.t 14) (sg [oC 4 2] .ret) (sg [oM 23 5,oB 24 .gtr (.t 23) (cI 0),oM 25 24,g1 25 (oM 26 6),g1 25 (oM 27 0),g1 25 (oM 28 5),g1 25 (oB 29 .sub (.t 28) (cI 1)),g1 25 (oI 30 1 27 29),g1 25 (oL 31 30),g1 25 (oB 32 .leq (.t 26) (.t 31)),oP 33 25 32,oM 22 33] (.cond (.t 22) (sg [oC 4 5] .ret) .skip))))))) (rg [oB 34 .add (.t 9) (cI 1),oM 9 34]))))))) (sg [oC 4 0] .ret))⟩
def Qdc (fuel:Nat) (l1:(List Int)) (n2:Int):Option Int :=
  Qb9 (fun k4 (x3:Int)=>(if (x3<(l1.length:Int)) then ((getO l1 x3).bind fun x6=>(((if (x6<0) then some true else some (decide (x6≥n2)))).bind fun (x9:Bool)=>(if x9 then some 2 else (((if (x3>0) then ((getO l1 (IntKind.wrap .i64 (x3-1))).bind fun x12=>some (decide (x6≤x12))) else some false)).bind fun (x14:Bool)=>(if x14 then some 5 else k4 (IntKind.wrap .i64 (x3+1))))))) else some 0)) fuel 0
def Qgn (P:Program) (c:Nat) (f:Qa→(List Int)→Option Int):Prop:=∀ a1 ev2 r,f a1 ev2=some r→∀ M nb,ACalls P c [(Qp a1),(l_ ev2)] M nb (i_ r) M nb
def Qpz:CFn:=⟨2,13,[.t 4],sg [oo 2 (.box 4) [.t 0],oC 4 0] (.seq (sg [oJ 6 4 2,oK 7 79 [.t 6],oM 5 7] (sg [oM 8 5,oB 9 .neq (.t 8) (cI 0)] (.cond (.t 9) (sg [oM 10 5,oM 4 10] .ret) .skip))) (sg [oM 11 1,oK 12 101 [.t 11,cI 32],oM 4 12] .ret))⟩
def Q7 (Qbc:Qa→Option Int) (Qdc:(List Int)→Int→Option Int) (a1:Qa) (ev2:(List Int)):Option Int :=
  ((Qbc a1).bind fun x4=>(if (x4 != 0) then some x4 else ((Qdc ev2 32).bind fun x7=>some x7)))
def Qfu (P:Program) (c:Nat) (f:Qa→(List Int)→Option Qk):Prop:=∀ a1 ov2 r,f a1 ov2=some r→∀ M nb,ACalls P c [(Qp a1),(l_ ov2)] M nb (Qbn r) M nb
def Qnl:CFn:=⟨2,62,[.cell 4 true 4],sg [oo 2 (.box 4) [.t 0],oo 4 (.alloc [.nils 1,.nils 1,.nils 1,.nils 1]) []] (.seq (.region [oF 10 1 2,oL 11 10,oo 12 (.makes 1 24 [.nils 3]) [.t 11,.t 11],oF 13 2 2,oL 14 13,ot 15 (.build [.nils 1,.nils 1,.nils 1,.nils 1] [(0,1),(3,1)]) [.t 12,.t 14],oo 5 (.alloc [.nils 1,.nils 1,.nils 1,.nils 1]) [],oS 4 5 15] 0 []) (.seq (sg [oF 16 3 2,oL 17 16,oE 18 17,oC 19 0] (.block 0 (.loop [7,34] (sg [oB 20 .lss (.t 19) (.t 18)] (.seq (.cond (.t 20) .skip (.exit 0)) (.seq (.block 1 (sg [oI 21 3 17 19,oJ 22 3 21,oo 7 (.alloc [.d (.int .i64 0),.d (.int .i64 0),.d (.int .i64 0)]) [],oU 3 7 22] (.region [oF 23 0 5,oL 24 23,oF 25 0 7,oL 26 25,oF 27 0 5,oL 28 27,oF 29 0 7,oL 30 29,oI 31 1 28 30,oo 32 .loadT [.t 31],oJ 33 3 7,oo 34 (.bslice 3 1 [.d (.int .i64 0),.d (.int .i64 0),.d (.int .i64 0)] [0]) [.t 33],oA 35 3 24 32 34,oI 36 1 24 26,oS 1 36 35] 0 []))) (rg [oB 37 .add (.t 19) (cI 1),oM 19 37]))))))) (.seq (sg [oF 38 0 2,oL 39 38,oE 40 39,oC 41 0] (.block 2 (.loop [51,57] (sg [oB 42 .lss (.t 41) (.t 40)] (.seq (.cond (.t 42) .skip (.exit 2)) (.seq (.block 3 (sg [oI 43 1 39 41,oL 44 43,oM 9 44] (sg [oM 45 1,oM 46 9,oK 47 87 [.t 45,.t 46]] (.cond (.t 47) (rg [oF 48 1 5,oo 49 .loadT [.t 48],oM 50 9,oo 51 (.bslice 1 1 [.d (.int .i64 0)] [0]) [.t 50],oA 52 1 8 49 51,oF 53 1 5,oS 1 53 52]) (rg [oF 54 2 5,oo 55 .loadT [.t 54],oM 56 9,oo 57 (.bslice 1 1 [.d (.int .i64 0)] [0]) [.t 56],oA 58 1 8 55 57,oF 59 2 5,oS 1 59 58]))))) (rg [oB 60 .add (.t 41) (cI 1),oM 41 60]))))))) (sg [oJ 61 4 5,oS 4 4 61] .ret))))⟩
def Qz (Qj:(List Int)→Int→Option Bool) (fuel:Nat) (a1:Qa) (ov2:(List Int)):Option Qk :=
  ((mkO a1.zH ([]:List Qg)).bind fun x3=>((Qb9 (fun k7 ((x5,c6):Int×(List (List Qg)))=>(if (x5<(a1.zG.length:Int)) then ((getO a1.zG x5).bind fun x9=>((inO (Int.toNat a1.zH) x9.From).bind fun u11=>((getO c6 x9.From).bind fun x13=>((appO x13 [x9]).bind fun x15=>((inO (Int.toNat a1.zH) x9.From).bind fun u17=>((setO c6 x9.From x15).bind fun x19=>k7 ((IntKind.wrap .i64 (x5+1)),x19))))))) else some c6)) fuel (0,x3)).bind fun (c21:List (List Qg))=>((Qb9 (fun k29 ((x22,c23,c24,c25,c26,o27,o28):Int×(List (List Qg))×(List Int)×(List Int)×(List Int)×(List Int)×(List Int))=>(if (x22<(a1.zD.length:Int)) then ((((getO a1.zD x22).bind fun x31=>((Qj ov2 x31).bind fun x34=>(if x34 then ((appO o27 [x31]).bind fun x36=>some (x36,o28)) else ((appO o28 [x31]).bind fun x38=>some (o27,x38)))))).bind fun ((o40,o41):(List Int)×(List Int))=>k29 ((IntKind.wrap .i64 (x22+1)),c23,c24,c25,c26,o40,o41)) else some (c23,c24,c25,c26,o27,o28))) fuel (0,[],[],[],[],[],[])).bind fun ((c42,c43,c44,c45,o46,o47):(List (List Qg))×(List Int)×(List Int)×(List Int)×(List Int)×(List Int))=>((lenO c21 (Int.toNat a1.zH)).bind fun _=>some (Qk.mk c21 o46 o47 a1.zF)))))
def Qfp (P:Program) (c:Nat) (f:Int→Qk→Option Bool):Prop:=∀ x1 x2 (k3:Nat) r,f x1 x2=some r→∀ M nb,(M k3=some (.cells (Qu x2)))→ACalls P c [(i_ x1),.ptr k3 0] M nb (b_ r) M nb
def Qhy:CFn:=⟨2,9,[.t 3],sg [oo 3 .mov [.c (.d (.bool false))]] (sg [oF 4 1 1,oL 5 4,oM 6 0,oK 7 87 [.t 5,.t 6],oo 8 (.un .not) [.t 7],oM 3 8] .ret)⟩
def Qbo (Qj:(List Int)→Int→Option Bool) (x1:Int) (x2:Qk):Option Bool :=
  ((Qj x2.kept_ x1).bind fun x6=>some (!x6))
def Qee (P:Program) (c:Nat) (f:Qk→(List Int)→Option Bool):Prop:=∀ o1 ov2 r,f o1 ov2=some r→∀ M nb,ACalls P c [(Qbn o1),(l_ ov2)] M nb (b_ r) M nb
def Qix:CFn:=⟨2,9,[.t 4],sg [oo 2 (.box 4) [.t 0],oo 4 .mov [.c (.d (.bool false))]] (sg [oM 5 1,oo 6 (.func 109) [.t 2],oK 7 75 [.t 5,.t 6],oo 8 (.un .not) [.t 7],oM 4 8] .ret)⟩
def Qv (Qq:(List Int)→(Int→Option Bool)→Option Bool) (Qbo:Int→Qk→Option Bool) (o1:Qk) (ov2:(List Int)):Option Bool :=
  ((Qq ov2 (fun a3=>Qbo a3 o1)).bind fun x7=>some (!x7))
def Qfq (P:Program) (c:Nat) (f:Int→(List Bool)→(List Int)→Option ((List Bool)×(List Int))):Prop:=∀ x1 x2 x7 (k3:Nat) (k5:Nat) (k8:Nat) r,f x1 x2 x7=some r→∀ M nb,(M k3=some (.cells [.sl 1 k5 0 x2.length x2.length]))→(M k5=some (.cells (Qb7 (fun (x:Bool)=>[V.d (.bool x)]) x2)))→(M k8=some (.cells [(o_ x7)]))→(k5≠k3)→(k5≠k8)→(k8≠k3)→ACalls P c [(i_ x1),.ptr k3 0,.ptr k8 0] M nb (.tup []) (Mem.puts M [(k5,.cells (Qb7 (fun (x:Bool)=>[V.d (.bool x)]) r.1)),(k8,.cells ([(o_ r.2)]))]) nb
def Qhz:CFn:=⟨3,16,[],sg [oL 4 1,oM 5 0,oI 6 1 4 5,oL 7 6,oo 8 (.un .not) [.t 7]] (.cond (.t 8) (sg [oL 9 1,oM 10 0,oI 11 1 9 10,⟨none,.store 1,[.t 11,.c (.d (.bool true))],false,none⟩] (rg [oo 12 .loadT [.t 2],oM 13 0,oo 14 (.bslice 1 1 [.d (.int .i64 0)] [0]) [.t 13],oA 15 1 8 12 14,oS 1 2 15])) .skip)⟩
def Qbe (x1:Int) (x2:(List Bool)) (x7:(List Int)):Option ((List Bool)×(List Int)) :=
  ((inO x2.length x1).bind fun u13=>((getO x2 x1).bind fun x15=>(if x15 then some (x2,x7) else ((inO x2.length x1).bind fun u18=>((setO x2 x1 true).bind fun c20=>((appO x7 [x1]).bind fun x22=>some (c20,x22)))))))
def Qef (P:Program) (c:Nat) (f:Qk→(List Int)→(List Int)→Option ((List Int))):Prop:=∀ o1 xv2 ev3 r,f o1 xv2 ev3=some r→∀ M nb,ACalls P c [(Qbn o1),(l_ xv2),(l_ ev3)] M nb (l_ r) M nb
def Qiy:CFn:=⟨3,61,[.t 6],sg [oo 3 (.box 4) [.t 0],ot 6 .mov [.c (.nils 1)]] (sg [oF 15 0 3,oL 16 15,oE 17 16,oo 18 (.makes 1 1 [.d (.bool false)]) [.t 17,.t 17],oo 7 (.alloc [.nils 1]) [],oS 1 7 18] (sg [oo 8 (.alloc [.nils 1]) []] (sg [oo 19 (.func 145) [.t 7,.t 8],oM 9 19] (.seq (sg [oM 20 1,oE 21 20,oC 22 0] (.block 0 (.loop [] (sg [oB 23 .lss (.t 22) (.t 21)] (.seq (.cond (.t 23) .skip (.exit 0)) (.seq (.block 1 (sg [oI 24 1 20 22,oL 25 24,oM 11 25] (rg [oM 26 9,oM 27 11,oo 28 .callv [.t 26,.t 27]]))) (rg [oB 29 .add (.t 22) (cI 1),oM 22 29]))))))) (.seq (sg [oC 12 0] (.block 2 (.loop [14] (.seq (sg [oM 30 12,oL 31 8,oE 32 31,oB 33 .lss (.t 30) (.t 32)] (.cond (.t 33) .skip (.exit 2))) (.seq (.block 3 (.seq (.region [oF 36 0 3,oL 37 36,oL 38 8,oM 39 12,oI 40 1 38 39,oL 41 40,oI 42 1 37 41,oL 43 42,oE 44 43,oC 45 0] 0 []) (.block 4 (.loop [14] (sg [oB 46 .lss (.t 45) (.t 44)] (.seq (.cond (.t 46) .skip (.exit 4)) (.seq (.block 5 (sg [oI 47 3 43 45,oJ 48 3 47,oo 14 (.alloc [.d (.int .i64 0),.d (.int .i64 0),.d (.int .i64 0)]) [],oU 3 14 48] (sg [oM 49 2,oF 50 1 14,oL 51 50,oK 52 87 [.t 49,.t 51]] (.cond (.t 52) (rg [oM 53 9,oF 54 2 14,oL 55 54,oo 56 .callv [.t 53,.t 55]]) .skip)))) (rg [oB 57 .add (.t 45) (cI 1),oM 45 57])))))))) (rg [oM 34 12,oB 35 .add (.t 34) (cI 1),oM 12 35])))))) (sg [oL 58 8,oK 59 94 [.t 58]] (sg [oL 60 8,oT 6 60] .ret)))))))⟩
def Qw (Qj:(List Int)→Int→Option Bool) (f_slices_Sort_int:List Int→Option (List Int)) (Qbe:Int→(List Bool)→(List Int)→Option ((List Bool)×(List Int))) (fuel:Nat) (o1:Qk) (xv2:(List Int)) (ev3:(List Int)):Option ((List Int)) :=
  ((mkO (o1.out_.length:Int) false).bind fun x4=>((Qb9 (fun k9 ((x6,l7,c8):Int×(List Int)×(List Bool))=>(if (x6<(xv2.length:Int)) then ((getO xv2 x6).bind fun x11=>((lenO c8 (Int.toNat (o1.out_.length:Int))).bind fun _=>((Qbe x11 c8 l7).bind fun (c14,c15)=>k9 ((IntKind.wrap .i64 (x6+1)),c15,c14)))) else some (l7,c8))) fuel (0,[],x4)).bind fun ((l17,c18):(List Int)×(List Bool))=>((Qb9 (fun k22 ((i19,l20,c21):Int×(List Int)×(List Bool))=>(if (i19<(l20.length:Int)) then ((((getO l20 i19).bind fun x24=>((getO o1.out_ x24).bind fun x26=>Qb9 (fun k31 ((x28,l29,c30):Int×(List Int)×(List Bool))=>(if (x28<(x26.length:Int)) then ((((getO x26 x28).bind fun x33=>((Qj ev3 x33.Event).bind fun x36=>(if x36 then ((lenO c30 (Int.toNat (o1.out_.length:Int))).bind fun _=>((Qbe x33.To c30 l29).bind fun (c39,c40)=>some (c40,c39,x33.From,x33.Event,x33.To))) else some (l29,c30,x33.From,x33.Event,x33.To))))).bind fun ((l42,c43,c44,c45,c46):(List Int)×(List Bool)×Int×Int×Int)=>k31 ((IntKind.wrap .i64 (x28+1)),l42,c43)) else some (l29,c30))) fuel (0,l20,c21)))).bind fun ((l47,c48):(List Int)×(List Bool))=>k22 ((IntKind.wrap .i64 (i19+1)),l47,c48)) else some (l20,c21))) fuel (0,l17,c18)).bind fun ((l49,c50):(List Int)×(List Bool))=>((f_slices_Sort_int l49).bind fun rv51=>some rv51))))
def Qeg (P:Program) (c:Nat) (f:Qk→Option ((List Int))):Prop:=∀ o1 r,f o1=some r→∀ M nb,ACalls P c [(Qbn o1)] M nb (l_ r) M nb
def Qiz:CFn:=⟨1,12,[.t 2],sg [oo 1 (.box 4) [.t 0],ot 2 .mov [.c (.nils 1)]] (.seq (sg [oF 3 0 1,oL 4 3,oE 5 4,oB 6 .eql (.t 5) (cI 0)] (.cond (.t 6) (sg [ot 2 .mov [.c (.nils 1)]] .ret) .skip)) (sg [oJ 7 4 1,oo 8 (.bslice 1 1 [.d (.int .i64 0)] [0]) [cI 0],oF 9 2 1,oL 10 9,oK 11 102 [.t 7,.t 8,.t 10],oT 2 11] .ret))⟩
def Qx (Qw:Qk→(List Int)→(List Int)→Option ((List Int))) (o1:Qk):Option ((List Int)) :=
  (if ((o1.out_.length:Int)==0) then some [] else ((Qw o1 [0] o1.erased_).bind fun x4=>some x4))
def Qeu (P:Program) (c:Nat) (f:Qk→(List Int)→Int→Option ((List Int))):Prop:=∀ o1 ev2 ev3 r,f o1 ev2 ev3=some r→∀ M nb,ACalls P c [(Qbn o1),(l_ ev2),(i_ ev3)] M nb (l_ r) M nb
def Qjn:CFn:=⟨3,44,[.t 6],sg [oo 3 (.box 4) [.t 0],ot 6 .mov [.c (.nils 1)]] (sg [ot 7 .mov [.c (.nils 1)]] (.seq (sg [oM 12 1,oE 13 12,oC 14 0] (.block 0 (.loop [11,35] (sg [oB 15 .lss (.t 14) (.t 13)] (.seq (.cond (.t 15) .skip (.exit 0)) (.seq (.block 1 (sg [oI 16 1 12 14,oL 17 16,oM 9 17] (sg [oF 18 0 3,oL 19 18,oM 20 9,oI 21 1 19 20,oL 22 21,oE 23 22,oC 24 0] (.block 2 (.loop [11,35] (sg [oB 25 .lss (.t 24) (.t 23)] (.seq (.cond (.t 25) .skip (.exit 2)) (.seq (.block 3 (sg [oI 26 3 22 24,oJ 27 3 26,oo 11 (.alloc [.d (.int .i64 0),.d (.int .i64 0),.d (.int .i64 0)]) [],oU 3 11 27] (sg [oF 28 1 11,oL 29 28,oM 30 2,oB 31 .eql (.t 29) (.t 30)] (.cond (.t 31) (rg [oT 32 7,oF 33 2 11,oL 34 33,oo 35 (.bslice 1 1 [.d (.int .i64 0)] [0]) [.t 34],oA 36 1 8 32 35,oT 7 36]) .skip)))) (rg [oB 37 .add (.t 24) (cI 1),oM 24 37]))))))))) (rg [oB 38 .add (.t 14) (cI 1),oM 14 38]))))))) (sg [oJ 39 4 3,oM 40 7,oF 41 2 3,oL 42 41,oK 43 102 [.t 39,.t 40,.t 42],oT 6 43] .ret)))⟩
def Q0 (Qw:Qk→(List Int)→(List Int)→Option ((List Int))) (fuel:Nat) (o1:Qk) (ev2:(List Int)) (ev3:Int):Option ((List Int)) :=
  ((Qb9 (fun k6 ((l4,x5):(List Int)×Int)=>(if (x5<(ev2.length:Int)) then ((((getO ev2 x5).bind fun x8=>((getO o1.out_ x8).bind fun x10=>Qb9 (fun k14 ((l12,x13):(List Int)×Int)=>(if (x13<(x10.length:Int)) then ((((getO x10 x13).bind fun x16=>(if (x16.Event==ev3) then ((appO l12 [x16.To]).bind fun x19=>some (x19,x16.From,x16.Event,x16.To)) else some (l12,x16.From,x16.Event,x16.To)))).bind fun ((l21,c22,c23,c24):(List Int)×Int×Int×Int)=>k14 (l21,(IntKind.wrap .i64 (x13+1)))) else some l12)) fuel (l4,0)))).bind fun (l25:List Int)=>k6 (l25,(IntKind.wrap .i64 (x5+1)))) else some l4)) fuel ([],0)).bind fun (l26:List Int)=>((Qw o1 l26 o1.erased_).bind fun x28=>some x28))
def Qi0 (P:Program) (c:Nat) (f:Qa→(List Int)→(List Int)→Option ((List Int)×Int)):Prop:=∀ a1 ov2 ov3 r,f a1 ov2 ov3=some r→∀ M nb,ACalls P c [(Qp a1),(l_ ov2),(l_ ov3)] M nb (.tup [(l_ r.1),(i_ r.2)]) M nb
def Qml:CFn:=⟨3,40,[.t 6,.t 7],sg [oo 3 (.box 4) [.t 0],ot 6 .mov [.c (.nils 1)],oC 7 0] (.seq (sg [oJ 13 4 3,oM 14 1,oK 15 67 [.t 13,.t 14],oM 8 15] (sg [oM 16 8,oB 17 .neq (.t 16) (cI 0)] (.cond (.t 17) (sg [oM 18 8,ot 6 .mov [.c (.nils 1)],oM 7 18] .ret) .skip))) (sg [oJ 19 4 3,oM 20 1,oK 21 68 [.t 19,.t 20],oo 9 (.alloc [.nils 1,.nils 1,.nils 1,.nils 1]) [],oS 4 9 21] (.seq (sg [oJ 22 4 9,oM 23 2,oK 24 77 [.t 22,.t 23],oo 25 (.un .not) [.t 24]] (.cond (.t 25) (sg [ot 6 .mov [.c (.nils 1)],oC 7 9] .ret) .skip)) (sg [oJ 26 4 9,oK 27 69 [.t 26],oT 10 27] (.seq (sg [oM 28 2,oE 29 28,oC 30 0] (.block 0 (.loop [] (sg [oB 31 .lss (.t 30) (.t 29)] (.seq (.cond (.t 31) .skip (.exit 0)) (.seq (.block 1 (sg [oI 32 1 28 30,oL 33 32,oM 12 33] (rg [oJ 34 4 9,oM 35 10,oM 36 12,oK 37 72 [.t 34,.t 35,.t 36],oT 10 37]))) (rg [oB 38 .add (.t 30) (cI 1),oM 30 38]))))))) (sg [oT 39 10,oT 6 39,oC 7 0] .ret))))))⟩
def Qcr (Q7:Qa→(List Int)→Option Int) (Qz:Qa→(List Int)→Option Qk) (Qx:Qk→Option ((List Int))) (Q0:Qk→(List Int)→Int→Option ((List Int))) (Qv:Qk→(List Int)→Option Bool) (fuel:Nat) (a1:Qa) (ov2:(List Int)) (ov3:(List Int)):Option ((List Int)×Int) :=
  ((Q7 a1 ov2).bind fun x5=>(if (x5 != 0) then some ([],x5) else ((Qz a1 ov2).bind fun x8=>((Qv x8 ov3).bind fun x10=>(if x10 then ((Qx x8).bind fun x13=>((Qb9 (fun k16 ((l14,x15):(List Int)×Int)=>(if (x15<(ov3.length:Int)) then ((getO ov3 x15).bind fun x18=>((Q0 x8 l14 x18).bind fun x21=>k16 (x21,(IntKind.wrap .i64 (x15+1))))) else some l14)) fuel (x13,0)).bind fun (l22:List Int)=>some (l22,0))) else some ([],9))))))
def Qih (P:Program) (c:Nat) (f:(List Qb)→(List Int)→Option ((List Qb))):Prop:=∀ l1 xv2 r,f l1 xv2=some r→∀ M nb,ACalls P c [.d (.lst 2 (List.map Qc l1)),(l_ xv2)] M nb (.own 2 (List.map Qc r)) M nb
def Qp0:CFn:=⟨2,23,[.t 4],sg [ot 4 .mov [.c (.nils 2)]] (sg [ot 5 .mov [.c (.nils 2)]] (.seq (sg [oM 8 1,oE 9 8,oC 10 0] (.block 0 (.loop [19] (sg [oB 11 .lss (.t 10) (.t 9)] (.seq (.cond (.t 11) .skip (.exit 0)) (.seq (.block 1 (sg [oI 12 1 8 10,oL 13 12,oM 7 13] (rg [oT 14 5,oM 15 0,oM 16 7,oI 17 2 15 16,oJ 18 2 17,oo 19 (.bslice 2 1 [.d (.int .i64 0),.d (.int .i64 0)] [0]) [.t 18],oA 20 2 16 14 19,oT 5 20]))) (rg [oB 21 .add (.t 10) (cI 1),oM 10 21]))))))) (sg [oT 22 5,oT 4 22] .ret)))⟩
def Qbx (fuel:Nat) (l1:(List Qb)) (xv2:(List Int)):Option ((List Qb)) :=
  ((Qb9 (fun k5 ((ov3,x4):(List Qb)×Int)=>(if (x4<(xv2.length:Int)) then ((getO xv2 x4).bind fun x7=>((getO l1 x7).bind fun x9=>((appO ov3 [x9]).bind fun x11=>k5 (x11,(IntKind.wrap .i64 (x4+1)))))) else some ov3)) fuel ([],0)).bind fun (ov13:List Qb)=>some ov13)
def Qfv (P:Program) (c:Nat) (f:(List Qe)→Qa→(List Int)→Option ((List Qb)×Int)):Prop:=∀ ev1 a2 ov3 r,f ev1 a2 ov3=some r→∀ M nb,ACalls P c [.d (.lst 5 (List.map Qf ev1)),(Qp a2),(l_ ov3)] M nb (.tup [.own 2 (List.map Qc r.1),(i_ r.2)]) M nb
def Qnm:CFn:=⟨3,49,[.t 6,.t 7],sg [oo 4 (.box 4) [.t 1],ot 6 .mov [.c (.nils 2)],oC 7 0] (.seq (sg [oM 14 0,oJ 15 4 4,oK 16 36 [.t 14,.t 15],oM 8 16] (sg [oM 17 8,oB 18 .neq (.t 17) (cI 0)] (.cond (.t 18) (sg [oM 19 8,ot 6 .mov [.c (.nils 2)],oM 7 19] .ret) .skip))) (.seq (.region [oM 20 0,oK 21 54 [.t 20],oF 22 0 4,oL 23 22,oK 24 74 [.t 21,.t 23],oo 9 (.alloc [.nils 1]) [],oS 1 9 24] 16777226 []) (.seq (sg [oM 25 2,oo 26 (.func 76) [.t 9],oK 27 75 [.t 25,.t 26]] (.cond (.t 27) (sg [ot 6 .mov [.c (.nils 2)],oC 7 9] .ret) .skip)) (sg [oM 29 0,oJ 30 4 4,oK 31 18 [.t 29,.t 30],oM 28 31,oX 32 0 28,ot 33 (.extract 1) [.t 28],oX 34 2 28,oo 10 (.alloc [.nils 1,.d (.int .i64 0),.nils 1,.nils 3]) [],oS 4 10 32,oT 11 33,oM 12 34] (.seq (sg [oM 35 12,oB 36 .neq (.t 35) (cI 0)] (.cond (.t 36) (sg [oM 37 12,ot 6 .mov [.c (.nils 2)],oM 7 37] .ret) .skip)) (sg [oJ 39 4 10,oL 40 9,oM 41 2,oK 42 29 [.t 39,.t 40,.t 41],oM 38 42,ot 43 (.extract 0) [.t 38],oX 44 1 38,oT 13 43,oM 12 44] (sg [oM 45 11,oM 46 13,oK 47 55 [.t 45,.t 46],oM 48 12,oT 6 47,oM 7 48] .ret)))))))⟩
def Qt (Q8:(List Qe)→Qa→Option (Qa×(List Qb)×Int)) (Qcr:Qa→(List Int)→(List Int)→Option ((List Int)×Int)) (Qbd:(List Qe)→Qa→Option Int) (Qr:(List Qe)→Option ((List Int))) (Qbx:(List Qb)→(List Int)→Option ((List Qb))) (Qcy:(List Int)→(List Int)→Option ((List Int))) (Qq:(List Int)→(Int→Option Bool)→Option Bool) (Qci:Int→(List Int)→Option Bool) (ev1:(List Qe)) (a2:Qa) (ov3:(List Int)):Option ((List Qb)×Int) :=
  ((Qbd ev1 a2).bind fun x5=>(if (x5 != 0) then some ([],x5) else ((Qr ev1).bind fun x8=>((Qcy x8 a2.zD).bind fun x10=>((Qq ov3 (fun a11=>Qci a11 x10)).bind fun x15=>(if x15 then some ([],9) else ((Q8 ev1 a2).bind fun (r18,r19,r20)=>(if (r20 != 0) then some ([],r20) else ((Qcr r18 x10 ov3).bind fun (r23,r24)=>((Qbx r19 r23).bind fun x26=>some (x26,r24)))))))))))
def K_projection_key (P:Program) (c:Nat) (f:(List Int)→Option ByteArray):Prop:=∀ l1 r,f l1=some r→∀ M nb,ACalls P c [(l_ l1)] M nb (.d (.str r)) M nb
def Qet (P:Program) (c:Nat) (f:Int→Qk→Option Bool):Prop:=∀ x1 x2 (k3:Nat) r,f x1 x2=some r→∀ M nb,(M k3=some (.cells (Qu x2)))→ACalls P c [(i_ x1),.ptr k3 0] M nb (b_ r) M nb
def Qg0:CFn:=⟨2,8,[.t 3],sg [oo 3 .mov [.c (.d (.bool false))]] (sg [oF 4 3 1,oL 5 4,oM 6 0,oK 7 87 [.t 5,.t 6],oM 3 7] .ret)⟩
def Qbp (Qj:(List Int)→Int→Option Bool) (x1:Int) (x2:Qk):Option Bool :=
  ((Qj x2.marked_ x1).bind fun x6=>some x6)
def Qfg (P:Program) (c:Nat) (f:Qk→(List Int)→Option Bool):Prop:=∀ o1 ev2 r,f o1 ev2=some r→∀ M nb,ACalls P c [(Qbn o1),(l_ ev2)] M nb (b_ r) M nb
def Qhj:CFn:=⟨2,8,[.t 4],sg [oo 2 (.box 4) [.t 0],oo 4 .mov [.c (.d (.bool false))]] (sg [oM 5 1,oo 6 (.func 105) [.t 2],oK 7 75 [.t 5,.t 6],oM 4 7] .ret)⟩
def Qbv (Qq:(List Int)→(Int→Option Bool)→Option Bool) (Qbp:Int→Qk→Option Bool) (o1:Qk) (ev2:(List Int)):Option Bool :=
  ((Qq ev2 (fun a3=>Qbp a3 o1)).bind fun x7=>some x7)
def Qjt (P:Program) (c:Nat) (f:Qa→(List Int)→Option (Qa×(List (List Int))×Int)):Prop:=∀ a1 ov2 r,f a1 ov2=some r→∀ M nb,ACalls P c [(Qp a1),(l_ ov2)] M nb (.tup [(Qp r.1),.own 1 (List.map (eL 1 (eI .i64)) r.2.1),(i_ r.2.2)]) M nb
def Qnn:CFn:=⟨2,117,[.cell 4 true 4,.t 5,.t 6],sg [oo 2 (.box 4) [.t 0],oo 4 (.alloc [.nils 1,.d (.int .i64 0),.nils 1,.nils 3]) [],ot 5 .mov [.c (.nils 1)],oC 6 0] (.seq (sg [oJ 18 4 2,oM 19 1,oK 20 67 [.t 18,.t 19],oM 7 20] (sg [oM 21 7,oB 22 .neq (.t 21) (cI 0)] (.cond (.t 22) (sg [oo 23 (.build [.nils 1,.d (.int .i64 0),.nils 1,.nils 3] []) [],oM 24 7,oS 4 4 23,ot 5 .mov [.c (.nils 1)],oM 6 24] .ret) .skip))) (sg [oJ 25 4 2,oM 26 1,oK 27 68 [.t 25,.t 26],oo 8 (.alloc [.nils 1,.nils 1,.nils 1,.nils 1]) [],oS 4 8 27] (sg [oF 28 1 8,oL 29 28,ot 30 (.build [.nils 1,.d (.int .i64 0),.nils 1,.nils 3] [(0,1)]) [.t 29],oo 9 (.alloc [.nils 1,.d (.int .i64 0),.nils 1,.nils 3]) [],oS 4 9 30] (.seq (sg [oF 31 1 2,oL 32 31,oB 33 .eql (.t 32) (cI 0)] (.cond (.t 33) (sg [oJ 34 4 9,oS 4 4 34,ot 5 .mov [.c (.nils 1)],oC 6 0] .ret) .skip)) (sg [oJ 35 4 8,oK 36 69 [.t 35],oo 37 (.bslice 1 1 [.nils 1] [0]) [.t 36],oT 10 37] (sg [oo 38 .mkmap [],oM 39 10,oo 40 (.idx 1) [.t 39,cI 0],oL 41 40,oK 42 70 [.t 41],⟨none,.mapset .str,[.t 38,.t 42,cI 0],false,none⟩,oM 43 38,oM 11 43] (.seq (sg [oC 12 0] (.block 0 (.loop [59,96,104] (.seq (sg [oM 44 12,oM 45 10,oE 46 45,oB 47 .lss (.t 44) (.t 46)] (.cond (.t 47) .skip (.exit 0))) (.seq (.block 1 (.seq (.seq (.region [oJ 50 4 8,oM 51 10,oM 52 12,oI 53 1 51 52,oL 54 53,oK 55 71 [.t 50,.t 54]] 0 []) (.cond (.t 55) (rg [oF 56 2 9,oo 57 .loadT [.t 56],oM 58 12,oo 59 (.bslice 1 1 [.d (.int .i64 0)] [0]) [.t 58],oA 60 1 8 57 59,oF 61 2 9,oS 1 61 60]) .skip)) (.seq (sg [oF 62 1 8,oL 63 62,oE 64 63,oC 65 0] (.block 2 (.loop [96,104] (sg [oB 66 .lss (.t 65) (.t 64)] (.seq (.cond (.t 66) .skip (.exit 2)) (.seq (.block 3 (sg [oI 67 1 63 65,oL 68 67,oM 14 68] (.seq (.region [oJ 69 4 8,oM 70 10,oM 71 12,oI 72 1 70 71,oL 73 72,oM 74 14,oK 75 72 [.t 69,.t 73,.t 74],oT 15 75] 0 []) (.seq (sg [oM 76 15,oE 77 76,oB 78 .eql (.t 77) (cI 0)] (.cond (.t 78) (.exit 3) .skip)) (sg [oM 80 11,oM 81 15,oK 82 70 [.t 81],oo 83 (.lookup .str true (.d (.int .i64 0))) [.t 80,.t 82],oM 79 83,oX 84 0 79,oX 85 1 79,oM 16 84,oM 17 85] (.seq (sg [oM 86 17,oo 87 (.un .not) [.t 86]] (.cond (.t 87) (sg [oM 88 10,oE 89 88,oM 16 89] (sg [oM 90 11,oM 91 15,oK 92 70 [.t 91],oM 93 16,⟨none,.mapset .str,[.t 90,.t 92,.t 93],false,none⟩] (rg [oT 94 10,oM 95 15,oo 96 (.bslice 1 1 [.nils 1] [0]) [.t 95],oA 97 1 24 94 96,oT 10 97]))) .skip)) (rg [oF 98 3 9,oo 99 .loadT [.t 98],oM 100 12,oM 101 14,oM 102 16,oo 103 (.build [.d (.int .i64 0),.d (.int .i64 0),.d (.int .i64 0)] [(0,1),(1,1),(2,1)]) [.t 100,.t 101,.t 102],oo 104 (.bslice 3 1 [.d (.int .i64 0),.d (.int .i64 0),.d (.int .i64 0)] [0]) [.t 103],oA 105 3 24 99 104,oF 106 3 9,oS 1 106 105]))))))) (rg [oB 107 .add (.t 65) (cI 1),oM 65 107]))))))) (sg [oM 108 10,oE 109 108,oB 110 .gtr (.t 109) (cI 4096)] (.cond (.t 110) (sg [oo 111 (.build [.nils 1,.d (.int .i64 0),.nils 1,.nils 3] []) [],oS 4 4 111,ot 5 .mov [.c (.nils 1)],oC 6 3] .ret) .skip))))) (rg [oM 48 12,oB 49 .add (.t 48) (cI 1),oM 12 49])))))) (sg [oM 112 10,oE 113 112,oF 114 1 9,oU 1 114 113] (sg [oJ 115 4 9,oT 116 10,oS 4 4 115,oT 5 116,oC 6 0] .ret)))))))))⟩
def Qdo (Q7:Qa→(List Int)→Option Int) (Qz:Qa→(List Int)→Option Qk) (Qx:Qk→Option ((List Int))) (f_projection_key:(List Int)→Option ByteArray) (Qbv:Qk→(List Int)→Option Bool) (Q0:Qk→(List Int)→Int→Option ((List Int))) (fuel:Nat) (a1:Qa) (ov2:(List Int)):Option (Qa×(List (List Int))×Int) :=
  ((Q7 a1 ov2).bind fun x4=>(if (x4 != 0) then some ((Qa.mk [] 0 [] []),[],x4) else ((Qz a1 ov2).bind fun x7=>(if (a1.zH==0) then some ((Qa.mk x7.kept_ 0 [] []),[],0) else ((Qx x7).bind fun x10=>((f_projection_key x10).bind fun x12=>Qb9 (fun k21 ((sv13,i14,c15,c16,c17,r18,r19,c20):(List (List Int))×Int×(List Int)×(List Int)×(List Qg)×(List Int)×(List Qg)×(List (ByteArray×Int)))=>(if (i14<(sv13.length:Int)) then ((((getO sv13 i14).bind fun x23=>((Qbv x7 x23).bind fun x26=>(if x26 then ((appO r18 [i14]).bind fun x28=>some x28) else some r18)))).bind fun (r30:List Int)=>((Qb9 (fun k35 ((sv31,x32,r33,c34):(List (List Int))×Int×(List Qg)×(List (ByteArray×Int)))=>(if (x32<(x7.kept_.length:Int)) then ((((getO x7.kept_ x32).bind fun x37=>((getO sv31 i14).bind fun x39=>((Q0 x7 x39 x37).bind fun x42=>(if ((x42.length:Int)==0) then some (sv31,r33,c34) else ((f_projection_key x42).bind fun x45=>(((if (hasM c34 x45) then some (sv31,(getM c34 x45 0),c34) else ((f_projection_key x42).bind fun x48=>((appO sv31 [x42]).bind fun x49=>some (x49,(sv31.length:Int),(setM c34 x48 (sv31.length:Int))))))).bind fun ((sv51,to52,c53):(List (List Int))×Int×(List (ByteArray×Int)))=>((appO r33 [(Qg.mk i14 x37 to52)]).bind fun x54=>some (sv51,x54,c53))))))))).bind fun ((sv56,r57,c58):(List (List Int))×(List Qg)×(List (ByteArray×Int)))=>k35 (sv56,(IntKind.wrap .i64 (x32+1)),r57,c58)) else some (sv31,r33,c34))) fuel (sv13,0,r19,c20)).bind fun ((sv59,r60,c61):(List (List Int))×(List Qg)×(List (ByteArray×Int)))=>(if ((sv59.length:Int)>4096) then some ((Qa.mk [] 0 [] []),[],3) else k21 (sv59,(IntKind.wrap .i64 (i14+1)),c15,c16,c17,r30,r60,c61)))) else some ((Qa.mk x7.kept_ (sv13.length:Int) r18 r19),sv13,0))) fuel ([x10],0,[],[],[],[],[],(setM ([]:List (ByteArray×Int)) x12 0))))))))
def Qly (P:Program) (c:Nat) (f:(List Qe)→Qa→Option (Qby×Int)):Prop:=∀ ev1 a2 r,f ev1 a2=some r→∀ M nb,ACalls P c [.d (.lst 5 (List.map Qf ev1)),(Qp a2)] M nb (.tup [(Qo r.1),(i_ r.2)]) M nb
def Qq3:CFn:=⟨2,55,[.cell 4 true 5,.t 5],sg [oo 3 (.box 4) [.t 1],oo 4 (.alloc [.nils 1,.d (.int .i64 0),.nils 1,.nils 3,.nils 1]) [],oC 5 0] (sg [oM 15 0,oJ 16 4 3,oK 17 18 [.t 15,.t 16],oM 14 17,oX 18 0 14,ot 19 (.extract 1) [.t 14],oX 20 2 14,oo 6 (.alloc [.nils 1,.d (.int .i64 0),.nils 1,.nils 3]) [],oS 4 6 18,oT 7 19,oM 8 20] (.seq (sg [oM 21 8,oB 22 .neq (.t 21) (cI 0)] (.cond (.t 22) (sg [oo 23 (.build [.nils 1,.d (.int .i64 0),.nils 1,.nils 3,.nils 1] []) [],oM 24 8,oS 5 4 23,oM 5 24] .ret) .skip)) (.seq (.region [oJ 26 4 6,oM 27 0,oK 28 54 [.t 27],oK 29 20 [.t 26,.t 28],oM 25 29,oX 30 0 25,ot 31 (.extract 1) [.t 25],oX 32 2 25,oo 9 (.alloc [.nils 1,.d (.int .i64 0),.nils 1,.nils 3]) [],oS 4 9 30,oT 10 31,oM 8 32] 536870922 []) (.seq (sg [oM 33 8,oB 34 .neq (.t 33) (cI 0)] (.cond (.t 34) (sg [oo 35 (.build [.nils 1,.d (.int .i64 0),.nils 1,.nils 3,.nils 1] []) [],oM 36 8,oS 5 4 35,oM 5 36] .ret) .skip)) (sg [oJ 37 4 9,oo 38 (.build [.nils 1,.d (.int .i64 0),.nils 1,.nils 3,.nils 1] [(0,4)]) [.t 37],oo 11 (.alloc [.nils 1,.d (.int .i64 0),.nils 1,.nils 3,.nils 1]) [],oS 5 11 38] (.seq (sg [oM 39 10,oE 40 39,oC 41 0] (.block 0 (.loop [50] (sg [oB 42 .lss (.t 41) (.t 40)] (.seq (.cond (.t 42) .skip (.exit 0)) (.seq (.block 1 (sg [oI 43 1 39 41,oL 44 43,oT 13 44] (.region [oF 45 4 11,oo 46 .loadT [.t 45],oM 47 7,oM 48 13,oK 49 55 [.t 47,.t 48],oo 50 (.bslice 1 1 [.nils 2] [0]) [.t 49],oA 51 1 24 46 50,oF 52 4 11,oS 1 52 51] 2 []))) (rg [oB 53 .add (.t 41) (cI 1),oM 41 53]))))))) (sg [oJ 54 5 11,oS 5 4 54,oC 5 0] .ret)))))))⟩
def Qe1 (Q8:(List Qe)→Qa→Option (Qa×(List Qb)×Int)) (Qdo:Qa→(List Int)→Option (Qa×(List (List Int))×Int)) (Qr:(List Qe)→Option ((List Int))) (Qbx:(List Qb)→(List Int)→Option ((List Qb))) (fuel:Nat) (ev1:(List Qe)) (a2:Qa):Option (Qby×Int) :=
  ((Q8 ev1 a2).bind fun (r4,r5,r6)=>(if (r6 != 0) then some ((Qby.mk (Qa.mk [] 0 [] []) []),r6) else ((Qr ev1).bind fun x9=>((Qdo r4 x9).bind fun (r11,r12,r13)=>(if (r13 != 0) then some ((Qby.mk (Qa.mk [] 0 [] []) []),r13) else ((Qb9 (fun k21 ((x15,c16,c17,c18,c19,d20):Int×(List Int)×(List Int)×(List Qg)×(List (List Qb))×(List (List Qb)))=>(if (x15<(r12.length:Int)) then ((getO r12 x15).bind fun x23=>((Qbx r5 x23).bind fun x26=>((appO d20 [x26]).bind fun x27=>k21 ((IntKind.wrap .i64 (x15+1)),c16,c17,c18,c19,x27)))) else some (c16,c17,c18,c19,d20))) fuel (0,[],[],[],[],[])).bind fun ((c29,c30,c31,c32,d33):(List Int)×(List Int)×(List Qg)×(List (List Qb))×(List (List Qb)))=>some ((Qby.mk r11 d33),0)))))))
def Qhg (P:Program) (c:Nat) (f:Int→Option Bool):Prop:=∀ cv1 r,f cv1=some r→∀ M nb,ACalls P c [(i_ cv1)] M nb (b_ r) M nb
def Qq4:CFn:=⟨1,9,[.t 2],sg [oo 2 .mov [.c (.d (.bool false))]] (sg [oM 3 0,oB 4 .lss (.t 3) (cI 1),oM 5 4,g0 5 (oM 6 0),g0 5 (oB 7 .gtr (.t 6) (cI 4)),oQ 8 5 7,oM 2 8] .ret)⟩
def Qbh (cv1:Int):Option Bool :=
  (if (cv1<1) then some true else some (decide (cv1>4)))
def Qjh (P:Program) (c:Nat) (f:(List Qb)→Int→Option Int):Prop:=∀ ev1 cv2 r,f ev1 cv2=some r→∀ M nb,ACalls P c [.d (.lst 2 (List.map Qc ev1)),(i_ cv2)] M nb (i_ r) M nb
def Qq5:CFn:=⟨2,24,[.t 4],sg [oC 4 0] (sg [oC 5 0] (.seq (sg [oM 8 0,oE 9 8,oC 10 0] (.block 0 (.loop [7] (sg [oB 11 .lss (.t 10) (.t 9)] (.seq (.cond (.t 11) .skip (.exit 0)) (.seq (.block 1 (sg [oI 12 2 8 10,oJ 13 2 12,oo 7 (.alloc [.d (.int .i64 0),.d (.int .i64 0)]) [],oU 2 7 13] (rg [oM 14 5,oF 15 1 7,oL 16 15,oM 17 1,oB 18 .sub (.t 17) (cI 1),oB 19 .shr (.t 16) (.t 18),oB 20 .and (.t 19) (cI 1),oB 21 .add (.t 14) (.t 20),oM 5 21]))) (rg [oB 22 .add (.t 10) (cI 1),oM 10 22]))))))) (sg [oM 23 5,oM 4 23] .ret)))⟩
def Qb5 (fuel:Nat) (ev1:(List Qb)) (cv2:Int):Option Int :=
  ((Qb9 (fun k5 ((n3,x4):Int×Int)=>(if (x4<(ev1.length:Int)) then ((getO ev1 x4).bind fun x7=>((shrO .i64 x7.Classes (IntKind.wrap .i64 (cv2-1))).bind fun s9=>k5 ((IntKind.wrap .i64 (n3+(andI .i64 s9 1))),(IntKind.wrap .i64 (x4+1))))) else some n3)) fuel (0,0)).bind fun (n11:Int)=>some n11)
def Qhp (P:Program) (c:Nat) (f:(List Qb)→Int→Option (Int×Int)):Prop:=∀ ev1 cv2 r,f ev1 cv2=some r→∀ M nb,ACalls P c [.d (.lst 2 (List.map Qc ev1)),(i_ cv2)] M nb (.tup [(i_ r.1),(i_ r.2)]) M nb
def Qoz:CFn:=⟨2,22,[.t 4,.t 5],sg [oC 4 0,oC 5 0] (.seq (.block 0 (sg [oM 7 1,oK 8 56 [.t 7],oM 6 8] (.cond (.t 6) (sg [oC 4 0,oC 5 2] .ret) (sg [oM 10 0,oE 11 10,oB 12 .eql (.t 11) (cI 0),oM 9 12] (.cond (.t 9) (sg [oC 4 0,oC 5 12] .ret) .skip))))) (.seq (sg [oM 13 0,oM 14 1,oK 15 78 [.t 13,.t 14]] (.block 1 (sg [oB 17 .eql (.t 15) (cI 0),oM 16 17] (.cond (.t 16) (sg [oC 4 1,oC 5 0] .ret) (sg [oM 19 0,oE 20 19,oB 21 .eql (.t 15) (.t 20),oM 18 21] (.cond (.t 18) (sg [oC 4 2,oC 5 0] .ret) .skip)))))) (sg [oC 4 3,oC 5 0] .ret)))⟩
def Qbz (Qbh:Int→Option Bool) (Qb5:(List Qb)→Int→Option Int) (ev1:(List Qb)) (cv2:Int):Option (Int×Int) :=
  ((Qbh cv2).bind fun x4=>(if x4 then some (0,2) else (if ((ev1.length:Int)==0) then some (0,12) else ((Qb5 ev1 cv2).bind fun x8=>(if (x8==0) then some (1,0) else (if (x8==(ev1.length:Int)) then some (2,0) else some (3,0)))))))
def K_reach_Components (P:Program) (c:Nat) (f:Qa→Option ((List (List Int))×Int)):Prop:=∀ a1 r,f a1=some r→∀ M nb,ACalls P c [(Qp a1)] M nb (.tup [.d (.lst 1 (List.map (eL 1 (eI .i64)) r.1)),(i_ r.2)]) M nb
end Go.Abs
end
