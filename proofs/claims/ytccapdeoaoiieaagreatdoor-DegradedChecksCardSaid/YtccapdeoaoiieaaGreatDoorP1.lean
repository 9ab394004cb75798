/-
  Part 1 of the proof: see the last text.
-/
import Derived.Orders
import Derived.WalkKit
import Derived.Laws.StructEq
import Derived.WalkLawsBesides
import Derived.Laws.BytesString
import Derived.Laws.Cells
import Derived.ChangeKeysEq
set_option linter.unusedVariables false
set_option linter.unusedSimpArgs false
set_option linter.unusedSectionVars false
section
namespace Go.Abs
inductive D where
 | int (k:IntKind) (n:Int)
 | bool (b:Bool)
 | str (s:ByteArray)
 | lst (sz:Nat) (l:List (List D))
 | mp (es:List MapEntry) (c:Nat)
def D.scal:D→Bool
 | .int .. | .bool _ | .str _=>true
 | _=>false
inductive V where
 | und
 | d (x:D)
 | agg (cs:List V)
 | tup (vs:List V)
 | own (sz:Nat) (l:List (List D))
 | ptr (k off:Nat)
 | nilp
 | f (x:D)
 | nils (sz:Nat)
 | cref (cs:List D)
 | sl (sz k off len cap:Nat)
 | clo (f:FuncId) (caps:List V)
 | mp (k:Nat)
 | ownT (sz:Nat) (l:List (List D))
 | ownV (sz:Nat) (l:List (List D))
inductive Bx where
 | cells (cs:List V)
 | mp (es:List (V×V×Nat)) (c:Nat)
def Qn3:Value→V
 | .int k n=>.d (.int k n)
 | .bool b=>.d (.bool b)
 | .string s=>.d (.str s)
 | _=>.und
def Qvi:Value→V
 | .agg vs=>.agg (vs.toList.map Qn3)
 | v=>Qn3 v
def entV (e:MapEntry):V×V×Nat:=(Qvi e.key,Qvi e.val,e.born)
inductive CK where
 | int (k:IntKind)
 | str
 | bool
inductive MK where
 | int (k:IntKind)
 | str
 | bool
 | st (ks:List CK)
def CK.ok:CK→V→Bool
 | .int k,.d (.int k' _)=>decide (k'=k)
 | .str,.d (.str _)=>true
 | .bool,.d (.bool _)=>true
 | _,_=>false
def okCs:List CK→List V→Bool
 | [],[]=>true
 | k::ks,v::vs=>k.ok v&&okCs ks vs
 | _,_=>false
def MK.ok:MK→V→Bool
 | .int k,.d (.int k' _)=>decide (k'=k)
 | .str,.d (.str _)=>true
 | .bool,.d (.bool _)=>true
 | .st ks,.agg cs=>okCs ks cs
 | _,_=>false
def Qhs:V→V→Bool
 | .d (.int _ a),.d (.int _ b)=>a==b
 | .d (.str a),.d (.str b)=>a==b
 | .d (.bool a),.d (.bool b)=>a==b
 | _,_=>false
def Qhy:List V→List V→Bool
 | [],[]=>true
 | x::xs,y::ys=>Qhs x y&&Qhy xs ys
 | _,_=>false
def Qea:V→V→Bool
 | .agg xs,.agg ys=>Qhy xs ys
 | x,y=>Qhs x y
def V.dat1:V→Bool
 | .d _ | .nils _=>true
 | _=>false
def V.dat:V→Bool
 | .d _ | .nils _=>true
 | .agg cs=>cs.all V.dat1
 | .clo _ cs=>cs.isEmpty
 | _=>false
def V.mv:V→Bool
 | .own _ _=>true
 | v=>v.dat
def Qv3:V→V
 | .nils sz=>.d (.lst sz [])
 | v=>v
def Qg1 (key:V):List (V×V×Nat)→Option (Nat×V)
 | []=>none
 | (k,v,_)::es=>if Qea key k then some (0,v) else (Qg1 key es).map fun (i,v)=>(i+1,v)
def modM (key v:V):Nat→List (V×V×Nat)→List (V×V×Nat)
 | _,[]=>[]
 | 0,(_,_,b)::es=>(key,v,b)::es
 | i+1,e::es=>e::modM key v i es
def Q4n (b:Int):List (V×V×Nat)→Option Nat
 | []=>none
 | (_,_,c)::es=>if (c:Int)==b then some 0 else (Q4n b es).map (· + 1)
def upM:Nat→List (V×V×Nat)→Bool
 | _,[]=>true
 | n,e::es=>decide (n≤e.2.2)&&upM (e.2.2+1) es
def MK.all (kd:MK) (es:List (V×V×Nat)):Bool:=es.all fun e=>kd.ok e.1
abbrev Mem:=Nat→Option Bx
def Mem.put (M:Mem) (k:Nat) (b:Bx):Mem:=fun i=>if i=k then some b else M i
def Mem.over (M:Mem) (nb:Nat) (Δ:Mem):Mem:=fun k=>if k<nb then M k else Δ k
def Mem.patch (M W:Mem):Mem:=fun k=>match W k with
 | some b=>some b
 | none=>M k
abbrev Sl:=Nat→V
def Sl.put (s:Sl) (t:Nat) (v:V):Sl:=fun i=>if i=t then v else s i
mutual
def V.dem:V→V
 | .own sz l=>.d (.lst sz l)
 | .ownT sz l=>.d (.lst sz l)
 | .ownV _ _=>.und
 | .agg cs=>.agg (V.dems cs)
 | .tup vs=>.tup (V.dems vs)
 | v=>v
def V.dems:List V→List V
 | []=>[]
 | v::vs=>v.dem::V.dems vs
end
def V.top:V→V
 | .own sz l=>.own sz l
 | v=>v.dem
def V.topL:V→V
 | .ownV sz l=>.ownV sz l
 | v=>v.top
def own1:List V→List V
 | []=>[]
 | v::vs=>v.top::own1 vs
def V.topS:V→V
 | .own sz l=>.own sz l
 | .ownV sz l=>.ownV sz l
 | .agg cs=>.agg (own1 cs)
 | v=>v.dem
def V.lt (n:Nat):V→Bool
 | .ptr k _ | .sl _ k _ _ _ | .mp k=>decide (k<n)
 | .agg cs=>go cs
 | .tup vs=>go vs
 | .clo _ cs=>go cs
 | _=>true
where go:List V→Bool
 | []=>true
 | v::vs=>v.lt n&&go vs
def V.cells:V→List V
 | .agg cs=>cs
 | v=>[v]
def V.toD:V→Option D
 | .d x=>some x
 | .own sz l=>some (.lst sz l)
 | .ownT sz l=>some (.lst sz l)
 | .nils sz=>some (.lst sz [])
 | _=>none
def toDs:List V→Option (List D)
 | []=>some []
 | v::vs=>match v.toD,toDs vs with
  | some x,some xs=>some (x::xs)
  | _,_=>none
def Qix (n:Nat):Nat→List D→List (List D)
 | 0,_=>[]
 | k+1,l=>l.take n::Qix n k (l.drop n)
def lim:Nat:=1099511627776
def Q72 (op:BinOp) (k:IntKind) (a b:Int):Option D :=
 match op with
 | .add=>some (.int k (k.wrap (a+b)))
 | .sub=>some (.int k (k.wrap (a-b)))
 | .mul=>some (.int k (k.wrap (a*b)))
 | .and=>some (.int k (k.wrap ((BitVec.ofInt k.bits a) &&& (BitVec.ofInt k.bits b)).toNat))
 | .or=>some (.int k (k.wrap ((BitVec.ofInt k.bits a) ||| (BitVec.ofInt k.bits b)).toNat))
 | .xor=>some (.int k (k.wrap ((BitVec.ofInt k.bits a) ^^^ (BitVec.ofInt k.bits b)).toNat))
 | .andNot=>some (.int k (k.wrap ((BitVec.ofInt k.bits a) &&& ~~~(BitVec.ofInt k.bits b)).toNat))
 | .eql=>some (.bool (a==b))
 | .neq=>some (.bool (a != b))
 | .lss=>some (.bool (a<b))
 | .leq=>some (.bool (a≤b))
 | .gtr=>some (.bool (a>b))
 | .geq=>some (.bool (a≥b))
 | .quo=>if b=0 then none else some (.int k (k.wrap (a.tdiv b)))
 | .rem=>if b=0 then none else some (.int k (a.tmod b))
 | _=>none
def binD (op:BinOp) (tb:Bool):D→D→Option D
 | .int k a,.int k' b =>
  match op with
  | .shl=>if b<0 then none else some (.int k (k.wrap (a*2 ^ (min b.toNat k.bits))))
  | .shr=>if b<0 then none else some (.int k (a.fdiv (2 ^ (min b.toNat k.bits))))
  | _=>if k=k' then Q72 op k a b else none
 | .bool a,.bool b =>
  match op,tb with
  | .eql,true=>some (.bool (a==b))
  | .neq,true=>some (.bool (!(a==b)))
  | _,_=>none
 | .str a,.str b =>
  match op with
  | .eql=>some (.bool (a.toList==b.toList))
  | .neq=>some (.bool !(a.toList==b.toList))
  | _=>none
 | _,_=>none
def unD:UnOp→D→Option D
 | .not,.bool b=>some (.bool !b)
 | .neg,.int k n=>some (.int k (k.wrap (0-n)))
 | _,_=>none
def Qd6:List Nat→List V→List V→Option Bool
 | [],[],[]=>some true
 | 0::ks,.d (.int k a)::xs,.d (.int k' b)::ys=>if k=k' then (Qd6 ks xs ys).map ((a==b) && ·) else none
 | 1::ks,.d (.bool a)::xs,.d (.bool b)::ys=>(Qd6 ks xs ys).map ((a==b) && ·)
 | 2::ks,.d (.str a)::xs,.d (.str b)::ys=>(Qd6 ks xs ys).map ((a==b) && ·)
 | _,_,_=>none
def Q5q:List (List D)→Option (List Int)
 | []=>some []
 | [.int .u8 n]::l=>(Q5q l).map (n :: ·)
 | _=>none
def strB (ns:List Int):ByteArray:=ns.foldl (fun r n=>r.push (UInt8.ofNat n.toNat)) ByteArray.empty
inductive K where
 | mov
 | pick
 | box (n:Nat)
 | alloc (z:List V)
 | build (z:List V) (places:List (Nat×Nat))
 | bslice (sz n:Nat) (z:List V) (places:List Nat)
 | blit (sz n:Nat) (z:List V) (places:List Nat)
 | load (agg:Bool) (n:Nat)
 | loadT
 | store (n:Nat)
 | nilchk
 | bin (op:BinOp) (tb:Bool)
 | eqa (neg:Bool) (ks:List Nat)
 | un (op:UnOp)
 | conv (k:IntKind)
 | bstr
 | pnil (neg:Bool)
 | func (f:FuncId)
 | makes (sz bytes:Nat) (z:List V)
 | slice (sz:Nat) (lo hi:Bool)
 | slcT (sz:Nat)
 | fld (off:Nat)
 | field (agg:Bool) (off n:Nat)
 | idx (sz:Nat)
 | idxarr (sz len:Nat)
 | idxval (agg:Bool) (sz len:Nat)
 | extract (i:Nat)
 | len
 | lens
 | idxs
 | append (sz bytes:Nat)
 | appw (sz bytes:Nat)
 | max2
 | min2
 | call (f:FuncId)
 | callv
 | callO (f:FuncId) (i:Nat)
 | isnil (neg:Bool)
 | mkmap
 | lenm
 | lookup (kd:MK) (c:Bool) (z:V)
 | mapset (kd:MK)
 | lookupT (kd:MK) (z:V)
 | mapsetT (kd:MK)
 | mapentry (kd:MK) (z:V)
 | entrystore
inductive Arg where
 | t (t:Nat)
 | c (v:V)
structure COp where
 dst:Option Nat
 kind:K
 args:List Arg
 tk:Bool
 guard:Option (Nat×Bool)
structure Pair where
 a:Nat
 n:Nat
 b:Nat
 m:Nat
inductive CC where
 | skip
 | region (ops:List COp) (pc:Nat) (pairs:List Pair)
 | seq (a b:CC)
 | cond (c:Arg) (a b:CC)
 | block (id:Nat) (c:CC)
 | loop (sites:List Nat) (c:CC)
 | exit (id:Nat)
 | ret
 | dead
def Qf8 (M:Mem) (sz:Nat):V→Option (List (List D))
 | .d (.lst sz' l)=>if sz'=sz then some l else none
 | .own sz' l=>if sz'=sz then some l else none
 | .ownT sz' l=>if sz'=sz then some l else none
 | .nils sz'=>if sz'=sz then some [] else none
 | .sl sz' k off len _ =>
  if sz'=sz then
   match M k with
   | some (.cells cs)=>if off+len*sz≤cs.length then (toDs ((cs.drop off).take (len*sz))).map (Qix sz len) else none
   | _=>none
  else none
 | _=>none
def Qiy (cells:List V):List (Nat×List V)→List V
 | []=>cells
 | (off,vs)::rest=>Qiy (cells.take off++vs++cells.drop (off+vs.length)) rest
def rep (n:Nat) (z:List V):List V:=(List.replicate n z).flatten
def Qdy (x:V):Bool:=match x with | .und | .tup _=>false|_=>true
def nilP:V→Option Bool
 | .nilp=>some true
 | .ptr _ _=>some false
 | .cref _=>some false
 | _=>none
def Qm (n0 κ:Nat) (k:K) (xs:List V) (M:Mem):Option (V×Mem) :=
 match k,xs with
 | .mov,[x]=>some (x,M)
 | .pick,[.d (.bool b),x,y]=>some ((if b then x else y),M)
 | .box n,[x] =>
  match x with
  | .und | .tup _=>none
  | _=>if x.cells.length=n&&(M κ).isNone then some (.ptr κ 0,M.put κ (.cells x.cells)) else none
 | .alloc z,[]=>if (M κ).isNone then some (.ptr κ 0,M.put κ (.cells z)) else none
 | .build z ps,xs =>
  if ps.length=(own1 xs).length&&(ps.zip (own1 xs)).all (fun (p,x)=>Qdy x&&x.cells.length==p.2&&decide (p.1+p.2≤z.length))
  then some (.agg (Qiy z ((ps.zip (own1 xs)).map fun (p,x)=>(p.1,x.cells))),M) else none
 | .bslice sz n z ps,xs =>
  if ps.length=xs.length&&decide (0<sz)&&z.length==sz&&(ps.zip xs).all (fun (i,x)=>Qdy x&&x.cells.length==sz&&decide (i<n))&&(M κ).isNone
  then some (.sl sz κ 0 n n,M.put κ (.cells (Qiy (rep n z) ((ps.zip xs).map fun (i,x)=>(i*sz,x.cells))))) else none
 | .blit sz n z ps,xs =>
  if ps.length=xs.length&&decide (0<sz)&&z.length==sz&&(ps.zip xs).all (fun (i,x)=>Qdy x&&x.cells.length==sz&&decide (i<n))
  then (toDs (Qiy (rep n z) ((ps.zip xs).map fun (i,x)=>(i*sz,x.cells)))).map fun ds=>(.d (.lst sz (Qix sz n ds)),M) else none
 | .load agg n,[.ptr k off] =>
  match M k with
  | some (.cells cs) =>
   if off+n≤cs.length then
    (if agg then some (.agg (V.dems ((cs.drop off).take n)),M) else (cs[off]?).map (·.dem,M))
   else none
  | _=>none
 | .load agg n,[.cref cs] =>
  if n≤cs.length then (if agg then some (.agg ((cs.take n).map .d),M) else (cs[0]?).map (fun x=>(.d x,M))) else none
 | .loadT,[.ptr k off] =>
  match M k with
  | some (.cells cs)=>(cs[off]?).map fun x=>(x.topL,M.put k (.cells (cs.set off x.dem)))
  | _=>none
 | .store n,[.ptr k off,v] =>
  match v with
  | .und | .tup _=>none
  | _ =>
   match M k with
   | some (.cells cs) =>
    if v.topS.cells.length=n&&decide (off+n≤cs.length)&&(decide (n0≤k)||v.lt n0) then
     some (.und,M.put k (.cells (cs.take off++v.topS.cells++cs.drop (off+n)))) else none
   | _=>none
 | .nilchk,[x]=>match x with | .ptr _ _ | .cref _ | .clo _ _=>some (x,M)|_=>none
 | .bin op tb,[.d x,.d y]=>(binD op tb x y).map (fun z=>(.d z,M))
 | .eqa neg ks,[.agg xs,.agg ys]=>(Qd6 ks xs ys).map fun b=>(.d (.bool (if neg then !b else b)),M)
 | .un op,[.d x]=>(unD op x).map (fun z=>(.d z,M))
 | .pnil neg,[x]=>(nilP x).map fun b=>(.d (.bool (if neg then !b else b)),M)
 | .bstr,[.d (.lst _ l)]=>(Q5q l).map fun ns=>(.d (.str (strB ns)),M)
 | .conv k,[.d (.int _ n)]=>some (.d (.int k (k.wrap n)),M)
 | .func f,caps=>some (.clo f caps,M)
 | .makes sz bytes z,[.d (.int .i64 l),.d (.int .i64 c)] =>
  if decide (0≤l)&&decide (l≤c)&&decide (c≤lim)&&decide (bytes≤128)&&z.length==sz&&decide (0<sz)&&(M κ).isNone
  then some (.sl sz κ 0 l.toNat c.toNat,M.put κ (.cells (rep c.toNat z))) else none
 | .slice sz lo hi,x::bs =>
  match (match lo,hi,bs with
   | false,false,[]=>some ((none:Option Int),(none:Option Int))
   | true,false,[.d (.int _ a)]=>some (some a,none)
   | false,true,[.d (.int _ b)]=>some (none,some b)
   | true,true,[.d (.int _ a),.d (.int _ b)]=>some (some a,some b)
   | _,_,_=>none) with
  | some (a,b) =>
   match x with
   | .d (.lst sz' l) | .own sz' l =>
    let h:=b.getD l.length;let a:=a.getD 0
    if sz'=sz&&decide (0≤a)&&decide (a≤h)&&decide (h≤l.length) then some (.d (.lst sz ((l.take h.toNat).drop a.toNat)),M) else none
   | .sl sz' k off len cap =>
    let h:=b.getD len;let a:=a.getD 0
    if sz'=sz&&decide (0≤a)&&decide (a≤h)&&decide (h≤len)&&decide (len≤cap) then some ((if cap=a.toNat then .sl sz k off 0 0 else .sl sz k (off+a.toNat*sz) (h.toNat-a.toNat) (cap-a.toNat)),M) else none
   | .nils sz'=>if sz'=sz&&decide (0≤a.getD 0)&&decide (a.getD 0≤b.getD 0)&&decide (b.getD 0≤0) then some (.nils sz,M) else none
   | _=>none
  | none=>none
 | .slcT sz,[x,.d (.int _ a)] =>
  match x with
  | .d (.lst sz' l)=>if sz'=sz&&decide (0≤a)&&decide (a≤l.length) then some (.d (.lst sz (l.drop a.toNat)),M) else none
  | .own sz' l | .ownT sz' l=>if sz'=sz&&decide (0≤a)&&decide (a≤l.length) then some (.ownT sz (l.drop a.toNat),M) else none
  | _=>none
 | .fld off,[.ptr k o]=>some (.ptr k (o+off),M)
 | .fld off,[.cref cs]=>some (.cref (cs.drop off),M)
 | .field agg off n,[.agg cs] =>
  if off+n≤cs.length then (if agg then some (.agg ((cs.drop off).take n),M) else (cs[off]?).map (·,M)) else none
 | .idx sz,[x,.d (.int _ i)] =>
  match x with
  | .d (.lst sz' l) | .own sz' l=>if sz'=sz&&decide (0≤i) then (l[i.toNat]?).map fun c=>(.cref c,M) else none
  | .sl sz' k off len _=>if sz'=sz&&decide (0≤i)&&decide (i<len) then some (.ptr k (off+i.toNat*sz),M) else none
  | _=>none
 | .idxarr sz len,[x,.d (.int _ i)] =>
  if decide (0≤i)&&decide (i<len) then
   match x with
   | .ptr k o=>some (.ptr k (o+i.toNat*sz),M)
   | .cref cs=>some (.cref (cs.drop (i.toNat*sz)),M)
   | _=>none
  else none
 | .idxval agg sz len,[.agg cs,.d (.int _ i)] =>
  if decide (0≤i)&&decide (i<len)&&cs.length==len*sz then
   (if agg then some (.agg ((cs.drop (i.toNat*sz)).take sz),M) else (cs[i.toNat*sz]?).map (·,M)) else none
 | .extract i,[.tup vs]=>(vs[i]?).map fun v=>(v.top,M)
 | .len,[x] =>
  match x with
  | .d (.lst _ l) | .own _ l=>some (.d (.int .i64 l.length),M)
  | .nils _=>some (.d (.int .i64 0),M)
  | .sl _ _ _ n _=>some (.d (.int .i64 n),M)
  | _=>none
 | .lenm,[.mp k]=>match M k with|some (.mp es _)=>some (.d (.int .i64 es.length),M)|_=>none
 | .lenm,[.d (.mp es _)]=>some (.d (.int .i64 es.length),M)
 | .lens,[.d (.str s)]=>some (.d (.int .i64 s.size),M)
 | .idxs,[.d (.str s),.d (.int _ i)]=>if hi:0≤i∧i<s.size then some (.d (.int .u8 (s[i.toNat]'(by omega)).toNat),M) else none
 | .append sz bytes,[.own sz' l,x] =>
  match Qf8 M sz x with
  | some ys=>if sz'=sz&&decide (l.length+ys.length≤lim)&&decide (bytes≤128)&&decide (0<sz) then some (.own sz (l++ys),M) else none
  | none=>none
 | .append sz bytes,[.ownT sz' l,x] =>
  match Qf8 M sz x with
  | some ys=>if sz'=sz&&decide (l.length+ys.length≤lim)&&decide (bytes≤128)&&decide (0<sz) then some (.ownT sz (l++ys),M) else none
  | none=>none
 | .append sz bytes,[.ownV sz' l,x] =>
  match Qf8 M sz x with
  | some ys=>if sz'=sz&&decide (l.length+ys.length≤lim)&&decide (bytes≤128)&&decide (0<sz)&&ys.all (fun y=>y.all D.scal) then some (.ownV sz (l++ys),M) else none
  | none=>none
 | .append sz bytes,[.nils sz',x] =>
  match Qf8 M sz x with
  | some ys=>if sz'=sz&&decide (ys.length≤lim)&&decide (bytes≤128)&&decide (0<sz) then some (.own sz ys,M) else none
  | none=>none
 | .append sz bytes,[.sl sz' k off len cap,x] =>
  match Qf8 M sz (.sl sz' k off len cap),Qf8 M sz x with
  | some l,some ys =>
   if ys.length=0 then (if len=0&&cap=0 then some (.own sz [],M) else if len≤cap then some (.sl sz' k off len cap,M) else none)
   else if decide (cap<len+ys.length)&&decide (l.length+ys.length≤lim)&&decide (bytes≤128)&&decide (0<sz) then some (.own sz (l++ys),M) else none
  | _,_=>none
 | .appw sz bytes,[.sl sz' k off len cap,x] =>
  match Qf8 M sz (.sl sz' k off len cap),Qf8 M sz x,M k with
  | some l,some ys,some (.cells cs) =>
   if ys.length=0 then (if len=0&&cap=0 then some (.own sz [],M) else if len≤cap then some (.sl sz' k off len cap,M) else none)
   else if len+ys.length≤cap then
    (if decide (0<sz)&&decide (off+(len+ys.length)*sz≤cs.length)&&ys.all (fun y=>y.length==sz) then
     some (.sl sz' k off (len+ys.length) cap,M.put k (.cells (cs.take (off+len*sz)++ys.flatten.map V.d++cs.drop (off+len*sz+ys.length*sz)))) else none)
   else if decide (cap<len+ys.length)&&decide (l.length+ys.length≤lim)&&decide (bytes≤128)&&decide (0<sz) then some (.own sz (l++ys),M) else none
  | _,_,_=>none
 | .appw sz bytes,[.nils sz',x] =>
  match Qf8 M sz x with
  | some ys=>if sz'=sz&&decide (ys.length≤lim)&&decide (bytes≤128)&&decide (0<sz) then some (.own sz ys,M) else none
  | none=>none
 | .mkmap,[]=>if (M κ).isNone then some (.mp κ,M.put κ (.mp [] 0)) else none
 | .mkmap,[.d (.int _ _)]=>if (M κ).isNone then some (.mp κ,M.put κ (.mp [] 0)) else none
 | .lookup kd c z,[.mp k,key] =>
  match M k with
  | some (.mp es _)=>if kd.ok key&&kd.all es then
    (match Qg1 key es with
     | some (_,v)=>if v.mv then some (if c then .tup [v.dem,.d (.bool true)] else v.dem,M) else none
     | none=>if z.dat then some (if c then .tup [z,.d (.bool false)] else z,M) else none) else none
  | _=>none
 | .lookup kd c z,[.d (.mp ents _),key] =>
  if kd.ok key&&kd.all (ents.map entV) then
    (match Qg1 key (ents.map entV) with
     | some (_,v)=>if v.dat&&(ents.map entV).all (fun e=>e.2.1.dat) then some (if c then .tup [v,.d (.bool true)] else v,M) else none
     | none=>if z.dat&&(ents.map entV).all (fun e=>e.2.1.dat) then some (if c then .tup [z,.d (.bool false)] else z,M) else none) else none
 | .lookupT kd z,[.mp k,key] =>
  match M k with
  | some (.mp es c)=>if kd.ok key&&kd.all es&&upM 0 es then
    (match Qg1 key es with
     | some (i,.own sz l)=>(es[i]?).map fun e=>(.own sz l,M.put k (.mp (modM e.1 (.d (.lst sz l)) i es) c))
     | some _=>none
     | none=>if z.dat then some (z,M) else none) else none
  | _=>none
 | .mapsetT kd,[.mp k,key,.own sz l] =>
  match M k with
  | some (.mp es c)=>if kd.ok key&&kd.all es then
    some (.und,M.put k (match Qg1 key es with
     | some (i,_)=>.mp (modM key (.own sz l) i es) c
     | none=>.mp (es++[(key,.own sz l,c)]) (c+1))) else none
  | _=>none
 | .mapset kd,[.mp k,key,v] =>
  match M k with
  | some (.mp es c)=>if kd.ok key&&kd.all es&&v.dat then
    some (.und,M.put k (match Qg1 key es with
     | some (i,_)=>.mp (modM key (Qv3 v) i es) c
     | none=>.mp (es++[(key,Qv3 v,c)]) (c+1))) else none
  | _=>none
 | .mapentry kd z,[.mp k,key] =>
  match M k with
  | some (.mp es c)=>if kd.ok key&&kd.all es&&z.dat then
    (match Qg1 key es with
     | some (i,v)=>if v.dat then (es[i]?).map fun e=>(.tup [v,.d (.int .i64 e.2.2)],M.put k (.mp (modM key v i es) c)) else none
     | none=>some (.tup [z,.d (.int .i64 c)],M.put k (.mp (es++[(key,z,c)]) (c+1)))) else none
  | _=>none
 | .entrystore,[.mp k,.d (.int .i64 b),v] =>
  match M k with
  | some (.mp es c)=>if v.dat then
    (match Q4n b es with
     | some i=>(es[i]?).map fun e=>(.und,M.put k (.mp (modM e.1 (Qv3 v) i es) c))
     | none=>none) else none
  | _=>none
 | .max2,[.d (.int k a),.d (.int k' b)]=>if k=k' then some (.d (.int k (if b>a then b else a)),M) else none
 | .min2,[.d (.int k a),.d (.int k' b)]=>if k=k' then some (.d (.int k (if b<a then b else a)),M) else none
 | _,_=>none
def Qb4 (k:K) (xs:List V):List V :=
 match k,xs with
 | .mov,[x]=>[x.dem]
 | .append ..,[s,x]=>[s.dem,x.dem]
 | .slcT _,[x,i]=>[x.dem,i]
 | .store _,[p,v]=>[p,v.dem]
 | .mapsetT _,[m,k,v]=>[m,k,v.dem]
 | .build ..,xs=>V.dems xs
 | .box _,[x]=>[x.dem]
 | .extract i,[.tup vs]=>[.tup (match vs[i]? with|some v=>vs.set i v.dem|none=>vs)]
 | _,xs=>xs
structure St where
 s:Sl
 M:Mem
 nb:Nat
def Arg.val (s:Sl):Arg→V
 | .t i=>s i
 | .c v=>v
def Arg.putTo (a:Arg) (s:Sl) (v:V):Sl :=
 match a with
 | .t i=>s.put i v
 | .c _=>s
def Qba (s:Sl):List Arg→List V→Sl
 | a::as,v::vs=>Qba (a.putTo s v) as vs
 | _,_=>s
def Qbd (s:Sl) (dst:Option Nat) (v:V):Sl :=
 match dst with
 | some t=>s.put t v
 | none=>s
def COp.xs (o:COp) (s:Sl):List V:=if o.tk then o.args.map (·.val s) else V.dems (o.args.map (·.val s))
def COp.wanted (o:COp) (s:Sl):Option Bool :=
 match o.guard with
 | none=>some true
 | some (t,want)=>match s t with
  | .d (.bool b)=>some (b==want)
  | .tup []=>some false
  | _=>none
abbrev Ctx:=FuncId→List V→Mem→Nat→V→Mem→Nat→Prop
def COp.step (o:COp) (n0:Nat) (σ:St):Option St :=
 let xs:=o.xs σ.s
 match Qm n0 (n0+o.dst.getD 0) o.kind xs σ.M with
 | some (v,M)=>some { s:=Qbd (if o.tk then Qba σ.s o.args (Qb4 o.kind xs) else σ.s) o.dst v,M,nb:=σ.nb }
 | none=>none
def COp.callee (o:COp) (s:Sl):Option (FuncId×List V) :=
 match o.kind with
 | .call f=>some (f,V.dems (o.args.map (·.val s)))
 | .callv=>match (o.args.map (·.val s):List V) with
  | V.clo f caps::rest=>some (f,V.dems rest++V.dems caps)
  | _=>none
 | _=>none
def K.isCall:K→Bool
 | .call _ | .callv=>true
 | _=>false
def K.isNil:K→Bool
 | .isnil _ | .callO ..=>true
 | _=>false
def K.negNil:K→Bool
 | .isnil b=>b
 | _=>false
def Q1y:List V→Option Nat
 | [.d (.lst _ l)]=>some l.length
 | [.own _ l]=>some l.length
 | [.nils _]=>some 0
 | [.sl ..]=>some 1
 | _=>none
def Arg.own (s:Sl):Arg→V
 | .t i=>(s i).top
 | .c v=>v.dem
def Qyj (s:Sl):Nat→List Arg→List V
 | _,[]=>[]
 | 0,a::as=>a.own s::V.dems (as.map (·.val s))
 | i+1,a::as=>(a.val s).dem::Qyj s i as
def Qtz:Nat→List Arg→Option Nat
 | _,[]=>none
 | 0,.t t::_=>some t
 | 0,.c _::_=>none
 | i+1,_::as=>Qtz i as
def Qt0 (s:Sl):Option Nat→Sl
 | some t=>s.put t (s t).dem
 | none=>s
def wrs (m:Nat):Option Nat→Bool
 | some d=>m.testBit d
 | none=>false
def COp.runN (C:Ctx) (n0:Nat) (pc:Nat) (o:COp) (σ:St) (Q:St→Prop):Prop :=
 match o.kind with
 | .callO f i=>pc=0∧∃ r M nb,C f (Qyj σ.s i o.args) σ.M σ.nb r M nb∧(∀ k,(σ.M k).isSome=true→(M k).isSome=true)∧(∀ k cs,k<n0→M k=some (.cells cs)→M k=σ.M k∨V.lt.go n0 cs=true) ∧
   Q { s:=Qbd (Qt0 σ.s (Qtz i o.args)) o.dst r,M,nb }
 | _=>match Q1y (o.xs σ.s) with
  | some n=>∀ b:Bool,(b=true→n=0)→Q { σ with s:=Qbd σ.s o.dst (.d (.bool (if o.kind.negNil then !b else b))) }
  | none=>False
def COp.run (C:Ctx) (n0:Nat) (pc:Nat) (o:COp) (σ:St) (Q:St→Prop):Prop :=
 match o.wanted σ.s with
 | some true =>
  if o.kind.isCall then
   match o.callee σ.s with
   | some (f,args) =>
    match pc with
    | 0=>∃ r M nb,C f args σ.M σ.nb r M nb∧(∀ k,(σ.M k).isSome=true→(M k).isSome=true)∧(∀ k cs,k<n0→M k=some (.cells cs)→M k=σ.M k∨V.lt.go n0 cs=true)∧Q { s:=Qbd σ.s o.dst r,M,nb }
    | 1=>∃ r Δ nb,(∀ M,(∀ k,(σ.M k).isSome=true→M k=σ.M k)→(∀ k,σ.nb≤k→M k=none)→C f args M σ.nb r (M.over σ.nb Δ) nb)∧Q { s:=Qbd σ.s o.dst r,M:=σ.M.over σ.nb Δ,nb }
    | n+2=>if n<8 then ∃ r,(∀ M nb,C f args M nb r M nb)∧Q { s:=Qbd σ.s o.dst r,M:=σ.M,nb:=σ.nb }
     else ∃ r W Δ nb,(wrs (n-8) o.dst=true∨∀ k,W k=none)∧(∀ k,(W k).isSome=true→(σ.M k).isSome=true)∧(∀ k cs,k<n0→W k=some (.cells cs)→V.lt.go n0 cs=true) ∧
      (∀ M,(∀ k,(σ.M k).isSome=true→M k=σ.M k)→(∀ k,σ.nb≤k→M k=none)→C f args M σ.nb r ((M.patch W).over σ.nb Δ) nb)∧Q { s:=Qbd σ.s o.dst r,M:=(σ.M.patch W).over σ.nb Δ,nb }
   | none=>False
  else if o.kind.isNil then o.runN C n0 pc σ Q
  else
   match o.step n0 σ with
   | some σ'=>Q σ'
   | none=>False
 | some false=>Q { σ with s:=Qbd σ.s o.dst (.tup []) }
 | none=>False
def Q5r (C:Ctx) (n0:Nat) (pc:Nat):List COp→St→(St→Prop)→Prop
 | [],σ,Q=>Q σ
 | o::os,σ,Q=>o.run C n0 pc σ fun σ'=>Q5r C n0 pc os σ' Q
def Qkv (x:V) (n:Nat) (y:V) (m:Nat):Bool :=
 match x,y with
 | .ptr k o,.ptr k' o'=>decide (k≠k')||decide (o+n≤o')||decide (o'+m≤o)
 | .ptr k _,.sl _ k' _ _ _=>decide (k≠k')
 | .sl _ k' _ _ _,.ptr k _=>decide (k≠k')
 | .cref _,_|_,.cref _ | .d _,_|_,.d _ | .own _ _,_|_,.own _ _ | .ownT _ _,_|_,.ownT _ _ | .nils _,_ | .tup _,_|_,.tup _=>true
 | _,_=>false
inductive Ex where
 | norm
 | exit (id:Nat)
 | ret
def Qdl (P:Nat→Bool):V→V
 | .ptr k o=>if P k then .und else .ptr k o
 | .sl sz k o n c=>if P k then .und else .sl sz k o n c
 | .mp k=>if P k then .und else .mp k
 | .agg cs=>.agg (go cs)
 | .tup vs=>.tup (go vs)
 | .clo f cs=>.clo f (go cs)
 | v=>v
where go:List V→List V
 | []=>[]
 | v::vs=>Qdl P v::go vs
def Qjq (n0:Nat) (sites:List Nat) (k:Nat):Bool:=sites.any fun t=>k==n0+t
def Ql2 (n0:Nat) (sites:List Nat) (σ:St):St :=
 {
  s:=fun t=>Qdl (Qjq n0 sites) (σ.s t)
  M:=fun k=>if Qjq n0 sites k then none else if k<n0 then σ.M k else
   match σ.M k with
   | some (.cells cs)=>some (.cells (cs.map (Qdl (Qjq n0 sites))))
   | b=>b
  nb:=σ.nb }
inductive Res where
 | t (i:Nat)
 | cell (p:Nat) (agg:Bool) (n:Nat)
def Res.val (σ:St):Res→Option V
 | .t i=>some (σ.s i)
 | .cell p agg n=>(Qm 0 0 (.load agg n) [σ.s p] σ.M).map (·.1)
def Qn4 (σ:St):List Res→Option V
 | [r]=>r.val σ
 | rs=>(rs.mapM (Res.val σ)).map .tup
def Qpi (rs:List Res):List Nat:=rs.filterMap fun r=>match r with | .t i=>some i | .cell ..=>none
structure CFn where
 np:Nat
 nt:Nat
 res:List Res
 body:CC
def Qkb (args:List V):Sl:=fun t=>args.getD t .und
end Go.Abs
end
section
namespace Go.Abs
def Q73 (P:Program) (ty:TypeId):Value→Option V
 | .int k n=>some (.d (.int k n))
 | .bool b=>some (.d (.bool b))
 | .string s=>some (.d (.str s))
 | .pointer none=>some .nilp
 | .nilFunc | .nilIface | .map none=>some .und
 | .slice none 0 0=>match P.underlying ty with
  | some (.slice e)=>some (.nils (P.cellsOf e))
  | _=>none
 | _=>none
def Qe1 (P:Program) (ty:TypeId):Operand→Option Arg
 | .tmp t=>some (.t t)
 | .const v=>(Q73 P ty v).map .c
 | .func f=>some (.c (.clo f []))
 | _=>none
def Q4o:Value→Option V
 | .int k n=>some (.d (.int k n))
 | .bool b=>some (.d (.bool b))
 | .string s=>some (.d (.str s))
 | .pointer none=>some .nilp
 | .agg _ | .tuple _=>none
 | _=>some .und
def Q0a (P:Program):Nat→TypeId→Option (List (Option Nat))
 | 0,_=>none
 | d+1,t=>match P.underlying t with
  | some (.struct fs)=>fs.toList.foldl (fun acc f=>match acc,Q0a P d f.type with|some a,some b=>some (a++b)|_,_=>none) (some [])
  | some (.array n e)=>(Q0a P d e).map fun l=>(List.replicate n l).flatten
  | some (.slice e)=>some [some (P.cellsOf e)]
  | some _=>some [none]
  | none=>none
def Qnx:List (Option Nat)→List Value→Option (List V)
 | [],[]=>some []
 | some n::ss,.slice none 0 0::vs=>(Qnx ss vs).map (.nils n :: ·)
 | none::ss,v::vs=>match Q4o v,Qnx ss vs with
  | some x,some xs=>some (x::xs)
  | _,_=>none
 | _,_=>none
def Qrf (P:Program) (t:TypeId):Option (List V) :=
 match Q0a P 12 t,(P.info? t).bind (·.zero) with
 | some ss,some z=>Qnx ss z.cells.toList
 | _,_=>none
def Qgp (P:Program) (t:TypeId):Bool :=
 match P.underlying t with
 | some (.struct _)|some (.array _ _)=>true
 | _=>false
def Qt1 (P:Program) (t:TypeId):Bool :=
 match P.underlying t with
 | some (.slice _)=>true
 | _=>false
def Qbek (P:Program) (t:TypeId):Bool :=
 match P.underlying t with
 | some (.slice _)=>true
 | some (.struct fs)=>fs.any fun f=>Qt1 P f.type
 | _=>false
def Qbdz (P:Program) (t:TypeId):Bool :=
 match P.underlying t with
 | some (.slice _)|some (.tuple _)=>true
 | _=>false
def Qhz (P:Program) (t:TypeId):Option Nat :=
 match P.underlying t with
 | some (.int _)=>some 0
 | some .bool=>some 1
 | some .string=>some 2
 | _=>none
def Qgl (P:Program):Nat→List Field→Option (List Nat)
 | _,[]=>some []
 | i, f :: fs => if f.offset = i ∧ f.name ≠ "_" then
   match Qhz P f.type,Qgl P (i+1) fs with
   | some k,some ks=>some (k::ks)
   | _,_=>none
  else none
def Qle (P:Program) (t:TypeId):Option (List Nat) :=
 match P.underlying t with
 | some (.struct fs)=>if P.stoodInHeld t=false∧P.eqGuardType P.depth t=false then Qgl P 0 fs.toList else none
 | some (.array n e)=>if (P.info? e).isSome=true∧P.cellsOf e=1∧P.eqGuardType P.depth t=false then (Qhz P e).map fun k=>List.replicate n k else none
 | _=>none
def Qek (P:Program) (ctx:Nat→TypeId):Nat→List Operand→Option (List Arg)
 | _,[]=>some []
 | i,x::xs=>match Qe1 P (ctx i) x,Qek P ctx (i+1) xs with
  | some a,some as=>some (a::as)
  | _,_=>none
def Q02 (P:Program) (fs:Array Field) (parts:List Nat):Option (List (Nat×Nat)) :=
 parts.mapM fun i=>(fs[i]?).map fun f=>(f.offset,P.cellsOf f.type)
def Q3f:Operand→Bool
 | .tmp _=>true
 | _=>false
def Qk9 (P:Program) (t:TypeId):Option CK :=
 match P.underlying t with
 | some (.int k)=>some (.int k)
 | some .string=>some .str
 | some .bool=>some .bool
 | _=>none
def Qjr (P:Program):Nat→List Field→Option (List CK)
 | _,[]=>some []
 | i, f :: fs => if f.offset = i ∧ f.name ≠ "_" then
   match Qk9 P f.type with
   | some c=>(Qjr P (i+1) fs).map (c :: ·)
   | none=>match P.underlying f.type with
    | some (.struct gs)=>if P.stoodInHeld f.type=false∧P.cellsOf f.type=gs.size then
      match gs.toList.mapM fun h=>Qk9 P h.type,Qgl P 0 gs.toList,Qjr P (i+gs.size) fs with
      | some ks,some _,some r=>some (ks++r)
      | _,_,_=>none
     else none
    | _=>none
  else none
def Q4p (P:Program) (t:TypeId):Option MK :=
 match P.underlying t with
 | some (.int k)=>some (.int k)
 | some .string=>some .str
 | some .bool=>some .bool
 | some (.struct fs)=>if (Qle P t).isSome then (fs.toList.mapM fun f=>Qk9 P f.type).map .st else if P.stoodInHeld t=false then (Qjr P 0 fs.toList).map .st else none
 | some (.array n e)=>if (Qle P t).isSome then (Qk9 P e).map fun c=>.st (List.replicate n c) else none
 | _=>none
def Q74 (P:Program) (t:TypeId):Option V :=
 match Qrf P t,(P.info? t).bind (·.zero) with
 | some cs,some (.agg _)=>some (.agg (cs.map Qv3))
 | some [c],some _=>some (Qv3 c)
 | _,_=>none
def Q9y (P:Program) (t:TypeId):Option V :=
 match P.underlying t with
 | some (.map _ e)=>match Qrf P e,(P.info? e).bind (·.zero) with
  | some _,some (.agg _)=>none
  | some [.nils sz],some _=>some (.nils sz)
  | _,_=>none
 | _=>none
def Q9z (P:Program) (t:TypeId):Bool :=
 match P.underlying t with
 | some (.func ..)=>true
 | _=>false
def Qla (P:Program) (t:TypeId):Option (TypeId×MK×V) :=
 match P.underlying t with
 | some (.map k e)=>match Q4p P k,Q74 P e with
  | some kd,some z=>if (P.underlying e).isSome&&(z.dat||Q9z P e) then some (k,kd,z) else none
  | _,_=>none
 | _=>none
structure Tk where
 inp:List Nat
 app:List Nat
 all:List Nat
 slf:List Nat
 lit:List Nat
 mpt:List Nat
 co:List Nat
 dl:List Nat
def tmpO:Operand→Option Nat
 | .tmp t=>some t
 | _=>none
def inL (l:List Nat):Option Nat→Bool
 | some d=>l.contains d
 | none=>false
def Qp2 (P:Program) (e:TypeId) (n:Nat) (ps:List (Nat×Operand)):Option (K×List Arg×Bool) :=
 match Qrf P e,n,ps with
 | some [_],1,[(0,.const u)]=>match Q73 P e u with
  | some (.d x)=>if P.cellsOf e=1 then some (.append 1 (P.bytesOf e),[.c (.nils 1),.c (.d (.lst 1 [[x]]))],true) else none
  | _=>none
 | _,_,_=>none
def Qbd0 (P:Program) (f:FuncId):Option Nat :=
 match P.funcs[f]? with
 | some fn => if fn.name == "overseer/minimal.appendInt" then some 0 else if fn.name == "(overseer/reach.graph).finish" then some 3 else none
 | none=>none
def nodA:List Arg→Bool
 | []=>true
 | .t i::as=>(as.all fun b=>match b with | .t j=>!Nat.beq i j | .c _=>true)&&nodA as
 | .c _::as=>nodA as
def Qe2 (P:Program) (T:Tk) (o:Oper):Option (K×List Arg×Bool) :=
 match o.op with
 | .move x=>(Qe1 P o.type x).map fun a=>(.mov,[a],(Q3f x&&Qbdz P o.type&&inL T.all o.dst)||(!Q3f x&&Qt1 P o.type))
 | .assign x=>(Qe1 P o.type x).map fun a=>(.mov,[a],(Q3f x&&Qbdz P o.type)||(!Q3f x&&Qt1 P o.type))
 | .pick c a b=>(Qek P (fun _=>o.type) 0 [c,a,b]).map fun as=>(.pick,as,false)
 | .alloc e=>(Qrf P e).map fun z=>(.alloc z,[],false)
 | .box e x=>(Qe1 P e x).map fun a=>(.box (P.cellsOf e),[a],false)
 | .build t ps=>match P.underlying t,Qrf P t with
  | some (.struct fs),some z=>if fs.toList.all (fun f=>(P.info? f.type).isSome) then match Q02 P fs (ps.toList.map (·.1)),Qek P (fun i=>((ps[i]?).bind fun p=>(fs[p.1]?).map (·.type)).getD 0) 0 (ps.toList.map (·.2)) with
   | some pl,some as=>some (.build z pl,as,o.dst.isSome&&nodA as&&ps.any fun p=>Q3f p.2&&(fs[p.1]?).any fun f=>Qt1 P f.type)
   | _,_=>none else none
  | some (.array _ e),some z=>if (P.info? e).isNone then none else (Qek P (fun _=>e) 0 (ps.toList.map (·.2))).map fun as=>(.build z (ps.toList.map fun p=>(p.1*P.cellsOf e,P.cellsOf e)),as,false)
  | _,_=>none
 | .buildSlice t n ps=>match P.underlying t with
  | some (.slice e)=>if inL T.lit o.dst&&(Qp2 P e n ps.toList).isSome then Qp2 P e n ps.toList else if inL T.dl o.dst then (match Qrf P e,Qek P (fun _=>e) 0 (ps.toList.map (·.2)) with
   | some z,some as=>if n*P.cellsOf e≤65536 then some (.blit (P.cellsOf e) n z (ps.toList.map (·.1)),as,false) else none
   | _,_=>none) else match Qrf P e,Qek P (fun _=>e) 0 (ps.toList.map (·.2)) with
   | some z,some as=>if n*P.cellsOf e≤65536 then some (.bslice (P.cellsOf e) n z (ps.toList.map (·.1)),as,false) else none
   | _,_=>none
  | _=>none
 | .load t a=>match Qe1 P 0 a with
  | some x=>if Qt1 P t&&inL T.app o.dst then some (.loadT,[x],false) else if (P.underlying t).isSome then some (.load (Qgp P t) (P.cellsOf t),[x],false) else none
  | none=>none
 | .store t a x=>match Qe1 P 0 a,Qe1 P t x with
  | some p,some v=>if (P.underlying t).isSome&&o.dst.isNone then some (.store (P.cellsOf t),[p,v],Q3f x&&Qbek P t) else none
  | _,_=>none
 | .nilCheck x=>(Qe1 P 0 x).map fun a=>(.nilchk,[a],false)
 | .binOp op xt x y _=>match Qe1 P xt x,Qe1 P xt y with
  | some a,some b=>match P.underlying xt with
   | some (.slice _)=>match op,y with
    | .eql,.const (.slice none 0 0)=>some (.isnil false,[a],false)
    | .neq,.const (.slice none 0 0)=>some (.isnil true,[a],false)
    | _,_=>none
   | some (.pointer _)=>match op,y with
    | .eql,.const (.pointer none)=>some (.pnil false,[a],false)
    | .neq,.const (.pointer none)=>some (.pnil true,[a],false)
    | _,_=>none
   | some (.int _)|some .string=>some (.bin op false,[a,b],false)
   | some .bool=>some (.bin op true,[a,b],false)
   | some (.struct _)=>match op with
    | .eql=>(Qle P xt).map fun ks=>(.eqa false ks,[a,b],false)
    | .neq=>(Qle P xt).map fun ks=>(.eqa true ks,[a,b],false)
    | _=>none
   | some (.array _ _)=>match op with
    | .eql=>(Qle P xt).map fun ks=>(.eqa false ks,[a,b],false)
    | .neq=>(Qle P xt).map fun ks=>(.eqa true ks,[a,b],false)
    | _=>none
   | _=>none
  | _,_=>none
 | .unOp op _ x=>(Qe1 P 0 x).map fun a=>(.un op,[a],false)
 | .convert s d x=>(Qe1 P s x).bind fun a=>match P.underlying s,P.underlying d with
  | some (.int _),some (.int k)=>some (.conv k,[a],false)
  | some (.slice e),some .string=>match P.underlying e with
   | some (.int .u8)=>some (.bstr,[a],false)
   | _=>none
  | _,_=>none
 | .makeFunc (.func f) first cap=>if first.size=0 then (Qek P (fun _=>0) 0 cap.toList).map fun as=>(.func f,as,false) else none
 | .makeSlice t l c=>match P.underlying t with
  | some (.slice e)=>match Qrf P e,Qek P (fun _=>0) 0 [l,c] with
   | some z,some as=>some (.makes (P.cellsOf e) (P.bytesOf e) z,as,false)
   | _,_=>none
  | _=>none
 | .slice t x lo hi none=>match P.underlying t with
  | some (.slice e)=>if P.cellsOf e=0 then none else if inL T.slf o.dst&&Q3f x&&lo.isSome&&hi.isNone then (Qek P (fun _=>t) 0 ([x]++lo.toList)).map fun as=>(.slcT (P.cellsOf e),as,true) else match Qek P (fun _=>t) 0 ([x]++lo.toList++hi.toList) with
   | some as=>some (.slice (P.cellsOf e) lo.isSome hi.isSome,as,false)
   | none=>none
  | _=>none
 | .fieldAddr s x f=>match P.underlying s with
  | some (.struct fs)=>match fs[f]?,Qe1 P 0 x with
   | some fd,some a=>if P.cellsOf fd.type=0 then none else some (.fld fd.offset,[a],false)
   | _,_=>none
  | _=>none
 | .field t x f=>match P.underlying t with
  | some (.struct fs)=>match fs[f]?,Qe1 P t x with
   | some fd,some a=>if (P.underlying fd.type).isSome then some (.field (Qgp P fd.type) fd.offset (P.cellsOf fd.type),[a],false) else none
   | _,_=>none
  | _=>none
 | .indexAddr t x i=>match P.underlying t with
  | some (.slice e)=>(Qek P (fun j=>if j=0 then t else 0) 0 [x,i]).bind fun as=>if P.cellsOf e=0 then none else some (.idx (P.cellsOf e),as,false)
  | some (.array n e)=>(Qek P (fun _=>0) 0 [x,i]).bind fun as=>if P.cellsOf e=0 then none else some (.idxarr (P.cellsOf e) n,as,false)
  | _=>none
 | .index t x i=>match P.underlying t with
  | some (.array n e)=>if (P.underlying e).isNone then none else (Qek P (fun j=>if j=0 then t else 0) 0 [x,i]).map fun as=>(.idxval (Qgp P e) (P.cellsOf e) n,as,false)
  | some .string=>(Qek P (fun j=>if j=0 then t else 0) 0 [x,i]).map fun as=>(.idxs,as,false)
  | _=>none
 | .extract x i=>(Qe1 P 0 x).map fun a=>(.extract i,[a],Q3f x&&Qt1 P o.type&&o.dst.isSome)
 | .makeMap t r=>match P.underlying t with
  | some (.map _ _)=>(Qek P (fun _=>0) 0 r.toList).map fun as=>(.mkmap,as,false)
  | _=>none
 | .lookup t x i c=>match Qla P t with
  | some (k,kd,z)=>(Qek P (fun j=>if j=0 then t else k) 0 [x,i]).map fun as=>(match Q9y P t with|some zn=>if !c&&inL T.mpt o.dst then .lookupT kd zn else .lookup kd c z|none=>.lookup kd c z,as,false)
  | none=>none
 | .mapUpdate t m k x | .insert t m k x=>match Qla P t,P.underlying t with
  | some (kt,kd,_),some (.map _ e)=>if o.dst.isNone then (Qek P (fun j=>if j=0 then t else if j=1 then kt else e) 0 [m,k,x]).map fun as=>(if inL T.mpt (tmpO x) then (.mapsetT kd,as,true) else (.mapset kd,as,false)) else none
  | _,_=>none
 | .mapEntry t m k=>match Qla P t with
  | some (kt,kd,z)=>(Qek P (fun j=>if j=0 then t else kt) 0 [m,k]).map fun as=>(.mapentry kd z,as,false)
  | none=>none
 | .entryStore t m s x=>match Qla P t,P.underlying t with
  | some _,some (.map _ e)=>if o.dst.isNone then (Qek P (fun j=>if j=0 then t else if j=1 then 0 else e) 0 [m,s,x]).map fun as=>(.entrystore,as,false) else none
  | _,_=>none
 | .call c=>match c.callee with
  | .builtin .len=>if c.args.size=1∧c.argTypes.size=1 then (Qek P (fun i=>c.argTypes.getD i 0) 0 c.args.toList).bind fun as=>match P.underlying (c.argTypes.getD 0 0) with
   | some (.slice _)=>some (.len,as,false)
   | some (.map _ _)=>some (.lenm,as,false)
   | some .string=>some (.lens,as,false)
   | _=>none else none
  | .builtin .append=>match P.underlying (c.argTypes.getD 0 0),P.underlying (c.argTypes.getD 1 0),c.args.size with
   | some (.slice e),some (.slice _),2=>if c.argTypes = #[c.argTypes.getD 0 0,c.argTypes.getD 0 0] then (match Qrf P e,Qek P (fun i=>c.argTypes.getD i 0) 0 c.args.toList with
    | some z,some (.t i::as)=>if z.length=P.cellsOf e then (if T.inp.contains i then some (.appw (P.cellsOf e) (P.bytesOf e),.t i::as,false) else some (.append (P.cellsOf e) (P.bytesOf e),.t i::as,true)) else none
    | _,_=>none) else none
   | _,_,_=>none
  | .builtin .max=>if c.args.size=2 then (Qek P (fun i=>c.argTypes.getD i 0) 0 c.args.toList).map fun as=>(.max2,as,false) else none
  | .builtin .min=>if c.args.size=2 then (Qek P (fun i=>c.argTypes.getD i 0) 0 c.args.toList).map fun as=>(.min2,as,false) else none
  | .value (.func f) => if (P.funcs[f]?).any (fun fn => fn.body.isSome && fn.name != "runtime.NumGoroutine") then (Qek P (fun i => c.argTypes.getD i 0) 0 c.args.toList).map fun as => (if inL T.co o.dst then .callO f ((Qbd0 P f).getD 0) else .call f, as, false) else none
  | .value (.tmp t)=>(Qek P (fun i=>c.argTypes.getD i 0) 0 c.args.toList).map fun as=>(.callv,.t t::as,false)
  | _=>none
 | _=>none
def Q7d (nt:Nat):Option Nat→Bool
 | some d=>decide (d<nt)
 | none=>true
def Qbfw (nt:Nat):Arg→Bool
 | .t i=>decide (i<nt)
 | .c v=>v.lt 0
def Qiz (P:Program) (T:Tk) (nt:Nat) (ops:Array Oper) (o:Oper):Option COp :=
 match Qe2 P T o with
 | some (k,as,tk) =>
  if decide (0<nt)&&Q7d nt o.dst&&as.all (Qbfw nt) then
   match o.guard with
   | none=>some { dst:=o.dst,kind:=k,args:=as,tk,guard:=none }
   | some (j,want)=>match (ops[j]?).bind (·.dst) with
    | some t=>some { dst:=o.dst,kind:=k,args:=as,tk,guard:=some (t,want) }
    | none=>none
  else none
 | none=>none
def Q1m (e:Edge):Bool :=
 match e.ground with
 | .textOnly _ | .gcOnly _=>false
 | _=>true
def Qu6 (o:Oper):List Nat:=(o.after.toList.filter Q1m).map (·.on)
def ancs (ops:List Oper):List Nat :=
 ops.foldl (fun acc o=>acc++[(Qu6 o).foldl (fun l e=>l ||| 2 ^ e ||| acc.getD e 0) 0]) []
inductive Eff where
 | pure|read|alloc|take|write|call|callw|gen|other|takem|appw
 deriving DecidableEq
def K.eff:K→Eff
 | .mov | .pick | .build .. | .nilchk | .bin .. | .eqa .. | .un _ | .conv _ | .bstr | .pnil _ | .blit .. | .func _ | .slice .. | .slcT _ | .fld _ | .field .. | .idx _ | .idxarr .. | .idxval .. | .extract _ | .max2 | .min2 | .lens | .idxs=>.pure
 | .load .. | .len | .append .. | .lookup .. | .lenm=>.read
 | .box _ | .alloc _ | .bslice .. | .makes .. | .mkmap=>.alloc
 | .loadT=>.take
 | .appw ..=>.appw
 | .lookupT ..=>.takem
 | .store _=>.write
 | .call _ | .callv=>.call
 | .isnil _ | .callO .. | .mapset _ | .mapsetT _ | .mapentry .. | .entrystore=>.other
def Arg.slot:Arg→List Nat
 | .t i=>[i]
 | .c _=>[]
def COp.argSlots (o:COp):List Nat:=o.args.flatMap Arg.slot
def COp.reads (o:COp):List Nat:=o.argSlots++(match o.guard with|some (t,_)=>[t]|none=>[])
def COp.soft (o:COp):List Nat:=if o.tk then o.argSlots else []
def Q03 (a b:List Nat):Bool:=a.all fun x=>!b.contains x
def COp.slotsApart (a b:COp):Bool :=
 Q03 a.dst.toList b.reads&&Q03 a.dst.toList b.dst.toList&&Q03 b.dst.toList a.reads &&
 (!a.tk || !b.tk||Q03 a.soft b.soft) &&
 (!a.tk||Q03 a.soft (match b.guard with|some (t,_)=>[t]|none=>[]))&&(!b.tk||Q03 b.soft (match a.guard with|some (t,_)=>[t]|none=>[]))
def COp.place (o:COp):Option (Nat×Nat) :=
 match o.kind,o.args with
 | .load _ n,[.t p]=>some (p,max n 1)
 | .loadT,[.t p]=>some (p,1)
 | .store n,[.t p,_]=>some (p,n)
 | _,_=>none
def COp.eff (pc:Nat) (o:COp):Eff :=
 match o.kind.eff with
 | .call=>if 10≤pc then (if wrs (pc-10) o.dst=true then .callw else .call) else if 2≤pc then .pure else if pc=1 then .call else .gen
 | .alloc=>if o.dst.isSome then .alloc else .other
 | e=>e
def Qp3 (pc:Nat) (a b:COp):Option (List Pair) :=
 if a.slotsApart b then
  match a.eff pc,b.eff pc with
  | .pure,.appw | .appw,.pure | .pure,.pure | .pure,.read | .pure,.alloc | .pure,.take | .pure,.takem | .takem,.pure | .pure,.write | .pure,.call | .pure,.gen=>some []
  | .read,.pure | .alloc,.pure | .take,.pure | .write,.pure | .call,.pure | .gen,.pure | .pure,.callw | .callw,.pure=>some []
  | .read,.read | .read,.alloc | .alloc,.read | .alloc,.alloc | .take,.alloc | .alloc,.take | .take,.read | .read,.take | .read,.takem | .takem,.read | .alloc,.takem | .takem,.alloc=>some []
  | .call,.alloc | .call,.read | .read,.call | .callw,.alloc=>some []
  | .read,.write | .take,.take =>
   match a.place,b.place with
   | some (p,n),some (q,m)=>some [⟨p,n,q,m⟩]
   | _,_=>none
  | .appw,.read | .appw,.write =>
   match a.args,b.place with
   | [.t q,.t x],some (p,m)=>some [⟨q,0,p,m⟩,⟨x,0,p,m⟩]
   | _,_=>none
  | _,_=>none
 else none
def enum {α:Type} (l:List α):List (Nat×α):=(List.range l.length).zip l
def Qxh (ops:List COp) (i:Nat) (an:Nat) (p:Pair):Bool :=
 (enum ops).all fun (k,c)=>decide (k<i)||(!(c.dst==some p.a)&&(!(c.dst==some p.b)||an.testBit k))
def Qt2 (pc:Nat) (an:List Nat) (ops:List COp):Option (List Pair) :=
 (enum ops).foldl (fun acc (i,a) =>
  (enum ops).foldl (fun acc (j,b) =>
   match acc with
   | none=>none
   | some l=>if decide (i<j) && !(an.getD j 0).testBit i then
     match Qp3 pc a b with
     | some m=>if m.all (Qxh ops i (an.getD j 0)) then some (l++m) else none
     | none=>none
    else some l) acc) (some [])
def Q90 (ops:List Oper):Bool:=(enum ops).all fun (i,o)=>(Qu6 o).all fun e=>decide (e<i)
def Q91 (an:List Nat) (cs:List COp):Nat:=cs.foldl (fun m c=>match c.dst with
 | some d=>if c.kind.isCall&&(Qt2 (10+2 ^ d) an cs).isSome then m+2 ^ d else m
 | none=>m) 0
def Qlp (P:Program) (T:Tk) (nt:Nat) (ops:Array Oper) (draw:Bool):Option CC :=
 match ops.toList.mapM (Qiz P T nt ops) with
 | some cs =>
  if draw then if !Q90 ops.toList || !P.follows .mixedOrders||cs.any (fun c=>c.kind.isNil) then none else
   match Qt2 0 (ancs ops.toList) cs with
   | some ps=>some (.region cs 0 ps)
   | none=>match (if Q91 (ancs ops.toList) cs=0 then none else Qt2 (10+Q91 (ancs ops.toList) cs) (ancs ops.toList) cs) with
    | some ps=>some (.region cs (10+Q91 (ancs ops.toList) cs) ps)
    | none=>match Qt2 1 (ancs ops.toList) cs with
     | some ps=>some (.region cs 1 ps)
     | none=>match Qt2 2 (ancs ops.toList) cs with
      | some ps=>some (.region cs 2 ps)
      | none=>none
  else some (.region cs 9 [])
 | none=>none
def Q0b:Code→List Nat
 | .region _ ops _=>ops.toList.filterMap fun o=>match o.op with
  | .box .. | .alloc _ | .buildSlice .. | .makeSlice .. | .makeMap ..=>o.dst
  | _=>none
 | .seq a b=>Q0b a++Q0b b
 | .cond _ a b=>Q0b a++Q0b b
 | .block _ c | .loop c | .scope c=>Q0b c
 | _=>[]
def Q9a:Code→List Oper
 | .region _ ops _=>ops.toList
 | .seq a b=>Q9a a++Q9a b
 | .cond _ a b=>Q9a a++Q9a b
 | .block _ c | .loop c | .scope c=>Q9a c
 | _=>[]
def Q9b:Operand→List Nat
 | .tmp t=>[t]
 | _=>[]
def Q3m:Code→List Nat
 | .region _ ops draw=>if draw then ops.toList.filterMap fun o=>match o.op with
  | .buildSlice _ 1 ps=>match ps.toList with
   | [(0,.const _)]=>o.dst
   | _=>none
  | _=>none else []
 | .seq a b=>Q3m a++Q3m b
 | .cond _ a b=>Q3m a++Q3m b
 | .block _ c | .loop c | .scope c=>Q3m c
 | _=>[]
def Q0c:Code→List Nat
 | .region _ ops draw=>if draw then ops.toList.filterMap fun o=>match o.op,o.dst with
  | .buildSlice ..,some d=>if ops.toList.any fun u=>match u.op with
    | .call { callee:=.value _,args,.. }=>args.toList.any fun x=>match x with
     | .tmp t=>t==d
     | _=>false
    | _=>false
   then some d else none
  | _,_=>none else []
 | .seq a b=>Q0c a++Q0c b
 | .cond _ a b=>Q0c a++Q0c b
 | .block _ c | .loop c | .scope c=>Q0c c
 | _=>[]
def Q92 (P:Program) (c:Code):Tk :=
 let os:=Q9a c;let own:=os.flatMap fun o=>match o.op,o.dst with
  | .call { callee:=.value (.func f),args,.. },some d=>match Qbd0 P f with
   | some i=>((args.toList.drop i).take 1).flatMap fun x=>match x with
    | .tmp t=>[(d,t)]
    | _=>[]
   | none=>[]
  | _,_=>[]
 let app:=os.flatMap fun o=>match o.op with
  | .call { callee:=.builtin .append,args,.. }=>(args.toList.take 1).flatMap Q9b
  | _=>[]
 let slf:=os.filterMap fun o=>match o.op,o.dst with
  | .slice _ (.tmp t) (some _) none none,some d =>
   if os.any fun a=>match a.op,a.dst with
    | .assign (.tmp d'),some v=>d'==d&&(v==t||os.any fun m=>match m.op,m.dst with | .move (.tmp v'),some t'=>v'==v&&t'==t|_,_=>false)
    | _,_=>false
   then some (d,t) else none
  | _,_=>none
 let mpt:=os.flatMap fun o=>match o.op,o.dst with
  | .call { callee:=.builtin .append,args,.. },some t =>
   match (args.toList.take 1).flatMap Q9b with
   | [d]=>if (os.any fun l=>match l.op,l.dst with | .lookup _ _ _ false,some d'=>d'==d|_,_=>false)&&(os.any fun u=>match u.op with | .mapUpdate _ _ _ (.tmp t') | .insert _ _ _ (.tmp t')=>t'==t|_=>false) then [d,t] else []
   | _=>[]
  | _,_=>[]
 let inp:=os.flatMap fun o=>match o.op with
  | .call { callee:=.builtin .append,args,.. }=>((args.toList.take 1).flatMap Q9b).filter fun d=>os.any fun l=>match l.op,l.dst with
   | .slice _ (.tmp _) none (some _) none,some d'=>d'==d
   | _,_=>false
  | _=>[]
 { inp,app:=app++own.map (·.2),mpt,co:=own.map (·.1),lit:=Q3m c,dl:=Q0c c,slf:=slf.map (·.1),all:=app++own.map (·.2)++slf.map (·.2)++os.flatMap fun o=>match o.op with
   | .assign x=>Q9b x
   | .store _ _ x=>Q9b x
   | .box _ x=>Q9b x
   | _=>[] }
def Q93:Option CC→Option CC
 | some c=>some c
 | none=>some .dead
def Qt3 (P:Program) (T:Tk) (nt:Nat):Code→Option CC
 | .skip=>some .skip
 | .region _ ops draw=>Q93 (Qlp P T nt ops draw)
 | .seq a b=>match Qt3 P T nt a,Qt3 P T nt b with
  | some x,some y=>some (.seq x y)
  | _,_=>none
 | .cond c a b=>match Qe1 P 0 c,Qt3 P T nt a,Qt3 P T nt b with
  | some x,some y,some z=>some (.cond x y z)
  | _,_,_=>none
 | .block id c=>(Qt3 P T nt c).map (.block id)
 | .loop c=>(Qt3 P T nt c).map (.loop (Q0b c))
 | .exit id=>some (.exit id)
 | .ret=>some .ret
 | _=>some .dead
def Qt4 (P:Program) (nt:Nat):ResultVar→Option Res
 | .tmp i=>if i<nt then some (.t i) else none
 | .cell p ty=>if p<nt∧(P.underlying ty).isSome=true then some (.cell p (Qgp P ty) (P.cellsOf ty)) else none
def Q1z (fn : Func) : Bool := fn.name != "runtime.NumGoroutine"
def Qr (P:Program) (f:FuncId):Option CFn :=
 match P.funcs[f]? with
 | some fn=>match fn.body with
  | some c=>match Qt3 P (Q92 P c) fn.ntmps c,fn.results.toList.mapM (Qt4 P fn.ntmps) with
   | some b,some rs=>if (Qpi rs).Nodup∧fn.params.size+fn.nfree≤fn.ntmps∧Q1z fn=true then some { np:=fn.params.size+fn.nfree,nt:=fn.ntmps,res:=rs,body:=b } else none
   | _,_=>none
  | none=>none
 | none=>none
end Go.Abs
end
section
namespace Go.Abs
inductive Owner where
 | free
 | ext
 | slot (t:Nat) (p:List Nat)
 | res (p:List Nat)
 | cell (k c:Nat)
 | box (k:Nat)
 | hid (n t:Nat) (p:List Nat)
def Prot:Owner→Prop
 | .free=>True
 | .ext=>True
 | .hid ..=>True
 | _=>False
def Owner.sub:Owner→Nat→Owner
 | .slot t p,i=>.slot t (i::p)
 | .res p,i=>.res (i::p)
 | .hid n t p,i=>.hid n t (i::p)
 | .box k,i=>.cell k i
 | o,_=>o
structure G where
 box:Nat→Nat
 imm:Nat→Nat→Prop
 own:Nat→Owner
def Qp4 (w:World) (b:Nat):Option (Array MapEntry×Nat):=match w.heap[b]? with
 | some (.map es c)=>some (es,c)
 | _=>none
theorem Qbcw {w:World} {b:Nat} {es:Array MapEntry} {c:Nat} (h:w.heap[b]? = some (.map es c)):Qp4 w b=some (es,c):=by unfold Qp4;rw [h]
theorem Q4q {w:World} {b:Nat} {es:Array MapEntry} {c:Nat} (h:Qp4 w b=some (es,c)):w.heap[b]? = some (.map es c):=by
 grind [Qp4]
theorem Q9c {w w' : World} {b:Nat} (h:w'.heap[b]? = w.heap[b]?):Qp4 w' b=Qp4 w b:=by unfold Qp4;rw [h]
def Q04 (w:World) (b o:Nat):Option Value×Option (Array MapEntry×Nat):=(w.cell? ⟨b,o,none⟩,Qp4 w b)
theorem Qdo {w w' : World} {b o:Nat} (h:w'.heap[b]? = w.heap[b]?):Q04 w' b o=Q04 w b o:=by unfold Q04 Qp4 World.cell?;rw [h]
theorem Q3n {w w' : World} {b o:Nat} {c c' : Array Value} {e e' : TypeId} {p p' : Nat×Nat} (h:w.heap[b]? = some (.cells c e p)) (h' : w'.heap[b]? = some (.cells c' e' p')) (hc:w'.cell? ⟨b,o,none⟩=w.cell? ⟨b,o,none⟩):Q04 w' b o=Q04 w b o:=by
 unfold Q04 Qp4;rw [hc,h,h']
def Qru (w:World) (b o:Nat):Prop:=(w.cell? ⟨b,o,none⟩).isSome=true∨(Qp4 w b).isSome=true
mutual
def RD (imm:Nat→Nat→Prop) (w:World):D→Value→Prop
 | .int k n,v=>v = .int k n
 | .bool b,v=>v = .bool b
 | .str s,v=>v = .string s
 | .lst sz l,v=>∃ a cap,v = .slice a l.length cap∧l.length≤cap∧(l=[]∨∃ b o,a=some ⟨b,o,none⟩∧RDL imm w sz b l o)
 | .mp es c,v=>∃ b,v = .map (some b)∧imm b 0∧Qp4 w b=some (es.toArray,c)
def RDc (imm:Nat→Nat→Prop) (w:World) (b:Nat):List D→Nat→Prop
 | [],_=>True
 | y::ys,o=>imm b o∧(∃ u,w.cell? ⟨b,o,none⟩=some u∧RD imm w y u)∧RDc imm w b ys (o+1)
def RDL (imm:Nat→Nat→Prop) (w:World) (sz b:Nat):List (List D)→Nat→Prop
 | [],_=>True
 | x::xs,o=>x.length=sz∧RDc imm w b x o∧RDL imm w sz b xs (o+sz)
end
def immf (g:G) (w:World):Nat→Nat→Prop:=fun b o=>g.imm b o∧g.own b = .ext∧Qru w b o
mutual
def RV (g:G) (w:World):V→Owner→Value→Prop
 | .und,_,_=>True
 | .d x,_,v=>RD g.imm w x v
 | .agg cs,ℓ,v=>∃ vs:List Value,v = .agg vs.toArray∧RVs g w cs ℓ 0 vs∧∀ u∈vs,u.oneCell'=true
 | .tup cs,ℓ,v=>∃ vs:List Value,v = .tuple vs.toArray∧RVs g w cs ℓ 0 vs
 | .own sz l,ℓ,v=>((∃ a,v = .slice a 0 0)∧l=[])∨∃ b cap vals e,v = .slice (some ⟨b,0,none⟩) l.length cap∧g.own b=ℓ ∧
   w.heap[b]? = some (.cells vals e (0,0))∧l.length≤cap∧cap≤maxLen∧(vals.size=cap*sz∧∀ u∈vals.toList,u.oneCell'=true)∧(∀ o,g.imm b o↔o<l.length*sz)∧RDL g.imm w sz b l 0
 | .ownT sz l,ℓ,v=>((∃ a,v = .slice a 0 0)∧l=[])∨∃ b o0 cap vals e,v = .slice (some ⟨b,o0,none⟩) l.length cap∧g.own b=ℓ ∧
   w.heap[b]? = some (.cells vals e (0,0))∧l.length≤cap∧cap≤maxLen∧(vals.size=o0+cap*sz∧∀ u∈vals.toList,u.oneCell'=true)∧(∀ o,g.imm b o↔o<o0+l.length*sz)∧RDL g.imm w sz b l o0
 | .ownV sz l,ℓ,v=>((∃ a,v = .slice a 0 0)∧l=[])∨∃ b cap vals e,v = .slice (some ⟨b,0,none⟩) l.length cap∧g.own b=ℓ ∧
   w.heap[b]? = some (.cells vals e (0,0))∧l.length≤cap∧cap≤maxLen∧(vals.size=cap*sz∧∀ u∈vals.toList,u.oneCell'=true)∧(∀ o,¬ g.imm b o)∧RDL (fun b' _=>b'=b) w sz b l 0∧(l.all fun x=>x.all D.scal)=true
 | .ptr k off,_,v=>v = .pointer (some ⟨g.box k,off,none⟩)
 | .nilp,_,v=>v = .pointer none
 | .f x,_,v=>RD (immf g w) w x v
 | .nils _,_,v=>∃ a,v = .slice a 0 0
 | .cref cs,_,v=>∃ b o,v = .pointer (some ⟨b,o,none⟩)∧RDc g.imm w b cs o
 | .sl _ k off len cap,_,v=>v = .slice (some ⟨g.box k,off,none⟩) len cap
 | .clo f caps,_,v=>∃ vs:List Value,v = .func (.func f) #[] vs.toArray∧RVs g w caps .ext 0 vs
 | .mp k,_,v=>v = .map (some (g.box k))
def RVs (g:G) (w:World):List V→Owner→Nat→List Value→Prop
 | [],_,_,vs=>vs=[]
 | c::cs,ℓ,i,vs=>∃ u us,vs=u::us∧RV g w c (ℓ.sub i) u∧RVs g w cs ℓ (i+1) us
end
structure Imm (imm imm' : Nat→Nat→Prop) (w w' : World):Prop where
 mono:∀ b o,imm b o→imm' b o
 look:∀ b o,imm b o→Q04 w' b o=Q04 w b o
theorem Imm.cell {imm imm' : Nat→Nat→Prop} {w w' : World} (h:Imm imm imm' w w') (b o:Nat) (hi:imm b o):w'.cell? ⟨b,o,none⟩=w.cell? ⟨b,o,none⟩:=congrArg Prod.fst (h.look b o hi)
theorem Imm.mp {imm imm' : Nat→Nat→Prop} {w w' : World} (h:Imm imm imm' w w') (b o:Nat) (hi:imm b o):Qp4 w' b=Qp4 w b:=congrArg Prod.snd (h.look b o hi)
theorem Imm.there {imm imm' : Nat→Nat→Prop} {w w' : World} (h:Imm imm imm' w w') (b o:Nat) (hi:imm b o) (ht:Qru w b o):Qru w' b o:=by
 unfold Qru at *;rw [h.cell b o hi,h.mp b o hi];exact ht
section
variable {imm imm' : Nat→Nat→Prop} {w w' : World}
mutual
theorem Qfl (h:Imm imm imm' w w'):∀ (x:D) (v:Value),RD imm w x v→RD imm' w' x v
 | .int k n,v,hv=>by simpa [RD] using hv
 | .bool b,v,hv=>by simpa [RD] using hv
 | .str s,v,hv=>by simpa [RD] using hv
 | .lst sz l,v,hv=>by
  simp only [RD] at hv ⊢;obtain ⟨a,cap,rfl,hc,hl⟩:=hv;refine ⟨a,cap,rfl,hc,?_⟩;rcases hl with hl|⟨b,o,ha,hl⟩
  ·exact .inl hl
  ·exact .inr ⟨b,o,ha,RDL_mono h sz b l o hl⟩
 | .mp es c,v,hv=>by
  simp only [RD] at hv ⊢;obtain ⟨b,rfl,h1,h2⟩:=hv;exact ⟨b,rfl,h.mono b 0 h1,(h.mp b 0 h1).trans h2⟩
theorem Qzb (h:Imm imm imm' w w') (b:Nat):∀ (ys:List D) (o:Nat),RDc imm w b ys o→RDc imm' w' b ys o
 | [],_,_=>by simp [RDc]
 | y::ys,o,hv=>by
  simp only [RDc] at hv ⊢;obtain ⟨hi,⟨u,hu,hy⟩,hr⟩:=hv;exact ⟨h.mono b o hi,⟨u,(h.cell b o hi).trans hu,Qfl h y u hy⟩,Qzb h b ys (o+1) hr⟩
theorem RDL_mono (h:Imm imm imm' w w') (sz b:Nat):∀ (l:List (List D)) (o:Nat),RDL imm w sz b l o→RDL imm' w' sz b l o
 | [],_,_=>by simp [RDL]
 | x::xs,o,hv=>by
  simp only [RDL] at hv ⊢;exact ⟨hv.1,Qzb h b x o hv.2.1,RDL_mono h sz b xs (o+sz) hv.2.2⟩
end
end
mutual
theorem Q5s {imm:Nat→Nat→Prop} {w:World}:∀ (x:D) (u:Value),RD imm w x u→RD (fun b o=>imm b o∧Qru w b o) w x u
 | .int k n,v,h=>by simpa [RD] using h
 | .bool b,v,h=>by simpa [RD] using h
 | .str s,v,h=>by simpa [RD] using h
 | .lst sz l,v,h=>by
  simp only [RD] at h ⊢;obtain ⟨a,cap,h1,h2,h3⟩:=h;refine ⟨a,cap,h1,h2,?_⟩;rcases h3 with h3|⟨b,o,h3,h4⟩
  ·exact .inl h3
  ·exact .inr ⟨b,o,h3,RDL_strong sz b l o h4⟩
 | .mp es c,v,h=>by
  simp only [RD] at h ⊢;obtain ⟨b,h1,h2,h3⟩:=h;exact ⟨b,h1,⟨h2,.inr (by rw [h3];rfl)⟩,h3⟩
theorem Q3o {imm:Nat→Nat→Prop} {w:World} (b:Nat):∀ (ys:List D) (o:Nat),RDc imm w b ys o→RDc (fun b o=>imm b o∧Qru w b o) w b ys o
 | [],o,_=>by simp [RDc]
 | y::ys,o,h=>by
  simp only [RDc] at h ⊢;obtain ⟨h1,⟨u,h2,h3⟩,h4⟩:=h;exact ⟨⟨h1,.inl (by rw [h2];rfl)⟩,⟨u,h2,Q5s y u h3⟩,Q3o b ys (o+1) h4⟩
theorem RDL_strong {imm:Nat→Nat→Prop} {w:World} (sz b:Nat):∀ (l:List (List D)) (o:Nat),RDL imm w sz b l o→RDL (fun b o=>imm b o∧Qru w b o) w sz b l o
 | [],o,_=>by simp [RDL]
 | x::xs,o,h=>by
  simp only [RDL] at h ⊢;exact ⟨h.1,Q3o b x o h.2.1,RDL_strong sz b xs (o+sz) h.2.2⟩
end
mutual
def V.on (p:Nat→Prop):V→Prop
 | .ptr k _=>p k
 | .sl _ k _ _ _=>p k
 | .mp k=>p k
 | .agg cs=>V.ons p cs
 | .tup cs=>V.ons p cs
 | .clo _ cs=>V.ons p cs
 | _=>True
def V.ons (p:Nat→Prop):List V→Prop
 | []=>True
 | v::vs=>v.on p∧V.ons p vs
end
mutual
theorem Qdp {p q:Nat→Prop} (h:∀ k,p k→q k):∀ v:V,v.on p→v.on q
 | .ptr k _,hv=>h k hv
 | .sl _ k _ _ _,hv=>h k hv
 | .mp k,hv=>h k hv
 | .agg cs,hv=>ons_mono h cs hv
 | .tup cs,hv=>ons_mono h cs hv
 | .clo _ cs,hv=>ons_mono h cs hv
 | .und,_=>trivial
 | .d _,_=>trivial
 | .own ..,_=>trivial
 | .ownT ..,_=>trivial
 | .ownV ..,_=>trivial
 | .nilp,_=>trivial
 | .f _,_=>trivial
 | .nils _,_=>trivial
 | .cref _,_=>trivial
theorem ons_mono {p q:Nat→Prop} (h:∀ k,p k→q k):∀ vs:List V,V.ons p vs→V.ons q vs
 | [],_=>trivial
 | v::vs,hv=>⟨Qdp h v hv.1,ons_mono h vs hv.2⟩
end
theorem Qh0 {p:Nat→Prop}:∀ {vs:List V},V.ons p vs↔∀ v∈vs,v.on p
 | []=>by simp [V.ons]
 | v::vs=>by simp [V.ons,Qh0 (vs:=vs)]
mutual
theorem Qbcx {n:Nat}:∀ v:V,v.lt n=true→v.on (· < n)
 | .ptr k _,hv=>by simpa [V.lt,V.on] using hv
 | .sl _ k _ _ _,hv=>by simpa [V.lt,V.on] using hv
 | .mp k,hv=>by simpa [V.lt,V.on] using hv
 | .agg cs,hv=>ons_lt cs (by simpa [V.lt] using hv)
 | .tup cs,hv=>ons_lt cs (by simpa [V.lt] using hv)
 | .clo _ cs,hv=>ons_lt cs (by simpa [V.lt] using hv)
 | .und,_=>trivial
 | .d _,_=>trivial
 | .own ..,_=>trivial
 | .ownT ..,_=>trivial
 | .ownV ..,_=>trivial
 | .nilp,_=>trivial
 | .f _,_=>trivial
 | .nils _,_=>trivial
 | .cref _,_=>trivial
theorem ons_lt {n:Nat}:∀ vs:List V,V.lt.go n vs=true→V.ons (· < n) vs
 | [],_=>trivial
 | v::vs,hv=>by
  simp only [V.lt.go,Bool.and_eq_true] at hv;exact ⟨Qbcx v hv.1,ons_lt vs hv.2⟩
end
mutual
theorem Qdn {p:Nat→Prop}:∀ v:V,v.dem.on p↔v.on p
 | .agg cs=>by simp only [V.dem,V.on];exact ons_dems cs
 | .tup cs=>by simp only [V.dem,V.on];exact ons_dems cs
 | .own ..=>by simp [V.dem,V.on]
 | .ownT ..=>by simp [V.dem,V.on]
 | .ownV ..=>by simp [V.dem,V.on]
 | .ptr ..=>Iff.rfl
 | .sl ..=>Iff.rfl
 | .mp _=>Iff.rfl
 | .clo ..=>Iff.rfl
 | .und=>Iff.rfl
 | .d _=>Iff.rfl
 | .nilp=>Iff.rfl
 | .f _=>Iff.rfl
 | .nils _=>Iff.rfl
 | .cref _=>Iff.rfl
theorem ons_dems {p:Nat→Prop}:∀ vs:List V,V.ons p (V.dems vs)↔V.ons p vs
 | []=>Iff.rfl
 | v::vs=>by simp only [V.dems,V.ons,Qdn v,ons_dems vs]
end
structure Kept (g:G) (w:World) (g' : G) (w' : World) (p:Nat→Prop) (keep:Owner→Prop):Prop where
 imm:Imm g.imm g'.imm w w'
 box:∀ k,p k→g'.box k=g.box k
 own:∀ b,keep (g.own b)→b<w.heap.size→g'.own b=g.own b∧w'.heap[b]? = w.heap[b]? ∧ ∀ o,g'.imm b o↔g.imm b o
theorem Qbcy {w:World} {b o:Nat} (h:Qru w b o):b<w.heap.size:=by
 rcases h with h|h
 ·grind [Option.isSome_iff_exists,Go.World.cell?,Array.getElem?_eq_some_iff]
 ·obtain ⟨v,hv⟩:=Option.isSome_iff_exists.1 h;obtain ⟨a,c⟩:=v;exact (Array.getElem?_eq_some_iff.1 (Q4q hv)).1
theorem virI {w w' : World} {b:Nat} (h:w'.heap[b]? = w.heap[b]?):Imm (fun b' _=>b'=b) (fun b' _=>b'=b) w w' :=
 ⟨fun _ _ h=>h,fun b' o e=>by subst e;exact Qdo h⟩
theorem Qv4 {imm imm' : Nat→Nat→Prop} {w w' : World} {d:D} {u:Value} (h:d.scal=true) (hr:RD imm w d u):RD imm' w' d u:=by
 cases d<;>simp_all [RD,D.scal]
theorem Q5t {g g' : G} {w:World} (h:∀ b o,g.imm b o→g.own b = .ext→g'.imm b o∧g'.own b = .ext):Imm (immf g w) (immf g' w) w w :=
 ⟨fun b o ⟨h1,h2,h3⟩=>⟨(h b o h1 h2).1,(h b o h1 h2).2,h3⟩,fun _ _ _=>rfl⟩
section
variable {g g' : G} {w w' : World} {p:Nat→Prop} {keep:Owner→Prop}
theorem Q94 (h:Kept g w g' w' p keep) (he:keep .ext):Imm (immf g w) (immf g' w') w w' :=
 ⟨fun b o ⟨h1,h2,h3⟩=>by
  obtain ⟨k1,_,k3⟩:=h.own b (by rw [h2];exact he) (Qbcy h3);exact ⟨(k3 o).2 h1,k1.trans h2,h.imm.there b o h1 h3⟩,fun b o h1=>h.imm.look b o h1.1⟩
mutual
theorem Qch (h:Kept g w g' w' p keep) (hs:∀ ℓ i,keep ℓ→keep (ℓ.sub i)) (he:keep .ext) :
  ∀ (v:V) (ℓ:Owner) (u:Value),keep ℓ→v.on p→RV g w v ℓ u→RV g' w' v ℓ u
 | .und,_,_,_,_,_=>by simp [RV]
 | .d x,_,u,_,_,hv=>by simp only [RV] at hv ⊢;exact Qfl h.imm x u hv
 | .agg cs,ℓ,u,hk,hl,hv=>by
  simp only [RV] at hv ⊢;obtain ⟨vs,rfl,hv,h1⟩:=hv;exact ⟨vs,rfl,RVs_mono h hs he cs ℓ 0 vs hk hl hv,h1⟩
 | .tup cs,ℓ,u,hk,hl,hv=>by
  simp only [RV] at hv ⊢;obtain ⟨vs,rfl,hv⟩:=hv;exact ⟨vs,rfl,RVs_mono h hs he cs ℓ 0 vs hk hl hv⟩
 | .own sz l,ℓ,u,hk,_,hv=>by
  simp only [RV] at hv ⊢;rcases hv with hv|⟨b,cap,vals,e,rfl,hb,hh,hc,hm,hz,hi,hr⟩
  ·exact .inl hv
  ·have hlt:b<w.heap.size:=by
    rcases Nat.lt_or_ge b w.heap.size with hlt|hge
    ·exact hlt
    ·simp [Array.getElem?_eq_none hge] at hh
   obtain ⟨h1,h2,h3⟩:=h.own b (hb ▸ hk) hlt;exact .inr ⟨b,cap,vals,e,rfl,h1.trans hb,h2.trans hh,hc,hm,hz,fun o=>(h3 o).trans (hi o),RDL_mono h.imm sz b l 0 hr⟩
 | .ownT sz l,ℓ,u,hk,_,hv=>by
  simp only [RV] at hv ⊢;rcases hv with hv|⟨b,o0,cap,vals,e,rfl,hb,hh,hc,hm,hz,hi,hr⟩
  ·exact .inl hv
  ·have hlt:b<w.heap.size:=by
    rcases Nat.lt_or_ge b w.heap.size with hlt|hge
    ·exact hlt
    ·simp [Array.getElem?_eq_none hge] at hh
   obtain ⟨h1,h2,h3⟩:=h.own b (hb ▸ hk) hlt;exact .inr ⟨b,o0,cap,vals,e,rfl,h1.trans hb,h2.trans hh,hc,hm,hz,fun o=>(h3 o).trans (hi o),RDL_mono h.imm sz b l o0 hr⟩
 | .ownV sz l,ℓ,u,hk,_,hv=>by
  simp only [RV] at hv ⊢;rcases hv with hv|⟨b,cap,vals,e,rfl,hb,hh,hc,hm,hz,hi,hr,hs⟩
  ·exact .inl hv
  ·have hlt:b<w.heap.size:=(Array.getElem?_eq_some_iff.1 hh).1;obtain ⟨h1,h2,h3⟩:=h.own b (hb ▸ hk) hlt;exact .inr ⟨b,cap,vals,e,rfl,h1.trans hb,h2.trans hh,hc,hm,hz,fun o ho=>hi o ((h3 o).1 ho),RDL_mono (virI h2) sz b l 0 hr,hs⟩
 | .ptr k off,_,u,_,hl,hv=>by
  simp only [RV] at hv ⊢;rw [h.box k hl];exact hv
 | .nilp,_,_,_,_,hv=>by simpa [RV] using hv
 | .f x,_,u,_,_,hv=>by simp only [RV] at hv ⊢;exact Qfl (Q94 h he) x u hv
 | .nils _,_,_,_,_,hv=>by simpa [RV] using hv
 | .cref cs,_,u,_,_,hv=>by
  simp only [RV] at hv ⊢;obtain ⟨b,o,rfl,hv⟩:=hv;exact ⟨b,o,rfl,Qzb h.imm b cs o hv⟩
 | .sl sz k off len cap,_,u,_,hl,hv=>by
  simp only [RV] at hv ⊢;rw [h.box k hl];exact hv
 | .clo f caps,_,u,_,hl,hv=>by
  simp only [RV] at hv ⊢;obtain ⟨vs,rfl,hv⟩:=hv;exact ⟨vs,rfl,RVs_mono h hs he caps .ext 0 vs he hl hv⟩
 | .mp k,_,u,_,hl,hv=>by
  simp only [RV] at hv ⊢;rw [h.box k hl];exact hv
theorem RVs_mono (h:Kept g w g' w' p keep) (hs:∀ ℓ i,keep ℓ→keep (ℓ.sub i)) (he:keep .ext) :
  ∀ (cs:List V) (ℓ:Owner) (i:Nat) (us:List Value),keep ℓ→V.ons p cs→RVs g w cs ℓ i us→RVs g' w' cs ℓ i us
 | [],_,_,_,_,_,hv=>by simpa [RVs] using hv
 | c::cs,ℓ,i,us,hk,hl,hv=>by
  simp only [RVs] at hv ⊢;obtain ⟨u,us,rfl,h1,h2⟩:=hv;exact ⟨u,us,rfl,Qch h hs he c (ℓ.sub i) u (hs ℓ i hk) hl.1 h1,RVs_mono h hs he cs ℓ (i+1) us hk hl.2 h2⟩
end
end
theorem Q7e {g:G} {w:World} {sz:Nat} {l:List (List D)} {ℓ:Owner} {u:Value} (h:RV g w (.own sz l) ℓ u):RV g w (.ownT sz l) ℓ u:=by
 simp only [RV] at h ⊢;rcases h with h|⟨b,cap,vals,e,h1,h2,h3,h4,h5,h6,h7,h8⟩
 ·exact .inl h
 ·exact .inr ⟨b,0,cap,vals,e,h1,h2,h3,h4,h5,by simpa using h6,by simpa using h7,h8⟩
theorem Qxi {g:G} {w:World} {sz:Nat} {l:List (List D)} {ℓ:Owner} {u:Value} (h:RV g w (.ownT sz l) ℓ u):RD g.imm w (.lst sz l) u:=by
 simp only [RV] at h;simp only [RD]
 grind
theorem Ql5 {g:G} {w:World} {sz:Nat} {l:List (List D)} {ℓ:Owner} {u:Value} (h:RV g w (.own sz l) ℓ u):RD g.imm w (.lst sz l) u:=by
 simp only [RV] at h;simp only [RD]
 grind
mutual
theorem Qha {g:G} {w:World}:∀ (v:V) (ℓ ℓ' : Owner) (u:Value),RV g w v ℓ u→RV g w v.dem ℓ' u
 | .und,_,_,_,_=>by simp [V.dem,RV]
 | .d x,_,_,u,h=>by simpa [V.dem,RV] using h
 | .agg cs,ℓ,ℓ',u,h=>by
  simp only [V.dem,RV] at h ⊢;obtain ⟨vs,rfl,h,h1⟩:=h;exact ⟨vs,rfl,RVs_dem cs ℓ ℓ' 0 0 vs h,h1⟩
 | .tup cs,ℓ,ℓ',u,h=>by
  simp only [V.dem,RV] at h ⊢;obtain ⟨vs,rfl,h⟩:=h;exact ⟨vs,rfl,RVs_dem cs ℓ ℓ' 0 0 vs h⟩
 | .own sz l,ℓ,ℓ',u,h=>by
  have:=Ql5 h;simpa [V.dem,RV] using this
 | .ownT sz l,ℓ,ℓ',u,h=>by
  have:=Qxi h;simpa [V.dem,RV] using this
 | .ownV ..,_,_,_,_=>by simp [V.dem,RV]
 | .ptr k off,_,_,_,h=>by simpa [V.dem,RV] using h
 | .nilp,_,_,_,h=>by simpa [V.dem,RV] using h
 | .f _,_,_,_,h=>by simpa [V.dem,RV] using h
 | .nils _,_,_,_,h=>by simpa [V.dem,RV] using h
 | .cref cs,_,_,_,h=>by simpa [V.dem,RV] using h
 | .sl sz k off len cap,_,_,_,h=>by simpa [V.dem,RV] using h
 | .clo f caps,_,_,_,h=>by simpa [V.dem,RV] using h
 | .mp k,_,_,_,h=>by simpa [V.dem,RV] using h
theorem RVs_dem {g:G} {w:World}:∀ (cs:List V) (ℓ ℓ' : Owner) (i i' : Nat) (us:List Value),RVs g w cs ℓ i us→RVs g w (V.dems cs) ℓ' i' us
 | [],_,_,_,_,_,h=>by simpa [V.dems,RVs] using h
 | c::cs,ℓ,ℓ',i,i',us,h=>by
  simp only [V.dems,RVs] at h ⊢;obtain ⟨u,us,rfl,h1,h2⟩:=h;exact ⟨u,us,rfl,Qha c (ℓ.sub i) (ℓ'.sub i') u h1,RVs_dem cs ℓ ℓ' (i+1) (i'+1) us h2⟩
end
mutual
theorem Qdj:∀ v:V,v.dem.dem=v.dem
 | .und=>rfl
 | .d _=>rfl
 | .agg cs=>by simp [V.dem,dems_dems cs]
 | .tup cs=>by simp [V.dem,dems_dems cs]
 | .own _ _=>rfl
 | .ownT _ _=>rfl
 | .ownV _ _=>rfl
 | .ptr _ _=>rfl
 | .nilp=>rfl
 | .f _=>rfl
 | .nils _=>rfl
 | .cref _=>rfl
 | .sl ..=>rfl
 | .clo _ _=>rfl
 | .mp _=>rfl
theorem dems_dems:∀ vs:List V,V.dems (V.dems vs)=V.dems vs
 | []=>rfl
 | v::vs=>by simp [V.dems,Qdj v,dems_dems vs]
end
theorem Qbel (v:V):v.dem.top=v.dem:=by cases v<;>first|rfl|exact Qdj _
theorem Q10:∀ vs:List V,own1 (V.dems vs)=V.dems vs
 | []=>rfl
 | v::vs=>by simp only [V.dems,own1,Qbel,Q10 vs]
theorem Q11 {vs:List V} (h:∀ v∈vs,v.dem=v):own1 vs=vs:=by
 have:V.dems vs=vs:=by
  induction vs with
  | nil=>rfl
  | cons v vs ih=>grind [V.dems]
 rw [← this];exact Q10 vs
theorem Qzc:∀ vs:List V,own1 vs=vs.map V.top
 | []=>rfl
 | v::vs=>by simp only [own1,Qzc vs,List.map_cons]
theorem Q5u {p:Nat→Prop} (v:V):v.top.on p↔v.on p:=by cases v<;>first|exact Iff.rfl|exact Qdn _
theorem Q95 {p:Nat→Prop} (v:V):v.topL.on p↔v.on p:=by cases v<;>first|exact Iff.rfl|(simp only [V.topL];exact Q5u _)
theorem Q12 {v:V} (h:v.dem=v):v.topS=v:=by
 cases v<;>first|rfl|exact h|skip
 grind [V.dem,V.agg.injEq,V.topS,Q10]
theorem Q4r {p:Nat→Prop}:∀ vs:List V,V.ons p (own1 vs)↔V.ons p vs
 | []=>Iff.rfl
 | v::vs=>by simp only [own1,V.ons,Q5u v,Q4r vs]
theorem Q7f {p:Nat→Prop} (v:V):v.topS.on p↔v.on p:=by
 cases v<;>first|exact Iff.rfl|skip
 all_goals grind [V.topS,V.on,Q4r,V.dem,ons_dems]
def Flat (v:V):Prop:=v.dem=v
theorem Ql6 {g:G} {w:World} {v:V} {ℓ ℓ' : Owner} {u:Value} (hf:Flat v) (h:RV g w v ℓ u):RV g w v ℓ' u:=by
 have:=Qha v ℓ ℓ' u h
 rwa [hf] at this
theorem Qci {g:G} {w:World}:∀ (cs:List V) (ℓ:Owner) (i:Nat) (us:List Value),
  RVs g w cs ℓ i us↔us.length=cs.length∧∀ j c u,cs[j]? = some c→us[j]? = some u→RV g w c (ℓ.sub (i+j)) u
 | [],ℓ,i,us=>by
  simp only [RVs,List.length_nil];constructor
  ·rintro rfl;exact ⟨rfl,by simp⟩
  ·rintro ⟨h,_⟩;exact List.eq_nil_of_length_eq_zero h
 | c::cs,ℓ,i,us=>by
  simp only [RVs];constructor
  ·rintro ⟨u,us,rfl,h1,h2⟩;obtain ⟨hl,h2⟩:=(Qci cs ℓ (i+1) us).1 h2;refine ⟨by simp [hl],fun j c' u' hc hu=>?_⟩;cases j with
   | zero=>simp at hc hu;subst hc hu;exact h1
   | succ j =>
    have:=h2 j c' u' (by simpa using hc) (by simpa using hu)
    rwa [show i+1+j=i+(j+1) from by omega] at this
  ·rintro ⟨hl,h⟩;cases us with
   | nil=>simp at hl
   | cons u us =>
    refine ⟨u,us,rfl,by simpa using h 0 c u rfl rfl,(Qci cs ℓ (i+1) us).2 ⟨by simpa using hl,fun j c' u' hc hu=>?_⟩⟩;have:=h (j+1) c' u' (by simpa using hc) (by simpa using hu)
    grind
theorem Qng {g:G} {w:World} {cs:List V} {ℓ:Owner} {i:Nat} {us:List Value} (h:RVs g w cs ℓ i us):us.length=cs.length:=((Qci cs ℓ i us).1 h).1
def RM (g:G) (w:World) (k:Nat):List (V×V×Nat)→List MapEntry→Prop
 | [],es=>es=[]
 | x::r,es=>∃ (e:MapEntry) (t:List MapEntry),es=e::t∧(x.1.dat=true∧RV g w x.1 .ext e.key)∧(x.2.1.mv=true∧RV g w x.2.1 (.cell k x.2.2) e.val)∧e.born=x.2.2∧RM g w k r t
def BR (g:G) (w:World) (k:Nat):Bx→Prop
 | .cells cs=>∃ (vals:List Value) (e:TypeId),w.heap[g.box k]? = some (.cells vals.toArray e (0,0))∧RVs g w cs (.box k) 0 vals∧∀ u∈vals,u.oneCell'=true
 | .mp es c=>∃ ents:List MapEntry,w.heap[g.box k]? = some (.map ents.toArray c)∧RM g w k es ents
theorem Q96 {p:Nat→Prop}:∀ {v:V},v.dat1=true→v.on p:=by
 intro v h;cases v<;>simp_all [V.dat1,V.on]
theorem Qv5 {p:Nat→Prop} {v:V} (h:v.dat=true):v.on p:=by
 cases v with
 | agg cs =>
  grind [V.dat,List.all_eq_true,V.on,Qh0,Q96]
 | clo f cs =>
  have h:cs=[]:=by simpa [V.dat] using h
  subst h;trivial
 | _=>simp_all [V.dat,V.on]
theorem Qbcz {v:V} (h:v.dat1=true):v.dem=v:=by
 cases v<;>simp_all [V.dat1,V.dem]
theorem Q5v:∀ {cs:List V},cs.all V.dat1=true→V.dems cs=cs
 | [],_=>rfl
 | c::cs,h=>by
  simp_all [List.all_cons,Bool.and_eq_true,V.dems,Qbcz,Q5v]
theorem Qbc0 {v:V} (h:v.dat=true):Flat v:=by
 unfold Flat;cases v with
 | agg cs=>grind [V.dat,V.dem,Q5v]
 | _=>simp_all [V.dat,V.dem]
theorem Qr7 {v:V} (h:v.dat=true):v.dem=v:=Qbc0 h
theorem Qrv {v:V} (h:v.mv=true):v.dat=true∨∃ sz l,v = .own sz l:=by
 cases v<;>first|exact .inr ⟨_,_,rfl⟩|exact .inl h
theorem Qu7 {v:V} (h:v.dat=true):v.mv=true:=by
 cases v<;>first|rfl|exact h
theorem Q97 {v:V} (h:v.mv=true):v.dem.dat=true:=by
 rcases Qrv h with h|⟨sz,l,rfl⟩
 ·rw [Qr7 h];exact h
 ·rfl
theorem Qbgx {p:Nat→Prop} {v:V} (h:v.mv=true):v.on p:=by
 rcases Qrv h with h|⟨sz,l,rfl⟩
 ·exact Qv5 h
 ·simp [V.on]
theorem Qbd1 {g g' : G} {w w' : World} {k:Nat} (hk:∀ (v:V) (u:Value),v.dat=true→RV g w v .ext u→RV g' w' v .ext u) (h:∀ (v:V) (i:Nat) (u:Value),v.mv=true→RV g w v (.cell k i) u→RV g' w' v (.cell k i) u):∀ {es:List (V×V×Nat)} {ents:List MapEntry},RM g w k es ents→RM g' w' k es ents
 | [],_,hr=>hr
 | x::r,_,hr=>by
  simp only [RM] at hr ⊢;obtain ⟨e,t,rfl,⟨a1,a2⟩,⟨b1,b2⟩,h3,h4⟩:=hr;exact ⟨e,t,rfl,⟨a1,hk _ _ a1 a2⟩,⟨b1,h _ _ _ b1 b2⟩,h3,Qbd1 hk h h4⟩
theorem Qbem {g g' : G} {w w' : World} (h:Imm g.imm g'.imm w w') {v:V} (hd:v.dat1=true) {ℓ ℓ' : Owner} {u:Value}:RV g w v ℓ u→RV g' w' v ℓ' u:=by
 cases v<;>simp_all [V.dat1,RV];exact Qfl h _ _
theorem Q4s {g g' : G} {w w' : World} (h:Imm g.imm g'.imm w w'):∀ {cs:List V},cs.all V.dat1=true→∀ {ℓ ℓ' : Owner} {i i' : Nat} {us:List Value},RVs g w cs ℓ i us→RVs g' w' cs ℓ' i' us
 | [],_,_,_,_,_,_,hr=>by simpa [RVs] using hr
 | c::cs,hd,_,_,_,_,_,hr=>by
  simp only [List.all_cons,Bool.and_eq_true] at hd;simp only [RVs] at hr ⊢;obtain ⟨u,us,rfl,h1,h2⟩:=hr;exact ⟨u,us,rfl,Qbem h hd.1 h1,Q4s h hd.2 h2⟩
theorem Qu8 {g g' : G} {w w' : World} (h:Imm g.imm g'.imm w w') {v:V} (hd:v.dat=true) {ℓ ℓ' : Owner} {u:Value} (hr:RV g w v ℓ u):RV g' w' v ℓ' u:=by
 cases v with
 | agg cs =>
  simp only [V.dat] at hd;simp only [RV] at hr ⊢;obtain ⟨vs,rfl,h1,h2⟩:=hr;exact ⟨vs,rfl,Q4s h hd h1,h2⟩
 | d x=>grind [RV,Qfl]
 | nils _=>simpa [RV] using hr
 | clo f cs =>
  have hd:cs=[]:=by simpa [V.dat] using hd
  subst hd;simp only [RV] at hr ⊢;obtain ⟨vs,rfl,h1⟩:=hr;exact ⟨vs,rfl,by simpa [RVs] using h1⟩
 | _=>simp [V.dat] at hd
theorem Q98 {g g' : G} {w w' : World} {k:Nat} (hi:Imm g.imm g'.imm w w') (h:∀ (sz:Nat) (l:List (List D)) (i:Nat) (u:Value),RV g w (.own sz l) (.cell k i) u→RV g' w' (.own sz l) (.cell k i) u) {es:List (V×V×Nat)} {ents:List MapEntry} (hr:RM g w k es ents):RM g' w' k es ents :=
 Qbd1 (fun _ _ hd hv=>Qu8 hi hd hv) (fun v i u hd hv=>by
  rcases Qrv hd with hd|⟨sz,l,rfl⟩
  all_goals grind [Qu8]) hr
theorem Q4t {g g' : G} {w w' : World} {ℓ:Owner} (hi:Imm g.imm g'.imm w w') (hb:∀ b,g.own b=ℓ→b<w.heap.size→g'.own b=ℓ∧w'.heap[b]? = w.heap[b]? ∧ ∀ o,g'.imm b o↔g.imm b o) {sz:Nat} {l:List (List D)} {u:Value} (hv:RV g w (.own sz l) ℓ u):RV g' w' (.own sz l) ℓ u:=by
 simp only [RV] at hv ⊢;rcases hv with hv|⟨b,cap,vals,e,h1,h2,h3,h4,h5,h6,h7,h8⟩
 ·exact .inl hv
 ·have hlt:b<w.heap.size:=(Array.getElem?_eq_some_iff.1 h3).1;obtain ⟨k1,k2,k3⟩:=hb b h2 hlt;exact .inr ⟨b,cap,vals,e,h1,k1,k2.trans h3,h4,h5,h6,fun o=>(k3 o).trans (h7 o),RDL_mono hi sz b l 0 h8⟩
theorem Q5w {g g' : G} {w w' : World} {k:Nat} (hi:Imm g.imm g'.imm w w') (hb:∀ b i,g.own b = .cell k i→b<w.heap.size→g'.own b = .cell k i∧w'.heap[b]? = w.heap[b]? ∧ ∀ o,g'.imm b o↔g.imm b o) {es:List (V×V×Nat)} {ents:List MapEntry} (hr:RM g w k es ents):RM g' w' k es ents :=by grind [Q98,Q4t]
theorem Qi8 {g g' : G} {w w' : World} {k:Nat} {p:Nat→Prop} {keep:Owner→Prop} (h:Kept g w g' w' p keep) (hk:∀ i,keep (.cell k i)) {es:List (V×V×Nat)} {ents:List MapEntry} (hr:RM g w k es ents):RM g' w' k es ents :=
 Q5w h.imm (fun b i hb hlt=>by have:=h.own b (by rw [hb];exact hk i) hlt;rwa [hb] at this) hr
structure MR (g:G) (w:World) (M:Mem) (nb:Nat):Prop where
 box:∀ k b,M k=some b→k<nb∧g.own (g.box k) = .box k∧BR g w k b
 imm:∀ b o,g.imm b o→b<w.heap.size∧∀ k,g.own b ≠ .box k
structure Fr (n0:Nat) (g0:G) (w0:World) (g:G) (w:World):Prop where
 os:w.os=w0.os
 tape:w.tape=w0.tape
 output:w.output=w0.output
 size:w0.heap.size≤w.heap.size
 imm:Imm g0.imm g.imm w0 w
 box:∀ k,(k<n0∧g0.box k<w0.heap.size)→g.box k=g0.box k
 old:∀ b,b<w0.heap.size→Prot (g0.own b)→g.own b=g0.own b∧w.heap[b]? = w0.heap[b]? ∧ ∀ o,g.imm b o↔g0.imm b o
theorem Fr.refl (n0:Nat) (g:G) (w:World):Fr n0 g w g w :=
 ⟨rfl,rfl,rfl,Nat.le_refl _,⟨fun _ _ h=>h,fun _ _ _=>rfl⟩,fun _ _=>rfl,fun _ _ _=>⟨rfl,rfl,fun _=>Iff.rfl⟩⟩
theorem Fr.next {n0 nb:Nat} {g0 g g' : G} {w0 w w' : World} (h:Fr n0 g0 w0 g w) (hn:n0≤nb) (k:Fr nb g w g' w'):Fr n0 g0 w0 g' w':={
 os:=k.os.trans h.os
 tape:=k.tape.trans h.tape
 output:=k.output.trans h.output
 size:=Nat.le_trans h.size k.size
 imm:=⟨fun b o hb=>k.imm.mono b o (h.imm.mono b o hb),fun b o hb=>(k.imm.look b o (h.imm.mono b o hb)).trans (h.imm.look b o hb)⟩
 box:=fun i hi=>(k.box i ⟨Nat.lt_of_lt_of_le hi.1 hn,by rw [h.box i hi];exact Nat.lt_of_lt_of_le hi.2 h.size⟩).trans (h.box i hi)
 old:=fun b hb ho=>by
  obtain ⟨h1,h2,h3⟩:=h.old b hb ho;obtain ⟨k1,k2,k3⟩:=k.old b (Nat.lt_of_lt_of_le hb h.size) (by rw [h1];exact ho)
  grind }
structure SR (n0 nt:Nat) (g0:G) (w0:World) (σ:St) (a:Act) (w:World) (g:G):Prop where
 mem:MR g w σ.M σ.nb
 slots:∀ t,RV g w (σ.s t) (.slot t []) (a.tmps.getD t undef)
 size:a.tmps.size=nt
 defers:a.defers=[]
 onS:∀ t,(σ.s t).on fun k=>(σ.M k).isSome=true
 onM:∀ k cs,σ.M k=some (.cells cs)→(V.ons (fun j=>(σ.M j).isSome=true) cs)∧(k<n0→V.ons (· < n0) cs)
 top:n0+nt≤σ.nb
 fr:Fr n0 g0 w0 g w
end Go.Abs
end
section
namespace Go.Abs
open Go
def RF (g:G) (w:World) (v:V) (u:Value):Prop:=∀ ℓ,RV g w v ℓ u
section
variable {g:G} {w:World}
theorem Qv6 {v:V} {ℓ:Owner} {u:Value} (h:RV g w v ℓ u):RF g w v.dem u:=fun ℓ'=>Qha v ℓ ℓ' u h
theorem RF_d {x:D} {u:Value}:RF g w (.d x) u↔RD g.imm w x u:=by
 constructor
 ·intro h;simpa [RV] using h .free
 ·intro h ℓ;simpa [RV] using h
theorem Qm0 {k o:Nat} {u:Value}:RF g w (.ptr k o) u↔u = .pointer (some ⟨g.box k,o,none⟩):=by
 constructor
 ·intro h;simpa [RV] using h .free
 ·intro h ℓ;simpa [RV] using h
theorem Q4u {sz k o n c:Nat} {u:Value}:RF g w (.sl sz k o n c) u↔u = .slice (some ⟨g.box k,o,none⟩) n c:=by
 constructor
 ·intro h;simpa [RV] using h .free
 ·intro h ℓ;simpa [RV] using h
theorem Qt5 {cs:List D} {u:Value}:RF g w (.cref cs) u↔∃ b o,u = .pointer (some ⟨b,o,none⟩)∧RDc g.imm w b cs o:=by
 constructor
 ·intro h;simpa [RV] using h .free
 ·intro h ℓ;simpa [RV] using h
def RFs (g:G) (w:World):List V→List Value→Prop
 | [],us=>us=[]
 | v::vs,us=>∃ u us',us=u::us'∧RF g w v u∧RFs g w vs us'
theorem Qf3:∀ {vs:List V} {us:List Value},RFs g w vs us→us.length=vs.length
 | [],us,h=>by simp [RFs] at h;simp [h]
 | v::vs,us,h=>by
  obtain ⟨u,us',rfl,_,h⟩:=h;simp [Qf3 h]
theorem Qnh:∀ {vs:List V} {us:List Value},RFs g w vs us→∀ (i:Nat) (v:V) (u:Value),vs[i]? = some v→us[i]? = some u→RF g w v u
 | [],us,h,i,v,u,hv,_=>by simp at hv
 | v::vs,us,h,i,v',u',hv,hu=>by
  obtain ⟨u,us',rfl,h1,h⟩:=h;cases i with
  | zero=>simp at hv hu;subst hv hu;exact h1
  | succ i=>exact Qnh h i v' u' (by simpa using hv) (by simpa using hu)
theorem Qni {imm:Nat→Nat→Prop} {b:Nat}:∀ {ys:List D} {o:Nat},RDc imm w b ys o→∀ j y,ys[j]? = some y→imm b (o+j)∧∃ u,w.cell? ⟨b,o+j,none⟩=some u∧RD imm w y u
 | [],o,_,j,y,hj=>by simp at hj
 | y::ys,o,h,j,y',hj=>by
  simp only [RDc] at h;cases j with
  | zero=>simp at hj;subst hj;exact ⟨h.1,h.2.1⟩
  | succ j =>
   have:=Qni h.2.2 j y' (by simpa using hj)
   rwa [show o+1+j=o+(j+1) from by omega] at this
theorem Qu9 {imm:Nat→Nat→Prop} {b:Nat}:∀ {ys:List D} {o:Nat},(∀ j y,ys[j]? = some y→imm b (o+j)∧∃ u,w.cell? ⟨b,o+j,none⟩=some u∧RD imm w y u)→RDc imm w b ys o
 | [],o,_=>by simp [RDc]
 | y::ys,o,h=>by
  simp only [RDc];obtain ⟨h1,h2⟩:=h 0 y rfl;refine ⟨by simpa using h1,by simpa using h2,Qu9 fun j y' hj=>?_⟩;have:=h (j+1) y' (by simpa using hj)
  grind
theorem Qou {imm:Nat→Nat→Prop} {sz b:Nat}:∀ {l:List (List D)} {o:Nat},RDL imm w sz b l o→∀ i x,l[i]? = some x→x.length=sz∧RDc imm w b x (o+i*sz)
 | [],o,_,i,x,hi=>by simp at hi
 | x::xs,o,h,i,x',hi=>by
  simp only [RDL] at h;cases i with
  | zero=>simp at hi;subst hi;exact ⟨h.1,by simpa using h.2.1⟩
  | succ i =>
   have:=Qou h.2.2 i x' (by simpa using hi)
   rwa [show o+sz+i*sz=o+(i+1)*sz from by rw [Nat.add_mul];omega] at this
theorem Qzd {imm:Nat→Nat→Prop} {sz b:Nat}:∀ {l:List (List D)} {o:Nat},(∀ i x,l[i]? = some x→x.length=sz∧RDc imm w b x (o+i*sz))→RDL imm w sz b l o
 | [],o,_=>by simp [RDL]
 | x::xs,o,h=>by
  simp only [RDL];refine ⟨(h 0 x rfl).1,by simpa using (h 0 x rfl).2,Qzd fun i x' hi=>?_⟩;have:=h (i+1) x' (by simpa using hi)
  grind
theorem Q0d {imm:Nat→Nat→Prop} {x:D} {u:Value} (h:RD imm w x u):u.oneCell'=true:=by
 cases x<;>simp only [RD] at h
 ·subst h;rfl
 ·subst h;rfl
 ·subst h;rfl
 ·obtain ⟨a,cap,rfl,_⟩:=h;rfl
 ·obtain ⟨b,rfl,_⟩:=h;rfl
end
section
variable (P:Program) {g:G} {w:World}
theorem Qf4 {t:TypeId} {i:TypeInfo} (h:P.info? t=some i) (w:World):(sizeOf t).run P w = .ok i.size w:=by simp [sizeOf,typeInfo,h]
theorem Q99 {t e:TypeId} (h:P.underlying t=some (.slice e)):P.underlying t=some (.slice (P.elem t)):=by
 rw [h];simp [Program.elem,h]
theorem Qdx {t:TypeId} {i:TypeInfo} (h:P.info? t=some i):P.cellsOf t=i.size:=by simp [Program.cellsOf,h]
theorem Qp5 {t:TypeId} {d:TypeDesc} (hd:P.underlying t=some d):(isAgg t).run P w = .ok (Qgp P t) w:=by
 unfold isAgg Qgp;rw [Sem.run_bind,run_underlying hd w,hd];cases d<;>simp
theorem Qf5 {t:TypeId} {d:TypeDesc} (h:P.underlying t=some d):∃ i,P.info? t=some i:=by
 unfold Program.underlying at h
 grind
theorem Qgd (b o n:Nat):(⟨b,o,none⟩ : Addr).add n=⟨b,o+n,none⟩:=by
 unfold Addr.add;split<;>simp_all
theorem Qyk (t:TypeId) {d:TypeDesc} (hd:P.underlying t=some d) (hA:Qgp P t=true) (b o:Nat) (us:List Value) (hl:us.length=P.cellsOf t)
  (hc:∀ j u,us[j]? = some u→w.cell? ⟨b,o+j,none⟩=some u):(loadVar t ⟨b,o,none⟩).run P w = .ok (.agg us.toArray) w:=by
 obtain ⟨i,hi⟩:=Qf5 P hd;have hload:=run_loadCells_list (P:=P) w ⟨b,o,none⟩ us (fun j u hu=>by rw [Qgd];exact hc j u hu)
 simp_all [Qdx,Go.loadVar,Qp5,Qf4]
theorem Qze (t:TypeId) {d:TypeDesc} (hd:P.underlying t=some d) (hA:Qgp P t=false) (ad:Addr) (u:Value) (hc:w.cell? ad=some u) :
  (loadVar t ad).run P w = .ok u w:=by
 simp [loadVar,Qp5 P hd,hA,hc]
theorem Qt6 {M:Mem} {nb k:Nat} {cs:List V} (h:MR g w M nb) (hM:M k=some (.cells cs)) {j:Nat} {c:V} (hj:cs[j]? = some c) :
  ∃ u,w.cell? ⟨g.box k,j,none⟩=some u∧RV g w c (.cell k j) u∧u.oneCell'=true:=by
 obtain ⟨_,_,vals,e,hh,hr,h1⟩:=h.box k _ hM;obtain ⟨hl,hr⟩:=(Qci _ _ _ _).1 hr;have hlt:j<vals.length:=by grind
 simp_all [List.getElem_mem,Go.World.cell?,Owner.sub]
theorem Qzf {M:Mem} {nb k:Nat} {cs:List V} (h:MR g w M nb) (hM:M k=some (.cells cs)) (o:Nat):∀ (n:Nat),o+n≤cs.length →
  ∃ us:List Value,us.length=n∧(∀ j u,us[j]? = some u→w.cell? ⟨g.box k,o+j,none⟩=some u)∧(∀ u∈us,u.oneCell'=true) ∧
   ∀ j c u,((cs.drop o).take n)[j]? = some c→us[j]? = some u→RV g w c (.cell k (o+j)) u
 | 0,_=>⟨[],rfl,by simp,by simp,by simp⟩
 | n+1,hn=>by
  obtain ⟨us,hl,hc,h1,hr⟩:=Qzf h hM o n (by omega);obtain ⟨u,hu,hru,hu1⟩:=Qt6 h hM (j:=o+n) (c:=cs[o+n]'(by omega)) (List.getElem?_eq_getElem _);refine ⟨us++[u],by simp [hl],fun j u' hj=>?_,fun u' hu'=>?_,fun j c u' hc' hj=>?_⟩
  ·grind
  ·grind
  ·rcases Nat.lt_or_ge j n with hlt|hge
   all_goals grind
theorem Q1n {vs:List V} {j:Nat} {c:V} (h:(V.dems vs)[j]? = some c):∃ c',vs[j]? = some c'∧c=c'.dem:=by
 induction vs generalizing j with
 | nil=>simp [V.dems] at h
 | cons v vs ih =>
  cases j with
  | zero=>simp [V.dems] at h;exact ⟨v,rfl,h.symm⟩
  | succ j=>grind [V.dems]
theorem Q7g (vs:List V):(V.dems vs).length=vs.length:=by
 induction vs with
 | nil=>rfl
 | cons v vs ih=>simp [V.dems,ih]
theorem Qbaa {M:Mem} {nb:Nat} (hM:MR g w M nb) (t:TypeId) {d:TypeDesc} (hd:P.underlying t=some d) {n0 κ:Nat} {p v:V} {M' : Mem} {u:Value}
  (hp:RF g w p u) (hs:Qm n0 κ (.load (Qgp P t) (P.cellsOf t)) [p] M=some (v,M')) :
  M'=M∧∃ val,(Instr.loadAt t u).run P w = .ok val w∧RF g w v val:=by
 cases p<;>simp only [Qm] at hs<;>try (cases hs;done)
 case ptr k off =>
  rw [Qm0] at hp;subst hp;cases hMk:M k with
  | none=>simp [hMk] at hs
  | some b =>
   cases b with
   | mp es=>simp [hMk] at hs
   | cells cs =>
    simp only [hMk] at hs;split at hs
    case isFalse=>cases hs
    case isTrue hle =>
     cases hA:Qgp P t with
     | true =>
      simp only [hA,if_true,Option.some.injEq,Prod.mk.injEq] at hs;obtain ⟨rfl,rfl⟩:=hs;refine ⟨rfl,?_⟩;obtain ⟨us,hl,hc,h1,hr⟩:=Qzf hM hMk off _ hle;refine ⟨.agg us.toArray,?_,fun ℓ=>?_⟩
      ·grind [Go.Instr.loadAt,Go.Instr.sureAddr,Go.Sem.run_bind,Go.Sem.run_pure,Go.Result.andThen_ok,Qyk]
      ·simp only [RV];refine ⟨us,rfl,(Qci _ _ _ _).2 ⟨by rw [Q7g,List.length_take,List.length_drop,hl];omega,fun j c u hc' hu=>?_⟩,h1⟩;obtain ⟨c',hc'',rfl⟩:=Q1n hc'
       grind [Qha]
     | false =>
      simp only [hA,Bool.false_eq_true,if_false] at hs;cases hcs:cs[off]? with
      | none=>simp [hcs] at hs
      | some c =>
       simp [hcs] at hs;obtain ⟨rfl,rfl⟩:=hs;obtain ⟨u,hu,hru,_⟩:=Qt6 hM hMk hcs;exact ⟨rfl,u,by simp [Instr.loadAt,Instr.sureAddr,Qze P t hd hA _ u hu],Qv6 hru⟩
 case cref cs =>
  rw [Qt5] at hp;obtain ⟨b,o,rfl,hr⟩:=hp;split at hs
  case isFalse=>cases hs
  case isTrue hle =>
   cases hA:Qgp P t with
   | true =>
    simp only [hA,if_true,Option.some.injEq,Prod.mk.injEq] at hs;obtain ⟨rfl,rfl⟩:=hs;refine ⟨rfl,?_⟩;have hex:∀ n,n≤cs.length→∃ us:List Value,us.length=n∧(∀ (j:Nat) u,us[j]? = some u→w.cell? ⟨b,o+j,none⟩=some u)∧∀ (j:Nat) y u,cs[j]? = some y→us[j]? = some u→RD g.imm w y u:=by
     intro n
     induction n with
     | zero=>simp_all
     | succ n ih =>
      intro hn;obtain ⟨us,hl,hc,hy⟩:=ih (by omega);obtain ⟨_,u,hu,hru⟩:=Qni hr n (cs[n]'(by omega)) (List.getElem?_eq_getElem _);refine ⟨us++[u],by simp [hl],fun j u' hj=>?_,fun j y u' hj hj'=>?_⟩
      all_goals grind
    obtain ⟨us,hl,hc,hy⟩:=hex _ hle;refine ⟨.agg us.toArray,?_,fun ℓ=>?_⟩
    ·grind [Go.Instr.loadAt,Go.Instr.sureAddr,Go.Sem.run_bind,Go.Sem.run_pure,Go.Result.andThen_ok,Qyk]
    ·simp only [RV];have hget:∀ (j:Nat) c u,((cs.take (P.cellsOf t)).map V.d)[j]? = some c→us[j]? = some u→∃ y,c = .d y∧RD g.imm w y u:=by
      grind
     refine ⟨us,rfl,(Qci _ _ _ _).2 ⟨by simp [hl];omega,fun j c u hcj hu=>?_⟩,fun u hu=>?_⟩
     ·obtain ⟨y,rfl,hy⟩:=hget j c u hcj hu;simpa [RV] using hy
     ·obtain ⟨j,hj,rfl⟩:=List.getElem_of_mem hu;have hj' : j<((cs.take (P.cellsOf t)).map V.d).length:=by simp;omega
      obtain ⟨y,_,hy⟩:=hget j _ us[j] (List.getElem?_eq_getElem hj') (by simp [hj]);exact Q0d hy
   | false =>
    simp only [hA,Bool.false_eq_true,if_false] at hs;cases hcs:cs[0]? with
    | none=>simp [hcs] at hs
    | some y =>
     simp [hcs] at hs;obtain ⟨rfl,rfl⟩:=hs;obtain ⟨_,u,hu,hru⟩:=Qni hr 0 y hcs;have hu' : w.cell? ⟨b,o,none⟩=some u:=hu;exact ⟨rfl,u,by simp [Instr.loadAt,Instr.sureAddr,Qze P t hd hA _ u hu'],RF_d.2 hru⟩
end
end Go.Abs
end
section
namespace Go.Abs
open Go
section
variable (P:Program) {g:G} {w:World}
theorem Qov {k:IntKind} {n:Int} {u:Value} (h:RF g w (.d (.int k n)) u):u = .int k n:=by simpa [RD] using RF_d.1 h
theorem Q05 {b:Bool} {u:Value} (h:RF g w (.d (.bool b)) u):u = .bool b:=by simpa [RD] using RF_d.1 h
theorem Q9d {b:ByteArray} {u:Value} (h:RF g w (.d (.str b)) u):u = .string b:=by simpa [RD] using RF_d.1 h
theorem Qp6 (op:BinOp) (t:TypeId) (x y:Operand) (a b:Value) (h:(match a,b with | .nilIface,.nilIface=>false | .agg _,.agg _=>false|_,_=>true)=true) (w:World) :
  (eqGuard op t x y a b).run P w = .ok () w:=by
 unfold eqGuard;cases a<;>cases b<;>simp at h<;>(split<;>simp [*])
theorem Qbfx (op:BinOp) (tb:Bool) (xt:TypeId) (hd:tb=true→P.underlying xt=some .bool) (x y:Operand) {a b c:D} {u v:Value}
  (ha:RF g w (.d a) u) (hb' : RF g w (.d b) v) (hs:binD op tb a b=some c) :
  ∃ val,((do eqGuard op xt x y u v;binOp op xt u v:Sem Value)).run P w = .ok val w∧RF g w (.d c) val:=by
 cases a<;>cases b<;>simp only [binD] at hs<;>try (cases hs;done)
 case int.int k a k' b =>
  have ha:=Qov ha;have hb':=Qov hb';subst ha hb';rw [Sem.run_bind,Qp6 P op xt x y _ _ rfl w,Result.andThen_ok];cases op<;>simp only at hs
  case shl=>split at hs<;>cases hs;rename_i h;exact ⟨.int k (k.wrap (a*2 ^ min b.toNat k.bits)),by simp [binOp,Op.shift,h],by rw [RF_d];simp [RD]⟩
  case shr=>split at hs<;>cases hs;rename_i h;exact ⟨.int k (a.fdiv (2 ^ min b.toNat k.bits)),by simp [binOp,Op.shift,h],by rw [RF_d];simp [RD]⟩
  case quo =>
   split at hs<;>try (cases hs;done)
   rename_i hk;subst hk;simp only [Q72] at hs;split at hs<;>cases hs;simp_all [Go.binOp,Go.Op.intDiv,RF_d,RD]
  case rem =>
   split at hs<;>try (cases hs;done)
   rename_i hk;subst hk;simp only [Q72] at hs;split at hs<;>cases hs;simp_all [Go.binOp,Go.Op.intDiv,RF_d,RD]
  all_goals
   split at hs<;>try (cases hs;done)
   rename_i hk;subst hk;simp only [Q72] at hs;cases hs
   simp_all [Go.binOp,Go.Op.intArith,Go.Op.intBits,Go.Op.intCmp,RF_d,RD]
 case bool.bool a b =>
  have ha:=Q05 ha;have hb':=Q05 hb';subst ha hb';rw [Sem.run_bind,Qp6 P op xt x y _ _ rfl w,Result.andThen_ok];cases op<;>cases tb<;>simp only at hs<;>cases hs
  ·exact ⟨_,run_eql_bool (P:=P) w xt a b (hd rfl),by rw [RF_d];simp [RD]⟩
  ·exact ⟨_,run_neq_bool (P:=P) w xt a b (hd rfl),by rw [RF_d];simp [RD]⟩
 case str.str a b =>
  have ha:=Q9d ha;have hb':=Q9d hb';subst ha hb';rw [Sem.run_bind,Qp6 P op xt x y _ _ rfl w,Result.andThen_ok];cases op<;>simp only at hs<;>cases hs
  all_goals simp_all [Go.binOp,Go.Op.stringOp,RF_d,RD]
theorem Qbgy (op:UnOp) {a c:D} {u:Value} (ha:RF g w (.d a) u) (hs:unD op a=some c) :
  ∃ val,(Op.unary op u).run P w = .ok val w∧RF g w (.d c) val:=by
 cases op<;>cases a<;>simp only [unD] at hs<;>cases hs
 all_goals simp_all [Qov,Go.Op.unary,Go.Op.intArith,RF_d,RD,Q05]
theorem Qben (s d:TypeId) (k:IntKind) (hs:(P.underlying s).isSome=true) (hd:P.underlying d=some (.int k)) {k' : IntKind} {n:Int} {u:Value} (hu:RF g w (.d (.int k' n)) u) :
  ∃ val,(convert s d u).run P w = .ok val w∧RF g w (.d (.int k (k.wrap n))) val:=by
 have hu:=Qov hu;subst hu;cases hsd:P.underlying s with
 | none=>simp [hsd] at hs
 | some ds =>
  simp_all [Go.convert,Go.run_underlying,Go.Conv.intToInt,RF_d,RD]
theorem Q3p:∀ {l:List (List D)} {ns:List Int},Q5q l=some ns→l=ns.map fun n=>[.int .u8 n]
 | [],ns,h=>by simp [Q5q] at h;subst h;rfl
 | x::l,ns,h=>by
  unfold Q5q at h;split at h<;>try (cases h;done)
  ·rename_i e;cases e
  ·rename_i e;cases e;simp only [Option.map_eq_some_iff] at h;obtain ⟨ms,h1,rfl⟩:=h;rw [Q3p h1];rfl
theorem Qbeo (s d e:TypeId) (hs:P.underlying s=some (.slice e)) (he:P.underlying e=some (.int .u8)) (hd:P.underlying d=some .string) {sz:Nat} {l:List (List D)} {ns:List Int} (hn:Q5q l=some ns) {u:Value} (hu:RF g w (.d (.lst sz l)) u) :
  ∃ val,(convert s d u).run P w = .ok val w∧RF g w (.d (.str (strB ns))) val:=by
 have hl:=Q3p hn;have hu:=RF_d.1 hu;simp only [RD] at hu;obtain ⟨a,cap,rfl,hcap,hr⟩:=hu;refine ⟨.string (strB ns),?_,RF_d.2 (by simp only [RD])⟩;rw [run_convert_bytes_string w s d e _ _ _ hs he hd];rcases hr with h0|⟨b,o,rfl,hr⟩
 ·have:ns=[]:=by rw [hl] at h0;simpa using h0
  subst this;subst h0;cases a with
  | none=>simp [Conv.bytesToString,strB]
  | some a=>exact run_bytesToString w a 0 cap [] (by simpa using run_loadCells_list (P:=P) w a [] (by simp))
 ·have hz:l=[]∨sz=1:=by
   cases ns with
   | nil=>left;simpa using hl
   | cons n ns =>
    right;subst hl;have:=(Qou hr 0 [.int .u8 n] (by simp)).1;simpa using this.symm
  rcases hz with h0|rfl
  ·have:ns=[]:=by rw [hl] at h0;simpa using h0
   subst this;subst h0;exact run_bytesToString w _ 0 cap [] (by simpa using run_loadCells_list (P:=P) w ⟨b,o,none⟩ [] (by simp))
  ·have hc:=run_loadCells_list (P:=P) w ⟨b,o,none⟩ (ns.map (Value.int .u8)) (fun j v hj=>by
    simp only [List.getElem?_map,Option.map_eq_some_iff] at hj;obtain ⟨n,hj,rfl⟩:=hj;have h1:=(Qou hr j [.int .u8 n] (by rw [hl];simp [hj])).2;obtain ⟨_,u,hu1,hu2⟩:=Qni h1 0 (.int .u8 n) rfl;simp only [RD] at hu2;subst hu2;rw [Qgd];simpa using hu1)
   have hlen:l.length=(ns.map (Value.int .u8)).length:=by rw [hl];simp
   rw [hlen];exact run_bytesToString w _ _ cap ns hc
theorem Qbab {x v:V} {u:Value} {n0 κ:Nat} {M M' : Mem} (hx:RF g w x u) (hs:Qm n0 κ .nilchk [x] M=some (v,M')) (o:Oper) (a:Act) (y:Operand) (ho:o.op = .nilCheck y) (hy:a.eval y=u) :
  M'=M∧∃ val,(execOp a.eval o).run P w = .ok (.value val) w∧RF g w v val:=by
 cases x<;>simp only [Qm] at hs<;>cases hs
 ·rw [Qm0] at hx;subst hx;exact ⟨rfl,_,by simp [execOp,ho,hy],Qm0.2 rfl⟩
 ·have hx':=Qt5.1 hx;obtain ⟨b,o',rfl,_⟩:=hx';exact ⟨rfl,_,by simp [execOp,ho,hy],hx⟩
 ·have hx':=hx .free;simp only [RV] at hx';obtain ⟨vs,rfl,_⟩:=hx';exact ⟨rfl,_,by simp [execOp,ho,hy],hx⟩
theorem Qbac (s:TypeId) (fs:Array Field) (hs' : P.underlying s=some (.struct fs)) (f:Nat) (fd:Field) (hf:fs[f]? = some fd) (h0:P.cellsOf fd.type≠0)
  {x v:V} {u:Value} {n0 κ:Nat} {M M' : Mem} (hx:RF g w x u) (hs:Qm n0 κ (.fld fd.offset) [x] M=some (v,M')) :
  M'=M∧∃ val,(Instr.fieldAt s u f).run P w = .ok val w∧RF g w v val:=by
 have hsz:∀ w,(sizeOf fd.type).run P w = .ok (P.cellsOf fd.type) w:=by
  intro w;cases hi:P.info? fd.type with
  | none=>simp [Program.cellsOf,hi] at h0
  | some i=>rw [Qf4 P hi,Qdx P hi]
 cases x<;>simp only [Qm] at hs<;>cases hs
 ·rw [Qm0] at hx;subst hx;refine ⟨rfl,_,?_,Qm0.2 rfl⟩;simp [Instr.fieldAt,run_underlying hs',hf,Instr.sureAddr,fieldPlace,hsz,h0,Qgd]
 ·obtain ⟨b,o',rfl,hr⟩:=Qt5.1 hx;refine ⟨rfl,.pointer (some ⟨b,o'+fd.offset,none⟩),?_,Qt5.2 ⟨_,_,rfl,Qu9 fun j y hj=>?_⟩⟩
  ·simp [Instr.fieldAt,run_underlying hs',hf,Instr.sureAddr,fieldPlace,hsz,h0,Qgd]
  grind [Qni]
theorem Qbd2 (t e:TypeId) (ht:P.underlying t=some (.slice e)) (h0:P.cellsOf e≠0)
  {x i v:V} {u ui:Value} {n0 κ:Nat} {M M' : Mem} (hx:RF g w x u) (hi:RF g w i ui) (hs:Qm n0 κ (.idx (P.cellsOf e)) [x,i] M=some (v,M')) :
  M'=M∧∃ val,(Instr.indexAt t u ui).run P w = .ok val w∧RF g w v val:=by
 have hsz:∀ w,(sizeOf e).run P w = .ok (P.cellsOf e) w:=by
  intro w;cases hi:P.info? e with
  | none=>simp [Program.cellsOf,hi] at h0
  | some i=>rw [Qf4 P hi,Qdx P hi]
 have lst:∀ (l:List (List D)) (k:IntKind) (n:Int),RD g.imm w (.lst (P.cellsOf e) l) u→ui = .int k n→0≤n→∀ c,l[n.toNat]? = some c →
   ∃ val,(Instr.indexAt t u ui).run P w = .ok val w∧RF g w (.cref c) val:=by
  intro l k n hl hui hn c hc;simp only [RD] at hl;obtain ⟨a,cap,rfl,_,hl⟩:=hl;subst hui;have hlt:n.toNat<l.length:=(List.getElem?_eq_some_iff.1 hc).1;rcases hl with rfl|⟨b,o,rfl,hl⟩
  ·simp at hlt
  ·refine ⟨.pointer (some ⟨b,o+n.toNat*P.cellsOf e,none⟩),?_,Qt5.2 ⟨_,_,rfl,(Qou hl _ _ hc).2⟩⟩;simp only [Instr.indexAt,asIntOf,Sem.run_bind,Sem.run_pure,Result.andThen_ok,run_underlying ht]
   simp_all [if_pos,Qgd]
 cases i<;>try (simp [Qm] at hs;done)
 rename_i di;cases di<;>try (simp [Qm] at hs;done)
 rename_i k n;have hui:=Qov hi;cases x<;>simp only [Qm] at hs<;>try (cases hs;done)
 case d dx =>
  cases dx<;>simp only at hs<;>try (cases hs;done)
  split at hs
  case isFalse=>cases hs
  case isTrue h =>
   simp only [Bool.and_eq_true,decide_eq_true_eq] at h;simp only [Option.map_eq_some_iff,Prod.mk.injEq] at hs;obtain ⟨c,hc,rfl,rfl⟩:=hs;rw [RF_d,h.1] at hx
   grind
 case own =>
  split at hs
  case isFalse=>cases hs
  case isTrue h =>
   simp only [Bool.and_eq_true,decide_eq_true_eq] at h;simp only [Option.map_eq_some_iff,Prod.mk.injEq] at hs;obtain ⟨c,hc,rfl,rfl⟩:=hs;rename_i sz' l;obtain ⟨rfl,hn⟩:=h;exact ⟨rfl,lst _ k n (Ql5 (hx .free)) hui hn c hc⟩
 case sl =>
  split at hs
  case isFalse=>cases hs
  case isTrue h =>
   simp only [Bool.and_eq_true,decide_eq_true_eq] at h;cases hs;rw [Q4u] at hx;subst hx hui;refine ⟨rfl,_,?_,Qm0.2 rfl⟩;simp only [Instr.indexAt,asIntOf,Sem.run_bind,Sem.run_pure,Result.andThen_ok,run_underlying ht]
   simp_all [if_pos,Qgd]
theorem Qbad (t e:TypeId) (len:Nat) (ht:P.underlying t=some (.array len e)) (h0:P.cellsOf e≠0)
  {x i v:V} {u ui:Value} {n0 κ:Nat} {M M' : Mem} (hx:RF g w x u) (hi:RF g w i ui) (hs:Qm n0 κ (.idxarr (P.cellsOf e) len) [x,i] M=some (v,M')) :
  M'=M∧∃ val,(Instr.indexAt t u ui).run P w = .ok val w∧RF g w v val:=by
 have hsz:∀ w,(sizeOf e).run P w = .ok (P.cellsOf e) w:=by
  intro w;cases hi:P.info? e with
  | none=>simp [Program.cellsOf,hi] at h0
  | some i=>rw [Qf4 P hi,Qdx P hi]
 cases i<;>try (simp [Qm] at hs;done)
 rename_i di;cases di<;>try (simp [Qm] at hs;done)
 rename_i k n;have hui:=Qov hi;simp only [Qm] at hs;split at hs
 case isFalse=>cases hs
 case isTrue h =>
  simp only [Bool.and_eq_true,decide_eq_true_eq] at h;cases x<;>simp only at hs<;>cases hs
  ·rw [Qm0] at hx;subst hx hui;refine ⟨rfl,_,?_,Qm0.2 rfl⟩;simp only [Instr.indexAt,asIntOf,Sem.run_bind,Sem.run_pure,Result.andThen_ok,run_underlying ht,Instr.sureAddr];rw [if_pos h];simp [hsz,Qgd]
  ·obtain ⟨b,o',rfl,hr⟩:=Qt5.1 hx;subst hui;refine ⟨rfl,.pointer (some ⟨b,o'+n.toNat*P.cellsOf e,none⟩),?_,Qt5.2 ⟨_,_,rfl,Qu9 fun j y hj=>?_⟩⟩
   ·simp only [Instr.indexAt,asIntOf,Sem.run_bind,Sem.run_pure,Result.andThen_ok,run_underlying ht,Instr.sureAddr];rw [if_pos h];simp [hsz,Qgd]
   grind [Qni]
theorem Qbfy (t ty e:TypeId) (ht:P.underlying t=some (.slice e))
  {M:Mem} {nb:Nat} (hM:MR g w M nb) {x v:V} {u:Value} {n0 κ:Nat} {M' : Mem} (hx:RF g w x u) (hs:Qm n0 κ .len [x] M=some (v,M')) :
  M'=M∧∃ val,(Builtin.len_ #[t] ty #[u]).run P w = .ok val w∧RF g w v val:=by
 have key:∀ (a:Option Addr) (n c:Nat),u = .slice a n c→∃ val,(Builtin.len_ #[t] ty #[u]).run P w = .ok val w∧RF g w (.d (.int .i64 n)) val:=by
  rintro a n c rfl;exact ⟨_,run_len_slice (P:=P) w t ty a n c (Q99 P ht),by rw [RF_d];simp [RD,goInt]⟩
 have lst:∀ sz l,RD g.imm w (.lst sz l) u→∃ val,(Builtin.len_ #[t] ty #[u]).run P w = .ok val w∧RF g w (.d (.int .i64 l.length)) val:=by
  grind [RD]
 cases x<;>simp only [Qm] at hs<;>try (cases hs;done)
 case d dx =>
  cases dx<;>simp only at hs<;>cases hs;exact ⟨rfl,lst _ _ (RF_d.1 hx)⟩
 case own=>cases hs;exact ⟨rfl,lst _ _ (Ql5 (hx .free))⟩
 case nils=>cases hs;have h:=hx .free;simp only [RV] at h;grind
 case sl=>cases hs;exact ⟨rfl,key _ _ _ (Q4u.1 hx)⟩
theorem Qbep (t ty:TypeId) (ht:P.underlying t=some .string)
  {M:Mem} {x v:V} {u:Value} {n0 κ:Nat} {M' : Mem} (hx:RF g w x u) (hs:Qm n0 κ .lens [x] M=some (v,M')) :
  M'=M∧∃ val,(Builtin.len_ #[t] ty #[u]).run P w = .ok val w∧RF g w v val:=by
 cases x<;>try (simp [Qm] at hs;done)
 rename_i dx;cases dx<;>try (simp [Qm] at hs;done)
 simp only [Qm] at hs;cases hs;have:=Q9d hx;subst this;exact ⟨rfl,_,run_len_string (P:=P) w t ty _ ht,by rw [RF_d];simp [RD,goInt]⟩
theorem Qbeq (t:TypeId) (ht:P.underlying t=some .string)
  {M:Mem} {x i v:V} {u ui:Value} {n0 κ:Nat} {M' : Mem} (hx:RF g w x u) (hi:RF g w i ui) (hs:Qm n0 κ .idxs [x,i] M=some (v,M')) :
  M'=M∧∃ val,(Instr.index t u ui).run P w = .ok val w∧RF g w v val:=by
 cases x<;>try (simp [Qm] at hs;done)
 rename_i dx;cases dx<;>try (simp [Qm] at hs;done)
 cases i<;>try (simp [Qm] at hs;done)
 rename_i dy;cases dy<;>try (simp [Qm] at hs;done)
 simp only [Qm] at hs;split at hs<;>cases hs;rename_i hi';rw [Q9d hx,Qov hi];refine ⟨rfl,_,?_,RF_d.2 (by simp only [RD];rfl)⟩;rw [run_index_string (P:=P) w t _ _ _ ht,dif_pos hi']
theorem Qber (ts:Array TypeId) (ty:TypeId) {x y v:V} {u z:Value} {n0 κ:Nat} {M M' : Mem} (hx:RF g w x u) (hy:RF g w y z) (hs:Qm n0 κ .max2 [x,y] M=some (v,M')) :
  M'=M∧∃ val,(Builtin.max_ ts ty #[u,z]).run P w = .ok val w∧RF g w v val:=by
 cases x<;>try (simp [Qm] at hs;done)
 rename_i dx;cases dx<;>try (simp [Qm] at hs;done)
 cases y<;>try (simp [Qm] at hs;done)
 rename_i dy;cases dy<;>try (simp [Qm] at hs;done)
 simp only [Qm] at hs;split at hs<;>cases hs;rw [Qov hx,Qov hy];exact ⟨rfl,_,run_max_int2 (P:=P) w ts ty _ _ _ _,by rw [RF_d];simp [RD]⟩
theorem Qbes (ts:Array TypeId) (ty:TypeId) {x y v:V} {u z:Value} {n0 κ:Nat} {M M' : Mem} (hx:RF g w x u) (hy:RF g w y z) (hs:Qm n0 κ .min2 [x,y] M=some (v,M')) :
  M'=M∧∃ val,(Builtin.min_ ts ty #[u,z]).run P w = .ok val w∧RF g w v val:=by
 cases x<;>try (simp [Qm] at hs;done)
 rename_i dx;cases dx<;>try (simp [Qm] at hs;done)
 cases y<;>try (simp [Qm] at hs;done)
 rename_i dy;cases dy<;>try (simp [Qm] at hs;done)
 simp only [Qm] at hs;split at hs<;>cases hs;rw [Qov hx,Qov hy];exact ⟨rfl,_,run_min_int2 (P:=P) w ts ty _ _ _ _,by rw [RF_d];simp [RD]⟩
theorem Qbet {c x y v:V} {uc ux uy:Value} {n0 κ:Nat} {M M' : Mem} (hc:RF g w c uc) (hx:RF g w x ux) (hy:RF g w y uy) (hs:Qm n0 κ .pick [c,x,y] M=some (v,M')) :
  M'=M∧∃ val,((do pure (Next.value (if ← asBool uc then ux else uy)):Sem Next)).run P w = .ok (.value val) w∧RF g w v val:=by
 cases c<;>try (simp [Qm] at hs;done)
 rename_i dx;cases dx<;>try (simp [Qm] at hs;done)
 simp only [Qm] at hs;rename_i b;cases hs;rw [Q05 hc];cases b
 ·exact ⟨rfl,uy,by simp [asBool],by simpa using hy⟩
 ·exact ⟨rfl,ux,by simp [asBool],by simpa using hx⟩
end
end Go.Abs
end
section
namespace Go.Abs
open Go
section
variable (P:Program) {g:G} {w:World}
def Qn5 (lo hi:Bool) (bs:List V):Option (Option Int×Option Int) :=
 match lo,hi,bs with
 | false,false,[]=>some ((none:Option Int),(none:Option Int))
 | true,false,[.d (.int _ a)]=>some (some a,none)
 | false,true,[.d (.int _ b)]=>some (none,some b)
 | true,true,[.d (.int _ a),.d (.int _ b)]=>some (some a,some b)
 | _,_,_=>none
theorem Qxj (t e:TypeId) (ht:P.underlying t=some (.slice e)) (h0:P.cellsOf e≠0) (lo hi:Option Value) {bs:List V} {la hb:Option Int}
  (hb' : RFs g w bs (lo.toList++hi.toList)) (hs:Qn5 lo.isSome hi.isSome bs=some (la,hb)) (a:Option Addr) (len cap:Nat)
  (h1:0≤la.getD 0) (h2:la.getD 0≤hb.getD len) (h3:hb.getD len≤len) (h4:len≤cap) :
  (Instr.sliceAt t (.slice a len cap) lo hi none).run P w = .ok (sliced a (la.getD 0).toNat (hb.getD len).toNat cap (P.cellsOf e)) w:=by
 have hsz:∀ w,(sizeOf (P.elem t)).run P w = .ok (P.cellsOf e) w:=by
  intro w;have:P.elem t=e:=by simp [Program.elem,ht]
  rw [this];cases hi:P.info? e with
  | none=>simp [Program.cellsOf,hi] at h0
  | some i=>rw [Qf4 P hi,Qdx P hi]
 have ht':=Q99 P ht;rw [run_sliceAt_slice (P:=P) w t _ _ _ _ ht'];cases lo with
 | none =>
  cases hi with
  | none =>
   simp only [Option.toList,List.append_nil,Option.isSome] at hb' hs;cases bs with
   | cons b bs=>simp [RFs] at hb'
   | nil =>
    simp only [Qn5,Option.some.injEq,Prod.mk.injEq] at hs;obtain ⟨rfl,rfl⟩:=hs
    simp_all [Go.run_slice_all]
  | some hv =>
   simp only [Option.toList,List.nil_append,Option.isSome] at hb' hs
   match bs,hb',hs with
   | [.d (.int k n)],hb',hs =>
    simp only [Qn5,Option.some.injEq,Prod.mk.injEq] at hs;obtain ⟨rfl,rfl⟩:=hs;obtain ⟨u,us,hu,hr,_⟩:=hb';simp at hu;obtain ⟨rfl,rfl⟩:=hu;rw [Qov hr,run_slice_h (P:=P) w t a len cap ht' k n (by simp at h2;omega) (by simp at h3;omega),hsz];simp
 | some lv =>
  cases hi with
  | none =>
   simp only [Option.toList,List.append_nil,Option.isSome] at hb' hs
   match bs,hb',hs with
   | [.d (.int k n)],hb',hs =>
    simp only [Qn5,Option.some.injEq,Prod.mk.injEq] at hs;obtain ⟨rfl,rfl⟩:=hs;obtain ⟨u,us,hu,hr,_⟩:=hb';simp at hu;obtain ⟨rfl,rfl⟩:=hu;rw [Qov hr,run_slice_l (P:=P) w t a len cap ht' k n (by simpa using h1) (by simpa using h2),hsz];simp
  | some hv =>
   simp only [Option.toList,Option.isSome,List.cons_append,List.nil_append] at hb' hs
   match bs,hb',hs with
   | [.d (.int k n),.d (.int k' m)],hb',hs =>
    simp only [Qn5,Option.some.injEq,Prod.mk.injEq] at hs;obtain ⟨rfl,rfl⟩:=hs;obtain ⟨u,us,hu,hr,hb'⟩:=hb';simp at hu;obtain ⟨rfl,rfl⟩:=hu;obtain ⟨u,us,hu,hr',_⟩:=hb';simp at hu;obtain ⟨rfl,rfl⟩:=hu;rw [Qov hr,Qov hr',run_slice_lh (P:=P) w t a len cap ht' k k' n m (by simpa using h1) (by simpa using h2) (by simp at h3;omega),hsz];simp
theorem Qyl (n0 κ sz:Nat) (lo hi:Bool) (x:V) (bs:List V) (M:Mem):Qm n0 κ (.slice sz lo hi) (x::bs) M =
  match Qn5 lo hi bs with
  | some (a,b) =>
   match x with
   | .d (.lst sz' l) | .own sz' l =>
    let h:=b.getD l.length;let a:=a.getD 0
    if sz'=sz&&decide (0≤a)&&decide (a≤h)&&decide (h≤l.length) then some (.d (.lst sz ((l.take h.toNat).drop a.toNat)),M) else none
   | .sl sz' k off len cap =>
    let h:=b.getD len;let a:=a.getD 0
    if sz'=sz&&decide (0≤a)&&decide (a≤h)&&decide (h≤len)&&decide (len≤cap) then some ((if cap=a.toNat then .sl sz k off 0 0 else .sl sz k (off+a.toNat*sz) (h.toNat-a.toNat) (cap-a.toNat)),M) else none
   | .nils sz'=>if sz'=sz&&decide (0≤a.getD 0)&&decide (a.getD 0≤b.getD 0)&&decide (b.getD 0≤0) then some (.nils sz,M) else none
   | _=>none
  | none=>none:=rfl
theorem Q75 (t e:TypeId) (ht:P.underlying t=some (.slice e)) (h0:P.cellsOf e≠0) (lo hi:Option Value) {x:V} {bs:List V} {v:V} {u:Value} {n0 κ:Nat} {M M' : Mem}
  (hx:RF g w x u) (hb:RFs g w bs (lo.toList++hi.toList)) (hs:Qm n0 κ (.slice (P.cellsOf e) lo.isSome hi.isSome) (x::bs) M=some (v,M')) :
  M'=M∧∃ val,(Instr.sliceAt t u lo hi none).run P w = .ok val w∧RF g w v val:=by
 rw [Qyl] at hs;cases ha:Qn5 lo.isSome hi.isSome bs with
 | none=>simp [ha] at hs
 | some ab =>
  obtain ⟨la,hbd⟩:=ab;simp only [ha] at hs;have lst:∀ sz' l,RD g.imm w (.lst sz' l) u→sz'=P.cellsOf e→0≤la.getD 0→la.getD 0≤hbd.getD l.length→hbd.getD l.length≤l.length →
    ∃ val,(Instr.sliceAt t u lo hi none).run P w = .ok val w∧RF g w (.d (.lst (P.cellsOf e) ((l.take (hbd.getD l.length).toNat).drop (la.getD 0).toNat))) val:=by
   intro sz' l hl hsz' h1 h2 h3;subst hsz';simp only [RD] at hl;obtain ⟨a,cap,rfl,hcap,hl⟩:=hl;refine ⟨_,Qxj P t e ht h0 lo hi hb ha a l.length cap h1 h2 h3 hcap,?_⟩;rw [RF_d];simp only [RD,sliced,List.length_drop,List.length_take];have e1:min (hbd.getD l.length).toNat l.length=(hbd.getD l.length).toNat:=by omega
   rw [e1];refine ⟨_,_,rfl,by omega,?_⟩;rcases hl with rfl|⟨b,o,rfl,hl⟩
   ·left;simp
   ·by_cases hm:cap=(la.getD 0).toNat
    ·grind
    ·right;refine ⟨b,o+(la.getD 0).toNat*P.cellsOf e,by rw [if_neg hm];simp [Qgd],Qzd fun i x hi=>?_⟩;have hi' : l[(la.getD 0).toNat+i]? = some x:=by
      grind
     have:=Qou hl _ _ hi'
     grind
  cases x<;>(try simp only at hs)<;>try (cases hs;done)
  case d dx =>
   cases dx<;>(try simp only at hs)<;>try (cases hs;done)
   split at hs
   case isFalse=>cases hs
   case isTrue h =>
    simp only [Bool.and_eq_true,decide_eq_true_eq] at h;cases hs;exact ⟨rfl,lst _ _ (RF_d.1 hx) h.1.1.1 h.1.1.2 h.1.2 h.2⟩
  case own =>
   split at hs
   case isFalse=>cases hs
   case isTrue h =>
    simp only [Bool.and_eq_true,decide_eq_true_eq] at h;cases hs;exact ⟨rfl,lst _ _ (Ql5 (hx .free)) h.1.1.1 h.1.1.2 h.1.2 h.2⟩
  case nils sz' =>
   split at hs
   case isFalse=>cases hs
   case isTrue h =>
    simp only [Bool.and_eq_true,decide_eq_true_eq] at h;cases hs;obtain ⟨ad,rfl⟩ : ∃ ad,u = .slice ad 0 0:=by simpa [RV] using hx .free
    refine ⟨rfl,_,Qxj P t e ht h0 lo hi hb ha ad 0 0 h.1.1.2 h.1.2 h.2 (Nat.le_refl _),fun ℓ=>?_⟩
    grind [RV,Go.sliced]
  case sl sz' k off len cap =>
   split at hs
   case isFalse=>cases hs
   case isTrue h =>
    simp only [Bool.and_eq_true,decide_eq_true_eq] at h;cases hs;rw [Q4u] at hx;subst hx;refine ⟨rfl,_,Qxj P t e ht h0 lo hi hb ha _ len cap h.1.1.1.2 h.1.1.2 h.1.2 h.2,?_⟩;have hlc:=h.2;by_cases hm:cap=(la.getD 0).toNat
    ·rw [if_pos hm,Q4u];simp only [sliced]
     grind
    simp_all [if_neg,Q4u,Go.sliced,Qgd]
theorem Qbeu (f:FuncId) {caps:List V} {us:List Value} {v:V} {n0 κ:Nat} {M M' : Mem} (hx:RFs g w caps us) (hs:Qm n0 κ (.func f) caps M=some (v,M')) :
  M'=M∧RF g w v (.func (.func f) #[] us.toArray):=by
 have:Qm n0 κ (.func f) caps M=some (.clo f caps,M):=by cases caps<;>rfl
 rw [this] at hs;cases hs;refine ⟨rfl,fun ℓ=>?_⟩;simp only [RV];exact ⟨us,rfl,(Qci _ _ _ _).2 ⟨Qf3 hx,fun j c u hc hu=>Qnh hx j c u hc hu _⟩⟩
theorem Q76 (t:TypeId) {d:TypeDesc} (hd:P.underlying t=some d) {cs:List V} {vs:List Value} (hlen:vs.length=cs.length) (hr:∀ (j:Nat) (c:V) (u:Value),cs[j]? = some c→vs[j]? = some u→RF g w c u) (h1:∀ u∈vs,u.oneCell'=true)
  (off:Nat) {v:V} (hv:(if Qgp P t then some (.agg ((cs.drop off).take (P.cellsOf t))) else cs[off]?)=some v) :
  ∃ val,(part t vs.toArray off).run P w = .ok val w∧RF g w v val:=by
 obtain ⟨i,hi⟩:=Qf5 P hd;cases hA:Qgp P t with
 | true =>
  simp only [hA,if_true,Option.some.injEq] at hv;subst hv;refine ⟨.agg ((vs.drop off).take (P.cellsOf t)).toArray,?_,fun ℓ=>?_⟩
  ·simp_all [Go.part,Go.Sem.run_bind,Qp5,Go.Result.andThen_ok,if_true,Qf4,Go.Sem.run_pure,Qdx,Array.ext',List.extract,Nat.add_sub_cancel_left]
  ·simp only [RV];refine ⟨_,rfl,(Qci _ _ _ _).2 ⟨by simp [hlen],fun j c u hc hu=>?_⟩,fun u hu=>h1 u (List.mem_of_mem_drop (List.mem_of_mem_take hu))⟩;simp only [List.getElem?_take,List.getElem?_drop] at hc hu;split at hc<;>simp_all;exact hr _ _ _ hc hu _
 | false =>
  simp only [hA,Bool.false_eq_true,if_false] at hv;have hlt:=(List.getElem?_eq_some_iff.1 hv).1;refine ⟨vs[off]'(by omega),?_,hr off v _ hv (List.getElem?_eq_getElem _)⟩
  simp_all [Go.part,Qp5,List.getElem?_eq_getElem]
theorem Q06 {cs:List V} {u:Value} (hf:Flat (.agg cs)) (h:RF g w (.agg cs) u) :
  ∃ vs:List Value,u = .agg vs.toArray∧vs.length=cs.length∧(∀ (j:Nat) (c:V) (x:Value),cs[j]? = some c→vs[j]? = some x→RF g w c x)∧∀ x∈vs,x.oneCell'=true:=by
 have h':=h .free;simp only [RV] at h';obtain ⟨vs,rfl,hr,h1⟩:=h';obtain ⟨hl,hr⟩:=(Qci _ _ _ _).1 hr;refine ⟨vs,rfl,hl,fun j c x hc hx ℓ=>?_,h1⟩;have hcd:c.dem=c:=by
  have hf' : V.dems cs=cs:=by simpa [Flat,V.dem] using hf
  have hc' : (V.dems cs)[j]? = some c:=by rw [hf'];exact hc
  obtain ⟨c',hc'',rfl⟩:=Q1n hc';exact Qdj c'
 exact Ql6 hcd (hr j c x hc hx)
theorem Qbc1 (t:TypeId) (fs:Array Field) (ht:P.underlying t=some (.struct fs)) (f:Nat) (fd:Field) (hf:fs[f]? = some fd) {d:TypeDesc} (hd:P.underlying fd.type=some d)
  {x v:V} {u:Value} {n0 κ:Nat} {M M' : Mem} (hfl:Flat x) (hx:RF g w x u) (hs:Qm n0 κ (.field (Qgp P fd.type) fd.offset (P.cellsOf fd.type)) [x] M=some (v,M')) :
  M'=M∧∃ val,(Instr.field t u f).run P w = .ok val w∧RF g w v val:=by
 cases x<;>try (simp [Qm] at hs;done)
 rename_i cs;obtain ⟨vs,rfl,hl,hr,h1⟩:=Q06 hfl hx;simp only [Qm] at hs;split at hs
 case isFalse=>cases hs
 case isTrue hle =>
  have hv:(if Qgp P fd.type then some (.agg ((cs.drop fd.offset).take (P.cellsOf fd.type))) else cs[fd.offset]?)=some v∧M'=M:=by
   grind
  obtain ⟨val,hrun,hrf⟩:=Q76 P fd.type hd hl hr h1 fd.offset hv.1
  simp_all [Go.Instr.field,Go.run_underlying,Go.asAgg]
theorem Qbae (t e:TypeId) (n:Nat) (ht:P.underlying t=some (.array n e)) {d:TypeDesc} (hd:P.underlying e=some d)
  {x i v:V} {u ui:Value} {n0 κ:Nat} {M M' : Mem} (hfl:Flat x) (hx:RF g w x u) (hi:RF g w i ui) (hs:Qm n0 κ (.idxval (Qgp P e) (P.cellsOf e) n) [x,i] M=some (v,M')) :
  M'=M∧∃ val,(Instr.index t u ui).run P w = .ok val w∧RF g w v val:=by
 cases x<;>try (simp [Qm] at hs;done)
 cases i<;>try (simp [Qm] at hs;done)
 rename_i cs di;cases di<;>try (simp [Qm] at hs;done)
 rename_i k m;obtain ⟨vs,rfl,hl,hr,h1⟩:=Q06 hfl hx;obtain ⟨it,hit⟩:=Qf5 P hd;have:=Qov hi;subst this;simp only [Qm] at hs;split at hs
 case isFalse=>cases hs
 case isTrue hle =>
  simp only [Bool.and_eq_true,decide_eq_true_eq] at hle;have hv:(if Qgp P e then some (.agg ((cs.drop (m.toNat*P.cellsOf e)).take (P.cellsOf e))) else cs[m.toNat*P.cellsOf e]?)=some v∧M'=M:=by
   grind
  obtain ⟨val,hrun,hrf⟩:=Q76 P e hd hl hr h1 _ hv.1
  simp_all [Go.Instr.index,Go.asIntOf,Go.Sem.run_bind,Go.Sem.run_pure,Go.Result.andThen_ok,Go.run_underlying,if_pos,Qf4,Qdx]
theorem Q4v {x:V} {u:Value} (hf:Flat x) (hx:RF g w x u) (hk:Qdy x=true) :
  u.cells.toList.length=x.cells.length∧(∀ (j:Nat) (c:V) (y:Value),x.cells[j]? = some c→u.cells.toList[j]? = some y→RF g w c y)∧∀ y∈u.cells.toList,y.oneCell'=true:=by
 have one:u.cells = #[u]→x.cells=[x]→u.oneCell'=true→u.cells.toList.length=x.cells.length∧(∀ (j:Nat) (c:V) (y:Value),x.cells[j]? = some c→u.cells.toList[j]? = some y→RF g w c y)∧∀ y∈u.cells.toList,y.oneCell'=true:=by
  grind
 cases x<;>simp [Qdy] at hk
 case agg cs =>
  obtain ⟨vs,rfl,hl,hr,h1⟩:=Q06 hf hx
  grind [Go.Value.cells,V.cells]
 case d dx =>
  have:=RF_d.1 hx;cases dx<;>simp only [RD] at this
  ·subst this;exact one rfl rfl rfl
  ·subst this;exact one rfl rfl rfl
  ·subst this;exact one rfl rfl rfl
  ·obtain ⟨a,cap,rfl,_⟩:=this;exact one rfl rfl rfl
  ·obtain ⟨b,rfl,_⟩:=this;exact one rfl rfl rfl
 case own=>simp [Flat,V.dem] at hf
 case ownT=>simp [Flat,V.dem] at hf
 case ownV=>simp [Flat,V.dem] at hf
 case ptr=>have:=Qm0.1 hx;subst this;exact one rfl rfl rfl
 case nilp=>have:=hx .free;simp only [RV] at this;subst this;exact one rfl rfl rfl
 case f dx =>
  have:=hx .free;simp only [RV] at this;cases dx<;>simp only [RD] at this
  ·subst this;exact one rfl rfl rfl
  ·subst this;exact one rfl rfl rfl
  ·subst this;exact one rfl rfl rfl
  ·obtain ⟨a,cap,rfl,_⟩:=this;exact one rfl rfl rfl
  ·obtain ⟨b,rfl,_⟩:=this;exact one rfl rfl rfl
 case nils sz=>have:=hx .free;simp only [RV] at this;obtain ⟨ad,rfl⟩:=this;exact one rfl rfl rfl
 case cref=>obtain ⟨b,o,rfl,_⟩:=Qt5.1 hx;exact one rfl rfl rfl
 case sl=>have:=Q4u.1 hx;subst this;exact one rfl rfl rfl
 case clo=>have:=hx .free;simp only [RV] at this;obtain ⟨vs,rfl,_⟩:=this;exact one rfl rfl rfl
 case mp=>have:=hx .free;simp only [RV] at this;subst this;exact one rfl rfl rfl
theorem Qv7 (d:Nat) (X Y:Array Value):∀ (fs:List Field) (i:Nat) (ks:List Nat) (xs ys:List V) (b:Bool),Qgl P i fs=some ks→Qd6 ks xs ys=some b →
  (∀ (j:Nat) (c:V) (u:Value),xs[j]? = some c→X[i+j]? = some u→RF g w c u)→(∀ (j:Nat) (c:V) (u:Value),ys[j]? = some c→Y[i+j]? = some u→RF g w c u) →
  i+xs.length≤X.size→i+ys.length≤Y.size→(Op.eqFields (d+1) X Y fs).run P w = .ok b w
 | [],i,ks,xs,ys,b,hk,he,_,_,_,_=>by
  simp only [Qgl,Option.some.injEq] at hk;subst hk
  match xs,ys,he with
  | [],[],he=>simp_all [Qd6,Option.some.injEq,Go.Op.eqFields]
 | f::fs,i,ks,xs,ys,b,hk,he,hx,hy,hX,hY=>by
  simp only [Qgl] at hk;split at hk<;>try (cases hk;done)
  rename_i hf;split at hk<;>try (cases hk;done)
  rename_i k ks' hk1 hk2;simp only [Option.some.injEq] at hk;subst hk;have hpart:∀ (Z:Array Value) (u:Value),Qgp P f.type=false→(∃ t,P.underlying f.type=some t)→Z[f.offset]? = some u→(part f.type Z f.offset).run P w = .ok u w:=by
   simp_all [Go.part,Qp5]
  have rest:∀ (x y:V) (xs' ys' : List V) (u v:Value) (r:Bool) (b' : Bool),xs=x::xs'→ys=y::ys'→X[i]? = some u→Y[i]? = some v→Qgp P f.type=false→(∃ t,P.underlying f.type=some t) →
    (Op.equalIn (d+1) f.type u v).run P w = .ok r w→Qd6 ks' xs' ys'=some b'→(Op.eqFields (d+1) X Y (f::fs)).run P w = .ok (r&&b') w:=by
   rintro x y xs' ys' u v r b' rfl rfl hu hv hA ht hr he';have ih:=Qv7 d X Y fs (i+1) ks' xs' ys' b' hk2 he' (fun j c z hc hz=>hx (j+1) c z (by simpa using hc) (by grind))
    (fun j c z hc hz=>hy (j+1) c z (by simpa using hc) (by grind)) (by simp at hX;omega) (by simp at hY;omega)
   have hu':=hpart X u hA ht (by rw [hf.1];exact hu);have hv':=hpart Y v hA ht (by rw [hf.1];exact hv);simp only [Op.eqFields,hf.2,ne_eq,not_false_eq_true,if_true,Sem.run_bind,hu',hv',Result.andThen_ok,hr];cases r
   ·simp
   ·simpa using ih
  have hXi:∀ x xs',xs=x::xs'→∃ u,X[i]? = some u∧RF g w x u:=by
   rintro x xs' rfl;have hlt:i<X.size:=by simp at hX;omega
   exact ⟨X[i],by simp [hlt],hx 0 x X[i] rfl (by simp [hlt])⟩
  have hYi:∀ y ys',ys=y::ys'→∃ u,Y[i]? = some u∧RF g w y u:=by
   rintro y ys' rfl;have hlt:i<Y.size:=by simp at hY;omega
   exact ⟨Y[i],by simp [hlt],hy 0 y Y[i] rfl (by simp [hlt])⟩
  unfold Qhz at hk1;split at hk1<;>cases hk1
  ·rename_i kk ht
   match xs,ys,he with
   | .d (.int k1 a)::xs',.d (.int k2 c)::ys',he =>
    simp only [Qd6] at he;split at he<;>try (cases he;done)
    rename_i hkk;subst hkk;simp only [Option.map_eq_some_iff] at he;obtain ⟨b',he',rfl⟩:=he;obtain ⟨u,hu,ru⟩:=hXi _ _ rfl;obtain ⟨v,hv,rv⟩:=hYi _ _ rfl;refine rest _ _ _ _ u v (a==c) b' rfl rfl hu hv (by simp [Qgp,ht]) ⟨_,ht⟩ ?_ he';have hu' : u = .int k1 a:=by simpa [RD] using RF_d.1 ru
    have hv' : v = .int k1 c:=by simpa [RD] using RF_d.1 rv
    subst hu' hv';simp [Op.equalIn,run_underlying ht]
  ·rename_i ht
   match xs,ys,he with
   | .d (.bool a)::xs',.d (.bool c)::ys',he =>
    simp only [Qd6,Option.map_eq_some_iff] at he;obtain ⟨b',he',rfl⟩:=he;obtain ⟨u,hu,ru⟩:=hXi _ _ rfl;obtain ⟨v,hv,rv⟩:=hYi _ _ rfl;refine rest _ _ _ _ u v (a==c) b' rfl rfl hu hv (by simp [Qgp,ht]) ⟨_,ht⟩ ?_ he';have hu' : u = .bool a:=by simpa [RD] using RF_d.1 ru
    have hv' : v = .bool c:=by simpa [RD] using RF_d.1 rv
    subst hu' hv';simp [Op.equalIn,run_underlying ht]
  ·rename_i ht
   match xs,ys,he with
   | .d (.str a)::xs',.d (.str c)::ys',he =>
    simp only [Qd6,Option.map_eq_some_iff] at he;obtain ⟨b',he',rfl⟩:=he;obtain ⟨u,hu,ru⟩:=hXi _ _ rfl;obtain ⟨v,hv,rv⟩:=hYi _ _ rfl;refine rest _ _ _ _ u v (a==c) b' rfl rfl hu hv (by simp [Qgp,ht]) ⟨_,ht⟩ ?_ he';have hu' : u = .string a:=by simpa [RD] using RF_d.1 ru
    have hv' : v = .string c:=by simpa [RD] using RF_d.1 rv
    subst hu' hv';simp [Op.equalIn,run_underlying ht]
theorem Qny:∀ (ks:List Nat) (xs ys:List V) (b:Bool),Qd6 ks xs ys=some b→xs.length=ys.length
 | [],[],[],_,_=>rfl
 | 0::ks,.d (.int k a)::xs,.d (.int k' c)::ys,b,h=>by
  simp only [Qd6] at h;split at h<;>try (cases h;done)
  simp only [Option.map_eq_some_iff] at h;obtain ⟨b',h,_⟩:=h;simp [Qny ks xs ys b' h]
 | 1::ks,.d (.bool a)::xs,.d (.bool c)::ys,b,h=>by
  simp only [Qd6,Option.map_eq_some_iff] at h;obtain ⟨b',h,_⟩:=h;simp [Qny ks xs ys b' h]
 | 2::ks,.d (.str a)::xs,.d (.str c)::ys,b,h=>by
  simp only [Qd6,Option.map_eq_some_iff] at h;obtain ⟨b',h,_⟩:=h;simp [Qny ks xs ys b' h]
theorem Qbaf (d:Nat) {t:TypeId} {k:Nat} (hk:Qhz P t=some k) {x y:V} {u v:Value} {b:Bool} (he:Qd6 [k] [x] [y]=some b) (rx:RF g w x u) (ry:RF g w y v) :
  (Op.equalIn (d+1) t u v).run P w = .ok b w:=by
 unfold Qhz at hk;split at hk<;>cases hk
 ·rename_i kk ht
  match x,y,he with
  | .d (.int k1 a),.d (.int k2 c),he =>
   simp only [Qd6] at he;split at he<;>try (cases he;done)
   rename_i hkk;subst hkk;simp only [Option.map_some,Option.some.injEq,Bool.and_true] at he;subst he;have hu' : u = .int k1 a:=by simpa [RD] using RF_d.1 rx
   have hv' : v = .int k1 c:=by simpa [RD] using RF_d.1 ry
   subst hu' hv';simp [Op.equalIn,run_underlying ht]
 ·rename_i ht
  match x,y,he with
  | .d (.bool a),.d (.bool c),he =>
   simp only [Qd6,Option.map_some,Option.some.injEq,Bool.and_true] at he;subst he;have hu' : u = .bool a:=by simpa [RD] using RF_d.1 rx
   have hv' : v = .bool c:=by simpa [RD] using RF_d.1 ry
   subst hu' hv';simp [Op.equalIn,run_underlying ht]
 ·rename_i ht
  match x,y,he with
  | .d (.str a),.d (.str c),he =>
   simp only [Qd6,Option.map_some,Option.some.injEq,Bool.and_true] at he;subst he;have hu' : u = .string a:=by simpa [RD] using RF_d.1 rx
   have hv' : v = .string c:=by simpa [RD] using RF_d.1 ry
   subst hu' hv';simp [Op.equalIn,run_underlying ht]
theorem Qp7 {t:TypeId} {k:Nat} (hk:Qhz P t=some k) {Z:Array Value} {o:Nat} {u:Value} (hu:Z[o]? = some u):(part t Z o).run P w = .ok u w:=by
 have:Qgp P t=false∧∃ d,P.underlying t=some d:=by
  grind [Qhz,Qgp]
 obtain ⟨hA,d,hd⟩:=this;simp [part,Qp5 P hd,hA,hu]
theorem Q5x {k:Nat} {ks:List Nat} {x y:V} {xs ys:List V} {b:Bool} (h:Qd6 (k::ks) (x::xs) (y::ys)=some b):∃ r b',Qd6 [k] [x] [y]=some r∧Qd6 ks xs ys=some b'∧b=(r&&b'):=by
 match k,x,y,h with
 | 0,.d (.int k1 a),.d (.int k2 c),h =>
  simp only [Qd6] at h ⊢;split at h<;>try (cases h;done)
  rename_i hk;simp only [Option.map_eq_some_iff] at h
  grind
 | 1,.d (.bool a),.d (.bool c),h =>
  simp only [Qd6,Option.map_eq_some_iff] at h ⊢
  grind
 | 2,.d (.str a),.d (.str c),h =>
  simp only [Qd6,Option.map_eq_some_iff] at h ⊢
  grind
theorem Q13 (d:Nat) (X Y:Array Value) {e:TypeId} {k:Nat} (hk:Qhz P e=some k):∀ (n i:Nat) (xs ys:List V) (b:Bool),Qd6 (List.replicate n k) xs ys=some b →
  (∀ (j:Nat) (c:V) (u:Value),xs[j]? = some c→X[i+j]? = some u→RF g w c u)→(∀ (j:Nat) (c:V) (u:Value),ys[j]? = some c→Y[i+j]? = some u→RF g w c u) →
  i+xs.length≤X.size→i+ys.length≤Y.size→(Op.eqItems (d+1) e 1 X Y (List.range' i n)).run P w = .ok b w
 | 0,i,xs,ys,b,he,_,_,_,_=>by
  match xs,ys,he with
  | [],[],he=>simp_all [List.replicate_zero,Qd6,Option.some.injEq,Go.Op.eqItems]
 | n+1,i,xs,ys,b,he,hx,hy,hX,hY=>by
  rw [List.replicate_succ] at he
  match xs,ys with
  | [],_=>cases k<;>simp [Qd6] at he
  | _::_,[]=>grind [absurd,Qny]
  | x::xs,y::ys =>
   obtain ⟨r,b',h1,h2,rfl⟩:=Q5x he;have hlX:i<X.size:=by simp at hX;omega
   have hlY:i<Y.size:=by simp at hY;omega
   have rx:=hx 0 x X[i] rfl (by simp [hlX]);have ry:=hy 0 y Y[i] rfl (by simp [hlY]);have ih:=Q13 d X Y hk n (i+1) xs ys b' h2 (fun j c z hc hz=>hx (j+1) c z (by simpa using hc) (by grind))
    (fun j c z hc hz=>hy (j+1) c z (by simpa using hc) (by grind)) (by simp at hX;omega) (by simp at hY;omega)
   have p1:=Qp7 (w:=w) P hk (Z:=X) (o:=i) (u:=X[i]) (by simp [hlX]);have p2:=Qp7 (w:=w) P hk (Z:=Y) (o:=i) (u:=Y[i]) (by simp [hlY]);have q:=Qbaf P d hk h1 rx ry;simp only [List.range'_succ,Op.eqItems,Nat.mul_one,Sem.run_bind,p1,p2,Result.andThen_ok,q];cases r
   ·simp
   ·simpa using ih
theorem Q77 (t:TypeId) {ks:List Nat} (hks:Qle P t=some ks) {xs ys:List V} {vs vs' : List Value} {b:Bool} (hl:vs.length=xs.length) (hr:∀ (j:Nat) (c:V) (x:Value),xs[j]? = some c→vs[j]? = some x→RF g w c x)
  (hl' : vs'.length=ys.length) (hr' : ∀ (j:Nat) (c:V) (x:Value),ys[j]? = some c→vs'[j]? = some x→RF g w c x) (hb:Qd6 ks xs ys=some b) :
  (Op.equalIn 10000 t (.agg vs.toArray) (.agg vs'.toArray)).run P w = .ok b w∧P.eqGuardType P.depth t=false:=by
 unfold Qle at hks;split at hks<;>try (cases hks;done)
 ·rename_i fs ht;split at hks<;>try (cases hks;done)
  rename_i hg;have hfo:P.fieldsOf t=fs:=by simp [Program.fieldsOf,ht]
  refine ⟨?_,hg.2⟩;rw [run_equalIn_struct (P:=P) w 9999 t vs.toArray vs'.toArray (by rw [hfo];exact ht) hg.1,hfo];exact Qv7 P 9998 vs.toArray vs'.toArray fs.toList 0 ks xs ys b hks hb (fun j c u hc hu=>hr j c u hc (by simpa using hu)) (fun j c u hc hu=>hr' j c u hc (by simpa using hu)) (by simp [hl]) (by simp [hl'])
 ·rename_i n e ht;split at hks<;>try (cases hks;done)
  rename_i hg;simp only [Option.map_eq_some_iff] at hks;obtain ⟨k,hk,rfl⟩:=hks;obtain ⟨i,hi⟩:=Option.isSome_iff_exists.1 hg.1;refine ⟨?_,hg.2.2⟩;rw [run_equalIn_array (P:=P) w 9999 vs.toArray vs'.toArray ht hi,hg.2.1,List.range_eq_range'];exact Q13 P 9998 vs.toArray vs'.toArray hk n 0 xs ys b hb (fun j c u hc hu=>hr j c u hc (by simpa using hu)) (fun j c u hc hu=>hr' j c u hc (by simpa using hu)) (by simp [hl]) (by simp [hl'])
theorem Qbd3 (t:TypeId) {ks:List Nat} (hks:Qle P t=some ks) {xs ys:List V} {vs vs' : List Value} {b:Bool} (hl:vs.length=xs.length) (hr:∀ (j:Nat) (c:V) (x:Value),xs[j]? = some c→vs[j]? = some x→RF g w c x)
  (hl' : vs'.length=ys.length) (hr' : ∀ (j:Nat) (c:V) (x:Value),ys[j]? = some c→vs'[j]? = some x→RF g w c x) (hb:Qd6 ks xs ys=some b) :
  (∀ x y,((do eqGuard .eql t x y (.agg vs.toArray) (.agg vs'.toArray);binOp .eql t (.agg vs.toArray) (.agg vs'.toArray):Sem Value)).run P w = .ok (.bool b) w) ∧
  (∀ x y,((do eqGuard .neq t x y (.agg vs.toArray) (.agg vs'.toArray);binOp .neq t (.agg vs.toArray) (.agg vs'.toArray):Sem Value)).run P w = .ok (.bool !b) w):=by
 obtain ⟨heq,hg⟩:=Q77 P t hks hl hr hl' hr' hb
 simp_all [Go.eqGuard,Go.Sem.run_bind,Go.Result.andThen_ok,Go.run_eql_struct,Go.run_neq_struct]
end
end Go.Abs
end
