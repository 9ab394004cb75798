/-
  Part 1 of the proof: see the last text.
-/
import Derived.Orders
import Derived.WalkKit
import Derived.Laws.StructEq
import Derived.WalkLawsBesides
import Derived.Laws.BytesString
import Derived.Laws.Cells
import Derived.ChangeKeysEq
import Derived.Laws.MakeOwn
import Derived.WalkSpells
set_option linter.unusedVariables false
set_option linter.unusedSimpArgs false
set_option linter.unusedSectionVars false
section
namespace Go.Abs
inductive D where
 | int (k:IntKind) (n:Int)
 | bool (b:Bool)
 | str (s:ByteArray)
 | lst (sz:Nat) (l:List (List D))
 | mp (es:List MapEntry) (c:Nat)
inductive V where
 | und
 | d (x:D)
 | agg (cs:List V)
 | tup (vs:List V)
 | own (sz:Nat) (l:List (List D))
 | ptr (k off:Nat)
 | nilp
 | f (x:D)
 | nils (sz:Nat)
 | cref (cs:List D)
 | sl (sz k off len cap:Nat)
 | clo (f:FuncId) (caps:List V)
 | mp (k:Nat)
 | ownT (sz:Nat) (l:List (List D))
inductive Bx where
 | cells (cs:List V)
 | mp (es:List (V×V×Nat)) (c:Nat)
def Qm6:Value→V
 | .int k n=>.d (.int k n)
 | .bool b=>.d (.bool b)
 | .string s=>.d (.str s)
 | _=>.und
def Qug:Value→V
 | .agg vs=>.agg (vs.toList.map Qm6)
 | v=>Qm6 v
def entV (e:MapEntry):V×V×Nat:=(Qug e.key,Qug e.val,e.born)
inductive CK where
 | int (k:IntKind)
 | str
 | bool
inductive MK where
 | int (k:IntKind)
 | str
 | bool
 | st (ks:List CK)
def CK.ok:CK→V→Bool
 | .int k,.d (.int k' _)=>decide (k'=k)
 | .str,.d (.str _)=>true
 | .bool,.d (.bool _)=>true
 | _,_=>false
def okCs:List CK→List V→Bool
 | [],[]=>true
 | k::ks,v::vs=>k.ok v&&okCs ks vs
 | _,_=>false
def MK.ok:MK→V→Bool
 | .int k,.d (.int k' _)=>decide (k'=k)
 | .str,.d (.str _)=>true
 | .bool,.d (.bool _)=>true
 | .st ks,.agg cs=>okCs ks cs
 | _,_=>false
def Qjc:V→V→Bool
 | .d (.int _ a),.d (.int _ b)=>a==b
 | .d (.str a),.d (.str b)=>a==b
 | .d (.bool a),.d (.bool b)=>a==b
 | _,_=>false
def Qqi:List V→List V→Bool
 | [],[]=>true
 | x::xs,y::ys=>Qjc x y&&Qqi xs ys
 | _,_=>false
def Qe9:V→V→Bool
 | .agg xs,.agg ys=>Qqi xs ys
 | x,y=>Qjc x y
def V.dat1:V→Bool
 | .d _ | .nils _=>true
 | _=>false
def V.dat:V→Bool
 | .d _ | .nils _=>true
 | .agg cs=>cs.all V.dat1
 | _=>false
def V.mv:V→Bool
 | .own _ _=>true
 | v=>v.dat
def Qu3:V→V
 | .nils sz=>.d (.lst sz [])
 | v=>v
def Qgr (key:V):List (V×V×Nat)→Option (Nat×V)
 | []=>none
 | (k,v,_)::es=>if Qe9 key k then some (0,v) else (Qgr key es).map fun (i,v)=>(i+1,v)
def modM (key v:V):Nat→List (V×V×Nat)→List (V×V×Nat)
 | _,[]=>[]
 | 0,(_,_,b)::es=>(key,v,b)::es
 | i+1,e::es=>e::modM key v i es
def Q56 (b:Int):List (V×V×Nat)→Option Nat
 | []=>none
 | (_,_,c)::es=>if (c:Int)==b then some 0 else (Q56 b es).map (· + 1)
def upM:Nat→List (V×V×Nat)→Bool
 | _,[]=>true
 | n,e::es=>decide (n≤e.2.2)&&upM (e.2.2+1) es
def MK.all (kd:MK) (es:List (V×V×Nat)):Bool:=es.all fun e=>kd.ok e.1
abbrev Mem:=Nat→Option Bx
def Mem.put (M:Mem) (k:Nat) (b:Bx):Mem:=fun i=>if i=k then some b else M i
def Mem.over (M:Mem) (nb:Nat) (Δ:Mem):Mem:=fun k=>if k<nb then M k else Δ k
def Mem.patch (M W:Mem):Mem:=fun k=>match W k with
 | some b=>some b
 | none=>M k
abbrev Sl:=Nat→V
def Sl.put (s:Sl) (t:Nat) (v:V):Sl:=fun i=>if i=t then v else s i
mutual
def V.dem:V→V
 | .own sz l=>.d (.lst sz l)
 | .ownT sz l=>.d (.lst sz l)
 | .agg cs=>.agg (V.dems cs)
 | .tup vs=>.tup (V.dems vs)
 | v=>v
def V.dems:List V→List V
 | []=>[]
 | v::vs=>v.dem::V.dems vs
end
def V.top:V→V
 | .own sz l=>.own sz l
 | v=>v.dem
def own1:List V→List V
 | []=>[]
 | v::vs=>v.top::own1 vs
def V.topS:V→V
 | .own sz l=>.own sz l
 | .agg cs=>.agg (own1 cs)
 | v=>v.dem
def V.lt (n:Nat):V→Bool
 | .ptr k _ | .sl _ k _ _ _ | .mp k=>decide (k<n)
 | .agg cs=>go cs
 | .tup vs=>go vs
 | .clo _ cs=>go cs
 | _=>true
where go:List V→Bool
 | []=>true
 | v::vs=>v.lt n&&go vs
def V.cells:V→List V
 | .agg cs=>cs
 | v=>[v]
def V.toD:V→Option D
 | .d x=>some x
 | .own sz l=>some (.lst sz l)
 | .ownT sz l=>some (.lst sz l)
 | .nils sz=>some (.lst sz [])
 | _=>none
def toDs:List V→Option (List D)
 | []=>some []
 | v::vs=>match v.toD,toDs vs with
  | some x,some xs=>some (x::xs)
  | _,_=>none
def Qh8 (n:Nat):Nat→List D→List (List D)
 | 0,_=>[]
 | k+1,l=>l.take n::Qh8 n k (l.drop n)
def lim:Nat:=1099511627776
def Q7b (op:BinOp) (k:IntKind) (a b:Int):Option D :=
 match op with
 | .add=>some (.int k (k.wrap (a+b)))
 | .sub=>some (.int k (k.wrap (a-b)))
 | .mul=>some (.int k (k.wrap (a*b)))
 | .and=>some (.int k (k.wrap ((BitVec.ofInt k.bits a) &&& (BitVec.ofInt k.bits b)).toNat))
 | .or=>some (.int k (k.wrap ((BitVec.ofInt k.bits a) ||| (BitVec.ofInt k.bits b)).toNat))
 | .xor=>some (.int k (k.wrap ((BitVec.ofInt k.bits a) ^^^ (BitVec.ofInt k.bits b)).toNat))
 | .andNot=>some (.int k (k.wrap ((BitVec.ofInt k.bits a) &&& ~~~(BitVec.ofInt k.bits b)).toNat))
 | .eql=>some (.bool (a==b))
 | .neq=>some (.bool (a != b))
 | .lss=>some (.bool (a<b))
 | .leq=>some (.bool (a≤b))
 | .gtr=>some (.bool (a>b))
 | .geq=>some (.bool (a≥b))
 | .quo=>if b=0 then none else some (.int k (k.wrap (a.tdiv b)))
 | .rem=>if b=0 then none else some (.int k (a.tmod b))
 | _=>none
def binD (op:BinOp) (tb:Bool):D→D→Option D
 | .int k a,.int k' b =>
  match op with
  | .shl=>if b<0 then none else some (.int k (k.wrap (a*2 ^ (min b.toNat k.bits))))
  | .shr=>if b<0 then none else some (.int k (a.fdiv (2 ^ (min b.toNat k.bits))))
  | _=>if k=k' then Q7b op k a b else none
 | .bool a,.bool b =>
  match op,tb with
  | .eql,true=>some (.bool (a==b))
  | .neq,true=>some (.bool (!(a==b)))
  | _,_=>none
 | .str a,.str b =>
  match op with
  | .eql=>some (.bool (a.toList==b.toList))
  | .neq=>some (.bool !(a.toList==b.toList))
  | _=>none
 | _,_=>none
def unD:UnOp→D→Option D
 | .not,.bool b=>some (.bool !b)
 | .neg,.int k n=>some (.int k (k.wrap (0-n)))
 | _,_=>none
def Qd1:List Nat→List V→List V→Option Bool
 | [],[],[]=>some true
 | 0::ks,.d (.int k a)::xs,.d (.int k' b)::ys=>if k=k' then (Qd1 ks xs ys).map ((a==b) && ·) else none
 | 1::ks,.d (.bool a)::xs,.d (.bool b)::ys=>(Qd1 ks xs ys).map ((a==b) && ·)
 | 2::ks,.d (.str a)::xs,.d (.str b)::ys=>(Qd1 ks xs ys).map ((a==b) && ·)
 | _,_,_=>none
def Q7c:List (List D)→Option (List Int)
 | []=>some []
 | [.int .u8 n]::l=>(Q7c l).map (n :: ·)
 | _=>none
def strB (ns:List Int):ByteArray:=ns.foldl (fun r n=>r.push (UInt8.ofNat n.toNat)) ByteArray.empty
inductive K where
 | mov
 | pick
 | box (n:Nat)
 | alloc (z:List V)
 | build (z:List V) (places:List (Nat×Nat))
 | bslice (sz n:Nat) (z:List V) (places:List Nat)
 | blit (sz n:Nat) (z:List V) (places:List Nat)
 | load (agg:Bool) (n:Nat)
 | loadT
 | store (n:Nat)
 | nilchk
 | bin (op:BinOp) (tb:Bool)
 | eqa (neg:Bool) (ks:List Nat)
 | un (op:UnOp)
 | conv (k:IntKind)
 | bstr
 | func (f:FuncId)
 | makes (sz bytes:Nat) (z:List V)
 | slice (sz:Nat) (lo hi:Bool)
 | slcT (sz:Nat)
 | fld (off:Nat)
 | field (agg:Bool) (off n:Nat)
 | idx (sz:Nat)
 | idxarr (sz len:Nat)
 | idxval (agg:Bool) (sz len:Nat)
 | extract (i:Nat)
 | len
 | lens
 | idxs
 | append (sz bytes:Nat)
 | appw (sz bytes:Nat)
 | max2
 | min2
 | call (f:FuncId)
 | callv
 | callO (f:FuncId) (i:Nat)
 | isnil (neg:Bool)
 | mkmap
 | lenm
 | lookup (kd:MK) (c:Bool) (z:V)
 | mapset (kd:MK)
 | lookupT (kd:MK) (z:V)
 | mapsetT (kd:MK)
 | mapentry (kd:MK) (z:V)
 | entrystore
inductive Arg where
 | t (t:Nat)
 | c (v:V)
structure COp where
 dst:Option Nat
 kind:K
 args:List Arg
 tk:Bool
 guard:Option (Nat×Bool)
structure Pair where
 a:Nat
 n:Nat
 b:Nat
 m:Nat
inductive CC where
 | skip
 | region (ops:List COp) (pc:Nat) (pairs:List Pair)
 | seq (a b:CC)
 | cond (c:Arg) (a b:CC)
 | block (id:Nat) (c:CC)
 | loop (sites:List Nat) (c:CC)
 | exit (id:Nat)
 | ret
 | dead
def Qf7 (M:Mem) (sz:Nat):V→Option (List (List D))
 | .d (.lst sz' l)=>if sz'=sz then some l else none
 | .own sz' l=>if sz'=sz then some l else none
 | .ownT sz' l=>if sz'=sz then some l else none
 | .nils sz'=>if sz'=sz then some [] else none
 | .sl sz' k off len _ =>
  if sz'=sz then
   match M k with
   | some (.cells cs)=>if off+len*sz≤cs.length then (toDs ((cs.drop off).take (len*sz))).map (Qh8 sz len) else none
   | _=>none
  else none
 | _=>none
def Qh9 (cells:List V):List (Nat×List V)→List V
 | []=>cells
 | (off,vs)::rest=>Qh9 (cells.take off++vs++cells.drop (off+vs.length)) rest
def rep (n:Nat) (z:List V):List V:=(List.replicate n z).flatten
def Qd5 (x:V):Bool:=match x with | .und | .tup _=>false|_=>true
def Qh (n0 κ:Nat) (k:K) (xs:List V) (M:Mem):Option (V×Mem) :=
 match k,xs with
 | .mov,[x]=>some (x,M)
 | .pick,[.d (.bool b),x,y]=>some ((if b then x else y),M)
 | .box n,[x] =>
  match x with
  | .und | .tup _=>none
  | _=>if x.cells.length=n&&(M κ).isNone then some (.ptr κ 0,M.put κ (.cells x.cells)) else none
 | .alloc z,[]=>if (M κ).isNone then some (.ptr κ 0,M.put κ (.cells z)) else none
 | .build z ps,xs =>
  if ps.length=(own1 xs).length&&(ps.zip (own1 xs)).all (fun (p,x)=>Qd5 x&&x.cells.length==p.2&&decide (p.1+p.2≤z.length))
  then some (.agg (Qh9 z ((ps.zip (own1 xs)).map fun (p,x)=>(p.1,x.cells))),M) else none
 | .bslice sz n z ps,xs =>
  if ps.length=xs.length&&decide (0<sz)&&z.length==sz&&(ps.zip xs).all (fun (i,x)=>Qd5 x&&x.cells.length==sz&&decide (i<n))&&(M κ).isNone
  then some (.sl sz κ 0 n n,M.put κ (.cells (Qh9 (rep n z) ((ps.zip xs).map fun (i,x)=>(i*sz,x.cells))))) else none
 | .blit sz n z ps,xs =>
  if ps.length=xs.length&&decide (0<sz)&&z.length==sz&&(ps.zip xs).all (fun (i,x)=>Qd5 x&&x.cells.length==sz&&decide (i<n))
  then (toDs (Qh9 (rep n z) ((ps.zip xs).map fun (i,x)=>(i*sz,x.cells)))).map fun ds=>(.d (.lst sz (Qh8 sz n ds)),M) else none
 | .load agg n,[.ptr k off] =>
  match M k with
  | some (.cells cs) =>
   if off+n≤cs.length then
    (if agg then some (.agg (V.dems ((cs.drop off).take n)),M) else (cs[off]?).map (·.dem,M))
   else none
  | _=>none
 | .load agg n,[.cref cs] =>
  if n≤cs.length then (if agg then some (.agg ((cs.take n).map .d),M) else (cs[0]?).map (fun x=>(.d x,M))) else none
 | .loadT,[.ptr k off] =>
  match M k with
  | some (.cells cs)=>(cs[off]?).map fun x=>(x.top,M.put k (.cells (cs.set off x.dem)))
  | _=>none
 | .store n,[.ptr k off,v] =>
  match v with
  | .und | .tup _=>none
  | _ =>
   match M k with
   | some (.cells cs) =>
    if v.topS.cells.length=n&&decide (off+n≤cs.length)&&(decide (n0≤k)||v.lt n0) then
     some (.und,M.put k (.cells (cs.take off++v.topS.cells++cs.drop (off+n)))) else none
   | _=>none
 | .nilchk,[x]=>match x with | .ptr _ _ | .cref _ | .clo _ _=>some (x,M)|_=>none
 | .bin op tb,[.d x,.d y]=>(binD op tb x y).map (fun z=>(.d z,M))
 | .eqa neg ks,[.agg xs,.agg ys]=>(Qd1 ks xs ys).map fun b=>(.d (.bool (if neg then !b else b)),M)
 | .un op,[.d x]=>(unD op x).map (fun z=>(.d z,M))
 | .bstr,[.d (.lst _ l)]=>(Q7c l).map fun ns=>(.d (.str (strB ns)),M)
 | .conv k,[.d (.int _ n)]=>some (.d (.int k (k.wrap n)),M)
 | .func f,caps=>some (.clo f caps,M)
 | .makes sz bytes z,[.d (.int .i64 l),.d (.int .i64 c)] =>
  if decide (0≤l)&&decide (l≤c)&&decide (c≤lim)&&decide (bytes≤128)&&z.length==sz&&decide (0<sz)&&(M κ).isNone
  then some (.sl sz κ 0 l.toNat c.toNat,M.put κ (.cells (rep c.toNat z))) else none
 | .slice sz lo hi,x::bs =>
  match (match lo,hi,bs with
   | false,false,[]=>some ((none:Option Int),(none:Option Int))
   | true,false,[.d (.int _ a)]=>some (some a,none)
   | false,true,[.d (.int _ b)]=>some (none,some b)
   | true,true,[.d (.int _ a),.d (.int _ b)]=>some (some a,some b)
   | _,_,_=>none) with
  | some (a,b) =>
   match x with
   | .d (.lst sz' l) | .own sz' l =>
    let h:=b.getD l.length;let a:=a.getD 0
    if sz'=sz&&decide (0≤a)&&decide (a≤h)&&decide (h≤l.length) then some (.d (.lst sz ((l.take h.toNat).drop a.toNat)),M) else none
   | .sl sz' k off len cap =>
    let h:=b.getD len;let a:=a.getD 0
    if sz'=sz&&decide (0≤a)&&decide (a≤h)&&decide (h≤len)&&decide (len≤cap) then some ((if cap=a.toNat then .sl sz k off 0 0 else .sl sz k (off+a.toNat*sz) (h.toNat-a.toNat) (cap-a.toNat)),M) else none
   | .nils sz'=>if sz'=sz&&decide (0≤a.getD 0)&&decide (a.getD 0≤b.getD 0)&&decide (b.getD 0≤0) then some (.nils sz,M) else none
   | _=>none
  | none=>none
 | .slcT sz,[x,.d (.int _ a)] =>
  match x with
  | .d (.lst sz' l)=>if sz'=sz&&decide (0≤a)&&decide (a≤l.length) then some (.d (.lst sz (l.drop a.toNat)),M) else none
  | .own sz' l | .ownT sz' l=>if sz'=sz&&decide (0≤a)&&decide (a≤l.length) then some (.ownT sz (l.drop a.toNat),M) else none
  | _=>none
 | .fld off,[.ptr k o]=>some (.ptr k (o+off),M)
 | .fld off,[.cref cs]=>some (.cref (cs.drop off),M)
 | .field agg off n,[.agg cs] =>
  if off+n≤cs.length then (if agg then some (.agg ((cs.drop off).take n),M) else (cs[off]?).map (·,M)) else none
 | .idx sz,[x,.d (.int _ i)] =>
  match x with
  | .d (.lst sz' l) | .own sz' l=>if sz'=sz&&decide (0≤i) then (l[i.toNat]?).map fun c=>(.cref c,M) else none
  | .sl sz' k off len _=>if sz'=sz&&decide (0≤i)&&decide (i<len) then some (.ptr k (off+i.toNat*sz),M) else none
  | _=>none
 | .idxarr sz len,[x,.d (.int _ i)] =>
  if decide (0≤i)&&decide (i<len) then
   match x with
   | .ptr k o=>some (.ptr k (o+i.toNat*sz),M)
   | .cref cs=>some (.cref (cs.drop (i.toNat*sz)),M)
   | _=>none
  else none
 | .idxval agg sz len,[.agg cs,.d (.int _ i)] =>
  if decide (0≤i)&&decide (i<len)&&cs.length==len*sz then
   (if agg then some (.agg ((cs.drop (i.toNat*sz)).take sz),M) else (cs[i.toNat*sz]?).map (·,M)) else none
 | .extract i,[.tup vs]=>(vs[i]?).map fun v=>(v.top,M)
 | .len,[x] =>
  match x with
  | .d (.lst _ l) | .own _ l=>some (.d (.int .i64 l.length),M)
  | .nils _=>some (.d (.int .i64 0),M)
  | .sl _ _ _ n _=>some (.d (.int .i64 n),M)
  | _=>none
 | .lenm,[.mp k]=>match M k with|some (.mp es _)=>some (.d (.int .i64 es.length),M)|_=>none
 | .lenm,[.d (.mp es _)]=>some (.d (.int .i64 es.length),M)
 | .lens,[.d (.str s)]=>some (.d (.int .i64 s.size),M)
 | .idxs,[.d (.str s),.d (.int _ i)]=>if hi:0≤i∧i<s.size then some (.d (.int .u8 (s[i.toNat]'(by omega)).toNat),M) else none
 | .append sz bytes,[.own sz' l,x] =>
  match Qf7 M sz x with
  | some ys=>if sz'=sz&&decide (l.length+ys.length≤lim)&&decide (bytes≤128)&&decide (0<sz) then some (.own sz (l++ys),M) else none
  | none=>none
 | .append sz bytes,[.ownT sz' l,x] =>
  match Qf7 M sz x with
  | some ys=>if sz'=sz&&decide (l.length+ys.length≤lim)&&decide (bytes≤128)&&decide (0<sz) then some (.ownT sz (l++ys),M) else none
  | none=>none
 | .append sz bytes,[.nils sz',x] =>
  match Qf7 M sz x with
  | some ys=>if sz'=sz&&decide (ys.length≤lim)&&decide (bytes≤128)&&decide (0<sz) then some (.own sz ys,M) else none
  | none=>none
 | .append sz bytes,[.sl sz' k off len cap,x] =>
  match Qf7 M sz (.sl sz' k off len cap),Qf7 M sz x with
  | some l,some ys =>
   if ys.length=0 then (if len=0&&cap=0 then some (.own sz [],M) else if len≤cap then some (.sl sz' k off len cap,M) else none)
   else if decide (cap<len+ys.length)&&decide (l.length+ys.length≤lim)&&decide (bytes≤128)&&decide (0<sz) then some (.own sz (l++ys),M) else none
  | _,_=>none
 | .appw sz bytes,[.sl sz' k off len cap,x] =>
  match Qf7 M sz (.sl sz' k off len cap),Qf7 M sz x,M k with
  | some l,some ys,some (.cells cs) =>
   if ys.length=0 then (if len=0&&cap=0 then some (.own sz [],M) else if len≤cap then some (.sl sz' k off len cap,M) else none)
   else if len+ys.length≤cap then
    (if decide (0<sz)&&decide (off+(len+ys.length)*sz≤cs.length)&&ys.all (fun y=>y.length==sz) then
     some (.sl sz' k off (len+ys.length) cap,M.put k (.cells (cs.take (off+len*sz)++ys.flatten.map V.d++cs.drop (off+len*sz+ys.length*sz)))) else none)
   else if decide (cap<len+ys.length)&&decide (l.length+ys.length≤lim)&&decide (bytes≤128)&&decide (0<sz) then some (.own sz (l++ys),M) else none
  | _,_,_=>none
 | .appw sz bytes,[.nils sz',x] =>
  match Qf7 M sz x with
  | some ys=>if sz'=sz&&decide (ys.length≤lim)&&decide (bytes≤128)&&decide (0<sz) then some (.own sz ys,M) else none
  | none=>none
 | .mkmap,[]=>if (M κ).isNone then some (.mp κ,M.put κ (.mp [] 0)) else none
 | .mkmap,[.d (.int _ _)]=>if (M κ).isNone then some (.mp κ,M.put κ (.mp [] 0)) else none
 | .lookup kd c z,[.mp k,key] =>
  match M k with
  | some (.mp es _)=>if kd.ok key&&kd.all es then
    (match Qgr key es with
     | some (_,v)=>if v.mv then some (if c then .tup [v.dem,.d (.bool true)] else v.dem,M) else none
     | none=>if z.dat then some (if c then .tup [z,.d (.bool false)] else z,M) else none) else none
  | _=>none
 | .lookup kd c z,[.d (.mp ents _),key] =>
  if kd.ok key&&kd.all (ents.map entV) then
    (match Qgr key (ents.map entV) with
     | some (_,v)=>if v.dat&&(ents.map entV).all (fun e=>e.2.1.dat) then some (if c then .tup [v,.d (.bool true)] else v,M) else none
     | none=>if z.dat&&(ents.map entV).all (fun e=>e.2.1.dat) then some (if c then .tup [z,.d (.bool false)] else z,M) else none) else none
 | .lookupT kd z,[.mp k,key] =>
  match M k with
  | some (.mp es c)=>if kd.ok key&&kd.all es&&upM 0 es then
    (match Qgr key es with
     | some (i,.own sz l)=>(es[i]?).map fun e=>(.own sz l,M.put k (.mp (modM e.1 (.d (.lst sz l)) i es) c))
     | some _=>none
     | none=>if z.dat then some (z,M) else none) else none
  | _=>none
 | .mapsetT kd,[.mp k,key,.own sz l] =>
  match M k with
  | some (.mp es c)=>if kd.ok key&&kd.all es then
    some (.und,M.put k (match Qgr key es with
     | some (i,_)=>.mp (modM key (.own sz l) i es) c
     | none=>.mp (es++[(key,.own sz l,c)]) (c+1))) else none
  | _=>none
 | .mapset kd,[.mp k,key,v] =>
  match M k with
  | some (.mp es c)=>if kd.ok key&&kd.all es&&v.dat then
    some (.und,M.put k (match Qgr key es with
     | some (i,_)=>.mp (modM key (Qu3 v) i es) c
     | none=>.mp (es++[(key,Qu3 v,c)]) (c+1))) else none
  | _=>none
 | .mapentry kd z,[.mp k,key] =>
  match M k with
  | some (.mp es c)=>if kd.ok key&&kd.all es&&z.dat then
    (match Qgr key es with
     | some (i,v)=>if v.dat then (es[i]?).map fun e=>(.tup [v,.d (.int .i64 e.2.2)],M.put k (.mp (modM key v i es) c)) else none
     | none=>some (.tup [z,.d (.int .i64 c)],M.put k (.mp (es++[(key,z,c)]) (c+1)))) else none
  | _=>none
 | .entrystore,[.mp k,.d (.int .i64 b),v] =>
  match M k with
  | some (.mp es c)=>if v.dat then
    (match Q56 b es with
     | some i=>(es[i]?).map fun e=>(.und,M.put k (.mp (modM e.1 (Qu3 v) i es) c))
     | none=>none) else none
  | _=>none
 | .max2,[.d (.int k a),.d (.int k' b)]=>if k=k' then some (.d (.int k (if b>a then b else a)),M) else none
 | .min2,[.d (.int k a),.d (.int k' b)]=>if k=k' then some (.d (.int k (if b<a then b else a)),M) else none
 | _,_=>none
def Qbu (k:K) (xs:List V):List V :=
 match k,xs with
 | .mov,[x]=>[x.dem]
 | .append ..,[s,x]=>[s.dem,x.dem]
 | .slcT _,[x,i]=>[x.dem,i]
 | .store _,[p,v]=>[p,v.dem]
 | .mapsetT _,[m,k,v]=>[m,k,v.dem]
 | .build ..,xs=>V.dems xs
 | .box _,[x]=>[x.dem]
 | .extract i,[.tup vs]=>[.tup (match vs[i]? with|some v=>vs.set i v.dem|none=>vs)]
 | _,xs=>xs
structure St where
 s:Sl
 M:Mem
 nb:Nat
def Arg.val (s:Sl):Arg→V
 | .t i=>s i
 | .c v=>v
def Arg.putTo (a:Arg) (s:Sl) (v:V):Sl :=
 match a with
 | .t i=>s.put i v
 | .c _=>s
def Qz (s:Sl):List Arg→List V→Sl
 | a::as,v::vs=>Qz (a.putTo s v) as vs
 | _,_=>s
def Q9 (s:Sl) (dst:Option Nat) (v:V):Sl :=
 match dst with
 | some t=>s.put t v
 | none=>s
def COp.xs (o:COp) (s:Sl):List V:=if o.tk then o.args.map (·.val s) else V.dems (o.args.map (·.val s))
def COp.wanted (o:COp) (s:Sl):Option Bool :=
 match o.guard with
 | none=>some true
 | some (t,want)=>match s t with
  | .d (.bool b)=>some (b==want)
  | .tup []=>some false
  | _=>none
abbrev Ctx:=FuncId→List V→Mem→Nat→V→Mem→Nat→Prop
def COp.step (o:COp) (n0:Nat) (σ:St):Option St :=
 let xs:=o.xs σ.s
 match Qh n0 (n0+o.dst.getD 0) o.kind xs σ.M with
 | some (v,M)=>some { s:=Q9 (if o.tk then Qz σ.s o.args (Qbu o.kind xs) else σ.s) o.dst v,M,nb:=σ.nb }
 | none=>none
def COp.callee (o:COp) (s:Sl):Option (FuncId×List V) :=
 match o.kind with
 | .call f=>some (f,V.dems (o.args.map (·.val s)))
 | .callv=>match (o.args.map (·.val s):List V) with
  | V.clo f caps::rest=>some (f,V.dems rest++V.dems caps)
  | _=>none
 | _=>none
def K.isCall:K→Bool
 | .call _ | .callv=>true
 | _=>false
def K.isNil:K→Bool
 | .isnil _ | .callO ..=>true
 | _=>false
def K.negNil:K→Bool
 | .isnil b=>b
 | _=>false
def Q2l:List V→Option Nat
 | [.d (.lst _ l)]=>some l.length
 | [.own _ l]=>some l.length
 | [.nils _]=>some 0
 | [.sl ..]=>some 1
 | _=>none
def Arg.own (s:Sl):Arg→V
 | .t i=>(s i).top
 | .c v=>v.dem
def Qxw (s:Sl):Nat→List Arg→List V
 | _,[]=>[]
 | 0,a::as=>a.own s::V.dems (as.map (·.val s))
 | i+1,a::as=>(a.val s).dem::Qxw s i as
def Qs4:Nat→List Arg→Option Nat
 | _,[]=>none
 | 0,.t t::_=>some t
 | 0,.c _::_=>none
 | i+1,_::as=>Qs4 i as
def Qs5 (s:Sl):Option Nat→Sl
 | some t=>s.put t (s t).dem
 | none=>s
def wrs (m:Nat):Option Nat→Bool
 | some d=>m.testBit d
 | none=>false
def COp.runN (C:Ctx) (n0:Nat) (pc:Nat) (o:COp) (σ:St) (Q:St→Prop):Prop :=
 match o.kind with
 | .callO f i=>pc=0∧∃ r M nb,C f (Qxw σ.s i o.args) σ.M σ.nb r M nb∧(∀ k,(σ.M k).isSome=true→(M k).isSome=true)∧(∀ k cs,k<n0→M k=some (.cells cs)→M k=σ.M k∨V.lt.go n0 cs=true) ∧
   Q { s:=Q9 (Qs5 σ.s (Qs4 i o.args)) o.dst r,M,nb }
 | _=>match Q2l (o.xs σ.s) with
  | some n=>∀ b:Bool,(b=true→n=0)→Q { σ with s:=Q9 σ.s o.dst (.d (.bool (if o.kind.negNil then !b else b))) }
  | none=>False
def COp.run (C:Ctx) (n0:Nat) (pc:Nat) (o:COp) (σ:St) (Q:St→Prop):Prop :=
 match o.wanted σ.s with
 | some true =>
  if o.kind.isCall then
   match o.callee σ.s with
   | some (f,args) =>
    match pc with
    | 0=>∃ r M nb,C f args σ.M σ.nb r M nb∧(∀ k,(σ.M k).isSome=true→(M k).isSome=true)∧(∀ k cs,k<n0→M k=some (.cells cs)→M k=σ.M k∨V.lt.go n0 cs=true)∧Q { s:=Q9 σ.s o.dst r,M,nb }
    | 1=>∃ r Δ nb,(∀ M,(∀ k,(σ.M k).isSome=true→M k=σ.M k)→(∀ k,σ.nb≤k→M k=none)→C f args M σ.nb r (M.over σ.nb Δ) nb)∧Q { s:=Q9 σ.s o.dst r,M:=σ.M.over σ.nb Δ,nb }
    | n+2=>if n<8 then ∃ r,(∀ M nb,C f args M nb r M nb)∧Q { s:=Q9 σ.s o.dst r,M:=σ.M,nb:=σ.nb }
     else ∃ r W Δ nb,(wrs (n-8) o.dst=true∨∀ k,W k=none)∧(∀ k,(W k).isSome=true→(σ.M k).isSome=true)∧(∀ k cs,k<n0→W k=some (.cells cs)→V.lt.go n0 cs=true) ∧
      (∀ M,(∀ k,(σ.M k).isSome=true→M k=σ.M k)→(∀ k,σ.nb≤k→M k=none)→C f args M σ.nb r ((M.patch W).over σ.nb Δ) nb)∧Q { s:=Q9 σ.s o.dst r,M:=(σ.M.patch W).over σ.nb Δ,nb }
   | none=>False
  else if o.kind.isNil then o.runN C n0 pc σ Q
  else
   match o.step n0 σ with
   | some σ'=>Q σ'
   | none=>False
 | some false=>Q { σ with s:=Q9 σ.s o.dst (.tup []) }
 | none=>False
def Q7d (C:Ctx) (n0:Nat) (pc:Nat):List COp→St→(St→Prop)→Prop
 | [],σ,Q=>Q σ
 | o::os,σ,Q=>o.run C n0 pc σ fun σ'=>Q7d C n0 pc os σ' Q
def Qld (x:V) (n:Nat) (y:V) (m:Nat):Bool :=
 match x,y with
 | .ptr k o,.ptr k' o'=>decide (k≠k')||decide (o+n≤o')||decide (o'+m≤o)
 | .ptr k _,.sl _ k' _ _ _=>decide (k≠k')
 | .sl _ k' _ _ _,.ptr k _=>decide (k≠k')
 | .cref _,_|_,.cref _ | .d _,_|_,.d _ | .own _ _,_|_,.own _ _ | .ownT _ _,_|_,.ownT _ _ | .nils _,_=>true
 | _,_=>false
inductive Ex where
 | norm
 | exit (id:Nat)
 | ret
def Qds (P:Nat→Bool):V→V
 | .ptr k o=>if P k then .und else .ptr k o
 | .sl sz k o n c=>if P k then .und else .sl sz k o n c
 | .mp k=>if P k then .und else .mp k
 | .agg cs=>.agg (go cs)
 | .tup vs=>.tup (go vs)
 | .clo f cs=>.clo f (go cs)
 | v=>v
where go:List V→List V
 | []=>[]
 | v::vs=>Qds P v::go vs
def Qiz (n0:Nat) (sites:List Nat) (k:Nat):Bool:=sites.any fun t=>k==n0+t
def Qlc (n0:Nat) (sites:List Nat) (σ:St):St :=
 {
  s:=fun t=>Qds (Qiz n0 sites) (σ.s t)
  M:=fun k=>if Qiz n0 sites k then none else if k<n0 then σ.M k else
   match σ.M k with
   | some (.cells cs)=>some (.cells (cs.map (Qds (Qiz n0 sites))))
   | b=>b
  nb:=σ.nb }
inductive Res where
 | t (i:Nat)
 | cell (p:Nat) (agg:Bool) (n:Nat)
def Res.val (σ:St):Res→Option V
 | .t i=>some (σ.s i)
 | .cell p agg n=>(Qh 0 0 (.load agg n) [σ.s p] σ.M).map (·.1)
def Qnz (σ:St):List Res→Option V
 | [r]=>r.val σ
 | rs=>(rs.mapM (Res.val σ)).map .tup
def Qoa (rs:List Res):List Nat:=rs.filterMap fun r=>match r with | .t i=>some i | .cell ..=>none
structure CFn where
 np:Nat
 nt:Nat
 res:List Res
 body:CC
def Qov (args:List V):Sl:=fun t=>args.getD t .und
end Go.Abs
end
section
namespace Go.Abs
def Qbad (P:Program) (ty:TypeId):Value→Option V
 | .int k n=>some (.d (.int k n))
 | .bool b=>some (.d (.bool b))
 | .string s=>some (.d (.str s))
 | .pointer none=>some .nilp
 | .nilFunc | .nilIface | .map none=>some .und
 | .slice none 0 0=>match P.underlying ty with
  | some (.slice e)=>some (.nils (P.cellsOf e))
  | _=>none
 | _=>none
def Qfz (P:Program) (ty:TypeId):Operand→Option Arg
 | .tmp t=>some (.t t)
 | .const v=>(Qbad P ty v).map .c
 | .func f=>some (.c (.clo f []))
 | _=>none
def Q57:Value→Option V
 | .int k n=>some (.d (.int k n))
 | .bool b=>some (.d (.bool b))
 | .string s=>some (.d (.str s))
 | .pointer none=>some .nilp
 | .agg _ | .tuple _=>none
 | _=>some .und
def Q0f (P:Program):Nat→TypeId→Option (List (Option Nat))
 | 0,_=>none
 | d+1,t=>match P.underlying t with
  | some (.struct fs)=>fs.toList.foldl (fun acc f=>match acc,Q0f P d f.type with|some a,some b=>some (a++b)|_,_=>none) (some [])
  | some (.array n e)=>(Q0f P d e).map fun l=>(List.replicate n l).flatten
  | some (.slice e)=>some [some (P.cellsOf e)]
  | some _=>some [none]
  | none=>none
def Qmz:List (Option Nat)→List Value→Option (List V)
 | [],[]=>some []
 | some n::ss,.slice none 0 0::vs=>(Qmz ss vs).map (.nils n :: ·)
 | none::ss,v::vs=>match Q57 v,Qmz ss vs with
  | some x,some xs=>some (x::xs)
  | _,_=>none
 | _,_=>none
def Qq7 (P:Program) (t:TypeId):Option (List V) :=
 match Q0f P 12 t,(P.info? t).bind (·.zero) with
 | some ss,some z=>Qmz ss z.cells.toList
 | _,_=>none
def Qhl (P:Program) (t:TypeId):Bool :=
 match P.underlying t with
 | some (.struct _)|some (.array _ _)=>true
 | _=>false
def Qs6 (P:Program) (t:TypeId):Bool :=
 match P.underlying t with
 | some (.slice _)=>true
 | _=>false
def Qbhr (P:Program) (t:TypeId):Bool :=
 match P.underlying t with
 | some (.slice _)=>true
 | some (.struct fs)=>fs.any fun f=>Qs6 P f.type
 | _=>false
def Qbg0 (P:Program) (t:TypeId):Bool :=
 match P.underlying t with
 | some (.slice _)|some (.tuple _)=>true
 | _=>false
def Qie (P:Program) (t:TypeId):Option Nat :=
 match P.underlying t with
 | some (.int _)=>some 0
 | some .bool=>some 1
 | some .string=>some 2
 | _=>none
def Qhm (P:Program):Nat→List Field→Option (List Nat)
 | _,[]=>some []
 | i, f :: fs => if f.offset = i ∧ f.name ≠ "_" then
   match Qie P f.type,Qhm P (i+1) fs with
   | some k,some ks=>some (k::ks)
   | _,_=>none
  else none
def Qjs (P:Program) (t:TypeId):Option (List Nat) :=
 match P.underlying t with
 | some (.struct fs)=>if P.stoodInHeld t=false∧P.eqGuardType P.depth t=false then Qhm P 0 fs.toList else none
 | some (.array n e)=>if (P.info? e).isSome=true∧P.cellsOf e=1∧P.eqGuardType P.depth t=false then (Qie P e).map fun k=>List.replicate n k else none
 | _=>none
def Qek (P:Program) (ctx:Nat→TypeId):Nat→List Operand→Option (List Arg)
 | _,[]=>some []
 | i,x::xs=>match Qfz P (ctx i) x,Qek P ctx (i+1) xs with
  | some a,some as=>some (a::as)
  | _,_=>none
def Q1d (P:Program) (fs:Array Field) (parts:List Nat):Option (List (Nat×Nat)) :=
 parts.mapM fun i=>(fs[i]?).map fun f=>(f.offset,P.cellsOf f.type)
def Q4k:Operand→Bool
 | .tmp _=>true
 | _=>false
def Qob (P:Program) (t:TypeId):Option CK :=
 match P.underlying t with
 | some (.int k)=>some (.int k)
 | some .string=>some .str
 | some .bool=>some .bool
 | _=>none
def Q58 (P:Program) (t:TypeId):Option MK :=
 match P.underlying t with
 | some (.int k)=>some (.int k)
 | some .string=>some .str
 | some .bool=>some .bool
 | some (.struct fs)=>if (Qjs P t).isSome then (fs.toList.mapM fun f=>Qob P f.type).map .st else none
 | some (.array n e)=>if (Qjs P t).isSome then (Qob P e).map fun c=>.st (List.replicate n c) else none
 | _=>none
def Qbae (P:Program) (t:TypeId):Option V :=
 match Qq7 P t,(P.info? t).bind (·.zero) with
 | some cs,some (.agg _)=>some (.agg (cs.map Qu3))
 | some [c],some _=>some (Qu3 c)
 | _,_=>none
def Qbcr (P:Program) (t:TypeId):Option V :=
 match P.underlying t with
 | some (.map _ e)=>match Qq7 P e,(P.info? e).bind (·.zero) with
  | some _,some (.agg _)=>none
  | some [.nils sz],some _=>some (.nils sz)
  | _,_=>none
 | _=>none
def Qkk (P:Program) (t:TypeId):Option (TypeId×MK×V) :=
 match P.underlying t with
 | some (.map k e)=>match Q58 P k,Qbae P e with
  | some kd,some z=>if (P.underlying e).isSome&&z.dat then some (k,kd,z) else none
  | _,_=>none
 | _=>none
structure Tk where
 inp:List Nat
 app:List Nat
 all:List Nat
 slf:List Nat
 lit:List Nat
 mpt:List Nat
 co:List Nat
 dl:List Nat
def tmpO:Operand→Option Nat
 | .tmp t=>some t
 | _=>none
def inL (l:List Nat):Option Nat→Bool
 | some d=>l.contains d
 | none=>false
def Qxx (P:Program) (e:TypeId) (n:Nat) (ps:List (Nat×Operand)):Option (K×List Arg×Bool) :=
 match Qq7 P e,n,ps with
 | some [_],1,[(0,.const u)]=>match Qbad P e u with
  | some (.d x)=>if P.cellsOf e=1 then some (.append 1 (P.bytesOf e),[.c (.nils 1),.c (.d (.lst 1 [[x]]))],true) else none
  | _=>none
 | _,_,_=>none
def Qbg1 (P:Program) (f:FuncId):Option Nat :=
 match P.funcs[f]? with
 | some fn => if fn.name == "overseer/minimal.appendInt" then some 0 else if fn.name == "(overseer/reach.graph).finish" then some 3 else none
 | none=>none
def nodA:List Arg→Bool
 | []=>true
 | .t i::as=>(as.all fun b=>match b with | .t j=>!Nat.beq i j | .c _=>true)&&nodA as
 | .c _::as=>nodA as
def Qio (P:Program) (T:Tk) (o:Oper):Option (K×List Arg×Bool) :=
 match o.op with
 | .move x=>(Qfz P o.type x).map fun a=>(.mov,[a],(Q4k x&&Qbg0 P o.type&&inL T.all o.dst)||(!Q4k x&&Qs6 P o.type))
 | .assign x=>(Qfz P o.type x).map fun a=>(.mov,[a],(Q4k x&&Qbg0 P o.type)||(!Q4k x&&Qs6 P o.type))
 | .pick c a b=>(Qek P (fun _=>o.type) 0 [c,a,b]).map fun as=>(.pick,as,false)
 | .alloc e=>(Qq7 P e).map fun z=>(.alloc z,[],false)
 | .box e x=>(Qfz P e x).map fun a=>(.box (P.cellsOf e),[a],false)
 | .build t ps=>match P.underlying t,Qq7 P t with
  | some (.struct fs),some z=>if fs.toList.all (fun f=>(P.info? f.type).isSome) then match Q1d P fs (ps.toList.map (·.1)),Qek P (fun i=>((ps[i]?).bind fun p=>(fs[p.1]?).map (·.type)).getD 0) 0 (ps.toList.map (·.2)) with
   | some pl,some as=>some (.build z pl,as,o.dst.isSome&&nodA as&&ps.any fun p=>Q4k p.2&&(fs[p.1]?).any fun f=>Qs6 P f.type)
   | _,_=>none else none
  | some (.array _ e),some z=>if (P.info? e).isNone then none else (Qek P (fun _=>e) 0 (ps.toList.map (·.2))).map fun as=>(.build z (ps.toList.map fun p=>(p.1*P.cellsOf e,P.cellsOf e)),as,false)
  | _,_=>none
 | .buildSlice t n ps=>match P.underlying t with
  | some (.slice e)=>if inL T.lit o.dst&&(Qxx P e n ps.toList).isSome then Qxx P e n ps.toList else if inL T.dl o.dst then (match Qq7 P e,Qek P (fun _=>e) 0 (ps.toList.map (·.2)) with
   | some z,some as=>if n*P.cellsOf e≤65536 then some (.blit (P.cellsOf e) n z (ps.toList.map (·.1)),as,false) else none
   | _,_=>none) else match Qq7 P e,Qek P (fun _=>e) 0 (ps.toList.map (·.2)) with
   | some z,some as=>if n*P.cellsOf e≤65536 then some (.bslice (P.cellsOf e) n z (ps.toList.map (·.1)),as,false) else none
   | _,_=>none
  | _=>none
 | .load t a=>match Qfz P 0 a with
  | some x=>if Qs6 P t&&inL T.app o.dst then some (.loadT,[x],false) else if (P.underlying t).isSome then some (.load (Qhl P t) (P.cellsOf t),[x],false) else none
  | none=>none
 | .store t a x=>match Qfz P 0 a,Qfz P t x with
  | some p,some v=>if (P.underlying t).isSome&&o.dst.isNone then some (.store (P.cellsOf t),[p,v],Q4k x&&Qbhr P t) else none
  | _,_=>none
 | .nilCheck x=>(Qfz P 0 x).map fun a=>(.nilchk,[a],false)
 | .binOp op xt x y _=>match Qfz P xt x,Qfz P xt y with
  | some a,some b=>match P.underlying xt with
   | some (.slice _)=>match op,y with
    | .eql,.const (.slice none 0 0)=>some (.isnil false,[a],false)
    | .neq,.const (.slice none 0 0)=>some (.isnil true,[a],false)
    | _,_=>none
   | some (.int _)|some .string=>some (.bin op false,[a,b],false)
   | some .bool=>some (.bin op true,[a,b],false)
   | some (.struct _)=>match op with
    | .eql=>(Qjs P xt).map fun ks=>(.eqa false ks,[a,b],false)
    | .neq=>(Qjs P xt).map fun ks=>(.eqa true ks,[a,b],false)
    | _=>none
   | some (.array _ _)=>match op with
    | .eql=>(Qjs P xt).map fun ks=>(.eqa false ks,[a,b],false)
    | .neq=>(Qjs P xt).map fun ks=>(.eqa true ks,[a,b],false)
    | _=>none
   | _=>none
  | _,_=>none
 | .unOp op _ x=>(Qfz P 0 x).map fun a=>(.un op,[a],false)
 | .convert s d x=>(Qfz P s x).bind fun a=>match P.underlying s,P.underlying d with
  | some (.int _),some (.int k)=>some (.conv k,[a],false)
  | some (.slice e),some .string=>match P.underlying e with
   | some (.int .u8)=>some (.bstr,[a],false)
   | _=>none
  | _,_=>none
 | .makeFunc (.func f) first cap=>if first.size=0 then (Qek P (fun _=>0) 0 cap.toList).map fun as=>(.func f,as,false) else none
 | .makeSlice t l c=>match P.underlying t with
  | some (.slice e)=>match Qq7 P e,Qek P (fun _=>0) 0 [l,c] with
   | some z,some as=>some (.makes (P.cellsOf e) (P.bytesOf e) z,as,false)
   | _,_=>none
  | _=>none
 | .slice t x lo hi none=>match P.underlying t with
  | some (.slice e)=>if P.cellsOf e=0 then none else if inL T.slf o.dst&&Q4k x&&lo.isSome&&hi.isNone then (Qek P (fun _=>t) 0 ([x]++lo.toList)).map fun as=>(.slcT (P.cellsOf e),as,true) else match Qek P (fun _=>t) 0 ([x]++lo.toList++hi.toList) with
   | some as=>some (.slice (P.cellsOf e) lo.isSome hi.isSome,as,false)
   | none=>none
  | _=>none
 | .fieldAddr s x f=>match P.underlying s with
  | some (.struct fs)=>match fs[f]?,Qfz P 0 x with
   | some fd,some a=>if P.cellsOf fd.type=0 then none else some (.fld fd.offset,[a],false)
   | _,_=>none
  | _=>none
 | .field t x f=>match P.underlying t with
  | some (.struct fs)=>match fs[f]?,Qfz P t x with
   | some fd,some a=>if (P.underlying fd.type).isSome then some (.field (Qhl P fd.type) fd.offset (P.cellsOf fd.type),[a],false) else none
   | _,_=>none
  | _=>none
 | .indexAddr t x i=>match P.underlying t with
  | some (.slice e)=>(Qek P (fun j=>if j=0 then t else 0) 0 [x,i]).bind fun as=>if P.cellsOf e=0 then none else some (.idx (P.cellsOf e),as,false)
  | some (.array n e)=>(Qek P (fun _=>0) 0 [x,i]).bind fun as=>if P.cellsOf e=0 then none else some (.idxarr (P.cellsOf e) n,as,false)
  | _=>none
 | .index t x i=>match P.underlying t with
  | some (.array n e)=>if (P.underlying e).isNone then none else (Qek P (fun j=>if j=0 then t else 0) 0 [x,i]).map fun as=>(.idxval (Qhl P e) (P.cellsOf e) n,as,false)
  | some .string=>(Qek P (fun j=>if j=0 then t else 0) 0 [x,i]).map fun as=>(.idxs,as,false)
  | _=>none
 | .extract x i=>(Qfz P 0 x).map fun a=>(.extract i,[a],Q4k x&&Qs6 P o.type&&o.dst.isSome)
 | .makeMap t r=>match P.underlying t with
  | some (.map _ _)=>(Qek P (fun _=>0) 0 r.toList).map fun as=>(.mkmap,as,false)
  | _=>none
 | .lookup t x i c=>match Qkk P t with
  | some (k,kd,z)=>(Qek P (fun j=>if j=0 then t else k) 0 [x,i]).map fun as=>(match Qbcr P t with|some zn=>if !c&&inL T.mpt o.dst then .lookupT kd zn else .lookup kd c z|none=>.lookup kd c z,as,false)
  | none=>none
 | .mapUpdate t m k x | .insert t m k x=>match Qkk P t,P.underlying t with
  | some (kt,kd,_),some (.map _ e)=>if o.dst.isNone then (Qek P (fun j=>if j=0 then t else if j=1 then kt else e) 0 [m,k,x]).map fun as=>(if inL T.mpt (tmpO x) then (.mapsetT kd,as,true) else (.mapset kd,as,false)) else none
  | _,_=>none
 | .mapEntry t m k=>match Qkk P t with
  | some (kt,kd,z)=>(Qek P (fun j=>if j=0 then t else kt) 0 [m,k]).map fun as=>(.mapentry kd z,as,false)
  | none=>none
 | .entryStore t m s x=>match Qkk P t,P.underlying t with
  | some _,some (.map _ e)=>if o.dst.isNone then (Qek P (fun j=>if j=0 then t else if j=1 then 0 else e) 0 [m,s,x]).map fun as=>(.entrystore,as,false) else none
  | _,_=>none
 | .call c=>match c.callee with
  | .builtin .len=>if c.args.size=1∧c.argTypes.size=1 then (Qek P (fun i=>c.argTypes.getD i 0) 0 c.args.toList).bind fun as=>match P.underlying (c.argTypes.getD 0 0) with
   | some (.slice _)=>some (.len,as,false)
   | some (.map _ _)=>some (.lenm,as,false)
   | some .string=>some (.lens,as,false)
   | _=>none else none
  | .builtin .append=>match P.underlying (c.argTypes.getD 0 0),P.underlying (c.argTypes.getD 1 0),c.args.size with
   | some (.slice e),some (.slice _),2=>if c.argTypes = #[c.argTypes.getD 0 0,c.argTypes.getD 0 0] then (match Qq7 P e,Qek P (fun i=>c.argTypes.getD i 0) 0 c.args.toList with
    | some z,some (.t i::as)=>if z.length=P.cellsOf e then (if T.inp.contains i then some (.appw (P.cellsOf e) (P.bytesOf e),.t i::as,false) else some (.append (P.cellsOf e) (P.bytesOf e),.t i::as,true)) else none
    | _,_=>none) else none
   | _,_,_=>none
  | .builtin .max=>if c.args.size=2 then (Qek P (fun i=>c.argTypes.getD i 0) 0 c.args.toList).map fun as=>(.max2,as,false) else none
  | .builtin .min=>if c.args.size=2 then (Qek P (fun i=>c.argTypes.getD i 0) 0 c.args.toList).map fun as=>(.min2,as,false) else none
  | .value (.func f) => if (P.funcs[f]?).any (fun fn => fn.body.isSome && fn.name != "runtime.NumGoroutine") then (Qek P (fun i => c.argTypes.getD i 0) 0 c.args.toList).map fun as => (if inL T.co o.dst then .callO f ((Qbg1 P f).getD 0) else .call f, as, false) else none
  | .value (.tmp t)=>(Qek P (fun i=>c.argTypes.getD i 0) 0 c.args.toList).map fun as=>(.callv,.t t::as,false)
  | _=>none
 | _=>none
def Qbcs (nt:Nat):Option Nat→Bool
 | some d=>decide (d<nt)
 | none=>true
def Qbjb (nt:Nat):Arg→Bool
 | .t i=>decide (i<nt)
 | .c v=>v.lt 0
def Qi0 (P:Program) (T:Tk) (nt:Nat) (ops:Array Oper) (o:Oper):Option COp :=
 match Qio P T o with
 | some (k,as,tk) =>
  if decide (0<nt)&&Qbcs nt o.dst&&as.all (Qbjb nt) then
   match o.guard with
   | none=>some { dst:=o.dst,kind:=k,args:=as,tk,guard:=none }
   | some (j,want)=>match (ops[j]?).bind (·.dst) with
    | some t=>some { dst:=o.dst,kind:=k,args:=as,tk,guard:=some (t,want) }
    | none=>none
  else none
 | none=>none
def Q15 (e:Edge):Bool :=
 match e.ground with
 | .textOnly _ | .gcOnly _=>false
 | _=>true
def Qt3 (o:Oper):List Nat:=(o.after.toList.filter Q15).map (·.on)
def ancs (ops:List Oper):List Nat :=
 ops.foldl (fun acc o=>acc++[(Qt3 o).foldl (fun l e=>l ||| 2 ^ e ||| acc.getD e 0) 0]) []
inductive Eff where
 | pure|read|alloc|take|write|call|callw|gen|other|takem|appw
 deriving DecidableEq
def K.eff:K→Eff
 | .mov | .pick | .build .. | .nilchk | .bin .. | .eqa .. | .un _ | .conv _ | .bstr | .blit .. | .func _ | .slice .. | .slcT _ | .fld _ | .field .. | .idx _ | .idxarr .. | .idxval .. | .extract _ | .max2 | .min2 | .lens | .idxs=>.pure
 | .load .. | .len | .append .. | .lookup .. | .lenm=>.read
 | .box _ | .alloc _ | .bslice .. | .makes .. | .mkmap=>.alloc
 | .loadT=>.take
 | .appw ..=>.appw
 | .lookupT ..=>.takem
 | .store _=>.write
 | .call _ | .callv=>.call
 | .isnil _ | .callO .. | .mapset _ | .mapsetT _ | .mapentry .. | .entrystore=>.other
def Arg.slot:Arg→List Nat
 | .t i=>[i]
 | .c _=>[]
def COp.argSlots (o:COp):List Nat:=o.args.flatMap Arg.slot
def COp.reads (o:COp):List Nat:=o.argSlots++(match o.guard with|some (t,_)=>[t]|none=>[])
def COp.soft (o:COp):List Nat:=if o.tk then o.argSlots else []
def Q1e (a b:List Nat):Bool:=a.all fun x=>!b.contains x
def COp.slotsApart (a b:COp):Bool :=
 Q1e a.dst.toList b.reads&&Q1e a.dst.toList b.dst.toList&&Q1e b.dst.toList a.reads &&
 (!a.tk || !b.tk||Q1e a.soft b.soft) &&
 (!a.tk||Q1e a.soft (match b.guard with|some (t,_)=>[t]|none=>[]))&&(!b.tk||Q1e b.soft (match a.guard with|some (t,_)=>[t]|none=>[]))
def COp.place (o:COp):Option (Nat×Nat) :=
 match o.kind,o.args with
 | .load _ n,[.t p]=>some (p,max n 1)
 | .loadT,[.t p]=>some (p,1)
 | .store n,[.t p,_]=>some (p,n)
 | _,_=>none
def COp.eff (pc:Nat) (o:COp):Eff :=
 match o.kind.eff with
 | .call=>if 10≤pc then (if wrs (pc-10) o.dst=true then .callw else .call) else if 2≤pc then .pure else if pc=1 then .call else .gen
 | .alloc=>if o.dst.isSome then .alloc else .other
 | e=>e
def Qow (pc:Nat) (a b:COp):Option (List Pair) :=
 if a.slotsApart b then
  match a.eff pc,b.eff pc with
  | .pure,.appw | .appw,.pure | .pure,.pure | .pure,.read | .pure,.alloc | .pure,.take | .pure,.takem | .takem,.pure | .pure,.write | .pure,.call | .pure,.gen=>some []
  | .read,.pure | .alloc,.pure | .take,.pure | .write,.pure | .call,.pure | .gen,.pure | .pure,.callw | .callw,.pure=>some []
  | .read,.read | .read,.alloc | .alloc,.read | .alloc,.alloc | .take,.alloc | .alloc,.take | .take,.read | .read,.take | .read,.takem | .takem,.read | .alloc,.takem | .takem,.alloc=>some []
  | .call,.alloc | .call,.read | .read,.call | .callw,.alloc=>some []
  | .read,.write | .take,.take =>
   match a.place,b.place with
   | some (p,n),some (q,m)=>some [⟨p,n,q,m⟩]
   | _,_=>none
  | .appw,.read | .appw,.write =>
   match a.args,b.place with
   | [.t q,.t x],some (p,m)=>some [⟨q,0,p,m⟩,⟨x,0,p,m⟩]
   | _,_=>none
  | _,_=>none
 else none
def enum {α:Type} (l:List α):List (Nat×α):=(List.range l.length).zip l
def Qwq (ops:List COp) (i:Nat) (an:Nat) (p:Pair):Bool :=
 (enum ops).all fun (k,c)=>decide (k<i)||(!(c.dst==some p.a)&&(!(c.dst==some p.b)||an.testBit k))
def Qs7 (pc:Nat) (an:List Nat) (ops:List COp):Option (List Pair) :=
 (enum ops).foldl (fun acc (i,a) =>
  (enum ops).foldl (fun acc (j,b) =>
   match acc with
   | none=>none
   | some l=>if decide (i<j) && !(an.getD j 0).testBit i then
     match Qow pc a b with
     | some m=>if m.all (Qwq ops i (an.getD j 0)) then some (l++m) else none
     | none=>none
    else some l) acc) (some [])
def Qbct (ops:List Oper):Bool:=(enum ops).all fun (i,o)=>(Qt3 o).all fun e=>decide (e<i)
def Qbcu (an:List Nat) (cs:List COp):Nat:=cs.foldl (fun m c=>match c.dst with
 | some d=>if c.kind.isCall&&(Qs7 (10+2 ^ d) an cs).isSome then m+2 ^ d else m
 | none=>m) 0
def Qmj (P:Program) (T:Tk) (nt:Nat) (ops:Array Oper) (draw:Bool):Option CC :=
 match ops.toList.mapM (Qi0 P T nt ops) with
 | some cs =>
  if draw then if !Qbct ops.toList || !P.follows .mixedOrders||cs.any (fun c=>c.kind.isNil) then none else
   match Qs7 0 (ancs ops.toList) cs with
   | some ps=>some (.region cs 0 ps)
   | none=>match (if Qbcu (ancs ops.toList) cs=0 then none else Qs7 (10+Qbcu (ancs ops.toList) cs) (ancs ops.toList) cs) with
    | some ps=>some (.region cs (10+Qbcu (ancs ops.toList) cs) ps)
    | none=>match Qs7 1 (ancs ops.toList) cs with
     | some ps=>some (.region cs 1 ps)
     | none=>match Qs7 2 (ancs ops.toList) cs with
      | some ps=>some (.region cs 2 ps)
      | none=>none
  else some (.region cs 9 [])
 | none=>none
def Q0g:Code→List Nat
 | .region _ ops _=>ops.toList.filterMap fun o=>match o.op with
  | .box .. | .alloc _ | .buildSlice .. | .makeSlice .. | .makeMap ..=>o.dst
  | _=>none
 | .seq a b=>Q0g a++Q0g b
 | .cond _ a b=>Q0g a++Q0g b
 | .block _ c | .loop c | .scope c=>Q0g c
 | _=>[]
def Qbb0:Code→List Oper
 | .region _ ops _=>ops.toList
 | .seq a b=>Qbb0 a++Qbb0 b
 | .cond _ a b=>Qbb0 a++Qbb0 b
 | .block _ c | .loop c | .scope c=>Qbb0 c
 | _=>[]
def Qbb1:Operand→List Nat
 | .tmp t=>[t]
 | _=>[]
def Q4v:Code→List Nat
 | .region _ ops draw=>if draw then ops.toList.filterMap fun o=>match o.op with
  | .buildSlice _ 1 ps=>match ps.toList with
   | [(0,.const _)]=>o.dst
   | _=>none
  | _=>none else []
 | .seq a b=>Q4v a++Q4v b
 | .cond _ a b=>Q4v a++Q4v b
 | .block _ c | .loop c | .scope c=>Q4v c
 | _=>[]
def Q0h:Code→List Nat
 | .region _ ops draw=>if draw then ops.toList.filterMap fun o=>match o.op,o.dst with
  | .buildSlice ..,some d=>if ops.toList.any fun u=>match u.op with
    | .call { callee:=.value _,args,.. }=>args.toList.any fun x=>match x with
     | .tmp t=>t==d
     | _=>false
    | _=>false
   then some d else none
  | _,_=>none else []
 | .seq a b=>Q0h a++Q0h b
 | .cond _ a b=>Q0h a++Q0h b
 | .block _ c | .loop c | .scope c=>Q0h c
 | _=>[]
def Qbg2 (P:Program) (c:Code):Tk :=
 let os:=Qbb0 c;let own:=os.flatMap fun o=>match o.op,o.dst with
  | .call { callee:=.value (.func f),args,.. },some d=>match Qbg1 P f with
   | some i=>((args.toList.drop i).take 1).flatMap fun x=>match x with
    | .tmp t=>[(d,t)]
    | _=>[]
   | none=>[]
  | _,_=>[]
 let app:=os.flatMap fun o=>match o.op with
  | .call { callee:=.builtin .append,args,.. }=>(args.toList.take 1).flatMap Qbb1
  | _=>[]
 let slf:=os.filterMap fun o=>match o.op,o.dst with
  | .slice _ (.tmp t) (some _) none none,some d =>
   if os.any fun a=>match a.op,a.dst with
    | .assign (.tmp d'),some v=>d'==d&&(v==t||os.any fun m=>match m.op,m.dst with | .move (.tmp v'),some t'=>v'==v&&t'==t|_,_=>false)
    | _,_=>false
   then some (d,t) else none
  | _,_=>none
 let mpt:=os.flatMap fun o=>match o.op,o.dst with
  | .call { callee:=.builtin .append,args,.. },some t =>
   match (args.toList.take 1).flatMap Qbb1 with
   | [d]=>if (os.any fun l=>match l.op,l.dst with | .lookup _ _ _ false,some d'=>d'==d|_,_=>false)&&(os.any fun u=>match u.op with | .mapUpdate _ _ _ (.tmp t') | .insert _ _ _ (.tmp t')=>t'==t|_=>false) then [d,t] else []
   | _=>[]
  | _,_=>[]
 let inp:=os.flatMap fun o=>match o.op with
  | .call { callee:=.builtin .append,args,.. }=>((args.toList.take 1).flatMap Qbb1).filter fun d=>os.any fun l=>match l.op,l.dst with
   | .slice _ (.tmp _) none (some _) none,some d'=>d'==d
   | _,_=>false
  | _=>[]
 { inp,app:=app++own.map (·.2),mpt,co:=own.map (·.1),lit:=Q4v c,dl:=Q0h c,slf:=slf.map (·.1),all:=app++own.map (·.2)++slf.map (·.2)++os.flatMap fun o=>match o.op with
   | .assign x=>Qbb1 x
   | .store _ _ x=>Qbb1 x
   | .box _ x=>Qbb1 x
   | _=>[] }
def Qbcv:Option CC→Option CC
 | some c=>some c
 | none=>some .dead
def Qu4 (P:Program) (T:Tk) (nt:Nat):Code→Option CC
 | .skip=>some .skip
 | .region _ ops draw=>Qbcv (Qmj P T nt ops draw)
 | .seq a b=>match Qu4 P T nt a,Qu4 P T nt b with
  | some x,some y=>some (.seq x y)
  | _,_=>none
 | .cond c a b=>match Qfz P 0 c,Qu4 P T nt a,Qu4 P T nt b with
  | some x,some y,some z=>some (.cond x y z)
  | _,_,_=>none
 | .block id c=>(Qu4 P T nt c).map (.block id)
 | .loop c=>(Qu4 P T nt c).map (.loop (Q0g c))
 | .exit id=>some (.exit id)
 | .ret=>some .ret
 | _=>some .dead
def Q2m (P:Program) (nt:Nat):ResultVar→Option Res
 | .tmp i=>if i<nt then some (.t i) else none
 | .cell p ty=>if p<nt∧(P.underlying ty).isSome=true then some (.cell p (Qhl P ty) (P.cellsOf ty)) else none
def Q2n (fn : Func) : Bool := fn.name != "runtime.NumGoroutine"
def Qo (P:Program) (f:FuncId):Option CFn :=
 match P.funcs[f]? with
 | some fn=>match fn.body with
  | some c=>match Qu4 P (Qbg2 P c) fn.ntmps c,fn.results.toList.mapM (Q2m P fn.ntmps) with
   | some b,some rs=>if (Qoa rs).Nodup∧fn.params.size+fn.nfree≤fn.ntmps∧Q2n fn=true then some { np:=fn.params.size+fn.nfree,nt:=fn.ntmps,res:=rs,body:=b } else none
   | _,_=>none
  | none=>none
 | none=>none
end Go.Abs
end
section
namespace Go.Abs
inductive Owner where
 | free
 | ext
 | slot (t:Nat) (p:List Nat)
 | res (p:List Nat)
 | cell (k c:Nat)
 | box (k:Nat)
 | hid (n t:Nat) (p:List Nat)
def Prot:Owner→Prop
 | .free=>True
 | .ext=>True
 | .hid ..=>True
 | _=>False
def Owner.sub:Owner→Nat→Owner
 | .slot t p,i=>.slot t (i::p)
 | .res p,i=>.res (i::p)
 | .hid n t p,i=>.hid n t (i::p)
 | .box k,i=>.cell k i
 | o,_=>o
structure G where
 box:Nat→Nat
 imm:Nat→Nat→Prop
 own:Nat→Owner
def Qxy (w:World) (b:Nat):Option (Array MapEntry×Nat):=match w.heap[b]? with
 | some (.map es c)=>some (es,c)
 | _=>none
theorem Qbfu {w:World} {b:Nat} {es:Array MapEntry} {c:Nat} (h:w.heap[b]? = some (.map es c)):Qxy w b=some (es,c):=by unfold Qxy;rw [h]
theorem Q59 {w:World} {b:Nat} {es:Array MapEntry} {c:Nat} (h:Qxy w b=some (es,c)):w.heap[b]? = some (.map es c):=by
 grind [Qxy]
def Q1f (w:World) (b o:Nat):Option Value×Option (Array MapEntry×Nat):=(w.cell? ⟨b,o,none⟩,Qxy w b)
theorem Qet {w w' : World} {b o:Nat} (h:w'.heap[b]? = w.heap[b]?):Q1f w' b o=Q1f w b o:=by unfold Q1f Qxy World.cell?;rw [h]
theorem Q4w {w w' : World} {b o:Nat} {c c' : Array Value} {e e' : TypeId} {p p' : Nat×Nat} (h:w.heap[b]? = some (.cells c e p)) (h' : w'.heap[b]? = some (.cells c' e' p')) (hc:w'.cell? ⟨b,o,none⟩=w.cell? ⟨b,o,none⟩):Q1f w' b o=Q1f w b o:=by
 unfold Q1f Qxy;rw [hc,h,h']
def Qu5 (w:World) (b o:Nat):Prop:=(w.cell? ⟨b,o,none⟩).isSome=true∨(Qxy w b).isSome=true
mutual
def RD (imm:Nat→Nat→Prop) (w:World):D→Value→Prop
 | .int k n,v=>v = .int k n
 | .bool b,v=>v = .bool b
 | .str s,v=>v = .string s
 | .lst sz l,v=>∃ a cap,v = .slice a l.length cap∧l.length≤cap∧(l=[]∨∃ b o,a=some ⟨b,o,none⟩∧RDL imm w sz b l o)
 | .mp es c,v=>∃ b,v = .map (some b)∧imm b 0∧Qxy w b=some (es.toArray,c)
def RDc (imm:Nat→Nat→Prop) (w:World) (b:Nat):List D→Nat→Prop
 | [],_=>True
 | y::ys,o=>imm b o∧(∃ u,w.cell? ⟨b,o,none⟩=some u∧RD imm w y u)∧RDc imm w b ys (o+1)
def RDL (imm:Nat→Nat→Prop) (w:World) (sz b:Nat):List (List D)→Nat→Prop
 | [],_=>True
 | x::xs,o=>x.length=sz∧RDc imm w b x o∧RDL imm w sz b xs (o+sz)
end
def immf (g:G) (w:World):Nat→Nat→Prop:=fun b o=>g.imm b o∧g.own b = .ext∧Qu5 w b o
mutual
def RV (g:G) (w:World):V→Owner→Value→Prop
 | .und,_,_=>True
 | .d x,_,v=>RD g.imm w x v
 | .agg cs,ℓ,v=>∃ vs:List Value,v = .agg vs.toArray∧RVs g w cs ℓ 0 vs∧∀ u∈vs,u.oneCell'=true
 | .tup cs,ℓ,v=>∃ vs:List Value,v = .tuple vs.toArray∧RVs g w cs ℓ 0 vs
 | .own sz l,ℓ,v=>((∃ a,v = .slice a 0 0)∧l=[])∨∃ b cap vals e,v = .slice (some ⟨b,0,none⟩) l.length cap∧g.own b=ℓ ∧
   w.heap[b]? = some (.cells vals e (0,0))∧l.length≤cap∧cap≤maxLen∧(vals.size=cap*sz∧∀ u∈vals.toList,u.oneCell'=true)∧(∀ o,g.imm b o↔o<l.length*sz)∧RDL g.imm w sz b l 0
 | .ownT sz l,ℓ,v=>((∃ a,v = .slice a 0 0)∧l=[])∨∃ b o0 cap vals e,v = .slice (some ⟨b,o0,none⟩) l.length cap∧g.own b=ℓ ∧
   w.heap[b]? = some (.cells vals e (0,0))∧l.length≤cap∧cap≤maxLen∧(vals.size=o0+cap*sz∧∀ u∈vals.toList,u.oneCell'=true)∧(∀ o,g.imm b o↔o<o0+l.length*sz)∧RDL g.imm w sz b l o0
 | .ptr k off,_,v=>v = .pointer (some ⟨g.box k,off,none⟩)
 | .nilp,_,v=>v = .pointer none
 | .f x,_,v=>RD (immf g w) w x v
 | .nils _,_,v=>∃ a,v = .slice a 0 0
 | .cref cs,_,v=>∃ b o,v = .pointer (some ⟨b,o,none⟩)∧RDc g.imm w b cs o
 | .sl _ k off len cap,_,v=>v = .slice (some ⟨g.box k,off,none⟩) len cap
 | .clo f caps,_,v=>∃ vs:List Value,v = .func (.func f) #[] vs.toArray∧RVs g w caps .ext 0 vs
 | .mp k,_,v=>v = .map (some (g.box k))
def RVs (g:G) (w:World):List V→Owner→Nat→List Value→Prop
 | [],_,_,vs=>vs=[]
 | c::cs,ℓ,i,vs=>∃ u us,vs=u::us∧RV g w c (ℓ.sub i) u∧RVs g w cs ℓ (i+1) us
end
structure Imm (imm imm' : Nat→Nat→Prop) (w w' : World):Prop where
 mono:∀ b o,imm b o→imm' b o
 look:∀ b o,imm b o→Q1f w' b o=Q1f w b o
theorem Imm.cell {imm imm' : Nat→Nat→Prop} {w w' : World} (h:Imm imm imm' w w') (b o:Nat) (hi:imm b o):w'.cell? ⟨b,o,none⟩=w.cell? ⟨b,o,none⟩:=congrArg Prod.fst (h.look b o hi)
theorem Imm.mp {imm imm' : Nat→Nat→Prop} {w w' : World} (h:Imm imm imm' w w') (b o:Nat) (hi:imm b o):Qxy w' b=Qxy w b:=congrArg Prod.snd (h.look b o hi)
theorem Imm.there {imm imm' : Nat→Nat→Prop} {w w' : World} (h:Imm imm imm' w w') (b o:Nat) (hi:imm b o) (ht:Qu5 w b o):Qu5 w' b o:=by
 unfold Qu5 at *;rw [h.cell b o hi,h.mp b o hi];exact ht
section
variable {imm imm' : Nat→Nat→Prop} {w w' : World}
mutual
theorem Qf0 (h:Imm imm imm' w w'):∀ (x:D) (v:Value),RD imm w x v→RD imm' w' x v
 | .int k n,v,hv=>by simpa [RD] using hv
 | .bool b,v,hv=>by simpa [RD] using hv
 | .str s,v,hv=>by simpa [RD] using hv
 | .lst sz l,v,hv=>by
  simp only [RD] at hv ⊢;obtain ⟨a,cap,rfl,hc,hl⟩:=hv;refine ⟨a,cap,rfl,hc,?_⟩;rcases hl with hl|⟨b,o,ha,hl⟩
  ·exact .inl hl
  ·exact .inr ⟨b,o,ha,RDL_mono h sz b l o hl⟩
 | .mp es c,v,hv=>by
  simp only [RD] at hv ⊢;obtain ⟨b,rfl,h1,h2⟩:=hv;exact ⟨b,rfl,h.mono b 0 h1,(h.mp b 0 h1).trans h2⟩
theorem Qy1 (h:Imm imm imm' w w') (b:Nat):∀ (ys:List D) (o:Nat),RDc imm w b ys o→RDc imm' w' b ys o
 | [],_,_=>by simp [RDc]
 | y::ys,o,hv=>by
  simp only [RDc] at hv ⊢;obtain ⟨hi,⟨u,hu,hy⟩,hr⟩:=hv;exact ⟨h.mono b o hi,⟨u,(h.cell b o hi).trans hu,Qf0 h y u hy⟩,Qy1 h b ys (o+1) hr⟩
theorem RDL_mono (h:Imm imm imm' w w') (sz b:Nat):∀ (l:List (List D)) (o:Nat),RDL imm w sz b l o→RDL imm' w' sz b l o
 | [],_,_=>by simp [RDL]
 | x::xs,o,hv=>by
  simp only [RDL] at hv ⊢;exact ⟨hv.1,Qy1 h b x o hv.2.1,RDL_mono h sz b xs (o+sz) hv.2.2⟩
end
end
mutual
theorem Q7e {imm:Nat→Nat→Prop} {w:World}:∀ (x:D) (u:Value),RD imm w x u→RD (fun b o=>imm b o∧Qu5 w b o) w x u
 | .int k n,v,h=>by simpa [RD] using h
 | .bool b,v,h=>by simpa [RD] using h
 | .str s,v,h=>by simpa [RD] using h
 | .lst sz l,v,h=>by
  simp only [RD] at h ⊢;obtain ⟨a,cap,h1,h2,h3⟩:=h;refine ⟨a,cap,h1,h2,?_⟩;rcases h3 with h3|⟨b,o,h3,h4⟩
  ·exact .inl h3
  ·exact .inr ⟨b,o,h3,RDL_strong sz b l o h4⟩
 | .mp es c,v,h=>by
  simp only [RD] at h ⊢;obtain ⟨b,h1,h2,h3⟩:=h;exact ⟨b,h1,⟨h2,.inr (by rw [h3];rfl)⟩,h3⟩
theorem Q4x {imm:Nat→Nat→Prop} {w:World} (b:Nat):∀ (ys:List D) (o:Nat),RDc imm w b ys o→RDc (fun b o=>imm b o∧Qu5 w b o) w b ys o
 | [],o,_=>by simp [RDc]
 | y::ys,o,h=>by
  simp only [RDc] at h ⊢;obtain ⟨h1,⟨u,h2,h3⟩,h4⟩:=h;exact ⟨⟨h1,.inl (by rw [h2];rfl)⟩,⟨u,h2,Q7e y u h3⟩,Q4x b ys (o+1) h4⟩
theorem RDL_strong {imm:Nat→Nat→Prop} {w:World} (sz b:Nat):∀ (l:List (List D)) (o:Nat),RDL imm w sz b l o→RDL (fun b o=>imm b o∧Qu5 w b o) w sz b l o
 | [],o,_=>by simp [RDL]
 | x::xs,o,h=>by
  simp only [RDL] at h ⊢;exact ⟨h.1,Q4x b x o h.2.1,RDL_strong sz b xs (o+sz) h.2.2⟩
end
mutual
def V.on (p:Nat→Prop):V→Prop
 | .ptr k _=>p k
 | .sl _ k _ _ _=>p k
 | .mp k=>p k
 | .agg cs=>V.ons p cs
 | .tup cs=>V.ons p cs
 | .clo _ cs=>V.ons p cs
 | _=>True
def V.ons (p:Nat→Prop):List V→Prop
 | []=>True
 | v::vs=>v.on p∧V.ons p vs
end
mutual
theorem Qfj {p q:Nat→Prop} (h:∀ k,p k→q k):∀ v:V,v.on p→v.on q
 | .ptr k _,hv=>h k hv
 | .sl _ k _ _ _,hv=>h k hv
 | .mp k,hv=>h k hv
 | .agg cs,hv=>ons_mono h cs hv
 | .tup cs,hv=>ons_mono h cs hv
 | .clo _ cs,hv=>ons_mono h cs hv
 | .und,_=>trivial
 | .d _,_=>trivial
 | .own ..,_=>trivial
 | .ownT ..,_=>trivial
 | .nilp,_=>trivial
 | .f _,_=>trivial
 | .nils _,_=>trivial
 | .cref _,_=>trivial
theorem ons_mono {p q:Nat→Prop} (h:∀ k,p k→q k):∀ vs:List V,V.ons p vs→V.ons q vs
 | [],_=>trivial
 | v::vs,hv=>⟨Qfj h v hv.1,ons_mono h vs hv.2⟩
end
theorem Qhz {p:Nat→Prop}:∀ {vs:List V},V.ons p vs↔∀ v∈vs,v.on p
 | []=>by simp [V.ons]
 | v::vs=>by simp [V.ons,Qhz (vs:=vs)]
mutual
theorem Qbfv {n:Nat}:∀ v:V,v.lt n=true→v.on (· < n)
 | .ptr k _,hv=>by simpa [V.lt,V.on] using hv
 | .sl _ k _ _ _,hv=>by simpa [V.lt,V.on] using hv
 | .mp k,hv=>by simpa [V.lt,V.on] using hv
 | .agg cs,hv=>ons_lt cs (by simpa [V.lt] using hv)
 | .tup cs,hv=>ons_lt cs (by simpa [V.lt] using hv)
 | .clo _ cs,hv=>ons_lt cs (by simpa [V.lt] using hv)
 | .und,_=>trivial
 | .d _,_=>trivial
 | .own ..,_=>trivial
 | .ownT ..,_=>trivial
 | .nilp,_=>trivial
 | .f _,_=>trivial
 | .nils _,_=>trivial
 | .cref _,_=>trivial
theorem ons_lt {n:Nat}:∀ vs:List V,V.lt.go n vs=true→V.ons (· < n) vs
 | [],_=>trivial
 | v::vs,hv=>by
  simp only [V.lt.go,Bool.and_eq_true] at hv;exact ⟨Qbfv v hv.1,ons_lt vs hv.2⟩
end
mutual
theorem Qdt {p:Nat→Prop}:∀ v:V,v.dem.on p↔v.on p
 | .agg cs=>by simp only [V.dem,V.on];exact ons_dems cs
 | .tup cs=>by simp only [V.dem,V.on];exact ons_dems cs
 | .own ..=>by simp [V.dem,V.on]
 | .ownT ..=>by simp [V.dem,V.on]
 | .ptr ..=>Iff.rfl
 | .sl ..=>Iff.rfl
 | .mp _=>Iff.rfl
 | .clo ..=>Iff.rfl
 | .und=>Iff.rfl
 | .d _=>Iff.rfl
 | .nilp=>Iff.rfl
 | .f _=>Iff.rfl
 | .nils _=>Iff.rfl
 | .cref _=>Iff.rfl
theorem ons_dems {p:Nat→Prop}:∀ vs:List V,V.ons p (V.dems vs)↔V.ons p vs
 | []=>Iff.rfl
 | v::vs=>by simp only [V.dems,V.ons,Qdt v,ons_dems vs]
end
structure Kept (g:G) (w:World) (g' : G) (w' : World) (p:Nat→Prop) (keep:Owner→Prop):Prop where
 imm:Imm g.imm g'.imm w w'
 box:∀ k,p k→g'.box k=g.box k
 own:∀ b,keep (g.own b)→b<w.heap.size→g'.own b=g.own b∧w'.heap[b]? = w.heap[b]? ∧ ∀ o,g'.imm b o↔g.imm b o
theorem Qbfw {w:World} {b o:Nat} (h:Qu5 w b o):b<w.heap.size:=by
 rcases h with h|h
 ·grind [Option.isSome_iff_exists,Go.World.cell?,Array.getElem?_eq_some_iff]
 ·obtain ⟨v,hv⟩:=Option.isSome_iff_exists.1 h;obtain ⟨a,c⟩:=v;exact (Array.getElem?_eq_some_iff.1 (Q59 hv)).1
theorem Qbaf {g g' : G} {w:World} (h:∀ b o,g.imm b o→g.own b = .ext→g'.imm b o∧g'.own b = .ext):Imm (immf g w) (immf g' w) w w :=
 ⟨fun b o ⟨h1,h2,h3⟩=>⟨(h b o h1 h2).1,(h b o h1 h2).2,h3⟩,fun _ _ _=>rfl⟩
section
variable {g g' : G} {w w' : World} {p:Nat→Prop} {keep:Owner→Prop}
theorem Qbcw (h:Kept g w g' w' p keep) (he:keep .ext):Imm (immf g w) (immf g' w') w w' :=
 ⟨fun b o ⟨h1,h2,h3⟩=>by
  obtain ⟨k1,_,k3⟩:=h.own b (by rw [h2];exact he) (Qbfw h3);exact ⟨(k3 o).2 h1,k1.trans h2,h.imm.there b o h1 h3⟩,fun b o h1=>h.imm.look b o h1.1⟩
mutual
theorem Qdc (h:Kept g w g' w' p keep) (hs:∀ ℓ i,keep ℓ→keep (ℓ.sub i)) (he:keep .ext) :
  ∀ (v:V) (ℓ:Owner) (u:Value),keep ℓ→v.on p→RV g w v ℓ u→RV g' w' v ℓ u
 | .und,_,_,_,_,_=>by simp [RV]
 | .d x,_,u,_,_,hv=>by simp only [RV] at hv ⊢;exact Qf0 h.imm x u hv
 | .agg cs,ℓ,u,hk,hl,hv=>by
  simp only [RV] at hv ⊢;obtain ⟨vs,rfl,hv,h1⟩:=hv;exact ⟨vs,rfl,RVs_mono h hs he cs ℓ 0 vs hk hl hv,h1⟩
 | .tup cs,ℓ,u,hk,hl,hv=>by
  simp only [RV] at hv ⊢;obtain ⟨vs,rfl,hv⟩:=hv;exact ⟨vs,rfl,RVs_mono h hs he cs ℓ 0 vs hk hl hv⟩
 | .own sz l,ℓ,u,hk,_,hv=>by
  simp only [RV] at hv ⊢;rcases hv with hv|⟨b,cap,vals,e,rfl,hb,hh,hc,hm,hz,hi,hr⟩
  ·exact .inl hv
  ·have hlt:b<w.heap.size:=by
    rcases Nat.lt_or_ge b w.heap.size with hlt|hge
    ·exact hlt
    ·simp [Array.getElem?_eq_none hge] at hh
   obtain ⟨h1,h2,h3⟩:=h.own b (hb ▸ hk) hlt;exact .inr ⟨b,cap,vals,e,rfl,h1.trans hb,h2.trans hh,hc,hm,hz,fun o=>(h3 o).trans (hi o),RDL_mono h.imm sz b l 0 hr⟩
 | .ownT sz l,ℓ,u,hk,_,hv=>by
  simp only [RV] at hv ⊢;rcases hv with hv|⟨b,o0,cap,vals,e,rfl,hb,hh,hc,hm,hz,hi,hr⟩
  ·exact .inl hv
  ·have hlt:b<w.heap.size:=by
    rcases Nat.lt_or_ge b w.heap.size with hlt|hge
    ·exact hlt
    ·simp [Array.getElem?_eq_none hge] at hh
   obtain ⟨h1,h2,h3⟩:=h.own b (hb ▸ hk) hlt;exact .inr ⟨b,o0,cap,vals,e,rfl,h1.trans hb,h2.trans hh,hc,hm,hz,fun o=>(h3 o).trans (hi o),RDL_mono h.imm sz b l o0 hr⟩
 | .ptr k off,_,u,_,hl,hv=>by
  simp only [RV] at hv ⊢;rw [h.box k hl];exact hv
 | .nilp,_,_,_,_,hv=>by simpa [RV] using hv
 | .f x,_,u,_,_,hv=>by simp only [RV] at hv ⊢;exact Qf0 (Qbcw h he) x u hv
 | .nils _,_,_,_,_,hv=>by simpa [RV] using hv
 | .cref cs,_,u,_,_,hv=>by
  simp only [RV] at hv ⊢;obtain ⟨b,o,rfl,hv⟩:=hv;exact ⟨b,o,rfl,Qy1 h.imm b cs o hv⟩
 | .sl sz k off len cap,_,u,_,hl,hv=>by
  simp only [RV] at hv ⊢;rw [h.box k hl];exact hv
 | .clo f caps,_,u,_,hl,hv=>by
  simp only [RV] at hv ⊢;obtain ⟨vs,rfl,hv⟩:=hv;exact ⟨vs,rfl,RVs_mono h hs he caps .ext 0 vs he hl hv⟩
 | .mp k,_,u,_,hl,hv=>by
  simp only [RV] at hv ⊢;rw [h.box k hl];exact hv
theorem RVs_mono (h:Kept g w g' w' p keep) (hs:∀ ℓ i,keep ℓ→keep (ℓ.sub i)) (he:keep .ext) :
  ∀ (cs:List V) (ℓ:Owner) (i:Nat) (us:List Value),keep ℓ→V.ons p cs→RVs g w cs ℓ i us→RVs g' w' cs ℓ i us
 | [],_,_,_,_,_,hv=>by simpa [RVs] using hv
 | c::cs,ℓ,i,us,hk,hl,hv=>by
  simp only [RVs] at hv ⊢;obtain ⟨u,us,rfl,h1,h2⟩:=hv;exact ⟨u,us,rfl,Qdc h hs he c (ℓ.sub i) u (hs ℓ i hk) hl.1 h1,RVs_mono h hs he cs ℓ (i+1) us hk hl.2 h2⟩
end
end
theorem Q9f {g:G} {w:World} {sz:Nat} {l:List (List D)} {ℓ:Owner} {u:Value} (h:RV g w (.own sz l) ℓ u):RV g w (.ownT sz l) ℓ u:=by
 simp only [RV] at h ⊢;rcases h with h|⟨b,cap,vals,e,h1,h2,h3,h4,h5,h6,h7,h8⟩
 ·exact .inl h
 ·exact .inr ⟨b,0,cap,vals,e,h1,h2,h3,h4,h5,by simpa using h6,by simpa using h7,h8⟩
theorem Qwr {g:G} {w:World} {sz:Nat} {l:List (List D)} {ℓ:Owner} {u:Value} (h:RV g w (.ownT sz l) ℓ u):RD g.imm w (.lst sz l) u:=by
 simp only [RV] at h;simp only [RD]
 grind
theorem Qj0 {g:G} {w:World} {sz:Nat} {l:List (List D)} {ℓ:Owner} {u:Value} (h:RV g w (.own sz l) ℓ u):RD g.imm w (.lst sz l) u:=by
 simp only [RV] at h;simp only [RD]
 grind
mutual
theorem Qhn {g:G} {w:World}:∀ (v:V) (ℓ ℓ' : Owner) (u:Value),RV g w v ℓ u→RV g w v.dem ℓ' u
 | .und,_,_,_,_=>by simp [V.dem,RV]
 | .d x,_,_,u,h=>by simpa [V.dem,RV] using h
 | .agg cs,ℓ,ℓ',u,h=>by
  simp only [V.dem,RV] at h ⊢;obtain ⟨vs,rfl,h,h1⟩:=h;exact ⟨vs,rfl,RVs_dem cs ℓ ℓ' 0 0 vs h,h1⟩
 | .tup cs,ℓ,ℓ',u,h=>by
  simp only [V.dem,RV] at h ⊢;obtain ⟨vs,rfl,h⟩:=h;exact ⟨vs,rfl,RVs_dem cs ℓ ℓ' 0 0 vs h⟩
 | .own sz l,ℓ,ℓ',u,h=>by
  have:=Qj0 h;simpa [V.dem,RV] using this
 | .ownT sz l,ℓ,ℓ',u,h=>by
  have:=Qwr h;simpa [V.dem,RV] using this
 | .ptr k off,_,_,_,h=>by simpa [V.dem,RV] using h
 | .nilp,_,_,_,h=>by simpa [V.dem,RV] using h
 | .f _,_,_,_,h=>by simpa [V.dem,RV] using h
 | .nils _,_,_,_,h=>by simpa [V.dem,RV] using h
 | .cref cs,_,_,_,h=>by simpa [V.dem,RV] using h
 | .sl sz k off len cap,_,_,_,h=>by simpa [V.dem,RV] using h
 | .clo f caps,_,_,_,h=>by simpa [V.dem,RV] using h
 | .mp k,_,_,_,h=>by simpa [V.dem,RV] using h
theorem RVs_dem {g:G} {w:World}:∀ (cs:List V) (ℓ ℓ' : Owner) (i i' : Nat) (us:List Value),RVs g w cs ℓ i us→RVs g w (V.dems cs) ℓ' i' us
 | [],_,_,_,_,_,h=>by simpa [V.dems,RVs] using h
 | c::cs,ℓ,ℓ',i,i',us,h=>by
  simp only [V.dems,RVs] at h ⊢;obtain ⟨u,us,rfl,h1,h2⟩:=h;exact ⟨u,us,rfl,Qhn c (ℓ.sub i) (ℓ'.sub i') u h1,RVs_dem cs ℓ ℓ' (i+1) (i'+1) us h2⟩
end
mutual
theorem Qdu:∀ v:V,v.dem.dem=v.dem
 | .und=>rfl
 | .d _=>rfl
 | .agg cs=>by simp [V.dem,dems_dems cs]
 | .tup cs=>by simp [V.dem,dems_dems cs]
 | .own _ _=>rfl
 | .ownT _ _=>rfl
 | .ptr _ _=>rfl
 | .nilp=>rfl
 | .f _=>rfl
 | .nils _=>rfl
 | .cref _=>rfl
 | .sl ..=>rfl
 | .clo _ _=>rfl
 | .mp _=>rfl
theorem dems_dems:∀ vs:List V,V.dems (V.dems vs)=V.dems vs
 | []=>rfl
 | v::vs=>by simp [V.dems,Qdu v,dems_dems vs]
end
theorem Qbhs (v:V):v.dem.top=v.dem:=by cases v<;>first|rfl|exact Qdu _
theorem Q2o:∀ vs:List V,own1 (V.dems vs)=V.dems vs
 | []=>rfl
 | v::vs=>by simp only [V.dems,own1,Qbhs,Q2o vs]
theorem Q2p {vs:List V} (h:∀ v∈vs,v.dem=v):own1 vs=vs:=by
 have:V.dems vs=vs:=by
  induction vs with
  | nil=>rfl
  | cons v vs ih=>grind [V.dems]
 rw [← this];exact Q2o vs
theorem Qy2:∀ vs:List V,own1 vs=vs.map V.top
 | []=>rfl
 | v::vs=>by simp only [own1,Qy2 vs,List.map_cons]
theorem Q4y {p:Nat→Prop} (v:V):v.top.on p↔v.on p:=by cases v<;>first|exact Iff.rfl|exact Qdt _
theorem Q7f {v:V} (h:v.dem=v):v.topS=v:=by
 cases v<;>first|rfl|exact h|skip
 grind [V.dem,V.agg.injEq,V.topS,Q2o]
theorem Q6a {p:Nat→Prop}:∀ vs:List V,V.ons p (own1 vs)↔V.ons p vs
 | []=>Iff.rfl
 | v::vs=>by simp only [own1,V.ons,Q4y v,Q6a vs]
theorem Q9g {p:Nat→Prop} (v:V):v.topS.on p↔v.on p:=by
 cases v<;>first|exact Iff.rfl|skip
 all_goals grind [V.topS,V.on,Q6a,V.dem,ons_dems]
def Flat (v:V):Prop:=v.dem=v
theorem Qle {g:G} {w:World} {v:V} {ℓ ℓ' : Owner} {u:Value} (hf:Flat v) (h:RV g w v ℓ u):RV g w v ℓ' u:=by
 have:=Qhn v ℓ ℓ' u h
 rwa [hf] at this
theorem Qcr {g:G} {w:World}:∀ (cs:List V) (ℓ:Owner) (i:Nat) (us:List Value),
  RVs g w cs ℓ i us↔us.length=cs.length∧∀ j c u,cs[j]? = some c→us[j]? = some u→RV g w c (ℓ.sub (i+j)) u
 | [],ℓ,i,us=>by
  simp only [RVs,List.length_nil];constructor
  ·rintro rfl;exact ⟨rfl,by simp⟩
  ·rintro ⟨h,_⟩;exact List.eq_nil_of_length_eq_zero h
 | c::cs,ℓ,i,us=>by
  simp only [RVs];constructor
  ·rintro ⟨u,us,rfl,h1,h2⟩;obtain ⟨hl,h2⟩:=(Qcr cs ℓ (i+1) us).1 h2;refine ⟨by simp [hl],fun j c' u' hc hu=>?_⟩;cases j with
   | zero=>simp at hc hu;subst hc hu;exact h1
   | succ j =>
    have:=h2 j c' u' (by simpa using hc) (by simpa using hu)
    rwa [show i+1+j=i+(j+1) from by omega] at this
  ·rintro ⟨hl,h⟩;cases us with
   | nil=>simp at hl
   | cons u us =>
    refine ⟨u,us,rfl,by simpa using h 0 c u rfl rfl,(Qcr cs ℓ (i+1) us).2 ⟨by simpa using hl,fun j c' u' hc hu=>?_⟩⟩;have:=h (j+1) c' u' (by simpa using hc) (by simpa using hu)
    grind
theorem Qor {g:G} {w:World} {cs:List V} {ℓ:Owner} {i:Nat} {us:List Value} (h:RVs g w cs ℓ i us):us.length=cs.length:=((Qcr cs ℓ i us).1 h).1
def RM (g:G) (w:World) (k:Nat):List (V×V×Nat)→List MapEntry→Prop
 | [],es=>es=[]
 | x::r,es=>∃ (e:MapEntry) (t:List MapEntry),es=e::t∧(x.1.dat=true∧RV g w x.1 .ext e.key)∧(x.2.1.mv=true∧RV g w x.2.1 (.cell k x.2.2) e.val)∧e.born=x.2.2∧RM g w k r t
def BR (g:G) (w:World) (k:Nat):Bx→Prop
 | .cells cs=>∃ (vals:List Value) (e:TypeId),w.heap[g.box k]? = some (.cells vals.toArray e (0,0))∧RVs g w cs (.box k) 0 vals∧∀ u∈vals,u.oneCell'=true
 | .mp es c=>∃ ents:List MapEntry,w.heap[g.box k]? = some (.map ents.toArray c)∧RM g w k es ents
theorem Qbht {p:Nat→Prop}:∀ {v:V},v.dat1=true→v.on p:=by
 intro v h;cases v<;>simp_all [V.dat1,V.on]
theorem Qu6 {p:Nat→Prop} {v:V} (h:v.dat=true):v.on p:=by
 cases v with
 | agg cs =>
  grind [V.dat,List.all_eq_true,V.on,Qhz,Qbht]
 | _=>simp_all [V.dat,V.on]
theorem Qbfx {v:V} (h:v.dat1=true):v.dem=v:=by
 cases v<;>simp_all [V.dat1,V.dem]
theorem Q7g:∀ {cs:List V},cs.all V.dat1=true→V.dems cs=cs
 | [],_=>rfl
 | c::cs,h=>by
  simp_all [List.all_cons,Bool.and_eq_true,V.dems,Qbfx,Q7g]
theorem Qbfy {v:V} (h:v.dat=true):Flat v:=by
 unfold Flat;cases v with
 | agg cs=>grind [V.dat,V.dem,Q7g]
 | _=>simp_all [V.dat,V.dem]
theorem Qu7 {v:V} (h:v.dat=true):v.dem=v:=Qbfy h
theorem Qqj {v:V} (h:v.mv=true):v.dat=true∨∃ sz l,v = .own sz l:=by
 cases v<;>first|exact .inr ⟨_,_,rfl⟩|exact .inl h
theorem Qxm {v:V} (h:v.dat=true):v.mv=true:=by
 cases v<;>first|rfl|exact h
theorem Qbcx {v:V} (h:v.mv=true):v.dem.dat=true:=by
 rcases Qqj h with h|⟨sz,l,rfl⟩
 ·rw [Qu7 h];exact h
 ·rfl
theorem Qbj9 {p:Nat→Prop} {v:V} (h:v.mv=true):v.on p:=by
 rcases Qqj h with h|⟨sz,l,rfl⟩
 ·exact Qu6 h
 ·simp [V.on]
theorem Qbg3 {g g' : G} {w w' : World} {k:Nat} (hk:∀ (v:V) (u:Value),v.dat=true→RV g w v .ext u→RV g' w' v .ext u) (h:∀ (v:V) (i:Nat) (u:Value),v.mv=true→RV g w v (.cell k i) u→RV g' w' v (.cell k i) u):∀ {es:List (V×V×Nat)} {ents:List MapEntry},RM g w k es ents→RM g' w' k es ents
 | [],_,hr=>hr
 | x::r,_,hr=>by
  simp only [RM] at hr ⊢;obtain ⟨e,t,rfl,⟨a1,a2⟩,⟨b1,b2⟩,h3,h4⟩:=hr;exact ⟨e,t,rfl,⟨a1,hk _ _ a1 a2⟩,⟨b1,h _ _ _ b1 b2⟩,h3,Qbg3 hk h h4⟩
theorem Qbhu {g g' : G} {w w' : World} (h:Imm g.imm g'.imm w w') {v:V} (hd:v.dat1=true) {ℓ ℓ' : Owner} {u:Value}:RV g w v ℓ u→RV g' w' v ℓ' u:=by
 cases v<;>simp_all [V.dat1,RV];exact Qf0 h _ _
theorem Qbag {g g' : G} {w w' : World} (h:Imm g.imm g'.imm w w'):∀ {cs:List V},cs.all V.dat1=true→∀ {ℓ ℓ' : Owner} {i i' : Nat} {us:List Value},RVs g w cs ℓ i us→RVs g' w' cs ℓ' i' us
 | [],_,_,_,_,_,_,hr=>by simpa [RVs] using hr
 | c::cs,hd,_,_,_,_,_,hr=>by
  simp only [List.all_cons,Bool.and_eq_true] at hd;simp only [RVs] at hr ⊢;obtain ⟨u,us,rfl,h1,h2⟩:=hr;exact ⟨u,us,rfl,Qbhu h hd.1 h1,Qbag h hd.2 h2⟩
theorem Qt4 {g g' : G} {w w' : World} (h:Imm g.imm g'.imm w w') {v:V} (hd:v.dat=true) {ℓ ℓ' : Owner} {u:Value} (hr:RV g w v ℓ u):RV g' w' v ℓ' u:=by
 cases v with
 | agg cs =>
  simp only [V.dat] at hd;simp only [RV] at hr ⊢;obtain ⟨vs,rfl,h1,h2⟩:=hr;exact ⟨vs,rfl,Qbag h hd h1,h2⟩
 | d x=>grind [RV,Qf0]
 | nils _=>simpa [RV] using hr
 | _=>simp [V.dat] at hd
theorem Qbcy {g g' : G} {w w' : World} {k:Nat} (hi:Imm g.imm g'.imm w w') (h:∀ (sz:Nat) (l:List (List D)) (i:Nat) (u:Value),RV g w (.own sz l) (.cell k i) u→RV g' w' (.own sz l) (.cell k i) u) {es:List (V×V×Nat)} {ents:List MapEntry} (hr:RM g w k es ents):RM g' w' k es ents :=
 Qbg3 (fun _ _ hd hv=>Qt4 hi hd hv) (fun v i u hd hv=>by
  rcases Qqj hd with hd|⟨sz,l,rfl⟩
  all_goals grind [Qt4]) hr
theorem Q6b {g g' : G} {w w' : World} {ℓ:Owner} (hi:Imm g.imm g'.imm w w') (hb:∀ b,g.own b=ℓ→b<w.heap.size→g'.own b=ℓ∧w'.heap[b]? = w.heap[b]? ∧ ∀ o,g'.imm b o↔g.imm b o) {sz:Nat} {l:List (List D)} {u:Value} (hv:RV g w (.own sz l) ℓ u):RV g' w' (.own sz l) ℓ u:=by
 simp only [RV] at hv ⊢;rcases hv with hv|⟨b,cap,vals,e,h1,h2,h3,h4,h5,h6,h7,h8⟩
 ·exact .inl hv
 ·have hlt:b<w.heap.size:=(Array.getElem?_eq_some_iff.1 h3).1;obtain ⟨k1,k2,k3⟩:=hb b h2 hlt;exact .inr ⟨b,cap,vals,e,h1,k1,k2.trans h3,h4,h5,h6,fun o=>(k3 o).trans (h7 o),RDL_mono hi sz b l 0 h8⟩
theorem Q7h {g g' : G} {w w' : World} {k:Nat} (hi:Imm g.imm g'.imm w w') (hb:∀ b i,g.own b = .cell k i→b<w.heap.size→g'.own b = .cell k i∧w'.heap[b]? = w.heap[b]? ∧ ∀ o,g'.imm b o↔g.imm b o) {es:List (V×V×Nat)} {ents:List MapEntry} (hr:RM g w k es ents):RM g' w' k es ents :=by grind [Qbcy,Q6b]
theorem Qkq {g g' : G} {w w' : World} {k:Nat} {p:Nat→Prop} {keep:Owner→Prop} (h:Kept g w g' w' p keep) (hk:∀ i,keep (.cell k i)) {es:List (V×V×Nat)} {ents:List MapEntry} (hr:RM g w k es ents):RM g' w' k es ents :=
 Q7h h.imm (fun b i hb hlt=>by have:=h.own b (by rw [hb];exact hk i) hlt;rwa [hb] at this) hr
structure MR (g:G) (w:World) (M:Mem) (nb:Nat):Prop where
 box:∀ k b,M k=some b→k<nb∧g.own (g.box k) = .box k∧BR g w k b
 imm:∀ b o,g.imm b o→b<w.heap.size∧∀ k,g.own b ≠ .box k
structure Fr (n0:Nat) (g0:G) (w0:World) (g:G) (w:World):Prop where
 os:w.os=w0.os
 tape:w.tape=w0.tape
 output:w.output=w0.output
 size:w0.heap.size≤w.heap.size
 imm:Imm g0.imm g.imm w0 w
 box:∀ k,k<n0→g.box k=g0.box k
 old:∀ b,b<w0.heap.size→Prot (g0.own b)→g.own b=g0.own b∧w.heap[b]? = w0.heap[b]? ∧ ∀ o,g.imm b o↔g0.imm b o
theorem Fr.refl (n0:Nat) (g:G) (w:World):Fr n0 g w g w :=
 ⟨rfl,rfl,rfl,Nat.le_refl _,⟨fun _ _ h=>h,fun _ _ _=>rfl⟩,fun _ _=>rfl,fun _ _ _=>⟨rfl,rfl,fun _=>Iff.rfl⟩⟩
theorem Fr.next {n0 nb:Nat} {g0 g g' : G} {w0 w w' : World} (h:Fr n0 g0 w0 g w) (hn:n0≤nb) (k:Fr nb g w g' w'):Fr n0 g0 w0 g' w':={
 os:=k.os.trans h.os
 tape:=k.tape.trans h.tape
 output:=k.output.trans h.output
 size:=Nat.le_trans h.size k.size
 imm:=⟨fun b o hb=>k.imm.mono b o (h.imm.mono b o hb),fun b o hb=>(k.imm.look b o (h.imm.mono b o hb)).trans (h.imm.look b o hb)⟩
 box:=fun i hi=>(k.box i (Nat.lt_of_lt_of_le hi hn)).trans (h.box i hi)
 old:=fun b hb ho=>by
  obtain ⟨h1,h2,h3⟩:=h.old b hb ho;obtain ⟨k1,k2,k3⟩:=k.old b (Nat.lt_of_lt_of_le hb h.size) (by rw [h1];exact ho)
  grind }
structure SR (n0 nt:Nat) (g0:G) (w0:World) (σ:St) (a:Act) (w:World) (g:G):Prop where
 mem:MR g w σ.M σ.nb
 slots:∀ t,RV g w (σ.s t) (.slot t []) (a.tmps.getD t undef)
 size:a.tmps.size=nt
 defers:a.defers=[]
 onS:∀ t,(σ.s t).on fun k=>(σ.M k).isSome=true
 onM:∀ k cs,σ.M k=some (.cells cs)→(V.ons (fun j=>(σ.M j).isSome=true) cs)∧(k<n0→V.ons (· < n0) cs)
 top:n0+nt≤σ.nb
 fr:Fr n0 g0 w0 g w
end Go.Abs
end
section
namespace Go.Abs
open Go
def RF (g:G) (w:World) (v:V) (u:Value):Prop:=∀ ℓ,RV g w v ℓ u
section
variable {g:G} {w:World}
theorem Qu8 {v:V} {ℓ:Owner} {u:Value} (h:RV g w v ℓ u):RF g w v.dem u:=fun ℓ'=>Qhn v ℓ ℓ' u h
theorem RF_d {x:D} {u:Value}:RF g w (.d x) u↔RD g.imm w x u:=by
 constructor
 ·intro h;simpa [RV] using h .free
 ·intro h ℓ;simpa [RV] using h
theorem Qqk {k o:Nat} {u:Value}:RF g w (.ptr k o) u↔u = .pointer (some ⟨g.box k,o,none⟩):=by
 constructor
 ·intro h;simpa [RV] using h .free
 ·intro h ℓ;simpa [RV] using h
theorem Q4l {sz k o n c:Nat} {u:Value}:RF g w (.sl sz k o n c) u↔u = .slice (some ⟨g.box k,o,none⟩) n c:=by
 constructor
 ·intro h;simpa [RV] using h .free
 ·intro h ℓ;simpa [RV] using h
theorem Qs8 {cs:List D} {u:Value}:RF g w (.cref cs) u↔∃ b o,u = .pointer (some ⟨b,o,none⟩)∧RDc g.imm w b cs o:=by
 constructor
 ·intro h;simpa [RV] using h .free
 ·intro h ℓ;simpa [RV] using h
def RFs (g:G) (w:World):List V→List Value→Prop
 | [],us=>us=[]
 | v::vs,us=>∃ u us',us=u::us'∧RF g w v u∧RFs g w vs us'
theorem Qif:∀ {vs:List V} {us:List Value},RFs g w vs us→us.length=vs.length
 | [],us,h=>by simp [RFs] at h;simp [h]
 | v::vs,us,h=>by
  obtain ⟨u,us',rfl,_,h⟩:=h;simp [Qif h]
theorem Qs9:∀ {vs:List V} {us:List Value},RFs g w vs us→∀ (i:Nat) (v:V) (u:Value),vs[i]? = some v→us[i]? = some u→RF g w v u
 | [],us,h,i,v,u,hv,_=>by simp at hv
 | v::vs,us,h,i,v',u',hv,hu=>by
  obtain ⟨u,us',rfl,h1,h⟩:=h;cases i with
  | zero=>simp at hv hu;subst hv hu;exact h1
  | succ i=>exact Qs9 h i v' u' (by simpa using hv) (by simpa using hu)
theorem Qta {imm:Nat→Nat→Prop} {b:Nat}:∀ {ys:List D} {o:Nat},RDc imm w b ys o→∀ j y,ys[j]? = some y→imm b (o+j)∧∃ u,w.cell? ⟨b,o+j,none⟩=some u∧RD imm w y u
 | [],o,_,j,y,hj=>by simp at hj
 | y::ys,o,h,j,y',hj=>by
  simp only [RDc] at h;cases j with
  | zero=>simp at hj;subst hj;exact ⟨h.1,h.2.1⟩
  | succ j =>
   have:=Qta h.2.2 j y' (by simpa using hj)
   rwa [show o+1+j=o+(j+1) from by omega] at this
theorem Qxn {imm:Nat→Nat→Prop} {b:Nat}:∀ {ys:List D} {o:Nat},(∀ j y,ys[j]? = some y→imm b (o+j)∧∃ u,w.cell? ⟨b,o+j,none⟩=some u∧RD imm w y u)→RDc imm w b ys o
 | [],o,_=>by simp [RDc]
 | y::ys,o,h=>by
  simp only [RDc];obtain ⟨h1,h2⟩:=h 0 y rfl;refine ⟨by simpa using h1,by simpa using h2,Qxn fun j y' hj=>?_⟩;have:=h (j+1) y' (by simpa using hj)
  grind
theorem Qxz {imm:Nat→Nat→Prop} {sz b:Nat}:∀ {l:List (List D)} {o:Nat},RDL imm w sz b l o→∀ i x,l[i]? = some x→x.length=sz∧RDc imm w b x (o+i*sz)
 | [],o,_,i,x,hi=>by simp at hi
 | x::xs,o,h,i,x',hi=>by
  simp only [RDL] at h;cases i with
  | zero=>simp at hi;subst hi;exact ⟨h.1,by simpa using h.2.1⟩
  | succ i =>
   have:=Qxz h.2.2 i x' (by simpa using hi)
   rwa [show o+sz+i*sz=o+(i+1)*sz from by rw [Nat.add_mul];omega] at this
theorem Q1g {imm:Nat→Nat→Prop} {sz b:Nat}:∀ {l:List (List D)} {o:Nat},(∀ i x,l[i]? = some x→x.length=sz∧RDc imm w b x (o+i*sz))→RDL imm w sz b l o
 | [],o,_=>by simp [RDL]
 | x::xs,o,h=>by
  simp only [RDL];refine ⟨(h 0 x rfl).1,by simpa using (h 0 x rfl).2,Q1g fun i x' hi=>?_⟩;have:=h (i+1) x' (by simpa using hi)
  grind
theorem Q0i {imm:Nat→Nat→Prop} {x:D} {u:Value} (h:RD imm w x u):u.oneCell'=true:=by
 cases x<;>simp only [RD] at h
 ·subst h;rfl
 ·subst h;rfl
 ·subst h;rfl
 ·obtain ⟨a,cap,rfl,_⟩:=h;rfl
 ·obtain ⟨b,rfl,_⟩:=h;rfl
end
section
variable (P:Program) {g:G} {w:World}
theorem Qgw {t:TypeId} {i:TypeInfo} (h:P.info? t=some i) (w:World):(sizeOf t).run P w = .ok i.size w:=by simp [sizeOf,typeInfo,h]
theorem Qbcz {t e:TypeId} (h:P.underlying t=some (.slice e)):P.underlying t=some (.slice (P.elem t)):=by
 rw [h];simp [Program.elem,h]
theorem Qe2 {t:TypeId} {i:TypeInfo} (h:P.info? t=some i):P.cellsOf t=i.size:=by simp [Program.cellsOf,h]
theorem Qrx {t:TypeId} {d:TypeDesc} (hd:P.underlying t=some d):(isAgg t).run P w = .ok (Qhl P t) w:=by
 unfold isAgg Qhl;rw [Sem.run_bind,run_underlying hd w,hd];cases d<;>simp
theorem Qip {t:TypeId} {d:TypeDesc} (h:P.underlying t=some d):∃ i,P.info? t=some i:=by
 unfold Program.underlying at h
 grind
theorem Qgz (b o n:Nat):(⟨b,o,none⟩ : Addr).add n=⟨b,o+n,none⟩:=by
 unfold Addr.add;split<;>simp_all
theorem Q2q (t:TypeId) {d:TypeDesc} (hd:P.underlying t=some d) (hA:Qhl P t=true) (b o:Nat) (us:List Value) (hl:us.length=P.cellsOf t)
  (hc:∀ j u,us[j]? = some u→w.cell? ⟨b,o+j,none⟩=some u):(loadVar t ⟨b,o,none⟩).run P w = .ok (.agg us.toArray) w:=by
 obtain ⟨i,hi⟩:=Qip P hd;have hload:=run_loadCells_list (P:=P) w ⟨b,o,none⟩ us (fun j u hu=>by rw [Qgz];exact hc j u hu)
 simp_all [Qe2,Go.loadVar,Qrx,Qgw]
theorem Q2r (t:TypeId) {d:TypeDesc} (hd:P.underlying t=some d) (hA:Qhl P t=false) (ad:Addr) (u:Value) (hc:w.cell? ad=some u) :
  (loadVar t ad).run P w = .ok u w:=by
 simp [loadVar,Qrx P hd,hA,hc]
theorem Qws {M:Mem} {nb k:Nat} {cs:List V} (h:MR g w M nb) (hM:M k=some (.cells cs)) {j:Nat} {c:V} (hj:cs[j]? = some c) :
  ∃ u,w.cell? ⟨g.box k,j,none⟩=some u∧RV g w c (.cell k j) u∧u.oneCell'=true:=by
 obtain ⟨_,_,vals,e,hh,hr,h1⟩:=h.box k _ hM;obtain ⟨hl,hr⟩:=(Qcr _ _ _ _).1 hr;have hlt:j<vals.length:=by grind
 simp_all [List.getElem_mem,Go.World.cell?,Owner.sub]
theorem Q2s {M:Mem} {nb k:Nat} {cs:List V} (h:MR g w M nb) (hM:M k=some (.cells cs)) (o:Nat):∀ (n:Nat),o+n≤cs.length →
  ∃ us:List Value,us.length=n∧(∀ j u,us[j]? = some u→w.cell? ⟨g.box k,o+j,none⟩=some u)∧(∀ u∈us,u.oneCell'=true) ∧
   ∀ j c u,((cs.drop o).take n)[j]? = some c→us[j]? = some u→RV g w c (.cell k (o+j)) u
 | 0,_=>⟨[],rfl,by simp,by simp,by simp⟩
 | n+1,hn=>by
  obtain ⟨us,hl,hc,h1,hr⟩:=Q2s h hM o n (by omega);obtain ⟨u,hu,hru,hu1⟩:=Qws h hM (j:=o+n) (c:=cs[o+n]'(by omega)) (List.getElem?_eq_getElem _);refine ⟨us++[u],by simp [hl],fun j u' hj=>?_,fun u' hu'=>?_,fun j c u' hc' hj=>?_⟩
  ·grind
  ·grind
  ·rcases Nat.lt_or_ge j n with hlt|hge
   all_goals grind
theorem Q16 {vs:List V} {j:Nat} {c:V} (h:(V.dems vs)[j]? = some c):∃ c',vs[j]? = some c'∧c=c'.dem:=by
 induction vs generalizing j with
 | nil=>simp [V.dems] at h
 | cons v vs ih =>
  cases j with
  | zero=>simp [V.dems] at h;exact ⟨v,rfl,h.symm⟩
  | succ j=>grind [V.dems]
theorem Q9h (vs:List V):(V.dems vs).length=vs.length:=by
 induction vs with
 | nil=>rfl
 | cons v vs ih=>simp [V.dems,ih]
theorem Qbc0 {M:Mem} {nb:Nat} (hM:MR g w M nb) (t:TypeId) {d:TypeDesc} (hd:P.underlying t=some d) {n0 κ:Nat} {p v:V} {M' : Mem} {u:Value}
  (hp:RF g w p u) (hs:Qh n0 κ (.load (Qhl P t) (P.cellsOf t)) [p] M=some (v,M')) :
  M'=M∧∃ val,(Instr.loadAt t u).run P w = .ok val w∧RF g w v val:=by
 cases p<;>simp only [Qh] at hs<;>try (cases hs;done)
 case ptr k off =>
  rw [Qqk] at hp;subst hp;cases hMk:M k with
  | none=>simp [hMk] at hs
  | some b =>
   cases b with
   | mp es=>simp [hMk] at hs
   | cells cs =>
    simp only [hMk] at hs;split at hs
    case isFalse=>cases hs
    case isTrue hle =>
     cases hA:Qhl P t with
     | true =>
      simp only [hA,if_true,Option.some.injEq,Prod.mk.injEq] at hs;obtain ⟨rfl,rfl⟩:=hs;refine ⟨rfl,?_⟩;obtain ⟨us,hl,hc,h1,hr⟩:=Q2s hM hMk off _ hle;refine ⟨.agg us.toArray,?_,fun ℓ=>?_⟩
      ·grind [Go.Instr.loadAt,Go.Instr.sureAddr,Go.Sem.run_bind,Go.Sem.run_pure,Go.Result.andThen_ok,Q2q]
      ·simp only [RV];refine ⟨us,rfl,(Qcr _ _ _ _).2 ⟨by rw [Q9h,List.length_take,List.length_drop,hl];omega,fun j c u hc' hu=>?_⟩,h1⟩;obtain ⟨c',hc'',rfl⟩:=Q16 hc'
       grind [Qhn]
     | false =>
      simp only [hA,Bool.false_eq_true,if_false] at hs;cases hcs:cs[off]? with
      | none=>simp [hcs] at hs
      | some c =>
       simp [hcs] at hs;obtain ⟨rfl,rfl⟩:=hs;obtain ⟨u,hu,hru,_⟩:=Qws hM hMk hcs;exact ⟨rfl,u,by simp [Instr.loadAt,Instr.sureAddr,Q2r P t hd hA _ u hu],Qu8 hru⟩
 case cref cs =>
  rw [Qs8] at hp;obtain ⟨b,o,rfl,hr⟩:=hp;split at hs
  case isFalse=>cases hs
  case isTrue hle =>
   cases hA:Qhl P t with
   | true =>
    simp only [hA,if_true,Option.some.injEq,Prod.mk.injEq] at hs;obtain ⟨rfl,rfl⟩:=hs;refine ⟨rfl,?_⟩;have hex:∀ n,n≤cs.length→∃ us:List Value,us.length=n∧(∀ (j:Nat) u,us[j]? = some u→w.cell? ⟨b,o+j,none⟩=some u)∧∀ (j:Nat) y u,cs[j]? = some y→us[j]? = some u→RD g.imm w y u:=by
     intro n
     induction n with
     | zero=>simp_all
     | succ n ih =>
      intro hn;obtain ⟨us,hl,hc,hy⟩:=ih (by omega);obtain ⟨_,u,hu,hru⟩:=Qta hr n (cs[n]'(by omega)) (List.getElem?_eq_getElem _);refine ⟨us++[u],by simp [hl],fun j u' hj=>?_,fun j y u' hj hj'=>?_⟩
      all_goals grind
    obtain ⟨us,hl,hc,hy⟩:=hex _ hle;refine ⟨.agg us.toArray,?_,fun ℓ=>?_⟩
    ·grind [Go.Instr.loadAt,Go.Instr.sureAddr,Go.Sem.run_bind,Go.Sem.run_pure,Go.Result.andThen_ok,Q2q]
    ·simp only [RV];have hget:∀ (j:Nat) c u,((cs.take (P.cellsOf t)).map V.d)[j]? = some c→us[j]? = some u→∃ y,c = .d y∧RD g.imm w y u:=by
      grind
     refine ⟨us,rfl,(Qcr _ _ _ _).2 ⟨by simp [hl];omega,fun j c u hcj hu=>?_⟩,fun u hu=>?_⟩
     ·obtain ⟨y,rfl,hy⟩:=hget j c u hcj hu;simpa [RV] using hy
     ·obtain ⟨j,hj,rfl⟩:=List.getElem_of_mem hu;have hj' : j<((cs.take (P.cellsOf t)).map V.d).length:=by simp;omega
      obtain ⟨y,_,hy⟩:=hget j _ us[j] (List.getElem?_eq_getElem hj') (by simp [hj]);exact Q0i hy
   | false =>
    simp only [hA,Bool.false_eq_true,if_false] at hs;cases hcs:cs[0]? with
    | none=>simp [hcs] at hs
    | some y =>
     simp [hcs] at hs;obtain ⟨rfl,rfl⟩:=hs;obtain ⟨_,u,hu,hru⟩:=Qta hr 0 y hcs;have hu' : w.cell? ⟨b,o,none⟩=some u:=hu;exact ⟨rfl,u,by simp [Instr.loadAt,Instr.sureAddr,Q2r P t hd hA _ u hu'],RF_d.2 hru⟩
end
end Go.Abs
end
section
namespace Go.Abs
open Go
section
variable (P:Program) {g:G} {w:World}
theorem Qox {k:IntKind} {n:Int} {u:Value} (h:RF g w (.d (.int k n)) u):u = .int k n:=by simpa [RD] using RF_d.1 h
theorem Q2t {b:Bool} {u:Value} (h:RF g w (.d (.bool b)) u):u = .bool b:=by simpa [RD] using RF_d.1 h
theorem Qbb2 {b:ByteArray} {u:Value} (h:RF g w (.d (.str b)) u):u = .string b:=by simpa [RD] using RF_d.1 h
theorem Qtb (op:BinOp) (t:TypeId) (x y:Operand) (a b:Value) (h:(match a,b with | .nilIface,.nilIface=>false | .agg _,.agg _=>false|_,_=>true)=true) (w:World) :
  (eqGuard op t x y a b).run P w = .ok () w:=by
 unfold eqGuard;cases a<;>cases b<;>simp at h<;>(split<;>simp [*])
theorem Qbjc (op:BinOp) (tb:Bool) (xt:TypeId) (hd:tb=true→P.underlying xt=some .bool) (x y:Operand) {a b c:D} {u v:Value}
  (ha:RF g w (.d a) u) (hb' : RF g w (.d b) v) (hs:binD op tb a b=some c) :
  ∃ val,((do eqGuard op xt x y u v;binOp op xt u v:Sem Value)).run P w = .ok val w∧RF g w (.d c) val:=by
 cases a<;>cases b<;>simp only [binD] at hs<;>try (cases hs;done)
 case int.int k a k' b =>
  have ha:=Qox ha;have hb':=Qox hb';subst ha hb';rw [Sem.run_bind,Qtb P op xt x y _ _ rfl w,Result.andThen_ok];cases op<;>simp only at hs
  case shl=>split at hs<;>cases hs;rename_i h;exact ⟨.int k (k.wrap (a*2 ^ min b.toNat k.bits)),by simp [binOp,Op.shift,h],by rw [RF_d];simp [RD]⟩
  case shr=>split at hs<;>cases hs;rename_i h;exact ⟨.int k (a.fdiv (2 ^ min b.toNat k.bits)),by simp [binOp,Op.shift,h],by rw [RF_d];simp [RD]⟩
  case quo =>
   split at hs<;>try (cases hs;done)
   rename_i hk;subst hk;simp only [Q7b] at hs;split at hs<;>cases hs;simp_all [Go.binOp,Go.Op.intDiv,RF_d,RD]
  case rem =>
   split at hs<;>try (cases hs;done)
   rename_i hk;subst hk;simp only [Q7b] at hs;split at hs<;>cases hs;simp_all [Go.binOp,Go.Op.intDiv,RF_d,RD]
  all_goals
   split at hs<;>try (cases hs;done)
   rename_i hk;subst hk;simp only [Q7b] at hs;cases hs
   simp_all [Go.binOp,Go.Op.intArith,Go.Op.intBits,Go.Op.intCmp,RF_d,RD]
 case bool.bool a b =>
  have ha:=Q2t ha;have hb':=Q2t hb';subst ha hb';rw [Sem.run_bind,Qtb P op xt x y _ _ rfl w,Result.andThen_ok];cases op<;>cases tb<;>simp only at hs<;>cases hs
  ·exact ⟨_,run_eql_bool (P:=P) w xt a b (hd rfl),by rw [RF_d];simp [RD]⟩
  ·exact ⟨_,run_neq_bool (P:=P) w xt a b (hd rfl),by rw [RF_d];simp [RD]⟩
 case str.str a b =>
  have ha:=Qbb2 ha;have hb':=Qbb2 hb';subst ha hb';rw [Sem.run_bind,Qtb P op xt x y _ _ rfl w,Result.andThen_ok];cases op<;>simp only at hs<;>cases hs
  all_goals simp_all [Go.binOp,Go.Op.stringOp,RF_d,RD]
theorem Qbka (op:UnOp) {a c:D} {u:Value} (ha:RF g w (.d a) u) (hs:unD op a=some c) :
  ∃ val,(Op.unary op u).run P w = .ok val w∧RF g w (.d c) val:=by
 cases op<;>cases a<;>simp only [unD] at hs<;>cases hs
 all_goals simp_all [Qox,Go.Op.unary,Go.Op.intArith,RF_d,RD,Q2t]
theorem Qbhv (s d:TypeId) (k:IntKind) (hs:(P.underlying s).isSome=true) (hd:P.underlying d=some (.int k)) {k' : IntKind} {n:Int} {u:Value} (hu:RF g w (.d (.int k' n)) u) :
  ∃ val,(convert s d u).run P w = .ok val w∧RF g w (.d (.int k (k.wrap n))) val:=by
 have hu:=Qox hu;subst hu;cases hsd:P.underlying s with
 | none=>simp [hsd] at hs
 | some ds =>
  simp_all [Go.convert,Go.run_underlying,Go.Conv.intToInt,RF_d,RD]
theorem Q4z:∀ {l:List (List D)} {ns:List Int},Q7c l=some ns→l=ns.map fun n=>[.int .u8 n]
 | [],ns,h=>by simp [Q7c] at h;subst h;rfl
 | x::l,ns,h=>by
  unfold Q7c at h;split at h<;>try (cases h;done)
  ·rename_i e;cases e
  ·rename_i e;cases e;simp only [Option.map_eq_some_iff] at h;obtain ⟨ms,h1,rfl⟩:=h;rw [Q4z h1];rfl
theorem Qbhw (s d e:TypeId) (hs:P.underlying s=some (.slice e)) (he:P.underlying e=some (.int .u8)) (hd:P.underlying d=some .string) {sz:Nat} {l:List (List D)} {ns:List Int} (hn:Q7c l=some ns) {u:Value} (hu:RF g w (.d (.lst sz l)) u) :
  ∃ val,(convert s d u).run P w = .ok val w∧RF g w (.d (.str (strB ns))) val:=by
 have hl:=Q4z hn;have hu:=RF_d.1 hu;simp only [RD] at hu;obtain ⟨a,cap,rfl,hcap,hr⟩:=hu;refine ⟨.string (strB ns),?_,RF_d.2 (by simp only [RD])⟩;rw [run_convert_bytes_string w s d e _ _ _ hs he hd];rcases hr with h0|⟨b,o,rfl,hr⟩
 ·have:ns=[]:=by rw [hl] at h0;simpa using h0
  subst this;subst h0;cases a with
  | none=>simp [Conv.bytesToString,strB]
  | some a=>exact run_bytesToString w a 0 cap [] (by simpa using run_loadCells_list (P:=P) w a [] (by simp))
 ·have hz:l=[]∨sz=1:=by
   cases ns with
   | nil=>left;simpa using hl
   | cons n ns =>
    right;subst hl;have:=(Qxz hr 0 [.int .u8 n] (by simp)).1;simpa using this.symm
  rcases hz with h0|rfl
  ·have:ns=[]:=by rw [hl] at h0;simpa using h0
   subst this;subst h0;exact run_bytesToString w _ 0 cap [] (by simpa using run_loadCells_list (P:=P) w ⟨b,o,none⟩ [] (by simp))
  ·have hc:=run_loadCells_list (P:=P) w ⟨b,o,none⟩ (ns.map (Value.int .u8)) (fun j v hj=>by
    simp only [List.getElem?_map,Option.map_eq_some_iff] at hj;obtain ⟨n,hj,rfl⟩:=hj;have h1:=(Qxz hr j [.int .u8 n] (by rw [hl];simp [hj])).2;obtain ⟨_,u,hu1,hu2⟩:=Qta h1 0 (.int .u8 n) rfl;simp only [RD] at hu2;subst hu2;rw [Qgz];simpa using hu1)
   have hlen:l.length=(ns.map (Value.int .u8)).length:=by rw [hl];simp
   rw [hlen];exact run_bytesToString w _ _ cap ns hc
theorem Qbc1 {x v:V} {u:Value} {n0 κ:Nat} {M M' : Mem} (hx:RF g w x u) (hs:Qh n0 κ .nilchk [x] M=some (v,M')) (o:Oper) (a:Act) (y:Operand) (ho:o.op = .nilCheck y) (hy:a.eval y=u) :
  M'=M∧∃ val,(execOp a.eval o).run P w = .ok (.value val) w∧RF g w v val:=by
 cases x<;>simp only [Qh] at hs<;>cases hs
 ·rw [Qqk] at hx;subst hx;exact ⟨rfl,_,by simp [execOp,ho,hy],Qqk.2 rfl⟩
 ·have hx':=Qs8.1 hx;obtain ⟨b,o',rfl,_⟩:=hx';exact ⟨rfl,_,by simp [execOp,ho,hy],hx⟩
 ·have hx':=hx .free;simp only [RV] at hx';obtain ⟨vs,rfl,_⟩:=hx';exact ⟨rfl,_,by simp [execOp,ho,hy],hx⟩
theorem Qbjd (s:TypeId) (fs:Array Field) (hs' : P.underlying s=some (.struct fs)) (f:Nat) (fd:Field) (hf:fs[f]? = some fd) (h0:P.cellsOf fd.type≠0)
  {x v:V} {u:Value} {n0 κ:Nat} {M M' : Mem} (hx:RF g w x u) (hs:Qh n0 κ (.fld fd.offset) [x] M=some (v,M')) :
  M'=M∧∃ val,(Instr.fieldAt s u f).run P w = .ok val w∧RF g w v val:=by
 have hsz:∀ w,(sizeOf fd.type).run P w = .ok (P.cellsOf fd.type) w:=by
  intro w;cases hi:P.info? fd.type with
  | none=>simp [Program.cellsOf,hi] at h0
  | some i=>rw [Qgw P hi,Qe2 P hi]
 cases x<;>simp only [Qh] at hs<;>cases hs
 ·rw [Qqk] at hx;subst hx;refine ⟨rfl,_,?_,Qqk.2 rfl⟩;simp [Instr.fieldAt,run_underlying hs',hf,Instr.sureAddr,fieldPlace,hsz,h0,Qgz]
 ·obtain ⟨b,o',rfl,hr⟩:=Qs8.1 hx;refine ⟨rfl,.pointer (some ⟨b,o'+fd.offset,none⟩),?_,Qs8.2 ⟨_,_,rfl,Qxn fun j y hj=>?_⟩⟩
  ·simp [Instr.fieldAt,run_underlying hs',hf,Instr.sureAddr,fieldPlace,hsz,h0,Qgz]
  grind [Qta]
theorem Qbje (t e:TypeId) (ht:P.underlying t=some (.slice e)) (h0:P.cellsOf e≠0)
  {x i v:V} {u ui:Value} {n0 κ:Nat} {M M' : Mem} (hx:RF g w x u) (hi:RF g w i ui) (hs:Qh n0 κ (.idx (P.cellsOf e)) [x,i] M=some (v,M')) :
  M'=M∧∃ val,(Instr.indexAt t u ui).run P w = .ok val w∧RF g w v val:=by
 have hsz:∀ w,(sizeOf e).run P w = .ok (P.cellsOf e) w:=by
  intro w;cases hi:P.info? e with
  | none=>simp [Program.cellsOf,hi] at h0
  | some i=>rw [Qgw P hi,Qe2 P hi]
 have lst:∀ (l:List (List D)) (k:IntKind) (n:Int),RD g.imm w (.lst (P.cellsOf e) l) u→ui = .int k n→0≤n→∀ c,l[n.toNat]? = some c →
   ∃ val,(Instr.indexAt t u ui).run P w = .ok val w∧RF g w (.cref c) val:=by
  intro l k n hl hui hn c hc;simp only [RD] at hl;obtain ⟨a,cap,rfl,_,hl⟩:=hl;subst hui;have hlt:n.toNat<l.length:=(List.getElem?_eq_some_iff.1 hc).1;rcases hl with rfl|⟨b,o,rfl,hl⟩
  ·simp at hlt
  ·refine ⟨.pointer (some ⟨b,o+n.toNat*P.cellsOf e,none⟩),?_,Qs8.2 ⟨_,_,rfl,(Qxz hl _ _ hc).2⟩⟩;simp only [Instr.indexAt,asIntOf,Sem.run_bind,Sem.run_pure,Result.andThen_ok,run_underlying ht]
   simp_all [if_pos,Qgz]
 cases i<;>try (simp [Qh] at hs;done)
 rename_i di;cases di<;>try (simp [Qh] at hs;done)
 rename_i k n;have hui:=Qox hi;cases x<;>simp only [Qh] at hs<;>try (cases hs;done)
 case d dx =>
  cases dx<;>simp only at hs<;>try (cases hs;done)
  split at hs
  case isFalse=>cases hs
  case isTrue h =>
   simp only [Bool.and_eq_true,decide_eq_true_eq] at h;simp only [Option.map_eq_some_iff,Prod.mk.injEq] at hs;obtain ⟨c,hc,rfl,rfl⟩:=hs;rw [RF_d,h.1] at hx
   grind
 case own =>
  split at hs
  case isFalse=>cases hs
  case isTrue h =>
   simp only [Bool.and_eq_true,decide_eq_true_eq] at h;simp only [Option.map_eq_some_iff,Prod.mk.injEq] at hs;obtain ⟨c,hc,rfl,rfl⟩:=hs;rename_i sz' l;obtain ⟨rfl,hn⟩:=h;exact ⟨rfl,lst _ k n (Qj0 (hx .free)) hui hn c hc⟩
 case sl =>
  split at hs
  case isFalse=>cases hs
  case isTrue h =>
   simp only [Bool.and_eq_true,decide_eq_true_eq] at h;cases hs;rw [Q4l] at hx;subst hx hui;refine ⟨rfl,_,?_,Qqk.2 rfl⟩;simp only [Instr.indexAt,asIntOf,Sem.run_bind,Sem.run_pure,Result.andThen_ok,run_underlying ht]
   simp_all [if_pos,Qgz]
theorem Qbc2 (t e:TypeId) (len:Nat) (ht:P.underlying t=some (.array len e)) (h0:P.cellsOf e≠0)
  {x i v:V} {u ui:Value} {n0 κ:Nat} {M M' : Mem} (hx:RF g w x u) (hi:RF g w i ui) (hs:Qh n0 κ (.idxarr (P.cellsOf e) len) [x,i] M=some (v,M')) :
  M'=M∧∃ val,(Instr.indexAt t u ui).run P w = .ok val w∧RF g w v val:=by
 have hsz:∀ w,(sizeOf e).run P w = .ok (P.cellsOf e) w:=by
  intro w;cases hi:P.info? e with
  | none=>simp [Program.cellsOf,hi] at h0
  | some i=>rw [Qgw P hi,Qe2 P hi]
 cases i<;>try (simp [Qh] at hs;done)
 rename_i di;cases di<;>try (simp [Qh] at hs;done)
 rename_i k n;have hui:=Qox hi;simp only [Qh] at hs;split at hs
 case isFalse=>cases hs
 case isTrue h =>
  simp only [Bool.and_eq_true,decide_eq_true_eq] at h;cases x<;>simp only at hs<;>cases hs
  ·rw [Qqk] at hx;subst hx hui;refine ⟨rfl,_,?_,Qqk.2 rfl⟩;simp only [Instr.indexAt,asIntOf,Sem.run_bind,Sem.run_pure,Result.andThen_ok,run_underlying ht,Instr.sureAddr];rw [if_pos h];simp [hsz,Qgz]
  ·obtain ⟨b,o',rfl,hr⟩:=Qs8.1 hx;subst hui;refine ⟨rfl,.pointer (some ⟨b,o'+n.toNat*P.cellsOf e,none⟩),?_,Qs8.2 ⟨_,_,rfl,Qxn fun j y hj=>?_⟩⟩
   ·simp only [Instr.indexAt,asIntOf,Sem.run_bind,Sem.run_pure,Result.andThen_ok,run_underlying ht,Instr.sureAddr];rw [if_pos h];simp [hsz,Qgz]
   grind [Qta]
theorem Qbjf (t ty e:TypeId) (ht:P.underlying t=some (.slice e))
  {M:Mem} {nb:Nat} (hM:MR g w M nb) {x v:V} {u:Value} {n0 κ:Nat} {M' : Mem} (hx:RF g w x u) (hs:Qh n0 κ .len [x] M=some (v,M')) :
  M'=M∧∃ val,(Builtin.len_ #[t] ty #[u]).run P w = .ok val w∧RF g w v val:=by
 have key:∀ (a:Option Addr) (n c:Nat),u = .slice a n c→∃ val,(Builtin.len_ #[t] ty #[u]).run P w = .ok val w∧RF g w (.d (.int .i64 n)) val:=by
  rintro a n c rfl;exact ⟨_,run_len_slice (P:=P) w t ty a n c (Qbcz P ht),by rw [RF_d];simp [RD,goInt]⟩
 have lst:∀ sz l,RD g.imm w (.lst sz l) u→∃ val,(Builtin.len_ #[t] ty #[u]).run P w = .ok val w∧RF g w (.d (.int .i64 l.length)) val:=by
  grind [RD]
 cases x<;>simp only [Qh] at hs<;>try (cases hs;done)
 case d dx =>
  cases dx<;>simp only at hs<;>cases hs;exact ⟨rfl,lst _ _ (RF_d.1 hx)⟩
 case own=>cases hs;exact ⟨rfl,lst _ _ (Qj0 (hx .free))⟩
 case nils=>cases hs;have h:=hx .free;simp only [RV] at h;grind
 case sl=>cases hs;exact ⟨rfl,key _ _ _ (Q4l.1 hx)⟩
theorem Qbhx (t ty:TypeId) (ht:P.underlying t=some .string)
  {M:Mem} {x v:V} {u:Value} {n0 κ:Nat} {M' : Mem} (hx:RF g w x u) (hs:Qh n0 κ .lens [x] M=some (v,M')) :
  M'=M∧∃ val,(Builtin.len_ #[t] ty #[u]).run P w = .ok val w∧RF g w v val:=by
 cases x<;>try (simp [Qh] at hs;done)
 rename_i dx;cases dx<;>try (simp [Qh] at hs;done)
 simp only [Qh] at hs;cases hs;have:=Qbb2 hx;subst this;exact ⟨rfl,_,run_len_string (P:=P) w t ty _ ht,by rw [RF_d];simp [RD,goInt]⟩
theorem Qbhy (t:TypeId) (ht:P.underlying t=some .string)
  {M:Mem} {x i v:V} {u ui:Value} {n0 κ:Nat} {M' : Mem} (hx:RF g w x u) (hi:RF g w i ui) (hs:Qh n0 κ .idxs [x,i] M=some (v,M')) :
  M'=M∧∃ val,(Instr.index t u ui).run P w = .ok val w∧RF g w v val:=by
 cases x<;>try (simp [Qh] at hs;done)
 rename_i dx;cases dx<;>try (simp [Qh] at hs;done)
 cases i<;>try (simp [Qh] at hs;done)
 rename_i dy;cases dy<;>try (simp [Qh] at hs;done)
 simp only [Qh] at hs;split at hs<;>cases hs;rename_i hi';rw [Qbb2 hx,Qox hi];refine ⟨rfl,_,?_,RF_d.2 (by simp only [RD];rfl)⟩;rw [run_index_string (P:=P) w t _ _ _ ht,dif_pos hi']
theorem Qbhz (ts:Array TypeId) (ty:TypeId) {x y v:V} {u z:Value} {n0 κ:Nat} {M M' : Mem} (hx:RF g w x u) (hy:RF g w y z) (hs:Qh n0 κ .max2 [x,y] M=some (v,M')) :
  M'=M∧∃ val,(Builtin.max_ ts ty #[u,z]).run P w = .ok val w∧RF g w v val:=by
 cases x<;>try (simp [Qh] at hs;done)
 rename_i dx;cases dx<;>try (simp [Qh] at hs;done)
 cases y<;>try (simp [Qh] at hs;done)
 rename_i dy;cases dy<;>try (simp [Qh] at hs;done)
 simp only [Qh] at hs;split at hs<;>cases hs;rw [Qox hx,Qox hy];exact ⟨rfl,_,run_max_int2 (P:=P) w ts ty _ _ _ _,by rw [RF_d];simp [RD]⟩
theorem Qbh0 (ts:Array TypeId) (ty:TypeId) {x y v:V} {u z:Value} {n0 κ:Nat} {M M' : Mem} (hx:RF g w x u) (hy:RF g w y z) (hs:Qh n0 κ .min2 [x,y] M=some (v,M')) :
  M'=M∧∃ val,(Builtin.min_ ts ty #[u,z]).run P w = .ok val w∧RF g w v val:=by
 cases x<;>try (simp [Qh] at hs;done)
 rename_i dx;cases dx<;>try (simp [Qh] at hs;done)
 cases y<;>try (simp [Qh] at hs;done)
 rename_i dy;cases dy<;>try (simp [Qh] at hs;done)
 simp only [Qh] at hs;split at hs<;>cases hs;rw [Qox hx,Qox hy];exact ⟨rfl,_,run_min_int2 (P:=P) w ts ty _ _ _ _,by rw [RF_d];simp [RD]⟩
theorem Qbh1 {c x y v:V} {uc ux uy:Value} {n0 κ:Nat} {M M' : Mem} (hc:RF g w c uc) (hx:RF g w x ux) (hy:RF g w y uy) (hs:Qh n0 κ .pick [c,x,y] M=some (v,M')) :
  M'=M∧∃ val,((do pure (Next.value (if ← asBool uc then ux else uy)):Sem Next)).run P w = .ok (.value val) w∧RF g w v val:=by
 cases c<;>try (simp [Qh] at hs;done)
 rename_i dx;cases dx<;>try (simp [Qh] at hs;done)
 simp only [Qh] at hs;rename_i b;cases hs;rw [Q2t hc];cases b
 ·exact ⟨rfl,uy,by simp [asBool],by simpa using hy⟩
 ·exact ⟨rfl,ux,by simp [asBool],by simpa using hx⟩
end
end Go.Abs
end
section
namespace Go.Abs
open Go
section
variable (P:Program) {g:G} {w:World}
def Qm7 (lo hi:Bool) (bs:List V):Option (Option Int×Option Int) :=
 match lo,hi,bs with
 | false,false,[]=>some ((none:Option Int),(none:Option Int))
 | true,false,[.d (.int _ a)]=>some (some a,none)
 | false,true,[.d (.int _ b)]=>some (none,some b)
 | true,true,[.d (.int _ a),.d (.int _ b)]=>some (some a,some b)
 | _,_,_=>none
theorem Qwt (t e:TypeId) (ht:P.underlying t=some (.slice e)) (h0:P.cellsOf e≠0) (lo hi:Option Value) {bs:List V} {la hb:Option Int}
  (hb' : RFs g w bs (lo.toList++hi.toList)) (hs:Qm7 lo.isSome hi.isSome bs=some (la,hb)) (a:Option Addr) (len cap:Nat)
  (h1:0≤la.getD 0) (h2:la.getD 0≤hb.getD len) (h3:hb.getD len≤len) (h4:len≤cap) :
  (Instr.sliceAt t (.slice a len cap) lo hi none).run P w = .ok (sliced a (la.getD 0).toNat (hb.getD len).toNat cap (P.cellsOf e)) w:=by
 have hsz:∀ w,(sizeOf (P.elem t)).run P w = .ok (P.cellsOf e) w:=by
  intro w;have:P.elem t=e:=by simp [Program.elem,ht]
  rw [this];cases hi:P.info? e with
  | none=>simp [Program.cellsOf,hi] at h0
  | some i=>rw [Qgw P hi,Qe2 P hi]
 have ht':=Qbcz P ht;rw [run_sliceAt_slice (P:=P) w t _ _ _ _ ht'];cases lo with
 | none =>
  cases hi with
  | none =>
   simp only [Option.toList,List.append_nil,Option.isSome] at hb' hs;cases bs with
   | cons b bs=>simp [RFs] at hb'
   | nil =>
    simp only [Qm7,Option.some.injEq,Prod.mk.injEq] at hs;obtain ⟨rfl,rfl⟩:=hs
    simp_all [Go.run_slice_all]
  | some hv =>
   simp only [Option.toList,List.nil_append,Option.isSome] at hb' hs
   match bs,hb',hs with
   | [.d (.int k n)],hb',hs =>
    simp only [Qm7,Option.some.injEq,Prod.mk.injEq] at hs;obtain ⟨rfl,rfl⟩:=hs;obtain ⟨u,us,hu,hr,_⟩:=hb';simp at hu;obtain ⟨rfl,rfl⟩:=hu;rw [Qox hr,run_slice_h (P:=P) w t a len cap ht' k n (by simp at h2;omega) (by simp at h3;omega),hsz];simp
 | some lv =>
  cases hi with
  | none =>
   simp only [Option.toList,List.append_nil,Option.isSome] at hb' hs
   match bs,hb',hs with
   | [.d (.int k n)],hb',hs =>
    simp only [Qm7,Option.some.injEq,Prod.mk.injEq] at hs;obtain ⟨rfl,rfl⟩:=hs;obtain ⟨u,us,hu,hr,_⟩:=hb';simp at hu;obtain ⟨rfl,rfl⟩:=hu;rw [Qox hr,run_slice_l (P:=P) w t a len cap ht' k n (by simpa using h1) (by simpa using h2),hsz];simp
  | some hv =>
   simp only [Option.toList,Option.isSome,List.cons_append,List.nil_append] at hb' hs
   match bs,hb',hs with
   | [.d (.int k n),.d (.int k' m)],hb',hs =>
    simp only [Qm7,Option.some.injEq,Prod.mk.injEq] at hs;obtain ⟨rfl,rfl⟩:=hs;obtain ⟨u,us,hu,hr,hb'⟩:=hb';simp at hu;obtain ⟨rfl,rfl⟩:=hu;obtain ⟨u,us,hu,hr',_⟩:=hb';simp at hu;obtain ⟨rfl,rfl⟩:=hu;rw [Qox hr,Qox hr',run_slice_lh (P:=P) w t a len cap ht' k k' n m (by simpa using h1) (by simpa using h2) (by simp at h3;omega),hsz];simp
theorem Qx0 (n0 κ sz:Nat) (lo hi:Bool) (x:V) (bs:List V) (M:Mem):Qh n0 κ (.slice sz lo hi) (x::bs) M =
  match Qm7 lo hi bs with
  | some (a,b) =>
   match x with
   | .d (.lst sz' l) | .own sz' l =>
    let h:=b.getD l.length;let a:=a.getD 0
    if sz'=sz&&decide (0≤a)&&decide (a≤h)&&decide (h≤l.length) then some (.d (.lst sz ((l.take h.toNat).drop a.toNat)),M) else none
   | .sl sz' k off len cap =>
    let h:=b.getD len;let a:=a.getD 0
    if sz'=sz&&decide (0≤a)&&decide (a≤h)&&decide (h≤len)&&decide (len≤cap) then some ((if cap=a.toNat then .sl sz k off 0 0 else .sl sz k (off+a.toNat*sz) (h.toNat-a.toNat) (cap-a.toNat)),M) else none
   | .nils sz'=>if sz'=sz&&decide (0≤a.getD 0)&&decide (a.getD 0≤b.getD 0)&&decide (b.getD 0≤0) then some (.nils sz,M) else none
   | _=>none
  | none=>none:=rfl
theorem Qbah (t e:TypeId) (ht:P.underlying t=some (.slice e)) (h0:P.cellsOf e≠0) (lo hi:Option Value) {x:V} {bs:List V} {v:V} {u:Value} {n0 κ:Nat} {M M' : Mem}
  (hx:RF g w x u) (hb:RFs g w bs (lo.toList++hi.toList)) (hs:Qh n0 κ (.slice (P.cellsOf e) lo.isSome hi.isSome) (x::bs) M=some (v,M')) :
  M'=M∧∃ val,(Instr.sliceAt t u lo hi none).run P w = .ok val w∧RF g w v val:=by
 rw [Qx0] at hs;cases ha:Qm7 lo.isSome hi.isSome bs with
 | none=>simp [ha] at hs
 | some ab =>
  obtain ⟨la,hbd⟩:=ab;simp only [ha] at hs;have lst:∀ sz' l,RD g.imm w (.lst sz' l) u→sz'=P.cellsOf e→0≤la.getD 0→la.getD 0≤hbd.getD l.length→hbd.getD l.length≤l.length →
    ∃ val,(Instr.sliceAt t u lo hi none).run P w = .ok val w∧RF g w (.d (.lst (P.cellsOf e) ((l.take (hbd.getD l.length).toNat).drop (la.getD 0).toNat))) val:=by
   intro sz' l hl hsz' h1 h2 h3;subst hsz';simp only [RD] at hl;obtain ⟨a,cap,rfl,hcap,hl⟩:=hl;refine ⟨_,Qwt P t e ht h0 lo hi hb ha a l.length cap h1 h2 h3 hcap,?_⟩;rw [RF_d];simp only [RD,sliced,List.length_drop,List.length_take];have e1:min (hbd.getD l.length).toNat l.length=(hbd.getD l.length).toNat:=by omega
   rw [e1];refine ⟨_,_,rfl,by omega,?_⟩;rcases hl with rfl|⟨b,o,rfl,hl⟩
   ·left;simp
   ·by_cases hm:cap=(la.getD 0).toNat
    ·grind
    ·right;refine ⟨b,o+(la.getD 0).toNat*P.cellsOf e,by rw [if_neg hm];simp [Qgz],Q1g fun i x hi=>?_⟩;have hi' : l[(la.getD 0).toNat+i]? = some x:=by
      grind
     have:=Qxz hl _ _ hi'
     grind
  cases x<;>(try simp only at hs)<;>try (cases hs;done)
  case d dx =>
   cases dx<;>(try simp only at hs)<;>try (cases hs;done)
   split at hs
   case isFalse=>cases hs
   case isTrue h =>
    simp only [Bool.and_eq_true,decide_eq_true_eq] at h;cases hs;exact ⟨rfl,lst _ _ (RF_d.1 hx) h.1.1.1 h.1.1.2 h.1.2 h.2⟩
  case own =>
   split at hs
   case isFalse=>cases hs
   case isTrue h =>
    simp only [Bool.and_eq_true,decide_eq_true_eq] at h;cases hs;exact ⟨rfl,lst _ _ (Qj0 (hx .free)) h.1.1.1 h.1.1.2 h.1.2 h.2⟩
  case nils sz' =>
   split at hs
   case isFalse=>cases hs
   case isTrue h =>
    simp only [Bool.and_eq_true,decide_eq_true_eq] at h;cases hs;obtain ⟨ad,rfl⟩ : ∃ ad,u = .slice ad 0 0:=by simpa [RV] using hx .free
    refine ⟨rfl,_,Qwt P t e ht h0 lo hi hb ha ad 0 0 h.1.1.2 h.1.2 h.2 (Nat.le_refl _),fun ℓ=>?_⟩
    grind [RV,Go.sliced]
  case sl sz' k off len cap =>
   split at hs
   case isFalse=>cases hs
   case isTrue h =>
    simp only [Bool.and_eq_true,decide_eq_true_eq] at h;cases hs;rw [Q4l] at hx;subst hx;refine ⟨rfl,_,Qwt P t e ht h0 lo hi hb ha _ len cap h.1.1.1.2 h.1.1.2 h.1.2 h.2,?_⟩;have hlc:=h.2;by_cases hm:cap=(la.getD 0).toNat
    ·rw [if_pos hm,Q4l];simp only [sliced]
     grind
    simp_all [if_neg,Q4l,Go.sliced,Qgz]
theorem Qbh2 (f:FuncId) {caps:List V} {us:List Value} {v:V} {n0 κ:Nat} {M M' : Mem} (hx:RFs g w caps us) (hs:Qh n0 κ (.func f) caps M=some (v,M')) :
  M'=M∧RF g w v (.func (.func f) #[] us.toArray):=by
 have:Qh n0 κ (.func f) caps M=some (.clo f caps,M):=by cases caps<;>rfl
 rw [this] at hs;cases hs;refine ⟨rfl,fun ℓ=>?_⟩;simp only [RV];exact ⟨us,rfl,(Qcr _ _ _ _).2 ⟨Qif hx,fun j c u hc hu=>Qs9 hx j c u hc hu _⟩⟩
theorem Qbai (t:TypeId) {d:TypeDesc} (hd:P.underlying t=some d) {cs:List V} {vs:List Value} (hlen:vs.length=cs.length) (hr:∀ (j:Nat) (c:V) (u:Value),cs[j]? = some c→vs[j]? = some u→RF g w c u) (h1:∀ u∈vs,u.oneCell'=true)
  (off:Nat) {v:V} (hv:(if Qhl P t then some (.agg ((cs.drop off).take (P.cellsOf t))) else cs[off]?)=some v) :
  ∃ val,(part t vs.toArray off).run P w = .ok val w∧RF g w v val:=by
 obtain ⟨i,hi⟩:=Qip P hd;cases hA:Qhl P t with
 | true =>
  simp only [hA,if_true,Option.some.injEq] at hv;subst hv;refine ⟨.agg ((vs.drop off).take (P.cellsOf t)).toArray,?_,fun ℓ=>?_⟩
  ·simp_all [Go.part,Go.Sem.run_bind,Qrx,Go.Result.andThen_ok,if_true,Qgw,Go.Sem.run_pure,Qe2,Array.ext',List.extract,Nat.add_sub_cancel_left]
  ·simp only [RV];refine ⟨_,rfl,(Qcr _ _ _ _).2 ⟨by simp [hlen],fun j c u hc hu=>?_⟩,fun u hu=>h1 u (List.mem_of_mem_drop (List.mem_of_mem_take hu))⟩;simp only [List.getElem?_take,List.getElem?_drop] at hc hu;split at hc<;>simp_all;exact hr _ _ _ hc hu _
 | false =>
  simp only [hA,Bool.false_eq_true,if_false] at hv;have hlt:=(List.getElem?_eq_some_iff.1 hv).1;refine ⟨vs[off]'(by omega),?_,hr off v _ hv (List.getElem?_eq_getElem _)⟩
  simp_all [Go.part,Qrx,List.getElem?_eq_getElem]
theorem Q1h {cs:List V} {u:Value} (hf:Flat (.agg cs)) (h:RF g w (.agg cs) u) :
  ∃ vs:List Value,u = .agg vs.toArray∧vs.length=cs.length∧(∀ (j:Nat) (c:V) (x:Value),cs[j]? = some c→vs[j]? = some x→RF g w c x)∧∀ x∈vs,x.oneCell'=true:=by
 have h':=h .free;simp only [RV] at h';obtain ⟨vs,rfl,hr,h1⟩:=h';obtain ⟨hl,hr⟩:=(Qcr _ _ _ _).1 hr;refine ⟨vs,rfl,hl,fun j c x hc hx ℓ=>?_,h1⟩;have hcd:c.dem=c:=by
  have hf' : V.dems cs=cs:=by simpa [Flat,V.dem] using hf
  have hc' : (V.dems cs)[j]? = some c:=by rw [hf'];exact hc
  obtain ⟨c',hc'',rfl⟩:=Q16 hc';exact Qdu c'
 exact Qle hcd (hr j c x hc hx)
theorem Qbfz (t:TypeId) (fs:Array Field) (ht:P.underlying t=some (.struct fs)) (f:Nat) (fd:Field) (hf:fs[f]? = some fd) {d:TypeDesc} (hd:P.underlying fd.type=some d)
  {x v:V} {u:Value} {n0 κ:Nat} {M M' : Mem} (hfl:Flat x) (hx:RF g w x u) (hs:Qh n0 κ (.field (Qhl P fd.type) fd.offset (P.cellsOf fd.type)) [x] M=some (v,M')) :
  M'=M∧∃ val,(Instr.field t u f).run P w = .ok val w∧RF g w v val:=by
 cases x<;>try (simp [Qh] at hs;done)
 rename_i cs;obtain ⟨vs,rfl,hl,hr,h1⟩:=Q1h hfl hx;simp only [Qh] at hs;split at hs
 case isFalse=>cases hs
 case isTrue hle =>
  have hv:(if Qhl P fd.type then some (.agg ((cs.drop fd.offset).take (P.cellsOf fd.type))) else cs[fd.offset]?)=some v∧M'=M:=by
   grind
  obtain ⟨val,hrun,hrf⟩:=Qbai P fd.type hd hl hr h1 fd.offset hv.1
  simp_all [Go.Instr.field,Go.run_underlying,Go.asAgg]
theorem Qbc3 (t e:TypeId) (n:Nat) (ht:P.underlying t=some (.array n e)) {d:TypeDesc} (hd:P.underlying e=some d)
  {x i v:V} {u ui:Value} {n0 κ:Nat} {M M' : Mem} (hfl:Flat x) (hx:RF g w x u) (hi:RF g w i ui) (hs:Qh n0 κ (.idxval (Qhl P e) (P.cellsOf e) n) [x,i] M=some (v,M')) :
  M'=M∧∃ val,(Instr.index t u ui).run P w = .ok val w∧RF g w v val:=by
 cases x<;>try (simp [Qh] at hs;done)
 cases i<;>try (simp [Qh] at hs;done)
 rename_i cs di;cases di<;>try (simp [Qh] at hs;done)
 rename_i k m;obtain ⟨vs,rfl,hl,hr,h1⟩:=Q1h hfl hx;obtain ⟨it,hit⟩:=Qip P hd;have:=Qox hi;subst this;simp only [Qh] at hs;split at hs
 case isFalse=>cases hs
 case isTrue hle =>
  simp only [Bool.and_eq_true,decide_eq_true_eq] at hle;have hv:(if Qhl P e then some (.agg ((cs.drop (m.toNat*P.cellsOf e)).take (P.cellsOf e))) else cs[m.toNat*P.cellsOf e]?)=some v∧M'=M:=by
   grind
  obtain ⟨val,hrun,hrf⟩:=Qbai P e hd hl hr h1 _ hv.1
  simp_all [Go.Instr.index,Go.asIntOf,Go.Sem.run_bind,Go.Sem.run_pure,Go.Result.andThen_ok,Go.run_underlying,if_pos,Qgw,Qe2]
theorem Q6c {x:V} {u:Value} (hf:Flat x) (hx:RF g w x u) (hk:Qd5 x=true) :
  u.cells.toList.length=x.cells.length∧(∀ (j:Nat) (c:V) (y:Value),x.cells[j]? = some c→u.cells.toList[j]? = some y→RF g w c y)∧∀ y∈u.cells.toList,y.oneCell'=true:=by
 have one:u.cells = #[u]→x.cells=[x]→u.oneCell'=true→u.cells.toList.length=x.cells.length∧(∀ (j:Nat) (c:V) (y:Value),x.cells[j]? = some c→u.cells.toList[j]? = some y→RF g w c y)∧∀ y∈u.cells.toList,y.oneCell'=true:=by
  grind
 cases x<;>simp [Qd5] at hk
 case agg cs =>
  obtain ⟨vs,rfl,hl,hr,h1⟩:=Q1h hf hx
  grind [Go.Value.cells,V.cells]
 case d dx =>
  have:=RF_d.1 hx;cases dx<;>simp only [RD] at this
  ·subst this;exact one rfl rfl rfl
  ·subst this;exact one rfl rfl rfl
  ·subst this;exact one rfl rfl rfl
  ·obtain ⟨a,cap,rfl,_⟩:=this;exact one rfl rfl rfl
  ·obtain ⟨b,rfl,_⟩:=this;exact one rfl rfl rfl
 case own=>simp [Flat,V.dem] at hf
 case ownT=>simp [Flat,V.dem] at hf
 case ptr=>have:=Qqk.1 hx;subst this;exact one rfl rfl rfl
 case nilp=>have:=hx .free;simp only [RV] at this;subst this;exact one rfl rfl rfl
 case f dx =>
  have:=hx .free;simp only [RV] at this;cases dx<;>simp only [RD] at this
  ·subst this;exact one rfl rfl rfl
  ·subst this;exact one rfl rfl rfl
  ·subst this;exact one rfl rfl rfl
  ·obtain ⟨a,cap,rfl,_⟩:=this;exact one rfl rfl rfl
  ·obtain ⟨b,rfl,_⟩:=this;exact one rfl rfl rfl
 case nils sz=>have:=hx .free;simp only [RV] at this;obtain ⟨ad,rfl⟩:=this;exact one rfl rfl rfl
 case cref=>obtain ⟨b,o,rfl,_⟩:=Qs8.1 hx;exact one rfl rfl rfl
 case sl=>have:=Q4l.1 hx;subst this;exact one rfl rfl rfl
 case clo=>have:=hx .free;simp only [RV] at this;obtain ⟨vs,rfl,_⟩:=this;exact one rfl rfl rfl
 case mp=>have:=hx .free;simp only [RV] at this;subst this;exact one rfl rfl rfl
theorem Q1i (d:Nat) (X Y:Array Value):∀ (fs:List Field) (i:Nat) (ks:List Nat) (xs ys:List V) (b:Bool),Qhm P i fs=some ks→Qd1 ks xs ys=some b →
  (∀ (j:Nat) (c:V) (u:Value),xs[j]? = some c→X[i+j]? = some u→RF g w c u)→(∀ (j:Nat) (c:V) (u:Value),ys[j]? = some c→Y[i+j]? = some u→RF g w c u) →
  i+xs.length≤X.size→i+ys.length≤Y.size→(Op.eqFields (d+1) X Y fs).run P w = .ok b w
 | [],i,ks,xs,ys,b,hk,he,_,_,_,_=>by
  simp only [Qhm,Option.some.injEq] at hk;subst hk
  match xs,ys,he with
  | [],[],he=>simp_all [Qd1,Option.some.injEq,Go.Op.eqFields]
 | f::fs,i,ks,xs,ys,b,hk,he,hx,hy,hX,hY=>by
  simp only [Qhm] at hk;split at hk<;>try (cases hk;done)
  rename_i hf;split at hk<;>try (cases hk;done)
  rename_i k ks' hk1 hk2;simp only [Option.some.injEq] at hk;subst hk;have hpart:∀ (Z:Array Value) (u:Value),Qhl P f.type=false→(∃ t,P.underlying f.type=some t)→Z[f.offset]? = some u→(part f.type Z f.offset).run P w = .ok u w:=by
   simp_all [Go.part,Qrx]
  have rest:∀ (x y:V) (xs' ys' : List V) (u v:Value) (r:Bool) (b' : Bool),xs=x::xs'→ys=y::ys'→X[i]? = some u→Y[i]? = some v→Qhl P f.type=false→(∃ t,P.underlying f.type=some t) →
    (Op.equalIn (d+1) f.type u v).run P w = .ok r w→Qd1 ks' xs' ys'=some b'→(Op.eqFields (d+1) X Y (f::fs)).run P w = .ok (r&&b') w:=by
   rintro x y xs' ys' u v r b' rfl rfl hu hv hA ht hr he';have ih:=Q1i d X Y fs (i+1) ks' xs' ys' b' hk2 he' (fun j c z hc hz=>hx (j+1) c z (by simpa using hc) (by grind))
    (fun j c z hc hz=>hy (j+1) c z (by simpa using hc) (by grind)) (by simp at hX;omega) (by simp at hY;omega)
   have hu':=hpart X u hA ht (by rw [hf.1];exact hu);have hv':=hpart Y v hA ht (by rw [hf.1];exact hv);simp only [Op.eqFields,hf.2,ne_eq,not_false_eq_true,if_true,Sem.run_bind,hu',hv',Result.andThen_ok,hr];cases r
   ·simp
   ·simpa using ih
  have hXi:∀ x xs',xs=x::xs'→∃ u,X[i]? = some u∧RF g w x u:=by
   rintro x xs' rfl;have hlt:i<X.size:=by simp at hX;omega
   exact ⟨X[i],by simp [hlt],hx 0 x X[i] rfl (by simp [hlt])⟩
  have hYi:∀ y ys',ys=y::ys'→∃ u,Y[i]? = some u∧RF g w y u:=by
   rintro y ys' rfl;have hlt:i<Y.size:=by simp at hY;omega
   exact ⟨Y[i],by simp [hlt],hy 0 y Y[i] rfl (by simp [hlt])⟩
  unfold Qie at hk1;split at hk1<;>cases hk1
  ·rename_i kk ht
   match xs,ys,he with
   | .d (.int k1 a)::xs',.d (.int k2 c)::ys',he =>
    simp only [Qd1] at he;split at he<;>try (cases he;done)
    rename_i hkk;subst hkk;simp only [Option.map_eq_some_iff] at he;obtain ⟨b',he',rfl⟩:=he;obtain ⟨u,hu,ru⟩:=hXi _ _ rfl;obtain ⟨v,hv,rv⟩:=hYi _ _ rfl;refine rest _ _ _ _ u v (a==c) b' rfl rfl hu hv (by simp [Qhl,ht]) ⟨_,ht⟩ ?_ he';have hu' : u = .int k1 a:=by simpa [RD] using RF_d.1 ru
    have hv' : v = .int k1 c:=by simpa [RD] using RF_d.1 rv
    subst hu' hv';simp [Op.equalIn,run_underlying ht]
  ·rename_i ht
   match xs,ys,he with
   | .d (.bool a)::xs',.d (.bool c)::ys',he =>
    simp only [Qd1,Option.map_eq_some_iff] at he;obtain ⟨b',he',rfl⟩:=he;obtain ⟨u,hu,ru⟩:=hXi _ _ rfl;obtain ⟨v,hv,rv⟩:=hYi _ _ rfl;refine rest _ _ _ _ u v (a==c) b' rfl rfl hu hv (by simp [Qhl,ht]) ⟨_,ht⟩ ?_ he';have hu' : u = .bool a:=by simpa [RD] using RF_d.1 ru
    have hv' : v = .bool c:=by simpa [RD] using RF_d.1 rv
    subst hu' hv';simp [Op.equalIn,run_underlying ht]
  ·rename_i ht
   match xs,ys,he with
   | .d (.str a)::xs',.d (.str c)::ys',he =>
    simp only [Qd1,Option.map_eq_some_iff] at he;obtain ⟨b',he',rfl⟩:=he;obtain ⟨u,hu,ru⟩:=hXi _ _ rfl;obtain ⟨v,hv,rv⟩:=hYi _ _ rfl;refine rest _ _ _ _ u v (a==c) b' rfl rfl hu hv (by simp [Qhl,ht]) ⟨_,ht⟩ ?_ he';have hu' : u = .string a:=by simpa [RD] using RF_d.1 ru
    have hv' : v = .string c:=by simpa [RD] using RF_d.1 rv
    subst hu' hv';simp [Op.equalIn,run_underlying ht]
theorem Qm0:∀ (ks:List Nat) (xs ys:List V) (b:Bool),Qd1 ks xs ys=some b→xs.length=ys.length
 | [],[],[],_,_=>rfl
 | 0::ks,.d (.int k a)::xs,.d (.int k' c)::ys,b,h=>by
  simp only [Qd1] at h;split at h<;>try (cases h;done)
  simp only [Option.map_eq_some_iff] at h;obtain ⟨b',h,_⟩:=h;simp [Qm0 ks xs ys b' h]
 | 1::ks,.d (.bool a)::xs,.d (.bool c)::ys,b,h=>by
  simp only [Qd1,Option.map_eq_some_iff] at h;obtain ⟨b',h,_⟩:=h;simp [Qm0 ks xs ys b' h]
 | 2::ks,.d (.str a)::xs,.d (.str c)::ys,b,h=>by
  simp only [Qd1,Option.map_eq_some_iff] at h;obtain ⟨b',h,_⟩:=h;simp [Qm0 ks xs ys b' h]
theorem Qbh3 (d:Nat) {t:TypeId} {k:Nat} (hk:Qie P t=some k) {x y:V} {u v:Value} {b:Bool} (he:Qd1 [k] [x] [y]=some b) (rx:RF g w x u) (ry:RF g w y v) :
  (Op.equalIn (d+1) t u v).run P w = .ok b w:=by
 unfold Qie at hk;split at hk<;>cases hk
 ·rename_i kk ht
  match x,y,he with
  | .d (.int k1 a),.d (.int k2 c),he =>
   simp only [Qd1] at he;split at he<;>try (cases he;done)
   rename_i hkk;subst hkk;simp only [Option.map_some,Option.some.injEq,Bool.and_true] at he;subst he;have hu' : u = .int k1 a:=by simpa [RD] using RF_d.1 rx
   have hv' : v = .int k1 c:=by simpa [RD] using RF_d.1 ry
   subst hu' hv';simp [Op.equalIn,run_underlying ht]
 ·rename_i ht
  match x,y,he with
  | .d (.bool a),.d (.bool c),he =>
   simp only [Qd1,Option.map_some,Option.some.injEq,Bool.and_true] at he;subst he;have hu' : u = .bool a:=by simpa [RD] using RF_d.1 rx
   have hv' : v = .bool c:=by simpa [RD] using RF_d.1 ry
   subst hu' hv';simp [Op.equalIn,run_underlying ht]
 ·rename_i ht
  match x,y,he with
  | .d (.str a),.d (.str c),he =>
   simp only [Qd1,Option.map_some,Option.some.injEq,Bool.and_true] at he;subst he;have hu' : u = .string a:=by simpa [RD] using RF_d.1 rx
   have hv' : v = .string c:=by simpa [RD] using RF_d.1 ry
   subst hu' hv';simp [Op.equalIn,run_underlying ht]
theorem Qy3 {t:TypeId} {k:Nat} (hk:Qie P t=some k) {Z:Array Value} {o:Nat} {u:Value} (hu:Z[o]? = some u):(part t Z o).run P w = .ok u w:=by
 have:Qhl P t=false∧∃ d,P.underlying t=some d:=by
  grind [Qie,Qhl]
 obtain ⟨hA,d,hd⟩:=this;simp [part,Qrx P hd,hA,hu]
theorem Q7i {k:Nat} {ks:List Nat} {x y:V} {xs ys:List V} {b:Bool} (h:Qd1 (k::ks) (x::xs) (y::ys)=some b):∃ r b',Qd1 [k] [x] [y]=some r∧Qd1 ks xs ys=some b'∧b=(r&&b'):=by
 match k,x,y,h with
 | 0,.d (.int k1 a),.d (.int k2 c),h =>
  simp only [Qd1] at h ⊢;split at h<;>try (cases h;done)
  rename_i hk;simp only [Option.map_eq_some_iff] at h
  grind
 | 1,.d (.bool a),.d (.bool c),h =>
  simp only [Qd1,Option.map_eq_some_iff] at h ⊢
  grind
 | 2,.d (.str a),.d (.str c),h =>
  simp only [Qd1,Option.map_eq_some_iff] at h ⊢
  grind
theorem Q2u (d:Nat) (X Y:Array Value) {e:TypeId} {k:Nat} (hk:Qie P e=some k):∀ (n i:Nat) (xs ys:List V) (b:Bool),Qd1 (List.replicate n k) xs ys=some b →
  (∀ (j:Nat) (c:V) (u:Value),xs[j]? = some c→X[i+j]? = some u→RF g w c u)→(∀ (j:Nat) (c:V) (u:Value),ys[j]? = some c→Y[i+j]? = some u→RF g w c u) →
  i+xs.length≤X.size→i+ys.length≤Y.size→(Op.eqItems (d+1) e 1 X Y (List.range' i n)).run P w = .ok b w
 | 0,i,xs,ys,b,he,_,_,_,_=>by
  match xs,ys,he with
  | [],[],he=>simp_all [List.replicate_zero,Qd1,Option.some.injEq,Go.Op.eqItems]
 | n+1,i,xs,ys,b,he,hx,hy,hX,hY=>by
  rw [List.replicate_succ] at he
  match xs,ys with
  | [],_=>cases k<;>simp [Qd1] at he
  | _::_,[]=>grind [absurd,Qm0]
  | x::xs,y::ys =>
   obtain ⟨r,b',h1,h2,rfl⟩:=Q7i he;have hlX:i<X.size:=by simp at hX;omega
   have hlY:i<Y.size:=by simp at hY;omega
   have rx:=hx 0 x X[i] rfl (by simp [hlX]);have ry:=hy 0 y Y[i] rfl (by simp [hlY]);have ih:=Q2u d X Y hk n (i+1) xs ys b' h2 (fun j c z hc hz=>hx (j+1) c z (by simpa using hc) (by grind))
    (fun j c z hc hz=>hy (j+1) c z (by simpa using hc) (by grind)) (by simp at hX;omega) (by simp at hY;omega)
   have p1:=Qy3 (w:=w) P hk (Z:=X) (o:=i) (u:=X[i]) (by simp [hlX]);have p2:=Qy3 (w:=w) P hk (Z:=Y) (o:=i) (u:=Y[i]) (by simp [hlY]);have q:=Qbh3 P d hk h1 rx ry;simp only [List.range'_succ,Op.eqItems,Nat.mul_one,Sem.run_bind,p1,p2,Result.andThen_ok,q];cases r
   ·simp
   ·simpa using ih
theorem Qbaj (t:TypeId) {ks:List Nat} (hks:Qjs P t=some ks) {xs ys:List V} {vs vs' : List Value} {b:Bool} (hl:vs.length=xs.length) (hr:∀ (j:Nat) (c:V) (x:Value),xs[j]? = some c→vs[j]? = some x→RF g w c x)
  (hl' : vs'.length=ys.length) (hr' : ∀ (j:Nat) (c:V) (x:Value),ys[j]? = some c→vs'[j]? = some x→RF g w c x) (hb:Qd1 ks xs ys=some b) :
  (Op.equalIn 10000 t (.agg vs.toArray) (.agg vs'.toArray)).run P w = .ok b w∧P.eqGuardType P.depth t=false:=by
 unfold Qjs at hks;split at hks<;>try (cases hks;done)
 ·rename_i fs ht;split at hks<;>try (cases hks;done)
  rename_i hg;have hfo:P.fieldsOf t=fs:=by simp [Program.fieldsOf,ht]
  refine ⟨?_,hg.2⟩;rw [run_equalIn_struct (P:=P) w 9999 t vs.toArray vs'.toArray (by rw [hfo];exact ht) hg.1,hfo];exact Q1i P 9998 vs.toArray vs'.toArray fs.toList 0 ks xs ys b hks hb (fun j c u hc hu=>hr j c u hc (by simpa using hu)) (fun j c u hc hu=>hr' j c u hc (by simpa using hu)) (by simp [hl]) (by simp [hl'])
 ·rename_i n e ht;split at hks<;>try (cases hks;done)
  rename_i hg;simp only [Option.map_eq_some_iff] at hks;obtain ⟨k,hk,rfl⟩:=hks;obtain ⟨i,hi⟩:=Option.isSome_iff_exists.1 hg.1;refine ⟨?_,hg.2.2⟩;rw [run_equalIn_array (P:=P) w 9999 vs.toArray vs'.toArray ht hi,hg.2.1,List.range_eq_range'];exact Q2u P 9998 vs.toArray vs'.toArray hk n 0 xs ys b hb (fun j c u hc hu=>hr j c u hc (by simpa using hu)) (fun j c u hc hu=>hr' j c u hc (by simpa using hu)) (by simp [hl]) (by simp [hl'])
theorem Qbg4 (t:TypeId) {ks:List Nat} (hks:Qjs P t=some ks) {xs ys:List V} {vs vs' : List Value} {b:Bool} (hl:vs.length=xs.length) (hr:∀ (j:Nat) (c:V) (x:Value),xs[j]? = some c→vs[j]? = some x→RF g w c x)
  (hl' : vs'.length=ys.length) (hr' : ∀ (j:Nat) (c:V) (x:Value),ys[j]? = some c→vs'[j]? = some x→RF g w c x) (hb:Qd1 ks xs ys=some b) :
  (∀ x y,((do eqGuard .eql t x y (.agg vs.toArray) (.agg vs'.toArray);binOp .eql t (.agg vs.toArray) (.agg vs'.toArray):Sem Value)).run P w = .ok (.bool b) w) ∧
  (∀ x y,((do eqGuard .neq t x y (.agg vs.toArray) (.agg vs'.toArray);binOp .neq t (.agg vs.toArray) (.agg vs'.toArray):Sem Value)).run P w = .ok (.bool !b) w):=by
 obtain ⟨heq,hg⟩:=Qbaj P t hks hl hr hl' hr' hb
 simp_all [Go.eqGuard,Go.Sem.run_bind,Go.Result.andThen_ok,Go.run_eql_struct,Go.run_neq_struct]
end
end Go.Abs
end
section
namespace Go.Abs
open Go
section
variable (P:Program) {g:G} {w:World}
structure CR (g:G) (w:World) (cs:List V) (us:List Value):Prop where
 len:us.length=cs.length
 rf:∀ (j:Nat) (c:V) (y:Value),cs[j]? = some c→us[j]? = some y→RF g w c y
 one:∀ y∈us,y.oneCell'=true
theorem CR.append {a b:List V} {x y:List Value} (h:CR g w a x) (k:CR g w b y):CR g w (a++b) (x++y):={
 len:=by simp [h.len,k.len]
 rf:=fun j c z hc hz=>by
  rcases Nat.lt_or_ge j a.length with hlt|hge
  ·rw [List.getElem?_append_left hlt] at hc;rw [List.getElem?_append_left (by rw [h.len];exact hlt)] at hz;exact h.rf j c z hc hz
  ·rw [List.getElem?_append_right hge] at hc;rw [List.getElem?_append_right (by rw [h.len];exact hge),h.len] at hz;exact k.rf _ c z hc hz
 one:=fun z hz=>by
  rcases List.mem_append.1 hz with hz|hz
  ·exact h.one z hz
  ·exact k.one z hz }
theorem CR.take {a:List V} {x:List Value} (h:CR g w a x) (n:Nat):CR g w (a.take n) (x.take n):={
 len:=by simp [h.len]
 rf:=fun j c z hc hz=>by
  simp only [List.getElem?_take] at hc hz;split at hc
  ·rename_i hn;rw [if_pos hn] at hz;exact h.rf j c z hc hz
  ·cases hc
 one:=fun z hz=>h.one z (List.mem_of_mem_take hz) }
theorem CR.drop {a:List V} {x:List Value} (h:CR g w a x) (n:Nat):CR g w (a.drop n) (x.drop n):={
 len:=by simp [h.len]
 rf:=fun j c z hc hz=>by
  simp only [List.getElem?_drop] at hc hz;exact h.rf _ c z hc hz
 one:=fun z hz=>h.one z (List.mem_of_mem_drop hz) }
theorem CR.nil:CR g w [] []:=⟨rfl,by simp,by simp⟩
theorem CR.cons {c:V} {y:Value} {cs:List V} {us:List Value} (h:RF g w c y) (h1:y.oneCell'=true) (k:CR g w cs us):CR g w (c::cs) (y::us) :=
 CR.append (a:=[c]) (x:=[y]) ⟨rfl,fun j c' z hc hz=>by cases j<;>simp_all,by simpa using h1⟩ k
theorem CR.rep {z:List V} {u:List Value} (h:CR g w z u):∀ n,CR g w (rep n z) (List.replicate n u).flatten
 | 0=>by simpa [Abs.rep] using CR.nil
 | n+1=>by
  simp only [Abs.rep,List.replicate_succ,List.flatten_cons];exact CR.append h (CR.rep h n)
def Q9i (cells:List Value):List (Nat×List Value)→List Value
 | []=>cells
 | (off,vs)::rest=>Q9i (cells.take off++vs++cells.drop (off+vs.length)) rest
theorem Qbak:∀ (vs:List Value) (off i:Nat) (cells:List Value),off+i+vs.length≤cells.length →
  ((vs.zipIdx i).foldl (fun (cs:Array Value) (p:Value×Nat)=>cs.setIfInBounds (off+p.2) p.1) cells.toArray).toList=cells.take (off+i)++vs++cells.drop (off+i+vs.length)
 | [],off,i,cells,h=>by simp
 | v::vs,off,i,cells,h=>by
  simp only [List.zipIdx_cons,List.foldl_cons];have e:cells.toArray.setIfInBounds (off+i) v=(cells.set (off+i) v).toArray:=by simp
  rw [e,Qbak vs off (i+1) (cells.set (off+i) v) (by simp at h ⊢;omega)];simp only [List.length_cons] at h ⊢;apply List.ext_getElem?;intro j;simp only [List.getElem?_append,List.getElem?_take,List.getElem?_drop,List.length_append,List.length_take,List.length_set,List.length_cons,List.getElem?_set]
  grind
theorem Qbc4 (vs:Array Value) (off:Nat) (cells:Array Value) (h:off+vs.size≤cells.size) :
  (vs.zipIdx.foldl (fun (cs:Array Value) (p:Value×Nat)=>cs.setIfInBounds (off+p.2) p.1) cells)=(cells.toList.take off++vs.toList++cells.toList.drop (off+vs.size)).toArray:=by
 have:=Qbak vs.toList off 0 cells.toList (by simpa using h);apply Array.ext';have e:vs.zipIdx.foldl (fun (cs:Array Value) (p:Value×Nat)=>cs.setIfInBounds (off+p.2) p.1) cells=vs.toList.zipIdx.foldl (fun (cs:Array Value) (p:Value×Nat)=>cs.setIfInBounds (off+p.2) p.1) cells:=by
  rw [← Array.foldl_toList];congr 1;simp
 rw [e];simpa using this
theorem Qbal (place:Nat→Option (Nat×Nat)):∀ (parts:List (Nat×Value)) (offs:List Nat) (cells:List Value),
  offs.length=parts.length →
  (∀ (j i off:Nat) (v:Value),parts[j]? = some (i,v)→offs[j]? = some off→place i=some (off,v.cells.size)∧off+v.cells.size≤cells.length) →
  Instr.fill place cells.toArray parts=some (Q9i cells ((offs.zip parts).map fun p=>(p.1,p.2.2.cells.toList))).toArray
 | [],offs,cells,hl,_=>by
  simp_all [List.eq_nil_of_length_eq_zero,Go.Instr.fill,Q9i]
 | (i,v)::parts,[],cells,hl,_=>by simp at hl
 | (i,v)::parts,off::offs,cells,hl,h=>by
  obtain ⟨hp,hle⟩:=h 0 i off v rfl rfl;simp only [Instr.fill,hp,List.zip_cons_cons,List.map_cons,Q9i];rw [if_neg (by simp;omega)];rw [Qbc4 _ _ _ (by simpa using hle)];have:=Qbal place parts offs (cells.take off++v.cells.toList++cells.drop (off+v.cells.size)) (by simpa using hl) (fun j i' off' v' hj ho=>by
   obtain ⟨h1,h2⟩:=h (j+1) i' off' v' (by simpa using hj) (by simpa using ho)
   grind)
  simpa using this
theorem Qbc5:∀ (ps:List (Nat×List V)) (qs:List (Nat×List Value)) {cells:List V} {us:List Value},CR g w cells us→ps.length=qs.length →
  (∀ (j o o' : Nat) (cs:List V) (vs:List Value),ps[j]? = some (o,cs)→qs[j]? = some (o',vs)→o=o'∧CR g w cs vs)→CR g w (Qh9 cells ps) (Q9i us qs)
 | [],[],_,_,h,_,_=>h
 | [],_::_,_,_,_,hl,_=>by simp at hl
 | _::_,[],_,_,_,hl,_=>by simp at hl
 | (o,cs)::ps,(o',vs)::qs,cells,us,h,hl,hp=>by
  obtain ⟨rfl,hcv⟩:=hp 0 o o' cs vs rfl rfl;simp only [Qh9,Q9i];refine Qbc5 ps qs ?_ (by simpa using hl) (fun j o o' cs vs hj hj'=>hp (j+1) o o' cs vs (by simpa using hj) (by simpa using hj'));rw [hcv.len];exact CR.append (CR.append (h.take o) hcv) (h.drop _)
theorem Q1j:∀ (ps:List (Nat×List V)) (cells:List V),(∀ p∈ps,p.1+p.2.length≤cells.length)→(Qh9 cells ps).length=cells.length
 | [],_,_=>rfl
 | (o,cs)::ps,cells,h=>by
  have h0:=h (o,cs) (by simp);simp only at h0;simp only [Qh9];rw [Q1j ps _ (fun p hp=>by have:=h p (by simp [hp]);simp;omega)];simp;omega
theorem Q9j {v:Value} {x:V} (h:Q57 v=some x):RF g w x v∧v.oneCell'=true∧Flat x∧∀ n,x.lt n=true:=by
 cases v<;>simp only [Q57] at h<;>try (cases h;done)
 case bool=>cases h;exact ⟨by rw [RF_d];simp [RD],rfl,rfl,fun _=>rfl⟩
 case int=>cases h;exact ⟨by rw [RF_d];simp [RD],rfl,rfl,fun _=>rfl⟩
 case string=>cases h;exact ⟨by rw [RF_d];simp [RD],rfl,rfl,fun _=>rfl⟩
 case pointer a =>
  cases a with
  | none=>cases h;exact ⟨fun ℓ=>by simp [RV],rfl,rfl,fun _=>rfl⟩
  | some a=>cases h;exact ⟨fun ℓ=>by simp [RV],rfl,rfl,fun _=>rfl⟩
 all_goals (cases h;exact ⟨fun ℓ=>by simp [RV],rfl,rfl,fun _=>rfl⟩)
theorem Qtc:∀ (ss:List (Option Nat)) (vs:List Value) (xs:List V),Qmz ss vs=some xs→CR g w xs vs∧∀ n,V.lt.go n xs=true
 | [],[],xs,h=>by simp [Qmz] at h;subst h;exact ⟨CR.nil,fun _=>rfl⟩
 | [],_::_,xs,h=>by simp [Qmz] at h
 | some n::ss,[],xs,h=>by simp [Qmz] at h
 | none::ss,[],xs,h=>by simp [Qmz] at h
 | some n::ss,v::vs,xs,h=>by
  unfold Qmz at h;split at h<;>try (cases h;done)
  ·simp_all
  ·rename_i heq1 heq2;simp only [List.cons.injEq] at heq1 heq2;obtain ⟨h1,rfl⟩:=heq1;obtain ⟨rfl,rfl⟩:=heq2;simp only [Option.map_eq_some_iff] at h;obtain ⟨ys,hy,rfl⟩:=h;obtain ⟨hc,hl⟩:=Qtc _ _ _ hy;exact ⟨CR.cons (fun ℓ=>by simp [RV]) rfl hc,fun n=>by simp [V.lt.go,V.lt,hl]⟩
  grind
 | none::ss,v::vs,xs,h=>by
  simp only [Qmz] at h;split at h
  ·rename_i x xs' hx hxs;cases h;obtain ⟨hc,hl⟩:=Qtc _ _ _ hxs;obtain ⟨h1,h2,_,h3⟩:=Q9j (g:=g) (w:=w) hx;exact ⟨CR.cons h1 h2 hc,fun n=>by simp [V.lt.go,h3,hl]⟩
  ·cases h
theorem Qjd {t:TypeId} {z:List V} (h:Qq7 P t=some z):∃ i zv,P.info? t=some i∧i.zero=some zv∧(∀ (g:G) (w:World),CR g w z zv.cells.toList)∧∀ n,V.lt.go n z=true:=by
 unfold Qq7 at h;split at h
 ·rename_i ss zv hs hz;cases hi:P.info? t with
  | none=>simp [hi] at hz
  | some i =>
   simp [hi] at hz;refine ⟨i,zv,rfl,hz,fun g w=>(Qtc (g:=g) (w:=w) _ _ _ h).1,(Qtc (g:=⟨fun _=>0,fun _ _=>False,fun _=>.free⟩) (w:=default) _ _ _ h).2⟩
 ·cases h
theorem Qoc {t:TypeId} {i:TypeInfo} {z:Value} (hi:P.info? t=some i) (hz:i.zero=some z) (w:World):(zeroValue t).run P w = .ok z w:=by simp [zeroValue,typeInfo,hi,hz]
theorem Qry (place:Nat→Option (Nat×Nat)) (z:List V) (zu:List Value) (hz:CR g w z zu) (is:List Nat) (offs szs:List Nat) (xs:List V) (us:List Value)
  (hx:RFs g w xs us) (hfl:∀ x∈xs,Flat x) (hli:is.length=xs.length) (hlo:offs.length=xs.length) (hls:szs.length=xs.length)
  (hok:∀ (j:Nat) (x:V) (i o s:Nat),xs[j]? = some x→is[j]? = some i→offs[j]? = some o→szs[j]? = some s→Qd5 x=true∧x.cells.length=s∧o+s≤z.length∧place i=some (o,s)) :
  ∃ out:List Value,Instr.fill place zu.toArray (is.zip us)=some out.toArray∧CR g w (Qh9 z ((offs.zip xs).map fun p=>(p.1,p.2.cells))) out:=by
 have hlu:=Qif hx;have hget:∀ j,j<xs.length→∃ x u i o s,xs[j]? = some x∧us[j]? = some u∧is[j]? = some i∧offs[j]? = some o∧szs[j]? = some s∧Qd5 x=true∧x.cells.length=s∧o+s≤z.length∧place i=some (o,s)∧CR g w x.cells u.cells.toList:=by
  intro j hj;have e1:=List.getElem?_eq_getElem hj;have e2:=List.getElem?_eq_getElem (show j<us.length by omega);have e3:=List.getElem?_eq_getElem (show j<is.length by omega);have e4:=List.getElem?_eq_getElem (show j<offs.length by omega);have e5:=List.getElem?_eq_getElem (show j<szs.length by omega);obtain ⟨h1,h2,h3,h4⟩:=hok j _ _ _ _ e1 e3 e4 e5;obtain ⟨k1,k2,k3⟩:=Q6c (hfl _ (List.getElem_mem hj)) (Qs9 hx j _ _ e1 e2) h1;exact ⟨_,_,_,_,_,e1,e2,e3,e4,e5,h1,h2,h3,h4,⟨k1,k2,k3⟩⟩
 refine ⟨Q9i zu ((offs.zip (is.zip us)).map fun p=>(p.1,p.2.2.cells.toList)),?_,?_⟩
 ·refine Qbal place (is.zip us) offs zu (by simp;omega) fun j i off v hj ho=>?_;have hj' : j<xs.length:=by
   grind
  obtain ⟨x,u,i',o,s,e1,e2,e3,e4,e5,h1,h2,h3,h4,hc⟩:=hget j hj';rw [List.getElem?_zip_eq_some] at hj;obtain ⟨hj1,hj2⟩:=hj;rw [e3] at hj1;cases hj1;rw [e2] at hj2;cases hj2;rw [e4] at ho;cases ho;have hsz:v.cells.size=s:=by have:=hc.len;simp at this;omega
  rw [hsz,hz.len];exact ⟨h4,h3⟩
 ·refine Qbc5 _ _ hz (by simp;omega) fun j o o' cs vs hj hj'=>?_
  grind
theorem Qod {α β:Type} {f:α→Option β}:∀ {l:List α} {r:List β},l.mapM f=some r→r.length=l.length∧∀ (j:Nat) (a:α) (b:β),l[j]? = some a→r[j]? = some b→f a=some b
 | [],r,h=>by grind
 | a::l,r,h=>by
  simp only [List.mapM_cons,Option.bind_eq_bind,Option.bind_eq_some_iff,Option.pure_def,Option.some.injEq] at h;obtain ⟨b,hb,r',hr,rfl⟩:=h;obtain ⟨h1,h2⟩:=Qod hr;refine ⟨by simp [h1],fun j a' b' ha hb'=>?_⟩;cases j with
  | zero=>simp at ha hb';subst ha hb';exact hb
  | succ j=>exact h2 j a' b' (by simpa using ha) (by simpa using hb')
theorem Qu9 (t:TypeId) (fs:Array Field) (ht:P.underlying t=some (.struct fs)) {z:List V} (hz:Qq7 P t=some z) (is:List Nat) (pl:List (Nat×Nat)) (hpl:Q1d P fs is=some pl)
  (hft:∀ f∈fs.toList,(P.info? f.type).isSome=true)
  {xs:List V} {us:List Value} {v:V} {n0 κ:Nat} {M M' : Mem} (hfl:∀ x∈xs,Flat x) (hx:RFs g w xs us) (hs:Qh n0 κ (.build z pl) xs M=some (v,M')) :
  M'=M∧∃ val,(Instr.build t (is.zip us).toArray).run P w = .ok val w∧RF g w v val:=by
 obtain ⟨i,zv,hi,hzv,hcz,_⟩:=Qjd P hz;have hstep:(if pl.length=xs.length&&(pl.zip xs).all (fun (p,x)=>Qd5 x&&x.cells.length==p.2&&decide (p.1+p.2≤z.length))
  then some (V.agg (Qh9 z ((pl.zip xs).map fun (p,x)=>(p.1,x.cells))),M) else none)=some (v,M'):=by
  have hs:(if pl.length=(own1 xs).length&&(pl.zip (own1 xs)).all (fun (p,x)=>Qd5 x&&x.cells.length==p.2&&decide (p.1+p.2≤z.length))
   then some (V.agg (Qh9 z ((pl.zip (own1 xs)).map fun (p,x)=>(p.1,x.cells))),M) else none)=some (v,M'):=by cases xs<;>exact hs
  rw [Q2p hfl] at hs;exact hs
 split at hstep
 case isFalse=>cases hstep
 case isTrue h =>
  cases hstep;simp only [Bool.and_eq_true,decide_eq_true_eq,List.all_eq_true] at h;obtain ⟨hpll,hall⟩:=h;obtain ⟨hl1,hg1⟩:=Qod hpl;let places:List (Nat×Nat):=fs.toList.map fun f=>(f.offset,P.cellsOf f.type);have hplaces:fs.toList.mapM (fun f=>(P.info? f.type).map fun i=>(f.offset,i.size))=some places:=by
   have:∀ l:List Field,(∀ f∈l,(P.info? f.type).isSome=true)→l.mapM (fun f=>(P.info? f.type).map fun i=>(f.offset,i.size))=some (l.map fun f=>(f.offset,P.cellsOf f.type)):=by
    intro l hl
    induction l with
    | nil=>simp
    | cons f l ih =>
     cases hfi:P.info? f.type with
     | none=>grind
     | some i=>grind [Qe2]
   exact this _ hft
  obtain ⟨out,hfill,hcr⟩:=Qry (g:=g) (w:=w) (places.toArray[·]?) z zv.cells.toList (hcz g w) is (pl.map (·.1)) (pl.map (·.2)) xs us hx hfl (by omega) (by simp [hpll]) (by simp [hpll])
   (fun j x i o s hxj hij hoj hsj=>by
    simp only [List.getElem?_map,Option.map_eq_some_iff] at hoj hsj;obtain ⟨p,hp,rfl⟩:=hoj;obtain ⟨p',hp',rfl⟩:=hsj;rw [hp] at hp';cases hp';have:=hall (p,x) (List.mem_of_getElem? (i:=j) (by grind))
    grind)
  refine ⟨rfl,.agg out.toArray,?_,fun ℓ=>?_⟩
  ·simp_all [Go.run_build,Go.Program.built]
  ·simp only [RV];have e:(pl.zip xs).map (fun (p,x)=>(p.1,x.cells))=((pl.map (·.1)).zip xs).map fun p=>(p.1,p.2.cells):=by
    rw [List.zip_map_left,List.map_map];rfl
   rw [e];exact ⟨out,rfl,(Qcr _ _ _ _).2 ⟨hcr.len,fun j c u hc hu=>hcr.rf j c u hc hu _⟩,hcr.one⟩
theorem Q4m (t e:TypeId) (n:Nat) (ht:P.underlying t=some (.array n e)) (hie:(P.info? e).isSome=true) {z:List V} (hz:Qq7 P t=some z) (is:List Nat)
  {xs:List V} {us:List Value} {v:V} {n0 κ:Nat} {M M' : Mem} (hfl:∀ x∈xs,Flat x) (hx:RFs g w xs us) (hs:Qh n0 κ (.build z (is.map fun i=>(i*P.cellsOf e,P.cellsOf e))) xs M=some (v,M')) :
  M'=M∧∃ val,(Instr.build t (is.zip us).toArray).run P w = .ok val w∧RF g w v val:=by
 obtain ⟨i,zv,hi,hzv,hcz,_⟩:=Qjd P hz;generalize hpl:(is.map fun i=>(i*P.cellsOf e,P.cellsOf e))=pl at hs;have hstep:(if pl.length=xs.length&&(pl.zip xs).all (fun (p,x)=>Qd5 x&&x.cells.length==p.2&&decide (p.1+p.2≤z.length))
  then some (V.agg (Qh9 z ((pl.zip xs).map fun (p,x)=>(p.1,x.cells))),M) else none)=some (v,M'):=by
  have hs:(if pl.length=(own1 xs).length&&(pl.zip (own1 xs)).all (fun (p,x)=>Qd5 x&&x.cells.length==p.2&&decide (p.1+p.2≤z.length))
   then some (V.agg (Qh9 z ((pl.zip (own1 xs)).map fun (p,x)=>(p.1,x.cells))),M) else none)=some (v,M'):=by cases xs<;>exact hs
  rw [Q2p hfl] at hs;exact hs
 split at hstep
 case isFalse=>cases hstep
 case isTrue h =>
  cases hstep;simp only [Bool.and_eq_true,decide_eq_true_eq,List.all_eq_true] at h;obtain ⟨hpll,hall⟩:=h;obtain ⟨ie,hie⟩:=Option.isSome_iff_exists.1 hie;have hli:is.length=xs.length:=by grind
  obtain ⟨out,hfill,hcr⟩:=Qry (g:=g) (w:=w) (fun i=>some (i*ie.size,ie.size)) z zv.cells.toList (hcz g w) is (pl.map (·.1)) (pl.map (·.2)) xs us hx hfl hli (by simp [hpll]) (by simp [hpll])
   (fun j x i o s hxj hij hoj hsj=>by
    simp only [List.getElem?_map,Option.map_eq_some_iff] at hoj hsj;obtain ⟨p,hp,rfl⟩:=hoj;obtain ⟨p',hp',rfl⟩:=hsj;rw [hp] at hp';cases hp';have:=hall (p,x) (List.mem_of_getElem? (i:=j) (by grind));simp only [Bool.and_eq_true,beq_iff_eq,decide_eq_true_eq] at this
    grind [Option.some.injEq,Qe2])
  refine ⟨rfl,.agg out.toArray,?_,fun ℓ=>?_⟩
  ·simp_all [Go.run_build,Go.Program.built]
  ·simp only [RV];have e:(pl.zip xs).map (fun (p,x)=>(p.1,x.cells))=((pl.map (·.1)).zip xs).map fun p=>(p.1,p.2.cells):=by
    rw [List.zip_map_left,List.map_map];rfl
   rw [e];exact ⟨out,rfl,(Qcr _ _ _ _).2 ⟨hcr.len,fun j c u hc hu=>hcr.rf j c u hc hu _⟩,hcr.one⟩
end
end Go.Abs
end
section
namespace Go.Abs
open Go
theorem Q7j {n0 κ:Nat} {xs:List V} {M M' : Mem} {v:V} (hs:Qh n0 κ .mkmap xs M=some (v,M')) :
  (xs=[]∨∃ k n,xs=[.d (.int k n)])∧M κ=none∧v = .mp κ∧M'=M.put κ (.mp [] 0):=by
 match xs,hs with
 | [],hs =>
  simp only [Qh] at hs
  simp_all
 | [x],hs =>
  cases x with
  | d x =>
   cases x with
   | int k n =>
    simp only [Qh] at hs
    simp_all
   | _=>simp [Qh] at hs
  | _=>simp [Qh] at hs
 | _::_::_,hs=>simp [Qh] at hs
theorem Qtd {M:Mem} {k:Nat} {R:Type} {f:List (V×V×Nat)→Nat→Option R} {r:R} (h:(match M k with|some (.mp es c)=>f es c|_=>none)=some r):∃ es c,M k=some (.mp es c)∧f es c=some r:=by
 grind
theorem Q6d {n0 κ:Nat} {xs:List V} {M M' : Mem} {v:V} (hs:Qh n0 κ .lenm xs M=some (v,M')) :
  M'=M∧((∃ k es c,xs=[.mp k]∧M k=some (.mp es c)∧v = .d (.int .i64 es.length))∨∃ es c,xs=[.d (.mp es c)]∧v = .d (.int .i64 es.length)):=by
 match xs,hs with
 | [],hs=>simp [Qh] at hs
 | [x],hs =>
  cases x with
  | mp k =>
   obtain ⟨es,c,h1,h2⟩:=Qtd (f:=fun es c=>some ((.d (.int .i64 es.length):V),M)) hs
   grind
  | d x =>
   cases x with
   | mp es c=>simp only [Qh] at hs;grind
   | _=>simp [Qh] at hs
  | _=>simp [Qh] at hs
 | _::_::_,hs=>simp [Qh] at hs
def Qbf0 (kd:MK) (c:Bool) (z key v:V) (es:List (V×V×Nat)):Prop :=
 kd.ok key=true∧kd.all es=true∧((∃ i u,Qgr key es=some (i,u)∧u.mv=true∧v=if c then .tup [u.dem,.d (.bool true)] else u.dem)∨(Qgr key es=none∧z.dat=true∧v=if c then .tup [z,.d (.bool false)] else z))
theorem Q0j {n0 κ:Nat} {kd:MK} {c:Bool} {z:V} {xs:List V} {M M' : Mem} {v:V} (hs:Qh n0 κ (.lookup kd c z) xs M=some (v,M')) :
  M'=M∧((∃ k key es cl,xs=[.mp k,key]∧M k=some (.mp es cl)∧Qbf0 kd c z key v es) ∨
   (∃ key ents cl,xs=[.d (.mp ents cl),key]∧((ents.map entV).all fun e=>e.2.1.dat)=true∧Qbf0 kd c z key v (ents.map entV))):=by
 match xs,hs with
 | [],hs=>simp [Qh] at hs
 | [x],hs =>
  grind [Qh]
 | [x,key],hs =>
  cases x with
  | mp k =>
   obtain ⟨es,cl,h1,h2⟩:=Qtd (f:=fun es cl=>if kd.ok key&&kd.all es then
    (match Qgr key es with
     | some (_,v)=>if v.mv then some (if c then .tup [v.dem,.d (.bool true)] else v.dem,M) else none
     | none=>if z.dat then some (if c then .tup [z,.d (.bool false)] else z,M) else none) else none) hs
   split at h2<;>try (cases h2;done)
   rename_i h3;rw [Bool.and_eq_true] at h3;cases hf:Qgr key es with
   | none =>
    rw [hf] at h2;dsimp only at h2;by_cases h4:z.dat=true
    ·rw [if_pos h4] at h2;cases h2;exact ⟨rfl,.inl ⟨k,key,es,cl,rfl,h1,h3.1,h3.2,.inr ⟨hf,h4,rfl⟩⟩⟩
    grind
   | some p =>
    rw [hf] at h2;obtain ⟨i,u⟩:=p;dsimp only at h2;by_cases h4:u.mv=true
    ·rw [if_pos h4] at h2;cases h2;exact ⟨rfl,.inl ⟨k,key,es,cl,rfl,h1,h3.1,h3.2,.inl ⟨i,u,hf,h4,rfl⟩⟩⟩
    grind
  | d x =>
   cases x with
   | mp ents cl =>
    simp only [Qh] at hs;split at hs<;>try (cases hs;done)
    rename_i h3;rw [Bool.and_eq_true] at h3;cases hf:Qgr key (ents.map entV) with
    | none =>
     rw [hf] at hs;dsimp only at hs;by_cases h4:(z.dat&&(ents.map entV).all fun e=>e.2.1.dat)=true
     ·rw [if_pos h4] at hs;cases hs;rw [Bool.and_eq_true] at h4;exact ⟨rfl,.inr ⟨key,ents,cl,rfl,h4.2,h3.1,h3.2,.inr ⟨hf,h4.1,rfl⟩⟩⟩
     grind
    | some p =>
     rw [hf] at hs;obtain ⟨i,u⟩:=p;dsimp only at hs;by_cases h4:(u.dat&&(ents.map entV).all fun e=>e.2.1.dat)=true
     ·rw [if_pos h4] at hs;cases hs;rw [Bool.and_eq_true] at h4;exact ⟨rfl,.inr ⟨key,ents,cl,rfl,h4.2,h3.1,h3.2,.inl ⟨i,u,hf,Qxm h4.1,by rw [Qu7 h4.1]⟩⟩⟩
     grind
   | _=>simp [Qh] at hs
  | _=>simp [Qh] at hs
 | x::_::_::_,hs =>
  grind [Qh]
theorem Q40 {n0 κ:Nat} {kd:MK} {xs:List V} {M M' : Mem} {v:V} (hs:Qh n0 κ (.mapset kd) xs M=some (v,M')) :
  ∃ k key u es cl,xs=[.mp k,key,u]∧M k=some (.mp es cl)∧kd.ok key=true∧kd.all es=true∧u.dat=true∧v = .und ∧
   M'=M.put k (match Qgr key es with|some (i,_)=>.mp (modM key (Qu3 u) i es) cl|none=>.mp (es++[(key,Qu3 u,cl)]) (cl+1)):=by
 match xs,hs with
 | [],hs=>simp [Qh] at hs
 | [x],hs=>cases x<;>simp [Qh] at hs
 | [x,_],hs=>cases x<;>simp [Qh] at hs
 | [x,key,u],hs =>
  cases x with
  | mp k =>
   obtain ⟨es,cl,h1,h2⟩:=Qtd (f:=fun es cl=>if kd.ok key&&kd.all es&&u.dat then
    some ((.und:V),M.put k (match Qgr key es with
     | some (i,_)=>.mp (modM key (Qu3 u) i es) cl
     | none=>.mp (es++[(key,Qu3 u,cl)]) (cl+1))) else none) hs
   grind
  | _=>simp [Qh] at hs
 | x::_::_::_::_,hs=>cases x<;>simp [Qh] at hs
theorem Qx1 {n0 κ:Nat} {kd:MK} {z:V} {xs:List V} {M M' : Mem} {v:V} (hs:Qh n0 κ (.lookupT kd z) xs M=some (v,M')) :
  ∃ k key es cl,xs=[.mp k,key]∧M k=some (.mp es cl)∧kd.ok key=true∧kd.all es=true∧upM 0 es=true ∧
   ((∃ i sz l e,Qgr key es=some (i,.own sz l)∧es[i]? = some e∧v = .own sz l∧M'=M.put k (.mp (modM e.1 (.d (.lst sz l)) i es) cl))∨(Qgr key es=none∧z.dat=true∧v=z∧M'=M)):=by
 match xs,hs with
 | [],hs=>simp [Qh] at hs
 | [x],hs=>cases x<;>simp [Qh] at hs
 | [x,key],hs =>
  cases x with
  | mp k =>
   obtain ⟨es,cl,h1,h2⟩:=Qtd (f:=fun es cl=>if kd.ok key&&kd.all es&&upM 0 es then
    (match Qgr key es with
     | some (i,.own sz l)=>(es[i]?).map fun e=>((.own sz l:V),M.put k (.mp (modM e.1 (.d (.lst sz l)) i es) cl))
     | some _=>none
     | none=>if z.dat then some (z,M) else none) else none) hs
   grind
  | _=>simp [Qh] at hs
 | x::_::_::_,hs=>cases x<;>simp [Qh] at hs
theorem Qx2 {n0 κ:Nat} {kd:MK} {xs:List V} {M M' : Mem} {v:V} (hs:Qh n0 κ (.mapsetT kd) xs M=some (v,M')) :
  ∃ k key sz l es cl,xs=[.mp k,key,.own sz l]∧M k=some (.mp es cl)∧kd.ok key=true∧kd.all es=true∧v = .und ∧
   M'=M.put k (match Qgr key es with|some (i,_)=>.mp (modM key (.own sz l) i es) cl|none=>.mp (es++[(key,.own sz l,cl)]) (cl+1)):=by
 match xs,hs with
 | [],hs=>simp [Qh] at hs
 | [x],hs=>cases x<;>simp [Qh] at hs
 | [x,_],hs=>cases x<;>simp [Qh] at hs
 | [x,key,u],hs =>
  cases x with
  | mp k =>
   cases u with
   | own sz l =>
    obtain ⟨es,cl,h1,h2⟩:=Qtd (f:=fun es cl=>if kd.ok key&&kd.all es then
     some ((.und:V),M.put k (match Qgr key es with
      | some (i,_)=>.mp (modM key (.own sz l) i es) cl
      | none=>.mp (es++[(key,.own sz l,cl)]) (cl+1))) else none) hs
    grind
   | _=>simp [Qh] at hs
  | _=>simp [Qh] at hs
 | x::_::_::_::_,hs=>cases x<;>simp [Qh] at hs
theorem Q1k {n0 κ:Nat} {kd:MK} {z:V} {xs:List V} {M M' : Mem} {v:V} (hs:Qh n0 κ (.mapentry kd z) xs M=some (v,M')) :
  ∃ k key es cl,xs=[.mp k,key]∧M k=some (.mp es cl)∧kd.ok key=true∧kd.all es=true∧z.dat=true ∧
   ((∃ i u e,Qgr key es=some (i,u)∧u.dat=true∧es[i]? = some e∧v = .tup [u,.d (.int .i64 e.2.2)]∧M'=M.put k (.mp (modM key u i es) cl))∨(Qgr key es=none∧v = .tup [z,.d (.int .i64 cl)]∧M'=M.put k (.mp (es++[(key,z,cl)]) (cl+1)))):=by
 match xs,hs with
 | [],hs=>simp [Qh] at hs
 | [x],hs=>cases x<;>simp [Qh] at hs
 | [x,key],hs =>
  cases x with
  | mp k =>
   obtain ⟨es,cl,h1,h2⟩:=Qtd (f:=fun es cl=>if kd.ok key&&kd.all es&&z.dat then
    (match Qgr key es with
     | some (i,v)=>if v.dat then (es[i]?).map fun e=>((V.tup [v,.d (.int .i64 e.2.2)]),M.put k (.mp (modM key v i es) cl)) else none
     | none=>some ((V.tup [z,.d (.int .i64 cl)]),M.put k (.mp (es++[(key,z,cl)]) (cl+1)))) else none) hs
   split at h2<;>try (cases h2;done)
   rename_i h3;rw [Bool.and_eq_true,Bool.and_eq_true] at h3;refine ⟨k,key,es,cl,rfl,h1,h3.1.1,h3.1.2,h3.2,?_⟩
   grind
  | _=>simp [Qh] at hs
 | x::_::_::_,hs=>cases x<;>simp [Qh] at hs
theorem Qxo {n0 κ:Nat} {xs:List V} {M M' : Mem} {v:V} (hs:Qh n0 κ .entrystore xs M=some (v,M')) :
  ∃ k b u es cl i e,xs=[.mp k,.d (.int .i64 b),u]∧M k=some (.mp es cl)∧u.dat=true∧Q56 b es=some i∧es[i]? = some e∧v = .und∧M'=M.put k (.mp (modM e.1 (Qu3 u) i es) cl):=by
 match xs,hs with
 | [],hs=>simp [Qh] at hs
 | [x],hs=>cases x<;>simp [Qh] at hs
 | [x,_],hs=>cases x<;>simp [Qh] at hs
 | [x,y,u],hs =>
  cases x with
  | mp k =>
   cases y with
   | d y =>
    cases y with
    | int q b =>
     cases q with
     | i64 =>
      obtain ⟨es,cl,h1,h2⟩:=Qtd (f:=fun es cl=>if u.dat then
       (match Q56 b es with
        | some i=>(es[i]?).map fun e=>((.und:V),M.put k (.mp (modM e.1 (Qu3 u) i es) cl))
        | none=>none) else none) hs
      grind
     | _=>simp [Qh] at hs
    | _=>simp [Qh] at hs
   | _=>simp [Qh] at hs
  | _=>simp [Qh] at hs
 | x::y::_::_::_,hs=>cases x<;>simp [Qh] at hs
end Go.Abs
end
section
namespace Go.Abs
open Go
def There (M:Mem) (k:Nat):Prop:=(M k).isSome=true
theorem There.put {M:Mem} {κ:Nat} {b:Bx} {k:Nat} (h:There M k):There (M.put κ b) k:=by
 grind [There,Mem.put]
theorem There.self {M:Mem} {κ:Nat} {b:Bx}:There (M.put κ b) κ:=by simp [There,Mem.put]
def MOn (p:Nat→Prop) (M:Mem):Prop:=∀ k cs,M k=some (.cells cs)→V.ons p cs
theorem Qe3 {p:Nat→Prop} {a b:List V}:V.ons p (a++b)↔V.ons p a∧V.ons p b:=by
 grind [Qhz]
theorem Qm1 {p:Nat→Prop} {a:List V} (n:Nat) (h:V.ons p a):V.ons p (a.take n):=by
 grind [Qhz,List.mem_of_mem_take]
theorem Qm2 {p:Nat→Prop} {a:List V} (n:Nat) (h:V.ons p a):V.ons p (a.drop n):=by
 grind [Qhz,List.mem_of_mem_drop]
theorem Q0k {p:Nat→Prop} {a:List V} (n:Nat) {x:V} (h:V.ons p a) (hx:x.on p):V.ons p (a.set n x):=by
 rw [Qhz] at *
 grind
theorem Qfa {p:Nat→Prop} {a:List V} {n:Nat} {x:V} (h:V.ons p a) (hx:a[n]? = some x):x.on p:=by
 rw [Qhz] at h;grind
theorem Qm8 {p:Nat→Prop} {x:V} (h:x.on p):V.ons p x.cells:=by
 cases x<;>simp_all [V.cells,V.ons,V.on]
theorem Qy4 {p:Nat→Prop}:∀ (ps:List (Nat×List V)) (cells:List V),V.ons p cells→(∀ q∈ps,V.ons p q.2)→V.ons p (Qh9 cells ps)
 | [],_,h,_=>h
 | (o,vs)::rest,cells,h,hp=>by
  simp only [Qh9];exact Qy4 rest _ (Qe3.2 ⟨Qe3.2 ⟨Qm1 _ h,hp (o,vs) (by simp)⟩,Qm2 _ h⟩) (fun q hq=>hp q (by simp [hq]))
theorem Q2v {p:Nat→Prop} {z:List V} (h:V.ons p z):∀ n,V.ons p (rep n z)
 | 0=>by simp [rep,V.ons]
 | n+1=>by
  simp only [rep,List.replicate_succ,List.flatten_cons];exact Qe3.2 ⟨h,Q2v h n⟩
theorem Qbf1 {p:Nat→Prop} (cs:List D):V.ons p (cs.map V.d):=by
 rw [Qhz];simp [V.on]
def K.okz:K→Prop
 | .alloc z=>∀ p,V.ons p z
 | .build z _=>∀ p,V.ons p z
 | .bslice _ _ z _=>∀ p,V.ons p z
 | .makes _ _ z=>∀ p,V.ons p z
 | _=>True
theorem Qx3 {α β:Type} {a:List α} {b:List β} {q:α×β} (h:q∈a.zip b):q.2∈b:=(List.of_mem_zip h).2
theorem Q6e {n0 κ:Nat} {k:K} {xs:List V} {M M' : Mem} {v:V} (hz:k.okz) (hs:Qh n0 κ k xs M=some (v,M')) (hx:V.ons (There M) xs) (hM:MOn (There M) M) :
  v.on (There M')∧MOn (There M') M'∧∀ k,There M k→There M' k:=by
 have keep:∀ {v' : V},some (v',M)=some (v,M')→v'.on (There M)→v.on (There M')∧MOn (There M') M'∧∀ k,There M k→There M' k:=by
  grind
 have put:∀ {κ:Nat} {cs:List V} {v' : V},some (v',M.put κ (.cells cs))=some (v,M')→V.ons (There M) cs→v'.on (There (M.put κ (.cells cs)))→v.on (There M')∧MOn (There M') M'∧∀ k,There M k→There M' k:=by
  intro κ cs v' e h h';cases e;refine ⟨h',fun k cs' hk=>?_,fun k hk=>hk.put⟩;simp only [Mem.put] at hk;split at hk
  ·cases hk;exact ons_mono (fun _ h=>h.put) _ h
  ·exact ons_mono (fun _ h=>h.put) _ (hM k cs' hk)
 have putm:∀ {κ:Nat} {es:List (V×V×Nat)} {c:Nat} {v' : V},v'.on (There (M.put κ (.mp es c)))→v'.on (There (M.put κ (.mp es c)))∧MOn (There (M.put κ (.mp es c))) (M.put κ (.mp es c))∧∀ k,There M k→There (M.put κ (.mp es c)) k:=by
  intro κ es c v' h';refine ⟨h',fun k cs' hk=>?_,fun k hk=>hk.put⟩;simp only [Mem.put] at hk;split at hk
  ·cases hk
  ·exact ons_mono (fun _ h=>h.put) _ (hM k cs' hk)
 cases k
 case mov=>match xs,hs,hx with|[x],hs,hx=>exact keep hs hx.1
 case pick =>
  match xs,hs,hx with
  | [.d (.bool b),x,y],hs,hx =>
   simp only [Qh] at hs;exact keep hs (by cases b;exact hx.2.2.1;exact hx.2.1)
 case box n =>
  match xs,hs,hx with
  | [x],hs,hx =>
   simp only [Qh] at hs;split at hs<;>try (cases hs;done)
   split at hs<;>try (cases hs;done)
   exact put hs (Qm8 hx.1) There.self
 case alloc z =>
  match xs,hs with
  | [],hs =>
   simp only [Qh] at hs;split at hs<;>try (cases hs;done)
   exact put hs (hz _) There.self
 case build z ps =>
  have hs' : (if ps.length=(own1 xs).length&&(ps.zip (own1 xs)).all (fun (p,x)=>Qd5 x&&x.cells.length==p.2&&decide (p.1+p.2≤z.length))
   then some (V.agg (Qh9 z ((ps.zip (own1 xs)).map fun (p,x)=>(p.1,x.cells))),M) else none)=some (v,M'):=by cases xs<;>exact hs
  have hx:=(Q6a xs).2 hx;split at hs'<;>try (cases hs';done)
  refine keep hs' ?_;simp only [V.on];refine Qy4 _ _ (hz _) fun q hq=>?_;simp only [List.mem_map] at hq;obtain ⟨⟨p,x⟩,hm,rfl⟩:=hq;exact Qm8 (Qhz.1 hx x (Qx3 hm))
 case blit sz n z ps =>
  have hs' : (if ps.length=xs.length&&decide (0<sz)&&z.length==sz&&(ps.zip xs).all (fun (i,x)=>Qd5 x&&x.cells.length==sz&&decide (i<n))
   then (toDs (Qh9 (rep n z) ((ps.zip xs).map fun (i,x)=>(i*sz,x.cells)))).map fun ds=>(V.d (.lst sz (Qh8 sz n ds)),M) else none)=some (v,M'):=by cases xs<;>exact hs
  split at hs'<;>try (cases hs';done)
  simp only [Option.map_eq_some_iff,Prod.mk.injEq] at hs';obtain ⟨ds,_,rfl,rfl⟩:=hs';exact keep rfl trivial
 case bslice sz n z ps =>
  have hs' : (if ps.length=xs.length&&decide (0<sz)&&z.length==sz&&(ps.zip xs).all (fun (i,x)=>Qd5 x&&x.cells.length==sz&&decide (i<n))&&(M κ).isNone
   then some (V.sl sz κ 0 n n,M.put κ (.cells (Qh9 (rep n z) ((ps.zip xs).map fun (i,x)=>(i*sz,x.cells))))) else none)=some (v,M'):=by cases xs<;>exact hs
  split at hs'<;>try (cases hs';done)
  refine put hs' (Qy4 _ _ (Q2v (hz _) n) fun q hq=>?_) There.self;simp only [List.mem_map] at hq;obtain ⟨⟨p,x⟩,hm,rfl⟩:=hq;exact Qm8 (Qhz.1 hx x (Qx3 hm))
 case load agg n =>
  match xs,hs,hx with
  | [.ptr k off],hs,hx =>
   simp only [Qh] at hs;split at hs<;>try (cases hs;done)
   rename_i cs hk;split at hs<;>try (cases hs;done)
   split at hs
   ·exact keep hs (by simp only [V.on];exact (ons_dems _).2 (Qm1 _ (Qm2 _ (hM k cs hk))))
   ·simp only [Option.map_eq_some_iff,Prod.mk.injEq] at hs;obtain ⟨c,hc,rfl,rfl⟩:=hs;exact keep rfl ((Qdt c).2 (Qfa (hM k cs hk) hc))
  | [.cref cs],hs,hx =>
   simp only [Qh] at hs;split at hs<;>try (cases hs;done)
   split at hs
   ·grind [V.on,Qbf1]
   ·simp only [Option.map_eq_some_iff,Prod.mk.injEq] at hs;obtain ⟨c,hc,rfl,rfl⟩:=hs;exact keep rfl trivial
 case loadT =>
  match xs,hs,hx with
  | [.ptr k off],hs,hx =>
   simp only [Qh] at hs;split at hs<;>try (cases hs;done)
   rename_i cs hk;simp only [Option.map_eq_some_iff] at hs;obtain ⟨c,hc,hs⟩:=hs;have hc':=Qfa (hM k cs hk) hc;exact put (congrArg some hs) (Q0k _ (hM k cs hk) ((Qdt c).2 hc')) (Qfj (fun _ h=>h.put) _ ((Q4y c).2 hc'))
 case store n =>
  match xs,hs,hx with
  | [.ptr k off,x],hs,hx =>
   simp only [Qh] at hs;split at hs<;>try (cases hs;done)
   split at hs<;>try (cases hs;done)
   rename_i cs hk;split at hs<;>try (cases hs;done)
   exact put hs (Qe3.2 ⟨Qe3.2 ⟨Qm1 _ (hM k cs hk),Qm8 ((Q9g x).2 hx.2.1)⟩,Qm2 _ (hM k cs hk)⟩) trivial
 case nilchk =>
  match xs,hs,hx with
  | [x],hs,hx =>
   simp only [Qh] at hs;split at hs<;>try (cases hs;done)
   all_goals exact keep hs hx.1
 case bin op tb =>
  match xs,hs,hx with
  | [.d x,.d y],hs,hx =>
   simp only [Qh,Option.map_eq_some_iff,Prod.mk.injEq] at hs;obtain ⟨c,hc,rfl,rfl⟩:=hs;exact keep rfl trivial
 case eqa neg ks =>
  match xs,hs,hx with
  | [.agg x,.agg y],hs,hx =>
   simp only [Qh,Option.map_eq_some_iff,Prod.mk.injEq] at hs;obtain ⟨c,hc,rfl,rfl⟩:=hs;exact keep rfl trivial
 case un op =>
  match xs,hs,hx with
  | [.d x],hs,hx =>
   simp only [Qh,Option.map_eq_some_iff,Prod.mk.injEq] at hs;obtain ⟨c,hc,rfl,rfl⟩:=hs;exact keep rfl trivial
 case conv k =>
  match xs,hs,hx with
  | [.d (.int k' n)],hs,hx=>exact keep hs trivial
 case bstr =>
  match xs,hs,hx with
  | [.d (.lst sz l)],hs,hx =>
   simp only [Qh,Option.map_eq_some_iff,Prod.mk.injEq] at hs;obtain ⟨c,hc,rfl,rfl⟩:=hs;exact keep rfl trivial
 case func f =>
  have hs' : some (V.clo f xs,M)=some (v,M'):=by cases xs<;>exact hs
  grind [V.on]
 case makes sz bytes z =>
  match xs,hs,hx with
  | [.d (.int .i64 l),.d (.int .i64 c)],hs,hx =>
   simp only [Qh] at hs;split at hs<;>try (cases hs;done)
   exact put hs (Q2v (hz _) _) There.self
 case slice sz lo hi =>
  match xs,hs,hx with
  | x::bs,hs,hx =>
   rw [Qx0] at hs;split at hs<;>try (cases hs;done)
   split at hs<;>try (cases hs;done)
   all_goals
    try simp only at hs
    split at hs<;>try (cases hs;done)
   ·exact keep hs trivial
   ·exact keep hs trivial
   ·refine keep hs ?_;split
    ·exact hx.1
    ·exact hx.1
   ·exact keep hs trivial
 case slcT sz =>
  match xs,hs,hx with
  | [x,.d (.int _ a)],hs,hx =>
   simp only [Qh] at hs;split at hs<;>try (cases hs;done)
   all_goals
    split at hs<;>try (cases hs;done)
    exact keep hs trivial
 case fld off =>
  match xs,hs,hx with
  | [.ptr k o],hs,hx=>exact keep hs (v':=.ptr k (o+off)) hx.1
  | [.cref cs],hs,hx=>exact keep hs trivial
 case field agg off n =>
  match xs,hs,hx with
  | [.agg cs],hs,hx =>
   simp only [Qh] at hs;split at hs<;>try (cases hs;done)
   split at hs
   ·exact keep hs (by simp only [V.on];exact Qm1 _ (Qm2 _ hx.1))
   ·simp only [Option.map_eq_some_iff,Prod.mk.injEq] at hs;obtain ⟨c,hc,rfl,rfl⟩:=hs;exact keep rfl (Qfa hx.1 hc)
 case idx sz =>
  match xs,hs,hx with
  | [x,.d (.int _ i)],hs,hx =>
   simp only [Qh] at hs;split at hs<;>try (cases hs;done)
   all_goals split at hs<;>try (cases hs;done)
   ·simp only [Option.map_eq_some_iff,Prod.mk.injEq] at hs;obtain ⟨c,hc,rfl,rfl⟩:=hs;exact keep rfl trivial
   ·simp only [Option.map_eq_some_iff,Prod.mk.injEq] at hs;obtain ⟨c,hc,rfl,rfl⟩:=hs;exact keep rfl trivial
   ·exact keep (v':=.ptr _ _) hs hx.1
 case idxarr sz len =>
  match xs,hs,hx with
  | [x,.d (.int _ i)],hs,hx =>
   simp only [Qh] at hs;split at hs<;>try (cases hs;done)
   split at hs<;>try (cases hs;done)
   ·exact keep (v':=.ptr _ _) hs hx.1
   ·exact keep hs trivial
 case idxval agg sz len =>
  match xs,hs,hx with
  | [.agg cs,.d (.int _ i)],hs,hx =>
   simp only [Qh] at hs;split at hs<;>try (cases hs;done)
   split at hs
   ·exact keep hs (by simp only [V.on];exact Qm1 _ (Qm2 _ hx.1))
   ·simp only [Option.map_eq_some_iff,Prod.mk.injEq] at hs;obtain ⟨c,hc,rfl,rfl⟩:=hs;exact keep rfl (Qfa hx.1 hc)
 case extract i =>
  match xs,hs,hx with
  | [.tup vs],hs,hx =>
   simp only [Qh,Option.map_eq_some_iff,Prod.mk.injEq] at hs;obtain ⟨c,hc,rfl,rfl⟩:=hs;exact keep rfl ((Q4y c).2 (Qfa hx.1 hc))
 case len =>
  match xs,hs,hx with
  | [x],hs,hx =>
   simp only [Qh] at hs;split at hs<;>try (cases hs;done)
   ·exact keep hs trivial
   ·exact keep hs trivial
   ·exact keep hs trivial
   ·exact keep hs trivial
 case lens =>
  match xs,hs,hx with
  | [.d (.str s)],hs,hx=>exact keep hs trivial
 case idxs =>
  match xs,hs,hx with
  | [.d (.str s),.d (.int _ i)],hs,hx =>
   simp only [Qh] at hs;split at hs<;>try (cases hs;done)
   exact keep hs trivial
 case append sz bytes =>
  match xs,hs,hx with
  | [.nils sz',x],hs,hx =>
   simp only [Qh] at hs;split at hs<;>try (cases hs;done)
   split at hs<;>try (cases hs;done)
   exact keep hs trivial
  | [.own sz' l,x],hs,hx =>
   simp only [Qh] at hs;split at hs<;>try (cases hs;done)
   split at hs<;>try (cases hs;done)
   exact keep hs trivial
  | [.ownT sz' l,x],hs,hx =>
   simp only [Qh] at hs;split at hs<;>try (cases hs;done)
   split at hs<;>try (cases hs;done)
   exact keep hs trivial
  | [.sl sz' k off len cap,x],hs,hx =>
   simp only [Qh] at hs;split at hs<;>try (cases hs;done)
   split at hs
   ·split at hs
    ·exact keep hs trivial
    ·split at hs<;>try (cases hs;done)
     exact keep hs hx.1
   ·split at hs<;>try (cases hs;done)
    exact keep hs trivial
 case appw sz bytes =>
  match xs,hs,hx with
  | [.nils sz',x],hs,hx =>
   simp only [Qh] at hs;split at hs<;>try (cases hs;done)
   split at hs<;>try (cases hs;done)
   exact keep hs trivial
  | [.sl sz' k off len cap,x],hs,hx =>
   simp only [Qh] at hs;split at hs<;>try (cases hs;done)
   rename_i l ys cs hl hy hk;split at hs
   ·split at hs
    ·exact keep hs trivial
    ·split at hs<;>try (cases hs;done)
     exact keep hs hx.1
   ·split at hs
    ·split at hs<;>try (cases hs;done)
     exact put hs (Qe3.2 ⟨Qe3.2 ⟨Qm1 _ (hM k cs hk),Qbf1 _⟩,Qm2 _ (hM k cs hk)⟩) There.self
    ·split at hs<;>try (cases hs;done)
     exact keep hs trivial
 case max2 =>
  match xs,hs,hx with
  | [.d (.int k a),.d (.int k' b)],hs,hx =>
   simp only [Qh] at hs;split at hs<;>try (cases hs;done)
   exact keep hs trivial
 case min2 =>
  match xs,hs,hx with
  | [.d (.int k a),.d (.int k' b)],hs,hx =>
   simp only [Qh] at hs;split at hs<;>try (cases hs;done)
   exact keep hs trivial
 case call f=>cases xs<;>simp [Qh] at hs
 case callv=>cases xs<;>simp [Qh] at hs
 case callO=>cases xs<;>simp [Qh] at hs
 case isnil b=>cases xs<;>simp [Qh] at hs
 case lenm =>
  obtain ⟨rfl,⟨k,es,c,rfl,h1,rfl⟩|⟨es,c,rfl,rfl⟩⟩:=Q6d hs<;>exact keep rfl trivial
 case mkmap =>
  obtain ⟨_,h1,rfl,rfl⟩:=Q7j hs;exact putm There.self
 case lookup kd c z =>
  obtain ⟨es,rfl,h4⟩ : ∃ es,M'=M∧Qbf0 kd c z (xs.getD 1 .und) v es:=by
   obtain ⟨rfl,⟨b,key,es,cl,rfl,_,h⟩|⟨key,ents,cl,rfl,_,h⟩⟩:=Q0j hs
   all_goals grind
  rcases h4.2.2 with ⟨i,u,h5,h6,rfl⟩|⟨h5,h6,rfl⟩
  ·refine keep rfl ?_;cases c
   ·exact Qu6 (Qbcx h6)
   ·exact ⟨Qu6 (Qbcx h6),trivial,trivial⟩
  ·refine keep rfl ?_;cases c
   ·exact Qu6 h6
   ·exact ⟨Qu6 h6,trivial,trivial⟩
 case lookupT kd z =>
  obtain ⟨k,key,es,cl,rfl,h1,h2,h3,h4,h5⟩:=Qx1 hs;rcases h5 with ⟨i,sz,l,e,h6,h7,rfl,rfl⟩|⟨h6,h7,rfl,rfl⟩
  ·exact putm trivial
  ·exact keep rfl (Qu6 h7)
 case mapsetT kd =>
  obtain ⟨k,key,sz,l,es,cl,rfl,h1,h2,h3,rfl,rfl⟩:=Qx2 hs;split<;>exact putm trivial
 case mapset kd =>
  obtain ⟨k,key,u,es,cl,rfl,h1,h2,h3,h4,rfl,rfl⟩:=Q40 hs;split<;>exact putm trivial
 case mapentry kd z =>
  obtain ⟨k,key,es,cl,rfl,h1,h2,h3,h4,h5⟩:=Q1k hs;rcases h5 with ⟨i,u,e,h6,h7,h8,rfl,rfl⟩|⟨h6,rfl,rfl⟩
  ·exact putm ⟨Qu6 h7,trivial,trivial⟩
  ·exact putm ⟨Qu6 h4,trivial,trivial⟩
 case entrystore =>
  obtain ⟨k,b,u,es,cl,i,e,rfl,h1,h2,h3,h4,rfl,rfl⟩:=Qxo hs;exact putm trivial
end Go.Abs
end
section
namespace Go.Abs
open Go
def G.re (g:G) (f:Owner→Owner):G:={ g with own:=fun b=>f (g.own b) }
section
variable {g:G} {w:World}
mutual
theorem Qp8 {f:Owner→Owner} (hs:∀ o i,f (o.sub i)=(f o).sub i) (he:f .ext = .ext):∀ (v:V) (ℓ:Owner) (u:Value),RV g w v ℓ u→RV (g.re f) w v (f ℓ) u
 | .und,_,_,_=>by simp [RV]
 | .d x,_,_,h=>by simpa [RV,G.re] using h
 | .agg cs,ℓ,u,h=>by
  simp only [RV] at h ⊢;obtain ⟨vs,rfl,h,h1⟩:=h;exact ⟨vs,rfl,RVs_re hs he cs ℓ 0 vs h,h1⟩
 | .tup cs,ℓ,u,h=>by
  simp only [RV] at h ⊢;obtain ⟨vs,rfl,h⟩:=h;exact ⟨vs,rfl,RVs_re hs he cs ℓ 0 vs h⟩
 | .own sz l,ℓ,u,h=>by
  simp only [RV] at h ⊢;rcases h with h|⟨b,cap,vals,e,h1,h2,h3⟩
  ·exact .inl h
  ·exact .inr ⟨b,cap,vals,e,h1,by simp [G.re,h2],h3⟩
 | .ownT sz l,ℓ,u,h=>by
  simp only [RV] at h ⊢;rcases h with h|⟨b,o0,cap,vals,e,h1,h2,h3⟩
  ·exact .inl h
  ·exact .inr ⟨b,o0,cap,vals,e,h1,by simp [G.re,h2],h3⟩
 | .ptr k off,_,_,h=>by simpa [RV,G.re] using h
 | .nilp,_,_,h=>by simpa [RV] using h
 | .f x,_,u,h=>by
  simp only [RV] at h ⊢;exact Qf0 (Qbaf (g:=g) (g':=g.re f) fun b o h1 h2=>⟨h1,by show f (g.own b) = .ext;rw [h2,he]⟩) x u h
 | .nils _,_,_,h=>by simpa [RV] using h
 | .cref cs,_,_,h=>by simpa [RV,G.re] using h
 | .sl ..,_,_,h=>by simpa [RV,G.re] using h
 | .clo f' caps,_,u,h=>by
  simp only [RV] at h ⊢;obtain ⟨vs,rfl,h⟩:=h;have:=RVs_re hs he caps .ext 0 vs h;rw [he] at this;exact ⟨vs,rfl,this⟩
 | .mp k,_,_,h=>by simpa [RV,G.re] using h
theorem RVs_re {f:Owner→Owner} (hs:∀ o i,f (o.sub i)=(f o).sub i) (he:f .ext = .ext):∀ (cs:List V) (ℓ:Owner) (i:Nat) (us:List Value),RVs g w cs ℓ i us→RVs (g.re f) w cs (f ℓ) i us
 | [],_,_,_,h=>by simpa [RVs] using h
 | c::cs,ℓ,i,us,h=>by
  simp only [RVs] at h ⊢;obtain ⟨u,us,rfl,h1,h2⟩:=h;exact ⟨u,us,rfl,by rw [← hs];exact Qp8 hs he c _ u h1,RVs_re hs he cs ℓ (i+1) us h2⟩
end
theorem Imm.refl (imm:Nat→Nat→Prop) (w:World):Imm imm imm w w:=⟨fun _ _ h=>h,fun _ _ _=>rfl⟩
theorem Kept.re (g:G) (w:World) (f:Owner→Owner) (p:Nat→Prop):Kept g w (g.re f) w p (fun o=>f o=o) :=
 ⟨Imm.refl _ _,fun _ _=>rfl,fun b hb _=>⟨hb,rfl,fun _=>Iff.rfl⟩⟩
open Classical in
noncomputable def ex (a b:Owner) (o:Owner):Owner:=if o=a then b else o
theorem Kept.ex (g:G) (w:World) (a b:Owner) (p:Nat→Prop):Kept g w (g.re (ex a b)) w p (fun o=>o≠a) :=
 ⟨Imm.refl _ _,fun _ _=>rfl,fun c hc _=>⟨by simp [G.re,Abs.ex,hc],rfl,fun _=>Iff.rfl⟩⟩
theorem Qbg5 {sz:Nat} {l:List (List D)} {f:Owner→Owner} {a b:Owner} {u:Value} (h:RV g w (.own sz l) a u) (hf:f a=b):RV (g.re f) w (.own sz l) b u:=by
 simp only [RV] at h ⊢;rcases h with h|⟨c,cap,vals,e,h1,h2,h3⟩
 ·exact .inl h
 ·exact .inr ⟨c,cap,vals,e,h1,by simp only [G.re];rw [h2,hf],h3⟩
theorem Q41 {sz:Nat} {l:List (List D)} {a b:Owner} {u:Value} (h:RV g w (.own sz l) a u):RV (g.re (ex a b)) w (.own sz l) b u:=by
 simp only [RV] at h ⊢;rcases h with h|⟨c,cap,vals,e,h1,h2,h3⟩
 ·exact .inl h
 ·exact .inr ⟨c,cap,vals,e,h1,by simp [G.re,Abs.ex,h2],h3⟩
theorem Qbh4 {sz:Nat} {l:List (List D)} {a b:Owner} {u:Value} (h:RV g w (.ownT sz l) a u):RV (g.re (ex a b)) w (.ownT sz l) b u:=by
 simp only [RV] at h ⊢;rcases h with h|⟨c,o0,cap,vals,e,h1,h2,h3⟩
 ·exact .inl h
 ·exact .inr ⟨c,o0,cap,vals,e,h1,by simp [G.re,Abs.ex,h2],h3⟩
theorem Qkz {g' : G} {w' : World} {p:Nat→Prop} (h:Kept g w g' w' p (· = .ext)) {v:V} (hf:Flat v) (hp:v.on p) {ℓ ℓ' : Owner} {u:Value} (hv:RV g w v ℓ u):RV g' w' v ℓ' u :=
 Qle hf (Qdc h (by rintro ℓ i rfl;rfl) rfl v .ext u rfl hp (Qle hf hv))
theorem Kept.weaken {g' : G} {w' : World} {p q:Nat→Prop} {keep keep' : Owner→Prop} (h:Kept g w g' w' p keep) (hp:∀ k,q k→p k) (hk:∀ o,keep' o→keep o):Kept g w g' w' q keep' :=
 ⟨h.imm,fun k hk'=>h.box k (hp k hk'),fun b hb hlt=>h.own b (hk _ hb) hlt⟩
theorem MR.kept {g' : G} {w' : World} {M:Mem} {nb:Nat} {keep:Owner→Prop} (hm:MR g w M nb) (h:Kept g w g' w' (There M) keep) (hon:MOn (There M) M)
  (hs:∀ ℓ i,keep ℓ→keep (ℓ.sub i)) (he:keep .ext) (hb:∀ k,There M k→keep (.box k))
  (himm:∀ b o,g'.imm b o→b<w'.heap.size∧∀ k,g'.own b ≠ .box k):MR g' w' M nb:=by
 refine ⟨fun k b hk=>?_,himm⟩;have ht:There M k:=by simp [There,hk]
 obtain ⟨h1,h2,h3⟩:=hm.box k b hk;cases b with
 | mp es c =>
  obtain ⟨ents,hh,hr⟩:=h3;have hlt:g.box k<w.heap.size:=by
   grind
  obtain ⟨k1,k2,_⟩:=h.own (g.box k) (by rw [h2];exact hb k ht) hlt;have hbox:=h.box k ht;exact ⟨h1,by rw [hbox,k1,h2],ents,by rw [hbox,k2,hh],Qkq h (fun i=>hs (.box k) i (hb k ht)) hr⟩
 | cells cs =>
  obtain ⟨vals,e,hh,hr,ho⟩:=h3;have hlt:g.box k<w.heap.size:=by
   grind
  obtain ⟨k1,k2,_⟩:=h.own (g.box k) (by rw [h2];exact hb k ht) hlt;have hbox:=h.box k ht;refine ⟨h1,by rw [hbox,k1,h2],vals,e,by rw [hbox,k2,hh],RVs_mono h hs he cs (.box k) 0 vals (hb k ht) (hon k cs hk) hr,ho⟩
theorem Qfk {s:Sl} {a:Act} {dst:Option Nat} {v:V} {val:Value} (hsz:∀ d,dst=some d→d<a.tmps.size)
  (h:∀ t,dst≠some t→RV g w (s t) (.slot t []) (a.tmps.getD t undef)) (hv:∀ d,dst=some d→RV g w v (.slot d []) val) :
  ∀ t,RV g w (Q9 s dst v t) (.slot t []) ((a.put dst val).tmps.getD t undef):=by
 intro t;cases dst with
 | none=>exact h t (by simp)
 | some d =>
  have hd:=hsz d rfl;by_cases ht:t=d
  ·subst ht;simpa [Q9,Sl.put,Act.put,hd] using hv t rfl
  ·have:=h t (by simpa using fun e=>ht e.symm);simpa [Q9,Sl.put,Act.put,ht,Array.getElem?_setIfInBounds_ne (Ne.symm ht)] using this
theorem Qgk (a:Act) (dst:Option Nat) (val:Value):(a.put dst val).tmps.size=a.tmps.size:=by cases dst<;>simp [Act.put]
theorem Qeb (a:Act) (dst:Option Nat) (val:Value):(a.put dst val).defers=a.defers:=by cases dst<;>rfl
theorem Qfl {p:Nat→Prop} {s:Sl} {dst:Option Nat} {v:V} (h:∀ t,(s t).on p) (hv:v.on p):∀ t,(Q9 s dst v t).on p:=by
 intro t;cases dst with
 | none=>exact h t
 | some d =>
  simp only [Q9,Sl.put]
  grind
theorem SR.step {n0 nt:Nat} {g0 g' : G} {w0 w' : World} {σ:St} {a a' : Act} {s' : Sl} {M' : Mem} (h:SR n0 nt g0 w0 σ a w g)
  (hm:MR g' w' M' σ.nb) (hf:Fr n0 g w g' w') (hs:∀ t,RV g' w' (s' t) (.slot t []) (a'.tmps.getD t undef)) (hsz:a'.tmps.size=a.tmps.size) (hd:a'.defers=a.defers)
  (hon:∀ t,(s' t).on (There M')) (honM:MOn (There M') M') (hout:∀ k cs,M' k=some (.cells cs)→k<n0→V.ons (· < n0) cs) :
  SR n0 nt g0 w0 ⟨s',M',σ.nb⟩ a' w' g' where
 mem:=hm
 slots:=hs
 size:=hsz.trans h.size
 defers:=hd.trans h.defers
 onS:=hon
 onM:=fun k cs hk=>⟨honM k cs hk,hout k cs hk⟩
 top:=h.top
 fr:=h.fr.next (Nat.le_refl _) hf
theorem SR.mOn {n0 nt:Nat} {g0:G} {w0:World} {σ:St} {a:Act} (h:SR n0 nt g0 w0 σ a w g):MOn (There σ.M) σ.M:=fun k cs hk=>(h.onM k cs hk).1
theorem SR.out {n0 nt:Nat} {g0:G} {w0:World} {σ:St} {a:Act} (h:SR n0 nt g0 w0 σ a w g):∀ k cs,σ.M k=some (.cells cs)→k<n0→V.ons (· < n0) cs:=fun k cs hk hlt=>(h.onM k cs hk).2 hlt
theorem SR.pure {n0 nt:Nat} {g0:G} {w0:World} {σ:St} {a:Act} (h:SR n0 nt g0 w0 σ a w g) {dst:Option Nat} {v:V} {val:Value} (hd:∀ d,dst=some d→d<nt)
  (hv:∀ d,dst=some d→RV g w v (.slot d []) val) (hon:v.on (There σ.M)):SR n0 nt g0 w0 ⟨Q9 σ.s dst v,σ.M,σ.nb⟩ (a.put dst val) w g :=
 h.step h.mem (Fr.refl _ _ _) (Qfk (fun d hd'=>by rw [h.size];exact hd d hd') (fun t _=>h.slots t) hv) (Qgk _ _ _) (Qeb _ _ _) (Qfl h.onS hon) h.mOn h.out
theorem SR.alloc {n0 nt:Nat} {g0:G} {w0:World} {σ:St} {a:Act} (h:SR n0 nt g0 w0 σ a w g) {dst:Option Nat} {κ:Nat} {cs:List V} {us:List Value} {e:TypeId} {v:V} {val:Value} (hd:∀ d,dst=some d→d<nt)
  (hκ:n0≤κ) (hκ' : κ<σ.nb) (hfree:σ.M κ=none) (hcs:CR g w cs us) (hon:V.ons (There σ.M) cs) (hvon:v.on (There (σ.M.put κ (.cells cs))))
  (hv:∀ (g' : G) (w' : World),g'.box κ=w.heap.size→RF g' w' v val) :
  ∃ g',SR n0 nt g0 w0 ⟨Q9 σ.s dst v,σ.M.put κ (.cells cs),σ.nb⟩ (a.put dst val) (w.alloc (.cells us.toArray e)) g':=by
 let g' : G:={ box:=fun k=>if k=κ then w.heap.size else g.box k,imm:=g.imm,own:=fun b=>if b=w.heap.size then .box κ else g.own b };have hkept:Kept g w g' (w.alloc (.cells us.toArray e)) (There σ.M) (fun _=>True):=by
  refine ⟨⟨fun _ _ hb=>hb,fun b o hb=>?_⟩,fun k hk=>?_,fun b _ hb=>⟨?_,?_,fun _=>Iff.rfl⟩⟩
  ·exact Qet (RowKit.Below.heap_alloc w _ b (h.mem.imm b o hb).1)
  ·have:k≠κ:=by rintro rfl;simp [There,hfree] at hk
   simp [g',this]
  all_goals grind [Go.RowKit.Below.heap_alloc]
 have hslots:∀ t,RV g' (w.alloc (.cells us.toArray e)) (σ.s t) (.slot t []) (a.tmps.getD t undef):=fun t =>
  Qdc hkept (fun _ _ h=>h) trivial _ _ _ trivial (h.onS t) (h.slots t)
 have himm:∀ b o,g'.imm b o→b<(w.alloc (.cells us.toArray e)).heap.size∧∀ k,g'.own b ≠ .box k:=by
  intro b o hb;obtain ⟨h1,h2⟩:=h.mem.imm b o hb
  grind [Go.World.size_alloc]
 have hm:=h.mem.kept hkept h.mOn (fun _ _ h=>h) trivial (fun _ _=>trivial) himm;have hmon:∀ k,There σ.M k→There (σ.M.put κ (.cells cs)) k:=fun k hk=>hk.put;refine ⟨g',h.step ?_ ?_ (Qfk (fun d hd'=>by rw [h.size];exact hd d hd') (fun t _=>hslots t) (fun d _=>hv g' _ (by simp [g']) _)) (Qgk _ _ _) (Qeb _ _ _) (Qfl (fun t=>Qfj hmon _ (h.onS t)) hvon) ?_ ?_⟩
 ·refine ⟨fun k b hk=>?_,himm⟩;simp only [Mem.put] at hk;split at hk
  ·rename_i heq;subst heq;cases hk;refine ⟨hκ',by simp [g'],us,e,?_,?_,hcs.one⟩
   ·simp only [g',if_true];exact heap_alloc_new w _
   ·refine (Qcr _ _ _ _).2 ⟨hcs.len,fun j c u hc hu=>?_⟩;have hf:=hcs.rf j c u hc hu;exact Qdc hkept (fun _ _ h=>h) trivial c _ u trivial (Qfa hon hc) (hf _)
  ·exact hm.box k b hk
 ·exact ⟨rfl,rfl,rfl,by simp,hkept.imm,fun k hk=>(by
   grind),fun b hb _=>hkept.own b trivial hb⟩
 ·intro k cs' hk;simp only [Mem.put] at hk;split at hk
  ·cases hk;exact ons_mono hmon _ hon
  ·exact ons_mono hmon _ (h.mOn k cs' hk)
 ·intro k cs' hk hlt;simp only [Mem.put] at hk;rw [if_neg (by omega)] at hk;exact h.out k cs' hk hlt
end
end Go.Abs
end
section
namespace Go.Abs
open Go
section
variable (P:Program) {g:G} {w:World} {n0 nt:Nat} {g0:G} {w0:World} {σ:St} {a:Act}
theorem Qbjg (h:SR n0 nt g0 w0 σ a w g) {dst:Option Nat} (hd:∀ d,dst=some d→d<nt) (e:TypeId) {x v:V} {u:Value} {κ n:Nat} {M' : Mem} (hκ:n0≤κ) (hκ' : κ<σ.nb)
  (hf:Flat x) (hx:RF g w x u) (hon:x.on (There σ.M)) (hs:Qh n0 κ (.box n) [x] σ.M=some (v,M')) :
  ∃ val w' g',(Instr.box e u).run P w = .ok val w'∧SR n0 nt g0 w0 ⟨Q9 σ.s dst v,M',σ.nb⟩ (a.put dst val) w' g':=by
 have key:Qd5 x=true∧σ.M κ=none∧v = .ptr κ 0∧M'=σ.M.put κ (.cells x.cells):=by
  simp only [Qh] at hs;split at hs<;>try (cases hs;done)
  rename_i h1 h2;split at hs<;>try (cases hs;done)
  rename_i hc;simp only [Bool.and_eq_true,decide_eq_true_eq,Option.isNone_iff_eq_none] at hc;cases hs;refine ⟨?_,hc.2,rfl,rfl⟩;cases x<;>simp_all [Qd5]
 obtain ⟨hok,hfree,rfl,rfl⟩:=key;obtain ⟨k1,k2,k3⟩:=Q6c hf hx hok;obtain ⟨g',hsr⟩:=h.alloc (dst:=dst) (v:=.ptr κ 0) (val:=.pointer (some ⟨w.heap.size,0,none⟩)) (e:=e) hd hκ hκ' hfree ⟨k1,k2,k3⟩ (Qm8 hon) There.self
  (fun g' w' hg=>Qqk.2 (by rw [hg]))
 exact ⟨.pointer (some ⟨w.heap.size,0,none⟩),w.alloc (.cells u.cells e),g',by simp [Instr.box,newVar,newRow],by simpa using hsr⟩
theorem Qbf2 (h:SR n0 nt g0 w0 σ a w g) {dst:Option Nat} (hd:∀ d,dst=some d→d<nt) (e:TypeId) {z:List V} (hz:Qq7 P e=some z) {v:V} {κ:Nat} {M' : Mem} (hκ:n0≤κ) (hκ' : κ<σ.nb)
  (hs:Qh n0 κ (.alloc z) [] σ.M=some (v,M')) :
  ∃ val w' g',(Instr.alloc e true (.tuple #[])).run P w = .ok val w'∧SR n0 nt g0 w0 ⟨Q9 σ.s dst v,M',σ.nb⟩ (a.put dst val) w' g':=by
 obtain ⟨i,zv,hi,hzv,hcz,hlt⟩:=Qjd P hz;simp only [Qh] at hs;split at hs<;>try (cases hs;done)
 rename_i hfree;simp only [Option.isNone_iff_eq_none] at hfree;cases hs;obtain ⟨g',hsr⟩:=h.alloc (dst:=dst) (v:=.ptr κ 0) (val:=.pointer (some ⟨w.heap.size,0,none⟩)) (e:=e) hd hκ hκ' hfree (hcz g w) (ons_mono (by simp) z (ons_lt (n:=0) z (hlt 0))) There.self
  (fun g' w' hg=>Qqk.2 (by rw [hg]))
 exact ⟨.pointer (some ⟨w.heap.size,0,none⟩),w.alloc (.cells zv.cells e),g',by simp [Instr.alloc,Qoc P hi hzv,newVar,newRow],by simpa using hsr⟩
theorem Q2w (z:List Value) (hz:0<z.length):∀ (n j:Nat),j<n*z.length→(List.replicate n z).flatten[j]? = z[j % z.length]?
 | 0,j,h=>by simp at h
 | n+1,j,h=>by
  simp only [List.replicate_succ,List.flatten_cons];rcases Nat.lt_or_ge j z.length with hlt|hge
  ·rw [List.getElem?_append_left hlt,Nat.mod_eq_of_lt hlt]
  ·rw [List.getElem?_append_right hge,Q2w z hz n (j-z.length) (by rw [Nat.add_mul] at h;omega)];congr 1
   conv=>rhs;rw [← Nat.sub_add_cancel hge,Nat.add_mod_right]
theorem Qoe (z:Array Value) (hz:0<z.size) (n:Nat):madeCells z (n*z.size)=(List.replicate n z.toList).flatten.toArray:=by
 apply Array.ext';apply List.ext_getElem?;intro j;rcases Nat.lt_or_ge j (n*z.size) with hlt|hge
 ·grind [Q2w,Nat.mod_lt,Go.madeCells]
 simp_all [List.getElem?_eq_none,Go.madeCells]
theorem Qbf3 (h:SR n0 nt g0 w0 σ a w g) {dst:Option Nat} (hd:∀ d,dst=some d→d<nt) (t e:TypeId) (ht:P.underlying t=some (.slice e)) {z:List V} (hz:Qq7 P e=some z)
  {x y v:V} {u q:Value} {κ:Nat} {M' : Mem} (hκ:n0≤κ) (hκ' : κ<σ.nb) (hx:RF g w x u) (hy:RF g w y q)
  (hs:Qh n0 κ (.makes (P.cellsOf e) (P.bytesOf e) z) [x,y] σ.M=some (v,M')) :
  ∃ val w' g',(Instr.makeSlice t u q).run P w = .ok val w'∧SR n0 nt g0 w0 ⟨Q9 σ.s dst v,M',σ.nb⟩ (a.put dst val) w' g':=by
 obtain ⟨i,zv,hi,hzv,hcz,hlt⟩:=Qjd P hz
 match x,y,hs with
 | .d (.int .i64 l),.d (.int .i64 c),hs =>
  simp only [Qh] at hs;split at hs<;>try (cases hs;done)
  rename_i hc;simp only [Bool.and_eq_true,decide_eq_true_eq,beq_iff_eq,Option.isNone_iff_eq_none] at hc;obtain ⟨⟨⟨⟨⟨⟨h0,hlc⟩,hlim⟩,hby⟩,hzl⟩,hsz⟩,hfree⟩:=hc;cases hs;have hcl:=(hcz g w).len;have hzs:zv.cells.size=P.cellsOf e:=by grind
  have hbi:P.bytesOf e=i.bytes:=by simp [Program.bytesOf,hi]
  have hbytes:(i.bytes:Int)*c≤281474976710656:=by
   have h1:(i.bytes:Int)≤128:=by omega
   have h2:c≤1099511627776:=by simpa [lim] using hlim
   have h3:(i.bytes:Int)*c≤128*c:=Int.mul_le_mul_of_nonneg_right h1 (by omega);omega
  have hrun:=run_make (P:=P) w t e i zv ht hi hzv .i64 .i64 l c h0 hlc hbytes (by simp only [lim] at hlim;omega);rw [← Qe2 P hi,← hzs,Qoe zv.cells (by omega)] at hrun;rw [Qox hx,Qox hy];obtain ⟨g',hsr⟩:=h.alloc (dst:=dst) (v:=.sl (P.cellsOf e) κ 0 l.toNat c.toNat) (val:=.slice (some ⟨w.heap.size,0,none⟩) l.toNat c.toNat) (e:=e) hd hκ hκ' hfree (CR.rep (hcz g w) c.toNat)
   (Q2v (ons_mono (by simp) z (ons_lt (n:=0) z (hlt 0))) _) There.self (fun g' w' hg=>Q4l.2 (by rw [hg]))
  grind
theorem Qbc6 (h:SR n0 nt g0 w0 σ a w g) {dst:Option Nat} (hd:∀ d,dst=some d→d<nt) (t e:TypeId) (ht:P.underlying t=some (.slice e)) {z:List V} (hz:Qq7 P e=some z) (n:Nat) (hn:n*P.cellsOf e≤65536) (is:List Nat)
  {xs:List V} {us:List Value} {v:V} {κ:Nat} {M' : Mem} (hκ:n0≤κ) (hκ' : κ<σ.nb) (hfl:∀ x∈xs,Flat x) (hx:RFs g w xs us) (hon:V.ons (There σ.M) xs)
  (hs:Qh n0 κ (.bslice (P.cellsOf e) n z is) xs σ.M=some (v,M')) :
  ∃ val w' g',(Instr.buildSlice t n (is.zip us).toArray).run P w = .ok val w'∧SR n0 nt g0 w0 ⟨Q9 σ.s dst v,M',σ.nb⟩ (a.put dst val) w' g':=by
 obtain ⟨i,zv,hi,hzv,hcz,hlt⟩:=Qjd P hz;have hs' : (if is.length=xs.length&&decide (0<P.cellsOf e)&&z.length==P.cellsOf e&&(is.zip xs).all (fun (i,x)=>Qd5 x&&x.cells.length==P.cellsOf e&&decide (i<n))&&(σ.M κ).isNone
   then some (V.sl (P.cellsOf e) κ 0 n n,σ.M.put κ (.cells (Qh9 (rep n z) ((is.zip xs).map fun (i,x)=>(i*P.cellsOf e,x.cells))))) else none)=some (v,M'):=by cases xs<;>exact hs
 split at hs'<;>try (cases hs';done)
 rename_i hc;simp only [Bool.and_eq_true,decide_eq_true_eq,beq_iff_eq,Option.isNone_iff_eq_none,List.all_eq_true] at hc;obtain ⟨⟨⟨⟨hil,hsz⟩,hzl⟩,hall⟩,hfree⟩:=hc;cases hs';have hcl:=(hcz g w).len;have hzs:zv.cells.size=P.cellsOf e:=by grind
 have hrep:(rep n z).length=n*P.cellsOf e:=by simp [rep,hzl]
 have hcrep:=CR.rep (hcz g w) n;obtain ⟨out,hfill,hcr⟩:=Qry (g:=g) (w:=w) (fun i=>some (i*P.cellsOf e,P.cellsOf e)) (rep n z) _ hcrep is (is.map (· * P.cellsOf e)) (is.map fun _=>P.cellsOf e) xs us hx hfl hil (by simp [hil]) (by simp [hil])
  (fun j x i o s hxj hij hoj hsj=>by
   simp only [List.getElem?_map,Option.map_eq_some_iff] at hoj hsj;obtain ⟨p,hp,rfl⟩:=hoj;obtain ⟨p',hp',rfl⟩:=hsj;rw [hij] at hp;cases hp;have:=hall (i,x) (List.mem_of_getElem? (i:=j) (by grind));simp only [Bool.and_eq_true,beq_iff_eq,decide_eq_true_eq] at this;refine ⟨this.1.1,this.1.2,?_,rfl⟩;rw [hrep]
   calc i*P.cellsOf e+P.cellsOf e=(i+1)*P.cellsOf e:=by rw [Nat.add_mul];omega
    _≤n*P.cellsOf e:=Nat.mul_le_mul_right _ this.2)
 have hons:V.ons (There σ.M) (Qh9 (rep n z) ((is.zip xs).map fun (i,x)=>(i*P.cellsOf e,x.cells))):=by
  refine Qy4 _ _ (Q2v (ons_mono (by simp) z (ons_lt (n:=0) z (hlt 0))) n) fun q hq=>?_;simp only [List.mem_map] at hq;obtain ⟨⟨p,x⟩,hm,rfl⟩:=hq;exact Qm8 (Qhz.1 hon x (Qx3 hm))
 have e1:((is.map (· * P.cellsOf e)).zip xs).map (fun p=>(p.1,p.2.cells))=(is.zip xs).map fun (i,x)=>(i*P.cellsOf e,x.cells):=by
  rw [List.zip_map_left,List.map_map];rfl
 rw [e1] at hcr;obtain ⟨g',hsr⟩:=h.alloc (dst:=dst) (v:=.sl (P.cellsOf e) κ 0 n n) (val:=.slice (some ⟨w.heap.size,0,none⟩) n n) (e:=e) hd hκ hκ' hfree hcr hons There.self (fun g' w' hg=>Q4l.2 (by rw [hg]));refine ⟨_,_,g',?_,hsr⟩;have hm:=Qoe zv.cells (by omega) n;rw [hzs] at hm;unfold madeCells at hm;have hnb:¬ (16777216<n*P.cellsOf e):=by omega
 have hso:∀ w,(sizeOf e).run P w = .ok (P.cellsOf e) w:=fun w=>by rw [Qgw P hi,Qe2 P hi]
 by_cases hn0:n*P.cellsOf e=0
 ·have:n=0:=by
   grind [Nat.mul_eq_zero]
  simp_all [absurd,List.replicate_zero,List.flatten_nil,List.zip_nil_left,Go.Instr.fill,Option.some.injEq,Go.Instr.buildSlice,Go.run_underlying,Go.newRow,Qoc,Go.Array.range_zero']
 ·rw [← hm] at hfill;rw [hzs] at hfill;simp [Instr.buildSlice,run_underlying ht,hso,Qoc P hi hzv,hnb,hn0,hzs,hfill,newRow]
end
end Go.Abs
end
section
namespace Go.Abs
open Go
section
variable (P:Program) {g:G} {w:World} {n0 nt:Nat} {g0:G} {w0:World} {σ:St} {a:Act}
theorem Qwu {v:V} (h:∀ sz l,v ≠ .own sz l):v.top=v.dem:=by
 cases v<;>first|rfl|exact absurd rfl (h _ _)
theorem Qx4 (hm:MR g w σ.M σ.nb) {k:Nat} {cs:List V} (hk:σ.M k=some (.cells cs)) (new:Array Value) :
  Kept g w g (w.setRow (g.box k) new) (There σ.M) (fun o=>o ≠ .box k):=by
 obtain ⟨_,hb,_⟩:=hm.box k _ hk;refine ⟨⟨fun _ _ h=>h,fun b o hbo=>?_⟩,fun _ _=>rfl,fun b hbk hlt=>⟨rfl,?_,fun _=>Iff.rfl⟩⟩
 ·have:b≠g.box k:=by rintro rfl;exact (hm.imm _ _ hbo).2 k hb
  exact Qet (setRow_other w _ _ _ this)
 ·have:b≠g.box k:=by rintro rfl;exact hbk hb
  exact setRow_other w _ _ _ this
theorem Qmk {o:Owner} {i k:Nat} (h:o ≠ .box k):o.sub i ≠ .box k:=by
 cases o<;>simp_all [Owner.sub]
theorem SR.row (h:SR n0 nt g0 w0 σ a w g) {k:Nat} {cs new:List V} {us vals:List Value} {e:TypeId} {f:Owner→Owner} (hbox:∀ o j,f o = .box j↔o = .box j) (hfree:∀ o,Prot o→f o=o) (hk:σ.M k=some (.cells cs))
  (hh:w.heap[g.box k]? = some (.cells vals.toArray e (0,0))) (hnew:RVs (g.re f) (w.setRow (g.box k) us.toArray) new (.box k) 0 us) (h1:∀ u∈us,u.oneCell'=true)
  {s' : Sl} {a' : Act} (hs:∀ t,RV (g.re f) (w.setRow (g.box k) us.toArray) (s' t) (.slot t []) (a'.tmps.getD t undef)) (hsz:a'.tmps.size=a.tmps.size) (hd:a'.defers=a.defers)
  (hons:∀ t,(s' t).on (There σ.M)) (honn:V.ons (There σ.M) new) (hout:k<n0→V.ons (· < n0) new) (hoth:∀ j cs',j≠k→σ.M j=some (.cells cs')→∀ i c u,cs'[i]? = some c→RV g w c (.cell j i) u→RV (g.re f) w c (.cell j i) u) (hothm:∀ j i sz l u,RV g w (.own sz l) (.cell j i) u→RV (g.re f) w (.own sz l) (.cell j i) u) :
  SR n0 nt g0 w0 ⟨s',σ.M.put k (.cells new),σ.nb⟩ a' (w.setRow (g.box k) us.toArray) (g.re f):=by
 obtain ⟨hltnb,hb,_⟩:=h.mem.box k _ hk;have hkept:=Qx4 (g:=g) (w:=w) h.mem hk us.toArray;have hkept2:Kept (g.re f) w (g.re f) (w.setRow (g.box k) us.toArray) (There σ.M) (fun o=>o ≠ .box k) :=
  ⟨hkept.imm,fun _ _=>rfl,fun b hbk hlt=>⟨rfl,(hkept.own b (fun e=>hbk (by
   show f (g.own b)=_
   grind)) hlt).2.1,fun _=>Iff.rfl⟩⟩
 have hthere:∀ j,There σ.M j→There (σ.M.put k (.cells new)) j:=fun j hj=>hj.put;refine h.step ?_ ?_ hs hsz hd (fun t=>Qfj hthere _ (hons t)) ?_ ?_
 ·refine ⟨fun j b hj=>?_,fun b o hbo=>?_⟩
  ·simp only [Mem.put] at hj;split at hj
   ·rename_i he;subst he;cases hj;refine ⟨hltnb,(hbox _ _).2 hb,us,e,setRow_heap w _ _ _ e _ hh,hnew,h1⟩
   ·rename_i hne;obtain ⟨k1,k2,k3⟩:=h.mem.box j b hj;refine ⟨k1,(hbox _ _).2 k2,?_⟩;cases b with
    | mp es c =>
     obtain ⟨ents,hh',hr'⟩:=k3;have hbj:g.box j≠g.box k:=by
      grind
     exact ⟨ents,(setRow_other w _ _ _ hbj).trans hh',Qkq (g:=g.re f) hkept2 (fun _=>by simp) (Qbcy (g:=g) (g':=g.re f) (Imm.refl _ _) (fun sz l i u hv=>hothm j i sz l u hv) hr')⟩
    | cells cs' =>
     obtain ⟨vs,e',hh',hr',ho'⟩:=k3;have hbj:g.box j≠g.box k:=by
      grind
     refine ⟨vs,e',(setRow_other w _ _ _ hbj).trans hh',(Qcr _ _ _ _).2 ⟨Qor hr',fun i c u hc hu=>?_⟩,ho'⟩;have hru:=((Qcr _ _ _ _).1 hr').2 i c u hc hu;have h2:=hoth j cs' hne hj i c u hc (by simpa [Owner.sub] using hru);have hkept' : Kept (g.re f) w (g.re f) (w.setRow (g.box k) us.toArray) (There σ.M) (fun o=>o ≠ .box k) :=
      ⟨hkept.imm,fun _ _=>rfl,fun b hbk hlt=>⟨rfl,(hkept.own b (fun e=>hbk ((hbox _ _).2 e)) hlt).2.1,fun _=>Iff.rfl⟩⟩
     have:=Qdc hkept' (fun _ i h=>Qmk h) (by simp) c (.cell j i) u (by simp) (Qfa (h.mOn j cs' hj) hc) h2;simpa [Owner.sub] using this
  ·obtain ⟨h3,h4⟩:=h.mem.imm b o hbo;refine ⟨by rw [setRow_size];exact h3,fun j e=>h4 j ((hbox _ _).1 e)⟩
 ·refine ⟨rfl,rfl,rfl,by simp,hkept.imm,fun _ _=>rfl,fun b hb' ho=>?_⟩;have hne:g.own b ≠ .box k:=by intro e;rw [e] at ho;exact ho
  exact ⟨hfree _ ho,(hkept.own b hne hb').2.1,fun _=>Iff.rfl⟩
 ·intro j cs' hj;simp only [Mem.put] at hj;split at hj
  ·grind [ons_mono]
  ·exact ons_mono hthere _ (h.mOn j cs' hj)
 ·intro j cs' hj hlt;simp only [Mem.put] at hj;split at hj
  ·grind
  ·exact h.out j cs' hj hlt
theorem Qk0 {α:Type} (a:List α) (b:List α) (off n:Nat) (hb:b.length=n) (hle:off+n≤a.length) (i:Nat) :
  (a.take off++b++a.drop (off+n))[i]? = if i<off then a[i]? else if i<off+n then b[i-off]? else a[i]?:=by
 grind
theorem Qbam (h:SR n0 nt g0 w0 σ a w g) (t:TypeId) {d:TypeDesc} (hd:P.underlying t=some d) {p v r:V} {up uv:Value} {κ:Nat} {M' : Mem}
  (hp:RF g w p up) (hpon:p.on (There σ.M)) (hvon:v.on (There σ.M)) (tk:Option Nat) (hv:match tk with|none=>RF g w v uv∧Flat v|some t0=>v=σ.s t0∧uv=a.tmps.getD t0 undef)
  (hs:Qh n0 κ (.store (P.cellsOf t)) [p,v] σ.M=some (r,M')) :
  ∃ w' g',(Instr.storeAt t up uv).run P w = .ok () w'∧SR n0 nt g0 w0 ⟨(match tk with|none=>σ.s|some t0=>σ.s.put t0 v.dem),M',σ.nb⟩ a w' g':=by
 have key:∃ k off cs,p = .ptr k off∧Qd5 v=true∧σ.M k=some (.cells cs)∧v.topS.cells.length=P.cellsOf t∧off+P.cellsOf t≤cs.length∧(n0≤k∨v.lt n0=true) ∧
   M'=σ.M.put k (.cells (cs.take off++v.topS.cells++cs.drop (off+P.cellsOf t))):=by
  cases p<;>try (simp [Qh] at hs;done)
  rename_i k off;simp only [Qh] at hs;split at hs<;>try (cases hs;done)
  rename_i h1 h2;split at hs<;>try (cases hs;done)
  rename_i cs hk;split at hs<;>try (cases hs;done)
  rename_i hc;simp only [Bool.and_eq_true,decide_eq_true_eq,Bool.or_eq_true] at hc;cases hs;refine ⟨k,off,cs,rfl,?_,hk,hc.1.1,hc.1.2,hc.2,rfl⟩;cases v<;>simp_all [Qd5]
 obtain ⟨k,off,cs,rfl,hok,hk,hlen,hle,hsc,rfl⟩:=key;rw [Qqk] at hp;subst hp;obtain ⟨hkb,hbo,vals,e,hh,hr,h1⟩:=h.mem.box k _ hk;obtain ⟨hvl,hrv⟩:=(Qcr _ _ _ _).1 hr;obtain ⟨i,hi⟩:=Qip P hd;have main:∀ (f:Owner→Owner) (ncs:List V) (nus:List Value) (s' : Sl),(∀ o j,f o = .box j↔o = .box j)→(∀ o,Prot o→f o=o) →
   v.topS.cells=ncs→uv.cells.toList=nus→nus.length=ncs.length→(∀ u∈nus,u.oneCell'=true) →
   (∀ (j:Nat) c u,ncs[j]? = some c→nus[j]? = some u→RV (g.re f) w c (.cell k (off+j)) u) →
   (∀ j i c u,c.on (There σ.M)→RV g w c (.cell j i) u→RV (g.re f) w c (.cell j i) u) →
   (∀ t,RV (g.re f) w (s' t) (.slot t []) (a.tmps.getD t undef))→(∀ t,(s' t).on (There σ.M)) →
   ∃ w' g',(Instr.storeAt t (.pointer (some ⟨g.box k,off,none⟩)) uv).run P w = .ok () w'∧SR n0 nt g0 w0 ⟨s',σ.M.put k (.cells (cs.take off++ncs++cs.drop (off+P.cellsOf t))),σ.nb⟩ a w' g':=by
  intro f ncs nus s' hbj hfr hncs hnus hnl hn1 hnr hoth hs' hons';have hnlen:ncs.length=P.cellsOf t:=by grind
  have hst:=run_storeCells_at (P:=P) (g.box k) off e nus 0 vals.toArray w hh (by simp;omega) hn1;simp only [Nat.add_zero] at hst;have hrow:(vals.toArray.toList.take off++nus++vals.toArray.toList.drop (off+nus.length))=vals.take off++nus++vals.drop (off+P.cellsOf t):=by rw [hnl,hnlen]
  rw [hrow] at hst;have hkept:=Qx4 (g:=g) (w:=w) h.mem hk (vals.take off++nus++vals.drop (off+P.cellsOf t)).toArray;have hboxk:f (.box k) = .box k:=(hbj _ k).2 rfl;have hkept' : Kept (g.re f) w (g.re f) (w.setRow (g.box k) (vals.take off++nus++vals.drop (off+P.cellsOf t)).toArray) (There σ.M) (fun o=>o ≠ .box k) :=
   ⟨hkept.imm,fun _ _=>rfl,fun b hbk hlt=>⟨rfl,(hkept.own b (fun e=>hbk (by
    show f (g.own b)=_;rw [e];exact hboxk)) hlt).2.1,fun _=>Iff.rfl⟩⟩
  have hmono:∀ c ℓ u,ℓ ≠ .box k→c.on (There σ.M)→RV (g.re f) w c ℓ u→RV (g.re f) (w.setRow (g.box k) (vals.take off++nus++vals.drop (off+P.cellsOf t)).toArray) c ℓ u :=
   fun c ℓ u hℓ hc hv=>Qdc hkept' (fun _ i h=>Qmk h) (by simp) c ℓ u hℓ hc hv
  have honn:V.ons (There σ.M) ncs:=by grind [Qm8,Q9g]
  refine ⟨_,g.re f,?_,SR.row h hbj hfr hk hh ((Qcr _ _ _ _).2 ⟨by simp [hvl,hnl],fun j c u hc hu=>?_⟩) (fun u hu=>?_) (fun t=>hmono _ _ _ (by simp) (hons' t) (hs' t)) rfl rfl hons' ?_ (fun hlt=>?_) (fun j cs' _ hj i c u hc hru=>hoth j i c u (Qfa (h.mOn j cs' hj) hc) hru) (fun j i sz l u hv=>hoth j i (.own sz l) u trivial hv)⟩
  ·have hcs:uv.cells.size=P.cellsOf t:=by grind
   simp_all [Go.Instr.storeAt,Go.Instr.sureAddr,Go.storeVar,Go.Sem.run_bind,Go.Sem.run_pure,Go.Result.andThen_ok,Qgw,Qe2]
  ·rw [Qk0 cs ncs off _ hnlen hle] at hc;rw [Qk0 vals nus off _ (by omega) (by omega)] at hu;simp only [Nat.zero_add,Owner.sub];split at hc
   ·rename_i hlt;rw [if_pos hlt] at hu;exact hmono _ _ _ (by simp) (Qfa (h.mOn k cs hk) hc) (hoth k j c u (Qfa (h.mOn k cs hk) hc) (by grind [Owner.sub]))
   ·rename_i hge;rw [if_neg hge] at hu;split at hc
    ·rename_i hlt;rw [if_pos hlt] at hu
     grind [Qfa]
    ·rename_i hge2;rw [if_neg hge2] at hu;exact hmono _ _ _ (by simp) (Qfa (h.mOn k cs hk) hc) (hoth k j c u (Qfa (h.mOn k cs hk) hc) (by grind [Owner.sub]))
  ·grind
  ·exact Qe3.2 ⟨Qe3.2 ⟨Qm1 _ (h.mOn k cs hk),honn⟩,Qm2 _ (h.mOn k cs hk)⟩
  ·have hvlt:v.lt n0=true:=by
    grind
   have:=(Q9g (p:=(· < n0)) v).2 (Qbfv v hvlt);have hc':=Qm8 this;rw [hncs] at hc';exact Qe3.2 ⟨Qe3.2 ⟨Qm1 _ (h.out k cs hk hlt),hc'⟩,Qm2 _ (h.out k cs hk hlt)⟩
 have flatcase:v.topS=v.dem→RF g w v.dem uv→(∀ t,RV g w ((match tk with|none=>σ.s|some t0=>σ.s.put t0 v.dem) t) (.slot t []) (a.tmps.getD t undef))→(∀ t,((match tk with|none=>σ.s|some t0=>σ.s.put t0 v.dem) t).on (There σ.M)) →
   ∃ w' g',(Instr.storeAt t (.pointer (some ⟨g.box k,off,none⟩)) uv).run P w = .ok () w'∧SR n0 nt g0 w0 ⟨(match tk with|none=>σ.s|some t0=>σ.s.put t0 v.dem),σ.M.put k (.cells (cs.take off++v.topS.cells++cs.drop (off+P.cellsOf t))),σ.nb⟩ a w' g':=by
  intro hno hrf hsl hsl';have hok' : Qd5 v.dem=true:=by cases v<;>simp_all [Qd5,V.dem]
  obtain ⟨k1,k2,k3⟩:=Q6c (Qdu v) hrf hok';have hm:=main id v.dem.cells uv.cells.toList;rw [hno] at hm ⊢;exact hm _ (fun _ _=>Iff.rfl) (fun _ _=>rfl) rfl rfl k1 k3 (fun j c u hc hu=>k2 j c u hc hu _) (fun j i c u _ hv=>hv) hsl hsl'
 cases tk with
 | none =>
  obtain ⟨hrf,hfl⟩:=hv;refine flatcase (by rw [Q7f hfl];exact hfl.symm) (by rw [hfl];exact hrf) h.slots h.onS
 | some t0 =>
  obtain ⟨hvs,huv⟩:=hv;have hslot:=h.slots t0;rw [← hvs,← huv] at hslot;have hput:∀ (f:Owner→Owner),RV (g.re f) w v.dem (.slot t0 []) uv→(∀ t,t≠t0→RV (g.re f) w (σ.s t) (.slot t []) (a.tmps.getD t undef))→∀ t,RV (g.re f) w (σ.s.put t0 v.dem t) (.slot t []) (a.tmps.getD t undef):=by
   grind [Sl.put]
  have hon' : ∀ t,(σ.s.put t0 v.dem t).on (There σ.M):=by
   intro t;simp only [Sl.put];split
   ·exact (Qdt v).2 hvon
   ·exact h.onS t
  by_cases hown:∃ sz l,v = .own sz l
  ·obtain ⟨sz,l,rfl⟩:=hown;have hkx:=Kept.ex g w (.slot t0 []) (.cell k off) (There σ.M);have hsub:∀ (ℓ:Owner) (i:Nat),ℓ ≠ .slot t0 []→ℓ.sub i ≠ .slot t0 []:=by
    intro ℓ i hne;cases ℓ<;>simp_all [Owner.sub]
   have hcells:(V.own sz l).topS.cells=[.own sz l]:=rfl;have huc:uv.cells.toList=[uv]:=by
    have:=Qj0 hslot;simp only [RD] at this;obtain ⟨a,cap,rfl,_⟩:=this;rfl
   refine main (ex (.slot t0 []) (.cell k off)) [.own sz l] [uv] _ (fun o j=>?_) (fun o ho=>?_) hcells huc rfl (fun u hu=>?_) (fun j c u hc hu=>?_) (fun j i c u hc hv=>Qdc hkx hsub (by simp) c _ u (by simp) hc hv) (hput _ ?_ ?_) hon'
   ·unfold ex;grind
   ·unfold ex;rw [if_neg];rintro rfl;exact ho
   ·simp at hu;subst hu;exact Q0i (Qj0 hslot)
   ·grind [Q41]
   ·exact Qkz (hkx.weaken (fun _ h=>h) (by rintro o rfl;simp)) (Qdu _) ((Qdt _).2 hvon) (Qhn _ _ (.slot t0 []) _ hslot)
   ·intro t hne;exact Qdc hkx hsub (by simp) _ _ _ (by simp [hne]) (h.onS t) (h.slots t)
  ·by_cases hagg:∃ cs2,v = .agg cs2
   ·obtain ⟨cs2,rfl⟩:=hagg;obtain ⟨f,hfo,hfs,hf1,hfb⟩ : ∃ f:Owner→Owner,(∀ o,(∀ t p,o ≠ .slot t p)→f o=o)∧(∀ t p,t≠t0→f (.slot t p) = .slot t p)∧(∀ j,f (.slot t0 [j]) = .cell k (off+j))∧∀ o j,f o = .box j↔o = .box j:=by
     refine ⟨fun o=>match o with
      | .slot t [j]=>if t=t0 then .cell k (off+j) else o
      | o=>o,fun o ho=>?_,fun t p hne=>?_,fun j=>by simp,fun o j=>?_⟩
     ·grind
     all_goals grind
    have hkx:=Kept.re g w f (There σ.M);simp only [RV] at hslot;obtain ⟨vs2,huvs,hrs,hone⟩:=hslot;obtain ⟨hvl2,hrv2⟩:=(Qcr _ _ _ _).1 hrs;have honv:V.ons (There σ.M) cs2:=hvon;have hcell:Kept g w (g.re f) w (There σ.M) (fun o=>(∃ k c,o = .cell k c)∨o = .ext) :=
     hkx.weaken (fun _ h=>h) (by grind)
    have hslt:∀ t,t≠t0→Kept g w (g.re f) w (There σ.M) (fun o=>(∃ q,o = .slot t q)∨o = .ext):=by
     intro t hne;refine hkx.weaken (fun _ h=>h) ?_
     grind
    have hflat:∀ {c:V} {ℓ ℓ' : Owner} {u:Value},c.on (There σ.M)→RV g w c ℓ u→RV (g.re f) w c.dem ℓ' u :=
     fun {c ℓ ℓ' u} hon hv=>Qkz (hkx.weaken (fun _ h=>h) (by grind)) (Qdu _) ((Qdt _).2 hon) (Qhn _ _ ℓ _ hv)
    refine main f (own1 cs2) vs2 _ hfb (fun o ho=>hfo o fun t p e=>by rw [e] at ho;exact ho) rfl (by rw [huvs];rfl) (by rw [Qy2,List.length_map];exact hvl2) hone (fun j c u hc hu=>?_) (fun j i c u hc hv=>?_) (hput _ ?_ ?_) hon'
    ·rw [Qy2,List.getElem?_map,Option.map_eq_some_iff] at hc;obtain ⟨c',hc',rfl⟩:=hc;have hr:=hrv2 j c' u hc' hu;by_cases ho:∃ sz l,c' = .own sz l
     ·obtain ⟨sz,l,rfl⟩:=ho;exact Qbg5 (by simpa [Owner.sub] using hr) (hf1 j)
     grind [Qwu,Qfa]
    ·refine Qdc hcell ?_ (.inr rfl) c _ u (.inl ⟨j,i,rfl⟩) hc hv;rintro ℓ i (⟨k,c,rfl⟩|rfl)
     ·exact .inl ⟨k,c,rfl⟩
     ·exact .inr rfl
    ·exact hflat hvon (show RV g w (.agg cs2) (.slot t0 []) uv by grind [RV])
    ·intro t hne;refine Qdc (hslt t hne) ?_ (.inr rfl) _ _ _ (.inl ⟨[],rfl⟩) (h.onS t) (h.slots t);rintro ℓ i' (⟨q,rfl⟩|rfl)
     ·exact .inl ⟨i'::q,rfl⟩
     ·exact .inr rfl
   have hrf:RF g w v.dem uv:=Qu8 hslot;have hno:v.topS=v.dem:=by
    cases v<;>first|rfl|grind|grind
   exact flatcase hno hrf (hput id (by have:=hrf (.slot t0 []);exact this) (fun t _=>h.slots t)) hon'
end
end Go.Abs
end
section
namespace Go.Abs
open Go
section
variable (P:Program) {g:G} {w:World} {n0 nt:Nat} {g0:G} {w0:World} {σ:St} {a:Act}
theorem Qkr {o:Owner} {i t:Nat} (h:o ≠ .slot t []):o.sub i ≠ .slot t []:=by cases o<;>simp_all [Owner.sub]
structure Src (g:G) (w:World) (sz:Nat) (ys:List (List D)) (u:Value) (us:List Value):Prop where
 len:us.length=ys.length*sz
 shape:∃ ad c,u = .slice ad ys.length c∧((ys=[]∧True)∨∃ b o,ad=some ⟨b,o,none⟩∧∀ j x,us[j]? = some x→w.cell? ⟨b,o+j,none⟩=some x)
 sizes:∀ y∈ys,y.length=sz
 rd:∀ i y j d x,ys[i]? = some y→y[j]? = some d→us[i*sz+j]? = some x→RD g.imm w d x
 one:∀ x∈us,x.oneCell'=true
theorem Q42 {sz:Nat}:∀ (l:List (List D)) (b o:Nat),RDL g.imm w sz b l o →
  ∃ us:List Value,us.length=l.length*sz∧(∀ (j:Nat) x,us[j]? = some x→w.cell? ⟨b,o+j,none⟩=some x)∧(∀ y∈l,y.length=sz) ∧
   (∀ (i:Nat) y (j:Nat) d x,l[i]? = some y→y[j]? = some d→us[i*sz+j]? = some x→RD g.imm w d x)∧∀ x∈us,x.oneCell'=true
 | [],b,o,_=>⟨[],by simp,by simp,by simp,by simp,by simp⟩
 | y::l,b,o,h=>by
  simp only [RDL] at h;obtain ⟨hl,hc,hr⟩:=h;obtain ⟨us,h1,h2,h3,h4,h5⟩:=Q42 l b (o+sz) hr;have hrow:∃ vs:List Value,vs.length=y.length∧(∀ (j:Nat) x,vs[j]? = some x→w.cell? ⟨b,o+j,none⟩=some x)∧(∀ (j:Nat) d x,y[j]? = some d→vs[j]? = some x→RD g.imm w d x)∧∀ x∈vs,x.oneCell'=true:=by
   clear h1 h2 h3 h4 h5 hr hl
   induction y generalizing o with
   | nil=>simp_all
   | cons d y ih =>
    simp only [RDc] at hc;obtain ⟨_,⟨u,hu,hd⟩,hc⟩:=hc;obtain ⟨vs,k1,k2,k3,k4⟩:=ih (o+1) hc;refine ⟨u::vs,by simp [k1],fun j x hj=>?_,fun j d' x hj hx=>?_,fun x hx=>?_⟩
    ·grind
    ·grind
    ·simp at hx;rcases hx with rfl|hx
     all_goals grind [Q0i]
  obtain ⟨vs,k1,k2,k3,k4⟩:=hrow;refine ⟨vs++us,by grind,fun j x hj=>?_,by simp [hl];exact h3,fun i y' j d x hi hj hx=>?_,fun x hx=>?_⟩
  ·grind
  ·cases i with
   | zero =>
    grind
   | succ i =>
    grind
  grind
theorem Qte:∀ {vs:List V} {ds:List D},toDs vs=some ds→ds.length=vs.length∧∀ (j:Nat) v d,vs[j]? = some v→ds[j]? = some d→v.toD=some d
 | [],ds,h=>by simp [toDs] at h;subst h;exact ⟨rfl,by simp⟩
 | v::vs,ds,h=>by
  simp only [toDs] at h;split at h
  ·rename_i x xs hx hxs;cases h;obtain ⟨h1,h2⟩:=Qte hxs;refine ⟨by simp [h1],fun j v' d hv hd=>?_⟩;cases j with
   | zero=>simp at hv hd;subst hv hd;exact hx
   | succ j=>exact h2 j v' d (by simpa using hv) (by simpa using hd)
  ·cases h
theorem Qva {v:V} {d:D} {ℓ:Owner} {u:Value} (h:v.toD=some d) (hv:RV g w v ℓ u):RD g.imm w d u:=by
 cases v<;>simp only [V.toD] at h<;>try (cases h;done)
 ·cases h;simpa [RV] using hv
 ·cases h;exact Qj0 hv
 ·cases h;simp only [RV] at hv;obtain ⟨ad,rfl⟩:=hv;simp [RD]
 ·cases h;exact Qwr hv
theorem Qrz:∀ (k n:Nat) (l:List D),l.length=k*n→(Qh8 n k l).length=k∧(∀ y∈Qh8 n k l,y.length=n)∧∀ (i:Nat) y (j:Nat) d,(Qh8 n k l)[i]? = some y→y[j]? = some d→l[i*n+j]? = some d
 | 0,n,l,h=>by simp [Qh8]
 | k+1,n,l,h=>by
  simp only [Qh8];have hn:n≤l.length:=by grind
  obtain ⟨h1,h2,h3⟩:=Qrz k n (l.drop n) (by grind);refine ⟨by simp [h1],fun y hy=>?_,fun i y j d hi hj=>?_⟩
  ·grind
  ·cases i with
   | zero =>
    grind
   | succ i =>
    grind
theorem Qr0 {M:Mem} {nb:Nat} (hM:MR g w M nb) {sz:Nat} {x:V} {ys:List (List D)} {ℓ:Owner} {u:Value} (hx:RV g w x ℓ u) (he:Qf7 M sz x=some ys):∃ us,Src g w sz ys u us:=by
 have lst:∀ l,RD g.imm w (.lst sz l) u→∃ us,Src g w sz l u us:=by
  intro l h;simp only [RD] at h;obtain ⟨ad,cap,rfl,_,hl⟩:=h;rcases hl with rfl|⟨b,o,rfl,hl⟩
  ·exact ⟨[],by simp,⟨ad,cap,rfl,.inl ⟨rfl,trivial⟩⟩,by simp,by simp,by simp⟩
  ·obtain ⟨us,h1,h2,h3,h4,h5⟩:=Q42 l b o hl;exact ⟨us,h1,⟨_,cap,rfl,.inr ⟨b,o,rfl,h2⟩⟩,h3,h4,h5⟩
 cases x<;>try (simp [Qf7] at he;done)
 case d dx =>
  cases dx<;>simp only [Qf7] at he<;>try (cases he;done)
  grind [RV]
 case own sz' l =>
  simp only [Qf7] at he;split at he<;>cases he;rename_i h;subst h;exact lst _ (Qj0 hx)
 case ownT sz' l =>
  simp only [Qf7] at he;split at he<;>cases he;rename_i h;subst h;exact lst _ (Qwr hx)
 case nils sz' =>
  simp only [Qf7] at he;split at he<;>cases he;rename_i h;subst h;exact lst _ (Qva rfl hx)
 case sl sz' k off len cap =>
  simp only [Qf7] at he;split at he<;>try (cases he;done)
  rename_i h;subst h;split at he<;>try (cases he;done)
  rename_i cs hk;split at he<;>try (cases he;done)
  rename_i hle;simp only [Option.map_eq_some_iff] at he;obtain ⟨ds,hds,rfl⟩:=he;obtain ⟨us,h1,h2,h3,h4⟩:=Q2s hM hk off _ hle;obtain ⟨hdl,hdg⟩:=Qte hds;have hdl' : ds.length=len*sz':=by grind
  obtain ⟨c1,c2,c3⟩:=Qrz len sz' ds hdl';simp only [RV] at hx;subst hx;refine ⟨us,by rw [c1,h1],⟨_,cap,by rw [c1],.inr ⟨g.box k,off,rfl,h2⟩⟩,c2,fun i y j d x hi hj hx=>?_,h3⟩;have hd:=c3 i y j d hi hj;have hlt:=(List.getElem?_eq_some_iff.1 hx).1;have hv:=List.getElem?_eq_getElem (show i*sz'+j<((cs.drop off).take (len*sz')).length by grind)
  grind [Qva]
theorem Q1t (w:World) (t ty e e' : TypeId) (i:TypeInfo) (ht:P.underlying t=some (.slice e)) (hi:P.info? e=some i)
  (b sLen sCap:Nat) (cur:Array Value) (hg:w.heap[b]? = some (.cells cur e' (0,0)))
  (ad:Addr) (m c:Nat) (news:List Value) (hl:news.length=m*i.size) (hnews:∀ j u,news[j]? = some u→w.cell? (ad.add j)=some u) (h1:∀ u∈news,u.oneCell'=true)
  (hroom:sLen+m≤sCap) (hfit:sLen*i.size+news.length≤cur.size) :
  (Builtin.append_ #[t,t] ty #[.slice (some ⟨b,0,none⟩) sLen sCap,.slice (some ad) m c]).run P w =
   .ok (.slice (some ⟨b,0,none⟩) (sLen+m) sCap) (w.setRow b (cur.toList.take (sLen*i.size)++news++cur.toList.drop (sLen*i.size+news.length)).toArray):=by
 have hf:=run_firstCells_some (P:=P) w i.size m ad m c news hl hnews;have hst:=run_storeCells_at (P:=P) b (sLen*i.size) e' news 0 cur w hg (by simpa using hfit) h1;simp only [Nat.add_zero] at hst;simp [Builtin.append_,run_underlying ht,sizeOf,typeInfo,hi,Builtin.lenOf,hroom,hf,Addr.add_lit,hst]
theorem Qr1 (w:World) (t ty e e' : TypeId) (i:TypeInfo) (ht:P.underlying t=some (.slice e)) (hi:P.info? e=some i)
  (b o0 sLen sCap:Nat) (cur:Array Value) (hg:w.heap[b]? = some (.cells cur e' (0,0)))
  (ad:Addr) (m c:Nat) (news:List Value) (hl:news.length=m*i.size) (hnews:∀ j u,news[j]? = some u→w.cell? (ad.add j)=some u) (h1:∀ u∈news,u.oneCell'=true)
  (hroom:sLen+m≤sCap) (hfit:o0+sLen*i.size+news.length≤cur.size) :
  (Builtin.append_ #[t,t] ty #[.slice (some ⟨b,o0,none⟩) sLen sCap,.slice (some ad) m c]).run P w =
   .ok (.slice (some ⟨b,o0,none⟩) (sLen+m) sCap) (w.setRow b (cur.toList.take (o0+sLen*i.size)++news++cur.toList.drop (o0+sLen*i.size+news.length)).toArray):=by
 have hf:=run_firstCells_some (P:=P) w i.size m ad m c news hl hnews;have hst:=run_storeCells_at (P:=P) b (o0+sLen*i.size) e' news 0 cur w hg (by simpa using hfit) h1;simp only [Nat.add_zero] at hst;simp [Builtin.append_,run_underlying ht,sizeOf,typeInfo,hi,Builtin.lenOf,hroom,hf,Addr.add_lit,hst]
theorem Qy5 (w:World) (t ty e:TypeId) (i:TypeInfo) (ht:P.underlying t=some (.slice e)) (hi:P.info? e=some i) (base:Option Addr) (n cap:Nat) (hn:n≤cap) (ad:Option Addr) (c:Nat) :
  (Builtin.append_ #[t,t] ty #[.slice base n cap,.slice ad 0 c]).run P w = .ok (.slice base n cap) w:=by
 cases base<;>cases ad<;>simp [Builtin.append_,run_underlying ht,sizeOf,typeInfo,hi,Builtin.lenOf,hn,Builtin.firstCells,loadCells,loadCellsFrom,storeCells]
end
end Go.Abs
end
section
namespace Go.Abs
open Go
section
variable (P:Program) {g:G} {w:World} {n0 nt:Nat} {g0:G} {w0:World} {σ:St} {a:Act}
theorem Qwv {imm:Nat→Nat→Prop} {w:World} {sz b:Nat}:∀ {l l' : List (List D)} {o:Nat},RDL imm w sz b l o→RDL imm w sz b l' (o+l.length*sz)→RDL imm w sz b (l++l') o
 | [],l',o,_,h=>by simpa using h
 | x::l,l',o,h,h'=>by
  simp only [RDL,List.cons_append] at h ⊢;refine ⟨h.1,h.2.1,Qwv h.2.2 ?_⟩
  rwa [show o+(x::l).length*sz=o+sz+l.length*sz from by simp [Nat.add_mul];omega] at h'
theorem Q6f {imm:Nat→Nat→Prop} {w' : World} {sz b o:Nat} {ys:List (List D)} {us:List Value} (hl:us.length=ys.length*sz) (hsz:∀ y∈ys,y.length=sz)
  (hrd:∀ (i:Nat) y (j:Nat) d x,ys[i]? = some y→y[j]? = some d→us[i*sz+j]? = some x→RD imm w' d x)
  (hc:∀ (j:Nat) x,us[j]? = some x→w'.cell? ⟨b,o+j,none⟩=some x∧imm b (o+j)):RDL imm w' sz b ys o:=by
 refine Q1g fun i y hi=>⟨hsz y (List.mem_of_getElem? hi),Qxn fun j d hj=>?_⟩;have hil:=(List.getElem?_eq_some_iff.1 hi).1;have hjl:=(List.getElem?_eq_some_iff.1 hj).1;rw [hsz y (List.mem_of_getElem? hi)] at hjl;have hlt:i*sz+j<us.length:=by
  rw [hl]
  calc i*sz+j<i*sz+sz:=by omega
   _=(i+1)*sz:=by rw [Nat.add_mul];omega
   _≤ys.length*sz:=Nat.mul_le_mul_right _ hil
 obtain ⟨h1,h2⟩:=hc _ _ (List.getElem?_eq_getElem hlt)
 grind
theorem SR.grow (h:SR n0 nt g0 w0 σ a w g) {dst:Option Nat} (hd:∀ d,dst=some d→d<nt) {w' : World} {g' : G} {v:V} {val:Value} (t0:Nat) (hm:MR g' w' σ.M σ.nb) (hkept:Kept g w g' w' (There σ.M) (fun o=>o ≠ .slot t0 []))
  (hos:w'.os=w.os) (htape:w'.tape=w.tape) (hout:w'.output=w.output) (hsize:w.heap.size≤w'.heap.size) (hbox:∀ k,g'.box k=g.box k)
  (hv:∀ d,dst=some d→RV g' w' v (.slot d []) val) (hvon:v.on (There σ.M)) :
  SR n0 nt g0 w0 ⟨Q9 (σ.s.put t0 (σ.s t0).dem) dst v,σ.M,σ.nb⟩ (a.put dst val) w' g':=by
 refine h.step hm ⟨hos,htape,hout,hsize,hkept.imm,fun k _=>hbox k,fun b hb ho=>hkept.own b (by intro e;rw [e] at ho;exact ho) hb⟩
  (Qfk (fun d hd'=>by rw [h.size];exact hd d hd') (fun t _=>?_) hv) (Qgk _ _ _) (Qeb _ _ _) (Qfl (fun t=>?_) hvon) h.mOn h.out
 ·simp only [Sl.put];split
  ·rename_i he;subst he;exact Qkz (hkept.weaken (fun _ h=>h) (by rintro o rfl;simp)) (Qdu _) ((Qdt _).2 (h.onS t)) (Qhn _ _ (.slot t []) _ (h.slots t))
  ·rename_i hne;exact Qdc hkept (fun _ i h=>Qkr h) (by simp) _ _ _ (by simp [hne]) (h.onS t) (h.slots t)
 ·simp only [Sl.put];split
  ·exact (Qdt _).2 (h.onS t0)
  ·exact h.onS t
theorem Q7k {κ sz bytes:Nat} {s x v:V} {M M' : Mem} (hs:Qh n0 κ (.append sz bytes) [s,x] M=some (v,M')) :
  M'=M∧∃ ys,Qf7 M sz x=some ys ∧
   ((∃ l,s = .own sz l∧l.length+ys.length≤lim∧bytes≤128∧0<sz∧v = .own sz (l++ys)) ∨
    (s = .nils sz∧ys.length≤lim∧bytes≤128∧v = .own sz ys) ∨
    (∃ l,s = .ownT sz l∧l.length+ys.length≤lim∧bytes≤128∧0<sz∧v = .ownT sz (l++ys)) ∨
    (∃ k off len cap l,s = .sl sz k off len cap∧Qf7 M sz s=some l∧((ys.length=0∧len=0∧cap=0∧v = .own sz [])∨(ys.length=0∧len≤cap∧v=s)∨(0<ys.length∧cap<len+ys.length∧l.length+ys.length≤lim∧bytes≤128∧0<sz∧v = .own sz (l++ys))))):=by
 cases s<;>try (simp [Qh] at hs;done)
 case own sz' l =>
  simp only [Qh] at hs
  grind
 case nils sz' =>
  simp only [Qh] at hs
  grind
 case ownT sz' l =>
  simp only [Qh] at hs
  grind
 case sl sz' k off len cap =>
  simp only [Qh] at hs;split at hs<;>try (cases hs;done)
  rename_i l ys hl hy;have hsz:sz'=sz:=by
   grind [Qf7]
  grind
theorem Q43 {κ sz bytes:Nat} {s x v:V} {M M' : Mem} (hs:Qh n0 κ (.appw sz bytes) [s,x] M=some (v,M')) :
  ((∃ k off len cap,s = .sl sz k off len cap)∨∃ sz',s = .nils sz')∧(Qh n0 κ (.append sz bytes) [s,x] M=some (v,M') ∨
  ∃ k off len cap cs ys,s = .sl sz k off len cap∧M k=some (.cells cs)∧Qf7 M sz x=some ys∧0<ys.length∧0<sz∧len+ys.length≤cap∧off+(len+ys.length)*sz≤cs.length∧(∀ y∈ys,y.length=sz) ∧
   v = .sl sz k off (len+ys.length) cap∧M'=M.put k (.cells (cs.take (off+len*sz)++ys.flatten.map V.d++cs.drop (off+len*sz+ys.length*sz)))):=by
 cases s<;>try (simp [Qh] at hs;done)
 case nils sz'=>exact ⟨.inr ⟨_,rfl⟩,.inl hs⟩
 case sl sz' k off len cap =>
  simp only [Qh] at hs;split at hs<;>try (cases hs;done)
  rename_i l ys cs hl hy hM;have hsz:sz'=sz:=by
   grind [Qf7]
  subst hsz;refine ⟨.inl ⟨k,off,len,cap,rfl⟩,?_⟩;by_cases h0:ys.length=0
  ·simp_all [Qh,if_pos]
  ·rw [if_neg h0] at hs;by_cases hr:len+ys.length≤cap
   ·rw [if_pos hr] at hs;split at hs<;>try (cases hs;done)
    grind
   simp_all [if_neg,Qh]
theorem Qbc7 {sz:Nat}:∀ {ys:List (List D)},(∀ y∈ys,y.length=sz)→ys.flatten.length=ys.length*sz∧∀ n d,ys.flatten[n]? = some d→∃ i j y,n=i*sz+j∧ys[i]? = some y∧y[j]? = some d
 | [],_=>⟨by simp,fun n d h=>by simp at h⟩
 | y::ys,h=>by
  obtain ⟨h1,h2⟩:=Qbc7 (ys:=ys) fun z hz=>h z (by simp [hz]);have hy:=h y (by simp);refine ⟨by simp [h1,hy,Nat.add_mul];omega,fun n d hn=>?_⟩;rw [List.flatten_cons] at hn;by_cases hlt:n<y.length
  ·rw [List.getElem?_append_left hlt] at hn;exact ⟨0,n,y,by omega,by simp,hn⟩
  ·rw [List.getElem?_append_right (by omega)] at hn;obtain ⟨i,j,z,e1,e2,e3⟩:=h2 _ d hn;exact ⟨i+1,j,z,by rw [Nat.add_mul];omega,by simpa using e2,e3⟩
theorem SR.newblock (h:SR n0 nt g0 w0 σ a w g) {dst:Option Nat} (hd:∀ d,dst=some d→d<nt) (t0:Nat) {sz:Nat} {l ys:List (List D)} {u0 ux:Value} {olds news zeros:List Value}
  (hl:Src g w sz l u0 olds) (hy:Src g w sz ys ux news) {cap:Nat} (hcap:l.length+ys.length≤cap) (hmax:cap≤maxLen) (hz:zeros.length=(cap-(l.length+ys.length))*sz) (hz1:∀ u∈zeros,u.oneCell'=true) (e:TypeId) :
  ∃ g',SR n0 nt g0 w0 ⟨Q9 (σ.s.put t0 (σ.s t0).dem) dst (.own sz (l++ys)),σ.M,σ.nb⟩ (a.put dst (.slice (some ⟨w.heap.size,0,none⟩) (l.length+ys.length) cap))
   (w.drew.alloc (.cells (olds++news++zeros).toArray e)) g':=by
 let d0:=dst.getD 0;let g' : G:={ box:=g.box,imm:=fun b o=>g.imm b o∨(b=w.heap.size∧o<(l.length+ys.length)*sz),own:=fun b=>if b=w.heap.size then .slot d0 [] else g.own b };let w':=w.drew.alloc (.cells (olds++news++zeros).toArray e);have hcell:∀ b o,b<w.heap.size→w'.cell? ⟨b,o,none⟩=w.cell? ⟨b,o,none⟩:=fun b o hb=>by
  have:=World.cell?_alloc_past (w:=w.drew) (.cells (olds++news++zeros).toArray e) b o (by simpa using hb);exact this
 have hnew:∀ o,w'.cell? ⟨w.heap.size,o,none⟩=(olds++news++zeros)[o]?:=fun o=>by
  have:=World.cell?_alloc_at (w:=w.drew) (olds++news++zeros).toArray e w.heap.size o (by simp)
  grind
 have himm0:∀ o,¬ g.imm w.heap.size o:=fun o ho=>by have:=(h.mem.imm _ _ ho).1;omega
 have hI:Imm g.imm g'.imm w w':=⟨fun b o hb=>.inl hb,fun b o hb=>Qet (RowKit.Below.heap_alloc w.drew _ b (by simpa using (h.mem.imm b o hb).1))⟩;have hkept:Kept g w g' w' (There σ.M) (fun o=>o ≠ .slot t0 []):=by
  refine ⟨hI,fun _ _=>rfl,fun b _ hlt=>⟨?_,?_,fun o=>?_⟩⟩
  ·grind
  ·exact RowKit.Below.heap_alloc w.drew _ b (by simpa using hlt)
  grind
 have himm:∀ b o,g'.imm b o→b<w'.heap.size∧∀ k,g'.own b ≠ .box k:=by
  rintro b o (hb|⟨rfl,_⟩)
  ·obtain ⟨h1,h2⟩:=h.mem.imm b o hb;refine ⟨by simp [w'];omega,fun k=>?_⟩
   grind
  ·refine ⟨by simp [w'],fun k=>by simp [g']⟩
 have hlen:(olds++news).length=(l.length+ys.length)*sz:=by rw [List.length_append,hl.len,hy.len,Nat.add_mul]
 have hrow:RDL g'.imm w' sz w.heap.size (l++ys) 0:=by
  refine Qwv ?_ ?_
  ·refine Q6f hl.len hl.sizes (fun i y j d x h1 h2 h3=>Qf0 hI d x (hl.rd i y j d x h1 h2 h3)) fun j x hj=>?_
   grind
  ·refine Q6f hy.len hy.sizes (fun i y j d x h1 h2 h3=>Qf0 hI d x (hy.rd i y j d x h1 h2 h3)) fun j x hj=>?_;have hj':=(List.getElem?_eq_some_iff.1 hj).1;refine ⟨?_,.inr ⟨rfl,?_⟩⟩
   ·rw [Nat.zero_add,hnew,List.append_assoc,List.getElem?_append_right (by rw [hl.len];omega),hl.len]
    grind
   ·rw [hy.len] at hj';rw [Nat.add_mul];omega
 have hm:MR g' w' σ.M σ.nb:=h.mem.kept hkept h.mOn (fun _ i h=>Qkr h) (by simp) (fun _ _=>by simp) himm;refine ⟨g',h.grow hd t0 hm hkept rfl rfl rfl (by simp) (fun _=>rfl) (fun d hd'=>?_) trivial⟩;simp only [RV];refine .inr ⟨w.heap.size,cap,(olds++news++zeros).toArray,e,by simp,by simp [g',d0,hd'],?_,by simpa using hcap,hmax,⟨?_,?_⟩,fun o=>?_,hrow⟩
 ·exact heap_alloc_new w.drew _
 ·simp only [List.size_toArray,List.length_append] at hlen ⊢;rw [hz,hlen,← Nat.add_mul];congr 1;omega
 ·intro u hu;simp only [List.mem_append] at hu;rcases hu with (hu|hu)|hu
  ·exact hl.one u hu
  ·exact hy.one u hu
  ·exact hz1 u hu
 grind
theorem SR.newlit (h:SR n0 nt g0 w0 σ a w g) {d:Nat} (hd:d<nt) {x:D} {u:Value} (hx:RD g.imm w x u) (h1:u.oneCell'=true) (e:TypeId) :
  ∃ g',SR n0 nt g0 w0 ⟨Q9 σ.s (some d) (.own 1 [[x]]),σ.M,σ.nb⟩ (a.put (some d) (.slice (some ⟨w.heap.size,0,none⟩) 1 1)) (w.alloc (.cells #[u] e)) g':=by
 let g' : G:={ box:=g.box,imm:=fun b o=>g.imm b o∨(b=w.heap.size∧o<1),own:=fun b=>if b=w.heap.size then .slot d [] else g.own b };let w':=w.alloc (.cells #[u] e);have hcell:∀ b o,b<w.heap.size→w'.cell? ⟨b,o,none⟩=w.cell? ⟨b,o,none⟩:=fun b o hb=>World.cell?_alloc_past (w:=w) (.cells #[u] e) b o hb;have hnew:w'.cell? ⟨w.heap.size,0,none⟩=some u:=by
  exact (World.cell?_alloc_at (w:=w) #[u] e w.heap.size 0 rfl).trans rfl
 have himm0:∀ o,¬ g.imm w.heap.size o:=fun o ho=>by have:=(h.mem.imm _ _ ho).1;omega
 have hI:Imm g.imm g'.imm w w':=⟨fun b o hb=>.inl hb,fun b o hb=>Qet (RowKit.Below.heap_alloc w _ b (h.mem.imm b o hb).1)⟩;have hkept:Kept g w g' w' (There σ.M) (fun o=>o ≠ .slot d []):=by
  refine ⟨hI,fun _ _=>rfl,fun b _ hlt=>⟨?_,?_,fun o=>?_⟩⟩
  all_goals grind [Go.RowKit.Below.heap_alloc]
 have himm:∀ b o,g'.imm b o→b<w'.heap.size∧∀ k,g'.own b ≠ .box k:=by
  rintro b o (hb|⟨rfl,_⟩)
  ·obtain ⟨h1,h2⟩:=h.mem.imm b o hb;refine ⟨by simp [w'];omega,fun k=>?_⟩
   grind
  ·refine ⟨by simp [w'],fun k=>by simp [g']⟩
 have hm:MR g' w' σ.M σ.nb:=h.mem.kept hkept h.mOn (fun _ i h=>Qkr h) (by simp) (fun _ _=>by simp) himm;have hput:Q9 (σ.s.put d (σ.s d).dem) (some d) (.own 1 [[x]])=Q9 σ.s (some d) (.own 1 [[x]]):=by
  funext i;simp only [Q9,Sl.put];split<;>rfl
 refine ⟨g',hput ▸ h.grow (dst:=some d) (fun d' hd'=>by cases hd';exact hd) d hm hkept rfl rfl rfl (by simp) (fun _=>rfl) (fun d' hd'=>?_) trivial⟩;cases hd';simp only [RV];refine .inr ⟨w.heap.size,1,#[u],e,by simp,by simp [g'],heap_alloc_new w _,by simp,by simp [maxLen],⟨by simp,by simpa using h1⟩,fun o=>?_,?_⟩
 ·grind
 ·simp only [RDL,RDc];exact ⟨rfl,⟨.inr ⟨rfl,by omega⟩,⟨u,hnew,Qf0 hI x u hx⟩,trivial⟩,trivial⟩
theorem SR.allocD (h:SR n0 nt g0 w0 σ a w g) {dst:Option Nat} (hd:∀ d,dst=some d→d<nt) {ds:List D} {us:List Value} (hl:us.length=ds.length) (hr:∀ (j:Nat) x u,ds[j]? = some x→us[j]? = some u→RD g.imm w x u) {sz n:Nat} (hn:ds.length=n*sz) (e:TypeId) :
  ∃ g',SR n0 nt g0 w0 ⟨Q9 σ.s dst (.d (.lst sz (Qh8 sz n ds))),σ.M,σ.nb⟩ (a.put dst (.slice (some ⟨w.heap.size,0,none⟩) n n)) (w.alloc (.cells us.toArray e)) g':=by
 let g' : G:={ box:=g.box,imm:=fun b o=>g.imm b o∨(b=w.heap.size∧o<ds.length),own:=fun b=>if b=w.heap.size then .ext else g.own b };let w':=w.alloc (.cells us.toArray e);have hnew:∀ o,w'.cell? ⟨w.heap.size,o,none⟩=us[o]?:=fun o =>
  (World.cell?_alloc_at (w:=w) us.toArray e w.heap.size o rfl).trans (by simp)
 have himm0:∀ o,¬ g.imm w.heap.size o:=fun o ho=>by have:=(h.mem.imm _ _ ho).1;omega
 have hI:Imm g.imm g'.imm w w':=⟨fun b o hb=>.inl hb,fun b o hb=>Qet (RowKit.Below.heap_alloc w _ b (h.mem.imm b o hb).1)⟩;have hkept:Kept g w g' w' (There σ.M) (fun _=>True):=by
  refine ⟨hI,fun _ _=>rfl,fun b _ hlt=>⟨?_,?_,fun o=>?_⟩⟩
  all_goals grind [Go.RowKit.Below.heap_alloc]
 have himm:∀ b o,g'.imm b o→b<w'.heap.size∧∀ k,g'.own b ≠ .box k:=by
  rintro b o (hb|⟨rfl,_⟩)
  ·obtain ⟨h1,h2⟩:=h.mem.imm b o hb;refine ⟨by simp [w'];omega,fun k=>?_⟩
   grind
  ·refine ⟨by simp [w'],fun k=>by simp [g']⟩
 have hm:MR g' w' σ.M σ.nb:=h.mem.kept hkept h.mOn (fun _ _ h=>h) trivial (fun _ _=>trivial) himm;refine ⟨g',h.step hm ⟨rfl,rfl,rfl,by simp,hI,fun _ _=>rfl,fun b hb _=>hkept.own b trivial hb⟩ (Qfk (fun d hd'=>by rw [h.size];exact hd d hd') (fun t _=>Qdc hkept (fun _ _ h=>h) trivial _ _ _ trivial (h.onS t) (h.slots t)) (fun d _=>?_)) (Qgk _ _ _) (Qeb _ _ _) (Qfl h.onS trivial) h.mOn h.out⟩;obtain ⟨c1,c2,c3⟩:=Qrz n sz ds hn;simp only [RV,RD,c1];refine ⟨_,n,rfl,Nat.le_refl _,.inr ⟨w.heap.size,0,rfl,Q1g fun i x hi=>⟨c2 x (List.mem_of_getElem? hi),Qxn fun j y hj=>?_⟩⟩⟩;have h1:=c3 i x j y hi hj;have hlt:=(List.getElem?_eq_some_iff.1 h1).1;obtain ⟨u,hu⟩ : ∃ u,us[i*sz+j]? = some u:=⟨_,List.getElem?_eq_getElem (by omega)⟩;refine ⟨.inr ⟨rfl,by omega⟩,u,?_,Qf0 hI y u (hr _ y u h1 hu)⟩;rw [hnew,Nat.zero_add];exact hu
theorem Qbh5 (h:SR n0 nt g0 w0 σ a w g) {dst:Option Nat} (hd:∀ d,dst=some d→d<nt) (t e:TypeId) (ht:P.underlying t=some (.slice e)) {z:List V} (hz:Qq7 P e=some z) (n:Nat) (hn:n*P.cellsOf e≤65536) (is:List Nat)
  {xs:List V} {us:List Value} {v:V} {κ:Nat} {M' : Mem} (hfl:∀ x∈xs,Flat x) (hx:RFs g w xs us)
  (hs:Qh n0 κ (.blit (P.cellsOf e) n z is) xs σ.M=some (v,M')) :
  ∃ val w' g',(Instr.buildSlice t n (is.zip us).toArray).run P w = .ok val w'∧SR n0 nt g0 w0 ⟨Q9 σ.s dst v,M',σ.nb⟩ (a.put dst val) w' g':=by
 obtain ⟨i,zv,hi,hzv,hcz,hlt⟩:=Qjd P hz;have hs' : (if is.length=xs.length&&decide (0<P.cellsOf e)&&z.length==P.cellsOf e&&(is.zip xs).all (fun (i,x)=>Qd5 x&&x.cells.length==P.cellsOf e&&decide (i<n))
   then (toDs (Qh9 (rep n z) ((is.zip xs).map fun (i,x)=>(i*P.cellsOf e,x.cells)))).map fun ds=>(V.d (.lst (P.cellsOf e) (Qh8 (P.cellsOf e) n ds)),σ.M) else none)=some (v,M'):=by cases xs<;>exact hs
 split at hs'<;>try (cases hs';done)
 rename_i hc;simp only [Bool.and_eq_true,decide_eq_true_eq,beq_iff_eq,List.all_eq_true] at hc;obtain ⟨⟨⟨hil,hsz⟩,hzl⟩,hall⟩:=hc;simp only [Option.map_eq_some_iff,Prod.mk.injEq] at hs';obtain ⟨ds,hds,rfl,rfl⟩:=hs';have hcl:=(hcz g w).len;have hzs:zv.cells.size=P.cellsOf e:=by grind
 have hrep:(rep n z).length=n*P.cellsOf e:=by simp [rep,hzl]
 have hcrep:=CR.rep (hcz g w) n;obtain ⟨out,hfill,hcr⟩:=Qry (g:=g) (w:=w) (fun i=>some (i*P.cellsOf e,P.cellsOf e)) (rep n z) _ hcrep is (is.map (· * P.cellsOf e)) (is.map fun _=>P.cellsOf e) xs us hx hfl hil (by simp [hil]) (by simp [hil])
  (fun j x i o s hxj hij hoj hsj=>by
   simp only [List.getElem?_map,Option.map_eq_some_iff] at hoj hsj;obtain ⟨p,hp,rfl⟩:=hoj;obtain ⟨p',hp',rfl⟩:=hsj;rw [hij] at hp;cases hp;have:=hall (i,x) (List.mem_of_getElem? (i:=j) (by grind));simp only [Bool.and_eq_true,beq_iff_eq,decide_eq_true_eq] at this;refine ⟨this.1.1,this.1.2,?_,rfl⟩;rw [hrep]
   calc i*P.cellsOf e+P.cellsOf e=(i+1)*P.cellsOf e:=by rw [Nat.add_mul];omega
    _≤n*P.cellsOf e:=Nat.mul_le_mul_right _ this.2)
 have e1:((is.map (· * P.cellsOf e)).zip xs).map (fun p=>(p.1,p.2.cells))=(is.zip xs).map fun (i,x)=>(i*P.cellsOf e,x.cells):=by
  rw [List.zip_map_left,List.map_map];rfl
 rw [e1] at hcr;generalize hF:(Qh9 (rep n z) ((is.zip xs).map fun (i,x)=>(i*P.cellsOf e,x.cells)))=F at hds hcr;obtain ⟨hdl,hdg⟩:=Qte hds;have hlen:=hcr.len;have hfl2:F.length=n*P.cellsOf e:=by
  rw [← hF];rw [Q1j,hrep];intro p hp;simp only [List.mem_map] at hp;obtain ⟨⟨i,x⟩,hm,rfl⟩:=hp;have:=hall (i,x) hm;simp only [Bool.and_eq_true,beq_iff_eq,decide_eq_true_eq] at this;simp only;rw [this.1.2,hrep]
  calc i*P.cellsOf e+P.cellsOf e=(i+1)*P.cellsOf e:=by rw [Nat.add_mul];omega
   _≤n*P.cellsOf e:=Nat.mul_le_mul_right _ this.2
 obtain ⟨g',hsr⟩:=h.allocD (dst:=dst) hd (ds:=ds) (us:=out) (by omega) (fun j x u hj hu=>by
  obtain ⟨c,hc⟩ : ∃ c,F[j]? = some c:=⟨_,List.getElem?_eq_getElem (by have:=(List.getElem?_eq_some_iff.1 hj).1;omega)⟩;exact Qva (hdg j c x hc hj) (hcr.rf j c u hc hu .ext)) (sz:=P.cellsOf e) (n:=n) (by omega) e
 refine ⟨_,_,g',?_,hsr⟩;have hm:=Qoe zv.cells (by omega) n;rw [hzs] at hm;unfold madeCells at hm;have hnb:¬ (16777216<n*P.cellsOf e):=by omega
 have hso:∀ w,(sizeOf e).run P w = .ok (P.cellsOf e) w:=fun w=>by rw [Qgw P hi,Qe2 P hi]
 by_cases hn0:n*P.cellsOf e=0
 ·have:n=0:=by
   grind [Nat.mul_eq_zero]
  simp_all [absurd,List.replicate_zero,List.flatten_nil,List.zip_nil_left,Go.Instr.fill,Option.some.injEq,Go.Instr.buildSlice,Go.run_underlying,Go.newRow,Qoc,Go.Array.range_zero']
 ·rw [← hm] at hfill;rw [hzs] at hfill;simp [Instr.buildSlice,run_underlying ht,hso,Qoc P hi hzv,hnb,hn0,hzs,hfill,newRow]
theorem Qbh6 {s s' : Sl} {M:Mem} {nb:Nat} {a:Act} (h:SR n0 nt g0 w0 ⟨s,M,nb⟩ a w g) (he:∀ i,s' i=s i∨∃ sz l,s i = .own sz l∧s' i = .ownT sz l):SR n0 nt g0 w0 ⟨s',M,nb⟩ a w g:={
 mem:=h.mem
 slots:=fun t=>by
  rcases he t with e|⟨sz,l,e1,e2⟩
  ·show RV g w (s' t) _ _;rw [e];exact h.slots t
  ·show RV g w (s' t) _ _;have:=h.slots t
   grind [Q9f]
 size:=h.size
 defers:=h.defers
 onS:=fun t=>by
  rcases he t with e|⟨sz,l,e1,e2⟩
  ·show (s' t).on _;rw [e];exact h.onS t
  ·show (s' t).on _;rw [e2];trivial
 onM:=h.onM
 top:=h.top
 fr:=h.fr }
theorem Q7l (h:SR n0 nt g0 w0 σ a w g) {dst:Option Nat} (hd:∀ d,dst=some d→d<nt) (t ty e:TypeId) (ht:P.underlying t=some (.slice e)) {z:List V} (hz:Qq7 P e=some z) (hzl:z.length=P.cellsOf e)
  (t0:Nat) {x v:V} {ux:Value} {ℓx:Owner} {κ:Nat} {M' : Mem} (hx:RV g w x ℓx ux)
  (hs:Qh n0 κ (.append (P.cellsOf e) (P.bytesOf e)) [σ.s t0,x] σ.M=some (v,M')) :
  ∃ val w' g',(Builtin.append_ #[t,t] ty #[a.tmps.getD t0 undef,ux]).run P w = .ok val w'∧SR n0 nt g0 w0 ⟨Q9 (σ.s.put t0 (σ.s t0).dem) dst v,M',σ.nb⟩ (a.put dst val) w' g':=by
 obtain ⟨rfl,ys,hy,hcases⟩:=Q7k hs;obtain ⟨i,zv,hi,hzv,hcz,_⟩:=Qjd P hz;have hz1:∀ q,∀ u∈(Builtin.zeroCells zv.cells q).toList,u.oneCell'=true:=by
  intro q u hu;refine (hcz g w).one u ?_;simp only [Builtin.zeroCells] at hu;have hu' : ∃ a,a<q*zv.cells.size∧zv.cells[a % zv.cells.size]! = u:=by simpa using hu
  obtain ⟨j,hj,rfl⟩:=hu'
  grind [Nat.eq_zero_or_pos,Nat.mod_lt]
 have hsz:i.size=P.cellsOf e:=(Qe2 P hi).symm;have hby:i.bytes=P.bytesOf e:=by simp [Program.bytesOf,hi]
 have hzs:zv.cells.size=P.cellsOf e:=by have:=(hcz g w).len;grind
 obtain ⟨news,hsy⟩:=Qr0 h.mem hx hy;have hslot:=h.slots t0;have keptrefl:Kept g w g w (There σ.M) (fun o=>o ≠ .slot t0 []):=⟨Imm.refl _ _,fun _ _=>rfl,fun _ _ _=>⟨rfl,rfl,fun _=>Iff.rfl⟩⟩;obtain ⟨adx,cx,hux,hshape⟩:=hsy.shape;have grow:∀ (l:List (List D)) (u0:Value) (olds:List Value) (base:Option Addr) (cap:Nat),Src g w (P.cellsOf e) l u0 olds→u0 = .slice base l.length cap→cap<l.length+ys.length→(base=none→l=[]∧cap=0) →
   l.length+ys.length≤lim→P.bytesOf e≤128→0<ys.length →
   ∃ val w' g',(Builtin.append_ #[t,t] ty #[u0,ux]).run P w = .ok val w'∧SR n0 nt g0 w0 ⟨Q9 (σ.s.put t0 (σ.s t0).dem) dst (.own (P.cellsOf e) (l++ys)),σ.M,σ.nb⟩ (a.put dst val) w' g':=by
  intro l u0 olds base cap hsl hu0 hcap hnil hlim hbytes hpos;rcases hshape with ⟨rfl,_⟩|⟨bx,ox,rfl,hcx⟩
  ·simp at hpos
  ·have hnews:∀ j u,news[j]? = some u→w.cell? ((⟨bx,ox,none⟩ : Addr).add j)=some u:=fun j u hj=>by rw [Qgz];exact hcx j u hj
   have hb128:(l.length+ys.length)*i.bytes≤140737488355328:=by
    rw [hby]
    calc (l.length+ys.length)*P.bytesOf e≤lim*128:=Nat.mul_le_mul hlim hbytes
     _≤140737488355328:=by simp [lim]
   have hmaxl:l.length+ys.length≤maxLen:=by grind [lim,Go.maxLen]
   have hge:=grownCap_ge w (l.length+ys.length) cap e;have hle:=grownCap_le_maxLen w (l.length+ys.length) cap e hmaxl;have hzeros:∀ q,(Builtin.zeroCells zv.cells q).toList.length=q*P.cellsOf e:=fun q=>by simp [size_zeroCells,hzs]
   obtain ⟨g',hsr⟩:=h.newblock (w:=w) hd t0 hsl hsy (zeros:=(Builtin.zeroCells zv.cells (grownCap w (l.length+ys.length) cap e-(l.length+ys.length))).toList) hge hle (hzeros _) (hz1 _) e;refine ⟨_,_,g',?_,hsr⟩;rw [hu0,hux];cases base with
   | none =>
    obtain ⟨rfl,rfl⟩:=hnil rfl;have holds:olds=[]:=List.eq_nil_of_length_eq_zero (by simpa using hsl.len);subst holds;have:=run_append_nil (P:=P) w t ty e i zv ht hi hzv ⟨bx,ox,none⟩ ys.length cx news (by rw [hsz];exact hsy.len) hnews hpos (by grind [lim]) (by simp at hb128;omega);have earr:∀ zc:Array Value,(([]:List Value)++news++zc.toList).toArray=news.toArray++zc:=fun zc=>by apply Array.ext';simp
    grind
   | some ad =>
    obtain ⟨ad',c',hu',hsh⟩:=hsl.shape;rw [hu0] at hu';injection hu' with e1 _ e3
    have holds:∀ j u,olds[j]? = some u→w.cell? (ad.add j)=some u:=by
     intro j u hj;rcases hsh with ⟨rfl,_⟩|⟨b,o,hb,hc⟩
     ·have:olds=[]:=List.eq_nil_of_length_eq_zero (by simpa using hsl.len);subst this;simp at hj
     grind [Qgz]
    have:=run_append_grow (P:=P) w t ty e i zv ht hi hzv ad l.length cap olds (by rw [hsz];exact hsl.len) holds ⟨bx,ox,none⟩ ys.length cx news (by rw [hsz];exact hsy.len) hnews hcap (by simp only [lim] at hlim;omega) (growslice_fits (by omega) hb128);have earr:∀ zc:Array Value,(olds++news++zc.toList).toArray=olds.toArray++news.toArray++zc:=fun zc=>by apply Array.ext';simp
    grind
 have nothing:∀ (base:Option Addr) (n cap:Nat),a.tmps.getD t0 undef = .slice base n cap→n≤cap→ys.length=0→(Builtin.append_ #[t,t] ty #[a.tmps.getD t0 undef,ux]).run P w = .ok (a.tmps.getD t0 undef) w:=by
  grind [Qy5]
 rcases hcases with ⟨l,hsown,hlim,hbytes,hpos,rfl⟩|⟨hsnil,hlim,hbytes,rfl⟩|⟨l,hsown,hlim,hbytes,hpos,rfl⟩|⟨k,off,len,cap,l,hssl,hel,hcases⟩
 ·rw [hsown] at hslot;have hon:(V.own (P.cellsOf e) (l++ys)).on (There σ.M):=trivial;by_cases h0:ys.length=0
  ·have hnil:ys=[]:=List.eq_nil_of_length_eq_zero h0;subst hnil;simp only [List.append_nil] at hon ⊢;have hshape0:∃ base cap,a.tmps.getD t0 undef = .slice base l.length cap∧l.length≤cap:=by
    have:=Qj0 hslot
    grind [RD]
   obtain ⟨base,cap,hu,hn⟩:=hshape0;have hkx:=Kept.ex g w (.slot t0 []) (.slot (dst.getD 0) []) (There σ.M);refine ⟨_,w,g.re (ex (.slot t0 []) (.slot (dst.getD 0) [])),nothing base l.length cap hu hn rfl,h.grow hd t0 ?_ hkx rfl rfl rfl (Nat.le_refl _) (fun _=>rfl) (fun d hd'=>by grind [Q41]) hon⟩;refine h.mem.kept hkx h.mOn (fun _ i h=>Qkr h) (by simp) (fun _ _=>by simp) fun b o hb=>?_;obtain ⟨h1,h2⟩:=h.mem.imm b o hb
   grind [G.re,ex]
  ·obtain ⟨olds,hsl⟩:=Qr0 (sz:=P.cellsOf e) h.mem hslot (ys:=l) (by simp [Qf7]);simp only [RV] at hslot;rcases hslot with ⟨⟨base,hu⟩,rfl⟩|⟨b,cap,vals,e',hu,hb,hh,hlc,hcm,⟨hvs,hvone⟩,him,hrow⟩
   ·grind
   ·by_cases hroom:l.length+ys.length≤cap
    ·rcases hshape with ⟨rfl,_⟩|⟨bx,ox,hax,hcx⟩
     ·simp at h0
     ·subst hax;have hnews:∀ j u,news[j]? = some u→w.cell? ((⟨bx,ox,none⟩ : Addr).add j)=some u:=fun j u hj=>by rw [Qgz];exact hcx j u hj
      have hfit:l.length*i.size+news.length≤vals.size:=by
       rw [hsy.len,hvs,hsz,← Nat.add_mul];exact Nat.mul_le_mul_right _ hroom
      have hrun:=Q1t P w t ty e e' i ht hi b l.length cap vals hh ⟨bx,ox,none⟩ ys.length cx news (by rw [hsz];exact hsy.len) hnews hsy.one hroom hfit;rw [hsz] at hrun;generalize hrowdef:(vals.toList.take (l.length*P.cellsOf e)++news++vals.toList.drop (l.length*P.cellsOf e+news.length))=row at hrun;have hrg:∀ j,row[j]? = if j<l.length*P.cellsOf e then vals[j]? else if j<l.length*P.cellsOf e+news.length then news[j-l.length*P.cellsOf e]? else vals[j]?:=by
       intro j;rw [← hrowdef,Qk0 vals.toList news _ _ rfl (by grind)];simp
      have hlt:b<w.heap.size:=(Array.getElem?_eq_some_iff.1 hh).1;let g' : G:={ box:=g.box,imm:=fun c o=>g.imm c o∨(c=b∧o<(l.length+ys.length)*P.cellsOf e),own:=fun c=>ex (.slot t0 []) (.slot (dst.getD 0) []) (g.own c) };have hI:Imm g.imm g'.imm w (w.setRow b row.toArray):=by
       refine ⟨fun _ _ hc=>.inl hc,fun c o hc=>?_⟩;by_cases hcb:c=b
       ·subst hcb;refine Q4w hh (setRow_heap w c vals row.toArray e' (0,0) hh) ?_;have ho:=(him o).1 hc;rw [cell_setRow_same w c o vals row.toArray e' (0,0) hh];have:w.cell? ⟨c,o,none⟩=vals[o]?:=by simp [World.cell?,hh]
        grind
       ·exact Qet (setRow_other w b c _ hcb)
      have hkept:Kept g w g' (w.setRow b row.toArray) (There σ.M) (fun o=>o ≠ .slot t0 []):=by
       refine ⟨hI,fun _ _=>rfl,fun c hc hclt=>?_⟩;have hcb:c≠b:=by rintro rfl;exact hc hb
       exact ⟨by simp only [g',ex];rw [if_neg hc],setRow_other w b c _ hcb,fun o=>by simp [g',hcb]⟩
      have hm:MR g' (w.setRow b row.toArray) σ.M σ.nb:=by
       refine h.mem.kept hkept h.mOn (fun _ i h=>Qkr h) (by simp) (fun _ _=>by simp) ?_;rintro c o (hc|⟨rfl,_⟩)
       ·obtain ⟨h1,h2⟩:=h.mem.imm c o hc
        grind [Go.setRow_size,ex]
       ·refine ⟨by rw [setRow_size];exact hlt,fun k=>?_⟩;simp only [g',ex];rw [if_pos hb];simp
      refine ⟨_,_,g',by rw [hu,hux];exact hrun,h.grow hd t0 hm hkept rfl rfl rfl (by simp) (fun _=>rfl) (fun d hd'=>?_) hon⟩;simp only [RV];refine .inr ⟨b,cap,row.toArray,e',by simp,by simp only [g',ex];grind,setRow_heap w b vals _ e' (0,0) hh,by simpa using hroom,hcm,⟨?_,?_⟩,fun o=>?_,?_⟩
      ·grind
      ·intro u hu';rw [← hrowdef] at hu';simp only [List.mem_append] at hu';rcases hu' with (hu'|hu')|hu'
       ·grind
       ·exact hsy.one u hu'
       grind
      ·rw [List.length_append]
       grind
      ·refine Qwv (RDL_mono hI _ b l 0 hrow) (Q6f hsy.len hsy.sizes (fun i y j d x h1 h2 h3=>Qf0 hI d x (hsy.rd i y j d x h1 h2 h3)) fun j x hj=>?_);have hj':=(List.getElem?_eq_some_iff.1 hj).1;refine ⟨?_,.inr ⟨rfl,by rw [hsy.len] at hj';rw [Nat.add_mul];omega⟩⟩;rw [cell_setRow_same w b _ vals row.toArray e' (0,0) hh]
       simp_all [if_neg,if_pos]
    grind
 ·rw [hsnil] at hslot;obtain ⟨olds,hsl⟩:=Qr0 (sz:=P.cellsOf e) h.mem hslot (ys:=[]) (by simp [Qf7]);simp only [RV] at hslot;obtain ⟨base,hu⟩:=hslot;by_cases h0:ys.length=0
  ·have hnil:ys=[]:=List.eq_nil_of_length_eq_zero h0;subst hnil;refine ⟨_,w,g,nothing _ 0 0 hu (Nat.le_refl _) rfl,h.grow hd t0 h.mem keptrefl rfl rfl rfl (Nat.le_refl _) (fun _=>rfl) (fun d hd'=>?_) trivial⟩
   simp_all [RV,trivial]
  ·have:=grow [] _ olds base 0 hsl hu (by simp;omega) (fun _=>⟨rfl,rfl⟩) (by simpa using hlim) hbytes (by omega);simpa using this
 ·rw [hsown] at hslot;have hon:(V.ownT (P.cellsOf e) (l++ys)).on (There σ.M):=trivial;by_cases h0:ys.length=0
  ·have hnil:ys=[]:=List.eq_nil_of_length_eq_zero h0;subst hnil;simp only [List.append_nil] at hon ⊢;have hshape0:∃ base cap,a.tmps.getD t0 undef = .slice base l.length cap∧l.length≤cap:=by
    have:=Qwr hslot
    grind [RD]
   obtain ⟨base,cap,hu,hn⟩:=hshape0;have hkx:=Kept.ex g w (.slot t0 []) (.slot (dst.getD 0) []) (There σ.M);refine ⟨_,w,g.re (ex (.slot t0 []) (.slot (dst.getD 0) [])),nothing base l.length cap hu hn rfl,h.grow hd t0 ?_ hkx rfl rfl rfl (Nat.le_refl _) (fun _=>rfl) (fun d hd'=>by grind [Qbh4]) hon⟩;refine h.mem.kept hkx h.mOn (fun _ i h=>Qkr h) (by simp) (fun _ _=>by simp) fun b o hb=>?_;obtain ⟨h1,h2⟩:=h.mem.imm b o hb
   grind [G.re,ex]
  ·obtain ⟨olds,hsl⟩:=Qr0 (sz:=P.cellsOf e) h.mem hslot (ys:=l) (by simp [Qf7]);have growT:∀ (l:List (List D)) (u0:Value) (olds:List Value) (base:Option Addr) (cap:Nat),Src g w (P.cellsOf e) l u0 olds→u0 = .slice base l.length cap→cap<l.length+ys.length→(base=none→l=[]∧cap=0) →
     l.length+ys.length≤lim →
     ∃ val w' g',(Builtin.append_ #[t,t] ty #[u0,ux]).run P w = .ok val w'∧SR n0 nt g0 w0 ⟨Q9 (σ.s.put t0 (σ.s t0).dem) dst (.ownT (P.cellsOf e) (l++ys)),σ.M,σ.nb⟩ (a.put dst val) w' g':=by
    intro l u0 olds base cap a1 a2 a3 a4 a5;obtain ⟨val,w',g',r1,r2⟩:=grow l u0 olds base cap a1 a2 a3 a4 a5 hbytes (by omega);refine ⟨val,w',g',r1,Qbh6 r2 fun i=>?_⟩;cases dst with
    | none=>exact .inl rfl
    | some d =>
     simp only [Q9,Sl.put]
     grind
   simp only [RV] at hslot;rcases hslot with ⟨⟨base,hu⟩,rfl⟩|⟨b,o0,cap,vals,e',hu,hb,hh,hlc,hcm,⟨hvs,hvone⟩,him,hrow⟩
   ·grind
   ·by_cases hroom:l.length+ys.length≤cap
    ·rcases hshape with ⟨rfl,_⟩|⟨bx,ox,hax,hcx⟩
     ·simp at h0
     ·subst hax;have hnews:∀ j u,news[j]? = some u→w.cell? ((⟨bx,ox,none⟩ : Addr).add j)=some u:=fun j u hj=>by rw [Qgz];exact hcx j u hj
      have hfit:o0+l.length*i.size+news.length≤vals.size:=by
       rw [hsy.len,hvs,hsz,Nat.add_assoc,← Nat.add_mul];exact Nat.add_le_add_left (Nat.mul_le_mul_right _ hroom) _
      have hrun:=Qr1 P w t ty e e' i ht hi b o0 l.length cap vals hh ⟨bx,ox,none⟩ ys.length cx news (by rw [hsz];exact hsy.len) hnews hsy.one hroom hfit;rw [hsz] at hrun;generalize hrowdef:(vals.toList.take (o0+l.length*P.cellsOf e)++news++vals.toList.drop (o0+l.length*P.cellsOf e+news.length))=row at hrun;have hrg:∀ j,row[j]? = if j<o0+l.length*P.cellsOf e then vals[j]? else if j<o0+l.length*P.cellsOf e+news.length then news[j-(o0+l.length*P.cellsOf e)]? else vals[j]?:=by
       intro j;rw [← hrowdef,Qk0 vals.toList news _ _ rfl (by grind)];simp
      have hlt:b<w.heap.size:=(Array.getElem?_eq_some_iff.1 hh).1;let g' : G:={ box:=g.box,imm:=fun c o=>g.imm c o∨(c=b∧o<o0+(l.length+ys.length)*P.cellsOf e),own:=fun c=>ex (.slot t0 []) (.slot (dst.getD 0) []) (g.own c) };have hI:Imm g.imm g'.imm w (w.setRow b row.toArray):=by
       refine ⟨fun _ _ hc=>.inl hc,fun c o hc=>?_⟩;by_cases hcb:c=b
       ·subst hcb;refine Q4w hh (setRow_heap w c vals row.toArray e' (0,0) hh) ?_;have ho:=(him o).1 hc;rw [cell_setRow_same w c o vals row.toArray e' (0,0) hh];have:w.cell? ⟨c,o,none⟩=vals[o]?:=by simp [World.cell?,hh]
        grind
       ·exact Qet (setRow_other w b c _ hcb)
      have hkept:Kept g w g' (w.setRow b row.toArray) (There σ.M) (fun o=>o ≠ .slot t0 []):=by
       refine ⟨hI,fun _ _=>rfl,fun c hc hclt=>?_⟩;have hcb:c≠b:=by rintro rfl;exact hc hb
       exact ⟨by simp only [g',ex];rw [if_neg hc],setRow_other w b c _ hcb,fun o=>by simp [g',hcb]⟩
      have hm:MR g' (w.setRow b row.toArray) σ.M σ.nb:=by
       refine h.mem.kept hkept h.mOn (fun _ i h=>Qkr h) (by simp) (fun _ _=>by simp) ?_;rintro c o (hc|⟨rfl,_⟩)
       ·obtain ⟨h1,h2⟩:=h.mem.imm c o hc
        grind [Go.setRow_size,ex]
       ·refine ⟨by rw [setRow_size];exact hlt,fun k=>?_⟩;simp only [g',ex];rw [if_pos hb];simp
      refine ⟨_,_,g',by rw [hu,hux];exact hrun,h.grow hd t0 hm hkept rfl rfl rfl (by simp) (fun _=>rfl) (fun d hd'=>?_) hon⟩;simp only [RV];refine .inr ⟨b,o0,cap,row.toArray,e',by simp,by simp only [g',ex];grind,setRow_heap w b vals _ e' (0,0) hh,by simpa using hroom,hcm,⟨?_,?_⟩,fun o=>?_,?_⟩
      ·grind
      ·intro u hu';rw [← hrowdef] at hu';simp only [List.mem_append] at hu';rcases hu' with (hu'|hu')|hu'
       ·grind
       ·exact hsy.one u hu'
       grind
      ·rw [List.length_append]
       grind
      ·refine Qwv (RDL_mono hI _ b l o0 hrow) (Q6f hsy.len hsy.sizes (fun i y j d x h1 h2 h3=>Qf0 hI d x (hsy.rd i y j d x h1 h2 h3)) fun j x hj=>?_);have hj':=(List.getElem?_eq_some_iff.1 hj).1;refine ⟨?_,.inr ⟨rfl,by rw [hsy.len] at hj';rw [Nat.add_mul];omega⟩⟩;rw [cell_setRow_same w b _ vals row.toArray e' (0,0) hh];have:=hrg (o0+l.length*P.cellsOf e+j);rw [if_neg (by omega),if_pos (by omega),show o0+l.length*P.cellsOf e+j-(o0+l.length*P.cellsOf e)=j from by omega,hj] at this;simpa using this
    grind
 ·rw [hssl] at hslot;obtain ⟨olds,hsl⟩:=Qr0 h.mem hslot (by rw [← hssl];exact hel);have hu:a.tmps.getD t0 undef = .slice (some ⟨g.box k,off,none⟩) len cap:=by simpa [RV] using hslot
  have hlen:l.length=len:=by
   obtain ⟨_,_,h1,_⟩:=hsl.shape
   grind
  rcases hcases with ⟨h0,rfl,rfl,rfl⟩|⟨h0,hlc,rfl⟩|⟨hpos,hcl,hlim,hbytes,_,rfl⟩
  ·refine ⟨_,w,g,nothing _ 0 0 hu (Nat.le_refl _) h0,h.grow hd t0 h.mem keptrefl rfl rfl rfl (Nat.le_refl _) (fun _=>rfl) (fun d hd'=>?_) trivial⟩
   simp_all [RV,trivial]
  ·refine ⟨_,w,g,nothing _ len cap hu hlc h0,h.grow hd t0 h.mem keptrefl rfl rfl rfl (Nat.le_refl _) (fun _=>rfl) (fun d hd'=>?_) (h.onS t0)⟩
   grind [RV]
  grind
theorem Qbh7 (h:SR n0 nt g0 w0 σ a w g) {dst:Option Nat} (hd:∀ d,dst=some d→d<nt) (t ty e:TypeId) (ht:P.underlying t=some (.slice e)) {z:List V} (hz:Qq7 P e=some z) (hzl:z.length=P.cellsOf e)
  (t0:Nat) {x v:V} {ux:Value} {ℓx:Owner} {κ:Nat} {M' : Mem} (hx:RV g w x ℓx ux)
  (hs:Qh n0 κ (.appw (P.cellsOf e) (P.bytesOf e)) [σ.s t0,x] σ.M=some (v,M')) :
  ∃ val w' g',(Builtin.append_ #[t,t] ty #[a.tmps.getD t0 undef,ux]).run P w = .ok val w'∧SR n0 nt g0 w0 ⟨Q9 σ.s dst v,M',σ.nb⟩ (a.put dst val) w' g':=by
 obtain ⟨hs0,hs|⟨k,off,len,cap,cs,ys,hsl,hMk,hy,hpos,hsz0,hroom,hle,hys,rfl,rfl⟩⟩:=Q43 hs
 ·obtain ⟨val,w',g',h1,h2⟩:=Q7l P h hd t ty e ht hz hzl t0 hx hs;have e0:σ.s.put t0 (σ.s t0).dem=σ.s:=by
   funext i;simp only [Sl.put];split
   ·rename_i e;subst e;rcases hs0 with ⟨_,_,_,_,e⟩|⟨_,e⟩<;>rw [e]<;>rfl
   ·rfl
  grind
 ·obtain ⟨i,zv,hi,_,_,_⟩:=Qjd P hz;have hsz:i.size=P.cellsOf e:=(Qe2 P hi).symm;obtain ⟨news,hsy⟩:=Qr0 h.mem hx hy;obtain ⟨adx,cx,hux,hshape⟩:=hsy.shape;have hslot:=h.slots t0;rw [hsl] at hslot;have hu:a.tmps.getD t0 undef = .slice (some ⟨g.box k,off,none⟩) len cap:=by simpa [RV] using hslot
  obtain ⟨hkb,hbo,vals,e',hh,hr,h1⟩:=h.mem.box k _ hMk;obtain ⟨hvl,hrv⟩:=(Qcr _ _ _ _).1 hr;obtain ⟨hfl,hfa⟩:=Qbc7 hys;rcases hshape with ⟨rfl,_⟩|⟨bx,ox,rfl,hcx⟩
  ·simp at hpos
  have hnews:∀ j u,news[j]? = some u→w.cell? ((⟨bx,ox,none⟩ : Addr).add j)=some u:=fun j u hj=>by rw [Qgz];exact hcx j u hj
  have hnl:=hsy.len;have hmul:(len+ys.length)*P.cellsOf e=len*P.cellsOf e+ys.length*P.cellsOf e:=Nat.add_mul _ _ _;have hrun:=Qr1 P w t ty e e' i ht hi (g.box k) off len cap vals.toArray hh ⟨bx,ox,none⟩ ys.length cx news (by rw [hsz];exact hsy.len) hnews hsy.one hroom (by grind);rw [hsz,hnl] at hrun;have hkept:=Qx4 (g:=g) (w:=w) h.mem hMk (vals.toArray.toList.take (off+len*P.cellsOf e)++news++vals.toArray.toList.drop (off+len*P.cellsOf e+ys.length*P.cellsOf e)).toArray;have hmono:∀ c ℓ u,ℓ ≠ .box k→c.on (There σ.M)→RV g w c ℓ u→RV g (w.setRow (g.box k) (vals.toArray.toList.take (off+len*P.cellsOf e)++news++vals.toArray.toList.drop (off+len*P.cellsOf e+ys.length*P.cellsOf e)).toArray) c ℓ u :=
   fun c ℓ u hℓ hc hv=>Qdc hkept (fun _ i h=>Qmk h) (by simp) c ℓ u hℓ hc hv
  have hT:There (σ.M.put k (.cells (cs.take (off+len*P.cellsOf e)++ys.flatten.map V.d++cs.drop (off+len*P.cellsOf e+ys.length*P.cellsOf e)))) k:=There.self;have hTk:There σ.M k:=by simp [There,hMk]
  refine ⟨_,_,g,by rw [hu,hux];exact hrun,SR.row h (f:=id) (fun _ _=>Iff.rfl) (fun _ _=>rfl) hMk hh ((Qcr _ _ _ _).2 ⟨by grind,fun j c u hc hu'=>?_⟩) (fun u hu'=>?_)
   (Qfk (fun d hd'=>by rw [h.size];exact hd d hd') (fun t _=>hmono _ _ _ (by simp) (h.onS t) (h.slots t)) (fun d _=>by simp only [RV];rfl)) (Qgk _ _ _) (Qeb _ _ _) (Qfl (fun t=>h.onS t) hTk) ?_ (fun hlt=>?_) (fun j cs' _ hj i c u hc hru=>hru) (fun j i sz l u hv=>hv)⟩
  ·rw [Qk0 cs _ _ _ (by grind) (by omega)] at hc;rw [Qk0 vals news _ _ hnl (by omega)] at hu';simp only [Nat.zero_add,Owner.sub];split at hc
   ·rename_i hlt;rw [if_pos hlt] at hu';exact hmono _ _ _ (by simp) (Qfa (h.mOn k cs hMk) hc) (by grind [Owner.sub])
   ·rename_i hge;rw [if_neg hge] at hu';split at hc
    ·rename_i hlt;rw [if_pos hlt] at hu';rw [List.getElem?_map] at hc;obtain ⟨d,hd',rfl⟩:=Option.map_eq_some_iff.1 hc;obtain ⟨p,q,y,e1,e2,e3⟩:=hfa _ d hd';have:=hsy.rd p y q d u e2 e3 (by rw [← e1];exact hu');simp only [RV];exact Qf0 hkept.imm d u this
    ·rename_i hge2;rw [if_neg hge2] at hu';exact hmono _ _ _ (by simp) (Qfa (h.mOn k cs hMk) hc) (by grind [Owner.sub])
  ·rcases List.mem_append.1 hu' with hu'|hu'
   ·rcases List.mem_append.1 hu' with hu'|hu'
    ·grind
    ·exact hsy.one u hu'
   grind
  ·exact Qe3.2 ⟨Qe3.2 ⟨Qm1 _ (h.mOn k cs hMk),Qbf1 _⟩,Qm2 _ (h.mOn k cs hMk)⟩
  ·exact Qe3.2 ⟨Qe3.2 ⟨Qm1 _ (h.out k cs hMk hlt),Qbf1 _⟩,Qm2 _ (h.out k cs hMk hlt)⟩
end
end Go.Abs
end
section
namespace Go.Abs
open Go
section
variable (P:Program) {g:G} {w:World} {n0 nt:Nat} {g0:G} {w0:World} {σ:St} {a:Act}
def relab (t d:Nat):Owner→Owner
 | .slot t' p=>if t'=t then .slot d p else .slot t' p
 | o=>o
theorem Qoy (t d:Nat) (o:Owner) (i:Nat):relab t d (o.sub i)=(relab t d o).sub i:=by
 cases o<;>simp [relab,Owner.sub]
 grind
theorem Q2x {t d t' : Nat} (h:t' ≠ t) (p:List Nat):relab t d (.slot t' p) = .slot t' p:=by simp [relab,h]
theorem Q44 (t d:Nat) (p:List Nat):relab t d (.slot t p) = .slot d p:=by simp [relab]
theorem Q7m {t d:Nat} {o:Owner} {k:Nat}:relab t d o = .box k↔o = .box k:=by
 cases o<;>simp [relab];split<;>simp
theorem MR.relab (hm:MR g w σ.M σ.nb) (t d:Nat):MR (g.re (relab t d)) w σ.M σ.nb:=by
 refine ⟨fun k b hk=>?_,fun b o hb=>⟨(hm.imm b o hb).1,fun k e=>(hm.imm b o hb).2 k (Q7m.1 e)⟩⟩;obtain ⟨h1,h2,h3⟩:=hm.box k b hk;refine ⟨h1,Q7m.2 h2,?_⟩;cases b with
 | mp es c =>
  obtain ⟨ents,hh,hr⟩:=h3;exact ⟨ents,hh,Q7h (g:=g) (g':=g.re (Abs.relab t d)) (Imm.refl _ _) (fun b i hbi _=>⟨by simp [G.re,Abs.relab,hbi],rfl,fun _=>Iff.rfl⟩) hr⟩
 | cells cs =>
  obtain ⟨vals,e,hh,hr,ho⟩:=h3;exact ⟨vals,e,hh,RVs_re (Qoy t d) rfl cs (.box k) 0 vals hr,ho⟩
theorem Qbc8 (h:SR n0 nt g0 w0 σ a w g) (t0 d:Nat) (hd:d<nt) :
  ∃ g',SR n0 nt g0 w0 ⟨Q9 (σ.s.put t0 (σ.s t0).dem) (some d) (σ.s t0),σ.M,σ.nb⟩ (a.put (some d) (a.tmps.getD t0 undef)) w g':=by
 have hfix:∀ o,Prot o→Abs.relab t0 d o=o:=by intro o ho;cases o<;>first|rfl|exact ho.elim
 refine ⟨g.re (Abs.relab t0 d),h.step (h.mem.relab t0 d) ?_ (Qfk (fun d' hd'=>by cases hd';rw [h.size];exact hd) (fun t ht=>?_) (fun d' hd'=>?_)) (Qgk _ _ _) (Qeb _ _ _)
  (Qfl (fun t=>?_) (h.onS t0)) h.mOn h.out⟩
 ·exact ⟨rfl,rfl,rfl,Nat.le_refl _,Imm.refl _ _,fun _ _=>rfl,fun b hb ho=>⟨hfix _ ho,rfl,fun _=>Iff.rfl⟩⟩
 ·have htd:t≠d:=fun e=>ht (by rw [e]);simp only [Sl.put];split
  ·rename_i he;subst he;have:=Qp8 (Qoy t d) rfl (σ.s t).dem .ext _ (Qhn _ _ .ext _ (h.slots t));exact Qle (Qdu _) this
  ·rename_i hne;have:=Qp8 (Qoy t0 d) rfl (σ.s t) _ _ (h.slots t)
   rwa [Q2x hne] at this
 ·cases hd';have:=Qp8 (Qoy t0 d) rfl (σ.s t0) _ _ (h.slots t0)
  rwa [Q44] at this
 ·simp only [Sl.put];split
  ·exact (Qdt _).2 (h.onS t0)
  ·exact h.onS t
theorem MR.re_slots (hm:MR g w σ.M σ.nb) (hon:MOn (There σ.M) σ.M) {f:Owner→Owner} (hf:∀ o,(∀ t p,o ≠ .slot t p)→f o=o) (hb:∀ t p k,f (.slot t p) ≠ .box k):MR (g.re f) w σ.M σ.nb:=by
 refine hm.kept ((Kept.re g w f (There σ.M)).weaken (fun _ h=>h) hf) hon (fun ℓ i h t p=>?_) (fun _ _=>by simp) (fun _ _ _ _=>by simp) (fun b o hbo=>⟨(hm.imm b o hbo).1,fun k=>?_⟩)
 ·cases ℓ<;>first|exact absurd rfl (h _ _)|simp [Owner.sub]
 ·have h2:=(hm.imm b o hbo).2 k;show f (g.own b) ≠ .box k
  grind
theorem MR.ex_slot (hm:MR g w σ.M σ.nb) (hon:MOn (There σ.M) σ.M) (t:Nat) (p:List Nat) (y:Owner) (hy:∀ k,y ≠ .box k):MR (g.re (ex (.slot t p) y)) w σ.M σ.nb:=by
 have hkx:=Kept.ex g w (.slot t p) y (There σ.M);have himm:∀ b o,g.imm b o→b<w.heap.size∧∀ k,ex (.slot t p) y (g.own b) ≠ .box k:=by
  intro b o hb;obtain ⟨h1,h2⟩:=hm.imm b o hb
  grind [ex]
 refine ⟨fun k b hk=>?_,himm⟩;obtain ⟨h1,h2,h3⟩:=hm.box k b hk;refine ⟨h1,by simp_all [G.re,ex,if_neg],?_⟩;cases b with
 | mp es c =>
  obtain ⟨ents,hh,hr⟩:=h3;exact ⟨ents,hh,Qkq (g:=g) (g':=g.re (ex (.slot t p) y)) hkx (fun _=>by simp) hr⟩
 | cells cs =>
  obtain ⟨vals,e,hh,hr,ho⟩:=h3;refine ⟨vals,e,hh,(Qcr _ _ _ _).2 ⟨Qor hr,fun i c u hc hu=>?_⟩,ho⟩;have hru:=((Qcr _ _ _ _).1 hr).2 i c u hc hu;have hkk:Kept g w (g.re (ex (.slot t p) y)) w (There σ.M) (fun o=>(∃ k c,o = .cell k c)∨o = .ext) :=
   hkx.weaken (fun _ h=>h) (by grind)
  refine Qdc hkk ?_ (.inr rfl) c _ u (.inl ⟨k,0+i,rfl⟩) (Qfa (hon k cs hk) hc) hru;rintro ℓ i (⟨k,c,rfl⟩|rfl)
  ·exact .inl ⟨k,c,rfl⟩
  ·exact .inr rfl
theorem Qban (h:SR n0 nt g0 w0 σ a w g) (t0 d:Nat) (hd:d<nt) {v:V} {val:Value} (hv:RV g w v (.slot t0 []) val) (hon:v.on (There σ.M)) :
  ∃ g',SR n0 nt g0 w0 ⟨Q9 (σ.s.put t0 (σ.s t0).dem) (some d) v,σ.M,σ.nb⟩ (a.put (some d) val) w g':=by
 have hfix:∀ o,Prot o→Abs.relab t0 d o=o:=by intro o ho;cases o<;>first|rfl|exact ho.elim
 refine ⟨g.re (Abs.relab t0 d),h.step (h.mem.relab t0 d) ?_ (Qfk (fun d' hd'=>by cases hd';rw [h.size];exact hd) (fun t ht=>?_) (fun d' hd'=>?_)) (Qgk _ _ _) (Qeb _ _ _)
  (Qfl (fun t=>?_) hon) h.mOn h.out⟩
 ·exact ⟨rfl,rfl,rfl,Nat.le_refl _,Imm.refl _ _,fun _ _=>rfl,fun b hb ho=>⟨hfix _ ho,rfl,fun _=>Iff.rfl⟩⟩
 ·have htd:t≠d:=fun e=>ht (by rw [e]);simp only [Sl.put];split
  ·rename_i he;subst he;have:=Qp8 (Qoy t d) rfl (σ.s t).dem .ext _ (Qhn _ _ .ext _ (h.slots t));exact Qle (Qdu _) this
  ·rename_i hne;have:=Qp8 (Qoy t0 d) rfl (σ.s t) _ _ (h.slots t)
   rwa [Q2x hne] at this
 ·cases hd';have:=Qp8 (Qoy t0 d) rfl v _ _ hv
  rwa [Q44] at this
 ·simp only [Sl.put];split
  ·exact (Qdt _).2 (h.onS t0)
  ·exact h.onS t
theorem Qbf4 (t e:TypeId) (ht:P.underlying t=some (.slice e)) (h0:P.cellsOf e≠0) {l:List (List D)} {ℓ:Owner} {u:Value} (hx:RV g w (.ownT (P.cellsOf e) l) ℓ u) (k:IntKind) (n:Int) (h1:0≤n) (h2:n≤l.length) :
  ∃ val,(Instr.sliceAt t u (some (.int k n)) none none).run P w = .ok val w∧RV g w (.ownT (P.cellsOf e) (l.drop n.toNat)) ℓ val:=by
 have hrun:∀ (ad:Option Addr) (len cap:Nat),n≤len→len≤cap→(Instr.sliceAt t (.slice ad len cap) (some (.int k n)) none none).run P w = .ok (sliced ad n.toNat len cap (P.cellsOf e)) w:=by
  intro ad len cap hn hc;have:=Qwt (g:=g) (w:=w) P t e ht h0 (some (.int k n)) none (bs:=[.d (.int k n)]) (la:=some n) (hb:=none) ⟨_,_,rfl,RF_d.2 (by simp [RD]),rfl⟩ rfl ad len cap h1 (by simpa using hn) (by simp) hc;simpa using this
 simp only [RV] at hx;rcases hx with ⟨⟨ad,rfl⟩,rfl⟩|⟨b,o0,cap,vals,e',rfl,hb,hh,hlc,hcm,⟨hvs,hvone⟩,him,hrow⟩
 ·simp_all [RV,Go.sliced]
 ·refine ⟨_,hrun _ l.length cap h2 hlc,?_⟩;simp only [RV];by_cases hm:cap=n.toNat
  ·simp_all [Go.sliced,if_pos,List.eq_nil_of_length_eq_zero,List.length_drop]
  ·refine .inr ⟨b,o0+n.toNat*P.cellsOf e,cap-n.toNat,vals,e',?_,hb,hh,by grind,by omega,⟨?_,hvone⟩,fun o=>?_,Q1g fun i x hi=>?_⟩
   ·simp only [sliced];rw [if_neg hm];simp [Qgz]
   ·rw [hvs,Nat.add_assoc,← Nat.add_mul];congr 2;omega
   ·rw [him o,List.length_drop,Nat.add_assoc,← Nat.add_mul,show n.toNat+(l.length-n.toNat)=l.length from by omega]
   ·rw [List.getElem?_drop] at hi;have:=Qxz hrow _ _ hi
    grind
theorem Q9k (h:SR n0 nt g0 w0 σ a w g) (t0 i d:Nat) (hd:d<nt) {v:V} {vs:List V} (hv:σ.s t0 = .tup vs) (hi:vs[i]? = some v) :
  ∃ val g',(Instr.extract (a.tmps.getD t0 undef) i).run P w = .ok val w ∧
   SR n0 nt g0 w0 ⟨Q9 (σ.s.put t0 (.tup (vs.set i v.dem))) (some d) v.top,σ.M,σ.nb⟩ (a.put (some d) val) w g':=by
 have hslot:=h.slots t0;have honv:=h.onS t0;rw [hv] at hslot honv;simp only [RV] at hslot;obtain ⟨us,hus,hr⟩:=hslot;obtain ⟨hlen,hr⟩:=(Qcr _ _ _ _).1 hr;have hilt:=(List.getElem?_eq_some_iff.1 hi).1;have hui:=List.getElem?_eq_getElem (show i<us.length by omega);have hvi:=hr i v _ hi hui;simp only [Nat.zero_add,Owner.sub] at hvi;have hrun:(Instr.extract (a.tmps.getD t0 undef) i).run P w = .ok us[i] w:=by
  simp_all [Go.Instr.extract,List.getElem?_eq_getElem]
 have honv' : V.ons (There σ.M) vs:=honv;have honi:v.on (There σ.M):=Qfa honv' hi;have hon' : ∀ t,(σ.s.put t0 (.tup (vs.set i v.dem)) t).on (There σ.M):=by
  intro t;simp only [Sl.put];split
  ·grind [V.on,Q0k,Qdt]
  ·exact h.onS t
 have tupslot:∀ g' : G,(∀ (j:Nat) c u,j≠i→vs[j]? = some c→us[j]? = some u→RV g' w c (.slot t0 [j]) u)→RV g' w v.dem (.slot t0 [i]) us[i]→RV g' w (.tup (vs.set i v.dem)) (.slot t0 []) (a.tmps.getD t0 undef):=by
  intro g' h1 h2;simp only [RV];refine ⟨us,hus,(Qcr _ _ _ _).2 ⟨by simp [hlen],fun j c u hc hu=>?_⟩⟩;simp only [Nat.zero_add,Owner.sub]
  grind
 by_cases hown:∃ sz l,v = .own sz l
 ·obtain ⟨sz,l,rfl⟩:=hown;have hkx:=Kept.ex g w (.slot t0 [i]) (.slot d []) (There σ.M);refine ⟨us[i],g.re (ex (.slot t0 [i]) (.slot d [])),hrun,h.step (h.mem.ex_slot h.mOn t0 [i] _ (by simp)) ?_ (Qfk (fun d' hd'=>by cases hd';rw [h.size];exact hd) (fun t ht=>?_) (fun d' hd'=>?_)) (Qgk _ _ _) (Qeb _ _ _)
   (Qfl hon' trivial) h.mOn h.out⟩
  ·exact ⟨rfl,rfl,rfl,Nat.le_refl _,Imm.refl _ _,fun _ _=>rfl,fun b hb ho=>⟨by simp only [G.re,ex];rw [if_neg (by intro e;rw [e] at ho;exact ho)],rfl,fun _=>Iff.rfl⟩⟩
  ·simp only [Sl.put];split
   ·rename_i he;subst he;refine tupslot _ (fun j c u hj hc hu=>?_) ?_
    ·have hk:Kept g w (g.re (ex (.slot t [i]) (.slot d []))) w (There σ.M) (fun o=>(∃ q,o = .slot t (q++[j]))∨o = .ext):=by
      refine hkx.weaken (fun _ h=>h) ?_;rintro o (⟨q,rfl⟩|rfl)
      ·intro e;injection e with _ e
       have:=congrArg List.getLast? e
       grind
      ·simp
     refine Qdc hk ?_ (.inr rfl) c _ u (.inl ⟨[],rfl⟩) (Qfa honv' hc) ?_
     ·rintro ℓ i' (⟨q,rfl⟩|rfl)
      ·exact .inl ⟨i'::q,rfl⟩
      ·exact .inr rfl
     grind [Owner.sub]
    ·exact Qkz (hkx.weaken (fun _ h=>h) (by rintro o rfl;simp)) (Qdu _) ((Qdt _).2 honi) (Qhn _ _ (.slot t [i]) _ hvi)
   ·rename_i hne;have hk:Kept g w (g.re (ex (.slot t0 [i]) (.slot d []))) w (There σ.M) (fun o=>(∃ q,o = .slot t q)∨o = .ext):=by
     refine hkx.weaken (fun _ h=>h) ?_
     grind
    refine Qdc hk ?_ (.inr rfl) _ _ _ (.inl ⟨[],rfl⟩) (h.onS t) (h.slots t);rintro ℓ i' (⟨q,rfl⟩|rfl)
    ·exact .inl ⟨i'::q,rfl⟩
    ·exact .inr rfl
  ·cases hd';exact Q41 hvi
 ·have htop:v.top=v.dem:=Qwu fun sz l e=>hown ⟨sz,l,e⟩;refine ⟨us[i],g,hrun,h.step h.mem (Fr.refl _ _ _) (Qfk (fun d' hd'=>by cases hd';rw [h.size];exact hd) (fun t ht=>?_) (fun d' hd'=>?_)) (Qgk _ _ _) (Qeb _ _ _)
   (Qfl hon' ((Q4y v).2 honi)) h.mOn h.out⟩
  ·simp only [Sl.put];split
   ·grind [Owner.sub,Qhn]
   ·exact h.slots t
  grind [Qhn]
theorem Qbb3 {x v:V} {u:Value} {i κ:Nat} {M M' : Mem} (hfl:Flat x) (hx:RF g w x u) (hs:Qh n0 κ (.extract i) [x] M=some (v,M')) :
  M'=M∧∃ val,(Instr.extract u i).run P w = .ok val w∧RF g w v val:=by
 cases x<;>try (simp [Qh] at hs;done)
 rename_i vs;simp only [Qh,Option.map_eq_some_iff,Prod.mk.injEq] at hs;obtain ⟨c,hc,rfl,rfl⟩:=hs;have h':=hx .free;simp only [RV] at h';obtain ⟨us,rfl,hr⟩:=h';obtain ⟨hlen,hr⟩:=(Qcr _ _ _ _).1 hr;have hilt:=(List.getElem?_eq_some_iff.1 hc).1;have hvi:=hr i c _ hc (List.getElem?_eq_getElem (show i<us.length by omega));have hcd:c.dem=c:=by
  have hf' : V.dems vs=vs:=by simpa [Flat,V.dem] using hfl
  have hc' : (V.dems vs)[i]? = some c:=by rw [hf'];exact hc
  obtain ⟨c',_,rfl⟩:=Q16 hc';exact Qdu c'
 have htop:c.top=c:=by
  rw [Qwu];exact hcd;rintro sz l rfl;simp [V.dem] at hcd
 rw [htop];exact ⟨rfl,us[i],by simp_all [Go.Instr.extract,List.getElem?_eq_getElem],fun ℓ=>Qle hcd hvi⟩
theorem Qbf5 (h:SR n0 nt g0 w0 σ a w g) {dst:Option Nat} (hd:∀ d,dst=some d→d<nt) (t e:TypeId) (ht:P.underlying t=some (.slice e)) {p v:V} {up:Value} {κ:Nat} {M' : Mem}
  (hp:RF g w p up) (hpon:p.on (There σ.M)) (hs:Qh n0 κ .loadT [p] σ.M=some (v,M')) :
  ∃ val g',(Instr.loadAt t up).run P w = .ok val w∧SR n0 nt g0 w0 ⟨Q9 σ.s dst v,M',σ.nb⟩ (a.put dst val) w g':=by
 have key:∃ k off cs x,p = .ptr k off∧σ.M k=some (.cells cs)∧cs[off]? = some x∧v=x.top∧M'=σ.M.put k (.cells (cs.set off x.dem)):=by
  cases p<;>try (simp [Qh] at hs;done)
  rename_i k off;simp only [Qh] at hs
  grind
 obtain ⟨k,off,cs,x,rfl,hk,hx,rfl,rfl⟩:=key;rw [Qqk] at hp;subst hp;obtain ⟨hkb,hbo,vals,et,hh,hr,h1⟩:=h.mem.box k _ hk;obtain ⟨hvl,hrv⟩:=(Qcr _ _ _ _).1 hr;obtain ⟨u,hu,hru,_⟩:=Qws h.mem hk hx;have hA:Qhl P t=false:=by simp [Qhl,ht]
 have hrun:(Instr.loadAt t (.pointer (some ⟨g.box k,off,none⟩))).run P w = .ok u w:=by simp [Instr.loadAt,Instr.sureAddr,Q2r P t ht hA _ u hu]
 have honx:x.on (There σ.M):=Qfa (h.mOn k cs hk) hx;have hthere:∀ j,There σ.M j→There (σ.M.put k (.cells (cs.set off x.dem))) j:=fun j hj=>hj.put;have hvu:vals[off]? = some u:=by
  grind [Go.World.cell?]
 have mem:∀ g' : G,g'.box=g.box→g'.imm=g.imm→(∀ o j,g'.own o = .box j↔g.own o = .box j)→(∀ j i c u,(j≠k∨i≠off)→c.on (There σ.M)→RV g w c (.cell j i) u→RV g' w c (.cell j i) u)→RV g' w x.dem (.cell k off) u →
   MR g' w (σ.M.put k (.cells (cs.set off x.dem))) σ.nb:=by
  intro g' hb hi ho hc hx';refine ⟨fun j b hj=>?_,fun b o hbo=>?_⟩
  ·simp only [Mem.put] at hj;split at hj
   ·rename_i he;subst he;cases hj;refine ⟨hkb,by grind,vals,et,by rw [hb];exact hh,(Qcr _ _ _ _).2 ⟨by simp [hvl],fun i c z hci hz=>?_⟩,h1⟩;simp only [Nat.zero_add,Owner.sub];rw [List.getElem?_set] at hci;split at hci
    ·grind
    ·rename_i hne;have hcz:=hrv i c z hci hz;simp only [Nat.zero_add,Owner.sub] at hcz;exact hc _ _ _ _ (.inr fun e=>hne e.symm) (Qfa (h.mOn j cs hk) hci) hcz
   ·rename_i hne;obtain ⟨k1,k2,k3⟩:=h.mem.box j b hj;refine ⟨k1,by grind,?_⟩;cases b with
    | mp es c =>
     obtain ⟨ents,hh',hr'⟩:=k3;exact ⟨ents,by rw [hb];exact hh',Qbcy (g:=g) (by rw [hi];exact Imm.refl _ _) (fun sz l i u hv=>hc j i (.own sz l) u (.inl hne) trivial hv) hr'⟩
    | cells cs' =>
     obtain ⟨vs,e',hh',hr',ho'⟩:=k3;refine ⟨vs,e',by rw [hb];exact hh',(Qcr _ _ _ _).2 ⟨Qor hr',fun i c z hci hz=>?_⟩,ho'⟩;have hcz:=((Qcr _ _ _ _).1 hr').2 i c z hci hz;simp only [Nat.zero_add,Owner.sub] at hcz ⊢;exact hc _ _ _ _ (.inl hne) (Qfa (h.mOn j cs' hj) hci) hcz
  ·rw [hi] at hbo;obtain ⟨h3,h4⟩:=h.mem.imm b o hbo
   grind
 have hMon:MOn (There (σ.M.put k (.cells (cs.set off x.dem)))) (σ.M.put k (.cells (cs.set off x.dem))):=by
  intro j cs' hj;simp only [Mem.put] at hj;split at hj
  ·cases hj;exact ons_mono hthere _ (Q0k _ (h.mOn k cs hk) ((Qdt x).2 honx))
  ·exact ons_mono hthere _ (h.mOn j cs' hj)
 have hMout:∀ j cs',(σ.M.put k (.cells (cs.set off x.dem))) j=some (.cells cs')→j<n0→V.ons (· < n0) cs':=by
  intro j cs' hj hlt;simp only [Mem.put] at hj;split at hj
  ·rename_i he;subst he;cases hj;exact Q0k _ (h.out j cs hk hlt) ((Qdt x).2 (Qfa (h.out j cs hk hlt) hx))
  ·exact h.out j cs' hj hlt
 by_cases hown:∃ sz l,x = .own sz l
 ·obtain ⟨sz,l,rfl⟩:=hown;have hkx:=Kept.ex g w (.cell k off) (.slot (dst.getD 0) []) (There σ.M);refine ⟨u,g.re (ex (.cell k off) (.slot (dst.getD 0) [])),hrun,h.step (mem _ rfl rfl (fun o j=>?_) (fun j i c z hji hon hz=>?_) ?_) ?_ (Qfk (fun d' hd'=>by rw [h.size];exact hd d' hd') (fun t ht=>?_) (fun d' hd'=>?_)) (Qgk _ _ _) (Qeb _ _ _)
   (Qfl (fun t=>Qfj hthere _ (h.onS t)) trivial) hMon hMout⟩
  ·simp only [G.re,ex]
   grind
  ·have hk' : Kept g w (g.re (ex (.cell k off) (.slot (dst.getD 0) []))) w (There σ.M) (fun o=>o = .cell j i∨o = .ext) :=
    hkx.weaken (fun _ h=>h) (by grind)
   refine Qdc hk' ?_ (.inr rfl) c _ z (.inl rfl) hon hz;rintro ℓ i' (rfl|rfl)
   ·exact .inl rfl
   ·exact .inr rfl
  ·exact Qkz (hkx.weaken (fun _ h=>h) (by rintro o rfl;simp)) (Qdu _) ((Qdt _).2 honx) (Qhn _ _ (.cell k off) _ hru)
  ·exact ⟨rfl,rfl,rfl,Nat.le_refl _,Imm.refl _ _,fun _ _=>rfl,fun b hb ho=>⟨by simp only [G.re,ex];rw [if_neg (by intro e;rw [e] at ho;exact ho)],rfl,fun _=>Iff.rfl⟩⟩
  ·have hk' : Kept g w (g.re (ex (.cell k off) (.slot (dst.getD 0) []))) w (There σ.M) (fun o=>(∃ t q,o = .slot t q)∨o = .ext) :=
    hkx.weaken (fun _ h=>h) (by grind)
   refine Qdc hk' ?_ (.inr rfl) _ _ _ (.inl ⟨t,[],rfl⟩) (h.onS t) (h.slots t);rintro ℓ i' (⟨t,q,rfl⟩|rfl)
   ·exact .inl ⟨t,i'::q,rfl⟩
   ·exact .inr rfl
  ·simp only [hd',Option.getD_some];exact Q41 hru
 ·have htop:x.top=x.dem:=Qwu fun sz l e=>hown ⟨sz,l,e⟩;refine ⟨u,g,hrun,h.step (mem g rfl rfl (fun _ _=>Iff.rfl) (fun j i c z _ _ hz=>hz) (Qhn _ _ _ _ hru)) (Fr.refl _ _ _) (Qfk (fun d' hd'=>by rw [h.size];exact hd d' hd') (fun t _=>h.slots t) (fun d' _=>by grind [Qhn])) (Qgk _ _ _) (Qeb _ _ _)
   (Qfl (fun t=>Qfj hthere _ (h.onS t)) (Qfj hthere _ ((Q4y x).2 honx))) hMon hMout⟩
end
end Go.Abs
end
section
namespace Go.Abs
open Go
section
variable (P:Program) {g:G} {w:World} {n0 nt:Nat} {g0:G} {w0:World} {σ:St} {a:Act}
theorem Q7n {ty:TypeId} {v:Value} {x:V} (h:Qbad P ty v=some x):RF g w x v∧∀ p,x.on p:=by
 unfold Qbad at h;split at h<;>try (cases h;done)
 ·cases h;exact ⟨by rw [RF_d];simp [RD],fun _=>trivial⟩
 ·cases h;exact ⟨by rw [RF_d];simp [RD],fun _=>trivial⟩
 ·cases h;exact ⟨by rw [RF_d];simp [RD],fun _=>trivial⟩
 ·cases h;exact ⟨fun ℓ=>by simp [RV],fun _=>trivial⟩
 ·cases h;exact ⟨fun ℓ=>by simp [RV],fun _=>trivial⟩
 ·cases h;exact ⟨fun ℓ=>by simp [RV],fun _=>trivial⟩
 ·cases h;exact ⟨fun ℓ=>by simp [RV],fun _=>trivial⟩
 ·split at h<;>cases h;exact ⟨fun ℓ=>by simp [RV],fun _=>trivial⟩
theorem Qr2 (h:SR n0 nt g0 w0 σ a w g) {ty:TypeId} {x:Operand} {ar:Arg} (hc:Qfz P ty x=some ar) :
  (∃ t,x = .tmp t∧ar = .t t∧RV g w (σ.s t) (.slot t []) (a.eval x)∧(σ.s t).on (There σ.M))∨(Q4k x=false∧(∃ c,ar = .c c∧RF g w c (a.eval x)∧c.on (There σ.M))):=by
 cases x<;>simp only [Qfz] at hc
 case tmp t=>cases hc;exact .inl ⟨t,rfl,rfl,h.slots t,h.onS t⟩
 case const v =>
  simp only [Option.map_eq_some_iff] at hc;obtain ⟨c,hc,rfl⟩:=hc;obtain ⟨h1,h2⟩:=Q7n P hc;exact .inr ⟨rfl,c,rfl,h1,h2 _⟩
 case global=>cases hc
 case func f =>
  cases hc;exact .inr ⟨rfl,_,rfl,fun ℓ=>by simp [RV,RVs,Act.eval],by simp [V.on,V.ons]⟩
theorem Qgs (h:SR n0 nt g0 w0 σ a w g) {ty:TypeId} {x:Operand} {ar:Arg} (hc:Qfz P ty x=some ar) :
  RF g w (ar.val σ.s).dem (a.eval x)∧(ar.val σ.s).on (There σ.M):=by
 rcases Qr2 P h hc with ⟨t,rfl,rfl,h1,h2⟩|⟨_,c,rfl,h1,h2⟩
 ·exact ⟨Qu8 h1,h2⟩
 ·exact ⟨Qu8 (h1 .free),h2⟩
theorem Qd6 (h:SR n0 nt g0 w0 σ a w g) (ctx:Nat→TypeId):∀ (i:Nat) (xs:List Operand) (as:List Arg),Qek P ctx i xs=some as →
  RFs g w (V.dems (as.map (·.val σ.s))) (xs.map a.eval)∧V.ons (There σ.M) (V.dems (as.map (·.val σ.s)))
 | i,[],as,hc=>by simp [Qek] at hc;subst hc;exact ⟨rfl,trivial⟩
 | i,x::xs,as,hc=>by
  simp only [Qek] at hc;split at hc<;>cases hc;rename_i ar as' har has;obtain ⟨h1,h2⟩:=Qgs P h har;obtain ⟨h3,h4⟩:=Qd6 h ctx (i+1) xs as' has;exact ⟨⟨_,_,rfl,h1,h3⟩,(Qdt _).2 h2,h4⟩
theorem Qj1 {xs:List V}:∀ x∈V.dems xs,Flat x:=by
 intro x hx;obtain ⟨j,hj,rfl⟩:=List.getElem_of_mem hx;obtain ⟨c,_,h⟩:=Q16 (List.getElem?_eq_getElem hj);rw [h];exact Qdu c
def Gives (P:Program) (n0 nt:Nat) (g0:G) (w0:World) (o:Oper) (a:Act) (w:World) (σ' : St):Prop :=
 (∃ val w' g',(execOp a.eval o).run P w = .ok (.value val) w'∧SR n0 nt g0 w0 σ' (a.put o.dst val) w' g') ∨
 (∃ w' g',(execOp a.eval o).run P w = .ok .skip w'∧SR n0 nt g0 w0 σ' (a.put o.dst undef) w' g')
theorem Gives.wp {o:Oper} {σ' : St} {Q:Exit→Act→World→Prop} (h:Gives P n0 nt g0 w0 o a w σ') {K:Act→World→Prop} (hK:∀ a' w' g',SR n0 nt g0 w0 σ' a' w' g'→K a' w'):o.wp P a w K Q:=by
 unfold Oper.wp;rcases h with ⟨val,w',g',hr,hs⟩|⟨w',g',hr,hs⟩
 ·rw [hr];exact hK _ _ g' hs
 ·rw [hr];exact hK _ _ g' hs
theorem Q7o {T:Tk} {o:Oper} {k:K} {as:List Arg} {tk:Bool} (hc:Qio P T o=some (k,as,tk)):k.okz:=by
 have hz:∀ {t z},Qq7 P t=some z→∀ p,V.ons p z:=fun h p=>by
  obtain ⟨_,_,_,_,_,hlt⟩:=Qjd P h;exact ons_mono (by simp) _ (ons_lt (n:=0) _ (hlt 0))
 unfold Qio Qxx at hc
 repeat' split at hc
 all_goals grind [Option.map_eq_some_iff,Option.bind_eq_some_iff,Option.some.injEq,Prod.mk.injEq,K.okz]
theorem Q2y {n0 κ:Nat} {z:List V} {pl:List (Nat×Nat)} {xs:List V} {M:Mem}:Qh n0 κ (.build z pl) xs M=(if pl.length=(own1 xs).length&&(pl.zip (own1 xs)).all (fun (p,x)=>Qd5 x&&x.cells.length==p.2&&decide (p.1+p.2≤z.length))
  then some (V.agg (Qh9 z ((pl.zip (own1 xs)).map fun (p,x)=>(p.1,x.cells))),M) else none):=by cases xs<;>rfl
theorem Q7p (R:Nat→V→V→Prop):∀ (ps ps' : List (Nat×List V)) (z z' : List V),z.length=z'.length→(∀ (i:Nat) (c c' : V),z[i]? = some c→z'[i]? = some c'→R i c c')→ps.length=ps'.length →
  (∀ (j:Nat) (q q' : Nat×List V),ps[j]? = some q→ps'[j]? = some q'→q.1=q'.1∧q.2.length=q'.2.length∧q.1+q.2.length≤z.length∧∀ (i:Nat) (c c' : V),q.2[i]? = some c→q'.2[i]? = some c'→R (q.1+i) c c') →
  (Qh9 z ps).length=(Qh9 z' ps').length∧∀ (i:Nat) (c c' : V),(Qh9 z ps)[i]? = some c→(Qh9 z' ps')[i]? = some c'→R i c c'
 | [],[],z,z',hl,hz,_,_=>⟨hl,hz⟩
 | [],_::_,_,_,_,_,h,_=>by simp at h
 | _::_,[],_,_,_,_,h,_=>by simp at h
 | (off,vs)::ps,(off',vs')::ps',z,z',hl,hz,hp,hq=>by
  obtain ⟨h1,h2,h3,h4⟩:=hq 0 _ _ rfl rfl;simp only at h1 h2 h3 h4;subst h1;simp only [Qh9];refine Q7p R ps ps' _ _ (by simp [hl,h2]) (fun i c c' hc hc'=>?_) (by simpa using hp) fun j q q' hj hj'=>?_
  ·rw [Qk0 z vs off _ rfl h3] at hc;rw [Qk0 z' vs' off _ rfl (by omega)] at hc'
   grind
  ·obtain ⟨k1,k2,k3,k4⟩:=hq (j+1) q q' (by simpa using hj) (by simpa using hj')
   grind
theorem Qql:∀ (as:List Arg) (s s0:Sl) (t:Nat),(Arg.t t∈as∧Qz s as (V.dems (as.map (·.val s0))) t=(s0 t).dem)∨(Arg.t t∉as∧Qz s as (V.dems (as.map (·.val s0))) t=s t)
 | [],s,s0,t=>.inr ⟨by simp,by simp [V.dems,Qz]⟩
 | a::as,s,s0,t=>by
  simp only [List.map_cons,V.dems,Qz];rcases Qql as (a.putTo s (a.val s0).dem) s0 t with ⟨h1,h2⟩|⟨h1,h2⟩
  ·grind
  ·rw [h2];cases a with
   | c v=>exact .inr ⟨by simpa using h1,rfl⟩
   | t i =>
    by_cases e:t=i
    all_goals simp_all [Arg.putTo,Sl.put,Arg.val]
theorem Qbc9 (ctx:Nat→TypeId):∀ (i:Nat) (xs:List Operand) (as:List Arg),Qek P ctx i xs=some as→∀ (j:Nat) (ar:Arg),as[j]? = some ar→∃ x ty,xs[j]? = some x∧Qfz P ty x=some ar
 | i,[],as,hc,j,ar,h=>by grind [Qek]
 | i,x::xs,as,hc,j,ar,h=>by
  simp only [Qek] at hc;split at hc<;>cases hc;rename_i ar' as' har has;cases j with
  | zero=>grind
  | succ j=>simpa using Qbc9 ctx (i+1) xs as' has j ar (by simpa using h)
theorem Qbao:∀ l:List V,(V.dems l).length=l.length
 | []=>rfl
 | x::l=>by simp [V.dems,Qbao l]
theorem Q9l (h:SR n0 nt g0 w0 σ a w g) (as:List Arg):(∀ t,RV g w (Qz σ.s as (V.dems (as.map (·.val σ.s))) t) (.slot t []) (a.tmps.getD t undef))∧∀ t,(Qz σ.s as (V.dems (as.map (·.val σ.s))) t).on (There σ.M):=by
 refine ⟨fun t=>?_,fun t=>?_⟩
 ·rcases Qql as σ.s σ.s t with ⟨_,e⟩|⟨_,e⟩
  ·rw [e];exact Qhn _ _ _ _ (h.slots t)
  ·rw [e];exact h.slots t
 ·rcases Qql as σ.s σ.s t with ⟨_,e⟩|⟨_,e⟩
  ·rw [e];exact (Qdt _).2 (h.onS t)
  ·rw [e];exact h.onS t
theorem Qbap:∀ {as:List Arg},nodA as=true→∀ (i j t:Nat),as[i]? = some (Arg.t t)→as[j]? = some (Arg.t t)→i=j
 | [],_,_,_,_,h,_=>by simp at h
 | a::as,hn,i,j,t,h1,h2=>by
  have ht:nodA as=true:=by cases a<;>simp_all [nodA]
  have key:∀ k:Nat,a=Arg.t t→as[k]? = some (Arg.t t)→False:=by
   rintro k rfl hk;simp only [nodA,Bool.and_eq_true,List.all_eq_true] at hn;have:=hn.1 _ (List.mem_of_getElem? hk);simp at this
  cases i with
  | zero =>
   grind
  | succ i =>
   cases j with
   | zero=>grind
   | succ j=>simp at h1 h2;exact congrArg _ (Qbap ht i j t h1 h2)
open Classical in
theorem Qbf6 {as:List Arg} (hn:nodA as=true) (d:Nat) (pos:Nat→Nat):∃ f:Owner→Owner,(∀ j t,as[j]? = some (Arg.t t)→f (.slot t []) = .slot d [pos j])∧∀ o,(∀ t,Arg.t t∈as→o ≠ .slot t [])→f o=o:=by
 refine ⟨fun o=>if h:∃ j t,as[j]? = some (Arg.t t)∧o = .slot t [] then .slot d [pos h.choose] else o,fun j t hj=>?_,fun o ho=>?_⟩
 ·have h:∃ j' t',as[j']? = some (Arg.t t')∧Owner.slot t [] = .slot t' []:=⟨j,t,hj,rfl⟩;simp only;rw [dif_pos h];obtain ⟨t',h1,h2⟩:=h.choose_spec;injection h2 with h2 _
  subst h2;rw [Qbap hn _ j _ h1 hj]
 ·simp only;rw [dif_neg];rintro ⟨j,t,h1,h2⟩;exact ho t (List.mem_of_getElem? h1) h2
def mark (nb j:Nat) (x:V) (u:Value):V :=
 match x with
 | .own sz _=>match u with
  | .slice (some _) n cap=>if cap=0 then .nils sz else .sl sz (nb+j) 0 n cap
  | _=>.nils sz
 | x=>x.dem
theorem Qbda {nb j:Nat} {x:V} {u:Value}:Flat (mark nb j x u):=by
 unfold mark;split
 ·split
  ·split<;>rfl
  ·rfl
 ·exact Qdu _
theorem Q17 {nb j sz:Nat} {l:List (List D)} {u:Value}:Qd5 (mark nb j (.own sz l) u)=true∧(mark nb j (.own sz l) u).cells=[mark nb j (.own sz l) u]:=by
 simp only [mark];split
 ·split<;>exact ⟨rfl,rfl⟩
 ·exact ⟨rfl,rfl⟩
theorem Qbaq {nb j:Nat} {x:V} {u:Value} (h:∀ sz l,x ≠ .own sz l):mark nb j x u=x.top:=by
 rw [Qwu h];cases x<;>first|rfl|exact absurd rfl (h _ _)
def blkU:Value→Nat
 | .slice (some a) _ _=>a.block
 | _=>0
theorem Qbdb (h:SR n0 nt g0 w0 σ a w g) {d:Nat} (hd:d<nt) {ctx:Nat→TypeId} {i0:Nat} {ops:List Operand} {as:List Arg} (has:Qek P ctx i0 ops=some as) (hnd:nodA as=true) {z:List V} {pl:List (Nat×Nat)} (hzz:(K.build z pl).okz) {R:Sem Value} {v:V} {κ:Nat} {M' : Mem}
  (hB:∀ (g' : G) (xs' : List V) (v' : V) (M'' : Mem),(∀ x∈xs',Flat x)→RFs g' w xs' (ops.map a.eval)→Qh n0 κ (.build z pl) xs' σ.M=some (v',M'')→∃ val,R.run P w = .ok val w∧RF g' w v' val)
  (hs:Qh n0 κ (.build z pl) (as.map (·.val σ.s)) σ.M=some (v,M')) :
  M'=σ.M∧∃ val g',R.run P w = .ok val w∧SR n0 nt g0 w0 ⟨Q9 (Qz σ.s as (V.dems (as.map (·.val σ.s)))) (some d) v,σ.M,σ.nb⟩ (a.put (some d) val) w g':=by
 obtain ⟨hrfs,hons⟩:=Qd6 P h ctx i0 ops as has;obtain ⟨hps,hpo⟩:=Q9l h as;have hraw:V.ons (There σ.M) (as.map (·.val σ.s)):=by
  grind [V.ons,There,V.dems,ons_dems]
 have hvon:=(Q6e hzz hs hraw h.mOn).1;generalize hxs:as.map (·.val σ.s)=xs at *
 rw [Q2y] at hs;split at hs<;>cases hs;rename_i hc;refine ⟨rfl,?_⟩;simp only [Bool.and_eq_true,decide_eq_true_eq,List.all_eq_true] at hc;obtain ⟨hcl,hca⟩:=hc;have hol:(own1 xs).length=xs.length:=by rw [Qy2,List.length_map]
 have hul:(ops.map a.eval).length=xs.length:=by rw [Qif hrfs,Qbao]
 generalize hus:ops.map a.eval=us at *
 have hfacts:∀ (j sz:Nat) (l:List (List D)) (u:Value),xs[j]? = some (.own sz l)→us[j]? = some u→((∃ ad,u = .slice ad 0 0)∧l=[])∨∃ t0 b cap,as[j]? = some (Arg.t t0)∧RV g w (.own sz l) (.slot t0 []) u∧u = .slice (some ⟨b,0,none⟩) l.length cap∧l.length≤cap:=by
  intro j sz l u hx hu0;obtain ⟨ar,har,hav⟩ : ∃ ar,as[j]? = some ar∧ar.val σ.s = .own sz l:=by
   grind
  obtain ⟨x0,ty,hx0,hca0⟩:=Qbc9 P ctx i0 ops as has j ar har;have hu:a.eval x0=u:=by grind
  have key:∀ ℓ,RV g w (.own sz l) ℓ u→((∃ ad,u = .slice ad 0 0)∧l=[])∨∃ b cap,u = .slice (some ⟨b,0,none⟩) l.length cap∧g.own b=ℓ∧l.length≤cap:=by
   intro ℓ hv;simp only [RV] at hv
   grind
  rcases Qr2 P h hca0 with ⟨t0,rfl,rfl,h1,_⟩|⟨_,c,rfl,h1,_⟩
  ·grind [Arg.val]
  ·simp only [Arg.val] at hav;subst hav;rw [hu] at h1;rcases key _ (h1 .free) with hn|⟨b,cap,k1,k2,_⟩
   ·exact .inl hn
   ·rcases key _ (h1 .ext) with hn|⟨b',cap',k1',k2',_⟩
    all_goals grind
 let ms:List V:=(List.range xs.length).map fun j=>mark σ.nb j (xs.getD j .und) (us.getD j undef);let g' : G:={ g with box:=fun k=>if k<σ.nb then g.box k else blkU (us.getD (k-σ.nb) undef) };have hms:∀ (j:Nat) (m:V),ms[j]? = some m→∃ x u,xs[j]? = some x∧us[j]? = some u∧m=mark σ.nb j x u:=by
  grind
 have hml:ms.length=xs.length:=by simp [ms]
 have hfl:∀ x∈ms,Flat x:=by
  intro x hx;obtain ⟨j,hj⟩:=List.getElem?_of_mem hx;obtain ⟨_,_,_,_,rfl⟩:=hms j x hj;exact Qbda
 have hnb:∀ k,There σ.M k→k<σ.nb:=by
  intro k hk;obtain ⟨bx,hbx⟩:=Option.isSome_iff_exists.1 hk;exact (h.mem.box k bx hbx).1
 have hg' : Kept g w g' w (There σ.M) (fun _=>True):=⟨⟨fun _ _ h=>h,fun _ _ _=>rfl⟩,fun k hk=>by simp [g',hnb k hk],fun b _ _=>⟨rfl,rfl,fun _=>Iff.rfl⟩⟩;have hmu:∀ (j sz:Nat) (l:List (List D)) (u:Value) (ℓ:Owner) (u' : Value),xs[j]? = some (.own sz l)→us[j]? = some u→(RV g' w (mark σ.nb j (.own sz l) u) ℓ u' ↔ (((∃ ad,u = .slice ad 0 0)∧∃ ad,u' = .slice ad 0 0)∨((¬ ∃ ad,u = .slice ad 0 0)∧u'=u))):=by
  intro j sz l u ℓ u' hx hu;have hbox:g'.box (σ.nb+j)=blkU u:=by
   grind
  rcases hfacts j sz l u hx hu with ⟨⟨ad,rfl⟩,rfl⟩|⟨t0,b,cap,_,_,rfl,hle⟩
  ·have:mark σ.nb j (.own sz []) (.slice ad 0 0) = .nils sz:=by cases ad<;>rfl
   rw [this];simp only [RV];exact ⟨fun h=>.inl ⟨⟨ad,rfl⟩,h⟩,fun h=>h.elim (·.2) fun h=>absurd ⟨ad,rfl⟩ h.1⟩
  ·by_cases hc:cap=0
   ·subst hc;have hl:l.length=0:=by omega
    rw [hl];have:mark σ.nb j (.own sz l) (.slice (some ⟨b,0,none⟩) 0 0) = .nils sz:=rfl;rw [this];simp only [RV];exact ⟨fun h=>.inl ⟨⟨_,rfl⟩,h⟩,fun h=>h.elim (·.2) fun h=>absurd ⟨_,rfl⟩ h.1⟩
   ·have:mark σ.nb j (.own sz l) (.slice (some ⟨b,0,none⟩) l.length cap) = .sl sz (σ.nb+j) 0 l.length cap:=by simp only [mark];rw [if_neg hc]
    rw [this];simp only [RV,hbox,blkU]
    grind
 have hrfs' : RFs g' w ms us:=by
  have:∀ (ys:List V) (us:List Value),us.length=ys.length→(∀ (j:Nat) (y:V) (u:Value),ys[j]? = some y→us[j]? = some u→RF g' w y u)→RFs g' w ys us:=by
   intro ys
   induction ys with
   | nil=>intro us hl _;exact List.eq_nil_of_length_eq_zero (by simpa using hl)
   | cons y ys ih =>
    intro us hl hh;cases us with
    | nil=>simp at hl
    | cons u us=>exact ⟨u,us,rfl,hh 0 y u rfl rfl,ih us (by simpa using hl) fun j y' u' hy hu=>hh (j+1) y' u' (by simpa using hy) (by simpa using hu)⟩
  refine this _ _ (by omega) fun j y u hy huj=>?_;obtain ⟨x,u2,hx,hu2,rfl⟩:=hms j y hy;rw [huj] at hu2;cases hu2;have hdx:(V.dems xs)[j]? = some x.dem:=by
   have:∀ (l:List V) (j:Nat) (x:V),l[j]? = some x→(V.dems l)[j]? = some x.dem:=by
    intro l
    induction l with
    | nil=>intro j x h;simp at h
    | cons y l ih =>
     intro j x h;cases j with
     | zero=>simp at h;subst h;rfl
     | succ j=>grind [V.dems]
   exact this _ _ _ hx
  by_cases ho:∃ sz l,x = .own sz l
  ·obtain ⟨sz,l,rfl⟩:=ho;intro ℓ;rw [hmu j sz l u ℓ u hx huj]
   grind
  ·have hno:∀ sz l,x ≠ .own sz l:=fun sz l e=>ho ⟨sz,l,e⟩;rw [Qbaq hno,Qwu hno];intro ℓ;exact Qdc hg' (fun _ _ _=>trivial) trivial x.dem ℓ u trivial (Qfa hons hdx) (Qs9 hrfs j _ u hdx huj ℓ)
 let Rl:Nat→V→V→Prop:=fun i c c'=>c=c' ∨ ∃ j sz l u,xs[j]? = some (.own sz l)∧us[j]? = some u∧(pl.map (·.1)).getD j 0=i∧c = .own sz l∧c'=mark σ.nb j (.own sz l) u;have hpart:∀ (j:Nat) (x:V) (m:V),(own1 xs)[j]? = some x→ms[j]? = some m→x=m∨∃ sz l u,xs[j]? = some (.own sz l)∧us[j]? = some u∧x = .own sz l∧m=mark σ.nb j (.own sz l) u:=by
  intro j x m hx hm;obtain ⟨x',u,hx',hu,rfl⟩:=hms j m hm;rw [Qy2,List.getElem?_map,hx'] at hx;simp only [Option.map_some,Option.some.injEq] at hx;subst hx;by_cases ho:∃ sz l,x' = .own sz l
  ·obtain ⟨sz,l,rfl⟩:=ho;exact .inr ⟨sz,l,u,hx',hu,rfl,rfl⟩
  grind [Qbaq]
 have hst:Qh n0 κ (.build z pl) ms σ.M=some (.agg (Qh9 z ((pl.zip ms).map fun (p,x)=>(p.1,x.cells))),σ.M):=by
  rw [Q2y,Q2p hfl,if_pos];simp only [Bool.and_eq_true,decide_eq_true_eq,List.all_eq_true];refine ⟨by omega,fun q hq=>?_⟩;obtain ⟨j,hj⟩:=List.getElem?_of_mem hq;obtain ⟨q1,q2⟩:=q;rw [List.getElem?_zip_eq_some] at hj;simp only at hj;have hjl:j<(own1 xs).length:=by grind
  have hox:=List.getElem?_eq_getElem hjl;have hq':=hca (q1,(own1 xs)[j]) (List.mem_of_getElem? (i:=j) (by grind));simp only [Bool.and_eq_true,beq_iff_eq,decide_eq_true_eq] at hq' ⊢;rcases hpart j _ _ hox hj.2 with he|⟨sz,l,u,_,_,he,rfl⟩
  ·rw [← he];exact hq'
  ·rw [he] at hq';refine ⟨⟨Q17.1,?_⟩,hq'.2⟩;rw [Q17.2];exact hq'.1.2
 obtain ⟨val,hr,hrf⟩:=hB g' _ _ _ hfl hrfs' hst;have hrel:=Q7p Rl ((pl.zip (own1 xs)).map fun (p,x)=>(p.1,x.cells)) ((pl.zip ms).map fun (p,x)=>(p.1,x.cells)) z z rfl (fun i c c' hc hc'=>by grind) (by simp;omega) (fun j q q' hq hq'=>by
  rw [List.getElem?_map,Option.map_eq_some_iff] at hq hq';obtain ⟨⟨p1,x1⟩,hq,rfl⟩:=hq;obtain ⟨⟨p2,x2⟩,hq',rfl⟩:=hq';have hmem:=List.mem_of_getElem? hq;rw [List.getElem?_zip_eq_some] at hq hq';simp only at hq hq';obtain ⟨hq1,hq2⟩:=hq;obtain ⟨hq1',hq2'⟩:=hq';rw [hq1] at hq1';cases hq1';have hok:=hca (p1,x1) hmem;simp only [Bool.and_eq_true,beq_iff_eq,decide_eq_true_eq] at hok;have hlen:x1.cells.length=p1.2:=hok.1.2;rcases hpart j _ _ hq2 hq2' with rfl|⟨sz,l,u,ex,eu,rfl,rfl⟩
  ·grind
  ·refine ⟨rfl,by show _=(mark σ.nb j (.own sz l) u).cells.length;rw [Q17.2];rfl,by simp only;omega,fun i c c' hc hc'=>.inr ?_⟩;have hc:(V.own sz l).cells[i]? = some c:=hc;have hc' : (mark σ.nb j (.own sz l) u).cells[i]? = some c':=hc';rw [Q17.2] at hc';simp only [V.cells] at hc
   grind)
 obtain ⟨f,hf1,hf2⟩:=Qbf6 hnd d fun j=>(pl.map (·.1)).getD j 0;have hfs:∀ t p,(Arg.t t∉as∨p≠[])→f (.slot t p) = .slot t p:=by
  grind
 have hfo:∀ o,(∀ t p,o ≠ .slot t p)→f o=o:=fun o ho=>hf2 o fun t _=>ho t [];have hfb:∀ t p k,f (.slot t p) ≠ .box k:=by
  grind [List.getElem?_of_mem]
 have hkx:=Kept.re g w f (There σ.M);refine ⟨val,g.re f,hr,h.step (h.mem.re_slots h.mOn hfo hfb) ?_ (Qfk (fun d' hd'=>by cases hd';rw [h.size];exact hd) (fun t ht=>?_) (fun d' hd'=>?_)) (Qgk _ _ _) (Qeb _ _ _) (Qfl hpo hvon) h.mOn h.out⟩
 ·exact ⟨rfl,rfl,rfl,Nat.le_refl _,Imm.refl _ _,fun _ _=>rfl,fun b hb ho=>⟨hfo _ fun t p e=>by rw [e] at ho;exact ho,rfl,fun _=>Iff.rfl⟩⟩
 ·by_cases hm:Arg.t t∈as
  ·rcases Qql as σ.s σ.s t with ⟨_,e⟩|⟨hn,_⟩
   ·rw [hxs] at e;rw [e];exact Qkz (hkx.weaken (fun _ h=>h) (by grind)) (Qdu _) ((Qdt _).2 (h.onS t)) (Qhn _ _ (.slot t []) _ (h.slots t))
   ·exact absurd hm hn
  ·have hk:Kept g w (g.re f) w (There σ.M) (fun o=>(∃ q,o = .slot t q)∨o = .ext):=by
    refine hkx.weaken (fun _ h=>h) ?_
    grind
   refine Qdc hk ?_ (.inr rfl) _ _ _ (.inl ⟨[],rfl⟩) (hpo t) (hps t);rintro ℓ i' (⟨q,rfl⟩|rfl)
   ·exact .inl ⟨i'::q,rfl⟩
   ·exact .inr rfl
 ·cases hd';have hv:=hrf (.slot d []);simp only [RV] at hv ⊢;obtain ⟨us',hval,hrs,hone⟩:=hv;refine ⟨us',hval,(Qcr _ _ _ _).2 ⟨by grind [Qor],fun i c u hc hu=>?_⟩,hone⟩;have honv:V.ons (There σ.M) (Qh9 z ((pl.zip (own1 xs)).map fun (p,x)=>(p.1,x.cells))):=hvon;have hlt:i<(Qh9 z ((pl.zip ms).map fun (p,x)=>(p.1,x.cells))).length:=by
   grind
  have hc':=List.getElem?_eq_getElem hlt;have hru:=((Qcr _ _ _ _).1 hrs).2 i _ u hc' hu;rcases hrel.2 i c _ hc hc' with he|⟨j,sz,l,uj,ex,eu,hpj,rfl,he⟩
  ·rw [← he] at hru;have hk:Kept g' w (g.re f) w (There σ.M) (fun o=>(∃ q,o = .slot d (q++[i]))∨o = .ext):=by
    refine ⟨⟨fun b o hb=>hb,fun _ _ _=>rfl⟩,fun k hk=>by simp [g',hnb k hk,G.re],fun b hb _=>⟨?_,rfl,fun o=>Iff.rfl⟩⟩;show f (g.own b)=g.own b;have hb:(∃ q,g.own b = .slot d (q++[i]))∨g.own b = .ext:=hb;rcases hb with ⟨q,hb⟩|hb
    ·rw [hb];exact hfs _ _ (.inr (by simp))
    grind
   refine Qdc hk ?_ (.inr rfl) c _ u (.inl ⟨[],by simp [Owner.sub]⟩) (Qfa honv hc) hru;rintro ℓ i' (⟨q,rfl⟩|rfl)
   ·exact .inl ⟨i'::q,rfl⟩
   ·exact .inr rfl
  ·rw [he,hmu j sz l uj _ u ex eu] at hru;rcases hfacts j sz l uj ex eu with ⟨had,rfl⟩|⟨t0,b,cap,hat,hv0,hub,_⟩
   ·rcases hru with ⟨_,hn⟩|⟨hn,_⟩
    ·simp only [RV];grind
    ·exact absurd had hn
   ·rcases hru with ⟨⟨ad,h0⟩,⟨ad',rfl⟩⟩|⟨_,rfl⟩
    ·rw [h0] at hub;injection hub with _ hub _
     have:l=[]:=List.eq_nil_of_length_eq_zero hub.symm;subst this;simp only [RV];exact .inl ⟨⟨_,rfl⟩,trivial⟩
    grind [Qbg5,Owner.sub]
end
end Go.Abs
end
