/-
  Part 1 of the proof: see the last text.
-/
import Derived.Orders
import Derived.WalkKit
import Derived.Laws.StructEq
import Derived.WalkLawsBesides
import Derived.Laws.BytesString
import Derived.Laws.Cells
import Derived.ChangeKeysEq
set_option linter.unusedVariables false
set_option linter.unusedSimpArgs false
set_option linter.unusedSectionVars false
section
abbrev Za:=@Option.bind_some
abbrev Zb:=@List.map_cons
abbrev Zc:=@Bool.and_eq_true
abbrev Zd:=@Option.map_eq_some_iff
abbrev Ze:=@Nat.le_refl
abbrev Zf:=@Prod.mk.injEq
abbrev Zg:=@Bool.false_eq_true
abbrev Zh:=@Option.some.injEq
abbrev Zi:=@List.map_nil
abbrev Zj:=@Iff.rfl
abbrev Zk:=@List.getElem?_eq_getElem
abbrev Zl:=@List.mem_map
abbrev Zm:=@List.mem_of_getElem?
abbrev Zn:=@List.getElem?_eq_some_iff
abbrev Zo:=@List.cons.injEq
abbrev Zp:=@List.mem_filter
abbrev Zq:=@List.getElem_mem
abbrev Zr:=@List.mem_append
abbrev Zs:=@List.all_eq_true
abbrev Zt:=@List.length_map
abbrev Zu:=@Nat.add_mul
abbrev Zv:=@Nat.zero_le
abbrev Zw:=@Nat.le_of_ble_eq_true
abbrev Zx:=@List.length_cons
abbrev Zy:=@List.length_append
abbrev Zz:=@Nat.zero_add
abbrev Zaa:=@Nat.eq_of_beq_eq_true
abbrev Zab:=@Option.isSome_iff_exists
abbrev Zac:=@Nat.le_trans
abbrev Zad:=@Option.map_some
abbrev Zae:=@Bool.true_and
abbrev Zaf:=@List.any_cons
abbrev Zag:=@Array.getElem?_eq_some_iff
abbrev Zah:=@List.getElem_of_mem
abbrev Zai:=@List.getElem?_map
abbrev Zaj:=@List.mem_cons
abbrev Zak:=@List.mem_singleton
abbrev Zal:=@List.drop_eq_getElem_cons
abbrev Zam:=@Nat.lt_or_ge
abbrev Zan:=@List.pairwise_cons
abbrev Zao:=@List.eq_nil_of_length_eq_zero
abbrev Zap:=@List.map_map
abbrev Zaq:=@List.take_succ_eq_append_getElem
abbrev Zar:=@List.length_nil
abbrev Zas:=@List.append_nil
abbrev Zat:=@Option.bind_eq_some_iff
abbrev Zau:=@Bool.or_eq_true
abbrev Zav:=@Bool.and_self
abbrev Zaw:=@List.cons_append
abbrev Zax:=@List.getElem?_append_right
abbrev Zay:=@Int.toNat_natCast
abbrev Zaz:=@List.take_length
abbrev Zba:=@Int.le_refl
abbrev Zbb:=@List.flatten_cons
abbrev Zbc:=@Option.isNone_iff_eq_none
abbrev Zbd:=@List.pairwise_append
abbrev Zbe:=@Option.some.inj
abbrev Zbf:=@List.all_cons
abbrev Zbg:=@List.getElem?_append_left
abbrev Zbh:=@List.foldl_cons
abbrev Zbi:=@List.map_append
abbrev Zbj:=@List.pairwise_iff_getElem
abbrev Zbk:=@List.length_filter_le
abbrev Zbl:=@List.prefix_refl
abbrev Zbm:=@List.length_take
abbrev Zbn:=@Nat.lt_of_lt_of_le
abbrev Zbo:=@List.nil_append
abbrev Zbp:=@Nat.mul_le_mul_right
abbrev Zbq:=@Bool.or_eq_false_iff
abbrev Zbr:=@Bool.eq_iff_iff
abbrev Zbs:=@List.append_assoc
abbrev Zbt:=@List.prefix_append
abbrev Zbu:=@List.getD_eq_getElem?_getD
abbrev Zbv:=@List.getElem?_drop
abbrev Zbw:=@List.pairwise_map
abbrev Zbx:=@List.mem_of_mem_take
abbrev Zby:=@List.replicate_succ
abbrev Zbz:=@Option.bind_eq_bind
abbrev Zca:=@List.filter_eq_nil_iff
abbrev Zcb:=@List.mem_of_find?_eq_some
abbrev Zcc:=@Classical.byContradiction
abbrev Zcd:=@List.getElem?_zip_eq_some
abbrev Zce:=@List.dropLast_concat_getLast
namespace Go.Abs
inductive D where
 |int (k:IntKind) (n:Int)
 |bool (b:Bool)
 |str (s:ByteArray)
 |lst (sz:Nat) (l:List (List D))
 |mp (es:List MapEntry) (c:Nat)
inductive V where
 |und
 |d (x:D)
 |agg (cs:List V)
 |tup (vs:List V)
 |own (sz:Nat) (l:List (List D))
 |ptr (k off:Nat)
 |nilp
 |f (x:D)
 |nils (sz:Nat)
 |cref (cs:List D)
 |sl (sz k off len cap:Nat)
 |clo (f:FuncId) (caps:List V)
 |mp (k:Nat)
 |ownT (sz:Nat) (l:List (List D))
inductive Bx where
 |cells (cs:List V)
 |mp (es:List (V×V×Nat)) (c:Nat)
def Qpk:Value->V
 |.int k n=>.d (.int k n)
 |.bool b=>.d (.bool b)
 |.string s=>.d (.str s)
 |_=>.und
def Qxw:Value->V
 |.agg vs=>.agg (vs.toList.map Qpk)
 |v=>Qpk v
def entV(e:MapEntry):V×V×Nat:=(Qxw e.key,Qxw e.val,e.born)
inductive CK where
 |int (k:IntKind)
 |str
 |bool
inductive MK where
 |int (k:IntKind)
 |str
 |bool
 |st (ks:List CK)
def CK.ok:CK->V->Bool
 |.int k,.d (.int k' _)=>decide (k'=k)
 |.str,.d (.str _)=>true
 |.bool,.d (.bool _)=>true
 |_,_=>false
def okCs:List CK->List V->Bool
 |[],[]=>true
 |k::a,v::vs=>k.ok v&&okCs a vs
 |_,_=>false
def MK.ok:MK->V->Bool
 |.int k,.d (.int k' _)=>decide (k'=k)
 |.str,.d (.str _)=>true
 |.bool,.d (.bool _)=>true
 |.st a,.agg cs=>okCs a cs
 |_,_=>false
def Qlf:V->V->Bool
 |.d (.int _ a),.d (.int _ b)=>a==b
 |.d (.str a),.d (.str b)=>a==b
 |.d (.bool a),.d (.bool b)=>a==b
 |_,_=>false
def Qtm:List V->List V->Bool
 |[],[]=>true
 |x::xs,y::ys=>Qlf x y&&Qtm xs ys
 |_,_=>false
def Qgc:V->V->Bool
 |.agg xs,.agg ys=>Qtm xs ys
 |x,y=>Qlf x y
def V.dat1:V->Bool
 |.d _ | .nils _=>true
 |_=>false
def V.dat:V->Bool
 |.d _ | .nils _=>true
 |.agg cs=>cs.all V.dat1
 |_=>false
def V.mv:V->Bool
 |.own _ _=>true
 |v=>v.dat
def Qyr:V->V
 |.nils sz=>.d (.lst sz [])
 |v=>v
def Qh9(key:V):List (V×V×Nat)->Option (Nat×V)
 |[]=>none
 |(k,v,_)::es=>if Qgc key k then some (0,v) else (Qh9 key es).map fun(i,v)=>(i+1,v)
def modM(key v:V):Nat->List (V×V×Nat)->List (V×V×Nat)
 |_,[]=>[]
 |0,(_,_,b)::es=>(key,v,b)::es
 |i+1,e::es=>e::modM key v i es
def Qbbj(b:Int):List (V×V×Nat)->Option Nat
 |[]=>none
 |(_,_,c)::es=>if (c:Int)==b then some 0 else (Qbbj b es).map (· + 1)
def upM:Nat->List (V×V×Nat)->Bool
 |_,[]=>true
 |n,e::es=>decide (n<=e.2.2)&&upM (e.2.2+1) es
def MK.all(kd:MK)(es:List (V×V×Nat)):Bool:=es.all fun e=>kd.ok e.1
abbrev Mem:=Nat->Option Bx
def Mem.put(M:Mem)(k:Nat)(b:Bx):Mem:=fun i=>if i=k then some b else M i
def Mem.over(M:Mem)(nb:Nat)(a:Mem):Mem:=fun k=>if k<nb then M k else a k
def Mem.patch(M W:Mem):Mem:=fun k=>match W k with
 |some b=>some b
 |none=>M k
abbrev Sl:=Nat->V
def Sl.put(s:Sl)(t:Nat)(v:V):Sl:=fun i=>if i=t then v else s i
mutual
def V.dem:V->V
 |.own sz l=>.d (.lst sz l)
 |.ownT sz l=>.d (.lst sz l)
 |.agg cs=>.agg (V.dems cs)
 |.tup vs=>.tup (V.dems vs)
 |v=>v
def V.dems:List V->List V
 |[]=>[]
 |v::vs=>v.dem::V.dems vs
end
def V.top:V->V
 |.own sz l=>.own sz l
 |v=>v.dem
def own1:List V->List V
 |[]=>[]
 |v::vs=>v.top::own1 vs
def V.topS:V->V
 |.own sz l=>.own sz l
 |.agg cs=>.agg (own1 cs)
 |v=>v.dem
def V.lt(n:Nat):V->Bool
 |.ptr k _ | .sl _ k _ _ _ | .mp k=>decide (k<n)
 |.agg cs=>go cs
 |.tup vs=>go vs
 |.clo _ cs=>go cs
 |_=>true
where go:List V->Bool
 |[]=>true
 |v::vs=>v.lt n&&go vs
def V.cells:V->List V
 |.agg cs=>cs
 |v=>[v]
def V.toD:V->Option D
 |.d x=>some x
 |.own sz l=>some (.lst sz l)
 |.ownT sz l=>some (.lst sz l)
 |.nils sz=>some (.lst sz [])
 |_=>none
def toDs:List V->Option (List D)
 |[]=>some []
 |v::vs=>match v.toD,toDs vs with
  |some x,some xs=>some (x::xs)
  |_,_=>none
def Qjx(n:Nat):Nat->List D->List (List D)
 |0,_=>[]
 |k+1,l=>l.take n::Qjx n k (l.drop n)
def lim:Nat:=1099511627776
def Qbct(op:BinOp)(k:IntKind)(a b:Int):Option D :=
 match op with
 |.add=>some (.int k (k.wrap (a+b)))
 |.sub=>some (.int k (k.wrap (a-b)))
 |.mul=>some (.int k (k.wrap (a*b)))
 |.and=>some (.int k (k.wrap ((BitVec.ofInt k.bits a) &&& (BitVec.ofInt k.bits b)).toNat))
 |.or=>some (.int k (k.wrap ((BitVec.ofInt k.bits a) ||| (BitVec.ofInt k.bits b)).toNat))
 |.xor=>some (.int k (k.wrap ((BitVec.ofInt k.bits a) ^^^ (BitVec.ofInt k.bits b)).toNat))
 |.andNot=>some (.int k (k.wrap ((BitVec.ofInt k.bits a) &&& ~~~(BitVec.ofInt k.bits b)).toNat))
 |.eql=>some (.bool (a==b))
 |.neq=>some (.bool (a != b))
 |.lss=>some (.bool (a<b))
 |.leq=>some (.bool (a<=b))
 |.gtr=>some (.bool (a>b))
 |.geq=>some (.bool (a>=b))
 |.quo=>if b=0 then none else some (.int k (k.wrap (a.tdiv b)))
 |.rem=>if b=0 then none else some (.int k (a.tmod b))
 |_=>none
def binD(op:BinOp)(c:Bool):D->D->Option D
 |.int k a,.int k' b =>
  match op with
  |.shl=>if b<0 then none else some (.int k (k.wrap (a*2 ^ (min b.toNat k.bits))))
  |.shr=>if b<0 then none else some (.int k (a.fdiv (2 ^ (min b.toNat k.bits))))
  |_=>if k=k' then Qbct op k a b else none
 |.bool a,.bool b =>
  match op,c with
  |.eql,true=>some (.bool (a==b))
  |.neq,true=>some (.bool (!(a==b)))
  |_,_=>none
 |.str a,.str b =>
  match op with
  |.eql=>some (.bool (a.toList==b.toList))
  |.neq=>some (.bool !(a.toList==b.toList))
  |_=>none
 |_,_=>none
def unD:UnOp->D->Option D
 |.not,.bool b=>some (.bool !b)
 |.neg,.int k n=>some (.int k (k.wrap (0-n)))
 |_,_=>none
def Qer:List Nat->List V->List V->Option Bool
 |[],[],[]=>some true
 |0::c,.d (.int k a)::xs,.d (.int k' b)::ys=>if k=k' then (Qer c xs ys).map ((a==b) && ·) else none
 |1::c,.d (.bool a)::xs,.d (.bool b)::ys=>(Qer c xs ys).map ((a==b) && ·)
 |2::c,.d (.str a)::xs,.d (.str b)::ys=>(Qer c xs ys).map ((a==b) && ·)
 |_,_,_=>none
def Qbcu:List (List D)->Option (List Int)
 |[]=>some []
 |[.int .u8 n]::l=>(Qbcu l).map (n :: ·)
 |_=>none
def strB(a:List Int):ByteArray:=a.foldl (fun r n=>r.push (UInt8.ofNat n.toNat)) ByteArray.empty
inductive K where
 |mov
 |pick
 |box (n:Nat)
 |alloc (z:List V)
 |build (z:List V) (places:List (Nat×Nat))
 |bslice (sz n:Nat) (z:List V) (places:List Nat)
 |blit (sz n:Nat) (z:List V) (places:List Nat)
 |load (agg:Bool) (n:Nat)
 |loadT
 |store (n:Nat)
 |nilchk
 |bin (op:BinOp) (tb:Bool)
 |eqa (neg:Bool) (ks:List Nat)
 |un (op:UnOp)
 |conv (k:IntKind)
 |bstr
 |func (f:FuncId)
 |makes (sz bytes:Nat) (z:List V)
 |slice (sz:Nat) (lo hi:Bool)
 |slcT (sz:Nat)
 |fld (off:Nat)
 |field (agg:Bool) (off n:Nat)
 |idx (sz:Nat)
 |idxarr (sz len:Nat)
 |idxval (agg:Bool) (sz len:Nat)
 |extract (i:Nat)
 |len
 |lens
 |idxs
 |append (sz bytes:Nat)
 |appw (sz bytes:Nat)
 |max2
 |min2
 |call (f:FuncId)
 |callv
 |callO (f:FuncId) (i:Nat)
 |isnil (neg:Bool)
 |mkmap
 |lenm
 |lookup (kd:MK) (c:Bool) (z:V)
 |mapset (kd:MK)
 |lookupT (kd:MK) (z:V)
 |mapsetT (kd:MK)
 |mapentry (kd:MK) (z:V)
 |entrystore
inductive Arg where
 |t (t:Nat)
 |c (v:V)
structure COp where
 dst:Option Nat
 kind:K
 args:List Arg
 tk:Bool
 guard:Option (Nat×Bool)
structure Pair where
 a:Nat
 n:Nat
 b:Nat
 m:Nat
inductive CC where
 |skip
 |region (ops:List COp) (pc:Nat) (pairs:List Pair)
 |seq (a b:CC)
 |cond (c:Arg) (a b:CC)
 |block (id:Nat) (c:CC)
 |loop (sites:List Nat) (c:CC)
 |exit (id:Nat)
 |ret
 |dead
def Qhn(M:Mem)(sz:Nat):V->Option (List (List D))
 |.d (.lst a l)=>if a=sz then some l else none
 |.own a l=>if a=sz then some l else none
 |.ownT a l=>if a=sz then some l else none
 |.nils a=>if a=sz then some [] else none
 |.sl a k off len _ =>
  if a=sz then
   match M k with
   |some (.cells cs)=>if off+len*sz<=cs.length then (toDs ((cs.drop off).take (len*sz))).map (Qjx sz len) else none
   |_=>none
  else none
 |_=>none
def Qjy(cells:List V):List (Nat×List V)->List V
 |[]=>cells
 |(off,vs)::rest=>Qjy (cells.take off++vs++cells.drop (off+vs.length)) rest
def rep(n:Nat)(z:List V):List V:=(List.replicate n z).flatten
def Qev(x:V):Bool:=match x with | .und | .tup _=>false|_=>true
def Qj(n0 κ:Nat)(k:K)(xs:List V)(M:Mem):Option (V×Mem):=
 match k,xs with
 |.mov,[x]=>some (x,M)
 |.pick,[.d (.bool b),x,y]=>some ((if b then x else y),M)
 |.box n,[x] =>
  match x with
  |.und | .tup _=>none
  |_=>if x.cells.length=n&&(M κ).isNone then some (.ptr κ 0,M.put κ (.cells x.cells)) else none
 |.alloc z,[]=>if (M κ).isNone then some (.ptr κ 0,M.put κ (.cells z)) else none
 |.build z m,xs =>
  if m.length=(own1 xs).length&&(m.zip (own1 xs)).all (fun(p,x)=>Qev x&&x.cells.length==p.2&&decide (p.1+p.2<=z.length))
  then some (.agg (Qjy z ((m.zip (own1 xs)).map fun(p,x)=>(p.1,x.cells))),M) else none
 |.bslice sz n z m,xs =>
  if m.length=xs.length&&decide (0<sz)&&z.length==sz&&(m.zip xs).all (fun(i,x)=>Qev x&&x.cells.length==sz&&decide (i<n))&&(M κ).isNone
  then some (.sl sz κ 0 n n,M.put κ (.cells (Qjy (rep n z) ((m.zip xs).map fun(i,x)=>(i*sz,x.cells))))) else none
 |.blit sz n z m,xs =>
  if m.length=xs.length&&decide (0<sz)&&z.length==sz&&(m.zip xs).all (fun(i,x)=>Qev x&&x.cells.length==sz&&decide (i<n))
  then (toDs (Qjy (rep n z) ((m.zip xs).map fun(i,x)=>(i*sz,x.cells)))).map fun ds=>(.d (.lst sz (Qjx sz n ds)),M) else none
 |.load agg n,[.ptr k off] =>
  match M k with
  |some (.cells cs)=>
   if off+n<=cs.length then
    (if agg then some (.agg (V.dems ((cs.drop off).take n)),M) else (cs[off]?).map (·.dem,M))
   else none
  |_=>none
 |.load agg n,[.cref cs] =>
  if n<=cs.length then (if agg then some (.agg ((cs.take n).map .d),M) else (cs[0]?).map (fun x=>(.d x,M))) else none
 |.loadT,[.ptr k off] =>
  match M k with
  |some (.cells cs)=>(cs[off]?).map fun x=>(x.top,M.put k (.cells (cs.set off x.dem)))
  |_=>none
 |.store n,[.ptr k off,v] =>
  match v with
  |.und | .tup _=>none
  |_ =>
   match M k with
   |some (.cells cs)=>
    if v.topS.cells.length=n&&decide (off+n<=cs.length)&&(decide (n0<=k)||v.lt n0) then
     some (.und,M.put k (.cells (cs.take off++v.topS.cells++cs.drop (off+n)))) else none
   |_=>none
 |.nilchk,[x]=>match x with | .ptr _ _ | .cref _ | .clo _ _=>some (x,M)|_=>none
 |.bin op t,[.d x,.d y]=>(binD op t x y).map (fun z=>(.d z,M))
 |.eqa neg w,[.agg xs,.agg ys]=>(Qer w xs ys).map fun b=>(.d (.bool (if neg then !b else b)),M)
 |.un op,[.d x]=>(unD op x).map (fun z=>(.d z,M))
 |.bstr,[.d (.lst _ l)]=>(Qbcu l).map fun u=>(.d (.str (strB u)),M)
 |.conv k,[.d (.int _ n)]=>some (.d (.int k (k.wrap n)),M)
 |.func f,q=>some (.clo f q,M)
 |.makes sz bytes z,[.d (.int .i64 l),.d (.int .i64 c)] =>
  if decide (0<=l)&&decide (l<=c)&&decide (c<=lim)&&decide (bytes<=128)&&z.length==sz&&decide (0<sz)&&(M κ).isNone
  then some (.sl sz κ 0 l.toNat c.toNat,M.put κ (.cells (rep c.toNat z))) else none
 |.slice sz lo r,x::bs =>
  match (match lo,r,bs with
   |false,false,[]=>some ((none:Option Int),(none:Option Int))
   |true,false,[.d (.int _ a)]=>some (some a,none)
   |false,true,[.d (.int _ b)]=>some (none,some b)
   |true,true,[.d (.int _ a),.d (.int _ b)]=>some (some a,some b)
   | _,_,_=>none) with
  |some (a,b)=>
   match x with
   |.d (.lst g l) | .own g l =>
    let h:=b.getD l.length;let a:=a.getD 0
    if g=sz&&decide (0<=a)&&decide (a<=h)&&decide (h<=l.length) then some (.d (.lst sz ((l.take h.toNat).drop a.toNat)),M) else none
   |.sl g k off len cap =>
    let h:=b.getD len;let a:=a.getD 0
    if g=sz&&decide (0<=a)&&decide (a<=h)&&decide (h<=len)&&decide (len<=cap) then some ((if cap=a.toNat then .sl sz k off 0 0 else .sl sz k (off+a.toNat*sz) (h.toNat-a.toNat) (cap-a.toNat)),M) else none
   |.nils g=>if g=sz&&decide (0<=a.getD 0)&&decide (a.getD 0<=b.getD 0)&&decide (b.getD 0<=0) then some (.nils sz,M) else none
   |_=>none
  |none=>none
 |.slcT sz,[x,.d (.int _ a)] =>
  match x with
  |.d (.lst g l)=>if g=sz&&decide (0<=a)&&decide (a<=l.length) then some (.d (.lst sz (l.drop a.toNat)),M) else none
  |.own g l | .ownT g l=>if g=sz&&decide (0<=a)&&decide (a<=l.length) then some (.ownT sz (l.drop a.toNat),M) else none
  |_=>none
 |.fld off,[.ptr k o]=>some (.ptr k (o+off),M)
 |.fld off,[.cref cs]=>some (.cref (cs.drop off),M)
 |.field agg off n,[.agg cs] =>
  if off+n<=cs.length then (if agg then some (.agg ((cs.drop off).take n),M) else (cs[off]?).map (·,M)) else none
 |.idx sz,[x,.d (.int _ i)] =>
  match x with
  |.d (.lst g l) | .own g l=>if g=sz&&decide (0<=i) then (l[i.toNat]?).map fun c=>(.cref c,M) else none
  |.sl g k off len _=>if g=sz&&decide (0<=i)&&decide (i<len) then some (.ptr k (off+i.toNat*sz),M) else none
  |_=>none
 |.idxarr sz len,[x,.d (.int _ i)] =>
  if decide (0<=i)&&decide (i<len) then
   match x with
   |.ptr k o=>some (.ptr k (o+i.toNat*sz),M)
   |.cref cs=>some (.cref (cs.drop (i.toNat*sz)),M)
   |_=>none
  else none
 |.idxval agg sz len,[.agg cs,.d (.int _ i)] =>
  if decide (0<=i)&&decide (i<len)&&cs.length==len*sz then
   (if agg then some (.agg ((cs.drop (i.toNat*sz)).take sz),M) else (cs[i.toNat*sz]?).map (·,M)) else none
 |.extract i,[.tup vs]=>(vs[i]?).map fun v=>(v.top,M)
 |.len,[x] =>
  match x with
  |.d (.lst _ l) | .own _ l=>some (.d (.int .i64 l.length),M)
  |.nils _=>some (.d (.int .i64 0),M)
  |.sl _ _ _ n _=>some (.d (.int .i64 n),M)
  |_=>none
 |.lenm,[.mp k]=>match M k with|some (.mp es _)=>some (.d (.int .i64 es.length),M)|_=>none
 |.lenm,[.d (.mp es _)]=>some (.d (.int .i64 es.length),M)
 |.lens,[.d (.str s)]=>some (.d (.int .i64 s.size),M)
 |.idxs,[.d (.str s),.d (.int _ i)]=>if r:0<=i/\i<s.size then some (.d (.int .u8 (s[i.toNat]'(by omega)).toNat),M) else none
 |.append sz bytes,[.own g l,x] =>
  match Qhn M sz x with
  |some ys=>if g=sz&&decide (l.length+ys.length<=lim)&&decide (bytes<=128)&&decide (0<sz) then some (.own sz (l++ys),M) else none
  |none=>none
 |.append sz bytes,[.ownT g l,x] =>
  match Qhn M sz x with
  |some ys=>if g=sz&&decide (l.length+ys.length<=lim)&&decide (bytes<=128)&&decide (0<sz) then some (.ownT sz (l++ys),M) else none
  |none=>none
 |.append sz bytes,[.nils g,x] =>
  match Qhn M sz x with
  |some ys=>if g=sz&&decide (ys.length<=lim)&&decide (bytes<=128)&&decide (0<sz) then some (.own sz ys,M) else none
  |none=>none
 |.append sz bytes,[.sl g k off len cap,x] =>
  match Qhn M sz (.sl g k off len cap),Qhn M sz x with
  |some l,some ys =>
   if ys.length=0 then (if len=0&&cap=0 then some (.own sz [],M) else if len<=cap then some (.sl g k off len cap,M) else none)
   else if decide (cap<len+ys.length)&&decide (l.length+ys.length<=lim)&&decide (bytes<=128)&&decide (0<sz) then some (.own sz (l++ys),M) else none
  |_,_=>none
 |.appw sz bytes,[.sl g k off len cap,x] =>
  match Qhn M sz (.sl g k off len cap),Qhn M sz x,M k with
  |some l,some ys,some (.cells cs)=>
   if ys.length=0 then (if len=0&&cap=0 then some (.own sz [],M) else if len<=cap then some (.sl g k off len cap,M) else none)
   else if len+ys.length<=cap then
    (if decide (0<sz)&&decide (off+(len+ys.length)*sz<=cs.length)&&ys.all (fun y=>y.length==sz) then
     some (.sl g k off (len+ys.length) cap,M.put k (.cells (cs.take (off+len*sz)++ys.flatten.map V.d++cs.drop (off+len*sz+ys.length*sz)))) else none)
   else if decide (cap<len+ys.length)&&decide (l.length+ys.length<=lim)&&decide (bytes<=128)&&decide (0<sz) then some (.own sz (l++ys),M) else none
  |_,_,_=>none
 |.appw sz bytes,[.nils g,x] =>
  match Qhn M sz x with
  |some ys=>if g=sz&&decide (ys.length<=lim)&&decide (bytes<=128)&&decide (0<sz) then some (.own sz ys,M) else none
  |none=>none
 |.mkmap,[]=>if (M κ).isNone then some (.mp κ,M.put κ (.mp [] 0)) else none
 |.mkmap,[.d (.int _ _)]=>if (M κ).isNone then some (.mp κ,M.put κ (.mp [] 0)) else none
 |.lookup kd c z,[.mp k,key] =>
  match M k with
  |some (.mp es _)=>if kd.ok key&&kd.all es then
    (match Qh9 key es with
     |some (_,v)=>if v.mv then some (if c then .tup [v.dem,.d (.bool true)] else v.dem,M) else none
     | none=>if z.dat then some (if c then .tup [z,.d (.bool false)] else z,M) else none) else none
  |_=>none
 |.lookup kd c z,[.d (.mp j _),key] =>
  if kd.ok key&&kd.all (j.map entV) then
    (match Qh9 key (j.map entV) with
     |some (_,v)=>if v.dat&&(j.map entV).all (fun e=>e.2.1.dat) then some (if c then .tup [v,.d (.bool true)] else v,M) else none
     | none=>if z.dat&&(j.map entV).all (fun e=>e.2.1.dat) then some (if c then .tup [z,.d (.bool false)] else z,M) else none) else none
 |.lookupT kd z,[.mp k,key] =>
  match M k with
  |some (.mp es c)=>if kd.ok key&&kd.all es&&upM 0 es then
    (match Qh9 key es with
     |some (i,.own sz l)=>(es[i]?).map fun e=>(.own sz l,M.put k (.mp (modM e.1 (.d (.lst sz l)) i es) c))
     |some _=>none
     | none=>if z.dat then some (z,M) else none) else none
  |_=>none
 |.mapsetT kd,[.mp k,key,.own sz l] =>
  match M k with
  |some (.mp es c)=>if kd.ok key&&kd.all es then
    some (.und,M.put k (match Qh9 key es with
     |some (i,_)=>.mp (modM key (.own sz l) i es) c
     | none=>.mp (es++[(key,.own sz l,c)]) (c+1))) else none
  |_=>none
 |.mapset kd,[.mp k,key,v] =>
  match M k with
  |some (.mp es c)=>if kd.ok key&&kd.all es&&v.dat then
    some (.und,M.put k (match Qh9 key es with
     |some (i,_)=>.mp (modM key (Qyr v) i es) c
     | none=>.mp (es++[(key,Qyr v,c)]) (c+1))) else none
  |_=>none
 |.mapentry kd z,[.mp k,key] =>
  match M k with
  |some (.mp es c)=>if kd.ok key&&kd.all es&&z.dat then
    (match Qh9 key es with
     |some (i,v)=>if v.dat then (es[i]?).map fun e=>(.tup [v,.d (.int .i64 e.2.2)],M.put k (.mp (modM key v i es) c)) else none
     | none=>some (.tup [z,.d (.int .i64 c)],M.put k (.mp (es++[(key,z,c)]) (c+1)))) else none
  |_=>none
 |.entrystore,[.mp k,.d (.int .i64 b),v] =>
  match M k with
  |some (.mp es c)=>if v.dat then
    (match Qbbj b es with
     |some i=>(es[i]?).map fun e=>(.und,M.put k (.mp (modM e.1 (Qyr v) i es) c))
     | none=>none) else none
  |_=>none
 |.max2,[.d (.int k a),.d (.int k' b)]=>if k=k' then some (.d (.int k (if b>a then b else a)),M) else none
 |.min2,[.d (.int k a),.d (.int k' b)]=>if k=k' then some (.d (.int k (if b<a then b else a)),M) else none
 |_,_=>none
def Qcc(k:K)(xs:List V):List V :=
 match k,xs with
 |.mov,[x]=>[x.dem]
 |.append ..,[s,x]=>[s.dem,x.dem]
 |.slcT _,[x,i]=>[x.dem,i]
 |.store _,[p,v]=>[p,v.dem]
 |.mapsetT _,[m,k,v]=>[m,k,v.dem]
 |.build ..,xs=>V.dems xs
 |.box _,[x]=>[x.dem]
 |.extract i,[.tup vs]=>[.tup (match vs[i]? with|some v=>vs.set i v.dem|none=>vs)]
 |_,xs=>xs
structure St where
 s:Sl
 M:Mem
 nb:Nat
def Arg.val(s:Sl):Arg->V
 |.t i=>s i
 |.c v=>v
def Arg.putTo(a:Arg)(s:Sl)(v:V):Sl :=
 match a with
 |.t i=>s.put i v
 |.c _=>s
def Qbc(s:Sl):List Arg->List V->Sl
 |a::as,v::vs=>Qbc (a.putTo s v) as vs
 |_,_=>s
def Qbn(s:Sl)(dst:Option Nat)(v:V):Sl :=
 match dst with
 |some t=>s.put t v
 |none=>s
def COp.xs(o:COp)(s:Sl):List V:=if o.tk then o.args.map (·.val s) else V.dems (o.args.map (·.val s))
def COp.wanted(o:COp)(s:Sl):Option Bool :=
 match o.guard with
 |none=>some true
 |some (t,want)=>match s t with
  |.d (.bool b)=>some (b==want)
  |.tup []=>some false
  |_=>none
abbrev Ctx:=FuncId->List V->Mem->Nat->V->Mem->Nat->Prop
def COp.step(o:COp)(n0:Nat)(σ:St):Option St :=
 let xs:=o.xs σ.s
 match Qj n0 (n0+o.dst.getD 0) o.kind xs σ.M with
 |some (v,M)=>some { s:=Qbn (if o.tk then Qbc σ.s o.args (Qcc o.kind xs) else σ.s) o.dst v,M,nb:=σ.nb }
 |none=>none
def COp.callee(o:COp)(s:Sl):Option (FuncId×List V):=
 match o.kind with
 |.call f=>some (f,V.dems (o.args.map (·.val s)))
 |.callv=>match (o.args.map (·.val s):List V) with
  |V.clo f a::rest=>some (f,V.dems rest++V.dems a)
  |_=>none
 |_=>none
def K.isCall:K->Bool
 |.call _ | .callv=>true
 |_=>false
def K.isNil:K->Bool
 |.isnil _ | .callO ..=>true
 |_=>false
def K.negNil:K->Bool
 |.isnil b=>b
 |_=>false
def Q7a:List V->Option Nat
 |[.d (.lst _ l)]=>some l.length
 |[.own _ l]=>some l.length
 |[.nils _]=>some 0
 |[.sl ..]=>some 1
 |_=>none
def Arg.own(s:Sl):Arg->V
 |.t i=>(s i).top
 |.c v=>v.dem
def Q10(s:Sl):Nat->List Arg->List V
 |_,[]=>[]
 |0,a::as=>a.own s::V.dems (as.map (·.val s))
 |i+1,a::as=>(a.val s).dem::Q10 s i as
def Qwe:Nat->List Arg->Option Nat
 |_,[]=>none
 |0,.t t::_=>some t
 |0,.c _::_=>none
 |i+1,_::as=>Qwe i as
def Qwf(s:Sl):Option Nat->Sl
 |some t=>s.put t (s t).dem
 |none=>s
def wrs(m:Nat):Option Nat->Bool
 |some d=>m.testBit d
 |none=>false
def COp.runN(C:Ctx)(n0:Nat)(pc:Nat)(o:COp)(σ:St)(Q:St->Prop):Prop :=
 match o.kind with
 |.callO f i=>pc=0/\∃r M nb,C f (Q10 σ.s i o.args) σ.M σ.nb r M nb/\(∀k,(σ.M k).isSome=true->(M k).isSome=true)/\(∀k cs,k<n0->M k=some (.cells cs)->M k=σ.M k\/V.lt.go n0 cs=true) /\
   Q { s:=Qbn (Qwf σ.s (Qwe i o.args)) o.dst r,M,nb }
 |_=>match Q7a (o.xs σ.s) with
  |some n=>∀b:Bool,(b=true->n=0)->Q { σ with s:=Qbn σ.s o.dst (.d (.bool (if o.kind.negNil then !b else b))) }
  |none=>False
def COp.run(C:Ctx)(n0:Nat)(pc:Nat)(o:COp)(σ:St)(Q:St->Prop):Prop :=
 match o.wanted σ.s with
 |some true =>
  if o.kind.isCall then
   match o.callee σ.s with
   |some (f,args)=>
    match pc with
    |0=>∃r M nb,C f args σ.M σ.nb r M nb/\(∀k,(σ.M k).isSome=true->(M k).isSome=true)/\(∀k cs,k<n0->M k=some (.cells cs)->M k=σ.M k\/V.lt.go n0 cs=true)/\Q { s:=Qbn σ.s o.dst r,M,nb }
    |1=>∃r a nb,(∀M,(∀k,(σ.M k).isSome=true->M k=σ.M k)->(∀k,σ.nb<=k->M k=none)->C f args M σ.nb r (M.over σ.nb a) nb)/\Q { s:=Qbn σ.s o.dst r,M:=σ.M.over σ.nb a,nb }
    |n+2=>if n<8 then ∃r,(∀M nb,C f args M nb r M nb)/\Q { s:=Qbn σ.s o.dst r,M:=σ.M,nb:=σ.nb }
     else ∃r W a nb,(wrs (n-8) o.dst=true\/∀k,W k=none)/\(∀k,(W k).isSome=true->(σ.M k).isSome=true)/\(∀k cs,k<n0->W k=some (.cells cs)->V.lt.go n0 cs=true) /\
      (∀M,(∀k,(σ.M k).isSome=true->M k=σ.M k)->(∀k,σ.nb<=k->M k=none)->C f args M σ.nb r ((M.patch W).over σ.nb a) nb)/\Q { s:=Qbn σ.s o.dst r,M:=(σ.M.patch W).over σ.nb a,nb }
   |none=>False
  else if o.kind.isNil then o.runN C n0 pc σ Q
  else
   match o.step n0 σ with
   |some b=>Q b
   |none=>False
 |some false=>Q { σ with s:=Qbn σ.s o.dst (.tup []) }
 |none=>False
def Qbcv(C:Ctx)(n0:Nat)(pc:Nat):List COp->St->(St->Prop)->Prop
 |[],σ,Q=>Q σ
 |o::os,σ,Q=>o.run C n0 pc σ fun a=>Qbcv C n0 pc os a Q
def Qnh(x:V)(n:Nat)(y:V)(m:Nat):Bool :=
 match x,y with
 |.ptr k o,.ptr k' o'=>decide (k≠k')||decide (o+n<=o')||decide (o'+m<=o)
 |.ptr k _,.sl _ k' _ _ _=>decide (k≠k')
 |.sl _ k' _ _ _,.ptr k _=>decide (k≠k')
 |.cref _,_|_,.cref _ | .d _,_|_,.d _ | .own _ _,_|_,.own _ _ | .ownT _ _,_|_,.ownT _ _ | .nils _,_=>true
 |_,_=>false
inductive Ex where
 |norm
 |exit (id:Nat)
 |ret
def Qef(P:Nat->Bool):V->V
 |.ptr k o=>if P k then .und else .ptr k o
 |.sl sz k o n c=>if P k then .und else .sl sz k o n c
 |.mp k=>if P k then .und else .mp k
 |.agg cs=>.agg (go cs)
 |.tup vs=>.tup (go vs)
 |.clo f cs=>.clo f (go cs)
 |v=>v
where go:List V->List V
 |[]=>[]
 |v::vs=>Qef P v::go vs
def Qkz(n0:Nat)(sites:List Nat)(k:Nat):Bool:=sites.any fun t=>k==n0+t
def Qnf(n0:Nat)(sites:List Nat)(σ:St):St :=
 {
  s:=fun t=>Qef (Qkz n0 sites) (σ.s t)
  M:=fun k=>if Qkz n0 sites k then none else if k<n0 then σ.M k else
   match σ.M k with
   |some (.cells cs)=>some (.cells (cs.map (Qef (Qkz n0 sites))))
   |b=>b
  nb:=σ.nb }
inductive Res where
 |t (i:Nat)
 |cell (p:Nat) (agg:Bool) (n:Nat)
def Res.val(σ:St):Res->Option V
 |.t i=>some (σ.s i)
 |.cell p agg n=>(Qj 0 0 (.load agg n) [σ.s p] σ.M).map (·.1)
def Qqo(σ:St):List Res->Option V
 |[r]=>r.val σ
 |rs=>(rs.mapM (Res.val σ)).map .tup
def Qq2(a:List Res):List Nat:=a.filterMap fun r=>match r with | .t i=>some i | .cell ..=>none
structure CFn where
 np:Nat
 nt:Nat
 res:List Res
 body:CC
def Qrp(args:List V):Sl:=fun t=>args.getD t .und
end Go.Abs
end
section
namespace Go.Abs
def Qbgn(P:Program)(a:TypeId):Value->Option V
 |.int k n=>some (.d (.int k n))
 |.bool b=>some (.d (.bool b))
 |.string s=>some (.d (.str s))
 |.pointer none=>some .nilp
 |.nilFunc | .nilIface | .map none=>some .und
 |.slice none 0 0=>match P.underlying a with
  |some (.slice e)=>some (.nils (P.cellsOf e))
  |_=>none
 |_=>none
def Qg5(P:Program)(a:TypeId):Operand->Option Arg
 |.tmp t=>some (.t t)
 |.const v=>(Qbgn P a v).map .c
 |.func f=>some (.c (.clo f []))
 |_=>none
def Qbbk:Value->Option V
 |.int k n=>some (.d (.int k n))
 |.bool b=>some (.d (.bool b))
 |.string s=>some (.d (.str s))
 |.pointer none=>some .nilp
 |.agg _ | .tuple _=>none
 |_=>some .und
def Q4u(P:Program):Nat->TypeId->Option (List (Option Nat))
 |0,_=>none
 |d+1,t=>match P.underlying t with
  |some (.struct g)=>g.toList.foldl (fun c f=>match c,Q4u P d f.type with|some a,some b=>some (a++b)|_,_=>none) (some [])
  |some (.array n e)=>(Q4u P d e).map fun l=>(List.replicate n l).flatten
  |some (.slice e)=>some [some (P.cellsOf e)]
  |some _=>some [none]
  |none=>none
def Qpb:List (Option Nat)->List Value->Option (List V)
 |[],[]=>some []
 |some n::a,.slice none 0 0::vs=>(Qpb a vs).map (.nils n :: ·)
 |none::a,v::vs=>match Qbbk v,Qpb a vs with
  |some x,some xs=>some (x::xs)
  |_,_=>none
 |_,_=>none
def Qua(P:Program)(t:TypeId):Option (List V):=
 match Q4u P 12 t,(P.info? t).bind (·.zero) with
 |some a,some z=>Qpb a z.cells.toList
 |_,_=>none
def Qi8(P:Program)(t:TypeId):Bool :=
 match P.underlying t with
 |some (.struct _)|some (.array _ _)=>true
 |_=>false
def Qwg(P:Program)(t:TypeId):Bool :=
 match P.underlying t with
 |some (.slice _)=>true
 |_=>false
def Qbpg(P:Program)(t:TypeId):Bool :=
 match P.underlying t with
 |some (.slice _)=>true
 |some (.struct a)=>a.any fun f=>Qwg P f.type
 |_=>false
def Qbop(P:Program)(t:TypeId):Bool :=
 match P.underlying t with
 |some (.slice _)|some (.tuple _)=>true
 |_=>false
def Qj9(P:Program)(t:TypeId):Option Nat :=
 match P.underlying t with
 |some (.int _)=>some 0
 |some .bool=>some 1
 |some .string=>some 2
 |_=>none
def Qi9(P:Program):Nat→List Field→Option (List Nat)
 | _,[]=>some []
 | i, f :: fs => if f.offset = i ∧ f.name ≠ "_" then
   match Qj9 P f.type,Qi9 P (i+1) fs with
   | some k,some ks=>some (k::ks)
   | _,_=>none
  else none
def Qlt(P:Program)(t:TypeId):Option (List Nat):=
 match P.underlying t with
 |some (.struct a)=>if P.stoodInHeld t=false/\P.eqGuardType P.depth t=false then Qi9 P 0 a.toList else none
 |some (.array n e)=>if (P.info? e).isSome=true/\P.cellsOf e=1/\P.eqGuardType P.depth t=false then (Qj9 P e).map fun k=>List.replicate n k else none
 |_=>none
def Qfh(P:Program)(b:Nat->TypeId):Nat->List Operand->Option (List Arg)
 |_,[]=>some []
 |i,x::xs=>match Qg5 P (b i) x,Qfh P b (i+1) xs with
  |some a,some as=>some (a::as)
  |_,_=>none
def Q5v(P:Program)(b:Array Field)(a:List Nat):Option (List (Nat×Nat)):=
 a.mapM fun i=>(b[i]?).map fun f=>(f.offset,P.cellsOf f.type)
def Q9k:Operand->Bool
 |.tmp _=>true
 |_=>false
def Qq3(P:Program)(t:TypeId):Option CK :=
 match P.underlying t with
 |some (.int k)=>some (.int k)
 |some .string=>some .str
 |some .bool=>some .bool
 |_=>none
def Qbbl(P:Program)(t:TypeId):Option MK :=
 match P.underlying t with
 |some (.int k)=>some (.int k)
 |some .string=>some .str
 |some .bool=>some .bool
 |some (.struct a)=>if (Qlt P t).isSome then (a.toList.mapM fun f=>Qq3 P f.type).map .st else none
 |some (.array n e)=>if (Qlt P t).isSome then (Qq3 P e).map fun c=>.st (List.replicate n c) else none
 |_=>none
def Qbgo(P:Program)(t:TypeId):Option V :=
 match Qua P t,(P.info? t).bind (·.zero) with
 |some cs,some (.agg _)=>some (.agg (cs.map Qyr))
 |some [c],some _=>some (Qyr c)
 |_,_=>none
def Qbjm(P:Program)(t:TypeId):Option V :=
 match P.underlying t with
 |some (.map _ e)=>match Qua P e,(P.info? e).bind (·.zero) with
  |some _,some (.agg _)=>none
  |some [.nils sz],some _=>some (.nils sz)
  |_,_=>none
 |_=>none
def Qmh(P:Program)(t:TypeId):Option (TypeId×MK×V):=
 match P.underlying t with
 |some (.map k e)=>match Qbbl P k,Qbgo P e with
  |some kd,some z=>if (P.underlying e).isSome&&z.dat then some (k,kd,z) else none
  |_,_=>none
 |_=>none
structure Tk where
 inp:List Nat
 app:List Nat
 all:List Nat
 slf:List Nat
 lit:List Nat
 mpt:List Nat
 co:List Nat
 dl:List Nat
def tmpO:Operand->Option Nat
 |.tmp t=>some t
 |_=>none
def inL(l:List Nat):Option Nat->Bool
 |some d=>l.contains d
 |none=>false
def Q11(P:Program)(e:TypeId)(n:Nat)(a:List (Nat×Operand)):Option (K×List Arg×Bool):=
 match Qua P e,n,a with
 |some [_],1,[(0,.const u)]=>match Qbgn P e u with
  |some (.d x)=>if P.cellsOf e=1 then some (.append 1 (P.bytesOf e),[.c (.nils 1),.c (.d (.lst 1 [[x]]))],true) else none
  |_=>none
 |_,_,_=>none
def Qboq(P:Program)(f:FuncId):Option Nat :=
 match P.funcs[f]? with
 | some fn => if fn.name == "overseer/minimal.appendInt" then some 0 else if fn.name == "(overseer/reach.graph).finish" then some 3 else none
 | none=>none
def nodA:List Arg->Bool
 |[]=>true
 |.t i::as=>(as.all fun b=>match b with | .t j=>!Nat.beq i j | .c _=>true)&&nodA as
 |.c _::as=>nodA as
def Qko(P:Program)(T:Tk)(o:Oper):Option (K×List Arg×Bool) :=
 match o.op with
 | .move x=>(Qg5 P o.type x).map fun a=>(.mov,[a],(Q9k x&&Qbop P o.type&&inL T.all o.dst)||(!Q9k x&&Qwg P o.type))
 | .assign x=>(Qg5 P o.type x).map fun a=>(.mov,[a],(Q9k x&&Qbop P o.type)||(!Q9k x&&Qwg P o.type))
 | .pick c a b=>(Qfh P (fun _=>o.type) 0 [c,a,b]).map fun as=>(.pick,as,false)
 | .alloc e=>(Qua P e).map fun z=>(.alloc z,[],false)
 | .box e x=>(Qg5 P e x).map fun a=>(.box (P.cellsOf e),[a],false)
 | .build t ps=>match P.underlying t,Qua P t with
  | some (.struct fs),some z=>if fs.toList.all (fun f=>(P.info? f.type).isSome) then match Q5v P fs (ps.toList.map (·.1)),Qfh P (fun i=>((ps[i]?).bind fun p=>(fs[p.1]?).map (·.type)).getD 0) 0 (ps.toList.map (·.2)) with
   | some pl,some as=>some (.build z pl,as,o.dst.isSome&&nodA as&&ps.any fun p=>Q9k p.2&&(fs[p.1]?).any fun f=>Qwg P f.type)
   | _,_=>none else none
  | some (.array _ e),some z=>if (P.info? e).isNone then none else (Qfh P (fun _=>e) 0 (ps.toList.map (·.2))).map fun as=>(.build z (ps.toList.map fun p=>(p.1*P.cellsOf e,P.cellsOf e)),as,false)
  | _,_=>none
 | .buildSlice t n ps=>match P.underlying t with
  | some (.slice e)=>if inL T.lit o.dst&&(Q11 P e n ps.toList).isSome then Q11 P e n ps.toList else if inL T.dl o.dst then (match Qua P e,Qfh P (fun _=>e) 0 (ps.toList.map (·.2)) with
   | some z,some as=>if n*P.cellsOf e≤65536 then some (.blit (P.cellsOf e) n z (ps.toList.map (·.1)),as,false) else none
   | _,_=>none) else match Qua P e,Qfh P (fun _=>e) 0 (ps.toList.map (·.2)) with
   | some z,some as=>if n*P.cellsOf e≤65536 then some (.bslice (P.cellsOf e) n z (ps.toList.map (·.1)),as,false) else none
   | _,_=>none
  | _=>none
 | .load t a=>match Qg5 P 0 a with
  | some x=>if Qwg P t&&inL T.app o.dst then some (.loadT,[x],false) else if (P.underlying t).isSome then some (.load (Qi8 P t) (P.cellsOf t),[x],false) else none
  | none=>none
 | .store t a x=>match Qg5 P 0 a,Qg5 P t x with
  | some p,some v=>if (P.underlying t).isSome&&o.dst.isNone then some (.store (P.cellsOf t),[p,v],Q9k x&&Qbpg P t) else none
  | _,_=>none
 | .nilCheck x=>(Qg5 P 0 x).map fun a=>(.nilchk,[a],false)
 | .binOp op xt x y _=>match Qg5 P xt x,Qg5 P xt y with
  | some a,some b=>match P.underlying xt with
   | some (.slice _)=>match op,y with
    | .eql,.const (.slice none 0 0)=>some (.isnil false,[a],false)
    | .neq,.const (.slice none 0 0)=>some (.isnil true,[a],false)
    | _,_=>none
   | some (.int _)|some .string=>some (.bin op false,[a,b],false)
   | some .bool=>some (.bin op true,[a,b],false)
   | some (.struct _)=>match op with
    | .eql=>(Qlt P xt).map fun ks=>(.eqa false ks,[a,b],false)
    | .neq=>(Qlt P xt).map fun ks=>(.eqa true ks,[a,b],false)
    | _=>none
   | some (.array _ _)=>match op with
    | .eql=>(Qlt P xt).map fun ks=>(.eqa false ks,[a,b],false)
    | .neq=>(Qlt P xt).map fun ks=>(.eqa true ks,[a,b],false)
    | _=>none
   | _=>none
  | _,_=>none
 | .unOp op _ x=>(Qg5 P 0 x).map fun a=>(.un op,[a],false)
 | .convert s d x=>(Qg5 P s x).bind fun a=>match P.underlying s,P.underlying d with
  | some (.int _),some (.int k)=>some (.conv k,[a],false)
  | some (.slice e),some .string=>match P.underlying e with
   | some (.int .u8)=>some (.bstr,[a],false)
   | _=>none
  | _,_=>none
 | .makeFunc (.func f) first cap=>if first.size=0 then (Qfh P (fun _=>0) 0 cap.toList).map fun as=>(.func f,as,false) else none
 | .makeSlice t l c=>match P.underlying t with
  | some (.slice e)=>match Qua P e,Qfh P (fun _=>0) 0 [l,c] with
   | some z,some as=>some (.makes (P.cellsOf e) (P.bytesOf e) z,as,false)
   | _,_=>none
  | _=>none
 | .slice t x lo hi none=>match P.underlying t with
  | some (.slice e)=>if P.cellsOf e=0 then none else if inL T.slf o.dst&&Q9k x&&lo.isSome&&hi.isNone then (Qfh P (fun _=>t) 0 ([x]++lo.toList)).map fun as=>(.slcT (P.cellsOf e),as,true) else match Qfh P (fun _=>t) 0 ([x]++lo.toList++hi.toList) with
   | some as=>some (.slice (P.cellsOf e) lo.isSome hi.isSome,as,false)
   | none=>none
  | _=>none
 | .fieldAddr s x f=>match P.underlying s with
  | some (.struct fs)=>match fs[f]?,Qg5 P 0 x with
   | some fd,some a=>if P.cellsOf fd.type=0 then none else some (.fld fd.offset,[a],false)
   | _,_=>none
  | _=>none
 | .field t x f=>match P.underlying t with
  | some (.struct fs)=>match fs[f]?,Qg5 P t x with
   | some fd,some a=>if (P.underlying fd.type).isSome then some (.field (Qi8 P fd.type) fd.offset (P.cellsOf fd.type),[a],false) else none
   | _,_=>none
  | _=>none
 | .indexAddr t x i=>match P.underlying t with
  | some (.slice e)=>(Qfh P (fun j=>if j=0 then t else 0) 0 [x,i]).bind fun as=>if P.cellsOf e=0 then none else some (.idx (P.cellsOf e),as,false)
  | some (.array n e)=>(Qfh P (fun _=>0) 0 [x,i]).bind fun as=>if P.cellsOf e=0 then none else some (.idxarr (P.cellsOf e) n,as,false)
  | _=>none
 | .index t x i=>match P.underlying t with
  | some (.array n e)=>if (P.underlying e).isNone then none else (Qfh P (fun j=>if j=0 then t else 0) 0 [x,i]).map fun as=>(.idxval (Qi8 P e) (P.cellsOf e) n,as,false)
  | some .string=>(Qfh P (fun j=>if j=0 then t else 0) 0 [x,i]).map fun as=>(.idxs,as,false)
  | _=>none
 | .extract x i=>(Qg5 P 0 x).map fun a=>(.extract i,[a],Q9k x&&Qwg P o.type&&o.dst.isSome)
 | .makeMap t r=>match P.underlying t with
  | some (.map _ _)=>(Qfh P (fun _=>0) 0 r.toList).map fun as=>(.mkmap,as,false)
  | _=>none
 | .lookup t x i c=>match Qmh P t with
  | some (k,kd,z)=>(Qfh P (fun j=>if j=0 then t else k) 0 [x,i]).map fun as=>(match Qbjm P t with|some zn=>if !c&&inL T.mpt o.dst then .lookupT kd zn else .lookup kd c z|none=>.lookup kd c z,as,false)
  | none=>none
 | .mapUpdate t m k x | .insert t m k x=>match Qmh P t,P.underlying t with
  | some (kt,kd,_),some (.map _ e)=>if o.dst.isNone then (Qfh P (fun j=>if j=0 then t else if j=1 then kt else e) 0 [m,k,x]).map fun as=>(if inL T.mpt (tmpO x) then (.mapsetT kd,as,true) else (.mapset kd,as,false)) else none
  | _,_=>none
 | .mapEntry t m k=>match Qmh P t with
  | some (kt,kd,z)=>(Qfh P (fun j=>if j=0 then t else kt) 0 [m,k]).map fun as=>(.mapentry kd z,as,false)
  | none=>none
 | .entryStore t m s x=>match Qmh P t,P.underlying t with
  | some _,some (.map _ e)=>if o.dst.isNone then (Qfh P (fun j=>if j=0 then t else if j=1 then 0 else e) 0 [m,s,x]).map fun as=>(.entrystore,as,false) else none
  | _,_=>none
 | .call c=>match c.callee with
  | .builtin .len=>if c.args.size=1∧c.argTypes.size=1 then (Qfh P (fun i=>c.argTypes.getD i 0) 0 c.args.toList).bind fun as=>match P.underlying (c.argTypes.getD 0 0) with
   | some (.slice _)=>some (.len,as,false)
   | some (.map _ _)=>some (.lenm,as,false)
   | some .string=>some (.lens,as,false)
   | _=>none else none
  | .builtin .append=>match P.underlying (c.argTypes.getD 0 0),P.underlying (c.argTypes.getD 1 0),c.args.size with
   | some (.slice e),some (.slice _),2=>if c.argTypes = #[c.argTypes.getD 0 0,c.argTypes.getD 0 0] then (match Qua P e,Qfh P (fun i=>c.argTypes.getD i 0) 0 c.args.toList with
    | some z,some (.t i::as)=>if z.length=P.cellsOf e then (if T.inp.contains i then some (.appw (P.cellsOf e) (P.bytesOf e),.t i::as,false) else some (.append (P.cellsOf e) (P.bytesOf e),.t i::as,true)) else none
    | _,_=>none) else none
   | _,_,_=>none
  | .builtin .max=>if c.args.size=2 then (Qfh P (fun i=>c.argTypes.getD i 0) 0 c.args.toList).map fun as=>(.max2,as,false) else none
  | .builtin .min=>if c.args.size=2 then (Qfh P (fun i=>c.argTypes.getD i 0) 0 c.args.toList).map fun as=>(.min2,as,false) else none
  | .value (.func f) => if (P.funcs[f]?).any (fun fn => fn.body.isSome && fn.name != "runtime.NumGoroutine") then (Qfh P (fun i => c.argTypes.getD i 0) 0 c.args.toList).map fun as => (if inL T.co o.dst then .callO f ((Qboq P f).getD 0) else .call f, as, false) else none
  | .value (.tmp t)=>(Qfh P (fun i=>c.argTypes.getD i 0) 0 c.args.toList).map fun as=>(.callv,.t t::as,false)
  | _=>none
 | _=>none
def Qbjn(nt:Nat):Option Nat->Bool
 |some d=>decide (d<nt)
 |none=>true
def Qbqz(nt:Nat):Arg->Bool
 |.t i=>decide (i<nt)
 |.c v=>v.lt 0
def Qk0(P:Program)(T:Tk)(nt:Nat)(ops:Array Oper)(o:Oper):Option COp :=
 match Qko P T o with
 |some (k,as,tk)=>
  if decide (0<nt)&&Qbjn nt o.dst&&as.all (Qbqz nt) then
   match o.guard with
   |none=>some { dst:=o.dst,kind:=k,args:=as,tk,guard:=none }
   |some (j,want)=>match (ops[j]?).bind (·.dst) with
    |some t=>some { dst:=o.dst,kind:=k,args:=as,tk,guard:=some (t,want) }
    |none=>none
  else none
 |none=>none
def Q6r(e:Edge):Bool :=
 match e.ground with
 |.textOnly _ | .gcOnly _=>false
 |_=>true
def Qxk(o:Oper):List Nat:=(o.after.toList.filter Q6r).map (·.on)
def ancs(ops:List Oper):List Nat :=
 ops.foldl (fun a o=>a++[(Qxk o).foldl (fun l e=>l ||| 2 ^ e ||| a.getD e 0) 0]) []
inductive Eff where
 |pure|read|alloc|take|write|call|callw|gen|other|takem|appw
 deriving DecidableEq
def K.eff:K->Eff
 |.mov | .pick | .build .. | .nilchk | .bin .. | .eqa .. | .un _ | .conv _ | .bstr | .blit .. | .func _ | .slice .. | .slcT _ | .fld _ | .field .. | .idx _ | .idxarr .. | .idxval .. | .extract _ | .max2 | .min2 | .lens | .idxs=>.pure
 |.load .. | .len | .append .. | .lookup .. | .lenm=>.read
 |.box _ | .alloc _ | .bslice .. | .makes .. | .mkmap=>.alloc
 |.loadT=>.take
 |.appw ..=>.appw
 |.lookupT ..=>.takem
 |.store _=>.write
 |.call _ | .callv=>.call
 |.isnil _ | .callO .. | .mapset _ | .mapsetT _ | .mapentry .. | .entrystore=>.other
def Arg.slot:Arg->List Nat
 |.t i=>[i]
 |.c _=>[]
def COp.argSlots(o:COp):List Nat:=o.args.flatMap Arg.slot
def COp.reads(o:COp):List Nat:=o.argSlots++(match o.guard with|some (t,_)=>[t]|none=>[])
def COp.soft(o:COp):List Nat:=if o.tk then o.argSlots else []
def Q5w(a b:List Nat):Bool:=a.all fun x=>!b.contains x
def COp.slotsApart(a b:COp):Bool :=
 Q5w a.dst.toList b.reads&&Q5w a.dst.toList b.dst.toList&&Q5w b.dst.toList a.reads &&
 (!a.tk || !b.tk||Q5w a.soft b.soft) &&
 (!a.tk||Q5w a.soft (match b.guard with|some (t,_)=>[t]|none=>[]))&&(!b.tk||Q5w b.soft (match a.guard with|some (t,_)=>[t]|none=>[]))
def COp.place(o:COp):Option (Nat×Nat):=
 match o.kind,o.args with
 |.load _ n,[.t p]=>some (p,max n 1)
 |.loadT,[.t p]=>some (p,1)
 |.store n,[.t p,_]=>some (p,n)
 |_,_=>none
def COp.eff(pc:Nat)(o:COp):Eff :=
 match o.kind.eff with
 |.call=>if 10<=pc then (if wrs (pc-10) o.dst=true then .callw else .call) else if 2<=pc then .pure else if pc=1 then .call else .gen
 |.alloc=>if o.dst.isSome then .alloc else .other
 |e=>e
def Qrq(pc:Nat)(a b:COp):Option (List Pair):=
 if a.slotsApart b then
  match a.eff pc,b.eff pc with
  |.pure,.appw | .appw,.pure | .pure,.pure | .pure,.read | .pure,.alloc | .pure,.take | .pure,.takem | .takem,.pure | .pure,.write | .pure,.call | .pure,.gen=>some []
  |.read,.pure | .alloc,.pure | .take,.pure | .write,.pure | .call,.pure | .gen,.pure | .pure,.callw | .callw,.pure=>some []
  |.read,.read | .read,.alloc | .alloc,.read | .alloc,.alloc | .take,.alloc | .alloc,.take | .take,.read | .read,.take | .read,.takem | .takem,.read | .alloc,.takem | .takem,.alloc=>some []
  |.call,.alloc | .call,.read | .read,.call | .callw,.alloc=>some []
  |.read,.write | .take,.take =>
   match a.place,b.place with
   |some (p,n),some (q,m)=>some [⟨p,n,q,m⟩]
   |_,_=>none
  |.appw,.read | .appw,.write =>
   match a.args,b.place with
   |[.t q,.t x],some (p,m)=>some [⟨q,0,p,m⟩,⟨x,0,p,m⟩]
   |_,_=>none
  |_,_=>none
 else none
def enum{α:Type}(l:List α):List (Nat×α):=(List.range l.length).zip l
def Q0o(ops:List COp)(i:Nat)(d:Nat)(p:Pair):Bool :=
 (enum ops).all fun(k,c)=>decide (k<i)||(!(c.dst==some p.a)&&(!(c.dst==some p.b)||d.testBit k))
def Qwh(pc:Nat)(d:List Nat)(ops:List COp):Option (List Pair):=
 (enum ops).foldl (fun c(i,a)=>
  (enum ops).foldl (fun c(j,b)=>
   match c with
   |none=>none
   |some l=>if decide (i<j) && !(d.getD j 0).testBit i then
     match Qrq pc a b with
     |some m=>if m.all (Q0o ops i (d.getD j 0)) then some (l++m) else none
     |none=>none
    else some l) c) (some [])
def Qbjo(ops:List Oper):Bool:=(enum ops).all fun(i,o)=>(Qxk o).all fun e=>decide (e<i)
def Qbjp(a:List Nat)(cs:List COp):Nat:=cs.foldl (fun m c=>match c.dst with
 |some d=>if c.kind.isCall&&(Qwh (10+2 ^ d) a cs).isSome then m+2 ^ d else m
 | none=>m) 0
def Qov(P:Program)(T:Tk)(nt:Nat)(ops:Array Oper)(b:Bool):Option CC :=
 match ops.toList.mapM (Qk0 P T nt ops) with
 |some cs =>
  if b then if !Qbjo ops.toList || !P.follows .mixedOrders||cs.any (fun c=>c.kind.isNil) then none else
   match Qwh 0 (ancs ops.toList) cs with
   |some a=>some (.region cs 0 a)
   |none=>match (if Qbjp (ancs ops.toList) cs=0 then none else Qwh (10+Qbjp (ancs ops.toList) cs) (ancs ops.toList) cs) with
    |some a=>some (.region cs (10+Qbjp (ancs ops.toList) cs) a)
    |none=>match Qwh 1 (ancs ops.toList) cs with
     |some a=>some (.region cs 1 a)
     |none=>match Qwh 2 (ancs ops.toList) cs with
      |some a=>some (.region cs 2 a)
      |none=>none
  else some (.region cs 9 [])
 |none=>none
def Q4v:Code->List Nat
 |.region _ ops _=>ops.toList.filterMap fun o=>match o.op with
  |.box .. | .alloc _ | .buildSlice .. | .makeSlice .. | .makeMap ..=>o.dst
  |_=>none
 |.seq a b=>Q4v a++Q4v b
 |.cond _ a b=>Q4v a++Q4v b
 |.block _ c | .loop c | .scope c=>Q4v c
 |_=>[]
def Qbik:Code->List Oper
 |.region _ ops _=>ops.toList
 |.seq a b=>Qbik a++Qbik b
 |.cond _ a b=>Qbik a++Qbik b
 |.block _ c | .loop c | .scope c=>Qbik c
 |_=>[]
def Qbil:Operand->List Nat
 |.tmp t=>[t]
 |_=>[]
def Q9w:Code->List Nat
 |.region _ ops draw=>if draw then ops.toList.filterMap fun o=>match o.op with
  |.buildSlice _ 1 d=>match d.toList with
   |[(0,.const _)]=>o.dst
   |_=>none
  |_=>none else []
 |.seq a b=>Q9w a++Q9w b
 |.cond _ a b=>Q9w a++Q9w b
 |.block _ c | .loop c | .scope c=>Q9w c
 |_=>[]
def Q4w:Code->List Nat
 |.region _ ops draw=>if draw then ops.toList.filterMap fun o=>match o.op,o.dst with
  |.buildSlice ..,some d=>if ops.toList.any fun u=>match u.op with
    |.call { callee:=.value _,args,.. }=>args.toList.any fun x=>match x with
     |.tmp t=>t==d
     |_=>false
    |_=>false
   then some d else none
  |_,_=>none else []
 |.seq a b=>Q4w a++Q4w b
 |.cond _ a b=>Q4w a++Q4w b
 |.block _ c | .loop c | .scope c=>Q4w c
 |_=>[]
def Qbor(P:Program)(c:Code):Tk :=
 let os:=Qbik c;let own:=os.flatMap fun o=>match o.op,o.dst with
  |.call { callee:=.value (.func f),args,.. },some d=>match Qboq P f with
   |some i=>((args.toList.drop i).take 1).flatMap fun x=>match x with
    |.tmp t=>[(d,t)]
    |_=>[]
   |none=>[]
  |_,_=>[]
 let app:=os.flatMap fun o=>match o.op with
  |.call { callee:=.builtin .append,args,.. }=>(args.toList.take 1).flatMap Qbil
  |_=>[]
 let slf:=os.filterMap fun o=>match o.op,o.dst with
  |.slice _ (.tmp t) (some _) none none,some d =>
   if os.any fun a=>match a.op,a.dst with
    |.assign (.tmp b),some v=>b==d&&(v==t||os.any fun m=>match m.op,m.dst with | .move (.tmp v'),some t'=>v'==v&&t'==t|_,_=>false)
    |_,_=>false
   then some (d,t) else none
  |_,_=>none
 let mpt:=os.flatMap fun o=>match o.op,o.dst with
  |.call { callee:=.builtin .append,args,.. },some t =>
   match (args.toList.take 1).flatMap Qbil with
   |[d]=>if (os.any fun l=>match l.op,l.dst with | .lookup _ _ _ false,some b=>b==d|_,_=>false)&&(os.any fun u=>match u.op with | .mapUpdate _ _ _ (.tmp t') | .insert _ _ _ (.tmp t')=>t'==t|_=>false) then [d,t] else []
   |_=>[]
  |_,_=>[]
 let inp:=os.flatMap fun o=>match o.op with
  |.call { callee:=.builtin .append,args,.. }=>((args.toList.take 1).flatMap Qbil).filter fun d=>os.any fun l=>match l.op,l.dst with
   |.slice _ (.tmp _) none (some _) none,some b=>b==d
   |_,_=>false
  |_=>[]
 { inp,app:=app++own.map (·.2),mpt,co:=own.map (·.1),lit:=Q9w c,dl:=Q4w c,slf:=slf.map (·.1),all:=app++own.map (·.2)++slf.map (·.2)++os.flatMap fun o=>match o.op with
   |.assign x=>Qbil x
   |.store _ _ x=>Qbil x
   |.box _ x=>Qbil x
   |_=>[] }
def Qbjq:Option CC->Option CC
 |some c=>some c
 |none=>some .dead
def Qys(P:Program)(T:Tk)(nt:Nat):Code->Option CC
 |.skip=>some .skip
 |.region _ ops draw=>Qbjq (Qov P T nt ops draw)
 |.seq a b=>match Qys P T nt a,Qys P T nt b with
  |some x,some y=>some (.seq x y)
  |_,_=>none
 |.cond c a b=>match Qg5 P 0 c,Qys P T nt a,Qys P T nt b with
  |some x,some y,some z=>some (.cond x y z)
  |_,_,_=>none
 |.block id c=>(Qys P T nt c).map (.block id)
 |.loop c=>(Qys P T nt c).map (.loop (Q4v c))
 |.exit id=>some (.exit id)
 |.ret=>some .ret
 |_=>some .dead
def Q7b(P:Program)(nt:Nat):ResultVar->Option Res
 |.tmp i=>if i<nt then some (.t i) else none
 |.cell p ty=>if p<nt/\(P.underlying ty).isSome=true then some (.cell p (Qi8 P ty) (P.cellsOf ty)) else none
def Q7c(fn : Func) : Bool := fn.name != "runtime.NumGoroutine"
def Qo(P:Program)(f:FuncId):Option CFn :=
 match P.funcs[f]? with
 |some fn=>match fn.body with
  |some c=>match Qys P (Qbor P c) fn.ntmps c,fn.results.toList.mapM (Q7b P fn.ntmps) with
   |some b,some rs=>if (Qq2 rs).Nodup/\fn.params.size+fn.nfree<=fn.ntmps/\Q7c fn=true then some { np:=fn.params.size+fn.nfree,nt:=fn.ntmps,res:=rs,body:=b } else none
   |_,_=>none
  |none=>none
 |none=>none
end Go.Abs
end
section
namespace Go.Abs
inductive Owner where
 |free
 |ext
 |slot (t:Nat) (p:List Nat)
 |res (p:List Nat)
 |cell (k c:Nat)
 |box (k:Nat)
 |hid (n t:Nat) (p:List Nat)
def Prot:Owner->Prop
 |.free=>True
 |.ext=>True
 |.hid ..=>True
 |_=>False
def Owner.sub:Owner->Nat->Owner
 |.slot t p,i=>.slot t (i::p)
 |.res p,i=>.res (i::p)
 |.hid n t p,i=>.hid n t (i::p)
 |.box k,i=>.cell k i
 |o,_=>o
structure G where
 box:Nat->Nat
 imm:Nat->Nat->Prop
 own:Nat->Owner
def Q12(w:World)(b:Nat):Option (Array MapEntry×Nat):=match w.heap[b]? with
 |some (.map es c)=>some (es,c)
 |_=>none
theorem Qbm8{w:World}{b:Nat}{es:Array MapEntry}{c:Nat}(h:w.heap[b]? = some (.map es c)):Q12 w b=some (es,c):=by unfold Q12;rw[h]
theorem Qbbm{w:World}{b:Nat}{es:Array MapEntry}{c:Nat}(h:Q12 w b=some (es,c)):w.heap[b]? = some (.map es c):=by
 grind [Q12]
def Q5x(w:World)(b o:Nat):Option Value×Option (Array MapEntry×Nat):=(w.cell? ⟨b,o,none⟩,Q12 w b)
theorem Qfd{w w' : World}{b o:Nat}(h:w'.heap[b]? = w.heap[b]?):Q5x w' b o=Q5x w b o:=by unfold Q5x Q12 World.cell?;rw[h]
theorem Q9x{w w' : World}{b o:Nat}{c i : Array Value}{e f : TypeId}{p a : Nat×Nat}(h:w.heap[b]? = some (.cells c e p))(d : w'.heap[b]? = some (.cells i f a))(hc:w'.cell? ⟨b,o,none⟩=w.cell? ⟨b,o,none⟩):Q5x w' b o=Q5x w b o:=by
 unfold Q5x Q12;rw[hc,h,d]
def Qyt(w:World)(b o:Nat):Prop:=(w.cell? ⟨b,o,none⟩).isSome=true\/(Q12 w b).isSome=true
mutual
def RD(imm:Nat->Nat->Prop)(w:World):D->Value->Prop
 |.int k n,v=>v = .int k n
 |.bool b,v=>v = .bool b
 |.str s,v=>v = .string s
 |.lst sz l,v=>∃a d,v = .slice a l.length d/\l.length<=d/\(l=[]\/∃b o,a=some ⟨b,o,none⟩/\RDL imm w sz b l o)
 |.mp es c,v=>∃b,v = .map (some b)/\imm b 0/\Q12 w b=some (es.toArray,c)
def RDc(imm:Nat->Nat->Prop)(w:World)(b:Nat):List D->Nat->Prop
 |[],_=>True
 |y::ys,o=>imm b o/\(∃u,w.cell? ⟨b,o,none⟩=some u/\RD imm w y u)/\RDc imm w b ys (o+1)
def RDL(imm:Nat->Nat->Prop)(w:World)(sz b:Nat):List (List D)->Nat->Prop
 |[],_=>True
 |x::xs,o=>x.length=sz/\RDc imm w b x o/\RDL imm w sz b xs (o+sz)
end
def immf(g:G)(w:World):Nat->Nat->Prop:=fun b o=>g.imm b o/\g.own b = .ext/\Qyt w b o
mutual
def RV(g:G)(w:World):V->Owner->Value->Prop
 |.und,_,_=>True
 |.d x,_,v=>RD g.imm w x v
 |.agg cs,ℓ,v=>∃vs:List Value,v = .agg vs.toArray/\RVs g w cs ℓ 0 vs/\∀u∈vs,u.oneCell'=true
 |.tup cs,ℓ,v=>∃vs:List Value,v = .tuple vs.toArray/\RVs g w cs ℓ 0 vs
 |.own sz l,ℓ,v=>((∃a,v = .slice a 0 0)/\l=[])\/∃b h c e,v = .slice (some ⟨b,0,none⟩) l.length h/\g.own b=ℓ /\
   w.heap[b]? = some (.cells c e (0,0))/\l.length<=h/\h<=maxLen/\(c.size=h*sz/\∀u∈c.toList,u.oneCell'=true)/\(∀o,g.imm b o↔o<l.length*sz)/\RDL g.imm w sz b l 0
 |.ownT sz l,ℓ,v=>((∃a,v = .slice a 0 0)/\l=[])\/∃b j h c e,v = .slice (some ⟨b,j,none⟩) l.length h/\g.own b=ℓ /\
   w.heap[b]? = some (.cells c e (0,0))/\l.length<=h/\h<=maxLen/\(c.size=j+h*sz/\∀u∈c.toList,u.oneCell'=true)/\(∀o,g.imm b o↔o<j+l.length*sz)/\RDL g.imm w sz b l j
 |.ptr k off,_,v=>v = .pointer (some ⟨g.box k,off,none⟩)
 |.nilp,_,v=>v = .pointer none
 |.f x,_,v=>RD (immf g w) w x v
 |.nils _,_,v=>∃a,v = .slice a 0 0
 |.cref cs,_,v=>∃b o,v = .pointer (some ⟨b,o,none⟩)/\RDc g.imm w b cs o
 |.sl _ k off len h,_,v=>v = .slice (some ⟨g.box k,off,none⟩) len h
 |.clo f i,_,v=>∃vs:List Value,v = .func (.func f) #[] vs.toArray/\RVs g w i .ext 0 vs
 |.mp k,_,v=>v = .map (some (g.box k))
def RVs(g:G)(w:World):List V->Owner->Nat->List Value->Prop
 |[],_,_,vs=>vs=[]
 |c::cs,ℓ,i,vs=>∃u us,vs=u::us/\RV g w c (ℓ.sub i) u/\RVs g w cs ℓ (i+1) us
end
structure Imm(imm imm' : Nat->Nat->Prop)(w w' : World):Prop where
 mono:∀b o,imm b o->imm' b o
 look:∀b o,imm b o->Q5x w' b o=Q5x w b o
theorem Imm.cell{imm imm' : Nat->Nat->Prop}{w w' : World}(h:Imm imm imm' w w')(b o:Nat)(a:imm b o):w'.cell? ⟨b,o,none⟩=w.cell? ⟨b,o,none⟩:=congrArg Prod.fst (h.look b o a)
theorem Imm.mp{imm imm' : Nat->Nat->Prop}{w w' : World}(h:Imm imm imm' w w')(b o:Nat)(a:imm b o):Q12 w' b=Q12 w b:=congrArg Prod.snd (h.look b o a)
theorem Imm.there{imm imm' : Nat->Nat->Prop}{w w' : World}(h:Imm imm imm' w w')(b o:Nat)(a:imm b o)(c:Qyt w b o):Qyt w' b o:=by
 unfold Qyt at *;rw[h.cell b o a,h.mp b o a];exact c
section
variable{imm imm' : Nat->Nat->Prop}{w w' : World}
mutual
theorem Qg6(h:Imm imm imm' w w'):∀(x:D)(v:Value),RD imm w x v->RD imm' w' x v
 |.int k n,v,d=>by simpa[RD] using d
 |.bool b,v,d=>by simpa[RD] using d
 |.str s,v,d=>by simpa[RD] using d
 |.lst sz l,v,d=>by
  simp only[RD] at d |-;obtain⟨a,f,rfl,hc,e⟩:=d;refine⟨a,f,rfl,hc,?_⟩;rcases e with e|⟨b,o,ha,e⟩
  ·exact .inl e
  ·exact .inr ⟨b,o,ha,RDL_mono h sz b l o e⟩
 |.mp es c,v,d=>by
  simp only[RD] at d |-;obtain⟨b,rfl,i,j⟩:=d;exact⟨b,rfl,h.mono b 0 i,(h.mp b 0 i).trans j⟩
theorem Q28(h:Imm imm imm' w w')(b:Nat):∀(ys:List D)(o:Nat),RDc imm w b ys o->RDc imm' w' b ys o
 |[],_,_=>by simp[RDc]
 |y::ys,o,a=>by
  simp only[RDc] at a |-;obtain⟨c,⟨u,e,d⟩,hr⟩:=a;exact⟨h.mono b o c,⟨u,(h.cell b o c).trans e,Qg6 h y u d⟩,Q28 h b ys (o+1) hr⟩
theorem RDL_mono(h:Imm imm imm' w w')(sz b:Nat):∀(l:List (List D))(o:Nat),RDL imm w sz b l o->RDL imm' w' sz b l o
 |[],_,_=>by simp[RDL]
 |x::xs,o,a=>by
  simp only[RDL] at a |-;exact⟨a.1,Q28 h b x o a.2.1,RDL_mono h sz b xs (o+sz) a.2.2⟩
end
end
mutual
theorem Qbcw{imm:Nat->Nat->Prop}{w:World}:∀(x:D)(u:Value),RD imm w x u->RD (fun b o=>imm b o/\Qyt w b o) w x u
 |.int k n,v,h=>by simpa[RD] using h
 |.bool b,v,h=>by simpa[RD] using h
 |.str s,v,h=>by simpa[RD] using h
 |.lst sz l,v,h=>by
  simp only[RD] at h |-;obtain⟨a,i,f,e,d⟩:=h;refine⟨a,i,f,e,?_⟩;rcases d with d|⟨b,o,d,h4⟩
  ·exact .inl d
  ·exact .inr ⟨b,o,d,RDL_strong sz b l o h4⟩
 |.mp es c,v,h=>by
  simp only[RD] at h |-;obtain⟨b,f,e,d⟩:=h;exact⟨b,f,⟨e,.inr (by rw[d];rfl)⟩,d⟩
theorem Q9y{imm:Nat->Nat->Prop}{w:World}(b:Nat):∀(ys:List D)(o:Nat),RDc imm w b ys o->RDc (fun b o=>imm b o/\Qyt w b o) w b ys o
 |[],o,_=>by simp[RDc]
 |y::ys,o,h=>by
  simp only[RDc] at h |-;obtain⟨e,⟨u,a,d⟩,c⟩:=h;exact⟨⟨e,.inl (by rw[a];rfl)⟩,⟨u,a,Qbcw y u d⟩,Q9y b ys (o+1) c⟩
theorem RDL_strong{imm:Nat->Nat->Prop}{w:World}(sz b:Nat):∀(l:List (List D))(o:Nat),RDL imm w sz b l o->RDL (fun b o=>imm b o/\Qyt w b o) w sz b l o
 |[],o,_=>by simp[RDL]
 |x::xs,o,h=>by
  simp only[RDL] at h |-;exact⟨h.1,Q9y b x o h.2.1,RDL_strong sz b xs (o+sz) h.2.2⟩
end
mutual
def V.on(p:Nat->Prop):V->Prop
 |.ptr k _=>p k
 |.sl _ k _ _ _=>p k
 |.mp k=>p k
 |.agg cs=>V.ons p cs
 |.tup cs=>V.ons p cs
 |.clo _ cs=>V.ons p cs
 |_=>True
def V.ons(p:Nat->Prop):List V->Prop
 |[]=>True
 |v::vs=>v.on p/\V.ons p vs
end
mutual
theorem Qgo{p q:Nat->Prop}(h:∀k,p k->q k):∀v:V,v.on p->v.on q
 |.ptr k _,a=>h k a
 |.sl _ k _ _ _,a=>h k a
 |.mp k,a=>h k a
 |.agg cs,a=>ons_mono h cs a
 |.tup cs,a=>ons_mono h cs a
 |.clo _ cs,a=>ons_mono h cs a
 |.und,_=>trivial
 |.d _,_=>trivial
 |.own ..,_=>trivial
 |.ownT ..,_=>trivial
 |.nilp,_=>trivial
 |.f _,_=>trivial
 |.nils _,_=>trivial
 |.cref _,_=>trivial
theorem ons_mono{p q:Nat->Prop}(h:∀k,p k->q k):∀vs:List V,V.ons p vs->V.ons q vs
 |[],_=>trivial
 |v::vs,a=>⟨Qgo h v a.1,ons_mono h vs a.2⟩
end
theorem Qjn{p:Nat->Prop}:∀{vs:List V},V.ons p vs↔∀v∈vs,v.on p
 |[]=>by simp[V.ons]
 |v::vs=>by simp[V.ons,Qjn (vs:=vs)]
mutual
theorem Qbm9{n:Nat}:∀v:V,v.lt n=true->v.on (· < n)
 |.ptr k _,a=>by simpa[V.lt,V.on] using a
 |.sl _ k _ _ _,a=>by simpa[V.lt,V.on] using a
 |.mp k,a=>by simpa[V.lt,V.on] using a
 |.agg cs,a=>ons_lt cs (by simpa[V.lt] using a)
 |.tup cs,a=>ons_lt cs (by simpa[V.lt] using a)
 |.clo _ cs,a=>ons_lt cs (by simpa[V.lt] using a)
 |.und,_=>trivial
 |.d _,_=>trivial
 |.own ..,_=>trivial
 |.ownT ..,_=>trivial
 |.nilp,_=>trivial
 |.f _,_=>trivial
 |.nils _,_=>trivial
 |.cref _,_=>trivial
theorem ons_lt{n:Nat}:∀vs:List V,V.lt.go n vs=true->V.ons (· < n) vs
 |[],_=>trivial
 |v::vs,a=>by
  simp only[V.lt.go,Zc] at a;exact⟨Qbm9 v a.1,ons_lt vs a.2⟩
end
mutual
theorem Qeg{p:Nat->Prop}:∀v:V,v.dem.on p↔v.on p
 |.agg cs=>by simp only[V.dem,V.on];exact ons_dems cs
 |.tup cs=>by simp only[V.dem,V.on];exact ons_dems cs
 |.own ..=>by simp[V.dem,V.on]
 |.ownT ..=>by simp[V.dem,V.on]
 |.ptr ..=>Zj
 |.sl ..=>Zj
 |.mp _=>Zj
 |.clo ..=>Zj
 |.und=>Zj
 |.d _=>Zj
 |.nilp=>Zj
 |.f _=>Zj
 |.nils _=>Zj
 |.cref _=>Zj
theorem ons_dems{p:Nat->Prop}:∀vs:List V,V.ons p (V.dems vs)↔V.ons p vs
 |[]=>Zj
 |v::vs=>by simp only[V.dems,V.ons,Qeg v,ons_dems vs]
end
structure Kept(g:G)(w:World)(g' : G)(w' : World)(p:Nat->Prop)(keep:Owner->Prop):Prop where
 imm:Imm g.imm g'.imm w w'
 box:∀k,p k->g'.box k=g.box k
 own:∀b,keep (g.own b)->b<w.heap.size->g'.own b=g.own b/\w'.heap[b]? = w.heap[b]? /\ ∀o,g'.imm b o↔g.imm b o
theorem Qbna{w:World}{b o:Nat}(h:Qyt w b o):b<w.heap.size:=by
 rcases h with h|h
 ·grind [Option.isSome_iff_exists,Go.World.cell?,Array.getElem?_eq_some_iff]
 ·obtain⟨v,d⟩:=Zab.1 h;obtain⟨a,c⟩:=v;exact (Zag.1 (Qbbm d)).1
theorem Qbgp{g g' : G}{w:World}(h:∀b o,g.imm b o->g.own b = .ext->g'.imm b o/\g'.own b = .ext):Imm (immf g w) (immf g' w) w w :=
 ⟨fun b o ⟨h1,h2,h3⟩=>⟨(h b o h1 h2).1,(h b o h1 h2).2,h3⟩,fun _ _ _=>rfl⟩
section
variable{g g' : G}{w w' : World}{p:Nat->Prop}{keep:Owner->Prop}
theorem Qbjr(h:Kept g w g' w' p keep)(e:keep .ext):Imm (immf g w) (immf g' w') w w' :=
 ⟨fun b o ⟨a,h2,h3⟩=>by
  obtain⟨d,_,c⟩:=h.own b (by rw[h2];exact e) (Qbna h3);exact⟨(c o).2 a,d.trans h2,h.imm.there b o a h3⟩,fun b o a=>h.imm.look b o a.1⟩
mutual
theorem Qd1(h:Kept g w g' w' p keep)(r:∀ℓ i,keep ℓ->keep (ℓ.sub i))(m:keep .ext):
  ∀(v:V)(ℓ:Owner)(u:Value),keep ℓ->v.on p->RV g w v ℓ u->RV g' w' v ℓ u
 |.und,_,_,_,_,_=>by simp[RV]
 |.d x,_,u,_,_,a=>by simp only[RV] at a |-;exact Qg6 h.imm x u a
 |.agg cs,ℓ,u,hk,j,a=>by
  simp only[RV] at a |-;obtain⟨vs,rfl,a,n⟩:=a;exact⟨vs,rfl,RVs_mono h r m cs ℓ 0 vs hk j a,n⟩
 |.tup cs,ℓ,u,hk,j,a=>by
  simp only[RV] at a |-;obtain⟨vs,rfl,a⟩:=a;exact⟨vs,rfl,RVs_mono h r m cs ℓ 0 vs hk j a⟩
 |.own sz l,ℓ,u,hk,_,a=>by
  simp only[RV] at a |-;rcases a with a|⟨b,cap,vals,e,rfl,hb,hh,hc,hm,hz,hi,hr⟩
  ·exact .inl a
  ·have c:b<w.heap.size:=by
    rcases Zam b w.heap.size with c|hge
    ·exact c
    ·simp[Array.getElem?_eq_none hge] at hh
   obtain⟨n,t,s⟩:=h.own b (hb ▸ hk) c;exact .inr ⟨b,cap,vals,e,rfl,n.trans hb,t.trans hh,hc,hm,hz,fun o=>(s o).trans (hi o),RDL_mono h.imm sz b l 0 hr⟩
 |.ownT sz l,ℓ,u,hk,_,a=>by
  simp only[RV] at a |-;rcases a with a|⟨b,o0,cap,vals,e,rfl,hb,hh,hc,hm,hz,hi,hr⟩
  ·exact .inl a
  ·have c:b<w.heap.size:=by
    rcases Zam b w.heap.size with c|hge
    ·exact c
    ·simp[Array.getElem?_eq_none hge] at hh
   obtain⟨n,t,s⟩:=h.own b (hb ▸ hk) c;exact .inr ⟨b,o0,cap,vals,e,rfl,n.trans hb,t.trans hh,hc,hm,hz,fun o=>(s o).trans (hi o),RDL_mono h.imm sz b l o0 hr⟩
 |.ptr k off,_,u,_,j,a=>by
  simp only[RV] at a |-;rw[h.box k j];exact a
 |.nilp,_,_,_,_,a=>by simpa[RV] using a
 |.f x,_,u,_,_,a=>by simp only[RV] at a |-;exact Qg6 (Qbjr h m) x u a
 |.nils _,_,_,_,_,a=>by simpa[RV] using a
 |.cref cs,_,u,_,_,a=>by
  simp only[RV] at a |-;obtain⟨b,o,rfl,a⟩:=a;exact⟨b,o,rfl,Q28 h.imm b cs o a⟩
 |.sl sz k off len cap,_,u,_,j,a=>by
  simp only[RV] at a |-;rw[h.box k j];exact a
 |.clo f q,_,u,_,j,a=>by
  simp only[RV] at a |-;obtain⟨vs,rfl,a⟩:=a;exact⟨vs,rfl,RVs_mono h r m q .ext 0 vs m j a⟩
 |.mp k,_,u,_,j,a=>by
  simp only[RV] at a |-;rw[h.box k j];exact a
theorem RVs_mono(h:Kept g w g' w' p keep)(b:∀ℓ i,keep ℓ->keep (ℓ.sub i))(e:keep .ext):
  ∀(cs:List V)(ℓ:Owner)(i:Nat)(us:List Value),keep ℓ->V.ons p cs->RVs g w cs ℓ i us->RVs g' w' cs ℓ i us
 |[],_,_,_,_,_,a=>by simpa[RVs] using a
 |c::cs,ℓ,i,us,hk,d,a=>by
  simp only[RVs] at a |-;obtain⟨u,us,rfl,j,f⟩:=a;exact⟨u,us,rfl,Qd1 h b e c (ℓ.sub i) u (b ℓ i hk) d.1 j,RVs_mono h b e cs ℓ (i+1) us hk d.2 f⟩
end
end
theorem Qbfh{g:G}{w:World}{sz:Nat}{l:List (List D)}{ℓ:Owner}{u:Value}(h:RV g w (.own sz l) ℓ u):RV g w (.ownT sz l) ℓ u:=by
 simp only[RV] at h |-;rcases h with h|⟨b,cap,vals,e,h1,h2,h3,h4,h5,h6,h7,h8⟩
 ·exact .inl h
 ·exact .inr ⟨b,0,cap,vals,e,h1,h2,h3,h4,h5,by simpa using h6,by simpa using h7,h8⟩
theorem Q0p{g:G}{w:World}{sz:Nat}{l:List (List D)}{ℓ:Owner}{u:Value}(h:RV g w (.ownT sz l) ℓ u):RD g.imm w (.lst sz l) u:=by
 simp only[RV] at h;simp only[RD]
 grind
theorem Ql3{g:G}{w:World}{sz:Nat}{l:List (List D)}{ℓ:Owner}{u:Value}(h:RV g w (.own sz l) ℓ u):RD g.imm w (.lst sz l) u:=by
 simp only[RV] at h;simp only[RD]
 grind
mutual
theorem Qja{g:G}{w:World}:∀(v:V)(ℓ a : Owner)(u:Value),RV g w v ℓ u->RV g w v.dem a u
 |.und,_,_,_,_=>by simp[V.dem,RV]
 |.d x,_,_,u,h=>by simpa[V.dem,RV] using h
 |.agg cs,ℓ,a,u,h=>by
  simp only[V.dem,RV] at h |-;obtain⟨vs,rfl,h,c⟩:=h;exact⟨vs,rfl,RVs_dem cs ℓ a 0 0 vs h,c⟩
 |.tup cs,ℓ,a,u,h=>by
  simp only[V.dem,RV] at h |-;obtain⟨vs,rfl,h⟩:=h;exact⟨vs,rfl,RVs_dem cs ℓ a 0 0 vs h⟩
 |.own sz l,ℓ,a,u,h=>by
  have:=Ql3 h;simpa[V.dem,RV] using this
 |.ownT sz l,ℓ,a,u,h=>by
  have:=Q0p h;simpa[V.dem,RV] using this
 |.ptr k off,_,_,_,h=>by simpa[V.dem,RV] using h
 |.nilp,_,_,_,h=>by simpa[V.dem,RV] using h
 |.f _,_,_,_,h=>by simpa[V.dem,RV] using h
 |.nils _,_,_,_,h=>by simpa[V.dem,RV] using h
 |.cref cs,_,_,_,h=>by simpa[V.dem,RV] using h
 |.sl sz k off len cap,_,_,_,h=>by simpa[V.dem,RV] using h
 |.clo f b,_,_,_,h=>by simpa[V.dem,RV] using h
 |.mp k,_,_,_,h=>by simpa[V.dem,RV] using h
theorem RVs_dem{g:G}{w:World}:∀(cs:List V)(ℓ a : Owner)(i b : Nat)(us:List Value),RVs g w cs ℓ i us->RVs g w (V.dems cs) a b us
 |[],_,_,_,_,_,h=>by simpa[V.dems,RVs] using h
 |c::cs,ℓ,a,i,b,us,h=>by
  simp only[V.dems,RVs] at h |-;obtain⟨u,us,rfl,e,d⟩:=h;exact⟨u,us,rfl,Qja c (ℓ.sub i) (a.sub b) u e,RVs_dem cs ℓ a (i+1) (b+1) us d⟩
end
mutual
theorem Qeh:∀v:V,v.dem.dem=v.dem
 |.und=>rfl
 |.d _=>rfl
 |.agg cs=>by simp[V.dem,dems_dems cs]
 |.tup cs=>by simp[V.dem,dems_dems cs]
 |.own _ _=>rfl
 |.ownT _ _=>rfl
 |.ptr _ _=>rfl
 |.nilp=>rfl
 |.f _=>rfl
 |.nils _=>rfl
 |.cref _=>rfl
 |.sl ..=>rfl
 |.clo _ _=>rfl
 |.mp _=>rfl
theorem dems_dems:∀vs:List V,V.dems (V.dems vs)=V.dems vs
 |[]=>rfl
 |v::vs=>by simp[V.dems,Qeh v,dems_dems vs]
end
theorem Qbph(v:V):v.dem.top=v.dem:=by cases v<;>first|rfl|exact Qeh _
theorem Q7d:∀vs:List V,own1 (V.dems vs)=V.dems vs
 |[]=>rfl
 |v::vs=>by simp only[V.dems,own1,Qbph,Q7d vs]
theorem Q7e{vs:List V}(h:∀v∈vs,v.dem=v):own1 vs=vs:=by
 have:V.dems vs=vs:=by
  induction vs with
  |nil=>rfl
  |cons v vs a=>grind [V.dems]
 rw[<-this];exact Q7d vs
theorem Q29:∀vs:List V,own1 vs=vs.map V.top
 |[]=>rfl
 |v::vs=>by simp only[own1,Q29 vs,Zb]
theorem Q9z{p:Nat->Prop}(v:V):v.top.on p↔v.on p:=by cases v<;>first|exact Zj|exact Qeg _
theorem Qbcx{v:V}(h:v.dem=v):v.topS=v:=by
 cases v<;>first|rfl|exact h|skip
 grind [V.dem,V.agg.injEq,V.topS,Q7d]
theorem Qbbn{p:Nat->Prop}:∀vs:List V,V.ons p (own1 vs)↔V.ons p vs
 |[]=>Zj
 |v::vs=>by simp only[own1,V.ons,Q9z v,Qbbn vs]
theorem Qbfi{p:Nat->Prop}(v:V):v.topS.on p↔v.on p:=by
 cases v<;>first|exact Zj|skip
 all_goals grind [V.topS,V.on,Qbbn,V.dem,ons_dems]
def Flat(v:V):Prop:=v.dem=v
theorem Qni{g:G}{w:World}{v:V}{ℓ a : Owner}{u:Value}(b:Flat v)(h:RV g w v ℓ u):RV g w v a u:=by
 have:=Qja v ℓ a u h
 rwa [b] at this
theorem Qde{g:G}{w:World}:∀(cs:List V)(ℓ:Owner)(i:Nat)(us:List Value),
  RVs g w cs ℓ i us↔us.length=cs.length/\∀j c u,cs[j]? = some c->us[j]? = some u->RV g w c (ℓ.sub (i+j)) u
 |[],ℓ,i,us=>by
  simp only[RVs,Zar];constructor
  ·rintro rfl;exact⟨rfl,by simp⟩
  ·rintro⟨h,_⟩;exact Zao h
 |c::cs,ℓ,i,us=>by
  simp only[RVs];constructor
  ·rintro⟨u,us,rfl,k,e⟩;obtain⟨b,e⟩:=(Qde cs ℓ (i+1) us).1 e;refine⟨by simp[b],fun j f d hc a=>?_⟩;cases j with
   |zero=>simp at hc a;subst hc a;exact k
   |succ j =>
    have:=e j f d (by simpa using hc) (by simpa using a)
    rwa [show i+1+j=i+(j+1) from by omega] at this
  ·rintro⟨b,h⟩;cases us with
   |nil=>simp at b
   |cons u us =>
    refine⟨u,us,rfl,by simpa using h 0 c u rfl rfl,(Qde cs ℓ (i+1) us).2 ⟨by simpa using b,fun j f d hc a=>?_⟩⟩;have:=h (j+1) f d (by simpa using hc) (by simpa using a)
    grind
theorem Qrj{g:G}{w:World}{cs:List V}{ℓ:Owner}{i:Nat}{us:List Value}(h:RVs g w cs ℓ i us):us.length=cs.length:=((Qde cs ℓ i us).1 h).1
def RM(g:G)(w:World)(k:Nat):List (V×V×Nat)->List MapEntry->Prop
 |[],es=>es=[]
 |x::r,es=>∃(e:MapEntry)(t:List MapEntry),es=e::t/\(x.1.dat=true/\RV g w x.1 .ext e.key)/\(x.2.1.mv=true/\RV g w x.2.1 (.cell k x.2.2) e.val)/\e.born=x.2.2/\RM g w k r t
def BR(g:G)(w:World)(k:Nat):Bx->Prop
 |.cells cs=>∃(a:List Value)(e:TypeId),w.heap[g.box k]? = some (.cells a.toArray e (0,0))/\RVs g w cs (.box k) 0 a/\∀u∈a,u.oneCell'=true
 |.mp es c=>∃b:List MapEntry,w.heap[g.box k]? = some (.map b.toArray c)/\RM g w k es b
theorem Qbpi{p:Nat->Prop}:∀{v:V},v.dat1=true->v.on p:=by
 intro v h;cases v<;>simp_all[V.dat1,V.on]
theorem Qyu{p:Nat->Prop}{v:V}(h:v.dat=true):v.on p:=by
 cases v with
 |agg cs =>
  grind [V.dat,List.all_eq_true,V.on,Qjn,Qbpi]
 |_=>simp_all[V.dat,V.on]
theorem Qbnb{v:V}(h:v.dat1=true):v.dem=v:=by
 cases v<;>simp_all[V.dat1,V.dem]
theorem Qbcy:∀{cs:List V},cs.all V.dat1=true->V.dems cs=cs
 |[],_=>rfl
 |c::cs,h=>by
  simp_all[Zbf,Zc,V.dems,Qbnb,Qbcy]
theorem Qbnc{v:V}(h:v.dat=true):Flat v:=by
 unfold Flat;cases v with
 |agg cs=>grind [V.dat,V.dem,Qbcy]
 |_=>simp_all[V.dat,V.dem]
theorem Qyv{v:V}(h:v.dat=true):v.dem=v:=Qbnc h
theorem Qtn{v:V}(h:v.mv=true):v.dat=true\/∃sz l,v = .own sz l:=by
 cases v<;>first|exact .inr ⟨_,_,rfl⟩|exact .inl h
theorem Q1r{v:V}(h:v.dat=true):v.mv=true:=by
 cases v<;>first|rfl|exact h
theorem Qbjs{v:V}(h:v.mv=true):v.dem.dat=true:=by
 rcases Qtn h with h|⟨sz,l,rfl⟩
 ·rw[Qyv h];exact h
 ·rfl
theorem Qbry{p:Nat->Prop}{v:V}(h:v.mv=true):v.on p:=by
 rcases Qtn h with h|⟨sz,l,rfl⟩
 ·exact Qyu h
 ·simp[V.on]
theorem Qbos{g g' : G}{w w' : World}{k:Nat}(b:∀(v:V)(u:Value),v.dat=true->RV g w v .ext u->RV g' w' v .ext u)(h:∀(v:V)(i:Nat)(u:Value),v.mv=true->RV g w v (.cell k i) u->RV g' w' v (.cell k i) u):∀{es:List (V×V×Nat)}{a:List MapEntry},RM g w k es a->RM g' w' k es a
 |[],_,hr=>hr
 |x::r,_,hr=>by
  simp only[RM] at hr |-;obtain⟨e,t,rfl,⟨d,m⟩,⟨c,l⟩,j,f⟩:=hr;exact⟨e,t,rfl,⟨d,b _ _ d m⟩,⟨c,h _ _ _ c l⟩,j,Qbos b h f⟩
theorem Qbpj{g g' : G}{w w' : World}(h:Imm g.imm g'.imm w w'){v:V}(b:v.dat1=true){ℓ a : Owner}{u:Value}:RV g w v ℓ u->RV g' w' v a u:=by
 cases v<;>simp_all[V.dat1,RV];exact Qg6 h _ _
theorem Qbgq{g g' : G}{w w' : World}(h:Imm g.imm g'.imm w w'):∀{cs:List V},cs.all V.dat1=true->∀{ℓ a : Owner}{i d : Nat}{us:List Value},RVs g w cs ℓ i us->RVs g' w' cs a d us
 |[],_,_,_,_,_,_,hr=>by simpa[RVs] using hr
 |c::cs,b,_,_,_,_,_,hr=>by
  simp only[Zbf,Zc] at b;simp only[RVs] at hr |-;obtain⟨u,us,rfl,f,e⟩:=hr;exact⟨u,us,rfl,Qbpj h b.1 f,Qbgq h b.2 e⟩
theorem Qxl{g g' : G}{w w' : World}(h:Imm g.imm g'.imm w w'){v:V}(b:v.dat=true){ℓ a : Owner}{u:Value}(hr:RV g w v ℓ u):RV g' w' v a u:=by
 cases v with
 |agg cs =>
  simp only[V.dat] at b;simp only[RV] at hr |-;obtain⟨vs,rfl,e,c⟩:=hr;exact⟨vs,rfl,Qbgq h b e,c⟩
 |d x=>grind [RV,Qg6]
 |nils _=>simpa[RV] using hr
 |_=>simp[V.dat] at b
theorem Qbjt{g g' : G}{w w' : World}{k:Nat}(d:Imm g.imm g'.imm w w')(h:∀(sz:Nat)(l:List (List D))(i:Nat)(u:Value),RV g w (.own sz l) (.cell k i) u->RV g' w' (.own sz l) (.cell k i) u){es:List (V×V×Nat)}{a:List MapEntry}(hr:RM g w k es a):RM g' w' k es a :=
 Qbos (fun _ _ b c=>Qxl d b c) (fun v i u b c=>by
  rcases Qtn b with b|⟨sz,l,rfl⟩
  all_goals grind [Qxl]) hr
theorem Qbbo{g g' : G}{w w' : World}{ℓ:Owner}(i:Imm g.imm g'.imm w w')(hb:∀b,g.own b=ℓ->b<w.heap.size->g'.own b=ℓ/\w'.heap[b]? = w.heap[b]? /\ ∀o,g'.imm b o↔g.imm b o){sz:Nat}{l:List (List D)}{u:Value}(a:RV g w (.own sz l) ℓ u):RV g' w' (.own sz l) ℓ u:=by
 simp only[RV] at a |-;rcases a with a|⟨b,cap,vals,e,h1,h2,h3,h4,h5,h6,h7,h8⟩
 ·exact .inl a
 ·have c:b<w.heap.size:=(Zag.1 h3).1;obtain⟨h,f,d⟩:=hb b h2 c;exact .inr ⟨b,cap,vals,e,h1,h,f.trans h3,h4,h5,h6,fun o=>(d o).trans (h7 o),RDL_mono i sz b l 0 h8⟩
theorem Qbcz{g g' : G}{w w' : World}{k:Nat}(c:Imm g.imm g'.imm w w')(hb:∀b i,g.own b = .cell k i->b<w.heap.size->g'.own b = .cell k i/\w'.heap[b]? = w.heap[b]? /\ ∀o,g'.imm b o↔g.imm b o){es:List (V×V×Nat)}{a:List MapEntry}(hr:RM g w k es a):RM g' w' k es a :=by grind [Qbjt,Qbbo]
theorem Qmo{g g' : G}{w w' : World}{k:Nat}{p:Nat->Prop}{keep:Owner->Prop}(h:Kept g w g' w' p keep)(d:∀i,keep (.cell k i)){es:List (V×V×Nat)}{a:List MapEntry}(hr:RM g w k es a):RM g' w' k es a :=
 Qbcz h.imm (fun b i hb c=>by have:=h.own b (by rw[hb];exact d i) c;rwa [hb] at this) hr
structure MR(g:G)(w:World)(M:Mem)(nb:Nat):Prop where
 box:∀k b,M k=some b->k<nb/\g.own (g.box k) = .box k/\BR g w k b
 imm:∀b o,g.imm b o->b<w.heap.size/\∀k,g.own b ≠ .box k
structure Fr(n0:Nat)(g0:G)(w0:World)(g:G)(w:World):Prop where
 os:w.os=w0.os
 tape:w.tape=w0.tape
 output:w.output=w0.output
 size:w0.heap.size<=w.heap.size
 imm:Imm g0.imm g.imm w0 w
 box:∀k,k<n0->g.box k=g0.box k
 old:∀b,b<w0.heap.size->Prot (g0.own b)->g.own b=g0.own b/\w.heap[b]? = w0.heap[b]? /\ ∀o,g.imm b o↔g0.imm b o
theorem Fr.refl(n0:Nat)(g:G)(w:World):Fr n0 g w g w :=
 ⟨rfl,rfl,rfl,Ze _,⟨fun _ _ h=>h,fun _ _ _=>rfl⟩,fun _ _=>rfl,fun _ _ _=>⟨rfl,rfl,fun _=>Zj⟩⟩
theorem Fr.next{n0 nb:Nat}{g0 g g' : G}{w0 w w' : World}(h:Fr n0 g0 w0 g w)(c:n0<=nb)(k:Fr nb g w g' w'):Fr n0 g0 w0 g' w':={
 os:=k.os.trans h.os
 tape:=k.tape.trans h.tape
 output:=k.output.trans h.output
 size:=Zac h.size k.size
 imm:=⟨fun b o hb=>k.imm.mono b o (h.imm.mono b o hb),fun b o hb=>(k.imm.look b o (h.imm.mono b o hb)).trans (h.imm.look b o hb)⟩
 box:=fun i a=>(k.box i (Zbn a c)).trans (h.box i a)
 old:=fun b hb ho=>by
  obtain⟨d,m,l⟩:=h.old b hb ho;obtain⟨j,f,e⟩:=k.old b (Zbn hb h.size) (by rw[d];exact ho)
  grind }
structure SR(n0 nt:Nat)(g0:G)(w0:World)(σ:St)(a:Act)(w:World)(g:G):Prop where
 mem:MR g w σ.M σ.nb
 slots:∀t,RV g w (σ.s t) (.slot t []) (a.tmps.getD t undef)
 size:a.tmps.size=nt
 defers:a.defers=[]
 onS:∀t,(σ.s t).on fun k=>(σ.M k).isSome=true
 onM:∀k cs,σ.M k=some (.cells cs)->(V.ons (fun j=>(σ.M j).isSome=true) cs)/\(k<n0->V.ons (· < n0) cs)
 top:n0+nt<=σ.nb
 fr:Fr n0 g0 w0 g w
end Go.Abs
end
section
namespace Go.Abs
open Go
def RF(g:G)(w:World)(v:V)(u:Value):Prop:=∀ℓ,RV g w v ℓ u
section
variable{g:G}{w:World}
theorem Qyw{v:V}{ℓ:Owner}{u:Value}(h:RV g w v ℓ u):RF g w v.dem u:=fun a=>Qja v ℓ a u h
theorem RF_d{x:D}{u:Value}:RF g w (.d x) u↔RD g.imm w x u:=by
 constructor
 ·intro h;simpa[RV] using h .free
 ·intro h ℓ;simpa[RV] using h
theorem Qto{k o:Nat}{u:Value}:RF g w (.ptr k o) u↔u = .pointer (some ⟨g.box k,o,none⟩):=by
 constructor
 ·intro h;simpa[RV] using h .free
 ·intro h ℓ;simpa[RV] using h
theorem Q9l{sz k o n c:Nat}{u:Value}:RF g w (.sl sz k o n c) u↔u = .slice (some ⟨g.box k,o,none⟩) n c:=by
 constructor
 ·intro h;simpa[RV] using h .free
 ·intro h ℓ;simpa[RV] using h
theorem Qwi{cs:List D}{u:Value}:RF g w (.cref cs) u↔∃b o,u = .pointer (some ⟨b,o,none⟩)/\RDc g.imm w b cs o:=by
 constructor
 ·intro h;simpa[RV] using h .free
 ·intro h ℓ;simpa[RV] using h
def RFs(g:G)(w:World):List V->List Value->Prop
 |[],us=>us=[]
 |v::vs,us=>∃u a,us=u::a/\RF g w v u/\RFs g w vs a
theorem Qka:∀{vs:List V}{us:List Value},RFs g w vs us->us.length=vs.length
 |[],us,h=>by simp[RFs] at h;simp[h]
 |v::vs,us,h=>by
  obtain⟨u,a,rfl,_,h⟩:=h;simp[Qka h]
theorem Qwj:∀{vs:List V}{us:List Value},RFs g w vs us->∀(i:Nat)(v:V)(u:Value),vs[i]? = some v->us[i]? = some u->RF g w v u
 |[],us,h,i,v,u,a,_=>by simp at a
 |v::vs,us,h,i,v',c,a,hu=>by
  obtain⟨u,b,rfl,d,h⟩:=h;cases i with
  |zero=>simp at a hu;subst a hu;exact d
  |succ i=>exact Qwj h i v' c (by simpa using a) (by simpa using hu)
theorem Qwk{imm:Nat->Nat->Prop}{b:Nat}:∀{ys:List D}{o:Nat},RDc imm w b ys o->∀j y,ys[j]? = some y->imm b (o+j)/\∃u,w.cell? ⟨b,o+j,none⟩=some u/\RD imm w y u
 |[],o,_,j,y,a=>by simp at a
 |y::ys,o,h,j,c,a=>by
  simp only[RDc] at h;cases j with
  |zero=>simp at a;subst a;exact⟨h.1,h.2.1⟩
  |succ j =>
   have:=Qwk h.2.2 j c (by simpa using a)
   rwa [show o+1+j=o+(j+1) from by omega] at this
theorem Q1s{imm:Nat->Nat->Prop}{b:Nat}:∀{ys:List D}{o:Nat},(∀j y,ys[j]? = some y->imm b (o+j)/\∃u,w.cell? ⟨b,o+j,none⟩=some u/\RD imm w y u)->RDc imm w b ys o
 |[],o,_=>by simp[RDc]
 |y::ys,o,h=>by
  simp only[RDc];obtain⟨e,d⟩:=h 0 y rfl;refine⟨by simpa using e,by simpa using d,Q1s fun j a c=>?_⟩;have:=h (j+1) a (by simpa using c)
  grind
theorem Q13{imm:Nat->Nat->Prop}{sz b:Nat}:∀{l:List (List D)}{o:Nat},RDL imm w sz b l o->∀i x,l[i]? = some x->x.length=sz/\RDc imm w b x (o+i*sz)
 |[],o,_,i,x,a=>by simp at a
 |x::xs,o,h,i,c,a=>by
  simp only[RDL] at h;cases i with
  |zero=>simp at a;subst a;exact⟨h.1,by simpa using h.2.1⟩
  |succ i =>
   have:=Q13 h.2.2 i c (by simpa using a)
   rwa [show o+sz+i*sz=o+(i+1)*sz from by rw[Zu];omega] at this
theorem Q5y{imm:Nat->Nat->Prop}{sz b:Nat}:∀{l:List (List D)}{o:Nat},(∀i x,l[i]? = some x->x.length=sz/\RDc imm w b x (o+i*sz))->RDL imm w sz b l o
 |[],o,_=>by simp[RDL]
 |x::xs,o,h=>by
  simp only[RDL];refine⟨(h 0 x rfl).1,by simpa using (h 0 x rfl).2,Q5y fun i a c=>?_⟩;have:=h (i+1) a (by simpa using c)
  grind
theorem Q4x{imm:Nat->Nat->Prop}{x:D}{u:Value}(h:RD imm w x u):u.oneCell'=true:=by
 cases x<;>simp only[RD] at h
 ·subst h;rfl
 ·subst h;rfl
 ·subst h;rfl
 ·obtain⟨a,c,rfl,_⟩:=h;rfl
 ·obtain⟨b,rfl,_⟩:=h;rfl
end
section
variable(P:Program){g:G}{w:World}
theorem Qig{t:TypeId}{i:TypeInfo}(h:P.info? t=some i)(w:World):(sizeOf t).run P w = .ok i.size w:=by simp[sizeOf,typeInfo,h]
theorem Qbju{t e:TypeId}(h:P.underlying t=some (.slice e)):P.underlying t=some (.slice (P.elem t)):=by
 rw[h];simp[Program.elem,h]
theorem Qf1{t:TypeId}{i:TypeInfo}(h:P.info? t=some i):P.cellsOf t=i.size:=by simp[Program.cellsOf,h]
theorem Qu3{t:TypeId}{d:TypeDesc}(a:P.underlying t=some d):(isAgg t).run P w = .ok (Qi8 P t) w:=by
 unfold isAgg Qi8;rw[Sem.run_bind,run_underlying a w,a];cases d<;>simp
theorem Qkp{t:TypeId}{d:TypeDesc}(h:P.underlying t=some d):∃i,P.info? t=some i:=by
 unfold Program.underlying at h
 grind
theorem Qik(b o n:Nat):(⟨b,o,none⟩ : Addr).add n=⟨b,o+n,none⟩:=by
 unfold Addr.add;split<;>simp_all
theorem Q7f(t:TypeId){d:TypeDesc}(e:P.underlying t=some d)(hA:Qi8 P t=true)(b o:Nat)(us:List Value)(f:us.length=P.cellsOf t)(hc:∀j u,us[j]? = some u->w.cell? ⟨b,o+j,none⟩=some u):(loadVar t ⟨b,o,none⟩).run P w = .ok (.agg us.toArray) w:=by
 obtain⟨i,h⟩:=Qkp P e;have a:=run_loadCells_list (P:=P) w ⟨b,o,none⟩ us (fun j u c=>by rw[Qik];exact hc j u c)
 simp_all[Qf1,Go.loadVar,Qu3,Qig]
theorem Q7g(t:TypeId){d:TypeDesc}(b:P.underlying t=some d)(hA:Qi8 P t=false)(a:Addr)(u:Value)(hc:w.cell? a=some u):
  (loadVar t a).run P w = .ok u w:=by
 simp[loadVar,Qu3 P b,hA,hc]
theorem Q0q{M:Mem}{nb k:Nat}{cs:List V}(h:MR g w M nb)(d:M k=some (.cells cs)){j:Nat}{c:V}(i:cs[j]? = some c):
  ∃u,w.cell? ⟨g.box k,j,none⟩=some u/\RV g w c (.cell k j) u/\u.oneCell'=true:=by
 obtain⟨_,_,a,e,l,hr,m⟩:=h.box k _ d;obtain⟨f,hr⟩:=(Qde _ _ _ _).1 hr;have b:j<a.length:=by grind
 simp_all[Zq,Go.World.cell?,Owner.sub]
theorem Q7h{M:Mem}{nb k:Nat}{cs:List V}(h:MR g w M nb)(b:M k=some (.cells cs))(o:Nat):∀(n:Nat),o+n<=cs.length ->
  ∃us:List Value,us.length=n/\(∀j u,us[j]? = some u->w.cell? ⟨g.box k,o+j,none⟩=some u)/\(∀u∈us,u.oneCell'=true) /\
   ∀j c u,((cs.drop o).take n)[j]? = some c->us[j]? = some u->RV g w c (.cell k (o+j)) u
 |0,_=>⟨[],rfl,by simp,by simp,by simp⟩
 |n+1,q=>by
  obtain⟨us,i,hc,r,hr⟩:=Q7h h b o n (by omega);obtain⟨u,p,f,d⟩:=Q0q h b (j:=o+n) (c:=cs[o+n]'(by omega)) (Zk _);refine⟨us++[u],by simp[i],fun j a l=>?_,fun a e=>?_,fun j c a m l=>?_⟩
  ·grind
  ·grind
  ·rcases Zam j n with hlt|hge
   all_goals grind
theorem Q6s{vs:List V}{j:Nat}{c:V}(h:(V.dems vs)[j]? = some c):∃a,vs[j]? = some a/\c=a.dem:=by
 induction vs generalizing j with
 |nil=>simp[V.dems] at h
 |cons v vs b =>
  cases j with
  |zero=>simp[V.dems] at h;exact⟨v,rfl,h.symm⟩
  |succ j=>grind [V.dems]
theorem Qbfj(vs:List V):(V.dems vs).length=vs.length:=by
 induction vs with
 |nil=>rfl
 |cons v vs a=>simp[V.dems,a]
theorem Qbjv{M:Mem}{nb:Nat}(C:MR g w M nb)(t:TypeId){d:TypeDesc}(A:P.underlying t=some d){n0 κ:Nat}{p v:V}{M' : Mem}{u:Value}(hp:RF g w p u)(a:Qj n0 κ (.load (Qi8 P t) (P.cellsOf t)) [p] M=some (v,M')):
  M'=M/\∃val,(Instr.loadAt t u).run P w = .ok val w/\RF g w v val:=by
 cases p<;>simp only[Qj] at a<;>try (cases a;done)
 case ptr k off =>
  rw[Qto] at hp;subst hp;cases hMk:M k with
  |none=>simp[hMk] at a
  |some b =>
   cases b with
   |mp es=>simp[hMk] at a
   |cells cs =>
    simp only[hMk] at a;split at a
    case isFalse=>cases a
    case isTrue hle =>
     cases hA:Qi8 P t with
     |true =>
      simp only[hA,if_true,Zh,Zf] at a;obtain⟨rfl,rfl⟩:=a;refine⟨rfl,?_⟩;obtain⟨us,l,hc,H,hr⟩:=Q7h C hMk off _ hle;refine⟨.agg us.toArray,?_,fun ℓ=>?_⟩
      ·grind [Go.Instr.loadAt,Go.Instr.sureAddr,Go.Sem.run_bind,Go.Sem.run_pure,Go.Result.andThen_ok,Q7f]
      ·simp only[RV];refine⟨us,rfl,(Qde _ _ _ _).2 ⟨by rw[Qbfj,Zbm,List.length_drop,l];omega,fun j c u z e=>?_⟩,H⟩;obtain⟨J,B,rfl⟩:=Q6s z
       grind [Qja]
     |false =>
      simp only[hA,Zg,if_false] at a;cases hcs:cs[off]? with
      |none=>simp[hcs] at a
      |some c =>
       simp[hcs] at a;obtain⟨rfl,rfl⟩:=a;obtain⟨u,e,f,_⟩:=Q0q C hMk hcs;exact⟨rfl,u,by simp[Instr.loadAt,Instr.sureAddr,Q7g P t A hA _ u e],Qyw f⟩
 case cref cs =>
  rw[Qwi] at hp;obtain⟨b,o,rfl,hr⟩:=hp;split at a
  case isFalse=>cases a
  case isTrue hle =>
   cases hA:Qi8 P t with
   |true =>
    simp only[hA,if_true,Zh,Zf] at a;obtain⟨rfl,rfl⟩:=a;refine⟨rfl,?_⟩;have s:∀n,n<=cs.length->∃us:List Value,us.length=n/\(∀(j:Nat)u,us[j]? = some u->w.cell? ⟨b,o+j,none⟩=some u)/\∀(j:Nat)y u,cs[j]? = some y->us[j]? = some u->RD g.imm w y u:=by
     intro n
     induction n with
     |zero=>simp_all
     |succ n F =>
      intro I;obtain⟨us,l,hc,i⟩:=F (by omega);obtain⟨_,u,e,f⟩:=Qwk hr n (cs[n]'(by omega)) (Zk _);refine⟨us++[u],by simp[l],fun j E r=>?_,fun j y E r m=>?_⟩
      all_goals grind
    obtain⟨us,l,hc,i⟩:=s _ hle;refine⟨.agg us.toArray,?_,fun ℓ=>?_⟩
    ·grind [Go.Instr.loadAt,Go.Instr.sureAddr,Go.Sem.run_bind,Go.Sem.run_pure,Go.Result.andThen_ok,Q7f]
    ·simp only[RV];have h:∀(j:Nat)c u,((cs.take (P.cellsOf t)).map V.d)[j]? = some c->us[j]? = some u->∃y,c = .d y/\RD g.imm w y u:=by
      grind
     refine⟨us,rfl,(Qde _ _ _ _).2 ⟨by simp[l];omega,fun j c u x e=>?_⟩,fun u e=>?_⟩
     ·obtain⟨y,rfl,i⟩:=h j c u x e;simpa[RV] using i
     ·obtain⟨j,r,rfl⟩:=Zah e;have m : j<((cs.take (P.cellsOf t)).map V.d).length:=by simp;omega
      obtain⟨y,_,i⟩:=h j _ us[j] (Zk m) (by simp[r]);exact Q4x i
   |false =>
    simp only[hA,Zg,if_false] at a;cases hcs:cs[0]? with
    |none=>simp[hcs] at a
    |some y =>
     simp[hcs] at a;obtain⟨rfl,rfl⟩:=a;obtain⟨_,u,e,f⟩:=Qwk hr 0 y hcs;have q : w.cell? ⟨b,o,none⟩=some u:=e;exact⟨rfl,u,by simp[Instr.loadAt,Instr.sureAddr,Q7g P t A hA _ u q],RF_d.2 f⟩
end
end Go.Abs
end
section
namespace Go.Abs
open Go
section
variable(P:Program){g:G}{w:World}
theorem Qrr{k:IntKind}{n:Int}{u:Value}(h:RF g w (.d (.int k n)) u):u = .int k n:=by simpa[RD] using RF_d.1 h
theorem Q7i{b:Bool}{u:Value}(h:RF g w (.d (.bool b)) u):u = .bool b:=by simpa[RD] using RF_d.1 h
theorem Qbim{b:ByteArray}{u:Value}(h:RF g w (.d (.str b)) u):u = .string b:=by simpa[RD] using RF_d.1 h
theorem Qwl(op:BinOp)(t:TypeId)(x y:Operand)(a b:Value)(h:(match a,b with | .nilIface,.nilIface=>false | .agg _,.agg _=>false|_,_=>true)=true)(w:World):
  (eqGuard op t x y a b).run P w = .ok () w:=by
 unfold eqGuard;cases a<;>cases b<;>simp at h<;>(split<;>simp[*])
theorem Qbq0(op:BinOp)(l:Bool)(i:TypeId)(m:l=true->P.underlying i=some .bool)(x y:Operand){a b c:D}{u v:Value}(ha:RF g w (.d a) u)(f : RF g w (.d b) v)(e:binD op l a b=some c):
  ∃val,((do eqGuard op i x y u v;binOp op i u v:Sem Value)).run P w = .ok val w/\RF g w (.d c) val:=by
 cases a<;>cases b<;>simp only[binD] at e<;>try (cases e;done)
 case int.int k a k' b =>
  have ha:=Qrr ha;have f:=Qrr f;subst ha f;rw[Sem.run_bind,Qwl P op i x y _ _ rfl w,Result.andThen_ok];cases op<;>simp only at e
  case shl=>split at e<;>cases e;rename_i h;exact⟨.int k (k.wrap (a*2 ^ min b.toNat k.bits)),by simp[binOp,Op.shift,h],by rw[RF_d];simp[RD]⟩
  case shr=>split at e<;>cases e;rename_i h;exact⟨.int k (a.fdiv (2 ^ min b.toNat k.bits)),by simp[binOp,Op.shift,h],by rw[RF_d];simp[RD]⟩
  case quo =>
   split at e<;>try (cases e;done)
   rename_i j;subst j;simp only[Qbct] at e;split at e<;>cases e;simp_all[Go.binOp,Go.Op.intDiv,RF_d,RD]
  case rem =>
   split at e<;>try (cases e;done)
   rename_i j;subst j;simp only[Qbct] at e;split at e<;>cases e;simp_all[Go.binOp,Go.Op.intDiv,RF_d,RD]
  all_goals
   split at e<;>try (cases e;done)
   rename_i j;subst j;simp only[Qbct] at e;cases e
   simp_all[Go.binOp,Go.Op.intArith,Go.Op.intBits,Go.Op.intCmp,RF_d,RD]
 case bool.bool a b =>
  have ha:=Q7i ha;have f:=Q7i f;subst ha f;rw[Sem.run_bind,Qwl P op i x y _ _ rfl w,Result.andThen_ok];cases op<;>cases l<;>simp only at e<;>cases e
  ·exact⟨_,run_eql_bool (P:=P) w i a b (m rfl),by rw[RF_d];simp[RD]⟩
  ·exact⟨_,run_neq_bool (P:=P) w i a b (m rfl),by rw[RF_d];simp[RD]⟩
 case str.str a b =>
  have ha:=Qbim ha;have f:=Qbim f;subst ha f;rw[Sem.run_bind,Qwl P op i x y _ _ rfl w,Result.andThen_ok];cases op<;>simp only at e<;>cases e
  all_goals simp_all[Go.binOp,Go.Op.stringOp,RF_d,RD]
theorem Qbrz(op:UnOp){a c:D}{u:Value}(ha:RF g w (.d a) u)(b:unD op a=some c):
  ∃val,(Op.unary op u).run P w = .ok val w/\RF g w (.d c) val:=by
 cases op<;>cases a<;>simp only[unD] at b<;>cases b
 all_goals simp_all[Qrr,Go.Op.unary,Go.Op.intArith,RF_d,RD,Q7i]
theorem Qbpk(s d:TypeId)(k:IntKind)(b:(P.underlying s).isSome=true)(c:P.underlying d=some (.int k)){k' : IntKind}{n:Int}{u:Value}(a:RF g w (.d (.int k' n)) u):
  ∃val,(convert s d u).run P w = .ok val w/\RF g w (.d (.int k (k.wrap n))) val:=by
 have a:=Qrr a;subst a;cases hsd:P.underlying s with
 |none=>simp[hsd] at b
 |some ds =>
  simp_all[Go.convert,Go.run_underlying,Go.Conv.intToInt,RF_d,RD]
theorem Q90:∀{l:List (List D)}{a:List Int},Qbcu l=some a->l=a.map fun n=>[.int .u8 n]
 |[],a,h=>by simp[Qbcu] at h;subst h;rfl
 |x::l,a,h=>by
  unfold Qbcu at h;split at h<;>try (cases h;done)
  ·rename_i e;cases e
  ·rename_i e;cases e;simp only[Zd] at h;obtain⟨ms,b,rfl⟩:=h;rw[Q90 b];rfl
theorem Qbpl(s d e:TypeId)(x:P.underlying s=some (.slice e))(z:P.underlying e=some (.int .u8))(A:P.underlying d=some .string){sz:Nat}{l:List (List D)}{c:List Int}(y:Qbcu l=some c){u:Value}(m:RF g w (.d (.lst sz l)) u):
  ∃val,(convert s d u).run P w = .ok val w/\RF g w (.d (.str (strB c))) val:=by
 have h:=Q90 y;have m:=RF_d.1 m;simp only[RD] at m;obtain⟨a,f,rfl,r,hr⟩:=m;refine⟨.string (strB c),?_,RF_d.2 (by simp only[RD])⟩;rw[run_convert_bytes_string w s d e _ _ _ x z A];rcases hr with h0|⟨b,o,rfl,hr⟩
 ·have:c=[]:=by rw[h] at h0;simpa using h0
  subst this;subst h0;cases a with
  |none=>simp[Conv.bytesToString,strB]
  |some a=>exact run_bytesToString w a 0 f [] (by simpa using run_loadCells_list (P:=P) w a [] (by simp))
 ·have t:l=[]\/sz=1:=by
   cases c with
   |nil=>left;simpa using h
   |cons n c =>
    right;subst h;have:=(Q13 hr 0 [.int .u8 n] (by simp)).1;simpa using this.symm
  rcases t with h0|rfl
  ·have:c=[]:=by rw[h] at h0;simpa using h0
   subst this;subst h0;exact run_bytesToString w _ 0 f [] (by simpa using run_loadCells_list (P:=P) w ⟨b,o,none⟩ [] (by simp))
  ·have hc:=run_loadCells_list (P:=P) w ⟨b,o,none⟩ (c.map (Value.int .u8)) (fun j v p=>by
    simp only[Zai,Zd] at p;obtain⟨n,p,rfl⟩:=p;have B:=(Q13 hr j [.int .u8 n] (by rw[h];simp[p])).2;obtain⟨_,u,q,i⟩:=Qwk B 0 (.int .u8 n) rfl;simp only[RD] at i;subst i;rw[Qik];simpa using q)
   have k:l.length=(c.map (Value.int .u8)).length:=by rw[h];simp
   rw[k];exact run_bytesToString w _ _ f c hc
theorem Qbjw{x v:V}{u:Value}{n0 κ:Nat}{M M' : Mem}(d:RF g w x u)(f:Qj n0 κ .nilchk [x] M=some (v,M'))(o:Oper)(a:Act)(y:Operand)(ho:o.op = .nilCheck y)(e:a.eval y=u):
  M'=M/\∃val,(execOp a.eval o).run P w = .ok (.value val) w/\RF g w v val:=by
 cases x<;>simp only[Qj] at f<;>cases f
 ·rw[Qto] at d;subst d;exact⟨rfl,_,by simp[execOp,ho,e],Qto.2 rfl⟩
 ·have c:=Qwi.1 d;obtain⟨b,o',rfl,_⟩:=c;exact⟨rfl,_,by simp[execOp,ho,e],d⟩
 ·have c:=d .free;simp only[RV] at c;obtain⟨vs,rfl,_⟩:=c;exact⟨rfl,_,by simp[execOp,ho,e],d⟩
theorem Qbq1(s:TypeId)(m:Array Field)(d : P.underlying s=some (.struct m))(f:Nat)(a:Field)(l:m[f]? = some a)(h:P.cellsOf a.type≠0){x v:V}{u:Value}{n0 κ:Nat}{M M' : Mem}(e:RF g w x u)(k:Qj n0 κ (.fld a.offset) [x] M=some (v,M')):
  M'=M/\∃val,(Instr.fieldAt s u f).run P w = .ok val w/\RF g w v val:=by
 have c:∀w,(sizeOf a.type).run P w = .ok (P.cellsOf a.type) w:=by
  intro w;cases hi:P.info? a.type with
  |none=>simp[Program.cellsOf,hi] at h
  |some i=>rw[Qig P hi,Qf1 P hi]
 cases x<;>simp only[Qj] at k<;>cases k
 ·rw[Qto] at e;subst e;refine⟨rfl,_,?_,Qto.2 rfl⟩;simp[Instr.fieldAt,run_underlying d,l,Instr.sureAddr,fieldPlace,c,h,Qik]
 ·obtain⟨b,o',rfl,hr⟩:=Qwi.1 e;refine⟨rfl,.pointer (some ⟨b,o'+a.offset,none⟩),?_,Qwi.2 ⟨_,_,rfl,Q1s fun j y n=>?_⟩⟩
  ·simp[Instr.fieldAt,run_underlying d,l,Instr.sureAddr,fieldPlace,c,h,Qik]
  grind [Qwk]
theorem Qbq2(t e:TypeId)(y:P.underlying t=some (.slice e))(C:P.cellsOf e≠0){x i v:V}{u q:Value}{n0 κ:Nat}{M M' : Mem}(r:RF g w x u)(p:RF g w i q)(f:Qj n0 κ (.idx (P.cellsOf e)) [x,i] M=some (v,M')):
  M'=M/\∃val,(Instr.indexAt t u q).run P w = .ok val w/\RF g w v val:=by
 have B:∀w,(sizeOf e).run P w = .ok (P.cellsOf e) w:=by
  intro w;cases p:P.info? e with
  |none=>simp[Program.cellsOf,p] at C
  |some i=>rw[Qig P p,Qf1 P p]
 have lst:∀(l:List (List D))(k:IntKind)(n:Int),RD g.imm w (.lst (P.cellsOf e) l) u->q = .int k n->0<=n->∀c,l[n.toNat]? = some c ->
   ∃val,(Instr.indexAt t u q).run P w = .ok val w/\RF g w (.cref c) val:=by
  intro l k n m j z c hc;simp only[RD] at m;obtain⟨a,F,rfl,_,m⟩:=m;subst j;have s:n.toNat<l.length:=(Zn.1 hc).1;rcases m with rfl|⟨b,o,rfl,m⟩
  ·simp at s
  ·refine⟨.pointer (some ⟨b,o+n.toNat*P.cellsOf e,none⟩),?_,Qwi.2 ⟨_,_,rfl,(Q13 m _ _ hc).2⟩⟩;simp only[Instr.indexAt,asIntOf,Sem.run_bind,Sem.run_pure,Result.andThen_ok,run_underlying y]
   simp_all[if_pos,Qik]
 cases i<;>try (simp[Qj] at f;done)
 rename_i E;cases E<;>try (simp[Qj] at f;done)
 rename_i k n;have j:=Qrr p;cases x<;>simp only[Qj] at f<;>try (cases f;done)
 case d dx =>
  cases dx<;>simp only at f<;>try (cases f;done)
  split at f
  case isFalse=>cases f
  case isTrue h =>
   simp only[Zc,decide_eq_true_eq] at h;simp only[Zd,Zf] at f;obtain⟨c,hc,rfl,rfl⟩:=f;rw[RF_d,h.1] at r
   grind
 case own =>
  split at f
  case isFalse=>cases f
  case isTrue h =>
   simp only[Zc,decide_eq_true_eq] at h;simp only[Zd,Zf] at f;obtain⟨c,hc,rfl,rfl⟩:=f;rename_i A l;obtain⟨rfl,z⟩:=h;exact⟨rfl,lst _ k n (Ql3 (r .free)) j z c hc⟩
 case sl =>
  split at f
  case isFalse=>cases f
  case isTrue h =>
   simp only[Zc,decide_eq_true_eq] at h;cases f;rw[Q9l] at r;subst r j;refine⟨rfl,_,?_,Qto.2 rfl⟩;simp only[Instr.indexAt,asIntOf,Sem.run_bind,Sem.run_pure,Result.andThen_ok,run_underlying y]
   simp_all[if_pos,Qik]
theorem Qbjx(t e:TypeId)(len:Nat)(o:P.underlying t=some (.array len e))(p:P.cellsOf e≠0){x i v:V}{u m:Value}{n0 κ:Nat}{M M' : Mem}(l:RF g w x u)(f:RF g w i m)(a:Qj n0 κ (.idxarr (P.cellsOf e) len) [x,i] M=some (v,M')):
  M'=M/\∃val,(Instr.indexAt t u m).run P w = .ok val w/\RF g w v val:=by
 have d:∀w,(sizeOf e).run P w = .ok (P.cellsOf e) w:=by
  intro w;cases f:P.info? e with
  |none=>simp[Program.cellsOf,f] at p
  |some i=>rw[Qig P f,Qf1 P f]
 cases i<;>try (simp[Qj] at a;done)
 rename_i q;cases q<;>try (simp[Qj] at a;done)
 rename_i k n;have c:=Qrr f;simp only[Qj] at a;split at a
 case isFalse=>cases a
 case isTrue h =>
  simp only[Zc,decide_eq_true_eq] at h;cases x<;>simp only at a<;>cases a
  ·rw[Qto] at l;subst l c;refine⟨rfl,_,?_,Qto.2 rfl⟩;simp only[Instr.indexAt,asIntOf,Sem.run_bind,Sem.run_pure,Result.andThen_ok,run_underlying o,Instr.sureAddr];rw[if_pos h];simp[d,Qik]
  ·obtain⟨b,o',rfl,hr⟩:=Qwi.1 l;subst c;refine⟨rfl,.pointer (some ⟨b,o'+n.toNat*P.cellsOf e,none⟩),?_,Qwi.2 ⟨_,_,rfl,Q1s fun j y r=>?_⟩⟩
   ·simp only[Instr.indexAt,asIntOf,Sem.run_bind,Sem.run_pure,Result.andThen_ok,run_underlying o,Instr.sureAddr];rw[if_pos h];simp[d,Qik]
   grind [Qwk]
theorem Qbq3(t f e:TypeId)(j:P.underlying t=some (.slice e)){M:Mem}{nb:Nat}(k:MR g w M nb){x v:V}{u:Value}{n0 κ:Nat}{M' : Mem}(i:RF g w x u)(b:Qj n0 κ .len [x] M=some (v,M')):
  M'=M/\∃val,(Builtin.len_ #[t] f #[u]).run P w = .ok val w/\RF g w v val:=by
 have key:∀(a:Option Addr)(n c:Nat),u = .slice a n c->∃val,(Builtin.len_ #[t] f #[u]).run P w = .ok val w/\RF g w (.d (.int .i64 n)) val:=by
  rintro a n c rfl;exact⟨_,run_len_slice (P:=P) w t f a n c (Qbju P j),by rw[RF_d];simp[RD,goInt]⟩
 have lst:∀sz l,RD g.imm w (.lst sz l) u->∃val,(Builtin.len_ #[t] f #[u]).run P w = .ok val w/\RF g w (.d (.int .i64 l.length)) val:=by
  grind [RD]
 cases x<;>simp only[Qj] at b<;>try (cases b;done)
 case d dx =>
  cases dx<;>simp only at b<;>cases b;exact⟨rfl,lst _ _ (RF_d.1 i)⟩
 case own=>cases b;exact⟨rfl,lst _ _ (Ql3 (i .free))⟩
 case nils=>cases b;have h:=i .free;simp only[RV] at h;grind
 case sl=>cases b;exact⟨rfl,key _ _ _ (Q9l.1 i)⟩
theorem Qbpm(t b:TypeId)(d:P.underlying t=some .string){M:Mem}{x v:V}{u:Value}{n0 κ:Nat}{M' : Mem}(c:RF g w x u)(a:Qj n0 κ .lens [x] M=some (v,M')):
  M'=M/\∃val,(Builtin.len_ #[t] b #[u]).run P w = .ok val w/\RF g w v val:=by
 cases x<;>try (simp[Qj] at a;done)
 rename_i e;cases e<;>try (simp[Qj] at a;done)
 simp only[Qj] at a;cases a;have:=Qbim c;subst this;exact⟨rfl,_,run_len_string (P:=P) w t b _ d,by rw[RF_d];simp[RD,goInt]⟩
theorem Qbpn(t:TypeId)(e:P.underlying t=some .string){M:Mem}{x i v:V}{u c:Value}{n0 κ:Nat}{M' : Mem}(d:RF g w x u)(f:RF g w i c)(a:Qj n0 κ .idxs [x,i] M=some (v,M')):
  M'=M/\∃val,(Instr.index t u c).run P w = .ok val w/\RF g w v val:=by
 cases x<;>try (simp[Qj] at a;done)
 rename_i j;cases j<;>try (simp[Qj] at a;done)
 cases i<;>try (simp[Qj] at a;done)
 rename_i h;cases h<;>try (simp[Qj] at a;done)
 simp only[Qj] at a;split at a<;>cases a;rename_i b;rw[Qbim d,Qrr f];refine⟨rfl,_,?_,RF_d.2 (by simp only[RD];rfl)⟩;rw[run_index_string (P:=P) w t _ _ _ e,dif_pos b]
theorem Qbpo(ts:Array TypeId)(b:TypeId){x y v:V}{u z:Value}{n0 κ:Nat}{M M' : Mem}(d:RF g w x u)(c:RF g w y z)(a:Qj n0 κ .max2 [x,y] M=some (v,M')):
  M'=M/\∃val,(Builtin.max_ ts b #[u,z]).run P w = .ok val w/\RF g w v val:=by
 cases x<;>try (simp[Qj] at a;done)
 rename_i f;cases f<;>try (simp[Qj] at a;done)
 cases y<;>try (simp[Qj] at a;done)
 rename_i e;cases e<;>try (simp[Qj] at a;done)
 simp only[Qj] at a;split at a<;>cases a;rw[Qrr d,Qrr c];exact⟨rfl,_,run_max_int2 (P:=P) w ts b _ _ _ _,by rw[RF_d];simp[RD]⟩
theorem Qbpp(ts:Array TypeId)(b:TypeId){x y v:V}{u z:Value}{n0 κ:Nat}{M M' : Mem}(d:RF g w x u)(c:RF g w y z)(a:Qj n0 κ .min2 [x,y] M=some (v,M')):
  M'=M/\∃val,(Builtin.min_ ts b #[u,z]).run P w = .ok val w/\RF g w v val:=by
 cases x<;>try (simp[Qj] at a;done)
 rename_i f;cases f<;>try (simp[Qj] at a;done)
 cases y<;>try (simp[Qj] at a;done)
 rename_i e;cases e<;>try (simp[Qj] at a;done)
 simp only[Qj] at a;split at a<;>cases a;rw[Qrr d,Qrr c];exact⟨rfl,_,run_min_int2 (P:=P) w ts b _ _ _ _,by rw[RF_d];simp[RD]⟩
theorem Qbpq{c x y v:V}{f e d:Value}{n0 κ:Nat}{M M' : Mem}(hc:RF g w c f)(i:RF g w x e)(h:RF g w y d)(a:Qj n0 κ .pick [c,x,y] M=some (v,M')):
  M'=M/\∃val,((do pure (Next.value (if <-asBool f then e else d)):Sem Next)).run P w = .ok (.value val) w/\RF g w v val:=by
 cases c<;>try (simp[Qj] at a;done)
 rename_i j;cases j<;>try (simp[Qj] at a;done)
 simp only[Qj] at a;rename_i b;cases a;rw[Q7i hc];cases b
 ·exact⟨rfl,d,by simp[asBool],by simpa using h⟩
 ·exact⟨rfl,e,by simp[asBool],by simpa using i⟩
end
end Go.Abs
end
section
namespace Go.Abs
open Go
section
variable(P:Program){g:G}{w:World}
def Qpl(lo c:Bool)(bs:List V):Option (Option Int×Option Int):=
 match lo,c,bs with
 |false,false,[]=>some ((none:Option Int),(none:Option Int))
 |true,false,[.d (.int _ a)]=>some (some a,none)
 |false,true,[.d (.int _ b)]=>some (none,some b)
 |true,true,[.d (.int _ a),.d (.int _ b)]=>some (some a,some b)
 |_,_,_=>none
theorem Q0r(t e:TypeId)(s:P.underlying t=some (.slice e))(z:P.cellsOf e≠0)(lo o:Option Value){bs:List V}{la hb:Option Int}(c : RFs g w bs (lo.toList++o.toList))(f:Qpl lo.isSome o.isSome bs=some (la,hb))(a:Option Addr)(len h:Nat)(x:0<=la.getD 0)(r:la.getD 0<=hb.getD len)(v:hb.getD len<=len)(B:len<=h):
  (Instr.sliceAt t (.slice a len h) lo o none).run P w = .ok (sliced a (la.getD 0).toNat (hb.getD len).toNat h (P.cellsOf e)) w:=by
 have p:∀w,(sizeOf (P.elem t)).run P w = .ok (P.cellsOf e) w:=by
  intro w;have:P.elem t=e:=by simp[Program.elem,s]
  rw[this];cases o:P.info? e with
  |none=>simp[Program.cellsOf,o] at z
  |some i=>rw[Qig P o,Qf1 P o]
 have l:=Qbju P s;rw[run_sliceAt_slice (P:=P) w t _ _ _ _ l];cases lo with
 |none =>
  cases o with
  |none =>
   simp only[Option.toList,Zas,Option.isSome] at c f;cases bs with
   |cons b bs=>simp[RFs] at c
   |nil =>
    simp only[Qpl,Zh,Zf] at f;obtain⟨rfl,rfl⟩:=f
    simp_all[Go.run_slice_all]
  |some y =>
   simp only[Option.toList,Zbo,Option.isSome] at c f
   match bs,c,f with
   |[.d (.int k n)],c,f =>
    simp only[Qpl,Zh,Zf] at f;obtain⟨rfl,rfl⟩:=f;obtain⟨u,us,j,hr,_⟩:=c;simp at j;obtain⟨rfl,rfl⟩:=j;rw[Qrr hr,run_slice_h (P:=P) w t a len h l k n (by simp at r;omega) (by simp at v;omega),p];simp
 |some A =>
  cases o with
  |none =>
   simp only[Option.toList,Zas,Option.isSome] at c f
   match bs,c,f with
   |[.d (.int k n)],c,f =>
    simp only[Qpl,Zh,Zf] at f;obtain⟨rfl,rfl⟩:=f;obtain⟨u,us,j,hr,_⟩:=c;simp at j;obtain⟨rfl,rfl⟩:=j;rw[Qrr hr,run_slice_l (P:=P) w t a len h l k n (by simpa using x) (by simpa using r),p];simp
  |some y =>
   simp only[Option.toList,Option.isSome,Zaw,Zbo] at c f
   match bs,c,f with
   |[.d (.int k n),.d (.int k' m)],c,f =>
    simp only[Qpl,Zh,Zf] at f;obtain⟨rfl,rfl⟩:=f;obtain⟨u,us,j,hr,c⟩:=c;simp at j;obtain⟨rfl,rfl⟩:=j;obtain⟨u,us,j,q,_⟩:=c;simp at j;obtain⟨rfl,rfl⟩:=j;rw[Qrr hr,Qrr q,run_slice_lh (P:=P) w t a len h l k k' n m (by simpa using x) (by simpa using r) (by simp at v;omega),p];simp
theorem Q14(n0 κ sz:Nat)(lo e:Bool)(x:V)(bs:List V)(M:Mem):Qj n0 κ (.slice sz lo e) (x::bs) M =
  match Qpl lo e bs with
  |some (a,b)=>
   match x with
   |.d (.lst c l) | .own c l =>
    let h:=b.getD l.length;let a:=a.getD 0
    if c=sz&&decide (0<=a)&&decide (a<=h)&&decide (h<=l.length) then some (.d (.lst sz ((l.take h.toNat).drop a.toNat)),M) else none
   |.sl c k off len cap =>
    let h:=b.getD len;let a:=a.getD 0
    if c=sz&&decide (0<=a)&&decide (a<=h)&&decide (h<=len)&&decide (len<=cap) then some ((if cap=a.toNat then .sl sz k off 0 0 else .sl sz k (off+a.toNat*sz) (h.toNat-a.toNat) (cap-a.toNat)),M) else none
   |.nils c=>if c=sz&&decide (0<=a.getD 0)&&decide (a.getD 0<=b.getD 0)&&decide (b.getD 0<=0) then some (.nils sz,M) else none
   |_=>none
  |none=>none:=rfl
theorem Qbgr(t e:TypeId)(r:P.underlying t=some (.slice e))(z:P.cellsOf e≠0)(lo j:Option Value){x:V}{bs:List V}{v:V}{u:Value}{n0 κ:Nat}{M M' : Mem}(n:RF g w x u)(hb:RFs g w bs (lo.toList++j.toList))(c:Qj n0 κ (.slice (P.cellsOf e) lo.isSome j.isSome) (x::bs) M=some (v,M')):
  M'=M/\∃val,(Instr.sliceAt t u lo j none).run P w = .ok val w/\RF g w v val:=by
 rw[Q14] at c;cases ha:Qpl lo.isSome j.isSome bs with
 |none=>simp[ha] at c
 |some I =>
  obtain⟨la,f⟩:=I;simp only[ha] at c;have lst:∀sz' l,RD g.imm w (.lst sz' l) u->sz'=P.cellsOf e->0<=la.getD 0->la.getD 0<=f.getD l.length->f.getD l.length<=l.length ->
    ∃val,(Instr.sliceAt t u lo j none).run P w = .ok val w/\RF g w (.d (.lst (P.cellsOf e) ((l.take (f.getD l.length).toNat).drop (la.getD 0).toNat))) val:=by
   intro sz' l m p F E C;subst p;simp only[RD] at m;obtain⟨a,cap,rfl,q,m⟩:=m;refine⟨_,Q0r P t e r z lo j hb ha a l.length cap F E C q,?_⟩;rw[RF_d];simp only[RD,sliced,List.length_drop,Zbm];have H:min (f.getD l.length).toNat l.length=(f.getD l.length).toNat:=by omega
   rw[H];refine⟨_,_,rfl,by omega,?_⟩;rcases m with rfl|⟨b,o,rfl,m⟩
   ·left;simp
   ·by_cases s:cap=(la.getD 0).toNat
    ·grind
    ·right;refine⟨b,o+(la.getD 0).toNat*P.cellsOf e,by rw[if_neg s];simp[Qik],Q5y fun i x j=>?_⟩;have y : l[(la.getD 0).toNat+i]? = some x:=by
      grind
     have:=Q13 m _ _ y
     grind
  cases x<;>(try simp only at c)<;>try (cases c;done)
  case d dx =>
   cases dx<;>(try simp only at c)<;>try (cases c;done)
   split at c
   case isFalse=>cases c
   case isTrue h =>
    simp only[Zc,decide_eq_true_eq] at h;cases c;exact⟨rfl,lst _ _ (RF_d.1 n) h.1.1.1 h.1.1.2 h.1.2 h.2⟩
  case own =>
   split at c
   case isFalse=>cases c
   case isTrue h =>
    simp only[Zc,decide_eq_true_eq] at h;cases c;exact⟨rfl,lst _ _ (Ql3 (n .free)) h.1.1.1 h.1.1.2 h.1.2 h.2⟩
  case nils sz' =>
   split at c
   case isFalse=>cases c
   case isTrue h =>
    simp only[Zc,decide_eq_true_eq] at h;cases c;obtain⟨A,rfl⟩ : ∃A,u = .slice A 0 0:=by simpa[RV] using n .free
    refine⟨rfl,_,Q0r P t e r z lo j hb ha A 0 0 h.1.1.2 h.1.2 h.2 (Ze _),fun ℓ=>?_⟩
    grind [RV,Go.sliced]
  case sl sz' k off len cap =>
   split at c
   case isFalse=>cases c
   case isTrue h =>
    simp only[Zc,decide_eq_true_eq] at h;cases c;rw[Q9l] at n;subst n;refine⟨rfl,_,Q0r P t e r z lo j hb ha _ len cap h.1.1.1.2 h.1.1.2 h.1.2 h.2,?_⟩;have B:=h.2;by_cases s:cap=(la.getD 0).toNat
    ·rw[if_pos s,Q9l];simp only[sliced]
     grind
    simp_all[if_neg,Q9l,Go.sliced,Qik]
theorem Qbpr(f:FuncId){a:List V}{us:List Value}{v:V}{n0 κ:Nat}{M M' : Mem}(b:RFs g w a us)(d:Qj n0 κ (.func f) a M=some (v,M')):
  M'=M/\RF g w v (.func (.func f) #[] us.toArray):=by
 have:Qj n0 κ (.func f) a M=some (.clo f a,M):=by cases a<;>rfl
 rw[this] at d;cases d;refine⟨rfl,fun ℓ=>?_⟩;simp only[RV];exact⟨us,rfl,(Qde _ _ _ _).2 ⟨Qka b,fun j c u hc e=>Qwj b j c u hc e _⟩⟩
theorem Qbgs(t:TypeId){d:TypeDesc}(h:P.underlying t=some d){cs:List V}{vs:List Value}(b:vs.length=cs.length)(hr:∀(j:Nat)(c:V)(u:Value),cs[j]? = some c->vs[j]? = some u->RF g w c u)(k:∀u∈vs,u.oneCell'=true)(off:Nat){v:V}(a:(if Qi8 P t then some (.agg ((cs.drop off).take (P.cellsOf t))) else cs[off]?)=some v):
  ∃val,(part t vs.toArray off).run P w = .ok val w/\RF g w v val:=by
 obtain⟨i,l⟩:=Qkp P h;cases hA:Qi8 P t with
 |true =>
  simp only[hA,if_true,Zh] at a;subst a;refine⟨.agg ((vs.drop off).take (P.cellsOf t)).toArray,?_,fun ℓ=>?_⟩
  ·simp_all[Go.part,Go.Sem.run_bind,Qu3,Go.Result.andThen_ok,if_true,Qig,Go.Sem.run_pure,Qf1,Array.ext',List.extract,Nat.add_sub_cancel_left]
  ·simp only[RV];refine⟨_,rfl,(Qde _ _ _ _).2 ⟨by simp[b],fun j c u hc e=>?_⟩,fun u e=>k u (List.mem_of_mem_drop (Zbx e))⟩;simp only[List.getElem?_take,Zbv] at hc e;split at hc<;>simp_all;exact hr _ _ _ hc e _
 |false =>
  simp only[hA,Zg,if_false] at a;have f:=(Zn.1 a).1;refine⟨vs[off]'(by omega),?_,hr off v _ a (Zk _)⟩
  simp_all[Go.part,Qu3,Zk]
theorem Q5z{cs:List V}{u:Value}(l:Flat (.agg cs))(h:RF g w (.agg cs) u):
  ∃vs:List Value,u = .agg vs.toArray/\vs.length=cs.length/\(∀(j:Nat)(c:V)(x:Value),cs[j]? = some c->vs[j]? = some x->RF g w c x)/\∀x∈vs,x.oneCell'=true:=by
 have f:=h .free;simp only[RV] at f;obtain⟨vs,rfl,hr,m⟩:=f;obtain⟨k,hr⟩:=(Qde _ _ _ _).1 hr;refine⟨vs,rfl,k,fun j c x hc i ℓ=>?_,m⟩;have b:c.dem=c:=by
  have a : V.dems cs=cs:=by simpa[Flat,V.dem] using l
  have d : (V.dems cs)[j]? = some c:=by rw[a];exact hc
  obtain⟨n,e,rfl⟩:=Q6s d;exact Qeh n
 exact Qni b (hr j c x hc i)
theorem Qbnd(t:TypeId)(h:Array Field)(o:P.underlying t=some (.struct h))(f:Nat)(a:Field)(p:h[f]? = some a){d:TypeDesc}(m:P.underlying a.type=some d){x v:V}{u:Value}{n0 κ:Nat}{M M' : Mem}(c:Flat x)(i:RF g w x u)(b:Qj n0 κ (.field (Qi8 P a.type) a.offset (P.cellsOf a.type)) [x] M=some (v,M')):
  M'=M/\∃val,(Instr.field t u f).run P w = .ok val w/\RF g w v val:=by
 cases x<;>try (simp[Qj] at b;done)
 rename_i cs;obtain⟨vs,rfl,l,hr,n⟩:=Q5z c i;simp only[Qj] at b;split at b
 case isFalse=>cases b
 case isTrue hle =>
  have j:(if Qi8 P a.type then some (.agg ((cs.drop a.offset).take (P.cellsOf a.type))) else cs[a.offset]?)=some v/\M'=M:=by
   grind
  obtain⟨val,e,k⟩:=Qbgs P a.type m l hr n a.offset j.1
  simp_all[Go.Instr.field,Go.run_underlying,Go.asAgg]
theorem Qbjy(t e:TypeId)(n:Nat)(A:P.underlying t=some (.array n e)){d:TypeDesc}(h:P.underlying e=some d){x i v:V}{u c:Value}{n0 κ:Nat}{M M' : Mem}(b:Flat x)(j:RF g w x u)(r:RF g w i c)(a:Qj n0 κ (.idxval (Qi8 P e) (P.cellsOf e) n) [x,i] M=some (v,M')):
  M'=M/\∃val,(Instr.index t u c).run P w = .ok val w/\RF g w v val:=by
 cases x<;>try (simp[Qj] at a;done)
 cases i<;>try (simp[Qj] at a;done)
 rename_i cs y;cases y<;>try (simp[Qj] at a;done)
 rename_i k m;obtain⟨vs,rfl,p,hr,s⟩:=Q5z b j;obtain⟨z,q⟩:=Qkp P h;have:=Qrr r;subst this;simp only[Qj] at a;split at a
 case isFalse=>cases a
 case isTrue hle =>
  simp only[Zc,decide_eq_true_eq] at hle;have l:(if Qi8 P e then some (.agg ((cs.drop (m.toNat*P.cellsOf e)).take (P.cellsOf e))) else cs[m.toNat*P.cellsOf e]?)=some v/\M'=M:=by
   grind
  obtain⟨val,f,o⟩:=Qbgs P e h p hr s _ l.1
  simp_all[Go.Instr.index,Go.asIntOf,Go.Sem.run_bind,Go.Sem.run_pure,Go.Result.andThen_ok,Go.run_underlying,if_pos,Qig,Qf1]
theorem Qbbp{x:V}{u:Value}(h:Flat x)(e:RF g w x u)(k:Qev x=true):
  u.cells.toList.length=x.cells.length/\(∀(j:Nat)(c:V)(y:Value),x.cells[j]? = some c->u.cells.toList[j]? = some y->RF g w c y)/\∀y∈u.cells.toList,y.oneCell'=true:=by
 have one:u.cells = #[u]->x.cells=[x]->u.oneCell'=true->u.cells.toList.length=x.cells.length/\(∀(j:Nat)(c:V)(y:Value),x.cells[j]? = some c->u.cells.toList[j]? = some y->RF g w c y)/\∀y∈u.cells.toList,y.oneCell'=true:=by
  grind
 cases x<;>simp[Qev] at k
 case agg cs =>
  obtain⟨vs,rfl,l,hr,m⟩:=Q5z h e
  grind [Go.Value.cells,V.cells]
 case d dx =>
  have:=RF_d.1 e;cases dx<;>simp only[RD] at this
  ·subst this;exact one rfl rfl rfl
  ·subst this;exact one rfl rfl rfl
  ·subst this;exact one rfl rfl rfl
  ·obtain⟨a,i,rfl,_⟩:=this;exact one rfl rfl rfl
  ·obtain⟨b,rfl,_⟩:=this;exact one rfl rfl rfl
 case own=>simp[Flat,V.dem] at h
 case ownT=>simp[Flat,V.dem] at h
 case ptr=>have:=Qto.1 e;subst this;exact one rfl rfl rfl
 case nilp=>have:=e .free;simp only[RV] at this;subst this;exact one rfl rfl rfl
 case f dx =>
  have:=e .free;simp only[RV] at this;cases dx<;>simp only[RD] at this
  ·subst this;exact one rfl rfl rfl
  ·subst this;exact one rfl rfl rfl
  ·subst this;exact one rfl rfl rfl
  ·obtain⟨a,i,rfl,_⟩:=this;exact one rfl rfl rfl
  ·obtain⟨b,rfl,_⟩:=this;exact one rfl rfl rfl
 case nils sz=>have:=e .free;simp only[RV] at this;obtain⟨n,rfl⟩:=this;exact one rfl rfl rfl
 case cref=>obtain⟨b,o,rfl,_⟩:=Qwi.1 e;exact one rfl rfl rfl
 case sl=>have:=Q9l.1 e;subst this;exact one rfl rfl rfl
 case clo=>have:=e .free;simp only[RV] at this;obtain⟨vs,rfl,_⟩:=this;exact one rfl rfl rfl
 case mp=>have:=e .free;simp only[RV] at this;subst this;exact one rfl rfl rfl
theorem Q50(d:Nat)(X Y:Array Value):∀(M:List Field)(i:Nat)(N:List Nat)(xs ys:List V)(b:Bool),Qi9 P i M=some N->Qer N xs ys=some b ->
  (∀(j:Nat)(c:V)(u:Value),xs[j]? = some c->X[i+j]? = some u->RF g w c u)->(∀(j:Nat)(c:V)(u:Value),ys[j]? = some c->Y[i+j]? = some u->RF g w c u) ->
  i+xs.length<=X.size->i+ys.length<=Y.size->(Op.eqFields (d+1) X Y M).run P w = .ok b w
 |[],i,N,xs,ys,b,hk,he,_,_,_,_=>by
  simp only[Qi9,Zh] at hk;subst hk
  match xs,ys,he with
  |[],[],he=>simp_all[Qer,Zh,Go.Op.eqFields]
 |f::M,i,N,xs,ys,b,hk,he,U,T,hX,W=>by
  simp only[Qi9] at hk;split at hk<;>try (cases hk;done)
  rename_i R;split at hk<;>try (cases hk;done)
  rename_i k L E Q;simp only[Zh] at hk;subst hk;have q:∀(Z:Array Value)(u:Value),Qi8 P f.type=false->(∃t,P.underlying f.type=some t)->Z[f.offset]? = some u->(part f.type Z f.offset).run P w = .ok u w:=by
   simp_all[Go.part,Qu3]
  have p:∀(x y:V)(h e : List V)(u v:Value)(r:Bool)(A : Bool),xs=x::h->ys=y::e->X[i]? = some u->Y[i]? = some v->Qi8 P f.type=false->(∃t,P.underlying f.type=some t) ->
    (Op.equalIn (d+1) f.type u v).run P w = .ok r w->Qer L h e=some A->(Op.eqFields (d+1) X Y (f::M)).run P w = .ok (r&&A) w:=by
   rintro x y h e u v r A rfl rfl C B hA o hr n;have ih:=Q50 d X Y M (i+1) L h e A Q n (fun j c z hc hz=>U (j+1) c z (by simpa using hc) (by grind))
    (fun j c z hc hz=>T (j+1) c z (by simpa using hc) (by grind)) (by simp at hX;omega) (by simp at W;omega)
   have m:=q X u hA o (by rw[R.1];exact C);have l:=q Y v hA o (by rw[R.1];exact B);simp only[Op.eqFields,R.2,ne_eq,not_false_eq_true,if_true,Sem.run_bind,m,l,Result.andThen_ok,hr];cases r
   ·simp
   ·simpa using ih
  have H:∀x h,xs=x::h->∃u,X[i]? = some u/\RF g w x u:=by
   rintro x h rfl;have s:i<X.size:=by simp at hX;omega
   exact⟨X[i],by simp[s],U 0 x X[i] rfl (by simp[s])⟩
  have F:∀y e,ys=y::e->∃u,Y[i]? = some u/\RF g w y u:=by
   rintro y e rfl;have s:i<Y.size:=by simp at W;omega
   exact⟨Y[i],by simp[s],T 0 y Y[i] rfl (by simp[s])⟩
  unfold Qj9 at E;split at E<;>cases E
  ·rename_i kk o
   match xs,ys,he with
   |.d (.int S a)::h,.d (.int k2 c)::e,he =>
    simp only[Qer] at he;split at he<;>try (cases he;done)
    rename_i O;subst O;simp only[Zd] at he;obtain⟨A,n,rfl⟩:=he;obtain⟨u,C,J⟩:=H _ _ rfl;obtain⟨v,B,I⟩:=F _ _ rfl;refine p _ _ _ _ u v (a==c) A rfl rfl C B (by simp[Qi8,o]) ⟨_,o⟩ ?_ n;have m : u = .int S a:=by simpa[RD] using RF_d.1 J
    have l : v = .int S c:=by simpa[RD] using RF_d.1 I
    subst m l;simp[Op.equalIn,run_underlying o]
  ·rename_i o
   match xs,ys,he with
   |.d (.bool a)::h,.d (.bool c)::e,he =>
    simp only[Qer,Zd] at he;obtain⟨A,n,rfl⟩:=he;obtain⟨u,C,J⟩:=H _ _ rfl;obtain⟨v,B,I⟩:=F _ _ rfl;refine p _ _ _ _ u v (a==c) A rfl rfl C B (by simp[Qi8,o]) ⟨_,o⟩ ?_ n;have m : u = .bool a:=by simpa[RD] using RF_d.1 J
    have l : v = .bool c:=by simpa[RD] using RF_d.1 I
    subst m l;simp[Op.equalIn,run_underlying o]
  ·rename_i o
   match xs,ys,he with
   |.d (.str a)::h,.d (.str c)::e,he =>
    simp only[Qer,Zd] at he;obtain⟨A,n,rfl⟩:=he;obtain⟨u,C,J⟩:=H _ _ rfl;obtain⟨v,B,I⟩:=F _ _ rfl;refine p _ _ _ _ u v (a==c) A rfl rfl C B (by simp[Qi8,o]) ⟨_,o⟩ ?_ n;have m : u = .string a:=by simpa[RD] using RF_d.1 J
    have l : v = .string c:=by simpa[RD] using RF_d.1 I
    subst m l;simp[Op.equalIn,run_underlying o]
theorem Qpc:∀(e:List Nat)(xs ys:List V)(b:Bool),Qer e xs ys=some b->xs.length=ys.length
 |[],[],[],_,_=>rfl
 |0::e,.d (.int k a)::xs,.d (.int k' c)::ys,b,h=>by
  simp only[Qer] at h;split at h<;>try (cases h;done)
  simp only[Zd] at h;obtain⟨f,h,_⟩:=h;simp[Qpc e xs ys f h]
 |1::e,.d (.bool a)::xs,.d (.bool c)::ys,b,h=>by
  simp only[Qer,Zd] at h;obtain⟨f,h,_⟩:=h;simp[Qpc e xs ys f h]
 |2::e,.d (.str a)::xs,.d (.str c)::ys,b,h=>by
  simp only[Qer,Zd] at h;obtain⟨f,h,_⟩:=h;simp[Qpc e xs ys f h]
theorem Qbps(d:Nat){t:TypeId}{k:Nat}(n:Qj9 P t=some k){x y:V}{u v:Value}{b:Bool}(e:Qer [k] [x] [y]=some b)(l:RF g w x u)(j:RF g w y v):
  (Op.equalIn (d+1) t u v).run P w = .ok b w:=by
 unfold Qj9 at n;split at n<;>cases n
 ·rename_i p i
  match x,y,e with
  |.d (.int o a),.d (.int q c),e =>
   simp only[Qer] at e;split at e<;>try (cases e;done)
   rename_i m;subst m;simp only[Zad,Zh,Bool.and_true] at e;subst e;have h : u = .int o a:=by simpa[RD] using RF_d.1 l
   have f : v = .int o c:=by simpa[RD] using RF_d.1 j
   subst h f;simp[Op.equalIn,run_underlying i]
 ·rename_i i
  match x,y,e with
  |.d (.bool a),.d (.bool c),e =>
   simp only[Qer,Zad,Zh,Bool.and_true] at e;subst e;have h : u = .bool a:=by simpa[RD] using RF_d.1 l
   have f : v = .bool c:=by simpa[RD] using RF_d.1 j
   subst h f;simp[Op.equalIn,run_underlying i]
 ·rename_i i
  match x,y,e with
  |.d (.str a),.d (.str c),e =>
   simp only[Qer,Zad,Zh,Bool.and_true] at e;subst e;have h : u = .string a:=by simpa[RD] using RF_d.1 l
   have f : v = .string c:=by simpa[RD] using RF_d.1 j
   subst h f;simp[Op.equalIn,run_underlying i]
theorem Q3a{t:TypeId}{k:Nat}(c:Qj9 P t=some k){Z:Array Value}{o:Nat}{u:Value}(a:Z[o]? = some u):(part t Z o).run P w = .ok u w:=by
 have:Qi8 P t=false/\∃d,P.underlying t=some d:=by
  grind [Qj9,Qi8]
 obtain⟨hA,d,b⟩:=this;simp[part,Qu3 P b,hA,a]
theorem Qbc0{k:Nat}{e:List Nat}{x y:V}{xs ys:List V}{b:Bool}(h:Qer (k::e) (x::xs) (y::ys)=some b):∃r f,Qer [k] [x] [y]=some r/\Qer e xs ys=some f/\b=(r&&f):=by
 match k,x,y,h with
 |0,.d (.int j a),.d (.int i c),h =>
  simp only[Qer] at h |-;split at h<;>try (cases h;done)
  rename_i l;simp only[Zd] at h
  grind
 |1,.d (.bool a),.d (.bool c),h =>
  simp only[Qer,Zd] at h |-
  grind
 |2,.d (.str a),.d (.str c),h =>
  simp only[Qer,Zd] at h |-
  grind
theorem Q7j(d:Nat)(X Y:Array Value){e:TypeId}{k:Nat}(h:Qj9 P e=some k):∀(n i:Nat)(xs ys:List V)(b:Bool),Qer (List.replicate n k) xs ys=some b ->
  (∀(j:Nat)(c:V)(u:Value),xs[j]? = some c->X[i+j]? = some u->RF g w c u)->(∀(j:Nat)(c:V)(u:Value),ys[j]? = some c->Y[i+j]? = some u->RF g w c u) ->
  i+xs.length<=X.size->i+ys.length<=Y.size->(Op.eqItems (d+1) e 1 X Y (List.range' i n)).run P w = .ok b w
 |0,i,xs,ys,b,he,_,_,_,_=>by
  match xs,ys,he with
  |[],[],he=>simp_all[List.replicate_zero,Qer,Zh,Go.Op.eqItems]
 |n+1,i,xs,ys,b,he,m,l,s,p=>by
  rw[Zby] at he
  match xs,ys with
  |[],_=>cases k<;>simp[Qer] at he
  |_::_,[]=>grind [absurd,Qpc]
  |x::xs,y::ys =>
   obtain⟨r,I,H,F,rfl⟩:=Qbc0 he;have f:i<X.size:=by simp at s;omega
   have a:i<Y.size:=by simp at p;omega
   have v:=m 0 x X[i] rfl (by simp[f]);have t:=l 0 y Y[i] rfl (by simp[a]);have C:=Q7j d X Y h n (i+1) xs ys I F (fun j c z hc E=>m (j+1) c z (by simpa using hc) (by grind))
    (fun j c z hc E=>l (j+1) c z (by simpa using hc) (by grind)) (by simp at s;omega) (by simp at p;omega)
   have B:=Q3a (w:=w) P h (Z:=X) (o:=i) (u:=X[i]) (by simp[f]);have A:=Q3a (w:=w) P h (Z:=Y) (o:=i) (u:=Y[i]) (by simp[a]);have q:=Qbps P d h H v t;simp only[List.range'_succ,Op.eqItems,Nat.mul_one,Sem.run_bind,B,A,Result.andThen_ok,q];cases r
   ·simp
   ·simpa using C
theorem Qbgt(t:TypeId){q:List Nat}(a:Qlt P t=some q){xs ys:List V}{vs d : List Value}{b:Bool}(r:vs.length=xs.length)(hr:∀(j:Nat)(c:V)(x:Value),xs[j]? = some c->vs[j]? = some x->RF g w c x)(m : d.length=ys.length)(l : ∀(j:Nat)(c:V)(x:Value),ys[j]? = some c->d[j]? = some x->RF g w c x)(hb:Qer q xs ys=some b):
  (Op.equalIn 10000 t (.agg vs.toArray) (.agg d.toArray)).run P w = .ok b w/\P.eqGuardType P.depth t=false:=by
 unfold Qlt at a;split at a<;>try (cases a;done)
 ·rename_i s p;split at a<;>try (cases a;done)
  rename_i h;have o:P.fieldsOf t=s:=by simp[Program.fieldsOf,p]
  refine⟨?_,h.2⟩;rw[run_equalIn_struct (P:=P) w 9999 t vs.toArray d.toArray (by rw[o];exact p) h.1,o];exact Q50 P 9998 vs.toArray d.toArray s.toList 0 q xs ys b a hb (fun j c u hc f=>hr j c u hc (by simpa using f)) (fun j c u hc f=>l j c u hc (by simpa using f)) (by simp[r]) (by simp[m])
 ·rename_i n e p;split at a<;>try (cases a;done)
  rename_i h;simp only[Zd] at a;obtain⟨k,v,rfl⟩:=a;obtain⟨i,y⟩:=Zab.1 h.1;refine⟨?_,h.2.2⟩;rw[run_equalIn_array (P:=P) w 9999 vs.toArray d.toArray p y,h.2.1,List.range_eq_range'];exact Q7j P 9998 vs.toArray d.toArray v n 0 xs ys b hb (fun j c u hc f=>hr j c u hc (by simpa using f)) (fun j c u hc f=>l j c u hc (by simpa using f)) (by simp[r]) (by simp[m])
theorem Qbot(t:TypeId){h:List Nat}(f:Qlt P t=some h){xs ys:List V}{vs a : List Value}{b:Bool}(i:vs.length=xs.length)(hr:∀(j:Nat)(c:V)(x:Value),xs[j]? = some c->vs[j]? = some x->RF g w c x)(e : a.length=ys.length)(d : ∀(j:Nat)(c:V)(x:Value),ys[j]? = some c->a[j]? = some x->RF g w c x)(hb:Qer h xs ys=some b):
  (∀x y,((do eqGuard .eql t x y (.agg vs.toArray) (.agg a.toArray);binOp .eql t (.agg vs.toArray) (.agg a.toArray):Sem Value)).run P w = .ok (.bool b) w) /\
  (∀x y,((do eqGuard .neq t x y (.agg vs.toArray) (.agg a.toArray);binOp .neq t (.agg vs.toArray) (.agg a.toArray):Sem Value)).run P w = .ok (.bool !b) w):=by
 obtain⟨k,l⟩:=Qbgt P t f i hr e d hb
 simp_all[Go.eqGuard,Go.Sem.run_bind,Go.Result.andThen_ok,Go.run_eql_struct,Go.run_neq_struct]
end
end Go.Abs
end
section
namespace Go.Abs
open Go
section
variable(P:Program){g:G}{w:World}
structure CR(g:G)(w:World)(cs:List V)(us:List Value):Prop where
 len:us.length=cs.length
 rf:∀(j:Nat)(c:V)(y:Value),cs[j]? = some c->us[j]? = some y->RF g w c y
 one:∀y∈us,y.oneCell'=true
theorem CR.append{a b:List V}{x y:List Value}(h:CR g w a x)(k:CR g w b y):CR g w (a++b) (x++y):={
 len:=by simp[h.len,k.len]
 rf:=fun j c z hc d=>by
  rcases Zam j a.length with hlt|hge
  ·rw[Zbg hlt] at hc;rw[Zbg (by rw[h.len];exact hlt)] at d;exact h.rf j c z hc d
  ·rw[Zax hge] at hc;rw[Zax (by rw[h.len];exact hge),h.len] at d;exact k.rf _ c z hc d
 one:=fun z d=>by
  rcases Zr.1 d with d|d
  ·exact h.one z d
  ·exact k.one z d }
theorem CR.take{a:List V}{x:List Value}(h:CR g w a x)(n:Nat):CR g w (a.take n) (x.take n):={
 len:=by simp[h.len]
 rf:=fun j c z hc b=>by
  simp only[List.getElem?_take] at hc b;split at hc
  ·rename_i d;rw[if_pos d] at b;exact h.rf j c z hc b
  ·cases hc
 one:=fun z b=>h.one z (Zbx b) }
theorem CR.drop{a:List V}{x:List Value}(h:CR g w a x)(n:Nat):CR g w (a.drop n) (x.drop n):={
 len:=by simp[h.len]
 rf:=fun j c z hc b=>by
  simp only[Zbv] at hc b;exact h.rf _ c z hc b
 one:=fun z b=>h.one z (List.mem_of_mem_drop b) }
theorem CR.nil:CR g w [] []:=⟨rfl,by simp,by simp⟩
theorem CR.cons{c:V}{y:Value}{cs:List V}{us:List Value}(h:RF g w c y)(b:y.oneCell'=true)(k:CR g w cs us):CR g w (c::cs) (y::us):=
 CR.append (a:=[c]) (x:=[y]) ⟨rfl,fun j e z hc d=>by cases j<;>simp_all,by simpa using b⟩ k
theorem CR.rep{z:List V}{u:List Value}(h:CR g w z u):∀n,CR g w (rep n z) (List.replicate n u).flatten
 |0=>by simpa[Abs.rep] using CR.nil
 |n+1=>by
  simp only[Abs.rep,Zby,Zbb];exact CR.append h (CR.rep h n)
def Qbfk(cells:List Value):List (Nat×List Value)->List Value
 |[]=>cells
 |(off,vs)::rest=>Qbfk (cells.take off++vs++cells.drop (off+vs.length)) rest
theorem Qbgu:∀(vs:List Value)(off i:Nat)(cells:List Value),off+i+vs.length<=cells.length ->
  ((vs.zipIdx i).foldl (fun(cs:Array Value)(p:Value×Nat)=>cs.setIfInBounds (off+p.2) p.1) cells.toArray).toList=cells.take (off+i)++vs++cells.drop (off+i+vs.length)
 |[],off,i,cells,h=>by simp
 |v::vs,off,i,cells,h=>by
  simp only[List.zipIdx_cons,Zbh];have e:cells.toArray.setIfInBounds (off+i) v=(cells.set (off+i) v).toArray:=by simp
  rw[e,Qbgu vs off (i+1) (cells.set (off+i) v) (by simp at h |-;omega)];simp only[Zx] at h |-;apply List.ext_getElem?;intro j;simp only[List.getElem?_append,List.getElem?_take,Zbv,Zy,Zbm,List.length_set,Zx,List.getElem?_set]
  grind
theorem Qbjz(vs:Array Value)(off:Nat)(cells:Array Value)(h:off+vs.size<=cells.size):
  (vs.zipIdx.foldl (fun(cs:Array Value)(p:Value×Nat)=>cs.setIfInBounds (off+p.2) p.1) cells)=(cells.toList.take off++vs.toList++cells.toList.drop (off+vs.size)).toArray:=by
 have:=Qbgu vs.toList off 0 cells.toList (by simpa using h);apply Array.ext';have e:vs.zipIdx.foldl (fun(cs:Array Value)(p:Value×Nat)=>cs.setIfInBounds (off+p.2) p.1) cells=vs.toList.zipIdx.foldl (fun(cs:Array Value)(p:Value×Nat)=>cs.setIfInBounds (off+p.2) p.1) cells:=by
  rw[<-Array.foldl_toList];congr 1;simp
 rw[e];simpa using this
theorem Qbgv(c:Nat->Option (Nat×Nat)):∀(a:List (Nat×Value))(b:List Nat)(cells:List Value),
  b.length=a.length ->
  (∀(j i off:Nat)(v:Value),a[j]? = some (i,v)->b[j]? = some off->c i=some (off,v.cells.size)/\off+v.cells.size<=cells.length) ->
  Instr.fill c cells.toArray a=some (Qbfk cells ((b.zip a).map fun p=>(p.1,p.2.2.cells.toList))).toArray
 |[],b,cells,e,_=>by
  simp_all[Zao,Go.Instr.fill,Qbfk]
 |(i,v)::a,[],cells,e,_=>by simp at e
 |(i,v)::a,off::b,cells,e,h=>by
  obtain⟨hp,f⟩:=h 0 i off v rfl rfl;simp only[Instr.fill,hp,List.zip_cons_cons,Zb,Qbfk];rw[if_neg (by simp;omega)];rw[Qbjz _ _ _ (by simpa using f)];have:=Qbgv c a b (cells.take off++v.cells.toList++cells.drop (off+v.cells.size)) (by simpa using e) (fun j k d v' l ho=>by
   obtain⟨n,m⟩:=h (j+1) k d v' (by simpa using l) (by simpa using ho)
   grind)
  simpa using this
theorem Qbj0:∀(b:List (Nat×List V))(a:List (Nat×List Value)){cells:List V}{us:List Value},CR g w cells us->b.length=a.length ->
  (∀(j o o' : Nat)(cs:List V)(vs:List Value),b[j]? = some (o,cs)->a[j]? = some (o',vs)->o=o'/\CR g w cs vs)->CR g w (Qjy cells b) (Qbfk us a)
 |[],[],_,_,h,_,_=>h
 |[],_::_,_,_,_,c,_=>by simp at c
 |_::_,[],_,_,_,c,_=>by simp at c
 |(o,cs)::b,(o',vs)::a,cells,us,h,c,hp=>by
  obtain⟨rfl,d⟩:=hp 0 o o' cs vs rfl rfl;simp only[Qjy,Qbfk];refine Qbj0 b a ?_ (by simpa using c) (fun j o o' cs vs f e=>hp (j+1) o o' cs vs (by simpa using f) (by simpa using e));rw[d.len];exact CR.append (CR.append (h.take o) d) (h.drop _)
theorem Q51:∀(a:List (Nat×List V))(cells:List V),(∀p∈a,p.1+p.2.length<=cells.length)->(Qjy cells a).length=cells.length
 |[],_,_=>rfl
 |(o,cs)::a,cells,h=>by
  have b:=h (o,cs) (by simp);simp only at b;simp only[Qjy];rw[Q51 a _ (fun p hp=>by have:=h p (by simp[hp]);simp;omega)];simp;omega
theorem Qbfl{v:Value}{x:V}(h:Qbbk v=some x):RF g w x v/\v.oneCell'=true/\Flat x/\∀n,x.lt n=true:=by
 cases v<;>simp only[Qbbk] at h<;>try (cases h;done)
 case bool=>cases h;exact⟨by rw[RF_d];simp[RD],rfl,rfl,fun _=>rfl⟩
 case int=>cases h;exact⟨by rw[RF_d];simp[RD],rfl,rfl,fun _=>rfl⟩
 case string=>cases h;exact⟨by rw[RF_d];simp[RD],rfl,rfl,fun _=>rfl⟩
 case pointer a =>
  cases a with
  |none=>cases h;exact⟨fun ℓ=>by simp[RV],rfl,rfl,fun _=>rfl⟩
  |some a=>cases h;exact⟨fun ℓ=>by simp[RV],rfl,rfl,fun _=>rfl⟩
 all_goals (cases h;exact⟨fun ℓ=>by simp[RV],rfl,rfl,fun _=>rfl⟩)
theorem Qwm:∀(c:List (Option Nat))(vs:List Value)(xs:List V),Qpb c vs=some xs->CR g w xs vs/\∀n,V.lt.go n xs=true
 |[],[],xs,h=>by simp[Qpb] at h;subst h;exact⟨CR.nil,fun _=>rfl⟩
 |[],_::_,xs,h=>by simp[Qpb] at h
 |some n::c,[],xs,h=>by simp[Qpb] at h
 |none::c,[],xs,h=>by simp[Qpb] at h
 |some n::c,v::vs,xs,h=>by
  unfold Qpb at h;split at h<;>try (cases h;done)
  ·simp_all
  ·rename_i b a;simp only[Zo] at b a;obtain⟨f,rfl⟩:=b;obtain⟨rfl,rfl⟩:=a;simp only[Zd] at h;obtain⟨ys,j,rfl⟩:=h;obtain⟨hc,e⟩:=Qwm _ _ _ j;exact⟨CR.cons (fun ℓ=>by simp[RV]) rfl hc,fun n=>by simp[V.lt.go,V.lt,e]⟩
  grind
 |none::c,v::vs,xs,h=>by
  simp only[Qpb] at h;split at h
  ·rename_i x i k d;cases h;obtain⟨hc,e⟩:=Qwm _ _ _ d;obtain⟨f,m,_,l⟩:=Qbfl (g:=g) (w:=w) k;exact⟨CR.cons f m hc,fun n=>by simp[V.lt.go,l,e]⟩
  ·cases h
theorem Qlg{t:TypeId}{z:List V}(h:Qua P t=some z):∃i a,P.info? t=some i/\i.zero=some a/\(∀(g:G)(w:World),CR g w z a.cells.toList)/\∀n,V.lt.go n z=true:=by
 unfold Qua at h;split at h
 ·rename_i c a d b;cases hi:P.info? t with
  |none=>simp[hi] at b
  |some i =>
   simp[hi] at b;refine⟨i,a,rfl,b,fun g w=>(Qwm (g:=g) (w:=w) _ _ _ h).1,(Qwm (g:=⟨fun _=>0,fun _ _=>False,fun _=>.free⟩) (w:=default) _ _ _ h).2⟩
 ·cases h
theorem Qq4{t:TypeId}{i:TypeInfo}{z:Value}(b:P.info? t=some i)(a:i.zero=some z)(w:World):(zeroValue t).run P w = .ok z w:=by simp[zeroValue,typeInfo,b,a]
theorem Qu4(b:Nat->Option (Nat×Nat))(z:List V)(m:List Value)(E:CR g w z m)(d:List Nat)(a c:List Nat)(xs:List V)(us:List Value)(F:RFs g w xs us)(t:∀x∈xs,Flat x)(Q:d.length=xs.length)(O:a.length=xs.length)(N:c.length=xs.length)(r:∀(j:Nat)(x:V)(i o s:Nat),xs[j]? = some x->d[j]? = some i->a[j]? = some o->c[j]? = some s->Qev x=true/\x.cells.length=s/\o+s<=z.length/\b i=some (o,s)):
  ∃out:List Value,Instr.fill b m.toArray (d.zip us)=some out.toArray/\CR g w (Qjy z ((a.zip xs).map fun p=>(p.1,p.2.cells))) out:=by
 have M:=Qka F;have l:∀j,j<xs.length->∃x u i o s,xs[j]? = some x/\us[j]? = some u/\d[j]? = some i/\a[j]? = some o/\c[j]? = some s/\Qev x=true/\x.cells.length=s/\o+s<=z.length/\b i=some (o,s)/\CR g w x.cells u.cells.toList:=by
  intro j e;have n:=Zk e;have e2:=Zk (show j<us.length by omega);have e3:=Zk (show j<d.length by omega);have e4:=Zk (show j<a.length by omega);have C:=Zk (show j<c.length by omega);obtain⟨B,H,A,y⟩:=r j _ _ _ _ n e3 e4 C;obtain⟨L,J,I⟩:=Qbbp (t _ (Zq e)) (Qwj F j _ _ n e2) B;exact⟨_,_,_,_,_,n,e2,e3,e4,C,B,H,A,y,⟨L,J,I⟩⟩
 refine⟨Qbfk m ((a.zip (d.zip us)).map fun p=>(p.1,p.2.2.cells.toList)),?_,?_⟩
 ·refine Qbgv b (d.zip us) a m (by simp;omega) fun j i off v e ho=>?_;have k : j<xs.length:=by
   grind
  obtain⟨x,u,R,o,s,n,e2,e3,e4,C,B,H,A,y,hc⟩:=l j k;rw[Zcd] at e;obtain⟨h,f⟩:=e;rw[e3] at h;cases h;rw[e2] at f;cases f;rw[e4] at ho;cases ho;have q:v.cells.size=s:=by have:=hc.len;simp at this;omega
  rw[q,E.len];exact⟨y,A⟩
 ·refine Qbj0 _ _ E (by simp;omega) fun j o o' cs vs e k=>?_
  grind
theorem Qq5{α d:Type}{f:α->Option d}:∀{l:List α}{r:List d},l.mapM f=some r->r.length=l.length/\∀(j:Nat)(a:α)(b:d),l[j]? = some a->r[j]? = some b->f a=some b
 |[],r,h=>by grind
 |a::l,r,h=>by
  simp only[List.mapM_cons,Zbz,Zat,Option.pure_def,Zh] at h;obtain⟨b,hb,n,hr,rfl⟩:=h;obtain⟨i,e⟩:=Qq5 hr;refine⟨by simp[i],fun j m k ha c=>?_⟩;cases j with
  |zero=>simp at ha c;subst ha c;exact hb
  |succ j=>exact e j m k (by simpa using ha) (by simpa using c)
theorem Qyx(t:TypeId)(C:Array Field)(ht:P.underlying t=some (.struct C)){z:List V}(Q:Qua P t=some z)(F:List Nat)(d:List (Nat×Nat))(H:Q5v P C F=some d)(I:∀f∈C.toList,(P.info? f.type).isSome=true){xs:List V}{us:List Value}{v:V}{n0 κ:Nat}{M M' : Mem}(A:∀x∈xs,Flat x)(S:RFs g w xs us)(E:Qj n0 κ (.build z d) xs M=some (v,M')):
  M'=M/\∃val,(Instr.build t (F.zip us).toArray).run P w = .ok val w/\RF g w v val:=by
 obtain⟨i,N,hi,O,L,_⟩:=Qlg P Q;have a:(if d.length=xs.length&&(d.zip xs).all (fun(p,x)=>Qev x&&x.cells.length==p.2&&decide (p.1+p.2<=z.length))
  then some (V.agg (Qjy z ((d.zip xs).map fun(p,x)=>(p.1,x.cells))),M) else none)=some (v,M'):=by
  have E:(if d.length=(own1 xs).length&&(d.zip (own1 xs)).all (fun(p,x)=>Qev x&&x.cells.length==p.2&&decide (p.1+p.2<=z.length))
   then some (V.agg (Qjy z ((d.zip (own1 xs)).map fun(p,x)=>(p.1,x.cells))),M) else none)=some (v,M'):=by cases xs<;>exact E
  rw[Q7e A] at E;exact E
 split at a
 case isFalse=>cases a
 case isTrue h =>
  cases a;simp only[Zc,decide_eq_true_eq,Zs] at h;obtain⟨k,B⟩:=h;obtain⟨U,X⟩:=Qq5 H;let b:List (Nat×Nat):=C.toList.map fun f=>(f.offset,P.cellsOf f.type);have q:C.toList.mapM (fun f=>(P.info? f.type).map fun i=>(f.offset,i.size))=some b:=by
   have:∀l:List Field,(∀f∈l,(P.info? f.type).isSome=true)->l.mapM (fun f=>(P.info? f.type).map fun i=>(f.offset,i.size))=some (l.map fun f=>(f.offset,P.cellsOf f.type)):=by
    intro l hl
    induction l with
    |nil=>simp
    |cons f l ih =>
     cases hfi:P.info? f.type with
     |none=>grind
     |some i=>grind [Qf1]
   exact this _ I
  obtain⟨out,J,m⟩:=Qu4 (g:=g) (w:=w) (b.toArray[·]?) z N.cells.toList (L g w) F (d.map (·.1)) (d.map (·.2)) xs us S A (by omega) (by simp[k]) (by simp[k])
   (fun j x i o s R W y n=>by
    simp only[Zai,Zd] at y n;obtain⟨p,hp,rfl⟩:=y;obtain⟨p',r,rfl⟩:=n;rw[hp] at r;cases r;have:=B (p,x) (Zm (i:=j) (by grind))
    grind)
  refine⟨rfl,.agg out.toArray,?_,fun ℓ=>?_⟩
  ·simp_all[Go.run_build,Go.Program.built]
  ·simp only[RV];have e:(d.zip xs).map (fun(p,x)=>(p.1,x.cells))=((d.map (·.1)).zip xs).map fun p=>(p.1,p.2.cells):=by
    rw[List.zip_map_left,Zap];rfl
   rw[e];exact⟨out,rfl,(Qde _ _ _ _).2 ⟨m.len,fun j c u hc T=>m.rf j c u hc T _⟩,m.one⟩
theorem Q9m(t e:TypeId)(n:Nat)(T:P.underlying t=some (.array n e))(r:(P.info? e).isSome=true){z:List V}(J:Qua P t=some z)(f:List Nat){xs:List V}{us:List Value}{v:V}{n0 κ:Nat}{M M' : Mem}(y:∀x∈xs,Flat x)(N:RFs g w xs us)(l:Qj n0 κ (.build z (f.map fun i=>(i*P.cellsOf e,P.cellsOf e))) xs M=some (v,M')):
  M'=M/\∃val,(Instr.build t (f.zip us).toArray).run P w = .ok val w/\RF g w v val:=by
 obtain⟨i,H,U,I,E,_⟩:=Qlg P J;generalize Q:(f.map fun i=>(i*P.cellsOf e,P.cellsOf e))=pl at l;have a:(if pl.length=xs.length&&(pl.zip xs).all (fun(p,x)=>Qev x&&x.cells.length==p.2&&decide (p.1+p.2<=z.length))
  then some (V.agg (Qjy z ((pl.zip xs).map fun(p,x)=>(p.1,x.cells))),M) else none)=some (v,M'):=by
  have l:(if pl.length=(own1 xs).length&&(pl.zip (own1 xs)).all (fun(p,x)=>Qev x&&x.cells.length==p.2&&decide (p.1+p.2<=z.length))
   then some (V.agg (Qjy z ((pl.zip (own1 xs)).map fun(p,x)=>(p.1,x.cells))),M) else none)=some (v,M'):=by cases xs<;>exact l
  rw[Q7e y] at l;exact l
 split at a
 case isFalse=>cases a
 case isTrue h =>
  cases a;simp only[Zc,decide_eq_true_eq,Zs] at h;obtain⟨b,A⟩:=h;obtain⟨F,r⟩:=Zab.1 r;have B:f.length=xs.length:=by grind
  obtain⟨out,C,d⟩:=Qu4 (g:=g) (w:=w) (fun i=>some (i*F.size,F.size)) z H.cells.toList (E g w) f (pl.map (·.1)) (pl.map (·.2)) xs us N y B (by simp[b]) (by simp[b])
   (fun j x i o s L R q k=>by
    simp only[Zai,Zd] at q k;obtain⟨p,hp,rfl⟩:=q;obtain⟨S,m,rfl⟩:=k;rw[hp] at m;cases m;have:=A (p,x) (Zm (i:=j) (by grind));simp only[Zc,beq_iff_eq,decide_eq_true_eq] at this
    grind [Option.some.injEq,Qf1])
  refine⟨rfl,.agg out.toArray,?_,fun ℓ=>?_⟩
  ·simp_all[Go.run_build,Go.Program.built]
  ·simp only[RV];have e:(pl.zip xs).map (fun(p,x)=>(p.1,x.cells))=((pl.map (·.1)).zip xs).map fun p=>(p.1,p.2.cells):=by
    rw[List.zip_map_left,Zap];rfl
   rw[e];exact⟨out,rfl,(Qde _ _ _ _).2 ⟨d.len,fun j c u hc O=>d.rf j c u hc O _⟩,d.one⟩
end
end Go.Abs
end
section
namespace Go.Abs
open Go
theorem Qbc1{n0 κ:Nat}{xs:List V}{M M' : Mem}{v:V}(a:Qj n0 κ .mkmap xs M=some (v,M')):
  (xs=[]\/∃k n,xs=[.d (.int k n)])/\M κ=none/\v = .mp κ/\M'=M.put κ (.mp [] 0):=by
 match xs,a with
 |[],a =>
  simp only[Qj] at a
  simp_all
 |[x],a =>
  cases x with
  |d x =>
   cases x with
   |int k n =>
    simp only[Qj] at a
    simp_all
   |_=>simp[Qj] at a
  |_=>simp[Qj] at a
 |_::_::_,a=>simp[Qj] at a
theorem Qwn{M:Mem}{k:Nat}{R:Type}{f:List (V×V×Nat)->Nat->Option R}{r:R}(h:(match M k with|some (.mp es c)=>f es c|_=>none)=some r):∃es c,M k=some (.mp es c)/\f es c=some r:=by
 grind
theorem Qbbq{n0 κ:Nat}{xs:List V}{M M' : Mem}{v:V}(a:Qj n0 κ .lenm xs M=some (v,M')):
  M'=M/\((∃k es c,xs=[.mp k]/\M k=some (.mp es c)/\v = .d (.int .i64 es.length))\/∃es c,xs=[.d (.mp es c)]/\v = .d (.int .i64 es.length)):=by
 match xs,a with
 |[],a=>simp[Qj] at a
 |[x],a =>
  cases x with
  |mp k =>
   obtain⟨es,c,e,b⟩:=Qwn (f:=fun es c=>some ((.d (.int .i64 es.length):V),M)) a
   grind
  |d x =>
   cases x with
   |mp es c=>simp only[Qj] at a;grind
   |_=>simp[Qj] at a
  |_=>simp[Qj] at a
 |_::_::_,a=>simp[Qj] at a
def Qbne(kd:MK)(c:Bool)(z key v:V)(es:List (V×V×Nat)):Prop :=
 kd.ok key=true/\kd.all es=true/\((∃i u,Qh9 key es=some (i,u)/\u.mv=true/\v=if c then .tup [u.dem,.d (.bool true)] else u.dem)\/(Qh9 key es=none/\z.dat=true/\v=if c then .tup [z,.d (.bool false)] else z))
theorem Q4y{n0 κ:Nat}{kd:MK}{c:Bool}{z:V}{xs:List V}{M M' : Mem}{v:V}(b:Qj n0 κ (.lookup kd c z) xs M=some (v,M')):
  M'=M/\((∃k key es cl,xs=[.mp k,key]/\M k=some (.mp es cl)/\Qbne kd c z key v es) \/
   (∃key a cl,xs=[.d (.mp a cl),key]/\((a.map entV).all fun e=>e.2.1.dat)=true/\Qbne kd c z key v (a.map entV))):=by
 match xs,b with
 |[],b=>simp[Qj] at b
 |[x],b =>
  grind [Qj]
 |[x,key],b =>
  cases x with
  |mp k =>
   obtain⟨es,cl,l,j⟩:=Qwn (f:=fun es cl=>if kd.ok key&&kd.all es then
    (match Qh9 key es with
     |some (_,v)=>if v.mv then some (if c then .tup [v.dem,.d (.bool true)] else v.dem,M) else none
     | none=>if z.dat then some (if c then .tup [z,.d (.bool false)] else z,M) else none) else none) b
   split at j<;>try (cases j;done)
   rename_i h;rw[Zc] at h;cases hf:Qh9 key es with
   |none =>
    rw[hf] at j;dsimp only at j;by_cases g:z.dat=true
    ·rw[if_pos g] at j;cases j;exact⟨rfl,.inl ⟨k,key,es,cl,rfl,l,h.1,h.2,.inr ⟨hf,g,rfl⟩⟩⟩
    grind
   |some p =>
    rw[hf] at j;obtain⟨i,u⟩:=p;dsimp only at j;by_cases g:u.mv=true
    ·rw[if_pos g] at j;cases j;exact⟨rfl,.inl ⟨k,key,es,cl,rfl,l,h.1,h.2,.inl ⟨i,u,hf,g,rfl⟩⟩⟩
    grind
  |d x =>
   cases x with
   |mp a cl =>
    simp only[Qj] at b;split at b<;>try (cases b;done)
    rename_i h;rw[Zc] at h;cases hf:Qh9 key (a.map entV) with
    |none =>
     rw[hf] at b;dsimp only at b;by_cases g:(z.dat&&(a.map entV).all fun e=>e.2.1.dat)=true
     ·rw[if_pos g] at b;cases b;rw[Zc] at g;exact⟨rfl,.inr ⟨key,a,cl,rfl,g.2,h.1,h.2,.inr ⟨hf,g.1,rfl⟩⟩⟩
     grind
    |some p =>
     rw[hf] at b;obtain⟨i,u⟩:=p;dsimp only at b;by_cases g:(u.dat&&(a.map entV).all fun e=>e.2.1.dat)=true
     ·rw[if_pos g] at b;cases b;rw[Zc] at g;exact⟨rfl,.inr ⟨key,a,cl,rfl,g.2,h.1,h.2,.inl ⟨i,u,hf,Q1r g.1,by rw[Qyv g.1]⟩⟩⟩
     grind
   |_=>simp[Qj] at b
  |_=>simp[Qj] at b
 |x::_::_::_,b =>
  grind [Qj]
theorem Q91{n0 κ:Nat}{kd:MK}{xs:List V}{M M' : Mem}{v:V}(a:Qj n0 κ (.mapset kd) xs M=some (v,M')):
  ∃k key u es cl,xs=[.mp k,key,u]/\M k=some (.mp es cl)/\kd.ok key=true/\kd.all es=true/\u.dat=true/\v = .und /\
   M'=M.put k (match Qh9 key es with|some (i,_)=>.mp (modM key (Qyr u) i es) cl|none=>.mp (es++[(key,Qyr u,cl)]) (cl+1)):=by
 match xs,a with
 |[],a=>simp[Qj] at a
 |[x],a=>cases x<;>simp[Qj] at a
 |[x,_],a=>cases x<;>simp[Qj] at a
 |[x,key,u],a =>
  cases x with
  |mp k =>
   obtain⟨es,cl,c,b⟩:=Qwn (f:=fun es cl=>if kd.ok key&&kd.all es&&u.dat then
    some ((.und:V),M.put k (match Qh9 key es with
     |some (i,_)=>.mp (modM key (Qyr u) i es) cl
     | none=>.mp (es++[(key,Qyr u,cl)]) (cl+1))) else none) a
   grind
  |_=>simp[Qj] at a
 |x::_::_::_::_,a=>cases x<;>simp[Qj] at a
theorem Q15{n0 κ:Nat}{kd:MK}{z:V}{xs:List V}{M M' : Mem}{v:V}(a:Qj n0 κ (.lookupT kd z) xs M=some (v,M')):
  ∃k key es cl,xs=[.mp k,key]/\M k=some (.mp es cl)/\kd.ok key=true/\kd.all es=true/\upM 0 es=true /\
   ((∃i sz l e,Qh9 key es=some (i,.own sz l)/\es[i]? = some e/\v = .own sz l/\M'=M.put k (.mp (modM e.1 (.d (.lst sz l)) i es) cl))\/(Qh9 key es=none/\z.dat=true/\v=z/\M'=M)):=by
 match xs,a with
 |[],a=>simp[Qj] at a
 |[x],a=>cases x<;>simp[Qj] at a
 |[x,key],a =>
  cases x with
  |mp k =>
   obtain⟨es,cl,c,b⟩:=Qwn (f:=fun es cl=>if kd.ok key&&kd.all es&&upM 0 es then
    (match Qh9 key es with
     |some (i,.own sz l)=>(es[i]?).map fun e=>((.own sz l:V),M.put k (.mp (modM e.1 (.d (.lst sz l)) i es) cl))
     |some _=>none
     | none=>if z.dat then some (z,M) else none) else none) a
   grind
  |_=>simp[Qj] at a
 |x::_::_::_,a=>cases x<;>simp[Qj] at a
theorem Q16{n0 κ:Nat}{kd:MK}{xs:List V}{M M' : Mem}{v:V}(a:Qj n0 κ (.mapsetT kd) xs M=some (v,M')):
  ∃k key sz l es cl,xs=[.mp k,key,.own sz l]/\M k=some (.mp es cl)/\kd.ok key=true/\kd.all es=true/\v = .und /\
   M'=M.put k (match Qh9 key es with|some (i,_)=>.mp (modM key (.own sz l) i es) cl|none=>.mp (es++[(key,.own sz l,cl)]) (cl+1)):=by
 match xs,a with
 |[],a=>simp[Qj] at a
 |[x],a=>cases x<;>simp[Qj] at a
 |[x,_],a=>cases x<;>simp[Qj] at a
 |[x,key,u],a =>
  cases x with
  |mp k =>
   cases u with
   |own sz l =>
    obtain⟨es,cl,c,b⟩:=Qwn (f:=fun es cl=>if kd.ok key&&kd.all es then
     some ((.und:V),M.put k (match Qh9 key es with
      |some (i,_)=>.mp (modM key (.own sz l) i es) cl
      | none=>.mp (es++[(key,.own sz l,cl)]) (cl+1))) else none) a
    grind
   |_=>simp[Qj] at a
  |_=>simp[Qj] at a
 |x::_::_::_::_,a=>cases x<;>simp[Qj] at a
theorem Q52{n0 κ:Nat}{kd:MK}{z:V}{xs:List V}{M M' : Mem}{v:V}(a:Qj n0 κ (.mapentry kd z) xs M=some (v,M')):
  ∃k key es cl,xs=[.mp k,key]/\M k=some (.mp es cl)/\kd.ok key=true/\kd.all es=true/\z.dat=true /\
   ((∃i u e,Qh9 key es=some (i,u)/\u.dat=true/\es[i]? = some e/\v = .tup [u,.d (.int .i64 e.2.2)]/\M'=M.put k (.mp (modM key u i es) cl))\/(Qh9 key es=none/\v = .tup [z,.d (.int .i64 cl)]/\M'=M.put k (.mp (es++[(key,z,cl)]) (cl+1)))):=by
 match xs,a with
 |[],a=>simp[Qj] at a
 |[x],a=>cases x<;>simp[Qj] at a
 |[x,key],a =>
  cases x with
  |mp k =>
   obtain⟨es,cl,g,c⟩:=Qwn (f:=fun es cl=>if kd.ok key&&kd.all es&&z.dat then
    (match Qh9 key es with
     |some (i,v)=>if v.dat then (es[i]?).map fun e=>((V.tup [v,.d (.int .i64 e.2.2)]),M.put k (.mp (modM key v i es) cl)) else none
     | none=>some ((V.tup [z,.d (.int .i64 cl)]),M.put k (.mp (es++[(key,z,cl)]) (cl+1)))) else none) a
   split at c<;>try (cases c;done)
   rename_i b;rw[Zc,Zc] at b;refine⟨k,key,es,cl,rfl,g,b.1.1,b.1.2,b.2,?_⟩
   grind
  |_=>simp[Qj] at a
 |x::_::_::_,a=>cases x<;>simp[Qj] at a
theorem Q1t{n0 κ:Nat}{xs:List V}{M M' : Mem}{v:V}(a:Qj n0 κ .entrystore xs M=some (v,M')):
  ∃k b u es cl i e,xs=[.mp k,.d (.int .i64 b),u]/\M k=some (.mp es cl)/\u.dat=true/\Qbbj b es=some i/\es[i]? = some e/\v = .und/\M'=M.put k (.mp (modM e.1 (Qyr u) i es) cl):=by
 match xs,a with
 |[],a=>simp[Qj] at a
 |[x],a=>cases x<;>simp[Qj] at a
 |[x,_],a=>cases x<;>simp[Qj] at a
 |[x,y,u],a =>
  cases x with
  |mp k =>
   cases y with
   |d y =>
    cases y with
    |int q b =>
     cases q with
     |i64 =>
      obtain⟨es,cl,g,c⟩:=Qwn (f:=fun es cl=>if u.dat then
       (match Qbbj b es with
        |some i=>(es[i]?).map fun e=>((.und:V),M.put k (.mp (modM e.1 (Qyr u) i es) cl))
        | none=>none) else none) a
      grind
     |_=>simp[Qj] at a
    |_=>simp[Qj] at a
   |_=>simp[Qj] at a
  |_=>simp[Qj] at a
 |x::y::_::_::_,a=>cases x<;>simp[Qj] at a
end Go.Abs
end
section
namespace Go.Abs
open Go
def There(M:Mem)(k:Nat):Prop:=(M k).isSome=true
theorem There.put{M:Mem}{κ:Nat}{b:Bx}{k:Nat}(h:There M k):There (M.put κ b) k:=by
 grind [There,Mem.put]
theorem There.self{M:Mem}{κ:Nat}{b:Bx}:There (M.put κ b) κ:=by simp[There,Mem.put]
def MOn(p:Nat->Prop)(M:Mem):Prop:=∀k cs,M k=some (.cells cs)->V.ons p cs
theorem Qf2{p:Nat->Prop}{a b:List V}:V.ons p (a++b)↔V.ons p a/\V.ons p b:=by
 grind [Qjn]
theorem Qpd{p:Nat->Prop}{a:List V}(n:Nat)(h:V.ons p a):V.ons p (a.take n):=by
 grind [Qjn,List.mem_of_mem_take]
theorem Qpe{p:Nat->Prop}{a:List V}(n:Nat)(h:V.ons p a):V.ons p (a.drop n):=by
 grind [Qjn,List.mem_of_mem_drop]
theorem Q4z{p:Nat->Prop}{a:List V}(n:Nat){x:V}(h:V.ons p a)(b:x.on p):V.ons p (a.set n x):=by
 rw[Qjn] at *
 grind
theorem Qgd{p:Nat->Prop}{a:List V}{n:Nat}{x:V}(h:V.ons p a)(b:a[n]? = some x):x.on p:=by
 rw[Qjn] at h;grind
theorem Qpm{p:Nat->Prop}{x:V}(h:x.on p):V.ons p x.cells:=by
 cases x<;>simp_all[V.cells,V.ons,V.on]
theorem Q3b{p:Nat->Prop}:∀(a:List (Nat×List V))(cells:List V),V.ons p cells->(∀q∈a,V.ons p q.2)->V.ons p (Qjy cells a)
 |[],_,h,_=>h
 |(o,vs)::rest,cells,h,hp=>by
  simp only[Qjy];exact Q3b rest _ (Qf2.2 ⟨Qf2.2 ⟨Qpd _ h,hp (o,vs) (by simp)⟩,Qpe _ h⟩) (fun q b=>hp q (by simp[b]))
theorem Q7k{p:Nat->Prop}{z:List V}(h:V.ons p z):∀n,V.ons p (rep n z)
 |0=>by simp[rep,V.ons]
 |n+1=>by
  simp only[rep,Zby,Zbb];exact Qf2.2 ⟨h,Q7k h n⟩
theorem Qbnf{p:Nat->Prop}(cs:List D):V.ons p (cs.map V.d):=by
 rw[Qjn];simp[V.on]
def K.okz:K->Prop
 |.alloc z=>∀p,V.ons p z
 |.build z _=>∀p,V.ons p z
 |.bslice _ _ z _=>∀p,V.ons p z
 |.makes _ _ z=>∀p,V.ons p z
 |_=>True
theorem Q17{α c:Type}{a:List α}{b:List c}{q:α×c}(h:q∈a.zip b):q.2∈b:=(List.of_mem_zip h).2
theorem Qbbr{n0 κ:Nat}{k:K}{xs:List V}{M M' : Mem}{v:V}(L:k.okz)(g:Qj n0 κ k xs M=some (v,M'))(j:V.ons (There M) xs)(B:MOn (There M) M):
  v.on (There M')/\MOn (There M') M'/\∀k,There M k->There M' k:=by
 have keep:∀{v' : V},some (v',M)=some (v,M')->v'.on (There M)->v.on (There M')/\MOn (There M') M'/\∀k,There M k->There M' k:=by
  grind
 have w:∀{κ:Nat}{cs:List V}{v' : V},some (v',M.put κ (.cells cs))=some (v,M')->V.ons (There M) cs->v'.on (There (M.put κ (.cells cs)))->v.on (There M')/\MOn (There M') M'/\∀k,There M k->There M' k:=by
  intro κ cs v' e h R;cases e;refine⟨R,fun k cs' r=>?_,fun k r=>r.put⟩;simp only[Mem.put] at r;split at r
  ·cases r;exact ons_mono (fun _ h=>h.put) _ h
  ·exact ons_mono (fun _ h=>h.put) _ (B k cs' r)
 have t:∀{κ:Nat}{es:List (V×V×Nat)}{c:Nat}{v' : V},v'.on (There (M.put κ (.mp es c)))->v'.on (There (M.put κ (.mp es c)))/\MOn (There (M.put κ (.mp es c))) (M.put κ (.mp es c))/\∀k,There M k->There (M.put κ (.mp es c)) k:=by
  intro κ es c v' R;refine⟨R,fun k cs' r=>?_,fun k r=>r.put⟩;simp only[Mem.put] at r;split at r
  ·cases r
  ·exact ons_mono (fun _ h=>h.put) _ (B k cs' r)
 cases k
 case mov=>match xs,g,j with|[x],g,j=>exact keep g j.1
 case pick =>
  match xs,g,j with
  |[.d (.bool b),x,y],g,j =>
   simp only[Qj] at g;exact keep g (by cases b;exact j.2.2.1;exact j.2.1)
 case box n =>
  match xs,g,j with
  |[x],g,j =>
   simp only[Qj] at g;split at g<;>try (cases g;done)
   split at g<;>try (cases g;done)
   exact w g (Qpm j.1) There.self
 case alloc z =>
  match xs,g with
  |[],g =>
   simp only[Qj] at g;split at g<;>try (cases g;done)
   exact w g (L _) There.self
 case build z ps =>
  have m : (if ps.length=(own1 xs).length&&(ps.zip (own1 xs)).all (fun(p,x)=>Qev x&&x.cells.length==p.2&&decide (p.1+p.2<=z.length))
   then some (V.agg (Qjy z ((ps.zip (own1 xs)).map fun(p,x)=>(p.1,x.cells))),M) else none)=some (v,M'):=by cases xs<;>exact g
  have j:=(Qbbn xs).2 j;split at m<;>try (cases m;done)
  refine keep m ?_;simp only[V.on];refine Q3b _ _ (L _) fun q H=>?_;simp only[Zl] at H;obtain⟨⟨p,x⟩,Q,rfl⟩:=H;exact Qpm (Qjn.1 j x (Q17 Q))
 case blit sz n z ps =>
  have m : (if ps.length=xs.length&&decide (0<sz)&&z.length==sz&&(ps.zip xs).all (fun(i,x)=>Qev x&&x.cells.length==sz&&decide (i<n))
   then (toDs (Qjy (rep n z) ((ps.zip xs).map fun(i,x)=>(i*sz,x.cells)))).map fun ds=>(V.d (.lst sz (Qjx sz n ds)),M) else none)=some (v,M'):=by cases xs<;>exact g
  split at m<;>try (cases m;done)
  simp only[Zd,Zf] at m;obtain⟨ds,_,rfl,rfl⟩:=m;exact keep rfl trivial
 case bslice sz n z ps =>
  have m : (if ps.length=xs.length&&decide (0<sz)&&z.length==sz&&(ps.zip xs).all (fun(i,x)=>Qev x&&x.cells.length==sz&&decide (i<n))&&(M κ).isNone
   then some (V.sl sz κ 0 n n,M.put κ (.cells (Qjy (rep n z) ((ps.zip xs).map fun(i,x)=>(i*sz,x.cells))))) else none)=some (v,M'):=by cases xs<;>exact g
  split at m<;>try (cases m;done)
  refine w m (Q3b _ _ (Q7k (L _) n) fun q H=>?_) There.self;simp only[Zl] at H;obtain⟨⟨p,x⟩,Q,rfl⟩:=H;exact Qpm (Qjn.1 j x (Q17 Q))
 case load agg n =>
  match xs,g,j with
  |[.ptr k off],g,j =>
   simp only[Qj] at g;split at g<;>try (cases g;done)
   rename_i cs r;split at g<;>try (cases g;done)
   split at g
   ·exact keep g (by simp only[V.on];exact (ons_dems _).2 (Qpd _ (Qpe _ (B k cs r))))
   ·simp only[Zd,Zf] at g;obtain⟨c,hc,rfl,rfl⟩:=g;exact keep rfl ((Qeg c).2 (Qgd (B k cs r) hc))
  |[.cref cs],g,j =>
   simp only[Qj] at g;split at g<;>try (cases g;done)
   split at g
   ·grind [V.on,Qbnf]
   ·simp only[Zd,Zf] at g;obtain⟨c,hc,rfl,rfl⟩:=g;exact keep rfl trivial
 case loadT =>
  match xs,g,j with
  |[.ptr k off],g,j =>
   simp only[Qj] at g;split at g<;>try (cases g;done)
   rename_i cs r;simp only[Zd] at g;obtain⟨c,hc,g⟩:=g;have I:=Qgd (B k cs r) hc;exact w (congrArg some g) (Q4z _ (B k cs r) ((Qeg c).2 I)) (Qgo (fun _ h=>h.put) _ ((Q9z c).2 I))
 case store n =>
  match xs,g,j with
  |[.ptr k off,x],g,j =>
   simp only[Qj] at g;split at g<;>try (cases g;done)
   split at g<;>try (cases g;done)
   rename_i cs r;split at g<;>try (cases g;done)
   exact w g (Qf2.2 ⟨Qf2.2 ⟨Qpd _ (B k cs r),Qpm ((Qbfi x).2 j.2.1)⟩,Qpe _ (B k cs r)⟩) trivial
 case nilchk =>
  match xs,g,j with
  |[x],g,j =>
   simp only[Qj] at g;split at g<;>try (cases g;done)
   all_goals exact keep g j.1
 case bin op tb =>
  match xs,g,j with
  |[.d x,.d y],g,j =>
   simp only[Qj,Zd,Zf] at g;obtain⟨c,hc,rfl,rfl⟩:=g;exact keep rfl trivial
 case eqa neg ks =>
  match xs,g,j with
  |[.agg x,.agg y],g,j =>
   simp only[Qj,Zd,Zf] at g;obtain⟨c,hc,rfl,rfl⟩:=g;exact keep rfl trivial
 case un op =>
  match xs,g,j with
  |[.d x],g,j =>
   simp only[Qj,Zd,Zf] at g;obtain⟨c,hc,rfl,rfl⟩:=g;exact keep rfl trivial
 case conv k =>
  match xs,g,j with
  |[.d (.int k' n)],g,j=>exact keep g trivial
 case bstr =>
  match xs,g,j with
  |[.d (.lst sz l)],g,j =>
   simp only[Qj,Zd,Zf] at g;obtain⟨c,hc,rfl,rfl⟩:=g;exact keep rfl trivial
 case func f =>
  have m : some (V.clo f xs,M)=some (v,M'):=by cases xs<;>exact g
  grind [V.on]
 case makes sz bytes z =>
  match xs,g,j with
  |[.d (.int .i64 l),.d (.int .i64 c)],g,j =>
   simp only[Qj] at g;split at g<;>try (cases g;done)
   exact w g (Q7k (L _) _) There.self
 case slice sz lo hi =>
  match xs,g,j with
  |x::bs,g,j =>
   rw[Q14] at g;split at g<;>try (cases g;done)
   split at g<;>try (cases g;done)
   all_goals
    try simp only at g
    split at g<;>try (cases g;done)
   ·exact keep g trivial
   ·exact keep g trivial
   ·refine keep g ?_;split
    ·exact j.1
    ·exact j.1
   ·exact keep g trivial
 case slcT sz =>
  match xs,g,j with
  |[x,.d (.int _ a)],g,j =>
   simp only[Qj] at g;split at g<;>try (cases g;done)
   all_goals
    split at g<;>try (cases g;done)
    exact keep g trivial
 case fld off =>
  match xs,g,j with
  |[.ptr k o],g,j=>exact keep g (v':=.ptr k (o+off)) j.1
  |[.cref cs],g,j=>exact keep g trivial
 case field agg off n =>
  match xs,g,j with
  |[.agg cs],g,j =>
   simp only[Qj] at g;split at g<;>try (cases g;done)
   split at g
   ·exact keep g (by simp only[V.on];exact Qpd _ (Qpe _ j.1))
   ·simp only[Zd,Zf] at g;obtain⟨c,hc,rfl,rfl⟩:=g;exact keep rfl (Qgd j.1 hc)
 case idx sz =>
  match xs,g,j with
  |[x,.d (.int _ i)],g,j =>
   simp only[Qj] at g;split at g<;>try (cases g;done)
   all_goals split at g<;>try (cases g;done)
   ·simp only[Zd,Zf] at g;obtain⟨c,hc,rfl,rfl⟩:=g;exact keep rfl trivial
   ·simp only[Zd,Zf] at g;obtain⟨c,hc,rfl,rfl⟩:=g;exact keep rfl trivial
   ·exact keep (v':=.ptr _ _) g j.1
 case idxarr sz len =>
  match xs,g,j with
  |[x,.d (.int _ i)],g,j =>
   simp only[Qj] at g;split at g<;>try (cases g;done)
   split at g<;>try (cases g;done)
   ·exact keep (v':=.ptr _ _) g j.1
   ·exact keep g trivial
 case idxval agg sz len =>
  match xs,g,j with
  |[.agg cs,.d (.int _ i)],g,j =>
   simp only[Qj] at g;split at g<;>try (cases g;done)
   split at g
   ·exact keep g (by simp only[V.on];exact Qpd _ (Qpe _ j.1))
   ·simp only[Zd,Zf] at g;obtain⟨c,hc,rfl,rfl⟩:=g;exact keep rfl (Qgd j.1 hc)
 case extract i =>
  match xs,g,j with
  |[.tup vs],g,j =>
   simp only[Qj,Zd,Zf] at g;obtain⟨c,hc,rfl,rfl⟩:=g;exact keep rfl ((Q9z c).2 (Qgd j.1 hc))
 case len =>
  match xs,g,j with
  |[x],g,j =>
   simp only[Qj] at g;split at g<;>try (cases g;done)
   ·exact keep g trivial
   ·exact keep g trivial
   ·exact keep g trivial
   ·exact keep g trivial
 case lens =>
  match xs,g,j with
  |[.d (.str s)],g,j=>exact keep g trivial
 case idxs =>
  match xs,g,j with
  |[.d (.str s),.d (.int _ i)],g,j =>
   simp only[Qj] at g;split at g<;>try (cases g;done)
   exact keep g trivial
 case append sz bytes =>
  match xs,g,j with
  |[.nils A,x],g,j =>
   simp only[Qj] at g;split at g<;>try (cases g;done)
   split at g<;>try (cases g;done)
   exact keep g trivial
  |[.own A l,x],g,j =>
   simp only[Qj] at g;split at g<;>try (cases g;done)
   split at g<;>try (cases g;done)
   exact keep g trivial
  |[.ownT A l,x],g,j =>
   simp only[Qj] at g;split at g<;>try (cases g;done)
   split at g<;>try (cases g;done)
   exact keep g trivial
  |[.sl A k off len cap,x],g,j =>
   simp only[Qj] at g;split at g<;>try (cases g;done)
   split at g
   ·split at g
    ·exact keep g trivial
    ·split at g<;>try (cases g;done)
     exact keep g j.1
   ·split at g<;>try (cases g;done)
    exact keep g trivial
 case appw sz bytes =>
  match xs,g,j with
  |[.nils A,x],g,j =>
   simp only[Qj] at g;split at g<;>try (cases g;done)
   split at g<;>try (cases g;done)
   exact keep g trivial
  |[.sl A k off len cap,x],g,j =>
   simp only[Qj] at g;split at g<;>try (cases g;done)
   rename_i l ys cs U T r;split at g
   ·split at g
    ·exact keep g trivial
    ·split at g<;>try (cases g;done)
     exact keep g j.1
   ·split at g
    ·split at g<;>try (cases g;done)
     exact w g (Qf2.2 ⟨Qf2.2 ⟨Qpd _ (B k cs r),Qbnf _⟩,Qpe _ (B k cs r)⟩) There.self
    ·split at g<;>try (cases g;done)
     exact keep g trivial
 case max2 =>
  match xs,g,j with
  |[.d (.int k a),.d (.int k' b)],g,j =>
   simp only[Qj] at g;split at g<;>try (cases g;done)
   exact keep g trivial
 case min2 =>
  match xs,g,j with
  |[.d (.int k a),.d (.int k' b)],g,j =>
   simp only[Qj] at g;split at g<;>try (cases g;done)
   exact keep g trivial
 case call f=>cases xs<;>simp[Qj] at g
 case callv=>cases xs<;>simp[Qj] at g
 case callO=>cases xs<;>simp[Qj] at g
 case isnil b=>cases xs<;>simp[Qj] at g
 case lenm =>
  obtain⟨rfl,⟨k,es,c,rfl,F,rfl⟩|⟨es,c,rfl,rfl⟩⟩:=Qbbq g<;>exact keep rfl trivial
 case mkmap =>
  obtain⟨_,F,rfl,rfl⟩:=Qbc1 g;exact t There.self
 case lookup kd c z =>
  obtain⟨es,rfl,E⟩ : ∃es,M'=M/\Qbne kd c z (xs.getD 1 .und) v es:=by
   obtain⟨rfl,⟨b,key,es,cl,rfl,_,h⟩|⟨key,S,cl,rfl,_,h⟩⟩:=Q4y g
   all_goals grind
  rcases E.2.2 with⟨i,u,J,C,rfl⟩|⟨J,C,rfl⟩
  ·refine keep rfl ?_;cases c
   ·exact Qyu (Qbjs C)
   ·exact⟨Qyu (Qbjs C),trivial,trivial⟩
  ·refine keep rfl ?_;cases c
   ·exact Qyu C
   ·exact⟨Qyu C,trivial,trivial⟩
 case lookupT kd z =>
  obtain⟨k,key,es,cl,rfl,F,P,O,E,J⟩:=Q15 g;rcases J with⟨i,sz,l,e,C,N,rfl,rfl⟩|⟨C,N,rfl,rfl⟩
  ·exact t trivial
  ·exact keep rfl (Qyu N)
 case mapsetT kd =>
  obtain⟨k,key,sz,l,es,cl,rfl,F,P,O,rfl,rfl⟩:=Q16 g;split<;>exact t trivial
 case mapset kd =>
  obtain⟨k,key,u,es,cl,rfl,F,P,O,E,rfl,rfl⟩:=Q91 g;split<;>exact t trivial
 case mapentry kd z =>
  obtain⟨k,key,es,cl,rfl,F,P,O,E,J⟩:=Q52 g;rcases J with⟨i,u,e,C,N,W,rfl,rfl⟩|⟨C,rfl,rfl⟩
  ·exact t ⟨Qyu N,trivial,trivial⟩
  ·exact t ⟨Qyu E,trivial,trivial⟩
 case entrystore =>
  obtain⟨k,b,u,es,cl,i,e,rfl,F,P,O,E,rfl,rfl⟩:=Q1t g;exact t trivial
end Go.Abs
end
