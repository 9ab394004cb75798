/-
  Part 1 of the proof: see the last text.
-/
import Derived.Orders
import Derived.WalkKit
import Derived.Laws.StructEq
import Derived.WalkLawsBesides
import Derived.Laws.BytesString
import Derived.Laws.Cells
import Derived.ChangeKeysEq
set_option linter.unusedVariables false
set_option linter.unusedSimpArgs false
set_option linter.unusedSectionVars false
section
abbrev Za:=@Option.bind_some
abbrev Zb:=@List.map_cons
abbrev Zc:=@Bool.and_eq_true
abbrev Zd:=@Option.map_eq_some_iff
abbrev Ze:=@Nat.le_refl
abbrev Zf:=@Prod.mk.injEq
abbrev Zg:=@Bool.false_eq_true
abbrev Zh:=@Option.some.injEq
abbrev Zi:=@List.map_nil
abbrev Zj:=@List.getElem?_eq_getElem
abbrev Zk:=@Iff.rfl
abbrev Zl:=@List.mem_map
abbrev Zm:=@List.getElem?_eq_some_iff
abbrev Zn:=@List.mem_of_getElem?
abbrev Zo:=@List.cons.injEq
abbrev Zp:=@List.mem_append
abbrev Zq:=@List.mem_filter
abbrev Zr:=@List.getElem_mem
abbrev Zs:=@List.length_cons
abbrev Zt:=@List.all_eq_true
abbrev Zu:=@List.length_map
abbrev Zv:=@Nat.add_mul
abbrev Zw:=@Nat.zero_le
abbrev Zx:=@List.length_append
abbrev Zy:=@Nat.le_of_ble_eq_true
abbrev Zz:=@Nat.zero_add
abbrev Zaa:=@Nat.eq_of_beq_eq_true
abbrev Zab:=@Option.isSome_iff_exists
abbrev Zac:=@Nat.le_trans
abbrev Zad:=@Option.map_some
abbrev Zae:=@List.any_cons
abbrev Zaf:=@Array.getElem?_eq_some_iff
abbrev Zag:=@List.getElem?_map
abbrev Zah:=@List.mem_cons
abbrev Zai:=@List.drop_eq_getElem_cons
abbrev Zaj:=@List.length_nil
abbrev Zak:=@Nat.lt_or_ge
abbrev Zal:=@List.mem_singleton
abbrev Zam:=@List.pairwise_cons
abbrev Zan:=@List.eq_nil_of_length_eq_zero
abbrev Zao:=@List.getElem_of_mem
abbrev Zap:=@List.map_map
abbrev Zaq:=@List.cons_append
abbrev Zar:=@List.append_nil
abbrev Zas:=@Option.bind_eq_some_iff
abbrev Zat:=@Bool.or_eq_true
abbrev Zau:=@List.getElem?_append_right
abbrev Zav:=@Bool.and_self
abbrev Zaw:=@Int.toNat_natCast
abbrev Zax:=@List.length_filter_le
abbrev Zay:=@List.getElem?_append_left
abbrev Zaz:=@List.flatten_cons
abbrev Zba:=@Option.isNone_iff_eq_none
abbrev Zbb:=@List.pairwise_append
abbrev Zbc:=@List.all_cons
abbrev Zbd:=@List.foldl_cons
abbrev Zbe:=@Bool.true_and
abbrev Zbf:=@List.take_length
abbrev Zbg:=@Int.le_refl
abbrev Zbh:=@List.nil_append
abbrev Zbi:=@Nat.mul_le_mul_right
abbrev Zbj:=@List.take_succ_eq_append_getElem
abbrev Zbk:=@Nat.lt_of_lt_of_le
abbrev Zbl:=@List.length_take
abbrev Zbm:=@List.append_assoc
abbrev Zbn:=@List.map_append
abbrev Zbo:=@Bool.or_eq_false_iff
abbrev Zbp:=@List.prefix_refl
abbrev Zbq:=@Option.some.inj
abbrev Zbr:=@List.pairwise_iff_getElem
abbrev Zbs:=@List.getElem?_drop
abbrev Zbt:=@List.getD_eq_getElem?_getD
abbrev Zbu:=@List.replicate_succ
abbrev Zbv:=@Option.bind_eq_bind
abbrev Zbw:=@List.filter_eq_nil_iff
abbrev Zbx:=@List.mem_of_find?_eq_some
abbrev Zby:=@List.dropLast_concat_getLast
abbrev Zbz:=@List.getElem?_zip_eq_some
abbrev Zca:=@Classical.byContradiction
namespace Go.Abs
inductive D where
 |int (k:IntKind) (n:Int)
 |bool (b:Bool)
 |str (s:ByteArray)
 |lst (sz:Nat) (l:List (List D))
 |mp (es:List MapEntry) (c:Nat)
inductive V where
 |und
 |d (x:D)
 |agg (cs:List V)
 |tup (vs:List V)
 |own (sz:Nat) (l:List (List D))
 |ptr (k off:Nat)
 |nilp
 |f (x:D)
 |nils (sz:Nat)
 |cref (cs:List D)
 |sl (sz k off len cap:Nat)
 |clo (f:FuncId) (caps:List V)
 |mp (k:Nat)
 |ownT (sz:Nat) (l:List (List D))
inductive Bx where
 |cells (cs:List V)
 |mp (es:List (V×V×Nat)) (c:Nat)
def Qod:Value->V
 |.int k n=>.d (.int k n)
 |.bool b=>.d (.bool b)
 |.string s=>.d (.str s)
 |_=>.und
def Qv2:Value->V
 |.agg vs=>.agg (vs.toList.map Qod)
 |v=>Qod v
def entV(e:MapEntry):V×V×Nat:=(Qv2 e.key,Qv2 e.val,e.born)
inductive CK where
 |int (k:IntKind)
 |str
 |bool
inductive MK where
 |int (k:IntKind)
 |str
 |bool
 |st (ks:List CK)
def CK.ok:CK->V->Bool
 |.int k,.d (.int k' _)=>decide (k'=k)
 |.str,.d (.str _)=>true
 |.bool,.d (.bool _)=>true
 |_,_=>false
def okCs:List CK->List V->Bool
 |[],[]=>true
 |k::a,v::vs=>k.ok v&&okCs a vs
 |_,_=>false
def MK.ok:MK->V->Bool
 |.int k,.d (.int k' _)=>decide (k'=k)
 |.str,.d (.str _)=>true
 |.bool,.d (.bool _)=>true
 |.st a,.agg cs=>okCs a cs
 |_,_=>false
def Qkb:V->V->Bool
 |.d (.int _ a),.d (.int _ b)=>a==b
 |.d (.str a),.d (.str b)=>a==b
 |.d (.bool a),.d (.bool b)=>a==b
 |_,_=>false
def Qrw:List V->List V->Bool
 |[],[]=>true
 |x::xs,y::ys=>Qkb x y&&Qrw xs ys
 |_,_=>false
def Qfs:V->V->Bool
 |.agg xs,.agg ys=>Qrw xs ys
 |x,y=>Qkb x y
def V.dat1:V->Bool
 |.d _ | .nils _=>true
 |_=>false
def V.dat:V->Bool
 |.d _ | .nils _=>true
 |.agg cs=>cs.all V.dat1
 |_=>false
def V.mv:V->Bool
 |.own _ _=>true
 |v=>v.dat
def Qws:V->V
 |.nils sz=>.d (.lst sz [])
 |v=>v
def Qhf(key:V):List (V×V×Nat)->Option (Nat×V)
 |[]=>none
 |(k,v,_)::es=>if Qfs key k then some (0,v) else (Qhf key es).map fun(i,v)=>(i+1,v)
def modM(key v:V):Nat->List (V×V×Nat)->List (V×V×Nat)
 |_,[]=>[]
 |0,(_,_,b)::es=>(key,v,b)::es
 |i+1,e::es=>e::modM key v i es
def Q81(b:Int):List (V×V×Nat)->Option Nat
 |[]=>none
 |(_,_,c)::es=>if (c:Int)==b then some 0 else (Q81 b es).map (· + 1)
def upM:Nat->List (V×V×Nat)->Bool
 |_,[]=>true
 |n,e::es=>decide (n<=e.2.2)&&upM (e.2.2+1) es
def MK.all(kd:MK)(es:List (V×V×Nat)):Bool:=es.all fun e=>kd.ok e.1
abbrev Mem:=Nat->Option Bx
def Mem.put(M:Mem)(k:Nat)(b:Bx):Mem:=fun i=>if i=k then some b else M i
def Mem.over(M:Mem)(nb:Nat)(a:Mem):Mem:=fun k=>if k<nb then M k else a k
def Mem.patch(M W:Mem):Mem:=fun k=>match W k with
 |some b=>some b
 |none=>M k
abbrev Sl:=Nat->V
def Sl.put(s:Sl)(t:Nat)(v:V):Sl:=fun i=>if i=t then v else s i
mutual
def V.dem:V->V
 |.own sz l=>.d (.lst sz l)
 |.ownT sz l=>.d (.lst sz l)
 |.agg cs=>.agg (V.dems cs)
 |.tup vs=>.tup (V.dems vs)
 |v=>v
def V.dems:List V->List V
 |[]=>[]
 |v::vs=>v.dem::V.dems vs
end
def V.top:V->V
 |.own sz l=>.own sz l
 |v=>v.dem
def own1:List V->List V
 |[]=>[]
 |v::vs=>v.top::own1 vs
def V.topS:V->V
 |.own sz l=>.own sz l
 |.agg cs=>.agg (own1 cs)
 |v=>v.dem
def V.lt(n:Nat):V->Bool
 |.ptr k _ | .sl _ k _ _ _ | .mp k=>decide (k<n)
 |.agg cs=>go cs
 |.tup vs=>go vs
 |.clo _ cs=>go cs
 |_=>true
where go:List V->Bool
 |[]=>true
 |v::vs=>v.lt n&&go vs
def V.cells:V->List V
 |.agg cs=>cs
 |v=>[v]
def V.toD:V->Option D
 |.d x=>some x
 |.own sz l=>some (.lst sz l)
 |.ownT sz l=>some (.lst sz l)
 |.nils sz=>some (.lst sz [])
 |_=>none
def toDs:List V->Option (List D)
 |[]=>some []
 |v::vs=>match v.toD,toDs vs with
  |some x,some xs=>some (x::xs)
  |_,_=>none
def Qi3(n:Nat):Nat->List D->List (List D)
 |0,_=>[]
 |k+1,l=>l.take n::Qi3 n k (l.drop n)
def lim:Nat:=1099511627776
def Q99(op:BinOp)(k:IntKind)(a b:Int):Option D :=
 match op with
 |.add=>some (.int k (k.wrap (a+b)))
 |.sub=>some (.int k (k.wrap (a-b)))
 |.mul=>some (.int k (k.wrap (a*b)))
 |.and=>some (.int k (k.wrap ((BitVec.ofInt k.bits a) &&& (BitVec.ofInt k.bits b)).toNat))
 |.or=>some (.int k (k.wrap ((BitVec.ofInt k.bits a) ||| (BitVec.ofInt k.bits b)).toNat))
 |.xor=>some (.int k (k.wrap ((BitVec.ofInt k.bits a) ^^^ (BitVec.ofInt k.bits b)).toNat))
 |.andNot=>some (.int k (k.wrap ((BitVec.ofInt k.bits a) &&& ~~~(BitVec.ofInt k.bits b)).toNat))
 |.eql=>some (.bool (a==b))
 |.neq=>some (.bool (a != b))
 |.lss=>some (.bool (a<b))
 |.leq=>some (.bool (a<=b))
 |.gtr=>some (.bool (a>b))
 |.geq=>some (.bool (a>=b))
 |.quo=>if b=0 then none else some (.int k (k.wrap (a.tdiv b)))
 |.rem=>if b=0 then none else some (.int k (a.tmod b))
 |_=>none
def binD(op:BinOp)(c:Bool):D->D->Option D
 |.int k a,.int k' b =>
  match op with
  |.shl=>if b<0 then none else some (.int k (k.wrap (a*2 ^ (min b.toNat k.bits))))
  |.shr=>if b<0 then none else some (.int k (a.fdiv (2 ^ (min b.toNat k.bits))))
  |_=>if k=k' then Q99 op k a b else none
 |.bool a,.bool b =>
  match op,c with
  |.eql,true=>some (.bool (a==b))
  |.neq,true=>some (.bool (!(a==b)))
  |_,_=>none
 |.str a,.str b =>
  match op with
  |.eql=>some (.bool (a.toList==b.toList))
  |.neq=>some (.bool !(a.toList==b.toList))
  |_=>none
 |_,_=>none
def unD:UnOp->D->Option D
 |.not,.bool b=>some (.bool !b)
 |.neg,.int k n=>some (.int k (k.wrap (0-n)))
 |_,_=>none
def Qec:List Nat->List V->List V->Option Bool
 |[],[],[]=>some true
 |0::c,.d (.int k a)::xs,.d (.int k' b)::ys=>if k=k' then (Qec c xs ys).map ((a==b) && ·) else none
 |1::c,.d (.bool a)::xs,.d (.bool b)::ys=>(Qec c xs ys).map ((a==b) && ·)
 |2::c,.d (.str a)::xs,.d (.str b)::ys=>(Qec c xs ys).map ((a==b) && ·)
 |_,_,_=>none
def Qbaa:List (List D)->Option (List Int)
 |[]=>some []
 |[.int .u8 n]::l=>(Qbaa l).map (n :: ·)
 |_=>none
def strB(a:List Int):ByteArray:=a.foldl (fun r n=>r.push (UInt8.ofNat n.toNat)) ByteArray.empty
inductive K where
 |mov
 |pick
 |box (n:Nat)
 |alloc (z:List V)
 |build (z:List V) (places:List (Nat×Nat))
 |bslice (sz n:Nat) (z:List V) (places:List Nat)
 |blit (sz n:Nat) (z:List V) (places:List Nat)
 |load (agg:Bool) (n:Nat)
 |loadT
 |store (n:Nat)
 |nilchk
 |bin (op:BinOp) (tb:Bool)
 |eqa (neg:Bool) (ks:List Nat)
 |un (op:UnOp)
 |conv (k:IntKind)
 |bstr
 |func (f:FuncId)
 |makes (sz bytes:Nat) (z:List V)
 |slice (sz:Nat) (lo hi:Bool)
 |slcT (sz:Nat)
 |fld (off:Nat)
 |field (agg:Bool) (off n:Nat)
 |idx (sz:Nat)
 |idxarr (sz len:Nat)
 |idxval (agg:Bool) (sz len:Nat)
 |extract (i:Nat)
 |len
 |lens
 |idxs
 |append (sz bytes:Nat)
 |appw (sz bytes:Nat)
 |max2
 |min2
 |call (f:FuncId)
 |callv
 |callO (f:FuncId) (i:Nat)
 |isnil (neg:Bool)
 |mkmap
 |lenm
 |lookup (kd:MK) (c:Bool) (z:V)
 |mapset (kd:MK)
 |lookupT (kd:MK) (z:V)
 |mapsetT (kd:MK)
 |mapentry (kd:MK) (z:V)
 |entrystore
inductive Arg where
 |t (t:Nat)
 |c (v:V)
structure COp where
 dst:Option Nat
 kind:K
 args:List Arg
 tk:Bool
 guard:Option (Nat×Bool)
structure Pair where
 a:Nat
 n:Nat
 b:Nat
 m:Nat
inductive CC where
 |skip
 |region (ops:List COp) (pc:Nat) (pairs:List Pair)
 |seq (a b:CC)
 |cond (c:Arg) (a b:CC)
 |block (id:Nat) (c:CC)
 |loop (sites:List Nat) (c:CC)
 |exit (id:Nat)
 |ret
 |dead
def Qgy(M:Mem)(sz:Nat):V->Option (List (List D))
 |.d (.lst a l)=>if a=sz then some l else none
 |.own a l=>if a=sz then some l else none
 |.ownT a l=>if a=sz then some l else none
 |.nils a=>if a=sz then some [] else none
 |.sl a k off len _ =>
  if a=sz then
   match M k with
   |some (.cells cs)=>if off+len*sz<=cs.length then (toDs ((cs.drop off).take (len*sz))).map (Qi3 sz len) else none
   |_=>none
  else none
 |_=>none
def Qi4(cells:List V):List (Nat×List V)->List V
 |[]=>cells
 |(off,vs)::rest=>Qi4 (cells.take off++vs++cells.drop (off+vs.length)) rest
def rep(n:Nat)(z:List V):List V:=(List.replicate n z).flatten
def Qei(x:V):Bool:=match x with | .und | .tup _=>false|_=>true
def Ql(n0 κ:Nat)(k:K)(xs:List V)(M:Mem):Option (V×Mem):=
 match k,xs with
 |.mov,[x]=>some (x,M)
 |.pick,[.d (.bool b),x,y]=>some ((if b then x else y),M)
 |.box n,[x] =>
  match x with
  |.und | .tup _=>none
  |_=>if x.cells.length=n&&(M κ).isNone then some (.ptr κ 0,M.put κ (.cells x.cells)) else none
 |.alloc z,[]=>if (M κ).isNone then some (.ptr κ 0,M.put κ (.cells z)) else none
 |.build z m,xs =>
  if m.length=(own1 xs).length&&(m.zip (own1 xs)).all (fun(p,x)=>Qei x&&x.cells.length==p.2&&decide (p.1+p.2<=z.length))
  then some (.agg (Qi4 z ((m.zip (own1 xs)).map fun(p,x)=>(p.1,x.cells))),M) else none
 |.bslice sz n z m,xs =>
  if m.length=xs.length&&decide (0<sz)&&z.length==sz&&(m.zip xs).all (fun(i,x)=>Qei x&&x.cells.length==sz&&decide (i<n))&&(M κ).isNone
  then some (.sl sz κ 0 n n,M.put κ (.cells (Qi4 (rep n z) ((m.zip xs).map fun(i,x)=>(i*sz,x.cells))))) else none
 |.blit sz n z m,xs =>
  if m.length=xs.length&&decide (0<sz)&&z.length==sz&&(m.zip xs).all (fun(i,x)=>Qei x&&x.cells.length==sz&&decide (i<n))
  then (toDs (Qi4 (rep n z) ((m.zip xs).map fun(i,x)=>(i*sz,x.cells)))).map fun ds=>(.d (.lst sz (Qi3 sz n ds)),M) else none
 |.load agg n,[.ptr k off] =>
  match M k with
  |some (.cells cs)=>
   if off+n<=cs.length then
    (if agg then some (.agg (V.dems ((cs.drop off).take n)),M) else (cs[off]?).map (·.dem,M))
   else none
  |_=>none
 |.load agg n,[.cref cs] =>
  if n<=cs.length then (if agg then some (.agg ((cs.take n).map .d),M) else (cs[0]?).map (fun x=>(.d x,M))) else none
 |.loadT,[.ptr k off] =>
  match M k with
  |some (.cells cs)=>(cs[off]?).map fun x=>(x.top,M.put k (.cells (cs.set off x.dem)))
  |_=>none
 |.store n,[.ptr k off,v] =>
  match v with
  |.und | .tup _=>none
  |_ =>
   match M k with
   |some (.cells cs)=>
    if v.topS.cells.length=n&&decide (off+n<=cs.length)&&(decide (n0<=k)||v.lt n0) then
     some (.und,M.put k (.cells (cs.take off++v.topS.cells++cs.drop (off+n)))) else none
   |_=>none
 |.nilchk,[x]=>match x with | .ptr _ _ | .cref _ | .clo _ _=>some (x,M)|_=>none
 |.bin op t,[.d x,.d y]=>(binD op t x y).map (fun z=>(.d z,M))
 |.eqa neg w,[.agg xs,.agg ys]=>(Qec w xs ys).map fun b=>(.d (.bool (if neg then !b else b)),M)
 |.un op,[.d x]=>(unD op x).map (fun z=>(.d z,M))
 |.bstr,[.d (.lst _ l)]=>(Qbaa l).map fun u=>(.d (.str (strB u)),M)
 |.conv k,[.d (.int _ n)]=>some (.d (.int k (k.wrap n)),M)
 |.func f,q=>some (.clo f q,M)
 |.makes sz bytes z,[.d (.int .i64 l),.d (.int .i64 c)] =>
  if decide (0<=l)&&decide (l<=c)&&decide (c<=lim)&&decide (bytes<=128)&&z.length==sz&&decide (0<sz)&&(M κ).isNone
  then some (.sl sz κ 0 l.toNat c.toNat,M.put κ (.cells (rep c.toNat z))) else none
 |.slice sz lo r,x::bs =>
  match (match lo,r,bs with
   |false,false,[]=>some ((none:Option Int),(none:Option Int))
   |true,false,[.d (.int _ a)]=>some (some a,none)
   |false,true,[.d (.int _ b)]=>some (none,some b)
   |true,true,[.d (.int _ a),.d (.int _ b)]=>some (some a,some b)
   | _,_,_=>none) with
  |some (a,b)=>
   match x with
   |.d (.lst g l) | .own g l =>
    let h:=b.getD l.length;let a:=a.getD 0
    if g=sz&&decide (0<=a)&&decide (a<=h)&&decide (h<=l.length) then some (.d (.lst sz ((l.take h.toNat).drop a.toNat)),M) else none
   |.sl g k off len cap =>
    let h:=b.getD len;let a:=a.getD 0
    if g=sz&&decide (0<=a)&&decide (a<=h)&&decide (h<=len)&&decide (len<=cap) then some ((if cap=a.toNat then .sl sz k off 0 0 else .sl sz k (off+a.toNat*sz) (h.toNat-a.toNat) (cap-a.toNat)),M) else none
   |.nils g=>if g=sz&&decide (0<=a.getD 0)&&decide (a.getD 0<=b.getD 0)&&decide (b.getD 0<=0) then some (.nils sz,M) else none
   |_=>none
  |none=>none
 |.slcT sz,[x,.d (.int _ a)] =>
  match x with
  |.d (.lst g l)=>if g=sz&&decide (0<=a)&&decide (a<=l.length) then some (.d (.lst sz (l.drop a.toNat)),M) else none
  |.own g l | .ownT g l=>if g=sz&&decide (0<=a)&&decide (a<=l.length) then some (.ownT sz (l.drop a.toNat),M) else none
  |_=>none
 |.fld off,[.ptr k o]=>some (.ptr k (o+off),M)
 |.fld off,[.cref cs]=>some (.cref (cs.drop off),M)
 |.field agg off n,[.agg cs] =>
  if off+n<=cs.length then (if agg then some (.agg ((cs.drop off).take n),M) else (cs[off]?).map (·,M)) else none
 |.idx sz,[x,.d (.int _ i)] =>
  match x with
  |.d (.lst g l) | .own g l=>if g=sz&&decide (0<=i) then (l[i.toNat]?).map fun c=>(.cref c,M) else none
  |.sl g k off len _=>if g=sz&&decide (0<=i)&&decide (i<len) then some (.ptr k (off+i.toNat*sz),M) else none
  |_=>none
 |.idxarr sz len,[x,.d (.int _ i)] =>
  if decide (0<=i)&&decide (i<len) then
   match x with
   |.ptr k o=>some (.ptr k (o+i.toNat*sz),M)
   |.cref cs=>some (.cref (cs.drop (i.toNat*sz)),M)
   |_=>none
  else none
 |.idxval agg sz len,[.agg cs,.d (.int _ i)] =>
  if decide (0<=i)&&decide (i<len)&&cs.length==len*sz then
   (if agg then some (.agg ((cs.drop (i.toNat*sz)).take sz),M) else (cs[i.toNat*sz]?).map (·,M)) else none
 |.extract i,[.tup vs]=>(vs[i]?).map fun v=>(v.top,M)
 |.len,[x] =>
  match x with
  |.d (.lst _ l) | .own _ l=>some (.d (.int .i64 l.length),M)
  |.nils _=>some (.d (.int .i64 0),M)
  |.sl _ _ _ n _=>some (.d (.int .i64 n),M)
  |_=>none
 |.lenm,[.mp k]=>match M k with|some (.mp es _)=>some (.d (.int .i64 es.length),M)|_=>none
 |.lenm,[.d (.mp es _)]=>some (.d (.int .i64 es.length),M)
 |.lens,[.d (.str s)]=>some (.d (.int .i64 s.size),M)
 |.idxs,[.d (.str s),.d (.int _ i)]=>if r:0<=i/\i<s.size then some (.d (.int .u8 (s[i.toNat]'(by omega)).toNat),M) else none
 |.append sz bytes,[.own g l,x] =>
  match Qgy M sz x with
  |some ys=>if g=sz&&decide (l.length+ys.length<=lim)&&decide (bytes<=128)&&decide (0<sz) then some (.own sz (l++ys),M) else none
  |none=>none
 |.append sz bytes,[.ownT g l,x] =>
  match Qgy M sz x with
  |some ys=>if g=sz&&decide (l.length+ys.length<=lim)&&decide (bytes<=128)&&decide (0<sz) then some (.ownT sz (l++ys),M) else none
  |none=>none
 |.append sz bytes,[.nils g,x] =>
  match Qgy M sz x with
  |some ys=>if g=sz&&decide (ys.length<=lim)&&decide (bytes<=128)&&decide (0<sz) then some (.own sz ys,M) else none
  |none=>none
 |.append sz bytes,[.sl g k off len cap,x] =>
  match Qgy M sz (.sl g k off len cap),Qgy M sz x with
  |some l,some ys =>
   if ys.length=0 then (if len=0&&cap=0 then some (.own sz [],M) else if len<=cap then some (.sl g k off len cap,M) else none)
   else if decide (cap<len+ys.length)&&decide (l.length+ys.length<=lim)&&decide (bytes<=128)&&decide (0<sz) then some (.own sz (l++ys),M) else none
  |_,_=>none
 |.appw sz bytes,[.sl g k off len cap,x] =>
  match Qgy M sz (.sl g k off len cap),Qgy M sz x,M k with
  |some l,some ys,some (.cells cs)=>
   if ys.length=0 then (if len=0&&cap=0 then some (.own sz [],M) else if len<=cap then some (.sl g k off len cap,M) else none)
   else if len+ys.length<=cap then
    (if decide (0<sz)&&decide (off+(len+ys.length)*sz<=cs.length)&&ys.all (fun y=>y.length==sz) then
     some (.sl g k off (len+ys.length) cap,M.put k (.cells (cs.take (off+len*sz)++ys.flatten.map V.d++cs.drop (off+len*sz+ys.length*sz)))) else none)
   else if decide (cap<len+ys.length)&&decide (l.length+ys.length<=lim)&&decide (bytes<=128)&&decide (0<sz) then some (.own sz (l++ys),M) else none
  |_,_,_=>none
 |.appw sz bytes,[.nils g,x] =>
  match Qgy M sz x with
  |some ys=>if g=sz&&decide (ys.length<=lim)&&decide (bytes<=128)&&decide (0<sz) then some (.own sz ys,M) else none
  |none=>none
 |.mkmap,[]=>if (M κ).isNone then some (.mp κ,M.put κ (.mp [] 0)) else none
 |.mkmap,[.d (.int _ _)]=>if (M κ).isNone then some (.mp κ,M.put κ (.mp [] 0)) else none
 |.lookup kd c z,[.mp k,key] =>
  match M k with
  |some (.mp es _)=>if kd.ok key&&kd.all es then
    (match Qhf key es with
     |some (_,v)=>if v.mv then some (if c then .tup [v.dem,.d (.bool true)] else v.dem,M) else none
     | none=>if z.dat then some (if c then .tup [z,.d (.bool false)] else z,M) else none) else none
  |_=>none
 |.lookup kd c z,[.d (.mp j _),key] =>
  if kd.ok key&&kd.all (j.map entV) then
    (match Qhf key (j.map entV) with
     |some (_,v)=>if v.dat&&(j.map entV).all (fun e=>e.2.1.dat) then some (if c then .tup [v,.d (.bool true)] else v,M) else none
     | none=>if z.dat&&(j.map entV).all (fun e=>e.2.1.dat) then some (if c then .tup [z,.d (.bool false)] else z,M) else none) else none
 |.lookupT kd z,[.mp k,key] =>
  match M k with
  |some (.mp es c)=>if kd.ok key&&kd.all es&&upM 0 es then
    (match Qhf key es with
     |some (i,.own sz l)=>(es[i]?).map fun e=>(.own sz l,M.put k (.mp (modM e.1 (.d (.lst sz l)) i es) c))
     |some _=>none
     | none=>if z.dat then some (z,M) else none) else none
  |_=>none
 |.mapsetT kd,[.mp k,key,.own sz l] =>
  match M k with
  |some (.mp es c)=>if kd.ok key&&kd.all es then
    some (.und,M.put k (match Qhf key es with
     |some (i,_)=>.mp (modM key (.own sz l) i es) c
     | none=>.mp (es++[(key,.own sz l,c)]) (c+1))) else none
  |_=>none
 |.mapset kd,[.mp k,key,v] =>
  match M k with
  |some (.mp es c)=>if kd.ok key&&kd.all es&&v.dat then
    some (.und,M.put k (match Qhf key es with
     |some (i,_)=>.mp (modM key (Qws v) i es) c
     | none=>.mp (es++[(key,Qws v,c)]) (c+1))) else none
  |_=>none
 |.mapentry kd z,[.mp k,key] =>
  match M k with
  |some (.mp es c)=>if kd.ok key&&kd.all es&&z.dat then
    (match Qhf key es with
     |some (i,v)=>if v.dat then (es[i]?).map fun e=>(.tup [v,.d (.int .i64 e.2.2)],M.put k (.mp (modM key v i es) c)) else none
     | none=>some (.tup [z,.d (.int .i64 c)],M.put k (.mp (es++[(key,z,c)]) (c+1)))) else none
  |_=>none
 |.entrystore,[.mp k,.d (.int .i64 b),v] =>
  match M k with
  |some (.mp es c)=>if v.dat then
    (match Q81 b es with
     |some i=>(es[i]?).map fun e=>(.und,M.put k (.mp (modM e.1 (Qws v) i es) c))
     | none=>none) else none
  |_=>none
 |.max2,[.d (.int k a),.d (.int k' b)]=>if k=k' then some (.d (.int k (if b>a then b else a)),M) else none
 |.min2,[.d (.int k a),.d (.int k' b)]=>if k=k' then some (.d (.int k (if b<a then b else a)),M) else none
 |_,_=>none
def Qb2(k:K)(xs:List V):List V :=
 match k,xs with
 |.mov,[x]=>[x.dem]
 |.append ..,[s,x]=>[s.dem,x.dem]
 |.slcT _,[x,i]=>[x.dem,i]
 |.store _,[p,v]=>[p,v.dem]
 |.mapsetT _,[m,k,v]=>[m,k,v.dem]
 |.build ..,xs=>V.dems xs
 |.box _,[x]=>[x.dem]
 |.extract i,[.tup vs]=>[.tup (match vs[i]? with|some v=>vs.set i v.dem|none=>vs)]
 |_,xs=>xs
structure St where
 s:Sl
 M:Mem
 nb:Nat
def Arg.val(s:Sl):Arg->V
 |.t i=>s i
 |.c v=>v
def Arg.putTo(a:Arg)(s:Sl)(v:V):Sl :=
 match a with
 |.t i=>s.put i v
 |.c _=>s
def Q5(s:Sl):List Arg->List V->Sl
 |a::as,v::vs=>Q5 (a.putTo s v) as vs
 |_,_=>s
def Qbe(s:Sl)(dst:Option Nat)(v:V):Sl :=
 match dst with
 |some t=>s.put t v
 |none=>s
def COp.xs(o:COp)(s:Sl):List V:=if o.tk then o.args.map (·.val s) else V.dems (o.args.map (·.val s))
def COp.wanted(o:COp)(s:Sl):Option Bool :=
 match o.guard with
 |none=>some true
 |some (t,want)=>match s t with
  |.d (.bool b)=>some (b==want)
  |.tup []=>some false
  |_=>none
abbrev Ctx:=FuncId->List V->Mem->Nat->V->Mem->Nat->Prop
def COp.step(o:COp)(n0:Nat)(σ:St):Option St :=
 let xs:=o.xs σ.s
 match Ql n0 (n0+o.dst.getD 0) o.kind xs σ.M with
 |some (v,M)=>some { s:=Qbe (if o.tk then Q5 σ.s o.args (Qb2 o.kind xs) else σ.s) o.dst v,M,nb:=σ.nb }
 |none=>none
def COp.callee(o:COp)(s:Sl):Option (FuncId×List V):=
 match o.kind with
 |.call f=>some (f,V.dems (o.args.map (·.val s)))
 |.callv=>match (o.args.map (·.val s):List V) with
  |V.clo f a::rest=>some (f,V.dems rest++V.dems a)
  |_=>none
 |_=>none
def K.isCall:K->Bool
 |.call _ | .callv=>true
 |_=>false
def K.isNil:K->Bool
 |.isnil _ | .callO ..=>true
 |_=>false
def K.negNil:K->Bool
 |.isnil b=>b
 |_=>false
def Q4t:List V->Option Nat
 |[.d (.lst _ l)]=>some l.length
 |[.own _ l]=>some l.length
 |[.nils _]=>some 0
 |[.sl ..]=>some 1
 |_=>none
def Arg.own(s:Sl):Arg->V
 |.t i=>(s i).top
 |.c v=>v.dem
def Qzr(s:Sl):Nat->List Arg->List V
 |_,[]=>[]
 |0,a::as=>a.own s::V.dems (as.map (·.val s))
 |i+1,a::as=>(a.val s).dem::Qzr s i as
def Qun:Nat->List Arg->Option Nat
 |_,[]=>none
 |0,.t t::_=>some t
 |0,.c _::_=>none
 |i+1,_::as=>Qun i as
def Quo(s:Sl):Option Nat->Sl
 |some t=>s.put t (s t).dem
 |none=>s
def wrs(m:Nat):Option Nat->Bool
 |some d=>m.testBit d
 |none=>false
def COp.runN(C:Ctx)(n0:Nat)(pc:Nat)(o:COp)(σ:St)(Q:St->Prop):Prop :=
 match o.kind with
 |.callO f i=>pc=0/\∃r M nb,C f (Qzr σ.s i o.args) σ.M σ.nb r M nb/\(∀k,(σ.M k).isSome=true->(M k).isSome=true)/\(∀k cs,k<n0->M k=some (.cells cs)->M k=σ.M k\/V.lt.go n0 cs=true) /\
   Q { s:=Qbe (Quo σ.s (Qun i o.args)) o.dst r,M,nb }
 |_=>match Q4t (o.xs σ.s) with
  |some n=>∀b:Bool,(b=true->n=0)->Q { σ with s:=Qbe σ.s o.dst (.d (.bool (if o.kind.negNil then !b else b))) }
  |none=>False
def COp.run(C:Ctx)(n0:Nat)(pc:Nat)(o:COp)(σ:St)(Q:St->Prop):Prop :=
 match o.wanted σ.s with
 |some true =>
  if o.kind.isCall then
   match o.callee σ.s with
   |some (f,args)=>
    match pc with
    |0=>∃r M nb,C f args σ.M σ.nb r M nb/\(∀k,(σ.M k).isSome=true->(M k).isSome=true)/\(∀k cs,k<n0->M k=some (.cells cs)->M k=σ.M k\/V.lt.go n0 cs=true)/\Q { s:=Qbe σ.s o.dst r,M,nb }
    |1=>∃r a nb,(∀M,(∀k,(σ.M k).isSome=true->M k=σ.M k)->(∀k,σ.nb<=k->M k=none)->C f args M σ.nb r (M.over σ.nb a) nb)/\Q { s:=Qbe σ.s o.dst r,M:=σ.M.over σ.nb a,nb }
    |n+2=>if n<8 then ∃r,(∀M nb,C f args M nb r M nb)/\Q { s:=Qbe σ.s o.dst r,M:=σ.M,nb:=σ.nb }
     else ∃r W a nb,(wrs (n-8) o.dst=true\/∀k,W k=none)/\(∀k,(W k).isSome=true->(σ.M k).isSome=true)/\(∀k cs,k<n0->W k=some (.cells cs)->V.lt.go n0 cs=true) /\
      (∀M,(∀k,(σ.M k).isSome=true->M k=σ.M k)->(∀k,σ.nb<=k->M k=none)->C f args M σ.nb r ((M.patch W).over σ.nb a) nb)/\Q { s:=Qbe σ.s o.dst r,M:=(σ.M.patch W).over σ.nb a,nb }
   |none=>False
  else if o.kind.isNil then o.runN C n0 pc σ Q
  else
   match o.step n0 σ with
   |some b=>Q b
   |none=>False
 |some false=>Q { σ with s:=Qbe σ.s o.dst (.tup []) }
 |none=>False
def Qbab(C:Ctx)(n0:Nat)(pc:Nat):List COp->St->(St->Prop)->Prop
 |[],σ,Q=>Q σ
 |o::os,σ,Q=>o.run C n0 pc σ fun a=>Qbab C n0 pc os a Q
def Qme(x:V)(n:Nat)(y:V)(m:Nat):Bool :=
 match x,y with
 |.ptr k o,.ptr k' o'=>decide (k≠k')||decide (o+n<=o')||decide (o'+m<=o)
 |.ptr k _,.sl _ k' _ _ _=>decide (k≠k')
 |.sl _ k' _ _ _,.ptr k _=>decide (k≠k')
 |.cref _,_|_,.cref _ | .d _,_|_,.d _ | .own _ _,_|_,.own _ _ | .ownT _ _,_|_,.ownT _ _ | .nils _,_=>true
 |_,_=>false
inductive Ex where
 |norm
 |exit (id:Nat)
 |ret
def Qd2(P:Nat->Bool):V->V
 |.ptr k o=>if P k then .und else .ptr k o
 |.sl sz k o n c=>if P k then .und else .sl sz k o n c
 |.mp k=>if P k then .und else .mp k
 |.agg cs=>.agg (go cs)
 |.tup vs=>.tup (go vs)
 |.clo f cs=>.clo f (go cs)
 |v=>v
where go:List V->List V
 |[]=>[]
 |v::vs=>Qd2 P v::go vs
def Qjx(n0:Nat)(sites:List Nat)(k:Nat):Bool:=sites.any fun t=>k==n0+t
def Qmc(n0:Nat)(sites:List Nat)(σ:St):St :=
 {
  s:=fun t=>Qd2 (Qjx n0 sites) (σ.s t)
  M:=fun k=>if Qjx n0 sites k then none else if k<n0 then σ.M k else
   match σ.M k with
   |some (.cells cs)=>some (.cells (cs.map (Qd2 (Qjx n0 sites))))
   |b=>b
  nb:=σ.nb }
inductive Res where
 |t (i:Nat)
 |cell (p:Nat) (agg:Bool) (n:Nat)
def Res.val(σ:St):Res->Option V
 |.t i=>some (σ.s i)
 |.cell p agg n=>(Ql 0 0 (.load agg n) [σ.s p] σ.M).map (·.1)
def Qo6(σ:St):List Res->Option V
 |[r]=>r.val σ
 |rs=>(rs.mapM (Res.val σ)).map .tup
def Qph(a:List Res):List Nat:=a.filterMap fun r=>match r with | .t i=>some i | .cell ..=>none
structure CFn where
 np:Nat
 nt:Nat
 res:List Res
 body:CC
def Qp5(args:List V):Sl:=fun t=>args.getD t .und
end Go.Abs
end
section
namespace Go.Abs
def Qbd0(P:Program)(a:TypeId):Value->Option V
 |.int k n=>some (.d (.int k n))
 |.bool b=>some (.d (.bool b))
 |.string s=>some (.d (.str s))
 |.pointer none=>some .nilp
 |.nilFunc | .nilIface | .map none=>some .und
 |.slice none 0 0=>match P.underlying a with
  |some (.slice e)=>some (.nils (P.cellsOf e))
  |_=>none
 |_=>none
def Qgj(P:Program)(a:TypeId):Operand->Option Arg
 |.tmp t=>some (.t t)
 |.const v=>(Qbd0 P a v).map .c
 |.func f=>some (.c (.clo f []))
 |_=>none
def Q82:Value->Option V
 |.int k n=>some (.d (.int k n))
 |.bool b=>some (.d (.bool b))
 |.string s=>some (.d (.str s))
 |.pointer none=>some .nilp
 |.agg _ | .tuple _=>none
 |_=>some .und
def Q2l(P:Program):Nat->TypeId->Option (List (Option Nat))
 |0,_=>none
 |d+1,t=>match P.underlying t with
  |some (.struct g)=>g.toList.foldl (fun c f=>match c,Q2l P d f.type with|some a,some b=>some (a++b)|_,_=>none) (some [])
  |some (.array n e)=>(Q2l P d e).map fun l=>(List.replicate n l).flatten
  |some (.slice e)=>some [some (P.cellsOf e)]
  |some _=>some [none]
  |none=>none
def Qn5:List (Option Nat)->List Value->Option (List V)
 |[],[]=>some []
 |some n::a,.slice none 0 0::vs=>(Qn5 a vs).map (.nils n :: ·)
 |none::a,v::vs=>match Q82 v,Qn5 a vs with
  |some x,some xs=>some (x::xs)
  |_,_=>none
 |_,_=>none
def Qsj(P:Program)(t:TypeId):Option (List V):=
 match Q2l P 12 t,(P.info? t).bind (·.zero) with
 |some a,some z=>Qn5 a z.cells.toList
 |_,_=>none
def Qic(P:Program)(t:TypeId):Bool :=
 match P.underlying t with
 |some (.struct _)|some (.array _ _)=>true
 |_=>false
def Qup(P:Program)(t:TypeId):Bool :=
 match P.underlying t with
 |some (.slice _)=>true
 |_=>false
def Qbm0(P:Program)(t:TypeId):Bool :=
 match P.underlying t with
 |some (.slice _)=>true
 |some (.struct a)=>a.any fun f=>Qup P f.type
 |_=>false
def Qbl9(P:Program)(t:TypeId):Bool :=
 match P.underlying t with
 |some (.slice _)|some (.tuple _)=>true
 |_=>false
def Qjd(P:Program)(t:TypeId):Option Nat :=
 match P.underlying t with
 |some (.int _)=>some 0
 |some .bool=>some 1
 |some .string=>some 2
 |_=>none
def Qid(P:Program):Nat→List Field→Option (List Nat)
 | _,[]=>some []
 | i, f :: fs => if f.offset = i ∧ f.name ≠ "_" then
   match Qjd P f.type,Qid P (i+1) fs with
   | some k,some ks=>some (k::ks)
   | _,_=>none
  else none
def Qkq(P:Program)(t:TypeId):Option (List Nat):=
 match P.underlying t with
 |some (.struct a)=>if P.stoodInHeld t=false/\P.eqGuardType P.depth t=false then Qid P 0 a.toList else none
 |some (.array n e)=>if (P.info? e).isSome=true/\P.cellsOf e=1/\P.eqGuardType P.depth t=false then (Qjd P e).map fun k=>List.replicate n k else none
 |_=>none
def Qe1(P:Program)(b:Nat->TypeId):Nat->List Operand->Option (List Arg)
 |_,[]=>some []
 |i,x::xs=>match Qgj P (b i) x,Qe1 P b (i+1) xs with
  |some a,some as=>some (a::as)
  |_,_=>none
def Q3i(P:Program)(b:Array Field)(a:List Nat):Option (List (Nat×Nat)):=
 a.mapM fun i=>(b[i]?).map fun f=>(f.offset,P.cellsOf f.type)
def Q63:Operand->Bool
 |.tmp _=>true
 |_=>false
def Qpi(P:Program)(t:TypeId):Option CK :=
 match P.underlying t with
 |some (.int k)=>some (.int k)
 |some .string=>some .str
 |some .bool=>some .bool
 |_=>none
def Q83(P:Program)(t:TypeId):Option MK :=
 match P.underlying t with
 |some (.int k)=>some (.int k)
 |some .string=>some .str
 |some .bool=>some .bool
 |some (.struct a)=>if (Qkq P t).isSome then (a.toList.mapM fun f=>Qpi P f.type).map .st else none
 |some (.array n e)=>if (Qkq P t).isSome then (Qpi P e).map fun c=>.st (List.replicate n c) else none
 |_=>none
def Qbd1(P:Program)(t:TypeId):Option V :=
 match Qsj P t,(P.info? t).bind (·.zero) with
 |some cs,some (.agg _)=>some (.agg (cs.map Qws))
 |some [c],some _=>some (Qws c)
 |_,_=>none
def Qbg6(P:Program)(t:TypeId):Option V :=
 match P.underlying t with
 |some (.map _ e)=>match Qsj P e,(P.info? e).bind (·.zero) with
  |some _,some (.agg _)=>none
  |some [.nils sz],some _=>some (.nils sz)
  |_,_=>none
 |_=>none
def Qld(P:Program)(t:TypeId):Option (TypeId×MK×V):=
 match P.underlying t with
 |some (.map k e)=>match Q83 P k,Qbd1 P e with
  |some kd,some z=>if (P.underlying e).isSome&&z.dat then some (k,kd,z) else none
  |_,_=>none
 |_=>none
structure Tk where
 inp:List Nat
 app:List Nat
 all:List Nat
 slf:List Nat
 lit:List Nat
 mpt:List Nat
 co:List Nat
 dl:List Nat
def tmpO:Operand->Option Nat
 |.tmp t=>some t
 |_=>none
def inL(l:List Nat):Option Nat->Bool
 |some d=>l.contains d
 |none=>false
def Qzs(P:Program)(e:TypeId)(n:Nat)(a:List (Nat×Operand)):Option (K×List Arg×Bool):=
 match Qsj P e,n,a with
 |some [_],1,[(0,.const u)]=>match Qbd0 P e u with
  |some (.d x)=>if P.cellsOf e=1 then some (.append 1 (P.bytesOf e),[.c (.nils 1),.c (.d (.lst 1 [[x]]))],true) else none
  |_=>none
 |_,_,_=>none
def Qbma(P:Program)(f:FuncId):Option Nat :=
 match P.funcs[f]? with
 | some fn => if fn.name == "overseer/minimal.appendInt" then some 0 else if fn.name == "(overseer/reach.graph).finish" then some 3 else none
 | none=>none
def nodA:List Arg->Bool
 |[]=>true
 |.t i::as=>(as.all fun b=>match b with | .t j=>!Nat.beq i j | .c _=>true)&&nodA as
 |.c _::as=>nodA as
def Qjo(P:Program)(T:Tk)(o:Oper):Option (K×List Arg×Bool) :=
 match o.op with
 | .move x=>(Qgj P o.type x).map fun a=>(.mov,[a],(Q63 x&&Qbl9 P o.type&&inL T.all o.dst)||(!Q63 x&&Qup P o.type))
 | .assign x=>(Qgj P o.type x).map fun a=>(.mov,[a],(Q63 x&&Qbl9 P o.type)||(!Q63 x&&Qup P o.type))
 | .pick c a b=>(Qe1 P (fun _=>o.type) 0 [c,a,b]).map fun as=>(.pick,as,false)
 | .alloc e=>(Qsj P e).map fun z=>(.alloc z,[],false)
 | .box e x=>(Qgj P e x).map fun a=>(.box (P.cellsOf e),[a],false)
 | .build t ps=>match P.underlying t,Qsj P t with
  | some (.struct fs),some z=>if fs.toList.all (fun f=>(P.info? f.type).isSome) then match Q3i P fs (ps.toList.map (·.1)),Qe1 P (fun i=>((ps[i]?).bind fun p=>(fs[p.1]?).map (·.type)).getD 0) 0 (ps.toList.map (·.2)) with
   | some pl,some as=>some (.build z pl,as,o.dst.isSome&&nodA as&&ps.any fun p=>Q63 p.2&&(fs[p.1]?).any fun f=>Qup P f.type)
   | _,_=>none else none
  | some (.array _ e),some z=>if (P.info? e).isNone then none else (Qe1 P (fun _=>e) 0 (ps.toList.map (·.2))).map fun as=>(.build z (ps.toList.map fun p=>(p.1*P.cellsOf e,P.cellsOf e)),as,false)
  | _,_=>none
 | .buildSlice t n ps=>match P.underlying t with
  | some (.slice e)=>if inL T.lit o.dst&&(Qzs P e n ps.toList).isSome then Qzs P e n ps.toList else if inL T.dl o.dst then (match Qsj P e,Qe1 P (fun _=>e) 0 (ps.toList.map (·.2)) with
   | some z,some as=>if n*P.cellsOf e≤65536 then some (.blit (P.cellsOf e) n z (ps.toList.map (·.1)),as,false) else none
   | _,_=>none) else match Qsj P e,Qe1 P (fun _=>e) 0 (ps.toList.map (·.2)) with
   | some z,some as=>if n*P.cellsOf e≤65536 then some (.bslice (P.cellsOf e) n z (ps.toList.map (·.1)),as,false) else none
   | _,_=>none
  | _=>none
 | .load t a=>match Qgj P 0 a with
  | some x=>if Qup P t&&inL T.app o.dst then some (.loadT,[x],false) else if (P.underlying t).isSome then some (.load (Qic P t) (P.cellsOf t),[x],false) else none
  | none=>none
 | .store t a x=>match Qgj P 0 a,Qgj P t x with
  | some p,some v=>if (P.underlying t).isSome&&o.dst.isNone then some (.store (P.cellsOf t),[p,v],Q63 x&&Qbm0 P t) else none
  | _,_=>none
 | .nilCheck x=>(Qgj P 0 x).map fun a=>(.nilchk,[a],false)
 | .binOp op xt x y _=>match Qgj P xt x,Qgj P xt y with
  | some a,some b=>match P.underlying xt with
   | some (.slice _)=>match op,y with
    | .eql,.const (.slice none 0 0)=>some (.isnil false,[a],false)
    | .neq,.const (.slice none 0 0)=>some (.isnil true,[a],false)
    | _,_=>none
   | some (.int _)|some .string=>some (.bin op false,[a,b],false)
   | some .bool=>some (.bin op true,[a,b],false)
   | some (.struct _)=>match op with
    | .eql=>(Qkq P xt).map fun ks=>(.eqa false ks,[a,b],false)
    | .neq=>(Qkq P xt).map fun ks=>(.eqa true ks,[a,b],false)
    | _=>none
   | some (.array _ _)=>match op with
    | .eql=>(Qkq P xt).map fun ks=>(.eqa false ks,[a,b],false)
    | .neq=>(Qkq P xt).map fun ks=>(.eqa true ks,[a,b],false)
    | _=>none
   | _=>none
  | _,_=>none
 | .unOp op _ x=>(Qgj P 0 x).map fun a=>(.un op,[a],false)
 | .convert s d x=>(Qgj P s x).bind fun a=>match P.underlying s,P.underlying d with
  | some (.int _),some (.int k)=>some (.conv k,[a],false)
  | some (.slice e),some .string=>match P.underlying e with
   | some (.int .u8)=>some (.bstr,[a],false)
   | _=>none
  | _,_=>none
 | .makeFunc (.func f) first cap=>if first.size=0 then (Qe1 P (fun _=>0) 0 cap.toList).map fun as=>(.func f,as,false) else none
 | .makeSlice t l c=>match P.underlying t with
  | some (.slice e)=>match Qsj P e,Qe1 P (fun _=>0) 0 [l,c] with
   | some z,some as=>some (.makes (P.cellsOf e) (P.bytesOf e) z,as,false)
   | _,_=>none
  | _=>none
 | .slice t x lo hi none=>match P.underlying t with
  | some (.slice e)=>if P.cellsOf e=0 then none else if inL T.slf o.dst&&Q63 x&&lo.isSome&&hi.isNone then (Qe1 P (fun _=>t) 0 ([x]++lo.toList)).map fun as=>(.slcT (P.cellsOf e),as,true) else match Qe1 P (fun _=>t) 0 ([x]++lo.toList++hi.toList) with
   | some as=>some (.slice (P.cellsOf e) lo.isSome hi.isSome,as,false)
   | none=>none
  | _=>none
 | .fieldAddr s x f=>match P.underlying s with
  | some (.struct fs)=>match fs[f]?,Qgj P 0 x with
   | some fd,some a=>if P.cellsOf fd.type=0 then none else some (.fld fd.offset,[a],false)
   | _,_=>none
  | _=>none
 | .field t x f=>match P.underlying t with
  | some (.struct fs)=>match fs[f]?,Qgj P t x with
   | some fd,some a=>if (P.underlying fd.type).isSome then some (.field (Qic P fd.type) fd.offset (P.cellsOf fd.type),[a],false) else none
   | _,_=>none
  | _=>none
 | .indexAddr t x i=>match P.underlying t with
  | some (.slice e)=>(Qe1 P (fun j=>if j=0 then t else 0) 0 [x,i]).bind fun as=>if P.cellsOf e=0 then none else some (.idx (P.cellsOf e),as,false)
  | some (.array n e)=>(Qe1 P (fun _=>0) 0 [x,i]).bind fun as=>if P.cellsOf e=0 then none else some (.idxarr (P.cellsOf e) n,as,false)
  | _=>none
 | .index t x i=>match P.underlying t with
  | some (.array n e)=>if (P.underlying e).isNone then none else (Qe1 P (fun j=>if j=0 then t else 0) 0 [x,i]).map fun as=>(.idxval (Qic P e) (P.cellsOf e) n,as,false)
  | some .string=>(Qe1 P (fun j=>if j=0 then t else 0) 0 [x,i]).map fun as=>(.idxs,as,false)
  | _=>none
 | .extract x i=>(Qgj P 0 x).map fun a=>(.extract i,[a],Q63 x&&Qup P o.type&&o.dst.isSome)
 | .makeMap t r=>match P.underlying t with
  | some (.map _ _)=>(Qe1 P (fun _=>0) 0 r.toList).map fun as=>(.mkmap,as,false)
  | _=>none
 | .lookup t x i c=>match Qld P t with
  | some (k,kd,z)=>(Qe1 P (fun j=>if j=0 then t else k) 0 [x,i]).map fun as=>(match Qbg6 P t with|some zn=>if !c&&inL T.mpt o.dst then .lookupT kd zn else .lookup kd c z|none=>.lookup kd c z,as,false)
  | none=>none
 | .mapUpdate t m k x | .insert t m k x=>match Qld P t,P.underlying t with
  | some (kt,kd,_),some (.map _ e)=>if o.dst.isNone then (Qe1 P (fun j=>if j=0 then t else if j=1 then kt else e) 0 [m,k,x]).map fun as=>(if inL T.mpt (tmpO x) then (.mapsetT kd,as,true) else (.mapset kd,as,false)) else none
  | _,_=>none
 | .mapEntry t m k=>match Qld P t with
  | some (kt,kd,z)=>(Qe1 P (fun j=>if j=0 then t else kt) 0 [m,k]).map fun as=>(.mapentry kd z,as,false)
  | none=>none
 | .entryStore t m s x=>match Qld P t,P.underlying t with
  | some _,some (.map _ e)=>if o.dst.isNone then (Qe1 P (fun j=>if j=0 then t else if j=1 then 0 else e) 0 [m,s,x]).map fun as=>(.entrystore,as,false) else none
  | _,_=>none
 | .call c=>match c.callee with
  | .builtin .len=>if c.args.size=1∧c.argTypes.size=1 then (Qe1 P (fun i=>c.argTypes.getD i 0) 0 c.args.toList).bind fun as=>match P.underlying (c.argTypes.getD 0 0) with
   | some (.slice _)=>some (.len,as,false)
   | some (.map _ _)=>some (.lenm,as,false)
   | some .string=>some (.lens,as,false)
   | _=>none else none
  | .builtin .append=>match P.underlying (c.argTypes.getD 0 0),P.underlying (c.argTypes.getD 1 0),c.args.size with
   | some (.slice e),some (.slice _),2=>if c.argTypes = #[c.argTypes.getD 0 0,c.argTypes.getD 0 0] then (match Qsj P e,Qe1 P (fun i=>c.argTypes.getD i 0) 0 c.args.toList with
    | some z,some (.t i::as)=>if z.length=P.cellsOf e then (if T.inp.contains i then some (.appw (P.cellsOf e) (P.bytesOf e),.t i::as,false) else some (.append (P.cellsOf e) (P.bytesOf e),.t i::as,true)) else none
    | _,_=>none) else none
   | _,_,_=>none
  | .builtin .max=>if c.args.size=2 then (Qe1 P (fun i=>c.argTypes.getD i 0) 0 c.args.toList).map fun as=>(.max2,as,false) else none
  | .builtin .min=>if c.args.size=2 then (Qe1 P (fun i=>c.argTypes.getD i 0) 0 c.args.toList).map fun as=>(.min2,as,false) else none
  | .value (.func f) => if (P.funcs[f]?).any (fun fn => fn.body.isSome && fn.name != "runtime.NumGoroutine") then (Qe1 P (fun i => c.argTypes.getD i 0) 0 c.args.toList).map fun as => (if inL T.co o.dst then .callO f ((Qbma P f).getD 0) else .call f, as, false) else none
  | .value (.tmp t)=>(Qe1 P (fun i=>c.argTypes.getD i 0) 0 c.args.toList).map fun as=>(.callv,.t t::as,false)
  | _=>none
 | _=>none
def Qbg7(nt:Nat):Option Nat->Bool
 |some d=>decide (d<nt)
 |none=>true
def Qbok(nt:Nat):Arg->Bool
 |.t i=>decide (i<nt)
 |.c v=>v.lt 0
def Qjy(P:Program)(T:Tk)(nt:Nat)(ops:Array Oper)(o:Oper):Option COp :=
 match Qjo P T o with
 |some (k,as,tk)=>
  if decide (0<nt)&&Qbg7 nt o.dst&&as.all (Qbok nt) then
   match o.guard with
   |none=>some { dst:=o.dst,kind:=k,args:=as,tk,guard:=none }
   |some (j,want)=>match (ops[j]?).bind (·.dst) with
    |some t=>some { dst:=o.dst,kind:=k,args:=as,tk,guard:=some (t,want) }
    |none=>none
  else none
 |none=>none
def Q4d(e:Edge):Bool :=
 match e.ground with
 |.textOnly _ | .gcOnly _=>false
 |_=>true
def Qvo(o:Oper):List Nat:=(o.after.toList.filter Q4d).map (·.on)
def ancs(ops:List Oper):List Nat :=
 ops.foldl (fun a o=>a++[(Qvo o).foldl (fun l e=>l ||| 2 ^ e ||| a.getD e 0) 0]) []
inductive Eff where
 |pure|read|alloc|take|write|call|callw|gen|other|takem|appw
 deriving DecidableEq
def K.eff:K->Eff
 |.mov | .pick | .build .. | .nilchk | .bin .. | .eqa .. | .un _ | .conv _ | .bstr | .blit .. | .func _ | .slice .. | .slcT _ | .fld _ | .field .. | .idx _ | .idxarr .. | .idxval .. | .extract _ | .max2 | .min2 | .lens | .idxs=>.pure
 |.load .. | .len | .append .. | .lookup .. | .lenm=>.read
 |.box _ | .alloc _ | .bslice .. | .makes .. | .mkmap=>.alloc
 |.loadT=>.take
 |.appw ..=>.appw
 |.lookupT ..=>.takem
 |.store _=>.write
 |.call _ | .callv=>.call
 |.isnil _ | .callO .. | .mapset _ | .mapsetT _ | .mapentry .. | .entrystore=>.other
def Arg.slot:Arg->List Nat
 |.t i=>[i]
 |.c _=>[]
def COp.argSlots(o:COp):List Nat:=o.args.flatMap Arg.slot
def COp.reads(o:COp):List Nat:=o.argSlots++(match o.guard with|some (t,_)=>[t]|none=>[])
def COp.soft(o:COp):List Nat:=if o.tk then o.argSlots else []
def Q3j(a b:List Nat):Bool:=a.all fun x=>!b.contains x
def COp.slotsApart(a b:COp):Bool :=
 Q3j a.dst.toList b.reads&&Q3j a.dst.toList b.dst.toList&&Q3j b.dst.toList a.reads &&
 (!a.tk || !b.tk||Q3j a.soft b.soft) &&
 (!a.tk||Q3j a.soft (match b.guard with|some (t,_)=>[t]|none=>[]))&&(!b.tk||Q3j b.soft (match a.guard with|some (t,_)=>[t]|none=>[]))
def COp.place(o:COp):Option (Nat×Nat):=
 match o.kind,o.args with
 |.load _ n,[.t p]=>some (p,max n 1)
 |.loadT,[.t p]=>some (p,1)
 |.store n,[.t p,_]=>some (p,n)
 |_,_=>none
def COp.eff(pc:Nat)(o:COp):Eff :=
 match o.kind.eff with
 |.call=>if 10<=pc then (if wrs (pc-10) o.dst=true then .callw else .call) else if 2<=pc then .pure else if pc=1 then .call else .gen
 |.alloc=>if o.dst.isSome then .alloc else .other
 |e=>e
def Qp6(pc:Nat)(a b:COp):Option (List Pair):=
 if a.slotsApart b then
  match a.eff pc,b.eff pc with
  |.pure,.appw | .appw,.pure | .pure,.pure | .pure,.read | .pure,.alloc | .pure,.take | .pure,.takem | .takem,.pure | .pure,.write | .pure,.call | .pure,.gen=>some []
  |.read,.pure | .alloc,.pure | .take,.pure | .write,.pure | .call,.pure | .gen,.pure | .pure,.callw | .callw,.pure=>some []
  |.read,.read | .read,.alloc | .alloc,.read | .alloc,.alloc | .take,.alloc | .alloc,.take | .take,.read | .read,.take | .read,.takem | .takem,.read | .alloc,.takem | .takem,.alloc=>some []
  |.call,.alloc | .call,.read | .read,.call | .callw,.alloc=>some []
  |.read,.write | .take,.take =>
   match a.place,b.place with
   |some (p,n),some (q,m)=>some [⟨p,n,q,m⟩]
   |_,_=>none
  |.appw,.read | .appw,.write =>
   match a.args,b.place with
   |[.t q,.t x],some (p,m)=>some [⟨q,0,p,m⟩,⟨x,0,p,m⟩]
   |_,_=>none
  |_,_=>none
 else none
def enum{α:Type}(l:List α):List (Nat×α):=(List.range l.length).zip l
def Qyf(ops:List COp)(i:Nat)(d:Nat)(p:Pair):Bool :=
 (enum ops).all fun(k,c)=>decide (k<i)||(!(c.dst==some p.a)&&(!(c.dst==some p.b)||d.testBit k))
def Quq(pc:Nat)(d:List Nat)(ops:List COp):Option (List Pair):=
 (enum ops).foldl (fun c(i,a)=>
  (enum ops).foldl (fun c(j,b)=>
   match c with
   |none=>none
   |some l=>if decide (i<j) && !(d.getD j 0).testBit i then
     match Qp6 pc a b with
     |some m=>if m.all (Qyf ops i (d.getD j 0)) then some (l++m) else none
     |none=>none
    else some l) c) (some [])
def Qbg8(ops:List Oper):Bool:=(enum ops).all fun(i,o)=>(Qvo o).all fun e=>decide (e<i)
def Qbg9(a:List Nat)(cs:List COp):Nat:=cs.foldl (fun m c=>match c.dst with
 |some d=>if c.kind.isCall&&(Quq (10+2 ^ d) a cs).isSome then m+2 ^ d else m
 | none=>m) 0
def Qnm(P:Program)(T:Tk)(nt:Nat)(ops:Array Oper)(b:Bool):Option CC :=
 match ops.toList.mapM (Qjy P T nt ops) with
 |some cs =>
  if b then if !Qbg8 ops.toList || !P.follows .mixedOrders||cs.any (fun c=>c.kind.isNil) then none else
   match Quq 0 (ancs ops.toList) cs with
   |some a=>some (.region cs 0 a)
   |none=>match (if Qbg9 (ancs ops.toList) cs=0 then none else Quq (10+Qbg9 (ancs ops.toList) cs) (ancs ops.toList) cs) with
    |some a=>some (.region cs (10+Qbg9 (ancs ops.toList) cs) a)
    |none=>match Quq 1 (ancs ops.toList) cs with
     |some a=>some (.region cs 1 a)
     |none=>match Quq 2 (ancs ops.toList) cs with
      |some a=>some (.region cs 2 a)
      |none=>none
  else some (.region cs 9 [])
 |none=>none
def Q2m:Code->List Nat
 |.region _ ops _=>ops.toList.filterMap fun o=>match o.op with
  |.box .. | .alloc _ | .buildSlice .. | .makeSlice .. | .makeMap ..=>o.dst
  |_=>none
 |.seq a b=>Q2m a++Q2m b
 |.cond _ a b=>Q2m a++Q2m b
 |.block _ c | .loop c | .scope c=>Q2m c
 |_=>[]
def Qbf1:Code->List Oper
 |.region _ ops _=>ops.toList
 |.seq a b=>Qbf1 a++Qbf1 b
 |.cond _ a b=>Qbf1 a++Qbf1 b
 |.block _ c | .loop c | .scope c=>Qbf1 c
 |_=>[]
def Qbf2:Operand->List Nat
 |.tmp t=>[t]
 |_=>[]
def Q7f:Code->List Nat
 |.region _ ops draw=>if draw then ops.toList.filterMap fun o=>match o.op with
  |.buildSlice _ 1 d=>match d.toList with
   |[(0,.const _)]=>o.dst
   |_=>none
  |_=>none else []
 |.seq a b=>Q7f a++Q7f b
 |.cond _ a b=>Q7f a++Q7f b
 |.block _ c | .loop c | .scope c=>Q7f c
 |_=>[]
def Q2n:Code->List Nat
 |.region _ ops draw=>if draw then ops.toList.filterMap fun o=>match o.op,o.dst with
  |.buildSlice ..,some d=>if ops.toList.any fun u=>match u.op with
    |.call { callee:=.value _,args,.. }=>args.toList.any fun x=>match x with
     |.tmp t=>t==d
     |_=>false
    |_=>false
   then some d else none
  |_,_=>none else []
 |.seq a b=>Q2n a++Q2n b
 |.cond _ a b=>Q2n a++Q2n b
 |.block _ c | .loop c | .scope c=>Q2n c
 |_=>[]
def Qbmb(P:Program)(c:Code):Tk :=
 let os:=Qbf1 c;let own:=os.flatMap fun o=>match o.op,o.dst with
  |.call { callee:=.value (.func f),args,.. },some d=>match Qbma P f with
   |some i=>((args.toList.drop i).take 1).flatMap fun x=>match x with
    |.tmp t=>[(d,t)]
    |_=>[]
   |none=>[]
  |_,_=>[]
 let app:=os.flatMap fun o=>match o.op with
  |.call { callee:=.builtin .append,args,.. }=>(args.toList.take 1).flatMap Qbf2
  |_=>[]
 let slf:=os.filterMap fun o=>match o.op,o.dst with
  |.slice _ (.tmp t) (some _) none none,some d =>
   if os.any fun a=>match a.op,a.dst with
    |.assign (.tmp b),some v=>b==d&&(v==t||os.any fun m=>match m.op,m.dst with | .move (.tmp v'),some t'=>v'==v&&t'==t|_,_=>false)
    |_,_=>false
   then some (d,t) else none
  |_,_=>none
 let mpt:=os.flatMap fun o=>match o.op,o.dst with
  |.call { callee:=.builtin .append,args,.. },some t =>
   match (args.toList.take 1).flatMap Qbf2 with
   |[d]=>if (os.any fun l=>match l.op,l.dst with | .lookup _ _ _ false,some b=>b==d|_,_=>false)&&(os.any fun u=>match u.op with | .mapUpdate _ _ _ (.tmp t') | .insert _ _ _ (.tmp t')=>t'==t|_=>false) then [d,t] else []
   |_=>[]
  |_,_=>[]
 let inp:=os.flatMap fun o=>match o.op with
  |.call { callee:=.builtin .append,args,.. }=>((args.toList.take 1).flatMap Qbf2).filter fun d=>os.any fun l=>match l.op,l.dst with
   |.slice _ (.tmp _) none (some _) none,some b=>b==d
   |_,_=>false
  |_=>[]
 { inp,app:=app++own.map (·.2),mpt,co:=own.map (·.1),lit:=Q7f c,dl:=Q2n c,slf:=slf.map (·.1),all:=app++own.map (·.2)++slf.map (·.2)++os.flatMap fun o=>match o.op with
   |.assign x=>Qbf2 x
   |.store _ _ x=>Qbf2 x
   |.box _ x=>Qbf2 x
   |_=>[] }
def Qbha:Option CC->Option CC
 |some c=>some c
 |none=>some .dead
def Qwt(P:Program)(T:Tk)(nt:Nat):Code->Option CC
 |.skip=>some .skip
 |.region _ ops draw=>Qbha (Qnm P T nt ops draw)
 |.seq a b=>match Qwt P T nt a,Qwt P T nt b with
  |some x,some y=>some (.seq x y)
  |_,_=>none
 |.cond c a b=>match Qgj P 0 c,Qwt P T nt a,Qwt P T nt b with
  |some x,some y,some z=>some (.cond x y z)
  |_,_,_=>none
 |.block id c=>(Qwt P T nt c).map (.block id)
 |.loop c=>(Qwt P T nt c).map (.loop (Q2m c))
 |.exit id=>some (.exit id)
 |.ret=>some .ret
 |_=>some .dead
def Q4u(P:Program)(nt:Nat):ResultVar->Option Res
 |.tmp i=>if i<nt then some (.t i) else none
 |.cell p ty=>if p<nt/\(P.underlying ty).isSome=true then some (.cell p (Qic P ty) (P.cellsOf ty)) else none
def Q4v(fn : Func) : Bool := fn.name != "runtime.NumGoroutine"
def Qo(P:Program)(f:FuncId):Option CFn :=
 match P.funcs[f]? with
 |some fn=>match fn.body with
  |some c=>match Qwt P (Qbmb P c) fn.ntmps c,fn.results.toList.mapM (Q4u P fn.ntmps) with
   |some b,some rs=>if (Qph rs).Nodup/\fn.params.size+fn.nfree<=fn.ntmps/\Q4v fn=true then some { np:=fn.params.size+fn.nfree,nt:=fn.ntmps,res:=rs,body:=b } else none
   |_,_=>none
  |none=>none
 |none=>none
end Go.Abs
end
section
namespace Go.Abs
inductive Owner where
 |free
 |ext
 |slot (t:Nat) (p:List Nat)
 |res (p:List Nat)
 |cell (k c:Nat)
 |box (k:Nat)
 |hid (n t:Nat) (p:List Nat)
def Prot:Owner->Prop
 |.free=>True
 |.ext=>True
 |.hid ..=>True
 |_=>False
def Owner.sub:Owner->Nat->Owner
 |.slot t p,i=>.slot t (i::p)
 |.res p,i=>.res (i::p)
 |.hid n t p,i=>.hid n t (i::p)
 |.box k,i=>.cell k i
 |o,_=>o
structure G where
 box:Nat->Nat
 imm:Nat->Nat->Prop
 own:Nat->Owner
def Qzt(w:World)(b:Nat):Option (Array MapEntry×Nat):=match w.heap[b]? with
 |some (.map es c)=>some (es,c)
 |_=>none
theorem Qbky{w:World}{b:Nat}{es:Array MapEntry}{c:Nat}(h:w.heap[b]? = some (.map es c)):Qzt w b=some (es,c):=by unfold Qzt;rw[h]
theorem Q84{w:World}{b:Nat}{es:Array MapEntry}{c:Nat}(h:Qzt w b=some (es,c)):w.heap[b]? = some (.map es c):=by
 grind [Qzt]
def Q3k(w:World)(b o:Nat):Option Value×Option (Array MapEntry×Nat):=(w.cell? ⟨b,o,none⟩,Qzt w b)
theorem Qew{w w' : World}{b o:Nat}(h:w'.heap[b]? = w.heap[b]?):Q3k w' b o=Q3k w b o:=by unfold Q3k Qzt World.cell?;rw[h]
theorem Q7g{w w' : World}{b o:Nat}{c i : Array Value}{e f : TypeId}{p a : Nat×Nat}(h:w.heap[b]? = some (.cells c e p))(d : w'.heap[b]? = some (.cells i f a))(hc:w'.cell? ⟨b,o,none⟩=w.cell? ⟨b,o,none⟩):Q3k w' b o=Q3k w b o:=by
 unfold Q3k Qzt;rw[hc,h,d]
def Qwu(w:World)(b o:Nat):Prop:=(w.cell? ⟨b,o,none⟩).isSome=true\/(Qzt w b).isSome=true
mutual
def RD(imm:Nat->Nat->Prop)(w:World):D->Value->Prop
 |.int k n,v=>v = .int k n
 |.bool b,v=>v = .bool b
 |.str s,v=>v = .string s
 |.lst sz l,v=>∃a d,v = .slice a l.length d/\l.length<=d/\(l=[]\/∃b o,a=some ⟨b,o,none⟩/\RDL imm w sz b l o)
 |.mp es c,v=>∃b,v = .map (some b)/\imm b 0/\Qzt w b=some (es.toArray,c)
def RDc(imm:Nat->Nat->Prop)(w:World)(b:Nat):List D->Nat->Prop
 |[],_=>True
 |y::ys,o=>imm b o/\(∃u,w.cell? ⟨b,o,none⟩=some u/\RD imm w y u)/\RDc imm w b ys (o+1)
def RDL(imm:Nat->Nat->Prop)(w:World)(sz b:Nat):List (List D)->Nat->Prop
 |[],_=>True
 |x::xs,o=>x.length=sz/\RDc imm w b x o/\RDL imm w sz b xs (o+sz)
end
def immf(g:G)(w:World):Nat->Nat->Prop:=fun b o=>g.imm b o/\g.own b = .ext/\Qwu w b o
mutual
def RV(g:G)(w:World):V->Owner->Value->Prop
 |.und,_,_=>True
 |.d x,_,v=>RD g.imm w x v
 |.agg cs,ℓ,v=>∃vs:List Value,v = .agg vs.toArray/\RVs g w cs ℓ 0 vs/\∀u∈vs,u.oneCell'=true
 |.tup cs,ℓ,v=>∃vs:List Value,v = .tuple vs.toArray/\RVs g w cs ℓ 0 vs
 |.own sz l,ℓ,v=>((∃a,v = .slice a 0 0)/\l=[])\/∃b h c e,v = .slice (some ⟨b,0,none⟩) l.length h/\g.own b=ℓ /\
   w.heap[b]? = some (.cells c e (0,0))/\l.length<=h/\h<=maxLen/\(c.size=h*sz/\∀u∈c.toList,u.oneCell'=true)/\(∀o,g.imm b o↔o<l.length*sz)/\RDL g.imm w sz b l 0
 |.ownT sz l,ℓ,v=>((∃a,v = .slice a 0 0)/\l=[])\/∃b j h c e,v = .slice (some ⟨b,j,none⟩) l.length h/\g.own b=ℓ /\
   w.heap[b]? = some (.cells c e (0,0))/\l.length<=h/\h<=maxLen/\(c.size=j+h*sz/\∀u∈c.toList,u.oneCell'=true)/\(∀o,g.imm b o↔o<j+l.length*sz)/\RDL g.imm w sz b l j
 |.ptr k off,_,v=>v = .pointer (some ⟨g.box k,off,none⟩)
 |.nilp,_,v=>v = .pointer none
 |.f x,_,v=>RD (immf g w) w x v
 |.nils _,_,v=>∃a,v = .slice a 0 0
 |.cref cs,_,v=>∃b o,v = .pointer (some ⟨b,o,none⟩)/\RDc g.imm w b cs o
 |.sl _ k off len h,_,v=>v = .slice (some ⟨g.box k,off,none⟩) len h
 |.clo f i,_,v=>∃vs:List Value,v = .func (.func f) #[] vs.toArray/\RVs g w i .ext 0 vs
 |.mp k,_,v=>v = .map (some (g.box k))
def RVs(g:G)(w:World):List V->Owner->Nat->List Value->Prop
 |[],_,_,vs=>vs=[]
 |c::cs,ℓ,i,vs=>∃u us,vs=u::us/\RV g w c (ℓ.sub i) u/\RVs g w cs ℓ (i+1) us
end
structure Imm(imm imm' : Nat->Nat->Prop)(w w' : World):Prop where
 mono:∀b o,imm b o->imm' b o
 look:∀b o,imm b o->Q3k w' b o=Q3k w b o
theorem Imm.cell{imm imm' : Nat->Nat->Prop}{w w' : World}(h:Imm imm imm' w w')(b o:Nat)(a:imm b o):w'.cell? ⟨b,o,none⟩=w.cell? ⟨b,o,none⟩:=congrArg Prod.fst (h.look b o a)
theorem Imm.mp{imm imm' : Nat->Nat->Prop}{w w' : World}(h:Imm imm imm' w w')(b o:Nat)(a:imm b o):Qzt w' b=Qzt w b:=congrArg Prod.snd (h.look b o a)
theorem Imm.there{imm imm' : Nat->Nat->Prop}{w w' : World}(h:Imm imm imm' w w')(b o:Nat)(a:imm b o)(c:Qwu w b o):Qwu w' b o:=by
 unfold Qwu at *;rw[h.cell b o a,h.mp b o a];exact c
section
variable{imm imm' : Nat->Nat->Prop}{w w' : World}
mutual
theorem Qgk(h:Imm imm imm' w w'):∀(x:D)(v:Value),RD imm w x v->RD imm' w' x v
 |.int k n,v,d=>by simpa[RD] using d
 |.bool b,v,d=>by simpa[RD] using d
 |.str s,v,d=>by simpa[RD] using d
 |.lst sz l,v,d=>by
  simp only[RD] at d |-;obtain⟨a,f,rfl,hc,e⟩:=d;refine⟨a,f,rfl,hc,?_⟩;rcases e with e|⟨b,o,ha,e⟩
  ·exact .inl e
  ·exact .inr ⟨b,o,ha,RDL_mono h sz b l o e⟩
 |.mp es c,v,d=>by
  simp only[RD] at d |-;obtain⟨b,rfl,i,j⟩:=d;exact⟨b,rfl,h.mono b 0 i,(h.mp b 0 i).trans j⟩
theorem Q0y(h:Imm imm imm' w w')(b:Nat):∀(ys:List D)(o:Nat),RDc imm w b ys o->RDc imm' w' b ys o
 |[],_,_=>by simp[RDc]
 |y::ys,o,a=>by
  simp only[RDc] at a |-;obtain⟨c,⟨u,e,d⟩,hr⟩:=a;exact⟨h.mono b o c,⟨u,(h.cell b o c).trans e,Qgk h y u d⟩,Q0y h b ys (o+1) hr⟩
theorem RDL_mono(h:Imm imm imm' w w')(sz b:Nat):∀(l:List (List D))(o:Nat),RDL imm w sz b l o->RDL imm' w' sz b l o
 |[],_,_=>by simp[RDL]
 |x::xs,o,a=>by
  simp only[RDL] at a |-;exact⟨a.1,Q0y h b x o a.2.1,RDL_mono h sz b xs (o+sz) a.2.2⟩
end
end
mutual
theorem Qbac{imm:Nat->Nat->Prop}{w:World}:∀(x:D)(u:Value),RD imm w x u->RD (fun b o=>imm b o/\Qwu w b o) w x u
 |.int k n,v,h=>by simpa[RD] using h
 |.bool b,v,h=>by simpa[RD] using h
 |.str s,v,h=>by simpa[RD] using h
 |.lst sz l,v,h=>by
  simp only[RD] at h |-;obtain⟨a,i,f,e,d⟩:=h;refine⟨a,i,f,e,?_⟩;rcases d with d|⟨b,o,d,h4⟩
  ·exact .inl d
  ·exact .inr ⟨b,o,d,RDL_strong sz b l o h4⟩
 |.mp es c,v,h=>by
  simp only[RD] at h |-;obtain⟨b,f,e,d⟩:=h;exact⟨b,f,⟨e,.inr (by rw[d];rfl)⟩,d⟩
theorem Q7h{imm:Nat->Nat->Prop}{w:World}(b:Nat):∀(ys:List D)(o:Nat),RDc imm w b ys o->RDc (fun b o=>imm b o/\Qwu w b o) w b ys o
 |[],o,_=>by simp[RDc]
 |y::ys,o,h=>by
  simp only[RDc] at h |-;obtain⟨e,⟨u,a,d⟩,c⟩:=h;exact⟨⟨e,.inl (by rw[a];rfl)⟩,⟨u,a,Qbac y u d⟩,Q7h b ys (o+1) c⟩
theorem RDL_strong{imm:Nat->Nat->Prop}{w:World}(sz b:Nat):∀(l:List (List D))(o:Nat),RDL imm w sz b l o->RDL (fun b o=>imm b o/\Qwu w b o) w sz b l o
 |[],o,_=>by simp[RDL]
 |x::xs,o,h=>by
  simp only[RDL] at h |-;exact⟨h.1,Q7h b x o h.2.1,RDL_strong sz b xs (o+sz) h.2.2⟩
end
mutual
def V.on(p:Nat->Prop):V->Prop
 |.ptr k _=>p k
 |.sl _ k _ _ _=>p k
 |.mp k=>p k
 |.agg cs=>V.ons p cs
 |.tup cs=>V.ons p cs
 |.clo _ cs=>V.ons p cs
 |_=>True
def V.ons(p:Nat->Prop):List V->Prop
 |[]=>True
 |v::vs=>v.on p/\V.ons p vs
end
mutual
theorem Qf8{p q:Nat->Prop}(h:∀k,p k->q k):∀v:V,v.on p->v.on q
 |.ptr k _,a=>h k a
 |.sl _ k _ _ _,a=>h k a
 |.mp k,a=>h k a
 |.agg cs,a=>ons_mono h cs a
 |.tup cs,a=>ons_mono h cs a
 |.clo _ cs,a=>ons_mono h cs a
 |.und,_=>trivial
 |.d _,_=>trivial
 |.own ..,_=>trivial
 |.ownT ..,_=>trivial
 |.nilp,_=>trivial
 |.f _,_=>trivial
 |.nils _,_=>trivial
 |.cref _,_=>trivial
theorem ons_mono{p q:Nat->Prop}(h:∀k,p k->q k):∀vs:List V,V.ons p vs->V.ons q vs
 |[],_=>trivial
 |v::vs,a=>⟨Qf8 h v a.1,ons_mono h vs a.2⟩
end
theorem Qiq{p:Nat->Prop}:∀{vs:List V},V.ons p vs↔∀v∈vs,v.on p
 |[]=>by simp[V.ons]
 |v::vs=>by simp[V.ons,Qiq (vs:=vs)]
mutual
theorem Qbkz{n:Nat}:∀v:V,v.lt n=true->v.on (· < n)
 |.ptr k _,a=>by simpa[V.lt,V.on] using a
 |.sl _ k _ _ _,a=>by simpa[V.lt,V.on] using a
 |.mp k,a=>by simpa[V.lt,V.on] using a
 |.agg cs,a=>ons_lt cs (by simpa[V.lt] using a)
 |.tup cs,a=>ons_lt cs (by simpa[V.lt] using a)
 |.clo _ cs,a=>ons_lt cs (by simpa[V.lt] using a)
 |.und,_=>trivial
 |.d _,_=>trivial
 |.own ..,_=>trivial
 |.ownT ..,_=>trivial
 |.nilp,_=>trivial
 |.f _,_=>trivial
 |.nils _,_=>trivial
 |.cref _,_=>trivial
theorem ons_lt{n:Nat}:∀vs:List V,V.lt.go n vs=true->V.ons (· < n) vs
 |[],_=>trivial
 |v::vs,a=>by
  simp only[V.lt.go,Zc] at a;exact⟨Qbkz v a.1,ons_lt vs a.2⟩
end
mutual
theorem Qd3{p:Nat->Prop}:∀v:V,v.dem.on p↔v.on p
 |.agg cs=>by simp only[V.dem,V.on];exact ons_dems cs
 |.tup cs=>by simp only[V.dem,V.on];exact ons_dems cs
 |.own ..=>by simp[V.dem,V.on]
 |.ownT ..=>by simp[V.dem,V.on]
 |.ptr ..=>Zk
 |.sl ..=>Zk
 |.mp _=>Zk
 |.clo ..=>Zk
 |.und=>Zk
 |.d _=>Zk
 |.nilp=>Zk
 |.f _=>Zk
 |.nils _=>Zk
 |.cref _=>Zk
theorem ons_dems{p:Nat->Prop}:∀vs:List V,V.ons p (V.dems vs)↔V.ons p vs
 |[]=>Zk
 |v::vs=>by simp only[V.dems,V.ons,Qd3 v,ons_dems vs]
end
structure Kept(g:G)(w:World)(g' : G)(w' : World)(p:Nat->Prop)(keep:Owner->Prop):Prop where
 imm:Imm g.imm g'.imm w w'
 box:∀k,p k->g'.box k=g.box k
 own:∀b,keep (g.own b)->b<w.heap.size->g'.own b=g.own b/\w'.heap[b]? = w.heap[b]? /\ ∀o,g'.imm b o↔g.imm b o
theorem Qbk0{w:World}{b o:Nat}(h:Qwu w b o):b<w.heap.size:=by
 rcases h with h|h
 ·grind [Option.isSome_iff_exists,Go.World.cell?,Array.getElem?_eq_some_iff]
 ·obtain⟨v,d⟩:=Zab.1 h;obtain⟨a,c⟩:=v;exact (Zaf.1 (Q84 d)).1
theorem Qbd2{g g' : G}{w:World}(h:∀b o,g.imm b o->g.own b = .ext->g'.imm b o/\g'.own b = .ext):Imm (immf g w) (immf g' w) w w :=
 ⟨fun b o ⟨h1,h2,h3⟩=>⟨(h b o h1 h2).1,(h b o h1 h2).2,h3⟩,fun _ _ _=>rfl⟩
section
variable{g g' : G}{w w' : World}{p:Nat->Prop}{keep:Owner->Prop}
theorem Qbhb(h:Kept g w g' w' p keep)(e:keep .ext):Imm (immf g w) (immf g' w') w w' :=
 ⟨fun b o ⟨a,h2,h3⟩=>by
  obtain⟨d,_,c⟩:=h.own b (by rw[h2];exact e) (Qbk0 h3);exact⟨(c o).2 a,d.trans h2,h.imm.there b o a h3⟩,fun b o a=>h.imm.look b o a.1⟩
mutual
theorem Qdq(h:Kept g w g' w' p keep)(r:∀ℓ i,keep ℓ->keep (ℓ.sub i))(m:keep .ext):
  ∀(v:V)(ℓ:Owner)(u:Value),keep ℓ->v.on p->RV g w v ℓ u->RV g' w' v ℓ u
 |.und,_,_,_,_,_=>by simp[RV]
 |.d x,_,u,_,_,a=>by simp only[RV] at a |-;exact Qgk h.imm x u a
 |.agg cs,ℓ,u,hk,j,a=>by
  simp only[RV] at a |-;obtain⟨vs,rfl,a,n⟩:=a;exact⟨vs,rfl,RVs_mono h r m cs ℓ 0 vs hk j a,n⟩
 |.tup cs,ℓ,u,hk,j,a=>by
  simp only[RV] at a |-;obtain⟨vs,rfl,a⟩:=a;exact⟨vs,rfl,RVs_mono h r m cs ℓ 0 vs hk j a⟩
 |.own sz l,ℓ,u,hk,_,a=>by
  simp only[RV] at a |-;rcases a with a|⟨b,cap,vals,e,rfl,hb,hh,hc,hm,hz,hi,hr⟩
  ·exact .inl a
  ·have c:b<w.heap.size:=by
    rcases Zak b w.heap.size with c|hge
    ·exact c
    ·simp[Array.getElem?_eq_none hge] at hh
   obtain⟨n,t,s⟩:=h.own b (hb ▸ hk) c;exact .inr ⟨b,cap,vals,e,rfl,n.trans hb,t.trans hh,hc,hm,hz,fun o=>(s o).trans (hi o),RDL_mono h.imm sz b l 0 hr⟩
 |.ownT sz l,ℓ,u,hk,_,a=>by
  simp only[RV] at a |-;rcases a with a|⟨b,o0,cap,vals,e,rfl,hb,hh,hc,hm,hz,hi,hr⟩
  ·exact .inl a
  ·have c:b<w.heap.size:=by
    rcases Zak b w.heap.size with c|hge
    ·exact c
    ·simp[Array.getElem?_eq_none hge] at hh
   obtain⟨n,t,s⟩:=h.own b (hb ▸ hk) c;exact .inr ⟨b,o0,cap,vals,e,rfl,n.trans hb,t.trans hh,hc,hm,hz,fun o=>(s o).trans (hi o),RDL_mono h.imm sz b l o0 hr⟩
 |.ptr k off,_,u,_,j,a=>by
  simp only[RV] at a |-;rw[h.box k j];exact a
 |.nilp,_,_,_,_,a=>by simpa[RV] using a
 |.f x,_,u,_,_,a=>by simp only[RV] at a |-;exact Qgk (Qbhb h m) x u a
 |.nils _,_,_,_,_,a=>by simpa[RV] using a
 |.cref cs,_,u,_,_,a=>by
  simp only[RV] at a |-;obtain⟨b,o,rfl,a⟩:=a;exact⟨b,o,rfl,Q0y h.imm b cs o a⟩
 |.sl sz k off len cap,_,u,_,j,a=>by
  simp only[RV] at a |-;rw[h.box k j];exact a
 |.clo f q,_,u,_,j,a=>by
  simp only[RV] at a |-;obtain⟨vs,rfl,a⟩:=a;exact⟨vs,rfl,RVs_mono h r m q .ext 0 vs m j a⟩
 |.mp k,_,u,_,j,a=>by
  simp only[RV] at a |-;rw[h.box k j];exact a
theorem RVs_mono(h:Kept g w g' w' p keep)(b:∀ℓ i,keep ℓ->keep (ℓ.sub i))(e:keep .ext):
  ∀(cs:List V)(ℓ:Owner)(i:Nat)(us:List Value),keep ℓ->V.ons p cs->RVs g w cs ℓ i us->RVs g' w' cs ℓ i us
 |[],_,_,_,_,_,a=>by simpa[RVs] using a
 |c::cs,ℓ,i,us,hk,d,a=>by
  simp only[RVs] at a |-;obtain⟨u,us,rfl,j,f⟩:=a;exact⟨u,us,rfl,Qdq h b e c (ℓ.sub i) u (b ℓ i hk) d.1 j,RVs_mono h b e cs ℓ (i+1) us hk d.2 f⟩
end
end
theorem Qbct{g:G}{w:World}{sz:Nat}{l:List (List D)}{ℓ:Owner}{u:Value}(h:RV g w (.own sz l) ℓ u):RV g w (.ownT sz l) ℓ u:=by
 simp only[RV] at h |-;rcases h with h|⟨b,cap,vals,e,h1,h2,h3,h4,h5,h6,h7,h8⟩
 ·exact .inl h
 ·exact .inr ⟨b,0,cap,vals,e,h1,h2,h3,h4,h5,by simpa using h6,by simpa using h7,h8⟩
theorem Qyg{g:G}{w:World}{sz:Nat}{l:List (List D)}{ℓ:Owner}{u:Value}(h:RV g w (.ownT sz l) ℓ u):RD g.imm w (.lst sz l) u:=by
 simp only[RV] at h;simp only[RD]
 grind
theorem Qkx{g:G}{w:World}{sz:Nat}{l:List (List D)}{ℓ:Owner}{u:Value}(h:RV g w (.own sz l) ℓ u):RD g.imm w (.lst sz l) u:=by
 simp only[RV] at h;simp only[RD]
 grind
mutual
theorem Qie{g:G}{w:World}:∀(v:V)(ℓ a : Owner)(u:Value),RV g w v ℓ u->RV g w v.dem a u
 |.und,_,_,_,_=>by simp[V.dem,RV]
 |.d x,_,_,u,h=>by simpa[V.dem,RV] using h
 |.agg cs,ℓ,a,u,h=>by
  simp only[V.dem,RV] at h |-;obtain⟨vs,rfl,h,c⟩:=h;exact⟨vs,rfl,RVs_dem cs ℓ a 0 0 vs h,c⟩
 |.tup cs,ℓ,a,u,h=>by
  simp only[V.dem,RV] at h |-;obtain⟨vs,rfl,h⟩:=h;exact⟨vs,rfl,RVs_dem cs ℓ a 0 0 vs h⟩
 |.own sz l,ℓ,a,u,h=>by
  have:=Qkx h;simpa[V.dem,RV] using this
 |.ownT sz l,ℓ,a,u,h=>by
  have:=Qyg h;simpa[V.dem,RV] using this
 |.ptr k off,_,_,_,h=>by simpa[V.dem,RV] using h
 |.nilp,_,_,_,h=>by simpa[V.dem,RV] using h
 |.f _,_,_,_,h=>by simpa[V.dem,RV] using h
 |.nils _,_,_,_,h=>by simpa[V.dem,RV] using h
 |.cref cs,_,_,_,h=>by simpa[V.dem,RV] using h
 |.sl sz k off len cap,_,_,_,h=>by simpa[V.dem,RV] using h
 |.clo f b,_,_,_,h=>by simpa[V.dem,RV] using h
 |.mp k,_,_,_,h=>by simpa[V.dem,RV] using h
theorem RVs_dem{g:G}{w:World}:∀(cs:List V)(ℓ a : Owner)(i b : Nat)(us:List Value),RVs g w cs ℓ i us->RVs g w (V.dems cs) a b us
 |[],_,_,_,_,_,h=>by simpa[V.dems,RVs] using h
 |c::cs,ℓ,a,i,b,us,h=>by
  simp only[V.dems,RVs] at h |-;obtain⟨u,us,rfl,e,d⟩:=h;exact⟨u,us,rfl,Qie c (ℓ.sub i) (a.sub b) u e,RVs_dem cs ℓ a (i+1) (b+1) us d⟩
end
mutual
theorem Qd4:∀v:V,v.dem.dem=v.dem
 |.und=>rfl
 |.d _=>rfl
 |.agg cs=>by simp[V.dem,dems_dems cs]
 |.tup cs=>by simp[V.dem,dems_dems cs]
 |.own _ _=>rfl
 |.ownT _ _=>rfl
 |.ptr _ _=>rfl
 |.nilp=>rfl
 |.f _=>rfl
 |.nils _=>rfl
 |.cref _=>rfl
 |.sl ..=>rfl
 |.clo _ _=>rfl
 |.mp _=>rfl
theorem dems_dems:∀vs:List V,V.dems (V.dems vs)=V.dems vs
 |[]=>rfl
 |v::vs=>by simp[V.dems,Qd4 v,dems_dems vs]
end
theorem Qbm1(v:V):v.dem.top=v.dem:=by cases v<;>first|rfl|exact Qd4 _
theorem Q4w:∀vs:List V,own1 (V.dems vs)=V.dems vs
 |[]=>rfl
 |v::vs=>by simp only[V.dems,own1,Qbm1,Q4w vs]
theorem Q4x{vs:List V}(h:∀v∈vs,v.dem=v):own1 vs=vs:=by
 have:V.dems vs=vs:=by
  induction vs with
  |nil=>rfl
  |cons v vs a=>grind [V.dems]
 rw[<-this];exact Q4w vs
theorem Q0z:∀vs:List V,own1 vs=vs.map V.top
 |[]=>rfl
 |v::vs=>by simp only[own1,Q0z vs,Zb]
theorem Q7i{p:Nat->Prop}(v:V):v.top.on p↔v.on p:=by cases v<;>first|exact Zk|exact Qd3 _
theorem Qbad{v:V}(h:v.dem=v):v.topS=v:=by
 cases v<;>first|rfl|exact h|skip
 grind [V.dem,V.agg.injEq,V.topS,Q4w]
theorem Q85{p:Nat->Prop}:∀vs:List V,V.ons p (own1 vs)↔V.ons p vs
 |[]=>Zk
 |v::vs=>by simp only[own1,V.ons,Q7i v,Q85 vs]
theorem Qbcu{p:Nat->Prop}(v:V):v.topS.on p↔v.on p:=by
 cases v<;>first|exact Zk|skip
 all_goals grind [V.topS,V.on,Q85,V.dem,ons_dems]
def Flat(v:V):Prop:=v.dem=v
theorem Qmf{g:G}{w:World}{v:V}{ℓ a : Owner}{u:Value}(b:Flat v)(h:RV g w v ℓ u):RV g w v a u:=by
 have:=Qie v ℓ a u h
 rwa [b] at this
theorem Qc8{g:G}{w:World}:∀(cs:List V)(ℓ:Owner)(i:Nat)(us:List Value),
  RVs g w cs ℓ i us↔us.length=cs.length/\∀j c u,cs[j]? = some c->us[j]? = some u->RV g w c (ℓ.sub (i+j)) u
 |[],ℓ,i,us=>by
  simp only[RVs,Zaj];constructor
  ·rintro rfl;exact⟨rfl,by simp⟩
  ·rintro⟨h,_⟩;exact Zan h
 |c::cs,ℓ,i,us=>by
  simp only[RVs];constructor
  ·rintro⟨u,us,rfl,k,e⟩;obtain⟨b,e⟩:=(Qc8 cs ℓ (i+1) us).1 e;refine⟨by simp[b],fun j f d hc a=>?_⟩;cases j with
   |zero=>simp at hc a;subst hc a;exact k
   |succ j =>
    have:=e j f d (by simpa using hc) (by simpa using a)
    rwa [show i+1+j=i+(j+1) from by omega] at this
  ·rintro⟨b,h⟩;cases us with
   |nil=>simp at b
   |cons u us =>
    refine⟨u,us,rfl,by simpa using h 0 c u rfl rfl,(Qc8 cs ℓ (i+1) us).2 ⟨by simpa using b,fun j f d hc a=>?_⟩⟩;have:=h (j+1) f d (by simpa using hc) (by simpa using a)
    grind
theorem Qp0{g:G}{w:World}{cs:List V}{ℓ:Owner}{i:Nat}{us:List Value}(h:RVs g w cs ℓ i us):us.length=cs.length:=((Qc8 cs ℓ i us).1 h).1
def RM(g:G)(w:World)(k:Nat):List (V×V×Nat)->List MapEntry->Prop
 |[],es=>es=[]
 |x::r,es=>∃(e:MapEntry)(t:List MapEntry),es=e::t/\(x.1.dat=true/\RV g w x.1 .ext e.key)/\(x.2.1.mv=true/\RV g w x.2.1 (.cell k x.2.2) e.val)/\e.born=x.2.2/\RM g w k r t
def BR(g:G)(w:World)(k:Nat):Bx->Prop
 |.cells cs=>∃(a:List Value)(e:TypeId),w.heap[g.box k]? = some (.cells a.toArray e (0,0))/\RVs g w cs (.box k) 0 a/\∀u∈a,u.oneCell'=true
 |.mp es c=>∃b:List MapEntry,w.heap[g.box k]? = some (.map b.toArray c)/\RM g w k es b
theorem Qbm2{p:Nat->Prop}:∀{v:V},v.dat1=true->v.on p:=by
 intro v h;cases v<;>simp_all[V.dat1,V.on]
theorem Qwv{p:Nat->Prop}{v:V}(h:v.dat=true):v.on p:=by
 cases v with
 |agg cs =>
  grind [V.dat,List.all_eq_true,V.on,Qiq,Qbm2]
 |_=>simp_all[V.dat,V.on]
theorem Qbk1{v:V}(h:v.dat1=true):v.dem=v:=by
 cases v<;>simp_all[V.dat1,V.dem]
theorem Qbae:∀{cs:List V},cs.all V.dat1=true->V.dems cs=cs
 |[],_=>rfl
 |c::cs,h=>by
  simp_all[Zbc,Zc,V.dems,Qbk1,Qbae]
theorem Qbk2{v:V}(h:v.dat=true):Flat v:=by
 unfold Flat;cases v with
 |agg cs=>grind [V.dat,V.dem,Qbae]
 |_=>simp_all[V.dat,V.dem]
theorem Qww{v:V}(h:v.dat=true):v.dem=v:=Qbk2 h
theorem Qrx{v:V}(h:v.mv=true):v.dat=true\/∃sz l,v = .own sz l:=by
 cases v<;>first|exact .inr ⟨_,_,rfl⟩|exact .inl h
theorem Qzh{v:V}(h:v.dat=true):v.mv=true:=by
 cases v<;>first|rfl|exact h
theorem Qbhc{v:V}(h:v.mv=true):v.dem.dat=true:=by
 rcases Qrx h with h|⟨sz,l,rfl⟩
 ·rw[Qww h];exact h
 ·rfl
theorem Qbpk{p:Nat->Prop}{v:V}(h:v.mv=true):v.on p:=by
 rcases Qrx h with h|⟨sz,l,rfl⟩
 ·exact Qwv h
 ·simp[V.on]
theorem Qbmc{g g' : G}{w w' : World}{k:Nat}(b:∀(v:V)(u:Value),v.dat=true->RV g w v .ext u->RV g' w' v .ext u)(h:∀(v:V)(i:Nat)(u:Value),v.mv=true->RV g w v (.cell k i) u->RV g' w' v (.cell k i) u):∀{es:List (V×V×Nat)}{a:List MapEntry},RM g w k es a->RM g' w' k es a
 |[],_,hr=>hr
 |x::r,_,hr=>by
  simp only[RM] at hr |-;obtain⟨e,t,rfl,⟨d,m⟩,⟨c,l⟩,j,f⟩:=hr;exact⟨e,t,rfl,⟨d,b _ _ d m⟩,⟨c,h _ _ _ c l⟩,j,Qbmc b h f⟩
theorem Qbm3{g g' : G}{w w' : World}(h:Imm g.imm g'.imm w w'){v:V}(b:v.dat1=true){ℓ a : Owner}{u:Value}:RV g w v ℓ u->RV g' w' v a u:=by
 cases v<;>simp_all[V.dat1,RV];exact Qgk h _ _
theorem Qbd3{g g' : G}{w w' : World}(h:Imm g.imm g'.imm w w'):∀{cs:List V},cs.all V.dat1=true->∀{ℓ a : Owner}{i d : Nat}{us:List Value},RVs g w cs ℓ i us->RVs g' w' cs a d us
 |[],_,_,_,_,_,_,hr=>by simpa[RVs] using hr
 |c::cs,b,_,_,_,_,_,hr=>by
  simp only[Zbc,Zc] at b;simp only[RVs] at hr |-;obtain⟨u,us,rfl,f,e⟩:=hr;exact⟨u,us,rfl,Qbm3 h b.1 f,Qbd3 h b.2 e⟩
theorem Qvp{g g' : G}{w w' : World}(h:Imm g.imm g'.imm w w'){v:V}(b:v.dat=true){ℓ a : Owner}{u:Value}(hr:RV g w v ℓ u):RV g' w' v a u:=by
 cases v with
 |agg cs =>
  simp only[V.dat] at b;simp only[RV] at hr |-;obtain⟨vs,rfl,e,c⟩:=hr;exact⟨vs,rfl,Qbd3 h b e,c⟩
 |d x=>grind [RV,Qgk]
 |nils _=>simpa[RV] using hr
 |_=>simp[V.dat] at b
theorem Qbhd{g g' : G}{w w' : World}{k:Nat}(d:Imm g.imm g'.imm w w')(h:∀(sz:Nat)(l:List (List D))(i:Nat)(u:Value),RV g w (.own sz l) (.cell k i) u->RV g' w' (.own sz l) (.cell k i) u){es:List (V×V×Nat)}{a:List MapEntry}(hr:RM g w k es a):RM g' w' k es a :=
 Qbmc (fun _ _ b c=>Qvp d b c) (fun v i u b c=>by
  rcases Qrx b with b|⟨sz,l,rfl⟩
  all_goals grind [Qvp]) hr
theorem Q86{g g' : G}{w w' : World}{ℓ:Owner}(i:Imm g.imm g'.imm w w')(hb:∀b,g.own b=ℓ->b<w.heap.size->g'.own b=ℓ/\w'.heap[b]? = w.heap[b]? /\ ∀o,g'.imm b o↔g.imm b o){sz:Nat}{l:List (List D)}{u:Value}(a:RV g w (.own sz l) ℓ u):RV g' w' (.own sz l) ℓ u:=by
 simp only[RV] at a |-;rcases a with a|⟨b,cap,vals,e,h1,h2,h3,h4,h5,h6,h7,h8⟩
 ·exact .inl a
 ·have c:b<w.heap.size:=(Zaf.1 h3).1;obtain⟨h,f,d⟩:=hb b h2 c;exact .inr ⟨b,cap,vals,e,h1,h,f.trans h3,h4,h5,h6,fun o=>(d o).trans (h7 o),RDL_mono i sz b l 0 h8⟩
theorem Qbaf{g g' : G}{w w' : World}{k:Nat}(c:Imm g.imm g'.imm w w')(hb:∀b i,g.own b = .cell k i->b<w.heap.size->g'.own b = .cell k i/\w'.heap[b]? = w.heap[b]? /\ ∀o,g'.imm b o↔g.imm b o){es:List (V×V×Nat)}{a:List MapEntry}(hr:RM g w k es a):RM g' w' k es a :=by grind [Qbhd,Q86]
theorem Qll{g g' : G}{w w' : World}{k:Nat}{p:Nat->Prop}{keep:Owner->Prop}(h:Kept g w g' w' p keep)(d:∀i,keep (.cell k i)){es:List (V×V×Nat)}{a:List MapEntry}(hr:RM g w k es a):RM g' w' k es a :=
 Qbaf h.imm (fun b i hb c=>by have:=h.own b (by rw[hb];exact d i) c;rwa [hb] at this) hr
structure MR(g:G)(w:World)(M:Mem)(nb:Nat):Prop where
 box:∀k b,M k=some b->k<nb/\g.own (g.box k) = .box k/\BR g w k b
 imm:∀b o,g.imm b o->b<w.heap.size/\∀k,g.own b ≠ .box k
structure Fr(n0:Nat)(g0:G)(w0:World)(g:G)(w:World):Prop where
 os:w.os=w0.os
 tape:w.tape=w0.tape
 output:w.output=w0.output
 size:w0.heap.size<=w.heap.size
 imm:Imm g0.imm g.imm w0 w
 box:∀k,k<n0->g.box k=g0.box k
 old:∀b,b<w0.heap.size->Prot (g0.own b)->g.own b=g0.own b/\w.heap[b]? = w0.heap[b]? /\ ∀o,g.imm b o↔g0.imm b o
theorem Fr.refl(n0:Nat)(g:G)(w:World):Fr n0 g w g w :=
 ⟨rfl,rfl,rfl,Ze _,⟨fun _ _ h=>h,fun _ _ _=>rfl⟩,fun _ _=>rfl,fun _ _ _=>⟨rfl,rfl,fun _=>Zk⟩⟩
theorem Fr.next{n0 nb:Nat}{g0 g g' : G}{w0 w w' : World}(h:Fr n0 g0 w0 g w)(c:n0<=nb)(k:Fr nb g w g' w'):Fr n0 g0 w0 g' w':={
 os:=k.os.trans h.os
 tape:=k.tape.trans h.tape
 output:=k.output.trans h.output
 size:=Zac h.size k.size
 imm:=⟨fun b o hb=>k.imm.mono b o (h.imm.mono b o hb),fun b o hb=>(k.imm.look b o (h.imm.mono b o hb)).trans (h.imm.look b o hb)⟩
 box:=fun i a=>(k.box i (Zbk a c)).trans (h.box i a)
 old:=fun b hb ho=>by
  obtain⟨d,m,l⟩:=h.old b hb ho;obtain⟨j,f,e⟩:=k.old b (Zbk hb h.size) (by rw[d];exact ho)
  grind }
structure SR(n0 nt:Nat)(g0:G)(w0:World)(σ:St)(a:Act)(w:World)(g:G):Prop where
 mem:MR g w σ.M σ.nb
 slots:∀t,RV g w (σ.s t) (.slot t []) (a.tmps.getD t undef)
 size:a.tmps.size=nt
 defers:a.defers=[]
 onS:∀t,(σ.s t).on fun k=>(σ.M k).isSome=true
 onM:∀k cs,σ.M k=some (.cells cs)->(V.ons (fun j=>(σ.M j).isSome=true) cs)/\(k<n0->V.ons (· < n0) cs)
 top:n0+nt<=σ.nb
 fr:Fr n0 g0 w0 g w
end Go.Abs
end
section
namespace Go.Abs
open Go
def RF(g:G)(w:World)(v:V)(u:Value):Prop:=∀ℓ,RV g w v ℓ u
section
variable{g:G}{w:World}
theorem Qwx{v:V}{ℓ:Owner}{u:Value}(h:RV g w v ℓ u):RF g w v.dem u:=fun a=>Qie v ℓ a u h
theorem RF_d{x:D}{u:Value}:RF g w (.d x) u↔RD g.imm w x u:=by
 constructor
 ·intro h;simpa[RV] using h .free
 ·intro h ℓ;simpa[RV] using h
theorem Qry{k o:Nat}{u:Value}:RF g w (.ptr k o) u↔u = .pointer (some ⟨g.box k,o,none⟩):=by
 constructor
 ·intro h;simpa[RV] using h .free
 ·intro h ℓ;simpa[RV] using h
theorem Q64{sz k o n c:Nat}{u:Value}:RF g w (.sl sz k o n c) u↔u = .slice (some ⟨g.box k,o,none⟩) n c:=by
 constructor
 ·intro h;simpa[RV] using h .free
 ·intro h ℓ;simpa[RV] using h
theorem Qur{cs:List D}{u:Value}:RF g w (.cref cs) u↔∃b o,u = .pointer (some ⟨b,o,none⟩)/\RDc g.imm w b cs o:=by
 constructor
 ·intro h;simpa[RV] using h .free
 ·intro h ℓ;simpa[RV] using h
def RFs(g:G)(w:World):List V->List Value->Prop
 |[],us=>us=[]
 |v::vs,us=>∃u a,us=u::a/\RF g w v u/\RFs g w vs a
theorem Qje:∀{vs:List V}{us:List Value},RFs g w vs us->us.length=vs.length
 |[],us,h=>by simp[RFs] at h;simp[h]
 |v::vs,us,h=>by
  obtain⟨u,a,rfl,_,h⟩:=h;simp[Qje h]
theorem Qus:∀{vs:List V}{us:List Value},RFs g w vs us->∀(i:Nat)(v:V)(u:Value),vs[i]? = some v->us[i]? = some u->RF g w v u
 |[],us,h,i,v,u,a,_=>by simp at a
 |v::vs,us,h,i,v',c,a,hu=>by
  obtain⟨u,b,rfl,d,h⟩:=h;cases i with
  |zero=>simp at a hu;subst a hu;exact d
  |succ i=>exact Qus h i v' c (by simpa using a) (by simpa using hu)
theorem Qut{imm:Nat->Nat->Prop}{b:Nat}:∀{ys:List D}{o:Nat},RDc imm w b ys o->∀j y,ys[j]? = some y->imm b (o+j)/\∃u,w.cell? ⟨b,o+j,none⟩=some u/\RD imm w y u
 |[],o,_,j,y,a=>by simp at a
 |y::ys,o,h,j,c,a=>by
  simp only[RDc] at h;cases j with
  |zero=>simp at a;subst a;exact⟨h.1,h.2.1⟩
  |succ j =>
   have:=Qut h.2.2 j c (by simpa using a)
   rwa [show o+1+j=o+(j+1) from by omega] at this
theorem Qzi{imm:Nat->Nat->Prop}{b:Nat}:∀{ys:List D}{o:Nat},(∀j y,ys[j]? = some y->imm b (o+j)/\∃u,w.cell? ⟨b,o+j,none⟩=some u/\RD imm w y u)->RDc imm w b ys o
 |[],o,_=>by simp[RDc]
 |y::ys,o,h=>by
  simp only[RDc];obtain⟨e,d⟩:=h 0 y rfl;refine⟨by simpa using e,by simpa using d,Qzi fun j a c=>?_⟩;have:=h (j+1) a (by simpa using c)
  grind
theorem Qzu{imm:Nat->Nat->Prop}{sz b:Nat}:∀{l:List (List D)}{o:Nat},RDL imm w sz b l o->∀i x,l[i]? = some x->x.length=sz/\RDc imm w b x (o+i*sz)
 |[],o,_,i,x,a=>by simp at a
 |x::xs,o,h,i,c,a=>by
  simp only[RDL] at h;cases i with
  |zero=>simp at a;subst a;exact⟨h.1,by simpa using h.2.1⟩
  |succ i =>
   have:=Qzu h.2.2 i c (by simpa using a)
   rwa [show o+sz+i*sz=o+(i+1)*sz from by rw[Zv];omega] at this
theorem Q3l{imm:Nat->Nat->Prop}{sz b:Nat}:∀{l:List (List D)}{o:Nat},(∀i x,l[i]? = some x->x.length=sz/\RDc imm w b x (o+i*sz))->RDL imm w sz b l o
 |[],o,_=>by simp[RDL]
 |x::xs,o,h=>by
  simp only[RDL];refine⟨(h 0 x rfl).1,by simpa using (h 0 x rfl).2,Q3l fun i a c=>?_⟩;have:=h (i+1) a (by simpa using c)
  grind
theorem Q2o{imm:Nat->Nat->Prop}{x:D}{u:Value}(h:RD imm w x u):u.oneCell'=true:=by
 cases x<;>simp only[RD] at h
 ·subst h;rfl
 ·subst h;rfl
 ·subst h;rfl
 ·obtain⟨a,c,rfl,_⟩:=h;rfl
 ·obtain⟨b,rfl,_⟩:=h;rfl
end
section
variable(P:Program){g:G}{w:World}
theorem Qhk{t:TypeId}{i:TypeInfo}(h:P.info? t=some i)(w:World):(sizeOf t).run P w = .ok i.size w:=by simp[sizeOf,typeInfo,h]
theorem Qbhe{t e:TypeId}(h:P.underlying t=some (.slice e)):P.underlying t=some (.slice (P.elem t)):=by
 rw[h];simp[Program.elem,h]
theorem Qfj{t:TypeId}{i:TypeInfo}(h:P.info? t=some i):P.cellsOf t=i.size:=by simp[Program.cellsOf,h]
theorem Qtb{t:TypeId}{d:TypeDesc}(a:P.underlying t=some d):(isAgg t).run P w = .ok (Qic P t) w:=by
 unfold isAgg Qic;rw[Sem.run_bind,run_underlying a w,a];cases d<;>simp
theorem Qjp{t:TypeId}{d:TypeDesc}(h:P.underlying t=some d):∃i,P.info? t=some i:=by
 unfold Program.underlying at h
 grind
theorem Qho(b o n:Nat):(⟨b,o,none⟩ : Addr).add n=⟨b,o+n,none⟩:=by
 unfold Addr.add;split<;>simp_all
theorem Q4y(t:TypeId){d:TypeDesc}(e:P.underlying t=some d)(hA:Qic P t=true)(b o:Nat)(us:List Value)(f:us.length=P.cellsOf t)(hc:∀j u,us[j]? = some u->w.cell? ⟨b,o+j,none⟩=some u):(loadVar t ⟨b,o,none⟩).run P w = .ok (.agg us.toArray) w:=by
 obtain⟨i,h⟩:=Qjp P e;have a:=run_loadCells_list (P:=P) w ⟨b,o,none⟩ us (fun j u c=>by rw[Qho];exact hc j u c)
 simp_all[Qfj,Go.loadVar,Qtb,Qhk]
theorem Q4z(t:TypeId){d:TypeDesc}(b:P.underlying t=some d)(hA:Qic P t=false)(a:Addr)(u:Value)(hc:w.cell? a=some u):
  (loadVar t a).run P w = .ok u w:=by
 simp[loadVar,Qtb P b,hA,hc]
theorem Qyh{M:Mem}{nb k:Nat}{cs:List V}(h:MR g w M nb)(d:M k=some (.cells cs)){j:Nat}{c:V}(i:cs[j]? = some c):
  ∃u,w.cell? ⟨g.box k,j,none⟩=some u/\RV g w c (.cell k j) u/\u.oneCell'=true:=by
 obtain⟨_,_,a,e,l,hr,m⟩:=h.box k _ d;obtain⟨f,hr⟩:=(Qc8 _ _ _ _).1 hr;have b:j<a.length:=by grind
 simp_all[Zr,Go.World.cell?,Owner.sub]
theorem Q40{M:Mem}{nb k:Nat}{cs:List V}(h:MR g w M nb)(b:M k=some (.cells cs))(o:Nat):∀(n:Nat),o+n<=cs.length ->
  ∃us:List Value,us.length=n/\(∀j u,us[j]? = some u->w.cell? ⟨g.box k,o+j,none⟩=some u)/\(∀u∈us,u.oneCell'=true) /\
   ∀j c u,((cs.drop o).take n)[j]? = some c->us[j]? = some u->RV g w c (.cell k (o+j)) u
 |0,_=>⟨[],rfl,by simp,by simp,by simp⟩
 |n+1,q=>by
  obtain⟨us,i,hc,r,hr⟩:=Q40 h b o n (by omega);obtain⟨u,p,f,d⟩:=Qyh h b (j:=o+n) (c:=cs[o+n]'(by omega)) (Zj _);refine⟨us++[u],by simp[i],fun j a l=>?_,fun a e=>?_,fun j c a m l=>?_⟩
  ·grind
  ·grind
  ·rcases Zak j n with hlt|hge
   all_goals grind
theorem Q4e{vs:List V}{j:Nat}{c:V}(h:(V.dems vs)[j]? = some c):∃a,vs[j]? = some a/\c=a.dem:=by
 induction vs generalizing j with
 |nil=>simp[V.dems] at h
 |cons v vs b =>
  cases j with
  |zero=>simp[V.dems] at h;exact⟨v,rfl,h.symm⟩
  |succ j=>grind [V.dems]
theorem Qbcv(vs:List V):(V.dems vs).length=vs.length:=by
 induction vs with
 |nil=>rfl
 |cons v vs a=>simp[V.dems,a]
theorem Qbhf{M:Mem}{nb:Nat}(C:MR g w M nb)(t:TypeId){d:TypeDesc}(A:P.underlying t=some d){n0 κ:Nat}{p v:V}{M' : Mem}{u:Value}(hp:RF g w p u)(a:Ql n0 κ (.load (Qic P t) (P.cellsOf t)) [p] M=some (v,M')):
  M'=M/\∃val,(Instr.loadAt t u).run P w = .ok val w/\RF g w v val:=by
 cases p<;>simp only[Ql] at a<;>try (cases a;done)
 case ptr k off =>
  rw[Qry] at hp;subst hp;cases hMk:M k with
  |none=>simp[hMk] at a
  |some b =>
   cases b with
   |mp es=>simp[hMk] at a
   |cells cs =>
    simp only[hMk] at a;split at a
    case isFalse=>cases a
    case isTrue hle =>
     cases hA:Qic P t with
     |true =>
      simp only[hA,if_true,Zh,Zf] at a;obtain⟨rfl,rfl⟩:=a;refine⟨rfl,?_⟩;obtain⟨us,l,hc,H,hr⟩:=Q40 C hMk off _ hle;refine⟨.agg us.toArray,?_,fun ℓ=>?_⟩
      ·grind [Go.Instr.loadAt,Go.Instr.sureAddr,Go.Sem.run_bind,Go.Sem.run_pure,Go.Result.andThen_ok,Q4y]
      ·simp only[RV];refine⟨us,rfl,(Qc8 _ _ _ _).2 ⟨by rw[Qbcv,Zbl,List.length_drop,l];omega,fun j c u z e=>?_⟩,H⟩;obtain⟨J,B,rfl⟩:=Q4e z
       grind [Qie]
     |false =>
      simp only[hA,Zg,if_false] at a;cases hcs:cs[off]? with
      |none=>simp[hcs] at a
      |some c =>
       simp[hcs] at a;obtain⟨rfl,rfl⟩:=a;obtain⟨u,e,f,_⟩:=Qyh C hMk hcs;exact⟨rfl,u,by simp[Instr.loadAt,Instr.sureAddr,Q4z P t A hA _ u e],Qwx f⟩
 case cref cs =>
  rw[Qur] at hp;obtain⟨b,o,rfl,hr⟩:=hp;split at a
  case isFalse=>cases a
  case isTrue hle =>
   cases hA:Qic P t with
   |true =>
    simp only[hA,if_true,Zh,Zf] at a;obtain⟨rfl,rfl⟩:=a;refine⟨rfl,?_⟩;have s:∀n,n<=cs.length->∃us:List Value,us.length=n/\(∀(j:Nat)u,us[j]? = some u->w.cell? ⟨b,o+j,none⟩=some u)/\∀(j:Nat)y u,cs[j]? = some y->us[j]? = some u->RD g.imm w y u:=by
     intro n
     induction n with
     |zero=>simp_all
     |succ n F =>
      intro I;obtain⟨us,l,hc,i⟩:=F (by omega);obtain⟨_,u,e,f⟩:=Qut hr n (cs[n]'(by omega)) (Zj _);refine⟨us++[u],by simp[l],fun j E r=>?_,fun j y E r m=>?_⟩
      all_goals grind
    obtain⟨us,l,hc,i⟩:=s _ hle;refine⟨.agg us.toArray,?_,fun ℓ=>?_⟩
    ·grind [Go.Instr.loadAt,Go.Instr.sureAddr,Go.Sem.run_bind,Go.Sem.run_pure,Go.Result.andThen_ok,Q4y]
    ·simp only[RV];have h:∀(j:Nat)c u,((cs.take (P.cellsOf t)).map V.d)[j]? = some c->us[j]? = some u->∃y,c = .d y/\RD g.imm w y u:=by
      grind
     refine⟨us,rfl,(Qc8 _ _ _ _).2 ⟨by simp[l];omega,fun j c u x e=>?_⟩,fun u e=>?_⟩
     ·obtain⟨y,rfl,i⟩:=h j c u x e;simpa[RV] using i
     ·obtain⟨j,r,rfl⟩:=Zao e;have m : j<((cs.take (P.cellsOf t)).map V.d).length:=by simp;omega
      obtain⟨y,_,i⟩:=h j _ us[j] (Zj m) (by simp[r]);exact Q2o i
   |false =>
    simp only[hA,Zg,if_false] at a;cases hcs:cs[0]? with
    |none=>simp[hcs] at a
    |some y =>
     simp[hcs] at a;obtain⟨rfl,rfl⟩:=a;obtain⟨_,u,e,f⟩:=Qut hr 0 y hcs;have q : w.cell? ⟨b,o,none⟩=some u:=e;exact⟨rfl,u,by simp[Instr.loadAt,Instr.sureAddr,Q4z P t A hA _ u q],RF_d.2 f⟩
end
end Go.Abs
end
section
namespace Go.Abs
open Go
section
variable(P:Program){g:G}{w:World}
theorem Qp7{k:IntKind}{n:Int}{u:Value}(h:RF g w (.d (.int k n)) u):u = .int k n:=by simpa[RD] using RF_d.1 h
theorem Q41{b:Bool}{u:Value}(h:RF g w (.d (.bool b)) u):u = .bool b:=by simpa[RD] using RF_d.1 h
theorem Qbf3{b:ByteArray}{u:Value}(h:RF g w (.d (.str b)) u):u = .string b:=by simpa[RD] using RF_d.1 h
theorem Quu(op:BinOp)(t:TypeId)(x y:Operand)(a b:Value)(h:(match a,b with | .nilIface,.nilIface=>false | .agg _,.agg _=>false|_,_=>true)=true)(w:World):
  (eqGuard op t x y a b).run P w = .ok () w:=by
 unfold eqGuard;cases a<;>cases b<;>simp at h<;>(split<;>simp[*])
theorem Qbol(op:BinOp)(l:Bool)(i:TypeId)(m:l=true->P.underlying i=some .bool)(x y:Operand){a b c:D}{u v:Value}(ha:RF g w (.d a) u)(f : RF g w (.d b) v)(e:binD op l a b=some c):
  ∃val,((do eqGuard op i x y u v;binOp op i u v:Sem Value)).run P w = .ok val w/\RF g w (.d c) val:=by
 cases a<;>cases b<;>simp only[binD] at e<;>try (cases e;done)
 case int.int k a k' b =>
  have ha:=Qp7 ha;have f:=Qp7 f;subst ha f;rw[Sem.run_bind,Quu P op i x y _ _ rfl w,Result.andThen_ok];cases op<;>simp only at e
  case shl=>split at e<;>cases e;rename_i h;exact⟨.int k (k.wrap (a*2 ^ min b.toNat k.bits)),by simp[binOp,Op.shift,h],by rw[RF_d];simp[RD]⟩
  case shr=>split at e<;>cases e;rename_i h;exact⟨.int k (a.fdiv (2 ^ min b.toNat k.bits)),by simp[binOp,Op.shift,h],by rw[RF_d];simp[RD]⟩
  case quo =>
   split at e<;>try (cases e;done)
   rename_i j;subst j;simp only[Q99] at e;split at e<;>cases e;simp_all[Go.binOp,Go.Op.intDiv,RF_d,RD]
  case rem =>
   split at e<;>try (cases e;done)
   rename_i j;subst j;simp only[Q99] at e;split at e<;>cases e;simp_all[Go.binOp,Go.Op.intDiv,RF_d,RD]
  all_goals
   split at e<;>try (cases e;done)
   rename_i j;subst j;simp only[Q99] at e;cases e
   simp_all[Go.binOp,Go.Op.intArith,Go.Op.intBits,Go.Op.intCmp,RF_d,RD]
 case bool.bool a b =>
  have ha:=Q41 ha;have f:=Q41 f;subst ha f;rw[Sem.run_bind,Quu P op i x y _ _ rfl w,Result.andThen_ok];cases op<;>cases l<;>simp only at e<;>cases e
  ·exact⟨_,run_eql_bool (P:=P) w i a b (m rfl),by rw[RF_d];simp[RD]⟩
  ·exact⟨_,run_neq_bool (P:=P) w i a b (m rfl),by rw[RF_d];simp[RD]⟩
 case str.str a b =>
  have ha:=Qbf3 ha;have f:=Qbf3 f;subst ha f;rw[Sem.run_bind,Quu P op i x y _ _ rfl w,Result.andThen_ok];cases op<;>simp only at e<;>cases e
  all_goals simp_all[Go.binOp,Go.Op.stringOp,RF_d,RD]
theorem Qbpl(op:UnOp){a c:D}{u:Value}(ha:RF g w (.d a) u)(b:unD op a=some c):
  ∃val,(Op.unary op u).run P w = .ok val w/\RF g w (.d c) val:=by
 cases op<;>cases a<;>simp only[unD] at b<;>cases b
 all_goals simp_all[Qp7,Go.Op.unary,Go.Op.intArith,RF_d,RD,Q41]
theorem Qbm4(s d:TypeId)(k:IntKind)(b:(P.underlying s).isSome=true)(c:P.underlying d=some (.int k)){k' : IntKind}{n:Int}{u:Value}(a:RF g w (.d (.int k' n)) u):
  ∃val,(convert s d u).run P w = .ok val w/\RF g w (.d (.int k (k.wrap n))) val:=by
 have a:=Qp7 a;subst a;cases hsd:P.underlying s with
 |none=>simp[hsd] at b
 |some ds =>
  simp_all[Go.convert,Go.run_underlying,Go.Conv.intToInt,RF_d,RD]
theorem Q7j:∀{l:List (List D)}{a:List Int},Qbaa l=some a->l=a.map fun n=>[.int .u8 n]
 |[],a,h=>by simp[Qbaa] at h;subst h;rfl
 |x::l,a,h=>by
  unfold Qbaa at h;split at h<;>try (cases h;done)
  ·rename_i e;cases e
  ·rename_i e;cases e;simp only[Zd] at h;obtain⟨ms,b,rfl⟩:=h;rw[Q7j b];rfl
theorem Qbm5(s d e:TypeId)(x:P.underlying s=some (.slice e))(z:P.underlying e=some (.int .u8))(A:P.underlying d=some .string){sz:Nat}{l:List (List D)}{c:List Int}(y:Qbaa l=some c){u:Value}(m:RF g w (.d (.lst sz l)) u):
  ∃val,(convert s d u).run P w = .ok val w/\RF g w (.d (.str (strB c))) val:=by
 have h:=Q7j y;have m:=RF_d.1 m;simp only[RD] at m;obtain⟨a,f,rfl,r,hr⟩:=m;refine⟨.string (strB c),?_,RF_d.2 (by simp only[RD])⟩;rw[run_convert_bytes_string w s d e _ _ _ x z A];rcases hr with h0|⟨b,o,rfl,hr⟩
 ·have:c=[]:=by rw[h] at h0;simpa using h0
  subst this;subst h0;cases a with
  |none=>simp[Conv.bytesToString,strB]
  |some a=>exact run_bytesToString w a 0 f [] (by simpa using run_loadCells_list (P:=P) w a [] (by simp))
 ·have t:l=[]\/sz=1:=by
   cases c with
   |nil=>left;simpa using h
   |cons n c =>
    right;subst h;have:=(Qzu hr 0 [.int .u8 n] (by simp)).1;simpa using this.symm
  rcases t with h0|rfl
  ·have:c=[]:=by rw[h] at h0;simpa using h0
   subst this;subst h0;exact run_bytesToString w _ 0 f [] (by simpa using run_loadCells_list (P:=P) w ⟨b,o,none⟩ [] (by simp))
  ·have hc:=run_loadCells_list (P:=P) w ⟨b,o,none⟩ (c.map (Value.int .u8)) (fun j v p=>by
    simp only[Zag,Zd] at p;obtain⟨n,p,rfl⟩:=p;have B:=(Qzu hr j [.int .u8 n] (by rw[h];simp[p])).2;obtain⟨_,u,q,i⟩:=Qut B 0 (.int .u8 n) rfl;simp only[RD] at i;subst i;rw[Qho];simpa using q)
   have k:l.length=(c.map (Value.int .u8)).length:=by rw[h];simp
   rw[k];exact run_bytesToString w _ _ f c hc
theorem Qbhg{x v:V}{u:Value}{n0 κ:Nat}{M M' : Mem}(d:RF g w x u)(f:Ql n0 κ .nilchk [x] M=some (v,M'))(o:Oper)(a:Act)(y:Operand)(ho:o.op = .nilCheck y)(e:a.eval y=u):
  M'=M/\∃val,(execOp a.eval o).run P w = .ok (.value val) w/\RF g w v val:=by
 cases x<;>simp only[Ql] at f<;>cases f
 ·rw[Qry] at d;subst d;exact⟨rfl,_,by simp[execOp,ho,e],Qry.2 rfl⟩
 ·have c:=Qur.1 d;obtain⟨b,o',rfl,_⟩:=c;exact⟨rfl,_,by simp[execOp,ho,e],d⟩
 ·have c:=d .free;simp only[RV] at c;obtain⟨vs,rfl,_⟩:=c;exact⟨rfl,_,by simp[execOp,ho,e],d⟩
theorem Qbom(s:TypeId)(m:Array Field)(d : P.underlying s=some (.struct m))(f:Nat)(a:Field)(l:m[f]? = some a)(h:P.cellsOf a.type≠0){x v:V}{u:Value}{n0 κ:Nat}{M M' : Mem}(e:RF g w x u)(k:Ql n0 κ (.fld a.offset) [x] M=some (v,M')):
  M'=M/\∃val,(Instr.fieldAt s u f).run P w = .ok val w/\RF g w v val:=by
 have c:∀w,(sizeOf a.type).run P w = .ok (P.cellsOf a.type) w:=by
  intro w;cases hi:P.info? a.type with
  |none=>simp[Program.cellsOf,hi] at h
  |some i=>rw[Qhk P hi,Qfj P hi]
 cases x<;>simp only[Ql] at k<;>cases k
 ·rw[Qry] at e;subst e;refine⟨rfl,_,?_,Qry.2 rfl⟩;simp[Instr.fieldAt,run_underlying d,l,Instr.sureAddr,fieldPlace,c,h,Qho]
 ·obtain⟨b,o',rfl,hr⟩:=Qur.1 e;refine⟨rfl,.pointer (some ⟨b,o'+a.offset,none⟩),?_,Qur.2 ⟨_,_,rfl,Qzi fun j y n=>?_⟩⟩
  ·simp[Instr.fieldAt,run_underlying d,l,Instr.sureAddr,fieldPlace,c,h,Qho]
  grind [Qut]
theorem Qbon(t e:TypeId)(y:P.underlying t=some (.slice e))(C:P.cellsOf e≠0){x i v:V}{u q:Value}{n0 κ:Nat}{M M' : Mem}(r:RF g w x u)(p:RF g w i q)(f:Ql n0 κ (.idx (P.cellsOf e)) [x,i] M=some (v,M')):
  M'=M/\∃val,(Instr.indexAt t u q).run P w = .ok val w/\RF g w v val:=by
 have B:∀w,(sizeOf e).run P w = .ok (P.cellsOf e) w:=by
  intro w;cases p:P.info? e with
  |none=>simp[Program.cellsOf,p] at C
  |some i=>rw[Qhk P p,Qfj P p]
 have lst:∀(l:List (List D))(k:IntKind)(n:Int),RD g.imm w (.lst (P.cellsOf e) l) u->q = .int k n->0<=n->∀c,l[n.toNat]? = some c ->
   ∃val,(Instr.indexAt t u q).run P w = .ok val w/\RF g w (.cref c) val:=by
  intro l k n m j z c hc;simp only[RD] at m;obtain⟨a,F,rfl,_,m⟩:=m;subst j;have s:n.toNat<l.length:=(Zm.1 hc).1;rcases m with rfl|⟨b,o,rfl,m⟩
  ·simp at s
  ·refine⟨.pointer (some ⟨b,o+n.toNat*P.cellsOf e,none⟩),?_,Qur.2 ⟨_,_,rfl,(Qzu m _ _ hc).2⟩⟩;simp only[Instr.indexAt,asIntOf,Sem.run_bind,Sem.run_pure,Result.andThen_ok,run_underlying y]
   simp_all[if_pos,Qho]
 cases i<;>try (simp[Ql] at f;done)
 rename_i E;cases E<;>try (simp[Ql] at f;done)
 rename_i k n;have j:=Qp7 p;cases x<;>simp only[Ql] at f<;>try (cases f;done)
 case d dx =>
  cases dx<;>simp only at f<;>try (cases f;done)
  split at f
  case isFalse=>cases f
  case isTrue h =>
   simp only[Zc,decide_eq_true_eq] at h;simp only[Zd,Zf] at f;obtain⟨c,hc,rfl,rfl⟩:=f;rw[RF_d,h.1] at r
   grind
 case own =>
  split at f
  case isFalse=>cases f
  case isTrue h =>
   simp only[Zc,decide_eq_true_eq] at h;simp only[Zd,Zf] at f;obtain⟨c,hc,rfl,rfl⟩:=f;rename_i A l;obtain⟨rfl,z⟩:=h;exact⟨rfl,lst _ k n (Qkx (r .free)) j z c hc⟩
 case sl =>
  split at f
  case isFalse=>cases f
  case isTrue h =>
   simp only[Zc,decide_eq_true_eq] at h;cases f;rw[Q64] at r;subst r j;refine⟨rfl,_,?_,Qry.2 rfl⟩;simp only[Instr.indexAt,asIntOf,Sem.run_bind,Sem.run_pure,Result.andThen_ok,run_underlying y]
   simp_all[if_pos,Qho]
theorem Qbhh(t e:TypeId)(len:Nat)(o:P.underlying t=some (.array len e))(p:P.cellsOf e≠0){x i v:V}{u m:Value}{n0 κ:Nat}{M M' : Mem}(l:RF g w x u)(f:RF g w i m)(a:Ql n0 κ (.idxarr (P.cellsOf e) len) [x,i] M=some (v,M')):
  M'=M/\∃val,(Instr.indexAt t u m).run P w = .ok val w/\RF g w v val:=by
 have d:∀w,(sizeOf e).run P w = .ok (P.cellsOf e) w:=by
  intro w;cases f:P.info? e with
  |none=>simp[Program.cellsOf,f] at p
  |some i=>rw[Qhk P f,Qfj P f]
 cases i<;>try (simp[Ql] at a;done)
 rename_i q;cases q<;>try (simp[Ql] at a;done)
 rename_i k n;have c:=Qp7 f;simp only[Ql] at a;split at a
 case isFalse=>cases a
 case isTrue h =>
  simp only[Zc,decide_eq_true_eq] at h;cases x<;>simp only at a<;>cases a
  ·rw[Qry] at l;subst l c;refine⟨rfl,_,?_,Qry.2 rfl⟩;simp only[Instr.indexAt,asIntOf,Sem.run_bind,Sem.run_pure,Result.andThen_ok,run_underlying o,Instr.sureAddr];rw[if_pos h];simp[d,Qho]
  ·obtain⟨b,o',rfl,hr⟩:=Qur.1 l;subst c;refine⟨rfl,.pointer (some ⟨b,o'+n.toNat*P.cellsOf e,none⟩),?_,Qur.2 ⟨_,_,rfl,Qzi fun j y r=>?_⟩⟩
   ·simp only[Instr.indexAt,asIntOf,Sem.run_bind,Sem.run_pure,Result.andThen_ok,run_underlying o,Instr.sureAddr];rw[if_pos h];simp[d,Qho]
   grind [Qut]
theorem Qboo(t f e:TypeId)(j:P.underlying t=some (.slice e)){M:Mem}{nb:Nat}(k:MR g w M nb){x v:V}{u:Value}{n0 κ:Nat}{M' : Mem}(i:RF g w x u)(b:Ql n0 κ .len [x] M=some (v,M')):
  M'=M/\∃val,(Builtin.len_ #[t] f #[u]).run P w = .ok val w/\RF g w v val:=by
 have key:∀(a:Option Addr)(n c:Nat),u = .slice a n c->∃val,(Builtin.len_ #[t] f #[u]).run P w = .ok val w/\RF g w (.d (.int .i64 n)) val:=by
  rintro a n c rfl;exact⟨_,run_len_slice (P:=P) w t f a n c (Qbhe P j),by rw[RF_d];simp[RD,goInt]⟩
 have lst:∀sz l,RD g.imm w (.lst sz l) u->∃val,(Builtin.len_ #[t] f #[u]).run P w = .ok val w/\RF g w (.d (.int .i64 l.length)) val:=by
  grind [RD]
 cases x<;>simp only[Ql] at b<;>try (cases b;done)
 case d dx =>
  cases dx<;>simp only at b<;>cases b;exact⟨rfl,lst _ _ (RF_d.1 i)⟩
 case own=>cases b;exact⟨rfl,lst _ _ (Qkx (i .free))⟩
 case nils=>cases b;have h:=i .free;simp only[RV] at h;grind
 case sl=>cases b;exact⟨rfl,key _ _ _ (Q64.1 i)⟩
theorem Qbm6(t b:TypeId)(d:P.underlying t=some .string){M:Mem}{x v:V}{u:Value}{n0 κ:Nat}{M' : Mem}(c:RF g w x u)(a:Ql n0 κ .lens [x] M=some (v,M')):
  M'=M/\∃val,(Builtin.len_ #[t] b #[u]).run P w = .ok val w/\RF g w v val:=by
 cases x<;>try (simp[Ql] at a;done)
 rename_i e;cases e<;>try (simp[Ql] at a;done)
 simp only[Ql] at a;cases a;have:=Qbf3 c;subst this;exact⟨rfl,_,run_len_string (P:=P) w t b _ d,by rw[RF_d];simp[RD,goInt]⟩
theorem Qbm7(t:TypeId)(e:P.underlying t=some .string){M:Mem}{x i v:V}{u c:Value}{n0 κ:Nat}{M' : Mem}(d:RF g w x u)(f:RF g w i c)(a:Ql n0 κ .idxs [x,i] M=some (v,M')):
  M'=M/\∃val,(Instr.index t u c).run P w = .ok val w/\RF g w v val:=by
 cases x<;>try (simp[Ql] at a;done)
 rename_i j;cases j<;>try (simp[Ql] at a;done)
 cases i<;>try (simp[Ql] at a;done)
 rename_i h;cases h<;>try (simp[Ql] at a;done)
 simp only[Ql] at a;split at a<;>cases a;rename_i b;rw[Qbf3 d,Qp7 f];refine⟨rfl,_,?_,RF_d.2 (by simp only[RD];rfl)⟩;rw[run_index_string (P:=P) w t _ _ _ e,dif_pos b]
theorem Qbm8(ts:Array TypeId)(b:TypeId){x y v:V}{u z:Value}{n0 κ:Nat}{M M' : Mem}(d:RF g w x u)(c:RF g w y z)(a:Ql n0 κ .max2 [x,y] M=some (v,M')):
  M'=M/\∃val,(Builtin.max_ ts b #[u,z]).run P w = .ok val w/\RF g w v val:=by
 cases x<;>try (simp[Ql] at a;done)
 rename_i f;cases f<;>try (simp[Ql] at a;done)
 cases y<;>try (simp[Ql] at a;done)
 rename_i e;cases e<;>try (simp[Ql] at a;done)
 simp only[Ql] at a;split at a<;>cases a;rw[Qp7 d,Qp7 c];exact⟨rfl,_,run_max_int2 (P:=P) w ts b _ _ _ _,by rw[RF_d];simp[RD]⟩
theorem Qbm9(ts:Array TypeId)(b:TypeId){x y v:V}{u z:Value}{n0 κ:Nat}{M M' : Mem}(d:RF g w x u)(c:RF g w y z)(a:Ql n0 κ .min2 [x,y] M=some (v,M')):
  M'=M/\∃val,(Builtin.min_ ts b #[u,z]).run P w = .ok val w/\RF g w v val:=by
 cases x<;>try (simp[Ql] at a;done)
 rename_i f;cases f<;>try (simp[Ql] at a;done)
 cases y<;>try (simp[Ql] at a;done)
 rename_i e;cases e<;>try (simp[Ql] at a;done)
 simp only[Ql] at a;split at a<;>cases a;rw[Qp7 d,Qp7 c];exact⟨rfl,_,run_min_int2 (P:=P) w ts b _ _ _ _,by rw[RF_d];simp[RD]⟩
theorem Qbna{c x y v:V}{f e d:Value}{n0 κ:Nat}{M M' : Mem}(hc:RF g w c f)(i:RF g w x e)(h:RF g w y d)(a:Ql n0 κ .pick [c,x,y] M=some (v,M')):
  M'=M/\∃val,((do pure (Next.value (if <-asBool f then e else d)):Sem Next)).run P w = .ok (.value val) w/\RF g w v val:=by
 cases c<;>try (simp[Ql] at a;done)
 rename_i j;cases j<;>try (simp[Ql] at a;done)
 simp only[Ql] at a;rename_i b;cases a;rw[Q41 hc];cases b
 ·exact⟨rfl,d,by simp[asBool],by simpa using h⟩
 ·exact⟨rfl,e,by simp[asBool],by simpa using i⟩
end
end Go.Abs
end
section
namespace Go.Abs
open Go
section
variable(P:Program){g:G}{w:World}
def Qoe(lo c:Bool)(bs:List V):Option (Option Int×Option Int):=
 match lo,c,bs with
 |false,false,[]=>some ((none:Option Int),(none:Option Int))
 |true,false,[.d (.int _ a)]=>some (some a,none)
 |false,true,[.d (.int _ b)]=>some (none,some b)
 |true,true,[.d (.int _ a),.d (.int _ b)]=>some (some a,some b)
 |_,_,_=>none
theorem Qyi(t e:TypeId)(s:P.underlying t=some (.slice e))(z:P.cellsOf e≠0)(lo o:Option Value){bs:List V}{la hb:Option Int}(c : RFs g w bs (lo.toList++o.toList))(f:Qoe lo.isSome o.isSome bs=some (la,hb))(a:Option Addr)(len h:Nat)(x:0<=la.getD 0)(r:la.getD 0<=hb.getD len)(v:hb.getD len<=len)(B:len<=h):
  (Instr.sliceAt t (.slice a len h) lo o none).run P w = .ok (sliced a (la.getD 0).toNat (hb.getD len).toNat h (P.cellsOf e)) w:=by
 have p:∀w,(sizeOf (P.elem t)).run P w = .ok (P.cellsOf e) w:=by
  intro w;have:P.elem t=e:=by simp[Program.elem,s]
  rw[this];cases o:P.info? e with
  |none=>simp[Program.cellsOf,o] at z
  |some i=>rw[Qhk P o,Qfj P o]
 have l:=Qbhe P s;rw[run_sliceAt_slice (P:=P) w t _ _ _ _ l];cases lo with
 |none =>
  cases o with
  |none =>
   simp only[Option.toList,Zar,Option.isSome] at c f;cases bs with
   |cons b bs=>simp[RFs] at c
   |nil =>
    simp only[Qoe,Zh,Zf] at f;obtain⟨rfl,rfl⟩:=f
    simp_all[Go.run_slice_all]
  |some y =>
   simp only[Option.toList,Zbh,Option.isSome] at c f
   match bs,c,f with
   |[.d (.int k n)],c,f =>
    simp only[Qoe,Zh,Zf] at f;obtain⟨rfl,rfl⟩:=f;obtain⟨u,us,j,hr,_⟩:=c;simp at j;obtain⟨rfl,rfl⟩:=j;rw[Qp7 hr,run_slice_h (P:=P) w t a len h l k n (by simp at r;omega) (by simp at v;omega),p];simp
 |some A =>
  cases o with
  |none =>
   simp only[Option.toList,Zar,Option.isSome] at c f
   match bs,c,f with
   |[.d (.int k n)],c,f =>
    simp only[Qoe,Zh,Zf] at f;obtain⟨rfl,rfl⟩:=f;obtain⟨u,us,j,hr,_⟩:=c;simp at j;obtain⟨rfl,rfl⟩:=j;rw[Qp7 hr,run_slice_l (P:=P) w t a len h l k n (by simpa using x) (by simpa using r),p];simp
  |some y =>
   simp only[Option.toList,Option.isSome,Zaq,Zbh] at c f
   match bs,c,f with
   |[.d (.int k n),.d (.int k' m)],c,f =>
    simp only[Qoe,Zh,Zf] at f;obtain⟨rfl,rfl⟩:=f;obtain⟨u,us,j,hr,c⟩:=c;simp at j;obtain⟨rfl,rfl⟩:=j;obtain⟨u,us,j,q,_⟩:=c;simp at j;obtain⟨rfl,rfl⟩:=j;rw[Qp7 hr,Qp7 q,run_slice_lh (P:=P) w t a len h l k k' n m (by simpa using x) (by simpa using r) (by simp at v;omega),p];simp
theorem Qzv(n0 κ sz:Nat)(lo e:Bool)(x:V)(bs:List V)(M:Mem):Ql n0 κ (.slice sz lo e) (x::bs) M =
  match Qoe lo e bs with
  |some (a,b)=>
   match x with
   |.d (.lst c l) | .own c l =>
    let h:=b.getD l.length;let a:=a.getD 0
    if c=sz&&decide (0<=a)&&decide (a<=h)&&decide (h<=l.length) then some (.d (.lst sz ((l.take h.toNat).drop a.toNat)),M) else none
   |.sl c k off len cap =>
    let h:=b.getD len;let a:=a.getD 0
    if c=sz&&decide (0<=a)&&decide (a<=h)&&decide (h<=len)&&decide (len<=cap) then some ((if cap=a.toNat then .sl sz k off 0 0 else .sl sz k (off+a.toNat*sz) (h.toNat-a.toNat) (cap-a.toNat)),M) else none
   |.nils c=>if c=sz&&decide (0<=a.getD 0)&&decide (a.getD 0<=b.getD 0)&&decide (b.getD 0<=0) then some (.nils sz,M) else none
   |_=>none
  |none=>none:=rfl
theorem Qbd4(t e:TypeId)(r:P.underlying t=some (.slice e))(z:P.cellsOf e≠0)(lo j:Option Value){x:V}{bs:List V}{v:V}{u:Value}{n0 κ:Nat}{M M' : Mem}(n:RF g w x u)(hb:RFs g w bs (lo.toList++j.toList))(c:Ql n0 κ (.slice (P.cellsOf e) lo.isSome j.isSome) (x::bs) M=some (v,M')):
  M'=M/\∃val,(Instr.sliceAt t u lo j none).run P w = .ok val w/\RF g w v val:=by
 rw[Qzv] at c;cases ha:Qoe lo.isSome j.isSome bs with
 |none=>simp[ha] at c
 |some I =>
  obtain⟨la,f⟩:=I;simp only[ha] at c;have lst:∀sz' l,RD g.imm w (.lst sz' l) u->sz'=P.cellsOf e->0<=la.getD 0->la.getD 0<=f.getD l.length->f.getD l.length<=l.length ->
    ∃val,(Instr.sliceAt t u lo j none).run P w = .ok val w/\RF g w (.d (.lst (P.cellsOf e) ((l.take (f.getD l.length).toNat).drop (la.getD 0).toNat))) val:=by
   intro sz' l m p F E C;subst p;simp only[RD] at m;obtain⟨a,cap,rfl,q,m⟩:=m;refine⟨_,Qyi P t e r z lo j hb ha a l.length cap F E C q,?_⟩;rw[RF_d];simp only[RD,sliced,List.length_drop,Zbl];have H:min (f.getD l.length).toNat l.length=(f.getD l.length).toNat:=by omega
   rw[H];refine⟨_,_,rfl,by omega,?_⟩;rcases m with rfl|⟨b,o,rfl,m⟩
   ·left;simp
   ·by_cases s:cap=(la.getD 0).toNat
    ·grind
    ·right;refine⟨b,o+(la.getD 0).toNat*P.cellsOf e,by rw[if_neg s];simp[Qho],Q3l fun i x j=>?_⟩;have y : l[(la.getD 0).toNat+i]? = some x:=by
      grind
     have:=Qzu m _ _ y
     grind
  cases x<;>(try simp only at c)<;>try (cases c;done)
  case d dx =>
   cases dx<;>(try simp only at c)<;>try (cases c;done)
   split at c
   case isFalse=>cases c
   case isTrue h =>
    simp only[Zc,decide_eq_true_eq] at h;cases c;exact⟨rfl,lst _ _ (RF_d.1 n) h.1.1.1 h.1.1.2 h.1.2 h.2⟩
  case own =>
   split at c
   case isFalse=>cases c
   case isTrue h =>
    simp only[Zc,decide_eq_true_eq] at h;cases c;exact⟨rfl,lst _ _ (Qkx (n .free)) h.1.1.1 h.1.1.2 h.1.2 h.2⟩
  case nils sz' =>
   split at c
   case isFalse=>cases c
   case isTrue h =>
    simp only[Zc,decide_eq_true_eq] at h;cases c;obtain⟨A,rfl⟩ : ∃A,u = .slice A 0 0:=by simpa[RV] using n .free
    refine⟨rfl,_,Qyi P t e r z lo j hb ha A 0 0 h.1.1.2 h.1.2 h.2 (Ze _),fun ℓ=>?_⟩
    grind [RV,Go.sliced]
  case sl sz' k off len cap =>
   split at c
   case isFalse=>cases c
   case isTrue h =>
    simp only[Zc,decide_eq_true_eq] at h;cases c;rw[Q64] at n;subst n;refine⟨rfl,_,Qyi P t e r z lo j hb ha _ len cap h.1.1.1.2 h.1.1.2 h.1.2 h.2,?_⟩;have B:=h.2;by_cases s:cap=(la.getD 0).toNat
    ·rw[if_pos s,Q64];simp only[sliced]
     grind
    simp_all[if_neg,Q64,Go.sliced,Qho]
theorem Qbnb(f:FuncId){a:List V}{us:List Value}{v:V}{n0 κ:Nat}{M M' : Mem}(b:RFs g w a us)(d:Ql n0 κ (.func f) a M=some (v,M')):
  M'=M/\RF g w v (.func (.func f) #[] us.toArray):=by
 have:Ql n0 κ (.func f) a M=some (.clo f a,M):=by cases a<;>rfl
 rw[this] at d;cases d;refine⟨rfl,fun ℓ=>?_⟩;simp only[RV];exact⟨us,rfl,(Qc8 _ _ _ _).2 ⟨Qje b,fun j c u hc e=>Qus b j c u hc e _⟩⟩
theorem Qbd5(t:TypeId){d:TypeDesc}(h:P.underlying t=some d){cs:List V}{vs:List Value}(b:vs.length=cs.length)(hr:∀(j:Nat)(c:V)(u:Value),cs[j]? = some c->vs[j]? = some u->RF g w c u)(k:∀u∈vs,u.oneCell'=true)(off:Nat){v:V}(a:(if Qic P t then some (.agg ((cs.drop off).take (P.cellsOf t))) else cs[off]?)=some v):
  ∃val,(part t vs.toArray off).run P w = .ok val w/\RF g w v val:=by
 obtain⟨i,l⟩:=Qjp P h;cases hA:Qic P t with
 |true =>
  simp only[hA,if_true,Zh] at a;subst a;refine⟨.agg ((vs.drop off).take (P.cellsOf t)).toArray,?_,fun ℓ=>?_⟩
  ·simp_all[Go.part,Go.Sem.run_bind,Qtb,Go.Result.andThen_ok,if_true,Qhk,Go.Sem.run_pure,Qfj,Array.ext',List.extract,Nat.add_sub_cancel_left]
  ·simp only[RV];refine⟨_,rfl,(Qc8 _ _ _ _).2 ⟨by simp[b],fun j c u hc e=>?_⟩,fun u e=>k u (List.mem_of_mem_drop (List.mem_of_mem_take e))⟩;simp only[List.getElem?_take,Zbs] at hc e;split at hc<;>simp_all;exact hr _ _ _ hc e _
 |false =>
  simp only[hA,Zg,if_false] at a;have f:=(Zm.1 a).1;refine⟨vs[off]'(by omega),?_,hr off v _ a (Zj _)⟩
  simp_all[Go.part,Qtb,Zj]
theorem Q3m{cs:List V}{u:Value}(l:Flat (.agg cs))(h:RF g w (.agg cs) u):
  ∃vs:List Value,u = .agg vs.toArray/\vs.length=cs.length/\(∀(j:Nat)(c:V)(x:Value),cs[j]? = some c->vs[j]? = some x->RF g w c x)/\∀x∈vs,x.oneCell'=true:=by
 have f:=h .free;simp only[RV] at f;obtain⟨vs,rfl,hr,m⟩:=f;obtain⟨k,hr⟩:=(Qc8 _ _ _ _).1 hr;refine⟨vs,rfl,k,fun j c x hc i ℓ=>?_,m⟩;have b:c.dem=c:=by
  have a : V.dems cs=cs:=by simpa[Flat,V.dem] using l
  have d : (V.dems cs)[j]? = some c:=by rw[a];exact hc
  obtain⟨n,e,rfl⟩:=Q4e d;exact Qd4 n
 exact Qmf b (hr j c x hc i)
theorem Qbk3(t:TypeId)(h:Array Field)(o:P.underlying t=some (.struct h))(f:Nat)(a:Field)(p:h[f]? = some a){d:TypeDesc}(m:P.underlying a.type=some d){x v:V}{u:Value}{n0 κ:Nat}{M M' : Mem}(c:Flat x)(i:RF g w x u)(b:Ql n0 κ (.field (Qic P a.type) a.offset (P.cellsOf a.type)) [x] M=some (v,M')):
  M'=M/\∃val,(Instr.field t u f).run P w = .ok val w/\RF g w v val:=by
 cases x<;>try (simp[Ql] at b;done)
 rename_i cs;obtain⟨vs,rfl,l,hr,n⟩:=Q3m c i;simp only[Ql] at b;split at b
 case isFalse=>cases b
 case isTrue hle =>
  have j:(if Qic P a.type then some (.agg ((cs.drop a.offset).take (P.cellsOf a.type))) else cs[a.offset]?)=some v/\M'=M:=by
   grind
  obtain⟨val,e,k⟩:=Qbd5 P a.type m l hr n a.offset j.1
  simp_all[Go.Instr.field,Go.run_underlying,Go.asAgg]
theorem Qbhi(t e:TypeId)(n:Nat)(A:P.underlying t=some (.array n e)){d:TypeDesc}(h:P.underlying e=some d){x i v:V}{u c:Value}{n0 κ:Nat}{M M' : Mem}(b:Flat x)(j:RF g w x u)(r:RF g w i c)(a:Ql n0 κ (.idxval (Qic P e) (P.cellsOf e) n) [x,i] M=some (v,M')):
  M'=M/\∃val,(Instr.index t u c).run P w = .ok val w/\RF g w v val:=by
 cases x<;>try (simp[Ql] at a;done)
 cases i<;>try (simp[Ql] at a;done)
 rename_i cs y;cases y<;>try (simp[Ql] at a;done)
 rename_i k m;obtain⟨vs,rfl,p,hr,s⟩:=Q3m b j;obtain⟨z,q⟩:=Qjp P h;have:=Qp7 r;subst this;simp only[Ql] at a;split at a
 case isFalse=>cases a
 case isTrue hle =>
  simp only[Zc,decide_eq_true_eq] at hle;have l:(if Qic P e then some (.agg ((cs.drop (m.toNat*P.cellsOf e)).take (P.cellsOf e))) else cs[m.toNat*P.cellsOf e]?)=some v/\M'=M:=by
   grind
  obtain⟨val,f,o⟩:=Qbd5 P e h p hr s _ l.1
  simp_all[Go.Instr.index,Go.asIntOf,Go.Sem.run_bind,Go.Sem.run_pure,Go.Result.andThen_ok,Go.run_underlying,if_pos,Qhk,Qfj]
theorem Q87{x:V}{u:Value}(h:Flat x)(e:RF g w x u)(k:Qei x=true):
  u.cells.toList.length=x.cells.length/\(∀(j:Nat)(c:V)(y:Value),x.cells[j]? = some c->u.cells.toList[j]? = some y->RF g w c y)/\∀y∈u.cells.toList,y.oneCell'=true:=by
 have one:u.cells = #[u]->x.cells=[x]->u.oneCell'=true->u.cells.toList.length=x.cells.length/\(∀(j:Nat)(c:V)(y:Value),x.cells[j]? = some c->u.cells.toList[j]? = some y->RF g w c y)/\∀y∈u.cells.toList,y.oneCell'=true:=by
  grind
 cases x<;>simp[Qei] at k
 case agg cs =>
  obtain⟨vs,rfl,l,hr,m⟩:=Q3m h e
  grind [Go.Value.cells,V.cells]
 case d dx =>
  have:=RF_d.1 e;cases dx<;>simp only[RD] at this
  ·subst this;exact one rfl rfl rfl
  ·subst this;exact one rfl rfl rfl
  ·subst this;exact one rfl rfl rfl
  ·obtain⟨a,i,rfl,_⟩:=this;exact one rfl rfl rfl
  ·obtain⟨b,rfl,_⟩:=this;exact one rfl rfl rfl
 case own=>simp[Flat,V.dem] at h
 case ownT=>simp[Flat,V.dem] at h
 case ptr=>have:=Qry.1 e;subst this;exact one rfl rfl rfl
 case nilp=>have:=e .free;simp only[RV] at this;subst this;exact one rfl rfl rfl
 case f dx =>
  have:=e .free;simp only[RV] at this;cases dx<;>simp only[RD] at this
  ·subst this;exact one rfl rfl rfl
  ·subst this;exact one rfl rfl rfl
  ·subst this;exact one rfl rfl rfl
  ·obtain⟨a,i,rfl,_⟩:=this;exact one rfl rfl rfl
  ·obtain⟨b,rfl,_⟩:=this;exact one rfl rfl rfl
 case nils sz=>have:=e .free;simp only[RV] at this;obtain⟨n,rfl⟩:=this;exact one rfl rfl rfl
 case cref=>obtain⟨b,o,rfl,_⟩:=Qur.1 e;exact one rfl rfl rfl
 case sl=>have:=Q64.1 e;subst this;exact one rfl rfl rfl
 case clo=>have:=e .free;simp only[RV] at this;obtain⟨vs,rfl,_⟩:=this;exact one rfl rfl rfl
 case mp=>have:=e .free;simp only[RV] at this;subst this;exact one rfl rfl rfl
theorem Q3n(d:Nat)(X Y:Array Value):∀(M:List Field)(i:Nat)(N:List Nat)(xs ys:List V)(b:Bool),Qid P i M=some N->Qec N xs ys=some b ->
  (∀(j:Nat)(c:V)(u:Value),xs[j]? = some c->X[i+j]? = some u->RF g w c u)->(∀(j:Nat)(c:V)(u:Value),ys[j]? = some c->Y[i+j]? = some u->RF g w c u) ->
  i+xs.length<=X.size->i+ys.length<=Y.size->(Op.eqFields (d+1) X Y M).run P w = .ok b w
 |[],i,N,xs,ys,b,hk,he,_,_,_,_=>by
  simp only[Qid,Zh] at hk;subst hk
  match xs,ys,he with
  |[],[],he=>simp_all[Qec,Zh,Go.Op.eqFields]
 |f::M,i,N,xs,ys,b,hk,he,U,T,hX,W=>by
  simp only[Qid] at hk;split at hk<;>try (cases hk;done)
  rename_i R;split at hk<;>try (cases hk;done)
  rename_i k L E Q;simp only[Zh] at hk;subst hk;have q:∀(Z:Array Value)(u:Value),Qic P f.type=false->(∃t,P.underlying f.type=some t)->Z[f.offset]? = some u->(part f.type Z f.offset).run P w = .ok u w:=by
   simp_all[Go.part,Qtb]
  have p:∀(x y:V)(h e : List V)(u v:Value)(r:Bool)(A : Bool),xs=x::h->ys=y::e->X[i]? = some u->Y[i]? = some v->Qic P f.type=false->(∃t,P.underlying f.type=some t) ->
    (Op.equalIn (d+1) f.type u v).run P w = .ok r w->Qec L h e=some A->(Op.eqFields (d+1) X Y (f::M)).run P w = .ok (r&&A) w:=by
   rintro x y h e u v r A rfl rfl C B hA o hr n;have ih:=Q3n d X Y M (i+1) L h e A Q n (fun j c z hc hz=>U (j+1) c z (by simpa using hc) (by grind))
    (fun j c z hc hz=>T (j+1) c z (by simpa using hc) (by grind)) (by simp at hX;omega) (by simp at W;omega)
   have m:=q X u hA o (by rw[R.1];exact C);have l:=q Y v hA o (by rw[R.1];exact B);simp only[Op.eqFields,R.2,ne_eq,not_false_eq_true,if_true,Sem.run_bind,m,l,Result.andThen_ok,hr];cases r
   ·simp
   ·simpa using ih
  have H:∀x h,xs=x::h->∃u,X[i]? = some u/\RF g w x u:=by
   rintro x h rfl;have s:i<X.size:=by simp at hX;omega
   exact⟨X[i],by simp[s],U 0 x X[i] rfl (by simp[s])⟩
  have F:∀y e,ys=y::e->∃u,Y[i]? = some u/\RF g w y u:=by
   rintro y e rfl;have s:i<Y.size:=by simp at W;omega
   exact⟨Y[i],by simp[s],T 0 y Y[i] rfl (by simp[s])⟩
  unfold Qjd at E;split at E<;>cases E
  ·rename_i kk o
   match xs,ys,he with
   |.d (.int S a)::h,.d (.int k2 c)::e,he =>
    simp only[Qec] at he;split at he<;>try (cases he;done)
    rename_i O;subst O;simp only[Zd] at he;obtain⟨A,n,rfl⟩:=he;obtain⟨u,C,J⟩:=H _ _ rfl;obtain⟨v,B,I⟩:=F _ _ rfl;refine p _ _ _ _ u v (a==c) A rfl rfl C B (by simp[Qic,o]) ⟨_,o⟩ ?_ n;have m : u = .int S a:=by simpa[RD] using RF_d.1 J
    have l : v = .int S c:=by simpa[RD] using RF_d.1 I
    subst m l;simp[Op.equalIn,run_underlying o]
  ·rename_i o
   match xs,ys,he with
   |.d (.bool a)::h,.d (.bool c)::e,he =>
    simp only[Qec,Zd] at he;obtain⟨A,n,rfl⟩:=he;obtain⟨u,C,J⟩:=H _ _ rfl;obtain⟨v,B,I⟩:=F _ _ rfl;refine p _ _ _ _ u v (a==c) A rfl rfl C B (by simp[Qic,o]) ⟨_,o⟩ ?_ n;have m : u = .bool a:=by simpa[RD] using RF_d.1 J
    have l : v = .bool c:=by simpa[RD] using RF_d.1 I
    subst m l;simp[Op.equalIn,run_underlying o]
  ·rename_i o
   match xs,ys,he with
   |.d (.str a)::h,.d (.str c)::e,he =>
    simp only[Qec,Zd] at he;obtain⟨A,n,rfl⟩:=he;obtain⟨u,C,J⟩:=H _ _ rfl;obtain⟨v,B,I⟩:=F _ _ rfl;refine p _ _ _ _ u v (a==c) A rfl rfl C B (by simp[Qic,o]) ⟨_,o⟩ ?_ n;have m : u = .string a:=by simpa[RD] using RF_d.1 J
    have l : v = .string c:=by simpa[RD] using RF_d.1 I
    subst m l;simp[Op.equalIn,run_underlying o]
theorem Qn6:∀(e:List Nat)(xs ys:List V)(b:Bool),Qec e xs ys=some b->xs.length=ys.length
 |[],[],[],_,_=>rfl
 |0::e,.d (.int k a)::xs,.d (.int k' c)::ys,b,h=>by
  simp only[Qec] at h;split at h<;>try (cases h;done)
  simp only[Zd] at h;obtain⟨f,h,_⟩:=h;simp[Qn6 e xs ys f h]
 |1::e,.d (.bool a)::xs,.d (.bool c)::ys,b,h=>by
  simp only[Qec,Zd] at h;obtain⟨f,h,_⟩:=h;simp[Qn6 e xs ys f h]
 |2::e,.d (.str a)::xs,.d (.str c)::ys,b,h=>by
  simp only[Qec,Zd] at h;obtain⟨f,h,_⟩:=h;simp[Qn6 e xs ys f h]
theorem Qbnc(d:Nat){t:TypeId}{k:Nat}(n:Qjd P t=some k){x y:V}{u v:Value}{b:Bool}(e:Qec [k] [x] [y]=some b)(l:RF g w x u)(j:RF g w y v):
  (Op.equalIn (d+1) t u v).run P w = .ok b w:=by
 unfold Qjd at n;split at n<;>cases n
 ·rename_i p i
  match x,y,e with
  |.d (.int o a),.d (.int q c),e =>
   simp only[Qec] at e;split at e<;>try (cases e;done)
   rename_i m;subst m;simp only[Zad,Zh,Bool.and_true] at e;subst e;have h : u = .int o a:=by simpa[RD] using RF_d.1 l
   have f : v = .int o c:=by simpa[RD] using RF_d.1 j
   subst h f;simp[Op.equalIn,run_underlying i]
 ·rename_i i
  match x,y,e with
  |.d (.bool a),.d (.bool c),e =>
   simp only[Qec,Zad,Zh,Bool.and_true] at e;subst e;have h : u = .bool a:=by simpa[RD] using RF_d.1 l
   have f : v = .bool c:=by simpa[RD] using RF_d.1 j
   subst h f;simp[Op.equalIn,run_underlying i]
 ·rename_i i
  match x,y,e with
  |.d (.str a),.d (.str c),e =>
   simp only[Qec,Zad,Zh,Bool.and_true] at e;subst e;have h : u = .string a:=by simpa[RD] using RF_d.1 l
   have f : v = .string c:=by simpa[RD] using RF_d.1 j
   subst h f;simp[Op.equalIn,run_underlying i]
theorem Q00{t:TypeId}{k:Nat}(c:Qjd P t=some k){Z:Array Value}{o:Nat}{u:Value}(a:Z[o]? = some u):(part t Z o).run P w = .ok u w:=by
 have:Qic P t=false/\∃d,P.underlying t=some d:=by
  grind [Qjd,Qic]
 obtain⟨hA,d,b⟩:=this;simp[part,Qtb P b,hA,a]
theorem Qbag{k:Nat}{e:List Nat}{x y:V}{xs ys:List V}{b:Bool}(h:Qec (k::e) (x::xs) (y::ys)=some b):∃r f,Qec [k] [x] [y]=some r/\Qec e xs ys=some f/\b=(r&&f):=by
 match k,x,y,h with
 |0,.d (.int j a),.d (.int i c),h =>
  simp only[Qec] at h |-;split at h<;>try (cases h;done)
  rename_i l;simp only[Zd] at h
  grind
 |1,.d (.bool a),.d (.bool c),h =>
  simp only[Qec,Zd] at h |-
  grind
 |2,.d (.str a),.d (.str c),h =>
  simp only[Qec,Zd] at h |-
  grind
theorem Q42(d:Nat)(X Y:Array Value){e:TypeId}{k:Nat}(h:Qjd P e=some k):∀(n i:Nat)(xs ys:List V)(b:Bool),Qec (List.replicate n k) xs ys=some b ->
  (∀(j:Nat)(c:V)(u:Value),xs[j]? = some c->X[i+j]? = some u->RF g w c u)->(∀(j:Nat)(c:V)(u:Value),ys[j]? = some c->Y[i+j]? = some u->RF g w c u) ->
  i+xs.length<=X.size->i+ys.length<=Y.size->(Op.eqItems (d+1) e 1 X Y (List.range' i n)).run P w = .ok b w
 |0,i,xs,ys,b,he,_,_,_,_=>by
  match xs,ys,he with
  |[],[],he=>simp_all[List.replicate_zero,Qec,Zh,Go.Op.eqItems]
 |n+1,i,xs,ys,b,he,m,l,s,p=>by
  rw[Zbu] at he
  match xs,ys with
  |[],_=>cases k<;>simp[Qec] at he
  |_::_,[]=>grind [absurd,Qn6]
  |x::xs,y::ys =>
   obtain⟨r,I,H,F,rfl⟩:=Qbag he;have f:i<X.size:=by simp at s;omega
   have a:i<Y.size:=by simp at p;omega
   have v:=m 0 x X[i] rfl (by simp[f]);have t:=l 0 y Y[i] rfl (by simp[a]);have C:=Q42 d X Y h n (i+1) xs ys I F (fun j c z hc E=>m (j+1) c z (by simpa using hc) (by grind))
    (fun j c z hc E=>l (j+1) c z (by simpa using hc) (by grind)) (by simp at s;omega) (by simp at p;omega)
   have B:=Q00 (w:=w) P h (Z:=X) (o:=i) (u:=X[i]) (by simp[f]);have A:=Q00 (w:=w) P h (Z:=Y) (o:=i) (u:=Y[i]) (by simp[a]);have q:=Qbnc P d h H v t;simp only[List.range'_succ,Op.eqItems,Nat.mul_one,Sem.run_bind,B,A,Result.andThen_ok,q];cases r
   ·simp
   ·simpa using C
theorem Qbd6(t:TypeId){q:List Nat}(a:Qkq P t=some q){xs ys:List V}{vs d : List Value}{b:Bool}(r:vs.length=xs.length)(hr:∀(j:Nat)(c:V)(x:Value),xs[j]? = some c->vs[j]? = some x->RF g w c x)(m : d.length=ys.length)(l : ∀(j:Nat)(c:V)(x:Value),ys[j]? = some c->d[j]? = some x->RF g w c x)(hb:Qec q xs ys=some b):
  (Op.equalIn 10000 t (.agg vs.toArray) (.agg d.toArray)).run P w = .ok b w/\P.eqGuardType P.depth t=false:=by
 unfold Qkq at a;split at a<;>try (cases a;done)
 ·rename_i s p;split at a<;>try (cases a;done)
  rename_i h;have o:P.fieldsOf t=s:=by simp[Program.fieldsOf,p]
  refine⟨?_,h.2⟩;rw[run_equalIn_struct (P:=P) w 9999 t vs.toArray d.toArray (by rw[o];exact p) h.1,o];exact Q3n P 9998 vs.toArray d.toArray s.toList 0 q xs ys b a hb (fun j c u hc f=>hr j c u hc (by simpa using f)) (fun j c u hc f=>l j c u hc (by simpa using f)) (by simp[r]) (by simp[m])
 ·rename_i n e p;split at a<;>try (cases a;done)
  rename_i h;simp only[Zd] at a;obtain⟨k,v,rfl⟩:=a;obtain⟨i,y⟩:=Zab.1 h.1;refine⟨?_,h.2.2⟩;rw[run_equalIn_array (P:=P) w 9999 vs.toArray d.toArray p y,h.2.1,List.range_eq_range'];exact Q42 P 9998 vs.toArray d.toArray v n 0 xs ys b hb (fun j c u hc f=>hr j c u hc (by simpa using f)) (fun j c u hc f=>l j c u hc (by simpa using f)) (by simp[r]) (by simp[m])
theorem Qbmd(t:TypeId){h:List Nat}(f:Qkq P t=some h){xs ys:List V}{vs a : List Value}{b:Bool}(i:vs.length=xs.length)(hr:∀(j:Nat)(c:V)(x:Value),xs[j]? = some c->vs[j]? = some x->RF g w c x)(e : a.length=ys.length)(d : ∀(j:Nat)(c:V)(x:Value),ys[j]? = some c->a[j]? = some x->RF g w c x)(hb:Qec h xs ys=some b):
  (∀x y,((do eqGuard .eql t x y (.agg vs.toArray) (.agg a.toArray);binOp .eql t (.agg vs.toArray) (.agg a.toArray):Sem Value)).run P w = .ok (.bool b) w) /\
  (∀x y,((do eqGuard .neq t x y (.agg vs.toArray) (.agg a.toArray);binOp .neq t (.agg vs.toArray) (.agg a.toArray):Sem Value)).run P w = .ok (.bool !b) w):=by
 obtain⟨k,l⟩:=Qbd6 P t f i hr e d hb
 simp_all[Go.eqGuard,Go.Sem.run_bind,Go.Result.andThen_ok,Go.run_eql_struct,Go.run_neq_struct]
end
end Go.Abs
end
section
namespace Go.Abs
open Go
section
variable(P:Program){g:G}{w:World}
structure CR(g:G)(w:World)(cs:List V)(us:List Value):Prop where
 len:us.length=cs.length
 rf:∀(j:Nat)(c:V)(y:Value),cs[j]? = some c->us[j]? = some y->RF g w c y
 one:∀y∈us,y.oneCell'=true
theorem CR.append{a b:List V}{x y:List Value}(h:CR g w a x)(k:CR g w b y):CR g w (a++b) (x++y):={
 len:=by simp[h.len,k.len]
 rf:=fun j c z hc d=>by
  rcases Zak j a.length with hlt|hge
  ·rw[Zay hlt] at hc;rw[Zay (by rw[h.len];exact hlt)] at d;exact h.rf j c z hc d
  ·rw[Zau hge] at hc;rw[Zau (by rw[h.len];exact hge),h.len] at d;exact k.rf _ c z hc d
 one:=fun z d=>by
  rcases Zp.1 d with d|d
  ·exact h.one z d
  ·exact k.one z d }
theorem CR.take{a:List V}{x:List Value}(h:CR g w a x)(n:Nat):CR g w (a.take n) (x.take n):={
 len:=by simp[h.len]
 rf:=fun j c z hc b=>by
  simp only[List.getElem?_take] at hc b;split at hc
  ·rename_i d;rw[if_pos d] at b;exact h.rf j c z hc b
  ·cases hc
 one:=fun z b=>h.one z (List.mem_of_mem_take b) }
theorem CR.drop{a:List V}{x:List Value}(h:CR g w a x)(n:Nat):CR g w (a.drop n) (x.drop n):={
 len:=by simp[h.len]
 rf:=fun j c z hc b=>by
  simp only[Zbs] at hc b;exact h.rf _ c z hc b
 one:=fun z b=>h.one z (List.mem_of_mem_drop b) }
theorem CR.nil:CR g w [] []:=⟨rfl,by simp,by simp⟩
theorem CR.cons{c:V}{y:Value}{cs:List V}{us:List Value}(h:RF g w c y)(b:y.oneCell'=true)(k:CR g w cs us):CR g w (c::cs) (y::us):=
 CR.append (a:=[c]) (x:=[y]) ⟨rfl,fun j e z hc d=>by cases j<;>simp_all,by simpa using b⟩ k
theorem CR.rep{z:List V}{u:List Value}(h:CR g w z u):∀n,CR g w (rep n z) (List.replicate n u).flatten
 |0=>by simpa[Abs.rep] using CR.nil
 |n+1=>by
  simp only[Abs.rep,Zbu,Zaz];exact CR.append h (CR.rep h n)
def Qbcw(cells:List Value):List (Nat×List Value)->List Value
 |[]=>cells
 |(off,vs)::rest=>Qbcw (cells.take off++vs++cells.drop (off+vs.length)) rest
theorem Qbd7:∀(vs:List Value)(off i:Nat)(cells:List Value),off+i+vs.length<=cells.length ->
  ((vs.zipIdx i).foldl (fun(cs:Array Value)(p:Value×Nat)=>cs.setIfInBounds (off+p.2) p.1) cells.toArray).toList=cells.take (off+i)++vs++cells.drop (off+i+vs.length)
 |[],off,i,cells,h=>by simp
 |v::vs,off,i,cells,h=>by
  simp only[List.zipIdx_cons,Zbd];have e:cells.toArray.setIfInBounds (off+i) v=(cells.set (off+i) v).toArray:=by simp
  rw[e,Qbd7 vs off (i+1) (cells.set (off+i) v) (by simp at h |-;omega)];simp only[Zs] at h |-;apply List.ext_getElem?;intro j;simp only[List.getElem?_append,List.getElem?_take,Zbs,Zx,Zbl,List.length_set,Zs,List.getElem?_set]
  grind
theorem Qbhj(vs:Array Value)(off:Nat)(cells:Array Value)(h:off+vs.size<=cells.size):
  (vs.zipIdx.foldl (fun(cs:Array Value)(p:Value×Nat)=>cs.setIfInBounds (off+p.2) p.1) cells)=(cells.toList.take off++vs.toList++cells.toList.drop (off+vs.size)).toArray:=by
 have:=Qbd7 vs.toList off 0 cells.toList (by simpa using h);apply Array.ext';have e:vs.zipIdx.foldl (fun(cs:Array Value)(p:Value×Nat)=>cs.setIfInBounds (off+p.2) p.1) cells=vs.toList.zipIdx.foldl (fun(cs:Array Value)(p:Value×Nat)=>cs.setIfInBounds (off+p.2) p.1) cells:=by
  rw[<-Array.foldl_toList];congr 1;simp
 rw[e];simpa using this
theorem Qbd8(c:Nat->Option (Nat×Nat)):∀(a:List (Nat×Value))(b:List Nat)(cells:List Value),
  b.length=a.length ->
  (∀(j i off:Nat)(v:Value),a[j]? = some (i,v)->b[j]? = some off->c i=some (off,v.cells.size)/\off+v.cells.size<=cells.length) ->
  Instr.fill c cells.toArray a=some (Qbcw cells ((b.zip a).map fun p=>(p.1,p.2.2.cells.toList))).toArray
 |[],b,cells,e,_=>by
  simp_all[Zan,Go.Instr.fill,Qbcw]
 |(i,v)::a,[],cells,e,_=>by simp at e
 |(i,v)::a,off::b,cells,e,h=>by
  obtain⟨hp,f⟩:=h 0 i off v rfl rfl;simp only[Instr.fill,hp,List.zip_cons_cons,Zb,Qbcw];rw[if_neg (by simp;omega)];rw[Qbhj _ _ _ (by simpa using f)];have:=Qbd8 c a b (cells.take off++v.cells.toList++cells.drop (off+v.cells.size)) (by simpa using e) (fun j k d v' l ho=>by
   obtain⟨n,m⟩:=h (j+1) k d v' (by simpa using l) (by simpa using ho)
   grind)
  simpa using this
theorem Qbhk:∀(b:List (Nat×List V))(a:List (Nat×List Value)){cells:List V}{us:List Value},CR g w cells us->b.length=a.length ->
  (∀(j o o' : Nat)(cs:List V)(vs:List Value),b[j]? = some (o,cs)->a[j]? = some (o',vs)->o=o'/\CR g w cs vs)->CR g w (Qi4 cells b) (Qbcw us a)
 |[],[],_,_,h,_,_=>h
 |[],_::_,_,_,_,c,_=>by simp at c
 |_::_,[],_,_,_,c,_=>by simp at c
 |(o,cs)::b,(o',vs)::a,cells,us,h,c,hp=>by
  obtain⟨rfl,d⟩:=hp 0 o o' cs vs rfl rfl;simp only[Qi4,Qbcw];refine Qbhk b a ?_ (by simpa using c) (fun j o o' cs vs f e=>hp (j+1) o o' cs vs (by simpa using f) (by simpa using e));rw[d.len];exact CR.append (CR.append (h.take o) d) (h.drop _)
theorem Q3o:∀(a:List (Nat×List V))(cells:List V),(∀p∈a,p.1+p.2.length<=cells.length)->(Qi4 cells a).length=cells.length
 |[],_,_=>rfl
 |(o,cs)::a,cells,h=>by
  have b:=h (o,cs) (by simp);simp only at b;simp only[Qi4];rw[Q3o a _ (fun p hp=>by have:=h p (by simp[hp]);simp;omega)];simp;omega
theorem Qbcx{v:Value}{x:V}(h:Q82 v=some x):RF g w x v/\v.oneCell'=true/\Flat x/\∀n,x.lt n=true:=by
 cases v<;>simp only[Q82] at h<;>try (cases h;done)
 case bool=>cases h;exact⟨by rw[RF_d];simp[RD],rfl,rfl,fun _=>rfl⟩
 case int=>cases h;exact⟨by rw[RF_d];simp[RD],rfl,rfl,fun _=>rfl⟩
 case string=>cases h;exact⟨by rw[RF_d];simp[RD],rfl,rfl,fun _=>rfl⟩
 case pointer a =>
  cases a with
  |none=>cases h;exact⟨fun ℓ=>by simp[RV],rfl,rfl,fun _=>rfl⟩
  |some a=>cases h;exact⟨fun ℓ=>by simp[RV],rfl,rfl,fun _=>rfl⟩
 all_goals (cases h;exact⟨fun ℓ=>by simp[RV],rfl,rfl,fun _=>rfl⟩)
theorem Quv:∀(c:List (Option Nat))(vs:List Value)(xs:List V),Qn5 c vs=some xs->CR g w xs vs/\∀n,V.lt.go n xs=true
 |[],[],xs,h=>by simp[Qn5] at h;subst h;exact⟨CR.nil,fun _=>rfl⟩
 |[],_::_,xs,h=>by simp[Qn5] at h
 |some n::c,[],xs,h=>by simp[Qn5] at h
 |none::c,[],xs,h=>by simp[Qn5] at h
 |some n::c,v::vs,xs,h=>by
  unfold Qn5 at h;split at h<;>try (cases h;done)
  ·simp_all
  ·rename_i b a;simp only[Zo] at b a;obtain⟨f,rfl⟩:=b;obtain⟨rfl,rfl⟩:=a;simp only[Zd] at h;obtain⟨ys,j,rfl⟩:=h;obtain⟨hc,e⟩:=Quv _ _ _ j;exact⟨CR.cons (fun ℓ=>by simp[RV]) rfl hc,fun n=>by simp[V.lt.go,V.lt,e]⟩
  grind
 |none::c,v::vs,xs,h=>by
  simp only[Qn5] at h;split at h
  ·rename_i x i k d;cases h;obtain⟨hc,e⟩:=Quv _ _ _ d;obtain⟨f,m,_,l⟩:=Qbcx (g:=g) (w:=w) k;exact⟨CR.cons f m hc,fun n=>by simp[V.lt.go,l,e]⟩
  ·cases h
theorem Qkc{t:TypeId}{z:List V}(h:Qsj P t=some z):∃i a,P.info? t=some i/\i.zero=some a/\(∀(g:G)(w:World),CR g w z a.cells.toList)/\∀n,V.lt.go n z=true:=by
 unfold Qsj at h;split at h
 ·rename_i c a d b;cases hi:P.info? t with
  |none=>simp[hi] at b
  |some i =>
   simp[hi] at b;refine⟨i,a,rfl,b,fun g w=>(Quv (g:=g) (w:=w) _ _ _ h).1,(Quv (g:=⟨fun _=>0,fun _ _=>False,fun _=>.free⟩) (w:=default) _ _ _ h).2⟩
 ·cases h
theorem Qpj{t:TypeId}{i:TypeInfo}{z:Value}(b:P.info? t=some i)(a:i.zero=some z)(w:World):(zeroValue t).run P w = .ok z w:=by simp[zeroValue,typeInfo,b,a]
theorem Qtc(b:Nat->Option (Nat×Nat))(z:List V)(m:List Value)(E:CR g w z m)(d:List Nat)(a c:List Nat)(xs:List V)(us:List Value)(F:RFs g w xs us)(t:∀x∈xs,Flat x)(Q:d.length=xs.length)(O:a.length=xs.length)(N:c.length=xs.length)(r:∀(j:Nat)(x:V)(i o s:Nat),xs[j]? = some x->d[j]? = some i->a[j]? = some o->c[j]? = some s->Qei x=true/\x.cells.length=s/\o+s<=z.length/\b i=some (o,s)):
  ∃out:List Value,Instr.fill b m.toArray (d.zip us)=some out.toArray/\CR g w (Qi4 z ((a.zip xs).map fun p=>(p.1,p.2.cells))) out:=by
 have M:=Qje F;have l:∀j,j<xs.length->∃x u i o s,xs[j]? = some x/\us[j]? = some u/\d[j]? = some i/\a[j]? = some o/\c[j]? = some s/\Qei x=true/\x.cells.length=s/\o+s<=z.length/\b i=some (o,s)/\CR g w x.cells u.cells.toList:=by
  intro j e;have n:=Zj e;have e2:=Zj (show j<us.length by omega);have e3:=Zj (show j<d.length by omega);have e4:=Zj (show j<a.length by omega);have C:=Zj (show j<c.length by omega);obtain⟨B,H,A,y⟩:=r j _ _ _ _ n e3 e4 C;obtain⟨L,J,I⟩:=Q87 (t _ (Zr e)) (Qus F j _ _ n e2) B;exact⟨_,_,_,_,_,n,e2,e3,e4,C,B,H,A,y,⟨L,J,I⟩⟩
 refine⟨Qbcw m ((a.zip (d.zip us)).map fun p=>(p.1,p.2.2.cells.toList)),?_,?_⟩
 ·refine Qbd8 b (d.zip us) a m (by simp;omega) fun j i off v e ho=>?_;have k : j<xs.length:=by
   grind
  obtain⟨x,u,R,o,s,n,e2,e3,e4,C,B,H,A,y,hc⟩:=l j k;rw[Zbz] at e;obtain⟨h,f⟩:=e;rw[e3] at h;cases h;rw[e2] at f;cases f;rw[e4] at ho;cases ho;have q:v.cells.size=s:=by have:=hc.len;simp at this;omega
  rw[q,E.len];exact⟨y,A⟩
 ·refine Qbhk _ _ E (by simp;omega) fun j o o' cs vs e k=>?_
  grind
theorem Qpk{α d:Type}{f:α->Option d}:∀{l:List α}{r:List d},l.mapM f=some r->r.length=l.length/\∀(j:Nat)(a:α)(b:d),l[j]? = some a->r[j]? = some b->f a=some b
 |[],r,h=>by grind
 |a::l,r,h=>by
  simp only[List.mapM_cons,Zbv,Zas,Option.pure_def,Zh] at h;obtain⟨b,hb,n,hr,rfl⟩:=h;obtain⟨i,e⟩:=Qpk hr;refine⟨by simp[i],fun j m k ha c=>?_⟩;cases j with
  |zero=>simp at ha c;subst ha c;exact hb
  |succ j=>exact e j m k (by simpa using ha) (by simpa using c)
theorem Qwy(t:TypeId)(C:Array Field)(ht:P.underlying t=some (.struct C)){z:List V}(Q:Qsj P t=some z)(F:List Nat)(d:List (Nat×Nat))(H:Q3i P C F=some d)(I:∀f∈C.toList,(P.info? f.type).isSome=true){xs:List V}{us:List Value}{v:V}{n0 κ:Nat}{M M' : Mem}(A:∀x∈xs,Flat x)(S:RFs g w xs us)(E:Ql n0 κ (.build z d) xs M=some (v,M')):
  M'=M/\∃val,(Instr.build t (F.zip us).toArray).run P w = .ok val w/\RF g w v val:=by
 obtain⟨i,N,hi,O,L,_⟩:=Qkc P Q;have a:(if d.length=xs.length&&(d.zip xs).all (fun(p,x)=>Qei x&&x.cells.length==p.2&&decide (p.1+p.2<=z.length))
  then some (V.agg (Qi4 z ((d.zip xs).map fun(p,x)=>(p.1,x.cells))),M) else none)=some (v,M'):=by
  have E:(if d.length=(own1 xs).length&&(d.zip (own1 xs)).all (fun(p,x)=>Qei x&&x.cells.length==p.2&&decide (p.1+p.2<=z.length))
   then some (V.agg (Qi4 z ((d.zip (own1 xs)).map fun(p,x)=>(p.1,x.cells))),M) else none)=some (v,M'):=by cases xs<;>exact E
  rw[Q4x A] at E;exact E
 split at a
 case isFalse=>cases a
 case isTrue h =>
  cases a;simp only[Zc,decide_eq_true_eq,Zt] at h;obtain⟨k,B⟩:=h;obtain⟨U,X⟩:=Qpk H;let b:List (Nat×Nat):=C.toList.map fun f=>(f.offset,P.cellsOf f.type);have q:C.toList.mapM (fun f=>(P.info? f.type).map fun i=>(f.offset,i.size))=some b:=by
   have:∀l:List Field,(∀f∈l,(P.info? f.type).isSome=true)->l.mapM (fun f=>(P.info? f.type).map fun i=>(f.offset,i.size))=some (l.map fun f=>(f.offset,P.cellsOf f.type)):=by
    intro l hl
    induction l with
    |nil=>simp
    |cons f l ih =>
     cases hfi:P.info? f.type with
     |none=>grind
     |some i=>grind [Qfj]
   exact this _ I
  obtain⟨out,J,m⟩:=Qtc (g:=g) (w:=w) (b.toArray[·]?) z N.cells.toList (L g w) F (d.map (·.1)) (d.map (·.2)) xs us S A (by omega) (by simp[k]) (by simp[k])
   (fun j x i o s R W y n=>by
    simp only[Zag,Zd] at y n;obtain⟨p,hp,rfl⟩:=y;obtain⟨p',r,rfl⟩:=n;rw[hp] at r;cases r;have:=B (p,x) (Zn (i:=j) (by grind))
    grind)
  refine⟨rfl,.agg out.toArray,?_,fun ℓ=>?_⟩
  ·simp_all[Go.run_build,Go.Program.built]
  ·simp only[RV];have e:(d.zip xs).map (fun(p,x)=>(p.1,x.cells))=((d.map (·.1)).zip xs).map fun p=>(p.1,p.2.cells):=by
    rw[List.zip_map_left,Zap];rfl
   rw[e];exact⟨out,rfl,(Qc8 _ _ _ _).2 ⟨m.len,fun j c u hc T=>m.rf j c u hc T _⟩,m.one⟩
theorem Q65(t e:TypeId)(n:Nat)(T:P.underlying t=some (.array n e))(r:(P.info? e).isSome=true){z:List V}(J:Qsj P t=some z)(f:List Nat){xs:List V}{us:List Value}{v:V}{n0 κ:Nat}{M M' : Mem}(y:∀x∈xs,Flat x)(N:RFs g w xs us)(l:Ql n0 κ (.build z (f.map fun i=>(i*P.cellsOf e,P.cellsOf e))) xs M=some (v,M')):
  M'=M/\∃val,(Instr.build t (f.zip us).toArray).run P w = .ok val w/\RF g w v val:=by
 obtain⟨i,H,U,I,E,_⟩:=Qkc P J;generalize Q:(f.map fun i=>(i*P.cellsOf e,P.cellsOf e))=pl at l;have a:(if pl.length=xs.length&&(pl.zip xs).all (fun(p,x)=>Qei x&&x.cells.length==p.2&&decide (p.1+p.2<=z.length))
  then some (V.agg (Qi4 z ((pl.zip xs).map fun(p,x)=>(p.1,x.cells))),M) else none)=some (v,M'):=by
  have l:(if pl.length=(own1 xs).length&&(pl.zip (own1 xs)).all (fun(p,x)=>Qei x&&x.cells.length==p.2&&decide (p.1+p.2<=z.length))
   then some (V.agg (Qi4 z ((pl.zip (own1 xs)).map fun(p,x)=>(p.1,x.cells))),M) else none)=some (v,M'):=by cases xs<;>exact l
  rw[Q4x y] at l;exact l
 split at a
 case isFalse=>cases a
 case isTrue h =>
  cases a;simp only[Zc,decide_eq_true_eq,Zt] at h;obtain⟨b,A⟩:=h;obtain⟨F,r⟩:=Zab.1 r;have B:f.length=xs.length:=by grind
  obtain⟨out,C,d⟩:=Qtc (g:=g) (w:=w) (fun i=>some (i*F.size,F.size)) z H.cells.toList (E g w) f (pl.map (·.1)) (pl.map (·.2)) xs us N y B (by simp[b]) (by simp[b])
   (fun j x i o s L R q k=>by
    simp only[Zag,Zd] at q k;obtain⟨p,hp,rfl⟩:=q;obtain⟨S,m,rfl⟩:=k;rw[hp] at m;cases m;have:=A (p,x) (Zn (i:=j) (by grind));simp only[Zc,beq_iff_eq,decide_eq_true_eq] at this
    grind [Option.some.injEq,Qfj])
  refine⟨rfl,.agg out.toArray,?_,fun ℓ=>?_⟩
  ·simp_all[Go.run_build,Go.Program.built]
  ·simp only[RV];have e:(pl.zip xs).map (fun(p,x)=>(p.1,x.cells))=((pl.map (·.1)).zip xs).map fun p=>(p.1,p.2.cells):=by
    rw[List.zip_map_left,Zap];rfl
   rw[e];exact⟨out,rfl,(Qc8 _ _ _ _).2 ⟨d.len,fun j c u hc O=>d.rf j c u hc O _⟩,d.one⟩
end
end Go.Abs
end
section
namespace Go.Abs
open Go
theorem Qbah{n0 κ:Nat}{xs:List V}{M M' : Mem}{v:V}(a:Ql n0 κ .mkmap xs M=some (v,M')):
  (xs=[]\/∃k n,xs=[.d (.int k n)])/\M κ=none/\v = .mp κ/\M'=M.put κ (.mp [] 0):=by
 match xs,a with
 |[],a =>
  simp only[Ql] at a
  simp_all
 |[x],a =>
  cases x with
  |d x =>
   cases x with
   |int k n =>
    simp only[Ql] at a
    simp_all
   |_=>simp[Ql] at a
  |_=>simp[Ql] at a
 |_::_::_,a=>simp[Ql] at a
theorem Quw{M:Mem}{k:Nat}{R:Type}{f:List (V×V×Nat)->Nat->Option R}{r:R}(h:(match M k with|some (.mp es c)=>f es c|_=>none)=some r):∃es c,M k=some (.mp es c)/\f es c=some r:=by
 grind
theorem Q88{n0 κ:Nat}{xs:List V}{M M' : Mem}{v:V}(a:Ql n0 κ .lenm xs M=some (v,M')):
  M'=M/\((∃k es c,xs=[.mp k]/\M k=some (.mp es c)/\v = .d (.int .i64 es.length))\/∃es c,xs=[.d (.mp es c)]/\v = .d (.int .i64 es.length)):=by
 match xs,a with
 |[],a=>simp[Ql] at a
 |[x],a =>
  cases x with
  |mp k =>
   obtain⟨es,c,e,b⟩:=Quw (f:=fun es c=>some ((.d (.int .i64 es.length):V),M)) a
   grind
  |d x =>
   cases x with
   |mp es c=>simp only[Ql] at a;grind
   |_=>simp[Ql] at a
  |_=>simp[Ql] at a
 |_::_::_,a=>simp[Ql] at a
def Qbk4(kd:MK)(c:Bool)(z key v:V)(es:List (V×V×Nat)):Prop :=
 kd.ok key=true/\kd.all es=true/\((∃i u,Qhf key es=some (i,u)/\u.mv=true/\v=if c then .tup [u.dem,.d (.bool true)] else u.dem)\/(Qhf key es=none/\z.dat=true/\v=if c then .tup [z,.d (.bool false)] else z))
theorem Q2p{n0 κ:Nat}{kd:MK}{c:Bool}{z:V}{xs:List V}{M M' : Mem}{v:V}(b:Ql n0 κ (.lookup kd c z) xs M=some (v,M')):
  M'=M/\((∃k key es cl,xs=[.mp k,key]/\M k=some (.mp es cl)/\Qbk4 kd c z key v es) \/
   (∃key a cl,xs=[.d (.mp a cl),key]/\((a.map entV).all fun e=>e.2.1.dat)=true/\Qbk4 kd c z key v (a.map entV))):=by
 match xs,b with
 |[],b=>simp[Ql] at b
 |[x],b =>
  grind [Ql]
 |[x,key],b =>
  cases x with
  |mp k =>
   obtain⟨es,cl,l,j⟩:=Quw (f:=fun es cl=>if kd.ok key&&kd.all es then
    (match Qhf key es with
     |some (_,v)=>if v.mv then some (if c then .tup [v.dem,.d (.bool true)] else v.dem,M) else none
     | none=>if z.dat then some (if c then .tup [z,.d (.bool false)] else z,M) else none) else none) b
   split at j<;>try (cases j;done)
   rename_i h;rw[Zc] at h;cases hf:Qhf key es with
   |none =>
    rw[hf] at j;dsimp only at j;by_cases g:z.dat=true
    ·rw[if_pos g] at j;cases j;exact⟨rfl,.inl ⟨k,key,es,cl,rfl,l,h.1,h.2,.inr ⟨hf,g,rfl⟩⟩⟩
    grind
   |some p =>
    rw[hf] at j;obtain⟨i,u⟩:=p;dsimp only at j;by_cases g:u.mv=true
    ·rw[if_pos g] at j;cases j;exact⟨rfl,.inl ⟨k,key,es,cl,rfl,l,h.1,h.2,.inl ⟨i,u,hf,g,rfl⟩⟩⟩
    grind
  |d x =>
   cases x with
   |mp a cl =>
    simp only[Ql] at b;split at b<;>try (cases b;done)
    rename_i h;rw[Zc] at h;cases hf:Qhf key (a.map entV) with
    |none =>
     rw[hf] at b;dsimp only at b;by_cases g:(z.dat&&(a.map entV).all fun e=>e.2.1.dat)=true
     ·rw[if_pos g] at b;cases b;rw[Zc] at g;exact⟨rfl,.inr ⟨key,a,cl,rfl,g.2,h.1,h.2,.inr ⟨hf,g.1,rfl⟩⟩⟩
     grind
    |some p =>
     rw[hf] at b;obtain⟨i,u⟩:=p;dsimp only at b;by_cases g:(u.dat&&(a.map entV).all fun e=>e.2.1.dat)=true
     ·rw[if_pos g] at b;cases b;rw[Zc] at g;exact⟨rfl,.inr ⟨key,a,cl,rfl,g.2,h.1,h.2,.inl ⟨i,u,hf,Qzh g.1,by rw[Qww g.1]⟩⟩⟩
     grind
   |_=>simp[Ql] at b
  |_=>simp[Ql] at b
 |x::_::_::_,b =>
  grind [Ql]
theorem Q7k{n0 κ:Nat}{kd:MK}{xs:List V}{M M' : Mem}{v:V}(a:Ql n0 κ (.mapset kd) xs M=some (v,M')):
  ∃k key u es cl,xs=[.mp k,key,u]/\M k=some (.mp es cl)/\kd.ok key=true/\kd.all es=true/\u.dat=true/\v = .und /\
   M'=M.put k (match Qhf key es with|some (i,_)=>.mp (modM key (Qws u) i es) cl|none=>.mp (es++[(key,Qws u,cl)]) (cl+1)):=by
 match xs,a with
 |[],a=>simp[Ql] at a
 |[x],a=>cases x<;>simp[Ql] at a
 |[x,_],a=>cases x<;>simp[Ql] at a
 |[x,key,u],a =>
  cases x with
  |mp k =>
   obtain⟨es,cl,c,b⟩:=Quw (f:=fun es cl=>if kd.ok key&&kd.all es&&u.dat then
    some ((.und:V),M.put k (match Qhf key es with
     |some (i,_)=>.mp (modM key (Qws u) i es) cl
     | none=>.mp (es++[(key,Qws u,cl)]) (cl+1))) else none) a
   grind
  |_=>simp[Ql] at a
 |x::_::_::_::_,a=>cases x<;>simp[Ql] at a
theorem Qzw{n0 κ:Nat}{kd:MK}{z:V}{xs:List V}{M M' : Mem}{v:V}(a:Ql n0 κ (.lookupT kd z) xs M=some (v,M')):
  ∃k key es cl,xs=[.mp k,key]/\M k=some (.mp es cl)/\kd.ok key=true/\kd.all es=true/\upM 0 es=true /\
   ((∃i sz l e,Qhf key es=some (i,.own sz l)/\es[i]? = some e/\v = .own sz l/\M'=M.put k (.mp (modM e.1 (.d (.lst sz l)) i es) cl))\/(Qhf key es=none/\z.dat=true/\v=z/\M'=M)):=by
 match xs,a with
 |[],a=>simp[Ql] at a
 |[x],a=>cases x<;>simp[Ql] at a
 |[x,key],a =>
  cases x with
  |mp k =>
   obtain⟨es,cl,c,b⟩:=Quw (f:=fun es cl=>if kd.ok key&&kd.all es&&upM 0 es then
    (match Qhf key es with
     |some (i,.own sz l)=>(es[i]?).map fun e=>((.own sz l:V),M.put k (.mp (modM e.1 (.d (.lst sz l)) i es) cl))
     |some _=>none
     | none=>if z.dat then some (z,M) else none) else none) a
   grind
  |_=>simp[Ql] at a
 |x::_::_::_,a=>cases x<;>simp[Ql] at a
theorem Qzx{n0 κ:Nat}{kd:MK}{xs:List V}{M M' : Mem}{v:V}(a:Ql n0 κ (.mapsetT kd) xs M=some (v,M')):
  ∃k key sz l es cl,xs=[.mp k,key,.own sz l]/\M k=some (.mp es cl)/\kd.ok key=true/\kd.all es=true/\v = .und /\
   M'=M.put k (match Qhf key es with|some (i,_)=>.mp (modM key (.own sz l) i es) cl|none=>.mp (es++[(key,.own sz l,cl)]) (cl+1)):=by
 match xs,a with
 |[],a=>simp[Ql] at a
 |[x],a=>cases x<;>simp[Ql] at a
 |[x,_],a=>cases x<;>simp[Ql] at a
 |[x,key,u],a =>
  cases x with
  |mp k =>
   cases u with
   |own sz l =>
    obtain⟨es,cl,c,b⟩:=Quw (f:=fun es cl=>if kd.ok key&&kd.all es then
     some ((.und:V),M.put k (match Qhf key es with
      |some (i,_)=>.mp (modM key (.own sz l) i es) cl
      | none=>.mp (es++[(key,.own sz l,cl)]) (cl+1))) else none) a
    grind
   |_=>simp[Ql] at a
  |_=>simp[Ql] at a
 |x::_::_::_::_,a=>cases x<;>simp[Ql] at a
theorem Q3p{n0 κ:Nat}{kd:MK}{z:V}{xs:List V}{M M' : Mem}{v:V}(a:Ql n0 κ (.mapentry kd z) xs M=some (v,M')):
  ∃k key es cl,xs=[.mp k,key]/\M k=some (.mp es cl)/\kd.ok key=true/\kd.all es=true/\z.dat=true /\
   ((∃i u e,Qhf key es=some (i,u)/\u.dat=true/\es[i]? = some e/\v = .tup [u,.d (.int .i64 e.2.2)]/\M'=M.put k (.mp (modM key u i es) cl))\/(Qhf key es=none/\v = .tup [z,.d (.int .i64 cl)]/\M'=M.put k (.mp (es++[(key,z,cl)]) (cl+1)))):=by
 match xs,a with
 |[],a=>simp[Ql] at a
 |[x],a=>cases x<;>simp[Ql] at a
 |[x,key],a =>
  cases x with
  |mp k =>
   obtain⟨es,cl,g,c⟩:=Quw (f:=fun es cl=>if kd.ok key&&kd.all es&&z.dat then
    (match Qhf key es with
     |some (i,v)=>if v.dat then (es[i]?).map fun e=>((V.tup [v,.d (.int .i64 e.2.2)]),M.put k (.mp (modM key v i es) cl)) else none
     | none=>some ((V.tup [z,.d (.int .i64 cl)]),M.put k (.mp (es++[(key,z,cl)]) (cl+1)))) else none) a
   split at c<;>try (cases c;done)
   rename_i b;rw[Zc,Zc] at b;refine⟨k,key,es,cl,rfl,g,b.1.1,b.1.2,b.2,?_⟩
   grind
  |_=>simp[Ql] at a
 |x::_::_::_,a=>cases x<;>simp[Ql] at a
theorem Qzj{n0 κ:Nat}{xs:List V}{M M' : Mem}{v:V}(a:Ql n0 κ .entrystore xs M=some (v,M')):
  ∃k b u es cl i e,xs=[.mp k,.d (.int .i64 b),u]/\M k=some (.mp es cl)/\u.dat=true/\Q81 b es=some i/\es[i]? = some e/\v = .und/\M'=M.put k (.mp (modM e.1 (Qws u) i es) cl):=by
 match xs,a with
 |[],a=>simp[Ql] at a
 |[x],a=>cases x<;>simp[Ql] at a
 |[x,_],a=>cases x<;>simp[Ql] at a
 |[x,y,u],a =>
  cases x with
  |mp k =>
   cases y with
   |d y =>
    cases y with
    |int q b =>
     cases q with
     |i64 =>
      obtain⟨es,cl,g,c⟩:=Quw (f:=fun es cl=>if u.dat then
       (match Q81 b es with
        |some i=>(es[i]?).map fun e=>((.und:V),M.put k (.mp (modM e.1 (Qws u) i es) cl))
        | none=>none) else none) a
      grind
     |_=>simp[Ql] at a
    |_=>simp[Ql] at a
   |_=>simp[Ql] at a
  |_=>simp[Ql] at a
 |x::y::_::_::_,a=>cases x<;>simp[Ql] at a
end Go.Abs
end
section
namespace Go.Abs
open Go
def There(M:Mem)(k:Nat):Prop:=(M k).isSome=true
theorem There.put{M:Mem}{κ:Nat}{b:Bx}{k:Nat}(h:There M k):There (M.put κ b) k:=by
 grind [There,Mem.put]
theorem There.self{M:Mem}{κ:Nat}{b:Bx}:There (M.put κ b) κ:=by simp[There,Mem.put]
def MOn(p:Nat->Prop)(M:Mem):Prop:=∀k cs,M k=some (.cells cs)->V.ons p cs
theorem Qfk{p:Nat->Prop}{a b:List V}:V.ons p (a++b)↔V.ons p a/\V.ons p b:=by
 grind [Qiq]
theorem Qn7{p:Nat->Prop}{a:List V}(n:Nat)(h:V.ons p a):V.ons p (a.take n):=by
 grind [Qiq,List.mem_of_mem_take]
theorem Qn8{p:Nat->Prop}{a:List V}(n:Nat)(h:V.ons p a):V.ons p (a.drop n):=by
 grind [Qiq,List.mem_of_mem_drop]
theorem Q2q{p:Nat->Prop}{a:List V}(n:Nat){x:V}(h:V.ons p a)(b:x.on p):V.ons p (a.set n x):=by
 rw[Qiq] at *
 grind
theorem Qft{p:Nat->Prop}{a:List V}{n:Nat}{x:V}(h:V.ons p a)(b:a[n]? = some x):x.on p:=by
 rw[Qiq] at h;grind
theorem Qof{p:Nat->Prop}{x:V}(h:x.on p):V.ons p x.cells:=by
 cases x<;>simp_all[V.cells,V.ons,V.on]
theorem Q01{p:Nat->Prop}:∀(a:List (Nat×List V))(cells:List V),V.ons p cells->(∀q∈a,V.ons p q.2)->V.ons p (Qi4 cells a)
 |[],_,h,_=>h
 |(o,vs)::rest,cells,h,hp=>by
  simp only[Qi4];exact Q01 rest _ (Qfk.2 ⟨Qfk.2 ⟨Qn7 _ h,hp (o,vs) (by simp)⟩,Qn8 _ h⟩) (fun q b=>hp q (by simp[b]))
theorem Q43{p:Nat->Prop}{z:List V}(h:V.ons p z):∀n,V.ons p (rep n z)
 |0=>by simp[rep,V.ons]
 |n+1=>by
  simp only[rep,Zbu,Zaz];exact Qfk.2 ⟨h,Q43 h n⟩
theorem Qbk5{p:Nat->Prop}(cs:List D):V.ons p (cs.map V.d):=by
 rw[Qiq];simp[V.on]
def K.okz:K->Prop
 |.alloc z=>∀p,V.ons p z
 |.build z _=>∀p,V.ons p z
 |.bslice _ _ z _=>∀p,V.ons p z
 |.makes _ _ z=>∀p,V.ons p z
 |_=>True
theorem Qzy{α c:Type}{a:List α}{b:List c}{q:α×c}(h:q∈a.zip b):q.2∈b:=(List.of_mem_zip h).2
theorem Q89{n0 κ:Nat}{k:K}{xs:List V}{M M' : Mem}{v:V}(L:k.okz)(g:Ql n0 κ k xs M=some (v,M'))(j:V.ons (There M) xs)(B:MOn (There M) M):
  v.on (There M')/\MOn (There M') M'/\∀k,There M k->There M' k:=by
 have keep:∀{v' : V},some (v',M)=some (v,M')->v'.on (There M)->v.on (There M')/\MOn (There M') M'/\∀k,There M k->There M' k:=by
  grind
 have w:∀{κ:Nat}{cs:List V}{v' : V},some (v',M.put κ (.cells cs))=some (v,M')->V.ons (There M) cs->v'.on (There (M.put κ (.cells cs)))->v.on (There M')/\MOn (There M') M'/\∀k,There M k->There M' k:=by
  intro κ cs v' e h R;cases e;refine⟨R,fun k cs' r=>?_,fun k r=>r.put⟩;simp only[Mem.put] at r;split at r
  ·cases r;exact ons_mono (fun _ h=>h.put) _ h
  ·exact ons_mono (fun _ h=>h.put) _ (B k cs' r)
 have t:∀{κ:Nat}{es:List (V×V×Nat)}{c:Nat}{v' : V},v'.on (There (M.put κ (.mp es c)))->v'.on (There (M.put κ (.mp es c)))/\MOn (There (M.put κ (.mp es c))) (M.put κ (.mp es c))/\∀k,There M k->There (M.put κ (.mp es c)) k:=by
  intro κ es c v' R;refine⟨R,fun k cs' r=>?_,fun k r=>r.put⟩;simp only[Mem.put] at r;split at r
  ·cases r
  ·exact ons_mono (fun _ h=>h.put) _ (B k cs' r)
 cases k
 case mov=>match xs,g,j with|[x],g,j=>exact keep g j.1
 case pick =>
  match xs,g,j with
  |[.d (.bool b),x,y],g,j =>
   simp only[Ql] at g;exact keep g (by cases b;exact j.2.2.1;exact j.2.1)
 case box n =>
  match xs,g,j with
  |[x],g,j =>
   simp only[Ql] at g;split at g<;>try (cases g;done)
   split at g<;>try (cases g;done)
   exact w g (Qof j.1) There.self
 case alloc z =>
  match xs,g with
  |[],g =>
   simp only[Ql] at g;split at g<;>try (cases g;done)
   exact w g (L _) There.self
 case build z ps =>
  have m : (if ps.length=(own1 xs).length&&(ps.zip (own1 xs)).all (fun(p,x)=>Qei x&&x.cells.length==p.2&&decide (p.1+p.2<=z.length))
   then some (V.agg (Qi4 z ((ps.zip (own1 xs)).map fun(p,x)=>(p.1,x.cells))),M) else none)=some (v,M'):=by cases xs<;>exact g
  have j:=(Q85 xs).2 j;split at m<;>try (cases m;done)
  refine keep m ?_;simp only[V.on];refine Q01 _ _ (L _) fun q H=>?_;simp only[Zl] at H;obtain⟨⟨p,x⟩,Q,rfl⟩:=H;exact Qof (Qiq.1 j x (Qzy Q))
 case blit sz n z ps =>
  have m : (if ps.length=xs.length&&decide (0<sz)&&z.length==sz&&(ps.zip xs).all (fun(i,x)=>Qei x&&x.cells.length==sz&&decide (i<n))
   then (toDs (Qi4 (rep n z) ((ps.zip xs).map fun(i,x)=>(i*sz,x.cells)))).map fun ds=>(V.d (.lst sz (Qi3 sz n ds)),M) else none)=some (v,M'):=by cases xs<;>exact g
  split at m<;>try (cases m;done)
  simp only[Zd,Zf] at m;obtain⟨ds,_,rfl,rfl⟩:=m;exact keep rfl trivial
 case bslice sz n z ps =>
  have m : (if ps.length=xs.length&&decide (0<sz)&&z.length==sz&&(ps.zip xs).all (fun(i,x)=>Qei x&&x.cells.length==sz&&decide (i<n))&&(M κ).isNone
   then some (V.sl sz κ 0 n n,M.put κ (.cells (Qi4 (rep n z) ((ps.zip xs).map fun(i,x)=>(i*sz,x.cells))))) else none)=some (v,M'):=by cases xs<;>exact g
  split at m<;>try (cases m;done)
  refine w m (Q01 _ _ (Q43 (L _) n) fun q H=>?_) There.self;simp only[Zl] at H;obtain⟨⟨p,x⟩,Q,rfl⟩:=H;exact Qof (Qiq.1 j x (Qzy Q))
 case load agg n =>
  match xs,g,j with
  |[.ptr k off],g,j =>
   simp only[Ql] at g;split at g<;>try (cases g;done)
   rename_i cs r;split at g<;>try (cases g;done)
   split at g
   ·exact keep g (by simp only[V.on];exact (ons_dems _).2 (Qn7 _ (Qn8 _ (B k cs r))))
   ·simp only[Zd,Zf] at g;obtain⟨c,hc,rfl,rfl⟩:=g;exact keep rfl ((Qd3 c).2 (Qft (B k cs r) hc))
  |[.cref cs],g,j =>
   simp only[Ql] at g;split at g<;>try (cases g;done)
   split at g
   ·grind [V.on,Qbk5]
   ·simp only[Zd,Zf] at g;obtain⟨c,hc,rfl,rfl⟩:=g;exact keep rfl trivial
 case loadT =>
  match xs,g,j with
  |[.ptr k off],g,j =>
   simp only[Ql] at g;split at g<;>try (cases g;done)
   rename_i cs r;simp only[Zd] at g;obtain⟨c,hc,g⟩:=g;have I:=Qft (B k cs r) hc;exact w (congrArg some g) (Q2q _ (B k cs r) ((Qd3 c).2 I)) (Qf8 (fun _ h=>h.put) _ ((Q7i c).2 I))
 case store n =>
  match xs,g,j with
  |[.ptr k off,x],g,j =>
   simp only[Ql] at g;split at g<;>try (cases g;done)
   split at g<;>try (cases g;done)
   rename_i cs r;split at g<;>try (cases g;done)
   exact w g (Qfk.2 ⟨Qfk.2 ⟨Qn7 _ (B k cs r),Qof ((Qbcu x).2 j.2.1)⟩,Qn8 _ (B k cs r)⟩) trivial
 case nilchk =>
  match xs,g,j with
  |[x],g,j =>
   simp only[Ql] at g;split at g<;>try (cases g;done)
   all_goals exact keep g j.1
 case bin op tb =>
  match xs,g,j with
  |[.d x,.d y],g,j =>
   simp only[Ql,Zd,Zf] at g;obtain⟨c,hc,rfl,rfl⟩:=g;exact keep rfl trivial
 case eqa neg ks =>
  match xs,g,j with
  |[.agg x,.agg y],g,j =>
   simp only[Ql,Zd,Zf] at g;obtain⟨c,hc,rfl,rfl⟩:=g;exact keep rfl trivial
 case un op =>
  match xs,g,j with
  |[.d x],g,j =>
   simp only[Ql,Zd,Zf] at g;obtain⟨c,hc,rfl,rfl⟩:=g;exact keep rfl trivial
 case conv k =>
  match xs,g,j with
  |[.d (.int k' n)],g,j=>exact keep g trivial
 case bstr =>
  match xs,g,j with
  |[.d (.lst sz l)],g,j =>
   simp only[Ql,Zd,Zf] at g;obtain⟨c,hc,rfl,rfl⟩:=g;exact keep rfl trivial
 case func f =>
  have m : some (V.clo f xs,M)=some (v,M'):=by cases xs<;>exact g
  grind [V.on]
 case makes sz bytes z =>
  match xs,g,j with
  |[.d (.int .i64 l),.d (.int .i64 c)],g,j =>
   simp only[Ql] at g;split at g<;>try (cases g;done)
   exact w g (Q43 (L _) _) There.self
 case slice sz lo hi =>
  match xs,g,j with
  |x::bs,g,j =>
   rw[Qzv] at g;split at g<;>try (cases g;done)
   split at g<;>try (cases g;done)
   all_goals
    try simp only at g
    split at g<;>try (cases g;done)
   ·exact keep g trivial
   ·exact keep g trivial
   ·refine keep g ?_;split
    ·exact j.1
    ·exact j.1
   ·exact keep g trivial
 case slcT sz =>
  match xs,g,j with
  |[x,.d (.int _ a)],g,j =>
   simp only[Ql] at g;split at g<;>try (cases g;done)
   all_goals
    split at g<;>try (cases g;done)
    exact keep g trivial
 case fld off =>
  match xs,g,j with
  |[.ptr k o],g,j=>exact keep g (v':=.ptr k (o+off)) j.1
  |[.cref cs],g,j=>exact keep g trivial
 case field agg off n =>
  match xs,g,j with
  |[.agg cs],g,j =>
   simp only[Ql] at g;split at g<;>try (cases g;done)
   split at g
   ·exact keep g (by simp only[V.on];exact Qn7 _ (Qn8 _ j.1))
   ·simp only[Zd,Zf] at g;obtain⟨c,hc,rfl,rfl⟩:=g;exact keep rfl (Qft j.1 hc)
 case idx sz =>
  match xs,g,j with
  |[x,.d (.int _ i)],g,j =>
   simp only[Ql] at g;split at g<;>try (cases g;done)
   all_goals split at g<;>try (cases g;done)
   ·simp only[Zd,Zf] at g;obtain⟨c,hc,rfl,rfl⟩:=g;exact keep rfl trivial
   ·simp only[Zd,Zf] at g;obtain⟨c,hc,rfl,rfl⟩:=g;exact keep rfl trivial
   ·exact keep (v':=.ptr _ _) g j.1
 case idxarr sz len =>
  match xs,g,j with
  |[x,.d (.int _ i)],g,j =>
   simp only[Ql] at g;split at g<;>try (cases g;done)
   split at g<;>try (cases g;done)
   ·exact keep (v':=.ptr _ _) g j.1
   ·exact keep g trivial
 case idxval agg sz len =>
  match xs,g,j with
  |[.agg cs,.d (.int _ i)],g,j =>
   simp only[Ql] at g;split at g<;>try (cases g;done)
   split at g
   ·exact keep g (by simp only[V.on];exact Qn7 _ (Qn8 _ j.1))
   ·simp only[Zd,Zf] at g;obtain⟨c,hc,rfl,rfl⟩:=g;exact keep rfl (Qft j.1 hc)
 case extract i =>
  match xs,g,j with
  |[.tup vs],g,j =>
   simp only[Ql,Zd,Zf] at g;obtain⟨c,hc,rfl,rfl⟩:=g;exact keep rfl ((Q7i c).2 (Qft j.1 hc))
 case len =>
  match xs,g,j with
  |[x],g,j =>
   simp only[Ql] at g;split at g<;>try (cases g;done)
   ·exact keep g trivial
   ·exact keep g trivial
   ·exact keep g trivial
   ·exact keep g trivial
 case lens =>
  match xs,g,j with
  |[.d (.str s)],g,j=>exact keep g trivial
 case idxs =>
  match xs,g,j with
  |[.d (.str s),.d (.int _ i)],g,j =>
   simp only[Ql] at g;split at g<;>try (cases g;done)
   exact keep g trivial
 case append sz bytes =>
  match xs,g,j with
  |[.nils A,x],g,j =>
   simp only[Ql] at g;split at g<;>try (cases g;done)
   split at g<;>try (cases g;done)
   exact keep g trivial
  |[.own A l,x],g,j =>
   simp only[Ql] at g;split at g<;>try (cases g;done)
   split at g<;>try (cases g;done)
   exact keep g trivial
  |[.ownT A l,x],g,j =>
   simp only[Ql] at g;split at g<;>try (cases g;done)
   split at g<;>try (cases g;done)
   exact keep g trivial
  |[.sl A k off len cap,x],g,j =>
   simp only[Ql] at g;split at g<;>try (cases g;done)
   split at g
   ·split at g
    ·exact keep g trivial
    ·split at g<;>try (cases g;done)
     exact keep g j.1
   ·split at g<;>try (cases g;done)
    exact keep g trivial
 case appw sz bytes =>
  match xs,g,j with
  |[.nils A,x],g,j =>
   simp only[Ql] at g;split at g<;>try (cases g;done)
   split at g<;>try (cases g;done)
   exact keep g trivial
  |[.sl A k off len cap,x],g,j =>
   simp only[Ql] at g;split at g<;>try (cases g;done)
   rename_i l ys cs U T r;split at g
   ·split at g
    ·exact keep g trivial
    ·split at g<;>try (cases g;done)
     exact keep g j.1
   ·split at g
    ·split at g<;>try (cases g;done)
     exact w g (Qfk.2 ⟨Qfk.2 ⟨Qn7 _ (B k cs r),Qbk5 _⟩,Qn8 _ (B k cs r)⟩) There.self
    ·split at g<;>try (cases g;done)
     exact keep g trivial
 case max2 =>
  match xs,g,j with
  |[.d (.int k a),.d (.int k' b)],g,j =>
   simp only[Ql] at g;split at g<;>try (cases g;done)
   exact keep g trivial
 case min2 =>
  match xs,g,j with
  |[.d (.int k a),.d (.int k' b)],g,j =>
   simp only[Ql] at g;split at g<;>try (cases g;done)
   exact keep g trivial
 case call f=>cases xs<;>simp[Ql] at g
 case callv=>cases xs<;>simp[Ql] at g
 case callO=>cases xs<;>simp[Ql] at g
 case isnil b=>cases xs<;>simp[Ql] at g
 case lenm =>
  obtain⟨rfl,⟨k,es,c,rfl,F,rfl⟩|⟨es,c,rfl,rfl⟩⟩:=Q88 g<;>exact keep rfl trivial
 case mkmap =>
  obtain⟨_,F,rfl,rfl⟩:=Qbah g;exact t There.self
 case lookup kd c z =>
  obtain⟨es,rfl,E⟩ : ∃es,M'=M/\Qbk4 kd c z (xs.getD 1 .und) v es:=by
   obtain⟨rfl,⟨b,key,es,cl,rfl,_,h⟩|⟨key,S,cl,rfl,_,h⟩⟩:=Q2p g
   all_goals grind
  rcases E.2.2 with⟨i,u,J,C,rfl⟩|⟨J,C,rfl⟩
  ·refine keep rfl ?_;cases c
   ·exact Qwv (Qbhc C)
   ·exact⟨Qwv (Qbhc C),trivial,trivial⟩
  ·refine keep rfl ?_;cases c
   ·exact Qwv C
   ·exact⟨Qwv C,trivial,trivial⟩
 case lookupT kd z =>
  obtain⟨k,key,es,cl,rfl,F,P,O,E,J⟩:=Qzw g;rcases J with⟨i,sz,l,e,C,N,rfl,rfl⟩|⟨C,N,rfl,rfl⟩
  ·exact t trivial
  ·exact keep rfl (Qwv N)
 case mapsetT kd =>
  obtain⟨k,key,sz,l,es,cl,rfl,F,P,O,rfl,rfl⟩:=Qzx g;split<;>exact t trivial
 case mapset kd =>
  obtain⟨k,key,u,es,cl,rfl,F,P,O,E,rfl,rfl⟩:=Q7k g;split<;>exact t trivial
 case mapentry kd z =>
  obtain⟨k,key,es,cl,rfl,F,P,O,E,J⟩:=Q3p g;rcases J with⟨i,u,e,C,N,W,rfl,rfl⟩|⟨C,rfl,rfl⟩
  ·exact t ⟨Qwv N,trivial,trivial⟩
  ·exact t ⟨Qwv E,trivial,trivial⟩
 case entrystore =>
  obtain⟨k,b,u,es,cl,i,e,rfl,F,P,O,E,rfl,rfl⟩:=Qzj g;exact t trivial
end Go.Abs
end
