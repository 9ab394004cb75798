/-
  Part 8 of the proof: see the last text.
-/
import Derived.Test.YtdckcingoapofaaGreatDoorP7
import Derived.Test.YtdckcingoapofaaGreatDoorProg
import Derived.KernelRfl
import Derived.Sort.Statements
import Derived.Lib.ItoaNum
import Derived.Lib.SlicesCompact
import Derived.Shelf.SlGeneric
import Derived.Shelf.Strings.BuilderK
import Derived.Shelf.Strconv.Itoa2
import Derived.Shelf.Strconv.Itoa3
import Derived.Shelf.Slices.CompactI
import Derived.Ground.Names2Prog
import Derived.Ground.SlgmProg
import Derived.Ground.SlsfProg
import Derived.Shelf.SlLaysF0
import Derived.Shelf.SortM.Plain
import Derived.Shelf.SortM.SortNone
import Derived.Shelf.SlSortCmp.NoneTotal
import Derived.Shelf.Small.Bits
import Derived.WalkKit
import Derived.BigCall
import Derived.Lib.OthersKept
import Derived.Lib.AppendIntMem
import Derived.Lib.SmallJoins
import Derived.Lib.ItoaLen
import Derived.OpenShut
import Derived.ProofKit
import Derived.Carry
import GoSem.Claim
import GoSem.ClaimJoined
import Derived.JoinedTies
set_option linter.unusedVariables false
set_option linter.unusedSimpArgs false
set_option linter.unusedSectionVars false
section
namespace Go.Abs
open Go
set_option maxRecDepth 10000
set_option maxHeartbeats 4000000
theorem Qm7{P:Program}{c:Nat}{Qd9:_}{Qdu:_}{Qen:_}{Qb4:_}{Qe0:_}{Qcq:_}{Qw:_}{Qcg:_}{Qb7:_}{Qcl:_}{Qdf:_}{Qed:_}(N:Qj3 P 12 Qd9)(O:Qku P 13 Qdu)(J:Qmv P 15 Qen)(H:Qis P 16 Qb4)(R:Qlt P 20 Qe0)(I:Qlg P 23 Qcq)(L:Qe8 P 28 Qw)(A:Qix P 29 Qcg)(C:Qh6 P 30 Qb7)(Q:Qh5 P 35 Qcl)(B:Qkv P 36 Qdf)(E:Qnx P 37 Qed)(F:Qo P c=some Qi7)(fuel:Nat):Qi6 P c (Qgm Qd9 Qdu Qen Qb4 Qe0 Qcq Qw Qcg Qb7 Qcl Qdf Qed fuel):=by
 intro s1 r h;refine Qbu F rfl fun Γ M U T hM=>?_;subst U;refine ini ?_;refine Z 8 0 ?_;refine cl N h (cq fun _ h=>?_);refine Z 2 0 ?_;refine Tr.cond rfl (fun e=>?_) (fun e=>?_)
 ·have e:=nT' e;replace h:=bF e h;exact Y
 ·have e:=nF' e;replace h:=bT e h;refine Z 4 0 ?_;refine cl (O _) h (cq fun n h=>?_);refine Z 6 0 ?_;refine cl (I _) h (cq fun⟨q,S,_⟩ h=>?_);refine Z 12 0 ?_;refine cl (H _) h (cq fun⟨g,_⟩ h=>?_);refine Z 10 0 ?_;refine cl (J _) h (cq fun⟨f,_⟩ h=>?_);refine Z 13 0 ?_;refine cd h rfl (fun h=>Y) (fun h=>?_);refine Z 2 0 ?_;refine cu h (fun x=>⟨look [(3,.ptr (Γ.n0+3) 0),(5,(b_ S)),(7,.ptr (Γ.n0+7) 0),(9,.ptr (Γ.n0+9) 0),(51,(b_ x))],Qn Γ.n0 (bxs [(1,.cells ((Qd5 s1))),(3,.cells ((Q2 n))),(4,.cells ((Qco q))),(7,.cells ((Qh g))),(9,.cells ((Qh f)))]) M,Γ.n0+170⟩) (fun _ h=>?_) (fun x h=>?_)
  ·refine Z 4 0 ?_;refine bs h (fun _ h=>Y) (fun _ h=>?_);refine Z 4 0 ?_;exact bs h (fun _ h=>Y) (fun _ h=>Y)
  ·refine cd h rfl (fun h=>Y) (fun h=>?_);refine Z 7 0 ?_;refine Tr.cond rfl (fun b=>?_) (fun b=>?_)
   ·have b:=nT' b;replace h:=bF b h;refine Z 6 0 ?_;refine cl (B _ _) h (cq fun w h=>?_);refine Rn.blit (xs:=[(l_ w)]) (l:=List.map (eL 1 (eI .i64)) [w]) tv rfl rfl rfl rfl ?_;refine Z 3 0 ?_;refine Rn.blit (xs:=[(l_ n.Plant.zB)]) (l:=List.map (eL 1 (eI .i64)) [n.Plant.zB]) tv rfl rfl rfl rfl ?_;refine cl (Q _ _) h (cq fun _ h=>?_);refine Z 2 0 ?_;refine bs h (fun _ h=>Y) (fun _ h=>?_);refine Z 4 0 ?_;refine cl (B _ _) h (cq fun _ h=>?_);exact Y
   ·have b:=nF' b;replace h:=bT b h;refine Z 4 0 ?_;refine cl (E _ _ _) h (cq fun⟨j,_⟩ h=>?_);refine Z 9 0 ?_;refine cl (E _ _ _) h (cq fun⟨i,_⟩ h=>?_);refine Z 7 0 ?_;refine cu h (fun v=>⟨look [(3,.ptr (Γ.n0+3) 0),(7,.ptr (Γ.n0+7) 0),(11,.d (.lst 1 (List.map (eL 1 (eI .i64)) j))),(13,.d (.lst 1 (List.map (eL 1 (eI .i64)) i))),(90,(b_ v))],Qn Γ.n0 (bxs [(1,.cells ((Qd5 s1))),(3,.cells ((Q2 n))),(4,.cells ((Qco q))),(7,.cells ((Qh g))),(9,.cells ((Qh f)))]) M,Γ.n0+170⟩) (fun _ h=>?_) (fun v h=>?_)
    ·refine Z 4 0 ?_;exact bs h (fun _ h=>Y) (fun _ h=>Y)
    ·refine cd h rfl (fun h=>Y) (fun h=>?_);refine Z 7 0 ?_;refine lo h (fun m=>⟨look [(3,.ptr (Γ.n0+3) 0),(7,.ptr (Γ.n0+7) 0),(11,.d (.lst 1 (List.map (eL 1 (eI .i64)) j))),(13,.d (.lst 1 (List.map (eL 1 (eI .i64)) i))),(15,(i_ m))],Qn Γ.n0 (bxs [(1,.cells ((Qd5 s1))),(3,.cells ((Q2 n))),(4,.cells ((Qco q))),(7,.cells ((Qh g))),(9,.cells ((Qh f)))]) M,Γ.n0+170⟩) wk (fun _ m h=>?_);refine Z 8 0 ?_;refine ci h rfl (fun h=>?_) (fun h=>Y);refine Tr.skip ?_;refine Tr.cutJ (fun(_:Unit)=>⟨look [(3,.ptr (Γ.n0+3) 0),(7,.ptr (Γ.n0+7) 0),(11,.d (.lst 1 (List.map (eL 1 (eI .i64)) j))),(13,.d (.lst 1 (List.map (eL 1 (eI .i64)) i))),(15,(i_ m))],Qn Γ.n0 (bxs [(1,.cells ((Qd5 s1))),(3,.cells ((Q2 n))),(4,.cells ((Qco q))),(7,.cells ((Qh g))),(9,.cells ((Qh f)))]) M,Γ.n0+170⟩) h (fun W h=>?_) (fun z h=>?_)
     ·refine Z 11 1 ?_;intro _ h;refine cd h rfl (fun h=>?_) (fun h=>?_)
      ·refine Tr.exit ?_;exact⟨_,h,(by exact Qfo [] ⟨(kPtr rfl),(kPtr rfl),sq,sq,sq,tv⟩ ⟨bS rfl rfl rfl,bS rfl rfl rfl,bS rfl rfl rfl,bS rfl rfl rfl,bS rfl rfl rfl,tv⟩ rfl)⟩
      ·refine Z 35 1 ?_;intro _ _ u _ _ o h;refine cl (R _ _) h (cq fun _ h=>?_);refine Z 2 0 ?_;refine Tr.cond rfl (fun a=>?_) (fun a=>?_)
       ·have a:=nT' a;replace h:=bF a h;refine Tr.exit ?_;exact⟨_,h,(by exact Qfo [] ⟨(kPtr rfl),(kPtr rfl),sq,sq,sq,tv⟩ ⟨bS rfl rfl rfl,bS rfl rfl rfl,bS rfl rfl rfl,bS rfl rfl rfl,bS rfl rfl rfl,tv⟩ rfl)⟩
       ·have a:=nF' a;replace h:=bT a h;refine Z 6 0 ?_;refine lo h (fun p=>⟨look [(3,.ptr (Γ.n0+3) 0),(7,.ptr (Γ.n0+7) 0),(11,.d (.lst 1 (List.map (eL 1 (eI .i64)) j))),(13,.d (.lst 1 (List.map (eL 1 (eI .i64)) i))),(15,(i_ m)),(16,(l_ u)),(17,(i_ o)),(18,(i_ p))],Qn Γ.n0 (bxs [(1,.cells ((Qd5 s1))),(3,.cells ((Q2 n))),(4,.cells ((Qco q))),(7,.cells ((Qh g))),(9,.cells ((Qh f)))]) M,Γ.n0+170⟩) wk (fun _ p h=>?_);refine Z 8 0 ?_;refine ci h rfl (fun h=>?_) (fun h=>?_)
        ·refine Z 16 1 ?_;intro _ _ _ h;refine cu h (fun s=>⟨look [(3,.ptr (Γ.n0+3) 0),(7,.ptr (Γ.n0+7) 0),(11,.d (.lst 1 (List.map (eL 1 (eI .i64)) j))),(13,.d (.lst 1 (List.map (eL 1 (eI .i64)) i))),(15,(i_ m)),(16,(l_ u)),(17,(i_ o)),(18,(i_ p)),(169,(b_ s))],Qn Γ.n0 (bxs [(1,.cells ((Qd5 s1))),(3,.cells ((Q2 n))),(4,.cells ((Qco q))),(7,.cells ((Qh g))),(9,.cells ((Qh f))),(137,.cells ([])),(144,.cells ([(i_ o)]))]) M,Γ.n0+170⟩) (fun _ h=>?_) (fun s h=>?_)
         ·refine Z 4 0 ?_;refine cl (A _ _) h (cq fun _ h=>?_);refine Z 6 1 ?_;intro _ h;refine cl (A _ _) h (cq fun _ h=>?_);refine cl (L _ _) h (cq fun _ h=>?_);refine Z 1 0 ?_;refine bs h (fun _ h=>?_) (fun _ h=>Y);refine Z 3 0 ?_;refine cl (C _ _) h (cq fun _ h=>?_);refine Z 2 0 ?_;refine bs h (fun _ h=>?_) (fun _ h=>Y);refine Z 2 0 ?_;refine cl (C _ _) h (cq fun _ h=>?_);exact Y
         ·exact cd h rfl (fun h=>Y) (fun h=>Y)
        ·refine Tr.exit ?_;exact⟨_,h,(by exact Qfo [] ⟨(kPtr rfl),(kPtr rfl),sq,sq,sq,tv⟩ ⟨bS rfl rfl rfl,bS rfl rfl rfl,bS rfl rfl rfl,bS rfl rfl rfl,bS rfl rfl rfl,tv⟩ rfl)⟩
     ·exact Y
theorem Qsw{P:Program}{c:Nat}{Q9:_}(q:Qf2 P 87 Q9)(m:Qo P c=some Qnf)(fuel:Nat):Qjl P c (Qdc Q9 fuel):=by
 intro v r h;refine Qbu m rfl fun Γ M u s hM=>?_;subst u;refine ini ?_;refine Z 8 0 ?_;refine cl (q _) h (cq fun d h=>?_);refine Z 8 0 ?_;refine cw h [2,3] [1] (fun _ e=>e) (fun(i,g,f,a)l=>(2,.cells ([(o_ i),(i_ 0),(o_ g),(Qt f)]))::(3,.cells ([(l_ d.zB),(i_ d.zF),(o_ a),(Qi d.zD)]))::l) ke (fun _ h=>?_) (fun⟨i,g,f,a⟩ h=>Y);refine Z 5 0 ?_;refine lw h [2,3] [1] (fun(j,p,o,n,b)e=>(4,(i_ j))::e) (fun(j,p,o,n,b)l=>(2,.cells ([(o_ p),(i_ 0),(o_ o),(Qt n)]))::(3,.cells ([(l_ d.zB),(i_ d.zF),(o_ b),(Qi d.zD)]))::l) ke wk (fun _ ⟨j,p,o,n,b⟩ h=>?_);refine Z 8 0 ?_;exact ci h rfl (fun h=>Y) (fun h=>Y)
theorem Qsx{P:Program}{c:Nat}{Qbc:_}{Qdc:_}(d:Qhs P 45 Qbc)(b:Qjl P 46 Qdc)(a:Qo P c=some Qnh):Qng P c (Qjm Qbc Qdc):=by
 intro g r h;refine Qbu a rfl fun Γ M f e hM=>?_;subst f;refine ini ?_;refine Z 8 0 ?_;refine cl (b _) h (cq fun _ h=>?_);refine cl (d _) h (cq fun⟨_,_⟩ h=>?_);exact Y
end Go.Abs
end
section
namespace Go.Proofs
open Go.Abs
set_option maxRecDepth 100000
theorem Qo3:Qo Tryz.prog 10=some Qi7:=by kernel_rfl
theorem Qxq:Qo Tryz.prog 12=some Qoo:=by kernel_rfl
theorem Qy3:Qo Tryz.prog 13=some Qpb:=by kernel_rfl
theorem Q1i:Qo Tryz.prog 15=some Qsf:=by kernel_rfl
theorem Q0a:Qo Tryz.prog 16=some Qqx:=by kernel_rfl
theorem Qwf:Qo Tryz.prog 18=some Qnh:=by kernel_rfl
theorem Q0b:Qo Tryz.prog 20=some Qq2:=by kernel_rfl
theorem Q32:Qo Tryz.prog 22=some Qvt:=by kernel_rfl
theorem Q33:Qo Tryz.prog 23=some Qvx:=by kernel_rfl
theorem Q0c:Qo Tryz.prog 26=some Qqz:=by kernel_rfl
theorem Qt6:Qo Tryz.prog 28=some Ql7:=by kernel_rfl
theorem Qu9:Qo Tryz.prog 29=some Qmw:=by kernel_rfl
theorem Qsy:Qo Tryz.prog 30=some Qk7:=by kernel_rfl
theorem Qsz:Qo Tryz.prog 35=some Qk6:=by kernel_rfl
theorem Qy4:Qo Tryz.prog 36=some Qpc:=by kernel_rfl
theorem Q20:Qo Tryz.prog 37=some Qtx:=by kernel_rfl
theorem Qy5:Qo Tryz.prog 39=some Qo7:=by kernel_rfl
theorem Qrn:Qo Tryz.prog 40=some Qkl:=by kernel_rfl
theorem Qy6:Qo Tryz.prog 41=some Qpa:=by kernel_rfl
theorem Qxr:Qo Tryz.prog 42=some Qol:=by kernel_rfl
theorem Q21:Qo Tryz.prog 43=some Qtq:=by kernel_rfl
theorem Q22:Qo Tryz.prog 44=some Qtu:=by kernel_rfl
theorem Q1j:Qo Tryz.prog 45=some Qr9:=by kernel_rfl
theorem Qwg:Qo Tryz.prog 46=some Qnf:=by kernel_rfl
theorem Q0d:Qo Tryz.prog 47=some Qq0:=by kernel_rfl
theorem Q23:Qo Tryz.prog 48=some Qto:=by kernel_rfl
theorem Q24:Qo Tryz.prog 49=some Qtp:=by kernel_rfl
theorem Q0e:Qo Tryz.prog 50=some Qqp:=by kernel_rfl
theorem Q25:Qo Tryz.prog 51=some Qtv:=by kernel_rfl
theorem Qs0:Qo Tryz.prog 52=some Qk1:=by kernel_rfl
theorem Qro:Qo Tryz.prog 54=some Qkj:=by kernel_rfl
theorem Qva:Qo Tryz.prog 55=some Qms:=by kernel_rfl
theorem Q67:Qo Tryz.prog 56=some Qzp:=by kernel_rfl
theorem Qwh:Qo Tryz.prog 57=some Qnc:=by kernel_rfl
theorem Q1k:Qo Tryz.prog 58=some Qr7:=by kernel_rfl
theorem Qwi:Qo Tryz.prog 59=some Qna:=by kernel_rfl
theorem Qs1:Qo Tryz.prog 60=some Qk4:=by kernel_rfl
theorem Qxs:Qo Tryz.prog 62=some Qok:=by kernel_rfl
theorem Qxt:Qo Tryz.prog 63=some Qon:=by kernel_rfl
theorem Qs2:Qo Tryz.prog 65=some Qk2:=by kernel_rfl
theorem Qwj:Qo Tryz.prog 66=some Qne:=by kernel_rfl
theorem Q26:Qo Tryz.prog 67=some Qtw:=by kernel_rfl
theorem Q0f:Qo Tryz.prog 68=some Qq1:=by kernel_rfl
theorem Q0g:Qo Tryz.prog 69=some Qq3:=by kernel_rfl
theorem Qy7:Qo Tryz.prog 72=some Qo9:=by kernel_rfl
theorem Q51:Qo Tryz.prog 79=some Qxb:=by kernel_rfl
theorem Q0h:Qo Tryz.prog 85=some Qqs:=by kernel_rfl
theorem Qxu:Qo Tryz.prog 86=some Qop:=by kernel_rfl
theorem Qs3:Qo Tryz.prog 87=some Qk5:=by kernel_rfl
theorem Q52:Qo Tryz.prog 88=some Qw9:=by kernel_rfl
theorem Q68:Qo Tryz.prog 89=some Qzn:=by kernel_rfl
theorem Qs4:Qo Tryz.prog 90=some Qkz:=by kernel_rfl
theorem Qt7:Qo Tryz.prog 92=some Ql2:=by kernel_rfl
theorem Qwk:Qo Tryz.prog 93=some Qm9:=by kernel_rfl
theorem Q1l:Qo Tryz.prog 94=some Qr8:=by kernel_rfl
theorem Q53:Qo Tryz.prog 95=some Qxe:=by kernel_rfl
theorem Q27:Qo Tryz.prog 96=some Qtt:=by kernel_rfl
theorem Qy8:Qo Tryz.prog 97=some Qo8:=by kernel_rfl
theorem Qwl:Qo Tryz.prog 98=some Qm8:=by kernel_rfl
theorem Q34:Qo Tryz.prog 99=some Qvs:=by kernel_rfl
theorem Q1m:Qo Tryz.prog 100=some Qsa:=by kernel_rfl
theorem Qt8:Qo Tryz.prog 101=some Ql3:=by kernel_rfl
theorem Qs5:Qo Tryz.prog 106=some Qk3:=by kernel_rfl
theorem Qpw:Qo Tryz.prog 107=some Qjq:=by kernel_rfl
theorem Q1n:Qo Tryz.prog 108=some Qr3:=by kernel_rfl
theorem Q1o:Qo Tryz.prog 109=some Qse:=by kernel_rfl
theorem Qt9:Qo Tryz.prog 110=some Ql4:=by kernel_rfl
theorem Qwm:Qo Tryz.prog 111=some Qnd:=by kernel_rfl
theorem Qra:Qo Tryz.prog 112=some Qj2:=by kernel_rfl
theorem Qua:Qo Tryz.prog 113=some Ql5:=by kernel_rfl
theorem Qvb:Qo Tryz.prog 114=some Qmt:=by kernel_rfl
theorem Q0i:Qo Tryz.prog 115=some Qqy:=by kernel_rfl
theorem Qo4:Qo Tryz.prog 118=some Qi5:=by kernel_rfl
theorem Q28:Qo Tryz.prog 119=some Qtr:=by kernel_rfl
theorem Q29:Qo Tryz.prog 120=some Qts:=by kernel_rfl
theorem Qs6:Qo Tryz.prog 128=some Qk0:=by kernel_rfl
theorem Qxv:Qo Tryz.prog 129=some Qoq:=by kernel_rfl
theorem Qxw:Qo Tryz.prog 130=some Qor:=by kernel_rfl
theorem Q35:Qo Tryz.prog 131=some Qvv:=by kernel_rfl
theorem Qxx:Qo Tryz.prog 132=some Qom:=by kernel_rfl
theorem Q54:Qo Tryz.prog 133=some Qxd:=by kernel_rfl
theorem Q55:Qo Tryz.prog 134=some Qxc:=by kernel_rfl
theorem Q36:Qo Tryz.prog 135=some Qvw:=by kernel_rfl
theorem Q0j:Qo Tryz.prog 136=some Qqt:=by kernel_rfl
theorem Q0k:Qo Tryz.prog 137=some Qqv:=by kernel_rfl
theorem Q0l:Qo Tryz.prog 138=some Qqu:=by kernel_rfl
theorem Q37:Qo Tryz.prog 139=some Qvr:=by kernel_rfl
theorem Q1p:Qo Tryz.prog 140=some Qr4:=by kernel_rfl
theorem Qwn:Qo Tryz.prog 143=some Qnb:=by kernel_rfl
theorem Qrp:Qo Tryz.prog 144=some Qkk:=by kernel_rfl
theorem Q1q:Qo Tryz.prog 146=some Qsc:=by kernel_rfl
theorem Qub:Qo Tryz.prog 147=some Ql6:=by kernel_rfl
theorem Q69:Qo Tryz.prog 153=some Qzo:=by kernel_rfl
theorem Q1r:Qo Tryz.prog 154=some Qr6:=by kernel_rfl
theorem Q38:Qo Tryz.prog 155=some Qvu:=by kernel_rfl
theorem Q56:Qo Tryz.prog 171=some Qxa:=by kernel_rfl
theorem Q1s:Qo Tryz.prog 172=some Qr5:=by kernel_rfl
end Go.Proofs
end
section
namespace Go.Abs
open Go Go.Sort
section plain
variable{β:Type}
def insB(a:β->β->Bool)(x:β):List β->List β
 |[]=>[x]
 |y::ys=>if a y x then y::insB a x ys else x::y::ys
def Qi8(a:β->β->Bool):List β->List β
 |[]=>[]
 |x::xs=>insB a x (Qi8 a xs)
def Q7a(a:β->β->Bool):List β->Bool
 |[]=>true
 |x::xs=>xs.all (fun y=>a x y||a y x)&&Q7a a xs
def Qbny(b:β->Bool)(a:β->β->Bool)(l:List β):Option (List β):=if l.all b&&Q7a a l then some (Qi8 a l) else none
theorem Q57(a:β->β->Bool)(x:β):∀l,(insB a x l).Perm (x::l)
 |[]=>.refl _
 |y::ys=>by
  unfold insB;split
  ·exact ((Q57 a x ys).cons y).trans (.swap x y ys)
  ·exact .refl _
theorem Qlv(a:β->β->Bool):∀l,(Qi8 a l).Perm l
 |[]=>.refl _
 |x::xs=>(Q57 a x _).trans ((Qlv a xs).cons x)
theorem Qmx(a:β->β->Bool)(l:List β):(Qi8 a l).length=l.length:=(Qlv a l).length_eq
theorem Q58{c:β->β->Bool}(h:SWO c)(x:β):∀l,l.Pairwise (fun a b=>c b a=false)->(insB c x l).Pairwise fun a b=>c b a=false
 |[],_=>by simp[insB]
 |y::ys,e=>by
  obtain⟨f,g⟩:=Zam.1 e;unfold insB;split
  ·rename_i hc;refine Zam.2 ⟨fun z d=>?_,Q58 h x ys g⟩;rcases Zah.1 ((Q57 c x ys).mem_iff.1 d) with rfl|d
   ·cases hb:c z y with
    |false=>rfl
    |true=>have:=h.trans _ _ _ hc hb;rw[h.irrefl] at this;cases this
   ·exact f z d
  ·rename_i hc;have hc:c y x=false:=by cases h:c y x<;>simp_all
   refine Zam.2 ⟨fun z d=>?_,e⟩;rcases Zah.1 d with rfl|d
   ·exact hc
   ·exact h.ntrans _ _ _ (f z d) hc
theorem Qmy{c:β->β->Bool}(h:SWO c):∀l,(Qi8 c l).Pairwise fun a b=>c b a=false
 |[]=>.nil
 |x::xs=>Q58 h x _ (Qmy h xs)
theorem Q8d{c:β->β->Bool}:∀{l:List β},Q7a c l=true->∀a b,a∈l->b∈l->c a b=false->c b a=false->a=b
 |[],_,a,_,ha,_,_,_=>by cases ha
 |x::xs,h,a,b,ha,hb,h1,d=>by
  simp only[Q7a,Zc,Zt] at h;obtain⟨e,f⟩:=h;rcases Zah.1 ha with e1|ha'<;>rcases Zah.1 hb with e2|hb'
  ·rw[e1,e2]
  ·subst e1;have:=e b hb';simp[h1,d] at this
  ·subst e2;have:=e a ha';simp[h1,d] at this
  ·exact Q8d f a b ha' hb' h1 d
theorem Q9p{c:β->β->Bool}(h:SWO c){l m:List β}(e:Q7a c l=true)(hp:m.Perm l)(d:m.Pairwise fun a b=>c b a=false):m=Qi8 c l:=by
 refine List.Perm.eq_of_pairwise (le:=fun a b=>c b a=false) (fun a b ha hb g f=>?_) d (Qmy h l) (hp.trans (Qlv c l).symm);exact Q8d e a b (hp.mem_iff.1 ha) ((Qlv c l).mem_iff.1 hb) f g
theorem Qbe6{α:Type}(f:α->β)(c:β->β->Bool)(x:α):∀l:List α,insB c (f x) (l.map f)=(insB (fun a b=>c (f a) (f b)) x l).map f
 |[]=>rfl
 |y::ys=>by
  simp only[Zb,insB];split
  ·simp only[Zb,Qbe6 f c x ys]
  ·rfl
theorem Q8e{α:Type}(f:α->β)(c:β->β->Bool):∀l:List α,Qi8 c (l.map f)=(Qi8 (fun a b=>c (f a) (f b)) l).map f
 |[]=>rfl
 |x::xs=>by simp only[Zb,Qi8,Q8e f c xs,Qbe6]
theorem Qbbg{α:Type}(f:α->β)(c:β->β->Bool):∀l:List α,Q7a c (l.map f)=Q7a (fun a b=>c (f a) (f b)) l
 |[]=>rfl
 |x::xs=>by simp only[Zb,Q7a,Qbbg f c xs,List.all_map];rfl
end plain
def Qgq(a b:Int):Bool:=decide (a<b)
end Go.Abs
end
section
namespace Go.Abs
def Qblq(l:List Int):Option (List Int):=if l.length<=lim then some (Qi8 Qgq l) else none
def Q4n(l:List Int):Option (List Int):=if l.length<=lim then some (Lib.compact l) else none
def okPl(x:Qd):Bool:=decide (-1<=x.ambient_/\x.ambient_<4611686018427387904 /\ -1<=x.language_/\x.language_<4611686018427387904)
def ltPl(x y:Qd):Bool:=decide (x.ambient_<y.ambient_\/(x.ambient_=y.ambient_/\x.language_<y.language_))
def Qbi5(l:List Qd):Option (List Qd):=if l.length<=65536 then Qbny okPl ltPl l else none
def keyL(l:List Int):List UInt8:=l.flatMap fun x=>Lib.decDigits x.toNat++[32]
def keyB(l:List Int):ByteArray:=⟨(keyL l).toArray⟩
def keyI(l:List Int):Option ByteArray:=if l.length<=lim/\∀x∈l,0<=x/\x<100 then some (keyB l) else none
def Qxy(l:List Int):List UInt8:=l.flatMap fun x=>Lib.itoa x++[32]
def keyT(l:List Int):ByteArray:=⟨(Qxy l).toArray⟩
def Qbgl(x:Qd)(l:List Int):Option ByteArray:=if l.length+2<=lim/\∀z∈x.ambient_::x.language_::l,-9223372036854775808<=z/\z<=9223372036854775807 then some (keyT (x.ambient_::x.language_::l)) else none
end Go.Abs
end
section
namespace Go.Abs
open Go Go.Abs
set_option maxRecDepth 10000
set_option maxHeartbeats 4000000
def Q0:Nat:=1099511627776
def Qpd:=Qeh
def Qh8:=Qde Q0
def Qjr:=Qel Q0
def Qbs:=Qm Qjr
def Qhb:=Qc9 Qbs Q0
def Qee:=Qv Qh8 Qhb
def Qhm:=Qcp Q0
def Qmz:=Qfd
def Qlh:=Qfl Qhm Qmz
def Qg1:=Qe4 Qlh
def Qiy:=Qd6 Q0
def Qi9:=Qcy Qee Qg1 Qiy Q0
def Qm0:=Qgc Qee Q0
def Qm1:=Qfe
def Qja:=Qfm Qhm Qm1
def Qgn:=Qfn Qja Q0
def Qob:=Qgv Qgn Q0
def Qf3:=Qch Q0
def Qrb:=Qff
def Qk8:=Qgw Qrb
def Qjs:=Qdz
def Qc6:=Q7 Qk8 Qjs Q0
def Qfw:=Qba Qc6
def Qgi:=Qcv Qfw Q0
def Qbd:=Qk
def Qhc:=Qda Qbd Qfw Q0
def Qbt:=Qbj Qm0 Qob Qf3 keyI Qgi Qhc Q0
def Qik:=Qcm Qbt
def Qeu:=Qbn Q0
def Qkg:=Qe5
def Qkh:=Qe6
def Qfg:=Qdg Qeu Qkg Qkh
def Qhu:=Qdm Qbd Qfg Qc6 Q0
def Qjt:=Qem Qee Qhu Q0
def Qj6:=Qdh Q0
def Qj7:=Qdi Q0
def Qg6:=Qd7
def Qli:=Qet Q0
def Qfx:=Qc5
def Qg7:=Qd8 Qfx Q0
def Qki:=Qe7 Qj7 Qj6 Qli Qg6 Qg7 Q0
def Qm2:=Qgd Qbd Qj7 Qj6 Q0
def Qc3:=Qbc Qee Qm2 Qki
def Qil:=Qcn Qc3 Qbd Qjt
def Qfy:=Qb4 Qi9 Qik Qil
def Qju:=Qdl Q0
def Qim:=Qb9 Qfy Qbt Qju Q0
def Qbl:=Qj
def Qcu:=Qs Qbs
def Qe9:=Qbb Qbd Qcu Qbs Qbl Qblq Q4n Q0
def Qf4:=Qci Qe9
def Qeq:=Q8 Qbl
def Qfb:=Qb3 Qbl
def Qjn:=Qdb Q0
def Qf5:=Qcj Qjn
def Qfp:=Qcb Qbs Qeq Qf5 Qfb Q0
def Qoc:=Qgx Qfw Q0
def Qgt:=Qc2 Qbd Qcu Qbl Q0
def Qep:=Qz Qbl
def Qer:=Qck Qbs Qbl Qe9 Q0
def Qjb:=Qcq Qim Qf4 Qbgl Qfp Qgt Qoc Qep Qbd Qcu Qer Q0
def Qkm:=Qcc
def Q1t:=Qsd
def Qin:=Qbi Qep Qcu Qkm Qbi5 Q0
def Qni:=Qct Qbgl Q0
def Ql8:=Qdj Qeq
def Ql9:=Qdk Q0
def Qj8:=Qcs Ql9
def Qm3:=Qdr Qep Qin Q0
def Qnj:=Qdw Qc3 Qbd Qcu Qbs Qbl Qin Qni Qj8 Ql8 Qm3 Q0
def Qjv:=Qd0 Q0
def Qrc:=Qey Q0
def Quc:=Qfv Qjv Qrc
def Qrd:=Qez Qim Qnj Quc Q0
def Qfa:=Qw Q0
def Qj9:=Qd9 Qjb Qrd Qfa Qpd
def Qdp:=Qbf Q0
def Qge:=Qbk
def Qcx:=Q3 Q0
def Qeb:=Qb5 Q0
def Qhv:=Qdn Qeb Qcx Q0
def Qgf:=Qdo Q0
def Qes:=Q9 Qeb Qcx Qge Qhv Qgf Q0
def Qgr:=Qcw Qge Qes Q0
def Qh9:=Qdu Qdp Qgr Q0
def Qjw:=Qen Qi9 Qik Qil
def Qiz:=Qca Q0
def Qia:=Qdf Qiz Q0
def Qf6:=Qcl Qfa Q0
def Qfz:=Qed Qee Qbd Qbs Qfg Q0
def Qlw:=Qe0 Q0
def Qgu:=Qcg Qiz Q0
def Qi0:=Qea Qcx Q0
def Qf7:=Qb7 Qi0
def Qgo:=Qgm Qj9 Qh9 Qjw Qfy Qlw Qjb Qfa Qgu Qf7 Qf6 Qia Qfz Q0
def Qhd:=Qdc Qes Q0
def Qhe:=Qjm Qc3 Qhd
end Go.Abs
end
section
namespace Go.Proofs
open Go.Shelf
def Tryz.lays169_ren:Go.Shelf.Ren:=⟨fun|169=>105|n=>n,fun|70=>158|9=>9|0=>0|72=>161|37=>159|127=>206|3=>3|5=>5|n=>n,fun|n=>n⟩
theorem Tryz.lays169:Go.Proofs.Lays.n169 Tryz.prog Tryz.lays169_ren:={
 mixed:=by kernel_rfl
 f169:=Tryz.func105.trans (congrArg some (by kernel_rfl))
 t0:=Tryz.underlying0
 a0:=Tryz.isAgg0
 z0:=Tryz.sizeOf0
 v0:=Tryz.zeroValue0
 t3:=Tryz.underlying3
 a3:=Tryz.isAgg3
 z3:=Tryz.sizeOf3
 v3:=Tryz.zeroValue3
 t9:=Tryz.underlying9
 a9:=Tryz.isAgg9
 z9:=Tryz.sizeOf9
 v9:=Tryz.zeroValue9
 t37:=Tryz.underlying159
 a37:=Tryz.isAgg159
 z37:=Tryz.sizeOf159
 v37:=Tryz.zeroValue159
 t70:=Tryz.underlying158
 a70:=Tryz.isAgg158
 z70:=Tryz.sizeOf158
 v70:=Tryz.zeroValue158
 t72:=Tryz.underlying161
 a72:=Tryz.isAgg161
 z72:=Tryz.sizeOf161
 v72:=Tryz.zeroValue161
 t127:=Tryz.underlying206
 a127:=Tryz.isAgg206
 z127:=Tryz.sizeOf206
 v127:=Tryz.zeroValue206 }
theorem Tryz.Builder_Extra_169:Builder.Extra Tryz.prog Tryz.lays169_ren:={
 sizeBuilder:=by kernel_rfl
 liesBuilder:=by kernel_rfl
 t5:=Tryz.underlying5
 a5:=Tryz.isAgg5
 z5:=Tryz.sizeOf5
 v5:=Tryz.zeroValue5
 infoByte:=by kernel_rfl
 cellsByte:=by kernel_rfl
 sizeByte:=by kernel_rfl
 neB5:=by decide }
open Go.RowKit in
theorem Tryz.Builder_String_any_k(B b:Nat)(l:List UInt8)(w:World)(h:Lib.IsBuilderF 161 5 B b (Lib.byteCells l) w)(a:B<=w.heap.size):
  Calls Tryz.prog 105 #[.pointer (some ⟨b,0,none⟩)] w fun e w'=>e = .returned (.string ⟨l.toArray⟩)/\(Lib.IsBuilderF 161 5 B b (Lib.byteCells l) w'/\Below B w w'/\Lib.OthersKept 5 (some b) w w'):=Any.Builder_String_any_k Tryz.lays169 Tryz.Builder_Extra_169 B b l w h a
def Tryz.lays171_ren:Go.Shelf.Ren:=⟨fun|171=>103|243=>142|246=>157|283=>173|284=>174|285=>175|286=>176|129=>170|317=>191|318=>192|319=>193|320=>194|337=>199|338=>200|n=>n,fun|3=>3|9=>9|2=>2|4=>4|171=>234|0=>0|53=>233|37=>159|5=>5|173=>236|212=>251|51=>231|20=>20|213=>252|46=>214|232=>258|233=>259|n=>n,fun|17=>0|18=>1|19=>2|n=>n⟩
theorem Tryz.lays171:Go.Proofs.Lays.n171 Tryz.prog Tryz.lays171_ren:={
 mixed:=by kernel_rfl
 f129:=Tryz.func170.trans (congrArg some (by kernel_rfl))
 f171:=Tryz.func103.trans (congrArg some (by kernel_rfl))
 f243:=Tryz.func142.trans (congrArg some (by kernel_rfl))
 f246:=Tryz.func157.trans (congrArg some (by kernel_rfl))
 f283:=Tryz.func173.trans (congrArg some (by kernel_rfl))
 f284:=Tryz.func174.trans (congrArg some (by kernel_rfl))
 f285:=Tryz.func175.trans (congrArg some (by kernel_rfl))
 f286:=Tryz.func176.trans (congrArg some (by kernel_rfl))
 f317:=Tryz.func191.trans (congrArg some (by kernel_rfl))
 f318:=Tryz.func192.trans (congrArg some (by kernel_rfl))
 f319:=Tryz.func193.trans (congrArg some (by kernel_rfl))
 f320:=Tryz.func194.trans (congrArg some (by kernel_rfl))
 f337:=Tryz.func199.trans (congrArg some (by kernel_rfl))
 f338:=Tryz.func200.trans (congrArg some (by kernel_rfl))
 t0:=Tryz.underlying0
 a0:=Tryz.isAgg0
 z0:=Tryz.sizeOf0
 v0:=Tryz.zeroValue0
 t2:=Tryz.underlying2
 a2:=Tryz.isAgg2
 z2:=Tryz.sizeOf2
 v2:=Tryz.zeroValue2
 t3:=Tryz.underlying3
 a3:=Tryz.isAgg3
 z3:=Tryz.sizeOf3
 v3:=Tryz.zeroValue3
 t4:=Tryz.underlying4
 a4:=Tryz.isAgg4
 z4:=Tryz.sizeOf4
 v4:=Tryz.zeroValue4
 t5:=Tryz.underlying5
 a5:=Tryz.isAgg5
 z5:=Tryz.sizeOf5
 v5:=Tryz.zeroValue5
 t9:=Tryz.underlying9
 a9:=Tryz.isAgg9
 z9:=Tryz.sizeOf9
 v9:=Tryz.zeroValue9
 t20:=Tryz.underlying20
 a20:=Tryz.isAgg20
 z20:=Tryz.sizeOf20
 v20:=Tryz.zeroValue20
 t37:=Tryz.underlying159
 a37:=Tryz.isAgg159
 z37:=Tryz.sizeOf159
 v37:=Tryz.zeroValue159
 t46:=Tryz.underlying214
 a46:=Tryz.isAgg214
 z46:=Tryz.sizeOf214
 v46:=Tryz.zeroValue214
 t51:=Tryz.underlying231
 a51:=Tryz.isAgg231
 z51:=Tryz.sizeOf231
 v51:=Tryz.zeroValue231
 t53:=Tryz.underlying233
 a53:=Tryz.isAgg233
 z53:=Tryz.sizeOf233
 v53:=Tryz.zeroValue233
 t171:=Tryz.underlying234
 a171:=Tryz.isAgg234
 z171:=Tryz.sizeOf234
 v171:=Tryz.zeroValue234
 t173:=Tryz.underlying236
 a173:=Tryz.isAgg236
 z173:=Tryz.sizeOf236
 v173:=Tryz.zeroValue236
 t212:=Tryz.underlying251
 a212:=Tryz.isAgg251
 z212:=Tryz.sizeOf251
 v212:=Tryz.zeroValue251
 t213:=Tryz.underlying252
 a213:=Tryz.isAgg252
 z213:=Tryz.sizeOf252
 t232:=Tryz.underlying258
 a232:=Tryz.isAgg258
 z232:=Tryz.sizeOf258
 v232:=Tryz.zeroValue258
 t233:=Tryz.underlying259
 a233:=Tryz.isAgg259
 z233:=Tryz.sizeOf259
 v233:=Tryz.zeroValue259
 g17:=by kernel_rfl
 g18:=by kernel_rfl
 g19:=by kernel_rfl }
open Go.RowKit Go.Sort Go.Lib in
theorem Tryz.strconv_Itoa_small(i:Nat)(a:i<100)(w:World):
  Calls Tryz.prog 103 #[.int .i64 i] w fun e w'=>e = .returned (.string ⟨(Lib.decDigits i).toArray⟩)/\w'=w:=Any.strconv_Itoa_small Tryz.lays171 i a w
def Tryz.laysNm220_ren:Go.Shelf.Ren:=⟨fun|20=>125|n=>n,fun|22=>32|3=>3|4=>4|0=>0|n=>n,fun|n=>n⟩
theorem Tryz.laysNm220:Go.Proofs.Lays2.n20 Tryz.prog Tryz.laysNm220_ren:={
 mixed:=by kernel_rfl
 f20:=Tryz.func125.trans (congrArg some (by kernel_rfl))
 t0:=Tryz.underlying0
 a0:=Tryz.isAgg0
 z0:=Tryz.sizeOf0
 v0:=Tryz.zeroValue0
 t3:=Tryz.underlying3
 a3:=Tryz.isAgg3
 z3:=Tryz.sizeOf3
 v3:=Tryz.zeroValue3
 t4:=Tryz.underlying4
 a4:=Tryz.isAgg4
 z4:=Tryz.sizeOf4
 v4:=Tryz.zeroValue4
 t22:=Tryz.underlying32
 a22:=Tryz.isAgg32
 z22:=Tryz.sizeOf32
 v22:=Tryz.zeroValue32
 i3:=by kernel_rfl }
open Go.RowKit Go.Lib Go.Sort in
theorem Tryz.slices_Compact_int(a off c:Nat)(b:List Int)(w:World)(g:Holds (Value.int .i64) w a off b.toArray)(f:b.length<=9223372036854775807)(d:b.length<=c):
  Calls Tryz.prog 125 #[.slice (some ⟨a,off,none⟩) b.length c] w fun e w'=>e = .returned (.slice (some ⟨a,off,none⟩) (Lib.compact b).length c)/\∃q,w'=putRow (Value.int .i64) (Sort.ahead w q) a off (Lib.compact b++List.replicate (b.length-(Lib.compact b).length) 0).toArray:=Any.slices_Compact_int Tryz.laysNm220 a off c b w g f d
open Go.RowKit Go.Lib Go.Sort in
theorem Tryz.slices_Compact_int_empty(a:Option Addr)(b:Nat)(w:World):
  Calls Tryz.prog 125 #[.slice a 0 b] w fun e w'=>e = .returned (.slice a 0 b)/\w'=w:=Any.slices_Compact_int_empty Tryz.laysNm220 a b w
def Tryz.laysSlM5_f124_ren:Go.Shelf.Ren:=⟨fun|5=>124|8=>152|7=>151|19=>169|20=>170|10=>161|11=>162|12=>163|13=>164|14=>165|15=>166|16=>153|17=>167|18=>168|30=>186|31=>187|32=>188|33=>189|34=>190|35=>171|40=>198|n=>n,fun|23=>32|25=>3|3=>3|32=>214|22=>32|0=>0|44=>231|46=>233|4=>4|36=>225|35=>224|41=>143|5=>5|9=>9|53=>243|57=>247|63=>255|64=>113|n=>n,fun|n=>n⟩
theorem Tryz.laysSlM5_f124:Go.Proofs.SlLaysM.n5 Tryz.prog Tryz.laysSlM5_f124_ren:={
 mixed:=by kernel_rfl
 f5:=⟨Tryz.f124.name,by decide,Tryz.func124.trans (congrArg some (by kernel_rfl))⟩
 f7:=⟨Tryz.f151.name,by decide,Tryz.func151.trans (congrArg some (by kernel_rfl))⟩
 f8:=Tryz.func152.trans (congrArg some (by kernel_rfl))
 f10:=⟨Tryz.f161.name,by decide,Tryz.func161.trans (congrArg some (by kernel_rfl))⟩
 f11:=⟨Tryz.f162.name,by decide,Tryz.func162.trans (congrArg some (by kernel_rfl))⟩
 f12:=⟨Tryz.f163.name,by decide,Tryz.func163.trans (congrArg some (by kernel_rfl))⟩
 f13:=⟨Tryz.f164.name,by decide,Tryz.func164.trans (congrArg some (by kernel_rfl))⟩
 f14:=⟨Tryz.f165.name,by decide,Tryz.func165.trans (congrArg some (by kernel_rfl))⟩
 f15:=⟨Tryz.f166.name,by decide,Tryz.func166.trans (congrArg some (by kernel_rfl))⟩
 f16:=⟨Tryz.f153.name,by decide,Tryz.func153.trans (congrArg some (by kernel_rfl))⟩
 f17:=⟨Tryz.f167.name,by decide,Tryz.func167.trans (congrArg some (by kernel_rfl))⟩
 f18:=⟨Tryz.f168.name,by decide,Tryz.func168.trans (congrArg some (by kernel_rfl))⟩
 f19:=Tryz.func169.trans (congrArg some (by kernel_rfl))
 f20:=Tryz.func170.trans (congrArg some (by kernel_rfl))
 f30:=⟨Tryz.f186.name,by decide,Tryz.func186.trans (congrArg some (by kernel_rfl))⟩
 f31:=Tryz.func187.trans (congrArg some (by kernel_rfl))
 f32:=Tryz.func188.trans (congrArg some (by kernel_rfl))
 f33:=⟨Tryz.f189.name,by decide,Tryz.func189.trans (congrArg some (by kernel_rfl))⟩
 f34:=⟨Tryz.f190.name,by decide,Tryz.func190.trans (congrArg some (by kernel_rfl))⟩
 f35:=⟨Tryz.f171.name,by decide,Tryz.func171.trans (congrArg some (by kernel_rfl))⟩
 f40:=⟨Tryz.f198.name,by decide,Tryz.func198.trans (congrArg some (by kernel_rfl))⟩
 t0:=Tryz.underlying0
 a0:=Tryz.isAgg0
 z0:=Tryz.sizeOf0
 v0:=Tryz.zeroValue0
 t3:=Tryz.underlying3
 a3:=Tryz.isAgg3
 z3:=Tryz.sizeOf3
 v3:=Tryz.zeroValue3
 t4:=Tryz.underlying4
 a4:=Tryz.isAgg4
 z4:=Tryz.sizeOf4
 v4:=Tryz.zeroValue4
 t5:=Tryz.underlying5
 a5:=Tryz.isAgg5
 z5:=Tryz.sizeOf5
 v5:=Tryz.zeroValue5
 t9:=Tryz.underlying9
 a9:=Tryz.isAgg9
 z9:=Tryz.sizeOf9
 v9:=Tryz.zeroValue9
 t22:=Tryz.underlying32
 a22:=Tryz.isAgg32
 z22:=Tryz.sizeOf32
 v22:=Tryz.zeroValue32
 t23:=Tryz.underlying32
 a23:=Tryz.isAgg32
 z23:=Tryz.sizeOf32
 v23:=Tryz.zeroValue32
 t25:=Tryz.underlying3
 a25:=Tryz.isAgg3
 z25:=Tryz.sizeOf3
 v25:=Tryz.zeroValue3
 t32:=Tryz.underlying214
 a32:=Tryz.isAgg214
 z32:=Tryz.sizeOf214
 v32:=Tryz.zeroValue214
 t35:=Tryz.underlying224
 a35:=Tryz.isAgg224
 z35:=Tryz.sizeOf224
 v35:=Tryz.zeroValue224
 t36:=Tryz.underlying225
 a36:=Tryz.isAgg225
 z36:=Tryz.sizeOf225
 v36:=Tryz.zeroValue225
 t41:=Tryz.underlying143
 a41:=Tryz.isAgg143
 z41:=Tryz.sizeOf143
 v41:=Tryz.zeroValue143
 t44:=Tryz.underlying231
 a44:=Tryz.isAgg231
 z44:=Tryz.sizeOf231
 v44:=Tryz.zeroValue231
 t46:=Tryz.underlying233
 a46:=Tryz.isAgg233
 z46:=Tryz.sizeOf233
 v46:=Tryz.zeroValue233
 t53:=Tryz.underlying243
 a53:=Tryz.isAgg243
 z53:=Tryz.sizeOf243
 v53:=Tryz.zeroValue243
 t57:=Tryz.underlying247
 a57:=Tryz.isAgg247
 z57:=Tryz.sizeOf247
 v57:=Tryz.zeroValue247
 t63:=Tryz.underlying255
 a63:=Tryz.isAgg255
 z63:=Tryz.sizeOf255
 v63:=Tryz.zeroValue255
 t64:=Tryz.underlying113
 a64:=Tryz.isAgg113
 z64:=Tryz.sizeOf113
 v64:=Tryz.zeroValue113 }
open Go.Sort Go.RowKit in
theorem Tryz.slices_Sort_int(a off d:Nat)(b:List Int)(w:World)(g:Holds (Value.int .i64) w a off b.toArray)(c:a<w.heap.size)(f:b.length<4611686018427387904):
  Calls Tryz.prog 124 #[.slice (some ⟨a,off,none⟩) b.length d] w fun e w' =>
   e = .returned (.tuple #[])/\∃n os,w'=grow (putRow (Value.int .i64) (Sort.ahead w n) a off (b.mergeSort fun x y=>decide (x<=y)).toArray) os:=AnyM.slices_Sort_int Tryz.laysSlM5_f124 a off d b w g c f
open Go.RowKit Go.Sort in
theorem Tryz.slices_Sort_int_none(p:Option Addr)(a:Nat)(w:World):
  Calls Tryz.prog 124 #[.slice p 0 a] w fun e w'=>e = .returned (.tuple #[])/\w'=w:=AnyM.slices_Sort_int_none Tryz.laysSlM5_f124 p a w
def Tryz.sortP_ren:Go.Shelf.Ren:=⟨fun|6=>145|15=>152|14=>158|28=>169|29=>170|20=>177|21=>178|22=>179|23=>180|24=>181|25=>182|26=>183|27=>184|46=>195|47=>187|48=>188|49=>196|50=>197|57=>201|n=>n,fun|22=>175|24=>96|25=>211|3=>3|39=>214|0=>0|53=>231|55=>233|4=>4|46=>225|45=>224|50=>143|5=>5|9=>9|66=>243|70=>247|76=>255|77=>113|n=>n,fun|n=>n⟩
theorem Tryz.sortP:Go.Proofs.SlLaysF0.n6 Tryz.prog Tryz.sortP_ren:={
 mixed:=by kernel_rfl
 f6:=⟨Tryz.f145.name,by decide,Tryz.func145.trans (congrArg some (by kernel_rfl))⟩
 f14:=⟨Tryz.f158.name,by decide,Tryz.func158.trans (congrArg some (by kernel_rfl))⟩
 f15:=Tryz.func152.trans (congrArg some (by kernel_rfl))
 f20:=⟨Tryz.f177.name,by decide,Tryz.func177.trans (congrArg some (by kernel_rfl))⟩
 f21:=⟨Tryz.f178.name,by decide,Tryz.func178.trans (congrArg some (by kernel_rfl))⟩
 f22:=⟨Tryz.f179.name,by decide,Tryz.func179.trans (congrArg some (by kernel_rfl))⟩
 f23:=⟨Tryz.f180.name,by decide,Tryz.func180.trans (congrArg some (by kernel_rfl))⟩
 f24:=⟨Tryz.f181.name,by decide,Tryz.func181.trans (congrArg some (by kernel_rfl))⟩
 f25:=⟨Tryz.f182.name,by decide,Tryz.func182.trans (congrArg some (by kernel_rfl))⟩
 f26:=⟨Tryz.f183.name,by decide,Tryz.func183.trans (congrArg some (by kernel_rfl))⟩
 f27:=⟨Tryz.f184.name,by decide,Tryz.func184.trans (congrArg some (by kernel_rfl))⟩
 f28:=Tryz.func169.trans (congrArg some (by kernel_rfl))
 f29:=Tryz.func170.trans (congrArg some (by kernel_rfl))
 f46:=⟨Tryz.f195.name,by decide,Tryz.func195.trans (congrArg some (by kernel_rfl))⟩
 f47:=Tryz.func187.trans (congrArg some (by kernel_rfl))
 f48:=Tryz.func188.trans (congrArg some (by kernel_rfl))
 f49:=⟨Tryz.f196.name,by decide,Tryz.func196.trans (congrArg some (by kernel_rfl))⟩
 f50:=⟨Tryz.f197.name,by decide,Tryz.func197.trans (congrArg some (by kernel_rfl))⟩
 f57:=⟨Tryz.f201.name,by decide,Tryz.func201.trans (congrArg some (by kernel_rfl))⟩
 t0:=Tryz.underlying0
 a0:=Tryz.isAgg0
 z0:=Tryz.sizeOf0
 v0:=Tryz.zeroValue0
 t3:=Tryz.underlying3
 a3:=Tryz.isAgg3
 z3:=Tryz.sizeOf3
 v3:=Tryz.zeroValue3
 t4:=Tryz.underlying4
 a4:=Tryz.isAgg4
 z4:=Tryz.sizeOf4
 v4:=Tryz.zeroValue4
 t5:=Tryz.underlying5
 a5:=Tryz.isAgg5
 z5:=Tryz.sizeOf5
 v5:=Tryz.zeroValue5
 t9:=Tryz.underlying9
 a9:=Tryz.isAgg9
 z9:=Tryz.sizeOf9
 v9:=Tryz.zeroValue9
 t22:=Tryz.underlying175
 a22:=Tryz.isAgg175
 z22:=Tryz.sizeOf175
 v22:=Tryz.zeroValue175
 t25:=Tryz.underlying211
 a25:=Tryz.isAgg211
 z25:=Tryz.sizeOf211
 v25:=Tryz.zeroValue211
 t39:=Tryz.underlying214
 a39:=Tryz.isAgg214
 z39:=Tryz.sizeOf214
 v39:=Tryz.zeroValue214
 t45:=Tryz.underlying224
 a45:=Tryz.isAgg224
 z45:=Tryz.sizeOf224
 v45:=Tryz.zeroValue224
 t46:=Tryz.underlying225
 a46:=Tryz.isAgg225
 z46:=Tryz.sizeOf225
 v46:=Tryz.zeroValue225
 t50:=Tryz.underlying143
 a50:=Tryz.isAgg143
 z50:=Tryz.sizeOf143
 v50:=Tryz.zeroValue143
 t53:=Tryz.underlying231
 a53:=Tryz.isAgg231
 z53:=Tryz.sizeOf231
 v53:=Tryz.zeroValue231
 t55:=Tryz.underlying233
 a55:=Tryz.isAgg233
 z55:=Tryz.sizeOf233
 v55:=Tryz.zeroValue233
 t66:=Tryz.underlying243
 a66:=Tryz.isAgg243
 z66:=Tryz.sizeOf243
 v66:=Tryz.zeroValue243
 t70:=Tryz.underlying247
 a70:=Tryz.isAgg247
 z70:=Tryz.sizeOf247
 v70:=Tryz.zeroValue247
 t76:=Tryz.underlying255
 a76:=Tryz.isAgg255
 z76:=Tryz.sizeOf255
 v76:=Tryz.zeroValue255
 t77:=Tryz.underlying113
 a77:=Tryz.isAgg113
 z77:=Tryz.sizeOf113
 v77:=Tryz.zeroValue113 }
def Tryz.lays167_ren:Go.Shelf.Ren:=⟨fun|167=>104|240=>141|276=>156|n=>n,fun|0=>0|4=>4|5=>5|9=>9|20=>20|37=>159|70=>158|72=>161|75=>163|80=>168|164=>218|n=>n,fun|n=>n⟩
theorem Tryz.lays167:Go.Proofs.Lays.n167 Tryz.prog Tryz.lays167_ren:={
 mixed:=by kernel_rfl
 f167:=Tryz.func104.trans (congrArg some (by kernel_rfl))
 f240:=Tryz.func141.trans (congrArg some (by kernel_rfl))
 f276:=Tryz.func156.trans (congrArg some (by kernel_rfl))
 t0:=Tryz.underlying0
 a0:=Tryz.isAgg0
 z0:=Tryz.sizeOf0
 v0:=Tryz.zeroValue0
 t4:=Tryz.underlying4
 a4:=Tryz.isAgg4
 z4:=Tryz.sizeOf4
 v4:=Tryz.zeroValue4
 t5:=Tryz.underlying5
 a5:=Tryz.isAgg5
 z5:=Tryz.sizeOf5
 v5:=Tryz.zeroValue5
 t9:=Tryz.underlying9
 a9:=Tryz.isAgg9
 z9:=Tryz.sizeOf9
 v9:=Tryz.zeroValue9
 t20:=Tryz.underlying20
 a20:=Tryz.isAgg20
 z20:=Tryz.sizeOf20
 v20:=Tryz.zeroValue20
 t37:=Tryz.underlying159
 a37:=Tryz.isAgg159
 z37:=Tryz.sizeOf159
 v37:=Tryz.zeroValue159
 t70:=Tryz.underlying158
 a70:=Tryz.isAgg158
 z70:=Tryz.sizeOf158
 v70:=Tryz.zeroValue158
 t72:=Tryz.underlying161
 a72:=Tryz.isAgg161
 z72:=Tryz.sizeOf161
 v72:=Tryz.zeroValue161
 t75:=Tryz.underlying163
 a75:=Tryz.isAgg163
 z75:=Tryz.sizeOf163
 v75:=Tryz.zeroValue163
 t164:=Tryz.underlying218
 a164:=Tryz.isAgg218
 z164:=Tryz.sizeOf218
 v164:=Tryz.zeroValue218 }
theorem Tryz.Builder_Extra_167:Builder.Extra Tryz.prog Tryz.lays167_ren:={
 sizeBuilder:=by kernel_rfl
 liesBuilder:=by kernel_rfl
 t5:=Tryz.underlying5
 a5:=Tryz.isAgg5
 z5:=Tryz.sizeOf5
 v5:=Tryz.zeroValue5
 infoByte:=by kernel_rfl
 cellsByte:=by kernel_rfl
 sizeByte:=by kernel_rfl
 neB5:=by decide }
open Go.RowKit in
theorem Tryz.Builder_WriteByte_k(B b:Nat)(bs:List Value)(c:Int)(w:World)(h:Lib.IsBuilderF 161 5 B b bs w)(a:bs.length+1<=140737488355328)(d:B<=w.heap.size):
  Calls Tryz.prog 104 #[.pointer (some ⟨b,0,none⟩),.int .u8 c] w fun e w'=>e = .returned .nilIface/\(Lib.BuilderAtF 161 5 B b (.pointer (some ⟨b,0,none⟩)) (bs++[.int .u8 c]) w'/\Below B w w'/\Lib.OthersKept 5 (some b) w w'):=Any.Builder_WriteByte_k Tryz.lays167 Tryz.Builder_Extra_167 B b bs c w h a d
def Tryz.lays166_ren:Go.Shelf.Ren:=⟨fun|166=>102|240=>141|276=>156|n=>n,fun|0=>0|3=>3|4=>4|5=>5|9=>9|20=>20|37=>159|70=>158|72=>161|75=>163|80=>168|164=>218|n=>n,fun|n=>n⟩
theorem Tryz.lays166:Go.Proofs.Lays.n166 Tryz.prog Tryz.lays166_ren:={
 mixed:=by kernel_rfl
 f166:=Tryz.func102.trans (congrArg some (by kernel_rfl))
 f240:=Tryz.func141.trans (congrArg some (by kernel_rfl))
 f276:=Tryz.func156.trans (congrArg some (by kernel_rfl))
 t0:=Tryz.underlying0
 a0:=Tryz.isAgg0
 z0:=Tryz.sizeOf0
 v0:=Tryz.zeroValue0
 t3:=Tryz.underlying3
 a3:=Tryz.isAgg3
 z3:=Tryz.sizeOf3
 v3:=Tryz.zeroValue3
 t4:=Tryz.underlying4
 a4:=Tryz.isAgg4
 z4:=Tryz.sizeOf4
 v4:=Tryz.zeroValue4
 t9:=Tryz.underlying9
 a9:=Tryz.isAgg9
 z9:=Tryz.sizeOf9
 v9:=Tryz.zeroValue9
 t20:=Tryz.underlying20
 a20:=Tryz.isAgg20
 z20:=Tryz.sizeOf20
 v20:=Tryz.zeroValue20
 t37:=Tryz.underlying159
 a37:=Tryz.isAgg159
 z37:=Tryz.sizeOf159
 v37:=Tryz.zeroValue159
 t70:=Tryz.underlying158
 a70:=Tryz.isAgg158
 z70:=Tryz.sizeOf158
 v70:=Tryz.zeroValue158
 t72:=Tryz.underlying161
 a72:=Tryz.isAgg161
 z72:=Tryz.sizeOf161
 v72:=Tryz.zeroValue161
 t75:=Tryz.underlying163
 a75:=Tryz.isAgg163
 z75:=Tryz.sizeOf163
 v75:=Tryz.zeroValue163
 t164:=Tryz.underlying218
 a164:=Tryz.isAgg218
 z164:=Tryz.sizeOf218
 v164:=Tryz.zeroValue218 }
theorem Tryz.Builder_Extra_166:Builder.Extra Tryz.prog Tryz.lays166_ren:={
 sizeBuilder:=by kernel_rfl
 liesBuilder:=by kernel_rfl
 t5:=Tryz.underlying5
 a5:=Tryz.isAgg5
 z5:=Tryz.sizeOf5
 v5:=Tryz.zeroValue5
 infoByte:=by kernel_rfl
 cellsByte:=by kernel_rfl
 sizeByte:=by kernel_rfl
 neB5:=by decide }
open Go.RowKit in
theorem Tryz.Builder_WriteString_k(B b:Nat)(bs:List Value)(s:ByteArray)(w:World)(h:Lib.IsBuilderF 161 5 B b bs w)(a:bs.length+s.size<=140737488355328)(c:B<=w.heap.size):
  Calls Tryz.prog 102 #[.pointer (some ⟨b,0,none⟩),.string s] w fun e w'=>e = .returned (.tuple #[.int .i64 s.size,.nilIface])/\(Lib.BuilderAtF 161 5 B b (.pointer (some ⟨b,0,none⟩)) (bs++Lib.strCells s) w'/\Below B w w'/\Lib.OthersKept 5 (some b) w w'):=Any.Builder_WriteString_k Tryz.lays166 Tryz.Builder_Extra_166 B b bs s w h a c
end Go.Proofs
end
section
namespace Go.Abs
open Go Go.Sort Go.RowKit
theorem Q59{P:Program}{f:FuncId}{ex:Array Value}{exV:List V}{sz nb:Nat}{M:Mem}(hb:Qh0 P f=true)(l:∀g w us,RFs g w exV us->us=ex.toList)(h:∀(p:Option Addr)(b:Nat)(w:World),Calls P f (#[.slice p 0 b]++ex) w fun n w'=>n = .returned (.tuple #[])/\w'=w)(e:V.dems exV=exV:=by rfl):
  ACalls P f (.d (.lst sz [])::exV) M nb (.tup []) M nb:=by
 refine ACalls.mk' hb (Ze _) (by simp only[V.dems,V.dem,e]) fun w g us r i j s m=>?_;obtain⟨q,o,rfl,k,c⟩:=j;have u:=l _ _ _ c;subst u;have t:∃p b,q = .slice p 0 b:=by
  have:=RF_d.1 k;obtain⟨a,b,rfl,_,_⟩:=this;exact⟨a,b,rfl⟩
 obtain⟨p,b,rfl⟩:=t;have v:(Value.slice p 0 b::ex.toList).toArray = #[.slice p 0 b]++ex:=by apply Array.ext';simp
 rw[v];refine (h p b w).mono ?_;rintro n w' ⟨rfl,rfl⟩;exact⟨_,g,rfl,r,⟨[],rfl,rfl⟩,trivial,i,Fr.refl _ _ _⟩
theorem Qbde(l:List Int):(l.mergeSort fun x y=>decide (x<=y))=Qi8 Qgq l:=by
 have f:Go.Sort.SWO Qgq:=⟨fun x=>by simp[Qgq],fun x y z e d=>by simp[Qgq] at *;omega,fun x y z e d=>by simp[Qgq] at *;omega⟩;refine List.Perm.eq_of_pairwise (le:=fun a b=>Qgq b a=false) (fun a b _ _ e d=>by simp[Qgq] at *;omega) ?_ (Qmy f l) ((List.mergeSort_perm _ _).trans (Qlv _ l).symm);have:=List.pairwise_mergeSort (le:=fun x y:Int=>decide (x<=y)) (fun a b c e d=>by simp at *;omega) (fun a b=>by simp;omega) l;exact this.imp fun h=>by simp[Qgq] at *;omega
end Go.Abs
end
section
namespace Go.Abs
open Go Go.Sort Go.Shelf Go.RowKit Go.Lib Go.Proofs
theorem Qbbh{α:Type}[Inhabited α]{enc:α->List Value}{k:Nat}(b:∀x,(enc x).length=k)(d:0<k):∀(l:List α)(t:Nat),t<l.length*k->(l.map enc).flatten[t]? = some (enc l[t / k]!)[t % k]!
 |[],t,h=>by simp at h
 |x::xs,t,h=>by
  rw[Zb,Zaz];by_cases c:t<k
  ·rw[Zay (by rw[b];exact c),Nat.div_eq_of_lt c,Nat.mod_eq_of_lt c];have:t<(enc x).length:=by rw[b];exact c
   simp[this]
  ·have a:k<=t:=by omega
   have e:t-k<xs.length*k:=by simp only[Zs,Zv,Nat.one_mul] at h;omega
   rw[Zau (by rw[b];exact a),b,Qbbh b d xs (t-k) e];have f:t / k=(t-k) / k+1:=by rw[<-Nat.add_div_right _ d,Nat.sub_add_cancel a]
   have e2:t % k=(t-k) % k:=by rw[Nat.mod_eq_sub_mod a]
   rw[f,e2];simp
theorem Qbbi{α:Type}[Inhabited α]{enc:α->List Value}{k:Nat}(b:∀x,(enc x).length=k)(h:0<k)(l:List α):flatK enc k l.toArray=(l.map enc).flatten.toArray:=by
 have e:(l.map enc).flatten.length=l.length*k:=by
  induction l with
  |nil=>simp
  |cons x xs c=>rw[Zb,Zaz,Zx,c,b];simp[Zv];omega
 refine ext_get! (by simp[e]) fun t d=>?_;have a : t<l.length*k:=by simpa using d
 rw[get_flatK _ _ _ _ (by simpa using a)];have:=Qbbh b h l t a;obtain⟨g,f⟩:=Zm.1 this;rw[getElem!_pos _ t (by simpa using g)];simp only[List.getElem_toArray,f];simp
theorem Qbbj{α:Type}(e:α->List D)(xs:List α):rowV e xs=(xs.map fun x=>(e x).map D.val).flatten:=by
 unfold rowV;rw[List.map_flatten,Zap];rfl
theorem Q7b{P:Program}{o:Ren}{α:Type}[Inhabited α](L:SlLaysF0.n6 P o){k:Nat}(S:∀w,(isAgg (o.t 24)).run P w = .ok true w)(zE:∀w,(Go.sizeOf (o.t 24)).run P w = .ok k w)(e:α->List D)(J:∀x,(e x).length=k)(E:0<k)(z:∀x,(e x).all D.scalar=true)(b:α->α->Int)(N:SWO (ltOf b))(g:Nat)(p:Array Value)(R:∀args w,(callFunc g args).run P w = .ok (.enter g args) w)(l:∀(x y:α)(W:World),Calls P g (#[.agg ((e x).map D.val).toArray,.agg ((e y).map D.val).toArray]++p) W fun r w'=>r = .returned (.int .i64 (b x y))/\∃q s,w'=grow (W.drewN q) s):
  Qbiw P (o.f 6) e #[.func (.func g) #[] p] (fun xs=>(pdq (ltOf b) xs.toArray 0 xs.length (Lib.bitLen xs.length) true true).toList):=by
 intro c B xs w hc m u;have a:∀x,((fun x=>(e x).map D.val) x).length=k:=fun x=>by simp[J]
 have Q:∀x:α,∀v∈(e x).map D.val,v.oneCell'=true:=by
  intro x v I;obtain⟨d,M,rfl⟩:=Zl.1 I;exact Qbdc (Zt.1 (z x) d M)
 have O:HoldsK (fun x=>(e x).map D.val) k w c 0 xs.toArray:=by
  unfold HoldsK;rw[Qbbi a E,<-Qbbj];intro j C;have i : j<(rowV e xs).length:=by simpa using C
  obtain⟨H,F⟩:=hc j i;rw[Zz];refine⟨H.trans ?_,F⟩;rw[Zj i,getElem!_pos _ j C];rfl
 have A:CmpLays P g p (fun x=>(e x).map D.val) k b c 0 xs.toArray.size w:=fun _ _ _ _ x y=>l x y _;have:=AnyQ.slices_SortFunc_eq L k S zE (fun x=>(e x).map D.val) a Q b N g p c 0 B xs.toArray w R A O m (by simpa using u);refine this.mono ?_;rintro r w' ⟨rfl,n,os,rfl⟩;refine⟨rfl,n,os,?_⟩;unfold sortWorldK putRowK;have h:flatK (fun x=>(e x).map D.val) k (pdq (ltOf b) xs.toArray 0 xs.toArray.size (Lib.bitLen xs.toArray.size) true true)=(rowV e (pdq (ltOf b) xs.toArray 0 xs.length (Lib.bitLen xs.length) true true).toList).toArray:=by
  rw[Qbbj,<-Qbbi a E];simp
 rw[h]
section
variable{α:Type}[Inhabited α]
theorem Q9q{c:α->α->Bool}(o:SWO c)(xs:List α)(k:Nat):(pdq c xs.toArray 0 xs.length k true true).toList.Perm xs/\(pdq c xs.toArray 0 xs.length k true true).toList.Pairwise fun a b=>c b a=false:=by
 obtain⟨⟨q,_,h⟩,p⟩:=pdq_sorts c o xs.toArray 0 xs.length k true true (Zw _) (by simp) (Or.inl rfl);generalize pdq c xs.toArray 0 xs.length k true true=d at *
 have l:d.size=xs.length:=by simpa using q
 refine⟨?_,?_⟩
 ·have r:d.extract 0 xs.length=d:=by rw[<-l];exact Array.extract_size
  have e2:xs.toArray.extract 0 xs.length=xs.toArray:=by
   have:xs.length=xs.toArray.size:=by simp
   rw[this];exact Array.extract_size
  rw[r,e2] at h;simpa using h
 ·rw[Zbr];intro i j n m f;have g : i<d.size:=by simpa using n
  have e : j<d.size:=by simpa using m
  have:=p i j (Zw _) f (by omega);rw[getElem!_pos d i g,getElem!_pos d j e] at this;simpa using this
theorem Qbi6{a:α->α->Bool}(b:SWO a)(xs:List α)(k:Nat)(c:Q7a a xs=true):(pdq a xs.toArray 0 xs.length k true true).toList=Qi8 a xs :=
 Q9p b c (Q9q b xs k).1 (Q9q b xs k).2
end
theorem Qbi7{f:Type}{P:Program}{c:Nat}{e:f->List D}{sz N:Nat}{n:f->Bool}{o:f->f->Bool}[Inhabited {x:f // n x=true}]{d : {x:f // n x=true}->{x:f // n x=true}->Bool}(O:N<4611686018427387904)(F:∀x,(e x).length=sz)(u:∀x,(e x).all D.scalar=true)(C:SWO d)(s:∀x y,d x y=o x.1 y.1)(hb:Qh0 P c=true){ex:Array Value}{exV:List V}(t:∀g w us,RFs g w exV us->us=ex.toList)(q:Qbiw P c (fun x:{x:f // n x=true}=>e x.1) ex (fun xs=>(pdq d xs.toArray 0 xs.length (Lib.bitLen xs.length) true true).toList))(m:∀(p:Option Addr)(j:Nat)(w:World),Calls P c (#[.slice p 0 j]++ex) w fun J w'=>J = .returned (.tuple #[])/\w'=w)(k:V.dems exV=exV:=by rfl):
  RowK P c e sz exV (fun l=>if l.length<=N then Qbny n o l else none):=by
 intro xs ys h;dsimp only at h;split at h<;>try (cases h;done)
 rename_i v;unfold Qbny at h;split at h<;>cases h;rename_i r;simp only[Zc,Zt] at r;obtain⟨ho,B⟩:=r;obtain⟨i,rfl⟩ : ∃i:List {x:f // n x=true},xs=i.map Subtype.val:=⟨xs.pmap Subtype.mk ho,by rw[List.map_pmap];simp⟩;have z : Q7a d i=true:=by
  rw[Qbbg] at B;rw[show d=fun a b=>o a.1 b.1 from funext fun a=>funext fun b=>s a b];exact B
 have I:Qi8 o (i.map Subtype.val)=(Qi8 d i).map Subtype.val:=by
  rw[Q8e,show d=fun a b=>o a.1 b.1 from funext fun a=>funext fun b=>s a b]
 refine⟨Qmx _ _,fun E=>?_,fun L j k0 M nb H=>?_⟩
 ·simp only[List.map_eq_nil_iff] at E;subst E;exact⟨rfl,fun M nb=>Q59 hb t m k⟩
 ·have A : M k0=some (.cells (Qb8 (i.map fun x=>e x.1) ((j-i.length)*sz))):=by
   rw[H,Zap,Zu];rfl
  have:=Q8a (fun x=>F x.1) (fun x=>u x.1) (fun xs=>(Q9q C xs _).1.length_eq) t hb q i j k0 M nb A (by rw[Zu] at v;omega) k;rw[Qbi6 C i _ z] at this;rw[I,Zap,Zu];exact this
end Go.Abs
end
section
namespace Go.Abs
open Go Go.Sort Go.RowKit
theorem Q6a(xs:List Int):rowV (eI .i64) xs=xs.map (Value.int .i64):=by
 unfold rowV
 induction xs with
 |nil=>rfl
 |cons x xs a=>simp only[Zb,Zaz,Zbn,a];rfl
theorem Qbi8{P:Program}{c:Nat}(hb:Qh0 P c=true)(s:∀(b off a:Nat)(o:List Int)(w:World),Holds (Value.int .i64) w b off o.toArray->b<w.heap.size->o.length<4611686018427387904 ->
   Calls P c #[.slice (some ⟨b,off,none⟩) o.length a] w fun e w'=>e = .returned (.tuple #[])/\∃n os,w'=grow (putRow (Value.int .i64) (Sort.ahead w n) b off (o.mergeSort fun x y=>decide (x<=y)).toArray) os)(d:∀(p:Option Addr)(a:Nat)(w:World),Calls P c (#[.slice p 0 a] ++ #[]) w fun A w'=>A = .returned (.tuple #[])/\w'=w):
  RowK P c (eI .i64) 1 [] (fun l=>if l.length<=lim then some (Qi8 Qgq l) else none):=by
 have g:Qbiw P c (eI .i64) #[] (fun xs=>Qi8 Qgq xs):=by
  intro b a xs w f m q;refine Calls.mono (s b 0 a xs w ?_ m q) ?_
  ·intro j r;have i : j<xs.length:=by simpa using r
   have:=f j (by rw[Q6a];simpa using i);rw[Q6a] at this;rw[Zz];refine⟨?_,this.2⟩;rw[this.1,getElem!_pos xs.toArray j r];simp[i]
  ·rintro e w' ⟨rfl,n,os,rfl⟩;refine⟨rfl,n,os,?_⟩;rw[Qbde,Q6a];congr 1;unfold putRow;congr 1;funext c;unfold putCells;congr 1;funext k x;simp only[List.size_toArray,Zu];split
   ·rename_i h;simp only[id];rw[getElem!_pos _ _ (by simp;omega),getElem!_pos _ _ (by simp;omega)];simp
   ·rfl
 intro xs ys h;dsimp only at h;split at h<;>cases h;rename_i u;refine⟨Qmx _ _,fun z=>?_,fun t a k0 M nb v=>?_⟩
 ·subst z;exact⟨rfl,fun M nb=>Q59 (ex:=#[]) (exV:=[]) hb (fun _ _ _ h=>h) d⟩
 ·exact Q8a (e:=eI .i64) (fun _=>rfl) (fun _=>rfl) (fun xs=>Qmx _ _) (ex:=#[]) (exV:=[]) (fun _ _ _ h=>h) hb g xs a k0 M nb v (by unfold lim at u;omega)
end Go.Abs
end
section
namespace Go.Abs
open Go Go.Sort Go.RowKit Go.Lib
theorem Q6b(a:List Int):(Lib.compact a).length<=a.length:=by
 unfold Lib.compact Lib.compactUpTo;rw[Zu];exact Zac (Zax _ _) (by simp)
theorem Qbnz(l:List Int):(l.map (eI .i64)).flatten=l.map (D.int .i64):=by
 induction l with
 |nil=>rfl
 |cons x l a=>simp only[Zb,Zaz,a];rfl
theorem Qbgm{P:Program}{c:Nat}(hb:Qh0 P c=true)(hs:∀(L off f:Nat)(N:List Int)(w:World),Holds (Value.int .i64) w L off N.toArray->N.length<=9223372036854775807->N.length<=f ->
   Calls P c #[.slice (some ⟨L,off,none⟩) N.length f] w fun e w'=>e = .returned (.slice (some ⟨L,off,none⟩) (Lib.compact N).length f)/\∃n,w'=putRow (Value.int .i64) (Sort.ahead w n) L off (Lib.compact N++List.replicate (N.length-(Lib.compact N).length) 0).toArray)(U:∀(p:Option Addr)(f:Nat)(w:World),Calls P c #[.slice p 0 f] w fun e' w'=>e' = .returned (.slice p 0 f)/\w'=w):
  CompK P c (fun l=>if l.length<=lim then some (Lib.compact l) else none):=by
 intro xs ys hf;dsimp only at hf;split at hf<;>cases hf;rename_i hl;refine⟨Q6b xs,fun h0=>?_,fun f k0 M nb hcap hM=>?_⟩
 ·subst h0;refine⟨rfl,fun M nb=>ACalls.mk' hb (Ze _) rfl fun w g us X u T hfl hons=>?_⟩;obtain⟨u0,us',rfl,J,rfl⟩:=T;have h2:=RF_d.1 J;obtain⟨a,cp,rfl,_,_⟩:=id h2;refine (U a cp w).mono ?_;rintro e' w' ⟨rfl,rfl⟩;exact⟨_,g,rfl,X,J _,trivial,u,Fr.refl _ _ _⟩
 refine ACalls.mk' hb (Ze _) rfl fun w g us X u T hfl hons=>?_;obtain⟨u0,us',rfl,J,rfl⟩:=T;have h0:=Q64.1 J;subst h0;obtain⟨hk0,q,m,et,hh,hrv,hone⟩:=X.box k0 _ hM;have hlt:g.box k0<w.heap.size:=(Zaf.1 hh).1;obtain⟨hvl,hvr⟩:=(Qc8 _ _ _ _).1 hrv;simp only[Qb8,Qbnz,Zap,Zx,Zu,List.length_replicate,Nat.mul_one] at hvl hvr;have hcell:∀(j:Nat)(x:Int),xs[j]? = some x->m[j]? = some (.int .i64 x):=by
  intro j x hx;have A:=(Zm.1 hx).1;have hjv:j<m.length:=by omega
  have hc:(List.map (V.d ∘ D.int .i64) xs++List.replicate (f-xs.length) V.und)[j]? = some (.d (.int .i64 x)):=by
   rw[Zay (by rw[Zu];exact A),Zag,hx];rfl
  have:=hvr j _ _ hc (Zj hjv);have h2:m[j] = .int .i64 x:=this;rw[Zj hjv,h2]
 have hH:Holds (Value.int .i64) w (g.box k0) 0 xs.toArray:=by
  intro j A;have hj' : j<xs.length:=by simpa using A
  have:=hcell j xs[j] (Zj hj');rw[Zz];refine⟨?_,by simp[World.frozen?,hh]⟩;rw[getElem!_pos xs.toArray j A];simp[World.cell?,hh,this]
 refine (hs (g.box k0) 0 f xs w hH (by unfold lim at hl;omega) hcap).mono ?_;rintro e' w' ⟨rfl,n,rfl⟩;have hyl:=Q6b xs;generalize Lib.compact xs=ys at hyl |-;generalize hF:(ys++List.replicate (xs.length-ys.length) 0).toArray=F;have hFs:F.size=xs.length:=by rw[<-hF];simp;omega
 have hput:putRow (Value.int .i64) (Sort.ahead w n) (g.box k0) 0 F=grow (putRow id (Sort.ahead w n) (g.box k0) 0 (F.map (Value.int .i64))) #[]:=by
  have e1:∀W:World,grow W #[]=W:=fun W=>by unfold grow;simp
  rw[e1];unfold putRow;congr 1;funext c;unfold putCells;congr 1;funext k x;simp only[Array.size_map];split
  ·rename_i h;simp only[id];rw[getElem!_pos _ _ (by omega),getElem!_pos _ _ (by simp;omega)];simp
  ·rfl
 rw[hput];generalize hF' : F.map (Value.int .i64)=F';have hFs' : F'.size=xs.length:=by rw[<-hF',Array.size_map,hFs]
 have hFv:∀j(h:j<ys.length),F'[j]'(by omega)=Value.int .i64 ys[j]:=by
  intro j h;subst hF';subst hF;simp only[List.getElem_toArray,Array.getElem_map];rw[List.getElem_append_left h]
 have hFi:∀j(h:j<F'.size),∃z:Int,F'[j]=Value.int .i64 z:=by
  intro j h;subst hF';exact⟨_,Array.getElem_map ..⟩
 have R:=Q5u w n (g.box k0) F' #[] hh;have r:∀b,b≠g.box k0->b<w.heap.size->(grow (putRow id (Sort.ahead w n) (g.box k0) 0 F') #[]).heap[b]? = w.heap[b]?:=fun b hb hlt=>Qtk w n _ F' #[] hb hlt;have t:w.heap.size<=(grow (putRow id (Sort.ahead w n) (g.box k0) 0 F') #[]).heap.size:=by
  simp[putRow,mapBlock,Sort.ahead]
 generalize S : grow (putRow id (Sort.ahead w n) (g.box k0) 0 F') #[]=w' at R r t;have Q:Imm g.imm g.imm w w':=by
  refine⟨fun _ _ h=>h,fun b o h=>?_⟩;obtain⟨k1,O⟩:=X.imm b o h;have E:b≠g.box k0:=by rintro rfl;exact O k0 q
  exact Qew (r b E k1)
 have H:Kept g w g w' (There M) (fun o=>o ≠ .box k0):=⟨Q,fun _ _=>rfl,fun b hb hl=>⟨rfl,r b (by rintro rfl;exact hb q) hl,fun _=>Zk⟩⟩;have hsub:∀(o:Owner)i,o ≠ .box k0->o.sub i ≠ .box k0:=by intro o i _;cases o<;>simp[Owner.sub]
 have hnew:∀p:Nat->Prop,V.ons p (Qb8 (ys.map (eI .i64)) ((f-ys.length)*1)):=by
  intro p;rw[Qiq];intro v hv;simp only[Qb8,Zp,Zl,List.mem_replicate] at hv;rcases hv with⟨x,_,rfl⟩|⟨_,rfl⟩<;>trivial
 have hth:There (M.put k0 (.cells (Qb8 (ys.map (eI .i64)) ((f-ys.length)*1)))) k0:=by simp[There,Mem.put]
 refine⟨_,g,rfl,⟨fun k b I=>?_,fun b o h=>⟨Zbk (X.imm b o h).1 t,(X.imm b o h).2⟩⟩,by simp[RV],hth,fun k cs I=>?_,?_⟩
 ·by_cases s:k=k0
  ·subst s;rw[Qha] at I;cases I;refine⟨hk0,q,(putCells id 0 F' m.toArray).toList,et,by simpa using R,(Qc8 _ _ _ _).2 ⟨?_,fun j cc x hc hx=>?_⟩,fun x hx=>?_⟩
   ·simp only[Qb8,Qbnz,Zap,Zx,Zu,List.length_replicate,Nat.mul_one];simp[putCells];omega
   ·have C : (putCells id 0 F' m.toArray)[j]? = some x:=by simpa using hx
    simp only[putCells,Array.getElem?_mapIdx,List.getElem?_toArray,Zd] at C;obtain⟨y,hy,rfl⟩:=C;simp only[Qb8,Qbnz,Zap,Nat.mul_one] at hc;by_cases A:j<ys.length
    ·rw[Zay (by rw[Zu];exact A),Zag,Zj A,Zad,Zh] at hc;subst hc;rw[if_pos ⟨Zw _,by omega⟩];simp only[Nat.sub_zero,id];rw[getElem!_pos F' j (by omega),hFv j A];simp[RV,RD]
    ·rw[Zau (by rw[Zu];omega)] at hc;have:cc = .und:=(List.mem_replicate.1 (Zn hc)).2;subst this;simp[RV]
   ·obtain⟨j,A⟩:=List.getElem?_of_mem hx;have C : (putCells id 0 F' m.toArray)[j]? = some x:=by simpa using A
    simp only[putCells,Array.getElem?_mapIdx,List.getElem?_toArray,Zd] at C;obtain⟨y,hy,rfl⟩:=C;split
    ·rename_i hr;simp only[id];rw[getElem!_pos F' _ (by omega)];obtain⟨z,hz⟩:=hFi (j-0) (by omega);rw[hz];exact Qbdc (x:=.int .i64 z) rfl
    ·exact hone y (Zn hy)
  ·rw[Qcr _ _ s] at I;obtain⟨k1,O,k3⟩:=X.box k b I;cases b with
   |mp es c =>
    obtain⟨ents,q1,q2⟩:=k3;have E:g.box k≠g.box k0:=by
     intro h;rw[h,q] at O;cases O;exact s rfl
    exact⟨k1,O,ents,(r _ E (Zaf.1 q1).1).trans q1,Qll (g:=g) (g':=g) H (fun _=>by simp) q2⟩
   |cells cs =>
    obtain⟨B,e2,q1,q2,q3⟩:=k3;have E:g.box k≠g.box k0:=by
     intro h;rw[h,q] at O;cases O;exact s rfl
    refine⟨k1,O,B,e2,(r _ E (Zaf.1 q1).1).trans q1,?_,q3⟩;exact RVs_mono H hsub (by simp) cs (.box k) 0 B (by simpa using s) (u k cs I) q2
 ·by_cases s:k=k0
  ·subst s;rw[Qha] at I;cases I;exact hnew _
  ·rw[Qcr _ _ s] at I;exact ons_mono (fun j A=>There.put A) _ (u k cs I)
 ·refine⟨by rw[<-S];rfl,by rw[<-S];rfl,by rw[<-S];rfl,t,Q,fun _ _=>rfl,fun b hb ho=>⟨rfl,r b ?_ hb,fun _=>Zk⟩⟩;rintro rfl;rw[q] at ho;exact ho
end Go.Abs
end
section
namespace Go.Proofs
open Go.Shelf Go.RowKit Go.Lib Go.Sort Go.Abs
theorem Tryz.rowK124:Go.Abs.RowK Tryz.prog 124 (eI .i64) 1 [] Qblq :=
 Qbi8 (by kernel_rfl) Tryz.slices_Sort_int Tryz.slices_Sort_int_none
theorem Tryz.compK125:Go.Abs.CompK Tryz.prog 125 Q4n :=
 Qbgm (by kernel_rfl) Tryz.slices_Compact_int Tryz.slices_Compact_int_empty
abbrev PlOk:={x:Qd // okPl x=true}
instance:Inhabited PlOk:=⟨⟨⟨0,0⟩,rfl⟩⟩
def cfP(x y:PlOk):Int:=if x.1.ambient_=y.1.ambient_ then x.1.language_-y.1.language_ else x.1.ambient_-y.1.ambient_
theorem Q4o(x y:PlOk):ltOf cfP x y=ltPl x.1 y.1:=by
 unfold ltOf cfP ltPl;apply decide_eq_decide.2;split<;>omega
theorem swoP:SWO (ltOf cfP):={
 irrefl x:=by rw[Q4o];simp[ltPl]
 trans x y z h1 h2:=by rw[Q4o] at *;simp only[ltPl,decide_eq_true_eq] at *;omega
 ntrans x y z h1 h2:=by rw[Q4o] at *;simp only[ltPl,decide_eq_false_iff_not] at *;omega }
set_option maxHeartbeats 1000000 in
theorem Tryz.places146(x y:PlOk)(W:World):Calls Tryz.prog 146 #[.agg ((Qbv x.1).map D.val).toArray,.agg ((Qbv y.1).map D.val).toArray] W fun e w'=>e = .returned (.int .i64 (cfP x y))/\∃q os',w'=grow (W.drewN q) os':=by
 obtain⟨⟨a,b⟩,hx0⟩:=x;obtain⟨⟨a',b'⟩,hy0⟩:=y;have hx:=hx0;have hy:=hy0;simp only[okPl,decide_eq_true_eq] at hx hy;have w1:IntKind.i64.wrap (a-a')=a-a':=by simp[IntKind.wrap,IntKind.bits,IntKind.signed];omega
 have w2:IntKind.i64.wrap (b-b')=b-b':=by simp[IntKind.wrap,IntKind.bits,IntKind.signed];omega
 have hr:cfP ⟨⟨a,b⟩,hx0⟩ ⟨⟨a',b'⟩,hy0⟩=if a=a' then b-b' else a-a':=rfl;generalize cfP ⟨⟨a,b⟩,hx0⟩ ⟨⟨a',b'⟩,hy0⟩=r at hr |-;simp only[Qbv,Zb,Zi,D.val]
 go_enter Tryz.func146,Tryz.ntmps146
 go_wp2
 ·rename_i h;have h:a≠a':=by simpa using h
  go_ret
  exact⟨by rw[hr,if_neg h];rfl,0,_,by rw[alloc_eq_grow,alloc_eq_grow,grow_grow];rfl⟩
 ·rename_i h;have h:a=a':=by simpa using h
  go_ret
  exact⟨by rw[hr,if_pos h];rfl,0,_,by rw[alloc_eq_grow,alloc_eq_grow,grow_grow];rfl⟩
set_option maxHeartbeats 1000000 in
theorem Tryz.row145:Qbiw Tryz.prog 145 (fun x:PlOk=>Qbv x.1) #[.func (.func 146) #[] #[]] (fun xs=>(pdq (ltOf cfP) xs.toArray 0 xs.length (Lib.bitLen xs.length) true true).toList):=
 Q7b Tryz.sortP Tryz.isAgg96 Tryz.sizeOf96 (fun x:PlOk=>Qbv x.1) (fun _=>rfl) (by decide) (fun _=>rfl) cfP swoP 146 #[] (enters_of Tryz.func146 (by kernel_rfl) rfl) (fun x y W=>Tryz.places146 x y W)
theorem Tryz.none145(p:Option Addr)(a:Nat)(w:World):Calls Tryz.prog 145 (#[.slice p 0 a] ++ #[.func (.func 146) #[] #[]]) w fun b w'=>b = .returned (.tuple #[])/\w'=w :=
 AnyF.slices_SortFunc_none Tryz.sortP p a (.func (.func 146) #[] #[]) w
theorem Qbpb{g:G}{w:World}{f:Nat}{us:List Value}(h:RFs g w [.clo f []] us):us = #[Value.func (.func f) #[] #[]].toList:=by
 obtain⟨u,b,rfl,a,c⟩:=h;have a:=a .ext;simp only[RV,RVs] at a;obtain⟨vs,rfl,rfl⟩:=a;have:b=[]:=c;subst this;rfl
theorem Tryz.rowK145:Go.Abs.RowK Tryz.prog 145 Qbv 2 [.clo 146 []] Qbi5 :=
 Qbi7 (e:=Qbv) (sz:=2) (N:=65536) (by decide) (fun _=>rfl) (fun _=>rfl) swoP Q4o (by kernel_rfl) (ex:=#[.func (.func 146) #[] #[]]) (exV:=[.clo 146 []]) (fun _ _ us h=>Qbpb h) Tryz.row145 Tryz.none145
end Go.Proofs
end
section
namespace Go.Abs
open Go Go.RowKit
theorem Q9r{P:Program}{f:FuncId}{args:List V}{x:D}(p:x.scalar=true)(hb:Qh0 P f=true)(h:∀(w:World)(g:G)(us:List Value),(∀b o,g.imm b o->b<w.heap.size)->RFs g w args us->Calls P f us.toArray w fun e w'=>e = .returned x.val/\Below w.heap.size w w')(M:Mem)(nb:Nat)(i:V.dems args=args:=by rfl):ACalls P f args M nb (.d x) M nb:=by
 refine ACalls.mk' hb (Ze _) i fun w g us j a k r m=>?_;refine Calls.mono (h w g us (fun b o c=>(j.imm b o c).1) k) ?_;rintro e w' ⟨rfl,hbw⟩;have n:Imm g.imm g.imm w w':=⟨fun _ _ h=>h,fun b o c=>Qew (hbw.block b (j.imm b o c).1)⟩;have q:Kept g w g w' (There M) (fun _=>True):=⟨n,fun _ _=>rfl,fun b _ l=>⟨rfl,hbw.block b l,fun _=>Zk⟩⟩;refine⟨_,g,rfl,j.kept q a (fun _ _ _=>trivial) trivial (fun _ _=>trivial) (fun b o c=>?_),?_,trivial,a,?_⟩
 ·obtain⟨t,s⟩:=j.imm b o c;exact⟨Zbk t hbw.size,s⟩
 ·simp only[RV];exact (Qbeu p).2 rfl
 ·exact⟨hbw.os,hbw.tape,hbw.output,hbw.size,n,fun _ _=>rfl,fun b hb _=>⟨rfl,hbw.block b hb,fun _=>Zk⟩⟩
theorem Q7c{P:Program}{f:FuncId}{args:List V}{x:D}(p:x.scalar=true)(hb:Qh0 P f=true)(h:∀(w:World)(g:G)(us:List Value),Tab P g w->(∀b o,g.imm b o->b<w.heap.size)->RFs g w args us->Calls P f us.toArray w fun e w'=>e = .returned x.val/\Below w.heap.size w w')(M:Mem)(nb:Nat)(i:V.dems args=args:=by rfl):ACalls P f args M nb (.d x) M nb:=by
 refine ACalls.mkT' hb (Ze _) i fun w g us q j a k s m=>?_;refine Calls.mono (h w g us q (fun b o c=>(j.imm b o c).1) k) ?_;rintro e w' ⟨rfl,hbw⟩;have n:Imm g.imm g.imm w w':=⟨fun _ _ h=>h,fun b o c=>Qew (hbw.block b (j.imm b o c).1)⟩;have r:Kept g w g w' (There M) (fun _=>True):=⟨n,fun _ _=>rfl,fun b _ l=>⟨rfl,hbw.block b l,fun _=>Zk⟩⟩;refine⟨_,g,rfl,j.kept r a (fun _ _ _=>trivial) trivial (fun _ _=>trivial) (fun b o c=>?_),?_,trivial,a,?_⟩
 ·obtain⟨u,t⟩:=j.imm b o c;exact⟨Zbk u hbw.size,t⟩
 ·simp only[RV];exact (Qbeu p).2 rfl
 ·exact⟨hbw.os,hbw.tape,hbw.output,hbw.size,n,fun _ _=>rfl,fun b hb _=>⟨rfl,hbw.block b hb,fun _=>Zk⟩⟩
theorem Qbi9{g:G}{w:World}{l:List Int}{k:IntKind}{u:Value}(h:RF g w (.d (.lst 1 (l.map (fun n=>[.int k n])))) u):
  ∃a c,u = .slice a l.length c/\l.length<=c/\(l=[]\/∃b o,a=some ⟨b,o,none⟩/\∀(i:Nat)n,l[i]? = some n->g.imm b (o+i)/\w.cell? ⟨b,o+i,none⟩=some (.int k n)):=by
 have h:=RF_d.1 h;simp only[RD,Zu] at h;obtain⟨a,c,rfl,hc,e⟩:=h;refine⟨a,c,rfl,hc,?_⟩;rcases e with e|⟨b,o,rfl,e⟩
 ·exact .inl (by simpa using e)
 ·refine .inr ⟨b,o,rfl,fun i n f=>?_⟩;have:=(Qzu e i [.int k n] (by simp[f])).2;simp only[RDc,Nat.mul_one,RD] at this;obtain⟨m,⟨u,j,rfl⟩,_⟩:=this;exact⟨m,j⟩
end Go.Abs
end
section
namespace Go.Proofs
open Go.RowKit Go.Abs
theorem Qbmu{i:Nat}(h:i<100):(Lib.decDigits i).length<=2:=by
 by_cases a:i<10
 ·rw[Lib.decDigits_one a];simp
 ·rw[Lib.decDigits_two a h];simp
theorem Qbja:∀l:List Int,(∀x∈l,0<=x/\x<100)->(keyL l).length<=3*l.length
 |[],_=>by simp[keyL]
 |x::l,h=>by
  have c:=h x (by simp);have d:=Qbmu (i:=x.toNat) (by omega);have b:=Qbja l fun y a=>h y (by simp[a]);simp only[keyL,List.flatMap_cons,Zx,Zs,Zaj] at *
  omega
set_option maxHeartbeats 4000000 in
set_option maxRecDepth 1000000 in
theorem Tryz.key_walk(l:List Int)(hl:l.length<=lim)(hx:∀x∈l,0<=x/\x<100)(a:Option Addr)(cap:Nat)(w:World)(hc:∀(i:Nat)n,l[i]? = some n->∃b o,a=some ⟨b,o,none⟩/\b<w.heap.size/\w.cell? ⟨b,o+i,none⟩=some (.int .i64 n)):
  Calls Tryz.prog 91 #[.slice a l.length cap] w fun e w'=>e = .returned (.string (keyB l))/\Below w.heap.size w w':=by
 have hlim:l.length<=1099511627776:=hl
 go_enter Tryz.func91,Tryz.ntmps91
 go_wp2
 go_loopw [8] (fun vi wr=>∃(k:Nat),vi = .int .i64 k/\k<=l.length/\Lib.IsBuilderF 161 5 w.heap.size w.heap.size (Lib.byteCells (keyL (l.take k))) wr/\Below w.heap.size w wr) (fun vi _=>l.length-(intOf vi).toNat)
 case atStart =>
  refine⟨0,rfl,by omega,?_,((Below.refl _ w).alloc (Ze _) _)⟩;exact Lib.IsBuilderF.of (Lib.fresh_isBuilder 161 5 w)
 case round =>
  obtain⟨k,rfl,hk,hI,hbw⟩:=hrel;by_cases hlt:k<l.length
  ·obtain⟨b,o,rfl,hb,hcell⟩:=hc k l[k] (Zj hlt);have hcr:wr.cell? ⟨b,o+k,none⟩=some (.int .i64 l[k]):=by
    rw[<-hcell];simp only[World.cell?];rw[hbw.block b hb]
   have hxk:=hx l[k] (Zr hlt);obtain⟨n,hn⟩ : ∃n:Nat,l[k]=(n:Int):=⟨l[k].toNat,by omega⟩;have hn100:n<100:=by omega
   rw[hn] at hcr;have hdl:=Qbmu hn100;have hsz:w.heap.size<=wr.heap.size:=hbw.size;have hkl:=Qbja (l.take k) fun x hxm=>hx x (List.mem_of_mem_take hxm);rw[Zbl] at hkl
   go_wp2_with (go_at_call 103;refine (Tryz.strconv_Itoa_small n hn100 _).mono ?_)
   rintro e W0 ⟨rfl,rfl⟩
   go_wp2_with (go_at_call 102;refine (Tryz.Builder_WriteString_k w.heap.size w.heap.size _ _ _ hI (by rw[Lib.byteCells_length];simp only[ByteArray.size,List.size_toArray];omega) hsz).mono ?_)
   rintro e W1 ⟨rfl,h1,b1,k1⟩;have hsz1:w.heap.size<=W1.heap.size:=Zac hsz b1.size;have hlen2:(Lib.byteCells (keyL (l.take k))++Lib.strCells ⟨(Lib.decDigits n).toArray⟩).length+1<=140737488355328:=by
    rw[show Lib.strCells ⟨(Lib.decDigits n).toArray⟩=Lib.byteCells (Lib.decDigits n) from rfl,Zx,Lib.byteCells_length,Lib.byteCells_length];omega
   go_wp2_with (go_at_call 104;refine (Tryz.Builder_WriteByte_k w.heap.size w.heap.size _ 32 _ (Or.inr h1) hlen2 hsz1).mono ?_)
   rintro e W2 ⟨rfl,h2,b2,k2⟩
   go_wp2
   go_roundw
   case rel =>
    refine⟨k+1,by simp,by omega,?_,(hbw.trans b1).trans b2⟩;have e1:keyL (l.take (k+1))=keyL (l.take k)++Lib.decDigits n++[32]:=by
     rw[Zbj hlt];simp only[keyL,List.flatMap_append,List.flatMap_cons,List.flatMap_nil,Zar,hn,Zaw,Zbm]
    rw[e1,Lib.byteCells_append,Lib.byteCells_append];exact Or.inr h2
   case measure =>
    simp[intOf];omega
  ·have hk2:k=l.length:=by omega
   subst hk2
   go_wp2_with (go_at_call 105;refine (Tryz.Builder_String_any_k w.heap.size w.heap.size _ _ hI hbw.size).mono ?_)
   rintro e W1 ⟨rfl,_,b1,_⟩
   go_wp2
   go_ret
   refine⟨?_,hbw.trans b1⟩
   first|rfl|(rw[Zbf];rfl)|(simp[keyB,Zbf])
theorem Tryz.keyK:Go.Abs.K_product_key Tryz.prog 91 keyI:=by
 intro l r h;unfold keyI at h;split at h<;>cases h;rename_i hc;intro M nb;refine Q9r rfl (by kernel_rfl) (fun w g us d f=>?_) M nb;obtain⟨u,p,rfl,q,c⟩:=f;simp only[RFs] at c;subst c;obtain⟨a,k,rfl,m,e⟩:=Qbi9 q;refine Tryz.key_walk l hc.1 hc.2 a k w fun i n j=>?_;rcases e with rfl|⟨b,o,rfl,e⟩
 ·simp at j
 ·exact⟨b,o,rfl,d _ _ (e i n j).1,(e i n j).2⟩
end Go.Proofs
end
section
namespace Go
theorem Qxz{P:Program}{w:World}(base:Nat)(t j e:TypeId)(i:TypeInfo)(size:Nat)(f:P.underlying t=some (.slice e))(h:P.info? e=some i)(v:Value)(n:Nat)(xs:List Value)(a:w.ownsRow base e size v n xs)(d:Option Addr)(c:Nat):
  (Builtin.append_ #[t,t] j #[v,.slice d 0 c]).run P w = .ok v w:=by
 rcases a.2 with⟨rfl,rfl⟩|⟨g,l,k,rfl,_,_,b,_⟩
 ·cases d<;>simp[Builtin.append_,run_underlying f,sizeOf,typeInfo,h,Builtin.lenOf,Builtin.firstCells,loadCells,loadCellsFrom]
 ·cases d<;>simp[Builtin.append_,run_underlying f,sizeOf,typeInfo,h,Builtin.lenOf,Builtin.firstCells,b,storeCells,loadCells,loadCellsFrom]
theorem Q1u{P:Program}{w:World}{ops:Array Oper}{g:List Oper}{o:Oper}{a:Act}{Q:Exit->Act->World->Prop}(r:o.guard=none)(s x:Operand)(t:TypeId)(ho:o.op = .call { callee:=.builtin .append,args:=#[s,x],argTypes:=#[t,t] })(base:Nat)(e:TypeId)(i:TypeInfo)(z:Value)(size bytes:Nat)(J:P.underlying t=some (.slice e))(O:P.info? e=some i)(R:i.zero=some z)(k:i.size=size)(F:i.bytes=bytes)(B:z.cells.size=size)(C:0<size)(v:Value)(n:Nat)(xs:List Value)(L:a.eval s=v)(d:w.ownsRow base e size v n xs)(y:Option Addr)(m c:Nat)(b:List Value)(I:a.eval x = .slice y m c)(N:b.length=m*size)(l:∀A,y=some A->∀j u,b[j]? = some u->w.cell? (A.add j)=some u)(E:y=none->m=0)(W:∀u∈b,u.oneCell'=true)(H:n+m<=maxLen)(f:(n+m)*bytes<=140737488355328)(p:base<=w.heap.size)(h:∀v' w',w'.ownsRow base e size v' (n+m) (xs++b)->w.grownBy w' v.ownBlock->wpList P ops Q g (a.put o.dst v') w'):wpList P ops Q (o::g) a w:=by
 by_cases M:m=0
 ·subst M;have:b=[]:=Zan (by simpa using N);subst this;refine wpList_plain r fun K S=>?_;have q:=Qxz (P:=P) (w:=w) base t o.type e i size J O v n xs d y c;unfold Oper.wp;simp[execOp,ho,resolve,invoke,builtin,L,I,q,Result.andThen];exact S _ _ (h _ _ (by simpa using d) (World.grownBy.refl w _))
 ·cases y with
  |none=>exact absurd (E rfl) M
  |some A=>exact wpList_append_own w r s x t ho base e i z size bytes J O R k F B C v n xs L d A m c b I N (l A rfl) W H f p fun v' w' U T _=>h v' w' U T
end Go
namespace Go.Proofs
open Go.RowKit Go.Abs
end Go.Proofs
end
section
namespace Go.Abs
theorem Qbe7:∀l:List Int,(∀z∈l,-9223372036854775808<=z/\z<=9223372036854775807)->(Qxy l).length<=22*l.length
 |[],_=>by simp[Qxy]
 |x::l,h=>by
  have c:=Lib.itoa_length_le x (h x (by simp)).1 (h x (by simp)).2;have b:=Qbe7 l fun z a=>h z (by simp[a]);have e:Qxy (x::l)=Lib.itoa x++[32]++Qxy l:=rfl;rw[e];simp only[Zx,Zs,Zaj];omega
end Go.Abs
namespace Go.Proofs
open Go.RowKit Go.Abs Go.Lib Go.Sort
theorem Qbbk{T e:TypeId}{B b:Nat}{bs:List Value}{W f : World}(h:IsBuilderF T e B b bs W)(hb:Below W.heap.size W f):IsBuilderF T e B b bs f:=by
 have key:∀p,BuilderAtF T e B b p bs W->BuilderAtF T e B b p bs f:=by
  intro p h;have d:=h.lt;obtain⟨hB,v,g,a,c⟩:=h;exact⟨hB,v,(hb.block b d).trans g,a.kept (row:=none) ⟨hb.os,hb.tape,hb.output,hb.size,fun k i _=>hb.block k i⟩ (Classical.em _),c⟩
 rcases h with h|h
 ·exact .inl (key _ h)
 ·exact .inr (key _ h)
theorem Tryz.laysM171:Go.Proofs.LaysM.n171 Tryz.prog Tryz.lays171_ren:={ Tryz.lays171 with
 i0:=by kernel_rfl
 i2:=by kernel_rfl
 i3:=by kernel_rfl
 i4:=by kernel_rfl
 i5:=by kernel_rfl
 i9:=by kernel_rfl
 i20:=by kernel_rfl
 i37:=by kernel_rfl
 i46:=by kernel_rfl
 i51:=by kernel_rfl
 i53:=by kernel_rfl
 i171:=by kernel_rfl
 i173:=by kernel_rfl
 i212:=by kernel_rfl
 i232:=by kernel_rfl
 i233:=by kernel_rfl
 m17:=by kernel_rfl
 m18:=by kernel_rfl
 m19:=by kernel_rfl }
theorem Tryz.strconv_Itoa(n:Int)(h0 : -9223372036854775808≤n)(h1:n≤9223372036854775807)(w:World)(htab : Lib.TabIs Tryz.prog w "internal/strconv.uint64pow10" .u64 Lib.pow10Tab) :
  Calls Tryz.prog 103 #[.int .i64 n] w fun e w'=>e = .returned (.string ⟨(Lib.itoa n).toArray⟩)∧∃ k os,w'=Go.Sort.grow (w.drewN k) os:=Any.strconv_Itoa Tryz.laysM171 n h0 h1 w htab
set_option maxHeartbeats 4000000 in
set_option maxRecDepth 1000000 in
theorem Tryz.rkeyT_walk(x y:Int)(l:List Int)(hl:l.length+2≤lim)(hx:∀ z∈x::y::l,-9223372036854775808≤z∧z≤9223372036854775807)(a:Option Addr)(cap:Nat)(w:World)(htab : Lib.TabIs Tryz.prog w "internal/strconv.uint64pow10" .u64 Lib.pow10Tab)(hc:∀ (i:Nat) n,l[i]? = some n→∃ b o,a=some ⟨b,o,none⟩∧b<w.heap.size∧w.cell? ⟨b,o+i,none⟩=some (.int .i64 n)) :
  Calls Tryz.prog 53 #[.agg #[.int .i64 x,.int .i64 y],.slice a l.length cap] w fun e w'=>e = .returned (.string (keyT (x::y::l)))∧Below w.heap.size w w':=by
 have htb:=Lib.tabBelow_of_tabIs htab;have hlim:l.length+2≤1099511627776:=hl;obtain ⟨i0,hi,hz0,hz1,hz2⟩:=info_parts (P:=Tryz.prog) (e:=3) (z:=.int .i64 0) (size:=1) (bytes:=8) (by kernel_rfl)
 go_enter Tryz.func53,Tryz.ntmps53
 go_wp2_with (at_builtin;refine Q1u rfl _ _ 32 rfl (w.heap.size+2) 3 i0 (.int .i64 0) 1 8 Tryz.underlying32 hi hz0 hz1 hz2 rfl (by decide) _ 2 [.int .i64 x,.int .i64 y] rfl ?own a l.length cap (l.map (Value.int .i64)) rfl (by simp) ?news ?none ?one (by unfold maxLen;omega) (by omega) ?base ?rest)
 case own =>
  have:=World.ownsRow_lit (base:=w.heap.size+2) (e:=3) (size:=1) ((w.alloc (.cells #[.int .i64 x,.int .i64 y] 96)).alloc (.cells #[.pointer none,.slice none 0 0] 161)) #[.int .i64 x,.int .i64 y] 2 (by simp) (by unfold maxLen;omega) rfl;simp at this;exact this
 case news =>
  intro ad had j u hj;rw [List.getElem?_map] at hj;obtain ⟨n,hn,rfl⟩:=Option.map_eq_some_iff.1 hj;obtain ⟨b,o,rfl,hb,hcell⟩:=hc j n hn;cases had;rw [← hcell];have hB:Below w.heap.size w (((w.alloc (.cells #[.int .i64 x,.int .i64 y] 96)).alloc (.cells #[.pointer none,.slice none 0 0] 161)).alloc (.cells #[.int .i64 x,.int .i64 y] 3)) :=
   (((Below.refl _ w).alloc (Nat.le_refl _) _).alloc (by simp) _).alloc (by simp;omega) _
  simp only [World.cell?,Addr.add_lit];rw [hB.block b hb]
 case none =>
  intro ha;cases l with
  | nil=>rfl
  | cons z l =>
   obtain ⟨b,o,h,_⟩:=hc 0 z rfl;rw [ha] at h;cases h
 case one =>
  intro u hu;obtain ⟨n,_,rfl⟩:=List.mem_map.1 hu
  rfl
 case base=>simp
 intro v' wA hown hgrow;obtain ⟨hlen,⟨rfl,h0⟩|⟨g,cap',cur,rfl,hbg,hg,hnc,hcm,hcs,htake⟩⟩:=hown
 ·omega
 have hbA:wA.heap[w.heap.size+1]? = some (.cells #[.pointer none,.slice none 0 0] 161 (0,0)):=by
  rw [hgrow.block (w.heap.size+1) (by simp) (by simp [Value.ownBlock])];rw [Lib.alloc_old _ _ _ (by simp),show w.heap.size+1=(w.alloc (.cells #[.int .i64 x,.int .i64 y] 96)).heap.size from by simp];exact heap_alloc_new _ _
 have hBA:Below w.heap.size w wA:=by
  have hB:Below w.heap.size w (((w.alloc (.cells #[.int .i64 x,.int .i64 y] 96)).alloc (.cells #[.pointer none,.slice none 0 0] 161)).alloc (.cells #[.int .i64 x,.int .i64 y] 3)) :=
   (((Below.refl _ w).alloc (Nat.le_refl _) _).alloc (by simp) _).alloc (by simp;omega) _
  exact hB.grown hgrow (by simp;omega) (fun k hk=>by simp [Value.ownBlock] at hk;omega)
 have hszA:w.heap.size+1≤wA.heap.size:=by have:=hgrow.size;simp at this;omega
 have hcur:∀ (k:Nat) z,(x::y::l)[k]? = some z→cur[k]? = some (.int .i64 z):=by
  intro k z hz;have hk:=(List.getElem?_eq_some_iff.1 hz).1;simp only [List.length_cons] at hk;have h1:(cur.toList.take ((2+l.length)*1))[k]? = some (.int .i64 z):=by
   rw [htake];show ((x::y::l).map (Value.int .i64))[k]? = _;rw [List.getElem?_map,hz];rfl
  rw [List.getElem?_take_of_lt (by omega)] at h1;simpa using h1
 generalize hxs:x::y::l=xs at hx hcur;have hN:xs.length=2+l.length:=by rw [← hxs];simp;omega
 go_wp2
 go_loopw [16] (fun vi wr=>∃ (k:Nat),vi = .int .i64 k∧k≤xs.length∧Lib.IsBuilderF 161 5 (w.heap.size+1) (w.heap.size+1) (Lib.byteCells (Qxy (xs.take k))) wr∧Below w.heap.size w wr∧wr.heap[g]? = some (.cells cur 3 (0,0))∧w.heap.size+1≤wr.heap.size) (fun vi _=>xs.length-(intOf vi).toNat)
 case atStart =>
  exact ⟨0,rfl,by omega,Lib.IsBuilderF.of (Or.inl ⟨Nat.le_refl _,.slice none 0 0,hbA,World.ownsRow_nil _ _ _ _,by simp [Value.ownBlock]⟩),hBA,hg,hszA⟩
 case round =>
  obtain ⟨k,rfl,hk,hI,hbw,hgr,hsz⟩:=hrel;by_cases hlt:k<xs.length
  ·have hxk:=hx xs[k] (List.getElem_mem hlt);have hcr:wr.cell? ⟨g,k,none⟩=some (.int .i64 xs[k]):=by
    simp only [World.cell?,hgr];exact hcur k _ (List.getElem?_eq_getElem hlt)
   have hcr0:wr.cell? ⟨g,0+k,none⟩=some (.int .i64 xs[k]):=by rw [Nat.zero_add];exact hcr
   obtain ⟨n,hn⟩ : ∃ n:Int,xs[k]=n:=⟨_,rfl⟩;rw [hn] at hcr hcr0 hxk;have hdl:=Lib.itoa_length_le n hxk.1 hxk.2;have hkl:=Qbe7 (xs.take k) fun x hxm=>hx x (List.mem_of_mem_take hxm);rw [List.length_take] at hkl
   go_wp2_with (go_at_call 103;refine (Tryz.strconv_Itoa n hxk.1 hxk.2 _ (htb _ hbw)).mono ?_)
   rintro e W0 ⟨rfl,kd,os,rfl⟩;have hb0:Below wr.heap.size wr (Go.Sort.grow (wr.drewN kd) os):=Lib.below_grow _ wr (Nat.le_refl _) kd os;have hglt:g<wr.heap.size:=(Array.getElem?_eq_some_iff.1 hgr).1;have hI0:=Qbbk hI hb0;have hgr0:(Go.Sort.grow (wr.drewN kd) os).heap[g]? = some (.cells cur 3 (0,0)):=(hb0.block g hglt).trans hgr;have hsz0:w.heap.size+1≤(Go.Sort.grow (wr.drewN kd) os).heap.size:=Nat.le_trans hsz hb0.size;have hbw0:Below w.heap.size w (Go.Sort.grow (wr.drewN kd) os):=hbw.trans (hb0.mono (by omega));generalize Go.Sort.grow (wr.drewN kd) os=W0 at hI0 hgr0 hsz0 hbw0
   go_wp2_with (go_at_call 102;refine (Tryz.Builder_WriteString_k (w.heap.size+1) (w.heap.size+1) _ _ _ hI0 (by rw [Lib.byteCells_length];simp only [ByteArray.size,List.size_toArray];omega) hsz0).mono ?_)
   rintro e W1 ⟨rfl,h1,b1,k1⟩;have hsz1:w.heap.size+1≤W1.heap.size:=Nat.le_trans hsz0 b1.size;have hlen2:(Lib.byteCells (Qxy (xs.take k))++Lib.strCells ⟨(Lib.itoa n).toArray⟩).length+1≤140737488355328:=by
    rw [show Lib.strCells ⟨(Lib.itoa n).toArray⟩=Lib.byteCells (Lib.itoa n) from rfl,List.length_append,Lib.byteCells_length,Lib.byteCells_length];omega
   go_wp2_with (go_at_call 104;refine (Tryz.Builder_WriteByte_k (w.heap.size+1) (w.heap.size+1) _ 32 _ (Or.inr h1) hlen2 hsz1).mono ?_)
   rintro e W2 ⟨rfl,h2,b2,k2⟩
   go_wp2
   go_roundw
   case rel =>
    have hgb:some g≠some (w.heap.size+1):=by simp;omega
    have hne:∀ c fz,Obj.cells cur 3 (0,0)≠Obj.cells c 5 fz:=by intro c fz h;cases h
    refine ⟨k+1,by simp,by omega,?_,(hbw0.trans (b1.mono (by omega))).trans (b2.mono (by omega)),k2 _ _ (k1 _ _ hgr0 hgb hne) hgb hne,Nat.le_trans hsz1 b2.size⟩;have e1:Qxy (xs.take (k+1))=Qxy (xs.take k)++Lib.itoa n++[32]:=by
     rw [List.take_succ_eq_append_getElem hlt];simp only [Qxy,List.flatMap_append,List.flatMap_cons,List.flatMap_nil,List.append_nil,hn,List.append_assoc]
    rw [e1,Lib.byteCells_append,Lib.byteCells_append];exact Or.inr h2
   case measure =>
    simp [intOf];omega
  ·have hk2:k=xs.length:=by omega
   subst hk2
   go_wp2_with (go_at_call 105;refine (Tryz.Builder_String_any_k (w.heap.size+1) (w.heap.size+1) _ _ hI hsz).mono ?_)
   rintro e W1 ⟨rfl,_,b1,_⟩
   go_wp2
   go_ret
   refine ⟨?_,hbw.trans (b1.mono (by omega))⟩;have ht:List.take (2+l.length) (x::y::l)=x::y::l:=by
    rw [show 2+l.length=(x::y::l).length from by simp;omega];exact List.take_length
   simp only [keyT,List.take_length,← hxs];rw [ht];rfl
theorem Tryz.rkeyTK:Go.Abs.K_relative_key Tryz.prog 53 Qbgl:=by
 intro x l r h;unfold Qbgl at h;split at h<;>cases h;rename_i hc;intro M nb;refine Q7c rfl (by kernel_rfl) (fun w g us ht himm hus=>?_) M nb;obtain ⟨u0,us0,rfl,hu0,u,us',rfl,hu,hus'⟩:=hus;simp only [RFs] at hus';subst hus';obtain ⟨a,cap,rfl,hcap,hl⟩:=Qbi9 hu;have h0:=hu0 .ext;simp only [RV,RVs,RD] at h0;obtain ⟨vs,rfl,⟨u,us,rfl,rfl,u2,us2,rfl,rfl,rfl⟩,_⟩:=h0
 have hg : Tryz.prog.globalNamed "internal/strconv.uint64pow10" = some 0 := by kernel_rfl
 refine Tryz.rkeyT_walk x.ambient_ x.language_ l hc.1 hc.2 a cap w (ht 0 hg).2.2 fun i n hi=>?_;rcases hl with rfl|⟨b,o,rfl,hl⟩
 ·simp at hi
 ·exact ⟨b,o,rfl,himm _ _ (hl i n hi).1,(hl i n hi).2⟩
end Go.Proofs
end
section

end
section
namespace Go.Proofs
open Go Go.Abs
set_option maxRecDepth 10000
set_option maxHeartbeats 4000000
theorem Qx0:Qkr Tryz.prog 39 Qpd:=Qu3 Qy5
theorem Qx1:Qks Tryz.prog 97 Qh8:=Qu4 Qy8 Q0
theorem Q0m:Qmj Tryz.prog 108 Qjr:=Qxf Q1n Q0
theorem Qdx:Qcz Tryz.prog 62 Qbs:=Qty Q0m Qxs
theorem Qvc:Qjg Tryz.prog 98 Qhb:=Qsp Qdx Qwl Q0
theorem Qhw:Qfu Tryz.prog 48 Qee:=Qyt Qx1 Qvc Q23
theorem Qud:Qle Tryz.prog 139 Qhm:=Qz3 Q37 Q0
theorem Q0n:Qmk Tryz.prog 140 Qmz:=Qxg Q1p
theorem Q3a:Qow Tryz.prog 99 Qlh:=Qz4 Qud Q0n Q34
theorem Q1v:Qns Tryz.prog 49 Qg1:=Qyu Q3a Q24
theorem Qy9:Qln Tryz.prog 50 Qiy:=Qv3 Q0e Q0
theorem Que:Qlf Tryz.prog 22 Qi9:=Qz5 Qhw Q1v Qy9 Q32 Q0
theorem Q39:Qqq Tryz.prog 88 Qm0:=Q1c Qhw Q52 Q0
theorem Q0o:Qml Tryz.prog 172 Qm1:=Qxh Q1s
theorem Q3b:Qox Tryz.prog 155 Qja:=Qz6 Qud Q0o Q38
theorem Q3c:Qoy Tryz.prog 131 Qgn:=Qz7 Q3b Q35 Q0
theorem Q6c:Qsm Tryz.prog 89 Qob:=Q2x Q3c Q68 Q0
theorem Qrq:Qh1 Tryz.prog 90 Qf3:=Qpn Qs4 Q0
theorem Q4a:Qqr Tryz.prog 171 Qrb:=Q1d Q56
theorem Q6d:Qsn Tryz.prog 153 Qk8:=Q2y Q4a Q69
theorem Q0p:Qmm Tryz.prog 154 Qjs:=Qxi Q1r
theorem Qkn:Qf0 Tryz.prog 128 Qc6:=Qpo Q6d Q0p Qs6 Q0
theorem Qkw:Qg4 Tryz.prog 85 Qfw:=Qv4 Qkn Q0h
theorem Qs7:Qih Tryz.prog 92 Qgi:=Qq4 Qkw Qt7 Q0
theorem Qds:Qc0 Tryz.prog 58 Qbd:=Qxj Q1k
theorem Qvd:Qjh Tryz.prog 93 Qhc:=Qsq Qds Qkw Qwk Q0
theorem Qnk:Qhr Tryz.prog 42 Qbt:=Qtz Q39 Q6c Qrq Tryz.keyK Qs7 Qvd Qxr Q0
theorem Qsg:Qkd Tryz.prog 43 Qik:=Qyv Qnk Q21
theorem Qot:Qgl Tryz.prog 118 Qeu:=Qm6 Qo4 Q0
theorem Q1w:Qnt Tryz.prog 119 Qkg:=Qyw Q28
theorem Q1x:Qnu Tryz.prog 120 Qkh:=Qyx Q29
theorem Qvy:Qmn Tryz.prog 79 Qfg:=Q1e Qot Q1w Q1x Q51
theorem Qwo:Qj1 Tryz.prog 132 Qhu:=Qt0 Qds Qvy Qkn Qxx Q0
theorem Q0q:Qmo Tryz.prog 94 Qjt:=Qxk Qhw Qwo Q1l Q0
theorem Qvz:Qmp Tryz.prog 134 Qj6:=Q1f Q55 Q0
theorem Qv0:Qmq Tryz.prog 133 Qj7:=Q1g Q54 Q0
theorem Qza:Qlo Tryz.prog 136 Qg6:=Qv5 Q0j
theorem Q3d:Qoz Tryz.prog 135 Qli:=Qz8 Q36 Q0
theorem Qzb:Qlp Tryz.prog 138 Qfx:=Qv6 Q0l
theorem Qzc:Qlq Tryz.prog 137 Qg7:=Qv7 Qzb Q0k Q0
theorem Q1y:Qnv Tryz.prog 96 Qki:=Qyy Qv0 Qvz Q3d Qza Qzc Q27 Q0
theorem Q4b:Qqw Tryz.prog 95 Qm2:=Q1h Qds Qv0 Qvz Q53 Q0
theorem Qlx:Qhs Tryz.prog 45 Qc3:=Qxl Qhw Q4b Q1y Q1j
theorem Qsh:Qke Tryz.prog 44 Qil:=Qyz Qlx Qds Q0q Q22
theorem Qpe:Qis Tryz.prog 16 Qfy:=Qv8 Que Qsg Qsh Q0a
theorem Q0r:Qmr Tryz.prog 100 Qju:=Qxm Q1m Q0
theorem Qsi:Qkf Tryz.prog 51 Qim:=Qy0 Qpe Qnk Q0r Q25 Q0
theorem Qdy:Qc1 Tryz.prog 63 Qbl:=Qt1 Qxt
theorem Qfh:Qdv Tryz.prog 59 Qcu:=Qsr Qdx Qwi
theorem Qk9:Qgg Tryz.prog 101 Qe9:=Qq5 Qds Qfh Qdx Qdy Tryz.rowK124 Tryz.compK125 Qt8 Q0
theorem Qrr:Qh2 Tryz.prog 52 Qf4:=Qpp Qk9 Qs0
theorem Qko:Qf1 Tryz.prog 65 Qeq:=Qpq Qdy Qs2
theorem Qo5:Qgs Tryz.prog 107 Qfb:=Qny Qdy Qpw
theorem Qve:Qji Tryz.prog 143 Qjn:=Qss Qwn Q0
theorem Qrs:Qh3 Tryz.prog 106 Qf5:=Qpr Qve Qs5
theorem Qre:Qhh Tryz.prog 54 Qfp:=Qo0 Qdx Qko Qrs Qo5 Qro Q0
theorem Q6e:Qso Tryz.prog 56 Qoc:=Q2z Qkw Q67 Q0
theorem Quf:Qit Tryz.prog 55 Qgt:=Qrk Qds Qfh Qdy Qva Q0
theorem Qi1:Qfq Tryz.prog 57 Qep:=Qst Qdy Qwh
theorem Qrt:Qh4 Tryz.prog 60 Qer:=Qps Qdx Qdy Qk9 Qs1 Q0
theorem Qug:Qlg Tryz.prog 23 Qjb:=Qz9 Qsi Qrr Tryz.rkeyTK Qre Quf Q6e Qi1 Qds Qfh Qrt Q33 Q0
theorem Qrf:Qhi Tryz.prog 144 Qkm:=Qo1 Qrp
theorem Qbdf:Qsb Tryz.prog 146 Q1t:=Qxn Q1q
theorem Qla:Qgh Tryz.prog 110 Qin:=Qq6 Qi1 Qfh Qrf Tryz.rowK145 Qt9 Q0
theorem Qvf:Qjj Tryz.prog 111 Qni:=Qsu Tryz.rkeyTK Qwm Q0
theorem Qs8:Qii Tryz.prog 113 Ql8:=Qq7 Qko Qua
theorem Qs9:Qij Tryz.prog 147 Ql9:=Qq8 Qub Q0
theorem Qpx:Qg5 Tryz.prog 112 Qj8:=Qos Qs9 Qra
theorem Quh:Qiu Tryz.prog 114 Qm3:=Qrl Qi1 Qla Qvb Q0
theorem Qvg:Qjk Tryz.prog 66 Qnj:=Qsv Qlx Qds Qfh Qdx Qdy Qla Qvf Qpx Qs8 Quh Qwj Q0
theorem Q0s:Qmu Tryz.prog 109 Qjv:=Qxo Q1o Q0
theorem Qzd:Qlr Tryz.prog 115 Qrc:=Qv9 Q0i Q0
theorem Q1z:Qnw Tryz.prog 67 Quc:=Qy1 Q0s Qzd Q26
theorem Qze:Qls Tryz.prog 26 Qrd:=Qwa Qsi Qvg Q1z Q0c Q0
theorem Qh7:Qe8 Tryz.prog 28 Qfa:=Qq9 Qt6 Q0
theorem Qwp:Qj3 Tryz.prog 12 Qj9:=Qt2 Qug Qze Qh7 Qx0 Qxq
theorem Qrg:Qhj Tryz.prog 40 Qdp:=Qo2 Qrn Q0
theorem Qnl:Qht Tryz.prog 86 Qge:=Qt3 Qxu
theorem Qka:Qgp Tryz.prog 72 Qcx:=Qu5 Qy7 Q0
theorem Qpf:Qiv Tryz.prog 47 Qeb:=Qwb Q0d Q0
theorem Qwq:Qj4 Tryz.prog 129 Qhv:=Qt4 Qpf Qka Qxv Q0
theorem Qwr:Qj5 Tryz.prog 130 Qgf:=Qt5 Qxw Q0
theorem Qkp:Qf2 Tryz.prog 87 Qes:=Qpt Qpf Qka Qnl Qwq Qwr Qs3 Q0
theorem Qx2:Qkt Tryz.prog 41 Qgr:=Qu6 Qnl Qkp Qy6 Q0
theorem Qx3:Qku Tryz.prog 13 Qh9:=Qu7 Qrg Qx2 Qy3 Q0
theorem Q0t:Qmv Tryz.prog 15 Qjw:=Qxp Que Qsg Qsh Q1i
theorem Qpg:Qiw Tryz.prog 68 Qiz:=Qwc Q0f Q0
theorem Qx4:Qkv Tryz.prog 36 Qia:=Qu8 Qpg Qy4 Q0
theorem Qru:Qh5 Tryz.prog 35 Qf6:=Qpu Qh7 Qsz Q0
theorem Q10:Qnx Tryz.prog 37 Qfz:=Qy2 Qhw Qds Qdx Qvy Q20 Q0
theorem Qzf:Qlt Tryz.prog 20 Qlw:=Qwd Q0b Q0
theorem Qui:Qix Tryz.prog 29 Qgu:=Qrm Qpg Qu9 Q0
theorem Qzg:Qlu Tryz.prog 69 Qi0:=Qwe Qka Q0g Q0
theorem Qrv:Qh6 Tryz.prog 30 Qf7:=Qpv Qzg Qsy
theorem Q3v:Qi6 Tryz.prog 10 Qgo:=Qm7 Qwp Qx3 Q0t Qpe Qzf Qug Qh7 Qui Qrv Qru Qx4 Q10 Qo3 Q0
theorem Qvh:Qjl Tryz.prog 46 Qhd:=Qsw Qkp Qwg Q0
theorem Q9s:Qng Tryz.prog 18 Qhe:=Qsx Qlx Qvh Qwf
end Go.Proofs
end
section
namespace Go.Abs
open Go Go.ChangeShapes Go.WideShapes Go.ChangeAt Go.RowKit
def live(w:World):Nat->Nat->Prop:=fun b o=>(w.cell? ⟨b,o,none⟩).isSome=true
def RDs(w:World):List D->List Value->Prop
 |[],vs=>vs=[]
 |x::xs,vs=>∃u us,vs=u::us/\RD (live w) w x u/\RDs w xs us
theorem Q8f{w:World}:∀{xs ys:List D}{us vs:List Value},RDs w xs us->RDs w ys vs->RDs w (xs++ys) (us++vs)
 |[],ys,us,vs,h,k=>by grind [RDs]
 |x::xs,ys,us,vs,⟨u,a,e,r,h⟩,k=>by subst e;exact⟨u,a++vs,by simp,r,Q8f h k⟩
def RDat(w:World)(cs:List Value)(off:Nat)(xs:List D):Prop:=RDs w xs ((cs.drop off).take xs.length)
theorem RDat.app{w:World}{cs:List Value}{off:Nat}{xs ys:List D}(h:RDat w cs off xs){n:Nat}(a:n=off+xs.length)(k:RDat w cs n ys):RDat w cs off (xs++ys):=by
 grind [Q8f,RDat,List.length_append,List.drop_drop]
theorem RDat.nil{w:World}{cs:List Value}{off:Nat}:RDat w cs off []:=by simp[RDat,RDs]
theorem RDat.all{w:World}{cs:List Value}{xs:List D}(h:RDat w cs 0 xs)(a:cs.length=xs.length):RDs w xs cs:=by
 grind [RDat,List.take_length]
theorem Qbjb{w:World}{b:Nat}:∀{xs:List D}{vs:List Value}{o:Nat},RDs w xs vs->(∀i v,vs[i]? = some v->w.cell? ⟨b,o+i,none⟩=some v)->RDc (live w) w b xs o
 |[],vs,o,_,_=>by simp[RDc]
 |x::xs,vs,o,⟨u,us,e,r,h⟩,hc=>by
  subst e;have a:=hc 0 u rfl;rw[Nat.add_zero] at a;refine⟨by simp[live,a],⟨u,a,r⟩,Qbjb h fun i v c=>?_⟩;have:=hc (i+1) v (by simpa using c)
  grind
def Q3e{α:Type}(P:Program)(t:TypeId)(e:α->List D)(d:α->Prop):Prop :=
 ∀{H:Type}{enc:TypeId×Value->H}{w:World}{base:Nat}{b:Nat->Bool}{c:Bool}{fuel:Nat}{cs:List Value}{x:DataW H×List MemPlace},
  DataW.trod enc P w base b c fuel t cs=some x->∃a,d a/\RDs w (e a) cs
def wfI(k:IntKind)(n:Int):Prop:=(Lit.int k n).wf=true
def wfL{α:Type}(b:α->Prop)(l:List α):Prop:=l.length<=maxLen/\∀a∈l,b a
variable{P:Program}{t:TypeId}
theorem Qbbl{k:IntKind}(d:P.underlying t=some (.int k)):Q3e P t (fun n:Int=>[.int k n]) (wfI k):=by
 intro H enc w base a b fuel cs x h;obtain⟨n,rfl,_,c⟩:=DataW.trod_int d h;exact⟨n,c,_,_,rfl,by simp[RD],rfl⟩
theorem cells?_get {w:World} {base:Nat} {a:Addr} {n:Nat} {cs:List Value} (h:w.cells? base a n=some cs):cs.length=n/\∀i v,cs[i]? = some v->w.cell? (a.add i)=some v:=by
 obtain⟨d,c,b⟩:=World.cells?_some h
 grind
theorem Qbn0{α:Type}{L:TypeId}{e:α->List D}{r:α->Prop}{sz:Nat}(U:P.underlying t=some (.slice L))(he:Q3e P L e r)(C:P.cellsOf L=sz)(Q:0<sz)(k:∀a,(e a).length=sz):
  Q3e P t (fun l:List α=>[.lst sz (l.map e)]) (wfL r):=by
 intro H enc w base u R fuel cs x h;rcases DataW.trod_slice U h with⟨rfl,_⟩|⟨a,len,M,Qgy,N,n,_,rfl,_,hb,X,hm,E,F,_,_⟩
 ·exact⟨[],⟨by simp,by simp⟩,_,_,rfl,by simp only[RD,Zi,Zaj];exact⟨none,0,rfl,Ze _,.inl trivial⟩,rfl⟩
 ·have key:∀m,m<=len->∃l:List α,l.length=m/\(∀x∈l,r x)/\∀i y,l[i]? = some y->∃vs,w.cells? base (a.add (i*sz)) sz=some vs/\RDs w (e y) vs:=by
   intro m
   induction m with
   |zero=>simp_all
   |succ m A =>
    intro W;obtain⟨l,J,T,I⟩:=A (by omega);have d:=F m (by omega);have q:Qgy[m]? = some Qgy[m]:=Zj (by omega);rw[q,C,Zas] at d;obtain⟨vs,S,p⟩:=d;obtain⟨y,h8,h9⟩:=he p;refine⟨l++[y],by simp[J],?_,fun i z hz=>?_⟩
    all_goals grind
  obtain⟨l,J,T,I⟩:=key len (Ze _);have g:l.length<=maxLen:=by omega
  refine⟨l,⟨g,T⟩,_,_,rfl,?_,rfl⟩;simp only[RD,Zu,J];refine⟨some a,M,rfl,X,?_⟩;cases l with
  |nil=>exact .inl rfl
  |cons y l =>
   right;have c:a.spot=none:=by
    obtain⟨vs,d,q⟩:=I 0 y rfl;obtain⟨S,p⟩:=cells?_get d;have O:vs[0]? = some vs[0]:=Zj (by omega);have:=p 0 _ O;cases hs:a.spot with
    |none=>rfl
    |some s =>
     grind [Go.World.cell?,Go.Addr.add]
   obtain⟨b,o,sp⟩:=a;simp only at c;subst c;refine⟨b,o,rfl,?_⟩;have row:∀(l:List α)(j:Nat),(∀i y,l[i]? = some y->∃vs,w.cells? base ((⟨b,o,none⟩ : Addr).add ((j+i)*sz)) sz=some vs/\RDs w (e y) vs)->RDL (live w) w sz b (l.map e) (o+j*sz):=by
    intro l
    induction l with
    |nil=>intro j _;simp[RDL]
    |cons y l A =>
     intro j h;obtain⟨vs,d,q⟩:=h 0 y rfl;obtain⟨S,p⟩:=cells?_get d;refine⟨k y,Qbjb q fun i v O=>?_,?_⟩
     ·grind [Qho,Nat.add_assoc]
     ·have:=A (j+1) fun i y B=>by
       have:=h (i+1) y (by simpa using B)
       grind
      grind
   have:=row (y::l) 0 fun i y B=>by simpa using I i y B
   simpa using this
theorem Qfi{α:Type}{d:TypeId}{e:α->List D}{g:α->Prop}{sz:Nat}(k:Q3e P d e g)(j:P.cellsOf d=sz)(i:∀a,(e a).length=sz){H:Type}{enc:TypeId×Value->H}{w:World}{base:Nat}{b:Nat->Bool}{c:Bool}{fuel off:Nat}{cs:List Value}{x:DataW H×List MemPlace}(h:DataW.trod enc P w base b c fuel d ((cs.drop off).take (P.cellsOf d))=some x):∃a,g a/\RDat w cs off (e a):=by
 obtain⟨a,m,l⟩:=k h
 grind [RDat]
theorem Qbbm{H:Type}{enc:TypeId×Value->H}{w:World}{base:Nat}{a:Nat->Bool}{b:Bool}{fuel:Nat}{cs:List Value}{x:DataW H×List MemPlace}{c:Array Field}(d:P.underlying t=some (.struct c))(h:DataW.trod enc P w base a b fuel t cs=some x):
  cs.length=P.cellsOf t/\∃n,∀(i:Nat)(f:Field),c[i]? = some f->∃y,DataW.trod enc P w base a b n f.type ((cs.drop f.offset).take (P.cellsOf f.type))=some y:=by
 obtain⟨xs,n,_,_,e,k,j⟩:=DataW.trod_struct d h;refine⟨e,n,fun i f g=>?_⟩
 grind
theorem Qblr{H:Type}{enc:TypeId×Value->H}{w:World}{base:Nat}{a:Nat->Bool}{b:Bool}{fuel:Nat}{cs:List Value}{x:DataW H×List MemPlace}{n:Nat}{c:TypeId}(d:P.underlying t=some (.array n c))(h:DataW.trod enc P w base a b fuel t cs=some x):
  cs.length=P.cellsOf t/\∃m,∀i,i<n->∃y,DataW.trod enc P w base a b m c ((cs.drop (i*P.cellsOf c)).take (P.cellsOf c))=some y:=by
 obtain⟨xs,m,_,_,e,k,j⟩:=DataW.trod_array d h;exact⟨e,m,fun i g=>⟨xs[i]'(by omega),by grind⟩⟩
def Q9t{α:Type}(P:Program)(t:TypeId)(v:α->V)(e:α->Prop):Prop :=
 ∀{H:Type}{enc:TypeId×Value->H}{w:World}{base h:Nat}{b:Nat->Bool}{c:Bool}{u:Value}{d:DataW H}{g:List MemPlace},
  Value.okWide P w .any h t u->DataW.Trod enc P w base b c t u d g->∃a,e a/\RF ⟨fun _=>0,live w,fun _=>.ext⟩ w (v a) u
theorem Qbpc{imm:Nat->Nat->Prop}{w:World}{x:D}{u:Value}(h:RD imm w x u):u.oneCell'=true:=by
 cases x with
 |int k n=>simp only[RD] at h;subst h;rfl
 |bool b=>simp only[RD] at h;subst h;rfl
 |str s=>simp only[RD] at h;subst h;rfl
 |lst sz l=>simp only[RD] at h;obtain⟨a,d,rfl,_⟩:=h;cases a<;>rfl
 |mp es c=>simp only[RD] at h;obtain⟨b,rfl,_⟩:=h;rfl
theorem Qbjc{w:World}{g:G}(c:g.imm=live w):∀{xs:List D}{us:List Value}{ℓ:Owner}{i:Nat},RDs w xs us->RVs g w (xs.map V.d) ℓ i us/\∀u∈us,u.oneCell'=true
 |[],us,ℓ,i,h=>by grind [RDs,RVs]
 |x::xs,us,ℓ,i,⟨u,a,e,r,h⟩=>by
  subst e;obtain⟨k,j⟩:=Qbjc c (ℓ:=ℓ) (i:=i+1) h;refine⟨⟨u,a,rfl,by simpa[RV,c] using r,k⟩,fun v b=>?_⟩;rcases Zah.1 b with rfl|b
  ·exact Qbpc r
  ·exact j v b
theorem Qbn1{α:Type}{e:α->List D}{k:α->Prop}(q:Q3e P t e k)(c:(∃m,P.underlying t=some (.struct m))\/∃n o,P.underlying t=some (.array n o)):Q9t P t (fun a=>.agg ((e a).map V.d)) k:=by
 intro H enc w base A h l u d z b r;obtain⟨cs,rfl⟩ : ∃cs,u = .agg cs:=by
  rcases c with⟨m,j⟩|⟨n,o,j⟩
  ·simp only[Value.okWide,j] at b;grind
  ·simp only[Value.okWide,j] at b;grind
 obtain⟨fuel,p⟩:=r;obtain⟨a,y,x⟩:=q p;refine⟨a,y,fun ℓ=>?_⟩;simp only[RV];obtain⟨v,s⟩:=Qbjc (g:=⟨fun _=>0,live w,fun _=>.ext⟩) rfl (ℓ:=ℓ) (i:=0) x;exact⟨cs.toList,by simp,v,s⟩
def Qbpd(P:Program)(f:FuncId)(ts:List TypeId):Prop :=
 ∀{H:Type}{enc:TypeId×Value->H}{w:World}{b:Nat}{us:List Value}{ds:List (DataW H)}{a:List MemPlace},
  (∀(j:Nat)t u,ts[j]? = some t->us[j]? = some u->Value.okWide P w .any b t u)->DataW.TrodAll enc P w 0 (fun _=>true) true ts us ds a ->
  ∃vs,RFs ⟨fun _=>0,live w,fun _=>.ext⟩ w vs us/\(∀x∈vs,Flat x)/\V.lt.go 0 vs=true/\∀M nb,ACalls P f vs M nb (.d (.bool true)) M nb
theorem Q11(i:laidOutB P=true){W j : World}{c:Nat->Bool}{H:Type}{enc:TypeId×Value->H}:∀{ts:List TypeId}{us:List Value}{ds:List (DataW H)}{b:List MemPlace},
  (∀t∈ts,P.readableRec t=true/\t<P.types.size)->DataW.TrodAll enc P W 0 (fun _=>true) true ts us ds b->(∀p∈b,W.sameAt j p)->(∀p∈b,c p.block=true)->DataW.TrodAll enc P j 0 c true ts us ds b
 |[],[],[],b,_,h,_,_=>h
 |t::ts,u::us,d::ds,b,hr,⟨p,q,h1,n,e⟩,g,hp=>by
  subst e;obtain⟨l,k⟩:=hr t (by simp);exact⟨p,q,WideElems.Trod_stays i l k h1 (fun x a=>g x (by simp[a])) (fun x a=>hp x (by simp[a])),Q11 i (fun t m=>hr t (by simp[m])) n (fun x a=>g x (by simp[a])) (fun x a=>hp x (by simp[a])),rfl⟩
 |[],[],_::_,_,_,h,_,_=>h.elim
 |[],_::_,_,_,_,h,_,_=>h.elim
 |_::_,[],_,_,_,h,_,_=>h.elim
 |_::_,_::_,[],_,_,h,_,_=>h.elim
theorem Q6f{W:World}{c:Nat->Bool}{a:Bool}{base:Nat}{H:Type}{enc:TypeId×Value->H}:∀{ts:List TypeId}{us:List Value}{ds:List (DataW H)}{b:List MemPlace},
  DataW.TrodAll enc P W base c a ts us ds b->ds.length=ts.length/\us.length=ts.length
 |[],[],[],b,h=>⟨rfl,rfl⟩
 |t::ts,u::us,d::ds,b,⟨p,q,h1,g,e⟩=>by have:=Q6f g;simp[this.1,this.2]
 |[],[],_::_,_,h=>h.elim
 |[],_::_,_,_,h=>h.elim
 |_::_,[],_,_,h=>h.elim
 |_::_,_::_,[],_,h=>h.elim
section
variable{α β γ δ:Type}{f:FuncId}{ta tb tc td:TypeId}{va:α->V}{vb:β->V}{vc:γ->V}{vd:δ->V}{wa:α->Prop}{wb:β->Prop}{wc:γ->Prop}{wd:δ->Prop}
theorem Qbpt(k:Q9t P ta va wa)(m:∀a,(va a).dem=va a)(la:∀a,(va a).lt 0=true)(g:∀a,wa a->∀M nb,ACalls P f [va a] M nb (.d (.bool true)) M nb):Qbpd P f [ta]:=by
 intro H enc w o us ds n i b
 match us,ds,b with
 |[u],[d],⟨p,q,l,c,e⟩ =>
  obtain⟨a,ha,h⟩:=k (i 0 _ _ rfl rfl) l;exact⟨[va a],⟨u,[],rfl,h,rfl⟩,fun x j=>by rw[Zal] at j;subst j;exact m a,by simp[V.lt.go,la],g a ha⟩
 |[],_,b=>cases ‹List (DataW H)› <;> exact b.elim
 |[_],[],b=>exact b.elim
 |[_],_::_::_,⟨_,_,_,c,_⟩=>exact c.elim
 |_::_::_,[],b=>exact b.elim
 |_::_::_,[_],⟨_,_,_,c,_⟩=>exact c.elim
 |_::_::_,_::_::_,⟨_,_,_,c,_⟩=>exact c.elim
end
theorem Qbe8{H:Type}{enc:TypeId×Value->H}{w:World}{base:Nat}{a:Nat->Bool}{b:Bool}{fuel:Nat}{cs:List Value}{x:DataW H×List MemPlace}{n sz:Nat}{c:TypeId}(d:P.underlying t=some (.array n c))(e:P.cellsOf c=sz)(h:DataW.trod enc P w base a b fuel t cs=some x):
  cs.length=P.cellsOf t/\∃m,∀i,i<n->∃y,DataW.trod enc P w base a b m c ((cs.drop (i*sz)).take (P.cellsOf c))=some y:=by
 obtain⟨g,m,k⟩:=Qblr d h;exact⟨g,m,fun i j=>by grind⟩
end Go.Abs
end
section
namespace Go.Proofs
open Go Go.Abs
set_option maxRecDepth 100000
def W_22(x:Int):Prop:=wfI .u8 x
theorem R_22:Q3e Tryz.prog 22 (eI .u8) W_22:=Qbbl Tryz.underlying22
def W_23(x:Int×Int×Int×Int×Int):Prop:=W_22 x.1/\W_22 x.2.1/\W_22 x.2.2.1/\W_22 x.2.2.2.1/\W_22 x.2.2.2.2
theorem R_23:Q3e Tryz.prog 23 (fun p:Int×Int×Int×Int×Int=>[.int .u8 p.1,.int .u8 p.2.1,.int .u8 p.2.2.1,.int .u8 p.2.2.2.1,.int .u8 p.2.2.2.2]) W_23:=by
  intro H enc w base b c fuel cs x h;obtain⟨z,n,a⟩:=Qbe8 (sz:=1) Tryz.underlying23 (by kernel_rfl) h;obtain⟨N,F⟩:=a 0 (by decide);obtain⟨i,w0,v⟩:=Qfi (off:=0*1) (sz:=1) R_22 (by kernel_rfl) (fun _=>rfl) F;obtain⟨M,E⟩:=a 1 (by decide);obtain⟨g,o,u⟩:=Qfi (off:=1*1) (sz:=1) R_22 (by kernel_rfl) (fun _=>rfl) E;obtain⟨L,C⟩:=a 2 (by decide);obtain⟨f,m,s⟩:=Qfi (off:=2*1) (sz:=1) R_22 (by kernel_rfl) (fun _=>rfl) C;obtain⟨J,B⟩:=a 3 (by decide);obtain⟨e,l,r⟩:=Qfi (off:=3*1) (sz:=1) R_22 (by kernel_rfl) (fun _=>rfl) B;obtain⟨I,A⟩:=a 4 (by decide);obtain⟨d,j,q⟩:=Qfi (off:=4*1) (sz:=1) R_22 (by kernel_rfl) (fun _=>rfl) A;exact⟨(i,g,f,e,d),⟨w0,o,m,l,j⟩,RDat.all (xs:=(fun p:Int×Int×Int×Int×Int=>[.int .u8 p.1,.int .u8 p.2.1,.int .u8 p.2.2.1,.int .u8 p.2.2.2.1,.int .u8 p.2.2.2.2]) (i,g,f,e,d)) (RDat.app v rfl (RDat.app u rfl (RDat.app s rfl (RDat.app r rfl q)))) (z.trans (by kernel_rfl))⟩
def W_5(x:Int):Prop:=wfI .u8 x
theorem R_5:Q3e Tryz.prog 5 (eI .u8) W_5:=Qbbl Tryz.underlying5
def W_24(x:Int×Int×Int×Int×Int):Prop:=W_5 x.1/\W_5 x.2.1/\W_5 x.2.2.1/\W_5 x.2.2.2.1/\W_5 x.2.2.2.2
theorem R_24:Q3e Tryz.prog 24 (fun p:Int×Int×Int×Int×Int=>[.int .u8 p.1,.int .u8 p.2.1,.int .u8 p.2.2.1,.int .u8 p.2.2.2.1,.int .u8 p.2.2.2.2]) W_24:=by
  intro H enc w base b c fuel cs x h;obtain⟨z,n,a⟩:=Qbe8 (sz:=1) Tryz.underlying24 (by kernel_rfl) h;obtain⟨N,F⟩:=a 0 (by decide);obtain⟨i,w0,v⟩:=Qfi (off:=0*1) (sz:=1) R_5 (by kernel_rfl) (fun _=>rfl) F;obtain⟨M,E⟩:=a 1 (by decide);obtain⟨g,o,u⟩:=Qfi (off:=1*1) (sz:=1) R_5 (by kernel_rfl) (fun _=>rfl) E;obtain⟨L,C⟩:=a 2 (by decide);obtain⟨f,m,s⟩:=Qfi (off:=2*1) (sz:=1) R_5 (by kernel_rfl) (fun _=>rfl) C;obtain⟨J,B⟩:=a 3 (by decide);obtain⟨e,l,r⟩:=Qfi (off:=3*1) (sz:=1) R_5 (by kernel_rfl) (fun _=>rfl) B;obtain⟨I,A⟩:=a 4 (by decide);obtain⟨d,j,q⟩:=Qfi (off:=4*1) (sz:=1) R_5 (by kernel_rfl) (fun _=>rfl) A;exact⟨(i,g,f,e,d),⟨w0,o,m,l,j⟩,RDat.all (xs:=(fun p:Int×Int×Int×Int×Int=>[.int .u8 p.1,.int .u8 p.2.1,.int .u8 p.2.2.1,.int .u8 p.2.2.2.1,.int .u8 p.2.2.2.2]) (i,g,f,e,d)) (RDat.app v rfl (RDat.app u rfl (RDat.app s rfl (RDat.app r rfl q)))) (z.trans (by kernel_rfl))⟩
def W_25(x:(Int×Int×Int×Int×Int)×(Int×Int×Int×Int×Int)×(Int×Int×Int×Int×Int)×(Int×Int×Int×Int×Int)×(Int×Int×Int×Int×Int)):Prop:=W_24 x.1/\W_24 x.2.1/\W_24 x.2.2.1/\W_24 x.2.2.2.1/\W_24 x.2.2.2.2
theorem R_25:Q3e Tryz.prog 25 (fun p:(Int×Int×Int×Int×Int)×(Int×Int×Int×Int×Int)×(Int×Int×Int×Int×Int)×(Int×Int×Int×Int×Int)×(Int×Int×Int×Int×Int)=>[.int .u8 p.1.1,.int .u8 p.1.2.1,.int .u8 p.1.2.2.1,.int .u8 p.1.2.2.2.1,.int .u8 p.1.2.2.2.2,.int .u8 p.2.1.1,.int .u8 p.2.1.2.1,.int .u8 p.2.1.2.2.1,.int .u8 p.2.1.2.2.2.1,.int .u8 p.2.1.2.2.2.2,.int .u8 p.2.2.1.1,.int .u8 p.2.2.1.2.1,.int .u8 p.2.2.1.2.2.1,.int .u8 p.2.2.1.2.2.2.1,.int .u8 p.2.2.1.2.2.2.2,.int .u8 p.2.2.2.1.1,.int .u8 p.2.2.2.1.2.1,.int .u8 p.2.2.2.1.2.2.1,.int .u8 p.2.2.2.1.2.2.2.1,.int .u8 p.2.2.2.1.2.2.2.2,.int .u8 p.2.2.2.2.1,.int .u8 p.2.2.2.2.2.1,.int .u8 p.2.2.2.2.2.2.1,.int .u8 p.2.2.2.2.2.2.2.1,.int .u8 p.2.2.2.2.2.2.2.2]) W_25:=by
  intro H enc w base b c fuel cs x h;obtain⟨z,n,a⟩:=Qbe8 (sz:=5) Tryz.underlying25 (by kernel_rfl) h;obtain⟨N,F⟩:=a 0 (by decide);obtain⟨i,w0,v⟩:=Qfi (off:=0*5) (sz:=5) R_24 (by kernel_rfl) (fun _=>rfl) F;obtain⟨M,E⟩:=a 1 (by decide);obtain⟨g,o,u⟩:=Qfi (off:=1*5) (sz:=5) R_24 (by kernel_rfl) (fun _=>rfl) E;obtain⟨L,C⟩:=a 2 (by decide);obtain⟨f,m,s⟩:=Qfi (off:=2*5) (sz:=5) R_24 (by kernel_rfl) (fun _=>rfl) C;obtain⟨J,B⟩:=a 3 (by decide);obtain⟨e,l,r⟩:=Qfi (off:=3*5) (sz:=5) R_24 (by kernel_rfl) (fun _=>rfl) B;obtain⟨I,A⟩:=a 4 (by decide);obtain⟨d,j,q⟩:=Qfi (off:=4*5) (sz:=5) R_24 (by kernel_rfl) (fun _=>rfl) A;exact⟨(i,g,f,e,d),⟨w0,o,m,l,j⟩,RDat.all (xs:=(fun p:(Int×Int×Int×Int×Int)×(Int×Int×Int×Int×Int)×(Int×Int×Int×Int×Int)×(Int×Int×Int×Int×Int)×(Int×Int×Int×Int×Int)=>[.int .u8 p.1.1,.int .u8 p.1.2.1,.int .u8 p.1.2.2.1,.int .u8 p.1.2.2.2.1,.int .u8 p.1.2.2.2.2,.int .u8 p.2.1.1,.int .u8 p.2.1.2.1,.int .u8 p.2.1.2.2.1,.int .u8 p.2.1.2.2.2.1,.int .u8 p.2.1.2.2.2.2,.int .u8 p.2.2.1.1,.int .u8 p.2.2.1.2.1,.int .u8 p.2.2.1.2.2.1,.int .u8 p.2.2.1.2.2.2.1,.int .u8 p.2.2.1.2.2.2.2,.int .u8 p.2.2.2.1.1,.int .u8 p.2.2.2.1.2.1,.int .u8 p.2.2.2.1.2.2.1,.int .u8 p.2.2.2.1.2.2.2.1,.int .u8 p.2.2.2.1.2.2.2.2,.int .u8 p.2.2.2.2.1,.int .u8 p.2.2.2.2.2.1,.int .u8 p.2.2.2.2.2.2.1,.int .u8 p.2.2.2.2.2.2.2.1,.int .u8 p.2.2.2.2.2.2.2.2]) (i,g,f,e,d)) (RDat.app v rfl (RDat.app u rfl (RDat.app s rfl (RDat.app r rfl q)))) (z.trans (by kernel_rfl))⟩
def W_27(x:Qu):Prop:=W_5 x.zF/\W_5 x.Marks/\W_25 x.To
theorem R_27:Q3e Tryz.prog 27 Qoh W_27:=by
  intro H enc w base a c fuel cs x h;obtain⟨o,n,b⟩:=Qbbm Tryz.underlying27 h;obtain⟨v,r⟩:=b 0 _ rfl;obtain⟨f,w0,m⟩:=Qfi (off:=0) (sz:=1) R_5 (by kernel_rfl) (fun _=>rfl) r;obtain⟨u,q⟩:=b 1 _ rfl;obtain⟨e,i,l⟩:=Qfi (off:=1) (sz:=1) R_5 (by kernel_rfl) (fun _=>rfl) q;obtain⟨s,p⟩:=b 2 _ rfl;obtain⟨d,g,j⟩:=Qfi (off:=2) (sz:=25) R_25 (by kernel_rfl) (fun _=>rfl) p;exact⟨⟨f,e,d⟩,⟨w0,i,g⟩,RDat.all (xs:=Qoh ⟨f,e,d⟩) (RDat.app m rfl (RDat.app l rfl j)) (o.trans (by kernel_rfl))⟩
def W_28(x:Qu×Qu×Qu):Prop:=W_27 x.1/\W_27 x.2.1/\W_27 x.2.2
theorem R_28:Q3e Tryz.prog 28 (fun p:Qu×Qu×Qu=>[.int .u8 p.1.zF,.int .u8 p.1.Marks,.int .u8 p.1.To.1.1,.int .u8 p.1.To.1.2.1,.int .u8 p.1.To.1.2.2.1,.int .u8 p.1.To.1.2.2.2.1,.int .u8 p.1.To.1.2.2.2.2,.int .u8 p.1.To.2.1.1,.int .u8 p.1.To.2.1.2.1,.int .u8 p.1.To.2.1.2.2.1,.int .u8 p.1.To.2.1.2.2.2.1,.int .u8 p.1.To.2.1.2.2.2.2,.int .u8 p.1.To.2.2.1.1,.int .u8 p.1.To.2.2.1.2.1,.int .u8 p.1.To.2.2.1.2.2.1,.int .u8 p.1.To.2.2.1.2.2.2.1,.int .u8 p.1.To.2.2.1.2.2.2.2,.int .u8 p.1.To.2.2.2.1.1,.int .u8 p.1.To.2.2.2.1.2.1,.int .u8 p.1.To.2.2.2.1.2.2.1,.int .u8 p.1.To.2.2.2.1.2.2.2.1,.int .u8 p.1.To.2.2.2.1.2.2.2.2,.int .u8 p.1.To.2.2.2.2.1,.int .u8 p.1.To.2.2.2.2.2.1,.int .u8 p.1.To.2.2.2.2.2.2.1,.int .u8 p.1.To.2.2.2.2.2.2.2.1,.int .u8 p.1.To.2.2.2.2.2.2.2.2,.int .u8 p.2.1.zF,.int .u8 p.2.1.Marks,.int .u8 p.2.1.To.1.1,.int .u8 p.2.1.To.1.2.1,.int .u8 p.2.1.To.1.2.2.1,.int .u8 p.2.1.To.1.2.2.2.1,.int .u8 p.2.1.To.1.2.2.2.2,.int .u8 p.2.1.To.2.1.1,.int .u8 p.2.1.To.2.1.2.1,.int .u8 p.2.1.To.2.1.2.2.1,.int .u8 p.2.1.To.2.1.2.2.2.1,.int .u8 p.2.1.To.2.1.2.2.2.2,.int .u8 p.2.1.To.2.2.1.1,.int .u8 p.2.1.To.2.2.1.2.1,.int .u8 p.2.1.To.2.2.1.2.2.1,.int .u8 p.2.1.To.2.2.1.2.2.2.1,.int .u8 p.2.1.To.2.2.1.2.2.2.2,.int .u8 p.2.1.To.2.2.2.1.1,.int .u8 p.2.1.To.2.2.2.1.2.1,.int .u8 p.2.1.To.2.2.2.1.2.2.1,.int .u8 p.2.1.To.2.2.2.1.2.2.2.1,.int .u8 p.2.1.To.2.2.2.1.2.2.2.2,.int .u8 p.2.1.To.2.2.2.2.1,.int .u8 p.2.1.To.2.2.2.2.2.1,.int .u8 p.2.1.To.2.2.2.2.2.2.1,.int .u8 p.2.1.To.2.2.2.2.2.2.2.1,.int .u8 p.2.1.To.2.2.2.2.2.2.2.2,.int .u8 p.2.2.zF,.int .u8 p.2.2.Marks,.int .u8 p.2.2.To.1.1,.int .u8 p.2.2.To.1.2.1,.int .u8 p.2.2.To.1.2.2.1,.int .u8 p.2.2.To.1.2.2.2.1,.int .u8 p.2.2.To.1.2.2.2.2,.int .u8 p.2.2.To.2.1.1,.int .u8 p.2.2.To.2.1.2.1,.int .u8 p.2.2.To.2.1.2.2.1,.int .u8 p.2.2.To.2.1.2.2.2.1,.int .u8 p.2.2.To.2.1.2.2.2.2,.int .u8 p.2.2.To.2.2.1.1,.int .u8 p.2.2.To.2.2.1.2.1,.int .u8 p.2.2.To.2.2.1.2.2.1,.int .u8 p.2.2.To.2.2.1.2.2.2.1,.int .u8 p.2.2.To.2.2.1.2.2.2.2,.int .u8 p.2.2.To.2.2.2.1.1,.int .u8 p.2.2.To.2.2.2.1.2.1,.int .u8 p.2.2.To.2.2.2.1.2.2.1,.int .u8 p.2.2.To.2.2.2.1.2.2.2.1,.int .u8 p.2.2.To.2.2.2.1.2.2.2.2,.int .u8 p.2.2.To.2.2.2.2.1,.int .u8 p.2.2.To.2.2.2.2.2.1,.int .u8 p.2.2.To.2.2.2.2.2.2.1,.int .u8 p.2.2.To.2.2.2.2.2.2.2.1,.int .u8 p.2.2.To.2.2.2.2.2.2.2.2]) W_28:=by
  intro H enc w base a c fuel cs x h;obtain⟨o,n,b⟩:=Qbe8 (sz:=27) Tryz.underlying28 (by kernel_rfl) h;obtain⟨z,s⟩:=b 0 (by decide);obtain⟨f,w0,m⟩:=Qfi (off:=0*27) (sz:=27) R_27 (by kernel_rfl) (fun _=>rfl) s;obtain⟨v,r⟩:=b 1 (by decide);obtain⟨e,i,l⟩:=Qfi (off:=1*27) (sz:=27) R_27 (by kernel_rfl) (fun _=>rfl) r;obtain⟨u,q⟩:=b 2 (by decide);obtain⟨d,g,j⟩:=Qfi (off:=2*27) (sz:=27) R_27 (by kernel_rfl) (fun _=>rfl) q;exact⟨(f,e,d),⟨w0,i,g⟩,RDat.all (xs:=(fun p:Qu×Qu×Qu=>[.int .u8 p.1.zF,.int .u8 p.1.Marks,.int .u8 p.1.To.1.1,.int .u8 p.1.To.1.2.1,.int .u8 p.1.To.1.2.2.1,.int .u8 p.1.To.1.2.2.2.1,.int .u8 p.1.To.1.2.2.2.2,.int .u8 p.1.To.2.1.1,.int .u8 p.1.To.2.1.2.1,.int .u8 p.1.To.2.1.2.2.1,.int .u8 p.1.To.2.1.2.2.2.1,.int .u8 p.1.To.2.1.2.2.2.2,.int .u8 p.1.To.2.2.1.1,.int .u8 p.1.To.2.2.1.2.1,.int .u8 p.1.To.2.2.1.2.2.1,.int .u8 p.1.To.2.2.1.2.2.2.1,.int .u8 p.1.To.2.2.1.2.2.2.2,.int .u8 p.1.To.2.2.2.1.1,.int .u8 p.1.To.2.2.2.1.2.1,.int .u8 p.1.To.2.2.2.1.2.2.1,.int .u8 p.1.To.2.2.2.1.2.2.2.1,.int .u8 p.1.To.2.2.2.1.2.2.2.2,.int .u8 p.1.To.2.2.2.2.1,.int .u8 p.1.To.2.2.2.2.2.1,.int .u8 p.1.To.2.2.2.2.2.2.1,.int .u8 p.1.To.2.2.2.2.2.2.2.1,.int .u8 p.1.To.2.2.2.2.2.2.2.2,.int .u8 p.2.1.zF,.int .u8 p.2.1.Marks,.int .u8 p.2.1.To.1.1,.int .u8 p.2.1.To.1.2.1,.int .u8 p.2.1.To.1.2.2.1,.int .u8 p.2.1.To.1.2.2.2.1,.int .u8 p.2.1.To.1.2.2.2.2,.int .u8 p.2.1.To.2.1.1,.int .u8 p.2.1.To.2.1.2.1,.int .u8 p.2.1.To.2.1.2.2.1,.int .u8 p.2.1.To.2.1.2.2.2.1,.int .u8 p.2.1.To.2.1.2.2.2.2,.int .u8 p.2.1.To.2.2.1.1,.int .u8 p.2.1.To.2.2.1.2.1,.int .u8 p.2.1.To.2.2.1.2.2.1,.int .u8 p.2.1.To.2.2.1.2.2.2.1,.int .u8 p.2.1.To.2.2.1.2.2.2.2,.int .u8 p.2.1.To.2.2.2.1.1,.int .u8 p.2.1.To.2.2.2.1.2.1,.int .u8 p.2.1.To.2.2.2.1.2.2.1,.int .u8 p.2.1.To.2.2.2.1.2.2.2.1,.int .u8 p.2.1.To.2.2.2.1.2.2.2.2,.int .u8 p.2.1.To.2.2.2.2.1,.int .u8 p.2.1.To.2.2.2.2.2.1,.int .u8 p.2.1.To.2.2.2.2.2.2.1,.int .u8 p.2.1.To.2.2.2.2.2.2.2.1,.int .u8 p.2.1.To.2.2.2.2.2.2.2.2,.int .u8 p.2.2.zF,.int .u8 p.2.2.Marks,.int .u8 p.2.2.To.1.1,.int .u8 p.2.2.To.1.2.1,.int .u8 p.2.2.To.1.2.2.1,.int .u8 p.2.2.To.1.2.2.2.1,.int .u8 p.2.2.To.1.2.2.2.2,.int .u8 p.2.2.To.2.1.1,.int .u8 p.2.2.To.2.1.2.1,.int .u8 p.2.2.To.2.1.2.2.1,.int .u8 p.2.2.To.2.1.2.2.2.1,.int .u8 p.2.2.To.2.1.2.2.2.2,.int .u8 p.2.2.To.2.2.1.1,.int .u8 p.2.2.To.2.2.1.2.1,.int .u8 p.2.2.To.2.2.1.2.2.1,.int .u8 p.2.2.To.2.2.1.2.2.2.1,.int .u8 p.2.2.To.2.2.1.2.2.2.2,.int .u8 p.2.2.To.2.2.2.1.1,.int .u8 p.2.2.To.2.2.2.1.2.1,.int .u8 p.2.2.To.2.2.2.1.2.2.1,.int .u8 p.2.2.To.2.2.2.1.2.2.2.1,.int .u8 p.2.2.To.2.2.2.1.2.2.2.2,.int .u8 p.2.2.To.2.2.2.2.1,.int .u8 p.2.2.To.2.2.2.2.2.1,.int .u8 p.2.2.To.2.2.2.2.2.2.1,.int .u8 p.2.2.To.2.2.2.2.2.2.2.1,.int .u8 p.2.2.To.2.2.2.2.2.2.2.2]) (f,e,d)) (RDat.app m rfl (RDat.app l rfl j)) (o.trans (by kernel_rfl))⟩
def W_30(x:Qby):Prop:=W_23 x.Sets/\W_28 x.Graphs
theorem R_30:Q3e Tryz.prog 30 Qoi W_30:=by
  intro H enc w base a c fuel cs x h;obtain⟨j,n,b⟩:=Qbbm Tryz.underlying30 h;obtain⟨p,m⟩:=b 0 _ rfl;obtain⟨e,w0,i⟩:=Qfi (off:=0) (sz:=5) R_23 (by kernel_rfl) (fun _=>rfl) m;obtain⟨o,l⟩:=b 1 _ rfl;obtain⟨d,f,g⟩:=Qfi (off:=5) (sz:=81) R_28 (by kernel_rfl) (fun _=>rfl) l;exact⟨⟨e,d⟩,⟨w0,f⟩,RDat.all (xs:=Qoi ⟨e,d⟩) (RDat.app i rfl g) (j.trans (by kernel_rfl))⟩
theorem A_30:Q9t Tryz.prog 30 (fun(a:Qby)=>.agg [.d (.int .u8 a.Sets.1),.d (.int .u8 a.Sets.2.1),.d (.int .u8 a.Sets.2.2.1),.d (.int .u8 a.Sets.2.2.2.1),.d (.int .u8 a.Sets.2.2.2.2),.d (.int .u8 a.Graphs.1.zF),.d (.int .u8 a.Graphs.1.Marks),.d (.int .u8 a.Graphs.1.To.1.1),.d (.int .u8 a.Graphs.1.To.1.2.1),.d (.int .u8 a.Graphs.1.To.1.2.2.1),.d (.int .u8 a.Graphs.1.To.1.2.2.2.1),.d (.int .u8 a.Graphs.1.To.1.2.2.2.2),.d (.int .u8 a.Graphs.1.To.2.1.1),.d (.int .u8 a.Graphs.1.To.2.1.2.1),.d (.int .u8 a.Graphs.1.To.2.1.2.2.1),.d (.int .u8 a.Graphs.1.To.2.1.2.2.2.1),.d (.int .u8 a.Graphs.1.To.2.1.2.2.2.2),.d (.int .u8 a.Graphs.1.To.2.2.1.1),.d (.int .u8 a.Graphs.1.To.2.2.1.2.1),.d (.int .u8 a.Graphs.1.To.2.2.1.2.2.1),.d (.int .u8 a.Graphs.1.To.2.2.1.2.2.2.1),.d (.int .u8 a.Graphs.1.To.2.2.1.2.2.2.2),.d (.int .u8 a.Graphs.1.To.2.2.2.1.1),.d (.int .u8 a.Graphs.1.To.2.2.2.1.2.1),.d (.int .u8 a.Graphs.1.To.2.2.2.1.2.2.1),.d (.int .u8 a.Graphs.1.To.2.2.2.1.2.2.2.1),.d (.int .u8 a.Graphs.1.To.2.2.2.1.2.2.2.2),.d (.int .u8 a.Graphs.1.To.2.2.2.2.1),.d (.int .u8 a.Graphs.1.To.2.2.2.2.2.1),.d (.int .u8 a.Graphs.1.To.2.2.2.2.2.2.1),.d (.int .u8 a.Graphs.1.To.2.2.2.2.2.2.2.1),.d (.int .u8 a.Graphs.1.To.2.2.2.2.2.2.2.2),.d (.int .u8 a.Graphs.2.1.zF),.d (.int .u8 a.Graphs.2.1.Marks),.d (.int .u8 a.Graphs.2.1.To.1.1),.d (.int .u8 a.Graphs.2.1.To.1.2.1),.d (.int .u8 a.Graphs.2.1.To.1.2.2.1),.d (.int .u8 a.Graphs.2.1.To.1.2.2.2.1),.d (.int .u8 a.Graphs.2.1.To.1.2.2.2.2),.d (.int .u8 a.Graphs.2.1.To.2.1.1),.d (.int .u8 a.Graphs.2.1.To.2.1.2.1),.d (.int .u8 a.Graphs.2.1.To.2.1.2.2.1),.d (.int .u8 a.Graphs.2.1.To.2.1.2.2.2.1),.d (.int .u8 a.Graphs.2.1.To.2.1.2.2.2.2),.d (.int .u8 a.Graphs.2.1.To.2.2.1.1),.d (.int .u8 a.Graphs.2.1.To.2.2.1.2.1),.d (.int .u8 a.Graphs.2.1.To.2.2.1.2.2.1),.d (.int .u8 a.Graphs.2.1.To.2.2.1.2.2.2.1),.d (.int .u8 a.Graphs.2.1.To.2.2.1.2.2.2.2),.d (.int .u8 a.Graphs.2.1.To.2.2.2.1.1),.d (.int .u8 a.Graphs.2.1.To.2.2.2.1.2.1),.d (.int .u8 a.Graphs.2.1.To.2.2.2.1.2.2.1),.d (.int .u8 a.Graphs.2.1.To.2.2.2.1.2.2.2.1),.d (.int .u8 a.Graphs.2.1.To.2.2.2.1.2.2.2.2),.d (.int .u8 a.Graphs.2.1.To.2.2.2.2.1),.d (.int .u8 a.Graphs.2.1.To.2.2.2.2.2.1),.d (.int .u8 a.Graphs.2.1.To.2.2.2.2.2.2.1),.d (.int .u8 a.Graphs.2.1.To.2.2.2.2.2.2.2.1),.d (.int .u8 a.Graphs.2.1.To.2.2.2.2.2.2.2.2),.d (.int .u8 a.Graphs.2.2.zF),.d (.int .u8 a.Graphs.2.2.Marks),.d (.int .u8 a.Graphs.2.2.To.1.1),.d (.int .u8 a.Graphs.2.2.To.1.2.1),.d (.int .u8 a.Graphs.2.2.To.1.2.2.1),.d (.int .u8 a.Graphs.2.2.To.1.2.2.2.1),.d (.int .u8 a.Graphs.2.2.To.1.2.2.2.2),.d (.int .u8 a.Graphs.2.2.To.2.1.1),.d (.int .u8 a.Graphs.2.2.To.2.1.2.1),.d (.int .u8 a.Graphs.2.2.To.2.1.2.2.1),.d (.int .u8 a.Graphs.2.2.To.2.1.2.2.2.1),.d (.int .u8 a.Graphs.2.2.To.2.1.2.2.2.2),.d (.int .u8 a.Graphs.2.2.To.2.2.1.1),.d (.int .u8 a.Graphs.2.2.To.2.2.1.2.1),.d (.int .u8 a.Graphs.2.2.To.2.2.1.2.2.1),.d (.int .u8 a.Graphs.2.2.To.2.2.1.2.2.2.1),.d (.int .u8 a.Graphs.2.2.To.2.2.1.2.2.2.2),.d (.int .u8 a.Graphs.2.2.To.2.2.2.1.1),.d (.int .u8 a.Graphs.2.2.To.2.2.2.1.2.1),.d (.int .u8 a.Graphs.2.2.To.2.2.2.1.2.2.1),.d (.int .u8 a.Graphs.2.2.To.2.2.2.1.2.2.2.1),.d (.int .u8 a.Graphs.2.2.To.2.2.2.1.2.2.2.2),.d (.int .u8 a.Graphs.2.2.To.2.2.2.2.1),.d (.int .u8 a.Graphs.2.2.To.2.2.2.2.2.1),.d (.int .u8 a.Graphs.2.2.To.2.2.2.2.2.2.1),.d (.int .u8 a.Graphs.2.2.To.2.2.2.2.2.2.2.1),.d (.int .u8 a.Graphs.2.2.To.2.2.2.2.2.2.2.2)]) W_30:=Qbn1 R_30 (.inl ⟨_,Tryz.underlying30⟩)
end Go.Proofs
end
section
namespace Go.Abs
set_option maxRecDepth 100000
theorem Qbgn:Qj9=some true:=by kernel_rfl
end Go.Abs
end
section
namespace Go.Abs
open Go
theorem Qb1{X R:Type}{F:(X->Option R)->X->Option R}(I:X->Prop)(m:X->Nat)(Q:X->Option R->Prop)(step:∀(k:X->Option R)(x:X),I x->(∀y,I y->m y<m x->Q y (k y))->Q x (F k x)):∀(fuel:Nat)(x:X),I x->m x<fuel->Q x (Qbp F fuel x)
 |0,x,_,h=>absurd h (Nat.not_lt_zero _)
 |fuel+1,x,b,h=>step _ x b fun y a c=>Qb1 I m Q step fuel y a (by omega)
theorem Q12{X R:Type}{F:(X->Option R)->X->Option R}{fuel:Nat}{x:X}(I:X->Prop)(m:X->Nat)(q:Option R)(b:I x)(a:m x<fuel)(step:∀(k:X->Option R)(x:X),I x->(∀y,I y->m y<m x->k y=q)->F k x=q):Qbp F fuel x=q :=
 Qb1 I m (fun _ r=>r=q) step fuel x b a
theorem Qx5{x:Int}(b : -9223372036854775808<=x)(a:x<=9223372036854775807):IntKind.wrap .i64 x=x:=by
 simp[IntKind.wrap,IntKind.bits,IntKind.signed];omega
theorem Qbjd{x:Int}(b:0<=x)(a:x<256):IntKind.wrap .u8 x=x:=by
 simp[IntKind.wrap,IntKind.bits,IntKind.signed];omega
theorem Qx{n:Nat}(h:n<9223372036854775807):IntKind.wrap .i64 ((n:Int)+1)=((n+1:Nat):Int):=by
 grind [Qx5]
theorem Qy{α:Type}{l:List α}{n:Nat}(h:n<l.length):getO l (n:Int)=some l[n]:=by
 simp[getO,h]
theorem Quj{α:Type}{l:List α}{i:Int}{x:α}:getO l i=some x↔0<=i/\l[i.toNat]? = some x:=by
 simp_all[getO,reduceCtorEq,false_iff,not_and,absurd]
theorem Qbm{α:Type}{l m:List α}(h:l.length+m.length<=lim):appO l m=some (l++m):=by
 unfold appO;rw[if_pos h]
theorem Q3w{α:Type}{s t:List α}{k:Nat}(b:k<s.length)(a:k<t.length)(h:s.take k=t.take k)(c:s[k]=t[k]):s.take (k+1)=t.take (k+1):=by
 grind [List.take_add_one,List.getElem?_eq_getElem]
theorem Qlb{R:Type}{F:(Int->Option R)->Int->Option R}{len fuel:Nat}(G:Nat->Option R)(d:len<fuel)(step:∀(k:Int->Option R)(n:Nat),n<len->k ((n+1:Nat):Int)=G (n+1)->F k (n:Int)=G n)(a:∀k:Int->Option R,F k (len:Int)=G len):Qbp F fuel 0=G 0:=by
 have:=Qb1 (F:=F) (fun x=>∃n:Nat,x=(n:Int)/\n<=len) (fun x=>len-x.toNat) (fun x r=>∀n:Nat,x=(n:Int)->r=G n) (fun k x c b=>by
  obtain⟨n,rfl,e⟩:=c;intro m f;obtain rfl:n=m:=by omega
  by_cases h:n<len
  ·exact step k n h (b _ ⟨n+1,rfl,by omega⟩ (by omega) (n+1) rfl)
  grind) fuel 0 ⟨0,rfl,by omega⟩ (by simpa using d)
 exact this 0 rfl
theorem Q13{n:Nat}(a:0<n)(h:n<9223372036854775807):IntKind.wrap .i64 ((n:Int)-1)=((n-1:Nat):Int):=by
 grind [Qx5]
theorem Qbls{X S R:Type}{F:(X->Option R)->X->Option R}{len:Nat}(a:Nat->S->X)(G:Nat->S->Option R)(step:∀(k:X->Option R)(n:Nat)(s:S),n<len->(∀c,k (a (n+1) c)=G (n+1) c)->F k (a n s)=G n s)(b:∀(k:X->Option R)(s:S),F k (a len s)=G len s):
  ∀(fuel n:Nat)(s:S),n<=len->len-n<fuel->Qbp F fuel (a n s)=G n s
 |0,n,s,_,h=>by omega
 |fuel+1,n,s,e,h=>by
  show F (Qbp F fuel) (a n s)=_;by_cases d:n<len
  ·exact step _ n s d fun c=>Qbls a G step b fuel (n+1) c (by omega) (by omega)
  grind
theorem Qbmv{i j:Nat}(b:i<1000000000000)(a:j<1000000000000):IntKind.wrap .i64 (Int.fdiv (IntKind.wrap .u64 (IntKind.wrap .i64 ((i:Int)+j))) (2 ^ (min (Int.toNat 1) (IntKind.bits .u64))))=(((i+j) / 2:Nat):Int):=by
 grind [Go.IntKind.wrap,Qx5,Go.IntKind.bits,Go.IntKind.signed,Min.min,Int.toNat,Int.fdiv_eq_ediv_of_nonneg]
theorem Q4p{α:Type}{l:List α}{i j:Nat}(h:i<=j)(a:j<=l.length):slcO l (i:Int) (j:Int)=some ((l.take j).drop i):=by
 simp[slcO,h,a]
theorem Qbgo:∀{l m:List Int},l.Pairwise (· < ·)->m.Pairwise (· < ·)->(∀x,x∈l↔x∈m)->l=m
 |l,m,h1,a,h=>by
  have c:l.Nodup:=h1.imp fun h=>by omega
  have b:m.Nodup:=a.imp fun h=>by omega
  grind [List.perm_ext_iff_of_nodup,List.Perm.eq_of_pairwise]
section
variable{α:Type}{p:α->Bool}
theorem Q3f:∀{l:List α},l.Pairwise (fun a b=>p b=true->p a=true)->∀(n:Nat)(h:n<l.length),p l[n]=true↔n<(l.filter p).length
 |[],_,n,h=>by simp at h
 |x::xs,f,n,h=>by
  obtain⟨e,g⟩:=Zam.1 f;cases n with
  |zero =>
   cases hx:p x with
   |true=>simp[hx]
   |false =>
    have:xs.filter p=[]:=Zbw.2 fun y d hp=>by have:=e y d hp;rw[hx] at this;cases this
    simp[hx,this]
  |succ n =>
   have c:=Q3f g n (by simpa using h);cases hx:p x with
   |true=>simp[hx,c]
   |false =>
    have:xs.filter p=[]:=Zbw.2 fun y d hp=>by have:=e y d hp;rw[hx] at this;cases this
    rw[this] at c;simp[hx,this] at c |-;exact c
end
theorem Qhx{X S R:Type}{F:(X->Option R)->X->Option R}{len:Nat}(a:Nat->S->X)(I:Nat->S->Prop)(G:Nat->S->Option R)(step:∀(k:X->Option R)(n:Nat)(s:S),n<len->I n s->(∀b,I (n+1) b->k (a (n+1) b)=G (n+1) b)->F k (a n s)=G n s)(c:∀(k:X->Option R)(s:S),I len s->F k (a len s)=G len s):
  ∀(fuel n:Nat)(s:S),n<=len->len-n<fuel->I n s->Qbp F fuel (a n s)=G n s
 |0,n,s,_,h,_=>by omega
 |fuel+1,n,s,g,h,f=>by
  show F (Qbp F fuel) (a n s)=_;by_cases d:n<len
  ·exact step _ n s d f fun b e=>Qhx a I G step c fuel (n+1) b (by omega) (by omega) e
  grind
theorem Qjf:∀{l:List Int}{a b:Int},l.Pairwise (· < ·)->(∀x∈l,a<=x/\x<b)->l.length<=(b-a).toNat
 |[],_,_,_,_=>by simp
 |x::xs,a,b,h,hr=>by
  obtain⟨e,d⟩:=Zam.1 h;have:=Qjf (a:=x+1) (b:=b) d fun y c=>⟨by have:=e y c;omega,(hr y (by simp[c])).2⟩;have:=hr x (by simp)
  grind
end Go.Abs
end
section
namespace Go.Abs
abbrev big : Nat := 1000000000000
def small(a : Qa): Prop := a.zB.length < big /\ a.zC.length < big /\ a.zD.length < big
end Go.Abs
end
section
namespace Go.Abs
open Go
def Qg8(n:Int):Option Int->List Int->Int
 |_,[]=>0
 |p,x::xs=>if x<0\/x>=n then 2 else if ∃y,p=some y/\x<=y then 5 else Qg8 n (some x) xs
def Qlj(al:List Int)(st:Int):Option Qb->List Qb->Int
 |_,[]=>0
 |p,x::xs=>if x.From<0\/x.From>=st\/x.To<0\/x.To>=st then 2 else if x.Event∉al then 9 else if ∃y,p=some y/\(x.From<y.From\/x.From=y.From/\x.Event<=y.Event) then 5 else Qlj al st (some x) xs
def Qib(a:Qa):Int :=
 if Qg8 32 none a.zB≠0 then Qg8 32 none a.zB else if a.zF<0 then 2 else if a.zF>4096 then 3 else
 if Qg8 a.zF none a.zC≠0 then Qg8 a.zF none a.zC else Qlj a.zB a.zF none a.zD
def ahead{α:Type}(l:List α)(n:Nat):Option α:=if n=0 then none else l[n-1]?
theorem Qp4{α:Type}(l:List α):ahead l 0=none:=rfl
theorem Q8g{α:Type}(l:List α){n:Nat}(h:n<l.length):ahead l (n+1)=some l[n]:=by simp[ahead,h]
theorem Q6g{α:Type}(l:List α){n:Nat}(a:0<n)(h:n<=l.length):ahead l n=some (l[n-1]'(by omega)):=by
 grind [ahead]
theorem Q3x{n:Int}{l:List Int}{k:Nat}(h:k<l.length):Qg8 n (ahead l k) (l.drop k)=if l[k]<0\/l[k]>=n then 2 else if ∃y,ahead l k=some y/\l[k]<=y then 5 else Qg8 n (ahead l (k+1)) (l.drop (k+1)):=by
 rw[Zai h,Qg8,Q8g l h]
theorem Q9u{al:List Int}{n:Int}{l:List Qb}{k:Nat}(h:k<l.length):Qlj al n (ahead l k) (l.drop k)=if l[k].From<0\/l[k].From>=n\/l[k].To<0\/l[k].To>=n then 2 else if l[k].Event∉al then 9 else if ∃y,ahead l k=some y/\(l[k].From<y.From\/l[k].From=y.From/\l[k].Event<=y.Event) then 5 else Qlj al n (ahead l (k+1)) (l.drop (k+1)):=by
 rw[Zai h,Qlj,Q8g l h]
theorem Q6h{l:List Int}{n:Int}(d:l.length<big):Qh8 l n=some (Qg8 n none l):=by
 unfold Qh8 Qde;refine (Qlb (len:=l.length) (fun k=>some (Qg8 n (ahead l k) (l.drop k))) (by unfold Q0;unfold big at d;omega) ?_ ?_).trans (by simp[Qp4])
 ·intro k i e f;have hb:i<1000000000000:=by unfold big at d;omega
  rw[Q3x e]
  try dsimp only
  rw[if_pos (by omega),Qy e,Qx (by omega),f];simp only[Za];by_cases a:l[i]<0
  ·simp[a]
  ·by_cases b:l[i]>=n
   ·simp[a,b]
   ·by_cases c:0<i
    ·rw[Q13 c (by omega),Qy (by omega:i-1<l.length),Q6g l c (by omega)];by_cases g:l[i]<=l[i-1]<;>simp[a,b,g,c]
    ·obtain rfl:i=0:=by omega
     simp[a,b,Qp4]
 ·intro k;simp[Qg8]
theorem Qblt{l:List Int}{v:Int}(a:l.length<big):Qjr l v=some (if v∈l then (l.idxOf v:Int) else -1):=by
 unfold Qjr Qel;refine (Qlb (len:=l.length) (fun k=>some (if v∈l.drop k then ((k+(l.drop k).idxOf v:Nat):Int) else -1)) (by unfold Q0;unfold big at a;omega) ?_ ?_).trans (by simp)
 ·intro k i b c;have hb:i<1000000000000:=by unfold big at a;omega
  try dsimp only
  rw[if_pos (by omega),Qy b,Qx (by omega),c,Zai b]
  grind
 ·intro k;simp
theorem Qnz{l:List Int}{v:Int}(a:l.length<big):Qbs l v=some (decide (v∈l)):=by
 unfold Qbs Qm
 grind [Qblt,Option.some.injEq]
theorem Qbe9{l:List Int}{v:Int}(a:l.length<big):Qeb l v=some (decide (v∈l)):=by
 unfold Qeb Qb5;refine (Qlb (len:=l.length) (fun k=>some (decide (v∈l.drop k))) (by unfold Q0;unfold big at a;omega) ?_ ?_).trans (by simp)
 ·intro k i b c;have hb:i<1000000000000:=by unfold big at a;omega
  try dsimp only
  rw[if_pos (by omega),Qy b,Qx (by omega),c,Zai b]
  grind
 ·intro k;simp
theorem Q9v{a:Qa}(h:small a):Qhb a=some (Qlj a.zB a.zF none a.zD):=by
 obtain⟨g,_,l⟩:=h;unfold Qhb Qc9;refine (Qlb (len:=a.zD.length) (fun k=>some (Qlj a.zB a.zF (ahead a.zD k) (a.zD.drop k))) (by unfold Q0;unfold big at l;omega) ?_ ?_).trans (by simp[Qp4])
 ·intro k i m p;have hb:i<1000000000000:=by unfold big at l;omega
  rw[Q9u m];unfold letJ
  try dsimp only
  rw[if_pos (by omega),Qy m,Qx (by omega),p];simp only[Za,Qnz g];generalize a.zD[i]=x;by_cases b:x.From<0
  ·simp[b]
  by_cases c:x.From>=a.zF
  ·simp[b,c]
  by_cases e:x.To<0
  ·simp[b,c,e]
  by_cases f:x.To>=a.zF
  ·simp[b,c,e,f]
  by_cases j:x.Event∈a.zB
  ·by_cases o:0<i
   ·rw[Q13 o (by omega),Qy (by omega:i-1<a.zD.length),Q6g a.zD o (by omega)];generalize a.zD[i-1]=y;have d:i≠0:=by omega
    by_cases n:x.From<y.From
    ·simp[b,c,e,f,j,n,d]
    by_cases r:y.From=x.From
    ·by_cases q:x.Event<=y.Event<;>simp[b,c,e,f,j,n,r,q,d]
    grind
   ·obtain rfl:i=0:=by omega
    simp[b,c,e,f,j,Qp4]
  grind
 simp[letJ,Qlj]
theorem Q4q{a:Qa}(h:small a):Qee a=some (Qib a):=by
 unfold Qee Qv Qib;rw[Q6h h.1,Q6h h.2.1,Q9v h]
 grind
end Go.Abs
end
section
namespace Go.Abs
open Go
def Qjc(x y:Qb):Prop:=x.From<y.From\/x.From=y.From/\x.Event<y.Event
instance(x y:Qb):Decidable (Qjc x y):=by unfold Qjc;infer_instance
structure Right(a:Qa):Prop where
 al0:∀x∈a.zB,0<=x/\x<32
 al:a.zB.Pairwise (· < ·)
 st:0<=a.zF/\a.zF<=4096
 ma0:∀x∈a.zC,0<=x/\x<a.zF
 ma:a.zC.Pairwise (· < ·)
 ed0:∀x∈a.zD,0<=x.From/\x.From<a.zF/\0<=x.To/\x.To<a.zF/\x.Event∈a.zB
 ed:a.zD.Pairwise Qjc
theorem Qma{n:Int}:∀{l:List Int}{p:Option Int},Qg8 n p l=0↔(∀x∈l,0<=x/\x<n)/\l.Pairwise (· < ·)/\∀y,p=some y->∀x∈l,y<x
 |[],p=>by simp[Qg8]
 |x::xs,p=>by
  rw[Qg8];split
  ·rename_i h;refine⟨fun h=>by omega,fun e=>?_⟩;have:=e.1 x (by simp);omega
  ·rename_i h;split
   ·grind
   ·rename_i i;rw[Qma];constructor
    ·rintro⟨f,d,c⟩;refine⟨fun z b=>?_,Zam.2 ⟨fun z b=>c x rfl z b,d⟩,fun y g z b=>?_⟩
     all_goals grind
    simp_all
theorem Qvi{al:List Int}{n:Int}:∀{l:List Qb}{p:Option Qb},Qlj al n p l=0↔(∀x∈l,0<=x.From/\x.From<n/\0<=x.To/\x.To<n/\x.Event∈al)/\l.Pairwise Qjc/\∀y,p=some y->∀x∈l,Qjc y x
 |[],p=>by simp[Qlj]
 |x::xs,p=>by
  have j:∀a b c:Qb,Qjc a b->Qjc b c->Qjc a c:=fun a b c h k=>by unfold Qjc at *;omega
  rw[Qlj];split
  ·grind
  ·rename_i h;split
   ·grind
   ·rename_i i;split
    ·grind [Qjc]
    ·rename_i q;rw[Qvi];constructor
     ·rintro⟨m,f,e⟩;refine⟨fun z d=>?_,Zam.2 ⟨fun z d=>e x rfl z d,f⟩,fun y o z d=>?_⟩
      ·grind
      ·have g:Qjc y x:=by
        apply Decidable.byContradiction
        grind [Qjc]
       grind
     simp_all
theorem Qrh{a:Qa}:Qib a=0↔Right a:=by
 unfold Qib;constructor
 ·intro h;split at h
  ·grind
  rename_i g;split at h
  ·omega
  split at h
  ·omega
  split at h
  ·grind
  rename_i f;have e:=Qma.1 (Decidable.not_not.1 g);have d:=Qma.1 (Decidable.not_not.1 f);have c:=Qvi.1 h;exact⟨e.1,e.2.1,⟨by omega,by omega⟩,d.1,d.2.1,c.1,c.2.1⟩
 ·intro h;have e:Qg8 32 none a.zB=0:=Qma.2 ⟨h.al0,h.al,fun y b=>by cases b⟩;have d:Qg8 a.zF none a.zC=0:=Qma.2 ⟨h.ma0,h.ma,fun y b=>by cases b⟩;have c:Qlj a.zB a.zF none a.zD=0:=Qvi.2 ⟨h.ed0,h.ed,fun y b=>by cases b⟩;have:=h.st
  grind
def outP(a:Qa)(s:Int):List Qb:=a.zD.filter fun x=>x.From==s
def Q1(a:Qa)(s e:Int):Int:=match a.zD.find? fun x=>x.From==s&&x.Event==e with
 |some x=>x.To
 |none=>-1
theorem Qbje{l:List Qb}(h:l.Pairwise Qjc)(s:Int):l.Pairwise fun a b=>decide (b.From<s)=true->decide (a.From<s)=true :=
 h.imp fun h=>by unfold Qjc at h;simp;omega
theorem Qbmw{l:List Qb}{s:Int}{cmp:Qb->Int->Option Int}(e:∀x∈l,cmp x s=some (x.From-s))(hs:l.Pairwise Qjc)(v:l.length<big):
  ∃b,Qeu l s cmp=some (((l.filter fun x=>decide (x.From<s)).length:Int),b):=by
 have hc:=fun n h=>Q3f (p:=fun x:Qb=>decide (x.From<s)) (Qbje hs s) n h;have o:(l.filter fun x=>decide (x.From<s)).length<=l.length:=Zax _ _;generalize (l.filter fun x=>decide (x.From<s)).length=c at hc o;have hb:l.length<1000000000000:=v;unfold Qeu Qbn;have f:=Qb1 (F:=fun(g:Int×Int->Option Int)((i11,j12):Int×Int)=>(if (i11<j12) then ((getO l (IntKind.wrap .i64 (Int.fdiv (IntKind.wrap .u64 (IntKind.wrap .i64 (i11+j12))) (2 ^ (min (Int.toNat 1) (IntKind.bits .u64)))))).bind fun t=>((cmp t s).bind fun q=>(if (q<0) then g ((IntKind.wrap .i64 ((IntKind.wrap .i64 (Int.fdiv (IntKind.wrap .u64 (IntKind.wrap .i64 (i11+j12))) (2 ^ (min (Int.toNat 1) (IntKind.bits .u64)))))+1)),j12) else g (i11,(IntKind.wrap .i64 (Int.fdiv (IntKind.wrap .u64 (IntKind.wrap .i64 (i11+j12))) (2 ^ (min (Int.toNat 1) (IntKind.bits .u64))))))))) else some i11))
  (fun x=>∃i j:Nat,x=((i:Int),(j:Int))/\i<=c/\c<=j/\j<=l.length) (fun x=>(x.2-x.1).toNat) (fun _ r=>r=some (c:Int)) (by
   rintro k _ ⟨i,j,rfl,h1,h2,h3⟩ ih;dsimp only;by_cases w:i<j
   ·rw[if_pos (by omega),Qbmv (by omega) (by omega)];have u:(i+j) / 2<l.length:=by omega
    rw[Qy u];simp only[Za];rw[e _ (Zr u)];simp only[Za];have m:=hc ((i+j) / 2) u;by_cases d:l[(i+j) / 2].From<s
    ·rw[if_pos (by omega),Qx (by omega)];have:(i+j) / 2<c:=m.1 (by simpa using d);exact ih _ ⟨_,_,rfl,by omega,h2,h3⟩ (by simp only;omega)
    ·rw[if_neg (by omega)];have:¬(i+j) / 2<c:=fun h=>d (by simpa using m.2 h);exact ih _ ⟨_,_,rfl,h1,by omega,by omega⟩ (by simp only;omega)
   grind) Q0 (0,(l.length:Int)) ⟨0,l.length,rfl,by omega,o,Ze _⟩ (by unfold Q0;simp only;omega)
 rw[f];simp only[Za];by_cases d:c<l.length
 ·rw[if_pos (by omega),Qy d];simp only[Za];rw[e _ (Zr d)];exact⟨_,rfl⟩
 ·rw[if_neg (by omega)];exact⟨_,rfl⟩
theorem Qbbn:∀{l:List Qb}(s:Int),l.Pairwise Qjc->(l.take (l.filter fun x=>decide (x.From<s+1)).length).drop (l.filter fun x=>decide (x.From<s)).length=l.filter fun x=>x.From==s
 |[],s,_=>by simp
 |x::xs,s,h=>by
  obtain⟨k,g⟩:=Zam.1 h;have i:=Qbbn s g;have f:∀y∈xs,x.From<=y.From:=fun y b=>by grind [Qjc]
  by_cases d:x.From<s
  ·grind
  ·have j:xs.filter (fun x=>decide (x.From<s))=[]:=Zbw.2 fun y b=>by grind
   have m:decide (x.From<s)=false:=by simpa using d
   by_cases e:x.From=s
   ·grind
   ·have e2:decide (x.From<s+1)=false:=by simp;omega
    have e3:(x.From==s)=false:=by simp[e]
    have c:xs.filter (fun x=>decide (x.From<s+1))=[]:=Zbw.2 fun y b=>by grind
    grind
section
variable{a:Qa}(h:Right a)(hs:small a)
include h hs
theorem Qbmx{s:Int}(k : -1000000000000<s)(j:s<1000000000000):Qfg a s=some (outP a s):=by
 unfold Qfg Qdg;have g:=h.st;have f:∀t:Int,-1000000000002<t->t<1000000000002->∀x∈a.zD,IntKind.wrap .i64 (x.From-t)=x.From-t:=fun t e d x b=>by
  have:=h.ed0 x b;grind [Qx5]
 have i:IntKind.wrap .i64 (s+1)=s+1:=Qx5 (by omega) (by omega);obtain⟨m,e⟩:=Qbmw (s:=s) (cmp:=Qkg) (fun x b=>by unfold Qkg Qe5;grind) h.ed hs.2.2;obtain⟨l,d⟩:=Qbmw (s:=s+1) (cmp:=Qkh) (fun x b=>by unfold Qkh Qe6;rw[f (s+1) (by omega) (by omega) x b]) h.ed hs.2.2;rw[e,i];simp only[Za];rw[d];simp only[Za];have c:(a.zD.filter fun x=>decide (x.From<s)).length<=(a.zD.filter fun x=>decide (x.From<s+1)).length :=
  by rw[<-List.countP_eq_length_filter,<-List.countP_eq_length_filter];exact List.countP_mono_left fun x _ b=>by simp at b |-;omega
 rw[Q4p c (Zax _ _),Qbbn s h.ed]
 rfl
omit h in
theorem Q3g{s e:Int}:Qcx a s e=some (Q1 a s e):=by
 have hb:a.zD.length<1000000000000:=hs.2.2;unfold Qcx Q3;refine (Qlb (len:=a.zD.length) (fun k=>some (match (a.zD.drop k).find? (fun x=>x.From==s&&x.Event==e) with|some x=>x.To|none=>-1)) (by unfold Q0;omega) ?_ ?_).trans (by simp[Q1])
 ·intro k i b c;rw[if_pos (by omega),Qy b,Qx (by omega),c,Zai b];simp only[Za,List.find?_cons];cases h1:a.zD[i].From==s<;>cases h2:a.zD[i].Event==e<;>simp[h1,h2]
 ·intro k;simp
end
theorem Qb0{a:Qa}(h:Right a)(s e:Int):Q1 a s e = -1\/0<=Q1 a s e/\Q1 a s e<a.zF/\0<=s/\s<a.zF/\e∈a.zB:=by
 unfold Q1;split
 ·rename_i x b;have c:=Zbx b;have hp:=List.find?_some b;obtain⟨j,i,g,f,d⟩:=h.ed0 x c
  grind
 ·exact .inl rfl
theorem Qmb{a:Qa}(h:Right a){s e:Int}:0<=Q1 a s e↔∃x∈outP a s,x.Event=e:=by
 unfold Q1 outP;split
 ·rename_i x b;have c:=Zbx b;have hp:=List.find?_some b;simp at hp;refine⟨fun _=>⟨x,by simp[c,hp.1],hp.2⟩,fun _=>(h.ed0 x c).2.2.1⟩
 grind
theorem Qn0{a:Qa}(h:Right a)(s:Int):(outP a s).map (·.Event)=a.zB.filter fun e=>decide (0<=Q1 a s e):=by
 refine Qbgo ?_ (h.al.filter _) fun e=>?_
 ·rw[List.pairwise_map];have c:(outP a s).Pairwise Qjc:=h.ed.filter _
  grind [outP,List.Pairwise.imp_of_mem,Qjc]
 ·simp only[Zl,Zq,decide_eq_true_eq,Qmb h];constructor
  ·rintro⟨x,b,rfl⟩;refine⟨?_,x,b,rfl⟩;unfold outP at b;simp at b;exact (h.ed0 x b.1).2.2.2.2
  grind
theorem Qou{a:Qa}(h:Right a){s:Int}{x:Qb}(b:x∈outP a s):Q1 a s x.Event=x.To:=by
 unfold outP at b;simp at b;unfold Q1;split
 ·rename_i y c;have d:=Zbx c;have hp:=List.find?_some c;simp at hp;have:x=y:=by
   rcases Classical.em (x=y) with e|hne
   ·exact e
   ·exfalso;have f:Qjc x y\/Qjc y x:=by
     have:=Zbr.1 h.ed;obtain⟨i,k,rfl⟩:=Zao b.1;obtain⟨j,g,rfl⟩:=Zao d
     grind
    unfold Qjc at f;omega
  rw[this]
 grind
end Go.Abs
end
section
namespace Go.Abs
open Go
theorem Q3y{l:List Int}{n:Int}(d:l.length<big):Qiy l n=some (Qg8 n none l):=by
 unfold Qiy Qd6;refine (Qlb (len:=l.length) (fun k=>some (Qg8 n (ahead l k) (l.drop k))) (by unfold Q0;unfold big at d;omega) ?_ ?_).trans (by simp[Qp4])
 ·intro k i e f;have hb:i<1000000000000:=by unfold big at d;omega
  rw[Q3x e]
  try dsimp only
  rw[if_pos (by omega),Qy e,Qx (by omega),f];simp only[Za];by_cases a:l[i]<0
  ·simp[a]
  ·by_cases b:l[i]>=n
   ·simp[a,b]
   ·by_cases c:0<i
    ·rw[Q13 c (by omega),Qy (by omega:i-1<l.length),Q6g l c (by omega)];by_cases g:l[i]<=l[i-1]<;>simp[a,b,g,c]
    ·obtain rfl:i=0:=by omega
     simp[a,b,Qp4]
 ·intro k;simp[Qg8]
theorem Qblu{l m:List Int}(t:l.Pairwise (· < ·))(s:m.Pairwise (· < ·))(C:l.length<big)(E:m.length<1000000):Qlh l m=some (l.filter fun x=>decide (x∉m)):=by
 unfold Qlh Qfl Qhm Qcp;obtain⟨fuel,j,u⟩ : ∃f,Q0=f/\1099511627776<=f:=⟨_,rfl,Ze _⟩;rw[j];have i:∀(x:Int)(l:List Int),getO (x::l) 0=some x:=fun x l=>Qy (l:=x::l) (n:=0) (by simp);have o:∀(x:Int)(l:List Int),slcO (x::l) 1 ((x::l).length:Int)=some l:=fun x l=>by
  grind [Q4p,List.take_length]
 have d:∀p q,Qmz p q=some (p && !q):=fun p q=>by cases p<;>cases q<;>rfl
 rw[Q12 (fun x:List Int×List Int×List Int=>x.1.Pairwise (· < ·)/\x.2.1.Pairwise (· < ·)/\x.2.2.length+x.1.length<big/\x.2.2++x.1.filter (fun z=>decide (z∉x.2.1))=l.filter fun z=>decide (z∉m)) (fun x=>x.1.length+x.2.1.length) (some (l.filter fun z=>decide (z∉m))) ⟨t,s,by simpa using C,by simp⟩ (by grind) ?_]
 ·rfl
 rintro k ⟨a,b,out⟩ ⟨ha,hb,ho,he⟩ ih;dsimp only at ha hb ho he ih |-
 match a,b with
 |[],[]=>simpa using he
 |[],y::ys =>
  simp_all
 |x::xs,[] =>
  rw[show ((([]:List Int).length:Nat):Int)=0 from rfl];have hp:(((x::xs).length:Nat):Int)>0:=by grind
  rw[if_pos hp,Za,if_pos rfl,if_pos hp,if_pos (by rfl),Za,if_neg (by omega),Za,if_pos rfl,i,o];simp only[Za,d,Zbe,Bool.not_false,Zg,if_false,if_true];simp only[Zs] at ho;rw[Qbm (by simp only[Zs,Zaj];unfold lim;unfold big at ho;omega),Za]
  grind
 |x::xs,y::ys =>
  obtain⟨B,A⟩:=Zam.1 ha;obtain⟨w,v⟩:=Zam.1 hb;have hp:(((x::xs).length:Nat):Int)>0:=by grind
  have r:(((y::ys).length:Nat):Int)>0:=by grind
  have g:((((x::xs).length:Nat):Int)==0)=false:=by grind
  have e:((((y::ys).length:Nat):Int)==0)=false:=by grind
  rw[if_pos hp,Za,if_pos rfl,if_pos hp,if_neg (by rw[e];simp),i,i,Za,Za,Za,if_pos r,if_neg (by rw[g];simp),Za,Za,Za,o,o];simp only[Zs] at ho;rcases Int.lt_trichotomy x y with hxy|rfl|hxy
  ·have c:decide (x<=y)=true:=decide_eq_true (by omega);have e2:decide (y<=x)=false:=decide_eq_false (by omega);simp only[c,e2,Za,d,Bool.not_false,Zbe,if_true,Zg,if_false];rw[Qbm (by simp only[Zs,Zaj];unfold lim;unfold big at ho;omega),Za]
   grind
  ·have c:decide (x<=x)=true:=decide_eq_true (by omega);simp only[c,Za,d,Bool.not_true,Bool.and_false,if_true,Zg,if_false]
   grind [List.filter_cons_of_neg,List.filter_congr]
  ·have c:decide (x<=y)=false:=decide_eq_false (by omega);have e2:decide (y<=x)=true:=decide_eq_true (by omega);simp only[c,e2,Za,d,Bool.false_and,if_true,Zg,if_false]
   grind [List.filter_congr]
theorem Qbbo{l m:List Int}(b:l.Pairwise (· < ·))(a:m.Pairwise (· < ·))(d:l.length<big)(c:m.length<1000000):Qg1 l m=some (decide (∀x∈l,x∈m)):=by
 unfold Qg1 Qe4;rw[Qblu b a d c,Za];congr 1;rw[Bool.eq_iff_iff]
 simp_all
def inAl(l m:List Int):Bool:=decide (∀x∈l,x∈m)
def Qbbp(p:Qf):Int :=
 if Qib p.Plant≠0 then Qib p.Plant else if Qib p.Ambient≠0 then Qib p.Ambient else if Qib p.Requirement≠0 then Qib p.Requirement else
 if inAl p.Ambient.zB p.Plant.zB=false then 9 else if inAl p.Requirement.zB p.Plant.zB=false then 9 else
 if Qg8 32 none p.Observable≠0 then Qg8 32 none p.Observable else Qg8 32 none p.Controllable
structure Qbjf(p:Qf):Prop where
 hp:small p.Plant
 ha:small p.Ambient
 hr:small p.Requirement
 ho:p.Observable.length<big
 hc:p.Controllable.length<big
theorem Q6i{p:Qf}(h:Qbjf p):Qi9 p=some (Qbbp p):=by
 unfold Qi9 Qcy Qbbp;obtain⟨f,n⟩ : ∃f,Q0=f+4:=⟨1099511627772,rfl⟩;rw[n];have g0:getO [p.Plant,p.Ambient,p.Requirement] 0=some p.Plant:=rfl;have g1:getO [p.Plant,p.Ambient,p.Requirement] 1=some p.Ambient:=rfl;have g2:getO [p.Plant,p.Ambient,p.Requirement] 2=some p.Requirement:=rfl;have q:getO [p.Ambient,p.Requirement] 0=some p.Ambient:=rfl;have o:getO [p.Ambient,p.Requirement] 1=some p.Requirement:=rfl;have m:getO [p.Observable,p.Controllable] 0=some p.Observable:=rfl;have l:getO [p.Observable,p.Controllable] 1=some p.Controllable:=rfl;have i:IntKind.wrap .i64 (0+1)=1:=by decide
 have g:IntKind.wrap .i64 (1+1)=2:=by decide
 have e:IntKind.wrap .i64 (2+1)=3:=by decide
 simp only[Qbp,g0,g1,g2,q,o,m,l,i,g,e,Za,Q4q h.hp,Q4q h.ha,Q4q h.hr,Q3y h.ho,Q3y h.hc];by_cases b:Qib p.Plant=0
 ·by_cases c:Qib p.Ambient=0
  ·by_cases e2:Qib p.Requirement=0
   ·have a:=Qrh.1 b;have k:=Qrh.1 c;have j:=Qrh.1 e2;have d:p.Plant.zB.length<1000000:=by have:=Qjf a.al a.al0;omega
    rw[show Qg1 p.Ambient.zB p.Plant.zB=some (inAl p.Ambient.zB p.Plant.zB) from Qbbo k.al a.al h.ha.1 d,show Qg1 p.Requirement.zB p.Plant.zB=some (inAl p.Requirement.zB p.Plant.zB) from Qbbo j.al a.al h.hr.1 d]
    grind
   ·simp[b,c,e2]
  ·simp[b,c]
 ·simp[b]
section
variable{p:Qf}(h:Qbjf p)(hc:Qbbp p≠0)
include h hc
end
theorem Qblv{l:List Int}{v:Int}(a:l.length<big):Qlw l v=some (decide (v∈l)):=Qbe9 a
end Go.Abs
end
section
namespace Go.Abs
open Go
theorem Right.small{a:Qa}(h:Right a):small a/\a.zB.length<=32/\a.zC.length<=4096/\a.zD.length<=131072:=by
 have i:=Qjf h.al h.al0;have g:=Qjf h.ma h.ma0;have f:(a.zD.map fun x=>x.From*32+x.Event).Pairwise (· < ·):=by
  rw[List.pairwise_map];refine List.Pairwise.imp_of_mem (fun{x y}c hy hk=>?_) h.ed;have:=h.al0 _ (h.ed0 x c).2.2.2.2;have:=h.al0 _ (h.ed0 y hy).2.2.2.2;unfold Qjc at hk;omega
 have e:=Qjf (a:=0) (b:=131072) f (by
  intro z d;obtain⟨x,c,rfl⟩:=Zl.1 d;have:=h.al0 _ (h.ed0 x c).2.2.2.2;have:=h.ed0 x c;have:=h.st;omega)
 rw[Zu] at e;have:=h.st;refine⟨⟨?_,?_,?_⟩,?_,?_,?_⟩<;>(try unfold big)<;>omega
theorem Qvj{a:Qa}(h:Right a):Qee a=some 0:=by rw[Q4q h.small.1,Qrh.2 h]
theorem Qbjg{α b:Type}{l:List α}{f:α->Option b}{fuel:Nat}(i:l.length<big)(o:l.length<fuel){F:(List b×Int->Option (List b))->List b×Int->Option (List b)}(m:∀(k:List b×Int->Option (List b))(a:List b)(n:Nat)(h:n<l.length),a.length<=n->F k (a,(n:Int))=k (a++(f l[n]).toList,IntKind.wrap .i64 ((n:Int)+1)))(c:∀(k:List b×Int->Option (List b))(a:List b),F k (a,(l.length:Int))=some a):Qbp F fuel ([],0)=some (l.filterMap f):=by
 have hb:l.length<1000000000000:=i;refine (Qhx (len:=l.length) (fun n(a:List b)=>(a,(n:Int))) (fun n a=>a.length<=n) (fun n a=>some (a++(l.drop n).filterMap f)) ?_ ?_ fuel 0 [] (Zw _) (by omega) (Ze _)).trans (by simp)
 ·intro k n a d j g;have e:(f l[n]).toList.length<=1:=by cases f l[n]<;>simp
  rw[m k a n d j,Qx (by omega),g _ (by simp only[Zx];omega),Zai d];rw[List.filterMap_cons];cases f l[n]<;>simp only[Option.toList_none,Option.toList_some,Zar,Zbm,Zaq,Zbh]
 ·intro k a _;rw[c];simp
end Go.Abs
end
section
namespace Go.Abs
open Go
def ins(o:List Int)(t:Int):List Int:=if t∈o then o else o++[t]
def Qmd(a:Qa)(s:Int):List Int:=(outP a s).map (·.To)
def bfs(a:Qa):Nat->Nat->List Int->List Int
 |0,_,o=>o
 |fuel+1,i,o=>match o[i]? with
  |some s=>bfs a fuel (i+1) ((Qmd a s).foldl ins o)
  |none=>o
def Qd1(a:Qa):List Int:=bfs a (a.zF.toNat+1) 0 (if 0<a.zF then [0] else [])
structure Fnd(a:Qa)(o:List Int):Prop where
 nd:o.Nodup
 rg:∀s∈o,0<=s/\s<a.zF
theorem Fnd.len{a:Qa}{o:List Int}(h:Fnd a o):o.length<=a.zF.toNat:=by
 have g:Go.Sort.SWO Qgq:=⟨fun x=>by simp[Qgq],fun x y z j i=>by simp[Qgq] at *;omega,fun x y z j i=>by simp[Qgq] at *;omega⟩;have hp:=Qlv Qgq o;have e:=Qmy g o;have f:(Qi8 Qgq o).Nodup:=(hp.nodup_iff).2 h.nd;have c:(Qi8 Qgq o).Pairwise (· < ·):=by
  have:(Qi8 Qgq o).Pairwise fun x y=>Qgq y x=false/\x≠y:=e.and f
  grind [Qgq]
 have:=Qjf c (a:=0) (b:=a.zF) fun x d=>h.rg x (hp.mem_iff.1 d)
 grind [Qmx]
theorem Q6j{o:List Int}{t x:Int}:x∈ins o t↔x∈o\/x=t:=by
 unfold ins;grind
theorem Qbn2(o:List Int)(t:Int):o <+: ins o t:=by
 grind [ins,List.prefix_refl,List.prefix_append]
theorem Fnd.ins{a:Qa}{o:List Int}(h:Fnd a o){t:Int}(f:0<=t/\t<a.zF):Fnd a (ins o t):=by
 refine⟨?_,fun s b=>?_⟩
 ·unfold Go.Abs.ins;split
  ·exact h.nd
  ·rename_i g;rw[List.nodup_append];exact⟨h.nd,by simp,fun x d y c=>by simp at c;subst c;exact fun e=>g (e ▸ d)⟩
 ·rcases Q6j.1 b with b|rfl
  ·exact h.rg s b
  ·exact f
theorem Qx6{a:Qa}:∀{ts o:List Int},Fnd a o->(∀t∈ts,0<=t/\t<a.zF)->Fnd a (ts.foldl ins o)/\o <+: ts.foldl ins o/\(∀t∈ts,t∈ts.foldl ins o)/\∀x∈ts.foldl ins o,x∈o\/x∈ts
 |[],o,h,_=>⟨h,Zbp o,by simp,fun x b=>.inl b⟩
 |t::ts,o,h,d=>by
  obtain⟨i,e,g,f⟩:=Qx6 (ts:=ts) (h.ins (d t (by simp))) fun t c=>d t (by simp[c]);refine⟨i,(Qbn2 o t).trans e,fun x b=>?_,fun x b=>?_⟩
  ·rcases Zah.1 b with rfl|b
   ·exact e.subset (Q6j.2 (.inr rfl))
   ·exact g x b
  ·rcases f x b with h5|h5
   ·rcases Q6j.1 h5 with h6|rfl
    all_goals grind
   grind
theorem Q0u{a:Qa}(h:Right a)(s:Int):∀t∈Qmd a s,0<=t/\t<a.zF:=by
 intro t b;unfold Qmd outP at b;obtain⟨x,c,rfl⟩:=Zl.1 b;have:=h.ed0 x ((Zq.1 c).1);omega
theorem Qg2{α:Type}{l m:List α}(h:l <+: m){i:Nat}{x:α}(a:l[i]? = some x):m[i]? = some x:=by
 obtain⟨t,rfl⟩:=h
 grind
theorem Q9w{a:Qa}(h:Right a):∀(fuel i:Nat)(o:List Int),Fnd a o->i<=o.length->a.zF.toNat+1<=fuel+i->(∀j s,j<i->o[j]? = some s->∀t∈Qmd a s,t∈o) ->
  Fnd a (bfs a fuel i o)/\o <+: bfs a fuel i o/\∀s∈bfs a fuel i o,∀t∈Qmd a s,t∈bfs a fuel i o
 |0,i,o,c,k,b,_=>by have:=c.len;omega
 |fuel+1,i,o,c,k,b,hc=>by
  unfold bfs;cases hg:o[i]? with
  |none =>
   grind [List.prefix_refl,List.getElem?_of_mem,List.getElem?_eq_some_iff,List.getElem?_eq_none_iff]
  |some s =>
   dsimp only;obtain⟨m,l,w,_⟩:=Qx6 c (Q0u h s);have d:i<o.length:=(Zm.1 hg).1;have f:=l.length_le;obtain⟨r,q,p⟩:=Q9w h fuel (i+1) ((Qmd a s).foldl ins o) m (by omega) (by omega) (fun j n v e t u=>by
    by_cases g:j<i
    ·grind [Qg2,List.getElem?_eq_getElem]
    ·obtain rfl:j=i:=by omega
     grind [Qg2])
   grind
theorem Qhn{a:Qa}(h:Right a):Fnd a (Qd1 a)/\(if 0<a.zF then [0] else []) <+: Qd1 a/\∀s∈Qd1 a,∀t∈Qmd a s,t∈Qd1 a :=
 Q9w h _ 0 _ ⟨by split<;>simp,fun s b=>by grind⟩ (Zw _) (by omega) fun j s c=>by omega
def Qm4(m:List Int):Nat->List Int->List Int
 |_,[]=>[]
 |i,s::t=>(if s∈m then [(i:Int)] else [])++Qm4 m (i+1) t
def rowP(a:Qa)(F:List Int)(i:Nat)(s:Int):List Qb:=(outP a s).map fun x=>⟨(i:Int),x.Event,(F.idxOf x.To:Int)⟩
def Qlc(a:Qa)(F:List Int):Nat->List Int->List Qb
 |_,[]=>[]
 |i,s::t=>rowP a F i s++Qlc a F (i+1) t
def Qfr(a:Qa):Qa:=⟨a.zB,((Qd1 a).length:Int),Qm4 a.zC 0 (Qd1 a),Qlc a (Qd1 a) 0 (Qd1 a)⟩
theorem Qx7{m:List Int}:∀{l:List Int}{i:Nat},∀x∈Qm4 m i l,(i:Int)<=x/\x<(i+l.length:Nat)
 |[],i,x,a=>by simp[Qm4] at a
 |s::t,i,x,a=>by
  simp only[Qm4,Zp] at a;rcases a with a|a
  ·grind
  ·have:=Qx7 x a;grind
theorem Q14{m:List Int}:∀{l:List Int}{i:Nat},(Qm4 m i l).Pairwise (· < ·)
 |[],i=>.nil
 |s::t,i=>by
  simp only[Qm4];rw[Zbb];refine⟨by split<;>simp,Q14,fun x a y b=>?_⟩;have:=Qx7 y b;split at a<;>simp at a;omega
theorem Qvk{a:Qa}{F:List Int}:∀{l:List Int}{i:Nat},∀x∈Qlc a F i l,(i:Int)<=x.From/\x.From<(i+l.length:Nat)/\∃s∈l,∃y∈outP a s,x.Event=y.Event/\x.To=(F.idxOf y.To:Int)
 |[],i,x,b=>by simp[Qlc] at b
 |s::t,i,x,b=>by
  simp only[Qlc,Zp] at b;rcases b with b|b
  ·obtain⟨y,d,rfl⟩:=Zl.1 b
   grind
  ·obtain⟨h,g,c,f,e⟩:=Qvk x b
   grind
theorem Q15{a:Qa}(h:Right a){F:List Int}:∀{l:List Int}{i:Nat},(Qlc a F i l).Pairwise Qjc
 |[],i=>.nil
 |s::t,i=>by
  simp only[Qlc];rw[Zbb];refine⟨?_,Q15 h,fun x b y c=>?_⟩
  ·unfold rowP;rw[List.pairwise_map];have e:(outP a s).Pairwise Qjc:=h.ed.filter _;have d:∀x∈outP a s,x.From=s:=fun x b=>by grind [outP]
   exact List.Pairwise.imp_of_mem (fun{x y}b c hk=>by have:=d x b;have:=d y c;unfold Qjc at hk;exact .inr ⟨rfl,by show x.Event<y.Event;omega⟩) e
  ·obtain⟨z,_,rfl⟩:=Zl.1 b;have:=(Qvk y c).1;unfold Qjc;simp only;omega
theorem Qhy{a:Qa}(h:Right a):Right (Qfr a):=by
 obtain⟨j,o,i⟩:=Qhn h;have n:=j.len;have f:=h.st;refine⟨h.al0,h.al,⟨by simp only[Qfr];omega,by simp only[Qfr];omega⟩,fun x d=>?_,Q14,fun x d=>?_,Q15 h⟩
 ·have:=Qx7 x d;simp only[Qfr];omega
 ·obtain⟨m,l,s,g,y,c,e,k⟩:=Qvk x d;have b : y.To∈Qd1 a:=i s g y.To (Zl.2 ⟨y,c,rfl⟩);have:=List.idxOf_lt_length_iff.2 b;simp only[Qfr];refine⟨by omega,by omega,by omega,by omega,?_⟩;rw[e];unfold outP at c;exact (h.ed0 y ((Zq.1 c).1)).2.2.2.2
end Go.Abs
end
section
namespace Go.Abs
open Go
theorem Qbfa{l:List Int}(b:l.length<=lim):Qge l=some ⟨l,0,[],[]⟩:=by
 simp_all[Qge,Qbk,Qbm]
theorem Qbdg{l:List Int}{v:Int}(d:l.length<big):Qgf l v=some (if v∈l then (l.idxOf v:Int) else -1):=by
 have hb:l.length<1000000000000:=d;unfold Qgf Qdo;refine (Qlb (len:=l.length) (fun k=>some (if v∈l.drop k then ((k+(l.drop k).idxOf v:Nat):Int) else -1)) (by unfold Q0;omega) ?_ ?_).trans (by simp)
 ·intro k i b c;rw[if_pos (by omega),Qy b,Qx (by omega),c,Zai b]
  grind
 ·intro k;simp
theorem Q3z{a:Qa}(h:Right a)(s:Int):Qmd a s=(a.zB.filter fun e=>decide (0<=Q1 a s e)).map (Q1 a s):=by
 grind [Qn0,List.map_map,Qmd,List.map_congr_left,Qou]
theorem Q8h{a:Qa}(s:Int):∀(al o:List Int),al.foldl (fun o e=>if 0<=Q1 a s e then ins o (Q1 a s e) else o) o=((al.filter fun e=>decide (0<=Q1 a s e)).map (Q1 a s)).foldl ins o
 |[],o=>rfl
 |e::al,o=>by
  by_cases b:0<=Q1 a s e<;>simp[List.filter_cons,b,Q8h s al]
theorem Qbfb{a:Qa}{fuel i:Nat}{o:List Int}(b:i<o.length):bfs a (fuel+1) i o=bfs a fuel (i+1) ((Qmd a o[i]).foldl ins o):=by
 grind [bfs,List.getElem?_eq_getElem]
theorem Qbjh{a:Qa}{fuel:Nat}{o:List Int}:bfs a fuel o.length o=o:=by
 cases fuel with
 |zero=>rfl
 |succ n=>unfold bfs;simp
section
variable{a:Qa}(h:Right a)
include h
theorem Qbgp(fuel:Nat)(E:1099511627776<=fuel){s:Int}{o:List Int}{i:Nat}(F:Fnd a o)(B:o[i]? = some s):
  Qbp (fun u((b,g):(List Int)×Int)=>(if (g<(a.zB.length:Int)) then ((((getO b (i:Int)).bind fun r=>((getO a.zB g).bind fun q=>((Qcx a r q).bind fun d=>(((if (d>=0) then ((Qeb b d).bind fun p=>some (!p)) else some false)).bind fun(m:Bool)=>(if m then ((appO b [d]).bind fun l=>some l) else some b)))))).bind fun(f:List Int)=>u (f,(IntKind.wrap .i64 (g+1)))) else some b)) fuel (o,0)=some ((Qmd a s).foldl ins o):=by
 have w:=h.small.1;have A:=h.st;have hb:a.zB.length<1000000000000:=w.1;rw[Q3z h,<-Q8h];refine (Qhx (len:=a.zB.length) (fun n(c:List Int)=>(c,(n:Int))) (fun n c=>Fnd a c/\c[i]? = some s) (fun n c=>some ((a.zB.drop n).foldl (fun o e=>if 0<=Q1 a s e then ins o (Q1 a s e) else o) c)) ?_ ?_ fuel 0 o (Zw _) (by omega) ⟨F,B⟩).trans (by simp)
 ·intro k n c x ⟨k1,k2⟩ ih;have z:=k1.len;have C:getO c (i:Int)=some s:=by grind [Quj]
  dsimp only;rw[if_pos (by omega),C,Qy x];simp only[Za];rw[Q3g w,Qx (by omega)];simp only[Za];rw[Qbe9 (by unfold big;omega),Zai x,Zbd];rcases Qb0 h s a.zB[n] with hr|hr
  ·grind
  ·have v:Q1 a s a.zB[n]>=0:=hr.1;by_cases y:Q1 a s a.zB[n]∈c
   ·simp_all[decide_true,Bool.not_true,if_true,Za,Zg,if_false,ins]
   ·simp only[v,y,decide_false,Bool.not_false,if_true,Za,hr.1,ins,if_false];rw[Qbm (by grind [List.length_cons,List.length_nil,lim])];simp only[Za];have j:=k1.ins (t:=Q1 a s a.zB[n]) ⟨hr.1,hr.2.1⟩;unfold ins at j;rw[if_neg y] at j;exact ih _ ⟨j,Qg2 (List.prefix_append c _) k2⟩
 grind
theorem Qbdh:Qhv a=some (Qd1 a):=by
 have y:=h.small.1;have I:=h.st;unfold Qhv Qdn;obtain⟨fuel,A,z⟩ : ∃f,Q0=f/\1099511627776<=f:=⟨_,rfl,Ze _⟩;rw[A];have j:∀o:List Int,Fnd a o->Qbp (fun(w:List Int×Int->Option (List Int))((out6,i7):(List Int)×Int)=>(if (i7<(out6.length:Int)) then ((Qbp (fun t((b,g):(List Int)×Int)=>(if (g<(a.zB.length:Int)) then ((((getO b i7).bind fun q=>((getO a.zB g).bind fun p=>((Qcx a q p).bind fun c=>(((if (c>=0) then ((Qeb b c).bind fun n=>some (!n)) else some false)).bind fun(m:Bool)=>(if m then ((appO b [c]).bind fun l=>some l) else some b)))))).bind fun(e:List Int)=>t (e,(IntKind.wrap .i64 (g+1)))) else some b)) fuel (out6,0)).bind fun(d:List Int)=>w (d,(IntKind.wrap .i64 (i7+1)))) else some out6)) fuel (o,0)=some (bfs a (a.zF.toNat+1) 0 o):=by
  intro o ho;have:=Qb1 (F:=fun(w:List Int×Int->Option (List Int))((out6,i7):(List Int)×Int)=>(if (i7<(out6.length:Int)) then ((Qbp (fun t((b,g):(List Int)×Int)=>(if (g<(a.zB.length:Int)) then ((((getO b i7).bind fun q=>((getO a.zB g).bind fun p=>((Qcx a q p).bind fun c=>(((if (c>=0) then ((Qeb b c).bind fun n=>some (!n)) else some false)).bind fun(m:Bool)=>(if m then ((appO b [c]).bind fun l=>some l) else some b)))))).bind fun(e:List Int)=>t (e,(IntKind.wrap .i64 (g+1)))) else some b)) fuel (out6,0)).bind fun(d:List Int)=>w (d,(IntKind.wrap .i64 (i7+1)))) else some out6))
   (fun x=>∃i:Nat,x.2=(i:Int)/\i<=x.1.length/\Fnd a x.1) (fun x=>a.zF.toNat+1-x.2.toNat) (fun x r=>r=some (bfs a (a.zF.toNat+1-x.2.toNat) x.2.toNat x.1)) (by
    rintro k ⟨o,i⟩ ⟨i,rfl,B,v⟩ ih;replace B:i<=o.length:=B;replace v:Fnd a o:=v;have L:=v.len;dsimp only;by_cases u:i<o.length
    ·rw[if_pos (by omega),Qbgp h fuel z v (Zj u),Za,Qx (by omega)];obtain⟨H,E,_,_⟩:=Qx6 v (Q0u h o[i]);have J:=E.length_le;rw[ih _ ⟨i+1,rfl,by simp only;omega,H⟩ (by simp only;omega)];simp only[Zaw];rw[show a.zF.toNat+1-i=(a.zF.toNat+1-(i+1))+1 from by omega,Qbfb u]
    ·rw[if_neg (by omega)];obtain rfl:i=o.length:=by omega
     simp only[Zaw,Qbjh]) fuel (o,0) ⟨0,rfl,Zw _,ho⟩ (by simp only;omega)
  simpa using this
 by_cases C:0<a.zF
 ·rw[if_pos (by omega),Qbm (by grind [List.length_cons,List.length_nil,lim])];simp only[Za];rw[show ([]++[0]:List Int)=[0] from rfl,j [0] ⟨by simp,fun s y=>by grind⟩];simp only[Za,Qd1,if_pos C]
 ·rw[if_neg (by omega)];simp only[Za];rw[j [] ⟨by simp,fun s y=>by simp at y⟩];simp only[Za,Qd1,if_neg C]
theorem Q8i(fuel:Nat)(z:1099511627776<=fuel){F:List Int}(E:Fnd a F)(q:∀s∈F,∀t∈Qmd a s,t∈F){s:Int}{i:Nat}(x:F[i]? = some s)(ms:List Int)(es:List Qb)(A:es.length<=200000):
  Qbp (fun(p:Int×List Qb->Option (List Int×List Qb))((k22,out23):Int×(List Qb))=>(if (k22<(a.zB.length:Int)) then ((((getO F (i:Int)).bind fun o=>((getO a.zB k22).bind fun m=>((Qcx a o m).bind fun d=>(if (d>=0) then ((getO a.zB k22).bind fun l=>((Qgf F d).bind fun j=>((appO out23 [(Qb.mk (i:Int) l j)]).bind fun g=>some g))) else some out23))))).bind fun(c:List Qb)=>p ((IntKind.wrap .i64 (k22+1)),c)) else some (ms,out23))) fuel (0,es)=some (ms,es++rowP a F i s):=by
 have r:=h.small.1;have v:=h.st;have B:=h.small.2.1;have hb:a.zB.length<1000000000000:=r.1;have C:=E.len;have f:rowP a F i s=(a.zB.filter fun e=>decide (0<=Q1 a s e)).map fun e=>⟨(i:Int),e,(F.idxOf (Q1 a s e):Int)⟩:=by
  rw[<-Qn0 h,Zap]
  simp_all[rowP,List.map_congr_left,Function.comp,Qou]
 rw[f];refine (Qhx (len:=a.zB.length) (fun n(b:List Qb)=>((n:Int),b)) (fun n b=>b.length<=200000+n) (fun n b=>some (ms,b++((a.zB.drop n).filter fun e=>decide (0<=Q1 a s e)).map fun e=>⟨(i:Int),e,(F.idxOf (Q1 a s e):Int)⟩)) ?_ ?_ fuel 0 es (Zw _) (by omega) (by omega)).trans (by simp)
 ·intro k n b u H I;have y:getO F (i:Int)=some s:=by grind [Quj]
  dsimp only;rw[if_pos (by omega),y,Qy u];simp only[Za];rw[Q3g r,Qx (by omega)];simp only[Za];rw[Zai u,List.filter_cons];by_cases hr:0<=Q1 a s a.zB[n]
  ·have w:Q1 a s a.zB[n]∈F:=q s (Zn x) _ (by rw[Q3z h];grind);rw[if_pos hr,Qbdg (by unfold big;omega),if_pos w];simp only[Za];rw[Qbm (by grind [List.length_cons,List.length_nil,lim])]
   grind
  grind
 grind
theorem Qbfc{F:List Int}{i:Nat}{s:Int}:(rowP a F i s).length<=32:=by
 have:=h.small.2.1
 grind [rowP,outP,Qn0,Nat.le_trans,List.length_filter_le]
theorem Qx8:Qes a=some (Qfr a):=by
 have o:=h.small.1;have r:=h.st;have u:=h.small.2.1;have hb:a.zB.length<1000000000000:=o.1;obtain⟨e,_,c⟩:=Qhn h;have j:=e.len;unfold Qes Q9;obtain⟨fuel,g,d⟩ : ∃f,Q0=f/\1099511627776<=f:=⟨_,rfl,Ze _⟩;rw[g,Qbdh h,Za,Qbfa (by unfold lim;omega),Za];unfold Qfr;generalize Qd1 a=F at e c j;show Option.bind (Qbp _ fuel (((0:Nat):Int),[],[],[],[],[])) _=_;rw[Qhx (len:=F.length) (R:=List Int×List Int×List Qb×List Int×List Qb) (fun n(b:List Int×List Qb)=>((n:Int),([]:List Int),([]:List Int),([]:List Qb),b.1,b.2)) (fun n b=>b.1.length<=n/\b.2.length<=32*n)
  (fun n b=>some (([]:List Int),([]:List Int),([]:List Qb),b.1++Qm4 a.zC n (F.drop n),b.2++Qlc a F n (F.drop n))) ?_ ?_ fuel 0 ([],[]) (Zw _) (by omega) ⟨Zw _,Zw _⟩]
 ·simp
 ·rintro k n ⟨ms,es⟩ hn ⟨m,l⟩ ih;replace m:ms.length<=n:=m;replace l:es.length<=32*n:=l;have q:=Zj hn;dsimp only;rw[if_pos (by omega),Qy hn];simp only[Za];rw[Qbe9 o.2.1];simp only[Za];have t:=Qbfc h (F:=F) (i:=n) (s:=F[n]);rw[Zai hn];simp only[Qm4,Qlc];by_cases p:F[n]∈a.zC
  ·simp only[p,decide_true,if_true];rw[Qbm (by grind [List.length_cons,List.length_nil,lim])];simp only[Za];have:=Q8i h fuel d e c q (ms++[(n:Int)]) es (by omega);rw[Qy hn] at this;simp only[Za] at this;rw[this];simp only[Za];rw[Qx (by omega),ih (ms++[(n:Int)],es++rowP a F n F[n]) ⟨by grind,by grind⟩]
   grind
  ·simp only[p,decide_false,Zg,if_false,Za];have:=Q8i h fuel d e c q ms es (by omega);rw[Qy hn] at this;simp only[Za] at this;rw[this];simp only[Za];rw[Qx (by omega),ih (ms,es++rowP a F n F[n]) ⟨by simp only;omega,by grind⟩]
   grind
 simp_all[if_neg,Qm4,Qlc]
end
end Go.Abs
end
