/-
  Part 8 of the proof: see the last text.
-/
import Derived.Test.YtdckcingoapofaaGreatDoorP7
import Derived.Test.YtdckcingoapofaaGreatDoorProg
import Derived.KernelRfl
import Derived.Sort.Statements
import Derived.Lib.ItoaNum
import Derived.Lib.SlicesCompact
import Derived.Shelf.SlGeneric
import Derived.Shelf.Strings.BuilderK
import Derived.Shelf.Strconv.Itoa2
import Derived.Shelf.Strconv.Itoa3
import Derived.Shelf.Slices.CompactI
import Derived.Ground.Names2Prog
import Derived.Ground.SlgmProg
import Derived.Ground.SlsfProg
import Derived.Shelf.SlLaysF0
import Derived.Shelf.SortM.Plain
import Derived.Shelf.SortM.SortNone
import Derived.Shelf.SlSortCmp.NoneTotal
import Derived.Shelf.Small.Bits
import Derived.WalkKit
import Derived.BigCall
import Derived.Lib.OthersKept
import Derived.Lib.AppendIntMem
import Derived.Lib.SmallJoins
import Derived.Lib.ItoaLen
import Derived.OpenShut
import Derived.ProofKit
import Derived.Carry
import GoSem.Claim
import GoSem.ClaimJoined
import Derived.JoinedTies
set_option linter.unusedVariables false
set_option linter.unusedSimpArgs false
set_option linter.unusedSectionVars false
section
namespace Go.Abs
open Go
set_option maxRecDepth 10000
set_option maxHeartbeats 4000000
theorem Qqg{P:Program}{c:Nat}{Qcl:_}{Qk:_}{Qd8:_}(g:Qjs P 20 Qcl)(b:Qdm P 72 Qk)(f:Qlz P 149 Qd8)(d:Qo P c=some Qlp):Qie P c (Qco Qcl Qk Qd8):=by
 intro q m p r h;refine Qbp d rfl fun Γ M o n hM=>?_;subst o;refine ini ?_;refine Z 14 0 ?_;refine cl (b _ _ _) h (cq fun j h=>?_);refine Z 9 1 ?_;intro _ i h;refine Rn.buildT (v:=.agg [(i_ j),(i_ (-1)),(l_ m.estimate_),(o_ i)]) tv rfl ?_;refine Z 10 0 ?_;refine ci h rfl (fun h=>Y) (fun h=>?_);refine Tr.skip ?_;refine cw h [2,3,4,6,8] [3,4,6,17,22] (fun _ e=>e) (fun a l=>(8,.cells ([(i_ j),(i_ a),(l_ m.estimate_),(o_ i)]))::l) ke (fun _ h=>?_) (fun a h=>?_)
 ·refine Z 6 0 ?_;refine ci h rfl (fun h=>?_) (fun h=>Y);refine Z 6 0 ?_;refine cl (b _ _ _) h (cq fun _ h=>?_);exact Y
 ·refine Z 7 0 ?_;refine cl (g _ _) h (cq fun _ h=>?_);refine Z 1 0 ?_;refine cd h rfl (fun h=>?_) (fun h=>Y);refine Z 9 0 ?_;refine cl (f _ _ _ _) h (cq fun _ h=>?_);exact Y
theorem Qoa{P:Program}{c:Nat}{Qz:_}{Qcj:_}{Qco:_}(C:Qfq P 28 Qz)(F:Qhw P 116 Qcj)(E:Qie P 117 Qco)(B:Qo P c=some Qj0)(fuel:Nat):Qg8 P c (Qb8 Qz Qcj Qco fuel):=by
 intro J r h;refine Qbp B rfl fun Γ M I H hM=>?_;subst I;refine ini ?_;refine Z 10 0 ?_;refine cw h [1] [1] (fun(A,z,n,m)e=>(4,(Qe2 A))::e) (fun(A,z,n,m)l=>(5,.cells ([(i_ z),(i_ n),(l_ m),.nils 1]))::l) ke (fun _ h=>?_) (fun⟨A,z,n,m⟩ h=>?_)
 ·refine Z 3 0 ?_;refine cl (F _) h (cq fun⟨_,_⟩ h=>?_);refine Z 11 0 ?_;refine cd h rfl (fun h=>?_) (fun h=>Y);refine Z 4 0 ?_;refine Rn.weak (wS [0,1,2,3,4,5,6,12,13,14,15,16,17,19,20] [1,5,20] (fun e=>(18,.own 4 (List.map Qoe []))::e) (fun l=>l) ke wk) ?_;exact Y
 ·refine Z 6 0 ?_;refine lw h [1] [1,5] (fun(w,x)e=>(4,(Qe2 w))::(7,(i_ x))::e) (fun _ l=>l) ke wk (fun _ ⟨w,x⟩ h=>?_);refine Z 8 0 ?_;refine ci h rfl (fun h=>?_) (fun h=>Y);refine Z 3 0 ?_;refine cw h [1,7] [1,5] (fun u e=>(4,(Qe2 u))::e) (fun _ l=>l) ke (fun _ h=>?_) (fun u h=>?_)
  ·refine Z 5 0 ?_;refine lw h [1,7] [1,5] (fun(v,q)e=>(4,(Qe2 v))::(8,(i_ q))::e) (fun _ l=>l) ke wk (fun _ ⟨v,q⟩ h=>?_);refine Z 10 0 ?_;refine ci h rfl (fun h=>?_) (fun h=>Y);refine Tr.skip ?_;refine cw h [1,7,8] [1,5] (fun(o,f,d,b,a)e=>(4,(Qe2 o))::e) (fun(o,f,d,b,a)l=>(9,.cells ([(i_ f),(i_ d),(l_ b),(l_ a)]))::l) ke (fun _ h=>?_) (fun⟨o,f,d,b,a⟩ h=>Y);refine Z 14 1 ?_;intro _ _ h;refine cl (E _ _ _) h (cq fun⟨_,_⟩ h=>?_);refine Z 7 0 ?_;refine cw h [1,4,7,8,9] [1,5,9] (fun g e=>(10,(b_ g))::e) (fun _ l=>l) ke (fun _ h=>?_) (fun g h=>?_)
   ·refine Z 5 0 ?_;refine lw h [1,4,7,8,9] [1,5,9] (fun(j,s)e=>(10,(b_ j))::(11,(i_ s))::e) (fun _ l=>l) ke wk (fun _ ⟨j,s⟩ h=>?_);refine Tr.seq ?_;refine cw h [1,4,7,8,9,10,11] [1,5,9] (fun p e=>(57,(b_ p))::e) (fun _ l=>l) ke (fun _ h=>?_) (fun p h=>?_)
    ·refine Z 6 0 ?_;exact bi h (fun _ h=>Y) (fun _ h=>Y)
    ·refine cd h rfl (fun h=>?_) (fun h=>Y);refine Tr.skip ?_;refine cw h [1,4,7,8,9,11] [1,5,9] (fun i e=>(10,(b_ i))::e) (fun _ l=>l) ke (fun _ h=>?_) (fun i h=>Y);refine Z 11 1 ?_;intro _ h;refine bs h (fun _ h=>Y) (fun _ h=>?_);refine Z 10 1 ?_;intro _ h;refine bs h (fun _ h=>Y) (fun _ h=>?_);refine Z 7 1 ?_;intro _ h;refine cl (C _ _) h (cq fun _ h=>?_);exact Y
   ·refine Z 4 0 ?_;exact cd h rfl (fun h=>Y) (fun h=>Y)
  ·refine Z 6 0 ?_;exact ci h rfl (fun h=>Y) (fun h=>Y)
theorem Qob{P:Program}{c:Nat}{Qcl:_}{Qk:_}(g:Qjs P 20 Qcl)(a:Qdm P 72 Qk)(f:Qo P c=some Qj1)(fuel:Nat):Qg9 P c (Qb9 Qcl Qk fuel):=by
 intro n o m r h;refine Qbp f rfl fun Γ M j i hM=>?_;subst j;refine ini ?_;refine Z 7 0 ?_;refine cw h [2,3,4] [3,4] (fun b e=>(41,(b_ b))::e) (fun _ l=>l) ke (fun _ h=>?_) (fun b h=>?_)
 ·refine Z 5 0 ?_;refine cl (g _ _) h (cq fun _ h=>?_);refine Z 2 0 ?_;refine bs h (fun _ h=>?_) (fun _ h=>Y);refine Z 10 1 ?_;intro _ h;refine cl (a _ _ _) h (cq fun _ h=>?_);refine Z 3 0 ?_;refine bi h (fun _ h=>Y) (fun _ h=>?_);refine Z 4 0 ?_;refine bi h (fun _ h=>?_) (fun _ h=>Y);refine Z 5 0 ?_;refine cl (a _ _ _) h (cq fun _ h=>?_);exact Y
 ·refine cd h rfl (fun h=>Y) (fun h=>?_);refine Z 7 0 ?_;refine lw h [2,3,4] [3,4] (fun d e=>(7,(i_ d))::e) (fun _ l=>l) ke wk (fun _ d h=>?_);refine Z 9 0 ?_;refine ci h rfl (fun h=>?_) (fun h=>Y);refine Z 13 1 ?_;intro _ h;refine cl (a _ _ _) h (cq fun _ h=>?_);refine Z 2 0 ?_;exact ci h rfl (fun h=>Y) (fun h=>Y)
theorem Qtd{P:Program}{c:Nat}{Qt:_}(g:Qen P 68 Qt)(f:Qo P c=some Qnw)(fuel:Nat):Qjt P c (Qda Qt fuel):=by
 intro m j r h;refine Qbp f rfl fun Γ M o n hM=>?_;subst o;refine ini ?_;refine Z 8 0 ?_;refine cw h [] [] (fun a e=>(5,(o_ a))::e) (fun _ l=>l) ke (fun _ h=>?_) (fun a h=>Y);refine Z 5 0 ?_;refine lw h [0,1] [] (fun(d,i)e=>(5,(o_ d))::(6,(i_ i))::e) (fun _ l=>l) ke wk (fun _ ⟨d,i⟩ h=>?_);refine Z 8 0 ?_;refine ci h rfl (fun h=>?_) (fun h=>Y);refine Tr.skip ?_;refine cw h [0,1,6] [] (fun b e=>(5,(o_ b))::e) (fun _ l=>l) ke (fun _ h=>?_) (fun b h=>Y);refine Z 8 1 ?_;intro _ h;refine cl (g _ _) h (cq fun _ h=>?_);refine Z 1 0 ?_;exact cd h rfl (fun h=>Y) (fun h=>Y)
theorem Qw1{P:Program}{c:Nat}{Qt:_}{Qk:_}(H:Qen P 68 Qt)(N:Qdm P 72 Qk)(L:Qo P c=some Qqx)(fuel:Nat):Ql0 P c (Qd9 Qt Qk fuel):=by
 intro p d b f r h;refine Qbp L rfl fun Γ M R Q hM=>?_;subst R;refine ini ?_;refine Z 10 0 ?_;refine cu h (fun O=>⟨look [(1,(l_ d)),(2,(l_ b)),(3,(b_ f)),(4,.ptr (Γ.n0+4) 0),(10,(Qc4 O))],Qq Γ.n0 (bxs [(4,.cells ((Qr p)))]) M,Γ.n0+151⟩) (fun _ h=>?_) (fun O h=>?_)
 ·refine Z 6 0 ?_;refine ci h rfl (fun h=>?_) (fun h=>Y);refine Z 4 0 ?_;refine Rn.weak (wS [0,1,2,3,4,8,9,10,17,18,19,21,22] [4,22] (fun e=>(20,.own 3 (List.map Qqp []))::e) (fun l=>l) ke wk) ?_;exact Y
 ·refine Z 6 0 ?_;refine lo h (fun(J,g)=>⟨look [(1,(l_ d)),(2,(l_ b)),(3,(b_ f)),(4,.ptr (Γ.n0+4) 0),(10,(Qc4 J)),(11,(i_ g))],Qq Γ.n0 (bxs [(4,.cells ((Qr p)))]) M,Γ.n0+151⟩) wk (fun _ ⟨J,g⟩ h=>?_);refine Z 8 0 ?_;refine ci h rfl (fun h=>?_) (fun h=>Y);refine Z 4 0 ?_;refine cu h (fun E=>⟨look [(1,(l_ d)),(2,(l_ b)),(3,(b_ f)),(4,.ptr (Γ.n0+4) 0),(10,(Qc4 J)),(11,(i_ g)),(51,(b_ E))],Qq Γ.n0 (bxs [(4,.cells ((Qr p)))]) M,Γ.n0+151⟩) (fun _ h=>?_) (fun E h=>?_)
  ·refine Z 10 1 ?_;intro _ h;refine bs h (fun _ h=>?_) (fun _ h=>Y);refine Z 3 0 ?_;refine bs h (fun _ h=>?_) (fun _ h=>Y);refine Z 7 1 ?_;intro _ h;refine cl (H _ _) h (cq fun _ h=>?_);exact Y
  ·refine cd h rfl (fun h=>Y) (fun h=>?_);refine Z 6 0 ?_;refine lo h (fun(m,j)=>⟨look [(1,(l_ d)),(2,(l_ b)),(3,(b_ f)),(4,.ptr (Γ.n0+4) 0),(10,(Qc4 m)),(11,(i_ g)),(12,(i_ j))],Qq Γ.n0 (bxs [(4,.cells ((Qr p)))]) M,Γ.n0+151⟩) wk (fun _ ⟨m,j⟩ h=>?_);refine Z 9 0 ?_;refine ci h rfl (fun h=>?_) (fun h=>Y);refine Tr.skip ?_;refine cu h (fun(F,A,w,v)=>⟨look [(1,(l_ d)),(2,(l_ b)),(3,(b_ f)),(4,.ptr (Γ.n0+4) 0),(10,(Qc4 F)),(11,(i_ g)),(12,(i_ j))],Qq Γ.n0 (bxs [(4,.cells ((Qr p))),(14,.cells ([(i_ A),(i_ w),(o_ v)]))]) M,Γ.n0+151⟩) (fun _ h=>?_) (fun⟨F,A,w,v⟩ h=>Y);refine Z 19 1 ?_;intro o _ h;refine cl (N _ _ _) h (cq fun n h=>?_);refine Z 9 1 ?_;intro I h;refine Tr.cutJ (fun(i:Int)=>⟨look [(1,(l_ d)),(2,(l_ b)),(3,(b_ f)),(4,.ptr (Γ.n0+4) 0),(10,(Qc4 m)),(11,(i_ g)),(12,(i_ j)),(13,(i_ o)),(14,.ptr (Γ.n0+14) 0)],Qq Γ.n0 (bxs [(4,.cells ((Qr p))),(14,.cells ([(i_ n),(i_ i),.nils 1]))]) M,Γ.n0+151⟩) h (fun S h=>?_) (fun z h=>?_)
   ·refine Z 4 0 ?_;refine cl (H _ _) h (cq fun _ h=>?_);refine Z 1 0 ?_;refine cd h rfl (fun h=>?_) (fun h=>?_)
    ·refine Tr.seq ?_;refine cu h (fun C=>⟨look [(1,(l_ d)),(2,(l_ b)),(3,(b_ f)),(4,.ptr (Γ.n0+4) 0),(10,(Qc4 m)),(11,(i_ g)),(12,(i_ j)),(13,(i_ o)),(14,.ptr (Γ.n0+14) 0),(99,(b_ C))],Qq Γ.n0 (bxs [(4,.cells ((Qr p))),(14,.cells ([(i_ n),(i_ I.done_),.nils 1]))]) M,Γ.n0+151⟩) (fun _ h=>?_) (fun C h=>?_)
     ·refine Z 7 0 ?_;exact bs h (fun _ h=>Y) (fun _ h=>Y)
     ·refine cd h rfl (fun h=>Y) (fun h=>?_);refine Z 8 0 ?_;exact⟨_,h,(by exact Qhh [] ⟨sq,sq,sq,(kPtr rfl),sq,sq,sq,sq,(kPtr rfl),tv⟩ ⟨bS rfl rfl rfl,bS rfl rfl rfl,tv⟩ rfl)⟩
    ·refine Tr.skip ?_;exact⟨_,h,(by exact Qhh [] ⟨sq,sq,sq,(kPtr rfl),sq,sq,sq,sq,(kPtr rfl),tv⟩ ⟨bS rfl rfl rfl,bS rfl rfl rfl,tv⟩ rfl)⟩
   ·obtain⟨i,rfl⟩ : ∃x,x=z:=⟨_,rfl⟩;refine Z 7 0 ?_;refine cu h (fun q=>⟨look [(1,(l_ d)),(2,(l_ b)),(3,(b_ f)),(4,.ptr (Γ.n0+4) 0),(10,(Qc4 m)),(11,(i_ g)),(12,(i_ j)),(13,(i_ o)),(14,.ptr (Γ.n0+14) 0),(15,(b_ q))],Qq Γ.n0 (bxs [(4,.cells ((Qr p))),(14,.cells ([(i_ n),(i_ i),.nils 1]))]) M,Γ.n0+151⟩) (fun _ h=>?_) (fun q h=>?_)
    ·refine Z 5 0 ?_;refine lo h (fun(u,B)=>⟨look [(1,(l_ d)),(2,(l_ b)),(3,(b_ f)),(4,.ptr (Γ.n0+4) 0),(10,(Qc4 m)),(11,(i_ g)),(12,(i_ j)),(13,(i_ o)),(14,.ptr (Γ.n0+14) 0),(15,(b_ u)),(16,(i_ B))],Qq Γ.n0 (bxs [(4,.cells ((Qr p))),(14,.cells ([(i_ n),(i_ i),.nils 1]))]) M,Γ.n0+151⟩) wk (fun _ ⟨u,B⟩ h=>?_);refine Z 8 0 ?_;refine ci h rfl (fun h=>?_) (fun h=>Y);refine Tr.skip ?_;refine cu h (fun s=>⟨look [(1,(l_ d)),(2,(l_ b)),(3,(b_ f)),(4,.ptr (Γ.n0+4) 0),(10,(Qc4 m)),(11,(i_ g)),(12,(i_ j)),(13,(i_ o)),(14,.ptr (Γ.n0+14) 0),(15,(b_ s)),(16,(i_ B))],Qq Γ.n0 (bxs [(4,.cells ((Qr p))),(14,.cells ([(i_ n),(i_ i),.nils 1]))]) M,Γ.n0+151⟩) (fun _ h=>?_) (fun s h=>Y);refine Z 4 0 ?_;refine bs h (fun _ h=>Y) (fun _ h=>?_);refine Z 9 1 ?_;intro _ h;exact bs h (fun _ h=>Y) (fun _ h=>Y)
    ·refine Z 5 0 ?_;refine Tr.cond rfl (fun a=>?_) (fun a=>?_)
     ·have a:=nT' a;replace h:=bF a h;exact Y
     ·have a:=nF' a;replace h:=bT a h;exact Y
theorem Qoc{P:Program}{c:Nat}{Qda:_}{Qb8:_}{Qb9:_}{Qk:_}{Qd9:_}(w:Qjt P 29 Qda)(A:Qg8 P 70 Qb8)(B:Qg9 P 71 Qb9)(z:Qdm P 72 Qk)(x:Ql0 P 73 Qd9)(u:Qo P c=some Qj2)(fuel:Nat):Qha P c (Qca Qda Qb8 Qb9 Qk Qd9 fuel):=by
 intro b r h;refine Qbp u rfl fun Γ M H F hM=>?_;subst H;refine ini ?_;refine Z 10 0 ?_;refine cl (A _) h (cq fun⟨_,_⟩ h=>?_);refine Z 12 0 ?_;refine lw h [1,2,5,6] [1,2] (fun E e=>(7,(i_ E))::e) (fun _ l=>l) ke wk (fun _ E h=>?_);refine Z 8 0 ?_;refine ci h rfl (fun h=>?_) (fun h=>Y);refine Z 8 0 ?_;refine lw h [1,2,5,6,7] [1,2] (fun C e=>(8,(i_ C))::e) (fun _ l=>l) ke wk (fun _ C h=>?_);refine Z 11 0 ?_;refine ci h rfl (fun h=>?_) (fun h=>Y);refine Z 23 1 ?_;intro q _ h;refine cl (B _ _ _) h (cq fun _ h=>?_);refine Z 2 0 ?_;refine Tr.cond rfl (fun a=>?_) (fun a=>?_)
 ·have a:=nT' a;replace h:=bF a h;exact Y
 ·have a:=nF' a;replace h:=bT a h;refine Z 13 0 ?_;refine cw h [1,2,5,6,7,9,10] [1] (fun _ e=>e) (fun(o,n,j)l=>(2,.cells ([(o_ o),(o_ n),(i_ 0)]))::(10,.cells ([(l_ b.k_.zB),(i_ b.k_.zF),(o_ j),(Qi b.k_.zD)]))::l) ke (fun _ h=>?_) (fun⟨o,n,j⟩ h=>?_)
  ·refine Z 5 0 ?_;refine lw h [1,2,5,6,7,9,10] [1] (fun(d,i,g,f)e=>(11,(i_ d))::e) (fun(d,i,g,f)l=>(2,.cells ([(o_ i),(o_ g),(i_ 0)]))::(10,.cells ([(l_ b.k_.zB),(i_ b.k_.zF),(o_ f),(Qi b.k_.zD)]))::l) ke wk (fun _ ⟨d,i,g,f⟩ h=>?_);refine Z 8 0 ?_;refine ci h rfl (fun h=>?_) (fun h=>Y);refine Tr.skip ?_;refine cw h [1,2,5,6,7,9,10,11] [1,2] (fun _ e=>e) (fun m l=>(10,.cells ([(l_ b.k_.zB),(i_ b.k_.zF),(o_ m),(Qi b.k_.zD)]))::l) ke (fun _ h=>?_) (fun m h=>Y);refine Z 6 0 ?_;refine cl (z _ _ _) h (cq fun _ h=>?_);refine Z 2 0 ?_;exact ci h rfl (fun h=>Y) (fun h=>Y)
  ·refine Z 14 1 ?_;intro _ h;refine cl (w _ _) h (cq fun _ h=>?_);refine cl (x _ _ _ _) h (cq fun⟨s,_⟩ h=>?_);refine Z 15 1 ?_;intro p h;refine Rn.buildT (v:=.agg [(l_ s),(l_ p.word_),(i_ q)]) tv rfl ?_;exact Y
theorem Qw2{P:Program}{c:Nat}{Qf:_}(f:Qci P 63 Qf)(d:Qo P c=some Qqy)(fuel:Nat):Ql1 P c (Qc6 Qf fuel):=by
 intro o i n r h;refine Qbp d rfl fun Γ M m j hM=>?_;subst m;refine ini ?_;refine Z 4 0 ?_;refine cw h [] [] (fun a e=>(1,(i_ a))::e) (fun _ l=>l) ke (fun _ h=>?_) (fun a h=>Y);refine Z 7 0 ?_;refine lw h [0,9,10] [] (fun(b,g)e=>(1,(i_ b))::(11,(i_ g))::e) (fun _ l=>l) ke wk (fun _ ⟨b,g⟩ h=>?_);refine Z 5 0 ?_;refine ci h rfl (fun h=>?_) (fun h=>Y);refine Z 13 1 ?_;intro _ h;refine cl (f _ _ _) h (cq fun _ h=>?_);exact Y
theorem Q8i{P:Program}{c:Nat}{Qce:_}(b:Qkr P 109 Qce)(a:Qo P c=some Q58):Qzg P c (Qjm Qce):=by
 intro g f r h;refine Qbp a rfl fun Γ M e d hM=>?_;subst e;refine ini ?_;refine Z 8 0 ?_;refine cl (b _ _) h (cq fun _ h=>?_);exact Y
theorem Qzr{P:Program}{c:Nat}{Qbo:_}{Qdu:_}{Qc6:_}{Ql:_}{Qf:_}{Qjm:_}{Q0:_}(n:Qjd P 51 Qbo)(m:Qph P 56 Qdu)(f:Ql1 P 61 Qc6)(q:Qc8 P 62 Ql)(u:Qci P 63 Qf)(p:Qzg P 64 Qjm)(s:Qe4 P 65 Q0)(o:Qo P c=some Qt5):Qnx P c (Qe0 Qbo Qdu Qc6 Ql Qf Qjm Q0):=by
 intro w C r h;refine Qbp o rfl fun Γ M B A hM=>?_;subst B;refine ini ?_;refine Z 10 0 ?_;obtain⟨⟨b,z,F,E⟩,x,h⟩:=bnd h;refine bs h (fun d h=>?_) (fun d h=>?_)
 ·refine Rn.call (args:=[(Q6 w)]) tv rfl (crT d (n _ _ x)) pc9 ?_;refine Z 10 0 ?_;refine cw h [2,3,6,8] [2,3,7] (fun i e=>(25,(b_ i))::e) (fun _ l=>l) ke (fun _ h=>?_) (fun i h=>?_)
  ·refine Z 4 0 ?_;refine bs h (fun j h=>Y) (fun j h=>?_);refine Z 1 0 ?_;refine Rn.k (v:=.cref (Qc b)) (gw rfl j) rfl rfl rfl ?_;exact Y
  ·refine cd h rfl (fun h=>Y) (fun h=>?_);refine Z 4 0 ?_;refine Rn.k (v:=.cref (Qc b)) tv rfl rfl rfl ?_;refine Z 3 0 ?_;refine Rn.k (v:=.cref (Qc b)) tv rfl rfl rfl ?_;refine Z 5 0 ?_;refine cl (f _ _ _) h (cq fun _ h=>?_);refine Z 5 0 ?_;refine Rn.k (v:=.cref (Qc b)) tv rfl rfl rfl ?_;refine Z 4 0 ?_;refine cl (f _ _ _) h (cq fun _ h=>?_);refine Z 1 0 ?_;refine Rn.k (v:=.cref (Qc b)) tv rfl rfl rfl ?_;refine Z 3 0 ?_;refine Rn.k (v:=.cref (Qc b)) tv rfl rfl rfl ?_;refine Z 5 0 ?_;refine cl (f _ _ _) h (cq fun _ h=>?_);refine Z 5 0 ?_;refine cw h [2,3,6,10] [2,3,7,10] (fun g e=>(84,(b_ g))::e) (fun _ l=>l) ke (fun _ h=>?_) (fun g h=>?_)
   ·refine Z 5 0 ?_;refine cl (q _ _) h (cq fun _ h=>?_);refine Z 2 0 ?_;refine bs h (fun _ h=>?_) (fun _ h=>Y);refine Z 4 0 ?_;refine bi h (fun _ h=>Y) (fun _ h=>?_);refine Z 5 0 ?_;refine bi h (fun a h=>Y) (fun a h=>?_);refine Z 1 0 ?_;refine Rn.k (v:=.cref (Qc b)) (gw rfl a) rfl rfl rfl ?_;refine Z 5 0 ?_;refine cl (u _ _ _) h (cq fun _ h=>?_);exact Y
   ·refine cd h rfl (fun h=>Y) (fun h=>?_);refine Z 7 0 ?_;refine cl (m _ _) h (cq fun _ h=>?_);refine Z 4 0 ?_;refine cl (m _ _) h (cq fun _ h=>?_);refine cl (p _ _) h (cq fun _ h=>?_);refine Z 6 0 ?_;refine bs h (fun _ h=>?_) (fun _ h=>Y);refine Z 4 0 ?_;refine cl (s _ _ _) h (cq fun _ h=>?_);exact Y
 ·refine Rn.call (args:=[(Q6 w)]) tv rfl (crF d (n _ _ x)) pc9 ?_;refine Z 15 0 ?_;refine bs h (fun _ h=>?_) (fun _ h=>?_)
  ·refine Z 6 0 ?_;refine Tr.condT rfl rfl ?_;exact Y
  ·refine Z 1 0 ?_;cases h
theorem Qod{P:Program}{c:Nat}{Qem:_}{Qd6:_}{Qd7:_}{Qcx:_}{Qe0:_}{Qz:_}{Qca:_}(o:Qk5 P 12 Qem)(p:Qlx P 13 Qd6)(n:Qly P 14 Qd7)(j:Qmj P 23 Qcx)(i:Qnx P 24 Qe0)(f:Qfq P 28 Qz)(m:Qha P 31 Qca)(g:Qo P c=some Qj4):Qj3 P c (Qhb Qem Qd6 Qd7 Qcx Qe0 Qz Qca):=by
 intro s1 r h;refine Qbp g rfl fun Γ M s q hM=>?_;subst s;refine ini ?_;refine Z 8 0 ?_;refine cl o h (cq fun _ h=>?_);refine Z 2 0 ?_;refine Tr.cond rfl (fun b=>?_) (fun b=>?_)
 ·have b:=nT' b;replace h:=bF b h;exact Y
 ·have b:=nF' b;replace h:=bT b h;refine Z 4 0 ?_;refine cl (p _) h (cq fun _ h=>?_);refine Z 6 0 ?_;refine cl (n _) h (cq fun⟨_,_⟩ h=>?_);refine Z 10 0 ?_;refine cl (m _) h (cq fun⟨_,_,_⟩ h=>?_);refine Z 15 0 ?_;refine Tr.cond rfl (fun a=>?_) (fun a=>?_)
  ·have a:=nT' a;replace h:=bF a h;exact Y
  ·have a:=nF' a;replace h:=bT a h;refine Z 4 0 ?_;refine cl (j _) h (cq fun⟨_,_,_⟩ h=>?_);refine Z 10 0 ?_;refine cw h [3,9,10] [1,3,4,6,9] (fun d e=>(70,(b_ d))::e) (fun _ l=>l) ke (fun _ h=>?_) (fun d h=>?_)
   ·refine Z 4 0 ?_;refine bs h (fun _ h=>?_) (fun _ h=>Y);refine Z 4 0 ?_;refine bs h (fun _ h=>Y) (fun _ h=>?_);refine Z 5 0 ?_;refine bs h (fun _ h=>Y) (fun _ h=>?_);refine Z 4 0 ?_;refine cl (f _ _) h (cq fun _ h=>?_);refine Z 3 0 ?_;refine bs h (fun _ h=>?_) (fun _ h=>Y);refine Z 4 0 ?_;refine cl (f _ _) h (cq fun _ h=>?_);refine Z 3 0 ?_;exact bs h (fun _ h=>Y) (fun _ h=>Y)
   ·refine cd h rfl (fun h=>Y) (fun h=>?_);refine Z 6 0 ?_;refine cd h rfl (fun h=>Y) (fun h=>?_);refine Z 5 0 ?_;refine cl (i _ _) h (cq fun⟨_,_⟩ h=>?_);refine Z 10 0 ?_;exact bs h (fun _ h=>Y) (fun _ h=>Y)
theorem Quo{P:Program}{c:Nat}{Qbf:_}(q:Qgk P 87 Qbf)(m:Qo P c=some Qoo)(fuel:Nat):Qkk P c (Qdj Qbf fuel):=by
 intro v r h;refine Qbp m rfl fun Γ M u s hM=>?_;subst u;refine ini ?_;refine Z 8 0 ?_;refine cl (q _) h (cq fun d h=>?_);refine Z 8 0 ?_;refine cw h [2,3] [1] (fun _ e=>e) (fun(i,g,f,a)l=>(2,.cells ([(o_ i),(i_ 0),(o_ g),(Qv f)]))::(3,.cells ([(l_ d.zB),(i_ d.zF),(o_ a),(Qi d.zD)]))::l) ke (fun _ h=>?_) (fun⟨i,g,f,a⟩ h=>Y);refine Z 5 0 ?_;refine lw h [2,3] [1] (fun(j,p,o,n,b)e=>(4,(i_ j))::e) (fun(j,p,o,n,b)l=>(2,.cells ([(o_ p),(i_ 0),(o_ o),(Qv n)]))::(3,.cells ([(l_ d.zB),(i_ d.zF),(o_ b),(Qi d.zD)]))::l) ke wk (fun _ ⟨j,p,o,n,b⟩ h=>?_);refine Z 8 0 ?_;exact ci h rfl (fun h=>Y) (fun h=>Y)
theorem Qup{P:Program}{c:Nat}{Qbm:_}{Qdj:_}(d:Qin P 45 Qbm)(b:Qkk P 46 Qdj)(a:Qo P c=some Qoq):Qop P c (Qkl Qbm Qdj):=by
 intro g r h;refine Qbp a rfl fun Γ M f e hM=>?_;subst f;refine ini ?_;refine Z 8 0 ?_;refine cl (b _) h (cq fun _ h=>?_);refine cl (d _) h (cq fun⟨_,_⟩ h=>?_);exact Y
theorem Qx9{P:Program}{c:Nat}{Qk:_}(d:Qdm P 72 Qk)(b:Qo P c=some Qso)(fuel:Nat):Qsn P c (Qmx Qk fuel):=by
 intro n g i r h;refine Qbp b rfl fun Γ M m j hM=>?_;subst m;refine ini ?_;refine Z 12 0 ?_;refine lw h [2,3] [3] (fun(a,f)e=>(1,(i_ a))::(8,(i_ f))::e) (fun _ l=>l) ke wk (fun _ ⟨a,f⟩ h=>?_);refine Z 8 0 ?_;refine ci h rfl (fun h=>?_) (fun h=>Y);refine Z 11 1 ?_;intro _ h;refine cl (d _ _ _) h (cq fun _ h=>?_);refine Z 8 0 ?_;exact ci h rfl (fun h=>Y) (fun h=>Y)
end Go.Abs
end
section
namespace Go.Proofs
open Go.Abs
set_option maxRecDepth 100000
theorem Qqh:Qo Tryz.prog 6=some Qj4:=by kernel_rfl
theorem Qzs:Qo Tryz.prog 12=some Qpv:=by kernel_rfl
theorem Q1b:Qo Tryz.prog 13=some Qqu:=by kernel_rfl
theorem Q1c:Qo Tryz.prog 14=some Qqv:=by kernel_rfl
theorem Q2j:Qo Tryz.prog 16=some Qsh:=by kernel_rfl
theorem Qya:Qo Tryz.prog 18=some Qoq:=by kernel_rfl
theorem Q2k:Qo Tryz.prog 20=some Qsm:=by kernel_rfl
theorem Q6g:Qo Tryz.prog 22=some Qxp:=by kernel_rfl
theorem Q6h:Qo Tryz.prog 23=some Qxt:=by kernel_rfl
theorem Q3s:Qo Tryz.prog 24=some Qt5:=by kernel_rfl
theorem Q2l:Qo Tryz.prog 26=some Qsj:=by kernel_rfl
theorem Qvy:Qo Tryz.prog 28=some Qna:=by kernel_rfl
theorem Qw3:Qo Tryz.prog 29=some Qnw:=by kernel_rfl
theorem Qqi:Qo Tryz.prog 31=some Qj2:=by kernel_rfl
theorem Q1d:Qo Tryz.prog 39=some Qqq:=by kernel_rfl
theorem Qte:Qo Tryz.prog 40=some Qlo:=by kernel_rfl
theorem Q1e:Qo Tryz.prog 41=some Qqt:=by kernel_rfl
theorem Qzt:Qo Tryz.prog 42=some Qps:=by kernel_rfl
theorem Q49:Qo Tryz.prog 43=some Qvh:=by kernel_rfl
theorem Q5a:Qo Tryz.prog 44=some Qvl:=by kernel_rfl
theorem Q3t:Qo Tryz.prog 45=some Qtz:=by kernel_rfl
theorem Qyb:Qo Tryz.prog 46=some Qoo:=by kernel_rfl
theorem Q2m:Qo Tryz.prog 47=some Qsk:=by kernel_rfl
theorem Q5b:Qo Tryz.prog 48=some Qvf:=by kernel_rfl
theorem Q5c:Qo Tryz.prog 49=some Qvg:=by kernel_rfl
theorem Q2n:Qo Tryz.prog 50=some Qr8:=by kernel_rfl
theorem Q5d:Qo Tryz.prog 51=some Qvm:=by kernel_rfl
theorem Quq:Qo Tryz.prog 52=some Ql7:=by kernel_rfl
theorem Qtf:Qo Tryz.prog 54=some Qlm:=by kernel_rfl
theorem Qw4:Qo Tryz.prog 55=some Qnu:=by kernel_rfl
theorem Q9o:Qo Tryz.prog 56=some Q1z:=by kernel_rfl
theorem Qyc:Qo Tryz.prog 57=some Qoj:=by kernel_rfl
theorem Q3u:Qo Tryz.prog 58=some Qtx:=by kernel_rfl
theorem Qyd:Qo Tryz.prog 59=some Qoh:=by kernel_rfl
theorem Qur:Qo Tryz.prog 60=some Qma:=by kernel_rfl
theorem Q1f:Qo Tryz.prog 61=some Qqy:=by kernel_rfl
theorem Qzu:Qo Tryz.prog 62=some Qpr:=by kernel_rfl
theorem Qzv:Qo Tryz.prog 63=some Qpu:=by kernel_rfl
theorem Qbd1:Qo Tryz.prog 64=some Q58:=by kernel_rfl
theorem Qus:Qo Tryz.prog 65=some Ql8:=by kernel_rfl
theorem Qye:Qo Tryz.prog 66=some Qol:=by kernel_rfl
theorem Q5e:Qo Tryz.prog 67=some Qvn:=by kernel_rfl
theorem Q2o:Qo Tryz.prog 68=some Qsl:=by kernel_rfl
theorem Q2p:Qo Tryz.prog 69=some Qso:=by kernel_rfl
theorem Qqj:Qo Tryz.prog 70=some Qj0:=by kernel_rfl
theorem Qqk:Qo Tryz.prog 71=some Qj1:=by kernel_rfl
theorem Q1g:Qo Tryz.prog 72=some Qqs:=by kernel_rfl
theorem Q1h:Qo Tryz.prog 73=some Qqx:=by kernel_rfl
theorem Q8j:Qo Tryz.prog 79=some Qzc:=by kernel_rfl
theorem Q2q:Qo Tryz.prog 85=some Qsb:=by kernel_rfl
theorem Qzw:Qo Tryz.prog 86=some Qpw:=by kernel_rfl
theorem Qut:Qo Tryz.prog 87=some Qmb:=by kernel_rfl
theorem Q8k:Qo Tryz.prog 88=some Qza:=by kernel_rfl
theorem Q9p:Qo Tryz.prog 89=some Q1x:=by kernel_rfl
theorem Quu:Qo Tryz.prog 90=some Ql5:=by kernel_rfl
theorem Qvz:Qo Tryz.prog 92=some Qm5:=by kernel_rfl
theorem Qyf:Qo Tryz.prog 93=some Qog:=by kernel_rfl
theorem Q3v:Qo Tryz.prog 94=some Qty:=by kernel_rfl
theorem Q8l:Qo Tryz.prog 95=some Qzf:=by kernel_rfl
theorem Q5f:Qo Tryz.prog 96=some Qvk:=by kernel_rfl
theorem Q1i:Qo Tryz.prog 97=some Qqr:=by kernel_rfl
theorem Qyg:Qo Tryz.prog 98=some Qof:=by kernel_rfl
theorem Q6i:Qo Tryz.prog 99=some Qxo:=by kernel_rfl
theorem Q3w:Qo Tryz.prog 100=some Qt0:=by kernel_rfl
theorem Qv0:Qo Tryz.prog 101=some Qm6:=by kernel_rfl
theorem Quv:Qo Tryz.prog 106=some Ql9:=by kernel_rfl
theorem Qrf:Qo Tryz.prog 107=some Qkq:=by kernel_rfl
theorem Q3x:Qo Tryz.prog 108=some Qtt:=by kernel_rfl
theorem Q3y:Qo Tryz.prog 109=some Qt4:=by kernel_rfl
theorem Qv1:Qo Tryz.prog 110=some Qm7:=by kernel_rfl
theorem Qyh:Qo Tryz.prog 111=some Qok:=by kernel_rfl
theorem Qsv:Qo Tryz.prog 112=some Qk4:=by kernel_rfl
theorem Qv2:Qo Tryz.prog 113=some Qm8:=by kernel_rfl
theorem Qw5:Qo Tryz.prog 114=some Qnv:=by kernel_rfl
theorem Q2r:Qo Tryz.prog 115=some Qsi:=by kernel_rfl
theorem Qsw:Qo Tryz.prog 116=some Qk9:=by kernel_rfl
theorem Qtg:Qo Tryz.prog 117=some Qlp:=by kernel_rfl
theorem Qql:Qo Tryz.prog 118=some Qjz:=by kernel_rfl
theorem Q5g:Qo Tryz.prog 119=some Qvi:=by kernel_rfl
theorem Q5h:Qo Tryz.prog 120=some Qvj:=by kernel_rfl
theorem Quw:Qo Tryz.prog 128=some Ql6:=by kernel_rfl
theorem Qzx:Qo Tryz.prog 129=some Qpx:=by kernel_rfl
theorem Qzy:Qo Tryz.prog 130=some Qpy:=by kernel_rfl
theorem Q6j:Qo Tryz.prog 131=some Qxr:=by kernel_rfl
theorem Qzz:Qo Tryz.prog 132=some Qpt:=by kernel_rfl
theorem Q8m:Qo Tryz.prog 133=some Qze:=by kernel_rfl
theorem Q8n:Qo Tryz.prog 134=some Qzd:=by kernel_rfl
theorem Q6k:Qo Tryz.prog 135=some Qxs:=by kernel_rfl
theorem Q2s:Qo Tryz.prog 136=some Qsd:=by kernel_rfl
theorem Q2t:Qo Tryz.prog 137=some Qsf:=by kernel_rfl
theorem Q2u:Qo Tryz.prog 138=some Qse:=by kernel_rfl
theorem Q6l:Qo Tryz.prog 139=some Qxn:=by kernel_rfl
theorem Q3z:Qo Tryz.prog 140=some Qtu:=by kernel_rfl
theorem Qyi:Qo Tryz.prog 143=some Qoi:=by kernel_rfl
theorem Qth:Qo Tryz.prog 144=some Qln:=by kernel_rfl
theorem Q30:Qo Tryz.prog 146=some Qt2:=by kernel_rfl
theorem Qv3:Qo Tryz.prog 147=some Qm9:=by kernel_rfl
theorem Qz0:Qo Tryz.prog 148=some Qp0:=by kernel_rfl
theorem Q1j:Qo Tryz.prog 149=some Qqw:=by kernel_rfl
theorem Q9q:Qo Tryz.prog 153=some Q1y:=by kernel_rfl
theorem Q31:Qo Tryz.prog 154=some Qtw:=by kernel_rfl
theorem Q6m:Qo Tryz.prog 155=some Qxq:=by kernel_rfl
theorem Qz1:Qo Tryz.prog 159=some Qpz:=by kernel_rfl
theorem Qyj:Qo Tryz.prog 160=some Qom:=by kernel_rfl
theorem Q8o:Qo Tryz.prog 171=some Qzb:=by kernel_rfl
theorem Q32:Qo Tryz.prog 172=some Qtv:=by kernel_rfl
theorem Qyk:Qo Tryz.prog 185=some Qon:=by kernel_rfl
end Go.Proofs
end
section
namespace Go.Abs
open Go Go.Sort
section plain
variable{β:Type}
def insB(a:β->β->Bool)(x:β):List β->List β
 |[]=>[x]
 |y::ys=>if a y x then y::insB a x ys else x::y::ys
def Qj5(a:β->β->Bool):List β->List β
 |[]=>[]
 |x::xs=>insB a x (Qj5 a xs)
def Q9r(a:β->β->Bool):List β->Bool
 |[]=>true
 |x::xs=>xs.all (fun y=>a x y||a y x)&&Q9r a xs
def Qbqe(b:β->Bool)(a:β->β->Bool)(l:List β):Option (List β):=if l.all b&&Q9r a l then some (Qj5 a l) else none
theorem Q8p(a:β->β->Bool)(x:β):∀l,(insB a x l).Perm (x::l)
 |[]=>.refl _
 |y::ys=>by
  unfold insB;split
  ·exact ((Q8p a x ys).cons y).trans (.swap x y ys)
  ·exact .refl _
theorem Qmy(a:β->β->Bool):∀l,(Qj5 a l).Perm l
 |[]=>.refl _
 |x::xs=>(Q8p a x _).trans ((Qmy a xs).cons x)
theorem Qny(a:β->β->Bool)(l:List β):(Qj5 a l).length=l.length:=(Qmy a l).length_eq
theorem Q8q{c:β->β->Bool}(h:SWO c)(x:β):∀l,l.Pairwise (fun a b=>c b a=false)->(insB c x l).Pairwise fun a b=>c b a=false
 |[],_=>by simp[insB]
 |y::ys,e=>by
  obtain⟨f,g⟩:=Zan.1 e;unfold insB;split
  ·rename_i hc;refine Zan.2 ⟨fun z d=>?_,Q8q h x ys g⟩;rcases Zaj.1 ((Q8p c x ys).mem_iff.1 d) with rfl|d
   ·cases hb:c z y with
    |false=>rfl
    |true=>have:=h.trans _ _ _ hc hb;rw[h.irrefl] at this;cases this
   ·exact f z d
  ·rename_i hc;have hc:c y x=false:=by cases h:c y x<;>simp_all
   refine Zan.2 ⟨fun z d=>?_,e⟩;rcases Zaj.1 d with rfl|d
   ·exact hc
   ·exact h.ntrans _ _ _ (f z d) hc
theorem Qnz{c:β->β->Bool}(h:SWO c):∀l,(Qj5 c l).Pairwise fun a b=>c b a=false
 |[]=>.nil
 |x::xs=>Q8q h x _ (Qnz h xs)
theorem Qbau{c:β->β->Bool}:∀{l:List β},Q9r c l=true->∀a b,a∈l->b∈l->c a b=false->c b a=false->a=b
 |[],_,a,_,ha,_,_,_=>by cases ha
 |x::xs,h,a,b,ha,hb,h1,d=>by
  simp only[Q9r,Zc,Zs] at h;obtain⟨e,f⟩:=h;rcases Zaj.1 ha with e1|ha'<;>rcases Zaj.1 hb with e2|hb'
  ·rw[e1,e2]
  ·subst e1;have:=e b hb';simp[h1,d] at this
  ·subst e2;have:=e a ha';simp[h1,d] at this
  ·exact Qbau f a b ha' hb' h1 d
theorem Qbb7{c:β->β->Bool}(h:SWO c){l m:List β}(e:Q9r c l=true)(hp:m.Perm l)(d:m.Pairwise fun a b=>c b a=false):m=Qj5 c l:=by
 refine List.Perm.eq_of_pairwise (le:=fun a b=>c b a=false) (fun a b ha hb g f=>?_) d (Qnz h l) (hp.trans (Qmy c l).symm);exact Qbau e a b (hp.mem_iff.1 ha) ((Qmy c l).mem_iff.1 hb) f g
theorem Qbht{α:Type}(f:α->β)(c:β->β->Bool)(x:α):∀l:List α,insB c (f x) (l.map f)=(insB (fun a b=>c (f a) (f b)) x l).map f
 |[]=>rfl
 |y::ys=>by
  simp only[Zb,insB];split
  ·simp only[Zb,Qbht f c x ys]
  ·rfl
theorem Qbav{α:Type}(f:α->β)(c:β->β->Bool):∀l:List α,Qj5 c (l.map f)=(Qj5 (fun a b=>c (f a) (f b)) l).map f
 |[]=>rfl
 |x::xs=>by simp only[Zb,Qj5,Qbav f c xs,Qbht]
theorem Qbd2{α:Type}(f:α->β)(c:β->β->Bool):∀l:List α,Q9r c (l.map f)=Q9r (fun a b=>c (f a) (f b)) l
 |[]=>rfl
 |x::xs=>by simp only[Zb,Q9r,Qbd2 f c xs,List.all_map];rfl
end plain
def Qhe(a b:Int):Bool:=decide (a<b)
end Go.Abs
end
section
namespace Go.Abs
def Qbn0(l:List Int):Option (List Int):=if l.length<=lim then some (Qj5 Qhe l) else none
def Q61(l:List Int):Option (List Int):=if l.length<=lim then some (Lib.compact l) else none
def okPl(x:Qd):Bool:=decide (-1<=x.ambient_/\x.ambient_<4611686018427387904 /\ -1<=x.language_/\x.language_<4611686018427387904)
def ltPl(x y:Qd):Bool:=decide (x.ambient_<y.ambient_\/(x.ambient_=y.ambient_/\x.language_<y.language_))
def Qbll(l:List Qd):Option (List Qd):=if l.length<=65536 then Qbqe okPl ltPl l else none
def keyL(l:List Int):List UInt8:=l.flatMap fun x=>Lib.decDigits x.toNat++[32]
def keyB(l:List Int):ByteArray:=⟨(keyL l).toArray⟩
def keyI(l:List Int):Option ByteArray:=if l.length<=lim/\∀x∈l,0<=x/\x<100 then some (keyB l) else none
def Qz2(l:List Int):List UInt8:=l.flatMap fun x=>Lib.itoa x++[32]
def keyT(l:List Int):ByteArray:=⟨(Qz2 l).toArray⟩
def Qbi3(x:Qd)(l:List Int):Option ByteArray:=if l.length+2<=lim/\∀z∈x.ambient_::x.language_::l,-9223372036854775808<=z/\z<=9223372036854775807 then some (keyT (x.ambient_::x.language_::l)) else none
end Go.Abs
end
section
namespace Go.Abs
open Go Go.Abs
set_option maxRecDepth 10000
set_option maxHeartbeats 4000000
def Q2:Nat:=1099511627776
def Qqz:=Qeu
def Qi1:=Qdl Q2
def Qks:=Qey Q2
def Qck:=Ql Qks
def Qh4:=Qdf Qck Q2
def Qfr:=Q9 Qi1 Qh4
def Qii:=Qcw Q2
def Qn0:=Qfv
def Qmk:=Qf4 Qii Qn0
def Qhr:=Qfl Qmk
def Qju:=Qei Q2
def Qml:=Qf5 Qfr Qhr Qju Q2
def Qn1:=Qgs Qfr Q2
def Qn2:=Qfw
def Qj6:=Qf6 Qii Qn2
def Qhc:=Qf7 Qj6 Q2
def Qpi:=Qhl Qhc Q2
def Qgl:=Qcr Q2
def Qsx:=Qfx
def Qmc:=Qhm Qsx
def Qkt:=Qed
def Qdc:=Qbe Qmc Qkt Q2
def Qgf:=Qbg Qdc
def Qg3:=Qc3 Qgf Q2
def Qcf:=Qp
def Qh5:=Qdg Qcf Qgf Q2
def Qbj:=Q7 Qn1 Qpi Qgl keyI Qg3 Qh5 Q2
def Qjg:=Qcv Qbj
def Qe8:=Qby Q2
def Qli:=Qfm
def Qlj:=Qfn
def Qjh:=Qgu Qe8 Qli Qlj
def Qiq:=Qdw Qcf Qjh Qdc Q2
def Qku:=Qez Qfr Qiq Q2
def Qla:=Qdn Q2
def Qlb:=Qdo Q2
def Qhx:=Qej
def Qmm:=Qe7 Q2
def Qgg:=Qdb
def Qhy:=Qek Qgg Q2
def Qlk:=Qfo Qlb Qla Qmm Qhx Qhy Q2
def Qn3:=Qgv Qcf Qlb Qla Q2
def Qdv:=Qbm Qfr Qn3 Qlk
def Qll:=Qfp Qdv Qcf Qku
def Qhz:=Qel Qml Qjg Qll
def Qkv:=Qdt Q2
def Qhs:=Qbo Qhz Qbj Qkv Q2
def Qba:=Qf
def Qc1:=Qu Qck
def Qfs:=Qbi Qcf Qc1 Qck Qba Qbn0 Q61 Q2
def Qgm:=Qcs Qfs
def Qd5:=Q0 Qba
def Qft:=Qcd Qba
def Qkm:=Qdh Q2
def Qgn:=Qct Qkm
def Qf8:=Qcm Qck Qd5 Qgn Qft Q2
def Qmd:=Qdu Qgf Q2
def Qhj:=Qc9 Qcf Qc1 Qba Q2
def Qe3:=Q5 Qba
def Qe5:=Qcu Qck Qba Qfs Q2
def Qj7:=Qcx Qhs Qgm Qbi3 Qf8 Qhj Qmd Qe3 Qcf Qc1 Qe5 Q2
def Qlq:=Qcn
def Q33:=Qt3
def Qji:=Qbu Qe3 Qc1 Qlq Qbll Q2
def Qor:=Qc0 Qbi3 Q2
def Qnb:=Qdp Qd5
def Qnc:=Qdq Q2
def Qlc:=Qcz Qnc
def Qn4:=Qd2 Qe3 Qji Q2
def Qos:=Qeb Qdv Qcf Qc1 Qck Qba Qji Qor Qlc Qnb Qn4 Q2
def Qg4:=Qce Q2
def Qsy:=Qff Q2
def Qv4:=Qge Qg4 Qsy
def Qsz:=Qfg Qhs Qos Qv4 Q2
def Qdr:=Qz Q2
def Qld:=Qem Qj7 Qsz Qdr Qqz
def Qd0:=Qbr Q2
def Qgw:=Qbw
def Q8:=Qk Q2
def Qeo:=Qcg Q2
def Qir:=Qdx Qeo Q8 Q2
def Qgx:=Qdy Q2
def Qe6:=Qbf Qeo Q8 Qgw Qir Qgx Q2
def Qhf:=Qc5 Qgw Qe6 Q2
def Qi2:=Qd6 Qd0 Qhf Q2
def Qi3:=Qd7 Qbj Qjg Q2
def Qd3:=Qt Q2
def Qgb:=Qbx Qd3 Q2
def Qh6:=Qdi Qd3 Q2
def Qgy:=Qb2 Qd3 Qh6 Q2
def Qis:=Qdz Qgy Qgb
def Qfy:=Qcj Qis
def Qjv:=Qcl Q2
def Qi4:=Qd8 Qd3 Qgy Qgb Q2
def Qf9:=Qco Qjv Q8 Qi4
def Qe9:=Qb8 Qdr Qfy Qf9 Q2
def Qfa:=Qb9 Qjv Q8 Q2
def Qhk:=Qda Qd3 Q2
def Qhg:=Qd9 Qd3 Q8 Q2
def Qfb:=Qca Qhk Qe9 Qfa Q8 Qhg Q2
def Qi5:=Qc6 Qba Q2
def Qt6:=Qjm Qg4
def Qkw:=Qe0 Qhs Qmd Qi5 Qck Qba Qt6 Qd5
def Qhd:=Qhb Qld Qi2 Qi3 Qj7 Qkw Qdr Qfb
def Qh7:=Qdj Qe6 Q2
def Qh8:=Qkl Qdv Qh7
def Qmz:=Qmx Q8 Q2
end Go.Abs
end
section
namespace Go.Proofs
open Go.Shelf
def Tryz.lays169_ren:Go.Shelf.Ren:=⟨fun|169=>105|n=>n,fun|70=>158|9=>9|0=>0|72=>161|37=>159|127=>206|3=>3|5=>5|n=>n,fun|n=>n⟩
theorem Tryz.lays169:Go.Proofs.Lays.n169 Tryz.prog Tryz.lays169_ren:={
 mixed:=by kernel_rfl
 f169:=Tryz.func105.trans (congrArg some (by kernel_rfl))
 t0:=Tryz.underlying0
 a0:=Tryz.isAgg0
 z0:=Tryz.sizeOf0
 v0:=Tryz.zeroValue0
 t3:=Tryz.underlying3
 a3:=Tryz.isAgg3
 z3:=Tryz.sizeOf3
 v3:=Tryz.zeroValue3
 t9:=Tryz.underlying9
 a9:=Tryz.isAgg9
 z9:=Tryz.sizeOf9
 v9:=Tryz.zeroValue9
 t37:=Tryz.underlying159
 a37:=Tryz.isAgg159
 z37:=Tryz.sizeOf159
 v37:=Tryz.zeroValue159
 t70:=Tryz.underlying158
 a70:=Tryz.isAgg158
 z70:=Tryz.sizeOf158
 v70:=Tryz.zeroValue158
 t72:=Tryz.underlying161
 a72:=Tryz.isAgg161
 z72:=Tryz.sizeOf161
 v72:=Tryz.zeroValue161
 t127:=Tryz.underlying206
 a127:=Tryz.isAgg206
 z127:=Tryz.sizeOf206
 v127:=Tryz.zeroValue206 }
theorem Tryz.Builder_Extra_169:Builder.Extra Tryz.prog Tryz.lays169_ren:={
 sizeBuilder:=by kernel_rfl
 liesBuilder:=by kernel_rfl
 t5:=Tryz.underlying5
 a5:=Tryz.isAgg5
 z5:=Tryz.sizeOf5
 v5:=Tryz.zeroValue5
 infoByte:=by kernel_rfl
 cellsByte:=by kernel_rfl
 sizeByte:=by kernel_rfl
 neB5:=by decide }
open Go.RowKit in
theorem Tryz.Builder_String_any_k(B b:Nat)(l:List UInt8)(w:World)(h:Lib.IsBuilderF 161 5 B b (Lib.byteCells l) w)(a:B<=w.heap.size):
  Calls Tryz.prog 105 #[.pointer (some ⟨b,0,none⟩)] w fun e w'=>e = .returned (.string ⟨l.toArray⟩)/\(Lib.IsBuilderF 161 5 B b (Lib.byteCells l) w'/\Below B w w'/\Lib.OthersKept 5 (some b) w w'):=Any.Builder_String_any_k Tryz.lays169 Tryz.Builder_Extra_169 B b l w h a
def Tryz.lays171_ren:Go.Shelf.Ren:=⟨fun|171=>103|243=>142|246=>157|283=>173|284=>174|285=>175|286=>176|129=>170|317=>191|318=>192|319=>193|320=>194|337=>199|338=>200|n=>n,fun|3=>3|9=>9|2=>2|4=>4|171=>234|0=>0|53=>233|37=>159|5=>5|173=>236|212=>251|51=>231|20=>20|213=>252|46=>214|232=>258|233=>259|n=>n,fun|17=>0|18=>1|19=>2|n=>n⟩
theorem Tryz.lays171:Go.Proofs.Lays.n171 Tryz.prog Tryz.lays171_ren:={
 mixed:=by kernel_rfl
 f129:=Tryz.func170.trans (congrArg some (by kernel_rfl))
 f171:=Tryz.func103.trans (congrArg some (by kernel_rfl))
 f243:=Tryz.func142.trans (congrArg some (by kernel_rfl))
 f246:=Tryz.func157.trans (congrArg some (by kernel_rfl))
 f283:=Tryz.func173.trans (congrArg some (by kernel_rfl))
 f284:=Tryz.func174.trans (congrArg some (by kernel_rfl))
 f285:=Tryz.func175.trans (congrArg some (by kernel_rfl))
 f286:=Tryz.func176.trans (congrArg some (by kernel_rfl))
 f317:=Tryz.func191.trans (congrArg some (by kernel_rfl))
 f318:=Tryz.func192.trans (congrArg some (by kernel_rfl))
 f319:=Tryz.func193.trans (congrArg some (by kernel_rfl))
 f320:=Tryz.func194.trans (congrArg some (by kernel_rfl))
 f337:=Tryz.func199.trans (congrArg some (by kernel_rfl))
 f338:=Tryz.func200.trans (congrArg some (by kernel_rfl))
 t0:=Tryz.underlying0
 a0:=Tryz.isAgg0
 z0:=Tryz.sizeOf0
 v0:=Tryz.zeroValue0
 t2:=Tryz.underlying2
 a2:=Tryz.isAgg2
 z2:=Tryz.sizeOf2
 v2:=Tryz.zeroValue2
 t3:=Tryz.underlying3
 a3:=Tryz.isAgg3
 z3:=Tryz.sizeOf3
 v3:=Tryz.zeroValue3
 t4:=Tryz.underlying4
 a4:=Tryz.isAgg4
 z4:=Tryz.sizeOf4
 v4:=Tryz.zeroValue4
 t5:=Tryz.underlying5
 a5:=Tryz.isAgg5
 z5:=Tryz.sizeOf5
 v5:=Tryz.zeroValue5
 t9:=Tryz.underlying9
 a9:=Tryz.isAgg9
 z9:=Tryz.sizeOf9
 v9:=Tryz.zeroValue9
 t20:=Tryz.underlying20
 a20:=Tryz.isAgg20
 z20:=Tryz.sizeOf20
 v20:=Tryz.zeroValue20
 t37:=Tryz.underlying159
 a37:=Tryz.isAgg159
 z37:=Tryz.sizeOf159
 v37:=Tryz.zeroValue159
 t46:=Tryz.underlying214
 a46:=Tryz.isAgg214
 z46:=Tryz.sizeOf214
 v46:=Tryz.zeroValue214
 t51:=Tryz.underlying231
 a51:=Tryz.isAgg231
 z51:=Tryz.sizeOf231
 v51:=Tryz.zeroValue231
 t53:=Tryz.underlying233
 a53:=Tryz.isAgg233
 z53:=Tryz.sizeOf233
 v53:=Tryz.zeroValue233
 t171:=Tryz.underlying234
 a171:=Tryz.isAgg234
 z171:=Tryz.sizeOf234
 v171:=Tryz.zeroValue234
 t173:=Tryz.underlying236
 a173:=Tryz.isAgg236
 z173:=Tryz.sizeOf236
 v173:=Tryz.zeroValue236
 t212:=Tryz.underlying251
 a212:=Tryz.isAgg251
 z212:=Tryz.sizeOf251
 v212:=Tryz.zeroValue251
 t213:=Tryz.underlying252
 a213:=Tryz.isAgg252
 z213:=Tryz.sizeOf252
 t232:=Tryz.underlying258
 a232:=Tryz.isAgg258
 z232:=Tryz.sizeOf258
 v232:=Tryz.zeroValue258
 t233:=Tryz.underlying259
 a233:=Tryz.isAgg259
 z233:=Tryz.sizeOf259
 v233:=Tryz.zeroValue259
 g17:=by kernel_rfl
 g18:=by kernel_rfl
 g19:=by kernel_rfl }
open Go.RowKit Go.Sort Go.Lib in
theorem Tryz.strconv_Itoa_small(i:Nat)(a:i<100)(w:World):
  Calls Tryz.prog 103 #[.int .i64 i] w fun e w'=>e = .returned (.string ⟨(Lib.decDigits i).toArray⟩)/\w'=w:=Any.strconv_Itoa_small Tryz.lays171 i a w
def Tryz.laysNm220_ren:Go.Shelf.Ren:=⟨fun|20=>125|n=>n,fun|22=>32|3=>3|4=>4|0=>0|n=>n,fun|n=>n⟩
theorem Tryz.laysNm220:Go.Proofs.Lays2.n20 Tryz.prog Tryz.laysNm220_ren:={
 mixed:=by kernel_rfl
 f20:=Tryz.func125.trans (congrArg some (by kernel_rfl))
 t0:=Tryz.underlying0
 a0:=Tryz.isAgg0
 z0:=Tryz.sizeOf0
 v0:=Tryz.zeroValue0
 t3:=Tryz.underlying3
 a3:=Tryz.isAgg3
 z3:=Tryz.sizeOf3
 v3:=Tryz.zeroValue3
 t4:=Tryz.underlying4
 a4:=Tryz.isAgg4
 z4:=Tryz.sizeOf4
 v4:=Tryz.zeroValue4
 t22:=Tryz.underlying32
 a22:=Tryz.isAgg32
 z22:=Tryz.sizeOf32
 v22:=Tryz.zeroValue32
 i3:=by kernel_rfl }
open Go.RowKit Go.Lib Go.Sort in
theorem Tryz.slices_Compact_int(a off c:Nat)(b:List Int)(w:World)(g:Holds (Value.int .i64) w a off b.toArray)(f:b.length<=9223372036854775807)(d:b.length<=c):
  Calls Tryz.prog 125 #[.slice (some ⟨a,off,none⟩) b.length c] w fun e w'=>e = .returned (.slice (some ⟨a,off,none⟩) (Lib.compact b).length c)/\∃q,w'=putRow (Value.int .i64) (Sort.ahead w q) a off (Lib.compact b++List.replicate (b.length-(Lib.compact b).length) 0).toArray:=Any.slices_Compact_int Tryz.laysNm220 a off c b w g f d
open Go.RowKit Go.Lib Go.Sort in
theorem Tryz.slices_Compact_int_empty(a:Option Addr)(b:Nat)(w:World):
  Calls Tryz.prog 125 #[.slice a 0 b] w fun e w'=>e = .returned (.slice a 0 b)/\w'=w:=Any.slices_Compact_int_empty Tryz.laysNm220 a b w
def Tryz.laysSlM5_f124_ren:Go.Shelf.Ren:=⟨fun|5=>124|8=>152|7=>151|19=>169|20=>170|10=>161|11=>162|12=>163|13=>164|14=>165|15=>166|16=>153|17=>167|18=>168|30=>186|31=>187|32=>188|33=>189|34=>190|35=>171|40=>198|n=>n,fun|23=>32|25=>3|3=>3|32=>214|22=>32|0=>0|44=>231|46=>233|4=>4|36=>225|35=>224|41=>143|5=>5|9=>9|53=>243|57=>247|63=>255|64=>113|n=>n,fun|n=>n⟩
theorem Tryz.laysSlM5_f124:Go.Proofs.SlLaysM.n5 Tryz.prog Tryz.laysSlM5_f124_ren:={
 mixed:=by kernel_rfl
 f5:=⟨Tryz.f124.name,by decide,Tryz.func124.trans (congrArg some (by kernel_rfl))⟩
 f7:=⟨Tryz.f151.name,by decide,Tryz.func151.trans (congrArg some (by kernel_rfl))⟩
 f8:=Tryz.func152.trans (congrArg some (by kernel_rfl))
 f10:=⟨Tryz.f161.name,by decide,Tryz.func161.trans (congrArg some (by kernel_rfl))⟩
 f11:=⟨Tryz.f162.name,by decide,Tryz.func162.trans (congrArg some (by kernel_rfl))⟩
 f12:=⟨Tryz.f163.name,by decide,Tryz.func163.trans (congrArg some (by kernel_rfl))⟩
 f13:=⟨Tryz.f164.name,by decide,Tryz.func164.trans (congrArg some (by kernel_rfl))⟩
 f14:=⟨Tryz.f165.name,by decide,Tryz.func165.trans (congrArg some (by kernel_rfl))⟩
 f15:=⟨Tryz.f166.name,by decide,Tryz.func166.trans (congrArg some (by kernel_rfl))⟩
 f16:=⟨Tryz.f153.name,by decide,Tryz.func153.trans (congrArg some (by kernel_rfl))⟩
 f17:=⟨Tryz.f167.name,by decide,Tryz.func167.trans (congrArg some (by kernel_rfl))⟩
 f18:=⟨Tryz.f168.name,by decide,Tryz.func168.trans (congrArg some (by kernel_rfl))⟩
 f19:=Tryz.func169.trans (congrArg some (by kernel_rfl))
 f20:=Tryz.func170.trans (congrArg some (by kernel_rfl))
 f30:=⟨Tryz.f186.name,by decide,Tryz.func186.trans (congrArg some (by kernel_rfl))⟩
 f31:=Tryz.func187.trans (congrArg some (by kernel_rfl))
 f32:=Tryz.func188.trans (congrArg some (by kernel_rfl))
 f33:=⟨Tryz.f189.name,by decide,Tryz.func189.trans (congrArg some (by kernel_rfl))⟩
 f34:=⟨Tryz.f190.name,by decide,Tryz.func190.trans (congrArg some (by kernel_rfl))⟩
 f35:=⟨Tryz.f171.name,by decide,Tryz.func171.trans (congrArg some (by kernel_rfl))⟩
 f40:=⟨Tryz.f198.name,by decide,Tryz.func198.trans (congrArg some (by kernel_rfl))⟩
 t0:=Tryz.underlying0
 a0:=Tryz.isAgg0
 z0:=Tryz.sizeOf0
 v0:=Tryz.zeroValue0
 t3:=Tryz.underlying3
 a3:=Tryz.isAgg3
 z3:=Tryz.sizeOf3
 v3:=Tryz.zeroValue3
 t4:=Tryz.underlying4
 a4:=Tryz.isAgg4
 z4:=Tryz.sizeOf4
 v4:=Tryz.zeroValue4
 t5:=Tryz.underlying5
 a5:=Tryz.isAgg5
 z5:=Tryz.sizeOf5
 v5:=Tryz.zeroValue5
 t9:=Tryz.underlying9
 a9:=Tryz.isAgg9
 z9:=Tryz.sizeOf9
 v9:=Tryz.zeroValue9
 t22:=Tryz.underlying32
 a22:=Tryz.isAgg32
 z22:=Tryz.sizeOf32
 v22:=Tryz.zeroValue32
 t23:=Tryz.underlying32
 a23:=Tryz.isAgg32
 z23:=Tryz.sizeOf32
 v23:=Tryz.zeroValue32
 t25:=Tryz.underlying3
 a25:=Tryz.isAgg3
 z25:=Tryz.sizeOf3
 v25:=Tryz.zeroValue3
 t32:=Tryz.underlying214
 a32:=Tryz.isAgg214
 z32:=Tryz.sizeOf214
 v32:=Tryz.zeroValue214
 t35:=Tryz.underlying224
 a35:=Tryz.isAgg224
 z35:=Tryz.sizeOf224
 v35:=Tryz.zeroValue224
 t36:=Tryz.underlying225
 a36:=Tryz.isAgg225
 z36:=Tryz.sizeOf225
 v36:=Tryz.zeroValue225
 t41:=Tryz.underlying143
 a41:=Tryz.isAgg143
 z41:=Tryz.sizeOf143
 v41:=Tryz.zeroValue143
 t44:=Tryz.underlying231
 a44:=Tryz.isAgg231
 z44:=Tryz.sizeOf231
 v44:=Tryz.zeroValue231
 t46:=Tryz.underlying233
 a46:=Tryz.isAgg233
 z46:=Tryz.sizeOf233
 v46:=Tryz.zeroValue233
 t53:=Tryz.underlying243
 a53:=Tryz.isAgg243
 z53:=Tryz.sizeOf243
 v53:=Tryz.zeroValue243
 t57:=Tryz.underlying247
 a57:=Tryz.isAgg247
 z57:=Tryz.sizeOf247
 v57:=Tryz.zeroValue247
 t63:=Tryz.underlying255
 a63:=Tryz.isAgg255
 z63:=Tryz.sizeOf255
 v63:=Tryz.zeroValue255
 t64:=Tryz.underlying113
 a64:=Tryz.isAgg113
 z64:=Tryz.sizeOf113
 v64:=Tryz.zeroValue113 }
open Go.Sort Go.RowKit in
theorem Tryz.slices_Sort_int(a off d:Nat)(b:List Int)(w:World)(g:Holds (Value.int .i64) w a off b.toArray)(c:a<w.heap.size)(f:b.length<4611686018427387904):
  Calls Tryz.prog 124 #[.slice (some ⟨a,off,none⟩) b.length d] w fun e w' =>
   e = .returned (.tuple #[])/\∃n os,w'=grow (putRow (Value.int .i64) (Sort.ahead w n) a off (b.mergeSort fun x y=>decide (x<=y)).toArray) os:=AnyM.slices_Sort_int Tryz.laysSlM5_f124 a off d b w g c f
open Go.RowKit Go.Sort in
theorem Tryz.slices_Sort_int_none(p:Option Addr)(a:Nat)(w:World):
  Calls Tryz.prog 124 #[.slice p 0 a] w fun e w'=>e = .returned (.tuple #[])/\w'=w:=AnyM.slices_Sort_int_none Tryz.laysSlM5_f124 p a w
def Tryz.sortP_ren:Go.Shelf.Ren:=⟨fun|6=>145|15=>152|14=>158|28=>169|29=>170|20=>177|21=>178|22=>179|23=>180|24=>181|25=>182|26=>183|27=>184|46=>195|47=>187|48=>188|49=>196|50=>197|57=>201|n=>n,fun|22=>175|24=>96|25=>211|3=>3|39=>214|0=>0|53=>231|55=>233|4=>4|46=>225|45=>224|50=>143|5=>5|9=>9|66=>243|70=>247|76=>255|77=>113|n=>n,fun|n=>n⟩
theorem Tryz.sortP:Go.Proofs.SlLaysF0.n6 Tryz.prog Tryz.sortP_ren:={
 mixed:=by kernel_rfl
 f6:=⟨Tryz.f145.name,by decide,Tryz.func145.trans (congrArg some (by kernel_rfl))⟩
 f14:=⟨Tryz.f158.name,by decide,Tryz.func158.trans (congrArg some (by kernel_rfl))⟩
 f15:=Tryz.func152.trans (congrArg some (by kernel_rfl))
 f20:=⟨Tryz.f177.name,by decide,Tryz.func177.trans (congrArg some (by kernel_rfl))⟩
 f21:=⟨Tryz.f178.name,by decide,Tryz.func178.trans (congrArg some (by kernel_rfl))⟩
 f22:=⟨Tryz.f179.name,by decide,Tryz.func179.trans (congrArg some (by kernel_rfl))⟩
 f23:=⟨Tryz.f180.name,by decide,Tryz.func180.trans (congrArg some (by kernel_rfl))⟩
 f24:=⟨Tryz.f181.name,by decide,Tryz.func181.trans (congrArg some (by kernel_rfl))⟩
 f25:=⟨Tryz.f182.name,by decide,Tryz.func182.trans (congrArg some (by kernel_rfl))⟩
 f26:=⟨Tryz.f183.name,by decide,Tryz.func183.trans (congrArg some (by kernel_rfl))⟩
 f27:=⟨Tryz.f184.name,by decide,Tryz.func184.trans (congrArg some (by kernel_rfl))⟩
 f28:=Tryz.func169.trans (congrArg some (by kernel_rfl))
 f29:=Tryz.func170.trans (congrArg some (by kernel_rfl))
 f46:=⟨Tryz.f195.name,by decide,Tryz.func195.trans (congrArg some (by kernel_rfl))⟩
 f47:=Tryz.func187.trans (congrArg some (by kernel_rfl))
 f48:=Tryz.func188.trans (congrArg some (by kernel_rfl))
 f49:=⟨Tryz.f196.name,by decide,Tryz.func196.trans (congrArg some (by kernel_rfl))⟩
 f50:=⟨Tryz.f197.name,by decide,Tryz.func197.trans (congrArg some (by kernel_rfl))⟩
 f57:=⟨Tryz.f201.name,by decide,Tryz.func201.trans (congrArg some (by kernel_rfl))⟩
 t0:=Tryz.underlying0
 a0:=Tryz.isAgg0
 z0:=Tryz.sizeOf0
 v0:=Tryz.zeroValue0
 t3:=Tryz.underlying3
 a3:=Tryz.isAgg3
 z3:=Tryz.sizeOf3
 v3:=Tryz.zeroValue3
 t4:=Tryz.underlying4
 a4:=Tryz.isAgg4
 z4:=Tryz.sizeOf4
 v4:=Tryz.zeroValue4
 t5:=Tryz.underlying5
 a5:=Tryz.isAgg5
 z5:=Tryz.sizeOf5
 v5:=Tryz.zeroValue5
 t9:=Tryz.underlying9
 a9:=Tryz.isAgg9
 z9:=Tryz.sizeOf9
 v9:=Tryz.zeroValue9
 t22:=Tryz.underlying175
 a22:=Tryz.isAgg175
 z22:=Tryz.sizeOf175
 v22:=Tryz.zeroValue175
 t25:=Tryz.underlying211
 a25:=Tryz.isAgg211
 z25:=Tryz.sizeOf211
 v25:=Tryz.zeroValue211
 t39:=Tryz.underlying214
 a39:=Tryz.isAgg214
 z39:=Tryz.sizeOf214
 v39:=Tryz.zeroValue214
 t45:=Tryz.underlying224
 a45:=Tryz.isAgg224
 z45:=Tryz.sizeOf224
 v45:=Tryz.zeroValue224
 t46:=Tryz.underlying225
 a46:=Tryz.isAgg225
 z46:=Tryz.sizeOf225
 v46:=Tryz.zeroValue225
 t50:=Tryz.underlying143
 a50:=Tryz.isAgg143
 z50:=Tryz.sizeOf143
 v50:=Tryz.zeroValue143
 t53:=Tryz.underlying231
 a53:=Tryz.isAgg231
 z53:=Tryz.sizeOf231
 v53:=Tryz.zeroValue231
 t55:=Tryz.underlying233
 a55:=Tryz.isAgg233
 z55:=Tryz.sizeOf233
 v55:=Tryz.zeroValue233
 t66:=Tryz.underlying243
 a66:=Tryz.isAgg243
 z66:=Tryz.sizeOf243
 v66:=Tryz.zeroValue243
 t70:=Tryz.underlying247
 a70:=Tryz.isAgg247
 z70:=Tryz.sizeOf247
 v70:=Tryz.zeroValue247
 t76:=Tryz.underlying255
 a76:=Tryz.isAgg255
 z76:=Tryz.sizeOf255
 v76:=Tryz.zeroValue255
 t77:=Tryz.underlying113
 a77:=Tryz.isAgg113
 z77:=Tryz.sizeOf113
 v77:=Tryz.zeroValue113 }
def Tryz.lays167_ren:Go.Shelf.Ren:=⟨fun|167=>104|240=>141|276=>156|n=>n,fun|0=>0|4=>4|5=>5|9=>9|20=>20|37=>159|70=>158|72=>161|75=>163|80=>168|164=>218|n=>n,fun|n=>n⟩
theorem Tryz.lays167:Go.Proofs.Lays.n167 Tryz.prog Tryz.lays167_ren:={
 mixed:=by kernel_rfl
 f167:=Tryz.func104.trans (congrArg some (by kernel_rfl))
 f240:=Tryz.func141.trans (congrArg some (by kernel_rfl))
 f276:=Tryz.func156.trans (congrArg some (by kernel_rfl))
 t0:=Tryz.underlying0
 a0:=Tryz.isAgg0
 z0:=Tryz.sizeOf0
 v0:=Tryz.zeroValue0
 t4:=Tryz.underlying4
 a4:=Tryz.isAgg4
 z4:=Tryz.sizeOf4
 v4:=Tryz.zeroValue4
 t5:=Tryz.underlying5
 a5:=Tryz.isAgg5
 z5:=Tryz.sizeOf5
 v5:=Tryz.zeroValue5
 t9:=Tryz.underlying9
 a9:=Tryz.isAgg9
 z9:=Tryz.sizeOf9
 v9:=Tryz.zeroValue9
 t20:=Tryz.underlying20
 a20:=Tryz.isAgg20
 z20:=Tryz.sizeOf20
 v20:=Tryz.zeroValue20
 t37:=Tryz.underlying159
 a37:=Tryz.isAgg159
 z37:=Tryz.sizeOf159
 v37:=Tryz.zeroValue159
 t70:=Tryz.underlying158
 a70:=Tryz.isAgg158
 z70:=Tryz.sizeOf158
 v70:=Tryz.zeroValue158
 t72:=Tryz.underlying161
 a72:=Tryz.isAgg161
 z72:=Tryz.sizeOf161
 v72:=Tryz.zeroValue161
 t75:=Tryz.underlying163
 a75:=Tryz.isAgg163
 z75:=Tryz.sizeOf163
 v75:=Tryz.zeroValue163
 t164:=Tryz.underlying218
 a164:=Tryz.isAgg218
 z164:=Tryz.sizeOf218
 v164:=Tryz.zeroValue218 }
theorem Tryz.Builder_Extra_167:Builder.Extra Tryz.prog Tryz.lays167_ren:={
 sizeBuilder:=by kernel_rfl
 liesBuilder:=by kernel_rfl
 t5:=Tryz.underlying5
 a5:=Tryz.isAgg5
 z5:=Tryz.sizeOf5
 v5:=Tryz.zeroValue5
 infoByte:=by kernel_rfl
 cellsByte:=by kernel_rfl
 sizeByte:=by kernel_rfl
 neB5:=by decide }
open Go.RowKit in
theorem Tryz.Builder_WriteByte_k(B b:Nat)(bs:List Value)(c:Int)(w:World)(h:Lib.IsBuilderF 161 5 B b bs w)(a:bs.length+1<=140737488355328)(d:B<=w.heap.size):
  Calls Tryz.prog 104 #[.pointer (some ⟨b,0,none⟩),.int .u8 c] w fun e w'=>e = .returned .nilIface/\(Lib.BuilderAtF 161 5 B b (.pointer (some ⟨b,0,none⟩)) (bs++[.int .u8 c]) w'/\Below B w w'/\Lib.OthersKept 5 (some b) w w'):=Any.Builder_WriteByte_k Tryz.lays167 Tryz.Builder_Extra_167 B b bs c w h a d
def Tryz.lays166_ren:Go.Shelf.Ren:=⟨fun|166=>102|240=>141|276=>156|n=>n,fun|0=>0|3=>3|4=>4|5=>5|9=>9|20=>20|37=>159|70=>158|72=>161|75=>163|80=>168|164=>218|n=>n,fun|n=>n⟩
theorem Tryz.lays166:Go.Proofs.Lays.n166 Tryz.prog Tryz.lays166_ren:={
 mixed:=by kernel_rfl
 f166:=Tryz.func102.trans (congrArg some (by kernel_rfl))
 f240:=Tryz.func141.trans (congrArg some (by kernel_rfl))
 f276:=Tryz.func156.trans (congrArg some (by kernel_rfl))
 t0:=Tryz.underlying0
 a0:=Tryz.isAgg0
 z0:=Tryz.sizeOf0
 v0:=Tryz.zeroValue0
 t3:=Tryz.underlying3
 a3:=Tryz.isAgg3
 z3:=Tryz.sizeOf3
 v3:=Tryz.zeroValue3
 t4:=Tryz.underlying4
 a4:=Tryz.isAgg4
 z4:=Tryz.sizeOf4
 v4:=Tryz.zeroValue4
 t9:=Tryz.underlying9
 a9:=Tryz.isAgg9
 z9:=Tryz.sizeOf9
 v9:=Tryz.zeroValue9
 t20:=Tryz.underlying20
 a20:=Tryz.isAgg20
 z20:=Tryz.sizeOf20
 v20:=Tryz.zeroValue20
 t37:=Tryz.underlying159
 a37:=Tryz.isAgg159
 z37:=Tryz.sizeOf159
 v37:=Tryz.zeroValue159
 t70:=Tryz.underlying158
 a70:=Tryz.isAgg158
 z70:=Tryz.sizeOf158
 v70:=Tryz.zeroValue158
 t72:=Tryz.underlying161
 a72:=Tryz.isAgg161
 z72:=Tryz.sizeOf161
 v72:=Tryz.zeroValue161
 t75:=Tryz.underlying163
 a75:=Tryz.isAgg163
 z75:=Tryz.sizeOf163
 v75:=Tryz.zeroValue163
 t164:=Tryz.underlying218
 a164:=Tryz.isAgg218
 z164:=Tryz.sizeOf218
 v164:=Tryz.zeroValue218 }
theorem Tryz.Builder_Extra_166:Builder.Extra Tryz.prog Tryz.lays166_ren:={
 sizeBuilder:=by kernel_rfl
 liesBuilder:=by kernel_rfl
 t5:=Tryz.underlying5
 a5:=Tryz.isAgg5
 z5:=Tryz.sizeOf5
 v5:=Tryz.zeroValue5
 infoByte:=by kernel_rfl
 cellsByte:=by kernel_rfl
 sizeByte:=by kernel_rfl
 neB5:=by decide }
open Go.RowKit in
theorem Tryz.Builder_WriteString_k(B b:Nat)(bs:List Value)(s:ByteArray)(w:World)(h:Lib.IsBuilderF 161 5 B b bs w)(a:bs.length+s.size<=140737488355328)(c:B<=w.heap.size):
  Calls Tryz.prog 102 #[.pointer (some ⟨b,0,none⟩),.string s] w fun e w'=>e = .returned (.tuple #[.int .i64 s.size,.nilIface])/\(Lib.BuilderAtF 161 5 B b (.pointer (some ⟨b,0,none⟩)) (bs++Lib.strCells s) w'/\Below B w w'/\Lib.OthersKept 5 (some b) w w'):=Any.Builder_WriteString_k Tryz.lays166 Tryz.Builder_Extra_166 B b bs s w h a c
end Go.Proofs
end
section
namespace Go.Abs
open Go Go.Sort Go.RowKit
theorem Q8r{P:Program}{f:FuncId}{ex:Array Value}{exV:List V}{sz nb:Nat}{M:Mem}(hb:Qiv P f=true)(l:∀g w us,RFs g w exV us->us=ex.toList)(h:∀(p:Option Addr)(b:Nat)(w:World),Calls P f (#[.slice p 0 b]++ex) w fun n w'=>n = .returned (.tuple #[])/\w'=w)(e:V.dems exV=exV:=by rfl):
  ACalls P f (.d (.lst sz [])::exV) M nb (.tup []) M nb:=by
 refine ACalls.mk' hb (Ze _) (by simp only[V.dems,V.dem,e]) fun w g us r i j s m=>?_;obtain⟨q,o,rfl,k,c⟩:=j;have u:=l _ _ _ c;subst u;have t:∃p b,q = .slice p 0 b:=by
  have:=RF_d.1 k;obtain⟨a,b,rfl,_,_⟩:=this;exact⟨a,b,rfl⟩
 obtain⟨p,b,rfl⟩:=t;have v:(Value.slice p 0 b::ex.toList).toArray = #[.slice p 0 b]++ex:=by apply Array.ext';simp
 rw[v];refine (h p b w).mono ?_;rintro n w' ⟨rfl,rfl⟩;exact⟨_,g,rfl,r,⟨[],rfl,rfl⟩,trivial,i,Fr.refl _ _ _⟩
theorem Qbf2(l:List Int):(l.mergeSort fun x y=>decide (x<=y))=Qj5 Qhe l:=by
 have f:Go.Sort.SWO Qhe:=⟨fun x=>by simp[Qhe],fun x y z e d=>by simp[Qhe] at *;omega,fun x y z e d=>by simp[Qhe] at *;omega⟩;refine List.Perm.eq_of_pairwise (le:=fun a b=>Qhe b a=false) (fun a b _ _ e d=>by simp[Qhe] at *;omega) ?_ (Qnz f l) ((List.mergeSort_perm _ _).trans (Qmy _ l).symm);have:=List.pairwise_mergeSort (le:=fun x y:Int=>decide (x<=y)) (fun a b c e d=>by simp at *;omega) (fun a b=>by simp;omega) l;exact this.imp fun h=>by simp[Qhe] at *;omega
end Go.Abs
end
section
namespace Go.Abs
open Go Go.Sort Go.Shelf Go.RowKit Go.Lib Go.Proofs
theorem Qbd3{α:Type}[Inhabited α]{enc:α->List Value}{k:Nat}(b:∀x,(enc x).length=k)(d:0<k):∀(l:List α)(t:Nat),t<l.length*k->(l.map enc).flatten[t]? = some (enc l[t / k]!)[t % k]!
 |[],t,h=>by simp at h
 |x::xs,t,h=>by
  rw[Zb,Zbb];by_cases c:t<k
  ·rw[Zbg (by rw[b];exact c),Nat.div_eq_of_lt c,Nat.mod_eq_of_lt c];have:t<(enc x).length:=by rw[b];exact c
   simp[this]
  ·have a:k<=t:=by omega
   have e:t-k<xs.length*k:=by simp only[Zx,Zu,Nat.one_mul] at h;omega
   rw[Zax (by rw[b];exact a),b,Qbd3 b d xs (t-k) e];have f:t / k=(t-k) / k+1:=by rw[<-Nat.add_div_right _ d,Nat.sub_add_cancel a]
   have e2:t % k=(t-k) % k:=by rw[Nat.mod_eq_sub_mod a]
   rw[f,e2];simp
theorem Qbd4{α:Type}[Inhabited α]{enc:α->List Value}{k:Nat}(b:∀x,(enc x).length=k)(h:0<k)(l:List α):flatK enc k l.toArray=(l.map enc).flatten.toArray:=by
 have e:(l.map enc).flatten.length=l.length*k:=by
  induction l with
  |nil=>simp
  |cons x xs c=>rw[Zb,Zbb,Zy,c,b];simp[Zu];omega
 refine ext_get! (by simp[e]) fun t d=>?_;have a : t<l.length*k:=by simpa using d
 rw[get_flatK _ _ _ _ (by simpa using a)];have:=Qbd3 b h l t a;obtain⟨g,f⟩:=Zn.1 this;rw[getElem!_pos _ t (by simpa using g)];simp only[List.getElem_toArray,f];simp
theorem Qbd5{α:Type}(e:α->List D)(xs:List α):rowV e xs=(xs.map fun x=>(e x).map D.val).flatten:=by
 unfold rowV;rw[List.map_flatten,Zap];rfl
theorem Q9s{P:Program}{o:Ren}{α:Type}[Inhabited α](L:SlLaysF0.n6 P o){k:Nat}(S:∀w,(isAgg (o.t 24)).run P w = .ok true w)(zE:∀w,(Go.sizeOf (o.t 24)).run P w = .ok k w)(e:α->List D)(J:∀x,(e x).length=k)(E:0<k)(z:∀x,(e x).all D.scalar=true)(b:α->α->Int)(N:SWO (ltOf b))(g:Nat)(p:Array Value)(R:∀args w,(callFunc g args).run P w = .ok (.enter g args) w)(l:∀(x y:α)(W:World),Calls P g (#[.agg ((e x).map D.val).toArray,.agg ((e y).map D.val).toArray]++p) W fun r w'=>r = .returned (.int .i64 (b x y))/\∃q s,w'=grow (W.drewN q) s):
  Qblc P (o.f 6) e #[.func (.func g) #[] p] (fun xs=>(pdq (ltOf b) xs.toArray 0 xs.length (Lib.bitLen xs.length) true true).toList):=by
 intro c B xs w hc m u;have a:∀x,((fun x=>(e x).map D.val) x).length=k:=fun x=>by simp[J]
 have Q:∀x:α,∀v∈(e x).map D.val,v.oneCell'=true:=by
  intro x v I;obtain⟨d,M,rfl⟩:=Zl.1 I;exact Qbf0 (Zs.1 (z x) d M)
 have O:HoldsK (fun x=>(e x).map D.val) k w c 0 xs.toArray:=by
  unfold HoldsK;rw[Qbd4 a E,<-Qbd5];intro j C;have i : j<(rowV e xs).length:=by simpa using C
  obtain⟨H,F⟩:=hc j i;rw[Zz];refine⟨H.trans ?_,F⟩;rw[Zk i,getElem!_pos _ j C];rfl
 have A:CmpLays P g p (fun x=>(e x).map D.val) k b c 0 xs.toArray.size w:=fun _ _ _ _ x y=>l x y _;have:=AnyQ.slices_SortFunc_eq L k S zE (fun x=>(e x).map D.val) a Q b N g p c 0 B xs.toArray w R A O m (by simpa using u);refine this.mono ?_;rintro r w' ⟨rfl,n,os,rfl⟩;refine⟨rfl,n,os,?_⟩;unfold sortWorldK putRowK;have h:flatK (fun x=>(e x).map D.val) k (pdq (ltOf b) xs.toArray 0 xs.toArray.size (Lib.bitLen xs.toArray.size) true true)=(rowV e (pdq (ltOf b) xs.toArray 0 xs.length (Lib.bitLen xs.length) true true).toList).toArray:=by
  rw[Qbd5,<-Qbd4 a E];simp
 rw[h]
section
variable{α:Type}[Inhabited α]
theorem Qbb8{c:α->α->Bool}(o:SWO c)(xs:List α)(k:Nat):(pdq c xs.toArray 0 xs.length k true true).toList.Perm xs/\(pdq c xs.toArray 0 xs.length k true true).toList.Pairwise fun a b=>c b a=false:=by
 obtain⟨⟨q,_,h⟩,p⟩:=pdq_sorts c o xs.toArray 0 xs.length k true true (Zv _) (by simp) (Or.inl rfl);generalize pdq c xs.toArray 0 xs.length k true true=d at *
 have l:d.size=xs.length:=by simpa using q
 refine⟨?_,?_⟩
 ·have r:d.extract 0 xs.length=d:=by rw[<-l];exact Array.extract_size
  have e2:xs.toArray.extract 0 xs.length=xs.toArray:=by
   have:xs.length=xs.toArray.size:=by simp
   rw[this];exact Array.extract_size
  rw[r,e2] at h;simpa using h
 ·rw[Zbj];intro i j n m f;have g : i<d.size:=by simpa using n
  have e : j<d.size:=by simpa using m
  have:=p i j (Zv _) f (by omega);rw[getElem!_pos d i g,getElem!_pos d j e] at this;simpa using this
theorem Qblm{a:α->α->Bool}(b:SWO a)(xs:List α)(k:Nat)(c:Q9r a xs=true):(pdq a xs.toArray 0 xs.length k true true).toList=Qj5 a xs :=
 Qbb7 b c (Qbb8 b xs k).1 (Qbb8 b xs k).2
end
theorem Qbln{f:Type}{P:Program}{c:Nat}{e:f->List D}{sz N:Nat}{n:f->Bool}{o:f->f->Bool}[Inhabited {x:f // n x=true}]{d : {x:f // n x=true}->{x:f // n x=true}->Bool}(O:N<4611686018427387904)(F:∀x,(e x).length=sz)(u:∀x,(e x).all D.scalar=true)(C:SWO d)(s:∀x y,d x y=o x.1 y.1)(hb:Qiv P c=true){ex:Array Value}{exV:List V}(t:∀g w us,RFs g w exV us->us=ex.toList)(q:Qblc P c (fun x:{x:f // n x=true}=>e x.1) ex (fun xs=>(pdq d xs.toArray 0 xs.length (Lib.bitLen xs.length) true true).toList))(m:∀(p:Option Addr)(j:Nat)(w:World),Calls P c (#[.slice p 0 j]++ex) w fun J w'=>J = .returned (.tuple #[])/\w'=w)(k:V.dems exV=exV:=by rfl):
  RowK P c e sz exV (fun l=>if l.length<=N then Qbqe n o l else none):=by
 intro xs ys h;dsimp only at h;split at h<;>try (cases h;done)
 rename_i v;unfold Qbqe at h;split at h<;>cases h;rename_i r;simp only[Zc,Zs] at r;obtain⟨ho,B⟩:=r;obtain⟨i,rfl⟩ : ∃i:List {x:f // n x=true},xs=i.map Subtype.val:=⟨xs.pmap Subtype.mk ho,by rw[List.map_pmap];simp⟩;have z : Q9r d i=true:=by
  rw[Qbd2] at B;rw[show d=fun a b=>o a.1 b.1 from funext fun a=>funext fun b=>s a b];exact B
 have I:Qj5 o (i.map Subtype.val)=(Qj5 d i).map Subtype.val:=by
  rw[Qbav,show d=fun a b=>o a.1 b.1 from funext fun a=>funext fun b=>s a b]
 refine⟨Qny _ _,fun E=>?_,fun L j k0 M nb H=>?_⟩
 ·simp only[List.map_eq_nil_iff] at E;subst E;exact⟨rfl,fun M nb=>Q8r hb t m k⟩
 ·have A : M k0=some (.cells (Qch (i.map fun x=>e x.1) ((j-i.length)*sz))):=by
   rw[H,Zap,Zt];rfl
  have:=Qbar (fun x=>F x.1) (fun x=>u x.1) (fun xs=>(Qbb8 C xs _).1.length_eq) t hb q i j k0 M nb A (by rw[Zt] at v;omega) k;rw[Qblm C i _ z] at this;rw[I,Zap,Zt];exact this
end Go.Abs
end
section
namespace Go.Abs
open Go Go.Sort Go.RowKit
theorem Q8s(xs:List Int):rowV (eI .i64) xs=xs.map (Value.int .i64):=by
 unfold rowV
 induction xs with
 |nil=>rfl
 |cons x xs a=>simp only[Zb,Zbb,Zbi,a];rfl
theorem Qblo{P:Program}{c:Nat}(hb:Qiv P c=true)(s:∀(b off a:Nat)(o:List Int)(w:World),Holds (Value.int .i64) w b off o.toArray->b<w.heap.size->o.length<4611686018427387904 ->
   Calls P c #[.slice (some ⟨b,off,none⟩) o.length a] w fun e w'=>e = .returned (.tuple #[])/\∃n os,w'=grow (putRow (Value.int .i64) (Sort.ahead w n) b off (o.mergeSort fun x y=>decide (x<=y)).toArray) os)(d:∀(p:Option Addr)(a:Nat)(w:World),Calls P c (#[.slice p 0 a] ++ #[]) w fun A w'=>A = .returned (.tuple #[])/\w'=w):
  RowK P c (eI .i64) 1 [] (fun l=>if l.length<=lim then some (Qj5 Qhe l) else none):=by
 have g:Qblc P c (eI .i64) #[] (fun xs=>Qj5 Qhe xs):=by
  intro b a xs w f m q;refine Calls.mono (s b 0 a xs w ?_ m q) ?_
  ·intro j r;have i : j<xs.length:=by simpa using r
   have:=f j (by rw[Q8s];simpa using i);rw[Q8s] at this;rw[Zz];refine⟨?_,this.2⟩;rw[this.1,getElem!_pos xs.toArray j r];simp[i]
  ·rintro e w' ⟨rfl,n,os,rfl⟩;refine⟨rfl,n,os,?_⟩;rw[Qbf2,Q8s];congr 1;unfold putRow;congr 1;funext c;unfold putCells;congr 1;funext k x;simp only[List.size_toArray,Zt];split
   ·rename_i h;simp only[id];rw[getElem!_pos _ _ (by simp;omega),getElem!_pos _ _ (by simp;omega)];simp
   ·rfl
 intro xs ys h;dsimp only at h;split at h<;>cases h;rename_i u;refine⟨Qny _ _,fun z=>?_,fun t a k0 M nb v=>?_⟩
 ·subst z;exact⟨rfl,fun M nb=>Q8r (ex:=#[]) (exV:=[]) hb (fun _ _ _ h=>h) d⟩
 ·exact Qbar (e:=eI .i64) (fun _=>rfl) (fun _=>rfl) (fun xs=>Qny _ _) (ex:=#[]) (exV:=[]) (fun _ _ _ h=>h) hb g xs a k0 M nb v (by unfold lim at u;omega)
end Go.Abs
end
section
namespace Go.Abs
open Go Go.Sort Go.RowKit Go.Lib
theorem Q8t(a:List Int):(Lib.compact a).length<=a.length:=by
 unfold Lib.compact Lib.compactUpTo;rw[Zt];exact Zac (Zbk _ _) (by simp)
theorem Qbqf(l:List Int):(l.map (eI .i64)).flatten=l.map (D.int .i64):=by
 induction l with
 |nil=>rfl
 |cons x l a=>simp only[Zb,Zbb,a];rfl
theorem Qbi4{P:Program}{c:Nat}(hb:Qiv P c=true)(hs:∀(L off f:Nat)(N:List Int)(w:World),Holds (Value.int .i64) w L off N.toArray->N.length<=9223372036854775807->N.length<=f ->
   Calls P c #[.slice (some ⟨L,off,none⟩) N.length f] w fun e w'=>e = .returned (.slice (some ⟨L,off,none⟩) (Lib.compact N).length f)/\∃n,w'=putRow (Value.int .i64) (Sort.ahead w n) L off (Lib.compact N++List.replicate (N.length-(Lib.compact N).length) 0).toArray)(U:∀(p:Option Addr)(f:Nat)(w:World),Calls P c #[.slice p 0 f] w fun e' w'=>e' = .returned (.slice p 0 f)/\w'=w):
  CompK P c (fun l=>if l.length<=lim then some (Lib.compact l) else none):=by
 intro xs ys hf;dsimp only at hf;split at hf<;>cases hf;rename_i hl;refine⟨Q8t xs,fun h0=>?_,fun f k0 M nb hcap hM=>?_⟩
 ·subst h0;refine⟨rfl,fun M nb=>ACalls.mk' hb (Ze _) rfl fun w g us X u T hfl hons=>?_⟩;obtain⟨u0,us',rfl,J,rfl⟩:=T;have h2:=RF_d.1 J;obtain⟨a,cp,rfl,_,_⟩:=id h2;refine (U a cp w).mono ?_;rintro e' w' ⟨rfl,rfl⟩;exact⟨_,g,rfl,X,J _,trivial,u,Fr.refl _ _ _⟩
 refine ACalls.mk' hb (Ze _) rfl fun w g us X u T hfl hons=>?_;obtain⟨u0,us',rfl,J,rfl⟩:=T;have h0:=Q9l.1 J;subst h0;obtain⟨hk0,q,m,et,hh,hrv,hone⟩:=X.box k0 _ hM;have hlt:g.box k0<w.heap.size:=(Zag.1 hh).1;obtain⟨hvl,hvr⟩:=(Qde _ _ _ _).1 hrv;simp only[Qch,Qbqf,Zap,Zy,Zt,List.length_replicate,Nat.mul_one] at hvl hvr;have hcell:∀(j:Nat)(x:Int),xs[j]? = some x->m[j]? = some (.int .i64 x):=by
  intro j x hx;have A:=(Zn.1 hx).1;have hjv:j<m.length:=by omega
  have hc:(List.map (V.d ∘ D.int .i64) xs++List.replicate (f-xs.length) V.und)[j]? = some (.d (.int .i64 x)):=by
   rw[Zbg (by rw[Zt];exact A),Zai,hx];rfl
  have:=hvr j _ _ hc (Zk hjv);have h2:m[j] = .int .i64 x:=this;rw[Zk hjv,h2]
 have hH:Holds (Value.int .i64) w (g.box k0) 0 xs.toArray:=by
  intro j A;have hj' : j<xs.length:=by simpa using A
  have:=hcell j xs[j] (Zk hj');rw[Zz];refine⟨?_,by simp[World.frozen?,hh]⟩;rw[getElem!_pos xs.toArray j A];simp[World.cell?,hh,this]
 refine (hs (g.box k0) 0 f xs w hH (by unfold lim at hl;omega) hcap).mono ?_;rintro e' w' ⟨rfl,n,rfl⟩;have hyl:=Q8t xs;generalize Lib.compact xs=ys at hyl |-;generalize hF:(ys++List.replicate (xs.length-ys.length) 0).toArray=F;have hFs:F.size=xs.length:=by rw[<-hF];simp;omega
 have hput:putRow (Value.int .i64) (Sort.ahead w n) (g.box k0) 0 F=grow (putRow id (Sort.ahead w n) (g.box k0) 0 (F.map (Value.int .i64))) #[]:=by
  have e1:∀W:World,grow W #[]=W:=fun W=>by unfold grow;simp
  rw[e1];unfold putRow;congr 1;funext c;unfold putCells;congr 1;funext k x;simp only[Array.size_map];split
  ·rename_i h;simp only[id];rw[getElem!_pos _ _ (by omega),getElem!_pos _ _ (by simp;omega)];simp
  ·rfl
 rw[hput];generalize hF' : F.map (Value.int .i64)=F';have hFs' : F'.size=xs.length:=by rw[<-hF',Array.size_map,hFs]
 have hFv:∀j(h:j<ys.length),F'[j]'(by omega)=Value.int .i64 ys[j]:=by
  intro j h;subst hF';subst hF;simp only[List.getElem_toArray,Array.getElem_map];rw[List.getElem_append_left h]
 have hFi:∀j(h:j<F'.size),∃z:Int,F'[j]=Value.int .i64 z:=by
  intro j h;subst hF';exact⟨_,Array.getElem_map ..⟩
 have R:=Q8b w n (g.box k0) F' #[] hh;have r:∀b,b≠g.box k0->b<w.heap.size->(grow (putRow id (Sort.ahead w n) (g.box k0) 0 F') #[]).heap[b]? = w.heap[b]?:=fun b hb hlt=>Qvd w n _ F' #[] hb hlt;have t:w.heap.size<=(grow (putRow id (Sort.ahead w n) (g.box k0) 0 F') #[]).heap.size:=by
  simp[putRow,mapBlock,Sort.ahead]
 generalize S : grow (putRow id (Sort.ahead w n) (g.box k0) 0 F') #[]=w' at R r t;have Q:Imm g.imm g.imm w w':=by
  refine⟨fun _ _ h=>h,fun b o h=>?_⟩;obtain⟨k1,O⟩:=X.imm b o h;have E:b≠g.box k0:=by rintro rfl;exact O k0 q
  exact Qfd (r b E k1)
 have H:Kept g w g w' (There M) (fun o=>o ≠ .box k0):=⟨Q,fun _ _=>rfl,fun b hb hl=>⟨rfl,r b (by rintro rfl;exact hb q) hl,fun _=>Zj⟩⟩;have hsub:∀(o:Owner)i,o ≠ .box k0->o.sub i ≠ .box k0:=by intro o i _;cases o<;>simp[Owner.sub]
 have hnew:∀p:Nat->Prop,V.ons p (Qch (ys.map (eI .i64)) ((f-ys.length)*1)):=by
  intro p;rw[Qjn];intro v hv;simp only[Qch,Zr,Zl,List.mem_replicate] at hv;rcases hv with⟨x,_,rfl⟩|⟨_,rfl⟩<;>trivial
 have hth:There (M.put k0 (.cells (Qch (ys.map (eI .i64)) ((f-ys.length)*1)))) k0:=by simp[There,Mem.put]
 refine⟨_,g,rfl,⟨fun k b I=>?_,fun b o h=>⟨Zbn (X.imm b o h).1 t,(X.imm b o h).2⟩⟩,by simp[RV],hth,fun k cs I=>?_,?_⟩
 ·by_cases s:k=k0
  ·subst s;rw[Qh2] at I;cases I;refine⟨hk0,q,(putCells id 0 F' m.toArray).toList,et,by simpa using R,(Qde _ _ _ _).2 ⟨?_,fun j cc x hc hx=>?_⟩,fun x hx=>?_⟩
   ·simp only[Qch,Qbqf,Zap,Zy,Zt,List.length_replicate,Nat.mul_one];simp[putCells];omega
   ·have C : (putCells id 0 F' m.toArray)[j]? = some x:=by simpa using hx
    simp only[putCells,Array.getElem?_mapIdx,List.getElem?_toArray,Zd] at C;obtain⟨y,hy,rfl⟩:=C;simp only[Qch,Qbqf,Zap,Nat.mul_one] at hc;by_cases A:j<ys.length
    ·rw[Zbg (by rw[Zt];exact A),Zai,Zk A,Zad,Zh] at hc;subst hc;rw[if_pos ⟨Zv _,by omega⟩];simp only[Nat.sub_zero,id];rw[getElem!_pos F' j (by omega),hFv j A];simp[RV,RD]
    ·rw[Zax (by rw[Zt];omega)] at hc;have:cc = .und:=(List.mem_replicate.1 (Zm hc)).2;subst this;simp[RV]
   ·obtain⟨j,A⟩:=List.getElem?_of_mem hx;have C : (putCells id 0 F' m.toArray)[j]? = some x:=by simpa using A
    simp only[putCells,Array.getElem?_mapIdx,List.getElem?_toArray,Zd] at C;obtain⟨y,hy,rfl⟩:=C;split
    ·rename_i hr;simp only[id];rw[getElem!_pos F' _ (by omega)];obtain⟨z,hz⟩:=hFi (j-0) (by omega);rw[hz];exact Qbf0 (x:=.int .i64 z) rfl
    ·exact hone y (Zm hy)
  ·rw[Qcy _ _ s] at I;obtain⟨k1,O,k3⟩:=X.box k b I;cases b with
   |mp es c =>
    obtain⟨ents,q1,q2⟩:=k3;have E:g.box k≠g.box k0:=by
     intro h;rw[h,q] at O;cases O;exact s rfl
    exact⟨k1,O,ents,(r _ E (Zag.1 q1).1).trans q1,Qmo (g:=g) (g':=g) H (fun _=>by simp) q2⟩
   |cells cs =>
    obtain⟨B,e2,q1,q2,q3⟩:=k3;have E:g.box k≠g.box k0:=by
     intro h;rw[h,q] at O;cases O;exact s rfl
    refine⟨k1,O,B,e2,(r _ E (Zag.1 q1).1).trans q1,?_,q3⟩;exact RVs_mono H hsub (by simp) cs (.box k) 0 B (by simpa using s) (u k cs I) q2
 ·by_cases s:k=k0
  ·subst s;rw[Qh2] at I;cases I;exact hnew _
  ·rw[Qcy _ _ s] at I;exact ons_mono (fun j A=>There.put A) _ (u k cs I)
 ·refine⟨by rw[<-S];rfl,by rw[<-S];rfl,by rw[<-S];rfl,t,Q,fun _ _=>rfl,fun b hb ho=>⟨rfl,r b ?_ hb,fun _=>Zj⟩⟩;rintro rfl;rw[q] at ho;exact ho
end Go.Abs
end
section
namespace Go.Proofs
open Go.Shelf Go.RowKit Go.Lib Go.Sort Go.Abs
theorem Tryz.rowK124:Go.Abs.RowK Tryz.prog 124 (eI .i64) 1 [] Qbn0 :=
 Qblo (by kernel_rfl) Tryz.slices_Sort_int Tryz.slices_Sort_int_none
theorem Tryz.compK125:Go.Abs.CompK Tryz.prog 125 Q61 :=
 Qbi4 (by kernel_rfl) Tryz.slices_Compact_int Tryz.slices_Compact_int_empty
abbrev PlOk:={x:Qd // okPl x=true}
instance:Inhabited PlOk:=⟨⟨⟨0,0⟩,rfl⟩⟩
def cfP(x y:PlOk):Int:=if x.1.ambient_=y.1.ambient_ then x.1.language_-y.1.language_ else x.1.ambient_-y.1.ambient_
theorem Q62(x y:PlOk):ltOf cfP x y=ltPl x.1 y.1:=by
 unfold ltOf cfP ltPl;apply decide_eq_decide.2;split<;>omega
theorem swoP:SWO (ltOf cfP):={
 irrefl x:=by rw[Q62];simp[ltPl]
 trans x y z h1 h2:=by rw[Q62] at *;simp only[ltPl,decide_eq_true_eq] at *;omega
 ntrans x y z h1 h2:=by rw[Q62] at *;simp only[ltPl,decide_eq_false_iff_not] at *;omega }
set_option maxHeartbeats 1000000 in
theorem Tryz.places146(x y:PlOk)(W:World):Calls Tryz.prog 146 #[.agg ((Qb3 x.1).map D.val).toArray,.agg ((Qb3 y.1).map D.val).toArray] W fun e w'=>e = .returned (.int .i64 (cfP x y))/\∃q os',w'=grow (W.drewN q) os':=by
 obtain⟨⟨a,b⟩,hx0⟩:=x;obtain⟨⟨a',b'⟩,hy0⟩:=y;have hx:=hx0;have hy:=hy0;simp only[okPl,decide_eq_true_eq] at hx hy;have w1:IntKind.i64.wrap (a-a')=a-a':=by simp[IntKind.wrap,IntKind.bits,IntKind.signed];omega
 have w2:IntKind.i64.wrap (b-b')=b-b':=by simp[IntKind.wrap,IntKind.bits,IntKind.signed];omega
 have hr:cfP ⟨⟨a,b⟩,hx0⟩ ⟨⟨a',b'⟩,hy0⟩=if a=a' then b-b' else a-a':=rfl;generalize cfP ⟨⟨a,b⟩,hx0⟩ ⟨⟨a',b'⟩,hy0⟩=r at hr |-;simp only[Qb3,Zb,Zi,D.val]
 go_enter Tryz.func146,Tryz.ntmps146
 go_wp2
 ·rename_i h;have h:a≠a':=by simpa using h
  go_ret
  exact⟨by rw[hr,if_neg h];rfl,0,_,by rw[alloc_eq_grow,alloc_eq_grow,grow_grow];rfl⟩
 ·rename_i h;have h:a=a':=by simpa using h
  go_ret
  exact⟨by rw[hr,if_pos h];rfl,0,_,by rw[alloc_eq_grow,alloc_eq_grow,grow_grow];rfl⟩
set_option maxHeartbeats 1000000 in
theorem Tryz.row145:Qblc Tryz.prog 145 (fun x:PlOk=>Qb3 x.1) #[.func (.func 146) #[] #[]] (fun xs=>(pdq (ltOf cfP) xs.toArray 0 xs.length (Lib.bitLen xs.length) true true).toList):=
 Q9s Tryz.sortP Tryz.isAgg96 Tryz.sizeOf96 (fun x:PlOk=>Qb3 x.1) (fun _=>rfl) (by decide) (fun _=>rfl) cfP swoP 146 #[] (enters_of Tryz.func146 (by kernel_rfl) rfl) (fun x y W=>Tryz.places146 x y W)
theorem Tryz.none145(p:Option Addr)(a:Nat)(w:World):Calls Tryz.prog 145 (#[.slice p 0 a] ++ #[.func (.func 146) #[] #[]]) w fun b w'=>b = .returned (.tuple #[])/\w'=w :=
 AnyF.slices_SortFunc_none Tryz.sortP p a (.func (.func 146) #[] #[]) w
theorem Qbrq{g:G}{w:World}{f:Nat}{us:List Value}(h:RFs g w [.clo f []] us):us = #[Value.func (.func f) #[] #[]].toList:=by
 obtain⟨u,b,rfl,a,c⟩:=h;have a:=a .ext;simp only[RV,RVs] at a;obtain⟨vs,rfl,rfl⟩:=a;have:b=[]:=c;subst this;rfl
theorem Tryz.rowK145:Go.Abs.RowK Tryz.prog 145 Qb3 2 [.clo 146 []] Qbll :=
 Qbln (e:=Qb3) (sz:=2) (N:=65536) (by decide) (fun _=>rfl) (fun _=>rfl) swoP Q62 (by kernel_rfl) (ex:=#[.func (.func 146) #[] #[]]) (exV:=[.clo 146 []]) (fun _ _ us h=>Qbrq h) Tryz.row145 Tryz.none145
end Go.Proofs
end
section
namespace Go.Abs
open Go Go.RowKit
theorem Qbb9{P:Program}{f:FuncId}{args:List V}{x:D}(p:x.scalar=true)(hb:Qiv P f=true)(h:∀(w:World)(g:G)(us:List Value),(∀b o,g.imm b o->b<w.heap.size)->RFs g w args us->Calls P f us.toArray w fun e w'=>e = .returned x.val/\Below w.heap.size w w')(M:Mem)(nb:Nat)(i:V.dems args=args:=by rfl):ACalls P f args M nb (.d x) M nb:=by
 refine ACalls.mk' hb (Ze _) i fun w g us j a k r m=>?_;refine Calls.mono (h w g us (fun b o c=>(j.imm b o c).1) k) ?_;rintro e w' ⟨rfl,hbw⟩;have n:Imm g.imm g.imm w w':=⟨fun _ _ h=>h,fun b o c=>Qfd (hbw.block b (j.imm b o c).1)⟩;have q:Kept g w g w' (There M) (fun _=>True):=⟨n,fun _ _=>rfl,fun b _ l=>⟨rfl,hbw.block b l,fun _=>Zj⟩⟩;refine⟨_,g,rfl,j.kept q a (fun _ _ _=>trivial) trivial (fun _ _=>trivial) (fun b o c=>?_),?_,trivial,a,?_⟩
 ·obtain⟨t,s⟩:=j.imm b o c;exact⟨Zbn t hbw.size,s⟩
 ·simp only[RV];exact (Qbhh p).2 rfl
 ·exact⟨hbw.os,hbw.tape,hbw.output,hbw.size,n,fun _ _=>rfl,fun b hb _=>⟨rfl,hbw.block b hb,fun _=>Zj⟩⟩
theorem Q9t{P:Program}{f:FuncId}{args:List V}{x:D}(p:x.scalar=true)(hb:Qiv P f=true)(h:∀(w:World)(g:G)(us:List Value),Tab P g w->(∀b o,g.imm b o->b<w.heap.size)->RFs g w args us->Calls P f us.toArray w fun e w'=>e = .returned x.val/\Below w.heap.size w w')(M:Mem)(nb:Nat)(i:V.dems args=args:=by rfl):ACalls P f args M nb (.d x) M nb:=by
 refine ACalls.mkT' hb (Ze _) i fun w g us q j a k s m=>?_;refine Calls.mono (h w g us q (fun b o c=>(j.imm b o c).1) k) ?_;rintro e w' ⟨rfl,hbw⟩;have n:Imm g.imm g.imm w w':=⟨fun _ _ h=>h,fun b o c=>Qfd (hbw.block b (j.imm b o c).1)⟩;have r:Kept g w g w' (There M) (fun _=>True):=⟨n,fun _ _=>rfl,fun b _ l=>⟨rfl,hbw.block b l,fun _=>Zj⟩⟩;refine⟨_,g,rfl,j.kept r a (fun _ _ _=>trivial) trivial (fun _ _=>trivial) (fun b o c=>?_),?_,trivial,a,?_⟩
 ·obtain⟨u,t⟩:=j.imm b o c;exact⟨Zbn u hbw.size,t⟩
 ·simp only[RV];exact (Qbhh p).2 rfl
 ·exact⟨hbw.os,hbw.tape,hbw.output,hbw.size,n,fun _ _=>rfl,fun b hb _=>⟨rfl,hbw.block b hb,fun _=>Zj⟩⟩
theorem Qblp{g:G}{w:World}{l:List Int}{k:IntKind}{u:Value}(h:RF g w (.d (.lst 1 (l.map (fun n=>[.int k n])))) u):
  ∃a c,u = .slice a l.length c/\l.length<=c/\(l=[]\/∃b o,a=some ⟨b,o,none⟩/\∀(i:Nat)n,l[i]? = some n->g.imm b (o+i)/\w.cell? ⟨b,o+i,none⟩=some (.int k n)):=by
 have h:=RF_d.1 h;simp only[RD,Zt] at h;obtain⟨a,c,rfl,hc,e⟩:=h;refine⟨a,c,rfl,hc,?_⟩;rcases e with e|⟨b,o,rfl,e⟩
 ·exact .inl (by simpa using e)
 ·refine .inr ⟨b,o,rfl,fun i n f=>?_⟩;have:=(Q13 e i [.int k n] (by simp[f])).2;simp only[RDc,Nat.mul_one,RD] at this;obtain⟨m,⟨u,j,rfl⟩,_⟩:=this;exact⟨m,j⟩
end Go.Abs
end
section
namespace Go.Proofs
open Go.RowKit Go.Abs
theorem Qbpa{i:Nat}(h:i<100):(Lib.decDigits i).length<=2:=by
 by_cases a:i<10
 ·rw[Lib.decDigits_one a];simp
 ·rw[Lib.decDigits_two a h];simp
theorem Qblq:∀l:List Int,(∀x∈l,0<=x/\x<100)->(keyL l).length<=3*l.length
 |[],_=>by simp[keyL]
 |x::l,h=>by
  have c:=h x (by simp);have d:=Qbpa (i:=x.toNat) (by omega);have b:=Qblq l fun y a=>h y (by simp[a]);simp only[keyL,List.flatMap_cons,Zy,Zx,Zar] at *
  omega
set_option maxHeartbeats 4000000 in
set_option maxRecDepth 1000000 in
theorem Tryz.key_walk(l:List Int)(hl:l.length<=lim)(hx:∀x∈l,0<=x/\x<100)(a:Option Addr)(cap:Nat)(w:World)(hc:∀(i:Nat)n,l[i]? = some n->∃b o,a=some ⟨b,o,none⟩/\b<w.heap.size/\w.cell? ⟨b,o+i,none⟩=some (.int .i64 n)):
  Calls Tryz.prog 91 #[.slice a l.length cap] w fun e w'=>e = .returned (.string (keyB l))/\Below w.heap.size w w':=by
 have hlim:l.length<=1099511627776:=hl
 go_enter Tryz.func91,Tryz.ntmps91
 go_wp2
 go_loopw [8] (fun vi wr=>∃(k:Nat),vi = .int .i64 k/\k<=l.length/\Lib.IsBuilderF 161 5 w.heap.size w.heap.size (Lib.byteCells (keyL (l.take k))) wr/\Below w.heap.size w wr) (fun vi _=>l.length-(intOf vi).toNat)
 case atStart =>
  refine⟨0,rfl,by omega,?_,((Below.refl _ w).alloc (Ze _) _)⟩;exact Lib.IsBuilderF.of (Lib.fresh_isBuilder 161 5 w)
 case round =>
  obtain⟨k,rfl,hk,hI,hbw⟩:=hrel;by_cases hlt:k<l.length
  ·obtain⟨b,o,rfl,hb,hcell⟩:=hc k l[k] (Zk hlt);have hcr:wr.cell? ⟨b,o+k,none⟩=some (.int .i64 l[k]):=by
    rw[<-hcell];simp only[World.cell?];rw[hbw.block b hb]
   have hxk:=hx l[k] (Zq hlt);obtain⟨n,hn⟩ : ∃n:Nat,l[k]=(n:Int):=⟨l[k].toNat,by omega⟩;have hn100:n<100:=by omega
   rw[hn] at hcr;have hdl:=Qbpa hn100;have hsz:w.heap.size<=wr.heap.size:=hbw.size;have hkl:=Qblq (l.take k) fun x hxm=>hx x (Zbx hxm);rw[Zbm] at hkl
   go_wp2_with (go_at_call 103;refine (Tryz.strconv_Itoa_small n hn100 _).mono ?_)
   rintro e W0 ⟨rfl,rfl⟩
   go_wp2_with (go_at_call 102;refine (Tryz.Builder_WriteString_k w.heap.size w.heap.size _ _ _ hI (by rw[Lib.byteCells_length];simp only[ByteArray.size,List.size_toArray];omega) hsz).mono ?_)
   rintro e W1 ⟨rfl,h1,b1,k1⟩;have hsz1:w.heap.size<=W1.heap.size:=Zac hsz b1.size;have hlen2:(Lib.byteCells (keyL (l.take k))++Lib.strCells ⟨(Lib.decDigits n).toArray⟩).length+1<=140737488355328:=by
    rw[show Lib.strCells ⟨(Lib.decDigits n).toArray⟩=Lib.byteCells (Lib.decDigits n) from rfl,Zy,Lib.byteCells_length,Lib.byteCells_length];omega
   go_wp2_with (go_at_call 104;refine (Tryz.Builder_WriteByte_k w.heap.size w.heap.size _ 32 _ (Or.inr h1) hlen2 hsz1).mono ?_)
   rintro e W2 ⟨rfl,h2,b2,k2⟩
   go_wp2
   go_roundw
   case rel =>
    refine⟨k+1,by simp,by omega,?_,(hbw.trans b1).trans b2⟩;have e1:keyL (l.take (k+1))=keyL (l.take k)++Lib.decDigits n++[32]:=by
     rw[Zaq hlt];simp only[keyL,List.flatMap_append,List.flatMap_cons,List.flatMap_nil,Zas,hn,Zay,Zbs]
    rw[e1,Lib.byteCells_append,Lib.byteCells_append];exact Or.inr h2
   case measure =>
    simp[intOf];omega
  ·have hk2:k=l.length:=by omega
   subst hk2
   go_wp2_with (go_at_call 105;refine (Tryz.Builder_String_any_k w.heap.size w.heap.size _ _ hI hbw.size).mono ?_)
   rintro e W1 ⟨rfl,_,b1,_⟩
   go_wp2
   go_ret
   refine⟨?_,hbw.trans b1⟩
   first|rfl|(rw[Zaz];rfl)|(simp[keyB,Zaz])
theorem Tryz.keyK:Go.Abs.K_product_key Tryz.prog 91 keyI:=by
 intro l r h;unfold keyI at h;split at h<;>cases h;rename_i hc;intro M nb;refine Qbb9 rfl (by kernel_rfl) (fun w g us d f=>?_) M nb;obtain⟨u,p,rfl,q,c⟩:=f;simp only[RFs] at c;subst c;obtain⟨a,k,rfl,m,e⟩:=Qblp q;refine Tryz.key_walk l hc.1 hc.2 a k w fun i n j=>?_;rcases e with rfl|⟨b,o,rfl,e⟩
 ·simp at j
 ·exact⟨b,o,rfl,d _ _ (e i n j).1,(e i n j).2⟩
end Go.Proofs
end
section
namespace Go
theorem Qz3{P:Program}{w:World}(base:Nat)(t j e:TypeId)(i:TypeInfo)(size:Nat)(f:P.underlying t=some (.slice e))(h:P.info? e=some i)(v:Value)(n:Nat)(xs:List Value)(a:w.ownsRow base e size v n xs)(d:Option Addr)(c:Nat):
  (Builtin.append_ #[t,t] j #[v,.slice d 0 c]).run P w = .ok v w:=by
 rcases a.2 with⟨rfl,rfl⟩|⟨g,l,k,rfl,_,_,b,_⟩
 ·cases d<;>simp[Builtin.append_,run_underlying f,sizeOf,typeInfo,h,Builtin.lenOf,Builtin.firstCells,loadCells,loadCellsFrom]
 ·cases d<;>simp[Builtin.append_,run_underlying f,sizeOf,typeInfo,h,Builtin.lenOf,Builtin.firstCells,b,storeCells,loadCells,loadCellsFrom]
theorem Q34{P:Program}{w:World}{ops:Array Oper}{g:List Oper}{o:Oper}{a:Act}{Q:Exit->Act->World->Prop}(r:o.guard=none)(s x:Operand)(t:TypeId)(ho:o.op = .call { callee:=.builtin .append,args:=#[s,x],argTypes:=#[t,t] })(base:Nat)(e:TypeId)(i:TypeInfo)(z:Value)(size bytes:Nat)(J:P.underlying t=some (.slice e))(O:P.info? e=some i)(R:i.zero=some z)(k:i.size=size)(F:i.bytes=bytes)(B:z.cells.size=size)(C:0<size)(v:Value)(n:Nat)(xs:List Value)(L:a.eval s=v)(d:w.ownsRow base e size v n xs)(y:Option Addr)(m c:Nat)(b:List Value)(I:a.eval x = .slice y m c)(N:b.length=m*size)(l:∀A,y=some A->∀j u,b[j]? = some u->w.cell? (A.add j)=some u)(E:y=none->m=0)(W:∀u∈b,u.oneCell'=true)(H:n+m<=maxLen)(f:(n+m)*bytes<=140737488355328)(p:base<=w.heap.size)(h:∀v' w',w'.ownsRow base e size v' (n+m) (xs++b)->w.grownBy w' v.ownBlock->wpList P ops Q g (a.put o.dst v') w'):wpList P ops Q (o::g) a w:=by
 by_cases M:m=0
 ·subst M;have:b=[]:=Zao (by simpa using N);subst this;refine wpList_plain r fun K S=>?_;have q:=Qz3 (P:=P) (w:=w) base t o.type e i size J O v n xs d y c;unfold Oper.wp;simp[execOp,ho,resolve,invoke,builtin,L,I,q,Result.andThen];exact S _ _ (h _ _ (by simpa using d) (World.grownBy.refl w _))
 ·cases y with
  |none=>exact absurd (E rfl) M
  |some A=>exact wpList_append_own w r s x t ho base e i z size bytes J O R k F B C v n xs L d A m c b I N (l A rfl) W H f p fun v' w' U T _=>h v' w' U T
end Go
namespace Go.Proofs
open Go.RowKit Go.Abs
end Go.Proofs
end
section
namespace Go.Abs
theorem Qbhu:∀l:List Int,(∀z∈l,-9223372036854775808<=z/\z<=9223372036854775807)->(Qz2 l).length<=22*l.length
 |[],_=>by simp[Qz2]
 |x::l,h=>by
  have c:=Lib.itoa_length_le x (h x (by simp)).1 (h x (by simp)).2;have b:=Qbhu l fun z a=>h z (by simp[a]);have e:Qz2 (x::l)=Lib.itoa x++[32]++Qz2 l:=rfl;rw[e];simp only[Zy,Zx,Zar];omega
end Go.Abs
namespace Go.Proofs
open Go.RowKit Go.Abs Go.Lib Go.Sort
theorem Qbd6{T e:TypeId}{B b:Nat}{bs:List Value}{W f : World}(h:IsBuilderF T e B b bs W)(hb:Below W.heap.size W f):IsBuilderF T e B b bs f:=by
 have key:∀p,BuilderAtF T e B b p bs W->BuilderAtF T e B b p bs f:=by
  intro p h;have d:=h.lt;obtain⟨hB,v,g,a,c⟩:=h;exact⟨hB,v,(hb.block b d).trans g,a.kept (row:=none) ⟨hb.os,hb.tape,hb.output,hb.size,fun k i _=>hb.block k i⟩ (Classical.em _),c⟩
 rcases h with h|h
 ·exact .inl (key _ h)
 ·exact .inr (key _ h)
theorem Tryz.laysM171:Go.Proofs.LaysM.n171 Tryz.prog Tryz.lays171_ren:={ Tryz.lays171 with
 i0:=by kernel_rfl
 i2:=by kernel_rfl
 i3:=by kernel_rfl
 i4:=by kernel_rfl
 i5:=by kernel_rfl
 i9:=by kernel_rfl
 i20:=by kernel_rfl
 i37:=by kernel_rfl
 i46:=by kernel_rfl
 i51:=by kernel_rfl
 i53:=by kernel_rfl
 i171:=by kernel_rfl
 i173:=by kernel_rfl
 i212:=by kernel_rfl
 i232:=by kernel_rfl
 i233:=by kernel_rfl
 m17:=by kernel_rfl
 m18:=by kernel_rfl
 m19:=by kernel_rfl }
theorem Tryz.strconv_Itoa(n:Int)(h0 : -9223372036854775808≤n)(h1:n≤9223372036854775807)(w:World)(htab : Lib.TabIs Tryz.prog w "internal/strconv.uint64pow10" .u64 Lib.pow10Tab) :
  Calls Tryz.prog 103 #[.int .i64 n] w fun e w'=>e = .returned (.string ⟨(Lib.itoa n).toArray⟩)∧∃ k os,w'=Go.Sort.grow (w.drewN k) os:=Any.strconv_Itoa Tryz.laysM171 n h0 h1 w htab
set_option maxHeartbeats 4000000 in
set_option maxRecDepth 1000000 in
theorem Tryz.rkeyT_walk(x y:Int)(l:List Int)(hl:l.length+2≤lim)(hx:∀ z∈x::y::l,-9223372036854775808≤z∧z≤9223372036854775807)(a:Option Addr)(cap:Nat)(w:World)(htab : Lib.TabIs Tryz.prog w "internal/strconv.uint64pow10" .u64 Lib.pow10Tab)(hc:∀ (i:Nat) n,l[i]? = some n→∃ b o,a=some ⟨b,o,none⟩∧b<w.heap.size∧w.cell? ⟨b,o+i,none⟩=some (.int .i64 n)) :
  Calls Tryz.prog 53 #[.agg #[.int .i64 x,.int .i64 y],.slice a l.length cap] w fun e w'=>e = .returned (.string (keyT (x::y::l)))∧Below w.heap.size w w':=by
 have htb:=Lib.tabBelow_of_tabIs htab;have hlim:l.length+2≤1099511627776:=hl;obtain ⟨i0,hi,hz0,hz1,hz2⟩:=info_parts (P:=Tryz.prog) (e:=3) (z:=.int .i64 0) (size:=1) (bytes:=8) (by kernel_rfl)
 go_enter Tryz.func53,Tryz.ntmps53
 go_wp2_with (at_builtin;refine Q34 rfl _ _ 32 rfl (w.heap.size+2) 3 i0 (.int .i64 0) 1 8 Tryz.underlying32 hi hz0 hz1 hz2 rfl (by decide) _ 2 [.int .i64 x,.int .i64 y] rfl ?own a l.length cap (l.map (Value.int .i64)) rfl (by simp) ?news ?none ?one (by unfold maxLen;omega) (by omega) ?base ?rest)
 case own =>
  have:=World.ownsRow_lit (base:=w.heap.size+2) (e:=3) (size:=1) ((w.alloc (.cells #[.int .i64 x,.int .i64 y] 96)).alloc (.cells #[.pointer none,.slice none 0 0] 161)) #[.int .i64 x,.int .i64 y] 2 (by simp) (by unfold maxLen;omega) rfl;simp at this;exact this
 case news =>
  intro ad had j u hj;rw [List.getElem?_map] at hj;obtain ⟨n,hn,rfl⟩:=Option.map_eq_some_iff.1 hj;obtain ⟨b,o,rfl,hb,hcell⟩:=hc j n hn;cases had;rw [← hcell];have hB:Below w.heap.size w (((w.alloc (.cells #[.int .i64 x,.int .i64 y] 96)).alloc (.cells #[.pointer none,.slice none 0 0] 161)).alloc (.cells #[.int .i64 x,.int .i64 y] 3)) :=
   (((Below.refl _ w).alloc (Nat.le_refl _) _).alloc (by simp) _).alloc (by simp;omega) _
  simp only [World.cell?,Addr.add_lit];rw [hB.block b hb]
 case none =>
  intro ha;cases l with
  | nil=>rfl
  | cons z l =>
   obtain ⟨b,o,h,_⟩:=hc 0 z rfl;rw [ha] at h;cases h
 case one =>
  intro u hu;obtain ⟨n,_,rfl⟩:=List.mem_map.1 hu
  rfl
 case base=>simp
 intro v' wA hown hgrow;obtain ⟨hlen,⟨rfl,h0⟩|⟨g,cap',cur,rfl,hbg,hg,hnc,hcm,hcs,htake⟩⟩:=hown
 ·omega
 have hbA:wA.heap[w.heap.size+1]? = some (.cells #[.pointer none,.slice none 0 0] 161 (0,0)):=by
  rw [hgrow.block (w.heap.size+1) (by simp) (by simp [Value.ownBlock])];rw [Lib.alloc_old _ _ _ (by simp),show w.heap.size+1=(w.alloc (.cells #[.int .i64 x,.int .i64 y] 96)).heap.size from by simp];exact heap_alloc_new _ _
 have hBA:Below w.heap.size w wA:=by
  have hB:Below w.heap.size w (((w.alloc (.cells #[.int .i64 x,.int .i64 y] 96)).alloc (.cells #[.pointer none,.slice none 0 0] 161)).alloc (.cells #[.int .i64 x,.int .i64 y] 3)) :=
   (((Below.refl _ w).alloc (Nat.le_refl _) _).alloc (by simp) _).alloc (by simp;omega) _
  exact hB.grown hgrow (by simp;omega) (fun k hk=>by simp [Value.ownBlock] at hk;omega)
 have hszA:w.heap.size+1≤wA.heap.size:=by have:=hgrow.size;simp at this;omega
 have hcur:∀ (k:Nat) z,(x::y::l)[k]? = some z→cur[k]? = some (.int .i64 z):=by
  intro k z hz;have hk:=(List.getElem?_eq_some_iff.1 hz).1;simp only [List.length_cons] at hk;have h1:(cur.toList.take ((2+l.length)*1))[k]? = some (.int .i64 z):=by
   rw [htake];show ((x::y::l).map (Value.int .i64))[k]? = _;rw [List.getElem?_map,hz];rfl
  rw [List.getElem?_take_of_lt (by omega)] at h1;simpa using h1
 generalize hxs:x::y::l=xs at hx hcur;have hN:xs.length=2+l.length:=by rw [← hxs];simp;omega
 go_wp2
 go_loopw [16] (fun vi wr=>∃ (k:Nat),vi = .int .i64 k∧k≤xs.length∧Lib.IsBuilderF 161 5 (w.heap.size+1) (w.heap.size+1) (Lib.byteCells (Qz2 (xs.take k))) wr∧Below w.heap.size w wr∧wr.heap[g]? = some (.cells cur 3 (0,0))∧w.heap.size+1≤wr.heap.size) (fun vi _=>xs.length-(intOf vi).toNat)
 case atStart =>
  exact ⟨0,rfl,by omega,Lib.IsBuilderF.of (Or.inl ⟨Nat.le_refl _,.slice none 0 0,hbA,World.ownsRow_nil _ _ _ _,by simp [Value.ownBlock]⟩),hBA,hg,hszA⟩
 case round =>
  obtain ⟨k,rfl,hk,hI,hbw,hgr,hsz⟩:=hrel;by_cases hlt:k<xs.length
  ·have hxk:=hx xs[k] (List.getElem_mem hlt);have hcr:wr.cell? ⟨g,k,none⟩=some (.int .i64 xs[k]):=by
    simp only [World.cell?,hgr];exact hcur k _ (List.getElem?_eq_getElem hlt)
   have hcr0:wr.cell? ⟨g,0+k,none⟩=some (.int .i64 xs[k]):=by rw [Nat.zero_add];exact hcr
   obtain ⟨n,hn⟩ : ∃ n:Int,xs[k]=n:=⟨_,rfl⟩;rw [hn] at hcr hcr0 hxk;have hdl:=Lib.itoa_length_le n hxk.1 hxk.2;have hkl:=Qbhu (xs.take k) fun x hxm=>hx x (List.mem_of_mem_take hxm);rw [List.length_take] at hkl
   go_wp2_with (go_at_call 103;refine (Tryz.strconv_Itoa n hxk.1 hxk.2 _ (htb _ hbw)).mono ?_)
   rintro e W0 ⟨rfl,kd,os,rfl⟩;have hb0:Below wr.heap.size wr (Go.Sort.grow (wr.drewN kd) os):=Lib.below_grow _ wr (Nat.le_refl _) kd os;have hglt:g<wr.heap.size:=(Array.getElem?_eq_some_iff.1 hgr).1;have hI0:=Qbd6 hI hb0;have hgr0:(Go.Sort.grow (wr.drewN kd) os).heap[g]? = some (.cells cur 3 (0,0)):=(hb0.block g hglt).trans hgr;have hsz0:w.heap.size+1≤(Go.Sort.grow (wr.drewN kd) os).heap.size:=Nat.le_trans hsz hb0.size;have hbw0:Below w.heap.size w (Go.Sort.grow (wr.drewN kd) os):=hbw.trans (hb0.mono (by omega));generalize Go.Sort.grow (wr.drewN kd) os=W0 at hI0 hgr0 hsz0 hbw0
   go_wp2_with (go_at_call 102;refine (Tryz.Builder_WriteString_k (w.heap.size+1) (w.heap.size+1) _ _ _ hI0 (by rw [Lib.byteCells_length];simp only [ByteArray.size,List.size_toArray];omega) hsz0).mono ?_)
   rintro e W1 ⟨rfl,h1,b1,k1⟩;have hsz1:w.heap.size+1≤W1.heap.size:=Nat.le_trans hsz0 b1.size;have hlen2:(Lib.byteCells (Qz2 (xs.take k))++Lib.strCells ⟨(Lib.itoa n).toArray⟩).length+1≤140737488355328:=by
    rw [show Lib.strCells ⟨(Lib.itoa n).toArray⟩=Lib.byteCells (Lib.itoa n) from rfl,List.length_append,Lib.byteCells_length,Lib.byteCells_length];omega
   go_wp2_with (go_at_call 104;refine (Tryz.Builder_WriteByte_k (w.heap.size+1) (w.heap.size+1) _ 32 _ (Or.inr h1) hlen2 hsz1).mono ?_)
   rintro e W2 ⟨rfl,h2,b2,k2⟩
   go_wp2
   go_roundw
   case rel =>
    have hgb:some g≠some (w.heap.size+1):=by simp;omega
    have hne:∀ c fz,Obj.cells cur 3 (0,0)≠Obj.cells c 5 fz:=by intro c fz h;cases h
    refine ⟨k+1,by simp,by omega,?_,(hbw0.trans (b1.mono (by omega))).trans (b2.mono (by omega)),k2 _ _ (k1 _ _ hgr0 hgb hne) hgb hne,Nat.le_trans hsz1 b2.size⟩;have e1:Qz2 (xs.take (k+1))=Qz2 (xs.take k)++Lib.itoa n++[32]:=by
     rw [List.take_succ_eq_append_getElem hlt];simp only [Qz2,List.flatMap_append,List.flatMap_cons,List.flatMap_nil,List.append_nil,hn,List.append_assoc]
    rw [e1,Lib.byteCells_append,Lib.byteCells_append];exact Or.inr h2
   case measure =>
    simp [intOf];omega
  ·have hk2:k=xs.length:=by omega
   subst hk2
   go_wp2_with (go_at_call 105;refine (Tryz.Builder_String_any_k (w.heap.size+1) (w.heap.size+1) _ _ hI hsz).mono ?_)
   rintro e W1 ⟨rfl,_,b1,_⟩
   go_wp2
   go_ret
   refine ⟨?_,hbw.trans (b1.mono (by omega))⟩;have ht:List.take (2+l.length) (x::y::l)=x::y::l:=by
    rw [show 2+l.length=(x::y::l).length from by simp;omega];exact List.take_length
   simp only [keyT,List.take_length,← hxs];rw [ht];rfl
theorem Tryz.rkeyTK:Go.Abs.K_relative_key Tryz.prog 53 Qbi3:=by
 intro x l r h;unfold Qbi3 at h;split at h<;>cases h;rename_i hc;intro M nb;refine Q9t rfl (by kernel_rfl) (fun w g us ht himm hus=>?_) M nb;obtain ⟨u0,us0,rfl,hu0,u,us',rfl,hu,hus'⟩:=hus;simp only [RFs] at hus';subst hus';obtain ⟨a,cap,rfl,hcap,hl⟩:=Qblp hu;have h0:=hu0 .ext;simp only [RV,RVs,RD] at h0;obtain ⟨vs,rfl,⟨u,us,rfl,rfl,u2,us2,rfl,rfl,rfl⟩,_⟩:=h0
 have hg : Tryz.prog.globalNamed "internal/strconv.uint64pow10" = some 0 := by kernel_rfl
 refine Tryz.rkeyT_walk x.ambient_ x.language_ l hc.1 hc.2 a cap w (ht 0 hg).2.2 fun i n hi=>?_;rcases hl with rfl|⟨b,o,rfl,hl⟩
 ·simp at hi
 ·exact ⟨b,o,rfl,himm _ _ (hl i n hi).1,(hl i n hi).2⟩
end Go.Proofs
end
section

end
section
namespace Go.Proofs
open Go Go.Abs
set_option maxRecDepth 10000
set_option maxHeartbeats 4000000
theorem Qz4:Qlu Tryz.prog 39 Qqz:=Qwu Q1d
theorem Qz5:Qlv Tryz.prog 97 Qi1:=Qwv Q1i Q2
theorem Q2v:Qnm Tryz.prog 108 Qks:=Qzh Q3x Q2
theorem Qec:Qc8 Tryz.prog 62 Qck:=Qvo Q2v Qzu
theorem Qw6:Qke Tryz.prog 98 Qh4:=Quf Qec Qyg Q2
theorem Qkx:Qhq Tryz.prog 48 Qfr:=Q02 Qz5 Qw6 Q5b
theorem Qv5:Qmi Tryz.prog 139 Qii:=Q2c Q6l Q2
theorem Q2w:Qnn Tryz.prog 140 Qn0:=Qzi Q3z
theorem Q5i:Qp8 Tryz.prog 99 Qmk:=Q2d Qv5 Q2w Q6i
theorem Q35:Qo0 Tryz.prog 49 Qhr:=Q03 Q5i Q5c
theorem Q1k:Qmq Tryz.prog 50 Qju:=Qxy Q2n Q2
theorem Q5j:Qp9 Tryz.prog 22 Qml:=Q2e Qkx Q35 Q1k Q6g Q2
theorem Q6n:Qr9 Tryz.prog 88 Qn1:=Q3m Qkx Q8k Q2
theorem Q2x:Qno Tryz.prog 172 Qn2:=Qzj Q32
theorem Q5k:Qqa Tryz.prog 155 Qj6:=Q2f Qv5 Q2x Q6m
theorem Q5l:Qqb Tryz.prog 131 Qhc:=Q2g Q5k Q6j Q2
theorem Q8u:Qud Tryz.prog 89 Qpi:=Q46 Q5l Q9p Q2
theorem Qti:Qiw Tryz.prog 90 Qgl:=Qq8 Quu Q2
theorem Q6o:Qsa Tryz.prog 171 Qsx:=Q3n Q8o
theorem Q8v:Que Tryz.prog 153 Qmc:=Q47 Q6o Q9q
theorem Q2y:Qnp Tryz.prog 154 Qkt:=Qzk Q31
theorem Qlr:Qgj Tryz.prog 128 Qdc:=Qq9 Q8v Q2y Quw Q2
theorem Ql2:Qhu Tryz.prog 85 Qgf:=Qxz Qlr Q2q
theorem Qux:Qjc Tryz.prog 92 Qg3:=Qsp Ql2 Qvz Q2
theorem Qep:Qds Tryz.prog 58 Qcf:=Qzl Q3u
theorem Qw7:Qkf Tryz.prog 93 Qh5:=Qug Qep Ql2 Qyf Q2
theorem Qkn:Qgt Tryz.prog 42 Qbj:=Qvp Q6n Q8u Qti Tryz.keyK Qux Qw7 Qzt Q2
theorem Qt7:Qlh Tryz.prog 43 Qjg:=Q04 Qkn Q49
theorem Qp3:Qg7 Tryz.prog 118 Qe8:=Qn9 Qql Q2
theorem Q36:Qo1 Tryz.prog 119 Qli:=Q05 Q5g
theorem Q37:Qo2 Tryz.prog 120 Qlj:=Q06 Q5h
theorem Q6p:Qsc Tryz.prog 79 Qjh:=Q3o Qp3 Q36 Q37 Q8j
theorem Qyl:Qk3 Tryz.prog 132 Qiq:=Qvq Qep Q6p Qlr Qzz Q2
theorem Q2z:Qnq Tryz.prog 94 Qku:=Qzm Qkx Qyl Q3v Q2
theorem Qxu:Qnr Tryz.prog 134 Qla:=Q3p Q8n Q2
theorem Qxv:Qns Tryz.prog 133 Qlb:=Q3q Q8m Q2
theorem Q1l:Qmr Tryz.prog 136 Qhx:=Qx0 Q2s
theorem Q5m:Qqc Tryz.prog 135 Qmm:=Q2h Q6k Q2
theorem Q1m:Qms Tryz.prog 138 Qgg:=Qx1 Q2u
theorem Q1n:Qmt Tryz.prog 137 Qhy:=Qx2 Q1m Q2t Q2
theorem Q38:Qo3 Tryz.prog 96 Qlk:=Q07 Qxv Qxu Q5m Q1l Q1n Q5f Q2
theorem Q6q:Qsg Tryz.prog 95 Qn3:=Q3r Qep Qxv Qxu Q8l Q2
theorem Qm0:Qin Tryz.prog 45 Qdv:=Qzn Qkx Q6q Q38 Q3t
theorem Q39:Qo4 Tryz.prog 44 Qll:=Q08 Qm0 Qep Q2z Q5a
theorem Q1o:Qmu Tryz.prog 16 Qhz:=Qx3 Q5j Qt7 Q39 Q2j
theorem Q20:Qnt Tryz.prog 100 Qkv:=Qzo Q3w Q2
theorem Qn5:Qjd Tryz.prog 51 Qhs:=Q09 Q1o Qkn Q20 Q5d Q2
theorem Qc2:Qci Tryz.prog 63 Qba:=Qvr Qzv
theorem Qfz:Qea Tryz.prog 59 Qc1:=Quh Qec Qyd
theorem Qme:Qg1 Tryz.prog 101 Qfs:=Qsq Qep Qfz Qec Qc2 Tryz.rowK124 Tryz.compK125 Qv0 Q2
theorem Qtj:Qix Tryz.prog 52 Qgm:=Qra Qme Quq
theorem Qif:Qe4 Tryz.prog 65 Qd5:=Qrb Qc2 Qus
theorem Qqm:Qhi Tryz.prog 107 Qft:=Qo6 Qc2 Qrf
theorem Qw8:Qkg Tryz.prog 143 Qkm:=Qui Qyi Q2
theorem Qtk:Qiy Tryz.prog 106 Qgn:=Qrc Qw8 Quv
theorem Qs0:Qib Tryz.prog 54 Qf8:=Qqd Qec Qif Qtk Qqm Qtf Q2
theorem Qz6:Qph Tryz.prog 56 Qmd:=Q48 Ql2 Q9o Q2
theorem Qv6:Qjp Tryz.prog 55 Qhj:=Qtb Qep Qfz Qc2 Qw4 Q2
theorem Qjw:Qga Tryz.prog 57 Qe3:=Quj Qc2 Qyc
theorem Qtl:Qiz Tryz.prog 60 Qe5:=Qrd Qec Qc2 Qme Qur Q2
theorem Qv7:Qmj Tryz.prog 23 Qj7:=Q2i Qn5 Qtj Tryz.rkeyTK Qs0 Qv6 Qz6 Qjw Qep Qfz Qtl Q6h Q2
theorem Qs1:Qic Tryz.prog 144 Qlq:=Qqe Qth
theorem Qbf3:Qt1 Tryz.prog 146 Q33:=Qzp Q30
theorem Qmf:Qg2 Tryz.prog 110 Qji:=Qsr Qjw Qfz Qs1 Tryz.rowK145 Qv1 Q2
theorem Qw9:Qkh Tryz.prog 111 Qor:=Quk Tryz.rkeyTK Qyh Q2
theorem Quy:Qje Tryz.prog 113 Qnb:=Qss Qif Qv2
theorem Quz:Qjf Tryz.prog 147 Qnc:=Qst Qv3 Q2
theorem Qrg:Qhv Tryz.prog 112 Qlc:=Qp1 Quz Qsv
theorem Qv8:Qjq Tryz.prog 114 Qn4:=Qtc Qjw Qmf Qw5 Q2
theorem Qxa:Qki Tryz.prog 66 Qos:=Qul Qm0 Qep Qfz Qec Qc2 Qmf Qw9 Qrg Quy Qv8 Qye Q2
theorem Qs2:Qkr Tryz.prog 109 Qg4:=Qzq Q3y Q2
theorem Q1p:Qmv Tryz.prog 115 Qsy:=Qx4 Q2r Q2
theorem Q4a:Qo5 Tryz.prog 67 Qv4:=Q1a Qs2 Q1p Q5e
theorem Q1q:Qmw Tryz.prog 26 Qsz:=Qx5 Qn5 Qxa Q4a Q2l Q2
theorem Qi0:Qfq Tryz.prog 28 Qdr:=Qsu Qvy Q2
theorem Qym:Qk5 Tryz.prog 12 Qld:=Qvs Qv7 Q1q Qi0 Qz4 Qzs
theorem Qs3:Qid Tryz.prog 40 Qd0:=Qqf Qte Q2
theorem Qot:Qio Tryz.prog 86 Qgw:=Qvt Qzw
theorem Qeq:Qdm Tryz.prog 72 Q8:=Qww Q1g Q2
theorem Qq0:Qjr Tryz.prog 47 Qeo:=Qx6 Q2m Q2
theorem Qyn:Qk6 Tryz.prog 129 Qir:=Qvu Qq0 Qeq Qzx Q2
theorem Qyo:Qk7 Tryz.prog 130 Qgx:=Qvv Qzy Q2
theorem Qls:Qgk Tryz.prog 87 Qe6:=Qre Qq0 Qeq Qot Qyn Qyo Qut Q2
theorem Qz7:Qlw Tryz.prog 41 Qhf:=Qwx Qot Qls Q1e Q2
theorem Qz8:Qlx Tryz.prog 13 Qi2:=Qwy Qs3 Qz7 Q1b Q2
theorem Qz9:Qly Tryz.prog 14 Qi3:=Qwz Qkn Qt7 Q1c Q2
theorem Qf3:Qen Tryz.prog 68 Qd3:=Qx7 Q2o Q2
theorem Qn6:Qh3 Tryz.prog 160 Qgb:=Qum Qf3 Qyj Q2
theorem Qxb:Qkj Tryz.prog 185 Qh6:=Qun Qf3 Qyk Q2
theorem Qou:Qip Tryz.prog 159 Qgy:=Qvw Qf3 Qxb Qz1 Q2
theorem Qyp:Qk8 Tryz.prog 148 Qis:=Qvx Qou Qn6 Qz0
theorem Qrh:Qhw Tryz.prog 116 Qfy:=Qp2 Qyp Qsw
theorem Qq1:Qjs Tryz.prog 20 Qjv:=Qx8 Q2k Q2
theorem Q0a:Qlz Tryz.prog 149 Qi4:=Qw0 Qf3 Qou Qn6 Q1j Q2
theorem Qs4:Qie Tryz.prog 117 Qf9:=Qqg Qq1 Qeq Q0a Qtg
theorem Qp4:Qg8 Tryz.prog 70 Qe9:=Qoa Qi0 Qrh Qs4 Qqj Q2
theorem Qp5:Qg9 Tryz.prog 71 Qfa:=Qob Qq1 Qeq Qqk Q2
theorem Qv9:Qjt Tryz.prog 29 Qhk:=Qtd Qf3 Qw3 Q2
theorem Q0b:Ql0 Tryz.prog 73 Qhg:=Qw1 Qf3 Qeq Q1h Q2
theorem Qp6:Qha Tryz.prog 31 Qfb:=Qoc Qv9 Qp4 Qp5 Qeq Q0b Qqi Q2
theorem Q0c:Ql1 Tryz.prog 61 Qi5:=Qw2 Qc2 Q1f Q2
theorem Qbca:Qzg Tryz.prog 64 Qt6:=Q8i Qs2 Qbd1
theorem Q21:Qnx Tryz.prog 24 Qkw:=Qzr Qn5 Qz6 Q0c Qec Qc2 Qbca Qif Q3s
theorem Q59:Qj3 Tryz.prog 6 Qhd:=Qod Qym Qz8 Qz9 Qv7 Q21 Qi0 Qp6 Qqh
theorem Qxc:Qkk Tryz.prog 46 Qh7:=Quo Qls Qyb Q2
theorem Qbcb:Qop Tryz.prog 18 Qh8:=Qup Qm0 Qxc Qya
theorem Qbfg:Qsn Tryz.prog 69 Qmz:=Qx9 Qeq Q2p Q2
end Go.Proofs
end
section
namespace Go.Abs
open Go Go.ChangeShapes Go.WideShapes Go.ChangeAt Go.RowKit
def live(w:World):Nat->Nat->Prop:=fun b o=>(w.cell? ⟨b,o,none⟩).isSome=true
def RDs(w:World):List D->List Value->Prop
 |[],vs=>vs=[]
 |x::xs,vs=>∃u us,vs=u::us/\RD (live w) w x u/\RDs w xs us
theorem Qbaw{w:World}:∀{xs ys:List D}{us vs:List Value},RDs w xs us->RDs w ys vs->RDs w (xs++ys) (us++vs)
 |[],ys,us,vs,h,k=>by grind [RDs]
 |x::xs,ys,us,vs,⟨u,a,e,r,h⟩,k=>by subst e;exact⟨u,a++vs,by simp,r,Qbaw h k⟩
def RDat(w:World)(cs:List Value)(off:Nat)(xs:List D):Prop:=RDs w xs ((cs.drop off).take xs.length)
theorem RDat.app{w:World}{cs:List Value}{off:Nat}{xs ys:List D}(h:RDat w cs off xs){n:Nat}(a:n=off+xs.length)(k:RDat w cs n ys):RDat w cs off (xs++ys):=by
 grind [Qbaw,RDat,List.length_append,List.drop_drop]
theorem RDat.nil{w:World}{cs:List Value}{off:Nat}:RDat w cs off []:=by simp[RDat,RDs]
theorem RDat.all{w:World}{cs:List Value}{xs:List D}(h:RDat w cs 0 xs)(a:cs.length=xs.length):RDs w xs cs:=by
 grind [RDat,List.take_length]
theorem Qblr{w:World}{b:Nat}:∀{xs:List D}{vs:List Value}{o:Nat},RDs w xs vs->(∀i v,vs[i]? = some v->w.cell? ⟨b,o+i,none⟩=some v)->RDc (live w) w b xs o
 |[],vs,o,_,_=>by simp[RDc]
 |x::xs,vs,o,⟨u,us,e,r,h⟩,hc=>by
  subst e;have a:=hc 0 u rfl;rw[Nat.add_zero] at a;refine⟨by simp[live,a],⟨u,a,r⟩,Qblr h fun i v c=>?_⟩;have:=hc (i+1) v (by simpa using c)
  grind
def Q5n{α:Type}(P:Program)(t:TypeId)(e:α->List D)(d:α->Prop):Prop :=
 ∀{H:Type}{enc:TypeId×Value->H}{w:World}{base:Nat}{b:Nat->Bool}{c:Bool}{fuel:Nat}{cs:List Value}{x:DataW H×List MemPlace},
  DataW.trod enc P w base b c fuel t cs=some x->∃a,d a/\RDs w (e a) cs
def wfI(k:IntKind)(n:Int):Prop:=(Lit.int k n).wf=true
def wfL{α:Type}(b:α->Prop)(l:List α):Prop:=l.length<=maxLen/\∀a∈l,b a
variable{P:Program}{t:TypeId}
theorem Qbd7{k:IntKind}(d:P.underlying t=some (.int k)):Q5n P t (fun n:Int=>[.int k n]) (wfI k):=by
 intro H enc w base a b fuel cs x h;obtain⟨n,rfl,_,c⟩:=DataW.trod_int d h;exact⟨n,c,_,_,rfl,by simp[RD],rfl⟩
theorem cells?_get {w:World} {base:Nat} {a:Addr} {n:Nat} {cs:List Value} (h:w.cells? base a n=some cs):cs.length=n/\∀i v,cs[i]? = some v->w.cell? (a.add i)=some v:=by
 obtain⟨d,c,b⟩:=World.cells?_some h
 grind
theorem Qbqg{α:Type}{L:TypeId}{e:α->List D}{r:α->Prop}{sz:Nat}(U:P.underlying t=some (.slice L))(he:Q5n P L e r)(C:P.cellsOf L=sz)(Q:0<sz)(k:∀a,(e a).length=sz):
  Q5n P t (fun l:List α=>[.lst sz (l.map e)]) (wfL r):=by
 intro H enc w base u R fuel cs x h;rcases DataW.trod_slice U h with⟨rfl,_⟩|⟨a,len,M,Qhn,N,n,_,rfl,_,hb,X,hm,E,F,_,_⟩
 ·exact⟨[],⟨by simp,by simp⟩,_,_,rfl,by simp only[RD,Zi,Zar];exact⟨none,0,rfl,Ze _,.inl trivial⟩,rfl⟩
 ·have key:∀m,m<=len->∃l:List α,l.length=m/\(∀x∈l,r x)/\∀i y,l[i]? = some y->∃vs,w.cells? base (a.add (i*sz)) sz=some vs/\RDs w (e y) vs:=by
   intro m
   induction m with
   |zero=>simp_all
   |succ m A =>
    intro W;obtain⟨l,J,T,I⟩:=A (by omega);have d:=F m (by omega);have q:Qhn[m]? = some Qhn[m]:=Zk (by omega);rw[q,C,Zat] at d;obtain⟨vs,S,p⟩:=d;obtain⟨y,h8,h9⟩:=he p;refine⟨l++[y],by simp[J],?_,fun i z hz=>?_⟩
    all_goals grind
  obtain⟨l,J,T,I⟩:=key len (Ze _);have g:l.length<=maxLen:=by omega
  refine⟨l,⟨g,T⟩,_,_,rfl,?_,rfl⟩;simp only[RD,Zt,J];refine⟨some a,M,rfl,X,?_⟩;cases l with
  |nil=>exact .inl rfl
  |cons y l =>
   right;have c:a.spot=none:=by
    obtain⟨vs,d,q⟩:=I 0 y rfl;obtain⟨S,p⟩:=cells?_get d;have O:vs[0]? = some vs[0]:=Zk (by omega);have:=p 0 _ O;cases hs:a.spot with
    |none=>rfl
    |some s =>
     grind [Go.World.cell?,Go.Addr.add]
   obtain⟨b,o,sp⟩:=a;simp only at c;subst c;refine⟨b,o,rfl,?_⟩;have row:∀(l:List α)(j:Nat),(∀i y,l[i]? = some y->∃vs,w.cells? base ((⟨b,o,none⟩ : Addr).add ((j+i)*sz)) sz=some vs/\RDs w (e y) vs)->RDL (live w) w sz b (l.map e) (o+j*sz):=by
    intro l
    induction l with
    |nil=>intro j _;simp[RDL]
    |cons y l A =>
     intro j h;obtain⟨vs,d,q⟩:=h 0 y rfl;obtain⟨S,p⟩:=cells?_get d;refine⟨k y,Qblr q fun i v O=>?_,?_⟩
     ·grind [Qik,Nat.add_assoc]
     ·have:=A (j+1) fun i y B=>by
       have:=h (i+1) y (by simpa using B)
       grind
      grind
   have:=row (y::l) 0 fun i y B=>by simpa using I i y B
   simpa using this
theorem Qf0{α:Type}{d:TypeId}{e:α->List D}{g:α->Prop}{sz:Nat}(k:Q5n P d e g)(j:P.cellsOf d=sz)(i:∀a,(e a).length=sz){H:Type}{enc:TypeId×Value->H}{w:World}{base:Nat}{b:Nat->Bool}{c:Bool}{fuel off:Nat}{cs:List Value}{x:DataW H×List MemPlace}(h:DataW.trod enc P w base b c fuel d ((cs.drop off).take (P.cellsOf d))=some x):∃a,g a/\RDat w cs off (e a):=by
 obtain⟨a,m,l⟩:=k h
 grind [RDat]
theorem Qbd8{H:Type}{enc:TypeId×Value->H}{w:World}{base:Nat}{a:Nat->Bool}{b:Bool}{fuel:Nat}{cs:List Value}{x:DataW H×List MemPlace}{c:Array Field}(d:P.underlying t=some (.struct c))(h:DataW.trod enc P w base a b fuel t cs=some x):
  cs.length=P.cellsOf t/\∃n,∀(i:Nat)(f:Field),c[i]? = some f->∃y,DataW.trod enc P w base a b n f.type ((cs.drop f.offset).take (P.cellsOf f.type))=some y:=by
 obtain⟨xs,n,_,_,e,k,j⟩:=DataW.trod_struct d h;refine⟨e,n,fun i f g=>?_⟩
 grind
theorem Qbn1{H:Type}{enc:TypeId×Value->H}{w:World}{base:Nat}{a:Nat->Bool}{b:Bool}{fuel:Nat}{cs:List Value}{x:DataW H×List MemPlace}{n:Nat}{c:TypeId}(d:P.underlying t=some (.array n c))(h:DataW.trod enc P w base a b fuel t cs=some x):
  cs.length=P.cellsOf t/\∃m,∀i,i<n->∃y,DataW.trod enc P w base a b m c ((cs.drop (i*P.cellsOf c)).take (P.cellsOf c))=some y:=by
 obtain⟨xs,m,_,_,e,k,j⟩:=DataW.trod_array d h;exact⟨e,m,fun i g=>⟨xs[i]'(by omega),by grind⟩⟩
def Qbcc{α:Type}(P:Program)(t:TypeId)(v:α->V)(e:α->Prop):Prop :=
 ∀{H:Type}{enc:TypeId×Value->H}{w:World}{base h:Nat}{b:Nat->Bool}{c:Bool}{u:Value}{d:DataW H}{g:List MemPlace},
  Value.okWide P w .any h t u->DataW.Trod enc P w base b c t u d g->∃a,e a/\RF ⟨fun _=>0,live w,fun _=>.ext⟩ w (v a) u
theorem Qbrr{imm:Nat->Nat->Prop}{w:World}{x:D}{u:Value}(h:RD imm w x u):u.oneCell'=true:=by
 cases x with
 |int k n=>simp only[RD] at h;subst h;rfl
 |bool b=>simp only[RD] at h;subst h;rfl
 |str s=>simp only[RD] at h;subst h;rfl
 |lst sz l=>simp only[RD] at h;obtain⟨a,d,rfl,_⟩:=h;cases a<;>rfl
 |mp es c=>simp only[RD] at h;obtain⟨b,rfl,_⟩:=h;rfl
theorem Qbls{w:World}{g:G}(c:g.imm=live w):∀{xs:List D}{us:List Value}{ℓ:Owner}{i:Nat},RDs w xs us->RVs g w (xs.map V.d) ℓ i us/\∀u∈us,u.oneCell'=true
 |[],us,ℓ,i,h=>by grind [RDs,RVs]
 |x::xs,us,ℓ,i,⟨u,a,e,r,h⟩=>by
  subst e;obtain⟨k,j⟩:=Qbls c (ℓ:=ℓ) (i:=i+1) h;refine⟨⟨u,a,rfl,by simpa[RV,c] using r,k⟩,fun v b=>?_⟩;rcases Zaj.1 b with rfl|b
  ·exact Qbrr r
  ·exact j v b
theorem Qbqh{α:Type}{e:α->List D}{k:α->Prop}(q:Q5n P t e k)(c:(∃m,P.underlying t=some (.struct m))\/∃n o,P.underlying t=some (.array n o)):Qbcc P t (fun a=>.agg ((e a).map V.d)) k:=by
 intro H enc w base A h l u d z b r;obtain⟨cs,rfl⟩ : ∃cs,u = .agg cs:=by
  rcases c with⟨m,j⟩|⟨n,o,j⟩
  ·simp only[Value.okWide,j] at b;grind
  ·simp only[Value.okWide,j] at b;grind
 obtain⟨fuel,p⟩:=r;obtain⟨a,y,x⟩:=q p;refine⟨a,y,fun ℓ=>?_⟩;simp only[RV];obtain⟨v,s⟩:=Qbls (g:=⟨fun _=>0,live w,fun _=>.ext⟩) rfl (ℓ:=ℓ) (i:=0) x;exact⟨cs.toList,by simp,v,s⟩
def Qbrs(P:Program)(f:FuncId)(ts:List TypeId):Prop :=
 ∀{H:Type}{enc:TypeId×Value->H}{w:World}{b:Nat}{us:List Value}{ds:List (DataW H)}{a:List MemPlace},
  (∀(j:Nat)t u,ts[j]? = some t->us[j]? = some u->Value.okWide P w .any b t u)->DataW.TrodAll enc P w 0 (fun _=>true) true ts us ds a ->
  ∃vs,RFs ⟨fun _=>0,live w,fun _=>.ext⟩ w vs us/\(∀x∈vs,Flat x)/\V.lt.go 0 vs=true/\∀M nb,ACalls P f vs M nb (.d (.bool true)) M nb
theorem Q4b(i:laidOutB P=true){W j : World}{c:Nat->Bool}{H:Type}{enc:TypeId×Value->H}:∀{ts:List TypeId}{us:List Value}{ds:List (DataW H)}{b:List MemPlace},
  (∀t∈ts,P.readableRec t=true/\t<P.types.size)->DataW.TrodAll enc P W 0 (fun _=>true) true ts us ds b->(∀p∈b,W.sameAt j p)->(∀p∈b,c p.block=true)->DataW.TrodAll enc P j 0 c true ts us ds b
 |[],[],[],b,_,h,_,_=>h
 |t::ts,u::us,d::ds,b,hr,⟨p,q,h1,n,e⟩,g,hp=>by
  subst e;obtain⟨l,k⟩:=hr t (by simp);exact⟨p,q,WideElems.Trod_stays i l k h1 (fun x a=>g x (by simp[a])) (fun x a=>hp x (by simp[a])),Q4b i (fun t m=>hr t (by simp[m])) n (fun x a=>g x (by simp[a])) (fun x a=>hp x (by simp[a])),rfl⟩
 |[],[],_::_,_,_,h,_,_=>h.elim
 |[],_::_,_,_,_,h,_,_=>h.elim
 |_::_,[],_,_,_,h,_,_=>h.elim
 |_::_,_::_,[],_,_,h,_,_=>h.elim
theorem Q8w{W:World}{c:Nat->Bool}{a:Bool}{base:Nat}{H:Type}{enc:TypeId×Value->H}:∀{ts:List TypeId}{us:List Value}{ds:List (DataW H)}{b:List MemPlace},
  DataW.TrodAll enc P W base c a ts us ds b->ds.length=ts.length/\us.length=ts.length
 |[],[],[],b,h=>⟨rfl,rfl⟩
 |t::ts,u::us,d::ds,b,⟨p,q,h1,g,e⟩=>by have:=Q8w g;simp[this.1,this.2]
 |[],[],_::_,_,h=>h.elim
 |[],_::_,_,_,h=>h.elim
 |_::_,[],_,_,h=>h.elim
 |_::_,_::_,[],_,h=>h.elim
section
variable{α β γ δ:Type}{f:FuncId}{ta tb tc td:TypeId}{va:α->V}{vb:β->V}{vc:γ->V}{vd:δ->V}{wa:α->Prop}{wb:β->Prop}{wc:γ->Prop}{wd:δ->Prop}
theorem Qbr7(k:Qbcc P ta va wa)(m:∀a,(va a).dem=va a)(la:∀a,(va a).lt 0=true)(g:∀a,wa a->∀M nb,ACalls P f [va a] M nb (.d (.bool true)) M nb):Qbrs P f [ta]:=by
 intro H enc w o us ds n i b
 match us,ds,b with
 |[u],[d],⟨p,q,l,c,e⟩ =>
  obtain⟨a,ha,h⟩:=k (i 0 _ _ rfl rfl) l;exact⟨[va a],⟨u,[],rfl,h,rfl⟩,fun x j=>by rw[Zak] at j;subst j;exact m a,by simp[V.lt.go,la],g a ha⟩
 |[],_,b=>cases ‹List (DataW H)› <;> exact b.elim
 |[_],[],b=>exact b.elim
 |[_],_::_::_,⟨_,_,_,c,_⟩=>exact c.elim
 |_::_::_,[],b=>exact b.elim
 |_::_::_,[_],⟨_,_,_,c,_⟩=>exact c.elim
 |_::_::_,_::_::_,⟨_,_,_,c,_⟩=>exact c.elim
end
theorem Qbhv{H:Type}{enc:TypeId×Value->H}{w:World}{base:Nat}{a:Nat->Bool}{b:Bool}{fuel:Nat}{cs:List Value}{x:DataW H×List MemPlace}{n sz:Nat}{c:TypeId}(d:P.underlying t=some (.array n c))(e:P.cellsOf c=sz)(h:DataW.trod enc P w base a b fuel t cs=some x):
  cs.length=P.cellsOf t/\∃m,∀i,i<n->∃y,DataW.trod enc P w base a b m c ((cs.drop (i*sz)).take (P.cellsOf c))=some y:=by
 obtain⟨g,m,k⟩:=Qbn1 d h;exact⟨g,m,fun i j=>by grind⟩
end Go.Abs
end
section
namespace Go.Proofs
open Go Go.Abs
set_option maxRecDepth 100000
def W_22(x:Int):Prop:=wfI .u8 x
theorem R_22:Q5n Tryz.prog 22 (eI .u8) W_22:=Qbd7 Tryz.underlying22
def W_23(x:Int×Int×Int×Int×Int):Prop:=W_22 x.1/\W_22 x.2.1/\W_22 x.2.2.1/\W_22 x.2.2.2.1/\W_22 x.2.2.2.2
theorem R_23:Q5n Tryz.prog 23 (fun p:Int×Int×Int×Int×Int=>[.int .u8 p.1,.int .u8 p.2.1,.int .u8 p.2.2.1,.int .u8 p.2.2.2.1,.int .u8 p.2.2.2.2]) W_23:=by
  intro H enc w base b c fuel cs x h;obtain⟨z,n,a⟩:=Qbhv (sz:=1) Tryz.underlying23 (by kernel_rfl) h;obtain⟨N,F⟩:=a 0 (by decide);obtain⟨i,w0,v⟩:=Qf0 (off:=0*1) (sz:=1) R_22 (by kernel_rfl) (fun _=>rfl) F;obtain⟨M,E⟩:=a 1 (by decide);obtain⟨g,o,u⟩:=Qf0 (off:=1*1) (sz:=1) R_22 (by kernel_rfl) (fun _=>rfl) E;obtain⟨L,C⟩:=a 2 (by decide);obtain⟨f,m,s⟩:=Qf0 (off:=2*1) (sz:=1) R_22 (by kernel_rfl) (fun _=>rfl) C;obtain⟨J,B⟩:=a 3 (by decide);obtain⟨e,l,r⟩:=Qf0 (off:=3*1) (sz:=1) R_22 (by kernel_rfl) (fun _=>rfl) B;obtain⟨I,A⟩:=a 4 (by decide);obtain⟨d,j,q⟩:=Qf0 (off:=4*1) (sz:=1) R_22 (by kernel_rfl) (fun _=>rfl) A;exact⟨(i,g,f,e,d),⟨w0,o,m,l,j⟩,RDat.all (xs:=(fun p:Int×Int×Int×Int×Int=>[.int .u8 p.1,.int .u8 p.2.1,.int .u8 p.2.2.1,.int .u8 p.2.2.2.1,.int .u8 p.2.2.2.2]) (i,g,f,e,d)) (RDat.app v rfl (RDat.app u rfl (RDat.app s rfl (RDat.app r rfl q)))) (z.trans (by kernel_rfl))⟩
def W_5(x:Int):Prop:=wfI .u8 x
theorem R_5:Q5n Tryz.prog 5 (eI .u8) W_5:=Qbd7 Tryz.underlying5
def W_24(x:Int×Int×Int×Int×Int):Prop:=W_5 x.1/\W_5 x.2.1/\W_5 x.2.2.1/\W_5 x.2.2.2.1/\W_5 x.2.2.2.2
theorem R_24:Q5n Tryz.prog 24 (fun p:Int×Int×Int×Int×Int=>[.int .u8 p.1,.int .u8 p.2.1,.int .u8 p.2.2.1,.int .u8 p.2.2.2.1,.int .u8 p.2.2.2.2]) W_24:=by
  intro H enc w base b c fuel cs x h;obtain⟨z,n,a⟩:=Qbhv (sz:=1) Tryz.underlying24 (by kernel_rfl) h;obtain⟨N,F⟩:=a 0 (by decide);obtain⟨i,w0,v⟩:=Qf0 (off:=0*1) (sz:=1) R_5 (by kernel_rfl) (fun _=>rfl) F;obtain⟨M,E⟩:=a 1 (by decide);obtain⟨g,o,u⟩:=Qf0 (off:=1*1) (sz:=1) R_5 (by kernel_rfl) (fun _=>rfl) E;obtain⟨L,C⟩:=a 2 (by decide);obtain⟨f,m,s⟩:=Qf0 (off:=2*1) (sz:=1) R_5 (by kernel_rfl) (fun _=>rfl) C;obtain⟨J,B⟩:=a 3 (by decide);obtain⟨e,l,r⟩:=Qf0 (off:=3*1) (sz:=1) R_5 (by kernel_rfl) (fun _=>rfl) B;obtain⟨I,A⟩:=a 4 (by decide);obtain⟨d,j,q⟩:=Qf0 (off:=4*1) (sz:=1) R_5 (by kernel_rfl) (fun _=>rfl) A;exact⟨(i,g,f,e,d),⟨w0,o,m,l,j⟩,RDat.all (xs:=(fun p:Int×Int×Int×Int×Int=>[.int .u8 p.1,.int .u8 p.2.1,.int .u8 p.2.2.1,.int .u8 p.2.2.2.1,.int .u8 p.2.2.2.2]) (i,g,f,e,d)) (RDat.app v rfl (RDat.app u rfl (RDat.app s rfl (RDat.app r rfl q)))) (z.trans (by kernel_rfl))⟩
def W_25(x:(Int×Int×Int×Int×Int)×(Int×Int×Int×Int×Int)×(Int×Int×Int×Int×Int)×(Int×Int×Int×Int×Int)×(Int×Int×Int×Int×Int)):Prop:=W_24 x.1/\W_24 x.2.1/\W_24 x.2.2.1/\W_24 x.2.2.2.1/\W_24 x.2.2.2.2
theorem R_25:Q5n Tryz.prog 25 (fun p:(Int×Int×Int×Int×Int)×(Int×Int×Int×Int×Int)×(Int×Int×Int×Int×Int)×(Int×Int×Int×Int×Int)×(Int×Int×Int×Int×Int)=>[.int .u8 p.1.1,.int .u8 p.1.2.1,.int .u8 p.1.2.2.1,.int .u8 p.1.2.2.2.1,.int .u8 p.1.2.2.2.2,.int .u8 p.2.1.1,.int .u8 p.2.1.2.1,.int .u8 p.2.1.2.2.1,.int .u8 p.2.1.2.2.2.1,.int .u8 p.2.1.2.2.2.2,.int .u8 p.2.2.1.1,.int .u8 p.2.2.1.2.1,.int .u8 p.2.2.1.2.2.1,.int .u8 p.2.2.1.2.2.2.1,.int .u8 p.2.2.1.2.2.2.2,.int .u8 p.2.2.2.1.1,.int .u8 p.2.2.2.1.2.1,.int .u8 p.2.2.2.1.2.2.1,.int .u8 p.2.2.2.1.2.2.2.1,.int .u8 p.2.2.2.1.2.2.2.2,.int .u8 p.2.2.2.2.1,.int .u8 p.2.2.2.2.2.1,.int .u8 p.2.2.2.2.2.2.1,.int .u8 p.2.2.2.2.2.2.2.1,.int .u8 p.2.2.2.2.2.2.2.2]) W_25:=by
  intro H enc w base b c fuel cs x h;obtain⟨z,n,a⟩:=Qbhv (sz:=5) Tryz.underlying25 (by kernel_rfl) h;obtain⟨N,F⟩:=a 0 (by decide);obtain⟨i,w0,v⟩:=Qf0 (off:=0*5) (sz:=5) R_24 (by kernel_rfl) (fun _=>rfl) F;obtain⟨M,E⟩:=a 1 (by decide);obtain⟨g,o,u⟩:=Qf0 (off:=1*5) (sz:=5) R_24 (by kernel_rfl) (fun _=>rfl) E;obtain⟨L,C⟩:=a 2 (by decide);obtain⟨f,m,s⟩:=Qf0 (off:=2*5) (sz:=5) R_24 (by kernel_rfl) (fun _=>rfl) C;obtain⟨J,B⟩:=a 3 (by decide);obtain⟨e,l,r⟩:=Qf0 (off:=3*5) (sz:=5) R_24 (by kernel_rfl) (fun _=>rfl) B;obtain⟨I,A⟩:=a 4 (by decide);obtain⟨d,j,q⟩:=Qf0 (off:=4*5) (sz:=5) R_24 (by kernel_rfl) (fun _=>rfl) A;exact⟨(i,g,f,e,d),⟨w0,o,m,l,j⟩,RDat.all (xs:=(fun p:(Int×Int×Int×Int×Int)×(Int×Int×Int×Int×Int)×(Int×Int×Int×Int×Int)×(Int×Int×Int×Int×Int)×(Int×Int×Int×Int×Int)=>[.int .u8 p.1.1,.int .u8 p.1.2.1,.int .u8 p.1.2.2.1,.int .u8 p.1.2.2.2.1,.int .u8 p.1.2.2.2.2,.int .u8 p.2.1.1,.int .u8 p.2.1.2.1,.int .u8 p.2.1.2.2.1,.int .u8 p.2.1.2.2.2.1,.int .u8 p.2.1.2.2.2.2,.int .u8 p.2.2.1.1,.int .u8 p.2.2.1.2.1,.int .u8 p.2.2.1.2.2.1,.int .u8 p.2.2.1.2.2.2.1,.int .u8 p.2.2.1.2.2.2.2,.int .u8 p.2.2.2.1.1,.int .u8 p.2.2.2.1.2.1,.int .u8 p.2.2.2.1.2.2.1,.int .u8 p.2.2.2.1.2.2.2.1,.int .u8 p.2.2.2.1.2.2.2.2,.int .u8 p.2.2.2.2.1,.int .u8 p.2.2.2.2.2.1,.int .u8 p.2.2.2.2.2.2.1,.int .u8 p.2.2.2.2.2.2.2.1,.int .u8 p.2.2.2.2.2.2.2.2]) (i,g,f,e,d)) (RDat.app v rfl (RDat.app u rfl (RDat.app s rfl (RDat.app r rfl q)))) (z.trans (by kernel_rfl))⟩
def W_27(x:Qx):Prop:=W_5 x.zF/\W_5 x.Marks/\W_25 x.To
theorem R_27:Q5n Tryz.prog 27 Qpo W_27:=by
  intro H enc w base a c fuel cs x h;obtain⟨o,n,b⟩:=Qbd8 Tryz.underlying27 h;obtain⟨v,r⟩:=b 0 _ rfl;obtain⟨f,w0,m⟩:=Qf0 (off:=0) (sz:=1) R_5 (by kernel_rfl) (fun _=>rfl) r;obtain⟨u,q⟩:=b 1 _ rfl;obtain⟨e,i,l⟩:=Qf0 (off:=1) (sz:=1) R_5 (by kernel_rfl) (fun _=>rfl) q;obtain⟨s,p⟩:=b 2 _ rfl;obtain⟨d,g,j⟩:=Qf0 (off:=2) (sz:=25) R_25 (by kernel_rfl) (fun _=>rfl) p;exact⟨⟨f,e,d⟩,⟨w0,i,g⟩,RDat.all (xs:=Qpo ⟨f,e,d⟩) (RDat.app m rfl (RDat.app l rfl j)) (o.trans (by kernel_rfl))⟩
def W_28(x:Qx×Qx×Qx):Prop:=W_27 x.1/\W_27 x.2.1/\W_27 x.2.2
theorem R_28:Q5n Tryz.prog 28 (fun p:Qx×Qx×Qx=>[.int .u8 p.1.zF,.int .u8 p.1.Marks,.int .u8 p.1.To.1.1,.int .u8 p.1.To.1.2.1,.int .u8 p.1.To.1.2.2.1,.int .u8 p.1.To.1.2.2.2.1,.int .u8 p.1.To.1.2.2.2.2,.int .u8 p.1.To.2.1.1,.int .u8 p.1.To.2.1.2.1,.int .u8 p.1.To.2.1.2.2.1,.int .u8 p.1.To.2.1.2.2.2.1,.int .u8 p.1.To.2.1.2.2.2.2,.int .u8 p.1.To.2.2.1.1,.int .u8 p.1.To.2.2.1.2.1,.int .u8 p.1.To.2.2.1.2.2.1,.int .u8 p.1.To.2.2.1.2.2.2.1,.int .u8 p.1.To.2.2.1.2.2.2.2,.int .u8 p.1.To.2.2.2.1.1,.int .u8 p.1.To.2.2.2.1.2.1,.int .u8 p.1.To.2.2.2.1.2.2.1,.int .u8 p.1.To.2.2.2.1.2.2.2.1,.int .u8 p.1.To.2.2.2.1.2.2.2.2,.int .u8 p.1.To.2.2.2.2.1,.int .u8 p.1.To.2.2.2.2.2.1,.int .u8 p.1.To.2.2.2.2.2.2.1,.int .u8 p.1.To.2.2.2.2.2.2.2.1,.int .u8 p.1.To.2.2.2.2.2.2.2.2,.int .u8 p.2.1.zF,.int .u8 p.2.1.Marks,.int .u8 p.2.1.To.1.1,.int .u8 p.2.1.To.1.2.1,.int .u8 p.2.1.To.1.2.2.1,.int .u8 p.2.1.To.1.2.2.2.1,.int .u8 p.2.1.To.1.2.2.2.2,.int .u8 p.2.1.To.2.1.1,.int .u8 p.2.1.To.2.1.2.1,.int .u8 p.2.1.To.2.1.2.2.1,.int .u8 p.2.1.To.2.1.2.2.2.1,.int .u8 p.2.1.To.2.1.2.2.2.2,.int .u8 p.2.1.To.2.2.1.1,.int .u8 p.2.1.To.2.2.1.2.1,.int .u8 p.2.1.To.2.2.1.2.2.1,.int .u8 p.2.1.To.2.2.1.2.2.2.1,.int .u8 p.2.1.To.2.2.1.2.2.2.2,.int .u8 p.2.1.To.2.2.2.1.1,.int .u8 p.2.1.To.2.2.2.1.2.1,.int .u8 p.2.1.To.2.2.2.1.2.2.1,.int .u8 p.2.1.To.2.2.2.1.2.2.2.1,.int .u8 p.2.1.To.2.2.2.1.2.2.2.2,.int .u8 p.2.1.To.2.2.2.2.1,.int .u8 p.2.1.To.2.2.2.2.2.1,.int .u8 p.2.1.To.2.2.2.2.2.2.1,.int .u8 p.2.1.To.2.2.2.2.2.2.2.1,.int .u8 p.2.1.To.2.2.2.2.2.2.2.2,.int .u8 p.2.2.zF,.int .u8 p.2.2.Marks,.int .u8 p.2.2.To.1.1,.int .u8 p.2.2.To.1.2.1,.int .u8 p.2.2.To.1.2.2.1,.int .u8 p.2.2.To.1.2.2.2.1,.int .u8 p.2.2.To.1.2.2.2.2,.int .u8 p.2.2.To.2.1.1,.int .u8 p.2.2.To.2.1.2.1,.int .u8 p.2.2.To.2.1.2.2.1,.int .u8 p.2.2.To.2.1.2.2.2.1,.int .u8 p.2.2.To.2.1.2.2.2.2,.int .u8 p.2.2.To.2.2.1.1,.int .u8 p.2.2.To.2.2.1.2.1,.int .u8 p.2.2.To.2.2.1.2.2.1,.int .u8 p.2.2.To.2.2.1.2.2.2.1,.int .u8 p.2.2.To.2.2.1.2.2.2.2,.int .u8 p.2.2.To.2.2.2.1.1,.int .u8 p.2.2.To.2.2.2.1.2.1,.int .u8 p.2.2.To.2.2.2.1.2.2.1,.int .u8 p.2.2.To.2.2.2.1.2.2.2.1,.int .u8 p.2.2.To.2.2.2.1.2.2.2.2,.int .u8 p.2.2.To.2.2.2.2.1,.int .u8 p.2.2.To.2.2.2.2.2.1,.int .u8 p.2.2.To.2.2.2.2.2.2.1,.int .u8 p.2.2.To.2.2.2.2.2.2.2.1,.int .u8 p.2.2.To.2.2.2.2.2.2.2.2]) W_28:=by
  intro H enc w base a c fuel cs x h;obtain⟨o,n,b⟩:=Qbhv (sz:=27) Tryz.underlying28 (by kernel_rfl) h;obtain⟨z,s⟩:=b 0 (by decide);obtain⟨f,w0,m⟩:=Qf0 (off:=0*27) (sz:=27) R_27 (by kernel_rfl) (fun _=>rfl) s;obtain⟨v,r⟩:=b 1 (by decide);obtain⟨e,i,l⟩:=Qf0 (off:=1*27) (sz:=27) R_27 (by kernel_rfl) (fun _=>rfl) r;obtain⟨u,q⟩:=b 2 (by decide);obtain⟨d,g,j⟩:=Qf0 (off:=2*27) (sz:=27) R_27 (by kernel_rfl) (fun _=>rfl) q;exact⟨(f,e,d),⟨w0,i,g⟩,RDat.all (xs:=(fun p:Qx×Qx×Qx=>[.int .u8 p.1.zF,.int .u8 p.1.Marks,.int .u8 p.1.To.1.1,.int .u8 p.1.To.1.2.1,.int .u8 p.1.To.1.2.2.1,.int .u8 p.1.To.1.2.2.2.1,.int .u8 p.1.To.1.2.2.2.2,.int .u8 p.1.To.2.1.1,.int .u8 p.1.To.2.1.2.1,.int .u8 p.1.To.2.1.2.2.1,.int .u8 p.1.To.2.1.2.2.2.1,.int .u8 p.1.To.2.1.2.2.2.2,.int .u8 p.1.To.2.2.1.1,.int .u8 p.1.To.2.2.1.2.1,.int .u8 p.1.To.2.2.1.2.2.1,.int .u8 p.1.To.2.2.1.2.2.2.1,.int .u8 p.1.To.2.2.1.2.2.2.2,.int .u8 p.1.To.2.2.2.1.1,.int .u8 p.1.To.2.2.2.1.2.1,.int .u8 p.1.To.2.2.2.1.2.2.1,.int .u8 p.1.To.2.2.2.1.2.2.2.1,.int .u8 p.1.To.2.2.2.1.2.2.2.2,.int .u8 p.1.To.2.2.2.2.1,.int .u8 p.1.To.2.2.2.2.2.1,.int .u8 p.1.To.2.2.2.2.2.2.1,.int .u8 p.1.To.2.2.2.2.2.2.2.1,.int .u8 p.1.To.2.2.2.2.2.2.2.2,.int .u8 p.2.1.zF,.int .u8 p.2.1.Marks,.int .u8 p.2.1.To.1.1,.int .u8 p.2.1.To.1.2.1,.int .u8 p.2.1.To.1.2.2.1,.int .u8 p.2.1.To.1.2.2.2.1,.int .u8 p.2.1.To.1.2.2.2.2,.int .u8 p.2.1.To.2.1.1,.int .u8 p.2.1.To.2.1.2.1,.int .u8 p.2.1.To.2.1.2.2.1,.int .u8 p.2.1.To.2.1.2.2.2.1,.int .u8 p.2.1.To.2.1.2.2.2.2,.int .u8 p.2.1.To.2.2.1.1,.int .u8 p.2.1.To.2.2.1.2.1,.int .u8 p.2.1.To.2.2.1.2.2.1,.int .u8 p.2.1.To.2.2.1.2.2.2.1,.int .u8 p.2.1.To.2.2.1.2.2.2.2,.int .u8 p.2.1.To.2.2.2.1.1,.int .u8 p.2.1.To.2.2.2.1.2.1,.int .u8 p.2.1.To.2.2.2.1.2.2.1,.int .u8 p.2.1.To.2.2.2.1.2.2.2.1,.int .u8 p.2.1.To.2.2.2.1.2.2.2.2,.int .u8 p.2.1.To.2.2.2.2.1,.int .u8 p.2.1.To.2.2.2.2.2.1,.int .u8 p.2.1.To.2.2.2.2.2.2.1,.int .u8 p.2.1.To.2.2.2.2.2.2.2.1,.int .u8 p.2.1.To.2.2.2.2.2.2.2.2,.int .u8 p.2.2.zF,.int .u8 p.2.2.Marks,.int .u8 p.2.2.To.1.1,.int .u8 p.2.2.To.1.2.1,.int .u8 p.2.2.To.1.2.2.1,.int .u8 p.2.2.To.1.2.2.2.1,.int .u8 p.2.2.To.1.2.2.2.2,.int .u8 p.2.2.To.2.1.1,.int .u8 p.2.2.To.2.1.2.1,.int .u8 p.2.2.To.2.1.2.2.1,.int .u8 p.2.2.To.2.1.2.2.2.1,.int .u8 p.2.2.To.2.1.2.2.2.2,.int .u8 p.2.2.To.2.2.1.1,.int .u8 p.2.2.To.2.2.1.2.1,.int .u8 p.2.2.To.2.2.1.2.2.1,.int .u8 p.2.2.To.2.2.1.2.2.2.1,.int .u8 p.2.2.To.2.2.1.2.2.2.2,.int .u8 p.2.2.To.2.2.2.1.1,.int .u8 p.2.2.To.2.2.2.1.2.1,.int .u8 p.2.2.To.2.2.2.1.2.2.1,.int .u8 p.2.2.To.2.2.2.1.2.2.2.1,.int .u8 p.2.2.To.2.2.2.1.2.2.2.2,.int .u8 p.2.2.To.2.2.2.2.1,.int .u8 p.2.2.To.2.2.2.2.2.1,.int .u8 p.2.2.To.2.2.2.2.2.2.1,.int .u8 p.2.2.To.2.2.2.2.2.2.2.1,.int .u8 p.2.2.To.2.2.2.2.2.2.2.2]) (f,e,d)) (RDat.app m rfl (RDat.app l rfl j)) (o.trans (by kernel_rfl))⟩
def W_30(x:Qb6):Prop:=W_23 x.Sets/\W_28 x.Graphs
theorem R_30:Q5n Tryz.prog 30 Qpp W_30:=by
  intro H enc w base a c fuel cs x h;obtain⟨j,n,b⟩:=Qbd8 Tryz.underlying30 h;obtain⟨p,m⟩:=b 0 _ rfl;obtain⟨e,w0,i⟩:=Qf0 (off:=0) (sz:=5) R_23 (by kernel_rfl) (fun _=>rfl) m;obtain⟨o,l⟩:=b 1 _ rfl;obtain⟨d,f,g⟩:=Qf0 (off:=5) (sz:=81) R_28 (by kernel_rfl) (fun _=>rfl) l;exact⟨⟨e,d⟩,⟨w0,f⟩,RDat.all (xs:=Qpp ⟨e,d⟩) (RDat.app i rfl g) (j.trans (by kernel_rfl))⟩
theorem A_30:Qbcc Tryz.prog 30 (fun(a:Qb6)=>.agg [.d (.int .u8 a.Sets.1),.d (.int .u8 a.Sets.2.1),.d (.int .u8 a.Sets.2.2.1),.d (.int .u8 a.Sets.2.2.2.1),.d (.int .u8 a.Sets.2.2.2.2),.d (.int .u8 a.Graphs.1.zF),.d (.int .u8 a.Graphs.1.Marks),.d (.int .u8 a.Graphs.1.To.1.1),.d (.int .u8 a.Graphs.1.To.1.2.1),.d (.int .u8 a.Graphs.1.To.1.2.2.1),.d (.int .u8 a.Graphs.1.To.1.2.2.2.1),.d (.int .u8 a.Graphs.1.To.1.2.2.2.2),.d (.int .u8 a.Graphs.1.To.2.1.1),.d (.int .u8 a.Graphs.1.To.2.1.2.1),.d (.int .u8 a.Graphs.1.To.2.1.2.2.1),.d (.int .u8 a.Graphs.1.To.2.1.2.2.2.1),.d (.int .u8 a.Graphs.1.To.2.1.2.2.2.2),.d (.int .u8 a.Graphs.1.To.2.2.1.1),.d (.int .u8 a.Graphs.1.To.2.2.1.2.1),.d (.int .u8 a.Graphs.1.To.2.2.1.2.2.1),.d (.int .u8 a.Graphs.1.To.2.2.1.2.2.2.1),.d (.int .u8 a.Graphs.1.To.2.2.1.2.2.2.2),.d (.int .u8 a.Graphs.1.To.2.2.2.1.1),.d (.int .u8 a.Graphs.1.To.2.2.2.1.2.1),.d (.int .u8 a.Graphs.1.To.2.2.2.1.2.2.1),.d (.int .u8 a.Graphs.1.To.2.2.2.1.2.2.2.1),.d (.int .u8 a.Graphs.1.To.2.2.2.1.2.2.2.2),.d (.int .u8 a.Graphs.1.To.2.2.2.2.1),.d (.int .u8 a.Graphs.1.To.2.2.2.2.2.1),.d (.int .u8 a.Graphs.1.To.2.2.2.2.2.2.1),.d (.int .u8 a.Graphs.1.To.2.2.2.2.2.2.2.1),.d (.int .u8 a.Graphs.1.To.2.2.2.2.2.2.2.2),.d (.int .u8 a.Graphs.2.1.zF),.d (.int .u8 a.Graphs.2.1.Marks),.d (.int .u8 a.Graphs.2.1.To.1.1),.d (.int .u8 a.Graphs.2.1.To.1.2.1),.d (.int .u8 a.Graphs.2.1.To.1.2.2.1),.d (.int .u8 a.Graphs.2.1.To.1.2.2.2.1),.d (.int .u8 a.Graphs.2.1.To.1.2.2.2.2),.d (.int .u8 a.Graphs.2.1.To.2.1.1),.d (.int .u8 a.Graphs.2.1.To.2.1.2.1),.d (.int .u8 a.Graphs.2.1.To.2.1.2.2.1),.d (.int .u8 a.Graphs.2.1.To.2.1.2.2.2.1),.d (.int .u8 a.Graphs.2.1.To.2.1.2.2.2.2),.d (.int .u8 a.Graphs.2.1.To.2.2.1.1),.d (.int .u8 a.Graphs.2.1.To.2.2.1.2.1),.d (.int .u8 a.Graphs.2.1.To.2.2.1.2.2.1),.d (.int .u8 a.Graphs.2.1.To.2.2.1.2.2.2.1),.d (.int .u8 a.Graphs.2.1.To.2.2.1.2.2.2.2),.d (.int .u8 a.Graphs.2.1.To.2.2.2.1.1),.d (.int .u8 a.Graphs.2.1.To.2.2.2.1.2.1),.d (.int .u8 a.Graphs.2.1.To.2.2.2.1.2.2.1),.d (.int .u8 a.Graphs.2.1.To.2.2.2.1.2.2.2.1),.d (.int .u8 a.Graphs.2.1.To.2.2.2.1.2.2.2.2),.d (.int .u8 a.Graphs.2.1.To.2.2.2.2.1),.d (.int .u8 a.Graphs.2.1.To.2.2.2.2.2.1),.d (.int .u8 a.Graphs.2.1.To.2.2.2.2.2.2.1),.d (.int .u8 a.Graphs.2.1.To.2.2.2.2.2.2.2.1),.d (.int .u8 a.Graphs.2.1.To.2.2.2.2.2.2.2.2),.d (.int .u8 a.Graphs.2.2.zF),.d (.int .u8 a.Graphs.2.2.Marks),.d (.int .u8 a.Graphs.2.2.To.1.1),.d (.int .u8 a.Graphs.2.2.To.1.2.1),.d (.int .u8 a.Graphs.2.2.To.1.2.2.1),.d (.int .u8 a.Graphs.2.2.To.1.2.2.2.1),.d (.int .u8 a.Graphs.2.2.To.1.2.2.2.2),.d (.int .u8 a.Graphs.2.2.To.2.1.1),.d (.int .u8 a.Graphs.2.2.To.2.1.2.1),.d (.int .u8 a.Graphs.2.2.To.2.1.2.2.1),.d (.int .u8 a.Graphs.2.2.To.2.1.2.2.2.1),.d (.int .u8 a.Graphs.2.2.To.2.1.2.2.2.2),.d (.int .u8 a.Graphs.2.2.To.2.2.1.1),.d (.int .u8 a.Graphs.2.2.To.2.2.1.2.1),.d (.int .u8 a.Graphs.2.2.To.2.2.1.2.2.1),.d (.int .u8 a.Graphs.2.2.To.2.2.1.2.2.2.1),.d (.int .u8 a.Graphs.2.2.To.2.2.1.2.2.2.2),.d (.int .u8 a.Graphs.2.2.To.2.2.2.1.1),.d (.int .u8 a.Graphs.2.2.To.2.2.2.1.2.1),.d (.int .u8 a.Graphs.2.2.To.2.2.2.1.2.2.1),.d (.int .u8 a.Graphs.2.2.To.2.2.2.1.2.2.2.1),.d (.int .u8 a.Graphs.2.2.To.2.2.2.1.2.2.2.2),.d (.int .u8 a.Graphs.2.2.To.2.2.2.2.1),.d (.int .u8 a.Graphs.2.2.To.2.2.2.2.2.1),.d (.int .u8 a.Graphs.2.2.To.2.2.2.2.2.2.1),.d (.int .u8 a.Graphs.2.2.To.2.2.2.2.2.2.2.1),.d (.int .u8 a.Graphs.2.2.To.2.2.2.2.2.2.2.2)]) W_30:=Qbqh R_30 (.inl ⟨_,Tryz.underlying30⟩)
end Go.Proofs
end
section
namespace Go.Abs
set_option maxRecDepth 100000
theorem Qbi5:Qld=some true:=by kernel_rfl
end Go.Abs
end
section
namespace Go.Abs
open Go
theorem Qbh{X R:Type}{F:(X->Option R)->X->Option R}(I:X->Prop)(m:X->Nat)(Q:X->Option R->Prop)(step:∀(k:X->Option R)(x:X),I x->(∀y,I y->m y<m x->Q y (k y))->Q x (F k x)):∀(fuel:Nat)(x:X),I x->m x<fuel->Q x (Qbq F fuel x)
 |0,x,_,h=>absurd h (Nat.not_lt_zero _)
 |fuel+1,x,b,h=>step _ x b fun y a c=>Qbh I m Q step fuel y a (by omega)
theorem Q63{X R:Type}{F:(X->Option R)->X->Option R}{fuel:Nat}{x:X}(I:X->Prop)(m:X->Nat)(q:Option R)(b:I x)(a:m x<fuel)(step:∀(k:X->Option R)(x:X),I x->(∀y,I y->m y<m x->k y=q)->F k x=q):Qbq F fuel x=q :=
 Qbh I m (fun _ r=>r=q) step fuel x b a
theorem Q0d{x:Int}(b : -9223372036854775808<=x)(a:x<=9223372036854775807):IntKind.wrap .i64 x=x:=by
 simp[IntKind.wrap,IntKind.bits,IntKind.signed];omega
theorem Qblt{x:Int}(b:0<=x)(a:x<256):IntKind.wrap .u8 x=x:=by
 simp[IntKind.wrap,IntKind.bits,IntKind.signed];omega
theorem Qw{n:Nat}(h:n<9223372036854775807):IntKind.wrap .i64 ((n:Int)+1)=((n+1:Nat):Int):=by
 grind [Q0d]
theorem Qy{α:Type}{l:List α}{n:Nat}(h:n<l.length):getO l (n:Int)=some l[n]:=by
 simp[getO,h]
theorem Q0e{α:Type}{l:List α}{i:Int}{x:α}:getO l i=some x↔0<=i/\l[i.toNat]? = some x:=by
 simp_all[getO,reduceCtorEq,false_iff,not_and,absurd]
theorem Qbb{α:Type}{l m:List α}(h:l.length+m.length<=lim):appO l m=some (l++m):=by
 unfold appO;rw[if_pos h]
theorem Qbd9{α:Type}{s t:List α}{k:Nat}(b:k<s.length)(a:k<t.length)(h:s.take k=t.take k)(c:s[k]=t[k]):s.take (k+1)=t.take (k+1):=by
 grind [List.take_add_one,List.getElem?_eq_getElem]
theorem Qle{R:Type}{F:(Int->Option R)->Int->Option R}{len fuel:Nat}(G:Nat->Option R)(d:len<fuel)(step:∀(k:Int->Option R)(n:Nat),n<len->k ((n+1:Nat):Int)=G (n+1)->F k (n:Int)=G n)(a:∀k:Int->Option R,F k (len:Int)=G len):Qbq F fuel 0=G 0:=by
 have:=Qbh (F:=F) (fun x=>∃n:Nat,x=(n:Int)/\n<=len) (fun x=>len-x.toNat) (fun x r=>∀n:Nat,x=(n:Int)->r=G n) (fun k x c b=>by
  obtain⟨n,rfl,e⟩:=c;intro m f;obtain rfl:n=m:=by omega
  by_cases h:n<len
  ·exact step k n h (b _ ⟨n+1,rfl,by omega⟩ (by omega) (n+1) rfl)
  grind) fuel 0 ⟨0,rfl,by omega⟩ (by simpa using d)
 exact this 0 rfl
theorem Q8x{n:Nat}(a:0<n)(h:n<9223372036854775807):IntKind.wrap .i64 ((n:Int)-1)=((n-1:Nat):Int):=by
 grind [Q0d]
theorem Qbn2{X S R:Type}{F:(X->Option R)->X->Option R}{len:Nat}(a:Nat->S->X)(G:Nat->S->Option R)(step:∀(k:X->Option R)(n:Nat)(s:S),n<len->(∀c,k (a (n+1) c)=G (n+1) c)->F k (a n s)=G n s)(b:∀(k:X->Option R)(s:S),F k (a len s)=G len s):
  ∀(fuel n:Nat)(s:S),n<=len->len-n<fuel->Qbq F fuel (a n s)=G n s
 |0,n,s,_,h=>by omega
 |fuel+1,n,s,e,h=>by
  show F (Qbq F fuel) (a n s)=_;by_cases d:n<len
  ·exact step _ n s d fun c=>Qbn2 a G step b fuel (n+1) c (by omega) (by omega)
  grind
theorem Qbpb{i j:Nat}(b:i<1000000000000)(a:j<1000000000000):IntKind.wrap .i64 (Int.fdiv (IntKind.wrap .u64 (IntKind.wrap .i64 ((i:Int)+j))) (2 ^ (min (Int.toNat 1) (IntKind.bits .u64))))=(((i+j) / 2:Nat):Int):=by
 grind [Go.IntKind.wrap,Q0d,Go.IntKind.bits,Go.IntKind.signed,Min.min,Int.toNat,Int.fdiv_eq_ediv_of_nonneg]
theorem Q64{α:Type}{l:List α}{i j:Nat}(h:i<=j)(a:j<=l.length):slcO l (i:Int) (j:Int)=some ((l.take j).drop i):=by
 simp[slcO,h,a]
theorem Qbi6:∀{l m:List Int},l.Pairwise (· < ·)->m.Pairwise (· < ·)->(∀x,x∈l↔x∈m)->l=m
 |l,m,h1,a,h=>by
  have c:l.Nodup:=h1.imp fun h=>by omega
  have b:m.Nodup:=a.imp fun h=>by omega
  grind [List.perm_ext_iff_of_nodup,List.Perm.eq_of_pairwise]
section
variable{α:Type}{p:α->Bool}
theorem Q5o:∀{l:List α},l.Pairwise (fun a b=>p b=true->p a=true)->∀(n:Nat)(h:n<l.length),p l[n]=true↔n<(l.filter p).length
 |[],_,n,h=>by simp at h
 |x::xs,f,n,h=>by
  obtain⟨e,g⟩:=Zan.1 f;cases n with
  |zero =>
   cases hx:p x with
   |true=>simp[hx]
   |false =>
    have:xs.filter p=[]:=Zca.2 fun y d hp=>by have:=e y d hp;rw[hx] at this;cases this
    simp[hx,this]
  |succ n =>
   have c:=Q5o g n (by simpa using h);cases hx:p x with
   |true=>simp[hx,c]
   |false =>
    have:xs.filter p=[]:=Zca.2 fun y d hp=>by have:=e y d hp;rw[hx] at this;cases this
    rw[this] at c;simp[hx,this] at c |-;exact c
end
theorem Qjj{X S R:Type}{F:(X->Option R)->X->Option R}{len:Nat}(a:Nat->S->X)(I:Nat->S->Prop)(G:Nat->S->Option R)(step:∀(k:X->Option R)(n:Nat)(s:S),n<len->I n s->(∀b,I (n+1) b->k (a (n+1) b)=G (n+1) b)->F k (a n s)=G n s)(c:∀(k:X->Option R)(s:S),I len s->F k (a len s)=G len s):
  ∀(fuel n:Nat)(s:S),n<=len->len-n<fuel->I n s->Qbq F fuel (a n s)=G n s
 |0,n,s,_,h,_=>by omega
 |fuel+1,n,s,g,h,f=>by
  show F (Qbq F fuel) (a n s)=_;by_cases d:n<len
  ·exact step _ n s d f fun b e=>Qjj a I G step c fuel (n+1) b (by omega) (by omega) e
  grind
theorem Qkb:∀{l:List Int}{a b:Int},l.Pairwise (· < ·)->(∀x∈l,a<=x/\x<b)->l.length<=(b-a).toNat
 |[],_,_,_,_=>by simp
 |x::xs,a,b,h,hr=>by
  obtain⟨e,d⟩:=Zan.1 h;have:=Qkb (a:=x+1) (b:=b) d fun y c=>⟨by have:=e y c;omega,(hr y (by simp[c])).2⟩;have:=hr x (by simp)
  grind
end Go.Abs
end
section
namespace Go.Abs
abbrev big : Nat := 1000000000000
def small(a : Qa): Prop := a.zB.length < big /\ a.zC.length < big /\ a.zD.length < big
end Go.Abs
end
section
namespace Go.Abs
open Go
def Qh0(n:Int):Option Int->List Int->Int
 |_,[]=>0
 |p,x::xs=>if x<0\/x>=n then 2 else if ∃y,p=some y/\x<=y then 5 else Qh0 n (some x) xs
def Qmn(al:List Int)(st:Int):Option Qb->List Qb->Int
 |_,[]=>0
 |p,x::xs=>if x.From<0\/x.From>=st\/x.To<0\/x.To>=st then 2 else if x.Event∉al then 9 else if ∃y,p=some y/\(x.From<y.From\/x.From=y.From/\x.Event<=y.Event) then 5 else Qmn al st (some x) xs
def Qi6(a:Qa):Int :=
 if Qh0 32 none a.zB≠0 then Qh0 32 none a.zB else if a.zF<0 then 2 else if a.zF>4096 then 3 else
 if Qh0 a.zF none a.zC≠0 then Qh0 a.zF none a.zC else Qmn a.zB a.zF none a.zD
def ahead{α:Type}(l:List α)(n:Nat):Option α:=if n=0 then none else l[n-1]?
theorem Qrn{α:Type}(l:List α):ahead l 0=none:=rfl
theorem Qbax{α:Type}(l:List α){n:Nat}(h:n<l.length):ahead l (n+1)=some l[n]:=by simp[ahead,h]
theorem Q8y{α:Type}(l:List α){n:Nat}(a:0<n)(h:n<=l.length):ahead l n=some (l[n-1]'(by omega)):=by
 grind [ahead]
theorem Q6a{n:Int}{l:List Int}{k:Nat}(h:k<l.length):Qh0 n (ahead l k) (l.drop k)=if l[k]<0\/l[k]>=n then 2 else if ∃y,ahead l k=some y/\l[k]<=y then 5 else Qh0 n (ahead l (k+1)) (l.drop (k+1)):=by
 rw[Zal h,Qh0,Qbax l h]
theorem Qbcd{al:List Int}{n:Int}{l:List Qb}{k:Nat}(h:k<l.length):Qmn al n (ahead l k) (l.drop k)=if l[k].From<0\/l[k].From>=n\/l[k].To<0\/l[k].To>=n then 2 else if l[k].Event∉al then 9 else if ∃y,ahead l k=some y/\(l[k].From<y.From\/l[k].From=y.From/\l[k].Event<=y.Event) then 5 else Qmn al n (ahead l (k+1)) (l.drop (k+1)):=by
 rw[Zal h,Qmn,Qbax l h]
theorem Q8z{l:List Int}{n:Int}(d:l.length<big):Qi1 l n=some (Qh0 n none l):=by
 unfold Qi1 Qdl;refine (Qle (len:=l.length) (fun k=>some (Qh0 n (ahead l k) (l.drop k))) (by unfold Q2;unfold big at d;omega) ?_ ?_).trans (by simp[Qrn])
 ·intro k i e f;have hb:i<1000000000000:=by unfold big at d;omega
  rw[Q6a e]
  try dsimp only
  rw[if_pos (by omega),Qy e,Qw (by omega),f];simp only[Za];by_cases a:l[i]<0
  ·simp[a]
  ·by_cases b:l[i]>=n
   ·simp[a,b]
   ·by_cases c:0<i
    ·rw[Q8x c (by omega),Qy (by omega:i-1<l.length),Q8y l c (by omega)];by_cases g:l[i]<=l[i-1]<;>simp[a,b,g,c]
    ·obtain rfl:i=0:=by omega
     simp[a,b,Qrn]
 ·intro k;simp[Qh0]
theorem Qbn3{l:List Int}{v:Int}(a:l.length<big):Qks l v=some (if v∈l then (l.idxOf v:Int) else -1):=by
 unfold Qks Qey;refine (Qle (len:=l.length) (fun k=>some (if v∈l.drop k then ((k+(l.drop k).idxOf v:Nat):Int) else -1)) (by unfold Q2;unfold big at a;omega) ?_ ?_).trans (by simp)
 ·intro k i b c;have hb:i<1000000000000:=by unfold big at a;omega
  try dsimp only
  rw[if_pos (by omega),Qy b,Qw (by omega),c,Zal b]
  grind
 ·intro k;simp
theorem Qo7{l:List Int}{v:Int}(a:l.length<big):Qck l v=some (decide (v∈l)):=by
 unfold Qck Ql
 grind [Qbn3,Option.some.injEq]
theorem Qbhw{l:List Int}{v:Int}(a:l.length<big):Qeo l v=some (decide (v∈l)):=by
 unfold Qeo Qcg;refine (Qle (len:=l.length) (fun k=>some (decide (v∈l.drop k))) (by unfold Q2;unfold big at a;omega) ?_ ?_).trans (by simp)
 ·intro k i b c;have hb:i<1000000000000:=by unfold big at a;omega
  try dsimp only
  rw[if_pos (by omega),Qy b,Qw (by omega),c,Zal b]
  grind
 ·intro k;simp
theorem Qbce{a:Qa}(h:small a):Qh4 a=some (Qmn a.zB a.zF none a.zD):=by
 obtain⟨g,_,l⟩:=h;unfold Qh4 Qdf;refine (Qle (len:=a.zD.length) (fun k=>some (Qmn a.zB a.zF (ahead a.zD k) (a.zD.drop k))) (by unfold Q2;unfold big at l;omega) ?_ ?_).trans (by simp[Qrn])
 ·intro k i m p;have hb:i<1000000000000:=by unfold big at l;omega
  rw[Qbcd m];unfold letJ
  try dsimp only
  rw[if_pos (by omega),Qy m,Qw (by omega),p];simp only[Za,Qo7 g];generalize a.zD[i]=x;by_cases b:x.From<0
  ·simp[b]
  by_cases c:x.From>=a.zF
  ·simp[b,c]
  by_cases e:x.To<0
  ·simp[b,c,e]
  by_cases f:x.To>=a.zF
  ·simp[b,c,e,f]
  by_cases j:x.Event∈a.zB
  ·by_cases o:0<i
   ·rw[Q8x o (by omega),Qy (by omega:i-1<a.zD.length),Q8y a.zD o (by omega)];generalize a.zD[i-1]=y;have d:i≠0:=by omega
    by_cases n:x.From<y.From
    ·simp[b,c,e,f,j,n,d]
    by_cases r:y.From=x.From
    ·by_cases q:x.Event<=y.Event<;>simp[b,c,e,f,j,n,r,q,d]
    grind
   ·obtain rfl:i=0:=by omega
    simp[b,c,e,f,j,Qrn]
  grind
 simp[letJ,Qmn]
theorem Q65{a:Qa}(h:small a):Qfr a=some (Qi6 a):=by
 unfold Qfr Q9 Qi6;rw[Q8z h.1,Q8z h.2.1,Qbce h]
 grind
end Go.Abs
end
section
namespace Go.Abs
open Go
def Qj8(x y:Qb):Prop:=x.From<y.From\/x.From=y.From/\x.Event<y.Event
instance(x y:Qb):Decidable (Qj8 x y):=by unfold Qj8;infer_instance
structure Right(a:Qa):Prop where
 al0:∀x∈a.zB,0<=x/\x<32
 al:a.zB.Pairwise (· < ·)
 st:0<=a.zF/\a.zF<=4096
 ma0:∀x∈a.zC,0<=x/\x<a.zF
 ma:a.zC.Pairwise (· < ·)
 ed0:∀x∈a.zD,0<=x.From/\x.From<a.zF/\0<=x.To/\x.To<a.zF/\x.Event∈a.zB
 ed:a.zD.Pairwise Qj8
theorem Qnd{n:Int}:∀{l:List Int}{p:Option Int},Qh0 n p l=0↔(∀x∈l,0<=x/\x<n)/\l.Pairwise (· < ·)/\∀y,p=some y->∀x∈l,y<x
 |[],p=>by simp[Qh0]
 |x::xs,p=>by
  rw[Qh0];split
  ·rename_i h;refine⟨fun h=>by omega,fun e=>?_⟩;have:=e.1 x (by simp);omega
  ·rename_i h;split
   ·grind
   ·rename_i i;rw[Qnd];constructor
    ·rintro⟨f,d,c⟩;refine⟨fun z b=>?_,Zan.2 ⟨fun z b=>c x rfl z b,d⟩,fun y g z b=>?_⟩
     all_goals grind
    simp_all
theorem Qxd{al:List Int}{n:Int}:∀{l:List Qb}{p:Option Qb},Qmn al n p l=0↔(∀x∈l,0<=x.From/\x.From<n/\0<=x.To/\x.To<n/\x.Event∈al)/\l.Pairwise Qj8/\∀y,p=some y->∀x∈l,Qj8 y x
 |[],p=>by simp[Qmn]
 |x::xs,p=>by
  have j:∀a b c:Qb,Qj8 a b->Qj8 b c->Qj8 a c:=fun a b c h k=>by unfold Qj8 at *;omega
  rw[Qmn];split
  ·grind
  ·rename_i h;split
   ·grind
   ·rename_i i;split
    ·grind [Qj8]
    ·rename_i q;rw[Qxd];constructor
     ·rintro⟨m,f,e⟩;refine⟨fun z d=>?_,Zan.2 ⟨fun z d=>e x rfl z d,f⟩,fun y o z d=>?_⟩
      ·grind
      ·have g:Qj8 y x:=by
        apply Decidable.byContradiction
        grind [Qj8]
       grind
     simp_all
theorem Qs5{a:Qa}:Qi6 a=0↔Right a:=by
 unfold Qi6;constructor
 ·intro h;split at h
  ·grind
  rename_i g;split at h
  ·omega
  split at h
  ·omega
  split at h
  ·grind
  rename_i f;have e:=Qnd.1 (Decidable.not_not.1 g);have d:=Qnd.1 (Decidable.not_not.1 f);have c:=Qxd.1 h;exact⟨e.1,e.2.1,⟨by omega,by omega⟩,d.1,d.2.1,c.1,c.2.1⟩
 ·intro h;have e:Qh0 32 none a.zB=0:=Qnd.2 ⟨h.al0,h.al,fun y b=>by cases b⟩;have d:Qh0 a.zF none a.zC=0:=Qnd.2 ⟨h.ma0,h.ma,fun y b=>by cases b⟩;have c:Qmn a.zB a.zF none a.zD=0:=Qxd.2 ⟨h.ed0,h.ed,fun y b=>by cases b⟩;have:=h.st
  grind
def outP(a:Qa)(s:Int):List Qb:=a.zD.filter fun x=>x.From==s
def Q3(a:Qa)(s e:Int):Int:=match a.zD.find? fun x=>x.From==s&&x.Event==e with
 |some x=>x.To
 |none=>-1
theorem Qblu{l:List Qb}(h:l.Pairwise Qj8)(s:Int):l.Pairwise fun a b=>decide (b.From<s)=true->decide (a.From<s)=true :=
 h.imp fun h=>by unfold Qj8 at h;simp;omega
theorem Qbpc{l:List Qb}{s:Int}{cmp:Qb->Int->Option Int}(e:∀x∈l,cmp x s=some (x.From-s))(hs:l.Pairwise Qj8)(v:l.length<big):
  ∃b,Qe8 l s cmp=some (((l.filter fun x=>decide (x.From<s)).length:Int),b):=by
 have hc:=fun n h=>Q5o (p:=fun x:Qb=>decide (x.From<s)) (Qblu hs s) n h;have o:(l.filter fun x=>decide (x.From<s)).length<=l.length:=Zbk _ _;generalize (l.filter fun x=>decide (x.From<s)).length=c at hc o;have hb:l.length<1000000000000:=v;unfold Qe8 Qby;have f:=Qbh (F:=fun(g:Int×Int->Option Int)((i11,j12):Int×Int)=>(if (i11<j12) then ((getO l (IntKind.wrap .i64 (Int.fdiv (IntKind.wrap .u64 (IntKind.wrap .i64 (i11+j12))) (2 ^ (min (Int.toNat 1) (IntKind.bits .u64)))))).bind fun t=>((cmp t s).bind fun q=>(if (q<0) then g ((IntKind.wrap .i64 ((IntKind.wrap .i64 (Int.fdiv (IntKind.wrap .u64 (IntKind.wrap .i64 (i11+j12))) (2 ^ (min (Int.toNat 1) (IntKind.bits .u64)))))+1)),j12) else g (i11,(IntKind.wrap .i64 (Int.fdiv (IntKind.wrap .u64 (IntKind.wrap .i64 (i11+j12))) (2 ^ (min (Int.toNat 1) (IntKind.bits .u64))))))))) else some i11))
  (fun x=>∃i j:Nat,x=((i:Int),(j:Int))/\i<=c/\c<=j/\j<=l.length) (fun x=>(x.2-x.1).toNat) (fun _ r=>r=some (c:Int)) (by
   rintro k _ ⟨i,j,rfl,h1,h2,h3⟩ ih;dsimp only;by_cases w:i<j
   ·rw[if_pos (by omega),Qbpb (by omega) (by omega)];have u:(i+j) / 2<l.length:=by omega
    rw[Qy u];simp only[Za];rw[e _ (Zq u)];simp only[Za];have m:=hc ((i+j) / 2) u;by_cases d:l[(i+j) / 2].From<s
    ·rw[if_pos (by omega),Qw (by omega)];have:(i+j) / 2<c:=m.1 (by simpa using d);exact ih _ ⟨_,_,rfl,by omega,h2,h3⟩ (by simp only;omega)
    ·rw[if_neg (by omega)];have:¬(i+j) / 2<c:=fun h=>d (by simpa using m.2 h);exact ih _ ⟨_,_,rfl,h1,by omega,by omega⟩ (by simp only;omega)
   grind) Q2 (0,(l.length:Int)) ⟨0,l.length,rfl,by omega,o,Ze _⟩ (by unfold Q2;simp only;omega)
 rw[f];simp only[Za];by_cases d:c<l.length
 ·rw[if_pos (by omega),Qy d];simp only[Za];rw[e _ (Zq d)];exact⟨_,rfl⟩
 ·rw[if_neg (by omega)];exact⟨_,rfl⟩
theorem Qbea:∀{l:List Qb}(s:Int),l.Pairwise Qj8->(l.take (l.filter fun x=>decide (x.From<s+1)).length).drop (l.filter fun x=>decide (x.From<s)).length=l.filter fun x=>x.From==s
 |[],s,_=>by simp
 |x::xs,s,h=>by
  obtain⟨k,g⟩:=Zan.1 h;have i:=Qbea s g;have f:∀y∈xs,x.From<=y.From:=fun y b=>by grind [Qj8]
  by_cases d:x.From<s
  ·grind
  ·have j:xs.filter (fun x=>decide (x.From<s))=[]:=Zca.2 fun y b=>by grind
   have m:decide (x.From<s)=false:=by simpa using d
   by_cases e:x.From=s
   ·grind
   ·have e2:decide (x.From<s+1)=false:=by simp;omega
    have e3:(x.From==s)=false:=by simp[e]
    have c:xs.filter (fun x=>decide (x.From<s+1))=[]:=Zca.2 fun y b=>by grind
    grind
section
variable{a:Qa}(h:Right a)(hs:small a)
include h hs
theorem Qbrt{s:Int}(k : -1000000000000<s)(j:s<1000000000000):Qjh a s=some (outP a s):=by
 unfold Qjh Qgu;have g:=h.st;have f:∀t:Int,-1000000000002<t->t<1000000000002->∀x∈a.zD,IntKind.wrap .i64 (x.From-t)=x.From-t:=fun t e d x b=>by
  have:=h.ed0 x b;grind [Q0d]
 have i:IntKind.wrap .i64 (s+1)=s+1:=Q0d (by omega) (by omega);obtain⟨m,e⟩:=Qbpc (s:=s) (cmp:=Qli) (fun x b=>by unfold Qli Qfm;grind) h.ed hs.2.2;obtain⟨l,d⟩:=Qbpc (s:=s+1) (cmp:=Qlj) (fun x b=>by unfold Qlj Qfn;rw[f (s+1) (by omega) (by omega) x b]) h.ed hs.2.2;rw[e,i];simp only[Za];rw[d];simp only[Za];have c:(a.zD.filter fun x=>decide (x.From<s)).length<=(a.zD.filter fun x=>decide (x.From<s+1)).length :=
  by rw[<-List.countP_eq_length_filter,<-List.countP_eq_length_filter];exact List.countP_mono_left fun x _ b=>by simp at b |-;omega
 rw[Q64 c (Zbk _ _),Qbea s h.ed]
 rfl
omit h in
theorem Qkc{s e:Int}:Q8 a s e=some (Q3 a s e):=by
 have hb:a.zD.length<1000000000000:=hs.2.2;unfold Q8 Qk;refine (Qle (len:=a.zD.length) (fun k=>some (match (a.zD.drop k).find? (fun x=>x.From==s&&x.Event==e) with|some x=>x.To|none=>-1)) (by unfold Q2;omega) ?_ ?_).trans (by simp[Q3])
 ·intro k i b c;rw[if_pos (by omega),Qy b,Qw (by omega),c,Zal b];simp only[Za,List.find?_cons];cases h1:a.zD[i].From==s<;>cases h2:a.zD[i].Event==e<;>simp[h1,h2]
 ·intro k;simp
end
theorem Qbv{a:Qa}(h:Right a)(s e:Int):Q3 a s e = -1\/0<=Q3 a s e/\Q3 a s e<a.zF/\0<=s/\s<a.zF/\e∈a.zB:=by
 unfold Q3;split
 ·rename_i x b;have c:=Zcb b;have hp:=List.find?_some b;obtain⟨j,i,g,f,d⟩:=h.ed0 x c
  grind
 ·exact .inl rfl
theorem Qne{a:Qa}(h:Right a){s e:Int}:0<=Q3 a s e↔∃x∈outP a s,x.Event=e:=by
 unfold Q3 outP;split
 ·rename_i x b;have c:=Zcb b;have hp:=List.find?_some b;simp at hp;refine⟨fun _=>⟨x,by simp[c,hp.1],hp.2⟩,fun _=>(h.ed0 x c).2.2.1⟩
 grind
theorem Qs6{a:Qa}(h:Right a)(s:Int):(outP a s).map (·.Event)=a.zB.filter fun e=>decide (0<=Q3 a s e):=by
 refine Qbi6 ?_ (h.al.filter _) fun e=>?_
 ·rw[Zbw];have c:(outP a s).Pairwise Qj8:=h.ed.filter _
  grind [outP,List.Pairwise.imp_of_mem,Qj8]
 ·simp only[Zl,Zp,decide_eq_true_eq,Qne h];constructor
  ·rintro⟨x,b,rfl⟩;refine⟨?_,x,b,rfl⟩;unfold outP at b;simp at b;exact (h.ed0 x b.1).2.2.2.2
  grind
theorem Qs7{a:Qa}(h:Right a){s:Int}{x:Qb}(b:x∈outP a s):Q3 a s x.Event=x.To:=by
 unfold outP at b;simp at b;unfold Q3;split
 ·rename_i y c;have d:=Zcb c;have hp:=List.find?_some c;simp at hp;have:x=y:=by
   rcases Classical.em (x=y) with e|hne
   ·exact e
   ·exfalso;have f:Qj8 x y\/Qj8 y x:=by
     have:=Zbj.1 h.ed;obtain⟨i,k,rfl⟩:=Zah b.1;obtain⟨j,g,rfl⟩:=Zah d
     grind
    unfold Qj8 at f;omega
  rw[this]
 grind
end Go.Abs
end
section
namespace Go.Abs
open Go
theorem Q6b{l:List Int}{n:Int}(d:l.length<big):Qju l n=some (Qh0 n none l):=by
 unfold Qju Qei;refine (Qle (len:=l.length) (fun k=>some (Qh0 n (ahead l k) (l.drop k))) (by unfold Q2;unfold big at d;omega) ?_ ?_).trans (by simp[Qrn])
 ·intro k i e f;have hb:i<1000000000000:=by unfold big at d;omega
  rw[Q6a e]
  try dsimp only
  rw[if_pos (by omega),Qy e,Qw (by omega),f];simp only[Za];by_cases a:l[i]<0
  ·simp[a]
  ·by_cases b:l[i]>=n
   ·simp[a,b]
   ·by_cases c:0<i
    ·rw[Q8x c (by omega),Qy (by omega:i-1<l.length),Q8y l c (by omega)];by_cases g:l[i]<=l[i-1]<;>simp[a,b,g,c]
    ·obtain rfl:i=0:=by omega
     simp[a,b,Qrn]
 ·intro k;simp[Qh0]
theorem Qbn4{l m:List Int}(t:l.Pairwise (· < ·))(s:m.Pairwise (· < ·))(C:l.length<big)(E:m.length<1000000):Qmk l m=some (l.filter fun x=>decide (x∉m)):=by
 unfold Qmk Qf4 Qii Qcw;obtain⟨fuel,j,u⟩ : ∃f,Q2=f/\1099511627776<=f:=⟨_,rfl,Ze _⟩;rw[j];have i:∀(x:Int)(l:List Int),getO (x::l) 0=some x:=fun x l=>Qy (l:=x::l) (n:=0) (by simp);have o:∀(x:Int)(l:List Int),slcO (x::l) 1 ((x::l).length:Int)=some l:=fun x l=>by
  grind [Q64,List.take_length]
 have d:∀p q,Qn0 p q=some (p && !q):=fun p q=>by cases p<;>cases q<;>rfl
 rw[Q63 (fun x:List Int×List Int×List Int=>x.1.Pairwise (· < ·)/\x.2.1.Pairwise (· < ·)/\x.2.2.length+x.1.length<big/\x.2.2++x.1.filter (fun z=>decide (z∉x.2.1))=l.filter fun z=>decide (z∉m)) (fun x=>x.1.length+x.2.1.length) (some (l.filter fun z=>decide (z∉m))) ⟨t,s,by simpa using C,by simp⟩ (by grind) ?_]
 ·rfl
 rintro k ⟨a,b,out⟩ ⟨ha,hb,ho,he⟩ ih;dsimp only at ha hb ho he ih |-
 match a,b with
 |[],[]=>simpa using he
 |[],y::ys =>
  simp_all
 |x::xs,[] =>
  rw[show ((([]:List Int).length:Nat):Int)=0 from rfl];have hp:(((x::xs).length:Nat):Int)>0:=by grind
  rw[if_pos hp,Za,if_pos rfl,if_pos hp,if_pos (by rfl),Za,if_neg (by omega),Za,if_pos rfl,i,o];simp only[Za,d,Zae,Bool.not_false,Zg,if_false,if_true];simp only[Zx] at ho;rw[Qbb (by simp only[Zx,Zar];unfold lim;unfold big at ho;omega),Za]
  grind
 |x::xs,y::ys =>
  obtain⟨B,A⟩:=Zan.1 ha;obtain⟨w,v⟩:=Zan.1 hb;have hp:(((x::xs).length:Nat):Int)>0:=by grind
  have r:(((y::ys).length:Nat):Int)>0:=by grind
  have g:((((x::xs).length:Nat):Int)==0)=false:=by grind
  have e:((((y::ys).length:Nat):Int)==0)=false:=by grind
  rw[if_pos hp,Za,if_pos rfl,if_pos hp,if_neg (by rw[e];simp),i,i,Za,Za,Za,if_pos r,if_neg (by rw[g];simp),Za,Za,Za,o,o];simp only[Zx] at ho;rcases Int.lt_trichotomy x y with hxy|rfl|hxy
  ·have c:decide (x<=y)=true:=decide_eq_true (by omega);have e2:decide (y<=x)=false:=decide_eq_false (by omega);simp only[c,e2,Za,d,Bool.not_false,Zae,if_true,Zg,if_false];rw[Qbb (by simp only[Zx,Zar];unfold lim;unfold big at ho;omega),Za]
   grind
  ·have c:decide (x<=x)=true:=decide_eq_true (by omega);simp only[c,Za,d,Bool.not_true,Bool.and_false,if_true,Zg,if_false]
   grind [List.filter_cons_of_neg,List.filter_congr]
  ·have c:decide (x<=y)=false:=decide_eq_false (by omega);have e2:decide (y<=x)=true:=decide_eq_true (by omega);simp only[c,e2,Za,d,Bool.false_and,if_true,Zg,if_false]
   grind [List.filter_congr]
theorem Qbeb{l m:List Int}(b:l.Pairwise (· < ·))(a:m.Pairwise (· < ·))(d:l.length<big)(c:m.length<1000000):Qhr l m=some (decide (∀x∈l,x∈m)):=by
 unfold Qhr Qfl;rw[Qbn4 b a d c,Za];congr 1;rw[Zbr]
 simp_all
def inAl(l m:List Int):Bool:=decide (∀x∈l,x∈m)
def Qbec(p:Qg):Int :=
 if Qi6 p.Plant≠0 then Qi6 p.Plant else if Qi6 p.Ambient≠0 then Qi6 p.Ambient else if Qi6 p.Requirement≠0 then Qi6 p.Requirement else
 if inAl p.Ambient.zB p.Plant.zB=false then 9 else if inAl p.Requirement.zB p.Plant.zB=false then 9 else
 if Qh0 32 none p.Observable≠0 then Qh0 32 none p.Observable else Qh0 32 none p.Controllable
structure Qblv(p:Qg):Prop where
 hp:small p.Plant
 ha:small p.Ambient
 hr:small p.Requirement
 ho:p.Observable.length<big
 hc:p.Controllable.length<big
theorem Qbf4{p:Qg}(h:Qblv p):Qml p=some (Qbec p):=by
 unfold Qml Qf5 Qbec;obtain⟨f,n⟩ : ∃f,Q2=f+4:=⟨1099511627772,rfl⟩;rw[n];have g0:getO [p.Plant,p.Ambient,p.Requirement] 0=some p.Plant:=rfl;have g1:getO [p.Plant,p.Ambient,p.Requirement] 1=some p.Ambient:=rfl;have g2:getO [p.Plant,p.Ambient,p.Requirement] 2=some p.Requirement:=rfl;have q:getO [p.Ambient,p.Requirement] 0=some p.Ambient:=rfl;have o:getO [p.Ambient,p.Requirement] 1=some p.Requirement:=rfl;have m:getO [p.Observable,p.Controllable] 0=some p.Observable:=rfl;have l:getO [p.Observable,p.Controllable] 1=some p.Controllable:=rfl;have i:IntKind.wrap .i64 (0+1)=1:=by decide
 have g:IntKind.wrap .i64 (1+1)=2:=by decide
 have e:IntKind.wrap .i64 (2+1)=3:=by decide
 simp only[Qbq,g0,g1,g2,q,o,m,l,i,g,e,Za,Q65 h.hp,Q65 h.ha,Q65 h.hr,Q6b h.ho,Q6b h.hc];by_cases b:Qi6 p.Plant=0
 ·by_cases c:Qi6 p.Ambient=0
  ·by_cases e2:Qi6 p.Requirement=0
   ·have a:=Qs5.1 b;have k:=Qs5.1 c;have j:=Qs5.1 e2;have d:p.Plant.zB.length<1000000:=by have:=Qkb a.al a.al0;omega
    rw[show Qhr p.Ambient.zB p.Plant.zB=some (inAl p.Ambient.zB p.Plant.zB) from Qbeb k.al a.al h.ha.1 d,show Qhr p.Requirement.zB p.Plant.zB=some (inAl p.Requirement.zB p.Plant.zB) from Qbeb j.al a.al h.hr.1 d]
    grind
   ·simp[b,c,e2]
  ·simp[b,c]
 ·simp[b]
section
variable{p:Qg}(h:Qblv p)(hc:Qbec p≠0)
include h hc
end
theorem Qbhx{l:List Int}{v:Int}(a:l.length<big):Qjv l v=some (decide (v∈l)):=Qbhw a
end Go.Abs
end
section
namespace Go.Abs
open Go
theorem Right.small{a:Qa}(h:Right a):small a/\a.zB.length<=32/\a.zC.length<=4096/\a.zD.length<=131072:=by
 have i:=Qkb h.al h.al0;have g:=Qkb h.ma h.ma0;have f:(a.zD.map fun x=>x.From*32+x.Event).Pairwise (· < ·):=by
  rw[Zbw];refine List.Pairwise.imp_of_mem (fun{x y}c hy hk=>?_) h.ed;have:=h.al0 _ (h.ed0 x c).2.2.2.2;have:=h.al0 _ (h.ed0 y hy).2.2.2.2;unfold Qj8 at hk;omega
 have e:=Qkb (a:=0) (b:=131072) f (by
  intro z d;obtain⟨x,c,rfl⟩:=Zl.1 d;have:=h.al0 _ (h.ed0 x c).2.2.2.2;have:=h.ed0 x c;have:=h.st;omega)
 rw[Zt] at e;have:=h.st;refine⟨⟨?_,?_,?_⟩,?_,?_,?_⟩<;>(try unfold big)<;>omega
theorem Q22{a:Qa}(h:Right a):Qfr a=some 0:=by rw[Q65 h.small.1,Qs5.2 h]
end Go.Abs
end
section
namespace Go.Abs
open Go
def ins(o:List Int)(t:Int):List Int:=if t∈o then o else o++[t]
def Qng(a:Qa)(s:Int):List Int:=(outP a s).map (·.To)
def bfs(a:Qa):Nat->Nat->List Int->List Int
 |0,_,o=>o
 |fuel+1,i,o=>match o[i]? with
  |some s=>bfs a fuel (i+1) ((Qng a s).foldl ins o)
  |none=>o
def Qee(a:Qa):List Int:=bfs a (a.zF.toNat+1) 0 (if 0<a.zF then [0] else [])
structure Fnd(a:Qa)(o:List Int):Prop where
 nd:o.Nodup
 rg:∀s∈o,0<=s/\s<a.zF
theorem Fnd.len{a:Qa}{o:List Int}(h:Fnd a o):o.length<=a.zF.toNat:=by
 have g:Go.Sort.SWO Qhe:=⟨fun x=>by simp[Qhe],fun x y z j i=>by simp[Qhe] at *;omega,fun x y z j i=>by simp[Qhe] at *;omega⟩;have hp:=Qmy Qhe o;have e:=Qnz g o;have f:(Qj5 Qhe o).Nodup:=(hp.nodup_iff).2 h.nd;have c:(Qj5 Qhe o).Pairwise (· < ·):=by
  have:(Qj5 Qhe o).Pairwise fun x y=>Qhe y x=false/\x≠y:=e.and f
  grind [Qhe]
 have:=Qkb c (a:=0) (b:=a.zF) fun x d=>h.rg x (hp.mem_iff.1 d)
 grind [Qny]
theorem Q80{o:List Int}{t x:Int}:x∈ins o t↔x∈o\/x=t:=by
 unfold ins;grind
theorem Qbqi(o:List Int)(t:Int):o <+: ins o t:=by
 grind [ins,List.prefix_refl,List.prefix_append]
theorem Fnd.ins{a:Qa}{o:List Int}(h:Fnd a o){t:Int}(f:0<=t/\t<a.zF):Fnd a (ins o t):=by
 refine⟨?_,fun s b=>?_⟩
 ·unfold Go.Abs.ins;split
  ·exact h.nd
  ·rename_i g;rw[List.nodup_append];exact⟨h.nd,by simp,fun x d y c=>by simp at c;subst c;exact fun e=>g (e ▸ d)⟩
 ·rcases Q80.1 b with b|rfl
  ·exact h.rg s b
  ·exact f
theorem Q0f{a:Qa}:∀{ts o:List Int},Fnd a o->(∀t∈ts,0<=t/\t<a.zF)->Fnd a (ts.foldl ins o)/\o <+: ts.foldl ins o/\(∀t∈ts,t∈ts.foldl ins o)/\∀x∈ts.foldl ins o,x∈o\/x∈ts
 |[],o,h,_=>⟨h,Zbl o,by simp,fun x b=>.inl b⟩
 |t::ts,o,h,d=>by
  obtain⟨i,e,g,f⟩:=Q0f (ts:=ts) (h.ins (d t (by simp))) fun t c=>d t (by simp[c]);refine⟨i,(Qbqi o t).trans e,fun x b=>?_,fun x b=>?_⟩
  ·rcases Zaj.1 b with rfl|b
   ·exact e.subset (Q80.2 (.inr rfl))
   ·exact g x b
  ·rcases f x b with h5|h5
   ·rcases Q80.1 h5 with h6|rfl
    all_goals grind
   grind
theorem Q23{a:Qa}(h:Right a)(s:Int):∀t∈Qng a s,0<=t/\t<a.zF:=by
 intro t b;unfold Qng outP at b;obtain⟨x,c,rfl⟩:=Zl.1 b;have:=h.ed0 x ((Zp.1 c).1);omega
theorem Qgh{α:Type}{l m:List α}(h:l <+: m){i:Nat}{x:α}(a:l[i]? = some x):m[i]? = some x:=by
 obtain⟨t,rfl⟩:=h
 grind
theorem Qbcf{a:Qa}(h:Right a):∀(fuel i:Nat)(o:List Int),Fnd a o->i<=o.length->a.zF.toNat+1<=fuel+i->(∀j s,j<i->o[j]? = some s->∀t∈Qng a s,t∈o) ->
  Fnd a (bfs a fuel i o)/\o <+: bfs a fuel i o/\∀s∈bfs a fuel i o,∀t∈Qng a s,t∈bfs a fuel i o
 |0,i,o,c,k,b,_=>by have:=c.len;omega
 |fuel+1,i,o,c,k,b,hc=>by
  unfold bfs;cases hg:o[i]? with
  |none =>
   grind [List.prefix_refl,List.getElem?_of_mem,List.getElem?_eq_some_iff,List.getElem?_eq_none_iff]
  |some s =>
   dsimp only;obtain⟨m,l,w,_⟩:=Q0f c (Q23 h s);have d:i<o.length:=(Zn.1 hg).1;have f:=l.length_le;obtain⟨r,q,p⟩:=Qbcf h fuel (i+1) ((Qng a s).foldl ins o) m (by omega) (by omega) (fun j n v e t u=>by
    by_cases g:j<i
    ·grind [Qgh,List.getElem?_eq_getElem]
    ·obtain rfl:j=i:=by omega
     grind [Qgh])
   grind
theorem Qij{a:Qa}(h:Right a):Fnd a (Qee a)/\(if 0<a.zF then [0] else []) <+: Qee a/\∀s∈Qee a,∀t∈Qng a s,t∈Qee a :=
 Qbcf h _ 0 _ ⟨by split<;>simp,fun s b=>by grind⟩ (Zv _) (by omega) fun j s c=>by omega
def Qn7(m:List Int):Nat->List Int->List Int
 |_,[]=>[]
 |i,s::t=>(if s∈m then [(i:Int)] else [])++Qn7 m (i+1) t
def rowP(a:Qa)(F:List Int)(i:Nat)(s:Int):List Qb:=(outP a s).map fun x=>⟨(i:Int),x.Event,(F.idxOf x.To:Int)⟩
def Qmg(a:Qa)(F:List Int):Nat->List Int->List Qb
 |_,[]=>[]
 |i,s::t=>rowP a F i s++Qmg a F (i+1) t
def Qgi(a:Qa):Qa:=⟨a.zB,((Qee a).length:Int),Qn7 a.zC 0 (Qee a),Qmg a (Qee a) 0 (Qee a)⟩
theorem Q0g{m:List Int}:∀{l:List Int}{i:Nat},∀x∈Qn7 m i l,(i:Int)<=x/\x<(i+l.length:Nat)
 |[],i,x,a=>by simp[Qn7] at a
 |s::t,i,x,a=>by
  simp only[Qn7,Zr] at a;rcases a with a|a
  ·grind
  ·have:=Q0g x a;grind
theorem Q4c{m:List Int}:∀{l:List Int}{i:Nat},(Qn7 m i l).Pairwise (· < ·)
 |[],i=>.nil
 |s::t,i=>by
  simp only[Qn7];rw[Zbd];refine⟨by split<;>simp,Q4c,fun x a y b=>?_⟩;have:=Q0g y b;split at a<;>simp at a;omega
theorem Qxe{a:Qa}{F:List Int}:∀{l:List Int}{i:Nat},∀x∈Qmg a F i l,(i:Int)<=x.From/\x.From<(i+l.length:Nat)/\∃s∈l,∃y∈outP a s,x.Event=y.Event/\x.To=(F.idxOf y.To:Int)
 |[],i,x,b=>by simp[Qmg] at b
 |s::t,i,x,b=>by
  simp only[Qmg,Zr] at b;rcases b with b|b
  ·obtain⟨y,d,rfl⟩:=Zl.1 b
   grind
  ·obtain⟨h,g,c,f,e⟩:=Qxe x b
   grind
theorem Q4d{a:Qa}(h:Right a){F:List Int}:∀{l:List Int}{i:Nat},(Qmg a F i l).Pairwise Qj8
 |[],i=>.nil
 |s::t,i=>by
  simp only[Qmg];rw[Zbd];refine⟨?_,Q4d h,fun x b y c=>?_⟩
  ·unfold rowP;rw[Zbw];have e:(outP a s).Pairwise Qj8:=h.ed.filter _;have d:∀x∈outP a s,x.From=s:=fun x b=>by grind [outP]
   exact List.Pairwise.imp_of_mem (fun{x y}b c hk=>by have:=d x b;have:=d y c;unfold Qj8 at hk;exact .inr ⟨rfl,by show x.Event<y.Event;omega⟩) e
  ·obtain⟨z,_,rfl⟩:=Zl.1 b;have:=(Qxe y c).1;unfold Qj8;simp only;omega
theorem Qit{a:Qa}(h:Right a):Right (Qgi a):=by
 obtain⟨j,o,i⟩:=Qij h;have n:=j.len;have f:=h.st;refine⟨h.al0,h.al,⟨by simp only[Qgi];omega,by simp only[Qgi];omega⟩,fun x d=>?_,Q4c,fun x d=>?_,Q4d h⟩
 ·have:=Q0g x d;simp only[Qgi];omega
 ·obtain⟨m,l,s,g,y,c,e,k⟩:=Qxe x d;have b : y.To∈Qee a:=i s g y.To (Zl.2 ⟨y,c,rfl⟩);have:=List.idxOf_lt_length_iff.2 b;simp only[Qgi];refine⟨by omega,by omega,by omega,by omega,?_⟩;rw[e];unfold outP at c;exact (h.ed0 y ((Zp.1 c).1)).2.2.2.2
end Go.Abs
end
