/-
  Part 5 of the proof: see the last text.
-/
import Derived.Test.YtdckcingoapofaaGreatDoorP4
import Derived.Test.YtdckcingoapofaaGreatDoorProg
import Derived.KernelRfl
import Derived.Sort.Statements
import Derived.Lib.ItoaNum
import Derived.Lib.SlicesCompact
import Derived.Shelf.SlGeneric
import Derived.Shelf.Strings.BuilderK
import Derived.Shelf.Strconv.Itoa2
import Derived.Shelf.Strconv.Itoa3
import Derived.Shelf.Slices.CompactI
import Derived.Ground.Names2Prog
import Derived.Ground.SlgmProg
import Derived.Ground.SlsfProg
import Derived.Shelf.SlLaysF0
import Derived.Shelf.SortM.Plain
import Derived.Shelf.SortM.SortNone
import Derived.Shelf.SlSortCmp.NoneTotal
import Derived.Shelf.Small.Bits
import Derived.WalkKit
import Derived.BigCall
import Derived.Lib.OthersKept
import Derived.OpenShut
import Derived.ProofKit
import Derived.Carry
import GoSem.Claim
import GoSem.ClaimJoined
import Derived.JoinedTies
set_option linter.unusedVariables false
set_option linter.unusedSimpArgs false
set_option linter.unusedSectionVars false
section
namespace Go.Abs
open Go
set_option maxRecDepth 10000
set_option maxHeartbeats 4000000
theorem Qrl {P:Program} {c:Nat} (hcf:Qo P c=some Ql4):Qig P c (Qdk):=by
 intro  r h;refine Qbq hcf rfl fun Γ M hP hnt hM=>?_;subst hP;refine ini ?_;refine Z 17 0 ?_;refine Rn.buildT (v:=.agg [.sl 1 (Γ.n0+7) 0 3 3,(i_ 5),.nils 1,.sl 3 (Γ.n0+6) 0 4 4]) tv rfl ?_;refine Z 3 0 ?_;refine Rn.weak (by show WeakSt Γ _ ⟨look [(0,.ptr (Γ.n0+0) 0),(1,.d (.lst 3 (List.map Ql [(Qd.mk 0 0 1),(Qd.mk 0 1 2),(Qd.mk 1 2 3),(Qd.mk 2 2 4)]))),(2,.agg [(i_ 0),(i_ 0),(i_ 1)]),(3,.agg [(i_ 0),(i_ 1),(i_ 2)]),(4,.agg [(i_ 1),(i_ 2),(i_ 3)]),(5,.agg [(i_ 2),(i_ 2),(i_ 4)]),(6,.d (.lst 3 (List.map Ql [(Qd.mk 0 0 1),(Qd.mk 0 1 2),(Qd.mk 1 2 3),(Qd.mk 2 2 4)]))),(7,.sl 1 (Γ.n0+7) 0 3 3),(8,.d (.lst 3 (List.map Ql [(Qd.mk 0 0 1),(Qd.mk 0 1 2),(Qd.mk 1 2 3),(Qd.mk 2 2 4)]))),(9,.agg [.sl 1 (Γ.n0+7) 0 3 3,(i_ 5),.nils 1,.d (.lst 3 (List.map Ql [(Qd.mk 0 0 1),(Qd.mk 0 1 2),(Qd.mk 1 2 3),(Qd.mk 2 2 4)]))]),(10,.agg [.nils 1,(i_ 1),.nils 1,.nils 3]),(11,.sl 1 (Γ.n0+11) 0 3 3),(12,.d (.lst 3 (List.map Ql [(Qd.mk 0 0 1),(Qd.mk 0 1 2),(Qd.mk 1 2 3),(Qd.mk 2 2 4)])))],Qn Γ.n0 (bxs [(0,.cells ([.nils 1,(i_ 0),.nils 1,.nils 3,.nils 1,(i_ 0),.nils 1,.nils 3,.nils 1,(i_ 0),.nils 1,.nils 3,.nils 1,.nils 1])),(7,.cells ([(i_ 0),(i_ 1),(i_ 2)])),(11,.cells ([(i_ 0),(i_ 1),(i_ 2)]))]) M,Γ.n0+18⟩;exact Qb7 6 [.int .i64 0,.int .i64 0,.int .i64 1,.int .i64 0,.int .i64 1,.int .i64 2,.int .i64 1,.int .i64 2,.int .i64 3,.int .i64 2,.int .i64 2,.int .i64 4] rfl rfl ⟨(fPtr rfl),(fSl rfl rfl),sq,sq,sq,sq,(fSl rfl rfl),(fSlO rfl),(fSl rfl rfl),(WkV.agg (.cons (fSlO rfl) (cS rfl (cS rfl (.cons (fSl rfl rfl) .nil))))),sq,(fSlO rfl),(fSl rfl rfl),tv⟩ ⟨bS rfl rfl rfl,bS rfl rfl rfl,bS rfl rfl rfl,tv⟩ rfl) ?_;refine Z 1 1 ?_;intro x1 h;refine Rn.buildT (v:=.agg [.sl 1 (Γ.n0+11) 0 3 3,(i_ 4),.nils 1,(Qj x1)]) tv rfl ?_;refine Z 2 0 ?_;refine Rn.buildT (v:=.agg [.sl 1 (Γ.n0+7) 0 3 3,(i_ 5),.nils 1,.d (.lst 3 (List.map Ql [(Qd.mk 0 0 1),(Qd.mk 0 1 2),(Qd.mk 1 2 3),(Qd.mk 2 2 4)])),.nils 1,(i_ 1),.nils 1,.nils 3,.sl 1 (Γ.n0+11) 0 3 3,(i_ 4),.nils 1,(Qj x1),.sl 1 (Γ.n0+15) 0 1 1,.sl 1 (Γ.n0+16) 0 3 3]) tv rfl ?_;refine Z 2 0 ?_;refine Tr.weak (by show WeakSt Γ _ ⟨look [(0,.ptr (Γ.n0+0) 0),(1,.d (.lst 3 (List.map Ql [(Qd.mk 0 0 1),(Qd.mk 0 1 2),(Qd.mk 1 2 3),(Qd.mk 2 2 4)]))),(2,.agg [(i_ 0),(i_ 0),(i_ 1)]),(3,.agg [(i_ 0),(i_ 1),(i_ 2)]),(4,.agg [(i_ 1),(i_ 2),(i_ 3)]),(5,.agg [(i_ 2),(i_ 2),(i_ 4)]),(6,.d (.lst 3 (List.map Ql [(Qd.mk 0 0 1),(Qd.mk 0 1 2),(Qd.mk 1 2 3),(Qd.mk 2 2 4)]))),(7,(l_ [0,1,2])),(8,.d (.lst 3 (List.map Ql [(Qd.mk 0 0 1),(Qd.mk 0 1 2),(Qd.mk 1 2 3),(Qd.mk 2 2 4)]))),(9,.agg [(l_ [0,1,2]),(i_ 5),.nils 1,.d (.lst 3 (List.map Ql [(Qd.mk 0 0 1),(Qd.mk 0 1 2),(Qd.mk 1 2 3),(Qd.mk 2 2 4)]))]),(10,.agg [.nils 1,(i_ 1),.nils 1,.nils 3]),(11,.sl 1 (Γ.n0+11) 0 3 3),(12,.d (.lst 3 (List.map Ql [(Qd.mk 0 0 1),(Qd.mk 0 1 2),(Qd.mk 1 2 3),(Qd.mk 2 2 4)]))),(13,(Qj x1)),(14,.agg [.sl 1 (Γ.n0+11) 0 3 3,(i_ 4),.nils 1,(Qj x1)]),(15,.sl 1 (Γ.n0+15) 0 1 1),(16,.sl 1 (Γ.n0+16) 0 3 3),(17,.agg [(l_ [0,1,2]),(i_ 5),.nils 1,.d (.lst 3 (List.map Ql [(Qd.mk 0 0 1),(Qd.mk 0 1 2),(Qd.mk 1 2 3),(Qd.mk 2 2 4)])),.nils 1,(i_ 1),.nils 1,.nils 3,.sl 1 (Γ.n0+11) 0 3 3,(i_ 4),.nils 1,(Qj x1),.sl 1 (Γ.n0+15) 0 1 1,.sl 1 (Γ.n0+16) 0 3 3])],Qn Γ.n0 (bxs [(0,.cells ([(l_ [0,1,2]),(i_ 5),.nils 1,.d (.lst 3 (List.map Ql [(Qd.mk 0 0 1),(Qd.mk 0 1 2),(Qd.mk 1 2 3),(Qd.mk 2 2 4)])),.nils 1,(i_ 1),.nils 1,.nils 3,.sl 1 (Γ.n0+11) 0 3 3,(i_ 4),.nils 1,(Qj x1),.sl 1 (Γ.n0+15) 0 1 1,.sl 1 (Γ.n0+16) 0 3 3])),(11,.cells ([(i_ 0),(i_ 1),(i_ 2)])),(15,.cells ([(i_ 2)])),(16,.cells ([(i_ 0),(i_ 1),(i_ 2)]))]) M,Γ.n0+18⟩;exact Qb7 7 [.int .i64 0,.int .i64 1,.int .i64 2] rfl rfl ⟨(fPtr rfl),sq,sq,sq,sq,sq,sq,(fSl rfl rfl),sq,(WkV.agg (.cons (fSl rfl rfl) (cS rfl (cS rfl (cS rfl .nil))))),sq,(fSlO rfl),sq,sq,(WkV.agg (.cons (fSlO rfl) (cS rfl (cS rfl (cS rfl .nil))))),(fSlO rfl),(fSlO rfl),(WkV.agg (.cons (fSl rfl rfl) (cS rfl (cS rfl (cS rfl (cS rfl (cS rfl (cS rfl (cS rfl (.cons (fSlO rfl) (cS rfl (cS rfl (cS rfl (.cons (fSlO rfl) (.cons (fSlO rfl) .nil))))))))))))))),tv⟩ ⟨⟨_,rfl,rfl,(.cons (fSl rfl rfl) (cS rfl (cS rfl (cS rfl (cS rfl (cS rfl (cS rfl (cS rfl (.cons (fSlO rfl) (cS rfl (cS rfl (cS rfl (.cons (fSlO rfl) (.cons (fSlO rfl) .nil))))))))))))))⟩,bS rfl rfl rfl,bS rfl rfl rfl,bS rfl rfl rfl,tv⟩ rfl) ?_;refine Tr.weak (by show WeakSt Γ _ ⟨look [(0,.ptr (Γ.n0+0) 0),(1,.d (.lst 3 (List.map Ql [(Qd.mk 0 0 1),(Qd.mk 0 1 2),(Qd.mk 1 2 3),(Qd.mk 2 2 4)]))),(2,.agg [(i_ 0),(i_ 0),(i_ 1)]),(3,.agg [(i_ 0),(i_ 1),(i_ 2)]),(4,.agg [(i_ 1),(i_ 2),(i_ 3)]),(5,.agg [(i_ 2),(i_ 2),(i_ 4)]),(6,.d (.lst 3 (List.map Ql [(Qd.mk 0 0 1),(Qd.mk 0 1 2),(Qd.mk 1 2 3),(Qd.mk 2 2 4)]))),(7,(l_ [0,1,2])),(8,.d (.lst 3 (List.map Ql [(Qd.mk 0 0 1),(Qd.mk 0 1 2),(Qd.mk 1 2 3),(Qd.mk 2 2 4)]))),(9,.agg [(l_ [0,1,2]),(i_ 5),.nils 1,.d (.lst 3 (List.map Ql [(Qd.mk 0 0 1),(Qd.mk 0 1 2),(Qd.mk 1 2 3),(Qd.mk 2 2 4)]))]),(10,.agg [.nils 1,(i_ 1),.nils 1,.nils 3]),(11,(l_ [0,1,2])),(12,.d (.lst 3 (List.map Ql [(Qd.mk 0 0 1),(Qd.mk 0 1 2),(Qd.mk 1 2 3),(Qd.mk 2 2 4)]))),(13,(Qj x1)),(14,.agg [(l_ [0,1,2]),(i_ 4),.nils 1,(Qj x1)]),(15,.sl 1 (Γ.n0+15) 0 1 1),(16,.sl 1 (Γ.n0+16) 0 3 3),(17,.agg [(l_ [0,1,2]),(i_ 5),.nils 1,.d (.lst 3 (List.map Ql [(Qd.mk 0 0 1),(Qd.mk 0 1 2),(Qd.mk 1 2 3),(Qd.mk 2 2 4)])),.nils 1,(i_ 1),.nils 1,.nils 3,(l_ [0,1,2]),(i_ 4),.nils 1,(Qj x1),.sl 1 (Γ.n0+15) 0 1 1,.sl 1 (Γ.n0+16) 0 3 3])],Qn Γ.n0 (bxs [(0,.cells ([(l_ [0,1,2]),(i_ 5),.nils 1,.d (.lst 3 (List.map Ql [(Qd.mk 0 0 1),(Qd.mk 0 1 2),(Qd.mk 1 2 3),(Qd.mk 2 2 4)])),.nils 1,(i_ 1),.nils 1,.nils 3,(l_ [0,1,2]),(i_ 4),.nils 1,(Qj x1),.sl 1 (Γ.n0+15) 0 1 1,.sl 1 (Γ.n0+16) 0 3 3])),(15,.cells ([(i_ 2)])),(16,.cells ([(i_ 0),(i_ 1),(i_ 2)]))]) M,Γ.n0+18⟩;exact Qb7 11 [.int .i64 0,.int .i64 1,.int .i64 2] rfl rfl ⟨(fPtr rfl),sq,sq,sq,sq,sq,sq,sq,sq,sq,sq,(fSl rfl rfl),sq,sq,(WkV.agg (.cons (fSl rfl rfl) (cS rfl (cS rfl (cS rfl .nil))))),(fSlO rfl),(fSlO rfl),(WkV.agg (cS rfl (cS rfl (cS rfl (cS rfl (cS rfl (cS rfl (cS rfl (cS rfl (.cons (fSl rfl rfl) (cS rfl (cS rfl (cS rfl (.cons (fSlO rfl) (.cons (fSlO rfl) .nil))))))))))))))),tv⟩ ⟨⟨_,rfl,rfl,(cS rfl (cS rfl (cS rfl (cS rfl (cS rfl (cS rfl (cS rfl (cS rfl (.cons (fSl rfl rfl) (cS rfl (cS rfl (cS rfl (.cons (fSlO rfl) (.cons (fSlO rfl) .nil))))))))))))))⟩,bS rfl rfl rfl,bS rfl rfl rfl,tv⟩ rfl) ?_;refine Tr.weak (by show WeakSt Γ _ ⟨look [(0,.ptr (Γ.n0+0) 0),(1,.d (.lst 3 (List.map Ql [(Qd.mk 0 0 1),(Qd.mk 0 1 2),(Qd.mk 1 2 3),(Qd.mk 2 2 4)]))),(2,.agg [(i_ 0),(i_ 0),(i_ 1)]),(3,.agg [(i_ 0),(i_ 1),(i_ 2)]),(4,.agg [(i_ 1),(i_ 2),(i_ 3)]),(5,.agg [(i_ 2),(i_ 2),(i_ 4)]),(6,.d (.lst 3 (List.map Ql [(Qd.mk 0 0 1),(Qd.mk 0 1 2),(Qd.mk 1 2 3),(Qd.mk 2 2 4)]))),(7,(l_ [0,1,2])),(8,.d (.lst 3 (List.map Ql [(Qd.mk 0 0 1),(Qd.mk 0 1 2),(Qd.mk 1 2 3),(Qd.mk 2 2 4)]))),(9,.agg [(l_ [0,1,2]),(i_ 5),.nils 1,.d (.lst 3 (List.map Ql [(Qd.mk 0 0 1),(Qd.mk 0 1 2),(Qd.mk 1 2 3),(Qd.mk 2 2 4)]))]),(10,.agg [.nils 1,(i_ 1),.nils 1,.nils 3]),(11,(l_ [0,1,2])),(12,.d (.lst 3 (List.map Ql [(Qd.mk 0 0 1),(Qd.mk 0 1 2),(Qd.mk 1 2 3),(Qd.mk 2 2 4)]))),(13,(Qj x1)),(14,.agg [(l_ [0,1,2]),(i_ 4),.nils 1,(Qj x1)]),(15,(l_ [2])),(16,.sl 1 (Γ.n0+16) 0 3 3),(17,.agg [(l_ [0,1,2]),(i_ 5),.nils 1,.d (.lst 3 (List.map Ql [(Qd.mk 0 0 1),(Qd.mk 0 1 2),(Qd.mk 1 2 3),(Qd.mk 2 2 4)])),.nils 1,(i_ 1),.nils 1,.nils 3,(l_ [0,1,2]),(i_ 4),.nils 1,(Qj x1),(l_ [2]),.sl 1 (Γ.n0+16) 0 3 3])],Qn Γ.n0 (bxs [(0,.cells ([(l_ [0,1,2]),(i_ 5),.nils 1,.d (.lst 3 (List.map Ql [(Qd.mk 0 0 1),(Qd.mk 0 1 2),(Qd.mk 1 2 3),(Qd.mk 2 2 4)])),.nils 1,(i_ 1),.nils 1,.nils 3,(l_ [0,1,2]),(i_ 4),.nils 1,(Qj x1),(l_ [2]),.sl 1 (Γ.n0+16) 0 3 3])),(16,.cells ([(i_ 0),(i_ 1),(i_ 2)]))]) M,Γ.n0+18⟩;exact Qb7 15 [.int .i64 2] rfl rfl ⟨(fPtr rfl),sq,sq,sq,sq,sq,sq,sq,sq,sq,sq,sq,sq,sq,sq,(fSl rfl rfl),(fSlO rfl),(WkV.agg (cS rfl (cS rfl (cS rfl (cS rfl (cS rfl (cS rfl (cS rfl (cS rfl (cS rfl (cS rfl (cS rfl (cS rfl (.cons (fSl rfl rfl) (.cons (fSlO rfl) .nil))))))))))))))),tv⟩ ⟨⟨_,rfl,rfl,(cS rfl (cS rfl (cS rfl (cS rfl (cS rfl (cS rfl (cS rfl (cS rfl (cS rfl (cS rfl (cS rfl (cS rfl (.cons (fSl rfl rfl) (.cons (fSlO rfl) .nil))))))))))))))⟩,bS rfl rfl rfl,tv⟩ rfl) ?_;refine Tr.weak (by show WeakSt Γ _ ⟨look [(0,.ptr (Γ.n0+0) 0),(1,.d (.lst 3 (List.map Ql [(Qd.mk 0 0 1),(Qd.mk 0 1 2),(Qd.mk 1 2 3),(Qd.mk 2 2 4)]))),(2,.agg [(i_ 0),(i_ 0),(i_ 1)]),(3,.agg [(i_ 0),(i_ 1),(i_ 2)]),(4,.agg [(i_ 1),(i_ 2),(i_ 3)]),(5,.agg [(i_ 2),(i_ 2),(i_ 4)]),(6,.d (.lst 3 (List.map Ql [(Qd.mk 0 0 1),(Qd.mk 0 1 2),(Qd.mk 1 2 3),(Qd.mk 2 2 4)]))),(7,(l_ [0,1,2])),(8,.d (.lst 3 (List.map Ql [(Qd.mk 0 0 1),(Qd.mk 0 1 2),(Qd.mk 1 2 3),(Qd.mk 2 2 4)]))),(9,.agg [(l_ [0,1,2]),(i_ 5),.nils 1,.d (.lst 3 (List.map Ql [(Qd.mk 0 0 1),(Qd.mk 0 1 2),(Qd.mk 1 2 3),(Qd.mk 2 2 4)]))]),(10,.agg [.nils 1,(i_ 1),.nils 1,.nils 3]),(11,(l_ [0,1,2])),(12,.d (.lst 3 (List.map Ql [(Qd.mk 0 0 1),(Qd.mk 0 1 2),(Qd.mk 1 2 3),(Qd.mk 2 2 4)]))),(13,(Qj x1)),(14,.agg [(l_ [0,1,2]),(i_ 4),.nils 1,(Qj x1)]),(15,(l_ [2])),(16,(l_ [0,1,2])),(17,.agg [(l_ [0,1,2]),(i_ 5),.nils 1,.d (.lst 3 (List.map Ql [(Qd.mk 0 0 1),(Qd.mk 0 1 2),(Qd.mk 1 2 3),(Qd.mk 2 2 4)])),.nils 1,(i_ 1),.nils 1,.nils 3,(l_ [0,1,2]),(i_ 4),.nils 1,(Qj x1),(l_ [2]),(l_ [0,1,2])])],Qn Γ.n0 (bxs [(0,.cells ([(l_ [0,1,2]),(i_ 5),.nils 1,.d (.lst 3 (List.map Ql [(Qd.mk 0 0 1),(Qd.mk 0 1 2),(Qd.mk 1 2 3),(Qd.mk 2 2 4)])),.nils 1,(i_ 1),.nils 1,.nils 3,(l_ [0,1,2]),(i_ 4),.nils 1,(Qj x1),(l_ [2]),(l_ [0,1,2])]))]) M,Γ.n0+18⟩;exact Qb7 16 [.int .i64 0,.int .i64 1,.int .i64 2] rfl rfl ⟨(fPtr rfl),sq,sq,sq,sq,sq,sq,sq,sq,sq,sq,sq,sq,sq,sq,sq,(fSl rfl rfl),(WkV.agg (cS rfl (cS rfl (cS rfl (cS rfl (cS rfl (cS rfl (cS rfl (cS rfl (cS rfl (cS rfl (cS rfl (cS rfl (cS rfl (.cons (fSl rfl rfl) .nil))))))))))))))),tv⟩ ⟨⟨_,rfl,rfl,(cS rfl (cS rfl (cS rfl (cS rfl (cS rfl (cS rfl (cS rfl (cS rfl (cS rfl (cS rfl (cS rfl (cS rfl (cS rfl (.cons (fSl rfl rfl) .nil))))))))))))))⟩,tv⟩ rfl) ?_;exact Y
theorem Qrm {P:Program} {c:Nat} (hcf:Qo P c=some Ql5) (fuel:Nat):Qih P c (Qcn fuel):=by
 intro l1 n2 r h;refine Qbq hcf rfl fun Γ M hP hnt hM=>?_;subst hP;refine ini ?_;refine Z 12 0 ?_;refine lw h [0,1,7,8] [] (fun x3 e=>(9,(i_ x3))::e) (fun _ l=>l) ke wk (fun _ x3 h=>?_);refine Z 5 0 ?_;refine ci h rfl (fun h=>?_) (fun h=>Y);refine Z 12 1 ?_;intro _ h;refine cw h [0,1,5,6,7,8,9] [] (fun x9 e=>(14,(b_ x9))::e) (fun _ l=>l) ke (fun _ h=>?_) (fun x9 h=>?_)
 ·refine Z 4 0 ?_;exact bi h (fun _ h=>Y) (fun _ h=>Y)
 ·refine cd h rfl (fun h=>Y) (fun h=>?_);refine cw h [0,1,7,8,9] [] (fun x14 e=>(22,(b_ x14))::e) (fun _ l=>l) ke (fun _ h=>?_) (fun x14 h=>?_)
  ·refine Z 4 0 ?_;exact bi h (fun _ h=>Y) (fun _ h=>Y)
  ·exact cd h rfl (fun h=>Y) (fun h=>Y)
theorem Qtm {P:Program} {c:Nat} (hcf:Qo P c=some Qos) (fuel:Nat):Qjw P c (Qdo fuel):=by
 intro s1 v2 r h;refine Qbq hcf rfl fun Γ M hP hnt hM=>?_;subst hP;refine ini ?_;refine Z 12 0 ?_;refine lw h [0,1,7] [] (fun x3 e=>(8,(i_ x3))::e) (fun _ l=>l) ke wk (fun _ x3 h=>?_);refine Z 5 0 ?_;refine ci h rfl (fun h=>?_) (fun h=>Y);refine Z 17 1 ?_;intro _ h;exact cd h rfl (fun h=>Y) (fun h=>Y)
theorem Qql {P:Program} {c:Nat} {Qdo:_}
    (Hdf:Qjw P 108 Qdo) (hcf:Qo P c=some Qlh):Qcc P c (Qk Qdo):=by
 intro s1 v2 r h;refine Qbq hcf rfl fun Γ M hP hnt hM=>?_;subst hP;refine ini ?_;refine Z 8 0 ?_;refine cl (Hdf _ _) h (cq fun _ h=>?_);exact Y
theorem Qpi {P:Program} {c:Nat} {Qk:_}
    (Hda:Qcc P 62 Qk) (hcf:Qo P c=some Qkh) (fuel:Nat):Qhe P c (Qck Qk fuel):=by
 intro a1 r h;refine Qbq hcf rfl fun Γ M hP hnt hM=>?_;subst hP;refine ini ?_;refine Z 14 0 ?_;refine lo h (fun x2=>⟨look [(1,.ptr (Γ.n0+1) 0),(7,(Qj a1.zD)),(8,(i_ (a1.zD.length:Int))),(9,(i_ x2))],Qn Γ.n0 (bxs [(1,.cells ((Qq a1)))]) M,Γ.n0+72⟩) wk (fun _ x2 h=>?_);refine Z 5 0 ?_;refine ci h rfl (fun h=>?_) (fun h=>Y);refine Tr.skip ?_;refine Tr.cutJ (fun ((c22,c23,c24):Int×Int×Int)=>⟨look [(1,.ptr (Γ.n0+1) 0),(7,(Qj a1.zD)),(8,(i_ (a1.zD.length:Int))),(9,(i_ x2))],Qn Γ.n0 (bxs [(1,.cells ((Qq a1))),(4,.cells ([(i_ c22),(i_ c23),(i_ c24)]))]) M,Γ.n0+72⟩) h (fun J25 h=>?_) (fun z h=>?_)
 ·refine Z 12 1 ?_;intro x5 h;refine cu h (fun x10=>⟨look [(1,.ptr (Γ.n0+1) 0),(3,(i_ x2)),(4,.ptr (Γ.n0+4) 0),(7,(Qj a1.zD)),(8,(i_ (a1.zD.length:Int))),(9,(i_ x2)),(14,(b_ x10))],Qn Γ.n0 (bxs [(1,.cells ((Qq a1))),(4,.cells ((Qmu x5)))]) M,Γ.n0+72⟩) (fun _ h=>?_) (fun x10 h=>?_)
  ·refine Z 5 0 ?_;refine bi h (fun _ h=>Y) (fun _ h=>?_);refine Z 7 0 ?_;refine bi h (fun _ h=>Y) (fun _ h=>?_);refine Z 5 0 ?_;exact bi h (fun _ h=>Y) (fun _ h=>Y)
  ·refine cd h rfl (fun h=>Y) (fun h=>?_);refine Z 6 0 ?_;refine cl (Hda _ _) h (cq fun _ h=>?_);refine Z 3 0 ?_;refine Tr.cond rfl (fun hb14=>?_) (fun hb14=>?_)
   ·have hb14:=nT' hb14;replace h:=bF hb14 h;exact Y
   ·have hb14:=nF' hb14;replace h:=bT hb14 h;refine Z 7 0 ?_;refine cd h rfl (fun h=>?_) (fun h=>?_)
    ·refine Tr.exit ?_;exact ⟨_,h,(by exact Qf2 [] ⟨(kPtr rfl),sq,sq,sq,tv⟩ ⟨bS rfl rfl rfl,bS rfl rfl rfl,tv⟩ rfl)⟩
    ·refine Z 12 1 ?_;intro x16 h;refine cu h (fun x20=>⟨look [(1,.ptr (Γ.n0+1) 0),(7,(Qj a1.zD)),(8,(i_ (a1.zD.length:Int))),(9,(i_ x2)),(70,(b_ x20))],Qn Γ.n0 (bxs [(1,.cells ((Qq a1))),(4,.cells ((Qmu x5))),(5,.cells ((Qmu x16)))]) M,Γ.n0+72⟩) (fun _ h=>?_) (fun x20 h=>?_)
     ·refine Z 7 0 ?_;refine bi h (fun _ h=>Y) (fun _ h=>?_);refine Z 6 0 ?_;exact bs h (fun _ h=>Y) (fun _ h=>Y)
     ·refine cd h rfl (fun h=>Y) (fun h=>?_);refine Tr.skip ?_;exact ⟨_,h,(by exact Qf2 [5] ⟨(kPtr rfl),sq,sq,sq,tv⟩ ⟨bS rfl rfl rfl,bS rfl rfl rfl,tv⟩ rfl)⟩
 ·obtain ⟨c22,c23,c24⟩:=z;exact Y
theorem Qus {P:Program} {c:Nat} {Qcn:_} {Qck:_}
    (Han:Qih P 97 Qcn)
    (Ham:Qhe P 98 Qck) (hcf:Qo P c=some Qqc):Qfc P c (Qx Qcn Qck):=by
 intro a1 r h;refine Qbq hcf rfl fun Γ M hP hnt hM=>?_;subst hP;refine ini ?_;refine Z 10 0 ?_;refine cl (Han _ _) h (cq fun _ h=>?_);refine Z 7 0 ?_;refine cd h rfl (fun h=>Y) (fun h=>?_);refine Z 10 0 ?_;refine ci h rfl (fun h=>Y) (fun h=>?_);refine Z 7 0 ?_;refine ci h rfl (fun h=>Y) (fun h=>?_);refine Z 8 0 ?_;refine cl (Han _ _) h (cq fun _ h=>?_);refine Z 7 0 ?_;refine cd h rfl (fun h=>Y) (fun h=>?_);refine Z 4 0 ?_;refine cl (Ham _) h (cq fun _ h=>?_);exact Y
theorem Qvz {P:Program} {c:Nat} (hcf:Qo P c=some Qr1) (fuel:Nat):Qiz P c (Qb9 fuel):=by
 intro a1 b2 kv3 g4 cp5 r h;intro M nb hc6 ho8 hf7;refine Qta hcf rfl M nb fun Γ hP hnt hn0 hM=>?_;subst hP hn0;refine ini ?_;refine Z 8 0 ?_;refine cw h [] [] (fun ov51 e=>(7,(o_ ov51))::e) (fun _ l=>l) ke (fun _ h=>?_) (fun ov51 h=>Y);refine Tr.block ?_;refine lw h [2] [] (fun (a11,b12,ov13) e=>(0,(l_ a11))::(1,(l_ b12))::(7,(o_ ov13))::e) (fun _ l=>l) ke wk (fun _ ⟨a11,b12,ov13⟩ h=>?_);refine Tr.seq ?_;refine cw h [0,1,2,7] [] (fun x16 e=>(18,(b_ x16))::e) (fun _ l=>l) ke (fun _ h=>?_) (fun x16 h=>?_)
 ·refine Z 5 0 ?_;exact bi h (fun _ h=>Y) (fun _ h=>Y)
 ·refine cd h rfl (fun h=>?_) (fun h=>Y);refine Z 2 0 ?_;refine cw h [0,1,2,7] [] (fun iv24 e=>(8,(b_ iv24))::e) (fun _ l=>l) ke (fun _ h=>?_) (fun iv24 h=>?_)
  ·refine Z 5 0 ?_;refine bi h (fun _ h=>?_) (fun _ h=>Y);refine Z 4 0 ?_;exact bs h (fun _ h=>Y) (fun _ h=>Y)
  ·refine cw h [0,1,2,7,8] [] (fun iv31 e=>(9,(b_ iv31))::e) (fun _ l=>l) ke (fun _ h=>?_) (fun iv31 h=>?_)
   ·refine Z 5 0 ?_;refine bi h (fun _ h=>?_) (fun _ h=>Y);refine Z 4 0 ?_;exact bs h (fun _ h=>Y) (fun _ h=>Y)
   ·refine Z 4 0 ?_;refine cw h [1,2,7,8,9] [] (fun (a37,x38) e=>(0,(l_ a37))::(10,(i_ x38))::e) (fun _ l=>l) ke (fun _ h=>?_) (fun ⟨a37,x38⟩ h=>?_)
    ·refine Z 4 0 ?_;refine cd h rfl (fun h=>?_) (fun h=>Y);refine Z 5 1 ?_;intro _ h;obtain ⟨x35,h36,h⟩:=bnd h;refine Rn.slcTD (e:=(eI .i64)) tv rfl rfl h36 ?_;exact Y
    ·refine cw h [0,2,7,8,9] [] (fun (b44,x45) e=>(1,(l_ b44))::(10,(i_ x45))::e) (fun _ l=>l) ke (fun _ h=>?_) (fun ⟨b44,x45⟩ h=>?_)
     ·refine Z 4 0 ?_;refine cd h rfl (fun h=>?_) (fun h=>Y);refine Z 5 1 ?_;intro _ h;obtain ⟨x42,h43,h⟩:=bnd h;refine Rn.slcTD (e:=(eI .i64)) tv rfl rfl h43 ?_;exact Y
     ·refine Z 5 0 ?_;obtain ⟨x47,h46,h⟩:=bnd h;refine Rn.callvM (args:=[(b_ iv24),(b_ iv31)]++cp5) tv rfl (by rw [hc6];rfl) (fun M2 nb2 hn hx=>hf7 _ _ _ h46 M2 nb2 (by omega) ((Qs9 hM).trans hx)) rfl pc9 ?_;refine Z 1 0 ?_;exact cd h rfl (fun h=>Y) (fun h=>Y)
theorem Qtn {P:Program} {c:Nat} (hcf:Qo P c=some Qot):Qjx P c (Qd7):=by
 intro iv1 iv2 r h;refine Qbq hcf rfl fun Γ M hP hnt hM=>?_;subst hP;refine ini ?_;refine Z 8 0 ?_;exact bs h (fun _ h=>Y) (fun _ h=>Y)
theorem Qv0 {P:Program} {c:Nat} {Qb9:_} {Qd7:_}
    (Hah:Qiz P 139 Qb9)
    (Had:Qjx P 140 Qd7) (hcf:Qo P c=some Qr2):Qlv P c (Qed Qb9 Qd7):=by
 intro a1 b2 r h;refine Qbq hcf rfl fun Γ M hP hnt hM=>?_;subst hP;refine ini ?_;refine Z 8 0 ?_;refine cm h (fun _ h7 M2 nb2 hn hx=>Hah _ _ _ 140 [] _ h7 M2 nb2 rfl tv (fun a3 a4 r5 h6 M3 nb3 hn3 hx3=>Had a3 a4 r5 h6 M3 nb3 )) rfl (cq fun _ h=>?_);exact Y
theorem Qut {P:Program} {c:Nat} {Qed:_}
    (Hac:Qlv P 99 Qed) (hcf:Qo P c=some Qqd):Qkx P c (Qd4 Qed):=by
 intro a1 b2 r h;refine Qbq hcf rfl fun Γ M hP hnt hM=>?_;subst hP;refine ini ?_;refine Z 8 0 ?_;refine cl (Hac _ _) h (cq fun _ h=>?_);exact Y
theorem Qse {P:Program} {c:Nat} (hcf:Qo P c=some Qnd) (fuel:Nat):Qi6 P c (Qdd fuel):=by
 intro xv1 n2 r h;refine Qbq hcf rfl fun Γ M hP hnt hM=>?_;subst hP;refine ini ?_;refine Z 12 0 ?_;refine lw h [0,1,7,8] [] (fun x3 e=>(9,(i_ x3))::e) (fun _ l=>l) ke wk (fun _ x3 h=>?_);refine Z 5 0 ?_;refine ci h rfl (fun h=>?_) (fun h=>Y);refine Z 12 1 ?_;intro _ h;refine cw h [0,1,5,6,7,8,9] [] (fun x9 e=>(20,(b_ x9))::e) (fun _ l=>l) ke (fun _ h=>?_) (fun x9 h=>?_)
 ·refine Z 4 0 ?_;exact bi h (fun _ h=>Y) (fun _ h=>Y)
 ·refine cd h rfl (fun h=>Y) (fun h=>?_);refine Tr.skip ?_;refine cw h [0,1,7,8,9] [] (fun x14 e=>(31,(b_ x14))::e) (fun _ l=>l) ke (fun _ h=>?_) (fun x14 h=>?_)
  ·refine Z 4 0 ?_;exact bi h (fun _ h=>Y) (fun _ h=>Y)
  ·exact cd h rfl (fun h=>Y) (fun h=>Y)
theorem Qv1 {P:Program} {c:Nat} {Qx:_} {Qd4:_} {Qdd:_}
    (Hai:Qfc P 48 Qx)
    (Hae:Qkx P 49 Qd4)
    (Haa:Qi6 P 50 Qdd) (hcf:Qo P c=some Qr3) (fuel:Nat):Qg7 P c (Qbh Qx Qd4 Qdd fuel):=by
 intro p1 r h;refine Qbq hcf rfl fun Γ M hP hnt hM=>?_;subst hP;refine ini ?_;refine Z 15 0 ?_;refine Rn.k (v:=.d (.int .i64 3)) tv rfl rfl rfl ?_;refine Z 3 0 ?_;refine Tr.weak (by show WeakSt Γ _ ⟨look [(0,(Qr p1)),(1,.ptr (Γ.n0+1) 0),(2,(i_ 0)),(11,.ptr (Γ.n0+1) 0),(12,(Qg p1.Plant)),(13,.ptr (Γ.n0+1) 4),(14,(Qg p1.Ambient)),(15,.ptr (Γ.n0+1) 8),(16,(Qg p1.Requirement)),(17,.d (.lst 4 (List.map Qbb [p1.Plant,p1.Ambient,p1.Requirement]))),(18,(i_ 3)),(19,(i_ 0))],Qn Γ.n0 (bxs [(1,.cells ((Qba p1)))]) M,Γ.n0+63⟩;exact Qb7 17 [.lst 1 (List.map (eI .i64) p1.Plant.zB),.int .i64 p1.Plant.zF,.lst 1 (List.map (eI .i64) p1.Plant.zC),.lst 3 (List.map Ql p1.Plant.zD),.lst 1 (List.map (eI .i64) p1.Ambient.zB),.int .i64 p1.Ambient.zF,.lst 1 (List.map (eI .i64) p1.Ambient.zC),.lst 3 (List.map Ql p1.Ambient.zD),.lst 1 (List.map (eI .i64) p1.Requirement.zB),.int .i64 p1.Requirement.zF,.lst 1 (List.map (eI .i64) p1.Requirement.zC),.lst 3 (List.map Ql p1.Requirement.zD)] rfl rfl ⟨sq,(fPtr rfl),sq,(fPtr rfl),sq,(fPtr rfl),sq,(fPtr rfl),sq,(fSl rfl rfl),sq,sq,tv⟩ ⟨bS rfl rfl rfl,tv⟩ rfl) ?_;refine lw h [1,17,18] [1] (fun x2 e=>(19,(i_ x2))::e) (fun _ l=>l) ke wk (fun _ x2 h=>?_);refine Z 5 0 ?_;refine ci h rfl (fun h=>?_) (fun h=>?_)
 ·refine Z 13 1 ?_;intro _ h;refine cl (Hai _) h (cq fun _ h=>?_);refine Z 7 0 ?_;exact cd h rfl (fun h=>Y) (fun h=>Y)
 ·refine Z 9 0 ?_;refine Rn.k (v:=.d (.int .i64 2)) tv rfl rfl rfl ?_;refine Z 3 0 ?_;refine Tr.weak (by show WeakSt Γ _ ⟨look [(1,.ptr (Γ.n0+1) 0),(17,.d (.lst 4 (List.map Qbb [p1.Plant,p1.Ambient,p1.Requirement]))),(18,(i_ 3)),(19,(i_ x2)),(20,(b_ (decide (x2<3)))),(29,.ptr (Γ.n0+1) 4),(30,(Qg p1.Ambient)),(31,.ptr (Γ.n0+1) 8),(32,(Qg p1.Requirement)),(33,.d (.lst 4 (List.map Qbb [p1.Ambient,p1.Requirement]))),(34,(i_ 2)),(35,(i_ 0))],Qn Γ.n0 (bxs [(1,.cells ((Qba p1)))]) M,Γ.n0+63⟩;exact Qb7 33 [.lst 1 (List.map (eI .i64) p1.Ambient.zB),.int .i64 p1.Ambient.zF,.lst 1 (List.map (eI .i64) p1.Ambient.zC),.lst 3 (List.map Ql p1.Ambient.zD),.lst 1 (List.map (eI .i64) p1.Requirement.zB),.int .i64 p1.Requirement.zF,.lst 1 (List.map (eI .i64) p1.Requirement.zC),.lst 3 (List.map Ql p1.Requirement.zD)] rfl rfl ⟨(fPtr rfl),sq,sq,sq,sq,(fPtr rfl),sq,(fPtr rfl),sq,(fSl rfl rfl),sq,sq,tv⟩ ⟨bS rfl rfl rfl,tv⟩ rfl) ?_;refine lw h [1,33,34] [1] (fun x10 e=>(35,(i_ x10))::e) (fun _ l=>l) ke wk (fun _ x10 h=>?_);refine Z 5 0 ?_;refine ci h rfl (fun h=>?_) (fun h=>?_)
  ·refine Z 17 1 ?_;intro _ h;refine cl (Hae _ _) h (cq fun _ h=>?_);refine Z 2 0 ?_;refine Tr.cond rfl (fun hb17=>?_) (fun hb17=>?_)
   ·have hb17:=nT' hb17;replace h:=bF hb17 h;exact Y
   ·have hb17:=nF' hb17;replace h:=bT hb17 h;exact Y
  ·refine Z 9 0 ?_;refine Rn.k (v:=.d (.int .i64 2)) tv rfl rfl rfl ?_;refine Z 3 0 ?_;refine Tr.weak (by show WeakSt Γ _ ⟨look [(1,.ptr (Γ.n0+1) 0),(33,.d (.lst 4 (List.map Qbb [p1.Ambient,p1.Requirement]))),(34,(i_ 2)),(35,(i_ x10)),(36,(b_ (decide (x10<2)))),(47,.ptr (Γ.n0+1) 12),(48,(l_ p1.Observable)),(49,.ptr (Γ.n0+1) 13),(50,(l_ p1.Controllable)),(51,.d (.lst 1 (List.map (eL 1 (eI .i64)) [p1.Observable,p1.Controllable]))),(52,(i_ 2)),(53,(i_ 0))],Qn Γ.n0 (bxs [(1,.cells ((Qba p1)))]) M,Γ.n0+63⟩;exact Qb7 51 [.lst 1 (List.map (eI .i64) p1.Observable),.lst 1 (List.map (eI .i64) p1.Controllable)] rfl rfl ⟨(fPtr rfl),sq,sq,sq,sq,(fPtr rfl),sq,(fPtr rfl),sq,(fSl rfl rfl),sq,sq,tv⟩ ⟨bS rfl rfl rfl,tv⟩ rfl) ?_;refine lw h [51,52] [1] (fun x18 e=>(53,(i_ x18))::e) (fun _ l=>l) ke wk (fun _ x18 h=>?_);refine Z 5 0 ?_;refine ci h rfl (fun h=>?_) (fun h=>Y);refine Z 12 1 ?_;intro _ h;refine cl (Haa _ _) h (cq fun _ h=>?_);refine Z 7 0 ?_;exact cd h rfl (fun h=>Y) (fun h=>Y)
theorem Qw4 {P:Program} {c:Nat} {Qx:_}
    (Hai:Qfc P 48 Qx) (hcf:Qo P c=some Qte) (fuel:Nat):Qne P c (Qfg Qx fuel):=by
 intro l1 r h;refine Qbq hcf rfl fun Γ M hP hnt hM=>?_;subst hP;refine ini ?_;refine Z 11 0 ?_;refine ci h rfl (fun h=>Y) (fun h=>?_);refine Z 9 0 ?_;refine lw h [9,10] [] (fun x3 e=>(11,(i_ x3))::e) (fun _ l=>l) ke wk (fun _ x3 h=>?_);refine Z 5 0 ?_;refine ci h rfl (fun h=>?_) (fun h=>Y);refine Z 13 1 ?_;intro _ h;refine cl (Hai _) h (cq fun _ h=>?_);refine Z 7 0 ?_;exact cd h rfl (fun h=>Y) (fun h=>Y)
theorem Qto {P:Program} {c:Nat} (hcf:Qo P c=some Qou):Qjy P c (Qd8):=by
 intro iv1 iv2 r h;refine Qbq hcf rfl fun Γ M hP hnt hM=>?_;subst hP;refine ini ?_;refine Z 8 0 ?_;exact bs h (fun _ h=>Y) (fun _ h=>Y)
theorem Qv2 {P:Program} {c:Nat} {Qb9:_} {Qd8:_}
    (Hah:Qiz P 139 Qb9)
    (Hag:Qjy P 172 Qd8) (hcf:Qo P c=some Qr4):Qlw P c (Qe4 Qb9 Qd8):=by
 intro a1 b2 r h;refine Qbq hcf rfl fun Γ M hP hnt hM=>?_;subst hP;refine ini ?_;refine Z 8 0 ?_;refine cm h (fun _ h7 M2 nb2 hn hx=>Hah _ _ _ 172 [] _ h7 M2 nb2 rfl tv (fun a3 a4 r5 h6 M3 nb3 hn3 hx3=>Hag a3 a4 r5 h6 M3 nb3 )) rfl (cq fun _ h=>?_);exact Y
theorem Qv3 {P:Program} {c:Nat} {Qe4:_}
    (Haf:Qlw P 155 Qe4) (hcf:Qo P c=some Qr5) (fuel:Nat):Qlx P c (Qe5 Qe4 fuel):=by
 intro l1 r h;refine Qbq hcf rfl fun Γ M hP hnt hM=>?_;subst hP;refine ini ?_;refine Z 8 0 ?_;refine cw h [] [] (fun ov10 e=>(3,(o_ ov10))::e) (fun _ l=>l) ke (fun _ h=>?_) (fun ov10 h=>Y);refine Z 7 0 ?_;refine lw h [6,7] [] (fun (ov2,x3) e=>(3,(o_ ov2))::(8,(i_ x3))::e) (fun _ l=>l) ke wk (fun _ ⟨ov2,x3⟩ h=>?_);refine Z 5 0 ?_;refine ci h rfl (fun h=>?_) (fun h=>Y);refine Z 14 1 ?_;intro _ h;refine cl (Haf _ _) h (cq fun _ h=>?_);exact Y
theorem Qx9 {P:Program} {c:Nat} {Qe5:_}
    (Hbm:Qlx P 131 Qe5) (hcf:Qo P c=some Qvi) (fuel:Nat):Qpg P c (Qf6 Qe5 fuel):=by
 intro l1 r h;refine Qbq hcf rfl fun Γ M hP hnt hM=>?_;subst hP;refine ini ?_;refine Z 8 0 ?_;refine cl (Hbm _) h (cq fun x3 h=>?_);refine Rn.buildT (v:=.agg [(Qbc l1),(o_ x3),.nils 1]) tv rfl ?_;refine Z 3 0 ?_;refine cw h [2,3] [] (fun _ e=>e) (fun (c28,c29,c30,m31) l=>(2,.cells ([(Qnb c28),(o_ c29),.own 1 (List.map (fun p:List ((Int×Int)×Int)=>[mq0 p]) c30)]))::(3,.cells ([(Qbc l1),(o_ x3),.own 1 (List.map (fun p:List ((Int×Int)×Int)=>[mq0 p]) m31)]))::l) ke (fun _ h=>?_) (fun ⟨c28,c29,c30,m31⟩ h=>Y);refine Z 7 0 ?_;refine lw h [2,3,13,14] [] (fun (x4,c5,c6,c7,m8) e=>(15,(i_ x4))::e) (fun (x4,c5,c6,c7,m8) l=>(2,.cells ([(Qnb c5),(o_ c6),.own 1 (List.map (fun p:List ((Int×Int)×Int)=>[mq0 p]) c7)]))::(3,.cells ([(Qbc l1),(o_ x3),.own 1 (List.map (fun p:List ((Int×Int)×Int)=>[mq0 p]) m8)]))::l) ke wk (fun _ ⟨x4,c5,c6,c7,m8⟩ h=>?_);refine Z 5 0 ?_;refine ci h rfl (fun h=>?_) (fun h=>Y);refine Tr.skip ?_;refine cw h [2,3,13,14,15] [2] (fun _ e=>e) (fun (m22,a23,a24,a25,a26,c27) l=>(3,.cells ([(Qbc l1),(o_ x3),.own 1 (List.map (fun p:List ((Int×Int)×Int)=>[mq0 p]) m22)]))::(5,.cells ([(l_ a23),(i_ a24),(l_ a25),(Qj a26)]))::(39,.cells ([.d (mq0 c27)]))::l) ke (fun _ h=>?_) (fun ⟨m22,a23,a24,a25,a26,c27⟩ h=>Y);refine Z 10 1 ?_;intro x11 h;refine Rn.mkmap tv rfl (fun (x:Int×Int)=>(.agg [(i_ x.1),(i_ x.2)]:V)) (fun (x:Int)=>((i_ x):V)) ?_;refine Z 2 0 ?_;refine cw h [2,3,6,13,14,15] [2,3,5] (fun _ e=>e) (fun c19 l=>(19,.mp (mapE (fun (x:Int×Int)=>(.agg [(i_ x.1),(i_ x.2)]:V)) (fun (x:Int)=>((i_ x):V)) 0 c19) (c19).length)::l) ke (fun _ h=>?_) (fun c19 h=>?_)
 ·refine Z 8 0 ?_;refine lw h [2,3,6,13,14,15,21,22] [2,3,5] (fun (x13,c14) e=>(23,(i_ x13))::e) (fun (x13,c14) l=>(19,.mp (mapE (fun (x:Int×Int)=>(.agg [(i_ x.1),(i_ x.2)]:V)) (fun (x:Int)=>((i_ x):V)) 0 c14) (c14).length)::l) ke wk (fun _ ⟨x13,c14⟩ h=>?_);refine Z 5 0 ?_;refine ci h rfl (fun h=>?_) (fun h=>Y);refine Z 19 1 ?_;intro x17 h;refine Rn.mapset (ek:=(fun (x:Int×Int)=>(.agg [(i_ x.1),(i_ x.2)]:V))) (ev:=(fun (x:Int)=>((i_ x):V))) (m:=c14) (k:=(x17.From,x17.Event)) (v:=x17.To) Q6z (fun _=>rfl) (fun _=>rfl) tv rfl rfl rfl rfl rfl ?_;exact Y
 ·refine Z 5 0 ?_;refine Rn.weak (by show WeakSt Γ _ ⟨look [(2,.ptr (Γ.n0+2) 0),(3,.ptr (Γ.n0+3) 0),(6,.d (mq0 c19)),(13,(Qbc l1)),(14,(i_ (l1.length:Int))),(15,(i_ x4)),(36,.ptr (Γ.n0+3) 2),(37,.own 1 (List.map (fun p:List ((Int×Int)×Int)=>[mq0 p]) m8)),(38,.d (mq0 c19)),(39,.sl 1 (Γ.n0+39) 0 1 1)],Qn Γ.n0 (bxs [(2,.cells ([(Qnb c5),(o_ c6),.own 1 (List.map (fun p:List ((Int×Int)×Int)=>[mq0 p]) c7)])),(3,.cells ([(Qbc l1),(o_ x3),.d (.lst 1 (List.map (fun p:List ((Int×Int)×Int)=>[mq0 p]) m8))])),(5,.cells ((Qq x11))),(39,.cells ([.d (mq0 c19)]))]) M,Γ.n0+44⟩;exact Qy2 (ek:=(fun (x:Int×Int)=>(.agg [(i_ x.1),(i_ x.2)]:V))) (ev:=(fun (x:Int)=>((i_ x):V))) (m:=c19) 19 rfl (fun _=>rfl) (fun _=>rfl) ⟨(mPtr rfl),(mPtr rfl),mMpS,sq,sq,sq,(mPtr rfl),sq,mMpS,(mSlO rfl),tv⟩ ⟨bS rfl rfl rfl,bS rfl rfl rfl,bS rfl rfl rfl,⟨_,rfl,rfl,(.cons mMpS .nil)⟩,tv⟩ rfl) ?_;exact Y
theorem Qmj {P:Program} {c:Nat} (hcf:Qo P c=some Qim) (fuel:Nat):Qf7 P c (Qce fuel):=by
 intro m1 r h;refine Qbq hcf rfl fun Γ M hP hnt hM=>?_;subst hP;refine ini ?_;refine Z 15 0 ?_;refine lw h [1,7,8] [1] (fun x2 e=>(9,(i_ x2))::e) (fun _ l=>l) ke wk (fun _ x2 h=>?_);refine Z 5 0 ?_;refine ci h rfl (fun h=>?_) (fun h=>?_)
 ·refine Z 16 1 ?_;intro _ h;exact cd h rfl (fun h=>Y) (fun h=>Y)
 ·refine Z 6 0 ?_;obtain ⟨x8,h9,h⟩:=bnd h;refine Rn.makes (g:=(fun (x:Int)=>[V.d (.int .i64 x)])) tv rfl rfl rfl rfl rfl h9 ?_;refine Z 3 0 ?_;obtain ⟨⟨⟩,hl10,h⟩:=bnd h;refine Tr.weak (by show WeakSt Γ _ ⟨look [(1,.ptr (Γ.n0+1) 0),(2,(l_ x8)),(3,(b_ true)),(7,(Qbc m1.list_)),(8,(i_ (m1.list_.length:Int))),(9,(i_ x2)),(10,(b_ (decide (x2<(m1.list_.length:Int))))),(17,.ptr (Γ.n0+1) 0),(18,(Qbc m1.list_)),(19,(i_ (m1.list_.length:Int))),(20,(l_ x8))],Qn Γ.n0 (bxs [(1,.cells ((Qd3 m1)))]) M,Γ.n0+21⟩;exact Qb7 20 _ rfl (Qp9 (fun _=>rfl) _) ⟨(fPtr rfl),(fSlA (fun _=>rfl) (Qf3 hl10)),sq,sq,sq,sq,sq,(fPtr rfl),sq,sq,(fSlA (fun _=>rfl) (Qf3 hl10)),tv⟩ ⟨bS rfl rfl rfl,tv⟩ rfl) ?_;exact Y
theorem Qw5 {P:Program} {c:Nat} (hcf:Qo P c=some Qtf):Qnf P c (Qeu):=by
 intro x1 r h;refine Qbq hcf rfl fun Γ M hP hnt hM=>?_;subst hP;refine ini ?_;exact Y
theorem Qya {P:Program} {c:Nat} {Qeu:_}
    (Has:Qnf P 171 Qeu) (hcf:Qo P c=some Qvj):Qph P c (Qf8 Qeu):=by
 intro x1 y2 r h;refine Qbq hcf rfl fun Γ M hP hnt hM=>?_;subst hP;refine ini ?_;refine Z 7 0 ?_;refine cl (Has _) h (cq fun _ h=>?_);refine Z 1 0 ?_;refine bs h (fun _ h=>?_) (fun _ h=>Y);refine Z 1 0 ?_;refine cl (Has _) h (cq fun _ h=>?_);refine Z 3 0 ?_;exact bs h (fun _ h=>Y) (fun _ h=>Y)
theorem Qtp {P:Program} {c:Nat} (hcf:Qo P c=some Qov):Qjz P c (Qdp):=by
 intro x1 r h;refine Qbq hcf rfl fun Γ M hP hnt hM=>?_;subst hP;refine ini ?_;exact Y
theorem Qmk {P:Program} {c:Nat} {Qf8:_} {Qdp:_}
    (Har:Qph P 153 Qf8)
    (Hdi:Qjz P 154 Qdp) (hcf:Qo P c=some Qin) (fuel:Nat):Qeo P c (Q1 Qf8 Qdp fuel):=by
 intro x1 tv2 r h;refine Qbq hcf rfl fun Γ M hP hnt hM=>?_;subst hP;refine ini ?_;refine Z 17 0 ?_;refine cw h [0,1,6] [] (fun i12 e=>(7,(i_ i12))::e) (fun _ l=>l) ke (fun _ h=>?_) (fun i12 h=>?_)
 ·refine Tr.block ?_;refine lw h [0,1,6] [] (fun (i3,j4) e=>(7,(i_ i3))::(8,(i_ j4))::e) (fun _ l=>l) ke wk (fun _ ⟨i3,j4⟩ h=>?_);refine Z 7 0 ?_;refine ci h rfl (fun h=>?_) (fun h=>Y);refine Z 19 1 ?_;intro _ h;refine cl (Har _ _) h (cq fun _ h=>?_);refine Z 1 0 ?_;exact cd h rfl (fun h=>Y) (fun h=>Y)
 ·refine Z 7 0 ?_;refine bi h (fun _ h=>?_) (fun _ h=>Y);refine Z 7 1 ?_;intro _ h;refine bs h (fun _ h=>Y) (fun _ h=>?_);refine Z 4 1 ?_;intro _ h;refine cl (Hdi _) h (cq fun _ h=>?_);refine Z 1 0 ?_;refine bs h (fun _ h=>?_) (fun _ h=>Y);refine Z 1 0 ?_;refine cl (Hdi _) h (cq fun _ h=>?_);exact Y
theorem Qsf {P:Program} {c:Nat} {Q1:_}
    (Hcv:Qeo P 128 Q1) (hcf:Qo P c=some Qng):Qfh P c (Q0 Q1):=by
 intro xv1 x2 r h;refine Qbq hcf rfl fun Γ M hP hnt hM=>?_;subst hP;refine ini ?_;refine Z 8 0 ?_;refine cl (Hcv _ _) h (cq fun ⟨_,_⟩ h=>?_);exact Y
theorem Qns {P:Program} {c:Nat} {Q0:_}
    (Hab:Qfh P 85 Q0) (hcf:Qo P c=some Qjg) (fuel:Nat):Qgj P c (Qcp Q0 fuel):=by
 intro m1 tv2 r h;refine Qbq hcf rfl fun Γ M hP hnt hM=>?_;subst hP;refine ini ?_;refine Z 14 0 ?_;refine lw h [1,8,9] [2] (fun x3 e=>(10,(i_ x3))::e) (fun _ l=>l) ke wk (fun _ x3 h=>?_);refine Z 5 0 ?_;refine ci h rfl (fun h=>?_) (fun h=>Y);refine Z 20 1 ?_;intro _ _ h;refine cl (Hab _ _) h (cq fun _ h=>?_);refine Z 2 0 ?_;refine Tr.cond rfl (fun hb12=>?_) (fun hb12=>?_)
 ·have hb12:=nT' hb12;replace h:=bF hb12 h;exact Y
 ·have hb12:=nF' hb12;replace h:=bT hb12 h;exact Y
theorem Qtq {P:Program} {c:Nat} (hcf:Qo P c=some Qow):Qct P c (Qm):=by
 intro s1 r h;refine Qbq hcf rfl fun Γ M hP hnt hM=>?_;subst hP;refine ini ?_;refine Z 8 0 ?_;refine Rn.isnil (e:=(eI .i64)) tv rfl h (fun b2 h=>?_);refine Z 1 0 ?_;exact cd h rfl (fun h=>Y) (fun h=>Y)
theorem Qpj {P:Program} {c:Nat} {Qm:_} {Q0:_}
    (Hcw:Qct P 58 Qm)
    (Hab:Qfh P 85 Q0) (hcf:Qo P c=some Qki) (fuel:Nat):Qhf P c (Qc3 Qm Q0 fuel):=by
 intro m1 tv2 ev3 r h;refine Q9p hcf (args':=[.agg [.f (.lst 4 (List.map Qbb m1.list_)),(f_ m1.events_),.f (.lst 1 (List.map (fun p:List ((Int×Int)×Int)=>[mq0 p]) m1.edges_))],(f_ tv2),(i_ ev3)]) rfl rfl rfl rfl rfl rfl fun Γ M hP hnt hG hM0 hM=>?_;subst hP;refine ini ?_;refine Z 9 0 ?_;obtain ⟨x5,h4,h⟩:=bnd h;refine Rn.call (args:=[(f_ tv2)]) tv rfl (fun M2 nb2=>ACalls.weak (args':=[(l_ tv2)]) (Hcw _ _ h4 M2 nb2) (.cons fToD .nil) rfl) pc9 ?_;refine Z 2 0 ?_;obtain ⟨⟨⟩,hx6,h⟩:=bnd h;refine Tr.weak (wS [0,1,2,3,6,7,8,13] [3] (fun e=>e) (fun l=>l) ke wk) ?_;refine Qbdn hG hM0 8 8 (e:=(eI .i64)) (fun (x:Int)=>[V.d (.int .i64 x)]) (fun _=>rfl) (Qba1 hx6) (fun _=>rfl) rfl rfl rfl ⟨rfl,rfl,rfl,rfl,rfl,rfl,rfl,(Q6x (fun _=>rfl)),rfl,tv⟩ ⟨⟨rfl,rfl,rfl,tv⟩,tv⟩ (fun c7 R8 hc9=>?_);refine Tr.weak (wS [0,1,2,3,6,7,8,13] [3,8] (fun e=>e) (fun l=>l) ke wk) ?_;refine Z 5 0 ?_;refine Rn.weak (wS [0,1,2,3,6,7,8,13,15] [3,8] (fun e=>(16,(Qbc m1.list_))::e) (fun l=>l) ke wk) ?_;refine Z 4 0 ?_;refine Tr.weak (wS [0,1,2,3,6,7,8,13,15,16,17,18] [8] (fun e=>e) (fun l=>(3,.cells ([.f (.lst 4 (List.map Qbb m1.list_)),(f_ m1.events_),.d (.lst 1 (List.map (fun p:List ((Int×Int)×Int)=>[mq0 p]) m1.edges_))]))::l) ke wk) ?_;refine Tr.weak (wS [0,2,3,6,7,8,13,15,16,17,18] [3,8] (fun e=>(1,(l_ tv2))::e) (fun l=>l) ke wk) ?_;refine lo h (fun (x10,nv11)=>⟨look [(1,(l_ tv2)),(2,(i_ ev3)),(3,.ptr (Γ.n0+3) 0),(8,.sl 1 (Γ.n0+8) 0 x5.length c7),(16,(Qbc m1.list_)),(17,(i_ (m1.list_.length:Int))),(18,(i_ x10))],Qn Γ.n0 (bxs [(3,.cells ([.f (.lst 4 (List.map Qbb m1.list_)),(f_ m1.events_),.d (.lst 1 (List.map (fun p:List ((Int×Int)×Int)=>[mq0 p]) m1.edges_))])),(8,.cells (rowR (fun (x:Int)=>[V.d (.int .i64 x)]) nv11 R8))]) M,Γ.n0+51⟩) wk (fun _ ⟨x10,nv11⟩ h=>?_);refine Z 5 0 ?_;refine ci h rfl (fun h=>?_) (fun h=>?_)
 ·refine Tr.skip ?_;refine Tr.cutJ (fun ((nv28,a29,a30,a31,a32):(List Int)×(List Int)×Int×(List Int)×(List Qd))=>⟨look [(1,(l_ tv2)),(2,(i_ ev3)),(3,.ptr (Γ.n0+3) 0),(8,.sl 1 (Γ.n0+8) 0 x5.length c7),(16,(Qbc m1.list_)),(17,(i_ (m1.list_.length:Int))),(18,(i_ x10))],Qn Γ.n0 (bxs [(3,.cells ([.f (.lst 4 (List.map Qbb m1.list_)),(f_ m1.events_),.d (.lst 1 (List.map (fun p:List ((Int×Int)×Int)=>[mq0 p]) m1.edges_))])),(8,.cells (rowR (fun (x:Int)=>[V.d (.int .i64 x)]) nv28 R8)),(10,.cells ([(l_ a29),(i_ a30),(l_ a31),(Qj a32)]))]) M,Γ.n0+51⟩) h (fun J33 h=>?_) (fun z h=>?_)
  ·refine Z 16 1 ?_;intro _ h;refine cl (Hab _ _) h (cq fun _ h=>?_);refine Z 2 0 ?_;refine Tr.cond rfl (fun hb18=>?_) (fun hb18=>?_)
   ·have hb18:=nT' hb18;replace h:=bF hb18 h;refine Tr.exit ?_;exact ⟨_,h,(by exact Qf2 [] ⟨sq,sq,(kPtr rfl),(kSl rfl),sq,sq,sq,tv⟩ ⟨bS rfl rfl rfl,⟨_,rfl,rfl,(Q5t (fun _=>rfl) rfl)⟩,bS rfl rfl rfl,tv⟩ rfl)⟩
   ·have hb18:=nF' hb18;replace h:=bT hb18 h;refine Z 14 1 ?_;intro x19 x21 h;refine Rn.lookupDC (ek:=(fun (x:Int×Int)=>(.agg [(i_ x.1),(i_ x.2)]:V))) (ev:=(fun (x:Int)=>((i_ x):V))) (m:=x19) (k:=(x21,ev3)) Q6z (fun _=>rfl) (fun _=>rfl) (fun _=>rfl) (fun _=>rfl) 0 rfl tv rfl rfl ?_;refine Z 12 0 ?_;refine Tr.cond rfl (fun hb23=>?_) (fun hb23=>?_)
    ·have hb23:=nT' hb23;replace h:=bF hb23 h;exact Y
    ·have hb23:=nF' hb23;replace h:=bT hb23 h;refine Z 6 1 ?_;intro h;obtain ⟨nv26,h27,h⟩:=bnd h;refine Rn.storeR (g:=(fun (x:Int)=>[V.d (.int .i64 x)])) (v:=(i_ (getM x19 (x21,ev3) 0))) (fun _=>rfl) tv rfl rfl rfl rfl rfl h27 ?_;refine Z 1 0 ?_;exact ⟨_,h,(by exact Qf2 [] ⟨sq,sq,(kPtr rfl),(kSl rfl),sq,sq,sq,tv⟩ ⟨bS rfl rfl rfl,⟨_,rfl,rfl,(Q5t (fun _=>rfl) rfl)⟩,bS rfl rfl rfl,tv⟩ rfl)⟩
  ·obtain ⟨nv28,a29,a30,a31,a32⟩:=z;exact Y
 ·refine Z 7 0 ?_;obtain ⟨⟨⟩,hl34,h⟩:=bnd h;refine Tr.weak (by show WeakSt Γ _ ⟨look [(1,(l_ tv2)),(2,(i_ ev3)),(3,.ptr (Γ.n0+3) 0),(6,(l_ nv11)),(7,(b_ true)),(8,(l_ nv11)),(16,(Qbc m1.list_)),(17,(i_ (m1.list_.length:Int))),(18,(i_ x10)),(19,(b_ (decide (x10<(m1.list_.length:Int))))),(50,(l_ nv11))],Qn Γ.n0 (bxs [(3,.cells ([.f (.lst 4 (List.map Qbb m1.list_)),(f_ m1.events_),.d (.lst 1 (List.map (fun p:List ((Int×Int)×Int)=>[mq0 p]) m1.edges_))]))]) M,Γ.n0+51⟩;exact Qop 8 _ rfl (preR (fun _=>rfl)) ⟨sq,sq,(fPtr rfl),(fSlT (fun _=>rfl) (Qf3 hl34) hc9),sq,(fSlT (fun _=>rfl) (Qf3 hl34) hc9),sq,sq,sq,sq,(fSlT (fun _=>rfl) (Qf3 hl34) hc9),tv⟩ ⟨bS rfl rfl rfl,tv⟩ rfl) ?_;exact Y
theorem Qqm {P:Program} {c:Nat} {Qfg:_} {Qf6:_} {Qce:_} {f_product_key:_} {Qcp:_} {Qc3:_}
    (Hbj:Qne P 88 Qfg)
    (Hbr:Qpg P 89 Qf6)
    (Hbo:Qf7 P 90 Qce)
    (Hbn:K_product_key P 91 f_product_key)
    (Hbp:Qgj P 92 Qcp)
    (Hbq:Qhf P 93 Qc3) (hcf:Qo P c=some Qli) (fuel:Nat):Qf5 P c (Qbk Qfg Qf6 Qce f_product_key Qcp Qc3 fuel):=by
 intro l1 r h;refine Qbq hcf rfl fun Γ M hP hnt hM=>?_;subst hP;refine ini ?_;refine Z 10 0 ?_;refine cl (Hbj _) h (cq fun x3 h=>?_);refine Z 7 0 ?_;refine cd h rfl (fun h=>Y) (fun h=>?_);refine Z 4 0 ?_;refine cl (Hbr _) h (cq fun x6 h=>?_);refine Z 13 0 ?_;refine cl (Hbo _) h (cq fun ⟨r8,r9⟩ h=>?_);refine Z 12 0 ?_;refine Tr.cond rfl (fun hb10=>?_) (fun hb10=>?_)
 ·have hb10:=nT' hb10;replace h:=bF hb10 h;exact Y
 ·have hb10:=nF' hb10;replace h:=bT hb10 h;refine Z 9 0 ?_;refine Rn.mkmap tv rfl (fun (x:ByteArray)=>(.d (.str x):V)) (fun (x:Int)=>((i_ x):V)) ?_;refine Z 1 0 ?_;refine cl (Hbn _) h (cq fun x12 h=>?_);refine Rn.mapset (ek:=(fun (x:ByteArray)=>(.d (.str x):V))) (ev:=(fun (x:Int)=>((i_ x):V))) (m:=([]:List (ByteArray×Int))) (k:=x12) (v:=0) (fun _ _=>rfl) (fun _=>rfl) (fun _=>rfl) tv rfl rfl rfl rfl rfl ?_;refine Z 9 0 ?_;refine Tr.weak (by show WeakSt Γ _ ⟨look ((3,.own 1 (List.map (eL 1 (eI .i64)) [r8]))::[(0,(Qbc l1)),(2,.ptr (Γ.n0+2) 0),(4,(i_ 0)),(5,(i_ x3)),(6,.ptr (Γ.n0+6) 0),(7,(l_ r8)),(8,(b_ r9)),(9,.mp (Γ.n0+38)),(10,(i_ 0)),(17,(Qbc l1)),(18,(i_ x3)),(19,(i_ x3)),(20,(b_ (x3 != 0))),(23,(Qbc l1)),(24,(Qfb x6)),(25,.ptr (Γ.n0+6) 1),(26,(l_ x6.events_)),(27,.ptr (Γ.n0+2) 0),(28,.tup [(l_ r8),(b_ r9)]),(29,(Qfb x6)),(30,.tup [(l_ r8),(b_ r9)]),(31,(l_ r8)),(32,(b_ r9)),(33,(b_ r9)),(34,(b_ (!r9))),(36,(l_ r8)),(38,.mp (Γ.n0+38)),(39,(l_ r8)),(40,.d (.str x12)),(41,.mp (Γ.n0+38))] ),Qn Γ.n0 (bxs [(2,.cells ([(l_ x6.events_),(i_ 0),.nils 1,.nils 3])),(6,.cells ((Qd3 x6))),(38,.mp (mapE (fun (x:ByteArray)=>(.d (.str x):V)) (fun (x:Int)=>((i_ x):V)) 0 (setM ([]:List (ByteArray×Int)) x12 0)) ((setM ([]:List (ByteArray×Int)) x12 0)).length)]) M,Γ.n0+117⟩;exact Qp8 37 3 [.lst 1 (List.map (eI .i64) r8)] rfl rfl rfl rfl rfl ⟨sq,(kPtr rfl),sq,sq,(kPtr rfl),sq,sq,(kMp rfl),sq,sq,sq,sq,sq,sq,sq,(kPtr rfl),sq,(kPtr rfl),sq,sq,sq,sq,sq,sq,sq,sq,(kMp rfl),sq,sq,(kMp rfl),tv⟩ ⟨bS rfl rfl rfl,bS rfl rfl rfl,⟨rfl,rfl⟩,tv⟩ rfl) ?_;refine lo h (fun (tv13,i14,a15,a16,c17)=>⟨look [(2,.ptr (Γ.n0+2) 0),(3,.own 1 (List.map (eL 1 (eI .i64)) tv13)),(6,.ptr (Γ.n0+6) 0),(9,.mp (Γ.n0+38)),(10,(i_ i14))],Qn Γ.n0 (bxs [(2,.cells ([(l_ x6.events_),(i_ 0),(o_ a15),(Qu a16)])),(6,.cells ((Qd3 x6))),(38,.mp (mapE (fun (x:ByteArray)=>(.d (.str x):V)) (fun (x:Int)=>((i_ x):V)) 0 c17) (c17).length)]) M,Γ.n0+117⟩) wk (fun _ ⟨tv13,i14,a15,a16,c17⟩ h=>?_);refine Z 8 0 ?_;refine ci h rfl (fun h=>?_) (fun h=>Y);refine Z 3 0 ?_;refine cu h (fun a27=>⟨look [(2,.ptr (Γ.n0+2) 0),(3,.own 1 (List.map (eL 1 (eI .i64)) tv13)),(6,.ptr (Γ.n0+6) 0),(9,.mp (Γ.n0+38)),(10,(i_ i14))],Qn Γ.n0 (bxs [(2,.cells ([(l_ x6.events_),(i_ 0),(o_ a27),(Qu a16)])),(6,.cells ((Qd3 x6))),(38,.mp (mapE (fun (x:ByteArray)=>(.d (.str x):V)) (fun (x:Int)=>((i_ x):V)) 0 c17) (c17).length)]) M,Γ.n0+117⟩) (fun _ h=>?_) (fun a27 h=>?_)
  ·refine Z 7 1 ?_;intro _ h;refine cl (Hbp _ _) h (cq fun _ h=>?_);refine Z 1 0 ?_;exact cd h rfl (fun h=>Y) (fun h=>Y)
  ·refine Z 8 0 ?_;refine lo h (fun (tv28,x29,a30,c31)=>⟨look [(2,.ptr (Γ.n0+2) 0),(3,.own 1 (List.map (eL 1 (eI .i64)) tv28)),(6,.ptr (Γ.n0+6) 0),(9,.mp (Γ.n0+38)),(10,(i_ i14)),(61,(l_ x6.events_)),(62,(i_ (x6.events_.length:Int))),(63,(i_ x29))],Qn Γ.n0 (bxs [(2,.cells ([(l_ x6.events_),(i_ 0),(o_ a27),(Qu a30)])),(6,.cells ((Qd3 x6))),(38,.mp (mapE (fun (x:ByteArray)=>(.d (.str x):V)) (fun (x:Int)=>((i_ x):V)) 0 c31) (c31).length)]) M,Γ.n0+117⟩) wk (fun _ ⟨tv28,x29,a30,c31⟩ h=>?_);refine Z 5 0 ?_;refine ci h rfl (fun h=>?_) (fun h=>Y);refine Tr.skip ?_;refine Tr.cutJ (fun ((tv56,a57,c58):(List (List Int))×(List Qd)×(List (ByteArray×Int)))=>⟨look [(2,.ptr (Γ.n0+2) 0),(3,.own 1 (List.map (eL 1 (eI .i64)) tv56)),(6,.ptr (Γ.n0+6) 0),(9,.mp (Γ.n0+38)),(10,(i_ i14)),(61,(l_ x6.events_)),(62,(i_ (x6.events_.length:Int))),(63,(i_ x29))],Qn Γ.n0 (bxs [(2,.cells ([(l_ x6.events_),(i_ 0),(o_ a27),(Qu a57)])),(6,.cells ((Qd3 x6))),(38,.mp (mapE (fun (x:ByteArray)=>(.d (.str x):V)) (fun (x:Int)=>((i_ x):V)) 0 c58) (c58).length)]) M,Γ.n0+117⟩) h (fun J59 h=>?_) (fun z h=>?_)
   ·refine Z 15 1 ?_;intro x34 _ h;refine cl (Hbq _ _ _) h (cq fun ⟨_,_⟩ h=>?_);refine Z 12 0 ?_;refine Tr.cond rfl (fun hb41=>?_) (fun hb41=>?_)
    ·have hb41:=nT' hb41;replace h:=bF hb41 h;refine Tr.exit ?_;exact ⟨_,h,(by exact Qf2 [] ⟨(kPtr rfl),sq,(kPtr rfl),(kMp rfl),sq,sq,sq,sq,tv⟩ ⟨bS rfl rfl rfl,bS rfl rfl rfl,⟨rfl,rfl⟩,tv⟩ rfl)⟩
    ·have hb41:=nF' hb41;replace h:=bT hb41 h;refine Z 5 0 ?_;refine cl (Hbn _) h (cq fun x43 h=>?_);refine Rn.lookupC (ek:=(fun (x:ByteArray)=>(.d (.str x):V))) (ev:=(fun (x:Int)=>((i_ x):V))) (m:=c31) (k:=x43) (fun _ _=>rfl) (fun _=>rfl) (fun _=>rfl) 0 rfl tv rfl rfl rfl ?_;refine Z 6 0 ?_;refine Tr.cutJ (fun ((tv50,to51,c52):(List (List Int))×Int×(List (ByteArray×Int)))=>⟨look [(2,.ptr (Γ.n0+2) 0),(3,.own 1 (List.map (eL 1 (eI .i64)) tv50)),(6,.ptr (Γ.n0+6) 0),(9,.mp (Γ.n0+38)),(10,(i_ i14)),(12,(i_ x34)),(15,(i_ to51)),(61,(l_ x6.events_)),(62,(i_ (x6.events_.length:Int))),(63,(i_ x29))],Qn Γ.n0 (bxs [(2,.cells ([(l_ x6.events_),(i_ 0),(o_ a27),(Qu a30)])),(6,.cells ((Qd3 x6))),(38,.mp (mapE (fun (x:ByteArray)=>(.d (.str x):V)) (fun (x:Int)=>((i_ x):V)) 0 c52) (c52).length)]) M,Γ.n0+117⟩) h (fun J55 h=>?_) (fun z h=>?_)
     ·refine Z 5 0 ?_;refine Tr.cond rfl (fun hb44=>?_) (fun hb44=>?_)
      ·have hb44:=nT' hb44;replace h:=bF hb44 h;refine Z 7 0 ?_;refine cd h rfl (fun h=>Y) (fun h=>?_);refine Z 11 0 ?_;refine cl (Hbn _) h (cq fun x47 h=>?_);refine Z 1 0 ?_;refine Rn.mapset (ek:=(fun (x:ByteArray)=>(.d (.str x):V))) (ev:=(fun (x:Int)=>((i_ x):V))) (m:=c31) (k:=x47) (v:=(tv28.length:Int)) (fun _ _=>rfl) (fun _=>rfl) (fun _=>rfl) tv rfl rfl rfl rfl rfl ?_;refine Z 8 1 ?_;intro _ h;exact ⟨_,h,(by exact Qf2 [100] ⟨(kPtr rfl),sq,(kPtr rfl),(kMp rfl),sq,sq,sq,sq,sq,sq,tv⟩ ⟨bS rfl rfl rfl,bS rfl rfl rfl,⟨rfl,rfl⟩,tv⟩ rfl)⟩
      ·have hb44:=nF' hb44;replace h:=bT hb44 h;refine Tr.skip ?_;exact ⟨_,h,(by exact Qf2 [] ⟨(kPtr rfl),sq,(kPtr rfl),(kMp rfl),sq,sq,sq,sq,sq,sq,tv⟩ ⟨bS rfl rfl rfl,bS rfl rfl rfl,⟨rfl,rfl⟩,tv⟩ rfl)⟩
     ·obtain ⟨tv50,to51,c52⟩:=z;refine Z 12 1 ?_;intro _ h;exact ⟨_,h,(by exact Qf2 [108] ⟨(kPtr rfl),sq,(kPtr rfl),(kMp rfl),sq,sq,sq,sq,tv⟩ ⟨bS rfl rfl rfl,bS rfl rfl rfl,⟨rfl,rfl⟩,tv⟩ rfl)⟩
   ·obtain ⟨tv56,a57,c58⟩:=z;exact Y
theorem Quu {P:Program} {c:Nat} {Qbk:_}
    (Hbl:Qf5 P 42 Qbk) (hcf:Qo P c=some Qqe):Qh8 P c (Qca Qbk):=by
 intro l1 r h;refine Qbq hcf rfl fun Γ M hP hnt hM=>?_;subst hP;refine ini ?_;refine Z 8 0 ?_;refine cl (Hbl _) h (cq fun ⟨_,_,_⟩ h=>?_);exact Y
theorem Qkg {P:Program} {c:Nat} (hcf:Qo P c=some Qg8) (fuel:Nat):Qe6 P c (Qbl fuel):=by
 intro x1 tv2 cv3 g4 cp5 r h;intro M nb hc6 ho8 hf7;refine Qta hcf rfl M nb fun Γ hP hnt hn0 hM=>?_;subst hP hn0;refine ini ?_;refine Z 17 0 ?_;refine cw h [0,1,2,8] [] (fun i20 e=>(9,(i_ i20))::e) (fun _ l=>l) ke (fun _ h=>?_) (fun i20 h=>?_)
 ·refine Tr.block ?_;refine lw h [0,1,2,8] [] (fun (i11,j12) e=>(9,(i_ i11))::(10,(i_ j12))::e) (fun _ l=>l) ke wk (fun _ ⟨i11,j12⟩ h=>?_);refine Z 7 0 ?_;refine ci h rfl (fun h=>?_) (fun h=>Y);refine Z 20 1 ?_;intro x15 h;obtain ⟨x18,h17,h⟩:=bnd h;refine Rn.callvM (args:=[(Qqb x15),(i_ tv2)]++cp5) tv rfl (by rw [hc6];rfl) (fun M2 nb2 hn hx=>hf7 _ _ _ h17 M2 nb2 (by omega) ((Qs9 hM).trans hx)) rfl pc9 ?_;refine Z 2 0 ?_;exact ci h rfl (fun h=>Y) (fun h=>Y)
 ·refine Z 7 0 ?_;refine bi h (fun hb21 h=>?_) (fun hb21 h=>Y);refine Z 6 1 ?_;intro x22 h;obtain ⟨x25,h24,h⟩:=bnd h;refine Rn.callvM (args:=[(Qqb x22),(i_ tv2)]++cp5) (gw rfl hb21) rfl (by rw [hc6];rfl) (fun M2 nb2 hn hx=>hf7 _ _ _ h24 M2 nb2 (by omega) ((Qs9 hM).trans hx)) rfl pc9 ?_;exact Y
theorem Quv {P:Program} {c:Nat} (hcf:Qo P c=some Qqf):Qky P c (Qei):=by
 intro x1 s2 r h;refine Qbq hcf rfl fun Γ M hP hnt hM=>?_;subst hP;refine ini ?_;exact Y
theorem Quw {P:Program} {c:Nat} (hcf:Qo P c=some Qqg):Qkz P c (Qej):=by
 intro x1 s2 r h;refine Qbq hcf rfl fun Γ M hP hnt hM=>?_;subst hP;refine ini ?_;exact Y
theorem Qw6 {P:Program} {c:Nat} {Qbl:_} {Qei:_} {Qej:_}
    (Hcu:Qe6 P 118 Qbl)
    (Hap:Qky P 119 Qei)
    (Haq:Qkz P 120 Qej) (hcf:Qo P c=some Qtg):Qnh P c (Qfi Qbl Qei Qej):=by
 intro a1 sv2 r h;refine Qbq hcf rfl fun Γ M hP hnt hM=>?_;subst hP;refine ini ?_;refine Z 10 0 ?_;refine cm h (fun _ h7 M2 nb2 hn hx=>Hcu _ _ _ 119 [] _ h7 M2 nb2 rfl tv (fun a3 a4 r5 h6 M3 nb3 hn3 hx3=>Hap a3 a4 r5 h6 M3 nb3 )) rfl (cq fun ⟨_,_⟩ h=>?_);refine Z 12 0 ?_;refine cm h (fun _ h14 M2 nb2 hn hx=>Hcu _ _ _ 120 [] _ h14 M2 nb2 rfl tv (fun a10 a11 r12 h13 M3 nb3 hn3 hx3=>Haq a10 a11 r12 h13 M3 nb3 )) rfl (cq fun ⟨_,_⟩ h=>?_);exact Y
theorem Qqn {P:Program} {c:Nat} {Qm:_} {Qfi:_} {Q1:_}
    (Hcw:Qct P 58 Qm)
    (Hao:Qnh P 79 Qfi)
    (Hcv:Qeo P 128 Q1) (hcf:Qo P c=some Qlj) (fuel:Nat):Qhy P c (Qde Qm Qfi Q1 fuel):=by
 intro a1 r h;refine Qbq hcf rfl fun Γ M hP hnt hM=>?_;subst hP;refine ini ?_;refine Z 9 0 ?_;refine cl (Hcw _) h (cq fun x3 h=>?_);refine Rn.buildT (v:=.agg [(o_ x3),(i_ 0),.nils 1,.nils 3]) tv rfl ?_;refine Z 10 0 ?_;refine cd h rfl (fun h=>Y) (fun h=>?_);refine Z 5 0 ?_;obtain ⟨x5,h6,h⟩:=bnd h;refine Rn.makes (g:=(fun (x:Int)=>[V.d (.int .i64 x)])) tv rfl rfl rfl rfl rfl h6 ?_;refine Z 2 0 ?_;refine cu h (fun c15=>⟨look [(1,.ptr (Γ.n0+1) 0),(2,.ptr (Γ.n0+2) 0),(3,.ptr (Γ.n0+3) 0),(4,.sl 1 (Γ.n0+22) 0 (Int.toNat a1.zF) (Int.toNat a1.zF))],Qn Γ.n0 (bxs [(1,.cells ((Qq a1))),(2,.cells ([.nils 1,(i_ 0),.nils 1,.nils 3])),(3,.cells ([(o_ x3),(i_ 0),.nils 1,.nils 3])),(22,.cells (Qdw (fun (x:Int)=>[V.d (.int .i64 x)]) c15))]) M,Γ.n0+105⟩) (fun _ h=>?_) (fun c15 h=>?_)
 ·refine Z 7 0 ?_;refine lo h (fun (x7,c8)=>⟨look [(1,.ptr (Γ.n0+1) 0),(2,.ptr (Γ.n0+2) 0),(3,.ptr (Γ.n0+3) 0),(4,.sl 1 (Γ.n0+22) 0 (Int.toNat a1.zF) (Int.toNat a1.zF)),(24,(i_ ((Int.toNat a1.zF):Int))),(25,(i_ x7))],Qn Γ.n0 (bxs [(1,.cells ((Qq a1))),(2,.cells ([.nils 1,(i_ 0),.nils 1,.nils 3])),(3,.cells ([(o_ x3),(i_ 0),.nils 1,.nils 3])),(22,.cells (Qdw (fun (x:Int)=>[V.d (.int .i64 x)]) c8))]) M,Γ.n0+105⟩) wk (fun _ ⟨x7,c8⟩ h=>?_);refine Z 5 0 ?_;refine ci h rfl (fun h=>?_) (fun h=>Y);refine Z 12 1 ?_;intro h;obtain ⟨x13,h14,h⟩:=bnd h;refine Rn.storeA (g:=(fun (x:Int)=>[V.d (.int .i64 x)])) (v:=(i_ (-1))) (fun _=>rfl) tv rfl rfl rfl rfl rfl h14 ?_;exact Y
 ·refine Z 4 1 ?_;intro h;obtain ⟨x18,h19,h⟩:=bnd h;refine Rn.storeA (g:=(fun (x:Int)=>[V.d (.int .i64 x)])) (v:=(i_ 0)) (fun _=>rfl) tv rfl rfl rfl rfl rfl h19 ?_;refine Z 6 0 ?_;refine cu h (fun (ov74,c75,c76,c77,r78,r79,c80)=>⟨look [(2,.ptr (Γ.n0+2) 0),(3,.ptr (Γ.n0+3) 0),(6,(o_ ov74))],Qn Γ.n0 (bxs [(1,.cells ((Qq a1))),(2,.cells ([(o_ c75),(i_ 0),(o_ c76),(Qu c77)])),(3,.cells ([(o_ x3),(i_ 0),(o_ r78),(Qu r79)])),(22,.cells (Qdw (fun (x:Int)=>[V.d (.int .i64 x)]) c80))]) M,Γ.n0+105⟩) (fun _ h=>?_) (fun ⟨ov74,c75,c76,c77,r78,r79,c80⟩ h=>Y);refine Z 5 0 ?_;refine Tr.weak (by show WeakSt Γ _ ⟨look ((6,.own 1 (List.map (eI .i64) [0]))::[(1,.ptr (Γ.n0+1) 0),(2,.ptr (Γ.n0+2) 0),(3,.ptr (Γ.n0+3) 0),(4,.sl 1 (Γ.n0+22) 0 (Int.toNat a1.zF) (Int.toNat a1.zF)),(7,(i_ 0)),(32,.sl 1 (Γ.n0+22) 0 (Int.toNat a1.zF) (Int.toNat a1.zF)),(33,.ptr (Γ.n0+22) (0+Int.toNat 0*1))] ),Qn Γ.n0 (bxs [(1,.cells ((Qq a1))),(2,.cells ([.nils 1,(i_ 0),.nils 1,.nils 3])),(3,.cells ([(o_ x3),(i_ 0),.nils 1,.nils 3])),(22,.cells (Qdw (fun (x:Int)=>[V.d (.int .i64 x)]) x18))]) M,Γ.n0+105⟩;exact Qp8 34 6 [.int .i64 0] rfl rfl rfl rfl rfl ⟨(kPtr rfl),(kPtr rfl),(kPtr rfl),(kSl rfl),sq,(kSl rfl),(kPtr rfl),tv⟩ ⟨bS rfl rfl rfl,bS rfl rfl rfl,bS rfl rfl rfl,bM rfl rfl fun _=>rfl,tv⟩ rfl) ?_;refine lo h (fun (ov20,i21,c22,c23,c24,r25,r26,c27)=>⟨look [(1,.ptr (Γ.n0+1) 0),(2,.ptr (Γ.n0+2) 0),(3,.ptr (Γ.n0+3) 0),(4,.sl 1 (Γ.n0+22) 0 (Int.toNat a1.zF) (Int.toNat a1.zF)),(6,(o_ ov20)),(7,(i_ i21))],Qn Γ.n0 (bxs [(1,.cells ((Qq a1))),(2,.cells ([(o_ c22),(i_ 0),(o_ c23),(Qu c24)])),(3,.cells ([(o_ x3),(i_ 0),(o_ r25),(Qu r26)])),(22,.cells (Qdw (fun (x:Int)=>[V.d (.int .i64 x)]) c27))]) M,Γ.n0+105⟩) wk (fun _ ⟨ov20,i21,c22,c23,c24,r25,r26,c27⟩ h=>?_);refine Z 8 0 ?_;refine ci h rfl (fun h=>?_) (fun h=>Y);refine Tr.skip ?_;refine cu h (fun (ov70,r71,r72,c73)=>⟨look [(1,.ptr (Γ.n0+1) 0),(2,.ptr (Γ.n0+2) 0),(3,.ptr (Γ.n0+3) 0),(4,.sl 1 (Γ.n0+22) 0 (Int.toNat a1.zF) (Int.toNat a1.zF)),(6,(o_ ov70)),(7,(i_ i21))],Qn Γ.n0 (bxs [(1,.cells ((Qq a1))),(2,.cells ([(o_ c22),(i_ 0),(o_ c23),(Qu c24)])),(3,.cells ([(o_ x3),(i_ 0),(o_ r71),(Qu r72)])),(22,.cells (Qdw (fun (x:Int)=>[V.d (.int .i64 x)]) c73))]) M,Γ.n0+105⟩) (fun _ h=>?_) (fun ⟨ov70,r71,r72,c73⟩ h=>Y);refine Tr.block ?_;refine cu h (fun r38=>⟨look [(1,.ptr (Γ.n0+1) 0),(2,.ptr (Γ.n0+2) 0),(3,.ptr (Γ.n0+3) 0),(4,.sl 1 (Γ.n0+22) 0 (Int.toNat a1.zF) (Int.toNat a1.zF)),(6,(o_ ov20)),(7,(i_ i21))],Qn Γ.n0 (bxs [(1,.cells ((Qq a1))),(2,.cells ([(o_ c22),(i_ 0),(o_ c23),(Qu c24)])),(3,.cells ([(o_ x3),(i_ 0),(o_ r38),(Qu r26)])),(22,.cells (Qdw (fun (x:Int)=>[V.d (.int .i64 x)]) c27))]) M,Γ.n0+105⟩) (fun _ h=>?_) (fun r38 h=>?_)
  ·refine Z 8 1 ?_;intro _ h;refine cl (Hcv _ _) h (cq fun ⟨_,_⟩ h=>?_);refine Z 10 0 ?_;exact cd h rfl (fun h=>Y) (fun h=>Y)
  ·refine Z 7 1 ?_;intro _ h;refine cl (Hao _ _) h (cq fun x42 h=>?_);refine Z 4 0 ?_;refine lo h (fun (ov43,x44,r45,c46)=>⟨look [(1,.ptr (Γ.n0+1) 0),(2,.ptr (Γ.n0+2) 0),(3,.ptr (Γ.n0+3) 0),(4,.sl 1 (Γ.n0+22) 0 (Int.toNat a1.zF) (Int.toNat a1.zF)),(6,(o_ ov43)),(7,(i_ i21)),(63,(Qj x42)),(64,(i_ (x42.length:Int))),(65,(i_ x44))],Qn Γ.n0 (bxs [(1,.cells ((Qq a1))),(2,.cells ([(o_ c22),(i_ 0),(o_ c23),(Qu c24)])),(3,.cells ([(o_ x3),(i_ 0),(o_ r38),(Qu r45)])),(22,.cells (Qdw (fun (x:Int)=>[V.d (.int .i64 x)]) c46))]) M,Γ.n0+105⟩) wk (fun _ ⟨ov43,x44,r45,c46⟩ h=>?_);refine Z 5 0 ?_;refine ci h rfl (fun h=>?_) (fun h=>Y);refine Z 10 1 ?_;intro x49 h;refine cu h (fun (ov62,c63)=>⟨look [(1,.ptr (Γ.n0+1) 0),(2,.ptr (Γ.n0+2) 0),(3,.ptr (Γ.n0+3) 0),(4,.sl 1 (Γ.n0+22) 0 (Int.toNat a1.zF) (Int.toNat a1.zF)),(6,(o_ ov62)),(7,(i_ i21)),(11,.ptr (Γ.n0+11) 0),(63,(Qj x42)),(64,(i_ (x42.length:Int))),(65,(i_ x44))],Qn Γ.n0 (bxs [(1,.cells ((Qq a1))),(2,.cells ([(o_ c22),(i_ 0),(o_ c23),(Qu c24)])),(3,.cells ([(o_ x3),(i_ 0),(o_ r38),(Qu r45)])),(11,.cells ((Qmu x49))),(22,.cells (Qdw (fun (x:Int)=>[V.d (.int .i64 x)]) c63))]) M,Γ.n0+105⟩) (fun _ h=>?_) (fun ⟨ov62,c63⟩ h=>Y);refine Z 9 1 ?_;intro _ h;refine ci h rfl (fun h=>?_) (fun h=>Y);refine Z 8 1 ?_;intro h;obtain ⟨x58,h59,h⟩:=bnd h;refine Rn.storeA (g:=(fun (x:Int)=>[V.d (.int .i64 x)])) (v:=(i_ (ov43.length:Int))) (fun _=>rfl) tv rfl rfl rfl rfl rfl h59 ?_;exact Y
theorem Qtr {P:Program} {c:Nat} {Qx:_} {Qde:_}
    (Hai:Qfc P 48 Qx)
    (Hal:Qhy P 132 Qde) (hcf:Qo P c=some Qox) (fuel:Nat):Qj0 P c (Qd9 Qx Qde fuel):=by
 intro a1 r h;refine Qbq hcf rfl fun Γ M hP hnt hM=>?_;subst hP;refine ini ?_;refine Z 10 0 ?_;refine cl (Hai _) h (cq fun _ h=>?_);refine Z 7 0 ?_;refine cd h rfl (fun h=>Y) (fun h=>?_);refine Z 4 0 ?_;refine cl (Hal _) h (cq fun x6 h=>?_);refine Z 8 0 ?_;refine cw h [2,5] [1] (fun _ e=>e) (fun (c16,c17,c18,r19) l=>(2,.cells ([(o_ c16),(i_ 0),(o_ c17),(Qu c18)]))::(5,.cells ([(l_ x6.zB),(i_ x6.zF),(o_ r19),(Qj x6.zD)]))::l) ke (fun _ h=>?_) (fun ⟨c16,c17,c18,r19⟩ h=>Y);refine Z 7 0 ?_;refine lw h [2,5,17] [1] (fun (x7,c8,c9,c10,r11) e=>(18,(i_ x7))::e) (fun (x7,c8,c9,c10,r11) l=>(2,.cells ([(o_ c8),(i_ 0),(o_ c9),(Qu c10)]))::(5,.cells ([(l_ x6.zB),(i_ x6.zF),(o_ r11),(Qj x6.zD)]))::l) ke wk (fun _ ⟨x7,c8,c9,c10,r11⟩ h=>?_);refine Z 5 0 ?_;exact ci h rfl (fun h=>Y) (fun h=>Y)
theorem Qw7 {P:Program} {c:Nat} (hcf:Qo P c=some Qth) (fuel:Nat):Qj1 P c (Qc0 fuel):=by
 intro a1 r h;refine Qbq hcf rfl fun Γ M hP hnt hM=>?_;subst hP;refine ini ?_;refine Z 9 0 ?_;obtain ⟨x2,h3,h⟩:=bnd h;refine Rn.makes (g:=(fun (x:Bool)=>[V.d (.bool x)])) tv rfl rfl rfl rfl rfl h3 ?_;refine Z 2 0 ?_;refine cw h [3] [1] (fun _ e=>e) (fun c14 l=>(8,.cells (Qdw (fun (x:Bool)=>[V.d (.bool x)]) c14))::l) ke (fun _ h=>?_) (fun c14 h=>?_)
 ·refine Z 8 0 ?_;refine lw h [3,10,11] [1] (fun (x4,c5) e=>(12,(i_ x4))::e) (fun (x4,c5) l=>(8,.cells (Qdw (fun (x:Bool)=>[V.d (.bool x)]) c5))::l) ke wk (fun _ ⟨x4,c5⟩ h=>?_);refine Z 5 0 ?_;refine ci h rfl (fun h=>?_) (fun h=>Y);refine Z 13 1 ?_;intro _ h;obtain ⟨x12,h13,h⟩:=bnd h;refine Rn.storeA (g:=(fun (x:Bool)=>[V.d (.bool x)])) (v:=(b_ true)) (fun _=>rfl) tv rfl rfl rfl rfl rfl h13 ?_;exact Y
 ·refine Z 5 0 ?_;obtain ⟨⟨⟩,hl15,h⟩:=bnd h;refine Tr.weak (by show WeakSt Γ _ ⟨look [(2,.d (.lst 1 (List.map eB c14))),(3,.d (.lst 1 (List.map eB c14))),(20,.d (.lst 1 (List.map eB c14)))],Qn Γ.n0 (bxs [(1,.cells ((Qq a1)))]) M,Γ.n0+21⟩;exact Qb7 8 _ rfl (Qp9 (fun _=>rfl) _) ⟨(fSlA (fun _=>rfl) (Qf3 hl15)),(fSlA (fun _=>rfl) (Qf3 hl15)),(fSlA (fun _=>rfl) (Qf3 hl15)),tv⟩ ⟨bS rfl rfl rfl,tv⟩ rfl) ?_;exact Y
theorem Qw8 {P:Program} {c:Nat} (hcf:Qo P c=some Qti) (fuel:Nat):Qj2 P c (Qc1 fuel):=by
 intro a1 r h;refine Qbq hcf rfl fun Γ M hP hnt hM=>?_;subst hP;refine ini ?_;refine Z 9 0 ?_;obtain ⟨x2,h3,h⟩:=bnd h;refine Rn.makes (g:=(fun (x:List Qd)=>[V.nils 3])) tv rfl rfl rfl rfl rfl h3 ?_;refine Z 2 0 ?_;refine cw h [3] [1] (fun _ e=>e) (fun c26 l=>(8,.cells (Qdw (fun (x:List Qd)=>[(Qj x)]) c26))::l) ke (fun _ h=>?_) (fun c26 h=>?_)
 ·refine Tr.seq ?_;refine Tr.weak (wS [0,1,2,3,6,7,8] [1] (fun e=>e) (fun l=>(8,.cells (Qdw (fun (x:List Qd)=>[V.own 3 (List.map Ql x)]) x2))::l) ke wk) ?_;refine Tr.weak (wS [0,1,2,3,6,7,8] [1] (fun e=>e) (fun l=>(8,.cells (Qdw (fun (x:List Qd)=>[(Qj x)]) x2))::l) ke wk) ?_;refine Z 4 0 ?_;refine lw h [1,3] [1] (fun (xv4,c5) e=>(4,(i_ xv4))::e) (fun (xv4,c5) l=>(8,.cells (Qdw (fun (x:List Qd)=>[(Qj x)]) c5))::l) ke wk (fun _ ⟨xv4,c5⟩ h=>?_);refine Z 9 0 ?_;refine ci h rfl (fun h=>?_) (fun h=>Y);refine Z 7 0 ?_;refine cw h [1,3,4] [1,8] (fun to17 e=>(5,(i_ to17))::e) (fun _ l=>l) ke (fun _ h=>?_) (fun to17 h=>?_)
  ·refine Tr.block ?_;refine lw h [1,3,4] [1,8] (fun to8 e=>(5,(i_ to8))::e) (fun _ l=>l) ke wk (fun _ to8 h=>?_);refine Tr.seq ?_;refine cw h [1,3,4,5] [1,8] (fun x15 e=>(34,(b_ x15))::e) (fun _ l=>l) ke (fun _ h=>?_) (fun x15 h=>?_)
   ·refine Z 7 0 ?_;exact bi h (fun _ h=>Y) (fun _ h=>Y)
   ·exact cd h rfl (fun h=>Y) (fun h=>Y)
  ·refine Z 15 1 ?_;intro _ _ h;obtain ⟨x24,h25,h⟩:=bnd h;refine Rn.storeAD (g:=(fun (x:List Qd)=>[(Qj x)])) (fun _=>rfl) tv rfl rfl rfl rfl h25 ?_;exact Y
 ·refine Z 5 0 ?_;obtain ⟨⟨⟩,hl27,h⟩:=bnd h;refine Tr.weak (by show WeakSt Γ _ ⟨look [(2,.d (.lst 1 (List.map (eL 3 Ql) c26))),(3,.d (.lst 1 (List.map (eL 3 Ql) c26))),(51,.d (.lst 1 (List.map (eL 3 Ql) c26)))],Qn Γ.n0 (bxs [(1,.cells ((Qq a1)))]) M,Γ.n0+52⟩;exact Qb7 8 _ rfl (Qp9 (fun _=>rfl) _) ⟨(fSlA (fun _=>rfl) (Qf3 hl27)),(fSlA (fun _=>rfl) (Qf3 hl27)),(fSlA (fun _=>rfl) (Qf3 hl27)),tv⟩ ⟨bS rfl rfl rfl,tv⟩ rfl) ?_;exact Y
theorem Qsg {P:Program} {c:Nat} (hcf:Qo P c=some Qni):Qi7 P c (Qdx):=by
 intro s1 x2 k3 r h;intro M nb hk4;refine Qta hcf rfl M nb fun Γ hP hnt hn0 hM=>?_;subst hP hn0;refine ini ?_;refine Z 12 1 ?_;intro _ h;exact cd h rfl (fun h=>Y) (fun h=>Y)
theorem Qv4 {P:Program} {c:Nat} (hcf:Qo P c=some Qr6) (fuel:Nat):Qly P c (Qee fuel):=by
 intro n1 sv2 g3 cp4 r h;intro M nb hc5 ho7 hf6;refine Qta hcf rfl M nb fun Γ hP hnt hn0 hM=>?_;subst hP hn0;refine ini ?_;refine Z 8 0 ?_;refine Rn.mkmapH tv rfl rfl (fun (x:ByteArray)=>(.d (.str x):V)) (fun (x:Int)=>((i_ x):V)) ?_;refine Z 5 0 ?_;obtain ⟨x9,h10,h⟩:=bnd h;refine Rn.makes (g:=(fun (x:Int)=>[V.d (.int .i64 x)])) tv rfl rfl rfl rfl rfl h10 ?_;refine Z 2 0 ?_;refine cw h [6,7] [] (fun _ e=>e) (fun (c25,c26) l=>(13,.mp (mapE (fun (x:ByteArray)=>(.d (.str x):V)) (fun (x:Int)=>((i_ x):V)) 0 c25) (c25).length)::(15,.cells (Qdw (fun (x:Int)=>[V.d (.int .i64 x)]) c26))::l) ke (fun _ h=>?_) (fun ⟨c25,c26⟩ h=>?_)
 ·refine Z 6 0 ?_;refine lw h [1,6,7,16] [] (fun (x11,c12,c13) e=>(17,(i_ x11))::e) (fun (x11,c12,c13) l=>(13,.mp (mapE (fun (x:ByteArray)=>(.d (.str x):V)) (fun (x:Int)=>((i_ x):V)) 0 c12) (c12).length)::(15,.cells (Qdw (fun (x:Int)=>[V.d (.int .i64 x)]) c13))::l) ke wk (fun _ ⟨x11,c12,c13⟩ h=>?_);refine Z 5 0 ?_;refine ci h rfl (fun h=>?_) (fun h=>Y);refine Z 12 0 ?_;obtain ⟨x17,h16,h⟩:=bnd h;refine Rn.callvM (args:=[(i_ x11)]++cp4) tv rfl (by rw [hc5];rfl) (fun M2 nb2 hn hx=>hf6 _ _ h16 M2 nb2 (by omega) ((Qs9 hM).trans hx)) rfl pc9 ?_;refine Z 6 0 ?_;refine Rn.lookupC (ek:=(fun (x:ByteArray)=>(.d (.str x):V))) (ev:=(fun (x:Int)=>((i_ x):V))) (m:=c12) (k:=x17) (fun _ _=>rfl) (fun _=>rfl) (fun _=>rfl) 0 rfl tv rfl rfl rfl ?_;refine Z 6 0 ?_;refine cw h [1,6,7,8,16,17] [15] (fun (k19,c20) e=>(10,(i_ k19))::e) (fun (k19,c20) l=>(13,.mp (mapE (fun (x:ByteArray)=>(.d (.str x):V)) (fun (x:Int)=>((i_ x):V)) 0 c20) (c20).length)::l) ke (fun _ h=>?_) (fun ⟨k19,c20⟩ h=>?_)
  ·refine Z 5 0 ?_;refine Tr.cond rfl (fun hb18=>?_) (fun hb18=>?_)
   ·have hb18:=nT' hb18;replace h:=bF hb18 h;refine Z 3 0 ?_;refine Rn.lenm (ek:=(fun (x:ByteArray)=>(.d (.str x):V))) (ev:=(fun (x:Int)=>((i_ x):V))) (m:=c12) tv rfl rfl ?_;refine Z 6 0 ?_;refine Rn.mapset (ek:=(fun (x:ByteArray)=>(.d (.str x):V))) (ev:=(fun (x:Int)=>((i_ x):V))) (m:=c12) (k:=x17) (v:=(c12.length:Int)) (fun _ _=>rfl) (fun _=>rfl) (fun _=>rfl) tv rfl rfl rfl rfl rfl ?_;exact Y
   ·have hb18:=nF' hb18;replace h:=bT hb18 h;exact Y
  ·refine Z 5 1 ?_;intro h;obtain ⟨x23,h24,h⟩:=bnd h;refine Rn.storeA (g:=(fun (x:Int)=>[V.d (.int .i64 x)])) (v:=(i_ k19)) (fun _=>rfl) tv rfl rfl rfl rfl rfl h24 ?_;exact Y
 ·refine Z 4 0 ?_;refine Rn.lenm (ek:=(fun (x:ByteArray)=>(.d (.str x):V))) (ev:=(fun (x:Int)=>((i_ x):V))) (m:=c25) tv rfl rfl ?_;refine Z 3 0 ?_;obtain ⟨⟨⟩,hl27,h⟩:=bnd h;refine Tr.weak (by show WeakSt Γ _ ⟨look [(4,(l_ c26)),(5,(i_ (c25.length:Int))),(6,.mp (Γ.n0+13)),(7,(l_ c26)),(41,(l_ c26)),(42,.mp (Γ.n0+13)),(43,(i_ (c25.length:Int)))],Qn Γ.n0 (bxs [(13,.mp (mapE (fun (x:ByteArray)=>(.d (.str x):V)) (fun (x:Int)=>((i_ x):V)) 0 c25) (c25).length)]) M,Γ.n0+44⟩;exact Qb7 15 _ rfl (Qp9 (fun _=>rfl) _) ⟨(fSlA (fun _=>rfl) (Qf3 hl27)),sq,(fMp rfl),(fSlA (fun _=>rfl) (Qf3 hl27)),(fSlA (fun _=>rfl) (Qf3 hl27)),(fMp rfl),sq,tv⟩ ⟨⟨rfl,rfl⟩,tv⟩ rfl) ?_;exact Y
theorem Qsh {P:Program} {c:Nat} (hcf:Qo P c=some Qnj):Qi8 P c (Qcw):=by
 intro b1 n2 r h;refine Qbq hcf rfl fun Γ M hP hnt hM=>?_;subst hP;refine ini ?_;exact Y
theorem Qsi {P:Program} {c:Nat} {Qcw:_}
    (Hau:Qi8 P 138 Qcw) (hcf:Qo P c=some Qnk) (fuel:Nat):Qi9 P c (Qdy Qcw fuel):=by
 intro s1 x2 x5 k3 k6 r h;intro M nb hk4 hk7;refine Qta hcf rfl M nb fun Γ hP hnt hn0 hM=>?_;subst hP hn0;refine ini ?_;refine Z 10 1 ?_;intro x8 h;obtain ⟨x11,h10,h⟩:=bnd h;refine Rn.call (args:=[.nils 1,(i_ x8)]) tv rfl (fun M2 nb2=>ACalls.weakO (args':=[.own 1 (List.map (eI .u8) []),(i_ x8)]) (Hau _ _ _ h10 M2 nb2) (.cons (WkV.nilsO _) (cS rfl .nil))) pc9 ?_;refine Z 2 0 ?_;refine cw h [] [] (fun kv26 e=>(5,.own 1 (List.map (eI .u8) kv26))::e) (fun _ l=>l) ke (fun _ h=>?_) (fun kv26 h=>?_)
 ·refine Z 10 1 ?_;intro _ h;refine lw h [1,16,17] [] (fun (kv14,x15) e=>(5,.own 1 (List.map (eI .u8) kv14))::(18,(i_ x15))::e) (fun _ l=>l) ke wk (fun _ ⟨kv14,x15⟩ h=>?_);refine Z 5 0 ?_;refine ci h rfl (fun h=>?_) (fun h=>Y);refine Z 15 1 ?_;intro x18 h;obtain ⟨x21,h20,h⟩:=bnd h;refine Rn.callO (args':=[.own 1 (List.map (eI .u8) kv14),(i_ x18.Event)]) tv rfl rfl (WkVs.refl _) (Hau _ _ _ h20) ?_;refine Z 9 1 ?_;intro x22 h;obtain ⟨x25,h24,h⟩:=bnd h;refine Rn.callO (args':=[.own 1 (List.map (eI .u8) x21),(i_ x22)]) tv rfl rfl (WkVs.refl _) (Hau _ _ _ h24) ?_;exact Y
 ·refine Z 3 0 ?_;refine Rn.bstr (xs:=kv26) tv rfl ?_;exact Y
theorem Qux {P:Program} {c:Nat} {Qc1:_} {Qc0:_} {Qee:_} {Qdx:_} {Qdy:_}
    (Hay:Qj2 P 133 Qc1)
    (Haz:Qj1 P 134 Qc0)
    (Hbb:Qly P 135 Qee)
    (Haw:Qi7 P 136 Qdx)
    (Hax:Qi9 P 137 Qdy) (hcf:Qo P c=some Qqh) (fuel:Nat):Qk0 P c (Qek Qc1 Qc0 Qee Qdx Qdy fuel):=by
 intro a1 r h;refine Qbq hcf rfl fun Γ M hP hnt hM=>?_;subst hP;refine ini ?_;refine Z 8 0 ?_;refine cl (Haz _) h (cq fun x3 h=>?_);refine Z 1 0 ?_;refine cl (Hay _) h (cq fun x5 h=>?_);refine Z 9 0 ?_;refine Rn.k (v:=.clo 136 [.ptr (Γ.n0+3) 0]) tv rfl rfl rfl ?_;refine cm h (fun _ h9 M2 nb2 hn hx=>Hbb _ _ 136 [.ptr (Γ.n0+3) 0] _ h9 M2 nb2 rfl ⟨Qtb (hx _ _ (Qdv rfl)),tv⟩ (fun a6 r7 h8 M3 nb3 hn3 hx3=>Haw a6 x3 (Γ.n0+3) r7 h8 M3 nb3 ((hx.trans hx3) _ _ (Qdv rfl)))) rfl (cq fun ⟨_,_⟩ h=>?_);refine Z 8 0 ?_;refine lw h [1,4,5] [1,3,4] (fun (n12,cv13) e=>(6,(i_ n12))::e) (fun (n12,cv13) l=>(5,.cells ([(l_ cv13)]))::l) ke wk (fun _ ⟨n12,cv13⟩ h=>?_);refine Z 5 0 ?_;refine Rn.k (v:=.clo 137 [.ptr (Γ.n0+5) 0,.ptr (Γ.n0+4) 0]) tv rfl rfl rfl ?_;refine cm h (fun _ h18 M2 nb2 hn hx=>Hbb _ _ 137 [.ptr (Γ.n0+5) 0,.ptr (Γ.n0+4) 0] _ h18 M2 nb2 rfl ⟨Qtb (hx _ _ (Qdv rfl)),Qtb (hx _ _ (Qdv rfl)),tv⟩ (fun a15 r16 h17 M3 nb3 hn3 hx3=>Hax a15 cv13 x5 (Γ.n0+5) (Γ.n0+4) r16 h17 M3 nb3 ((hx.trans hx3) _ _ (Qdv rfl)) ((hx.trans hx3) _ _ (Qdv rfl)))) rfl (cq fun ⟨_,_⟩ h=>?_);refine Z 13 0 ?_;exact cd h rfl (fun h=>Y) (fun h=>Y)
theorem Qw9 {P:Program} {c:Nat} {Qm:_} {Qc1:_} {Qc0:_}
    (Hcw:Qct P 58 Qm)
    (Hay:Qj2 P 133 Qc1)
    (Haz:Qj1 P 134 Qc0) (hcf:Qo P c=some Qtj) (fuel:Nat):Qnl P c (Qfj Qm Qc1 Qc0 fuel):=by
 intro a1 cv2 r h;refine Qbq hcf rfl fun Γ M hP hnt hM=>?_;subst hP;refine ini ?_;refine Z 9 0 ?_;refine cl (Hcw _) h (cq fun x4 h=>?_);refine Rn.buildT (v:=.agg [(o_ x4),(i_ 0),.nils 1,.nils 3]) tv rfl ?_;refine Z 10 0 ?_;refine cd h rfl (fun h=>Y) (fun h=>?_);refine Z 4 0 ?_;refine cl (Hay _) h (cq fun x7 h=>?_);refine Z 1 0 ?_;refine cl (Haz _) h (cq fun x9 h=>?_);refine Z 5 0 ?_;refine Rn.mkmap tv rfl (fun (x:Int)=>((i_ x):V)) (fun (x:Int)=>((i_ x):V)) ?_;refine Z 13 1 ?_;intro x10 h;refine Rn.mapset (ek:=(fun (x:Int)=>((i_ x):V))) (ev:=(fun (x:Int)=>((i_ x):V))) (m:=([]:List (Int×Int))) (k:=x10) (v:=0) (fun _ _=>rfl) (fun _=>rfl) (fun _=>rfl) tv rfl rfl rfl rfl rfl ?_;refine Z 1 0 ?_;refine cu h (fun (fv58,c59,c60,c61,ov62,ov63,c64)=>⟨look [(4,.ptr (Γ.n0+4) 0),(5,.ptr (Γ.n0+5) 0),(9,(o_ fv58))],Qn Γ.n0 (bxs [(2,.cells ((Qq a1))),(4,.cells ([(o_ c59),(i_ 0),(o_ c60),(Qu c61)])),(5,.cells ([(o_ x4),(i_ 0),(o_ ov62),(Qu ov63)])),(27,.mp (mapE (fun (x:Int)=>((i_ x):V)) (fun (x:Int)=>((i_ x):V)) 0 c64) (c64).length)]) M,Γ.n0+105⟩) (fun _ h=>?_) (fun ⟨fv58,c59,c60,c61,ov62,ov63,c64⟩ h=>Y);refine Z 5 0 ?_;refine Tr.weak (by show WeakSt Γ _ ⟨look ((9,.own 1 (List.map (eI .i64) [0]))::[(0,(Qg a1)),(1,(l_ cv2)),(2,.ptr (Γ.n0+2) 0),(4,.ptr (Γ.n0+4) 0),(5,.ptr (Γ.n0+5) 0),(6,.d (.lst 1 (List.map (eL 3 Ql) x7))),(7,.d (.lst 1 (List.map eB x9))),(8,.mp (Γ.n0+27)),(10,(i_ 0)),(15,.ptr (Γ.n0+2) 0),(16,(l_ a1.zB)),(17,(l_ x4)),(18,.agg [(l_ x4),(i_ 0),.nils 1,.nils 3]),(19,.ptr (Γ.n0+2) 1),(20,(i_ a1.zF)),(21,(b_ (a1.zF==0))),(23,(Qg a1)),(24,.d (.lst 1 (List.map (eL 3 Ql) x7))),(25,(Qg a1)),(26,.d (.lst 1 (List.map eB x9))),(27,.mp (Γ.n0+27)),(29,.mp (Γ.n0+27)),(30,(l_ cv2)),(31,.cref ((eI .i64) x10)),(32,(i_ x10))] ),Qn Γ.n0 (bxs [(2,.cells ((Qq a1))),(4,.cells ([.nils 1,(i_ 0),.nils 1,.nils 3])),(5,.cells ([(o_ x4),(i_ 0),.nils 1,.nils 3])),(27,.mp (mapE (fun (x:Int)=>((i_ x):V)) (fun (x:Int)=>((i_ x):V)) 0 (setM ([]:List (Int×Int)) x10 0)) ((setM ([]:List (Int×Int)) x10 0)).length)]) M,Γ.n0+105⟩;exact Qp8 28 9 [.int .i64 0] rfl rfl rfl rfl rfl ⟨sq,sq,(kPtr rfl),(kPtr rfl),(kPtr rfl),sq,sq,(kMp rfl),sq,(kPtr rfl),sq,sq,sq,(kPtr rfl),sq,sq,sq,sq,sq,sq,(kMp rfl),(kMp rfl),sq,sq,sq,tv⟩ ⟨bS rfl rfl rfl,bS rfl rfl rfl,bS rfl rfl rfl,⟨rfl,rfl⟩,tv⟩ rfl) ?_;refine lo h (fun (fv12,i13,c14,c15,c16,ov17,ov18,c19)=>⟨look [(1,(l_ cv2)),(4,.ptr (Γ.n0+4) 0),(5,.ptr (Γ.n0+5) 0),(6,.d (.lst 1 (List.map (eL 3 Ql) x7))),(7,.d (.lst 1 (List.map eB x9))),(8,.mp (Γ.n0+27)),(9,(o_ fv12)),(10,(i_ i13))],Qn Γ.n0 (bxs [(2,.cells ((Qq a1))),(4,.cells ([(o_ c14),(i_ 0),(o_ c15),(Qu c16)])),(5,.cells ([(o_ x4),(i_ 0),(o_ ov17),(Qu ov18)])),(27,.mp (mapE (fun (x:Int)=>((i_ x):V)) (fun (x:Int)=>((i_ x):V)) 0 c19) (c19).length)]) M,Γ.n0+105⟩) wk (fun _ ⟨fv12,i13,c14,c15,c16,ov17,ov18,c19⟩ h=>?_);refine Z 8 0 ?_;refine ci h rfl (fun h=>?_) (fun h=>Y);refine Tr.skip ?_;refine cu h (fun (fv54,ov55,ov56,c57)=>⟨look [(1,(l_ cv2)),(4,.ptr (Γ.n0+4) 0),(5,.ptr (Γ.n0+5) 0),(6,.d (.lst 1 (List.map (eL 3 Ql) x7))),(7,.d (.lst 1 (List.map eB x9))),(8,.mp (Γ.n0+27)),(9,(o_ fv54)),(10,(i_ i13))],Qn Γ.n0 (bxs [(2,.cells ((Qq a1))),(4,.cells ([(o_ c14),(i_ 0),(o_ c15),(Qu c16)])),(5,.cells ([(o_ x4),(i_ 0),(o_ ov55),(Qu ov56)])),(27,.mp (mapE (fun (x:Int)=>((i_ x):V)) (fun (x:Int)=>((i_ x):V)) 0 c57) (c57).length)]) M,Γ.n0+105⟩) (fun _ h=>?_) (fun ⟨fv54,ov55,ov56,c57⟩ h=>Y);refine Tr.block ?_;refine cu h (fun ov29=>⟨look [(1,(l_ cv2)),(4,.ptr (Γ.n0+4) 0),(5,.ptr (Γ.n0+5) 0),(6,.d (.lst 1 (List.map (eL 3 Ql) x7))),(7,.d (.lst 1 (List.map eB x9))),(8,.mp (Γ.n0+27)),(9,(o_ fv12)),(10,(i_ i13))],Qn Γ.n0 (bxs [(2,.cells ((Qq a1))),(4,.cells ([(o_ c14),(i_ 0),(o_ c15),(Qu c16)])),(5,.cells ([(o_ x4),(i_ 0),(o_ ov29),(Qu ov18)])),(27,.mp (mapE (fun (x:Int)=>((i_ x):V)) (fun (x:Int)=>((i_ x):V)) 0 c19) (c19).length)]) M,Γ.n0+105⟩) (fun _ h=>?_) (fun ov29 h=>?_)
 ·refine Z 10 1 ?_;intro _ _ h;exact cd h rfl (fun h=>Y) (fun h=>Y)
 ·refine Z 13 1 ?_;intro _ x32 h;refine lo h (fun (fv34,x35,ov36,c37)=>⟨look [(1,(l_ cv2)),(4,.ptr (Γ.n0+4) 0),(5,.ptr (Γ.n0+5) 0),(6,.d (.lst 1 (List.map (eL 3 Ql) x7))),(7,.d (.lst 1 (List.map eB x9))),(8,.mp (Γ.n0+27)),(9,(o_ fv34)),(10,(i_ i13)),(58,(Qj x32)),(59,(i_ (x32.length:Int))),(60,(i_ x35))],Qn Γ.n0 (bxs [(2,.cells ((Qq a1))),(4,.cells ([(o_ c14),(i_ 0),(o_ c15),(Qu c16)])),(5,.cells ([(o_ x4),(i_ 0),(o_ ov29),(Qu ov36)])),(27,.mp (mapE (fun (x:Int)=>((i_ x):V)) (fun (x:Int)=>((i_ x):V)) 0 c37) (c37).length)]) M,Γ.n0+105⟩) wk (fun _ ⟨fv34,x35,ov36,c37⟩ h=>?_);refine Z 5 0 ?_;refine ci h rfl (fun h=>?_) (fun h=>Y);refine Z 18 1 ?_;intro x40 x42 h;refine Rn.lookupC (ek:=(fun (x:Int)=>((i_ x):V))) (ev:=(fun (x:Int)=>((i_ x):V))) (m:=c37) (k:=x42) (fun _ _=>rfl) (fun _=>rfl) (fun _=>rfl) 0 rfl tv rfl rfl rfl ?_;refine Z 6 0 ?_;refine cu h (fun (fv49,k50,c51)=>⟨look [(1,(l_ cv2)),(4,.ptr (Γ.n0+4) 0),(5,.ptr (Γ.n0+5) 0),(6,.d (.lst 1 (List.map (eL 3 Ql) x7))),(7,.d (.lst 1 (List.map eB x9))),(8,.mp (Γ.n0+27)),(9,(o_ fv49)),(10,(i_ i13)),(12,.ptr (Γ.n0+12) 0),(13,(i_ k50)),(58,(Qj x32)),(59,(i_ (x32.length:Int))),(60,(i_ x35))],Qn Γ.n0 (bxs [(2,.cells ((Qq a1))),(4,.cells ([(o_ c14),(i_ 0),(o_ c15),(Qu c16)])),(5,.cells ([(o_ x4),(i_ 0),(o_ ov29),(Qu ov36)])),(12,.cells ((Qmu x40))),(27,.mp (mapE (fun (x:Int)=>((i_ x):V)) (fun (x:Int)=>((i_ x):V)) 0 c51) (c51).length)]) M,Γ.n0+105⟩) (fun _ h=>?_) (fun ⟨fv49,k50,c51⟩ h=>Y);refine Z 5 0 ?_;refine Tr.cond rfl (fun hb44=>?_) (fun hb44=>?_)
  ·have hb44:=nT' hb44;replace h:=bF hb44 h;refine Z 15 1 ?_;intro x45 h;refine Rn.mapset (ek:=(fun (x:Int)=>((i_ x):V))) (ev:=(fun (x:Int)=>((i_ x):V))) (m:=c37) (k:=x45) (v:=(fv34.length:Int)) (fun _ _=>rfl) (fun _=>rfl) (fun _=>rfl) tv rfl rfl rfl rfl rfl ?_;exact Y
  ·have hb44:=nF' hb44;replace h:=bT hb44 h;exact Y
theorem Qts {P:Program} {c:Nat} {Qx:_} {Qfj:_} {Qek:_}
    (Hai:Qfc P 48 Qx)
    (Hba:Qnl P 95 Qfj)
    (Hav:Qk0 P 96 Qek) (hcf:Qo P c=some Qoy):Qhl P c (Qb0 Qx Qfj Qek):=by
 intro a1 r h;refine Qbq hcf rfl fun Γ M hP hnt hM=>?_;subst hP;refine ini ?_;refine Z 10 0 ?_;refine cl (Hai _) h (cq fun _ h=>?_);refine Z 7 0 ?_;refine cd h rfl (fun h=>Y) (fun h=>?_);refine Z 5 0 ?_;refine cl (Hav _) h (cq fun _ h=>?_);refine cl (Hba _ _) h (cq fun _ h=>?_);exact Y
theorem Quy {P:Program} {c:Nat} {Qb0:_} {Qm:_} {Qd9:_}
    (Hat:Qhl P 45 Qb0)
    (Hcw:Qct P 58 Qm)
    (Haj:Qj0 P 94 Qd9) (hcf:Qo P c=some Qqi):Qh9 P c (Qcb Qb0 Qm Qd9):=by
 intro a1 ev2 r h;refine Qbq hcf rfl fun Γ M hP hnt hM=>?_;subst hP;refine ini ?_;refine Z 9 0 ?_;refine cl (Haj _) h (cq fun ⟨_,_⟩ h=>?_);refine Z 13 0 ?_;refine cd h rfl (fun h=>Y) (fun h=>?_);refine Z 4 0 ?_;refine cl (Hcw _) h (cq fun _ h=>?_);refine Z 6 0 ?_;refine cl (Hat _) h (cq fun ⟨_,_⟩ h=>?_);exact Y
theorem Qsj {P:Program} {c:Nat} {Qbh:_} {Qca:_} {Qcb:_}
    (Hbt:Qg7 P 22 Qbh)
    (Hbk:Qh8 P 43 Qca)
    (Hbz:Qh9 P 44 Qcb) (hcf:Qo P c=some Qnm):Qgw P c (Qbn Qbh Qca Qcb):=by
 intro p1 r h;refine Qbq hcf rfl fun Γ M hP hnt hM=>?_;subst hP;refine ini ?_;refine Z 10 0 ?_;refine cl (Hbt _) h (cq fun x3 h=>?_);refine Z 7 0 ?_;refine cd h rfl (fun h=>Y) (fun h=>?_);refine Z 10 0 ?_;refine Rn.weak (by show WeakSt Γ _ ⟨look [(0,(Qr p1)),(1,.ptr (Γ.n0+1) 0),(2,.ptr (Γ.n0+2) 0),(3,(i_ 0)),(4,(i_ x3)),(7,(Qr p1)),(8,(i_ x3)),(9,(i_ x3)),(10,(b_ (x3 != 0))),(14,.ptr (Γ.n0+1) 0),(15,(Qg p1.Plant)),(16,.ptr (Γ.n0+1) 4),(17,(Qg p1.Ambient)),(18,.ptr (Γ.n0+1) 8),(19,(Qg p1.Requirement)),(20,.d (.lst 4 (List.map Qbb [p1.Plant,p1.Ambient,p1.Requirement])))],Qn Γ.n0 (bxs [(1,.cells ((Qba p1))),(2,.cells ([.nils 1,(i_ 0),.nils 1,.nils 3]))]) M,Γ.n0+35⟩;exact Qb7 20 [.lst 1 (List.map (eI .i64) p1.Plant.zB),.int .i64 p1.Plant.zF,.lst 1 (List.map (eI .i64) p1.Plant.zC),.lst 3 (List.map Ql p1.Plant.zD),.lst 1 (List.map (eI .i64) p1.Ambient.zB),.int .i64 p1.Ambient.zF,.lst 1 (List.map (eI .i64) p1.Ambient.zC),.lst 3 (List.map Ql p1.Ambient.zD),.lst 1 (List.map (eI .i64) p1.Requirement.zB),.int .i64 p1.Requirement.zF,.lst 1 (List.map (eI .i64) p1.Requirement.zC),.lst 3 (List.map Ql p1.Requirement.zD)] rfl rfl ⟨sq,(fPtr rfl),(fPtr rfl),sq,sq,sq,sq,sq,sq,(fPtr rfl),sq,(fPtr rfl),sq,(fPtr rfl),sq,(fSl rfl rfl),tv⟩ ⟨bS rfl rfl rfl,bS rfl rfl rfl,tv⟩ rfl) ?_;refine cl (Hbk _) h (cq fun ⟨_,_⟩ h=>?_);refine Z 13 0 ?_;refine cd h rfl (fun h=>Y) (fun h=>?_);refine Z 7 0 ?_;refine cl (Hbz _ _) h (cq fun ⟨_,_⟩ h=>?_);exact Y
theorem Qtt {P:Program} {c:Nat} (hcf:Qo P c=some Qoz) (fuel:Nat):Qj3 P c (Qc8 fuel):=by
 intro a1 r h;refine Qbq hcf rfl fun Γ M hP hnt hM=>?_;subst hP;refine ini ?_;refine Z 7 0 ?_;refine Rn.mkmap tv rfl (fun (x:Int×Int)=>(.agg [(i_ x.1),(i_ x.2)]:V)) (fun (x:Int)=>((i_ x):V)) ?_;refine Z 2 0 ?_;refine cw h [3] [1] (fun _ e=>e) (fun c8 l=>(6,.mp (mapE (fun (x:Int×Int)=>(.agg [(i_ x.1),(i_ x.2)]:V)) (fun (x:Int)=>((i_ x):V)) 0 c8) (c8).length)::l) ke (fun _ h=>?_) (fun c8 h=>?_)
 ·refine Z 8 0 ?_;refine lw h [3,8,9] [1] (fun (x2,c3) e=>(10,(i_ x2))::e) (fun (x2,c3) l=>(6,.mp (mapE (fun (x:Int×Int)=>(.agg [(i_ x.1),(i_ x.2)]:V)) (fun (x:Int)=>((i_ x):V)) 0 c3) (c3).length)::l) ke wk (fun _ ⟨x2,c3⟩ h=>?_);refine Z 5 0 ?_;refine ci h rfl (fun h=>?_) (fun h=>Y);refine Z 19 1 ?_;intro x6 h;refine Rn.mapset (ek:=(fun (x:Int×Int)=>(.agg [(i_ x.1),(i_ x.2)]:V))) (ev:=(fun (x:Int)=>((i_ x):V))) (m:=c3) (k:=(x6.From,x6.Event)) (v:=x6.To) Q6z (fun _=>rfl) (fun _=>rfl) tv rfl rfl rfl rfl rfl ?_;exact Y
 ·refine Z 5 0 ?_;refine Tr.weak (by show WeakSt Γ _ ⟨look [(2,.d (mq0 c8)),(3,.d (mq0 c8)),(23,.d (mq0 c8))],Qn Γ.n0 (bxs [(1,.cells ((Qq a1)))]) M,Γ.n0+24⟩;exact Qy2 (ek:=(fun (x:Int×Int)=>(.agg [(i_ x.1),(i_ x.2)]:V))) (ev:=(fun (x:Int)=>((i_ x):V))) (m:=c8) 6 rfl (fun _=>rfl) (fun _=>rfl) ⟨mMpS,mMpS,mMpS,tv⟩ ⟨bS rfl rfl rfl,tv⟩ rfl) ?_;exact Y
theorem Quz {P:Program} {c:Nat} {Qbn:_} {Qbk:_} {Qc8:_}
    (Hbv:Qgw P 16 Qbn)
    (Hbl:Qf5 P 42 Qbk)
    (Hcd:Qj3 P 100 Qc8) (hcf:Qo P c=some Qqj) (fuel:Nat):Qfd P c (Qv Qbn Qbk Qc8 fuel):=by
 intro p1 r h;refine Qbq hcf rfl fun Γ M hP hnt hM=>?_;subst hP;refine ini ?_;refine Z 10 0 ?_;refine cl (Hbv _) h (cq fun ⟨r3,r4⟩ h=>?_);refine Z 13 0 ?_;refine cd h rfl (fun h=>Y) (fun h=>?_);refine Z 8 0 ?_;refine Rn.weak (by show WeakSt Γ _ ⟨look [(0,(Qr p1)),(1,.ptr (Γ.n0+1) 0),(2,.nilp),(3,.ptr (Γ.n0+3) 0),(4,(i_ 0)),(5,.ptr (Γ.n0+5) 0),(6,(i_ r4)),(12,.tup [(Qg r3),(i_ r4)]),(13,(Qr p1)),(14,.tup [(Qg r3),(i_ r4)]),(15,(Qg r3)),(16,(i_ r4)),(17,(i_ r4)),(18,(b_ (r4 != 0))),(22,.ptr (Γ.n0+1) 0),(23,(Qg p1.Plant)),(24,.ptr (Γ.n0+1) 4),(25,(Qg p1.Ambient)),(26,.d (.lst 4 (List.map Qbb [p1.Plant,p1.Ambient])))],Qn Γ.n0 (bxs [(1,.cells ((Qba p1))),(3,.cells ([.nils 1,(i_ 0),.nils 1,.nils 3])),(5,.cells ((Qq r3)))]) M,Γ.n0+79⟩;exact Qb7 26 [.lst 1 (List.map (eI .i64) p1.Plant.zB),.int .i64 p1.Plant.zF,.lst 1 (List.map (eI .i64) p1.Plant.zC),.lst 3 (List.map Ql p1.Plant.zD),.lst 1 (List.map (eI .i64) p1.Ambient.zB),.int .i64 p1.Ambient.zF,.lst 1 (List.map (eI .i64) p1.Ambient.zC),.lst 3 (List.map Ql p1.Ambient.zD)] rfl rfl ⟨sq,(fPtr rfl),sq,(fPtr rfl),sq,(fPtr rfl),sq,sq,sq,sq,sq,sq,sq,sq,(fPtr rfl),sq,(fPtr rfl),sq,(fSl rfl rfl),tv⟩ ⟨bS rfl rfl rfl,bS rfl rfl rfl,bS rfl rfl rfl,tv⟩ rfl) ?_;refine cl (Hbl _) h (cq fun ⟨r7,_,_⟩ h=>?_);refine Z 15 0 ?_;refine cd h rfl (fun h=>Y) (fun h=>?_);refine Z 8 0 ?_;refine cl (Hcd _) h (cq fun x12 h=>?_);refine Z 1 0 ?_;refine cl (Hcd _) h (cq fun x14 h=>?_);refine Z 2 0 ?_;refine cl (Hcd _) h (cq fun x16 h=>?_);refine Z 3 0 ?_;refine Rn.buildT (v:=.agg [(l_ p1.Plant.zB),(i_ p1.Plant.zF),(l_ p1.Plant.zC),(Qj p1.Plant.zD),(l_ p1.Ambient.zB),(i_ p1.Ambient.zF),(l_ p1.Ambient.zC),(Qj p1.Ambient.zD),(l_ p1.Requirement.zB),(i_ p1.Requirement.zF),(l_ p1.Requirement.zC),(Qj p1.Requirement.zD),(l_ p1.Observable),(l_ p1.Controllable),(l_ p1.Plant.zB),.d (mq0 x12),.d (mq0 x14),.nils 1,.d (mq0 x16),(b_ (r7.zF==0)),(i_ 0),(i_ 0)]) tv rfl ?_;refine Z 3 0 ?_;refine cw h [3,5,9] [1,5,7] (fun _ e=>e) (fun (c30,c31,c32,c33) l=>(3,.cells ([(o_ c30),(i_ 0),(o_ c31),(Qu c32)]))::(50,.cells ([(l_ p1.Plant.zB),(i_ p1.Plant.zF),(l_ p1.Plant.zC),(Qj p1.Plant.zD),(l_ p1.Ambient.zB),(i_ p1.Ambient.zF),(l_ p1.Ambient.zC),(Qj p1.Ambient.zD),(l_ p1.Requirement.zB),(i_ p1.Requirement.zF),(l_ p1.Requirement.zC),(Qj p1.Requirement.zD),(l_ p1.Observable),(l_ p1.Controllable),(l_ p1.Plant.zB),.d (mq0 x12),.d (mq0 x14),(o_ c33),.d (mq0 x16),(b_ (r7.zF==0)),(i_ 0),(i_ 0)]))::l) ke (fun _ h=>?_) (fun ⟨c30,c31,c32,c33⟩ h=>?_)
 ·refine Z 7 0 ?_;refine lw h [3,5,9,51,52] [1,5,7] (fun (x17,c18,c19,c20,c21) e=>(53,(i_ x17))::e) (fun (x17,c18,c19,c20,c21) l=>(3,.cells ([(o_ c18),(i_ 0),(o_ c19),(Qu c20)]))::(50,.cells ([(l_ p1.Plant.zB),(i_ p1.Plant.zF),(l_ p1.Plant.zC),(Qj p1.Plant.zD),(l_ p1.Ambient.zB),(i_ p1.Ambient.zF),(l_ p1.Ambient.zC),(Qj p1.Ambient.zD),(l_ p1.Requirement.zB),(i_ p1.Requirement.zF),(l_ p1.Requirement.zC),(Qj p1.Requirement.zD),(l_ p1.Observable),(l_ p1.Controllable),(l_ p1.Plant.zB),.d (mq0 x12),.d (mq0 x14),(o_ c21),.d (mq0 x16),(b_ (r7.zF==0)),(i_ 0),(i_ 0)]))::l) ke wk (fun _ ⟨x17,c18,c19,c20,c21⟩ h=>?_);refine Z 5 0 ?_;exact ci h rfl (fun h=>Y) (fun h=>Y)
 ·refine Z 7 0 ?_;refine cd h rfl (fun h=>?_) (fun h=>?_)
  ·refine Z 15 0 ?_;refine Tr.weak (by show WeakSt Γ _ ⟨look [(2,.cref (Qb (Qf.mk p1 p1.Plant.zB x12 x14 c33 x16 (r7.zF==0) (Qc.mk 0 (-1))))),(3,.ptr (Γ.n0+3) 0),(4,(i_ 0)),(5,.ptr (Γ.n0+5) 0),(9,.cref (Qb (Qf.mk p1 p1.Plant.zB x12 x14 c33 x16 (r7.zF==0) (Qc.mk 0 (-1))))),(70,.ptr (Γ.n0+5) 1),(71,(i_ r3.zF)),(72,(b_ (r3.zF==0))),(73,.cref (Qb (Qf.mk p1 p1.Plant.zB x12 x14 c33 x16 (r7.zF==0) (Qc.mk 0 (-1))))),(74,.cref (Qb (Qf.mk p1 p1.Plant.zB x12 x14 c33 x16 (r7.zF==0) (Qc.mk 0 (-1))))),(77,.cref (Qb (Qf.mk p1 p1.Plant.zB x12 x14 c33 x16 (r7.zF==0) (Qc.mk 0 (-1))))),(78,(Qg r3))],Qn Γ.n0 (bxs [(1,.cells ((Qba p1))),(3,.cells ((Qq r3))),(5,.cells ((Qq r3))),(7,.cells ((Qq r7)))]) M,Γ.n0+79⟩;exact Qb7 50 [.lst 1 (List.map (eI .i64) p1.Plant.zB),.int .i64 p1.Plant.zF,.lst 1 (List.map (eI .i64) p1.Plant.zC),.lst 3 (List.map Ql p1.Plant.zD),.lst 1 (List.map (eI .i64) p1.Ambient.zB),.int .i64 p1.Ambient.zF,.lst 1 (List.map (eI .i64) p1.Ambient.zC),.lst 3 (List.map Ql p1.Ambient.zD),.lst 1 (List.map (eI .i64) p1.Requirement.zB),.int .i64 p1.Requirement.zF,.lst 1 (List.map (eI .i64) p1.Requirement.zC),.lst 3 (List.map Ql p1.Requirement.zD),.lst 1 (List.map (eI .i64) p1.Observable),.lst 1 (List.map (eI .i64) p1.Controllable),.lst 1 (List.map (eI .i64) p1.Plant.zB),mq0 x12,mq0 x14,.lst 1 (List.map (eI .i64) c33),mq0 x16,.bool (r7.zF==0),.int .i64 0,.int .i64 (-1)] rfl rfl ⟨(Q40 rfl),(fPtr rfl),sq,(fPtr rfl),(Q40 rfl),(fPtr rfl),sq,sq,(Q40 rfl),(Q40 rfl),(Q40 rfl),sq,tv⟩ ⟨bS rfl rfl rfl,bS rfl rfl rfl,bS rfl rfl rfl,bS rfl rfl rfl,tv⟩ rfl) ?_;exact Y
  ·refine Z 9 0 ?_;refine Tr.weak (by show WeakSt Γ _ ⟨look [(2,.cref (Qb (Qf.mk p1 p1.Plant.zB x12 x14 c33 x16 (r7.zF==0) (Qc.mk 0 0)))),(3,.ptr (Γ.n0+3) 0),(4,(i_ 0)),(5,.ptr (Γ.n0+5) 0),(9,.cref (Qb (Qf.mk p1 p1.Plant.zB x12 x14 c33 x16 (r7.zF==0) (Qc.mk 0 0)))),(70,.ptr (Γ.n0+5) 1),(71,(i_ r3.zF)),(72,(b_ (r3.zF==0))),(77,.cref (Qb (Qf.mk p1 p1.Plant.zB x12 x14 c33 x16 (r7.zF==0) (Qc.mk 0 0)))),(78,(Qg r3))],Qn Γ.n0 (bxs [(1,.cells ((Qba p1))),(3,.cells ((Qq r3))),(5,.cells ((Qq r3))),(7,.cells ((Qq r7)))]) M,Γ.n0+79⟩;exact Qb7 50 [.lst 1 (List.map (eI .i64) p1.Plant.zB),.int .i64 p1.Plant.zF,.lst 1 (List.map (eI .i64) p1.Plant.zC),.lst 3 (List.map Ql p1.Plant.zD),.lst 1 (List.map (eI .i64) p1.Ambient.zB),.int .i64 p1.Ambient.zF,.lst 1 (List.map (eI .i64) p1.Ambient.zC),.lst 3 (List.map Ql p1.Ambient.zD),.lst 1 (List.map (eI .i64) p1.Requirement.zB),.int .i64 p1.Requirement.zF,.lst 1 (List.map (eI .i64) p1.Requirement.zC),.lst 3 (List.map Ql p1.Requirement.zD),.lst 1 (List.map (eI .i64) p1.Observable),.lst 1 (List.map (eI .i64) p1.Controllable),.lst 1 (List.map (eI .i64) p1.Plant.zB),mq0 x12,mq0 x14,.lst 1 (List.map (eI .i64) c33),mq0 x16,.bool (r7.zF==0),.int .i64 0,.int .i64 0] rfl rfl ⟨(Q40 rfl),(fPtr rfl),sq,(fPtr rfl),(Q40 rfl),(fPtr rfl),sq,sq,(Q40 rfl),sq,tv⟩ ⟨bS rfl rfl rfl,bS rfl rfl rfl,bS rfl rfl rfl,bS rfl rfl rfl,tv⟩ rfl) ?_;exact Y
theorem Qqo {P:Program} {c:Nat} (hcf:Qo P c=some Qlk):Qbs P c (Qe):=by
 intro m1 sv2 ev3 r h;refine Qbq hcf rfl fun Γ M hP hnt hM=>?_;subst hP;refine ini ?_;refine Z 11 0 ?_;refine Rn.lookupDC (ek:=(fun (x:Int×Int)=>(.agg [(i_ x.1),(i_ x.2)]:V))) (ev:=(fun (x:Int)=>((i_ x):V))) (m:=m1) (k:=(sv2,ev3)) Q6z (fun _=>rfl) (fun _=>rfl) (fun _=>rfl) (fun _=>rfl) 0 rfl tv rfl rfl ?_;refine Z 6 0 ?_;refine cw h [7] [] (fun x5 e=>(21,(b_ x5))::e) (fun _ l=>l) ke (fun _ h=>?_) (fun x5 h=>?_)
 ·refine Z 3 0 ?_;exact bs h (fun _ h=>Y) (fun _ h=>Y)
 ·exact cd h rfl (fun h=>Y) (fun h=>Y)
theorem Qpk {P:Program} {c:Nat} {Qk:_}
    (Hda:Qcc P 62 Qk) (hcf:Qo P c=some Qkj):Qc4 P c (Qp Qk):=by
 intro s1 ev2 r h;refine Qbq hcf rfl fun Γ M hP hnt hM=>?_;subst hP;refine ini ?_;refine Z 7 0 ?_;refine Rn.k (v:=.cref (Qb s1)) tv rfl rfl rfl ?_;refine Z 4 0 ?_;refine cl (Hda _ _) h (cq fun _ h=>?_);exact Y
theorem Qnt {P:Program} {c:Nat} {Qm:_} {Qp:_} {Qk:_} {Qe:_} {f_slices_Sort_int:_} {f_slices_Compact_int:_}
    (Hcw:Qct P 58 Qm)
    (Hcq:Qc4 P 59 Qp)
    (Hda:Qcc P 62 Qk)
    (Hce:Qbs P 63 Qe)
    (Hdh:RowK P 124 (eI .i64) 1 [] f_slices_Sort_int)
    (Hcx:CompK P 125 f_slices_Compact_int) (hcf:Qo P c=some Qjh) (fuel:Nat):Qe0 P c (Q5 Qm Qp Qk Qe f_slices_Sort_int f_slices_Compact_int fuel):=by
 intro s1 l2 r h;refine Q9p hcf (args':=[.cref (Qb s1),(f_ l2)]) rfl rfl rfl rfl rfl rfl fun Γ M hP hnt hG hM0 hM=>?_;subst hP;refine ini ?_;refine Z 7 0 ?_;obtain ⟨x4,h3,h⟩:=bnd h;refine Rn.call (args:=[(f_ l2)]) tv rfl (fun M2 nb2=>ACalls.weak (args':=[(l_ l2)]) (Hcw _ _ h3 M2 nb2) (.cons fToD .nil) rfl) pc9 ?_;refine Z 2 0 ?_;refine cu h (fun ov31=>⟨look [(5,(o_ ov31))],Qn Γ.n0 (bxs []) M,Γ.n0+60⟩) (fun _ h=>?_) (fun ov31 h=>?_)
 ·refine Z 5 0 ?_;refine lo h (fun (ov5,i6)=>⟨look [(0,.cref (Qb s1)),(5,(o_ ov5)),(6,(i_ i6))],Qn Γ.n0 (bxs []) M,Γ.n0+60⟩) wk (fun _ ⟨ov5,i6⟩ h=>?_);refine Z 8 0 ?_;refine ci h rfl (fun h=>?_) (fun h=>Y);refine Tr.skip ?_;refine cu h (fun ov30=>⟨look [(0,.cref (Qb s1)),(5,(o_ ov30)),(6,(i_ i6))],Qn Γ.n0 (bxs []) M,Γ.n0+60⟩) (fun _ h=>?_) (fun ov30 h=>Y);refine Z 4 0 ?_;refine Rn.k (v:=.cref (Qb s1)) tv rfl rfl rfl ?_;refine Z 6 0 ?_;refine lo h (fun (ov9,x10)=>⟨look [(0,.cref (Qb s1)),(5,(o_ ov9)),(6,(i_ i6)),(21,(l_ s1.events_)),(22,(i_ (s1.events_.length:Int))),(23,(i_ x10))],Qn Γ.n0 (bxs []) M,Γ.n0+60⟩) wk (fun _ ⟨ov9,x10⟩ h=>?_);refine Z 5 0 ?_;refine ci h rfl (fun h=>?_) (fun h=>Y);refine Tr.skip ?_;refine cu h (fun ov29=>⟨look [(0,.cref (Qb s1)),(5,(o_ ov29)),(6,(i_ i6)),(21,(l_ s1.events_)),(22,(i_ (s1.events_.length:Int))),(23,(i_ x10))],Qn Γ.n0 (bxs []) M,Γ.n0+60⟩) (fun _ h=>?_) (fun ov29 h=>Y);refine Z 10 1 ?_;intro _ h;refine Rn.k (v:=.cref (Qb s1)) tv rfl rfl rfl ?_;refine Z 7 1 ?_;intro _ h;refine cl (Hce _ _ _) h (cq fun x18 h=>?_);refine Z 2 0 ?_;refine cu h (fun x25=>⟨look [(0,.cref (Qb s1)),(5,(o_ ov9)),(6,(i_ i6)),(9,(i_ x18)),(21,(l_ s1.events_)),(22,(i_ (s1.events_.length:Int))),(23,(i_ x10)),(50,(b_ x25))],Qn Γ.n0 (bxs []) M,Γ.n0+60⟩) (fun _ h=>?_) (fun x25 h=>?_)
  ·refine Z 4 0 ?_;refine bi h (fun _ h=>?_) (fun _ h=>Y);refine Z 2 0 ?_;refine cl (Hcq _ _) h (cq fun _ h=>?_);refine Z 3 0 ?_;refine bs h (fun _ h=>Y) (fun _ h=>?_);refine Z 2 0 ?_;refine cl (Hda _ _) h (cq fun _ h=>?_);exact Y
  ·exact cd h rfl (fun h=>Y) (fun h=>Y)
 ·obtain ⟨ov32,hs33,h⟩:=bnd h;obtain ⟨hl34,hn35,hr36⟩:=Hdh _ _ hs33;obtain ⟨ov38,hs39,h⟩:=bnd h;obtain ⟨hl40,hn41,hr42⟩:=Hcx _ _ hs39;refine Tr.seqW2 ⟨look [(4,(l_ ov38))],Qn Γ.n0 (bxs []) M,Γ.n0+60⟩ ?_ ?_
  ·by_cases hx37:ov31=[]
   ·obtain ⟨hyx,hn35b⟩:=hn35 hx37;replace hyx:=hyx.symm;subst hyx;replace hn35:=And.intro tv hn35b;obtain ⟨hv2,hn41b⟩:=hn41 hx37;replace hv2:=hv2.symm;subst hv2;replace hn41:=And.intro tv hn41b;refine Z 2 0 ?_;refine Rn.call (args:=[.d (.lst 1 (List.map (eI .i64) ov31))]) tv rfl (hn35.2) pc9 ?_;refine Z 3 0 ?_;refine Rn.call (args:=[.d (.lst 1 (List.map (eI .i64) ov31))]) (r:=.d (.lst 1 (List.map (eI .i64) ov31))) tv rfl (hn41.2) pc9 ?_;refine Z 1 0 ?_;refine Rn.nil ⟨rfl,(by exact Qf2 [] ⟨sq,tv⟩ tv rfl)⟩
   ·refine Tr.weak (wS [5] [] (fun e=>e) (fun l=>l) ke wk) ?_;refine Qbbp hG hM0 5 57 hx37 (fun _=>rfl) rfl rfl rfl ⟨rfl,(Q6x (fun _=>rfl)),tv⟩ tv (fun c43 hc44 hc45=>?_);refine Z 2 0 ?_;refine Rn.callRow (t:=57) (cs:=Qbr (List.map (eI .i64) ov31) ((c43-ov31.length)*1)) (cs':=Qbr (List.map (eI .i64) ov32) ((c43-ov31.length)*1)) tv rfl rfl (fun M2 hM2=>hr36 hc45 _ _ _ _ hM2) rfl ?_;refine Z 3 0 ?_;refine Rn.callRow (t:=57) (cs:=Qbr (List.map (eI .i64) ov32) ((c43-ov31.length)*1)) (cs':=Qbr (List.map (eI .i64) ov38) ((c43-ov38.length)*1)) tv rfl rfl (fun M2 hM2=>Qbaz hr42 hl34 hc44 hM2) rfl ?_;refine Z 1 0 ?_;refine Rn.weak (by show WeakSt Γ _ ⟨look [(4,(l_ ov38)),(57,.tup []),(59,(l_ ov38))],Qn Γ.n0 (bxs []) M,Γ.n0+60⟩;exact Qop 57 _ rfl Qbcr ⟨(fSlT (fun _=>rfl) rfl (Nat.le_trans (Nat.le_trans hl40 (Nat.le_of_eq hl34)) hc44)),sq,(fSlT (fun _=>rfl) rfl (Nat.le_trans (Nat.le_trans hl40 (Nat.le_of_eq hl34)) hc44)),tv⟩ tv rfl) ?_;refine Rn.nil ⟨rfl,(by exact Qf2 [] ⟨sq,tv⟩ tv rfl)⟩
  ·exact Y
theorem Qml {P:Program} {c:Nat} {Q5:_}
    (Hct:Qe0 P 101 Q5) (hcf:Qo P c=some Qio):Qf9 P c (Qcf Q5):=by
 intro s1 r h;refine Qbq hcf rfl fun Γ M hP hnt hM=>?_;subst hP;refine ini ?_;refine Z 8 0 ?_;refine Rn.k (v:=.cref (Qb s1)) tv rfl rfl rfl ?_;refine Z 5 0 ?_;refine ci h rfl (fun h=>Y) (fun h=>?_);refine Z 5 0 ?_;refine Rn.weak (by show WeakSt Γ _ ⟨look [(0,.cref (Qb s1)),(2,.nils 1),(3,.cref (Qb s1)),(4,.cref (Qb s1)),(5,.cref (List.drop 20 (Qb s1))),(6,.cref (List.drop 21 (Qb s1))),(7,(i_ s1.start_.language_)),(8,(b_ (decide (s1.start_.language_<0)))),(9,.cref (Qb s1)),(10,(l_ [0]))],Qn Γ.n0 (bxs []) M,Γ.n0+12⟩;exact Qb7 10 [.int .i64 0] rfl rfl ⟨sq,sq,sq,sq,sq,sq,sq,sq,sq,(fSl rfl rfl),tv⟩ tv rfl) ?_;refine cl (Hct _ _) h (cq fun _ h=>?_);exact Y
theorem Qmm {P:Program} {c:Nat} {Qe:_}
    (Hce:Qbs P 63 Qe) (hcf:Qo P c=some Qip):Qdu P c (Qs Qe):=by
 intro s1 x2 ev3 r h;refine Qbq hcf rfl fun Γ M hP hnt hM=>?_;subst hP;refine ini ?_;refine Z 8 0 ?_;refine Rn.k (v:=.cref (Qb s1)) tv rfl rfl rfl ?_;refine Z 3 0 ?_;refine Rn.k (v:=.cref (Qb s1)) tv rfl rfl rfl ?_;refine Z 7 1 ?_;intro _ h;refine cl (Hce _ _ _) h (cq fun _ h=>?_);refine Z 2 0 ?_;refine bi h (fun hb8 h=>?_) (fun hb8 h=>Y);refine Z 1 0 ?_;refine Rn.k (v:=.cref (Qb s1)) (gw rfl hb8) rfl rfl rfl ?_;refine Z 5 0 ?_;refine cl (Hce _ _ _) h (cq fun _ h=>?_);exact Y
theorem Qk2 {P:Program} {c:Nat} {Qe:_}
    (Hce:Qbs P 63 Qe) (hcf:Qo P c=some Qhm):Qe8 P c (Qbx Qe):=by
 intro k1 x2 x5 k3 k6 r h;intro M nb hk4 hk7;refine Qta hcf rfl M nb fun Γ hP hnt hn0 hM=>?_;subst hP hn0;refine ini ?_;refine Z 7 0 ?_;refine Rn.k (v:=.cref (Qb x2)) tv rfl rfl rfl ?_;refine Z 4 0 ?_;refine cl (Hce _ _ _) h (cq fun _ h=>?_);exact Y
theorem Qpl {P:Program} {c:Nat} (hcf:Qo P c=some Qkk) (fuel:Nat):Qhg P c (Qc5 fuel):=by
 intro s1 f2 g3 cp4 r h;intro M nb hc5 ho7 hf6;refine Qta hcf rfl M nb fun Γ hP hnt hn0 hM=>?_;subst hP hn0;refine ini ?_;refine Z 12 0 ?_;refine lw h [0,1,7] [] (fun x9 e=>(8,(i_ x9))::e) (fun _ l=>l) ke wk (fun _ x9 h=>?_);refine Z 5 0 ?_;refine ci h rfl (fun h=>?_) (fun h=>Y);refine Z 15 1 ?_;intro x12 h;obtain ⟨x15,h14,h⟩:=bnd h;refine Rn.callvM (args:=[(i_ x12)]++cp4) tv rfl (by rw [hc5];rfl) (fun M2 nb2 hn hx=>hf6 _ _ h14 M2 nb2 (by omega) ((Qs9 hM).trans hx)) rfl pc9 ?_;refine Z 1 0 ?_;exact cd h rfl (fun h=>Y) (fun h=>Y)
theorem Qmn {P:Program} {c:Nat} {Qc5:_}
    (Hdd:Qhg P 143 Qc5) (hcf:Qo P c=some Qiq):Qga P c (Qcg Qc5):=by
 intro s1 f2 g3 cp4 r h;intro M nb hc5 ho7 hf6;refine Qta hcf rfl M nb fun Γ hP hnt hn0 hM=>?_;subst hP hn0;refine ini ?_;refine Z 8 0 ?_;refine cm h (fun _ h12 M2 nb2 hn hx=>Hdd _ _ g3 cp4 _ h12 M2 nb2 hc5 (Qbbk ((Qs9 hM).trans hx) ho7) (fun a9 r10 h11 M3 nb3 hn3 hx3=>hf6 a9 r10 h11 M3 nb3 (by omega) ((Qs9 hM).trans (hx.trans hx3)))) rfl (cq fun _ h=>?_);exact Y
theorem Qlz {P:Program} {c:Nat} {Qk:_} {Qs:_} {Qcg:_} {Qbx:_}
    (Hda:Qcc P 62 Qk)
    (Hcn:Qdu P 65 Qs)
    (Hcy:Qga P 106 Qcg)
    (Hcp:Qe8 P 107 Qbx) (hcf:Qo P c=some Qia) (fuel:Nat):Qfv P c (Qb8 Qk Qs Qcg Qbx fuel):=by
 intro s1 x2 r h;refine Qbq hcf rfl fun Γ M hP hnt hM=>?_;subst hP;refine ini ?_;refine Z 10 0 ?_;refine Rn.k (v:=.cref (Qb s1)) tv rfl rfl rfl ?_;refine Z 6 0 ?_;refine lo h (fun x3=>⟨look [(2,.ptr (Γ.n0+2) 0),(3,.ptr (Γ.n0+3) 0),(10,(l_ s1.events_)),(11,(i_ (s1.events_.length:Int))),(12,(i_ x3))],Qn Γ.n0 (bxs [(2,.cells ([.cref (Qb s1)])),(3,.cells ((Qet x2)))]) M,Γ.n0+38⟩) wk (fun _ x3 h=>?_);refine Z 5 0 ?_;refine ci h rfl (fun h=>?_) (fun h=>Y);refine Tr.skip ?_;refine Tr.cutJ (fun (ev21:Int)=>⟨look [(2,.ptr (Γ.n0+2) 0),(3,.ptr (Γ.n0+3) 0),(10,(l_ s1.events_)),(11,(i_ (s1.events_.length:Int))),(12,(i_ x3))],Qn Γ.n0 (bxs [(2,.cells ([.cref (Qb s1)])),(3,.cells ((Qet x2))),(6,.cells ([(i_ ev21)]))]) M,Γ.n0+38⟩) h (fun J22 h=>?_) (fun z h=>?_)
 ·refine Z 9 1 ?_;intro x6 h;refine cu h (fun x13=>⟨look [(2,.ptr (Γ.n0+2) 0),(3,.ptr (Γ.n0+3) 0),(6,.ptr (Γ.n0+6) 0),(10,(l_ s1.events_)),(11,(i_ (s1.events_.length:Int))),(12,(i_ x3)),(31,(b_ x13))],Qn Γ.n0 (bxs [(2,.cells ([.cref (Qb s1)])),(3,.cells ((Qet x2))),(6,.cells ([(i_ x6)]))]) M,Γ.n0+38⟩) (fun _ h=>?_) (fun x13 h=>?_)
  ·refine Z 2 0 ?_;refine Rn.k (v:=.cref (Qb s1)) tv rfl rfl rfl ?_;refine Z 4 0 ?_;refine cl (Hda _ _) h (cq fun _ h=>?_);refine Z 2 0 ?_;refine bs h (fun _ h=>?_) (fun _ h=>Y);refine Z 4 0 ?_;refine cl (Hcn _ _ _) h (cq fun _ h=>?_);exact Y
  ·refine cd h rfl (fun h=>?_) (fun h=>?_)
   ·refine Tr.exit ?_;exact ⟨_,h,(by exact Qf2 [] ⟨(kPtr rfl),(kPtr rfl),sq,sq,sq,tv⟩ ⟨bS rfl rfl rfl,bS rfl rfl rfl,bS rfl rfl rfl,tv⟩ rfl)⟩
   ·refine Z 5 0 ?_;refine Rn.k (v:=.clo 107 [.ptr (Γ.n0+2) 0,.ptr (Γ.n0+6) 0]) tv rfl rfl rfl ?_;refine cm h (fun _ h18 M2 nb2 hn hx=>Hcy _ _ 107 [.ptr (Γ.n0+2) 0,.ptr (Γ.n0+6) 0] _ h18 M2 nb2 rfl ⟨Qtb (hx _ _ (Qdv rfl)),Qtb (hx _ _ (Qdv rfl)),tv⟩ (fun a15 r16 h17 M3 nb3 hn3 hx3=>Hcp a15 s1 x6 (Γ.n0+2) (Γ.n0+6) r16 h17 M3 nb3 ((hx.trans hx3) _ _ (Qdv rfl)) ((hx.trans hx3) _ _ (Qdv rfl)))) rfl (cq fun _ h=>?_);refine Z 1 0 ?_;refine cd h rfl (fun h=>Y) (fun h=>?_);refine Tr.skip ?_;exact ⟨_,h,(by exact Qf2 [] ⟨(kPtr rfl),(kPtr rfl),sq,sq,sq,tv⟩ ⟨bS rfl rfl rfl,bS rfl rfl rfl,bS rfl rfl rfl,tv⟩ rfl)⟩
 ·obtain ⟨ev21,rfl⟩ : ∃ x,x=z:=⟨_,rfl⟩;exact Y
theorem Qyb {P:Program} {c:Nat} {Q0:_}
    (Hab:Qfh P 85 Q0) (hcf:Qo P c=some Qvk) (fuel:Nat):Qlc P c (Qc2 Q0 fuel):=by
 intro w1 xv2 r h;refine Qbq hcf rfl fun Γ M hP hnt hM=>?_;subst hP;refine ini ?_;refine Z 8 0 ?_;refine cw h [] [] (fun ov15 e=>(5,(o_ ov15))::e) (fun _ l=>l) ke (fun _ h=>?_) (fun ov15 h=>Y);refine Z 7 0 ?_;refine lw h [1,8,9] [] (fun (ov3,x4) e=>(5,(o_ ov3))::(10,(i_ x4))::e) (fun _ l=>l) ke wk (fun _ ⟨ov3,x4⟩ h=>?_);refine Z 5 0 ?_;refine ci h rfl (fun h=>?_) (fun h=>Y);refine Tr.skip ?_;refine cw h [1,8,9,10] [] (fun ov14 e=>(5,(o_ ov14))::e) (fun _ l=>l) ke (fun _ h=>?_) (fun ov14 h=>Y);refine Z 11 1 ?_;intro _ h;refine cl (Hab _ _) h (cq fun _ h=>?_);refine Z 1 0 ?_;exact cd h rfl (fun h=>Y) (fun h=>Y)
theorem Qoc {P:Program} {c:Nat} {Qm:_} {Qp:_} {Qe:_}
    (Hcw:Qct P 58 Qm)
    (Hcq:Qc4 P 59 Qp)
    (Hce:Qbs P 63 Qe) (hcf:Qo P c=some Qj4) (fuel:Nat):Qgx P c (Qcx Qm Qp Qe fuel):=by
 intro s1 ov2 ev3 r h;refine Qbq hcf rfl fun Γ M hP hnt hM=>?_;subst hP;refine ini ?_;refine Z 6 0 ?_;refine Rn.mkmap tv rfl (fun (x:Qt)=>(.agg (Qbd x):V)) (fun (x:List Int)=>((l_ x):V)) ?_;refine Z 1 0 ?_;refine Rn.mapset (ek:=(fun (x:Qt)=>(.agg (Qbd x):V))) (ev:=(fun (x:List Int)=>((l_ x):V))) (m:=([]:List (Qt×(List Int)))) (k:=(Qt.mk 0 0)) (v:=[]) Qf4 (fun _=>rfl) (fun _=>rfl) tv rfl rfl rfl rfl rfl ?_;refine Z 11 0 ?_;refine Tr.weak (by show WeakSt Γ _ ⟨look ((8,.own 2 (List.map Qd6 [(Qt.mk 0 0)]))::[(0,.cref (Qb s1)),(1,(l_ ov2)),(2,(i_ ev3)),(6,.nils 1),(7,.mp (Γ.n0+15)),(15,.mp (Γ.n0+15)),(16,.agg [(i_ 0),(i_ 0)]),(17,.mp (Γ.n0+15)),(18,.agg [(i_ 0),(i_ 0)])] ),Qn Γ.n0 (bxs [(15,.mp (mapE (fun (x:Qt)=>(.agg (Qbd x):V)) (fun (x:List Int)=>((l_ x):V)) 0 (setM ([]:List (Qt×(List Int))) (Qt.mk 0 0) [])) ((setM ([]:List (Qt×(List Int))) (Qt.mk 0 0) [])).length)]) M,Γ.n0+113⟩;exact Qp8 19 8 [.int .i64 0,.int .i64 0] rfl rfl rfl rfl rfl ⟨sq,sq,sq,sq,(kMp rfl),(kMp rfl),sq,(kMp rfl),sq,tv⟩ ⟨⟨rfl,rfl⟩,tv⟩ rfl) ?_;refine lo h (fun (l4,c5)=>⟨look [(0,.cref (Qb s1)),(1,(l_ ov2)),(2,(i_ ev3)),(7,.mp (Γ.n0+15)),(8,.ownT 2 (List.map Qd6 l4))],Qn Γ.n0 (bxs [(15,.mp (mapE (fun (x:Qt)=>(.agg (Qbd x):V)) (fun (x:List Int)=>((l_ x):V)) 0 c5) (c5).length)]) M,Γ.n0+113⟩) wk (fun _ ⟨l4,c5⟩ h=>?_);refine Z 7 0 ?_;refine ci h rfl (fun h=>?_) (fun h=>Y);refine Z 12 1 ?_;intro x8 h;refine cu h (fun x13=>⟨look [(0,.cref (Qb s1)),(1,(l_ ov2)),(2,(i_ ev3)),(7,.mp (Γ.n0+15)),(8,.ownT 2 (List.map Qd6 l4)),(9,.ptr (Γ.n0+9) 0),(43,(b_ x13))],Qn Γ.n0 (bxs [(9,.cells ((Qbd x8))),(15,.mp (mapE (fun (x:Qt)=>(.agg (Qbd x):V)) (fun (x:List Int)=>((l_ x):V)) 0 c5) (c5).length)]) M,Γ.n0+113⟩) (fun _ h=>?_) (fun x13 h=>?_)
 ·refine Z 7 0 ?_;refine bs h (fun hb10 h=>?_) (fun hb10 h=>Y);refine Z 1 0 ?_;refine Rn.k (v:=.cref (Qb s1)) (gw rfl hb10) rfl rfl rfl ?_;refine Z 5 0 ?_;refine cl (Hce _ _ _) h (cq fun _ h=>?_);exact Y
 ·refine cd h rfl (fun h=>?_) (fun h=>?_)
  ·refine Z 4 0 ?_;refine Rn.lookup (ek:=(fun (x:Qt)=>(.agg (Qbd x):V))) (ev:=(fun (x:List Int)=>((l_ x):V))) (m:=c5) (k:=x8) Qf4 (fun _=>rfl) (fun _=>rfl) [] rfl tv rfl rfl rfl ?_;exact Y
  ·refine Z 4 0 ?_;refine Rn.k (v:=.cref (Qb s1)) tv rfl rfl rfl ?_;refine Z 6 0 ?_;refine lo h (fun (l15,x16,c17)=>⟨look [(0,.cref (Qb s1)),(1,(l_ ov2)),(2,(i_ ev3)),(7,.mp (Γ.n0+15)),(8,.ownT 2 (List.map Qd6 l15)),(9,.ptr (Γ.n0+9) 0),(50,(l_ s1.events_)),(51,(i_ (s1.events_.length:Int))),(52,(i_ x16))],Qn Γ.n0 (bxs [(9,.cells ((Qbd x8))),(15,.mp (mapE (fun (x:Qt)=>(.agg (Qbd x):V)) (fun (x:List Int)=>((l_ x):V)) 0 c17) (c17).length)]) M,Γ.n0+113⟩) wk (fun _ ⟨l15,x16,c17⟩ h=>?_);refine Z 5 0 ?_;refine ci h rfl (fun h=>?_) (fun h=>?_)
   ·refine Tr.skip ?_;refine cu h (fun (l42,c43,z44,z45)=>⟨look [(0,.cref (Qb s1)),(1,(l_ ov2)),(2,(i_ ev3)),(7,.mp (Γ.n0+15)),(8,.ownT 2 (List.map Qd6 l42)),(9,.ptr (Γ.n0+9) 0),(50,(l_ s1.events_)),(51,(i_ (s1.events_.length:Int))),(52,(i_ x16))],Qn Γ.n0 (bxs [(9,.cells ((Qbd x8))),(12,.cells ([(i_ z44),(i_ z45)])),(15,.mp (mapE (fun (x:Qt)=>(.agg (Qbd x):V)) (fun (x:List Int)=>((l_ x):V)) 0 c43) (c43).length)]) M,Γ.n0+113⟩) (fun _ h=>?_) (fun ⟨l42,c43,z44,z45⟩ h=>Y);refine Z 10 1 ?_;intro x20 h;refine Rn.k (v:=.cref (Qb s1)) tv rfl rfl rfl ?_;refine Z 5 0 ?_;refine cl (Hce _ _ _) h (cq fun x23 h=>?_);refine Z 13 0 ?_;refine ci h rfl (fun h=>Y) (fun h=>?_);refine Tr.skip ?_;refine Tr.cutJ (fun (z33:Int)=>⟨look [(0,.cref (Qb s1)),(1,(l_ ov2)),(2,(i_ ev3)),(7,.mp (Γ.n0+15)),(8,.ownT 2 (List.map Qd6 l15)),(9,.ptr (Γ.n0+9) 0),(11,(i_ x20)),(12,.ptr (Γ.n0+12) 0),(50,(l_ s1.events_)),(51,(i_ (s1.events_.length:Int))),(52,(i_ x16))],Qn Γ.n0 (bxs [(9,.cells ((Qbd x8))),(12,.cells ([(i_ x23),(i_ z33)])),(15,.mp (mapE (fun (x:Qt)=>(.agg (Qbd x):V)) (fun (x:List Int)=>((l_ x):V)) 0 c17) (c17).length)]) M,Γ.n0+113⟩) h (fun J41 h=>?_) (fun z h=>?_)
    ·refine Z 4 0 ?_;refine cl (Hcq _ _) h (cq fun _ h=>?_);refine Z 1 0 ?_;refine cd h rfl (fun h=>?_) (fun h=>?_)
     ·refine Tr.seq ?_;refine cu h (fun x31=>⟨look [(0,.cref (Qb s1)),(1,(l_ ov2)),(2,(i_ ev3)),(7,.mp (Γ.n0+15)),(8,.ownT 2 (List.map Qd6 l15)),(9,.ptr (Γ.n0+9) 0),(11,(i_ x20)),(12,.ptr (Γ.n0+12) 0),(50,(l_ s1.events_)),(51,(i_ (s1.events_.length:Int))),(52,(i_ x16)),(86,(b_ x31))],Qn Γ.n0 (bxs [(9,.cells ((Qbd x8))),(12,.cells ([(i_ x23),(i_ x8.done_)])),(15,.mp (mapE (fun (x:Qt)=>(.agg (Qbd x):V)) (fun (x:List Int)=>((l_ x):V)) 0 c17) (c17).length)]) M,Γ.n0+113⟩) (fun _ h=>?_) (fun x31 h=>?_)
      ·refine Z 7 0 ?_;exact bs h (fun _ h=>Y) (fun _ h=>Y)
      ·refine cd h rfl (fun h=>Y) (fun h=>?_);refine Z 8 0 ?_;exact ⟨_,h,(by exact Qf2 [] ⟨sq,sq,sq,(kMp rfl),sq,(kPtr rfl),sq,(kPtr rfl),sq,sq,sq,tv⟩ ⟨bS rfl rfl rfl,bS rfl rfl rfl,⟨rfl,rfl⟩,tv⟩ rfl)⟩
     ·refine Tr.skip ?_;exact ⟨_,h,(by exact Qf2 [] ⟨sq,sq,sq,(kMp rfl),sq,(kPtr rfl),sq,(kPtr rfl),sq,sq,sq,tv⟩ ⟨bS rfl rfl rfl,bS rfl rfl rfl,⟨rfl,rfl⟩,tv⟩ rfl)⟩
    ·obtain ⟨z33,rfl⟩ : ∃ x,x=z:=⟨_,rfl⟩;refine Z 4 0 ?_;refine Rn.lookupC (ek:=(fun (x:Qt)=>(.agg (Qbd x):V))) (ev:=(fun (x:List Int)=>((l_ x):V))) (m:=c17) (k:=(Qt.mk x23 z33)) Qf4 (fun _=>rfl) (fun _=>rfl) [] rfl tv rfl rfl rfl ?_;refine Z 11 0 ?_;refine Tr.cond rfl (fun hb34=>?_) (fun hb34=>?_)
     ·have hb34:=nT' hb34;replace h:=bF hb34 h;refine Z 6 0 ?_;refine Rn.lookup (ek:=(fun (x:Qt)=>(.agg (Qbd x):V))) (ev:=(fun (x:List Int)=>((l_ x):V))) (m:=c17) (k:=x8) Qf4 (fun _=>rfl) (fun _=>rfl) [] rfl tv rfl rfl rfl ?_;refine cl (Hcw _) h (cq fun _ h=>?_);refine Z 3 1 ?_;intro x37 h;refine Rn.mapset (ek:=(fun (x:Qt)=>(.agg (Qbd x):V))) (ev:=(fun (x:List Int)=>((l_ x):V))) (m:=c17) (k:=(Qt.mk x23 z33)) (v:=x37) Qf4 (fun _=>rfl) (fun _=>rfl) tv rfl rfl rfl rfl rfl ?_;refine Z 5 0 ?_;obtain ⟨x39,h40,h⟩:=bnd h;refine Rn.appT (e:=Qd6) tv rfl rfl rfl (Q0s rfl rfl rfl) h40 rfl ?_;exact Y
     ·have hb34:=nF' hb34;replace h:=bT hb34 h;exact Y
   ·refine Z 3 0 ?_;obtain ⟨x46,h47,h⟩:=bnd h;refine Rn.slcT (e:=Qd6) tv (.inr rfl) rfl h47 ?_;exact Y
theorem Qpm {P:Program} {c:Nat} {Qe:_}
    (Hce:Qbs P 63 Qe) (hcf:Qo P c=some Qkl):Qef P c (Qw Qe):=by
 intro s1 x2 ev3 r h;refine Qbq hcf rfl fun Γ M hP hnt hM=>?_;subst hP;refine ini ?_;refine Z 9 0 ?_;refine Rn.k (v:=.cref (Qb s1)) tv rfl rfl rfl ?_;refine Z 5 0 ?_;refine cl (Hce _ _ _) h (cq fun _ h=>?_);refine Z 6 0 ?_;refine Rn.k (v:=.cref (Qb s1)) tv rfl rfl rfl ?_;refine Z 5 0 ?_;refine cl (Hce _ _ _) h (cq fun _ h=>?_);exact Y
theorem Qmo {P:Program} {c:Nat} {Qk:_} {Qe:_} {Q5:_}
    (Hda:Qcc P 62 Qk)
    (Hce:Qbs P 63 Qe)
    (Hct:Qe0 P 101 Q5) (hcf:Qo P c=some Qir) (fuel:Nat):Qgb P c (Qch Qk Qe Q5 fuel):=by
 intro s1 l2 ev3 r h;refine Qbq hcf rfl fun Γ M hP hnt hM=>?_;subst hP;refine ini ?_;refine Z 8 0 ?_;refine cw h [0] [] (fun ov20 e=>(7,(o_ ov20))::e) (fun _ l=>l) ke (fun _ h=>?_) (fun ov20 h=>?_)
 ·refine Z 7 0 ?_;refine lw h [0,2,11,12] [] (fun (ov4,x5) e=>(7,(o_ ov4))::(13,(i_ x5))::e) (fun _ l=>l) ke wk (fun _ ⟨ov4,x5⟩ h=>?_);refine Z 5 0 ?_;refine ci h rfl (fun h=>?_) (fun h=>Y);refine Tr.skip ?_;refine cw h [0,2,11,12,13] [] (fun ov19 e=>(7,(o_ ov19))::e) (fun _ l=>l) ke (fun _ h=>?_) (fun ov19 h=>Y);refine Z 10 1 ?_;intro _ h;refine Rn.k (v:=.cref (Qb s1)) tv rfl rfl rfl ?_;refine Z 4 0 ?_;refine cl (Hce _ _ _) h (cq fun _ h=>?_);refine Z 2 0 ?_;refine cw h [0,2,7,10,11,12,13] [] (fun x15 e=>(31,(b_ x15))::e) (fun _ l=>l) ke (fun _ h=>?_) (fun x15 h=>?_)
  ·refine Z 4 0 ?_;refine bi h (fun _ h=>?_) (fun _ h=>Y);refine Z 2 0 ?_;refine cl (Hda _ _) h (cq fun _ h=>?_);exact Y
  ·exact cd h rfl (fun h=>Y) (fun h=>Y)
 ·refine Z 4 0 ?_;refine cl (Hct _ _) h (cq fun _ h=>?_);exact Y
theorem Qv5 {P:Program} {c:Nat} {Qv:_} {Qcf:_} {f_relative_key:_} {Qb8:_} {Qcx:_} {Qc2:_} {Qw:_} {Qm:_} {Qp:_} {Qch:_}
    (Hcb:Qfd P 51 Qv)
    (Hch:Qf9 P 52 Qcf)
    (Hca:K_relative_key P 53 f_relative_key)
    (Hco:Qfv P 54 Qb8)
    (Hci:Qgx P 55 Qcx)
    (Hdk:Qlc P 56 Qc2)
    (Hcj:Qef P 57 Qw)
    (Hcw:Qct P 58 Qm)
    (Hcq:Qc4 P 59 Qp)
    (Hck:Qgb P 60 Qch) (hcf:Qo P c=some Qr7) (fuel:Nat):Qi0 P c (Qb1 Qv Qcf f_relative_key Qb8 Qcx Qc2 Qw Qm Qp Qch fuel):=by
 intro p1 r h;refine Qbq hcf rfl fun Γ M hP hnt hM=>?_;subst hP;refine ini ?_;refine Z 10 0 ?_;obtain ⟨⟨r2,ok3,r6,r7⟩,h4,h⟩:=bnd h;refine bs h (fun hb5 h=>?_) (fun hb5 h=>?_)
 ·refine Rn.call (args:=[(Qr p1)]) tv rfl (crT hb5 (Hcb _ _ h4)) pc9 ?_;refine Z 15 0 ?_;refine cd h rfl (fun h=>Y) (fun h=>?_);refine Z 5 0 ?_;refine Rn.k (v:=.cref (Qb r2)) tv rfl rfl rfl ?_;refine Z 3 0 ?_;refine cd h rfl (fun h=>Y) (fun h=>?_);refine Z 4 0 ?_;refine Rn.k (v:=.cref (Qb r2)) tv rfl rfl rfl ?_;refine Z 3 0 ?_;refine cl (Hch _) h (cq fun x11 h=>?_);refine Rn.buildT (v:=.agg [(i_ r2.start_.ambient_),(i_ r2.start_.language_),(l_ x11),.nils 1]) tv rfl ?_;refine Z 5 0 ?_;refine Rn.mkmap tv rfl (fun (x:ByteArray)=>(.d (.str x):V)) (fun (x:Bool)=>((b_ x):V)) ?_;refine Z 1 0 ?_;refine Rn.k (v:=.ptr (Γ.n0+40) 0) tv rfl rfl rfl ?_;refine Z 3 0 ?_;refine Rn.k (v:=.ptr (Γ.n0+40) 0) tv rfl rfl rfl ?_;refine Z 2 0 ?_;refine cl (Hca _ _) h (cq fun x13 h=>?_);refine Rn.mapset (ek:=(fun (x:ByteArray)=>(.d (.str x):V))) (ev:=(fun (x:Bool)=>((b_ x):V))) (m:=([]:List (ByteArray×Bool))) (k:=x13) (v:=true) (fun _ _=>rfl) (fun _=>rfl) (fun _=>rfl) tv rfl rfl rfl rfl rfl ?_;refine Z 9 0 ?_;refine Tr.weak (by show WeakSt Γ _ ⟨look ((7,(Qgi ([(Qc7.mk r2.start_ x11 [])])))::[(0,(Qr p1)),(1,.ptr (Γ.n0+1) 0),(2,.ptr (Γ.n0+2) 0),(3,(b_ false)),(4,(i_ r7)),(5,.cref (Qb r2)),(6,.ptr (Γ.n0+6) 0),(8,.mp (Γ.n0+41)),(9,(i_ 0)),(18,.tup [.cref (Qb r2),(Qg r6),(i_ r7)]),(19,(Qr p1)),(20,.tup [.cref (Qb r2),(Qg r6),(i_ r7)]),(21,.cref (Qb r2)),(22,(Qg r6)),(23,(i_ r7)),(24,(i_ r7)),(25,(b_ (r7 != 0))),(28,.cref (Qb r2)),(29,.cref (Qb r2)),(30,.cref (List.drop 19 (Qb r2))),(31,(b_ r2.empty_)),(33,.cref (Qb r2)),(34,.cref (Qb r2)),(35,.cref (List.drop 20 (Qb r2))),(36,(Q4 r2.start_)),(37,.cref (Qb r2)),(38,(l_ x11)),(39,.agg [(i_ r2.start_.ambient_),(i_ r2.start_.language_),(l_ x11),.nils 1]),(41,.mp (Γ.n0+41)),(45,(Q4 r2.start_)),(49,(l_ x11)),(50,.d (.str x13)),(51,.mp (Γ.n0+41))] ),Qn Γ.n0 (bxs [(1,.cells ((Qba p1))),(2,.cells ([.nils 1,.nils 1,(i_ 0)])),(6,.cells ((Qq r6))),(41,.mp (mapE (fun (x:ByteArray)=>(.d (.str x):V)) (fun (x:Bool)=>((b_ x):V)) 0 (setM ([]:List (ByteArray×Bool)) x13 true)) ((setM ([]:List (ByteArray×Bool)) x13 true)).length)]) M,Γ.n0+138⟩;exact Qp8 40 7 [.int .i64 r2.start_.ambient_,.int .i64 r2.start_.language_,.lst 1 (List.map (eI .i64) x11),.lst 1 []] rfl rfl rfl rfl rfl ⟨sq,(kPtr rfl),(kPtr rfl),sq,sq,sq,(kPtr rfl),(kMp rfl),sq,sq,sq,sq,sq,sq,sq,sq,sq,sq,sq,sq,sq,sq,sq,sq,sq,sq,sq,sq,(kMp rfl),sq,sq,sq,(kMp rfl),tv⟩ ⟨bS rfl rfl rfl,bS rfl rfl rfl,bS rfl rfl rfl,⟨rfl,rfl⟩,tv⟩ rfl) ?_;refine lo h (fun (l14,i15,c16)=>⟨look [(1,.ptr (Γ.n0+1) 0),(2,.ptr (Γ.n0+2) 0),(5,.cref (Qb r2)),(7,(Qgi l14)),(8,.mp (Γ.n0+41)),(9,(i_ i15))],Qn Γ.n0 (bxs [(1,.cells ((Qba p1))),(2,.cells ([.nils 1,.nils 1,(i_ 0)])),(6,.cells ((Qq r6))),(41,.mp (mapE (fun (x:ByteArray)=>(.d (.str x):V)) (fun (x:Bool)=>((b_ x):V)) 0 c16) (c16).length)]) M,Γ.n0+138⟩) wk (fun _ ⟨l14,i15,c16⟩ h=>?_);refine Z 8 0 ?_;refine ci h rfl (fun h=>?_) (fun h=>Y);refine Z 17 1 ?_;intro x19 h;refine cl (Hco _ _) h (cq fun x22 h=>?_);refine Z 7 0 ?_;refine ci h rfl (fun h=>?_) (fun h=>?_)
  ·refine Z 7 0 ?_;refine cl (Hdk _ _) h (cq fun _ h=>?_);refine Z 1 0 ?_;refine cl (Hci _ _ _) h (cq fun x27 h=>?_);refine Z 3 0 ?_;refine Rn.buildT (v:=.agg [(l_ x27),(l_ x19.word_),(i_ x22)]) tv rfl ?_;exact Y
  ·refine Tr.skip ?_;refine cu h (fun (l58,c59)=>⟨look [(1,.ptr (Γ.n0+1) 0),(2,.ptr (Γ.n0+2) 0),(5,.cref (Qb r2)),(7,(Qgi l58)),(8,.mp (Γ.n0+41)),(9,(i_ i15))],Qn Γ.n0 (bxs [(1,.cells ((Qba p1))),(2,.cells ([.nils 1,.nils 1,(i_ 0)])),(6,.cells ((Qq r6))),(10,.cells ((Qet x19))),(41,.mp (mapE (fun (x:ByteArray)=>(.d (.str x):V)) (fun (x:Bool)=>((b_ x):V)) 0 c59) (c59).length)]) M,Γ.n0+138⟩) (fun _ h=>?_) (fun ⟨l58,c59⟩ h=>?_)
   ·refine Z 3 0 ?_;refine Rn.k (v:=.cref (Qb r2)) tv rfl rfl rfl ?_;refine Z 6 0 ?_;refine lo h (fun (l28,x29,c30)=>⟨look [(1,.ptr (Γ.n0+1) 0),(2,.ptr (Γ.n0+2) 0),(5,.cref (Qb r2)),(7,(Qgi l28)),(8,.mp (Γ.n0+41)),(9,(i_ i15)),(10,.ptr (Γ.n0+10) 0),(82,(l_ r2.events_)),(83,(i_ (r2.events_.length:Int))),(84,(i_ x29))],Qn Γ.n0 (bxs [(1,.cells ((Qba p1))),(2,.cells ([.nils 1,.nils 1,(i_ 0)])),(6,.cells ((Qq r6))),(10,.cells ((Qet x19))),(41,.mp (mapE (fun (x:ByteArray)=>(.d (.str x):V)) (fun (x:Bool)=>((b_ x):V)) 0 c30) (c30).length)]) M,Γ.n0+138⟩) wk (fun _ ⟨l28,x29,c30⟩ h=>?_);refine Z 5 0 ?_;refine ci h rfl (fun h=>?_) (fun h=>Y);refine Tr.skip ?_;refine cu h (fun (l54,c55,xv56,xv57)=>⟨look [(1,.ptr (Γ.n0+1) 0),(2,.ptr (Γ.n0+2) 0),(5,.cref (Qb r2)),(7,(Qgi l54)),(8,.mp (Γ.n0+41)),(9,(i_ i15)),(10,.ptr (Γ.n0+10) 0),(82,(l_ r2.events_)),(83,(i_ (r2.events_.length:Int))),(84,(i_ x29))],Qn Γ.n0 (bxs [(1,.cells ((Qba p1))),(2,.cells ([.nils 1,.nils 1,(i_ 0)])),(6,.cells ((Qq r6))),(10,.cells ((Qet x19))),(14,.cells ([(i_ xv56),(i_ xv57)])),(41,.mp (mapE (fun (x:ByteArray)=>(.d (.str x):V)) (fun (x:Bool)=>((b_ x):V)) 0 c55) (c55).length)]) M,Γ.n0+138⟩) (fun _ h=>?_) (fun ⟨l54,c55,xv56,xv57⟩ h=>Y);refine Z 13 1 ?_;intro x33 h;refine cl (Hcj _ _ _) h (cq fun ⟨r36,_⟩ h=>?_);refine Z 13 0 ?_;refine Tr.cond rfl (fun hb38=>?_) (fun hb38=>?_)
    ·have hb38:=nT' hb38;replace h:=bF hb38 h;exact Y
    ·have hb38:=nF' hb38;replace h:=bT hb38 h;refine Z 8 0 ?_;refine cl (Hcw _) h (cq fun _ h=>?_);refine Z 3 1 ?_;intro x41 h;refine Rn.buildT (v:=.agg [(i_ r36.ambient_),(i_ r36.language_),(l_ x19.states_),(o_ x41)]) tv rfl ?_;refine Z 3 0 ?_;refine cu h (fun y48=>⟨look [(1,.ptr (Γ.n0+1) 0),(2,.ptr (Γ.n0+2) 0),(5,.cref (Qb r2)),(7,(Qgi l28)),(8,.mp (Γ.n0+41)),(9,(i_ i15)),(10,.ptr (Γ.n0+10) 0),(16,.ptr (Γ.n0+16) 0),(82,(l_ r2.events_)),(83,(i_ (r2.events_.length:Int))),(84,(i_ x29))],Qn Γ.n0 (bxs [(1,.cells ((Qba p1))),(2,.cells ([.nils 1,.nils 1,(i_ 0)])),(6,.cells ((Qq r6))),(10,.cells ((Qet x19))),(14,.cells ((Q3 r36))),(16,.cells ([(i_ r36.ambient_),(i_ r36.language_),(l_ y48),(o_ x41)])),(41,.mp (mapE (fun (x:ByteArray)=>(.d (.str x):V)) (fun (x:Bool)=>((b_ x):V)) 0 c30) (c30).length),(105,.cells ([(i_ x33)]))]) M,Γ.n0+138⟩) (fun _ h=>?_) (fun y48 h=>?_)
     ·refine Z 4 0 ?_;refine cl (Hcq _ _) h (cq fun _ h=>?_);refine Z 1 0 ?_;refine cd h rfl (fun h=>?_) (fun h=>Y);refine Z 5 0 ?_;refine cl (Hck _ _ _) h (cq fun _ h=>?_);exact Y
     ·refine Z 6 0 ?_;refine cl (Hca _ _) h (cq fun x50 h=>?_);refine Z 6 0 ?_;refine Rn.lookup (ek:=(fun (x:ByteArray)=>(.d (.str x):V))) (ev:=(fun (x:Bool)=>((b_ x):V))) (m:=c30) (k:=x50) (fun _ _=>rfl) (fun _=>rfl) (fun _=>rfl) false rfl tv rfl rfl rfl ?_;refine Z 2 0 ?_;refine Tr.cond rfl (fun hb51=>?_) (fun hb51=>?_)
      ·have hb51:=nT' hb51;replace h:=bF hb51 h;refine Z 4 0 ?_;refine Rn.mapset (ek:=(fun (x:ByteArray)=>(.d (.str x):V))) (ev:=(fun (x:Bool)=>((b_ x):V))) (m:=c30) (k:=x50) (v:=true) (fun _ _=>rfl) (fun _=>rfl) (fun _=>rfl) tv rfl rfl rfl rfl rfl ?_;exact Y
      ·have hb51:=nF' hb51;replace h:=bT hb51 h;exact Y
   ·refine Z 6 0 ?_;exact ci h rfl (fun h=>Y) (fun h=>Y)
 ·refine Rn.call (args:=[(Qr p1)]) tv rfl (crF hb5 (Hcb _ _ h4)) pc9 ?_;refine Z 15 0 ?_;refine cd h rfl (fun h=>Y) (fun h=>?_);refine Z 5 0 ?_;cases h
theorem Ql0 {P:Program} {c:Nat} (hcf:Qo P c=some Qib):Qfw P c (Qbu):=by
 intro x1 x2 x7 k3 k5 k8 r h;intro M nb hk4 hk6 hk9 hv10 hv11 hv12;refine Qbdl hcf rfl M _ nb (fun hM=>Q9v hM ⟨(ltB hM hk6),(ltB hM hk9),tv⟩) fun Γ hP hnt hn0 hM=>?_;subst hP hn0;refine ini ?_;refine Tr.puts [(k5,.mp (mapE (fun (x:Qc)=>(.agg (Q3 x):V)) (fun (x:Bool)=>((b_ x):V)) 0 x2) (x2).length),(k8,.cells ([(Qbj x7)]))] ⟨hk6,hk9,tv⟩ ?_;refine Z 6 0 ?_;refine Rn.load (v:=.mp k5) tv rfl (Q0r (ltB hM hk4) (pgS hv10.symm (pgS hv12.symm hk4))) rfl rfl ?_;refine Z 1 0 ?_;refine Rn.lookupB (ek:=(fun (x:Qc)=>(.agg (Q3 x):V))) (ev:=(fun (x:Bool)=>((b_ x):V))) (m:=x2) (k:=x1) Qna (fun _=>rfl) (fun _=>rfl) false rfl tv rfl rfl (Q0r (ltB hM hk6) pg0) ?_;refine Z 2 0 ?_;refine Tr.cond rfl (fun hb13=>?_) (fun hb13=>?_)
 ·have hb13:=nT' hb13;replace h:=bF hb13 h;refine Z 2 0 ?_;refine Rn.load (v:=.mp k5) tv rfl (Q0r (ltB hM hk4) (pgS hv10.symm (pgS hv12.symm hk4))) rfl rfl ?_;refine Z 1 0 ?_;refine Rn.mapsetB (ek:=(fun (x:Qc)=>(.agg (Q3 x):V))) (ev:=(fun (x:Bool)=>((b_ x):V))) (m:=x2) (k:=x1) (v:=true) Qna (fun _=>rfl) tv rfl rfl rfl rfl (ltB hM hk6) pg0 ps0 ?_;refine Z 2 0 ?_;refine Rn.loadTB (cs':=[(Qz x7)]) tv rfl (ltB hM hk9) (pgS hv11.symm pg0) rfl rfl (psS hv11.symm ps0) ?_;refine Z 3 1 ?_;intro x14 h;refine Rn.storeOB (cs':=[(Qbj x14)]) tv rfl rfl (ltB hM hk9) (pgS hv11.symm pg0) rfl rfl (psS hv11.symm ps0) ?_;exact Y
 ·have hb13:=nF' hb13;replace h:=bT hb13 h;exact Y
theorem Qtu {P:Program} {c:Nat} (hcf:Qo P c=some Qo1):Qo0 P c (Qo2):=by
 intro a1 b2 r h;refine Qbq hcf rfl fun Γ M hP hnt hM=>?_;subst hP;refine ini ?_;refine Z 15 0 ?_;exact cd h rfl (fun h=>Y) (fun h=>Y)
theorem Qnu {P:Program} {c:Nat} {Qw:_} {Qp:_} {Qbu:_} {f_slices_SortFunc_place:_}
    (Hcj:Qef P 57 Qw)
    (Hcq:Qc4 P 59 Qp)
    (Hcs:Qfw P 144 Qbu)
    (Hdg:RowK P 145 Qbe 2 [.clo 146 []] f_slices_SortFunc_place) (hcf:Qo P c=some Qji) (fuel:Nat):Qe1 P c (Q6 Qw Qp Qbu f_slices_SortFunc_place fuel):=by
 intro s1 l2 r h;refine Q9p hcf (args':=[.cref (Qb s1),.f (.lst 2 (List.map Qbe l2))]) rfl rfl rfl rfl rfl rfl fun Γ M hP hnt hG hM0 hM=>?_;subst hP;refine ini ?_;refine Z 6 0 ?_;refine Rn.mkmap tv rfl (fun (x:Qc)=>(.agg (Q3 x):V)) (fun (x:Bool)=>((b_ x):V)) ?_;refine Z 9 0 ?_;refine Rn.k (v:=.clo 144 [.ptr (Γ.n0+5) 0,.ptr (Γ.n0+6) 0]) tv rfl rfl rfl ?_;refine Z 2 0 ?_;refine cu h (fun (ov13,c14)=>⟨look [(0,.cref (Qb s1)),(6,.ptr (Γ.n0+6) 0),(7,.clo 144 [.ptr (Γ.n0+5) 0,.ptr (Γ.n0+6) 0])],Qn Γ.n0 (bxs [(5,.cells ([.mp (Γ.n0+15)])),(6,.cells ([(Qbj ov13)])),(15,.mp (mapE (fun (x:Qc)=>(.agg (Q3 x):V)) (fun (x:Bool)=>((b_ x):V)) 0 c14) (c14).length)]) M,Γ.n0+66⟩) (fun _ h=>?_) (fun ⟨ov13,c14⟩ h=>?_)
 ·refine Z 3 0 ?_;refine Rn.weak (wS [0,1,4,5,6,7,15,16] [5,6,15] (fun e=>(17,(Qz l2))::e) (fun l=>l) ke wk) ?_;refine Z 4 0 ?_;refine lo h (fun (x3,ov4,c5)=>⟨look [(0,.cref (Qb s1)),(6,.ptr (Γ.n0+6) 0),(7,.clo 144 [.ptr (Γ.n0+5) 0,.ptr (Γ.n0+6) 0]),(17,(Qz l2)),(18,(i_ (l2.length:Int))),(19,(i_ x3))],Qn Γ.n0 (bxs [(5,.cells ([.mp (Γ.n0+15)])),(6,.cells ([(Qbj ov4)])),(15,.mp (mapE (fun (x:Qc)=>(.agg (Q3 x):V)) (fun (x:Bool)=>((b_ x):V)) 0 c5) (c5).length)]) M,Γ.n0+66⟩) wk (fun _ ⟨x3,ov4,c5⟩ h=>?_);refine Z 5 0 ?_;refine ci h rfl (fun h=>?_) (fun h=>Y);refine Z 13 1 ?_;intro x8 h;obtain ⟨⟨c10,c11⟩,h12,h⟩:=bnd h;refine Rn.callvW (args:=([(Q4 x8)]++[.ptr (Γ.n0+5) 0,.ptr (Γ.n0+6) 0])) (B:=[((Γ.n0+15),.mp (mapE (fun (x:Qc)=>(.agg (Q3 x):V)) (fun (x:Bool)=>((b_ x):V)) 0 c10) (c10).length),((Γ.n0+6),.cells ([(Qbj c11)]))]) tv rfl rfl (Hcs _ _ _ (Γ.n0+5) (Γ.n0+15) (Γ.n0+6) _ h12 _ _ (Qdv rfl) (Qdv rfl) (Qdv rfl) (Q7r rfl) (Q7r rfl) (Q7r rfl)) ⟨(.inl (Nat.le_add_right _ _)),tv⟩ (Qba0 (Qba0 cw0)) rfl ?_;exact Y
 ·refine cu h (fun (ov46,c47)=>⟨look [(6,.ptr (Γ.n0+6) 0)],Qn Γ.n0 (bxs [(5,.cells ([.mp (Γ.n0+15)])),(6,.cells ([(Qbj ov46)])),(15,.mp (mapE (fun (x:Qc)=>(.agg (Q3 x):V)) (fun (x:Bool)=>((b_ x):V)) 0 c47) (c47).length)]) M,Γ.n0+66⟩) (fun _ h=>?_) (fun ⟨ov46,c47⟩ h=>?_)
  ·refine Z 5 0 ?_;refine lo h (fun (i15,ov16,c17)=>⟨look [(0,.cref (Qb s1)),(6,.ptr (Γ.n0+6) 0),(7,.clo 144 [.ptr (Γ.n0+5) 0,.ptr (Γ.n0+6) 0]),(10,(i_ i15))],Qn Γ.n0 (bxs [(5,.cells ([.mp (Γ.n0+15)])),(6,.cells ([(Qbj ov16)])),(15,.mp (mapE (fun (x:Qc)=>(.agg (Q3 x):V)) (fun (x:Bool)=>((b_ x):V)) 0 c17) (c17).length)]) M,Γ.n0+66⟩) wk (fun _ ⟨i15,ov16,c17⟩ h=>?_);refine Z 8 0 ?_;refine ci h rfl (fun h=>?_) (fun h=>Y);refine Tr.skip ?_;refine cu h (fun (ov44,c45)=>⟨look [(0,.cref (Qb s1)),(6,.ptr (Γ.n0+6) 0),(7,.clo 144 [.ptr (Γ.n0+5) 0,.ptr (Γ.n0+6) 0]),(10,(i_ i15))],Qn Γ.n0 (bxs [(5,.cells ([.mp (Γ.n0+15)])),(6,.cells ([(Qbj ov44)])),(15,.mp (mapE (fun (x:Qc)=>(.agg (Q3 x):V)) (fun (x:Bool)=>((b_ x):V)) 0 c45) (c45).length)]) M,Γ.n0+66⟩) (fun _ h=>?_) (fun ⟨ov44,c45⟩ h=>Y);refine Z 4 0 ?_;refine Rn.k (v:=.cref (Qb s1)) tv rfl rfl rfl ?_;refine Z 6 0 ?_;refine lo h (fun (x20,ov21,c22)=>⟨look [(0,.cref (Qb s1)),(6,.ptr (Γ.n0+6) 0),(7,.clo 144 [.ptr (Γ.n0+5) 0,.ptr (Γ.n0+6) 0]),(10,(i_ i15)),(36,(l_ s1.events_)),(37,(i_ (s1.events_.length:Int))),(38,(i_ x20))],Qn Γ.n0 (bxs [(5,.cells ([.mp (Γ.n0+15)])),(6,.cells ([(Qbj ov21)])),(15,.mp (mapE (fun (x:Qc)=>(.agg (Q3 x):V)) (fun (x:Bool)=>((b_ x):V)) 0 c22) (c22).length)]) M,Γ.n0+66⟩) wk (fun _ ⟨x20,ov21,c22⟩ h=>?_);refine Z 5 0 ?_;refine ci h rfl (fun h=>?_) (fun h=>Y);refine Tr.skip ?_;refine cu h (fun (ov40,c41,y42,y43)=>⟨look [(0,.cref (Qb s1)),(6,.ptr (Γ.n0+6) 0),(7,.clo 144 [.ptr (Γ.n0+5) 0,.ptr (Γ.n0+6) 0]),(10,(i_ i15)),(36,(l_ s1.events_)),(37,(i_ (s1.events_.length:Int))),(38,(i_ x20))],Qn Γ.n0 (bxs [(5,.cells ([.mp (Γ.n0+15)])),(6,.cells ([(Qbj ov40)])),(13,.cells ([(i_ y42),(i_ y43)])),(15,.mp (mapE (fun (x:Qc)=>(.agg (Q3 x):V)) (fun (x:Bool)=>((b_ x):V)) 0 c41) (c41).length)]) M,Γ.n0+66⟩) (fun _ h=>?_) (fun ⟨ov40,c41,y42,y43⟩ h=>Y);refine Z 15 1 ?_;intro _ _ h;refine cl (Hcj _ _ _) h (cq fun ⟨r30,_⟩ h=>?_);refine Z 7 0 ?_;refine cu h (fun x35=>⟨look [(0,.cref (Qb s1)),(6,.ptr (Γ.n0+6) 0),(7,.clo 144 [.ptr (Γ.n0+5) 0,.ptr (Γ.n0+6) 0]),(10,(i_ i15)),(13,.ptr (Γ.n0+13) 0),(36,(l_ s1.events_)),(37,(i_ (s1.events_.length:Int))),(38,(i_ x20)),(58,(b_ x35))],Qn Γ.n0 (bxs [(5,.cells ([.mp (Γ.n0+15)])),(6,.cells ([(Qbj ov21)])),(13,.cells ((Q3 r30))),(15,.mp (mapE (fun (x:Qc)=>(.agg (Q3 x):V)) (fun (x:Bool)=>((b_ x):V)) 0 c22) (c22).length)]) M,Γ.n0+66⟩) (fun _ h=>?_) (fun x35 h=>?_)
   ·refine Z 3 0 ?_;refine bs h (fun _ h=>?_) (fun _ h=>Y);refine Z 2 0 ?_;refine cl (Hcq _ _) h (cq fun _ h=>?_);exact Y
   ·refine cd h rfl (fun h=>?_) (fun h=>Y);refine Z 3 0 ?_;obtain ⟨⟨c37,c38⟩,h39,h⟩:=bnd h;refine Rn.callvW (args:=([(Q4 r30)]++[.ptr (Γ.n0+5) 0,.ptr (Γ.n0+6) 0])) (B:=[((Γ.n0+15),.mp (mapE (fun (x:Qc)=>(.agg (Q3 x):V)) (fun (x:Bool)=>((b_ x):V)) 0 c37) (c37).length),((Γ.n0+6),.cells ([(Qbj c38)]))]) tv rfl rfl (Hcs _ _ _ (Γ.n0+5) (Γ.n0+15) (Γ.n0+6) _ h39 _ _ (Qdv rfl) (Qdv rfl) (Qdv rfl) (Q7r rfl) (Q7r rfl) (Q7r rfl)) ⟨(.inl (Nat.le_add_right _ _)),tv⟩ (Qba0 (Qba0 cw0)) rfl ?_;exact Y
  ·obtain ⟨rv48,hs49,h⟩:=bnd h;obtain ⟨hl50,hn51,hr52⟩:=Hdg _ _ hs49;refine Tr.seqW ⟨look [(6,.ptr (Γ.n0+6) 0)],Qn Γ.n0 (bxs [(6,.cells ([(Qz rv48)]))]) M,Γ.n0+66⟩ ?_ ?_
   ·by_cases hx53:ov46=[]
    ·obtain ⟨hyx,hn51b⟩:=hn51 hx53;replace hyx:=hyx.symm;subst hyx;replace hn51:=And.intro tv hn51b;refine Z 2 0 ?_;refine Rn.call (args:=[(Qz ov46),.clo 146 []]) tv rfl (hn51.2) pc9 ?_;refine Rn.nil ⟨rfl,(by exact Qf2 [5,15] ⟨(kPtr rfl),tv⟩ ⟨⟨_,rfl,rfl,(.cons (WkV.dem' rfl) .nil)⟩,tv⟩ rfl)⟩
    ·refine Tr.weak (wS [6] [6] (fun e=>e) (fun l=>l) ke wk) ?_;refine Qbdj hG hM0 6 0 64 hx53 (fun _=>rfl) rfl rfl rfl rfl ⟨rfl,tv⟩ ⟨⟨rfl,tv⟩,tv⟩ (fun c54 hc55 hc56=>?_);refine Z 2 0 ?_;refine Rn.callRow (t:=64) (cs:=Qbr (List.map Qbe ov46) ((c54-ov46.length)*2)) (cs':=Qbr (List.map Qbe rv48) ((c54-ov46.length)*2)) tv rfl rfl (fun M2 hM2=>hr52 hc56 _ _ _ _ hM2) rfl ?_;refine Rn.weak (by show WeakSt Γ _ ⟨look [(6,.ptr (Γ.n0+6) 0),(63,(Qz rv48)),(64,.tup [])],Qn Γ.n0 (bxs [(6,.cells ([(Qz rv48)]))]) M,Γ.n0+66⟩;exact Qop 64 _ rfl Qbcr ⟨(fPtr rfl),(fSlT (fun _=>rfl) hl50 hc55),sq,tv⟩ ⟨⟨_,rfl,rfl,(.cons (fSlT (fun _=>rfl) hl50 hc55) .nil)⟩,tv⟩ rfl) ?_;refine Rn.nil ⟨rfl,(by exact Qf2 [] ⟨(kPtr rfl),tv⟩ ⟨bS rfl rfl rfl,tv⟩ rfl)⟩
   ·exact Y
theorem Qpn {P:Program} {c:Nat} {f_relative_key:_}
    (Hca:K_relative_key P 53 f_relative_key) (hcf:Qo P c=some Qkm) (fuel:Nat):Qhh P c (Qb4 f_relative_key fuel):=by
 intro x1 r h;refine Qbq hcf rfl fun Γ M hP hnt hM=>?_;subst hP;refine ini ?_;refine Z 9 0 ?_;refine cw h [1] [1] (fun l10 e=>(3,(o_ l10))::e) (fun _ l=>l) ke (fun _ h=>?_) (fun l10 h=>?_)
 ·refine Z 8 0 ?_;refine lw h [1,7,8] [1] (fun (l2,x3) e=>(3,(o_ l2))::(9,(i_ x3))::e) (fun _ l=>l) ke wk (fun _ ⟨l2,x3⟩ h=>?_);refine Z 5 0 ?_;exact ci h rfl (fun h=>Y) (fun h=>Y)
 ·refine Z 6 0 ?_;refine cl (Hca _ _) h (cq fun _ h=>?_);exact Y
theorem Qnv {P:Program} {c:Nat} {Qs:_}
    (Hcn:Qdu P 65 Qs) (hcf:Qo P c=some Qjj):Qgk P c (Qcq Qs):=by
 intro x1 x2 x5 k3 k6 r h;intro M nb hk4 hk7;refine Qta hcf rfl M nb fun Γ hP hnt hn0 hM=>?_;subst hP hn0;refine ini ?_;refine Z 10 0 ?_;refine cl (Hcn _ _ _) h (cq fun _ h=>?_);exact Y
theorem Qnw {P:Program} {c:Nat} (hcf:Qo P c=some Qjk) (fuel:Nat):Qgl P c (Qcr fuel):=by
 intro s1 f2 g3 cp4 r h;intro M nb hc5 ho7 hf6;refine Qta hcf rfl M nb fun Γ hP hnt hn0 hM=>?_;subst hP hn0;refine ini ?_;refine Z 12 0 ?_;refine lw h [0,1,7] [] (fun x9 e=>(8,(i_ x9))::e) (fun _ l=>l) ke wk (fun _ x9 h=>?_);refine Z 5 0 ?_;refine ci h rfl (fun h=>?_) (fun h=>Y);refine Z 15 1 ?_;intro x12 h;obtain ⟨x15,h14,h⟩:=bnd h;refine Rn.callvM (args:=[(Q4 x12)]++cp4) tv rfl (by rw [hc5];rfl) (fun M2 nb2 hn hx=>hf6 _ _ h14 M2 nb2 (by omega) ((Qs9 hM).trans hx)) rfl pc9 ?_;refine Z 1 0 ?_;exact cd h rfl (fun h=>Y) (fun h=>Y)
theorem Qln {P:Program} {c:Nat} {Qcr:_}
    (Hde:Qgl P 147 Qcr) (hcf:Qo P c=some Qhz):Qfk P c (Qb3 Qcr):=by
 intro s1 f2 g3 cp4 r h;intro M nb hc5 ho7 hf6;refine Qta hcf rfl M nb fun Γ hP hnt hn0 hM=>?_;subst hP hn0;refine ini ?_;refine Z 8 0 ?_;refine cm h (fun _ h12 M2 nb2 hn hx=>Hde _ _ g3 cp4 _ h12 M2 nb2 hc5 (Qbbk ((Qs9 hM).trans hx) ho7) (fun a9 r10 h11 M3 nb3 hn3 hx3=>hf6 a9 r10 h11 M3 nb3 (by omega) ((Qs9 hM).trans (hx.trans hx3)))) rfl (cq fun _ h=>?_);exact Y
theorem Qod {P:Program} {c:Nat} {Qw:_} {Q6:_}
    (Hcj:Qef P 57 Qw)
    (Hcr:Qe1 P 110 Q6) (hcf:Qo P c=some Qj5) (fuel:Nat):Qgy P c (Qcy Qw Q6 fuel):=by
 intro s1 l2 ev3 r h;refine Qbq hcf rfl fun Γ M hP hnt hM=>?_;subst hP;refine ini ?_;refine Z 8 0 ?_;refine cw h [0] [] (fun ov21 e=>(7,(Qbj ov21))::e) (fun _ l=>l) ke (fun _ h=>?_) (fun ov21 h=>?_)
 ·refine Z 7 0 ?_;refine lw h [0,2,12,13] [] (fun (ov4,x5) e=>(7,(Qbj ov4))::(14,(i_ x5))::e) (fun _ l=>l) ke wk (fun _ ⟨ov4,x5⟩ h=>?_);refine Z 5 0 ?_;refine ci h rfl (fun h=>?_) (fun h=>Y);refine Tr.skip ?_;refine cw h [0,2,12,13,14] [] (fun (ov16,c17,c18,y19,y20) e=>(7,(Qbj ov16))::e) (fun (ov16,c17,c18,y19,y20) l=>(9,.cells ([(i_ c17),(i_ c18)]))::(10,.cells ([(i_ y19),(i_ y20)]))::l) ke (fun _ h=>?_) (fun ⟨ov16,c17,c18,y19,y20⟩ h=>Y);refine Z 13 1 ?_;intro _ h;refine cl (Hcj _ _ _) h (cq fun ⟨_,_⟩ h=>?_);refine Z 11 0 ?_;exact cd h rfl (fun h=>Y) (fun h=>Y)
 ·refine Z 4 0 ?_;refine cl (Hcr _ _) h (cq fun _ h=>?_);exact Y
theorem Qpo {P:Program} {c:Nat} {Qb0:_} {Qm:_} {Qp:_} {Qk:_} {Qe:_} {Q6:_} {Qb4:_} {Qb3:_} {Qcq:_} {Qcy:_}
    (Hat:Qhl P 45 Qb0)
    (Hcw:Qct P 58 Qm)
    (Hcq:Qc4 P 59 Qp)
    (Hda:Qcc P 62 Qk)
    (Hce:Qbs P 63 Qe)
    (Hcr:Qe1 P 110 Q6)
    (Hcc:Qhh P 111 Qb4)
    (Hcz:Qfk P 112 Qb3)
    (Hcm:Qgk P 113 Qcq)
    (Hcg:Qgy P 114 Qcy) (hcf:Qo P c=some Qkn) (fuel:Nat):Qfq P c (Qbi Qb0 Qm Qp Qk Qe Q6 Qb4 Qb3 Qcq Qcy fuel):=by
 intro s1 r h;refine Qbq hcf rfl fun Γ M hP hnt hM=>?_;subst hP;refine ini ?_;refine Z 9 0 ?_;refine Rn.k (v:=.cref (Qb s1)) tv rfl rfl rfl ?_;refine Z 2 0 ?_;refine cl (Hcw _) h (cq fun x3 h=>?_);refine Rn.buildT (v:=.agg [(o_ x3),(i_ 0),.nils 1,.nils 3]) tv rfl ?_;refine Z 7 0 ?_;refine Rn.k (v:=.cref (Qb s1)) tv rfl rfl rfl ?_;refine Z 5 0 ?_;refine ci h rfl (fun h=>Y) (fun h=>?_);refine Z 5 0 ?_;refine Rn.k (v:=.cref (Qb s1)) tv rfl rfl rfl ?_;refine Z 2 0 ?_;refine Rn.blit (xs:=[(Q4 s1.start_)]) (l:=List.map Qbe [s1.start_]) tv rfl rfl rfl rfl ?_;refine cl (Hcr _ _) h (cq fun x6 h=>?_);refine Rn.buildT (v:=.agg [(i_ 0),(Qz x6)]) tv rfl ?_;refine Z 5 0 ?_;refine Rn.mkmap tv rfl (fun (x:ByteArray)=>(.d (.str x):V)) (fun (x:Int)=>((i_ x):V)) ?_;refine Z 1 0 ?_;refine Rn.k (v:=.ptr (Γ.n0+35) 0) tv rfl rfl rfl ?_;refine Z 1 0 ?_;refine cl (Hcc _) h (cq fun x8 h=>?_);refine Rn.mapset (ek:=(fun (x:ByteArray)=>(.d (.str x):V))) (ev:=(fun (x:Int)=>((i_ x):V))) (m:=([]:List (ByteArray×Int))) (k:=x8) (v:=0) (fun _ _=>rfl) (fun _=>rfl) (fun _=>rfl) tv rfl rfl rfl rfl rfl ?_;refine Z 9 0 ?_;refine Tr.weak (by show WeakSt Γ _ ⟨look ((5,.own 2 (List.map Qor [(Qbg.mk 0 x6)]))::[(0,.cref (Qb s1)),(1,.ptr (Γ.n0+1) 0),(2,.ptr (Γ.n0+2) 0),(3,(i_ 0)),(4,.ptr (Γ.n0+4) 0),(6,.mp (Γ.n0+36)),(7,(i_ 0)),(14,.cref (Qb s1)),(15,.cref (Qb s1)),(16,.cref (List.drop 14 (Qb s1))),(17,(l_ s1.events_)),(18,(l_ x3)),(19,.agg [(l_ x3),(i_ 0),.nils 1,.nils 3]),(20,.cref (Qb s1)),(21,.cref (Qb s1)),(22,.cref (List.drop 20 (Qb s1))),(23,.cref (List.drop 21 (Qb s1))),(24,(i_ s1.start_.language_)),(25,(b_ (decide (s1.start_.language_<0)))),(27,.cref (Qb s1)),(28,.cref (Qb s1)),(29,.cref (Qb s1)),(30,.cref (List.drop 20 (Qb s1))),(31,(Q4 s1.start_)),(32,.d (.lst 2 (List.map Qbe [s1.start_]))),(33,(Qz x6)),(34,.agg [(i_ 0),(Qz x6)]),(36,.mp (Γ.n0+36)),(39,.agg [(i_ 0),(Qz x6)]),(40,.d (.str x8)),(41,.mp (Γ.n0+36))] ),Qn Γ.n0 (bxs [(1,.cells ([.cref (Qb s1)])),(2,.cells ([.nils 1,(i_ 0),.nils 1,.nils 3])),(4,.cells ([(o_ x3),(i_ 0),.nils 1,.nils 3])),(36,.mp (mapE (fun (x:ByteArray)=>(.d (.str x):V)) (fun (x:Int)=>((i_ x):V)) 0 (setM ([]:List (ByteArray×Int)) x8 0)) ((setM ([]:List (ByteArray×Int)) x8 0)).length)]) M,Γ.n0+154⟩;exact Qp8 35 5 [.int .i64 0,.lst 2 (List.map Qbe x6)] rfl rfl rfl rfl rfl ⟨sq,(kPtr rfl),(kPtr rfl),sq,(kPtr rfl),(kMp rfl),sq,sq,sq,sq,sq,sq,sq,sq,sq,sq,sq,sq,sq,sq,sq,sq,sq,sq,sq,sq,sq,(kMp rfl),sq,sq,(kMp rfl),tv⟩ ⟨bS rfl rfl rfl,bS rfl rfl rfl,bS rfl rfl rfl,⟨rfl,rfl⟩,tv⟩ rfl) ?_;refine lo h (fun (l9,i10,c11,c12,c13,a14,a15,c16)=>⟨look [(1,.ptr (Γ.n0+1) 0),(2,.ptr (Γ.n0+2) 0),(4,.ptr (Γ.n0+4) 0),(5,(Qdn l9)),(6,.mp (Γ.n0+36)),(7,(i_ i10))],Qn Γ.n0 (bxs [(1,.cells ([.cref (Qb s1)])),(2,.cells ([(o_ c11),(i_ 0),(o_ c12),(Qu c13)])),(4,.cells ([(o_ x3),(i_ 0),(o_ a14),(Qu a15)])),(36,.mp (mapE (fun (x:ByteArray)=>(.d (.str x):V)) (fun (x:Int)=>((i_ x):V)) 0 c16) (c16).length)]) M,Γ.n0+154⟩) wk (fun _ ⟨l9,i10,c11,c12,c13,a14,a15,c16⟩ h=>?_);refine Z 8 0 ?_;refine ci h rfl (fun h=>?_) (fun h=>?_)
 ·refine Z 13 1 ?_;intro x19 h;refine cu h (fun (l75,a76,c77)=>⟨look [(1,.ptr (Γ.n0+1) 0),(2,.ptr (Γ.n0+2) 0),(4,.ptr (Γ.n0+4) 0),(5,(Qdn l75)),(6,.mp (Γ.n0+36)),(7,(i_ i10))],Qn Γ.n0 (bxs [(1,.cells ([.cref (Qb s1)])),(2,.cells ([(o_ c11),(i_ 0),(o_ c12),(Qu c13)])),(4,.cells ([(o_ x3),(i_ 0),(o_ x19),(Qu a76)])),(36,.mp (mapE (fun (x:ByteArray)=>(.d (.str x):V)) (fun (x:Int)=>((i_ x):V)) 0 c77) (c77).length),(51,.cells ([(i_ i10)]))]) M,Γ.n0+154⟩) (fun _ h=>?_) (fun ⟨l75,a76,c77⟩ h=>?_)
  ·refine Z 3 0 ?_;refine Rn.k (v:=.cref (Qb s1)) tv rfl rfl rfl ?_;refine Z 6 0 ?_;refine lo h (fun (l21,x22,a23,c24)=>⟨look [(1,.ptr (Γ.n0+1) 0),(2,.ptr (Γ.n0+2) 0),(4,.ptr (Γ.n0+4) 0),(5,(Qdn l21)),(6,.mp (Γ.n0+36)),(7,(i_ i10)),(57,(l_ s1.events_)),(58,(i_ (s1.events_.length:Int))),(59,(i_ x22))],Qn Γ.n0 (bxs [(1,.cells ([.cref (Qb s1)])),(2,.cells ([(o_ c11),(i_ 0),(o_ c12),(Qu c13)])),(4,.cells ([(o_ x3),(i_ 0),(o_ x19),(Qu a23)])),(36,.mp (mapE (fun (x:ByteArray)=>(.d (.str x):V)) (fun (x:Int)=>((i_ x):V)) 0 c24) (c24).length),(51,.cells ([(i_ i10)]))]) M,Γ.n0+154⟩) wk (fun _ ⟨l21,x22,a23,c24⟩ h=>?_);refine Z 5 0 ?_;refine ci h rfl (fun h=>?_) (fun h=>Y);refine Tr.skip ?_;refine cu h (fun (l69,a70,c71,ev72,y73,y74)=>⟨look [(1,.ptr (Γ.n0+1) 0),(2,.ptr (Γ.n0+2) 0),(4,.ptr (Γ.n0+4) 0),(5,(Qdn l69)),(6,.mp (Γ.n0+36)),(7,(i_ i10)),(57,(l_ s1.events_)),(58,(i_ (s1.events_.length:Int))),(59,(i_ x22))],Qn Γ.n0 (bxs [(1,.cells ([.cref (Qb s1)])),(2,.cells ([(o_ c11),(i_ 0),(o_ c12),(Qu c13)])),(4,.cells ([(o_ x3),(i_ 0),(o_ x19),(Qu a70)])),(9,.cells ([(i_ ev72)])),(10,.cells ([(i_ y73),(Qz y74)])),(36,.mp (mapE (fun (x:ByteArray)=>(.d (.str x):V)) (fun (x:Int)=>((i_ x):V)) 0 c71) (c71).length),(51,.cells ([(i_ i10)]))]) M,Γ.n0+154⟩) (fun _ h=>?_) (fun ⟨l69,a70,c71,ev72,y73,y74⟩ h=>Y);refine Z 11 1 ?_;intro x27 h;refine Rn.k (v:=.cref (Qb s1)) tv rfl rfl rfl ?_;refine Z 8 1 ?_;intro _ h;refine cl (Hce _ _ _) h (cq fun x32 h=>?_);refine Z 5 1 ?_;intro x33 h;refine Rn.buildT (v:=.agg [(i_ x32),(Qz x33.places_)]) tv rfl ?_;refine Z 3 0 ?_;refine cu h (fun tv45=>⟨look [(1,.ptr (Γ.n0+1) 0),(2,.ptr (Γ.n0+2) 0),(4,.ptr (Γ.n0+4) 0),(5,(Qdn l21)),(6,.mp (Γ.n0+36)),(7,(i_ i10)),(9,.ptr (Γ.n0+9) 0),(10,.ptr (Γ.n0+10) 0),(11,(b_ tv45)),(57,(l_ s1.events_)),(58,(i_ (s1.events_.length:Int))),(59,(i_ x22))],Qn Γ.n0 (bxs [(1,.cells ([.cref (Qb s1)])),(2,.cells ([(o_ c11),(i_ 0),(o_ c12),(Qu c13)])),(4,.cells ([(o_ x3),(i_ 0),(o_ x19),(Qu a23)])),(9,.cells ([(i_ x27)])),(10,.cells ([(i_ x32),(Qz x33.places_)])),(36,.mp (mapE (fun (x:ByteArray)=>(.d (.str x):V)) (fun (x:Int)=>((i_ x):V)) 0 c24) (c24).length),(51,.cells ([(i_ i10)]))]) M,Γ.n0+154⟩) (fun _ h=>?_) (fun tv45 h=>?_)
   ·refine Z 2 0 ?_;refine Rn.k (v:=.cref (Qb s1)) tv rfl rfl rfl ?_;refine Z 4 0 ?_;refine cl (Hda _ _) h (cq fun _ h=>?_);refine Z 1 0 ?_;refine bs h (fun hb37 h=>?_) (fun hb37 h=>Y);refine Z 5 1 ?_;intro _ h;refine Rn.k (v:=.clo 113 [.ptr (Γ.n0+1) 0,.ptr (Γ.n0+9) 0]) (gw rfl hb37) rfl rfl rfl ?_;refine cm h (fun _ h43 M2 nb2 hn hx=>Hcz _ _ 113 [.ptr (Γ.n0+1) 0,.ptr (Γ.n0+9) 0] _ h43 M2 nb2 rfl ⟨Qtb (hx _ _ (Qdv rfl)),Qtb (hx _ _ (Qdv rfl)),tv⟩ (fun a40 r41 h42 M3 nb3 hn3 hx3=>Hcm a40 s1 x27 (Γ.n0+1) (Γ.n0+9) r41 h42 M3 nb3 ((hx.trans hx3) _ _ (Qdv rfl)) ((hx.trans hx3) _ _ (Qdv rfl)))) rfl (cq fun _ h=>?_);exact Y
   ·refine Tr.seq ?_;refine cu h (fun x47=>⟨look [(1,.ptr (Γ.n0+1) 0),(2,.ptr (Γ.n0+2) 0),(4,.ptr (Γ.n0+4) 0),(5,(Qdn l21)),(6,.mp (Γ.n0+36)),(7,(i_ i10)),(9,.ptr (Γ.n0+9) 0),(10,.ptr (Γ.n0+10) 0),(57,(l_ s1.events_)),(58,(i_ (s1.events_.length:Int))),(59,(i_ x22)),(101,(b_ x47))],Qn Γ.n0 (bxs [(1,.cells ([.cref (Qb s1)])),(2,.cells ([(o_ c11),(i_ 0),(o_ c12),(Qu c13)])),(4,.cells ([(o_ x3),(i_ 0),(o_ x19),(Qu a23)])),(9,.cells ([(i_ x27)])),(10,.cells ([(i_ x32),(Qz x33.places_)])),(36,.mp (mapE (fun (x:ByteArray)=>(.d (.str x):V)) (fun (x:Int)=>((i_ x):V)) 0 c24) (c24).length),(51,.cells ([(i_ i10)]))]) M,Γ.n0+154⟩) (fun _ h=>?_) (fun x47 h=>?_)
    ·refine Z 5 0 ?_;exact bi h (fun _ h=>Y) (fun _ h=>Y)
    ·refine cd h rfl (fun h=>Y) (fun h=>?_);refine Tr.skip ?_;refine cu h (fun y56=>⟨look [(1,.ptr (Γ.n0+1) 0),(2,.ptr (Γ.n0+2) 0),(4,.ptr (Γ.n0+4) 0),(5,(Qdn l21)),(6,.mp (Γ.n0+36)),(7,(i_ i10)),(9,.ptr (Γ.n0+9) 0),(10,.ptr (Γ.n0+10) 0),(57,(l_ s1.events_)),(58,(i_ (s1.events_.length:Int))),(59,(i_ x22))],Qn Γ.n0 (bxs [(1,.cells ([.cref (Qb s1)])),(2,.cells ([(o_ c11),(i_ 0),(o_ c12),(Qu c13)])),(4,.cells ([(o_ x3),(i_ 0),(o_ x19),(Qu a23)])),(9,.cells ([(i_ x27)])),(10,.cells ([(i_ x32),(Qz y56)])),(36,.mp (mapE (fun (x:ByteArray)=>(.d (.str x):V)) (fun (x:Int)=>((i_ x):V)) 0 c24) (c24).length),(51,.cells ([(i_ i10)]))]) M,Γ.n0+154⟩) (fun _ h=>?_) (fun y56 h=>?_)
     ·refine Z 4 0 ?_;refine cl (Hcq _ _) h (cq fun _ h=>?_);refine Z 1 0 ?_;refine cd h rfl (fun h=>?_) (fun h=>Y);refine Z 8 1 ?_;intro _ h;refine cl (Hcg _ _ _) h (cq fun _ h=>?_);exact Y
     ·refine Z 4 0 ?_;refine cl (Hcc _) h (cq fun x58 h=>?_);refine Rn.lookupC (ek:=(fun (x:ByteArray)=>(.d (.str x):V))) (ev:=(fun (x:Int)=>((i_ x):V))) (m:=c24) (k:=x58) (fun _ _=>rfl) (fun _=>rfl) (fun _=>rfl) 0 rfl tv rfl rfl rfl ?_;refine Z 6 0 ?_;refine cu h (fun (l64,to65,c66)=>⟨look [(1,.ptr (Γ.n0+1) 0),(2,.ptr (Γ.n0+2) 0),(4,.ptr (Γ.n0+4) 0),(5,(Qdn l64)),(6,.mp (Γ.n0+36)),(7,(i_ i10)),(9,.ptr (Γ.n0+9) 0),(12,(i_ to65)),(57,(l_ s1.events_)),(58,(i_ (s1.events_.length:Int))),(59,(i_ x22))],Qn Γ.n0 (bxs [(1,.cells ([.cref (Qb s1)])),(2,.cells ([(o_ c11),(i_ 0),(o_ c12),(Qu c13)])),(4,.cells ([(o_ x3),(i_ 0),(o_ x19),(Qu a23)])),(9,.cells ([(i_ x27)])),(10,.cells ([(i_ x32),(Qz y56)])),(36,.mp (mapE (fun (x:ByteArray)=>(.d (.str x):V)) (fun (x:Int)=>((i_ x):V)) 0 c66) (c66).length),(51,.cells ([(i_ i10)]))]) M,Γ.n0+154⟩) (fun _ h=>?_) (fun ⟨l64,to65,c66⟩ h=>Y);refine Z 5 0 ?_;refine Tr.cond rfl (fun hb59=>?_) (fun hb59=>?_)
      ·have hb59:=nT' hb59;replace h:=bF hb59 h;refine Z 10 0 ?_;refine cl (Hcc _) h (cq fun x61 h=>?_);refine Z 1 0 ?_;refine Rn.mapset (ek:=(fun (x:ByteArray)=>(.d (.str x):V))) (ev:=(fun (x:Int)=>((i_ x):V))) (m:=c24) (k:=x61) (v:=(l21.length:Int)) (fun _ _=>rfl) (fun _=>rfl) (fun _=>rfl) tv rfl rfl rfl rfl rfl ?_;exact Y
      ·have hb59:=nF' hb59;replace h:=bT hb59 h;exact Y
  ·refine Z 6 0 ?_;exact ci h rfl (fun h=>Y) (fun h=>Y)
 ·refine Z 11 0 ?_;refine cl (Hat _) h (cq fun ⟨_,_⟩ h=>?_);exact Y
theorem Qtv {P:Program} {c:Nat} (hcf:Qo P c=some Qo3) (fuel:Nat):Qhn P c (Qbt fuel):=by
 intro s1 s2 r h;refine Qbq hcf rfl fun Γ M hP hnt hM=>?_;subst hP;refine ini ?_;refine Z 13 0 ?_;refine cd h rfl (fun h=>Y) (fun h=>?_);refine Z 9 0 ?_;refine lw h [0,1,12] [] (fun x4 e=>(13,(i_ x4))::e) (fun _ l=>l) ke wk (fun _ x4 h=>?_);refine Z 5 0 ?_;refine ci h rfl (fun h=>?_) (fun h=>Y);refine Z 20 1 ?_;intro _ _ h;exact cd h rfl (fun h=>Y) (fun h=>Y)
theorem Qsk {P:Program} {c:Nat} (hcf:Qo P c=some Qnn) (fuel:Nat):Qja P c (Qdz fuel):=by
 intro s1 s2 r h;refine Qbq hcf rfl fun Γ M hP hnt hM=>?_;subst hP;refine ini ?_;refine Z 13 0 ?_;refine cd h rfl (fun h=>Y) (fun h=>?_);refine Z 9 0 ?_;refine lw h [0,1,12] [] (fun x4 e=>(13,(i_ x4))::e) (fun _ l=>l) ke wk (fun _ x4 h=>?_);refine Z 5 0 ?_;refine ci h rfl (fun h=>?_) (fun h=>Y);refine Z 18 1 ?_;intro x7 x9 h;refine Rn.eqa (r:=((x7.From==x9.From)&&((x7.Event==x9.Event)&&((x7.To==x9.To)&&true)))) tv rfl rfl rfl ?_;refine Z 1 0 ?_;refine Tr.cond rfl (fun hb11=>?_) (fun hb11=>?_)
 ·have hb11:=nT' hb11;replace h:=bF hb11 h;exact Y
 ·have hb11:=nF' hb11;replace h:=bT hb11 h;exact Y
theorem Qu0 {P:Program} {c:Nat} {Qbt:_} {Qdz:_}
    (Hdc:Qhn P 109 Qbt)
    (Hdb:Qja P 115 Qdz) (hcf:Qo P c=some Qqk):Qk1 P c (Qel Qbt Qdz):=by
 intro a1 b2 r h;refine Qbq hcf rfl fun Γ M hP hnt hM=>?_;subst hP;refine ini ?_;refine Z 14 0 ?_;refine bs h (fun _ h=>?_) (fun _ h=>Y);refine Z 4 0 ?_;refine cl (Hdc _ _) h (cq fun _ h=>?_);refine Z 2 0 ?_;refine bs h (fun _ h=>?_) (fun _ h=>Y);refine Z 4 0 ?_;refine cl (Hdc _ _) h (cq fun _ h=>?_);refine Z 2 0 ?_;refine bs h (fun _ h=>?_) (fun _ h=>Y);refine Z 4 0 ?_;refine cl (Hdb _ _) h (cq fun _ h=>?_);exact Y
theorem Qsl {P:Program} {c:Nat} {Qv:_} {Qbi:_} {Qel:_}
    (Hcb:Qfd P 51 Qv)
    (Hcl:Qfq P 66 Qbi)
    (Hak:Qk1 P 67 Qel) (hcf:Qo P c=some Qno) (fuel:Nat):Qgz P c (Qbo Qv Qbi Qel fuel):=by
 intro p1 r h;refine Qbq hcf rfl fun Γ M hP hnt hM=>?_;subst hP;refine ini ?_;refine Z 10 0 ?_;obtain ⟨⟨r2,ok3,r6,r7⟩,h4,h⟩:=bnd h;refine bs h (fun hb5 h=>?_) (fun hb5 h=>?_)
 ·refine Rn.call (args:=[(Qr p1)]) tv rfl (crT hb5 (Hcb _ _ h4)) pc9 ?_;refine Z 14 0 ?_;refine cd h rfl (fun h=>Y) (fun h=>?_);refine Z 2 0 ?_;refine lw h [1,2] [] (fun (rv9,s10,p11,p12,p13,p14,a15,a16,a17,a18) e=>(3,(i_ rv9))::(5,.cref (Qb s10))::e) (fun (rv9,s10,p11,p12,p13,p14,a15,a16,a17,a18) l=>(1,.cells ([(l_ p1.Plant.zB),(i_ p1.Plant.zF),(l_ p1.Plant.zC),(Qj p1.Plant.zD),(l_ p1.Ambient.zB),(i_ p1.Ambient.zF),(l_ p1.Ambient.zC),(Qj p1.Ambient.zD),(l_ p11),(i_ p12),(l_ p13),(Qj p14),(l_ p1.Observable),(l_ p1.Controllable)]))::(2,.cells ([(l_ a15),(i_ a16),(l_ a17),(Qj a18)]))::l) ke wk (fun _ ⟨rv9,s10,p11,p12,p13,p14,a15,a16,a17,a18⟩ h=>?_);refine Z 4 0 ?_;refine cl (Hcl _) h (cq fun ⟨r21,_⟩ h=>?_);refine Z 13 0 ?_;refine cd h rfl (fun h=>Y) (fun h=>?_);refine Z 6 0 ?_;refine cl (Hak _ _) h (cq fun _ h=>?_);refine Z 1 0 ?_;refine cd h rfl (fun h=>Y) (fun h=>?_);refine Z 13 0 ?_;refine ci h rfl (fun h=>Y) (fun h=>?_);refine Z 10 0 ?_;obtain ⟨⟨r28,ok29,r32,r33⟩,h30,h⟩:=bnd h;refine bs h (fun hb31 h=>?_) (fun hb31 h=>?_)
  ·refine Rn.call (args:=[.agg [(l_ p1.Plant.zB),(i_ p1.Plant.zF),(l_ p1.Plant.zC),(Qj p1.Plant.zD),(l_ p1.Ambient.zB),(i_ p1.Ambient.zF),(l_ p1.Ambient.zC),(Qj p1.Ambient.zD),(l_ r21.zB),(i_ r21.zF),(l_ r21.zC),(Qj r21.zD),(l_ p1.Observable),(l_ p1.Controllable)]]) tv rfl (crT hb31 (Hcb _ _ h30)) pc9 ?_;refine Z 13 0 ?_;exact cd h rfl (fun h=>Y) (fun h=>Y)
  ·refine Rn.call (args:=[.agg [(l_ p1.Plant.zB),(i_ p1.Plant.zF),(l_ p1.Plant.zC),(Qj p1.Plant.zD),(l_ p1.Ambient.zB),(i_ p1.Ambient.zF),(l_ p1.Ambient.zC),(Qj p1.Ambient.zD),(l_ r21.zB),(i_ r21.zF),(l_ r21.zC),(Qj r21.zD),(l_ p1.Observable),(l_ p1.Controllable)]]) tv rfl (crF hb31 (Hcb _ _ h30)) pc9 ?_;refine Z 13 0 ?_;refine cd h rfl (fun h=>Y) (fun h=>?_);refine Tr.skip ?_;cases h
 ·refine Rn.call (args:=[(Qr p1)]) tv rfl (crF hb5 (Hcb _ _ h4)) pc9 ?_;refine Z 14 0 ?_;refine cd h rfl (fun h=>Y) (fun h=>?_);refine Z 2 0 ?_;refine lw h [1,2,5] [1,2] (fun rv37 e=>(3,(i_ rv37))::e) (fun _ l=>l) ke wk (fun _ rv37 h=>?_);refine Z 4 0 ?_;cases h
theorem Qnx {P:Program} {c:Nat} (hcf:Qo P c=some Qjl) (fuel:Nat):Qgm P c (Qb6 fuel):=by
 intro a1 b2 r h;refine Qbq hcf rfl fun Γ M hP hnt hM=>?_;subst hP;refine ini ?_;refine Z 13 0 ?_;refine cd h rfl (fun h=>Y) (fun h=>?_);refine Z 7 0 ?_;refine lw h [0,1] [] (fun i4 e=>(5,(i_ i4))::e) (fun _ l=>l) ke wk (fun _ i4 h=>?_);refine Z 8 0 ?_;refine ci h rfl (fun h=>?_) (fun h=>Y);refine Z 15 1 ?_;intro _ _ h;exact cd h rfl (fun h=>Y) (fun h=>Y)
theorem Qqp {P:Program} {c:Nat} {Qb1:_} {Qbo:_} {Qb6:_} {Qdk:_}
    (Hbu:Qi0 P 23 Qb1)
    (Hby:Qgz P 26 Qbo)
    (Hbh:Qgm P 28 Qb6)
    (Hbd:Qig P 39 Qdk) (hcf:Qo P c=some Qll):Qh0 P c (Qcd Qb1 Qbo Qb6 Qdk):=by
 intro  r h;refine Qbq hcf rfl fun Γ M hP hnt hM=>?_;subst hP;refine ini ?_;refine Z 6 0 ?_;refine cl Hbd h (cq fun x2 h=>?_);refine Z 6 0 ?_;obtain ⟨⟨r4,r5,r6⟩,h3,h⟩:=bnd h;refine Rn.call (args:=[.agg [(l_ x2.Plant.zB),(i_ x2.Plant.zF),.nils 1,(Qj x2.Plant.zD),.nils 1,(i_ x2.Ambient.zF),.nils 1,.nils 3,(l_ x2.Requirement.zB),(i_ x2.Requirement.zF),.nils 1,(Qj x2.Requirement.zD),(l_ x2.Observable),(l_ x2.Controllable)]]) tv rfl (fun M2 nb2=>ACalls.weak (args':=[.agg [(l_ x2.Plant.zB),(i_ x2.Plant.zF),(l_ []),(Qj x2.Plant.zD),(l_ []),(i_ x2.Ambient.zF),(l_ []),.d (.lst 3 (List.map Ql [])),(l_ x2.Requirement.zB),(i_ x2.Requirement.zF),(l_ []),(Qj x2.Requirement.zD),(l_ x2.Observable),(l_ x2.Controllable)]]) (Hbu _ _ h3 M2 nb2) (.cons (WkV.agg (cS rfl (cS rfl (.cons (WkV.nilsD _) (cS rfl (.cons (WkV.nilsD _) (cS rfl (.cons (WkV.nilsD _) (.cons (WkV.nilsD _) (cS rfl (cS rfl (.cons (WkV.nilsD _) (cS rfl (cS rfl (cS rfl .nil))))))))))))))) .nil) rfl) pc9 ?_;refine Z 12 0 ?_;obtain ⟨⟨r8,r9,r10⟩,h7,h⟩:=bnd h;refine Rn.call (args:=[.agg [(l_ x2.Plant.zB),(i_ x2.Plant.zF),.nils 1,(Qj x2.Plant.zD),.nils 1,(i_ x2.Ambient.zF),.nils 1,.nils 3,(l_ x2.Requirement.zB),(i_ x2.Requirement.zF),.nils 1,(Qj x2.Requirement.zD),(l_ x2.Observable),(l_ x2.Controllable)]]) tv rfl (fun M2 nb2=>ACalls.weak (args':=[.agg [(l_ x2.Plant.zB),(i_ x2.Plant.zF),(l_ []),(Qj x2.Plant.zD),(l_ []),(i_ x2.Ambient.zF),(l_ []),.d (.lst 3 (List.map Ql [])),(l_ x2.Requirement.zB),(i_ x2.Requirement.zF),(l_ []),(Qj x2.Requirement.zD),(l_ x2.Observable),(l_ x2.Controllable)]]) (Hby _ _ h7 M2 nb2) (.cons (WkV.agg (cS rfl (cS rfl (.cons (WkV.nilsD _) (cS rfl (.cons (WkV.nilsD _) (cS rfl (.cons (WkV.nilsD _) (.cons (WkV.nilsD _) (cS rfl (cS rfl (.cons (WkV.nilsD _) (cS rfl (cS rfl (cS rfl .nil))))))))))))))) .nil) rfl) pc9 ?_;refine Z 19 0 ?_;refine Rn.weak (by show WeakSt Γ _ ⟨look [(0,(b_ false)),(1,.ptr (Γ.n0+1) 0),(2,.ptr (Γ.n0+2) 0),(3,(b_ r5)),(4,(i_ r6)),(5,.ptr (Γ.n0+5) 0),(6,(i_ r9)),(7,(i_ r10)),(11,.agg [(l_ x2.Plant.zB),(i_ x2.Plant.zF),.nils 1,(Qj x2.Plant.zD),.nils 1,(i_ x2.Ambient.zF),.nils 1,.nils 3,(l_ x2.Requirement.zB),(i_ x2.Requirement.zF),.nils 1,(Qj x2.Requirement.zD),(l_ x2.Observable),(l_ x2.Controllable)]),(12,.tup [(Q8 r4),(b_ r5),(i_ r6)]),(13,.agg [(l_ x2.Plant.zB),(i_ x2.Plant.zF),.nils 1,(Qj x2.Plant.zD),.nils 1,(i_ x2.Ambient.zF),.nils 1,.nils 3,(l_ x2.Requirement.zB),(i_ x2.Requirement.zF),.nils 1,(Qj x2.Requirement.zD),(l_ x2.Observable),(l_ x2.Controllable)]),(14,.tup [(Q8 r4),(b_ r5),(i_ r6)]),(15,(Q8 r4)),(16,(b_ r5)),(17,(i_ r6)),(18,.tup [(Qg r8),(i_ r9),(i_ r10)]),(19,.agg [(l_ x2.Plant.zB),(i_ x2.Plant.zF),.nils 1,(Qj x2.Plant.zD),.nils 1,(i_ x2.Ambient.zF),.nils 1,.nils 3,(l_ x2.Requirement.zB),(i_ x2.Requirement.zF),.nils 1,(Qj x2.Requirement.zD),(l_ x2.Observable),(l_ x2.Controllable)]),(20,.tup [(Qg r8),(i_ r9),(i_ r10)]),(21,(Qg r8)),(22,(i_ r9)),(23,(i_ r10)),(24,(l_ [1])),(25,.ptr (Γ.n0+1) 4),(26,.ptr (Γ.n0+1) 4),(28,.agg [(l_ x2.Plant.zB),(i_ x2.Plant.zF),.nils 1,(Qj x2.Plant.zD),(l_ [1]),(i_ x2.Ambient.zF),.nils 1,.nils 3,(l_ x2.Requirement.zB),(i_ x2.Requirement.zF),.nils 1,(Qj x2.Requirement.zD),(l_ x2.Observable),(l_ x2.Controllable)])],Qn Γ.n0 (bxs [(1,.cells ([(l_ x2.Plant.zB),(i_ x2.Plant.zF),.nils 1,(Qj x2.Plant.zD),(l_ [1]),(i_ x2.Ambient.zF),.nils 1,.nils 3,(l_ x2.Requirement.zB),(i_ x2.Requirement.zF),.nils 1,(Qj x2.Requirement.zD),(l_ x2.Observable),(l_ x2.Controllable)])),(2,.cells ((Qez r4))),(5,.cells ((Qq r8)))]) M,Γ.n0+82⟩;exact Qb7 24 [.int .i64 1] rfl rfl ⟨sq,(fPtr rfl),(fPtr rfl),sq,sq,(fPtr rfl),sq,sq,sq,sq,sq,sq,sq,sq,sq,sq,sq,sq,sq,sq,sq,(fSl rfl rfl),(fPtr rfl),(fPtr rfl),(WkV.agg (cS rfl (cS rfl (cS rfl (cS rfl (.cons (fSl rfl rfl) (cS rfl (cS rfl (cS rfl (cS rfl (cS rfl (cS rfl (cS rfl (cS rfl (cS rfl .nil))))))))))))))),tv⟩ ⟨⟨_,rfl,rfl,(cS rfl (cS rfl (cS rfl (cS rfl (.cons (fSl rfl rfl) (cS rfl (cS rfl (cS rfl (cS rfl (cS rfl (cS rfl (cS rfl (cS rfl (cS rfl .nil))))))))))))))⟩,bS rfl rfl rfl,bS rfl rfl rfl,tv⟩ rfl) ?_;obtain ⟨⟨r12,r13,r14⟩,h11,h⟩:=bnd h;refine Rn.call (args:=[.agg [(l_ x2.Plant.zB),(i_ x2.Plant.zF),.nils 1,(Qj x2.Plant.zD),(l_ [1]),(i_ x2.Ambient.zF),.nils 1,.nils 3,(l_ x2.Requirement.zB),(i_ x2.Requirement.zF),.nils 1,(Qj x2.Requirement.zD),(l_ x2.Observable),(l_ x2.Controllable)]]) tv rfl (fun M2 nb2=>ACalls.weak (args':=[.agg [(l_ x2.Plant.zB),(i_ x2.Plant.zF),(l_ []),(Qj x2.Plant.zD),(l_ [1]),(i_ x2.Ambient.zF),(l_ []),.d (.lst 3 (List.map Ql [])),(l_ x2.Requirement.zB),(i_ x2.Requirement.zF),(l_ []),(Qj x2.Requirement.zD),(l_ x2.Observable),(l_ x2.Controllable)]]) (Hbu _ _ h11 M2 nb2) (.cons (WkV.agg (cS rfl (cS rfl (.cons (WkV.nilsD _) (cS rfl (cS rfl (cS rfl (.cons (WkV.nilsD _) (.cons (WkV.nilsD _) (cS rfl (cS rfl (.cons (WkV.nilsD _) (cS rfl (cS rfl (cS rfl .nil))))))))))))))) .nil) rfl) pc9 ?_;refine Z 9 0 ?_;refine cw h [] [1,2,5,8] (fun x29 e=>(0,(b_ x29))::e) (fun _ l=>l) ke (fun _ h=>?_) (fun x29 h=>Y);refine Z 4 0 ?_;refine bs h (fun _ h=>?_) (fun _ h=>Y);refine Z 4 0 ?_;refine bs h (fun _ h=>Y) (fun _ h=>?_);refine Z 3 0 ?_;refine Rn.weak (by show WeakSt Γ _ ⟨look [(0,(b_ false)),(1,.ptr (Γ.n0+1) 0),(2,.ptr (Γ.n0+2) 0),(3,(b_ r5)),(4,(i_ r6)),(5,.ptr (Γ.n0+5) 0),(6,(i_ r9)),(7,(i_ r10)),(8,.ptr (Γ.n0+8) 0),(9,(b_ r13)),(10,(i_ r14)),(11,.agg [(l_ x2.Plant.zB),(i_ x2.Plant.zF),.nils 1,(Qj x2.Plant.zD),.nils 1,(i_ x2.Ambient.zF),.nils 1,.nils 3,(l_ x2.Requirement.zB),(i_ x2.Requirement.zF),.nils 1,(Qj x2.Requirement.zD),(l_ x2.Observable),(l_ x2.Controllable)]),(12,.tup [(Q8 r4),(b_ r5),(i_ r6)]),(13,.agg [(l_ x2.Plant.zB),(i_ x2.Plant.zF),.nils 1,(Qj x2.Plant.zD),.nils 1,(i_ x2.Ambient.zF),.nils 1,.nils 3,(l_ x2.Requirement.zB),(i_ x2.Requirement.zF),.nils 1,(Qj x2.Requirement.zD),(l_ x2.Observable),(l_ x2.Controllable)]),(14,.tup [(Q8 r4),(b_ r5),(i_ r6)]),(15,(Q8 r4)),(16,(b_ r5)),(17,(i_ r6)),(18,.tup [(Qg r8),(i_ r9),(i_ r10)]),(19,.agg [(l_ x2.Plant.zB),(i_ x2.Plant.zF),.nils 1,(Qj x2.Plant.zD),.nils 1,(i_ x2.Ambient.zF),.nils 1,.nils 3,(l_ x2.Requirement.zB),(i_ x2.Requirement.zF),.nils 1,(Qj x2.Requirement.zD),(l_ x2.Observable),(l_ x2.Controllable)]),(20,.tup [(Qg r8),(i_ r9),(i_ r10)]),(21,(Qg r8)),(22,(i_ r9)),(23,(i_ r10)),(24,(l_ [1])),(25,.ptr (Γ.n0+1) 4),(26,.ptr (Γ.n0+1) 4),(27,.tup [(Q8 r12),(b_ r13),(i_ r14)]),(28,.agg [(l_ x2.Plant.zB),(i_ x2.Plant.zF),.nils 1,(Qj x2.Plant.zD),(l_ [1]),(i_ x2.Ambient.zF),.nils 1,.nils 3,(l_ x2.Requirement.zB),(i_ x2.Requirement.zF),.nils 1,(Qj x2.Requirement.zD),(l_ x2.Observable),(l_ x2.Controllable)]),(29,.tup [(Q8 r12),(b_ r13),(i_ r14)]),(30,(Q8 r12)),(31,(b_ r13)),(32,(i_ r14)),(33,(i_ r6)),(34,(b_ (r6==0))),(35,(b_ (r6==0))),(36,(b_ r5)),(37,(b_ (!r5))),(38,(b_ (!r5))),(39,(b_ (!r5))),(40,.ptr (Γ.n0+2) 0),(41,(l_ r4.Word)),(42,(l_ [0]))],Qn Γ.n0 (bxs [(1,.cells ([(l_ x2.Plant.zB),(i_ x2.Plant.zF),.nils 1,(Qj x2.Plant.zD),(l_ [1]),(i_ x2.Ambient.zF),.nils 1,.nils 3,(l_ x2.Requirement.zB),(i_ x2.Requirement.zF),.nils 1,(Qj x2.Requirement.zD),(l_ x2.Observable),(l_ x2.Controllable)])),(2,.cells ((Qez r4))),(5,.cells ((Qq r8))),(8,.cells ((Qez r12)))]) M,Γ.n0+82⟩;exact Qb7 42 [.int .i64 0] rfl rfl ⟨sq,(fPtr rfl),(fPtr rfl),sq,sq,(fPtr rfl),sq,sq,(fPtr rfl),sq,sq,sq,sq,sq,sq,sq,sq,sq,sq,sq,sq,sq,sq,sq,sq,(fPtr rfl),(fPtr rfl),sq,sq,sq,sq,sq,sq,sq,sq,sq,sq,sq,sq,sq,(fPtr rfl),sq,(fSl rfl rfl),tv⟩ ⟨bS rfl rfl rfl,bS rfl rfl rfl,bS rfl rfl rfl,bS rfl rfl rfl,tv⟩ rfl) ?_;refine cl (Hbh _ _) h (cq fun x18 h=>?_);refine Z 2 0 ?_;refine bs h (fun _ h=>?_) (fun _ h=>Y);refine Z 3 0 ?_;refine Rn.weak (by show WeakSt Γ _ ⟨look [(0,(b_ false)),(1,.ptr (Γ.n0+1) 0),(2,.ptr (Γ.n0+2) 0),(3,(b_ r5)),(4,(i_ r6)),(5,.ptr (Γ.n0+5) 0),(6,(i_ r9)),(7,(i_ r10)),(8,.ptr (Γ.n0+8) 0),(9,(b_ r13)),(10,(i_ r14)),(11,.agg [(l_ x2.Plant.zB),(i_ x2.Plant.zF),.nils 1,(Qj x2.Plant.zD),.nils 1,(i_ x2.Ambient.zF),.nils 1,.nils 3,(l_ x2.Requirement.zB),(i_ x2.Requirement.zF),.nils 1,(Qj x2.Requirement.zD),(l_ x2.Observable),(l_ x2.Controllable)]),(12,.tup [(Q8 r4),(b_ r5),(i_ r6)]),(13,.agg [(l_ x2.Plant.zB),(i_ x2.Plant.zF),.nils 1,(Qj x2.Plant.zD),.nils 1,(i_ x2.Ambient.zF),.nils 1,.nils 3,(l_ x2.Requirement.zB),(i_ x2.Requirement.zF),.nils 1,(Qj x2.Requirement.zD),(l_ x2.Observable),(l_ x2.Controllable)]),(14,.tup [(Q8 r4),(b_ r5),(i_ r6)]),(15,(Q8 r4)),(16,(b_ r5)),(17,(i_ r6)),(18,.tup [(Qg r8),(i_ r9),(i_ r10)]),(19,.agg [(l_ x2.Plant.zB),(i_ x2.Plant.zF),.nils 1,(Qj x2.Plant.zD),.nils 1,(i_ x2.Ambient.zF),.nils 1,.nils 3,(l_ x2.Requirement.zB),(i_ x2.Requirement.zF),.nils 1,(Qj x2.Requirement.zD),(l_ x2.Observable),(l_ x2.Controllable)]),(20,.tup [(Qg r8),(i_ r9),(i_ r10)]),(21,(Qg r8)),(22,(i_ r9)),(23,(i_ r10)),(24,(l_ [1])),(25,.ptr (Γ.n0+1) 4),(26,.ptr (Γ.n0+1) 4),(27,.tup [(Q8 r12),(b_ r13),(i_ r14)]),(28,.agg [(l_ x2.Plant.zB),(i_ x2.Plant.zF),.nils 1,(Qj x2.Plant.zD),(l_ [1]),(i_ x2.Ambient.zF),.nils 1,.nils 3,(l_ x2.Requirement.zB),(i_ x2.Requirement.zF),.nils 1,(Qj x2.Requirement.zD),(l_ x2.Observable),(l_ x2.Controllable)]),(29,.tup [(Q8 r12),(b_ r13),(i_ r14)]),(30,(Q8 r12)),(31,(b_ r13)),(32,(i_ r14)),(33,(i_ r6)),(34,(b_ (r6==0))),(35,(b_ (r6==0))),(36,(b_ r5)),(37,(b_ (!r5))),(38,(b_ (!r5))),(39,(b_ (!r5))),(40,.ptr (Γ.n0+2) 0),(41,(l_ r4.Word)),(42,(l_ [0])),(43,(b_ x18)),(44,(b_ x18)),(45,(b_ x18)),(46,.ptr (Γ.n0+2) 1),(47,(l_ r4.Other)),(48,(l_ [1]))],Qn Γ.n0 (bxs [(1,.cells ([(l_ x2.Plant.zB),(i_ x2.Plant.zF),.nils 1,(Qj x2.Plant.zD),(l_ [1]),(i_ x2.Ambient.zF),.nils 1,.nils 3,(l_ x2.Requirement.zB),(i_ x2.Requirement.zF),.nils 1,(Qj x2.Requirement.zD),(l_ x2.Observable),(l_ x2.Controllable)])),(2,.cells ((Qez r4))),(5,.cells ((Qq r8))),(8,.cells ((Qez r12)))]) M,Γ.n0+82⟩;exact Qb7 48 [.int .i64 1] rfl rfl ⟨sq,(fPtr rfl),(fPtr rfl),sq,sq,(fPtr rfl),sq,sq,(fPtr rfl),sq,sq,sq,sq,sq,sq,sq,sq,sq,sq,sq,sq,sq,sq,sq,sq,(fPtr rfl),(fPtr rfl),sq,sq,sq,sq,sq,sq,sq,sq,sq,sq,sq,sq,sq,(fPtr rfl),sq,sq,sq,sq,sq,(fPtr rfl),sq,(fSl rfl rfl),tv⟩ ⟨bS rfl rfl rfl,bS rfl rfl rfl,bS rfl rfl rfl,bS rfl rfl rfl,tv⟩ rfl) ?_;refine cl (Hbh _ _) h (cq fun _ h=>?_);refine Z 2 0 ?_;refine bs h (fun _ h=>?_) (fun _ h=>Y);refine Z 5 0 ?_;refine bs h (fun _ h=>?_) (fun _ h=>Y);refine Z 4 0 ?_;refine bs h (fun _ h=>?_) (fun _ h=>Y);refine Z 4 0 ?_;refine bs h (fun _ h=>?_) (fun _ h=>Y);refine Z 5 0 ?_;refine bs h (fun _ h=>?_) (fun _ h=>Y);refine Z 6 0 ?_;refine bs h (fun _ h=>?_) (fun _ h=>Y);refine Z 4 0 ?_;exact bs h (fun _ h=>Y) (fun _ h=>Y)
theorem Qrn {P:Program} {c:Nat} (hcf:Qo P c=some Ql6) (fuel:Nat):Qgd P c (Q7 fuel):=by
 intro l1 mv2 r h;refine Qbq hcf rfl fun Γ M hP hnt hM=>?_;subst hP;refine ini ?_;refine Z 10 0 ?_;refine lw h [0,1] [] (fun i3 e=>(5,(i_ i3))::e) (fun _ l=>l) ke wk (fun _ i3 h=>?_);refine Z 8 0 ?_;refine ci h rfl (fun h=>?_) (fun h=>Y);refine Z 4 0 ?_;refine cw h [0,1,5] [] (fun x11 e=>(24,(b_ x11))::e) (fun _ l=>l) ke (fun _ h=>?_) (fun x11 h=>?_)
 ·refine Z 7 1 ?_;intro _ h;exact bi h (fun _ h=>Y) (fun _ h=>Y)
 ·refine cd h rfl (fun h=>Y) (fun h=>?_);refine Tr.skip ?_;refine cw h [0,1,5] [] (fun x18 e=>(38,(b_ x18))::e) (fun _ l=>l) ke (fun _ h=>?_) (fun x18 h=>?_)
  ·refine Z 4 0 ?_;exact bi h (fun _ h=>Y) (fun _ h=>Y)
  ·exact cd h rfl (fun h=>Y) (fun h=>Y)
theorem Qsm {P:Program} {c:Nat} (hcf:Qo P c=some Qnp) (fuel:Nat):Qjb P c (Qdf fuel):=by
 intro l1 n2 r h;refine Qbq hcf rfl fun Γ M hP hnt hM=>?_;subst hP;refine ini ?_;refine Z 10 0 ?_;refine lw h [0,1] [] (fun i3 e=>(5,(i_ i3))::e) (fun _ l=>l) ke wk (fun _ i3 h=>?_);refine Z 8 0 ?_;refine ci h rfl (fun h=>?_) (fun h=>Y);refine Z 12 1 ?_;intro _ h;exact cd h rfl (fun h=>Y) (fun h=>Y)
theorem Qqq {P:Program} {c:Nat} {Q7:_} {Qdf:_}
    (Hbg:Qgd P 21 Q7)
    (Hbi:Qjb P 47 Qdf) (hcf:Qo P c=some Qlm) (fuel:Nat):Qh1 P c (Qcu Q7 Qdf fuel):=by
 intro a1 r h;refine Qbq hcf rfl fun Γ M hP hnt hM=>?_;subst hP;refine ini ?_;refine Z 10 0 ?_;refine cl (Hbg _ _) h (cq fun _ h=>?_);refine Z 7 0 ?_;refine cd h rfl (fun h=>Y) (fun h=>?_);refine Z 8 0 ?_;refine ci h rfl (fun h=>Y) (fun h=>?_);refine Z 8 0 ?_;refine ci h rfl (fun h=>Y) (fun h=>?_);refine Z 8 0 ?_;refine cl (Hbg _ _) h (cq fun _ h=>?_);refine Z 7 0 ?_;refine cd h rfl (fun h=>Y) (fun h=>?_);refine Z 7 0 ?_;refine lw h [1] [1] (fun i10 e=>(5,(i_ i10))::e) (fun _ l=>l) ke wk (fun _ i10 h=>?_);refine Z 9 0 ?_;refine ci h rfl (fun h=>?_) (fun h=>Y);refine Z 14 1 ?_;intro _ h;refine cw h [1,5,6] [1,6] (fun x18 e=>(60,(b_ x18))::e) (fun _ l=>l) ke (fun _ h=>?_) (fun x18 h=>?_)
 ·refine Z 5 0 ?_;refine bi h (fun _ h=>Y) (fun _ h=>?_);refine Z 7 0 ?_;refine bi h (fun _ h=>Y) (fun _ h=>?_);refine Z 5 0 ?_;exact bi h (fun _ h=>Y) (fun _ h=>Y)
 ·refine cd h rfl (fun h=>Y) (fun h=>?_);refine Z 8 0 ?_;refine cl (Hbi _ _) h (cq fun _ h=>?_);refine Z 2 0 ?_;refine Tr.cond rfl (fun hb22=>?_) (fun hb22=>?_)
  ·have hb22:=nT' hb22;replace h:=bF hb22 h;exact Y
  ·have hb22:=nF' hb22;replace h:=bT hb22 h;refine Tr.skip ?_;refine cw h [1,5] [1,6] (fun x32 e=>(104,(b_ x32))::e) (fun _ l=>l) ke (fun _ h=>?_) (fun x32 h=>?_)
   ·refine Z 4 0 ?_;refine bi h (fun _ h=>?_) (fun _ h=>Y);refine Z 11 1 ?_;intro _ h;refine bi h (fun _ h=>Y) (fun _ h=>?_);refine Z 11 1 ?_;intro _ h;exact bs h (fun _ h=>Y) (fun _ h=>Y)
   ·exact cd h rfl (fun h=>Y) (fun h=>Y)
theorem Qsn {P:Program} {c:Nat} (hcf:Qo P c=some Qnq) (fuel:Nat):Qjc P c (Qd0 fuel):=by
 intro l1 n2 r h;refine Qbq hcf rfl fun Γ M hP hnt hM=>?_;subst hP;refine ini ?_;refine Z 10 0 ?_;refine lw h [0,1] [] (fun i3 e=>(5,(i_ i3))::e) (fun _ l=>l) ke wk (fun _ i3 h=>?_);refine Z 8 0 ?_;refine ci h rfl (fun h=>?_) (fun h=>Y);refine Z 12 1 ?_;intro _ h;exact cd h rfl (fun h=>Y) (fun h=>Y)
theorem Qtw {P:Program} {c:Nat} {Qbh:_} {Qca:_} {Qcb:_}
    (Hbt:Qg7 P 22 Qbh)
    (Hbk:Qh8 P 43 Qca)
    (Hbz:Qh9 P 44 Qcb) (hcf:Qo P c=some Qo4):Qj6 P c (Qdq Qbh Qca Qcb):=by
 intro p1 r h;refine Qbq hcf rfl fun Γ M hP hnt hM=>?_;subst hP;refine ini ?_;refine Z 10 0 ?_;refine cl (Hbt _) h (cq fun x3 h=>?_);refine Z 7 0 ?_;refine cd h rfl (fun h=>Y) (fun h=>?_);refine Z 8 0 ?_;refine Rn.weak (by show WeakSt Γ _ ⟨look [(0,(Qr p1)),(1,.ptr (Γ.n0+1) 0),(2,.ptr (Γ.n0+2) 0),(3,(i_ 0)),(4,(i_ x3)),(7,(Qr p1)),(8,(i_ x3)),(9,(i_ x3)),(10,(b_ (x3 != 0))),(14,.ptr (Γ.n0+1) 0),(15,(Qg p1.Plant)),(16,.ptr (Γ.n0+1) 4),(17,(Qg p1.Ambient)),(18,.d (.lst 4 (List.map Qbb [p1.Plant,p1.Ambient])))],Qn Γ.n0 (bxs [(1,.cells ((Qba p1))),(2,.cells ([.nils 1,(i_ 0),.nils 1,.nils 3]))]) M,Γ.n0+33⟩;exact Qb7 18 [.lst 1 (List.map (eI .i64) p1.Plant.zB),.int .i64 p1.Plant.zF,.lst 1 (List.map (eI .i64) p1.Plant.zC),.lst 3 (List.map Ql p1.Plant.zD),.lst 1 (List.map (eI .i64) p1.Ambient.zB),.int .i64 p1.Ambient.zF,.lst 1 (List.map (eI .i64) p1.Ambient.zC),.lst 3 (List.map Ql p1.Ambient.zD)] rfl rfl ⟨sq,(fPtr rfl),(fPtr rfl),sq,sq,sq,sq,sq,sq,(fPtr rfl),sq,(fPtr rfl),sq,(fSl rfl rfl),tv⟩ ⟨bS rfl rfl rfl,bS rfl rfl rfl,tv⟩ rfl) ?_;refine cl (Hbk _) h (cq fun ⟨_,_⟩ h=>?_);refine Z 13 0 ?_;refine cd h rfl (fun h=>Y) (fun h=>?_);refine Z 7 0 ?_;refine cl (Hbz _ _) h (cq fun ⟨_,_⟩ h=>?_);exact Y
theorem Qro {P:Program} {c:Nat} {Qe:_}
    (Hce:Qbs P 63 Qe) (hcf:Qo P c=some Ql7) (fuel:Nat):Qii P c (Qco Qe fuel):=by
 intro m1 sv2 w3 r h;refine Qbq hcf rfl fun Γ M hP hnt hM=>?_;subst hP;refine ini ?_;refine Z 4 0 ?_;refine cw h [] [] (fun sv12 e=>(1,(i_ sv12))::e) (fun _ l=>l) ke (fun _ h=>?_) (fun sv12 h=>Y);refine Z 7 0 ?_;refine lw h [0,9,10] [] (fun (sv4,x5) e=>(1,(i_ sv4))::(11,(i_ x5))::e) (fun _ l=>l) ke wk (fun _ ⟨sv4,x5⟩ h=>?_);refine Z 5 0 ?_;refine ci h rfl (fun h=>?_) (fun h=>Y);refine Z 13 1 ?_;intro _ h;refine cl (Hce _ _ _) h (cq fun _ h=>?_);exact Y
theorem Q03 {P:Program} {c:Nat} {Qbt:_}
    (Hdc:Qhn P 109 Qbt) (hcf:Qo P c=some Qy3):Qtk P c (Qh2 Qbt):=by
 intro a1 b2 r h;refine Qbq hcf rfl fun Γ M hP hnt hM=>?_;subst hP;refine ini ?_;refine Z 8 0 ?_;refine cl (Hdc _ _) h (cq fun _ h=>?_);exact Y
theorem Qtx {P:Program} {c:Nat} {Qv:_} {Qc2:_} {Qco:_} {Qk:_} {Qe:_} {Qh2:_} {Qs:_}
    (Hcb:Qfd P 51 Qv)
    (Hdk:Qlc P 56 Qc2)
    (Hcf:Qii P 61 Qco)
    (Hda:Qcc P 62 Qk)
    (Hce:Qbs P 63 Qe)
    (Hdj:Qtk P 64 Qh2)
    (Hcn:Qdu P 65 Qs) (hcf:Qo P c=some Qo5):Qj7 P c (Qdr Qv Qc2 Qco Qk Qe Qh2 Qs):=by
 intro p1 w2 r h;refine Qbq hcf rfl fun Γ M hP hnt hM=>?_;subst hP;refine ini ?_;refine Z 10 0 ?_;obtain ⟨⟨r3,ok4,r7,r8⟩,h5,h⟩:=bnd h;refine bs h (fun hb6 h=>?_) (fun hb6 h=>?_)
 ·refine Rn.call (args:=[(Qr p1)]) tv rfl (crT hb6 (Hcb _ _ h5)) pc9 ?_;refine Z 10 0 ?_;refine cw h [2,3,6,8] [2,3,7] (fun x10 e=>(25,(b_ x10))::e) (fun _ l=>l) ke (fun _ h=>?_) (fun x10 h=>?_)
  ·refine Z 4 0 ?_;refine bs h (fun hb9 h=>Y) (fun hb9 h=>?_);refine Z 1 0 ?_;refine Rn.k (v:=.cref (Qb r3)) (gw rfl hb9) rfl rfl rfl ?_;exact Y
  ·refine cd h rfl (fun h=>Y) (fun h=>?_);refine Z 4 0 ?_;refine Rn.k (v:=.cref (Qb r3)) tv rfl rfl rfl ?_;refine Z 3 0 ?_;refine Rn.k (v:=.cref (Qb r3)) tv rfl rfl rfl ?_;refine Z 5 0 ?_;refine cl (Hcf _ _ _) h (cq fun _ h=>?_);refine Z 5 0 ?_;refine Rn.k (v:=.cref (Qb r3)) tv rfl rfl rfl ?_;refine Z 4 0 ?_;refine cl (Hcf _ _ _) h (cq fun _ h=>?_);refine Z 1 0 ?_;refine Rn.k (v:=.cref (Qb r3)) tv rfl rfl rfl ?_;refine Z 3 0 ?_;refine Rn.k (v:=.cref (Qb r3)) tv rfl rfl rfl ?_;refine Z 5 0 ?_;refine cl (Hcf _ _ _) h (cq fun _ h=>?_);refine Z 5 0 ?_;refine cw h [2,3,6,10] [2,3,7,10] (fun x25 e=>(84,(b_ x25))::e) (fun _ l=>l) ke (fun _ h=>?_) (fun x25 h=>?_)
   ·refine Z 5 0 ?_;refine cl (Hda _ _) h (cq fun _ h=>?_);refine Z 2 0 ?_;refine bs h (fun _ h=>?_) (fun _ h=>Y);refine Z 4 0 ?_;refine bi h (fun _ h=>Y) (fun _ h=>?_);refine Z 5 0 ?_;refine bi h (fun hb22 h=>Y) (fun hb22 h=>?_);refine Z 1 0 ?_;refine Rn.k (v:=.cref (Qb r3)) (gw rfl hb22) rfl rfl rfl ?_;refine Z 5 0 ?_;refine cl (Hce _ _ _) h (cq fun _ h=>?_);exact Y
   ·refine cd h rfl (fun h=>Y) (fun h=>?_);refine Z 7 0 ?_;refine cl (Hdk _ _) h (cq fun _ h=>?_);refine Z 4 0 ?_;refine cl (Hdk _ _) h (cq fun _ h=>?_);refine cl (Hdj _ _) h (cq fun _ h=>?_);refine Z 6 0 ?_;refine bs h (fun _ h=>?_) (fun _ h=>Y);refine Z 4 0 ?_;refine cl (Hcn _ _ _) h (cq fun _ h=>?_);exact Y
 ·refine Rn.call (args:=[(Qr p1)]) tv rfl (crF hb6 (Hcb _ _ h5)) pc9 ?_;refine Z 15 0 ?_;refine bs h (fun _ h=>?_) (fun _ h=>?_)
  ·refine Z 6 0 ?_;refine Tr.condT rfl rfl ?_;exact Y
  ·refine Z 1 0 ?_;cases h
theorem Qxa {P:Program} {c:Nat} {Qv:_} {Qbi:_}
    (Hcb:Qfd P 51 Qv)
    (Hcl:Qfq P 66 Qbi) (hcf:Qo P c=some Qtl):Qnr P c (Qev Qv Qbi):=by
 intro p1 r h;refine Qbq hcf rfl fun Γ M hP hnt hM=>?_;subst hP;refine ini ?_;refine Z 9 0 ?_;obtain ⟨⟨r2,ok3,r6,r7⟩,h4,h⟩:=bnd h;refine bs h (fun hb5 h=>?_) (fun hb5 h=>?_)
 ·refine Rn.call (args:=[(Qr p1)]) tv rfl (crT hb5 (Hcb _ _ h4)) pc9 ?_;refine Z 15 0 ?_;refine cd h rfl (fun h=>Y) (fun h=>?_);refine Z 4 0 ?_;refine cl (Hcl _) h (cq fun ⟨_,_⟩ h=>?_);exact Y
 ·refine Rn.call (args:=[(Qr p1)]) tv rfl (crF hb5 (Hcb _ _ h4)) pc9 ?_;refine Z 15 0 ?_;refine cd h rfl (fun h=>Y) (fun h=>?_);refine Z 4 0 ?_;cases h
theorem Qj8 {P:Program} {c:Nat} {Qcd:_} {Qdq:_} {Qbn:_} {Qcu:_} {Qd0:_} {Q7:_} {Qbh:_} {Qb1:_} {Qdr:_} {Qev:_} {Qbo:_}
    (Hbe:Qh0 P 12 Qcd)
    (Hbs:Qj6 P 15 Qdq)
    (Hbv:Qgw P 16 Qbn)
    (Hbf:Qh1 P 19 Qcu)
    (Hbc:Qjc P 20 Qd0)
    (Hbg:Qgd P 21 Q7)
    (Hbt:Qg7 P 22 Qbh)
    (Hbu:Qi0 P 23 Qb1)
    (Hbx:Qj7 P 24 Qdr)
    (Hbw:Qnr P 25 Qev)
    (Hby:Qgz P 26 Qbo) (hcf:Qo P c=some Qgs) (fuel:Nat):Qgr P c (Qew Qcd Qdq Qbn Qcu Qd0 Q7 Qbh Qb1 Qdr Qev Qbo fuel):=by
 intro p1 r h;refine Qbq hcf rfl fun Γ M hP hnt hM=>?_;subst hP;refine ini ?_;refine Z 22 0 ?_;refine Tr.weak (by show WeakSt Γ _ ⟨look [(0,(Qr p1)),(1,.ptr (Γ.n0+1) 0),(2,(b_ false)),(3,.d (.lst 4 (List.map Qbb [p1.Plant,p1.Ambient,p1.Requirement]))),(4,(i_ 0)),(23,.ptr (Γ.n0+1) 0),(24,(Qg p1.Plant)),(25,.ptr (Γ.n0+1) 4),(26,(Qg p1.Ambient)),(27,.ptr (Γ.n0+1) 8),(28,(Qg p1.Requirement)),(29,.d (.lst 4 (List.map Qbb [p1.Plant,p1.Ambient,p1.Requirement])))],Qn Γ.n0 (bxs [(1,.cells ((Qba p1)))]) M,Γ.n0+230⟩;exact Qb7 29 [.lst 1 (List.map (eI .i64) p1.Plant.zB),.int .i64 p1.Plant.zF,.lst 1 (List.map (eI .i64) p1.Plant.zC),.lst 3 (List.map Ql p1.Plant.zD),.lst 1 (List.map (eI .i64) p1.Ambient.zB),.int .i64 p1.Ambient.zF,.lst 1 (List.map (eI .i64) p1.Ambient.zC),.lst 3 (List.map Ql p1.Ambient.zD),.lst 1 (List.map (eI .i64) p1.Requirement.zB),.int .i64 p1.Requirement.zF,.lst 1 (List.map (eI .i64) p1.Requirement.zC),.lst 3 (List.map Ql p1.Requirement.zD)] rfl rfl ⟨sq,(fPtr rfl),sq,(fSl rfl rfl),sq,(fPtr rfl),sq,(fPtr rfl),sq,(fPtr rfl),sq,(fSl rfl rfl),tv⟩ ⟨bS rfl rfl rfl,tv⟩ rfl) ?_;refine lw h [1,3] [1] (fun i2 e=>(4,(i_ i2))::e) (fun _ l=>l) ke wk (fun _ i2 h=>?_);refine Z 6 0 ?_;refine ci h rfl (fun h=>?_) (fun h=>?_)
 ·refine Z 3 0 ?_;refine cw h [1,3,4] [1] (fun x13 e=>(58,(b_ x13))::e) (fun _ l=>l) ke (fun _ h=>?_) (fun x13 h=>?_)
  ·refine Z 9 1 ?_;intro _ h;refine bi h (fun _ h=>Y) (fun _ h=>?_);refine Z 9 1 ?_;intro _ h;exact bi h (fun _ h=>Y) (fun _ h=>Y)
  ·refine cd h rfl (fun h=>?_) (fun h=>Y);refine Z 2 0 ?_;refine cl Hbe h (cq fun _ h=>?_);exact Y
 ·refine Z 2 0 ?_;refine cw h [1,3] [1] (fun x21 e=>(73,(b_ x21))::e) (fun _ l=>l) ke (fun _ h=>?_) (fun x21 h=>?_)
  ·refine Tr.rgn ?_;refine cl Hbe h (cq fun _ h=>?_);refine Z 2 0 ?_;refine bs h (fun _ h=>?_) (fun _ h=>Y);refine Z 6 0 ?_;exact bi h (fun _ h=>Y) (fun _ h=>Y)
  ·refine cd h rfl (fun h=>?_) (fun h=>?_)
   ·refine Z 2 0 ?_;refine cl Hbe h (cq fun _ h=>?_);exact Y
   ·refine Z 5 0 ?_;refine cw h [1,3] [1] (fun wv35 e=>(5,(i_ wv35))::e) (fun _ l=>l) ke (fun _ h=>?_) (fun wv35 h=>?_)
    ·refine Z 5 0 ?_;refine lw h [1,3] [1] (fun (wv25,i26) e=>(5,(i_ wv25))::(6,(i_ i26))::e) (fun _ l=>l) ke wk (fun _ ⟨wv25,i26⟩ h=>?_);refine Tr.seq ?_;refine cw h [1,3,5,6] [1] (fun x29 e=>(80,(b_ x29))::e) (fun _ l=>l) ke (fun _ h=>?_) (fun x29 h=>?_)
     ·refine Z 4 0 ?_;exact bi h (fun _ h=>Y) (fun _ h=>Y)
     ·refine cd h rfl (fun h=>?_) (fun h=>Y);refine Z 8 1 ?_;intro _ h;refine cl (Hbf _) h (cq fun _ h=>?_);exact Y
    ·refine cw h [1] [1] (fun wv57 e=>(5,(i_ wv57))::e) (fun _ l=>l) ke (fun _ h=>?_) (fun wv57 h=>?_)
     ·refine Z 5 0 ?_;refine lw h [1,3] [1] (fun (wv36,i37) e=>(5,(i_ wv36))::(7,(i_ i37))::e) (fun _ l=>l) ke wk (fun _ ⟨wv36,i37⟩ h=>?_);refine Tr.seq ?_;refine cw h [1,3,5,7] [1] (fun x40 e=>(93,(b_ x40))::e) (fun _ l=>l) ke (fun _ h=>?_) (fun x40 h=>?_)
      ·refine Z 4 0 ?_;exact bi h (fun _ h=>Y) (fun _ h=>Y)
      ·refine cd h rfl (fun h=>?_) (fun h=>Y);refine Tr.skip ?_;refine cw h [1,3,7] [1] (fun wv56 e=>(5,(i_ wv56))::e) (fun _ l=>l) ke (fun _ h=>?_) (fun wv56 h=>Y);refine Z 6 0 ?_;refine lw h [1,3,7] [1] (fun (wv42,n43) e=>(5,(i_ wv42))::(8,(i_ n43))::e) (fun _ l=>l) ke wk (fun _ ⟨wv42,n43⟩ h=>?_);refine Z 12 1 ?_;intro _ h;refine ci h rfl (fun h=>?_) (fun h=>Y);refine Tr.skip ?_;refine cw h [1,3,7,8] [1] (fun wv55 e=>(5,(i_ wv55))::e) (fun _ l=>l) ke (fun _ h=>?_) (fun wv55 h=>Y);refine Z 14 1 ?_;intro _ _ h;refine cl (Hbc _ _) h (cq fun _ h=>?_);refine Z 2 0 ?_;refine Tr.cond rfl (fun hb54=>?_) (fun hb54=>?_)
       ·have hb54:=nT' hb54;replace h:=bF hb54 h;exact Y
       ·have hb54:=nF' hb54;replace h:=bT hb54 h;exact Y
     ·refine cw h [1] [1] (fun wv61 e=>(5,(i_ wv61))::e) (fun _ l=>l) ke (fun _ h=>?_) (fun wv61 h=>?_)
      ·refine Z 5 0 ?_;refine cd h rfl (fun h=>?_) (fun h=>Y);refine Z 3 0 ?_;refine cl (Hbg _ _) h (cq fun _ h=>?_);exact Y
      ·refine cw h [1] [1] (fun wv65 e=>(5,(i_ wv65))::e) (fun _ l=>l) ke (fun _ h=>?_) (fun wv65 h=>?_)
       ·refine Z 5 0 ?_;refine cd h rfl (fun h=>?_) (fun h=>Y);refine Z 3 0 ?_;refine cl (Hbg _ _) h (cq fun _ h=>?_);exact Y
       ·refine Z 4 0 ?_;refine cl (Hbt _) h (cq fun _ h=>?_);refine Z 3 0 ?_;refine cd h rfl (fun h=>Y) (fun h=>?_);refine Z 7 0 ?_;refine cd h rfl (fun h=>Y) (fun h=>?_);refine Z 4 0 ?_;refine cl (Hbs _) h (cq fun ⟨_,_⟩ h=>?_);refine Z 10 0 ?_;refine cl (Hbv _) h (cq fun ⟨_,_⟩ h=>?_);refine Z 10 0 ?_;refine cl (Hbu _) h (cq fun ⟨_,_,_⟩ h=>?_);refine Z 13 0 ?_;obtain ⟨⟨r81,r82⟩,h80,h⟩:=bnd h;refine Rn.call (args:=[(Qr p1),.agg [.nils 1,.nils 1,(i_ 0)]]) tv rfl (fun M2 nb2=>ACalls.weak (args':=[(Qr p1),.agg [(l_ []),(l_ []),(i_ 0)]]) (Hbx _ _ _ h80 M2 nb2) (cS rfl (.cons (WkV.agg (.cons (WkV.nilsD _) (.cons (WkV.nilsD _) (cS rfl .nil)))) .nil)) rfl) pc9 ?_;refine Z 9 0 ?_;refine cl (Hbw _) h (cq fun ⟨_,_⟩ h=>?_);refine Z 10 0 ?_;refine cl (Hby _) h (cq fun ⟨_,_,_⟩ h=>?_);refine Z 9 0 ?_;refine cw h [] [1,9,11,13,18,20] (fun x99 e=>(2,(b_ x99))::e) (fun _ l=>l) ke (fun _ h=>?_) (fun x99 h=>Y);refine Z 16 0 ?_;refine bs h (fun _ h=>?_) (fun _ h=>Y);refine Z 5 0 ?_;refine bs h (fun _ h=>?_) (fun _ h=>Y);refine Z 5 0 ?_;refine bs h (fun _ h=>?_) (fun _ h=>Y);refine Z 10 0 ?_;refine bs h (fun _ h=>?_) (fun _ h=>Y);refine Z 4 0 ?_;refine bs h (fun _ h=>Y) (fun _ h=>?_);refine Z 5 0 ?_;refine bs h (fun _ h=>?_) (fun _ h=>Y);refine Z 4 0 ?_;refine bs h (fun _ h=>Y) (fun _ h=>?_);refine Z 5 0 ?_;refine bs h (fun _ h=>?_) (fun _ h=>Y);refine Z 5 0 ?_;exact bs h (fun _ h=>Y) (fun _ h=>Y)
end Go.Abs
end
section
namespace Go.Proofs
open Go.Abs
set_option maxRecDepth 100000
theorem Qlo:Qo Tryz.prog 4=some Qgs:=by kernel_rfl
theorem Qty:Qo Tryz.prog 12=some Qll:=by kernel_rfl
theorem Qxb:Qo Tryz.prog 15=some Qo4:=by kernel_rfl
theorem Qv6:Qo Tryz.prog 16=some Qnm:=by kernel_rfl
theorem Qtz:Qo Tryz.prog 19=some Qlm:=by kernel_rfl
theorem Qv7:Qo Tryz.prog 20=some Qnq:=by kernel_rfl
theorem Qu1:Qo Tryz.prog 21=some Ql6:=by kernel_rfl
theorem Qy7:Qo Tryz.prog 22=some Qr3:=by kernel_rfl
theorem Qy8:Qo Tryz.prog 23=some Qr7:=by kernel_rfl
theorem Qxc:Qo Tryz.prog 24=some Qo5:=by kernel_rfl
theorem Q04:Qo Tryz.prog 25=some Qtl:=by kernel_rfl
theorem Qv8:Qo Tryz.prog 26=some Qno:=by kernel_rfl
theorem Qqr:Qo Tryz.prog 28=some Qjl:=by kernel_rfl
theorem Qu2:Qo Tryz.prog 39=some Ql4:=by kernel_rfl
theorem Qt0:Qo Tryz.prog 42=some Qli:=by kernel_rfl
theorem Qyc:Qo Tryz.prog 43=some Qqe:=by kernel_rfl
theorem Qyd:Qo Tryz.prog 44=some Qqi:=by kernel_rfl
theorem Qxd:Qo Tryz.prog 45=some Qoy:=by kernel_rfl
theorem Qv9:Qo Tryz.prog 47=some Qnp:=by kernel_rfl
theorem Qye:Qo Tryz.prog 48=some Qqc:=by kernel_rfl
theorem Qyf:Qo Tryz.prog 49=some Qqd:=by kernel_rfl
theorem Qwa:Qo Tryz.prog 50=some Qnd:=by kernel_rfl
theorem Qyg:Qo Tryz.prog 51=some Qqj:=by kernel_rfl
theorem Qpp:Qo Tryz.prog 52=some Qio:=by kernel_rfl
theorem Qoe:Qo Tryz.prog 54=some Qia:=by kernel_rfl
theorem Qrp:Qo Tryz.prog 55=some Qj4:=by kernel_rfl
theorem Q1t:Qo Tryz.prog 56=some Qvk:=by kernel_rfl
theorem Qso:Qo Tryz.prog 57=some Qkl:=by kernel_rfl
theorem Qxe:Qo Tryz.prog 58=some Qow:=by kernel_rfl
theorem Qsp:Qo Tryz.prog 59=some Qkj:=by kernel_rfl
theorem Qpq:Qo Tryz.prog 60=some Qir:=by kernel_rfl
theorem Qu3:Qo Tryz.prog 61=some Ql7:=by kernel_rfl
theorem Qt1:Qo Tryz.prog 62=some Qlh:=by kernel_rfl
theorem Qt2:Qo Tryz.prog 63=some Qlk:=by kernel_rfl
theorem Q41:Qo Tryz.prog 64=some Qy3:=by kernel_rfl
theorem Qpr:Qo Tryz.prog 65=some Qip:=by kernel_rfl
theorem Qsq:Qo Tryz.prog 66=some Qkn:=by kernel_rfl
theorem Qyh:Qo Tryz.prog 67=some Qqk:=by kernel_rfl
theorem Q05:Qo Tryz.prog 79=some Qtg:=by kernel_rfl
theorem Qwb:Qo Tryz.prog 85=some Qng:=by kernel_rfl
theorem Q06:Qo Tryz.prog 88=some Qte:=by kernel_rfl
theorem Q1u:Qo Tryz.prog 89=some Qvi:=by kernel_rfl
theorem Qps:Qo Tryz.prog 90=some Qim:=by kernel_rfl
theorem Qqs:Qo Tryz.prog 92=some Qjg:=by kernel_rfl
theorem Qsr:Qo Tryz.prog 93=some Qki:=by kernel_rfl
theorem Qxf:Qo Tryz.prog 94=some Qox:=by kernel_rfl
theorem Q07:Qo Tryz.prog 95=some Qtj:=by kernel_rfl
theorem Qyi:Qo Tryz.prog 96=some Qqh:=by kernel_rfl
theorem Qu4:Qo Tryz.prog 97=some Ql5:=by kernel_rfl
theorem Qss:Qo Tryz.prog 98=some Qkh:=by kernel_rfl
theorem Qy9:Qo Tryz.prog 99=some Qr2:=by kernel_rfl
theorem Qxg:Qo Tryz.prog 100=some Qoz:=by kernel_rfl
theorem Qqt:Qo Tryz.prog 101=some Qjh:=by kernel_rfl
theorem Qpt:Qo Tryz.prog 106=some Qiq:=by kernel_rfl
theorem Qmp:Qo Tryz.prog 107=some Qhm:=by kernel_rfl
theorem Qxh:Qo Tryz.prog 108=some Qos:=by kernel_rfl
theorem Qxi:Qo Tryz.prog 109=some Qo3:=by kernel_rfl
theorem Qqu:Qo Tryz.prog 110=some Qji:=by kernel_rfl
theorem Qst:Qo Tryz.prog 111=some Qkm:=by kernel_rfl
theorem Qny:Qo Tryz.prog 112=some Qhz:=by kernel_rfl
theorem Qqv:Qo Tryz.prog 113=some Qjj:=by kernel_rfl
theorem Qrq:Qo Tryz.prog 114=some Qj5:=by kernel_rfl
theorem Qwc:Qo Tryz.prog 115=some Qnn:=by kernel_rfl
theorem Ql1:Qo Tryz.prog 118=some Qg8:=by kernel_rfl
theorem Qyj:Qo Tryz.prog 119=some Qqf:=by kernel_rfl
theorem Qyk:Qo Tryz.prog 120=some Qqg:=by kernel_rfl
theorem Qpu:Qo Tryz.prog 128=some Qin:=by kernel_rfl
theorem Qza:Qo Tryz.prog 131=some Qr5:=by kernel_rfl
theorem Qt3:Qo Tryz.prog 132=some Qlj:=by kernel_rfl
theorem Q08:Qo Tryz.prog 133=some Qti:=by kernel_rfl
theorem Q09:Qo Tryz.prog 134=some Qth:=by kernel_rfl
theorem Qzb:Qo Tryz.prog 135=some Qr6:=by kernel_rfl
theorem Qwd:Qo Tryz.prog 136=some Qni:=by kernel_rfl
theorem Qwe:Qo Tryz.prog 137=some Qnk:=by kernel_rfl
theorem Qwf:Qo Tryz.prog 138=some Qnj:=by kernel_rfl
theorem Qzc:Qo Tryz.prog 139=some Qr1:=by kernel_rfl
theorem Qxj:Qo Tryz.prog 140=some Qot:=by kernel_rfl
theorem Qsu:Qo Tryz.prog 143=some Qkk:=by kernel_rfl
theorem Qof:Qo Tryz.prog 144=some Qib:=by kernel_rfl
theorem Qxk:Qo Tryz.prog 146=some Qo1:=by kernel_rfl
theorem Qqw:Qo Tryz.prog 147=some Qjk:=by kernel_rfl
theorem Q1v:Qo Tryz.prog 153=some Qvj:=by kernel_rfl
theorem Qxl:Qo Tryz.prog 154=some Qov:=by kernel_rfl
theorem Qzd:Qo Tryz.prog 155=some Qr4:=by kernel_rfl
theorem Q1a:Qo Tryz.prog 171=some Qtf:=by kernel_rfl
theorem Qxm:Qo Tryz.prog 172=some Qou:=by kernel_rfl
end Go.Proofs
end
section
namespace Go.Abs
open Go Go.Sort
section plain
variable {β:Type}
def insB (lt:β→β→Bool) (x:β):List β→List β
 | []=>[x]
 | y::ys=>if lt y x then y::insB lt x ys else x::y::ys
def Ql8 (lt:β→β→Bool):List β→List β
 | []=>[]
 | x::xs=>insB lt x (Ql8 lt xs)
def Q1w (lt:β→β→Bool):List β→Bool
 | []=>true
 | x::xs=>xs.all (fun y=>lt x y||lt y x)&&Q1w lt xs
def Qbcu (ok:β→Bool) (lt:β→β→Bool) (l:List β):Option (List β):=if l.all ok&&Q1w lt l then some (Ql8 lt l) else none
theorem Q1b (lt:β→β→Bool) (x:β):∀ l,(insB lt x l).Perm (x::l)
 | []=>.refl _
 | y::ys=>by
  unfold insB;split
  ·exact ((Q1b lt x ys).cons y).trans (.swap x y ys)
  ·exact .refl _
theorem Qnz (lt:β→β→Bool):∀ l,(Ql8 lt l).Perm l
 | []=>.refl _
 | x::xs=>(Q1b lt x _).trans ((Qnz lt xs).cons x)
theorem Qrr (lt:β→β→Bool) (l:List β):(Ql8 lt l).length=l.length:=(Qnz lt l).length_eq
theorem Q1c {lt:β→β→Bool} (h:SWO lt) (x:β):∀ l,l.Pairwise (fun a b=>lt b a=false)→(insB lt x l).Pairwise fun a b=>lt b a=false
 | [],_=>by simp [insB]
 | y::ys,hl=>by
  obtain ⟨h1,h2⟩:=List.pairwise_cons.1 hl;unfold insB;split
  ·rename_i hc;refine List.pairwise_cons.2 ⟨fun z hz=>?_,Q1c h x ys h2⟩;rcases List.mem_cons.1 ((Q1b lt x ys).mem_iff.1 hz) with rfl|hz
   ·cases hb:lt z y with
    | false=>rfl
    | true=>have:=h.trans _ _ _ hc hb;rw [h.irrefl] at this;cases this
   ·exact h1 z hz
  ·rename_i hc;have hc:lt y x=false:=by cases h:lt y x<;>simp_all
   refine List.pairwise_cons.2 ⟨fun z hz=>?_,hl⟩;rcases List.mem_cons.1 hz with rfl|hz
   ·exact hc
   ·exact h.ntrans _ _ _ (h1 z hz) hc
theorem Qrs {lt:β→β→Bool} (h:SWO lt):∀ l,(Ql8 lt l).Pairwise fun a b=>lt b a=false
 | []=>.nil
 | x::xs=>Q1c h x _ (Qrs h xs)
theorem Q2w {lt:β→β→Bool}:∀ {l:List β},Q1w lt l=true→∀ a b,a∈l→b∈l→lt a b=false→lt b a=false→a=b
 | [],_,a,_,ha,_,_,_=>by cases ha
 | x::xs,h,a,b,ha,hb,h1,h2=>by
  simp only [Q1w,Bool.and_eq_true,List.all_eq_true] at h;obtain ⟨k1,k2⟩:=h;rcases List.mem_cons.1 ha with e1|ha'<;>rcases List.mem_cons.1 hb with e2|hb'
  ·rw [e1,e2]
  ·subst e1;have:=k1 b hb';simp [h1,h2] at this
  ·subst e2;have:=k1 a ha';simp [h1,h2] at this
  ·exact Q2w k2 a b ha' hb' h1 h2
theorem Q3o {lt:β→β→Bool} (h:SWO lt) {l m:List β} (hd:Q1w lt l=true) (hp:m.Perm l) (hs:m.Pairwise fun a b=>lt b a=false):m=Ql8 lt l:=by
 refine List.Perm.eq_of_pairwise (le:=fun a b=>lt b a=false) (fun a b ha hb h1 h2=>?_) hs (Qrs h l) (hp.trans (Qnz lt l).symm);exact Q2w hd a b (hp.mem_iff.1 ha) ((Qnz lt l).mem_iff.1 hb) h2 h1
theorem Q67 {α:Type} (f:α→β) (lt:β→β→Bool) (x:α):∀ l:List α,insB lt (f x) (l.map f)=(insB (fun a b=>lt (f a) (f b)) x l).map f
 | []=>rfl
 | y::ys=>by
  simp only [List.map_cons,insB];split
  ·simp only [List.map_cons,Q67 f lt x ys]
  ·rfl
theorem Q2x {α:Type} (f:α→β) (lt:β→β→Bool):∀ l:List α,Ql8 lt (l.map f)=(Ql8 (fun a b=>lt (f a) (f b)) l).map f
 | []=>rfl
 | x::xs=>by simp only [List.map_cons,Ql8,Q2x f lt xs,Q67]
theorem Q42 {α:Type} (f:α→β) (lt:β→β→Bool):∀ l:List α,Q1w lt (l.map f)=Q1w (fun a b=>lt (f a) (f b)) l
 | []=>rfl
 | x::xs=>by simp only [List.map_cons,Q1w,Q42 f lt xs,List.all_map];rfl
end plain
def Qt4 (a b:Int):Bool:=decide (a<b)
end Go.Abs
end
section
namespace Go.Abs
def Qbdo (l:List Int):Option (List Int):=if l.length≤lim then some (Ql8 Qt4 l) else none
def Q68 (l:List Int):Option (List Int):=if l.length≤lim then some (Lib.compact l) else none
def okPl (x:Qc):Bool:=decide (-1≤x.ambient_∧x.ambient_<4611686018427387904 ∧ -1≤x.language_∧x.language_<4611686018427387904)
def ltPl (x y:Qc):Bool:=decide (x.ambient_<y.ambient_∨(x.ambient_=y.ambient_∧x.language_<y.language_))
def Q9w (l:List Qc):Option (List Qc):=if l.length≤65536 then Qbcu okPl ltPl l else none
def keyL (l:List Int):List UInt8:=l.flatMap fun x=>Lib.decDigits x.toNat++[32]
def keyB (l:List Int):ByteArray:=⟨(keyL l).toArray⟩
def keyI (l:List Int):Option ByteArray:=if l.length≤lim∧∀ x∈l,0≤x∧x<100 then some (keyB l) else none
def Qba2 (x:Qc) (l:List Int):Option ByteArray:=keyI (x.ambient_::x.language_::l)
end Go.Abs
end
section
namespace Go.Abs
open Go Go.Abs
set_option maxRecDepth 10000
set_option maxHeartbeats 4000000
def Qbp:Nat:=1099511627776
def Ql9:=Qdk
def Qge:=Qcn Qbp
def Qho:=Qdo Qbp
def Qby:=Qk Qho
def Qfr:=Qck Qby Qbp
def Qem:=Qx Qge Qfr
def Qi1:=Qb9 Qbp
def Qj9:=Qd7
def Qi2:=Qed Qi1 Qj9
def Qfe:=Qd4 Qi2
def Qg0:=Qdd Qbp
def Qf0:=Qbh Qem Qfe Qg0 Qbp
def Qt5:=Qfg Qem Qbp
def Qo6:=Qd8
def Qr8:=Qe4 Qi1 Qo6
def Qr9:=Qe5 Qr8 Qbp
def Qvl:=Qf6 Qr9 Qbp
def Qis:=Qce Qbp
def Qt6:=Qeu
def Qvm:=Qf8 Qt6
def Qo7:=Qdp
def Qgc:=Q1 Qvm Qo7 Qbp
def Qg1:=Q0 Qgc
def Qjm:=Qcp Qg1 Qbp
def Qc9:=Qm
def Qko:=Qc3 Qc9 Qg1 Qbp
def Qh3:=Qbk Qt5 Qvl Qis keyI Qjm Qko Qbp
def Qk3:=Qca Qh3
def Qg9:=Qbl Qbp
def Qqx:=Qei
def Qqy:=Qej
def Qt7:=Qfi Qg9 Qqx Qqy
def Qlp:=Qde Qc9 Qt7 Qgc Qbp
def Qo8:=Qd9 Qem Qlp Qbp
def Qn0:=Qc0 Qbp
def Qn1:=Qc1 Qbp
def Qn2:=Qdx
def Qsa:=Qee Qbp
def Qn3:=Qcw
def Qn4:=Qdy Qn3 Qbp
def Qqz:=Qek Qn1 Qn0 Qsa Qn2 Qn4 Qbp
def Qt8:=Qfj Qc9 Qn1 Qn0 Qbp
def Qka:=Qb0 Qem Qt8 Qqz
def Qk4:=Qcb Qka Qc9 Qo8
def Qfl:=Qbn Qf0 Qk3 Qk4
def Qo9:=Qc8 Qbp
def Qen:=Qv Qfl Qh3 Qo9 Qbp
def Qbz:=Qe
def Qdt:=Qp Qby
def Qgn:=Q5 Qc9 Qdt Qby Qbz Qbdo Q68 Qbp
def Qit:=Qcf Qgn
def Qep:=Qs Qbz
def Qhp:=Qbx Qbz
def Qkp:=Qc5 Qbp
def Qiu:=Qcg Qkp
def Qic:=Qb8 Qby Qep Qiu Qhp Qbp
def Qpv:=Qc2 Qg1 Qbp
def Qkb:=Qcx Qc9 Qdt Qbz Qbp
def Qfs:=Qw Qbz
def Qiv:=Qch Qby Qbz Qgn Qbp
def Qha:=Qb1 Qen Qit Qba2 Qic Qkb Qpv Qfs Qc9 Qdt Qiv Qbp
def Qid:=Qbu
def Qxn:=Qo2
def Qgo:=Q6 Qfs Qdt Qid Q9w Qbp
def Qkq:=Qb4 Qba2 Qbp
def Qjn:=Qcq Qep
def Qjo:=Qcr Qbp
def Qh4:=Qb3 Qjo
def Qkc:=Qcy Qfs Qgo Qbp
def Qhi:=Qbi Qka Qc9 Qdt Qby Qbz Qgo Qkq Qh4 Qjn Qkc Qbp
def Qkd:=Qbt Qbp
def Qn5:=Qdz Qbp
def Qq0:=Qel Qkd Qn5
def Qfm:=Qbo Qen Qhi Qq0 Qbp
def Qjp:=Qb6 Qbp
def Qh5:=Qcd Qha Qfm Qjp Ql9
def Qe7:=Q7 Qbp
def Qg2:=Qdf Qbp
def Qex:=Qcu Qe7 Qg2 Qbp
def Qfn:=Qd0 Qbp
def Qhq:=Qdq Qf0 Qk3 Qk4
def Qma:=Qco Qbz Qbp
def Qy4:=Qh2 Qkd
def Qhr:=Qdr Qen Qpv Qma Qby Qbz Qy4 Qep
def Qke:=Qev Qen Qhi
def Qey:=Qew Qh5 Qhq Qfl Qex Qfn Qe7 Qf0 Qha Qhr Qke Qfm Qbp
end Go.Abs
end
section
namespace Go.Proofs
open Go.Shelf
def Tryz.lays169_ren:Go.Shelf.Ren:=⟨fun|169=>105|n=>n,fun|70=>158|9=>9|0=>0|72=>161|37=>159|127=>206|3=>3|5=>5|n=>n,fun|n=>n⟩
theorem Tryz.lays169:Go.Proofs.Lays.n169 Tryz.prog Tryz.lays169_ren:={
 mixed:=by kernel_rfl
 f169:=Tryz.func105.trans (congrArg some (by kernel_rfl))
 t0:=Tryz.underlying0
 a0:=Tryz.isAgg0
 z0:=Tryz.sizeOf0
 v0:=Tryz.zeroValue0
 t3:=Tryz.underlying3
 a3:=Tryz.isAgg3
 z3:=Tryz.sizeOf3
 v3:=Tryz.zeroValue3
 t9:=Tryz.underlying9
 a9:=Tryz.isAgg9
 z9:=Tryz.sizeOf9
 v9:=Tryz.zeroValue9
 t37:=Tryz.underlying159
 a37:=Tryz.isAgg159
 z37:=Tryz.sizeOf159
 v37:=Tryz.zeroValue159
 t70:=Tryz.underlying158
 a70:=Tryz.isAgg158
 z70:=Tryz.sizeOf158
 v70:=Tryz.zeroValue158
 t72:=Tryz.underlying161
 a72:=Tryz.isAgg161
 z72:=Tryz.sizeOf161
 v72:=Tryz.zeroValue161
 t127:=Tryz.underlying206
 a127:=Tryz.isAgg206
 z127:=Tryz.sizeOf206
 v127:=Tryz.zeroValue206 }
theorem Tryz.Builder_Extra_169:Builder.Extra Tryz.prog Tryz.lays169_ren:={
 sizeBuilder:=by kernel_rfl
 liesBuilder:=by kernel_rfl
 t5:=Tryz.underlying5
 a5:=Tryz.isAgg5
 z5:=Tryz.sizeOf5
 v5:=Tryz.zeroValue5
 infoByte:=by kernel_rfl
 cellsByte:=by kernel_rfl
 sizeByte:=by kernel_rfl
 neB5:=by decide }
open Go.RowKit in
theorem Tryz.Builder_String_any_k (B b:Nat) (l:List UInt8) (w:World) (h:Lib.IsBuilderF 161 5 B b (Lib.byteCells l) w) (hBw:B≤w.heap.size) :
  Calls Tryz.prog 105 #[.pointer (some ⟨b,0,none⟩)] w fun e w'=>e = .returned (.string ⟨l.toArray⟩)∧(Lib.IsBuilderF 161 5 B b (Lib.byteCells l) w'∧Below B w w'∧Lib.OthersKept 5 (some b) w w'):=Any.Builder_String_any_k Tryz.lays169 Tryz.Builder_Extra_169 B b l w h hBw
def Tryz.lays171_ren:Go.Shelf.Ren:=⟨fun|171=>103|243=>142|246=>157|283=>173|284=>174|285=>175|286=>176|129=>170|317=>191|318=>192|319=>193|320=>194|337=>199|338=>200|n=>n,fun|3=>3|9=>9|2=>2|4=>4|171=>234|0=>0|53=>233|37=>159|5=>5|173=>236|212=>251|51=>231|20=>20|213=>252|46=>214|232=>258|233=>259|n=>n,fun|17=>0|18=>1|19=>2|n=>n⟩
theorem Tryz.lays171:Go.Proofs.Lays.n171 Tryz.prog Tryz.lays171_ren:={
 mixed:=by kernel_rfl
 f129:=Tryz.func170.trans (congrArg some (by kernel_rfl))
 f171:=Tryz.func103.trans (congrArg some (by kernel_rfl))
 f243:=Tryz.func142.trans (congrArg some (by kernel_rfl))
 f246:=Tryz.func157.trans (congrArg some (by kernel_rfl))
 f283:=Tryz.func173.trans (congrArg some (by kernel_rfl))
 f284:=Tryz.func174.trans (congrArg some (by kernel_rfl))
 f285:=Tryz.func175.trans (congrArg some (by kernel_rfl))
 f286:=Tryz.func176.trans (congrArg some (by kernel_rfl))
 f317:=Tryz.func191.trans (congrArg some (by kernel_rfl))
 f318:=Tryz.func192.trans (congrArg some (by kernel_rfl))
 f319:=Tryz.func193.trans (congrArg some (by kernel_rfl))
 f320:=Tryz.func194.trans (congrArg some (by kernel_rfl))
 f337:=Tryz.func199.trans (congrArg some (by kernel_rfl))
 f338:=Tryz.func200.trans (congrArg some (by kernel_rfl))
 t0:=Tryz.underlying0
 a0:=Tryz.isAgg0
 z0:=Tryz.sizeOf0
 v0:=Tryz.zeroValue0
 t2:=Tryz.underlying2
 a2:=Tryz.isAgg2
 z2:=Tryz.sizeOf2
 v2:=Tryz.zeroValue2
 t3:=Tryz.underlying3
 a3:=Tryz.isAgg3
 z3:=Tryz.sizeOf3
 v3:=Tryz.zeroValue3
 t4:=Tryz.underlying4
 a4:=Tryz.isAgg4
 z4:=Tryz.sizeOf4
 v4:=Tryz.zeroValue4
 t5:=Tryz.underlying5
 a5:=Tryz.isAgg5
 z5:=Tryz.sizeOf5
 v5:=Tryz.zeroValue5
 t9:=Tryz.underlying9
 a9:=Tryz.isAgg9
 z9:=Tryz.sizeOf9
 v9:=Tryz.zeroValue9
 t20:=Tryz.underlying20
 a20:=Tryz.isAgg20
 z20:=Tryz.sizeOf20
 v20:=Tryz.zeroValue20
 t37:=Tryz.underlying159
 a37:=Tryz.isAgg159
 z37:=Tryz.sizeOf159
 v37:=Tryz.zeroValue159
 t46:=Tryz.underlying214
 a46:=Tryz.isAgg214
 z46:=Tryz.sizeOf214
 v46:=Tryz.zeroValue214
 t51:=Tryz.underlying231
 a51:=Tryz.isAgg231
 z51:=Tryz.sizeOf231
 v51:=Tryz.zeroValue231
 t53:=Tryz.underlying233
 a53:=Tryz.isAgg233
 z53:=Tryz.sizeOf233
 v53:=Tryz.zeroValue233
 t171:=Tryz.underlying234
 a171:=Tryz.isAgg234
 z171:=Tryz.sizeOf234
 v171:=Tryz.zeroValue234
 t173:=Tryz.underlying236
 a173:=Tryz.isAgg236
 z173:=Tryz.sizeOf236
 v173:=Tryz.zeroValue236
 t212:=Tryz.underlying251
 a212:=Tryz.isAgg251
 z212:=Tryz.sizeOf251
 v212:=Tryz.zeroValue251
 t213:=Tryz.underlying252
 a213:=Tryz.isAgg252
 z213:=Tryz.sizeOf252
 t232:=Tryz.underlying258
 a232:=Tryz.isAgg258
 z232:=Tryz.sizeOf258
 v232:=Tryz.zeroValue258
 t233:=Tryz.underlying259
 a233:=Tryz.isAgg259
 z233:=Tryz.sizeOf259
 v233:=Tryz.zeroValue259
 g17:=by kernel_rfl
 g18:=by kernel_rfl
 g19:=by kernel_rfl }
open Go.RowKit Go.Sort Go.Lib in
theorem Tryz.strconv_Itoa_small (i:Nat) (hi:i<100) (w:World) :
  Calls Tryz.prog 103 #[.int .i64 i] w fun e w'=>e = .returned (.string ⟨(Lib.decDigits i).toArray⟩)∧w'=w:=Any.strconv_Itoa_small Tryz.lays171 i hi w
def Tryz.laysNm220_ren:Go.Shelf.Ren:=⟨fun|20=>125|n=>n,fun|22=>32|3=>3|4=>4|0=>0|n=>n,fun|n=>n⟩
theorem Tryz.laysNm220:Go.Proofs.Lays2.n20 Tryz.prog Tryz.laysNm220_ren:={
 mixed:=by kernel_rfl
 f20:=Tryz.func125.trans (congrArg some (by kernel_rfl))
 t0:=Tryz.underlying0
 a0:=Tryz.isAgg0
 z0:=Tryz.sizeOf0
 v0:=Tryz.zeroValue0
 t3:=Tryz.underlying3
 a3:=Tryz.isAgg3
 z3:=Tryz.sizeOf3
 v3:=Tryz.zeroValue3
 t4:=Tryz.underlying4
 a4:=Tryz.isAgg4
 z4:=Tryz.sizeOf4
 v4:=Tryz.zeroValue4
 t22:=Tryz.underlying32
 a22:=Tryz.isAgg32
 z22:=Tryz.sizeOf32
 v22:=Tryz.zeroValue32
 i3:=by kernel_rfl }
open Go.RowKit Go.Lib Go.Sort in
theorem Tryz.slices_Compact_int (blk off cap:Nat) (zs:List Int) (w:World) (hH:Holds (Value.int .i64) w blk off zs.toArray) (hsz:zs.length≤9223372036854775807) (hcap:zs.length≤cap) :
  Calls Tryz.prog 125 #[.slice (some ⟨blk,off,none⟩) zs.length cap] w fun e w'=>e = .returned (.slice (some ⟨blk,off,none⟩) (Lib.compact zs).length cap)∧∃ q,w'=putRow (Value.int .i64) (Sort.ahead w q) blk off (Lib.compact zs++List.replicate (zs.length-(Lib.compact zs).length) 0).toArray:=Any.slices_Compact_int Tryz.laysNm220 blk off cap zs w hH hsz hcap
open Go.RowKit Go.Lib Go.Sort in
theorem Tryz.slices_Compact_int_empty (a:Option Addr) (cap:Nat) (w:World) :
  Calls Tryz.prog 125 #[.slice a 0 cap] w fun e w'=>e = .returned (.slice a 0 cap)∧w'=w:=Any.slices_Compact_int_empty Tryz.laysNm220 a cap w
def Tryz.laysSlM5_f124_ren:Go.Shelf.Ren:=⟨fun|5=>124|8=>152|7=>151|19=>169|20=>170|10=>161|11=>162|12=>163|13=>164|14=>165|15=>166|16=>153|17=>167|18=>168|30=>186|31=>187|32=>188|33=>189|34=>190|35=>171|40=>198|n=>n,fun|23=>32|25=>3|3=>3|32=>214|22=>32|0=>0|44=>231|46=>233|4=>4|36=>225|35=>224|41=>143|5=>5|9=>9|53=>243|57=>247|63=>255|64=>113|n=>n,fun|n=>n⟩
theorem Tryz.laysSlM5_f124:Go.Proofs.SlLaysM.n5 Tryz.prog Tryz.laysSlM5_f124_ren:={
 mixed:=by kernel_rfl
 f5:=⟨Tryz.f124.name,by decide,Tryz.func124.trans (congrArg some (by kernel_rfl))⟩
 f7:=⟨Tryz.f151.name,by decide,Tryz.func151.trans (congrArg some (by kernel_rfl))⟩
 f8:=Tryz.func152.trans (congrArg some (by kernel_rfl))
 f10:=⟨Tryz.f161.name,by decide,Tryz.func161.trans (congrArg some (by kernel_rfl))⟩
 f11:=⟨Tryz.f162.name,by decide,Tryz.func162.trans (congrArg some (by kernel_rfl))⟩
 f12:=⟨Tryz.f163.name,by decide,Tryz.func163.trans (congrArg some (by kernel_rfl))⟩
 f13:=⟨Tryz.f164.name,by decide,Tryz.func164.trans (congrArg some (by kernel_rfl))⟩
 f14:=⟨Tryz.f165.name,by decide,Tryz.func165.trans (congrArg some (by kernel_rfl))⟩
 f15:=⟨Tryz.f166.name,by decide,Tryz.func166.trans (congrArg some (by kernel_rfl))⟩
 f16:=⟨Tryz.f153.name,by decide,Tryz.func153.trans (congrArg some (by kernel_rfl))⟩
 f17:=⟨Tryz.f167.name,by decide,Tryz.func167.trans (congrArg some (by kernel_rfl))⟩
 f18:=⟨Tryz.f168.name,by decide,Tryz.func168.trans (congrArg some (by kernel_rfl))⟩
 f19:=Tryz.func169.trans (congrArg some (by kernel_rfl))
 f20:=Tryz.func170.trans (congrArg some (by kernel_rfl))
 f30:=⟨Tryz.f186.name,by decide,Tryz.func186.trans (congrArg some (by kernel_rfl))⟩
 f31:=Tryz.func187.trans (congrArg some (by kernel_rfl))
 f32:=Tryz.func188.trans (congrArg some (by kernel_rfl))
 f33:=⟨Tryz.f189.name,by decide,Tryz.func189.trans (congrArg some (by kernel_rfl))⟩
 f34:=⟨Tryz.f190.name,by decide,Tryz.func190.trans (congrArg some (by kernel_rfl))⟩
 f35:=⟨Tryz.f171.name,by decide,Tryz.func171.trans (congrArg some (by kernel_rfl))⟩
 f40:=⟨Tryz.f198.name,by decide,Tryz.func198.trans (congrArg some (by kernel_rfl))⟩
 t0:=Tryz.underlying0
 a0:=Tryz.isAgg0
 z0:=Tryz.sizeOf0
 v0:=Tryz.zeroValue0
 t3:=Tryz.underlying3
 a3:=Tryz.isAgg3
 z3:=Tryz.sizeOf3
 v3:=Tryz.zeroValue3
 t4:=Tryz.underlying4
 a4:=Tryz.isAgg4
 z4:=Tryz.sizeOf4
 v4:=Tryz.zeroValue4
 t5:=Tryz.underlying5
 a5:=Tryz.isAgg5
 z5:=Tryz.sizeOf5
 v5:=Tryz.zeroValue5
 t9:=Tryz.underlying9
 a9:=Tryz.isAgg9
 z9:=Tryz.sizeOf9
 v9:=Tryz.zeroValue9
 t22:=Tryz.underlying32
 a22:=Tryz.isAgg32
 z22:=Tryz.sizeOf32
 v22:=Tryz.zeroValue32
 t23:=Tryz.underlying32
 a23:=Tryz.isAgg32
 z23:=Tryz.sizeOf32
 v23:=Tryz.zeroValue32
 t25:=Tryz.underlying3
 a25:=Tryz.isAgg3
 z25:=Tryz.sizeOf3
 v25:=Tryz.zeroValue3
 t32:=Tryz.underlying214
 a32:=Tryz.isAgg214
 z32:=Tryz.sizeOf214
 v32:=Tryz.zeroValue214
 t35:=Tryz.underlying224
 a35:=Tryz.isAgg224
 z35:=Tryz.sizeOf224
 v35:=Tryz.zeroValue224
 t36:=Tryz.underlying225
 a36:=Tryz.isAgg225
 z36:=Tryz.sizeOf225
 v36:=Tryz.zeroValue225
 t41:=Tryz.underlying143
 a41:=Tryz.isAgg143
 z41:=Tryz.sizeOf143
 v41:=Tryz.zeroValue143
 t44:=Tryz.underlying231
 a44:=Tryz.isAgg231
 z44:=Tryz.sizeOf231
 v44:=Tryz.zeroValue231
 t46:=Tryz.underlying233
 a46:=Tryz.isAgg233
 z46:=Tryz.sizeOf233
 v46:=Tryz.zeroValue233
 t53:=Tryz.underlying243
 a53:=Tryz.isAgg243
 z53:=Tryz.sizeOf243
 v53:=Tryz.zeroValue243
 t57:=Tryz.underlying247
 a57:=Tryz.isAgg247
 z57:=Tryz.sizeOf247
 v57:=Tryz.zeroValue247
 t63:=Tryz.underlying255
 a63:=Tryz.isAgg255
 z63:=Tryz.sizeOf255
 v63:=Tryz.zeroValue255
 t64:=Tryz.underlying113
 a64:=Tryz.isAgg113
 z64:=Tryz.sizeOf113
 v64:=Tryz.zeroValue113 }
open Go.Sort Go.RowKit in
theorem Tryz.slices_Sort_int (blk off cap:Nat) (zs:List Int) (w:World) (hH:Holds (Value.int .i64) w blk off zs.toArray) (hblk:blk<w.heap.size) (hsz:zs.length<4611686018427387904) :
  Calls Tryz.prog 124 #[.slice (some ⟨blk,off,none⟩) zs.length cap] w fun e w' =>
   e = .returned (.tuple #[])∧∃ n os,w'=grow (putRow (Value.int .i64) (Sort.ahead w n) blk off (zs.mergeSort fun x y=>decide (x≤y)).toArray) os:=AnyM.slices_Sort_int Tryz.laysSlM5_f124 blk off cap zs w hH hblk hsz
open Go.RowKit Go.Sort in
theorem Tryz.slices_Sort_int_none (p:Option Addr) (cap:Nat) (w:World) :
  Calls Tryz.prog 124 #[.slice p 0 cap] w fun e w'=>e = .returned (.tuple #[])∧w'=w:=AnyM.slices_Sort_int_none Tryz.laysSlM5_f124 p cap w
def Tryz.sortP_ren:Go.Shelf.Ren:=⟨fun|6=>145|15=>152|14=>158|28=>169|29=>170|20=>177|21=>178|22=>179|23=>180|24=>181|25=>182|26=>183|27=>184|46=>195|47=>187|48=>188|49=>196|50=>197|57=>201|n=>n,fun|22=>175|24=>96|25=>211|3=>3|39=>214|0=>0|53=>231|55=>233|4=>4|46=>225|45=>224|50=>143|5=>5|9=>9|66=>243|70=>247|76=>255|77=>113|n=>n,fun|n=>n⟩
theorem Tryz.sortP:Go.Proofs.SlLaysF0.n6 Tryz.prog Tryz.sortP_ren:={
 mixed:=by kernel_rfl
 f6:=⟨Tryz.f145.name,by decide,Tryz.func145.trans (congrArg some (by kernel_rfl))⟩
 f14:=⟨Tryz.f158.name,by decide,Tryz.func158.trans (congrArg some (by kernel_rfl))⟩
 f15:=Tryz.func152.trans (congrArg some (by kernel_rfl))
 f20:=⟨Tryz.f177.name,by decide,Tryz.func177.trans (congrArg some (by kernel_rfl))⟩
 f21:=⟨Tryz.f178.name,by decide,Tryz.func178.trans (congrArg some (by kernel_rfl))⟩
 f22:=⟨Tryz.f179.name,by decide,Tryz.func179.trans (congrArg some (by kernel_rfl))⟩
 f23:=⟨Tryz.f180.name,by decide,Tryz.func180.trans (congrArg some (by kernel_rfl))⟩
 f24:=⟨Tryz.f181.name,by decide,Tryz.func181.trans (congrArg some (by kernel_rfl))⟩
 f25:=⟨Tryz.f182.name,by decide,Tryz.func182.trans (congrArg some (by kernel_rfl))⟩
 f26:=⟨Tryz.f183.name,by decide,Tryz.func183.trans (congrArg some (by kernel_rfl))⟩
 f27:=⟨Tryz.f184.name,by decide,Tryz.func184.trans (congrArg some (by kernel_rfl))⟩
 f28:=Tryz.func169.trans (congrArg some (by kernel_rfl))
 f29:=Tryz.func170.trans (congrArg some (by kernel_rfl))
 f46:=⟨Tryz.f195.name,by decide,Tryz.func195.trans (congrArg some (by kernel_rfl))⟩
 f47:=Tryz.func187.trans (congrArg some (by kernel_rfl))
 f48:=Tryz.func188.trans (congrArg some (by kernel_rfl))
 f49:=⟨Tryz.f196.name,by decide,Tryz.func196.trans (congrArg some (by kernel_rfl))⟩
 f50:=⟨Tryz.f197.name,by decide,Tryz.func197.trans (congrArg some (by kernel_rfl))⟩
 f57:=⟨Tryz.f201.name,by decide,Tryz.func201.trans (congrArg some (by kernel_rfl))⟩
 t0:=Tryz.underlying0
 a0:=Tryz.isAgg0
 z0:=Tryz.sizeOf0
 v0:=Tryz.zeroValue0
 t3:=Tryz.underlying3
 a3:=Tryz.isAgg3
 z3:=Tryz.sizeOf3
 v3:=Tryz.zeroValue3
 t4:=Tryz.underlying4
 a4:=Tryz.isAgg4
 z4:=Tryz.sizeOf4
 v4:=Tryz.zeroValue4
 t5:=Tryz.underlying5
 a5:=Tryz.isAgg5
 z5:=Tryz.sizeOf5
 v5:=Tryz.zeroValue5
 t9:=Tryz.underlying9
 a9:=Tryz.isAgg9
 z9:=Tryz.sizeOf9
 v9:=Tryz.zeroValue9
 t22:=Tryz.underlying175
 a22:=Tryz.isAgg175
 z22:=Tryz.sizeOf175
 v22:=Tryz.zeroValue175
 t25:=Tryz.underlying211
 a25:=Tryz.isAgg211
 z25:=Tryz.sizeOf211
 v25:=Tryz.zeroValue211
 t39:=Tryz.underlying214
 a39:=Tryz.isAgg214
 z39:=Tryz.sizeOf214
 v39:=Tryz.zeroValue214
 t45:=Tryz.underlying224
 a45:=Tryz.isAgg224
 z45:=Tryz.sizeOf224
 v45:=Tryz.zeroValue224
 t46:=Tryz.underlying225
 a46:=Tryz.isAgg225
 z46:=Tryz.sizeOf225
 v46:=Tryz.zeroValue225
 t50:=Tryz.underlying143
 a50:=Tryz.isAgg143
 z50:=Tryz.sizeOf143
 v50:=Tryz.zeroValue143
 t53:=Tryz.underlying231
 a53:=Tryz.isAgg231
 z53:=Tryz.sizeOf231
 v53:=Tryz.zeroValue231
 t55:=Tryz.underlying233
 a55:=Tryz.isAgg233
 z55:=Tryz.sizeOf233
 v55:=Tryz.zeroValue233
 t66:=Tryz.underlying243
 a66:=Tryz.isAgg243
 z66:=Tryz.sizeOf243
 v66:=Tryz.zeroValue243
 t70:=Tryz.underlying247
 a70:=Tryz.isAgg247
 z70:=Tryz.sizeOf247
 v70:=Tryz.zeroValue247
 t76:=Tryz.underlying255
 a76:=Tryz.isAgg255
 z76:=Tryz.sizeOf255
 v76:=Tryz.zeroValue255
 t77:=Tryz.underlying113
 a77:=Tryz.isAgg113
 z77:=Tryz.sizeOf113
 v77:=Tryz.zeroValue113 }
def Tryz.lays167_ren:Go.Shelf.Ren:=⟨fun|167=>104|240=>141|276=>156|n=>n,fun|0=>0|4=>4|5=>5|9=>9|20=>20|37=>159|70=>158|72=>161|75=>163|80=>168|164=>218|n=>n,fun|n=>n⟩
theorem Tryz.lays167:Go.Proofs.Lays.n167 Tryz.prog Tryz.lays167_ren:={
 mixed:=by kernel_rfl
 f167:=Tryz.func104.trans (congrArg some (by kernel_rfl))
 f240:=Tryz.func141.trans (congrArg some (by kernel_rfl))
 f276:=Tryz.func156.trans (congrArg some (by kernel_rfl))
 t0:=Tryz.underlying0
 a0:=Tryz.isAgg0
 z0:=Tryz.sizeOf0
 v0:=Tryz.zeroValue0
 t4:=Tryz.underlying4
 a4:=Tryz.isAgg4
 z4:=Tryz.sizeOf4
 v4:=Tryz.zeroValue4
 t5:=Tryz.underlying5
 a5:=Tryz.isAgg5
 z5:=Tryz.sizeOf5
 v5:=Tryz.zeroValue5
 t9:=Tryz.underlying9
 a9:=Tryz.isAgg9
 z9:=Tryz.sizeOf9
 v9:=Tryz.zeroValue9
 t20:=Tryz.underlying20
 a20:=Tryz.isAgg20
 z20:=Tryz.sizeOf20
 v20:=Tryz.zeroValue20
 t37:=Tryz.underlying159
 a37:=Tryz.isAgg159
 z37:=Tryz.sizeOf159
 v37:=Tryz.zeroValue159
 t70:=Tryz.underlying158
 a70:=Tryz.isAgg158
 z70:=Tryz.sizeOf158
 v70:=Tryz.zeroValue158
 t72:=Tryz.underlying161
 a72:=Tryz.isAgg161
 z72:=Tryz.sizeOf161
 v72:=Tryz.zeroValue161
 t75:=Tryz.underlying163
 a75:=Tryz.isAgg163
 z75:=Tryz.sizeOf163
 v75:=Tryz.zeroValue163
 t164:=Tryz.underlying218
 a164:=Tryz.isAgg218
 z164:=Tryz.sizeOf218
 v164:=Tryz.zeroValue218 }
theorem Tryz.Builder_Extra_167:Builder.Extra Tryz.prog Tryz.lays167_ren:={
 sizeBuilder:=by kernel_rfl
 liesBuilder:=by kernel_rfl
 t5:=Tryz.underlying5
 a5:=Tryz.isAgg5
 z5:=Tryz.sizeOf5
 v5:=Tryz.zeroValue5
 infoByte:=by kernel_rfl
 cellsByte:=by kernel_rfl
 sizeByte:=by kernel_rfl
 neB5:=by decide }
open Go.RowKit in
theorem Tryz.Builder_WriteByte_k (B b:Nat) (bs:List Value) (c:Int) (w:World) (h:Lib.IsBuilderF 161 5 B b bs w) (hlen:bs.length+1≤140737488355328) (hBw:B≤w.heap.size) :
  Calls Tryz.prog 104 #[.pointer (some ⟨b,0,none⟩),.int .u8 c] w fun e w'=>e = .returned .nilIface∧(Lib.BuilderAtF 161 5 B b (.pointer (some ⟨b,0,none⟩)) (bs++[.int .u8 c]) w'∧Below B w w'∧Lib.OthersKept 5 (some b) w w'):=Any.Builder_WriteByte_k Tryz.lays167 Tryz.Builder_Extra_167 B b bs c w h hlen hBw
def Tryz.lays166_ren:Go.Shelf.Ren:=⟨fun|166=>102|240=>141|276=>156|n=>n,fun|0=>0|3=>3|4=>4|5=>5|9=>9|20=>20|37=>159|70=>158|72=>161|75=>163|80=>168|164=>218|n=>n,fun|n=>n⟩
theorem Tryz.lays166:Go.Proofs.Lays.n166 Tryz.prog Tryz.lays166_ren:={
 mixed:=by kernel_rfl
 f166:=Tryz.func102.trans (congrArg some (by kernel_rfl))
 f240:=Tryz.func141.trans (congrArg some (by kernel_rfl))
 f276:=Tryz.func156.trans (congrArg some (by kernel_rfl))
 t0:=Tryz.underlying0
 a0:=Tryz.isAgg0
 z0:=Tryz.sizeOf0
 v0:=Tryz.zeroValue0
 t3:=Tryz.underlying3
 a3:=Tryz.isAgg3
 z3:=Tryz.sizeOf3
 v3:=Tryz.zeroValue3
 t4:=Tryz.underlying4
 a4:=Tryz.isAgg4
 z4:=Tryz.sizeOf4
 v4:=Tryz.zeroValue4
 t9:=Tryz.underlying9
 a9:=Tryz.isAgg9
 z9:=Tryz.sizeOf9
 v9:=Tryz.zeroValue9
 t20:=Tryz.underlying20
 a20:=Tryz.isAgg20
 z20:=Tryz.sizeOf20
 v20:=Tryz.zeroValue20
 t37:=Tryz.underlying159
 a37:=Tryz.isAgg159
 z37:=Tryz.sizeOf159
 v37:=Tryz.zeroValue159
 t70:=Tryz.underlying158
 a70:=Tryz.isAgg158
 z70:=Tryz.sizeOf158
 v70:=Tryz.zeroValue158
 t72:=Tryz.underlying161
 a72:=Tryz.isAgg161
 z72:=Tryz.sizeOf161
 v72:=Tryz.zeroValue161
 t75:=Tryz.underlying163
 a75:=Tryz.isAgg163
 z75:=Tryz.sizeOf163
 v75:=Tryz.zeroValue163
 t164:=Tryz.underlying218
 a164:=Tryz.isAgg218
 z164:=Tryz.sizeOf218
 v164:=Tryz.zeroValue218 }
theorem Tryz.Builder_Extra_166:Builder.Extra Tryz.prog Tryz.lays166_ren:={
 sizeBuilder:=by kernel_rfl
 liesBuilder:=by kernel_rfl
 t5:=Tryz.underlying5
 a5:=Tryz.isAgg5
 z5:=Tryz.sizeOf5
 v5:=Tryz.zeroValue5
 infoByte:=by kernel_rfl
 cellsByte:=by kernel_rfl
 sizeByte:=by kernel_rfl
 neB5:=by decide }
open Go.RowKit in
theorem Tryz.Builder_WriteString_k (B b:Nat) (bs:List Value) (s:ByteArray) (w:World) (h:Lib.IsBuilderF 161 5 B b bs w) (hlen:bs.length+s.size≤140737488355328) (hBw:B≤w.heap.size) :
  Calls Tryz.prog 102 #[.pointer (some ⟨b,0,none⟩),.string s] w fun e w'=>e = .returned (.tuple #[.int .i64 s.size,.nilIface])∧(Lib.BuilderAtF 161 5 B b (.pointer (some ⟨b,0,none⟩)) (bs++Lib.strCells s) w'∧Below B w w'∧Lib.OthersKept 5 (some b) w w'):=Any.Builder_WriteString_k Tryz.lays166 Tryz.Builder_Extra_166 B b bs s w h hlen hBw
end Go.Proofs
end
section
namespace Go.Abs
open Go Go.Sort Go.RowKit
theorem Q1d {P:Program} {f:FuncId} {ex:Array Value} {exV:List V} {sz nb:Nat} {M:Mem} (hb:Qgu P f=true) (hex:∀ g w us,RFs g w exV us→us=ex.toList)
  (h:∀ (p:Option Addr) (cap:Nat) (w:World),Calls P f (#[.slice p 0 cap]++ex) w fun e' w'=>e' = .returned (.tuple #[])∧w'=w) (hexf:V.dems exV=exV:=by rfl) :
  ACalls P f (.d (.lst sz [])::exV) M nb (.tup []) M nb:=by
 refine ACalls.mk' hb (Nat.le_refl _) (by simp only [V.dems,V.dem,hexf]) fun w g us hm hMon hus hfl hons=>?_;obtain ⟨u0,us',rfl,hu0,hus'⟩:=hus;have h1:=hex _ _ _ hus';subst h1;have h2:∃ p cap,u0 = .slice p 0 cap:=by
  have:=RF_d.1 hu0;obtain ⟨a,cap,rfl,_,_⟩:=this;exact ⟨a,cap,rfl⟩
 obtain ⟨p,cap,rfl⟩:=h2;have e1:(Value.slice p 0 cap::ex.toList).toArray = #[.slice p 0 cap]++ex:=by apply Array.ext';simp
 rw [e1];refine (h p cap w).mono ?_;rintro e' w' ⟨rfl,rfl⟩;exact ⟨_,g,rfl,hm,⟨[],rfl,rfl⟩,trivial,hMon,Fr.refl _ _ _⟩
theorem Q5u (l:List Int):(l.mergeSort fun x y=>decide (x≤y))=Ql8 Qt4 l:=by
 have hO:Go.Sort.SWO Qt4:=⟨fun x=>by simp [Qt4],fun x y z h1 h2=>by simp [Qt4] at *;omega,fun x y z h1 h2=>by simp [Qt4] at *;omega⟩;refine List.Perm.eq_of_pairwise (le:=fun a b=>Qt4 b a=false) (fun a b _ _ h1 h2=>by simp [Qt4] at *;omega) ?_ (Qrs hO l) ((List.mergeSort_perm _ _).trans (Qnz _ l).symm);have:=List.pairwise_mergeSort (le:=fun x y:Int=>decide (x≤y)) (fun a b c h1 h2=>by simp at *;omega) (fun a b=>by simp;omega) l;exact this.imp fun h=>by simp [Qt4] at *;omega
end Go.Abs
end
section
namespace Go.Abs
open Go Go.Sort Go.Shelf Go.RowKit Go.Lib Go.Proofs
theorem Q43 {α:Type} [Inhabited α] {enc:α→List Value} {k:Nat} (hk:∀ x,(enc x).length=k) (h0:0<k):∀ (l:List α) (t:Nat),t<l.length*k→(l.map enc).flatten[t]? = some (enc l[t / k]!)[t % k]!
 | [],t,h=>by simp at h
 | x::xs,t,h=>by
  rw [List.map_cons,List.flatten_cons];by_cases hl:t<k
  ·rw [List.getElem?_append_left (by rw [hk];exact hl),Nat.div_eq_of_lt hl,Nat.mod_eq_of_lt hl];have:t<(enc x).length:=by rw [hk];exact hl
   simp [this]
  ·have hge:k≤t:=by omega
   have h2:t-k<xs.length*k:=by simp only [List.length_cons,Nat.add_mul,Nat.one_mul] at h;omega
   rw [List.getElem?_append_right (by rw [hk];exact hge),hk,Q43 hk h0 xs (t-k) h2];have e1:t / k=(t-k) / k+1:=by rw [← Nat.add_div_right _ h0,Nat.sub_add_cancel hge]
   have e2:t % k=(t-k) % k:=by rw [Nat.mod_eq_sub_mod hge]
   rw [e1,e2];simp
theorem Q44 {α:Type} [Inhabited α] {enc:α→List Value} {k:Nat} (hk:∀ x,(enc x).length=k) (h0:0<k) (l:List α):flatK enc k l.toArray=(l.map enc).flatten.toArray:=by
 have hs:(l.map enc).flatten.length=l.length*k:=by
  induction l with
  | nil=>simp
  | cons x xs ih=>rw [List.map_cons,List.flatten_cons,List.length_append,ih,hk];simp [Nat.add_mul];omega
 refine ext_get! (by simp [hs]) fun t ht=>?_;have ht' : t<l.length*k:=by simpa using ht
 rw [get_flatK _ _ _ _ (by simpa using ht')];have:=Q43 hk h0 l t ht';obtain ⟨h1,h2⟩:=List.getElem?_eq_some_iff.1 this;rw [getElem!_pos _ t (by simpa using h1)];simp only [List.getElem_toArray,h2];simp
theorem Q45 {α:Type} (e:α→List D) (xs:List α):rowV e xs=(xs.map fun x=>(e x).map D.val).flatten:=by
 unfold rowV;rw [List.map_flatten,List.map_map];rfl
theorem Q1x {P:Program} {ρ:Ren} {α:Type} [Inhabited α] (L:SlLaysF0.n6 P ρ) {k:Nat} (aE:∀ w,(isAgg (ρ.t 24)).run P w = .ok true w) (zE:∀ w,(Go.sizeOf (ρ.t 24)).run P w = .ok k w) (e:α→List D) (hk:∀ x,(e x).length=k) (h0:0<k) (hsc:∀ x,(e x).all D.scalar=true)
  (cf:α→α→Int) (hO:SWO (ltOf cf)) (g:Nat) (cb:Array Value) (eg:∀ args w,(callFunc g args).run P w = .ok (.enter g args) w)
  (hcmp:∀ (x y:α) (W:World),Calls P g (#[.agg ((e x).map D.val).toArray,.agg ((e y).map D.val).toArray]++cb) W fun r w'=>r = .returned (.int .i64 (cf x y))∧∃ q os',w'=grow (W.drewN q) os') :
  Q9n P (ρ.f 6) e #[.func (.func g) #[] cb] (fun xs=>(pdq (ltOf cf) xs.toArray 0 xs.length (Lib.bitLen xs.length) true true).toList):=by
 intro blk cap xs w hc hblk hsz;have henc:∀ x,((fun x=>(e x).map D.val) x).length=k:=fun x=>by simp [hk]
 have h1:∀ x:α,∀ v∈(e x).map D.val,v.oneCell'=true:=by
  intro x v hv;obtain ⟨d,hd,rfl⟩:=List.mem_map.1 hv;exact Q5s (List.all_eq_true.1 (hsc x) d hd)
 have hH:HoldsK (fun x=>(e x).map D.val) k w blk 0 xs.toArray:=by
  unfold HoldsK;rw [Q44 henc h0,← Q45];intro j hj;have hj' : j<(rowV e xs).length:=by simpa using hj
  obtain ⟨k1,k2⟩:=hc j hj';rw [Nat.zero_add];refine ⟨k1.trans ?_,k2⟩;rw [List.getElem?_eq_getElem hj',getElem!_pos _ j hj];rfl
 have hcl:CmpLays P g cb (fun x=>(e x).map D.val) k cf blk 0 xs.toArray.size w:=fun _ _ _ _ x y=>hcmp x y _;have:=AnyQ.slices_SortFunc_eq L k aE zE (fun x=>(e x).map D.val) henc h1 cf hO g cb blk 0 cap xs.toArray w eg hcl hH hblk (by simpa using hsz);refine this.mono ?_;rintro r w' ⟨rfl,n,os,rfl⟩;refine ⟨rfl,n,os,?_⟩;unfold sortWorldK putRowK;have hrow:flatK (fun x=>(e x).map D.val) k (pdq (ltOf cf) xs.toArray 0 xs.toArray.size (Lib.bitLen xs.toArray.size) true true)=(rowV e (pdq (ltOf cf) xs.toArray 0 xs.length (Lib.bitLen xs.length) true true).toList).toArray:=by
  rw [Q45,← Q44 henc h0];simp
 rw [hrow]
section
variable {α:Type} [Inhabited α]
theorem Q3p {lt:α→α→Bool} (hO:SWO lt) (xs:List α) (k:Nat):(pdq lt xs.toArray 0 xs.length k true true).toList.Perm xs∧(pdq lt xs.toArray 0 xs.length k true true).toList.Pairwise fun a b=>lt b a=false:=by
 obtain ⟨⟨h1,_,h2⟩,h3⟩:=pdq_sorts lt hO xs.toArray 0 xs.length k true true (Nat.zero_le _) (by simp) (Or.inl rfl);generalize pdq lt xs.toArray 0 xs.length k true true=d at *
 have hs:d.size=xs.length:=by simpa using h1
 refine ⟨?_,?_⟩
 ·have e1:d.extract 0 xs.length=d:=by rw [← hs];exact Array.extract_size
  have e2:xs.toArray.extract 0 xs.length=xs.toArray:=by
   have:xs.length=xs.toArray.size:=by simp
   rw [this];exact Array.extract_size
  rw [e1,e2] at h2;simpa using h2
 ·rw [List.pairwise_iff_getElem];intro i j hi hj hij;have hi' : i<d.size:=by simpa using hi
  have hj' : j<d.size:=by simpa using hj
  have:=h3 i j (Nat.zero_le _) hij (by omega);rw [getElem!_pos d i hi',getElem!_pos d j hj'] at this;simpa using this
theorem Q9x {lt:α→α→Bool} (hO:SWO lt) (xs:List α) (k:Nat) (hd:Q1w lt xs=true):(pdq lt xs.toArray 0 xs.length k true true).toList=Ql8 lt xs :=
 Q3o hO hd (Q3p hO xs k).1 (Q3p hO xs k).2
end
theorem Q9y {β:Type} {P:Program} {c:Nat} {e:β→List D} {sz N:Nat} {ok:β→Bool} {lt:β→β→Bool} [Inhabited {x:β // ok x=true}] {lt' : {x:β // ok x=true}→{x:β // ok x=true}→Bool}
  (hN:N<4611686018427387904) (hk:∀ x,(e x).length=sz) (hsc:∀ x,(e x).all D.scalar=true) (hO:SWO lt') (hlt:∀ x y,lt' x y=lt x.1 y.1) (hb:Qgu P c=true) {ex:Array Value} {exV:List V} (hex:∀ g w us,RFs g w exV us→us=ex.toList)
  (hrow:Q9n P c (fun x:{x:β // ok x=true}=>e x.1) ex (fun xs=>(pdq lt' xs.toArray 0 xs.length (Lib.bitLen xs.length) true true).toList))
  (hnone:∀ (p:Option Addr) (cap:Nat) (w:World),Calls P c (#[.slice p 0 cap]++ex) w fun e' w'=>e' = .returned (.tuple #[])∧w'=w) (hexf:V.dems exV=exV:=by rfl) :
  RowK P c e sz exV (fun l=>if l.length≤N then Qbcu ok lt l else none):=by
 intro xs ys h;dsimp only at h;split at h<;>try (cases h;done)
 rename_i hlN;unfold Qbcu at h;split at h<;>cases h;rename_i hok;simp only [Bool.and_eq_true,List.all_eq_true] at hok;obtain ⟨ho,hd⟩:=hok;obtain ⟨zs,rfl⟩ : ∃ zs:List {x:β // ok x=true},xs=zs.map Subtype.val:=⟨xs.pmap Subtype.mk ho,by rw [List.map_pmap];simp⟩;have hd' : Q1w lt' zs=true:=by
  rw [Q42] at hd;rw [show lt'=fun a b=>lt a.1 b.1 from funext fun a=>funext fun b=>hlt a b];exact hd
 have e1:Ql8 lt (zs.map Subtype.val)=(Ql8 lt' zs).map Subtype.val:=by
  rw [Q2x,show lt'=fun a b=>lt a.1 b.1 from funext fun a=>funext fun b=>hlt a b]
 refine ⟨Qrr _ _,fun h0=>?_,fun hl cap k0 M nb hM=>?_⟩
 ·simp only [List.map_eq_nil_iff] at h0;subst h0;exact ⟨rfl,fun M nb=>Q1d hb hex hnone hexf⟩
 ·have hM' : M k0=some (.cells (Qbr (zs.map fun x=>e x.1) ((cap-zs.length)*sz))):=by
   rw [hM,List.map_map,List.length_map];rfl
  have:=Q2t (fun x=>hk x.1) (fun x=>hsc x.1) (fun xs=>(Q3p hO xs _).1.length_eq) hex hb hrow zs cap k0 M nb hM' (by rw [List.length_map] at hlN;omega) hexf;rw [Q9x hO zs _ hd'] at this;rw [e1,List.map_map,List.length_map];exact this
end Go.Abs
end
section
namespace Go.Abs
open Go Go.Sort Go.RowKit
theorem Q1e (xs:List Int):rowV (eI .i64) xs=xs.map (Value.int .i64):=by
 unfold rowV
 induction xs with
 | nil=>rfl
 | cons x xs ih=>simp only [List.map_cons,List.flatten_cons,List.map_append,ih];rfl
theorem Q9z {P:Program} {c:Nat} (hb:Qgu P c=true)
  (hs:∀ (blk off cap:Nat) (zs:List Int) (w:World),Holds (Value.int .i64) w blk off zs.toArray→blk<w.heap.size→zs.length<4611686018427387904 →
   Calls P c #[.slice (some ⟨blk,off,none⟩) zs.length cap] w fun e w'=>e = .returned (.tuple #[])∧∃ n os,w'=grow (putRow (Value.int .i64) (Sort.ahead w n) blk off (zs.mergeSort fun x y=>decide (x≤y)).toArray) os)
  (hnone:∀ (p:Option Addr) (cap:Nat) (w:World),Calls P c (#[.slice p 0 cap] ++ #[]) w fun e' w'=>e' = .returned (.tuple #[])∧w'=w) :
  RowK P c (eI .i64) 1 [] (fun l=>if l.length≤lim then some (Ql8 Qt4 l) else none):=by
 have hrow:Q9n P c (eI .i64) #[] (fun xs=>Ql8 Qt4 xs):=by
  intro blk cap xs w hcell hblk hsz;refine Calls.mono (hs blk 0 cap xs w ?_ hblk hsz) ?_
  ·intro j hj;have hj' : j<xs.length:=by simpa using hj
   have:=hcell j (by rw [Q1e];simpa using hj');rw [Q1e] at this;rw [Nat.zero_add];refine ⟨?_,this.2⟩;rw [this.1,getElem!_pos xs.toArray j hj];simp [hj']
  ·rintro e w' ⟨rfl,n,os,rfl⟩;refine ⟨rfl,n,os,?_⟩;rw [Q5u,Q1e];congr 1;unfold putRow;congr 1;funext c;unfold putCells;congr 1;funext k x;simp only [List.size_toArray,List.length_map];split
   ·rename_i h;simp only [id];rw [getElem!_pos _ _ (by simp;omega),getElem!_pos _ _ (by simp;omega)];simp
   ·rfl
 intro xs ys h;dsimp only at h;split at h<;>cases h;rename_i hl;refine ⟨Qrr _ _,fun h0=>?_,fun hl2 cap k0 M nb hM=>?_⟩
 ·subst h0;exact ⟨rfl,fun M nb=>Q1d (ex:=#[]) (exV:=[]) hb (fun _ _ _ h=>h) hnone⟩
 ·exact Q2t (e:=eI .i64) (fun _=>rfl) (fun _=>rfl) (fun xs=>Qrr _ _) (ex:=#[]) (exV:=[]) (fun _ _ _ h=>h) hb hrow xs cap k0 M nb hM (by unfold lim at hl;omega)
end Go.Abs
end
section
namespace Go.Abs
open Go Go.Sort Go.RowKit Go.Lib
theorem Q1f (zs:List Int):(Lib.compact zs).length≤zs.length:=by
 unfold Lib.compact Lib.compactUpTo;rw [List.length_map];exact Nat.le_trans (List.length_filter_le _ _) (by simp)
theorem Qbcv (l:List Int):(l.map (eI .i64)).flatten=l.map (D.int .i64):=by
 induction l with
 | nil=>rfl
 | cons x l ih=>simp only [List.map_cons,List.flatten_cons,ih];rfl
theorem Q7u {P:Program} {c:Nat} (hb:Qgu P c=true)
  (hs:∀ (blk off cap:Nat) (zs:List Int) (w:World),Holds (Value.int .i64) w blk off zs.toArray→zs.length≤9223372036854775807→zs.length≤cap →
   Calls P c #[.slice (some ⟨blk,off,none⟩) zs.length cap] w fun e w'=>e = .returned (.slice (some ⟨blk,off,none⟩) (Lib.compact zs).length cap)∧∃ n,w'=putRow (Value.int .i64) (Sort.ahead w n) blk off (Lib.compact zs++List.replicate (zs.length-(Lib.compact zs).length) 0).toArray)
  (hnone:∀ (p:Option Addr) (cap:Nat) (w:World),Calls P c #[.slice p 0 cap] w fun e' w'=>e' = .returned (.slice p 0 cap)∧w'=w) :
  CompK P c (fun l=>if l.length≤lim then some (Lib.compact l) else none):=by
 intro xs ys hf;dsimp only at hf;split at hf<;>cases hf;rename_i hl;refine ⟨Q1f xs,fun h0=>?_,fun cap k0 M nb hcap hM=>?_⟩
 ·subst h0;refine ⟨rfl,fun M nb=>ACalls.mk' hb (Nat.le_refl _) rfl fun w g us hm hMon hus hfl hons=>?_⟩;obtain ⟨u0,us',rfl,hu0,rfl⟩:=hus;have h2:=RF_d.1 hu0;obtain ⟨a,cp,rfl,_,_⟩:=id h2;refine (hnone a cp w).mono ?_;rintro e' w' ⟨rfl,rfl⟩;exact ⟨_,g,rfl,hm,hu0 _,trivial,hMon,Fr.refl _ _ _⟩
 refine ACalls.mk' hb (Nat.le_refl _) rfl fun w g us hm hMon hus hfl hons=>?_;obtain ⟨u0,us',rfl,hu0,rfl⟩:=hus;have h0:=Q1q.1 hu0;subst h0;obtain ⟨hk0,hown,vals,et,hh,hrv,hone⟩:=hm.box k0 _ hM;have hlt:g.box k0<w.heap.size:=(Array.getElem?_eq_some_iff.1 hh).1;obtain ⟨hvl,hvr⟩:=(Qcj _ _ _ _).1 hrv;simp only [Qbr,Qbcv,List.map_map,List.length_append,List.length_map,List.length_replicate,Nat.mul_one] at hvl hvr;have hcell:∀ (j:Nat) (x:Int),xs[j]? = some x→vals[j]? = some (.int .i64 x):=by
  intro j x hx;have hj:=(List.getElem?_eq_some_iff.1 hx).1;have hjv:j<vals.length:=by omega
  have hc:(List.map (V.d ∘ D.int .i64) xs++List.replicate (cap-xs.length) V.und)[j]? = some (.d (.int .i64 x)):=by
   rw [List.getElem?_append_left (by rw [List.length_map];exact hj),List.getElem?_map,hx];rfl
  have:=hvr j _ _ hc (List.getElem?_eq_getElem hjv);have h2:vals[j] = .int .i64 x:=this;rw [List.getElem?_eq_getElem hjv,h2]
 have hH:Holds (Value.int .i64) w (g.box k0) 0 xs.toArray:=by
  intro j hj;have hj' : j<xs.length:=by simpa using hj
  have:=hcell j xs[j] (List.getElem?_eq_getElem hj');rw [Nat.zero_add];refine ⟨?_,by simp [World.frozen?,hh]⟩;rw [getElem!_pos xs.toArray j hj];simp [World.cell?,hh,this]
 refine (hs (g.box k0) 0 cap xs w hH (by unfold lim at hl;omega) hcap).mono ?_;rintro e' w' ⟨rfl,n,rfl⟩;have hyl:=Q1f xs;generalize Lib.compact xs=ys at hyl ⊢;generalize hF:(ys++List.replicate (xs.length-ys.length) 0).toArray=F;have hFs:F.size=xs.length:=by rw [← hF];simp;omega
 have hput:putRow (Value.int .i64) (Sort.ahead w n) (g.box k0) 0 F=grow (putRow id (Sort.ahead w n) (g.box k0) 0 (F.map (Value.int .i64))) #[]:=by
  have e1:∀ W:World,grow W #[]=W:=fun W=>by unfold grow;simp
  rw [e1];unfold putRow;congr 1;funext c;unfold putCells;congr 1;funext k x;simp only [Array.size_map];split
  ·rename_i h;simp only [id];rw [getElem!_pos _ _ (by omega),getElem!_pos _ _ (by simp;omega)];simp
  ·rfl
 rw [hput];generalize hF' : F.map (Value.int .i64)=F';have hFs' : F'.size=xs.length:=by rw [← hF',Array.size_map,hFs]
 have hFv:∀ j (h:j<ys.length),F'[j]'(by omega)=Value.int .i64 ys[j]:=by
  intro j h;subst hF';subst hF;simp only [List.getElem_toArray,Array.getElem_map];rw [List.getElem_append_left h]
 have hFi:∀ j (h:j<F'.size),∃ z:Int,F'[j]=Value.int .i64 z:=by
  intro j h;subst hF';exact ⟨_,Array.getElem_map ..⟩
 have hblk:=Q0w w n (g.box k0) F' #[] hh;have hoth:∀ b,b≠g.box k0→b<w.heap.size→(grow (putRow id (Sort.ahead w n) (g.box k0) 0 F') #[]).heap[b]? = w.heap[b]?:=fun b hb hlt=>Qqa w n _ F' #[] hb hlt;have hsize:w.heap.size≤(grow (putRow id (Sort.ahead w n) (g.box k0) 0 F') #[]).heap.size:=by
  simp [putRow,mapBlock,Sort.ahead]
 generalize hw' : grow (putRow id (Sort.ahead w n) (g.box k0) 0 F') #[]=w' at hblk hoth hsize;have himm:Imm g.imm g.imm w w':=by
  refine ⟨fun _ _ h=>h,fun b o h=>?_⟩;obtain ⟨k1,k2⟩:=hm.imm b o h;have hne:b≠g.box k0:=by rintro rfl;exact k2 k0 hown
  exact Qd5 (hoth b hne k1)
 have hkept:Kept g w g w' (There M) (fun o=>o ≠ .box k0):=⟨himm,fun _ _=>rfl,fun b hb hl=>⟨rfl,hoth b (by rintro rfl;exact hb hown) hl,fun _=>Iff.rfl⟩⟩;have hsub:∀ (o:Owner) i,o ≠ .box k0→o.sub i ≠ .box k0:=by intro o i _;cases o<;>simp [Owner.sub]
 have hnew:∀ p:Nat→Prop,V.ons p (Qbr (ys.map (eI .i64)) ((cap-ys.length)*1)):=by
  intro p;rw [Qgt];intro v hv;simp only [Qbr,List.mem_append,List.mem_map,List.mem_replicate] at hv;rcases hv with ⟨x,_,rfl⟩|⟨_,rfl⟩<;>trivial
 have hth:There (M.put k0 (.cells (Qbr (ys.map (eI .i64)) ((cap-ys.length)*1)))) k0:=by simp [There,Mem.put]
 refine ⟨_,g,rfl,⟨fun k b hk=>?_,fun b o h=>⟨Nat.lt_of_lt_of_le (hm.imm b o h).1 hsize,(hm.imm b o h).2⟩⟩,by simp [RV],hth,fun k cs hk=>?_,?_⟩
 ·by_cases hkk:k=k0
  ·subst hkk;rw [Qfp] at hk;cases hk;refine ⟨hk0,hown,(putCells id 0 F' vals.toArray).toList,et,by simpa using hblk,(Qcj _ _ _ _).2 ⟨?_,fun j cc x hc hx=>?_⟩,fun x hx=>?_⟩
   ·simp only [Qbr,Qbcv,List.map_map,List.length_append,List.length_map,List.length_replicate,Nat.mul_one];simp [putCells];omega
   ·have hx' : (putCells id 0 F' vals.toArray)[j]? = some x:=by simpa using hx
    simp only [putCells,Array.getElem?_mapIdx,List.getElem?_toArray,Option.map_eq_some_iff] at hx';obtain ⟨y,hy,rfl⟩:=hx';simp only [Qbr,Qbcv,List.map_map,Nat.mul_one] at hc;by_cases hj:j<ys.length
    ·rw [List.getElem?_append_left (by rw [List.length_map];exact hj),List.getElem?_map,List.getElem?_eq_getElem hj,Option.map_some,Option.some.injEq] at hc;subst hc;rw [if_pos ⟨Nat.zero_le _,by omega⟩];simp only [Nat.sub_zero,id];rw [getElem!_pos F' j (by omega),hFv j hj];simp [RV,RD]
    ·rw [List.getElem?_append_right (by rw [List.length_map];omega)] at hc;have:cc = .und:=(List.mem_replicate.1 (List.mem_of_getElem? hc)).2;subst this;simp [RV]
   ·obtain ⟨j,hj⟩:=List.getElem?_of_mem hx;have hx' : (putCells id 0 F' vals.toArray)[j]? = some x:=by simpa using hj
    simp only [putCells,Array.getElem?_mapIdx,List.getElem?_toArray,Option.map_eq_some_iff] at hx';obtain ⟨y,hy,rfl⟩:=hx';split
    ·rename_i hr;simp only [id];rw [getElem!_pos F' _ (by omega)];obtain ⟨z,hz⟩:=hFi (j-0) (by omega);rw [hz];exact Q5s (x:=.int .i64 z) rfl
    ·exact hone y (List.mem_of_getElem? hy)
  ·rw [Qb2 _ _ hkk] at hk;obtain ⟨k1,k2,k3⟩:=hm.box k b hk;cases b with
   | mp es c =>
    obtain ⟨ents,q1,q2⟩:=k3;have hne:g.box k≠g.box k0:=by
     intro h;rw [h,hown] at k2;cases k2;exact hkk rfl
    exact ⟨k1,k2,ents,(hoth _ hne (Array.getElem?_eq_some_iff.1 q1).1).trans q1,Qi4 (g:=g) (g':=g) hkept (fun _=>by simp) q2⟩
   | cells cs =>
    obtain ⟨vals2,e2,q1,q2,q3⟩:=k3;have hne:g.box k≠g.box k0:=by
     intro h;rw [h,hown] at k2;cases k2;exact hkk rfl
    refine ⟨k1,k2,vals2,e2,(hoth _ hne (Array.getElem?_eq_some_iff.1 q1).1).trans q1,?_,q3⟩;exact RVs_mono hkept hsub (by simp) cs (.box k) 0 vals2 (by simpa using hkk) (hMon k cs hk) q2
 ·by_cases hkk:k=k0
  ·subst hkk;rw [Qfp] at hk;cases hk;exact hnew _
  ·rw [Qb2 _ _ hkk] at hk;exact ons_mono (fun j hj=>There.put hj) _ (hMon k cs hk)
 ·refine ⟨by rw [← hw'];rfl,by rw [← hw'];rfl,by rw [← hw'];rfl,hsize,himm,fun _ _=>rfl,fun b hb ho=>⟨rfl,hoth b ?_ hb,fun _=>Iff.rfl⟩⟩;rintro rfl;rw [hown] at ho;exact ho
end Go.Abs
end
section
namespace Go.Proofs
open Go.Shelf Go.RowKit Go.Lib Go.Sort Go.Abs
theorem Tryz.rowK124:Go.Abs.RowK Tryz.prog 124 (eI .i64) 1 [] Qbdo :=
 Q9z (by kernel_rfl) Tryz.slices_Sort_int Tryz.slices_Sort_int_none
theorem Tryz.compK125:Go.Abs.CompK Tryz.prog 125 Q68 :=
 Q7u (by kernel_rfl) Tryz.slices_Compact_int Tryz.slices_Compact_int_empty
abbrev PlOk:={x:Qc // okPl x=true}
instance:Inhabited PlOk:=⟨⟨⟨0,0⟩,rfl⟩⟩
def cfP (x y:PlOk):Int:=if x.1.ambient_=y.1.ambient_ then x.1.language_-y.1.language_ else x.1.ambient_-y.1.ambient_
theorem Qzu (x y:PlOk):ltOf cfP x y=ltPl x.1 y.1:=by
 unfold ltOf cfP ltPl;apply decide_eq_decide.2;split<;>omega
theorem swoP:SWO (ltOf cfP):={
 irrefl x:=by rw [Qzu];simp [ltPl]
 trans x y z h1 h2:=by rw [Qzu] at *;simp only [ltPl,decide_eq_true_eq] at *;omega
 ntrans x y z h1 h2:=by rw [Qzu] at *;simp only [ltPl,decide_eq_false_iff_not] at *;omega }
set_option maxHeartbeats 1000000 in
theorem Tryz.places146 (x y:PlOk) (W:World):Calls Tryz.prog 146 #[.agg ((Qbe x.1).map D.val).toArray,.agg ((Qbe y.1).map D.val).toArray] W fun e w'=>e = .returned (.int .i64 (cfP x y))∧∃ q os',w'=grow (W.drewN q) os':=by
 obtain ⟨⟨a,b⟩,hx0⟩:=x;obtain ⟨⟨a',b'⟩,hy0⟩:=y;have hx:=hx0;have hy:=hy0;simp only [okPl,decide_eq_true_eq] at hx hy;have w1:IntKind.i64.wrap (a-a')=a-a':=by simp [IntKind.wrap,IntKind.bits,IntKind.signed];omega
 have w2:IntKind.i64.wrap (b-b')=b-b':=by simp [IntKind.wrap,IntKind.bits,IntKind.signed];omega
 have hr:cfP ⟨⟨a,b⟩,hx0⟩ ⟨⟨a',b'⟩,hy0⟩=if a=a' then b-b' else a-a':=rfl;generalize cfP ⟨⟨a,b⟩,hx0⟩ ⟨⟨a',b'⟩,hy0⟩=r at hr ⊢;simp only [Qbe,List.map_cons,List.map_nil,D.val]
 go_enter Tryz.func146,Tryz.ntmps146
 go_wp2
 ·rename_i h;have h:a≠a':=by simpa using h
  go_ret
  exact ⟨by rw [hr,if_neg h];rfl,0,_,by rw [alloc_eq_grow,alloc_eq_grow,grow_grow];rfl⟩
 ·rename_i h;have h:a=a':=by simpa using h
  go_ret
  exact ⟨by rw [hr,if_pos h];rfl,0,_,by rw [alloc_eq_grow,alloc_eq_grow,grow_grow];rfl⟩
set_option maxHeartbeats 1000000 in
theorem Tryz.row145:Q9n Tryz.prog 145 (fun x:PlOk=>Qbe x.1) #[.func (.func 146) #[] #[]] (fun xs=>(pdq (ltOf cfP) xs.toArray 0 xs.length (Lib.bitLen xs.length) true true).toList) :=
 Q1x Tryz.sortP Tryz.isAgg96 Tryz.sizeOf96 (fun x:PlOk=>Qbe x.1) (fun _=>rfl) (by decide) (fun _=>rfl) cfP swoP 146 #[] (enters_of Tryz.func146 (by kernel_rfl) rfl) (fun x y W=>Tryz.places146 x y W)
theorem Tryz.none145 (p:Option Addr) (cap:Nat) (w:World):Calls Tryz.prog 145 (#[.slice p 0 cap] ++ #[.func (.func 146) #[] #[]]) w fun e' w'=>e' = .returned (.tuple #[])∧w'=w :=
 AnyF.slices_SortFunc_none Tryz.sortP p cap (.func (.func 146) #[] #[]) w
theorem Qbdp {g:G} {w:World} {f:Nat} {us:List Value} (h:RFs g w [.clo f []] us):us = #[Value.func (.func f) #[] #[]].toList:=by
 obtain ⟨u,us',rfl,h1,h2⟩:=h;have h1:=h1 .ext;simp only [RV,RVs] at h1;obtain ⟨vs,rfl,rfl⟩:=h1;have:us'=[]:=h2;subst this;rfl
theorem Tryz.rowK145:Go.Abs.RowK Tryz.prog 145 Qbe 2 [.clo 146 []] Q9w :=
 Q9y (e:=Qbe) (sz:=2) (N:=65536) (by decide) (fun _=>rfl) (fun _=>rfl) swoP Qzu (by kernel_rfl) (ex:=#[.func (.func 146) #[] #[]]) (exV:=[.clo 146 []]) (fun _ _ us h=>Qbdp h) Tryz.row145 Tryz.none145
end Go.Proofs
end
section
namespace Go.Abs
open Go Go.RowKit
theorem Qxo {P:Program} {f:FuncId} {args:List V} {x:D} (hx:x.scalar=true) (hb:Qgu P f=true)
  (h:∀ (w:World) (g:G) (us:List Value),(∀ b o,g.imm b o→b<w.heap.size)→RFs g w args us→Calls P f us.toArray w fun e w'=>e = .returned x.val∧Below w.heap.size w w') (M:Mem) (nb:Nat) (hfl0:V.dems args=args:=by rfl):ACalls P f args M nb (.d x) M nb:=by
 refine ACalls.mk' hb (Nat.le_refl _) hfl0 fun w g us hm hMon hus hfl hons=>?_;refine Calls.mono (h w g us (fun b o hi=>(hm.imm b o hi).1) hus) ?_;rintro e w' ⟨rfl,hbw⟩;have hI:Imm g.imm g.imm w w':=⟨fun _ _ h=>h,fun b o hi=>Qd5 (hbw.block b (hm.imm b o hi).1)⟩;have hk:Kept g w g w' (There M) (fun _=>True):=⟨hI,fun _ _=>rfl,fun b _ hlt=>⟨rfl,hbw.block b hlt,fun _=>Iff.rfl⟩⟩;refine ⟨_,g,rfl,hm.kept hk hMon (fun _ _ _=>trivial) trivial (fun _ _=>trivial) (fun b o hi=>?_),?_,trivial,hMon,?_⟩
 ·obtain ⟨h1,h2⟩:=hm.imm b o hi;exact ⟨Nat.lt_of_lt_of_le h1 hbw.size,h2⟩
 ·simp only [RV];exact (Q9m hx).2 rfl
 ·exact ⟨hbw.os,hbw.tape,hbw.output,hbw.size,hI,fun _ _=>rfl,fun b hb _=>⟨rfl,hbw.block b hb,fun _=>Iff.rfl⟩⟩
theorem Q90 {g:G} {w:World} {l:List Int} {k:IntKind} {u:Value} (h:RF g w (.d (.lst 1 (l.map (fun n=>[.int k n])))) u) :
  ∃ a cap,u = .slice a l.length cap∧l.length≤cap∧(l=[]∨∃ b o,a=some ⟨b,o,none⟩∧∀ (i:Nat) n,l[i]? = some n→g.imm b (o+i)∧w.cell? ⟨b,o+i,none⟩=some (.int k n)):=by
 have h:=RF_d.1 h;simp only [RD,List.length_map] at h;obtain ⟨a,cap,rfl,hc,hl⟩:=h;refine ⟨a,cap,rfl,hc,?_⟩;rcases hl with hl|⟨b,o,rfl,hl⟩
 ·exact .inl (by simpa using hl)
 ·refine .inr ⟨b,o,rfl,fun i n hi=>?_⟩;have:=(Qvq hl i [.int k n] (by simp [hi])).2;simp only [RDc,Nat.mul_one,RD] at this;obtain ⟨h1,⟨u,h2,rfl⟩,_⟩:=this;exact ⟨h1,h2⟩
end Go.Abs
end
section
namespace Go.Proofs
open Go.RowKit Go.Abs
theorem Q91 {i:Nat} (h:i<100):(Lib.decDigits i).length≤2:=by
 by_cases h1:i<10
 ·rw [Lib.decDigits_one h1];simp
 ·rw [Lib.decDigits_two h1 h];simp
theorem Q5v:∀ l:List Int,(∀ x∈l,0≤x∧x<100)→(keyL l).length≤3*l.length
 | [],_=>by simp [keyL]
 | x::l,h=>by
  have hx:=h x (by simp);have h1:=Q91 (i:=x.toNat) (by omega);have ih:=Q5v l fun y hy=>h y (by simp [hy]);simp only [keyL,List.flatMap_cons,List.length_append,List.length_cons,List.length_nil] at *
  omega
set_option maxHeartbeats 4000000 in
set_option maxRecDepth 1000000 in
theorem Tryz.key_walk (l:List Int) (hl:l.length≤lim) (hx:∀ x∈l,0≤x∧x<100) (a:Option Addr) (cap:Nat) (w:World)
  (hc:∀ (i:Nat) n,l[i]? = some n→∃ b o,a=some ⟨b,o,none⟩∧b<w.heap.size∧w.cell? ⟨b,o+i,none⟩=some (.int .i64 n)) :
  Calls Tryz.prog 91 #[.slice a l.length cap] w fun e w'=>e = .returned (.string (keyB l))∧Below w.heap.size w w':=by
 have hlim:l.length≤1099511627776:=hl
 go_enter Tryz.func91,Tryz.ntmps91
 go_wp2
 go_loopw [8] (fun vi wr=>∃ (k:Nat),vi = .int .i64 k∧k≤l.length∧Lib.IsBuilderF 161 5 w.heap.size w.heap.size (Lib.byteCells (keyL (l.take k))) wr∧Below w.heap.size w wr) (fun vi _=>l.length-(intOf vi).toNat)
 case atStart =>
  refine ⟨0,rfl,by omega,?_,((Below.refl _ w).alloc (Nat.le_refl _) _)⟩;exact Lib.IsBuilderF.of (Lib.fresh_isBuilder 161 5 w)
 case round =>
  obtain ⟨k,rfl,hk,hI,hbw⟩:=hrel;by_cases hlt:k<l.length
  ·obtain ⟨b,o,rfl,hb,hcell⟩:=hc k l[k] (List.getElem?_eq_getElem hlt);have hcr:wr.cell? ⟨b,o+k,none⟩=some (.int .i64 l[k]):=by
    rw [← hcell];simp only [World.cell?];rw [hbw.block b hb]
   have hxk:=hx l[k] (List.getElem_mem hlt);obtain ⟨n,hn⟩ : ∃ n:Nat,l[k]=(n:Int):=⟨l[k].toNat,by omega⟩;have hn100:n<100:=by omega
   rw [hn] at hcr;have hdl:=Q91 hn100;have hsz:w.heap.size≤wr.heap.size:=hbw.size;have hkl:=Q5v (l.take k) fun x hxm=>hx x (List.mem_of_mem_take hxm);rw [List.length_take] at hkl
   go_wp2_with (go_at_call 103;refine (Tryz.strconv_Itoa_small n hn100 _).mono ?_)
   rintro e W0 ⟨rfl,rfl⟩
   go_wp2_with (go_at_call 102;refine (Tryz.Builder_WriteString_k w.heap.size w.heap.size _ _ _ hI (by rw [Lib.byteCells_length];simp only [ByteArray.size,List.size_toArray];omega) hsz).mono ?_)
   rintro e W1 ⟨rfl,h1,b1,k1⟩;have hsz1:w.heap.size≤W1.heap.size:=Nat.le_trans hsz b1.size;have hlen2:(Lib.byteCells (keyL (l.take k))++Lib.strCells ⟨(Lib.decDigits n).toArray⟩).length+1≤140737488355328:=by
    rw [show Lib.strCells ⟨(Lib.decDigits n).toArray⟩=Lib.byteCells (Lib.decDigits n) from rfl,List.length_append,Lib.byteCells_length,Lib.byteCells_length];omega
   go_wp2_with (go_at_call 104;refine (Tryz.Builder_WriteByte_k w.heap.size w.heap.size _ 32 _ (Or.inr h1) hlen2 hsz1).mono ?_)
   rintro e W2 ⟨rfl,h2,b2,k2⟩
   go_wp2
   go_roundw
   case rel =>
    refine ⟨k+1,by simp,by omega,?_,(hbw.trans b1).trans b2⟩;have e1:keyL (l.take (k+1))=keyL (l.take k)++Lib.decDigits n++[32]:=by
     rw [List.take_succ_eq_append_getElem hlt];simp only [keyL,List.flatMap_append,List.flatMap_cons,List.flatMap_nil,List.append_nil,hn,Int.toNat_natCast,List.append_assoc]
    rw [e1,Lib.byteCells_append,Lib.byteCells_append];exact Or.inr h2
   case measure =>
    simp [intOf];omega
  ·have hk2:k=l.length:=by omega
   subst hk2
   go_wp2_with (go_at_call 105;refine (Tryz.Builder_String_any_k w.heap.size w.heap.size _ _ hI hbw.size).mono ?_)
   rintro e W1 ⟨rfl,_,b1,_⟩
   go_wp2
   go_ret
   refine ⟨?_,hbw.trans b1⟩
   first|rfl|(rw [List.take_length];rfl)|(simp [keyB,List.take_length])
theorem Tryz.keyK:Go.Abs.K_product_key Tryz.prog 91 keyI:=by
 intro l r h;unfold keyI at h;split at h<;>cases h;rename_i hc;intro M nb;refine Qxo rfl (by kernel_rfl) (fun w g us himm hus=>?_) M nb;obtain ⟨u,us',rfl,hu,hus'⟩:=hus;simp only [RFs] at hus';subst hus';obtain ⟨a,cap,rfl,hcap,hl⟩:=Q90 hu;refine Tryz.key_walk l hc.1 hc.2 a cap w fun i n hi=>?_;rcases hl with rfl|⟨b,o,rfl,hl⟩
 ·simp at hi
 ·exact ⟨b,o,rfl,himm _ _ (hl i n hi).1,(hl i n hi).2⟩
end Go.Proofs
end
section
namespace Go
theorem Qt9 {P:Program} {w:World} (base:Nat) (t ty e:TypeId) (i:TypeInfo) (size:Nat) (ht:P.underlying t=some (.slice e)) (hi:P.info? e=some i)
  (v:Value) (n:Nat) (xs:List Value) (hown:w.ownsRow base e size v n xs) (ao:Option Addr) (c:Nat) :
  (Builtin.append_ #[t,t] ty #[v,.slice ao 0 c]).run P w = .ok v w:=by
 rcases hown.2 with ⟨rfl,rfl⟩|⟨g,cap,cur,rfl,_,_,hnc,_⟩
 ·cases ao<;>simp [Builtin.append_,run_underlying ht,sizeOf,typeInfo,hi,Builtin.lenOf,Builtin.firstCells,loadCells,loadCellsFrom]
 ·cases ao<;>simp [Builtin.append_,run_underlying ht,sizeOf,typeInfo,hi,Builtin.lenOf,Builtin.firstCells,hnc,storeCells,loadCells,loadCellsFrom]
theorem Qxp {P:Program} {w:World} {ops:Array Oper} {rest:List Oper} {o:Oper} {a:Act} {Q:Exit→Act→World→Prop} (hgd:o.guard=none) (s x:Operand) (t:TypeId)
  (ho:o.op = .call { callee:=.builtin .append,args:=#[s,x],argTypes:=#[t,t] })
  (base:Nat) (e:TypeId) (i:TypeInfo) (z:Value) (size bytes:Nat) (ht:P.underlying t=some (.slice e)) (hi:P.info? e=some i) (hz:i.zero=some z)
  (hsize:i.size=size) (hby:i.bytes=bytes) (hzs:z.cells.size=size) (hsz:0<size)
  (v:Value) (n:Nat) (xs:List Value) (hs:a.eval s=v) (hown:w.ownsRow base e size v n xs)
  (ao:Option Addr) (m c:Nat) (news:List Value) (hx:a.eval x = .slice ao m c) (hl:news.length=m*size) (hnews:∀ ad,ao=some ad→∀ j u,news[j]? = some u→w.cell? (ad.add j)=some u) (hno:ao=none→m=0) (h1:∀ u∈news,u.oneCell'=true)
  (h63:n+m≤maxLen) (hbytes:(n+m)*bytes≤140737488355328) (hbase:base≤w.heap.size)
  (h:∀ v' w',w'.ownsRow base e size v' (n+m) (xs++news)→w.grownBy w' v.ownBlock→wpList P ops Q rest (a.put o.dst v') w'):wpList P ops Q (o::rest) a w:=by
 by_cases hm:m=0
 ·subst hm;have:news=[]:=List.eq_nil_of_length_eq_zero (by simpa using hl);subst this;refine wpList_plain hgd fun K hK=>?_;have hrun:=Qt9 (P:=P) (w:=w) base t o.type e i size ht hi v n xs hown ao c;unfold Oper.wp;simp [execOp,ho,resolve,invoke,builtin,hs,hx,hrun,Result.andThen];exact hK _ _ (h _ _ (by simpa using hown) (World.grownBy.refl w _))
 ·cases ao with
  | none=>exact absurd (hno rfl) hm
  | some ad=>exact wpList_append_own w hgd s x t ho base e i z size bytes ht hi hz hsize hby hzs hsz v n xs hs hown ad m c news hx hl (hnews ad rfl) h1 h63 hbytes hbase fun v' w' h2 h3 _=>h v' w' h2 h3
end Go
namespace Go.Proofs
open Go.RowKit Go.Abs
set_option maxHeartbeats 4000000 in
set_option maxRecDepth 1000000 in
theorem Tryz.rkey_walk (x y:Int) (l:List Int) (hl:l.length+2≤lim) (hx:∀ z∈x::y::l,0≤z∧z<100) (a:Option Addr) (cap:Nat) (w:World)
  (hc:∀ (i:Nat) n,l[i]? = some n→∃ b o,a=some ⟨b,o,none⟩∧b<w.heap.size∧w.cell? ⟨b,o+i,none⟩=some (.int .i64 n)) :
  Calls Tryz.prog 53 #[.agg #[.int .i64 x,.int .i64 y],.slice a l.length cap] w fun e w'=>e = .returned (.string (keyB (x::y::l)))∧Below w.heap.size w w':=by
 have hlim:l.length+2≤1099511627776:=hl;obtain ⟨i0,hi,hz0,hz1,hz2⟩:=info_parts (P:=Tryz.prog) (e:=3) (z:=.int .i64 0) (size:=1) (bytes:=8) (by kernel_rfl)
 go_enter Tryz.func53,Tryz.ntmps53
 go_wp2_with (at_builtin;refine Qxp rfl _ _ 32 rfl (w.heap.size+2) 3 i0 (.int .i64 0) 1 8 Tryz.underlying32 hi hz0 hz1 hz2 rfl (by decide) _ 2 [.int .i64 x,.int .i64 y] rfl ?own a l.length cap (l.map (Value.int .i64)) rfl (by simp) ?news ?none ?one (by unfold maxLen;omega) (by omega) ?base ?rest)
 case own =>
  have:=World.ownsRow_lit (base:=w.heap.size+2) (e:=3) (size:=1) ((w.alloc (.cells #[.int .i64 x,.int .i64 y] 96)).alloc (.cells #[.pointer none,.slice none 0 0] 161)) #[.int .i64 x,.int .i64 y] 2 (by simp) (by unfold maxLen;omega) rfl;simp at this;exact this
 case news =>
  intro ad had j u hj;rw [List.getElem?_map] at hj;obtain ⟨n,hn,rfl⟩:=Option.map_eq_some_iff.1 hj;obtain ⟨b,o,rfl,hb,hcell⟩:=hc j n hn;cases had;rw [← hcell];have hB:Below w.heap.size w (((w.alloc (.cells #[.int .i64 x,.int .i64 y] 96)).alloc (.cells #[.pointer none,.slice none 0 0] 161)).alloc (.cells #[.int .i64 x,.int .i64 y] 3)) :=
   (((Below.refl _ w).alloc (Nat.le_refl _) _).alloc (by simp) _).alloc (by simp;omega) _
  simp only [World.cell?,Addr.add_lit];rw [hB.block b hb]
 case none =>
  intro ha;cases l with
  | nil=>rfl
  | cons z l =>
   obtain ⟨b,o,h,_⟩:=hc 0 z rfl;rw [ha] at h;cases h
 case one =>
  intro u hu;obtain ⟨n,_,rfl⟩:=List.mem_map.1 hu
  rfl
 case base=>simp
 intro v' wA hown hgrow;obtain ⟨hlen,⟨rfl,h0⟩|⟨g,cap',cur,rfl,hbg,hg,hnc,hcm,hcs,htake⟩⟩:=hown
 ·omega
 have hbA:wA.heap[w.heap.size+1]? = some (.cells #[.pointer none,.slice none 0 0] 161 (0,0)):=by
  rw [hgrow.block (w.heap.size+1) (by simp) (by simp [Value.ownBlock])];rw [Lib.alloc_old _ _ _ (by simp),show w.heap.size+1=(w.alloc (.cells #[.int .i64 x,.int .i64 y] 96)).heap.size from by simp];exact heap_alloc_new _ _
 have hBA:Below w.heap.size w wA:=by
  have hB:Below w.heap.size w (((w.alloc (.cells #[.int .i64 x,.int .i64 y] 96)).alloc (.cells #[.pointer none,.slice none 0 0] 161)).alloc (.cells #[.int .i64 x,.int .i64 y] 3)) :=
   (((Below.refl _ w).alloc (Nat.le_refl _) _).alloc (by simp) _).alloc (by simp;omega) _
  exact hB.grown hgrow (by simp;omega) (fun k hk=>by simp [Value.ownBlock] at hk;omega)
 have hszA:w.heap.size+1≤wA.heap.size:=by have:=hgrow.size;simp at this;omega
 have hcur:∀ (k:Nat) z,(x::y::l)[k]? = some z→cur[k]? = some (.int .i64 z):=by
  intro k z hz;have hk:=(List.getElem?_eq_some_iff.1 hz).1;simp only [List.length_cons] at hk;have h1:(cur.toList.take ((2+l.length)*1))[k]? = some (.int .i64 z):=by
   rw [htake];show ((x::y::l).map (Value.int .i64))[k]? = _;rw [List.getElem?_map,hz];rfl
  rw [List.getElem?_take_of_lt (by omega)] at h1;simpa using h1
 generalize hxs:x::y::l=xs at hx hcur;have hN:xs.length=2+l.length:=by rw [← hxs];simp;omega
 go_wp2
 go_loopw [16] (fun vi wr=>∃ (k:Nat),vi = .int .i64 k∧k≤xs.length∧Lib.IsBuilderF 161 5 (w.heap.size+1) (w.heap.size+1) (Lib.byteCells (keyL (xs.take k))) wr∧Below w.heap.size w wr∧wr.heap[g]? = some (.cells cur 3 (0,0))∧w.heap.size+1≤wr.heap.size) (fun vi _=>xs.length-(intOf vi).toNat)
 case atStart =>
  exact ⟨0,rfl,by omega,Lib.IsBuilderF.of (Or.inl ⟨Nat.le_refl _,.slice none 0 0,hbA,World.ownsRow_nil _ _ _ _,by simp [Value.ownBlock]⟩),hBA,hg,hszA⟩
 case round =>
  obtain ⟨k,rfl,hk,hI,hbw,hgr,hsz⟩:=hrel;by_cases hlt:k<xs.length
  ·have hxk:=hx xs[k] (List.getElem_mem hlt);have hcr:wr.cell? ⟨g,k,none⟩=some (.int .i64 xs[k]):=by
    simp only [World.cell?,hgr];exact hcur k _ (List.getElem?_eq_getElem hlt)
   have hcr0:wr.cell? ⟨g,0+k,none⟩=some (.int .i64 xs[k]):=by rw [Nat.zero_add];exact hcr
   obtain ⟨n,hn⟩ : ∃ n:Nat,xs[k]=(n:Int):=⟨xs[k].toNat,by omega⟩;have hn100:n<100:=by omega
   rw [hn] at hcr hcr0;have hdl:=Q91 hn100;have hkl:=Q5v (xs.take k) fun x hxm=>hx x (List.mem_of_mem_take hxm);rw [List.length_take] at hkl
   go_wp2_with (go_at_call 103;refine (Tryz.strconv_Itoa_small n hn100 _).mono ?_)
   rintro e W0 ⟨rfl,rfl⟩
   go_wp2_with (go_at_call 102;refine (Tryz.Builder_WriteString_k (w.heap.size+1) (w.heap.size+1) _ _ _ hI (by rw [Lib.byteCells_length];simp only [ByteArray.size,List.size_toArray];omega) hsz).mono ?_)
   rintro e W1 ⟨rfl,h1,b1,k1⟩;have hsz1:w.heap.size+1≤W1.heap.size:=Nat.le_trans hsz b1.size;have hlen2:(Lib.byteCells (keyL (xs.take k))++Lib.strCells ⟨(Lib.decDigits n).toArray⟩).length+1≤140737488355328:=by
    rw [show Lib.strCells ⟨(Lib.decDigits n).toArray⟩=Lib.byteCells (Lib.decDigits n) from rfl,List.length_append,Lib.byteCells_length,Lib.byteCells_length];omega
   go_wp2_with (go_at_call 104;refine (Tryz.Builder_WriteByte_k (w.heap.size+1) (w.heap.size+1) _ 32 _ (Or.inr h1) hlen2 hsz1).mono ?_)
   rintro e W2 ⟨rfl,h2,b2,k2⟩
   go_wp2
   go_roundw
   case rel =>
    have hgb:some g≠some (w.heap.size+1):=by simp;omega
    have hne:∀ c fz,Obj.cells cur 3 (0,0)≠Obj.cells c 5 fz:=by intro c fz h;cases h
    refine ⟨k+1,by simp,by omega,?_,(hbw.trans (b1.mono (by omega))).trans (b2.mono (by omega)),k2 _ _ (k1 _ _ hgr hgb hne) hgb hne,Nat.le_trans hsz1 b2.size⟩;have e1:keyL (xs.take (k+1))=keyL (xs.take k)++Lib.decDigits n++[32]:=by
     rw [List.take_succ_eq_append_getElem hlt];simp only [keyL,List.flatMap_append,List.flatMap_cons,List.flatMap_nil,List.append_nil,hn,Int.toNat_natCast,List.append_assoc]
    rw [e1,Lib.byteCells_append,Lib.byteCells_append];exact Or.inr h2
   case measure =>
    simp [intOf];omega
  ·have hk2:k=xs.length:=by omega
   subst hk2
   go_wp2_with (go_at_call 105;refine (Tryz.Builder_String_any_k (w.heap.size+1) (w.heap.size+1) _ _ hI hsz).mono ?_)
   rintro e W1 ⟨rfl,_,b1,_⟩
   go_wp2
   go_ret
   refine ⟨?_,hbw.trans (b1.mono (by omega))⟩;have ht:List.take (2+l.length) (x::y::l)=x::y::l:=by
    rw [show 2+l.length=(x::y::l).length from by simp;omega];exact List.take_length
   simp only [keyB,List.take_length,← hxs];rw [ht];rfl
theorem Tryz.rkeyK:Go.Abs.K_relative_key Tryz.prog 53 Qba2:=by
 intro x l r h;unfold Qba2 keyI at h;split at h<;>cases h;rename_i hc;intro M nb;refine Qxo rfl (by kernel_rfl) (fun w g us himm hus=>?_) M nb;obtain ⟨u0,us0,rfl,hu0,u,us',rfl,hu,hus'⟩:=hus;simp only [RFs] at hus';subst hus';obtain ⟨a,cap,rfl,hcap,hl⟩:=Q90 hu;have h0:=hu0 .ext;simp only [RV,RVs,RD] at h0;obtain ⟨vs,rfl,⟨u,us,rfl,rfl,u2,us2,rfl,rfl,rfl⟩,_⟩:=h0;have hc1:=hc.1;simp only [List.length_cons] at hc1;refine Tryz.rkey_walk x.ambient_ x.language_ l hc1 hc.2 a cap w fun i n hi=>?_;rcases hl with rfl|⟨b,o,rfl,hl⟩
 ·simp at hi
 ·exact ⟨b,o,rfl,himm _ _ (hl i n hi).1,(hl i n hi).2⟩
end Go.Proofs
end
section

end
section
namespace Go.Proofs
open Go Go.Abs
set_option maxRecDepth 10000
set_option maxHeartbeats 4000000
theorem Qua:Qig Tryz.prog 39 Ql9:=Qrl Qu2
theorem Qub:Qih Tryz.prog 97 Qge:=Qrm Qu4 Qbp
theorem Qwg:Qjw Tryz.prog 108 Qho:=Qtm Qxh Qbp
theorem Qc6:Qcc Tryz.prog 62 Qby:=Qql Qwg Qt1
theorem Qrt:Qhe Tryz.prog 98 Qfr:=Qpi Qc6 Qss Qbp
theorem Qhs:Qfc Tryz.prog 48 Qem:=Qus Qub Qrt Qye
theorem Qq1:Qiz Tryz.prog 139 Qi1:=Qvz Qzc Qbp
theorem Qwh:Qjx Tryz.prog 140 Qj9:=Qtn Qxj
theorem Qyl:Qlv Tryz.prog 99 Qi2:=Qv0 Qq1 Qwh Qy9
theorem Qxq:Qkx Tryz.prog 49 Qfe:=Qut Qyl Qyf
theorem Qu5:Qi6 Tryz.prog 50 Qg0:=Qse Qwa Qbp
theorem Qk5:Qg7 Tryz.prog 22 Qf0:=Qv1 Qhs Qxq Qu5 Qy7 Qbp
theorem Qze:Qne Tryz.prog 88 Qt5:=Qw4 Qhs Q06 Qbp
theorem Qwi:Qjy Tryz.prog 172 Qo6:=Qto Qxm
theorem Qym:Qlw Tryz.prog 155 Qr8:=Qv2 Qq1 Qwi Qzd
theorem Qyn:Qlx Tryz.prog 131 Qr9:=Qv3 Qym Qza Qbp
theorem Q1g:Qpg Tryz.prog 89 Qvl:=Qx9 Qyn Q1u Qbp
theorem Qog:Qf7 Tryz.prog 90 Qis:=Qmj Qps Qbp
theorem Qzf:Qnf Tryz.prog 171 Qt6:=Qw5 Q1a
theorem Q1h:Qph Tryz.prog 153 Qvm:=Qya Qzf Q1v
theorem Qwj:Qjz Tryz.prog 154 Qo7:=Qtp Qxl
theorem Qie:Qeo Tryz.prog 128 Qgc:=Qmk Q1h Qwj Qpu Qbp
theorem Qij:Qfh Tryz.prog 85 Qg1:=Qsf Qie Qwb
theorem Qpw:Qgj Tryz.prog 92 Qjm:=Qns Qij Qqs Qbp
theorem Qdg:Qct Tryz.prog 58 Qc9:=Qtq Qxe
theorem Qru:Qhf Tryz.prog 93 Qko:=Qpj Qdg Qij Qsr Qbp
theorem Qkr:Qf5 Tryz.prog 42 Qh3:=Qqm Qze Q1g Qog Tryz.keyK Qpw Qru Qt0 Qbp
theorem Qpa:Qh8 Tryz.prog 43 Qk3:=Quu Qkr Qyc
theorem Qlq:Qe6 Tryz.prog 118 Qg9:=Qkg Ql1 Qbp
theorem Qxr:Qky Tryz.prog 119 Qqx:=Quv Qyj
theorem Qxs:Qkz Tryz.prog 120 Qqy:=Quw Qyk
theorem Qzg:Qnh Tryz.prog 79 Qt7:=Qw6 Qlq Qxr Qxs Q05
theorem Qsv:Qhy Tryz.prog 132 Qlp:=Qqn Qdg Qzg Qie Qt3 Qbp
theorem Qwk:Qj0 Tryz.prog 94 Qo8:=Qtr Qhs Qsv Qxf Qbp
theorem Qsb:Qj1 Tryz.prog 134 Qn0:=Qw7 Q09 Qbp
theorem Qsc:Qj2 Tryz.prog 133 Qn1:=Qw8 Q08 Qbp
theorem Qu6:Qi7 Tryz.prog 136 Qn2:=Qsg Qwd
theorem Qyo:Qly Tryz.prog 135 Qsa:=Qv4 Qzb Qbp
theorem Qu7:Qi8 Tryz.prog 138 Qn3:=Qsh Qwf
theorem Qu8:Qi9 Tryz.prog 137 Qn4:=Qsi Qu7 Qwe Qbp
theorem Qxt:Qk0 Tryz.prog 96 Qqz:=Qux Qsc Qsb Qyo Qu6 Qu8 Qyi Qbp
theorem Qzh:Qnl Tryz.prog 95 Qt8:=Qw9 Qdg Qsc Qsb Q07 Qbp
theorem Qn6:Qhl Tryz.prog 45 Qka:=Qts Qhs Qzh Qxt Qxd
theorem Qpb:Qh9 Tryz.prog 44 Qk4:=Quy Qn6 Qdg Qwk Qyd
theorem Qmb:Qgw Tryz.prog 16 Qfl:=Qsj Qk5 Qpa Qpb Qv6
theorem Qwl:Qj3 Tryz.prog 100 Qo9:=Qtt Qxg Qbp
theorem Qht:Qfd Tryz.prog 51 Qen:=Quz Qmb Qkr Qwl Qyg Qbp
theorem Qb5:Qbs Tryz.prog 63 Qbz:=Qqo Qt2
theorem Qea:Qc4 Tryz.prog 59 Qdt:=Qpk Qc6 Qsp
theorem Qiw:Qe0 Tryz.prog 101 Qgn:=Qnt Qdg Qea Qc6 Qb5 Tryz.rowK124 Tryz.compK125 Qqt Qbp
theorem Qoh:Qf9 Tryz.prog 52 Qit:=Qml Qiw Qpp
theorem Qfx:Qdu Tryz.prog 65 Qep:=Qmm Qb5 Qpr
theorem Ql2:Qe8 Tryz.prog 107 Qhp:=Qk2 Qb5 Qmp
theorem Qrv:Qhg Tryz.prog 143 Qkp:=Qpl Qsu Qbp
theorem Qoi:Qga Tryz.prog 106 Qiu:=Qmn Qrv Qpt
theorem Qn7:Qfv Tryz.prog 54 Qic:=Qlz Qc6 Qfx Qoi Ql2 Qoe Qbp
theorem Quc:Qlc Tryz.prog 56 Qpv:=Qyb Qij Q1t Qbp
theorem Qq2:Qgx Tryz.prog 55 Qkb:=Qoc Qdg Qea Qb5 Qrp Qbp
theorem Qg3:Qef Tryz.prog 57 Qfs:=Qpm Qb5 Qso
theorem Qoj:Qgb Tryz.prog 60 Qiv:=Qmo Qc6 Qb5 Qiw Qpq Qbp
theorem Qq3:Qi0 Tryz.prog 23 Qha:=Qv5 Qht Qoh Tryz.rkeyK Qn7 Qq2 Quc Qg3 Qdg Qea Qoj Qy8 Qbp
theorem Qn8:Qfw Tryz.prog 144 Qid:=Ql0 Qof
theorem Q5w:Qo0 Tryz.prog 146 Qxn:=Qtu Qxk
theorem Qix:Qe1 Tryz.prog 110 Qgo:=Qnu Qg3 Qea Qn8 Tryz.rowK145 Qqu Qbp
theorem Qrw:Qhh Tryz.prog 111 Qkq:=Qpn Tryz.rkeyK Qst Qbp
theorem Qpx:Qgk Tryz.prog 113 Qjn:=Qnv Qfx Qqv
theorem Qpy:Qgl Tryz.prog 147 Qjo:=Qnw Qqw Qbp
theorem Qmq:Qfk Tryz.prog 112 Qh4:=Qln Qpy Qny
theorem Qq4:Qgy Tryz.prog 114 Qkc:=Qod Qg3 Qix Qrq Qbp
theorem Qkf:Qfq Tryz.prog 66 Qhi:=Qpo Qn6 Qdg Qea Qc6 Qb5 Qix Qrw Qmq Qpx Qq4 Qsq Qbp
theorem Qn9:Qhn Tryz.prog 109 Qkd:=Qtv Qxi Qbp
theorem Qu9:Qja Tryz.prog 115 Qn5:=Qsk Qwc Qbp
theorem Qxu:Qk1 Tryz.prog 67 Qq0:=Qu0 Qn9 Qu9 Qyh
theorem Qmc:Qgz Tryz.prog 26 Qfm:=Qsl Qht Qkf Qxu Qv8 Qbp
theorem Qpz:Qgm Tryz.prog 28 Qjp:=Qnx Qqr Qbp
theorem Qsw:Qh0 Tryz.prog 12 Qh5:=Qqp Qq3 Qmc Qpz Qua Qty
theorem Qlr:Qgd Tryz.prog 21 Qe7:=Qrn Qu1 Qbp
theorem Qva:Qjb Tryz.prog 47 Qg2:=Qsm Qv9 Qbp
theorem Qsx:Qh1 Tryz.prog 19 Qex:=Qqq Qlr Qva Qtz Qbp
theorem Qvb:Qjc Tryz.prog 20 Qfn:=Qsn Qv7 Qbp
theorem Qwm:Qj6 Tryz.prog 15 Qhq:=Qtw Qk5 Qpa Qpb Qxb
theorem Qud:Qii Tryz.prog 61 Qma:=Qro Qb5 Qu3 Qbp
theorem Q3q:Qtk Tryz.prog 64 Qy4:=Q03 Qn9 Q41
theorem Qwn:Qj7 Tryz.prog 24 Qhr:=Qtx Qht Quc Qud Qc6 Qb5 Q3q Qfx Qxc
theorem Qzi:Qnr Tryz.prog 25 Qke:=Qxa Qht Qkf Q04
theorem Qyp:Qgr Tryz.prog 4 Qey:=Qj8 Qsw Qwm Qmb Qsx Qvb Qlr Qk5 Qq3 Qwn Qzi Qmc Qlo Qbp
end Go.Proofs
end
section
namespace Go.Abs
open Go Go.ChangeShapes Go.WideShapes Go.ChangeAt Go.RowKit
def live (w:World):Nat→Nat→Prop:=fun b o=>(w.cell? ⟨b,o,none⟩).isSome=true
def RDs (w:World):List D→List Value→Prop
 | [],vs=>vs=[]
 | x::xs,vs=>∃ u us,vs=u::us∧RD (live w) w x u∧RDs w xs us
theorem Q2y {w:World}:∀ {xs ys:List D} {us vs:List Value},RDs w xs us→RDs w ys vs→RDs w (xs++ys) (us++vs)
 | [],ys,us,vs,h,k=>by grind [RDs]
 | x::xs,ys,us,vs,⟨u,us',e,r,h⟩,k=>by subst e;exact ⟨u,us'++vs,by simp,r,Q2y h k⟩
def RDat (w:World) (cs:List Value) (off:Nat) (xs:List D):Prop:=RDs w xs ((cs.drop off).take xs.length)
theorem RDat.app {w:World} {cs:List Value} {off:Nat} {xs ys:List D} (h:RDat w cs off xs) {n:Nat} (hn:n=off+xs.length) (k:RDat w cs n ys):RDat w cs off (xs++ys):=by
 grind [Q2y,RDat,List.length_append,List.drop_drop]
theorem RDat.nil {w:World} {cs:List Value} {off:Nat}:RDat w cs off []:=by simp [RDat,RDs]
theorem RDat.all {w:World} {cs:List Value} {xs:List D} (h:RDat w cs 0 xs) (hl:cs.length=xs.length):RDs w xs cs:=by
 grind [RDat,List.take_length]
theorem Q92 {w:World} {b:Nat}:∀ {xs:List D} {vs:List Value} {o:Nat},RDs w xs vs→(∀ i v,vs[i]? = some v→w.cell? ⟨b,o+i,none⟩=some v)→RDc (live w) w b xs o
 | [],vs,o,_,_=>by simp [RDc]
 | x::xs,vs,o,⟨u,us,e,r,h⟩,hc=>by
  subst e;have h0:=hc 0 u rfl;rw [Nat.add_zero] at h0;refine ⟨by simp [live,h0],⟨u,h0,r⟩,Q92 h fun i v hv=>?_⟩;have:=hc (i+1) v (by simpa using hv)
  grind
def Q1i {α:Type} (P:Program) (t:TypeId) (e:α→List D) (wf:α→Prop):Prop :=
 ∀ {H:Type} {enc:TypeId×Value→H} {w:World} {base:Nat} {spare:Nat→Bool} {held:Bool} {fuel:Nat} {cs:List Value} {x:DataW H×List MemPlace},
  DataW.trod enc P w base spare held fuel t cs=some x→∃ a,wf a∧RDs w (e a) cs
def wfI (k:IntKind) (n:Int):Prop:=(Lit.int k n).wf=true
def wfL {α:Type} (wf:α→Prop) (l:List α):Prop:=l.length≤maxLen∧∀ a∈l,wf a
variable {P:Program} {t:TypeId}
theorem Q93 {k:IntKind} (ht:P.underlying t=some (.int k)):Q1i P t (fun n:Int=>[.int k n]) (wfI k):=by
 intro H enc w base spare held fuel cs x h;obtain ⟨n,rfl,_,hw⟩:=DataW.trod_int ht h;exact ⟨n,hw,_,_,rfl,by simp [RD],rfl⟩
theorem cells?_get {w:World} {base:Nat} {a:Addr} {n:Nat} {cs:List Value} (h:w.cells? base a n=some cs):cs.length=n∧∀ i v,cs[i]? = some v→w.cell? (a.add i)=some v:=by
 obtain ⟨h1,h2,h3⟩:=World.cells?_some h
 grind
theorem Q1j {α:Type} {el:TypeId} {e:α→List D} {wf:α→Prop} {sz:Nat} (ht:P.underlying t=some (.slice el)) (he:Q1i P el e wf) (hsz:P.cellsOf el=sz) (hpos:0<sz) (hlen:∀ a,(e a).length=sz) :
  Q1i P t (fun l:List α=>[.lst sz (l.map e)]) (wfL wf):=by
 intro H enc w base spare held fuel cs x h;rcases DataW.trod_slice ht h with ⟨rfl,_⟩|⟨a,len,cap,Qe9,rest,n,_,rfl,_,hb,hl,hm,helen,hel,_,_⟩
 ·exact ⟨[],⟨by simp,by simp⟩,_,_,rfl,by simp only [RD,List.map_nil,List.length_nil];exact ⟨none,0,rfl,Nat.le_refl _,.inl trivial⟩,rfl⟩
 ·have key:∀ m,m≤len→∃ l:List α,l.length=m∧(∀ x∈l,wf x)∧∀ i y,l[i]? = some y→∃ vs,w.cells? base (a.add (i*sz)) sz=some vs∧RDs w (e y) vs:=by
   intro m
   induction m with
   | zero=>simp_all
   | succ m ih =>
    intro hm';obtain ⟨l,h1,h2,h3⟩:=ih (by omega);have h4:=hel m (by omega);have h5:Qe9[m]? = some Qe9[m]:=List.getElem?_eq_getElem (by omega);rw [h5,hsz,Option.bind_eq_some_iff] at h4;obtain ⟨vs,h6,h7⟩:=h4;obtain ⟨y,h8,h9⟩:=he h7;refine ⟨l++[y],by simp [h1],?_,fun i z hz=>?_⟩
    all_goals grind
  obtain ⟨l,h1,h2,h3⟩:=key len (Nat.le_refl _);have hmax:l.length≤maxLen:=by omega
  refine ⟨l,⟨hmax,h2⟩,_,_,rfl,?_,rfl⟩;simp only [RD,List.length_map,h1];refine ⟨some a,cap,rfl,hl,?_⟩;cases l with
  | nil=>exact .inl rfl
  | cons y l =>
   right;have hspot:a.spot=none:=by
    obtain ⟨vs,h4,h5⟩:=h3 0 y rfl;obtain ⟨h6,h7⟩:=cells?_get h4;have hv:vs[0]? = some vs[0]:=List.getElem?_eq_getElem (by omega);have:=h7 0 _ hv;cases hs:a.spot with
    | none=>rfl
    | some s =>
     grind [Go.World.cell?,Go.Addr.add]
   obtain ⟨b,o,sp⟩:=a;simp only at hspot;subst hspot;refine ⟨b,o,rfl,?_⟩;have row:∀ (l:List α) (j:Nat),(∀ i y,l[i]? = some y→∃ vs,w.cells? base ((⟨b,o,none⟩ : Addr).add ((j+i)*sz)) sz=some vs∧RDs w (e y) vs)→RDL (live w) w sz b (l.map e) (o+j*sz):=by
    intro l
    induction l with
    | nil=>intro j _;simp [RDL]
    | cons y l ih =>
     intro j h;obtain ⟨vs,h4,h5⟩:=h 0 y rfl;obtain ⟨h6,h7⟩:=cells?_get h4;refine ⟨hlen y,Q92 h5 fun i v hv=>?_,?_⟩
     ·grind [Qf1,Nat.add_assoc]
     ·have:=ih (j+1) fun i y hy=>by
       have:=h (i+1) y (by simpa using hy)
       grind
      grind
   have:=row (y::l) 0 fun i y hy=>by simpa using h3 i y hy
   simpa using this
theorem Qi3 {α:Type} {el:TypeId} {e:α→List D} {wf:α→Prop} {sz:Nat} (he:Q1i P el e wf) (hsz:P.cellsOf el=sz) (hlen:∀ a,(e a).length=sz)
  {H:Type} {enc:TypeId×Value→H} {w:World} {base:Nat} {spare:Nat→Bool} {held:Bool} {fuel off:Nat} {cs:List Value} {x:DataW H×List MemPlace}
  (h:DataW.trod enc P w base spare held fuel el ((cs.drop off).take (P.cellsOf el))=some x):∃ a,wf a∧RDat w cs off (e a):=by
 obtain ⟨a,h1,h2⟩:=he h
 grind [RDat]
theorem Q1k {H:Type} {enc:TypeId×Value→H} {w:World} {base:Nat} {spare:Nat→Bool} {held:Bool} {fuel:Nat} {cs:List Value} {x:DataW H×List MemPlace} {fs:Array Field}
  (ht:P.underlying t=some (.struct fs)) (h:DataW.trod enc P w base spare held fuel t cs=some x) :
  cs.length=P.cellsOf t∧∃ n,∀ (i:Nat) (f:Field),fs[i]? = some f→∃ y,DataW.trod enc P w base spare held n f.type ((cs.drop f.offset).take (P.cellsOf f.type))=some y:=by
 obtain ⟨xs,n,_,_,h1,h2,h3⟩:=DataW.trod_struct ht h;refine ⟨h1,n,fun i f hf=>?_⟩
 grind
def Q3r {α:Type} (P:Program) (t:TypeId) (v:α→V) (wf:α→Prop):Prop :=
 ∀ {H:Type} {enc:TypeId×Value→H} {w:World} {base b0:Nat} {spare:Nat→Bool} {held:Bool} {u:Value} {d:DataW H} {ps:List MemPlace},
  Value.okWide P w .any b0 t u→DataW.Trod enc P w base spare held t u d ps→∃ a,wf a∧RF ⟨fun _=>0,live w,fun _=>.ext⟩ w (v a) u
theorem Qbdq {imm:Nat→Nat→Prop} {w:World} {x:D} {u:Value} (h:RD imm w x u):u.oneCell'=true:=by
 cases x with
 | int k n=>simp only [RD] at h;subst h;rfl
 | bool b=>simp only [RD] at h;subst h;rfl
 | str s=>simp only [RD] at h;subst h;rfl
 | lst sz l=>simp only [RD] at h;obtain ⟨a,cap,rfl,_⟩:=h;cases a<;>rfl
 | mp es c=>simp only [RD] at h;obtain ⟨b,rfl,_⟩:=h;rfl
theorem Q94 {w:World} {g:G} (hg:g.imm=live w):∀ {xs:List D} {us:List Value} {ℓ:Owner} {i:Nat},RDs w xs us→RVs g w (xs.map V.d) ℓ i us∧∀ u∈us,u.oneCell'=true
 | [],us,ℓ,i,h=>by grind [RDs,RVs]
 | x::xs,us,ℓ,i,⟨u,us',e,r,h⟩=>by
  subst e;obtain ⟨h1,h2⟩:=Q94 hg (ℓ:=ℓ) (i:=i+1) h;refine ⟨⟨u,us',rfl,by simpa [RV,hg] using r,h1⟩,fun v hv=>?_⟩;rcases List.mem_cons.1 hv with rfl|hv
  ·exact Qbdq r
  ·exact h2 v hv
theorem Qbcw {α:Type} {e:α→List D} {wf:α→Prop} (he:Q1i P t e wf) (hagg:(∃ fs,P.underlying t=some (.struct fs))∨∃ n el,P.underlying t=some (.array n el)):Q3r P t (fun a=>.agg ((e a).map V.d)) wf:=by
 intro H enc w base b0 spare held u d ps hok hd;obtain ⟨cs,rfl⟩ : ∃ cs,u = .agg cs:=by
  rcases hagg with ⟨fs,ht⟩|⟨n,el,ht⟩
  ·simp only [Value.okWide,ht] at hok;grind
  ·simp only [Value.okWide,ht] at hok;grind
 obtain ⟨fuel,hf⟩:=hd;obtain ⟨a,h1,h2⟩:=he hf;refine ⟨a,h1,fun ℓ=>?_⟩;simp only [RV];obtain ⟨h3,h4⟩:=Q94 (g:=⟨fun _=>0,live w,fun _=>.ext⟩) rfl (ℓ:=ℓ) (i:=0) h2;exact ⟨cs.toList,by simp,h3,h4⟩
def Qbdr (P:Program) (f:FuncId) (ts:List TypeId):Prop :=
 ∀ {H:Type} {enc:TypeId×Value→H} {w:World} {b0:Nat} {us:List Value} {ds:List (DataW H)} {ps:List MemPlace},
  (∀ (j:Nat) t u,ts[j]? = some t→us[j]? = some u→Value.okWide P w .any b0 t u)→DataW.TrodAll enc P w 0 (fun _=>true) true ts us ds ps →
  ∃ vs,RFs ⟨fun _=>0,live w,fun _=>.ext⟩ w vs us∧(∀ x∈vs,Flat x)∧V.lt.go 0 vs=true∧∀ M nb,ACalls P f vs M nb (.d (.bool true)) M nb
theorem Qxv (hl:laidOutB P=true) {W W' : World} {sp:Nat→Bool} {H:Type} {enc:TypeId×Value→H}:∀ {ts:List TypeId} {us:List Value} {ds:List (DataW H)} {ps:List MemPlace},
  (∀ t∈ts,P.readableRec t=true∧t<P.types.size)→DataW.TrodAll enc P W 0 (fun _=>true) true ts us ds ps→(∀ p∈ps,W.sameAt W' p)→(∀ p∈ps,sp p.block=true)→DataW.TrodAll enc P W' 0 sp true ts us ds ps
 | [],[],[],ps,_,h,_,_=>h
 | t::ts,u::us,d::ds,ps,hr,⟨p,q,h1,h2,e⟩,hs,hp=>by
  subst e;obtain ⟨r1,r2⟩:=hr t (by simp);exact ⟨p,q,WideElems.Trod_stays hl r1 r2 h1 (fun x hx=>hs x (by simp [hx])) (fun x hx=>hp x (by simp [hx])),Qxv hl (fun t ht=>hr t (by simp [ht])) h2 (fun x hx=>hs x (by simp [hx])) (fun x hx=>hp x (by simp [hx])),rfl⟩
 | [],[],_::_,_,_,h,_,_=>h.elim
 | [],_::_,_,_,_,h,_,_=>h.elim
 | _::_,[],_,_,_,h,_,_=>h.elim
 | _::_,_::_,[],_,_,h,_,_=>h.elim
theorem Q1l {W:World} {sp:Nat→Bool} {held:Bool} {base:Nat} {H:Type} {enc:TypeId×Value→H}:∀ {ts:List TypeId} {us:List Value} {ds:List (DataW H)} {ps:List MemPlace},
  DataW.TrodAll enc P W base sp held ts us ds ps→ds.length=ts.length∧us.length=ts.length
 | [],[],[],ps,h=>⟨rfl,rfl⟩
 | t::ts,u::us,d::ds,ps,⟨p,q,h1,h2,e⟩=>by have:=Q1l h2;simp [this.1,this.2]
 | [],[],_::_,_,h=>h.elim
 | [],_::_,_,_,h=>h.elim
 | _::_,[],_,_,h=>h.elim
 | _::_,_::_,[],_,h=>h.elim
section
variable {α β γ δ:Type} {f:FuncId} {ta tb tc td:TypeId} {va:α→V} {vb:β→V} {vc:γ→V} {vd:δ→V} {wa:α→Prop} {wb:β→Prop} {wc:γ→Prop} {wd:δ→Prop}
theorem Qbd2 (ra:Q3r P ta va wa) (fa:∀ a,(va a).dem=va a) (la:∀ a,(va a).lt 0=true) (law:∀ a,wa a→∀ M nb,ACalls P f [va a] M nb (.d (.bool true)) M nb):Qbdr P f [ta]:=by
 intro H enc w b0 us ds ps hok hT
 match us,ds,hT with
 | [u],[d],⟨p,q,h1,h2,e⟩ =>
  obtain ⟨a,ha,hra⟩:=ra (hok 0 _ _ rfl rfl) h1;exact ⟨[va a],⟨u,[],rfl,hra,rfl⟩,fun x hx=>by rw [List.mem_singleton] at hx;subst hx;exact fa a,by simp [V.lt.go,la],law a ha⟩
 | [],_,hT=>cases ‹List (DataW H)› <;> exact hT.elim
 | [_],[],hT=>exact hT.elim
 | [_],_::_::_,⟨_,_,_,h2,_⟩=>exact h2.elim
 | _::_::_,[],hT=>exact hT.elim
 | _::_::_,[_],⟨_,_,_,h2,_⟩=>exact h2.elim
 | _::_::_,_::_::_,⟨_,_,_,h2,_⟩=>exact h2.elim
end
end Go.Abs
end
section
namespace Go.Proofs
open Go Go.Abs
set_option maxRecDepth 100000
def W_3 (x:Int):Prop:=wfI .i64 x
theorem R_3:Q1i Tryz.prog 3 (eI .i64) W_3:=Q93 Tryz.underlying3
def W_32 (x:List Int):Prop:=wfL W_3 x
theorem R_32:Q1i Tryz.prog 32 (eL 1 (eI .i64)) W_32:=Q1j Tryz.underlying32 R_3 (by kernel_rfl) (by decide) (fun _=>rfl)
def W_88 (x:Qd):Prop:=W_3 x.From∧W_3 x.Event∧W_3 x.To
theorem R_88:Q1i Tryz.prog 88 Ql W_88:=by
  intro H enc w base spare held fuel cs x h;obtain ⟨hl,n,hf⟩:=Q1k Tryz.underlying88 h;obtain ⟨y0,h0⟩:=hf 0 _ rfl;obtain ⟨a0,w0,r0⟩:=Qi3 (off:=0) (sz:=1) R_3 (by kernel_rfl) (fun _=>rfl) h0;obtain ⟨y1,h1⟩:=hf 1 _ rfl;obtain ⟨a1,w1,r1⟩:=Qi3 (off:=1) (sz:=1) R_3 (by kernel_rfl) (fun _=>rfl) h1;obtain ⟨y2,h2⟩:=hf 2 _ rfl;obtain ⟨a2,w2,r2⟩:=Qi3 (off:=2) (sz:=1) R_3 (by kernel_rfl) (fun _=>rfl) h2;exact ⟨⟨a0,a1,a2⟩,⟨w0,w1,w2⟩,RDat.all (xs:=Ql ⟨a0,a1,a2⟩) (RDat.app r0 rfl (RDat.app r1 rfl r2)) (hl.trans (by kernel_rfl))⟩
def W_33 (x:List Qd):Prop:=wfL W_88 x
theorem R_33:Q1i Tryz.prog 33 (eL 3 Ql) W_33:=Q1j Tryz.underlying33 R_88 (by kernel_rfl) (by decide) (fun _=>rfl)
def W_35 (x:Qa):Prop:=W_32 x.zB∧W_3 x.zF∧W_32 x.zC∧W_33 x.zD
theorem R_35:Q1i Tryz.prog 35 Qbb W_35:=by
  intro H enc w base spare held fuel cs x h;obtain ⟨hl,n,hf⟩:=Q1k Tryz.underlying35 h;obtain ⟨y0,h0⟩:=hf 0 _ rfl;obtain ⟨a0,w0,r0⟩:=Qi3 (off:=0) (sz:=1) R_32 (by kernel_rfl) (fun _=>rfl) h0;obtain ⟨y1,h1⟩:=hf 1 _ rfl;obtain ⟨a1,w1,r1⟩:=Qi3 (off:=1) (sz:=1) R_3 (by kernel_rfl) (fun _=>rfl) h1;obtain ⟨y2,h2⟩:=hf 2 _ rfl;obtain ⟨a2,w2,r2⟩:=Qi3 (off:=2) (sz:=1) R_32 (by kernel_rfl) (fun _=>rfl) h2;obtain ⟨y3,h3⟩:=hf 3 _ rfl;obtain ⟨a3,w3,r3⟩:=Qi3 (off:=3) (sz:=1) R_33 (by kernel_rfl) (fun _=>rfl) h3;exact ⟨⟨a0,a1,a2,a3⟩,⟨w0,w1,w2,w3⟩,RDat.all (xs:=Qbb ⟨a0,a1,a2,a3⟩) (RDat.app r0 rfl (RDat.app r1 rfl (RDat.app r2 rfl r3))) (hl.trans (by kernel_rfl))⟩
def W_37 (x:Qi):Prop:=W_35 x.Plant∧W_35 x.Ambient∧W_35 x.Requirement∧W_32 x.Observable∧W_32 x.Controllable
theorem R_37:Q1i Tryz.prog 37 Qoq W_37:=by
  intro H enc w base spare held fuel cs x h;obtain ⟨hl,n,hf⟩:=Q1k Tryz.underlying37 h;obtain ⟨y0,h0⟩:=hf 0 _ rfl;obtain ⟨a0,w0,r0⟩:=Qi3 (off:=0) (sz:=4) R_35 (by kernel_rfl) (fun _=>rfl) h0;obtain ⟨y1,h1⟩:=hf 1 _ rfl;obtain ⟨a1,w1,r1⟩:=Qi3 (off:=4) (sz:=4) R_35 (by kernel_rfl) (fun _=>rfl) h1;obtain ⟨y2,h2⟩:=hf 2 _ rfl;obtain ⟨a2,w2,r2⟩:=Qi3 (off:=8) (sz:=4) R_35 (by kernel_rfl) (fun _=>rfl) h2;obtain ⟨y3,h3⟩:=hf 3 _ rfl;obtain ⟨a3,w3,r3⟩:=Qi3 (off:=12) (sz:=1) R_32 (by kernel_rfl) (fun _=>rfl) h3;obtain ⟨y4,h4⟩:=hf 4 _ rfl;obtain ⟨a4,w4,r4⟩:=Qi3 (off:=13) (sz:=1) R_32 (by kernel_rfl) (fun _=>rfl) h4;exact ⟨⟨a0,a1,a2,a3,a4⟩,⟨w0,w1,w2,w3,w4⟩,RDat.all (xs:=Qoq ⟨a0,a1,a2,a3,a4⟩) (RDat.app r0 rfl (RDat.app r1 rfl (RDat.app r2 rfl (RDat.app r3 rfl r4)))) (hl.trans (by kernel_rfl))⟩
theorem A_37:Q3r Tryz.prog 37 (fun (a:Qi)=>.agg [.d (.lst 1 (List.map (eI .i64) a.Plant.zB)),.d (.int .i64 a.Plant.zF),.d (.lst 1 (List.map (eI .i64) a.Plant.zC)),.d (.lst 3 (List.map Ql a.Plant.zD)),.d (.lst 1 (List.map (eI .i64) a.Ambient.zB)),.d (.int .i64 a.Ambient.zF),.d (.lst 1 (List.map (eI .i64) a.Ambient.zC)),.d (.lst 3 (List.map Ql a.Ambient.zD)),.d (.lst 1 (List.map (eI .i64) a.Requirement.zB)),.d (.int .i64 a.Requirement.zF),.d (.lst 1 (List.map (eI .i64) a.Requirement.zC)),.d (.lst 3 (List.map Ql a.Requirement.zD)),.d (.lst 1 (List.map (eI .i64) a.Observable)),.d (.lst 1 (List.map (eI .i64) a.Controllable))]) W_37:=Qbcw R_37 (.inl ⟨_,Tryz.underlying37⟩)
end Go.Proofs
end
section
namespace Go.Abs
set_option maxRecDepth 100000
theorem Q7v:Qh5=some true:=by kernel_rfl
end Go.Abs
end
section
namespace Go.Abs
open Go
theorem Qyq {X R:Type} {F:(X→Option R)→X→Option R} (I:X→Prop) (m:X→Nat) (Q:X→Option R→Prop)
  (step:∀ (k:X→Option R) (x:X),I x→(∀ y,I y→m y<m x→Q y (k y))→Q x (F k x)):∀ (fuel:Nat) (x:X),I x→m x<fuel→Q x (Qcl F fuel x)
 | 0,x,_,h=>absurd h (Nat.not_lt_zero _)
 | fuel+1,x,hi,h=>step _ x hi fun y hy hm=>Qyq I m Q step fuel y hy (by omega)
theorem Qba3 {X R:Type} {F:(X→Option R)→X→Option R} {fuel:Nat} {x:X} (I:X→Prop) (m:X→Nat) (q:Option R) (hi:I x) (hm:m x<fuel)
  (step:∀ (k:X→Option R) (x:X),I x→(∀ y,I y→m y<m x→k y=q)→F k x=q):Qcl F fuel x=q :=
 Qyq I m (fun _ r=>r=q) step fuel x hi hm
theorem Q95 {x:Int} (h1 : -9223372036854775808≤x) (h2:x≤9223372036854775807):IntKind.wrap .i64 x=x:=by
 simp [IntKind.wrap,IntKind.bits,IntKind.signed];omega
theorem Qls {n:Nat} (h:n<9223372036854775807):IntKind.wrap .i64 ((n:Int)+1)=((n+1:Nat):Int):=by
 grind [Q95]
theorem Qhu {α:Type} {l:List α} {n:Nat} (h:n<l.length):getO l (n:Int)=some l[n]:=by
 simp [getO,h]
theorem Q46 {α:Type} {l m:List α} (h:l.length+m.length≤lim):appO l m=some (l++m):=by
 unfold appO;rw [if_pos h]
theorem Qoa {R:Type} {F:(Int→Option R)→Int→Option R} {len fuel:Nat} (G:Nat→Option R) (hf:len<fuel)
  (step:∀ (k:Int→Option R) (n:Nat),n<len→k ((n+1:Nat):Int)=G (n+1)→F k (n:Int)=G n) (last:∀ k:Int→Option R,F k (len:Int)=G len):Qcl F fuel 0=G 0:=by
 have:=Qyq (F:=F) (fun x=>∃ n:Nat,x=(n:Int)∧n≤len) (fun x=>len-x.toNat) (fun x r=>∀ n:Nat,x=(n:Int)→r=G n) (fun k x hx ih=>by
  obtain ⟨n,rfl,hn⟩:=hx;intro m hm;obtain rfl:n=m:=by omega
  by_cases h:n<len
  ·exact step k n h (ih _ ⟨n+1,rfl,by omega⟩ (by omega) (n+1) rfl)
  grind) fuel 0 ⟨0,rfl,by omega⟩ (by simpa using hf)
 exact this 0 rfl
theorem Que {n:Nat} (h0:0<n) (h:n<9223372036854775807):IntKind.wrap .i64 ((n:Int)-1)=((n-1:Nat):Int):=by
 grind [Q95]
theorem Q69 {X S R:Type} {F:(X→Option R)→X→Option R} {len:Nat} (mk:Nat→S→X) (G:Nat→S→Option R)
  (step:∀ (k:X→Option R) (n:Nat) (s:S),n<len→(∀ s',k (mk (n+1) s')=G (n+1) s')→F k (mk n s)=G n s) (last:∀ (k:X→Option R) (s:S),F k (mk len s)=G len s) :
  ∀ (fuel n:Nat) (s:S),n≤len→len-n<fuel→Qcl F fuel (mk n s)=G n s
 | 0,n,s,_,h=>by omega
 | fuel+1,n,s,hn,h=>by
  show F (Qcl F fuel) (mk n s)=_;by_cases hlt:n<len
  ·exact step _ n s hlt fun s'=>Q69 mk G step last fuel (n+1) s' (by omega) (by omega)
  grind
theorem Qba4 {α:Type} {l:List α} {i j:Nat} (h:i≤j) (hj:j≤l.length):slcO l (i:Int) (j:Int)=some ((l.take j).drop i):=by
 simp [slcO,h,hj]
section
variable {α:Type} {p:α→Bool}
end
theorem Q2z:∀ {l:List Int} {a b:Int},l.Pairwise (· < ·)→(∀ x∈l,a≤x∧x<b)→l.length≤(b-a).toNat
 | [],_,_,_,_=>by simp
 | x::xs,a,b,h,hr=>by
  obtain ⟨h1,h2⟩:=List.pairwise_cons.1 h;have:=Q2z (a:=x+1) (b:=b) h2 fun y hy=>⟨by have:=h1 y hy;omega,(hr y (by simp [hy])).2⟩;have:=hr x (by simp)
  grind
end Go.Abs
end
section
namespace Go.Abs
abbrev big : Nat := 1000000000000
def Q5x (a : Qa) : Prop := a.zB.length < big ∧ a.zC.length < big ∧ a.zD.length < big
end Go.Abs
end
section
namespace Go.Abs
open Go
def Qcs (n:Int):Option Int→List Int→Int
 | _,[]=>0
 | p,x::xs=>if x<0∨x≥n then 2 else if ∃ y,p=some y∧x≤y then 5 else Qcs n (some x) xs
def Qg4 (al:List Int) (st:Int):Option Qd→List Qd→Int
 | _,[]=>0
 | p,x::xs=>if x.From<0∨x.From≥st∨x.To<0∨x.To≥st then 2 else if x.Event∉al then 9 else if ∃ y,p=some y∧(x.From<y.From∨x.From=y.From∧x.Event≤y.Event) then 5 else Qg4 al st (some x) xs
def Q9 (a:Qa):Int :=
 if Qcs 32 none a.zB≠0 then Qcs 32 none a.zB else if a.zF<0 then 2 else if a.zF>4096 then 3 else
 if Qcs a.zF none a.zC≠0 then Qcs a.zF none a.zC else Qg4 a.zB a.zF none a.zD
def ahead {α:Type} (l:List α) (n:Nat):Option α:=if n=0 then none else l[n-1]?
theorem Qhd {α:Type} (l:List α):ahead l 0=none:=rfl
theorem Q20 {α:Type} (l:List α) {n:Nat} (h:n<l.length):ahead l (n+1)=some l[n]:=by simp [ahead,h]
theorem Quf {α:Type} (l:List α) {n:Nat} (h0:0<n) (h:n≤l.length):ahead l n=some (l[n-1]'(by omega)):=by
 simp [ahead,show n≠0 from by omega,show n-1<l.length from by omega]
theorem Qug {n:Int} {l:List Int} {k:Nat} (h:k<l.length):Qcs n (ahead l k) (l.drop k)=if l[k]<0∨l[k]≥n then 2 else if ∃ y,ahead l k=some y∧l[k]≤y then 5 else Qcs n (ahead l (k+1)) (l.drop (k+1)):=by
 rw [List.drop_eq_getElem_cons h,Qcs,Q20 l h]
theorem Qxw {al:List Int} {n:Int} {l:List Qd} {k:Nat} (h:k<l.length):Qg4 al n (ahead l k) (l.drop k)=if l[k].From<0∨l[k].From≥n∨l[k].To<0∨l[k].To≥n then 2 else if l[k].Event∉al then 9 else if ∃ y,ahead l k=some y∧(l[k].From<y.From∨l[k].From=y.From∧l[k].Event≤y.Event) then 5 else Qg4 al n (ahead l (k+1)) (l.drop (k+1)):=by
 rw [List.drop_eq_getElem_cons h,Qg4,Q20 l h]
theorem Q1m {l:List Int} {n:Int} (hl:l.length<big):Qge l n=some (Qcs n none l):=by
 unfold Qge Qcn;refine (Qoa (len:=l.length) (fun k=>some (Qcs n (ahead l k) (l.drop k))) (by unfold Qbp;unfold big at hl;omega) ?_ ?_).trans (by simp [Qhd])
 ·intro k i hi ih;have hb:i<1000000000000:=by unfold big at hl;omega
  rw [Qug hi]
  try dsimp only
  rw [if_pos (by omega),Qhu hi,Qls (by omega),ih];simp only [Option.bind_some];by_cases h1:l[i]<0
  ·simp [h1]
  ·by_cases h2:l[i]≥n
   ·simp [h1,h2]
   ·by_cases h0:0<i
    ·rw [Que h0 (by omega),Qhu (by omega:i-1<l.length),Quf l h0 (by omega)];by_cases h3:l[i]≤l[i-1]<;>simp [h1,h2,h3,h0]
    ·obtain rfl:i=0:=by omega
     simp [h1,h2,Qhd]
 ·intro k;simp [Qcs]
theorem Quq {l:List Int} {n:Int} (hl:l.length<big):Qe7 l n=some (Qcs n none l):=by
 unfold Qe7 Q7;refine (Qoa (len:=l.length) (fun k=>some (Qcs n (ahead l k) (l.drop k))) (by unfold Qbp;unfold big at hl;omega) ?_ ?_).trans (by simp [Qhd])
 ·intro k i hi ih;have hb:i<1000000000000:=by unfold big at hl;omega
  rw [Qug hi]
  try dsimp only
  rw [if_pos (by omega),Qhu hi,Qls (by omega),ih];simp only [Option.bind_some];by_cases h1:l[i]<0
  ·simp [h1]
  ·by_cases h2:l[i]≥n
   ·simp [h1,h2]
   ·by_cases h0:0<i
    ·rw [Que h0 (by omega),Qhu (by omega:i-1<l.length),Quf l h0 (by omega)];by_cases h3:l[i]≤l[i-1]<;>simp [h1,h2,h3,h0]
    ·obtain rfl:i=0:=by omega
     simp [h1,h2,Qhd]
 ·intro k;simp [Qcs]
theorem Qba5 {l:List Int} {v:Int} (hl:l.length<big):Qho l v=some (if v∈l then (l.idxOf v:Int) else -1):=by
 unfold Qho Qdo;refine (Qoa (len:=l.length) (fun k=>some (if v∈l.drop k then ((k+(l.drop k).idxOf v:Nat):Int) else -1)) (by unfold Qbp;unfold big at hl;omega) ?_ ?_).trans (by simp)
 ·intro k i hi ih;have hb:i<1000000000000:=by unfold big at hl;omega
  try dsimp only
  rw [if_pos (by omega),Qhu hi,Qls (by omega),ih,List.drop_eq_getElem_cons hi];simp only [Option.bind_some,List.mem_cons,List.idxOf_cons];by_cases h:v=l[i]
  ·simp [← h]
  ·have:¬ l[i]=v:=fun e=>h e.symm;have hbq:(l[i]==v)=false:=by simp [this]
   by_cases h2:v∈l.drop (i+1)<;>simp [h,h2,hbq];omega
 ·intro k;simp
theorem Q5y {l:List Int} {v:Int} (hl:l.length<big):Qby l v=some (decide (v∈l)):=by
 unfold Qby Qk;rw [Qba5 hl];simp only [Option.bind_some,Option.some.injEq];by_cases h:v∈l<;>simp [h]
theorem Qbbv {l:List Int} {v:Int} (hl:l.length<big):Qg2 l v=some (decide (v∈l)):=by
 unfold Qg2 Qdf;refine (Qoa (len:=l.length) (fun k=>some (decide (v∈l.drop k))) (by unfold Qbp;unfold big at hl;omega) ?_ ?_).trans (by simp)
 ·intro k i hi ih;have hb:i<1000000000000:=by unfold big at hl;omega
  try dsimp only
  rw [if_pos (by omega),Qhu hi,Qls (by omega),ih,List.drop_eq_getElem_cons hi];simp only [Option.bind_some,List.mem_cons];by_cases h:l[i]=v
  ·simp [h]
  ·have:¬ v=l[i]:=fun e=>h e.symm;simp [h,this]
 ·intro k;simp
theorem Q3s {a:Qa} (h:Q5x a):Qfr a=some (Qg4 a.zB a.zF none a.zD):=by
 obtain ⟨hal,_,hl⟩:=h;unfold Qfr Qck;refine (Qoa (len:=a.zD.length) (fun k=>some (Qg4 a.zB a.zF (ahead a.zD k) (a.zD.drop k))) (by unfold Qbp;unfold big at hl;omega) ?_ ?_).trans (by simp [Qhd])
 ·intro k i hi ih;have hb:i<1000000000000:=by unfold big at hl;omega
  rw [Qxw hi];unfold letJ
  try dsimp only
  rw [if_pos (by omega),Qhu hi,Qls (by omega),ih];simp only [Option.bind_some,Q5y hal];generalize a.zD[i]=x;by_cases h1:x.From<0
  ·simp [h1]
  by_cases h2:x.From≥a.zF
  ·simp [h1,h2]
  by_cases h3:x.To<0
  ·simp [h1,h2,h3]
  by_cases h4:x.To≥a.zF
  ·simp [h1,h2,h3,h4]
  by_cases h5:x.Event∈a.zB
  ·by_cases h0:0<i
   ·rw [Que h0 (by omega),Qhu (by omega:i-1<a.zD.length),Quf a.zD h0 (by omega)];generalize a.zD[i-1]=y;have hi0:i≠0:=by omega
    by_cases h6:x.From<y.From
    ·simp [h1,h2,h3,h4,h5,h6,hi0]
    by_cases h7:y.From=x.From
    ·by_cases h8:x.Event≤y.Event<;>simp [h1,h2,h3,h4,h5,h6,h7,h8,hi0]
    ·have h7' : ¬ x.From=y.From:=fun e=>h7 e.symm;simp [h1,h2,h3,h4,h5,h6,h7,hi0,h7']
   ·obtain rfl:i=0:=by omega
    simp [h1,h2,h3,h4,h5,Qhd]
  ·simp [h1,h2,h3,h4,h5]
 ·intro k;unfold letJ;simp [Qg4]
theorem Q3t {a:Qa} (h:Q5x a):Qem a=some (Q9 a):=by
 unfold Qem Qx Q9;rw [Q1m h.1,Q1m h.2.1,Q3s h];simp only [Option.bind_some];by_cases h1:Qcs 32 none a.zB=0
 ·by_cases h2:a.zF<0
  ·simp [h1,h2]
  by_cases h3:a.zF>4096
  ·simp [h1,h2,h3]
  by_cases h4:Qcs a.zF none a.zC=0<;>simp [h1,h2,h3,h4]
 ·simp [h1]
theorem Qwo {a:Qa} (h:Q5x a):Qex a=some (Q9 a):=by
 obtain ⟨hal,hm,hl⟩:=h;have hE:∀ A:Option Int,A=some (Qg4 a.zB a.zF none a.zD)→(if (Qcs 32 none a.zB != 0)=true then some (Qcs 32 none a.zB) else if a.zF<0 then some 2 else if a.zF>4096 then some 3 else if (Qcs a.zF none a.zC != 0)=true then some (Qcs a.zF none a.zC) else A)=some (Q9 a):=by
  intro A hA;subst hA;unfold Q9;by_cases h1:Qcs 32 none a.zB=0
  ·by_cases h2:a.zF<0
   ·simp [h1,h2]
   by_cases h3:a.zF>4096
   ·simp [h1,h2,h3]
   by_cases h4:Qcs a.zF none a.zC=0<;>simp [h1,h2,h3,h4]
  ·simp [h1]
 unfold Qex Qcu;rw [Quq hal,Quq hm];simp only [Option.bind_some];refine hE _ ?_
 ·exact (Qoa (len:=a.zD.length) (fun k=>some (Qg4 a.zB a.zF (ahead a.zD k) (a.zD.drop k))) (by unfold Qbp;unfold big at hl;omega) (by
   intro k i hi ih;have hb:i<1000000000000:=by unfold big at hl;omega
   rw [Qxw hi]
   try dsimp only
   rw [if_pos (by omega),Qhu hi,Qls (by omega),ih];simp only [Option.bind_some,Qbbv hal];generalize a.zD[i]=x;by_cases h1:x.From<0
   ·simp [h1]
   by_cases h2:x.From≥a.zF
   ·simp [h1,h2]
   by_cases h3:x.To<0
   ·simp [h1,h2,h3]
   by_cases h4:x.To≥a.zF
   ·simp [h1,h2,h3,h4]
   by_cases h5:x.Event∈a.zB
   ·by_cases h0:0<i
    ·rw [Que h0 (by omega),Qhu (by omega:i-1<a.zD.length),Quf a.zD h0 (by omega)];generalize a.zD[i-1]=y;have hi0:i≠0:=by omega
     by_cases h6:x.From<y.From
     ·simp [h1,h2,h3,h4,h5,h6,h0]
     by_cases h7:y.From=x.From
     ·by_cases h8:x.Event≤y.Event<;>simp [h1,h2,h3,h4,h5,h6,h7,h8,h0]
     ·have h7' : ¬ x.From=y.From:=fun e=>h7 e.symm;simp [h1,h2,h3,h4,h5,h6,h7,h0,h7']
    ·obtain rfl:i=0:=by omega
     simp [h1,h2,h3,h4,h5,Qhd]
   ·simp [h1,h2,h3,h4,h5]) (by intro k;simp [Qg4])).trans (by simp [Qhd])
end Go.Abs
end
section
namespace Go.Abs
open Go
def Qzj (x y:Qd):Prop:=x.From<y.From∨x.From=y.From∧x.Event<y.Event
instance (x y:Qd):Decidable (Qzj x y):=by unfold Qzj;infer_instance
structure Qbds (a:Qa):Prop where
 al0:∀ x∈a.zB,0≤x∧x<32
 al:a.zB.Pairwise (· < ·)
 st:0≤a.zF∧a.zF≤4096
 ma0:∀ x∈a.zC,0≤x∧x<a.zF
 ma:a.zC.Pairwise (· < ·)
 ed0:∀ x∈a.zD,0≤x.From∧x.From<a.zF∧0≤x.To∧x.To<a.zF∧x.Event∈a.zB
 ed:a.zD.Pairwise Qzj
theorem Qlt {n:Int}:∀ {l:List Int} {p:Option Int},Qcs n p l=0↔(∀ x∈l,0≤x∧x<n)∧l.Pairwise (· < ·)∧∀ y,p=some y→∀ x∈l,y<x
 | [],p=>by simp [Qcs]
 | x::xs,p=>by
  rw [Qcs];split
  ·rename_i h;refine ⟨fun h=>by omega,fun hh=>?_⟩;have:=hh.1 x (by simp);omega
  ·rename_i h;split
   ·rename_i h2;obtain ⟨y,hy,hxy⟩:=h2;refine ⟨fun h=>by omega,fun hh=>?_⟩;have:=hh.2.2 y hy x (by simp);omega
   ·rename_i h2;rw [Qlt];constructor
    ·rintro ⟨k1,k2,k3⟩;refine ⟨fun z hz=>?_,List.pairwise_cons.2 ⟨fun z hz=>k3 x rfl z hz,k2⟩,fun y hy z hz=>?_⟩
     ·rcases List.mem_cons.1 hz with rfl|hz
      ·omega
      ·exact k1 z hz
     ·have hyx:y<x:=by
       rcases Int.lt_or_le y x with h|h
       ·exact h
       ·exact absurd ⟨y,hy,h⟩ h2
      rcases List.mem_cons.1 hz with rfl|hz
      ·exact hyx
      ·have:=k3 x rfl z hz;omega
    ·rintro ⟨k1,k2,k3⟩;obtain ⟨k4,k5⟩:=List.pairwise_cons.1 k2;exact ⟨fun z hz=>k1 z (by simp [hz]),k5,fun y hy z hz=>by cases hy;exact k4 z hz⟩
theorem Qrx {al:List Int} {n:Int}:∀ {l:List Qd} {p:Option Qd},Qg4 al n p l=0↔(∀ x∈l,0≤x.From∧x.From<n∧0≤x.To∧x.To<n∧x.Event∈al)∧l.Pairwise Qzj∧∀ y,p=some y→∀ x∈l,Qzj y x
 | [],p=>by simp [Qg4]
 | x::xs,p=>by
  have tr:∀ a b c:Qd,Qzj a b→Qzj b c→Qzj a c:=fun a b c h k=>by unfold Qzj at *;omega
  rw [Qg4];split
  ·rename_i h;refine ⟨fun h=>by omega,fun hh=>?_⟩;have:=hh.1 x (by simp);omega
  ·rename_i h;split
   ·rename_i h2;refine ⟨fun h=>by omega,fun hh=>?_⟩;exact absurd (hh.1 x (by simp)).2.2.2.2 h2
   ·rename_i hal;split
    ·rename_i h2;obtain ⟨y,hy,hxy⟩:=h2;refine ⟨fun h=>by omega,fun hh=>?_⟩;have:=hh.2.2 y hy x (by simp);unfold Qzj at this;omega
    ·rename_i h2;rw [Qrx];constructor
     ·rintro ⟨k1,k2,k3⟩;refine ⟨fun z hz=>?_,List.pairwise_cons.2 ⟨fun z hz=>k3 x rfl z hz,k2⟩,fun y hy z hz=>?_⟩
      ·rcases List.mem_cons.1 hz with rfl|hz
       ·exact ⟨by omega,by omega,by omega,by omega,Decidable.not_not.1 hal⟩
       ·exact k1 z hz
      ·have hyx:Qzj y x:=by
        apply Decidable.byContradiction;intro h;exact h2 ⟨y,hy,by unfold Qzj at h;omega⟩
       rcases List.mem_cons.1 hz with rfl|hz
       ·exact hyx
       ·exact tr _ _ _ hyx (k3 x rfl z hz)
     ·rintro ⟨k1,k2,k3⟩;obtain ⟨k4,k5⟩:=List.pairwise_cons.1 k2;exact ⟨fun z hz=>k1 z (by simp [hz]),k5,fun y hy z hz=>by cases hy;exact k4 z hz⟩
theorem Q1n {a:Qa}:Q9 a=0↔Qbds a:=by
 unfold Q9;constructor
 ·intro h;split at h
  ·rename_i h1;exact absurd h h1
  rename_i h1;split at h
  ·omega
  split at h
  ·omega
  split at h
  ·rename_i h4;exact absurd h h4
  rename_i h4;have q1:=Qlt.1 (Decidable.not_not.1 h1);have q2:=Qlt.1 (Decidable.not_not.1 h4);have q3:=Qrx.1 h;exact ⟨q1.1,q1.2.1,⟨by omega,by omega⟩,q2.1,q2.2.1,q3.1,q3.2.1⟩
 ·intro h;have q1:Qcs 32 none a.zB=0:=Qlt.2 ⟨h.al0,h.al,fun y hy=>by cases hy⟩;have q2:Qcs a.zF none a.zC=0:=Qlt.2 ⟨h.ma0,h.ma,fun y hy=>by cases hy⟩;have q3:Qg4 a.zB a.zF none a.zD=0:=Qrx.2 ⟨h.ed0,h.ed,fun y hy=>by cases hy⟩;have:=h.st;rw [if_neg (by simp [q1]),if_neg (by omega),if_neg (by omega),if_neg (by simp [q2]),q3]
section
variable {a:Qa} (h:Qbds a) (hs:Q5x a)
include h hs
end
end Go.Abs
end
