/-
  Part 5 of the proof: see the last text.
-/
import Derived.Test.YtdckcingoapofaaGreatDoorP4
import Derived.Test.YtdckcingoapofaaGreatDoorProg
import Derived.KernelRfl
import Derived.Sort.Statements
import Derived.Lib.ItoaNum
import Derived.Lib.SlicesCompact
import Derived.Shelf.SlGeneric
import Derived.Shelf.Strings.BuilderK
import Derived.Shelf.Strconv.Itoa2
import Derived.Shelf.Strconv.Itoa3
import Derived.Shelf.Slices.CompactI
import Derived.Ground.Names2Prog
import Derived.Ground.SlgmProg
import Derived.Ground.SlsfProg
import Derived.Shelf.SlLaysF0
import Derived.Shelf.SortM.Plain
import Derived.Shelf.SortM.SortNone
import Derived.Shelf.SlSortCmp.NoneTotal
import Derived.Shelf.Small.Bits
import Derived.WalkKit
import Derived.BigCall
import Derived.Lib.OthersKept
import Derived.OpenShut
import Derived.ProofKit
import Derived.Carry
import GoSem.Claim
import GoSem.ClaimJoined
import Derived.JoinedTies
set_option linter.unusedVariables false
set_option linter.unusedSimpArgs false
set_option linter.unusedSectionVars false
section
namespace Go.Abs
open Go
set_option maxRecDepth 10000
set_option maxHeartbeats 4000000
theorem Quo {P:Program} {c:Nat} (hcf:Qn P c=some Qo0):Qka P c (Qea):=by
 intro  r h;refine Qbs hcf rfl fun Γ M hP hnt hM=>?_;subst hP;refine ini ?_;refine Z 17 0 ?_;refine Rn.buildT (v:=.agg [.sl 1 (Γ.n0+7) 0 3 3,(i_ 5),.nils 1,.sl 3 (Γ.n0+6) 0 4 4]) tv rfl ?_;refine Z 3 0 ?_;refine Rn.weak (by show WeakSt Γ _ ⟨look [(0,.ptr (Γ.n0+0) 0),(1,.d (.lst 3 (List.map Ql [(Qb.mk 0 0 1),(Qb.mk 0 1 2),(Qb.mk 1 2 3),(Qb.mk 2 2 4)]))),(2,.agg [(i_ 0),(i_ 0),(i_ 1)]),(3,.agg [(i_ 0),(i_ 1),(i_ 2)]),(4,.agg [(i_ 1),(i_ 2),(i_ 3)]),(5,.agg [(i_ 2),(i_ 2),(i_ 4)]),(6,.d (.lst 3 (List.map Ql [(Qb.mk 0 0 1),(Qb.mk 0 1 2),(Qb.mk 1 2 3),(Qb.mk 2 2 4)]))),(7,.sl 1 (Γ.n0+7) 0 3 3),(8,.d (.lst 3 (List.map Ql [(Qb.mk 0 0 1),(Qb.mk 0 1 2),(Qb.mk 1 2 3),(Qb.mk 2 2 4)]))),(9,.agg [.sl 1 (Γ.n0+7) 0 3 3,(i_ 5),.nils 1,.d (.lst 3 (List.map Ql [(Qb.mk 0 0 1),(Qb.mk 0 1 2),(Qb.mk 1 2 3),(Qb.mk 2 2 4)]))]),(10,.agg [.nils 1,(i_ 1),.nils 1,.nils 3]),(11,.sl 1 (Γ.n0+11) 0 3 3),(12,.d (.lst 3 (List.map Ql [(Qb.mk 0 0 1),(Qb.mk 0 1 2),(Qb.mk 1 2 3),(Qb.mk 2 2 4)])))],Qo Γ.n0 (bxs [(0,.cells ([.nils 1,(i_ 0),.nils 1,.nils 3,.nils 1,(i_ 0),.nils 1,.nils 3,.nils 1,(i_ 0),.nils 1,.nils 3,.nils 1,.nils 1])),(7,.cells ([(i_ 0),(i_ 1),(i_ 2)])),(11,.cells ([(i_ 0),(i_ 1),(i_ 2)]))]) M,Γ.n0+18⟩;exact Qcn 6 [.int .i64 0,.int .i64 0,.int .i64 1,.int .i64 0,.int .i64 1,.int .i64 2,.int .i64 1,.int .i64 2,.int .i64 3,.int .i64 2,.int .i64 2,.int .i64 4] rfl rfl ⟨(fPtr rfl),(fSl rfl rfl),sq,sq,sq,sq,(fSl rfl rfl),(fSlO rfl),(fSl rfl rfl),(WkV.agg (.cons (fSlO rfl) (cS rfl (cS rfl (.cons (fSl rfl rfl) .nil))))),sq,(fSlO rfl),(fSl rfl rfl),tv⟩ ⟨bS rfl rfl rfl,bS rfl rfl rfl,bS rfl rfl rfl,tv⟩ rfl) ?_;refine Z 1 1 ?_;intro x1 h;refine Rn.buildT (v:=.agg [.sl 1 (Γ.n0+11) 0 3 3,(i_ 4),.nils 1,(Qh x1)]) tv rfl ?_;refine Z 2 0 ?_;refine Rn.buildT (v:=.agg [.sl 1 (Γ.n0+7) 0 3 3,(i_ 5),.nils 1,.d (.lst 3 (List.map Ql [(Qb.mk 0 0 1),(Qb.mk 0 1 2),(Qb.mk 1 2 3),(Qb.mk 2 2 4)])),.nils 1,(i_ 1),.nils 1,.nils 3,.sl 1 (Γ.n0+11) 0 3 3,(i_ 4),.nils 1,(Qh x1),.sl 1 (Γ.n0+15) 0 1 1,.sl 1 (Γ.n0+16) 0 3 3]) tv rfl ?_;refine Z 2 0 ?_;refine Tr.weak (by show WeakSt Γ _ ⟨look [(0,.ptr (Γ.n0+0) 0),(1,.d (.lst 3 (List.map Ql [(Qb.mk 0 0 1),(Qb.mk 0 1 2),(Qb.mk 1 2 3),(Qb.mk 2 2 4)]))),(2,.agg [(i_ 0),(i_ 0),(i_ 1)]),(3,.agg [(i_ 0),(i_ 1),(i_ 2)]),(4,.agg [(i_ 1),(i_ 2),(i_ 3)]),(5,.agg [(i_ 2),(i_ 2),(i_ 4)]),(6,.d (.lst 3 (List.map Ql [(Qb.mk 0 0 1),(Qb.mk 0 1 2),(Qb.mk 1 2 3),(Qb.mk 2 2 4)]))),(7,(l_ [0,1,2])),(8,.d (.lst 3 (List.map Ql [(Qb.mk 0 0 1),(Qb.mk 0 1 2),(Qb.mk 1 2 3),(Qb.mk 2 2 4)]))),(9,.agg [(l_ [0,1,2]),(i_ 5),.nils 1,.d (.lst 3 (List.map Ql [(Qb.mk 0 0 1),(Qb.mk 0 1 2),(Qb.mk 1 2 3),(Qb.mk 2 2 4)]))]),(10,.agg [.nils 1,(i_ 1),.nils 1,.nils 3]),(11,.sl 1 (Γ.n0+11) 0 3 3),(12,.d (.lst 3 (List.map Ql [(Qb.mk 0 0 1),(Qb.mk 0 1 2),(Qb.mk 1 2 3),(Qb.mk 2 2 4)]))),(13,(Qh x1)),(14,.agg [.sl 1 (Γ.n0+11) 0 3 3,(i_ 4),.nils 1,(Qh x1)]),(15,.sl 1 (Γ.n0+15) 0 1 1),(16,.sl 1 (Γ.n0+16) 0 3 3),(17,.agg [(l_ [0,1,2]),(i_ 5),.nils 1,.d (.lst 3 (List.map Ql [(Qb.mk 0 0 1),(Qb.mk 0 1 2),(Qb.mk 1 2 3),(Qb.mk 2 2 4)])),.nils 1,(i_ 1),.nils 1,.nils 3,.sl 1 (Γ.n0+11) 0 3 3,(i_ 4),.nils 1,(Qh x1),.sl 1 (Γ.n0+15) 0 1 1,.sl 1 (Γ.n0+16) 0 3 3])],Qo Γ.n0 (bxs [(0,.cells ([(l_ [0,1,2]),(i_ 5),.nils 1,.d (.lst 3 (List.map Ql [(Qb.mk 0 0 1),(Qb.mk 0 1 2),(Qb.mk 1 2 3),(Qb.mk 2 2 4)])),.nils 1,(i_ 1),.nils 1,.nils 3,.sl 1 (Γ.n0+11) 0 3 3,(i_ 4),.nils 1,(Qh x1),.sl 1 (Γ.n0+15) 0 1 1,.sl 1 (Γ.n0+16) 0 3 3])),(11,.cells ([(i_ 0),(i_ 1),(i_ 2)])),(15,.cells ([(i_ 2)])),(16,.cells ([(i_ 0),(i_ 1),(i_ 2)]))]) M,Γ.n0+18⟩;exact Qcn 7 [.int .i64 0,.int .i64 1,.int .i64 2] rfl rfl ⟨(fPtr rfl),sq,sq,sq,sq,sq,sq,(fSl rfl rfl),sq,(WkV.agg (.cons (fSl rfl rfl) (cS rfl (cS rfl (cS rfl .nil))))),sq,(fSlO rfl),sq,sq,(WkV.agg (.cons (fSlO rfl) (cS rfl (cS rfl (cS rfl .nil))))),(fSlO rfl),(fSlO rfl),(WkV.agg (.cons (fSl rfl rfl) (cS rfl (cS rfl (cS rfl (cS rfl (cS rfl (cS rfl (cS rfl (.cons (fSlO rfl) (cS rfl (cS rfl (cS rfl (.cons (fSlO rfl) (.cons (fSlO rfl) .nil))))))))))))))),tv⟩ ⟨⟨_,rfl,rfl,(.cons (fSl rfl rfl) (cS rfl (cS rfl (cS rfl (cS rfl (cS rfl (cS rfl (cS rfl (.cons (fSlO rfl) (cS rfl (cS rfl (cS rfl (.cons (fSlO rfl) (.cons (fSlO rfl) .nil))))))))))))))⟩,bS rfl rfl rfl,bS rfl rfl rfl,bS rfl rfl rfl,tv⟩ rfl) ?_;refine Tr.weak (by show WeakSt Γ _ ⟨look [(0,.ptr (Γ.n0+0) 0),(1,.d (.lst 3 (List.map Ql [(Qb.mk 0 0 1),(Qb.mk 0 1 2),(Qb.mk 1 2 3),(Qb.mk 2 2 4)]))),(2,.agg [(i_ 0),(i_ 0),(i_ 1)]),(3,.agg [(i_ 0),(i_ 1),(i_ 2)]),(4,.agg [(i_ 1),(i_ 2),(i_ 3)]),(5,.agg [(i_ 2),(i_ 2),(i_ 4)]),(6,.d (.lst 3 (List.map Ql [(Qb.mk 0 0 1),(Qb.mk 0 1 2),(Qb.mk 1 2 3),(Qb.mk 2 2 4)]))),(7,(l_ [0,1,2])),(8,.d (.lst 3 (List.map Ql [(Qb.mk 0 0 1),(Qb.mk 0 1 2),(Qb.mk 1 2 3),(Qb.mk 2 2 4)]))),(9,.agg [(l_ [0,1,2]),(i_ 5),.nils 1,.d (.lst 3 (List.map Ql [(Qb.mk 0 0 1),(Qb.mk 0 1 2),(Qb.mk 1 2 3),(Qb.mk 2 2 4)]))]),(10,.agg [.nils 1,(i_ 1),.nils 1,.nils 3]),(11,(l_ [0,1,2])),(12,.d (.lst 3 (List.map Ql [(Qb.mk 0 0 1),(Qb.mk 0 1 2),(Qb.mk 1 2 3),(Qb.mk 2 2 4)]))),(13,(Qh x1)),(14,.agg [(l_ [0,1,2]),(i_ 4),.nils 1,(Qh x1)]),(15,.sl 1 (Γ.n0+15) 0 1 1),(16,.sl 1 (Γ.n0+16) 0 3 3),(17,.agg [(l_ [0,1,2]),(i_ 5),.nils 1,.d (.lst 3 (List.map Ql [(Qb.mk 0 0 1),(Qb.mk 0 1 2),(Qb.mk 1 2 3),(Qb.mk 2 2 4)])),.nils 1,(i_ 1),.nils 1,.nils 3,(l_ [0,1,2]),(i_ 4),.nils 1,(Qh x1),.sl 1 (Γ.n0+15) 0 1 1,.sl 1 (Γ.n0+16) 0 3 3])],Qo Γ.n0 (bxs [(0,.cells ([(l_ [0,1,2]),(i_ 5),.nils 1,.d (.lst 3 (List.map Ql [(Qb.mk 0 0 1),(Qb.mk 0 1 2),(Qb.mk 1 2 3),(Qb.mk 2 2 4)])),.nils 1,(i_ 1),.nils 1,.nils 3,(l_ [0,1,2]),(i_ 4),.nils 1,(Qh x1),.sl 1 (Γ.n0+15) 0 1 1,.sl 1 (Γ.n0+16) 0 3 3])),(15,.cells ([(i_ 2)])),(16,.cells ([(i_ 0),(i_ 1),(i_ 2)]))]) M,Γ.n0+18⟩;exact Qcn 11 [.int .i64 0,.int .i64 1,.int .i64 2] rfl rfl ⟨(fPtr rfl),sq,sq,sq,sq,sq,sq,sq,sq,sq,sq,(fSl rfl rfl),sq,sq,(WkV.agg (.cons (fSl rfl rfl) (cS rfl (cS rfl (cS rfl .nil))))),(fSlO rfl),(fSlO rfl),(WkV.agg (cS rfl (cS rfl (cS rfl (cS rfl (cS rfl (cS rfl (cS rfl (cS rfl (.cons (fSl rfl rfl) (cS rfl (cS rfl (cS rfl (.cons (fSlO rfl) (.cons (fSlO rfl) .nil))))))))))))))),tv⟩ ⟨⟨_,rfl,rfl,(cS rfl (cS rfl (cS rfl (cS rfl (cS rfl (cS rfl (cS rfl (cS rfl (.cons (fSl rfl rfl) (cS rfl (cS rfl (cS rfl (.cons (fSlO rfl) (.cons (fSlO rfl) .nil))))))))))))))⟩,bS rfl rfl rfl,bS rfl rfl rfl,tv⟩ rfl) ?_;refine Tr.weak (by show WeakSt Γ _ ⟨look [(0,.ptr (Γ.n0+0) 0),(1,.d (.lst 3 (List.map Ql [(Qb.mk 0 0 1),(Qb.mk 0 1 2),(Qb.mk 1 2 3),(Qb.mk 2 2 4)]))),(2,.agg [(i_ 0),(i_ 0),(i_ 1)]),(3,.agg [(i_ 0),(i_ 1),(i_ 2)]),(4,.agg [(i_ 1),(i_ 2),(i_ 3)]),(5,.agg [(i_ 2),(i_ 2),(i_ 4)]),(6,.d (.lst 3 (List.map Ql [(Qb.mk 0 0 1),(Qb.mk 0 1 2),(Qb.mk 1 2 3),(Qb.mk 2 2 4)]))),(7,(l_ [0,1,2])),(8,.d (.lst 3 (List.map Ql [(Qb.mk 0 0 1),(Qb.mk 0 1 2),(Qb.mk 1 2 3),(Qb.mk 2 2 4)]))),(9,.agg [(l_ [0,1,2]),(i_ 5),.nils 1,.d (.lst 3 (List.map Ql [(Qb.mk 0 0 1),(Qb.mk 0 1 2),(Qb.mk 1 2 3),(Qb.mk 2 2 4)]))]),(10,.agg [.nils 1,(i_ 1),.nils 1,.nils 3]),(11,(l_ [0,1,2])),(12,.d (.lst 3 (List.map Ql [(Qb.mk 0 0 1),(Qb.mk 0 1 2),(Qb.mk 1 2 3),(Qb.mk 2 2 4)]))),(13,(Qh x1)),(14,.agg [(l_ [0,1,2]),(i_ 4),.nils 1,(Qh x1)]),(15,(l_ [2])),(16,.sl 1 (Γ.n0+16) 0 3 3),(17,.agg [(l_ [0,1,2]),(i_ 5),.nils 1,.d (.lst 3 (List.map Ql [(Qb.mk 0 0 1),(Qb.mk 0 1 2),(Qb.mk 1 2 3),(Qb.mk 2 2 4)])),.nils 1,(i_ 1),.nils 1,.nils 3,(l_ [0,1,2]),(i_ 4),.nils 1,(Qh x1),(l_ [2]),.sl 1 (Γ.n0+16) 0 3 3])],Qo Γ.n0 (bxs [(0,.cells ([(l_ [0,1,2]),(i_ 5),.nils 1,.d (.lst 3 (List.map Ql [(Qb.mk 0 0 1),(Qb.mk 0 1 2),(Qb.mk 1 2 3),(Qb.mk 2 2 4)])),.nils 1,(i_ 1),.nils 1,.nils 3,(l_ [0,1,2]),(i_ 4),.nils 1,(Qh x1),(l_ [2]),.sl 1 (Γ.n0+16) 0 3 3])),(16,.cells ([(i_ 0),(i_ 1),(i_ 2)]))]) M,Γ.n0+18⟩;exact Qcn 15 [.int .i64 2] rfl rfl ⟨(fPtr rfl),sq,sq,sq,sq,sq,sq,sq,sq,sq,sq,sq,sq,sq,sq,(fSl rfl rfl),(fSlO rfl),(WkV.agg (cS rfl (cS rfl (cS rfl (cS rfl (cS rfl (cS rfl (cS rfl (cS rfl (cS rfl (cS rfl (cS rfl (cS rfl (.cons (fSl rfl rfl) (.cons (fSlO rfl) .nil))))))))))))))),tv⟩ ⟨⟨_,rfl,rfl,(cS rfl (cS rfl (cS rfl (cS rfl (cS rfl (cS rfl (cS rfl (cS rfl (cS rfl (cS rfl (cS rfl (cS rfl (.cons (fSl rfl rfl) (.cons (fSlO rfl) .nil))))))))))))))⟩,bS rfl rfl rfl,tv⟩ rfl) ?_;refine Tr.weak (by show WeakSt Γ _ ⟨look [(0,.ptr (Γ.n0+0) 0),(1,.d (.lst 3 (List.map Ql [(Qb.mk 0 0 1),(Qb.mk 0 1 2),(Qb.mk 1 2 3),(Qb.mk 2 2 4)]))),(2,.agg [(i_ 0),(i_ 0),(i_ 1)]),(3,.agg [(i_ 0),(i_ 1),(i_ 2)]),(4,.agg [(i_ 1),(i_ 2),(i_ 3)]),(5,.agg [(i_ 2),(i_ 2),(i_ 4)]),(6,.d (.lst 3 (List.map Ql [(Qb.mk 0 0 1),(Qb.mk 0 1 2),(Qb.mk 1 2 3),(Qb.mk 2 2 4)]))),(7,(l_ [0,1,2])),(8,.d (.lst 3 (List.map Ql [(Qb.mk 0 0 1),(Qb.mk 0 1 2),(Qb.mk 1 2 3),(Qb.mk 2 2 4)]))),(9,.agg [(l_ [0,1,2]),(i_ 5),.nils 1,.d (.lst 3 (List.map Ql [(Qb.mk 0 0 1),(Qb.mk 0 1 2),(Qb.mk 1 2 3),(Qb.mk 2 2 4)]))]),(10,.agg [.nils 1,(i_ 1),.nils 1,.nils 3]),(11,(l_ [0,1,2])),(12,.d (.lst 3 (List.map Ql [(Qb.mk 0 0 1),(Qb.mk 0 1 2),(Qb.mk 1 2 3),(Qb.mk 2 2 4)]))),(13,(Qh x1)),(14,.agg [(l_ [0,1,2]),(i_ 4),.nils 1,(Qh x1)]),(15,(l_ [2])),(16,(l_ [0,1,2])),(17,.agg [(l_ [0,1,2]),(i_ 5),.nils 1,.d (.lst 3 (List.map Ql [(Qb.mk 0 0 1),(Qb.mk 0 1 2),(Qb.mk 1 2 3),(Qb.mk 2 2 4)])),.nils 1,(i_ 1),.nils 1,.nils 3,(l_ [0,1,2]),(i_ 4),.nils 1,(Qh x1),(l_ [2]),(l_ [0,1,2])])],Qo Γ.n0 (bxs [(0,.cells ([(l_ [0,1,2]),(i_ 5),.nils 1,.d (.lst 3 (List.map Ql [(Qb.mk 0 0 1),(Qb.mk 0 1 2),(Qb.mk 1 2 3),(Qb.mk 2 2 4)])),.nils 1,(i_ 1),.nils 1,.nils 3,(l_ [0,1,2]),(i_ 4),.nils 1,(Qh x1),(l_ [2]),(l_ [0,1,2])]))]) M,Γ.n0+18⟩;exact Qcn 16 [.int .i64 0,.int .i64 1,.int .i64 2] rfl rfl ⟨(fPtr rfl),sq,sq,sq,sq,sq,sq,sq,sq,sq,sq,sq,sq,sq,sq,sq,(fSl rfl rfl),(WkV.agg (cS rfl (cS rfl (cS rfl (cS rfl (cS rfl (cS rfl (cS rfl (cS rfl (cS rfl (cS rfl (cS rfl (cS rfl (cS rfl (.cons (fSl rfl rfl) .nil))))))))))))))),tv⟩ ⟨⟨_,rfl,rfl,(cS rfl (cS rfl (cS rfl (cS rfl (cS rfl (cS rfl (cS rfl (cS rfl (cS rfl (cS rfl (cS rfl (cS rfl (cS rfl (.cons (fSl rfl rfl) .nil))))))))))))))⟩,tv⟩ rfl) ?_;exact Y
theorem Qup {P:Program} {c:Nat} (hcf:Qn P c=some Qo1) (fuel:Nat):Qkb P c (Qc2 fuel):=by
 intro l1 n2 r h;refine Qbs hcf rfl fun Γ M hP hnt hM=>?_;subst hP;refine ini ?_;refine Z 12 0 ?_;refine lw h [0,1,7,8] [] (fun x3 e=>(9,(i_ x3))::e) (fun _ l=>l) ke wk (fun _ x3 h=>?_);refine Z 5 0 ?_;refine ci h rfl (fun h=>?_) (fun h=>Y);refine Z 12 1 ?_;intro _ h;refine cw h [0,1,5,6,7,8,9] [] (fun x9 e=>(14,(b_ x9))::e) (fun _ l=>l) ke (fun _ h=>?_) (fun x9 h=>?_)
 ·refine Z 4 0 ?_;exact bi h (fun _ h=>Y) (fun _ h=>Y)
 ·refine cd h rfl (fun h=>Y) (fun h=>?_);refine cw h [0,1,7,8,9] [] (fun x14 e=>(22,(b_ x14))::e) (fun _ l=>l) ke (fun _ h=>?_) (fun x14 h=>?_)
  ·refine Z 4 0 ?_;exact bi h (fun _ h=>Y) (fun _ h=>Y)
  ·exact cd h rfl (fun h=>Y) (fun h=>Y)
theorem Qw1 {P:Program} {c:Nat} (hcf:Qn P c=some Qrv) (fuel:Nat):Qmd P c (Qee fuel):=by
 intro s1 v2 r h;refine Qbs hcf rfl fun Γ M hP hnt hM=>?_;subst hP;refine ini ?_;refine Z 12 0 ?_;refine lw h [0,1,7] [] (fun x3 e=>(8,(i_ x3))::e) (fun _ l=>l) ke wk (fun _ x3 h=>?_);refine Z 5 0 ?_;refine ci h rfl (fun h=>?_) (fun h=>Y);refine Z 17 1 ?_;intro _ h;exact cd h rfl (fun h=>Y) (fun h=>Y)
theorem Qtm {P:Program} {c:Nat} {Qee:_}
    (Hdq:Qmd P 108 Qee) (hcf:Qn P c=some Qob):Qcp P c (Qk Qee):=by
 intro s1 v2 r h;refine Qbs hcf rfl fun Γ M hP hnt hM=>?_;subst hP;refine ini ?_;refine Z 8 0 ?_;refine cl (Hdq _ _) h (cq fun _ h=>?_);exact Y
theorem Qsg {P:Program} {c:Nat} {Qk:_}
    (Hdl:Qcp P 62 Qk) (hcf:Qn P c=some Qm1) (fuel:Nat):Qiy P c (Qcy Qk fuel):=by
 intro a1 r h;refine Qbs hcf rfl fun Γ M hP hnt hM=>?_;subst hP;refine ini ?_;refine Z 14 0 ?_;refine lo h (fun x2=>⟨look [(1,.ptr (Γ.n0+1) 0),(7,(Qh a1.zD)),(8,(i_ (a1.zD.length:Int))),(9,(i_ x2))],Qo Γ.n0 (bxs [(1,.cells ((Qr a1)))]) M,Γ.n0+72⟩) wk (fun _ x2 h=>?_);refine Z 5 0 ?_;refine ci h rfl (fun h=>?_) (fun h=>Y);refine Tr.skip ?_;refine Tr.cutJ (fun ((c22,c23,c24):Int×Int×Int)=>⟨look [(1,.ptr (Γ.n0+1) 0),(7,(Qh a1.zD)),(8,(i_ (a1.zD.length:Int))),(9,(i_ x2))],Qo Γ.n0 (bxs [(1,.cells ((Qr a1))),(4,.cells ([(i_ c22),(i_ c23),(i_ c24)]))]) M,Γ.n0+72⟩) h (fun J25 h=>?_) (fun z h=>?_)
 ·refine Z 12 1 ?_;intro x5 h;refine cu h (fun x10=>⟨look [(1,.ptr (Γ.n0+1) 0),(3,(i_ x2)),(4,.ptr (Γ.n0+4) 0),(7,(Qh a1.zD)),(8,(i_ (a1.zD.length:Int))),(9,(i_ x2)),(14,(b_ x10))],Qo Γ.n0 (bxs [(1,.cells ((Qr a1))),(4,.cells ((Qpu x5)))]) M,Γ.n0+72⟩) (fun _ h=>?_) (fun x10 h=>?_)
  ·refine Z 5 0 ?_;refine bi h (fun _ h=>Y) (fun _ h=>?_);refine Z 7 0 ?_;refine bi h (fun _ h=>Y) (fun _ h=>?_);refine Z 5 0 ?_;exact bi h (fun _ h=>Y) (fun _ h=>Y)
  ·refine cd h rfl (fun h=>Y) (fun h=>?_);refine Z 6 0 ?_;refine cl (Hdl _ _) h (cq fun _ h=>?_);refine Z 3 0 ?_;refine Tr.cond rfl (fun hb14=>?_) (fun hb14=>?_)
   ·have hb14:=nT' hb14;replace h:=bF hb14 h;exact Y
   ·have hb14:=nF' hb14;replace h:=bT hb14 h;refine Z 7 0 ?_;refine cd h rfl (fun h=>?_) (fun h=>?_)
    ·refine Tr.exit ?_;exact ⟨_,h,(by exact Qhg [] ⟨(kPtr rfl),sq,sq,sq,tv⟩ ⟨bS rfl rfl rfl,bS rfl rfl rfl,tv⟩ rfl)⟩
    ·refine Z 12 1 ?_;intro x16 h;refine cu h (fun x20=>⟨look [(1,.ptr (Γ.n0+1) 0),(7,(Qh a1.zD)),(8,(i_ (a1.zD.length:Int))),(9,(i_ x2)),(70,(b_ x20))],Qo Γ.n0 (bxs [(1,.cells ((Qr a1))),(4,.cells ((Qpu x5))),(5,.cells ((Qpu x16)))]) M,Γ.n0+72⟩) (fun _ h=>?_) (fun x20 h=>?_)
     ·refine Z 7 0 ?_;refine bi h (fun _ h=>Y) (fun _ h=>?_);refine Z 6 0 ?_;exact bs h (fun _ h=>Y) (fun _ h=>Y)
     ·refine cd h rfl (fun h=>Y) (fun h=>?_);refine Tr.skip ?_;exact ⟨_,h,(by exact Qhg [5] ⟨(kPtr rfl),sq,sq,sq,tv⟩ ⟨bS rfl rfl rfl,bS rfl rfl rfl,tv⟩ rfl)⟩
 ·obtain ⟨c22,c23,c24⟩:=z;exact Y
theorem Qyb {P:Program} {c:Nat} {Qc2:_} {Qcy:_}
    (Han:Qkb P 97 Qc2)
    (Ham:Qiy P 98 Qcy) (hcf:Qn P c=some Qtd):Qgq P c (Qz Qc2 Qcy):=by
 intro a1 r h;refine Qbs hcf rfl fun Γ M hP hnt hM=>?_;subst hP;refine ini ?_;refine Z 10 0 ?_;refine cl (Han _ _) h (cq fun _ h=>?_);refine Z 7 0 ?_;refine cd h rfl (fun h=>Y) (fun h=>?_);refine Z 10 0 ?_;refine ci h rfl (fun h=>Y) (fun h=>?_);refine Z 7 0 ?_;refine ci h rfl (fun h=>Y) (fun h=>?_);refine Z 8 0 ?_;refine cl (Han _ _) h (cq fun _ h=>?_);refine Z 7 0 ?_;refine cd h rfl (fun h=>Y) (fun h=>?_);refine Z 4 0 ?_;refine cl (Ham _) h (cq fun _ h=>?_);exact Y
theorem Qzn {P:Program} {c:Nat} (hcf:Qn P c=some Qvb) (fuel:Nat):Qk4 P c (Qce fuel):=by
 intro a1 b2 kv3 g4 cp5 r h;intro M nb hc6 ho8 hf7;refine Qu9 hcf rfl M nb fun Γ hP hnt hn0 hM=>?_;subst hP hn0;refine ini ?_;refine Z 8 0 ?_;refine cw h [] [] (fun ov51 e=>(7,(o_ ov51))::e) (fun _ l=>l) ke (fun _ h=>?_) (fun ov51 h=>Y);refine Tr.block ?_;refine lw h [2] [] (fun (a11,b12,ov13) e=>(0,(l_ a11))::(1,(l_ b12))::(7,(o_ ov13))::e) (fun _ l=>l) ke wk (fun _ ⟨a11,b12,ov13⟩ h=>?_);refine Tr.seq ?_;refine cw h [0,1,2,7] [] (fun x16 e=>(18,(b_ x16))::e) (fun _ l=>l) ke (fun _ h=>?_) (fun x16 h=>?_)
 ·refine Z 5 0 ?_;exact bi h (fun _ h=>Y) (fun _ h=>Y)
 ·refine cd h rfl (fun h=>?_) (fun h=>Y);refine Z 2 0 ?_;refine cw h [0,1,2,7] [] (fun iv24 e=>(8,(b_ iv24))::e) (fun _ l=>l) ke (fun _ h=>?_) (fun iv24 h=>?_)
  ·refine Z 5 0 ?_;refine bi h (fun _ h=>?_) (fun _ h=>Y);refine Z 4 0 ?_;exact bs h (fun _ h=>Y) (fun _ h=>Y)
  ·refine cw h [0,1,2,7,8] [] (fun iv31 e=>(9,(b_ iv31))::e) (fun _ l=>l) ke (fun _ h=>?_) (fun iv31 h=>?_)
   ·refine Z 5 0 ?_;refine bi h (fun _ h=>?_) (fun _ h=>Y);refine Z 4 0 ?_;exact bs h (fun _ h=>Y) (fun _ h=>Y)
   ·refine Z 4 0 ?_;refine cw h [1,2,7,8,9] [] (fun (a37,x38) e=>(0,(l_ a37))::(10,(i_ x38))::e) (fun _ l=>l) ke (fun _ h=>?_) (fun ⟨a37,x38⟩ h=>?_)
    ·refine Z 4 0 ?_;refine cd h rfl (fun h=>?_) (fun h=>Y);refine Z 5 1 ?_;intro _ h;obtain ⟨x35,h36,h⟩:=bnd h;refine Rn.slcTD (e:=(eI .i64)) tv rfl rfl h36 ?_;exact Y
    ·refine cw h [0,2,7,8,9] [] (fun (b44,x45) e=>(1,(l_ b44))::(10,(i_ x45))::e) (fun _ l=>l) ke (fun _ h=>?_) (fun ⟨b44,x45⟩ h=>?_)
     ·refine Z 4 0 ?_;refine cd h rfl (fun h=>?_) (fun h=>Y);refine Z 5 1 ?_;intro _ h;obtain ⟨x42,h43,h⟩:=bnd h;refine Rn.slcTD (e:=(eI .i64)) tv rfl rfl h43 ?_;exact Y
     ·refine Z 5 0 ?_;obtain ⟨x47,h46,h⟩:=bnd h;refine Rn.callvM (args:=[(b_ iv24),(b_ iv31)]++cp5) tv rfl (by rw [hc6];rfl) (fun M2 nb2 hn hx=>hf7 _ _ _ h46 M2 nb2 (by omega) ((Qwm hM).trans hx)) rfl pc9 ?_;refine Z 1 0 ?_;exact cd h rfl (fun h=>Y) (fun h=>Y)
theorem Qw2 {P:Program} {c:Nat} (hcf:Qn P c=some Qrw):Qme P c (Qe7):=by
 intro iv1 iv2 r h;refine Qbs hcf rfl fun Γ M hP hnt hM=>?_;subst hP;refine ini ?_;refine Z 8 0 ?_;exact bs h (fun _ h=>Y) (fun _ h=>Y)
theorem Qzo {P:Program} {c:Nat} {Qce:_} {Qe7:_}
    (Hah:Qk4 P 139 Qce)
    (Had:Qme P 140 Qe7) (hcf:Qn P c=some Qvc):Qon P c (Qfe Qce Qe7):=by
 intro a1 b2 r h;refine Qbs hcf rfl fun Γ M hP hnt hM=>?_;subst hP;refine ini ?_;refine Z 8 0 ?_;refine cm h (fun _ h7 M2 nb2 hn hx=>Hah _ _ _ 140 [] _ h7 M2 nb2 rfl tv (fun a3 a4 r5 h6 M3 nb3 hn3 hx3=>Had a3 a4 r5 h6 M3 nb3 )) rfl (cq fun _ h=>?_);exact Y
theorem Qyc {P:Program} {c:Nat} {Qfe:_}
    (Hac:Qon P 99 Qfe) (hcf:Qn P c=some Qte):Qnl P c (Qex Qfe):=by
 intro a1 b2 r h;refine Qbs hcf rfl fun Γ M hP hnt hM=>?_;subst hP;refine ini ?_;refine Z 8 0 ?_;refine cl (Hac _ _) h (cq fun _ h=>?_);exact Y
theorem Qvm {P:Program} {c:Nat} (hcf:Qn P c=some Qqd) (fuel:Nat):Qlb P c (Qdj fuel):=by
 intro xv1 n2 r h;refine Qbs hcf rfl fun Γ M hP hnt hM=>?_;subst hP;refine ini ?_;refine Z 12 0 ?_;refine lw h [0,1,7,8] [] (fun x3 e=>(9,(i_ x3))::e) (fun _ l=>l) ke wk (fun _ x3 h=>?_);refine Z 5 0 ?_;refine ci h rfl (fun h=>?_) (fun h=>Y);refine Z 12 1 ?_;intro _ h;refine cw h [0,1,5,6,7,8,9] [] (fun x9 e=>(20,(b_ x9))::e) (fun _ l=>l) ke (fun _ h=>?_) (fun x9 h=>?_)
 ·refine Z 4 0 ?_;exact bi h (fun _ h=>Y) (fun _ h=>Y)
 ·refine cd h rfl (fun h=>Y) (fun h=>?_);refine Tr.skip ?_;refine cw h [0,1,7,8,9] [] (fun x14 e=>(31,(b_ x14))::e) (fun _ l=>l) ke (fun _ h=>?_) (fun x14 h=>?_)
  ·refine Z 4 0 ?_;exact bi h (fun _ h=>Y) (fun _ h=>Y)
  ·exact cd h rfl (fun h=>Y) (fun h=>Y)
theorem Qzp {P:Program} {c:Nat} {Qz:_} {Qex:_} {Qdj:_}
    (Hai:Qgq P 48 Qz)
    (Hae:Qnl P 49 Qex)
    (Haa:Qlb P 50 Qdj) (hcf:Qn P c=some Qvd) (fuel:Nat):Qoo P c (Qff Qz Qex Qdj fuel):=by
 intro p1 r h;refine Qbs hcf rfl fun Γ M hP hnt hM=>?_;subst hP;refine ini ?_;refine Z 15 0 ?_;refine Rn.k (v:=.d (.int .i64 3)) tv rfl rfl rfl ?_;refine Z 3 0 ?_;refine Tr.weak (by show WeakSt Γ _ ⟨look [(0,(Qv p1)),(1,.ptr (Γ.n0+1) 0),(2,(i_ 0)),(11,.ptr (Γ.n0+1) 0),(12,(Qe p1.Plant)),(13,.ptr (Γ.n0+1) 4),(14,(Qe p1.Ambient)),(15,.ptr (Γ.n0+1) 8),(16,(Qe p1.Requirement)),(17,.d (.lst 4 (List.map Qby [p1.Plant,p1.Ambient,p1.Requirement]))),(18,(i_ 3)),(19,(i_ 0))],Qo Γ.n0 (bxs [(1,.cells ((Qbo p1)))]) M,Γ.n0+63⟩;exact Qcn 17 [.lst 1 (List.map (eI .i64) p1.Plant.zB),.int .i64 p1.Plant.zF,.lst 1 (List.map (eI .i64) p1.Plant.zC),.lst 3 (List.map Ql p1.Plant.zD),.lst 1 (List.map (eI .i64) p1.Ambient.zB),.int .i64 p1.Ambient.zF,.lst 1 (List.map (eI .i64) p1.Ambient.zC),.lst 3 (List.map Ql p1.Ambient.zD),.lst 1 (List.map (eI .i64) p1.Requirement.zB),.int .i64 p1.Requirement.zF,.lst 1 (List.map (eI .i64) p1.Requirement.zC),.lst 3 (List.map Ql p1.Requirement.zD)] rfl rfl ⟨sq,(fPtr rfl),sq,(fPtr rfl),sq,(fPtr rfl),sq,(fPtr rfl),sq,(fSl rfl rfl),sq,sq,tv⟩ ⟨bS rfl rfl rfl,tv⟩ rfl) ?_;refine lw h [1,17,18] [1] (fun x2 e=>(19,(i_ x2))::e) (fun _ l=>l) ke wk (fun _ x2 h=>?_);refine Z 5 0 ?_;refine ci h rfl (fun h=>?_) (fun h=>?_)
 ·refine Z 13 1 ?_;intro _ h;refine cl (Hai _) h (cq fun _ h=>?_);refine Z 7 0 ?_;exact cd h rfl (fun h=>Y) (fun h=>Y)
 ·refine Z 9 0 ?_;refine Rn.k (v:=.d (.int .i64 2)) tv rfl rfl rfl ?_;refine Z 3 0 ?_;refine Tr.weak (by show WeakSt Γ _ ⟨look [(1,.ptr (Γ.n0+1) 0),(17,.d (.lst 4 (List.map Qby [p1.Plant,p1.Ambient,p1.Requirement]))),(18,(i_ 3)),(19,(i_ x2)),(20,(b_ (decide (x2<3)))),(29,.ptr (Γ.n0+1) 4),(30,(Qe p1.Ambient)),(31,.ptr (Γ.n0+1) 8),(32,(Qe p1.Requirement)),(33,.d (.lst 4 (List.map Qby [p1.Ambient,p1.Requirement]))),(34,(i_ 2)),(35,(i_ 0))],Qo Γ.n0 (bxs [(1,.cells ((Qbo p1)))]) M,Γ.n0+63⟩;exact Qcn 33 [.lst 1 (List.map (eI .i64) p1.Ambient.zB),.int .i64 p1.Ambient.zF,.lst 1 (List.map (eI .i64) p1.Ambient.zC),.lst 3 (List.map Ql p1.Ambient.zD),.lst 1 (List.map (eI .i64) p1.Requirement.zB),.int .i64 p1.Requirement.zF,.lst 1 (List.map (eI .i64) p1.Requirement.zC),.lst 3 (List.map Ql p1.Requirement.zD)] rfl rfl ⟨(fPtr rfl),sq,sq,sq,sq,(fPtr rfl),sq,(fPtr rfl),sq,(fSl rfl rfl),sq,sq,tv⟩ ⟨bS rfl rfl rfl,tv⟩ rfl) ?_;refine lw h [1,33,34] [1] (fun x10 e=>(35,(i_ x10))::e) (fun _ l=>l) ke wk (fun _ x10 h=>?_);refine Z 5 0 ?_;refine ci h rfl (fun h=>?_) (fun h=>?_)
  ·refine Z 17 1 ?_;intro _ h;refine cl (Hae _ _) h (cq fun _ h=>?_);refine Z 2 0 ?_;refine Tr.cond rfl (fun hb17=>?_) (fun hb17=>?_)
   ·have hb17:=nT' hb17;replace h:=bF hb17 h;exact Y
   ·have hb17:=nF' hb17;replace h:=bT hb17 h;exact Y
  ·refine Z 9 0 ?_;refine Rn.k (v:=.d (.int .i64 2)) tv rfl rfl rfl ?_;refine Z 3 0 ?_;refine Tr.weak (by show WeakSt Γ _ ⟨look [(1,.ptr (Γ.n0+1) 0),(33,.d (.lst 4 (List.map Qby [p1.Ambient,p1.Requirement]))),(34,(i_ 2)),(35,(i_ x10)),(36,(b_ (decide (x10<2)))),(47,.ptr (Γ.n0+1) 12),(48,(l_ p1.Observable)),(49,.ptr (Γ.n0+1) 13),(50,(l_ p1.Controllable)),(51,.d (.lst 1 (List.map (eL 1 (eI .i64)) [p1.Observable,p1.Controllable]))),(52,(i_ 2)),(53,(i_ 0))],Qo Γ.n0 (bxs [(1,.cells ((Qbo p1)))]) M,Γ.n0+63⟩;exact Qcn 51 [.lst 1 (List.map (eI .i64) p1.Observable),.lst 1 (List.map (eI .i64) p1.Controllable)] rfl rfl ⟨(fPtr rfl),sq,sq,sq,sq,(fPtr rfl),sq,(fPtr rfl),sq,(fSl rfl rfl),sq,sq,tv⟩ ⟨bS rfl rfl rfl,tv⟩ rfl) ?_;refine lw h [51,52] [1] (fun x18 e=>(53,(i_ x18))::e) (fun _ l=>l) ke wk (fun _ x18 h=>?_);refine Z 5 0 ?_;refine ci h rfl (fun h=>?_) (fun h=>Y);refine Z 12 1 ?_;intro _ h;refine cl (Haa _ _) h (cq fun _ h=>?_);refine Z 7 0 ?_;exact cd h rfl (fun h=>Y) (fun h=>Y)
theorem Q0v {P:Program} {c:Nat} {Qz:_}
    (Hai:Qgq P 48 Qz) (hcf:Qn P c=some Qwu) (fuel:Nat):Qqe P c (Qf1 Qz fuel):=by
 intro l1 r h;refine Qbs hcf rfl fun Γ M hP hnt hM=>?_;subst hP;refine ini ?_;refine Z 11 0 ?_;refine ci h rfl (fun h=>Y) (fun h=>?_);refine Z 9 0 ?_;refine lw h [9,10] [] (fun x3 e=>(11,(i_ x3))::e) (fun _ l=>l) ke wk (fun _ x3 h=>?_);refine Z 5 0 ?_;refine ci h rfl (fun h=>?_) (fun h=>Y);refine Z 13 1 ?_;intro _ h;refine cl (Hai _) h (cq fun _ h=>?_);refine Z 7 0 ?_;exact cd h rfl (fun h=>Y) (fun h=>Y)
theorem Qw3 {P:Program} {c:Nat} (hcf:Qn P c=some Qrx):Qmf P c (Qe8):=by
 intro iv1 iv2 r h;refine Qbs hcf rfl fun Γ M hP hnt hM=>?_;subst hP;refine ini ?_;refine Z 8 0 ?_;exact bs h (fun _ h=>Y) (fun _ h=>Y)
theorem Qzq {P:Program} {c:Nat} {Qce:_} {Qe8:_}
    (Hah:Qk4 P 139 Qce)
    (Hag:Qmf P 172 Qe8) (hcf:Qn P c=some Qve):Qop P c (Qfg Qce Qe8):=by
 intro a1 b2 r h;refine Qbs hcf rfl fun Γ M hP hnt hM=>?_;subst hP;refine ini ?_;refine Z 8 0 ?_;refine cm h (fun _ h7 M2 nb2 hn hx=>Hah _ _ _ 172 [] _ h7 M2 nb2 rfl tv (fun a3 a4 r5 h6 M3 nb3 hn3 hx3=>Hag a3 a4 r5 h6 M3 nb3 )) rfl (cq fun _ h=>?_);exact Y
theorem Qzr {P:Program} {c:Nat} {Qfg:_}
    (Haf:Qop P 155 Qfg) (hcf:Qn P c=some Qvf) (fuel:Nat):Qoq P c (Qfh Qfg fuel):=by
 intro l1 r h;refine Qbs hcf rfl fun Γ M hP hnt hM=>?_;subst hP;refine ini ?_;refine Z 8 0 ?_;refine cw h [] [] (fun ov10 e=>(3,(o_ ov10))::e) (fun _ l=>l) ke (fun _ h=>?_) (fun ov10 h=>Y);refine Z 7 0 ?_;refine lw h [6,7] [] (fun (ov2,x3) e=>(3,(o_ ov2))::(8,(i_ x3))::e) (fun _ l=>l) ke wk (fun _ ⟨ov2,x3⟩ h=>?_);refine Z 5 0 ?_;refine ci h rfl (fun h=>?_) (fun h=>Y);refine Z 14 1 ?_;intro _ h;refine cl (Haf _ _) h (cq fun _ h=>?_);exact Y
theorem Q2b {P:Program} {c:Nat} {Qfh:_}
    (Hbz:Qoq P 131 Qfh) (hcf:Qn P c=some Qy8) (fuel:Nat):Qse P c (Qgl Qfh fuel):=by
 intro l1 r h;refine Qbs hcf rfl fun Γ M hP hnt hM=>?_;subst hP;refine ini ?_;refine Z 8 0 ?_;refine cl (Hbz _) h (cq fun x3 h=>?_);refine Rn.buildT (v:=.agg [(Qbp l1),(o_ x3),.nils 1]) tv rfl ?_;refine Z 3 0 ?_;refine cw h [2,3] [] (fun _ e=>e) (fun (c28,c29,c30,m31) l=>(2,.cells ([(Qqb c28),(o_ c29),.own 1 (List.map (fun p:List ((Int×Int)×Int)=>[mq0 p]) c30)]))::(3,.cells ([(Qbp l1),(o_ x3),.own 1 (List.map (fun p:List ((Int×Int)×Int)=>[mq0 p]) m31)]))::l) ke (fun _ h=>?_) (fun ⟨c28,c29,c30,m31⟩ h=>Y);refine Z 7 0 ?_;refine lw h [2,3,13,14] [] (fun (x4,c5,c6,c7,m8) e=>(15,(i_ x4))::e) (fun (x4,c5,c6,c7,m8) l=>(2,.cells ([(Qqb c5),(o_ c6),.own 1 (List.map (fun p:List ((Int×Int)×Int)=>[mq0 p]) c7)]))::(3,.cells ([(Qbp l1),(o_ x3),.own 1 (List.map (fun p:List ((Int×Int)×Int)=>[mq0 p]) m8)]))::l) ke wk (fun _ ⟨x4,c5,c6,c7,m8⟩ h=>?_);refine Z 5 0 ?_;refine ci h rfl (fun h=>?_) (fun h=>Y);refine Tr.skip ?_;refine cw h [2,3,13,14,15] [2] (fun _ e=>e) (fun (m22,a23,a24,a25,a26,c27) l=>(3,.cells ([(Qbp l1),(o_ x3),.own 1 (List.map (fun p:List ((Int×Int)×Int)=>[mq0 p]) m22)]))::(5,.cells ([(l_ a23),(i_ a24),(l_ a25),(Qh a26)]))::(39,.cells ([.d (mq0 c27)]))::l) ke (fun _ h=>?_) (fun ⟨m22,a23,a24,a25,a26,c27⟩ h=>Y);refine Z 10 1 ?_;intro x11 h;refine Rn.mkmap tv rfl (fun (x:Int×Int)=>(.agg [(i_ x.1),(i_ x.2)]:V)) (fun (x:Int)=>((i_ x):V)) ?_;refine Z 2 0 ?_;refine cw h [2,3,6,13,14,15] [2,3,5] (fun _ e=>e) (fun c19 l=>(19,.mp (mapE (fun (x:Int×Int)=>(.agg [(i_ x.1),(i_ x.2)]:V)) (fun (x:Int)=>((i_ x):V)) 0 c19) (c19).length)::l) ke (fun _ h=>?_) (fun c19 h=>?_)
 ·refine Z 8 0 ?_;refine lw h [2,3,6,13,14,15,21,22] [2,3,5] (fun (x13,c14) e=>(23,(i_ x13))::e) (fun (x13,c14) l=>(19,.mp (mapE (fun (x:Int×Int)=>(.agg [(i_ x.1),(i_ x.2)]:V)) (fun (x:Int)=>((i_ x):V)) 0 c14) (c14).length)::l) ke wk (fun _ ⟨x13,c14⟩ h=>?_);refine Z 5 0 ?_;refine ci h rfl (fun h=>?_) (fun h=>Y);refine Z 19 1 ?_;intro x17 h;refine Rn.mapset (ek:=(fun (x:Int×Int)=>(.agg [(i_ x.1),(i_ x.2)]:V))) (ev:=(fun (x:Int)=>((i_ x):V))) (m:=c14) (k:=(x17.From,x17.Event)) (v:=x17.To) Qbdl (fun _=>rfl) (fun _=>rfl) tv rfl rfl rfl rfl rfl ?_;exact Y
 ·refine Z 5 0 ?_;refine Rn.weak (by show WeakSt Γ _ ⟨look [(2,.ptr (Γ.n0+2) 0),(3,.ptr (Γ.n0+3) 0),(6,.d (mq0 c19)),(13,(Qbp l1)),(14,(i_ (l1.length:Int))),(15,(i_ x4)),(36,.ptr (Γ.n0+3) 2),(37,.own 1 (List.map (fun p:List ((Int×Int)×Int)=>[mq0 p]) m8)),(38,.d (mq0 c19)),(39,.sl 1 (Γ.n0+39) 0 1 1)],Qo Γ.n0 (bxs [(2,.cells ([(Qqb c5),(o_ c6),.own 1 (List.map (fun p:List ((Int×Int)×Int)=>[mq0 p]) c7)])),(3,.cells ([(Qbp l1),(o_ x3),.d (.lst 1 (List.map (fun p:List ((Int×Int)×Int)=>[mq0 p]) m8))])),(5,.cells ((Qr x11))),(39,.cells ([.d (mq0 c19)]))]) M,Γ.n0+44⟩;exact Q28 (ek:=(fun (x:Int×Int)=>(.agg [(i_ x.1),(i_ x.2)]:V))) (ev:=(fun (x:Int)=>((i_ x):V))) (m:=c19) 19 rfl (fun _=>rfl) (fun _=>rfl) ⟨(mPtr rfl),(mPtr rfl),mMpS,sq,sq,sq,(mPtr rfl),sq,mMpS,(mSlO rfl),tv⟩ ⟨bS rfl rfl rfl,bS rfl rfl rfl,bS rfl rfl rfl,⟨_,rfl,rfl,(.cons mMpS .nil)⟩,tv⟩ rfl) ?_;exact Y
theorem Qpf {P:Program} {c:Nat} (hcf:Qn P c=some Qkk) (fuel:Nat):Qhp P c (Qcb fuel):=by
 intro m1 r h;refine Qbs hcf rfl fun Γ M hP hnt hM=>?_;subst hP;refine ini ?_;refine Z 15 0 ?_;refine lw h [1,7,8] [1] (fun x2 e=>(9,(i_ x2))::e) (fun _ l=>l) ke wk (fun _ x2 h=>?_);refine Z 5 0 ?_;refine ci h rfl (fun h=>?_) (fun h=>?_)
 ·refine Z 16 1 ?_;intro _ h;exact cd h rfl (fun h=>Y) (fun h=>Y)
 ·refine Z 6 0 ?_;obtain ⟨x8,h9,h⟩:=bnd h;refine Rn.makes (g:=(fun (x:Int)=>[V.d (.int .i64 x)])) tv rfl rfl rfl rfl rfl h9 ?_;refine Z 3 0 ?_;obtain ⟨⟨⟩,hl10,h⟩:=bnd h;refine Tr.weak (by show WeakSt Γ _ ⟨look [(1,.ptr (Γ.n0+1) 0),(2,(l_ x8)),(3,(b_ true)),(7,(Qbp m1.list_)),(8,(i_ (m1.list_.length:Int))),(9,(i_ x2)),(10,(b_ (decide (x2<(m1.list_.length:Int))))),(17,.ptr (Γ.n0+1) 0),(18,(Qbp m1.list_)),(19,(i_ (m1.list_.length:Int))),(20,(l_ x8))],Qo Γ.n0 (bxs [(1,.cells ((Qew m1)))]) M,Γ.n0+21⟩;exact Qcn 20 _ rfl (Qs9 (fun _=>rfl) _) ⟨(fPtr rfl),(fSlA (fun _=>rfl) (Qhh hl10)),sq,sq,sq,sq,sq,(fPtr rfl),sq,sq,(fSlA (fun _=>rfl) (Qhh hl10)),tv⟩ ⟨bS rfl rfl rfl,tv⟩ rfl) ?_;exact Y
theorem Q0w {P:Program} {c:Nat} (hcf:Qn P c=some Qwv):Qqf P c (Qe9):=by
 intro x1 r h;refine Qbs hcf rfl fun Γ M hP hnt hM=>?_;subst hP;refine ini ?_;exact Y
theorem Q2c {P:Program} {c:Nat} {Qe9:_}
    (Has:Qqf P 171 Qe9) (hcf:Qn P c=some Qy9):Qsf P c (Qgm Qe9):=by
 intro x1 y2 r h;refine Qbs hcf rfl fun Γ M hP hnt hM=>?_;subst hP;refine ini ?_;refine Z 7 0 ?_;refine cl (Has _) h (cq fun _ h=>?_);refine Z 1 0 ?_;refine bs h (fun _ h=>?_) (fun _ h=>Y);refine Z 1 0 ?_;refine cl (Has _) h (cq fun _ h=>?_);refine Z 3 0 ?_;exact bs h (fun _ h=>Y) (fun _ h=>Y)
theorem Qw4 {P:Program} {c:Nat} (hcf:Qn P c=some Qry):Qmg P c (Qdv):=by
 intro x1 r h;refine Qbs hcf rfl fun Γ M hP hnt hM=>?_;subst hP;refine ini ?_;exact Y
theorem Qpg {P:Program} {c:Nat} {Qgm:_} {Qdv:_}
    (Har:Qsf P 153 Qgm)
    (Hdt:Qmg P 154 Qdv) (hcf:Qn P c=some Qkl) (fuel:Nat):Qft P c (Q6 Qgm Qdv fuel):=by
 intro x1 tv2 r h;refine Qbs hcf rfl fun Γ M hP hnt hM=>?_;subst hP;refine ini ?_;refine Z 17 0 ?_;refine cw h [0,1,6] [] (fun i12 e=>(7,(i_ i12))::e) (fun _ l=>l) ke (fun _ h=>?_) (fun i12 h=>?_)
 ·refine Tr.block ?_;refine lw h [0,1,6] [] (fun (i3,j4) e=>(7,(i_ i3))::(8,(i_ j4))::e) (fun _ l=>l) ke wk (fun _ ⟨i3,j4⟩ h=>?_);refine Z 7 0 ?_;refine ci h rfl (fun h=>?_) (fun h=>Y);refine Z 19 1 ?_;intro _ h;refine cl (Har _ _) h (cq fun _ h=>?_);refine Z 1 0 ?_;exact cd h rfl (fun h=>Y) (fun h=>Y)
 ·refine Z 7 0 ?_;refine bi h (fun _ h=>?_) (fun _ h=>Y);refine Z 7 1 ?_;intro _ h;refine bs h (fun _ h=>Y) (fun _ h=>?_);refine Z 4 1 ?_;intro _ h;refine cl (Hdt _) h (cq fun _ h=>?_);refine Z 1 0 ?_;refine bs h (fun _ h=>?_) (fun _ h=>Y);refine Z 1 0 ?_;refine cl (Hdt _) h (cq fun _ h=>?_);exact Y
theorem Qvn {P:Program} {c:Nat} {Q6:_}
    (Hdg:Qft P 128 Q6) (hcf:Qn P c=some Qqg):Qgu P c (Q8 Q6):=by
 intro xv1 x2 r h;refine Qbs hcf rfl fun Γ M hP hnt hM=>?_;subst hP;refine ini ?_;refine Z 8 0 ?_;refine cl (Hdg _ _) h (cq fun ⟨_,_⟩ h=>?_);exact Y
theorem Qqt {P:Program} {c:Nat} {Q8:_}
    (Hab:Qgu P 85 Q8) (hcf:Qn P c=some Qls) (fuel:Nat):Qh3 P c (Qcj Q8 fuel):=by
 intro m1 tv2 r h;refine Qbs hcf rfl fun Γ M hP hnt hM=>?_;subst hP;refine ini ?_;refine Z 14 0 ?_;refine lw h [1,8,9] [2] (fun x3 e=>(10,(i_ x3))::e) (fun _ l=>l) ke wk (fun _ x3 h=>?_);refine Z 5 0 ?_;refine ci h rfl (fun h=>?_) (fun h=>Y);refine Z 20 1 ?_;intro _ _ h;refine cl (Hab _ _) h (cq fun _ h=>?_);refine Z 2 0 ?_;refine Tr.cond rfl (fun hb12=>?_) (fun hb12=>?_)
 ·have hb12:=nT' hb12;replace h:=bF hb12 h;exact Y
 ·have hb12:=nF' hb12;replace h:=bT hb12 h;exact Y
theorem Qw5 {P:Program} {c:Nat} (hcf:Qn P c=some Qrz):Qc8 P c (Qm):=by
 intro s1 r h;refine Qbs hcf rfl fun Γ M hP hnt hM=>?_;subst hP;refine ini ?_;refine Z 8 0 ?_;refine Rn.isnil (e:=(eI .i64)) tv rfl h (fun b2 h=>?_);refine Z 1 0 ?_;exact cd h rfl (fun h=>Y) (fun h=>Y)
theorem Qsh {P:Program} {c:Nat} {Qm:_} {Q8:_}
    (Hdh:Qc8 P 58 Qm)
    (Hab:Qgu P 85 Q8) (hcf:Qn P c=some Qm2) (fuel:Nat):Qiz P c (Qcz Qm Q8 fuel):=by
 intro m1 tv2 ev3 r h;refine Qbg2 hcf (args':=[.agg [.f (.lst 4 (List.map Qby m1.list_)),(f_ m1.events_),.f (.lst 1 (List.map (fun p:List ((Int×Int)×Int)=>[mq0 p]) m1.edges_))],(f_ tv2),(i_ ev3)]) rfl rfl rfl rfl rfl rfl fun Γ M hP hnt hG hM0 hM=>?_;subst hP;refine ini ?_;refine Z 9 0 ?_;obtain ⟨x5,h4,h⟩:=bnd h;refine Rn.call (args:=[(f_ tv2)]) tv rfl (fun M2 nb2=>ACalls.weak (args':=[(l_ tv2)]) (Hdh _ _ h4 M2 nb2) (.cons fToD .nil) rfl) pc9 ?_;refine Z 2 0 ?_;obtain ⟨⟨⟩,hx6,h⟩:=bnd h;refine Tr.weak (wS [0,1,2,3,6,7,8,13] [3] (fun e=>e) (fun l=>l) ke wk) ?_;refine Qbml hG hM0 8 8 (e:=(eI .i64)) (fun (x:Int)=>[V.d (.int .i64 x)]) (fun _=>rfl) (Qbi8 hx6) (fun _=>rfl) rfl rfl rfl ⟨rfl,rfl,rfl,rfl,rfl,rfl,rfl,(Qbdj (fun _=>rfl)),rfl,tv⟩ ⟨⟨rfl,rfl,rfl,tv⟩,tv⟩ (fun c7 R8 hc9=>?_);refine Tr.weak (wS [0,1,2,3,6,7,8,13] [3,8] (fun e=>e) (fun l=>l) ke wk) ?_;refine Z 5 0 ?_;refine Rn.weak (wS [0,1,2,3,6,7,8,13,15] [3,8] (fun e=>(16,(Qbp m1.list_))::e) (fun l=>l) ke wk) ?_;refine Z 4 0 ?_;refine Tr.weak (wS [0,1,2,3,6,7,8,13,15,16,17,18] [8] (fun e=>e) (fun l=>(3,.cells ([.f (.lst 4 (List.map Qby m1.list_)),(f_ m1.events_),.d (.lst 1 (List.map (fun p:List ((Int×Int)×Int)=>[mq0 p]) m1.edges_))]))::l) ke wk) ?_;refine Tr.weak (wS [0,2,3,6,7,8,13,15,16,17,18] [3,8] (fun e=>(1,(l_ tv2))::e) (fun l=>l) ke wk) ?_;refine lo h (fun (x10,nv11)=>⟨look [(1,(l_ tv2)),(2,(i_ ev3)),(3,.ptr (Γ.n0+3) 0),(8,.sl 1 (Γ.n0+8) 0 x5.length c7),(16,(Qbp m1.list_)),(17,(i_ (m1.list_.length:Int))),(18,(i_ x10))],Qo Γ.n0 (bxs [(3,.cells ([.f (.lst 4 (List.map Qby m1.list_)),(f_ m1.events_),.d (.lst 1 (List.map (fun p:List ((Int×Int)×Int)=>[mq0 p]) m1.edges_))])),(8,.cells (rowR (fun (x:Int)=>[V.d (.int .i64 x)]) nv11 R8))]) M,Γ.n0+51⟩) wk (fun _ ⟨x10,nv11⟩ h=>?_);refine Z 5 0 ?_;refine ci h rfl (fun h=>?_) (fun h=>?_)
 ·refine Tr.skip ?_;refine Tr.cutJ (fun ((nv28,a29,a30,a31,a32):(List Int)×(List Int)×Int×(List Int)×(List Qb))=>⟨look [(1,(l_ tv2)),(2,(i_ ev3)),(3,.ptr (Γ.n0+3) 0),(8,.sl 1 (Γ.n0+8) 0 x5.length c7),(16,(Qbp m1.list_)),(17,(i_ (m1.list_.length:Int))),(18,(i_ x10))],Qo Γ.n0 (bxs [(3,.cells ([.f (.lst 4 (List.map Qby m1.list_)),(f_ m1.events_),.d (.lst 1 (List.map (fun p:List ((Int×Int)×Int)=>[mq0 p]) m1.edges_))])),(8,.cells (rowR (fun (x:Int)=>[V.d (.int .i64 x)]) nv28 R8)),(10,.cells ([(l_ a29),(i_ a30),(l_ a31),(Qh a32)]))]) M,Γ.n0+51⟩) h (fun J33 h=>?_) (fun z h=>?_)
  ·refine Z 16 1 ?_;intro _ h;refine cl (Hab _ _) h (cq fun _ h=>?_);refine Z 2 0 ?_;refine Tr.cond rfl (fun hb18=>?_) (fun hb18=>?_)
   ·have hb18:=nT' hb18;replace h:=bF hb18 h;refine Tr.exit ?_;exact ⟨_,h,(by exact Qhg [] ⟨sq,sq,(kPtr rfl),(kSl rfl),sq,sq,sq,tv⟩ ⟨bS rfl rfl rfl,⟨_,rfl,rfl,(Qbb3 (fun _=>rfl) rfl)⟩,bS rfl rfl rfl,tv⟩ rfl)⟩
   ·have hb18:=nF' hb18;replace h:=bT hb18 h;refine Z 14 1 ?_;intro x19 x21 h;refine Rn.lookupDC (ek:=(fun (x:Int×Int)=>(.agg [(i_ x.1),(i_ x.2)]:V))) (ev:=(fun (x:Int)=>((i_ x):V))) (m:=x19) (k:=(x21,ev3)) Qbdl (fun _=>rfl) (fun _=>rfl) (fun _=>rfl) (fun _=>rfl) 0 rfl tv rfl rfl ?_;refine Z 12 0 ?_;refine Tr.cond rfl (fun hb23=>?_) (fun hb23=>?_)
    ·have hb23:=nT' hb23;replace h:=bF hb23 h;exact Y
    ·have hb23:=nF' hb23;replace h:=bT hb23 h;refine Z 6 1 ?_;intro h;obtain ⟨nv26,h27,h⟩:=bnd h;refine Rn.storeR (g:=(fun (x:Int)=>[V.d (.int .i64 x)])) (v:=(i_ (getM x19 (x21,ev3) 0))) (fun _=>rfl) tv rfl rfl rfl rfl rfl h27 ?_;refine Z 1 0 ?_;exact ⟨_,h,(by exact Qhg [] ⟨sq,sq,(kPtr rfl),(kSl rfl),sq,sq,sq,tv⟩ ⟨bS rfl rfl rfl,⟨_,rfl,rfl,(Qbb3 (fun _=>rfl) rfl)⟩,bS rfl rfl rfl,tv⟩ rfl)⟩
  ·obtain ⟨nv28,a29,a30,a31,a32⟩:=z;exact Y
 ·refine Z 7 0 ?_;obtain ⟨⟨⟩,hl34,h⟩:=bnd h;refine Tr.weak (by show WeakSt Γ _ ⟨look [(1,(l_ tv2)),(2,(i_ ev3)),(3,.ptr (Γ.n0+3) 0),(6,(l_ nv11)),(7,(b_ true)),(8,(l_ nv11)),(16,(Qbp m1.list_)),(17,(i_ (m1.list_.length:Int))),(18,(i_ x10)),(19,(b_ (decide (x10<(m1.list_.length:Int))))),(50,(l_ nv11))],Qo Γ.n0 (bxs [(3,.cells ([.f (.lst 4 (List.map Qby m1.list_)),(f_ m1.events_),.d (.lst 1 (List.map (fun p:List ((Int×Int)×Int)=>[mq0 p]) m1.edges_))]))]) M,Γ.n0+51⟩;exact Qrs 8 _ rfl (preR (fun _=>rfl)) ⟨sq,sq,(fPtr rfl),(fSlT (fun _=>rfl) (Qhh hl34) hc9),sq,(fSlT (fun _=>rfl) (Qhh hl34) hc9),sq,sq,sq,sq,(fSlT (fun _=>rfl) (Qhh hl34) hc9),tv⟩ ⟨bS rfl rfl rfl,tv⟩ rfl) ?_;exact Y
theorem Qtn {P:Program} {c:Nat} {Qf1:_} {Qgl:_} {Qcb:_} {f_product_key:_} {Qcj:_} {Qcz:_}
    (Hbw:Qqe P 88 Qf1)
    (Hce:Qse P 89 Qgl)
    (Hcb:Qhp P 90 Qcb)
    (Hca:K_product_key P 91 f_product_key)
    (Hcc:Qh3 P 92 Qcj)
    (Hcd:Qiz P 93 Qcz) (hcf:Qn P c=some Qoc) (fuel:Nat):Qf2 P c (Qw Qf1 Qgl Qcb f_product_key Qcj Qcz fuel):=by
 intro l1 r h;refine Qbs hcf rfl fun Γ M hP hnt hM=>?_;subst hP;refine ini ?_;refine Z 10 0 ?_;refine cl (Hbw _) h (cq fun x3 h=>?_);refine Z 7 0 ?_;refine cd h rfl (fun h=>Y) (fun h=>?_);refine Z 4 0 ?_;refine cl (Hce _) h (cq fun x6 h=>?_);refine Z 13 0 ?_;refine cl (Hcb _) h (cq fun ⟨r8,r9⟩ h=>?_);refine Z 12 0 ?_;refine Tr.cond rfl (fun hb10=>?_) (fun hb10=>?_)
 ·have hb10:=nT' hb10;replace h:=bF hb10 h;exact Y
 ·have hb10:=nF' hb10;replace h:=bT hb10 h;refine Z 9 0 ?_;refine Rn.mkmap tv rfl (fun (x:ByteArray)=>(.d (.str x):V)) (fun (x:Int)=>((i_ x):V)) ?_;refine Z 1 0 ?_;refine cl (Hca _) h (cq fun x12 h=>?_);refine Rn.mapset (ek:=(fun (x:ByteArray)=>(.d (.str x):V))) (ev:=(fun (x:Int)=>((i_ x):V))) (m:=([]:List (ByteArray×Int))) (k:=x12) (v:=0) (fun _ _=>rfl) (fun _=>rfl) (fun _=>rfl) tv rfl rfl rfl rfl rfl ?_;refine Z 9 0 ?_;refine Tr.weak (by show WeakSt Γ _ ⟨look ((3,.own 1 (List.map (eL 1 (eI .i64)) [r8]))::[(0,(Qbp l1)),(2,.ptr (Γ.n0+2) 0),(4,(i_ 0)),(5,(i_ x3)),(6,.ptr (Γ.n0+6) 0),(7,(l_ r8)),(8,(b_ r9)),(9,.mp (Γ.n0+38)),(10,(i_ 0)),(17,(Qbp l1)),(18,(i_ x3)),(19,(i_ x3)),(20,(b_ (x3 != 0))),(23,(Qbp l1)),(24,(Qgp x6)),(25,.ptr (Γ.n0+6) 1),(26,(l_ x6.events_)),(27,.ptr (Γ.n0+2) 0),(28,.tup [(l_ r8),(b_ r9)]),(29,(Qgp x6)),(30,.tup [(l_ r8),(b_ r9)]),(31,(l_ r8)),(32,(b_ r9)),(33,(b_ r9)),(34,(b_ (!r9))),(36,(l_ r8)),(38,.mp (Γ.n0+38)),(39,(l_ r8)),(40,.d (.str x12)),(41,.mp (Γ.n0+38))] ),Qo Γ.n0 (bxs [(2,.cells ([(l_ x6.events_),(i_ 0),.nils 1,.nils 3])),(6,.cells ((Qew x6))),(38,.mp (mapE (fun (x:ByteArray)=>(.d (.str x):V)) (fun (x:Int)=>((i_ x):V)) 0 (setM ([]:List (ByteArray×Int)) x12 0)) ((setM ([]:List (ByteArray×Int)) x12 0)).length)]) M,Γ.n0+117⟩;exact Qs8 37 3 [.lst 1 (List.map (eI .i64) r8)] rfl rfl rfl rfl rfl ⟨sq,(kPtr rfl),sq,sq,(kPtr rfl),sq,sq,(kMp rfl),sq,sq,sq,sq,sq,sq,sq,(kPtr rfl),sq,(kPtr rfl),sq,sq,sq,sq,sq,sq,sq,sq,(kMp rfl),sq,sq,(kMp rfl),tv⟩ ⟨bS rfl rfl rfl,bS rfl rfl rfl,⟨rfl,rfl⟩,tv⟩ rfl) ?_;refine lo h (fun (tv13,i14,a15,a16,c17)=>⟨look [(2,.ptr (Γ.n0+2) 0),(3,.own 1 (List.map (eL 1 (eI .i64)) tv13)),(6,.ptr (Γ.n0+6) 0),(9,.mp (Γ.n0+38)),(10,(i_ i14))],Qo Γ.n0 (bxs [(2,.cells ([(l_ x6.events_),(i_ 0),(o_ a15),(Qp a16)])),(6,.cells ((Qew x6))),(38,.mp (mapE (fun (x:ByteArray)=>(.d (.str x):V)) (fun (x:Int)=>((i_ x):V)) 0 c17) (c17).length)]) M,Γ.n0+117⟩) wk (fun _ ⟨tv13,i14,a15,a16,c17⟩ h=>?_);refine Z 8 0 ?_;refine ci h rfl (fun h=>?_) (fun h=>Y);refine Z 3 0 ?_;refine cu h (fun a27=>⟨look [(2,.ptr (Γ.n0+2) 0),(3,.own 1 (List.map (eL 1 (eI .i64)) tv13)),(6,.ptr (Γ.n0+6) 0),(9,.mp (Γ.n0+38)),(10,(i_ i14))],Qo Γ.n0 (bxs [(2,.cells ([(l_ x6.events_),(i_ 0),(o_ a27),(Qp a16)])),(6,.cells ((Qew x6))),(38,.mp (mapE (fun (x:ByteArray)=>(.d (.str x):V)) (fun (x:Int)=>((i_ x):V)) 0 c17) (c17).length)]) M,Γ.n0+117⟩) (fun _ h=>?_) (fun a27 h=>?_)
  ·refine Z 7 1 ?_;intro _ h;refine cl (Hcc _ _) h (cq fun _ h=>?_);refine Z 1 0 ?_;exact cd h rfl (fun h=>Y) (fun h=>Y)
  ·refine Z 8 0 ?_;refine lo h (fun (tv28,x29,a30,c31)=>⟨look [(2,.ptr (Γ.n0+2) 0),(3,.own 1 (List.map (eL 1 (eI .i64)) tv28)),(6,.ptr (Γ.n0+6) 0),(9,.mp (Γ.n0+38)),(10,(i_ i14)),(61,(l_ x6.events_)),(62,(i_ (x6.events_.length:Int))),(63,(i_ x29))],Qo Γ.n0 (bxs [(2,.cells ([(l_ x6.events_),(i_ 0),(o_ a27),(Qp a30)])),(6,.cells ((Qew x6))),(38,.mp (mapE (fun (x:ByteArray)=>(.d (.str x):V)) (fun (x:Int)=>((i_ x):V)) 0 c31) (c31).length)]) M,Γ.n0+117⟩) wk (fun _ ⟨tv28,x29,a30,c31⟩ h=>?_);refine Z 5 0 ?_;refine ci h rfl (fun h=>?_) (fun h=>Y);refine Tr.skip ?_;refine Tr.cutJ (fun ((tv56,a57,c58):(List (List Int))×(List Qb)×(List (ByteArray×Int)))=>⟨look [(2,.ptr (Γ.n0+2) 0),(3,.own 1 (List.map (eL 1 (eI .i64)) tv56)),(6,.ptr (Γ.n0+6) 0),(9,.mp (Γ.n0+38)),(10,(i_ i14)),(61,(l_ x6.events_)),(62,(i_ (x6.events_.length:Int))),(63,(i_ x29))],Qo Γ.n0 (bxs [(2,.cells ([(l_ x6.events_),(i_ 0),(o_ a27),(Qp a57)])),(6,.cells ((Qew x6))),(38,.mp (mapE (fun (x:ByteArray)=>(.d (.str x):V)) (fun (x:Int)=>((i_ x):V)) 0 c58) (c58).length)]) M,Γ.n0+117⟩) h (fun J59 h=>?_) (fun z h=>?_)
   ·refine Z 15 1 ?_;intro x34 _ h;refine cl (Hcd _ _ _) h (cq fun ⟨_,_⟩ h=>?_);refine Z 12 0 ?_;refine Tr.cond rfl (fun hb41=>?_) (fun hb41=>?_)
    ·have hb41:=nT' hb41;replace h:=bF hb41 h;refine Tr.exit ?_;exact ⟨_,h,(by exact Qhg [] ⟨(kPtr rfl),sq,(kPtr rfl),(kMp rfl),sq,sq,sq,sq,tv⟩ ⟨bS rfl rfl rfl,bS rfl rfl rfl,⟨rfl,rfl⟩,tv⟩ rfl)⟩
    ·have hb41:=nF' hb41;replace h:=bT hb41 h;refine Z 5 0 ?_;refine cl (Hca _) h (cq fun x43 h=>?_);refine Rn.lookupC (ek:=(fun (x:ByteArray)=>(.d (.str x):V))) (ev:=(fun (x:Int)=>((i_ x):V))) (m:=c31) (k:=x43) (fun _ _=>rfl) (fun _=>rfl) (fun _=>rfl) 0 rfl tv rfl rfl rfl ?_;refine Z 6 0 ?_;refine Tr.cutJ (fun ((tv50,to51,c52):(List (List Int))×Int×(List (ByteArray×Int)))=>⟨look [(2,.ptr (Γ.n0+2) 0),(3,.own 1 (List.map (eL 1 (eI .i64)) tv50)),(6,.ptr (Γ.n0+6) 0),(9,.mp (Γ.n0+38)),(10,(i_ i14)),(12,(i_ x34)),(15,(i_ to51)),(61,(l_ x6.events_)),(62,(i_ (x6.events_.length:Int))),(63,(i_ x29))],Qo Γ.n0 (bxs [(2,.cells ([(l_ x6.events_),(i_ 0),(o_ a27),(Qp a30)])),(6,.cells ((Qew x6))),(38,.mp (mapE (fun (x:ByteArray)=>(.d (.str x):V)) (fun (x:Int)=>((i_ x):V)) 0 c52) (c52).length)]) M,Γ.n0+117⟩) h (fun J55 h=>?_) (fun z h=>?_)
     ·refine Z 5 0 ?_;refine Tr.cond rfl (fun hb44=>?_) (fun hb44=>?_)
      ·have hb44:=nT' hb44;replace h:=bF hb44 h;refine Z 7 0 ?_;refine cd h rfl (fun h=>Y) (fun h=>?_);refine Z 11 0 ?_;refine cl (Hca _) h (cq fun x47 h=>?_);refine Z 1 0 ?_;refine Rn.mapset (ek:=(fun (x:ByteArray)=>(.d (.str x):V))) (ev:=(fun (x:Int)=>((i_ x):V))) (m:=c31) (k:=x47) (v:=(tv28.length:Int)) (fun _ _=>rfl) (fun _=>rfl) (fun _=>rfl) tv rfl rfl rfl rfl rfl ?_;refine Z 8 1 ?_;intro _ h;exact ⟨_,h,(by exact Qhg [100] ⟨(kPtr rfl),sq,(kPtr rfl),(kMp rfl),sq,sq,sq,sq,sq,sq,tv⟩ ⟨bS rfl rfl rfl,bS rfl rfl rfl,⟨rfl,rfl⟩,tv⟩ rfl)⟩
      ·have hb44:=nF' hb44;replace h:=bT hb44 h;refine Tr.skip ?_;exact ⟨_,h,(by exact Qhg [] ⟨(kPtr rfl),sq,(kPtr rfl),(kMp rfl),sq,sq,sq,sq,sq,sq,tv⟩ ⟨bS rfl rfl rfl,bS rfl rfl rfl,⟨rfl,rfl⟩,tv⟩ rfl)⟩
     ·obtain ⟨tv50,to51,c52⟩:=z;refine Z 12 1 ?_;intro _ h;exact ⟨_,h,(by exact Qhg [108] ⟨(kPtr rfl),sq,(kPtr rfl),(kMp rfl),sq,sq,sq,sq,tv⟩ ⟨bS rfl rfl rfl,bS rfl rfl rfl,⟨rfl,rfl⟩,tv⟩ rfl)⟩
   ·obtain ⟨tv56,a57,c58⟩:=z;exact Y
theorem Qyd {P:Program} {c:Nat} {Qw:_}
    (Hby:Qf2 P 42 Qw) (hcf:Qn P c=some Qtf):Qjw P c (Qcd Qw):=by
 intro l1 r h;refine Qbs hcf rfl fun Γ M hP hnt hM=>?_;subst hP;refine ini ?_;refine Z 8 0 ?_;refine cl (Hby _) h (cq fun ⟨_,_,_⟩ h=>?_);exact Y
theorem Qm0 {P:Program} {c:Nat} (hcf:Qn P c=some Qis) (fuel:Nat):Qgf P c (Qbn fuel):=by
 intro x1 tv2 cv3 g4 cp5 r h;intro M nb hc6 ho8 hf7;refine Qu9 hcf rfl M nb fun Γ hP hnt hn0 hM=>?_;subst hP hn0;refine ini ?_;refine Z 17 0 ?_;refine cw h [0,1,2,8] [] (fun i20 e=>(9,(i_ i20))::e) (fun _ l=>l) ke (fun _ h=>?_) (fun i20 h=>?_)
 ·refine Tr.block ?_;refine lw h [0,1,2,8] [] (fun (i11,j12) e=>(9,(i_ i11))::(10,(i_ j12))::e) (fun _ l=>l) ke wk (fun _ ⟨i11,j12⟩ h=>?_);refine Z 7 0 ?_;refine ci h rfl (fun h=>?_) (fun h=>Y);refine Z 20 1 ?_;intro x15 h;obtain ⟨x18,h17,h⟩:=bnd h;refine Rn.callvM (args:=[(Qtc x15),(i_ tv2)]++cp5) tv rfl (by rw [hc6];rfl) (fun M2 nb2 hn hx=>hf7 _ _ _ h17 M2 nb2 (by omega) ((Qwm hM).trans hx)) rfl pc9 ?_;refine Z 2 0 ?_;exact ci h rfl (fun h=>Y) (fun h=>Y)
 ·refine Z 7 0 ?_;refine bi h (fun hb21 h=>?_) (fun hb21 h=>Y);refine Z 6 1 ?_;intro x22 h;obtain ⟨x25,h24,h⟩:=bnd h;refine Rn.callvM (args:=[(Qtc x22),(i_ tv2)]++cp5) (gw rfl hb21) rfl (by rw [hc6];rfl) (fun M2 nb2 hn hx=>hf7 _ _ _ h24 M2 nb2 (by omega) ((Qwm hM).trans hx)) rfl pc9 ?_;exact Y
theorem Qye {P:Program} {c:Nat} (hcf:Qn P c=some Qtg):Qnm P c (Qey):=by
 intro x1 s2 r h;refine Qbs hcf rfl fun Γ M hP hnt hM=>?_;subst hP;refine ini ?_;exact Y
theorem Qyf {P:Program} {c:Nat} (hcf:Qn P c=some Qth):Qnn P c (Qez):=by
 intro x1 s2 r h;refine Qbs hcf rfl fun Γ M hP hnt hM=>?_;subst hP;refine ini ?_;exact Y
theorem Q0x {P:Program} {c:Nat} {Qbn:_} {Qey:_} {Qez:_}
    (Hdf:Qgf P 118 Qbn)
    (Hap:Qnm P 119 Qey)
    (Haq:Qnn P 120 Qez) (hcf:Qn P c=some Qww):Qqh P c (Qf3 Qbn Qey Qez):=by
 intro a1 sv2 r h;refine Qbs hcf rfl fun Γ M hP hnt hM=>?_;subst hP;refine ini ?_;refine Z 10 0 ?_;refine cm h (fun _ h7 M2 nb2 hn hx=>Hdf _ _ _ 119 [] _ h7 M2 nb2 rfl tv (fun a3 a4 r5 h6 M3 nb3 hn3 hx3=>Hap a3 a4 r5 h6 M3 nb3 )) rfl (cq fun ⟨_,_⟩ h=>?_);refine Z 12 0 ?_;refine cm h (fun _ h14 M2 nb2 hn hx=>Hdf _ _ _ 120 [] _ h14 M2 nb2 rfl tv (fun a10 a11 r12 h13 M3 nb3 hn3 hx3=>Haq a10 a11 r12 h13 M3 nb3 )) rfl (cq fun ⟨_,_⟩ h=>?_);exact Y
theorem Qto {P:Program} {c:Nat} {Qm:_} {Qf3:_} {Q6:_}
    (Hdh:Qc8 P 58 Qm)
    (Hao:Qqh P 79 Qf3)
    (Hdg:Qft P 128 Q6) (hcf:Qn P c=some Qod) (fuel:Nat):Qjk P c (Qdc Qm Qf3 Q6 fuel):=by
 intro a1 r h;refine Qbs hcf rfl fun Γ M hP hnt hM=>?_;subst hP;refine ini ?_;refine Z 9 0 ?_;refine cl (Hdh _) h (cq fun x3 h=>?_);refine Rn.buildT (v:=.agg [(o_ x3),(i_ 0),.nils 1,.nils 3]) tv rfl ?_;refine Z 10 0 ?_;refine cd h rfl (fun h=>Y) (fun h=>?_);refine Z 5 0 ?_;obtain ⟨x5,h6,h⟩:=bnd h;refine Rn.makes (g:=(fun (x:Int)=>[V.d (.int .i64 x)])) tv rfl rfl rfl rfl rfl h6 ?_;refine Z 2 0 ?_;refine cu h (fun c15=>⟨look [(1,.ptr (Γ.n0+1) 0),(2,.ptr (Γ.n0+2) 0),(3,.ptr (Γ.n0+3) 0),(4,.sl 1 (Γ.n0+22) 0 (Int.toNat a1.zF) (Int.toNat a1.zF))],Qo Γ.n0 (bxs [(1,.cells ((Qr a1))),(2,.cells ([.nils 1,(i_ 0),.nils 1,.nils 3])),(3,.cells ([(o_ x3),(i_ 0),.nils 1,.nils 3])),(22,.cells (Qep (fun (x:Int)=>[V.d (.int .i64 x)]) c15))]) M,Γ.n0+105⟩) (fun _ h=>?_) (fun c15 h=>?_)
 ·refine Z 7 0 ?_;refine lo h (fun (x7,c8)=>⟨look [(1,.ptr (Γ.n0+1) 0),(2,.ptr (Γ.n0+2) 0),(3,.ptr (Γ.n0+3) 0),(4,.sl 1 (Γ.n0+22) 0 (Int.toNat a1.zF) (Int.toNat a1.zF)),(24,(i_ ((Int.toNat a1.zF):Int))),(25,(i_ x7))],Qo Γ.n0 (bxs [(1,.cells ((Qr a1))),(2,.cells ([.nils 1,(i_ 0),.nils 1,.nils 3])),(3,.cells ([(o_ x3),(i_ 0),.nils 1,.nils 3])),(22,.cells (Qep (fun (x:Int)=>[V.d (.int .i64 x)]) c8))]) M,Γ.n0+105⟩) wk (fun _ ⟨x7,c8⟩ h=>?_);refine Z 5 0 ?_;refine ci h rfl (fun h=>?_) (fun h=>Y);refine Z 12 1 ?_;intro h;obtain ⟨x13,h14,h⟩:=bnd h;refine Rn.storeA (g:=(fun (x:Int)=>[V.d (.int .i64 x)])) (v:=(i_ (-1))) (fun _=>rfl) tv rfl rfl rfl rfl rfl h14 ?_;exact Y
 ·refine Z 4 1 ?_;intro h;obtain ⟨x18,h19,h⟩:=bnd h;refine Rn.storeA (g:=(fun (x:Int)=>[V.d (.int .i64 x)])) (v:=(i_ 0)) (fun _=>rfl) tv rfl rfl rfl rfl rfl h19 ?_;refine Z 6 0 ?_;refine cu h (fun (ov74,c75,c76,c77,r78,r79,c80)=>⟨look [(2,.ptr (Γ.n0+2) 0),(3,.ptr (Γ.n0+3) 0),(6,(o_ ov74))],Qo Γ.n0 (bxs [(1,.cells ((Qr a1))),(2,.cells ([(o_ c75),(i_ 0),(o_ c76),(Qp c77)])),(3,.cells ([(o_ x3),(i_ 0),(o_ r78),(Qp r79)])),(22,.cells (Qep (fun (x:Int)=>[V.d (.int .i64 x)]) c80))]) M,Γ.n0+105⟩) (fun _ h=>?_) (fun ⟨ov74,c75,c76,c77,r78,r79,c80⟩ h=>Y);refine Z 5 0 ?_;refine Tr.weak (by show WeakSt Γ _ ⟨look ((6,.own 1 (List.map (eI .i64) [0]))::[(1,.ptr (Γ.n0+1) 0),(2,.ptr (Γ.n0+2) 0),(3,.ptr (Γ.n0+3) 0),(4,.sl 1 (Γ.n0+22) 0 (Int.toNat a1.zF) (Int.toNat a1.zF)),(7,(i_ 0)),(32,.sl 1 (Γ.n0+22) 0 (Int.toNat a1.zF) (Int.toNat a1.zF)),(33,.ptr (Γ.n0+22) (0+Int.toNat 0*1))] ),Qo Γ.n0 (bxs [(1,.cells ((Qr a1))),(2,.cells ([.nils 1,(i_ 0),.nils 1,.nils 3])),(3,.cells ([(o_ x3),(i_ 0),.nils 1,.nils 3])),(22,.cells (Qep (fun (x:Int)=>[V.d (.int .i64 x)]) x18))]) M,Γ.n0+105⟩;exact Qs8 34 6 [.int .i64 0] rfl rfl rfl rfl rfl ⟨(kPtr rfl),(kPtr rfl),(kPtr rfl),(kSl rfl),sq,(kSl rfl),(kPtr rfl),tv⟩ ⟨bS rfl rfl rfl,bS rfl rfl rfl,bS rfl rfl rfl,bM rfl rfl fun _=>rfl,tv⟩ rfl) ?_;refine lo h (fun (ov20,i21,c22,c23,c24,r25,r26,c27)=>⟨look [(1,.ptr (Γ.n0+1) 0),(2,.ptr (Γ.n0+2) 0),(3,.ptr (Γ.n0+3) 0),(4,.sl 1 (Γ.n0+22) 0 (Int.toNat a1.zF) (Int.toNat a1.zF)),(6,(o_ ov20)),(7,(i_ i21))],Qo Γ.n0 (bxs [(1,.cells ((Qr a1))),(2,.cells ([(o_ c22),(i_ 0),(o_ c23),(Qp c24)])),(3,.cells ([(o_ x3),(i_ 0),(o_ r25),(Qp r26)])),(22,.cells (Qep (fun (x:Int)=>[V.d (.int .i64 x)]) c27))]) M,Γ.n0+105⟩) wk (fun _ ⟨ov20,i21,c22,c23,c24,r25,r26,c27⟩ h=>?_);refine Z 8 0 ?_;refine ci h rfl (fun h=>?_) (fun h=>Y);refine Tr.skip ?_;refine cu h (fun (ov70,r71,r72,c73)=>⟨look [(1,.ptr (Γ.n0+1) 0),(2,.ptr (Γ.n0+2) 0),(3,.ptr (Γ.n0+3) 0),(4,.sl 1 (Γ.n0+22) 0 (Int.toNat a1.zF) (Int.toNat a1.zF)),(6,(o_ ov70)),(7,(i_ i21))],Qo Γ.n0 (bxs [(1,.cells ((Qr a1))),(2,.cells ([(o_ c22),(i_ 0),(o_ c23),(Qp c24)])),(3,.cells ([(o_ x3),(i_ 0),(o_ r71),(Qp r72)])),(22,.cells (Qep (fun (x:Int)=>[V.d (.int .i64 x)]) c73))]) M,Γ.n0+105⟩) (fun _ h=>?_) (fun ⟨ov70,r71,r72,c73⟩ h=>Y);refine Tr.block ?_;refine cu h (fun r38=>⟨look [(1,.ptr (Γ.n0+1) 0),(2,.ptr (Γ.n0+2) 0),(3,.ptr (Γ.n0+3) 0),(4,.sl 1 (Γ.n0+22) 0 (Int.toNat a1.zF) (Int.toNat a1.zF)),(6,(o_ ov20)),(7,(i_ i21))],Qo Γ.n0 (bxs [(1,.cells ((Qr a1))),(2,.cells ([(o_ c22),(i_ 0),(o_ c23),(Qp c24)])),(3,.cells ([(o_ x3),(i_ 0),(o_ r38),(Qp r26)])),(22,.cells (Qep (fun (x:Int)=>[V.d (.int .i64 x)]) c27))]) M,Γ.n0+105⟩) (fun _ h=>?_) (fun r38 h=>?_)
  ·refine Z 8 1 ?_;intro _ h;refine cl (Hdg _ _) h (cq fun ⟨_,_⟩ h=>?_);refine Z 10 0 ?_;exact cd h rfl (fun h=>Y) (fun h=>Y)
  ·refine Z 7 1 ?_;intro _ h;refine cl (Hao _ _) h (cq fun x42 h=>?_);refine Z 4 0 ?_;refine lo h (fun (ov43,x44,r45,c46)=>⟨look [(1,.ptr (Γ.n0+1) 0),(2,.ptr (Γ.n0+2) 0),(3,.ptr (Γ.n0+3) 0),(4,.sl 1 (Γ.n0+22) 0 (Int.toNat a1.zF) (Int.toNat a1.zF)),(6,(o_ ov43)),(7,(i_ i21)),(63,(Qh x42)),(64,(i_ (x42.length:Int))),(65,(i_ x44))],Qo Γ.n0 (bxs [(1,.cells ((Qr a1))),(2,.cells ([(o_ c22),(i_ 0),(o_ c23),(Qp c24)])),(3,.cells ([(o_ x3),(i_ 0),(o_ r38),(Qp r45)])),(22,.cells (Qep (fun (x:Int)=>[V.d (.int .i64 x)]) c46))]) M,Γ.n0+105⟩) wk (fun _ ⟨ov43,x44,r45,c46⟩ h=>?_);refine Z 5 0 ?_;refine ci h rfl (fun h=>?_) (fun h=>Y);refine Z 10 1 ?_;intro x49 h;refine cu h (fun (ov62,c63)=>⟨look [(1,.ptr (Γ.n0+1) 0),(2,.ptr (Γ.n0+2) 0),(3,.ptr (Γ.n0+3) 0),(4,.sl 1 (Γ.n0+22) 0 (Int.toNat a1.zF) (Int.toNat a1.zF)),(6,(o_ ov62)),(7,(i_ i21)),(11,.ptr (Γ.n0+11) 0),(63,(Qh x42)),(64,(i_ (x42.length:Int))),(65,(i_ x44))],Qo Γ.n0 (bxs [(1,.cells ((Qr a1))),(2,.cells ([(o_ c22),(i_ 0),(o_ c23),(Qp c24)])),(3,.cells ([(o_ x3),(i_ 0),(o_ r38),(Qp r45)])),(11,.cells ((Qpu x49))),(22,.cells (Qep (fun (x:Int)=>[V.d (.int .i64 x)]) c63))]) M,Γ.n0+105⟩) (fun _ h=>?_) (fun ⟨ov62,c63⟩ h=>Y);refine Z 9 1 ?_;intro _ h;refine ci h rfl (fun h=>?_) (fun h=>Y);refine Z 8 1 ?_;intro h;obtain ⟨x58,h59,h⟩:=bnd h;refine Rn.storeA (g:=(fun (x:Int)=>[V.d (.int .i64 x)])) (v:=(i_ (ov43.length:Int))) (fun _=>rfl) tv rfl rfl rfl rfl rfl h59 ?_;exact Y
theorem Qw6 {P:Program} {c:Nat} {Qz:_} {Qdc:_}
    (Hai:Qgq P 48 Qz)
    (Hal:Qjk P 132 Qdc) (hcf:Qn P c=some Qr0) (fuel:Nat):Qmh P c (Qef Qz Qdc fuel):=by
 intro a1 r h;refine Qbs hcf rfl fun Γ M hP hnt hM=>?_;subst hP;refine ini ?_;refine Z 10 0 ?_;refine cl (Hai _) h (cq fun _ h=>?_);refine Z 7 0 ?_;refine cd h rfl (fun h=>Y) (fun h=>?_);refine Z 4 0 ?_;refine cl (Hal _) h (cq fun x6 h=>?_);refine Z 8 0 ?_;refine cw h [2,5] [1] (fun _ e=>e) (fun (c16,c17,c18,r19) l=>(2,.cells ([(o_ c16),(i_ 0),(o_ c17),(Qp c18)]))::(5,.cells ([(l_ x6.zB),(i_ x6.zF),(o_ r19),(Qh x6.zD)]))::l) ke (fun _ h=>?_) (fun ⟨c16,c17,c18,r19⟩ h=>Y);refine Z 7 0 ?_;refine lw h [2,5,17] [1] (fun (x7,c8,c9,c10,r11) e=>(18,(i_ x7))::e) (fun (x7,c8,c9,c10,r11) l=>(2,.cells ([(o_ c8),(i_ 0),(o_ c9),(Qp c10)]))::(5,.cells ([(l_ x6.zB),(i_ x6.zF),(o_ r11),(Qh x6.zD)]))::l) ke wk (fun _ ⟨x7,c8,c9,c10,r11⟩ h=>?_);refine Z 5 0 ?_;exact ci h rfl (fun h=>Y) (fun h=>Y)
theorem Q0y {P:Program} {c:Nat} (hcf:Qn P c=some Qwx) (fuel:Nat):Qmi P c (Qc3 fuel):=by
 intro a1 r h;refine Qbs hcf rfl fun Γ M hP hnt hM=>?_;subst hP;refine ini ?_;refine Z 9 0 ?_;obtain ⟨x2,h3,h⟩:=bnd h;refine Rn.makes (g:=(fun (x:Bool)=>[V.d (.bool x)])) tv rfl rfl rfl rfl rfl h3 ?_;refine Z 2 0 ?_;refine cw h [3] [1] (fun _ e=>e) (fun c14 l=>(8,.cells (Qep (fun (x:Bool)=>[V.d (.bool x)]) c14))::l) ke (fun _ h=>?_) (fun c14 h=>?_)
 ·refine Z 8 0 ?_;refine lw h [3,10,11] [1] (fun (x4,c5) e=>(12,(i_ x4))::e) (fun (x4,c5) l=>(8,.cells (Qep (fun (x:Bool)=>[V.d (.bool x)]) c5))::l) ke wk (fun _ ⟨x4,c5⟩ h=>?_);refine Z 5 0 ?_;refine ci h rfl (fun h=>?_) (fun h=>Y);refine Z 13 1 ?_;intro _ h;obtain ⟨x12,h13,h⟩:=bnd h;refine Rn.storeA (g:=(fun (x:Bool)=>[V.d (.bool x)])) (v:=(b_ true)) (fun _=>rfl) tv rfl rfl rfl rfl rfl h13 ?_;exact Y
 ·refine Z 5 0 ?_;obtain ⟨⟨⟩,hl15,h⟩:=bnd h;refine Tr.weak (by show WeakSt Γ _ ⟨look [(2,.d (.lst 1 (List.map eB c14))),(3,.d (.lst 1 (List.map eB c14))),(20,.d (.lst 1 (List.map eB c14)))],Qo Γ.n0 (bxs [(1,.cells ((Qr a1)))]) M,Γ.n0+21⟩;exact Qcn 8 _ rfl (Qs9 (fun _=>rfl) _) ⟨(fSlA (fun _=>rfl) (Qhh hl15)),(fSlA (fun _=>rfl) (Qhh hl15)),(fSlA (fun _=>rfl) (Qhh hl15)),tv⟩ ⟨bS rfl rfl rfl,tv⟩ rfl) ?_;exact Y
theorem Q0z {P:Program} {c:Nat} (hcf:Qn P c=some Qwy) (fuel:Nat):Qmj P c (Qc4 fuel):=by
 intro a1 r h;refine Qbs hcf rfl fun Γ M hP hnt hM=>?_;subst hP;refine ini ?_;refine Z 9 0 ?_;obtain ⟨x2,h3,h⟩:=bnd h;refine Rn.makes (g:=(fun (x:List Qb)=>[V.nils 3])) tv rfl rfl rfl rfl rfl h3 ?_;refine Z 2 0 ?_;refine cw h [3] [1] (fun _ e=>e) (fun c26 l=>(8,.cells (Qep (fun (x:List Qb)=>[(Qh x)]) c26))::l) ke (fun _ h=>?_) (fun c26 h=>?_)
 ·refine Tr.seq ?_;refine Tr.weak (wS [0,1,2,3,6,7,8] [1] (fun e=>e) (fun l=>(8,.cells (Qep (fun (x:List Qb)=>[V.own 3 (List.map Ql x)]) x2))::l) ke wk) ?_;refine Tr.weak (wS [0,1,2,3,6,7,8] [1] (fun e=>e) (fun l=>(8,.cells (Qep (fun (x:List Qb)=>[(Qh x)]) x2))::l) ke wk) ?_;refine Z 4 0 ?_;refine lw h [1,3] [1] (fun (xv4,c5) e=>(4,(i_ xv4))::e) (fun (xv4,c5) l=>(8,.cells (Qep (fun (x:List Qb)=>[(Qh x)]) c5))::l) ke wk (fun _ ⟨xv4,c5⟩ h=>?_);refine Z 9 0 ?_;refine ci h rfl (fun h=>?_) (fun h=>Y);refine Z 7 0 ?_;refine cw h [1,3,4] [1,8] (fun to17 e=>(5,(i_ to17))::e) (fun _ l=>l) ke (fun _ h=>?_) (fun to17 h=>?_)
  ·refine Tr.block ?_;refine lw h [1,3,4] [1,8] (fun to8 e=>(5,(i_ to8))::e) (fun _ l=>l) ke wk (fun _ to8 h=>?_);refine Tr.seq ?_;refine cw h [1,3,4,5] [1,8] (fun x15 e=>(34,(b_ x15))::e) (fun _ l=>l) ke (fun _ h=>?_) (fun x15 h=>?_)
   ·refine Z 7 0 ?_;exact bi h (fun _ h=>Y) (fun _ h=>Y)
   ·exact cd h rfl (fun h=>Y) (fun h=>Y)
  ·refine Z 15 1 ?_;intro _ _ h;obtain ⟨x24,h25,h⟩:=bnd h;refine Rn.storeAD (g:=(fun (x:List Qb)=>[(Qh x)])) (fun _=>rfl) tv rfl rfl rfl rfl h25 ?_;exact Y
 ·refine Z 5 0 ?_;obtain ⟨⟨⟩,hl27,h⟩:=bnd h;refine Tr.weak (by show WeakSt Γ _ ⟨look [(2,.d (.lst 1 (List.map (eL 3 Ql) c26))),(3,.d (.lst 1 (List.map (eL 3 Ql) c26))),(51,.d (.lst 1 (List.map (eL 3 Ql) c26)))],Qo Γ.n0 (bxs [(1,.cells ((Qr a1)))]) M,Γ.n0+52⟩;exact Qcn 8 _ rfl (Qs9 (fun _=>rfl) _) ⟨(fSlA (fun _=>rfl) (Qhh hl27)),(fSlA (fun _=>rfl) (Qhh hl27)),(fSlA (fun _=>rfl) (Qhh hl27)),tv⟩ ⟨bS rfl rfl rfl,tv⟩ rfl) ?_;exact Y
theorem Qvo {P:Program} {c:Nat} (hcf:Qn P c=some Qqi):Qlc P c (Qd0):=by
 intro s1 x2 k3 r h;intro M nb hk4;refine Qu9 hcf rfl M nb fun Γ hP hnt hn0 hM=>?_;subst hP hn0;refine ini ?_;refine Z 12 1 ?_;intro _ h;exact cd h rfl (fun h=>Y) (fun h=>Y)
theorem Qzs {P:Program} {c:Nat} (hcf:Qn P c=some Qvg) (fuel:Nat):Qor P c (Qen fuel):=by
 intro n1 sv2 g3 cp4 r h;intro M nb hc5 ho7 hf6;refine Qu9 hcf rfl M nb fun Γ hP hnt hn0 hM=>?_;subst hP hn0;refine ini ?_;refine Z 8 0 ?_;refine Rn.mkmapH tv rfl rfl (fun (x:ByteArray)=>(.d (.str x):V)) (fun (x:Int)=>((i_ x):V)) ?_;refine Z 5 0 ?_;obtain ⟨x9,h10,h⟩:=bnd h;refine Rn.makes (g:=(fun (x:Int)=>[V.d (.int .i64 x)])) tv rfl rfl rfl rfl rfl h10 ?_;refine Z 2 0 ?_;refine cw h [6,7] [] (fun _ e=>e) (fun (c25,c26) l=>(13,.mp (mapE (fun (x:ByteArray)=>(.d (.str x):V)) (fun (x:Int)=>((i_ x):V)) 0 c25) (c25).length)::(15,.cells (Qep (fun (x:Int)=>[V.d (.int .i64 x)]) c26))::l) ke (fun _ h=>?_) (fun ⟨c25,c26⟩ h=>?_)
 ·refine Z 6 0 ?_;refine lw h [1,6,7,16] [] (fun (x11,c12,c13) e=>(17,(i_ x11))::e) (fun (x11,c12,c13) l=>(13,.mp (mapE (fun (x:ByteArray)=>(.d (.str x):V)) (fun (x:Int)=>((i_ x):V)) 0 c12) (c12).length)::(15,.cells (Qep (fun (x:Int)=>[V.d (.int .i64 x)]) c13))::l) ke wk (fun _ ⟨x11,c12,c13⟩ h=>?_);refine Z 5 0 ?_;refine ci h rfl (fun h=>?_) (fun h=>Y);refine Z 12 0 ?_;obtain ⟨x17,h16,h⟩:=bnd h;refine Rn.callvM (args:=[(i_ x11)]++cp4) tv rfl (by rw [hc5];rfl) (fun M2 nb2 hn hx=>hf6 _ _ h16 M2 nb2 (by omega) ((Qwm hM).trans hx)) rfl pc9 ?_;refine Z 6 0 ?_;refine Rn.lookupC (ek:=(fun (x:ByteArray)=>(.d (.str x):V))) (ev:=(fun (x:Int)=>((i_ x):V))) (m:=c12) (k:=x17) (fun _ _=>rfl) (fun _=>rfl) (fun _=>rfl) 0 rfl tv rfl rfl rfl ?_;refine Z 6 0 ?_;refine cw h [1,6,7,8,16,17] [15] (fun (k19,c20) e=>(10,(i_ k19))::e) (fun (k19,c20) l=>(13,.mp (mapE (fun (x:ByteArray)=>(.d (.str x):V)) (fun (x:Int)=>((i_ x):V)) 0 c20) (c20).length)::l) ke (fun _ h=>?_) (fun ⟨k19,c20⟩ h=>?_)
  ·refine Z 5 0 ?_;refine Tr.cond rfl (fun hb18=>?_) (fun hb18=>?_)
   ·have hb18:=nT' hb18;replace h:=bF hb18 h;refine Z 3 0 ?_;refine Rn.lenm (ek:=(fun (x:ByteArray)=>(.d (.str x):V))) (ev:=(fun (x:Int)=>((i_ x):V))) (m:=c12) tv rfl rfl ?_;refine Z 6 0 ?_;refine Rn.mapset (ek:=(fun (x:ByteArray)=>(.d (.str x):V))) (ev:=(fun (x:Int)=>((i_ x):V))) (m:=c12) (k:=x17) (v:=(c12.length:Int)) (fun _ _=>rfl) (fun _=>rfl) (fun _=>rfl) tv rfl rfl rfl rfl rfl ?_;exact Y
   ·have hb18:=nF' hb18;replace h:=bT hb18 h;exact Y
  ·refine Z 5 1 ?_;intro h;obtain ⟨x23,h24,h⟩:=bnd h;refine Rn.storeA (g:=(fun (x:Int)=>[V.d (.int .i64 x)])) (v:=(i_ k19)) (fun _=>rfl) tv rfl rfl rfl rfl rfl h24 ?_;exact Y
 ·refine Z 4 0 ?_;refine Rn.lenm (ek:=(fun (x:ByteArray)=>(.d (.str x):V))) (ev:=(fun (x:Int)=>((i_ x):V))) (m:=c25) tv rfl rfl ?_;refine Z 3 0 ?_;obtain ⟨⟨⟩,hl27,h⟩:=bnd h;refine Tr.weak (by show WeakSt Γ _ ⟨look [(4,(l_ c26)),(5,(i_ (c25.length:Int))),(6,.mp (Γ.n0+13)),(7,(l_ c26)),(41,(l_ c26)),(42,.mp (Γ.n0+13)),(43,(i_ (c25.length:Int)))],Qo Γ.n0 (bxs [(13,.mp (mapE (fun (x:ByteArray)=>(.d (.str x):V)) (fun (x:Int)=>((i_ x):V)) 0 c25) (c25).length)]) M,Γ.n0+44⟩;exact Qcn 15 _ rfl (Qs9 (fun _=>rfl) _) ⟨(fSlA (fun _=>rfl) (Qhh hl27)),sq,(fMp rfl),(fSlA (fun _=>rfl) (Qhh hl27)),(fSlA (fun _=>rfl) (Qhh hl27)),(fMp rfl),sq,tv⟩ ⟨⟨rfl,rfl⟩,tv⟩ rfl) ?_;exact Y
theorem Qvp {P:Program} {c:Nat} (hcf:Qn P c=some Qqj):Qld P c (Qcr):=by
 intro b1 n2 r h;refine Qbs hcf rfl fun Γ M hP hnt hM=>?_;subst hP;refine ini ?_;exact Y
theorem Qvq {P:Program} {c:Nat} {Qcr:_}
    (Hau:Qld P 138 Qcr) (hcf:Qn P c=some Qqk) (fuel:Nat):Qle P c (Qd1 Qcr fuel):=by
 intro s1 x2 x5 k3 k6 r h;intro M nb hk4 hk7;refine Qu9 hcf rfl M nb fun Γ hP hnt hn0 hM=>?_;subst hP hn0;refine ini ?_;refine Z 10 1 ?_;intro x8 h;obtain ⟨x11,h10,h⟩:=bnd h;refine Rn.call (args:=[.nils 1,(i_ x8)]) tv rfl (fun M2 nb2=>ACalls.weakO (args':=[.own 1 (List.map (eI .u8) []),(i_ x8)]) (Hau _ _ _ h10 M2 nb2) (.cons (WkV.nilsO _) (cS rfl .nil))) pc9 ?_;refine Z 2 0 ?_;refine cw h [] [] (fun kv26 e=>(5,.own 1 (List.map (eI .u8) kv26))::e) (fun _ l=>l) ke (fun _ h=>?_) (fun kv26 h=>?_)
 ·refine Z 10 1 ?_;intro _ h;refine lw h [1,16,17] [] (fun (kv14,x15) e=>(5,.own 1 (List.map (eI .u8) kv14))::(18,(i_ x15))::e) (fun _ l=>l) ke wk (fun _ ⟨kv14,x15⟩ h=>?_);refine Z 5 0 ?_;refine ci h rfl (fun h=>?_) (fun h=>Y);refine Z 15 1 ?_;intro x18 h;obtain ⟨x21,h20,h⟩:=bnd h;refine Rn.callO (args':=[.own 1 (List.map (eI .u8) kv14),(i_ x18.Event)]) tv rfl rfl (WkVs.refl _) (Hau _ _ _ h20) ?_;refine Z 9 1 ?_;intro x22 h;obtain ⟨x25,h24,h⟩:=bnd h;refine Rn.callO (args':=[.own 1 (List.map (eI .u8) x21),(i_ x22)]) tv rfl rfl (WkVs.refl _) (Hau _ _ _ h24) ?_;exact Y
 ·refine Z 3 0 ?_;refine Rn.bstr (xs:=kv26) tv rfl ?_;exact Y
theorem Qyg {P:Program} {c:Nat} {Qc4:_} {Qc3:_} {Qen:_} {Qd0:_} {Qd1:_}
    (Hay:Qmj P 133 Qc4)
    (Haz:Qmi P 134 Qc3)
    (Hbb:Qor P 135 Qen)
    (Haw:Qlc P 136 Qd0)
    (Hax:Qle P 137 Qd1) (hcf:Qn P c=some Qti) (fuel:Nat):Qno P c (Qe0 Qc4 Qc3 Qen Qd0 Qd1 fuel):=by
 intro a1 r h;refine Qbs hcf rfl fun Γ M hP hnt hM=>?_;subst hP;refine ini ?_;refine Z 8 0 ?_;refine cl (Haz _) h (cq fun x3 h=>?_);refine Z 1 0 ?_;refine cl (Hay _) h (cq fun x5 h=>?_);refine Z 9 0 ?_;refine Rn.k (v:=.clo 136 [.ptr (Γ.n0+3) 0]) tv rfl rfl rfl ?_;refine cm h (fun _ h9 M2 nb2 hn hx=>Hbb _ _ 136 [.ptr (Γ.n0+3) 0] _ h9 M2 nb2 rfl ⟨Qwn (hx _ _ (Qd8 rfl)),tv⟩ (fun a6 r7 h8 M3 nb3 hn3 hx3=>Haw a6 x3 (Γ.n0+3) r7 h8 M3 nb3 ((hx.trans hx3) _ _ (Qd8 rfl)))) rfl (cq fun ⟨_,_⟩ h=>?_);refine Z 8 0 ?_;refine lw h [1,4,5] [1,3,4] (fun (n12,cv13) e=>(6,(i_ n12))::e) (fun (n12,cv13) l=>(5,.cells ([(l_ cv13)]))::l) ke wk (fun _ ⟨n12,cv13⟩ h=>?_);refine Z 5 0 ?_;refine Rn.k (v:=.clo 137 [.ptr (Γ.n0+5) 0,.ptr (Γ.n0+4) 0]) tv rfl rfl rfl ?_;refine cm h (fun _ h18 M2 nb2 hn hx=>Hbb _ _ 137 [.ptr (Γ.n0+5) 0,.ptr (Γ.n0+4) 0] _ h18 M2 nb2 rfl ⟨Qwn (hx _ _ (Qd8 rfl)),Qwn (hx _ _ (Qd8 rfl)),tv⟩ (fun a15 r16 h17 M3 nb3 hn3 hx3=>Hax a15 cv13 x5 (Γ.n0+5) (Γ.n0+4) r16 h17 M3 nb3 ((hx.trans hx3) _ _ (Qd8 rfl)) ((hx.trans hx3) _ _ (Qd8 rfl)))) rfl (cq fun ⟨_,_⟩ h=>?_);refine Z 13 0 ?_;exact cd h rfl (fun h=>Y) (fun h=>Y)
theorem Q00 {P:Program} {c:Nat} {Qm:_} {Qc4:_} {Qc3:_}
    (Hdh:Qc8 P 58 Qm)
    (Hay:Qmj P 133 Qc4)
    (Haz:Qmi P 134 Qc3) (hcf:Qn P c=some Qwz) (fuel:Nat):Qql P c (Qf4 Qm Qc4 Qc3 fuel):=by
 intro a1 cv2 r h;refine Qbs hcf rfl fun Γ M hP hnt hM=>?_;subst hP;refine ini ?_;refine Z 9 0 ?_;refine cl (Hdh _) h (cq fun x4 h=>?_);refine Rn.buildT (v:=.agg [(o_ x4),(i_ 0),.nils 1,.nils 3]) tv rfl ?_;refine Z 10 0 ?_;refine cd h rfl (fun h=>Y) (fun h=>?_);refine Z 4 0 ?_;refine cl (Hay _) h (cq fun x7 h=>?_);refine Z 1 0 ?_;refine cl (Haz _) h (cq fun x9 h=>?_);refine Z 5 0 ?_;refine Rn.mkmap tv rfl (fun (x:Int)=>((i_ x):V)) (fun (x:Int)=>((i_ x):V)) ?_;refine Z 13 1 ?_;intro x10 h;refine Rn.mapset (ek:=(fun (x:Int)=>((i_ x):V))) (ev:=(fun (x:Int)=>((i_ x):V))) (m:=([]:List (Int×Int))) (k:=x10) (v:=0) (fun _ _=>rfl) (fun _=>rfl) (fun _=>rfl) tv rfl rfl rfl rfl rfl ?_;refine Z 1 0 ?_;refine cu h (fun (fv58,c59,c60,c61,ov62,ov63,c64)=>⟨look [(4,.ptr (Γ.n0+4) 0),(5,.ptr (Γ.n0+5) 0),(9,(o_ fv58))],Qo Γ.n0 (bxs [(2,.cells ((Qr a1))),(4,.cells ([(o_ c59),(i_ 0),(o_ c60),(Qp c61)])),(5,.cells ([(o_ x4),(i_ 0),(o_ ov62),(Qp ov63)])),(27,.mp (mapE (fun (x:Int)=>((i_ x):V)) (fun (x:Int)=>((i_ x):V)) 0 c64) (c64).length)]) M,Γ.n0+105⟩) (fun _ h=>?_) (fun ⟨fv58,c59,c60,c61,ov62,ov63,c64⟩ h=>Y);refine Z 5 0 ?_;refine Tr.weak (by show WeakSt Γ _ ⟨look ((9,.own 1 (List.map (eI .i64) [0]))::[(0,(Qe a1)),(1,(l_ cv2)),(2,.ptr (Γ.n0+2) 0),(4,.ptr (Γ.n0+4) 0),(5,.ptr (Γ.n0+5) 0),(6,.d (.lst 1 (List.map (eL 3 Ql) x7))),(7,.d (.lst 1 (List.map eB x9))),(8,.mp (Γ.n0+27)),(10,(i_ 0)),(15,.ptr (Γ.n0+2) 0),(16,(l_ a1.zB)),(17,(l_ x4)),(18,.agg [(l_ x4),(i_ 0),.nils 1,.nils 3]),(19,.ptr (Γ.n0+2) 1),(20,(i_ a1.zF)),(21,(b_ (a1.zF==0))),(23,(Qe a1)),(24,.d (.lst 1 (List.map (eL 3 Ql) x7))),(25,(Qe a1)),(26,.d (.lst 1 (List.map eB x9))),(27,.mp (Γ.n0+27)),(29,.mp (Γ.n0+27)),(30,(l_ cv2)),(31,.cref ((eI .i64) x10)),(32,(i_ x10))] ),Qo Γ.n0 (bxs [(2,.cells ((Qr a1))),(4,.cells ([.nils 1,(i_ 0),.nils 1,.nils 3])),(5,.cells ([(o_ x4),(i_ 0),.nils 1,.nils 3])),(27,.mp (mapE (fun (x:Int)=>((i_ x):V)) (fun (x:Int)=>((i_ x):V)) 0 (setM ([]:List (Int×Int)) x10 0)) ((setM ([]:List (Int×Int)) x10 0)).length)]) M,Γ.n0+105⟩;exact Qs8 28 9 [.int .i64 0] rfl rfl rfl rfl rfl ⟨sq,sq,(kPtr rfl),(kPtr rfl),(kPtr rfl),sq,sq,(kMp rfl),sq,(kPtr rfl),sq,sq,sq,(kPtr rfl),sq,sq,sq,sq,sq,sq,(kMp rfl),(kMp rfl),sq,sq,sq,tv⟩ ⟨bS rfl rfl rfl,bS rfl rfl rfl,bS rfl rfl rfl,⟨rfl,rfl⟩,tv⟩ rfl) ?_;refine lo h (fun (fv12,i13,c14,c15,c16,ov17,ov18,c19)=>⟨look [(1,(l_ cv2)),(4,.ptr (Γ.n0+4) 0),(5,.ptr (Γ.n0+5) 0),(6,.d (.lst 1 (List.map (eL 3 Ql) x7))),(7,.d (.lst 1 (List.map eB x9))),(8,.mp (Γ.n0+27)),(9,(o_ fv12)),(10,(i_ i13))],Qo Γ.n0 (bxs [(2,.cells ((Qr a1))),(4,.cells ([(o_ c14),(i_ 0),(o_ c15),(Qp c16)])),(5,.cells ([(o_ x4),(i_ 0),(o_ ov17),(Qp ov18)])),(27,.mp (mapE (fun (x:Int)=>((i_ x):V)) (fun (x:Int)=>((i_ x):V)) 0 c19) (c19).length)]) M,Γ.n0+105⟩) wk (fun _ ⟨fv12,i13,c14,c15,c16,ov17,ov18,c19⟩ h=>?_);refine Z 8 0 ?_;refine ci h rfl (fun h=>?_) (fun h=>Y);refine Tr.skip ?_;refine cu h (fun (fv54,ov55,ov56,c57)=>⟨look [(1,(l_ cv2)),(4,.ptr (Γ.n0+4) 0),(5,.ptr (Γ.n0+5) 0),(6,.d (.lst 1 (List.map (eL 3 Ql) x7))),(7,.d (.lst 1 (List.map eB x9))),(8,.mp (Γ.n0+27)),(9,(o_ fv54)),(10,(i_ i13))],Qo Γ.n0 (bxs [(2,.cells ((Qr a1))),(4,.cells ([(o_ c14),(i_ 0),(o_ c15),(Qp c16)])),(5,.cells ([(o_ x4),(i_ 0),(o_ ov55),(Qp ov56)])),(27,.mp (mapE (fun (x:Int)=>((i_ x):V)) (fun (x:Int)=>((i_ x):V)) 0 c57) (c57).length)]) M,Γ.n0+105⟩) (fun _ h=>?_) (fun ⟨fv54,ov55,ov56,c57⟩ h=>Y);refine Tr.block ?_;refine cu h (fun ov29=>⟨look [(1,(l_ cv2)),(4,.ptr (Γ.n0+4) 0),(5,.ptr (Γ.n0+5) 0),(6,.d (.lst 1 (List.map (eL 3 Ql) x7))),(7,.d (.lst 1 (List.map eB x9))),(8,.mp (Γ.n0+27)),(9,(o_ fv12)),(10,(i_ i13))],Qo Γ.n0 (bxs [(2,.cells ((Qr a1))),(4,.cells ([(o_ c14),(i_ 0),(o_ c15),(Qp c16)])),(5,.cells ([(o_ x4),(i_ 0),(o_ ov29),(Qp ov18)])),(27,.mp (mapE (fun (x:Int)=>((i_ x):V)) (fun (x:Int)=>((i_ x):V)) 0 c19) (c19).length)]) M,Γ.n0+105⟩) (fun _ h=>?_) (fun ov29 h=>?_)
 ·refine Z 10 1 ?_;intro _ _ h;exact cd h rfl (fun h=>Y) (fun h=>Y)
 ·refine Z 13 1 ?_;intro _ x32 h;refine lo h (fun (fv34,x35,ov36,c37)=>⟨look [(1,(l_ cv2)),(4,.ptr (Γ.n0+4) 0),(5,.ptr (Γ.n0+5) 0),(6,.d (.lst 1 (List.map (eL 3 Ql) x7))),(7,.d (.lst 1 (List.map eB x9))),(8,.mp (Γ.n0+27)),(9,(o_ fv34)),(10,(i_ i13)),(58,(Qh x32)),(59,(i_ (x32.length:Int))),(60,(i_ x35))],Qo Γ.n0 (bxs [(2,.cells ((Qr a1))),(4,.cells ([(o_ c14),(i_ 0),(o_ c15),(Qp c16)])),(5,.cells ([(o_ x4),(i_ 0),(o_ ov29),(Qp ov36)])),(27,.mp (mapE (fun (x:Int)=>((i_ x):V)) (fun (x:Int)=>((i_ x):V)) 0 c37) (c37).length)]) M,Γ.n0+105⟩) wk (fun _ ⟨fv34,x35,ov36,c37⟩ h=>?_);refine Z 5 0 ?_;refine ci h rfl (fun h=>?_) (fun h=>Y);refine Z 18 1 ?_;intro x40 x42 h;refine Rn.lookupC (ek:=(fun (x:Int)=>((i_ x):V))) (ev:=(fun (x:Int)=>((i_ x):V))) (m:=c37) (k:=x42) (fun _ _=>rfl) (fun _=>rfl) (fun _=>rfl) 0 rfl tv rfl rfl rfl ?_;refine Z 6 0 ?_;refine cu h (fun (fv49,k50,c51)=>⟨look [(1,(l_ cv2)),(4,.ptr (Γ.n0+4) 0),(5,.ptr (Γ.n0+5) 0),(6,.d (.lst 1 (List.map (eL 3 Ql) x7))),(7,.d (.lst 1 (List.map eB x9))),(8,.mp (Γ.n0+27)),(9,(o_ fv49)),(10,(i_ i13)),(12,.ptr (Γ.n0+12) 0),(13,(i_ k50)),(58,(Qh x32)),(59,(i_ (x32.length:Int))),(60,(i_ x35))],Qo Γ.n0 (bxs [(2,.cells ((Qr a1))),(4,.cells ([(o_ c14),(i_ 0),(o_ c15),(Qp c16)])),(5,.cells ([(o_ x4),(i_ 0),(o_ ov29),(Qp ov36)])),(12,.cells ((Qpu x40))),(27,.mp (mapE (fun (x:Int)=>((i_ x):V)) (fun (x:Int)=>((i_ x):V)) 0 c51) (c51).length)]) M,Γ.n0+105⟩) (fun _ h=>?_) (fun ⟨fv49,k50,c51⟩ h=>Y);refine Z 5 0 ?_;refine Tr.cond rfl (fun hb44=>?_) (fun hb44=>?_)
  ·have hb44:=nT' hb44;replace h:=bF hb44 h;refine Z 15 1 ?_;intro x45 h;refine Rn.mapset (ek:=(fun (x:Int)=>((i_ x):V))) (ev:=(fun (x:Int)=>((i_ x):V))) (m:=c37) (k:=x45) (v:=(fv34.length:Int)) (fun _ _=>rfl) (fun _=>rfl) (fun _=>rfl) tv rfl rfl rfl rfl rfl ?_;exact Y
  ·have hb44:=nF' hb44;replace h:=bT hb44 h;exact Y
theorem Qw7 {P:Program} {c:Nat} {Qz:_} {Qf4:_} {Qe0:_}
    (Hai:Qgq P 48 Qz)
    (Hba:Qql P 95 Qf4)
    (Hav:Qno P 96 Qe0) (hcf:Qn P c=some Qr1):Qhj P c (Qbd Qz Qf4 Qe0):=by
 intro a1 r h;refine Qbs hcf rfl fun Γ M hP hnt hM=>?_;subst hP;refine ini ?_;refine Z 10 0 ?_;refine cl (Hai _) h (cq fun _ h=>?_);refine Z 7 0 ?_;refine cd h rfl (fun h=>Y) (fun h=>?_);refine Z 5 0 ?_;refine cl (Hav _) h (cq fun _ h=>?_);refine cl (Hba _ _) h (cq fun _ h=>?_);exact Y
theorem Qyh {P:Program} {c:Nat} {Qbd:_} {Qm:_} {Qef:_}
    (Hat:Qhj P 45 Qbd)
    (Hdh:Qc8 P 58 Qm)
    (Haj:Qmh P 94 Qef) (hcf:Qn P c=some Qtj):Qnp P c (Qe1 Qbd Qm Qef):=by
 intro a1 ev2 r h;refine Qbs hcf rfl fun Γ M hP hnt hM=>?_;subst hP;refine ini ?_;refine Z 9 0 ?_;refine cl (Haj _) h (cq fun ⟨_,_⟩ h=>?_);refine Z 13 0 ?_;refine cd h rfl (fun h=>Y) (fun h=>?_);refine Z 4 0 ?_;refine cl (Hdh _) h (cq fun _ h=>?_);refine Z 6 0 ?_;refine cl (Hat _) h (cq fun ⟨_,_⟩ h=>?_);exact Y
theorem Qvr {P:Program} {c:Nat} {Qff:_} {Qcd:_} {Qe1:_}
    (Hcf:Qoo P 22 Qff)
    (Hbx:Qjw P 43 Qcd)
    (Hck:Qnp P 44 Qe1) (hcf:Qn P c=some Qqm):Qlf P c (Qd2 Qff Qcd Qe1):=by
 intro p1 r h;refine Qbs hcf rfl fun Γ M hP hnt hM=>?_;subst hP;refine ini ?_;refine Z 10 0 ?_;refine cl (Hcf _) h (cq fun x3 h=>?_);refine Z 7 0 ?_;refine cd h rfl (fun h=>Y) (fun h=>?_);refine Z 10 0 ?_;refine Rn.weak (by show WeakSt Γ _ ⟨look [(0,(Qv p1)),(1,.ptr (Γ.n0+1) 0),(2,.ptr (Γ.n0+2) 0),(3,(i_ 0)),(4,(i_ x3)),(7,(Qv p1)),(8,(i_ x3)),(9,(i_ x3)),(10,(b_ (x3 != 0))),(14,.ptr (Γ.n0+1) 0),(15,(Qe p1.Plant)),(16,.ptr (Γ.n0+1) 4),(17,(Qe p1.Ambient)),(18,.ptr (Γ.n0+1) 8),(19,(Qe p1.Requirement)),(20,.d (.lst 4 (List.map Qby [p1.Plant,p1.Ambient,p1.Requirement])))],Qo Γ.n0 (bxs [(1,.cells ((Qbo p1))),(2,.cells ([.nils 1,(i_ 0),.nils 1,.nils 3]))]) M,Γ.n0+35⟩;exact Qcn 20 [.lst 1 (List.map (eI .i64) p1.Plant.zB),.int .i64 p1.Plant.zF,.lst 1 (List.map (eI .i64) p1.Plant.zC),.lst 3 (List.map Ql p1.Plant.zD),.lst 1 (List.map (eI .i64) p1.Ambient.zB),.int .i64 p1.Ambient.zF,.lst 1 (List.map (eI .i64) p1.Ambient.zC),.lst 3 (List.map Ql p1.Ambient.zD),.lst 1 (List.map (eI .i64) p1.Requirement.zB),.int .i64 p1.Requirement.zF,.lst 1 (List.map (eI .i64) p1.Requirement.zC),.lst 3 (List.map Ql p1.Requirement.zD)] rfl rfl ⟨sq,(fPtr rfl),(fPtr rfl),sq,sq,sq,sq,sq,sq,(fPtr rfl),sq,(fPtr rfl),sq,(fPtr rfl),sq,(fSl rfl rfl),tv⟩ ⟨bS rfl rfl rfl,bS rfl rfl rfl,tv⟩ rfl) ?_;refine cl (Hbx _) h (cq fun ⟨_,_⟩ h=>?_);refine Z 13 0 ?_;refine cd h rfl (fun h=>Y) (fun h=>?_);refine Z 7 0 ?_;refine cl (Hck _ _) h (cq fun ⟨_,_⟩ h=>?_);exact Y
theorem Qw8 {P:Program} {c:Nat} (hcf:Qn P c=some Qr2) (fuel:Nat):Qmk P c (Qc9 fuel):=by
 intro a1 r h;refine Qbs hcf rfl fun Γ M hP hnt hM=>?_;subst hP;refine ini ?_;refine Z 7 0 ?_;refine Rn.mkmap tv rfl (fun (x:Int×Int)=>(.agg [(i_ x.1),(i_ x.2)]:V)) (fun (x:Int)=>((i_ x):V)) ?_;refine Z 2 0 ?_;refine cw h [3] [1] (fun _ e=>e) (fun c8 l=>(6,.mp (mapE (fun (x:Int×Int)=>(.agg [(i_ x.1),(i_ x.2)]:V)) (fun (x:Int)=>((i_ x):V)) 0 c8) (c8).length)::l) ke (fun _ h=>?_) (fun c8 h=>?_)
 ·refine Z 8 0 ?_;refine lw h [3,8,9] [1] (fun (x2,c3) e=>(10,(i_ x2))::e) (fun (x2,c3) l=>(6,.mp (mapE (fun (x:Int×Int)=>(.agg [(i_ x.1),(i_ x.2)]:V)) (fun (x:Int)=>((i_ x):V)) 0 c3) (c3).length)::l) ke wk (fun _ ⟨x2,c3⟩ h=>?_);refine Z 5 0 ?_;refine ci h rfl (fun h=>?_) (fun h=>Y);refine Z 19 1 ?_;intro x6 h;refine Rn.mapset (ek:=(fun (x:Int×Int)=>(.agg [(i_ x.1),(i_ x.2)]:V))) (ev:=(fun (x:Int)=>((i_ x):V))) (m:=c3) (k:=(x6.From,x6.Event)) (v:=x6.To) Qbdl (fun _=>rfl) (fun _=>rfl) tv rfl rfl rfl rfl rfl ?_;exact Y
 ·refine Z 5 0 ?_;refine Tr.weak (by show WeakSt Γ _ ⟨look [(2,.d (mq0 c8)),(3,.d (mq0 c8)),(23,.d (mq0 c8))],Qo Γ.n0 (bxs [(1,.cells ((Qr a1)))]) M,Γ.n0+24⟩;exact Q28 (ek:=(fun (x:Int×Int)=>(.agg [(i_ x.1),(i_ x.2)]:V))) (ev:=(fun (x:Int)=>((i_ x):V))) (m:=c8) 6 rfl (fun _=>rfl) (fun _=>rfl) ⟨mMpS,mMpS,mMpS,tv⟩ ⟨bS rfl rfl rfl,tv⟩ rfl) ?_;exact Y
theorem Qyi {P:Program} {c:Nat} {Qd2:_} {Qw:_} {Qc9:_}
    (Hch:Qlf P 16 Qd2)
    (Hby:Qf2 P 42 Qw)
    (Hco:Qmk P 100 Qc9) (hcf:Qn P c=some Qtk) (fuel:Nat):Qh4 P c (Qbf Qd2 Qw Qc9 fuel):=by
 intro p1 r h;refine Qbs hcf rfl fun Γ M hP hnt hM=>?_;subst hP;refine ini ?_;refine Z 10 0 ?_;refine cl (Hch _) h (cq fun ⟨r3,r4⟩ h=>?_);refine Z 13 0 ?_;refine cd h rfl (fun h=>Y) (fun h=>?_);refine Z 8 0 ?_;refine Rn.weak (by show WeakSt Γ _ ⟨look [(0,(Qv p1)),(1,.ptr (Γ.n0+1) 0),(2,.nilp),(3,.ptr (Γ.n0+3) 0),(4,(i_ 0)),(5,.ptr (Γ.n0+5) 0),(6,(i_ r4)),(12,.tup [(Qe r3),(i_ r4)]),(13,(Qv p1)),(14,.tup [(Qe r3),(i_ r4)]),(15,(Qe r3)),(16,(i_ r4)),(17,(i_ r4)),(18,(b_ (r4 != 0))),(22,.ptr (Γ.n0+1) 0),(23,(Qe p1.Plant)),(24,.ptr (Γ.n0+1) 4),(25,(Qe p1.Ambient)),(26,.d (.lst 4 (List.map Qby [p1.Plant,p1.Ambient])))],Qo Γ.n0 (bxs [(1,.cells ((Qbo p1))),(3,.cells ([.nils 1,(i_ 0),.nils 1,.nils 3])),(5,.cells ((Qr r3)))]) M,Γ.n0+79⟩;exact Qcn 26 [.lst 1 (List.map (eI .i64) p1.Plant.zB),.int .i64 p1.Plant.zF,.lst 1 (List.map (eI .i64) p1.Plant.zC),.lst 3 (List.map Ql p1.Plant.zD),.lst 1 (List.map (eI .i64) p1.Ambient.zB),.int .i64 p1.Ambient.zF,.lst 1 (List.map (eI .i64) p1.Ambient.zC),.lst 3 (List.map Ql p1.Ambient.zD)] rfl rfl ⟨sq,(fPtr rfl),sq,(fPtr rfl),sq,(fPtr rfl),sq,sq,sq,sq,sq,sq,sq,sq,(fPtr rfl),sq,(fPtr rfl),sq,(fSl rfl rfl),tv⟩ ⟨bS rfl rfl rfl,bS rfl rfl rfl,bS rfl rfl rfl,tv⟩ rfl) ?_;refine cl (Hby _) h (cq fun ⟨r7,_,_⟩ h=>?_);refine Z 15 0 ?_;refine cd h rfl (fun h=>Y) (fun h=>?_);refine Z 8 0 ?_;refine cl (Hco _) h (cq fun x12 h=>?_);refine Z 1 0 ?_;refine cl (Hco _) h (cq fun x14 h=>?_);refine Z 2 0 ?_;refine cl (Hco _) h (cq fun x16 h=>?_);refine Z 3 0 ?_;refine Rn.buildT (v:=.agg [(l_ p1.Plant.zB),(i_ p1.Plant.zF),(l_ p1.Plant.zC),(Qh p1.Plant.zD),(l_ p1.Ambient.zB),(i_ p1.Ambient.zF),(l_ p1.Ambient.zC),(Qh p1.Ambient.zD),(l_ p1.Requirement.zB),(i_ p1.Requirement.zF),(l_ p1.Requirement.zC),(Qh p1.Requirement.zD),(l_ p1.Observable),(l_ p1.Controllable),(l_ p1.Plant.zB),.d (mq0 x12),.d (mq0 x14),.nils 1,.d (mq0 x16),(b_ (r7.zF==0)),(i_ 0),(i_ 0)]) tv rfl ?_;refine Z 3 0 ?_;refine cw h [3,5,9] [1,5,7] (fun _ e=>e) (fun (c30,c31,c32,c33) l=>(3,.cells ([(o_ c30),(i_ 0),(o_ c31),(Qp c32)]))::(50,.cells ([(l_ p1.Plant.zB),(i_ p1.Plant.zF),(l_ p1.Plant.zC),(Qh p1.Plant.zD),(l_ p1.Ambient.zB),(i_ p1.Ambient.zF),(l_ p1.Ambient.zC),(Qh p1.Ambient.zD),(l_ p1.Requirement.zB),(i_ p1.Requirement.zF),(l_ p1.Requirement.zC),(Qh p1.Requirement.zD),(l_ p1.Observable),(l_ p1.Controllable),(l_ p1.Plant.zB),.d (mq0 x12),.d (mq0 x14),(o_ c33),.d (mq0 x16),(b_ (r7.zF==0)),(i_ 0),(i_ 0)]))::l) ke (fun _ h=>?_) (fun ⟨c30,c31,c32,c33⟩ h=>?_)
 ·refine Z 7 0 ?_;refine lw h [3,5,9,51,52] [1,5,7] (fun (x17,c18,c19,c20,c21) e=>(53,(i_ x17))::e) (fun (x17,c18,c19,c20,c21) l=>(3,.cells ([(o_ c18),(i_ 0),(o_ c19),(Qp c20)]))::(50,.cells ([(l_ p1.Plant.zB),(i_ p1.Plant.zF),(l_ p1.Plant.zC),(Qh p1.Plant.zD),(l_ p1.Ambient.zB),(i_ p1.Ambient.zF),(l_ p1.Ambient.zC),(Qh p1.Ambient.zD),(l_ p1.Requirement.zB),(i_ p1.Requirement.zF),(l_ p1.Requirement.zC),(Qh p1.Requirement.zD),(l_ p1.Observable),(l_ p1.Controllable),(l_ p1.Plant.zB),.d (mq0 x12),.d (mq0 x14),(o_ c21),.d (mq0 x16),(b_ (r7.zF==0)),(i_ 0),(i_ 0)]))::l) ke wk (fun _ ⟨x17,c18,c19,c20,c21⟩ h=>?_);refine Z 5 0 ?_;exact ci h rfl (fun h=>Y) (fun h=>Y)
 ·refine Z 7 0 ?_;refine cd h rfl (fun h=>?_) (fun h=>?_)
  ·refine Z 15 0 ?_;refine Tr.weak (by show WeakSt Γ _ ⟨look [(2,.cref (Qc (Qg.mk p1 p1.Plant.zB x12 x14 c33 x16 (r7.zF==0) (Qd.mk 0 (-1))))),(3,.ptr (Γ.n0+3) 0),(4,(i_ 0)),(5,.ptr (Γ.n0+5) 0),(9,.cref (Qc (Qg.mk p1 p1.Plant.zB x12 x14 c33 x16 (r7.zF==0) (Qd.mk 0 (-1))))),(70,.ptr (Γ.n0+5) 1),(71,(i_ r3.zF)),(72,(b_ (r3.zF==0))),(73,.cref (Qc (Qg.mk p1 p1.Plant.zB x12 x14 c33 x16 (r7.zF==0) (Qd.mk 0 (-1))))),(74,.cref (Qc (Qg.mk p1 p1.Plant.zB x12 x14 c33 x16 (r7.zF==0) (Qd.mk 0 (-1))))),(77,.cref (Qc (Qg.mk p1 p1.Plant.zB x12 x14 c33 x16 (r7.zF==0) (Qd.mk 0 (-1))))),(78,(Qe r3))],Qo Γ.n0 (bxs [(1,.cells ((Qbo p1))),(3,.cells ((Qr r3))),(5,.cells ((Qr r3))),(7,.cells ((Qr r7)))]) M,Γ.n0+79⟩;exact Qcn 50 [.lst 1 (List.map (eI .i64) p1.Plant.zB),.int .i64 p1.Plant.zF,.lst 1 (List.map (eI .i64) p1.Plant.zC),.lst 3 (List.map Ql p1.Plant.zD),.lst 1 (List.map (eI .i64) p1.Ambient.zB),.int .i64 p1.Ambient.zF,.lst 1 (List.map (eI .i64) p1.Ambient.zC),.lst 3 (List.map Ql p1.Ambient.zD),.lst 1 (List.map (eI .i64) p1.Requirement.zB),.int .i64 p1.Requirement.zF,.lst 1 (List.map (eI .i64) p1.Requirement.zC),.lst 3 (List.map Ql p1.Requirement.zD),.lst 1 (List.map (eI .i64) p1.Observable),.lst 1 (List.map (eI .i64) p1.Controllable),.lst 1 (List.map (eI .i64) p1.Plant.zB),mq0 x12,mq0 x14,.lst 1 (List.map (eI .i64) c33),mq0 x16,.bool (r7.zF==0),.int .i64 0,.int .i64 (-1)] rfl rfl ⟨(Qbaf rfl),(fPtr rfl),sq,(fPtr rfl),(Qbaf rfl),(fPtr rfl),sq,sq,(Qbaf rfl),(Qbaf rfl),(Qbaf rfl),sq,tv⟩ ⟨bS rfl rfl rfl,bS rfl rfl rfl,bS rfl rfl rfl,bS rfl rfl rfl,tv⟩ rfl) ?_;exact Y
  ·refine Z 9 0 ?_;refine Tr.weak (by show WeakSt Γ _ ⟨look [(2,.cref (Qc (Qg.mk p1 p1.Plant.zB x12 x14 c33 x16 (r7.zF==0) (Qd.mk 0 0)))),(3,.ptr (Γ.n0+3) 0),(4,(i_ 0)),(5,.ptr (Γ.n0+5) 0),(9,.cref (Qc (Qg.mk p1 p1.Plant.zB x12 x14 c33 x16 (r7.zF==0) (Qd.mk 0 0)))),(70,.ptr (Γ.n0+5) 1),(71,(i_ r3.zF)),(72,(b_ (r3.zF==0))),(77,.cref (Qc (Qg.mk p1 p1.Plant.zB x12 x14 c33 x16 (r7.zF==0) (Qd.mk 0 0)))),(78,(Qe r3))],Qo Γ.n0 (bxs [(1,.cells ((Qbo p1))),(3,.cells ((Qr r3))),(5,.cells ((Qr r3))),(7,.cells ((Qr r7)))]) M,Γ.n0+79⟩;exact Qcn 50 [.lst 1 (List.map (eI .i64) p1.Plant.zB),.int .i64 p1.Plant.zF,.lst 1 (List.map (eI .i64) p1.Plant.zC),.lst 3 (List.map Ql p1.Plant.zD),.lst 1 (List.map (eI .i64) p1.Ambient.zB),.int .i64 p1.Ambient.zF,.lst 1 (List.map (eI .i64) p1.Ambient.zC),.lst 3 (List.map Ql p1.Ambient.zD),.lst 1 (List.map (eI .i64) p1.Requirement.zB),.int .i64 p1.Requirement.zF,.lst 1 (List.map (eI .i64) p1.Requirement.zC),.lst 3 (List.map Ql p1.Requirement.zD),.lst 1 (List.map (eI .i64) p1.Observable),.lst 1 (List.map (eI .i64) p1.Controllable),.lst 1 (List.map (eI .i64) p1.Plant.zB),mq0 x12,mq0 x14,.lst 1 (List.map (eI .i64) c33),mq0 x16,.bool (r7.zF==0),.int .i64 0,.int .i64 0] rfl rfl ⟨(Qbaf rfl),(fPtr rfl),sq,(fPtr rfl),(Qbaf rfl),(fPtr rfl),sq,sq,(Qbaf rfl),sq,tv⟩ ⟨bS rfl rfl rfl,bS rfl rfl rfl,bS rfl rfl rfl,bS rfl rfl rfl,tv⟩ rfl) ?_;exact Y
theorem Qtp {P:Program} {c:Nat} (hcf:Qn P c=some Qoe):Qb3 P c (Qf):=by
 intro m1 sv2 ev3 r h;refine Qbs hcf rfl fun Γ M hP hnt hM=>?_;subst hP;refine ini ?_;refine Z 11 0 ?_;refine Rn.lookupDC (ek:=(fun (x:Int×Int)=>(.agg [(i_ x.1),(i_ x.2)]:V))) (ev:=(fun (x:Int)=>((i_ x):V))) (m:=m1) (k:=(sv2,ev3)) Qbdl (fun _=>rfl) (fun _=>rfl) (fun _=>rfl) (fun _=>rfl) 0 rfl tv rfl rfl ?_;refine Z 6 0 ?_;refine cw h [7] [] (fun x5 e=>(21,(b_ x5))::e) (fun _ l=>l) ke (fun _ h=>?_) (fun x5 h=>?_)
 ·refine Z 3 0 ?_;exact bs h (fun _ h=>Y) (fun _ h=>Y)
 ·exact cd h rfl (fun h=>Y) (fun h=>Y)
theorem Qsi {P:Program} {c:Nat} {Qk:_}
    (Hdl:Qcp P 62 Qk) (hcf:Qn P c=some Qm3):Qdq P c (Qq Qk):=by
 intro s1 ev2 r h;refine Qbs hcf rfl fun Γ M hP hnt hM=>?_;subst hP;refine ini ?_;refine Z 7 0 ?_;refine Rn.k (v:=.cref (Qc s1)) tv rfl rfl rfl ?_;refine Z 4 0 ?_;refine cl (Hdl _ _) h (cq fun _ h=>?_);exact Y
theorem Qqu {P:Program} {c:Nat} {Qm:_} {Qq:_} {Qk:_} {Qf:_} {f_slices_Sort_int:_} {f_slices_Compact_int:_}
    (Hdh:Qc8 P 58 Qm)
    (Hdb:Qdq P 59 Qq)
    (Hdl:Qcp P 62 Qk)
    (Hcp:Qb3 P 63 Qf)
    (Hds:RowK P 124 (eI .i64) 1 [] f_slices_Sort_int)
    (Hdi:CompK P 125 f_slices_Compact_int) (hcf:Qn P c=some Qlt) (fuel:Nat):Qf7 P c (Qbj Qm Qq Qk Qf f_slices_Sort_int f_slices_Compact_int fuel):=by
 intro s1 l2 r h;refine Qbg2 hcf (args':=[.cref (Qc s1),(f_ l2)]) rfl rfl rfl rfl rfl rfl fun Γ M hP hnt hG hM0 hM=>?_;subst hP;refine ini ?_;refine Z 7 0 ?_;obtain ⟨x4,h3,h⟩:=bnd h;refine Rn.call (args:=[(f_ l2)]) tv rfl (fun M2 nb2=>ACalls.weak (args':=[(l_ l2)]) (Hdh _ _ h3 M2 nb2) (.cons fToD .nil) rfl) pc9 ?_;refine Z 2 0 ?_;refine cu h (fun ov31=>⟨look [(5,(o_ ov31))],Qo Γ.n0 (bxs []) M,Γ.n0+60⟩) (fun _ h=>?_) (fun ov31 h=>?_)
 ·refine Z 5 0 ?_;refine lo h (fun (ov5,i6)=>⟨look [(0,.cref (Qc s1)),(5,(o_ ov5)),(6,(i_ i6))],Qo Γ.n0 (bxs []) M,Γ.n0+60⟩) wk (fun _ ⟨ov5,i6⟩ h=>?_);refine Z 8 0 ?_;refine ci h rfl (fun h=>?_) (fun h=>Y);refine Tr.skip ?_;refine cu h (fun ov30=>⟨look [(0,.cref (Qc s1)),(5,(o_ ov30)),(6,(i_ i6))],Qo Γ.n0 (bxs []) M,Γ.n0+60⟩) (fun _ h=>?_) (fun ov30 h=>Y);refine Z 4 0 ?_;refine Rn.k (v:=.cref (Qc s1)) tv rfl rfl rfl ?_;refine Z 6 0 ?_;refine lo h (fun (ov9,x10)=>⟨look [(0,.cref (Qc s1)),(5,(o_ ov9)),(6,(i_ i6)),(21,(l_ s1.events_)),(22,(i_ (s1.events_.length:Int))),(23,(i_ x10))],Qo Γ.n0 (bxs []) M,Γ.n0+60⟩) wk (fun _ ⟨ov9,x10⟩ h=>?_);refine Z 5 0 ?_;refine ci h rfl (fun h=>?_) (fun h=>Y);refine Tr.skip ?_;refine cu h (fun ov29=>⟨look [(0,.cref (Qc s1)),(5,(o_ ov29)),(6,(i_ i6)),(21,(l_ s1.events_)),(22,(i_ (s1.events_.length:Int))),(23,(i_ x10))],Qo Γ.n0 (bxs []) M,Γ.n0+60⟩) (fun _ h=>?_) (fun ov29 h=>Y);refine Z 10 1 ?_;intro _ h;refine Rn.k (v:=.cref (Qc s1)) tv rfl rfl rfl ?_;refine Z 7 1 ?_;intro _ h;refine cl (Hcp _ _ _) h (cq fun x18 h=>?_);refine Z 2 0 ?_;refine cu h (fun x25=>⟨look [(0,.cref (Qc s1)),(5,(o_ ov9)),(6,(i_ i6)),(9,(i_ x18)),(21,(l_ s1.events_)),(22,(i_ (s1.events_.length:Int))),(23,(i_ x10)),(50,(b_ x25))],Qo Γ.n0 (bxs []) M,Γ.n0+60⟩) (fun _ h=>?_) (fun x25 h=>?_)
  ·refine Z 4 0 ?_;refine bi h (fun _ h=>?_) (fun _ h=>Y);refine Z 2 0 ?_;refine cl (Hdb _ _) h (cq fun _ h=>?_);refine Z 3 0 ?_;refine bs h (fun _ h=>Y) (fun _ h=>?_);refine Z 2 0 ?_;refine cl (Hdl _ _) h (cq fun _ h=>?_);exact Y
  ·exact cd h rfl (fun h=>Y) (fun h=>Y)
 ·obtain ⟨ov32,hs33,h⟩:=bnd h;obtain ⟨hl34,hn35,hr36⟩:=Hds _ _ hs33;obtain ⟨ov38,hs39,h⟩:=bnd h;obtain ⟨hl40,hn41,hr42⟩:=Hdi _ _ hs39;refine Tr.seqW2 ⟨look [(4,(l_ ov38))],Qo Γ.n0 (bxs []) M,Γ.n0+60⟩ ?_ ?_
  ·by_cases hx37:ov31=[]
   ·obtain ⟨hyx,hn35b⟩:=hn35 hx37;replace hyx:=hyx.symm;subst hyx;replace hn35:=And.intro tv hn35b;obtain ⟨hv2,hn41b⟩:=hn41 hx37;replace hv2:=hv2.symm;subst hv2;replace hn41:=And.intro tv hn41b;refine Z 2 0 ?_;refine Rn.call (args:=[.d (.lst 1 (List.map (eI .i64) ov31))]) tv rfl (hn35.2) pc9 ?_;refine Z 3 0 ?_;refine Rn.call (args:=[.d (.lst 1 (List.map (eI .i64) ov31))]) (r:=.d (.lst 1 (List.map (eI .i64) ov31))) tv rfl (hn41.2) pc9 ?_;refine Z 1 0 ?_;refine Rn.nil ⟨rfl,(by exact Qhg [] ⟨sq,tv⟩ tv rfl)⟩
   ·refine Tr.weak (wS [5] [] (fun e=>e) (fun l=>l) ke wk) ?_;refine Qbj5 hG hM0 5 57 hx37 (fun _=>rfl) rfl rfl rfl ⟨rfl,(Qbdj (fun _=>rfl)),tv⟩ tv (fun c43 hc44 hc45=>?_);refine Z 2 0 ?_;refine Rn.callRow (t:=57) (cs:=Qb2 (List.map (eI .i64) ov31) ((c43-ov31.length)*1)) (cs':=Qb2 (List.map (eI .i64) ov32) ((c43-ov31.length)*1)) tv rfl rfl (fun M2 hM2=>hr36 hc45 _ _ _ _ hM2) rfl ?_;refine Z 3 0 ?_;refine Rn.callRow (t:=57) (cs:=Qb2 (List.map (eI .i64) ov32) ((c43-ov31.length)*1)) (cs':=Qb2 (List.map (eI .i64) ov38) ((c43-ov38.length)*1)) tv rfl rfl (fun M2 hM2=>Qbi6 hr42 hl34 hc44 hM2) rfl ?_;refine Z 1 0 ?_;refine Rn.weak (by show WeakSt Γ _ ⟨look [(4,(l_ ov38)),(57,.tup []),(59,(l_ ov38))],Qo Γ.n0 (bxs []) M,Γ.n0+60⟩;exact Qrs 57 _ rfl Qbla ⟨(fSlT (fun _=>rfl) rfl (Nat.le_trans (Nat.le_trans hl40 (Nat.le_of_eq hl34)) hc44)),sq,(fSlT (fun _=>rfl) rfl (Nat.le_trans (Nat.le_trans hl40 (Nat.le_of_eq hl34)) hc44)),tv⟩ tv rfl) ?_;refine Rn.nil ⟨rfl,(by exact Qhg [] ⟨sq,tv⟩ tv rfl)⟩
  ·exact Y
theorem Qph {P:Program} {c:Nat} {Qbj:_}
    (Hde:Qf7 P 101 Qbj) (hcf:Qn P c=some Qkm):Qhq P c (Qcs Qbj):=by
 intro s1 r h;refine Qbs hcf rfl fun Γ M hP hnt hM=>?_;subst hP;refine ini ?_;refine Z 8 0 ?_;refine Rn.k (v:=.cref (Qc s1)) tv rfl rfl rfl ?_;refine Z 5 0 ?_;refine ci h rfl (fun h=>Y) (fun h=>?_);refine Z 5 0 ?_;refine Rn.weak (by show WeakSt Γ _ ⟨look [(0,.cref (Qc s1)),(2,.nils 1),(3,.cref (Qc s1)),(4,.cref (Qc s1)),(5,.cref (List.drop 20 (Qc s1))),(6,.cref (List.drop 21 (Qc s1))),(7,(i_ s1.start_.language_)),(8,(b_ (decide (s1.start_.language_<0)))),(9,.cref (Qc s1)),(10,(l_ [0]))],Qo Γ.n0 (bxs []) M,Γ.n0+12⟩;exact Qcn 10 [.int .i64 0] rfl rfl ⟨sq,sq,sq,sq,sq,sq,sq,sq,sq,(fSl rfl rfl),tv⟩ tv rfl) ?_;refine cl (Hde _ _) h (cq fun _ h=>?_);exact Y
theorem Qpi {P:Program} {c:Nat} {Qf:_}
    (Hcp:Qb3 P 63 Qf) (hcf:Qn P c=some Qkn):Qek P c (Qt Qf):=by
 intro s1 x2 ev3 r h;refine Qbs hcf rfl fun Γ M hP hnt hM=>?_;subst hP;refine ini ?_;refine Z 8 0 ?_;refine Rn.k (v:=.cref (Qc s1)) tv rfl rfl rfl ?_;refine Z 3 0 ?_;refine Rn.k (v:=.cref (Qc s1)) tv rfl rfl rfl ?_;refine Z 7 1 ?_;intro _ h;refine cl (Hcp _ _ _) h (cq fun _ h=>?_);refine Z 2 0 ?_;refine bi h (fun hb8 h=>?_) (fun hb8 h=>Y);refine Z 1 0 ?_;refine Rn.k (v:=.cref (Qc s1)) (gw rfl hb8) rfl rfl rfl ?_;refine Z 5 0 ?_;refine cl (Hcp _ _ _) h (cq fun _ h=>?_);exact Y
theorem Qnr {P:Program} {c:Nat} {Qf:_}
    (Hcp:Qb3 P 63 Qf) (hcf:Qn P c=some Qi8):Qgj P c (Qb9 Qf):=by
 intro k1 x2 x5 k3 k6 r h;intro M nb hk4 hk7;refine Qu9 hcf rfl M nb fun Γ hP hnt hn0 hM=>?_;subst hP hn0;refine ini ?_;refine Z 7 0 ?_;refine Rn.k (v:=.cref (Qc x2)) tv rfl rfl rfl ?_;refine Z 4 0 ?_;refine cl (Hcp _ _ _) h (cq fun _ h=>?_);exact Y
theorem Qsj {P:Program} {c:Nat} (hcf:Qn P c=some Qm4) (fuel:Nat):Qi0 P c (Qdr fuel):=by
 intro s1 f2 g3 cp4 r h;intro M nb hc5 ho7 hf6;refine Qu9 hcf rfl M nb fun Γ hP hnt hn0 hM=>?_;subst hP hn0;refine ini ?_;refine Z 12 0 ?_;refine lw h [0,1,7] [] (fun x9 e=>(8,(i_ x9))::e) (fun _ l=>l) ke wk (fun _ x9 h=>?_);refine Z 5 0 ?_;refine ci h rfl (fun h=>?_) (fun h=>Y);refine Z 15 1 ?_;intro x12 h;obtain ⟨x15,h14,h⟩:=bnd h;refine Rn.callvM (args:=[(i_ x12)]++cp4) tv rfl (by rw [hc5];rfl) (fun M2 nb2 hn hx=>hf6 _ _ h14 M2 nb2 (by omega) ((Qwm hM).trans hx)) rfl pc9 ?_;refine Z 1 0 ?_;exact cd h rfl (fun h=>Y) (fun h=>Y)
theorem Qpj {P:Program} {c:Nat} {Qdr:_}
    (Hdo:Qi0 P 143 Qdr) (hcf:Qn P c=some Qko):Qhr P c (Qct Qdr):=by
 intro s1 f2 g3 cp4 r h;intro M nb hc5 ho7 hf6;refine Qu9 hcf rfl M nb fun Γ hP hnt hn0 hM=>?_;subst hP hn0;refine ini ?_;refine Z 8 0 ?_;refine cm h (fun _ h12 M2 nb2 hn hx=>Hdo _ _ g3 cp4 _ h12 M2 nb2 hc5 (Qbj0 ((Qwm hM).trans hx) ho7) (fun a9 r10 h11 M3 nb3 hn3 hx3=>hf6 a9 r10 h11 M3 nb3 (by omega) ((Qwm hM).trans (hx.trans hx3)))) rfl (cq fun _ h=>?_);exact Y
theorem Qot {P:Program} {c:Nat} {Qk:_} {Qt:_} {Qct:_} {Qb9:_}
    (Hdl:Qcp P 62 Qk)
    (Hcy:Qek P 65 Qt)
    (Hdj:Qhr P 106 Qct)
    (Hda:Qgj P 107 Qb9) (hcf:Qn P c=some Qj2) (fuel:Nat):Qg8 P c (Qco Qk Qt Qct Qb9 fuel):=by
 intro s1 x2 r h;refine Qbs hcf rfl fun Γ M hP hnt hM=>?_;subst hP;refine ini ?_;refine Z 10 0 ?_;refine Rn.k (v:=.cref (Qc s1)) tv rfl rfl rfl ?_;refine Z 6 0 ?_;refine lo h (fun x3=>⟨look [(2,.ptr (Γ.n0+2) 0),(3,.ptr (Γ.n0+3) 0),(10,(l_ s1.events_)),(11,(i_ (s1.events_.length:Int))),(12,(i_ x3))],Qo Γ.n0 (bxs [(2,.cells ([.cref (Qc s1)])),(3,.cells ((Qf0 x2)))]) M,Γ.n0+38⟩) wk (fun _ x3 h=>?_);refine Z 5 0 ?_;refine ci h rfl (fun h=>?_) (fun h=>Y);refine Tr.skip ?_;refine Tr.cutJ (fun (ev21:Int)=>⟨look [(2,.ptr (Γ.n0+2) 0),(3,.ptr (Γ.n0+3) 0),(10,(l_ s1.events_)),(11,(i_ (s1.events_.length:Int))),(12,(i_ x3))],Qo Γ.n0 (bxs [(2,.cells ([.cref (Qc s1)])),(3,.cells ((Qf0 x2))),(6,.cells ([(i_ ev21)]))]) M,Γ.n0+38⟩) h (fun J22 h=>?_) (fun z h=>?_)
 ·refine Z 9 1 ?_;intro x6 h;refine cu h (fun x13=>⟨look [(2,.ptr (Γ.n0+2) 0),(3,.ptr (Γ.n0+3) 0),(6,.ptr (Γ.n0+6) 0),(10,(l_ s1.events_)),(11,(i_ (s1.events_.length:Int))),(12,(i_ x3)),(31,(b_ x13))],Qo Γ.n0 (bxs [(2,.cells ([.cref (Qc s1)])),(3,.cells ((Qf0 x2))),(6,.cells ([(i_ x6)]))]) M,Γ.n0+38⟩) (fun _ h=>?_) (fun x13 h=>?_)
  ·refine Z 2 0 ?_;refine Rn.k (v:=.cref (Qc s1)) tv rfl rfl rfl ?_;refine Z 4 0 ?_;refine cl (Hdl _ _) h (cq fun _ h=>?_);refine Z 2 0 ?_;refine bs h (fun _ h=>?_) (fun _ h=>Y);refine Z 4 0 ?_;refine cl (Hcy _ _ _) h (cq fun _ h=>?_);exact Y
  ·refine cd h rfl (fun h=>?_) (fun h=>?_)
   ·refine Tr.exit ?_;exact ⟨_,h,(by exact Qhg [] ⟨(kPtr rfl),(kPtr rfl),sq,sq,sq,tv⟩ ⟨bS rfl rfl rfl,bS rfl rfl rfl,bS rfl rfl rfl,tv⟩ rfl)⟩
   ·refine Z 5 0 ?_;refine Rn.k (v:=.clo 107 [.ptr (Γ.n0+2) 0,.ptr (Γ.n0+6) 0]) tv rfl rfl rfl ?_;refine cm h (fun _ h18 M2 nb2 hn hx=>Hdj _ _ 107 [.ptr (Γ.n0+2) 0,.ptr (Γ.n0+6) 0] _ h18 M2 nb2 rfl ⟨Qwn (hx _ _ (Qd8 rfl)),Qwn (hx _ _ (Qd8 rfl)),tv⟩ (fun a15 r16 h17 M3 nb3 hn3 hx3=>Hda a15 s1 x6 (Γ.n0+2) (Γ.n0+6) r16 h17 M3 nb3 ((hx.trans hx3) _ _ (Qd8 rfl)) ((hx.trans hx3) _ _ (Qd8 rfl)))) rfl (cq fun _ h=>?_);refine Z 1 0 ?_;refine cd h rfl (fun h=>Y) (fun h=>?_);refine Tr.skip ?_;exact ⟨_,h,(by exact Qhg [] ⟨(kPtr rfl),(kPtr rfl),sq,sq,sq,tv⟩ ⟨bS rfl rfl rfl,bS rfl rfl rfl,bS rfl rfl rfl,tv⟩ rfl)⟩
 ·obtain ⟨ev21,rfl⟩ : ∃ x,x=z:=⟨_,rfl⟩;exact Y
theorem Q2d {P:Program} {c:Nat} {Q8:_}
    (Hab:Qgu P 85 Q8) (hcf:Qn P c=some Qza) (fuel:Nat):Qn2 P c (Qda Q8 fuel):=by
 intro w1 xv2 r h;refine Qbs hcf rfl fun Γ M hP hnt hM=>?_;subst hP;refine ini ?_;refine Z 8 0 ?_;refine cw h [] [] (fun ov15 e=>(5,(o_ ov15))::e) (fun _ l=>l) ke (fun _ h=>?_) (fun ov15 h=>Y);refine Z 7 0 ?_;refine lw h [1,8,9] [] (fun (ov3,x4) e=>(5,(o_ ov3))::(10,(i_ x4))::e) (fun _ l=>l) ke wk (fun _ ⟨ov3,x4⟩ h=>?_);refine Z 5 0 ?_;refine ci h rfl (fun h=>?_) (fun h=>Y);refine Tr.skip ?_;refine cw h [1,8,9,10] [] (fun ov14 e=>(5,(o_ ov14))::e) (fun _ l=>l) ke (fun _ h=>?_) (fun ov14 h=>Y);refine Z 11 1 ?_;intro _ h;refine cl (Hab _ _) h (cq fun _ h=>?_);refine Z 1 0 ?_;exact cd h rfl (fun h=>Y) (fun h=>Y)
theorem Qrc {P:Program} {c:Nat} {Qm:_} {Qq:_} {Qf:_}
    (Hdh:Qc8 P 58 Qm)
    (Hdb:Qdq P 59 Qq)
    (Hcp:Qb3 P 63 Qf) (hcf:Qn P c=some Qml) (fuel:Nat):Qik P c (Qdk Qm Qq Qf fuel):=by
 intro s1 ov2 ev3 r h;refine Qbs hcf rfl fun Γ M hP hnt hM=>?_;subst hP;refine ini ?_;refine Z 6 0 ?_;refine Rn.mkmap tv rfl (fun (x:Qu)=>(.agg (Qbq x):V)) (fun (x:List Int)=>((l_ x):V)) ?_;refine Z 1 0 ?_;refine Rn.mapset (ek:=(fun (x:Qu)=>(.agg (Qbq x):V))) (ev:=(fun (x:List Int)=>((l_ x):V))) (m:=([]:List (Qu×(List Int)))) (k:=(Qu.mk 0 0)) (v:=[]) Qhi (fun _=>rfl) (fun _=>rfl) tv rfl rfl rfl rfl rfl ?_;refine Z 11 0 ?_;refine Tr.weak (by show WeakSt Γ _ ⟨look ((8,.own 2 (List.map Qe5 [(Qu.mk 0 0)]))::[(0,.cref (Qc s1)),(1,(l_ ov2)),(2,(i_ ev3)),(6,.nils 1),(7,.mp (Γ.n0+15)),(15,.mp (Γ.n0+15)),(16,.agg [(i_ 0),(i_ 0)]),(17,.mp (Γ.n0+15)),(18,.agg [(i_ 0),(i_ 0)])] ),Qo Γ.n0 (bxs [(15,.mp (mapE (fun (x:Qu)=>(.agg (Qbq x):V)) (fun (x:List Int)=>((l_ x):V)) 0 (setM ([]:List (Qu×(List Int))) (Qu.mk 0 0) [])) ((setM ([]:List (Qu×(List Int))) (Qu.mk 0 0) [])).length)]) M,Γ.n0+113⟩;exact Qs8 19 8 [.int .i64 0,.int .i64 0] rfl rfl rfl rfl rfl ⟨sq,sq,sq,sq,(kMp rfl),(kMp rfl),sq,(kMp rfl),sq,tv⟩ ⟨⟨rfl,rfl⟩,tv⟩ rfl) ?_;refine lo h (fun (l4,c5)=>⟨look [(0,.cref (Qc s1)),(1,(l_ ov2)),(2,(i_ ev3)),(7,.mp (Γ.n0+15)),(8,.ownT 2 (List.map Qe5 l4))],Qo Γ.n0 (bxs [(15,.mp (mapE (fun (x:Qu)=>(.agg (Qbq x):V)) (fun (x:List Int)=>((l_ x):V)) 0 c5) (c5).length)]) M,Γ.n0+113⟩) wk (fun _ ⟨l4,c5⟩ h=>?_);refine Z 7 0 ?_;refine ci h rfl (fun h=>?_) (fun h=>Y);refine Z 12 1 ?_;intro x8 h;refine cu h (fun x13=>⟨look [(0,.cref (Qc s1)),(1,(l_ ov2)),(2,(i_ ev3)),(7,.mp (Γ.n0+15)),(8,.ownT 2 (List.map Qe5 l4)),(9,.ptr (Γ.n0+9) 0),(43,(b_ x13))],Qo Γ.n0 (bxs [(9,.cells ((Qbq x8))),(15,.mp (mapE (fun (x:Qu)=>(.agg (Qbq x):V)) (fun (x:List Int)=>((l_ x):V)) 0 c5) (c5).length)]) M,Γ.n0+113⟩) (fun _ h=>?_) (fun x13 h=>?_)
 ·refine Z 7 0 ?_;refine bs h (fun hb10 h=>?_) (fun hb10 h=>Y);refine Z 1 0 ?_;refine Rn.k (v:=.cref (Qc s1)) (gw rfl hb10) rfl rfl rfl ?_;refine Z 5 0 ?_;refine cl (Hcp _ _ _) h (cq fun _ h=>?_);exact Y
 ·refine cd h rfl (fun h=>?_) (fun h=>?_)
  ·refine Z 4 0 ?_;refine Rn.lookup (ek:=(fun (x:Qu)=>(.agg (Qbq x):V))) (ev:=(fun (x:List Int)=>((l_ x):V))) (m:=c5) (k:=x8) Qhi (fun _=>rfl) (fun _=>rfl) [] rfl tv rfl rfl rfl ?_;exact Y
  ·refine Z 4 0 ?_;refine Rn.k (v:=.cref (Qc s1)) tv rfl rfl rfl ?_;refine Z 6 0 ?_;refine lo h (fun (l15,x16,c17)=>⟨look [(0,.cref (Qc s1)),(1,(l_ ov2)),(2,(i_ ev3)),(7,.mp (Γ.n0+15)),(8,.ownT 2 (List.map Qe5 l15)),(9,.ptr (Γ.n0+9) 0),(50,(l_ s1.events_)),(51,(i_ (s1.events_.length:Int))),(52,(i_ x16))],Qo Γ.n0 (bxs [(9,.cells ((Qbq x8))),(15,.mp (mapE (fun (x:Qu)=>(.agg (Qbq x):V)) (fun (x:List Int)=>((l_ x):V)) 0 c17) (c17).length)]) M,Γ.n0+113⟩) wk (fun _ ⟨l15,x16,c17⟩ h=>?_);refine Z 5 0 ?_;refine ci h rfl (fun h=>?_) (fun h=>?_)
   ·refine Tr.skip ?_;refine cu h (fun (l42,c43,z44,z45)=>⟨look [(0,.cref (Qc s1)),(1,(l_ ov2)),(2,(i_ ev3)),(7,.mp (Γ.n0+15)),(8,.ownT 2 (List.map Qe5 l42)),(9,.ptr (Γ.n0+9) 0),(50,(l_ s1.events_)),(51,(i_ (s1.events_.length:Int))),(52,(i_ x16))],Qo Γ.n0 (bxs [(9,.cells ((Qbq x8))),(12,.cells ([(i_ z44),(i_ z45)])),(15,.mp (mapE (fun (x:Qu)=>(.agg (Qbq x):V)) (fun (x:List Int)=>((l_ x):V)) 0 c43) (c43).length)]) M,Γ.n0+113⟩) (fun _ h=>?_) (fun ⟨l42,c43,z44,z45⟩ h=>Y);refine Z 10 1 ?_;intro x20 h;refine Rn.k (v:=.cref (Qc s1)) tv rfl rfl rfl ?_;refine Z 5 0 ?_;refine cl (Hcp _ _ _) h (cq fun x23 h=>?_);refine Z 13 0 ?_;refine ci h rfl (fun h=>Y) (fun h=>?_);refine Tr.skip ?_;refine Tr.cutJ (fun (z33:Int)=>⟨look [(0,.cref (Qc s1)),(1,(l_ ov2)),(2,(i_ ev3)),(7,.mp (Γ.n0+15)),(8,.ownT 2 (List.map Qe5 l15)),(9,.ptr (Γ.n0+9) 0),(11,(i_ x20)),(12,.ptr (Γ.n0+12) 0),(50,(l_ s1.events_)),(51,(i_ (s1.events_.length:Int))),(52,(i_ x16))],Qo Γ.n0 (bxs [(9,.cells ((Qbq x8))),(12,.cells ([(i_ x23),(i_ z33)])),(15,.mp (mapE (fun (x:Qu)=>(.agg (Qbq x):V)) (fun (x:List Int)=>((l_ x):V)) 0 c17) (c17).length)]) M,Γ.n0+113⟩) h (fun J41 h=>?_) (fun z h=>?_)
    ·refine Z 4 0 ?_;refine cl (Hdb _ _) h (cq fun _ h=>?_);refine Z 1 0 ?_;refine cd h rfl (fun h=>?_) (fun h=>?_)
     ·refine Tr.seq ?_;refine cu h (fun x31=>⟨look [(0,.cref (Qc s1)),(1,(l_ ov2)),(2,(i_ ev3)),(7,.mp (Γ.n0+15)),(8,.ownT 2 (List.map Qe5 l15)),(9,.ptr (Γ.n0+9) 0),(11,(i_ x20)),(12,.ptr (Γ.n0+12) 0),(50,(l_ s1.events_)),(51,(i_ (s1.events_.length:Int))),(52,(i_ x16)),(86,(b_ x31))],Qo Γ.n0 (bxs [(9,.cells ((Qbq x8))),(12,.cells ([(i_ x23),(i_ x8.done_)])),(15,.mp (mapE (fun (x:Qu)=>(.agg (Qbq x):V)) (fun (x:List Int)=>((l_ x):V)) 0 c17) (c17).length)]) M,Γ.n0+113⟩) (fun _ h=>?_) (fun x31 h=>?_)
      ·refine Z 7 0 ?_;exact bs h (fun _ h=>Y) (fun _ h=>Y)
      ·refine cd h rfl (fun h=>Y) (fun h=>?_);refine Z 8 0 ?_;exact ⟨_,h,(by exact Qhg [] ⟨sq,sq,sq,(kMp rfl),sq,(kPtr rfl),sq,(kPtr rfl),sq,sq,sq,tv⟩ ⟨bS rfl rfl rfl,bS rfl rfl rfl,⟨rfl,rfl⟩,tv⟩ rfl)⟩
     ·refine Tr.skip ?_;exact ⟨_,h,(by exact Qhg [] ⟨sq,sq,sq,(kMp rfl),sq,(kPtr rfl),sq,(kPtr rfl),sq,sq,sq,tv⟩ ⟨bS rfl rfl rfl,bS rfl rfl rfl,⟨rfl,rfl⟩,tv⟩ rfl)⟩
    ·obtain ⟨z33,rfl⟩ : ∃ x,x=z:=⟨_,rfl⟩;refine Z 4 0 ?_;refine Rn.lookupC (ek:=(fun (x:Qu)=>(.agg (Qbq x):V))) (ev:=(fun (x:List Int)=>((l_ x):V))) (m:=c17) (k:=(Qu.mk x23 z33)) Qhi (fun _=>rfl) (fun _=>rfl) [] rfl tv rfl rfl rfl ?_;refine Z 11 0 ?_;refine Tr.cond rfl (fun hb34=>?_) (fun hb34=>?_)
     ·have hb34:=nT' hb34;replace h:=bF hb34 h;refine Z 6 0 ?_;refine Rn.lookup (ek:=(fun (x:Qu)=>(.agg (Qbq x):V))) (ev:=(fun (x:List Int)=>((l_ x):V))) (m:=c17) (k:=x8) Qhi (fun _=>rfl) (fun _=>rfl) [] rfl tv rfl rfl rfl ?_;refine cl (Hdh _) h (cq fun _ h=>?_);refine Z 3 1 ?_;intro x37 h;refine Rn.mapset (ek:=(fun (x:Qu)=>(.agg (Qbq x):V))) (ev:=(fun (x:List Int)=>((l_ x):V))) (m:=c17) (k:=(Qu.mk x23 z33)) (v:=x37) Qhi (fun _=>rfl) (fun _=>rfl) tv rfl rfl rfl rfl rfl ?_;refine Z 5 0 ?_;obtain ⟨x39,h40,h⟩:=bnd h;refine Rn.appT (e:=Qe5) tv rfl rfl rfl (Q42 rfl rfl rfl) h40 rfl ?_;exact Y
     ·have hb34:=nF' hb34;replace h:=bT hb34 h;exact Y
   ·refine Z 3 0 ?_;obtain ⟨x46,h47,h⟩:=bnd h;refine Rn.slcT (e:=Qe5) tv (.inr rfl) rfl h47 ?_;exact Y
theorem Qsk {P:Program} {c:Nat} {Qf:_}
    (Hcp:Qb3 P 63 Qf) (hcf:Qn P c=some Qm5):Qfj P c (Qy Qf):=by
 intro s1 x2 ev3 r h;refine Qbs hcf rfl fun Γ M hP hnt hM=>?_;subst hP;refine ini ?_;refine Z 9 0 ?_;refine Rn.k (v:=.cref (Qc s1)) tv rfl rfl rfl ?_;refine Z 5 0 ?_;refine cl (Hcp _ _ _) h (cq fun _ h=>?_);refine Z 6 0 ?_;refine Rn.k (v:=.cref (Qc s1)) tv rfl rfl rfl ?_;refine Z 5 0 ?_;refine cl (Hcp _ _ _) h (cq fun _ h=>?_);exact Y
theorem Qpk {P:Program} {c:Nat} {Qk:_} {Qf:_} {Qbj:_}
    (Hdl:Qcp P 62 Qk)
    (Hcp:Qb3 P 63 Qf)
    (Hde:Qf7 P 101 Qbj) (hcf:Qn P c=some Qkp) (fuel:Nat):Qhs P c (Qcu Qk Qf Qbj fuel):=by
 intro s1 l2 ev3 r h;refine Qbs hcf rfl fun Γ M hP hnt hM=>?_;subst hP;refine ini ?_;refine Z 8 0 ?_;refine cw h [0] [] (fun ov20 e=>(7,(o_ ov20))::e) (fun _ l=>l) ke (fun _ h=>?_) (fun ov20 h=>?_)
 ·refine Z 7 0 ?_;refine lw h [0,2,11,12] [] (fun (ov4,x5) e=>(7,(o_ ov4))::(13,(i_ x5))::e) (fun _ l=>l) ke wk (fun _ ⟨ov4,x5⟩ h=>?_);refine Z 5 0 ?_;refine ci h rfl (fun h=>?_) (fun h=>Y);refine Tr.skip ?_;refine cw h [0,2,11,12,13] [] (fun ov19 e=>(7,(o_ ov19))::e) (fun _ l=>l) ke (fun _ h=>?_) (fun ov19 h=>Y);refine Z 10 1 ?_;intro _ h;refine Rn.k (v:=.cref (Qc s1)) tv rfl rfl rfl ?_;refine Z 4 0 ?_;refine cl (Hcp _ _ _) h (cq fun _ h=>?_);refine Z 2 0 ?_;refine cw h [0,2,7,10,11,12,13] [] (fun x15 e=>(31,(b_ x15))::e) (fun _ l=>l) ke (fun _ h=>?_) (fun x15 h=>?_)
  ·refine Z 4 0 ?_;refine bi h (fun _ h=>?_) (fun _ h=>Y);refine Z 2 0 ?_;refine cl (Hdl _ _) h (cq fun _ h=>?_);exact Y
  ·exact cd h rfl (fun h=>Y) (fun h=>Y)
 ·refine Z 4 0 ?_;refine cl (Hde _ _) h (cq fun _ h=>?_);exact Y
theorem Qzt {P:Program} {c:Nat} {Qbf:_} {Qcs:_} {f_relative_key:_} {Qco:_} {Qdk:_} {Qda:_} {Qy:_} {Qm:_} {Qq:_} {Qcu:_}
    (Hcm:Qh4 P 51 Qbf)
    (Hcs:Qhq P 52 Qcs)
    (Hcl:K_relative_key P 53 f_relative_key)
    (Hcz:Qg8 P 54 Qco)
    (Hct:Qik P 55 Qdk)
    (Hdv:Qn2 P 56 Qda)
    (Hcu:Qfj P 57 Qy)
    (Hdh:Qc8 P 58 Qm)
    (Hdb:Qdq P 59 Qq)
    (Hcv:Qhs P 60 Qcu) (hcf:Qn P c=some Qvh) (fuel:Nat):Qos P c (Qfi Qbf Qcs f_relative_key Qco Qdk Qda Qy Qm Qq Qcu fuel):=by
 intro p1 r h;refine Qbs hcf rfl fun Γ M hP hnt hM=>?_;subst hP;refine ini ?_;refine Z 10 0 ?_;obtain ⟨⟨r2,ok3,r6,r7⟩,h4,h⟩:=bnd h;refine bs h (fun hb5 h=>?_) (fun hb5 h=>?_)
 ·refine Rn.call (args:=[(Qv p1)]) tv rfl (crT hb5 (Hcm _ _ h4)) pc9 ?_;refine Z 15 0 ?_;refine cd h rfl (fun h=>Y) (fun h=>?_);refine Z 5 0 ?_;refine Rn.k (v:=.cref (Qc r2)) tv rfl rfl rfl ?_;refine Z 3 0 ?_;refine cd h rfl (fun h=>Y) (fun h=>?_);refine Z 4 0 ?_;refine Rn.k (v:=.cref (Qc r2)) tv rfl rfl rfl ?_;refine Z 3 0 ?_;refine cl (Hcs _) h (cq fun x11 h=>?_);refine Rn.buildT (v:=.agg [(i_ r2.start_.ambient_),(i_ r2.start_.language_),(l_ x11),.nils 1]) tv rfl ?_;refine Z 5 0 ?_;refine Rn.mkmap tv rfl (fun (x:ByteArray)=>(.d (.str x):V)) (fun (x:Bool)=>((b_ x):V)) ?_;refine Z 1 0 ?_;refine Rn.k (v:=.ptr (Γ.n0+40) 0) tv rfl rfl rfl ?_;refine Z 3 0 ?_;refine Rn.k (v:=.ptr (Γ.n0+40) 0) tv rfl rfl rfl ?_;refine Z 2 0 ?_;refine cl (Hcl _ _) h (cq fun x13 h=>?_);refine Rn.mapset (ek:=(fun (x:ByteArray)=>(.d (.str x):V))) (ev:=(fun (x:Bool)=>((b_ x):V))) (m:=([]:List (ByteArray×Bool))) (k:=x13) (v:=true) (fun _ _=>rfl) (fun _=>rfl) (fun _=>rfl) tv rfl rfl rfl rfl rfl ?_;refine Z 9 0 ?_;refine Tr.weak (by show WeakSt Γ _ ⟨look ((7,(Qh2 ([(Qdu.mk r2.start_ x11 [])])))::[(0,(Qv p1)),(1,.ptr (Γ.n0+1) 0),(2,.ptr (Γ.n0+2) 0),(3,(b_ false)),(4,(i_ r7)),(5,.cref (Qc r2)),(6,.ptr (Γ.n0+6) 0),(8,.mp (Γ.n0+41)),(9,(i_ 0)),(18,.tup [.cref (Qc r2),(Qe r6),(i_ r7)]),(19,(Qv p1)),(20,.tup [.cref (Qc r2),(Qe r6),(i_ r7)]),(21,.cref (Qc r2)),(22,(Qe r6)),(23,(i_ r7)),(24,(i_ r7)),(25,(b_ (r7 != 0))),(28,.cref (Qc r2)),(29,.cref (Qc r2)),(30,.cref (List.drop 19 (Qc r2))),(31,(b_ r2.empty_)),(33,.cref (Qc r2)),(34,.cref (Qc r2)),(35,.cref (List.drop 20 (Qc r2))),(36,(Qbi r2.start_)),(37,.cref (Qc r2)),(38,(l_ x11)),(39,.agg [(i_ r2.start_.ambient_),(i_ r2.start_.language_),(l_ x11),.nils 1]),(41,.mp (Γ.n0+41)),(45,(Qbi r2.start_)),(49,(l_ x11)),(50,.d (.str x13)),(51,.mp (Γ.n0+41))] ),Qo Γ.n0 (bxs [(1,.cells ((Qbo p1))),(2,.cells ([.nils 1,.nils 1,(i_ 0)])),(6,.cells ((Qr r6))),(41,.mp (mapE (fun (x:ByteArray)=>(.d (.str x):V)) (fun (x:Bool)=>((b_ x):V)) 0 (setM ([]:List (ByteArray×Bool)) x13 true)) ((setM ([]:List (ByteArray×Bool)) x13 true)).length)]) M,Γ.n0+138⟩;exact Qs8 40 7 [.int .i64 r2.start_.ambient_,.int .i64 r2.start_.language_,.lst 1 (List.map (eI .i64) x11),.lst 1 []] rfl rfl rfl rfl rfl ⟨sq,(kPtr rfl),(kPtr rfl),sq,sq,sq,(kPtr rfl),(kMp rfl),sq,sq,sq,sq,sq,sq,sq,sq,sq,sq,sq,sq,sq,sq,sq,sq,sq,sq,sq,sq,(kMp rfl),sq,sq,sq,(kMp rfl),tv⟩ ⟨bS rfl rfl rfl,bS rfl rfl rfl,bS rfl rfl rfl,⟨rfl,rfl⟩,tv⟩ rfl) ?_;refine lo h (fun (l14,i15,c16)=>⟨look [(1,.ptr (Γ.n0+1) 0),(2,.ptr (Γ.n0+2) 0),(5,.cref (Qc r2)),(7,(Qh2 l14)),(8,.mp (Γ.n0+41)),(9,(i_ i15))],Qo Γ.n0 (bxs [(1,.cells ((Qbo p1))),(2,.cells ([.nils 1,.nils 1,(i_ 0)])),(6,.cells ((Qr r6))),(41,.mp (mapE (fun (x:ByteArray)=>(.d (.str x):V)) (fun (x:Bool)=>((b_ x):V)) 0 c16) (c16).length)]) M,Γ.n0+138⟩) wk (fun _ ⟨l14,i15,c16⟩ h=>?_);refine Z 8 0 ?_;refine ci h rfl (fun h=>?_) (fun h=>Y);refine Z 17 1 ?_;intro x19 h;refine cl (Hcz _ _) h (cq fun x22 h=>?_);refine Z 7 0 ?_;refine ci h rfl (fun h=>?_) (fun h=>?_)
  ·refine Z 7 0 ?_;refine cl (Hdv _ _) h (cq fun _ h=>?_);refine Z 1 0 ?_;refine cl (Hct _ _ _) h (cq fun x27 h=>?_);refine Z 3 0 ?_;refine Rn.buildT (v:=.agg [(l_ x27),(l_ x19.word_),(i_ x22)]) tv rfl ?_;exact Y
  ·refine Tr.skip ?_;refine cu h (fun (l58,c59)=>⟨look [(1,.ptr (Γ.n0+1) 0),(2,.ptr (Γ.n0+2) 0),(5,.cref (Qc r2)),(7,(Qh2 l58)),(8,.mp (Γ.n0+41)),(9,(i_ i15))],Qo Γ.n0 (bxs [(1,.cells ((Qbo p1))),(2,.cells ([.nils 1,.nils 1,(i_ 0)])),(6,.cells ((Qr r6))),(10,.cells ((Qf0 x19))),(41,.mp (mapE (fun (x:ByteArray)=>(.d (.str x):V)) (fun (x:Bool)=>((b_ x):V)) 0 c59) (c59).length)]) M,Γ.n0+138⟩) (fun _ h=>?_) (fun ⟨l58,c59⟩ h=>?_)
   ·refine Z 3 0 ?_;refine Rn.k (v:=.cref (Qc r2)) tv rfl rfl rfl ?_;refine Z 6 0 ?_;refine lo h (fun (l28,x29,c30)=>⟨look [(1,.ptr (Γ.n0+1) 0),(2,.ptr (Γ.n0+2) 0),(5,.cref (Qc r2)),(7,(Qh2 l28)),(8,.mp (Γ.n0+41)),(9,(i_ i15)),(10,.ptr (Γ.n0+10) 0),(82,(l_ r2.events_)),(83,(i_ (r2.events_.length:Int))),(84,(i_ x29))],Qo Γ.n0 (bxs [(1,.cells ((Qbo p1))),(2,.cells ([.nils 1,.nils 1,(i_ 0)])),(6,.cells ((Qr r6))),(10,.cells ((Qf0 x19))),(41,.mp (mapE (fun (x:ByteArray)=>(.d (.str x):V)) (fun (x:Bool)=>((b_ x):V)) 0 c30) (c30).length)]) M,Γ.n0+138⟩) wk (fun _ ⟨l28,x29,c30⟩ h=>?_);refine Z 5 0 ?_;refine ci h rfl (fun h=>?_) (fun h=>Y);refine Tr.skip ?_;refine cu h (fun (l54,c55,xv56,xv57)=>⟨look [(1,.ptr (Γ.n0+1) 0),(2,.ptr (Γ.n0+2) 0),(5,.cref (Qc r2)),(7,(Qh2 l54)),(8,.mp (Γ.n0+41)),(9,(i_ i15)),(10,.ptr (Γ.n0+10) 0),(82,(l_ r2.events_)),(83,(i_ (r2.events_.length:Int))),(84,(i_ x29))],Qo Γ.n0 (bxs [(1,.cells ((Qbo p1))),(2,.cells ([.nils 1,.nils 1,(i_ 0)])),(6,.cells ((Qr r6))),(10,.cells ((Qf0 x19))),(14,.cells ([(i_ xv56),(i_ xv57)])),(41,.mp (mapE (fun (x:ByteArray)=>(.d (.str x):V)) (fun (x:Bool)=>((b_ x):V)) 0 c55) (c55).length)]) M,Γ.n0+138⟩) (fun _ h=>?_) (fun ⟨l54,c55,xv56,xv57⟩ h=>Y);refine Z 13 1 ?_;intro x33 h;refine cl (Hcu _ _ _) h (cq fun ⟨r36,_⟩ h=>?_);refine Z 13 0 ?_;refine Tr.cond rfl (fun hb38=>?_) (fun hb38=>?_)
    ·have hb38:=nT' hb38;replace h:=bF hb38 h;exact Y
    ·have hb38:=nF' hb38;replace h:=bT hb38 h;refine Z 8 0 ?_;refine cl (Hdh _) h (cq fun _ h=>?_);refine Z 3 1 ?_;intro x41 h;refine Rn.buildT (v:=.agg [(i_ r36.ambient_),(i_ r36.language_),(l_ x19.states_),(o_ x41)]) tv rfl ?_;refine Z 3 0 ?_;refine cu h (fun y48=>⟨look [(1,.ptr (Γ.n0+1) 0),(2,.ptr (Γ.n0+2) 0),(5,.cref (Qc r2)),(7,(Qh2 l28)),(8,.mp (Γ.n0+41)),(9,(i_ i15)),(10,.ptr (Γ.n0+10) 0),(16,.ptr (Γ.n0+16) 0),(82,(l_ r2.events_)),(83,(i_ (r2.events_.length:Int))),(84,(i_ x29))],Qo Γ.n0 (bxs [(1,.cells ((Qbo p1))),(2,.cells ([.nils 1,.nils 1,(i_ 0)])),(6,.cells ((Qr r6))),(10,.cells ((Qf0 x19))),(14,.cells ((Qbh r36))),(16,.cells ([(i_ r36.ambient_),(i_ r36.language_),(l_ y48),(o_ x41)])),(41,.mp (mapE (fun (x:ByteArray)=>(.d (.str x):V)) (fun (x:Bool)=>((b_ x):V)) 0 c30) (c30).length),(105,.cells ([(i_ x33)]))]) M,Γ.n0+138⟩) (fun _ h=>?_) (fun y48 h=>?_)
     ·refine Z 4 0 ?_;refine cl (Hdb _ _) h (cq fun _ h=>?_);refine Z 1 0 ?_;refine cd h rfl (fun h=>?_) (fun h=>Y);refine Z 5 0 ?_;refine cl (Hcv _ _ _) h (cq fun _ h=>?_);exact Y
     ·refine Z 6 0 ?_;refine cl (Hcl _ _) h (cq fun x50 h=>?_);refine Z 6 0 ?_;refine Rn.lookup (ek:=(fun (x:ByteArray)=>(.d (.str x):V))) (ev:=(fun (x:Bool)=>((b_ x):V))) (m:=c30) (k:=x50) (fun _ _=>rfl) (fun _=>rfl) (fun _=>rfl) false rfl tv rfl rfl rfl ?_;refine Z 2 0 ?_;refine Tr.cond rfl (fun hb51=>?_) (fun hb51=>?_)
      ·have hb51:=nT' hb51;replace h:=bF hb51 h;refine Z 4 0 ?_;refine Rn.mapset (ek:=(fun (x:ByteArray)=>(.d (.str x):V))) (ev:=(fun (x:Bool)=>((b_ x):V))) (m:=c30) (k:=x50) (v:=true) (fun _ _=>rfl) (fun _=>rfl) (fun _=>rfl) tv rfl rfl rfl rfl rfl ?_;exact Y
      ·have hb51:=nF' hb51;replace h:=bT hb51 h;exact Y
   ·refine Z 6 0 ?_;exact ci h rfl (fun h=>Y) (fun h=>Y)
 ·refine Rn.call (args:=[(Qv p1)]) tv rfl (crF hb5 (Hcm _ _ h4)) pc9 ?_;refine Z 15 0 ?_;refine cd h rfl (fun h=>Y) (fun h=>?_);refine Z 5 0 ?_;cases h
theorem Qou {P:Program} {c:Nat} (hcf:Qn P c=some Qj3):Qg9 P c (Qb6):=by
 intro x1 x2 x7 k3 k5 k8 r h;intro M nb hk4 hk6 hk9 hv10 hv11 hv12;refine Qbmj hcf rfl M _ nb (fun hM=>Qbg8 hM ⟨(ltB hM hk6),(ltB hM hk9),tv⟩) fun Γ hP hnt hn0 hM=>?_;subst hP hn0;refine ini ?_;refine Tr.puts [(k5,.mp (mapE (fun (x:Qd)=>(.agg (Qbh x):V)) (fun (x:Bool)=>((b_ x):V)) 0 x2) (x2).length),(k8,.cells ([(Qbw x7)]))] ⟨hk6,hk9,tv⟩ ?_;refine Z 6 0 ?_;refine Rn.load (v:=.mp k5) tv rfl (Q41 (ltB hM hk4) (pgS hv10.symm (pgS hv12.symm hk4))) rfl rfl ?_;refine Z 1 0 ?_;refine Rn.lookupB (ek:=(fun (x:Qd)=>(.agg (Qbh x):V))) (ev:=(fun (x:Bool)=>((b_ x):V))) (m:=x2) (k:=x1) Qqa (fun _=>rfl) (fun _=>rfl) false rfl tv rfl rfl (Q41 (ltB hM hk6) pg0) ?_;refine Z 2 0 ?_;refine Tr.cond rfl (fun hb13=>?_) (fun hb13=>?_)
 ·have hb13:=nT' hb13;replace h:=bF hb13 h;refine Z 2 0 ?_;refine Rn.load (v:=.mp k5) tv rfl (Q41 (ltB hM hk4) (pgS hv10.symm (pgS hv12.symm hk4))) rfl rfl ?_;refine Z 1 0 ?_;refine Rn.mapsetB (ek:=(fun (x:Qd)=>(.agg (Qbh x):V))) (ev:=(fun (x:Bool)=>((b_ x):V))) (m:=x2) (k:=x1) (v:=true) Qqa (fun _=>rfl) tv rfl rfl rfl rfl (ltB hM hk6) pg0 ps0 ?_;refine Z 2 0 ?_;refine Rn.loadTB (cs':=[(Q5 x7)]) tv rfl (ltB hM hk9) (pgS hv11.symm pg0) rfl rfl (psS hv11.symm ps0) ?_;refine Z 3 1 ?_;intro x14 h;refine Rn.storeOB (cs':=[(Qbw x14)]) tv rfl rfl (ltB hM hk9) (pgS hv11.symm pg0) rfl rfl (psS hv11.symm ps0) ?_;exact Y
 ·have hb13:=nF' hb13;replace h:=bT hb13 h;exact Y
theorem Qw9 {P:Program} {c:Nat} (hcf:Qn P c=some Qr4):Qr3 P c (Qr5):=by
 intro a1 b2 r h;refine Qbs hcf rfl fun Γ M hP hnt hM=>?_;subst hP;refine ini ?_;refine Z 15 0 ?_;exact cd h rfl (fun h=>Y) (fun h=>Y)
theorem Qqv {P:Program} {c:Nat} {Qy:_} {Qq:_} {Qb6:_} {f_slices_SortFunc_place:_}
    (Hcu:Qfj P 57 Qy)
    (Hdb:Qdq P 59 Qq)
    (Hdd:Qg9 P 144 Qb6)
    (Hdr:RowK P 145 Qbt 2 [.clo 146 []] f_slices_SortFunc_place) (hcf:Qn P c=some Qlu) (fuel:Nat):Qf8 P c (Qbk Qy Qq Qb6 f_slices_SortFunc_place fuel):=by
 intro s1 l2 r h;refine Qbg2 hcf (args':=[.cref (Qc s1),.f (.lst 2 (List.map Qbt l2))]) rfl rfl rfl rfl rfl rfl fun Γ M hP hnt hG hM0 hM=>?_;subst hP;refine ini ?_;refine Z 6 0 ?_;refine Rn.mkmap tv rfl (fun (x:Qd)=>(.agg (Qbh x):V)) (fun (x:Bool)=>((b_ x):V)) ?_;refine Z 9 0 ?_;refine Rn.k (v:=.clo 144 [.ptr (Γ.n0+5) 0,.ptr (Γ.n0+6) 0]) tv rfl rfl rfl ?_;refine Z 2 0 ?_;refine cu h (fun (ov13,c14)=>⟨look [(0,.cref (Qc s1)),(6,.ptr (Γ.n0+6) 0),(7,.clo 144 [.ptr (Γ.n0+5) 0,.ptr (Γ.n0+6) 0])],Qo Γ.n0 (bxs [(5,.cells ([.mp (Γ.n0+15)])),(6,.cells ([(Qbw ov13)])),(15,.mp (mapE (fun (x:Qd)=>(.agg (Qbh x):V)) (fun (x:Bool)=>((b_ x):V)) 0 c14) (c14).length)]) M,Γ.n0+66⟩) (fun _ h=>?_) (fun ⟨ov13,c14⟩ h=>?_)
 ·refine Z 3 0 ?_;refine Rn.weak (wS [0,1,4,5,6,7,15,16] [5,6,15] (fun e=>(17,(Q5 l2))::e) (fun l=>l) ke wk) ?_;refine Z 4 0 ?_;refine lo h (fun (x3,ov4,c5)=>⟨look [(0,.cref (Qc s1)),(6,.ptr (Γ.n0+6) 0),(7,.clo 144 [.ptr (Γ.n0+5) 0,.ptr (Γ.n0+6) 0]),(17,(Q5 l2)),(18,(i_ (l2.length:Int))),(19,(i_ x3))],Qo Γ.n0 (bxs [(5,.cells ([.mp (Γ.n0+15)])),(6,.cells ([(Qbw ov4)])),(15,.mp (mapE (fun (x:Qd)=>(.agg (Qbh x):V)) (fun (x:Bool)=>((b_ x):V)) 0 c5) (c5).length)]) M,Γ.n0+66⟩) wk (fun _ ⟨x3,ov4,c5⟩ h=>?_);refine Z 5 0 ?_;refine ci h rfl (fun h=>?_) (fun h=>Y);refine Z 13 1 ?_;intro x8 h;obtain ⟨⟨c10,c11⟩,h12,h⟩:=bnd h;refine Rn.callvW (args:=([(Qbi x8)]++[.ptr (Γ.n0+5) 0,.ptr (Γ.n0+6) 0])) (B:=[((Γ.n0+15),.mp (mapE (fun (x:Qd)=>(.agg (Qbh x):V)) (fun (x:Bool)=>((b_ x):V)) 0 c10) (c10).length),((Γ.n0+6),.cells ([(Qbw c11)]))]) tv rfl rfl (Hdd _ _ _ (Γ.n0+5) (Γ.n0+15) (Γ.n0+6) _ h12 _ _ (Qd8 rfl) (Qd8 rfl) (Qd8 rfl) (Qbes rfl) (Qbes rfl) (Qbes rfl)) ⟨(.inl (Nat.le_add_right _ _)),tv⟩ (Qbi7 (Qbi7 cw0)) rfl ?_;exact Y
 ·refine cu h (fun (ov46,c47)=>⟨look [(6,.ptr (Γ.n0+6) 0)],Qo Γ.n0 (bxs [(5,.cells ([.mp (Γ.n0+15)])),(6,.cells ([(Qbw ov46)])),(15,.mp (mapE (fun (x:Qd)=>(.agg (Qbh x):V)) (fun (x:Bool)=>((b_ x):V)) 0 c47) (c47).length)]) M,Γ.n0+66⟩) (fun _ h=>?_) (fun ⟨ov46,c47⟩ h=>?_)
  ·refine Z 5 0 ?_;refine lo h (fun (i15,ov16,c17)=>⟨look [(0,.cref (Qc s1)),(6,.ptr (Γ.n0+6) 0),(7,.clo 144 [.ptr (Γ.n0+5) 0,.ptr (Γ.n0+6) 0]),(10,(i_ i15))],Qo Γ.n0 (bxs [(5,.cells ([.mp (Γ.n0+15)])),(6,.cells ([(Qbw ov16)])),(15,.mp (mapE (fun (x:Qd)=>(.agg (Qbh x):V)) (fun (x:Bool)=>((b_ x):V)) 0 c17) (c17).length)]) M,Γ.n0+66⟩) wk (fun _ ⟨i15,ov16,c17⟩ h=>?_);refine Z 8 0 ?_;refine ci h rfl (fun h=>?_) (fun h=>Y);refine Tr.skip ?_;refine cu h (fun (ov44,c45)=>⟨look [(0,.cref (Qc s1)),(6,.ptr (Γ.n0+6) 0),(7,.clo 144 [.ptr (Γ.n0+5) 0,.ptr (Γ.n0+6) 0]),(10,(i_ i15))],Qo Γ.n0 (bxs [(5,.cells ([.mp (Γ.n0+15)])),(6,.cells ([(Qbw ov44)])),(15,.mp (mapE (fun (x:Qd)=>(.agg (Qbh x):V)) (fun (x:Bool)=>((b_ x):V)) 0 c45) (c45).length)]) M,Γ.n0+66⟩) (fun _ h=>?_) (fun ⟨ov44,c45⟩ h=>Y);refine Z 4 0 ?_;refine Rn.k (v:=.cref (Qc s1)) tv rfl rfl rfl ?_;refine Z 6 0 ?_;refine lo h (fun (x20,ov21,c22)=>⟨look [(0,.cref (Qc s1)),(6,.ptr (Γ.n0+6) 0),(7,.clo 144 [.ptr (Γ.n0+5) 0,.ptr (Γ.n0+6) 0]),(10,(i_ i15)),(36,(l_ s1.events_)),(37,(i_ (s1.events_.length:Int))),(38,(i_ x20))],Qo Γ.n0 (bxs [(5,.cells ([.mp (Γ.n0+15)])),(6,.cells ([(Qbw ov21)])),(15,.mp (mapE (fun (x:Qd)=>(.agg (Qbh x):V)) (fun (x:Bool)=>((b_ x):V)) 0 c22) (c22).length)]) M,Γ.n0+66⟩) wk (fun _ ⟨x20,ov21,c22⟩ h=>?_);refine Z 5 0 ?_;refine ci h rfl (fun h=>?_) (fun h=>Y);refine Tr.skip ?_;refine cu h (fun (ov40,c41,y42,y43)=>⟨look [(0,.cref (Qc s1)),(6,.ptr (Γ.n0+6) 0),(7,.clo 144 [.ptr (Γ.n0+5) 0,.ptr (Γ.n0+6) 0]),(10,(i_ i15)),(36,(l_ s1.events_)),(37,(i_ (s1.events_.length:Int))),(38,(i_ x20))],Qo Γ.n0 (bxs [(5,.cells ([.mp (Γ.n0+15)])),(6,.cells ([(Qbw ov40)])),(13,.cells ([(i_ y42),(i_ y43)])),(15,.mp (mapE (fun (x:Qd)=>(.agg (Qbh x):V)) (fun (x:Bool)=>((b_ x):V)) 0 c41) (c41).length)]) M,Γ.n0+66⟩) (fun _ h=>?_) (fun ⟨ov40,c41,y42,y43⟩ h=>Y);refine Z 15 1 ?_;intro _ _ h;refine cl (Hcu _ _ _) h (cq fun ⟨r30,_⟩ h=>?_);refine Z 7 0 ?_;refine cu h (fun x35=>⟨look [(0,.cref (Qc s1)),(6,.ptr (Γ.n0+6) 0),(7,.clo 144 [.ptr (Γ.n0+5) 0,.ptr (Γ.n0+6) 0]),(10,(i_ i15)),(13,.ptr (Γ.n0+13) 0),(36,(l_ s1.events_)),(37,(i_ (s1.events_.length:Int))),(38,(i_ x20)),(58,(b_ x35))],Qo Γ.n0 (bxs [(5,.cells ([.mp (Γ.n0+15)])),(6,.cells ([(Qbw ov21)])),(13,.cells ((Qbh r30))),(15,.mp (mapE (fun (x:Qd)=>(.agg (Qbh x):V)) (fun (x:Bool)=>((b_ x):V)) 0 c22) (c22).length)]) M,Γ.n0+66⟩) (fun _ h=>?_) (fun x35 h=>?_)
   ·refine Z 3 0 ?_;refine bs h (fun _ h=>?_) (fun _ h=>Y);refine Z 2 0 ?_;refine cl (Hdb _ _) h (cq fun _ h=>?_);exact Y
   ·refine cd h rfl (fun h=>?_) (fun h=>Y);refine Z 3 0 ?_;obtain ⟨⟨c37,c38⟩,h39,h⟩:=bnd h;refine Rn.callvW (args:=([(Qbi r30)]++[.ptr (Γ.n0+5) 0,.ptr (Γ.n0+6) 0])) (B:=[((Γ.n0+15),.mp (mapE (fun (x:Qd)=>(.agg (Qbh x):V)) (fun (x:Bool)=>((b_ x):V)) 0 c37) (c37).length),((Γ.n0+6),.cells ([(Qbw c38)]))]) tv rfl rfl (Hdd _ _ _ (Γ.n0+5) (Γ.n0+15) (Γ.n0+6) _ h39 _ _ (Qd8 rfl) (Qd8 rfl) (Qd8 rfl) (Qbes rfl) (Qbes rfl) (Qbes rfl)) ⟨(.inl (Nat.le_add_right _ _)),tv⟩ (Qbi7 (Qbi7 cw0)) rfl ?_;exact Y
  ·obtain ⟨rv48,hs49,h⟩:=bnd h;obtain ⟨hl50,hn51,hr52⟩:=Hdr _ _ hs49;refine Tr.seqW ⟨look [(6,.ptr (Γ.n0+6) 0)],Qo Γ.n0 (bxs [(6,.cells ([(Q5 rv48)]))]) M,Γ.n0+66⟩ ?_ ?_
   ·by_cases hx53:ov46=[]
    ·obtain ⟨hyx,hn51b⟩:=hn51 hx53;replace hyx:=hyx.symm;subst hyx;replace hn51:=And.intro tv hn51b;refine Z 2 0 ?_;refine Rn.call (args:=[(Q5 ov46),.clo 146 []]) tv rfl (hn51.2) pc9 ?_;refine Rn.nil ⟨rfl,(by exact Qhg [5,15] ⟨(kPtr rfl),tv⟩ ⟨⟨_,rfl,rfl,(.cons (WkV.dem' rfl) .nil)⟩,tv⟩ rfl)⟩
    ·refine Tr.weak (wS [6] [6] (fun e=>e) (fun l=>l) ke wk) ?_;refine Qbmh hG hM0 6 0 64 hx53 (fun _=>rfl) rfl rfl rfl rfl ⟨rfl,tv⟩ ⟨⟨rfl,tv⟩,tv⟩ (fun c54 hc55 hc56=>?_);refine Z 2 0 ?_;refine Rn.callRow (t:=64) (cs:=Qb2 (List.map Qbt ov46) ((c54-ov46.length)*2)) (cs':=Qb2 (List.map Qbt rv48) ((c54-ov46.length)*2)) tv rfl rfl (fun M2 hM2=>hr52 hc56 _ _ _ _ hM2) rfl ?_;refine Rn.weak (by show WeakSt Γ _ ⟨look [(6,.ptr (Γ.n0+6) 0),(63,(Q5 rv48)),(64,.tup [])],Qo Γ.n0 (bxs [(6,.cells ([(Q5 rv48)]))]) M,Γ.n0+66⟩;exact Qrs 64 _ rfl Qbla ⟨(fPtr rfl),(fSlT (fun _=>rfl) hl50 hc55),sq,tv⟩ ⟨⟨_,rfl,rfl,(.cons (fSlT (fun _=>rfl) hl50 hc55) .nil)⟩,tv⟩ rfl) ?_;refine Rn.nil ⟨rfl,(by exact Qhg [] ⟨(kPtr rfl),tv⟩ ⟨bS rfl rfl rfl,tv⟩ rfl)⟩
   ·exact Y
theorem Qsl {P:Program} {c:Nat} {f_relative_key:_}
    (Hcl:K_relative_key P 53 f_relative_key) (hcf:Qn P c=some Qm6) (fuel:Nat):Qi1 P c (Qch f_relative_key fuel):=by
 intro x1 r h;refine Qbs hcf rfl fun Γ M hP hnt hM=>?_;subst hP;refine ini ?_;refine Z 9 0 ?_;refine cw h [1] [1] (fun l10 e=>(3,(o_ l10))::e) (fun _ l=>l) ke (fun _ h=>?_) (fun l10 h=>?_)
 ·refine Z 8 0 ?_;refine lw h [1,7,8] [1] (fun (l2,x3) e=>(3,(o_ l2))::(9,(i_ x3))::e) (fun _ l=>l) ke wk (fun _ ⟨l2,x3⟩ h=>?_);refine Z 5 0 ?_;exact ci h rfl (fun h=>Y) (fun h=>Y)
 ·refine Z 6 0 ?_;refine cl (Hcl _ _) h (cq fun _ h=>?_);exact Y
theorem Qqw {P:Program} {c:Nat} {Qt:_}
    (Hcy:Qek P 65 Qt) (hcf:Qn P c=some Qlv):Qh5 P c (Qc5 Qt):=by
 intro x1 x2 x5 k3 k6 r h;intro M nb hk4 hk7;refine Qu9 hcf rfl M nb fun Γ hP hnt hn0 hM=>?_;subst hP hn0;refine ini ?_;refine Z 10 0 ?_;refine cl (Hcy _ _ _) h (cq fun _ h=>?_);exact Y
theorem Qqx {P:Program} {c:Nat} (hcf:Qn P c=some Qlw) (fuel:Nat):Qh6 P c (Qc6 fuel):=by
 intro s1 f2 g3 cp4 r h;intro M nb hc5 ho7 hf6;refine Qu9 hcf rfl M nb fun Γ hP hnt hn0 hM=>?_;subst hP hn0;refine ini ?_;refine Z 12 0 ?_;refine lw h [0,1,7] [] (fun x9 e=>(8,(i_ x9))::e) (fun _ l=>l) ke wk (fun _ x9 h=>?_);refine Z 5 0 ?_;refine ci h rfl (fun h=>?_) (fun h=>Y);refine Z 15 1 ?_;intro x12 h;obtain ⟨x15,h14,h⟩:=bnd h;refine Rn.callvM (args:=[(Qbi x12)]++cp4) tv rfl (by rw [hc5];rfl) (fun M2 nb2 hn hx=>hf6 _ _ h14 M2 nb2 (by omega) ((Qwm hM).trans hx)) rfl pc9 ?_;refine Z 1 0 ?_;exact cd h rfl (fun h=>Y) (fun h=>Y)
theorem Qoj {P:Program} {c:Nat} {Qc6:_}
    (Hdp:Qh6 P 147 Qc6) (hcf:Qn P c=some Qjl):Qgv P c (Qcg Qc6):=by
 intro s1 f2 g3 cp4 r h;intro M nb hc5 ho7 hf6;refine Qu9 hcf rfl M nb fun Γ hP hnt hn0 hM=>?_;subst hP hn0;refine ini ?_;refine Z 8 0 ?_;refine cm h (fun _ h12 M2 nb2 hn hx=>Hdp _ _ g3 cp4 _ h12 M2 nb2 hc5 (Qbj0 ((Qwm hM).trans hx) ho7) (fun a9 r10 h11 M3 nb3 hn3 hx3=>hf6 a9 r10 h11 M3 nb3 (by omega) ((Qwm hM).trans (hx.trans hx3)))) rfl (cq fun _ h=>?_);exact Y
theorem Qrd {P:Program} {c:Nat} {Qy:_} {Qbk:_}
    (Hcu:Qfj P 57 Qy)
    (Hdc:Qf8 P 110 Qbk) (hcf:Qn P c=some Qmm) (fuel:Nat):Qil P c (Qdl Qy Qbk fuel):=by
 intro s1 l2 ev3 r h;refine Qbs hcf rfl fun Γ M hP hnt hM=>?_;subst hP;refine ini ?_;refine Z 8 0 ?_;refine cw h [0] [] (fun ov21 e=>(7,(Qbw ov21))::e) (fun _ l=>l) ke (fun _ h=>?_) (fun ov21 h=>?_)
 ·refine Z 7 0 ?_;refine lw h [0,2,12,13] [] (fun (ov4,x5) e=>(7,(Qbw ov4))::(14,(i_ x5))::e) (fun _ l=>l) ke wk (fun _ ⟨ov4,x5⟩ h=>?_);refine Z 5 0 ?_;refine ci h rfl (fun h=>?_) (fun h=>Y);refine Tr.skip ?_;refine cw h [0,2,12,13,14] [] (fun (ov16,c17,c18,y19,y20) e=>(7,(Qbw ov16))::e) (fun (ov16,c17,c18,y19,y20) l=>(9,.cells ([(i_ c17),(i_ c18)]))::(10,.cells ([(i_ y19),(i_ y20)]))::l) ke (fun _ h=>?_) (fun ⟨ov16,c17,c18,y19,y20⟩ h=>Y);refine Z 13 1 ?_;intro _ h;refine cl (Hcu _ _ _) h (cq fun ⟨_,_⟩ h=>?_);refine Z 11 0 ?_;exact cd h rfl (fun h=>Y) (fun h=>Y)
 ·refine Z 4 0 ?_;refine cl (Hdc _ _) h (cq fun _ h=>?_);exact Y
theorem Qsm {P:Program} {c:Nat} {Qbd:_} {Qm:_} {Qq:_} {Qk:_} {Qf:_} {Qbk:_} {Qch:_} {Qcg:_} {Qc5:_} {Qdl:_}
    (Hat:Qhj P 45 Qbd)
    (Hdh:Qc8 P 58 Qm)
    (Hdb:Qdq P 59 Qq)
    (Hdl:Qcp P 62 Qk)
    (Hcp:Qb3 P 63 Qf)
    (Hdc:Qf8 P 110 Qbk)
    (Hcn:Qi1 P 111 Qch)
    (Hdk:Qgv P 112 Qcg)
    (Hcx:Qh5 P 113 Qc5)
    (Hcr:Qil P 114 Qdl) (hcf:Qn P c=some Qm7) (fuel:Nat):Qi2 P c (Qds Qbd Qm Qq Qk Qf Qbk Qch Qcg Qc5 Qdl fuel):=by
 intro s1 r h;refine Qbs hcf rfl fun Γ M hP hnt hM=>?_;subst hP;refine ini ?_;refine Z 9 0 ?_;refine Rn.k (v:=.cref (Qc s1)) tv rfl rfl rfl ?_;refine Z 2 0 ?_;refine cl (Hdh _) h (cq fun x3 h=>?_);refine Rn.buildT (v:=.agg [(o_ x3),(i_ 0),.nils 1,.nils 3]) tv rfl ?_;refine Z 7 0 ?_;refine Rn.k (v:=.cref (Qc s1)) tv rfl rfl rfl ?_;refine Z 5 0 ?_;refine ci h rfl (fun h=>Y) (fun h=>?_);refine Z 5 0 ?_;refine Rn.k (v:=.cref (Qc s1)) tv rfl rfl rfl ?_;refine Z 2 0 ?_;refine Rn.blit (xs:=[(Qbi s1.start_)]) (l:=List.map Qbt [s1.start_]) tv rfl rfl rfl rfl ?_;refine cl (Hdc _ _) h (cq fun x6 h=>?_);refine Rn.buildT (v:=.agg [(i_ 0),(Q5 x6)]) tv rfl ?_;refine Z 5 0 ?_;refine Rn.mkmap tv rfl (fun (x:ByteArray)=>(.d (.str x):V)) (fun (x:Int)=>((i_ x):V)) ?_;refine Z 1 0 ?_;refine Rn.k (v:=.ptr (Γ.n0+35) 0) tv rfl rfl rfl ?_;refine Z 1 0 ?_;refine cl (Hcn _) h (cq fun x8 h=>?_);refine Rn.mapset (ek:=(fun (x:ByteArray)=>(.d (.str x):V))) (ev:=(fun (x:Int)=>((i_ x):V))) (m:=([]:List (ByteArray×Int))) (k:=x8) (v:=0) (fun _ _=>rfl) (fun _=>rfl) (fun _=>rfl) tv rfl rfl rfl rfl rfl ?_;refine Z 9 0 ?_;refine Tr.weak (by show WeakSt Γ _ ⟨look ((5,.own 2 (List.map Qru [(Qbu.mk 0 x6)]))::[(0,.cref (Qc s1)),(1,.ptr (Γ.n0+1) 0),(2,.ptr (Γ.n0+2) 0),(3,(i_ 0)),(4,.ptr (Γ.n0+4) 0),(6,.mp (Γ.n0+36)),(7,(i_ 0)),(14,.cref (Qc s1)),(15,.cref (Qc s1)),(16,.cref (List.drop 14 (Qc s1))),(17,(l_ s1.events_)),(18,(l_ x3)),(19,.agg [(l_ x3),(i_ 0),.nils 1,.nils 3]),(20,.cref (Qc s1)),(21,.cref (Qc s1)),(22,.cref (List.drop 20 (Qc s1))),(23,.cref (List.drop 21 (Qc s1))),(24,(i_ s1.start_.language_)),(25,(b_ (decide (s1.start_.language_<0)))),(27,.cref (Qc s1)),(28,.cref (Qc s1)),(29,.cref (Qc s1)),(30,.cref (List.drop 20 (Qc s1))),(31,(Qbi s1.start_)),(32,.d (.lst 2 (List.map Qbt [s1.start_]))),(33,(Q5 x6)),(34,.agg [(i_ 0),(Q5 x6)]),(36,.mp (Γ.n0+36)),(39,.agg [(i_ 0),(Q5 x6)]),(40,.d (.str x8)),(41,.mp (Γ.n0+36))] ),Qo Γ.n0 (bxs [(1,.cells ([.cref (Qc s1)])),(2,.cells ([.nils 1,(i_ 0),.nils 1,.nils 3])),(4,.cells ([(o_ x3),(i_ 0),.nils 1,.nils 3])),(36,.mp (mapE (fun (x:ByteArray)=>(.d (.str x):V)) (fun (x:Int)=>((i_ x):V)) 0 (setM ([]:List (ByteArray×Int)) x8 0)) ((setM ([]:List (ByteArray×Int)) x8 0)).length)]) M,Γ.n0+154⟩;exact Qs8 35 5 [.int .i64 0,.lst 2 (List.map Qbt x6)] rfl rfl rfl rfl rfl ⟨sq,(kPtr rfl),(kPtr rfl),sq,(kPtr rfl),(kMp rfl),sq,sq,sq,sq,sq,sq,sq,sq,sq,sq,sq,sq,sq,sq,sq,sq,sq,sq,sq,sq,sq,(kMp rfl),sq,sq,(kMp rfl),tv⟩ ⟨bS rfl rfl rfl,bS rfl rfl rfl,bS rfl rfl rfl,⟨rfl,rfl⟩,tv⟩ rfl) ?_;refine lo h (fun (l9,i10,c11,c12,c13,a14,a15,c16)=>⟨look [(1,.ptr (Γ.n0+1) 0),(2,.ptr (Γ.n0+2) 0),(4,.ptr (Γ.n0+4) 0),(5,(Qed l9)),(6,.mp (Γ.n0+36)),(7,(i_ i10))],Qo Γ.n0 (bxs [(1,.cells ([.cref (Qc s1)])),(2,.cells ([(o_ c11),(i_ 0),(o_ c12),(Qp c13)])),(4,.cells ([(o_ x3),(i_ 0),(o_ a14),(Qp a15)])),(36,.mp (mapE (fun (x:ByteArray)=>(.d (.str x):V)) (fun (x:Int)=>((i_ x):V)) 0 c16) (c16).length)]) M,Γ.n0+154⟩) wk (fun _ ⟨l9,i10,c11,c12,c13,a14,a15,c16⟩ h=>?_);refine Z 8 0 ?_;refine ci h rfl (fun h=>?_) (fun h=>?_)
 ·refine Z 13 1 ?_;intro x19 h;refine cu h (fun (l75,a76,c77)=>⟨look [(1,.ptr (Γ.n0+1) 0),(2,.ptr (Γ.n0+2) 0),(4,.ptr (Γ.n0+4) 0),(5,(Qed l75)),(6,.mp (Γ.n0+36)),(7,(i_ i10))],Qo Γ.n0 (bxs [(1,.cells ([.cref (Qc s1)])),(2,.cells ([(o_ c11),(i_ 0),(o_ c12),(Qp c13)])),(4,.cells ([(o_ x3),(i_ 0),(o_ x19),(Qp a76)])),(36,.mp (mapE (fun (x:ByteArray)=>(.d (.str x):V)) (fun (x:Int)=>((i_ x):V)) 0 c77) (c77).length),(51,.cells ([(i_ i10)]))]) M,Γ.n0+154⟩) (fun _ h=>?_) (fun ⟨l75,a76,c77⟩ h=>?_)
  ·refine Z 3 0 ?_;refine Rn.k (v:=.cref (Qc s1)) tv rfl rfl rfl ?_;refine Z 6 0 ?_;refine lo h (fun (l21,x22,a23,c24)=>⟨look [(1,.ptr (Γ.n0+1) 0),(2,.ptr (Γ.n0+2) 0),(4,.ptr (Γ.n0+4) 0),(5,(Qed l21)),(6,.mp (Γ.n0+36)),(7,(i_ i10)),(57,(l_ s1.events_)),(58,(i_ (s1.events_.length:Int))),(59,(i_ x22))],Qo Γ.n0 (bxs [(1,.cells ([.cref (Qc s1)])),(2,.cells ([(o_ c11),(i_ 0),(o_ c12),(Qp c13)])),(4,.cells ([(o_ x3),(i_ 0),(o_ x19),(Qp a23)])),(36,.mp (mapE (fun (x:ByteArray)=>(.d (.str x):V)) (fun (x:Int)=>((i_ x):V)) 0 c24) (c24).length),(51,.cells ([(i_ i10)]))]) M,Γ.n0+154⟩) wk (fun _ ⟨l21,x22,a23,c24⟩ h=>?_);refine Z 5 0 ?_;refine ci h rfl (fun h=>?_) (fun h=>Y);refine Tr.skip ?_;refine cu h (fun (l69,a70,c71,ev72,y73,y74)=>⟨look [(1,.ptr (Γ.n0+1) 0),(2,.ptr (Γ.n0+2) 0),(4,.ptr (Γ.n0+4) 0),(5,(Qed l69)),(6,.mp (Γ.n0+36)),(7,(i_ i10)),(57,(l_ s1.events_)),(58,(i_ (s1.events_.length:Int))),(59,(i_ x22))],Qo Γ.n0 (bxs [(1,.cells ([.cref (Qc s1)])),(2,.cells ([(o_ c11),(i_ 0),(o_ c12),(Qp c13)])),(4,.cells ([(o_ x3),(i_ 0),(o_ x19),(Qp a70)])),(9,.cells ([(i_ ev72)])),(10,.cells ([(i_ y73),(Q5 y74)])),(36,.mp (mapE (fun (x:ByteArray)=>(.d (.str x):V)) (fun (x:Int)=>((i_ x):V)) 0 c71) (c71).length),(51,.cells ([(i_ i10)]))]) M,Γ.n0+154⟩) (fun _ h=>?_) (fun ⟨l69,a70,c71,ev72,y73,y74⟩ h=>Y);refine Z 11 1 ?_;intro x27 h;refine Rn.k (v:=.cref (Qc s1)) tv rfl rfl rfl ?_;refine Z 8 1 ?_;intro _ h;refine cl (Hcp _ _ _) h (cq fun x32 h=>?_);refine Z 5 1 ?_;intro x33 h;refine Rn.buildT (v:=.agg [(i_ x32),(Q5 x33.places_)]) tv rfl ?_;refine Z 3 0 ?_;refine cu h (fun tv45=>⟨look [(1,.ptr (Γ.n0+1) 0),(2,.ptr (Γ.n0+2) 0),(4,.ptr (Γ.n0+4) 0),(5,(Qed l21)),(6,.mp (Γ.n0+36)),(7,(i_ i10)),(9,.ptr (Γ.n0+9) 0),(10,.ptr (Γ.n0+10) 0),(11,(b_ tv45)),(57,(l_ s1.events_)),(58,(i_ (s1.events_.length:Int))),(59,(i_ x22))],Qo Γ.n0 (bxs [(1,.cells ([.cref (Qc s1)])),(2,.cells ([(o_ c11),(i_ 0),(o_ c12),(Qp c13)])),(4,.cells ([(o_ x3),(i_ 0),(o_ x19),(Qp a23)])),(9,.cells ([(i_ x27)])),(10,.cells ([(i_ x32),(Q5 x33.places_)])),(36,.mp (mapE (fun (x:ByteArray)=>(.d (.str x):V)) (fun (x:Int)=>((i_ x):V)) 0 c24) (c24).length),(51,.cells ([(i_ i10)]))]) M,Γ.n0+154⟩) (fun _ h=>?_) (fun tv45 h=>?_)
   ·refine Z 2 0 ?_;refine Rn.k (v:=.cref (Qc s1)) tv rfl rfl rfl ?_;refine Z 4 0 ?_;refine cl (Hdl _ _) h (cq fun _ h=>?_);refine Z 1 0 ?_;refine bs h (fun hb37 h=>?_) (fun hb37 h=>Y);refine Z 5 1 ?_;intro _ h;refine Rn.k (v:=.clo 113 [.ptr (Γ.n0+1) 0,.ptr (Γ.n0+9) 0]) (gw rfl hb37) rfl rfl rfl ?_;refine cm h (fun _ h43 M2 nb2 hn hx=>Hdk _ _ 113 [.ptr (Γ.n0+1) 0,.ptr (Γ.n0+9) 0] _ h43 M2 nb2 rfl ⟨Qwn (hx _ _ (Qd8 rfl)),Qwn (hx _ _ (Qd8 rfl)),tv⟩ (fun a40 r41 h42 M3 nb3 hn3 hx3=>Hcx a40 s1 x27 (Γ.n0+1) (Γ.n0+9) r41 h42 M3 nb3 ((hx.trans hx3) _ _ (Qd8 rfl)) ((hx.trans hx3) _ _ (Qd8 rfl)))) rfl (cq fun _ h=>?_);exact Y
   ·refine Tr.seq ?_;refine cu h (fun x47=>⟨look [(1,.ptr (Γ.n0+1) 0),(2,.ptr (Γ.n0+2) 0),(4,.ptr (Γ.n0+4) 0),(5,(Qed l21)),(6,.mp (Γ.n0+36)),(7,(i_ i10)),(9,.ptr (Γ.n0+9) 0),(10,.ptr (Γ.n0+10) 0),(57,(l_ s1.events_)),(58,(i_ (s1.events_.length:Int))),(59,(i_ x22)),(101,(b_ x47))],Qo Γ.n0 (bxs [(1,.cells ([.cref (Qc s1)])),(2,.cells ([(o_ c11),(i_ 0),(o_ c12),(Qp c13)])),(4,.cells ([(o_ x3),(i_ 0),(o_ x19),(Qp a23)])),(9,.cells ([(i_ x27)])),(10,.cells ([(i_ x32),(Q5 x33.places_)])),(36,.mp (mapE (fun (x:ByteArray)=>(.d (.str x):V)) (fun (x:Int)=>((i_ x):V)) 0 c24) (c24).length),(51,.cells ([(i_ i10)]))]) M,Γ.n0+154⟩) (fun _ h=>?_) (fun x47 h=>?_)
    ·refine Z 5 0 ?_;exact bi h (fun _ h=>Y) (fun _ h=>Y)
    ·refine cd h rfl (fun h=>Y) (fun h=>?_);refine Tr.skip ?_;refine cu h (fun y56=>⟨look [(1,.ptr (Γ.n0+1) 0),(2,.ptr (Γ.n0+2) 0),(4,.ptr (Γ.n0+4) 0),(5,(Qed l21)),(6,.mp (Γ.n0+36)),(7,(i_ i10)),(9,.ptr (Γ.n0+9) 0),(10,.ptr (Γ.n0+10) 0),(57,(l_ s1.events_)),(58,(i_ (s1.events_.length:Int))),(59,(i_ x22))],Qo Γ.n0 (bxs [(1,.cells ([.cref (Qc s1)])),(2,.cells ([(o_ c11),(i_ 0),(o_ c12),(Qp c13)])),(4,.cells ([(o_ x3),(i_ 0),(o_ x19),(Qp a23)])),(9,.cells ([(i_ x27)])),(10,.cells ([(i_ x32),(Q5 y56)])),(36,.mp (mapE (fun (x:ByteArray)=>(.d (.str x):V)) (fun (x:Int)=>((i_ x):V)) 0 c24) (c24).length),(51,.cells ([(i_ i10)]))]) M,Γ.n0+154⟩) (fun _ h=>?_) (fun y56 h=>?_)
     ·refine Z 4 0 ?_;refine cl (Hdb _ _) h (cq fun _ h=>?_);refine Z 1 0 ?_;refine cd h rfl (fun h=>?_) (fun h=>Y);refine Z 8 1 ?_;intro _ h;refine cl (Hcr _ _ _) h (cq fun _ h=>?_);exact Y
     ·refine Z 4 0 ?_;refine cl (Hcn _) h (cq fun x58 h=>?_);refine Rn.lookupC (ek:=(fun (x:ByteArray)=>(.d (.str x):V))) (ev:=(fun (x:Int)=>((i_ x):V))) (m:=c24) (k:=x58) (fun _ _=>rfl) (fun _=>rfl) (fun _=>rfl) 0 rfl tv rfl rfl rfl ?_;refine Z 6 0 ?_;refine cu h (fun (l64,to65,c66)=>⟨look [(1,.ptr (Γ.n0+1) 0),(2,.ptr (Γ.n0+2) 0),(4,.ptr (Γ.n0+4) 0),(5,(Qed l64)),(6,.mp (Γ.n0+36)),(7,(i_ i10)),(9,.ptr (Γ.n0+9) 0),(12,(i_ to65)),(57,(l_ s1.events_)),(58,(i_ (s1.events_.length:Int))),(59,(i_ x22))],Qo Γ.n0 (bxs [(1,.cells ([.cref (Qc s1)])),(2,.cells ([(o_ c11),(i_ 0),(o_ c12),(Qp c13)])),(4,.cells ([(o_ x3),(i_ 0),(o_ x19),(Qp a23)])),(9,.cells ([(i_ x27)])),(10,.cells ([(i_ x32),(Q5 y56)])),(36,.mp (mapE (fun (x:ByteArray)=>(.d (.str x):V)) (fun (x:Int)=>((i_ x):V)) 0 c66) (c66).length),(51,.cells ([(i_ i10)]))]) M,Γ.n0+154⟩) (fun _ h=>?_) (fun ⟨l64,to65,c66⟩ h=>Y);refine Z 5 0 ?_;refine Tr.cond rfl (fun hb59=>?_) (fun hb59=>?_)
      ·have hb59:=nT' hb59;replace h:=bF hb59 h;refine Z 10 0 ?_;refine cl (Hcn _) h (cq fun x61 h=>?_);refine Z 1 0 ?_;refine Rn.mapset (ek:=(fun (x:ByteArray)=>(.d (.str x):V))) (ev:=(fun (x:Int)=>((i_ x):V))) (m:=c24) (k:=x61) (v:=(l21.length:Int)) (fun _ _=>rfl) (fun _=>rfl) (fun _=>rfl) tv rfl rfl rfl rfl rfl ?_;exact Y
      ·have hb59:=nF' hb59;replace h:=bT hb59 h;exact Y
  ·refine Z 6 0 ?_;exact ci h rfl (fun h=>Y) (fun h=>Y)
 ·refine Z 11 0 ?_;refine cl (Hat _) h (cq fun ⟨_,_⟩ h=>?_);exact Y
theorem Qxa {P:Program} {c:Nat} (hcf:Qn P c=some Qr6) (fuel:Nat):Qi9 P c (Qb0 fuel):=by
 intro s1 s2 r h;refine Qbs hcf rfl fun Γ M hP hnt hM=>?_;subst hP;refine ini ?_;refine Z 13 0 ?_;refine cd h rfl (fun h=>Y) (fun h=>?_);refine Z 9 0 ?_;refine lw h [0,1,12] [] (fun x4 e=>(13,(i_ x4))::e) (fun _ l=>l) ke wk (fun _ x4 h=>?_);refine Z 5 0 ?_;refine ci h rfl (fun h=>?_) (fun h=>Y);refine Z 20 1 ?_;intro _ _ h;exact cd h rfl (fun h=>Y) (fun h=>Y)
theorem Qvs {P:Program} {c:Nat} (hcf:Qn P c=some Qqn) (fuel:Nat):Qlg P c (Qeq fuel):=by
 intro s1 s2 r h;refine Qbs hcf rfl fun Γ M hP hnt hM=>?_;subst hP;refine ini ?_;refine Z 13 0 ?_;refine cd h rfl (fun h=>Y) (fun h=>?_);refine Z 9 0 ?_;refine lw h [0,1,12] [] (fun x4 e=>(13,(i_ x4))::e) (fun _ l=>l) ke wk (fun _ x4 h=>?_);refine Z 5 0 ?_;refine ci h rfl (fun h=>?_) (fun h=>Y);refine Z 18 1 ?_;intro x7 x9 h;refine Rn.eqa (r:=((x7.From==x9.From)&&((x7.Event==x9.Event)&&((x7.To==x9.To)&&true)))) tv rfl rfl rfl ?_;refine Z 1 0 ?_;refine Tr.cond rfl (fun hb11=>?_) (fun hb11=>?_)
 ·have hb11:=nT' hb11;replace h:=bF hb11 h;exact Y
 ·have hb11:=nF' hb11;replace h:=bT hb11 h;exact Y
theorem Qyj {P:Program} {c:Nat} {Qb0:_} {Qeq:_}
    (Hdn:Qi9 P 109 Qb0)
    (Hdm:Qlg P 115 Qeq) (hcf:Qn P c=some Qtl):Qnq P c (Qfm Qb0 Qeq):=by
 intro a1 b2 r h;refine Qbs hcf rfl fun Γ M hP hnt hM=>?_;subst hP;refine ini ?_;refine Z 14 0 ?_;refine bs h (fun _ h=>?_) (fun _ h=>Y);refine Z 4 0 ?_;refine cl (Hdn _ _) h (cq fun _ h=>?_);refine Z 2 0 ?_;refine bs h (fun _ h=>?_) (fun _ h=>Y);refine Z 4 0 ?_;refine cl (Hdn _ _) h (cq fun _ h=>?_);refine Z 2 0 ?_;refine bs h (fun _ h=>?_) (fun _ h=>Y);refine Z 4 0 ?_;refine cl (Hdm _ _) h (cq fun _ h=>?_);exact Y
theorem Qvt {P:Program} {c:Nat} {Qbf:_} {Qds:_} {Qfm:_}
    (Hcm:Qh4 P 51 Qbf)
    (Hcw:Qi2 P 66 Qds)
    (Hak:Qnq P 67 Qfm) (hcf:Qn P c=some Qqo) (fuel:Nat):Qlh P c (Qer Qbf Qds Qfm fuel):=by
 intro p1 r h;refine Qbs hcf rfl fun Γ M hP hnt hM=>?_;subst hP;refine ini ?_;refine Z 10 0 ?_;obtain ⟨⟨r2,ok3,r6,r7⟩,h4,h⟩:=bnd h;refine bs h (fun hb5 h=>?_) (fun hb5 h=>?_)
 ·refine Rn.call (args:=[(Qv p1)]) tv rfl (crT hb5 (Hcm _ _ h4)) pc9 ?_;refine Z 14 0 ?_;refine cd h rfl (fun h=>Y) (fun h=>?_);refine Z 2 0 ?_;refine lw h [1,2] [] (fun (rv9,s10,p11,p12,p13,p14,a15,a16,a17,a18) e=>(3,(i_ rv9))::(5,.cref (Qc s10))::e) (fun (rv9,s10,p11,p12,p13,p14,a15,a16,a17,a18) l=>(1,.cells ([(l_ p1.Plant.zB),(i_ p1.Plant.zF),(l_ p1.Plant.zC),(Qh p1.Plant.zD),(l_ p1.Ambient.zB),(i_ p1.Ambient.zF),(l_ p1.Ambient.zC),(Qh p1.Ambient.zD),(l_ p11),(i_ p12),(l_ p13),(Qh p14),(l_ p1.Observable),(l_ p1.Controllable)]))::(2,.cells ([(l_ a15),(i_ a16),(l_ a17),(Qh a18)]))::l) ke wk (fun _ ⟨rv9,s10,p11,p12,p13,p14,a15,a16,a17,a18⟩ h=>?_);refine Z 4 0 ?_;refine cl (Hcw _) h (cq fun ⟨r21,_⟩ h=>?_);refine Z 13 0 ?_;refine cd h rfl (fun h=>Y) (fun h=>?_);refine Z 6 0 ?_;refine cl (Hak _ _) h (cq fun _ h=>?_);refine Z 1 0 ?_;refine cd h rfl (fun h=>Y) (fun h=>?_);refine Z 13 0 ?_;refine ci h rfl (fun h=>Y) (fun h=>?_);refine Z 10 0 ?_;obtain ⟨⟨r28,ok29,r32,r33⟩,h30,h⟩:=bnd h;refine bs h (fun hb31 h=>?_) (fun hb31 h=>?_)
  ·refine Rn.call (args:=[.agg [(l_ p1.Plant.zB),(i_ p1.Plant.zF),(l_ p1.Plant.zC),(Qh p1.Plant.zD),(l_ p1.Ambient.zB),(i_ p1.Ambient.zF),(l_ p1.Ambient.zC),(Qh p1.Ambient.zD),(l_ r21.zB),(i_ r21.zF),(l_ r21.zC),(Qh r21.zD),(l_ p1.Observable),(l_ p1.Controllable)]]) tv rfl (crT hb31 (Hcm _ _ h30)) pc9 ?_;refine Z 13 0 ?_;exact cd h rfl (fun h=>Y) (fun h=>Y)
  ·refine Rn.call (args:=[.agg [(l_ p1.Plant.zB),(i_ p1.Plant.zF),(l_ p1.Plant.zC),(Qh p1.Plant.zD),(l_ p1.Ambient.zB),(i_ p1.Ambient.zF),(l_ p1.Ambient.zC),(Qh p1.Ambient.zD),(l_ r21.zB),(i_ r21.zF),(l_ r21.zC),(Qh r21.zD),(l_ p1.Observable),(l_ p1.Controllable)]]) tv rfl (crF hb31 (Hcm _ _ h30)) pc9 ?_;refine Z 13 0 ?_;refine cd h rfl (fun h=>Y) (fun h=>?_);refine Tr.skip ?_;cases h
 ·refine Rn.call (args:=[(Qv p1)]) tv rfl (crF hb5 (Hcm _ _ h4)) pc9 ?_;refine Z 14 0 ?_;refine cd h rfl (fun h=>Y) (fun h=>?_);refine Z 2 0 ?_;refine lw h [1,2,5] [1,2] (fun rv37 e=>(3,(i_ rv37))::e) (fun _ l=>l) ke wk (fun _ rv37 h=>?_);refine Z 4 0 ?_;cases h
theorem Qqy {P:Program} {c:Nat} (hcf:Qn P c=some Qlx) (fuel:Nat):Qf9 P c (Q9 fuel):=by
 intro a1 b2 r h;refine Qbs hcf rfl fun Γ M hP hnt hM=>?_;subst hP;refine ini ?_;refine Z 13 0 ?_;refine cd h rfl (fun h=>Y) (fun h=>?_);refine Z 7 0 ?_;refine lw h [0,1] [] (fun i4 e=>(5,(i_ i4))::e) (fun _ l=>l) ke wk (fun _ i4 h=>?_);refine Z 8 0 ?_;refine ci h rfl (fun h=>?_) (fun h=>Y);refine Z 15 1 ?_;intro _ _ h;exact cd h rfl (fun h=>Y) (fun h=>Y)
theorem Qtq {P:Program} {c:Nat} {Qfi:_} {Qer:_} {Q9:_} {Qea:_}
    (Hcg:Qos P 23 Qfi)
    (Hcj:Qlh P 26 Qer)
    (Hbq:Qf9 P 28 Q9)
    (Hbh:Qka P 39 Qea) (hcf:Qn P c=some Qof):Qjm P c (Qdd Qfi Qer Q9 Qea):=by
 intro  r h;refine Qbs hcf rfl fun Γ M hP hnt hM=>?_;subst hP;refine ini ?_;refine Z 6 0 ?_;refine cl Hbh h (cq fun x2 h=>?_);refine Z 6 0 ?_;obtain ⟨⟨r4,r5,r6⟩,h3,h⟩:=bnd h;refine Rn.call (args:=[.agg [(l_ x2.Plant.zB),(i_ x2.Plant.zF),.nils 1,(Qh x2.Plant.zD),.nils 1,(i_ x2.Ambient.zF),.nils 1,.nils 3,(l_ x2.Requirement.zB),(i_ x2.Requirement.zF),.nils 1,(Qh x2.Requirement.zD),(l_ x2.Observable),(l_ x2.Controllable)]]) tv rfl (fun M2 nb2=>ACalls.weak (args':=[.agg [(l_ x2.Plant.zB),(i_ x2.Plant.zF),(l_ []),(Qh x2.Plant.zD),(l_ []),(i_ x2.Ambient.zF),(l_ []),.d (.lst 3 (List.map Ql [])),(l_ x2.Requirement.zB),(i_ x2.Requirement.zF),(l_ []),(Qh x2.Requirement.zD),(l_ x2.Observable),(l_ x2.Controllable)]]) (Hcg _ _ h3 M2 nb2) (.cons (WkV.agg (cS rfl (cS rfl (.cons (WkV.nilsD _) (cS rfl (.cons (WkV.nilsD _) (cS rfl (.cons (WkV.nilsD _) (.cons (WkV.nilsD _) (cS rfl (cS rfl (.cons (WkV.nilsD _) (cS rfl (cS rfl (cS rfl .nil))))))))))))))) .nil) rfl) pc9 ?_;refine Z 12 0 ?_;obtain ⟨⟨r8,r9,r10⟩,h7,h⟩:=bnd h;refine Rn.call (args:=[.agg [(l_ x2.Plant.zB),(i_ x2.Plant.zF),.nils 1,(Qh x2.Plant.zD),.nils 1,(i_ x2.Ambient.zF),.nils 1,.nils 3,(l_ x2.Requirement.zB),(i_ x2.Requirement.zF),.nils 1,(Qh x2.Requirement.zD),(l_ x2.Observable),(l_ x2.Controllable)]]) tv rfl (fun M2 nb2=>ACalls.weak (args':=[.agg [(l_ x2.Plant.zB),(i_ x2.Plant.zF),(l_ []),(Qh x2.Plant.zD),(l_ []),(i_ x2.Ambient.zF),(l_ []),.d (.lst 3 (List.map Ql [])),(l_ x2.Requirement.zB),(i_ x2.Requirement.zF),(l_ []),(Qh x2.Requirement.zD),(l_ x2.Observable),(l_ x2.Controllable)]]) (Hcj _ _ h7 M2 nb2) (.cons (WkV.agg (cS rfl (cS rfl (.cons (WkV.nilsD _) (cS rfl (.cons (WkV.nilsD _) (cS rfl (.cons (WkV.nilsD _) (.cons (WkV.nilsD _) (cS rfl (cS rfl (.cons (WkV.nilsD _) (cS rfl (cS rfl (cS rfl .nil))))))))))))))) .nil) rfl) pc9 ?_;refine Z 19 0 ?_;refine Rn.weak (by show WeakSt Γ _ ⟨look [(0,(b_ false)),(1,.ptr (Γ.n0+1) 0),(2,.ptr (Γ.n0+2) 0),(3,(b_ r5)),(4,(i_ r6)),(5,.ptr (Γ.n0+5) 0),(6,(i_ r9)),(7,(i_ r10)),(11,.agg [(l_ x2.Plant.zB),(i_ x2.Plant.zF),.nils 1,(Qh x2.Plant.zD),.nils 1,(i_ x2.Ambient.zF),.nils 1,.nils 3,(l_ x2.Requirement.zB),(i_ x2.Requirement.zF),.nils 1,(Qh x2.Requirement.zD),(l_ x2.Observable),(l_ x2.Controllable)]),(12,.tup [(Qbc r4),(b_ r5),(i_ r6)]),(13,.agg [(l_ x2.Plant.zB),(i_ x2.Plant.zF),.nils 1,(Qh x2.Plant.zD),.nils 1,(i_ x2.Ambient.zF),.nils 1,.nils 3,(l_ x2.Requirement.zB),(i_ x2.Requirement.zF),.nils 1,(Qh x2.Requirement.zD),(l_ x2.Observable),(l_ x2.Controllable)]),(14,.tup [(Qbc r4),(b_ r5),(i_ r6)]),(15,(Qbc r4)),(16,(b_ r5)),(17,(i_ r6)),(18,.tup [(Qe r8),(i_ r9),(i_ r10)]),(19,.agg [(l_ x2.Plant.zB),(i_ x2.Plant.zF),.nils 1,(Qh x2.Plant.zD),.nils 1,(i_ x2.Ambient.zF),.nils 1,.nils 3,(l_ x2.Requirement.zB),(i_ x2.Requirement.zF),.nils 1,(Qh x2.Requirement.zD),(l_ x2.Observable),(l_ x2.Controllable)]),(20,.tup [(Qe r8),(i_ r9),(i_ r10)]),(21,(Qe r8)),(22,(i_ r9)),(23,(i_ r10)),(24,(l_ [1])),(25,.ptr (Γ.n0+1) 4),(26,.ptr (Γ.n0+1) 4),(28,.agg [(l_ x2.Plant.zB),(i_ x2.Plant.zF),.nils 1,(Qh x2.Plant.zD),(l_ [1]),(i_ x2.Ambient.zF),.nils 1,.nils 3,(l_ x2.Requirement.zB),(i_ x2.Requirement.zF),.nils 1,(Qh x2.Requirement.zD),(l_ x2.Observable),(l_ x2.Controllable)])],Qo Γ.n0 (bxs [(1,.cells ([(l_ x2.Plant.zB),(i_ x2.Plant.zF),.nils 1,(Qh x2.Plant.zD),(l_ [1]),(i_ x2.Ambient.zF),.nils 1,.nils 3,(l_ x2.Requirement.zB),(i_ x2.Requirement.zF),.nils 1,(Qh x2.Requirement.zD),(l_ x2.Observable),(l_ x2.Controllable)])),(2,.cells ((Qe6 r4))),(5,.cells ((Qr r8)))]) M,Γ.n0+82⟩;exact Qcn 24 [.int .i64 1] rfl rfl ⟨sq,(fPtr rfl),(fPtr rfl),sq,sq,(fPtr rfl),sq,sq,sq,sq,sq,sq,sq,sq,sq,sq,sq,sq,sq,sq,sq,(fSl rfl rfl),(fPtr rfl),(fPtr rfl),(WkV.agg (cS rfl (cS rfl (cS rfl (cS rfl (.cons (fSl rfl rfl) (cS rfl (cS rfl (cS rfl (cS rfl (cS rfl (cS rfl (cS rfl (cS rfl (cS rfl .nil))))))))))))))),tv⟩ ⟨⟨_,rfl,rfl,(cS rfl (cS rfl (cS rfl (cS rfl (.cons (fSl rfl rfl) (cS rfl (cS rfl (cS rfl (cS rfl (cS rfl (cS rfl (cS rfl (cS rfl (cS rfl .nil))))))))))))))⟩,bS rfl rfl rfl,bS rfl rfl rfl,tv⟩ rfl) ?_;obtain ⟨⟨r12,r13,r14⟩,h11,h⟩:=bnd h;refine Rn.call (args:=[.agg [(l_ x2.Plant.zB),(i_ x2.Plant.zF),.nils 1,(Qh x2.Plant.zD),(l_ [1]),(i_ x2.Ambient.zF),.nils 1,.nils 3,(l_ x2.Requirement.zB),(i_ x2.Requirement.zF),.nils 1,(Qh x2.Requirement.zD),(l_ x2.Observable),(l_ x2.Controllable)]]) tv rfl (fun M2 nb2=>ACalls.weak (args':=[.agg [(l_ x2.Plant.zB),(i_ x2.Plant.zF),(l_ []),(Qh x2.Plant.zD),(l_ [1]),(i_ x2.Ambient.zF),(l_ []),.d (.lst 3 (List.map Ql [])),(l_ x2.Requirement.zB),(i_ x2.Requirement.zF),(l_ []),(Qh x2.Requirement.zD),(l_ x2.Observable),(l_ x2.Controllable)]]) (Hcg _ _ h11 M2 nb2) (.cons (WkV.agg (cS rfl (cS rfl (.cons (WkV.nilsD _) (cS rfl (cS rfl (cS rfl (.cons (WkV.nilsD _) (.cons (WkV.nilsD _) (cS rfl (cS rfl (.cons (WkV.nilsD _) (cS rfl (cS rfl (cS rfl .nil))))))))))))))) .nil) rfl) pc9 ?_;refine Z 9 0 ?_;refine cw h [] [1,2,5,8] (fun x29 e=>(0,(b_ x29))::e) (fun _ l=>l) ke (fun _ h=>?_) (fun x29 h=>Y);refine Z 4 0 ?_;refine bs h (fun _ h=>?_) (fun _ h=>Y);refine Z 4 0 ?_;refine bs h (fun _ h=>Y) (fun _ h=>?_);refine Z 3 0 ?_;refine Rn.weak (by show WeakSt Γ _ ⟨look [(0,(b_ false)),(1,.ptr (Γ.n0+1) 0),(2,.ptr (Γ.n0+2) 0),(3,(b_ r5)),(4,(i_ r6)),(5,.ptr (Γ.n0+5) 0),(6,(i_ r9)),(7,(i_ r10)),(8,.ptr (Γ.n0+8) 0),(9,(b_ r13)),(10,(i_ r14)),(11,.agg [(l_ x2.Plant.zB),(i_ x2.Plant.zF),.nils 1,(Qh x2.Plant.zD),.nils 1,(i_ x2.Ambient.zF),.nils 1,.nils 3,(l_ x2.Requirement.zB),(i_ x2.Requirement.zF),.nils 1,(Qh x2.Requirement.zD),(l_ x2.Observable),(l_ x2.Controllable)]),(12,.tup [(Qbc r4),(b_ r5),(i_ r6)]),(13,.agg [(l_ x2.Plant.zB),(i_ x2.Plant.zF),.nils 1,(Qh x2.Plant.zD),.nils 1,(i_ x2.Ambient.zF),.nils 1,.nils 3,(l_ x2.Requirement.zB),(i_ x2.Requirement.zF),.nils 1,(Qh x2.Requirement.zD),(l_ x2.Observable),(l_ x2.Controllable)]),(14,.tup [(Qbc r4),(b_ r5),(i_ r6)]),(15,(Qbc r4)),(16,(b_ r5)),(17,(i_ r6)),(18,.tup [(Qe r8),(i_ r9),(i_ r10)]),(19,.agg [(l_ x2.Plant.zB),(i_ x2.Plant.zF),.nils 1,(Qh x2.Plant.zD),.nils 1,(i_ x2.Ambient.zF),.nils 1,.nils 3,(l_ x2.Requirement.zB),(i_ x2.Requirement.zF),.nils 1,(Qh x2.Requirement.zD),(l_ x2.Observable),(l_ x2.Controllable)]),(20,.tup [(Qe r8),(i_ r9),(i_ r10)]),(21,(Qe r8)),(22,(i_ r9)),(23,(i_ r10)),(24,(l_ [1])),(25,.ptr (Γ.n0+1) 4),(26,.ptr (Γ.n0+1) 4),(27,.tup [(Qbc r12),(b_ r13),(i_ r14)]),(28,.agg [(l_ x2.Plant.zB),(i_ x2.Plant.zF),.nils 1,(Qh x2.Plant.zD),(l_ [1]),(i_ x2.Ambient.zF),.nils 1,.nils 3,(l_ x2.Requirement.zB),(i_ x2.Requirement.zF),.nils 1,(Qh x2.Requirement.zD),(l_ x2.Observable),(l_ x2.Controllable)]),(29,.tup [(Qbc r12),(b_ r13),(i_ r14)]),(30,(Qbc r12)),(31,(b_ r13)),(32,(i_ r14)),(33,(i_ r6)),(34,(b_ (r6==0))),(35,(b_ (r6==0))),(36,(b_ r5)),(37,(b_ (!r5))),(38,(b_ (!r5))),(39,(b_ (!r5))),(40,.ptr (Γ.n0+2) 0),(41,(l_ r4.Word)),(42,(l_ [0]))],Qo Γ.n0 (bxs [(1,.cells ([(l_ x2.Plant.zB),(i_ x2.Plant.zF),.nils 1,(Qh x2.Plant.zD),(l_ [1]),(i_ x2.Ambient.zF),.nils 1,.nils 3,(l_ x2.Requirement.zB),(i_ x2.Requirement.zF),.nils 1,(Qh x2.Requirement.zD),(l_ x2.Observable),(l_ x2.Controllable)])),(2,.cells ((Qe6 r4))),(5,.cells ((Qr r8))),(8,.cells ((Qe6 r12)))]) M,Γ.n0+82⟩;exact Qcn 42 [.int .i64 0] rfl rfl ⟨sq,(fPtr rfl),(fPtr rfl),sq,sq,(fPtr rfl),sq,sq,(fPtr rfl),sq,sq,sq,sq,sq,sq,sq,sq,sq,sq,sq,sq,sq,sq,sq,sq,(fPtr rfl),(fPtr rfl),sq,sq,sq,sq,sq,sq,sq,sq,sq,sq,sq,sq,sq,(fPtr rfl),sq,(fSl rfl rfl),tv⟩ ⟨bS rfl rfl rfl,bS rfl rfl rfl,bS rfl rfl rfl,bS rfl rfl rfl,tv⟩ rfl) ?_;refine cl (Hbq _ _) h (cq fun x18 h=>?_);refine Z 2 0 ?_;refine bs h (fun _ h=>?_) (fun _ h=>Y);refine Z 3 0 ?_;refine Rn.weak (by show WeakSt Γ _ ⟨look [(0,(b_ false)),(1,.ptr (Γ.n0+1) 0),(2,.ptr (Γ.n0+2) 0),(3,(b_ r5)),(4,(i_ r6)),(5,.ptr (Γ.n0+5) 0),(6,(i_ r9)),(7,(i_ r10)),(8,.ptr (Γ.n0+8) 0),(9,(b_ r13)),(10,(i_ r14)),(11,.agg [(l_ x2.Plant.zB),(i_ x2.Plant.zF),.nils 1,(Qh x2.Plant.zD),.nils 1,(i_ x2.Ambient.zF),.nils 1,.nils 3,(l_ x2.Requirement.zB),(i_ x2.Requirement.zF),.nils 1,(Qh x2.Requirement.zD),(l_ x2.Observable),(l_ x2.Controllable)]),(12,.tup [(Qbc r4),(b_ r5),(i_ r6)]),(13,.agg [(l_ x2.Plant.zB),(i_ x2.Plant.zF),.nils 1,(Qh x2.Plant.zD),.nils 1,(i_ x2.Ambient.zF),.nils 1,.nils 3,(l_ x2.Requirement.zB),(i_ x2.Requirement.zF),.nils 1,(Qh x2.Requirement.zD),(l_ x2.Observable),(l_ x2.Controllable)]),(14,.tup [(Qbc r4),(b_ r5),(i_ r6)]),(15,(Qbc r4)),(16,(b_ r5)),(17,(i_ r6)),(18,.tup [(Qe r8),(i_ r9),(i_ r10)]),(19,.agg [(l_ x2.Plant.zB),(i_ x2.Plant.zF),.nils 1,(Qh x2.Plant.zD),.nils 1,(i_ x2.Ambient.zF),.nils 1,.nils 3,(l_ x2.Requirement.zB),(i_ x2.Requirement.zF),.nils 1,(Qh x2.Requirement.zD),(l_ x2.Observable),(l_ x2.Controllable)]),(20,.tup [(Qe r8),(i_ r9),(i_ r10)]),(21,(Qe r8)),(22,(i_ r9)),(23,(i_ r10)),(24,(l_ [1])),(25,.ptr (Γ.n0+1) 4),(26,.ptr (Γ.n0+1) 4),(27,.tup [(Qbc r12),(b_ r13),(i_ r14)]),(28,.agg [(l_ x2.Plant.zB),(i_ x2.Plant.zF),.nils 1,(Qh x2.Plant.zD),(l_ [1]),(i_ x2.Ambient.zF),.nils 1,.nils 3,(l_ x2.Requirement.zB),(i_ x2.Requirement.zF),.nils 1,(Qh x2.Requirement.zD),(l_ x2.Observable),(l_ x2.Controllable)]),(29,.tup [(Qbc r12),(b_ r13),(i_ r14)]),(30,(Qbc r12)),(31,(b_ r13)),(32,(i_ r14)),(33,(i_ r6)),(34,(b_ (r6==0))),(35,(b_ (r6==0))),(36,(b_ r5)),(37,(b_ (!r5))),(38,(b_ (!r5))),(39,(b_ (!r5))),(40,.ptr (Γ.n0+2) 0),(41,(l_ r4.Word)),(42,(l_ [0])),(43,(b_ x18)),(44,(b_ x18)),(45,(b_ x18)),(46,.ptr (Γ.n0+2) 1),(47,(l_ r4.Other)),(48,(l_ [1]))],Qo Γ.n0 (bxs [(1,.cells ([(l_ x2.Plant.zB),(i_ x2.Plant.zF),.nils 1,(Qh x2.Plant.zD),(l_ [1]),(i_ x2.Ambient.zF),.nils 1,.nils 3,(l_ x2.Requirement.zB),(i_ x2.Requirement.zF),.nils 1,(Qh x2.Requirement.zD),(l_ x2.Observable),(l_ x2.Controllable)])),(2,.cells ((Qe6 r4))),(5,.cells ((Qr r8))),(8,.cells ((Qe6 r12)))]) M,Γ.n0+82⟩;exact Qcn 48 [.int .i64 1] rfl rfl ⟨sq,(fPtr rfl),(fPtr rfl),sq,sq,(fPtr rfl),sq,sq,(fPtr rfl),sq,sq,sq,sq,sq,sq,sq,sq,sq,sq,sq,sq,sq,sq,sq,sq,(fPtr rfl),(fPtr rfl),sq,sq,sq,sq,sq,sq,sq,sq,sq,sq,sq,sq,sq,(fPtr rfl),sq,sq,sq,sq,sq,(fPtr rfl),sq,(fSl rfl rfl),tv⟩ ⟨bS rfl rfl rfl,bS rfl rfl rfl,bS rfl rfl rfl,bS rfl rfl rfl,tv⟩ rfl) ?_;refine cl (Hbq _ _) h (cq fun _ h=>?_);refine Z 2 0 ?_;refine bs h (fun _ h=>?_) (fun _ h=>Y);refine Z 5 0 ?_;refine bs h (fun _ h=>?_) (fun _ h=>Y);refine Z 4 0 ?_;refine bs h (fun _ h=>?_) (fun _ h=>Y);refine Z 4 0 ?_;refine bs h (fun _ h=>?_) (fun _ h=>Y);refine Z 5 0 ?_;refine bs h (fun _ h=>?_) (fun _ h=>Y);refine Z 6 0 ?_;refine bs h (fun _ h=>?_) (fun _ h=>Y);refine Z 4 0 ?_;exact bs h (fun _ h=>Y) (fun _ h=>Y)
theorem Qov {P:Program} {c:Nat} (hcf:Qn P c=some Qj4) (fuel:Nat):Qha P c (Qbg fuel):=by
 intro s1 r h;refine Qbs hcf rfl fun Γ M hP hnt hM=>?_;subst hP;refine ini ?_;refine Z 8 0 ?_;refine cw h [] [] (fun ov12 e=>(3,(o_ ov12))::e) (fun _ l=>l) ke (fun _ h=>?_) (fun ov12 h=>Y);refine Z 5 0 ?_;refine lw h [0] [] (fun (ov2,i3) e=>(3,(o_ ov2))::(4,(i_ i3))::e) (fun _ l=>l) ke wk (fun _ ⟨ov2,i3⟩ h=>?_);refine Z 6 0 ?_;refine ci h rfl (fun h=>?_) (fun h=>Y);refine Tr.skip ?_;refine cw h [0,4] [] (fun ov11 e=>(3,(o_ ov11))::e) (fun _ l=>l) ke (fun _ h=>?_) (fun ov11 h=>Y);refine Z 5 0 ?_;obtain ⟨s6,h7,h⟩:=bnd h;refine Rn.bin tv rfl rfl (Qbgt h7) ?_;refine Z 3 0 ?_;exact cd h rfl (fun h=>Y) (fun h=>Y)
theorem Qtr {P:Program} {c:Nat} (hcf:Qn P c=some Qog):Qhk P c (Qbl):=by
 intro av1 r h;refine Qbs hcf rfl fun Γ M hP hnt hM=>?_;subst hP;refine ini ?_;refine Z 9 1 ?_;intro x2 h;refine Rn.buildT (v:=.agg [(o_ x2),(i_ 0),.nils 1,.nils 3]) tv rfl ?_;exact Y
theorem Quq {P:Program} {c:Nat} (hcf:Qn P c=some Qo2) (fuel:Nat):Qgh P c (Q2 fuel):=by
 intro a1 sv2 ev3 r h;refine Qbs hcf rfl fun Γ M hP hnt hM=>?_;subst hP;refine ini ?_;refine Z 11 0 ?_;refine lw h [1,2,3] [3] (fun i4 e=>(7,(i_ i4))::e) (fun _ l=>l) ke wk (fun _ i4 h=>?_);refine Z 9 0 ?_;refine ci h rfl (fun h=>?_) (fun h=>Y);refine Z 3 0 ?_;refine cw h [1,2,3,7] [3] (fun x12 e=>(32,(b_ x12))::e) (fun _ l=>l) ke (fun _ h=>?_) (fun x12 h=>?_)
 ·refine Z 10 1 ?_;intro _ h;exact bs h (fun _ h=>Y) (fun _ h=>Y)
 ·exact cd h rfl (fun h=>Y) (fun h=>Y)
theorem Qvu {P:Program} {c:Nat} (hcf:Qn P c=some Qqp) (fuel:Nat):Qim P c (Qb1 fuel):=by
 intro l1 n2 r h;refine Qbs hcf rfl fun Γ M hP hnt hM=>?_;subst hP;refine ini ?_;refine Z 10 0 ?_;refine lw h [0,1] [] (fun i3 e=>(5,(i_ i3))::e) (fun _ l=>l) ke wk (fun _ i3 h=>?_);refine Z 8 0 ?_;refine ci h rfl (fun h=>?_) (fun h=>Y);refine Z 12 1 ?_;intro _ h;exact cd h rfl (fun h=>Y) (fun h=>Y)
theorem Qts {P:Program} {c:Nat} {Qb1:_} {Q2:_}
    (Hbs:Qim P 47 Qb1)
    (Hbr:Qgh P 72 Q2) (hcf:Qn P c=some Qoh) (fuel:Nat):Qjn P c (Qde Qb1 Q2 fuel):=by
 intro a1 r h;refine Qbs hcf rfl fun Γ M hP hnt hM=>?_;subst hP;refine ini ?_;refine Z 9 0 ?_;refine cw h [1] [1] (fun ov5 e=>(3,(o_ ov5))::e) (fun _ l=>l) ke (fun _ h=>?_) (fun ov5 h=>?_)
 ·refine Z 6 0 ?_;refine ci h rfl (fun h=>?_) (fun h=>Y);refine Z 3 0 ?_;refine Rn.weak (wS [0,1,2,3,7,8,9,11] [1,11] (fun e=>(10,.own 1 (List.map (eI .i64) []))::e) (fun l=>l) ke wk) ?_;exact Y
 ·refine cw h [] [1] (fun ov29 e=>(3,(o_ ov29))::e) (fun _ l=>l) ke (fun _ h=>?_) (fun ov29 h=>Y);refine Z 5 0 ?_;refine lw h [1] [1] (fun (ov6,i7) e=>(3,(o_ ov6))::(4,(i_ i7))::e) (fun _ l=>l) ke wk (fun _ ⟨ov6,i7⟩ h=>?_);refine Z 8 0 ?_;refine ci h rfl (fun h=>?_) (fun h=>Y);refine Tr.skip ?_;refine cw h [1,4] [1] (fun ov28 e=>(3,(o_ ov28))::e) (fun _ l=>l) ke (fun _ h=>?_) (fun ov28 h=>Y);refine Z 6 0 ?_;refine lw h [1,4] [1] (fun (ov10,k11) e=>(3,(o_ ov10))::(5,(i_ k11))::e) (fun _ l=>l) ke wk (fun _ ⟨ov10,k11⟩ h=>?_);refine Z 9 0 ?_;refine ci h rfl (fun h=>?_) (fun h=>Y);refine Tr.skip ?_;refine cw h [1,4,5] [1] (fun ov27 e=>(3,(o_ ov27))::e) (fun _ l=>l) ke (fun _ h=>?_) (fun ov27 h=>Y);refine Z 13 1 ?_;intro _ _ h;refine cl (Hbr _ _ _) h (cq fun _ h=>?_);refine Z 2 0 ?_;refine cw h [1,3,4,5,6] [1] (fun x23 e=>(44,(b_ x23))::e) (fun _ l=>l) ke (fun _ h=>?_) (fun x23 h=>?_)
  ·refine Z 4 0 ?_;refine bi h (fun _ h=>?_) (fun _ h=>Y);refine Z 2 0 ?_;refine cl (Hbs _ _) h (cq fun _ h=>?_);exact Y
  ·exact cd h rfl (fun h=>Y) (fun h=>Y)
theorem Qtt {P:Program} {c:Nat} (hcf:Qn P c=some Qoi) (fuel:Nat):Qjo P c (Qdf fuel):=by
 intro l1 n2 r h;refine Qbs hcf rfl fun Γ M hP hnt hM=>?_;subst hP;refine ini ?_;refine Z 10 0 ?_;refine lw h [0,1] [] (fun i3 e=>(5,(i_ i3))::e) (fun _ l=>l) ke wk (fun _ i3 h=>?_);refine Z 8 0 ?_;refine ci h rfl (fun h=>?_) (fun h=>Y);refine Z 12 1 ?_;intro _ h;exact cd h rfl (fun h=>Y) (fun h=>Y)
theorem Qpl {P:Program} {c:Nat} {Qb1:_} {Q2:_} {Qbl:_} {Qde:_} {Qdf:_}
    (Hbs:Qim P 47 Qb1)
    (Hbr:Qgh P 72 Q2)
    (Hbm:Qhk P 86 Qbl)
    (Hbn:Qjn P 129 Qde)
    (Hbt:Qjo P 130 Qdf) (hcf:Qn P c=some Qkq) (fuel:Nat):Qfu P c (Q7 Qb1 Q2 Qbl Qde Qdf fuel):=by
 intro a1 r h;refine Qbs hcf rfl fun Γ M hP hnt hM=>?_;subst hP;refine ini ?_;refine Z 8 0 ?_;refine cl (Hbn _) h (cq fun x3 h=>?_);refine Z 6 0 ?_;refine cl (Hbm _) h (cq fun x5 h=>?_);refine Z 10 0 ?_;refine cw h [2,4] [1] (fun _ e=>e) (fun (c42,c43,c44,ov45,ov46) l=>(2,.cells ([(o_ c42),(i_ 0),(o_ c43),(Qp c44)]))::(4,.cells ([(l_ x5.zB),(i_ (x3.length:Int)),(o_ ov45),(Qp ov46)]))::l) ke (fun _ h=>?_) (fun ⟨c42,c43,c44,ov45,ov46⟩ h=>Y);refine Z 5 0 ?_;refine lw h [1,2,3,4] [1] (fun (i6,c7,c8,c9,ov10,ov11) e=>(5,(i_ i6))::e) (fun (i6,c7,c8,c9,ov10,ov11) l=>(2,.cells ([(o_ c7),(i_ 0),(o_ c8),(Qp c9)]))::(4,.cells ([(l_ x5.zB),(i_ (x3.length:Int)),(o_ ov10),(Qp ov11)]))::l) ke wk (fun _ ⟨i6,c7,c8,c9,ov10,ov11⟩ h=>?_);refine Z 8 0 ?_;refine ci h rfl (fun h=>?_) (fun h=>Y);refine Tr.skip ?_;refine cw h [1,2,3,4,5] [1,2] (fun _ e=>e) (fun (ov40,ov41) l=>(4,.cells ([(l_ x5.zB),(i_ (x3.length:Int)),(o_ ov40),(Qp ov41)]))::l) ke (fun _ h=>?_) (fun ⟨ov40,ov41⟩ h=>Y);refine Tr.block ?_;refine cw h [1,2,3,4,5] [1,2] (fun _ e=>e) (fun ov21 l=>(4,.cells ([(l_ x5.zB),(i_ (x3.length:Int)),(o_ ov21),(Qp ov11)]))::l) ke (fun _ h=>?_) (fun ov21 h=>?_)
 ·refine Z 8 1 ?_;intro _ h;refine cl (Hbs _ _) h (cq fun _ h=>?_);refine Z 1 0 ?_;exact cd h rfl (fun h=>Y) (fun h=>Y)
 ·refine Z 5 0 ?_;refine lw h [1,2,3,4,5] [1,2] (fun (k22,ov23) e=>(6,(i_ k22))::e) (fun (k22,ov23) l=>(4,.cells ([(l_ x5.zB),(i_ (x3.length:Int)),(o_ ov21),(Qp ov23)]))::l) ke wk (fun _ ⟨k22,ov23⟩ h=>?_);refine Z 9 0 ?_;refine ci h rfl (fun h=>?_) (fun h=>Y);refine Tr.skip ?_;refine cw h [1,2,3,4,5,6] [1,2] (fun _ e=>e) (fun ov39 l=>(4,.cells ([(l_ x5.zB),(i_ (x3.length:Int)),(o_ ov21),(Qp ov39)]))::l) ke (fun _ h=>?_) (fun ov39 h=>Y);refine Z 13 1 ?_;intro _ _ h;refine cl (Hbr _ _ _) h (cq fun _ h=>?_);refine Z 7 0 ?_;refine ci h rfl (fun h=>?_) (fun h=>Y);refine Z 11 1 ?_;intro _ h;refine cl (Hbt _ _) h (cq fun _ h=>?_);exact Y
theorem Qur {P:Program} {c:Nat} {Qbl:_} {Q7:_}
    (Hbm:Qhk P 86 Qbl)
    (Hbk:Qfu P 87 Q7) (hcf:Qn P c=some Qo3) (fuel:Nat):Qkc P c (Qck Qbl Q7 fuel):=by
 intro av1 g2 r h;refine Qbs hcf rfl fun Γ M hP hnt hM=>?_;subst hP;refine ini ?_;refine Z 12 0 ?_;refine ci h rfl (fun h=>?_) (fun h=>?_)
 ·refine Z 3 0 ?_;refine cl (Hbm _) h (cq fun _ h=>?_);exact Y
 ·refine Z 4 0 ?_;refine cl (Hbm _) h (cq fun x7 h=>?_);refine Z 13 0 ?_;refine cw h [4,5] [3] (fun _ e=>e) (fun (c43,c44,c45,a46,a47,a48) l=>(4,.cells ([(o_ c43),(i_ 0),(o_ c44),(Qp c45)]))::(5,.cells ([(l_ x7.zB),(i_ a46),(o_ a47),(Qp a48)]))::l) ke (fun _ h=>?_) (fun ⟨c43,c44,c45,a46,a47,a48⟩ h=>?_)
  ·refine Z 5 0 ?_;refine lw h [0,3,4,5] [3] (fun (i8,c9,c10,c11,a12,a13,a14) e=>(6,(i_ i8))::e) (fun (i8,c9,c10,c11,a12,a13,a14) l=>(4,.cells ([(o_ c9),(i_ 0),(o_ c10),(Qp c11)]))::(5,.cells ([(l_ x7.zB),(i_ a12),(o_ a13),(Qp a14)]))::l) ke wk (fun _ ⟨i8,c9,c10,c11,a12,a13,a14⟩ h=>?_);refine Z 8 0 ?_;refine ci h rfl (fun h=>?_) (fun h=>Y);refine Tr.skip ?_;refine cw h [0,3,4,5,6] [3,4] (fun _ e=>e) (fun (a41,a42) l=>(5,.cells ([(l_ x7.zB),(i_ a12),(o_ a41),(Qp a42)]))::l) ke (fun _ h=>?_) (fun ⟨a41,a42⟩ h=>Y);refine Tr.block ?_;refine cw h [0,3,4,5,6] [3,4] (fun _ e=>e) (fun a22 l=>(5,.cells ([(l_ x7.zB),(i_ a12),(o_ a22),(Qp a14)]))::l) ke (fun _ h=>?_) (fun a22 h=>?_)
   ·refine Z 5 0 ?_;obtain ⟨s17,h18,h⟩:=bnd h;refine Rn.bin tv rfl rfl (Qbgt h18) ?_;refine Z 3 0 ?_;exact cd h rfl (fun h=>Y) (fun h=>Y)
   ·refine Z 5 0 ?_;refine lw h [0,3,4,5,6] [3,4] (fun (k23,a24) e=>(7,(i_ k23))::e) (fun (k23,a24) l=>(5,.cells ([(l_ x7.zB),(i_ a12),(o_ a22),(Qp a24)]))::l) ke wk (fun _ ⟨k23,a24⟩ h=>?_);refine Tr.seq ?_;refine cw h [0,3,4,5,6,7] [3,4,5] (fun x27 e=>(47,(b_ x27))::e) (fun _ l=>l) ke (fun _ h=>?_) (fun x27 h=>?_)
    ·refine Z 6 0 ?_;exact bi h (fun _ h=>Y) (fun _ h=>Y)
    ·refine cd h rfl (fun h=>?_) (fun h=>Y);refine Tr.skip ?_;refine cw h [0,3,4,5,6,7] [3,4] (fun _ e=>e) (fun a40 l=>(5,.cells ([(l_ x7.zB),(i_ a12),(o_ a22),(Qp a40)]))::l) ke (fun _ h=>?_) (fun a40 h=>Y);refine Z 6 0 ?_;obtain ⟨⟨⟩,h29,h⟩:=bnd h;refine Rn.idxArr (o':=2+(Int.toNat i8*5)) tv rfl rfl rfl h29 ?_;obtain ⟨⟨⟩,h30,h⟩:=bnd h;refine Rn.idxArr (o':=2+(Int.toNat i8*5+Int.toNat k23*1)) tv rfl rfl (Nat.add_assoc ..).symm h30 ?_;obtain ⟨x31,h32,h⟩:=bnd h;refine Rn.loadArr (e:=(fun (z:Int)=>.int .u8 z)) (pre:=[.d (.int .u8 g2.zF),.d (.int .u8 g2.Marks)]) (post:=[]) tv rfl rfl (Qd8 rfl) rfl rfl h32 ?_;refine Z 4 0 ?_;obtain ⟨s33,h34,h⟩:=bnd h;refine Rn.bin tv rfl rfl (Q8n h34) ?_;refine Z 9 0 ?_;exact ci h rfl (fun h=>Y) (fun h=>Y)
  ·refine Z 3 0 ?_;refine cl (Hbk _) h (cq fun _ h=>?_);exact Y
theorem Qus {P:Program} {c:Nat} {Qbg:_} {Qck:_}
    (Hbe:Qha P 40 Qbg)
    (Hbd:Qkc P 41 Qck) (hcf:Qn P c=some Qo4) (fuel:Nat):Qkd P c (Qdo Qbg Qck fuel):=by
 intro s1 r h;refine Qbs hcf rfl fun Γ M hP hnt hM=>?_;subst hP;refine ini ?_;refine Z 8 0 ?_;refine Rn.k (v:=.ptr (Γ.n0+1) 0) tv rfl rfl rfl ?_;refine Z 1 0 ?_;refine cl (Hbe _) h (cq fun _ h=>?_);refine Z 2 0 ?_;refine cw h [1,2,3] [2] (fun _ e=>e) (fun (s29,s30,s31) l=>(1,.cells ([.d (.int .u8 s1.Sets.1),.d (.int .u8 s1.Sets.2.1),.d (.int .u8 s1.Sets.2.2.1),.d (.int .u8 s1.Sets.2.2.2.1),.d (.int .u8 s1.Sets.2.2.2.2),.d (.int .u8 s29),.d (.int .u8 s1.Graphs.1.Marks),.d (.int .u8 s1.Graphs.1.To.1.1),.d (.int .u8 s1.Graphs.1.To.1.2.1),.d (.int .u8 s1.Graphs.1.To.1.2.2.1),.d (.int .u8 s1.Graphs.1.To.1.2.2.2.1),.d (.int .u8 s1.Graphs.1.To.1.2.2.2.2),.d (.int .u8 s1.Graphs.1.To.2.1.1),.d (.int .u8 s1.Graphs.1.To.2.1.2.1),.d (.int .u8 s1.Graphs.1.To.2.1.2.2.1),.d (.int .u8 s1.Graphs.1.To.2.1.2.2.2.1),.d (.int .u8 s1.Graphs.1.To.2.1.2.2.2.2),.d (.int .u8 s1.Graphs.1.To.2.2.1.1),.d (.int .u8 s1.Graphs.1.To.2.2.1.2.1),.d (.int .u8 s1.Graphs.1.To.2.2.1.2.2.1),.d (.int .u8 s1.Graphs.1.To.2.2.1.2.2.2.1),.d (.int .u8 s1.Graphs.1.To.2.2.1.2.2.2.2),.d (.int .u8 s1.Graphs.1.To.2.2.2.1.1),.d (.int .u8 s1.Graphs.1.To.2.2.2.1.2.1),.d (.int .u8 s1.Graphs.1.To.2.2.2.1.2.2.1),.d (.int .u8 s1.Graphs.1.To.2.2.2.1.2.2.2.1),.d (.int .u8 s1.Graphs.1.To.2.2.2.1.2.2.2.2),.d (.int .u8 s1.Graphs.1.To.2.2.2.2.1),.d (.int .u8 s1.Graphs.1.To.2.2.2.2.2.1),.d (.int .u8 s1.Graphs.1.To.2.2.2.2.2.2.1),.d (.int .u8 s1.Graphs.1.To.2.2.2.2.2.2.2.1),.d (.int .u8 s1.Graphs.1.To.2.2.2.2.2.2.2.2),.d (.int .u8 s30),.d (.int .u8 s1.Graphs.2.1.Marks),.d (.int .u8 s1.Graphs.2.1.To.1.1),.d (.int .u8 s1.Graphs.2.1.To.1.2.1),.d (.int .u8 s1.Graphs.2.1.To.1.2.2.1),.d (.int .u8 s1.Graphs.2.1.To.1.2.2.2.1),.d (.int .u8 s1.Graphs.2.1.To.1.2.2.2.2),.d (.int .u8 s1.Graphs.2.1.To.2.1.1),.d (.int .u8 s1.Graphs.2.1.To.2.1.2.1),.d (.int .u8 s1.Graphs.2.1.To.2.1.2.2.1),.d (.int .u8 s1.Graphs.2.1.To.2.1.2.2.2.1),.d (.int .u8 s1.Graphs.2.1.To.2.1.2.2.2.2),.d (.int .u8 s1.Graphs.2.1.To.2.2.1.1),.d (.int .u8 s1.Graphs.2.1.To.2.2.1.2.1),.d (.int .u8 s1.Graphs.2.1.To.2.2.1.2.2.1),.d (.int .u8 s1.Graphs.2.1.To.2.2.1.2.2.2.1),.d (.int .u8 s1.Graphs.2.1.To.2.2.1.2.2.2.2),.d (.int .u8 s1.Graphs.2.1.To.2.2.2.1.1),.d (.int .u8 s1.Graphs.2.1.To.2.2.2.1.2.1),.d (.int .u8 s1.Graphs.2.1.To.2.2.2.1.2.2.1),.d (.int .u8 s1.Graphs.2.1.To.2.2.2.1.2.2.2.1),.d (.int .u8 s1.Graphs.2.1.To.2.2.2.1.2.2.2.2),.d (.int .u8 s1.Graphs.2.1.To.2.2.2.2.1),.d (.int .u8 s1.Graphs.2.1.To.2.2.2.2.2.1),.d (.int .u8 s1.Graphs.2.1.To.2.2.2.2.2.2.1),.d (.int .u8 s1.Graphs.2.1.To.2.2.2.2.2.2.2.1),.d (.int .u8 s1.Graphs.2.1.To.2.2.2.2.2.2.2.2),.d (.int .u8 s31),.d (.int .u8 s1.Graphs.2.2.Marks),.d (.int .u8 s1.Graphs.2.2.To.1.1),.d (.int .u8 s1.Graphs.2.2.To.1.2.1),.d (.int .u8 s1.Graphs.2.2.To.1.2.2.1),.d (.int .u8 s1.Graphs.2.2.To.1.2.2.2.1),.d (.int .u8 s1.Graphs.2.2.To.1.2.2.2.2),.d (.int .u8 s1.Graphs.2.2.To.2.1.1),.d (.int .u8 s1.Graphs.2.2.To.2.1.2.1),.d (.int .u8 s1.Graphs.2.2.To.2.1.2.2.1),.d (.int .u8 s1.Graphs.2.2.To.2.1.2.2.2.1),.d (.int .u8 s1.Graphs.2.2.To.2.1.2.2.2.2),.d (.int .u8 s1.Graphs.2.2.To.2.2.1.1),.d (.int .u8 s1.Graphs.2.2.To.2.2.1.2.1),.d (.int .u8 s1.Graphs.2.2.To.2.2.1.2.2.1),.d (.int .u8 s1.Graphs.2.2.To.2.2.1.2.2.2.1),.d (.int .u8 s1.Graphs.2.2.To.2.2.1.2.2.2.2),.d (.int .u8 s1.Graphs.2.2.To.2.2.2.1.1),.d (.int .u8 s1.Graphs.2.2.To.2.2.2.1.2.1),.d (.int .u8 s1.Graphs.2.2.To.2.2.2.1.2.2.1),.d (.int .u8 s1.Graphs.2.2.To.2.2.2.1.2.2.2.1),.d (.int .u8 s1.Graphs.2.2.To.2.2.2.1.2.2.2.2),.d (.int .u8 s1.Graphs.2.2.To.2.2.2.2.1),.d (.int .u8 s1.Graphs.2.2.To.2.2.2.2.2.1),.d (.int .u8 s1.Graphs.2.2.To.2.2.2.2.2.2.1),.d (.int .u8 s1.Graphs.2.2.To.2.2.2.2.2.2.2.1),.d (.int .u8 s1.Graphs.2.2.To.2.2.2.2.2.2.2.2)]))::l) ke (fun _ h=>?_) (fun ⟨s29,s30,s31⟩ h=>?_)
 ·refine Z 5 0 ?_;refine lw h [1,2,3] [2] (fun (i4,s5,s6,s7) e=>(4,(i_ i4))::e) (fun (i4,s5,s6,s7) l=>(1,.cells ([.d (.int .u8 s1.Sets.1),.d (.int .u8 s1.Sets.2.1),.d (.int .u8 s1.Sets.2.2.1),.d (.int .u8 s1.Sets.2.2.2.1),.d (.int .u8 s1.Sets.2.2.2.2),.d (.int .u8 s5),.d (.int .u8 s1.Graphs.1.Marks),.d (.int .u8 s1.Graphs.1.To.1.1),.d (.int .u8 s1.Graphs.1.To.1.2.1),.d (.int .u8 s1.Graphs.1.To.1.2.2.1),.d (.int .u8 s1.Graphs.1.To.1.2.2.2.1),.d (.int .u8 s1.Graphs.1.To.1.2.2.2.2),.d (.int .u8 s1.Graphs.1.To.2.1.1),.d (.int .u8 s1.Graphs.1.To.2.1.2.1),.d (.int .u8 s1.Graphs.1.To.2.1.2.2.1),.d (.int .u8 s1.Graphs.1.To.2.1.2.2.2.1),.d (.int .u8 s1.Graphs.1.To.2.1.2.2.2.2),.d (.int .u8 s1.Graphs.1.To.2.2.1.1),.d (.int .u8 s1.Graphs.1.To.2.2.1.2.1),.d (.int .u8 s1.Graphs.1.To.2.2.1.2.2.1),.d (.int .u8 s1.Graphs.1.To.2.2.1.2.2.2.1),.d (.int .u8 s1.Graphs.1.To.2.2.1.2.2.2.2),.d (.int .u8 s1.Graphs.1.To.2.2.2.1.1),.d (.int .u8 s1.Graphs.1.To.2.2.2.1.2.1),.d (.int .u8 s1.Graphs.1.To.2.2.2.1.2.2.1),.d (.int .u8 s1.Graphs.1.To.2.2.2.1.2.2.2.1),.d (.int .u8 s1.Graphs.1.To.2.2.2.1.2.2.2.2),.d (.int .u8 s1.Graphs.1.To.2.2.2.2.1),.d (.int .u8 s1.Graphs.1.To.2.2.2.2.2.1),.d (.int .u8 s1.Graphs.1.To.2.2.2.2.2.2.1),.d (.int .u8 s1.Graphs.1.To.2.2.2.2.2.2.2.1),.d (.int .u8 s1.Graphs.1.To.2.2.2.2.2.2.2.2),.d (.int .u8 s6),.d (.int .u8 s1.Graphs.2.1.Marks),.d (.int .u8 s1.Graphs.2.1.To.1.1),.d (.int .u8 s1.Graphs.2.1.To.1.2.1),.d (.int .u8 s1.Graphs.2.1.To.1.2.2.1),.d (.int .u8 s1.Graphs.2.1.To.1.2.2.2.1),.d (.int .u8 s1.Graphs.2.1.To.1.2.2.2.2),.d (.int .u8 s1.Graphs.2.1.To.2.1.1),.d (.int .u8 s1.Graphs.2.1.To.2.1.2.1),.d (.int .u8 s1.Graphs.2.1.To.2.1.2.2.1),.d (.int .u8 s1.Graphs.2.1.To.2.1.2.2.2.1),.d (.int .u8 s1.Graphs.2.1.To.2.1.2.2.2.2),.d (.int .u8 s1.Graphs.2.1.To.2.2.1.1),.d (.int .u8 s1.Graphs.2.1.To.2.2.1.2.1),.d (.int .u8 s1.Graphs.2.1.To.2.2.1.2.2.1),.d (.int .u8 s1.Graphs.2.1.To.2.2.1.2.2.2.1),.d (.int .u8 s1.Graphs.2.1.To.2.2.1.2.2.2.2),.d (.int .u8 s1.Graphs.2.1.To.2.2.2.1.1),.d (.int .u8 s1.Graphs.2.1.To.2.2.2.1.2.1),.d (.int .u8 s1.Graphs.2.1.To.2.2.2.1.2.2.1),.d (.int .u8 s1.Graphs.2.1.To.2.2.2.1.2.2.2.1),.d (.int .u8 s1.Graphs.2.1.To.2.2.2.1.2.2.2.2),.d (.int .u8 s1.Graphs.2.1.To.2.2.2.2.1),.d (.int .u8 s1.Graphs.2.1.To.2.2.2.2.2.1),.d (.int .u8 s1.Graphs.2.1.To.2.2.2.2.2.2.1),.d (.int .u8 s1.Graphs.2.1.To.2.2.2.2.2.2.2.1),.d (.int .u8 s1.Graphs.2.1.To.2.2.2.2.2.2.2.2),.d (.int .u8 s7),.d (.int .u8 s1.Graphs.2.2.Marks),.d (.int .u8 s1.Graphs.2.2.To.1.1),.d (.int .u8 s1.Graphs.2.2.To.1.2.1),.d (.int .u8 s1.Graphs.2.2.To.1.2.2.1),.d (.int .u8 s1.Graphs.2.2.To.1.2.2.2.1),.d (.int .u8 s1.Graphs.2.2.To.1.2.2.2.2),.d (.int .u8 s1.Graphs.2.2.To.2.1.1),.d (.int .u8 s1.Graphs.2.2.To.2.1.2.1),.d (.int .u8 s1.Graphs.2.2.To.2.1.2.2.1),.d (.int .u8 s1.Graphs.2.2.To.2.1.2.2.2.1),.d (.int .u8 s1.Graphs.2.2.To.2.1.2.2.2.2),.d (.int .u8 s1.Graphs.2.2.To.2.2.1.1),.d (.int .u8 s1.Graphs.2.2.To.2.2.1.2.1),.d (.int .u8 s1.Graphs.2.2.To.2.2.1.2.2.1),.d (.int .u8 s1.Graphs.2.2.To.2.2.1.2.2.2.1),.d (.int .u8 s1.Graphs.2.2.To.2.2.1.2.2.2.2),.d (.int .u8 s1.Graphs.2.2.To.2.2.2.1.1),.d (.int .u8 s1.Graphs.2.2.To.2.2.2.1.2.1),.d (.int .u8 s1.Graphs.2.2.To.2.2.2.1.2.2.1),.d (.int .u8 s1.Graphs.2.2.To.2.2.2.1.2.2.2.1),.d (.int .u8 s1.Graphs.2.2.To.2.2.2.1.2.2.2.2),.d (.int .u8 s1.Graphs.2.2.To.2.2.2.2.1),.d (.int .u8 s1.Graphs.2.2.To.2.2.2.2.2.1),.d (.int .u8 s1.Graphs.2.2.To.2.2.2.2.2.2.1),.d (.int .u8 s1.Graphs.2.2.To.2.2.2.2.2.2.2.1),.d (.int .u8 s1.Graphs.2.2.To.2.2.2.2.2.2.2.2)]))::l) ke wk (fun _ ⟨i4,s5,s6,s7⟩ h=>?_);refine Z 6 0 ?_;refine ci h rfl (fun h=>?_) (fun h=>Y);refine Tr.skip ?_;refine cw h [1,2,3] [2] (fun (i25,s26,s27,s28) e=>(4,(i_ i25))::e) (fun (i25,s26,s27,s28) l=>(1,.cells ([.d (.int .u8 s1.Sets.1),.d (.int .u8 s1.Sets.2.1),.d (.int .u8 s1.Sets.2.2.1),.d (.int .u8 s1.Sets.2.2.2.1),.d (.int .u8 s1.Sets.2.2.2.2),.d (.int .u8 s26),.d (.int .u8 s1.Graphs.1.Marks),.d (.int .u8 s1.Graphs.1.To.1.1),.d (.int .u8 s1.Graphs.1.To.1.2.1),.d (.int .u8 s1.Graphs.1.To.1.2.2.1),.d (.int .u8 s1.Graphs.1.To.1.2.2.2.1),.d (.int .u8 s1.Graphs.1.To.1.2.2.2.2),.d (.int .u8 s1.Graphs.1.To.2.1.1),.d (.int .u8 s1.Graphs.1.To.2.1.2.1),.d (.int .u8 s1.Graphs.1.To.2.1.2.2.1),.d (.int .u8 s1.Graphs.1.To.2.1.2.2.2.1),.d (.int .u8 s1.Graphs.1.To.2.1.2.2.2.2),.d (.int .u8 s1.Graphs.1.To.2.2.1.1),.d (.int .u8 s1.Graphs.1.To.2.2.1.2.1),.d (.int .u8 s1.Graphs.1.To.2.2.1.2.2.1),.d (.int .u8 s1.Graphs.1.To.2.2.1.2.2.2.1),.d (.int .u8 s1.Graphs.1.To.2.2.1.2.2.2.2),.d (.int .u8 s1.Graphs.1.To.2.2.2.1.1),.d (.int .u8 s1.Graphs.1.To.2.2.2.1.2.1),.d (.int .u8 s1.Graphs.1.To.2.2.2.1.2.2.1),.d (.int .u8 s1.Graphs.1.To.2.2.2.1.2.2.2.1),.d (.int .u8 s1.Graphs.1.To.2.2.2.1.2.2.2.2),.d (.int .u8 s1.Graphs.1.To.2.2.2.2.1),.d (.int .u8 s1.Graphs.1.To.2.2.2.2.2.1),.d (.int .u8 s1.Graphs.1.To.2.2.2.2.2.2.1),.d (.int .u8 s1.Graphs.1.To.2.2.2.2.2.2.2.1),.d (.int .u8 s1.Graphs.1.To.2.2.2.2.2.2.2.2),.d (.int .u8 s27),.d (.int .u8 s1.Graphs.2.1.Marks),.d (.int .u8 s1.Graphs.2.1.To.1.1),.d (.int .u8 s1.Graphs.2.1.To.1.2.1),.d (.int .u8 s1.Graphs.2.1.To.1.2.2.1),.d (.int .u8 s1.Graphs.2.1.To.1.2.2.2.1),.d (.int .u8 s1.Graphs.2.1.To.1.2.2.2.2),.d (.int .u8 s1.Graphs.2.1.To.2.1.1),.d (.int .u8 s1.Graphs.2.1.To.2.1.2.1),.d (.int .u8 s1.Graphs.2.1.To.2.1.2.2.1),.d (.int .u8 s1.Graphs.2.1.To.2.1.2.2.2.1),.d (.int .u8 s1.Graphs.2.1.To.2.1.2.2.2.2),.d (.int .u8 s1.Graphs.2.1.To.2.2.1.1),.d (.int .u8 s1.Graphs.2.1.To.2.2.1.2.1),.d (.int .u8 s1.Graphs.2.1.To.2.2.1.2.2.1),.d (.int .u8 s1.Graphs.2.1.To.2.2.1.2.2.2.1),.d (.int .u8 s1.Graphs.2.1.To.2.2.1.2.2.2.2),.d (.int .u8 s1.Graphs.2.1.To.2.2.2.1.1),.d (.int .u8 s1.Graphs.2.1.To.2.2.2.1.2.1),.d (.int .u8 s1.Graphs.2.1.To.2.2.2.1.2.2.1),.d (.int .u8 s1.Graphs.2.1.To.2.2.2.1.2.2.2.1),.d (.int .u8 s1.Graphs.2.1.To.2.2.2.1.2.2.2.2),.d (.int .u8 s1.Graphs.2.1.To.2.2.2.2.1),.d (.int .u8 s1.Graphs.2.1.To.2.2.2.2.2.1),.d (.int .u8 s1.Graphs.2.1.To.2.2.2.2.2.2.1),.d (.int .u8 s1.Graphs.2.1.To.2.2.2.2.2.2.2.1),.d (.int .u8 s1.Graphs.2.1.To.2.2.2.2.2.2.2.2),.d (.int .u8 s28),.d (.int .u8 s1.Graphs.2.2.Marks),.d (.int .u8 s1.Graphs.2.2.To.1.1),.d (.int .u8 s1.Graphs.2.2.To.1.2.1),.d (.int .u8 s1.Graphs.2.2.To.1.2.2.1),.d (.int .u8 s1.Graphs.2.2.To.1.2.2.2.1),.d (.int .u8 s1.Graphs.2.2.To.1.2.2.2.2),.d (.int .u8 s1.Graphs.2.2.To.2.1.1),.d (.int .u8 s1.Graphs.2.2.To.2.1.2.1),.d (.int .u8 s1.Graphs.2.2.To.2.1.2.2.1),.d (.int .u8 s1.Graphs.2.2.To.2.1.2.2.2.1),.d (.int .u8 s1.Graphs.2.2.To.2.1.2.2.2.2),.d (.int .u8 s1.Graphs.2.2.To.2.2.1.1),.d (.int .u8 s1.Graphs.2.2.To.2.2.1.2.1),.d (.int .u8 s1.Graphs.2.2.To.2.2.1.2.2.1),.d (.int .u8 s1.Graphs.2.2.To.2.2.1.2.2.2.1),.d (.int .u8 s1.Graphs.2.2.To.2.2.1.2.2.2.2),.d (.int .u8 s1.Graphs.2.2.To.2.2.2.1.1),.d (.int .u8 s1.Graphs.2.2.To.2.2.2.1.2.1),.d (.int .u8 s1.Graphs.2.2.To.2.2.2.1.2.2.1),.d (.int .u8 s1.Graphs.2.2.To.2.2.2.1.2.2.2.1),.d (.int .u8 s1.Graphs.2.2.To.2.2.2.1.2.2.2.2),.d (.int .u8 s1.Graphs.2.2.To.2.2.2.2.1),.d (.int .u8 s1.Graphs.2.2.To.2.2.2.2.2.1),.d (.int .u8 s1.Graphs.2.2.To.2.2.2.2.2.2.1),.d (.int .u8 s1.Graphs.2.2.To.2.2.2.2.2.2.2.1),.d (.int .u8 s1.Graphs.2.2.To.2.2.2.2.2.2.2.2)]))::l) ke (fun _ h=>?_) (fun ⟨i25,s26,s27,s28⟩ h=>Y);refine Tr.block ?_;refine cw h [1,2,3] [1,2] (fun (i13,x14) e=>(4,(i_ i13))::(18,(b_ x14))::e) (fun _ l=>l) ke (fun _ h=>?_) (fun ⟨i13,x14⟩ h=>?_)
  ·refine Z 3 0 ?_;refine Q26 (decide (i4=0)) (fun hb10=>?_) (fun hb10=>?_)
   ·replace hb10:=of_decide_eq_true hb10;subst hb10;replace h:=ifT (by rfl) h;refine Rn.k (v:=.ptr (Γ.n0+1) 5) tv rfl rfl rfl ?_;exact Y
   ·replace h:=ifF hb10 h;refine Q26 (decide (i4=1)) (fun hb11=>?_) (fun hb11=>?_)
    ·replace hb11:=of_decide_eq_true hb11;subst hb11;replace h:=ifT (by rfl) h;refine Rn.k (v:=.ptr (Γ.n0+1) 32) tv rfl rfl rfl ?_;exact Y
    ·replace h:=ifF hb11 h;refine Q26 (decide (i4=2)) (fun hb12=>?_) (fun hb12=>?_)
     ·replace hb12:=of_decide_eq_true hb12;subst hb12;replace h:=ifT (by rfl) h;refine Rn.k (v:=.ptr (Γ.n0+1) 59) tv rfl rfl rfl ?_;exact Y
     ·replace h:=ifF hb12 h;cases h
  ·refine cd h rfl (fun h=>?_) (fun h=>Y);refine Z 4 0 ?_;refine Q26 (decide (i13=0)) (fun hb16=>?_) (fun hb16=>?_)
   ·replace hb16:=of_decide_eq_true hb16;subst hb16;replace h:=ifT (by rfl) h;refine Rn.k (v:=.ptr (Γ.n0+1) 5) tv rfl rfl rfl ?_;refine Z 4 0 ?_;refine Rn.k (v:=.ptr (Γ.n0+25) 0) tv rfl rfl rfl ?_;refine Z 2 0 ?_;obtain ⟨s17,h18,h⟩:=bnd h;refine Rn.bin tv rfl rfl (Q8n h18) ?_;refine Z 1 0 ?_;refine Rn.k (v:=.ptr (Γ.n0+1) 5) tv rfl rfl rfl ?_;exact Y
   ·replace h:=ifF hb16 h;refine Q26 (decide (i13=1)) (fun hb19=>?_) (fun hb19=>?_)
    ·replace hb19:=of_decide_eq_true hb19;subst hb19;replace h:=ifT (by rfl) h;refine Rn.k (v:=.ptr (Γ.n0+1) 32) tv rfl rfl rfl ?_;refine Z 4 0 ?_;refine Rn.k (v:=.ptr (Γ.n0+25) 1) tv rfl rfl rfl ?_;refine Z 2 0 ?_;obtain ⟨s20,h21,h⟩:=bnd h;refine Rn.bin tv rfl rfl (Q8n h21) ?_;refine Z 1 0 ?_;refine Rn.k (v:=.ptr (Γ.n0+1) 32) tv rfl rfl rfl ?_;exact Y
    ·replace h:=ifF hb19 h;refine Q26 (decide (i13=2)) (fun hb22=>?_) (fun hb22=>?_)
     ·replace hb22:=of_decide_eq_true hb22;subst hb22;replace h:=ifT (by rfl) h;refine Rn.k (v:=.ptr (Γ.n0+1) 59) tv rfl rfl rfl ?_;refine Z 4 0 ?_;refine Rn.k (v:=.ptr (Γ.n0+25) 2) tv rfl rfl rfl ?_;refine Z 2 0 ?_;obtain ⟨s23,h24,h⟩:=bnd h;refine Rn.bin tv rfl rfl (Q8n h24) ?_;refine Z 1 0 ?_;refine Rn.k (v:=.ptr (Γ.n0+1) 59) tv rfl rfl rfl ?_;exact Y
     ·replace h:=ifF hb22 h;cases h
 ·refine Z 4 0 ?_;refine Rn.k (v:=.ptr (Γ.n0+1) 5) tv rfl rfl rfl ?_;refine Z 1 0 ?_;refine cl (Hbd _ _) h (cq fun x33 h=>?_);refine Z 1 0 ?_;refine Rn.k (v:=.ptr (Γ.n0+1) 0) tv rfl rfl rfl ?_;refine Z 2 0 ?_;refine Rn.k (v:=.ptr (Γ.n0+1) 1) tv rfl rfl rfl ?_;refine Z 2 0 ?_;refine cl (Hbe _) h (cq fun _ h=>?_);refine Z 1 0 ?_;refine Rn.k (v:=.ptr (Γ.n0+1) 32) tv rfl rfl rfl ?_;refine Z 1 0 ?_;refine cl (Hbd _ _) h (cq fun x37 h=>?_);refine Z 1 0 ?_;refine Rn.k (v:=.ptr (Γ.n0+1) 0) tv rfl rfl rfl ?_;refine Z 2 0 ?_;refine Rn.k (v:=.ptr (Γ.n0+1) 2) tv rfl rfl rfl ?_;refine Z 2 0 ?_;refine cl (Hbe _) h (cq fun _ h=>?_);refine Z 1 0 ?_;refine Rn.k (v:=.ptr (Γ.n0+1) 59) tv rfl rfl rfl ?_;refine Z 1 0 ?_;refine cl (Hbd _ _) h (cq fun x41 h=>?_);refine Z 1 0 ?_;refine Rn.k (v:=.ptr (Γ.n0+1) 3) tv rfl rfl rfl ?_;refine Z 1 0 ?_;refine cl (Hbe _) h (cq fun x43 h=>?_);refine Z 1 0 ?_;refine Rn.k (v:=.ptr (Γ.n0+1) 4) tv rfl rfl rfl ?_;refine Z 1 0 ?_;refine cl (Hbe _) h (cq fun x45 h=>?_);refine Rn.buildT (v:=.agg [(l_ x33.zB),(i_ x33.zF),(l_ x33.zC),(Qh x33.zD),(l_ x37.zB),(i_ x37.zF),(l_ x37.zC),(Qh x37.zD),(l_ x41.zB),(i_ x41.zF),(l_ x41.zC),(Qh x41.zD),(o_ x43),(o_ x45)]) tv rfl ?_;exact Y
theorem Qut {P:Program} {c:Nat} {Qw:_} {Qcd:_}
    (Hby:Qf2 P 42 Qw)
    (Hbx:Qjw P 43 Qcd) (hcf:Qn P c=some Qo5) (fuel:Nat):Qke P c (Qdp Qw Qcd fuel):=by
 intro p1 r h;refine Qbs hcf rfl fun Γ M hP hnt hM=>?_;subst hP;refine ini ?_;refine Z 13 0 ?_;refine Rn.weak (by show WeakSt Γ _ ⟨look [(0,(Qv p1)),(1,.ptr (Γ.n0+1) 0),(2,.ptr (Γ.n0+2) 0),(3,(b_ false)),(12,.ptr (Γ.n0+1) 0),(13,(Qe p1.Plant)),(14,.ptr (Γ.n0+1) 4),(15,(Qe p1.Ambient)),(16,.d (.lst 4 (List.map Qby [p1.Plant,p1.Ambient])))],Qo Γ.n0 (bxs [(1,.cells ((Qbo p1))),(2,.cells ([.nils 1,(i_ 0),.nils 1,.nils 3,.nils 1,(i_ 0),.nils 1,.nils 3,.nils 1,(i_ 0),.nils 1,.nils 3,.nils 1,.nils 1,.nils 1,(i_ 0),.nils 1,.nils 3,.nils 1,(i_ 0),.nils 1,.nils 3,.nils 1]))]) M,Γ.n0+60⟩;exact Qcn 16 [.lst 1 (List.map (eI .i64) p1.Plant.zB),.int .i64 p1.Plant.zF,.lst 1 (List.map (eI .i64) p1.Plant.zC),.lst 3 (List.map Ql p1.Plant.zD),.lst 1 (List.map (eI .i64) p1.Ambient.zB),.int .i64 p1.Ambient.zF,.lst 1 (List.map (eI .i64) p1.Ambient.zC),.lst 3 (List.map Ql p1.Ambient.zD)] rfl rfl ⟨sq,(fPtr rfl),(fPtr rfl),sq,(fPtr rfl),sq,(fPtr rfl),sq,(fSl rfl rfl),tv⟩ ⟨bS rfl rfl rfl,bS rfl rfl rfl,tv⟩ rfl) ?_;refine cl (Hby _) h (cq fun ⟨r3,r4,r5⟩ h=>?_);refine Z 18 0 ?_;refine Rn.weak (by show WeakSt Γ _ ⟨look [(0,(Qv p1)),(1,.ptr (Γ.n0+1) 0),(2,.ptr (Γ.n0+2) 0),(3,(b_ false)),(4,.ptr (Γ.n0+4) 0),(5,.d (.lst 1 (List.map (eL 1 (eI .i64)) r4))),(6,(i_ r5)),(11,.tup [(Qe r3),.d (.lst 1 (List.map (eL 1 (eI .i64)) r4)),(i_ r5)]),(12,.ptr (Γ.n0+1) 0),(13,(Qe p1.Plant)),(14,.ptr (Γ.n0+1) 4),(15,(Qe p1.Ambient)),(16,.d (.lst 4 (List.map Qby [p1.Plant,p1.Ambient]))),(17,.tup [(Qe r3),.own 1 (List.map (eL 1 (eI .i64)) r4),(i_ r5)]),(18,(Qe r3)),(19,.d (.lst 1 (List.map (eL 1 (eI .i64)) r4))),(20,(i_ r5)),(22,.ptr (Γ.n0+1) 0),(23,(Qe p1.Plant)),(24,.ptr (Γ.n0+1) 4),(25,(Qe p1.Ambient)),(26,.ptr (Γ.n0+1) 8),(27,(Qe p1.Requirement)),(28,.d (.lst 4 (List.map Qby [p1.Plant,p1.Ambient,p1.Requirement])))],Qo Γ.n0 (bxs [(1,.cells ((Qbo p1))),(2,.cells ([.nils 1,(i_ 0),.nils 1,.nils 3,.nils 1,(i_ 0),.nils 1,.nils 3,.nils 1,(i_ 0),.nils 1,.nils 3,.nils 1,.nils 1,.nils 1,(i_ 0),.nils 1,.nils 3,.nils 1,(i_ 0),.nils 1,.nils 3,.nils 1])),(4,.cells ((Qr r3)))]) M,Γ.n0+60⟩;exact Qcn 28 [.lst 1 (List.map (eI .i64) p1.Plant.zB),.int .i64 p1.Plant.zF,.lst 1 (List.map (eI .i64) p1.Plant.zC),.lst 3 (List.map Ql p1.Plant.zD),.lst 1 (List.map (eI .i64) p1.Ambient.zB),.int .i64 p1.Ambient.zF,.lst 1 (List.map (eI .i64) p1.Ambient.zC),.lst 3 (List.map Ql p1.Ambient.zD),.lst 1 (List.map (eI .i64) p1.Requirement.zB),.int .i64 p1.Requirement.zF,.lst 1 (List.map (eI .i64) p1.Requirement.zC),.lst 3 (List.map Ql p1.Requirement.zD)] rfl rfl ⟨sq,(fPtr rfl),(fPtr rfl),sq,(fPtr rfl),sq,sq,sq,(fPtr rfl),sq,(fPtr rfl),sq,sq,sq,sq,sq,sq,(fPtr rfl),sq,(fPtr rfl),sq,(fPtr rfl),sq,(fSl rfl rfl),tv⟩ ⟨bS rfl rfl rfl,bS rfl rfl rfl,bS rfl rfl rfl,tv⟩ rfl) ?_;refine cl (Hbx _) h (cq fun ⟨r7,_⟩ h=>?_);refine Z 16 0 ?_;refine cw h [2,6,8,9] [1,4,7] (fun _ e=>e) (fun (c37,c38,c39,c40,c41,c42,c43,c44,c45,c46,c47,c48,c49,c50,c51,c52,c53,c54,w55) l=>(2,.cells ([(o_ c37),(i_ 0),(o_ c38),(Qp c39),(o_ c40),(i_ 0),(o_ c41),(Qp c42),(o_ c43),(i_ 0),(o_ c44),(Qp c45),(o_ c46),(o_ c47),(o_ c48),(i_ 0),(o_ c49),(Qp c50),(o_ c51),(i_ 0),(o_ c52),(Qp c53),(o_ c54)]))::(9,.cells ([(l_ p1.Plant.zB),(i_ p1.Plant.zF),(l_ p1.Plant.zC),(Qh p1.Plant.zD),(l_ p1.Ambient.zB),(i_ p1.Ambient.zF),(l_ p1.Ambient.zC),(Qh p1.Ambient.zD),(l_ p1.Requirement.zB),(i_ p1.Requirement.zF),(l_ p1.Requirement.zC),(Qh p1.Requirement.zD),(l_ p1.Observable),(l_ p1.Controllable),(l_ r3.zB),(i_ r3.zF),(l_ r3.zC),(Qh r3.zD),(l_ r7.zB),(i_ r7.zF),(l_ r7.zC),(Qh r7.zD),(o_ w55)]))::l) ke (fun _ h=>?_) (fun ⟨c37,c38,c39,c40,c41,c42,c43,c44,c45,c46,c47,c48,c49,c50,c51,c52,c53,c54,w55⟩ h=>?_)
 ·refine Z 5 0 ?_;refine lw h [2,5,6,8,9] [1,4,7] (fun (i9,c10,c11,c12,c13,c14,c15,c16,c17,c18,c19,c20,c21,c22,c23,c24,c25,c26,c27,w28) e=>(10,(i_ i9))::e) (fun (i9,c10,c11,c12,c13,c14,c15,c16,c17,c18,c19,c20,c21,c22,c23,c24,c25,c26,c27,w28) l=>(2,.cells ([(o_ c10),(i_ 0),(o_ c11),(Qp c12),(o_ c13),(i_ 0),(o_ c14),(Qp c15),(o_ c16),(i_ 0),(o_ c17),(Qp c18),(o_ c19),(o_ c20),(o_ c21),(i_ 0),(o_ c22),(Qp c23),(o_ c24),(i_ 0),(o_ c25),(Qp c26),(o_ c27)]))::(9,.cells ([(l_ p1.Plant.zB),(i_ p1.Plant.zF),(l_ p1.Plant.zC),(Qh p1.Plant.zD),(l_ p1.Ambient.zB),(i_ p1.Ambient.zF),(l_ p1.Ambient.zC),(Qh p1.Ambient.zD),(l_ p1.Requirement.zB),(i_ p1.Requirement.zF),(l_ p1.Requirement.zC),(Qh p1.Requirement.zD),(l_ p1.Observable),(l_ p1.Controllable),(l_ r3.zB),(i_ r3.zF),(l_ r3.zC),(Qh r3.zD),(l_ r7.zB),(i_ r7.zF),(l_ r7.zC),(Qh r7.zD),(o_ w28)]))::l) ke wk (fun _ ⟨i9,c10,c11,c12,c13,c14,c15,c16,c17,c18,c19,c20,c21,c22,c23,c24,c25,c26,c27,w28⟩ h=>?_);refine Z 8 0 ?_;exact ci h rfl (fun h=>Y) (fun h=>Y)
 ·refine Z 6 0 ?_;exact bs h (fun _ h=>Y) (fun _ h=>Y)
theorem Quu {P:Program} {c:Nat} {Qf:_}
    (Hcp:Qb3 P 63 Qf) (hcf:Qn P c=some Qo6) (fuel:Nat):Qkf P c (Qcl Qf fuel):=by
 intro m1 sv2 w3 r h;refine Qbs hcf rfl fun Γ M hP hnt hM=>?_;subst hP;refine ini ?_;refine Z 4 0 ?_;refine cw h [] [] (fun sv12 e=>(1,(i_ sv12))::e) (fun _ l=>l) ke (fun _ h=>?_) (fun sv12 h=>Y);refine Z 7 0 ?_;refine lw h [0,9,10] [] (fun (sv4,x5) e=>(1,(i_ sv4))::(11,(i_ x5))::e) (fun _ l=>l) ke wk (fun _ ⟨sv4,x5⟩ h=>?_);refine Z 5 0 ?_;refine ci h rfl (fun h=>?_) (fun h=>Y);refine Z 13 1 ?_;intro _ h;refine cl (Hcp _ _ _) h (cq fun _ h=>?_);exact Y
theorem Q5d {P:Program} {c:Nat} {Qb0:_}
    (Hdn:Qi9 P 109 Qb0) (hcf:Qn P c=some Q29):Qw0 P c (Qif Qb0):=by
 intro a1 b2 r h;refine Qbs hcf rfl fun Γ M hP hnt hM=>?_;subst hP;refine ini ?_;refine Z 8 0 ?_;refine cl (Hdn _ _) h (cq fun _ h=>?_);exact Y
theorem Qxb {P:Program} {c:Nat} {Qbf:_} {Qda:_} {Qcl:_} {Qk:_} {Qf:_} {Qif:_} {Qt:_}
    (Hcm:Qh4 P 51 Qbf)
    (Hdv:Qn2 P 56 Qda)
    (Hcq:Qkf P 61 Qcl)
    (Hdl:Qcp P 62 Qk)
    (Hcp:Qb3 P 63 Qf)
    (Hdu:Qw0 P 64 Qif)
    (Hcy:Qek P 65 Qt) (hcf:Qn P c=some Qr7):Qmn P c (Qeg Qbf Qda Qcl Qk Qf Qif Qt):=by
 intro p1 w2 r h;refine Qbs hcf rfl fun Γ M hP hnt hM=>?_;subst hP;refine ini ?_;refine Z 10 0 ?_;obtain ⟨⟨r3,ok4,r7,r8⟩,h5,h⟩:=bnd h;refine bs h (fun hb6 h=>?_) (fun hb6 h=>?_)
 ·refine Rn.call (args:=[(Qv p1)]) tv rfl (crT hb6 (Hcm _ _ h5)) pc9 ?_;refine Z 10 0 ?_;refine cw h [2,3,6,8] [2,3,7] (fun x10 e=>(25,(b_ x10))::e) (fun _ l=>l) ke (fun _ h=>?_) (fun x10 h=>?_)
  ·refine Z 4 0 ?_;refine bs h (fun hb9 h=>Y) (fun hb9 h=>?_);refine Z 1 0 ?_;refine Rn.k (v:=.cref (Qc r3)) (gw rfl hb9) rfl rfl rfl ?_;exact Y
  ·refine cd h rfl (fun h=>Y) (fun h=>?_);refine Z 4 0 ?_;refine Rn.k (v:=.cref (Qc r3)) tv rfl rfl rfl ?_;refine Z 3 0 ?_;refine Rn.k (v:=.cref (Qc r3)) tv rfl rfl rfl ?_;refine Z 5 0 ?_;refine cl (Hcq _ _ _) h (cq fun _ h=>?_);refine Z 5 0 ?_;refine Rn.k (v:=.cref (Qc r3)) tv rfl rfl rfl ?_;refine Z 4 0 ?_;refine cl (Hcq _ _ _) h (cq fun _ h=>?_);refine Z 1 0 ?_;refine Rn.k (v:=.cref (Qc r3)) tv rfl rfl rfl ?_;refine Z 3 0 ?_;refine Rn.k (v:=.cref (Qc r3)) tv rfl rfl rfl ?_;refine Z 5 0 ?_;refine cl (Hcq _ _ _) h (cq fun _ h=>?_);refine Z 5 0 ?_;refine cw h [2,3,6,10] [2,3,7,10] (fun x25 e=>(84,(b_ x25))::e) (fun _ l=>l) ke (fun _ h=>?_) (fun x25 h=>?_)
   ·refine Z 5 0 ?_;refine cl (Hdl _ _) h (cq fun _ h=>?_);refine Z 2 0 ?_;refine bs h (fun _ h=>?_) (fun _ h=>Y);refine Z 4 0 ?_;refine bi h (fun _ h=>Y) (fun _ h=>?_);refine Z 5 0 ?_;refine bi h (fun hb22 h=>Y) (fun hb22 h=>?_);refine Z 1 0 ?_;refine Rn.k (v:=.cref (Qc r3)) (gw rfl hb22) rfl rfl rfl ?_;refine Z 5 0 ?_;refine cl (Hcp _ _ _) h (cq fun _ h=>?_);exact Y
   ·refine cd h rfl (fun h=>Y) (fun h=>?_);refine Z 7 0 ?_;refine cl (Hdv _ _) h (cq fun _ h=>?_);refine Z 4 0 ?_;refine cl (Hdv _ _) h (cq fun _ h=>?_);refine cl (Hdu _ _) h (cq fun _ h=>?_);refine Z 6 0 ?_;refine bs h (fun _ h=>?_) (fun _ h=>Y);refine Z 4 0 ?_;refine cl (Hcy _ _ _) h (cq fun _ h=>?_);exact Y
 ·refine Rn.call (args:=[(Qv p1)]) tv rfl (crF hb6 (Hcm _ _ h5)) pc9 ?_;refine Z 15 0 ?_;refine bs h (fun _ h=>?_) (fun _ h=>?_)
  ·refine Z 6 0 ?_;refine Tr.condT rfl rfl ?_;exact Y
  ·refine Z 1 0 ?_;cases h
theorem Qks {P:Program} {c:Nat} (hcf:Qn P c=some Qhl):Qfa P c (Q0):=by
 intro wv1 x2 k3 r h;intro M nb hk4;refine Qu9 hcf rfl M nb fun Γ hP hnt hn0 hM=>?_;subst hP hn0;refine ini ?_;exact Y
theorem Qvv {P:Program} {c:Nat} (hcf:Qn P c=some Qqq) (fuel:Nat):Qli P c (Qes fuel):=by
 intro l1 n2 r h;refine Qbs hcf rfl fun Γ M hP hnt hM=>?_;subst hP;refine ini ?_;refine Z 10 0 ?_;refine lw h [0,1] [] (fun i3 e=>(5,(i_ i3))::e) (fun _ l=>l) ke wk (fun _ i3 h=>?_);refine Z 8 0 ?_;refine ci h rfl (fun h=>?_) (fun h=>Y);refine Z 12 1 ?_;intro _ h;exact cd h rfl (fun h=>Y) (fun h=>Y)
theorem Qvw {P:Program} {c:Nat} (hcf:Qn P c=some Qqr) (fuel:Nat):Qlj P c (Qet fuel):=by
 intro l1 n2 r h;refine Qbs hcf rfl fun Γ M hP hnt hM=>?_;subst hP;refine ini ?_;refine Z 10 0 ?_;refine lw h [0,1] [] (fun i3 e=>(5,(i_ i3))::e) (fun _ l=>l) ke wk (fun _ i3 h=>?_);refine Z 8 0 ?_;refine ci h rfl (fun h=>?_) (fun h=>Y);refine Z 12 1 ?_;intro _ h;exact cd h rfl (fun h=>Y) (fun h=>Y)
theorem Qre {P:Program} {c:Nat} {Qet:_}
    (Hbv:Qlj P 68 Qet) (hcf:Qn P c=some Qmo) (fuel:Nat):Qin P c (Qca Qet fuel):=by
 intro ov1 wv2 r h;refine Qbs hcf rfl fun Γ M hP hnt hM=>?_;subst hP;refine ini ?_;refine Z 8 0 ?_;refine cw h [] [] (fun ov17 e=>(5,(o_ ov17))::e) (fun _ l=>l) ke (fun _ h=>?_) (fun ov17 h=>Y);refine Z 5 0 ?_;refine lw h [0,1] [] (fun (ov3,i4) e=>(5,(o_ ov3))::(6,(i_ i4))::e) (fun _ l=>l) ke wk (fun _ ⟨ov3,i4⟩ h=>?_);refine Z 8 0 ?_;refine ci h rfl (fun h=>?_) (fun h=>Y);refine Tr.skip ?_;refine cw h [0,1,6] [] (fun ov16 e=>(5,(o_ ov16))::e) (fun _ l=>l) ke (fun _ h=>?_) (fun ov16 h=>Y);refine Z 8 1 ?_;intro _ h;refine cl (Hbv _ _) h (cq fun _ h=>?_);refine Z 1 0 ?_;exact cd h rfl (fun h=>Y) (fun h=>Y)
theorem Qvx {P:Program} {c:Nat} {Q2:_}
    (Hbr:Qgh P 72 Q2) (hcf:Qn P c=some Qqs) (fuel:Nat):Qlk P c (Qd3 Q2 fuel):=by
 intro a1 xv2 wv3 r h;refine Qbs hcf rfl fun Γ M hP hnt hM=>?_;subst hP;refine ini ?_;refine Z 12 0 ?_;refine lw h [2,3] [3] (fun (xv4,i5) e=>(1,(i_ xv4))::(8,(i_ i5))::e) (fun _ l=>l) ke wk (fun _ ⟨xv4,i5⟩ h=>?_);refine Z 8 0 ?_;refine ci h rfl (fun h=>?_) (fun h=>Y);refine Z 11 1 ?_;intro _ h;refine cl (Hbr _ _ _) h (cq fun _ h=>?_);refine Z 8 0 ?_;exact ci h rfl (fun h=>Y) (fun h=>Y)
theorem Qpm {P:Program} {c:Nat} {Qd3:_}
    (Hbp:Qlk P 69 Qd3) (hcf:Qn P c=some Qkr):Qht P c (Qbm Qd3):=by
 intro a1 wv2 r h;refine Qbs hcf rfl fun Γ M hP hnt hM=>?_;subst hP;refine ini ?_;refine Z 9 0 ?_;refine cl (Hbp _ _ _) h (cq fun ⟨_,_⟩ h=>?_);refine Z 12 0 ?_;exact bi h (fun _ h=>Y) (fun _ h=>Y)
end Go.Abs
end
section
namespace Go.Abs
open Go
set_option maxRecDepth 10000
set_option maxHeartbeats 4000000
theorem Ql5 {P:Program} {c:Nat} {Qdd:_} {Qdo:_} {Qdp:_} {Qes:_} {Qeg:_} {Q0:_} {Q9:_} {Qca:_} {Qbm:_}
    (Hbi:Qjm P 12 Qdd)
    (Hbf:Qkd P 13 Qdo)
    (Hbj:Qke P 14 Qdp)
    (Hbc:Qli P 20 Qes)
    (Hci:Qmn P 24 Qeg)
    (Hbg:Qfa P 27 Q0)
    (Hbq:Qf9 P 28 Q9)
    (Hbu:Qin P 29 Qca)
    (Hbo:Qht P 30 Qbm) (hcf:Qn P c=some Qh8):Qh7 P c (Qfn Qdd Qdo Qdp Qes Qeg Q0 Q9 Qca Qbm):=by
 intro s1 w2 r h;refine Qbs hcf rfl fun Γ M hP hnt hM=>?_;subst hP;refine ini ?_;refine Z 7 0 ?_;refine cw h [2,3] [2,3] (fun x7 e=>(25,(b_ x7))::e) (fun _ l=>l) ke (fun _ h=>?_) (fun x7 h=>?_)
 ·refine Tr.rgn ?_;refine cl Hbi h (cq fun _ h=>?_);refine Z 2 0 ?_;refine bs h (fun _ h=>?_) (fun _ h=>Y);refine Z 6 0 ?_;exact bi h (fun _ h=>Y) (fun _ h=>Y)
 ·refine cd h rfl (fun h=>?_) (fun h=>?_)
  ·refine Z 2 0 ?_;refine cl Hbi h (cq fun _ h=>?_);exact Y
  ·refine Z 4 0 ?_;refine cl (Hbf _) h (cq fun _ h=>?_);refine Z 6 0 ?_;refine cl (Hbj _) h (cq fun ⟨_,_⟩ h=>?_);refine Z 11 0 ?_;refine cl (Hci _ _) h (cq fun ⟨_,_⟩ h=>?_);refine Z 8 0 ?_;refine Rn.k (v:=.clo 27 [.ptr (Γ.n0+3) 0]) tv rfl rfl rfl ?_;refine Z 2 0 ?_;refine cw h [7,8,9] [2,3,5,6] (fun wv46 e=>(11,(b_ wv46))::e) (fun _ l=>l) ke (fun _ h=>?_) (fun wv46 h=>?_)
   ·refine Z 5 0 ?_;refine cl (Hbc _ _) h (cq fun _ h=>?_);refine Z 1 0 ?_;refine bs h (fun _ h=>?_) (fun _ h=>Y);refine Z 4 0 ?_;refine cl (Hbu _ _) h (cq fun _ h=>?_);refine Z 4 0 ?_;refine cl (Hbu _ _) h (cq fun _ h=>?_);refine cl (Hbq _ _) h (cq fun _ h=>?_);refine Z 2 0 ?_;refine bs h (fun hb28 h=>?_) (fun hb28 h=>Y);refine Z 5 0 ?_;obtain ⟨x30,h29,h⟩:=bnd h;refine Rn.callvM (args:=([(l_ w2.Word)]++[.ptr (Γ.n0+3) 0])) (gw rfl hb28) rfl rfl (fun M2 nb2 hn hx=>Hbg _ _ (Γ.n0+3) _ h29 M2 nb2 (hx _ _ (Qd8 rfl))) rfl (fun _=>Qbde hM rfl) ?_;refine cl (Hbo _ _) h (cq fun _ h=>?_);refine Z 2 0 ?_;refine bs h (fun _ h=>?_) (fun _ h=>Y);refine Z 4 0 ?_;refine cl (Hbo _ _) h (cq fun _ h=>?_);refine Z 2 0 ?_;refine bs h (fun hb36 h=>?_) (fun hb36 h=>Y);refine Z 5 0 ?_;obtain ⟨x38,h37,h⟩:=bnd h;refine Rn.callvM (args:=([(l_ w2.Other)]++[.ptr (Γ.n0+3) 0])) (gw rfl hb36) rfl rfl (fun M2 nb2 hn hx=>Hbg _ _ (Γ.n0+3) _ h37 M2 nb2 (hx _ _ (Qd8 rfl))) rfl (fun _=>Qbde hM rfl) ?_;refine cl (Hbo _ _) h (cq fun _ h=>?_);refine Z 2 0 ?_;refine bs h (fun hb41 h=>?_) (fun hb41 h=>Y);refine Z 5 0 ?_;obtain ⟨x43,h42,h⟩:=bnd h;refine Rn.callvM (args:=([(l_ w2.Other)]++[.ptr (Γ.n0+3) 0])) (gw rfl hb41) rfl rfl (fun M2 nb2 hn hx=>Hbg _ _ (Γ.n0+3) _ h42 M2 nb2 (hx _ _ (Qd8 rfl))) rfl (fun _=>Qbde hM rfl) ?_;refine cl (Hbo _ _) h (cq fun _ h=>?_);exact Y
   ·refine Z 4 0 ?_;refine bs h (fun _ h=>?_) (fun _ h=>Y);refine Z 4 0 ?_;exact bs h (fun _ h=>Y) (fun _ h=>Y)
theorem Qsn {P:Program} {c:Nat} {Q7:_}
    (Hbk:Qfu P 87 Q7) (hcf:Qn P c=some Qm8) (fuel:Nat):Qi3 P c (Qc0 Q7 fuel):=by
 intro a1 r h;refine Qbs hcf rfl fun Γ M hP hnt hM=>?_;subst hP;refine ini ?_;refine Z 8 0 ?_;refine cl (Hbk _) h (cq fun x3 h=>?_);refine Z 8 0 ?_;refine cw h [2,3] [1] (fun _ e=>e) (fun (c13,c14,c15,ov16) l=>(2,.cells ([(o_ c13),(i_ 0),(o_ c14),(Qp c15)]))::(3,.cells ([(l_ x3.zB),(i_ x3.zF),(o_ ov16),(Qh x3.zD)]))::l) ke (fun _ h=>?_) (fun ⟨c13,c14,c15,ov16⟩ h=>Y);refine Z 5 0 ?_;refine lw h [2,3] [1] (fun (i4,c5,c6,c7,ov8) e=>(4,(i_ i4))::e) (fun (i4,c5,c6,c7,ov8) l=>(2,.cells ([(o_ c5),(i_ 0),(o_ c6),(Qp c7)]))::(3,.cells ([(l_ x3.zB),(i_ x3.zF),(o_ ov8),(Qh x3.zD)]))::l) ke wk (fun _ ⟨i4,c5,c6,c7,ov8⟩ h=>?_);refine Z 8 0 ?_;exact ci h rfl (fun h=>Y) (fun h=>Y)
theorem Qso {P:Program} {c:Nat} {Qbd:_} {Qc0:_}
    (Hat:Qhj P 45 Qbd)
    (Hbl:Qi3 P 46 Qc0) (hcf:Qn P c=some Qna):Qm9 P c (Qi4 Qbd Qc0):=by
 intro a1 r h;refine Qbs hcf rfl fun Γ M hP hnt hM=>?_;subst hP;refine ini ?_;refine Z 8 0 ?_;refine cl (Hbl _) h (cq fun _ h=>?_);refine cl (Hat _) h (cq fun ⟨_,_⟩ h=>?_);exact Y
end Go.Abs
end
section
namespace Go.Proofs
open Go.Abs
set_option maxRecDepth 100000
theorem Qns:Qn Tryz.prog 5=some Qh8:=by kernel_rfl
theorem Qxc:Qn Tryz.prog 12=some Qof:=by kernel_rfl
theorem Qyk:Qn Tryz.prog 13=some Qo4:=by kernel_rfl
theorem Qyl:Qn Tryz.prog 14=some Qo5:=by kernel_rfl
theorem Qzu:Qn Tryz.prog 16=some Qqm:=by kernel_rfl
theorem Qvy:Qn Tryz.prog 18=some Qna:=by kernel_rfl
theorem Qzv:Qn Tryz.prog 20=some Qqq:=by kernel_rfl
theorem Q3d:Qn Tryz.prog 22=some Qvd:=by kernel_rfl
theorem Q3e:Qn Tryz.prog 23=some Qvh:=by kernel_rfl
theorem Q01:Qn Tryz.prog 24=some Qr7:=by kernel_rfl
theorem Qzw:Qn Tryz.prog 26=some Qqo:=by kernel_rfl
theorem Qmp:Qn Tryz.prog 27=some Qhl:=by kernel_rfl
theorem Qtu:Qn Tryz.prog 28=some Qlx:=by kernel_rfl
theorem Quv:Qn Tryz.prog 29=some Qmo:=by kernel_rfl
theorem Qsp:Qn Tryz.prog 30=some Qkr:=by kernel_rfl
theorem Qym:Qn Tryz.prog 39=some Qo0:=by kernel_rfl
theorem Qrf:Qn Tryz.prog 40=some Qj4:=by kernel_rfl
theorem Qyn:Qn Tryz.prog 41=some Qo3:=by kernel_rfl
theorem Qxd:Qn Tryz.prog 42=some Qoc:=by kernel_rfl
theorem Q2e:Qn Tryz.prog 43=some Qtf:=by kernel_rfl
theorem Q2f:Qn Tryz.prog 44=some Qtj:=by kernel_rfl
theorem Q02:Qn Tryz.prog 45=some Qr1:=by kernel_rfl
theorem Qvz:Qn Tryz.prog 46=some Qm8:=by kernel_rfl
theorem Qzx:Qn Tryz.prog 47=some Qqp:=by kernel_rfl
theorem Q2g:Qn Tryz.prog 48=some Qtd:=by kernel_rfl
theorem Q2h:Qn Tryz.prog 49=some Qte:=by kernel_rfl
theorem Qzy:Qn Tryz.prog 50=some Qqd:=by kernel_rfl
theorem Q2i:Qn Tryz.prog 51=some Qtk:=by kernel_rfl
theorem Qsq:Qn Tryz.prog 52=some Qkm:=by kernel_rfl
theorem Qrg:Qn Tryz.prog 54=some Qj2:=by kernel_rfl
theorem Quw:Qn Tryz.prog 55=some Qml:=by kernel_rfl
theorem Q6d:Qn Tryz.prog 56=some Qza:=by kernel_rfl
theorem Qv0:Qn Tryz.prog 57=some Qm5:=by kernel_rfl
theorem Q03:Qn Tryz.prog 58=some Qrz:=by kernel_rfl
theorem Qv1:Qn Tryz.prog 59=some Qm3:=by kernel_rfl
theorem Qsr:Qn Tryz.prog 60=some Qkp:=by kernel_rfl
theorem Qyo:Qn Tryz.prog 61=some Qo6:=by kernel_rfl
theorem Qxe:Qn Tryz.prog 62=some Qob:=by kernel_rfl
theorem Qxf:Qn Tryz.prog 63=some Qoe:=by kernel_rfl
theorem Qbah:Qn Tryz.prog 64=some Q29:=by kernel_rfl
theorem Qss:Qn Tryz.prog 65=some Qkn:=by kernel_rfl
theorem Qv2:Qn Tryz.prog 66=some Qm7:=by kernel_rfl
theorem Q2j:Qn Tryz.prog 67=some Qtl:=by kernel_rfl
theorem Qzz:Qn Tryz.prog 68=some Qqr:=by kernel_rfl
theorem Qz0:Qn Tryz.prog 69=some Qqs:=by kernel_rfl
theorem Qyp:Qn Tryz.prog 72=some Qo2:=by kernel_rfl
theorem Q5e:Qn Tryz.prog 79=some Qww:=by kernel_rfl
theorem Qz1:Qn Tryz.prog 85=some Qqg:=by kernel_rfl
theorem Qxg:Qn Tryz.prog 86=some Qog:=by kernel_rfl
theorem Qst:Qn Tryz.prog 87=some Qkq:=by kernel_rfl
theorem Q5f:Qn Tryz.prog 88=some Qwu:=by kernel_rfl
theorem Q6e:Qn Tryz.prog 89=some Qy8:=by kernel_rfl
theorem Qsu:Qn Tryz.prog 90=some Qkk:=by kernel_rfl
theorem Qtv:Qn Tryz.prog 92=some Qls:=by kernel_rfl
theorem Qv3:Qn Tryz.prog 93=some Qm2:=by kernel_rfl
theorem Q04:Qn Tryz.prog 94=some Qr0:=by kernel_rfl
theorem Q5g:Qn Tryz.prog 95=some Qwz:=by kernel_rfl
theorem Q2k:Qn Tryz.prog 96=some Qti:=by kernel_rfl
theorem Qyq:Qn Tryz.prog 97=some Qo1:=by kernel_rfl
theorem Qv4:Qn Tryz.prog 98=some Qm1:=by kernel_rfl
theorem Q3f:Qn Tryz.prog 99=some Qvc:=by kernel_rfl
theorem Q05:Qn Tryz.prog 100=some Qr2:=by kernel_rfl
theorem Qtw:Qn Tryz.prog 101=some Qlt:=by kernel_rfl
theorem Qsv:Qn Tryz.prog 106=some Qko:=by kernel_rfl
theorem Qpn:Qn Tryz.prog 107=some Qi8:=by kernel_rfl
theorem Q06:Qn Tryz.prog 108=some Qrv:=by kernel_rfl
theorem Q07:Qn Tryz.prog 109=some Qr6:=by kernel_rfl
theorem Qtx:Qn Tryz.prog 110=some Qlu:=by kernel_rfl
theorem Qv5:Qn Tryz.prog 111=some Qm6:=by kernel_rfl
theorem Qqz:Qn Tryz.prog 112=some Qjl:=by kernel_rfl
theorem Qty:Qn Tryz.prog 113=some Qlv:=by kernel_rfl
theorem Qux:Qn Tryz.prog 114=some Qmm:=by kernel_rfl
theorem Qz2:Qn Tryz.prog 115=some Qqn:=by kernel_rfl
theorem Qow:Qn Tryz.prog 118=some Qis:=by kernel_rfl
theorem Q2l:Qn Tryz.prog 119=some Qtg:=by kernel_rfl
theorem Q2m:Qn Tryz.prog 120=some Qth:=by kernel_rfl
theorem Qsw:Qn Tryz.prog 128=some Qkl:=by kernel_rfl
theorem Qxh:Qn Tryz.prog 129=some Qoh:=by kernel_rfl
theorem Qxi:Qn Tryz.prog 130=some Qoi:=by kernel_rfl
theorem Q3g:Qn Tryz.prog 131=some Qvf:=by kernel_rfl
theorem Qxj:Qn Tryz.prog 132=some Qod:=by kernel_rfl
theorem Q5h:Qn Tryz.prog 133=some Qwy:=by kernel_rfl
theorem Q5i:Qn Tryz.prog 134=some Qwx:=by kernel_rfl
theorem Q3h:Qn Tryz.prog 135=some Qvg:=by kernel_rfl
theorem Qz3:Qn Tryz.prog 136=some Qqi:=by kernel_rfl
theorem Qz4:Qn Tryz.prog 137=some Qqk:=by kernel_rfl
theorem Qz5:Qn Tryz.prog 138=some Qqj:=by kernel_rfl
theorem Q3i:Qn Tryz.prog 139=some Qvb:=by kernel_rfl
theorem Q08:Qn Tryz.prog 140=some Qrw:=by kernel_rfl
theorem Qv6:Qn Tryz.prog 143=some Qm4:=by kernel_rfl
theorem Qrh:Qn Tryz.prog 144=some Qj3:=by kernel_rfl
theorem Q09:Qn Tryz.prog 146=some Qr4:=by kernel_rfl
theorem Qtz:Qn Tryz.prog 147=some Qlw:=by kernel_rfl
theorem Q6f:Qn Tryz.prog 153=some Qy9:=by kernel_rfl
theorem Q1a:Qn Tryz.prog 154=some Qry:=by kernel_rfl
theorem Q3j:Qn Tryz.prog 155=some Qve:=by kernel_rfl
theorem Q5j:Qn Tryz.prog 171=some Qwv:=by kernel_rfl
theorem Q1b:Qn Tryz.prog 172=some Qrx:=by kernel_rfl
end Go.Proofs
end
section
namespace Go.Abs
open Go Go.Sort
section plain
variable {β:Type}
def insB (lt:β→β→Bool) (x:β):List β→List β
 | []=>[x]
 | y::ys=>if lt y x then y::insB lt x ys else x::y::ys
def Qmq (lt:β→β→Bool):List β→List β
 | []=>[]
 | x::xs=>insB lt x (Qmq lt xs)
def Q6g (lt:β→β→Bool):List β→Bool
 | []=>true
 | x::xs=>xs.all (fun y=>lt x y||lt y x)&&Q6g lt xs
def Qbld (ok:β→Bool) (lt:β→β→Bool) (l:List β):Option (List β):=if l.all ok&&Q6g lt l then some (Qmq lt l) else none
theorem Q5k (lt:β→β→Bool) (x:β):∀ l,(insB lt x l).Perm (x::l)
 | []=>.refl _
 | y::ys=>by
  unfold insB;split
  ·exact ((Q5k lt x ys).cons y).trans (.swap x y ys)
  ·exact .refl _
theorem Qnt (lt:β→β→Bool):∀ l,(Qmq lt l).Perm l
 | []=>.refl _
 | x::xs=>(Q5k lt x _).trans ((Qnt lt xs).cons x)
theorem Qpo (lt:β→β→Bool) (l:List β):(Qmq lt l).length=l.length:=(Qnt lt l).length_eq
theorem Q5l {lt:β→β→Bool} (h:SWO lt) (x:β):∀ l,l.Pairwise (fun a b=>lt b a=false)→(insB lt x l).Pairwise fun a b=>lt b a=false
 | [],_=>by simp [insB]
 | y::ys,hl=>by
  obtain ⟨h1,h2⟩:=List.pairwise_cons.1 hl;unfold insB;split
  ·rename_i hc;refine List.pairwise_cons.2 ⟨fun z hz=>?_,Q5l h x ys h2⟩;rcases List.mem_cons.1 ((Q5k lt x ys).mem_iff.1 hz) with rfl|hz
   ·cases hb:lt z y with
    | false=>rfl
    | true=>have:=h.trans _ _ _ hc hb;rw [h.irrefl] at this;cases this
   ·exact h1 z hz
  ·rename_i hc;have hc:lt y x=false:=by cases h:lt y x<;>simp_all
   refine List.pairwise_cons.2 ⟨fun z hz=>?_,hl⟩;rcases List.mem_cons.1 hz with rfl|hz
   ·exact hc
   ·exact h.ntrans _ _ _ (h1 z hz) hc
theorem Qpp {lt:β→β→Bool} (h:SWO lt):∀ l,(Qmq lt l).Pairwise fun a b=>lt b a=false
 | []=>.nil
 | x::xs=>Q5l h x _ (Qpp h xs)
theorem Q7i {lt:β→β→Bool}:∀ {l:List β},Q6g lt l=true→∀ a b,a∈l→b∈l→lt a b=false→lt b a=false→a=b
 | [],_,a,_,ha,_,_,_=>by cases ha
 | x::xs,h,a,b,ha,hb,h1,h2=>by
  simp only [Q6g,Bool.and_eq_true,List.all_eq_true] at h;obtain ⟨k1,k2⟩:=h;rcases List.mem_cons.1 ha with e1|ha'<;>rcases List.mem_cons.1 hb with e2|hb'
  ·rw [e1,e2]
  ·subst e1;have:=k1 b hb';simp [h1,h2] at this
  ·subst e2;have:=k1 a ha';simp [h1,h2] at this
  ·exact Q7i k2 a b ha' hb' h1 h2
theorem Q8r {lt:β→β→Bool} (h:SWO lt) {l m:List β} (hd:Q6g lt l=true) (hp:m.Perm l) (hs:m.Pairwise fun a b=>lt b a=false):m=Qmq lt l:=by
 refine List.Perm.eq_of_pairwise (le:=fun a b=>lt b a=false) (fun a b ha hb h1 h2=>?_) hs (Qpp h l) (hp.trans (Qnt lt l).symm);exact Q7i hd a b (hp.mem_iff.1 ha) ((Qnt lt l).mem_iff.1 hb) h2 h1
theorem Qbdt {α:Type} (f:α→β) (lt:β→β→Bool) (x:α):∀ l:List α,insB lt (f x) (l.map f)=(insB (fun a b=>lt (f a) (f b)) x l).map f
 | []=>rfl
 | y::ys=>by
  simp only [List.map_cons,insB];split
  ·simp only [List.map_cons,Qbdt f lt x ys]
  ·rfl
theorem Q7j {α:Type} (f:α→β) (lt:β→β→Bool):∀ l:List α,Qmq lt (l.map f)=(Qmq (fun a b=>lt (f a) (f b)) l).map f
 | []=>rfl
 | x::xs=>by simp only [List.map_cons,Qmq,Q7j f lt xs,Qbdt]
theorem Qbai {α:Type} (f:α→β) (lt:β→β→Bool):∀ l:List α,Q6g lt (l.map f)=Q6g (fun a b=>lt (f a) (f b)) l
 | []=>rfl
 | x::xs=>by simp only [List.map_cons,Q6g,Qbai f lt xs,List.all_map];rfl
end plain
def Qkt (a b:Int):Bool:=decide (a<b)
end Go.Abs
end
section
namespace Go.Abs
def Qbmm (l:List Int):Option (List Int):=if l.length≤lim then some (Qmq Qkt l) else none
def Qbdu (l:List Int):Option (List Int):=if l.length≤lim then some (Lib.compact l) else none
def okPl (x:Qd):Bool:=decide (-1≤x.ambient_∧x.ambient_<4611686018427387904 ∧ -1≤x.language_∧x.language_<4611686018427387904)
def ltPl (x y:Qd):Bool:=decide (x.ambient_<y.ambient_∨(x.ambient_=y.ambient_∧x.language_<y.language_))
def Qbg9 (l:List Qd):Option (List Qd):=if l.length≤65536 then Qbld okPl ltPl l else none
def keyL (l:List Int):List UInt8:=l.flatMap fun x=>Lib.decDigits x.toNat++[32]
def keyB (l:List Int):ByteArray:=⟨(keyL l).toArray⟩
def keyI (l:List Int):Option ByteArray:=if l.length≤lim∧∀ x∈l,0≤x∧x<100 then some (keyB l) else none
def Qbi9 (x:Qd) (l:List Int):Option ByteArray:=keyI (x.ambient_::x.language_::l)
end Go.Abs
end
section
namespace Go.Abs
open Go Go.Abs
set_option maxRecDepth 10000
set_option maxHeartbeats 4000000
def Q3:Nat:=1099511627776
def Qo7:=Qea
def Qhu:=Qc2 Q3
def Qja:=Qee Q3
def Qcc:=Qk Qja
def Qg1:=Qcy Qcc Q3
def Qe2:=Qz Qhu Qg1
def Qhe:=Qce Q3
def Qmr:=Qe7
def Qk5:=Qfe Qhe Qmr
def Qgr:=Qex Qk5
def Qfo:=Qdj Q3
def Qk6:=Qff Qe2 Qgr Qfo Q3
def Qms:=Qf1 Qe2 Q3
def Qmt:=Qe8
def Qit:=Qfg Qhe Qmt
def Qgg:=Qfh Qit Q3
def Qn3:=Qgl Qgg Q3
def Qfv:=Qcb Q3
def Qq0:=Qe9
def Qku:=Qgm Qq0
def Qjb:=Qdv
def Qcv:=Q6 Qku Qjb Q3
def Qfp:=Q8 Qcv
def Qga:=Qcj Qfp Q3
def Qb4:=Qm
def Qg2:=Qcz Qb4 Qfp Q3
def Qba:=Qw Qms Qn3 Qfv keyI Qga Qg2 Q3
def Qh9:=Qcd Qba
def Qeo:=Qbn Q3
def Qjx:=Qey
def Qjy:=Qez
def Qia:=Qf3 Qeo Qjx Qjy
def Qhm:=Qdc Qb4 Qia Qcv Q3
def Qjc:=Qef Qe2 Qhm Q3
def Qjp:=Qc3 Q3
def Qjq:=Qc4 Q3
def Qgw:=Qd0
def Qk7:=Qen Q3
def Qfq:=Qcr
def Qgx:=Qd1 Qfq Q3
def Qjz:=Qe0 Qjq Qjp Qk7 Qgw Qgx Q3
def Qmu:=Qf4 Qb4 Qjq Qjp Q3
def Qdb:=Qbd Qe2 Qmu Qjz
def Qj0:=Qe1 Qdb Qb4 Qjc
def Qgy:=Qd2 Qk6 Qh9 Qj0
def Qjd:=Qc9 Q3
def Qgs:=Qbf Qgy Qba Qjd Q3
def Qbr:=Qf
def Qej:=Qq Qcc
def Qib:=Qbj Qb4 Qej Qcc Qbr Qbmm Qbdu Q3
def Qkv:=Qcs Qib
def Qdn:=Qt Qbr
def Qje:=Qb9 Qbr
def Qnb:=Qdr Q3
def Qkw:=Qct Qnb
def Qj5:=Qco Qcc Qdn Qkw Qje Q3
def Qkx:=Qda Qfp Q3
def Qmv:=Qdk Qb4 Qej Qbr Q3
def Qg3:=Qy Qbr
def Qky:=Qcu Qcc Qbr Qib Q3
def Qvi:=Qfi Qgs Qkv Qbi9 Qj5 Qmv Qkx Qg3 Qb4 Qej Qky Q3
def Qj6:=Qb6
def Q1c:=Qr5
def Qic:=Qbk Qg3 Qej Qj6 Qbg9 Q3
def Qnc:=Qch Qbi9 Q3
def Qly:=Qc5 Qdn
def Qlz:=Qc6 Q3
def Qjr:=Qcg Qlz
def Qmw:=Qdl Qg3 Qic Q3
def Qnd:=Qds Qdb Qb4 Qej Qcc Qbr Qic Qnc Qjr Qly Qmw Q3
def Qgb:=Qb0 Q3
def Qq1:=Qeq Q3
def Qt0:=Qfm Qgb Qq1
def Qq2:=Qer Qgs Qnd Qt0 Q3
def Qgc:=Q9 Q3
def Qjs:=Qdd Qvi Qq2 Qgc Qo7
def Qdg:=Qbg Q3
def Qf5:=Qbl
def Qcm:=Q2 Q3
def Qd4:=Qb1 Q3
def Qhn:=Qde Qd4 Qcm Q3
def Qf6:=Qdf Q3
def Qel:=Q7 Qd4 Qcm Qf5 Qhn Qf6 Q3
def Qgi:=Qck Qf5 Qel Q3
def Qhv:=Qdo Qdg Qgi Q3
def Qhw:=Qdp Qba Qh9 Q3
def Qhx:=Qcl Qbr Q3
def Qr8:=Qif Qgb
def Qjf:=Qeg Qgs Qkx Qhx Qcc Qbr Qr8 Qdn
def Qdw:=Q0
def Qll:=Qes Q3
def Qlm:=Qet Q3
def Qgk:=Qca Qlm Q3
def Qio:=Qd3 Qcm Q3
def Qfw:=Qbm Qio
def Qfr:=Qfn Qjs Qhv Qhw Qll Qjf Qdw Qgc Qgk Qfw
def Qg4:=Qc0 Qel Q3
def Qg5:=Qi4 Qdb Qg4
end Go.Abs
end
section
namespace Go.Proofs
open Go.Shelf
def Tryz.lays169_ren:Go.Shelf.Ren:=⟨fun|169=>105|n=>n,fun|70=>158|9=>9|0=>0|72=>161|37=>159|127=>206|3=>3|5=>5|n=>n,fun|n=>n⟩
theorem Tryz.lays169:Go.Proofs.Lays.n169 Tryz.prog Tryz.lays169_ren:={
 mixed:=by kernel_rfl
 f169:=Tryz.func105.trans (congrArg some (by kernel_rfl))
 t0:=Tryz.underlying0
 a0:=Tryz.isAgg0
 z0:=Tryz.sizeOf0
 v0:=Tryz.zeroValue0
 t3:=Tryz.underlying3
 a3:=Tryz.isAgg3
 z3:=Tryz.sizeOf3
 v3:=Tryz.zeroValue3
 t9:=Tryz.underlying9
 a9:=Tryz.isAgg9
 z9:=Tryz.sizeOf9
 v9:=Tryz.zeroValue9
 t37:=Tryz.underlying159
 a37:=Tryz.isAgg159
 z37:=Tryz.sizeOf159
 v37:=Tryz.zeroValue159
 t70:=Tryz.underlying158
 a70:=Tryz.isAgg158
 z70:=Tryz.sizeOf158
 v70:=Tryz.zeroValue158
 t72:=Tryz.underlying161
 a72:=Tryz.isAgg161
 z72:=Tryz.sizeOf161
 v72:=Tryz.zeroValue161
 t127:=Tryz.underlying206
 a127:=Tryz.isAgg206
 z127:=Tryz.sizeOf206
 v127:=Tryz.zeroValue206 }
theorem Tryz.Builder_Extra_169:Builder.Extra Tryz.prog Tryz.lays169_ren:={
 sizeBuilder:=by kernel_rfl
 liesBuilder:=by kernel_rfl
 t5:=Tryz.underlying5
 a5:=Tryz.isAgg5
 z5:=Tryz.sizeOf5
 v5:=Tryz.zeroValue5
 infoByte:=by kernel_rfl
 cellsByte:=by kernel_rfl
 sizeByte:=by kernel_rfl
 neB5:=by decide }
open Go.RowKit in
theorem Tryz.Builder_String_any_k (B b:Nat) (l:List UInt8) (w:World) (h:Lib.IsBuilderF 161 5 B b (Lib.byteCells l) w) (hBw:B≤w.heap.size) :
  Calls Tryz.prog 105 #[.pointer (some ⟨b,0,none⟩)] w fun e w'=>e = .returned (.string ⟨l.toArray⟩)∧(Lib.IsBuilderF 161 5 B b (Lib.byteCells l) w'∧Below B w w'∧Lib.OthersKept 5 (some b) w w'):=Any.Builder_String_any_k Tryz.lays169 Tryz.Builder_Extra_169 B b l w h hBw
def Tryz.lays171_ren:Go.Shelf.Ren:=⟨fun|171=>103|243=>142|246=>157|283=>173|284=>174|285=>175|286=>176|129=>170|317=>191|318=>192|319=>193|320=>194|337=>199|338=>200|n=>n,fun|3=>3|9=>9|2=>2|4=>4|171=>234|0=>0|53=>233|37=>159|5=>5|173=>236|212=>251|51=>231|20=>20|213=>252|46=>214|232=>258|233=>259|n=>n,fun|17=>0|18=>1|19=>2|n=>n⟩
theorem Tryz.lays171:Go.Proofs.Lays.n171 Tryz.prog Tryz.lays171_ren:={
 mixed:=by kernel_rfl
 f129:=Tryz.func170.trans (congrArg some (by kernel_rfl))
 f171:=Tryz.func103.trans (congrArg some (by kernel_rfl))
 f243:=Tryz.func142.trans (congrArg some (by kernel_rfl))
 f246:=Tryz.func157.trans (congrArg some (by kernel_rfl))
 f283:=Tryz.func173.trans (congrArg some (by kernel_rfl))
 f284:=Tryz.func174.trans (congrArg some (by kernel_rfl))
 f285:=Tryz.func175.trans (congrArg some (by kernel_rfl))
 f286:=Tryz.func176.trans (congrArg some (by kernel_rfl))
 f317:=Tryz.func191.trans (congrArg some (by kernel_rfl))
 f318:=Tryz.func192.trans (congrArg some (by kernel_rfl))
 f319:=Tryz.func193.trans (congrArg some (by kernel_rfl))
 f320:=Tryz.func194.trans (congrArg some (by kernel_rfl))
 f337:=Tryz.func199.trans (congrArg some (by kernel_rfl))
 f338:=Tryz.func200.trans (congrArg some (by kernel_rfl))
 t0:=Tryz.underlying0
 a0:=Tryz.isAgg0
 z0:=Tryz.sizeOf0
 v0:=Tryz.zeroValue0
 t2:=Tryz.underlying2
 a2:=Tryz.isAgg2
 z2:=Tryz.sizeOf2
 v2:=Tryz.zeroValue2
 t3:=Tryz.underlying3
 a3:=Tryz.isAgg3
 z3:=Tryz.sizeOf3
 v3:=Tryz.zeroValue3
 t4:=Tryz.underlying4
 a4:=Tryz.isAgg4
 z4:=Tryz.sizeOf4
 v4:=Tryz.zeroValue4
 t5:=Tryz.underlying5
 a5:=Tryz.isAgg5
 z5:=Tryz.sizeOf5
 v5:=Tryz.zeroValue5
 t9:=Tryz.underlying9
 a9:=Tryz.isAgg9
 z9:=Tryz.sizeOf9
 v9:=Tryz.zeroValue9
 t20:=Tryz.underlying20
 a20:=Tryz.isAgg20
 z20:=Tryz.sizeOf20
 v20:=Tryz.zeroValue20
 t37:=Tryz.underlying159
 a37:=Tryz.isAgg159
 z37:=Tryz.sizeOf159
 v37:=Tryz.zeroValue159
 t46:=Tryz.underlying214
 a46:=Tryz.isAgg214
 z46:=Tryz.sizeOf214
 v46:=Tryz.zeroValue214
 t51:=Tryz.underlying231
 a51:=Tryz.isAgg231
 z51:=Tryz.sizeOf231
 v51:=Tryz.zeroValue231
 t53:=Tryz.underlying233
 a53:=Tryz.isAgg233
 z53:=Tryz.sizeOf233
 v53:=Tryz.zeroValue233
 t171:=Tryz.underlying234
 a171:=Tryz.isAgg234
 z171:=Tryz.sizeOf234
 v171:=Tryz.zeroValue234
 t173:=Tryz.underlying236
 a173:=Tryz.isAgg236
 z173:=Tryz.sizeOf236
 v173:=Tryz.zeroValue236
 t212:=Tryz.underlying251
 a212:=Tryz.isAgg251
 z212:=Tryz.sizeOf251
 v212:=Tryz.zeroValue251
 t213:=Tryz.underlying252
 a213:=Tryz.isAgg252
 z213:=Tryz.sizeOf252
 t232:=Tryz.underlying258
 a232:=Tryz.isAgg258
 z232:=Tryz.sizeOf258
 v232:=Tryz.zeroValue258
 t233:=Tryz.underlying259
 a233:=Tryz.isAgg259
 z233:=Tryz.sizeOf259
 v233:=Tryz.zeroValue259
 g17:=by kernel_rfl
 g18:=by kernel_rfl
 g19:=by kernel_rfl }
open Go.RowKit Go.Sort Go.Lib in
theorem Tryz.strconv_Itoa_small (i:Nat) (hi:i<100) (w:World) :
  Calls Tryz.prog 103 #[.int .i64 i] w fun e w'=>e = .returned (.string ⟨(Lib.decDigits i).toArray⟩)∧w'=w:=Any.strconv_Itoa_small Tryz.lays171 i hi w
def Tryz.laysNm220_ren:Go.Shelf.Ren:=⟨fun|20=>125|n=>n,fun|22=>32|3=>3|4=>4|0=>0|n=>n,fun|n=>n⟩
theorem Tryz.laysNm220:Go.Proofs.Lays2.n20 Tryz.prog Tryz.laysNm220_ren:={
 mixed:=by kernel_rfl
 f20:=Tryz.func125.trans (congrArg some (by kernel_rfl))
 t0:=Tryz.underlying0
 a0:=Tryz.isAgg0
 z0:=Tryz.sizeOf0
 v0:=Tryz.zeroValue0
 t3:=Tryz.underlying3
 a3:=Tryz.isAgg3
 z3:=Tryz.sizeOf3
 v3:=Tryz.zeroValue3
 t4:=Tryz.underlying4
 a4:=Tryz.isAgg4
 z4:=Tryz.sizeOf4
 v4:=Tryz.zeroValue4
 t22:=Tryz.underlying32
 a22:=Tryz.isAgg32
 z22:=Tryz.sizeOf32
 v22:=Tryz.zeroValue32
 i3:=by kernel_rfl }
open Go.RowKit Go.Lib Go.Sort in
theorem Tryz.slices_Compact_int (blk off cap:Nat) (zs:List Int) (w:World) (hH:Holds (Value.int .i64) w blk off zs.toArray) (hsz:zs.length≤9223372036854775807) (hcap:zs.length≤cap) :
  Calls Tryz.prog 125 #[.slice (some ⟨blk,off,none⟩) zs.length cap] w fun e w'=>e = .returned (.slice (some ⟨blk,off,none⟩) (Lib.compact zs).length cap)∧∃ q,w'=putRow (Value.int .i64) (Sort.ahead w q) blk off (Lib.compact zs++List.replicate (zs.length-(Lib.compact zs).length) 0).toArray:=Any.slices_Compact_int Tryz.laysNm220 blk off cap zs w hH hsz hcap
open Go.RowKit Go.Lib Go.Sort in
theorem Tryz.slices_Compact_int_empty (a:Option Addr) (cap:Nat) (w:World) :
  Calls Tryz.prog 125 #[.slice a 0 cap] w fun e w'=>e = .returned (.slice a 0 cap)∧w'=w:=Any.slices_Compact_int_empty Tryz.laysNm220 a cap w
def Tryz.laysSlM5_f124_ren:Go.Shelf.Ren:=⟨fun|5=>124|8=>152|7=>151|19=>169|20=>170|10=>161|11=>162|12=>163|13=>164|14=>165|15=>166|16=>153|17=>167|18=>168|30=>186|31=>187|32=>188|33=>189|34=>190|35=>171|40=>198|n=>n,fun|23=>32|25=>3|3=>3|32=>214|22=>32|0=>0|44=>231|46=>233|4=>4|36=>225|35=>224|41=>143|5=>5|9=>9|53=>243|57=>247|63=>255|64=>113|n=>n,fun|n=>n⟩
theorem Tryz.laysSlM5_f124:Go.Proofs.SlLaysM.n5 Tryz.prog Tryz.laysSlM5_f124_ren:={
 mixed:=by kernel_rfl
 f5:=⟨Tryz.f124.name,by decide,Tryz.func124.trans (congrArg some (by kernel_rfl))⟩
 f7:=⟨Tryz.f151.name,by decide,Tryz.func151.trans (congrArg some (by kernel_rfl))⟩
 f8:=Tryz.func152.trans (congrArg some (by kernel_rfl))
 f10:=⟨Tryz.f161.name,by decide,Tryz.func161.trans (congrArg some (by kernel_rfl))⟩
 f11:=⟨Tryz.f162.name,by decide,Tryz.func162.trans (congrArg some (by kernel_rfl))⟩
 f12:=⟨Tryz.f163.name,by decide,Tryz.func163.trans (congrArg some (by kernel_rfl))⟩
 f13:=⟨Tryz.f164.name,by decide,Tryz.func164.trans (congrArg some (by kernel_rfl))⟩
 f14:=⟨Tryz.f165.name,by decide,Tryz.func165.trans (congrArg some (by kernel_rfl))⟩
 f15:=⟨Tryz.f166.name,by decide,Tryz.func166.trans (congrArg some (by kernel_rfl))⟩
 f16:=⟨Tryz.f153.name,by decide,Tryz.func153.trans (congrArg some (by kernel_rfl))⟩
 f17:=⟨Tryz.f167.name,by decide,Tryz.func167.trans (congrArg some (by kernel_rfl))⟩
 f18:=⟨Tryz.f168.name,by decide,Tryz.func168.trans (congrArg some (by kernel_rfl))⟩
 f19:=Tryz.func169.trans (congrArg some (by kernel_rfl))
 f20:=Tryz.func170.trans (congrArg some (by kernel_rfl))
 f30:=⟨Tryz.f186.name,by decide,Tryz.func186.trans (congrArg some (by kernel_rfl))⟩
 f31:=Tryz.func187.trans (congrArg some (by kernel_rfl))
 f32:=Tryz.func188.trans (congrArg some (by kernel_rfl))
 f33:=⟨Tryz.f189.name,by decide,Tryz.func189.trans (congrArg some (by kernel_rfl))⟩
 f34:=⟨Tryz.f190.name,by decide,Tryz.func190.trans (congrArg some (by kernel_rfl))⟩
 f35:=⟨Tryz.f171.name,by decide,Tryz.func171.trans (congrArg some (by kernel_rfl))⟩
 f40:=⟨Tryz.f198.name,by decide,Tryz.func198.trans (congrArg some (by kernel_rfl))⟩
 t0:=Tryz.underlying0
 a0:=Tryz.isAgg0
 z0:=Tryz.sizeOf0
 v0:=Tryz.zeroValue0
 t3:=Tryz.underlying3
 a3:=Tryz.isAgg3
 z3:=Tryz.sizeOf3
 v3:=Tryz.zeroValue3
 t4:=Tryz.underlying4
 a4:=Tryz.isAgg4
 z4:=Tryz.sizeOf4
 v4:=Tryz.zeroValue4
 t5:=Tryz.underlying5
 a5:=Tryz.isAgg5
 z5:=Tryz.sizeOf5
 v5:=Tryz.zeroValue5
 t9:=Tryz.underlying9
 a9:=Tryz.isAgg9
 z9:=Tryz.sizeOf9
 v9:=Tryz.zeroValue9
 t22:=Tryz.underlying32
 a22:=Tryz.isAgg32
 z22:=Tryz.sizeOf32
 v22:=Tryz.zeroValue32
 t23:=Tryz.underlying32
 a23:=Tryz.isAgg32
 z23:=Tryz.sizeOf32
 v23:=Tryz.zeroValue32
 t25:=Tryz.underlying3
 a25:=Tryz.isAgg3
 z25:=Tryz.sizeOf3
 v25:=Tryz.zeroValue3
 t32:=Tryz.underlying214
 a32:=Tryz.isAgg214
 z32:=Tryz.sizeOf214
 v32:=Tryz.zeroValue214
 t35:=Tryz.underlying224
 a35:=Tryz.isAgg224
 z35:=Tryz.sizeOf224
 v35:=Tryz.zeroValue224
 t36:=Tryz.underlying225
 a36:=Tryz.isAgg225
 z36:=Tryz.sizeOf225
 v36:=Tryz.zeroValue225
 t41:=Tryz.underlying143
 a41:=Tryz.isAgg143
 z41:=Tryz.sizeOf143
 v41:=Tryz.zeroValue143
 t44:=Tryz.underlying231
 a44:=Tryz.isAgg231
 z44:=Tryz.sizeOf231
 v44:=Tryz.zeroValue231
 t46:=Tryz.underlying233
 a46:=Tryz.isAgg233
 z46:=Tryz.sizeOf233
 v46:=Tryz.zeroValue233
 t53:=Tryz.underlying243
 a53:=Tryz.isAgg243
 z53:=Tryz.sizeOf243
 v53:=Tryz.zeroValue243
 t57:=Tryz.underlying247
 a57:=Tryz.isAgg247
 z57:=Tryz.sizeOf247
 v57:=Tryz.zeroValue247
 t63:=Tryz.underlying255
 a63:=Tryz.isAgg255
 z63:=Tryz.sizeOf255
 v63:=Tryz.zeroValue255
 t64:=Tryz.underlying113
 a64:=Tryz.isAgg113
 z64:=Tryz.sizeOf113
 v64:=Tryz.zeroValue113 }
open Go.Sort Go.RowKit in
theorem Tryz.slices_Sort_int (blk off cap:Nat) (zs:List Int) (w:World) (hH:Holds (Value.int .i64) w blk off zs.toArray) (hblk:blk<w.heap.size) (hsz:zs.length<4611686018427387904) :
  Calls Tryz.prog 124 #[.slice (some ⟨blk,off,none⟩) zs.length cap] w fun e w' =>
   e = .returned (.tuple #[])∧∃ n os,w'=grow (putRow (Value.int .i64) (Sort.ahead w n) blk off (zs.mergeSort fun x y=>decide (x≤y)).toArray) os:=AnyM.slices_Sort_int Tryz.laysSlM5_f124 blk off cap zs w hH hblk hsz
open Go.RowKit Go.Sort in
theorem Tryz.slices_Sort_int_none (p:Option Addr) (cap:Nat) (w:World) :
  Calls Tryz.prog 124 #[.slice p 0 cap] w fun e w'=>e = .returned (.tuple #[])∧w'=w:=AnyM.slices_Sort_int_none Tryz.laysSlM5_f124 p cap w
def Tryz.sortP_ren:Go.Shelf.Ren:=⟨fun|6=>145|15=>152|14=>158|28=>169|29=>170|20=>177|21=>178|22=>179|23=>180|24=>181|25=>182|26=>183|27=>184|46=>195|47=>187|48=>188|49=>196|50=>197|57=>201|n=>n,fun|22=>175|24=>96|25=>211|3=>3|39=>214|0=>0|53=>231|55=>233|4=>4|46=>225|45=>224|50=>143|5=>5|9=>9|66=>243|70=>247|76=>255|77=>113|n=>n,fun|n=>n⟩
theorem Tryz.sortP:Go.Proofs.SlLaysF0.n6 Tryz.prog Tryz.sortP_ren:={
 mixed:=by kernel_rfl
 f6:=⟨Tryz.f145.name,by decide,Tryz.func145.trans (congrArg some (by kernel_rfl))⟩
 f14:=⟨Tryz.f158.name,by decide,Tryz.func158.trans (congrArg some (by kernel_rfl))⟩
 f15:=Tryz.func152.trans (congrArg some (by kernel_rfl))
 f20:=⟨Tryz.f177.name,by decide,Tryz.func177.trans (congrArg some (by kernel_rfl))⟩
 f21:=⟨Tryz.f178.name,by decide,Tryz.func178.trans (congrArg some (by kernel_rfl))⟩
 f22:=⟨Tryz.f179.name,by decide,Tryz.func179.trans (congrArg some (by kernel_rfl))⟩
 f23:=⟨Tryz.f180.name,by decide,Tryz.func180.trans (congrArg some (by kernel_rfl))⟩
 f24:=⟨Tryz.f181.name,by decide,Tryz.func181.trans (congrArg some (by kernel_rfl))⟩
 f25:=⟨Tryz.f182.name,by decide,Tryz.func182.trans (congrArg some (by kernel_rfl))⟩
 f26:=⟨Tryz.f183.name,by decide,Tryz.func183.trans (congrArg some (by kernel_rfl))⟩
 f27:=⟨Tryz.f184.name,by decide,Tryz.func184.trans (congrArg some (by kernel_rfl))⟩
 f28:=Tryz.func169.trans (congrArg some (by kernel_rfl))
 f29:=Tryz.func170.trans (congrArg some (by kernel_rfl))
 f46:=⟨Tryz.f195.name,by decide,Tryz.func195.trans (congrArg some (by kernel_rfl))⟩
 f47:=Tryz.func187.trans (congrArg some (by kernel_rfl))
 f48:=Tryz.func188.trans (congrArg some (by kernel_rfl))
 f49:=⟨Tryz.f196.name,by decide,Tryz.func196.trans (congrArg some (by kernel_rfl))⟩
 f50:=⟨Tryz.f197.name,by decide,Tryz.func197.trans (congrArg some (by kernel_rfl))⟩
 f57:=⟨Tryz.f201.name,by decide,Tryz.func201.trans (congrArg some (by kernel_rfl))⟩
 t0:=Tryz.underlying0
 a0:=Tryz.isAgg0
 z0:=Tryz.sizeOf0
 v0:=Tryz.zeroValue0
 t3:=Tryz.underlying3
 a3:=Tryz.isAgg3
 z3:=Tryz.sizeOf3
 v3:=Tryz.zeroValue3
 t4:=Tryz.underlying4
 a4:=Tryz.isAgg4
 z4:=Tryz.sizeOf4
 v4:=Tryz.zeroValue4
 t5:=Tryz.underlying5
 a5:=Tryz.isAgg5
 z5:=Tryz.sizeOf5
 v5:=Tryz.zeroValue5
 t9:=Tryz.underlying9
 a9:=Tryz.isAgg9
 z9:=Tryz.sizeOf9
 v9:=Tryz.zeroValue9
 t22:=Tryz.underlying175
 a22:=Tryz.isAgg175
 z22:=Tryz.sizeOf175
 v22:=Tryz.zeroValue175
 t25:=Tryz.underlying211
 a25:=Tryz.isAgg211
 z25:=Tryz.sizeOf211
 v25:=Tryz.zeroValue211
 t39:=Tryz.underlying214
 a39:=Tryz.isAgg214
 z39:=Tryz.sizeOf214
 v39:=Tryz.zeroValue214
 t45:=Tryz.underlying224
 a45:=Tryz.isAgg224
 z45:=Tryz.sizeOf224
 v45:=Tryz.zeroValue224
 t46:=Tryz.underlying225
 a46:=Tryz.isAgg225
 z46:=Tryz.sizeOf225
 v46:=Tryz.zeroValue225
 t50:=Tryz.underlying143
 a50:=Tryz.isAgg143
 z50:=Tryz.sizeOf143
 v50:=Tryz.zeroValue143
 t53:=Tryz.underlying231
 a53:=Tryz.isAgg231
 z53:=Tryz.sizeOf231
 v53:=Tryz.zeroValue231
 t55:=Tryz.underlying233
 a55:=Tryz.isAgg233
 z55:=Tryz.sizeOf233
 v55:=Tryz.zeroValue233
 t66:=Tryz.underlying243
 a66:=Tryz.isAgg243
 z66:=Tryz.sizeOf243
 v66:=Tryz.zeroValue243
 t70:=Tryz.underlying247
 a70:=Tryz.isAgg247
 z70:=Tryz.sizeOf247
 v70:=Tryz.zeroValue247
 t76:=Tryz.underlying255
 a76:=Tryz.isAgg255
 z76:=Tryz.sizeOf255
 v76:=Tryz.zeroValue255
 t77:=Tryz.underlying113
 a77:=Tryz.isAgg113
 z77:=Tryz.sizeOf113
 v77:=Tryz.zeroValue113 }
def Tryz.lays167_ren:Go.Shelf.Ren:=⟨fun|167=>104|240=>141|276=>156|n=>n,fun|0=>0|4=>4|5=>5|9=>9|20=>20|37=>159|70=>158|72=>161|75=>163|80=>168|164=>218|n=>n,fun|n=>n⟩
theorem Tryz.lays167:Go.Proofs.Lays.n167 Tryz.prog Tryz.lays167_ren:={
 mixed:=by kernel_rfl
 f167:=Tryz.func104.trans (congrArg some (by kernel_rfl))
 f240:=Tryz.func141.trans (congrArg some (by kernel_rfl))
 f276:=Tryz.func156.trans (congrArg some (by kernel_rfl))
 t0:=Tryz.underlying0
 a0:=Tryz.isAgg0
 z0:=Tryz.sizeOf0
 v0:=Tryz.zeroValue0
 t4:=Tryz.underlying4
 a4:=Tryz.isAgg4
 z4:=Tryz.sizeOf4
 v4:=Tryz.zeroValue4
 t5:=Tryz.underlying5
 a5:=Tryz.isAgg5
 z5:=Tryz.sizeOf5
 v5:=Tryz.zeroValue5
 t9:=Tryz.underlying9
 a9:=Tryz.isAgg9
 z9:=Tryz.sizeOf9
 v9:=Tryz.zeroValue9
 t20:=Tryz.underlying20
 a20:=Tryz.isAgg20
 z20:=Tryz.sizeOf20
 v20:=Tryz.zeroValue20
 t37:=Tryz.underlying159
 a37:=Tryz.isAgg159
 z37:=Tryz.sizeOf159
 v37:=Tryz.zeroValue159
 t70:=Tryz.underlying158
 a70:=Tryz.isAgg158
 z70:=Tryz.sizeOf158
 v70:=Tryz.zeroValue158
 t72:=Tryz.underlying161
 a72:=Tryz.isAgg161
 z72:=Tryz.sizeOf161
 v72:=Tryz.zeroValue161
 t75:=Tryz.underlying163
 a75:=Tryz.isAgg163
 z75:=Tryz.sizeOf163
 v75:=Tryz.zeroValue163
 t164:=Tryz.underlying218
 a164:=Tryz.isAgg218
 z164:=Tryz.sizeOf218
 v164:=Tryz.zeroValue218 }
theorem Tryz.Builder_Extra_167:Builder.Extra Tryz.prog Tryz.lays167_ren:={
 sizeBuilder:=by kernel_rfl
 liesBuilder:=by kernel_rfl
 t5:=Tryz.underlying5
 a5:=Tryz.isAgg5
 z5:=Tryz.sizeOf5
 v5:=Tryz.zeroValue5
 infoByte:=by kernel_rfl
 cellsByte:=by kernel_rfl
 sizeByte:=by kernel_rfl
 neB5:=by decide }
open Go.RowKit in
theorem Tryz.Builder_WriteByte_k (B b:Nat) (bs:List Value) (c:Int) (w:World) (h:Lib.IsBuilderF 161 5 B b bs w) (hlen:bs.length+1≤140737488355328) (hBw:B≤w.heap.size) :
  Calls Tryz.prog 104 #[.pointer (some ⟨b,0,none⟩),.int .u8 c] w fun e w'=>e = .returned .nilIface∧(Lib.BuilderAtF 161 5 B b (.pointer (some ⟨b,0,none⟩)) (bs++[.int .u8 c]) w'∧Below B w w'∧Lib.OthersKept 5 (some b) w w'):=Any.Builder_WriteByte_k Tryz.lays167 Tryz.Builder_Extra_167 B b bs c w h hlen hBw
def Tryz.lays166_ren:Go.Shelf.Ren:=⟨fun|166=>102|240=>141|276=>156|n=>n,fun|0=>0|3=>3|4=>4|5=>5|9=>9|20=>20|37=>159|70=>158|72=>161|75=>163|80=>168|164=>218|n=>n,fun|n=>n⟩
theorem Tryz.lays166:Go.Proofs.Lays.n166 Tryz.prog Tryz.lays166_ren:={
 mixed:=by kernel_rfl
 f166:=Tryz.func102.trans (congrArg some (by kernel_rfl))
 f240:=Tryz.func141.trans (congrArg some (by kernel_rfl))
 f276:=Tryz.func156.trans (congrArg some (by kernel_rfl))
 t0:=Tryz.underlying0
 a0:=Tryz.isAgg0
 z0:=Tryz.sizeOf0
 v0:=Tryz.zeroValue0
 t3:=Tryz.underlying3
 a3:=Tryz.isAgg3
 z3:=Tryz.sizeOf3
 v3:=Tryz.zeroValue3
 t4:=Tryz.underlying4
 a4:=Tryz.isAgg4
 z4:=Tryz.sizeOf4
 v4:=Tryz.zeroValue4
 t9:=Tryz.underlying9
 a9:=Tryz.isAgg9
 z9:=Tryz.sizeOf9
 v9:=Tryz.zeroValue9
 t20:=Tryz.underlying20
 a20:=Tryz.isAgg20
 z20:=Tryz.sizeOf20
 v20:=Tryz.zeroValue20
 t37:=Tryz.underlying159
 a37:=Tryz.isAgg159
 z37:=Tryz.sizeOf159
 v37:=Tryz.zeroValue159
 t70:=Tryz.underlying158
 a70:=Tryz.isAgg158
 z70:=Tryz.sizeOf158
 v70:=Tryz.zeroValue158
 t72:=Tryz.underlying161
 a72:=Tryz.isAgg161
 z72:=Tryz.sizeOf161
 v72:=Tryz.zeroValue161
 t75:=Tryz.underlying163
 a75:=Tryz.isAgg163
 z75:=Tryz.sizeOf163
 v75:=Tryz.zeroValue163
 t164:=Tryz.underlying218
 a164:=Tryz.isAgg218
 z164:=Tryz.sizeOf218
 v164:=Tryz.zeroValue218 }
theorem Tryz.Builder_Extra_166:Builder.Extra Tryz.prog Tryz.lays166_ren:={
 sizeBuilder:=by kernel_rfl
 liesBuilder:=by kernel_rfl
 t5:=Tryz.underlying5
 a5:=Tryz.isAgg5
 z5:=Tryz.sizeOf5
 v5:=Tryz.zeroValue5
 infoByte:=by kernel_rfl
 cellsByte:=by kernel_rfl
 sizeByte:=by kernel_rfl
 neB5:=by decide }
open Go.RowKit in
theorem Tryz.Builder_WriteString_k (B b:Nat) (bs:List Value) (s:ByteArray) (w:World) (h:Lib.IsBuilderF 161 5 B b bs w) (hlen:bs.length+s.size≤140737488355328) (hBw:B≤w.heap.size) :
  Calls Tryz.prog 102 #[.pointer (some ⟨b,0,none⟩),.string s] w fun e w'=>e = .returned (.tuple #[.int .i64 s.size,.nilIface])∧(Lib.BuilderAtF 161 5 B b (.pointer (some ⟨b,0,none⟩)) (bs++Lib.strCells s) w'∧Below B w w'∧Lib.OthersKept 5 (some b) w w'):=Any.Builder_WriteString_k Tryz.lays166 Tryz.Builder_Extra_166 B b bs s w h hlen hBw
end Go.Proofs
end
section
namespace Go.Abs
open Go Go.Sort Go.RowKit
theorem Q5m {P:Program} {f:FuncId} {ex:Array Value} {exV:List V} {sz nb:Nat} {M:Mem} (hb:Qii P f=true) (hex:∀ g w us,RFs g w exV us→us=ex.toList)
  (h:∀ (p:Option Addr) (cap:Nat) (w:World),Calls P f (#[.slice p 0 cap]++ex) w fun e' w'=>e' = .returned (.tuple #[])∧w'=w) (hexf:V.dems exV=exV:=by rfl) :
  ACalls P f (.d (.lst sz [])::exV) M nb (.tup []) M nb:=by
 refine ACalls.mk' hb (Nat.le_refl _) (by simp only [V.dems,V.dem,hexf]) fun w g us hm hMon hus hfl hons=>?_;obtain ⟨u0,us',rfl,hu0,hus'⟩:=hus;have h1:=hex _ _ _ hus';subst h1;have h2:∃ p cap,u0 = .slice p 0 cap:=by
  have:=RF_d.1 hu0;obtain ⟨a,cap,rfl,_,_⟩:=this;exact ⟨a,cap,rfl⟩
 obtain ⟨p,cap,rfl⟩:=h2;have e1:(Value.slice p 0 cap::ex.toList).toArray = #[.slice p 0 cap]++ex:=by apply Array.ext';simp
 rw [e1];refine (h p cap w).mono ?_;rintro e' w' ⟨rfl,rfl⟩;exact ⟨_,g,rfl,hm,⟨[],rfl,rfl⟩,trivial,hMon,Fr.refl _ _ _⟩
theorem Qbb4 (l:List Int):(l.mergeSort fun x y=>decide (x≤y))=Qmq Qkt l:=by
 have hO:Go.Sort.SWO Qkt:=⟨fun x=>by simp [Qkt],fun x y z h1 h2=>by simp [Qkt] at *;omega,fun x y z h1 h2=>by simp [Qkt] at *;omega⟩;refine List.Perm.eq_of_pairwise (le:=fun a b=>Qkt b a=false) (fun a b _ _ h1 h2=>by simp [Qkt] at *;omega) ?_ (Qpp hO l) ((List.mergeSort_perm _ _).trans (Qnt _ l).symm);have:=List.pairwise_mergeSort (le:=fun x y:Int=>decide (x≤y)) (fun a b c h1 h2=>by simp at *;omega) (fun a b=>by simp;omega) l;exact this.imp fun h=>by simp [Qkt] at *;omega
end Go.Abs
end
section
namespace Go.Abs
open Go Go.Sort Go.Shelf Go.RowKit Go.Lib Go.Proofs
theorem Qbaj {α:Type} [Inhabited α] {enc:α→List Value} {k:Nat} (hk:∀ x,(enc x).length=k) (h0:0<k):∀ (l:List α) (t:Nat),t<l.length*k→(l.map enc).flatten[t]? = some (enc l[t / k]!)[t % k]!
 | [],t,h=>by simp at h
 | x::xs,t,h=>by
  rw [List.map_cons,List.flatten_cons];by_cases hl:t<k
  ·rw [List.getElem?_append_left (by rw [hk];exact hl),Nat.div_eq_of_lt hl,Nat.mod_eq_of_lt hl];have:t<(enc x).length:=by rw [hk];exact hl
   simp [this]
  ·have hge:k≤t:=by omega
   have h2:t-k<xs.length*k:=by simp only [List.length_cons,Nat.add_mul,Nat.one_mul] at h;omega
   rw [List.getElem?_append_right (by rw [hk];exact hge),hk,Qbaj hk h0 xs (t-k) h2];have e1:t / k=(t-k) / k+1:=by rw [← Nat.add_div_right _ h0,Nat.sub_add_cancel hge]
   have e2:t % k=(t-k) % k:=by rw [Nat.mod_eq_sub_mod hge]
   rw [e1,e2];simp
theorem Qbak {α:Type} [Inhabited α] {enc:α→List Value} {k:Nat} (hk:∀ x,(enc x).length=k) (h0:0<k) (l:List α):flatK enc k l.toArray=(l.map enc).flatten.toArray:=by
 have hs:(l.map enc).flatten.length=l.length*k:=by
  induction l with
  | nil=>simp
  | cons x xs ih=>rw [List.map_cons,List.flatten_cons,List.length_append,ih,hk];simp [Nat.add_mul];omega
 refine ext_get! (by simp [hs]) fun t ht=>?_;have ht' : t<l.length*k:=by simpa using ht
 rw [get_flatK _ _ _ _ (by simpa using ht')];have:=Qbaj hk h0 l t ht';obtain ⟨h1,h2⟩:=List.getElem?_eq_some_iff.1 this;rw [getElem!_pos _ t (by simpa using h1)];simp only [List.getElem_toArray,h2];simp
theorem Qbal {α:Type} (e:α→List D) (xs:List α):rowV e xs=(xs.map fun x=>(e x).map D.val).flatten:=by
 unfold rowV;rw [List.map_flatten,List.map_map];rfl
theorem Q6h {P:Program} {ρ:Ren} {α:Type} [Inhabited α] (L:SlLaysF0.n6 P ρ) {k:Nat} (aE:∀ w,(isAgg (ρ.t 24)).run P w = .ok true w) (zE:∀ w,(Go.sizeOf (ρ.t 24)).run P w = .ok k w) (e:α→List D) (hk:∀ x,(e x).length=k) (h0:0<k) (hsc:∀ x,(e x).all D.scalar=true)
  (cf:α→α→Int) (hO:SWO (ltOf cf)) (g:Nat) (cb:Array Value) (eg:∀ args w,(callFunc g args).run P w = .ok (.enter g args) w)
  (hcmp:∀ (x y:α) (W:World),Calls P g (#[.agg ((e x).map D.val).toArray,.agg ((e y).map D.val).toArray]++cb) W fun r w'=>r = .returned (.int .i64 (cf x y))∧∃ q os',w'=grow (W.drewN q) os') :
  Qbg0 P (ρ.f 6) e #[.func (.func g) #[] cb] (fun xs=>(pdq (ltOf cf) xs.toArray 0 xs.length (Lib.bitLen xs.length) true true).toList):=by
 intro blk cap xs w hc hblk hsz;have henc:∀ x,((fun x=>(e x).map D.val) x).length=k:=fun x=>by simp [hk]
 have h1:∀ x:α,∀ v∈(e x).map D.val,v.oneCell'=true:=by
  intro x v hv;obtain ⟨d,hd,rfl⟩:=List.mem_map.1 hv;exact Qbb2 (List.all_eq_true.1 (hsc x) d hd)
 have hH:HoldsK (fun x=>(e x).map D.val) k w blk 0 xs.toArray:=by
  unfold HoldsK;rw [Qbak henc h0,← Qbal];intro j hj;have hj' : j<(rowV e xs).length:=by simpa using hj
  obtain ⟨k1,k2⟩:=hc j hj';rw [Nat.zero_add];refine ⟨k1.trans ?_,k2⟩;rw [List.getElem?_eq_getElem hj',getElem!_pos _ j hj];rfl
 have hcl:CmpLays P g cb (fun x=>(e x).map D.val) k cf blk 0 xs.toArray.size w:=fun _ _ _ _ x y=>hcmp x y _;have:=AnyQ.slices_SortFunc_eq L k aE zE (fun x=>(e x).map D.val) henc h1 cf hO g cb blk 0 cap xs.toArray w eg hcl hH hblk (by simpa using hsz);refine this.mono ?_;rintro r w' ⟨rfl,n,os,rfl⟩;refine ⟨rfl,n,os,?_⟩;unfold sortWorldK putRowK;have hrow:flatK (fun x=>(e x).map D.val) k (pdq (ltOf cf) xs.toArray 0 xs.toArray.size (Lib.bitLen xs.toArray.size) true true)=(rowV e (pdq (ltOf cf) xs.toArray 0 xs.length (Lib.bitLen xs.length) true true).toList).toArray:=by
  rw [Qbal,← Qbak henc h0];simp
 rw [hrow]
section
variable {α:Type} [Inhabited α]
theorem Q8s {lt:α→α→Bool} (hO:SWO lt) (xs:List α) (k:Nat):(pdq lt xs.toArray 0 xs.length k true true).toList.Perm xs∧(pdq lt xs.toArray 0 xs.length k true true).toList.Pairwise fun a b=>lt b a=false:=by
 obtain ⟨⟨h1,_,h2⟩,h3⟩:=pdq_sorts lt hO xs.toArray 0 xs.length k true true (Nat.zero_le _) (by simp) (Or.inl rfl);generalize pdq lt xs.toArray 0 xs.length k true true=d at *
 have hs:d.size=xs.length:=by simpa using h1
 refine ⟨?_,?_⟩
 ·have e1:d.extract 0 xs.length=d:=by rw [← hs];exact Array.extract_size
  have e2:xs.toArray.extract 0 xs.length=xs.toArray:=by
   have:xs.length=xs.toArray.size:=by simp
   rw [this];exact Array.extract_size
  rw [e1,e2] at h2;simpa using h2
 ·rw [List.pairwise_iff_getElem];intro i j hi hj hij;have hi' : i<d.size:=by simpa using hi
  have hj' : j<d.size:=by simpa using hj
  have:=h3 i j (Nat.zero_le _) hij (by omega);rw [getElem!_pos d i hi',getElem!_pos d j hj'] at this;simpa using this
theorem Qbha {lt:α→α→Bool} (hO:SWO lt) (xs:List α) (k:Nat) (hd:Q6g lt xs=true):(pdq lt xs.toArray 0 xs.length k true true).toList=Qmq lt xs :=
 Q8r hO hd (Q8s hO xs k).1 (Q8s hO xs k).2
end
theorem Qbhb {β:Type} {P:Program} {c:Nat} {e:β→List D} {sz N:Nat} {ok:β→Bool} {lt:β→β→Bool} [Inhabited {x:β // ok x=true}] {lt' : {x:β // ok x=true}→{x:β // ok x=true}→Bool}
  (hN:N<4611686018427387904) (hk:∀ x,(e x).length=sz) (hsc:∀ x,(e x).all D.scalar=true) (hO:SWO lt') (hlt:∀ x y,lt' x y=lt x.1 y.1) (hb:Qii P c=true) {ex:Array Value} {exV:List V} (hex:∀ g w us,RFs g w exV us→us=ex.toList)
  (hrow:Qbg0 P c (fun x:{x:β // ok x=true}=>e x.1) ex (fun xs=>(pdq lt' xs.toArray 0 xs.length (Lib.bitLen xs.length) true true).toList))
  (hnone:∀ (p:Option Addr) (cap:Nat) (w:World),Calls P c (#[.slice p 0 cap]++ex) w fun e' w'=>e' = .returned (.tuple #[])∧w'=w) (hexf:V.dems exV=exV:=by rfl) :
  RowK P c e sz exV (fun l=>if l.length≤N then Qbld ok lt l else none):=by
 intro xs ys h;dsimp only at h;split at h<;>try (cases h;done)
 rename_i hlN;unfold Qbld at h;split at h<;>cases h;rename_i hok;simp only [Bool.and_eq_true,List.all_eq_true] at hok;obtain ⟨ho,hd⟩:=hok;obtain ⟨zs,rfl⟩ : ∃ zs:List {x:β // ok x=true},xs=zs.map Subtype.val:=⟨xs.pmap Subtype.mk ho,by rw [List.map_pmap];simp⟩;have hd' : Q6g lt' zs=true:=by
  rw [Qbai] at hd;rw [show lt'=fun a b=>lt a.1 b.1 from funext fun a=>funext fun b=>hlt a b];exact hd
 have e1:Qmq lt (zs.map Subtype.val)=(Qmq lt' zs).map Subtype.val:=by
  rw [Q7j,show lt'=fun a b=>lt a.1 b.1 from funext fun a=>funext fun b=>hlt a b]
 refine ⟨Qpo _ _,fun h0=>?_,fun hl cap k0 M nb hM=>?_⟩
 ·simp only [List.map_eq_nil_iff] at h0;subst h0;exact ⟨rfl,fun M nb=>Q5m hb hex hnone hexf⟩
 ·have hM' : M k0=some (.cells (Qb2 (zs.map fun x=>e x.1) ((cap-zs.length)*sz))):=by
   rw [hM,List.map_map,List.length_map];rfl
  have:=Q7f (fun x=>hk x.1) (fun x=>hsc x.1) (fun xs=>(Q8s hO xs _).1.length_eq) hex hb hrow zs cap k0 M nb hM' (by rw [List.length_map] at hlN;omega) hexf;rw [Qbha hO zs _ hd'] at this;rw [e1,List.map_map,List.length_map];exact this
end Go.Abs
end
section
namespace Go.Abs
open Go Go.Sort Go.RowKit
theorem Q5n (xs:List Int):rowV (eI .i64) xs=xs.map (Value.int .i64):=by
 unfold rowV
 induction xs with
 | nil=>rfl
 | cons x xs ih=>simp only [List.map_cons,List.flatten_cons,List.map_append,ih];rfl
theorem Qbhc {P:Program} {c:Nat} (hb:Qii P c=true)
  (hs:∀ (blk off cap:Nat) (zs:List Int) (w:World),Holds (Value.int .i64) w blk off zs.toArray→blk<w.heap.size→zs.length<4611686018427387904 →
   Calls P c #[.slice (some ⟨blk,off,none⟩) zs.length cap] w fun e w'=>e = .returned (.tuple #[])∧∃ n os,w'=grow (putRow (Value.int .i64) (Sort.ahead w n) blk off (zs.mergeSort fun x y=>decide (x≤y)).toArray) os)
  (hnone:∀ (p:Option Addr) (cap:Nat) (w:World),Calls P c (#[.slice p 0 cap] ++ #[]) w fun e' w'=>e' = .returned (.tuple #[])∧w'=w) :
  RowK P c (eI .i64) 1 [] (fun l=>if l.length≤lim then some (Qmq Qkt l) else none):=by
 have hrow:Qbg0 P c (eI .i64) #[] (fun xs=>Qmq Qkt xs):=by
  intro blk cap xs w hcell hblk hsz;refine Calls.mono (hs blk 0 cap xs w ?_ hblk hsz) ?_
  ·intro j hj;have hj' : j<xs.length:=by simpa using hj
   have:=hcell j (by rw [Q5n];simpa using hj');rw [Q5n] at this;rw [Nat.zero_add];refine ⟨?_,this.2⟩;rw [this.1,getElem!_pos xs.toArray j hj];simp [hj']
  ·rintro e w' ⟨rfl,n,os,rfl⟩;refine ⟨rfl,n,os,?_⟩;rw [Qbb4,Q5n];congr 1;unfold putRow;congr 1;funext c;unfold putCells;congr 1;funext k x;simp only [List.size_toArray,List.length_map];split
   ·rename_i h;simp only [id];rw [getElem!_pos _ _ (by simp;omega),getElem!_pos _ _ (by simp;omega)];simp
   ·rfl
 intro xs ys h;dsimp only at h;split at h<;>cases h;rename_i hl;refine ⟨Qpo _ _,fun h0=>?_,fun hl2 cap k0 M nb hM=>?_⟩
 ·subst h0;exact ⟨rfl,fun M nb=>Q5m (ex:=#[]) (exV:=[]) hb (fun _ _ _ h=>h) hnone⟩
 ·exact Q7f (e:=eI .i64) (fun _=>rfl) (fun _=>rfl) (fun xs=>Qpo _ _) (ex:=#[]) (exV:=[]) (fun _ _ _ h=>h) hb hrow xs cap k0 M nb hM (by unfold lim at hl;omega)
end Go.Abs
end
section
namespace Go.Abs
open Go Go.Sort Go.RowKit Go.Lib
theorem Q5o (zs:List Int):(Lib.compact zs).length≤zs.length:=by
 unfold Lib.compact Lib.compactUpTo;rw [List.length_map];exact Nat.le_trans (List.length_filter_le _ _) (by simp)
theorem Qble (l:List Int):(l.map (eI .i64)).flatten=l.map (D.int .i64):=by
 induction l with
 | nil=>rfl
 | cons x l ih=>simp only [List.map_cons,List.flatten_cons,ih];rfl
theorem Qbev {P:Program} {c:Nat} (hb:Qii P c=true)
  (hs:∀ (blk off cap:Nat) (zs:List Int) (w:World),Holds (Value.int .i64) w blk off zs.toArray→zs.length≤9223372036854775807→zs.length≤cap →
   Calls P c #[.slice (some ⟨blk,off,none⟩) zs.length cap] w fun e w'=>e = .returned (.slice (some ⟨blk,off,none⟩) (Lib.compact zs).length cap)∧∃ n,w'=putRow (Value.int .i64) (Sort.ahead w n) blk off (Lib.compact zs++List.replicate (zs.length-(Lib.compact zs).length) 0).toArray)
  (hnone:∀ (p:Option Addr) (cap:Nat) (w:World),Calls P c #[.slice p 0 cap] w fun e' w'=>e' = .returned (.slice p 0 cap)∧w'=w) :
  CompK P c (fun l=>if l.length≤lim then some (Lib.compact l) else none):=by
 intro xs ys hf;dsimp only at hf;split at hf<;>cases hf;rename_i hl;refine ⟨Q5o xs,fun h0=>?_,fun cap k0 M nb hcap hM=>?_⟩
 ·subst h0;refine ⟨rfl,fun M nb=>ACalls.mk' hb (Nat.le_refl _) rfl fun w g us hm hMon hus hfl hons=>?_⟩;obtain ⟨u0,us',rfl,hu0,rfl⟩:=hus;have h2:=RF_d.1 hu0;obtain ⟨a,cp,rfl,_,_⟩:=id h2;refine (hnone a cp w).mono ?_;rintro e' w' ⟨rfl,rfl⟩;exact ⟨_,g,rfl,hm,hu0 _,trivial,hMon,Fr.refl _ _ _⟩
 refine ACalls.mk' hb (Nat.le_refl _) rfl fun w g us hm hMon hus hfl hons=>?_;obtain ⟨u0,us',rfl,hu0,rfl⟩:=hus;have h0:=Q6a.1 hu0;subst h0;obtain ⟨hk0,hown,vals,et,hh,hrv,hone⟩:=hm.box k0 _ hM;have hlt:g.box k0<w.heap.size:=(Array.getElem?_eq_some_iff.1 hh).1;obtain ⟨hvl,hvr⟩:=(Qcx _ _ _ _).1 hrv;simp only [Qb2,Qble,List.map_map,List.length_append,List.length_map,List.length_replicate,Nat.mul_one] at hvl hvr;have hcell:∀ (j:Nat) (x:Int),xs[j]? = some x→vals[j]? = some (.int .i64 x):=by
  intro j x hx;have hj:=(List.getElem?_eq_some_iff.1 hx).1;have hjv:j<vals.length:=by omega
  have hc:(List.map (V.d ∘ D.int .i64) xs++List.replicate (cap-xs.length) V.und)[j]? = some (.d (.int .i64 x)):=by
   rw [List.getElem?_append_left (by rw [List.length_map];exact hj),List.getElem?_map,hx];rfl
  have:=hvr j _ _ hc (List.getElem?_eq_getElem hjv);have h2:vals[j] = .int .i64 x:=this;rw [List.getElem?_eq_getElem hjv,h2]
 have hH:Holds (Value.int .i64) w (g.box k0) 0 xs.toArray:=by
  intro j hj;have hj' : j<xs.length:=by simpa using hj
  have:=hcell j xs[j] (List.getElem?_eq_getElem hj');rw [Nat.zero_add];refine ⟨?_,by simp [World.frozen?,hh]⟩;rw [getElem!_pos xs.toArray j hj];simp [World.cell?,hh,this]
 refine (hs (g.box k0) 0 cap xs w hH (by unfold lim at hl;omega) hcap).mono ?_;rintro e' w' ⟨rfl,n,rfl⟩;have hyl:=Q5o xs;generalize Lib.compact xs=ys at hyl ⊢;generalize hF:(ys++List.replicate (xs.length-ys.length) 0).toArray=F;have hFs:F.size=xs.length:=by rw [← hF];simp;omega
 have hput:putRow (Value.int .i64) (Sort.ahead w n) (g.box k0) 0 F=grow (putRow id (Sort.ahead w n) (g.box k0) 0 (F.map (Value.int .i64))) #[]:=by
  have e1:∀ W:World,grow W #[]=W:=fun W=>by unfold grow;simp
  rw [e1];unfold putRow;congr 1;funext c;unfold putCells;congr 1;funext k x;simp only [Array.size_map];split
  ·rename_i h;simp only [id];rw [getElem!_pos _ _ (by omega),getElem!_pos _ _ (by simp;omega)];simp
  ·rfl
 rw [hput];generalize hF' : F.map (Value.int .i64)=F';have hFs' : F'.size=xs.length:=by rw [← hF',Array.size_map,hFs]
 have hFv:∀ j (h:j<ys.length),F'[j]'(by omega)=Value.int .i64 ys[j]:=by
  intro j h;subst hF';subst hF;simp only [List.getElem_toArray,Array.getElem_map];rw [List.getElem_append_left h]
 have hFi:∀ j (h:j<F'.size),∃ z:Int,F'[j]=Value.int .i64 z:=by
  intro j h;subst hF';exact ⟨_,Array.getElem_map ..⟩
 have hblk:=Q46 w n (g.box k0) F' #[] hh;have hoth:∀ b,b≠g.box k0→b<w.heap.size→(grow (putRow id (Sort.ahead w n) (g.box k0) 0 F') #[]).heap[b]? = w.heap[b]?:=fun b hb hlt=>Qta w n _ F' #[] hb hlt;have hsize:w.heap.size≤(grow (putRow id (Sort.ahead w n) (g.box k0) 0 F') #[]).heap.size:=by
  simp [putRow,mapBlock,Sort.ahead]
 generalize hw' : grow (putRow id (Sort.ahead w n) (g.box k0) 0 F') #[]=w' at hblk hoth hsize;have himm:Imm g.imm g.imm w w':=by
  refine ⟨fun _ _ h=>h,fun b o h=>?_⟩;obtain ⟨k1,k2⟩:=hm.imm b o h;have hne:b≠g.box k0:=by rintro rfl;exact k2 k0 hown
  exact Qe4 (hoth b hne k1)
 have hkept:Kept g w g w' (There M) (fun o=>o ≠ .box k0):=⟨himm,fun _ _=>rfl,fun b hb hl=>⟨rfl,hoth b (by rintro rfl;exact hb hown) hl,fun _=>Iff.rfl⟩⟩;have hsub:∀ (o:Owner) i,o ≠ .box k0→o.sub i ≠ .box k0:=by intro o i _;cases o<;>simp [Owner.sub]
 have hnew:∀ p:Nat→Prop,V.ons p (Qb2 (ys.map (eI .i64)) ((cap-ys.length)*1)):=by
  intro p;rw [Qih];intro v hv;simp only [Qb2,List.mem_append,List.mem_map,List.mem_replicate] at hv;rcases hv with ⟨x,_,rfl⟩|⟨_,rfl⟩<;>trivial
 have hth:There (M.put k0 (.cells (Qb2 (ys.map (eI .i64)) ((cap-ys.length)*1)))) k0:=by simp [There,Mem.put]
 refine ⟨_,g,rfl,⟨fun k b hk=>?_,fun b o h=>⟨Nat.lt_of_lt_of_le (hm.imm b o h).1 hsize,(hm.imm b o h).2⟩⟩,by simp [RV],hth,fun k cs hk=>?_,?_⟩
 ·by_cases hkk:k=k0
  ·subst hkk;rw [Qg0] at hk;cases hk;refine ⟨hk0,hown,(putCells id 0 F' vals.toArray).toList,et,by simpa using hblk,(Qcx _ _ _ _).2 ⟨?_,fun j cc x hc hx=>?_⟩,fun x hx=>?_⟩
   ·simp only [Qb2,Qble,List.map_map,List.length_append,List.length_map,List.length_replicate,Nat.mul_one];simp [putCells];omega
   ·have hx' : (putCells id 0 F' vals.toArray)[j]? = some x:=by simpa using hx
    simp only [putCells,Array.getElem?_mapIdx,List.getElem?_toArray,Option.map_eq_some_iff] at hx';obtain ⟨y,hy,rfl⟩:=hx';simp only [Qb2,Qble,List.map_map,Nat.mul_one] at hc;by_cases hj:j<ys.length
    ·rw [List.getElem?_append_left (by rw [List.length_map];exact hj),List.getElem?_map,List.getElem?_eq_getElem hj,Option.map_some,Option.some.injEq] at hc;subst hc;rw [if_pos ⟨Nat.zero_le _,by omega⟩];simp only [Nat.sub_zero,id];rw [getElem!_pos F' j (by omega),hFv j hj];simp [RV,RD]
    ·rw [List.getElem?_append_right (by rw [List.length_map];omega)] at hc;have:cc = .und:=(List.mem_replicate.1 (List.mem_of_getElem? hc)).2;subst this;simp [RV]
   ·obtain ⟨j,hj⟩:=List.getElem?_of_mem hx;have hx' : (putCells id 0 F' vals.toArray)[j]? = some x:=by simpa using hj
    simp only [putCells,Array.getElem?_mapIdx,List.getElem?_toArray,Option.map_eq_some_iff] at hx';obtain ⟨y,hy,rfl⟩:=hx';split
    ·rename_i hr;simp only [id];rw [getElem!_pos F' _ (by omega)];obtain ⟨z,hz⟩:=hFi (j-0) (by omega);rw [hz];exact Qbb2 (x:=.int .i64 z) rfl
    ·exact hone y (List.mem_of_getElem? hy)
  ·rw [Qcf _ _ hkk] at hk;obtain ⟨k1,k2,k3⟩:=hm.box k b hk;cases b with
   | mp es c =>
    obtain ⟨ents,q1,q2⟩:=k3;have hne:g.box k≠g.box k0:=by
     intro h;rw [h,hown] at k2;cases k2;exact hkk rfl
    exact ⟨k1,k2,ents,(hoth _ hne (Array.getElem?_eq_some_iff.1 q1).1).trans q1,Qk9 (g:=g) (g':=g) hkept (fun _=>by simp) q2⟩
   | cells cs =>
    obtain ⟨vals2,e2,q1,q2,q3⟩:=k3;have hne:g.box k≠g.box k0:=by
     intro h;rw [h,hown] at k2;cases k2;exact hkk rfl
    refine ⟨k1,k2,vals2,e2,(hoth _ hne (Array.getElem?_eq_some_iff.1 q1).1).trans q1,?_,q3⟩;exact RVs_mono hkept hsub (by simp) cs (.box k) 0 vals2 (by simpa using hkk) (hMon k cs hk) q2
 ·by_cases hkk:k=k0
  ·subst hkk;rw [Qg0] at hk;cases hk;exact hnew _
  ·rw [Qcf _ _ hkk] at hk;exact ons_mono (fun j hj=>There.put hj) _ (hMon k cs hk)
 ·refine ⟨by rw [← hw'];rfl,by rw [← hw'];rfl,by rw [← hw'];rfl,hsize,himm,fun _ _=>rfl,fun b hb ho=>⟨rfl,hoth b ?_ hb,fun _=>Iff.rfl⟩⟩;rintro rfl;rw [hown] at ho;exact ho
end Go.Abs
end
section
namespace Go.Proofs
open Go.Shelf Go.RowKit Go.Lib Go.Sort Go.Abs
theorem Tryz.rowK124:Go.Abs.RowK Tryz.prog 124 (eI .i64) 1 [] Qbmm :=
 Qbhc (by kernel_rfl) Tryz.slices_Sort_int Tryz.slices_Sort_int_none
theorem Tryz.compK125:Go.Abs.CompK Tryz.prog 125 Qbdu :=
 Qbev (by kernel_rfl) Tryz.slices_Compact_int Tryz.slices_Compact_int_empty
abbrev PlOk:={x:Qd // okPl x=true}
instance:Inhabited PlOk:=⟨⟨⟨0,0⟩,rfl⟩⟩
def cfP (x y:PlOk):Int:=if x.1.ambient_=y.1.ambient_ then x.1.language_-y.1.language_ else x.1.ambient_-y.1.ambient_
theorem Q3y (x y:PlOk):ltOf cfP x y=ltPl x.1 y.1:=by
 unfold ltOf cfP ltPl;apply decide_eq_decide.2;split<;>omega
theorem swoP:SWO (ltOf cfP):={
 irrefl x:=by rw [Q3y];simp [ltPl]
 trans x y z h1 h2:=by rw [Q3y] at *;simp only [ltPl,decide_eq_true_eq] at *;omega
 ntrans x y z h1 h2:=by rw [Q3y] at *;simp only [ltPl,decide_eq_false_iff_not] at *;omega }
set_option maxHeartbeats 1000000 in
theorem Tryz.places146 (x y:PlOk) (W:World):Calls Tryz.prog 146 #[.agg ((Qbt x.1).map D.val).toArray,.agg ((Qbt y.1).map D.val).toArray] W fun e w'=>e = .returned (.int .i64 (cfP x y))∧∃ q os',w'=grow (W.drewN q) os':=by
 obtain ⟨⟨a,b⟩,hx0⟩:=x;obtain ⟨⟨a',b'⟩,hy0⟩:=y;have hx:=hx0;have hy:=hy0;simp only [okPl,decide_eq_true_eq] at hx hy;have w1:IntKind.i64.wrap (a-a')=a-a':=by simp [IntKind.wrap,IntKind.bits,IntKind.signed];omega
 have w2:IntKind.i64.wrap (b-b')=b-b':=by simp [IntKind.wrap,IntKind.bits,IntKind.signed];omega
 have hr:cfP ⟨⟨a,b⟩,hx0⟩ ⟨⟨a',b'⟩,hy0⟩=if a=a' then b-b' else a-a':=rfl;generalize cfP ⟨⟨a,b⟩,hx0⟩ ⟨⟨a',b'⟩,hy0⟩=r at hr ⊢;simp only [Qbt,List.map_cons,List.map_nil,D.val]
 go_enter Tryz.func146,Tryz.ntmps146
 go_wp2
 ·rename_i h;have h:a≠a':=by simpa using h
  go_ret
  exact ⟨by rw [hr,if_neg h];rfl,0,_,by rw [alloc_eq_grow,alloc_eq_grow,grow_grow];rfl⟩
 ·rename_i h;have h:a=a':=by simpa using h
  go_ret
  exact ⟨by rw [hr,if_pos h];rfl,0,_,by rw [alloc_eq_grow,alloc_eq_grow,grow_grow];rfl⟩
set_option maxHeartbeats 1000000 in
theorem Tryz.row145:Qbg0 Tryz.prog 145 (fun x:PlOk=>Qbt x.1) #[.func (.func 146) #[] #[]] (fun xs=>(pdq (ltOf cfP) xs.toArray 0 xs.length (Lib.bitLen xs.length) true true).toList) :=
 Q6h Tryz.sortP Tryz.isAgg96 Tryz.sizeOf96 (fun x:PlOk=>Qbt x.1) (fun _=>rfl) (by decide) (fun _=>rfl) cfP swoP 146 #[] (enters_of Tryz.func146 (by kernel_rfl) rfl) (fun x y W=>Tryz.places146 x y W)
theorem Tryz.none145 (p:Option Addr) (cap:Nat) (w:World):Calls Tryz.prog 145 (#[.slice p 0 cap] ++ #[.func (.func 146) #[] #[]]) w fun e' w'=>e' = .returned (.tuple #[])∧w'=w :=
 AnyF.slices_SortFunc_none Tryz.sortP p cap (.func (.func 146) #[] #[]) w
theorem Qbmn {g:G} {w:World} {f:Nat} {us:List Value} (h:RFs g w [.clo f []] us):us = #[Value.func (.func f) #[] #[]].toList:=by
 obtain ⟨u,us',rfl,h1,h2⟩:=h;have h1:=h1 .ext;simp only [RV,RVs] at h1;obtain ⟨vs,rfl,rfl⟩:=h1;have:us'=[]:=h2;subst this;rfl
theorem Tryz.rowK145:Go.Abs.RowK Tryz.prog 145 Qbt 2 [.clo 146 []] Qbg9 :=
 Qbhb (e:=Qbt) (sz:=2) (N:=65536) (by decide) (fun _=>rfl) (fun _=>rfl) swoP Q3y (by kernel_rfl) (ex:=#[.func (.func 146) #[] #[]]) (exV:=[.clo 146 []]) (fun _ _ us h=>Qbmn h) Tryz.row145 Tryz.none145
end Go.Proofs
end
section
namespace Go.Abs
open Go Go.RowKit
theorem Q1d {P:Program} {f:FuncId} {args:List V} {x:D} (hx:x.scalar=true) (hb:Qii P f=true)
  (h:∀ (w:World) (g:G) (us:List Value),(∀ b o,g.imm b o→b<w.heap.size)→RFs g w args us→Calls P f us.toArray w fun e w'=>e = .returned x.val∧Below w.heap.size w w') (M:Mem) (nb:Nat) (hfl0:V.dems args=args:=by rfl):ACalls P f args M nb (.d x) M nb:=by
 refine ACalls.mk' hb (Nat.le_refl _) hfl0 fun w g us hm hMon hus hfl hons=>?_;refine Calls.mono (h w g us (fun b o hi=>(hm.imm b o hi).1) hus) ?_;rintro e w' ⟨rfl,hbw⟩;have hI:Imm g.imm g.imm w w':=⟨fun _ _ h=>h,fun b o hi=>Qe4 (hbw.block b (hm.imm b o hi).1)⟩;have hk:Kept g w g w' (There M) (fun _=>True):=⟨hI,fun _ _=>rfl,fun b _ hlt=>⟨rfl,hbw.block b hlt,fun _=>Iff.rfl⟩⟩;refine ⟨_,g,rfl,hm.kept hk hMon (fun _ _ _=>trivial) trivial (fun _ _=>trivial) (fun b o hi=>?_),?_,trivial,hMon,?_⟩
 ·obtain ⟨h1,h2⟩:=hm.imm b o hi;exact ⟨Nat.lt_of_lt_of_le h1 hbw.size,h2⟩
 ·simp only [RV];exact (Qbgz hx).2 rfl
 ·exact ⟨hbw.os,hbw.tape,hbw.output,hbw.size,hI,fun _ _=>rfl,fun b hb _=>⟨rfl,hbw.block b hb,fun _=>Iff.rfl⟩⟩
theorem Qbhd {g:G} {w:World} {l:List Int} {k:IntKind} {u:Value} (h:RF g w (.d (.lst 1 (l.map (fun n=>[.int k n])))) u) :
  ∃ a cap,u = .slice a l.length cap∧l.length≤cap∧(l=[]∨∃ b o,a=some ⟨b,o,none⟩∧∀ (i:Nat) n,l[i]? = some n→g.imm b (o+i)∧w.cell? ⟨b,o+i,none⟩=some (.int k n)):=by
 have h:=RF_d.1 h;simp only [RD,List.length_map] at h;obtain ⟨a,cap,rfl,hc,hl⟩:=h;refine ⟨a,cap,rfl,hc,?_⟩;rcases hl with hl|⟨b,o,rfl,hl⟩
 ·exact .inl (by simpa using hl)
 ·refine .inr ⟨b,o,rfl,fun i n hi=>?_⟩;have:=(Qze hl i [.int k n] (by simp [hi])).2;simp only [RDc,Nat.mul_one,RD] at this;obtain ⟨h1,⟨u,h2,rfl⟩,_⟩:=this;exact ⟨h1,h2⟩
end Go.Abs
end
section
namespace Go.Proofs
open Go.RowKit Go.Abs
theorem Qbhe {i:Nat} (h:i<100):(Lib.decDigits i).length≤2:=by
 by_cases h1:i<10
 ·rw [Lib.decDigits_one h1];simp
 ·rw [Lib.decDigits_two h1 h];simp
theorem Qbb5:∀ l:List Int,(∀ x∈l,0≤x∧x<100)→(keyL l).length≤3*l.length
 | [],_=>by simp [keyL]
 | x::l,h=>by
  have hx:=h x (by simp);have h1:=Qbhe (i:=x.toNat) (by omega);have ih:=Qbb5 l fun y hy=>h y (by simp [hy]);simp only [keyL,List.flatMap_cons,List.length_append,List.length_cons,List.length_nil] at *
  omega
set_option maxHeartbeats 4000000 in
set_option maxRecDepth 1000000 in
theorem Tryz.key_walk (l:List Int) (hl:l.length≤lim) (hx:∀ x∈l,0≤x∧x<100) (a:Option Addr) (cap:Nat) (w:World)
  (hc:∀ (i:Nat) n,l[i]? = some n→∃ b o,a=some ⟨b,o,none⟩∧b<w.heap.size∧w.cell? ⟨b,o+i,none⟩=some (.int .i64 n)) :
  Calls Tryz.prog 91 #[.slice a l.length cap] w fun e w'=>e = .returned (.string (keyB l))∧Below w.heap.size w w':=by
 have hlim:l.length≤1099511627776:=hl
 go_enter Tryz.func91,Tryz.ntmps91
 go_wp2
 go_loopw [8] (fun vi wr=>∃ (k:Nat),vi = .int .i64 k∧k≤l.length∧Lib.IsBuilderF 161 5 w.heap.size w.heap.size (Lib.byteCells (keyL (l.take k))) wr∧Below w.heap.size w wr) (fun vi _=>l.length-(intOf vi).toNat)
 case atStart =>
  refine ⟨0,rfl,by omega,?_,((Below.refl _ w).alloc (Nat.le_refl _) _)⟩;exact Lib.IsBuilderF.of (Lib.fresh_isBuilder 161 5 w)
 case round =>
  obtain ⟨k,rfl,hk,hI,hbw⟩:=hrel;by_cases hlt:k<l.length
  ·obtain ⟨b,o,rfl,hb,hcell⟩:=hc k l[k] (List.getElem?_eq_getElem hlt);have hcr:wr.cell? ⟨b,o+k,none⟩=some (.int .i64 l[k]):=by
    rw [← hcell];simp only [World.cell?];rw [hbw.block b hb]
   have hxk:=hx l[k] (List.getElem_mem hlt);obtain ⟨n,hn⟩ : ∃ n:Nat,l[k]=(n:Int):=⟨l[k].toNat,by omega⟩;have hn100:n<100:=by omega
   rw [hn] at hcr;have hdl:=Qbhe hn100;have hsz:w.heap.size≤wr.heap.size:=hbw.size;have hkl:=Qbb5 (l.take k) fun x hxm=>hx x (List.mem_of_mem_take hxm);rw [List.length_take] at hkl
   go_wp2_with (go_at_call 103;refine (Tryz.strconv_Itoa_small n hn100 _).mono ?_)
   rintro e W0 ⟨rfl,rfl⟩
   go_wp2_with (go_at_call 102;refine (Tryz.Builder_WriteString_k w.heap.size w.heap.size _ _ _ hI (by rw [Lib.byteCells_length];simp only [ByteArray.size,List.size_toArray];omega) hsz).mono ?_)
   rintro e W1 ⟨rfl,h1,b1,k1⟩;have hsz1:w.heap.size≤W1.heap.size:=Nat.le_trans hsz b1.size;have hlen2:(Lib.byteCells (keyL (l.take k))++Lib.strCells ⟨(Lib.decDigits n).toArray⟩).length+1≤140737488355328:=by
    rw [show Lib.strCells ⟨(Lib.decDigits n).toArray⟩=Lib.byteCells (Lib.decDigits n) from rfl,List.length_append,Lib.byteCells_length,Lib.byteCells_length];omega
   go_wp2_with (go_at_call 104;refine (Tryz.Builder_WriteByte_k w.heap.size w.heap.size _ 32 _ (Or.inr h1) hlen2 hsz1).mono ?_)
   rintro e W2 ⟨rfl,h2,b2,k2⟩
   go_wp2
   go_roundw
   case rel =>
    refine ⟨k+1,by simp,by omega,?_,(hbw.trans b1).trans b2⟩;have e1:keyL (l.take (k+1))=keyL (l.take k)++Lib.decDigits n++[32]:=by
     rw [List.take_succ_eq_append_getElem hlt];simp only [keyL,List.flatMap_append,List.flatMap_cons,List.flatMap_nil,List.append_nil,hn,Int.toNat_natCast,List.append_assoc]
    rw [e1,Lib.byteCells_append,Lib.byteCells_append];exact Or.inr h2
   case measure =>
    simp [intOf];omega
  ·have hk2:k=l.length:=by omega
   subst hk2
   go_wp2_with (go_at_call 105;refine (Tryz.Builder_String_any_k w.heap.size w.heap.size _ _ hI hbw.size).mono ?_)
   rintro e W1 ⟨rfl,_,b1,_⟩
   go_wp2
   go_ret
   refine ⟨?_,hbw.trans b1⟩
   first|rfl|(rw [List.take_length];rfl)|(simp [keyB,List.take_length])
theorem Tryz.keyK:Go.Abs.K_product_key Tryz.prog 91 keyI:=by
 intro l r h;unfold keyI at h;split at h<;>cases h;rename_i hc;intro M nb;refine Q1d rfl (by kernel_rfl) (fun w g us himm hus=>?_) M nb;obtain ⟨u,us',rfl,hu,hus'⟩:=hus;simp only [RFs] at hus';subst hus';obtain ⟨a,cap,rfl,hcap,hl⟩:=Qbhd hu;refine Tryz.key_walk l hc.1 hc.2 a cap w fun i n hi=>?_;rcases hl with rfl|⟨b,o,rfl,hl⟩
 ·simp at hi
 ·exact ⟨b,o,rfl,himm _ _ (hl i n hi).1,(hl i n hi).2⟩
end Go.Proofs
end
section
namespace Go
theorem Qxk {P:Program} {w:World} (base:Nat) (t ty e:TypeId) (i:TypeInfo) (size:Nat) (ht:P.underlying t=some (.slice e)) (hi:P.info? e=some i)
  (v:Value) (n:Nat) (xs:List Value) (hown:w.ownsRow base e size v n xs) (ao:Option Addr) (c:Nat) :
  (Builtin.append_ #[t,t] ty #[v,.slice ao 0 c]).run P w = .ok v w:=by
 rcases hown.2 with ⟨rfl,rfl⟩|⟨g,cap,cur,rfl,_,_,hnc,_⟩
 ·cases ao<;>simp [Builtin.append_,run_underlying ht,sizeOf,typeInfo,hi,Builtin.lenOf,Builtin.firstCells,loadCells,loadCellsFrom]
 ·cases ao<;>simp [Builtin.append_,run_underlying ht,sizeOf,typeInfo,hi,Builtin.lenOf,Builtin.firstCells,hnc,storeCells,loadCells,loadCellsFrom]
theorem Q1e {P:Program} {w:World} {ops:Array Oper} {rest:List Oper} {o:Oper} {a:Act} {Q:Exit→Act→World→Prop} (hgd:o.guard=none) (s x:Operand) (t:TypeId)
  (ho:o.op = .call { callee:=.builtin .append,args:=#[s,x],argTypes:=#[t,t] })
  (base:Nat) (e:TypeId) (i:TypeInfo) (z:Value) (size bytes:Nat) (ht:P.underlying t=some (.slice e)) (hi:P.info? e=some i) (hz:i.zero=some z)
  (hsize:i.size=size) (hby:i.bytes=bytes) (hzs:z.cells.size=size) (hsz:0<size)
  (v:Value) (n:Nat) (xs:List Value) (hs:a.eval s=v) (hown:w.ownsRow base e size v n xs)
  (ao:Option Addr) (m c:Nat) (news:List Value) (hx:a.eval x = .slice ao m c) (hl:news.length=m*size) (hnews:∀ ad,ao=some ad→∀ j u,news[j]? = some u→w.cell? (ad.add j)=some u) (hno:ao=none→m=0) (h1:∀ u∈news,u.oneCell'=true)
  (h63:n+m≤maxLen) (hbytes:(n+m)*bytes≤140737488355328) (hbase:base≤w.heap.size)
  (h:∀ v' w',w'.ownsRow base e size v' (n+m) (xs++news)→w.grownBy w' v.ownBlock→wpList P ops Q rest (a.put o.dst v') w'):wpList P ops Q (o::rest) a w:=by
 by_cases hm:m=0
 ·subst hm;have:news=[]:=List.eq_nil_of_length_eq_zero (by simpa using hl);subst this;refine wpList_plain hgd fun K hK=>?_;have hrun:=Qxk (P:=P) (w:=w) base t o.type e i size ht hi v n xs hown ao c;unfold Oper.wp;simp [execOp,ho,resolve,invoke,builtin,hs,hx,hrun,Result.andThen];exact hK _ _ (h _ _ (by simpa using hown) (World.grownBy.refl w _))
 ·cases ao with
  | none=>exact absurd (hno rfl) hm
  | some ad=>exact wpList_append_own w hgd s x t ho base e i z size bytes ht hi hz hsize hby hzs hsz v n xs hs hown ad m c news hx hl (hnews ad rfl) h1 h63 hbytes hbase fun v' w' h2 h3 _=>h v' w' h2 h3
end Go
namespace Go.Proofs
open Go.RowKit Go.Abs
set_option maxHeartbeats 4000000 in
set_option maxRecDepth 1000000 in
theorem Tryz.rkey_walk (x y:Int) (l:List Int) (hl:l.length+2≤lim) (hx:∀ z∈x::y::l,0≤z∧z<100) (a:Option Addr) (cap:Nat) (w:World)
  (hc:∀ (i:Nat) n,l[i]? = some n→∃ b o,a=some ⟨b,o,none⟩∧b<w.heap.size∧w.cell? ⟨b,o+i,none⟩=some (.int .i64 n)) :
  Calls Tryz.prog 53 #[.agg #[.int .i64 x,.int .i64 y],.slice a l.length cap] w fun e w'=>e = .returned (.string (keyB (x::y::l)))∧Below w.heap.size w w':=by
 have hlim:l.length+2≤1099511627776:=hl;obtain ⟨i0,hi,hz0,hz1,hz2⟩:=info_parts (P:=Tryz.prog) (e:=3) (z:=.int .i64 0) (size:=1) (bytes:=8) (by kernel_rfl)
 go_enter Tryz.func53,Tryz.ntmps53
 go_wp2_with (at_builtin;refine Q1e rfl _ _ 32 rfl (w.heap.size+2) 3 i0 (.int .i64 0) 1 8 Tryz.underlying32 hi hz0 hz1 hz2 rfl (by decide) _ 2 [.int .i64 x,.int .i64 y] rfl ?own a l.length cap (l.map (Value.int .i64)) rfl (by simp) ?news ?none ?one (by unfold maxLen;omega) (by omega) ?base ?rest)
 case own =>
  have:=World.ownsRow_lit (base:=w.heap.size+2) (e:=3) (size:=1) ((w.alloc (.cells #[.int .i64 x,.int .i64 y] 96)).alloc (.cells #[.pointer none,.slice none 0 0] 161)) #[.int .i64 x,.int .i64 y] 2 (by simp) (by unfold maxLen;omega) rfl;simp at this;exact this
 case news =>
  intro ad had j u hj;rw [List.getElem?_map] at hj;obtain ⟨n,hn,rfl⟩:=Option.map_eq_some_iff.1 hj;obtain ⟨b,o,rfl,hb,hcell⟩:=hc j n hn;cases had;rw [← hcell];have hB:Below w.heap.size w (((w.alloc (.cells #[.int .i64 x,.int .i64 y] 96)).alloc (.cells #[.pointer none,.slice none 0 0] 161)).alloc (.cells #[.int .i64 x,.int .i64 y] 3)) :=
   (((Below.refl _ w).alloc (Nat.le_refl _) _).alloc (by simp) _).alloc (by simp;omega) _
  simp only [World.cell?,Addr.add_lit];rw [hB.block b hb]
 case none =>
  intro ha;cases l with
  | nil=>rfl
  | cons z l =>
   obtain ⟨b,o,h,_⟩:=hc 0 z rfl;rw [ha] at h;cases h
 case one =>
  intro u hu;obtain ⟨n,_,rfl⟩:=List.mem_map.1 hu
  rfl
 case base=>simp
 intro v' wA hown hgrow;obtain ⟨hlen,⟨rfl,h0⟩|⟨g,cap',cur,rfl,hbg,hg,hnc,hcm,hcs,htake⟩⟩:=hown
 ·omega
 have hbA:wA.heap[w.heap.size+1]? = some (.cells #[.pointer none,.slice none 0 0] 161 (0,0)):=by
  rw [hgrow.block (w.heap.size+1) (by simp) (by simp [Value.ownBlock])];rw [Lib.alloc_old _ _ _ (by simp),show w.heap.size+1=(w.alloc (.cells #[.int .i64 x,.int .i64 y] 96)).heap.size from by simp];exact heap_alloc_new _ _
 have hBA:Below w.heap.size w wA:=by
  have hB:Below w.heap.size w (((w.alloc (.cells #[.int .i64 x,.int .i64 y] 96)).alloc (.cells #[.pointer none,.slice none 0 0] 161)).alloc (.cells #[.int .i64 x,.int .i64 y] 3)) :=
   (((Below.refl _ w).alloc (Nat.le_refl _) _).alloc (by simp) _).alloc (by simp;omega) _
  exact hB.grown hgrow (by simp;omega) (fun k hk=>by simp [Value.ownBlock] at hk;omega)
 have hszA:w.heap.size+1≤wA.heap.size:=by have:=hgrow.size;simp at this;omega
 have hcur:∀ (k:Nat) z,(x::y::l)[k]? = some z→cur[k]? = some (.int .i64 z):=by
  intro k z hz;have hk:=(List.getElem?_eq_some_iff.1 hz).1;simp only [List.length_cons] at hk;have h1:(cur.toList.take ((2+l.length)*1))[k]? = some (.int .i64 z):=by
   rw [htake];show ((x::y::l).map (Value.int .i64))[k]? = _;rw [List.getElem?_map,hz];rfl
  rw [List.getElem?_take_of_lt (by omega)] at h1;simpa using h1
 generalize hxs:x::y::l=xs at hx hcur;have hN:xs.length=2+l.length:=by rw [← hxs];simp;omega
 go_wp2
 go_loopw [16] (fun vi wr=>∃ (k:Nat),vi = .int .i64 k∧k≤xs.length∧Lib.IsBuilderF 161 5 (w.heap.size+1) (w.heap.size+1) (Lib.byteCells (keyL (xs.take k))) wr∧Below w.heap.size w wr∧wr.heap[g]? = some (.cells cur 3 (0,0))∧w.heap.size+1≤wr.heap.size) (fun vi _=>xs.length-(intOf vi).toNat)
 case atStart =>
  exact ⟨0,rfl,by omega,Lib.IsBuilderF.of (Or.inl ⟨Nat.le_refl _,.slice none 0 0,hbA,World.ownsRow_nil _ _ _ _,by simp [Value.ownBlock]⟩),hBA,hg,hszA⟩
 case round =>
  obtain ⟨k,rfl,hk,hI,hbw,hgr,hsz⟩:=hrel;by_cases hlt:k<xs.length
  ·have hxk:=hx xs[k] (List.getElem_mem hlt);have hcr:wr.cell? ⟨g,k,none⟩=some (.int .i64 xs[k]):=by
    simp only [World.cell?,hgr];exact hcur k _ (List.getElem?_eq_getElem hlt)
   have hcr0:wr.cell? ⟨g,0+k,none⟩=some (.int .i64 xs[k]):=by rw [Nat.zero_add];exact hcr
   obtain ⟨n,hn⟩ : ∃ n:Nat,xs[k]=(n:Int):=⟨xs[k].toNat,by omega⟩;have hn100:n<100:=by omega
   rw [hn] at hcr hcr0;have hdl:=Qbhe hn100;have hkl:=Qbb5 (xs.take k) fun x hxm=>hx x (List.mem_of_mem_take hxm);rw [List.length_take] at hkl
   go_wp2_with (go_at_call 103;refine (Tryz.strconv_Itoa_small n hn100 _).mono ?_)
   rintro e W0 ⟨rfl,rfl⟩
   go_wp2_with (go_at_call 102;refine (Tryz.Builder_WriteString_k (w.heap.size+1) (w.heap.size+1) _ _ _ hI (by rw [Lib.byteCells_length];simp only [ByteArray.size,List.size_toArray];omega) hsz).mono ?_)
   rintro e W1 ⟨rfl,h1,b1,k1⟩;have hsz1:w.heap.size+1≤W1.heap.size:=Nat.le_trans hsz b1.size;have hlen2:(Lib.byteCells (keyL (xs.take k))++Lib.strCells ⟨(Lib.decDigits n).toArray⟩).length+1≤140737488355328:=by
    rw [show Lib.strCells ⟨(Lib.decDigits n).toArray⟩=Lib.byteCells (Lib.decDigits n) from rfl,List.length_append,Lib.byteCells_length,Lib.byteCells_length];omega
   go_wp2_with (go_at_call 104;refine (Tryz.Builder_WriteByte_k (w.heap.size+1) (w.heap.size+1) _ 32 _ (Or.inr h1) hlen2 hsz1).mono ?_)
   rintro e W2 ⟨rfl,h2,b2,k2⟩
   go_wp2
   go_roundw
   case rel =>
    have hgb:some g≠some (w.heap.size+1):=by simp;omega
    have hne:∀ c fz,Obj.cells cur 3 (0,0)≠Obj.cells c 5 fz:=by intro c fz h;cases h
    refine ⟨k+1,by simp,by omega,?_,(hbw.trans (b1.mono (by omega))).trans (b2.mono (by omega)),k2 _ _ (k1 _ _ hgr hgb hne) hgb hne,Nat.le_trans hsz1 b2.size⟩;have e1:keyL (xs.take (k+1))=keyL (xs.take k)++Lib.decDigits n++[32]:=by
     rw [List.take_succ_eq_append_getElem hlt];simp only [keyL,List.flatMap_append,List.flatMap_cons,List.flatMap_nil,List.append_nil,hn,Int.toNat_natCast,List.append_assoc]
    rw [e1,Lib.byteCells_append,Lib.byteCells_append];exact Or.inr h2
   case measure =>
    simp [intOf];omega
  ·have hk2:k=xs.length:=by omega
   subst hk2
   go_wp2_with (go_at_call 105;refine (Tryz.Builder_String_any_k (w.heap.size+1) (w.heap.size+1) _ _ hI hsz).mono ?_)
   rintro e W1 ⟨rfl,_,b1,_⟩
   go_wp2
   go_ret
   refine ⟨?_,hbw.trans (b1.mono (by omega))⟩;have ht:List.take (2+l.length) (x::y::l)=x::y::l:=by
    rw [show 2+l.length=(x::y::l).length from by simp;omega];exact List.take_length
   simp only [keyB,List.take_length,← hxs];rw [ht];rfl
theorem Tryz.rkeyK:Go.Abs.K_relative_key Tryz.prog 53 Qbi9:=by
 intro x l r h;unfold Qbi9 keyI at h;split at h<;>cases h;rename_i hc;intro M nb;refine Q1d rfl (by kernel_rfl) (fun w g us himm hus=>?_) M nb;obtain ⟨u0,us0,rfl,hu0,u,us',rfl,hu,hus'⟩:=hus;simp only [RFs] at hus';subst hus';obtain ⟨a,cap,rfl,hcap,hl⟩:=Qbhd hu;have h0:=hu0 .ext;simp only [RV,RVs,RD] at h0;obtain ⟨vs,rfl,⟨u,us,rfl,rfl,u2,us2,rfl,rfl,rfl⟩,_⟩:=h0;have hc1:=hc.1;simp only [List.length_cons] at hc1;refine Tryz.rkey_walk x.ambient_ x.language_ l hc1 hc.2 a cap w fun i n hi=>?_;rcases hl with rfl|⟨b,o,rfl,hl⟩
 ·simp at hi
 ·exact ⟨b,o,rfl,himm _ _ (hl i n hi).1,(hl i n hi).2⟩
end Go.Proofs
end
section

end
section
namespace Go.Proofs
open Go Go.Abs
set_option maxRecDepth 10000
set_option maxHeartbeats 4000000
theorem Qxl:Qka Tryz.prog 39 Qo7:=Quo Qym
theorem Qxm:Qkb Tryz.prog 97 Qhu:=Qup Qyq Q3
theorem Qz6:Qmd Tryz.prog 108 Qja:=Qw1 Q06 Q3
theorem Qdt:Qcp Tryz.prog 62 Qcc:=Qtm Qz6 Qxe
theorem Quy:Qiy Tryz.prog 98 Qg1:=Qsg Qdt Qv4 Q3
theorem Qjg:Qgq Tryz.prog 48 Qe2:=Qyb Qxm Quy Q2g
theorem Qt1:Qk4 Tryz.prog 139 Qhe:=Qzn Q3i Q3
theorem Qz7:Qme Tryz.prog 140 Qmr:=Qw2 Q08
theorem Q2n:Qon Tryz.prog 99 Qk5:=Qzo Qt1 Qz7 Q3f
theorem Q1f:Qnl Tryz.prog 49 Qgr:=Qyc Q2n Q2h
theorem Qyr:Qlb Tryz.prog 50 Qfo:=Qvm Qzy Q3
theorem Q2o:Qoo Tryz.prog 22 Qk6:=Qzp Qjg Q1f Qyr Q3d Q3
theorem Q3k:Qqe Tryz.prog 88 Qms:=Q0v Qjg Q5f Q3
theorem Qz8:Qmf Tryz.prog 172 Qmt:=Qw3 Q1b
theorem Q2p:Qop Tryz.prog 155 Qit:=Qzq Qt1 Qz8 Q3j
theorem Q2q:Qoq Tryz.prog 131 Qgg:=Qzr Q2p Q3g Q3
theorem Q5p:Qse Tryz.prog 89 Qn3:=Q2b Q2q Q6e Q3
theorem Qri:Qhp Tryz.prog 90 Qfv:=Qpf Qsu Q3
theorem Q3l:Qqf Tryz.prog 171 Qq0:=Q0w Q5j
theorem Q5q:Qsf Tryz.prog 153 Qku:=Q2c Q3l Q6f
theorem Qz9:Qmg Tryz.prog 154 Qjb:=Qw4 Q1a
theorem Qj7:Qft Tryz.prog 128 Qcv:=Qpg Q5q Qz9 Qsw Q3
theorem Qkg:Qgu Tryz.prog 85 Qfp:=Qvn Qj7 Qz1
theorem Qsx:Qh3 Tryz.prog 92 Qga:=Qqt Qkg Qtv Q3
theorem Qd5:Qc8 Tryz.prog 58 Qb4:=Qw5 Q03
theorem Quz:Qiz Tryz.prog 93 Qg2:=Qsh Qd5 Qkg Qv3 Q3
theorem Qi5:Qf2 Tryz.prog 42 Qba:=Qtn Q3k Q5p Qri Tryz.keyK Qsx Quz Qxd Q3
theorem Qr9:Qjw Tryz.prog 43 Qh9:=Qyd Qi5 Q2e
theorem Qok:Qgf Tryz.prog 118 Qeo:=Qm0 Qow Q3
theorem Q1g:Qnm Tryz.prog 119 Qjx:=Qye Q2l
theorem Q1h:Qnn Tryz.prog 120 Qjy:=Qyf Q2m
theorem Q3m:Qqh Tryz.prog 79 Qia:=Q0x Qok Q1g Q1h Q5e
theorem Qv7:Qjk Tryz.prog 132 Qhm:=Qto Qd5 Q3m Qj7 Qxj Q3
theorem Q0a:Qmh Tryz.prog 94 Qjc:=Qw6 Qjg Qv7 Q04 Q3
theorem Qvj:Qmi Tryz.prog 134 Qjp:=Q0y Q5i Q3
theorem Qvk:Qmj Tryz.prog 133 Qjq:=Q0z Q5h Q3
theorem Qys:Qlc Tryz.prog 136 Qgw:=Qvo Qz3
theorem Q2r:Qor Tryz.prog 135 Qk7:=Qzs Q3h Q3
theorem Qyt:Qld Tryz.prog 138 Qfq:=Qvp Qz5
theorem Qyu:Qle Tryz.prog 137 Qgx:=Qvq Qyt Qz4 Q3
theorem Q1i:Qno Tryz.prog 96 Qjz:=Qyg Qvk Qvj Q2r Qys Qyu Q2k Q3
theorem Q3n:Qql Tryz.prog 95 Qmu:=Q00 Qd5 Qvk Qvj Q5g Q3
theorem Qln:Qhj Tryz.prog 45 Qdb:=Qw7 Qjg Q3n Q1i Q02
theorem Q1j:Qnp Tryz.prog 44 Qj0:=Qyh Qln Qd5 Q0a Q2f
theorem Qyv:Qlf Tryz.prog 16 Qgy:=Qvr Q2o Qr9 Q1j Qzu
theorem Q0b:Qmk Tryz.prog 100 Qjd:=Qw8 Q05 Q3
theorem Qmx:Qh4 Tryz.prog 51 Qgs:=Qyi Qyv Qi5 Q0b Q2i Q3
theorem Qci:Qb3 Tryz.prog 63 Qbr:=Qtp Qxf
theorem Qfb:Qdq Tryz.prog 59 Qej:=Qsi Qdt Qv1
theorem Qkz:Qf7 Tryz.prog 101 Qib:=Qqu Qd5 Qfb Qdt Qci Tryz.rowK124 Tryz.compK125 Qtw Q3
theorem Qrj:Qhq Tryz.prog 52 Qkv:=Qph Qkz Qsq
theorem Qhb:Qek Tryz.prog 65 Qdn:=Qpi Qci Qss
theorem Qox:Qgj Tryz.prog 107 Qje:=Qnr Qci Qpn
theorem Qu0:Qi0 Tryz.prog 143 Qnb:=Qsj Qv6 Q3
theorem Qrk:Qhr Tryz.prog 106 Qkw:=Qpj Qu0 Qsv
theorem Qq3:Qg8 Tryz.prog 54 Qj5:=Qot Qdt Qhb Qrk Qox Qrg Q3
theorem Qxn:Qn2 Tryz.prog 56 Qkx:=Q2d Qkg Q6d Q3
theorem Qt2:Qik Tryz.prog 55 Qmv:=Qrc Qd5 Qfb Qci Quw Q3
theorem Qip:Qfj Tryz.prog 57 Qg3:=Qsk Qci Qv0
theorem Qrl:Qhs Tryz.prog 60 Qky:=Qpk Qdt Qci Qkz Qsr Q3
theorem Q2s:Qos Tryz.prog 23 Qvi:=Qzt Qmx Qrj Tryz.rkeyK Qq3 Qt2 Qxn Qip Qd5 Qfb Qrl Q3e Q3
theorem Qq4:Qg9 Tryz.prog 144 Qj6:=Qou Qrh
theorem Qbb6:Qr3 Tryz.prog 146 Q1c:=Qw9 Q09
theorem Qk0:Qf8 Tryz.prog 110 Qic:=Qqv Qip Qfb Qq4 Tryz.rowK145 Qtx Q3
theorem Qu1:Qi1 Tryz.prog 111 Qnc:=Qsl Tryz.rkeyK Qv5 Q3
theorem Qsy:Qh5 Tryz.prog 113 Qly:=Qqw Qhb Qty
theorem Qsz:Qh6 Tryz.prog 147 Qlz:=Qqx Qtz Q3
theorem Qpq:Qgv Tryz.prog 112 Qjr:=Qoj Qsz Qqz
theorem Qt3:Qil Tryz.prog 114 Qmw:=Qrd Qip Qk0 Qux Q3
theorem Qu2:Qi2 Tryz.prog 66 Qnd:=Qsm Qln Qd5 Qfb Qdt Qci Qk0 Qu1 Qpq Qsy Qt3 Qv2 Q3
theorem Qq5:Qi9 Tryz.prog 109 Qgb:=Qxa Q07 Q3
theorem Qyw:Qlg Tryz.prog 115 Qq1:=Qvs Qz2 Q3
theorem Q1k:Qnq Tryz.prog 67 Qt0:=Qyj Qq5 Qyw Q2j
theorem Qyx:Qlh Tryz.prog 26 Qq2:=Qvt Qmx Qu2 Q1k Qzw Q3
theorem Qk1:Qf9 Tryz.prog 28 Qgc:=Qqy Qtu Q3
theorem Qv8:Qjm Tryz.prog 12 Qjs:=Qtq Q2s Qyx Qk1 Qxl Qxc
theorem Qq6:Qha Tryz.prog 40 Qdg:=Qov Qrf Q3
theorem Qne:Qhk Tryz.prog 86 Qf5:=Qtr Qxg
theorem Qjt:Qgh Tryz.prog 72 Qcm:=Quq Qyp Q3
theorem Qo8:Qim Tryz.prog 47 Qd4:=Qvu Qzx Q3
theorem Qv9:Qjn Tryz.prog 129 Qhn:=Qts Qo8 Qjt Qxh Q3
theorem Qwa:Qjo Tryz.prog 130 Qf6:=Qtt Qxi Q3
theorem Qj8:Qfu Tryz.prog 87 Qel:=Qpl Qo8 Qjt Qne Qv9 Qwa Qst Q3
theorem Qxo:Qkc Tryz.prog 41 Qgi:=Qur Qne Qj8 Qyn Q3
theorem Qxp:Qkd Tryz.prog 13 Qhv:=Qus Qq6 Qxo Qyk Q3
theorem Qxq:Qke Tryz.prog 14 Qhw:=Qut Qi5 Qr9 Qyl Q3
theorem Qxr:Qkf Tryz.prog 61 Qhx:=Quu Qci Qyo Q3
theorem Q8t:Qw0 Tryz.prog 64 Qr8:=Q5d Qq5 Qbah
theorem Q0c:Qmn Tryz.prog 24 Qjf:=Qxb Qmx Qxn Qxr Qdt Qci Q8t Qhb Q01
theorem Ql6:Qfa Tryz.prog 27 Qdw:=Qks Qmp
theorem Qyy:Qli Tryz.prog 20 Qll:=Qvv Qzv Q3
theorem Qyz:Qlj Tryz.prog 68 Qlm:=Qvw Qzz Q3
theorem Qt4:Qin Tryz.prog 29 Qgk:=Qre Qyz Quv Q3
theorem Qy0:Qlk Tryz.prog 69 Qio:=Qvx Qjt Qz0 Q3
theorem Qrm:Qht Tryz.prog 30 Qfw:=Qpm Qy0 Qsp
theorem Q1y:Qh7 Tryz.prog 5 Qfr:=Ql5 Qv8 Qxp Qxq Qyy Q0c Ql6 Qk1 Qt4 Qrm Qns
theorem Qu3:Qi3 Tryz.prog 46 Qg4:=Qsn Qj8 Qvz Q3
theorem Q8u:Qm9 Tryz.prog 18 Qg5:=Qso Qln Qu3 Qvy
end Go.Proofs
end
section
namespace Go.Abs
open Go Go.ChangeShapes Go.WideShapes Go.ChangeAt Go.RowKit
def live (w:World):Nat→Nat→Prop:=fun b o=>(w.cell? ⟨b,o,none⟩).isSome=true
def RDs (w:World):List D→List Value→Prop
 | [],vs=>vs=[]
 | x::xs,vs=>∃ u us,vs=u::us∧RD (live w) w x u∧RDs w xs us
theorem Q7k {w:World}:∀ {xs ys:List D} {us vs:List Value},RDs w xs us→RDs w ys vs→RDs w (xs++ys) (us++vs)
 | [],ys,us,vs,h,k=>by grind [RDs]
 | x::xs,ys,us,vs,⟨u,us',e,r,h⟩,k=>by subst e;exact ⟨u,us'++vs,by simp,r,Q7k h k⟩
def RDat (w:World) (cs:List Value) (off:Nat) (xs:List D):Prop:=RDs w xs ((cs.drop off).take xs.length)
theorem RDat.app {w:World} {cs:List Value} {off:Nat} {xs ys:List D} (h:RDat w cs off xs) {n:Nat} (hn:n=off+xs.length) (k:RDat w cs n ys):RDat w cs off (xs++ys):=by
 grind [Q7k,RDat,List.length_append,List.drop_drop]
theorem RDat.nil {w:World} {cs:List Value} {off:Nat}:RDat w cs off []:=by simp [RDat,RDs]
theorem RDat.all {w:World} {cs:List Value} {xs:List D} (h:RDat w cs 0 xs) (hl:cs.length=xs.length):RDs w xs cs:=by
 grind [RDat,List.take_length]
theorem Qbhf {w:World} {b:Nat}:∀ {xs:List D} {vs:List Value} {o:Nat},RDs w xs vs→(∀ i v,vs[i]? = some v→w.cell? ⟨b,o+i,none⟩=some v)→RDc (live w) w b xs o
 | [],vs,o,_,_=>by simp [RDc]
 | x::xs,vs,o,⟨u,us,e,r,h⟩,hc=>by
  subst e;have h0:=hc 0 u rfl;rw [Nat.add_zero] at h0;refine ⟨by simp [live,h0],⟨u,h0,r⟩,Qbhf h fun i v hv=>?_⟩;have:=hc (i+1) v (by simpa using hv)
  grind
def Qy1 {α:Type} (P:Program) (t:TypeId) (e:α→List D) (wf:α→Prop):Prop :=
 ∀ {H:Type} {enc:TypeId×Value→H} {w:World} {base:Nat} {spare:Nat→Bool} {held:Bool} {fuel:Nat} {cs:List Value} {x:DataW H×List MemPlace},
  DataW.trod enc P w base spare held fuel t cs=some x→∃ a,wf a∧RDs w (e a) cs
def wfI (k:IntKind) (n:Int):Prop:=(Lit.int k n).wf=true
def wfL {α:Type} (wf:α→Prop) (l:List α):Prop:=l.length≤maxLen∧∀ a∈l,wf a
variable {P:Program} {t:TypeId}
theorem Q5r {k:IntKind} (ht:P.underlying t=some (.int k)):Qy1 P t (fun n:Int=>[.int k n]) (wfI k):=by
 intro H enc w base spare held fuel cs x h;obtain ⟨n,rfl,_,hw⟩:=DataW.trod_int ht h;exact ⟨n,hw,_,_,rfl,by simp [RD],rfl⟩
theorem cells?_get {w:World} {base:Nat} {a:Addr} {n:Nat} {cs:List Value} (h:w.cells? base a n=some cs):cs.length=n∧∀ i v,cs[i]? = some v→w.cell? (a.add i)=some v:=by
 obtain ⟨h1,h2,h3⟩:=World.cells?_some h
 grind
theorem Qbb7 {α:Type} {el:TypeId} {e:α→List D} {wf:α→Prop} {sz:Nat} (ht:P.underlying t=some (.slice el)) (he:Qy1 P el e wf) (hsz:P.cellsOf el=sz) (hpos:0<sz) (hlen:∀ a,(e a).length=sz) :
  Qy1 P t (fun l:List α=>[.lst sz (l.map e)]) (wfL wf):=by
 intro H enc w base spare held fuel cs x h;rcases DataW.trod_slice ht h with ⟨rfl,_⟩|⟨a,len,cap,Qgn,rest,n,_,rfl,_,hb,hl,hm,helen,hel,_,_⟩
 ·exact ⟨[],⟨by simp,by simp⟩,_,_,rfl,by simp only [RD,List.map_nil,List.length_nil];exact ⟨none,0,rfl,Nat.le_refl _,.inl trivial⟩,rfl⟩
 ·have key:∀ m,m≤len→∃ l:List α,l.length=m∧(∀ x∈l,wf x)∧∀ i y,l[i]? = some y→∃ vs,w.cells? base (a.add (i*sz)) sz=some vs∧RDs w (e y) vs:=by
   intro m
   induction m with
   | zero=>simp_all
   | succ m ih =>
    intro hm';obtain ⟨l,h1,h2,h3⟩:=ih (by omega);have h4:=hel m (by omega);have h5:Qgn[m]? = some Qgn[m]:=List.getElem?_eq_getElem (by omega);rw [h5,hsz,Option.bind_eq_some_iff] at h4;obtain ⟨vs,h6,h7⟩:=h4;obtain ⟨y,h8,h9⟩:=he h7;refine ⟨l++[y],by simp [h1],?_,fun i z hz=>?_⟩
    all_goals grind
  obtain ⟨l,h1,h2,h3⟩:=key len (Nat.le_refl _);have hmax:l.length≤maxLen:=by omega
  refine ⟨l,⟨hmax,h2⟩,_,_,rfl,?_,rfl⟩;simp only [RD,List.length_map,h1];refine ⟨some a,cap,rfl,hl,?_⟩;cases l with
  | nil=>exact .inl rfl
  | cons y l =>
   right;have hspot:a.spot=none:=by
    obtain ⟨vs,h4,h5⟩:=h3 0 y rfl;obtain ⟨h6,h7⟩:=cells?_get h4;have hv:vs[0]? = some vs[0]:=List.getElem?_eq_getElem (by omega);have:=h7 0 _ hv;cases hs:a.spot with
    | none=>rfl
    | some s =>
     grind [Go.World.cell?,Go.Addr.add]
   obtain ⟨b,o,sp⟩:=a;simp only at hspot;subst hspot;refine ⟨b,o,rfl,?_⟩;have row:∀ (l:List α) (j:Nat),(∀ i y,l[i]? = some y→∃ vs,w.cells? base ((⟨b,o,none⟩ : Addr).add ((j+i)*sz)) sz=some vs∧RDs w (e y) vs)→RDL (live w) w sz b (l.map e) (o+j*sz):=by
    intro l
    induction l with
    | nil=>intro j _;simp [RDL]
    | cons y l ih =>
     intro j h;obtain ⟨vs,h4,h5⟩:=h 0 y rfl;obtain ⟨h6,h7⟩:=cells?_get h4;refine ⟨hlen y,Qbhf h5 fun i v hv=>?_,?_⟩
     ·grind [Qhf,Nat.add_assoc]
     ·have:=ih (j+1) fun i y hy=>by
       have:=h (i+1) y (by simpa using hy)
       grind
      grind
   have:=row (y::l) 0 fun i y hy=>by simpa using h3 i y hy
   simpa using this
theorem Qeh {α:Type} {el:TypeId} {e:α→List D} {wf:α→Prop} {sz:Nat} (he:Qy1 P el e wf) (hsz:P.cellsOf el=sz) (hlen:∀ a,(e a).length=sz)
  {H:Type} {enc:TypeId×Value→H} {w:World} {base:Nat} {spare:Nat→Bool} {held:Bool} {fuel off:Nat} {cs:List Value} {x:DataW H×List MemPlace}
  (h:DataW.trod enc P w base spare held fuel el ((cs.drop off).take (P.cellsOf el))=some x):∃ a,wf a∧RDat w cs off (e a):=by
 obtain ⟨a,h1,h2⟩:=he h
 grind [RDat]
theorem Q5s {H:Type} {enc:TypeId×Value→H} {w:World} {base:Nat} {spare:Nat→Bool} {held:Bool} {fuel:Nat} {cs:List Value} {x:DataW H×List MemPlace} {fs:Array Field}
  (ht:P.underlying t=some (.struct fs)) (h:DataW.trod enc P w base spare held fuel t cs=some x) :
  cs.length=P.cellsOf t∧∃ n,∀ (i:Nat) (f:Field),fs[i]? = some f→∃ y,DataW.trod enc P w base spare held n f.type ((cs.drop f.offset).take (P.cellsOf f.type))=some y:=by
 obtain ⟨xs,n,_,_,h1,h2,h3⟩:=DataW.trod_struct ht h;refine ⟨h1,n,fun i f hf=>?_⟩
 grind
theorem Qbja {H:Type} {enc:TypeId×Value→H} {w:World} {base:Nat} {spare:Nat→Bool} {held:Bool} {fuel:Nat} {cs:List Value} {x:DataW H×List MemPlace} {n:Nat} {el:TypeId}
  (ht:P.underlying t=some (.array n el)) (h:DataW.trod enc P w base spare held fuel t cs=some x) :
  cs.length=P.cellsOf t∧∃ m,∀ i,i<n→∃ y,DataW.trod enc P w base spare held m el ((cs.drop (i*P.cellsOf el)).take (P.cellsOf el))=some y:=by
 obtain ⟨xs,m,_,_,h1,h2,h3⟩:=DataW.trod_array ht h;exact ⟨h1,m,fun i hi=>⟨xs[i]'(by omega),by grind⟩⟩
def Q1l {α:Type} (P:Program) (t:TypeId) (v:α→V) (wf:α→Prop):Prop :=
 ∀ {H:Type} {enc:TypeId×Value→H} {w:World} {base b0:Nat} {spare:Nat→Bool} {held:Bool} {u:Value} {d:DataW H} {ps:List MemPlace},
  Value.okWide P w .any b0 t u→DataW.Trod enc P w base spare held t u d ps→∃ a,wf a∧RF ⟨fun _=>0,live w,fun _=>.ext⟩ w (v a) u
theorem Qbmo {imm:Nat→Nat→Prop} {w:World} {x:D} {u:Value} (h:RD imm w x u):u.oneCell'=true:=by
 cases x with
 | int k n=>simp only [RD] at h;subst h;rfl
 | bool b=>simp only [RD] at h;subst h;rfl
 | str s=>simp only [RD] at h;subst h;rfl
 | lst sz l=>simp only [RD] at h;obtain ⟨a,cap,rfl,_⟩:=h;cases a<;>rfl
 | mp es c=>simp only [RD] at h;obtain ⟨b,rfl,_⟩:=h;rfl
theorem Qbhg {w:World} {g:G} (hg:g.imm=live w):∀ {xs:List D} {us:List Value} {ℓ:Owner} {i:Nat},RDs w xs us→RVs g w (xs.map V.d) ℓ i us∧∀ u∈us,u.oneCell'=true
 | [],us,ℓ,i,h=>by grind [RDs,RVs]
 | x::xs,us,ℓ,i,⟨u,us',e,r,h⟩=>by
  subst e;obtain ⟨h1,h2⟩:=Qbhg hg (ℓ:=ℓ) (i:=i+1) h;refine ⟨⟨u,us',rfl,by simpa [RV,hg] using r,h1⟩,fun v hv=>?_⟩;rcases List.mem_cons.1 hv with rfl|hv
  ·exact Qbmo r
  ·exact h2 v hv
theorem Qbhh {α:Type} {e:α→List D} {wf:α→Prop} (he:Qy1 P t e wf) (hagg:(∃ fs,P.underlying t=some (.struct fs))∨∃ n el,P.underlying t=some (.array n el)):Q1l P t (fun a=>.agg ((e a).map V.d)) wf:=by
 intro H enc w base b0 spare held u d ps hok hd;obtain ⟨cs,rfl⟩ : ∃ cs,u = .agg cs:=by
  rcases hagg with ⟨fs,ht⟩|⟨n,el,ht⟩
  ·simp only [Value.okWide,ht] at hok;grind
  ·simp only [Value.okWide,ht] at hok;grind
 obtain ⟨fuel,hf⟩:=hd;obtain ⟨a,h1,h2⟩:=he hf;refine ⟨a,h1,fun ℓ=>?_⟩;simp only [RV];obtain ⟨h3,h4⟩:=Qbhg (g:=⟨fun _=>0,live w,fun _=>.ext⟩) rfl (ℓ:=ℓ) (i:=0) h2;exact ⟨cs.toList,by simp,h3,h4⟩
def Qbmp (P:Program) (f:FuncId) (ts:List TypeId):Prop :=
 ∀ {H:Type} {enc:TypeId×Value→H} {w:World} {b0:Nat} {us:List Value} {ds:List (DataW H)} {ps:List MemPlace},
  (∀ (j:Nat) t u,ts[j]? = some t→us[j]? = some u→Value.okWide P w .any b0 t u)→DataW.TrodAll enc P w 0 (fun _=>true) true ts us ds ps →
  ∃ vs,RFs ⟨fun _=>0,live w,fun _=>.ext⟩ w vs us∧(∀ x∈vs,Flat x)∧V.lt.go 0 vs=true∧∀ M nb,ACalls P f vs M nb (.d (.bool true)) M nb
theorem Q1m (hl:laidOutB P=true) {W W' : World} {sp:Nat→Bool} {H:Type} {enc:TypeId×Value→H}:∀ {ts:List TypeId} {us:List Value} {ds:List (DataW H)} {ps:List MemPlace},
  (∀ t∈ts,P.readableRec t=true∧t<P.types.size)→DataW.TrodAll enc P W 0 (fun _=>true) true ts us ds ps→(∀ p∈ps,W.sameAt W' p)→(∀ p∈ps,sp p.block=true)→DataW.TrodAll enc P W' 0 sp true ts us ds ps
 | [],[],[],ps,_,h,_,_=>h
 | t::ts,u::us,d::ds,ps,hr,⟨p,q,h1,h2,e⟩,hs,hp=>by
  subst e;obtain ⟨r1,r2⟩:=hr t (by simp);exact ⟨p,q,WideElems.Trod_stays hl r1 r2 h1 (fun x hx=>hs x (by simp [hx])) (fun x hx=>hp x (by simp [hx])),Q1m hl (fun t ht=>hr t (by simp [ht])) h2 (fun x hx=>hs x (by simp [hx])) (fun x hx=>hp x (by simp [hx])),rfl⟩
 | [],[],_::_,_,_,h,_,_=>h.elim
 | [],_::_,_,_,_,h,_,_=>h.elim
 | _::_,[],_,_,_,h,_,_=>h.elim
 | _::_,_::_,[],_,_,h,_,_=>h.elim
theorem Q5t {W:World} {sp:Nat→Bool} {held:Bool} {base:Nat} {H:Type} {enc:TypeId×Value→H}:∀ {ts:List TypeId} {us:List Value} {ds:List (DataW H)} {ps:List MemPlace},
  DataW.TrodAll enc P W base sp held ts us ds ps→ds.length=ts.length∧us.length=ts.length
 | [],[],[],ps,h=>⟨rfl,rfl⟩
 | t::ts,u::us,d::ds,ps,⟨p,q,h1,h2,e⟩=>by have:=Q5t h2;simp [this.1,this.2]
 | [],[],_::_,_,h=>h.elim
 | [],_::_,_,_,h=>h.elim
 | _::_,[],_,_,h=>h.elim
 | _::_,_::_,[],_,h=>h.elim
section
variable {α β γ δ:Type} {f:FuncId} {ta tb tc td:TypeId} {va:α→V} {vb:β→V} {vc:γ→V} {vd:δ→V} {wa:α→Prop} {wb:β→Prop} {wc:γ→Prop} {wd:δ→Prop}
theorem Q5u {H:Type} {enc:TypeId×Value→H} {w:World} {base:Nat} {sp:Nat→Bool} {held:Bool} {t:TypeId} {ts:List TypeId} {us:List Value} {ds:List (DataW H)} {ps:List MemPlace} (h:DataW.TrodAll enc P w base sp held (t::ts) us ds ps) :
  ∃ u us' d ds' p q,us=u::us'∧ds=d::ds'∧DataW.Trod enc P w base sp held t u d p∧DataW.TrodAll enc P w base sp held ts us' ds' q:=by
 match us,ds,h with
 | u::us',d::ds',⟨p,q,h1,h2,_⟩=>grind
 | [],[],h=>exact h.elim
 | [],_::_,h=>exact h.elim
 | _::_,[],h=>exact h.elim
theorem Qbb8 {H:Type} {enc:TypeId×Value→H} {w:World} {base:Nat} {sp:Nat→Bool} {held:Bool} {us:List Value} {ds:List (DataW H)} {ps:List MemPlace} (h:DataW.TrodAll enc P w base sp held [] us ds ps):us=[]:=by
 match us,ds,h with
 | [],[],_=>rfl
 | [],_::_,h=>exact h.elim
 | _::_,[],h=>exact h.elim
 | _::_,_::_,h=>exact h.elim
theorem Qbm2 (ra:Q1l P ta va wa) (fa:∀ a,(va a).dem=va a) (la:∀ a,(va a).lt 0=true) (rb:Q1l P tb vb wb) (fb:∀ a,(vb a).dem=vb a) (lb:∀ a,(vb a).lt 0=true)
  (law:∀ a b,wa a→wb b→∀ M nb,ACalls P f [va a,vb b] M nb (.d (.bool true)) M nb):Qbmp P f [ta,tb]:=by
 intro H enc w b0 us ds ps hok hT;obtain ⟨u,us',d,ds',p,q,rfl,rfl,h1,hT⟩:=Q5u hT;obtain ⟨u2,us',d2,ds',p2,q2,rfl,rfl,h2,hT⟩:=Q5u hT;obtain rfl:=Qbb8 hT;obtain ⟨a,ha,hra⟩:=ra (hok 0 _ _ rfl rfl) h1;obtain ⟨b,hb,hrb⟩:=rb (hok 1 _ _ rfl rfl) h2;refine ⟨[va a,vb b],⟨u,_,rfl,hra,u2,_,rfl,hrb,rfl⟩,?_,by simp [V.lt.go,la,lb],law a b ha hb⟩;intro x hx;simp only [List.mem_cons,List.not_mem_nil,or_false] at hx;rcases hx with rfl|rfl
 ·exact fa a
 ·exact fb b
end
theorem Qbdv {H:Type} {enc:TypeId×Value→H} {w:World} {base:Nat} {spare:Nat→Bool} {held:Bool} {fuel:Nat} {cs:List Value} {x:DataW H×List MemPlace} {n sz:Nat} {el:TypeId}
  (ht:P.underlying t=some (.array n el)) (hsz:P.cellsOf el=sz) (h:DataW.trod enc P w base spare held fuel t cs=some x) :
  cs.length=P.cellsOf t∧∃ m,∀ i,i<n→∃ y,DataW.trod enc P w base spare held m el ((cs.drop (i*sz)).take (P.cellsOf el))=some y:=by
 obtain ⟨h1,m,h2⟩:=Qbja ht h;exact ⟨h1,m,fun i hi=>by grind⟩
end Go.Abs
end
