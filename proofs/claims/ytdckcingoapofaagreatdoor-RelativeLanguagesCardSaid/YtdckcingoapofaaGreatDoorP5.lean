/-
  Part 5 of the proof: see the last text.
-/
import Derived.Test.YtdckcingoapofaaGreatDoorP4
import Derived.Test.YtdckcingoapofaaGreatDoorProg
import Derived.KernelRfl
import Derived.Sort.Statements
import Derived.Lib.ItoaNum
import Derived.Lib.SlicesCompact
import Derived.Shelf.SlGeneric
import Derived.Shelf.Strings.BuilderK
import Derived.Shelf.Strconv.Itoa2
import Derived.Shelf.Strconv.Itoa3
import Derived.Shelf.Slices.CompactI
import Derived.Ground.Names2Prog
import Derived.Ground.SlgmProg
import Derived.Ground.SlsfProg
import Derived.Shelf.SlLaysF0
import Derived.Shelf.SortM.Plain
import Derived.Shelf.SortM.SortNone
import Derived.Shelf.SlSortCmp.NoneTotal
import Derived.Shelf.Small.Bits
import Derived.WalkKit
import Derived.BigCall
import Derived.Lib.OthersKept
import Derived.OpenShut
import Derived.ProofKit
import Derived.Carry
import GoSem.Claim
import GoSem.ClaimJoined
import Derived.JoinedTies
set_option linter.unusedVariables false
set_option linter.unusedSimpArgs false
set_option linter.unusedSectionVars false
section
namespace Go.Abs
open Go
set_option maxRecDepth 10000
set_option maxHeartbeats 4000000
theorem Qtk {P:Program} {c:Nat} (hcf:Qo P c=some Qn0):Qjt P c (Qd4):=by
 intro  r h;refine Qbt hcf rfl fun Γ M hP hnt hM=>?_;subst hP;refine ini ?_;refine Z 17 0 ?_;refine Rn.buildT (v:=.agg [.sl 1 (Γ.n0+7) 0 3 3,(i_ 5),.nils 1,.sl 3 (Γ.n0+6) 0 4 4]) tv rfl ?_;refine Z 3 0 ?_;refine Rn.weak (by show WeakSt Γ _ ⟨look [(0,.ptr (Γ.n0+0) 0),(1,.d (.lst 3 (List.map Qj [(Qb.mk 0 0 1),(Qb.mk 0 1 2),(Qb.mk 1 2 3),(Qb.mk 2 2 4)]))),(2,.agg [(i_ 0),(i_ 0),(i_ 1)]),(3,.agg [(i_ 0),(i_ 1),(i_ 2)]),(4,.agg [(i_ 1),(i_ 2),(i_ 3)]),(5,.agg [(i_ 2),(i_ 2),(i_ 4)]),(6,.d (.lst 3 (List.map Qj [(Qb.mk 0 0 1),(Qb.mk 0 1 2),(Qb.mk 1 2 3),(Qb.mk 2 2 4)]))),(7,.sl 1 (Γ.n0+7) 0 3 3),(8,.d (.lst 3 (List.map Qj [(Qb.mk 0 0 1),(Qb.mk 0 1 2),(Qb.mk 1 2 3),(Qb.mk 2 2 4)]))),(9,.agg [.sl 1 (Γ.n0+7) 0 3 3,(i_ 5),.nils 1,.d (.lst 3 (List.map Qj [(Qb.mk 0 0 1),(Qb.mk 0 1 2),(Qb.mk 1 2 3),(Qb.mk 2 2 4)]))]),(10,.agg [.nils 1,(i_ 1),.nils 1,.nils 3]),(11,.sl 1 (Γ.n0+11) 0 3 3),(12,.d (.lst 3 (List.map Qj [(Qb.mk 0 0 1),(Qb.mk 0 1 2),(Qb.mk 1 2 3),(Qb.mk 2 2 4)])))],Qm Γ.n0 (bxs [(0,.cells ([.nils 1,(i_ 0),.nils 1,.nils 3,.nils 1,(i_ 0),.nils 1,.nils 3,.nils 1,(i_ 0),.nils 1,.nils 3,.nils 1,.nils 1])),(7,.cells ([(i_ 0),(i_ 1),(i_ 2)])),(11,.cells ([(i_ 0),(i_ 1),(i_ 2)]))]) M,Γ.n0+18⟩;exact Qb9 6 [.int .i64 0,.int .i64 0,.int .i64 1,.int .i64 0,.int .i64 1,.int .i64 2,.int .i64 1,.int .i64 2,.int .i64 3,.int .i64 2,.int .i64 2,.int .i64 4] rfl rfl ⟨(fPtr rfl),(fSl rfl rfl),sq,sq,sq,sq,(fSl rfl rfl),(fSlO rfl),(fSl rfl rfl),(WkV.agg (.cons (fSlO rfl) (cS rfl (cS rfl (.cons (fSl rfl rfl) .nil))))),sq,(fSlO rfl),(fSl rfl rfl),tv⟩ ⟨bS rfl rfl rfl,bS rfl rfl rfl,bS rfl rfl rfl,tv⟩ rfl) ?_;refine Z 1 1 ?_;intro x1 h;refine Rn.buildT (v:=.agg [.sl 1 (Γ.n0+11) 0 3 3,(i_ 4),.nils 1,(Qg x1)]) tv rfl ?_;refine Z 2 0 ?_;refine Rn.buildT (v:=.agg [.sl 1 (Γ.n0+7) 0 3 3,(i_ 5),.nils 1,.d (.lst 3 (List.map Qj [(Qb.mk 0 0 1),(Qb.mk 0 1 2),(Qb.mk 1 2 3),(Qb.mk 2 2 4)])),.nils 1,(i_ 1),.nils 1,.nils 3,.sl 1 (Γ.n0+11) 0 3 3,(i_ 4),.nils 1,(Qg x1),.sl 1 (Γ.n0+15) 0 1 1,.sl 1 (Γ.n0+16) 0 3 3]) tv rfl ?_;refine Z 2 0 ?_;refine Tr.weak (by show WeakSt Γ _ ⟨look [(0,.ptr (Γ.n0+0) 0),(1,.d (.lst 3 (List.map Qj [(Qb.mk 0 0 1),(Qb.mk 0 1 2),(Qb.mk 1 2 3),(Qb.mk 2 2 4)]))),(2,.agg [(i_ 0),(i_ 0),(i_ 1)]),(3,.agg [(i_ 0),(i_ 1),(i_ 2)]),(4,.agg [(i_ 1),(i_ 2),(i_ 3)]),(5,.agg [(i_ 2),(i_ 2),(i_ 4)]),(6,.d (.lst 3 (List.map Qj [(Qb.mk 0 0 1),(Qb.mk 0 1 2),(Qb.mk 1 2 3),(Qb.mk 2 2 4)]))),(7,(l_ [0,1,2])),(8,.d (.lst 3 (List.map Qj [(Qb.mk 0 0 1),(Qb.mk 0 1 2),(Qb.mk 1 2 3),(Qb.mk 2 2 4)]))),(9,.agg [(l_ [0,1,2]),(i_ 5),.nils 1,.d (.lst 3 (List.map Qj [(Qb.mk 0 0 1),(Qb.mk 0 1 2),(Qb.mk 1 2 3),(Qb.mk 2 2 4)]))]),(10,.agg [.nils 1,(i_ 1),.nils 1,.nils 3]),(11,.sl 1 (Γ.n0+11) 0 3 3),(12,.d (.lst 3 (List.map Qj [(Qb.mk 0 0 1),(Qb.mk 0 1 2),(Qb.mk 1 2 3),(Qb.mk 2 2 4)]))),(13,(Qg x1)),(14,.agg [.sl 1 (Γ.n0+11) 0 3 3,(i_ 4),.nils 1,(Qg x1)]),(15,.sl 1 (Γ.n0+15) 0 1 1),(16,.sl 1 (Γ.n0+16) 0 3 3),(17,.agg [(l_ [0,1,2]),(i_ 5),.nils 1,.d (.lst 3 (List.map Qj [(Qb.mk 0 0 1),(Qb.mk 0 1 2),(Qb.mk 1 2 3),(Qb.mk 2 2 4)])),.nils 1,(i_ 1),.nils 1,.nils 3,.sl 1 (Γ.n0+11) 0 3 3,(i_ 4),.nils 1,(Qg x1),.sl 1 (Γ.n0+15) 0 1 1,.sl 1 (Γ.n0+16) 0 3 3])],Qm Γ.n0 (bxs [(0,.cells ([(l_ [0,1,2]),(i_ 5),.nils 1,.d (.lst 3 (List.map Qj [(Qb.mk 0 0 1),(Qb.mk 0 1 2),(Qb.mk 1 2 3),(Qb.mk 2 2 4)])),.nils 1,(i_ 1),.nils 1,.nils 3,.sl 1 (Γ.n0+11) 0 3 3,(i_ 4),.nils 1,(Qg x1),.sl 1 (Γ.n0+15) 0 1 1,.sl 1 (Γ.n0+16) 0 3 3])),(11,.cells ([(i_ 0),(i_ 1),(i_ 2)])),(15,.cells ([(i_ 2)])),(16,.cells ([(i_ 0),(i_ 1),(i_ 2)]))]) M,Γ.n0+18⟩;exact Qb9 7 [.int .i64 0,.int .i64 1,.int .i64 2] rfl rfl ⟨(fPtr rfl),sq,sq,sq,sq,sq,sq,(fSl rfl rfl),sq,(WkV.agg (.cons (fSl rfl rfl) (cS rfl (cS rfl (cS rfl .nil))))),sq,(fSlO rfl),sq,sq,(WkV.agg (.cons (fSlO rfl) (cS rfl (cS rfl (cS rfl .nil))))),(fSlO rfl),(fSlO rfl),(WkV.agg (.cons (fSl rfl rfl) (cS rfl (cS rfl (cS rfl (cS rfl (cS rfl (cS rfl (cS rfl (.cons (fSlO rfl) (cS rfl (cS rfl (cS rfl (.cons (fSlO rfl) (.cons (fSlO rfl) .nil))))))))))))))),tv⟩ ⟨⟨_,rfl,rfl,(.cons (fSl rfl rfl) (cS rfl (cS rfl (cS rfl (cS rfl (cS rfl (cS rfl (cS rfl (.cons (fSlO rfl) (cS rfl (cS rfl (cS rfl (.cons (fSlO rfl) (.cons (fSlO rfl) .nil))))))))))))))⟩,bS rfl rfl rfl,bS rfl rfl rfl,bS rfl rfl rfl,tv⟩ rfl) ?_;refine Tr.weak (by show WeakSt Γ _ ⟨look [(0,.ptr (Γ.n0+0) 0),(1,.d (.lst 3 (List.map Qj [(Qb.mk 0 0 1),(Qb.mk 0 1 2),(Qb.mk 1 2 3),(Qb.mk 2 2 4)]))),(2,.agg [(i_ 0),(i_ 0),(i_ 1)]),(3,.agg [(i_ 0),(i_ 1),(i_ 2)]),(4,.agg [(i_ 1),(i_ 2),(i_ 3)]),(5,.agg [(i_ 2),(i_ 2),(i_ 4)]),(6,.d (.lst 3 (List.map Qj [(Qb.mk 0 0 1),(Qb.mk 0 1 2),(Qb.mk 1 2 3),(Qb.mk 2 2 4)]))),(7,(l_ [0,1,2])),(8,.d (.lst 3 (List.map Qj [(Qb.mk 0 0 1),(Qb.mk 0 1 2),(Qb.mk 1 2 3),(Qb.mk 2 2 4)]))),(9,.agg [(l_ [0,1,2]),(i_ 5),.nils 1,.d (.lst 3 (List.map Qj [(Qb.mk 0 0 1),(Qb.mk 0 1 2),(Qb.mk 1 2 3),(Qb.mk 2 2 4)]))]),(10,.agg [.nils 1,(i_ 1),.nils 1,.nils 3]),(11,(l_ [0,1,2])),(12,.d (.lst 3 (List.map Qj [(Qb.mk 0 0 1),(Qb.mk 0 1 2),(Qb.mk 1 2 3),(Qb.mk 2 2 4)]))),(13,(Qg x1)),(14,.agg [(l_ [0,1,2]),(i_ 4),.nils 1,(Qg x1)]),(15,.sl 1 (Γ.n0+15) 0 1 1),(16,.sl 1 (Γ.n0+16) 0 3 3),(17,.agg [(l_ [0,1,2]),(i_ 5),.nils 1,.d (.lst 3 (List.map Qj [(Qb.mk 0 0 1),(Qb.mk 0 1 2),(Qb.mk 1 2 3),(Qb.mk 2 2 4)])),.nils 1,(i_ 1),.nils 1,.nils 3,(l_ [0,1,2]),(i_ 4),.nils 1,(Qg x1),.sl 1 (Γ.n0+15) 0 1 1,.sl 1 (Γ.n0+16) 0 3 3])],Qm Γ.n0 (bxs [(0,.cells ([(l_ [0,1,2]),(i_ 5),.nils 1,.d (.lst 3 (List.map Qj [(Qb.mk 0 0 1),(Qb.mk 0 1 2),(Qb.mk 1 2 3),(Qb.mk 2 2 4)])),.nils 1,(i_ 1),.nils 1,.nils 3,(l_ [0,1,2]),(i_ 4),.nils 1,(Qg x1),.sl 1 (Γ.n0+15) 0 1 1,.sl 1 (Γ.n0+16) 0 3 3])),(15,.cells ([(i_ 2)])),(16,.cells ([(i_ 0),(i_ 1),(i_ 2)]))]) M,Γ.n0+18⟩;exact Qb9 11 [.int .i64 0,.int .i64 1,.int .i64 2] rfl rfl ⟨(fPtr rfl),sq,sq,sq,sq,sq,sq,sq,sq,sq,sq,(fSl rfl rfl),sq,sq,(WkV.agg (.cons (fSl rfl rfl) (cS rfl (cS rfl (cS rfl .nil))))),(fSlO rfl),(fSlO rfl),(WkV.agg (cS rfl (cS rfl (cS rfl (cS rfl (cS rfl (cS rfl (cS rfl (cS rfl (.cons (fSl rfl rfl) (cS rfl (cS rfl (cS rfl (.cons (fSlO rfl) (.cons (fSlO rfl) .nil))))))))))))))),tv⟩ ⟨⟨_,rfl,rfl,(cS rfl (cS rfl (cS rfl (cS rfl (cS rfl (cS rfl (cS rfl (cS rfl (.cons (fSl rfl rfl) (cS rfl (cS rfl (cS rfl (.cons (fSlO rfl) (.cons (fSlO rfl) .nil))))))))))))))⟩,bS rfl rfl rfl,bS rfl rfl rfl,tv⟩ rfl) ?_;refine Tr.weak (by show WeakSt Γ _ ⟨look [(0,.ptr (Γ.n0+0) 0),(1,.d (.lst 3 (List.map Qj [(Qb.mk 0 0 1),(Qb.mk 0 1 2),(Qb.mk 1 2 3),(Qb.mk 2 2 4)]))),(2,.agg [(i_ 0),(i_ 0),(i_ 1)]),(3,.agg [(i_ 0),(i_ 1),(i_ 2)]),(4,.agg [(i_ 1),(i_ 2),(i_ 3)]),(5,.agg [(i_ 2),(i_ 2),(i_ 4)]),(6,.d (.lst 3 (List.map Qj [(Qb.mk 0 0 1),(Qb.mk 0 1 2),(Qb.mk 1 2 3),(Qb.mk 2 2 4)]))),(7,(l_ [0,1,2])),(8,.d (.lst 3 (List.map Qj [(Qb.mk 0 0 1),(Qb.mk 0 1 2),(Qb.mk 1 2 3),(Qb.mk 2 2 4)]))),(9,.agg [(l_ [0,1,2]),(i_ 5),.nils 1,.d (.lst 3 (List.map Qj [(Qb.mk 0 0 1),(Qb.mk 0 1 2),(Qb.mk 1 2 3),(Qb.mk 2 2 4)]))]),(10,.agg [.nils 1,(i_ 1),.nils 1,.nils 3]),(11,(l_ [0,1,2])),(12,.d (.lst 3 (List.map Qj [(Qb.mk 0 0 1),(Qb.mk 0 1 2),(Qb.mk 1 2 3),(Qb.mk 2 2 4)]))),(13,(Qg x1)),(14,.agg [(l_ [0,1,2]),(i_ 4),.nils 1,(Qg x1)]),(15,(l_ [2])),(16,.sl 1 (Γ.n0+16) 0 3 3),(17,.agg [(l_ [0,1,2]),(i_ 5),.nils 1,.d (.lst 3 (List.map Qj [(Qb.mk 0 0 1),(Qb.mk 0 1 2),(Qb.mk 1 2 3),(Qb.mk 2 2 4)])),.nils 1,(i_ 1),.nils 1,.nils 3,(l_ [0,1,2]),(i_ 4),.nils 1,(Qg x1),(l_ [2]),.sl 1 (Γ.n0+16) 0 3 3])],Qm Γ.n0 (bxs [(0,.cells ([(l_ [0,1,2]),(i_ 5),.nils 1,.d (.lst 3 (List.map Qj [(Qb.mk 0 0 1),(Qb.mk 0 1 2),(Qb.mk 1 2 3),(Qb.mk 2 2 4)])),.nils 1,(i_ 1),.nils 1,.nils 3,(l_ [0,1,2]),(i_ 4),.nils 1,(Qg x1),(l_ [2]),.sl 1 (Γ.n0+16) 0 3 3])),(16,.cells ([(i_ 0),(i_ 1),(i_ 2)]))]) M,Γ.n0+18⟩;exact Qb9 15 [.int .i64 2] rfl rfl ⟨(fPtr rfl),sq,sq,sq,sq,sq,sq,sq,sq,sq,sq,sq,sq,sq,sq,(fSl rfl rfl),(fSlO rfl),(WkV.agg (cS rfl (cS rfl (cS rfl (cS rfl (cS rfl (cS rfl (cS rfl (cS rfl (cS rfl (cS rfl (cS rfl (cS rfl (.cons (fSl rfl rfl) (.cons (fSlO rfl) .nil))))))))))))))),tv⟩ ⟨⟨_,rfl,rfl,(cS rfl (cS rfl (cS rfl (cS rfl (cS rfl (cS rfl (cS rfl (cS rfl (cS rfl (cS rfl (cS rfl (cS rfl (.cons (fSl rfl rfl) (.cons (fSlO rfl) .nil))))))))))))))⟩,bS rfl rfl rfl,tv⟩ rfl) ?_;refine Tr.weak (by show WeakSt Γ _ ⟨look [(0,.ptr (Γ.n0+0) 0),(1,.d (.lst 3 (List.map Qj [(Qb.mk 0 0 1),(Qb.mk 0 1 2),(Qb.mk 1 2 3),(Qb.mk 2 2 4)]))),(2,.agg [(i_ 0),(i_ 0),(i_ 1)]),(3,.agg [(i_ 0),(i_ 1),(i_ 2)]),(4,.agg [(i_ 1),(i_ 2),(i_ 3)]),(5,.agg [(i_ 2),(i_ 2),(i_ 4)]),(6,.d (.lst 3 (List.map Qj [(Qb.mk 0 0 1),(Qb.mk 0 1 2),(Qb.mk 1 2 3),(Qb.mk 2 2 4)]))),(7,(l_ [0,1,2])),(8,.d (.lst 3 (List.map Qj [(Qb.mk 0 0 1),(Qb.mk 0 1 2),(Qb.mk 1 2 3),(Qb.mk 2 2 4)]))),(9,.agg [(l_ [0,1,2]),(i_ 5),.nils 1,.d (.lst 3 (List.map Qj [(Qb.mk 0 0 1),(Qb.mk 0 1 2),(Qb.mk 1 2 3),(Qb.mk 2 2 4)]))]),(10,.agg [.nils 1,(i_ 1),.nils 1,.nils 3]),(11,(l_ [0,1,2])),(12,.d (.lst 3 (List.map Qj [(Qb.mk 0 0 1),(Qb.mk 0 1 2),(Qb.mk 1 2 3),(Qb.mk 2 2 4)]))),(13,(Qg x1)),(14,.agg [(l_ [0,1,2]),(i_ 4),.nils 1,(Qg x1)]),(15,(l_ [2])),(16,(l_ [0,1,2])),(17,.agg [(l_ [0,1,2]),(i_ 5),.nils 1,.d (.lst 3 (List.map Qj [(Qb.mk 0 0 1),(Qb.mk 0 1 2),(Qb.mk 1 2 3),(Qb.mk 2 2 4)])),.nils 1,(i_ 1),.nils 1,.nils 3,(l_ [0,1,2]),(i_ 4),.nils 1,(Qg x1),(l_ [2]),(l_ [0,1,2])])],Qm Γ.n0 (bxs [(0,.cells ([(l_ [0,1,2]),(i_ 5),.nils 1,.d (.lst 3 (List.map Qj [(Qb.mk 0 0 1),(Qb.mk 0 1 2),(Qb.mk 1 2 3),(Qb.mk 2 2 4)])),.nils 1,(i_ 1),.nils 1,.nils 3,(l_ [0,1,2]),(i_ 4),.nils 1,(Qg x1),(l_ [2]),(l_ [0,1,2])]))]) M,Γ.n0+18⟩;exact Qb9 16 [.int .i64 0,.int .i64 1,.int .i64 2] rfl rfl ⟨(fPtr rfl),sq,sq,sq,sq,sq,sq,sq,sq,sq,sq,sq,sq,sq,sq,sq,(fSl rfl rfl),(WkV.agg (cS rfl (cS rfl (cS rfl (cS rfl (cS rfl (cS rfl (cS rfl (cS rfl (cS rfl (cS rfl (cS rfl (cS rfl (cS rfl (.cons (fSl rfl rfl) .nil))))))))))))))),tv⟩ ⟨⟨_,rfl,rfl,(cS rfl (cS rfl (cS rfl (cS rfl (cS rfl (cS rfl (cS rfl (cS rfl (cS rfl (cS rfl (cS rfl (cS rfl (cS rfl (.cons (fSl rfl rfl) .nil))))))))))))))⟩,tv⟩ rfl) ?_;exact Y
theorem Qtl {P:Program} {c:Nat} (hcf:Qo P c=some Qn1) (fuel:Nat):Qju P c (Qcw fuel):=by
 intro l1 n2 r h;refine Qbt hcf rfl fun Γ M hP hnt hM=>?_;subst hP;refine ini ?_;refine Z 12 0 ?_;refine lw h [0,1,7,8] [] (fun x3 e=>(9,(i_ x3))::e) (fun _ l=>l) ke wk (fun _ x3 h=>?_);refine Z 5 0 ?_;refine ci h rfl (fun h=>?_) (fun h=>Y);refine Z 12 1 ?_;intro _ h;refine cw h [0,1,5,6,7,8,9] [] (fun x9 e=>(14,(b_ x9))::e) (fun _ l=>l) ke (fun _ h=>?_) (fun x9 h=>?_)
 ·refine Z 4 0 ?_;exact bi h (fun _ h=>Y) (fun _ h=>Y)
 ·refine cd h rfl (fun h=>Y) (fun h=>?_);refine cw h [0,1,7,8,9] [] (fun x14 e=>(22,(b_ x14))::e) (fun _ l=>l) ke (fun _ h=>?_) (fun x14 h=>?_)
  ·refine Z 4 0 ?_;exact bi h (fun _ h=>Y) (fun _ h=>Y)
  ·exact cd h rfl (fun h=>Y) (fun h=>Y)
theorem Qvt {P:Program} {c:Nat} (hcf:Qo P c=some Qqp) (fuel:Nat):Qli P c (Qd8 fuel):=by
 intro s1 v2 r h;refine Qbt hcf rfl fun Γ M hP hnt hM=>?_;subst hP;refine ini ?_;refine Z 12 0 ?_;refine lw h [0,1,7] [] (fun x3 e=>(8,(i_ x3))::e) (fun _ l=>l) ke wk (fun _ x3 h=>?_);refine Z 5 0 ?_;refine ci h rfl (fun h=>?_) (fun h=>Y);refine Z 17 1 ?_;intro _ h;exact cd h rfl (fun h=>Y) (fun h=>Y)
theorem Qsj {P:Program} {c:Nat} {Qd8:_}
    (Hdl:Qli P 108 Qd8) (hcf:Qo P c=some Qnd):Qc5 P c (Qn Qd8):=by
 intro s1 v2 r h;refine Qbt hcf rfl fun Γ M hP hnt hM=>?_;subst hP;refine ini ?_;refine Z 8 0 ?_;refine cl (Hdl _ _) h (cq fun _ h=>?_);exact Y
theorem Qrd {P:Program} {c:Nat} {Qn:_}
    (Hdg:Qc5 P 62 Qn) (hcf:Qo P c=some Ql6) (fuel:Nat):Qig P c (Qcs Qn fuel):=by
 intro a1 r h;refine Qbt hcf rfl fun Γ M hP hnt hM=>?_;subst hP;refine ini ?_;refine Z 14 0 ?_;refine lo h (fun x2=>⟨look [(1,.ptr (Γ.n0+1) 0),(7,(Qg a1.zD)),(8,(i_ (a1.zD.length:Int))),(9,(i_ x2))],Qm Γ.n0 (bxs [(1,.cells ((Qr a1)))]) M,Γ.n0+72⟩) wk (fun _ x2 h=>?_);refine Z 5 0 ?_;refine ci h rfl (fun h=>?_) (fun h=>Y);refine Tr.skip ?_;refine Tr.cutJ (fun ((c22,c23,c24):Int×Int×Int)=>⟨look [(1,.ptr (Γ.n0+1) 0),(7,(Qg a1.zD)),(8,(i_ (a1.zD.length:Int))),(9,(i_ x2))],Qm Γ.n0 (bxs [(1,.cells ((Qr a1))),(4,.cells ([(i_ c22),(i_ c23),(i_ c24)]))]) M,Γ.n0+72⟩) h (fun J25 h=>?_) (fun z h=>?_)
 ·refine Z 12 1 ?_;intro x5 h;refine cu h (fun x10=>⟨look [(1,.ptr (Γ.n0+1) 0),(3,(i_ x2)),(4,.ptr (Γ.n0+4) 0),(7,(Qg a1.zD)),(8,(i_ (a1.zD.length:Int))),(9,(i_ x2)),(14,(b_ x10))],Qm Γ.n0 (bxs [(1,.cells ((Qr a1))),(4,.cells ((Qou x5)))]) M,Γ.n0+72⟩) (fun _ h=>?_) (fun x10 h=>?_)
  ·refine Z 5 0 ?_;refine bi h (fun _ h=>Y) (fun _ h=>?_);refine Z 7 0 ?_;refine bi h (fun _ h=>Y) (fun _ h=>?_);refine Z 5 0 ?_;exact bi h (fun _ h=>Y) (fun _ h=>Y)
  ·refine cd h rfl (fun h=>Y) (fun h=>?_);refine Z 6 0 ?_;refine cl (Hdg _ _) h (cq fun _ h=>?_);refine Z 3 0 ?_;refine Tr.cond rfl (fun hb14=>?_) (fun hb14=>?_)
   ·have hb14:=nT' hb14;replace h:=bF hb14 h;exact Y
   ·have hb14:=nF' hb14;replace h:=bT hb14 h;refine Z 7 0 ?_;refine cd h rfl (fun h=>?_) (fun h=>?_)
    ·refine Tr.exit ?_;exact ⟨_,h,(by exact Qg0 [] ⟨(kPtr rfl),sq,sq,sq,tv⟩ ⟨bS rfl rfl rfl,bS rfl rfl rfl,tv⟩ rfl)⟩
    ·refine Z 12 1 ?_;intro x16 h;refine cu h (fun x20=>⟨look [(1,.ptr (Γ.n0+1) 0),(7,(Qg a1.zD)),(8,(i_ (a1.zD.length:Int))),(9,(i_ x2)),(70,(b_ x20))],Qm Γ.n0 (bxs [(1,.cells ((Qr a1))),(4,.cells ((Qou x5))),(5,.cells ((Qou x16)))]) M,Γ.n0+72⟩) (fun _ h=>?_) (fun x20 h=>?_)
     ·refine Z 7 0 ?_;refine bi h (fun _ h=>Y) (fun _ h=>?_);refine Z 6 0 ?_;exact bs h (fun _ h=>Y) (fun _ h=>Y)
     ·refine cd h rfl (fun h=>Y) (fun h=>?_);refine Tr.skip ?_;exact ⟨_,h,(by exact Qg0 [5] ⟨(kPtr rfl),sq,sq,sq,tv⟩ ⟨bS rfl rfl rfl,bS rfl rfl rfl,tv⟩ rfl)⟩
 ·obtain ⟨c22,c23,c24⟩:=z;exact Y
theorem Qw0 {P:Program} {c:Nat} {Qcw:_} {Qcs:_}
    (Han:Qju P 97 Qcw)
    (Ham:Qig P 98 Qcs) (hcf:Qo P c=some Qsa):Qga P c (Qx Qcw Qcs):=by
 intro a1 r h;refine Qbt hcf rfl fun Γ M hP hnt hM=>?_;subst hP;refine ini ?_;refine Z 10 0 ?_;refine cl (Han _ _) h (cq fun _ h=>?_);refine Z 7 0 ?_;refine cd h rfl (fun h=>Y) (fun h=>?_);refine Z 10 0 ?_;refine ci h rfl (fun h=>Y) (fun h=>?_);refine Z 7 0 ?_;refine ci h rfl (fun h=>Y) (fun h=>?_);refine Z 8 0 ?_;refine cl (Han _ _) h (cq fun _ h=>?_);refine Z 7 0 ?_;refine cd h rfl (fun h=>Y) (fun h=>?_);refine Z 4 0 ?_;refine cl (Ham _) h (cq fun _ h=>?_);exact Y
theorem Qx8 {P:Program} {c:Nat} (hcf:Qo P c=some Qt6) (fuel:Nat):Qkl P c (Qb7 fuel):=by
 intro a1 b2 kv3 g4 cp5 r h;intro M nb hc6 ho8 hf7;refine Qvf hcf rfl M nb fun Γ hP hnt hn0 hM=>?_;subst hP hn0;refine ini ?_;refine Z 8 0 ?_;refine cw h [] [] (fun ov51 e=>(7,(o_ ov51))::e) (fun _ l=>l) ke (fun _ h=>?_) (fun ov51 h=>Y);refine Tr.block ?_;refine lw h [2] [] (fun (a11,b12,ov13) e=>(0,(l_ a11))::(1,(l_ b12))::(7,(o_ ov13))::e) (fun _ l=>l) ke wk (fun _ ⟨a11,b12,ov13⟩ h=>?_);refine Tr.seq ?_;refine cw h [0,1,2,7] [] (fun x16 e=>(18,(b_ x16))::e) (fun _ l=>l) ke (fun _ h=>?_) (fun x16 h=>?_)
 ·refine Z 5 0 ?_;exact bi h (fun _ h=>Y) (fun _ h=>Y)
 ·refine cd h rfl (fun h=>?_) (fun h=>Y);refine Z 2 0 ?_;refine cw h [0,1,2,7] [] (fun iv24 e=>(8,(b_ iv24))::e) (fun _ l=>l) ke (fun _ h=>?_) (fun iv24 h=>?_)
  ·refine Z 5 0 ?_;refine bi h (fun _ h=>?_) (fun _ h=>Y);refine Z 4 0 ?_;exact bs h (fun _ h=>Y) (fun _ h=>Y)
  ·refine cw h [0,1,2,7,8] [] (fun iv31 e=>(9,(b_ iv31))::e) (fun _ l=>l) ke (fun _ h=>?_) (fun iv31 h=>?_)
   ·refine Z 5 0 ?_;refine bi h (fun _ h=>?_) (fun _ h=>Y);refine Z 4 0 ?_;exact bs h (fun _ h=>Y) (fun _ h=>Y)
   ·refine Z 4 0 ?_;refine cw h [1,2,7,8,9] [] (fun (a37,x38) e=>(0,(l_ a37))::(10,(i_ x38))::e) (fun _ l=>l) ke (fun _ h=>?_) (fun ⟨a37,x38⟩ h=>?_)
    ·refine Z 4 0 ?_;refine cd h rfl (fun h=>?_) (fun h=>Y);refine Z 5 1 ?_;intro _ h;obtain ⟨x35,h36,h⟩:=bnd h;refine Rn.slcTD (e:=(eI .i64)) tv rfl rfl h36 ?_;exact Y
    ·refine cw h [0,2,7,8,9] [] (fun (b44,x45) e=>(1,(l_ b44))::(10,(i_ x45))::e) (fun _ l=>l) ke (fun _ h=>?_) (fun ⟨b44,x45⟩ h=>?_)
     ·refine Z 4 0 ?_;refine cd h rfl (fun h=>?_) (fun h=>Y);refine Z 5 1 ?_;intro _ h;obtain ⟨x42,h43,h⟩:=bnd h;refine Rn.slcTD (e:=(eI .i64)) tv rfl rfl h43 ?_;exact Y
     ·refine Z 5 0 ?_;obtain ⟨x47,h46,h⟩:=bnd h;refine Rn.callvM (args:=[(b_ iv24),(b_ iv31)]++cp5) tv rfl (by rw [hc6];rfl) (fun M2 nb2 hn hx=>hf7 _ _ _ h46 M2 nb2 (by omega) ((Qve hM).trans hx)) rfl pc9 ?_;refine Z 1 0 ?_;exact cd h rfl (fun h=>Y) (fun h=>Y)
theorem Qvu {P:Program} {c:Nat} (hcf:Qo P c=some Qqq):Qlj P c (Qev):=by
 intro iv1 iv2 r h;refine Qbt hcf rfl fun Γ M hP hnt hM=>?_;subst hP;refine ini ?_;refine Z 8 0 ?_;exact bs h (fun _ h=>Y) (fun _ h=>Y)
theorem Qx9 {P:Program} {c:Nat} {Qb7:_} {Qev:_}
    (Hah:Qkl P 139 Qb7)
    (Had:Qlj P 140 Qev) (hcf:Qo P c=some Qt7):Qnp P c (Qe4 Qb7 Qev):=by
 intro a1 b2 r h;refine Qbt hcf rfl fun Γ M hP hnt hM=>?_;subst hP;refine ini ?_;refine Z 8 0 ?_;refine cm h (fun _ h7 M2 nb2 hn hx=>Hah _ _ _ 140 [] _ h7 M2 nb2 rfl tv (fun a3 a4 r5 h6 M3 nb3 hn3 hx3=>Had a3 a4 r5 h6 M3 nb3 )) rfl (cq fun _ h=>?_);exact Y
theorem Qw1 {P:Program} {c:Nat} {Qe4:_}
    (Hac:Qnp P 99 Qe4) (hcf:Qo P c=some Qsb):Qmo P c (Qen Qe4):=by
 intro a1 b2 r h;refine Qbt hcf rfl fun Γ M hP hnt hM=>?_;subst hP;refine ini ?_;refine Z 8 0 ?_;refine cl (Hac _ _) h (cq fun _ h=>?_);exact Y
theorem Quh {P:Program} {c:Nat} (hcf:Qo P c=some Qpd) (fuel:Nat):Qks P c (Qde fuel):=by
 intro xv1 n2 r h;refine Qbt hcf rfl fun Γ M hP hnt hM=>?_;subst hP;refine ini ?_;refine Z 12 0 ?_;refine lw h [0,1,7,8] [] (fun x3 e=>(9,(i_ x3))::e) (fun _ l=>l) ke wk (fun _ x3 h=>?_);refine Z 5 0 ?_;refine ci h rfl (fun h=>?_) (fun h=>Y);refine Z 12 1 ?_;intro _ h;refine cw h [0,1,5,6,7,8,9] [] (fun x9 e=>(20,(b_ x9))::e) (fun _ l=>l) ke (fun _ h=>?_) (fun x9 h=>?_)
 ·refine Z 4 0 ?_;exact bi h (fun _ h=>Y) (fun _ h=>Y)
 ·refine cd h rfl (fun h=>Y) (fun h=>?_);refine Tr.skip ?_;refine cw h [0,1,7,8,9] [] (fun x14 e=>(31,(b_ x14))::e) (fun _ l=>l) ke (fun _ h=>?_) (fun x14 h=>?_)
  ·refine Z 4 0 ?_;exact bi h (fun _ h=>Y) (fun _ h=>Y)
  ·exact cd h rfl (fun h=>Y) (fun h=>Y)
theorem Qya {P:Program} {c:Nat} {Qx:_} {Qen:_} {Qde:_}
    (Hai:Qga P 48 Qx)
    (Hae:Qmo P 49 Qen)
    (Haa:Qks P 50 Qde) (hcf:Qo P c=some Qt8) (fuel:Nat):Qkm P c (Qcg Qx Qen Qde fuel):=by
 intro p1 r h;refine Qbt hcf rfl fun Γ M hP hnt hM=>?_;subst hP;refine ini ?_;refine Z 15 0 ?_;refine Rn.k (v:=.d (.int .i64 3)) tv rfl rfl rfl ?_;refine Z 3 0 ?_;refine Tr.weak (by show WeakSt Γ _ ⟨look [(0,(Qu p1)),(1,.ptr (Γ.n0+1) 0),(2,(i_ 0)),(11,.ptr (Γ.n0+1) 0),(12,(Qe p1.Plant)),(13,.ptr (Γ.n0+1) 4),(14,(Qe p1.Ambient)),(15,.ptr (Γ.n0+1) 8),(16,(Qe p1.Requirement)),(17,.d (.lst 4 (List.map Qbp [p1.Plant,p1.Ambient,p1.Requirement]))),(18,(i_ 3)),(19,(i_ 0))],Qm Γ.n0 (bxs [(1,.cells ((Qbf p1)))]) M,Γ.n0+63⟩;exact Qb9 17 [.lst 1 (List.map (eI .i64) p1.Plant.zB),.int .i64 p1.Plant.zF,.lst 1 (List.map (eI .i64) p1.Plant.zC),.lst 3 (List.map Qj p1.Plant.zD),.lst 1 (List.map (eI .i64) p1.Ambient.zB),.int .i64 p1.Ambient.zF,.lst 1 (List.map (eI .i64) p1.Ambient.zC),.lst 3 (List.map Qj p1.Ambient.zD),.lst 1 (List.map (eI .i64) p1.Requirement.zB),.int .i64 p1.Requirement.zF,.lst 1 (List.map (eI .i64) p1.Requirement.zC),.lst 3 (List.map Qj p1.Requirement.zD)] rfl rfl ⟨sq,(fPtr rfl),sq,(fPtr rfl),sq,(fPtr rfl),sq,(fPtr rfl),sq,(fSl rfl rfl),sq,sq,tv⟩ ⟨bS rfl rfl rfl,tv⟩ rfl) ?_;refine lw h [1,17,18] [1] (fun x2 e=>(19,(i_ x2))::e) (fun _ l=>l) ke wk (fun _ x2 h=>?_);refine Z 5 0 ?_;refine ci h rfl (fun h=>?_) (fun h=>?_)
 ·refine Z 13 1 ?_;intro _ h;refine cl (Hai _) h (cq fun _ h=>?_);refine Z 7 0 ?_;exact cd h rfl (fun h=>Y) (fun h=>Y)
 ·refine Z 9 0 ?_;refine Rn.k (v:=.d (.int .i64 2)) tv rfl rfl rfl ?_;refine Z 3 0 ?_;refine Tr.weak (by show WeakSt Γ _ ⟨look [(1,.ptr (Γ.n0+1) 0),(17,.d (.lst 4 (List.map Qbp [p1.Plant,p1.Ambient,p1.Requirement]))),(18,(i_ 3)),(19,(i_ x2)),(20,(b_ (decide (x2<3)))),(29,.ptr (Γ.n0+1) 4),(30,(Qe p1.Ambient)),(31,.ptr (Γ.n0+1) 8),(32,(Qe p1.Requirement)),(33,.d (.lst 4 (List.map Qbp [p1.Ambient,p1.Requirement]))),(34,(i_ 2)),(35,(i_ 0))],Qm Γ.n0 (bxs [(1,.cells ((Qbf p1)))]) M,Γ.n0+63⟩;exact Qb9 33 [.lst 1 (List.map (eI .i64) p1.Ambient.zB),.int .i64 p1.Ambient.zF,.lst 1 (List.map (eI .i64) p1.Ambient.zC),.lst 3 (List.map Qj p1.Ambient.zD),.lst 1 (List.map (eI .i64) p1.Requirement.zB),.int .i64 p1.Requirement.zF,.lst 1 (List.map (eI .i64) p1.Requirement.zC),.lst 3 (List.map Qj p1.Requirement.zD)] rfl rfl ⟨(fPtr rfl),sq,sq,sq,sq,(fPtr rfl),sq,(fPtr rfl),sq,(fSl rfl rfl),sq,sq,tv⟩ ⟨bS rfl rfl rfl,tv⟩ rfl) ?_;refine lw h [1,33,34] [1] (fun x10 e=>(35,(i_ x10))::e) (fun _ l=>l) ke wk (fun _ x10 h=>?_);refine Z 5 0 ?_;refine ci h rfl (fun h=>?_) (fun h=>?_)
  ·refine Z 17 1 ?_;intro _ h;refine cl (Hae _ _) h (cq fun _ h=>?_);refine Z 2 0 ?_;refine Tr.cond rfl (fun hb17=>?_) (fun hb17=>?_)
   ·have hb17:=nT' hb17;replace h:=bF hb17 h;exact Y
   ·have hb17:=nF' hb17;replace h:=bT hb17 h;exact Y
  ·refine Z 9 0 ?_;refine Rn.k (v:=.d (.int .i64 2)) tv rfl rfl rfl ?_;refine Z 3 0 ?_;refine Tr.weak (by show WeakSt Γ _ ⟨look [(1,.ptr (Γ.n0+1) 0),(33,.d (.lst 4 (List.map Qbp [p1.Ambient,p1.Requirement]))),(34,(i_ 2)),(35,(i_ x10)),(36,(b_ (decide (x10<2)))),(47,.ptr (Γ.n0+1) 12),(48,(l_ p1.Observable)),(49,.ptr (Γ.n0+1) 13),(50,(l_ p1.Controllable)),(51,.d (.lst 1 (List.map (eL 1 (eI .i64)) [p1.Observable,p1.Controllable]))),(52,(i_ 2)),(53,(i_ 0))],Qm Γ.n0 (bxs [(1,.cells ((Qbf p1)))]) M,Γ.n0+63⟩;exact Qb9 51 [.lst 1 (List.map (eI .i64) p1.Observable),.lst 1 (List.map (eI .i64) p1.Controllable)] rfl rfl ⟨(fPtr rfl),sq,sq,sq,sq,(fPtr rfl),sq,(fPtr rfl),sq,(fSl rfl rfl),sq,sq,tv⟩ ⟨bS rfl rfl rfl,tv⟩ rfl) ?_;refine lw h [51,52] [1] (fun x18 e=>(53,(i_ x18))::e) (fun _ l=>l) ke wk (fun _ x18 h=>?_);refine Z 5 0 ?_;refine ci h rfl (fun h=>?_) (fun h=>Y);refine Z 12 1 ?_;intro _ h;refine cl (Haa _ _) h (cq fun _ h=>?_);refine Z 7 0 ?_;exact cd h rfl (fun h=>Y) (fun h=>Y)
theorem Qzf {P:Program} {c:Nat} {Qx:_}
    (Hai:Qga P 48 Qx) (hcf:Qo P c=some Qvn) (fuel:Nat):Qpe P c (Qfn Qx fuel):=by
 intro l1 r h;refine Qbt hcf rfl fun Γ M hP hnt hM=>?_;subst hP;refine ini ?_;refine Z 11 0 ?_;refine ci h rfl (fun h=>Y) (fun h=>?_);refine Z 9 0 ?_;refine lw h [9,10] [] (fun x3 e=>(11,(i_ x3))::e) (fun _ l=>l) ke wk (fun _ x3 h=>?_);refine Z 5 0 ?_;refine ci h rfl (fun h=>?_) (fun h=>Y);refine Z 13 1 ?_;intro _ h;refine cl (Hai _) h (cq fun _ h=>?_);refine Z 7 0 ?_;exact cd h rfl (fun h=>Y) (fun h=>Y)
theorem Qvv {P:Program} {c:Nat} (hcf:Qo P c=some Qqr):Qlk P c (Qew):=by
 intro iv1 iv2 r h;refine Qbt hcf rfl fun Γ M hP hnt hM=>?_;subst hP;refine ini ?_;refine Z 8 0 ?_;exact bs h (fun _ h=>Y) (fun _ h=>Y)
theorem Qyb {P:Program} {c:Nat} {Qb7:_} {Qew:_}
    (Hah:Qkl P 139 Qb7)
    (Hag:Qlk P 172 Qew) (hcf:Qo P c=some Qt9):Qnq P c (Qe5 Qb7 Qew):=by
 intro a1 b2 r h;refine Qbt hcf rfl fun Γ M hP hnt hM=>?_;subst hP;refine ini ?_;refine Z 8 0 ?_;refine cm h (fun _ h7 M2 nb2 hn hx=>Hah _ _ _ 172 [] _ h7 M2 nb2 rfl tv (fun a3 a4 r5 h6 M3 nb3 hn3 hx3=>Hag a3 a4 r5 h6 M3 nb3 )) rfl (cq fun _ h=>?_);exact Y
theorem Qyc {P:Program} {c:Nat} {Qe5:_}
    (Haf:Qnq P 155 Qe5) (hcf:Qo P c=some Qua) (fuel:Nat):Qnr P c (Qe6 Qe5 fuel):=by
 intro l1 r h;refine Qbt hcf rfl fun Γ M hP hnt hM=>?_;subst hP;refine ini ?_;refine Z 8 0 ?_;refine cw h [] [] (fun ov10 e=>(3,(o_ ov10))::e) (fun _ l=>l) ke (fun _ h=>?_) (fun ov10 h=>Y);refine Z 7 0 ?_;refine lw h [6,7] [] (fun (ov2,x3) e=>(3,(o_ ov2))::(8,(i_ x3))::e) (fun _ l=>l) ke wk (fun _ ⟨ov2,x3⟩ h=>?_);refine Z 5 0 ?_;refine ci h rfl (fun h=>?_) (fun h=>Y);refine Z 14 1 ?_;intro _ h;refine cl (Haf _ _) h (cq fun _ h=>?_);exact Y
theorem Q0r {P:Program} {c:Nat} {Qe6:_}
    (Hbv:Qnr P 131 Qe6) (hcf:Qo P c=some Qxs) (fuel:Nat):Qra P c (Qf5 Qe6 fuel):=by
 intro l1 r h;refine Qbt hcf rfl fun Γ M hP hnt hM=>?_;subst hP;refine ini ?_;refine Z 8 0 ?_;refine cl (Hbv _) h (cq fun x3 h=>?_);refine Rn.buildT (v:=.agg [(Qbl l1),(o_ x3),.nils 1]) tv rfl ?_;refine Z 3 0 ?_;refine cw h [2,3] [] (fun _ e=>e) (fun (c28,c29,c30,m31) l=>(2,.cells ([(Qpb c28),(o_ c29),.own 1 (List.map (fun p:List ((Int×Int)×Int)=>[mq0 p]) c30)]))::(3,.cells ([(Qbl l1),(o_ x3),.own 1 (List.map (fun p:List ((Int×Int)×Int)=>[mq0 p]) m31)]))::l) ke (fun _ h=>?_) (fun ⟨c28,c29,c30,m31⟩ h=>Y);refine Z 7 0 ?_;refine lw h [2,3,13,14] [] (fun (x4,c5,c6,c7,m8) e=>(15,(i_ x4))::e) (fun (x4,c5,c6,c7,m8) l=>(2,.cells ([(Qpb c5),(o_ c6),.own 1 (List.map (fun p:List ((Int×Int)×Int)=>[mq0 p]) c7)]))::(3,.cells ([(Qbl l1),(o_ x3),.own 1 (List.map (fun p:List ((Int×Int)×Int)=>[mq0 p]) m8)]))::l) ke wk (fun _ ⟨x4,c5,c6,c7,m8⟩ h=>?_);refine Z 5 0 ?_;refine ci h rfl (fun h=>?_) (fun h=>Y);refine Tr.skip ?_;refine cw h [2,3,13,14,15] [2] (fun _ e=>e) (fun (m22,a23,a24,a25,a26,c27) l=>(3,.cells ([(Qbl l1),(o_ x3),.own 1 (List.map (fun p:List ((Int×Int)×Int)=>[mq0 p]) m22)]))::(5,.cells ([(l_ a23),(i_ a24),(l_ a25),(Qg a26)]))::(39,.cells ([.d (mq0 c27)]))::l) ke (fun _ h=>?_) (fun ⟨m22,a23,a24,a25,a26,c27⟩ h=>Y);refine Z 10 1 ?_;intro x11 h;refine Rn.mkmap tv rfl (fun (x:Int×Int)=>(.agg [(i_ x.1),(i_ x.2)]:V)) (fun (x:Int)=>((i_ x):V)) ?_;refine Z 2 0 ?_;refine cw h [2,3,6,13,14,15] [2,3,5] (fun _ e=>e) (fun c19 l=>(19,.mp (mapE (fun (x:Int×Int)=>(.agg [(i_ x.1),(i_ x.2)]:V)) (fun (x:Int)=>((i_ x):V)) 0 c19) (c19).length)::l) ke (fun _ h=>?_) (fun c19 h=>?_)
 ·refine Z 8 0 ?_;refine lw h [2,3,6,13,14,15,21,22] [2,3,5] (fun (x13,c14) e=>(23,(i_ x13))::e) (fun (x13,c14) l=>(19,.mp (mapE (fun (x:Int×Int)=>(.agg [(i_ x.1),(i_ x.2)]:V)) (fun (x:Int)=>((i_ x):V)) 0 c14) (c14).length)::l) ke wk (fun _ ⟨x13,c14⟩ h=>?_);refine Z 5 0 ?_;refine ci h rfl (fun h=>?_) (fun h=>Y);refine Z 19 1 ?_;intro x17 h;refine Rn.mapset (ek:=(fun (x:Int×Int)=>(.agg [(i_ x.1),(i_ x.2)]:V))) (ev:=(fun (x:Int)=>((i_ x):V))) (m:=c14) (k:=(x17.From,x17.Event)) (v:=x17.To) Qba9 (fun _=>rfl) (fun _=>rfl) tv rfl rfl rfl rfl rfl ?_;exact Y
 ·refine Z 5 0 ?_;refine Rn.weak (by show WeakSt Γ _ ⟨look [(2,.ptr (Γ.n0+2) 0),(3,.ptr (Γ.n0+3) 0),(6,.d (mq0 c19)),(13,(Qbl l1)),(14,(i_ (l1.length:Int))),(15,(i_ x4)),(36,.ptr (Γ.n0+3) 2),(37,.own 1 (List.map (fun p:List ((Int×Int)×Int)=>[mq0 p]) m8)),(38,.d (mq0 c19)),(39,.sl 1 (Γ.n0+39) 0 1 1)],Qm Γ.n0 (bxs [(2,.cells ([(Qpb c5),(o_ c6),.own 1 (List.map (fun p:List ((Int×Int)×Int)=>[mq0 p]) c7)])),(3,.cells ([(Qbl l1),(o_ x3),.d (.lst 1 (List.map (fun p:List ((Int×Int)×Int)=>[mq0 p]) m8))])),(5,.cells ((Qr x11))),(39,.cells ([.d (mq0 c19)]))]) M,Γ.n0+44⟩;exact Q1p (ek:=(fun (x:Int×Int)=>(.agg [(i_ x.1),(i_ x.2)]:V))) (ev:=(fun (x:Int)=>((i_ x):V))) (m:=c19) 19 rfl (fun _=>rfl) (fun _=>rfl) ⟨(mPtr rfl),(mPtr rfl),mMpS,sq,sq,sq,(mPtr rfl),sq,mMpS,(mSlO rfl),tv⟩ ⟨bS rfl rfl rfl,bS rfl rfl rfl,bS rfl rfl rfl,⟨_,rfl,rfl,(.cons mMpS .nil)⟩,tv⟩ rfl) ?_;exact Y
theorem Qog {P:Program} {c:Nat} (hcf:Qo P c=some Qj3) (fuel:Nat):Qg9 P c (Qb4 fuel):=by
 intro m1 r h;refine Qbt hcf rfl fun Γ M hP hnt hM=>?_;subst hP;refine ini ?_;refine Z 15 0 ?_;refine lw h [1,7,8] [1] (fun x2 e=>(9,(i_ x2))::e) (fun _ l=>l) ke wk (fun _ x2 h=>?_);refine Z 5 0 ?_;refine ci h rfl (fun h=>?_) (fun h=>?_)
 ·refine Z 16 1 ?_;intro _ h;exact cd h rfl (fun h=>Y) (fun h=>Y)
 ·refine Z 6 0 ?_;obtain ⟨x8,h9,h⟩:=bnd h;refine Rn.makes (g:=(fun (x:Int)=>[V.d (.int .i64 x)])) tv rfl rfl rfl rfl rfl h9 ?_;refine Z 3 0 ?_;obtain ⟨⟨⟩,hl10,h⟩:=bnd h;refine Tr.weak (by show WeakSt Γ _ ⟨look [(1,.ptr (Γ.n0+1) 0),(2,(l_ x8)),(3,(b_ true)),(7,(Qbl m1.list_)),(8,(i_ (m1.list_.length:Int))),(9,(i_ x2)),(10,(b_ (decide (x2<(m1.list_.length:Int))))),(17,.ptr (Γ.n0+1) 0),(18,(Qbl m1.list_)),(19,(i_ (m1.list_.length:Int))),(20,(l_ x8))],Qm Γ.n0 (bxs [(1,.cells ((Qem m1)))]) M,Γ.n0+21⟩;exact Qb9 20 _ rfl (Qr6 (fun _=>rfl) _) ⟨(fPtr rfl),(fSlA (fun _=>rfl) (Qg1 hl10)),sq,sq,sq,sq,sq,(fPtr rfl),sq,sq,(fSlA (fun _=>rfl) (Qg1 hl10)),tv⟩ ⟨bS rfl rfl rfl,tv⟩ rfl) ?_;exact Y
theorem Qzg {P:Program} {c:Nat} (hcf:Qo P c=some Qvo):Qpf P c (Qex):=by
 intro x1 r h;refine Qbt hcf rfl fun Γ M hP hnt hM=>?_;subst hP;refine ini ?_;exact Y
theorem Q0s {P:Program} {c:Nat} {Qex:_}
    (Has:Qpf P 171 Qex) (hcf:Qo P c=some Qxt):Qrb P c (Qf6 Qex):=by
 intro x1 y2 r h;refine Qbt hcf rfl fun Γ M hP hnt hM=>?_;subst hP;refine ini ?_;refine Z 7 0 ?_;refine cl (Has _) h (cq fun _ h=>?_);refine Z 1 0 ?_;refine bs h (fun _ h=>?_) (fun _ h=>Y);refine Z 1 0 ?_;refine cl (Has _) h (cq fun _ h=>?_);refine Z 3 0 ?_;exact bs h (fun _ h=>Y) (fun _ h=>Y)
theorem Qvw {P:Program} {c:Nat} (hcf:Qo P c=some Qqs):Qll P c (Qdp):=by
 intro x1 r h;refine Qbt hcf rfl fun Γ M hP hnt hM=>?_;subst hP;refine ini ?_;exact Y
theorem Qoh {P:Program} {c:Nat} {Qf6:_} {Qdp:_}
    (Har:Qrb P 153 Qf6)
    (Hdo:Qll P 154 Qdp) (hcf:Qo P c=some Qj4) (fuel:Nat):Qff P c (Q1 Qf6 Qdp fuel):=by
 intro x1 tv2 r h;refine Qbt hcf rfl fun Γ M hP hnt hM=>?_;subst hP;refine ini ?_;refine Z 17 0 ?_;refine cw h [0,1,6] [] (fun i12 e=>(7,(i_ i12))::e) (fun _ l=>l) ke (fun _ h=>?_) (fun i12 h=>?_)
 ·refine Tr.block ?_;refine lw h [0,1,6] [] (fun (i3,j4) e=>(7,(i_ i3))::(8,(i_ j4))::e) (fun _ l=>l) ke wk (fun _ ⟨i3,j4⟩ h=>?_);refine Z 7 0 ?_;refine ci h rfl (fun h=>?_) (fun h=>Y);refine Z 19 1 ?_;intro _ h;refine cl (Har _ _) h (cq fun _ h=>?_);refine Z 1 0 ?_;exact cd h rfl (fun h=>Y) (fun h=>Y)
 ·refine Z 7 0 ?_;refine bi h (fun _ h=>?_) (fun _ h=>Y);refine Z 7 1 ?_;intro _ h;refine bs h (fun _ h=>Y) (fun _ h=>?_);refine Z 4 1 ?_;intro _ h;refine cl (Hdo _) h (cq fun _ h=>?_);refine Z 1 0 ?_;refine bs h (fun _ h=>?_) (fun _ h=>Y);refine Z 1 0 ?_;refine cl (Hdo _) h (cq fun _ h=>?_);exact Y
theorem Qui {P:Program} {c:Nat} {Q1:_}
    (Hdb:Qff P 128 Q1) (hcf:Qo P c=some Qpg):Qge P c (Q4 Q1):=by
 intro xv1 x2 r h;refine Qbt hcf rfl fun Γ M hP hnt hM=>?_;subst hP;refine ini ?_;refine Z 8 0 ?_;refine cl (Hdb _ _) h (cq fun ⟨_,_⟩ h=>?_);exact Y
theorem Qpq {P:Program} {c:Nat} {Q4:_}
    (Hab:Qge P 85 Q4) (hcf:Qo P c=some Qk2) (fuel:Nat):Qhp P c (Qcd Q4 fuel):=by
 intro m1 tv2 r h;refine Qbt hcf rfl fun Γ M hP hnt hM=>?_;subst hP;refine ini ?_;refine Z 14 0 ?_;refine lw h [1,8,9] [2] (fun x3 e=>(10,(i_ x3))::e) (fun _ l=>l) ke wk (fun _ x3 h=>?_);refine Z 5 0 ?_;refine ci h rfl (fun h=>?_) (fun h=>Y);refine Z 20 1 ?_;intro _ _ h;refine cl (Hab _ _) h (cq fun _ h=>?_);refine Z 2 0 ?_;refine Tr.cond rfl (fun hb12=>?_) (fun hb12=>?_)
 ·have hb12:=nT' hb12;replace h:=bF hb12 h;exact Y
 ·have hb12:=nF' hb12;replace h:=bT hb12 h;exact Y
theorem Qvx {P:Program} {c:Nat} (hcf:Qo P c=some Qqt):Qc4 P c (Qk):=by
 intro s1 r h;refine Qbt hcf rfl fun Γ M hP hnt hM=>?_;subst hP;refine ini ?_;refine Z 8 0 ?_;refine Rn.isnil (e:=(eI .i64)) tv rfl h (fun b2 h=>?_);refine Z 1 0 ?_;exact cd h rfl (fun h=>Y) (fun h=>Y)
theorem Qre {P:Program} {c:Nat} {Qk:_} {Q4:_}
    (Hdc:Qc4 P 58 Qk)
    (Hab:Qge P 85 Q4) (hcf:Qo P c=some Ql7) (fuel:Nat):Qih P c (Qct Qk Q4 fuel):=by
 intro m1 tv2 ev3 r h;refine Qbel hcf (args':=[.agg [.f (.lst 4 (List.map Qbp m1.list_)),(f_ m1.events_),.f (.lst 1 (List.map (fun p:List ((Int×Int)×Int)=>[mq0 p]) m1.edges_))],(f_ tv2),(i_ ev3)]) rfl rfl rfl rfl rfl rfl fun Γ M hP hnt hG hM0 hM=>?_;subst hP;refine ini ?_;refine Z 9 0 ?_;obtain ⟨x5,h4,h⟩:=bnd h;refine Rn.call (args:=[(f_ tv2)]) tv rfl (fun M2 nb2=>ACalls.weak (args':=[(l_ tv2)]) (Hdc _ _ h4 M2 nb2) (.cons fToD .nil) rfl) pc9 ?_;refine Z 2 0 ?_;obtain ⟨⟨⟩,hx6,h⟩:=bnd h;refine Tr.weak (wS [0,1,2,3,6,7,8,13] [3] (fun e=>e) (fun l=>l) ke wk) ?_;refine Qbj1 hG hM0 8 8 (e:=(eI .i64)) (fun (x:Int)=>[V.d (.int .i64 x)]) (fun _=>rfl) (Qbgl hx6) (fun _=>rfl) rfl rfl rfl ⟨rfl,rfl,rfl,rfl,rfl,rfl,rfl,(Qba7 (fun _=>rfl)),rfl,tv⟩ ⟨⟨rfl,rfl,rfl,tv⟩,tv⟩ (fun c7 R8 hc9=>?_);refine Tr.weak (wS [0,1,2,3,6,7,8,13] [3,8] (fun e=>e) (fun l=>l) ke wk) ?_;refine Z 5 0 ?_;refine Rn.weak (wS [0,1,2,3,6,7,8,13,15] [3,8] (fun e=>(16,(Qbl m1.list_))::e) (fun l=>l) ke wk) ?_;refine Z 4 0 ?_;refine Tr.weak (wS [0,1,2,3,6,7,8,13,15,16,17,18] [8] (fun e=>e) (fun l=>(3,.cells ([.f (.lst 4 (List.map Qbp m1.list_)),(f_ m1.events_),.d (.lst 1 (List.map (fun p:List ((Int×Int)×Int)=>[mq0 p]) m1.edges_))]))::l) ke wk) ?_;refine Tr.weak (wS [0,2,3,6,7,8,13,15,16,17,18] [3,8] (fun e=>(1,(l_ tv2))::e) (fun l=>l) ke wk) ?_;refine lo h (fun (x10,nv11)=>⟨look [(1,(l_ tv2)),(2,(i_ ev3)),(3,.ptr (Γ.n0+3) 0),(8,.sl 1 (Γ.n0+8) 0 x5.length c7),(16,(Qbl m1.list_)),(17,(i_ (m1.list_.length:Int))),(18,(i_ x10))],Qm Γ.n0 (bxs [(3,.cells ([.f (.lst 4 (List.map Qbp m1.list_)),(f_ m1.events_),.d (.lst 1 (List.map (fun p:List ((Int×Int)×Int)=>[mq0 p]) m1.edges_))])),(8,.cells (rowR (fun (x:Int)=>[V.d (.int .i64 x)]) nv11 R8))]) M,Γ.n0+51⟩) wk (fun _ ⟨x10,nv11⟩ h=>?_);refine Z 5 0 ?_;refine ci h rfl (fun h=>?_) (fun h=>?_)
 ·refine Tr.skip ?_;refine Tr.cutJ (fun ((nv28,a29,a30,a31,a32):(List Int)×(List Int)×Int×(List Int)×(List Qb))=>⟨look [(1,(l_ tv2)),(2,(i_ ev3)),(3,.ptr (Γ.n0+3) 0),(8,.sl 1 (Γ.n0+8) 0 x5.length c7),(16,(Qbl m1.list_)),(17,(i_ (m1.list_.length:Int))),(18,(i_ x10))],Qm Γ.n0 (bxs [(3,.cells ([.f (.lst 4 (List.map Qbp m1.list_)),(f_ m1.events_),.d (.lst 1 (List.map (fun p:List ((Int×Int)×Int)=>[mq0 p]) m1.edges_))])),(8,.cells (rowR (fun (x:Int)=>[V.d (.int .i64 x)]) nv28 R8)),(10,.cells ([(l_ a29),(i_ a30),(l_ a31),(Qg a32)]))]) M,Γ.n0+51⟩) h (fun J33 h=>?_) (fun z h=>?_)
  ·refine Z 16 1 ?_;intro _ h;refine cl (Hab _ _) h (cq fun _ h=>?_);refine Z 2 0 ?_;refine Tr.cond rfl (fun hb18=>?_) (fun hb18=>?_)
   ·have hb18:=nT' hb18;replace h:=bF hb18 h;refine Tr.exit ?_;exact ⟨_,h,(by exact Qg0 [] ⟨sq,sq,(kPtr rfl),(kSl rfl),sq,sq,sq,tv⟩ ⟨bS rfl rfl rfl,⟨_,rfl,rfl,(Q9z (fun _=>rfl) rfl)⟩,bS rfl rfl rfl,tv⟩ rfl)⟩
   ·have hb18:=nF' hb18;replace h:=bT hb18 h;refine Z 14 1 ?_;intro x19 x21 h;refine Rn.lookupDC (ek:=(fun (x:Int×Int)=>(.agg [(i_ x.1),(i_ x.2)]:V))) (ev:=(fun (x:Int)=>((i_ x):V))) (m:=x19) (k:=(x21,ev3)) Qba9 (fun _=>rfl) (fun _=>rfl) (fun _=>rfl) (fun _=>rfl) 0 rfl tv rfl rfl ?_;refine Z 12 0 ?_;refine Tr.cond rfl (fun hb23=>?_) (fun hb23=>?_)
    ·have hb23:=nT' hb23;replace h:=bF hb23 h;exact Y
    ·have hb23:=nF' hb23;replace h:=bT hb23 h;refine Z 6 1 ?_;intro h;obtain ⟨nv26,h27,h⟩:=bnd h;refine Rn.storeR (g:=(fun (x:Int)=>[V.d (.int .i64 x)])) (v:=(i_ (getM x19 (x21,ev3) 0))) (fun _=>rfl) tv rfl rfl rfl rfl rfl h27 ?_;refine Z 1 0 ?_;exact ⟨_,h,(by exact Qg0 [] ⟨sq,sq,(kPtr rfl),(kSl rfl),sq,sq,sq,tv⟩ ⟨bS rfl rfl rfl,⟨_,rfl,rfl,(Q9z (fun _=>rfl) rfl)⟩,bS rfl rfl rfl,tv⟩ rfl)⟩
  ·obtain ⟨nv28,a29,a30,a31,a32⟩:=z;exact Y
 ·refine Z 7 0 ?_;obtain ⟨⟨⟩,hl34,h⟩:=bnd h;refine Tr.weak (by show WeakSt Γ _ ⟨look [(1,(l_ tv2)),(2,(i_ ev3)),(3,.ptr (Γ.n0+3) 0),(6,(l_ nv11)),(7,(b_ true)),(8,(l_ nv11)),(16,(Qbl m1.list_)),(17,(i_ (m1.list_.length:Int))),(18,(i_ x10)),(19,(b_ (decide (x10<(m1.list_.length:Int))))),(50,(l_ nv11))],Qm Γ.n0 (bxs [(3,.cells ([.f (.lst 4 (List.map Qbp m1.list_)),(f_ m1.events_),.d (.lst 1 (List.map (fun p:List ((Int×Int)×Int)=>[mq0 p]) m1.edges_))]))]) M,Γ.n0+51⟩;exact Qqn 8 _ rfl (preR (fun _=>rfl)) ⟨sq,sq,(fPtr rfl),(fSlT (fun _=>rfl) (Qg1 hl34) hc9),sq,(fSlT (fun _=>rfl) (Qg1 hl34) hc9),sq,sq,sq,sq,(fSlT (fun _=>rfl) (Qg1 hl34) hc9),tv⟩ ⟨bS rfl rfl rfl,tv⟩ rfl) ?_;exact Y
theorem Qsk {P:Program} {c:Nat} {Qfn:_} {Qf5:_} {Qb4:_} {f_product_key:_} {Qcd:_} {Qct:_}
    (Hbs:Qpe P 88 Qfn)
    (Hca:Qra P 89 Qf5)
    (Hbx:Qg9 P 90 Qb4)
    (Hbw:K_product_key P 91 f_product_key)
    (Hby:Qhp P 92 Qcd)
    (Hbz:Qih P 93 Qct) (hcf:Qo P c=some Qne) (fuel:Nat):Qfo P c (Qv Qfn Qf5 Qb4 f_product_key Qcd Qct fuel):=by
 intro l1 r h;refine Qbt hcf rfl fun Γ M hP hnt hM=>?_;subst hP;refine ini ?_;refine Z 10 0 ?_;refine cl (Hbs _) h (cq fun x3 h=>?_);refine Z 7 0 ?_;refine cd h rfl (fun h=>Y) (fun h=>?_);refine Z 4 0 ?_;refine cl (Hca _) h (cq fun x6 h=>?_);refine Z 13 0 ?_;refine cl (Hbx _) h (cq fun ⟨r8,r9⟩ h=>?_);refine Z 12 0 ?_;refine Tr.cond rfl (fun hb10=>?_) (fun hb10=>?_)
 ·have hb10:=nT' hb10;replace h:=bF hb10 h;exact Y
 ·have hb10:=nF' hb10;replace h:=bT hb10 h;refine Z 9 0 ?_;refine Rn.mkmap tv rfl (fun (x:ByteArray)=>(.d (.str x):V)) (fun (x:Int)=>((i_ x):V)) ?_;refine Z 1 0 ?_;refine cl (Hbw _) h (cq fun x12 h=>?_);refine Rn.mapset (ek:=(fun (x:ByteArray)=>(.d (.str x):V))) (ev:=(fun (x:Int)=>((i_ x):V))) (m:=([]:List (ByteArray×Int))) (k:=x12) (v:=0) (fun _ _=>rfl) (fun _=>rfl) (fun _=>rfl) tv rfl rfl rfl rfl rfl ?_;refine Z 9 0 ?_;refine Tr.weak (by show WeakSt Γ _ ⟨look ((3,.own 1 (List.map (eL 1 (eI .i64)) [r8]))::[(0,(Qbl l1)),(2,.ptr (Γ.n0+2) 0),(4,(i_ 0)),(5,(i_ x3)),(6,.ptr (Γ.n0+6) 0),(7,(l_ r8)),(8,(b_ r9)),(9,.mp (Γ.n0+38)),(10,(i_ 0)),(17,(Qbl l1)),(18,(i_ x3)),(19,(i_ x3)),(20,(b_ (x3 != 0))),(23,(Qbl l1)),(24,(Qf9 x6)),(25,.ptr (Γ.n0+6) 1),(26,(l_ x6.events_)),(27,.ptr (Γ.n0+2) 0),(28,.tup [(l_ r8),(b_ r9)]),(29,(Qf9 x6)),(30,.tup [(l_ r8),(b_ r9)]),(31,(l_ r8)),(32,(b_ r9)),(33,(b_ r9)),(34,(b_ (!r9))),(36,(l_ r8)),(38,.mp (Γ.n0+38)),(39,(l_ r8)),(40,.d (.str x12)),(41,.mp (Γ.n0+38))] ),Qm Γ.n0 (bxs [(2,.cells ([(l_ x6.events_),(i_ 0),.nils 1,.nils 3])),(6,.cells ((Qem x6))),(38,.mp (mapE (fun (x:ByteArray)=>(.d (.str x):V)) (fun (x:Int)=>((i_ x):V)) 0 (setM ([]:List (ByteArray×Int)) x12 0)) ((setM ([]:List (ByteArray×Int)) x12 0)).length)]) M,Γ.n0+117⟩;exact Qr5 37 3 [.lst 1 (List.map (eI .i64) r8)] rfl rfl rfl rfl rfl ⟨sq,(kPtr rfl),sq,sq,(kPtr rfl),sq,sq,(kMp rfl),sq,sq,sq,sq,sq,sq,sq,(kPtr rfl),sq,(kPtr rfl),sq,sq,sq,sq,sq,sq,sq,sq,(kMp rfl),sq,sq,(kMp rfl),tv⟩ ⟨bS rfl rfl rfl,bS rfl rfl rfl,⟨rfl,rfl⟩,tv⟩ rfl) ?_;refine lo h (fun (tv13,i14,a15,a16,c17)=>⟨look [(2,.ptr (Γ.n0+2) 0),(3,.own 1 (List.map (eL 1 (eI .i64)) tv13)),(6,.ptr (Γ.n0+6) 0),(9,.mp (Γ.n0+38)),(10,(i_ i14))],Qm Γ.n0 (bxs [(2,.cells ([(l_ x6.events_),(i_ 0),(o_ a15),(Qp a16)])),(6,.cells ((Qem x6))),(38,.mp (mapE (fun (x:ByteArray)=>(.d (.str x):V)) (fun (x:Int)=>((i_ x):V)) 0 c17) (c17).length)]) M,Γ.n0+117⟩) wk (fun _ ⟨tv13,i14,a15,a16,c17⟩ h=>?_);refine Z 8 0 ?_;refine ci h rfl (fun h=>?_) (fun h=>Y);refine Z 3 0 ?_;refine cu h (fun a27=>⟨look [(2,.ptr (Γ.n0+2) 0),(3,.own 1 (List.map (eL 1 (eI .i64)) tv13)),(6,.ptr (Γ.n0+6) 0),(9,.mp (Γ.n0+38)),(10,(i_ i14))],Qm Γ.n0 (bxs [(2,.cells ([(l_ x6.events_),(i_ 0),(o_ a27),(Qp a16)])),(6,.cells ((Qem x6))),(38,.mp (mapE (fun (x:ByteArray)=>(.d (.str x):V)) (fun (x:Int)=>((i_ x):V)) 0 c17) (c17).length)]) M,Γ.n0+117⟩) (fun _ h=>?_) (fun a27 h=>?_)
  ·refine Z 7 1 ?_;intro _ h;refine cl (Hby _ _) h (cq fun _ h=>?_);refine Z 1 0 ?_;exact cd h rfl (fun h=>Y) (fun h=>Y)
  ·refine Z 8 0 ?_;refine lo h (fun (tv28,x29,a30,c31)=>⟨look [(2,.ptr (Γ.n0+2) 0),(3,.own 1 (List.map (eL 1 (eI .i64)) tv28)),(6,.ptr (Γ.n0+6) 0),(9,.mp (Γ.n0+38)),(10,(i_ i14)),(61,(l_ x6.events_)),(62,(i_ (x6.events_.length:Int))),(63,(i_ x29))],Qm Γ.n0 (bxs [(2,.cells ([(l_ x6.events_),(i_ 0),(o_ a27),(Qp a30)])),(6,.cells ((Qem x6))),(38,.mp (mapE (fun (x:ByteArray)=>(.d (.str x):V)) (fun (x:Int)=>((i_ x):V)) 0 c31) (c31).length)]) M,Γ.n0+117⟩) wk (fun _ ⟨tv28,x29,a30,c31⟩ h=>?_);refine Z 5 0 ?_;refine ci h rfl (fun h=>?_) (fun h=>Y);refine Tr.skip ?_;refine Tr.cutJ (fun ((tv56,a57,c58):(List (List Int))×(List Qb)×(List (ByteArray×Int)))=>⟨look [(2,.ptr (Γ.n0+2) 0),(3,.own 1 (List.map (eL 1 (eI .i64)) tv56)),(6,.ptr (Γ.n0+6) 0),(9,.mp (Γ.n0+38)),(10,(i_ i14)),(61,(l_ x6.events_)),(62,(i_ (x6.events_.length:Int))),(63,(i_ x29))],Qm Γ.n0 (bxs [(2,.cells ([(l_ x6.events_),(i_ 0),(o_ a27),(Qp a57)])),(6,.cells ((Qem x6))),(38,.mp (mapE (fun (x:ByteArray)=>(.d (.str x):V)) (fun (x:Int)=>((i_ x):V)) 0 c58) (c58).length)]) M,Γ.n0+117⟩) h (fun J59 h=>?_) (fun z h=>?_)
   ·refine Z 15 1 ?_;intro x34 _ h;refine cl (Hbz _ _ _) h (cq fun ⟨_,_⟩ h=>?_);refine Z 12 0 ?_;refine Tr.cond rfl (fun hb41=>?_) (fun hb41=>?_)
    ·have hb41:=nT' hb41;replace h:=bF hb41 h;refine Tr.exit ?_;exact ⟨_,h,(by exact Qg0 [] ⟨(kPtr rfl),sq,(kPtr rfl),(kMp rfl),sq,sq,sq,sq,tv⟩ ⟨bS rfl rfl rfl,bS rfl rfl rfl,⟨rfl,rfl⟩,tv⟩ rfl)⟩
    ·have hb41:=nF' hb41;replace h:=bT hb41 h;refine Z 5 0 ?_;refine cl (Hbw _) h (cq fun x43 h=>?_);refine Rn.lookupC (ek:=(fun (x:ByteArray)=>(.d (.str x):V))) (ev:=(fun (x:Int)=>((i_ x):V))) (m:=c31) (k:=x43) (fun _ _=>rfl) (fun _=>rfl) (fun _=>rfl) 0 rfl tv rfl rfl rfl ?_;refine Z 6 0 ?_;refine Tr.cutJ (fun ((tv50,to51,c52):(List (List Int))×Int×(List (ByteArray×Int)))=>⟨look [(2,.ptr (Γ.n0+2) 0),(3,.own 1 (List.map (eL 1 (eI .i64)) tv50)),(6,.ptr (Γ.n0+6) 0),(9,.mp (Γ.n0+38)),(10,(i_ i14)),(12,(i_ x34)),(15,(i_ to51)),(61,(l_ x6.events_)),(62,(i_ (x6.events_.length:Int))),(63,(i_ x29))],Qm Γ.n0 (bxs [(2,.cells ([(l_ x6.events_),(i_ 0),(o_ a27),(Qp a30)])),(6,.cells ((Qem x6))),(38,.mp (mapE (fun (x:ByteArray)=>(.d (.str x):V)) (fun (x:Int)=>((i_ x):V)) 0 c52) (c52).length)]) M,Γ.n0+117⟩) h (fun J55 h=>?_) (fun z h=>?_)
     ·refine Z 5 0 ?_;refine Tr.cond rfl (fun hb44=>?_) (fun hb44=>?_)
      ·have hb44:=nT' hb44;replace h:=bF hb44 h;refine Z 7 0 ?_;refine cd h rfl (fun h=>Y) (fun h=>?_);refine Z 11 0 ?_;refine cl (Hbw _) h (cq fun x47 h=>?_);refine Z 1 0 ?_;refine Rn.mapset (ek:=(fun (x:ByteArray)=>(.d (.str x):V))) (ev:=(fun (x:Int)=>((i_ x):V))) (m:=c31) (k:=x47) (v:=(tv28.length:Int)) (fun _ _=>rfl) (fun _=>rfl) (fun _=>rfl) tv rfl rfl rfl rfl rfl ?_;refine Z 8 1 ?_;intro _ h;exact ⟨_,h,(by exact Qg0 [100] ⟨(kPtr rfl),sq,(kPtr rfl),(kMp rfl),sq,sq,sq,sq,sq,sq,tv⟩ ⟨bS rfl rfl rfl,bS rfl rfl rfl,⟨rfl,rfl⟩,tv⟩ rfl)⟩
      ·have hb44:=nF' hb44;replace h:=bT hb44 h;refine Tr.skip ?_;exact ⟨_,h,(by exact Qg0 [] ⟨(kPtr rfl),sq,(kPtr rfl),(kMp rfl),sq,sq,sq,sq,sq,sq,tv⟩ ⟨bS rfl rfl rfl,bS rfl rfl rfl,⟨rfl,rfl⟩,tv⟩ rfl)⟩
     ·obtain ⟨tv50,to51,c52⟩:=z;refine Z 12 1 ?_;intro _ h;exact ⟨_,h,(by exact Qg0 [108] ⟨(kPtr rfl),sq,(kPtr rfl),(kMp rfl),sq,sq,sq,sq,tv⟩ ⟨bS rfl rfl rfl,bS rfl rfl rfl,⟨rfl,rfl⟩,tv⟩ rfl)⟩
   ·obtain ⟨tv56,a57,c58⟩:=z;exact Y
theorem Qw2 {P:Program} {c:Nat} {Qv:_}
    (Hbu:Qfo P 42 Qv) (hcf:Qo P c=some Qsc):Qhq P c (Qbh Qv):=by
 intro l1 r h;refine Qbt hcf rfl fun Γ M hP hnt hM=>?_;subst hP;refine ini ?_;refine Z 8 0 ?_;refine cl (Hbu _) h (cq fun ⟨_,_,_⟩ h=>?_);exact Y
theorem Ql4 {P:Program} {c:Nat} (hcf:Qo P c=some Qia) (fuel:Nat):Qf1 P c (Qbj fuel):=by
 intro x1 tv2 cv3 g4 cp5 r h;intro M nb hc6 ho8 hf7;refine Qvf hcf rfl M nb fun Γ hP hnt hn0 hM=>?_;subst hP hn0;refine ini ?_;refine Z 17 0 ?_;refine cw h [0,1,2,8] [] (fun i20 e=>(9,(i_ i20))::e) (fun _ l=>l) ke (fun _ h=>?_) (fun i20 h=>?_)
 ·refine Tr.block ?_;refine lw h [0,1,2,8] [] (fun (i11,j12) e=>(9,(i_ i11))::(10,(i_ j12))::e) (fun _ l=>l) ke wk (fun _ ⟨i11,j12⟩ h=>?_);refine Z 7 0 ?_;refine ci h rfl (fun h=>?_) (fun h=>Y);refine Z 20 1 ?_;intro x15 h;obtain ⟨x18,h17,h⟩:=bnd h;refine Rn.callvM (args:=[(Qr9 x15),(i_ tv2)]++cp5) tv rfl (by rw [hc6];rfl) (fun M2 nb2 hn hx=>hf7 _ _ _ h17 M2 nb2 (by omega) ((Qve hM).trans hx)) rfl pc9 ?_;refine Z 2 0 ?_;exact ci h rfl (fun h=>Y) (fun h=>Y)
 ·refine Z 7 0 ?_;refine bi h (fun hb21 h=>?_) (fun hb21 h=>Y);refine Z 6 1 ?_;intro x22 h;obtain ⟨x25,h24,h⟩:=bnd h;refine Rn.callvM (args:=[(Qr9 x22),(i_ tv2)]++cp5) (gw rfl hb21) rfl (by rw [hc6];rfl) (fun M2 nb2 hn hx=>hf7 _ _ _ h24 M2 nb2 (by omega) ((Qve hM).trans hx)) rfl pc9 ?_;exact Y
theorem Qw3 {P:Program} {c:Nat} (hcf:Qo P c=some Qsd):Qmp P c (Qeo):=by
 intro x1 s2 r h;refine Qbt hcf rfl fun Γ M hP hnt hM=>?_;subst hP;refine ini ?_;exact Y
theorem Qw4 {P:Program} {c:Nat} (hcf:Qo P c=some Qse):Qmq P c (Qep):=by
 intro x1 s2 r h;refine Qbt hcf rfl fun Γ M hP hnt hM=>?_;subst hP;refine ini ?_;exact Y
theorem Qzh {P:Program} {c:Nat} {Qbj:_} {Qeo:_} {Qep:_}
    (Hda:Qf1 P 118 Qbj)
    (Hap:Qmp P 119 Qeo)
    (Haq:Qmq P 120 Qep) (hcf:Qo P c=some Qvp):Qph P c (Qfp Qbj Qeo Qep):=by
 intro a1 sv2 r h;refine Qbt hcf rfl fun Γ M hP hnt hM=>?_;subst hP;refine ini ?_;refine Z 10 0 ?_;refine cm h (fun _ h7 M2 nb2 hn hx=>Hda _ _ _ 119 [] _ h7 M2 nb2 rfl tv (fun a3 a4 r5 h6 M3 nb3 hn3 hx3=>Hap a3 a4 r5 h6 M3 nb3 )) rfl (cq fun ⟨_,_⟩ h=>?_);refine Z 12 0 ?_;refine cm h (fun _ h14 M2 nb2 hn hx=>Hda _ _ _ 120 [] _ h14 M2 nb2 rfl tv (fun a10 a11 r12 h13 M3 nb3 hn3 hx3=>Haq a10 a11 r12 h13 M3 nb3 )) rfl (cq fun ⟨_,_⟩ h=>?_);exact Y
theorem Qsl {P:Program} {c:Nat} {Qk:_} {Qfp:_} {Q1:_}
    (Hdc:Qc4 P 58 Qk)
    (Hao:Qph P 79 Qfp)
    (Hdb:Qff P 128 Q1) (hcf:Qo P c=some Qnf) (fuel:Nat):Qi2 P c (Qc6 Qk Qfp Q1 fuel):=by
 intro a1 r h;refine Qbt hcf rfl fun Γ M hP hnt hM=>?_;subst hP;refine ini ?_;refine Z 9 0 ?_;refine cl (Hdc _) h (cq fun x3 h=>?_);refine Rn.buildT (v:=.agg [(o_ x3),(i_ 0),.nils 1,.nils 3]) tv rfl ?_;refine Z 10 0 ?_;refine cd h rfl (fun h=>Y) (fun h=>?_);refine Z 5 0 ?_;obtain ⟨x5,h6,h⟩:=bnd h;refine Rn.makes (g:=(fun (x:Int)=>[V.d (.int .i64 x)])) tv rfl rfl rfl rfl rfl h6 ?_;refine Z 2 0 ?_;refine cu h (fun c15=>⟨look [(1,.ptr (Γ.n0+1) 0),(2,.ptr (Γ.n0+2) 0),(3,.ptr (Γ.n0+3) 0),(4,.sl 1 (Γ.n0+22) 0 (Int.toNat a1.zF) (Int.toNat a1.zF))],Qm Γ.n0 (bxs [(1,.cells ((Qr a1))),(2,.cells ([.nils 1,(i_ 0),.nils 1,.nils 3])),(3,.cells ([(o_ x3),(i_ 0),.nils 1,.nils 3])),(22,.cells (Qei (fun (x:Int)=>[V.d (.int .i64 x)]) c15))]) M,Γ.n0+105⟩) (fun _ h=>?_) (fun c15 h=>?_)
 ·refine Z 7 0 ?_;refine lo h (fun (x7,c8)=>⟨look [(1,.ptr (Γ.n0+1) 0),(2,.ptr (Γ.n0+2) 0),(3,.ptr (Γ.n0+3) 0),(4,.sl 1 (Γ.n0+22) 0 (Int.toNat a1.zF) (Int.toNat a1.zF)),(24,(i_ ((Int.toNat a1.zF):Int))),(25,(i_ x7))],Qm Γ.n0 (bxs [(1,.cells ((Qr a1))),(2,.cells ([.nils 1,(i_ 0),.nils 1,.nils 3])),(3,.cells ([(o_ x3),(i_ 0),.nils 1,.nils 3])),(22,.cells (Qei (fun (x:Int)=>[V.d (.int .i64 x)]) c8))]) M,Γ.n0+105⟩) wk (fun _ ⟨x7,c8⟩ h=>?_);refine Z 5 0 ?_;refine ci h rfl (fun h=>?_) (fun h=>Y);refine Z 12 1 ?_;intro h;obtain ⟨x13,h14,h⟩:=bnd h;refine Rn.storeA (g:=(fun (x:Int)=>[V.d (.int .i64 x)])) (v:=(i_ (-1))) (fun _=>rfl) tv rfl rfl rfl rfl rfl h14 ?_;exact Y
 ·refine Z 4 1 ?_;intro h;obtain ⟨x18,h19,h⟩:=bnd h;refine Rn.storeA (g:=(fun (x:Int)=>[V.d (.int .i64 x)])) (v:=(i_ 0)) (fun _=>rfl) tv rfl rfl rfl rfl rfl h19 ?_;refine Z 6 0 ?_;refine cu h (fun (ov74,c75,c76,c77,r78,r79,c80)=>⟨look [(2,.ptr (Γ.n0+2) 0),(3,.ptr (Γ.n0+3) 0),(6,(o_ ov74))],Qm Γ.n0 (bxs [(1,.cells ((Qr a1))),(2,.cells ([(o_ c75),(i_ 0),(o_ c76),(Qp c77)])),(3,.cells ([(o_ x3),(i_ 0),(o_ r78),(Qp r79)])),(22,.cells (Qei (fun (x:Int)=>[V.d (.int .i64 x)]) c80))]) M,Γ.n0+105⟩) (fun _ h=>?_) (fun ⟨ov74,c75,c76,c77,r78,r79,c80⟩ h=>Y);refine Z 5 0 ?_;refine Tr.weak (by show WeakSt Γ _ ⟨look ((6,.own 1 (List.map (eI .i64) [0]))::[(1,.ptr (Γ.n0+1) 0),(2,.ptr (Γ.n0+2) 0),(3,.ptr (Γ.n0+3) 0),(4,.sl 1 (Γ.n0+22) 0 (Int.toNat a1.zF) (Int.toNat a1.zF)),(7,(i_ 0)),(32,.sl 1 (Γ.n0+22) 0 (Int.toNat a1.zF) (Int.toNat a1.zF)),(33,.ptr (Γ.n0+22) (0+Int.toNat 0*1))] ),Qm Γ.n0 (bxs [(1,.cells ((Qr a1))),(2,.cells ([.nils 1,(i_ 0),.nils 1,.nils 3])),(3,.cells ([(o_ x3),(i_ 0),.nils 1,.nils 3])),(22,.cells (Qei (fun (x:Int)=>[V.d (.int .i64 x)]) x18))]) M,Γ.n0+105⟩;exact Qr5 34 6 [.int .i64 0] rfl rfl rfl rfl rfl ⟨(kPtr rfl),(kPtr rfl),(kPtr rfl),(kSl rfl),sq,(kSl rfl),(kPtr rfl),tv⟩ ⟨bS rfl rfl rfl,bS rfl rfl rfl,bS rfl rfl rfl,bM rfl rfl fun _=>rfl,tv⟩ rfl) ?_;refine lo h (fun (ov20,i21,c22,c23,c24,r25,r26,c27)=>⟨look [(1,.ptr (Γ.n0+1) 0),(2,.ptr (Γ.n0+2) 0),(3,.ptr (Γ.n0+3) 0),(4,.sl 1 (Γ.n0+22) 0 (Int.toNat a1.zF) (Int.toNat a1.zF)),(6,(o_ ov20)),(7,(i_ i21))],Qm Γ.n0 (bxs [(1,.cells ((Qr a1))),(2,.cells ([(o_ c22),(i_ 0),(o_ c23),(Qp c24)])),(3,.cells ([(o_ x3),(i_ 0),(o_ r25),(Qp r26)])),(22,.cells (Qei (fun (x:Int)=>[V.d (.int .i64 x)]) c27))]) M,Γ.n0+105⟩) wk (fun _ ⟨ov20,i21,c22,c23,c24,r25,r26,c27⟩ h=>?_);refine Z 8 0 ?_;refine ci h rfl (fun h=>?_) (fun h=>Y);refine Tr.skip ?_;refine cu h (fun (ov70,r71,r72,c73)=>⟨look [(1,.ptr (Γ.n0+1) 0),(2,.ptr (Γ.n0+2) 0),(3,.ptr (Γ.n0+3) 0),(4,.sl 1 (Γ.n0+22) 0 (Int.toNat a1.zF) (Int.toNat a1.zF)),(6,(o_ ov70)),(7,(i_ i21))],Qm Γ.n0 (bxs [(1,.cells ((Qr a1))),(2,.cells ([(o_ c22),(i_ 0),(o_ c23),(Qp c24)])),(3,.cells ([(o_ x3),(i_ 0),(o_ r71),(Qp r72)])),(22,.cells (Qei (fun (x:Int)=>[V.d (.int .i64 x)]) c73))]) M,Γ.n0+105⟩) (fun _ h=>?_) (fun ⟨ov70,r71,r72,c73⟩ h=>Y);refine Tr.block ?_;refine cu h (fun r38=>⟨look [(1,.ptr (Γ.n0+1) 0),(2,.ptr (Γ.n0+2) 0),(3,.ptr (Γ.n0+3) 0),(4,.sl 1 (Γ.n0+22) 0 (Int.toNat a1.zF) (Int.toNat a1.zF)),(6,(o_ ov20)),(7,(i_ i21))],Qm Γ.n0 (bxs [(1,.cells ((Qr a1))),(2,.cells ([(o_ c22),(i_ 0),(o_ c23),(Qp c24)])),(3,.cells ([(o_ x3),(i_ 0),(o_ r38),(Qp r26)])),(22,.cells (Qei (fun (x:Int)=>[V.d (.int .i64 x)]) c27))]) M,Γ.n0+105⟩) (fun _ h=>?_) (fun r38 h=>?_)
  ·refine Z 8 1 ?_;intro _ h;refine cl (Hdb _ _) h (cq fun ⟨_,_⟩ h=>?_);refine Z 10 0 ?_;exact cd h rfl (fun h=>Y) (fun h=>Y)
  ·refine Z 7 1 ?_;intro _ h;refine cl (Hao _ _) h (cq fun x42 h=>?_);refine Z 4 0 ?_;refine lo h (fun (ov43,x44,r45,c46)=>⟨look [(1,.ptr (Γ.n0+1) 0),(2,.ptr (Γ.n0+2) 0),(3,.ptr (Γ.n0+3) 0),(4,.sl 1 (Γ.n0+22) 0 (Int.toNat a1.zF) (Int.toNat a1.zF)),(6,(o_ ov43)),(7,(i_ i21)),(63,(Qg x42)),(64,(i_ (x42.length:Int))),(65,(i_ x44))],Qm Γ.n0 (bxs [(1,.cells ((Qr a1))),(2,.cells ([(o_ c22),(i_ 0),(o_ c23),(Qp c24)])),(3,.cells ([(o_ x3),(i_ 0),(o_ r38),(Qp r45)])),(22,.cells (Qei (fun (x:Int)=>[V.d (.int .i64 x)]) c46))]) M,Γ.n0+105⟩) wk (fun _ ⟨ov43,x44,r45,c46⟩ h=>?_);refine Z 5 0 ?_;refine ci h rfl (fun h=>?_) (fun h=>Y);refine Z 10 1 ?_;intro x49 h;refine cu h (fun (ov62,c63)=>⟨look [(1,.ptr (Γ.n0+1) 0),(2,.ptr (Γ.n0+2) 0),(3,.ptr (Γ.n0+3) 0),(4,.sl 1 (Γ.n0+22) 0 (Int.toNat a1.zF) (Int.toNat a1.zF)),(6,(o_ ov62)),(7,(i_ i21)),(11,.ptr (Γ.n0+11) 0),(63,(Qg x42)),(64,(i_ (x42.length:Int))),(65,(i_ x44))],Qm Γ.n0 (bxs [(1,.cells ((Qr a1))),(2,.cells ([(o_ c22),(i_ 0),(o_ c23),(Qp c24)])),(3,.cells ([(o_ x3),(i_ 0),(o_ r38),(Qp r45)])),(11,.cells ((Qou x49))),(22,.cells (Qei (fun (x:Int)=>[V.d (.int .i64 x)]) c63))]) M,Γ.n0+105⟩) (fun _ h=>?_) (fun ⟨ov62,c63⟩ h=>Y);refine Z 9 1 ?_;intro _ h;refine ci h rfl (fun h=>?_) (fun h=>Y);refine Z 8 1 ?_;intro h;obtain ⟨x58,h59,h⟩:=bnd h;refine Rn.storeA (g:=(fun (x:Int)=>[V.d (.int .i64 x)])) (v:=(i_ (ov43.length:Int))) (fun _=>rfl) tv rfl rfl rfl rfl rfl h59 ?_;exact Y
theorem Qvy {P:Program} {c:Nat} {Qx:_} {Qc6:_}
    (Hai:Qga P 48 Qx)
    (Hal:Qi2 P 132 Qc6) (hcf:Qo P c=some Qqu) (fuel:Nat):Qlm P c (Qd9 Qx Qc6 fuel):=by
 intro a1 r h;refine Qbt hcf rfl fun Γ M hP hnt hM=>?_;subst hP;refine ini ?_;refine Z 10 0 ?_;refine cl (Hai _) h (cq fun _ h=>?_);refine Z 7 0 ?_;refine cd h rfl (fun h=>Y) (fun h=>?_);refine Z 4 0 ?_;refine cl (Hal _) h (cq fun x6 h=>?_);refine Z 8 0 ?_;refine cw h [2,5] [1] (fun _ e=>e) (fun (c16,c17,c18,r19) l=>(2,.cells ([(o_ c16),(i_ 0),(o_ c17),(Qp c18)]))::(5,.cells ([(l_ x6.zB),(i_ x6.zF),(o_ r19),(Qg x6.zD)]))::l) ke (fun _ h=>?_) (fun ⟨c16,c17,c18,r19⟩ h=>Y);refine Z 7 0 ?_;refine lw h [2,5,17] [1] (fun (x7,c8,c9,c10,r11) e=>(18,(i_ x7))::e) (fun (x7,c8,c9,c10,r11) l=>(2,.cells ([(o_ c8),(i_ 0),(o_ c9),(Qp c10)]))::(5,.cells ([(l_ x6.zB),(i_ x6.zF),(o_ r11),(Qg x6.zD)]))::l) ke wk (fun _ ⟨x7,c8,c9,c10,r11⟩ h=>?_);refine Z 5 0 ?_;exact ci h rfl (fun h=>Y) (fun h=>Y)
theorem Qzi {P:Program} {c:Nat} (hcf:Qo P c=some Qvq) (fuel:Nat):Qln P c (Qc0 fuel):=by
 intro a1 r h;refine Qbt hcf rfl fun Γ M hP hnt hM=>?_;subst hP;refine ini ?_;refine Z 9 0 ?_;obtain ⟨x2,h3,h⟩:=bnd h;refine Rn.makes (g:=(fun (x:Bool)=>[V.d (.bool x)])) tv rfl rfl rfl rfl rfl h3 ?_;refine Z 2 0 ?_;refine cw h [3] [1] (fun _ e=>e) (fun c14 l=>(8,.cells (Qei (fun (x:Bool)=>[V.d (.bool x)]) c14))::l) ke (fun _ h=>?_) (fun c14 h=>?_)
 ·refine Z 8 0 ?_;refine lw h [3,10,11] [1] (fun (x4,c5) e=>(12,(i_ x4))::e) (fun (x4,c5) l=>(8,.cells (Qei (fun (x:Bool)=>[V.d (.bool x)]) c5))::l) ke wk (fun _ ⟨x4,c5⟩ h=>?_);refine Z 5 0 ?_;refine ci h rfl (fun h=>?_) (fun h=>Y);refine Z 13 1 ?_;intro _ h;obtain ⟨x12,h13,h⟩:=bnd h;refine Rn.storeA (g:=(fun (x:Bool)=>[V.d (.bool x)])) (v:=(b_ true)) (fun _=>rfl) tv rfl rfl rfl rfl rfl h13 ?_;exact Y
 ·refine Z 5 0 ?_;obtain ⟨⟨⟩,hl15,h⟩:=bnd h;refine Tr.weak (by show WeakSt Γ _ ⟨look [(2,.d (.lst 1 (List.map eB c14))),(3,.d (.lst 1 (List.map eB c14))),(20,.d (.lst 1 (List.map eB c14)))],Qm Γ.n0 (bxs [(1,.cells ((Qr a1)))]) M,Γ.n0+21⟩;exact Qb9 8 _ rfl (Qr6 (fun _=>rfl) _) ⟨(fSlA (fun _=>rfl) (Qg1 hl15)),(fSlA (fun _=>rfl) (Qg1 hl15)),(fSlA (fun _=>rfl) (Qg1 hl15)),tv⟩ ⟨bS rfl rfl rfl,tv⟩ rfl) ?_;exact Y
theorem Qzj {P:Program} {c:Nat} (hcf:Qo P c=some Qvr) (fuel:Nat):Qlo P c (Qc1 fuel):=by
 intro a1 r h;refine Qbt hcf rfl fun Γ M hP hnt hM=>?_;subst hP;refine ini ?_;refine Z 9 0 ?_;obtain ⟨x2,h3,h⟩:=bnd h;refine Rn.makes (g:=(fun (x:List Qb)=>[V.nils 3])) tv rfl rfl rfl rfl rfl h3 ?_;refine Z 2 0 ?_;refine cw h [3] [1] (fun _ e=>e) (fun c26 l=>(8,.cells (Qei (fun (x:List Qb)=>[(Qg x)]) c26))::l) ke (fun _ h=>?_) (fun c26 h=>?_)
 ·refine Tr.seq ?_;refine Tr.weak (wS [0,1,2,3,6,7,8] [1] (fun e=>e) (fun l=>(8,.cells (Qei (fun (x:List Qb)=>[V.own 3 (List.map Qj x)]) x2))::l) ke wk) ?_;refine Tr.weak (wS [0,1,2,3,6,7,8] [1] (fun e=>e) (fun l=>(8,.cells (Qei (fun (x:List Qb)=>[(Qg x)]) x2))::l) ke wk) ?_;refine Z 4 0 ?_;refine lw h [1,3] [1] (fun (xv4,c5) e=>(4,(i_ xv4))::e) (fun (xv4,c5) l=>(8,.cells (Qei (fun (x:List Qb)=>[(Qg x)]) c5))::l) ke wk (fun _ ⟨xv4,c5⟩ h=>?_);refine Z 9 0 ?_;refine ci h rfl (fun h=>?_) (fun h=>Y);refine Z 7 0 ?_;refine cw h [1,3,4] [1,8] (fun to17 e=>(5,(i_ to17))::e) (fun _ l=>l) ke (fun _ h=>?_) (fun to17 h=>?_)
  ·refine Tr.block ?_;refine lw h [1,3,4] [1,8] (fun to8 e=>(5,(i_ to8))::e) (fun _ l=>l) ke wk (fun _ to8 h=>?_);refine Tr.seq ?_;refine cw h [1,3,4,5] [1,8] (fun x15 e=>(34,(b_ x15))::e) (fun _ l=>l) ke (fun _ h=>?_) (fun x15 h=>?_)
   ·refine Z 7 0 ?_;exact bi h (fun _ h=>Y) (fun _ h=>Y)
   ·exact cd h rfl (fun h=>Y) (fun h=>Y)
  ·refine Z 15 1 ?_;intro _ _ h;obtain ⟨x24,h25,h⟩:=bnd h;refine Rn.storeAD (g:=(fun (x:List Qb)=>[(Qg x)])) (fun _=>rfl) tv rfl rfl rfl rfl h25 ?_;exact Y
 ·refine Z 5 0 ?_;obtain ⟨⟨⟩,hl27,h⟩:=bnd h;refine Tr.weak (by show WeakSt Γ _ ⟨look [(2,.d (.lst 1 (List.map (eL 3 Qj) c26))),(3,.d (.lst 1 (List.map (eL 3 Qj) c26))),(51,.d (.lst 1 (List.map (eL 3 Qj) c26)))],Qm Γ.n0 (bxs [(1,.cells ((Qr a1)))]) M,Γ.n0+52⟩;exact Qb9 8 _ rfl (Qr6 (fun _=>rfl) _) ⟨(fSlA (fun _=>rfl) (Qg1 hl27)),(fSlA (fun _=>rfl) (Qg1 hl27)),(fSlA (fun _=>rfl) (Qg1 hl27)),tv⟩ ⟨bS rfl rfl rfl,tv⟩ rfl) ?_;exact Y
theorem Quj {P:Program} {c:Nat} (hcf:Qo P c=some Qpi):Qkt P c (Qdv):=by
 intro s1 x2 k3 r h;intro M nb hk4;refine Qvf hcf rfl M nb fun Γ hP hnt hn0 hM=>?_;subst hP hn0;refine ini ?_;refine Z 12 1 ?_;intro _ h;exact cd h rfl (fun h=>Y) (fun h=>Y)
theorem Qyd {P:Program} {c:Nat} (hcf:Qo P c=some Qub) (fuel:Nat):Qns P c (Qef fuel):=by
 intro n1 sv2 g3 cp4 r h;intro M nb hc5 ho7 hf6;refine Qvf hcf rfl M nb fun Γ hP hnt hn0 hM=>?_;subst hP hn0;refine ini ?_;refine Z 8 0 ?_;refine Rn.mkmapH tv rfl rfl (fun (x:ByteArray)=>(.d (.str x):V)) (fun (x:Int)=>((i_ x):V)) ?_;refine Z 5 0 ?_;obtain ⟨x9,h10,h⟩:=bnd h;refine Rn.makes (g:=(fun (x:Int)=>[V.d (.int .i64 x)])) tv rfl rfl rfl rfl rfl h10 ?_;refine Z 2 0 ?_;refine cw h [6,7] [] (fun _ e=>e) (fun (c25,c26) l=>(13,.mp (mapE (fun (x:ByteArray)=>(.d (.str x):V)) (fun (x:Int)=>((i_ x):V)) 0 c25) (c25).length)::(15,.cells (Qei (fun (x:Int)=>[V.d (.int .i64 x)]) c26))::l) ke (fun _ h=>?_) (fun ⟨c25,c26⟩ h=>?_)
 ·refine Z 6 0 ?_;refine lw h [1,6,7,16] [] (fun (x11,c12,c13) e=>(17,(i_ x11))::e) (fun (x11,c12,c13) l=>(13,.mp (mapE (fun (x:ByteArray)=>(.d (.str x):V)) (fun (x:Int)=>((i_ x):V)) 0 c12) (c12).length)::(15,.cells (Qei (fun (x:Int)=>[V.d (.int .i64 x)]) c13))::l) ke wk (fun _ ⟨x11,c12,c13⟩ h=>?_);refine Z 5 0 ?_;refine ci h rfl (fun h=>?_) (fun h=>Y);refine Z 12 0 ?_;obtain ⟨x17,h16,h⟩:=bnd h;refine Rn.callvM (args:=[(i_ x11)]++cp4) tv rfl (by rw [hc5];rfl) (fun M2 nb2 hn hx=>hf6 _ _ h16 M2 nb2 (by omega) ((Qve hM).trans hx)) rfl pc9 ?_;refine Z 6 0 ?_;refine Rn.lookupC (ek:=(fun (x:ByteArray)=>(.d (.str x):V))) (ev:=(fun (x:Int)=>((i_ x):V))) (m:=c12) (k:=x17) (fun _ _=>rfl) (fun _=>rfl) (fun _=>rfl) 0 rfl tv rfl rfl rfl ?_;refine Z 6 0 ?_;refine cw h [1,6,7,8,16,17] [15] (fun (k19,c20) e=>(10,(i_ k19))::e) (fun (k19,c20) l=>(13,.mp (mapE (fun (x:ByteArray)=>(.d (.str x):V)) (fun (x:Int)=>((i_ x):V)) 0 c20) (c20).length)::l) ke (fun _ h=>?_) (fun ⟨k19,c20⟩ h=>?_)
  ·refine Z 5 0 ?_;refine Tr.cond rfl (fun hb18=>?_) (fun hb18=>?_)
   ·have hb18:=nT' hb18;replace h:=bF hb18 h;refine Z 3 0 ?_;refine Rn.lenm (ek:=(fun (x:ByteArray)=>(.d (.str x):V))) (ev:=(fun (x:Int)=>((i_ x):V))) (m:=c12) tv rfl rfl ?_;refine Z 6 0 ?_;refine Rn.mapset (ek:=(fun (x:ByteArray)=>(.d (.str x):V))) (ev:=(fun (x:Int)=>((i_ x):V))) (m:=c12) (k:=x17) (v:=(c12.length:Int)) (fun _ _=>rfl) (fun _=>rfl) (fun _=>rfl) tv rfl rfl rfl rfl rfl ?_;exact Y
   ·have hb18:=nF' hb18;replace h:=bT hb18 h;exact Y
  ·refine Z 5 1 ?_;intro h;obtain ⟨x23,h24,h⟩:=bnd h;refine Rn.storeA (g:=(fun (x:Int)=>[V.d (.int .i64 x)])) (v:=(i_ k19)) (fun _=>rfl) tv rfl rfl rfl rfl rfl h24 ?_;exact Y
 ·refine Z 4 0 ?_;refine Rn.lenm (ek:=(fun (x:ByteArray)=>(.d (.str x):V))) (ev:=(fun (x:Int)=>((i_ x):V))) (m:=c25) tv rfl rfl ?_;refine Z 3 0 ?_;obtain ⟨⟨⟩,hl27,h⟩:=bnd h;refine Tr.weak (by show WeakSt Γ _ ⟨look [(4,(l_ c26)),(5,(i_ (c25.length:Int))),(6,.mp (Γ.n0+13)),(7,(l_ c26)),(41,(l_ c26)),(42,.mp (Γ.n0+13)),(43,(i_ (c25.length:Int)))],Qm Γ.n0 (bxs [(13,.mp (mapE (fun (x:ByteArray)=>(.d (.str x):V)) (fun (x:Int)=>((i_ x):V)) 0 c25) (c25).length)]) M,Γ.n0+44⟩;exact Qb9 15 _ rfl (Qr6 (fun _=>rfl) _) ⟨(fSlA (fun _=>rfl) (Qg1 hl27)),sq,(fMp rfl),(fSlA (fun _=>rfl) (Qg1 hl27)),(fSlA (fun _=>rfl) (Qg1 hl27)),(fMp rfl),sq,tv⟩ ⟨⟨rfl,rfl⟩,tv⟩ rfl) ?_;exact Y
theorem Quk {P:Program} {c:Nat} (hcf:Qo P c=some Qpj):Qku P c (Qcl):=by
 intro b1 n2 r h;refine Qbt hcf rfl fun Γ M hP hnt hM=>?_;subst hP;refine ini ?_;exact Y
theorem Qul {P:Program} {c:Nat} {Qcl:_}
    (Hau:Qku P 138 Qcl) (hcf:Qo P c=some Qpk) (fuel:Nat):Qkv P c (Qdw Qcl fuel):=by
 intro s1 x2 x5 k3 k6 r h;intro M nb hk4 hk7;refine Qvf hcf rfl M nb fun Γ hP hnt hn0 hM=>?_;subst hP hn0;refine ini ?_;refine Z 10 1 ?_;intro x8 h;obtain ⟨x11,h10,h⟩:=bnd h;refine Rn.call (args:=[.nils 1,(i_ x8)]) tv rfl (fun M2 nb2=>ACalls.weakO (args':=[.own 1 (List.map (eI .u8) []),(i_ x8)]) (Hau _ _ _ h10 M2 nb2) (.cons (WkV.nilsO _) (cS rfl .nil))) pc9 ?_;refine Z 2 0 ?_;refine cw h [] [] (fun kv26 e=>(5,.own 1 (List.map (eI .u8) kv26))::e) (fun _ l=>l) ke (fun _ h=>?_) (fun kv26 h=>?_)
 ·refine Z 10 1 ?_;intro _ h;refine lw h [1,16,17] [] (fun (kv14,x15) e=>(5,.own 1 (List.map (eI .u8) kv14))::(18,(i_ x15))::e) (fun _ l=>l) ke wk (fun _ ⟨kv14,x15⟩ h=>?_);refine Z 5 0 ?_;refine ci h rfl (fun h=>?_) (fun h=>Y);refine Z 15 1 ?_;intro x18 h;obtain ⟨x21,h20,h⟩:=bnd h;refine Rn.callO (args':=[.own 1 (List.map (eI .u8) kv14),(i_ x18.Event)]) tv rfl rfl (WkVs.refl _) (Hau _ _ _ h20) ?_;refine Z 9 1 ?_;intro x22 h;obtain ⟨x25,h24,h⟩:=bnd h;refine Rn.callO (args':=[.own 1 (List.map (eI .u8) x21),(i_ x22)]) tv rfl rfl (WkVs.refl _) (Hau _ _ _ h24) ?_;exact Y
 ·refine Z 3 0 ?_;refine Rn.bstr (xs:=kv26) tv rfl ?_;exact Y
theorem Qw5 {P:Program} {c:Nat} {Qc1:_} {Qc0:_} {Qef:_} {Qdv:_} {Qdw:_}
    (Hay:Qlo P 133 Qc1)
    (Haz:Qln P 134 Qc0)
    (Hbb:Qns P 135 Qef)
    (Haw:Qkt P 136 Qdv)
    (Hax:Qkv P 137 Qdw) (hcf:Qo P c=some Qsf) (fuel:Nat):Qmr P c (Qeq Qc1 Qc0 Qef Qdv Qdw fuel):=by
 intro a1 r h;refine Qbt hcf rfl fun Γ M hP hnt hM=>?_;subst hP;refine ini ?_;refine Z 8 0 ?_;refine cl (Haz _) h (cq fun x3 h=>?_);refine Z 1 0 ?_;refine cl (Hay _) h (cq fun x5 h=>?_);refine Z 9 0 ?_;refine Rn.k (v:=.clo 136 [.ptr (Γ.n0+3) 0]) tv rfl rfl rfl ?_;refine cm h (fun _ h9 M2 nb2 hn hx=>Hbb _ _ 136 [.ptr (Γ.n0+3) 0] _ h9 M2 nb2 rfl ⟨Qvg (hx _ _ (Qeh rfl)),tv⟩ (fun a6 r7 h8 M3 nb3 hn3 hx3=>Haw a6 x3 (Γ.n0+3) r7 h8 M3 nb3 ((hx.trans hx3) _ _ (Qeh rfl)))) rfl (cq fun ⟨_,_⟩ h=>?_);refine Z 8 0 ?_;refine lw h [1,4,5] [1,3,4] (fun (n12,cv13) e=>(6,(i_ n12))::e) (fun (n12,cv13) l=>(5,.cells ([(l_ cv13)]))::l) ke wk (fun _ ⟨n12,cv13⟩ h=>?_);refine Z 5 0 ?_;refine Rn.k (v:=.clo 137 [.ptr (Γ.n0+5) 0,.ptr (Γ.n0+4) 0]) tv rfl rfl rfl ?_;refine cm h (fun _ h18 M2 nb2 hn hx=>Hbb _ _ 137 [.ptr (Γ.n0+5) 0,.ptr (Γ.n0+4) 0] _ h18 M2 nb2 rfl ⟨Qvg (hx _ _ (Qeh rfl)),Qvg (hx _ _ (Qeh rfl)),tv⟩ (fun a15 r16 h17 M3 nb3 hn3 hx3=>Hax a15 cv13 x5 (Γ.n0+5) (Γ.n0+4) r16 h17 M3 nb3 ((hx.trans hx3) _ _ (Qeh rfl)) ((hx.trans hx3) _ _ (Qeh rfl)))) rfl (cq fun ⟨_,_⟩ h=>?_);refine Z 13 0 ?_;exact cd h rfl (fun h=>Y) (fun h=>Y)
theorem Qzk {P:Program} {c:Nat} {Qk:_} {Qc1:_} {Qc0:_}
    (Hdc:Qc4 P 58 Qk)
    (Hay:Qlo P 133 Qc1)
    (Haz:Qln P 134 Qc0) (hcf:Qo P c=some Qvs) (fuel:Nat):Qpl P c (Qfq Qk Qc1 Qc0 fuel):=by
 intro a1 cv2 r h;refine Qbt hcf rfl fun Γ M hP hnt hM=>?_;subst hP;refine ini ?_;refine Z 9 0 ?_;refine cl (Hdc _) h (cq fun x4 h=>?_);refine Rn.buildT (v:=.agg [(o_ x4),(i_ 0),.nils 1,.nils 3]) tv rfl ?_;refine Z 10 0 ?_;refine cd h rfl (fun h=>Y) (fun h=>?_);refine Z 4 0 ?_;refine cl (Hay _) h (cq fun x7 h=>?_);refine Z 1 0 ?_;refine cl (Haz _) h (cq fun x9 h=>?_);refine Z 5 0 ?_;refine Rn.mkmap tv rfl (fun (x:Int)=>((i_ x):V)) (fun (x:Int)=>((i_ x):V)) ?_;refine Z 13 1 ?_;intro x10 h;refine Rn.mapset (ek:=(fun (x:Int)=>((i_ x):V))) (ev:=(fun (x:Int)=>((i_ x):V))) (m:=([]:List (Int×Int))) (k:=x10) (v:=0) (fun _ _=>rfl) (fun _=>rfl) (fun _=>rfl) tv rfl rfl rfl rfl rfl ?_;refine Z 1 0 ?_;refine cu h (fun (fv58,c59,c60,c61,ov62,ov63,c64)=>⟨look [(4,.ptr (Γ.n0+4) 0),(5,.ptr (Γ.n0+5) 0),(9,(o_ fv58))],Qm Γ.n0 (bxs [(2,.cells ((Qr a1))),(4,.cells ([(o_ c59),(i_ 0),(o_ c60),(Qp c61)])),(5,.cells ([(o_ x4),(i_ 0),(o_ ov62),(Qp ov63)])),(27,.mp (mapE (fun (x:Int)=>((i_ x):V)) (fun (x:Int)=>((i_ x):V)) 0 c64) (c64).length)]) M,Γ.n0+105⟩) (fun _ h=>?_) (fun ⟨fv58,c59,c60,c61,ov62,ov63,c64⟩ h=>Y);refine Z 5 0 ?_;refine Tr.weak (by show WeakSt Γ _ ⟨look ((9,.own 1 (List.map (eI .i64) [0]))::[(0,(Qe a1)),(1,(l_ cv2)),(2,.ptr (Γ.n0+2) 0),(4,.ptr (Γ.n0+4) 0),(5,.ptr (Γ.n0+5) 0),(6,.d (.lst 1 (List.map (eL 3 Qj) x7))),(7,.d (.lst 1 (List.map eB x9))),(8,.mp (Γ.n0+27)),(10,(i_ 0)),(15,.ptr (Γ.n0+2) 0),(16,(l_ a1.zB)),(17,(l_ x4)),(18,.agg [(l_ x4),(i_ 0),.nils 1,.nils 3]),(19,.ptr (Γ.n0+2) 1),(20,(i_ a1.zF)),(21,(b_ (a1.zF==0))),(23,(Qe a1)),(24,.d (.lst 1 (List.map (eL 3 Qj) x7))),(25,(Qe a1)),(26,.d (.lst 1 (List.map eB x9))),(27,.mp (Γ.n0+27)),(29,.mp (Γ.n0+27)),(30,(l_ cv2)),(31,.cref ((eI .i64) x10)),(32,(i_ x10))] ),Qm Γ.n0 (bxs [(2,.cells ((Qr a1))),(4,.cells ([.nils 1,(i_ 0),.nils 1,.nils 3])),(5,.cells ([(o_ x4),(i_ 0),.nils 1,.nils 3])),(27,.mp (mapE (fun (x:Int)=>((i_ x):V)) (fun (x:Int)=>((i_ x):V)) 0 (setM ([]:List (Int×Int)) x10 0)) ((setM ([]:List (Int×Int)) x10 0)).length)]) M,Γ.n0+105⟩;exact Qr5 28 9 [.int .i64 0] rfl rfl rfl rfl rfl ⟨sq,sq,(kPtr rfl),(kPtr rfl),(kPtr rfl),sq,sq,(kMp rfl),sq,(kPtr rfl),sq,sq,sq,(kPtr rfl),sq,sq,sq,sq,sq,sq,(kMp rfl),(kMp rfl),sq,sq,sq,tv⟩ ⟨bS rfl rfl rfl,bS rfl rfl rfl,bS rfl rfl rfl,⟨rfl,rfl⟩,tv⟩ rfl) ?_;refine lo h (fun (fv12,i13,c14,c15,c16,ov17,ov18,c19)=>⟨look [(1,(l_ cv2)),(4,.ptr (Γ.n0+4) 0),(5,.ptr (Γ.n0+5) 0),(6,.d (.lst 1 (List.map (eL 3 Qj) x7))),(7,.d (.lst 1 (List.map eB x9))),(8,.mp (Γ.n0+27)),(9,(o_ fv12)),(10,(i_ i13))],Qm Γ.n0 (bxs [(2,.cells ((Qr a1))),(4,.cells ([(o_ c14),(i_ 0),(o_ c15),(Qp c16)])),(5,.cells ([(o_ x4),(i_ 0),(o_ ov17),(Qp ov18)])),(27,.mp (mapE (fun (x:Int)=>((i_ x):V)) (fun (x:Int)=>((i_ x):V)) 0 c19) (c19).length)]) M,Γ.n0+105⟩) wk (fun _ ⟨fv12,i13,c14,c15,c16,ov17,ov18,c19⟩ h=>?_);refine Z 8 0 ?_;refine ci h rfl (fun h=>?_) (fun h=>Y);refine Tr.skip ?_;refine cu h (fun (fv54,ov55,ov56,c57)=>⟨look [(1,(l_ cv2)),(4,.ptr (Γ.n0+4) 0),(5,.ptr (Γ.n0+5) 0),(6,.d (.lst 1 (List.map (eL 3 Qj) x7))),(7,.d (.lst 1 (List.map eB x9))),(8,.mp (Γ.n0+27)),(9,(o_ fv54)),(10,(i_ i13))],Qm Γ.n0 (bxs [(2,.cells ((Qr a1))),(4,.cells ([(o_ c14),(i_ 0),(o_ c15),(Qp c16)])),(5,.cells ([(o_ x4),(i_ 0),(o_ ov55),(Qp ov56)])),(27,.mp (mapE (fun (x:Int)=>((i_ x):V)) (fun (x:Int)=>((i_ x):V)) 0 c57) (c57).length)]) M,Γ.n0+105⟩) (fun _ h=>?_) (fun ⟨fv54,ov55,ov56,c57⟩ h=>Y);refine Tr.block ?_;refine cu h (fun ov29=>⟨look [(1,(l_ cv2)),(4,.ptr (Γ.n0+4) 0),(5,.ptr (Γ.n0+5) 0),(6,.d (.lst 1 (List.map (eL 3 Qj) x7))),(7,.d (.lst 1 (List.map eB x9))),(8,.mp (Γ.n0+27)),(9,(o_ fv12)),(10,(i_ i13))],Qm Γ.n0 (bxs [(2,.cells ((Qr a1))),(4,.cells ([(o_ c14),(i_ 0),(o_ c15),(Qp c16)])),(5,.cells ([(o_ x4),(i_ 0),(o_ ov29),(Qp ov18)])),(27,.mp (mapE (fun (x:Int)=>((i_ x):V)) (fun (x:Int)=>((i_ x):V)) 0 c19) (c19).length)]) M,Γ.n0+105⟩) (fun _ h=>?_) (fun ov29 h=>?_)
 ·refine Z 10 1 ?_;intro _ _ h;exact cd h rfl (fun h=>Y) (fun h=>Y)
 ·refine Z 13 1 ?_;intro _ x32 h;refine lo h (fun (fv34,x35,ov36,c37)=>⟨look [(1,(l_ cv2)),(4,.ptr (Γ.n0+4) 0),(5,.ptr (Γ.n0+5) 0),(6,.d (.lst 1 (List.map (eL 3 Qj) x7))),(7,.d (.lst 1 (List.map eB x9))),(8,.mp (Γ.n0+27)),(9,(o_ fv34)),(10,(i_ i13)),(58,(Qg x32)),(59,(i_ (x32.length:Int))),(60,(i_ x35))],Qm Γ.n0 (bxs [(2,.cells ((Qr a1))),(4,.cells ([(o_ c14),(i_ 0),(o_ c15),(Qp c16)])),(5,.cells ([(o_ x4),(i_ 0),(o_ ov29),(Qp ov36)])),(27,.mp (mapE (fun (x:Int)=>((i_ x):V)) (fun (x:Int)=>((i_ x):V)) 0 c37) (c37).length)]) M,Γ.n0+105⟩) wk (fun _ ⟨fv34,x35,ov36,c37⟩ h=>?_);refine Z 5 0 ?_;refine ci h rfl (fun h=>?_) (fun h=>Y);refine Z 18 1 ?_;intro x40 x42 h;refine Rn.lookupC (ek:=(fun (x:Int)=>((i_ x):V))) (ev:=(fun (x:Int)=>((i_ x):V))) (m:=c37) (k:=x42) (fun _ _=>rfl) (fun _=>rfl) (fun _=>rfl) 0 rfl tv rfl rfl rfl ?_;refine Z 6 0 ?_;refine cu h (fun (fv49,k50,c51)=>⟨look [(1,(l_ cv2)),(4,.ptr (Γ.n0+4) 0),(5,.ptr (Γ.n0+5) 0),(6,.d (.lst 1 (List.map (eL 3 Qj) x7))),(7,.d (.lst 1 (List.map eB x9))),(8,.mp (Γ.n0+27)),(9,(o_ fv49)),(10,(i_ i13)),(12,.ptr (Γ.n0+12) 0),(13,(i_ k50)),(58,(Qg x32)),(59,(i_ (x32.length:Int))),(60,(i_ x35))],Qm Γ.n0 (bxs [(2,.cells ((Qr a1))),(4,.cells ([(o_ c14),(i_ 0),(o_ c15),(Qp c16)])),(5,.cells ([(o_ x4),(i_ 0),(o_ ov29),(Qp ov36)])),(12,.cells ((Qou x40))),(27,.mp (mapE (fun (x:Int)=>((i_ x):V)) (fun (x:Int)=>((i_ x):V)) 0 c51) (c51).length)]) M,Γ.n0+105⟩) (fun _ h=>?_) (fun ⟨fv49,k50,c51⟩ h=>Y);refine Z 5 0 ?_;refine Tr.cond rfl (fun hb44=>?_) (fun hb44=>?_)
  ·have hb44:=nT' hb44;replace h:=bF hb44 h;refine Z 15 1 ?_;intro x45 h;refine Rn.mapset (ek:=(fun (x:Int)=>((i_ x):V))) (ev:=(fun (x:Int)=>((i_ x):V))) (m:=c37) (k:=x45) (v:=(fv34.length:Int)) (fun _ _=>rfl) (fun _=>rfl) (fun _=>rfl) tv rfl rfl rfl rfl rfl ?_;exact Y
  ·have hb44:=nF' hb44;replace h:=bT hb44 h;exact Y
theorem Qvz {P:Program} {c:Nat} {Qx:_} {Qfq:_} {Qeq:_}
    (Hai:Qga P 48 Qx)
    (Hba:Qpl P 95 Qfq)
    (Hav:Qmr P 96 Qeq) (hcf:Qo P c=some Qqv):Qg3 P c (Q8 Qx Qfq Qeq):=by
 intro a1 r h;refine Qbt hcf rfl fun Γ M hP hnt hM=>?_;subst hP;refine ini ?_;refine Z 10 0 ?_;refine cl (Hai _) h (cq fun _ h=>?_);refine Z 7 0 ?_;refine cd h rfl (fun h=>Y) (fun h=>?_);refine Z 5 0 ?_;refine cl (Hav _) h (cq fun _ h=>?_);refine cl (Hba _ _) h (cq fun _ h=>?_);exact Y
theorem Qw6 {P:Program} {c:Nat} {Q8:_} {Qk:_} {Qd9:_}
    (Hat:Qg3 P 45 Q8)
    (Hdc:Qc4 P 58 Qk)
    (Haj:Qlm P 94 Qd9) (hcf:Qo P c=some Qsg):Qje P c (Qb5 Q8 Qk Qd9):=by
 intro a1 ev2 r h;refine Qbt hcf rfl fun Γ M hP hnt hM=>?_;subst hP;refine ini ?_;refine Z 9 0 ?_;refine cl (Haj _) h (cq fun ⟨_,_⟩ h=>?_);refine Z 13 0 ?_;refine cd h rfl (fun h=>Y) (fun h=>?_);refine Z 4 0 ?_;refine cl (Hdc _) h (cq fun _ h=>?_);refine Z 6 0 ?_;refine cl (Hat _) h (cq fun ⟨_,_⟩ h=>?_);exact Y
theorem Qum {P:Program} {c:Nat} {Qcg:_} {Qbh:_} {Qb5:_}
    (Hcc:Qkm P 22 Qcg)
    (Hbt:Qhq P 43 Qbh)
    (Hcg:Qje P 44 Qb5) (hcf:Qo P c=some Qpm):Qh2 P c (Qbv Qcg Qbh Qb5):=by
 intro p1 r h;refine Qbt hcf rfl fun Γ M hP hnt hM=>?_;subst hP;refine ini ?_;refine Z 10 0 ?_;refine cl (Hcc _) h (cq fun x3 h=>?_);refine Z 7 0 ?_;refine cd h rfl (fun h=>Y) (fun h=>?_);refine Z 10 0 ?_;refine Rn.weak (by show WeakSt Γ _ ⟨look [(0,(Qu p1)),(1,.ptr (Γ.n0+1) 0),(2,.ptr (Γ.n0+2) 0),(3,(i_ 0)),(4,(i_ x3)),(7,(Qu p1)),(8,(i_ x3)),(9,(i_ x3)),(10,(b_ (x3 != 0))),(14,.ptr (Γ.n0+1) 0),(15,(Qe p1.Plant)),(16,.ptr (Γ.n0+1) 4),(17,(Qe p1.Ambient)),(18,.ptr (Γ.n0+1) 8),(19,(Qe p1.Requirement)),(20,.d (.lst 4 (List.map Qbp [p1.Plant,p1.Ambient,p1.Requirement])))],Qm Γ.n0 (bxs [(1,.cells ((Qbf p1))),(2,.cells ([.nils 1,(i_ 0),.nils 1,.nils 3]))]) M,Γ.n0+35⟩;exact Qb9 20 [.lst 1 (List.map (eI .i64) p1.Plant.zB),.int .i64 p1.Plant.zF,.lst 1 (List.map (eI .i64) p1.Plant.zC),.lst 3 (List.map Qj p1.Plant.zD),.lst 1 (List.map (eI .i64) p1.Ambient.zB),.int .i64 p1.Ambient.zF,.lst 1 (List.map (eI .i64) p1.Ambient.zC),.lst 3 (List.map Qj p1.Ambient.zD),.lst 1 (List.map (eI .i64) p1.Requirement.zB),.int .i64 p1.Requirement.zF,.lst 1 (List.map (eI .i64) p1.Requirement.zC),.lst 3 (List.map Qj p1.Requirement.zD)] rfl rfl ⟨sq,(fPtr rfl),(fPtr rfl),sq,sq,sq,sq,sq,sq,(fPtr rfl),sq,(fPtr rfl),sq,(fPtr rfl),sq,(fSl rfl rfl),tv⟩ ⟨bS rfl rfl rfl,bS rfl rfl rfl,tv⟩ rfl) ?_;refine cl (Hbt _) h (cq fun ⟨_,_⟩ h=>?_);refine Z 13 0 ?_;refine cd h rfl (fun h=>Y) (fun h=>?_);refine Z 7 0 ?_;refine cl (Hcg _ _) h (cq fun ⟨_,_⟩ h=>?_);exact Y
theorem Qv0 {P:Program} {c:Nat} (hcf:Qo P c=some Qqw) (fuel:Nat):Qlp P c (Qdq fuel):=by
 intro a1 r h;refine Qbt hcf rfl fun Γ M hP hnt hM=>?_;subst hP;refine ini ?_;refine Z 7 0 ?_;refine Rn.mkmap tv rfl (fun (x:Int×Int)=>(.agg [(i_ x.1),(i_ x.2)]:V)) (fun (x:Int)=>((i_ x):V)) ?_;refine Z 2 0 ?_;refine cw h [3] [1] (fun _ e=>e) (fun c8 l=>(6,.mp (mapE (fun (x:Int×Int)=>(.agg [(i_ x.1),(i_ x.2)]:V)) (fun (x:Int)=>((i_ x):V)) 0 c8) (c8).length)::l) ke (fun _ h=>?_) (fun c8 h=>?_)
 ·refine Z 8 0 ?_;refine lw h [3,8,9] [1] (fun (x2,c3) e=>(10,(i_ x2))::e) (fun (x2,c3) l=>(6,.mp (mapE (fun (x:Int×Int)=>(.agg [(i_ x.1),(i_ x.2)]:V)) (fun (x:Int)=>((i_ x):V)) 0 c3) (c3).length)::l) ke wk (fun _ ⟨x2,c3⟩ h=>?_);refine Z 5 0 ?_;refine ci h rfl (fun h=>?_) (fun h=>Y);refine Z 19 1 ?_;intro x6 h;refine Rn.mapset (ek:=(fun (x:Int×Int)=>(.agg [(i_ x.1),(i_ x.2)]:V))) (ev:=(fun (x:Int)=>((i_ x):V))) (m:=c3) (k:=(x6.From,x6.Event)) (v:=x6.To) Qba9 (fun _=>rfl) (fun _=>rfl) tv rfl rfl rfl rfl rfl ?_;exact Y
 ·refine Z 5 0 ?_;refine Tr.weak (by show WeakSt Γ _ ⟨look [(2,.d (mq0 c8)),(3,.d (mq0 c8)),(23,.d (mq0 c8))],Qm Γ.n0 (bxs [(1,.cells ((Qr a1)))]) M,Γ.n0+24⟩;exact Q1p (ek:=(fun (x:Int×Int)=>(.agg [(i_ x.1),(i_ x.2)]:V))) (ev:=(fun (x:Int)=>((i_ x):V))) (m:=c8) 6 rfl (fun _=>rfl) (fun _=>rfl) ⟨mMpS,mMpS,mMpS,tv⟩ ⟨bS rfl rfl rfl,tv⟩ rfl) ?_;exact Y
theorem Qw7 {P:Program} {c:Nat} {Qbv:_} {Qv:_} {Qdq:_}
    (Hce:Qh2 P 16 Qbv)
    (Hbu:Qfo P 42 Qv)
    (Hck:Qlp P 100 Qdq) (hcf:Qo P c=some Qsh) (fuel:Nat):Qjf P c (Qb6 Qbv Qv Qdq fuel):=by
 intro p1 r h;refine Qbt hcf rfl fun Γ M hP hnt hM=>?_;subst hP;refine ini ?_;refine Z 10 0 ?_;refine cl (Hce _) h (cq fun ⟨r3,r4⟩ h=>?_);refine Z 13 0 ?_;refine cd h rfl (fun h=>Y) (fun h=>?_);refine Z 8 0 ?_;refine Rn.weak (by show WeakSt Γ _ ⟨look [(0,(Qu p1)),(1,.ptr (Γ.n0+1) 0),(2,.nilp),(3,.ptr (Γ.n0+3) 0),(4,(i_ 0)),(5,.ptr (Γ.n0+5) 0),(6,(i_ r4)),(12,.tup [(Qe r3),(i_ r4)]),(13,(Qu p1)),(14,.tup [(Qe r3),(i_ r4)]),(15,(Qe r3)),(16,(i_ r4)),(17,(i_ r4)),(18,(b_ (r4 != 0))),(22,.ptr (Γ.n0+1) 0),(23,(Qe p1.Plant)),(24,.ptr (Γ.n0+1) 4),(25,(Qe p1.Ambient)),(26,.d (.lst 4 (List.map Qbp [p1.Plant,p1.Ambient])))],Qm Γ.n0 (bxs [(1,.cells ((Qbf p1))),(3,.cells ([.nils 1,(i_ 0),.nils 1,.nils 3])),(5,.cells ((Qr r3)))]) M,Γ.n0+79⟩;exact Qb9 26 [.lst 1 (List.map (eI .i64) p1.Plant.zB),.int .i64 p1.Plant.zF,.lst 1 (List.map (eI .i64) p1.Plant.zC),.lst 3 (List.map Qj p1.Plant.zD),.lst 1 (List.map (eI .i64) p1.Ambient.zB),.int .i64 p1.Ambient.zF,.lst 1 (List.map (eI .i64) p1.Ambient.zC),.lst 3 (List.map Qj p1.Ambient.zD)] rfl rfl ⟨sq,(fPtr rfl),sq,(fPtr rfl),sq,(fPtr rfl),sq,sq,sq,sq,sq,sq,sq,sq,(fPtr rfl),sq,(fPtr rfl),sq,(fSl rfl rfl),tv⟩ ⟨bS rfl rfl rfl,bS rfl rfl rfl,bS rfl rfl rfl,tv⟩ rfl) ?_;refine cl (Hbu _) h (cq fun ⟨r7,_,_⟩ h=>?_);refine Z 15 0 ?_;refine cd h rfl (fun h=>Y) (fun h=>?_);refine Z 8 0 ?_;refine cl (Hck _) h (cq fun x12 h=>?_);refine Z 1 0 ?_;refine cl (Hck _) h (cq fun x14 h=>?_);refine Z 2 0 ?_;refine cl (Hck _) h (cq fun x16 h=>?_);refine Z 3 0 ?_;refine Rn.buildT (v:=.agg [(l_ p1.Plant.zB),(i_ p1.Plant.zF),(l_ p1.Plant.zC),(Qg p1.Plant.zD),(l_ p1.Ambient.zB),(i_ p1.Ambient.zF),(l_ p1.Ambient.zC),(Qg p1.Ambient.zD),(l_ p1.Requirement.zB),(i_ p1.Requirement.zF),(l_ p1.Requirement.zC),(Qg p1.Requirement.zD),(l_ p1.Observable),(l_ p1.Controllable),(l_ p1.Plant.zB),.d (mq0 x12),.d (mq0 x14),.nils 1,.d (mq0 x16),(b_ (r7.zF==0)),(i_ 0),(i_ 0)]) tv rfl ?_;refine Z 3 0 ?_;refine cw h [3,5,9] [1,5,7] (fun _ e=>e) (fun (c30,c31,c32,c33) l=>(3,.cells ([(o_ c30),(i_ 0),(o_ c31),(Qp c32)]))::(50,.cells ([(l_ p1.Plant.zB),(i_ p1.Plant.zF),(l_ p1.Plant.zC),(Qg p1.Plant.zD),(l_ p1.Ambient.zB),(i_ p1.Ambient.zF),(l_ p1.Ambient.zC),(Qg p1.Ambient.zD),(l_ p1.Requirement.zB),(i_ p1.Requirement.zF),(l_ p1.Requirement.zC),(Qg p1.Requirement.zD),(l_ p1.Observable),(l_ p1.Controllable),(l_ p1.Plant.zB),.d (mq0 x12),.d (mq0 x14),(o_ c33),.d (mq0 x16),(b_ (r7.zF==0)),(i_ 0),(i_ 0)]))::l) ke (fun _ h=>?_) (fun ⟨c30,c31,c32,c33⟩ h=>?_)
 ·refine Z 7 0 ?_;refine lw h [3,5,9,51,52] [1,5,7] (fun (x17,c18,c19,c20,c21) e=>(53,(i_ x17))::e) (fun (x17,c18,c19,c20,c21) l=>(3,.cells ([(o_ c18),(i_ 0),(o_ c19),(Qp c20)]))::(50,.cells ([(l_ p1.Plant.zB),(i_ p1.Plant.zF),(l_ p1.Plant.zC),(Qg p1.Plant.zD),(l_ p1.Ambient.zB),(i_ p1.Ambient.zF),(l_ p1.Ambient.zC),(Qg p1.Ambient.zD),(l_ p1.Requirement.zB),(i_ p1.Requirement.zF),(l_ p1.Requirement.zC),(Qg p1.Requirement.zD),(l_ p1.Observable),(l_ p1.Controllable),(l_ p1.Plant.zB),.d (mq0 x12),.d (mq0 x14),(o_ c21),.d (mq0 x16),(b_ (r7.zF==0)),(i_ 0),(i_ 0)]))::l) ke wk (fun _ ⟨x17,c18,c19,c20,c21⟩ h=>?_);refine Z 5 0 ?_;exact ci h rfl (fun h=>Y) (fun h=>Y)
 ·refine Z 7 0 ?_;refine cd h rfl (fun h=>?_) (fun h=>?_)
  ·refine Z 15 0 ?_;refine Tr.weak (by show WeakSt Γ _ ⟨look [(2,.cref (Qc (Qf.mk p1 p1.Plant.zB x12 x14 c33 x16 (r7.zF==0) (Qd.mk 0 (-1))))),(3,.ptr (Γ.n0+3) 0),(4,(i_ 0)),(5,.ptr (Γ.n0+5) 0),(9,.cref (Qc (Qf.mk p1 p1.Plant.zB x12 x14 c33 x16 (r7.zF==0) (Qd.mk 0 (-1))))),(70,.ptr (Γ.n0+5) 1),(71,(i_ r3.zF)),(72,(b_ (r3.zF==0))),(73,.cref (Qc (Qf.mk p1 p1.Plant.zB x12 x14 c33 x16 (r7.zF==0) (Qd.mk 0 (-1))))),(74,.cref (Qc (Qf.mk p1 p1.Plant.zB x12 x14 c33 x16 (r7.zF==0) (Qd.mk 0 (-1))))),(77,.cref (Qc (Qf.mk p1 p1.Plant.zB x12 x14 c33 x16 (r7.zF==0) (Qd.mk 0 (-1))))),(78,(Qe r3))],Qm Γ.n0 (bxs [(1,.cells ((Qbf p1))),(3,.cells ((Qr r3))),(5,.cells ((Qr r3))),(7,.cells ((Qr r7)))]) M,Γ.n0+79⟩;exact Qb9 50 [.lst 1 (List.map (eI .i64) p1.Plant.zB),.int .i64 p1.Plant.zF,.lst 1 (List.map (eI .i64) p1.Plant.zC),.lst 3 (List.map Qj p1.Plant.zD),.lst 1 (List.map (eI .i64) p1.Ambient.zB),.int .i64 p1.Ambient.zF,.lst 1 (List.map (eI .i64) p1.Ambient.zC),.lst 3 (List.map Qj p1.Ambient.zD),.lst 1 (List.map (eI .i64) p1.Requirement.zB),.int .i64 p1.Requirement.zF,.lst 1 (List.map (eI .i64) p1.Requirement.zC),.lst 3 (List.map Qj p1.Requirement.zD),.lst 1 (List.map (eI .i64) p1.Observable),.lst 1 (List.map (eI .i64) p1.Controllable),.lst 1 (List.map (eI .i64) p1.Plant.zB),mq0 x12,mq0 x14,.lst 1 (List.map (eI .i64) c33),mq0 x16,.bool (r7.zF==0),.int .i64 0,.int .i64 (-1)] rfl rfl ⟨(Q8h rfl),(fPtr rfl),sq,(fPtr rfl),(Q8h rfl),(fPtr rfl),sq,sq,(Q8h rfl),(Q8h rfl),(Q8h rfl),sq,tv⟩ ⟨bS rfl rfl rfl,bS rfl rfl rfl,bS rfl rfl rfl,bS rfl rfl rfl,tv⟩ rfl) ?_;exact Y
  ·refine Z 9 0 ?_;refine Tr.weak (by show WeakSt Γ _ ⟨look [(2,.cref (Qc (Qf.mk p1 p1.Plant.zB x12 x14 c33 x16 (r7.zF==0) (Qd.mk 0 0)))),(3,.ptr (Γ.n0+3) 0),(4,(i_ 0)),(5,.ptr (Γ.n0+5) 0),(9,.cref (Qc (Qf.mk p1 p1.Plant.zB x12 x14 c33 x16 (r7.zF==0) (Qd.mk 0 0)))),(70,.ptr (Γ.n0+5) 1),(71,(i_ r3.zF)),(72,(b_ (r3.zF==0))),(77,.cref (Qc (Qf.mk p1 p1.Plant.zB x12 x14 c33 x16 (r7.zF==0) (Qd.mk 0 0)))),(78,(Qe r3))],Qm Γ.n0 (bxs [(1,.cells ((Qbf p1))),(3,.cells ((Qr r3))),(5,.cells ((Qr r3))),(7,.cells ((Qr r7)))]) M,Γ.n0+79⟩;exact Qb9 50 [.lst 1 (List.map (eI .i64) p1.Plant.zB),.int .i64 p1.Plant.zF,.lst 1 (List.map (eI .i64) p1.Plant.zC),.lst 3 (List.map Qj p1.Plant.zD),.lst 1 (List.map (eI .i64) p1.Ambient.zB),.int .i64 p1.Ambient.zF,.lst 1 (List.map (eI .i64) p1.Ambient.zC),.lst 3 (List.map Qj p1.Ambient.zD),.lst 1 (List.map (eI .i64) p1.Requirement.zB),.int .i64 p1.Requirement.zF,.lst 1 (List.map (eI .i64) p1.Requirement.zC),.lst 3 (List.map Qj p1.Requirement.zD),.lst 1 (List.map (eI .i64) p1.Observable),.lst 1 (List.map (eI .i64) p1.Controllable),.lst 1 (List.map (eI .i64) p1.Plant.zB),mq0 x12,mq0 x14,.lst 1 (List.map (eI .i64) c33),mq0 x16,.bool (r7.zF==0),.int .i64 0,.int .i64 0] rfl rfl ⟨(Q8h rfl),(fPtr rfl),sq,(fPtr rfl),(Q8h rfl),(fPtr rfl),sq,sq,(Q8h rfl),sq,tv⟩ ⟨bS rfl rfl rfl,bS rfl rfl rfl,bS rfl rfl rfl,bS rfl rfl rfl,tv⟩ rfl) ?_;exact Y
theorem Qsm {P:Program} {c:Nat} (hcf:Qo P c=some Qng):Qch P c (Qi):=by
 intro m1 sv2 ev3 r h;refine Qbt hcf rfl fun Γ M hP hnt hM=>?_;subst hP;refine ini ?_;refine Z 11 0 ?_;refine Rn.lookupDC (ek:=(fun (x:Int×Int)=>(.agg [(i_ x.1),(i_ x.2)]:V))) (ev:=(fun (x:Int)=>((i_ x):V))) (m:=m1) (k:=(sv2,ev3)) Qba9 (fun _=>rfl) (fun _=>rfl) (fun _=>rfl) (fun _=>rfl) 0 rfl tv rfl rfl ?_;refine Z 6 0 ?_;refine cw h [7] [] (fun x5 e=>(21,(b_ x5))::e) (fun _ l=>l) ke (fun _ h=>?_) (fun x5 h=>?_)
 ·refine Z 3 0 ?_;exact bs h (fun _ h=>Y) (fun _ h=>Y)
 ·exact cd h rfl (fun h=>Y) (fun h=>Y)
theorem Qrf {P:Program} {c:Nat} {Qn:_}
    (Hdg:Qc5 P 62 Qn) (hcf:Qo P c=some Ql8):Qdk P c (Qq Qn):=by
 intro s1 ev2 r h;refine Qbt hcf rfl fun Γ M hP hnt hM=>?_;subst hP;refine ini ?_;refine Z 7 0 ?_;refine Rn.k (v:=.cref (Qc s1)) tv rfl rfl rfl ?_;refine Z 4 0 ?_;refine cl (Hdg _ _) h (cq fun _ h=>?_);exact Y
theorem Qpr {P:Program} {c:Nat} {Qk:_} {Qq:_} {Qn:_} {Qi:_} {f_slices_Sort_int:_} {f_slices_Compact_int:_}
    (Hdc:Qc4 P 58 Qk)
    (Hcw:Qdk P 59 Qq)
    (Hdg:Qc5 P 62 Qn)
    (Hcl:Qch P 63 Qi)
    (Hdn:RowK P 124 (eI .i64) 1 [] f_slices_Sort_int)
    (Hdd:CompK P 125 f_slices_Compact_int) (hcf:Qo P c=some Qk3) (fuel:Nat):Qfu P c (Qbd Qk Qq Qn Qi f_slices_Sort_int f_slices_Compact_int fuel):=by
 intro s1 l2 r h;refine Qbel hcf (args':=[.cref (Qc s1),(f_ l2)]) rfl rfl rfl rfl rfl rfl fun Γ M hP hnt hG hM0 hM=>?_;subst hP;refine ini ?_;refine Z 7 0 ?_;obtain ⟨x4,h3,h⟩:=bnd h;refine Rn.call (args:=[(f_ l2)]) tv rfl (fun M2 nb2=>ACalls.weak (args':=[(l_ l2)]) (Hdc _ _ h3 M2 nb2) (.cons fToD .nil) rfl) pc9 ?_;refine Z 2 0 ?_;refine cu h (fun ov31=>⟨look [(5,(o_ ov31))],Qm Γ.n0 (bxs []) M,Γ.n0+60⟩) (fun _ h=>?_) (fun ov31 h=>?_)
 ·refine Z 5 0 ?_;refine lo h (fun (ov5,i6)=>⟨look [(0,.cref (Qc s1)),(5,(o_ ov5)),(6,(i_ i6))],Qm Γ.n0 (bxs []) M,Γ.n0+60⟩) wk (fun _ ⟨ov5,i6⟩ h=>?_);refine Z 8 0 ?_;refine ci h rfl (fun h=>?_) (fun h=>Y);refine Tr.skip ?_;refine cu h (fun ov30=>⟨look [(0,.cref (Qc s1)),(5,(o_ ov30)),(6,(i_ i6))],Qm Γ.n0 (bxs []) M,Γ.n0+60⟩) (fun _ h=>?_) (fun ov30 h=>Y);refine Z 4 0 ?_;refine Rn.k (v:=.cref (Qc s1)) tv rfl rfl rfl ?_;refine Z 6 0 ?_;refine lo h (fun (ov9,x10)=>⟨look [(0,.cref (Qc s1)),(5,(o_ ov9)),(6,(i_ i6)),(21,(l_ s1.events_)),(22,(i_ (s1.events_.length:Int))),(23,(i_ x10))],Qm Γ.n0 (bxs []) M,Γ.n0+60⟩) wk (fun _ ⟨ov9,x10⟩ h=>?_);refine Z 5 0 ?_;refine ci h rfl (fun h=>?_) (fun h=>Y);refine Tr.skip ?_;refine cu h (fun ov29=>⟨look [(0,.cref (Qc s1)),(5,(o_ ov29)),(6,(i_ i6)),(21,(l_ s1.events_)),(22,(i_ (s1.events_.length:Int))),(23,(i_ x10))],Qm Γ.n0 (bxs []) M,Γ.n0+60⟩) (fun _ h=>?_) (fun ov29 h=>Y);refine Z 10 1 ?_;intro _ h;refine Rn.k (v:=.cref (Qc s1)) tv rfl rfl rfl ?_;refine Z 7 1 ?_;intro _ h;refine cl (Hcl _ _ _) h (cq fun x18 h=>?_);refine Z 2 0 ?_;refine cu h (fun x25=>⟨look [(0,.cref (Qc s1)),(5,(o_ ov9)),(6,(i_ i6)),(9,(i_ x18)),(21,(l_ s1.events_)),(22,(i_ (s1.events_.length:Int))),(23,(i_ x10)),(50,(b_ x25))],Qm Γ.n0 (bxs []) M,Γ.n0+60⟩) (fun _ h=>?_) (fun x25 h=>?_)
  ·refine Z 4 0 ?_;refine bi h (fun _ h=>?_) (fun _ h=>Y);refine Z 2 0 ?_;refine cl (Hcw _ _) h (cq fun _ h=>?_);refine Z 3 0 ?_;refine bs h (fun _ h=>Y) (fun _ h=>?_);refine Z 2 0 ?_;refine cl (Hdg _ _) h (cq fun _ h=>?_);exact Y
  ·exact cd h rfl (fun h=>Y) (fun h=>Y)
 ·obtain ⟨ov32,hs33,h⟩:=bnd h;obtain ⟨hl34,hn35,hr36⟩:=Hdn _ _ hs33;obtain ⟨ov38,hs39,h⟩:=bnd h;obtain ⟨hl40,hn41,hr42⟩:=Hdd _ _ hs39;refine Tr.seqW2 ⟨look [(4,(l_ ov38))],Qm Γ.n0 (bxs []) M,Γ.n0+60⟩ ?_ ?_
  ·by_cases hx37:ov31=[]
   ·obtain ⟨hyx,hn35b⟩:=hn35 hx37;replace hyx:=hyx.symm;subst hyx;replace hn35:=And.intro tv hn35b;obtain ⟨hv2,hn41b⟩:=hn41 hx37;replace hv2:=hv2.symm;subst hv2;replace hn41:=And.intro tv hn41b;refine Z 2 0 ?_;refine Rn.call (args:=[.d (.lst 1 (List.map (eI .i64) ov31))]) tv rfl (hn35.2) pc9 ?_;refine Z 3 0 ?_;refine Rn.call (args:=[.d (.lst 1 (List.map (eI .i64) ov31))]) (r:=.d (.lst 1 (List.map (eI .i64) ov31))) tv rfl (hn41.2) pc9 ?_;refine Z 1 0 ?_;refine Rn.nil ⟨rfl,(by exact Qg0 [] ⟨sq,tv⟩ tv rfl)⟩
   ·refine Tr.weak (wS [5] [] (fun e=>e) (fun l=>l) ke wk) ?_;refine Qbhf hG hM0 5 57 hx37 (fun _=>rfl) rfl rfl rfl ⟨rfl,(Qba7 (fun _=>rfl)),tv⟩ tv (fun c43 hc44 hc45=>?_);refine Z 2 0 ?_;refine Rn.callRow (t:=57) (cs:=Qby (List.map (eI .i64) ov31) ((c43-ov31.length)*1)) (cs':=Qby (List.map (eI .i64) ov32) ((c43-ov31.length)*1)) tv rfl rfl (fun M2 hM2=>hr36 hc45 _ _ _ _ hM2) rfl ?_;refine Z 3 0 ?_;refine Rn.callRow (t:=57) (cs:=Qby (List.map (eI .i64) ov32) ((c43-ov31.length)*1)) (cs':=Qby (List.map (eI .i64) ov38) ((c43-ov38.length)*1)) tv rfl rfl (fun M2 hM2=>Qbgj hr42 hl34 hc44 hM2) rfl ?_;refine Z 1 0 ?_;refine Rn.weak (by show WeakSt Γ _ ⟨look [(4,(l_ ov38)),(57,.tup []),(59,(l_ ov38))],Qm Γ.n0 (bxs []) M,Γ.n0+60⟩;exact Qqn 57 _ rfl Qbim ⟨(fSlT (fun _=>rfl) rfl (Nat.le_trans (Nat.le_trans hl40 (Nat.le_of_eq hl34)) hc44)),sq,(fSlT (fun _=>rfl) rfl (Nat.le_trans (Nat.le_trans hl40 (Nat.le_of_eq hl34)) hc44)),tv⟩ tv rfl) ?_;refine Rn.nil ⟨rfl,(by exact Qg0 [] ⟨sq,tv⟩ tv rfl)⟩
  ·exact Y
theorem Qoi {P:Program} {c:Nat} {Qbd:_}
    (Hcz:Qfu P 101 Qbd) (hcf:Qo P c=some Qj5):Qha P c (Qcm Qbd):=by
 intro s1 r h;refine Qbt hcf rfl fun Γ M hP hnt hM=>?_;subst hP;refine ini ?_;refine Z 8 0 ?_;refine Rn.k (v:=.cref (Qc s1)) tv rfl rfl rfl ?_;refine Z 5 0 ?_;refine ci h rfl (fun h=>Y) (fun h=>?_);refine Z 5 0 ?_;refine Rn.weak (by show WeakSt Γ _ ⟨look [(0,.cref (Qc s1)),(2,.nils 1),(3,.cref (Qc s1)),(4,.cref (Qc s1)),(5,.cref (List.drop 20 (Qc s1))),(6,.cref (List.drop 21 (Qc s1))),(7,(i_ s1.start_.language_)),(8,(b_ (decide (s1.start_.language_<0)))),(9,.cref (Qc s1)),(10,(l_ [0]))],Qm Γ.n0 (bxs []) M,Γ.n0+12⟩;exact Qb9 10 [.int .i64 0] rfl rfl ⟨sq,sq,sq,sq,sq,sq,sq,sq,sq,(fSl rfl rfl),tv⟩ tv rfl) ?_;refine cl (Hcz _ _) h (cq fun _ h=>?_);exact Y
theorem Qoj {P:Program} {c:Nat} {Qi:_}
    (Hcl:Qch P 63 Qi) (hcf:Qo P c=some Qj6):Qfg P c (Q7 Qi):=by
 intro s1 x2 ev3 r h;refine Qbt hcf rfl fun Γ M hP hnt hM=>?_;subst hP;refine ini ?_;refine Z 8 0 ?_;refine Rn.k (v:=.cref (Qc s1)) tv rfl rfl rfl ?_;refine Z 3 0 ?_;refine Rn.k (v:=.cref (Qc s1)) tv rfl rfl rfl ?_;refine Z 7 1 ?_;intro _ h;refine cl (Hcl _ _ _) h (cq fun _ h=>?_);refine Z 2 0 ?_;refine bi h (fun hb8 h=>?_) (fun hb8 h=>Y);refine Z 1 0 ?_;refine Rn.k (v:=.cref (Qc s1)) (gw rfl hb8) rfl rfl rfl ?_;refine Z 5 0 ?_;refine cl (Hcl _ _ _) h (cq fun _ h=>?_);exact Y
theorem Qmt {P:Program} {c:Nat} {Qi:_}
    (Hcl:Qch P 63 Qi) (hcf:Qo P c=some Qiq):Qf4 P c (Qb3 Qi):=by
 intro k1 x2 x5 k3 k6 r h;intro M nb hk4 hk7;refine Qvf hcf rfl M nb fun Γ hP hnt hn0 hM=>?_;subst hP hn0;refine ini ?_;refine Z 7 0 ?_;refine Rn.k (v:=.cref (Qc x2)) tv rfl rfl rfl ?_;refine Z 4 0 ?_;refine cl (Hcl _ _ _) h (cq fun _ h=>?_);exact Y
theorem Qrg {P:Program} {c:Nat} (hcf:Qo P c=some Ql9) (fuel:Nat):Qii P c (Qdl fuel):=by
 intro s1 f2 g3 cp4 r h;intro M nb hc5 ho7 hf6;refine Qvf hcf rfl M nb fun Γ hP hnt hn0 hM=>?_;subst hP hn0;refine ini ?_;refine Z 12 0 ?_;refine lw h [0,1,7] [] (fun x9 e=>(8,(i_ x9))::e) (fun _ l=>l) ke wk (fun _ x9 h=>?_);refine Z 5 0 ?_;refine ci h rfl (fun h=>?_) (fun h=>Y);refine Z 15 1 ?_;intro x12 h;obtain ⟨x15,h14,h⟩:=bnd h;refine Rn.callvM (args:=[(i_ x12)]++cp4) tv rfl (by rw [hc5];rfl) (fun M2 nb2 hn hx=>hf6 _ _ h14 M2 nb2 (by omega) ((Qve hM).trans hx)) rfl pc9 ?_;refine Z 1 0 ?_;exact cd h rfl (fun h=>Y) (fun h=>Y)
theorem Qok {P:Program} {c:Nat} {Qdl:_}
    (Hdj:Qii P 143 Qdl) (hcf:Qo P c=some Qj7):Qhb P c (Qcn Qdl):=by
 intro s1 f2 g3 cp4 r h;intro M nb hc5 ho7 hf6;refine Qvf hcf rfl M nb fun Γ hP hnt hn0 hM=>?_;subst hP hn0;refine ini ?_;refine Z 8 0 ?_;refine cm h (fun _ h12 M2 nb2 hn hx=>Hdj _ _ g3 cp4 _ h12 M2 nb2 hc5 (Qbha ((Qve hM).trans hx) ho7) (fun a9 r10 h11 M3 nb3 hn3 hx3=>hf6 a9 r10 h11 M3 nb3 (by omega) ((Qve hM).trans (hx.trans hx3)))) rfl (cq fun _ h=>?_);exact Y
theorem Qnu {P:Program} {c:Nat} {Qn:_} {Q7:_} {Qcn:_} {Qb3:_}
    (Hdg:Qc5 P 62 Qn)
    (Hct:Qfg P 65 Q7)
    (Hde:Qhb P 106 Qcn)
    (Hcv:Qf4 P 107 Qb3) (hcf:Qo P c=some Qjk) (fuel:Nat):Qgt P c (Qcf Qn Q7 Qcn Qb3 fuel):=by
 intro s1 x2 r h;refine Qbt hcf rfl fun Γ M hP hnt hM=>?_;subst hP;refine ini ?_;refine Z 10 0 ?_;refine Rn.k (v:=.cref (Qc s1)) tv rfl rfl rfl ?_;refine Z 6 0 ?_;refine lo h (fun x3=>⟨look [(2,.ptr (Γ.n0+2) 0),(3,.ptr (Γ.n0+3) 0),(10,(l_ s1.events_)),(11,(i_ (s1.events_.length:Int))),(12,(i_ x3))],Qm Γ.n0 (bxs [(2,.cells ([.cref (Qc s1)])),(3,.cells ((Qfm x2)))]) M,Γ.n0+38⟩) wk (fun _ x3 h=>?_);refine Z 5 0 ?_;refine ci h rfl (fun h=>?_) (fun h=>Y);refine Tr.skip ?_;refine Tr.cutJ (fun (ev21:Int)=>⟨look [(2,.ptr (Γ.n0+2) 0),(3,.ptr (Γ.n0+3) 0),(10,(l_ s1.events_)),(11,(i_ (s1.events_.length:Int))),(12,(i_ x3))],Qm Γ.n0 (bxs [(2,.cells ([.cref (Qc s1)])),(3,.cells ((Qfm x2))),(6,.cells ([(i_ ev21)]))]) M,Γ.n0+38⟩) h (fun J22 h=>?_) (fun z h=>?_)
 ·refine Z 9 1 ?_;intro x6 h;refine cu h (fun x13=>⟨look [(2,.ptr (Γ.n0+2) 0),(3,.ptr (Γ.n0+3) 0),(6,.ptr (Γ.n0+6) 0),(10,(l_ s1.events_)),(11,(i_ (s1.events_.length:Int))),(12,(i_ x3)),(31,(b_ x13))],Qm Γ.n0 (bxs [(2,.cells ([.cref (Qc s1)])),(3,.cells ((Qfm x2))),(6,.cells ([(i_ x6)]))]) M,Γ.n0+38⟩) (fun _ h=>?_) (fun x13 h=>?_)
  ·refine Z 2 0 ?_;refine Rn.k (v:=.cref (Qc s1)) tv rfl rfl rfl ?_;refine Z 4 0 ?_;refine cl (Hdg _ _) h (cq fun _ h=>?_);refine Z 2 0 ?_;refine bs h (fun _ h=>?_) (fun _ h=>Y);refine Z 4 0 ?_;refine cl (Hct _ _ _) h (cq fun _ h=>?_);exact Y
  ·refine cd h rfl (fun h=>?_) (fun h=>?_)
   ·refine Tr.exit ?_;exact ⟨_,h,(by exact Qg0 [] ⟨(kPtr rfl),(kPtr rfl),sq,sq,sq,tv⟩ ⟨bS rfl rfl rfl,bS rfl rfl rfl,bS rfl rfl rfl,tv⟩ rfl)⟩
   ·refine Z 5 0 ?_;refine Rn.k (v:=.clo 107 [.ptr (Γ.n0+2) 0,.ptr (Γ.n0+6) 0]) tv rfl rfl rfl ?_;refine cm h (fun _ h18 M2 nb2 hn hx=>Hde _ _ 107 [.ptr (Γ.n0+2) 0,.ptr (Γ.n0+6) 0] _ h18 M2 nb2 rfl ⟨Qvg (hx _ _ (Qeh rfl)),Qvg (hx _ _ (Qeh rfl)),tv⟩ (fun a15 r16 h17 M3 nb3 hn3 hx3=>Hcv a15 s1 x6 (Γ.n0+2) (Γ.n0+6) r16 h17 M3 nb3 ((hx.trans hx3) _ _ (Qeh rfl)) ((hx.trans hx3) _ _ (Qeh rfl)))) rfl (cq fun _ h=>?_);refine Z 1 0 ?_;refine cd h rfl (fun h=>Y) (fun h=>?_);refine Tr.skip ?_;exact ⟨_,h,(by exact Qg0 [] ⟨(kPtr rfl),(kPtr rfl),sq,sq,sq,tv⟩ ⟨bS rfl rfl rfl,bS rfl rfl rfl,bS rfl rfl rfl,tv⟩ rfl)⟩
 ·obtain ⟨ev21,rfl⟩ : ∃ x,x=z:=⟨_,rfl⟩;exact Y
theorem Q0t {P:Program} {c:Nat} {Q4:_}
    (Hab:Qge P 85 Q4) (hcf:Qo P c=some Qxu) (fuel:Nat):Qrc P c (Qhc Q4 fuel):=by
 intro w1 xv2 r h;refine Qbt hcf rfl fun Γ M hP hnt hM=>?_;subst hP;refine ini ?_;refine Z 8 0 ?_;refine cw h [] [] (fun ov15 e=>(5,(o_ ov15))::e) (fun _ l=>l) ke (fun _ h=>?_) (fun ov15 h=>Y);refine Z 7 0 ?_;refine lw h [1,8,9] [] (fun (ov3,x4) e=>(5,(o_ ov3))::(10,(i_ x4))::e) (fun _ l=>l) ke wk (fun _ ⟨ov3,x4⟩ h=>?_);refine Z 5 0 ?_;refine ci h rfl (fun h=>?_) (fun h=>Y);refine Tr.skip ?_;refine cw h [1,8,9,10] [] (fun ov14 e=>(5,(o_ ov14))::e) (fun _ l=>l) ke (fun _ h=>?_) (fun ov14 h=>Y);refine Z 11 1 ?_;intro _ h;refine cl (Hab _ _) h (cq fun _ h=>?_);refine Z 1 0 ?_;exact cd h rfl (fun h=>Y) (fun h=>Y)
theorem Qp9 {P:Program} {c:Nat} {Qk:_} {Qq:_} {Qi:_}
    (Hdc:Qc4 P 58 Qk)
    (Hcw:Qdk P 59 Qq)
    (Hcl:Qch P 63 Qi) (hcf:Qo P c=some Qlq) (fuel:Nat):Qh3 P c (Qdf Qk Qq Qi fuel):=by
 intro s1 ov2 ev3 r h;refine Qbt hcf rfl fun Γ M hP hnt hM=>?_;subst hP;refine ini ?_;refine Z 6 0 ?_;refine Rn.mkmap tv rfl (fun (x:Qt)=>(.agg (Qbm x):V)) (fun (x:List Int)=>((l_ x):V)) ?_;refine Z 1 0 ?_;refine Rn.mapset (ek:=(fun (x:Qt)=>(.agg (Qbm x):V))) (ev:=(fun (x:List Int)=>((l_ x):V))) (m:=([]:List (Qt×(List Int)))) (k:=(Qt.mk 0 0)) (v:=[]) Qg2 (fun _=>rfl) (fun _=>rfl) tv rfl rfl rfl rfl rfl ?_;refine Z 11 0 ?_;refine Tr.weak (by show WeakSt Γ _ ⟨look ((8,.own 2 (List.map Qeu [(Qt.mk 0 0)]))::[(0,.cref (Qc s1)),(1,(l_ ov2)),(2,(i_ ev3)),(6,.nils 1),(7,.mp (Γ.n0+15)),(15,.mp (Γ.n0+15)),(16,.agg [(i_ 0),(i_ 0)]),(17,.mp (Γ.n0+15)),(18,.agg [(i_ 0),(i_ 0)])] ),Qm Γ.n0 (bxs [(15,.mp (mapE (fun (x:Qt)=>(.agg (Qbm x):V)) (fun (x:List Int)=>((l_ x):V)) 0 (setM ([]:List (Qt×(List Int))) (Qt.mk 0 0) [])) ((setM ([]:List (Qt×(List Int))) (Qt.mk 0 0) [])).length)]) M,Γ.n0+113⟩;exact Qr5 19 8 [.int .i64 0,.int .i64 0] rfl rfl rfl rfl rfl ⟨sq,sq,sq,sq,(kMp rfl),(kMp rfl),sq,(kMp rfl),sq,tv⟩ ⟨⟨rfl,rfl⟩,tv⟩ rfl) ?_;refine lo h (fun (l4,c5)=>⟨look [(0,.cref (Qc s1)),(1,(l_ ov2)),(2,(i_ ev3)),(7,.mp (Γ.n0+15)),(8,.ownT 2 (List.map Qeu l4))],Qm Γ.n0 (bxs [(15,.mp (mapE (fun (x:Qt)=>(.agg (Qbm x):V)) (fun (x:List Int)=>((l_ x):V)) 0 c5) (c5).length)]) M,Γ.n0+113⟩) wk (fun _ ⟨l4,c5⟩ h=>?_);refine Z 7 0 ?_;refine ci h rfl (fun h=>?_) (fun h=>Y);refine Z 12 1 ?_;intro x8 h;refine cu h (fun x13=>⟨look [(0,.cref (Qc s1)),(1,(l_ ov2)),(2,(i_ ev3)),(7,.mp (Γ.n0+15)),(8,.ownT 2 (List.map Qeu l4)),(9,.ptr (Γ.n0+9) 0),(43,(b_ x13))],Qm Γ.n0 (bxs [(9,.cells ((Qbm x8))),(15,.mp (mapE (fun (x:Qt)=>(.agg (Qbm x):V)) (fun (x:List Int)=>((l_ x):V)) 0 c5) (c5).length)]) M,Γ.n0+113⟩) (fun _ h=>?_) (fun x13 h=>?_)
 ·refine Z 7 0 ?_;refine bs h (fun hb10 h=>?_) (fun hb10 h=>Y);refine Z 1 0 ?_;refine Rn.k (v:=.cref (Qc s1)) (gw rfl hb10) rfl rfl rfl ?_;refine Z 5 0 ?_;refine cl (Hcl _ _ _) h (cq fun _ h=>?_);exact Y
 ·refine cd h rfl (fun h=>?_) (fun h=>?_)
  ·refine Z 4 0 ?_;refine Rn.lookup (ek:=(fun (x:Qt)=>(.agg (Qbm x):V))) (ev:=(fun (x:List Int)=>((l_ x):V))) (m:=c5) (k:=x8) Qg2 (fun _=>rfl) (fun _=>rfl) [] rfl tv rfl rfl rfl ?_;exact Y
  ·refine Z 4 0 ?_;refine Rn.k (v:=.cref (Qc s1)) tv rfl rfl rfl ?_;refine Z 6 0 ?_;refine lo h (fun (l15,x16,c17)=>⟨look [(0,.cref (Qc s1)),(1,(l_ ov2)),(2,(i_ ev3)),(7,.mp (Γ.n0+15)),(8,.ownT 2 (List.map Qeu l15)),(9,.ptr (Γ.n0+9) 0),(50,(l_ s1.events_)),(51,(i_ (s1.events_.length:Int))),(52,(i_ x16))],Qm Γ.n0 (bxs [(9,.cells ((Qbm x8))),(15,.mp (mapE (fun (x:Qt)=>(.agg (Qbm x):V)) (fun (x:List Int)=>((l_ x):V)) 0 c17) (c17).length)]) M,Γ.n0+113⟩) wk (fun _ ⟨l15,x16,c17⟩ h=>?_);refine Z 5 0 ?_;refine ci h rfl (fun h=>?_) (fun h=>?_)
   ·refine Tr.skip ?_;refine cu h (fun (l42,c43,z44,z45)=>⟨look [(0,.cref (Qc s1)),(1,(l_ ov2)),(2,(i_ ev3)),(7,.mp (Γ.n0+15)),(8,.ownT 2 (List.map Qeu l42)),(9,.ptr (Γ.n0+9) 0),(50,(l_ s1.events_)),(51,(i_ (s1.events_.length:Int))),(52,(i_ x16))],Qm Γ.n0 (bxs [(9,.cells ((Qbm x8))),(12,.cells ([(i_ z44),(i_ z45)])),(15,.mp (mapE (fun (x:Qt)=>(.agg (Qbm x):V)) (fun (x:List Int)=>((l_ x):V)) 0 c43) (c43).length)]) M,Γ.n0+113⟩) (fun _ h=>?_) (fun ⟨l42,c43,z44,z45⟩ h=>Y);refine Z 10 1 ?_;intro x20 h;refine Rn.k (v:=.cref (Qc s1)) tv rfl rfl rfl ?_;refine Z 5 0 ?_;refine cl (Hcl _ _ _) h (cq fun x23 h=>?_);refine Z 13 0 ?_;refine ci h rfl (fun h=>Y) (fun h=>?_);refine Tr.skip ?_;refine Tr.cutJ (fun (z33:Int)=>⟨look [(0,.cref (Qc s1)),(1,(l_ ov2)),(2,(i_ ev3)),(7,.mp (Γ.n0+15)),(8,.ownT 2 (List.map Qeu l15)),(9,.ptr (Γ.n0+9) 0),(11,(i_ x20)),(12,.ptr (Γ.n0+12) 0),(50,(l_ s1.events_)),(51,(i_ (s1.events_.length:Int))),(52,(i_ x16))],Qm Γ.n0 (bxs [(9,.cells ((Qbm x8))),(12,.cells ([(i_ x23),(i_ z33)])),(15,.mp (mapE (fun (x:Qt)=>(.agg (Qbm x):V)) (fun (x:List Int)=>((l_ x):V)) 0 c17) (c17).length)]) M,Γ.n0+113⟩) h (fun J41 h=>?_) (fun z h=>?_)
    ·refine Z 4 0 ?_;refine cl (Hcw _ _) h (cq fun _ h=>?_);refine Z 1 0 ?_;refine cd h rfl (fun h=>?_) (fun h=>?_)
     ·refine Tr.seq ?_;refine cu h (fun x31=>⟨look [(0,.cref (Qc s1)),(1,(l_ ov2)),(2,(i_ ev3)),(7,.mp (Γ.n0+15)),(8,.ownT 2 (List.map Qeu l15)),(9,.ptr (Γ.n0+9) 0),(11,(i_ x20)),(12,.ptr (Γ.n0+12) 0),(50,(l_ s1.events_)),(51,(i_ (s1.events_.length:Int))),(52,(i_ x16)),(86,(b_ x31))],Qm Γ.n0 (bxs [(9,.cells ((Qbm x8))),(12,.cells ([(i_ x23),(i_ x8.done_)])),(15,.mp (mapE (fun (x:Qt)=>(.agg (Qbm x):V)) (fun (x:List Int)=>((l_ x):V)) 0 c17) (c17).length)]) M,Γ.n0+113⟩) (fun _ h=>?_) (fun x31 h=>?_)
      ·refine Z 7 0 ?_;exact bs h (fun _ h=>Y) (fun _ h=>Y)
      ·refine cd h rfl (fun h=>Y) (fun h=>?_);refine Z 8 0 ?_;exact ⟨_,h,(by exact Qg0 [] ⟨sq,sq,sq,(kMp rfl),sq,(kPtr rfl),sq,(kPtr rfl),sq,sq,sq,tv⟩ ⟨bS rfl rfl rfl,bS rfl rfl rfl,⟨rfl,rfl⟩,tv⟩ rfl)⟩
     ·refine Tr.skip ?_;exact ⟨_,h,(by exact Qg0 [] ⟨sq,sq,sq,(kMp rfl),sq,(kPtr rfl),sq,(kPtr rfl),sq,sq,sq,tv⟩ ⟨bS rfl rfl rfl,bS rfl rfl rfl,⟨rfl,rfl⟩,tv⟩ rfl)⟩
    ·obtain ⟨z33,rfl⟩ : ∃ x,x=z:=⟨_,rfl⟩;refine Z 4 0 ?_;refine Rn.lookupC (ek:=(fun (x:Qt)=>(.agg (Qbm x):V))) (ev:=(fun (x:List Int)=>((l_ x):V))) (m:=c17) (k:=(Qt.mk x23 z33)) Qg2 (fun _=>rfl) (fun _=>rfl) [] rfl tv rfl rfl rfl ?_;refine Z 11 0 ?_;refine Tr.cond rfl (fun hb34=>?_) (fun hb34=>?_)
     ·have hb34:=nT' hb34;replace h:=bF hb34 h;refine Z 6 0 ?_;refine Rn.lookup (ek:=(fun (x:Qt)=>(.agg (Qbm x):V))) (ev:=(fun (x:List Int)=>((l_ x):V))) (m:=c17) (k:=x8) Qg2 (fun _=>rfl) (fun _=>rfl) [] rfl tv rfl rfl rfl ?_;refine cl (Hdc _) h (cq fun _ h=>?_);refine Z 3 1 ?_;intro x37 h;refine Rn.mapset (ek:=(fun (x:Qt)=>(.agg (Qbm x):V))) (ev:=(fun (x:List Int)=>((l_ x):V))) (m:=c17) (k:=(Qt.mk x23 z33)) (v:=x37) Qg2 (fun _=>rfl) (fun _=>rfl) tv rfl rfl rfl rfl rfl ?_;refine Z 5 0 ?_;obtain ⟨x39,h40,h⟩:=bnd h;refine Rn.appT (e:=Qeu) tv rfl rfl rfl (Q3i rfl rfl rfl) h40 rfl ?_;exact Y
     ·have hb34:=nF' hb34;replace h:=bT hb34 h;exact Y
   ·refine Z 3 0 ?_;obtain ⟨x46,h47,h⟩:=bnd h;refine Rn.slcT (e:=Qeu) tv (.inr rfl) rfl h47 ?_;exact Y
theorem Qrh {P:Program} {c:Nat} {Qi:_}
    (Hcl:Qch P 63 Qi) (hcf:Qo P c=some Qma):Qe8 P c (Qw Qi):=by
 intro s1 x2 ev3 r h;refine Qbt hcf rfl fun Γ M hP hnt hM=>?_;subst hP;refine ini ?_;refine Z 9 0 ?_;refine Rn.k (v:=.cref (Qc s1)) tv rfl rfl rfl ?_;refine Z 5 0 ?_;refine cl (Hcl _ _ _) h (cq fun _ h=>?_);refine Z 6 0 ?_;refine Rn.k (v:=.cref (Qc s1)) tv rfl rfl rfl ?_;refine Z 5 0 ?_;refine cl (Hcl _ _ _) h (cq fun _ h=>?_);exact Y
theorem Qol {P:Program} {c:Nat} {Qn:_} {Qi:_} {Qbd:_}
    (Hdg:Qc5 P 62 Qn)
    (Hcl:Qch P 63 Qi)
    (Hcz:Qfu P 101 Qbd) (hcf:Qo P c=some Qj8) (fuel:Nat):Qhd P c (Qco Qn Qi Qbd fuel):=by
 intro s1 l2 ev3 r h;refine Qbt hcf rfl fun Γ M hP hnt hM=>?_;subst hP;refine ini ?_;refine Z 8 0 ?_;refine cw h [0] [] (fun ov20 e=>(7,(o_ ov20))::e) (fun _ l=>l) ke (fun _ h=>?_) (fun ov20 h=>?_)
 ·refine Z 7 0 ?_;refine lw h [0,2,11,12] [] (fun (ov4,x5) e=>(7,(o_ ov4))::(13,(i_ x5))::e) (fun _ l=>l) ke wk (fun _ ⟨ov4,x5⟩ h=>?_);refine Z 5 0 ?_;refine ci h rfl (fun h=>?_) (fun h=>Y);refine Tr.skip ?_;refine cw h [0,2,11,12,13] [] (fun ov19 e=>(7,(o_ ov19))::e) (fun _ l=>l) ke (fun _ h=>?_) (fun ov19 h=>Y);refine Z 10 1 ?_;intro _ h;refine Rn.k (v:=.cref (Qc s1)) tv rfl rfl rfl ?_;refine Z 4 0 ?_;refine cl (Hcl _ _ _) h (cq fun _ h=>?_);refine Z 2 0 ?_;refine cw h [0,2,7,10,11,12,13] [] (fun x15 e=>(31,(b_ x15))::e) (fun _ l=>l) ke (fun _ h=>?_) (fun x15 h=>?_)
  ·refine Z 4 0 ?_;refine bi h (fun _ h=>?_) (fun _ h=>Y);refine Z 2 0 ?_;refine cl (Hdg _ _) h (cq fun _ h=>?_);exact Y
  ·exact cd h rfl (fun h=>Y) (fun h=>Y)
 ·refine Z 4 0 ?_;refine cl (Hcz _ _) h (cq fun _ h=>?_);exact Y
theorem Qye {P:Program} {c:Nat} {Qb6:_} {Qcm:_} {f_relative_key:_} {Qcf:_} {Qdf:_} {Qhc:_} {Qw:_} {Qk:_} {Qq:_} {Qco:_}
    (Hci:Qjf P 51 Qb6)
    (Hcn:Qha P 52 Qcm)
    (Hch:K_relative_key P 53 f_relative_key)
    (Hcu:Qgt P 54 Qcf)
    (Hco:Qh3 P 55 Qdf)
    (Hdp:Qrc P 56 Qhc)
    (Hcp:Qe8 P 57 Qw)
    (Hdc:Qc4 P 58 Qk)
    (Hcw:Qdk P 59 Qq)
    (Hcq:Qhd P 60 Qco) (hcf:Qo P c=some Quc) (fuel:Nat):Qnt P c (Qe7 Qb6 Qcm f_relative_key Qcf Qdf Qhc Qw Qk Qq Qco fuel):=by
 intro p1 r h;refine Qbt hcf rfl fun Γ M hP hnt hM=>?_;subst hP;refine ini ?_;refine Z 10 0 ?_;obtain ⟨⟨r2,ok3,r6,r7⟩,h4,h⟩:=bnd h;refine bs h (fun hb5 h=>?_) (fun hb5 h=>?_)
 ·refine Rn.call (args:=[(Qu p1)]) tv rfl (crT hb5 (Hci _ _ h4)) pc9 ?_;refine Z 15 0 ?_;refine cd h rfl (fun h=>Y) (fun h=>?_);refine Z 5 0 ?_;refine Rn.k (v:=.cref (Qc r2)) tv rfl rfl rfl ?_;refine Z 3 0 ?_;refine cd h rfl (fun h=>Y) (fun h=>?_);refine Z 4 0 ?_;refine Rn.k (v:=.cref (Qc r2)) tv rfl rfl rfl ?_;refine Z 3 0 ?_;refine cl (Hcn _) h (cq fun x11 h=>?_);refine Rn.buildT (v:=.agg [(i_ r2.start_.ambient_),(i_ r2.start_.language_),(l_ x11),.nils 1]) tv rfl ?_;refine Z 5 0 ?_;refine Rn.mkmap tv rfl (fun (x:ByteArray)=>(.d (.str x):V)) (fun (x:Bool)=>((b_ x):V)) ?_;refine Z 1 0 ?_;refine Rn.k (v:=.ptr (Γ.n0+40) 0) tv rfl rfl rfl ?_;refine Z 3 0 ?_;refine Rn.k (v:=.ptr (Γ.n0+40) 0) tv rfl rfl rfl ?_;refine Z 2 0 ?_;refine cl (Hch _ _) h (cq fun x13 h=>?_);refine Rn.mapset (ek:=(fun (x:ByteArray)=>(.d (.str x):V))) (ev:=(fun (x:Bool)=>((b_ x):V))) (m:=([]:List (ByteArray×Bool))) (k:=x13) (v:=true) (fun _ _=>rfl) (fun _=>rfl) (fun _=>rfl) tv rfl rfl rfl rfl rfl ?_;refine Z 9 0 ?_;refine Tr.weak (by show WeakSt Γ _ ⟨look ((7,(Qho ([(Qdo.mk r2.start_ x11 [])])))::[(0,(Qu p1)),(1,.ptr (Γ.n0+1) 0),(2,.ptr (Γ.n0+2) 0),(3,(b_ false)),(4,(i_ r7)),(5,.cref (Qc r2)),(6,.ptr (Γ.n0+6) 0),(8,.mp (Γ.n0+41)),(9,(i_ 0)),(18,.tup [.cref (Qc r2),(Qe r6),(i_ r7)]),(19,(Qu p1)),(20,.tup [.cref (Qc r2),(Qe r6),(i_ r7)]),(21,.cref (Qc r2)),(22,(Qe r6)),(23,(i_ r7)),(24,(i_ r7)),(25,(b_ (r7 != 0))),(28,.cref (Qc r2)),(29,.cref (Qc r2)),(30,.cref (List.drop 19 (Qc r2))),(31,(b_ r2.empty_)),(33,.cref (Qc r2)),(34,.cref (Qc r2)),(35,.cref (List.drop 20 (Qc r2))),(36,(Qbc r2.start_)),(37,.cref (Qc r2)),(38,(l_ x11)),(39,.agg [(i_ r2.start_.ambient_),(i_ r2.start_.language_),(l_ x11),.nils 1]),(41,.mp (Γ.n0+41)),(45,(Qbc r2.start_)),(49,(l_ x11)),(50,.d (.str x13)),(51,.mp (Γ.n0+41))] ),Qm Γ.n0 (bxs [(1,.cells ((Qbf p1))),(2,.cells ([.nils 1,.nils 1,(i_ 0)])),(6,.cells ((Qr r6))),(41,.mp (mapE (fun (x:ByteArray)=>(.d (.str x):V)) (fun (x:Bool)=>((b_ x):V)) 0 (setM ([]:List (ByteArray×Bool)) x13 true)) ((setM ([]:List (ByteArray×Bool)) x13 true)).length)]) M,Γ.n0+138⟩;exact Qr5 40 7 [.int .i64 r2.start_.ambient_,.int .i64 r2.start_.language_,.lst 1 (List.map (eI .i64) x11),.lst 1 []] rfl rfl rfl rfl rfl ⟨sq,(kPtr rfl),(kPtr rfl),sq,sq,sq,(kPtr rfl),(kMp rfl),sq,sq,sq,sq,sq,sq,sq,sq,sq,sq,sq,sq,sq,sq,sq,sq,sq,sq,sq,sq,(kMp rfl),sq,sq,sq,(kMp rfl),tv⟩ ⟨bS rfl rfl rfl,bS rfl rfl rfl,bS rfl rfl rfl,⟨rfl,rfl⟩,tv⟩ rfl) ?_;refine lo h (fun (l14,i15,c16)=>⟨look [(1,.ptr (Γ.n0+1) 0),(2,.ptr (Γ.n0+2) 0),(5,.cref (Qc r2)),(7,(Qho l14)),(8,.mp (Γ.n0+41)),(9,(i_ i15))],Qm Γ.n0 (bxs [(1,.cells ((Qbf p1))),(2,.cells ([.nils 1,.nils 1,(i_ 0)])),(6,.cells ((Qr r6))),(41,.mp (mapE (fun (x:ByteArray)=>(.d (.str x):V)) (fun (x:Bool)=>((b_ x):V)) 0 c16) (c16).length)]) M,Γ.n0+138⟩) wk (fun _ ⟨l14,i15,c16⟩ h=>?_);refine Z 8 0 ?_;refine ci h rfl (fun h=>?_) (fun h=>Y);refine Z 17 1 ?_;intro x19 h;refine cl (Hcu _ _) h (cq fun x22 h=>?_);refine Z 7 0 ?_;refine ci h rfl (fun h=>?_) (fun h=>?_)
  ·refine Z 7 0 ?_;refine cl (Hdp _ _) h (cq fun _ h=>?_);refine Z 1 0 ?_;refine cl (Hco _ _ _) h (cq fun x27 h=>?_);refine Z 3 0 ?_;refine Rn.buildT (v:=.agg [(l_ x27),(l_ x19.word_),(i_ x22)]) tv rfl ?_;exact Y
  ·refine Tr.skip ?_;refine cu h (fun (l58,c59)=>⟨look [(1,.ptr (Γ.n0+1) 0),(2,.ptr (Γ.n0+2) 0),(5,.cref (Qc r2)),(7,(Qho l58)),(8,.mp (Γ.n0+41)),(9,(i_ i15))],Qm Γ.n0 (bxs [(1,.cells ((Qbf p1))),(2,.cells ([.nils 1,.nils 1,(i_ 0)])),(6,.cells ((Qr r6))),(10,.cells ((Qfm x19))),(41,.mp (mapE (fun (x:ByteArray)=>(.d (.str x):V)) (fun (x:Bool)=>((b_ x):V)) 0 c59) (c59).length)]) M,Γ.n0+138⟩) (fun _ h=>?_) (fun ⟨l58,c59⟩ h=>?_)
   ·refine Z 3 0 ?_;refine Rn.k (v:=.cref (Qc r2)) tv rfl rfl rfl ?_;refine Z 6 0 ?_;refine lo h (fun (l28,x29,c30)=>⟨look [(1,.ptr (Γ.n0+1) 0),(2,.ptr (Γ.n0+2) 0),(5,.cref (Qc r2)),(7,(Qho l28)),(8,.mp (Γ.n0+41)),(9,(i_ i15)),(10,.ptr (Γ.n0+10) 0),(82,(l_ r2.events_)),(83,(i_ (r2.events_.length:Int))),(84,(i_ x29))],Qm Γ.n0 (bxs [(1,.cells ((Qbf p1))),(2,.cells ([.nils 1,.nils 1,(i_ 0)])),(6,.cells ((Qr r6))),(10,.cells ((Qfm x19))),(41,.mp (mapE (fun (x:ByteArray)=>(.d (.str x):V)) (fun (x:Bool)=>((b_ x):V)) 0 c30) (c30).length)]) M,Γ.n0+138⟩) wk (fun _ ⟨l28,x29,c30⟩ h=>?_);refine Z 5 0 ?_;refine ci h rfl (fun h=>?_) (fun h=>Y);refine Tr.skip ?_;refine cu h (fun (l54,c55,xv56,xv57)=>⟨look [(1,.ptr (Γ.n0+1) 0),(2,.ptr (Γ.n0+2) 0),(5,.cref (Qc r2)),(7,(Qho l54)),(8,.mp (Γ.n0+41)),(9,(i_ i15)),(10,.ptr (Γ.n0+10) 0),(82,(l_ r2.events_)),(83,(i_ (r2.events_.length:Int))),(84,(i_ x29))],Qm Γ.n0 (bxs [(1,.cells ((Qbf p1))),(2,.cells ([.nils 1,.nils 1,(i_ 0)])),(6,.cells ((Qr r6))),(10,.cells ((Qfm x19))),(14,.cells ([(i_ xv56),(i_ xv57)])),(41,.mp (mapE (fun (x:ByteArray)=>(.d (.str x):V)) (fun (x:Bool)=>((b_ x):V)) 0 c55) (c55).length)]) M,Γ.n0+138⟩) (fun _ h=>?_) (fun ⟨l54,c55,xv56,xv57⟩ h=>Y);refine Z 13 1 ?_;intro x33 h;refine cl (Hcp _ _ _) h (cq fun ⟨r36,_⟩ h=>?_);refine Z 13 0 ?_;refine Tr.cond rfl (fun hb38=>?_) (fun hb38=>?_)
    ·have hb38:=nT' hb38;replace h:=bF hb38 h;exact Y
    ·have hb38:=nF' hb38;replace h:=bT hb38 h;refine Z 8 0 ?_;refine cl (Hdc _) h (cq fun _ h=>?_);refine Z 3 1 ?_;intro x41 h;refine Rn.buildT (v:=.agg [(i_ r36.ambient_),(i_ r36.language_),(l_ x19.states_),(o_ x41)]) tv rfl ?_;refine Z 3 0 ?_;refine cu h (fun y48=>⟨look [(1,.ptr (Γ.n0+1) 0),(2,.ptr (Γ.n0+2) 0),(5,.cref (Qc r2)),(7,(Qho l28)),(8,.mp (Γ.n0+41)),(9,(i_ i15)),(10,.ptr (Γ.n0+10) 0),(16,.ptr (Γ.n0+16) 0),(82,(l_ r2.events_)),(83,(i_ (r2.events_.length:Int))),(84,(i_ x29))],Qm Γ.n0 (bxs [(1,.cells ((Qbf p1))),(2,.cells ([.nils 1,.nils 1,(i_ 0)])),(6,.cells ((Qr r6))),(10,.cells ((Qfm x19))),(14,.cells ((Qbb r36))),(16,.cells ([(i_ r36.ambient_),(i_ r36.language_),(l_ y48),(o_ x41)])),(41,.mp (mapE (fun (x:ByteArray)=>(.d (.str x):V)) (fun (x:Bool)=>((b_ x):V)) 0 c30) (c30).length),(105,.cells ([(i_ x33)]))]) M,Γ.n0+138⟩) (fun _ h=>?_) (fun y48 h=>?_)
     ·refine Z 4 0 ?_;refine cl (Hcw _ _) h (cq fun _ h=>?_);refine Z 1 0 ?_;refine cd h rfl (fun h=>?_) (fun h=>Y);refine Z 5 0 ?_;refine cl (Hcq _ _ _) h (cq fun _ h=>?_);exact Y
     ·refine Z 6 0 ?_;refine cl (Hch _ _) h (cq fun x50 h=>?_);refine Z 6 0 ?_;refine Rn.lookup (ek:=(fun (x:ByteArray)=>(.d (.str x):V))) (ev:=(fun (x:Bool)=>((b_ x):V))) (m:=c30) (k:=x50) (fun _ _=>rfl) (fun _=>rfl) (fun _=>rfl) false rfl tv rfl rfl rfl ?_;refine Z 2 0 ?_;refine Tr.cond rfl (fun hb51=>?_) (fun hb51=>?_)
      ·have hb51:=nT' hb51;replace h:=bF hb51 h;refine Z 4 0 ?_;refine Rn.mapset (ek:=(fun (x:ByteArray)=>(.d (.str x):V))) (ev:=(fun (x:Bool)=>((b_ x):V))) (m:=c30) (k:=x50) (v:=true) (fun _ _=>rfl) (fun _=>rfl) (fun _=>rfl) tv rfl rfl rfl rfl rfl ?_;exact Y
      ·have hb51:=nF' hb51;replace h:=bT hb51 h;exact Y
   ·refine Z 6 0 ?_;exact ci h rfl (fun h=>Y) (fun h=>Y)
 ·refine Rn.call (args:=[(Qu p1)]) tv rfl (crF hb5 (Hci _ _ h4)) pc9 ?_;refine Z 15 0 ?_;refine cd h rfl (fun h=>Y) (fun h=>?_);refine Z 5 0 ?_;cases h
theorem Qnv {P:Program} {c:Nat} (hcf:Qo P c=some Qjl):Qgu P c (Qb0):=by
 intro x1 x2 x7 k3 k5 k8 r h;intro M nb hk4 hk6 hk9 hv10 hv11 hv12;refine Qbjz hcf rfl M _ nb (fun hM=>Qber hM ⟨(ltB hM hk6),(ltB hM hk9),tv⟩) fun Γ hP hnt hn0 hM=>?_;subst hP hn0;refine ini ?_;refine Tr.puts [(k5,.mp (mapE (fun (x:Qd)=>(.agg (Qbb x):V)) (fun (x:Bool)=>((b_ x):V)) 0 x2) (x2).length),(k8,.cells ([(Qbs x7)]))] ⟨hk6,hk9,tv⟩ ?_;refine Z 6 0 ?_;refine Rn.load (v:=.mp k5) tv rfl (Q3h (ltB hM hk4) (pgS hv10.symm (pgS hv12.symm hk4))) rfl rfl ?_;refine Z 1 0 ?_;refine Rn.lookupB (ek:=(fun (x:Qd)=>(.agg (Qbb x):V))) (ev:=(fun (x:Bool)=>((b_ x):V))) (m:=x2) (k:=x1) Qpa (fun _=>rfl) (fun _=>rfl) false rfl tv rfl rfl (Q3h (ltB hM hk6) pg0) ?_;refine Z 2 0 ?_;refine Tr.cond rfl (fun hb13=>?_) (fun hb13=>?_)
 ·have hb13:=nT' hb13;replace h:=bF hb13 h;refine Z 2 0 ?_;refine Rn.load (v:=.mp k5) tv rfl (Q3h (ltB hM hk4) (pgS hv10.symm (pgS hv12.symm hk4))) rfl rfl ?_;refine Z 1 0 ?_;refine Rn.mapsetB (ek:=(fun (x:Qd)=>(.agg (Qbb x):V))) (ev:=(fun (x:Bool)=>((b_ x):V))) (m:=x2) (k:=x1) (v:=true) Qpa (fun _=>rfl) tv rfl rfl rfl rfl (ltB hM hk6) pg0 ps0 ?_;refine Z 2 0 ?_;refine Rn.loadTB (cs':=[(Q0 x7)]) tv rfl (ltB hM hk9) (pgS hv11.symm pg0) rfl rfl (psS hv11.symm ps0) ?_;refine Z 3 1 ?_;intro x14 h;refine Rn.storeOB (cs':=[(Qbs x14)]) tv rfl rfl (ltB hM hk9) (pgS hv11.symm pg0) rfl rfl (psS hv11.symm ps0) ?_;exact Y
 ·have hb13:=nF' hb13;replace h:=bT hb13 h;exact Y
theorem Qv1 {P:Program} {c:Nat} (hcf:Qo P c=some Qqy):Qqx P c (Qqz):=by
 intro a1 b2 r h;refine Qbt hcf rfl fun Γ M hP hnt hM=>?_;subst hP;refine ini ?_;refine Z 15 0 ?_;exact cd h rfl (fun h=>Y) (fun h=>Y)
theorem Qps {P:Program} {c:Nat} {Qw:_} {Qq:_} {Qb0:_} {f_slices_SortFunc_place:_}
    (Hcp:Qe8 P 57 Qw)
    (Hcw:Qdk P 59 Qq)
    (Hcy:Qgu P 144 Qb0)
    (Hdm:RowK P 145 Qbn 2 [.clo 146 []] f_slices_SortFunc_place) (hcf:Qo P c=some Qk4) (fuel:Nat):Qfv P c (Qbe Qw Qq Qb0 f_slices_SortFunc_place fuel):=by
 intro s1 l2 r h;refine Qbel hcf (args':=[.cref (Qc s1),.f (.lst 2 (List.map Qbn l2))]) rfl rfl rfl rfl rfl rfl fun Γ M hP hnt hG hM0 hM=>?_;subst hP;refine ini ?_;refine Z 6 0 ?_;refine Rn.mkmap tv rfl (fun (x:Qd)=>(.agg (Qbb x):V)) (fun (x:Bool)=>((b_ x):V)) ?_;refine Z 9 0 ?_;refine Rn.k (v:=.clo 144 [.ptr (Γ.n0+5) 0,.ptr (Γ.n0+6) 0]) tv rfl rfl rfl ?_;refine Z 2 0 ?_;refine cu h (fun (ov13,c14)=>⟨look [(0,.cref (Qc s1)),(6,.ptr (Γ.n0+6) 0),(7,.clo 144 [.ptr (Γ.n0+5) 0,.ptr (Γ.n0+6) 0])],Qm Γ.n0 (bxs [(5,.cells ([.mp (Γ.n0+15)])),(6,.cells ([(Qbs ov13)])),(15,.mp (mapE (fun (x:Qd)=>(.agg (Qbb x):V)) (fun (x:Bool)=>((b_ x):V)) 0 c14) (c14).length)]) M,Γ.n0+66⟩) (fun _ h=>?_) (fun ⟨ov13,c14⟩ h=>?_)
 ·refine Z 3 0 ?_;refine Rn.weak (wS [0,1,4,5,6,7,15,16] [5,6,15] (fun e=>(17,(Q0 l2))::e) (fun l=>l) ke wk) ?_;refine Z 4 0 ?_;refine lo h (fun (x3,ov4,c5)=>⟨look [(0,.cref (Qc s1)),(6,.ptr (Γ.n0+6) 0),(7,.clo 144 [.ptr (Γ.n0+5) 0,.ptr (Γ.n0+6) 0]),(17,(Q0 l2)),(18,(i_ (l2.length:Int))),(19,(i_ x3))],Qm Γ.n0 (bxs [(5,.cells ([.mp (Γ.n0+15)])),(6,.cells ([(Qbs ov4)])),(15,.mp (mapE (fun (x:Qd)=>(.agg (Qbb x):V)) (fun (x:Bool)=>((b_ x):V)) 0 c5) (c5).length)]) M,Γ.n0+66⟩) wk (fun _ ⟨x3,ov4,c5⟩ h=>?_);refine Z 5 0 ?_;refine ci h rfl (fun h=>?_) (fun h=>Y);refine Z 13 1 ?_;intro x8 h;obtain ⟨⟨c10,c11⟩,h12,h⟩:=bnd h;refine Rn.callvW (args:=([(Qbc x8)]++[.ptr (Γ.n0+5) 0,.ptr (Γ.n0+6) 0])) (B:=[((Γ.n0+15),.mp (mapE (fun (x:Qd)=>(.agg (Qbb x):V)) (fun (x:Bool)=>((b_ x):V)) 0 c10) (c10).length),((Γ.n0+6),.cells ([(Qbs c11)]))]) tv rfl rfl (Hcy _ _ _ (Γ.n0+5) (Γ.n0+15) (Γ.n0+6) _ h12 _ _ (Qeh rfl) (Qeh rfl) (Qeh rfl) (Qbcg rfl) (Qbcg rfl) (Qbcg rfl)) ⟨(.inl (Nat.le_add_right _ _)),tv⟩ (Qbgk (Qbgk cw0)) rfl ?_;exact Y
 ·refine cu h (fun (ov46,c47)=>⟨look [(6,.ptr (Γ.n0+6) 0)],Qm Γ.n0 (bxs [(5,.cells ([.mp (Γ.n0+15)])),(6,.cells ([(Qbs ov46)])),(15,.mp (mapE (fun (x:Qd)=>(.agg (Qbb x):V)) (fun (x:Bool)=>((b_ x):V)) 0 c47) (c47).length)]) M,Γ.n0+66⟩) (fun _ h=>?_) (fun ⟨ov46,c47⟩ h=>?_)
  ·refine Z 5 0 ?_;refine lo h (fun (i15,ov16,c17)=>⟨look [(0,.cref (Qc s1)),(6,.ptr (Γ.n0+6) 0),(7,.clo 144 [.ptr (Γ.n0+5) 0,.ptr (Γ.n0+6) 0]),(10,(i_ i15))],Qm Γ.n0 (bxs [(5,.cells ([.mp (Γ.n0+15)])),(6,.cells ([(Qbs ov16)])),(15,.mp (mapE (fun (x:Qd)=>(.agg (Qbb x):V)) (fun (x:Bool)=>((b_ x):V)) 0 c17) (c17).length)]) M,Γ.n0+66⟩) wk (fun _ ⟨i15,ov16,c17⟩ h=>?_);refine Z 8 0 ?_;refine ci h rfl (fun h=>?_) (fun h=>Y);refine Tr.skip ?_;refine cu h (fun (ov44,c45)=>⟨look [(0,.cref (Qc s1)),(6,.ptr (Γ.n0+6) 0),(7,.clo 144 [.ptr (Γ.n0+5) 0,.ptr (Γ.n0+6) 0]),(10,(i_ i15))],Qm Γ.n0 (bxs [(5,.cells ([.mp (Γ.n0+15)])),(6,.cells ([(Qbs ov44)])),(15,.mp (mapE (fun (x:Qd)=>(.agg (Qbb x):V)) (fun (x:Bool)=>((b_ x):V)) 0 c45) (c45).length)]) M,Γ.n0+66⟩) (fun _ h=>?_) (fun ⟨ov44,c45⟩ h=>Y);refine Z 4 0 ?_;refine Rn.k (v:=.cref (Qc s1)) tv rfl rfl rfl ?_;refine Z 6 0 ?_;refine lo h (fun (x20,ov21,c22)=>⟨look [(0,.cref (Qc s1)),(6,.ptr (Γ.n0+6) 0),(7,.clo 144 [.ptr (Γ.n0+5) 0,.ptr (Γ.n0+6) 0]),(10,(i_ i15)),(36,(l_ s1.events_)),(37,(i_ (s1.events_.length:Int))),(38,(i_ x20))],Qm Γ.n0 (bxs [(5,.cells ([.mp (Γ.n0+15)])),(6,.cells ([(Qbs ov21)])),(15,.mp (mapE (fun (x:Qd)=>(.agg (Qbb x):V)) (fun (x:Bool)=>((b_ x):V)) 0 c22) (c22).length)]) M,Γ.n0+66⟩) wk (fun _ ⟨x20,ov21,c22⟩ h=>?_);refine Z 5 0 ?_;refine ci h rfl (fun h=>?_) (fun h=>Y);refine Tr.skip ?_;refine cu h (fun (ov40,c41,y42,y43)=>⟨look [(0,.cref (Qc s1)),(6,.ptr (Γ.n0+6) 0),(7,.clo 144 [.ptr (Γ.n0+5) 0,.ptr (Γ.n0+6) 0]),(10,(i_ i15)),(36,(l_ s1.events_)),(37,(i_ (s1.events_.length:Int))),(38,(i_ x20))],Qm Γ.n0 (bxs [(5,.cells ([.mp (Γ.n0+15)])),(6,.cells ([(Qbs ov40)])),(13,.cells ([(i_ y42),(i_ y43)])),(15,.mp (mapE (fun (x:Qd)=>(.agg (Qbb x):V)) (fun (x:Bool)=>((b_ x):V)) 0 c41) (c41).length)]) M,Γ.n0+66⟩) (fun _ h=>?_) (fun ⟨ov40,c41,y42,y43⟩ h=>Y);refine Z 15 1 ?_;intro _ _ h;refine cl (Hcp _ _ _) h (cq fun ⟨r30,_⟩ h=>?_);refine Z 7 0 ?_;refine cu h (fun x35=>⟨look [(0,.cref (Qc s1)),(6,.ptr (Γ.n0+6) 0),(7,.clo 144 [.ptr (Γ.n0+5) 0,.ptr (Γ.n0+6) 0]),(10,(i_ i15)),(13,.ptr (Γ.n0+13) 0),(36,(l_ s1.events_)),(37,(i_ (s1.events_.length:Int))),(38,(i_ x20)),(58,(b_ x35))],Qm Γ.n0 (bxs [(5,.cells ([.mp (Γ.n0+15)])),(6,.cells ([(Qbs ov21)])),(13,.cells ((Qbb r30))),(15,.mp (mapE (fun (x:Qd)=>(.agg (Qbb x):V)) (fun (x:Bool)=>((b_ x):V)) 0 c22) (c22).length)]) M,Γ.n0+66⟩) (fun _ h=>?_) (fun x35 h=>?_)
   ·refine Z 3 0 ?_;refine bs h (fun _ h=>?_) (fun _ h=>Y);refine Z 2 0 ?_;refine cl (Hcw _ _) h (cq fun _ h=>?_);exact Y
   ·refine cd h rfl (fun h=>?_) (fun h=>Y);refine Z 3 0 ?_;obtain ⟨⟨c37,c38⟩,h39,h⟩:=bnd h;refine Rn.callvW (args:=([(Qbc r30)]++[.ptr (Γ.n0+5) 0,.ptr (Γ.n0+6) 0])) (B:=[((Γ.n0+15),.mp (mapE (fun (x:Qd)=>(.agg (Qbb x):V)) (fun (x:Bool)=>((b_ x):V)) 0 c37) (c37).length),((Γ.n0+6),.cells ([(Qbs c38)]))]) tv rfl rfl (Hcy _ _ _ (Γ.n0+5) (Γ.n0+15) (Γ.n0+6) _ h39 _ _ (Qeh rfl) (Qeh rfl) (Qeh rfl) (Qbcg rfl) (Qbcg rfl) (Qbcg rfl)) ⟨(.inl (Nat.le_add_right _ _)),tv⟩ (Qbgk (Qbgk cw0)) rfl ?_;exact Y
  ·obtain ⟨rv48,hs49,h⟩:=bnd h;obtain ⟨hl50,hn51,hr52⟩:=Hdm _ _ hs49;refine Tr.seqW ⟨look [(6,.ptr (Γ.n0+6) 0)],Qm Γ.n0 (bxs [(6,.cells ([(Q0 rv48)]))]) M,Γ.n0+66⟩ ?_ ?_
   ·by_cases hx53:ov46=[]
    ·obtain ⟨hyx,hn51b⟩:=hn51 hx53;replace hyx:=hyx.symm;subst hyx;replace hn51:=And.intro tv hn51b;refine Z 2 0 ?_;refine Rn.call (args:=[(Q0 ov46),.clo 146 []]) tv rfl (hn51.2) pc9 ?_;refine Rn.nil ⟨rfl,(by exact Qg0 [5,15] ⟨(kPtr rfl),tv⟩ ⟨⟨_,rfl,rfl,(.cons (WkV.dem' rfl) .nil)⟩,tv⟩ rfl)⟩
    ·refine Tr.weak (wS [6] [6] (fun e=>e) (fun l=>l) ke wk) ?_;refine Qbjx hG hM0 6 0 64 hx53 (fun _=>rfl) rfl rfl rfl rfl ⟨rfl,tv⟩ ⟨⟨rfl,tv⟩,tv⟩ (fun c54 hc55 hc56=>?_);refine Z 2 0 ?_;refine Rn.callRow (t:=64) (cs:=Qby (List.map Qbn ov46) ((c54-ov46.length)*2)) (cs':=Qby (List.map Qbn rv48) ((c54-ov46.length)*2)) tv rfl rfl (fun M2 hM2=>hr52 hc56 _ _ _ _ hM2) rfl ?_;refine Rn.weak (by show WeakSt Γ _ ⟨look [(6,.ptr (Γ.n0+6) 0),(63,(Q0 rv48)),(64,.tup [])],Qm Γ.n0 (bxs [(6,.cells ([(Q0 rv48)]))]) M,Γ.n0+66⟩;exact Qqn 64 _ rfl Qbim ⟨(fPtr rfl),(fSlT (fun _=>rfl) hl50 hc55),sq,tv⟩ ⟨⟨_,rfl,rfl,(.cons (fSlT (fun _=>rfl) hl50 hc55) .nil)⟩,tv⟩ rfl) ?_;refine Rn.nil ⟨rfl,(by exact Qg0 [] ⟨(kPtr rfl),tv⟩ ⟨bS rfl rfl rfl,tv⟩ rfl)⟩
   ·exact Y
theorem Qri {P:Program} {c:Nat} {f_relative_key:_}
    (Hch:K_relative_key P 53 f_relative_key) (hcf:Qo P c=some Qmb) (fuel:Nat):Qij P c (Qcb f_relative_key fuel):=by
 intro x1 r h;refine Qbt hcf rfl fun Γ M hP hnt hM=>?_;subst hP;refine ini ?_;refine Z 9 0 ?_;refine cw h [1] [1] (fun l10 e=>(3,(o_ l10))::e) (fun _ l=>l) ke (fun _ h=>?_) (fun l10 h=>?_)
 ·refine Z 8 0 ?_;refine lw h [1,7,8] [1] (fun (l2,x3) e=>(3,(o_ l2))::(9,(i_ x3))::e) (fun _ l=>l) ke wk (fun _ ⟨l2,x3⟩ h=>?_);refine Z 5 0 ?_;exact ci h rfl (fun h=>Y) (fun h=>Y)
 ·refine Z 6 0 ?_;refine cl (Hch _ _) h (cq fun _ h=>?_);exact Y
theorem Qpt {P:Program} {c:Nat} {Q7:_}
    (Hct:Qfg P 65 Q7) (hcf:Qo P c=some Qk5):Qhr P c (Qc2 Q7):=by
 intro x1 x2 x5 k3 k6 r h;intro M nb hk4 hk7;refine Qvf hcf rfl M nb fun Γ hP hnt hn0 hM=>?_;subst hP hn0;refine ini ?_;refine Z 10 0 ?_;refine cl (Hct _ _ _) h (cq fun _ h=>?_);exact Y
theorem Qpu {P:Program} {c:Nat} (hcf:Qo P c=some Qk6) (fuel:Nat):Qhs P c (Qc3 fuel):=by
 intro s1 f2 g3 cp4 r h;intro M nb hc5 ho7 hf6;refine Qvf hcf rfl M nb fun Γ hP hnt hn0 hM=>?_;subst hP hn0;refine ini ?_;refine Z 12 0 ?_;refine lw h [0,1,7] [] (fun x9 e=>(8,(i_ x9))::e) (fun _ l=>l) ke wk (fun _ x9 h=>?_);refine Z 5 0 ?_;refine ci h rfl (fun h=>?_) (fun h=>Y);refine Z 15 1 ?_;intro x12 h;obtain ⟨x15,h14,h⟩:=bnd h;refine Rn.callvM (args:=[(Qbc x12)]++cp4) tv rfl (by rw [hc5];rfl) (fun M2 nb2 hn hx=>hf6 _ _ h14 M2 nb2 (by omega) ((Qve hM).trans hx)) rfl pc9 ?_;refine Z 1 0 ?_;exact cd h rfl (fun h=>Y) (fun h=>Y)
theorem Qnl {P:Program} {c:Nat} {Qc3:_}
    (Hdk:Qhs P 147 Qc3) (hcf:Qo P c=some Qi3):Qgf P c (Qca Qc3):=by
 intro s1 f2 g3 cp4 r h;intro M nb hc5 ho7 hf6;refine Qvf hcf rfl M nb fun Γ hP hnt hn0 hM=>?_;subst hP hn0;refine ini ?_;refine Z 8 0 ?_;refine cm h (fun _ h12 M2 nb2 hn hx=>Hdk _ _ g3 cp4 _ h12 M2 nb2 hc5 (Qbha ((Qve hM).trans hx) ho7) (fun a9 r10 h11 M3 nb3 hn3 hx3=>hf6 a9 r10 h11 M3 nb3 (by omega) ((Qve hM).trans (hx.trans hx3)))) rfl (cq fun _ h=>?_);exact Y
theorem Qqa {P:Program} {c:Nat} {Qw:_} {Qbe:_}
    (Hcp:Qe8 P 57 Qw)
    (Hcx:Qfv P 110 Qbe) (hcf:Qo P c=some Qlr) (fuel:Nat):Qh4 P c (Qdg Qw Qbe fuel):=by
 intro s1 l2 ev3 r h;refine Qbt hcf rfl fun Γ M hP hnt hM=>?_;subst hP;refine ini ?_;refine Z 8 0 ?_;refine cw h [0] [] (fun ov21 e=>(7,(Qbs ov21))::e) (fun _ l=>l) ke (fun _ h=>?_) (fun ov21 h=>?_)
 ·refine Z 7 0 ?_;refine lw h [0,2,12,13] [] (fun (ov4,x5) e=>(7,(Qbs ov4))::(14,(i_ x5))::e) (fun _ l=>l) ke wk (fun _ ⟨ov4,x5⟩ h=>?_);refine Z 5 0 ?_;refine ci h rfl (fun h=>?_) (fun h=>Y);refine Tr.skip ?_;refine cw h [0,2,12,13,14] [] (fun (ov16,c17,c18,y19,y20) e=>(7,(Qbs ov16))::e) (fun (ov16,c17,c18,y19,y20) l=>(9,.cells ([(i_ c17),(i_ c18)]))::(10,.cells ([(i_ y19),(i_ y20)]))::l) ke (fun _ h=>?_) (fun ⟨ov16,c17,c18,y19,y20⟩ h=>Y);refine Z 13 1 ?_;intro _ h;refine cl (Hcp _ _ _) h (cq fun ⟨_,_⟩ h=>?_);refine Z 11 0 ?_;exact cd h rfl (fun h=>Y) (fun h=>Y)
 ·refine Z 4 0 ?_;refine cl (Hcx _ _) h (cq fun _ h=>?_);exact Y
theorem Qrj {P:Program} {c:Nat} {Q8:_} {Qk:_} {Qq:_} {Qn:_} {Qi:_} {Qbe:_} {Qcb:_} {Qca:_} {Qc2:_} {Qdg:_}
    (Hat:Qg3 P 45 Q8)
    (Hdc:Qc4 P 58 Qk)
    (Hcw:Qdk P 59 Qq)
    (Hdg:Qc5 P 62 Qn)
    (Hcl:Qch P 63 Qi)
    (Hcx:Qfv P 110 Qbe)
    (Hcj:Qij P 111 Qcb)
    (Hdf:Qgf P 112 Qca)
    (Hcs:Qhr P 113 Qc2)
    (Hcm:Qh4 P 114 Qdg) (hcf:Qo P c=some Qmc) (fuel:Nat):Qik P c (Qdm Q8 Qk Qq Qn Qi Qbe Qcb Qca Qc2 Qdg fuel):=by
 intro s1 r h;refine Qbt hcf rfl fun Γ M hP hnt hM=>?_;subst hP;refine ini ?_;refine Z 9 0 ?_;refine Rn.k (v:=.cref (Qc s1)) tv rfl rfl rfl ?_;refine Z 2 0 ?_;refine cl (Hdc _) h (cq fun x3 h=>?_);refine Rn.buildT (v:=.agg [(o_ x3),(i_ 0),.nils 1,.nils 3]) tv rfl ?_;refine Z 7 0 ?_;refine Rn.k (v:=.cref (Qc s1)) tv rfl rfl rfl ?_;refine Z 5 0 ?_;refine ci h rfl (fun h=>Y) (fun h=>?_);refine Z 5 0 ?_;refine Rn.k (v:=.cref (Qc s1)) tv rfl rfl rfl ?_;refine Z 2 0 ?_;refine Rn.blit (xs:=[(Qbc s1.start_)]) (l:=List.map Qbn [s1.start_]) tv rfl rfl rfl rfl ?_;refine cl (Hcx _ _) h (cq fun x6 h=>?_);refine Rn.buildT (v:=.agg [(i_ 0),(Q0 x6)]) tv rfl ?_;refine Z 5 0 ?_;refine Rn.mkmap tv rfl (fun (x:ByteArray)=>(.d (.str x):V)) (fun (x:Int)=>((i_ x):V)) ?_;refine Z 1 0 ?_;refine Rn.k (v:=.ptr (Γ.n0+35) 0) tv rfl rfl rfl ?_;refine Z 1 0 ?_;refine cl (Hcj _) h (cq fun x8 h=>?_);refine Rn.mapset (ek:=(fun (x:ByteArray)=>(.d (.str x):V))) (ev:=(fun (x:Int)=>((i_ x):V))) (m:=([]:List (ByteArray×Int))) (k:=x8) (v:=0) (fun _ _=>rfl) (fun _=>rfl) (fun _=>rfl) tv rfl rfl rfl rfl rfl ?_;refine Z 9 0 ?_;refine Tr.weak (by show WeakSt Γ _ ⟨look ((5,.own 2 (List.map Qqo [(Qbo.mk 0 x6)]))::[(0,.cref (Qc s1)),(1,.ptr (Γ.n0+1) 0),(2,.ptr (Γ.n0+2) 0),(3,(i_ 0)),(4,.ptr (Γ.n0+4) 0),(6,.mp (Γ.n0+36)),(7,(i_ 0)),(14,.cref (Qc s1)),(15,.cref (Qc s1)),(16,.cref (List.drop 14 (Qc s1))),(17,(l_ s1.events_)),(18,(l_ x3)),(19,.agg [(l_ x3),(i_ 0),.nils 1,.nils 3]),(20,.cref (Qc s1)),(21,.cref (Qc s1)),(22,.cref (List.drop 20 (Qc s1))),(23,.cref (List.drop 21 (Qc s1))),(24,(i_ s1.start_.language_)),(25,(b_ (decide (s1.start_.language_<0)))),(27,.cref (Qc s1)),(28,.cref (Qc s1)),(29,.cref (Qc s1)),(30,.cref (List.drop 20 (Qc s1))),(31,(Qbc s1.start_)),(32,.d (.lst 2 (List.map Qbn [s1.start_]))),(33,(Q0 x6)),(34,.agg [(i_ 0),(Q0 x6)]),(36,.mp (Γ.n0+36)),(39,.agg [(i_ 0),(Q0 x6)]),(40,.d (.str x8)),(41,.mp (Γ.n0+36))] ),Qm Γ.n0 (bxs [(1,.cells ([.cref (Qc s1)])),(2,.cells ([.nils 1,(i_ 0),.nils 1,.nils 3])),(4,.cells ([(o_ x3),(i_ 0),.nils 1,.nils 3])),(36,.mp (mapE (fun (x:ByteArray)=>(.d (.str x):V)) (fun (x:Int)=>((i_ x):V)) 0 (setM ([]:List (ByteArray×Int)) x8 0)) ((setM ([]:List (ByteArray×Int)) x8 0)).length)]) M,Γ.n0+154⟩;exact Qr5 35 5 [.int .i64 0,.lst 2 (List.map Qbn x6)] rfl rfl rfl rfl rfl ⟨sq,(kPtr rfl),(kPtr rfl),sq,(kPtr rfl),(kMp rfl),sq,sq,sq,sq,sq,sq,sq,sq,sq,sq,sq,sq,sq,sq,sq,sq,sq,sq,sq,sq,sq,(kMp rfl),sq,sq,(kMp rfl),tv⟩ ⟨bS rfl rfl rfl,bS rfl rfl rfl,bS rfl rfl rfl,⟨rfl,rfl⟩,tv⟩ rfl) ?_;refine lo h (fun (l9,i10,c11,c12,c13,a14,a15,c16)=>⟨look [(1,.ptr (Γ.n0+1) 0),(2,.ptr (Γ.n0+2) 0),(4,.ptr (Γ.n0+4) 0),(5,(Qd7 l9)),(6,.mp (Γ.n0+36)),(7,(i_ i10))],Qm Γ.n0 (bxs [(1,.cells ([.cref (Qc s1)])),(2,.cells ([(o_ c11),(i_ 0),(o_ c12),(Qp c13)])),(4,.cells ([(o_ x3),(i_ 0),(o_ a14),(Qp a15)])),(36,.mp (mapE (fun (x:ByteArray)=>(.d (.str x):V)) (fun (x:Int)=>((i_ x):V)) 0 c16) (c16).length)]) M,Γ.n0+154⟩) wk (fun _ ⟨l9,i10,c11,c12,c13,a14,a15,c16⟩ h=>?_);refine Z 8 0 ?_;refine ci h rfl (fun h=>?_) (fun h=>?_)
 ·refine Z 13 1 ?_;intro x19 h;refine cu h (fun (l75,a76,c77)=>⟨look [(1,.ptr (Γ.n0+1) 0),(2,.ptr (Γ.n0+2) 0),(4,.ptr (Γ.n0+4) 0),(5,(Qd7 l75)),(6,.mp (Γ.n0+36)),(7,(i_ i10))],Qm Γ.n0 (bxs [(1,.cells ([.cref (Qc s1)])),(2,.cells ([(o_ c11),(i_ 0),(o_ c12),(Qp c13)])),(4,.cells ([(o_ x3),(i_ 0),(o_ x19),(Qp a76)])),(36,.mp (mapE (fun (x:ByteArray)=>(.d (.str x):V)) (fun (x:Int)=>((i_ x):V)) 0 c77) (c77).length),(51,.cells ([(i_ i10)]))]) M,Γ.n0+154⟩) (fun _ h=>?_) (fun ⟨l75,a76,c77⟩ h=>?_)
  ·refine Z 3 0 ?_;refine Rn.k (v:=.cref (Qc s1)) tv rfl rfl rfl ?_;refine Z 6 0 ?_;refine lo h (fun (l21,x22,a23,c24)=>⟨look [(1,.ptr (Γ.n0+1) 0),(2,.ptr (Γ.n0+2) 0),(4,.ptr (Γ.n0+4) 0),(5,(Qd7 l21)),(6,.mp (Γ.n0+36)),(7,(i_ i10)),(57,(l_ s1.events_)),(58,(i_ (s1.events_.length:Int))),(59,(i_ x22))],Qm Γ.n0 (bxs [(1,.cells ([.cref (Qc s1)])),(2,.cells ([(o_ c11),(i_ 0),(o_ c12),(Qp c13)])),(4,.cells ([(o_ x3),(i_ 0),(o_ x19),(Qp a23)])),(36,.mp (mapE (fun (x:ByteArray)=>(.d (.str x):V)) (fun (x:Int)=>((i_ x):V)) 0 c24) (c24).length),(51,.cells ([(i_ i10)]))]) M,Γ.n0+154⟩) wk (fun _ ⟨l21,x22,a23,c24⟩ h=>?_);refine Z 5 0 ?_;refine ci h rfl (fun h=>?_) (fun h=>Y);refine Tr.skip ?_;refine cu h (fun (l69,a70,c71,ev72,y73,y74)=>⟨look [(1,.ptr (Γ.n0+1) 0),(2,.ptr (Γ.n0+2) 0),(4,.ptr (Γ.n0+4) 0),(5,(Qd7 l69)),(6,.mp (Γ.n0+36)),(7,(i_ i10)),(57,(l_ s1.events_)),(58,(i_ (s1.events_.length:Int))),(59,(i_ x22))],Qm Γ.n0 (bxs [(1,.cells ([.cref (Qc s1)])),(2,.cells ([(o_ c11),(i_ 0),(o_ c12),(Qp c13)])),(4,.cells ([(o_ x3),(i_ 0),(o_ x19),(Qp a70)])),(9,.cells ([(i_ ev72)])),(10,.cells ([(i_ y73),(Q0 y74)])),(36,.mp (mapE (fun (x:ByteArray)=>(.d (.str x):V)) (fun (x:Int)=>((i_ x):V)) 0 c71) (c71).length),(51,.cells ([(i_ i10)]))]) M,Γ.n0+154⟩) (fun _ h=>?_) (fun ⟨l69,a70,c71,ev72,y73,y74⟩ h=>Y);refine Z 11 1 ?_;intro x27 h;refine Rn.k (v:=.cref (Qc s1)) tv rfl rfl rfl ?_;refine Z 8 1 ?_;intro _ h;refine cl (Hcl _ _ _) h (cq fun x32 h=>?_);refine Z 5 1 ?_;intro x33 h;refine Rn.buildT (v:=.agg [(i_ x32),(Q0 x33.places_)]) tv rfl ?_;refine Z 3 0 ?_;refine cu h (fun tv45=>⟨look [(1,.ptr (Γ.n0+1) 0),(2,.ptr (Γ.n0+2) 0),(4,.ptr (Γ.n0+4) 0),(5,(Qd7 l21)),(6,.mp (Γ.n0+36)),(7,(i_ i10)),(9,.ptr (Γ.n0+9) 0),(10,.ptr (Γ.n0+10) 0),(11,(b_ tv45)),(57,(l_ s1.events_)),(58,(i_ (s1.events_.length:Int))),(59,(i_ x22))],Qm Γ.n0 (bxs [(1,.cells ([.cref (Qc s1)])),(2,.cells ([(o_ c11),(i_ 0),(o_ c12),(Qp c13)])),(4,.cells ([(o_ x3),(i_ 0),(o_ x19),(Qp a23)])),(9,.cells ([(i_ x27)])),(10,.cells ([(i_ x32),(Q0 x33.places_)])),(36,.mp (mapE (fun (x:ByteArray)=>(.d (.str x):V)) (fun (x:Int)=>((i_ x):V)) 0 c24) (c24).length),(51,.cells ([(i_ i10)]))]) M,Γ.n0+154⟩) (fun _ h=>?_) (fun tv45 h=>?_)
   ·refine Z 2 0 ?_;refine Rn.k (v:=.cref (Qc s1)) tv rfl rfl rfl ?_;refine Z 4 0 ?_;refine cl (Hdg _ _) h (cq fun _ h=>?_);refine Z 1 0 ?_;refine bs h (fun hb37 h=>?_) (fun hb37 h=>Y);refine Z 5 1 ?_;intro _ h;refine Rn.k (v:=.clo 113 [.ptr (Γ.n0+1) 0,.ptr (Γ.n0+9) 0]) (gw rfl hb37) rfl rfl rfl ?_;refine cm h (fun _ h43 M2 nb2 hn hx=>Hdf _ _ 113 [.ptr (Γ.n0+1) 0,.ptr (Γ.n0+9) 0] _ h43 M2 nb2 rfl ⟨Qvg (hx _ _ (Qeh rfl)),Qvg (hx _ _ (Qeh rfl)),tv⟩ (fun a40 r41 h42 M3 nb3 hn3 hx3=>Hcs a40 s1 x27 (Γ.n0+1) (Γ.n0+9) r41 h42 M3 nb3 ((hx.trans hx3) _ _ (Qeh rfl)) ((hx.trans hx3) _ _ (Qeh rfl)))) rfl (cq fun _ h=>?_);exact Y
   ·refine Tr.seq ?_;refine cu h (fun x47=>⟨look [(1,.ptr (Γ.n0+1) 0),(2,.ptr (Γ.n0+2) 0),(4,.ptr (Γ.n0+4) 0),(5,(Qd7 l21)),(6,.mp (Γ.n0+36)),(7,(i_ i10)),(9,.ptr (Γ.n0+9) 0),(10,.ptr (Γ.n0+10) 0),(57,(l_ s1.events_)),(58,(i_ (s1.events_.length:Int))),(59,(i_ x22)),(101,(b_ x47))],Qm Γ.n0 (bxs [(1,.cells ([.cref (Qc s1)])),(2,.cells ([(o_ c11),(i_ 0),(o_ c12),(Qp c13)])),(4,.cells ([(o_ x3),(i_ 0),(o_ x19),(Qp a23)])),(9,.cells ([(i_ x27)])),(10,.cells ([(i_ x32),(Q0 x33.places_)])),(36,.mp (mapE (fun (x:ByteArray)=>(.d (.str x):V)) (fun (x:Int)=>((i_ x):V)) 0 c24) (c24).length),(51,.cells ([(i_ i10)]))]) M,Γ.n0+154⟩) (fun _ h=>?_) (fun x47 h=>?_)
    ·refine Z 5 0 ?_;exact bi h (fun _ h=>Y) (fun _ h=>Y)
    ·refine cd h rfl (fun h=>Y) (fun h=>?_);refine Tr.skip ?_;refine cu h (fun y56=>⟨look [(1,.ptr (Γ.n0+1) 0),(2,.ptr (Γ.n0+2) 0),(4,.ptr (Γ.n0+4) 0),(5,(Qd7 l21)),(6,.mp (Γ.n0+36)),(7,(i_ i10)),(9,.ptr (Γ.n0+9) 0),(10,.ptr (Γ.n0+10) 0),(57,(l_ s1.events_)),(58,(i_ (s1.events_.length:Int))),(59,(i_ x22))],Qm Γ.n0 (bxs [(1,.cells ([.cref (Qc s1)])),(2,.cells ([(o_ c11),(i_ 0),(o_ c12),(Qp c13)])),(4,.cells ([(o_ x3),(i_ 0),(o_ x19),(Qp a23)])),(9,.cells ([(i_ x27)])),(10,.cells ([(i_ x32),(Q0 y56)])),(36,.mp (mapE (fun (x:ByteArray)=>(.d (.str x):V)) (fun (x:Int)=>((i_ x):V)) 0 c24) (c24).length),(51,.cells ([(i_ i10)]))]) M,Γ.n0+154⟩) (fun _ h=>?_) (fun y56 h=>?_)
     ·refine Z 4 0 ?_;refine cl (Hcw _ _) h (cq fun _ h=>?_);refine Z 1 0 ?_;refine cd h rfl (fun h=>?_) (fun h=>Y);refine Z 8 1 ?_;intro _ h;refine cl (Hcm _ _ _) h (cq fun _ h=>?_);exact Y
     ·refine Z 4 0 ?_;refine cl (Hcj _) h (cq fun x58 h=>?_);refine Rn.lookupC (ek:=(fun (x:ByteArray)=>(.d (.str x):V))) (ev:=(fun (x:Int)=>((i_ x):V))) (m:=c24) (k:=x58) (fun _ _=>rfl) (fun _=>rfl) (fun _=>rfl) 0 rfl tv rfl rfl rfl ?_;refine Z 6 0 ?_;refine cu h (fun (l64,to65,c66)=>⟨look [(1,.ptr (Γ.n0+1) 0),(2,.ptr (Γ.n0+2) 0),(4,.ptr (Γ.n0+4) 0),(5,(Qd7 l64)),(6,.mp (Γ.n0+36)),(7,(i_ i10)),(9,.ptr (Γ.n0+9) 0),(12,(i_ to65)),(57,(l_ s1.events_)),(58,(i_ (s1.events_.length:Int))),(59,(i_ x22))],Qm Γ.n0 (bxs [(1,.cells ([.cref (Qc s1)])),(2,.cells ([(o_ c11),(i_ 0),(o_ c12),(Qp c13)])),(4,.cells ([(o_ x3),(i_ 0),(o_ x19),(Qp a23)])),(9,.cells ([(i_ x27)])),(10,.cells ([(i_ x32),(Q0 y56)])),(36,.mp (mapE (fun (x:ByteArray)=>(.d (.str x):V)) (fun (x:Int)=>((i_ x):V)) 0 c66) (c66).length),(51,.cells ([(i_ i10)]))]) M,Γ.n0+154⟩) (fun _ h=>?_) (fun ⟨l64,to65,c66⟩ h=>Y);refine Z 5 0 ?_;refine Tr.cond rfl (fun hb59=>?_) (fun hb59=>?_)
      ·have hb59:=nT' hb59;replace h:=bF hb59 h;refine Z 10 0 ?_;refine cl (Hcj _) h (cq fun x61 h=>?_);refine Z 1 0 ?_;refine Rn.mapset (ek:=(fun (x:ByteArray)=>(.d (.str x):V))) (ev:=(fun (x:Int)=>((i_ x):V))) (m:=c24) (k:=x61) (v:=(l21.length:Int)) (fun _ _=>rfl) (fun _=>rfl) (fun _=>rfl) tv rfl rfl rfl rfl rfl ?_;exact Y
      ·have hb59:=nF' hb59;replace h:=bT hb59 h;exact Y
  ·refine Z 6 0 ?_;exact ci h rfl (fun h=>Y) (fun h=>Y)
 ·refine Z 11 0 ?_;refine cl (Hat _) h (cq fun ⟨_,_⟩ h=>?_);exact Y
theorem Qv2 {P:Program} {c:Nat} (hcf:Qo P c=some Qq0) (fuel:Nat):Qls P c (Qdr fuel):=by
 intro s1 s2 r h;refine Qbt hcf rfl fun Γ M hP hnt hM=>?_;subst hP;refine ini ?_;refine Z 13 0 ?_;refine cd h rfl (fun h=>Y) (fun h=>?_);refine Z 9 0 ?_;refine lw h [0,1,12] [] (fun x4 e=>(13,(i_ x4))::e) (fun _ l=>l) ke wk (fun _ x4 h=>?_);refine Z 5 0 ?_;refine ci h rfl (fun h=>?_) (fun h=>Y);refine Z 20 1 ?_;intro _ _ h;exact cd h rfl (fun h=>Y) (fun h=>Y)
theorem Qun {P:Program} {c:Nat} (hcf:Qo P c=some Qpn) (fuel:Nat):Qkw P c (Qdx fuel):=by
 intro s1 s2 r h;refine Qbt hcf rfl fun Γ M hP hnt hM=>?_;subst hP;refine ini ?_;refine Z 13 0 ?_;refine cd h rfl (fun h=>Y) (fun h=>?_);refine Z 9 0 ?_;refine lw h [0,1,12] [] (fun x4 e=>(13,(i_ x4))::e) (fun _ l=>l) ke wk (fun _ x4 h=>?_);refine Z 5 0 ?_;refine ci h rfl (fun h=>?_) (fun h=>Y);refine Z 18 1 ?_;intro x7 x9 h;refine Rn.eqa (r:=((x7.From==x9.From)&&((x7.Event==x9.Event)&&((x7.To==x9.To)&&true)))) tv rfl rfl rfl ?_;refine Z 1 0 ?_;refine Tr.cond rfl (fun hb11=>?_) (fun hb11=>?_)
 ·have hb11:=nT' hb11;replace h:=bF hb11 h;exact Y
 ·have hb11:=nF' hb11;replace h:=bT hb11 h;exact Y
theorem Qw8 {P:Program} {c:Nat} {Qdr:_} {Qdx:_}
    (Hdi:Qls P 109 Qdr)
    (Hdh:Qkw P 115 Qdx) (hcf:Qo P c=some Qsi):Qms P c (Qfb Qdr Qdx):=by
 intro a1 b2 r h;refine Qbt hcf rfl fun Γ M hP hnt hM=>?_;subst hP;refine ini ?_;refine Z 14 0 ?_;refine bs h (fun _ h=>?_) (fun _ h=>Y);refine Z 4 0 ?_;refine cl (Hdi _ _) h (cq fun _ h=>?_);refine Z 2 0 ?_;refine bs h (fun _ h=>?_) (fun _ h=>Y);refine Z 4 0 ?_;refine cl (Hdi _ _) h (cq fun _ h=>?_);refine Z 2 0 ?_;refine bs h (fun _ h=>?_) (fun _ h=>Y);refine Z 4 0 ?_;refine cl (Hdh _ _) h (cq fun _ h=>?_);exact Y
theorem Quo {P:Program} {c:Nat} {Qb6:_} {Qdm:_} {Qfb:_}
    (Hci:Qjf P 51 Qb6)
    (Hcr:Qik P 66 Qdm)
    (Hak:Qms P 67 Qfb) (hcf:Qo P c=some Qpo) (fuel:Nat):Qkx P c (Qej Qb6 Qdm Qfb fuel):=by
 intro p1 r h;refine Qbt hcf rfl fun Γ M hP hnt hM=>?_;subst hP;refine ini ?_;refine Z 10 0 ?_;obtain ⟨⟨r2,ok3,r6,r7⟩,h4,h⟩:=bnd h;refine bs h (fun hb5 h=>?_) (fun hb5 h=>?_)
 ·refine Rn.call (args:=[(Qu p1)]) tv rfl (crT hb5 (Hci _ _ h4)) pc9 ?_;refine Z 14 0 ?_;refine cd h rfl (fun h=>Y) (fun h=>?_);refine Z 2 0 ?_;refine lw h [1,2] [] (fun (rv9,s10,p11,p12,p13,p14,a15,a16,a17,a18) e=>(3,(i_ rv9))::(5,.cref (Qc s10))::e) (fun (rv9,s10,p11,p12,p13,p14,a15,a16,a17,a18) l=>(1,.cells ([(l_ p1.Plant.zB),(i_ p1.Plant.zF),(l_ p1.Plant.zC),(Qg p1.Plant.zD),(l_ p1.Ambient.zB),(i_ p1.Ambient.zF),(l_ p1.Ambient.zC),(Qg p1.Ambient.zD),(l_ p11),(i_ p12),(l_ p13),(Qg p14),(l_ p1.Observable),(l_ p1.Controllable)]))::(2,.cells ([(l_ a15),(i_ a16),(l_ a17),(Qg a18)]))::l) ke wk (fun _ ⟨rv9,s10,p11,p12,p13,p14,a15,a16,a17,a18⟩ h=>?_);refine Z 4 0 ?_;refine cl (Hcr _) h (cq fun ⟨r21,_⟩ h=>?_);refine Z 13 0 ?_;refine cd h rfl (fun h=>Y) (fun h=>?_);refine Z 6 0 ?_;refine cl (Hak _ _) h (cq fun _ h=>?_);refine Z 1 0 ?_;refine cd h rfl (fun h=>Y) (fun h=>?_);refine Z 13 0 ?_;refine ci h rfl (fun h=>Y) (fun h=>?_);refine Z 10 0 ?_;obtain ⟨⟨r28,ok29,r32,r33⟩,h30,h⟩:=bnd h;refine bs h (fun hb31 h=>?_) (fun hb31 h=>?_)
  ·refine Rn.call (args:=[.agg [(l_ p1.Plant.zB),(i_ p1.Plant.zF),(l_ p1.Plant.zC),(Qg p1.Plant.zD),(l_ p1.Ambient.zB),(i_ p1.Ambient.zF),(l_ p1.Ambient.zC),(Qg p1.Ambient.zD),(l_ r21.zB),(i_ r21.zF),(l_ r21.zC),(Qg r21.zD),(l_ p1.Observable),(l_ p1.Controllable)]]) tv rfl (crT hb31 (Hci _ _ h30)) pc9 ?_;refine Z 13 0 ?_;exact cd h rfl (fun h=>Y) (fun h=>Y)
  ·refine Rn.call (args:=[.agg [(l_ p1.Plant.zB),(i_ p1.Plant.zF),(l_ p1.Plant.zC),(Qg p1.Plant.zD),(l_ p1.Ambient.zB),(i_ p1.Ambient.zF),(l_ p1.Ambient.zC),(Qg p1.Ambient.zD),(l_ r21.zB),(i_ r21.zF),(l_ r21.zC),(Qg r21.zD),(l_ p1.Observable),(l_ p1.Controllable)]]) tv rfl (crF hb31 (Hci _ _ h30)) pc9 ?_;refine Z 13 0 ?_;refine cd h rfl (fun h=>Y) (fun h=>?_);refine Tr.skip ?_;cases h
 ·refine Rn.call (args:=[(Qu p1)]) tv rfl (crF hb5 (Hci _ _ h4)) pc9 ?_;refine Z 14 0 ?_;refine cd h rfl (fun h=>Y) (fun h=>?_);refine Z 2 0 ?_;refine lw h [1,2,5] [1,2] (fun rv37 e=>(3,(i_ rv37))::e) (fun _ l=>l) ke wk (fun _ rv37 h=>?_);refine Z 4 0 ?_;cases h
theorem Qpv {P:Program} {c:Nat} (hcf:Qo P c=some Qk7) (fuel:Nat):Qfw P c (Qy fuel):=by
 intro a1 b2 r h;refine Qbt hcf rfl fun Γ M hP hnt hM=>?_;subst hP;refine ini ?_;refine Z 13 0 ?_;refine cd h rfl (fun h=>Y) (fun h=>?_);refine Z 7 0 ?_;refine lw h [0,1] [] (fun i4 e=>(5,(i_ i4))::e) (fun _ l=>l) ke wk (fun _ i4 h=>?_);refine Z 8 0 ?_;refine ci h rfl (fun h=>?_) (fun h=>Y);refine Z 15 1 ?_;intro _ _ h;exact cd h rfl (fun h=>Y) (fun h=>Y)
theorem Qsn {P:Program} {c:Nat} {Qe7:_} {Qej:_} {Qy:_} {Qd4:_}
    (Hcd:Qnt P 23 Qe7)
    (Hcf:Qkx P 26 Qej)
    (Hbo:Qfw P 28 Qy)
    (Hbg:Qjt P 39 Qd4) (hcf:Qo P c=some Qnh):Qi4 P c (Qdy Qe7 Qej Qy Qd4):=by
 intro  r h;refine Qbt hcf rfl fun Γ M hP hnt hM=>?_;subst hP;refine ini ?_;refine Z 6 0 ?_;refine cl Hbg h (cq fun x2 h=>?_);refine Z 6 0 ?_;obtain ⟨⟨r4,r5,r6⟩,h3,h⟩:=bnd h;refine Rn.call (args:=[.agg [(l_ x2.Plant.zB),(i_ x2.Plant.zF),.nils 1,(Qg x2.Plant.zD),.nils 1,(i_ x2.Ambient.zF),.nils 1,.nils 3,(l_ x2.Requirement.zB),(i_ x2.Requirement.zF),.nils 1,(Qg x2.Requirement.zD),(l_ x2.Observable),(l_ x2.Controllable)]]) tv rfl (fun M2 nb2=>ACalls.weak (args':=[.agg [(l_ x2.Plant.zB),(i_ x2.Plant.zF),(l_ []),(Qg x2.Plant.zD),(l_ []),(i_ x2.Ambient.zF),(l_ []),.d (.lst 3 (List.map Qj [])),(l_ x2.Requirement.zB),(i_ x2.Requirement.zF),(l_ []),(Qg x2.Requirement.zD),(l_ x2.Observable),(l_ x2.Controllable)]]) (Hcd _ _ h3 M2 nb2) (.cons (WkV.agg (cS rfl (cS rfl (.cons (WkV.nilsD _) (cS rfl (.cons (WkV.nilsD _) (cS rfl (.cons (WkV.nilsD _) (.cons (WkV.nilsD _) (cS rfl (cS rfl (.cons (WkV.nilsD _) (cS rfl (cS rfl (cS rfl .nil))))))))))))))) .nil) rfl) pc9 ?_;refine Z 12 0 ?_;obtain ⟨⟨r8,r9,r10⟩,h7,h⟩:=bnd h;refine Rn.call (args:=[.agg [(l_ x2.Plant.zB),(i_ x2.Plant.zF),.nils 1,(Qg x2.Plant.zD),.nils 1,(i_ x2.Ambient.zF),.nils 1,.nils 3,(l_ x2.Requirement.zB),(i_ x2.Requirement.zF),.nils 1,(Qg x2.Requirement.zD),(l_ x2.Observable),(l_ x2.Controllable)]]) tv rfl (fun M2 nb2=>ACalls.weak (args':=[.agg [(l_ x2.Plant.zB),(i_ x2.Plant.zF),(l_ []),(Qg x2.Plant.zD),(l_ []),(i_ x2.Ambient.zF),(l_ []),.d (.lst 3 (List.map Qj [])),(l_ x2.Requirement.zB),(i_ x2.Requirement.zF),(l_ []),(Qg x2.Requirement.zD),(l_ x2.Observable),(l_ x2.Controllable)]]) (Hcf _ _ h7 M2 nb2) (.cons (WkV.agg (cS rfl (cS rfl (.cons (WkV.nilsD _) (cS rfl (.cons (WkV.nilsD _) (cS rfl (.cons (WkV.nilsD _) (.cons (WkV.nilsD _) (cS rfl (cS rfl (.cons (WkV.nilsD _) (cS rfl (cS rfl (cS rfl .nil))))))))))))))) .nil) rfl) pc9 ?_;refine Z 19 0 ?_;refine Rn.weak (by show WeakSt Γ _ ⟨look [(0,(b_ false)),(1,.ptr (Γ.n0+1) 0),(2,.ptr (Γ.n0+2) 0),(3,(b_ r5)),(4,(i_ r6)),(5,.ptr (Γ.n0+5) 0),(6,(i_ r9)),(7,(i_ r10)),(11,.agg [(l_ x2.Plant.zB),(i_ x2.Plant.zF),.nils 1,(Qg x2.Plant.zD),.nils 1,(i_ x2.Ambient.zF),.nils 1,.nils 3,(l_ x2.Requirement.zB),(i_ x2.Requirement.zF),.nils 1,(Qg x2.Requirement.zD),(l_ x2.Observable),(l_ x2.Controllable)]),(12,.tup [(Qbk r4),(b_ r5),(i_ r6)]),(13,.agg [(l_ x2.Plant.zB),(i_ x2.Plant.zF),.nils 1,(Qg x2.Plant.zD),.nils 1,(i_ x2.Ambient.zF),.nils 1,.nils 3,(l_ x2.Requirement.zB),(i_ x2.Requirement.zF),.nils 1,(Qg x2.Requirement.zD),(l_ x2.Observable),(l_ x2.Controllable)]),(14,.tup [(Qbk r4),(b_ r5),(i_ r6)]),(15,(Qbk r4)),(16,(b_ r5)),(17,(i_ r6)),(18,.tup [(Qe r8),(i_ r9),(i_ r10)]),(19,.agg [(l_ x2.Plant.zB),(i_ x2.Plant.zF),.nils 1,(Qg x2.Plant.zD),.nils 1,(i_ x2.Ambient.zF),.nils 1,.nils 3,(l_ x2.Requirement.zB),(i_ x2.Requirement.zF),.nils 1,(Qg x2.Requirement.zD),(l_ x2.Observable),(l_ x2.Controllable)]),(20,.tup [(Qe r8),(i_ r9),(i_ r10)]),(21,(Qe r8)),(22,(i_ r9)),(23,(i_ r10)),(24,(l_ [1])),(25,.ptr (Γ.n0+1) 4),(26,.ptr (Γ.n0+1) 4),(28,.agg [(l_ x2.Plant.zB),(i_ x2.Plant.zF),.nils 1,(Qg x2.Plant.zD),(l_ [1]),(i_ x2.Ambient.zF),.nils 1,.nils 3,(l_ x2.Requirement.zB),(i_ x2.Requirement.zF),.nils 1,(Qg x2.Requirement.zD),(l_ x2.Observable),(l_ x2.Controllable)])],Qm Γ.n0 (bxs [(1,.cells ([(l_ x2.Plant.zB),(i_ x2.Plant.zF),.nils 1,(Qg x2.Plant.zD),(l_ [1]),(i_ x2.Ambient.zF),.nils 1,.nils 3,(l_ x2.Requirement.zB),(i_ x2.Requirement.zF),.nils 1,(Qg x2.Requirement.zD),(l_ x2.Observable),(l_ x2.Controllable)])),(2,.cells ((Qft r4))),(5,.cells ((Qr r8)))]) M,Γ.n0+82⟩;exact Qb9 24 [.int .i64 1] rfl rfl ⟨sq,(fPtr rfl),(fPtr rfl),sq,sq,(fPtr rfl),sq,sq,sq,sq,sq,sq,sq,sq,sq,sq,sq,sq,sq,sq,sq,(fSl rfl rfl),(fPtr rfl),(fPtr rfl),(WkV.agg (cS rfl (cS rfl (cS rfl (cS rfl (.cons (fSl rfl rfl) (cS rfl (cS rfl (cS rfl (cS rfl (cS rfl (cS rfl (cS rfl (cS rfl (cS rfl .nil))))))))))))))),tv⟩ ⟨⟨_,rfl,rfl,(cS rfl (cS rfl (cS rfl (cS rfl (.cons (fSl rfl rfl) (cS rfl (cS rfl (cS rfl (cS rfl (cS rfl (cS rfl (cS rfl (cS rfl (cS rfl .nil))))))))))))))⟩,bS rfl rfl rfl,bS rfl rfl rfl,tv⟩ rfl) ?_;obtain ⟨⟨r12,r13,r14⟩,h11,h⟩:=bnd h;refine Rn.call (args:=[.agg [(l_ x2.Plant.zB),(i_ x2.Plant.zF),.nils 1,(Qg x2.Plant.zD),(l_ [1]),(i_ x2.Ambient.zF),.nils 1,.nils 3,(l_ x2.Requirement.zB),(i_ x2.Requirement.zF),.nils 1,(Qg x2.Requirement.zD),(l_ x2.Observable),(l_ x2.Controllable)]]) tv rfl (fun M2 nb2=>ACalls.weak (args':=[.agg [(l_ x2.Plant.zB),(i_ x2.Plant.zF),(l_ []),(Qg x2.Plant.zD),(l_ [1]),(i_ x2.Ambient.zF),(l_ []),.d (.lst 3 (List.map Qj [])),(l_ x2.Requirement.zB),(i_ x2.Requirement.zF),(l_ []),(Qg x2.Requirement.zD),(l_ x2.Observable),(l_ x2.Controllable)]]) (Hcd _ _ h11 M2 nb2) (.cons (WkV.agg (cS rfl (cS rfl (.cons (WkV.nilsD _) (cS rfl (cS rfl (cS rfl (.cons (WkV.nilsD _) (.cons (WkV.nilsD _) (cS rfl (cS rfl (.cons (WkV.nilsD _) (cS rfl (cS rfl (cS rfl .nil))))))))))))))) .nil) rfl) pc9 ?_;refine Z 9 0 ?_;refine cw h [] [1,2,5,8] (fun x29 e=>(0,(b_ x29))::e) (fun _ l=>l) ke (fun _ h=>?_) (fun x29 h=>Y);refine Z 4 0 ?_;refine bs h (fun _ h=>?_) (fun _ h=>Y);refine Z 4 0 ?_;refine bs h (fun _ h=>Y) (fun _ h=>?_);refine Z 3 0 ?_;refine Rn.weak (by show WeakSt Γ _ ⟨look [(0,(b_ false)),(1,.ptr (Γ.n0+1) 0),(2,.ptr (Γ.n0+2) 0),(3,(b_ r5)),(4,(i_ r6)),(5,.ptr (Γ.n0+5) 0),(6,(i_ r9)),(7,(i_ r10)),(8,.ptr (Γ.n0+8) 0),(9,(b_ r13)),(10,(i_ r14)),(11,.agg [(l_ x2.Plant.zB),(i_ x2.Plant.zF),.nils 1,(Qg x2.Plant.zD),.nils 1,(i_ x2.Ambient.zF),.nils 1,.nils 3,(l_ x2.Requirement.zB),(i_ x2.Requirement.zF),.nils 1,(Qg x2.Requirement.zD),(l_ x2.Observable),(l_ x2.Controllable)]),(12,.tup [(Qbk r4),(b_ r5),(i_ r6)]),(13,.agg [(l_ x2.Plant.zB),(i_ x2.Plant.zF),.nils 1,(Qg x2.Plant.zD),.nils 1,(i_ x2.Ambient.zF),.nils 1,.nils 3,(l_ x2.Requirement.zB),(i_ x2.Requirement.zF),.nils 1,(Qg x2.Requirement.zD),(l_ x2.Observable),(l_ x2.Controllable)]),(14,.tup [(Qbk r4),(b_ r5),(i_ r6)]),(15,(Qbk r4)),(16,(b_ r5)),(17,(i_ r6)),(18,.tup [(Qe r8),(i_ r9),(i_ r10)]),(19,.agg [(l_ x2.Plant.zB),(i_ x2.Plant.zF),.nils 1,(Qg x2.Plant.zD),.nils 1,(i_ x2.Ambient.zF),.nils 1,.nils 3,(l_ x2.Requirement.zB),(i_ x2.Requirement.zF),.nils 1,(Qg x2.Requirement.zD),(l_ x2.Observable),(l_ x2.Controllable)]),(20,.tup [(Qe r8),(i_ r9),(i_ r10)]),(21,(Qe r8)),(22,(i_ r9)),(23,(i_ r10)),(24,(l_ [1])),(25,.ptr (Γ.n0+1) 4),(26,.ptr (Γ.n0+1) 4),(27,.tup [(Qbk r12),(b_ r13),(i_ r14)]),(28,.agg [(l_ x2.Plant.zB),(i_ x2.Plant.zF),.nils 1,(Qg x2.Plant.zD),(l_ [1]),(i_ x2.Ambient.zF),.nils 1,.nils 3,(l_ x2.Requirement.zB),(i_ x2.Requirement.zF),.nils 1,(Qg x2.Requirement.zD),(l_ x2.Observable),(l_ x2.Controllable)]),(29,.tup [(Qbk r12),(b_ r13),(i_ r14)]),(30,(Qbk r12)),(31,(b_ r13)),(32,(i_ r14)),(33,(i_ r6)),(34,(b_ (r6==0))),(35,(b_ (r6==0))),(36,(b_ r5)),(37,(b_ (!r5))),(38,(b_ (!r5))),(39,(b_ (!r5))),(40,.ptr (Γ.n0+2) 0),(41,(l_ r4.Word)),(42,(l_ [0]))],Qm Γ.n0 (bxs [(1,.cells ([(l_ x2.Plant.zB),(i_ x2.Plant.zF),.nils 1,(Qg x2.Plant.zD),(l_ [1]),(i_ x2.Ambient.zF),.nils 1,.nils 3,(l_ x2.Requirement.zB),(i_ x2.Requirement.zF),.nils 1,(Qg x2.Requirement.zD),(l_ x2.Observable),(l_ x2.Controllable)])),(2,.cells ((Qft r4))),(5,.cells ((Qr r8))),(8,.cells ((Qft r12)))]) M,Γ.n0+82⟩;exact Qb9 42 [.int .i64 0] rfl rfl ⟨sq,(fPtr rfl),(fPtr rfl),sq,sq,(fPtr rfl),sq,sq,(fPtr rfl),sq,sq,sq,sq,sq,sq,sq,sq,sq,sq,sq,sq,sq,sq,sq,sq,(fPtr rfl),(fPtr rfl),sq,sq,sq,sq,sq,sq,sq,sq,sq,sq,sq,sq,sq,(fPtr rfl),sq,(fSl rfl rfl),tv⟩ ⟨bS rfl rfl rfl,bS rfl rfl rfl,bS rfl rfl rfl,bS rfl rfl rfl,tv⟩ rfl) ?_;refine cl (Hbo _ _) h (cq fun x18 h=>?_);refine Z 2 0 ?_;refine bs h (fun _ h=>?_) (fun _ h=>Y);refine Z 3 0 ?_;refine Rn.weak (by show WeakSt Γ _ ⟨look [(0,(b_ false)),(1,.ptr (Γ.n0+1) 0),(2,.ptr (Γ.n0+2) 0),(3,(b_ r5)),(4,(i_ r6)),(5,.ptr (Γ.n0+5) 0),(6,(i_ r9)),(7,(i_ r10)),(8,.ptr (Γ.n0+8) 0),(9,(b_ r13)),(10,(i_ r14)),(11,.agg [(l_ x2.Plant.zB),(i_ x2.Plant.zF),.nils 1,(Qg x2.Plant.zD),.nils 1,(i_ x2.Ambient.zF),.nils 1,.nils 3,(l_ x2.Requirement.zB),(i_ x2.Requirement.zF),.nils 1,(Qg x2.Requirement.zD),(l_ x2.Observable),(l_ x2.Controllable)]),(12,.tup [(Qbk r4),(b_ r5),(i_ r6)]),(13,.agg [(l_ x2.Plant.zB),(i_ x2.Plant.zF),.nils 1,(Qg x2.Plant.zD),.nils 1,(i_ x2.Ambient.zF),.nils 1,.nils 3,(l_ x2.Requirement.zB),(i_ x2.Requirement.zF),.nils 1,(Qg x2.Requirement.zD),(l_ x2.Observable),(l_ x2.Controllable)]),(14,.tup [(Qbk r4),(b_ r5),(i_ r6)]),(15,(Qbk r4)),(16,(b_ r5)),(17,(i_ r6)),(18,.tup [(Qe r8),(i_ r9),(i_ r10)]),(19,.agg [(l_ x2.Plant.zB),(i_ x2.Plant.zF),.nils 1,(Qg x2.Plant.zD),.nils 1,(i_ x2.Ambient.zF),.nils 1,.nils 3,(l_ x2.Requirement.zB),(i_ x2.Requirement.zF),.nils 1,(Qg x2.Requirement.zD),(l_ x2.Observable),(l_ x2.Controllable)]),(20,.tup [(Qe r8),(i_ r9),(i_ r10)]),(21,(Qe r8)),(22,(i_ r9)),(23,(i_ r10)),(24,(l_ [1])),(25,.ptr (Γ.n0+1) 4),(26,.ptr (Γ.n0+1) 4),(27,.tup [(Qbk r12),(b_ r13),(i_ r14)]),(28,.agg [(l_ x2.Plant.zB),(i_ x2.Plant.zF),.nils 1,(Qg x2.Plant.zD),(l_ [1]),(i_ x2.Ambient.zF),.nils 1,.nils 3,(l_ x2.Requirement.zB),(i_ x2.Requirement.zF),.nils 1,(Qg x2.Requirement.zD),(l_ x2.Observable),(l_ x2.Controllable)]),(29,.tup [(Qbk r12),(b_ r13),(i_ r14)]),(30,(Qbk r12)),(31,(b_ r13)),(32,(i_ r14)),(33,(i_ r6)),(34,(b_ (r6==0))),(35,(b_ (r6==0))),(36,(b_ r5)),(37,(b_ (!r5))),(38,(b_ (!r5))),(39,(b_ (!r5))),(40,.ptr (Γ.n0+2) 0),(41,(l_ r4.Word)),(42,(l_ [0])),(43,(b_ x18)),(44,(b_ x18)),(45,(b_ x18)),(46,.ptr (Γ.n0+2) 1),(47,(l_ r4.Other)),(48,(l_ [1]))],Qm Γ.n0 (bxs [(1,.cells ([(l_ x2.Plant.zB),(i_ x2.Plant.zF),.nils 1,(Qg x2.Plant.zD),(l_ [1]),(i_ x2.Ambient.zF),.nils 1,.nils 3,(l_ x2.Requirement.zB),(i_ x2.Requirement.zF),.nils 1,(Qg x2.Requirement.zD),(l_ x2.Observable),(l_ x2.Controllable)])),(2,.cells ((Qft r4))),(5,.cells ((Qr r8))),(8,.cells ((Qft r12)))]) M,Γ.n0+82⟩;exact Qb9 48 [.int .i64 1] rfl rfl ⟨sq,(fPtr rfl),(fPtr rfl),sq,sq,(fPtr rfl),sq,sq,(fPtr rfl),sq,sq,sq,sq,sq,sq,sq,sq,sq,sq,sq,sq,sq,sq,sq,sq,(fPtr rfl),(fPtr rfl),sq,sq,sq,sq,sq,sq,sq,sq,sq,sq,sq,sq,sq,(fPtr rfl),sq,sq,sq,sq,sq,(fPtr rfl),sq,(fSl rfl rfl),tv⟩ ⟨bS rfl rfl rfl,bS rfl rfl rfl,bS rfl rfl rfl,bS rfl rfl rfl,tv⟩ rfl) ?_;refine cl (Hbo _ _) h (cq fun _ h=>?_);refine Z 2 0 ?_;refine bs h (fun _ h=>?_) (fun _ h=>Y);refine Z 5 0 ?_;refine bs h (fun _ h=>?_) (fun _ h=>Y);refine Z 4 0 ?_;refine bs h (fun _ h=>?_) (fun _ h=>Y);refine Z 4 0 ?_;refine bs h (fun _ h=>?_) (fun _ h=>Y);refine Z 5 0 ?_;refine bs h (fun _ h=>?_) (fun _ h=>Y);refine Z 6 0 ?_;refine bs h (fun _ h=>?_) (fun _ h=>Y);refine Z 4 0 ?_;exact bs h (fun _ h=>Y) (fun _ h=>Y)
theorem Qnw {P:Program} {c:Nat} (hcf:Qo P c=some Qjm) (fuel:Nat):Qgv P c (Qba fuel):=by
 intro s1 r h;refine Qbt hcf rfl fun Γ M hP hnt hM=>?_;subst hP;refine ini ?_;refine Z 8 0 ?_;refine cw h [] [] (fun ov12 e=>(3,(o_ ov12))::e) (fun _ l=>l) ke (fun _ h=>?_) (fun ov12 h=>Y);refine Z 5 0 ?_;refine lw h [0] [] (fun (ov2,i3) e=>(3,(o_ ov2))::(4,(i_ i3))::e) (fun _ l=>l) ke wk (fun _ ⟨ov2,i3⟩ h=>?_);refine Z 6 0 ?_;refine ci h rfl (fun h=>?_) (fun h=>Y);refine Tr.skip ?_;refine cw h [0,4] [] (fun ov11 e=>(3,(o_ ov11))::e) (fun _ l=>l) ke (fun _ h=>?_) (fun ov11 h=>Y);refine Z 5 0 ?_;obtain ⟨s6,h7,h⟩:=bnd h;refine Rn.bin tv rfl rfl (Qbec h7) ?_;refine Z 3 0 ?_;exact cd h rfl (fun h=>Y) (fun h=>Y)
theorem Qso {P:Program} {c:Nat} (hcf:Qo P c=some Qni):Qg4 P c (Qbg):=by
 intro av1 r h;refine Qbt hcf rfl fun Γ M hP hnt hM=>?_;subst hP;refine ini ?_;refine Z 9 1 ?_;intro x2 h;refine Rn.buildT (v:=.agg [(o_ x2),(i_ 0),.nils 1,.nils 3]) tv rfl ?_;exact Y
theorem Qtm {P:Program} {c:Nat} (hcf:Qo P c=some Qn2) (fuel:Nat):Qhf P c (Qbr fuel):=by
 intro a1 sv2 ev3 r h;refine Qbt hcf rfl fun Γ M hP hnt hM=>?_;subst hP;refine ini ?_;refine Z 11 0 ?_;refine lw h [1,2,3] [3] (fun i4 e=>(7,(i_ i4))::e) (fun _ l=>l) ke wk (fun _ i4 h=>?_);refine Z 9 0 ?_;refine ci h rfl (fun h=>?_) (fun h=>Y);refine Z 3 0 ?_;refine cw h [1,2,3,7] [3] (fun x12 e=>(32,(b_ x12))::e) (fun _ l=>l) ke (fun _ h=>?_) (fun x12 h=>?_)
 ·refine Z 10 1 ?_;intro _ h;exact bs h (fun _ h=>Y) (fun _ h=>Y)
 ·exact cd h rfl (fun h=>Y) (fun h=>Y)
theorem Qup {P:Program} {c:Nat} (hcf:Qo P c=some Qpp) (fuel:Nat):Qh5 P c (Qbw fuel):=by
 intro l1 n2 r h;refine Qbt hcf rfl fun Γ M hP hnt hM=>?_;subst hP;refine ini ?_;refine Z 10 0 ?_;refine lw h [0,1] [] (fun i3 e=>(5,(i_ i3))::e) (fun _ l=>l) ke wk (fun _ i3 h=>?_);refine Z 8 0 ?_;refine ci h rfl (fun h=>?_) (fun h=>Y);refine Z 12 1 ?_;intro _ h;exact cd h rfl (fun h=>Y) (fun h=>Y)
theorem Qsp {P:Program} {c:Nat} {Qbw:_} {Qbr:_}
    (Hbq:Qh5 P 47 Qbw)
    (Hbp:Qhf P 72 Qbr) (hcf:Qo P c=some Qnj) (fuel:Nat):Qi5 P c (Qc7 Qbw Qbr fuel):=by
 intro a1 r h;refine Qbt hcf rfl fun Γ M hP hnt hM=>?_;subst hP;refine ini ?_;refine Z 9 0 ?_;refine cw h [1] [1] (fun ov5 e=>(3,(o_ ov5))::e) (fun _ l=>l) ke (fun _ h=>?_) (fun ov5 h=>?_)
 ·refine Z 6 0 ?_;refine ci h rfl (fun h=>?_) (fun h=>Y);refine Z 3 0 ?_;refine Rn.weak (wS [0,1,2,3,7,8,9,11] [1,11] (fun e=>(10,.own 1 (List.map (eI .i64) []))::e) (fun l=>l) ke wk) ?_;exact Y
 ·refine cw h [] [1] (fun ov29 e=>(3,(o_ ov29))::e) (fun _ l=>l) ke (fun _ h=>?_) (fun ov29 h=>Y);refine Z 5 0 ?_;refine lw h [1] [1] (fun (ov6,i7) e=>(3,(o_ ov6))::(4,(i_ i7))::e) (fun _ l=>l) ke wk (fun _ ⟨ov6,i7⟩ h=>?_);refine Z 8 0 ?_;refine ci h rfl (fun h=>?_) (fun h=>Y);refine Tr.skip ?_;refine cw h [1,4] [1] (fun ov28 e=>(3,(o_ ov28))::e) (fun _ l=>l) ke (fun _ h=>?_) (fun ov28 h=>Y);refine Z 6 0 ?_;refine lw h [1,4] [1] (fun (ov10,k11) e=>(3,(o_ ov10))::(5,(i_ k11))::e) (fun _ l=>l) ke wk (fun _ ⟨ov10,k11⟩ h=>?_);refine Z 9 0 ?_;refine ci h rfl (fun h=>?_) (fun h=>Y);refine Tr.skip ?_;refine cw h [1,4,5] [1] (fun ov27 e=>(3,(o_ ov27))::e) (fun _ l=>l) ke (fun _ h=>?_) (fun ov27 h=>Y);refine Z 13 1 ?_;intro _ _ h;refine cl (Hbp _ _ _) h (cq fun _ h=>?_);refine Z 2 0 ?_;refine cw h [1,3,4,5,6] [1] (fun x23 e=>(44,(b_ x23))::e) (fun _ l=>l) ke (fun _ h=>?_) (fun x23 h=>?_)
  ·refine Z 4 0 ?_;refine bi h (fun _ h=>?_) (fun _ h=>Y);refine Z 2 0 ?_;refine cl (Hbq _ _) h (cq fun _ h=>?_);exact Y
  ·exact cd h rfl (fun h=>Y) (fun h=>Y)
theorem Qsq {P:Program} {c:Nat} (hcf:Qo P c=some Qnk) (fuel:Nat):Qi6 P c (Qc8 fuel):=by
 intro l1 n2 r h;refine Qbt hcf rfl fun Γ M hP hnt hM=>?_;subst hP;refine ini ?_;refine Z 10 0 ?_;refine lw h [0,1] [] (fun i3 e=>(5,(i_ i3))::e) (fun _ l=>l) ke wk (fun _ i3 h=>?_);refine Z 8 0 ?_;refine ci h rfl (fun h=>?_) (fun h=>Y);refine Z 12 1 ?_;intro _ h;exact cd h rfl (fun h=>Y) (fun h=>Y)
theorem Qom {P:Program} {c:Nat} {Qbw:_} {Qbr:_} {Qbg:_} {Qc7:_} {Qc8:_}
    (Hbq:Qh5 P 47 Qbw)
    (Hbp:Qhf P 72 Qbr)
    (Hbl:Qg4 P 86 Qbg)
    (Hbm:Qi5 P 129 Qc7)
    (Hbr:Qi6 P 130 Qc8) (hcf:Qo P c=some Qj9) (fuel:Nat):Qfh P c (Q2 Qbw Qbr Qbg Qc7 Qc8 fuel):=by
 intro a1 r h;refine Qbt hcf rfl fun Γ M hP hnt hM=>?_;subst hP;refine ini ?_;refine Z 8 0 ?_;refine cl (Hbm _) h (cq fun x3 h=>?_);refine Z 6 0 ?_;refine cl (Hbl _) h (cq fun x5 h=>?_);refine Z 10 0 ?_;refine cw h [2,4] [1] (fun _ e=>e) (fun (c42,c43,c44,ov45,ov46) l=>(2,.cells ([(o_ c42),(i_ 0),(o_ c43),(Qp c44)]))::(4,.cells ([(l_ x5.zB),(i_ (x3.length:Int)),(o_ ov45),(Qp ov46)]))::l) ke (fun _ h=>?_) (fun ⟨c42,c43,c44,ov45,ov46⟩ h=>Y);refine Z 5 0 ?_;refine lw h [1,2,3,4] [1] (fun (i6,c7,c8,c9,ov10,ov11) e=>(5,(i_ i6))::e) (fun (i6,c7,c8,c9,ov10,ov11) l=>(2,.cells ([(o_ c7),(i_ 0),(o_ c8),(Qp c9)]))::(4,.cells ([(l_ x5.zB),(i_ (x3.length:Int)),(o_ ov10),(Qp ov11)]))::l) ke wk (fun _ ⟨i6,c7,c8,c9,ov10,ov11⟩ h=>?_);refine Z 8 0 ?_;refine ci h rfl (fun h=>?_) (fun h=>Y);refine Tr.skip ?_;refine cw h [1,2,3,4,5] [1,2] (fun _ e=>e) (fun (ov40,ov41) l=>(4,.cells ([(l_ x5.zB),(i_ (x3.length:Int)),(o_ ov40),(Qp ov41)]))::l) ke (fun _ h=>?_) (fun ⟨ov40,ov41⟩ h=>Y);refine Tr.block ?_;refine cw h [1,2,3,4,5] [1,2] (fun _ e=>e) (fun ov21 l=>(4,.cells ([(l_ x5.zB),(i_ (x3.length:Int)),(o_ ov21),(Qp ov11)]))::l) ke (fun _ h=>?_) (fun ov21 h=>?_)
 ·refine Z 8 1 ?_;intro _ h;refine cl (Hbq _ _) h (cq fun _ h=>?_);refine Z 1 0 ?_;exact cd h rfl (fun h=>Y) (fun h=>Y)
 ·refine Z 5 0 ?_;refine lw h [1,2,3,4,5] [1,2] (fun (k22,ov23) e=>(6,(i_ k22))::e) (fun (k22,ov23) l=>(4,.cells ([(l_ x5.zB),(i_ (x3.length:Int)),(o_ ov21),(Qp ov23)]))::l) ke wk (fun _ ⟨k22,ov23⟩ h=>?_);refine Z 9 0 ?_;refine ci h rfl (fun h=>?_) (fun h=>Y);refine Tr.skip ?_;refine cw h [1,2,3,4,5,6] [1,2] (fun _ e=>e) (fun ov39 l=>(4,.cells ([(l_ x5.zB),(i_ (x3.length:Int)),(o_ ov21),(Qp ov39)]))::l) ke (fun _ h=>?_) (fun ov39 h=>Y);refine Z 13 1 ?_;intro _ _ h;refine cl (Hbp _ _ _) h (cq fun _ h=>?_);refine Z 7 0 ?_;refine ci h rfl (fun h=>?_) (fun h=>Y);refine Z 11 1 ?_;intro _ h;refine cl (Hbr _ _) h (cq fun _ h=>?_);exact Y
theorem Qtn {P:Program} {c:Nat} {Qbg:_} {Q2:_}
    (Hbl:Qg4 P 86 Qbg)
    (Hbj:Qfh P 87 Q2) (hcf:Qo P c=some Qn3) (fuel:Nat):Qjv P c (Qce Qbg Q2 fuel):=by
 intro av1 g2 r h;refine Qbt hcf rfl fun Γ M hP hnt hM=>?_;subst hP;refine ini ?_;refine Z 12 0 ?_;refine ci h rfl (fun h=>?_) (fun h=>?_)
 ·refine Z 3 0 ?_;refine cl (Hbl _) h (cq fun _ h=>?_);exact Y
 ·refine Z 4 0 ?_;refine cl (Hbl _) h (cq fun x7 h=>?_);refine Z 13 0 ?_;refine cw h [4,5] [3] (fun _ e=>e) (fun (c43,c44,c45,a46,a47,a48) l=>(4,.cells ([(o_ c43),(i_ 0),(o_ c44),(Qp c45)]))::(5,.cells ([(l_ x7.zB),(i_ a46),(o_ a47),(Qp a48)]))::l) ke (fun _ h=>?_) (fun ⟨c43,c44,c45,a46,a47,a48⟩ h=>?_)
  ·refine Z 5 0 ?_;refine lw h [0,3,4,5] [3] (fun (i8,c9,c10,c11,a12,a13,a14) e=>(6,(i_ i8))::e) (fun (i8,c9,c10,c11,a12,a13,a14) l=>(4,.cells ([(o_ c9),(i_ 0),(o_ c10),(Qp c11)]))::(5,.cells ([(l_ x7.zB),(i_ a12),(o_ a13),(Qp a14)]))::l) ke wk (fun _ ⟨i8,c9,c10,c11,a12,a13,a14⟩ h=>?_);refine Z 8 0 ?_;refine ci h rfl (fun h=>?_) (fun h=>Y);refine Tr.skip ?_;refine cw h [0,3,4,5,6] [3,4] (fun _ e=>e) (fun (a41,a42) l=>(5,.cells ([(l_ x7.zB),(i_ a12),(o_ a41),(Qp a42)]))::l) ke (fun _ h=>?_) (fun ⟨a41,a42⟩ h=>Y);refine Tr.block ?_;refine cw h [0,3,4,5,6] [3,4] (fun _ e=>e) (fun a22 l=>(5,.cells ([(l_ x7.zB),(i_ a12),(o_ a22),(Qp a14)]))::l) ke (fun _ h=>?_) (fun a22 h=>?_)
   ·refine Z 5 0 ?_;obtain ⟨s17,h18,h⟩:=bnd h;refine Rn.bin tv rfl rfl (Qbec h18) ?_;refine Z 3 0 ?_;exact cd h rfl (fun h=>Y) (fun h=>Y)
   ·refine Z 5 0 ?_;refine lw h [0,3,4,5,6] [3,4] (fun (k23,a24) e=>(7,(i_ k23))::e) (fun (k23,a24) l=>(5,.cells ([(l_ x7.zB),(i_ a12),(o_ a22),(Qp a24)]))::l) ke wk (fun _ ⟨k23,a24⟩ h=>?_);refine Tr.seq ?_;refine cw h [0,3,4,5,6,7] [3,4,5] (fun x27 e=>(47,(b_ x27))::e) (fun _ l=>l) ke (fun _ h=>?_) (fun x27 h=>?_)
    ·refine Z 6 0 ?_;exact bi h (fun _ h=>Y) (fun _ h=>Y)
    ·refine cd h rfl (fun h=>?_) (fun h=>Y);refine Tr.skip ?_;refine cw h [0,3,4,5,6,7] [3,4] (fun _ e=>e) (fun a40 l=>(5,.cells ([(l_ x7.zB),(i_ a12),(o_ a22),(Qp a40)]))::l) ke (fun _ h=>?_) (fun a40 h=>Y);refine Z 6 0 ?_;obtain ⟨⟨⟩,h29,h⟩:=bnd h;refine Rn.idxArr (o':=2+(Int.toNat i8*5)) tv rfl rfl rfl h29 ?_;obtain ⟨⟨⟩,h30,h⟩:=bnd h;refine Rn.idxArr (o':=2+(Int.toNat i8*5+Int.toNat k23*1)) tv rfl rfl (Nat.add_assoc ..).symm h30 ?_;obtain ⟨x31,h32,h⟩:=bnd h;refine Rn.loadArr (e:=(fun (z:Int)=>.int .u8 z)) (pre:=[.d (.int .u8 g2.zF),.d (.int .u8 g2.Marks)]) (post:=[]) tv rfl rfl (Qeh rfl) rfl rfl h32 ?_;refine Z 4 0 ?_;obtain ⟨s33,h34,h⟩:=bnd h;refine Rn.bin tv rfl rfl (Q6q h34) ?_;refine Z 9 0 ?_;exact ci h rfl (fun h=>Y) (fun h=>Y)
  ·refine Z 3 0 ?_;refine cl (Hbj _) h (cq fun _ h=>?_);exact Y
theorem Qto {P:Program} {c:Nat} {Qba:_} {Qce:_}
    (Hbd:Qgv P 40 Qba)
    (Hbc:Qjv P 41 Qce) (hcf:Qo P c=some Qn4) (fuel:Nat):Qjw P c (Qdi Qba Qce fuel):=by
 intro s1 r h;refine Qbt hcf rfl fun Γ M hP hnt hM=>?_;subst hP;refine ini ?_;refine Z 8 0 ?_;refine Rn.k (v:=.ptr (Γ.n0+1) 0) tv rfl rfl rfl ?_;refine Z 1 0 ?_;refine cl (Hbd _) h (cq fun _ h=>?_);refine Z 2 0 ?_;refine cw h [1,2,3] [2] (fun _ e=>e) (fun (s29,s30,s31) l=>(1,.cells ([.d (.int .u8 s1.Sets.1),.d (.int .u8 s1.Sets.2.1),.d (.int .u8 s1.Sets.2.2.1),.d (.int .u8 s1.Sets.2.2.2.1),.d (.int .u8 s1.Sets.2.2.2.2),.d (.int .u8 s29),.d (.int .u8 s1.Graphs.1.Marks),.d (.int .u8 s1.Graphs.1.To.1.1),.d (.int .u8 s1.Graphs.1.To.1.2.1),.d (.int .u8 s1.Graphs.1.To.1.2.2.1),.d (.int .u8 s1.Graphs.1.To.1.2.2.2.1),.d (.int .u8 s1.Graphs.1.To.1.2.2.2.2),.d (.int .u8 s1.Graphs.1.To.2.1.1),.d (.int .u8 s1.Graphs.1.To.2.1.2.1),.d (.int .u8 s1.Graphs.1.To.2.1.2.2.1),.d (.int .u8 s1.Graphs.1.To.2.1.2.2.2.1),.d (.int .u8 s1.Graphs.1.To.2.1.2.2.2.2),.d (.int .u8 s1.Graphs.1.To.2.2.1.1),.d (.int .u8 s1.Graphs.1.To.2.2.1.2.1),.d (.int .u8 s1.Graphs.1.To.2.2.1.2.2.1),.d (.int .u8 s1.Graphs.1.To.2.2.1.2.2.2.1),.d (.int .u8 s1.Graphs.1.To.2.2.1.2.2.2.2),.d (.int .u8 s1.Graphs.1.To.2.2.2.1.1),.d (.int .u8 s1.Graphs.1.To.2.2.2.1.2.1),.d (.int .u8 s1.Graphs.1.To.2.2.2.1.2.2.1),.d (.int .u8 s1.Graphs.1.To.2.2.2.1.2.2.2.1),.d (.int .u8 s1.Graphs.1.To.2.2.2.1.2.2.2.2),.d (.int .u8 s1.Graphs.1.To.2.2.2.2.1),.d (.int .u8 s1.Graphs.1.To.2.2.2.2.2.1),.d (.int .u8 s1.Graphs.1.To.2.2.2.2.2.2.1),.d (.int .u8 s1.Graphs.1.To.2.2.2.2.2.2.2.1),.d (.int .u8 s1.Graphs.1.To.2.2.2.2.2.2.2.2),.d (.int .u8 s30),.d (.int .u8 s1.Graphs.2.1.Marks),.d (.int .u8 s1.Graphs.2.1.To.1.1),.d (.int .u8 s1.Graphs.2.1.To.1.2.1),.d (.int .u8 s1.Graphs.2.1.To.1.2.2.1),.d (.int .u8 s1.Graphs.2.1.To.1.2.2.2.1),.d (.int .u8 s1.Graphs.2.1.To.1.2.2.2.2),.d (.int .u8 s1.Graphs.2.1.To.2.1.1),.d (.int .u8 s1.Graphs.2.1.To.2.1.2.1),.d (.int .u8 s1.Graphs.2.1.To.2.1.2.2.1),.d (.int .u8 s1.Graphs.2.1.To.2.1.2.2.2.1),.d (.int .u8 s1.Graphs.2.1.To.2.1.2.2.2.2),.d (.int .u8 s1.Graphs.2.1.To.2.2.1.1),.d (.int .u8 s1.Graphs.2.1.To.2.2.1.2.1),.d (.int .u8 s1.Graphs.2.1.To.2.2.1.2.2.1),.d (.int .u8 s1.Graphs.2.1.To.2.2.1.2.2.2.1),.d (.int .u8 s1.Graphs.2.1.To.2.2.1.2.2.2.2),.d (.int .u8 s1.Graphs.2.1.To.2.2.2.1.1),.d (.int .u8 s1.Graphs.2.1.To.2.2.2.1.2.1),.d (.int .u8 s1.Graphs.2.1.To.2.2.2.1.2.2.1),.d (.int .u8 s1.Graphs.2.1.To.2.2.2.1.2.2.2.1),.d (.int .u8 s1.Graphs.2.1.To.2.2.2.1.2.2.2.2),.d (.int .u8 s1.Graphs.2.1.To.2.2.2.2.1),.d (.int .u8 s1.Graphs.2.1.To.2.2.2.2.2.1),.d (.int .u8 s1.Graphs.2.1.To.2.2.2.2.2.2.1),.d (.int .u8 s1.Graphs.2.1.To.2.2.2.2.2.2.2.1),.d (.int .u8 s1.Graphs.2.1.To.2.2.2.2.2.2.2.2),.d (.int .u8 s31),.d (.int .u8 s1.Graphs.2.2.Marks),.d (.int .u8 s1.Graphs.2.2.To.1.1),.d (.int .u8 s1.Graphs.2.2.To.1.2.1),.d (.int .u8 s1.Graphs.2.2.To.1.2.2.1),.d (.int .u8 s1.Graphs.2.2.To.1.2.2.2.1),.d (.int .u8 s1.Graphs.2.2.To.1.2.2.2.2),.d (.int .u8 s1.Graphs.2.2.To.2.1.1),.d (.int .u8 s1.Graphs.2.2.To.2.1.2.1),.d (.int .u8 s1.Graphs.2.2.To.2.1.2.2.1),.d (.int .u8 s1.Graphs.2.2.To.2.1.2.2.2.1),.d (.int .u8 s1.Graphs.2.2.To.2.1.2.2.2.2),.d (.int .u8 s1.Graphs.2.2.To.2.2.1.1),.d (.int .u8 s1.Graphs.2.2.To.2.2.1.2.1),.d (.int .u8 s1.Graphs.2.2.To.2.2.1.2.2.1),.d (.int .u8 s1.Graphs.2.2.To.2.2.1.2.2.2.1),.d (.int .u8 s1.Graphs.2.2.To.2.2.1.2.2.2.2),.d (.int .u8 s1.Graphs.2.2.To.2.2.2.1.1),.d (.int .u8 s1.Graphs.2.2.To.2.2.2.1.2.1),.d (.int .u8 s1.Graphs.2.2.To.2.2.2.1.2.2.1),.d (.int .u8 s1.Graphs.2.2.To.2.2.2.1.2.2.2.1),.d (.int .u8 s1.Graphs.2.2.To.2.2.2.1.2.2.2.2),.d (.int .u8 s1.Graphs.2.2.To.2.2.2.2.1),.d (.int .u8 s1.Graphs.2.2.To.2.2.2.2.2.1),.d (.int .u8 s1.Graphs.2.2.To.2.2.2.2.2.2.1),.d (.int .u8 s1.Graphs.2.2.To.2.2.2.2.2.2.2.1),.d (.int .u8 s1.Graphs.2.2.To.2.2.2.2.2.2.2.2)]))::l) ke (fun _ h=>?_) (fun ⟨s29,s30,s31⟩ h=>?_)
 ·refine Z 5 0 ?_;refine lw h [1,2,3] [2] (fun (i4,s5,s6,s7) e=>(4,(i_ i4))::e) (fun (i4,s5,s6,s7) l=>(1,.cells ([.d (.int .u8 s1.Sets.1),.d (.int .u8 s1.Sets.2.1),.d (.int .u8 s1.Sets.2.2.1),.d (.int .u8 s1.Sets.2.2.2.1),.d (.int .u8 s1.Sets.2.2.2.2),.d (.int .u8 s5),.d (.int .u8 s1.Graphs.1.Marks),.d (.int .u8 s1.Graphs.1.To.1.1),.d (.int .u8 s1.Graphs.1.To.1.2.1),.d (.int .u8 s1.Graphs.1.To.1.2.2.1),.d (.int .u8 s1.Graphs.1.To.1.2.2.2.1),.d (.int .u8 s1.Graphs.1.To.1.2.2.2.2),.d (.int .u8 s1.Graphs.1.To.2.1.1),.d (.int .u8 s1.Graphs.1.To.2.1.2.1),.d (.int .u8 s1.Graphs.1.To.2.1.2.2.1),.d (.int .u8 s1.Graphs.1.To.2.1.2.2.2.1),.d (.int .u8 s1.Graphs.1.To.2.1.2.2.2.2),.d (.int .u8 s1.Graphs.1.To.2.2.1.1),.d (.int .u8 s1.Graphs.1.To.2.2.1.2.1),.d (.int .u8 s1.Graphs.1.To.2.2.1.2.2.1),.d (.int .u8 s1.Graphs.1.To.2.2.1.2.2.2.1),.d (.int .u8 s1.Graphs.1.To.2.2.1.2.2.2.2),.d (.int .u8 s1.Graphs.1.To.2.2.2.1.1),.d (.int .u8 s1.Graphs.1.To.2.2.2.1.2.1),.d (.int .u8 s1.Graphs.1.To.2.2.2.1.2.2.1),.d (.int .u8 s1.Graphs.1.To.2.2.2.1.2.2.2.1),.d (.int .u8 s1.Graphs.1.To.2.2.2.1.2.2.2.2),.d (.int .u8 s1.Graphs.1.To.2.2.2.2.1),.d (.int .u8 s1.Graphs.1.To.2.2.2.2.2.1),.d (.int .u8 s1.Graphs.1.To.2.2.2.2.2.2.1),.d (.int .u8 s1.Graphs.1.To.2.2.2.2.2.2.2.1),.d (.int .u8 s1.Graphs.1.To.2.2.2.2.2.2.2.2),.d (.int .u8 s6),.d (.int .u8 s1.Graphs.2.1.Marks),.d (.int .u8 s1.Graphs.2.1.To.1.1),.d (.int .u8 s1.Graphs.2.1.To.1.2.1),.d (.int .u8 s1.Graphs.2.1.To.1.2.2.1),.d (.int .u8 s1.Graphs.2.1.To.1.2.2.2.1),.d (.int .u8 s1.Graphs.2.1.To.1.2.2.2.2),.d (.int .u8 s1.Graphs.2.1.To.2.1.1),.d (.int .u8 s1.Graphs.2.1.To.2.1.2.1),.d (.int .u8 s1.Graphs.2.1.To.2.1.2.2.1),.d (.int .u8 s1.Graphs.2.1.To.2.1.2.2.2.1),.d (.int .u8 s1.Graphs.2.1.To.2.1.2.2.2.2),.d (.int .u8 s1.Graphs.2.1.To.2.2.1.1),.d (.int .u8 s1.Graphs.2.1.To.2.2.1.2.1),.d (.int .u8 s1.Graphs.2.1.To.2.2.1.2.2.1),.d (.int .u8 s1.Graphs.2.1.To.2.2.1.2.2.2.1),.d (.int .u8 s1.Graphs.2.1.To.2.2.1.2.2.2.2),.d (.int .u8 s1.Graphs.2.1.To.2.2.2.1.1),.d (.int .u8 s1.Graphs.2.1.To.2.2.2.1.2.1),.d (.int .u8 s1.Graphs.2.1.To.2.2.2.1.2.2.1),.d (.int .u8 s1.Graphs.2.1.To.2.2.2.1.2.2.2.1),.d (.int .u8 s1.Graphs.2.1.To.2.2.2.1.2.2.2.2),.d (.int .u8 s1.Graphs.2.1.To.2.2.2.2.1),.d (.int .u8 s1.Graphs.2.1.To.2.2.2.2.2.1),.d (.int .u8 s1.Graphs.2.1.To.2.2.2.2.2.2.1),.d (.int .u8 s1.Graphs.2.1.To.2.2.2.2.2.2.2.1),.d (.int .u8 s1.Graphs.2.1.To.2.2.2.2.2.2.2.2),.d (.int .u8 s7),.d (.int .u8 s1.Graphs.2.2.Marks),.d (.int .u8 s1.Graphs.2.2.To.1.1),.d (.int .u8 s1.Graphs.2.2.To.1.2.1),.d (.int .u8 s1.Graphs.2.2.To.1.2.2.1),.d (.int .u8 s1.Graphs.2.2.To.1.2.2.2.1),.d (.int .u8 s1.Graphs.2.2.To.1.2.2.2.2),.d (.int .u8 s1.Graphs.2.2.To.2.1.1),.d (.int .u8 s1.Graphs.2.2.To.2.1.2.1),.d (.int .u8 s1.Graphs.2.2.To.2.1.2.2.1),.d (.int .u8 s1.Graphs.2.2.To.2.1.2.2.2.1),.d (.int .u8 s1.Graphs.2.2.To.2.1.2.2.2.2),.d (.int .u8 s1.Graphs.2.2.To.2.2.1.1),.d (.int .u8 s1.Graphs.2.2.To.2.2.1.2.1),.d (.int .u8 s1.Graphs.2.2.To.2.2.1.2.2.1),.d (.int .u8 s1.Graphs.2.2.To.2.2.1.2.2.2.1),.d (.int .u8 s1.Graphs.2.2.To.2.2.1.2.2.2.2),.d (.int .u8 s1.Graphs.2.2.To.2.2.2.1.1),.d (.int .u8 s1.Graphs.2.2.To.2.2.2.1.2.1),.d (.int .u8 s1.Graphs.2.2.To.2.2.2.1.2.2.1),.d (.int .u8 s1.Graphs.2.2.To.2.2.2.1.2.2.2.1),.d (.int .u8 s1.Graphs.2.2.To.2.2.2.1.2.2.2.2),.d (.int .u8 s1.Graphs.2.2.To.2.2.2.2.1),.d (.int .u8 s1.Graphs.2.2.To.2.2.2.2.2.1),.d (.int .u8 s1.Graphs.2.2.To.2.2.2.2.2.2.1),.d (.int .u8 s1.Graphs.2.2.To.2.2.2.2.2.2.2.1),.d (.int .u8 s1.Graphs.2.2.To.2.2.2.2.2.2.2.2)]))::l) ke wk (fun _ ⟨i4,s5,s6,s7⟩ h=>?_);refine Z 6 0 ?_;refine ci h rfl (fun h=>?_) (fun h=>Y);refine Tr.skip ?_;refine cw h [1,2,3] [2] (fun (i25,s26,s27,s28) e=>(4,(i_ i25))::e) (fun (i25,s26,s27,s28) l=>(1,.cells ([.d (.int .u8 s1.Sets.1),.d (.int .u8 s1.Sets.2.1),.d (.int .u8 s1.Sets.2.2.1),.d (.int .u8 s1.Sets.2.2.2.1),.d (.int .u8 s1.Sets.2.2.2.2),.d (.int .u8 s26),.d (.int .u8 s1.Graphs.1.Marks),.d (.int .u8 s1.Graphs.1.To.1.1),.d (.int .u8 s1.Graphs.1.To.1.2.1),.d (.int .u8 s1.Graphs.1.To.1.2.2.1),.d (.int .u8 s1.Graphs.1.To.1.2.2.2.1),.d (.int .u8 s1.Graphs.1.To.1.2.2.2.2),.d (.int .u8 s1.Graphs.1.To.2.1.1),.d (.int .u8 s1.Graphs.1.To.2.1.2.1),.d (.int .u8 s1.Graphs.1.To.2.1.2.2.1),.d (.int .u8 s1.Graphs.1.To.2.1.2.2.2.1),.d (.int .u8 s1.Graphs.1.To.2.1.2.2.2.2),.d (.int .u8 s1.Graphs.1.To.2.2.1.1),.d (.int .u8 s1.Graphs.1.To.2.2.1.2.1),.d (.int .u8 s1.Graphs.1.To.2.2.1.2.2.1),.d (.int .u8 s1.Graphs.1.To.2.2.1.2.2.2.1),.d (.int .u8 s1.Graphs.1.To.2.2.1.2.2.2.2),.d (.int .u8 s1.Graphs.1.To.2.2.2.1.1),.d (.int .u8 s1.Graphs.1.To.2.2.2.1.2.1),.d (.int .u8 s1.Graphs.1.To.2.2.2.1.2.2.1),.d (.int .u8 s1.Graphs.1.To.2.2.2.1.2.2.2.1),.d (.int .u8 s1.Graphs.1.To.2.2.2.1.2.2.2.2),.d (.int .u8 s1.Graphs.1.To.2.2.2.2.1),.d (.int .u8 s1.Graphs.1.To.2.2.2.2.2.1),.d (.int .u8 s1.Graphs.1.To.2.2.2.2.2.2.1),.d (.int .u8 s1.Graphs.1.To.2.2.2.2.2.2.2.1),.d (.int .u8 s1.Graphs.1.To.2.2.2.2.2.2.2.2),.d (.int .u8 s27),.d (.int .u8 s1.Graphs.2.1.Marks),.d (.int .u8 s1.Graphs.2.1.To.1.1),.d (.int .u8 s1.Graphs.2.1.To.1.2.1),.d (.int .u8 s1.Graphs.2.1.To.1.2.2.1),.d (.int .u8 s1.Graphs.2.1.To.1.2.2.2.1),.d (.int .u8 s1.Graphs.2.1.To.1.2.2.2.2),.d (.int .u8 s1.Graphs.2.1.To.2.1.1),.d (.int .u8 s1.Graphs.2.1.To.2.1.2.1),.d (.int .u8 s1.Graphs.2.1.To.2.1.2.2.1),.d (.int .u8 s1.Graphs.2.1.To.2.1.2.2.2.1),.d (.int .u8 s1.Graphs.2.1.To.2.1.2.2.2.2),.d (.int .u8 s1.Graphs.2.1.To.2.2.1.1),.d (.int .u8 s1.Graphs.2.1.To.2.2.1.2.1),.d (.int .u8 s1.Graphs.2.1.To.2.2.1.2.2.1),.d (.int .u8 s1.Graphs.2.1.To.2.2.1.2.2.2.1),.d (.int .u8 s1.Graphs.2.1.To.2.2.1.2.2.2.2),.d (.int .u8 s1.Graphs.2.1.To.2.2.2.1.1),.d (.int .u8 s1.Graphs.2.1.To.2.2.2.1.2.1),.d (.int .u8 s1.Graphs.2.1.To.2.2.2.1.2.2.1),.d (.int .u8 s1.Graphs.2.1.To.2.2.2.1.2.2.2.1),.d (.int .u8 s1.Graphs.2.1.To.2.2.2.1.2.2.2.2),.d (.int .u8 s1.Graphs.2.1.To.2.2.2.2.1),.d (.int .u8 s1.Graphs.2.1.To.2.2.2.2.2.1),.d (.int .u8 s1.Graphs.2.1.To.2.2.2.2.2.2.1),.d (.int .u8 s1.Graphs.2.1.To.2.2.2.2.2.2.2.1),.d (.int .u8 s1.Graphs.2.1.To.2.2.2.2.2.2.2.2),.d (.int .u8 s28),.d (.int .u8 s1.Graphs.2.2.Marks),.d (.int .u8 s1.Graphs.2.2.To.1.1),.d (.int .u8 s1.Graphs.2.2.To.1.2.1),.d (.int .u8 s1.Graphs.2.2.To.1.2.2.1),.d (.int .u8 s1.Graphs.2.2.To.1.2.2.2.1),.d (.int .u8 s1.Graphs.2.2.To.1.2.2.2.2),.d (.int .u8 s1.Graphs.2.2.To.2.1.1),.d (.int .u8 s1.Graphs.2.2.To.2.1.2.1),.d (.int .u8 s1.Graphs.2.2.To.2.1.2.2.1),.d (.int .u8 s1.Graphs.2.2.To.2.1.2.2.2.1),.d (.int .u8 s1.Graphs.2.2.To.2.1.2.2.2.2),.d (.int .u8 s1.Graphs.2.2.To.2.2.1.1),.d (.int .u8 s1.Graphs.2.2.To.2.2.1.2.1),.d (.int .u8 s1.Graphs.2.2.To.2.2.1.2.2.1),.d (.int .u8 s1.Graphs.2.2.To.2.2.1.2.2.2.1),.d (.int .u8 s1.Graphs.2.2.To.2.2.1.2.2.2.2),.d (.int .u8 s1.Graphs.2.2.To.2.2.2.1.1),.d (.int .u8 s1.Graphs.2.2.To.2.2.2.1.2.1),.d (.int .u8 s1.Graphs.2.2.To.2.2.2.1.2.2.1),.d (.int .u8 s1.Graphs.2.2.To.2.2.2.1.2.2.2.1),.d (.int .u8 s1.Graphs.2.2.To.2.2.2.1.2.2.2.2),.d (.int .u8 s1.Graphs.2.2.To.2.2.2.2.1),.d (.int .u8 s1.Graphs.2.2.To.2.2.2.2.2.1),.d (.int .u8 s1.Graphs.2.2.To.2.2.2.2.2.2.1),.d (.int .u8 s1.Graphs.2.2.To.2.2.2.2.2.2.2.1),.d (.int .u8 s1.Graphs.2.2.To.2.2.2.2.2.2.2.2)]))::l) ke (fun _ h=>?_) (fun ⟨i25,s26,s27,s28⟩ h=>Y);refine Tr.block ?_;refine cw h [1,2,3] [1,2] (fun (i13,x14) e=>(4,(i_ i13))::(18,(b_ x14))::e) (fun _ l=>l) ke (fun _ h=>?_) (fun ⟨i13,x14⟩ h=>?_)
  ·refine Z 3 0 ?_;refine Q1n (decide (i4=0)) (fun hb10=>?_) (fun hb10=>?_)
   ·replace hb10:=of_decide_eq_true hb10;subst hb10;replace h:=ifT (by rfl) h;refine Rn.k (v:=.ptr (Γ.n0+1) 5) tv rfl rfl rfl ?_;exact Y
   ·replace h:=ifF hb10 h;refine Q1n (decide (i4=1)) (fun hb11=>?_) (fun hb11=>?_)
    ·replace hb11:=of_decide_eq_true hb11;subst hb11;replace h:=ifT (by rfl) h;refine Rn.k (v:=.ptr (Γ.n0+1) 32) tv rfl rfl rfl ?_;exact Y
    ·replace h:=ifF hb11 h;refine Q1n (decide (i4=2)) (fun hb12=>?_) (fun hb12=>?_)
     ·replace hb12:=of_decide_eq_true hb12;subst hb12;replace h:=ifT (by rfl) h;refine Rn.k (v:=.ptr (Γ.n0+1) 59) tv rfl rfl rfl ?_;exact Y
     ·replace h:=ifF hb12 h;cases h
  ·refine cd h rfl (fun h=>?_) (fun h=>Y);refine Z 4 0 ?_;refine Q1n (decide (i13=0)) (fun hb16=>?_) (fun hb16=>?_)
   ·replace hb16:=of_decide_eq_true hb16;subst hb16;replace h:=ifT (by rfl) h;refine Rn.k (v:=.ptr (Γ.n0+1) 5) tv rfl rfl rfl ?_;refine Z 4 0 ?_;refine Rn.k (v:=.ptr (Γ.n0+25) 0) tv rfl rfl rfl ?_;refine Z 2 0 ?_;obtain ⟨s17,h18,h⟩:=bnd h;refine Rn.bin tv rfl rfl (Q6q h18) ?_;refine Z 1 0 ?_;refine Rn.k (v:=.ptr (Γ.n0+1) 5) tv rfl rfl rfl ?_;exact Y
   ·replace h:=ifF hb16 h;refine Q1n (decide (i13=1)) (fun hb19=>?_) (fun hb19=>?_)
    ·replace hb19:=of_decide_eq_true hb19;subst hb19;replace h:=ifT (by rfl) h;refine Rn.k (v:=.ptr (Γ.n0+1) 32) tv rfl rfl rfl ?_;refine Z 4 0 ?_;refine Rn.k (v:=.ptr (Γ.n0+25) 1) tv rfl rfl rfl ?_;refine Z 2 0 ?_;obtain ⟨s20,h21,h⟩:=bnd h;refine Rn.bin tv rfl rfl (Q6q h21) ?_;refine Z 1 0 ?_;refine Rn.k (v:=.ptr (Γ.n0+1) 32) tv rfl rfl rfl ?_;exact Y
    ·replace h:=ifF hb19 h;refine Q1n (decide (i13=2)) (fun hb22=>?_) (fun hb22=>?_)
     ·replace hb22:=of_decide_eq_true hb22;subst hb22;replace h:=ifT (by rfl) h;refine Rn.k (v:=.ptr (Γ.n0+1) 59) tv rfl rfl rfl ?_;refine Z 4 0 ?_;refine Rn.k (v:=.ptr (Γ.n0+25) 2) tv rfl rfl rfl ?_;refine Z 2 0 ?_;obtain ⟨s23,h24,h⟩:=bnd h;refine Rn.bin tv rfl rfl (Q6q h24) ?_;refine Z 1 0 ?_;refine Rn.k (v:=.ptr (Γ.n0+1) 59) tv rfl rfl rfl ?_;exact Y
     ·replace h:=ifF hb22 h;cases h
 ·refine Z 4 0 ?_;refine Rn.k (v:=.ptr (Γ.n0+1) 5) tv rfl rfl rfl ?_;refine Z 1 0 ?_;refine cl (Hbc _ _) h (cq fun x33 h=>?_);refine Z 1 0 ?_;refine Rn.k (v:=.ptr (Γ.n0+1) 0) tv rfl rfl rfl ?_;refine Z 2 0 ?_;refine Rn.k (v:=.ptr (Γ.n0+1) 1) tv rfl rfl rfl ?_;refine Z 2 0 ?_;refine cl (Hbd _) h (cq fun _ h=>?_);refine Z 1 0 ?_;refine Rn.k (v:=.ptr (Γ.n0+1) 32) tv rfl rfl rfl ?_;refine Z 1 0 ?_;refine cl (Hbc _ _) h (cq fun x37 h=>?_);refine Z 1 0 ?_;refine Rn.k (v:=.ptr (Γ.n0+1) 0) tv rfl rfl rfl ?_;refine Z 2 0 ?_;refine Rn.k (v:=.ptr (Γ.n0+1) 2) tv rfl rfl rfl ?_;refine Z 2 0 ?_;refine cl (Hbd _) h (cq fun _ h=>?_);refine Z 1 0 ?_;refine Rn.k (v:=.ptr (Γ.n0+1) 59) tv rfl rfl rfl ?_;refine Z 1 0 ?_;refine cl (Hbc _ _) h (cq fun x41 h=>?_);refine Z 1 0 ?_;refine Rn.k (v:=.ptr (Γ.n0+1) 3) tv rfl rfl rfl ?_;refine Z 1 0 ?_;refine cl (Hbd _) h (cq fun x43 h=>?_);refine Z 1 0 ?_;refine Rn.k (v:=.ptr (Γ.n0+1) 4) tv rfl rfl rfl ?_;refine Z 1 0 ?_;refine cl (Hbd _) h (cq fun x45 h=>?_);refine Rn.buildT (v:=.agg [(l_ x33.zB),(i_ x33.zF),(l_ x33.zC),(Qg x33.zD),(l_ x37.zB),(i_ x37.zF),(l_ x37.zC),(Qg x37.zD),(l_ x41.zB),(i_ x41.zF),(l_ x41.zC),(Qg x41.zD),(o_ x43),(o_ x45)]) tv rfl ?_;exact Y
theorem Qtp {P:Program} {c:Nat} {Qv:_} {Qbh:_}
    (Hbu:Qfo P 42 Qv)
    (Hbt:Qhq P 43 Qbh) (hcf:Qo P c=some Qn5) (fuel:Nat):Qjx P c (Qdj Qv Qbh fuel):=by
 intro p1 r h;refine Qbt hcf rfl fun Γ M hP hnt hM=>?_;subst hP;refine ini ?_;refine Z 13 0 ?_;refine Rn.weak (by show WeakSt Γ _ ⟨look [(0,(Qu p1)),(1,.ptr (Γ.n0+1) 0),(2,.ptr (Γ.n0+2) 0),(3,(b_ false)),(12,.ptr (Γ.n0+1) 0),(13,(Qe p1.Plant)),(14,.ptr (Γ.n0+1) 4),(15,(Qe p1.Ambient)),(16,.d (.lst 4 (List.map Qbp [p1.Plant,p1.Ambient])))],Qm Γ.n0 (bxs [(1,.cells ((Qbf p1))),(2,.cells ([.nils 1,(i_ 0),.nils 1,.nils 3,.nils 1,(i_ 0),.nils 1,.nils 3,.nils 1,(i_ 0),.nils 1,.nils 3,.nils 1,.nils 1,.nils 1,(i_ 0),.nils 1,.nils 3,.nils 1,(i_ 0),.nils 1,.nils 3,.nils 1]))]) M,Γ.n0+60⟩;exact Qb9 16 [.lst 1 (List.map (eI .i64) p1.Plant.zB),.int .i64 p1.Plant.zF,.lst 1 (List.map (eI .i64) p1.Plant.zC),.lst 3 (List.map Qj p1.Plant.zD),.lst 1 (List.map (eI .i64) p1.Ambient.zB),.int .i64 p1.Ambient.zF,.lst 1 (List.map (eI .i64) p1.Ambient.zC),.lst 3 (List.map Qj p1.Ambient.zD)] rfl rfl ⟨sq,(fPtr rfl),(fPtr rfl),sq,(fPtr rfl),sq,(fPtr rfl),sq,(fSl rfl rfl),tv⟩ ⟨bS rfl rfl rfl,bS rfl rfl rfl,tv⟩ rfl) ?_;refine cl (Hbu _) h (cq fun ⟨r3,r4,r5⟩ h=>?_);refine Z 18 0 ?_;refine Rn.weak (by show WeakSt Γ _ ⟨look [(0,(Qu p1)),(1,.ptr (Γ.n0+1) 0),(2,.ptr (Γ.n0+2) 0),(3,(b_ false)),(4,.ptr (Γ.n0+4) 0),(5,.d (.lst 1 (List.map (eL 1 (eI .i64)) r4))),(6,(i_ r5)),(11,.tup [(Qe r3),.d (.lst 1 (List.map (eL 1 (eI .i64)) r4)),(i_ r5)]),(12,.ptr (Γ.n0+1) 0),(13,(Qe p1.Plant)),(14,.ptr (Γ.n0+1) 4),(15,(Qe p1.Ambient)),(16,.d (.lst 4 (List.map Qbp [p1.Plant,p1.Ambient]))),(17,.tup [(Qe r3),.own 1 (List.map (eL 1 (eI .i64)) r4),(i_ r5)]),(18,(Qe r3)),(19,.d (.lst 1 (List.map (eL 1 (eI .i64)) r4))),(20,(i_ r5)),(22,.ptr (Γ.n0+1) 0),(23,(Qe p1.Plant)),(24,.ptr (Γ.n0+1) 4),(25,(Qe p1.Ambient)),(26,.ptr (Γ.n0+1) 8),(27,(Qe p1.Requirement)),(28,.d (.lst 4 (List.map Qbp [p1.Plant,p1.Ambient,p1.Requirement])))],Qm Γ.n0 (bxs [(1,.cells ((Qbf p1))),(2,.cells ([.nils 1,(i_ 0),.nils 1,.nils 3,.nils 1,(i_ 0),.nils 1,.nils 3,.nils 1,(i_ 0),.nils 1,.nils 3,.nils 1,.nils 1,.nils 1,(i_ 0),.nils 1,.nils 3,.nils 1,(i_ 0),.nils 1,.nils 3,.nils 1])),(4,.cells ((Qr r3)))]) M,Γ.n0+60⟩;exact Qb9 28 [.lst 1 (List.map (eI .i64) p1.Plant.zB),.int .i64 p1.Plant.zF,.lst 1 (List.map (eI .i64) p1.Plant.zC),.lst 3 (List.map Qj p1.Plant.zD),.lst 1 (List.map (eI .i64) p1.Ambient.zB),.int .i64 p1.Ambient.zF,.lst 1 (List.map (eI .i64) p1.Ambient.zC),.lst 3 (List.map Qj p1.Ambient.zD),.lst 1 (List.map (eI .i64) p1.Requirement.zB),.int .i64 p1.Requirement.zF,.lst 1 (List.map (eI .i64) p1.Requirement.zC),.lst 3 (List.map Qj p1.Requirement.zD)] rfl rfl ⟨sq,(fPtr rfl),(fPtr rfl),sq,(fPtr rfl),sq,sq,sq,(fPtr rfl),sq,(fPtr rfl),sq,sq,sq,sq,sq,sq,(fPtr rfl),sq,(fPtr rfl),sq,(fPtr rfl),sq,(fSl rfl rfl),tv⟩ ⟨bS rfl rfl rfl,bS rfl rfl rfl,bS rfl rfl rfl,tv⟩ rfl) ?_;refine cl (Hbt _) h (cq fun ⟨r7,_⟩ h=>?_);refine Z 16 0 ?_;refine cw h [2,6,8,9] [1,4,7] (fun _ e=>e) (fun (c37,c38,c39,c40,c41,c42,c43,c44,c45,c46,c47,c48,c49,c50,c51,c52,c53,c54,w55) l=>(2,.cells ([(o_ c37),(i_ 0),(o_ c38),(Qp c39),(o_ c40),(i_ 0),(o_ c41),(Qp c42),(o_ c43),(i_ 0),(o_ c44),(Qp c45),(o_ c46),(o_ c47),(o_ c48),(i_ 0),(o_ c49),(Qp c50),(o_ c51),(i_ 0),(o_ c52),(Qp c53),(o_ c54)]))::(9,.cells ([(l_ p1.Plant.zB),(i_ p1.Plant.zF),(l_ p1.Plant.zC),(Qg p1.Plant.zD),(l_ p1.Ambient.zB),(i_ p1.Ambient.zF),(l_ p1.Ambient.zC),(Qg p1.Ambient.zD),(l_ p1.Requirement.zB),(i_ p1.Requirement.zF),(l_ p1.Requirement.zC),(Qg p1.Requirement.zD),(l_ p1.Observable),(l_ p1.Controllable),(l_ r3.zB),(i_ r3.zF),(l_ r3.zC),(Qg r3.zD),(l_ r7.zB),(i_ r7.zF),(l_ r7.zC),(Qg r7.zD),(o_ w55)]))::l) ke (fun _ h=>?_) (fun ⟨c37,c38,c39,c40,c41,c42,c43,c44,c45,c46,c47,c48,c49,c50,c51,c52,c53,c54,w55⟩ h=>?_)
 ·refine Z 5 0 ?_;refine lw h [2,5,6,8,9] [1,4,7] (fun (i9,c10,c11,c12,c13,c14,c15,c16,c17,c18,c19,c20,c21,c22,c23,c24,c25,c26,c27,w28) e=>(10,(i_ i9))::e) (fun (i9,c10,c11,c12,c13,c14,c15,c16,c17,c18,c19,c20,c21,c22,c23,c24,c25,c26,c27,w28) l=>(2,.cells ([(o_ c10),(i_ 0),(o_ c11),(Qp c12),(o_ c13),(i_ 0),(o_ c14),(Qp c15),(o_ c16),(i_ 0),(o_ c17),(Qp c18),(o_ c19),(o_ c20),(o_ c21),(i_ 0),(o_ c22),(Qp c23),(o_ c24),(i_ 0),(o_ c25),(Qp c26),(o_ c27)]))::(9,.cells ([(l_ p1.Plant.zB),(i_ p1.Plant.zF),(l_ p1.Plant.zC),(Qg p1.Plant.zD),(l_ p1.Ambient.zB),(i_ p1.Ambient.zF),(l_ p1.Ambient.zC),(Qg p1.Ambient.zD),(l_ p1.Requirement.zB),(i_ p1.Requirement.zF),(l_ p1.Requirement.zC),(Qg p1.Requirement.zD),(l_ p1.Observable),(l_ p1.Controllable),(l_ r3.zB),(i_ r3.zF),(l_ r3.zC),(Qg r3.zD),(l_ r7.zB),(i_ r7.zF),(l_ r7.zC),(Qg r7.zD),(o_ w28)]))::l) ke wk (fun _ ⟨i9,c10,c11,c12,c13,c14,c15,c16,c17,c18,c19,c20,c21,c22,c23,c24,c25,c26,c27,w28⟩ h=>?_);refine Z 8 0 ?_;exact ci h rfl (fun h=>Y) (fun h=>Y)
 ·refine Z 6 0 ?_;exact bs h (fun _ h=>Y) (fun _ h=>Y)
theorem Qv3 {P:Program} {c:Nat} {Qcg:_} {Qbh:_} {Qb5:_}
    (Hcc:Qkm P 22 Qcg)
    (Hbt:Qhq P 43 Qbh)
    (Hcg:Qje P 44 Qb5) (hcf:Qo P c=some Qq1):Qlt P c (Qea Qcg Qbh Qb5):=by
 intro p1 r h;refine Qbt hcf rfl fun Γ M hP hnt hM=>?_;subst hP;refine ini ?_;refine Z 10 0 ?_;refine cl (Hcc _) h (cq fun x3 h=>?_);refine Z 7 0 ?_;refine cd h rfl (fun h=>Y) (fun h=>?_);refine Z 8 0 ?_;refine Rn.weak (by show WeakSt Γ _ ⟨look [(0,(Qu p1)),(1,.ptr (Γ.n0+1) 0),(2,.ptr (Γ.n0+2) 0),(3,(i_ 0)),(4,(i_ x3)),(7,(Qu p1)),(8,(i_ x3)),(9,(i_ x3)),(10,(b_ (x3 != 0))),(14,.ptr (Γ.n0+1) 0),(15,(Qe p1.Plant)),(16,.ptr (Γ.n0+1) 4),(17,(Qe p1.Ambient)),(18,.d (.lst 4 (List.map Qbp [p1.Plant,p1.Ambient])))],Qm Γ.n0 (bxs [(1,.cells ((Qbf p1))),(2,.cells ([.nils 1,(i_ 0),.nils 1,.nils 3]))]) M,Γ.n0+33⟩;exact Qb9 18 [.lst 1 (List.map (eI .i64) p1.Plant.zB),.int .i64 p1.Plant.zF,.lst 1 (List.map (eI .i64) p1.Plant.zC),.lst 3 (List.map Qj p1.Plant.zD),.lst 1 (List.map (eI .i64) p1.Ambient.zB),.int .i64 p1.Ambient.zF,.lst 1 (List.map (eI .i64) p1.Ambient.zC),.lst 3 (List.map Qj p1.Ambient.zD)] rfl rfl ⟨sq,(fPtr rfl),(fPtr rfl),sq,sq,sq,sq,sq,sq,(fPtr rfl),sq,(fPtr rfl),sq,(fSl rfl rfl),tv⟩ ⟨bS rfl rfl rfl,bS rfl rfl rfl,tv⟩ rfl) ?_;refine cl (Hbt _) h (cq fun ⟨_,_⟩ h=>?_);refine Z 13 0 ?_;refine cd h rfl (fun h=>Y) (fun h=>?_);refine Z 7 0 ?_;refine cl (Hcg _ _) h (cq fun ⟨_,_⟩ h=>?_);exact Y
theorem Qrk {P:Program} {c:Nat} {Q2:_}
    (Hbj:Qfh P 87 Q2) (hcf:Qo P c=some Qmd) (fuel:Nat):Qil P c (Qcu Q2 fuel):=by
 intro a1 r h;refine Qbt hcf rfl fun Γ M hP hnt hM=>?_;subst hP;refine ini ?_;refine Z 8 0 ?_;refine cl (Hbj _) h (cq fun x3 h=>?_);refine Z 8 0 ?_;refine cw h [2,3] [1] (fun _ e=>e) (fun (c13,c14,c15,ov16) l=>(2,.cells ([(o_ c13),(i_ 0),(o_ c14),(Qp c15)]))::(3,.cells ([(l_ x3.zB),(i_ x3.zF),(o_ ov16),(Qg x3.zD)]))::l) ke (fun _ h=>?_) (fun ⟨c13,c14,c15,ov16⟩ h=>Y);refine Z 5 0 ?_;refine lw h [2,3] [1] (fun (i4,c5,c6,c7,ov8) e=>(4,(i_ i4))::e) (fun (i4,c5,c6,c7,ov8) l=>(2,.cells ([(o_ c5),(i_ 0),(o_ c6),(Qp c7)]))::(3,.cells ([(l_ x3.zB),(i_ x3.zF),(o_ ov8),(Qg x3.zD)]))::l) ke wk (fun _ ⟨i4,c5,c6,c7,ov8⟩ h=>?_);refine Z 8 0 ?_;exact ci h rfl (fun h=>Y) (fun h=>Y)
theorem Qrl {P:Program} {c:Nat} {Q8:_} {Qcu:_}
    (Hat:Qg3 P 45 Q8)
    (Hbk:Qil P 46 Qcu) (hcf:Qo P c=some Qme):Qim P c (Qcc Q8 Qcu):=by
 intro a1 r h;refine Qbt hcf rfl fun Γ M hP hnt hM=>?_;subst hP;refine ini ?_;refine Z 8 0 ?_;refine cl (Hbk _) h (cq fun _ h=>?_);refine cl (Hat _) h (cq fun ⟨_,_⟩ h=>?_);exact Y
theorem Qtq {P:Program} {c:Nat} {Qy:_}
    (Hbo:Qfw P 28 Qy) (hcf:Qo P c=some Qn6) (fuel:Nat):Qjy P c (Qcx Qy fuel):=by
 intro a1 b2 r h;refine Qbt hcf rfl fun Γ M hP hnt hM=>?_;subst hP;refine ini ?_;refine Z 7 0 ?_;refine cw h [2,3] [2,3] (fun x10 e=>(35,(b_ x10))::e) (fun _ l=>l) ke (fun _ h=>?_) (fun x10 h=>?_)
 ·refine Z 5 0 ?_;refine cl (Hbo _ _) h (cq fun _ h=>?_);refine Z 2 0 ?_;refine bs h (fun _ h=>?_) (fun _ h=>Y);refine Z 7 0 ?_;refine bs h (fun _ h=>Y) (fun _ h=>?_);refine Z 4 0 ?_;refine cl (Hbo _ _) h (cq fun _ h=>?_);refine Z 3 0 ?_;exact bs h (fun _ h=>Y) (fun _ h=>Y)
 ·refine cd h rfl (fun h=>Y) (fun h=>?_);refine Z 7 0 ?_;refine lw h [2,3] [2,3] (fun i12 e=>(5,(i_ i12))::e) (fun _ l=>l) ke wk (fun _ i12 h=>?_);refine Z 9 0 ?_;refine ci h rfl (fun h=>?_) (fun h=>Y);refine Z 15 1 ?_;intro x15 x17 h;refine Rn.eqa (r:=((x15.From==x17.From)&&((x15.Event==x17.Event)&&((x15.To==x17.To)&&true)))) tv rfl rfl rfl ?_;refine Z 1 0 ?_;refine Tr.cond rfl (fun hb19=>?_) (fun hb19=>?_)
  ·have hb19:=nT' hb19;replace h:=bF hb19 h;exact Y
  ·have hb19:=nF' hb19;replace h:=bT hb19 h;exact Y
theorem Qka {P:Program} {c:Nat} {Qdy:_} {Qdi:_} {Qdj:_} {Qea:_} {Qbv:_} {Qcx:_} {Qcc:_}
    (Hbh:Qi4 P 12 Qdy)
    (Hbe:Qjw P 13 Qdi)
    (Hbi:Qjx P 14 Qdj)
    (Hcb:Qlt P 15 Qea)
    (Hce:Qh2 P 16 Qbv)
    (Hbn:Qjy P 17 Qcx)
    (Hbf:Qim P 18 Qcc) (hcf:Qo P c=some Qg6):Qg5 P c (Qey Qdy Qdi Qdj Qea Qbv Qcx Qcc):=by
 intro s1 r h;refine Qbt hcf rfl fun Γ M hP hnt hM=>?_;subst hP;refine ini ?_;refine Z 8 0 ?_;refine cl Hbh h (cq fun _ h=>?_);refine Z 2 0 ?_;refine Tr.cond rfl (fun hb4=>?_) (fun hb4=>?_)
 ·have hb4:=nT' hb4;replace h:=bF hb4 h;exact Y
 ·have hb4:=nF' hb4;replace h:=bT hb4 h;refine Z 4 0 ?_;refine cl (Hbe _) h (cq fun _ h=>?_);refine Z 6 0 ?_;refine cl (Hbi _) h (cq fun ⟨_,_⟩ h=>?_);refine Z 10 0 ?_;refine cl (Hcb _) h (cq fun ⟨_,_⟩ h=>?_);refine Z 10 0 ?_;refine cl (Hce _) h (cq fun ⟨_,_⟩ h=>?_);refine Z 7 0 ?_;refine cw h [] [1,3,4,6,8] (fun x28 e=>(2,(b_ x28))::e) (fun _ l=>l) ke (fun _ h=>?_) (fun x28 h=>Y);refine Z 3 0 ?_;refine bs h (fun _ h=>?_) (fun _ h=>Y);refine Z 4 0 ?_;refine bs h (fun _ h=>?_) (fun _ h=>Y);refine Z 3 0 ?_;refine cl (Hbf _) h (cq fun _ h=>?_);refine cl (Hbn _ _) h (cq fun _ h=>?_);refine Z 2 0 ?_;refine bs h (fun _ h=>?_) (fun _ h=>Y);refine Z 4 0 ?_;refine bs h (fun _ h=>?_) (fun _ h=>Y);refine Z 3 0 ?_;refine cl (Hbf _) h (cq fun _ h=>?_);refine cl (Hbn _ _) h (cq fun _ h=>?_);exact Y
end Go.Abs
end
section
namespace Go.Proofs
open Go.Abs
set_option maxRecDepth 100000
theorem Qlu:Qo Tryz.prog 3=some Qg6:=by kernel_rfl
theorem Qv4:Qo Tryz.prog 12=some Qnh:=by kernel_rfl
theorem Qw9:Qo Tryz.prog 13=some Qn4:=by kernel_rfl
theorem Qxa:Qo Tryz.prog 14=some Qn5:=by kernel_rfl
theorem Qzl:Qo Tryz.prog 15=some Qq1:=by kernel_rfl
theorem Qyf:Qo Tryz.prog 16=some Qpm:=by kernel_rfl
theorem Qxb:Qo Tryz.prog 17=some Qn6:=by kernel_rfl
theorem Quq:Qo Tryz.prog 18=some Qme:=by kernel_rfl
theorem Q1u:Qo Tryz.prog 22=some Qt8:=by kernel_rfl
theorem Q1v:Qo Tryz.prog 23=some Quc:=by kernel_rfl
theorem Qyg:Qo Tryz.prog 26=some Qpo:=by kernel_rfl
theorem Qsr:Qo Tryz.prog 28=some Qk7:=by kernel_rfl
theorem Qxc:Qo Tryz.prog 39=some Qn0:=by kernel_rfl
theorem Qqb:Qo Tryz.prog 40=some Qjm:=by kernel_rfl
theorem Qxd:Qo Tryz.prog 41=some Qn3:=by kernel_rfl
theorem Qv5:Qo Tryz.prog 42=some Qne:=by kernel_rfl
theorem Q0u:Qo Tryz.prog 43=some Qsc:=by kernel_rfl
theorem Q0v:Qo Tryz.prog 44=some Qsg:=by kernel_rfl
theorem Qzm:Qo Tryz.prog 45=some Qqv:=by kernel_rfl
theorem Qur:Qo Tryz.prog 46=some Qmd:=by kernel_rfl
theorem Qyh:Qo Tryz.prog 47=some Qpp:=by kernel_rfl
theorem Q0w:Qo Tryz.prog 48=some Qsa:=by kernel_rfl
theorem Q0x:Qo Tryz.prog 49=some Qsb:=by kernel_rfl
theorem Qyi:Qo Tryz.prog 50=some Qpd:=by kernel_rfl
theorem Q0y:Qo Tryz.prog 51=some Qsh:=by kernel_rfl
theorem Qrm:Qo Tryz.prog 52=some Qj5:=by kernel_rfl
theorem Qqc:Qo Tryz.prog 54=some Qjk:=by kernel_rfl
theorem Qtr:Qo Tryz.prog 55=some Qlq:=by kernel_rfl
theorem Q4o:Qo Tryz.prog 56=some Qxu:=by kernel_rfl
theorem Qus:Qo Tryz.prog 57=some Qma:=by kernel_rfl
theorem Qzn:Qo Tryz.prog 58=some Qqt:=by kernel_rfl
theorem Qut:Qo Tryz.prog 59=some Ql8:=by kernel_rfl
theorem Qrn:Qo Tryz.prog 60=some Qj8:=by kernel_rfl
theorem Qv6:Qo Tryz.prog 62=some Qnd:=by kernel_rfl
theorem Qv7:Qo Tryz.prog 63=some Qng:=by kernel_rfl
theorem Qro:Qo Tryz.prog 65=some Qj6:=by kernel_rfl
theorem Quu:Qo Tryz.prog 66=some Qmc:=by kernel_rfl
theorem Q0z:Qo Tryz.prog 67=some Qsi:=by kernel_rfl
theorem Qxe:Qo Tryz.prog 72=some Qn2:=by kernel_rfl
theorem Q3t:Qo Tryz.prog 79=some Qvp:=by kernel_rfl
theorem Qyj:Qo Tryz.prog 85=some Qpg:=by kernel_rfl
theorem Qv8:Qo Tryz.prog 86=some Qni:=by kernel_rfl
theorem Qrp:Qo Tryz.prog 87=some Qj9:=by kernel_rfl
theorem Q3u:Qo Tryz.prog 88=some Qvn:=by kernel_rfl
theorem Q4p:Qo Tryz.prog 89=some Qxs:=by kernel_rfl
theorem Qrq:Qo Tryz.prog 90=some Qj3:=by kernel_rfl
theorem Qss:Qo Tryz.prog 92=some Qk2:=by kernel_rfl
theorem Quv:Qo Tryz.prog 93=some Ql7:=by kernel_rfl
theorem Qzo:Qo Tryz.prog 94=some Qqu:=by kernel_rfl
theorem Q3v:Qo Tryz.prog 95=some Qvs:=by kernel_rfl
theorem Q00:Qo Tryz.prog 96=some Qsf:=by kernel_rfl
theorem Qxf:Qo Tryz.prog 97=some Qn1:=by kernel_rfl
theorem Quw:Qo Tryz.prog 98=some Ql6:=by kernel_rfl
theorem Q1w:Qo Tryz.prog 99=some Qt7:=by kernel_rfl
theorem Qzp:Qo Tryz.prog 100=some Qqw:=by kernel_rfl
theorem Qst:Qo Tryz.prog 101=some Qk3:=by kernel_rfl
theorem Qrr:Qo Tryz.prog 106=some Qj7:=by kernel_rfl
theorem Qon:Qo Tryz.prog 107=some Qiq:=by kernel_rfl
theorem Qzq:Qo Tryz.prog 108=some Qqp:=by kernel_rfl
theorem Qzr:Qo Tryz.prog 109=some Qq0:=by kernel_rfl
theorem Qsu:Qo Tryz.prog 110=some Qk4:=by kernel_rfl
theorem Qux:Qo Tryz.prog 111=some Qmb:=by kernel_rfl
theorem Qpw:Qo Tryz.prog 112=some Qi3:=by kernel_rfl
theorem Qsv:Qo Tryz.prog 113=some Qk5:=by kernel_rfl
theorem Qts:Qo Tryz.prog 114=some Qlr:=by kernel_rfl
theorem Qyk:Qo Tryz.prog 115=some Qpn:=by kernel_rfl
theorem Qnx:Qo Tryz.prog 118=some Qia:=by kernel_rfl
theorem Q01:Qo Tryz.prog 119=some Qsd:=by kernel_rfl
theorem Q02:Qo Tryz.prog 120=some Qse:=by kernel_rfl
theorem Qrs:Qo Tryz.prog 128=some Qj4:=by kernel_rfl
theorem Qv9:Qo Tryz.prog 129=some Qnj:=by kernel_rfl
theorem Qwa:Qo Tryz.prog 130=some Qnk:=by kernel_rfl
theorem Q1x:Qo Tryz.prog 131=some Qua:=by kernel_rfl
theorem Qwb:Qo Tryz.prog 132=some Qnf:=by kernel_rfl
theorem Q3w:Qo Tryz.prog 133=some Qvr:=by kernel_rfl
theorem Q3x:Qo Tryz.prog 134=some Qvq:=by kernel_rfl
theorem Q1y:Qo Tryz.prog 135=some Qub:=by kernel_rfl
theorem Qyl:Qo Tryz.prog 136=some Qpi:=by kernel_rfl
theorem Qym:Qo Tryz.prog 137=some Qpk:=by kernel_rfl
theorem Qyn:Qo Tryz.prog 138=some Qpj:=by kernel_rfl
theorem Q1z:Qo Tryz.prog 139=some Qt6:=by kernel_rfl
theorem Qzs:Qo Tryz.prog 140=some Qqq:=by kernel_rfl
theorem Quy:Qo Tryz.prog 143=some Ql9:=by kernel_rfl
theorem Qqd:Qo Tryz.prog 144=some Qjl:=by kernel_rfl
theorem Qzt:Qo Tryz.prog 146=some Qqy:=by kernel_rfl
theorem Qsw:Qo Tryz.prog 147=some Qk6:=by kernel_rfl
theorem Q4q:Qo Tryz.prog 153=some Qxt:=by kernel_rfl
theorem Qzu:Qo Tryz.prog 154=some Qqs:=by kernel_rfl
theorem Q10:Qo Tryz.prog 155=some Qt9:=by kernel_rfl
theorem Q3y:Qo Tryz.prog 171=some Qvo:=by kernel_rfl
theorem Qzv:Qo Tryz.prog 172=some Qqr:=by kernel_rfl
end Go.Proofs
end
section
namespace Go.Abs
open Go Go.Sort
section plain
variable {β:Type}
def insB (lt:β→β→Bool) (x:β):List β→List β
 | []=>[x]
 | y::ys=>if lt y x then y::insB lt x ys else x::y::ys
def Qlv (lt:β→β→Bool):List β→List β
 | []=>[]
 | x::xs=>insB lt x (Qlv lt xs)
def Q4r (lt:β→β→Bool):List β→Bool
 | []=>true
 | x::xs=>xs.all (fun y=>lt x y||lt y x)&&Q4r lt xs
def Qbip (ok:β→Bool) (lt:β→β→Bool) (l:List β):Option (List β):=if l.all ok&&Q4r lt l then some (Qlv lt l) else none
theorem Q3z (lt:β→β→Bool) (x:β):∀ l,(insB lt x l).Perm (x::l)
 | []=>.refl _
 | y::ys=>by
  unfold insB;split
  ·exact ((Q3z lt x ys).cons y).trans (.swap x y ys)
  ·exact .refl _
theorem Qmu (lt:β→β→Bool):∀ l,(Qlv lt l).Perm l
 | []=>.refl _
 | x::xs=>(Q3z lt x _).trans ((Qmu lt xs).cons x)
theorem Qoo (lt:β→β→Bool) (l:List β):(Qlv lt l).length=l.length:=(Qmu lt l).length_eq
theorem Q30 {lt:β→β→Bool} (h:SWO lt) (x:β):∀ l,l.Pairwise (fun a b=>lt b a=false)→(insB lt x l).Pairwise fun a b=>lt b a=false
 | [],_=>by simp [insB]
 | y::ys,hl=>by
  obtain ⟨h1,h2⟩:=List.pairwise_cons.1 hl;unfold insB;split
  ·rename_i hc;refine List.pairwise_cons.2 ⟨fun z hz=>?_,Q30 h x ys h2⟩;rcases List.mem_cons.1 ((Q3z lt x ys).mem_iff.1 hz) with rfl|hz
   ·cases hb:lt z y with
    | false=>rfl
    | true=>have:=h.trans _ _ _ hc hb;rw [h.irrefl] at this;cases this
   ·exact h1 z hz
  ·rename_i hc;have hc:lt y x=false:=by cases h:lt y x<;>simp_all
   refine List.pairwise_cons.2 ⟨fun z hz=>?_,hl⟩;rcases List.mem_cons.1 hz with rfl|hz
   ·exact hc
   ·exact h.ntrans _ _ _ (h1 z hz) hc
theorem Qop {lt:β→β→Bool} (h:SWO lt):∀ l,(Qlv lt l).Pairwise fun a b=>lt b a=false
 | []=>.nil
 | x::xs=>Q30 h x _ (Qop h xs)
theorem Q5t {lt:β→β→Bool}:∀ {l:List β},Q4r lt l=true→∀ a b,a∈l→b∈l→lt a b=false→lt b a=false→a=b
 | [],_,a,_,ha,_,_,_=>by cases ha
 | x::xs,h,a,b,ha,hb,h1,h2=>by
  simp only [Q4r,Bool.and_eq_true,List.all_eq_true] at h;obtain ⟨k1,k2⟩:=h;rcases List.mem_cons.1 ha with e1|ha'<;>rcases List.mem_cons.1 hb with e2|hb'
  ·rw [e1,e2]
  ·subst e1;have:=k1 b hb';simp [h1,h2] at this
  ·subst e2;have:=k1 a ha';simp [h1,h2] at this
  ·exact Q5t k2 a b ha' hb' h1 h2
theorem Q6u {lt:β→β→Bool} (h:SWO lt) {l m:List β} (hd:Q4r lt l=true) (hp:m.Perm l) (hs:m.Pairwise fun a b=>lt b a=false):m=Qlv lt l:=by
 refine List.Perm.eq_of_pairwise (le:=fun a b=>lt b a=false) (fun a b ha hb h1 h2=>?_) hs (Qop h l) (hp.trans (Qmu lt l).symm);exact Q5t hd a b (hp.mem_iff.1 ha) ((Qmu lt l).mem_iff.1 hb) h2 h1
theorem Qbbi {α:Type} (f:α→β) (lt:β→β→Bool) (x:α):∀ l:List α,insB lt (f x) (l.map f)=(insB (fun a b=>lt (f a) (f b)) x l).map f
 | []=>rfl
 | y::ys=>by
  simp only [List.map_cons,insB];split
  ·simp only [List.map_cons,Qbbi f lt x ys]
  ·rfl
theorem Q5u {α:Type} (f:α→β) (lt:β→β→Bool):∀ l:List α,Qlv lt (l.map f)=(Qlv (fun a b=>lt (f a) (f b)) l).map f
 | []=>rfl
 | x::xs=>by simp only [List.map_cons,Qlv,Q5u f lt xs,Qbbi]
theorem Q8j {α:Type} (f:α→β) (lt:β→β→Bool):∀ l:List α,Q4r lt (l.map f)=Q4r (fun a b=>lt (f a) (f b)) l
 | []=>rfl
 | x::xs=>by simp only [List.map_cons,Q4r,Q8j f lt xs,List.all_map];rfl
end plain
def Qkb (a b:Int):Bool:=decide (a<b)
end Go.Abs
end
section
namespace Go.Abs
def Qbj2 (l:List Int):Option (List Int):=if l.length≤lim then some (Qlv Qkb l) else none
def Qbbj (l:List Int):Option (List Int):=if l.length≤lim then some (Lib.compact l) else none
def okPl (x:Qd):Bool:=decide (-1≤x.ambient_∧x.ambient_<4611686018427387904 ∧ -1≤x.language_∧x.language_<4611686018427387904)
def ltPl (x y:Qd):Bool:=decide (x.ambient_<y.ambient_∨(x.ambient_=y.ambient_∧x.language_<y.language_))
def Qbes (l:List Qd):Option (List Qd):=if l.length≤65536 then Qbip okPl ltPl l else none
def keyL (l:List Int):List UInt8:=l.flatMap fun x=>Lib.decDigits x.toNat++[32]
def keyB (l:List Int):ByteArray:=⟨(keyL l).toArray⟩
def keyI (l:List Int):Option ByteArray:=if l.length≤lim∧∀ x∈l,0≤x∧x<100 then some (keyB l) else none
def Qbgm (x:Qd) (l:List Int):Option ByteArray:=keyI (x.ambient_::x.language_::l)
end Go.Abs
end
section
namespace Go.Abs
open Go Go.Abs
set_option maxRecDepth 10000
set_option maxHeartbeats 4000000
def Q5:Nat:=1099511627776
def Qn7:=Qd4
def Qhg:=Qcw Q5
def Qir:=Qd8 Q5
def Qci:=Qn Qir
def Qgm:=Qcs Qci Q5
def Qer:=Qx Qhg Qgm
def Qgy:=Qb7 Q5
def Qlw:=Qev
def Qkn:=Qe4 Qgy Qlw
def Qgb:=Qen Qkn
def Qfc:=Qde Q5
def Qib:=Qcg Qer Qgb Qfc Q5
def Qlx:=Qfn Qer Q5
def Qly:=Qew
def Qic:=Qe5 Qgy Qly
def Qf2:=Qe6 Qic Q5
def Qm5:=Qf5 Qf2 Q5
def Qfi:=Qb4 Q5
def Qpx:=Qex
def Qkc:=Qf6 Qpx
def Qis:=Qdp
def Qcp:=Q1 Qkc Qis Q5
def Qfd:=Q4 Qcp
def Qfx:=Qcd Qfd Q5
def Qbz:=Qk
def Qgn:=Qct Qbz Qfd Q5
def Q3:=Qv Qlx Qm5 Qfi keyI Qfx Qgn Q5
def Qgc:=Qbh Q3
def Qeg:=Qbj Q5
def Qjg:=Qeo
def Qjh:=Qep
def Qht:=Qfp Qeg Qjg Qjh
def Qg7:=Qc6 Qbz Qht Qcp Q5
def Qit:=Qd9 Qer Qg7 Q5
def Qi7:=Qc0 Q5
def Qi8:=Qc1 Q5
def Qgg:=Qdv
def Qko:=Qef Q5
def Qfe:=Qcl
def Qgh:=Qdw Qfe Q5
def Qji:=Qeq Qi8 Qi7 Qko Qgg Qgh Q5
def Qlz:=Qfq Qbz Qi8 Qi7 Q5
def Qcj:=Q8 Qer Qlz Qji
def Qhu:=Qb5 Qcj Qbz Qit
def Qgi:=Qbv Qib Qgc Qhu
def Qq2:=Qdq Q5
def Qmv:=Qb6 Qgi Q3 Qq2 Q5
def Qc9:=Qi
def Qec:=Qq Qci
def Qhv:=Qbd Qbz Qec Qci Qc9 Qbj2 Qbbj Q5
def Qkd:=Qcm Qhv
def Qhe:=Q7 Qc9
def Qiu:=Qb3 Qc9
def Qmf:=Qdl Q5
def Qke:=Qcn Qmf
def Qjn:=Qcf Qci Qhe Qke Qiu Q5
def Qxv:=Qhc Qfd Q5
def Ql0:=Qdf Qbz Qec Qc9 Q5
def Qgo:=Qw Qc9
def Qkf:=Qco Qci Qc9 Qhv Q5
def Qud:=Qe7 Qmv Qkd Qbgm Qjn Ql0 Qxv Qgo Qbz Qec Qkf Q5
def Qjo:=Qb0
def Qzw:=Qqz
def Qhw:=Qbe Qgo Qec Qjo Qbes Q5
def Qmg:=Qcb Qbgm Q5
def Qk8:=Qc2 Qhe
def Qk9:=Qc3 Q5
def Qi9:=Qca Qk9
def Ql1:=Qdg Qgo Qhw Q5
def Qmh:=Qdm Qcj Qbz Qec Qci Qc9 Qhw Qmg Qi9 Qk8 Ql1 Q5
def Qiv:=Qdr Q5
def Qh6:=Qdx Q5
def Qsx:=Qfb Qiv Qh6
def Qpy:=Qej Qmv Qmh Qsx Q5
def Qfy:=Qy Q5
def Qja:=Qdy Qud Qpy Qfy Qn7
def Qda:=Qba Q5
def Qfr:=Qbg
def Qcy:=Qbr Q5
def Qdz:=Qbw Q5
def Qg8:=Qc7 Qdz Qcy Q5
def Qfs:=Qc8 Q5
def Qee:=Q2 Qdz Qcy Qfr Qg8 Qfs Q5
def Qf3:=Qce Qfr Qee Q5
def Qhh:=Qdi Qda Qf3 Q5
def Qhi:=Qdj Q3 Qgc Q5
def Qiw:=Qea Qib Qgc Qhu
def Qgp:=Qcu Qee Q5
def Qgq:=Qcc Qcj Qgp
def Qhj:=Qcx Qfy Q5
def Qez:=Qey Qja Qhh Qhi Qiw Qgi Qhj Qgq
end Go.Abs
end
section
namespace Go.Proofs
open Go.Shelf
def Tryz.lays169_ren:Go.Shelf.Ren:=⟨fun|169=>105|n=>n,fun|70=>158|9=>9|0=>0|72=>161|37=>159|127=>206|3=>3|5=>5|n=>n,fun|n=>n⟩
theorem Tryz.lays169:Go.Proofs.Lays.n169 Tryz.prog Tryz.lays169_ren:={
 mixed:=by kernel_rfl
 f169:=Tryz.func105.trans (congrArg some (by kernel_rfl))
 t0:=Tryz.underlying0
 a0:=Tryz.isAgg0
 z0:=Tryz.sizeOf0
 v0:=Tryz.zeroValue0
 t3:=Tryz.underlying3
 a3:=Tryz.isAgg3
 z3:=Tryz.sizeOf3
 v3:=Tryz.zeroValue3
 t9:=Tryz.underlying9
 a9:=Tryz.isAgg9
 z9:=Tryz.sizeOf9
 v9:=Tryz.zeroValue9
 t37:=Tryz.underlying159
 a37:=Tryz.isAgg159
 z37:=Tryz.sizeOf159
 v37:=Tryz.zeroValue159
 t70:=Tryz.underlying158
 a70:=Tryz.isAgg158
 z70:=Tryz.sizeOf158
 v70:=Tryz.zeroValue158
 t72:=Tryz.underlying161
 a72:=Tryz.isAgg161
 z72:=Tryz.sizeOf161
 v72:=Tryz.zeroValue161
 t127:=Tryz.underlying206
 a127:=Tryz.isAgg206
 z127:=Tryz.sizeOf206
 v127:=Tryz.zeroValue206 }
theorem Tryz.Builder_Extra_169:Builder.Extra Tryz.prog Tryz.lays169_ren:={
 sizeBuilder:=by kernel_rfl
 liesBuilder:=by kernel_rfl
 t5:=Tryz.underlying5
 a5:=Tryz.isAgg5
 z5:=Tryz.sizeOf5
 v5:=Tryz.zeroValue5
 infoByte:=by kernel_rfl
 cellsByte:=by kernel_rfl
 sizeByte:=by kernel_rfl
 neB5:=by decide }
open Go.RowKit in
theorem Tryz.Builder_String_any_k (B b:Nat) (l:List UInt8) (w:World) (h:Lib.IsBuilderF 161 5 B b (Lib.byteCells l) w) (hBw:B≤w.heap.size) :
  Calls Tryz.prog 105 #[.pointer (some ⟨b,0,none⟩)] w fun e w'=>e = .returned (.string ⟨l.toArray⟩)∧(Lib.IsBuilderF 161 5 B b (Lib.byteCells l) w'∧Below B w w'∧Lib.OthersKept 5 (some b) w w'):=Any.Builder_String_any_k Tryz.lays169 Tryz.Builder_Extra_169 B b l w h hBw
def Tryz.lays171_ren:Go.Shelf.Ren:=⟨fun|171=>103|243=>142|246=>157|283=>173|284=>174|285=>175|286=>176|129=>170|317=>191|318=>192|319=>193|320=>194|337=>199|338=>200|n=>n,fun|3=>3|9=>9|2=>2|4=>4|171=>234|0=>0|53=>233|37=>159|5=>5|173=>236|212=>251|51=>231|20=>20|213=>252|46=>214|232=>258|233=>259|n=>n,fun|17=>0|18=>1|19=>2|n=>n⟩
theorem Tryz.lays171:Go.Proofs.Lays.n171 Tryz.prog Tryz.lays171_ren:={
 mixed:=by kernel_rfl
 f129:=Tryz.func170.trans (congrArg some (by kernel_rfl))
 f171:=Tryz.func103.trans (congrArg some (by kernel_rfl))
 f243:=Tryz.func142.trans (congrArg some (by kernel_rfl))
 f246:=Tryz.func157.trans (congrArg some (by kernel_rfl))
 f283:=Tryz.func173.trans (congrArg some (by kernel_rfl))
 f284:=Tryz.func174.trans (congrArg some (by kernel_rfl))
 f285:=Tryz.func175.trans (congrArg some (by kernel_rfl))
 f286:=Tryz.func176.trans (congrArg some (by kernel_rfl))
 f317:=Tryz.func191.trans (congrArg some (by kernel_rfl))
 f318:=Tryz.func192.trans (congrArg some (by kernel_rfl))
 f319:=Tryz.func193.trans (congrArg some (by kernel_rfl))
 f320:=Tryz.func194.trans (congrArg some (by kernel_rfl))
 f337:=Tryz.func199.trans (congrArg some (by kernel_rfl))
 f338:=Tryz.func200.trans (congrArg some (by kernel_rfl))
 t0:=Tryz.underlying0
 a0:=Tryz.isAgg0
 z0:=Tryz.sizeOf0
 v0:=Tryz.zeroValue0
 t2:=Tryz.underlying2
 a2:=Tryz.isAgg2
 z2:=Tryz.sizeOf2
 v2:=Tryz.zeroValue2
 t3:=Tryz.underlying3
 a3:=Tryz.isAgg3
 z3:=Tryz.sizeOf3
 v3:=Tryz.zeroValue3
 t4:=Tryz.underlying4
 a4:=Tryz.isAgg4
 z4:=Tryz.sizeOf4
 v4:=Tryz.zeroValue4
 t5:=Tryz.underlying5
 a5:=Tryz.isAgg5
 z5:=Tryz.sizeOf5
 v5:=Tryz.zeroValue5
 t9:=Tryz.underlying9
 a9:=Tryz.isAgg9
 z9:=Tryz.sizeOf9
 v9:=Tryz.zeroValue9
 t20:=Tryz.underlying20
 a20:=Tryz.isAgg20
 z20:=Tryz.sizeOf20
 v20:=Tryz.zeroValue20
 t37:=Tryz.underlying159
 a37:=Tryz.isAgg159
 z37:=Tryz.sizeOf159
 v37:=Tryz.zeroValue159
 t46:=Tryz.underlying214
 a46:=Tryz.isAgg214
 z46:=Tryz.sizeOf214
 v46:=Tryz.zeroValue214
 t51:=Tryz.underlying231
 a51:=Tryz.isAgg231
 z51:=Tryz.sizeOf231
 v51:=Tryz.zeroValue231
 t53:=Tryz.underlying233
 a53:=Tryz.isAgg233
 z53:=Tryz.sizeOf233
 v53:=Tryz.zeroValue233
 t171:=Tryz.underlying234
 a171:=Tryz.isAgg234
 z171:=Tryz.sizeOf234
 v171:=Tryz.zeroValue234
 t173:=Tryz.underlying236
 a173:=Tryz.isAgg236
 z173:=Tryz.sizeOf236
 v173:=Tryz.zeroValue236
 t212:=Tryz.underlying251
 a212:=Tryz.isAgg251
 z212:=Tryz.sizeOf251
 v212:=Tryz.zeroValue251
 t213:=Tryz.underlying252
 a213:=Tryz.isAgg252
 z213:=Tryz.sizeOf252
 t232:=Tryz.underlying258
 a232:=Tryz.isAgg258
 z232:=Tryz.sizeOf258
 v232:=Tryz.zeroValue258
 t233:=Tryz.underlying259
 a233:=Tryz.isAgg259
 z233:=Tryz.sizeOf259
 v233:=Tryz.zeroValue259
 g17:=by kernel_rfl
 g18:=by kernel_rfl
 g19:=by kernel_rfl }
open Go.RowKit Go.Sort Go.Lib in
theorem Tryz.strconv_Itoa_small (i:Nat) (hi:i<100) (w:World) :
  Calls Tryz.prog 103 #[.int .i64 i] w fun e w'=>e = .returned (.string ⟨(Lib.decDigits i).toArray⟩)∧w'=w:=Any.strconv_Itoa_small Tryz.lays171 i hi w
def Tryz.laysNm220_ren:Go.Shelf.Ren:=⟨fun|20=>125|n=>n,fun|22=>32|3=>3|4=>4|0=>0|n=>n,fun|n=>n⟩
theorem Tryz.laysNm220:Go.Proofs.Lays2.n20 Tryz.prog Tryz.laysNm220_ren:={
 mixed:=by kernel_rfl
 f20:=Tryz.func125.trans (congrArg some (by kernel_rfl))
 t0:=Tryz.underlying0
 a0:=Tryz.isAgg0
 z0:=Tryz.sizeOf0
 v0:=Tryz.zeroValue0
 t3:=Tryz.underlying3
 a3:=Tryz.isAgg3
 z3:=Tryz.sizeOf3
 v3:=Tryz.zeroValue3
 t4:=Tryz.underlying4
 a4:=Tryz.isAgg4
 z4:=Tryz.sizeOf4
 v4:=Tryz.zeroValue4
 t22:=Tryz.underlying32
 a22:=Tryz.isAgg32
 z22:=Tryz.sizeOf32
 v22:=Tryz.zeroValue32
 i3:=by kernel_rfl }
open Go.RowKit Go.Lib Go.Sort in
theorem Tryz.slices_Compact_int (blk off cap:Nat) (zs:List Int) (w:World) (hH:Holds (Value.int .i64) w blk off zs.toArray) (hsz:zs.length≤9223372036854775807) (hcap:zs.length≤cap) :
  Calls Tryz.prog 125 #[.slice (some ⟨blk,off,none⟩) zs.length cap] w fun e w'=>e = .returned (.slice (some ⟨blk,off,none⟩) (Lib.compact zs).length cap)∧∃ q,w'=putRow (Value.int .i64) (Sort.ahead w q) blk off (Lib.compact zs++List.replicate (zs.length-(Lib.compact zs).length) 0).toArray:=Any.slices_Compact_int Tryz.laysNm220 blk off cap zs w hH hsz hcap
open Go.RowKit Go.Lib Go.Sort in
theorem Tryz.slices_Compact_int_empty (a:Option Addr) (cap:Nat) (w:World) :
  Calls Tryz.prog 125 #[.slice a 0 cap] w fun e w'=>e = .returned (.slice a 0 cap)∧w'=w:=Any.slices_Compact_int_empty Tryz.laysNm220 a cap w
def Tryz.laysSlM5_f124_ren:Go.Shelf.Ren:=⟨fun|5=>124|8=>152|7=>151|19=>169|20=>170|10=>161|11=>162|12=>163|13=>164|14=>165|15=>166|16=>153|17=>167|18=>168|30=>186|31=>187|32=>188|33=>189|34=>190|35=>171|40=>198|n=>n,fun|23=>32|25=>3|3=>3|32=>214|22=>32|0=>0|44=>231|46=>233|4=>4|36=>225|35=>224|41=>143|5=>5|9=>9|53=>243|57=>247|63=>255|64=>113|n=>n,fun|n=>n⟩
theorem Tryz.laysSlM5_f124:Go.Proofs.SlLaysM.n5 Tryz.prog Tryz.laysSlM5_f124_ren:={
 mixed:=by kernel_rfl
 f5:=⟨Tryz.f124.name,by decide,Tryz.func124.trans (congrArg some (by kernel_rfl))⟩
 f7:=⟨Tryz.f151.name,by decide,Tryz.func151.trans (congrArg some (by kernel_rfl))⟩
 f8:=Tryz.func152.trans (congrArg some (by kernel_rfl))
 f10:=⟨Tryz.f161.name,by decide,Tryz.func161.trans (congrArg some (by kernel_rfl))⟩
 f11:=⟨Tryz.f162.name,by decide,Tryz.func162.trans (congrArg some (by kernel_rfl))⟩
 f12:=⟨Tryz.f163.name,by decide,Tryz.func163.trans (congrArg some (by kernel_rfl))⟩
 f13:=⟨Tryz.f164.name,by decide,Tryz.func164.trans (congrArg some (by kernel_rfl))⟩
 f14:=⟨Tryz.f165.name,by decide,Tryz.func165.trans (congrArg some (by kernel_rfl))⟩
 f15:=⟨Tryz.f166.name,by decide,Tryz.func166.trans (congrArg some (by kernel_rfl))⟩
 f16:=⟨Tryz.f153.name,by decide,Tryz.func153.trans (congrArg some (by kernel_rfl))⟩
 f17:=⟨Tryz.f167.name,by decide,Tryz.func167.trans (congrArg some (by kernel_rfl))⟩
 f18:=⟨Tryz.f168.name,by decide,Tryz.func168.trans (congrArg some (by kernel_rfl))⟩
 f19:=Tryz.func169.trans (congrArg some (by kernel_rfl))
 f20:=Tryz.func170.trans (congrArg some (by kernel_rfl))
 f30:=⟨Tryz.f186.name,by decide,Tryz.func186.trans (congrArg some (by kernel_rfl))⟩
 f31:=Tryz.func187.trans (congrArg some (by kernel_rfl))
 f32:=Tryz.func188.trans (congrArg some (by kernel_rfl))
 f33:=⟨Tryz.f189.name,by decide,Tryz.func189.trans (congrArg some (by kernel_rfl))⟩
 f34:=⟨Tryz.f190.name,by decide,Tryz.func190.trans (congrArg some (by kernel_rfl))⟩
 f35:=⟨Tryz.f171.name,by decide,Tryz.func171.trans (congrArg some (by kernel_rfl))⟩
 f40:=⟨Tryz.f198.name,by decide,Tryz.func198.trans (congrArg some (by kernel_rfl))⟩
 t0:=Tryz.underlying0
 a0:=Tryz.isAgg0
 z0:=Tryz.sizeOf0
 v0:=Tryz.zeroValue0
 t3:=Tryz.underlying3
 a3:=Tryz.isAgg3
 z3:=Tryz.sizeOf3
 v3:=Tryz.zeroValue3
 t4:=Tryz.underlying4
 a4:=Tryz.isAgg4
 z4:=Tryz.sizeOf4
 v4:=Tryz.zeroValue4
 t5:=Tryz.underlying5
 a5:=Tryz.isAgg5
 z5:=Tryz.sizeOf5
 v5:=Tryz.zeroValue5
 t9:=Tryz.underlying9
 a9:=Tryz.isAgg9
 z9:=Tryz.sizeOf9
 v9:=Tryz.zeroValue9
 t22:=Tryz.underlying32
 a22:=Tryz.isAgg32
 z22:=Tryz.sizeOf32
 v22:=Tryz.zeroValue32
 t23:=Tryz.underlying32
 a23:=Tryz.isAgg32
 z23:=Tryz.sizeOf32
 v23:=Tryz.zeroValue32
 t25:=Tryz.underlying3
 a25:=Tryz.isAgg3
 z25:=Tryz.sizeOf3
 v25:=Tryz.zeroValue3
 t32:=Tryz.underlying214
 a32:=Tryz.isAgg214
 z32:=Tryz.sizeOf214
 v32:=Tryz.zeroValue214
 t35:=Tryz.underlying224
 a35:=Tryz.isAgg224
 z35:=Tryz.sizeOf224
 v35:=Tryz.zeroValue224
 t36:=Tryz.underlying225
 a36:=Tryz.isAgg225
 z36:=Tryz.sizeOf225
 v36:=Tryz.zeroValue225
 t41:=Tryz.underlying143
 a41:=Tryz.isAgg143
 z41:=Tryz.sizeOf143
 v41:=Tryz.zeroValue143
 t44:=Tryz.underlying231
 a44:=Tryz.isAgg231
 z44:=Tryz.sizeOf231
 v44:=Tryz.zeroValue231
 t46:=Tryz.underlying233
 a46:=Tryz.isAgg233
 z46:=Tryz.sizeOf233
 v46:=Tryz.zeroValue233
 t53:=Tryz.underlying243
 a53:=Tryz.isAgg243
 z53:=Tryz.sizeOf243
 v53:=Tryz.zeroValue243
 t57:=Tryz.underlying247
 a57:=Tryz.isAgg247
 z57:=Tryz.sizeOf247
 v57:=Tryz.zeroValue247
 t63:=Tryz.underlying255
 a63:=Tryz.isAgg255
 z63:=Tryz.sizeOf255
 v63:=Tryz.zeroValue255
 t64:=Tryz.underlying113
 a64:=Tryz.isAgg113
 z64:=Tryz.sizeOf113
 v64:=Tryz.zeroValue113 }
open Go.Sort Go.RowKit in
theorem Tryz.slices_Sort_int (blk off cap:Nat) (zs:List Int) (w:World) (hH:Holds (Value.int .i64) w blk off zs.toArray) (hblk:blk<w.heap.size) (hsz:zs.length<4611686018427387904) :
  Calls Tryz.prog 124 #[.slice (some ⟨blk,off,none⟩) zs.length cap] w fun e w' =>
   e = .returned (.tuple #[])∧∃ n os,w'=grow (putRow (Value.int .i64) (Sort.ahead w n) blk off (zs.mergeSort fun x y=>decide (x≤y)).toArray) os:=AnyM.slices_Sort_int Tryz.laysSlM5_f124 blk off cap zs w hH hblk hsz
open Go.RowKit Go.Sort in
theorem Tryz.slices_Sort_int_none (p:Option Addr) (cap:Nat) (w:World) :
  Calls Tryz.prog 124 #[.slice p 0 cap] w fun e w'=>e = .returned (.tuple #[])∧w'=w:=AnyM.slices_Sort_int_none Tryz.laysSlM5_f124 p cap w
def Tryz.sortP_ren:Go.Shelf.Ren:=⟨fun|6=>145|15=>152|14=>158|28=>169|29=>170|20=>177|21=>178|22=>179|23=>180|24=>181|25=>182|26=>183|27=>184|46=>195|47=>187|48=>188|49=>196|50=>197|57=>201|n=>n,fun|22=>175|24=>96|25=>211|3=>3|39=>214|0=>0|53=>231|55=>233|4=>4|46=>225|45=>224|50=>143|5=>5|9=>9|66=>243|70=>247|76=>255|77=>113|n=>n,fun|n=>n⟩
theorem Tryz.sortP:Go.Proofs.SlLaysF0.n6 Tryz.prog Tryz.sortP_ren:={
 mixed:=by kernel_rfl
 f6:=⟨Tryz.f145.name,by decide,Tryz.func145.trans (congrArg some (by kernel_rfl))⟩
 f14:=⟨Tryz.f158.name,by decide,Tryz.func158.trans (congrArg some (by kernel_rfl))⟩
 f15:=Tryz.func152.trans (congrArg some (by kernel_rfl))
 f20:=⟨Tryz.f177.name,by decide,Tryz.func177.trans (congrArg some (by kernel_rfl))⟩
 f21:=⟨Tryz.f178.name,by decide,Tryz.func178.trans (congrArg some (by kernel_rfl))⟩
 f22:=⟨Tryz.f179.name,by decide,Tryz.func179.trans (congrArg some (by kernel_rfl))⟩
 f23:=⟨Tryz.f180.name,by decide,Tryz.func180.trans (congrArg some (by kernel_rfl))⟩
 f24:=⟨Tryz.f181.name,by decide,Tryz.func181.trans (congrArg some (by kernel_rfl))⟩
 f25:=⟨Tryz.f182.name,by decide,Tryz.func182.trans (congrArg some (by kernel_rfl))⟩
 f26:=⟨Tryz.f183.name,by decide,Tryz.func183.trans (congrArg some (by kernel_rfl))⟩
 f27:=⟨Tryz.f184.name,by decide,Tryz.func184.trans (congrArg some (by kernel_rfl))⟩
 f28:=Tryz.func169.trans (congrArg some (by kernel_rfl))
 f29:=Tryz.func170.trans (congrArg some (by kernel_rfl))
 f46:=⟨Tryz.f195.name,by decide,Tryz.func195.trans (congrArg some (by kernel_rfl))⟩
 f47:=Tryz.func187.trans (congrArg some (by kernel_rfl))
 f48:=Tryz.func188.trans (congrArg some (by kernel_rfl))
 f49:=⟨Tryz.f196.name,by decide,Tryz.func196.trans (congrArg some (by kernel_rfl))⟩
 f50:=⟨Tryz.f197.name,by decide,Tryz.func197.trans (congrArg some (by kernel_rfl))⟩
 f57:=⟨Tryz.f201.name,by decide,Tryz.func201.trans (congrArg some (by kernel_rfl))⟩
 t0:=Tryz.underlying0
 a0:=Tryz.isAgg0
 z0:=Tryz.sizeOf0
 v0:=Tryz.zeroValue0
 t3:=Tryz.underlying3
 a3:=Tryz.isAgg3
 z3:=Tryz.sizeOf3
 v3:=Tryz.zeroValue3
 t4:=Tryz.underlying4
 a4:=Tryz.isAgg4
 z4:=Tryz.sizeOf4
 v4:=Tryz.zeroValue4
 t5:=Tryz.underlying5
 a5:=Tryz.isAgg5
 z5:=Tryz.sizeOf5
 v5:=Tryz.zeroValue5
 t9:=Tryz.underlying9
 a9:=Tryz.isAgg9
 z9:=Tryz.sizeOf9
 v9:=Tryz.zeroValue9
 t22:=Tryz.underlying175
 a22:=Tryz.isAgg175
 z22:=Tryz.sizeOf175
 v22:=Tryz.zeroValue175
 t25:=Tryz.underlying211
 a25:=Tryz.isAgg211
 z25:=Tryz.sizeOf211
 v25:=Tryz.zeroValue211
 t39:=Tryz.underlying214
 a39:=Tryz.isAgg214
 z39:=Tryz.sizeOf214
 v39:=Tryz.zeroValue214
 t45:=Tryz.underlying224
 a45:=Tryz.isAgg224
 z45:=Tryz.sizeOf224
 v45:=Tryz.zeroValue224
 t46:=Tryz.underlying225
 a46:=Tryz.isAgg225
 z46:=Tryz.sizeOf225
 v46:=Tryz.zeroValue225
 t50:=Tryz.underlying143
 a50:=Tryz.isAgg143
 z50:=Tryz.sizeOf143
 v50:=Tryz.zeroValue143
 t53:=Tryz.underlying231
 a53:=Tryz.isAgg231
 z53:=Tryz.sizeOf231
 v53:=Tryz.zeroValue231
 t55:=Tryz.underlying233
 a55:=Tryz.isAgg233
 z55:=Tryz.sizeOf233
 v55:=Tryz.zeroValue233
 t66:=Tryz.underlying243
 a66:=Tryz.isAgg243
 z66:=Tryz.sizeOf243
 v66:=Tryz.zeroValue243
 t70:=Tryz.underlying247
 a70:=Tryz.isAgg247
 z70:=Tryz.sizeOf247
 v70:=Tryz.zeroValue247
 t76:=Tryz.underlying255
 a76:=Tryz.isAgg255
 z76:=Tryz.sizeOf255
 v76:=Tryz.zeroValue255
 t77:=Tryz.underlying113
 a77:=Tryz.isAgg113
 z77:=Tryz.sizeOf113
 v77:=Tryz.zeroValue113 }
def Tryz.lays167_ren:Go.Shelf.Ren:=⟨fun|167=>104|240=>141|276=>156|n=>n,fun|0=>0|4=>4|5=>5|9=>9|20=>20|37=>159|70=>158|72=>161|75=>163|80=>168|164=>218|n=>n,fun|n=>n⟩
theorem Tryz.lays167:Go.Proofs.Lays.n167 Tryz.prog Tryz.lays167_ren:={
 mixed:=by kernel_rfl
 f167:=Tryz.func104.trans (congrArg some (by kernel_rfl))
 f240:=Tryz.func141.trans (congrArg some (by kernel_rfl))
 f276:=Tryz.func156.trans (congrArg some (by kernel_rfl))
 t0:=Tryz.underlying0
 a0:=Tryz.isAgg0
 z0:=Tryz.sizeOf0
 v0:=Tryz.zeroValue0
 t4:=Tryz.underlying4
 a4:=Tryz.isAgg4
 z4:=Tryz.sizeOf4
 v4:=Tryz.zeroValue4
 t5:=Tryz.underlying5
 a5:=Tryz.isAgg5
 z5:=Tryz.sizeOf5
 v5:=Tryz.zeroValue5
 t9:=Tryz.underlying9
 a9:=Tryz.isAgg9
 z9:=Tryz.sizeOf9
 v9:=Tryz.zeroValue9
 t20:=Tryz.underlying20
 a20:=Tryz.isAgg20
 z20:=Tryz.sizeOf20
 v20:=Tryz.zeroValue20
 t37:=Tryz.underlying159
 a37:=Tryz.isAgg159
 z37:=Tryz.sizeOf159
 v37:=Tryz.zeroValue159
 t70:=Tryz.underlying158
 a70:=Tryz.isAgg158
 z70:=Tryz.sizeOf158
 v70:=Tryz.zeroValue158
 t72:=Tryz.underlying161
 a72:=Tryz.isAgg161
 z72:=Tryz.sizeOf161
 v72:=Tryz.zeroValue161
 t75:=Tryz.underlying163
 a75:=Tryz.isAgg163
 z75:=Tryz.sizeOf163
 v75:=Tryz.zeroValue163
 t164:=Tryz.underlying218
 a164:=Tryz.isAgg218
 z164:=Tryz.sizeOf218
 v164:=Tryz.zeroValue218 }
theorem Tryz.Builder_Extra_167:Builder.Extra Tryz.prog Tryz.lays167_ren:={
 sizeBuilder:=by kernel_rfl
 liesBuilder:=by kernel_rfl
 t5:=Tryz.underlying5
 a5:=Tryz.isAgg5
 z5:=Tryz.sizeOf5
 v5:=Tryz.zeroValue5
 infoByte:=by kernel_rfl
 cellsByte:=by kernel_rfl
 sizeByte:=by kernel_rfl
 neB5:=by decide }
open Go.RowKit in
theorem Tryz.Builder_WriteByte_k (B b:Nat) (bs:List Value) (c:Int) (w:World) (h:Lib.IsBuilderF 161 5 B b bs w) (hlen:bs.length+1≤140737488355328) (hBw:B≤w.heap.size) :
  Calls Tryz.prog 104 #[.pointer (some ⟨b,0,none⟩),.int .u8 c] w fun e w'=>e = .returned .nilIface∧(Lib.BuilderAtF 161 5 B b (.pointer (some ⟨b,0,none⟩)) (bs++[.int .u8 c]) w'∧Below B w w'∧Lib.OthersKept 5 (some b) w w'):=Any.Builder_WriteByte_k Tryz.lays167 Tryz.Builder_Extra_167 B b bs c w h hlen hBw
def Tryz.lays166_ren:Go.Shelf.Ren:=⟨fun|166=>102|240=>141|276=>156|n=>n,fun|0=>0|3=>3|4=>4|5=>5|9=>9|20=>20|37=>159|70=>158|72=>161|75=>163|80=>168|164=>218|n=>n,fun|n=>n⟩
theorem Tryz.lays166:Go.Proofs.Lays.n166 Tryz.prog Tryz.lays166_ren:={
 mixed:=by kernel_rfl
 f166:=Tryz.func102.trans (congrArg some (by kernel_rfl))
 f240:=Tryz.func141.trans (congrArg some (by kernel_rfl))
 f276:=Tryz.func156.trans (congrArg some (by kernel_rfl))
 t0:=Tryz.underlying0
 a0:=Tryz.isAgg0
 z0:=Tryz.sizeOf0
 v0:=Tryz.zeroValue0
 t3:=Tryz.underlying3
 a3:=Tryz.isAgg3
 z3:=Tryz.sizeOf3
 v3:=Tryz.zeroValue3
 t4:=Tryz.underlying4
 a4:=Tryz.isAgg4
 z4:=Tryz.sizeOf4
 v4:=Tryz.zeroValue4
 t9:=Tryz.underlying9
 a9:=Tryz.isAgg9
 z9:=Tryz.sizeOf9
 v9:=Tryz.zeroValue9
 t20:=Tryz.underlying20
 a20:=Tryz.isAgg20
 z20:=Tryz.sizeOf20
 v20:=Tryz.zeroValue20
 t37:=Tryz.underlying159
 a37:=Tryz.isAgg159
 z37:=Tryz.sizeOf159
 v37:=Tryz.zeroValue159
 t70:=Tryz.underlying158
 a70:=Tryz.isAgg158
 z70:=Tryz.sizeOf158
 v70:=Tryz.zeroValue158
 t72:=Tryz.underlying161
 a72:=Tryz.isAgg161
 z72:=Tryz.sizeOf161
 v72:=Tryz.zeroValue161
 t75:=Tryz.underlying163
 a75:=Tryz.isAgg163
 z75:=Tryz.sizeOf163
 v75:=Tryz.zeroValue163
 t164:=Tryz.underlying218
 a164:=Tryz.isAgg218
 z164:=Tryz.sizeOf218
 v164:=Tryz.zeroValue218 }
theorem Tryz.Builder_Extra_166:Builder.Extra Tryz.prog Tryz.lays166_ren:={
 sizeBuilder:=by kernel_rfl
 liesBuilder:=by kernel_rfl
 t5:=Tryz.underlying5
 a5:=Tryz.isAgg5
 z5:=Tryz.sizeOf5
 v5:=Tryz.zeroValue5
 infoByte:=by kernel_rfl
 cellsByte:=by kernel_rfl
 sizeByte:=by kernel_rfl
 neB5:=by decide }
open Go.RowKit in
theorem Tryz.Builder_WriteString_k (B b:Nat) (bs:List Value) (s:ByteArray) (w:World) (h:Lib.IsBuilderF 161 5 B b bs w) (hlen:bs.length+s.size≤140737488355328) (hBw:B≤w.heap.size) :
  Calls Tryz.prog 102 #[.pointer (some ⟨b,0,none⟩),.string s] w fun e w'=>e = .returned (.tuple #[.int .i64 s.size,.nilIface])∧(Lib.BuilderAtF 161 5 B b (.pointer (some ⟨b,0,none⟩)) (bs++Lib.strCells s) w'∧Below B w w'∧Lib.OthersKept 5 (some b) w w'):=Any.Builder_WriteString_k Tryz.lays166 Tryz.Builder_Extra_166 B b bs s w h hlen hBw
end Go.Proofs
end
section
namespace Go.Abs
open Go Go.Sort Go.RowKit
theorem Q31 {P:Program} {f:FuncId} {ex:Array Value} {exV:List V} {sz nb:Nat} {M:Mem} (hb:Qh0 P f=true) (hex:∀ g w us,RFs g w exV us→us=ex.toList)
  (h:∀ (p:Option Addr) (cap:Nat) (w:World),Calls P f (#[.slice p 0 cap]++ex) w fun e' w'=>e' = .returned (.tuple #[])∧w'=w) (hexf:V.dems exV=exV:=by rfl) :
  ACalls P f (.d (.lst sz [])::exV) M nb (.tup []) M nb:=by
 refine ACalls.mk' hb (Nat.le_refl _) (by simp only [V.dems,V.dem,hexf]) fun w g us hm hMon hus hfl hons=>?_;obtain ⟨u0,us',rfl,hu0,hus'⟩:=hus;have h1:=hex _ _ _ hus';subst h1;have h2:∃ p cap,u0 = .slice p 0 cap:=by
  have:=RF_d.1 hu0;obtain ⟨a,cap,rfl,_,_⟩:=this;exact ⟨a,cap,rfl⟩
 obtain ⟨p,cap,rfl⟩:=h2;have e1:(Value.slice p 0 cap::ex.toList).toArray = #[.slice p 0 cap]++ex:=by apply Array.ext';simp
 rw [e1];refine (h p cap w).mono ?_;rintro e' w' ⟨rfl,rfl⟩;exact ⟨_,g,rfl,hm,⟨[],rfl,rfl⟩,trivial,hMon,Fr.refl _ _ _⟩
theorem Q90 (l:List Int):(l.mergeSort fun x y=>decide (x≤y))=Qlv Qkb l:=by
 have hO:Go.Sort.SWO Qkb:=⟨fun x=>by simp [Qkb],fun x y z h1 h2=>by simp [Qkb] at *;omega,fun x y z h1 h2=>by simp [Qkb] at *;omega⟩;refine List.Perm.eq_of_pairwise (le:=fun a b=>Qkb b a=false) (fun a b _ _ h1 h2=>by simp [Qkb] at *;omega) ?_ (Qop hO l) ((List.mergeSort_perm _ _).trans (Qmu _ l).symm);have:=List.pairwise_mergeSort (le:=fun x y:Int=>decide (x≤y)) (fun a b c h1 h2=>by simp at *;omega) (fun a b=>by simp;omega) l;exact this.imp fun h=>by simp [Qkb] at *;omega
end Go.Abs
end
section
namespace Go.Abs
open Go Go.Sort Go.Shelf Go.RowKit Go.Lib Go.Proofs
theorem Q8k {α:Type} [Inhabited α] {enc:α→List Value} {k:Nat} (hk:∀ x,(enc x).length=k) (h0:0<k):∀ (l:List α) (t:Nat),t<l.length*k→(l.map enc).flatten[t]? = some (enc l[t / k]!)[t % k]!
 | [],t,h=>by simp at h
 | x::xs,t,h=>by
  rw [List.map_cons,List.flatten_cons];by_cases hl:t<k
  ·rw [List.getElem?_append_left (by rw [hk];exact hl),Nat.div_eq_of_lt hl,Nat.mod_eq_of_lt hl];have:t<(enc x).length:=by rw [hk];exact hl
   simp [this]
  ·have hge:k≤t:=by omega
   have h2:t-k<xs.length*k:=by simp only [List.length_cons,Nat.add_mul,Nat.one_mul] at h;omega
   rw [List.getElem?_append_right (by rw [hk];exact hge),hk,Q8k hk h0 xs (t-k) h2];have e1:t / k=(t-k) / k+1:=by rw [← Nat.add_div_right _ h0,Nat.sub_add_cancel hge]
   have e2:t % k=(t-k) % k:=by rw [Nat.mod_eq_sub_mod hge]
   rw [e1,e2];simp
theorem Q8l {α:Type} [Inhabited α] {enc:α→List Value} {k:Nat} (hk:∀ x,(enc x).length=k) (h0:0<k) (l:List α):flatK enc k l.toArray=(l.map enc).flatten.toArray:=by
 have hs:(l.map enc).flatten.length=l.length*k:=by
  induction l with
  | nil=>simp
  | cons x xs ih=>rw [List.map_cons,List.flatten_cons,List.length_append,ih,hk];simp [Nat.add_mul];omega
 refine ext_get! (by simp [hs]) fun t ht=>?_;have ht' : t<l.length*k:=by simpa using ht
 rw [get_flatK _ _ _ _ (by simpa using ht')];have:=Q8k hk h0 l t ht';obtain ⟨h1,h2⟩:=List.getElem?_eq_some_iff.1 this;rw [getElem!_pos _ t (by simpa using h1)];simp only [List.getElem_toArray,h2];simp
theorem Q8m {α:Type} (e:α→List D) (xs:List α):rowV e xs=(xs.map fun x=>(e x).map D.val).flatten:=by
 unfold rowV;rw [List.map_flatten,List.map_map];rfl
theorem Q4s {P:Program} {ρ:Ren} {α:Type} [Inhabited α] (L:SlLaysF0.n6 P ρ) {k:Nat} (aE:∀ w,(isAgg (ρ.t 24)).run P w = .ok true w) (zE:∀ w,(Go.sizeOf (ρ.t 24)).run P w = .ok k w) (e:α→List D) (hk:∀ x,(e x).length=k) (h0:0<k) (hsc:∀ x,(e x).all D.scalar=true)
  (cf:α→α→Int) (hO:SWO (ltOf cf)) (g:Nat) (cb:Array Value) (eg:∀ args w,(callFunc g args).run P w = .ok (.enter g args) w)
  (hcmp:∀ (x y:α) (W:World),Calls P g (#[.agg ((e x).map D.val).toArray,.agg ((e y).map D.val).toArray]++cb) W fun r w'=>r = .returned (.int .i64 (cf x y))∧∃ q os',w'=grow (W.drewN q) os') :
  Qbej P (ρ.f 6) e #[.func (.func g) #[] cb] (fun xs=>(pdq (ltOf cf) xs.toArray 0 xs.length (Lib.bitLen xs.length) true true).toList):=by
 intro blk cap xs w hc hblk hsz;have henc:∀ x,((fun x=>(e x).map D.val) x).length=k:=fun x=>by simp [hk]
 have h1:∀ x:α,∀ v∈(e x).map D.val,v.oneCell'=true:=by
  intro x v hv;obtain ⟨d,hd,rfl⟩:=List.mem_map.1 hv;exact Q9y (List.all_eq_true.1 (hsc x) d hd)
 have hH:HoldsK (fun x=>(e x).map D.val) k w blk 0 xs.toArray:=by
  unfold HoldsK;rw [Q8l henc h0,← Q8m];intro j hj;have hj' : j<(rowV e xs).length:=by simpa using hj
  obtain ⟨k1,k2⟩:=hc j hj';rw [Nat.zero_add];refine ⟨k1.trans ?_,k2⟩;rw [List.getElem?_eq_getElem hj',getElem!_pos _ j hj];rfl
 have hcl:CmpLays P g cb (fun x=>(e x).map D.val) k cf blk 0 xs.toArray.size w:=fun _ _ _ _ x y=>hcmp x y _;have:=AnyQ.slices_SortFunc_eq L k aE zE (fun x=>(e x).map D.val) henc h1 cf hO g cb blk 0 cap xs.toArray w eg hcl hH hblk (by simpa using hsz);refine this.mono ?_;rintro r w' ⟨rfl,n,os,rfl⟩;refine ⟨rfl,n,os,?_⟩;unfold sortWorldK putRowK;have hrow:flatK (fun x=>(e x).map D.val) k (pdq (ltOf cf) xs.toArray 0 xs.toArray.size (Lib.bitLen xs.toArray.size) true true)=(rowV e (pdq (ltOf cf) xs.toArray 0 xs.length (Lib.bitLen xs.length) true true).toList).toArray:=by
  rw [Q8m,← Q8l henc h0];simp
 rw [hrow]
section
variable {α:Type} [Inhabited α]
theorem Q6v {lt:α→α→Bool} (hO:SWO lt) (xs:List α) (k:Nat):(pdq lt xs.toArray 0 xs.length k true true).toList.Perm xs∧(pdq lt xs.toArray 0 xs.length k true true).toList.Pairwise fun a b=>lt b a=false:=by
 obtain ⟨⟨h1,_,h2⟩,h3⟩:=pdq_sorts lt hO xs.toArray 0 xs.length k true true (Nat.zero_le _) (by simp) (Or.inl rfl);generalize pdq lt xs.toArray 0 xs.length k true true=d at *
 have hs:d.size=xs.length:=by simpa using h1
 refine ⟨?_,?_⟩
 ·have e1:d.extract 0 xs.length=d:=by rw [← hs];exact Array.extract_size
  have e2:xs.toArray.extract 0 xs.length=xs.toArray:=by
   have:xs.length=xs.toArray.size:=by simp
   rw [this];exact Array.extract_size
  rw [e1,e2] at h2;simpa using h2
 ·rw [List.pairwise_iff_getElem];intro i j hi hj hij;have hi' : i<d.size:=by simpa using hi
  have hj' : j<d.size:=by simpa using hj
  have:=h3 i j (Nat.zero_le _) hij (by omega);rw [getElem!_pos d i hi',getElem!_pos d j hj'] at this;simpa using this
theorem Qbet {lt:α→α→Bool} (hO:SWO lt) (xs:List α) (k:Nat) (hd:Q4r lt xs=true):(pdq lt xs.toArray 0 xs.length k true true).toList=Qlv lt xs :=
 Q6u hO hd (Q6v hO xs k).1 (Q6v hO xs k).2
end
theorem Qbeu {β:Type} {P:Program} {c:Nat} {e:β→List D} {sz N:Nat} {ok:β→Bool} {lt:β→β→Bool} [Inhabited {x:β // ok x=true}] {lt' : {x:β // ok x=true}→{x:β // ok x=true}→Bool}
  (hN:N<4611686018427387904) (hk:∀ x,(e x).length=sz) (hsc:∀ x,(e x).all D.scalar=true) (hO:SWO lt') (hlt:∀ x y,lt' x y=lt x.1 y.1) (hb:Qh0 P c=true) {ex:Array Value} {exV:List V} (hex:∀ g w us,RFs g w exV us→us=ex.toList)
  (hrow:Qbej P c (fun x:{x:β // ok x=true}=>e x.1) ex (fun xs=>(pdq lt' xs.toArray 0 xs.length (Lib.bitLen xs.length) true true).toList))
  (hnone:∀ (p:Option Addr) (cap:Nat) (w:World),Calls P c (#[.slice p 0 cap]++ex) w fun e' w'=>e' = .returned (.tuple #[])∧w'=w) (hexf:V.dems exV=exV:=by rfl) :
  RowK P c e sz exV (fun l=>if l.length≤N then Qbip ok lt l else none):=by
 intro xs ys h;dsimp only at h;split at h<;>try (cases h;done)
 rename_i hlN;unfold Qbip at h;split at h<;>cases h;rename_i hok;simp only [Bool.and_eq_true,List.all_eq_true] at hok;obtain ⟨ho,hd⟩:=hok;obtain ⟨zs,rfl⟩ : ∃ zs:List {x:β // ok x=true},xs=zs.map Subtype.val:=⟨xs.pmap Subtype.mk ho,by rw [List.map_pmap];simp⟩;have hd' : Q4r lt' zs=true:=by
  rw [Q8j] at hd;rw [show lt'=fun a b=>lt a.1 b.1 from funext fun a=>funext fun b=>hlt a b];exact hd
 have e1:Qlv lt (zs.map Subtype.val)=(Qlv lt' zs).map Subtype.val:=by
  rw [Q5u,show lt'=fun a b=>lt a.1 b.1 from funext fun a=>funext fun b=>hlt a b]
 refine ⟨Qoo _ _,fun h0=>?_,fun hl cap k0 M nb hM=>?_⟩
 ·simp only [List.map_eq_nil_iff] at h0;subst h0;exact ⟨rfl,fun M nb=>Q31 hb hex hnone hexf⟩
 ·have hM' : M k0=some (.cells (Qby (zs.map fun x=>e x.1) ((cap-zs.length)*sz))):=by
   rw [hM,List.map_map,List.length_map];rfl
  have:=Q5q (fun x=>hk x.1) (fun x=>hsc x.1) (fun xs=>(Q6v hO xs _).1.length_eq) hex hb hrow zs cap k0 M nb hM' (by rw [List.length_map] at hlN;omega) hexf;rw [Qbet hO zs _ hd'] at this;rw [e1,List.map_map,List.length_map];exact this
end Go.Abs
end
section
namespace Go.Abs
open Go Go.Sort Go.RowKit
theorem Q32 (xs:List Int):rowV (eI .i64) xs=xs.map (Value.int .i64):=by
 unfold rowV
 induction xs with
 | nil=>rfl
 | cons x xs ih=>simp only [List.map_cons,List.flatten_cons,List.map_append,ih];rfl
theorem Qbev {P:Program} {c:Nat} (hb:Qh0 P c=true)
  (hs:∀ (blk off cap:Nat) (zs:List Int) (w:World),Holds (Value.int .i64) w blk off zs.toArray→blk<w.heap.size→zs.length<4611686018427387904 →
   Calls P c #[.slice (some ⟨blk,off,none⟩) zs.length cap] w fun e w'=>e = .returned (.tuple #[])∧∃ n os,w'=grow (putRow (Value.int .i64) (Sort.ahead w n) blk off (zs.mergeSort fun x y=>decide (x≤y)).toArray) os)
  (hnone:∀ (p:Option Addr) (cap:Nat) (w:World),Calls P c (#[.slice p 0 cap] ++ #[]) w fun e' w'=>e' = .returned (.tuple #[])∧w'=w) :
  RowK P c (eI .i64) 1 [] (fun l=>if l.length≤lim then some (Qlv Qkb l) else none):=by
 have hrow:Qbej P c (eI .i64) #[] (fun xs=>Qlv Qkb xs):=by
  intro blk cap xs w hcell hblk hsz;refine Calls.mono (hs blk 0 cap xs w ?_ hblk hsz) ?_
  ·intro j hj;have hj' : j<xs.length:=by simpa using hj
   have:=hcell j (by rw [Q32];simpa using hj');rw [Q32] at this;rw [Nat.zero_add];refine ⟨?_,this.2⟩;rw [this.1,getElem!_pos xs.toArray j hj];simp [hj']
  ·rintro e w' ⟨rfl,n,os,rfl⟩;refine ⟨rfl,n,os,?_⟩;rw [Q90,Q32];congr 1;unfold putRow;congr 1;funext c;unfold putCells;congr 1;funext k x;simp only [List.size_toArray,List.length_map];split
   ·rename_i h;simp only [id];rw [getElem!_pos _ _ (by simp;omega),getElem!_pos _ _ (by simp;omega)];simp
   ·rfl
 intro xs ys h;dsimp only at h;split at h<;>cases h;rename_i hl;refine ⟨Qoo _ _,fun h0=>?_,fun hl2 cap k0 M nb hM=>?_⟩
 ·subst h0;exact ⟨rfl,fun M nb=>Q31 (ex:=#[]) (exV:=[]) hb (fun _ _ _ h=>h) hnone⟩
 ·exact Q5q (e:=eI .i64) (fun _=>rfl) (fun _=>rfl) (fun xs=>Qoo _ _) (ex:=#[]) (exV:=[]) (fun _ _ _ h=>h) hb hrow xs cap k0 M nb hM (by unfold lim at hl;omega)
end Go.Abs
end
section
namespace Go.Abs
open Go Go.Sort Go.RowKit Go.Lib
theorem Q33 (zs:List Int):(Lib.compact zs).length≤zs.length:=by
 unfold Lib.compact Lib.compactUpTo;rw [List.length_map];exact Nat.le_trans (List.length_filter_le _ _) (by simp)
theorem Qbiq (l:List Int):(l.map (eI .i64)).flatten=l.map (D.int .i64):=by
 induction l with
 | nil=>rfl
 | cons x l ih=>simp only [List.map_cons,List.flatten_cons,ih];rfl
theorem Qbcj {P:Program} {c:Nat} (hb:Qh0 P c=true)
  (hs:∀ (blk off cap:Nat) (zs:List Int) (w:World),Holds (Value.int .i64) w blk off zs.toArray→zs.length≤9223372036854775807→zs.length≤cap →
   Calls P c #[.slice (some ⟨blk,off,none⟩) zs.length cap] w fun e w'=>e = .returned (.slice (some ⟨blk,off,none⟩) (Lib.compact zs).length cap)∧∃ n,w'=putRow (Value.int .i64) (Sort.ahead w n) blk off (Lib.compact zs++List.replicate (zs.length-(Lib.compact zs).length) 0).toArray)
  (hnone:∀ (p:Option Addr) (cap:Nat) (w:World),Calls P c #[.slice p 0 cap] w fun e' w'=>e' = .returned (.slice p 0 cap)∧w'=w) :
  CompK P c (fun l=>if l.length≤lim then some (Lib.compact l) else none):=by
 intro xs ys hf;dsimp only at hf;split at hf<;>cases hf;rename_i hl;refine ⟨Q33 xs,fun h0=>?_,fun cap k0 M nb hcap hM=>?_⟩
 ·subst h0;refine ⟨rfl,fun M nb=>ACalls.mk' hb (Nat.le_refl _) rfl fun w g us hm hMon hus hfl hons=>?_⟩;obtain ⟨u0,us',rfl,hu0,rfl⟩:=hus;have h2:=RF_d.1 hu0;obtain ⟨a,cp,rfl,_,_⟩:=id h2;refine (hnone a cp w).mono ?_;rintro e' w' ⟨rfl,rfl⟩;exact ⟨_,g,rfl,hm,hu0 _,trivial,hMon,Fr.refl _ _ _⟩
 refine ACalls.mk' hb (Nat.le_refl _) rfl fun w g us hm hMon hus hfl hons=>?_;obtain ⟨u0,us',rfl,hu0,rfl⟩:=hus;have h0:=Q4l.1 hu0;subst h0;obtain ⟨hk0,hown,vals,et,hh,hrv,hone⟩:=hm.box k0 _ hM;have hlt:g.box k0<w.heap.size:=(Array.getElem?_eq_some_iff.1 hh).1;obtain ⟨hvl,hvr⟩:=(Qcr _ _ _ _).1 hrv;simp only [Qby,Qbiq,List.map_map,List.length_append,List.length_map,List.length_replicate,Nat.mul_one] at hvl hvr;have hcell:∀ (j:Nat) (x:Int),xs[j]? = some x→vals[j]? = some (.int .i64 x):=by
  intro j x hx;have hj:=(List.getElem?_eq_some_iff.1 hx).1;have hjv:j<vals.length:=by omega
  have hc:(List.map (V.d ∘ D.int .i64) xs++List.replicate (cap-xs.length) V.und)[j]? = some (.d (.int .i64 x)):=by
   rw [List.getElem?_append_left (by rw [List.length_map];exact hj),List.getElem?_map,hx];rfl
  have:=hvr j _ _ hc (List.getElem?_eq_getElem hjv);have h2:vals[j] = .int .i64 x:=this;rw [List.getElem?_eq_getElem hjv,h2]
 have hH:Holds (Value.int .i64) w (g.box k0) 0 xs.toArray:=by
  intro j hj;have hj' : j<xs.length:=by simpa using hj
  have:=hcell j xs[j] (List.getElem?_eq_getElem hj');rw [Nat.zero_add];refine ⟨?_,by simp [World.frozen?,hh]⟩;rw [getElem!_pos xs.toArray j hj];simp [World.cell?,hh,this]
 refine (hs (g.box k0) 0 cap xs w hH (by unfold lim at hl;omega) hcap).mono ?_;rintro e' w' ⟨rfl,n,rfl⟩;have hyl:=Q33 xs;generalize Lib.compact xs=ys at hyl ⊢;generalize hF:(ys++List.replicate (xs.length-ys.length) 0).toArray=F;have hFs:F.size=xs.length:=by rw [← hF];simp;omega
 have hput:putRow (Value.int .i64) (Sort.ahead w n) (g.box k0) 0 F=grow (putRow id (Sort.ahead w n) (g.box k0) 0 (F.map (Value.int .i64))) #[]:=by
  have e1:∀ W:World,grow W #[]=W:=fun W=>by unfold grow;simp
  rw [e1];unfold putRow;congr 1;funext c;unfold putCells;congr 1;funext k x;simp only [Array.size_map];split
  ·rename_i h;simp only [id];rw [getElem!_pos _ _ (by omega),getElem!_pos _ _ (by simp;omega)];simp
  ·rfl
 rw [hput];generalize hF' : F.map (Value.int .i64)=F';have hFs' : F'.size=xs.length:=by rw [← hF',Array.size_map,hFs]
 have hFv:∀ j (h:j<ys.length),F'[j]'(by omega)=Value.int .i64 ys[j]:=by
  intro j h;subst hF';subst hF;simp only [List.getElem_toArray,Array.getElem_map];rw [List.getElem_append_left h]
 have hFi:∀ j (h:j<F'.size),∃ z:Int,F'[j]=Value.int .i64 z:=by
  intro j h;subst hF';exact ⟨_,Array.getElem_map ..⟩
 have hblk:=Q3m w n (g.box k0) F' #[] hh;have hoth:∀ b,b≠g.box k0→b<w.heap.size→(grow (putRow id (Sort.ahead w n) (g.box k0) 0 F') #[]).heap[b]? = w.heap[b]?:=fun b hb hlt=>Qr7 w n _ F' #[] hb hlt;have hsize:w.heap.size≤(grow (putRow id (Sort.ahead w n) (g.box k0) 0 F') #[]).heap.size:=by
  simp [putRow,mapBlock,Sort.ahead]
 generalize hw' : grow (putRow id (Sort.ahead w n) (g.box k0) 0 F') #[]=w' at hblk hoth hsize;have himm:Imm g.imm g.imm w w':=by
  refine ⟨fun _ _ h=>h,fun b o h=>?_⟩;obtain ⟨k1,k2⟩:=hm.imm b o h;have hne:b≠g.box k0:=by rintro rfl;exact k2 k0 hown
  exact Qet (hoth b hne k1)
 have hkept:Kept g w g w' (There M) (fun o=>o ≠ .box k0):=⟨himm,fun _ _=>rfl,fun b hb hl=>⟨rfl,hoth b (by rintro rfl;exact hb hown) hl,fun _=>Iff.rfl⟩⟩;have hsub:∀ (o:Owner) i,o ≠ .box k0→o.sub i ≠ .box k0:=by intro o i _;cases o<;>simp [Owner.sub]
 have hnew:∀ p:Nat→Prop,V.ons p (Qby (ys.map (eI .i64)) ((cap-ys.length)*1)):=by
  intro p;rw [Qhz];intro v hv;simp only [Qby,List.mem_append,List.mem_map,List.mem_replicate] at hv;rcases hv with ⟨x,_,rfl⟩|⟨_,rfl⟩<;>trivial
 have hth:There (M.put k0 (.cells (Qby (ys.map (eI .i64)) ((cap-ys.length)*1)))) k0:=by simp [There,Mem.put]
 refine ⟨_,g,rfl,⟨fun k b hk=>?_,fun b o h=>⟨Nat.lt_of_lt_of_le (hm.imm b o h).1 hsize,(hm.imm b o h).2⟩⟩,by simp [RV],hth,fun k cs hk=>?_,?_⟩
 ·by_cases hkk:k=k0
  ·subst hkk;rw [Qgl] at hk;cases hk;refine ⟨hk0,hown,(putCells id 0 F' vals.toArray).toList,et,by simpa using hblk,(Qcr _ _ _ _).2 ⟨?_,fun j cc x hc hx=>?_⟩,fun x hx=>?_⟩
   ·simp only [Qby,Qbiq,List.map_map,List.length_append,List.length_map,List.length_replicate,Nat.mul_one];simp [putCells];omega
   ·have hx' : (putCells id 0 F' vals.toArray)[j]? = some x:=by simpa using hx
    simp only [putCells,Array.getElem?_mapIdx,List.getElem?_toArray,Option.map_eq_some_iff] at hx';obtain ⟨y,hy,rfl⟩:=hx';simp only [Qby,Qbiq,List.map_map,Nat.mul_one] at hc;by_cases hj:j<ys.length
    ·rw [List.getElem?_append_left (by rw [List.length_map];exact hj),List.getElem?_map,List.getElem?_eq_getElem hj,Option.map_some,Option.some.injEq] at hc;subst hc;rw [if_pos ⟨Nat.zero_le _,by omega⟩];simp only [Nat.sub_zero,id];rw [getElem!_pos F' j (by omega),hFv j hj];simp [RV,RD]
    ·rw [List.getElem?_append_right (by rw [List.length_map];omega)] at hc;have:cc = .und:=(List.mem_replicate.1 (List.mem_of_getElem? hc)).2;subst this;simp [RV]
   ·obtain ⟨j,hj⟩:=List.getElem?_of_mem hx;have hx' : (putCells id 0 F' vals.toArray)[j]? = some x:=by simpa using hj
    simp only [putCells,Array.getElem?_mapIdx,List.getElem?_toArray,Option.map_eq_some_iff] at hx';obtain ⟨y,hy,rfl⟩:=hx';split
    ·rename_i hr;simp only [id];rw [getElem!_pos F' _ (by omega)];obtain ⟨z,hz⟩:=hFi (j-0) (by omega);rw [hz];exact Q9y (x:=.int .i64 z) rfl
    ·exact hone y (List.mem_of_getElem? hy)
  ·rw [Qb8 _ _ hkk] at hk;obtain ⟨k1,k2,k3⟩:=hm.box k b hk;cases b with
   | mp es c =>
    obtain ⟨ents,q1,q2⟩:=k3;have hne:g.box k≠g.box k0:=by
     intro h;rw [h,hown] at k2;cases k2;exact hkk rfl
    exact ⟨k1,k2,ents,(hoth _ hne (Array.getElem?_eq_some_iff.1 q1).1).trans q1,Qkq (g:=g) (g':=g) hkept (fun _=>by simp) q2⟩
   | cells cs =>
    obtain ⟨vals2,e2,q1,q2,q3⟩:=k3;have hne:g.box k≠g.box k0:=by
     intro h;rw [h,hown] at k2;cases k2;exact hkk rfl
    refine ⟨k1,k2,vals2,e2,(hoth _ hne (Array.getElem?_eq_some_iff.1 q1).1).trans q1,?_,q3⟩;exact RVs_mono hkept hsub (by simp) cs (.box k) 0 vals2 (by simpa using hkk) (hMon k cs hk) q2
 ·by_cases hkk:k=k0
  ·subst hkk;rw [Qgl] at hk;cases hk;exact hnew _
  ·rw [Qb8 _ _ hkk] at hk;exact ons_mono (fun j hj=>There.put hj) _ (hMon k cs hk)
 ·refine ⟨by rw [← hw'];rfl,by rw [← hw'];rfl,by rw [← hw'];rfl,hsize,himm,fun _ _=>rfl,fun b hb ho=>⟨rfl,hoth b ?_ hb,fun _=>Iff.rfl⟩⟩;rintro rfl;rw [hown] at ho;exact ho
end Go.Abs
end
section
namespace Go.Proofs
open Go.Shelf Go.RowKit Go.Lib Go.Sort Go.Abs
theorem Tryz.rowK124:Go.Abs.RowK Tryz.prog 124 (eI .i64) 1 [] Qbj2 :=
 Qbev (by kernel_rfl) Tryz.slices_Sort_int Tryz.slices_Sort_int_none
theorem Tryz.compK125:Go.Abs.CompK Tryz.prog 125 Qbbj :=
 Qbcj (by kernel_rfl) Tryz.slices_Compact_int Tryz.slices_Compact_int_empty
abbrev PlOk:={x:Qd // okPl x=true}
instance:Inhabited PlOk:=⟨⟨⟨0,0⟩,rfl⟩⟩
def cfP (x y:PlOk):Int:=if x.1.ambient_=y.1.ambient_ then x.1.language_-y.1.language_ else x.1.ambient_-y.1.ambient_
theorem Q2f (x y:PlOk):ltOf cfP x y=ltPl x.1 y.1:=by
 unfold ltOf cfP ltPl;apply decide_eq_decide.2;split<;>omega
theorem swoP:SWO (ltOf cfP):={
 irrefl x:=by rw [Q2f];simp [ltPl]
 trans x y z h1 h2:=by rw [Q2f] at *;simp only [ltPl,decide_eq_true_eq] at *;omega
 ntrans x y z h1 h2:=by rw [Q2f] at *;simp only [ltPl,decide_eq_false_iff_not] at *;omega }
set_option maxHeartbeats 1000000 in
theorem Tryz.places146 (x y:PlOk) (W:World):Calls Tryz.prog 146 #[.agg ((Qbn x.1).map D.val).toArray,.agg ((Qbn y.1).map D.val).toArray] W fun e w'=>e = .returned (.int .i64 (cfP x y))∧∃ q os',w'=grow (W.drewN q) os':=by
 obtain ⟨⟨a,b⟩,hx0⟩:=x;obtain ⟨⟨a',b'⟩,hy0⟩:=y;have hx:=hx0;have hy:=hy0;simp only [okPl,decide_eq_true_eq] at hx hy;have w1:IntKind.i64.wrap (a-a')=a-a':=by simp [IntKind.wrap,IntKind.bits,IntKind.signed];omega
 have w2:IntKind.i64.wrap (b-b')=b-b':=by simp [IntKind.wrap,IntKind.bits,IntKind.signed];omega
 have hr:cfP ⟨⟨a,b⟩,hx0⟩ ⟨⟨a',b'⟩,hy0⟩=if a=a' then b-b' else a-a':=rfl;generalize cfP ⟨⟨a,b⟩,hx0⟩ ⟨⟨a',b'⟩,hy0⟩=r at hr ⊢;simp only [Qbn,List.map_cons,List.map_nil,D.val]
 go_enter Tryz.func146,Tryz.ntmps146
 go_wp2
 ·rename_i h;have h:a≠a':=by simpa using h
  go_ret
  exact ⟨by rw [hr,if_neg h];rfl,0,_,by rw [alloc_eq_grow,alloc_eq_grow,grow_grow];rfl⟩
 ·rename_i h;have h:a=a':=by simpa using h
  go_ret
  exact ⟨by rw [hr,if_pos h];rfl,0,_,by rw [alloc_eq_grow,alloc_eq_grow,grow_grow];rfl⟩
set_option maxHeartbeats 1000000 in
theorem Tryz.row145:Qbej Tryz.prog 145 (fun x:PlOk=>Qbn x.1) #[.func (.func 146) #[] #[]] (fun xs=>(pdq (ltOf cfP) xs.toArray 0 xs.length (Lib.bitLen xs.length) true true).toList) :=
 Q4s Tryz.sortP Tryz.isAgg96 Tryz.sizeOf96 (fun x:PlOk=>Qbn x.1) (fun _=>rfl) (by decide) (fun _=>rfl) cfP swoP 146 #[] (enters_of Tryz.func146 (by kernel_rfl) rfl) (fun x y W=>Tryz.places146 x y W)
theorem Tryz.none145 (p:Option Addr) (cap:Nat) (w:World):Calls Tryz.prog 145 (#[.slice p 0 cap] ++ #[.func (.func 146) #[] #[]]) w fun e' w'=>e' = .returned (.tuple #[])∧w'=w :=
 AnyF.slices_SortFunc_none Tryz.sortP p cap (.func (.func 146) #[] #[]) w
theorem Qbj3 {g:G} {w:World} {f:Nat} {us:List Value} (h:RFs g w [.clo f []] us):us = #[Value.func (.func f) #[] #[]].toList:=by
 obtain ⟨u,us',rfl,h1,h2⟩:=h;have h1:=h1 .ext;simp only [RV,RVs] at h1;obtain ⟨vs,rfl,rfl⟩:=h1;have:us'=[]:=h2;subst this;rfl
theorem Tryz.rowK145:Go.Abs.RowK Tryz.prog 145 Qbn 2 [.clo 146 []] Qbes :=
 Qbeu (e:=Qbn) (sz:=2) (N:=65536) (by decide) (fun _=>rfl) (fun _=>rfl) swoP Q2f (by kernel_rfl) (ex:=#[.func (.func 146) #[] #[]]) (exV:=[.clo 146 []]) (fun _ _ us h=>Qbj3 h) Tryz.row145 Tryz.none145
end Go.Proofs
end
section
namespace Go.Abs
open Go Go.RowKit
theorem Qzx {P:Program} {f:FuncId} {args:List V} {x:D} (hx:x.scalar=true) (hb:Qh0 P f=true)
  (h:∀ (w:World) (g:G) (us:List Value),(∀ b o,g.imm b o→b<w.heap.size)→RFs g w args us→Calls P f us.toArray w fun e w'=>e = .returned x.val∧Below w.heap.size w w') (M:Mem) (nb:Nat) (hfl0:V.dems args=args:=by rfl):ACalls P f args M nb (.d x) M nb:=by
 refine ACalls.mk' hb (Nat.le_refl _) hfl0 fun w g us hm hMon hus hfl hons=>?_;refine Calls.mono (h w g us (fun b o hi=>(hm.imm b o hi).1) hus) ?_;rintro e w' ⟨rfl,hbw⟩;have hI:Imm g.imm g.imm w w':=⟨fun _ _ h=>h,fun b o hi=>Qet (hbw.block b (hm.imm b o hi).1)⟩;have hk:Kept g w g w' (There M) (fun _=>True):=⟨hI,fun _ _=>rfl,fun b _ hlt=>⟨rfl,hbw.block b hlt,fun _=>Iff.rfl⟩⟩;refine ⟨_,g,rfl,hm.kept hk hMon (fun _ _ _=>trivial) trivial (fun _ _=>trivial) (fun b o hi=>?_),?_,trivial,hMon,?_⟩
 ·obtain ⟨h1,h2⟩:=hm.imm b o hi;exact ⟨Nat.lt_of_lt_of_le h1 hbw.size,h2⟩
 ·simp only [RV];exact (Qbei hx).2 rfl
 ·exact ⟨hbw.os,hbw.tape,hbw.output,hbw.size,hI,fun _ _=>rfl,fun b hb _=>⟨rfl,hbw.block b hb,fun _=>Iff.rfl⟩⟩
theorem Qbew {g:G} {w:World} {l:List Int} {k:IntKind} {u:Value} (h:RF g w (.d (.lst 1 (l.map (fun n=>[.int k n])))) u) :
  ∃ a cap,u = .slice a l.length cap∧l.length≤cap∧(l=[]∨∃ b o,a=some ⟨b,o,none⟩∧∀ (i:Nat) n,l[i]? = some n→g.imm b (o+i)∧w.cell? ⟨b,o+i,none⟩=some (.int k n)):=by
 have h:=RF_d.1 h;simp only [RD,List.length_map] at h;obtain ⟨a,cap,rfl,hc,hl⟩:=h;refine ⟨a,cap,rfl,hc,?_⟩;rcases hl with hl|⟨b,o,rfl,hl⟩
 ·exact .inl (by simpa using hl)
 ·refine .inr ⟨b,o,rfl,fun i n hi=>?_⟩;have:=(Qxz hl i [.int k n] (by simp [hi])).2;simp only [RDc,Nat.mul_one,RD] at this;obtain ⟨h1,⟨u,h2,rfl⟩,_⟩:=this;exact ⟨h1,h2⟩
end Go.Abs
end
section
namespace Go.Proofs
open Go.RowKit Go.Abs
theorem Qbex {i:Nat} (h:i<100):(Lib.decDigits i).length≤2:=by
 by_cases h1:i<10
 ·rw [Lib.decDigits_one h1];simp
 ·rw [Lib.decDigits_two h1 h];simp
theorem Q91:∀ l:List Int,(∀ x∈l,0≤x∧x<100)→(keyL l).length≤3*l.length
 | [],_=>by simp [keyL]
 | x::l,h=>by
  have hx:=h x (by simp);have h1:=Qbex (i:=x.toNat) (by omega);have ih:=Q91 l fun y hy=>h y (by simp [hy]);simp only [keyL,List.flatMap_cons,List.length_append,List.length_cons,List.length_nil] at *
  omega
set_option maxHeartbeats 4000000 in
set_option maxRecDepth 1000000 in
theorem Tryz.key_walk (l:List Int) (hl:l.length≤lim) (hx:∀ x∈l,0≤x∧x<100) (a:Option Addr) (cap:Nat) (w:World)
  (hc:∀ (i:Nat) n,l[i]? = some n→∃ b o,a=some ⟨b,o,none⟩∧b<w.heap.size∧w.cell? ⟨b,o+i,none⟩=some (.int .i64 n)) :
  Calls Tryz.prog 91 #[.slice a l.length cap] w fun e w'=>e = .returned (.string (keyB l))∧Below w.heap.size w w':=by
 have hlim:l.length≤1099511627776:=hl
 go_enter Tryz.func91,Tryz.ntmps91
 go_wp2
 go_loopw [8] (fun vi wr=>∃ (k:Nat),vi = .int .i64 k∧k≤l.length∧Lib.IsBuilderF 161 5 w.heap.size w.heap.size (Lib.byteCells (keyL (l.take k))) wr∧Below w.heap.size w wr) (fun vi _=>l.length-(intOf vi).toNat)
 case atStart =>
  refine ⟨0,rfl,by omega,?_,((Below.refl _ w).alloc (Nat.le_refl _) _)⟩;exact Lib.IsBuilderF.of (Lib.fresh_isBuilder 161 5 w)
 case round =>
  obtain ⟨k,rfl,hk,hI,hbw⟩:=hrel;by_cases hlt:k<l.length
  ·obtain ⟨b,o,rfl,hb,hcell⟩:=hc k l[k] (List.getElem?_eq_getElem hlt);have hcr:wr.cell? ⟨b,o+k,none⟩=some (.int .i64 l[k]):=by
    rw [← hcell];simp only [World.cell?];rw [hbw.block b hb]
   have hxk:=hx l[k] (List.getElem_mem hlt);obtain ⟨n,hn⟩ : ∃ n:Nat,l[k]=(n:Int):=⟨l[k].toNat,by omega⟩;have hn100:n<100:=by omega
   rw [hn] at hcr;have hdl:=Qbex hn100;have hsz:w.heap.size≤wr.heap.size:=hbw.size;have hkl:=Q91 (l.take k) fun x hxm=>hx x (List.mem_of_mem_take hxm);rw [List.length_take] at hkl
   go_wp2_with (go_at_call 103;refine (Tryz.strconv_Itoa_small n hn100 _).mono ?_)
   rintro e W0 ⟨rfl,rfl⟩
   go_wp2_with (go_at_call 102;refine (Tryz.Builder_WriteString_k w.heap.size w.heap.size _ _ _ hI (by rw [Lib.byteCells_length];simp only [ByteArray.size,List.size_toArray];omega) hsz).mono ?_)
   rintro e W1 ⟨rfl,h1,b1,k1⟩;have hsz1:w.heap.size≤W1.heap.size:=Nat.le_trans hsz b1.size;have hlen2:(Lib.byteCells (keyL (l.take k))++Lib.strCells ⟨(Lib.decDigits n).toArray⟩).length+1≤140737488355328:=by
    rw [show Lib.strCells ⟨(Lib.decDigits n).toArray⟩=Lib.byteCells (Lib.decDigits n) from rfl,List.length_append,Lib.byteCells_length,Lib.byteCells_length];omega
   go_wp2_with (go_at_call 104;refine (Tryz.Builder_WriteByte_k w.heap.size w.heap.size _ 32 _ (Or.inr h1) hlen2 hsz1).mono ?_)
   rintro e W2 ⟨rfl,h2,b2,k2⟩
   go_wp2
   go_roundw
   case rel =>
    refine ⟨k+1,by simp,by omega,?_,(hbw.trans b1).trans b2⟩;have e1:keyL (l.take (k+1))=keyL (l.take k)++Lib.decDigits n++[32]:=by
     rw [List.take_succ_eq_append_getElem hlt];simp only [keyL,List.flatMap_append,List.flatMap_cons,List.flatMap_nil,List.append_nil,hn,Int.toNat_natCast,List.append_assoc]
    rw [e1,Lib.byteCells_append,Lib.byteCells_append];exact Or.inr h2
   case measure =>
    simp [intOf];omega
  ·have hk2:k=l.length:=by omega
   subst hk2
   go_wp2_with (go_at_call 105;refine (Tryz.Builder_String_any_k w.heap.size w.heap.size _ _ hI hbw.size).mono ?_)
   rintro e W1 ⟨rfl,_,b1,_⟩
   go_wp2
   go_ret
   refine ⟨?_,hbw.trans b1⟩
   first|rfl|(rw [List.take_length];rfl)|(simp [keyB,List.take_length])
theorem Tryz.keyK:Go.Abs.K_product_key Tryz.prog 91 keyI:=by
 intro l r h;unfold keyI at h;split at h<;>cases h;rename_i hc;intro M nb;refine Qzx rfl (by kernel_rfl) (fun w g us himm hus=>?_) M nb;obtain ⟨u,us',rfl,hu,hus'⟩:=hus;simp only [RFs] at hus';subst hus';obtain ⟨a,cap,rfl,hcap,hl⟩:=Qbew hu;refine Tryz.key_walk l hc.1 hc.2 a cap w fun i n hi=>?_;rcases hl with rfl|⟨b,o,rfl,hl⟩
 ·simp at hi
 ·exact ⟨b,o,rfl,himm _ _ (hl i n hi).1,(hl i n hi).2⟩
end Go.Proofs
end
section
namespace Go
theorem Qwc {P:Program} {w:World} (base:Nat) (t ty e:TypeId) (i:TypeInfo) (size:Nat) (ht:P.underlying t=some (.slice e)) (hi:P.info? e=some i)
  (v:Value) (n:Nat) (xs:List Value) (hown:w.ownsRow base e size v n xs) (ao:Option Addr) (c:Nat) :
  (Builtin.append_ #[t,t] ty #[v,.slice ao 0 c]).run P w = .ok v w:=by
 rcases hown.2 with ⟨rfl,rfl⟩|⟨g,cap,cur,rfl,_,_,hnc,_⟩
 ·cases ao<;>simp [Builtin.append_,run_underlying ht,sizeOf,typeInfo,hi,Builtin.lenOf,Builtin.firstCells,loadCells,loadCellsFrom]
 ·cases ao<;>simp [Builtin.append_,run_underlying ht,sizeOf,typeInfo,hi,Builtin.lenOf,Builtin.firstCells,hnc,storeCells,loadCells,loadCellsFrom]
theorem Qzy {P:Program} {w:World} {ops:Array Oper} {rest:List Oper} {o:Oper} {a:Act} {Q:Exit→Act→World→Prop} (hgd:o.guard=none) (s x:Operand) (t:TypeId)
  (ho:o.op = .call { callee:=.builtin .append,args:=#[s,x],argTypes:=#[t,t] })
  (base:Nat) (e:TypeId) (i:TypeInfo) (z:Value) (size bytes:Nat) (ht:P.underlying t=some (.slice e)) (hi:P.info? e=some i) (hz:i.zero=some z)
  (hsize:i.size=size) (hby:i.bytes=bytes) (hzs:z.cells.size=size) (hsz:0<size)
  (v:Value) (n:Nat) (xs:List Value) (hs:a.eval s=v) (hown:w.ownsRow base e size v n xs)
  (ao:Option Addr) (m c:Nat) (news:List Value) (hx:a.eval x = .slice ao m c) (hl:news.length=m*size) (hnews:∀ ad,ao=some ad→∀ j u,news[j]? = some u→w.cell? (ad.add j)=some u) (hno:ao=none→m=0) (h1:∀ u∈news,u.oneCell'=true)
  (h63:n+m≤maxLen) (hbytes:(n+m)*bytes≤140737488355328) (hbase:base≤w.heap.size)
  (h:∀ v' w',w'.ownsRow base e size v' (n+m) (xs++news)→w.grownBy w' v.ownBlock→wpList P ops Q rest (a.put o.dst v') w'):wpList P ops Q (o::rest) a w:=by
 by_cases hm:m=0
 ·subst hm;have:news=[]:=List.eq_nil_of_length_eq_zero (by simpa using hl);subst this;refine wpList_plain hgd fun K hK=>?_;have hrun:=Qwc (P:=P) (w:=w) base t o.type e i size ht hi v n xs hown ao c;unfold Oper.wp;simp [execOp,ho,resolve,invoke,builtin,hs,hx,hrun,Result.andThen];exact hK _ _ (h _ _ (by simpa using hown) (World.grownBy.refl w _))
 ·cases ao with
  | none=>exact absurd (hno rfl) hm
  | some ad=>exact wpList_append_own w hgd s x t ho base e i z size bytes ht hi hz hsize hby hzs hsz v n xs hs hown ad m c news hx hl (hnews ad rfl) h1 h63 hbytes hbase fun v' w' h2 h3 _=>h v' w' h2 h3
end Go
namespace Go.Proofs
open Go.RowKit Go.Abs
set_option maxHeartbeats 4000000 in
set_option maxRecDepth 1000000 in
theorem Tryz.rkey_walk (x y:Int) (l:List Int) (hl:l.length+2≤lim) (hx:∀ z∈x::y::l,0≤z∧z<100) (a:Option Addr) (cap:Nat) (w:World)
  (hc:∀ (i:Nat) n,l[i]? = some n→∃ b o,a=some ⟨b,o,none⟩∧b<w.heap.size∧w.cell? ⟨b,o+i,none⟩=some (.int .i64 n)) :
  Calls Tryz.prog 53 #[.agg #[.int .i64 x,.int .i64 y],.slice a l.length cap] w fun e w'=>e = .returned (.string (keyB (x::y::l)))∧Below w.heap.size w w':=by
 have hlim:l.length+2≤1099511627776:=hl;obtain ⟨i0,hi,hz0,hz1,hz2⟩:=info_parts (P:=Tryz.prog) (e:=3) (z:=.int .i64 0) (size:=1) (bytes:=8) (by kernel_rfl)
 go_enter Tryz.func53,Tryz.ntmps53
 go_wp2_with (at_builtin;refine Qzy rfl _ _ 32 rfl (w.heap.size+2) 3 i0 (.int .i64 0) 1 8 Tryz.underlying32 hi hz0 hz1 hz2 rfl (by decide) _ 2 [.int .i64 x,.int .i64 y] rfl ?own a l.length cap (l.map (Value.int .i64)) rfl (by simp) ?news ?none ?one (by unfold maxLen;omega) (by omega) ?base ?rest)
 case own =>
  have:=World.ownsRow_lit (base:=w.heap.size+2) (e:=3) (size:=1) ((w.alloc (.cells #[.int .i64 x,.int .i64 y] 96)).alloc (.cells #[.pointer none,.slice none 0 0] 161)) #[.int .i64 x,.int .i64 y] 2 (by simp) (by unfold maxLen;omega) rfl;simp at this;exact this
 case news =>
  intro ad had j u hj;rw [List.getElem?_map] at hj;obtain ⟨n,hn,rfl⟩:=Option.map_eq_some_iff.1 hj;obtain ⟨b,o,rfl,hb,hcell⟩:=hc j n hn;cases had;rw [← hcell];have hB:Below w.heap.size w (((w.alloc (.cells #[.int .i64 x,.int .i64 y] 96)).alloc (.cells #[.pointer none,.slice none 0 0] 161)).alloc (.cells #[.int .i64 x,.int .i64 y] 3)) :=
   (((Below.refl _ w).alloc (Nat.le_refl _) _).alloc (by simp) _).alloc (by simp;omega) _
  simp only [World.cell?,Addr.add_lit];rw [hB.block b hb]
 case none =>
  intro ha;cases l with
  | nil=>rfl
  | cons z l =>
   obtain ⟨b,o,h,_⟩:=hc 0 z rfl;rw [ha] at h;cases h
 case one =>
  intro u hu;obtain ⟨n,_,rfl⟩:=List.mem_map.1 hu
  rfl
 case base=>simp
 intro v' wA hown hgrow;obtain ⟨hlen,⟨rfl,h0⟩|⟨g,cap',cur,rfl,hbg,hg,hnc,hcm,hcs,htake⟩⟩:=hown
 ·omega
 have hbA:wA.heap[w.heap.size+1]? = some (.cells #[.pointer none,.slice none 0 0] 161 (0,0)):=by
  rw [hgrow.block (w.heap.size+1) (by simp) (by simp [Value.ownBlock])];rw [Lib.alloc_old _ _ _ (by simp),show w.heap.size+1=(w.alloc (.cells #[.int .i64 x,.int .i64 y] 96)).heap.size from by simp];exact heap_alloc_new _ _
 have hBA:Below w.heap.size w wA:=by
  have hB:Below w.heap.size w (((w.alloc (.cells #[.int .i64 x,.int .i64 y] 96)).alloc (.cells #[.pointer none,.slice none 0 0] 161)).alloc (.cells #[.int .i64 x,.int .i64 y] 3)) :=
   (((Below.refl _ w).alloc (Nat.le_refl _) _).alloc (by simp) _).alloc (by simp;omega) _
  exact hB.grown hgrow (by simp;omega) (fun k hk=>by simp [Value.ownBlock] at hk;omega)
 have hszA:w.heap.size+1≤wA.heap.size:=by have:=hgrow.size;simp at this;omega
 have hcur:∀ (k:Nat) z,(x::y::l)[k]? = some z→cur[k]? = some (.int .i64 z):=by
  intro k z hz;have hk:=(List.getElem?_eq_some_iff.1 hz).1;simp only [List.length_cons] at hk;have h1:(cur.toList.take ((2+l.length)*1))[k]? = some (.int .i64 z):=by
   rw [htake];show ((x::y::l).map (Value.int .i64))[k]? = _;rw [List.getElem?_map,hz];rfl
  rw [List.getElem?_take_of_lt (by omega)] at h1;simpa using h1
 generalize hxs:x::y::l=xs at hx hcur;have hN:xs.length=2+l.length:=by rw [← hxs];simp;omega
 go_wp2
 go_loopw [16] (fun vi wr=>∃ (k:Nat),vi = .int .i64 k∧k≤xs.length∧Lib.IsBuilderF 161 5 (w.heap.size+1) (w.heap.size+1) (Lib.byteCells (keyL (xs.take k))) wr∧Below w.heap.size w wr∧wr.heap[g]? = some (.cells cur 3 (0,0))∧w.heap.size+1≤wr.heap.size) (fun vi _=>xs.length-(intOf vi).toNat)
 case atStart =>
  exact ⟨0,rfl,by omega,Lib.IsBuilderF.of (Or.inl ⟨Nat.le_refl _,.slice none 0 0,hbA,World.ownsRow_nil _ _ _ _,by simp [Value.ownBlock]⟩),hBA,hg,hszA⟩
 case round =>
  obtain ⟨k,rfl,hk,hI,hbw,hgr,hsz⟩:=hrel;by_cases hlt:k<xs.length
  ·have hxk:=hx xs[k] (List.getElem_mem hlt);have hcr:wr.cell? ⟨g,k,none⟩=some (.int .i64 xs[k]):=by
    simp only [World.cell?,hgr];exact hcur k _ (List.getElem?_eq_getElem hlt)
   have hcr0:wr.cell? ⟨g,0+k,none⟩=some (.int .i64 xs[k]):=by rw [Nat.zero_add];exact hcr
   obtain ⟨n,hn⟩ : ∃ n:Nat,xs[k]=(n:Int):=⟨xs[k].toNat,by omega⟩;have hn100:n<100:=by omega
   rw [hn] at hcr hcr0;have hdl:=Qbex hn100;have hkl:=Q91 (xs.take k) fun x hxm=>hx x (List.mem_of_mem_take hxm);rw [List.length_take] at hkl
   go_wp2_with (go_at_call 103;refine (Tryz.strconv_Itoa_small n hn100 _).mono ?_)
   rintro e W0 ⟨rfl,rfl⟩
   go_wp2_with (go_at_call 102;refine (Tryz.Builder_WriteString_k (w.heap.size+1) (w.heap.size+1) _ _ _ hI (by rw [Lib.byteCells_length];simp only [ByteArray.size,List.size_toArray];omega) hsz).mono ?_)
   rintro e W1 ⟨rfl,h1,b1,k1⟩;have hsz1:w.heap.size+1≤W1.heap.size:=Nat.le_trans hsz b1.size;have hlen2:(Lib.byteCells (keyL (xs.take k))++Lib.strCells ⟨(Lib.decDigits n).toArray⟩).length+1≤140737488355328:=by
    rw [show Lib.strCells ⟨(Lib.decDigits n).toArray⟩=Lib.byteCells (Lib.decDigits n) from rfl,List.length_append,Lib.byteCells_length,Lib.byteCells_length];omega
   go_wp2_with (go_at_call 104;refine (Tryz.Builder_WriteByte_k (w.heap.size+1) (w.heap.size+1) _ 32 _ (Or.inr h1) hlen2 hsz1).mono ?_)
   rintro e W2 ⟨rfl,h2,b2,k2⟩
   go_wp2
   go_roundw
   case rel =>
    have hgb:some g≠some (w.heap.size+1):=by simp;omega
    have hne:∀ c fz,Obj.cells cur 3 (0,0)≠Obj.cells c 5 fz:=by intro c fz h;cases h
    refine ⟨k+1,by simp,by omega,?_,(hbw.trans (b1.mono (by omega))).trans (b2.mono (by omega)),k2 _ _ (k1 _ _ hgr hgb hne) hgb hne,Nat.le_trans hsz1 b2.size⟩;have e1:keyL (xs.take (k+1))=keyL (xs.take k)++Lib.decDigits n++[32]:=by
     rw [List.take_succ_eq_append_getElem hlt];simp only [keyL,List.flatMap_append,List.flatMap_cons,List.flatMap_nil,List.append_nil,hn,Int.toNat_natCast,List.append_assoc]
    rw [e1,Lib.byteCells_append,Lib.byteCells_append];exact Or.inr h2
   case measure =>
    simp [intOf];omega
  ·have hk2:k=xs.length:=by omega
   subst hk2
   go_wp2_with (go_at_call 105;refine (Tryz.Builder_String_any_k (w.heap.size+1) (w.heap.size+1) _ _ hI hsz).mono ?_)
   rintro e W1 ⟨rfl,_,b1,_⟩
   go_wp2
   go_ret
   refine ⟨?_,hbw.trans (b1.mono (by omega))⟩;have ht:List.take (2+l.length) (x::y::l)=x::y::l:=by
    rw [show 2+l.length=(x::y::l).length from by simp;omega];exact List.take_length
   simp only [keyB,List.take_length,← hxs];rw [ht];rfl
theorem Tryz.rkeyK:Go.Abs.K_relative_key Tryz.prog 53 Qbgm:=by
 intro x l r h;unfold Qbgm keyI at h;split at h<;>cases h;rename_i hc;intro M nb;refine Qzx rfl (by kernel_rfl) (fun w g us himm hus=>?_) M nb;obtain ⟨u0,us0,rfl,hu0,u,us',rfl,hu,hus'⟩:=hus;simp only [RFs] at hus';subst hus';obtain ⟨a,cap,rfl,hcap,hl⟩:=Qbew hu;have h0:=hu0 .ext;simp only [RV,RVs,RD] at h0;obtain ⟨vs,rfl,⟨u,us,rfl,rfl,u2,us2,rfl,rfl,rfl⟩,_⟩:=h0;have hc1:=hc.1;simp only [List.length_cons] at hc1;refine Tryz.rkey_walk x.ambient_ x.language_ l hc1 hc.2 a cap w fun i n hi=>?_;rcases hl with rfl|⟨b,o,rfl,hl⟩
 ·simp at hi
 ·exact ⟨b,o,rfl,himm _ _ (hl i n hi).1,(hl i n hi).2⟩
end Go.Proofs
end
section

end
section
namespace Go.Proofs
open Go Go.Abs
set_option maxRecDepth 10000
set_option maxHeartbeats 4000000
theorem Qwd:Qjt Tryz.prog 39 Qn7:=Qtk Qxc
theorem Qwe:Qju Tryz.prog 97 Qhg:=Qtl Qxf Q5
theorem Qyo:Qli Tryz.prog 108 Qir:=Qvt Qzq Q5
theorem Qed:Qc5 Tryz.prog 62 Qci:=Qsj Qyo Qv6
theorem Qtt:Qig Tryz.prog 98 Qgm:=Qrd Qed Quw Q5
theorem Qix:Qga Tryz.prog 48 Qer:=Qw0 Qwe Qtt Q0w
theorem Qsy:Qkl Tryz.prog 139 Qgy:=Qx8 Q1z Q5
theorem Qyp:Qlj Tryz.prog 140 Qlw:=Qvu Qzs
theorem Q03:Qnp Tryz.prog 99 Qkn:=Qx9 Qsy Qyp Q1w
theorem Qzz:Qmo Tryz.prog 49 Qgb:=Qw1 Q03 Q0x
theorem Qxg:Qks Tryz.prog 50 Qfc:=Quh Qyi Q5
theorem Qsz:Qkm Tryz.prog 22 Qib:=Qya Qix Qzz Qxg Q1u Q5
theorem Q11:Qpe Tryz.prog 88 Qlx:=Qzf Qix Q3u Q5
theorem Qyq:Qlk Tryz.prog 172 Qly:=Qvv Qzv
theorem Q04:Qnq Tryz.prog 155 Qic:=Qyb Qsy Qyq Q10
theorem Q05:Qnr Tryz.prog 131 Qf2:=Qyc Q04 Q1x Q5
theorem Q34:Qra Tryz.prog 89 Qm5:=Q0r Q05 Q4p Q5
theorem Qqe:Qg9 Tryz.prog 90 Qfi:=Qog Qrq Q5
theorem Q12:Qpf Tryz.prog 171 Qpx:=Qzg Q3y
theorem Q35:Qrb Tryz.prog 153 Qkc:=Q0s Q12 Q4q
theorem Qyr:Qll Tryz.prog 154 Qis:=Qvw Qzu
theorem Qjp:Qff Tryz.prog 128 Qcp:=Qoh Q35 Qyr Qrs Q5
theorem Qjz:Qge Tryz.prog 85 Qfd:=Qui Qjp Qyj
theorem Qrt:Qhp Tryz.prog 92 Qfx:=Qpq Qjz Qss Q5
theorem Qd0:Qc4 Tryz.prog 58 Qbz:=Qvx Qzn
theorem Qtu:Qih Tryz.prog 93 Qgn:=Qre Qd0 Qjz Quv Q5
theorem Qin:Qfo Tryz.prog 42 Q3:=Qsk Q11 Q34 Qqe Tryz.keyK Qrt Qtu Qv5 Q5
theorem Ql2:Qhq Tryz.prog 43 Qgc:=Qw2 Qin Q0u
theorem Qnm:Qf1 Tryz.prog 118 Qeg:=Ql4 Qnx Q5
theorem Qz0:Qmp Tryz.prog 119 Qjg:=Qw3 Q01
theorem Qz1:Qmq Tryz.prog 120 Qjh:=Qw4 Q02
theorem Q13:Qph Tryz.prog 79 Qht:=Qzh Qnm Qz0 Qz1 Q3t
theorem Quz:Qi2 Tryz.prog 132 Qg7:=Qsl Qd0 Q13 Qjp Qwb Q5
theorem Qys:Qlm Tryz.prog 94 Qit:=Qvy Qix Quz Qzo Q5
theorem Que:Qln Tryz.prog 134 Qi7:=Qzi Q3x Q5
theorem Quf:Qlo Tryz.prog 133 Qi8:=Qzj Q3w Q5
theorem Qxh:Qkt Tryz.prog 136 Qgg:=Quj Qyl
theorem Q06:Qns Tryz.prog 135 Qko:=Qyd Q1y Q5
theorem Qxi:Qku Tryz.prog 138 Qfe:=Quk Qyn
theorem Qxj:Qkv Tryz.prog 137 Qgh:=Qul Qxi Qym Q5
theorem Qz2:Qmr Tryz.prog 96 Qji:=Qw5 Quf Que Q06 Qxh Qxj Q00 Q5
theorem Q14:Qpl Tryz.prog 95 Qlz:=Qzk Qd0 Quf Que Q3v Q5
theorem Qky:Qg3 Tryz.prog 45 Qcj:=Qvz Qix Q14 Qz2 Qzm
theorem Qq3:Qje Tryz.prog 44 Qhu:=Qw6 Qky Qd0 Qys Q0v
theorem Qn8:Qh2 Tryz.prog 16 Qgi:=Qum Qsz Ql2 Qq3 Qyf
theorem Qyt:Qlp Tryz.prog 100 Qq2:=Qv0 Qzp Q5
theorem Qq4:Qjf Tryz.prog 51 Qmv:=Qw7 Qn8 Qin Qyt Q0y Q5
theorem Qdn:Qch Tryz.prog 63 Qc9:=Qsm Qv7
theorem Qe0:Qdk Tryz.prog 59 Qec:=Qrf Qed Qut
theorem Qkg:Qfu Tryz.prog 101 Qhv:=Qpr Qd0 Qe0 Qed Qdn Tryz.rowK124 Tryz.compK125 Qst Q5
theorem Qqf:Qha Tryz.prog 52 Qkd:=Qoi Qkg Qrm
theorem Qjq:Qfg Tryz.prog 65 Qhe:=Qoj Qdn Qro
theorem Qny:Qf4 Tryz.prog 107 Qiu:=Qmt Qdn Qon
theorem Qtv:Qii Tryz.prog 143 Qmf:=Qrg Quy Q5
theorem Qqg:Qhb Tryz.prog 106 Qke:=Qok Qtv Qrr
theorem Qpz:Qgt Tryz.prog 54 Qjn:=Qnu Qed Qjq Qqg Qny Qqc Q5
theorem Q36:Qrc Tryz.prog 56 Qxv:=Q0t Qjz Q4o Q5
theorem Qs0:Qh3 Tryz.prog 55 Ql0:=Qp9 Qd0 Qe0 Qdn Qtr Q5
theorem Qh7:Qe8 Tryz.prog 57 Qgo:=Qrh Qdn Qus
theorem Qqh:Qhd Tryz.prog 60 Qkf:=Qol Qed Qdn Qkg Qrn Q5
theorem Q07:Qnt Tryz.prog 23 Qud:=Qye Qq4 Qqf Tryz.rkeyK Qpz Qs0 Q36 Qh7 Qd0 Qe0 Qqh Q1v Q5
theorem Qp0:Qgu Tryz.prog 144 Qjo:=Qnv Qqd
theorem Q92:Qqx Tryz.prog 146 Qzw:=Qv1 Qzt
theorem Qkh:Qfv Tryz.prog 110 Qhw:=Qps Qh7 Qe0 Qp0 Tryz.rowK145 Qsu Q5
theorem Qtw:Qij Tryz.prog 111 Qmg:=Qri Tryz.rkeyK Qux Q5
theorem Qru:Qhr Tryz.prog 113 Qk8:=Qpt Qjq Qsv
theorem Qrv:Qhs Tryz.prog 147 Qk9:=Qpu Qsw Q5
theorem Qoq:Qgf Tryz.prog 112 Qi9:=Qnl Qrv Qpw
theorem Qs1:Qh4 Tryz.prog 114 Ql1:=Qqa Qh7 Qkh Qts Q5
theorem Qtx:Qik Tryz.prog 66 Qmh:=Qrj Qky Qd0 Qe0 Qed Qdn Qkh Qtw Qoq Qru Qs1 Quu Q5
theorem Qyu:Qls Tryz.prog 109 Qiv:=Qv2 Qzr Q5
theorem Qxk:Qkw Tryz.prog 115 Qh6:=Qun Qyk Q5
theorem Qz3:Qms Tryz.prog 67 Qsx:=Qw8 Qyu Qxk Q0z
theorem Qxl:Qkx Tryz.prog 26 Qpy:=Quo Qq4 Qtx Qz3 Qyg Q5
theorem Qki:Qfw Tryz.prog 28 Qfy:=Qpv Qsr Q5
theorem Qu0:Qi4 Tryz.prog 12 Qja:=Qsn Q07 Qxl Qki Qwd Qv4
theorem Qp1:Qgv Tryz.prog 40 Qda:=Qnw Qqb Q5
theorem Qmi:Qg4 Tryz.prog 86 Qfr:=Qso Qv8
theorem Qnn:Qhf Tryz.prog 72 Qcy:=Qtm Qxe Q5
theorem Qn9:Qh5 Tryz.prog 47 Qdz:=Qup Qyh Q5
theorem Qu1:Qi5 Tryz.prog 129 Qg8:=Qsp Qn9 Qnn Qv9 Q5
theorem Qu2:Qi6 Tryz.prog 130 Qfs:=Qsq Qwa Q5
theorem Qjr:Qfh Tryz.prog 87 Qee:=Qom Qn9 Qnn Qmi Qu1 Qu2 Qrp Q5
theorem Qwf:Qjv Tryz.prog 41 Qf3:=Qtn Qmi Qjr Qxd Q5
theorem Qwg:Qjw Tryz.prog 13 Qhh:=Qto Qp1 Qwf Qw9 Q5
theorem Qwh:Qjx Tryz.prog 14 Qhi:=Qtp Qin Ql2 Qxa Q5
theorem Qyv:Qlt Tryz.prog 15 Qiw:=Qv3 Qsz Ql2 Qq3 Qzl
theorem Qty:Qil Tryz.prog 46 Qgp:=Qrk Qjr Qur Q5
theorem Qtz:Qim Tryz.prog 18 Qgq:=Qrl Qky Qty Quq
theorem Qwi:Qjy Tryz.prog 17 Qhj:=Qtq Qki Qxb Q5
theorem Qy0:Qg5 Tryz.prog 3 Qez:=Qka Qu0 Qwg Qwh Qyv Qn8 Qwi Qtz Qlu
end Go.Proofs
end
section
namespace Go.Abs
open Go Go.ChangeShapes Go.WideShapes Go.ChangeAt Go.RowKit
def live (w:World):Nat→Nat→Prop:=fun b o=>(w.cell? ⟨b,o,none⟩).isSome=true
def RDs (w:World):List D→List Value→Prop
 | [],vs=>vs=[]
 | x::xs,vs=>∃ u us,vs=u::us∧RD (live w) w x u∧RDs w xs us
theorem Q5v {w:World}:∀ {xs ys:List D} {us vs:List Value},RDs w xs us→RDs w ys vs→RDs w (xs++ys) (us++vs)
 | [],ys,us,vs,h,k=>by grind [RDs]
 | x::xs,ys,us,vs,⟨u,us',e,r,h⟩,k=>by subst e;exact ⟨u,us'++vs,by simp,r,Q5v h k⟩
def RDat (w:World) (cs:List Value) (off:Nat) (xs:List D):Prop:=RDs w xs ((cs.drop off).take xs.length)
theorem RDat.app {w:World} {cs:List Value} {off:Nat} {xs ys:List D} (h:RDat w cs off xs) {n:Nat} (hn:n=off+xs.length) (k:RDat w cs n ys):RDat w cs off (xs++ys):=by
 grind [Q5v,RDat,List.length_append,List.drop_drop]
theorem RDat.nil {w:World} {cs:List Value} {off:Nat}:RDat w cs off []:=by simp [RDat,RDs]
theorem RDat.all {w:World} {cs:List Value} {xs:List D} (h:RDat w cs 0 xs) (hl:cs.length=xs.length):RDs w xs cs:=by
 grind [RDat,List.take_length]
theorem Qbey {w:World} {b:Nat}:∀ {xs:List D} {vs:List Value} {o:Nat},RDs w xs vs→(∀ i v,vs[i]? = some v→w.cell? ⟨b,o+i,none⟩=some v)→RDc (live w) w b xs o
 | [],vs,o,_,_=>by simp [RDc]
 | x::xs,vs,o,⟨u,us,e,r,h⟩,hc=>by
  subst e;have h0:=hc 0 u rfl;rw [Nat.add_zero] at h0;refine ⟨by simp [live,h0],⟨u,h0,r⟩,Qbey h fun i v hv=>?_⟩;have:=hc (i+1) v (by simpa using hv)
  grind
def Q08 {α:Type} (P:Program) (t:TypeId) (e:α→List D) (wf:α→Prop):Prop :=
 ∀ {H:Type} {enc:TypeId×Value→H} {w:World} {base:Nat} {spare:Nat→Bool} {held:Bool} {fuel:Nat} {cs:List Value} {x:DataW H×List MemPlace},
  DataW.trod enc P w base spare held fuel t cs=some x→∃ a,wf a∧RDs w (e a) cs
def wfI (k:IntKind) (n:Int):Prop:=(Lit.int k n).wf=true
def wfL {α:Type} (wf:α→Prop) (l:List α):Prop:=l.length≤maxLen∧∀ a∈l,wf a
variable {P:Program} {t:TypeId}
theorem Q8n {k:IntKind} (ht:P.underlying t=some (.int k)):Q08 P t (fun n:Int=>[.int k n]) (wfI k):=by
 intro H enc w base spare held fuel cs x h;obtain ⟨n,rfl,_,hw⟩:=DataW.trod_int ht h;exact ⟨n,hw,_,_,rfl,by simp [RD],rfl⟩
theorem cells?_get {w:World} {base:Nat} {a:Addr} {n:Nat} {cs:List Value} (h:w.cells? base a n=some cs):cs.length=n∧∀ i v,cs[i]? = some v→w.cell? (a.add i)=some v:=by
 obtain ⟨h1,h2,h3⟩:=World.cells?_some h
 grind
theorem Qbir {α:Type} {el:TypeId} {e:α→List D} {wf:α→Prop} {sz:Nat} (ht:P.underlying t=some (.slice el)) (he:Q08 P el e wf) (hsz:P.cellsOf el=sz) (hpos:0<sz) (hlen:∀ a,(e a).length=sz) :
  Q08 P t (fun l:List α=>[.lst sz (l.map e)]) (wfL wf):=by
 intro H enc w base spare held fuel cs x h;rcases DataW.trod_slice ht h with ⟨rfl,_⟩|⟨a,len,cap,Qf7,rest,n,_,rfl,_,hb,hl,hm,helen,hel,_,_⟩
 ·exact ⟨[],⟨by simp,by simp⟩,_,_,rfl,by simp only [RD,List.map_nil,List.length_nil];exact ⟨none,0,rfl,Nat.le_refl _,.inl trivial⟩,rfl⟩
 ·have key:∀ m,m≤len→∃ l:List α,l.length=m∧(∀ x∈l,wf x)∧∀ i y,l[i]? = some y→∃ vs,w.cells? base (a.add (i*sz)) sz=some vs∧RDs w (e y) vs:=by
   intro m
   induction m with
   | zero=>simp_all
   | succ m ih =>
    intro hm';obtain ⟨l,h1,h2,h3⟩:=ih (by omega);have h4:=hel m (by omega);have h5:Qf7[m]? = some Qf7[m]:=List.getElem?_eq_getElem (by omega);rw [h5,hsz,Option.bind_eq_some_iff] at h4;obtain ⟨vs,h6,h7⟩:=h4;obtain ⟨y,h8,h9⟩:=he h7;refine ⟨l++[y],by simp [h1],?_,fun i z hz=>?_⟩
    all_goals grind
  obtain ⟨l,h1,h2,h3⟩:=key len (Nat.le_refl _);have hmax:l.length≤maxLen:=by omega
  refine ⟨l,⟨hmax,h2⟩,_,_,rfl,?_,rfl⟩;simp only [RD,List.length_map,h1];refine ⟨some a,cap,rfl,hl,?_⟩;cases l with
  | nil=>exact .inl rfl
  | cons y l =>
   right;have hspot:a.spot=none:=by
    obtain ⟨vs,h4,h5⟩:=h3 0 y rfl;obtain ⟨h6,h7⟩:=cells?_get h4;have hv:vs[0]? = some vs[0]:=List.getElem?_eq_getElem (by omega);have:=h7 0 _ hv;cases hs:a.spot with
    | none=>rfl
    | some s =>
     grind [Go.World.cell?,Go.Addr.add]
   obtain ⟨b,o,sp⟩:=a;simp only at hspot;subst hspot;refine ⟨b,o,rfl,?_⟩;have row:∀ (l:List α) (j:Nat),(∀ i y,l[i]? = some y→∃ vs,w.cells? base ((⟨b,o,none⟩ : Addr).add ((j+i)*sz)) sz=some vs∧RDs w (e y) vs)→RDL (live w) w sz b (l.map e) (o+j*sz):=by
    intro l
    induction l with
    | nil=>intro j _;simp [RDL]
    | cons y l ih =>
     intro j h;obtain ⟨vs,h4,h5⟩:=h 0 y rfl;obtain ⟨h6,h7⟩:=cells?_get h4;refine ⟨hlen y,Qbey h5 fun i v hv=>?_,?_⟩
     ·grind [Qgz,Nat.add_assoc]
     ·have:=ih (j+1) fun i y hy=>by
       have:=h (i+1) y (by simpa using hy)
       grind
      grind
   have:=row (y::l) 0 fun i y hy=>by simpa using h3 i y hy
   simpa using this
theorem Qe1 {α:Type} {el:TypeId} {e:α→List D} {wf:α→Prop} {sz:Nat} (he:Q08 P el e wf) (hsz:P.cellsOf el=sz) (hlen:∀ a,(e a).length=sz)
  {H:Type} {enc:TypeId×Value→H} {w:World} {base:Nat} {spare:Nat→Bool} {held:Bool} {fuel off:Nat} {cs:List Value} {x:DataW H×List MemPlace}
  (h:DataW.trod enc P w base spare held fuel el ((cs.drop off).take (P.cellsOf el))=some x):∃ a,wf a∧RDat w cs off (e a):=by
 obtain ⟨a,h1,h2⟩:=he h
 grind [RDat]
theorem Q8o {H:Type} {enc:TypeId×Value→H} {w:World} {base:Nat} {spare:Nat→Bool} {held:Bool} {fuel:Nat} {cs:List Value} {x:DataW H×List MemPlace} {fs:Array Field}
  (ht:P.underlying t=some (.struct fs)) (h:DataW.trod enc P w base spare held fuel t cs=some x) :
  cs.length=P.cellsOf t∧∃ n,∀ (i:Nat) (f:Field),fs[i]? = some f→∃ y,DataW.trod enc P w base spare held n f.type ((cs.drop f.offset).take (P.cellsOf f.type))=some y:=by
 obtain ⟨xs,n,_,_,h1,h2,h3⟩:=DataW.trod_struct ht h;refine ⟨h1,n,fun i f hf=>?_⟩
 grind
theorem Qbgn {H:Type} {enc:TypeId×Value→H} {w:World} {base:Nat} {spare:Nat→Bool} {held:Bool} {fuel:Nat} {cs:List Value} {x:DataW H×List MemPlace} {n:Nat} {el:TypeId}
  (ht:P.underlying t=some (.array n el)) (h:DataW.trod enc P w base spare held fuel t cs=some x) :
  cs.length=P.cellsOf t∧∃ m,∀ i,i<n→∃ y,DataW.trod enc P w base spare held m el ((cs.drop (i*P.cellsOf el)).take (P.cellsOf el))=some y:=by
 obtain ⟨xs,m,_,_,h1,h2,h3⟩:=DataW.trod_array ht h;exact ⟨h1,m,fun i hi=>⟨xs[i]'(by omega),by grind⟩⟩
def Q6w {α:Type} (P:Program) (t:TypeId) (v:α→V) (wf:α→Prop):Prop :=
 ∀ {H:Type} {enc:TypeId×Value→H} {w:World} {base b0:Nat} {spare:Nat→Bool} {held:Bool} {u:Value} {d:DataW H} {ps:List MemPlace},
  Value.okWide P w .any b0 t u→DataW.Trod enc P w base spare held t u d ps→∃ a,wf a∧RF ⟨fun _=>0,live w,fun _=>.ext⟩ w (v a) u
theorem Qbj4 {imm:Nat→Nat→Prop} {w:World} {x:D} {u:Value} (h:RD imm w x u):u.oneCell'=true:=by
 cases x with
 | int k n=>simp only [RD] at h;subst h;rfl
 | bool b=>simp only [RD] at h;subst h;rfl
 | str s=>simp only [RD] at h;subst h;rfl
 | lst sz l=>simp only [RD] at h;obtain ⟨a,cap,rfl,_⟩:=h;cases a<;>rfl
 | mp es c=>simp only [RD] at h;obtain ⟨b,rfl,_⟩:=h;rfl
theorem Qbez {w:World} {g:G} (hg:g.imm=live w):∀ {xs:List D} {us:List Value} {ℓ:Owner} {i:Nat},RDs w xs us→RVs g w (xs.map V.d) ℓ i us∧∀ u∈us,u.oneCell'=true
 | [],us,ℓ,i,h=>by grind [RDs,RVs]
 | x::xs,us,ℓ,i,⟨u,us',e,r,h⟩=>by
  subst e;obtain ⟨h1,h2⟩:=Qbez hg (ℓ:=ℓ) (i:=i+1) h;refine ⟨⟨u,us',rfl,by simpa [RV,hg] using r,h1⟩,fun v hv=>?_⟩;rcases List.mem_cons.1 hv with rfl|hv
  ·exact Qbj4 r
  ·exact h2 v hv
theorem Qbis {α:Type} {e:α→List D} {wf:α→Prop} (he:Q08 P t e wf) (hagg:(∃ fs,P.underlying t=some (.struct fs))∨∃ n el,P.underlying t=some (.array n el)):Q6w P t (fun a=>.agg ((e a).map V.d)) wf:=by
 intro H enc w base b0 spare held u d ps hok hd;obtain ⟨cs,rfl⟩ : ∃ cs,u = .agg cs:=by
  rcases hagg with ⟨fs,ht⟩|⟨n,el,ht⟩
  ·simp only [Value.okWide,ht] at hok;grind
  ·simp only [Value.okWide,ht] at hok;grind
 obtain ⟨fuel,hf⟩:=hd;obtain ⟨a,h1,h2⟩:=he hf;refine ⟨a,h1,fun ℓ=>?_⟩;simp only [RV];obtain ⟨h3,h4⟩:=Qbez (g:=⟨fun _=>0,live w,fun _=>.ext⟩) rfl (ℓ:=ℓ) (i:=0) h2;exact ⟨cs.toList,by simp,h3,h4⟩
def Qbj5 (P:Program) (f:FuncId) (ts:List TypeId):Prop :=
 ∀ {H:Type} {enc:TypeId×Value→H} {w:World} {b0:Nat} {us:List Value} {ds:List (DataW H)} {ps:List MemPlace},
  (∀ (j:Nat) t u,ts[j]? = some t→us[j]? = some u→Value.okWide P w .any b0 t u)→DataW.TrodAll enc P w 0 (fun _=>true) true ts us ds ps →
  ∃ vs,RFs ⟨fun _=>0,live w,fun _=>.ext⟩ w vs us∧(∀ x∈vs,Flat x)∧V.lt.go 0 vs=true∧∀ M nb,ACalls P f vs M nb (.d (.bool true)) M nb
theorem Qz4 (hl:laidOutB P=true) {W W' : World} {sp:Nat→Bool} {H:Type} {enc:TypeId×Value→H}:∀ {ts:List TypeId} {us:List Value} {ds:List (DataW H)} {ps:List MemPlace},
  (∀ t∈ts,P.readableRec t=true∧t<P.types.size)→DataW.TrodAll enc P W 0 (fun _=>true) true ts us ds ps→(∀ p∈ps,W.sameAt W' p)→(∀ p∈ps,sp p.block=true)→DataW.TrodAll enc P W' 0 sp true ts us ds ps
 | [],[],[],ps,_,h,_,_=>h
 | t::ts,u::us,d::ds,ps,hr,⟨p,q,h1,h2,e⟩,hs,hp=>by
  subst e;obtain ⟨r1,r2⟩:=hr t (by simp);exact ⟨p,q,WideElems.Trod_stays hl r1 r2 h1 (fun x hx=>hs x (by simp [hx])) (fun x hx=>hp x (by simp [hx])),Qz4 hl (fun t ht=>hr t (by simp [ht])) h2 (fun x hx=>hs x (by simp [hx])) (fun x hx=>hp x (by simp [hx])),rfl⟩
 | [],[],_::_,_,_,h,_,_=>h.elim
 | [],_::_,_,_,_,h,_,_=>h.elim
 | _::_,[],_,_,_,h,_,_=>h.elim
 | _::_,_::_,[],_,_,h,_,_=>h.elim
theorem Q37 {W:World} {sp:Nat→Bool} {held:Bool} {base:Nat} {H:Type} {enc:TypeId×Value→H}:∀ {ts:List TypeId} {us:List Value} {ds:List (DataW H)} {ps:List MemPlace},
  DataW.TrodAll enc P W base sp held ts us ds ps→ds.length=ts.length∧us.length=ts.length
 | [],[],[],ps,h=>⟨rfl,rfl⟩
 | t::ts,u::us,d::ds,ps,⟨p,q,h1,h2,e⟩=>by have:=Q37 h2;simp [this.1,this.2]
 | [],[],_::_,_,h=>h.elim
 | [],_::_,_,_,h=>h.elim
 | _::_,[],_,_,h=>h.elim
 | _::_,_::_,[],_,h=>h.elim
section
variable {α β γ δ:Type} {f:FuncId} {ta tb tc td:TypeId} {va:α→V} {vb:β→V} {vc:γ→V} {vd:δ→V} {wa:α→Prop} {wb:β→Prop} {wc:γ→Prop} {wd:δ→Prop}
theorem Qbkk (ra:Q6w P ta va wa) (fa:∀ a,(va a).dem=va a) (la:∀ a,(va a).lt 0=true) (law:∀ a,wa a→∀ M nb,ACalls P f [va a] M nb (.d (.bool true)) M nb):Qbj5 P f [ta]:=by
 intro H enc w b0 us ds ps hok hT
 match us,ds,hT with
 | [u],[d],⟨p,q,h1,h2,e⟩ =>
  obtain ⟨a,ha,hra⟩:=ra (hok 0 _ _ rfl rfl) h1;exact ⟨[va a],⟨u,[],rfl,hra,rfl⟩,fun x hx=>by rw [List.mem_singleton] at hx;subst hx;exact fa a,by simp [V.lt.go,la],law a ha⟩
 | [],_,hT=>cases ‹List (DataW H)› <;> exact hT.elim
 | [_],[],hT=>exact hT.elim
 | [_],_::_::_,⟨_,_,_,h2,_⟩=>exact h2.elim
 | _::_::_,[],hT=>exact hT.elim
 | _::_::_,[_],⟨_,_,_,h2,_⟩=>exact h2.elim
 | _::_::_,_::_::_,⟨_,_,_,h2,_⟩=>exact h2.elim
end
theorem Qbbk {H:Type} {enc:TypeId×Value→H} {w:World} {base:Nat} {spare:Nat→Bool} {held:Bool} {fuel:Nat} {cs:List Value} {x:DataW H×List MemPlace} {n sz:Nat} {el:TypeId}
  (ht:P.underlying t=some (.array n el)) (hsz:P.cellsOf el=sz) (h:DataW.trod enc P w base spare held fuel t cs=some x) :
  cs.length=P.cellsOf t∧∃ m,∀ i,i<n→∃ y,DataW.trod enc P w base spare held m el ((cs.drop (i*sz)).take (P.cellsOf el))=some y:=by
 obtain ⟨h1,m,h2⟩:=Qbgn ht h;exact ⟨h1,m,fun i hi=>by grind⟩
end Go.Abs
end
