/-
  Part 6 of the proof: see the last text.
-/
import Derived.Test.YtdfiohnppomfgaaGreatP5
import Derived.Test.YtdfiohnppomfgaaGreatProg
import Derived.KernelRfl
import Derived.Sort.Statements
import Derived.Lib.SlicesCompact
import Derived.Lib.RuneBytes
import Derived.Shelf.SlSortCmp.NoneTotal
import Derived.Shelf.SlGeneric
import Derived.Ground.SlgmProg
import Derived.Shelf.SortM.Plain
import Derived.Shelf.SortM.SortNone
import Derived.Shelf.Small.Bits
import Derived.Ground.Names2Prog
import Derived.Shelf.Slices.CompactI
import Derived.WalkKit
import Derived.Shelf.Strings.BuilderK
import Derived.Shelf.Strings.BuilderRune
import Derived.Shelf.Strconv.Itoa0
import Derived.Shelf.Spec.SlicesGrow
import Derived.Ground.Names8Prog
import Derived.BigCall
import Derived.Lib.OthersKept
import Derived.OpenShut
import Derived.ProofKit
import Derived.Carry
import GoSem.Claim
import GoSem.ClaimJoined
import Derived.JoinedTies
set_option linter.unusedVariables false
set_option linter.unusedSimpArgs false
set_option linter.unusedSectionVars false
section
namespace Go.Abs
open Go
set_option linter.unusedVariables false
set_option maxRecDepth 10000
set_option maxHeartbeats 4000000
theorem Qoc {P : Program} {c : Nat} {Qu : (List Int) → (List Int) → Option Bool}
    (H_overseerref03_SameInts : Qdo P 19 Qu) (hcf : Qs P c = some Qfs) (fuel : Nat) : Qfr P c (Qbx Qu fuel):=by
 intro a1 b2 r h
 refine Qci hcf rfl fun Γ M hP hnt hM=>?_
 subst hP
 refine Tr.init [(0,.d (.lst 1 (List.map (eL 1 (eI .i64)) a1))),(1,.d (.lst 1 (List.map (eL 1 (eI .i64)) b2)))] rfl ?_
 unfold Qbx at h
 unfold Qfs
 refine sr ((md rfl (nt ((Tr.seq (sr ((md rfl (Rn.lenD tv rfl (md rfl (Rn.lenD tv rfl (Rn.bin tv rfl rfl rfl (Rn.nil (toN ?_))))))))))))))
 refine Tr.cond rfl (fun hb3=>?_) (fun hb3=>?_)
 ·replace h:=bT hb3 h
  refine sr ((md rfl (nt ((Tr.ret ?_)))))
  replace h:=si h; subst h
  exact ⟨.inr rfl,(b_ false),rfl,fun _ _ _ _ h=>h,tv,fun k hk=>Qg hk⟩
 ·replace h:=bF hb3 h
  refine Tr.skip (toN (Tr.seq (sr ((md rfl (nt ((Tr.block ?_))))))))
  refine Tr.loop (mk:=fun (i4 : Int)=>⟨look [(0,.d (.lst 1 (List.map (eL 1 (eI .i64)) a1))),(1,.d (.lst 1 (List.map (eL 1 (eI .i64)) b2))),(5,(i_ i4))],Qp Γ.n0 (bxs []) M,Γ.n0 + 27⟩) h (by exact Qk ⟨(sm rfl),(sm rfl),(sm rfl),tv⟩ tv rfl) (fun k5 z h=>?_)
  ·obtain ⟨i4,rfl⟩ : ∃ x,x = z:=⟨_,rfl⟩
   replace h : _ = some _:=h
   refine Tr.seq (sr ((md rfl (md rfl (Rn.lenD tv rfl (Rn.bin tv rfl rfl rfl (Rn.nil (toN ?_))))))))
   refine Tr.cond rfl (fun hb6=>?_) (fun hb6=>?_)
   ·replace h:=ifT hb6 h
    refine Tr.skip (toN (Tr.seq (Tr.block (Tr.seq ?_))))
    refine Tr.rgnD (by decide) ?_
    refine md rfl (md rfl ?_)
    obtain ⟨x7,h8,h⟩:=bnd h
    refine Rn.idxD (e:=(eL 1 (eI .i64))) tv rfl rfl h8 (Rn.loadC (x:=.lst 1 (List.map (eI .i64) x7)) tv rfl (md rfl (md rfl ?_)))
    obtain ⟨x9,h10,h⟩:=bnd h
    refine Rn.idxD (e:=(eL 1 (eI .i64))) tv rfl rfl h10 (Rn.loadC (x:=.lst 1 (List.map (eI .i64) x9)) tv rfl ?_)
    obtain ⟨x12,h11,h⟩:=bnd h
    refine Rn.call (args:=[(l_ x7),(l_ x9)]) tv rfl (H_overseerref03_SameInts _ _ _ h11) pc0 (Rn.un tv rfl rfl ?_)
    refine Rn.nil ⟨rfl,?_⟩
    refine toN ?_
    refine Tr.cond rfl (fun hb13=>?_) (fun hb13=>?_)
    ·have hb13:=nT' hb13
     replace h:=bF hb13 h
     refine sr ((md rfl (nt ((Tr.ret ?_)))))
     replace h:=si h; subst h
     exact ⟨.inr rfl,(b_ false),rfl,fun _ _ _ _ h=>h,tv,fun k hk=>Qg hk⟩
    ·have hb13:=nF' hb13
     replace h:=bT hb13 h
     refine Tr.skip (toN (Tr.rgn (md rfl (Rn.bin tv rfl rfl rfl (md rfl (Rn.nil ?_))))))
     exact ⟨_,h,(by exact Qk ⟨(sm rfl),(sm rfl),(sm rfl),tv⟩ tv rfl)⟩
   ·replace h:=ifF hb6 h
    refine Tr.exit (toN (sr ((md rfl (nt ((Tr.ret ?_)))))))
    replace h:=si h; subst h
    exact ⟨.inr rfl,(b_ true),rfl,fun _ _ _ _ h=>h,tv,fun k hk=>Qg hk⟩
theorem Qti {P : Program} {c : Nat} {Qbd : Qb → (List Int) → Option (Qb × (List (List Int)) × Int)} {Qcn : Qb → Qb → Option Bool} {Qbx : (List (List Int)) → (List (List Int)) → Option Bool} {Qu : (List Int) → (List Int) → Option Bool} {Qdn : Qb → (List Int) → (List Int) → Bool → Option ((List Int) × Bool × Int)} {Qb3 : Option Qb} {Qcm : Qb → (List Int) → Option (Qb × Int)}
    (H_projection_Project : Qfy P 12 Qbd)
    (H_overseerref03_Same : Qic P 14 Qcn)
    (H_overseerlaw03_SameWords : Qfr P 15 Qbx)
    (H_overseerref03_SameInts : Qdo P 19 Qu)
    (H_projection_Lift : Qk6 P 31 Qdn)
    (H_overseerlaw07_example : Qgc P 34 Qb3)
    (H_projection_Inverse : Qia P 35 Qcm) (hcf : Qs P c = some Qhm) : Qhl P c (Qcf Qbd Qcn Qbx Qu Qdn Qb3 Qcm):=by
 intro  r h
 refine Qci hcf rfl fun Γ M hP hnt hM=>?_
 subst hP
 refine Tr.init [] rfl ?_
 unfold Qcf at h
 unfold Qhm
 refine sr ((md rfl (nt ((Tr.seq (Tr.rgn ?_))))))
 obtain ⟨x2,h1,h⟩:=bnd h
 refine Rn.call (args:=[]) tv rfl (H_overseerlaw07_example _ h1) pc9 (Rn.alloc tv rfl (Rn.storeT (v:=(Qa x2)) (ds:=(Qd x2)) (cs':=(Qd x2)) tv rfl rfl rfl rfl rfl rfl rfl (nt ((sr ((Rn.load (v:=(Qa x2)) tv rfl (Ql rfl) rfl rfl (Rn.bslice (xs:=[(i_ 1)]) (cs:=[(i_ 1)]) tv rfl rfl rfl rfl ?_))))))))
 refine Rn.weak (by show WeakSt Γ _ ⟨look [(0,(b_ false)),(1,.ptr (Γ.n0 + 1) 0),(10,(Qa x2)),(12,(Qa x2)),(13,(l_ [1]))],Qp Γ.n0 (bxs [(1,.cells ((Qd x2)))]) M,Γ.n0 + 74⟩; exact Qco 13 [.int .i64 1] rfl rfl ⟨(.same rfl),(fPtr rfl),(.same rfl),(.same rfl),(fSl rfl rfl),tv⟩ ⟨⟨_,rfl,rfl,(.same rfl)⟩,tv⟩ rfl) ?_
 obtain ⟨⟨r4,r5,r6⟩,h3,h⟩:=bnd h
 refine Rn.call (args:=[(Qa x2),(l_ [1])]) tv rfl (H_projection_Project _ _ _ h3) pc9 (Rn.mov (v:=.tup [(Qa r4),.d (.lst 1 (List.map (eL 1 (eI .i64)) r5)),(i_ r6)]) tv rfl (Rn.ext (v:=(Qa r4)) (vs:=[(Qa r4),.d (.lst 1 (List.map (eL 1 (eI .i64)) r5)),(i_ r6)]) tv rfl rfl rfl (Rn.extTD (vs:=[(Qa r4),.d (.lst 1 (List.map (eL 1 (eI .i64)) r5)),(i_ r6)]) tv rfl rfl rfl (Rn.ext (v:=(i_ r6)) (vs:=[(Qa r4),.d (.lst 1 (List.map (eL 1 (eI .i64)) r5)),(i_ r6)]) tv rfl rfl rfl (Rn.alloc tv rfl (Rn.storeT (v:=(Qa r4)) (ds:=(Qd r4)) (cs':=(Qd r4)) tv rfl rfl rfl rfl rfl rfl rfl (Rn.movTD tv rfl (md rfl (nt ((sr ((Rn.load (v:=(Qa x2)) tv rfl (Ql rfl) rfl rfl (Rn.bslice (xs:=[(i_ 1)]) (cs:=[(i_ 1)]) tv rfl rfl rfl rfl (Rn.bslice (xs:=[(i_ 1)]) (cs:=[(i_ 1)]) tv rfl rfl rfl rfl ?_)))))))))))))))
 refine Rn.weak (by show WeakSt Γ _ ⟨look [(0,(b_ false)),(1,.ptr (Γ.n0 + 1) 0),(2,.ptr (Γ.n0 + 2) 0),(3,.d (.lst 1 (List.map (eL 1 (eI .i64)) r5))),(4,(i_ r6)),(10,(Qa x2)),(11,.tup [(Qa r4),.d (.lst 1 (List.map (eL 1 (eI .i64)) r5)),(i_ r6)]),(12,(Qa x2)),(13,(l_ [1])),(14,.tup [(Qa r4),.own 1 (List.map (eL 1 (eI .i64)) r5),(i_ r6)]),(15,(Qa r4)),(16,.d (.lst 1 (List.map (eL 1 (eI .i64)) r5))),(17,(i_ r6)),(19,(Qa x2)),(20,(l_ [1])),(21,.sl 1 (Γ.n0 + 21) 0 1 1)],Qp Γ.n0 (bxs [(1,.cells ((Qd x2))),(2,.cells ((Qd r4))),(21,.cells ([(i_ 1)]))]) M,Γ.n0 + 74⟩; exact Qco 20 [.int .i64 1] rfl rfl ⟨(.same rfl),(fPtr rfl),(fPtr rfl),(.same rfl),(.same rfl),(.same rfl),(.same rfl),(.same rfl),(.same rfl),(.same rfl),(.same rfl),(.same rfl),(.same rfl),(.same rfl),(fSl rfl rfl),(fSlO rfl),tv⟩ ⟨⟨_,rfl,rfl,(.same rfl)⟩,⟨_,rfl,rfl,(.same rfl)⟩,⟨_,rfl,rfl,(.same rfl)⟩,tv⟩ rfl) ?_
 refine Rn.weak (by show WeakSt Γ _ ⟨look [(0,(b_ false)),(1,.ptr (Γ.n0 + 1) 0),(2,.ptr (Γ.n0 + 2) 0),(3,.d (.lst 1 (List.map (eL 1 (eI .i64)) r5))),(4,(i_ r6)),(10,(Qa x2)),(11,.tup [(Qa r4),.d (.lst 1 (List.map (eL 1 (eI .i64)) r5)),(i_ r6)]),(12,(Qa x2)),(13,(l_ [1])),(14,.tup [(Qa r4),.own 1 (List.map (eL 1 (eI .i64)) r5),(i_ r6)]),(15,(Qa r4)),(16,.d (.lst 1 (List.map (eL 1 (eI .i64)) r5))),(17,(i_ r6)),(19,(Qa x2)),(20,(l_ [1])),(21,(l_ [1]))],Qp Γ.n0 (bxs [(1,.cells ((Qd x2))),(2,.cells ((Qd r4)))]) M,Γ.n0 + 74⟩; exact Qco 21 [.int .i64 1] rfl rfl ⟨(.same rfl),(fPtr rfl),(fPtr rfl),(.same rfl),(.same rfl),(.same rfl),(.same rfl),(.same rfl),(.same rfl),(.same rfl),(.same rfl),(.same rfl),(.same rfl),(.same rfl),(.same rfl),(fSl rfl rfl),tv⟩ ⟨⟨_,rfl,rfl,(.same rfl)⟩,⟨_,rfl,rfl,(.same rfl)⟩,tv⟩ rfl) ?_
 obtain ⟨⟨r8,r9,r10⟩,h7,h⟩:=bnd h
 refine Rn.call (args:=[(Qa x2),(l_ [1]),(l_ [1]),(b_ true)]) tv rfl (H_projection_Lift _ _ _ _ _ h7) pc9 (Rn.mov (v:=.tup [(l_ r8),(b_ r9),(i_ r10)]) tv rfl (Rn.extTD (vs:=[(l_ r8),(b_ r9),(i_ r10)]) tv rfl rfl rfl (Rn.ext (v:=(b_ r9)) (vs:=[(l_ r8),(b_ r9),(i_ r10)]) tv rfl rfl rfl (Rn.ext (v:=(i_ r10)) (vs:=[(l_ r8),(b_ r9),(i_ r10)]) tv rfl rfl rfl (Rn.movTD tv rfl (md rfl (md rfl (nt ((sr ((Rn.bslice (xs:=[(i_ 1)]) (cs:=[(i_ 1)]) tv rfl rfl rfl rfl (Rn.buildT (v:=.agg [.sl 1 (Γ.n0 + 27) 0 1 1,(i_ 1),.nils 1,.nils 3]) tv rfl (Rn.bslice (xs:=[(i_ 0),(i_ 1)]) (cs:=[(i_ 0),(i_ 1)]) tv rfl rfl rfl rfl ?_))))))))))))))
 refine Rn.weak (by show WeakSt Γ _ ⟨look [(0,(b_ false)),(1,.ptr (Γ.n0 + 1) 0),(2,.ptr (Γ.n0 + 2) 0),(3,.d (.lst 1 (List.map (eL 1 (eI .i64)) r5))),(4,(i_ r6)),(5,(l_ r8)),(6,(b_ r9)),(7,(i_ r10)),(10,(Qa x2)),(11,.tup [(Qa r4),.d (.lst 1 (List.map (eL 1 (eI .i64)) r5)),(i_ r6)]),(12,(Qa x2)),(13,(l_ [1])),(14,.tup [(Qa r4),.own 1 (List.map (eL 1 (eI .i64)) r5),(i_ r6)]),(15,(Qa r4)),(16,.d (.lst 1 (List.map (eL 1 (eI .i64)) r5))),(17,(i_ r6)),(18,.tup [(l_ r8),(b_ r9),(i_ r10)]),(19,(Qa x2)),(20,(l_ [1])),(21,(l_ [1])),(22,.tup [(l_ r8),(b_ r9),(i_ r10)]),(23,(l_ r8)),(24,(b_ r9)),(25,(i_ r10)),(27,(l_ [1])),(28,.agg [(l_ [1]),(i_ 1),.nils 1,.nils 3]),(29,.sl 1 (Γ.n0 + 29) 0 2 2)],Qp Γ.n0 (bxs [(1,.cells ((Qd x2))),(2,.cells ((Qd r4))),(29,.cells ([(i_ 0),(i_ 1)]))]) M,Γ.n0 + 74⟩; exact Qco 27 [.int .i64 1] rfl rfl ⟨(.same rfl),(fPtr rfl),(fPtr rfl),(.same rfl),(.same rfl),(.same rfl),(.same rfl),(.same rfl),(.same rfl),(.same rfl),(.same rfl),(.same rfl),(.same rfl),(.same rfl),(.same rfl),(.same rfl),(.same rfl),(.same rfl),(.same rfl),(.same rfl),(.same rfl),(.same rfl),(.same rfl),(.same rfl),(fSl rfl rfl),(WkV.agg (.cons (fSl rfl rfl) (.cons (.same rfl) (.cons (.same rfl) (.cons (.same rfl) .nil))))),(fSlO rfl),tv⟩ ⟨⟨_,rfl,rfl,(.same rfl)⟩,⟨_,rfl,rfl,(.same rfl)⟩,⟨_,rfl,rfl,(.same rfl)⟩,tv⟩ rfl) ?_
 refine Rn.weak (by show WeakSt Γ _ ⟨look [(0,(b_ false)),(1,.ptr (Γ.n0 + 1) 0),(2,.ptr (Γ.n0 + 2) 0),(3,.d (.lst 1 (List.map (eL 1 (eI .i64)) r5))),(4,(i_ r6)),(5,(l_ r8)),(6,(b_ r9)),(7,(i_ r10)),(10,(Qa x2)),(11,.tup [(Qa r4),.d (.lst 1 (List.map (eL 1 (eI .i64)) r5)),(i_ r6)]),(12,(Qa x2)),(13,(l_ [1])),(14,.tup [(Qa r4),.own 1 (List.map (eL 1 (eI .i64)) r5),(i_ r6)]),(15,(Qa r4)),(16,.d (.lst 1 (List.map (eL 1 (eI .i64)) r5))),(17,(i_ r6)),(18,.tup [(l_ r8),(b_ r9),(i_ r10)]),(19,(Qa x2)),(20,(l_ [1])),(21,(l_ [1])),(22,.tup [(l_ r8),(b_ r9),(i_ r10)]),(23,(l_ r8)),(24,(b_ r9)),(25,(i_ r10)),(27,(l_ [1])),(28,.agg [(l_ [1]),(i_ 1),.nils 1,.nils 3]),(29,(l_ [0,1]))],Qp Γ.n0 (bxs [(1,.cells ((Qd x2))),(2,.cells ((Qd r4)))]) M,Γ.n0 + 74⟩; exact Qco 29 [.int .i64 0,.int .i64 1] rfl rfl ⟨(.same rfl),(fPtr rfl),(fPtr rfl),(.same rfl),(.same rfl),(.same rfl),(.same rfl),(.same rfl),(.same rfl),(.same rfl),(.same rfl),(.same rfl),(.same rfl),(.same rfl),(.same rfl),(.same rfl),(.same rfl),(.same rfl),(.same rfl),(.same rfl),(.same rfl),(.same rfl),(.same rfl),(.same rfl),(.same rfl),(.same rfl),(fSl rfl rfl),tv⟩ ⟨⟨_,rfl,rfl,(.same rfl)⟩,⟨_,rfl,rfl,(.same rfl)⟩,tv⟩ rfl) ?_
 obtain ⟨⟨r12,r13⟩,h11,h⟩:=bnd h
 refine Rn.call (args:=[.agg [(l_ [1]),(i_ 1),.nils 1,.nils 3],(l_ [0,1])]) tv rfl (fun M2 nb2=>ACalls.weak (args':=[.agg [(l_ [1]),(i_ 1),(l_ []),.d (.lst 3 (List.map Qc []))],(l_ [0,1])]) (H_projection_Inverse _ _ _ h11 M2 nb2) (.cons (WkV.agg (.cons (sm rfl) (.cons (sm rfl) (.cons (WkV.nilsD _) (.cons (WkV.nilsD _) .nil))))) (.cons (sm rfl) .nil)) rfl) pc9 ?_
 refine Rn.mov (v:=.tup [(Qa r12),(i_ r13)]) tv rfl (Rn.ext (v:=(Qa r12)) (vs:=[(Qa r12),(i_ r13)]) tv rfl rfl rfl (Rn.ext (v:=(i_ r13)) (vs:=[(Qa r12),(i_ r13)]) tv rfl rfl rfl (Rn.alloc tv rfl (Rn.storeT (v:=(Qa r12)) (ds:=(Qd r12)) (cs':=(Qd r12)) tv rfl rfl rfl rfl rfl rfl rfl (md rfl (Rn.nil (toN ?_)))))))
 refine Tr.cutB (fun (x27 : Bool)=>⟨look [(0,(b_ x27))],Qp Γ.n0 (bxs [(1,.cells ((Qd x2))),(2,.cells ((Qd r4))),(8,.cells ((Qd r12)))]) M,Γ.n0 + 74⟩) h (fun z h=>?_) (fun z h=>?_)
 ·refine Tr.rgn (md rfl (Rn.bin tv rfl rfl rfl (md rfl ?_)))
  refine Qdk (r6 == 0) (fun hb14=>?_) (fun hb14=>?_)
  ·replace h:=bT hb14 h
   refine Rn.load (v:=(Qa r4)) (gw rfl hb14) rfl (Ql rfl) rfl rfl (Rn.bslice (xs:=[(i_ 1)]) (cs:=[(i_ 1)]) (gw rfl hb14) rfl rfl rfl rfl (Rn.bslice (xs:=[(i_ 1)]) (cs:=[(i_ 1)]) (gw rfl hb14) rfl rfl rfl rfl (Rn.build (v:=.agg [(i_ 0),(i_ 1),(i_ 1)]) (gw rfl hb14) rfl (Rn.build (v:=.agg [(i_ 1),(i_ 1),(i_ 1)]) (gw rfl hb14) rfl (Rn.bslice (xs:=[.agg [(i_ 0),(i_ 1),(i_ 1)],.agg [(i_ 1),(i_ 1),(i_ 1)]]) (cs:=[(i_ 0),(i_ 1),(i_ 1),(i_ 1),(i_ 1),(i_ 1)]) (gw rfl hb14) rfl rfl rfl rfl (Rn.buildT (v:=.agg [.sl 1 (Γ.n0 + 37) 0 1 1,(i_ 2),.sl 1 (Γ.n0 + 38) 0 1 1,.sl 3 (Γ.n0 + 41) 0 2 2]) (gw rfl hb14) rfl ?_))))))
   refine Rn.weak (by show WeakSt Γ _ ⟨look [(0,(b_ false)),(1,.ptr (Γ.n0 + 1) 0),(2,.ptr (Γ.n0 + 2) 0),(3,.d (.lst 1 (List.map (eL 1 (eI .i64)) r5))),(4,(i_ r6)),(5,(l_ r8)),(6,(b_ r9)),(7,(i_ r10)),(8,.ptr (Γ.n0 + 8) 0),(9,(i_ r13)),(10,(Qa x2)),(11,.tup [(Qa r4),.d (.lst 1 (List.map (eL 1 (eI .i64)) r5)),(i_ r6)]),(12,(Qa x2)),(13,(l_ [1])),(14,.tup [(Qa r4),.own 1 (List.map (eL 1 (eI .i64)) r5),(i_ r6)]),(15,(Qa r4)),(16,.d (.lst 1 (List.map (eL 1 (eI .i64)) r5))),(17,(i_ r6)),(18,.tup [(l_ r8),(b_ r9),(i_ r10)]),(19,(Qa x2)),(20,(l_ [1])),(21,(l_ [1])),(22,.tup [(l_ r8),(b_ r9),(i_ r10)]),(23,(l_ r8)),(24,(b_ r9)),(25,(i_ r10)),(26,.tup [(Qa r12),(i_ r13)]),(27,(l_ [1])),(28,.agg [(l_ [1]),(i_ 1),.nils 1,.nils 3]),(29,(l_ [0,1])),(30,.tup [(Qa r12),(i_ r13)]),(31,(Qa r12)),(32,(i_ r13)),(33,(i_ r6)),(34,(b_ (r6 == 0))),(35,(b_ (r6 == 0))),(36,(Qa r4)),(37,(l_ [1])),(38,.sl 1 (Γ.n0 + 38) 0 1 1),(39,.agg [(i_ 0),(i_ 1),(i_ 1)]),(40,.agg [(i_ 1),(i_ 1),(i_ 1)]),(41,.sl 3 (Γ.n0 + 41) 0 2 2),(42,.agg [(l_ [1]),(i_ 2),.sl 1 (Γ.n0 + 38) 0 1 1,.sl 3 (Γ.n0 + 41) 0 2 2])],Qp Γ.n0 (bxs [(1,.cells ((Qd x2))),(2,.cells ((Qd r4))),(8,.cells ((Qd r12))),(38,.cells ([(i_ 1)])),(41,.cells ([(i_ 0),(i_ 1),(i_ 1),(i_ 1),(i_ 1),(i_ 1)]))]) M,Γ.n0 + 74⟩; exact Qco 37 [.int .i64 1] rfl rfl ⟨(.same rfl),(fPtr rfl),(fPtr rfl),(.same rfl),(.same rfl),(.same rfl),(.same rfl),(.same rfl),(fPtr rfl),(.same rfl),(.same rfl),(.same rfl),(.same rfl),(.same rfl),(.same rfl),(.same rfl),(.same rfl),(.same rfl),(.same rfl),(.same rfl),(.same rfl),(.same rfl),(.same rfl),(.same rfl),(.same rfl),(.same rfl),(.same rfl),(.same rfl),(.same rfl),(.same rfl),(.same rfl),(.same rfl),(.same rfl),(.same rfl),(.same rfl),(.same rfl),(.same rfl),(fSl rfl rfl),(fSlO rfl),(.same rfl),(.same rfl),(fSlO rfl),(WkV.agg (.cons (fSl rfl rfl) (.cons (.same rfl) (.cons (fSlO rfl) (.cons (fSlO rfl) .nil))))),tv⟩ ⟨⟨_,rfl,rfl,(.same rfl)⟩,⟨_,rfl,rfl,(.same rfl)⟩,⟨_,rfl,rfl,(.same rfl)⟩,⟨_,rfl,rfl,(.same rfl)⟩,⟨_,rfl,rfl,(.same rfl)⟩,tv⟩ rfl) ?_
   refine Rn.weak (by show WeakSt Γ _ ⟨look [(0,(b_ false)),(1,.ptr (Γ.n0 + 1) 0),(2,.ptr (Γ.n0 + 2) 0),(3,.d (.lst 1 (List.map (eL 1 (eI .i64)) r5))),(4,(i_ r6)),(5,(l_ r8)),(6,(b_ r9)),(7,(i_ r10)),(8,.ptr (Γ.n0 + 8) 0),(9,(i_ r13)),(10,(Qa x2)),(11,.tup [(Qa r4),.d (.lst 1 (List.map (eL 1 (eI .i64)) r5)),(i_ r6)]),(12,(Qa x2)),(13,(l_ [1])),(14,.tup [(Qa r4),.own 1 (List.map (eL 1 (eI .i64)) r5),(i_ r6)]),(15,(Qa r4)),(16,.d (.lst 1 (List.map (eL 1 (eI .i64)) r5))),(17,(i_ r6)),(18,.tup [(l_ r8),(b_ r9),(i_ r10)]),(19,(Qa x2)),(20,(l_ [1])),(21,(l_ [1])),(22,.tup [(l_ r8),(b_ r9),(i_ r10)]),(23,(l_ r8)),(24,(b_ r9)),(25,(i_ r10)),(26,.tup [(Qa r12),(i_ r13)]),(27,(l_ [1])),(28,.agg [(l_ [1]),(i_ 1),.nils 1,.nils 3]),(29,(l_ [0,1])),(30,.tup [(Qa r12),(i_ r13)]),(31,(Qa r12)),(32,(i_ r13)),(33,(i_ r6)),(34,(b_ (r6 == 0))),(35,(b_ (r6 == 0))),(36,(Qa r4)),(37,(l_ [1])),(38,(l_ [1])),(39,.agg [(i_ 0),(i_ 1),(i_ 1)]),(40,.agg [(i_ 1),(i_ 1),(i_ 1)]),(41,.sl 3 (Γ.n0 + 41) 0 2 2),(42,.agg [(l_ [1]),(i_ 2),(l_ [1]),.sl 3 (Γ.n0 + 41) 0 2 2])],Qp Γ.n0 (bxs [(1,.cells ((Qd x2))),(2,.cells ((Qd r4))),(8,.cells ((Qd r12))),(41,.cells ([(i_ 0),(i_ 1),(i_ 1),(i_ 1),(i_ 1),(i_ 1)]))]) M,Γ.n0 + 74⟩; exact Qco 38 [.int .i64 1] rfl rfl ⟨(.same rfl),(fPtr rfl),(fPtr rfl),(.same rfl),(.same rfl),(.same rfl),(.same rfl),(.same rfl),(fPtr rfl),(.same rfl),(.same rfl),(.same rfl),(.same rfl),(.same rfl),(.same rfl),(.same rfl),(.same rfl),(.same rfl),(.same rfl),(.same rfl),(.same rfl),(.same rfl),(.same rfl),(.same rfl),(.same rfl),(.same rfl),(.same rfl),(.same rfl),(.same rfl),(.same rfl),(.same rfl),(.same rfl),(.same rfl),(.same rfl),(.same rfl),(.same rfl),(.same rfl),(.same rfl),(fSl rfl rfl),(.same rfl),(.same rfl),(fSlO rfl),(WkV.agg (.cons (.same rfl) (.cons (.same rfl) (.cons (fSl rfl rfl) (.cons (fSlO rfl) .nil))))),tv⟩ ⟨⟨_,rfl,rfl,(.same rfl)⟩,⟨_,rfl,rfl,(.same rfl)⟩,⟨_,rfl,rfl,(.same rfl)⟩,⟨_,rfl,rfl,(.same rfl)⟩,tv⟩ rfl) ?_
   refine Rn.weak (by show WeakSt Γ _ ⟨look [(0,(b_ false)),(1,.ptr (Γ.n0 + 1) 0),(2,.ptr (Γ.n0 + 2) 0),(3,.d (.lst 1 (List.map (eL 1 (eI .i64)) r5))),(4,(i_ r6)),(5,(l_ r8)),(6,(b_ r9)),(7,(i_ r10)),(8,.ptr (Γ.n0 + 8) 0),(9,(i_ r13)),(10,(Qa x2)),(11,.tup [(Qa r4),.d (.lst 1 (List.map (eL 1 (eI .i64)) r5)),(i_ r6)]),(12,(Qa x2)),(13,(l_ [1])),(14,.tup [(Qa r4),.own 1 (List.map (eL 1 (eI .i64)) r5),(i_ r6)]),(15,(Qa r4)),(16,.d (.lst 1 (List.map (eL 1 (eI .i64)) r5))),(17,(i_ r6)),(18,.tup [(l_ r8),(b_ r9),(i_ r10)]),(19,(Qa x2)),(20,(l_ [1])),(21,(l_ [1])),(22,.tup [(l_ r8),(b_ r9),(i_ r10)]),(23,(l_ r8)),(24,(b_ r9)),(25,(i_ r10)),(26,.tup [(Qa r12),(i_ r13)]),(27,(l_ [1])),(28,.agg [(l_ [1]),(i_ 1),.nils 1,.nils 3]),(29,(l_ [0,1])),(30,.tup [(Qa r12),(i_ r13)]),(31,(Qa r12)),(32,(i_ r13)),(33,(i_ r6)),(34,(b_ (r6 == 0))),(35,(b_ (r6 == 0))),(36,(Qa r4)),(37,(l_ [1])),(38,(l_ [1])),(39,.agg [(i_ 0),(i_ 1),(i_ 1)]),(40,.agg [(i_ 1),(i_ 1),(i_ 1)]),(41,.d (.lst 3 (List.map Qc [(Qe.mk 0 1 1),(Qe.mk 1 1 1)]))),(42,.agg [(l_ [1]),(i_ 2),(l_ [1]),.d (.lst 3 (List.map Qc [(Qe.mk 0 1 1),(Qe.mk 1 1 1)]))])],Qp Γ.n0 (bxs [(1,.cells ((Qd x2))),(2,.cells ((Qd r4))),(8,.cells ((Qd r12)))]) M,Γ.n0 + 74⟩; exact Qco 41 [.int .i64 0,.int .i64 1,.int .i64 1,.int .i64 1,.int .i64 1,.int .i64 1] rfl rfl ⟨(.same rfl),(fPtr rfl),(fPtr rfl),(.same rfl),(.same rfl),(.same rfl),(.same rfl),(.same rfl),(fPtr rfl),(.same rfl),(.same rfl),(.same rfl),(.same rfl),(.same rfl),(.same rfl),(.same rfl),(.same rfl),(.same rfl),(.same rfl),(.same rfl),(.same rfl),(.same rfl),(.same rfl),(.same rfl),(.same rfl),(.same rfl),(.same rfl),(.same rfl),(.same rfl),(.same rfl),(.same rfl),(.same rfl),(.same rfl),(.same rfl),(.same rfl),(.same rfl),(.same rfl),(.same rfl),(.same rfl),(.same rfl),(.same rfl),(fSl rfl rfl),(WkV.agg (.cons (.same rfl) (.cons (.same rfl) (.cons (.same rfl) (.cons (fSl rfl rfl) .nil))))),tv⟩ ⟨⟨_,rfl,rfl,(.same rfl)⟩,⟨_,rfl,rfl,(.same rfl)⟩,⟨_,rfl,rfl,(.same rfl)⟩,tv⟩ rfl) ?_
   obtain ⟨x16,h15,h⟩:=bnd h
   refine Rn.call (args:=[(Qa r4),.agg [(l_ [1]),(i_ 2),(l_ [1]),.d (.lst 3 (List.map Qc [(Qe.mk 0 1 1),(Qe.mk 1 1 1)]))]]) (gw rfl hb14) rfl (H_overseerref03_Same _ _ _ h15) pc9 (Rn.pickT (v:=(b_ x16)) tv rfl hb14 rfl (md rfl ?_))
   refine Qdk x16 (fun hb17=>?_) (fun hb17=>?_)
   ·replace h:=bT hb17 h
    refine Rn.movD (gw rfl hb17) rfl (Rn.bslice (xs:=[(i_ 0),(i_ 1)]) (cs:=[(i_ 0),(i_ 1)]) (gw rfl hb17) rfl rfl rfl rfl (Rn.bslice (xs:=[(i_ 0),(i_ 1),(i_ 2)]) (cs:=[(i_ 0),(i_ 1),(i_ 2)]) (gw rfl hb17) rfl rfl rfl rfl (Rn.bslice (xs:=[.sl 1 (Γ.n0 + 47) 0 2 2,.sl 1 (Γ.n0 + 48) 0 3 3]) (cs:=[.sl 1 (Γ.n0 + 47) 0 2 2,.sl 1 (Γ.n0 + 48) 0 3 3]) (gw rfl hb17) rfl rfl rfl rfl ?_)))
    refine Rn.weak (by show WeakSt Γ _ ⟨look [(0,(b_ false)),(1,.ptr (Γ.n0 + 1) 0),(2,.ptr (Γ.n0 + 2) 0),(3,.d (.lst 1 (List.map (eL 1 (eI .i64)) r5))),(4,(i_ r6)),(5,(l_ r8)),(6,(b_ r9)),(7,(i_ r10)),(8,.ptr (Γ.n0 + 8) 0),(9,(i_ r13)),(10,(Qa x2)),(11,.tup [(Qa r4),.d (.lst 1 (List.map (eL 1 (eI .i64)) r5)),(i_ r6)]),(12,(Qa x2)),(13,(l_ [1])),(14,.tup [(Qa r4),.own 1 (List.map (eL 1 (eI .i64)) r5),(i_ r6)]),(15,(Qa r4)),(16,.d (.lst 1 (List.map (eL 1 (eI .i64)) r5))),(17,(i_ r6)),(18,.tup [(l_ r8),(b_ r9),(i_ r10)]),(19,(Qa x2)),(20,(l_ [1])),(21,(l_ [1])),(22,.tup [(l_ r8),(b_ r9),(i_ r10)]),(23,(l_ r8)),(24,(b_ r9)),(25,(i_ r10)),(26,.tup [(Qa r12),(i_ r13)]),(27,(l_ [1])),(28,.agg [(l_ [1]),(i_ 1),.nils 1,.nils 3]),(29,(l_ [0,1])),(30,.tup [(Qa r12),(i_ r13)]),(31,(Qa r12)),(32,(i_ r13)),(33,(i_ r6)),(34,(b_ (r6 == 0))),(35,(b_ (r6 == 0))),(36,(Qa r4)),(37,(l_ [1])),(38,(l_ [1])),(39,.agg [(i_ 0),(i_ 1),(i_ 1)]),(40,.agg [(i_ 1),(i_ 1),(i_ 1)]),(41,.d (.lst 3 (List.map Qc [(Qe.mk 0 1 1),(Qe.mk 1 1 1)]))),(42,.agg [(l_ [1]),(i_ 2),(l_ [1]),.d (.lst 3 (List.map Qc [(Qe.mk 0 1 1),(Qe.mk 1 1 1)]))]),(43,(b_ x16)),(44,(b_ x16)),(45,(b_ x16)),(46,.d (.lst 1 (List.map (eL 1 (eI .i64)) r5))),(47,(l_ [0,1])),(48,.sl 1 (Γ.n0 + 48) 0 3 3),(49,.sl 1 (Γ.n0 + 49) 0 2 2)],Qp Γ.n0 (bxs [(1,.cells ((Qd x2))),(2,.cells ((Qd r4))),(8,.cells ((Qd r12))),(48,.cells ([(i_ 0),(i_ 1),(i_ 2)])),(49,.cells ([(l_ [0,1]),.sl 1 (Γ.n0 + 48) 0 3 3]))]) M,Γ.n0 + 74⟩; exact Qco 47 [.int .i64 0,.int .i64 1] rfl rfl ⟨(.same rfl),(fPtr rfl),(fPtr rfl),(.same rfl),(.same rfl),(.same rfl),(.same rfl),(.same rfl),(fPtr rfl),(.same rfl),(.same rfl),(.same rfl),(.same rfl),(.same rfl),(.same rfl),(.same rfl),(.same rfl),(.same rfl),(.same rfl),(.same rfl),(.same rfl),(.same rfl),(.same rfl),(.same rfl),(.same rfl),(.same rfl),(.same rfl),(.same rfl),(.same rfl),(.same rfl),(.same rfl),(.same rfl),(.same rfl),(.same rfl),(.same rfl),(.same rfl),(.same rfl),(.same rfl),(.same rfl),(.same rfl),(.same rfl),(.same rfl),(.same rfl),(.same rfl),(.same rfl),(.same rfl),(.same rfl),(fSl rfl rfl),(fSlO rfl),(fSlO rfl),tv⟩ ⟨⟨_,rfl,rfl,(.same rfl)⟩,⟨_,rfl,rfl,(.same rfl)⟩,⟨_,rfl,rfl,(.same rfl)⟩,⟨_,rfl,rfl,(.same rfl)⟩,⟨_,rfl,rfl,(.cons (fSl rfl rfl) (.cons (fSlO rfl) .nil))⟩,tv⟩ rfl) ?_
    refine Rn.weak (by show WeakSt Γ _ ⟨look [(0,(b_ false)),(1,.ptr (Γ.n0 + 1) 0),(2,.ptr (Γ.n0 + 2) 0),(3,.d (.lst 1 (List.map (eL 1 (eI .i64)) r5))),(4,(i_ r6)),(5,(l_ r8)),(6,(b_ r9)),(7,(i_ r10)),(8,.ptr (Γ.n0 + 8) 0),(9,(i_ r13)),(10,(Qa x2)),(11,.tup [(Qa r4),.d (.lst 1 (List.map (eL 1 (eI .i64)) r5)),(i_ r6)]),(12,(Qa x2)),(13,(l_ [1])),(14,.tup [(Qa r4),.own 1 (List.map (eL 1 (eI .i64)) r5),(i_ r6)]),(15,(Qa r4)),(16,.d (.lst 1 (List.map (eL 1 (eI .i64)) r5))),(17,(i_ r6)),(18,.tup [(l_ r8),(b_ r9),(i_ r10)]),(19,(Qa x2)),(20,(l_ [1])),(21,(l_ [1])),(22,.tup [(l_ r8),(b_ r9),(i_ r10)]),(23,(l_ r8)),(24,(b_ r9)),(25,(i_ r10)),(26,.tup [(Qa r12),(i_ r13)]),(27,(l_ [1])),(28,.agg [(l_ [1]),(i_ 1),.nils 1,.nils 3]),(29,(l_ [0,1])),(30,.tup [(Qa r12),(i_ r13)]),(31,(Qa r12)),(32,(i_ r13)),(33,(i_ r6)),(34,(b_ (r6 == 0))),(35,(b_ (r6 == 0))),(36,(Qa r4)),(37,(l_ [1])),(38,(l_ [1])),(39,.agg [(i_ 0),(i_ 1),(i_ 1)]),(40,.agg [(i_ 1),(i_ 1),(i_ 1)]),(41,.d (.lst 3 (List.map Qc [(Qe.mk 0 1 1),(Qe.mk 1 1 1)]))),(42,.agg [(l_ [1]),(i_ 2),(l_ [1]),.d (.lst 3 (List.map Qc [(Qe.mk 0 1 1),(Qe.mk 1 1 1)]))]),(43,(b_ x16)),(44,(b_ x16)),(45,(b_ x16)),(46,.d (.lst 1 (List.map (eL 1 (eI .i64)) r5))),(47,(l_ [0,1])),(48,(l_ [0,1,2])),(49,.sl 1 (Γ.n0 + 49) 0 2 2)],Qp Γ.n0 (bxs [(1,.cells ((Qd x2))),(2,.cells ((Qd r4))),(8,.cells ((Qd r12))),(49,.cells ([(l_ [0,1]),(l_ [0,1,2])]))]) M,Γ.n0 + 74⟩; exact Qco 48 [.int .i64 0,.int .i64 1,.int .i64 2] rfl rfl ⟨(.same rfl),(fPtr rfl),(fPtr rfl),(.same rfl),(.same rfl),(.same rfl),(.same rfl),(.same rfl),(fPtr rfl),(.same rfl),(.same rfl),(.same rfl),(.same rfl),(.same rfl),(.same rfl),(.same rfl),(.same rfl),(.same rfl),(.same rfl),(.same rfl),(.same rfl),(.same rfl),(.same rfl),(.same rfl),(.same rfl),(.same rfl),(.same rfl),(.same rfl),(.same rfl),(.same rfl),(.same rfl),(.same rfl),(.same rfl),(.same rfl),(.same rfl),(.same rfl),(.same rfl),(.same rfl),(.same rfl),(.same rfl),(.same rfl),(.same rfl),(.same rfl),(.same rfl),(.same rfl),(.same rfl),(.same rfl),(.same rfl),(fSl rfl rfl),(fSlO rfl),tv⟩ ⟨⟨_,rfl,rfl,(.same rfl)⟩,⟨_,rfl,rfl,(.same rfl)⟩,⟨_,rfl,rfl,(.same rfl)⟩,⟨_,rfl,rfl,(.cons (.same rfl) (.cons (fSl rfl rfl) .nil))⟩,tv⟩ rfl) ?_
    refine Rn.weak (by show WeakSt Γ _ ⟨look [(0,(b_ false)),(1,.ptr (Γ.n0 + 1) 0),(2,.ptr (Γ.n0 + 2) 0),(3,.d (.lst 1 (List.map (eL 1 (eI .i64)) r5))),(4,(i_ r6)),(5,(l_ r8)),(6,(b_ r9)),(7,(i_ r10)),(8,.ptr (Γ.n0 + 8) 0),(9,(i_ r13)),(10,(Qa x2)),(11,.tup [(Qa r4),.d (.lst 1 (List.map (eL 1 (eI .i64)) r5)),(i_ r6)]),(12,(Qa x2)),(13,(l_ [1])),(14,.tup [(Qa r4),.own 1 (List.map (eL 1 (eI .i64)) r5),(i_ r6)]),(15,(Qa r4)),(16,.d (.lst 1 (List.map (eL 1 (eI .i64)) r5))),(17,(i_ r6)),(18,.tup [(l_ r8),(b_ r9),(i_ r10)]),(19,(Qa x2)),(20,(l_ [1])),(21,(l_ [1])),(22,.tup [(l_ r8),(b_ r9),(i_ r10)]),(23,(l_ r8)),(24,(b_ r9)),(25,(i_ r10)),(26,.tup [(Qa r12),(i_ r13)]),(27,(l_ [1])),(28,.agg [(l_ [1]),(i_ 1),.nils 1,.nils 3]),(29,(l_ [0,1])),(30,.tup [(Qa r12),(i_ r13)]),(31,(Qa r12)),(32,(i_ r13)),(33,(i_ r6)),(34,(b_ (r6 == 0))),(35,(b_ (r6 == 0))),(36,(Qa r4)),(37,(l_ [1])),(38,(l_ [1])),(39,.agg [(i_ 0),(i_ 1),(i_ 1)]),(40,.agg [(i_ 1),(i_ 1),(i_ 1)]),(41,.d (.lst 3 (List.map Qc [(Qe.mk 0 1 1),(Qe.mk 1 1 1)]))),(42,.agg [(l_ [1]),(i_ 2),(l_ [1]),.d (.lst 3 (List.map Qc [(Qe.mk 0 1 1),(Qe.mk 1 1 1)]))]),(43,(b_ x16)),(44,(b_ x16)),(45,(b_ x16)),(46,.d (.lst 1 (List.map (eL 1 (eI .i64)) r5))),(47,(l_ [0,1])),(48,(l_ [0,1,2])),(49,.d (.lst 1 (List.map (eL 1 (eI .i64)) ([[0,1],[0,1,2]]))))],Qp Γ.n0 (bxs [(1,.cells ((Qd x2))),(2,.cells ((Qd r4))),(8,.cells ((Qd r12)))]) M,Γ.n0 + 74⟩; exact Qco 49 [.lst 1 (List.map (eI .i64) [0,1]),.lst 1 (List.map (eI .i64) [0,1,2])] rfl rfl ⟨(.same rfl),(fPtr rfl),(fPtr rfl),(.same rfl),(.same rfl),(.same rfl),(.same rfl),(.same rfl),(fPtr rfl),(.same rfl),(.same rfl),(.same rfl),(.same rfl),(.same rfl),(.same rfl),(.same rfl),(.same rfl),(.same rfl),(.same rfl),(.same rfl),(.same rfl),(.same rfl),(.same rfl),(.same rfl),(.same rfl),(.same rfl),(.same rfl),(.same rfl),(.same rfl),(.same rfl),(.same rfl),(.same rfl),(.same rfl),(.same rfl),(.same rfl),(.same rfl),(.same rfl),(.same rfl),(.same rfl),(.same rfl),(.same rfl),(.same rfl),(.same rfl),(.same rfl),(.same rfl),(.same rfl),(.same rfl),(.same rfl),(.same rfl),(fSl rfl rfl),tv⟩ ⟨⟨_,rfl,rfl,(.same rfl)⟩,⟨_,rfl,rfl,(.same rfl)⟩,⟨_,rfl,rfl,(.same rfl)⟩,tv⟩ rfl) ?_
    obtain ⟨x19,h18,h⟩:=bnd h
    refine Rn.call (args:=[.d (.lst 1 (List.map (eL 1 (eI .i64)) r5)),.d (.lst 1 (List.map (eL 1 (eI .i64)) ([[0,1],[0,1,2]])))]) (gw rfl hb17) rfl (H_overseerlaw03_SameWords _ _ _ h18) pc9 (Rn.pickT (v:=(b_ x19)) tv rfl hb17 rfl (md rfl ?_))
    refine Qdk x19 (fun hb20=>?_) (fun hb20=>?_)
    ·replace h:=bT hb20 h
     refine Rn.movD (gw rfl hb20) rfl (Rn.bin (gw rfl hb20) rfl rfl rfl (Rn.pickT (v:=(b_ (r10 == 0))) tv rfl hb20 rfl (md rfl ?_)))
     refine Qdk (r10 == 0) (fun hb21=>?_) (fun hb21=>?_)
     ·replace h:=bT hb21 h
      refine Rn.movD (gw rfl hb21) rfl (Rn.pickT (v:=(b_ r9)) tv rfl hb21 rfl (md rfl ?_))
      refine Qdk r9 (fun hb22=>?_) (fun hb22=>?_)
      ·replace h:=bT hb22 h
       refine Rn.movD (gw rfl hb22) rfl (Rn.bslice (xs:=[(i_ 0),(i_ 1)]) (cs:=[(i_ 0),(i_ 1)]) (gw rfl hb22) rfl rfl rfl rfl ?_)
       refine Rn.weak (by show WeakSt Γ _ ⟨look [(0,(b_ false)),(1,.ptr (Γ.n0 + 1) 0),(2,.ptr (Γ.n0 + 2) 0),(3,.d (.lst 1 (List.map (eL 1 (eI .i64)) r5))),(4,(i_ r6)),(5,(l_ r8)),(6,(b_ r9)),(7,(i_ r10)),(8,.ptr (Γ.n0 + 8) 0),(9,(i_ r13)),(10,(Qa x2)),(11,.tup [(Qa r4),.d (.lst 1 (List.map (eL 1 (eI .i64)) r5)),(i_ r6)]),(12,(Qa x2)),(13,(l_ [1])),(14,.tup [(Qa r4),.own 1 (List.map (eL 1 (eI .i64)) r5),(i_ r6)]),(15,(Qa r4)),(16,.d (.lst 1 (List.map (eL 1 (eI .i64)) r5))),(17,(i_ r6)),(18,.tup [(l_ r8),(b_ r9),(i_ r10)]),(19,(Qa x2)),(20,(l_ [1])),(21,(l_ [1])),(22,.tup [(l_ r8),(b_ r9),(i_ r10)]),(23,(l_ r8)),(24,(b_ r9)),(25,(i_ r10)),(26,.tup [(Qa r12),(i_ r13)]),(27,(l_ [1])),(28,.agg [(l_ [1]),(i_ 1),.nils 1,.nils 3]),(29,(l_ [0,1])),(30,.tup [(Qa r12),(i_ r13)]),(31,(Qa r12)),(32,(i_ r13)),(33,(i_ r6)),(34,(b_ (r6 == 0))),(35,(b_ (r6 == 0))),(36,(Qa r4)),(37,(l_ [1])),(38,(l_ [1])),(39,.agg [(i_ 0),(i_ 1),(i_ 1)]),(40,.agg [(i_ 1),(i_ 1),(i_ 1)]),(41,.d (.lst 3 (List.map Qc [(Qe.mk 0 1 1),(Qe.mk 1 1 1)]))),(42,.agg [(l_ [1]),(i_ 2),(l_ [1]),.d (.lst 3 (List.map Qc [(Qe.mk 0 1 1),(Qe.mk 1 1 1)]))]),(43,(b_ x16)),(44,(b_ x16)),(45,(b_ x16)),(46,.d (.lst 1 (List.map (eL 1 (eI .i64)) r5))),(47,(l_ [0,1])),(48,(l_ [0,1,2])),(49,.d (.lst 1 (List.map (eL 1 (eI .i64)) ([[0,1],[0,1,2]])))),(50,(b_ x19)),(51,(b_ x19)),(52,(b_ x19)),(53,(i_ r10)),(54,(b_ (r10 == 0))),(55,(b_ (r10 == 0))),(56,(b_ (r10 == 0))),(57,(b_ r9)),(58,(b_ r9)),(59,(b_ r9)),(60,(l_ r8)),(61,(l_ [0,1]))],Qp Γ.n0 (bxs [(1,.cells ((Qd x2))),(2,.cells ((Qd r4))),(8,.cells ((Qd r12)))]) M,Γ.n0 + 74⟩; exact Qco 61 [.int .i64 0,.int .i64 1] rfl rfl ⟨(.same rfl),(fPtr rfl),(fPtr rfl),(.same rfl),(.same rfl),(.same rfl),(.same rfl),(.same rfl),(fPtr rfl),(.same rfl),(.same rfl),(.same rfl),(.same rfl),(.same rfl),(.same rfl),(.same rfl),(.same rfl),(.same rfl),(.same rfl),(.same rfl),(.same rfl),(.same rfl),(.same rfl),(.same rfl),(.same rfl),(.same rfl),(.same rfl),(.same rfl),(.same rfl),(.same rfl),(.same rfl),(.same rfl),(.same rfl),(.same rfl),(.same rfl),(.same rfl),(.same rfl),(.same rfl),(.same rfl),(.same rfl),(.same rfl),(.same rfl),(.same rfl),(.same rfl),(.same rfl),(.same rfl),(.same rfl),(.same rfl),(.same rfl),(.same rfl),(.same rfl),(.same rfl),(.same rfl),(.same rfl),(.same rfl),(.same rfl),(.same rfl),(.same rfl),(.same rfl),(.same rfl),(.same rfl),(fSl rfl rfl),tv⟩ ⟨⟨_,rfl,rfl,(.same rfl)⟩,⟨_,rfl,rfl,(.same rfl)⟩,⟨_,rfl,rfl,(.same rfl)⟩,tv⟩ rfl) ?_
       obtain ⟨x24,h23,h⟩:=bnd h
       refine Rn.call (args:=[(l_ r8),(l_ [0,1])]) (gw rfl hb22) rfl (H_overseerref03_SameInts _ _ _ h23) pc9 (Rn.pickT (v:=(b_ x24)) tv rfl hb22 rfl (md rfl ?_))
       refine Qdk x24 (fun hb25=>?_) (fun hb25=>?_)
       ·replace h:=bT hb25 h
        refine Rn.movD (gw rfl hb25) rfl (Rn.bin (gw rfl hb25) rfl rfl rfl (Rn.pickT (v:=(b_ (r13 == 0))) tv rfl hb25 rfl (md rfl ?_)))
        refine Qdk (r13 == 0) (fun hb26=>?_) (fun hb26=>?_)
        ·replace h:=bT hb26 h
         refine Rn.fldP (o':=3) (gw rfl hb26) rfl rfl (Rn.load (v:=.d (.lst 3 (List.map Qc r12.Edges))) (gw rfl hb26) rfl (Ql rfl) rfl rfl (Rn.lenD (gw rfl hb26) rfl (Rn.bin (gw rfl hb26) rfl rfl rfl (Rn.pickT (v:=(b_ ((r12.Edges.length : Int) == 1))) tv rfl hb26 rfl (md rfl (Rn.nil ?_))))))
         replace h:=si h; subst h
         exact Qj [] ⟨(sm rfl),tv⟩ ⟨⟨_,rfl,rfl,(.same rfl)⟩,⟨_,rfl,rfl,(.same rfl)⟩,⟨_,rfl,rfl,(.same rfl)⟩,tv⟩ rfl
        ·replace h:=bF hb26 h
         refine Rn.sk (nw rfl hb26) (Rn.sk (nw rfl hb26) (Rn.sk (nw rfl hb26) (Rn.sk (nw rfl hb26) (Rn.pickF (v:=(b_ false)) tv rfl hb26 rfl (md rfl (Rn.nil ?_))))))
         replace h:=si h; subst h
         exact Qj [] ⟨(sm rfl),tv⟩ ⟨⟨_,rfl,rfl,(.same rfl)⟩,⟨_,rfl,rfl,(.same rfl)⟩,⟨_,rfl,rfl,(.same rfl)⟩,tv⟩ rfl
       ·replace h:=bF hb25 h
        refine Rn.sk (nw rfl hb25) (Rn.sk (nw rfl hb25) (Rn.pickF (v:=(b_ false)) tv rfl hb25 rfl (md rfl (Rn.sk (nw (b:=false) rfl rfl) (Rn.sk (nw (b:=false) rfl rfl) (Rn.sk (nw (b:=false) rfl rfl) (Rn.sk (nw (b:=false) rfl rfl) (Rn.pickF (v:=(b_ false)) tv rfl rfl rfl (md rfl (Rn.nil ?_))))))))))
        replace h:=si h; subst h
        exact Qj [] ⟨(sm rfl),tv⟩ ⟨⟨_,rfl,rfl,(.same rfl)⟩,⟨_,rfl,rfl,(.same rfl)⟩,⟨_,rfl,rfl,(.same rfl)⟩,tv⟩ rfl
      ·replace h:=bF hb22 h
       refine Rn.sk (nw rfl hb22) (Rn.sk (nw rfl hb22) (Rn.sk (nw rfl hb22) (Rn.pickF (v:=(b_ false)) tv rfl hb22 rfl (md rfl (Rn.sk (nw (b:=false) rfl rfl) (Rn.sk (nw (b:=false) rfl rfl) (Rn.pickF (v:=(b_ false)) tv rfl rfl rfl (md rfl (Rn.sk (nw (b:=false) rfl rfl) (Rn.sk (nw (b:=false) rfl rfl) (Rn.sk (nw (b:=false) rfl rfl) (Rn.sk (nw (b:=false) rfl rfl) (Rn.pickF (v:=(b_ false)) tv rfl rfl rfl (md rfl (Rn.nil ?_)))))))))))))))
       replace h:=si h; subst h
       exact Qj [] ⟨(sm rfl),tv⟩ ⟨⟨_,rfl,rfl,(.same rfl)⟩,⟨_,rfl,rfl,(.same rfl)⟩,⟨_,rfl,rfl,(.same rfl)⟩,tv⟩ rfl
     ·replace h:=bF hb21 h
      refine Rn.sk (nw rfl hb21) (Rn.pickF (v:=(b_ false)) tv rfl hb21 rfl (md rfl (Rn.sk (nw (b:=false) rfl rfl) (Rn.sk (nw (b:=false) rfl rfl) (Rn.sk (nw (b:=false) rfl rfl) (Rn.pickF (v:=(b_ false)) tv rfl rfl rfl (md rfl (Rn.sk (nw (b:=false) rfl rfl) (Rn.sk (nw (b:=false) rfl rfl) (Rn.pickF (v:=(b_ false)) tv rfl rfl rfl (md rfl (Rn.sk (nw (b:=false) rfl rfl) (Rn.sk (nw (b:=false) rfl rfl) (Rn.sk (nw (b:=false) rfl rfl) (Rn.sk (nw (b:=false) rfl rfl) (Rn.pickF (v:=(b_ false)) tv rfl rfl rfl (md rfl (Rn.nil ?_))))))))))))))))))
      replace h:=si h; subst h
      exact Qj [] ⟨(sm rfl),tv⟩ ⟨⟨_,rfl,rfl,(.same rfl)⟩,⟨_,rfl,rfl,(.same rfl)⟩,⟨_,rfl,rfl,(.same rfl)⟩,tv⟩ rfl
    ·replace h:=bF hb20 h
     refine Rn.sk (nw rfl hb20) (Rn.sk (nw rfl hb20) (Rn.pickF (v:=(b_ false)) tv rfl hb20 rfl (md rfl (Rn.sk (nw (b:=false) rfl rfl) (Rn.pickF (v:=(b_ false)) tv rfl rfl rfl (md rfl (Rn.sk (nw (b:=false) rfl rfl) (Rn.sk (nw (b:=false) rfl rfl) (Rn.sk (nw (b:=false) rfl rfl) (Rn.pickF (v:=(b_ false)) tv rfl rfl rfl (md rfl (Rn.sk (nw (b:=false) rfl rfl) (Rn.sk (nw (b:=false) rfl rfl) (Rn.pickF (v:=(b_ false)) tv rfl rfl rfl (md rfl (Rn.sk (nw (b:=false) rfl rfl) (Rn.sk (nw (b:=false) rfl rfl) (Rn.sk (nw (b:=false) rfl rfl) (Rn.sk (nw (b:=false) rfl rfl) (Rn.pickF (v:=(b_ false)) tv rfl rfl rfl (md rfl (Rn.nil ?_))))))))))))))))))))))
     replace h:=si h; subst h
     exact Qj [] ⟨(sm rfl),tv⟩ ⟨⟨_,rfl,rfl,(.same rfl)⟩,⟨_,rfl,rfl,(.same rfl)⟩,⟨_,rfl,rfl,(.same rfl)⟩,tv⟩ rfl
   ·replace h:=bF hb17 h
    refine Rn.sk (nw rfl hb17) (Rn.sk (nw rfl hb17) (Rn.sk (nw rfl hb17) (Rn.sk (nw rfl hb17) (Rn.sk (nw rfl hb17) (Rn.pickF (v:=(b_ false)) tv rfl hb17 rfl (md rfl (Rn.sk (nw (b:=false) rfl rfl) (Rn.sk (nw (b:=false) rfl rfl) (Rn.pickF (v:=(b_ false)) tv rfl rfl rfl (md rfl (Rn.sk (nw (b:=false) rfl rfl) (Rn.pickF (v:=(b_ false)) tv rfl rfl rfl (md rfl (Rn.sk (nw (b:=false) rfl rfl) (Rn.sk (nw (b:=false) rfl rfl) (Rn.sk (nw (b:=false) rfl rfl) (Rn.pickF (v:=(b_ false)) tv rfl rfl rfl (md rfl (Rn.sk (nw (b:=false) rfl rfl) (Rn.sk (nw (b:=false) rfl rfl) (Rn.pickF (v:=(b_ false)) tv rfl rfl rfl (md rfl (Rn.sk (nw (b:=false) rfl rfl) (Rn.sk (nw (b:=false) rfl rfl) (Rn.sk (nw (b:=false) rfl rfl) (Rn.sk (nw (b:=false) rfl rfl) (Rn.pickF (v:=(b_ false)) tv rfl rfl rfl (md rfl (Rn.nil ?_)))))))))))))))))))))))))))))
    replace h:=si h; subst h
    exact Qj [] ⟨(sm rfl),tv⟩ ⟨⟨_,rfl,rfl,(.same rfl)⟩,⟨_,rfl,rfl,(.same rfl)⟩,⟨_,rfl,rfl,(.same rfl)⟩,tv⟩ rfl
  ·replace h:=bF hb14 h
   refine Rn.sk (nw rfl hb14) (Rn.sk (nw rfl hb14) (Rn.sk (nw rfl hb14) (Rn.sk (nw rfl hb14) (Rn.sk (nw rfl hb14) (Rn.sk (nw rfl hb14) (Rn.sk (nw rfl hb14) (Rn.sk (nw rfl hb14) (Rn.pickF (v:=(b_ false)) tv rfl hb14 rfl (md rfl (Rn.sk (nw (b:=false) rfl rfl) (Rn.sk (nw (b:=false) rfl rfl) (Rn.sk (nw (b:=false) rfl rfl) (Rn.sk (nw (b:=false) rfl rfl) (Rn.sk (nw (b:=false) rfl rfl) (Rn.pickF (v:=(b_ false)) tv rfl rfl rfl (md rfl (Rn.sk (nw (b:=false) rfl rfl) (Rn.sk (nw (b:=false) rfl rfl) (Rn.pickF (v:=(b_ false)) tv rfl rfl rfl (md rfl (Rn.sk (nw (b:=false) rfl rfl) (Rn.pickF (v:=(b_ false)) tv rfl rfl rfl (md rfl (Rn.sk (nw (b:=false) rfl rfl) (Rn.sk (nw (b:=false) rfl rfl) (Rn.sk (nw (b:=false) rfl rfl) (Rn.pickF (v:=(b_ false)) tv rfl rfl rfl (md rfl (Rn.sk (nw (b:=false) rfl rfl) (Rn.sk (nw (b:=false) rfl rfl) (Rn.pickF (v:=(b_ false)) tv rfl rfl rfl (md rfl (Rn.sk (nw (b:=false) rfl rfl) (Rn.sk (nw (b:=false) rfl rfl) (Rn.sk (nw (b:=false) rfl rfl) (Rn.sk (nw (b:=false) rfl rfl) (Rn.pickF (v:=(b_ false)) tv rfl rfl rfl (md rfl (Rn.nil ?_)))))))))))))))))))))))))))))))))))))))
   replace h:=si h; subst h
   exact Qj [] ⟨(sm rfl),tv⟩ ⟨⟨_,rfl,rfl,(.same rfl)⟩,⟨_,rfl,rfl,(.same rfl)⟩,⟨_,rfl,rfl,(.same rfl)⟩,tv⟩ rfl
 ·obtain ⟨x27,rfl⟩ : ∃ x,x = z:=⟨_,rfl⟩
  refine Tr.ret ?_
  replace h:=si h; subst h
  exact ⟨.inr rfl,(b_ x27),rfl,fun _ _ _ _ h=>h,tv,fun k hk=>Qg hk⟩
theorem Qm8 {P : Program} {c : Nat} (hcf : Qs P c = some Qfe) (fuel : Nat) : Qfd P c (Qbm fuel):=by
 intro s1 r h
 refine Qci hcf rfl fun Γ M hP hnt hM=>?_
 subst hP
 refine Tr.init [(0,.d (.int .u8 s1))] rfl ?_
 unfold Qbm at h
 unfold Qfe
 refine sr ((Rn.movTC (v:=.nils 1) tv (nt ((sr ((Rn.movTC (v:=.nils 1) tv (Rn.nil (toN ?_)))))))))
 refine Tr.cutB (fun (out12 : List Int)=>⟨look [(3,(o_ out12))],Qp Γ.n0 (bxs []) M,Γ.n0 + 19⟩) h (fun z h=>?_) (fun z h=>?_)
 ·refine sr ((md rfl (nt ((Tr.block ?_)))))
  refine Tr.loop (mk:=fun ((out2,i3) : (List Int) × Int)=>⟨look [(0,.d (.int .u8 s1)),(3,(o_ out2)),(4,(i_ i3))],Qp Γ.n0 (bxs []) M,Γ.n0 + 19⟩) h (by exact Qk ⟨(sm rfl),(WkV.nilsO _),(sm rfl),tv⟩ tv rfl) (fun k4 z h=>?_)
  ·obtain ⟨out2,i3⟩:=z
   replace h : _ = some _:=h
   refine Tr.seq (sr ((md rfl (Rn.bin tv rfl rfl rfl (Rn.nil (toN ?_))))))
   refine Tr.cond rfl (fun hb5=>?_) (fun hb5=>?_)
   ·replace h:=ifT hb5 h
    refine Tr.skip (toN ?_)
    refine Tr.cutB (fun (out11 : List Int)=>⟨look [(0,.d (.int .u8 s1)),(3,(o_ out11)),(4,(i_ i3))],Qp Γ.n0 (bxs []) M,Γ.n0 + 19⟩) h (fun z h=>?_) (fun z h=>?_)
    ·refine Tr.block (sr ((md rfl (md rfl ?_))))
     obtain ⟨s6,h7,h⟩:=bnd h
     refine Rn.bin tv rfl rfl (Qbk4 h7) (Rn.bin tv rfl rfl rfl (Rn.bin tv rfl rfl rfl (Rn.nil (toN ?_))))
     refine Tr.cond rfl (fun hb8=>?_) (fun hb8=>?_)
     ·replace h:=bT hb8 h
      refine Tr.rgn (Rn.movTO tv rfl (md rfl (Rn.bslice (xs:=[(i_ i3)]) (cs:=[(i_ i3)]) tv rfl rfl rfl rfl ?_)))
      obtain ⟨x9,h10,h⟩:=bnd h
      refine Rn.app (e:=(eI .i64)) tv rfl rfl rfl (Qcj rfl rfl rfl) h10 rfl (Rn.movTO tv rfl (Rn.nil ?_))
      replace h:=si h; subst h
      exact Qj [16] ⟨(sm rfl),(sm rfl),(sm rfl),tv⟩ tv rfl
     ·replace h:=bF hb8 h
      refine Tr.skip ?_
      replace h:=si h; subst h
      exact Qj [] ⟨(sm rfl),(sm rfl),(sm rfl),tv⟩ tv rfl
    ·obtain ⟨out11,rfl⟩ : ∃ x,x = z:=⟨_,rfl⟩
     refine Tr.rgn (md rfl (Rn.bin tv rfl rfl rfl (md rfl (Rn.nil ?_))))
     exact ⟨_,h,(by exact Qk ⟨(sm rfl),(sm rfl),(sm rfl),tv⟩ tv rfl)⟩
   ·replace h:=ifF hb5 h
    refine Tr.exit ?_
    replace h:=si h; subst h
    exact Qj [] ⟨(sm rfl),tv⟩ tv rfl
 ·obtain ⟨out12,rfl⟩ : ∃ x,x = z:=⟨_,rfl⟩
  refine sr ((Rn.movTO tv rfl (Rn.movTO tv rfl (nt ((Tr.ret ?_))))))
  replace h:=si h; subst h
  exact ⟨.inr rfl,(o_ out12),rfl,fun _ _ _ _ h=>h,tv,fun k hk=>Qg hk⟩
theorem Qtj {P : Program} {c : Nat} (hcf : Qs P c = some Qhn) : Qfj P c (Q6):=by
 intro alphabet1 r h
 refine Qci hcf rfl fun Γ M hP hnt hM=>?_
 subst hP
 refine Tr.init [(0,(l_ alphabet1))] rfl ?_
 unfold Q6 at h
 unfold Qhn
 refine sr ((Rn.alloc tv rfl (nt ((sr ((Rn.bslice (xs:=[]) (cs:=[]) tv rfl rfl rfl rfl (md rfl ?_))))))))
 obtain ⟨x2,h3,h⟩:=bnd h
 refine Rn.app0 (e:=(eI .i64)) tv rfl rfl rfl rfl Q0h h3 rfl (Rn.buildT (v:=.agg [(o_ x2),(i_ 0),.nils 1,.nils 3]) tv rfl (Rn.storeT (v:=.agg [(o_ x2),(i_ 0),.nils 1,.nils 3]) (ds:=[(o_ x2),(i_ 0),.nils 1,.nils 3]) (cs':=[(o_ x2),(i_ 0),.nils 1,.nils 3]) tv rfl rfl rfl rfl rfl rfl rfl (nt ((Tr.ret ?_)))))
 replace h:=si h; subst h
 exact ⟨.inr rfl,(.agg [(l_ x2),(i_ 0),.nils 1,.nils 3]),Qh5 rfl rfl rfl rfl,fun _ _ _ _ h=>h,⟨tv,tv,tv,tv,tv⟩,fun k hk=>Qg hk⟩
theorem Qxc {P : Program} {c : Nat} (hcf : Qs P c = some Qie) (fuel : Nat) : Qfz P c (Qbe fuel):=by
 intro a1 state2 event3 r h
 refine Qci hcf rfl fun Γ M hP hnt hM=>?_
 subst hP
 refine Tr.init [(0,(Qa a1)),(1,(i_ state2)),(2,(i_ event3))] rfl ?_
 unfold Qbe at h
 unfold Qie
 refine sr ((Rn.box (v:=(Qa a1)) (cs:=(Qd a1)) tv rfl rfl rfl rfl rfl (md rfl (nt ((Tr.seq (sr ((md rfl (nt ((Tr.block ?_))))))))))))
 refine Tr.loop (mk:=fun (i4 : Int)=>⟨look [(1,(i_ state2)),(2,(i_ event3)),(3,.ptr (Γ.n0 + 3) 0),(7,(i_ i4))],Qp Γ.n0 (bxs [(3,.cells ((Qd a1)))]) M,Γ.n0 + 39⟩) h (by exact Qk ⟨(sm rfl),(sm rfl),(kPtr rfl),(sm rfl),tv⟩ ⟨⟨_,rfl,rfl,(.same rfl)⟩,tv⟩ rfl) (fun k5 z h=>?_)
 ·obtain ⟨i4,rfl⟩ : ∃ x,x = z:=⟨_,rfl⟩
  replace h : _ = some _:=h
  refine Tr.seq (sr ((md rfl (Rn.fldP (o':=3) tv rfl rfl (Rn.load (v:=.d (.lst 3 (List.map Qc a1.Edges))) tv rfl (Ql rfl) rfl rfl (Rn.lenD tv rfl (Rn.bin tv rfl rfl rfl (Rn.nil (toN ?_)))))))))
  refine Tr.cond rfl (fun hb6=>?_) (fun hb6=>?_)
  ·replace h:=ifT hb6 h
   refine Tr.skip (toN (Tr.seq (Tr.block ?_)))
   refine Tr.cutB (fun (x12 : Bool)=>⟨look [(1,(i_ state2)),(2,(i_ event3)),(3,.ptr (Γ.n0 + 3) 0),(7,(i_ i4)),(32,(b_ x12))],Qp Γ.n0 (bxs [(3,.cells ((Qd a1)))]) M,Γ.n0 + 39⟩) h (fun z h=>?_) (fun z h=>?_)
   ·refine Tr.rgn (Rn.fldP (o':=3) tv rfl rfl (Rn.load (v:=.d (.lst 3 (List.map Qc a1.Edges))) tv rfl (Ql rfl) rfl rfl (md rfl ?_)))
    obtain ⟨x7,h8,h⟩:=bnd h
    refine Rn.idxD (e:=Qc) tv rfl rfl h8 (Rn.fldC tv rfl (Rn.loadC (x:=.int .i64 x7.From) tv rfl (md rfl (Rn.bin tv rfl rfl rfl (md rfl ?_)))))
    refine Qdk (x7.From == state2) (fun hb9=>?_) (fun hb9=>?_)
    ·replace h:=bT hb9 h
     refine Rn.fldP (o':=3) (gw rfl hb9) rfl rfl (Rn.load (v:=.d (.lst 3 (List.map Qc a1.Edges))) (gw rfl hb9) rfl (Ql rfl) rfl rfl (Rn.movD (gw rfl hb9) rfl ?_))
     obtain ⟨x10,h11,h⟩:=bnd h
     refine Rn.idxD (e:=Qc) (gw rfl hb9) rfl rfl h11 (Rn.fldC (gw rfl hb9) rfl (Rn.loadC (x:=.int .i64 x10.Event) (gw rfl hb9) rfl (Rn.movD (gw rfl hb9) rfl (Rn.bin (gw rfl hb9) rfl rfl rfl (Rn.pickT (v:=(b_ (x10.Event == event3))) tv rfl hb9 rfl (Rn.nil ?_))))))
     replace h:=si h; subst h
     exact Qj [] ⟨(sm rfl),(sm rfl),(kPtr rfl),(sm rfl),(sm rfl),tv⟩ ⟨⟨_,rfl,rfl,(.same rfl)⟩,tv⟩ rfl
    ·replace h:=bF hb9 h
     refine Rn.sk (nw rfl hb9) (Rn.sk (nw rfl hb9) (Rn.sk (nw rfl hb9) (Rn.sk (nw rfl hb9) (Rn.sk (nw rfl hb9) (Rn.sk (nw rfl hb9) (Rn.sk (nw rfl hb9) (Rn.sk (nw rfl hb9) (Rn.pickF (v:=(b_ false)) tv rfl hb9 rfl (Rn.nil ?_)))))))))
     replace h:=si h; subst h
     exact Qj [] ⟨(sm rfl),(sm rfl),(kPtr rfl),(sm rfl),(sm rfl),tv⟩ ⟨⟨_,rfl,rfl,(.same rfl)⟩,tv⟩ rfl
   ·obtain ⟨x12,rfl⟩ : ∃ x,x = z:=⟨_,rfl⟩
    refine Tr.cond rfl (fun hb13=>?_) (fun hb13=>?_)
    ·replace h:=bT hb13 h
     refine sr ((Rn.fldP (o':=3) tv rfl rfl (Rn.load (v:=.d (.lst 3 (List.map Qc a1.Edges))) tv rfl (Ql rfl) rfl rfl (md rfl ?_))))
     obtain ⟨x14,h15,h⟩:=bnd h
     refine Rn.idxD (e:=Qc) tv rfl rfl h15 (Rn.fldC tv rfl (Rn.loadC (x:=.int .i64 x14.To) tv rfl (md rfl (nt ((Tr.ret ?_))))))
     replace h:=si h; subst h
     exact ⟨.inr rfl,(i_ x14.To),rfl,fun _ _ _ _ h=>h,tv,fun k hk=>Qg hk⟩
    ·replace h:=bF hb13 h
     refine Tr.skip (toN (Tr.rgn (md rfl (Rn.bin tv rfl rfl rfl (md rfl (Rn.nil ?_))))))
     exact ⟨_,h,(by exact Qk ⟨(sm rfl),(sm rfl),(kPtr rfl),(sm rfl),tv⟩ ⟨⟨_,rfl,rfl,(.same rfl)⟩,tv⟩ rfl)⟩
  ·replace h:=ifF hb6 h
   refine Tr.exit (toN (sr ((md rfl (nt ((Tr.ret ?_)))))))
   replace h:=si h; subst h
   exact ⟨.inr rfl,(i_ (-1)),rfl,fun _ _ _ _ h=>h,tv,fun k hk=>Qg hk⟩
theorem Qzs {P : Program} {c : Nat} (hcf : Qs P c = some Qiv) (fuel : Nat) : Qge P c (Qbi fuel):=by
 intro l1 n2 r h
 refine Qci hcf rfl fun Γ M hP hnt hM=>?_
 subst hP
 refine Tr.init [(0,(l_ l1)),(1,(i_ n2))] rfl ?_
 unfold Qbi at h
 unfold Qiv
 refine sr ((md rfl (nt ((Tr.seq (sr ((md rfl (nt ((Tr.block ?_)))))))))))
 refine Tr.loop (mk:=fun (i3 : Int)=>⟨look [(0,(l_ l1)),(1,(i_ n2)),(5,(i_ i3))],Qp Γ.n0 (bxs []) M,Γ.n0 + 18⟩) h (by exact Qk ⟨(sm rfl),(sm rfl),(sm rfl),tv⟩ tv rfl) (fun k4 z h=>?_)
 ·obtain ⟨i3,rfl⟩ : ∃ x,x = z:=⟨_,rfl⟩
  replace h : _ = some _:=h
  refine Tr.seq (sr ((md rfl (md rfl (Rn.lenD tv rfl (Rn.bin tv rfl rfl rfl (Rn.nil (toN ?_))))))))
  refine Tr.cond rfl (fun hb5=>?_) (fun hb5=>?_)
  ·replace h:=ifT hb5 h
   refine Tr.skip (toN (Tr.seq (Tr.block (sr ((md rfl (md rfl ?_)))))))
   obtain ⟨x6,h7,h⟩:=bnd h
   refine Rn.idxD (e:=(eI .i64)) tv rfl rfl h7 (Rn.loadC (x:=.int .i64 x6) tv rfl (md rfl (Rn.bin tv rfl rfl rfl (Rn.nil (toN ?_)))))
   refine Tr.cond rfl (fun hb8=>?_) (fun hb8=>?_)
   ·replace h:=bT hb8 h
    refine sr ((md rfl (nt ((Tr.ret ?_)))))
    replace h:=si h; subst h
    exact ⟨.inr rfl,(b_ true),rfl,fun _ _ _ _ h=>h,tv,fun k hk=>Qg hk⟩
   ·replace h:=bF hb8 h
    refine Tr.skip (toN (Tr.rgn (md rfl (Rn.bin tv rfl rfl rfl (md rfl (Rn.nil ?_))))))
    exact ⟨_,h,(by exact Qk ⟨(sm rfl),(sm rfl),(sm rfl),tv⟩ tv rfl)⟩
  ·replace h:=ifF hb5 h
   refine Tr.exit (toN (sr ((md rfl (nt ((Tr.ret ?_)))))))
   replace h:=si h; subst h
   exact ⟨.inr rfl,(b_ false),rfl,fun _ _ _ _ h=>h,tv,fun k hk=>Qg hk⟩
theorem Qtk {P : Program} {c : Nat} {Qbi : (List Int) → Int → Option Bool} {Qbe : Qb → Int → Int → Option Int}
    (H_overseerref03_has : Qge P 73 Qbi)
    (H_overseerref03_Step : Qfz P 74 Qbe) (hcf : Qs P c = some Qhp) (fuel : Nat) : Qho P c (Qb4 Qbi Qbe fuel):=by
 intro a1 r h
 refine Qci hcf rfl fun Γ M hP hnt hM=>?_
 subst hP
 refine Tr.init [(0,(Qa a1))] rfl ?_
 unfold Qb4 at h
 unfold Qhp
 refine sr ((Rn.box (v:=(Qa a1)) (cs:=(Qd a1)) tv rfl rfl rfl rfl rfl (Rn.movTC (v:=.nils 1) tv (nt ((sr ((Rn.movTC (v:=.nils 1) tv (Rn.nil (toN ?_))))))))))
 refine Tr.cutB (fun (out5 : List Int)=>⟨look [(1,.ptr (Γ.n0 + 1) 0),(3,(o_ out5))],Qp Γ.n0 (bxs [(1,.cells ((Qd a1)))]) M,Γ.n0 + 50⟩) h (fun z h=>?_) (fun z h=>?_)
 ·refine sr ((Rn.fldP (o':=1) tv rfl rfl (Rn.load (v:=(i_ a1.States)) tv rfl (Ql rfl) rfl rfl (Rn.bin tv rfl rfl rfl (Rn.nil (toN ?_))))))
  refine Tr.cond rfl (fun hb2=>?_) (fun hb2=>?_)
  ·replace h:=ifT hb2 h
   refine Tr.rgn (Rn.movTF (v:=.nils 1) tv rfl rfl (Rn.bslice (xs:=[(i_ 0)]) (cs:=[(i_ 0)]) tv rfl rfl rfl rfl ?_))
   refine Rn.weak (by show WeakSt Γ _ ⟨look [(0,(Qa a1)),(1,.ptr (Γ.n0 + 1) 0),(2,.nils 1),(3,.nils 1),(7,.ptr (Γ.n0 + 1) 1),(8,(i_ a1.States)),(9,(b_ (decide (a1.States > 0)))),(10,.own 1 (List.map (eI .i64) [])),(11,.sl 1 (Γ.n0 + 11) 0 1 1)],Qp Γ.n0 (bxs [(1,.cells ((Qd a1))),(11,.cells ([(i_ 0)]))]) M,Γ.n0 + 50⟩; exact Qj [] ⟨(sm rfl),(kPtr rfl),(sm rfl),(sm rfl),(kPtr rfl),(sm rfl),(sm rfl),(WkV.nilsO _),(kSl rfl),tv⟩ ⟨⟨_,rfl,rfl,(.same rfl)⟩,⟨_,rfl,rfl,(.same rfl)⟩,tv⟩ rfl) ?_
   obtain ⟨x3,h4,h⟩:=bnd h
   refine Rn.app (e:=(eI .i64)) tv rfl rfl rfl (Qcj rfl rfl rfl) h4 rfl (Rn.movTO tv rfl (Rn.nil ?_))
   replace h:=si h; subst h
   exact Qj [11] ⟨(kPtr rfl),(sm rfl),tv⟩ ⟨⟨_,rfl,rfl,(.same rfl)⟩,tv⟩ rfl
  ·replace h:=ifF hb2 h
   refine Tr.skip ?_
   replace h:=si h; subst h
   exact Qj [] ⟨(kPtr rfl),(WkV.nilsO _),tv⟩ ⟨⟨_,rfl,rfl,(.same rfl)⟩,tv⟩ rfl
 ·obtain ⟨out5,rfl⟩ : ∃ x,x = z:=⟨_,rfl⟩
  refine Tr.cutB (fun (out29 : List Int)=>⟨look [(3,(o_ out29))],Qp Γ.n0 (bxs [(1,.cells ((Qd a1)))]) M,Γ.n0 + 50⟩) h (fun z h=>?_) (fun z h=>?_)
  ·refine sr ((md rfl (nt ((Tr.block ?_)))))
   refine Tr.loop (mk:=fun ((out6,i7) : (List Int) × Int)=>⟨look [(1,.ptr (Γ.n0 + 1) 0),(3,(o_ out6)),(4,(i_ i7))],Qp Γ.n0 (bxs [(1,.cells ((Qd a1)))]) M,Γ.n0 + 50⟩) h (by exact Qk ⟨(kPtr rfl),(sm rfl),(sm rfl),tv⟩ ⟨⟨_,rfl,rfl,(.same rfl)⟩,tv⟩ rfl) (fun k8 z h=>?_)
   ·obtain ⟨out6,i7⟩:=z
    replace h : _ = some _:=h
    refine Tr.seq (sr ((md rfl (Rn.mov (v:=(l_ out6)) tv rfl (Rn.lenD tv rfl (Rn.bin tv rfl rfl rfl (Rn.nil (toN ?_))))))))
    refine Tr.cond rfl (fun hb9=>?_) (fun hb9=>?_)
    ·replace h:=ifT hb9 h
     refine Tr.skip (toN ?_)
     refine Tr.cutB (fun (out28 : List Int)=>⟨look [(1,.ptr (Γ.n0 + 1) 0),(3,(o_ out28)),(4,(i_ i7))],Qp Γ.n0 (bxs [(1,.cells ((Qd a1)))]) M,Γ.n0 + 50⟩) h (fun z h=>?_) (fun z h=>?_)
     ·refine Tr.block (sr ((md rfl (nt ((Tr.block ?_))))))
      refine Tr.loop (mk:=fun ((out10,k11) : (List Int) × Int)=>⟨look [(1,.ptr (Γ.n0 + 1) 0),(3,(o_ out10)),(4,(i_ i7)),(5,(i_ k11))],Qp Γ.n0 (bxs [(1,.cells ((Qd a1)))]) M,Γ.n0 + 50⟩) h (by exact Qk ⟨(kPtr rfl),(sm rfl),(sm rfl),(sm rfl),tv⟩ ⟨⟨_,rfl,rfl,(.same rfl)⟩,tv⟩ rfl) (fun k12 z h=>?_)
      ·obtain ⟨out10,k11⟩:=z
       replace h : _ = some _:=h
       refine Tr.seq (sr ((md rfl (Rn.fldP (o':=0) tv rfl rfl (Rn.load (v:=(l_ a1.Alphabet)) tv rfl (Ql rfl) rfl rfl (Rn.lenD tv rfl (Rn.bin tv rfl rfl rfl (Rn.nil (toN ?_)))))))))
       refine Tr.cond rfl (fun hb13=>?_) (fun hb13=>?_)
       ·replace h:=ifT hb13 h
        refine Tr.skip (toN ?_)
        refine Tr.cutB (fun (out27 : List Int)=>⟨look [(1,.ptr (Γ.n0 + 1) 0),(3,(o_ out27)),(4,(i_ i7)),(5,(i_ k11))],Qp Γ.n0 (bxs [(1,.cells ((Qd a1)))]) M,Γ.n0 + 50⟩) h (fun z h=>?_) (fun z h=>?_)
        ·refine Tr.block (Tr.seq ?_)
         refine Tr.rgnD (by decide) ?_
         refine Rn.load (v:=(Qa a1)) tv rfl (Ql rfl) rfl rfl (Rn.mov (v:=(l_ out10)) tv rfl (md rfl ?_))
         obtain ⟨x14,h15,h⟩:=bnd h
         refine Rn.idxD (e:=(eI .i64)) tv rfl rfl h15 (Rn.loadC (x:=.int .i64 x14) tv rfl (Rn.fldP (o':=0) tv rfl rfl (Rn.load (v:=(l_ a1.Alphabet)) tv rfl (Ql rfl) rfl rfl (md rfl ?_))))
         obtain ⟨x16,h17,h⟩:=bnd h
         refine Rn.idxD (e:=(eI .i64)) tv rfl rfl h17 (Rn.loadC (x:=.int .i64 x16) tv rfl ?_)
         obtain ⟨x19,h18,h⟩:=bnd h
         refine Rn.call (args:=[(Qa a1),(i_ x14),(i_ x16)]) tv rfl (H_overseerref03_Step _ _ _ _ h18) pc0 (md rfl ?_)
         refine Rn.nil ⟨rfl,?_⟩
         refine toN ?_
         refine Tr.cutB (fun (x23 : Bool)=>⟨look [(1,.ptr (Γ.n0 + 1) 0),(3,(o_ out10)),(4,(i_ i7)),(5,(i_ k11)),(6,(i_ x19)),(44,(b_ x23))],Qp Γ.n0 (bxs [(1,.cells ((Qd a1)))]) M,Γ.n0 + 50⟩) h (fun z h=>?_) (fun z h=>?_)
         ·refine Tr.rgn (md rfl (Rn.bin tv rfl rfl rfl (md rfl ?_)))
          refine Qdk (decide (x19 ≥ 0)) (fun hb20=>?_) (fun hb20=>?_)
          ·replace h:=ifT hb20 h
           refine Rn.mov (v:=(l_ out10)) (gw rfl hb20) rfl (Rn.movD (gw rfl hb20) rfl ?_)
           obtain ⟨x22,h21,h⟩:=bnd h
           refine Rn.call (args:=[(l_ out10),(i_ x19)]) (gw rfl hb20) rfl (H_overseerref03_has _ _ _ h21) pc9 (Rn.un (gw rfl hb20) rfl rfl (Rn.pickT (v:=(b_ (!x22))) tv rfl hb20 rfl (Rn.nil ?_)))
           replace h:=si h; subst h
           exact Qj [] ⟨(kPtr rfl),(sm rfl),(sm rfl),(sm rfl),(sm rfl),(sm rfl),tv⟩ ⟨⟨_,rfl,rfl,(.same rfl)⟩,tv⟩ rfl
          ·replace h:=ifF hb20 h
           refine Rn.sk (nw rfl hb20) (Rn.sk (nw rfl hb20) (Rn.sk (nw rfl hb20) (Rn.sk (nw rfl hb20) (Rn.pickF (v:=(b_ false)) tv rfl hb20 rfl (Rn.nil ?_)))))
           replace h:=si h; subst h
           exact Qj [] ⟨(kPtr rfl),(sm rfl),(sm rfl),(sm rfl),(sm rfl),(sm rfl),tv⟩ ⟨⟨_,rfl,rfl,(.same rfl)⟩,tv⟩ rfl
         ·obtain ⟨x23,rfl⟩ : ∃ x,x = z:=⟨_,rfl⟩
          refine Tr.cond rfl (fun hb24=>?_) (fun hb24=>?_)
          ·replace h:=bT hb24 h
           refine Tr.rgn (Rn.movTO tv rfl (md rfl (Rn.bslice (xs:=[(i_ x19)]) (cs:=[(i_ x19)]) tv rfl rfl rfl rfl ?_)))
           obtain ⟨x25,h26,h⟩:=bnd h
           refine Rn.app (e:=(eI .i64)) tv rfl rfl rfl (Qcj rfl rfl rfl) h26 rfl (Rn.movTO tv rfl (Rn.nil ?_))
           replace h:=si h; subst h
           exact Qj [47] ⟨(kPtr rfl),(sm rfl),(sm rfl),(sm rfl),tv⟩ ⟨⟨_,rfl,rfl,(.same rfl)⟩,tv⟩ rfl
          ·replace h:=bF hb24 h
           refine Tr.skip ?_
           replace h:=si h; subst h
           exact Qj [] ⟨(kPtr rfl),(sm rfl),(sm rfl),(sm rfl),tv⟩ ⟨⟨_,rfl,rfl,(.same rfl)⟩,tv⟩ rfl
        ·obtain ⟨out27,rfl⟩ : ∃ x,x = z:=⟨_,rfl⟩
         refine Tr.rgn (md rfl (Rn.bin tv rfl rfl rfl (md rfl (Rn.nil ?_))))
         exact ⟨_,h,(by exact Qk ⟨(kPtr rfl),(sm rfl),(sm rfl),(sm rfl),tv⟩ ⟨⟨_,rfl,rfl,(.same rfl)⟩,tv⟩ rfl)⟩
       ·replace h:=ifF hb13 h
        refine Tr.exit ?_
        replace h:=si h; subst h
        exact Qj [] ⟨(kPtr rfl),(sm rfl),(sm rfl),tv⟩ ⟨⟨_,rfl,rfl,(.same rfl)⟩,tv⟩ rfl
     ·obtain ⟨out28,rfl⟩ : ∃ x,x = z:=⟨_,rfl⟩
      refine Tr.rgn (md rfl (Rn.bin tv rfl rfl rfl (md rfl (Rn.nil ?_))))
      exact ⟨_,h,(by exact Qk ⟨(kPtr rfl),(sm rfl),(sm rfl),tv⟩ ⟨⟨_,rfl,rfl,(.same rfl)⟩,tv⟩ rfl)⟩
    ·replace h:=ifF hb9 h
     refine Tr.exit ?_
     replace h:=si h; subst h
     exact Qj [] ⟨(sm rfl),tv⟩ ⟨⟨_,rfl,rfl,(.same rfl)⟩,tv⟩ rfl
  ·obtain ⟨out29,rfl⟩ : ∃ x,x = z:=⟨_,rfl⟩
   refine sr ((Rn.movTO tv rfl (Rn.movTO tv rfl (nt ((Tr.ret ?_))))))
   replace h:=si h; subst h
   exact ⟨.inr rfl,(o_ out29),rfl,fun _ _ _ _ h=>h,tv,fun k hk=>Qg hk⟩
theorem Qtl {P : Program} {c : Nat} (hcf : Qs P c = some Qhr) (fuel : Nat) : Qhq P c (Qb5 fuel):=by
 intro l1 n2 r h
 refine Qci hcf rfl fun Γ M hP hnt hM=>?_
 subst hP
 refine Tr.init [(0,(l_ l1)),(1,(i_ n2))] rfl ?_
 unfold Qb5 at h
 unfold Qhr
 refine sr ((md rfl (nt ((Tr.seq (sr ((md rfl (nt ((Tr.block ?_)))))))))))
 refine Tr.loop (mk:=fun (i3 : Int)=>⟨look [(0,(l_ l1)),(1,(i_ n2)),(5,(i_ i3))],Qp Γ.n0 (bxs []) M,Γ.n0 + 19⟩) h (by exact Qk ⟨(sm rfl),(sm rfl),(sm rfl),tv⟩ tv rfl) (fun k4 z h=>?_)
 ·obtain ⟨i3,rfl⟩ : ∃ x,x = z:=⟨_,rfl⟩
  replace h : _ = some _:=h
  refine Tr.seq (sr ((md rfl (md rfl (Rn.lenD tv rfl (Rn.bin tv rfl rfl rfl (Rn.nil (toN ?_))))))))
  refine Tr.cond rfl (fun hb5=>?_) (fun hb5=>?_)
  ·replace h:=ifT hb5 h
   refine Tr.skip (toN (Tr.seq (Tr.block (sr ((md rfl (md rfl ?_)))))))
   obtain ⟨x6,h7,h⟩:=bnd h
   refine Rn.idxD (e:=(eI .i64)) tv rfl rfl h7 (Rn.loadC (x:=.int .i64 x6) tv rfl (md rfl (Rn.bin tv rfl rfl rfl (Rn.nil (toN ?_)))))
   refine Tr.cond rfl (fun hb8=>?_) (fun hb8=>?_)
   ·replace h:=bT hb8 h
    refine sr ((md rfl (md rfl (nt ((Tr.ret ?_))))))
    replace h:=si h; subst h
    exact ⟨.inr rfl,(i_ i3),rfl,fun _ _ _ _ h=>h,tv,fun k hk=>Qg hk⟩
   ·replace h:=bF hb8 h
    refine Tr.skip (toN (Tr.rgn (md rfl (Rn.bin tv rfl rfl rfl (md rfl (Rn.nil ?_))))))
    exact ⟨_,h,(by exact Qk ⟨(sm rfl),(sm rfl),(sm rfl),tv⟩ tv rfl)⟩
  ·replace h:=ifF hb5 h
   refine Tr.exit (toN (sr ((md rfl (nt ((Tr.ret ?_)))))))
   replace h:=si h; subst h
   exact ⟨.inr rfl,(i_ (-1)),rfl,fun _ _ _ _ h=>h,tv,fun k hk=>Qg hk⟩
theorem Qod {P : Program} {c : Nat} {Q6 : (List Int) → Option Qb} {Qb4 : Qb → Option ((List Int))} {Qbi : (List Int) → Int → Option Bool} {Qbe : Qb → Int → Int → Option Int} {Qb5 : (List Int) → Int → Option Int}
    (H_overseerref03_Empty : Qfj P 36 Q6)
    (H_overseerref03_Found : Qho P 72 Qb4)
    (H_overseerref03_has : Qge P 73 Qbi)
    (H_overseerref03_Step : Qfz P 74 Qbe)
    (H_overseerref03_index : Qhq P 75 Qb5) (hcf : Qs P c = some Qfu) (fuel : Nat) : Qft P c (Qbo Q6 Qb4 Qbi Qbe Qb5 fuel):=by
 intro a1 r h
 refine Qci hcf rfl fun Γ M hP hnt hM=>?_
 subst hP
 refine Tr.init [(0,(Qa a1))] rfl ?_
 unfold Qbo at h
 unfold Qfu
 refine sr ((Rn.box (v:=(Qa a1)) (cs:=(Qd a1)) tv rfl rfl rfl rfl rfl (Rn.alloc tv rfl (nt ((sr ((Rn.load (v:=(Qa a1)) tv rfl (Ql rfl) rfl rfl ?_))))))))
 obtain ⟨x3,h2,h⟩:=bnd h
 refine Rn.call (args:=[(Qa a1)]) tv rfl (H_overseerref03_Found _ _ h2) pc9 (Rn.movTO tv rfl (nt ((sr ((Rn.fldP (o':=0) tv rfl rfl (Rn.load (v:=(l_ a1.Alphabet)) tv rfl (Ql rfl) rfl rfl ?_)))))))
 obtain ⟨x5,h4,h⟩:=bnd h
 refine Rn.call (args:=[(l_ a1.Alphabet)]) tv rfl (H_overseerref03_Empty _ _ h4) pc9 (Rn.alloc tv rfl (Rn.storeT (v:=.agg [(l_ x5.Alphabet),(i_ x5.States),.nils 1,.nils 3]) (ds:=[(l_ x5.Alphabet),(i_ x5.States),.nils 1,.nils 3]) (cs':=[(l_ x5.Alphabet),(i_ x5.States),.nils 1,.nils 3]) tv rfl rfl rfl rfl rfl rfl rfl (nt ((sr ((Rn.mov (v:=(l_ x3)) tv rfl (Rn.lenD tv rfl (Rn.fldP (o':=1) tv rfl rfl (Rn.store (v:=(i_ (x3.length : Int))) (cs':=[(l_ x5.Alphabet),(i_ (x3.length : Int)),.nils 1,.nils 3]) tv rfl rfl rfl rfl rfl rfl (Rn.nil (toN ?_))))))))))))
 refine Tr.cutB (fun ((c42,c43,c44,out45,out46) : (List Int) × (List Int) × (List Qe) × (List Int) × (List Qe))=>⟨look [(2,.ptr (Γ.n0 + 2) 0),(4,.ptr (Γ.n0 + 4) 0)],Qp Γ.n0 (bxs [(1,.cells ((Qd a1))),(2,.cells ([(o_ c42),(i_ 0),(o_ c43),.own 3 (List.map Qc c44)])),(4,.cells ([(l_ x5.Alphabet),(i_ (x3.length : Int)),(o_ out45),.own 3 (List.map Qc out46)]))]) M,Γ.n0 + 71⟩) h (fun z h=>?_) (fun z h=>?_)
 ·refine sr ((md rfl (nt ((Tr.block ?_)))))
  refine Tr.loop (mk:=fun ((i6,c7,c8,c9,out10,out11) : Int × (List Int) × (List Int) × (List Qe) × (List Int) × (List Qe))=>⟨look [(1,.ptr (Γ.n0 + 1) 0),(2,.ptr (Γ.n0 + 2) 0),(3,(o_ x3)),(4,.ptr (Γ.n0 + 4) 0),(5,(i_ i6))],Qp Γ.n0 (bxs [(1,.cells ((Qd a1))),(2,.cells ([(o_ c7),(i_ 0),(o_ c8),.own 3 (List.map Qc c9)])),(4,.cells ([(l_ x5.Alphabet),(i_ (x3.length : Int)),(o_ out10),.own 3 (List.map Qc out11)]))]) M,Γ.n0 + 71⟩) h (by exact Qk ⟨(kPtr rfl),(kPtr rfl),(sm rfl),(kPtr rfl),(sm rfl),tv⟩ ⟨⟨_,rfl,rfl,(.same rfl)⟩,⟨_,rfl,rfl,(.cons (WkV.nilsO _) (.cons (sm rfl) (.cons (WkV.nilsO _) (.cons (WkV.nilsO _) .nil))))⟩,⟨_,rfl,rfl,(.cons (sm rfl) (.cons (sm rfl) (.cons (WkV.nilsO _) (.cons (WkV.nilsO _) .nil))))⟩,tv⟩ rfl) (fun k12 z h=>?_)
  ·obtain ⟨i6,c7,c8,c9,out10,out11⟩:=z
   replace h : _ = some _:=h
   refine Tr.seq (sr ((md rfl (Rn.mov (v:=(l_ x3)) tv rfl (Rn.lenD tv rfl (Rn.bin tv rfl rfl rfl (Rn.nil (toN ?_))))))))
   refine Tr.cond rfl (fun hb13=>?_) (fun hb13=>?_)
   ·replace h:=ifT hb13 h
    refine Tr.skip (toN ?_)
    refine Tr.cutB (fun ((out40,out41) : (List Int) × (List Qe))=>⟨look [(1,.ptr (Γ.n0 + 1) 0),(2,.ptr (Γ.n0 + 2) 0),(3,(o_ x3)),(4,.ptr (Γ.n0 + 4) 0),(5,(i_ i6))],Qp Γ.n0 (bxs [(1,.cells ((Qd a1))),(2,.cells ([(o_ c7),(i_ 0),(o_ c8),.own 3 (List.map Qc c9)])),(4,.cells ([(l_ x5.Alphabet),(i_ (x3.length : Int)),(o_ out40),.own 3 (List.map Qc out41)]))]) M,Γ.n0 + 71⟩) h (fun z h=>?_) (fun z h=>?_)
    ·refine Tr.block ?_
     refine Tr.cutB (fun (out21 : List Int)=>⟨look [(1,.ptr (Γ.n0 + 1) 0),(2,.ptr (Γ.n0 + 2) 0),(3,(o_ x3)),(4,.ptr (Γ.n0 + 4) 0),(5,(i_ i6))],Qp Γ.n0 (bxs [(1,.cells ((Qd a1))),(2,.cells ([(o_ c7),(i_ 0),(o_ c8),.own 3 (List.map Qc c9)])),(4,.cells ([(l_ x5.Alphabet),(i_ (x3.length : Int)),(o_ out21),.own 3 (List.map Qc out11)]))]) M,Γ.n0 + 71⟩) h (fun z h=>?_) (fun z h=>?_)
     ·refine Tr.seq ?_
      refine Tr.rgnD (by decide) ?_
      refine Rn.fldP (o':=2) tv rfl rfl (Rn.load (v:=(l_ a1.Marked)) tv rfl (Ql rfl) rfl rfl (Rn.mov (v:=(l_ x3)) tv rfl (md rfl ?_)))
      obtain ⟨x14,h15,h⟩:=bnd h
      refine Rn.idxD (e:=(eI .i64)) tv rfl rfl h15 (Rn.loadC (x:=.int .i64 x14) tv rfl ?_)
      obtain ⟨x17,h16,h⟩:=bnd h
      refine Rn.call (args:=[(l_ a1.Marked),(i_ x14)]) tv rfl (H_overseerref03_has _ _ _ h16) pc0 ?_
      refine Rn.nil ⟨rfl,?_⟩
      refine toN ?_
      refine Tr.cond rfl (fun hb18=>?_) (fun hb18=>?_)
      ·replace h:=bT hb18 h
       refine Tr.rgn (Rn.fldP (o':=2) tv rfl rfl (Rn.loadT (cs':=[(l_ x5.Alphabet),(i_ (x3.length : Int)),(l_ out10),.own 3 (List.map Qc out11)]) tv rfl rfl rfl rfl (md rfl (Rn.bslice (xs:=[(i_ i6)]) (cs:=[(i_ i6)]) tv rfl rfl rfl rfl ?_))))
       obtain ⟨x19,h20,h⟩:=bnd h
       refine Rn.app (e:=(eI .i64)) tv rfl rfl rfl (Qcj rfl rfl rfl) h20 rfl (Rn.fldP (o':=2) tv rfl rfl (Rn.storeO (cs':=[(l_ x5.Alphabet),(i_ (x3.length : Int)),(o_ x19),.own 3 (List.map Qc out11)]) tv rfl rfl rfl rfl rfl (Rn.nil ?_)))
       replace h:=si h; subst h
       exact Qj [32] ⟨(kPtr rfl),(kPtr rfl),(sm rfl),(kPtr rfl),(sm rfl),tv⟩ ⟨⟨_,rfl,rfl,(.same rfl)⟩,⟨_,rfl,rfl,(.same rfl)⟩,⟨_,rfl,rfl,(.same rfl)⟩,tv⟩ rfl
      ·replace h:=bF hb18 h
       refine Tr.skip ?_
       replace h:=si h; subst h
       exact Qj [] ⟨(kPtr rfl),(kPtr rfl),(sm rfl),(kPtr rfl),(sm rfl),tv⟩ ⟨⟨_,rfl,rfl,(.same rfl)⟩,⟨_,rfl,rfl,(.same rfl)⟩,⟨_,rfl,rfl,(.same rfl)⟩,tv⟩ rfl
     ·obtain ⟨out21,rfl⟩ : ∃ x,x = z:=⟨_,rfl⟩
      refine sr ((md rfl (nt ((Tr.block ?_)))))
      refine Tr.loop (mk:=fun ((k22,out23) : Int × (List Qe))=>⟨look [(1,.ptr (Γ.n0 + 1) 0),(2,.ptr (Γ.n0 + 2) 0),(3,(o_ x3)),(4,.ptr (Γ.n0 + 4) 0),(5,(i_ i6)),(6,(i_ k22))],Qp Γ.n0 (bxs [(1,.cells ((Qd a1))),(2,.cells ([(o_ c7),(i_ 0),(o_ c8),.own 3 (List.map Qc c9)])),(4,.cells ([(l_ x5.Alphabet),(i_ (x3.length : Int)),(o_ out21),.own 3 (List.map Qc out23)]))]) M,Γ.n0 + 71⟩) h (by exact Qk ⟨(kPtr rfl),(kPtr rfl),(sm rfl),(kPtr rfl),(sm rfl),(sm rfl),tv⟩ ⟨⟨_,rfl,rfl,(.same rfl)⟩,⟨_,rfl,rfl,(.same rfl)⟩,⟨_,rfl,rfl,(.same rfl)⟩,tv⟩ rfl) (fun k24 z h=>?_)
      ·obtain ⟨k22,out23⟩:=z
       replace h : _ = some _:=h
       refine Tr.seq (sr ((md rfl (Rn.fldP (o':=0) tv rfl rfl (Rn.load (v:=(l_ a1.Alphabet)) tv rfl (Ql rfl) rfl rfl (Rn.lenD tv rfl (Rn.bin tv rfl rfl rfl (Rn.nil (toN ?_)))))))))
       refine Tr.cond rfl (fun hb25=>?_) (fun hb25=>?_)
       ·replace h:=ifT hb25 h
        refine Tr.skip (toN ?_)
        refine Tr.cutB (fun (out39 : List Qe)=>⟨look [(1,.ptr (Γ.n0 + 1) 0),(2,.ptr (Γ.n0 + 2) 0),(3,(o_ x3)),(4,.ptr (Γ.n0 + 4) 0),(5,(i_ i6)),(6,(i_ k22))],Qp Γ.n0 (bxs [(1,.cells ((Qd a1))),(2,.cells ([(o_ c7),(i_ 0),(o_ c8),.own 3 (List.map Qc c9)])),(4,.cells ([(l_ x5.Alphabet),(i_ (x3.length : Int)),(o_ out21),.own 3 (List.map Qc out39)]))]) M,Γ.n0 + 71⟩) h (fun z h=>?_) (fun z h=>?_)
        ·refine Tr.block (Tr.seq ?_)
         refine Tr.rgnD (by decide) ?_
         refine Rn.load (v:=(Qa a1)) tv rfl (Ql rfl) rfl rfl (Rn.mov (v:=(l_ x3)) tv rfl (md rfl ?_))
         obtain ⟨x26,h27,h⟩:=bnd h
         refine Rn.idxD (e:=(eI .i64)) tv rfl rfl h27 (Rn.loadC (x:=.int .i64 x26) tv rfl (Rn.fldP (o':=0) tv rfl rfl (Rn.load (v:=(l_ a1.Alphabet)) tv rfl (Ql rfl) rfl rfl (md rfl ?_))))
         obtain ⟨x28,h29,h⟩:=bnd h
         refine Rn.idxD (e:=(eI .i64)) tv rfl rfl h29 (Rn.loadC (x:=.int .i64 x28) tv rfl ?_)
         obtain ⟨x31,h30,h⟩:=bnd h
         refine Rn.call (args:=[(Qa a1),(i_ x26),(i_ x28)]) tv rfl (H_overseerref03_Step _ _ _ _ h30) pc0 (md rfl ?_)
         refine Rn.nil ⟨rfl,?_⟩
         refine toN (sr ((md rfl (Rn.bin tv rfl rfl rfl (Rn.nil (toN ?_))))))
         refine Tr.cond rfl (fun hb32=>?_) (fun hb32=>?_)
         ·replace h:=ifT hb32 h
          refine Tr.rgnD (by decide) ?_
          refine Rn.fldP (o':=3) tv rfl rfl (Rn.loadT (cs':=[(l_ x5.Alphabet),(i_ (x3.length : Int)),(o_ out21),.d (.lst 3 (List.map Qc out23))]) tv rfl rfl rfl rfl (md rfl (Rn.fldP (o':=0) tv rfl rfl (Rn.load (v:=(l_ a1.Alphabet)) tv rfl (Ql rfl) rfl rfl (md rfl ?_)))))
          obtain ⟨x33,h34,h⟩:=bnd h
          refine Rn.idxD (e:=(eI .i64)) tv rfl rfl h34 (Rn.loadC (x:=.int .i64 x33) tv rfl (Rn.mov (v:=(l_ x3)) tv rfl (md rfl ?_)))
          obtain ⟨x36,h35,h⟩:=bnd h
          refine Rn.call (args:=[(l_ x3),(i_ x31)]) tv rfl (H_overseerref03_index _ _ _ h35) pc2 (Rn.build (v:=.agg [(i_ i6),(i_ x33),(i_ x36)]) tv rfl (Rn.bslice (xs:=[.agg [(i_ i6),(i_ x33),(i_ x36)]]) (cs:=[(i_ i6),(i_ x33),(i_ x36)]) tv rfl rfl rfl rfl ?_))
          obtain ⟨x37,h38,h⟩:=bnd h
          refine Rn.app (e:=Qc) tv rfl rfl rfl (Qcj rfl rfl rfl) h38 rfl (Rn.fldP (o':=3) tv rfl rfl (Rn.storeO (cs':=[(l_ x5.Alphabet),(i_ (x3.length : Int)),(o_ out21),.own 3 (List.map Qc x37)]) tv rfl rfl rfl rfl rfl ?_))
          refine Rn.nil ⟨rfl,?_⟩
          replace h:=si h; subst h
          exact Qj [67] ⟨(kPtr rfl),(kPtr rfl),(sm rfl),(kPtr rfl),(sm rfl),(sm rfl),tv⟩ ⟨⟨_,rfl,rfl,(.same rfl)⟩,⟨_,rfl,rfl,(.same rfl)⟩,⟨_,rfl,rfl,(.same rfl)⟩,tv⟩ rfl
         ·replace h:=ifF hb32 h
          refine Tr.skip ?_
          replace h:=si h; subst h
          exact Qj [] ⟨(kPtr rfl),(kPtr rfl),(sm rfl),(kPtr rfl),(sm rfl),(sm rfl),tv⟩ ⟨⟨_,rfl,rfl,(.same rfl)⟩,⟨_,rfl,rfl,(.same rfl)⟩,⟨_,rfl,rfl,(.same rfl)⟩,tv⟩ rfl
        ·obtain ⟨out39,rfl⟩ : ∃ x,x = z:=⟨_,rfl⟩
         refine Tr.rgn (md rfl (Rn.bin tv rfl rfl rfl (md rfl (Rn.nil ?_))))
         exact ⟨_,h,(by exact Qk ⟨(kPtr rfl),(kPtr rfl),(sm rfl),(kPtr rfl),(sm rfl),(sm rfl),tv⟩ ⟨⟨_,rfl,rfl,(.same rfl)⟩,⟨_,rfl,rfl,(.same rfl)⟩,⟨_,rfl,rfl,(.same rfl)⟩,tv⟩ rfl)⟩
       ·replace h:=ifF hb25 h
        refine Tr.exit ?_
        replace h:=si h; subst h
        exact Qj [] ⟨(kPtr rfl),(kPtr rfl),(sm rfl),(kPtr rfl),(sm rfl),tv⟩ ⟨⟨_,rfl,rfl,(.same rfl)⟩,⟨_,rfl,rfl,(.same rfl)⟩,⟨_,rfl,rfl,(.same rfl)⟩,tv⟩ rfl
    ·obtain ⟨out40,out41⟩:=z
     refine Tr.rgn (md rfl (Rn.bin tv rfl rfl rfl (md rfl (Rn.nil ?_))))
     exact ⟨_,h,(by exact Qk ⟨(kPtr rfl),(kPtr rfl),(sm rfl),(kPtr rfl),(sm rfl),tv⟩ ⟨⟨_,rfl,rfl,(.same rfl)⟩,⟨_,rfl,rfl,(.same rfl)⟩,⟨_,rfl,rfl,(.same rfl)⟩,tv⟩ rfl)⟩
   ·replace h:=ifF hb13 h
    refine Tr.exit ?_
    replace h:=si h; subst h
    exact Qj [] ⟨(kPtr rfl),(kPtr rfl),tv⟩ ⟨⟨_,rfl,rfl,(.same rfl)⟩,⟨_,rfl,rfl,(.same rfl)⟩,⟨_,rfl,rfl,(.same rfl)⟩,tv⟩ rfl
 ·obtain ⟨c42,c43,c44,out45,out46⟩:=z
  refine sr ((Rn.load (v:=.agg [(l_ x5.Alphabet),(i_ (x3.length : Int)),(l_ out45),.d (.lst 3 (List.map Qc out46))]) tv rfl (Ql rfl) rfl rfl (Rn.storeT (v:=.agg [(l_ x5.Alphabet),(i_ (x3.length : Int)),(l_ out45),.d (.lst 3 (List.map Qc out46))]) (ds:=[(l_ x5.Alphabet),(i_ (x3.length : Int)),(l_ out45),.d (.lst 3 (List.map Qc out46))]) (cs':=[(l_ x5.Alphabet),(i_ (x3.length : Int)),(l_ out45),.d (.lst 3 (List.map Qc out46))]) tv rfl rfl rfl rfl rfl rfl rfl (nt ((Tr.ret ?_))))))
  replace h:=si h; subst h
  exact ⟨.inr rfl,(.agg [(l_ x5.Alphabet),(i_ (x3.length : Int)),(l_ out45),.d (.lst 3 (List.map Qc out46))]),Qh5 rfl rfl rfl rfl,fun _ _ _ _ h=>h,⟨tv,tv,tv,tv,tv⟩,fun k hk=>Qg hk⟩
theorem Qxd {P : Program} {c : Nat} {Q6 : (List Int) → Option Qb} {Qbo : Qb → Option Qb}
    (H_overseerref03_Empty : Qfj P 36 Q6)
    (H_overseerref03_Canonical : Qft P 37 Qbo) (hcf : Qs P c = some Qig) (fuel : Nat) : Qif P c (Qb8 Q6 Qbo fuel):=by
 intro alphabet1 g2 r h
 refine Qci hcf rfl fun Γ M hP hnt hM=>?_
 subst hP
 refine Tr.init [(0,(l_ alphabet1)),(1,.agg [.d (.int .u8 g2.States),.d (.int .u8 g2.Marks),.d (.int .u8 g2.To.1.1),.d (.int .u8 g2.To.1.2.1),.d (.int .u8 g2.To.1.2.2.1),.d (.int .u8 g2.To.1.2.2.2.1),.d (.int .u8 g2.To.1.2.2.2.2),.d (.int .u8 g2.To.2.1.1),.d (.int .u8 g2.To.2.1.2.1),.d (.int .u8 g2.To.2.1.2.2.1),.d (.int .u8 g2.To.2.1.2.2.2.1),.d (.int .u8 g2.To.2.1.2.2.2.2),.d (.int .u8 g2.To.2.2.1.1),.d (.int .u8 g2.To.2.2.1.2.1),.d (.int .u8 g2.To.2.2.1.2.2.1),.d (.int .u8 g2.To.2.2.1.2.2.2.1),.d (.int .u8 g2.To.2.2.1.2.2.2.2),.d (.int .u8 g2.To.2.2.2.1.1),.d (.int .u8 g2.To.2.2.2.1.2.1),.d (.int .u8 g2.To.2.2.2.1.2.2.1),.d (.int .u8 g2.To.2.2.2.1.2.2.2.1),.d (.int .u8 g2.To.2.2.2.1.2.2.2.2),.d (.int .u8 g2.To.2.2.2.2.1),.d (.int .u8 g2.To.2.2.2.2.2.1),.d (.int .u8 g2.To.2.2.2.2.2.2.1),.d (.int .u8 g2.To.2.2.2.2.2.2.2.1),.d (.int .u8 g2.To.2.2.2.2.2.2.2.2)])] rfl ?_
 unfold Qb8 at h
 unfold Qig
 refine sr ((Rn.box (v:=.agg [.d (.int .u8 g2.States),.d (.int .u8 g2.Marks),.d (.int .u8 g2.To.1.1),.d (.int .u8 g2.To.1.2.1),.d (.int .u8 g2.To.1.2.2.1),.d (.int .u8 g2.To.1.2.2.2.1),.d (.int .u8 g2.To.1.2.2.2.2),.d (.int .u8 g2.To.2.1.1),.d (.int .u8 g2.To.2.1.2.1),.d (.int .u8 g2.To.2.1.2.2.1),.d (.int .u8 g2.To.2.1.2.2.2.1),.d (.int .u8 g2.To.2.1.2.2.2.2),.d (.int .u8 g2.To.2.2.1.1),.d (.int .u8 g2.To.2.2.1.2.1),.d (.int .u8 g2.To.2.2.1.2.2.1),.d (.int .u8 g2.To.2.2.1.2.2.2.1),.d (.int .u8 g2.To.2.2.1.2.2.2.2),.d (.int .u8 g2.To.2.2.2.1.1),.d (.int .u8 g2.To.2.2.2.1.2.1),.d (.int .u8 g2.To.2.2.2.1.2.2.1),.d (.int .u8 g2.To.2.2.2.1.2.2.2.1),.d (.int .u8 g2.To.2.2.2.1.2.2.2.2),.d (.int .u8 g2.To.2.2.2.2.1),.d (.int .u8 g2.To.2.2.2.2.2.1),.d (.int .u8 g2.To.2.2.2.2.2.2.1),.d (.int .u8 g2.To.2.2.2.2.2.2.2.1),.d (.int .u8 g2.To.2.2.2.2.2.2.2.2)]) (cs:=[.d (.int .u8 g2.States),.d (.int .u8 g2.Marks),.d (.int .u8 g2.To.1.1),.d (.int .u8 g2.To.1.2.1),.d (.int .u8 g2.To.1.2.2.1),.d (.int .u8 g2.To.1.2.2.2.1),.d (.int .u8 g2.To.1.2.2.2.2),.d (.int .u8 g2.To.2.1.1),.d (.int .u8 g2.To.2.1.2.1),.d (.int .u8 g2.To.2.1.2.2.1),.d (.int .u8 g2.To.2.1.2.2.2.1),.d (.int .u8 g2.To.2.1.2.2.2.2),.d (.int .u8 g2.To.2.2.1.1),.d (.int .u8 g2.To.2.2.1.2.1),.d (.int .u8 g2.To.2.2.1.2.2.1),.d (.int .u8 g2.To.2.2.1.2.2.2.1),.d (.int .u8 g2.To.2.2.1.2.2.2.2),.d (.int .u8 g2.To.2.2.2.1.1),.d (.int .u8 g2.To.2.2.2.1.2.1),.d (.int .u8 g2.To.2.2.2.1.2.2.1),.d (.int .u8 g2.To.2.2.2.1.2.2.2.1),.d (.int .u8 g2.To.2.2.2.1.2.2.2.2),.d (.int .u8 g2.To.2.2.2.2.1),.d (.int .u8 g2.To.2.2.2.2.2.1),.d (.int .u8 g2.To.2.2.2.2.2.2.1),.d (.int .u8 g2.To.2.2.2.2.2.2.2.1),.d (.int .u8 g2.To.2.2.2.2.2.2.2.2)]) tv rfl rfl rfl rfl rfl (Rn.alloc tv rfl (nt ((Tr.seq (sr ((Rn.fldP (o':=0) tv rfl rfl (Rn.load (v:=.d (.int .u8 g2.States)) tv rfl (Ql rfl) rfl rfl (Rn.bin tv rfl rfl rfl (Rn.nil (toN ?_)))))))))))))
 refine Tr.cond rfl (fun hb3=>?_) (fun hb3=>?_)
 ·replace h:=ifT hb3 h
  refine sr ((md rfl ?_))
  obtain ⟨x5,h4,h⟩:=bnd h
  refine Rn.call (args:=[(l_ alphabet1)]) tv rfl (H_overseerref03_Empty _ _ h4) pc9 (Rn.storeT (v:=.agg [(l_ x5.Alphabet),(i_ x5.States),.nils 1,.nils 3]) (ds:=[(l_ x5.Alphabet),(i_ x5.States),.nils 1,.nils 3]) (cs':=[(l_ x5.Alphabet),(i_ x5.States),.nils 1,.nils 3]) tv rfl rfl rfl rfl rfl rfl rfl (nt ((Tr.ret ?_))))
  replace h:=si h; subst h
  exact ⟨.inr rfl,(.agg [(l_ x5.Alphabet),(i_ x5.States),.nils 1,.nils 3]),Qh5 rfl rfl rfl rfl,(WkV.agg (.cons (.same rfl) (.cons (.same rfl) (.cons (WkV.nilsD _) (.cons (WkV.nilsD _) .nil))))).rd,⟨tv,tv,tv,tv,tv⟩,fun k hk=>Qg hk⟩
 ·replace h:=ifF hb3 h
  refine Tr.skip (toN (sr ((md rfl ?_))))
  obtain ⟨x7,h6,h⟩:=bnd h
  refine Rn.call (args:=[(l_ alphabet1)]) tv rfl (H_overseerref03_Empty _ _ h6) pc9 (Rn.alloc tv rfl (Rn.storeT (v:=.agg [(l_ x7.Alphabet),(i_ x7.States),.nils 1,.nils 3]) (ds:=[(l_ x7.Alphabet),(i_ x7.States),.nils 1,.nils 3]) (cs':=[(l_ x7.Alphabet),(i_ x7.States),.nils 1,.nils 3]) tv rfl rfl rfl rfl rfl rfl rfl (nt ((sr ((Rn.fldP (o':=0) tv rfl rfl (Rn.load (v:=.d (.int .u8 g2.States)) tv rfl (Ql rfl) rfl rfl (Rn.bin tv rfl rfl rfl (Rn.conv tv rfl (Rn.bin tv rfl rfl rfl (Rn.fldP (o':=1) tv rfl rfl (Rn.store (v:=(i_ (IntKind.wrap .i64 (1 + (IntKind.wrap .i64 (Int.tmod g2.States 5)))))) (cs':=[(l_ x7.Alphabet),(i_ (IntKind.wrap .i64 (1 + (IntKind.wrap .i64 (Int.tmod g2.States 5))))),.nils 1,.nils 3]) tv rfl rfl rfl rfl rfl rfl (Rn.nil (toN ?_)))))))))))))))
  refine Tr.cutB (fun ((c43,c44,c45,a46,a47,a48) : (List Int) × (List Int) × (List Qe) × Int × (List Int) × (List Qe))=>⟨look [(4,.ptr (Γ.n0 + 4) 0),(5,.ptr (Γ.n0 + 5) 0)],Qp Γ.n0 (bxs [(3,.cells ([.d (.int .u8 g2.States),.d (.int .u8 g2.Marks),.d (.int .u8 g2.To.1.1),.d (.int .u8 g2.To.1.2.1),.d (.int .u8 g2.To.1.2.2.1),.d (.int .u8 g2.To.1.2.2.2.1),.d (.int .u8 g2.To.1.2.2.2.2),.d (.int .u8 g2.To.2.1.1),.d (.int .u8 g2.To.2.1.2.1),.d (.int .u8 g2.To.2.1.2.2.1),.d (.int .u8 g2.To.2.1.2.2.2.1),.d (.int .u8 g2.To.2.1.2.2.2.2),.d (.int .u8 g2.To.2.2.1.1),.d (.int .u8 g2.To.2.2.1.2.1),.d (.int .u8 g2.To.2.2.1.2.2.1),.d (.int .u8 g2.To.2.2.1.2.2.2.1),.d (.int .u8 g2.To.2.2.1.2.2.2.2),.d (.int .u8 g2.To.2.2.2.1.1),.d (.int .u8 g2.To.2.2.2.1.2.1),.d (.int .u8 g2.To.2.2.2.1.2.2.1),.d (.int .u8 g2.To.2.2.2.1.2.2.2.1),.d (.int .u8 g2.To.2.2.2.1.2.2.2.2),.d (.int .u8 g2.To.2.2.2.2.1),.d (.int .u8 g2.To.2.2.2.2.2.1),.d (.int .u8 g2.To.2.2.2.2.2.2.1),.d (.int .u8 g2.To.2.2.2.2.2.2.2.1),.d (.int .u8 g2.To.2.2.2.2.2.2.2.2)])),(4,.cells ([(o_ c43),(i_ 0),(o_ c44),.own 3 (List.map Qc c45)])),(5,.cells ([(l_ x7.Alphabet),(i_ a46),(o_ a47),.own 3 (List.map Qc a48)]))]) M,Γ.n0 + 79⟩) h (fun z h=>?_) (fun z h=>?_)
  ·refine sr ((md rfl (nt ((Tr.block ?_)))))
   refine Tr.loop (mk:=fun ((i8,c9,c10,c11,a12,a13,a14) : Int × (List Int) × (List Int) × (List Qe) × Int × (List Int) × (List Qe))=>⟨look [(0,(l_ alphabet1)),(3,.ptr (Γ.n0 + 3) 0),(4,.ptr (Γ.n0 + 4) 0),(5,.ptr (Γ.n0 + 5) 0),(6,(i_ i8))],Qp Γ.n0 (bxs [(3,.cells ([.d (.int .u8 g2.States),.d (.int .u8 g2.Marks),.d (.int .u8 g2.To.1.1),.d (.int .u8 g2.To.1.2.1),.d (.int .u8 g2.To.1.2.2.1),.d (.int .u8 g2.To.1.2.2.2.1),.d (.int .u8 g2.To.1.2.2.2.2),.d (.int .u8 g2.To.2.1.1),.d (.int .u8 g2.To.2.1.2.1),.d (.int .u8 g2.To.2.1.2.2.1),.d (.int .u8 g2.To.2.1.2.2.2.1),.d (.int .u8 g2.To.2.1.2.2.2.2),.d (.int .u8 g2.To.2.2.1.1),.d (.int .u8 g2.To.2.2.1.2.1),.d (.int .u8 g2.To.2.2.1.2.2.1),.d (.int .u8 g2.To.2.2.1.2.2.2.1),.d (.int .u8 g2.To.2.2.1.2.2.2.2),.d (.int .u8 g2.To.2.2.2.1.1),.d (.int .u8 g2.To.2.2.2.1.2.1),.d (.int .u8 g2.To.2.2.2.1.2.2.1),.d (.int .u8 g2.To.2.2.2.1.2.2.2.1),.d (.int .u8 g2.To.2.2.2.1.2.2.2.2),.d (.int .u8 g2.To.2.2.2.2.1),.d (.int .u8 g2.To.2.2.2.2.2.1),.d (.int .u8 g2.To.2.2.2.2.2.2.1),.d (.int .u8 g2.To.2.2.2.2.2.2.2.1),.d (.int .u8 g2.To.2.2.2.2.2.2.2.2)])),(4,.cells ([(o_ c9),(i_ 0),(o_ c10),.own 3 (List.map Qc c11)])),(5,.cells ([(l_ x7.Alphabet),(i_ a12),(o_ a13),.own 3 (List.map Qc a14)]))]) M,Γ.n0 + 79⟩) h (by exact Qk ⟨(sm rfl),(kPtr rfl),(kPtr rfl),(kPtr rfl),(sm rfl),tv⟩ ⟨⟨_,rfl,rfl,(.same rfl)⟩,⟨_,rfl,rfl,(.cons (WkV.nilsO _) (.cons (sm rfl) (.cons (WkV.nilsO _) (.cons (WkV.nilsO _) .nil))))⟩,⟨_,rfl,rfl,(.cons (sm rfl) (.cons (sm rfl) (.cons (WkV.nilsO _) (.cons (WkV.nilsO _) .nil))))⟩,tv⟩ rfl) (fun k15 z h=>?_)
   ·obtain ⟨i8,c9,c10,c11,a12,a13,a14⟩:=z
    replace h : _ = some _:=h
    refine Tr.seq (sr ((md rfl (Rn.fldP (o':=1) tv rfl rfl (Rn.load (v:=(i_ a12)) tv rfl (Ql rfl) rfl rfl (Rn.bin tv rfl rfl rfl (Rn.nil (toN ?_))))))))
    refine Tr.cond rfl (fun hb16=>?_) (fun hb16=>?_)
    ·replace h:=ifT hb16 h
     refine Tr.skip (toN ?_)
     refine Tr.cutB (fun ((a41,a42) : (List Int) × (List Qe))=>⟨look [(0,(l_ alphabet1)),(3,.ptr (Γ.n0 + 3) 0),(4,.ptr (Γ.n0 + 4) 0),(5,.ptr (Γ.n0 + 5) 0),(6,(i_ i8))],Qp Γ.n0 (bxs [(3,.cells ([.d (.int .u8 g2.States),.d (.int .u8 g2.Marks),.d (.int .u8 g2.To.1.1),.d (.int .u8 g2.To.1.2.1),.d (.int .u8 g2.To.1.2.2.1),.d (.int .u8 g2.To.1.2.2.2.1),.d (.int .u8 g2.To.1.2.2.2.2),.d (.int .u8 g2.To.2.1.1),.d (.int .u8 g2.To.2.1.2.1),.d (.int .u8 g2.To.2.1.2.2.1),.d (.int .u8 g2.To.2.1.2.2.2.1),.d (.int .u8 g2.To.2.1.2.2.2.2),.d (.int .u8 g2.To.2.2.1.1),.d (.int .u8 g2.To.2.2.1.2.1),.d (.int .u8 g2.To.2.2.1.2.2.1),.d (.int .u8 g2.To.2.2.1.2.2.2.1),.d (.int .u8 g2.To.2.2.1.2.2.2.2),.d (.int .u8 g2.To.2.2.2.1.1),.d (.int .u8 g2.To.2.2.2.1.2.1),.d (.int .u8 g2.To.2.2.2.1.2.2.1),.d (.int .u8 g2.To.2.2.2.1.2.2.2.1),.d (.int .u8 g2.To.2.2.2.1.2.2.2.2),.d (.int .u8 g2.To.2.2.2.2.1),.d (.int .u8 g2.To.2.2.2.2.2.1),.d (.int .u8 g2.To.2.2.2.2.2.2.1),.d (.int .u8 g2.To.2.2.2.2.2.2.2.1),.d (.int .u8 g2.To.2.2.2.2.2.2.2.2)])),(4,.cells ([(o_ c9),(i_ 0),(o_ c10),.own 3 (List.map Qc c11)])),(5,.cells ([(l_ x7.Alphabet),(i_ a12),(o_ a41),.own 3 (List.map Qc a42)]))]) M,Γ.n0 + 79⟩) h (fun z h=>?_) (fun z h=>?_)
     ·refine Tr.block ?_
      refine Tr.cutB (fun (a22 : List Int)=>⟨look [(0,(l_ alphabet1)),(3,.ptr (Γ.n0 + 3) 0),(4,.ptr (Γ.n0 + 4) 0),(5,.ptr (Γ.n0 + 5) 0),(6,(i_ i8))],Qp Γ.n0 (bxs [(3,.cells ([.d (.int .u8 g2.States),.d (.int .u8 g2.Marks),.d (.int .u8 g2.To.1.1),.d (.int .u8 g2.To.1.2.1),.d (.int .u8 g2.To.1.2.2.1),.d (.int .u8 g2.To.1.2.2.2.1),.d (.int .u8 g2.To.1.2.2.2.2),.d (.int .u8 g2.To.2.1.1),.d (.int .u8 g2.To.2.1.2.1),.d (.int .u8 g2.To.2.1.2.2.1),.d (.int .u8 g2.To.2.1.2.2.2.1),.d (.int .u8 g2.To.2.1.2.2.2.2),.d (.int .u8 g2.To.2.2.1.1),.d (.int .u8 g2.To.2.2.1.2.1),.d (.int .u8 g2.To.2.2.1.2.2.1),.d (.int .u8 g2.To.2.2.1.2.2.2.1),.d (.int .u8 g2.To.2.2.1.2.2.2.2),.d (.int .u8 g2.To.2.2.2.1.1),.d (.int .u8 g2.To.2.2.2.1.2.1),.d (.int .u8 g2.To.2.2.2.1.2.2.1),.d (.int .u8 g2.To.2.2.2.1.2.2.2.1),.d (.int .u8 g2.To.2.2.2.1.2.2.2.2),.d (.int .u8 g2.To.2.2.2.2.1),.d (.int .u8 g2.To.2.2.2.2.2.1),.d (.int .u8 g2.To.2.2.2.2.2.2.1),.d (.int .u8 g2.To.2.2.2.2.2.2.2.1),.d (.int .u8 g2.To.2.2.2.2.2.2.2.2)])),(4,.cells ([(o_ c9),(i_ 0),(o_ c10),.own 3 (List.map Qc c11)])),(5,.cells ([(l_ x7.Alphabet),(i_ a12),(o_ a22),.own 3 (List.map Qc a14)]))]) M,Γ.n0 + 79⟩) h (fun z h=>?_) (fun z h=>?_)
      ·refine sr ((Rn.fldP (o':=1) tv rfl rfl (Rn.load (v:=.d (.int .u8 g2.Marks)) tv rfl (Ql rfl) rfl rfl (md rfl ?_))))
       obtain ⟨s17,h18,h⟩:=bnd h
       refine Rn.bin tv rfl rfl (Qbk4 h18) (Rn.bin tv rfl rfl rfl (Rn.bin tv rfl rfl rfl (Rn.nil (toN ?_))))
       refine Tr.cond rfl (fun hb19=>?_) (fun hb19=>?_)
       ·replace h:=bT hb19 h
        refine Tr.rgn (Rn.fldP (o':=2) tv rfl rfl (Rn.loadT (cs':=[(l_ x7.Alphabet),(i_ a12),(l_ a13),.own 3 (List.map Qc a14)]) tv rfl rfl rfl rfl (md rfl (Rn.bslice (xs:=[(i_ i8)]) (cs:=[(i_ i8)]) tv rfl rfl rfl rfl ?_))))
        obtain ⟨x20,h21,h⟩:=bnd h
        refine Rn.app (e:=(eI .i64)) tv rfl rfl rfl (Qcj rfl rfl rfl) h21 rfl (Rn.fldP (o':=2) tv rfl rfl (Rn.storeO (cs':=[(l_ x7.Alphabet),(i_ a12),(o_ x20),.own 3 (List.map Qc a14)]) tv rfl rfl rfl rfl rfl (Rn.nil ?_)))
        replace h:=si h; subst h
        exact Qj [37] ⟨(sm rfl),(kPtr rfl),(kPtr rfl),(kPtr rfl),(sm rfl),tv⟩ ⟨⟨_,rfl,rfl,(.same rfl)⟩,⟨_,rfl,rfl,(.same rfl)⟩,⟨_,rfl,rfl,(.same rfl)⟩,tv⟩ rfl
       ·replace h:=bF hb19 h
        refine Tr.skip ?_
        replace h:=si h; subst h
        exact Qj [] ⟨(sm rfl),(kPtr rfl),(kPtr rfl),(kPtr rfl),(sm rfl),tv⟩ ⟨⟨_,rfl,rfl,(.same rfl)⟩,⟨_,rfl,rfl,(.same rfl)⟩,⟨_,rfl,rfl,(.same rfl)⟩,tv⟩ rfl
      ·obtain ⟨a22,rfl⟩ : ∃ x,x = z:=⟨_,rfl⟩
       refine sr ((md rfl (nt ((Tr.block ?_)))))
       refine Tr.loop (mk:=fun ((k23,a24) : Int × (List Qe))=>⟨look [(0,(l_ alphabet1)),(3,.ptr (Γ.n0 + 3) 0),(4,.ptr (Γ.n0 + 4) 0),(5,.ptr (Γ.n0 + 5) 0),(6,(i_ i8)),(7,(i_ k23))],Qp Γ.n0 (bxs [(3,.cells ([.d (.int .u8 g2.States),.d (.int .u8 g2.Marks),.d (.int .u8 g2.To.1.1),.d (.int .u8 g2.To.1.2.1),.d (.int .u8 g2.To.1.2.2.1),.d (.int .u8 g2.To.1.2.2.2.1),.d (.int .u8 g2.To.1.2.2.2.2),.d (.int .u8 g2.To.2.1.1),.d (.int .u8 g2.To.2.1.2.1),.d (.int .u8 g2.To.2.1.2.2.1),.d (.int .u8 g2.To.2.1.2.2.2.1),.d (.int .u8 g2.To.2.1.2.2.2.2),.d (.int .u8 g2.To.2.2.1.1),.d (.int .u8 g2.To.2.2.1.2.1),.d (.int .u8 g2.To.2.2.1.2.2.1),.d (.int .u8 g2.To.2.2.1.2.2.2.1),.d (.int .u8 g2.To.2.2.1.2.2.2.2),.d (.int .u8 g2.To.2.2.2.1.1),.d (.int .u8 g2.To.2.2.2.1.2.1),.d (.int .u8 g2.To.2.2.2.1.2.2.1),.d (.int .u8 g2.To.2.2.2.1.2.2.2.1),.d (.int .u8 g2.To.2.2.2.1.2.2.2.2),.d (.int .u8 g2.To.2.2.2.2.1),.d (.int .u8 g2.To.2.2.2.2.2.1),.d (.int .u8 g2.To.2.2.2.2.2.2.1),.d (.int .u8 g2.To.2.2.2.2.2.2.2.1),.d (.int .u8 g2.To.2.2.2.2.2.2.2.2)])),(4,.cells ([(o_ c9),(i_ 0),(o_ c10),.own 3 (List.map Qc c11)])),(5,.cells ([(l_ x7.Alphabet),(i_ a12),(o_ a22),.own 3 (List.map Qc a24)]))]) M,Γ.n0 + 79⟩) h (by exact Qk ⟨(sm rfl),(kPtr rfl),(kPtr rfl),(kPtr rfl),(sm rfl),(sm rfl),tv⟩ ⟨⟨_,rfl,rfl,(.same rfl)⟩,⟨_,rfl,rfl,(.same rfl)⟩,⟨_,rfl,rfl,(.same rfl)⟩,tv⟩ rfl) (fun k25 z h=>?_)
       ·obtain ⟨k23,a24⟩:=z
        replace h : _ = some _:=h
        refine Tr.seq ?_
        refine Tr.cutB (fun (x27 : Bool)=>⟨look [(0,(l_ alphabet1)),(3,.ptr (Γ.n0 + 3) 0),(4,.ptr (Γ.n0 + 4) 0),(5,.ptr (Γ.n0 + 5) 0),(6,(i_ i8)),(7,(i_ k23)),(47,(b_ x27))],Qp Γ.n0 (bxs [(3,.cells ([.d (.int .u8 g2.States),.d (.int .u8 g2.Marks),.d (.int .u8 g2.To.1.1),.d (.int .u8 g2.To.1.2.1),.d (.int .u8 g2.To.1.2.2.1),.d (.int .u8 g2.To.1.2.2.2.1),.d (.int .u8 g2.To.1.2.2.2.2),.d (.int .u8 g2.To.2.1.1),.d (.int .u8 g2.To.2.1.2.1),.d (.int .u8 g2.To.2.1.2.2.1),.d (.int .u8 g2.To.2.1.2.2.2.1),.d (.int .u8 g2.To.2.1.2.2.2.2),.d (.int .u8 g2.To.2.2.1.1),.d (.int .u8 g2.To.2.2.1.2.1),.d (.int .u8 g2.To.2.2.1.2.2.1),.d (.int .u8 g2.To.2.2.1.2.2.2.1),.d (.int .u8 g2.To.2.2.1.2.2.2.2),.d (.int .u8 g2.To.2.2.2.1.1),.d (.int .u8 g2.To.2.2.2.1.2.1),.d (.int .u8 g2.To.2.2.2.1.2.2.1),.d (.int .u8 g2.To.2.2.2.1.2.2.2.1),.d (.int .u8 g2.To.2.2.2.1.2.2.2.2),.d (.int .u8 g2.To.2.2.2.2.1),.d (.int .u8 g2.To.2.2.2.2.2.1),.d (.int .u8 g2.To.2.2.2.2.2.2.1),.d (.int .u8 g2.To.2.2.2.2.2.2.2.1),.d (.int .u8 g2.To.2.2.2.2.2.2.2.2)])),(4,.cells ([(o_ c9),(i_ 0),(o_ c10),.own 3 (List.map Qc c11)])),(5,.cells ([(l_ x7.Alphabet),(i_ a12),(o_ a22),.own 3 (List.map Qc a24)]))]) M,Γ.n0 + 79⟩) h (fun z h=>?_) (fun z h=>?_)
        ·refine Tr.rgn (md rfl (md rfl (Rn.lenD tv rfl (Rn.bin tv rfl rfl rfl (md rfl ?_)))))
         refine Qdk (decide (k23 < (alphabet1.length : Int))) (fun hb26=>?_) (fun hb26=>?_)
         ·replace h:=ifT hb26 h
          refine Rn.movD (gw rfl hb26) rfl (Rn.bin (gw rfl hb26) rfl rfl rfl (Rn.pickT (v:=(b_ (decide (k23 < 5)))) tv rfl hb26 rfl (Rn.nil ?_)))
          replace h:=si h; subst h
          exact Qj [] ⟨(sm rfl),(kPtr rfl),(kPtr rfl),(kPtr rfl),(sm rfl),(sm rfl),(sm rfl),tv⟩ ⟨⟨_,rfl,rfl,(.same rfl)⟩,⟨_,rfl,rfl,(.same rfl)⟩,⟨_,rfl,rfl,(.same rfl)⟩,tv⟩ rfl
         ·replace h:=ifF hb26 h
          refine Rn.sk (nw rfl hb26) (Rn.sk (nw rfl hb26) (Rn.pickF (v:=(b_ false)) tv rfl hb26 rfl (Rn.nil ?_)))
          replace h:=si h; subst h
          exact Qj [] ⟨(sm rfl),(kPtr rfl),(kPtr rfl),(kPtr rfl),(sm rfl),(sm rfl),(sm rfl),tv⟩ ⟨⟨_,rfl,rfl,(.same rfl)⟩,⟨_,rfl,rfl,(.same rfl)⟩,⟨_,rfl,rfl,(.same rfl)⟩,tv⟩ rfl
        ·obtain ⟨x27,rfl⟩ : ∃ x,x = z:=⟨_,rfl⟩
         refine Tr.cond rfl (fun hb28=>?_) (fun hb28=>?_)
         ·replace h:=bT hb28 h
          refine Tr.skip (toN ?_)
          refine Tr.cutB (fun (a40 : List Qe)=>⟨look [(0,(l_ alphabet1)),(3,.ptr (Γ.n0 + 3) 0),(4,.ptr (Γ.n0 + 4) 0),(5,.ptr (Γ.n0 + 5) 0),(6,(i_ i8)),(7,(i_ k23))],Qp Γ.n0 (bxs [(3,.cells ([.d (.int .u8 g2.States),.d (.int .u8 g2.Marks),.d (.int .u8 g2.To.1.1),.d (.int .u8 g2.To.1.2.1),.d (.int .u8 g2.To.1.2.2.1),.d (.int .u8 g2.To.1.2.2.2.1),.d (.int .u8 g2.To.1.2.2.2.2),.d (.int .u8 g2.To.2.1.1),.d (.int .u8 g2.To.2.1.2.1),.d (.int .u8 g2.To.2.1.2.2.1),.d (.int .u8 g2.To.2.1.2.2.2.1),.d (.int .u8 g2.To.2.1.2.2.2.2),.d (.int .u8 g2.To.2.2.1.1),.d (.int .u8 g2.To.2.2.1.2.1),.d (.int .u8 g2.To.2.2.1.2.2.1),.d (.int .u8 g2.To.2.2.1.2.2.2.1),.d (.int .u8 g2.To.2.2.1.2.2.2.2),.d (.int .u8 g2.To.2.2.2.1.1),.d (.int .u8 g2.To.2.2.2.1.2.1),.d (.int .u8 g2.To.2.2.2.1.2.2.1),.d (.int .u8 g2.To.2.2.2.1.2.2.2.1),.d (.int .u8 g2.To.2.2.2.1.2.2.2.2),.d (.int .u8 g2.To.2.2.2.2.1),.d (.int .u8 g2.To.2.2.2.2.2.1),.d (.int .u8 g2.To.2.2.2.2.2.2.1),.d (.int .u8 g2.To.2.2.2.2.2.2.2.1),.d (.int .u8 g2.To.2.2.2.2.2.2.2.2)])),(4,.cells ([(o_ c9),(i_ 0),(o_ c10),.own 3 (List.map Qc c11)])),(5,.cells ([(l_ x7.Alphabet),(i_ a12),(o_ a22),.own 3 (List.map Qc a40)]))]) M,Γ.n0 + 79⟩) h (fun z h=>?_) (fun z h=>?_)
          ·refine Tr.block (Tr.seq ?_)
           refine Tr.rgnD (by decide) ?_
           refine md rfl (md rfl (Rn.fldP (o':=2) tv rfl rfl ?_))
           obtain ⟨⟨⟩,h29,h⟩:=bnd h
           refine Rn.idxArr (o':=2 + (Int.toNat i8 * 5)) tv rfl rfl rfl h29 ?_
           obtain ⟨⟨⟩,h30,h⟩:=bnd h
           refine Rn.idxArr (o':=2 + (Int.toNat i8 * 5 + Int.toNat k23 * 1)) tv rfl rfl (Nat.add_assoc ..).symm h30 ?_
           obtain ⟨x31,h32,h⟩:=bnd h
           refine Rn.loadArr (e:=(fun (z : Int)=>.int .u8 z)) (pre:=[.d (.int .u8 g2.States),.d (.int .u8 g2.Marks)]) (post:=[]) tv rfl rfl (Ql rfl) rfl rfl h32 (Rn.conv tv rfl (Rn.fldP (o':=1) tv rfl rfl (Rn.load (v:=(i_ a12)) tv rfl (Ql rfl) rfl rfl (Rn.bin tv rfl rfl rfl ?_))))
           obtain ⟨s33,h34,h⟩:=bnd h
           refine Rn.bin tv rfl rfl (Qboi h34) (md rfl ?_)
           refine Rn.nil ⟨rfl,?_⟩
           refine toN (sr ((md rfl (Rn.fldP (o':=1) tv rfl rfl (Rn.load (v:=(i_ a12)) tv rfl (Ql rfl) rfl rfl (Rn.bin tv rfl rfl rfl (Rn.nil (toN ?_))))))))
           refine Tr.cond rfl (fun hb35=>?_) (fun hb35=>?_)
           ·replace h:=ifT hb35 h
            refine Tr.rgnD (by decide) ?_
            refine Rn.fldP (o':=3) tv rfl rfl (Rn.loadT (cs':=[(l_ x7.Alphabet),(i_ a12),(o_ a22),.d (.lst 3 (List.map Qc a24))]) tv rfl rfl rfl rfl (md rfl (md rfl (md rfl ?_))))
            obtain ⟨x36,h37,h⟩:=bnd h
            refine Rn.idxD (e:=(eI .i64)) tv rfl rfl h37 (Rn.loadC (x:=.int .i64 x36) tv rfl (md rfl (Rn.build (v:=.agg [(i_ i8),(i_ x36),(i_ s33)]) tv rfl (Rn.bslice (xs:=[.agg [(i_ i8),(i_ x36),(i_ s33)]]) (cs:=[(i_ i8),(i_ x36),(i_ s33)]) tv rfl rfl rfl rfl ?_))))
            obtain ⟨x38,h39,h⟩:=bnd h
            refine Rn.app (e:=Qc) tv rfl rfl rfl (Qcj rfl rfl rfl) h39 rfl (Rn.fldP (o':=3) tv rfl rfl (Rn.storeO (cs':=[(l_ x7.Alphabet),(i_ a12),(o_ a22),.own 3 (List.map Qc x38)]) tv rfl rfl rfl rfl rfl ?_))
            refine Rn.nil ⟨rfl,?_⟩
            replace h:=si h; subst h
            exact Qj [74] ⟨(sm rfl),(kPtr rfl),(kPtr rfl),(kPtr rfl),(sm rfl),(sm rfl),tv⟩ ⟨⟨_,rfl,rfl,(.same rfl)⟩,⟨_,rfl,rfl,(.same rfl)⟩,⟨_,rfl,rfl,(.same rfl)⟩,tv⟩ rfl
           ·replace h:=ifF hb35 h
            refine Tr.skip ?_
            replace h:=si h; subst h
            exact Qj [] ⟨(sm rfl),(kPtr rfl),(kPtr rfl),(kPtr rfl),(sm rfl),(sm rfl),tv⟩ ⟨⟨_,rfl,rfl,(.same rfl)⟩,⟨_,rfl,rfl,(.same rfl)⟩,⟨_,rfl,rfl,(.same rfl)⟩,tv⟩ rfl
          ·obtain ⟨a40,rfl⟩ : ∃ x,x = z:=⟨_,rfl⟩
           refine Tr.rgn (md rfl (Rn.bin tv rfl rfl rfl (md rfl (Rn.nil ?_))))
           exact ⟨_,h,(by exact Qk ⟨(sm rfl),(kPtr rfl),(kPtr rfl),(kPtr rfl),(sm rfl),(sm rfl),tv⟩ ⟨⟨_,rfl,rfl,(.same rfl)⟩,⟨_,rfl,rfl,(.same rfl)⟩,⟨_,rfl,rfl,(.same rfl)⟩,tv⟩ rfl)⟩
         ·replace h:=bF hb28 h
          refine Tr.exit ?_
          replace h:=si h; subst h
          exact Qj [] ⟨(sm rfl),(kPtr rfl),(kPtr rfl),(kPtr rfl),(sm rfl),tv⟩ ⟨⟨_,rfl,rfl,(.same rfl)⟩,⟨_,rfl,rfl,(.same rfl)⟩,⟨_,rfl,rfl,(.same rfl)⟩,tv⟩ rfl
     ·obtain ⟨a41,a42⟩:=z
      refine Tr.rgn (md rfl (Rn.bin tv rfl rfl rfl (md rfl (Rn.nil ?_))))
      exact ⟨_,h,(by exact Qk ⟨(sm rfl),(kPtr rfl),(kPtr rfl),(kPtr rfl),(sm rfl),tv⟩ ⟨⟨_,rfl,rfl,(.same rfl)⟩,⟨_,rfl,rfl,(.same rfl)⟩,⟨_,rfl,rfl,(.same rfl)⟩,tv⟩ rfl)⟩
    ·replace h:=ifF hb16 h
     refine Tr.exit ?_
     replace h:=si h; subst h
     exact Qj [] ⟨(kPtr rfl),(kPtr rfl),tv⟩ ⟨⟨_,rfl,rfl,(.same rfl)⟩,⟨_,rfl,rfl,(.same rfl)⟩,⟨_,rfl,rfl,(.same rfl)⟩,tv⟩ rfl
  ·obtain ⟨c43,c44,c45,a46,a47,a48⟩:=z
   refine sr ((Rn.load (v:=.agg [(l_ x7.Alphabet),(i_ a46),(l_ a47),.d (.lst 3 (List.map Qc a48))]) tv rfl (Ql rfl) rfl rfl ?_))
   obtain ⟨x50,h49,h⟩:=bnd h
   refine Rn.call (args:=[.agg [(l_ x7.Alphabet),(i_ a46),(l_ a47),.d (.lst 3 (List.map Qc a48))]]) tv rfl (H_overseerref03_Canonical _ _ h49) pc9 (Rn.storeT (v:=(Qa x50)) (ds:=(Qd x50)) (cs':=(Qd x50)) tv rfl rfl rfl rfl rfl rfl rfl (nt ((Tr.ret ?_))))
   replace h:=si h; subst h
   exact ⟨.inr rfl,(Qa x50),Qh5 rfl rfl rfl rfl,fun _ _ _ _ h=>h,⟨tv,tv,tv,tv,tv⟩,fun k hk=>Qg hk⟩
theorem Q49 {P : Program} {c : Nat} {Qt : Qb → Option Int} {Qbh : Qb → Int → Option ((List Qe))} {Q3 : (List Int) → Option ((List Int))} {Qf : (List Int) → Int → Option Bool}
    (H_automaton_Check : Qd4 P 46 Qt)
    (H_automaton_out : Qhg P 54 Qbh)
    (H_slices_Clone_int : Qfi P 55 Q3)
    (H_slices_Contains_int : Qbk P 56 Qf) (hcf : Qs P c = some Qlm) (fuel : Nat) : Qll P c (Qc6 Qt Qbh Q3 Qf fuel):=by
 intro a1 most2 marked3 r h
 refine Qci hcf rfl fun Γ M hP hnt hM=>?_
 subst hP
 refine Tr.init [(0,(Qa a1)),(1,(i_ most2)),(2,(b_ marked3))] rfl ?_
 unfold Qc6 at h
 unfold Qlm
 refine sr ((Rn.box (v:=(Qa a1)) (cs:=(Qd a1)) tv rfl rfl rfl rfl rfl (Rn.movTC (v:=.nils 1) tv (md rfl (nt ((Tr.seq (sr ((Rn.load (v:=(Qa a1)) tv rfl (Ql rfl) rfl rfl ?_))))))))))
 obtain ⟨x5,h4,h⟩:=bnd h
 refine Rn.call (args:=[(Qa a1)]) tv rfl (H_automaton_Check _ _ h4) pc9 (md rfl (nt ((sr ((md rfl (Rn.bin tv rfl rfl rfl (Rn.nil (toN ?_)))))))))
 refine Tr.cond rfl (fun hb6=>?_) (fun hb6=>?_)
 ·replace h:=bT hb6 h
  refine sr ((md rfl (Rn.movTC (v:=.nils 1) tv (md rfl (nt ((Tr.ret ?_)))))))
  replace h:=si h; subst h
  exact ⟨.inr rfl,.tup [.nils 1,(i_ x5)],res2 rfl rfl,(WkV.tup (.cons (WkV.nilsO _) (.cons (.same rfl) .nil))).rd,⟨tv,tv,tv⟩,fun k hk=>Qg hk⟩
 ·replace h:=bF hb6 h
  refine Tr.skip (toN (Tr.seq ?_))
  refine Tr.cutB (fun (x8 : Bool)=>⟨look [(1,(i_ most2)),(2,(b_ marked3)),(3,.ptr (Γ.n0 + 3) 0),(26,(b_ x8))],Qp Γ.n0 (bxs [(3,.cells ((Qd a1)))]) M,Γ.n0 + 102⟩) h (fun z h=>?_) (fun z h=>?_)
  ·refine Tr.rgn (md rfl (Rn.bin tv rfl rfl rfl (md rfl ?_)))
   refine Qdk (decide (most2 < 0)) (fun hb7=>?_) (fun hb7=>?_)
   ·replace h:=ifT hb7 h
    refine Rn.sk (nw rfl hb7) (Rn.sk (nw rfl hb7) (Rn.pickT (v:=(b_ true)) tv rfl hb7 rfl (Rn.nil ?_)))
    replace h:=si h; subst h
    exact Qj [] ⟨(sm rfl),(sm rfl),(kPtr rfl),(sm rfl),tv⟩ ⟨⟨_,rfl,rfl,(.same rfl)⟩,tv⟩ rfl
   ·replace h:=ifF hb7 h
    refine Rn.movD (gw rfl hb7) rfl (Rn.bin (gw rfl hb7) rfl rfl rfl (Rn.pickF (v:=(b_ (decide (most2 > 4096)))) tv rfl hb7 rfl (Rn.nil ?_)))
    replace h:=si h; subst h
    exact Qj [] ⟨(sm rfl),(sm rfl),(kPtr rfl),(sm rfl),tv⟩ ⟨⟨_,rfl,rfl,(.same rfl)⟩,tv⟩ rfl
  ·obtain ⟨x8,rfl⟩ : ∃ x,x = z:=⟨_,rfl⟩
   refine Tr.cond rfl (fun hb9=>?_) (fun hb9=>?_)
   ·replace h:=bT hb9 h
    refine sr ((Rn.movTC (v:=.nils 1) tv (md rfl (nt ((Tr.ret ?_))))))
    replace h:=si h; subst h
    exact ⟨.inr rfl,.tup [.nils 1,(i_ 2)],res2 rfl rfl,(WkV.tup (.cons (WkV.nilsO _) (.cons (.same rfl) .nil))).rd,⟨tv,tv,tv⟩,fun k hk=>Qg hk⟩
   ·replace h:=bF hb9 h
    refine Tr.skip (toN (Tr.seq (sr ((Rn.fldP (o':=1) tv rfl rfl (Rn.load (v:=(i_ a1.States)) tv rfl (Ql rfl) rfl rfl (Rn.bin tv rfl rfl rfl (Rn.nil (toN ?_)))))))))
    refine Tr.cond rfl (fun hb10=>?_) (fun hb10=>?_)
    ·replace h:=bT hb10 h
     refine sr ((Rn.movTC (v:=.nils 1) tv (md rfl (nt ((Tr.ret ?_))))))
     replace h:=si h; subst h
     exact ⟨.inr rfl,.tup [.nils 1,(i_ 0)],res2 rfl rfl,(WkV.tup (.cons (WkV.nilsO _) (.cons (.same rfl) .nil))).rd,⟨tv,tv,tv⟩,fun k hk=>Qg hk⟩
    ·replace h:=bF hb10 h
     refine Tr.skip (toN (sr ((Rn.build (v:=.agg [.nils 1,(i_ 0)]) tv rfl (Rn.bslice (xs:=[.agg [.nils 1,(i_ 0)]]) (cs:=[.nils 1,(i_ 0)]) tv rfl rfl rfl rfl (Rn.movTF (v:=.sl 2 (Γ.n0 + 31) 0 1 1) tv rfl rfl (Rn.nil (toN ?_))))))))
     refine Tr.cutJ (fun (all38 : List Qo)=>⟨look [(2,(b_ marked3)),(3,.ptr (Γ.n0 + 3) 0),(9,.own 2 (List.map Qbc all38))],Qp Γ.n0 (bxs [(3,.cells ((Qd a1)))]) M,Γ.n0 + 102⟩) h (fun J58 h=>?_) (fun z h=>?_)
     ·refine sr ((md rfl (nt ((Tr.block ?_)))))
      refine Tr.weak (by show WeakSt Γ _ ⟨look ((9,.own 2 (List.map Qbc ([(Qo.mk [] 0)]))) :: [(1,(i_ most2)),(2,(b_ marked3)),(3,.ptr (Γ.n0 + 3) 0),(10,(i_ 0)),(26,(b_ x8)),(27,.ptr (Γ.n0 + 3) 1),(28,(i_ a1.States)),(29,(b_ (a1.States == 0))),(30,.agg [.nils 1,(i_ 0)])] ),Qp Γ.n0 (bxs [(3,.cells ((Qd a1)))]) M,Γ.n0 + 102⟩; exact Q72 31 9 [.lst 1 [],.int .i64 0] rfl rfl rfl rfl rfl ⟨(sm rfl),(sm rfl),(kPtr rfl),(sm rfl),(sm rfl),(kPtr rfl),(sm rfl),(sm rfl),(sm rfl),tv⟩ ⟨⟨_,rfl,rfl,(.same rfl)⟩,tv⟩ rfl) ?_
      refine Tr.loop (mk:=fun ((all11,i12) : (List Qo) × Int)=>⟨look [(1,(i_ most2)),(2,(b_ marked3)),(3,.ptr (Γ.n0 + 3) 0),(9,.own 2 (List.map Qbc all11)),(10,(i_ i12))],Qp Γ.n0 (bxs [(3,.cells ((Qd a1)))]) M,Γ.n0 + 102⟩) h (by exact Qk ⟨(sm rfl),(sm rfl),(kPtr rfl),(sm rfl),(sm rfl),tv⟩ ⟨⟨_,rfl,rfl,(.same rfl)⟩,tv⟩ rfl) (fun k13 z h=>?_)
      ·obtain ⟨all11,i12⟩:=z
       replace h : _ = some _:=h
       refine Tr.seq (sr ((md rfl (Rn.mov (v:=.d (.lst 2 (List.map Qbc all11))) tv rfl (Rn.lenD tv rfl (Rn.bin tv rfl rfl rfl (Rn.nil (toN ?_))))))))
       refine Tr.cond rfl (fun hb14=>?_) (fun hb14=>?_)
       ·replace h:=ifT hb14 h
        refine Tr.skip (toN (Tr.seq (Tr.block (Tr.seq (sr ((Rn.mov (v:=.d (.lst 2 (List.map Qbc all11))) tv rfl (md rfl ?_))))))))
        obtain ⟨x15,h16,h⟩:=bnd h
        refine Rn.idxD (e:=Qbc) tv rfl rfl h16 (Rn.fldC tv rfl (Rn.loadC (x:=.lst 1 (List.map (eI .i64) x15.word_)) tv rfl (Rn.lenD tv rfl (md rfl (Rn.bin tv rfl rfl rfl (Rn.nil (toN ?_)))))))
        refine Tr.cond rfl (fun hb17=>?_) (fun hb17=>?_)
        ·replace h:=bT hb17 h
         refine Tr.exit ?_
         exact ⟨_,h,(by exact Qj [] ⟨(sm rfl),(kPtr rfl),(sm rfl),tv⟩ ⟨⟨_,rfl,rfl,(.same rfl)⟩,tv⟩ rfl)⟩
        ·replace h:=bF hb17 h
         refine Tr.skip (toN ?_)
         refine Tr.cutB (fun (all36 : List Qo)=>⟨look [(1,(i_ most2)),(2,(b_ marked3)),(3,.ptr (Γ.n0 + 3) 0),(9,.own 2 (List.map Qbc all36)),(10,(i_ i12))],Qp Γ.n0 (bxs [(3,.cells ((Qd a1)))]) M,Γ.n0 + 102⟩) h (fun z h=>?_) (fun z h=>?_)
         ·refine Tr.seq ?_
          refine Tr.rgnD (by decide) ?_
          refine Rn.load (v:=(Qa a1)) tv rfl (Ql rfl) rfl rfl (Rn.mov (v:=.d (.lst 2 (List.map Qbc all11))) tv rfl (md rfl ?_))
          obtain ⟨x18,h19,h⟩:=bnd h
          refine Rn.idxD (e:=Qbc) tv rfl rfl h19 (Rn.fldC tv rfl (Rn.loadC (x:=.int .i64 x18.state_) tv rfl ?_))
          obtain ⟨x21,h20,h⟩:=bnd h
          refine Rn.call (args:=[(Qa a1),(i_ x18.state_)]) tv rfl (H_automaton_out _ _ _ h20) pc0 (Rn.lenD tv rfl (md rfl ?_))
          refine Rn.nil ⟨rfl,?_⟩
          refine toN (Tr.block ?_)
          refine Tr.loop (mk:=fun ((all22,x23) : (List Qo) × Int)=>⟨look [(1,(i_ most2)),(2,(b_ marked3)),(3,.ptr (Γ.n0 + 3) 0),(9,.own 2 (List.map Qbc all22)),(10,(i_ i12)),(52,.d (.lst 3 (List.map Qc x21))),(53,(i_ (x21.length : Int))),(54,(i_ x23))],Qp Γ.n0 (bxs [(3,.cells ((Qd a1)))]) M,Γ.n0 + 102⟩) h (by exact Qk ⟨(sm rfl),(sm rfl),(kPtr rfl),(sm rfl),(sm rfl),(sm rfl),(sm rfl),(sm rfl),tv⟩ ⟨⟨_,rfl,rfl,(.same rfl)⟩,tv⟩ rfl) (fun k24 z h=>?_)
          ·obtain ⟨all22,x23⟩:=z
           replace h : _ = some _:=h
           refine sr ((Rn.bin tv rfl rfl rfl (nt ((Tr.seq ?_)))))
           refine Tr.cond rfl (fun hb25=>?_) (fun hb25=>?_)
           ·replace h:=ifT hb25 h
            refine Tr.skip (toN (Tr.seq (Tr.block (Tr.seq (Tr.rgn ?_)))))
            obtain ⟨x26,h27,h⟩:=bnd h
            refine Rn.idxD (e:=Qc) tv rfl rfl h27 (Rn.loadCA (vs:=(Qbg x26)) tv rfl rfl rfl (Rn.alloc tv rfl (Rn.store (v:=(Qbp x26)) (cs':=(Qbg x26)) tv rfl rfl rfl rfl rfl rfl (Rn.nil (toN ?_)))))
            refine Tr.rgnD (by decide) ?_
            refine Rn.movTO tv rfl (md rfl (md rfl ?_))
            obtain ⟨x28,h29,h⟩:=bnd h
            refine Rn.idxD (e:=Qbc) tv rfl rfl h29 (Rn.fldC tv rfl (Rn.loadC (x:=.lst 1 (List.map (eI .i64) x28.word_)) tv rfl ?_))
            obtain ⟨x31,h30,h⟩:=bnd h
            refine Rn.call (args:=[(l_ x28.word_)]) tv rfl (H_slices_Clone_int _ _ h30) (fun _=>Qbde hM rfl) (Rn.fldP (o':=1) tv rfl rfl (Rn.load (v:=(i_ x26.Event)) tv rfl (Ql rfl) rfl rfl (Rn.bslice (xs:=[(i_ x26.Event)]) (cs:=[(i_ x26.Event)]) tv rfl rfl rfl rfl ?_)))
            obtain ⟨x32,h33,h⟩:=bnd h
            refine Rn.app (e:=(eI .i64)) tv rfl rfl rfl (Qcj rfl rfl rfl) h33 rfl (Rn.fldP (o':=2) tv rfl rfl (Rn.load (v:=(i_ x26.To)) tv rfl (Ql rfl) rfl rfl (Rn.buildT (v:=.agg [(o_ x32),(i_ x26.To)]) tv rfl (Rn.bslice (xs:=[.agg [(l_ x32),(i_ x26.To)]]) (cs:=[(l_ x32),(i_ x26.To)]) tv rfl rfl rfl rfl ?_))))
            obtain ⟨x34,h35,h⟩:=bnd h
            refine Rn.app (e:=Qbc) tv rfl rfl rfl (Qcj rfl rfl rfl) h35 rfl (Rn.movTO tv rfl ?_)
            refine Rn.nil ⟨rfl,?_⟩
            refine toN (Tr.rgn (Rn.bin tv rfl rfl rfl (md rfl (Rn.nil ?_))))
            exact ⟨_,h,(by exact Qk ⟨(sm rfl),(sm rfl),(kPtr rfl),(sm rfl),(sm rfl),(sm rfl),(sm rfl),(sm rfl),tv⟩ ⟨⟨_,rfl,rfl,(.same rfl)⟩,tv⟩ rfl)⟩
           ·replace h:=ifF hb25 h
            refine Tr.exit ?_
            replace h:=si h; subst h
            exact Qj [] ⟨(sm rfl),(sm rfl),(kPtr rfl),(sm rfl),(sm rfl),tv⟩ ⟨⟨_,rfl,rfl,(.same rfl)⟩,tv⟩ rfl
         ·obtain ⟨all36,rfl⟩ : ∃ x,x = z:=⟨_,rfl⟩
          refine sr ((Rn.mov (v:=.d (.lst 2 (List.map Qbc all36))) tv rfl (Rn.lenD tv rfl (Rn.bin tv rfl rfl rfl (Rn.nil (toN ?_))))))
          refine Tr.cond rfl (fun hb37=>?_) (fun hb37=>?_)
          ·replace h:=ifT hb37 h
           refine sr ((Rn.movTC (v:=.nils 1) tv (md rfl (nt ((Tr.ret ?_))))))
           replace h:=si h; subst h
           exact ⟨.inr rfl,.tup [.nils 1,(i_ 3)],res2 rfl rfl,(WkV.tup (.cons (WkV.nilsO _) (.cons (.same rfl) .nil))).rd,⟨tv,tv,tv⟩,fun k hk=>Qg hk⟩
          ·replace h:=ifF hb37 h
           refine Tr.skip (toN (Tr.rgn (md rfl (Rn.bin tv rfl rfl rfl (md rfl (Rn.nil ?_))))))
           exact ⟨_,h,(by exact Qk ⟨(sm rfl),(sm rfl),(kPtr rfl),(sm rfl),(sm rfl),tv⟩ ⟨⟨_,rfl,rfl,(.same rfl)⟩,tv⟩ rfl)⟩
       ·replace h:=ifF hb14 h
        refine Tr.exit ?_
        exact ⟨_,h,(by exact Qj [] ⟨(sm rfl),(kPtr rfl),(sm rfl),tv⟩ ⟨⟨_,rfl,rfl,(.same rfl)⟩,tv⟩ rfl)⟩
     ·obtain ⟨all38,rfl⟩ : ∃ x,x = z:=⟨_,rfl⟩
      refine sr ((Rn.movTC (v:=.nils 1) tv (Rn.nil (toN ?_))))
      refine Tr.cutB (fun (l57 : List (List Int))=>⟨look [(13,.own 1 (List.map (eL 1 (eI .i64)) l57))],Qp Γ.n0 (bxs [(3,.cells ((Qd a1)))]) M,Γ.n0 + 102⟩) h (fun z h=>?_) (fun z h=>?_)
      ·refine sr ((Rn.mov (v:=.d (.lst 2 (List.map Qbc all38))) tv rfl (Rn.lenD tv rfl (md rfl (nt ((Tr.block ?_)))))))
       refine Tr.loop (mk:=fun ((l39,x40) : (List (List Int)) × Int)=>⟨look [(2,(b_ marked3)),(3,.ptr (Γ.n0 + 3) 0),(13,.own 1 (List.map (eL 1 (eI .i64)) l39)),(78,.d (.lst 2 (List.map Qbc all38))),(79,(i_ (all38.length : Int))),(80,(i_ x40))],Qp Γ.n0 (bxs [(3,.cells ((Qd a1)))]) M,Γ.n0 + 102⟩) h (by exact Qk ⟨(sm rfl),(kPtr rfl),(WkV.nilsO _),(sm rfl),(sm rfl),(sm rfl),tv⟩ ⟨⟨_,rfl,rfl,(.same rfl)⟩,tv⟩ rfl) (fun k41 z h=>?_)
       ·obtain ⟨l39,x40⟩:=z
        replace h : _ = some _:=h
        refine sr ((Rn.bin tv rfl rfl rfl (nt ((Tr.seq ?_)))))
        refine Tr.cond rfl (fun hb42=>?_) (fun hb42=>?_)
        ·replace h:=ifT hb42 h
         refine Tr.skip (toN ?_)
         refine Tr.cutB (fun ((l54,c55,c56) : (List (List Int)) × (List Int) × Int)=>⟨look [(2,(b_ marked3)),(3,.ptr (Γ.n0 + 3) 0),(13,.own 1 (List.map (eL 1 (eI .i64)) l54)),(78,.d (.lst 2 (List.map Qbc all38))),(79,(i_ (all38.length : Int))),(80,(i_ x40))],Qp Γ.n0 (bxs [(3,.cells ((Qd a1))),(15,.cells ([(l_ c55),(i_ c56)]))]) M,Γ.n0 + 102⟩) h (fun z h=>?_) (fun z h=>?_)
         ·refine Tr.block (Tr.seq (Tr.rgn ?_))
          obtain ⟨x43,h44,h⟩:=bnd h
          refine Rn.idxD (e:=Qbc) tv rfl rfl h44 (Rn.loadCA (vs:=(Qf6 x43)) tv rfl rfl rfl (Rn.alloc tv rfl (Rn.storeT (v:=(Q9c x43)) (ds:=(Qf6 x43)) (cs':=(Qf6 x43)) tv rfl rfl rfl rfl rfl rfl rfl (Rn.nil (toN ?_)))))
          refine Tr.cutB (fun (x48 : Bool)=>⟨look [(2,(b_ marked3)),(3,.ptr (Γ.n0 + 3) 0),(13,.own 1 (List.map (eL 1 (eI .i64)) l39)),(15,.ptr (Γ.n0 + 15) 0),(78,.d (.lst 2 (List.map Qbc all38))),(79,(i_ (all38.length : Int))),(80,(i_ x40)),(92,(b_ x48))],Qp Γ.n0 (bxs [(3,.cells ((Qd a1))),(15,.cells ((Qf6 x43)))]) M,Γ.n0 + 102⟩) h (fun z h=>?_) (fun z h=>?_)
          ·refine Tr.rgn (md rfl (Rn.un tv rfl rfl (md rfl ?_)))
           refine Qdk marked3 (fun hb45=>?_) (fun hb45=>?_)
           ·replace h:=bT hb45 h
            refine Rn.fldP (o':=2) (gw rfl (nT hb45)) rfl rfl (Rn.load (v:=(l_ a1.Marked)) (gw rfl (nT hb45)) rfl (Ql rfl) rfl rfl (Rn.fldP (o':=1) (gw rfl (nT hb45)) rfl rfl (Rn.load (v:=(i_ x43.state_)) (gw rfl (nT hb45)) rfl (Ql rfl) rfl rfl ?_)))
            obtain ⟨x47,h46,h⟩:=bnd h
            refine Rn.call (args:=[(l_ a1.Marked),(i_ x43.state_)]) (gw rfl (nT hb45)) rfl (H_slices_Contains_int _ _ _ h46) pc9 (Rn.pickF (v:=(b_ x47)) tv rfl (nT hb45) rfl (Rn.nil ?_))
            replace h:=si h; subst h
            exact Qj [] ⟨(sm rfl),(kPtr rfl),(sm rfl),(kPtr rfl),(sm rfl),(sm rfl),(sm rfl),(sm rfl),tv⟩ ⟨⟨_,rfl,rfl,(.same rfl)⟩,⟨_,rfl,rfl,(.same rfl)⟩,tv⟩ rfl
           ·replace h:=bF hb45 h
            refine Rn.sk (nw rfl (nF hb45)) (Rn.sk (nw rfl (nF hb45)) (Rn.sk (nw rfl (nF hb45)) (Rn.sk (nw rfl (nF hb45)) (Rn.sk (nw rfl (nF hb45)) (Rn.pickT (v:=(b_ true)) tv rfl (nF hb45) rfl (Rn.nil ?_))))))
            replace h:=si h; subst h
            exact Qj [] ⟨(sm rfl),(kPtr rfl),(sm rfl),(kPtr rfl),(sm rfl),(sm rfl),(sm rfl),(sm rfl),tv⟩ ⟨⟨_,rfl,rfl,(.same rfl)⟩,⟨_,rfl,rfl,(.same rfl)⟩,tv⟩ rfl
          ·obtain ⟨x48,rfl⟩ : ∃ x,x = z:=⟨_,rfl⟩
           refine Tr.cond rfl (fun hb49=>?_) (fun hb49=>?_)
           ·replace h:=bT hb49 h
            refine Tr.rgn (Rn.movTO tv rfl (Rn.bslice (xs:=[]) (cs:=[]) tv rfl rfl rfl rfl (Rn.fldP (o':=0) tv rfl rfl (Rn.load (v:=(l_ x43.word_)) tv rfl (Ql rfl) rfl rfl ?_))))
            obtain ⟨x50,h51,h⟩:=bnd h
            refine Rn.app0 (e:=(eI .i64)) tv rfl rfl rfl rfl Q0h h51 rfl (Rn.bslice (xs:=[(l_ x50)]) (cs:=[(l_ x50)]) tv rfl rfl rfl rfl ?_)
            obtain ⟨x52,h53,h⟩:=bnd h
            refine Rn.app (e:=(eL 1 (eI .i64))) tv rfl rfl rfl (Qcj rfl rfl rfl) h53 rfl (Rn.movTO tv rfl (Rn.nil ?_))
            replace h:=si h; subst h
            exact Qj [94,98] ⟨(sm rfl),(kPtr rfl),(sm rfl),(sm rfl),(sm rfl),(sm rfl),tv⟩ ⟨⟨_,rfl,rfl,(.same rfl)⟩,⟨_,rfl,rfl,(.same rfl)⟩,tv⟩ rfl
           ·replace h:=bF hb49 h
            refine Tr.skip ?_
            replace h:=si h; subst h
            exact Qj [] ⟨(sm rfl),(kPtr rfl),(sm rfl),(sm rfl),(sm rfl),(sm rfl),tv⟩ ⟨⟨_,rfl,rfl,(.same rfl)⟩,⟨_,rfl,rfl,(.same rfl)⟩,tv⟩ rfl
         ·obtain ⟨l54,c55,c56⟩:=z
          refine Tr.rgn (Rn.bin tv rfl rfl rfl (md rfl (Rn.nil ?_)))
          exact ⟨_,h,(by exact Qk ⟨(sm rfl),(kPtr rfl),(sm rfl),(sm rfl),(sm rfl),(sm rfl),tv⟩ ⟨⟨_,rfl,rfl,(.same rfl)⟩,tv⟩ rfl)⟩
        ·replace h:=ifF hb42 h
         refine Tr.exit ?_
         replace h:=si h; subst h
         exact Qj [] ⟨(sm rfl),tv⟩ ⟨⟨_,rfl,rfl,(.same rfl)⟩,tv⟩ rfl
      ·obtain ⟨l57,rfl⟩ : ∃ x,x = z:=⟨_,rfl⟩
       refine sr ((Rn.movTO tv rfl (Rn.movTO tv rfl (md rfl (nt ((Tr.ret ?_)))))))
       replace h:=si h; subst h
       exact ⟨.inr rfl,.tup [.own 1 (List.map (eL 1 (eI .i64)) l57),(i_ 0)],res2 rfl rfl,(WkV.tup (.cons (.same rfl) (.cons (.same rfl) .nil))).rd,⟨tv,tv,tv⟩,fun k hk=>Qg hk⟩
theorem Qzt {P : Program} {c : Nat} (hcf : Qs P c = some Qix) (fuel : Nat) : Qiw P c (Qcy fuel):=by
 intro l1 n2 r h
 refine Qci hcf rfl fun Γ M hP hnt hM=>?_
 subst hP
 refine Tr.init [(0,(l_ l1)),(1,(i_ n2))] rfl ?_
 unfold Qcy at h
 unfold Qix
 refine sr ((md rfl (nt ((Tr.seq (sr ((md rfl (nt ((Tr.block ?_)))))))))))
 refine Tr.loop (mk:=fun (i3 : Int)=>⟨look [(0,(l_ l1)),(1,(i_ n2)),(5,(i_ i3))],Qp Γ.n0 (bxs []) M,Γ.n0 + 18⟩) h (by exact Qk ⟨(sm rfl),(sm rfl),(sm rfl),tv⟩ tv rfl) (fun k4 z h=>?_)
 ·obtain ⟨i3,rfl⟩ : ∃ x,x = z:=⟨_,rfl⟩
  replace h : _ = some _:=h
  refine Tr.seq (sr ((md rfl (md rfl (Rn.lenD tv rfl (Rn.bin tv rfl rfl rfl (Rn.nil (toN ?_))))))))
  refine Tr.cond rfl (fun hb5=>?_) (fun hb5=>?_)
  ·replace h:=ifT hb5 h
   refine Tr.skip (toN (Tr.seq (Tr.block (sr ((md rfl (md rfl ?_)))))))
   obtain ⟨x6,h7,h⟩:=bnd h
   refine Rn.idxD (e:=(eI .i64)) tv rfl rfl h7 (Rn.loadC (x:=.int .i64 x6) tv rfl (md rfl (Rn.bin tv rfl rfl rfl (Rn.nil (toN ?_)))))
   refine Tr.cond rfl (fun hb8=>?_) (fun hb8=>?_)
   ·replace h:=bT hb8 h
    refine sr ((md rfl (nt ((Tr.ret ?_)))))
    replace h:=si h; subst h
    exact ⟨.inr rfl,(b_ true),rfl,fun _ _ _ _ h=>h,tv,fun k hk=>Qg hk⟩
   ·replace h:=bF hb8 h
    refine Tr.skip (toN (Tr.rgn (md rfl (Rn.bin tv rfl rfl rfl (md rfl (Rn.nil ?_))))))
    exact ⟨_,h,(by exact Qk ⟨(sm rfl),(sm rfl),(sm rfl),tv⟩ tv rfl)⟩
  ·replace h:=ifF hb5 h
   refine Tr.exit (toN (sr ((md rfl (nt ((Tr.ret ?_)))))))
   replace h:=si h; subst h
   exact ⟨.inr rfl,(b_ false),rfl,fun _ _ _ _ h=>h,tv,fun k hk=>Qg hk⟩
theorem Qqb {P : Program} {c : Nat} {Qcy : (List Int) → Int → Option Bool}
    (H_overseerref07_has : Qiw P 45 Qcy) (hcf : Qs P c = some Qgg) (fuel : Nat) : Qgf P c (Qbu Qcy fuel):=by
 intro onto1 word2 r h
 refine Qci hcf rfl fun Γ M hP hnt hM=>?_
 subst hP
 refine Tr.init [(0,(l_ onto1)),(1,(l_ word2))] rfl ?_
 unfold Qbu at h
 unfold Qgg
 refine sr ((Rn.movTC (v:=.nils 1) tv (nt ((sr ((Rn.movTC (v:=.nils 1) tv (Rn.nil (toN ?_)))))))))
 refine Tr.cutB (fun (out17 : List Int)=>⟨look [(5,(o_ out17))],Qp Γ.n0 (bxs []) M,Γ.n0 + 27⟩) h (fun z h=>?_) (fun z h=>?_)
 ·refine sr ((md rfl (nt ((Tr.block ?_)))))
  refine Tr.loop (mk:=fun ((out3,i4) : (List Int) × Int)=>⟨look [(0,(l_ onto1)),(1,(l_ word2)),(5,(o_ out3)),(6,(i_ i4))],Qp Γ.n0 (bxs []) M,Γ.n0 + 27⟩) h (by exact Qk ⟨(sm rfl),(sm rfl),(WkV.nilsO _),(sm rfl),tv⟩ tv rfl) (fun k5 z h=>?_)
  ·obtain ⟨out3,i4⟩:=z
   replace h : _ = some _:=h
   refine Tr.seq (sr ((md rfl (md rfl (Rn.lenD tv rfl (Rn.bin tv rfl rfl rfl (Rn.nil (toN ?_))))))))
   refine Tr.cond rfl (fun hb6=>?_) (fun hb6=>?_)
   ·replace h:=ifT hb6 h
    refine Tr.skip (toN ?_)
    refine Tr.cutB (fun (out16 : List Int)=>⟨look [(0,(l_ onto1)),(1,(l_ word2)),(5,(o_ out16)),(6,(i_ i4))],Qp Γ.n0 (bxs []) M,Γ.n0 + 27⟩) h (fun z h=>?_) (fun z h=>?_)
    ·refine Tr.block (sr ((md rfl (md rfl (md rfl ?_)))))
     obtain ⟨x7,h8,h⟩:=bnd h
     refine Rn.idxD (e:=(eI .i64)) tv rfl rfl h8 (Rn.loadC (x:=.int .i64 x7) tv rfl ?_)
     obtain ⟨x10,h9,h⟩:=bnd h
     refine Rn.call (args:=[(l_ onto1),(i_ x7)]) tv rfl (H_overseerref07_has _ _ _ h9) pc9 (Rn.nil (toN ?_))
     refine Tr.cond rfl (fun hb11=>?_) (fun hb11=>?_)
     ·replace h:=bT hb11 h
      refine Tr.rgn (Rn.movTO tv rfl (md rfl (md rfl ?_)))
      obtain ⟨x12,h13,h⟩:=bnd h
      refine Rn.idxD (e:=(eI .i64)) tv rfl rfl h13 (Rn.loadC (x:=.int .i64 x12) tv rfl (Rn.bslice (xs:=[(i_ x12)]) (cs:=[(i_ x12)]) tv rfl rfl rfl rfl ?_))
      obtain ⟨x14,h15,h⟩:=bnd h
      refine Rn.app (e:=(eI .i64)) tv rfl rfl rfl (Qcj rfl rfl rfl) h15 rfl (Rn.movTO tv rfl (Rn.nil ?_))
      replace h:=si h; subst h
      exact Qj [24] ⟨(sm rfl),(sm rfl),(sm rfl),(sm rfl),tv⟩ tv rfl
     ·replace h:=bF hb11 h
      refine Tr.skip ?_
      replace h:=si h; subst h
      exact Qj [] ⟨(sm rfl),(sm rfl),(sm rfl),(sm rfl),tv⟩ tv rfl
    ·obtain ⟨out16,rfl⟩ : ∃ x,x = z:=⟨_,rfl⟩
     refine Tr.rgn (md rfl (Rn.bin tv rfl rfl rfl (md rfl (Rn.nil ?_))))
     exact ⟨_,h,(by exact Qk ⟨(sm rfl),(sm rfl),(sm rfl),(sm rfl),tv⟩ tv rfl)⟩
   ·replace h:=ifF hb6 h
    refine Tr.exit ?_
    replace h:=si h; subst h
    exact Qj [] ⟨(sm rfl),tv⟩ tv rfl
 ·obtain ⟨out17,rfl⟩ : ∃ x,x = z:=⟨_,rfl⟩
  refine sr ((Rn.movTO tv rfl (Rn.movTO tv rfl (nt ((Tr.ret ?_))))))
  replace h:=si h; subst h
  exact ⟨.inr rfl,(o_ out17),rfl,fun _ _ _ _ h=>h,tv,fun k hk=>Qg hk⟩
theorem Qrm {P : Program} {c : Nat} {Qt : Qb → Option Int}
    (H_automaton_Check : Qd4 P 46 Qt) (hcf : Qs P c = some Qg2) : Qg1 P c (Qb1 Qt):=by
 intro a1 state2 r h
 refine Qci hcf rfl fun Γ M hP hnt hM=>?_
 subst hP
 refine Tr.init [(0,(Qa a1)),(1,(i_ state2))] rfl ?_
 unfold Qb1 at h
 unfold Qg2
 refine sr ((Rn.box (v:=(Qa a1)) (cs:=(Qd a1)) tv rfl rfl rfl rfl rfl (md rfl (nt ((Tr.seq (sr ((Rn.load (v:=(Qa a1)) tv rfl (Ql rfl) rfl rfl ?_)))))))))
 obtain ⟨x4,h3,h⟩:=bnd h
 refine Rn.call (args:=[(Qa a1)]) tv rfl (H_automaton_Check _ _ h3) pc9 (md rfl (nt ((sr ((md rfl (Rn.bin tv rfl rfl rfl (Rn.nil (toN ?_)))))))))
 refine Tr.cond rfl (fun hb5=>?_) (fun hb5=>?_)
 ·replace h:=bT hb5 h
  refine sr ((md rfl (md rfl (nt ((Tr.ret ?_))))))
  replace h:=si h; subst h
  exact ⟨.inr rfl,(i_ x4),rfl,fun _ _ _ _ h=>h,tv,fun k hk=>Qg hk⟩
 ·replace h:=bF hb5 h
  refine Tr.skip (toN (Tr.seq ?_))
  refine Tr.cutB (fun (x7 : Bool)=>⟨look [(18,(b_ x7))],Qp Γ.n0 (bxs [(2,.cells ((Qd a1)))]) M,Γ.n0 + 19⟩) h (fun z h=>?_) (fun z h=>?_)
  ·refine Tr.rgn (md rfl (Rn.bin tv rfl rfl rfl (md rfl ?_)))
   refine Qdk (decide (state2 < 0)) (fun hb6=>?_) (fun hb6=>?_)
   ·replace h:=ifT hb6 h
    refine Rn.sk (nw rfl hb6) (Rn.sk (nw rfl hb6) (Rn.sk (nw rfl hb6) (Rn.sk (nw rfl hb6) (Rn.pickT (v:=(b_ true)) tv rfl hb6 rfl (Rn.nil ?_)))))
    replace h:=si h; subst h
    exact Qj [] ⟨(sm rfl),tv⟩ ⟨⟨_,rfl,rfl,(.same rfl)⟩,tv⟩ rfl
   ·replace h:=ifF hb6 h
    refine Rn.movD (gw rfl hb6) rfl (Rn.fldP (o':=1) (gw rfl hb6) rfl rfl (Rn.load (v:=(i_ a1.States)) (gw rfl hb6) rfl (Ql rfl) rfl rfl (Rn.bin (gw rfl hb6) rfl rfl rfl (Rn.pickF (v:=(b_ (decide (state2 ≥ a1.States)))) tv rfl hb6 rfl (Rn.nil ?_)))))
    replace h:=si h; subst h
    exact Qj [] ⟨(sm rfl),tv⟩ ⟨⟨_,rfl,rfl,(.same rfl)⟩,tv⟩ rfl
  ·obtain ⟨x7,rfl⟩ : ∃ x,x = z:=⟨_,rfl⟩
   refine Tr.cond rfl (fun hb8=>?_) (fun hb8=>?_)
   ·replace h:=bT hb8 h
    refine sr ((md rfl (nt ((Tr.ret ?_)))))
    replace h:=si h; subst h
    exact ⟨.inr rfl,(i_ 2),rfl,fun _ _ _ _ h=>h,tv,fun k hk=>Qg hk⟩
   ·replace h:=bF hb8 h
    refine Tr.skip (toN (sr ((md rfl (nt ((Tr.ret ?_)))))))
    replace h:=si h; subst h
    exact ⟨.inr rfl,(i_ 0),rfl,fun _ _ _ _ h=>h,tv,fun k hk=>Qg hk⟩
theorem Q5a {P : Program} {c : Nat} {Qf : (List Int) → Int → Option Bool}
    (H_slices_Contains_int : Qbk P 56 Qf) (hcf : Qs P c = some Qlo) : Qln P c (Qc7 Qf):=by
 intro x1 x2 k3 r h
 intro M nb hk4
 refine Qbac hcf rfl M nb fun Γ hP hnt hn0 hM=>?_
 subst hP hn0
 refine Tr.init [(0,(i_ x1)),(1,.ptr k3 0)] rfl ?_
 unfold Qc7 at h
 unfold Qlo
 refine sr ((md rfl (nt ((sr ((Rn.fldP (o':=0) tv rfl rfl (Rn.load (v:=(l_ x2.Alphabet)) tv rfl (Qbem hM hk4) rfl rfl (md rfl ?_)))))))))
 obtain ⟨x6,h5,h⟩:=bnd h
 refine Rn.call (args:=[(l_ x2.Alphabet),(i_ x1)]) tv rfl (H_slices_Contains_int _ _ _ h5) pc9 (Rn.un tv rfl rfl (md rfl (nt ((Tr.ret ?_)))))
 replace h:=si h; subst h
 exact ⟨.inr rfl,(b_ (!x6)),rfl,fun _ _ _ _ h=>h,tv,fun k hk=>Qg hk⟩
theorem Q11 {P : Program} {c : Nat} (hcf : Qs P c = some Qj3) : Qj2 P c (Qct):=by
 intro x1 x2 k3 r h
 intro M nb hk4
 refine Qbac hcf rfl M nb fun Γ hP hnt hn0 hM=>?_
 subst hP hn0
 refine Tr.init [(0,(Qbp x1)),(1,.ptr k3 0)] rfl ?_
 unfold Qct at h
 unfold Qj3
 refine sr ((Rn.box (v:=(Qbp x1)) (cs:=(Qbg x1)) tv rfl rfl rfl rfl rfl (md rfl (nt ((sr ((Rn.fldP (o':=1) tv rfl rfl (Rn.load (v:=(i_ x1.Event)) tv rfl (Ql rfl) rfl rfl (Rn.load (v:=(i_ x2)) tv rfl (Qbem hM hk4) rfl rfl (Rn.bin tv rfl rfl rfl (md rfl (nt ((Tr.ret ?_)))))))))))))))
 replace h:=si h; subst h
 exact ⟨.inr rfl,(b_ (x1.Event == x2)),rfl,fun _ _ _ _ h=>h,tv,fun k hk=>Qg hk⟩
theorem Qqc {P : Program} {c : Nat} (hcf : Qs P c = some Qgi) (fuel : Nat) : Qgh P c (Qbv fuel):=by
 intro s1 f2 g3 cp4 r h
 intro M nb hc5 ho7 hf6
 refine Qbac hcf rfl M nb fun Γ hP hnt hn0 hM=>?_
 subst hP hn0
 refine Tr.init [(0,.d (.lst 3 (List.map Qc s1))),(1,.clo g3 cp4)] rfl ?_
 unfold Qbv at h
 unfold Qgi
 refine sr ((md rfl (nt ((Tr.seq (sr ((md rfl (Rn.lenD tv rfl (md rfl (nt ((Tr.block ?_)))))))))))))
 refine Tr.loop (mk:=fun (x9 : Int)=>⟨look [(0,.d (.lst 3 (List.map Qc s1))),(1,.clo g3 cp4),(7,(i_ (s1.length : Int))),(8,(i_ x9))],Qp Γ.n0 (bxs []) M,Γ.n0 + 19⟩) h (by exact Qk ⟨(sm rfl),(kFun hM ho7),(sm rfl),(sm rfl),tv⟩ tv rfl) (fun k10 z h=>?_)
 ·obtain ⟨x9,rfl⟩ : ∃ x,x = z:=⟨_,rfl⟩
  replace h : _ = some _:=h
  refine sr ((Rn.bin tv rfl rfl rfl (nt ((Tr.seq ?_)))))
  refine Tr.cond rfl (fun hb11=>?_) (fun hb11=>?_)
  ·replace h:=ifT hb11 h
   refine Tr.skip (toN (Tr.seq (Tr.block (sr ((md rfl (md rfl (nt ((sr ((Rn.mov (v:=.clo g3 cp4) tv rfl (md rfl (md rfl ?_))))))))))))))
   obtain ⟨x12,h13,h⟩:=bnd h
   refine Rn.idxD (e:=Qc) tv rfl rfl h13 (Rn.loadCA (vs:=(Qbg x12)) tv rfl rfl rfl ?_)
   obtain ⟨x15,h14,h⟩:=bnd h
   refine Rn.callvM (args:=[(Qbp x12)] ++ cp4) tv rfl (by rw [hc5]; rfl) (fun M2 nb2 hn hx=>hf6 _ _ h14 M2 nb2 (by omega) ((Qbbn hM).trans hx)) rfl pc9 ?_
   refine Rn.nil (toN ?_)
   refine Tr.cond rfl (fun hb16=>?_) (fun hb16=>?_)
   ·replace h:=bT hb16 h
    refine sr ((md rfl (md rfl (nt ((Tr.ret ?_))))))
    replace h:=si h; subst h
    exact ⟨.inr rfl,(i_ x9),rfl,fun _ _ _ _ h=>h,tv,fun k hk=>Qg hk⟩
   ·replace h:=bF hb16 h
    refine Tr.skip (toN (Tr.rgn (Rn.bin tv rfl rfl rfl (md rfl (Rn.nil ?_)))))
    exact ⟨_,h,(by exact Qk ⟨(sm rfl),(kFun hM ho7),(sm rfl),(sm rfl),tv⟩ tv rfl)⟩
  ·replace h:=ifF hb11 h
   refine Tr.exit (toN (sr ((md rfl (nt ((Tr.ret ?_)))))))
   replace h:=si h; subst h
   exact ⟨.inr rfl,(i_ (-1)),rfl,fun _ _ _ _ h=>h,tv,fun k hk=>Qg hk⟩
theorem Q65 {P : Program} {c : Nat} {Qbh : Qb → Int → Option ((List Qe))} {Qbv : (List Qe) → (Qe → Option Bool) → Option Int} {Qct : Qe → Int → Option Bool}
    (H_automaton_out : Qhg P 54 Qbh)
    (H_slices_IndexFunc_Edge : Qgh P 99 Qbv)
    (H_automaton_next_1 : Qj2 P 100 Qct) (hcf : Qs P c = some Qm6) : Qm5 P c (Qdh Qbh Qbv Qct):=by
 intro a1 state2 event3 r h
 refine Qci hcf rfl fun Γ M hP hnt hM=>?_
 subst hP
 refine Tr.init [(0,(Qa a1)),(1,(i_ state2)),(2,(i_ event3))] rfl ?_
 unfold Qdh at h
 unfold Qm6
 refine sr ((Rn.box (v:=(Qa a1)) (cs:=(Qd a1)) tv rfl rfl rfl rfl rfl (Rn.box (v:=(i_ event3)) (cs:=[(i_ event3)]) tv rfl rfl rfl rfl rfl (md rfl (nt ((sr ((Rn.load (v:=(Qa a1)) tv rfl (Ql rfl) rfl rfl (md rfl ?_))))))))))
 obtain ⟨x5,h4,h⟩:=bnd h
 refine Rn.call (args:=[(Qa a1),(i_ state2)]) tv rfl (H_automaton_out _ _ _ h4) pc9 (Rn.movTD tv rfl (nt ((sr ((md rfl (Rn.k (v:=.clo 100 [.ptr (Γ.n0 + 5) 0]) tv rfl rfl rfl ?_)))))))
 obtain ⟨x10,h9,h⟩:=bnd h
 refine Rn.callM (args:=[.d (.lst 3 (List.map Qc x5)),.clo 100 [.ptr (Γ.n0 + 5) 0]]) tv rfl (fun M2 nb2 hn hx=>H_slices_IndexFunc_Edge _ _ 100 [.ptr (Γ.n0 + 5) 0] _ h9 M2 nb2 rfl ⟨Qbbo (hx _ _ (Ql rfl)),tv⟩ (fun a6 r7 h8 M3 nb3 hn3 hx3=>H_automaton_next_1 a6 event3 (Γ.n0 + 5) r7 h8 M3 nb3 ((hx.trans hx3) _ _ (Ql rfl)))) rfl pc9 ?_
 refine md rfl (nt ((Tr.seq (sr ((md rfl (Rn.bin tv rfl rfl rfl (Rn.nil (toN ?_)))))))))
 refine Tr.cond rfl (fun hb11=>?_) (fun hb11=>?_)
 ·replace h:=ifT hb11 h
  refine sr ((md rfl (nt ((Tr.ret ?_)))))
  replace h:=si h; subst h
  exact ⟨.inr rfl,(i_ (-1)),rfl,fun _ _ _ _ h=>h,tv,fun k hk=>Qg hk⟩
 ·replace h:=ifF hb11 h
  refine Tr.skip (toN (sr ((md rfl (md rfl ?_)))))
  obtain ⟨x12,h13,h⟩:=bnd h
  refine Rn.idxD (e:=Qc) tv rfl rfl h13 (Rn.fldC tv rfl (Rn.loadC (x:=.int .i64 x12.To) tv rfl (md rfl (nt ((Tr.ret ?_))))))
  replace h:=si h; subst h
  exact ⟨.inr rfl,(i_ x12.To),rfl,fun _ _ _ _ h=>h,tv,fun k hk=>Qg hk⟩
theorem Q12 {P : Program} {c : Nat} {Qdh : Qb → Int → Int → Option Int}
    (H_automaton_next : Qm5 P 90 Qdh) (hcf : Qs P c = some Qj4) (fuel : Nat) : Qg6 P c (Qbn Qdh fuel):=by
 intro a1 state2 word3 r h
 refine Qci hcf rfl fun Γ M hP hnt hM=>?_
 subst hP
 refine Tr.init [(0,(Qa a1)),(1,(i_ state2)),(2,(l_ word3))] rfl ?_
 unfold Qbn at h
 unfold Qj4
 refine sr ((Rn.box (v:=(Qa a1)) (cs:=(Qd a1)) tv rfl rfl rfl rfl rfl (md rfl (md rfl (nt ((Tr.seq (sr ((md rfl (Rn.lenD tv rfl (md rfl (nt ((Tr.block ?_)))))))))))))))
 refine Tr.loop (mk:=fun ((state4,x5) : Int × Int)=>⟨look [(1,(i_ state4)),(2,(l_ word3)),(3,.ptr (Γ.n0 + 3) 0),(11,(l_ word3)),(12,(i_ (word3.length : Int))),(13,(i_ x5))],Qp Γ.n0 (bxs [(3,.cells ((Qd a1)))]) M,Γ.n0 + 31⟩) h (by exact Qk ⟨(sm rfl),(sm rfl),(kPtr rfl),(sm rfl),(sm rfl),(sm rfl),tv⟩ ⟨⟨_,rfl,rfl,(.same rfl)⟩,tv⟩ rfl) (fun k6 z h=>?_)
 ·obtain ⟨state4,x5⟩:=z
  replace h : _ = some _:=h
  refine sr ((Rn.bin tv rfl rfl rfl (nt ((Tr.seq ?_)))))
  refine Tr.cond rfl (fun hb7=>?_) (fun hb7=>?_)
  ·replace h:=ifT hb7 h
   refine Tr.skip (toN (Tr.seq (Tr.block (sr ((md rfl ?_))))))
   obtain ⟨x8,h9,h⟩:=bnd h
   refine Rn.idxD (e:=(eI .i64)) tv rfl rfl h9 (Rn.loadC (x:=.int .i64 x8) tv rfl (md rfl (md rfl (nt ((sr ((Rn.load (v:=(Qa a1)) tv rfl (Ql rfl) rfl rfl (md rfl (md rfl ?_))))))))))
   obtain ⟨x11,h10,h⟩:=bnd h
   refine Rn.call (args:=[(Qa a1),(i_ state4),(i_ x8)]) tv rfl (H_automaton_next _ _ _ _ h10) pc9 (md rfl (nt ((Tr.seq (sr ((md rfl (Rn.bin tv rfl rfl rfl (Rn.nil (toN ?_))))))))))
   refine Tr.cond rfl (fun hb12=>?_) (fun hb12=>?_)
   ·replace h:=ifT hb12 h
    refine sr ((md rfl (md rfl (md rfl (md rfl (nt ((Tr.ret ?_))))))))
    replace h:=si h; subst h
    exact ⟨.inr rfl,.tup [(i_ state4),(i_ x5)],res2 rfl rfl,(WkV.tup (.cons (.same rfl) (.cons (.same rfl) .nil))).rd,⟨tv,tv,tv⟩,fun k hk=>Qg hk⟩
   ·replace h:=ifF hb12 h
    refine Tr.skip (toN (Tr.rgn (md rfl (md rfl (nt ((Tr.rgn (Rn.bin tv rfl rfl rfl (md rfl (Rn.nil ?_))))))))))
    exact ⟨_,h,(by exact Qk ⟨(sm rfl),(sm rfl),(kPtr rfl),(sm rfl),(sm rfl),(sm rfl),tv⟩ ⟨⟨_,rfl,rfl,(.same rfl)⟩,tv⟩ rfl)⟩
  ·replace h:=ifF hb7 h
   refine Tr.exit (toN (sr ((md rfl (md rfl (Rn.lenD tv rfl (md rfl (md rfl (nt ((Tr.ret ?_)))))))))))
   replace h:=si h; subst h
   exact ⟨.inr rfl,.tup [(i_ state4),(i_ (word3.length : Int))],res2 rfl rfl,(WkV.tup (.cons (.same rfl) (.cons (.same rfl) .nil))).rd,⟨tv,tv,tv⟩,fun k hk=>Qg hk⟩
theorem Q8e {P : Program} {c : Nat} {Qb1 : Qb → Int → Option Int} {Qr : (List Int) → (Int → Option Bool) → Option Bool} {Qc7 : Int → Qb → Option Bool} {Qbn : Qb → Int → (List Int) → Option (Int × Int)}
    (H_automaton_checkState : Qg1 P 57 Qb1)
    (H_slices_ContainsFunc_int : Qdf P 58 Qr)
    (H_automaton_Run_1 : Qln P 59 Qc7)
    (H_automaton_follow : Qg6 P 60 Qbn) (hcf : Qs P c = some Qps) : Qpr P c (Qdg Qb1 Qr Qc7 Qbn):=by
 intro a1 xfrom2 word3 r h
 refine Qci hcf rfl fun Γ M hP hnt hM=>?_
 subst hP
 refine Tr.init [(0,(Qa a1)),(1,(i_ xfrom2)),(2,(l_ word3))] rfl ?_
 unfold Qdg at h
 unfold Qps
 refine sr ((Rn.box (v:=(Qa a1)) (cs:=(Qd a1)) tv rfl rfl rfl rfl rfl (md rfl (md rfl (md rfl (nt ((Tr.seq (sr ((Rn.load (v:=(Qa a1)) tv rfl (Ql rfl) rfl rfl (md rfl ?_))))))))))))
 obtain ⟨x5,h4,h⟩:=bnd h
 refine Rn.call (args:=[(Qa a1),(i_ xfrom2)]) tv rfl (H_automaton_checkState _ _ _ h4) pc9 (md rfl (nt ((sr ((md rfl (Rn.bin tv rfl rfl rfl (Rn.nil (toN ?_)))))))))
 refine Tr.cond rfl (fun hb6=>?_) (fun hb6=>?_)
 ·replace h:=bT hb6 h
  refine sr ((md rfl (md rfl (md rfl (md rfl (nt ((Tr.ret ?_))))))))
  replace h:=si h; subst h
  exact ⟨.inr rfl,.tup [(i_ 0),(i_ 0),(i_ x5)],res3 rfl rfl rfl,(WkV.tup (.cons (.same rfl) (.cons (.same rfl) (.cons (.same rfl) .nil)))).rd,⟨tv,tv,tv,tv⟩,fun k hk=>Qg hk⟩
 ·replace h:=bF hb6 h
  refine Tr.skip (toN (Tr.seq (sr ((md rfl (Rn.k (v:=.clo 59 [.ptr (Γ.n0 + 3) 0]) tv rfl rfl rfl ?_))))))
  obtain ⟨x11,h10,h⟩:=bnd h
  refine Rn.callM (args:=[(l_ word3),.clo 59 [.ptr (Γ.n0 + 3) 0]]) tv rfl (fun M2 nb2 hn hx=>H_slices_ContainsFunc_int _ _ 59 [.ptr (Γ.n0 + 3) 0] _ h10 M2 nb2 rfl ⟨Qbbo (hx _ _ (Ql rfl)),tv⟩ (fun a7 r8 h9 M3 nb3 hn3 hx3=>H_automaton_Run_1 a7 a1 (Γ.n0 + 3) r8 h9 M3 nb3 ((hx.trans hx3) _ _ (Ql rfl)))) rfl pc9 ?_
  refine Rn.nil (toN ?_)
  refine Tr.cond rfl (fun hb12=>?_) (fun hb12=>?_)
  ·replace h:=bT hb12 h
   refine sr ((md rfl (md rfl (md rfl (nt ((Tr.ret ?_)))))))
   replace h:=si h; subst h
   exact ⟨.inr rfl,.tup [(i_ 0),(i_ 0),(i_ 9)],res3 rfl rfl rfl,(WkV.tup (.cons (.same rfl) (.cons (.same rfl) (.cons (.same rfl) .nil)))).rd,⟨tv,tv,tv,tv⟩,fun k hk=>Qg hk⟩
  ·replace h:=bF hb12 h
   refine Tr.skip (toN (sr ((Rn.load (v:=(Qa a1)) tv rfl (Ql rfl) rfl rfl (md rfl (md rfl ?_))))))
   obtain ⟨⟨r14,r15⟩,h13,h⟩:=bnd h
   refine Rn.call (args:=[(Qa a1),(i_ xfrom2),(l_ word3)]) tv rfl (H_automaton_follow _ _ _ _ h13) pc9 (Rn.mov (v:=.tup [(i_ r14),(i_ r15)]) tv rfl (Rn.ext (v:=(i_ r14)) (vs:=[(i_ r14),(i_ r15)]) tv rfl rfl rfl (Rn.ext (v:=(i_ r15)) (vs:=[(i_ r14),(i_ r15)]) tv rfl rfl rfl (md rfl (md rfl (nt ((sr ((md rfl (md rfl (md rfl (md rfl (md rfl (nt ((Tr.ret ?_)))))))))))))))))
   replace h:=si h; subst h
   exact ⟨.inr rfl,.tup [(i_ r14),(i_ r15),(i_ 0)],res3 rfl rfl rfl,(WkV.tup (.cons (.same rfl) (.cons (.same rfl) (.cons (.same rfl) .nil)))).rd,⟨tv,tv,tv,tv⟩,fun k hk=>Qg hk⟩
theorem Qzu {P : Program} {c : Nat} (hcf : Qs P c = some Qiz) (fuel : Nat) : Qiy P c (Qcz fuel):=by
 intro l1 n2 r h
 refine Qci hcf rfl fun Γ M hP hnt hM=>?_
 subst hP
 refine Tr.init [(0,(l_ l1)),(1,(i_ n2))] rfl ?_
 unfold Qcz at h
 unfold Qiz
 refine sr ((md rfl (nt ((Tr.seq (sr ((md rfl (nt ((Tr.block ?_)))))))))))
 refine Tr.loop (mk:=fun (i3 : Int)=>⟨look [(0,(l_ l1)),(1,(i_ n2)),(5,(i_ i3))],Qp Γ.n0 (bxs []) M,Γ.n0 + 18⟩) h (by exact Qk ⟨(sm rfl),(sm rfl),(sm rfl),tv⟩ tv rfl) (fun k4 z h=>?_)
 ·obtain ⟨i3,rfl⟩ : ∃ x,x = z:=⟨_,rfl⟩
  replace h : _ = some _:=h
  refine Tr.seq (sr ((md rfl (md rfl (Rn.lenD tv rfl (Rn.bin tv rfl rfl rfl (Rn.nil (toN ?_))))))))
  refine Tr.cond rfl (fun hb5=>?_) (fun hb5=>?_)
  ·replace h:=ifT hb5 h
   refine Tr.skip (toN (Tr.seq (Tr.block (sr ((md rfl (md rfl ?_)))))))
   obtain ⟨x6,h7,h⟩:=bnd h
   refine Rn.idxD (e:=(eI .i64)) tv rfl rfl h7 (Rn.loadC (x:=.int .i64 x6) tv rfl (md rfl (Rn.bin tv rfl rfl rfl (Rn.nil (toN ?_)))))
   refine Tr.cond rfl (fun hb8=>?_) (fun hb8=>?_)
   ·replace h:=bT hb8 h
    refine sr ((md rfl (nt ((Tr.ret ?_)))))
    replace h:=si h; subst h
    exact ⟨.inr rfl,(b_ true),rfl,fun _ _ _ _ h=>h,tv,fun k hk=>Qg hk⟩
   ·replace h:=bF hb8 h
    refine Tr.skip (toN (Tr.rgn (md rfl (Rn.bin tv rfl rfl rfl (md rfl (Rn.nil ?_))))))
    exact ⟨_,h,(by exact Qk ⟨(sm rfl),(sm rfl),(sm rfl),tv⟩ tv rfl)⟩
  ·replace h:=ifF hb5 h
   refine Tr.exit (toN (sr ((md rfl (nt ((Tr.ret ?_)))))))
   replace h:=si h; subst h
   exact ⟨.inr rfl,(b_ false),rfl,fun _ _ _ _ h=>h,tv,fun k hk=>Qg hk⟩
theorem Qzv {P : Program} {c : Nat} {Qbn : Qb → Int → (List Int) → Option (Int × Int)}
    (H_automaton_follow : Qg6 P 60 Qbn) (hcf : Qs P c = some Qi1) : Qi0 P c (Qch Qbn):=by
 intro a1 word2 r h
 refine Qci hcf rfl fun Γ M hP hnt hM=>?_
 subst hP
 refine Tr.init [(0,(Qa a1)),(1,(l_ word2))] rfl ?_
 unfold Qch at h
 unfold Qi1
 refine sr ((Rn.box (v:=(Qa a1)) (cs:=(Qd a1)) tv rfl rfl rfl rfl rfl (md rfl (md rfl (nt ((Tr.seq (sr ((Rn.fldP (o':=1) tv rfl rfl (Rn.load (v:=(i_ a1.States)) tv rfl (Ql rfl) rfl rfl (Rn.bin tv rfl rfl rfl (Rn.nil (toN ?_))))))))))))))
 refine Tr.cond rfl (fun hb3=>?_) (fun hb3=>?_)
 ·replace h:=bT hb3 h
  refine sr ((md rfl (md rfl (nt ((Tr.ret ?_))))))
  replace h:=si h; subst h
  exact ⟨.inr rfl,.tup [(i_ 0),(b_ false)],res2 rfl rfl,(WkV.tup (.cons (.same rfl) (.cons (.same rfl) .nil))).rd,⟨tv,tv,tv⟩,fun k hk=>Qg hk⟩
 ·replace h:=bF hb3 h
  refine Tr.skip (toN (sr ((Rn.load (v:=(Qa a1)) tv rfl (Ql rfl) rfl rfl (md rfl ?_)))))
  obtain ⟨⟨r5,r6⟩,h4,h⟩:=bnd h
  refine Rn.call (args:=[(Qa a1),(i_ 0),(l_ word2)]) tv rfl (H_automaton_follow _ _ _ _ h4) pc9 (Rn.mov (v:=.tup [(i_ r5),(i_ r6)]) tv rfl (Rn.ext (v:=(i_ r5)) (vs:=[(i_ r5),(i_ r6)]) tv rfl rfl rfl (Rn.ext (v:=(i_ r6)) (vs:=[(i_ r5),(i_ r6)]) tv rfl rfl rfl (md rfl (md rfl (nt ((sr ((md rfl (md rfl (md rfl (Rn.lenD tv rfl (Rn.bin tv rfl rfl rfl (md rfl (md rfl (nt ((Tr.ret ?_)))))))))))))))))))
  replace h:=si h; subst h
  exact ⟨.inr rfl,.tup [(i_ r5),(b_ (r6 == (word2.length : Int)))],res2 rfl rfl,(WkV.tup (.cons (.same rfl) (.cons (.same rfl) .nil))).rd,⟨tv,tv,tv⟩,fun k hk=>Qg hk⟩
theorem Qzw {P : Program} {c : Nat} {Qt : Qb → Option Int} {Qf : (List Int) → Int → Option Bool} {Qch : Qb → (List Int) → Option (Int × Bool)}
    (H_automaton_Check : Qd4 P 46 Qt)
    (H_slices_Contains_int : Qbk P 56 Qf)
    (H_automaton_reached : Qi0 P 61 Qch) (hcf : Qs P c = some Qi3) : Qi2 P c (Qb7 Qt Qf Qch):=by
 intro a1 word2 r h
 refine Qci hcf rfl fun Γ M hP hnt hM=>?_
 subst hP
 refine Tr.init [(0,(Qa a1)),(1,(l_ word2))] rfl ?_
 unfold Qb7 at h
 unfold Qi3
 refine sr ((Rn.box (v:=(Qa a1)) (cs:=(Qd a1)) tv rfl rfl rfl rfl rfl (md rfl (md rfl (nt ((Tr.seq (sr ((Rn.load (v:=(Qa a1)) tv rfl (Ql rfl) rfl rfl ?_))))))))))
 obtain ⟨x4,h3,h⟩:=bnd h
 refine Rn.call (args:=[(Qa a1)]) tv rfl (H_automaton_Check _ _ h3) pc9 (md rfl (nt ((sr ((md rfl (Rn.bin tv rfl rfl rfl (Rn.nil (toN ?_)))))))))
 refine Tr.cond rfl (fun hb5=>?_) (fun hb5=>?_)
 ·replace h:=bT hb5 h
  refine sr ((md rfl (md rfl (md rfl (nt ((Tr.ret ?_)))))))
  replace h:=si h; subst h
  exact ⟨.inr rfl,.tup [(b_ false),(i_ x4)],res2 rfl rfl,(WkV.tup (.cons (.same rfl) (.cons (.same rfl) .nil))).rd,⟨tv,tv,tv⟩,fun k hk=>Qg hk⟩
 ·replace h:=bF hb5 h
  refine Tr.skip (toN (sr ((Rn.load (v:=(Qa a1)) tv rfl (Ql rfl) rfl rfl (md rfl ?_)))))
  obtain ⟨⟨r7,r8⟩,h6,h⟩:=bnd h
  refine Rn.call (args:=[(Qa a1),(l_ word2)]) tv rfl (H_automaton_reached _ _ _ h6) pc9 (Rn.mov (v:=.tup [(i_ r7),(b_ r8)]) tv rfl (Rn.ext (v:=(i_ r7)) (vs:=[(i_ r7),(b_ r8)]) tv rfl rfl rfl (Rn.ext (v:=(b_ r8)) (vs:=[(i_ r7),(b_ r8)]) tv rfl rfl rfl (md rfl (md rfl (nt ((sr ((md rfl (md rfl ?_)))))))))))
  refine Qdk r8 (fun hb9=>?_) (fun hb9=>?_)
  ·replace h:=bT hb9 h
   refine Rn.fldP (o':=2) (gw rfl hb9) rfl rfl (Rn.load (v:=(l_ a1.Marked)) (gw rfl hb9) rfl (Ql rfl) rfl rfl (Rn.movD (gw rfl hb9) rfl ?_))
   obtain ⟨x11,h10,h⟩:=bnd h
   refine Rn.call (args:=[(l_ a1.Marked),(i_ r7)]) (gw rfl hb9) rfl (H_slices_Contains_int _ _ _ h10) pc9 (Rn.pickT (v:=(b_ x11)) tv rfl hb9 rfl (md rfl (md rfl (nt ((Tr.ret ?_))))))
   replace h:=si h; subst h
   exact ⟨.inr rfl,.tup [(b_ x11),(i_ 0)],res2 rfl rfl,(WkV.tup (.cons (.same rfl) (.cons (.same rfl) .nil))).rd,⟨tv,tv,tv⟩,fun k hk=>Qg hk⟩
  ·replace h:=bF hb9 h
   refine Rn.sk (nw rfl hb9) (Rn.sk (nw rfl hb9) (Rn.sk (nw rfl hb9) (Rn.sk (nw rfl hb9) (Rn.pickF (v:=(b_ false)) tv rfl hb9 rfl (md rfl (md rfl (nt ((Tr.ret ?_)))))))))
   replace h:=si h; subst h
   exact ⟨.inr rfl,.tup [(b_ false),(i_ 0)],res2 rfl rfl,(WkV.tup (.cons (.same rfl) (.cons (.same rfl) .nil))).rd,⟨tv,tv,tv⟩,fun k hk=>Qg hk⟩
theorem Qjr {P : Program} {c : Nat} {Qcf : Option Bool} {Qb8 : (List Int) → Qba → Option Qb} {Qbm : Int → Option ((List Int))} {Qbd : Qb → (List Int) → Option (Qb × (List (List Int)) × Int)} {Qcz : (List Int) → Int → Option Bool} {Qc6 : Qb → Int → Bool → Option ((List (List Int)) × Int)} {Qbu : (List Int) → (List Int) → Option ((List Int))} {Qdg : Qb → Int → (List Int) → Option (Int × Int × Int)} {Qb7 : Qb → (List Int) → Option (Bool × Int)}
    (H_overseerlaw07_known : Qhl P 8 Qcf)
    (H_overseerlaw03_Make : Qif P 10 Qb8)
    (H_overseerlaw03_Set_Events : Qfd P 11 Qbm)
    (H_projection_Project : Qfy P 12 Qbd)
    (H_overseerlaw03_Has : Qiy P 22 Qcz)
    (H_automaton_Words : Qll P 27 Qc6)
    (H_overseerref07_Observe : Qgf P 28 Qbu)
    (H_automaton_Run : Qpr P 29 Qdg)
    (H_automaton_Accepts : Qi2 P 30 Qb7) (hcf : Qs P c = some Qd5) (fuel : Nat) : Qf8 P c (Qc8 Qcf Qb8 Qbm Qbd Qcz Qc6 Qbu Qdg Qb7 fuel):=by
 intro s1 g2 r h
 refine Qci hcf rfl fun Γ M hP hnt hM=>?_
 subst hP
 refine Tr.init [(0,.agg [.d (.int .u8 s1.1),.d (.int .u8 s1.2)]),(1,.agg [.d (.int .u8 g2.States),.d (.int .u8 g2.Marks),.d (.int .u8 g2.To.1.1),.d (.int .u8 g2.To.1.2.1),.d (.int .u8 g2.To.1.2.2.1),.d (.int .u8 g2.To.1.2.2.2.1),.d (.int .u8 g2.To.1.2.2.2.2),.d (.int .u8 g2.To.2.1.1),.d (.int .u8 g2.To.2.1.2.1),.d (.int .u8 g2.To.2.1.2.2.1),.d (.int .u8 g2.To.2.1.2.2.2.1),.d (.int .u8 g2.To.2.1.2.2.2.2),.d (.int .u8 g2.To.2.2.1.1),.d (.int .u8 g2.To.2.2.1.2.1),.d (.int .u8 g2.To.2.2.1.2.2.1),.d (.int .u8 g2.To.2.2.1.2.2.2.1),.d (.int .u8 g2.To.2.2.1.2.2.2.2),.d (.int .u8 g2.To.2.2.2.1.1),.d (.int .u8 g2.To.2.2.2.1.2.1),.d (.int .u8 g2.To.2.2.2.1.2.2.1),.d (.int .u8 g2.To.2.2.2.1.2.2.2.1),.d (.int .u8 g2.To.2.2.2.1.2.2.2.2),.d (.int .u8 g2.To.2.2.2.2.1),.d (.int .u8 g2.To.2.2.2.2.2.1),.d (.int .u8 g2.To.2.2.2.2.2.2.1),.d (.int .u8 g2.To.2.2.2.2.2.2.2.1),.d (.int .u8 g2.To.2.2.2.2.2.2.2.2)])] rfl ?_
 unfold Qc8 at h
 unfold Qd5
 refine sr ((Rn.box (v:=.agg [.d (.int .u8 s1.1),.d (.int .u8 s1.2)]) (cs:=[.d (.int .u8 s1.1),.d (.int .u8 s1.2)]) tv rfl rfl rfl rfl rfl (Rn.box (v:=.agg [.d (.int .u8 g2.States),.d (.int .u8 g2.Marks),.d (.int .u8 g2.To.1.1),.d (.int .u8 g2.To.1.2.1),.d (.int .u8 g2.To.1.2.2.1),.d (.int .u8 g2.To.1.2.2.2.1),.d (.int .u8 g2.To.1.2.2.2.2),.d (.int .u8 g2.To.2.1.1),.d (.int .u8 g2.To.2.1.2.1),.d (.int .u8 g2.To.2.1.2.2.1),.d (.int .u8 g2.To.2.1.2.2.2.1),.d (.int .u8 g2.To.2.1.2.2.2.2),.d (.int .u8 g2.To.2.2.1.1),.d (.int .u8 g2.To.2.2.1.2.1),.d (.int .u8 g2.To.2.2.1.2.2.1),.d (.int .u8 g2.To.2.2.1.2.2.2.1),.d (.int .u8 g2.To.2.2.1.2.2.2.2),.d (.int .u8 g2.To.2.2.2.1.1),.d (.int .u8 g2.To.2.2.2.1.2.1),.d (.int .u8 g2.To.2.2.2.1.2.2.1),.d (.int .u8 g2.To.2.2.2.1.2.2.2.1),.d (.int .u8 g2.To.2.2.2.1.2.2.2.2),.d (.int .u8 g2.To.2.2.2.2.1),.d (.int .u8 g2.To.2.2.2.2.2.1),.d (.int .u8 g2.To.2.2.2.2.2.2.1),.d (.int .u8 g2.To.2.2.2.2.2.2.2.1),.d (.int .u8 g2.To.2.2.2.2.2.2.2.2)]) (cs:=[.d (.int .u8 g2.States),.d (.int .u8 g2.Marks),.d (.int .u8 g2.To.1.1),.d (.int .u8 g2.To.1.2.1),.d (.int .u8 g2.To.1.2.2.1),.d (.int .u8 g2.To.1.2.2.2.1),.d (.int .u8 g2.To.1.2.2.2.2),.d (.int .u8 g2.To.2.1.1),.d (.int .u8 g2.To.2.1.2.1),.d (.int .u8 g2.To.2.1.2.2.1),.d (.int .u8 g2.To.2.1.2.2.2.1),.d (.int .u8 g2.To.2.1.2.2.2.2),.d (.int .u8 g2.To.2.2.1.1),.d (.int .u8 g2.To.2.2.1.2.1),.d (.int .u8 g2.To.2.2.1.2.2.1),.d (.int .u8 g2.To.2.2.1.2.2.2.1),.d (.int .u8 g2.To.2.2.1.2.2.2.2),.d (.int .u8 g2.To.2.2.2.1.1),.d (.int .u8 g2.To.2.2.2.1.2.1),.d (.int .u8 g2.To.2.2.2.1.2.2.1),.d (.int .u8 g2.To.2.2.2.1.2.2.2.1),.d (.int .u8 g2.To.2.2.2.1.2.2.2.2),.d (.int .u8 g2.To.2.2.2.2.1),.d (.int .u8 g2.To.2.2.2.2.2.1),.d (.int .u8 g2.To.2.2.2.2.2.2.1),.d (.int .u8 g2.To.2.2.2.2.2.2.2.1),.d (.int .u8 g2.To.2.2.2.2.2.2.2.2)]) tv rfl rfl rfl rfl rfl (md rfl (nt ((Tr.seq (Tr.seq (Tr.rgn ?_)))))))))
 obtain ⟨x4,h3,h⟩:=bnd h
 refine Rn.call (args:=[]) tv rfl (H_overseerlaw07_known _ h3) pc9 (Rn.un tv rfl rfl (Rn.nil (toN ?_)))
 refine Tr.cond rfl (fun hb5=>?_) (fun hb5=>?_)
 ·have hb5:=nT' hb5
  replace h:=bF hb5 h
  refine sr ((md rfl (nt ((Tr.ret ?_)))))
  replace h:=si h; subst h
  exact ⟨.inr rfl,(b_ false),rfl,fun _ _ _ _ h=>h,tv,fun k hk=>Qg hk⟩
 ·have hb5:=nF' hb5
  replace h:=bT hb5 h
  refine Tr.skip (toN (Tr.seq ?_))
  refine Tr.rgnD (by decide) ?_
  refine Rn.k (v:=.ptr (Γ.n0 + 2) 0) tv rfl rfl rfl (Rn.load (v:=.d (.int .u8 s1.1)) tv rfl (Ql rfl) rfl rfl ?_)
  obtain ⟨x7,h6,h⟩:=bnd h
  refine Rn.call (args:=[.d (.int .u8 s1.1)]) tv rfl (H_overseerlaw03_Set_Events _ _ h6) (fun _=>Qbde hM rfl) (Rn.load (v:=.agg [.d (.int .u8 g2.States),.d (.int .u8 g2.Marks),.d (.int .u8 g2.To.1.1),.d (.int .u8 g2.To.1.2.1),.d (.int .u8 g2.To.1.2.2.1),.d (.int .u8 g2.To.1.2.2.2.1),.d (.int .u8 g2.To.1.2.2.2.2),.d (.int .u8 g2.To.2.1.1),.d (.int .u8 g2.To.2.1.2.1),.d (.int .u8 g2.To.2.1.2.2.1),.d (.int .u8 g2.To.2.1.2.2.2.1),.d (.int .u8 g2.To.2.1.2.2.2.2),.d (.int .u8 g2.To.2.2.1.1),.d (.int .u8 g2.To.2.2.1.2.1),.d (.int .u8 g2.To.2.2.1.2.2.1),.d (.int .u8 g2.To.2.2.1.2.2.2.1),.d (.int .u8 g2.To.2.2.1.2.2.2.2),.d (.int .u8 g2.To.2.2.2.1.1),.d (.int .u8 g2.To.2.2.2.1.2.1),.d (.int .u8 g2.To.2.2.2.1.2.2.1),.d (.int .u8 g2.To.2.2.2.1.2.2.2.1),.d (.int .u8 g2.To.2.2.2.1.2.2.2.2),.d (.int .u8 g2.To.2.2.2.2.1),.d (.int .u8 g2.To.2.2.2.2.2.1),.d (.int .u8 g2.To.2.2.2.2.2.2.1),.d (.int .u8 g2.To.2.2.2.2.2.2.2.1),.d (.int .u8 g2.To.2.2.2.2.2.2.2.2)]) tv rfl (Ql rfl) rfl rfl ?_)
  obtain ⟨x9,h8,h⟩:=bnd h
  refine Rn.call (args:=[(l_ x7),.agg [.d (.int .u8 g2.States),.d (.int .u8 g2.Marks),.d (.int .u8 g2.To.1.1),.d (.int .u8 g2.To.1.2.1),.d (.int .u8 g2.To.1.2.2.1),.d (.int .u8 g2.To.1.2.2.2.1),.d (.int .u8 g2.To.1.2.2.2.2),.d (.int .u8 g2.To.2.1.1),.d (.int .u8 g2.To.2.1.2.1),.d (.int .u8 g2.To.2.1.2.2.1),.d (.int .u8 g2.To.2.1.2.2.2.1),.d (.int .u8 g2.To.2.1.2.2.2.2),.d (.int .u8 g2.To.2.2.1.1),.d (.int .u8 g2.To.2.2.1.2.1),.d (.int .u8 g2.To.2.2.1.2.2.1),.d (.int .u8 g2.To.2.2.1.2.2.2.1),.d (.int .u8 g2.To.2.2.1.2.2.2.2),.d (.int .u8 g2.To.2.2.2.1.1),.d (.int .u8 g2.To.2.2.2.1.2.1),.d (.int .u8 g2.To.2.2.2.1.2.2.1),.d (.int .u8 g2.To.2.2.2.1.2.2.2.1),.d (.int .u8 g2.To.2.2.2.1.2.2.2.2),.d (.int .u8 g2.To.2.2.2.2.1),.d (.int .u8 g2.To.2.2.2.2.2.1),.d (.int .u8 g2.To.2.2.2.2.2.2.1),.d (.int .u8 g2.To.2.2.2.2.2.2.2.1),.d (.int .u8 g2.To.2.2.2.2.2.2.2.2)]]) tv rfl (H_overseerlaw03_Make _ _ _ h8) (fun _=>Qbde hM rfl) (Rn.k (v:=.ptr (Γ.n0 + 2) 1) tv rfl rfl rfl (Rn.load (v:=.d (.int .u8 s1.2)) tv rfl (Ql rfl) rfl rfl ?_))
  obtain ⟨x11,h10,h⟩:=bnd h
  refine Rn.call (args:=[.d (.int .u8 s1.2)]) tv rfl (H_overseerlaw03_Set_Events _ _ h10) (fun _=>Qbde hM rfl) (Rn.alloc tv rfl (Rn.storeT (v:=(Qa x9)) (ds:=(Qd x9)) (cs':=(Qd x9)) tv rfl rfl rfl rfl rfl rfl rfl (Rn.movTO tv rfl ?_)))
  refine Rn.nil ⟨rfl,?_⟩
  refine toN (sr ((Rn.load (v:=(Qa x9)) tv rfl (Ql rfl) rfl rfl (Rn.mov (v:=(l_ x11)) tv rfl ?_))))
  obtain ⟨⟨r13,r14,r15⟩,h12,h⟩:=bnd h
  refine Rn.call (args:=[(Qa x9),(l_ x11)]) tv rfl (H_projection_Project _ _ _ h12) pc9 (Rn.mov (v:=.tup [(Qa r13),.d (.lst 1 (List.map (eL 1 (eI .i64)) r14)),(i_ r15)]) tv rfl (Rn.ext (v:=(Qa r13)) (vs:=[(Qa r13),.d (.lst 1 (List.map (eL 1 (eI .i64)) r14)),(i_ r15)]) tv rfl rfl rfl (Rn.extTD (vs:=[(Qa r13),.d (.lst 1 (List.map (eL 1 (eI .i64)) r14)),(i_ r15)]) tv rfl rfl rfl (Rn.ext (v:=(i_ r15)) (vs:=[(Qa r13),.d (.lst 1 (List.map (eL 1 (eI .i64)) r14)),(i_ r15)]) tv rfl rfl rfl (Rn.alloc tv rfl (Rn.storeT (v:=(Qa r13)) (ds:=(Qd r13)) (cs':=(Qd r13)) tv rfl rfl rfl rfl rfl rfl rfl (Rn.movTD tv rfl (md rfl (nt ((sr ((Rn.load (v:=(Qa x9)) tv rfl (Ql rfl) rfl rfl ?_)))))))))))))
  obtain ⟨⟨r17,r18⟩,h16,h⟩:=bnd h
  refine Rn.call (args:=[(Qa x9),(i_ 3),(b_ false)]) tv rfl (H_automaton_Words _ _ _ _ h16) pc9 (Rn.mov (v:=.tup [.d (.lst 1 (List.map (eL 1 (eI .i64)) r17)),(i_ r18)]) tv rfl (Rn.extTD (vs:=[.d (.lst 1 (List.map (eL 1 (eI .i64)) r17)),(i_ r18)]) tv rfl rfl rfl (Rn.ext (v:=(i_ r18)) (vs:=[.d (.lst 1 (List.map (eL 1 (eI .i64)) r17)),(i_ r18)]) tv rfl rfl rfl (Rn.movTD tv rfl (md rfl (nt ((Tr.seq ?_))))))))
  refine Tr.cutB (fun (x21 : Bool)=>⟨look [(5,.ptr (Γ.n0 + 5) 0),(6,(o_ x11)),(7,.ptr (Γ.n0 + 7) 0),(8,.d (.lst 1 (List.map (eL 1 (eI .i64)) r14))),(10,.d (.lst 1 (List.map (eL 1 (eI .i64)) r17))),(58,(b_ x21))],Qp Γ.n0 (bxs [(2,.cells ([.d (.int .u8 s1.1),.d (.int .u8 s1.2)])),(3,.cells ([.d (.int .u8 g2.States),.d (.int .u8 g2.Marks),.d (.int .u8 g2.To.1.1),.d (.int .u8 g2.To.1.2.1),.d (.int .u8 g2.To.1.2.2.1),.d (.int .u8 g2.To.1.2.2.2.1),.d (.int .u8 g2.To.1.2.2.2.2),.d (.int .u8 g2.To.2.1.1),.d (.int .u8 g2.To.2.1.2.1),.d (.int .u8 g2.To.2.1.2.2.1),.d (.int .u8 g2.To.2.1.2.2.2.1),.d (.int .u8 g2.To.2.1.2.2.2.2),.d (.int .u8 g2.To.2.2.1.1),.d (.int .u8 g2.To.2.2.1.2.1),.d (.int .u8 g2.To.2.2.1.2.2.1),.d (.int .u8 g2.To.2.2.1.2.2.2.1),.d (.int .u8 g2.To.2.2.1.2.2.2.2),.d (.int .u8 g2.To.2.2.2.1.1),.d (.int .u8 g2.To.2.2.2.1.2.1),.d (.int .u8 g2.To.2.2.2.1.2.2.1),.d (.int .u8 g2.To.2.2.2.1.2.2.2.1),.d (.int .u8 g2.To.2.2.2.1.2.2.2.2),.d (.int .u8 g2.To.2.2.2.2.1),.d (.int .u8 g2.To.2.2.2.2.2.1),.d (.int .u8 g2.To.2.2.2.2.2.2.1),.d (.int .u8 g2.To.2.2.2.2.2.2.2.1),.d (.int .u8 g2.To.2.2.2.2.2.2.2.2)])),(5,.cells ((Qd x9))),(7,.cells ((Qd r13)))]) M,Γ.n0 + 135⟩) h (fun z h=>?_) (fun z h=>?_)
  ·refine Tr.rgn (md rfl (Rn.bin tv rfl rfl rfl (md rfl ?_)))
   refine Qdk (r15 != 0) (fun hb19=>?_) (fun hb19=>?_)
   ·replace h:=bT hb19 h
    refine Rn.sk (nw rfl hb19) (Rn.sk (nw rfl hb19) (Rn.pickT (v:=(b_ true)) tv rfl hb19 rfl (md rfl (Rn.sk (nw (b:=true) rfl rfl) (Rn.sk (nw (b:=true) rfl rfl) (Rn.sk (nw (b:=true) rfl rfl) (Rn.sk (nw (b:=true) rfl rfl) (Rn.sk (nw (b:=true) rfl rfl) (Rn.pickT (v:=(b_ true)) tv rfl rfl rfl (Rn.nil ?_))))))))))
    replace h:=si h; subst h
    exact Qj [] ⟨(kPtr rfl),(sm rfl),(kPtr rfl),(sm rfl),(sm rfl),(sm rfl),tv⟩ ⟨⟨_,rfl,rfl,(.same rfl)⟩,⟨_,rfl,rfl,(.same rfl)⟩,⟨_,rfl,rfl,(.same rfl)⟩,⟨_,rfl,rfl,(.same rfl)⟩,tv⟩ rfl
   ·replace h:=bF hb19 h
    refine Rn.movD (gw rfl hb19) rfl (Rn.bin (gw rfl hb19) rfl rfl rfl (Rn.pickF (v:=(b_ (r18 != 0))) tv rfl hb19 rfl (md rfl ?_)))
    refine Qdk (r18 != 0) (fun hb20=>?_) (fun hb20=>?_)
    ·replace h:=bT hb20 h
     refine Rn.sk (nw rfl hb20) (Rn.sk (nw rfl hb20) (Rn.sk (nw rfl hb20) (Rn.sk (nw rfl hb20) (Rn.sk (nw rfl hb20) (Rn.pickT (v:=(b_ true)) tv rfl hb20 rfl (Rn.nil ?_))))))
     replace h:=si h; subst h
     exact Qj [] ⟨(kPtr rfl),(sm rfl),(kPtr rfl),(sm rfl),(sm rfl),(sm rfl),tv⟩ ⟨⟨_,rfl,rfl,(.same rfl)⟩,⟨_,rfl,rfl,(.same rfl)⟩,⟨_,rfl,rfl,(.same rfl)⟩,⟨_,rfl,rfl,(.same rfl)⟩,tv⟩ rfl
    ·replace h:=bF hb20 h
     refine Rn.movD (gw rfl hb20) rfl (Rn.lenD (gw rfl hb20) rfl (Rn.fldP (o':=1) (gw rfl hb20) rfl rfl (Rn.load (v:=(i_ r13.States)) (gw rfl hb20) rfl (Ql rfl) rfl rfl (Rn.bin (gw rfl hb20) rfl rfl rfl (Rn.pickF (v:=(b_ ((r14.length : Int) != r13.States))) tv rfl hb20 rfl (Rn.nil ?_))))))
     replace h:=si h; subst h
     exact Qj [] ⟨(kPtr rfl),(sm rfl),(kPtr rfl),(sm rfl),(sm rfl),(sm rfl),tv⟩ ⟨⟨_,rfl,rfl,(.same rfl)⟩,⟨_,rfl,rfl,(.same rfl)⟩,⟨_,rfl,rfl,(.same rfl)⟩,⟨_,rfl,rfl,(.same rfl)⟩,tv⟩ rfl
  ·obtain ⟨x21,rfl⟩ : ∃ x,x = z:=⟨_,rfl⟩
   refine Tr.cond rfl (fun hb22=>?_) (fun hb22=>?_)
   ·replace h:=bT hb22 h
    refine sr ((md rfl (nt ((Tr.ret ?_)))))
    replace h:=si h; subst h
    exact ⟨.inr rfl,(b_ false),rfl,fun _ _ _ _ h=>h,tv,fun k hk=>Qg hk⟩
   ·replace h:=bF hb22 h
    refine Tr.skip (toN (Tr.seq (sr ((md rfl (nt ((Tr.block ?_))))))))
    refine Tr.loop (mk:=fun (i23 : Int)=>⟨look [(5,.ptr (Γ.n0 + 5) 0),(6,(o_ x11)),(7,.ptr (Γ.n0 + 7) 0),(8,.d (.lst 1 (List.map (eL 1 (eI .i64)) r14))),(10,.d (.lst 1 (List.map (eL 1 (eI .i64)) r17))),(12,(i_ i23))],Qp Γ.n0 (bxs [(2,.cells ([.d (.int .u8 s1.1),.d (.int .u8 s1.2)])),(3,.cells ([.d (.int .u8 g2.States),.d (.int .u8 g2.Marks),.d (.int .u8 g2.To.1.1),.d (.int .u8 g2.To.1.2.1),.d (.int .u8 g2.To.1.2.2.1),.d (.int .u8 g2.To.1.2.2.2.1),.d (.int .u8 g2.To.1.2.2.2.2),.d (.int .u8 g2.To.2.1.1),.d (.int .u8 g2.To.2.1.2.1),.d (.int .u8 g2.To.2.1.2.2.1),.d (.int .u8 g2.To.2.1.2.2.2.1),.d (.int .u8 g2.To.2.1.2.2.2.2),.d (.int .u8 g2.To.2.2.1.1),.d (.int .u8 g2.To.2.2.1.2.1),.d (.int .u8 g2.To.2.2.1.2.2.1),.d (.int .u8 g2.To.2.2.1.2.2.2.1),.d (.int .u8 g2.To.2.2.1.2.2.2.2),.d (.int .u8 g2.To.2.2.2.1.1),.d (.int .u8 g2.To.2.2.2.1.2.1),.d (.int .u8 g2.To.2.2.2.1.2.2.1),.d (.int .u8 g2.To.2.2.2.1.2.2.2.1),.d (.int .u8 g2.To.2.2.2.1.2.2.2.2),.d (.int .u8 g2.To.2.2.2.2.1),.d (.int .u8 g2.To.2.2.2.2.2.1),.d (.int .u8 g2.To.2.2.2.2.2.2.1),.d (.int .u8 g2.To.2.2.2.2.2.2.2.1),.d (.int .u8 g2.To.2.2.2.2.2.2.2.2)])),(5,.cells ((Qd x9))),(7,.cells ((Qd r13)))]) M,Γ.n0 + 135⟩) h (by exact Qk ⟨(kPtr rfl),(sm rfl),(kPtr rfl),(sm rfl),(sm rfl),(sm rfl),tv⟩ ⟨⟨_,rfl,rfl,(.same rfl)⟩,⟨_,rfl,rfl,(.same rfl)⟩,⟨_,rfl,rfl,(.same rfl)⟩,⟨_,rfl,rfl,(.same rfl)⟩,tv⟩ rfl) (fun k24 z h=>?_)
    ·obtain ⟨i23,rfl⟩ : ∃ x,x = z:=⟨_,rfl⟩
     replace h : _ = some _:=h
     refine Tr.seq (sr ((md rfl (md rfl (Rn.lenD tv rfl (Rn.bin tv rfl rfl rfl (Rn.nil (toN ?_))))))))
     refine Tr.cond rfl (fun hb25=>?_) (fun hb25=>?_)
     ·replace h:=ifT hb25 h
      refine Tr.skip (toN (Tr.seq (Tr.block (sr ((Rn.mov (v:=(l_ x11)) tv rfl (md rfl (md rfl ?_))))))))
      obtain ⟨x26,h27,h⟩:=bnd h
      refine Rn.idxD (e:=(eL 1 (eI .i64))) tv rfl rfl h27 (Rn.loadC (x:=.lst 1 (List.map (eI .i64) x26)) tv rfl ?_)
      obtain ⟨x29,h28,h⟩:=bnd h
      refine Rn.call (args:=[(l_ x11),(l_ x26)]) tv rfl (H_overseerref07_Observe _ _ _ h28) pc9 (Rn.movTO tv rfl (nt ((sr ((Rn.load (v:=(Qa r13)) tv rfl (Ql rfl) rfl rfl (Rn.mov (v:=(l_ x29)) tv rfl ?_)))))))
      obtain ⟨⟨r31,r32,r33⟩,h30,h⟩:=bnd h
      refine Rn.call (args:=[(Qa r13),(i_ 0),(l_ x29)]) tv rfl (H_automaton_Run _ _ _ _ h30) pc9 (Rn.mov (v:=.tup [(i_ r31),(i_ r32),(i_ r33)]) tv rfl (Rn.ext (v:=(i_ r31)) (vs:=[(i_ r31),(i_ r32),(i_ r33)]) tv rfl rfl rfl (Rn.ext (v:=(i_ r32)) (vs:=[(i_ r31),(i_ r32),(i_ r33)]) tv rfl rfl rfl (Rn.ext (v:=(i_ r33)) (vs:=[(i_ r31),(i_ r32),(i_ r33)]) tv rfl rfl rfl (md rfl (md rfl (md rfl (nt ((Tr.seq ?_))))))))))
      refine Tr.rgnD (by decide) ?_
      refine Rn.load (v:=(Qa x9)) tv rfl (Ql rfl) rfl rfl (md rfl (md rfl ?_))
      obtain ⟨x34,h35,h⟩:=bnd h
      refine Rn.idxD (e:=(eL 1 (eI .i64))) tv rfl rfl h35 (Rn.loadC (x:=.lst 1 (List.map (eI .i64) x34)) tv rfl ?_)
      obtain ⟨⟨r37,r38,r39⟩,h36,h⟩:=bnd h
      refine Rn.call (args:=[(Qa x9),(i_ 0),(l_ x34)]) tv rfl (H_automaton_Run _ _ _ _ h36) pc0 (Rn.mov (v:=.tup [(i_ r37),(i_ r38),(i_ r39)]) tv rfl (Rn.ext (v:=(i_ r37)) (vs:=[(i_ r37),(i_ r38),(i_ r39)]) tv rfl rfl rfl (Rn.ext (v:=(i_ r38)) (vs:=[(i_ r37),(i_ r38),(i_ r39)]) tv rfl rfl rfl (Rn.ext (v:=(i_ r39)) (vs:=[(i_ r37),(i_ r38),(i_ r39)]) tv rfl rfl rfl (md rfl (md rfl (md rfl ?_)))))))
      refine Rn.nil ⟨rfl,?_⟩
      refine toN (Tr.seq ?_)
      refine Tr.cutB (fun (x48 : Bool)=>⟨look [(5,.ptr (Γ.n0 + 5) 0),(6,(o_ x11)),(7,.ptr (Γ.n0 + 7) 0),(8,.d (.lst 1 (List.map (eL 1 (eI .i64)) r14))),(10,.d (.lst 1 (List.map (eL 1 (eI .i64)) r17))),(12,(i_ i23)),(13,(o_ x29)),(114,(b_ x48))],Qp Γ.n0 (bxs [(2,.cells ([.d (.int .u8 s1.1),.d (.int .u8 s1.2)])),(3,.cells ([.d (.int .u8 g2.States),.d (.int .u8 g2.Marks),.d (.int .u8 g2.To.1.1),.d (.int .u8 g2.To.1.2.1),.d (.int .u8 g2.To.1.2.2.1),.d (.int .u8 g2.To.1.2.2.2.1),.d (.int .u8 g2.To.1.2.2.2.2),.d (.int .u8 g2.To.2.1.1),.d (.int .u8 g2.To.2.1.2.1),.d (.int .u8 g2.To.2.1.2.2.1),.d (.int .u8 g2.To.2.1.2.2.2.1),.d (.int .u8 g2.To.2.1.2.2.2.2),.d (.int .u8 g2.To.2.2.1.1),.d (.int .u8 g2.To.2.2.1.2.1),.d (.int .u8 g2.To.2.2.1.2.2.1),.d (.int .u8 g2.To.2.2.1.2.2.2.1),.d (.int .u8 g2.To.2.2.1.2.2.2.2),.d (.int .u8 g2.To.2.2.2.1.1),.d (.int .u8 g2.To.2.2.2.1.2.1),.d (.int .u8 g2.To.2.2.2.1.2.2.1),.d (.int .u8 g2.To.2.2.2.1.2.2.2.1),.d (.int .u8 g2.To.2.2.2.1.2.2.2.2),.d (.int .u8 g2.To.2.2.2.2.1),.d (.int .u8 g2.To.2.2.2.2.2.1),.d (.int .u8 g2.To.2.2.2.2.2.2.1),.d (.int .u8 g2.To.2.2.2.2.2.2.2.1),.d (.int .u8 g2.To.2.2.2.2.2.2.2.2)])),(5,.cells ((Qd x9))),(7,.cells ((Qd r13)))]) M,Γ.n0 + 135⟩) h (fun z h=>?_) (fun z h=>?_)
      ·refine Tr.rgn (md rfl (Rn.bin tv rfl rfl rfl (md rfl ?_)))
       refine Qdk (r33 != 0) (fun hb40=>?_) (fun hb40=>?_)
       ·replace h:=bT hb40 h
        refine Rn.sk (nw rfl hb40) (Rn.sk (nw rfl hb40) (Rn.pickT (v:=(b_ true)) tv rfl hb40 rfl (md rfl (Rn.sk (nw (b:=true) rfl rfl) (Rn.sk (nw (b:=true) rfl rfl) (Rn.sk (nw (b:=true) rfl rfl) (Rn.sk (nw (b:=true) rfl rfl) (Rn.pickT (v:=(b_ true)) tv rfl rfl rfl (md rfl (Rn.sk (nw (b:=true) rfl rfl) (Rn.sk (nw (b:=true) rfl rfl) (Rn.sk (nw (b:=true) rfl rfl) (Rn.sk (nw (b:=true) rfl rfl) (Rn.pickT (v:=(b_ true)) tv rfl rfl rfl (md rfl (Rn.sk (nw (b:=true) rfl rfl) (Rn.sk (nw (b:=true) rfl rfl) (Rn.sk (nw (b:=true) rfl rfl) (Rn.sk (nw (b:=true) rfl rfl) (Rn.sk (nw (b:=true) rfl rfl) (Rn.sk (nw (b:=true) rfl rfl) (Rn.sk (nw (b:=true) rfl rfl) (Rn.pickT (v:=(b_ true)) tv rfl rfl rfl (Rn.nil ?_))))))))))))))))))))))))
        replace h:=si h; subst h
        exact Qj [] ⟨(kPtr rfl),(sm rfl),(kPtr rfl),(sm rfl),(sm rfl),(sm rfl),(sm rfl),(sm rfl),tv⟩ ⟨⟨_,rfl,rfl,(.same rfl)⟩,⟨_,rfl,rfl,(.same rfl)⟩,⟨_,rfl,rfl,(.same rfl)⟩,⟨_,rfl,rfl,(.same rfl)⟩,tv⟩ rfl
       ·replace h:=bF hb40 h
        refine Rn.movD (gw rfl hb40) rfl (Rn.bin (gw rfl hb40) rfl rfl rfl (Rn.pickF (v:=(b_ (r39 != 0))) tv rfl hb40 rfl (md rfl ?_)))
        refine Qdk (r39 != 0) (fun hb41=>?_) (fun hb41=>?_)
        ·replace h:=bT hb41 h
         refine Rn.sk (nw rfl hb41) (Rn.sk (nw rfl hb41) (Rn.sk (nw rfl hb41) (Rn.sk (nw rfl hb41) (Rn.pickT (v:=(b_ true)) tv rfl hb41 rfl (md rfl (Rn.sk (nw (b:=true) rfl rfl) (Rn.sk (nw (b:=true) rfl rfl) (Rn.sk (nw (b:=true) rfl rfl) (Rn.sk (nw (b:=true) rfl rfl) (Rn.pickT (v:=(b_ true)) tv rfl rfl rfl (md rfl (Rn.sk (nw (b:=true) rfl rfl) (Rn.sk (nw (b:=true) rfl rfl) (Rn.sk (nw (b:=true) rfl rfl) (Rn.sk (nw (b:=true) rfl rfl) (Rn.sk (nw (b:=true) rfl rfl) (Rn.sk (nw (b:=true) rfl rfl) (Rn.sk (nw (b:=true) rfl rfl) (Rn.pickT (v:=(b_ true)) tv rfl rfl rfl (Rn.nil ?_))))))))))))))))))))
         replace h:=si h; subst h
         exact Qj [] ⟨(kPtr rfl),(sm rfl),(kPtr rfl),(sm rfl),(sm rfl),(sm rfl),(sm rfl),(sm rfl),tv⟩ ⟨⟨_,rfl,rfl,(.same rfl)⟩,⟨_,rfl,rfl,(.same rfl)⟩,⟨_,rfl,rfl,(.same rfl)⟩,⟨_,rfl,rfl,(.same rfl)⟩,tv⟩ rfl
        ·replace h:=bF hb41 h
         refine Rn.movD (gw rfl hb41) rfl (Rn.mov (v:=(l_ x29)) (gw rfl hb41) rfl (Rn.lenD (gw rfl hb41) rfl (Rn.bin (gw rfl hb41) rfl rfl rfl (Rn.pickF (v:=(b_ (r32 != (x29.length : Int)))) tv rfl hb41 rfl (md rfl ?_)))))
         refine Qdk (r32 != (x29.length : Int)) (fun hb42=>?_) (fun hb42=>?_)
         ·replace h:=bT hb42 h
          refine Rn.sk (nw rfl hb42) (Rn.sk (nw rfl hb42) (Rn.sk (nw rfl hb42) (Rn.sk (nw rfl hb42) (Rn.pickT (v:=(b_ true)) tv rfl hb42 rfl (md rfl (Rn.sk (nw (b:=true) rfl rfl) (Rn.sk (nw (b:=true) rfl rfl) (Rn.sk (nw (b:=true) rfl rfl) (Rn.sk (nw (b:=true) rfl rfl) (Rn.sk (nw (b:=true) rfl rfl) (Rn.sk (nw (b:=true) rfl rfl) (Rn.sk (nw (b:=true) rfl rfl) (Rn.pickT (v:=(b_ true)) tv rfl rfl rfl (Rn.nil ?_))))))))))))))
          replace h:=si h; subst h
          exact Qj [] ⟨(kPtr rfl),(sm rfl),(kPtr rfl),(sm rfl),(sm rfl),(sm rfl),(sm rfl),(sm rfl),tv⟩ ⟨⟨_,rfl,rfl,(.same rfl)⟩,⟨_,rfl,rfl,(.same rfl)⟩,⟨_,rfl,rfl,(.same rfl)⟩,⟨_,rfl,rfl,(.same rfl)⟩,tv⟩ rfl
         ·replace h:=bF hb42 h
          refine Rn.movD (gw rfl hb42) rfl (Rn.movD (gw rfl hb42) rfl (Rn.lenD (gw rfl hb42) rfl (Rn.bin (gw rfl hb42) rfl rfl rfl (Rn.pickF (v:=(b_ (decide (r31 ≥ (r14.length : Int))))) tv rfl hb42 rfl (md rfl ?_)))))
          refine Qdk (decide (r31 ≥ (r14.length : Int))) (fun hb43=>?_) (fun hb43=>?_)
          ·replace h:=ifT hb43 h
           refine Rn.sk (nw rfl hb43) (Rn.sk (nw rfl hb43) (Rn.sk (nw rfl hb43) (Rn.sk (nw rfl hb43) (Rn.sk (nw rfl hb43) (Rn.sk (nw rfl hb43) (Rn.sk (nw rfl hb43) (Rn.pickT (v:=(b_ true)) tv rfl hb43 rfl (Rn.nil ?_))))))))
           replace h:=si h; subst h
           exact Qj [] ⟨(kPtr rfl),(sm rfl),(kPtr rfl),(sm rfl),(sm rfl),(sm rfl),(sm rfl),(sm rfl),tv⟩ ⟨⟨_,rfl,rfl,(.same rfl)⟩,⟨_,rfl,rfl,(.same rfl)⟩,⟨_,rfl,rfl,(.same rfl)⟩,⟨_,rfl,rfl,(.same rfl)⟩,tv⟩ rfl
          ·replace h:=ifF hb43 h
           refine Rn.movD (gw rfl hb43) rfl (Rn.movD (gw rfl hb43) rfl ?_)
           obtain ⟨x44,h45,h⟩:=bnd h
           refine Rn.idxD (e:=(eL 1 (eI .i64))) (gw rfl hb43) rfl rfl h45 (Rn.loadC (x:=.lst 1 (List.map (eI .i64) x44)) (gw rfl hb43) rfl (Rn.movD (gw rfl hb43) rfl ?_))
           obtain ⟨x47,h46,h⟩:=bnd h
           refine Rn.call (args:=[(l_ x44),(i_ r37)]) (gw rfl hb43) rfl (H_overseerlaw03_Has _ _ _ h46) pc9 (Rn.un (gw rfl hb43) rfl rfl (Rn.pickF (v:=(b_ (!x47))) tv rfl hb43 rfl (Rn.nil ?_)))
           replace h:=si h; subst h
           exact Qj [] ⟨(kPtr rfl),(sm rfl),(kPtr rfl),(sm rfl),(sm rfl),(sm rfl),(sm rfl),(sm rfl),tv⟩ ⟨⟨_,rfl,rfl,(.same rfl)⟩,⟨_,rfl,rfl,(.same rfl)⟩,⟨_,rfl,rfl,(.same rfl)⟩,⟨_,rfl,rfl,(.same rfl)⟩,tv⟩ rfl
      ·obtain ⟨x48,rfl⟩ : ∃ x,x = z:=⟨_,rfl⟩
       refine Tr.cond rfl (fun hb49=>?_) (fun hb49=>?_)
       ·replace h:=bT hb49 h
        refine sr ((md rfl (nt ((Tr.ret ?_)))))
        replace h:=si h; subst h
        exact ⟨.inr rfl,(b_ false),rfl,fun _ _ _ _ h=>h,tv,fun k hk=>Qg hk⟩
       ·replace h:=bF hb49 h
        refine Tr.skip (toN (Tr.seq ?_))
        refine Tr.rgnD (by decide) ?_
        refine Rn.load (v:=(Qa x9)) tv rfl (Ql rfl) rfl rfl (md rfl (md rfl ?_))
        obtain ⟨x50,h51,h⟩:=bnd h
        refine Rn.idxD (e:=(eL 1 (eI .i64))) tv rfl rfl h51 (Rn.loadC (x:=.lst 1 (List.map (eI .i64) x50)) tv rfl ?_)
        obtain ⟨⟨r53,r54⟩,h52,h⟩:=bnd h
        refine Rn.call (args:=[(Qa x9),(l_ x50)]) tv rfl (H_automaton_Accepts _ _ _ h52) pc0 (Rn.mov (v:=.tup [(b_ r53),(i_ r54)]) tv rfl (Rn.ext (v:=(b_ r53)) (vs:=[(b_ r53),(i_ r54)]) tv rfl rfl rfl (Rn.ext (v:=(i_ r54)) (vs:=[(b_ r53),(i_ r54)]) tv rfl rfl rfl (md rfl (md rfl ?_)))))
        refine Rn.nil ⟨rfl,?_⟩
        refine toN (sr ((Rn.load (v:=(Qa r13)) tv rfl (Ql rfl) rfl rfl (Rn.mov (v:=(l_ x29)) tv rfl ?_))))
        obtain ⟨⟨r56,r57⟩,h55,h⟩:=bnd h
        refine Rn.call (args:=[(Qa r13),(l_ x29)]) tv rfl (H_automaton_Accepts _ _ _ h55) pc9 (Rn.mov (v:=.tup [(b_ r56),(i_ r57)]) tv rfl (Rn.ext (v:=(b_ r56)) (vs:=[(b_ r56),(i_ r57)]) tv rfl rfl rfl (Rn.ext (v:=(i_ r57)) (vs:=[(b_ r56),(i_ r57)]) tv rfl rfl rfl (md rfl (md rfl (Rn.nil (toN ?_)))))))
        refine Tr.cutB (fun (x59 : Bool)=>⟨look [(5,.ptr (Γ.n0 + 5) 0),(6,(o_ x11)),(7,.ptr (Γ.n0 + 7) 0),(8,.d (.lst 1 (List.map (eL 1 (eI .i64)) r14))),(10,.d (.lst 1 (List.map (eL 1 (eI .i64)) r17))),(12,(i_ i23)),(134,(b_ x59))],Qp Γ.n0 (bxs [(2,.cells ([.d (.int .u8 s1.1),.d (.int .u8 s1.2)])),(3,.cells ([.d (.int .u8 g2.States),.d (.int .u8 g2.Marks),.d (.int .u8 g2.To.1.1),.d (.int .u8 g2.To.1.2.1),.d (.int .u8 g2.To.1.2.2.1),.d (.int .u8 g2.To.1.2.2.2.1),.d (.int .u8 g2.To.1.2.2.2.2),.d (.int .u8 g2.To.2.1.1),.d (.int .u8 g2.To.2.1.2.1),.d (.int .u8 g2.To.2.1.2.2.1),.d (.int .u8 g2.To.2.1.2.2.2.1),.d (.int .u8 g2.To.2.1.2.2.2.2),.d (.int .u8 g2.To.2.2.1.1),.d (.int .u8 g2.To.2.2.1.2.1),.d (.int .u8 g2.To.2.2.1.2.2.1),.d (.int .u8 g2.To.2.2.1.2.2.2.1),.d (.int .u8 g2.To.2.2.1.2.2.2.2),.d (.int .u8 g2.To.2.2.2.1.1),.d (.int .u8 g2.To.2.2.2.1.2.1),.d (.int .u8 g2.To.2.2.2.1.2.2.1),.d (.int .u8 g2.To.2.2.2.1.2.2.2.1),.d (.int .u8 g2.To.2.2.2.1.2.2.2.2),.d (.int .u8 g2.To.2.2.2.2.1),.d (.int .u8 g2.To.2.2.2.2.2.1),.d (.int .u8 g2.To.2.2.2.2.2.2.1),.d (.int .u8 g2.To.2.2.2.2.2.2.2.1),.d (.int .u8 g2.To.2.2.2.2.2.2.2.2)])),(5,.cells ((Qd x9))),(7,.cells ((Qd r13)))]) M,Γ.n0 + 135⟩) h (fun z h=>?_) (fun z h=>?_)
        ·refine Tr.rgn (md rfl (md rfl ?_))
         refine Qdk r53 (fun hb58=>?_) (fun hb58=>?_)
         ·replace h:=bT hb58 h
          refine Rn.movD (gw rfl hb58) rfl (Rn.un (gw rfl hb58) rfl rfl (Rn.pickT (v:=(b_ (!r56))) tv rfl hb58 rfl (Rn.nil ?_)))
          replace h:=si h; subst h
          exact Qj [] ⟨(kPtr rfl),(sm rfl),(kPtr rfl),(sm rfl),(sm rfl),(sm rfl),(sm rfl),tv⟩ ⟨⟨_,rfl,rfl,(.same rfl)⟩,⟨_,rfl,rfl,(.same rfl)⟩,⟨_,rfl,rfl,(.same rfl)⟩,⟨_,rfl,rfl,(.same rfl)⟩,tv⟩ rfl
         ·replace h:=bF hb58 h
          refine Rn.sk (nw rfl hb58) (Rn.sk (nw rfl hb58) (Rn.pickF (v:=(b_ false)) tv rfl hb58 rfl (Rn.nil ?_)))
          replace h:=si h; subst h
          exact Qj [] ⟨(kPtr rfl),(sm rfl),(kPtr rfl),(sm rfl),(sm rfl),(sm rfl),(sm rfl),tv⟩ ⟨⟨_,rfl,rfl,(.same rfl)⟩,⟨_,rfl,rfl,(.same rfl)⟩,⟨_,rfl,rfl,(.same rfl)⟩,⟨_,rfl,rfl,(.same rfl)⟩,tv⟩ rfl
        ·obtain ⟨x59,rfl⟩ : ∃ x,x = z:=⟨_,rfl⟩
         refine Tr.cond rfl (fun hb60=>?_) (fun hb60=>?_)
         ·replace h:=bT hb60 h
          refine sr ((md rfl (nt ((Tr.ret ?_)))))
          replace h:=si h; subst h
          exact ⟨.inr rfl,(b_ false),rfl,fun _ _ _ _ h=>h,tv,fun k hk=>Qg hk⟩
         ·replace h:=bF hb60 h
          refine Tr.skip (toN (Tr.rgn (md rfl (Rn.bin tv rfl rfl rfl (md rfl (Rn.nil ?_))))))
          exact ⟨_,h,(by exact Qk ⟨(kPtr rfl),(sm rfl),(kPtr rfl),(sm rfl),(sm rfl),(sm rfl),tv⟩ ⟨⟨_,rfl,rfl,(.same rfl)⟩,⟨_,rfl,rfl,(.same rfl)⟩,⟨_,rfl,rfl,(.same rfl)⟩,⟨_,rfl,rfl,(.same rfl)⟩,tv⟩ rfl)⟩
     ·replace h:=ifF hb25 h
      refine Tr.exit (toN (sr ((md rfl (nt ((Tr.ret ?_)))))))
      replace h:=si h; subst h
      exact ⟨.inr rfl,(b_ true),rfl,fun _ _ _ _ h=>h,tv,fun k hk=>Qg hk⟩
theorem Qtm {P : Program} {c : Nat} {Qv : Qb → (List Int) → Option Int} {Q1 : Qb → (List Int) → Option Qh} {Qx : Qh → Option ((List Int))} {Q0 : Qh → (List Int) → Int → Option ((List Int))} {Q2 : Qh → (List Int) → Option Bool}
    (H_projection_check : Qeh P 38 Qv)
    (H_projection_observe : Qer P 39 Q1)
    (H_projection_observer_start : Qds P 40 Qx)
    (H_projection_observer_next : Qd0 P 43 Q0)
    (H_projection_observer_known : Qdt P 52 Q2) (hcf : Qs P c = some Qhs) (fuel : Nat) : Ql7 P c (Qht Qv Q1 Qx Q0 Q2 fuel):=by
 intro a1 onto2 observation3 r h
 refine Qci hcf rfl fun Γ M hP hnt hM=>?_
 subst hP
 refine Tr.init [(0,(Qa a1)),(1,(l_ onto2)),(2,(l_ observation3))] rfl ?_
 unfold Qht at h
 unfold Qhs
 refine sr ((Rn.box (v:=(Qa a1)) (cs:=(Qd a1)) tv rfl rfl rfl rfl rfl (Rn.movTC (v:=.nils 1) tv (md rfl (nt ((Tr.seq (sr ((Rn.load (v:=(Qa a1)) tv rfl (Ql rfl) rfl rfl (md rfl ?_)))))))))))
 obtain ⟨x5,h4,h⟩:=bnd h
 refine Rn.call (args:=[(Qa a1),(l_ onto2)]) tv rfl (H_projection_check _ _ _ h4) pc9 (md rfl (nt ((sr ((md rfl (Rn.bin tv rfl rfl rfl (Rn.nil (toN ?_)))))))))
 refine Tr.cond rfl (fun hb6=>?_) (fun hb6=>?_)
 ·replace h:=bT hb6 h
  refine sr ((md rfl (Rn.movTC (v:=.nils 1) tv (md rfl (nt ((Tr.ret ?_)))))))
  replace h:=si h; subst h
  exact ⟨.inr rfl,.tup [.nils 1,(i_ x5)],res2 rfl rfl,(WkV.tup (.cons (WkV.nilsD _) (.cons (.same rfl) .nil))).rd,⟨tv,tv,tv⟩,fun k hk=>Qg hk⟩
 ·replace h:=bF hb6 h
  refine Tr.skip (toN (sr ((Rn.load (v:=(Qa a1)) tv rfl (Ql rfl) rfl rfl (md rfl ?_)))))
  obtain ⟨x8,h7,h⟩:=bnd h
  refine Rn.call (args:=[(Qa a1),(l_ onto2)]) tv rfl (H_projection_observe _ _ _ h7) pc9 (Rn.alloc tv rfl (Rn.storeT (v:=(Qi x8)) (ds:=(Qn x8)) (cs':=(Qn x8)) tv rfl rfl rfl rfl rfl rfl rfl (nt ((Tr.seq (sr ((Rn.load (v:=(Qi x8)) tv rfl (Ql rfl) rfl rfl (md rfl ?_)))))))))
  obtain ⟨x10,h9,h⟩:=bnd h
  refine Rn.call (args:=[(Qi x8),(l_ observation3)]) tv rfl (H_projection_observer_known _ _ _ h9) pc9 (Rn.un tv rfl rfl (Rn.nil (toN ?_)))
  refine Tr.cond rfl (fun hb11=>?_) (fun hb11=>?_)
  ·have hb11:=nT' hb11
   replace h:=bF hb11 h
   refine sr ((Rn.movTC (v:=.nils 1) tv (md rfl (nt ((Tr.ret ?_))))))
   replace h:=si h; subst h
   exact ⟨.inr rfl,.tup [.nils 1,(i_ 9)],res2 rfl rfl,(WkV.tup (.cons (WkV.nilsD _) (.cons (.same rfl) .nil))).rd,⟨tv,tv,tv⟩,fun k hk=>Qg hk⟩
  ·have hb11:=nF' hb11
   replace h:=bT hb11 h
   refine Tr.skip (toN (sr ((Rn.load (v:=(Qi x8)) tv rfl (Ql rfl) rfl rfl ?_))))
   obtain ⟨x13,h12,h⟩:=bnd h
   refine Rn.call (args:=[(Qi x8)]) tv rfl (H_projection_observer_start _ _ h12) pc9 (Rn.movTD tv rfl (Rn.nil (toN ?_)))
   refine Tr.cutB (fun (l22 : List Int)=>⟨look [(10,(l_ l22))],Qp Γ.n0 (bxs [(3,.cells ((Qd a1))),(9,.cells ((Qn x8)))]) M,Γ.n0 + 40⟩) h (fun z h=>?_) (fun z h=>?_)
   ·refine sr ((md rfl (Rn.lenD tv rfl (md rfl (nt ((Tr.block ?_)))))))
    refine Tr.loop (mk:=fun ((l14,x15) : (List Int) × Int)=>⟨look [(9,.ptr (Γ.n0 + 9) 0),(10,(l_ l14)),(28,(l_ observation3)),(29,(i_ (observation3.length : Int))),(30,(i_ x15))],Qp Γ.n0 (bxs [(3,.cells ((Qd a1))),(9,.cells ((Qn x8)))]) M,Γ.n0 + 40⟩) h (by exact Qk ⟨(kPtr rfl),(sm rfl),(sm rfl),(sm rfl),(sm rfl),tv⟩ ⟨⟨_,rfl,rfl,(.same rfl)⟩,⟨_,rfl,rfl,(.same rfl)⟩,tv⟩ rfl) (fun k16 z h=>?_)
    ·obtain ⟨l14,x15⟩:=z
     replace h : _ = some _:=h
     refine sr ((Rn.bin tv rfl rfl rfl (nt ((Tr.seq ?_)))))
     refine Tr.cond rfl (fun hb17=>?_) (fun hb17=>?_)
     ·replace h:=ifT hb17 h
      refine Tr.skip (toN (Tr.seq (Tr.block (Tr.seq (Tr.rgn ?_)))))
      obtain ⟨x18,h19,h⟩:=bnd h
      refine Rn.idxD (e:=(eI .i64)) tv rfl rfl h19 (Rn.loadC (x:=.int .i64 x18) tv rfl (md rfl (nt ((Tr.rgn (Rn.load (v:=(Qi x8)) tv rfl (Ql rfl) rfl rfl (md rfl (md rfl ?_))))))))
      obtain ⟨x21,h20,h⟩:=bnd h
      refine Rn.call (args:=[(Qi x8),(l_ l14),(i_ x18)]) tv rfl (H_projection_observer_next _ _ _ _ h20) pc9 (Rn.movTD tv rfl (nt ((Tr.rgn (Rn.bin tv rfl rfl rfl (md rfl (Rn.nil ?_)))))))
      exact ⟨_,h,(by exact Qk ⟨(kPtr rfl),(sm rfl),(sm rfl),(sm rfl),(sm rfl),tv⟩ ⟨⟨_,rfl,rfl,(.same rfl)⟩,⟨_,rfl,rfl,(.same rfl)⟩,tv⟩ rfl)⟩
     ·replace h:=ifF hb17 h
      refine Tr.exit ?_
      replace h:=si h; subst h
      exact Qj [] ⟨(sm rfl),tv⟩ ⟨⟨_,rfl,rfl,(.same rfl)⟩,⟨_,rfl,rfl,(.same rfl)⟩,tv⟩ rfl
   ·obtain ⟨l22,rfl⟩ : ∃ x,x = z:=⟨_,rfl⟩
    refine sr ((Rn.movTD tv rfl (Rn.movTD tv rfl (md rfl (nt ((Tr.ret ?_)))))))
    replace h:=si h; subst h
    exact ⟨.inr rfl,.tup [(l_ l22),(i_ 0)],res2 rfl rfl,(WkV.tup (.cons (.same rfl) (.cons (.same rfl) .nil))).rd,⟨tv,tv,tv⟩,fun k hk=>Qg hk⟩
end Go.Abs
end
section
namespace Go.Proofs
open Go.Abs
set_option maxRecDepth 100000
theorem Qlp : Qs Tryz.prog 6 = some Qd5:=by kernel_rfl
theorem Q13 : Qs Tryz.prog 8 = some Qhm:=by kernel_rfl
theorem Q5b : Qs Tryz.prog 10 = some Qig:=by kernel_rfl
theorem Qqd : Qs Tryz.prog 11 = some Qfe:=by kernel_rfl
theorem Q5c : Qs Tryz.prog 12 = some Qh9:=by kernel_rfl
theorem Q5d : Qs Tryz.prog 14 = some Qid:=by kernel_rfl
theorem Qrn : Qs Tryz.prog 15 = some Qfs:=by kernel_rfl
theorem Qtn : Qs Tryz.prog 19 = some Qf7:=by kernel_rfl
theorem Q66 : Qs Tryz.prog 22 = some Qiz:=by kernel_rfl
theorem Q14 : Qs Tryz.prog 25 = some Qhs:=by kernel_rfl
theorem Q9s : Qs Tryz.prog 27 = some Qlm:=by kernel_rfl
theorem Qxe : Qs Tryz.prog 28 = some Qgg:=by kernel_rfl
theorem Qbbv : Qs Tryz.prog 29 = some Qps:=by kernel_rfl
theorem Q67 : Qs Tryz.prog 30 = some Qi3:=by kernel_rfl
theorem Q9t : Qs Tryz.prog 31 = some Qk7:=by kernel_rfl
theorem Qxf : Qs Tryz.prog 34 = some Qgd:=by kernel_rfl
theorem Q5e : Qs Tryz.prog 35 = some Qib:=by kernel_rfl
theorem Q15 : Qs Tryz.prog 36 = some Qhn:=by kernel_rfl
theorem Qro : Qs Tryz.prog 37 = some Qfu:=by kernel_rfl
theorem Q8f : Qs Tryz.prog 38 = some Qjy:=by kernel_rfl
theorem Q5f : Qs Tryz.prog 39 = some Qh8:=by kernel_rfl
theorem Qpu : Qs Tryz.prog 40 = some Qe3:=by kernel_rfl
theorem Qmb : Qs Tryz.prog 42 = some Qec:=by kernel_rfl
theorem Qqe : Qs Tryz.prog 43 = some Qfc:=by kernel_rfl
theorem Q68 : Qs Tryz.prog 45 = some Qix:=by kernel_rfl
theorem Q9u : Qs Tryz.prog 46 = some Qk0:=by kernel_rfl
theorem Q16 : Qs Tryz.prog 48 = some Qhi:=by kernel_rfl
theorem Q17 : Qs Tryz.prog 49 = some Qhf:=by kernel_rfl
theorem Qpv : Qs Tryz.prog 50 = some Qe2:=by kernel_rfl
theorem Qpw : Qs Tryz.prog 52 = some Qe4:=by kernel_rfl
theorem Qbbw : Qs Tryz.prog 54 = some Qo7:=by kernel_rfl
theorem Q8g : Qs Tryz.prog 55 = some Qjz:=by kernel_rfl
theorem Q18 : Qs Tryz.prog 56 = some Qhd:=by kernel_rfl
theorem Qzx : Qs Tryz.prog 57 = some Qg2:=by kernel_rfl
theorem Qrp : Qs Tryz.prog 58 = some Qfo:=by kernel_rfl
theorem Q9v : Qs Tryz.prog 59 = some Qlo:=by kernel_rfl
theorem Q8h : Qs Tryz.prog 60 = some Qj4:=by kernel_rfl
theorem Q69 : Qs Tryz.prog 61 = some Qi1:=by kernel_rfl
theorem Q7a : Qs Tryz.prog 65 = some Qis:=by kernel_rfl
theorem Q7b : Qs Tryz.prog 66 = some Qiu:=by kernel_rfl
theorem Qzy : Qs Tryz.prog 70 = some Qgz:=by kernel_rfl
theorem Q19 : Qs Tryz.prog 71 = some Qhk:=by kernel_rfl
theorem Q2a : Qs Tryz.prog 72 = some Qhp:=by kernel_rfl
theorem Q7c : Qs Tryz.prog 73 = some Qiv:=by kernel_rfl
theorem Q5g : Qs Tryz.prog 74 = some Qie:=by kernel_rfl
theorem Q2b : Qs Tryz.prog 75 = some Qhr:=by kernel_rfl
theorem Qkt : Qs Tryz.prog 78 = some Qdy:=by kernel_rfl
theorem Q5h : Qs Tryz.prog 79 = some Qh7:=by kernel_rfl
theorem Qzz : Qs Tryz.prog 80 = some Qgw:=by kernel_rfl
theorem Qrq : Qs Tryz.prog 82 = some Qfq:=by kernel_rfl
theorem Qm9 : Qs Tryz.prog 83 = some Qel:=by kernel_rfl
theorem Qna : Qs Tryz.prog 84 = some Qen:=by kernel_rfl
theorem Qnb : Qs Tryz.prog 85 = some Qep:=by kernel_rfl
theorem Q9w : Qs Tryz.prog 86 = some Qli:=by kernel_rfl
theorem Q9x : Qs Tryz.prog 87 = some Qlk:=by kernel_rfl
theorem Q8i : Qs Tryz.prog 88 = some Qjx:=by kernel_rfl
theorem Qz0 : Qs Tryz.prog 89 = some Qgy:=by kernel_rfl
theorem Qbaj : Qs Tryz.prog 90 = some Qm6:=by kernel_rfl
theorem Qbco : Qs Tryz.prog 97 = some Qq2:=by kernel_rfl
theorem Q8j : Qs Tryz.prog 98 = some Qj1:=by kernel_rfl
theorem Qxg : Qs Tryz.prog 99 = some Qgi:=by kernel_rfl
theorem Q8k : Qs Tryz.prog 100 = some Qj3:=by kernel_rfl
theorem Qbbx : Qs Tryz.prog 121 = some Qox:=by kernel_rfl
end Go.Proofs
end
section
namespace Go.Abs
open Go Go.Sort
set_option linter.unusedVariables false
section plain
variable {β : Type}
def insB (lt : β → β → Bool) (x : β) : List β → List β
 | []=>[x]
 | y :: ys=>if lt y x then y :: insB lt x ys else x :: y :: ys
def Qh3 (lt : β → β → Bool) : List β → List β
 | []=>[]
 | x :: xs=>insB lt x (Qh3 lt xs)
def Qbcp (lt : β → β → Bool) : List β → Bool
 | []=>true
 | x :: xs=>xs.all (fun y=>lt x y || lt y x) && Qbcp lt xs
def Qbol (ok : β → Bool) (lt : β → β → Bool) (l : List β) : Option (List β):=if l.all ok && Qbcp lt l then some (Qh3 lt l) else none
theorem Qbby (lt : β → β → Bool) (x : β) : ∀ l,(insB lt x l).Perm (x :: l)
 | []=>.refl _
 | y :: ys=>by
  unfold insB; split
  ·exact ((Qbby lt x ys).cons y).trans (.swap x y ys)
  ·exact .refl _
theorem Qi5 (lt : β → β → Bool) : ∀ l,(Qh3 lt l).Perm l
 | []=>.refl _
 | x :: xs=>(Qbby lt x _).trans ((Qi5 lt xs).cons x)
theorem Qkg (lt : β → β → Bool) (l : List β) : (Qh3 lt l).length = l.length:=(Qi5 lt l).length_eq
theorem Qbbz {lt : β → β → Bool} (h : SWO lt) (x : β) : ∀ l,l.Pairwise (fun a b=>lt b a = false) → (insB lt x l).Pairwise fun a b=>lt b a = false
 | [],_=>by simp [insB]
 | y :: ys,hl=>by
  obtain ⟨h1,h2⟩:=List.pairwise_cons.1 hl
  unfold insB; split
  ·rename_i hc
   refine List.pairwise_cons.2 ⟨fun z hz=>?_,Qbbz h x ys h2⟩
   rcases List.mem_cons.1 ((Qbby lt x ys).mem_iff.1 hz) with rfl | hz
   ·cases hb : lt z y with
    | false=>rfl
    | true=>have:=h.trans _ _ _ hc hb; rw [h.irrefl] at this; cases this
   ·exact h1 z hz
  ·rename_i hc
   have hc : lt y x = false:=by cases h : lt y x <;> simp_all
   refine List.pairwise_cons.2 ⟨fun z hz=>?_,hl⟩
   rcases List.mem_cons.1 hz with rfl | hz
   ·exact hc
   ·exact h.ntrans _ _ _ (h1 z hz) hc
theorem Qkh {lt : β → β → Bool} (h : SWO lt) : ∀ l,(Qh3 lt l).Pairwise fun a b=>lt b a = false
 | []=>.nil
 | x :: xs=>Qbbz h x _ (Qkh h xs)
theorem Qbdj {lt : β → β → Bool} : ∀ {l : List β},Qbcp lt l = true → ∀ a b,a ∈ l → b ∈ l → lt a b = false → lt b a = false → a = b
 | [],_,a,_,ha,_,_,_=>by cases ha
 | x :: xs,h,a,b,ha,hb,h1,h2=>by
  simp only [Qbcp,Bool.and_eq_true,List.all_eq_true] at h
  obtain ⟨k1,k2⟩:=h
  rcases List.mem_cons.1 ha with e1 | ha' <;> rcases List.mem_cons.1 hb with e2 | hb'
  ·rw [e1,e2]
  ·subst e1; have:=k1 b hb'; simp [h1,h2] at this
  ·subst e2; have:=k1 a ha'; simp [h1,h2] at this
  ·exact Qbdj k2 a b ha' hb' h1 h2
theorem Qbes {lt : β → β → Bool} (h : SWO lt) {l m : List β} (hd : Qbcp lt l = true) (hp : m.Perm l) (hs : m.Pairwise fun a b=>lt b a = false) : m = Qh3 lt l:=by
 refine List.Perm.eq_of_pairwise (le:=fun a b=>lt b a = false) (fun a b ha hb h1 h2=>?_) hs (Qkh h l) (hp.trans (Qi5 lt l).symm)
 exact Qbdj hd a b (hp.mem_iff.1 ha) ((Qi5 lt l).mem_iff.1 hb) h2 h1
theorem Qbik {α : Type} (f : α → β) (lt : β → β → Bool) (x : α) : ∀ l : List α,insB lt (f x) (l.map f) = (insB (fun a b=>lt (f a) (f b)) x l).map f
 | []=>rfl
 | y :: ys=>by
  simp only [List.map_cons,insB]; split
  ·simp only [List.map_cons,Qbik f lt x ys]
  ·rfl
theorem Qbdk {α : Type} (f : α → β) (lt : β → β → Bool) : ∀ l : List α,Qh3 lt (l.map f) = (Qh3 (fun a b=>lt (f a) (f b)) l).map f
 | []=>rfl
 | x :: xs=>by simp only [List.map_cons,Qh3,Qbdk f lt xs,Qbik]
theorem Qbf5 {α : Type} (f : α → β) (lt : β → β → Bool) : ∀ l : List α,Qbcp lt (l.map f) = Qbcp (fun a b=>lt (f a) (f b)) l
 | []=>rfl
 | x :: xs=>by simp only [List.map_cons,Qbcp,Qbf5 f lt xs,List.all_map]; rfl
end plain
def Qfa (a b : Int) : Bool:=decide (a < b)
end Go.Abs
end
section
namespace Go.Abs
open Go Go.Sort Go.RowKit
set_option linter.unusedVariables false
theorem Qbb0 {P : Program} {f : FuncId} {ex : Array Value} {exV : List V} {sz nb : Nat} {M : Mem} (hb : Qgu P f = true) (hex : ∀ g w us,RFs g w exV us → us = ex.toList)
  (h : ∀ (p : Option Addr) (cap : Nat) (w : World),Calls P f (#[.slice p 0 cap] ++ ex) w fun e' w'=>e' = .returned (.tuple #[]) ∧ w' = w) :
  ACalls P f (.d (.lst sz []) :: exV) M nb (.tup []) M nb:=by
 refine ⟨hb,Nat.le_refl _,fun w g us hm hMon hfresh hus hfl hons=>?_⟩
 obtain ⟨u0,us',rfl,hu0,hus'⟩:=hus
 have h1:=hex _ _ _ hus'
 subst h1
 have h2 : ∃ p cap,u0 = .slice p 0 cap:=by
  have:=RF_d.1 hu0
  obtain ⟨a,cap,rfl,_,_⟩:=this
  exact ⟨a,cap,rfl⟩
 obtain ⟨p,cap,rfl⟩:=h2
 have e1 : (Value.slice p 0 cap :: ex.toList).toArray = #[.slice p 0 cap] ++ ex:=by apply Array.ext'; simp
 rw [e1]
 refine (h p cap w).mono ?_
 rintro e' w' ⟨rfl,rfl⟩
 exact ⟨_,g,rfl,hm,⟨[],rfl,rfl⟩,trivial,hMon,Fr.refl _ _ _⟩
theorem Qbhh (l : List Int) : (l.mergeSort fun x y=>decide (x ≤ y)) = Qh3 Qfa l:=by
 have hO : Go.Sort.SWO Qfa:=⟨fun x=>by simp [Qfa],fun x y z h1 h2=>by simp [Qfa] at *; omega,fun x y z h1 h2=>by simp [Qfa] at *; omega⟩
 refine List.Perm.eq_of_pairwise (le:=fun a b=>Qfa b a = false) (fun a b _ _ h1 h2=>by simp [Qfa] at *; omega) ?_ (Qkh hO l) ((List.mergeSort_perm _ _).trans (Qi5 _ l).symm)
 have:=List.pairwise_mergeSort (le:=fun x y : Int=>decide (x ≤ y)) (fun a b c h1 h2=>by simp at *; omega) (fun a b=>by simp; omega) l
 exact this.imp fun h=>by simp [Qfa] at *; omega
end Go.Abs
end
section
namespace Go.Abs
def sortI (l : List Int) : Option (List Int):=if l.length ≤ lim then some (Qh3 Qfa l) else none
def Qbil (l : List Int) : Option (List Int):=if l.length ≤ lim then some (Lib.compact l) else none
def okE (x : Qe) : Bool:=decide (0 ≤ x.From ∧ x.From < 4611686018427387904 ∧ 0 ≤ x.Event ∧ x.Event < 4611686018427387904)
def ltE (x y : Qe) : Bool:=decide (x.From < y.From ∨ (x.From = y.From ∧ x.Event < y.Event))
def Qbnr (l : List Qe) : Option (List Qe):=if l.length ≤ 65536 then Qbol okE ltE l else none
def Qbom (n : Int) : Option (List Int):=if 0 ≤ n ∧ n ≤ lim then some [] else none
def keyB (l : List Int) : ByteArray:=⟨(l.flatMap fun x=>Lib.encodeRune (x + 1)).toArray⟩
def keyS (l : List Int) : Option ByteArray:=if l.length ≤ lim ∧ ∀ x ∈ l,0 ≤ x ∧ x < 50000 then some (keyB l) else none
end Go.Abs
end
section
namespace Go.Abs
open Go Go.Abs
set_option linter.unusedVariables false
set_option maxRecDepth 10000
set_option maxHeartbeats 4000000
def Qbq : Nat:=1099511627776
def Qki:=Qb3
def Qf0:=Qb2 Qbq
def Qg7:=Qcr Qbq
def Qy:=Qf Qg7
def Qe8:=Qbz Qy Qbq
def Qc9:=Qt Qf0 Qe8
def Qhu:=Qcc Qbq
def Qdd:=Qv Qc9 Qhu
def Qdw:=Q1 Qy Qbq
def Q9:=Q7
def Qc0:=Qw Qy sortI Q9 Qbq
def Qc1:=Qx Qc0
def Qdz:=Q5 Qy
def Qg3:=Qb0 Qbq
def Qcl:=Qr Qg3
def Qde:=Qbb Qcl Qdz
def Qdb:=Q0 Qc0 Qbq
def Qes:=Qbd Qdd Qdw Qc1 keyS Qde Qdb Qbq
def Qgn:=Qbl Qy
def Qe5:=Q2 Qcl Qgn
def Qcu:=Q3
def Qto:=Qdn Qdd Qdw Qe5 Qcu Qy Qbq
def Qpx:=Qcw
def Qpy:=Qcx Qbom Qbq
def Qz1:=Qg0
def Q2c:=Qdu
def Q5t:=Qew Q2c
def Qqn:=Qcs
def Qil:=Qbw Q5t Qqn Qbq
def Qdi:=Q8 Qbq
def Qh1:=Qc4
def Qh2:=Qc5
def Qed:=Qbh Qdi Qh1 Qh2
def Qmc:=Qcd Qed Qcu Qil Qbq
def Qmd:=Qce Qc9 Qmc
def Qne:=Qcm Qdd Qy Qpx Qpy sortI Qbil Qbnr Qmd Qbq
def Qei:=Qu Qbq
def Qnf:=Qcn Qei Qbq
def Qim:=Qbx Qei Qbq
def Qhv:=Qcf Qes Qnf Qim Qei Qto Qki Qne
def Qd1:=Qbm Qbq
def Qee:=Q6
def Qb9:=Qbe Qbq
def Qc2:=Qbi Qbq
def Qfk:=Qb4 Qc2 Qb9 Qbq
def Qef:=Qb5 Qbq
def Qd8:=Qbo Qee Qfk Qc2 Qb9 Qef Qbq
def Qf1:=Qb8 Qee Qd8 Qbq
def Qex:=Qc6 Qc9 Qed Qcu Qy Qbq
def Qi6:=Qcy Qbq
def Qeu:=Qbu Qi6 Qbq
def Qe9:=Qb1 Qc9
def Qlq:=Qc7 Qy
def Qg8:=Qct
def Qev:=Qbv Qbq
def Qin:=Qdh Qed Qev Qg8
def Qfl:=Qbn Qin Qbq
def Qkj:=Qdg Qe9 Qcl Qlq Qfl
def Qi7:=Qcz Qbq
def Qi8:=Qch Qfl
def Qgj:=Qb7 Qc9 Qy Qi8
def Qd6:=Qc8 Qhv Qf1 Qd1 Qes Qi7 Qex Qeu Qkj Qgj Qbq
def Q2d:=Qht Qdd Qdw Qc1 Qdb Qe5 Qbq
end Go.Abs
end
section
namespace Go.Abs
open Go Go.Sort Go.Shelf Go.RowKit Go.Lib Go.Proofs
set_option linter.unusedVariables false
set_option linter.unusedSectionVars false
theorem Qbf6 {α : Type} [Inhabited α] {enc : α → List Value} {k : Nat} (hk : ∀ x, (enc x).length = k) (h0 : 0 < k) : ∀ (l : List α) (t : Nat), t < l.length * k → (l.map enc).flatten[t]? = some (enc l[t / k]!)[t % k]!
  | [], t, h => by simp at h
  | x :: xs, t, h => by
    rw [List.map_cons, List.flatten_cons]
    by_cases hl : t < k
    · rw [List.getElem?_append_left (by rw [hk]; exact hl), Nat.div_eq_of_lt hl, Nat.mod_eq_of_lt hl]
      have : t < (enc x).length := by rw [hk]; exact hl
      simp [this]
    · have hge : k ≤ t := by omega
      have h2 : t - k < xs.length * k := by simp only [List.length_cons, Nat.add_mul, Nat.one_mul] at h; omega
      rw [List.getElem?_append_right (by rw [hk]; exact hge), hk, Qbf6 hk h0 xs (t - k) h2]
      have e1 : t / k = (t - k) / k + 1 := by rw [← Nat.add_div_right _ h0, Nat.sub_add_cancel hge]
      have e2 : t % k = (t - k) % k := by rw [Nat.mod_eq_sub_mod hge]
      rw [e1, e2]; simp
theorem Qbf7 {α : Type} [Inhabited α] {enc : α → List Value} {k : Nat} (hk : ∀ x, (enc x).length = k) (h0 : 0 < k) (l : List α) : flatK enc k l.toArray = (l.map enc).flatten.toArray := by
  have hs : (l.map enc).flatten.length = l.length * k := by
    induction l with
    | nil => simp
    | cons x xs ih => rw [List.map_cons, List.flatten_cons, List.length_append, ih, hk]; simp [Nat.add_mul]; omega
  refine ext_get! (by simp [hs]) fun t ht => ?_
  have ht' : t < l.length * k := by simpa using ht
  rw [get_flatK _ _ _ _ (by simpa using ht')]
  have := Qbf6 hk h0 l t ht'
  obtain ⟨h1, h2⟩ := List.getElem?_eq_some_iff.1 this
  rw [getElem!_pos _ t (by simpa using h1)]
  simp only [List.getElem_toArray, h2]
  simp
theorem Qbf8 {α : Type} (e : α → List D) (xs : List α) : rowV e xs = (xs.map fun x => (e x).map D.val).flatten := by
  unfold rowV; rw [List.map_flatten, List.map_map]; rfl
theorem Qbcq {P : Program} {ρ : Ren} {α : Type} [Inhabited α] (L : SlLaysF0.n6 P ρ) {k : Nat} (aE : ∀ w, (isAgg (ρ.t 24)).run P w = .ok true w) (zE : ∀ w, (Go.sizeOf (ρ.t 24)).run P w = .ok k w) (e : α → List D) (hk : ∀ x, (e x).length = k) (h0 : 0 < k) (hsc : ∀ x, (e x).all D.scalar = true)
    (cf : α → α → Int) (hO : SWO (ltOf cf)) (g : Nat) (cb : Array Value) (eg : ∀ args w, (callFunc g args).run P w = .ok (.enter g args) w)
    (hcmp : ∀ (x y : α) (W : World), Calls P g (#[.agg ((e x).map D.val).toArray, .agg ((e y).map D.val).toArray] ++ cb) W fun r w' => r = .returned (.int .i64 (cf x y)) ∧ ∃ q os', w' = grow (W.drewN q) os') :
    Qblb P (ρ.f 6) e #[.func (.func g) #[] cb] (fun xs => (pdq (ltOf cf) xs.toArray 0 xs.length (Lib.bitLen xs.length) true true).toList) := by
  intro blk cap xs w hc hblk hsz
  have henc : ∀ x, ((fun x => (e x).map D.val) x).length = k := fun x => by simp [hk]
  have h1 : ∀ x : α, ∀ v ∈ (e x).map D.val, v.oneCell' = true := by
    intro x v hv
    obtain ⟨d, hd, rfl⟩ := List.mem_map.1 hv
    exact Qbhg (List.all_eq_true.1 (hsc x) d hd)
  have hH : HoldsK (fun x => (e x).map D.val) k w blk 0 xs.toArray := by
    unfold HoldsK
    rw [Qbf7 henc h0, ← Qbf8]
    intro j hj
    have hj' : j < (rowV e xs).length := by simpa using hj
    obtain ⟨k1, k2⟩ := hc j hj'
    rw [Nat.zero_add]
    refine ⟨k1.trans ?_, k2⟩
    rw [List.getElem?_eq_getElem hj', getElem!_pos _ j hj]; rfl
  have hcl : CmpLays P g cb (fun x => (e x).map D.val) k cf blk 0 xs.toArray.size w := fun _ _ _ _ x y => hcmp x y _
  have := AnyQ.slices_SortFunc_eq L k aE zE (fun x => (e x).map D.val) henc h1 cf hO g cb blk 0 cap xs.toArray w eg hcl hH hblk (by simpa using hsz)
  refine this.mono ?_
  rintro r w' ⟨rfl, n, os, rfl⟩
  refine ⟨rfl, n, os, ?_⟩
  unfold sortWorldK putRowK
  have hrow : flatK (fun x => (e x).map D.val) k (pdq (ltOf cf) xs.toArray 0 xs.toArray.size (Lib.bitLen xs.toArray.size) true true) = (rowV e (pdq (ltOf cf) xs.toArray 0 xs.length (Lib.bitLen xs.length) true true).toList).toArray := by
    rw [Qbf8, ← Qbf7 henc h0]; simp
  rw [hrow]
section
variable {α : Type} [Inhabited α]
theorem Qbet {lt : α → α → Bool} (hO : SWO lt) (xs : List α) (k : Nat) : (pdq lt xs.toArray 0 xs.length k true true).toList.Perm xs ∧ (pdq lt xs.toArray 0 xs.length k true true).toList.Pairwise fun a b => lt b a = false := by
  obtain ⟨⟨h1, _, h2⟩, h3⟩ := pdq_sorts lt hO xs.toArray 0 xs.length k true true (Nat.zero_le _) (by simp) (Or.inl rfl)
  generalize pdq lt xs.toArray 0 xs.length k true true = d at *
  have hs : d.size = xs.length := by simpa using h1
  refine ⟨?_, ?_⟩
  · have e1 : d.extract 0 xs.length = d := by rw [← hs]; exact Array.extract_size
    have e2 : xs.toArray.extract 0 xs.length = xs.toArray := by have : xs.length = xs.toArray.size := by simp
                                                                rw [this]; exact Array.extract_size
    rw [e1, e2] at h2
    simpa using h2
  · rw [List.pairwise_iff_getElem]
    intro i j hi hj hij
    have hi' : i < d.size := by simpa using hi
    have hj' : j < d.size := by simpa using hj
    have := h3 i j (Nat.zero_le _) hij (by omega)
    rw [getElem!_pos d i hi', getElem!_pos d j hj'] at this
    simpa using this
theorem Qblj {lt : α → α → Bool} (hO : SWO lt) (xs : List α) (k : Nat) (hd : Qbcp lt xs = true) : (pdq lt xs.toArray 0 xs.length k true true).toList = Qh3 lt xs :=
  Qbes hO hd (Qbet hO xs k).1 (Qbet hO xs k).2
end
theorem Qblk {β : Type} {P : Program} {c : Nat} {e : β → List D} {sz N : Nat} {ok : β → Bool} {lt : β → β → Bool} [Inhabited {x : β // ok x = true}] {lt' : {x : β // ok x = true} → {x : β // ok x = true} → Bool}
    (hN : N < 4611686018427387904) (hk : ∀ x, (e x).length = sz) (hsc : ∀ x, (e x).all D.scalar = true) (hO : SWO lt') (hlt : ∀ x y, lt' x y = lt x.1 y.1) (hb : Qgu P c = true) {ex : Array Value} {exV : List V} (hex : ∀ g w us, RFs g w exV us → us = ex.toList)
    (hrow : Qblb P c (fun x : {x : β // ok x = true} => e x.1) ex (fun xs => (pdq lt' xs.toArray 0 xs.length (Lib.bitLen xs.length) true true).toList))
    (hnone : ∀ (p : Option Addr) (cap : Nat) (w : World), Calls P c (#[.slice p 0 cap] ++ ex) w fun e' w' => e' = .returned (.tuple #[]) ∧ w' = w) :
    RowK P c e sz exV (fun l => if l.length ≤ N then Qbol ok lt l else none) := by
  intro xs ys h
  dsimp only at h
  split at h <;> try (cases h; done)
  rename_i hlN
  unfold Qbol at h
  split at h <;> cases h
  rename_i hok
  simp only [Bool.and_eq_true, List.all_eq_true] at hok
  obtain ⟨ho, hd⟩ := hok
  obtain ⟨zs, rfl⟩ : ∃ zs : List {x : β // ok x = true}, xs = zs.map Subtype.val := ⟨xs.pmap Subtype.mk ho, by rw [List.map_pmap]; simp⟩
  have hd' : Qbcp lt' zs = true := by
    rw [Qbf5] at hd
    rw [show lt' = fun a b => lt a.1 b.1 from funext fun a => funext fun b => hlt a b]; exact hd
  have e1 : Qh3 lt (zs.map Subtype.val) = (Qh3 lt' zs).map Subtype.val := by
    rw [Qbdk, show lt' = fun a b => lt a.1 b.1 from funext fun a => funext fun b => hlt a b]
  refine ⟨Qkg _ _, fun h0 => ?_, fun hl cap k0 M nb hM => ?_⟩
  · simp only [List.map_eq_nil_iff] at h0
    subst h0
    exact ⟨rfl, fun M nb => Qbb0 hb hex hnone⟩
  · have hM' : M k0 = some (.cells (Qbr (zs.map fun x => e x.1) ((cap - zs.length) * sz))) := by
      rw [hM, List.map_map, List.length_map]; rfl
    have := Qbdh (fun x => hk x.1) (fun x => hsc x.1) (fun xs => (Qbet hO xs _).1.length_eq) hex hb hrow zs cap k0 M nb hM' (by rw [List.length_map] at hlN; omega)
    rw [Qblj hO zs _ hd'] at this
    rw [e1, List.map_map, List.length_map]
    exact this
end Go.Abs
end
section
namespace Go.Abs
open Go Go.RowKit
set_option linter.unusedVariables false
end Go.Abs
end
section
namespace Go.Abs
open Go Go.Sort Go.RowKit
set_option linter.unusedVariables false
theorem Qbb1 (xs : List Int) : rowV (eI .i64) xs = xs.map (Value.int .i64):=by
 unfold rowV
 induction xs with
 | nil=>rfl
 | cons x xs ih=>simp only [List.map_cons,List.flatten_cons,List.map_append,ih]; rfl
theorem Qbll {P : Program} {c : Nat} (hb : Qgu P c = true)
  (hs : ∀ (blk off cap : Nat) (zs : List Int) (w : World),Holds (Value.int .i64) w blk off zs.toArray → blk < w.heap.size → zs.length < 4611686018427387904 →
   Calls P c #[.slice (some ⟨blk,off,none⟩) zs.length cap] w fun e w'=>e = .returned (.tuple #[]) ∧ ∃ n os,w' = grow (putRow (Value.int .i64) (Sort.ahead w n) blk off (zs.mergeSort fun x y=>decide (x ≤ y)).toArray) os)
  (hnone : ∀ (p : Option Addr) (cap : Nat) (w : World),Calls P c (#[.slice p 0 cap] ++ #[]) w fun e' w'=>e' = .returned (.tuple #[]) ∧ w' = w) :
  RowK P c (eI .i64) 1 [] (fun l=>if l.length ≤ lim then some (Qh3 Qfa l) else none):=by
 have hrow : Qblb P c (eI .i64) #[] (fun xs=>Qh3 Qfa xs):=by
  intro blk cap xs w hcell hblk hsz
  refine Calls.mono (hs blk 0 cap xs w ?_ hblk hsz) ?_
  ·intro j hj
   have hj' : j < xs.length:=by simpa using hj
   have:=hcell j (by rw [Qbb1]; simpa using hj')
   rw [Qbb1] at this
   rw [Nat.zero_add]
   refine ⟨?_,this.2⟩
   rw [this.1,getElem!_pos xs.toArray j hj]
   simp [hj']
  ·rintro e w' ⟨rfl,n,os,rfl⟩
   refine ⟨rfl,n,os,?_⟩
   rw [Qbhh,Qbb1]
   congr 1
   unfold putRow
   congr 1
   funext c
   unfold putCells
   congr 1
   funext k x
   simp only [List.size_toArray,List.length_map]
   split
   ·rename_i h
    simp only [id]
    rw [getElem!_pos _ _ (by simp; omega),getElem!_pos _ _ (by simp; omega)]
    simp
   ·rfl
 intro xs ys h
 dsimp only at h
 split at h <;> cases h
 rename_i hl
 refine ⟨Qkg _ _,fun h0=>?_,fun hl2 cap k0 M nb hM=>?_⟩
 ·subst h0
  exact ⟨rfl,fun M nb=>Qbb0 (ex:=#[]) (exV:=[]) hb (fun _ _ _ h=>h) hnone⟩
 ·exact Qbdh (e:=eI .i64) (fun _=>rfl) (fun _=>rfl) (fun xs=>Qkg _ _) (ex:=#[]) (exV:=[]) (fun _ _ _ h=>h) hb hrow xs cap k0 M nb hM (by unfold lim at hl; omega)
end Go.Abs
end
section
namespace Go.Abs
open Go Go.Sort Go.RowKit Go.Lib
set_option linter.unusedVariables false
theorem Qbb2 (zs : List Int) : (Lib.compact zs).length ≤ zs.length:=by
 unfold Lib.compact Lib.compactUpTo
 rw [List.length_map]
 exact Nat.le_trans (List.length_filter_le _ _) (by simp)
theorem Qbon (l : List Int) : (l.map (eI .i64)).flatten = l.map (D.int .i64):=by
 induction l with
 | nil=>rfl
 | cons x l ih=>simp only [List.map_cons,List.flatten_cons,ih]; rfl
theorem Qbjh {P : Program} {c : Nat} (hb : Qgu P c = true)
  (hs : ∀ (blk off cap : Nat) (zs : List Int) (w : World),Holds (Value.int .i64) w blk off zs.toArray → zs.length ≤ 9223372036854775807 → zs.length ≤ cap →
   Calls P c #[.slice (some ⟨blk,off,none⟩) zs.length cap] w fun e w'=>e = .returned (.slice (some ⟨blk,off,none⟩) (Lib.compact zs).length cap) ∧ ∃ n,w' = putRow (Value.int .i64) (Sort.ahead w n) blk off (Lib.compact zs ++ List.replicate (zs.length - (Lib.compact zs).length) 0).toArray)
  (hnone : ∀ (p : Option Addr) (cap : Nat) (w : World),Calls P c #[.slice p 0 cap] w fun e' w'=>e' = .returned (.slice p 0 cap) ∧ w' = w) :
  CompK P c (fun l=>if l.length ≤ lim then some (Lib.compact l) else none):=by
 intro xs ys hf
 dsimp only at hf
 split at hf <;> cases hf
 rename_i hl
 refine ⟨Qbb2 xs,fun h0=>?_,fun cap k0 M nb hcap hM=>?_⟩
 ·subst h0
  refine ⟨rfl,fun M nb=>⟨hb,Nat.le_refl _,fun w g us hm hMon hfresh hus hfl hons=>?_⟩⟩
  obtain ⟨u0,us',rfl,hu0,rfl⟩:=hus
  have h2:=RF_d.1 hu0
  obtain ⟨a,cp,rfl,_,_⟩:=id h2
  refine (hnone a cp w).mono ?_
  rintro e' w' ⟨rfl,rfl⟩
  exact ⟨_,g,rfl,hm,hu0 _,trivial,hMon,Fr.refl _ _ _⟩
 refine ⟨hb,Nat.le_refl _,fun w g us hm hMon hfresh hus hfl hons=>?_⟩
 obtain ⟨u0,us',rfl,hu0,rfl⟩:=hus
 have h0:=Qbcl.1 hu0
 subst h0
 obtain ⟨hk0,hown,vals,et,hh,hrv,hone⟩:=hm.box k0 _ hM
 have hlt : g.box k0 < w.heap.size:=(Array.getElem?_eq_some_iff.1 hh).1
 obtain ⟨hvl,hvr⟩:=(Qcg _ _ _ _).1 hrv
 simp only [Qbr,Qbon,List.map_map,List.length_append,List.length_map,List.length_replicate,Nat.mul_one] at hvl hvr
 have hcell : ∀ (j : Nat) (x : Int),xs[j]? = some x → vals[j]? = some (.int .i64 x):=by
  intro j x hx
  have hj:=(List.getElem?_eq_some_iff.1 hx).1
  have hjv : j < vals.length:=by omega
  have hc : (List.map (V.d ∘ D.int .i64) xs ++ List.replicate (cap - xs.length) V.und)[j]? = some (.d (.int .i64 x)):=by
   rw [List.getElem?_append_left (by rw [List.length_map]; exact hj),List.getElem?_map,hx]; rfl
  have:=hvr j _ _ hc (List.getElem?_eq_getElem hjv)
  have h2 : vals[j] = .int .i64 x:=this
  rw [List.getElem?_eq_getElem hjv,h2]
 have hH : Holds (Value.int .i64) w (g.box k0) 0 xs.toArray:=by
  intro j hj
  have hj' : j < xs.length:=by simpa using hj
  have:=hcell j xs[j] (List.getElem?_eq_getElem hj')
  rw [Nat.zero_add]
  refine ⟨?_,by simp [World.frozen?,hh]⟩
  rw [getElem!_pos xs.toArray j hj]
  simp [World.cell?,hh,this]
 refine (hs (g.box k0) 0 cap xs w hH (by unfold lim at hl; omega) hcap).mono ?_
 rintro e' w' ⟨rfl,n,rfl⟩
 have hyl:=Qbb2 xs
 generalize Lib.compact xs = ys at hyl ⊢
 generalize hF : (ys ++ List.replicate (xs.length - ys.length) 0).toArray = F
 have hFs : F.size = xs.length:=by rw [← hF]; simp; omega
 have hput : putRow (Value.int .i64) (Sort.ahead w n) (g.box k0) 0 F = grow (putRow id (Sort.ahead w n) (g.box k0) 0 (F.map (Value.int .i64))) #[]:=by
  have e1 : ∀ W : World,grow W #[] = W:=fun W=>by unfold grow; simp
  rw [e1]
  unfold putRow
  congr 1
  funext c
  unfold putCells
  congr 1
  funext k x
  simp only [Array.size_map]
  split
  ·rename_i h
   simp only [id]
   rw [getElem!_pos _ _ (by omega),getElem!_pos _ _ (by simp; omega)]
   simp
  ·rfl
 rw [hput]
 generalize hF' : F.map (Value.int .i64) = F'
 have hFs' : F'.size = xs.length:=by rw [← hF',Array.size_map,hFs]
 have hFv : ∀ j (h : j < ys.length),F'[j]'(by omega) = Value.int .i64 ys[j]:=by
  intro j h
  subst hF'
  subst hF
  simp only [List.getElem_toArray,Array.getElem_map]
  rw [List.getElem_append_left h]
 have hFi : ∀ j (h : j < F'.size),∃ z : Int,F'[j] = Value.int .i64 z:=by
  intro j h
  subst hF'
  exact ⟨_,Array.getElem_map ..⟩
 have hblk:=Qbbr w n (g.box k0) F' #[] hh
 have hoth : ∀ b,b ≠ g.box k0 → b < w.heap.size → (grow (putRow id (Sort.ahead w n) (g.box k0) 0 F') #[]).heap[b]? = w.heap[b]?:=fun b hb hlt=>Qru w n _ F' #[] hb hlt
 have hsize : w.heap.size ≤ (grow (putRow id (Sort.ahead w n) (g.box k0) 0 F') #[]).heap.size:=by
  simp [putRow,mapBlock,Sort.ahead]
 generalize hw' : grow (putRow id (Sort.ahead w n) (g.box k0) 0 F') #[] = w' at hblk hoth hsize
 have himm : Imm g.imm g.imm w w':=by
  refine ⟨fun _ _ h=>h,fun b o h=>?_⟩
  obtain ⟨k1,k2⟩:=hm.imm b o h
  have hne : b ≠ g.box k0:=by rintro rfl; exact k2 k0 hown
  simp only [World.cell?,hoth b hne k1]
 have hkept : Kept g w g w' (There M) (fun o=>o ≠ .box k0):=⟨himm,fun _ _=>rfl,fun b hb hl=>⟨rfl,hoth b (by rintro rfl; exact hb hown) hl,fun _=>Iff.rfl⟩⟩
 have hsub : ∀ (o : Owner) i,o ≠ .box k0 → o.sub i ≠ .box k0:=by intro o i _; cases o <;> simp [Owner.sub]
 have hnew : ∀ p : Nat → Prop,V.ons p (Qbr (ys.map (eI .i64)) ((cap - ys.length) * 1)):=by
  intro p
  rw [Qgb]
  intro v hv
  simp only [Qbr,List.mem_append,List.mem_map,List.mem_replicate] at hv
  rcases hv with ⟨x,_,rfl⟩ | ⟨_,rfl⟩ <;> trivial
 have hth : There (M.put k0 (.cells (Qbr (ys.map (eI .i64)) ((cap - ys.length) * 1)))) k0:=by simp [There,Mem.put]
 refine ⟨_,g,rfl,⟨fun k b hk=>?_,fun b o h=>⟨Nat.lt_of_lt_of_le (hm.imm b o h).1 hsize,(hm.imm b o h).2⟩⟩,by simp [RV],hth,fun k cs hk=>?_,?_⟩
 ·by_cases hkk : k = k0
  ·subst hkk
   rw [Qfx] at hk; cases hk
   refine ⟨hk0,hown,(putCells id 0 F' vals.toArray).toList,et,by simpa using hblk,(Qcg _ _ _ _).2 ⟨?_,fun j cc x hc hx=>?_⟩,fun x hx=>?_⟩
   ·simp only [Qbr,Qbon,List.map_map,List.length_append,List.length_map,List.length_replicate,Nat.mul_one]
    simp [putCells]
    omega
   ·have hx' : (putCells id 0 F' vals.toArray)[j]? = some x:=by simpa using hx
    simp only [putCells,Array.getElem?_mapIdx,List.getElem?_toArray,Option.map_eq_some_iff] at hx'
    obtain ⟨y,hy,rfl⟩:=hx'
    simp only [Qbr,Qbon,List.map_map,Nat.mul_one] at hc
    by_cases hj : j < ys.length
    ·rw [List.getElem?_append_left (by rw [List.length_map]; exact hj),List.getElem?_map,List.getElem?_eq_getElem hj,Option.map_some,Option.some.injEq] at hc
     subst hc
     rw [if_pos ⟨Nat.zero_le _,by omega⟩]
     simp only [Nat.sub_zero,id]
     rw [getElem!_pos F' j (by omega),hFv j hj]
     simp [RV,RD]
    ·rw [List.getElem?_append_right (by rw [List.length_map]; omega)] at hc
     have : cc = .und:=(List.mem_replicate.1 (List.mem_of_getElem? hc)).2
     subst this; simp [RV]
   ·obtain ⟨j,hj⟩:=List.getElem?_of_mem hx
    have hx' : (putCells id 0 F' vals.toArray)[j]? = some x:=by simpa using hj
    simp only [putCells,Array.getElem?_mapIdx,List.getElem?_toArray,Option.map_eq_some_iff] at hx'
    obtain ⟨y,hy,rfl⟩:=hx'
    split
    ·rename_i hr
     simp only [id]
     rw [getElem!_pos F' _ (by omega)]
     obtain ⟨z,hz⟩:=hFi (j - 0) (by omega)
     rw [hz]
     exact Qbhg (x:=.int .i64 z) rfl
    ·exact hone y (List.mem_of_getElem? hy)
  ·rw [Qcp _ _ hkk] at hk
   obtain ⟨k1,k2,k3⟩:=hm.box k b hk
   cases b with
   | mp es c =>
    obtain ⟨ents,q1,q2⟩:=k3
    have hne : g.box k ≠ g.box k0:=by
     intro h; rw [h,hown] at k2; cases k2; exact hkk rfl
    exact ⟨k1,k2,ents,(hoth _ hne (Array.getElem?_eq_some_iff.1 q1).1).trans q1,Qon (g:=g) (g':=g) hkept.imm q2⟩
   | cells cs =>
    obtain ⟨vals2,e2,q1,q2,q3⟩:=k3
    have hne : g.box k ≠ g.box k0:=by
     intro h; rw [h,hown] at k2; cases k2; exact hkk rfl
    refine ⟨k1,k2,vals2,e2,(hoth _ hne (Array.getElem?_eq_some_iff.1 q1).1).trans q1,?_,q3⟩
    exact RVs_mono hkept hsub (by simp) cs (.box k) 0 vals2 (by simpa using hkk) (hMon k cs hk) q2
 ·by_cases hkk : k = k0
  ·subst hkk
   rw [Qfx] at hk; cases hk
   exact hnew _
  ·rw [Qcp _ _ hkk] at hk
   exact ons_mono (fun j hj=>There.put hj) _ (hMon k cs hk)
 ·refine ⟨by rw [← hw']; rfl,by rw [← hw']; rfl,by rw [← hw']; rfl,hsize,himm,fun _ _=>rfl,fun b hb ho=>⟨rfl,hoth b ?_ hb,fun _=>Iff.rfl⟩⟩
  rintro rfl
  rw [hown] at ho
  exact ho
end Go.Abs
end
section
namespace Go.Proofs
open Go.Shelf
def Tryz.sortI_ren : Go.Shelf.Ren:=⟨fun | 5=>67 | 8=>93 | 7=>92 | 19=>109 | 20=>110 | 10=>101 | 11=>102 | 12=>103 | 13=>104 | 14=>105 | 15=>106 | 16=>97 | 17=>107 | 18=>108 | 30=>122 | 31=>123 | 32=>124 | 33=>125 | 34=>126 | 35=>121 | 40=>130 | n=>n,fun | 23=>27 | 25=>3 | 3=>3 | 32=>134 | 22=>27 | 0=>0 | 44=>149 | 46=>151 | 4=>4 | 36=>143 | 35=>142 | 41=>88 | 5=>5 | 9=>9 | 53=>159 | 57=>163 | 63=>167 | 64=>98 | n=>n,fun | n=>n⟩
theorem Tryz.sortI : Go.Proofs.SlLaysM.n5 Tryz.prog Tryz.sortI_ren:={
 mixed:=by kernel_rfl
 f5:=⟨Tryz.f67.name,by decide,Tryz.func67.trans (congrArg some (by kernel_rfl))⟩
 f7:=⟨Tryz.f92.name,by decide,Tryz.func92.trans (congrArg some (by kernel_rfl))⟩
 f8:=Tryz.func93.trans (congrArg some (by kernel_rfl))
 f10:=⟨Tryz.f101.name,by decide,Tryz.func101.trans (congrArg some (by kernel_rfl))⟩
 f11:=⟨Tryz.f102.name,by decide,Tryz.func102.trans (congrArg some (by kernel_rfl))⟩
 f12:=⟨Tryz.f103.name,by decide,Tryz.func103.trans (congrArg some (by kernel_rfl))⟩
 f13:=⟨Tryz.f104.name,by decide,Tryz.func104.trans (congrArg some (by kernel_rfl))⟩
 f14:=⟨Tryz.f105.name,by decide,Tryz.func105.trans (congrArg some (by kernel_rfl))⟩
 f15:=⟨Tryz.f106.name,by decide,Tryz.func106.trans (congrArg some (by kernel_rfl))⟩
 f16:=⟨Tryz.f97.name,by decide,Tryz.func97.trans (congrArg some (by kernel_rfl))⟩
 f17:=⟨Tryz.f107.name,by decide,Tryz.func107.trans (congrArg some (by kernel_rfl))⟩
 f18:=⟨Tryz.f108.name,by decide,Tryz.func108.trans (congrArg some (by kernel_rfl))⟩
 f19:=Tryz.func109.trans (congrArg some (by kernel_rfl))
 f20:=Tryz.func110.trans (congrArg some (by kernel_rfl))
 f30:=⟨Tryz.f122.name,by decide,Tryz.func122.trans (congrArg some (by kernel_rfl))⟩
 f31:=Tryz.func123.trans (congrArg some (by kernel_rfl))
 f32:=Tryz.func124.trans (congrArg some (by kernel_rfl))
 f33:=⟨Tryz.f125.name,by decide,Tryz.func125.trans (congrArg some (by kernel_rfl))⟩
 f34:=⟨Tryz.f126.name,by decide,Tryz.func126.trans (congrArg some (by kernel_rfl))⟩
 f35:=⟨Tryz.f121.name,by decide,Tryz.func121.trans (congrArg some (by kernel_rfl))⟩
 f40:=⟨Tryz.f130.name,by decide,Tryz.func130.trans (congrArg some (by kernel_rfl))⟩
 t0:=Tryz.underlying0
 a0:=Tryz.isAgg0
 z0:=Tryz.sizeOf0
 v0:=Tryz.zeroValue0
 t3:=Tryz.underlying3
 a3:=Tryz.isAgg3
 z3:=Tryz.sizeOf3
 v3:=Tryz.zeroValue3
 t4:=Tryz.underlying4
 a4:=Tryz.isAgg4
 z4:=Tryz.sizeOf4
 v4:=Tryz.zeroValue4
 t5:=Tryz.underlying5
 a5:=Tryz.isAgg5
 z5:=Tryz.sizeOf5
 v5:=Tryz.zeroValue5
 t9:=Tryz.underlying9
 a9:=Tryz.isAgg9
 z9:=Tryz.sizeOf9
 v9:=Tryz.zeroValue9
 t22:=Tryz.underlying27
 a22:=Tryz.isAgg27
 z22:=Tryz.sizeOf27
 v22:=Tryz.zeroValue27
 t23:=Tryz.underlying27
 a23:=Tryz.isAgg27
 z23:=Tryz.sizeOf27
 v23:=Tryz.zeroValue27
 t25:=Tryz.underlying3
 a25:=Tryz.isAgg3
 z25:=Tryz.sizeOf3
 v25:=Tryz.zeroValue3
 t32:=Tryz.underlying134
 a32:=Tryz.isAgg134
 z32:=Tryz.sizeOf134
 v32:=Tryz.zeroValue134
 t35:=Tryz.underlying142
 a35:=Tryz.isAgg142
 z35:=Tryz.sizeOf142
 v35:=Tryz.zeroValue142
 t36:=Tryz.underlying143
 a36:=Tryz.isAgg143
 z36:=Tryz.sizeOf143
 v36:=Tryz.zeroValue143
 t41:=Tryz.underlying88
 a41:=Tryz.isAgg88
 z41:=Tryz.sizeOf88
 v41:=Tryz.zeroValue88
 t44:=Tryz.underlying149
 a44:=Tryz.isAgg149
 z44:=Tryz.sizeOf149
 v44:=Tryz.zeroValue149
 t46:=Tryz.underlying151
 a46:=Tryz.isAgg151
 z46:=Tryz.sizeOf151
 v46:=Tryz.zeroValue151
 t53:=Tryz.underlying159
 a53:=Tryz.isAgg159
 z53:=Tryz.sizeOf159
 v53:=Tryz.zeroValue159
 t57:=Tryz.underlying163
 a57:=Tryz.isAgg163
 z57:=Tryz.sizeOf163
 v57:=Tryz.zeroValue163
 t63:=Tryz.underlying167
 a63:=Tryz.isAgg167
 z63:=Tryz.sizeOf167
 v63:=Tryz.zeroValue167
 t64:=Tryz.underlying98
 a64:=Tryz.isAgg98
 z64:=Tryz.sizeOf98
 v64:=Tryz.zeroValue98 }
def Tryz.sortE_ren : Go.Shelf.Ren:=⟨fun | 6=>69 | 15=>93 | 14=>94 | 28=>109 | 29=>110 | 20=>111 | 21=>112 | 22=>113 | 23=>114 | 24=>115 | 25=>116 | 26=>117 | 27=>118 | 46=>127 | 47=>123 | 48=>124 | 49=>128 | 50=>129 | 57=>131 | n=>n,fun | 22=>31 | 24=>76 | 25=>111 | 3=>3 | 39=>134 | 0=>0 | 53=>149 | 55=>151 | 4=>4 | 46=>143 | 45=>142 | 50=>88 | 5=>5 | 9=>9 | 66=>159 | 70=>163 | 76=>167 | 77=>98 | n=>n,fun | n=>n⟩
theorem Tryz.sortE : Go.Proofs.SlLaysF0.n6 Tryz.prog Tryz.sortE_ren:={
 mixed:=by kernel_rfl
 f6:=⟨Tryz.f69.name,by decide,Tryz.func69.trans (congrArg some (by kernel_rfl))⟩
 f14:=⟨Tryz.f94.name,by decide,Tryz.func94.trans (congrArg some (by kernel_rfl))⟩
 f15:=Tryz.func93.trans (congrArg some (by kernel_rfl))
 f20:=⟨Tryz.f111.name,by decide,Tryz.func111.trans (congrArg some (by kernel_rfl))⟩
 f21:=⟨Tryz.f112.name,by decide,Tryz.func112.trans (congrArg some (by kernel_rfl))⟩
 f22:=⟨Tryz.f113.name,by decide,Tryz.func113.trans (congrArg some (by kernel_rfl))⟩
 f23:=⟨Tryz.f114.name,by decide,Tryz.func114.trans (congrArg some (by kernel_rfl))⟩
 f24:=⟨Tryz.f115.name,by decide,Tryz.func115.trans (congrArg some (by kernel_rfl))⟩
 f25:=⟨Tryz.f116.name,by decide,Tryz.func116.trans (congrArg some (by kernel_rfl))⟩
 f26:=⟨Tryz.f117.name,by decide,Tryz.func117.trans (congrArg some (by kernel_rfl))⟩
 f27:=⟨Tryz.f118.name,by decide,Tryz.func118.trans (congrArg some (by kernel_rfl))⟩
 f28:=Tryz.func109.trans (congrArg some (by kernel_rfl))
 f29:=Tryz.func110.trans (congrArg some (by kernel_rfl))
 f46:=⟨Tryz.f127.name,by decide,Tryz.func127.trans (congrArg some (by kernel_rfl))⟩
 f47:=Tryz.func123.trans (congrArg some (by kernel_rfl))
 f48:=Tryz.func124.trans (congrArg some (by kernel_rfl))
 f49:=⟨Tryz.f128.name,by decide,Tryz.func128.trans (congrArg some (by kernel_rfl))⟩
 f50:=⟨Tryz.f129.name,by decide,Tryz.func129.trans (congrArg some (by kernel_rfl))⟩
 f57:=⟨Tryz.f131.name,by decide,Tryz.func131.trans (congrArg some (by kernel_rfl))⟩
 t0:=Tryz.underlying0
 a0:=Tryz.isAgg0
 z0:=Tryz.sizeOf0
 v0:=Tryz.zeroValue0
 t3:=Tryz.underlying3
 a3:=Tryz.isAgg3
 z3:=Tryz.sizeOf3
 v3:=Tryz.zeroValue3
 t4:=Tryz.underlying4
 a4:=Tryz.isAgg4
 z4:=Tryz.sizeOf4
 v4:=Tryz.zeroValue4
 t5:=Tryz.underlying5
 a5:=Tryz.isAgg5
 z5:=Tryz.sizeOf5
 v5:=Tryz.zeroValue5
 t9:=Tryz.underlying9
 a9:=Tryz.isAgg9
 z9:=Tryz.sizeOf9
 v9:=Tryz.zeroValue9
 t22:=Tryz.underlying31
 a22:=Tryz.isAgg31
 z22:=Tryz.sizeOf31
 v22:=Tryz.zeroValue31
 t25:=Tryz.underlying111
 a25:=Tryz.isAgg111
 z25:=Tryz.sizeOf111
 v25:=Tryz.zeroValue111
 t39:=Tryz.underlying134
 a39:=Tryz.isAgg134
 z39:=Tryz.sizeOf134
 v39:=Tryz.zeroValue134
 t45:=Tryz.underlying142
 a45:=Tryz.isAgg142
 z45:=Tryz.sizeOf142
 v45:=Tryz.zeroValue142
 t46:=Tryz.underlying143
 a46:=Tryz.isAgg143
 z46:=Tryz.sizeOf143
 v46:=Tryz.zeroValue143
 t50:=Tryz.underlying88
 a50:=Tryz.isAgg88
 z50:=Tryz.sizeOf88
 v50:=Tryz.zeroValue88
 t53:=Tryz.underlying149
 a53:=Tryz.isAgg149
 z53:=Tryz.sizeOf149
 v53:=Tryz.zeroValue149
 t55:=Tryz.underlying151
 a55:=Tryz.isAgg151
 z55:=Tryz.sizeOf151
 v55:=Tryz.zeroValue151
 t66:=Tryz.underlying159
 a66:=Tryz.isAgg159
 z66:=Tryz.sizeOf159
 v66:=Tryz.zeroValue159
 t70:=Tryz.underlying163
 a70:=Tryz.isAgg163
 z70:=Tryz.sizeOf163
 v70:=Tryz.zeroValue163
 t76:=Tryz.underlying167
 a76:=Tryz.isAgg167
 z76:=Tryz.sizeOf167
 v76:=Tryz.zeroValue167
 t77:=Tryz.underlying98
 a77:=Tryz.isAgg98
 z77:=Tryz.sizeOf98
 v77:=Tryz.zeroValue98 }
def Tryz.laysC_ren : Go.Shelf.Ren:=⟨fun | 20=>68 | n=>n,fun | 22=>27 | 3=>3 | 4=>4 | 0=>0 | n=>n,fun | n=>n⟩
theorem Tryz.laysC : Go.Proofs.Lays2.n20 Tryz.prog Tryz.laysC_ren:={
 mixed:=by kernel_rfl
 f20:=Tryz.func68.trans (congrArg some (by kernel_rfl))
 t0:=Tryz.underlying0
 a0:=Tryz.isAgg0
 z0:=Tryz.sizeOf0
 v0:=Tryz.zeroValue0
 t3:=Tryz.underlying3
 a3:=Tryz.isAgg3
 z3:=Tryz.sizeOf3
 v3:=Tryz.zeroValue3
 t4:=Tryz.underlying4
 a4:=Tryz.isAgg4
 z4:=Tryz.sizeOf4
 v4:=Tryz.zeroValue4
 t22:=Tryz.underlying27
 a22:=Tryz.isAgg27
 z22:=Tryz.sizeOf27
 v22:=Tryz.zeroValue27
 i3:=by kernel_rfl }
open Go.RowKit Go.Sort in
theorem Tryz.slices_Sort_int (blk off cap : Nat) (zs : List Int) (w : World) (hH : Holds (Value.int .i64) w blk off zs.toArray) (hblk : blk < w.heap.size) (hsz : zs.length < 4611686018427387904) :
  Calls Tryz.prog 67 #[.slice (some ⟨blk,off,none⟩) zs.length cap] w fun e w' =>
   e = .returned (.tuple #[]) ∧ ∃ n os,w' = grow (putRow (Value.int .i64) (Sort.ahead w n) blk off (zs.mergeSort fun x y=>decide (x ≤ y)).toArray) os:=AnyM.slices_Sort_int Tryz.sortI blk off cap zs w hH hblk hsz
open Go.RowKit Go.Sort in
theorem Tryz.slices_Sort_int_none (p : Option Addr) (cap : Nat) (w : World) :
  Calls Tryz.prog 67 #[.slice p 0 cap] w fun e w'=>e = .returned (.tuple #[]) ∧ w' = w:=AnyM.slices_Sort_int_none Tryz.sortI p cap w
open Go.RowKit Go.Lib Go.Sort in
theorem Tryz.slices_Compact_int (blk off cap : Nat) (zs : List Int) (w : World) (hH : Holds (Value.int .i64) w blk off zs.toArray) (hsz : zs.length ≤ 9223372036854775807) (hcap : zs.length ≤ cap) :
  Calls Tryz.prog 68 #[.slice (some ⟨blk,off,none⟩) zs.length cap] w fun e w'=>e = .returned (.slice (some ⟨blk,off,none⟩) (Lib.compact zs).length cap) ∧ ∃ q,w' = putRow (Value.int .i64) (Sort.ahead w q) blk off (Lib.compact zs ++ List.replicate (zs.length - (Lib.compact zs).length) 0).toArray:=Any.slices_Compact_int Tryz.laysC blk off cap zs w hH hsz hcap
open Go.RowKit Go.Lib Go.Sort in
theorem Tryz.slices_Compact_int_empty (a : Option Addr) (cap : Nat) (w : World) :
  Calls Tryz.prog 68 #[.slice a 0 cap] w fun e w'=>e = .returned (.slice a 0 cap) ∧ w' = w:=Any.slices_Compact_int_empty Tryz.laysC a cap w
end Go.Proofs
end
section
namespace Go.Proofs
open Go.Shelf Go.RowKit Go.Lib Go.Sort Go.Abs
abbrev Qbdl := {x : Qe // okE x = true}
instance : Inhabited Qbdl := ⟨⟨⟨0, 0, 0⟩, rfl⟩⟩
def cfE (x y : Qbdl) : Int := if x.1.From = y.1.From then x.1.Event - y.1.Event else x.1.From - y.1.From
theorem Qbat (x y : Qbdl) : ltOf cfE x y = ltE x.1 y.1 := by
 unfold ltOf cfE ltE
 apply decide_eq_decide.2
 split <;> omega
theorem swoE : SWO (ltOf cfE) := {
 irrefl x := by rw [Qbat]; simp [ltE]
 trans x y z h1 h2 := by rw [Qbat] at *; simp only [ltE, decide_eq_true_eq] at *; omega
 ntrans x y z h1 h2 := by rw [Qbat] at *; simp only [ltE, decide_eq_false_iff_not] at *; omega }
set_option maxHeartbeats 1000000 in
theorem Tryz.edges37 (x y : Qbdl) (W : World) : Calls Tryz.prog 70 #[.agg ((Qc x.1).map D.val).toArray, .agg ((Qc y.1).map D.val).toArray] W fun e w' => e = .returned (.int .i64 (cfE x y)) ∧ ∃ q os', w' = grow (W.drewN q) os' := by
 obtain ⟨⟨a, b, c⟩, hx0⟩ := x
 obtain ⟨⟨a', b', c'⟩, hy0⟩ := y
 have hx := hx0
 have hy := hy0
 simp only [okE, decide_eq_true_eq] at hx hy
 have w1 : IntKind.i64.wrap (a - a') = a - a' := by simp [IntKind.wrap, IntKind.bits, IntKind.signed]; omega
 have w2 : IntKind.i64.wrap (b - b') = b - b' := by simp [IntKind.wrap, IntKind.bits, IntKind.signed]; omega
 have hr : cfE ⟨⟨a, b, c⟩, hx0⟩ ⟨⟨a', b', c'⟩, hy0⟩ = if a = a' then b - b' else a - a' := rfl
 generalize cfE ⟨⟨a, b, c⟩, hx0⟩ ⟨⟨a', b', c'⟩, hy0⟩ = r at hr ⊢
 simp only [Qc, List.map_cons, List.map_nil, D.val]
 go_enter Tryz.func70, Tryz.ntmps70
 go_wp2
 ·rename_i h
  have h : a ≠ a' := by simpa using h
  go_ret
  exact ⟨by rw [hr, if_neg h]; rfl, 0, _, by rw [alloc_eq_grow, alloc_eq_grow, grow_grow]; rfl⟩
 ·rename_i h
  have h : a = a' := by simpa using h
  go_ret
  exact ⟨by rw [hr, if_pos h]; rfl, 0, _, by rw [alloc_eq_grow, alloc_eq_grow, grow_grow]; rfl⟩
set_option maxHeartbeats 1000000 in
theorem Tryz.row36 : Qblb Tryz.prog 69 (fun x : Qbdl => Qc x.1) #[.func (.func 70) #[] #[]] (fun xs => (pdq (ltOf cfE) xs.toArray 0 xs.length (Lib.bitLen xs.length) true true).toList) :=
 Qbcq Tryz.sortE Tryz.isAgg76 Tryz.sizeOf76 (fun x : Qbdl => Qc x.1) (fun _ => rfl) (by decide) (fun _ => rfl) cfE swoE 70 #[] (enters_of Tryz.func70 (by kernel_rfl) rfl) (fun x y W => Tryz.edges37 x y W)
set_option maxHeartbeats 1000000 in
theorem Tryz.none36 (p : Option Addr) (cap : Nat) (w : World) : Calls Tryz.prog 69 (#[.slice p 0 cap] ++ #[.func (.func 70) #[] #[]]) w fun e' w' => e' = .returned (.tuple #[]) ∧ w' = w :=
 AnyF.slices_SortFunc_none Tryz.sortE p cap (.func (.func 70) #[] #[]) w
theorem Tryz.rowK36 : Go.Abs.RowK Tryz.prog 69 Qc 3 [.clo 70 []] Qbnr :=
 Qblk (e := Qc) (sz := 3) (N := 65536) (by decide) (fun _ => rfl) (fun _ => rfl) swoE Qbat (by kernel_rfl) (ex := #[.func (.func 70) #[] #[]]) (exV := [.clo 70 []]) (fun g w us h => by
  obtain ⟨u, us', rfl, hu, hus⟩ := h
  simp only [RFs] at hus
  subst hus
  have := hu .free
  simp only [RV] at this
  obtain ⟨vs, rfl, hv⟩ := this
  simp only [RVs] at hv
  subst hv
  rfl) Tryz.row36 Tryz.none36
theorem Tryz.rowK33 : Go.Abs.RowK Tryz.prog 67 (eI .i64) 1 [] Go.Abs.sortI :=
 Qbll (by kernel_rfl) Tryz.slices_Sort_int Tryz.slices_Sort_int_none
theorem Tryz.compK34 : Go.Abs.CompK Tryz.prog 68 Qbil :=
 Qbjh (by kernel_rfl) Tryz.slices_Compact_int Tryz.slices_Compact_int_empty
end Go.Proofs
end
section
namespace Go.Proofs
open Go.Shelf
def Tryz.lays169_ren : Go.Shelf.Ren:=⟨fun | 169=>77 | n=>n,fun | 70=>116 | 9=>9 | 0=>0 | 72=>119 | 37=>117 | 127=>137 | 3=>3 | 5=>5 | n=>n,fun | n=>n⟩
theorem Tryz.lays169 : Go.Proofs.Lays.n169 Tryz.prog Tryz.lays169_ren:={
 mixed:=by kernel_rfl
 f169:=Tryz.func77.trans (congrArg some (by kernel_rfl))
 t0:=Tryz.underlying0
 a0:=Tryz.isAgg0
 z0:=Tryz.sizeOf0
 v0:=Tryz.zeroValue0
 t3:=Tryz.underlying3
 a3:=Tryz.isAgg3
 z3:=Tryz.sizeOf3
 v3:=Tryz.zeroValue3
 t9:=Tryz.underlying9
 a9:=Tryz.isAgg9
 z9:=Tryz.sizeOf9
 v9:=Tryz.zeroValue9
 t37:=Tryz.underlying117
 a37:=Tryz.isAgg117
 z37:=Tryz.sizeOf117
 v37:=Tryz.zeroValue117
 t70:=Tryz.underlying116
 a70:=Tryz.isAgg116
 z70:=Tryz.sizeOf116
 v70:=Tryz.zeroValue116
 t72:=Tryz.underlying119
 a72:=Tryz.isAgg119
 z72:=Tryz.sizeOf119
 v72:=Tryz.zeroValue119
 t127:=Tryz.underlying137
 a127:=Tryz.isAgg137
 z127:=Tryz.sizeOf137
 v127:=Tryz.zeroValue137 }
theorem Tryz.Builder_Extra_169 : Builder.Extra Tryz.prog Tryz.lays169_ren:={
 sizeBuilder:=by kernel_rfl
 liesBuilder:=by kernel_rfl
 t5:=Tryz.underlying5
 a5:=Tryz.isAgg5
 z5:=Tryz.sizeOf5
 v5:=Tryz.zeroValue5
 infoByte:=by kernel_rfl
 cellsByte:=by kernel_rfl
 sizeByte:=by kernel_rfl
 neB5:=by decide }
open Go.RowKit in
theorem Tryz.Builder_String_any_k (B b : Nat) (l : List UInt8) (w : World) (h : Lib.IsBuilderF 119 5 B b (Lib.byteCells l) w) (hBw : B ≤ w.heap.size) :
  Calls Tryz.prog 77 #[.pointer (some ⟨b,0,none⟩)] w fun e w'=>e = .returned (.string ⟨l.toArray⟩) ∧ (Lib.IsBuilderF 119 5 B b (Lib.byteCells l) w' ∧ Below B w w' ∧ Lib.OthersKept 5 (some b) w w'):=Any.Builder_String_any_k Tryz.lays169 Tryz.Builder_Extra_169 B b l w h hBw
def Tryz.lays168_ren : Go.Shelf.Ren:=⟨fun | 168=>76 | 240=>95 | 242=>96 | 276=>119 | 278=>120 | n=>n,fun | 0=>0 | 3=>3 | 4=>4 | 5=>5 | 9=>9 | 20=>20 | 21=>21 | 37=>117 | 46=>134 | 51=>149 | 70=>116 | 72=>119 | 75=>121 | 80=>124 | 164=>157 | n=>n,fun | n=>n⟩
theorem Tryz.lays168 : Go.Proofs.Lays.n168 Tryz.prog Tryz.lays168_ren:={
 mixed:=by kernel_rfl
 f168:=Tryz.func76.trans (congrArg some (by kernel_rfl))
 f240:=Tryz.func95.trans (congrArg some (by kernel_rfl))
 f242:=Tryz.func96.trans (congrArg some (by kernel_rfl))
 f276:=Tryz.func119.trans (congrArg some (by kernel_rfl))
 f278:=Tryz.func120.trans (congrArg some (by kernel_rfl))
 t0:=Tryz.underlying0
 a0:=Tryz.isAgg0
 z0:=Tryz.sizeOf0
 v0:=Tryz.zeroValue0
 t3:=Tryz.underlying3
 a3:=Tryz.isAgg3
 z3:=Tryz.sizeOf3
 v3:=Tryz.zeroValue3
 t4:=Tryz.underlying4
 a4:=Tryz.isAgg4
 z4:=Tryz.sizeOf4
 v4:=Tryz.zeroValue4
 t5:=Tryz.underlying5
 a5:=Tryz.isAgg5
 z5:=Tryz.sizeOf5
 v5:=Tryz.zeroValue5
 t9:=Tryz.underlying9
 a9:=Tryz.isAgg9
 z9:=Tryz.sizeOf9
 v9:=Tryz.zeroValue9
 t20:=Tryz.underlying20
 a20:=Tryz.isAgg20
 z20:=Tryz.sizeOf20
 v20:=Tryz.zeroValue20
 t21:=Tryz.underlying21
 a21:=Tryz.isAgg21
 z21:=Tryz.sizeOf21
 v21:=Tryz.zeroValue21
 t37:=Tryz.underlying117
 a37:=Tryz.isAgg117
 z37:=Tryz.sizeOf117
 v37:=Tryz.zeroValue117
 t46:=Tryz.underlying134
 a46:=Tryz.isAgg134
 z46:=Tryz.sizeOf134
 v46:=Tryz.zeroValue134
 t51:=Tryz.underlying149
 a51:=Tryz.isAgg149
 z51:=Tryz.sizeOf149
 v51:=Tryz.zeroValue149
 t70:=Tryz.underlying116
 a70:=Tryz.isAgg116
 z70:=Tryz.sizeOf116
 v70:=Tryz.zeroValue116
 t72:=Tryz.underlying119
 a72:=Tryz.isAgg119
 z72:=Tryz.sizeOf119
 v72:=Tryz.zeroValue119
 t75:=Tryz.underlying121
 a75:=Tryz.isAgg121
 z75:=Tryz.sizeOf121
 v75:=Tryz.zeroValue121
 t164:=Tryz.underlying157
 a164:=Tryz.isAgg157
 z164:=Tryz.sizeOf157
 v164:=Tryz.zeroValue157 }
theorem Tryz.Builder_Extra_168 : Builder.Extra Tryz.prog Tryz.lays168_ren:={
 sizeBuilder:=by kernel_rfl
 liesBuilder:=by kernel_rfl
 t5:=Tryz.underlying5
 a5:=Tryz.isAgg5
 z5:=Tryz.sizeOf5
 v5:=Tryz.zeroValue5
 infoByte:=by kernel_rfl
 cellsByte:=by kernel_rfl
 sizeByte:=by kernel_rfl
 neB5:=by decide }
open Go.RowKit in
theorem Tryz.Builder_WriteRune_k (B b : Nat) (bs : List Value) (r : Int) (hr0 : -2147483648 ≤ r) (hr1 : r ≤ 2147483647) (w : World) (h : Lib.IsBuilderF 119 5 B b bs w) (hlen : bs.length + 4 ≤ 140737488355328) (hBw : B ≤ w.heap.size) :
  Calls Tryz.prog 76 #[.pointer (some ⟨b,0,none⟩),.int .i32 r] w fun e w'=>e = .returned (.tuple #[.int .i64 (Lib.runeCells r).length,.nilIface]) ∧ (Lib.BuilderAtF 119 5 B b (.pointer (some ⟨b,0,none⟩)) (bs ++ Lib.runeCells r) w' ∧ Below B w w' ∧ Lib.OthersKept 5 (some b) w w'):=Any.Builder_WriteRune_k Tryz.lays168 Tryz.Builder_Extra_168 B b bs r hr0 hr1 w h hlen hBw
def Tryz.laysGrow_ren : Go.Shelf.Ren:=⟨fun | 4=>91 | n=>n,fun | 22=>27 | 25=>3 | 3=>3 | 4=>4 | 9=>9 | 20=>20 | 0=>0 | n=>n,fun | n=>n⟩
theorem Tryz.laysGrow : Go.Proofs.Lays8.n4 Tryz.prog Tryz.laysGrow_ren:={
 mixed:=by kernel_rfl
 f4:=⟨Tryz.f91.name,by decide,Tryz.func91.trans (congrArg some (by kernel_rfl))⟩
 t0:=Tryz.underlying0
 a0:=Tryz.isAgg0
 z0:=Tryz.sizeOf0
 v0:=Tryz.zeroValue0
 t3:=Tryz.underlying3
 a3:=Tryz.isAgg3
 z3:=Tryz.sizeOf3
 v3:=Tryz.zeroValue3
 t4:=Tryz.underlying4
 a4:=Tryz.isAgg4
 z4:=Tryz.sizeOf4
 v4:=Tryz.zeroValue4
 t9:=Tryz.underlying9
 a9:=Tryz.isAgg9
 z9:=Tryz.sizeOf9
 v9:=Tryz.zeroValue9
 t20:=Tryz.underlying20
 a20:=Tryz.isAgg20
 z20:=Tryz.sizeOf20
 v20:=Tryz.zeroValue20
 t22:=Tryz.underlying27
 a22:=Tryz.isAgg27
 z22:=Tryz.sizeOf27
 v22:=Tryz.zeroValue27 }
end Go.Proofs
end
section
namespace Go.Abs
open Go Go.RowKit
set_option linter.unusedVariables false
set_option linter.unusedSimpArgs false
theorem MR.cellOld {g : G} {w w' : World} {M : Mem} {nb : Nat} (hm : MR g w M nb) (hbw : Below w.heap.size w w') : ∀ b o,g.imm b o → w'.cell? ⟨b,o,none⟩ = w.cell? ⟨b,o,none⟩:=by
 intro b o hi
 have hlt:=(hm.imm b o hi).1
 simp only [World.cell?]
 rw [hbw.block b hlt]
theorem Qbeu {P : Program} {f : FuncId} {args : List V} {x : D} (hx : x.scalar = true) (hb : Qgu P f = true)
  (h : ∀ (w : World) (g : G) (us : List Value),(∀ b o,g.imm b o → b < w.heap.size) → RFs g w args us → Calls P f us.toArray w fun e w'=>e = .returned x.val ∧ Below w.heap.size w w') (M : Mem) (nb : Nat) : ACalls P f args M nb (.d x) M nb:=by
 refine ⟨hb,Nat.le_refl _,fun w g us hm hMon hfresh hus hfl hons=>?_⟩
 refine Calls.mono (h w g us (fun b o hi=>(hm.imm b o hi).1) hus) ?_
 rintro e w' ⟨rfl,hbw⟩
 have hI : Imm g.imm g.imm w w':=⟨fun _ _ h=>h,fun b o hi=>hm.cellOld hbw b o hi⟩
 have hk : Kept g w g w' (There M) (fun _=>True):=⟨hI,fun _ _=>rfl,fun b _ hlt=>⟨rfl,hbw.block b hlt,fun _=>Iff.rfl⟩⟩
 refine ⟨_,g,rfl,hm.kept hk hMon (fun _ _ _=>trivial) trivial (fun _ _=>trivial) (fun b o hi=>?_),?_,trivial,hMon,?_⟩
 ·obtain ⟨h1,h2⟩:=hm.imm b o hi
  exact ⟨Nat.lt_of_lt_of_le h1 hbw.size,h2⟩
 ·simp only [RV]; exact (Qbla hx).2 rfl
 ·exact ⟨hbw.os,hbw.tape,hbw.output,hbw.size,hI,fun _ _=>rfl,fun b hb _=>⟨rfl,hbw.block b hb,fun _=>Iff.rfl⟩⟩
theorem Qbhi {P : Program} {f : FuncId} {args : List V} {sz : Nat} (hb : Qgu P f = true)
  (h : ∀ (w : World) (g : G) (us : List Value),RFs g w args us → Calls P f us.toArray w fun e w'=>(∃ a,e = .returned (.slice a 0 0) ∧ w' = w) ∨
   ∃ cap row t,e = .returned (.slice (some ⟨w.heap.size,0,none⟩) 0 cap) ∧ w' = w.drew.alloc (.cells row t) ∧ row.size = cap * sz ∧ cap ≤ maxLen ∧ ∀ u ∈ row.toList,u.oneCell' = true) (M : Mem) (nb : Nat) : ACalls P f args M nb (.own sz []) M nb:=by
 refine ⟨hb,Nat.le_refl _,fun w g us hm hMon hfresh hus hfl hons=>?_⟩
 refine Calls.mono (h w g us hus) ?_
 rintro e w' (⟨a,rfl,rfl⟩ | ⟨cap,row,t,rfl,rfl,hrow,hcap,hone⟩)
 ·exact ⟨_,g,rfl,hm,by simp only [RV]; exact .inl ⟨⟨a,rfl⟩,trivial⟩,trivial,hMon,Fr.refl _ _ _⟩
 ·let g' : G:={ box:=g.box,imm:=g.imm,own:=fun b=>if b = w.heap.size then .res [] else g.own b }
  have hold : ∀ b,b < w.heap.size → (w.drew.alloc (.cells row t)).heap[b]? = w.heap[b]?:=fun b hlt=>RowKit.Below.heap_alloc w.drew _ b (by simpa using hlt)
  have hown : ∀ b,b < w.heap.size → g'.own b = g.own b:=fun b hlt=>by simp only [g']; rw [if_neg (by omega)]
  have hI : Imm g.imm g'.imm w (w.drew.alloc (.cells row t)):=⟨fun _ _ h=>h,fun b o hi=>by
   have hlt:=(hm.imm b o hi).1
   simp only [World.cell?]
   rw [hold b hlt]⟩
  have hk : Kept g w g' (w.drew.alloc (.cells row t)) (There M) (fun _=>True):=⟨hI,fun _ _=>rfl,fun b _ hlt=>⟨hown b hlt,hold b hlt,fun _=>Iff.rfl⟩⟩
  refine ⟨_,g',rfl,hm.kept hk hMon (fun _ _ _=>trivial) trivial (fun _ _=>trivial) (fun b o hi=>?_),?_,trivial,hMon,?_⟩
  ·obtain ⟨h1,h2⟩:=hm.imm b o hi
   refine ⟨by simp; omega,fun k=>?_⟩
   rw [hown b h1]; exact h2 k
  ·simp only [RV]
   refine .inr ⟨w.heap.size,cap,row,t,rfl,by simp [g'],heap_alloc_new w.drew _,Nat.zero_le _,hcap,⟨hrow,hone⟩,fun o=>?_,by simp [RDL]⟩
   constructor
   ·intro hi; have:=(hm.imm _ _ hi).1; omega
   ·intro hi; simp at hi
  ·exact ⟨rfl,rfl,rfl,by simp,hI,fun _ _=>rfl,fun b hb _=>⟨hown b hb,hold b hb,fun _=>Iff.rfl⟩⟩
theorem Qboo {g : G} {w : World} {l : List Int} {k : IntKind} {u : Value} (h : RF g w (.d (.lst 1 (l.map (fun n=>[.int k n])))) u) :
  ∃ a cap,u = .slice a l.length cap ∧ l.length ≤ cap ∧ (l = [] ∨ ∃ b o,a = some ⟨b,o,none⟩ ∧ ∀ (i : Nat) n,l[i]? = some n → g.imm b (o + i) ∧ w.cell? ⟨b,o + i,none⟩ = some (.int k n)):=by
 have h:=RF_d.1 h
 simp only [RD,List.length_map] at h
 obtain ⟨a,cap,rfl,hc,hl⟩:=h
 refine ⟨a,cap,rfl,hc,?_⟩
 rcases hl with hl | ⟨b,o,rfl,hl⟩
 ·exact .inl (by simpa using hl)
 ·refine .inr ⟨b,o,rfl,fun i n hi=>?_⟩
  have:=(Qbaz hl i [.int k n] (by simp [hi])).2
  simp only [RDc,Nat.mul_one,RD] at this
  obtain ⟨h1,⟨u,h2,rfl⟩,_⟩:=this
  exact ⟨h1,h2⟩
end Go.Abs
end
section
namespace Go.Proofs
open Go.RowKit Go.Abs
def keyL (l : List Int) : List UInt8 := l.flatMap fun x => Lib.encodeRune (x + 1)
theorem Qblm : ∀ l : List Int, (keyL l).length ≤ 4 * l.length
 | [] => by simp [keyL]
 | x :: l => by
  have h := Lib.runeCells_le (x + 1)
  rw [Lib.runeCells_length] at h
  have ih := Qblm l
  simp only [keyL, List.flatMap_cons, List.length_append, List.length_cons] at *
  omega
set_option maxHeartbeats 4000000 in
set_option maxRecDepth 1000000 in
theorem Tryz.key_walk (l : List Int) (hl : l.length ≤ lim) (hx : ∀ x ∈ l, 0 ≤ x ∧ x < 50000) (a : Option Addr) (cap : Nat) (w : World)
  (hc : ∀ (i : Nat) n, l[i]? = some n → ∃ b o, a = some ⟨b, o, none⟩ ∧ b < w.heap.size ∧ w.cell? ⟨b, o + i, none⟩ = some (.int .i64 n)) :
  Calls Tryz.prog 41 #[.slice a l.length cap] w fun e w' => e = .returned (.string (keyB l)) ∧ Below w.heap.size w w' := by
 have hlim : l.length ≤ 1099511627776 := hl
 go_enter Tryz.func41, Tryz.ntmps41
 go_wp2
 go_loopw [8] (fun vi wr => ∃ (k : Nat), vi = .int .i64 k ∧ k ≤ l.length ∧ Lib.IsBuilderF 119 5 w.heap.size w.heap.size (Lib.byteCells (keyL (l.take k))) wr ∧ Below w.heap.size w wr) (fun vi _ => l.length - (intOf vi).toNat)
 case atStart =>
  refine ⟨0, rfl, by omega, ?_, ((Below.refl _ w).alloc (Nat.le_refl _) _)⟩
  exact Lib.IsBuilderF.of (Lib.fresh_isBuilder 119 5 w)
 case round =>
  obtain ⟨k, rfl, hk, hI, hbw⟩ := hrel
  by_cases hlt : k < l.length
  ·obtain ⟨b, o, rfl, hb, hcell⟩ := hc k l[k] (List.getElem?_eq_getElem hlt)
   have hcr : wr.cell? ⟨b, o + k, none⟩ = some (.int .i64 l[k]) := by
    rw [← hcell]; simp only [World.cell?]; rw [hbw.block b hb]
   have hxk := hx l[k] (List.getElem_mem hlt)
   have w1 : IntKind.i64.wrap (l[k] + 1) = l[k] + 1 := by simp [IntKind.wrap, IntKind.bits, IntKind.signed]; omega
   have w2 : IntKind.i32.wrap (l[k] + 1) = l[k] + 1 := by simp [IntKind.wrap, IntKind.bits, IntKind.signed]; omega
   have hsz : w.heap.size ≤ wr.heap.size := hbw.size
   have hkl := Qblm (l.take k)
   rw [List.length_take] at hkl
   go_wp2_with (go_at_call 76; refine (Tryz.Builder_WriteRune_k w.heap.size w.heap.size _ (l[k] + 1) (by omega) (by omega) _ hI (by rw [Lib.byteCells_length]; omega) hsz).mono ?_)
   rintro e W1 ⟨rfl, h1, b1, k1⟩
   go_wp2
   go_roundw
   case rel =>
    refine ⟨k + 1, by simp, by omega, ?_, hbw.trans b1⟩
    have e1 : keyL (l.take (k + 1)) = keyL (l.take k) ++ Lib.encodeRune (l[k] + 1) := by
     rw [List.take_succ_eq_append_getElem hlt]; simp only [keyL, List.flatMap_append, List.flatMap_cons, List.flatMap_nil, List.append_nil]
    rw [e1, Lib.byteCells_append, Lib.byteCells_encodeRune]; exact Or.inr h1
   case measure =>
    simp [intOf]; omega
  ·have hk2 : k = l.length := by omega
   subst hk2
   go_wp2_with (go_at_call 77; refine (Tryz.Builder_String_any_k w.heap.size w.heap.size _ _ hI hbw.size).mono ?_)
   rintro e W1 ⟨rfl, _, b1, _⟩
   go_wp2
   go_ret
   exact ⟨rfl, hbw.trans b1⟩
theorem Tryz.keyK : Go.Abs.K_projection_key Tryz.prog 41 keyS := by
 intro l r h
 unfold keyS at h
 split at h <;> cases h
 rename_i hc
 intro M nb
 refine Qbeu rfl (by kernel_rfl) (fun w g us himm hus => ?_) M nb
 obtain ⟨u, us', rfl, hu, hus'⟩ := hus
 simp only [RFs] at hus'
 subst hus'
 obtain ⟨a, cap, rfl, hcap, hl⟩ := Qboo hu
 refine Tryz.key_walk l hc.1 hc.2 a cap w fun i n hi => ?_
 rcases hl with rfl | ⟨b, o, rfl, hl⟩
 ·simp at hi
 ·exact ⟨b, o, rfl, himm _ _ (hl i n hi).1, (hl i n hi).2⟩
theorem Tryz.growK : Go.Abs.K_slices_Grow_int Tryz.prog 91 Qbom := by
 intro n r h
 unfold Qbom at h
 split at h <;> cases h
 rename_i hc
 have hlim : n ≤ 1099511627776 := hc.2
 intro M nb
 refine Qbhi (by kernel_rfl) (fun w g us hus => ?_) M nb
 obtain ⟨u, us', rfl, hu, u2, us2, rfl, hu2, hus'⟩ := hus
 simp only [RFs] at hus'
 subst hus'
 have hu := hu .free
 simp only [RV] at hu
 obtain ⟨a, rfl⟩ := hu
 have h2 := Qnk hu2
 subst h2
 by_cases h0 : n = 0
 ·subst h0
  refine (Any8.slices_Grow_room Tryz.laysGrow a 0 0 0 w (by omega) (by omega) (by omega) (by omega)).mono ?_
  rintro e w' ⟨rfl, rfl⟩
  exact .inl ⟨a, rfl, rfl⟩
 ·obtain ⟨m, rfl⟩ : ∃ m : Nat, n = m := ⟨n.toNat, by omega⟩
  obtain ⟨i, zv, hi, hzv, hcz, _⟩ := Qjv Tryz.prog (t := 3) (z := [.d (.int .i64 0)]) (by kernel_rfl)
  have hsz : i.size = 1 := (Qd3 Tryz.prog hi).symm.trans (by kernel_rfl)
  have hby : i.bytes = 8 := by
   have : Tryz.prog.bytesOf 3 = 8 := by kernel_rfl
   simpa [Program.bytesOf, hi] using this
  have hzs : zv.cells.size = 1 := by have := (hcz g w).len; simpa using this
  have hz1 : ∀ q, ∀ u ∈ (Builtin.zeroCells zv.cells q).toList, u.oneCell' = true := by
   intro q u hu
   refine (hcz g w).one u ?_
   simp only [Builtin.zeroCells] at hu
   have hu' : ∃ a, a < q * zv.cells.size ∧ zv.cells[a % zv.cells.size]! = u := by simpa using hu
   obtain ⟨j, hj, rfl⟩ := hu'
   have hlt : j % zv.cells.size < zv.cells.size := Nat.mod_lt _ (by omega)
   rw [getElem!_pos zv.cells _ hlt]
   simp
  have hge := grownCap_ge w (0 + m) 0 3
  have hle := grownCap_le_maxLen w (0 + m) 0 3 (by simp only [maxLen]; omega)
  refine (Any8.slices_Grow_grow Tryz.laysGrow i zv hi hzv (by omega) a 0 0 m [] w (by omega) (by omega) (by rw [hby]; omega) (by omega) (by simp) (fun _ => rfl) (fun _ _ j v hj => by simp at hj)).mono ?_
  rintro e w' ⟨rfl, rfl⟩
  refine .inr ⟨_, _, _, rfl, rfl, ?_, hle, fun u hu => ?_⟩
  ·simp only [Array.size_append, size_zeroCells, hzs, List.size_toArray, List.length_nil]
   show _ = grownCap w (0 + m) 0 3 * 1
   simp only [show (Tryz.laysGrow_ren.t 25) = 3 from rfl]
   omega
  ·simp only [Array.toList_append, List.mem_append, List.nil_append] at hu
   rcases hu with hu | hu
   ·exact hz1 _ u hu
   ·exact hz1 _ u hu
end Go.Proofs
end
section
namespace Go.Proofs
open Go Go.Abs
set_option linter.unusedVariables false
set_option maxRecDepth 10000
set_option maxHeartbeats 4000000
theorem Qtp : Qgc Tryz.prog 34 Qki:=Qqa Qxf
theorem Q2e : Qh6 Tryz.prog 79 Qf0:=Qw7 Q5h Qbq
theorem Q7d : Qjw Tryz.prog 88 Qg7:=Q1x Q8i Qbq
theorem Qbs : Qbk Tryz.prog 56 Qy:=Qte Q7d Q18
theorem Qxh : Qgv Tryz.prog 80 Qe8:=Qrj Qbs Qzz Qbq
theorem Qfm : Qd4 Tryz.prog 46 Qc9:=Q45 Q2e Qxh Q9u
theorem Qz2 : Qhe Tryz.prog 49 Qhu:=Qtf Q17 Qbq
theorem Qgk : Qeh Tryz.prog 38 Qdd:=Q1y Qfm Qz2 Q8f
theorem Qhw : Qer Tryz.prog 39 Qdw:=Qw8 Qbs Q5f Qbq
theorem Qme : Qek Tryz.prog 83 Q9:=Qkq Qm9
theorem Qg9 : Qdr Tryz.prog 50 Qc0:=Ql8 Qbs Tryz.rowK33 Qme Qpv Qbq
theorem Qha : Qds Tryz.prog 40 Qc1:=Ql9 Qg9 Qpu
theorem Qkk : Qdx Tryz.prog 78 Qdz:=Qi4 Qbs Qkt
theorem Qxi : Qgx Tryz.prog 89 Qg3:=Qrk Qz0 Qbq
theorem Qff : Qdf Tryz.prog 58 Qcl:=Qoa Qxi Qrp
theorem Qlr : Qeb Tryz.prog 42 Qde:=Qkf Qff Qkk Qmb
theorem Qhx : Qd0 Tryz.prog 43 Qdb:=Qm7 Qg9 Qqe Qbq
theorem Qmf : Qfy Tryz.prog 12 Qes:=Qw9 Qgk Qhw Qha Tryz.keyK Qlr Qhx Q5c Qbq
theorem Qmg : Qem Tryz.prog 84 Qgn:=Qkr Qbs Qna
theorem Qhb : Qdt Tryz.prog 52 Qe5:=Qma Qff Qmg Qpw
theorem Qi9 : Qfi Tryz.prog 55 Qcu:=Q1z Q8g
theorem Q8l : Qk6 Tryz.prog 31 Qto:=Q46 Qgk Qhw Qhb Qi9 Qbs Q9t Qbq
theorem Q5i : Qir Tryz.prog 65 Qpx:=Qzq Q7a
theorem Q5j : Qit Tryz.prog 66 Qpy:=Qzr Tryz.growK Q7b Qbq
theorem Qbev : Qkv Tryz.prog 70 Qz1:=Qrl Qzy
theorem Qbak : Qow Tryz.prog 121 Q2c:=Q8c Qbbx
theorem Qbb3 : Qq1 Tryz.prog 97 Q5t:=Q9r Qbak Qbco
theorem Q7e : Qj0 Tryz.prog 98 Qqn:=Q10 Q8j
theorem Qqf : Qfp Tryz.prog 82 Qil:=Qob Qbb3 Q7e Qrq Qbq
theorem Qmh : Qeo Tryz.prog 85 Qdi:=Qks Qnb Qbq
theorem Q8m : Qlh Tryz.prog 86 Qh1:=Q47 Q9w
theorem Q8n : Qlj Tryz.prog 87 Qh2:=Q48 Q9x
theorem Qnc : Qhg Tryz.prog 54 Qed:=Q8d Qmh Q8m Q8n Qbbw
theorem Qz3 : Qhh Tryz.prog 48 Qmc:=Qtg Qnc Qi9 Qqf Q16 Qbq
theorem Qz4 : Qhj Tryz.prog 71 Qmd:=Qth Qfm Qz3 Q19
theorem Q2f : Qia Tryz.prog 35 Qne:=Qxa Qgk Qbs Q5i Q5j Tryz.rowK33 Tryz.compK34 Tryz.rowK36 Qz4 Q5e Qbq
theorem Qfv : Qdo Tryz.prog 19 Qei:=Qpt Qtn Qbq
theorem Q2g : Qic Tryz.prog 14 Qnf:=Qxb Qfv Q5d Qbq
theorem Qqg : Qfr Tryz.prog 15 Qim:=Qoc Qfv Qrn Qbq
theorem Qz5 : Qhl Tryz.prog 8 Qhv:=Qti Qmf Q2g Qqg Qfv Q8l Qtp Q2f Q13
theorem Qpz : Qfd Tryz.prog 11 Qd1:=Qm8 Qqd Qbq
theorem Qkw : Qfj Tryz.prog 36 Qee:=Qtj Q15
theorem Qmi : Qfz Tryz.prog 74 Qb9:=Qxc Q5g Qbq
theorem Qng : Qge Tryz.prog 73 Qc2:=Qzs Q7c Qbq
theorem Qz6 : Qho Tryz.prog 72 Qfk:=Qtk Qng Qmi Q2a Qbq
theorem Qz7 : Qhq Tryz.prog 75 Qef:=Qtl Q2b Qbq
theorem Qqh : Qft Tryz.prog 37 Qd8:=Qod Qkw Qz6 Qng Qmi Qz7 Qro Qbq
theorem Q2h : Qif Tryz.prog 10 Qf1:=Qxd Qkw Qqh Q5b Qbq
theorem Q8o : Qll Tryz.prog 27 Qex:=Q49 Qfm Qnc Qi9 Qbs Q9s Qbq
theorem Q5k : Qiw Tryz.prog 45 Qi6:=Qzt Q68 Qbq
theorem Qtq : Qgf Tryz.prog 28 Qeu:=Qqb Q5k Qxe Qbq
theorem Qxj : Qg1 Tryz.prog 57 Qe9:=Qrm Qfm Qzx
theorem Q8p : Qln Tryz.prog 59 Qlq:=Q5a Qbs Q9v
theorem Q7f : Qj2 Tryz.prog 100 Qg8:=Q11 Q8k
theorem Qtr : Qgh Tryz.prog 99 Qev:=Qqc Qxg Qbq
theorem Q9y : Qm5 Tryz.prog 90 Qin:=Q65 Qnc Qtr Q7f Qbaj
theorem Qp0 : Qg6 Tryz.prog 60 Qfl:=Q12 Q9y Q8h Qbq
theorem Qbal : Qpr Tryz.prog 29 Qkj:=Q8e Qxj Qff Q8p Qp0 Qbbv
theorem Q5l : Qiy Tryz.prog 22 Qi7:=Qzu Q66 Qbq
theorem Q5m : Qi0 Tryz.prog 61 Qi8:=Qzv Qp0 Q69
theorem Q5n : Qi2 Tryz.prog 30 Qgj:=Qzw Qfm Qbs Q5m Q67
theorem Q8x : Qf8 Tryz.prog 6 Qd6:=Qjr Qz5 Q2h Qpz Qmf Q5l Q8o Qtq Qbal Q5n Qlp Qbq
theorem Qbe6 : Ql7 Tryz.prog 25 Q2d:=Qtm Qgk Qhw Qha Qhx Qhb Q14 Qbq
end Go.Proofs
end
section
namespace Go.Abs
open Go Go.ChangeShapes Go.WideShapes Go.ChangeAt Go.RowKit
set_option linter.unusedVariables false
set_option linter.unusedSimpArgs false
def live (w : World) : Nat → Nat → Prop:=fun b o=>(w.cell? ⟨b,o,none⟩).isSome = true
def RDs (w : World) : List D → List Value → Prop
 | [],vs=>vs = []
 | x :: xs,vs=>∃ u us,vs = u :: us ∧ RD (live w) w x u ∧ RDs w xs us
theorem Qbdm {w : World} : ∀ {xs ys : List D} {us vs : List Value},RDs w xs us → RDs w ys vs → RDs w (xs ++ ys) (us ++ vs)
 | [],ys,us,vs,h,k=>by simp only [RDs] at h; subst h; simpa using k
 | x :: xs,ys,us,vs,⟨u,us',e,r,h⟩,k=>by subst e; exact ⟨u,us' ++ vs,by simp,r,Qbdm h k⟩
def RDat (w : World) (cs : List Value) (off : Nat) (xs : List D) : Prop:=RDs w xs ((cs.drop off).take xs.length)
theorem RDat.app {w : World} {cs : List Value} {off : Nat} {xs ys : List D} (h : RDat w cs off xs) {n : Nat} (hn : n = off + xs.length) (k : RDat w cs n ys) : RDat w cs off (xs ++ ys):=by
 subst hn
 have:=Qbdm h k
 unfold RDat
 rw [List.length_append,List.take_add,List.drop_drop]
 exact this
theorem RDat.nil {w : World} {cs : List Value} {off : Nat} : RDat w cs off []:=by simp [RDat,RDs]
theorem RDat.all {w : World} {cs : List Value} {xs : List D} (h : RDat w cs 0 xs) (hl : cs.length = xs.length) : RDs w xs cs:=by
 unfold RDat at h
 rw [List.drop_zero,← hl,List.take_length] at h
 exact h
def Qbew {α : Type} (P : Program) (t : TypeId) (e : α → List D) (wf : α → Prop) : Prop :=
 ∀ {H : Type} {enc : TypeId × Value → H} {w : World} {base : Nat} {spare : Nat → Bool} {held : Bool} {fuel : Nat} {cs : List Value} {x : DataW H × List MemPlace},
  DataW.trod enc P w base spare held fuel t cs = some x → ∃ a,wf a ∧ RDs w (e a) cs
def wfI (k : IntKind) (n : Int) : Prop:=(Lit.int k n).wf = true
variable {P : Program} {t : TypeId}
theorem Qbf9 {k : IntKind} (ht : P.underlying t = some (.int k)) : Qbew P t (fun n : Int=>[.int k n]) (wfI k):=by
 intro H enc w base spare held fuel cs x h
 obtain ⟨n,rfl,_,hw⟩:=DataW.trod_int ht h
 exact ⟨n,hw,_,_,rfl,by simp [RD],rfl⟩
theorem Qgl {α : Type} {el : TypeId} {e : α → List D} {wf : α → Prop} {sz : Nat} (he : Qbew P el e wf) (hsz : P.cellsOf el = sz) (hlen : ∀ a,(e a).length = sz)
  {H : Type} {enc : TypeId × Value → H} {w : World} {base : Nat} {spare : Nat → Bool} {held : Bool} {fuel off : Nat} {cs : List Value} {x : DataW H × List MemPlace}
  (h : DataW.trod enc P w base spare held fuel el ((cs.drop off).take (P.cellsOf el)) = some x) : ∃ a,wf a ∧ RDat w cs off (e a):=by
 obtain ⟨a,h1,h2⟩:=he h
 refine ⟨a,h1,?_⟩
 unfold RDat
 rw [hlen,← hsz]; exact h2
theorem Qbln {H : Type} {enc : TypeId × Value → H} {w : World} {base : Nat} {spare : Nat → Bool} {held : Bool} {fuel : Nat} {cs : List Value} {x : DataW H × List MemPlace} {fs : Array Field}
  (ht : P.underlying t = some (.struct fs)) (h : DataW.trod enc P w base spare held fuel t cs = some x) :
  cs.length = P.cellsOf t ∧ ∃ n,∀ (i : Nat) (f : Field),fs[i]? = some f → ∃ y,DataW.trod enc P w base spare held n f.type ((cs.drop f.offset).take (P.cellsOf f.type)) = some y:=by
 obtain ⟨xs,n,_,_,h1,h2,h3⟩:=DataW.trod_struct ht h
 refine ⟨h1,n,fun i f hf=>?_⟩
 have hi : i < fs.size:=(Array.getElem?_eq_some_iff.1 hf).1
 exact ⟨xs[i]'(by omega),by rw [h3 i f hf]; exact List.getElem?_eq_getElem (by omega)⟩
theorem Qbmy {H : Type} {enc : TypeId × Value → H} {w : World} {base : Nat} {spare : Nat → Bool} {held : Bool} {fuel : Nat} {cs : List Value} {x : DataW H × List MemPlace} {n : Nat} {el : TypeId}
  (ht : P.underlying t = some (.array n el)) (h : DataW.trod enc P w base spare held fuel t cs = some x) :
  cs.length = P.cellsOf t ∧ ∃ m,∀ i,i < n → ∃ y,DataW.trod enc P w base spare held m el ((cs.drop (i * P.cellsOf el)).take (P.cellsOf el)) = some y:=by
 obtain ⟨xs,m,_,_,h1,h2,h3⟩:=DataW.trod_array ht h
 exact ⟨h1,m,fun i hi=>⟨xs[i]'(by omega),by rw [h3 i hi]; exact List.getElem?_eq_getElem (by omega)⟩⟩
def Q8q {α : Type} (P : Program) (t : TypeId) (v : α → V) (wf : α → Prop) : Prop :=
 ∀ {H : Type} {enc : TypeId × Value → H} {w : World} {base b0 : Nat} {spare : Nat → Bool} {held : Bool} {u : Value} {d : DataW H} {ps : List MemPlace},
  Value.okWide P w .any b0 t u → DataW.Trod enc P w base spare held t u d ps → ∃ a,wf a ∧ RF ⟨fun _=>0,live w,fun _=>.ext⟩ w (v a) u
theorem Qbpl {imm : Nat → Nat → Prop} {w : World} {x : D} {u : Value} (h : RD imm w x u) : u.oneCell' = true:=by
 cases x with
 | int k n=>simp only [RD] at h; subst h; rfl
 | bool b=>simp only [RD] at h; subst h; rfl
 | str s=>simp only [RD] at h; subst h; rfl
 | lst sz l=>simp only [RD] at h; obtain ⟨a,cap,rfl,_⟩:=h; cases a <;> rfl
theorem Qblo {w : World} {g : G} (hg : g.imm = live w) : ∀ {xs : List D} {us : List Value} {ℓ : Owner} {i : Nat},RDs w xs us → RVs g w (xs.map V.d) ℓ i us ∧ ∀ u ∈ us,u.oneCell' = true
 | [],us,ℓ,i,h=>by simp only [RDs] at h; subst h; simp [RVs]
 | x :: xs,us,ℓ,i,⟨u,us',e,r,h⟩=>by
  subst e
  obtain ⟨h1,h2⟩:=Qblo hg (ℓ:=ℓ) (i:=i + 1) h
  refine ⟨⟨u,us',rfl,by simpa [RV,hg] using r,h1⟩,fun v hv=>?_⟩
  rcases List.mem_cons.1 hv with rfl | hv
  ·exact Qbpl r
  ·exact h2 v hv
theorem Qblp {α : Type} {e : α → List D} {wf : α → Prop} (he : Qbew P t e wf) (hagg : (∃ fs,P.underlying t = some (.struct fs)) ∨ ∃ n el,P.underlying t = some (.array n el)) : Q8q P t (fun a=>.agg ((e a).map V.d)) wf:=by
 intro H enc w base b0 spare held u d ps hok hd
 obtain ⟨cs,rfl⟩ : ∃ cs,u = .agg cs:=by
  rcases hagg with ⟨fs,ht⟩ | ⟨n,el,ht⟩
  ·simp only [Value.okWide,ht] at hok; obtain ⟨cs,rfl,_⟩:=hok; exact ⟨cs,rfl⟩
  ·simp only [Value.okWide,ht] at hok; obtain ⟨cs,rfl,_⟩:=hok; exact ⟨cs,rfl⟩
 obtain ⟨fuel,hf⟩:=hd
 obtain ⟨a,h1,h2⟩:=he hf
 refine ⟨a,h1,fun ℓ=>?_⟩
 simp only [RV]
 obtain ⟨h3,h4⟩:=Qblo (g:=⟨fun _=>0,live w,fun _=>.ext⟩) rfl (ℓ:=ℓ) (i:=0) h2
 exact ⟨cs.toList,by simp,h3,h4⟩
def Qbpm (P : Program) (f : FuncId) (ts : List TypeId) : Prop :=
 ∀ {H : Type} {enc : TypeId × Value → H} {w : World} {b0 : Nat} {us : List Value} {ds : List (DataW H)} {ps : List MemPlace},
  (∀ (j : Nat) t u,ts[j]? = some t → us[j]? = some u → Value.okWide P w .any b0 t u) → DataW.TrodAll enc P w 0 (fun _=>true) true ts us ds ps →
  ∃ vs,RFs ⟨fun _=>0,live w,fun _=>.ext⟩ w vs us ∧ (∀ x ∈ vs,Flat x) ∧ V.lt.go 0 vs = true ∧ ∀ M nb,ACalls P f vs M nb (.d (.bool true)) M nb
theorem Q8r (hl : laidOutB P = true) {W W' : World} {sp : Nat → Bool} {H : Type} {enc : TypeId × Value → H} : ∀ {ts : List TypeId} {us : List Value} {ds : List (DataW H)} {ps : List MemPlace},
  (∀ t ∈ ts,P.readableRec t = true ∧ t < P.types.size) → DataW.TrodAll enc P W 0 (fun _=>true) true ts us ds ps → (∀ p ∈ ps,W.sameAt W' p) → (∀ p ∈ ps,sp p.block = true) → DataW.TrodAll enc P W' 0 sp true ts us ds ps
 | [],[],[],ps,_,h,_,_=>h
 | t :: ts,u :: us,d :: ds,ps,hr,⟨p,q,h1,h2,e⟩,hs,hp=>by
  subst e
  obtain ⟨r1,r2⟩:=hr t (by simp)
  exact ⟨p,q,WideElems.Trod_stays hl r1 r2 h1 (fun x hx=>hs x (by simp [hx])) (fun x hx=>hp x (by simp [hx])),Q8r hl (fun t ht=>hr t (by simp [ht])) h2 (fun x hx=>hs x (by simp [hx])) (fun x hx=>hp x (by simp [hx])),rfl⟩
 | [],[],_ :: _,_,_,h,_,_=>h.elim
 | [],_ :: _,_,_,_,h,_,_=>h.elim
 | _ :: _,[],_,_,_,h,_,_=>h.elim
 | _ :: _,_ :: _,[],_,_,h,_,_=>h.elim
theorem Qbb4 {W : World} {sp : Nat → Bool} {held : Bool} {base : Nat} {H : Type} {enc : TypeId × Value → H} : ∀ {ts : List TypeId} {us : List Value} {ds : List (DataW H)} {ps : List MemPlace},
  DataW.TrodAll enc P W base sp held ts us ds ps → ds.length = ts.length ∧ us.length = ts.length
 | [],[],[],ps,h=>⟨rfl,rfl⟩
 | t :: ts,u :: us,d :: ds,ps,⟨p,q,h1,h2,e⟩=>by have:=Qbb4 h2; simp [this.1,this.2]
 | [],[],_ :: _,_,h=>h.elim
 | [],_ :: _,_,_,h=>h.elim
 | _ :: _,[],_,_,h=>h.elim
 | _ :: _,_ :: _,[],_,h=>h.elim
theorem Qbop {C : Checked} {f : FuncId} {fn : Func} {s : ChangeSpec} {conds : List PathCond} {bt : TypeId} {os : Os} {H : Type} {enc : TypeId × Value → H}
  (own : ownKnob C.prog.godebug = none) (started : os.Started) (noInit : C.prog.inits.idxOf? f = none) (hfn : C.prog.funcs[f]? = some fn)
  (witness : ∃ (w : World) (tape : Tape) (i : Input),w.os = os ∧ (w.forCall tape i).Shaped C.prog ∧ i.vars = [] ∧ Input.okWide C.prog (w.forCall tape i) .any w.heap.size f i ∧
   s.pre6 enc C.prog fn conds false (w.forCall tape i).memory i.args ∧ ({} : Assume).holds C.prog (lone (Frame.enter C.prog f i.args .normal) [] (w.forCall tape i)))
  (hvars : s.vars = []) (hres : fn.resultTypes = #[bt]) (hbt : C.prog.underlying bt = some .bool)
  (hl : laidOutB C.prog = true) (hread : ∀ t ∈ fn.params.toList,C.prog.readableRec t = true ∧ t < C.prog.types.size)
  (hspec : ∀ ds : List (DataW H),ds.length = fn.params.size → s.fn H ds = { results:=[.lit (.bool true)],args:=ds })
  (law : Qbpm C.prog f fn.params.toList) :
  ReturnsInHanded {} C os f .any (s.pre6 enc C.prog fn conds false) (s.post enc C.prog fn false true false false):=by
 refine returnsInHanded_of_change own started noInit hfn witness ?_
 intro W base args ds gs before hval hW hcnd _
 have hW':=hW
 obtain ⟨p,q,hA,hV,hps,hfz,hnd⟩:=hW
 rw [hvars] at hV
 obtain ⟨rfl,rfl⟩ : gs = [] ∧ q = []:=by
  cases gs with
  | nil=>exact ⟨rfl,hV⟩
  | cons _ _=>exact hV.elim
 obtain ⟨vs,h1,h2,h3,h4⟩:=law (fun j t u ht hu=>hval j t u (by simpa using ht) (by simpa using hu)) hA
 obtain ⟨hb,_,h5⟩:=h4 (fun _=>none) 0
 have hlv : ∀ b o,live W b o → b < W.heap.size:=by
  intro b o h
  simp only [live] at h
  obtain ⟨v,hv⟩:=Option.isSome_iff_exists.1 h
  unfold World.cell? at hv
  split at hv
  ·rename_i hh; exact (Array.getElem?_eq_some_iff.1 hh).1
  ·cases hv
 have hmr : MR ⟨fun _=>0,live W,fun _=>.ext⟩ W (fun _=>none) 0:=⟨fun k b h=>(by cases h),fun b o h=>⟨hlv b o h,fun k h=>by cases h⟩⟩
 have h6:=h5 W ⟨fun _=>0,live W,fun _=>.ext⟩ args.toList hmr (fun k cs h=>by cases h) (fun b=>⟨fun t p h=>(by cases h),fun p h=>(by cases h)⟩) h1 h2 (ons_mono (fun k hk=>absurd hk (Nat.not_lt_zero k)) _ (ons_lt vs h3))
 refine Calls.mono h6 fun e W' ⟨v,g',he,_,hr,_,_,hf⟩=>?_
 subst he
 have hv : v = .bool true:=by simpa [RV,RD] using hr
 subst hv
 have hbelow : Below W.heap.size W W':=⟨hf.os,hf.tape,hf.output,hf.size,fun k hk=>(hf.old k hk trivial).2.1⟩
 have hrl : (Value.bool true).resultList fn.resultTypes.size = [.bool true]:=by rw [hres]; rfl
 have hsp : s.fn H (ds ++ []) = { results:=[.lit (.bool true)],args:=ds }:=by
  rw [List.append_nil]
  exact hspec ds (by have:=(Qbb4 hA).1; simpa using this)
 have hlt : ∀ p ∈ before,p.block < W.heap.size:=fun x hx=>hW'.lt x hx
 have hst : ∀ sp : Nat → Bool,(∀ p ∈ before,sp p.block = true) → DataW.TrodAll enc C.prog W' 0 sp true fn.params.toList args.toList ds before:=by
  intro sp hsp'
  have e : p = before:=by rw [hps,List.append_nil]
  subst e
  exact Q8r hl hread hA (fun x hx=>hbelow.same (hlt x hx)) hsp'
 refine ⟨_,rfl,ds,[],before,[],before,[],hW',?_,?_,?_,World.keptBut_mono (fun p hp=>⟨hp,.inr (.inl hp)⟩) (hbelow.frame (· ∈ before)),fun h=>by cases h⟩
 ·rw [hsp,hrl,hres]
  exact ⟨[],[],⟨1,by simp [DataW.trod,Value.cells,hbt]⟩,rfl,rfl⟩
 ·rw [hsp]
  exact hst _ fun p hp=>by simpa using hlt p hp
 ·rw [hsp,hvars]; rfl
section
variable {α β γ δ : Type} {f : FuncId} {ta tb tc td : TypeId} {va : α → V} {vb : β → V} {vc : γ → V} {vd : δ → V} {wa : α → Prop} {wb : β → Prop} {wc : γ → Prop} {wd : δ → Prop}
theorem Qbb5 {H : Type} {enc : TypeId × Value → H} {w : World} {base : Nat} {sp : Nat → Bool} {held : Bool} {t : TypeId} {ts : List TypeId} {us : List Value} {ds : List (DataW H)} {ps : List MemPlace} (h : DataW.TrodAll enc P w base sp held (t :: ts) us ds ps) :
  ∃ u us' d ds' p q,us = u :: us' ∧ ds = d :: ds' ∧ DataW.Trod enc P w base sp held t u d p ∧ DataW.TrodAll enc P w base sp held ts us' ds' q:=by
 match us,ds,h with
 | u :: us',d :: ds',⟨p,q,h1,h2,_⟩=>exact ⟨u,us',d,ds',p,q,rfl,rfl,h1,h2⟩
 | [],[],h=>exact h.elim
 | [],_ :: _,h=>exact h.elim
 | _ :: _,[],h=>exact h.elim
theorem Qbhj {H : Type} {enc : TypeId × Value → H} {w : World} {base : Nat} {sp : Nat → Bool} {held : Bool} {us : List Value} {ds : List (DataW H)} {ps : List MemPlace} (h : DataW.TrodAll enc P w base sp held [] us ds ps) : us = []:=by
 match us,ds,h with
 | [],[],_=>rfl
 | [],_ :: _,h=>exact h.elim
 | _ :: _,[],h=>exact h.elim
 | _ :: _,_ :: _,h=>exact h.elim
theorem Qbp3 (ra : Q8q P ta va wa) (fa : ∀ a,(va a).dem = va a) (la : ∀ a,(va a).lt 0 = true) (rb : Q8q P tb vb wb) (fb : ∀ a,(vb a).dem = vb a) (lb : ∀ a,(vb a).lt 0 = true)
  (law : ∀ a b,wa a → wb b → ∀ M nb,ACalls P f [va a,vb b] M nb (.d (.bool true)) M nb) : Qbpm P f [ta,tb]:=by
 intro H enc w b0 us ds ps hok hT
 obtain ⟨u,us',d,ds',p,q,rfl,rfl,h1,hT⟩:=Qbb5 hT
 obtain ⟨u2,us',d2,ds',p2,q2,rfl,rfl,h2,hT⟩:=Qbb5 hT
 obtain rfl:=Qbhj hT
 obtain ⟨a,ha,hra⟩:=ra (hok 0 _ _ rfl rfl) h1
 obtain ⟨b,hb,hrb⟩:=rb (hok 1 _ _ rfl rfl) h2
 refine ⟨[va a,vb b],⟨u,_,rfl,hra,u2,_,rfl,hrb,rfl⟩,?_,by simp [V.lt.go,la,lb],law a b ha hb⟩
 intro x hx
 simp only [List.mem_cons,List.not_mem_nil,or_false] at hx
 rcases hx with rfl | rfl
 ·exact fa a
 ·exact fb b
end
theorem Qblq {H : Type} {enc : TypeId × Value → H} {w : World} {base : Nat} {spare : Nat → Bool} {held : Bool} {fuel : Nat} {cs : List Value} {x : DataW H × List MemPlace} {n sz : Nat} {el : TypeId}
  (ht : P.underlying t = some (.array n el)) (hsz : P.cellsOf el = sz) (h : DataW.trod enc P w base spare held fuel t cs = some x) :
  cs.length = P.cellsOf t ∧ ∃ m,∀ i,i < n → ∃ y,DataW.trod enc P w base spare held m el ((cs.drop (i * sz)).take (P.cellsOf el)) = some y:=by
 obtain ⟨h1,m,h2⟩:=Qbmy ht h
 exact ⟨h1,m,fun i hi=>by have:=h2 i hi; rwa [show i * P.cellsOf el = i * sz from by rw [hsz]] at this⟩
end Go.Abs
end
section
namespace Go.Proofs
open Go Go.Abs
set_option linter.unusedVariables false
set_option maxRecDepth 100000
def W_22 (x : Int) : Prop:=wfI .u8 x
theorem R_22 : Qbew Tryz.prog 22 (eI .u8) W_22:=Qbf9 Tryz.underlying22
def W_45 (x : Int × Int) : Prop:=W_22 x.1 ∧ W_22 x.2
theorem R_45 : Qbew Tryz.prog 45 (fun p : Int × Int=>[.int .u8 p.1,.int .u8 p.2]) W_45:=by
  intro H enc w base spare held fuel cs x h
  obtain ⟨hl,n,hf⟩:=Qblq (sz:=1) Tryz.underlying45 (by kernel_rfl) h
  obtain ⟨y0,h0⟩:=hf 0 (by decide)
  obtain ⟨a0,w0,r0⟩:=Qgl (off:=0 * 1) (sz:=1) R_22 (by kernel_rfl) (fun _=>rfl) h0
  obtain ⟨y1,h1⟩:=hf 1 (by decide)
  obtain ⟨a1,w1,r1⟩:=Qgl (off:=1 * 1) (sz:=1) R_22 (by kernel_rfl) (fun _=>rfl) h1
  exact ⟨(a0,a1),⟨w0,w1⟩,RDat.all (xs:=(fun p : Int × Int=>[.int .u8 p.1,.int .u8 p.2]) (a0,a1)) (RDat.app r0 rfl r1) (hl.trans (by kernel_rfl))⟩
theorem A_45 : Q8q Tryz.prog 45 (fun (a : Int × Int)=>.agg [.d (.int .u8 a.1),.d (.int .u8 a.2)]) W_45:=Qblp R_45 (.inr ⟨_,_,Tryz.underlying45⟩)
def W_5 (x : Int) : Prop:=wfI .u8 x
theorem R_5 : Qbew Tryz.prog 5 (eI .u8) W_5:=Qbf9 Tryz.underlying5
def W_23 (x : Int × Int × Int × Int × Int) : Prop:=W_5 x.1 ∧ W_5 x.2.1 ∧ W_5 x.2.2.1 ∧ W_5 x.2.2.2.1 ∧ W_5 x.2.2.2.2
theorem R_23 : Qbew Tryz.prog 23 (fun p : Int × Int × Int × Int × Int=>[.int .u8 p.1,.int .u8 p.2.1,.int .u8 p.2.2.1,.int .u8 p.2.2.2.1,.int .u8 p.2.2.2.2]) W_23:=by
  intro H enc w base spare held fuel cs x h
  obtain ⟨hl,n,hf⟩:=Qblq (sz:=1) Tryz.underlying23 (by kernel_rfl) h
  obtain ⟨y0,h0⟩:=hf 0 (by decide)
  obtain ⟨a0,w0,r0⟩:=Qgl (off:=0 * 1) (sz:=1) R_5 (by kernel_rfl) (fun _=>rfl) h0
  obtain ⟨y1,h1⟩:=hf 1 (by decide)
  obtain ⟨a1,w1,r1⟩:=Qgl (off:=1 * 1) (sz:=1) R_5 (by kernel_rfl) (fun _=>rfl) h1
  obtain ⟨y2,h2⟩:=hf 2 (by decide)
  obtain ⟨a2,w2,r2⟩:=Qgl (off:=2 * 1) (sz:=1) R_5 (by kernel_rfl) (fun _=>rfl) h2
  obtain ⟨y3,h3⟩:=hf 3 (by decide)
  obtain ⟨a3,w3,r3⟩:=Qgl (off:=3 * 1) (sz:=1) R_5 (by kernel_rfl) (fun _=>rfl) h3
  obtain ⟨y4,h4⟩:=hf 4 (by decide)
  obtain ⟨a4,w4,r4⟩:=Qgl (off:=4 * 1) (sz:=1) R_5 (by kernel_rfl) (fun _=>rfl) h4
  exact ⟨(a0,a1,a2,a3,a4),⟨w0,w1,w2,w3,w4⟩,RDat.all (xs:=(fun p : Int × Int × Int × Int × Int=>[.int .u8 p.1,.int .u8 p.2.1,.int .u8 p.2.2.1,.int .u8 p.2.2.2.1,.int .u8 p.2.2.2.2]) (a0,a1,a2,a3,a4)) (RDat.app r0 rfl (RDat.app r1 rfl (RDat.app r2 rfl (RDat.app r3 rfl r4)))) (hl.trans (by kernel_rfl))⟩
def W_24 (x : (Int × Int × Int × Int × Int) × (Int × Int × Int × Int × Int) × (Int × Int × Int × Int × Int) × (Int × Int × Int × Int × Int) × (Int × Int × Int × Int × Int)) : Prop:=W_23 x.1 ∧ W_23 x.2.1 ∧ W_23 x.2.2.1 ∧ W_23 x.2.2.2.1 ∧ W_23 x.2.2.2.2
theorem R_24 : Qbew Tryz.prog 24 (fun p : (Int × Int × Int × Int × Int) × (Int × Int × Int × Int × Int) × (Int × Int × Int × Int × Int) × (Int × Int × Int × Int × Int) × (Int × Int × Int × Int × Int)=>[.int .u8 p.1.1,.int .u8 p.1.2.1,.int .u8 p.1.2.2.1,.int .u8 p.1.2.2.2.1,.int .u8 p.1.2.2.2.2,.int .u8 p.2.1.1,.int .u8 p.2.1.2.1,.int .u8 p.2.1.2.2.1,.int .u8 p.2.1.2.2.2.1,.int .u8 p.2.1.2.2.2.2,.int .u8 p.2.2.1.1,.int .u8 p.2.2.1.2.1,.int .u8 p.2.2.1.2.2.1,.int .u8 p.2.2.1.2.2.2.1,.int .u8 p.2.2.1.2.2.2.2,.int .u8 p.2.2.2.1.1,.int .u8 p.2.2.2.1.2.1,.int .u8 p.2.2.2.1.2.2.1,.int .u8 p.2.2.2.1.2.2.2.1,.int .u8 p.2.2.2.1.2.2.2.2,.int .u8 p.2.2.2.2.1,.int .u8 p.2.2.2.2.2.1,.int .u8 p.2.2.2.2.2.2.1,.int .u8 p.2.2.2.2.2.2.2.1,.int .u8 p.2.2.2.2.2.2.2.2]) W_24:=by
  intro H enc w base spare held fuel cs x h
  obtain ⟨hl,n,hf⟩:=Qblq (sz:=5) Tryz.underlying24 (by kernel_rfl) h
  obtain ⟨y0,h0⟩:=hf 0 (by decide)
  obtain ⟨a0,w0,r0⟩:=Qgl (off:=0 * 5) (sz:=5) R_23 (by kernel_rfl) (fun _=>rfl) h0
  obtain ⟨y1,h1⟩:=hf 1 (by decide)
  obtain ⟨a1,w1,r1⟩:=Qgl (off:=1 * 5) (sz:=5) R_23 (by kernel_rfl) (fun _=>rfl) h1
  obtain ⟨y2,h2⟩:=hf 2 (by decide)
  obtain ⟨a2,w2,r2⟩:=Qgl (off:=2 * 5) (sz:=5) R_23 (by kernel_rfl) (fun _=>rfl) h2
  obtain ⟨y3,h3⟩:=hf 3 (by decide)
  obtain ⟨a3,w3,r3⟩:=Qgl (off:=3 * 5) (sz:=5) R_23 (by kernel_rfl) (fun _=>rfl) h3
  obtain ⟨y4,h4⟩:=hf 4 (by decide)
  obtain ⟨a4,w4,r4⟩:=Qgl (off:=4 * 5) (sz:=5) R_23 (by kernel_rfl) (fun _=>rfl) h4
  exact ⟨(a0,a1,a2,a3,a4),⟨w0,w1,w2,w3,w4⟩,RDat.all (xs:=(fun p : (Int × Int × Int × Int × Int) × (Int × Int × Int × Int × Int) × (Int × Int × Int × Int × Int) × (Int × Int × Int × Int × Int) × (Int × Int × Int × Int × Int)=>[.int .u8 p.1.1,.int .u8 p.1.2.1,.int .u8 p.1.2.2.1,.int .u8 p.1.2.2.2.1,.int .u8 p.1.2.2.2.2,.int .u8 p.2.1.1,.int .u8 p.2.1.2.1,.int .u8 p.2.1.2.2.1,.int .u8 p.2.1.2.2.2.1,.int .u8 p.2.1.2.2.2.2,.int .u8 p.2.2.1.1,.int .u8 p.2.2.1.2.1,.int .u8 p.2.2.1.2.2.1,.int .u8 p.2.2.1.2.2.2.1,.int .u8 p.2.2.1.2.2.2.2,.int .u8 p.2.2.2.1.1,.int .u8 p.2.2.2.1.2.1,.int .u8 p.2.2.2.1.2.2.1,.int .u8 p.2.2.2.1.2.2.2.1,.int .u8 p.2.2.2.1.2.2.2.2,.int .u8 p.2.2.2.2.1,.int .u8 p.2.2.2.2.2.1,.int .u8 p.2.2.2.2.2.2.1,.int .u8 p.2.2.2.2.2.2.2.1,.int .u8 p.2.2.2.2.2.2.2.2]) (a0,a1,a2,a3,a4)) (RDat.app r0 rfl (RDat.app r1 rfl (RDat.app r2 rfl (RDat.app r3 rfl r4)))) (hl.trans (by kernel_rfl))⟩
def W_26 (x : Qba) : Prop:=W_5 x.States ∧ W_5 x.Marks ∧ W_24 x.To
theorem R_26 : Qbew Tryz.prog 26 Qlw W_26:=by
  intro H enc w base spare held fuel cs x h
  obtain ⟨hl,n,hf⟩:=Qbln Tryz.underlying26 h
  obtain ⟨y0,h0⟩:=hf 0 _ rfl
  obtain ⟨a0,w0,r0⟩:=Qgl (off:=0) (sz:=1) R_5 (by kernel_rfl) (fun _=>rfl) h0
  obtain ⟨y1,h1⟩:=hf 1 _ rfl
  obtain ⟨a1,w1,r1⟩:=Qgl (off:=1) (sz:=1) R_5 (by kernel_rfl) (fun _=>rfl) h1
  obtain ⟨y2,h2⟩:=hf 2 _ rfl
  obtain ⟨a2,w2,r2⟩:=Qgl (off:=2) (sz:=25) R_24 (by kernel_rfl) (fun _=>rfl) h2
  exact ⟨⟨a0,a1,a2⟩,⟨w0,w1,w2⟩,RDat.all (xs:=Qlw ⟨a0,a1,a2⟩) (RDat.app r0 rfl (RDat.app r1 rfl r2)) (hl.trans (by kernel_rfl))⟩
theorem A_26 : Q8q Tryz.prog 26 (fun (a : Qba)=>.agg [.d (.int .u8 a.States),.d (.int .u8 a.Marks),.d (.int .u8 a.To.1.1),.d (.int .u8 a.To.1.2.1),.d (.int .u8 a.To.1.2.2.1),.d (.int .u8 a.To.1.2.2.2.1),.d (.int .u8 a.To.1.2.2.2.2),.d (.int .u8 a.To.2.1.1),.d (.int .u8 a.To.2.1.2.1),.d (.int .u8 a.To.2.1.2.2.1),.d (.int .u8 a.To.2.1.2.2.2.1),.d (.int .u8 a.To.2.1.2.2.2.2),.d (.int .u8 a.To.2.2.1.1),.d (.int .u8 a.To.2.2.1.2.1),.d (.int .u8 a.To.2.2.1.2.2.1),.d (.int .u8 a.To.2.2.1.2.2.2.1),.d (.int .u8 a.To.2.2.1.2.2.2.2),.d (.int .u8 a.To.2.2.2.1.1),.d (.int .u8 a.To.2.2.2.1.2.1),.d (.int .u8 a.To.2.2.2.1.2.2.1),.d (.int .u8 a.To.2.2.2.1.2.2.2.1),.d (.int .u8 a.To.2.2.2.1.2.2.2.2),.d (.int .u8 a.To.2.2.2.2.1),.d (.int .u8 a.To.2.2.2.2.2.1),.d (.int .u8 a.To.2.2.2.2.2.2.1),.d (.int .u8 a.To.2.2.2.2.2.2.2.1),.d (.int .u8 a.To.2.2.2.2.2.2.2.2)]) W_26:=Qblp R_26 (.inl ⟨_,Tryz.underlying26⟩)
end Go.Proofs
end
section
namespace Go.Abs
open Go
theorem Qey {X R : Type} {F : (X → Option R) → X → Option R} (I : X → Prop) (m : X → Nat) (Q : X → Option R → Prop)
  (step : ∀ (k : X → Option R) (x : X),I x → (∀ y,I y → m y < m x → Q y (k y)) → Q x (F k x)) : ∀ (fuel : Nat) (x : X),I x → m x < fuel → Q x (Qcb F fuel x)
 | 0,x,_,h=>absurd h (Nat.not_lt_zero _)
 | fuel + 1,x,hi,h=>step _ x hi fun y hy hm=>Qey I m Q step fuel y hy (by omega)
theorem Qbmz {X R : Type} {F : (X → Option R) → X → Option R} {fuel : Nat} {x : X} (I : X → Prop) (m : X → Nat) (q : Option R) (hi : I x) (hm : m x < fuel)
  (step : ∀ (k : X → Option R) (x : X),I x → (∀ y,I y → m y < m x → k y = q) → F k x = q) : Qcb F fuel x = q :=
 Qey I m (fun _ r=>r = q) step fuel x hi hm
theorem Qrr {x : Int} (h1 : -9223372036854775808 ≤ x) (h2 : x ≤ 9223372036854775807) : IntKind.wrap .i64 x = x:=by
 simp [IntKind.wrap,IntKind.bits,IntKind.signed]; omega
theorem Qbj {n : Nat} (h : n < 9223372036854775807) : IntKind.wrap .i64 ((n : Int) + 1) = ((n + 1 : Nat) : Int):=by
 rw [Qrr (by omega) (by omega)]; omega
theorem Qb6 {α : Type} {l : List α} {n : Nat} (h : n < l.length) : getO l (n : Int) = some l[n]:=by
 simp [getO,h]
theorem Qkl {α : Type} {l : List α} {i : Int} {x : α} : getO l i = some x ↔ 0 ≤ i ∧ l[i.toNat]? = some x:=by
 unfold getO; split
 ·rename_i h; simp [h]
 ·rename_i h; simp only [reduceCtorEq,false_iff,not_and]; exact fun h'=>absurd h' h
theorem Qdc {α : Type} {l m : List α} (h : l.length + m.length ≤ lim) : appO l m = some (l ++ m):=by
 unfold appO; rw [if_pos h]
theorem Qmj {R : Type} {F : (Int → Option R) → Int → Option R} {len fuel : Nat} (G : Nat → Option R) (hf : len < fuel)
  (step : ∀ (k : Int → Option R) (n : Nat),n < len → k ((n + 1 : Nat) : Int) = G (n + 1) → F k (n : Int) = G n) (last : ∀ k : Int → Option R,F k (len : Int) = G len) : Qcb F fuel 0 = G 0:=by
 have:=Qey (F:=F) (fun x=>∃ n : Nat,x = (n : Int) ∧ n ≤ len) (fun x=>len - x.toNat) (fun x r=>∀ n : Nat,x = (n : Int) → r = G n) (fun k x hx ih=>by
  obtain ⟨n,rfl,hn⟩:=hx
  intro m hm
  obtain rfl : n = m:=by omega
  by_cases h : n < len
  ·exact step k n h (ih _ ⟨n + 1,rfl,by omega⟩ (by omega) (n + 1) rfl)
  ·obtain rfl : n = len:=by omega
   exact last k) fuel 0 ⟨0,rfl,by omega⟩ (by simpa using hf)
 exact this 0 rfl
theorem Qbga {n : Nat} (h0 : 0 < n) (h : n < 9223372036854775807) : IntKind.wrap .i64 ((n : Int) - 1) = ((n - 1 : Nat) : Int):=by
 rw [Qrr (by omega) (by omega)]; omega
theorem Qbm0 {X S R : Type} {F : (X → Option R) → X → Option R} {len : Nat} (mk : Nat → S → X) (G : Nat → S → Option R)
  (step : ∀ (k : X → Option R) (n : Nat) (s : S),n < len → (∀ s',k (mk (n + 1) s') = G (n + 1) s') → F k (mk n s) = G n s) (last : ∀ (k : X → Option R) (s : S),F k (mk len s) = G len s) :
  ∀ (fuel n : Nat) (s : S),n ≤ len → len - n < fuel → Qcb F fuel (mk n s) = G n s
 | 0,n,s,_,h=>by omega
 | fuel + 1,n,s,hn,h=>by
  show F (Qcb F fuel) (mk n s) = _
  by_cases hlt : n < len
  ·exact step _ n s hlt fun s'=>Qbm0 mk G step last fuel (n + 1) s' (by omega) (by omega)
  ·obtain rfl : n = len:=by omega
   exact last _ s
theorem Qbpn {i j : Nat} (hi : i < 1000000000000) (hj : j < 1000000000000) : IntKind.wrap .i64 (Int.fdiv (IntKind.wrap .u64 (IntKind.wrap .i64 ((i : Int) + j))) (2 ^ (min (Int.toNat 1) (IntKind.bits .u64)))) = (((i + j) / 2 : Nat) : Int):=by
 have h1 : IntKind.wrap .i64 ((i : Int) + j) = ((i + j : Nat) : Int):=by rw [Qrr (by omega) (by omega)]; omega
 have h2 : IntKind.wrap .u64 ((i + j : Nat) : Int) = ((i + j : Nat) : Int):=by
  simp [IntKind.wrap,IntKind.bits,IntKind.signed]; omega
 have h3 : (2 : Int) ^ (min (Int.toNat 1) (IntKind.bits .u64)) = 2:=by decide
 rw [h1,h2,h3,Int.fdiv_eq_ediv_of_nonneg _ (by omega),show ((i + j : Nat) : Int) / 2 = (((i + j) / 2 : Nat) : Int) from by omega,Qrr (by omega) (by omega)]
theorem Qbm1 {α : Type} {l : List α} {i j : Nat} (h : i ≤ j) (hj : j ≤ l.length) : slcO l (i : Int) (j : Int) = some ((l.take j).drop i):=by
 simp [slcO,h,hj]
theorem Qbji : ∀ {l m : List Int},l.Pairwise (· < ·) → m.Pairwise (· < ·) → (∀ x,x ∈ l ↔ x ∈ m) → l = m
 | l,m,h1,h2,h=>by
  have n1 : l.Nodup:=h1.imp fun h=>by omega
  have n2 : m.Nodup:=h2.imp fun h=>by omega
  have hp : l.Perm m:=(List.perm_ext_iff_of_nodup n1 n2).2 h
  exact List.Perm.eq_of_pairwise (le:=(· < ·)) (fun a b _ _ h1 h2=>by omega) h1 h2 hp
section
variable {α : Type} {p : α → Bool}
theorem Qbdn : ∀ {l : List α},l.Pairwise (fun a b=>p b = true → p a = true) → ∀ (n : Nat) (h : n < l.length),p l[n] = true ↔ n < (l.filter p).length
 | [],_,n,h=>by simp at h
 | x :: xs,hs,n,h=>by
  obtain ⟨h1,h2⟩:=List.pairwise_cons.1 hs
  cases n with
  | zero =>
   cases hx : p x with
   | true=>simp [hx]
   | false =>
    have : xs.filter p = []:=List.filter_eq_nil_iff.2 fun y hy hp=>by have:=h1 y hy hp; rw [hx] at this; cases this
    simp [hx,this]
  | succ n =>
   have ih:=Qbdn h2 n (by simpa using h)
   cases hx : p x with
   | true=>simp [hx,ih]
   | false =>
    have : xs.filter p = []:=List.filter_eq_nil_iff.2 fun y hy hp=>by have:=h1 y hy hp; rw [hx] at this; cases this
    rw [this] at ih
    simp [hx,this] at ih ⊢
    exact ih
end
theorem Qgo {X S R : Type} {F : (X → Option R) → X → Option R} {len : Nat} (mk : Nat → S → X) (I : Nat → S → Prop) (G : Nat → S → Option R)
  (step : ∀ (k : X → Option R) (n : Nat) (s : S),n < len → I n s → (∀ s',I (n + 1) s' → k (mk (n + 1) s') = G (n + 1) s') → F k (mk n s) = G n s) (last : ∀ (k : X → Option R) (s : S),I len s → F k (mk len s) = G len s) :
  ∀ (fuel n : Nat) (s : S),n ≤ len → len - n < fuel → I n s → Qcb F fuel (mk n s) = G n s
 | 0,n,s,_,h,_=>by omega
 | fuel + 1,n,s,hn,h,hi=>by
  show F (Qcb F fuel) (mk n s) = _
  by_cases hlt : n < len
  ·exact step _ n s hlt hi fun s' hi'=>Qgo mk I G step last fuel (n + 1) s' (by omega) (by omega) hi'
  ·obtain rfl : n = len:=by omega
   exact last _ s hi
theorem Qgs : ∀ {l : List Int} {a b : Int},l.Pairwise (· < ·) → (∀ x ∈ l,a ≤ x ∧ x < b) → l.length ≤ (b - a).toNat
 | [],_,_,_,_=>by simp
 | x :: xs,a,b,h,hr=>by
  obtain ⟨h1,h2⟩:=List.pairwise_cons.1 h
  have:=Qgs (a:=x + 1) (b:=b) h2 fun y hy=>⟨by have:=h1 y hy; omega,(hr y (by simp [hy])).2⟩
  have:=hr x (by simp)
  simp only [List.length_cons]
  omega
end Go.Abs
end
section
namespace Go.Abs
abbrev big : Nat := 1000000000000
def small (a : Qb) : Prop := a.Alphabet.length < big ∧ a.Marked.length < big ∧ a.Edges.length < big
end Go.Abs
end
section
namespace Go.Abs
open Go
set_option linter.unusedSimpArgs false
def Qe6 (n : Int) : Option Int → List Int → Int
 | _,[]=>0
 | p,x :: xs=>if x < 0 ∨ x ≥ n then 2 else if ∃ y,p = some y ∧ x ≤ y then 5 else Qe6 n (some x) xs
def Qio (al : List Int) (st : Int) : Option Qe → List Qe → Int
 | _,[]=>0
 | p,x :: xs=>if x.From < 0 ∨ x.From ≥ st ∨ x.To < 0 ∨ x.To ≥ st then 2 else if x.Event ∉ al then 9 else if ∃ y,p = some y ∧ (x.From < y.From ∨ x.From = y.From ∧ x.Event ≤ y.Event) then 5 else Qio al st (some x) xs
def Qxk (a : Qb) : Int :=
 if Qe6 32 none a.Alphabet ≠ 0 then Qe6 32 none a.Alphabet else if a.States < 0 then 2 else if a.States > 4096 then 3 else
 if Qe6 a.States none a.Marked ≠ 0 then Qe6 a.States none a.Marked else Qio a.Alphabet a.States none a.Edges
def ahead {α : Type} (l : List α) (n : Nat) : Option α:=if n = 0 then none else l[n - 1]?
theorem Q22 {α : Type} (l : List α) : ahead l 0 = none:=rfl
theorem Qbdo {α : Type} (l : List α) {n : Nat} (h : n < l.length) : ahead l (n + 1) = some l[n]:=by simp [ahead,h]
theorem Qbgb {α : Type} (l : List α) {n : Nat} (h0 : 0 < n) (h : n ≤ l.length) : ahead l n = some (l[n - 1]'(by omega)):=by
 simp [ahead,show n ≠ 0 from by omega,show n - 1 < l.length from by omega]
theorem Qbgc {n : Int} {l : List Int} {k : Nat} (h : k < l.length) : Qe6 n (ahead l k) (l.drop k) = if l[k] < 0 ∨ l[k] ≥ n then 2 else if ∃ y,ahead l k = some y ∧ l[k] ≤ y then 5 else Qe6 n (ahead l (k + 1)) (l.drop (k + 1)):=by
 rw [List.drop_eq_getElem_cons h,Qe6,Qbdo l h]
theorem Qbex {al : List Int} {n : Int} {l : List Qe} {k : Nat} (h : k < l.length) : Qio al n (ahead l k) (l.drop k) = if l[k].From < 0 ∨ l[k].From ≥ n ∨ l[k].To < 0 ∨ l[k].To ≥ n then 2 else if l[k].Event ∉ al then 9 else if ∃ y,ahead l k = some y ∧ (l[k].From < y.From ∨ l[k].From = y.From ∧ l[k].Event ≤ y.Event) then 5 else Qio al n (ahead l (k + 1)) (l.drop (k + 1)):=by
 rw [List.drop_eq_getElem_cons h,Qio,Qbdo l h]
theorem Q7g {l : List Int} {n : Int} (hl : l.length < big) : Qf0 l n = some (Qe6 n none l):=by
 unfold Qf0 Qb2
 refine (Qmj (len:=l.length) (fun k=>some (Qe6 n (ahead l k) (l.drop k))) (by unfold Qbq; unfold big at hl; omega) ?_ ?_).trans (by simp [Q22])
 ·intro k i hi ih
  have hb : i < 1000000000000:=by unfold big at hl; omega
  rw [Qbgc hi]
  try dsimp only
  rw [if_pos (by omega),Qb6 hi,Qbj (by omega),ih]
  simp only [Option.bind_some]
  by_cases h1 : l[i] < 0
  ·simp [h1]
  ·by_cases h2 : l[i] ≥ n
   ·simp [h1,h2]
   ·by_cases h0 : 0 < i
    ·rw [Qbga h0 (by omega),Qb6 (by omega : i - 1 < l.length),Qbgb l h0 (by omega)]
     by_cases h3 : l[i] ≤ l[i - 1] <;> simp [h1,h2,h3,h0]
    ·obtain rfl : i = 0:=by omega
     simp [h1,h2,Q22]
 ·intro k; simp [Qe6]
theorem Qbm2 {l : List Int} {v : Int} (hl : l.length < big) : Qg7 l v = some (if v ∈ l then (l.idxOf v : Int) else -1):=by
 unfold Qg7 Qcr
 refine (Qmj (len:=l.length) (fun k=>some (if v ∈ l.drop k then ((k + (l.drop k).idxOf v : Nat) : Int) else -1)) (by unfold Qbq; unfold big at hl; omega) ?_ ?_).trans (by simp)
 ·intro k i hi ih
  have hb : i < 1000000000000:=by unfold big at hl; omega
  try dsimp only
  rw [if_pos (by omega),Qb6 hi,Qbj (by omega),ih,List.drop_eq_getElem_cons hi]
  simp only [Option.bind_some,List.mem_cons,List.idxOf_cons]
  by_cases h : v = l[i]
  ·simp [← h]
  ·have : ¬ l[i] = v:=fun e=>h e.symm
   have hbq : (l[i] == v) = false:=by simp [this]
   by_cases h2 : v ∈ l.drop (i + 1) <;> simp [h,h2,hbq]
   omega
 ·intro k; simp
theorem Qhy {l : List Int} {v : Int} (hl : l.length < big) : Qy l v = some (decide (v ∈ l)):=by
 unfold Qy Qf
 rw [Qbm2 hl]
 simp only [Option.bind_some,Option.some.injEq]
 by_cases h : v ∈ l <;> simp [h]
theorem Qbim {l : List Int} {v : Int} (hl : l.length < big) : Qc2 l v = some (decide (v ∈ l)):=by
 unfold Qc2 Qbi
 refine (Qmj (len:=l.length) (fun k=>some (decide (v ∈ l.drop k))) (by unfold Qbq; unfold big at hl; omega) ?_ ?_).trans (by simp)
 ·intro k i hi ih
  have hb : i < 1000000000000:=by unfold big at hl; omega
  try dsimp only
  rw [if_pos (by omega),Qb6 hi,Qbj (by omega),ih,List.drop_eq_getElem_cons hi]
  simp only [Option.bind_some,List.mem_cons]
  by_cases h : l[i] = v
  ·simp [h]
  ·have : ¬ v = l[i]:=fun e=>h e.symm
   simp [h,this]
 ·intro k; simp
theorem Qbey {a : Qb} (h : small a) : Qe8 a = some (Qio a.Alphabet a.States none a.Edges):=by
 obtain ⟨hal,_,hl⟩:=h
 unfold Qe8 Qbz
 refine (Qmj (len:=a.Edges.length) (fun k=>some (Qio a.Alphabet a.States (ahead a.Edges k) (a.Edges.drop k))) (by unfold Qbq; unfold big at hl; omega) ?_ ?_).trans (by simp [Q22])
 ·intro k i hi ih
  have hb : i < 1000000000000:=by unfold big at hl; omega
  rw [Qbex hi]
  unfold letJ
  try dsimp only
  rw [if_pos (by omega),Qb6 hi,Qbj (by omega),ih]
  simp only [Option.bind_some,Qhy hal]
  generalize a.Edges[i] = x
  by_cases h1 : x.From < 0
  ·simp [h1]
  by_cases h2 : x.From ≥ a.States
  ·simp [h1,h2]
  by_cases h3 : x.To < 0
  ·simp [h1,h2,h3]
  by_cases h4 : x.To ≥ a.States
  ·simp [h1,h2,h3,h4]
  by_cases h5 : x.Event ∈ a.Alphabet
  ·by_cases h0 : 0 < i
   ·rw [Qbga h0 (by omega),Qb6 (by omega : i - 1 < a.Edges.length),Qbgb a.Edges h0 (by omega)]
    generalize a.Edges[i - 1] = y
    have hi0 : i ≠ 0:=by omega
    by_cases h6 : x.From < y.From
    ·simp [h1,h2,h3,h4,h5,h6,hi0]
    by_cases h7 : y.From = x.From
    ·by_cases h8 : x.Event ≤ y.Event <;> simp [h1,h2,h3,h4,h5,h6,h7,h8,hi0]
    ·have h7' : ¬ x.From = y.From:=fun e=>h7 e.symm
     simp [h1,h2,h3,h4,h5,h6,h7,hi0,h7']
   ·obtain rfl : i = 0:=by omega
    simp [h1,h2,h3,h4,h5,Q22]
  ·simp [h1,h2,h3,h4,h5]
 ·intro k; unfold letJ; simp [Qio]
theorem Qbin {a : Qb} (h : small a) : Qc9 a = some (Qxk a):=by
 unfold Qc9 Qt Qxk
 rw [Q7g h.1,Q7g h.2.1,Qbey h]
 simp only [Option.bind_some]
 by_cases h1 : Qe6 32 none a.Alphabet = 0
 ·by_cases h2 : a.States < 0
  ·simp [h1,h2]
  by_cases h3 : a.States > 4096
  ·simp [h1,h2,h3]
  by_cases h4 : Qe6 a.States none a.Marked = 0 <;> simp [h1,h2,h3,h4]
 ·simp [h1]
end Go.Abs
end
section
namespace Go.Abs
open Go
set_option linter.unusedSimpArgs false
set_option linter.unusedVariables false
def Qkm (x y : Qe) : Prop:=x.From < y.From ∨ x.From = y.From ∧ x.Event < y.Event
instance (x y : Qe) : Decidable (Qkm x y):=by unfold Qkm; infer_instance
structure Right (a : Qb) : Prop where
 al0 : ∀ x ∈ a.Alphabet,0 ≤ x ∧ x < 32
 al : a.Alphabet.Pairwise (· < ·)
 st : 0 ≤ a.States ∧ a.States ≤ 4096
 ma0 : ∀ x ∈ a.Marked,0 ≤ x ∧ x < a.States
 ma : a.Marked.Pairwise (· < ·)
 ed0 : ∀ x ∈ a.Edges,0 ≤ x.From ∧ x.From < a.States ∧ 0 ≤ x.To ∧ x.To < a.States ∧ x.Event ∈ a.Alphabet
 ed : a.Edges.Pairwise Qkm
theorem Qhz {n : Int} : ∀ {l : List Int} {p : Option Int},Qe6 n p l = 0 ↔ (∀ x ∈ l,0 ≤ x ∧ x < n) ∧ l.Pairwise (· < ·) ∧ ∀ y,p = some y → ∀ x ∈ l,y < x
 | [],p=>by simp [Qe6]
 | x :: xs,p=>by
  rw [Qe6]
  split
  ·rename_i h
   refine ⟨fun h=>by omega,fun hh=>?_⟩
   have:=hh.1 x (by simp); omega
  ·rename_i h
   split
   ·rename_i h2
    obtain ⟨y,hy,hxy⟩:=h2
    refine ⟨fun h=>by omega,fun hh=>?_⟩
    have:=hh.2.2 y hy x (by simp); omega
   ·rename_i h2
    rw [Qhz]
    constructor
    ·rintro ⟨k1,k2,k3⟩
     refine ⟨fun z hz=>?_,List.pairwise_cons.2 ⟨fun z hz=>k3 x rfl z hz,k2⟩,fun y hy z hz=>?_⟩
     ·rcases List.mem_cons.1 hz with rfl | hz
      ·omega
      ·exact k1 z hz
     ·have hyx : y < x:=by
       rcases Int.lt_or_le y x with h | h
       ·exact h
       ·exact absurd ⟨y,hy,h⟩ h2
      rcases List.mem_cons.1 hz with rfl | hz
      ·exact hyx
      ·have:=k3 x rfl z hz; omega
    ·rintro ⟨k1,k2,k3⟩
     obtain ⟨k4,k5⟩:=List.pairwise_cons.1 k2
     exact ⟨fun z hz=>k1 z (by simp [hz]),k5,fun y hy z hz=>by cases hy; exact k4 z hz⟩
theorem Qxl {al : List Int} {n : Int} : ∀ {l : List Qe} {p : Option Qe},Qio al n p l = 0 ↔ (∀ x ∈ l,0 ≤ x.From ∧ x.From < n ∧ 0 ≤ x.To ∧ x.To < n ∧ x.Event ∈ al) ∧ l.Pairwise Qkm ∧ ∀ y,p = some y → ∀ x ∈ l,Qkm y x
 | [],p=>by simp [Qio]
 | x :: xs,p=>by
  have tr : ∀ a b c : Qe,Qkm a b → Qkm b c → Qkm a c:=fun a b c h k=>by unfold Qkm at *; omega
  rw [Qio]
  split
  ·rename_i h
   refine ⟨fun h=>by omega,fun hh=>?_⟩
   have:=hh.1 x (by simp); omega
  ·rename_i h
   split
   ·rename_i h2
    refine ⟨fun h=>by omega,fun hh=>?_⟩
    exact absurd (hh.1 x (by simp)).2.2.2.2 h2
   ·rename_i hal
    split
    ·rename_i h2
     obtain ⟨y,hy,hxy⟩:=h2
     refine ⟨fun h=>by omega,fun hh=>?_⟩
     have:=hh.2.2 y hy x (by simp)
     unfold Qkm at this; omega
    ·rename_i h2
     rw [Qxl]
     constructor
     ·rintro ⟨k1,k2,k3⟩
      refine ⟨fun z hz=>?_,List.pairwise_cons.2 ⟨fun z hz=>k3 x rfl z hz,k2⟩,fun y hy z hz=>?_⟩
      ·rcases List.mem_cons.1 hz with rfl | hz
       ·exact ⟨by omega,by omega,by omega,by omega,Decidable.not_not.1 hal⟩
       ·exact k1 z hz
      ·have hyx : Qkm y x:=by
        apply Decidable.byContradiction
        intro h
        exact h2 ⟨y,hy,by unfold Qkm at h; omega⟩
       rcases List.mem_cons.1 hz with rfl | hz
       ·exact hyx
       ·exact tr _ _ _ hyx (k3 x rfl z hz)
     ·rintro ⟨k1,k2,k3⟩
      obtain ⟨k4,k5⟩:=List.pairwise_cons.1 k2
      exact ⟨fun z hz=>k1 z (by simp [hz]),k5,fun y hy z hz=>by cases hy; exact k4 z hz⟩
theorem Qbgd {a : Qb} : Qxk a = 0 ↔ Right a:=by
 unfold Qxk
 constructor
 ·intro h
  split at h
  ·rename_i h1; exact absurd h h1
  rename_i h1
  split at h
  ·omega
  split at h
  ·omega
  split at h
  ·rename_i h4; exact absurd h h4
  rename_i h4
  have q1:=Qhz.1 (Decidable.not_not.1 h1)
  have q2:=Qhz.1 (Decidable.not_not.1 h4)
  have q3:=Qxl.1 h
  exact ⟨q1.1,q1.2.1,⟨by omega,by omega⟩,q2.1,q2.2.1,q3.1,q3.2.1⟩
 ·intro h
  have q1 : Qe6 32 none a.Alphabet = 0:=Qhz.2 ⟨h.al0,h.al,fun y hy=>by cases hy⟩
  have q2 : Qe6 a.States none a.Marked = 0:=Qhz.2 ⟨h.ma0,h.ma,fun y hy=>by cases hy⟩
  have q3 : Qio a.Alphabet a.States none a.Edges = 0:=Qxl.2 ⟨h.ed0,h.ed,fun y hy=>by cases hy⟩
  have:=h.st
  rw [if_neg (by simp [q1]),if_neg (by omega),if_neg (by omega),if_neg (by simp [q2]),q3]
def outP (a : Qb) (s : Int) : List Qe:=a.Edges.filter fun x=>x.From == s
def Qfg (a : Qb) (s e : Int) : Int:=match a.Edges.find? fun x=>x.From == s && x.Event == e with
 | some x=>x.To
 | none=>-1
theorem Qblr {l : List Qe} (h : l.Pairwise Qkm) (s : Int) : l.Pairwise fun a b=>decide (b.From < s) = true → decide (a.From < s) = true :=
 h.imp fun h=>by unfold Qkm at h; simp; omega
theorem Qbns {l : List Qe} {s : Int} {cmp : Qe → Int → Option Int} (hcmp : ∀ x ∈ l,cmp x s = some (x.From - s)) (hs : l.Pairwise Qkm) (hl : l.length < big) :
  ∃ b,Qdi l s cmp = some (((l.filter fun x=>decide (x.From < s)).length : Int),b):=by
 have hc:=fun n h=>Qbdn (p:=fun x : Qe=>decide (x.From < s)) (Qblr hs s) n h
 have hcl : (l.filter fun x=>decide (x.From < s)).length ≤ l.length:=List.length_filter_le _ _
 generalize (l.filter fun x=>decide (x.From < s)).length = c at hc hcl
 have hb : l.length < 1000000000000:=hl
 unfold Qdi Q8
 have hloop:=Qey (F:=fun (k13 : Int × Int → Option Int) ((i11,j12) : Int × Int)=>(if (i11 < j12) then ((getO l (IntKind.wrap .i64 (Int.fdiv (IntKind.wrap .u64 (IntKind.wrap .i64 (i11 + j12))) (2 ^ (min (Int.toNat 1) (IntKind.bits .u64)))))).bind fun x15=>((cmp x15 s).bind fun x18=>(if (x18 < 0) then k13 ((IntKind.wrap .i64 ((IntKind.wrap .i64 (Int.fdiv (IntKind.wrap .u64 (IntKind.wrap .i64 (i11 + j12))) (2 ^ (min (Int.toNat 1) (IntKind.bits .u64))))) + 1)),j12) else k13 (i11,(IntKind.wrap .i64 (Int.fdiv (IntKind.wrap .u64 (IntKind.wrap .i64 (i11 + j12))) (2 ^ (min (Int.toNat 1) (IntKind.bits .u64))))))))) else some i11))
  (fun x=>∃ i j : Nat,x = ((i : Int),(j : Int)) ∧ i ≤ c ∧ c ≤ j ∧ j ≤ l.length) (fun x=>(x.2 - x.1).toNat) (fun _ r=>r = some (c : Int)) (by
   rintro k _ ⟨i,j,rfl,h1,h2,h3⟩ ih
   dsimp only
   by_cases hij : i < j
   ·rw [if_pos (by omega),Qbpn (by omega) (by omega)]
    have hm : (i + j) / 2 < l.length:=by omega
    rw [Qb6 hm]
    simp only [Option.bind_some]
    rw [hcmp _ (List.getElem_mem hm)]
    simp only [Option.bind_some]
    have hcm:=hc ((i + j) / 2) hm
    by_cases hlt : l[(i + j) / 2].From < s
    ·rw [if_pos (by omega),Qbj (by omega)]
     have : (i + j) / 2 < c:=hcm.1 (by simpa using hlt)
     exact ih _ ⟨_,_,rfl,by omega,h2,h3⟩ (by simp only; omega)
    ·rw [if_neg (by omega)]
     have : ¬ (i + j) / 2 < c:=fun h=>hlt (by simpa using hcm.2 h)
     exact ih _ ⟨_,_,rfl,h1,by omega,by omega⟩ (by simp only; omega)
   ·rw [if_neg (by omega)]
    have : i = c:=by omega
    rw [this]) Qbq (0,(l.length : Int)) ⟨0,l.length,rfl,by omega,hcl,Nat.le_refl _⟩ (by unfold Qbq; simp only; omega)
 rw [hloop]
 simp only [Option.bind_some]
 by_cases hlt : c < l.length
 ·rw [if_pos (by omega),Qb6 hlt]
  simp only [Option.bind_some]
  rw [hcmp _ (List.getElem_mem hlt)]
  exact ⟨_,rfl⟩
 ·rw [if_neg (by omega)]
  exact ⟨_,rfl⟩
theorem Qbge : ∀ {l : List Qe} (s : Int),l.Pairwise Qkm → (l.take (l.filter fun x=>decide (x.From < s + 1)).length).drop (l.filter fun x=>decide (x.From < s)).length = l.filter fun x=>x.From == s
 | [],s,_=>by simp
 | x :: xs,s,h=>by
  obtain ⟨h1,h2⟩:=List.pairwise_cons.1 h
  have ih:=Qbge s h2
  have hge : ∀ y ∈ xs,x.From ≤ y.From:=fun y hy=>by have:=h1 y hy; unfold Qkm at this; omega
  by_cases hx : x.From < s
  ·have e1 : decide (x.From < s) = true:=by simpa using hx
   have e2 : decide (x.From < s + 1) = true:=by simp; omega
   have e3 : (x.From == s) = false:=by simp; omega
   simp only [List.filter_cons,e1,e2,e3,if_true,List.length_cons,List.take_succ_cons,List.drop_succ_cons,Bool.false_eq_true,if_false]
   exact ih
  ·have hz : xs.filter (fun x=>decide (x.From < s)) = []:=List.filter_eq_nil_iff.2 fun y hy=>by have:=hge y hy; simp; omega
   have e1 : decide (x.From < s) = false:=by simpa using hx
   by_cases hq : x.From = s
   ·have e2 : decide (x.From < s + 1) = true:=by simp; omega
    have e3 : (x.From == s) = true:=by simp [hq]
    simp only [List.filter_cons,e1,e2,e3,if_true,List.length_cons,List.take_succ_cons,Bool.false_eq_true,if_false,hz,List.length_nil,List.drop_zero]
    rw [hz,List.length_nil,List.drop_zero] at ih
    rw [ih]
   ·have e2 : decide (x.From < s + 1) = false:=by simp; omega
    have e3 : (x.From == s) = false:=by simp [hq]
    have hz1 : xs.filter (fun x=>decide (x.From < s + 1)) = []:=List.filter_eq_nil_iff.2 fun y hy=>by have:=hge y hy; simp; omega
    have hz2 : xs.filter (fun x=>x.From == s) = []:=List.filter_eq_nil_iff.2 fun y hy=>by have:=hge y hy; simp; omega
    simp only [List.filter_cons,e1,e2,e3,Bool.false_eq_true,if_false,hz,hz1,hz2,List.length_nil,List.take_zero,List.drop_zero]
section
variable {a : Qb} (h : Right a) (hs : small a)
include h hs
theorem Qbnt {s : Int} (h0 : -1000000000000 < s) (h1 : s < 1000000000000) : Qed a s = some (outP a s):=by
 unfold Qed Qbh
 have hst:=h.st
 have hw : ∀ t : Int,-1000000000002 < t → t < 1000000000002 → ∀ x ∈ a.Edges,IntKind.wrap .i64 (x.From - t) = x.From - t:=fun t k1 k2 x hx=>by
  have:=h.ed0 x hx; exact Qrr (by omega) (by omega)
 have e1 : IntKind.wrap .i64 (s + 1) = s + 1:=Qrr (by omega) (by omega)
 obtain ⟨b1,k1⟩:=Qbns (s:=s) (cmp:=Qh1) (fun x hx=>by unfold Qh1 Qc4; rw [hw s (by omega) (by omega) x hx]) h.ed hs.2.2
 obtain ⟨b2,k2⟩:=Qbns (s:=s + 1) (cmp:=Qh2) (fun x hx=>by unfold Qh2 Qc5; rw [hw (s + 1) (by omega) (by omega) x hx]) h.ed hs.2.2
 rw [k1,e1]
 simp only [Option.bind_some]
 rw [k2]
 simp only [Option.bind_some]
 have hle : (a.Edges.filter fun x=>decide (x.From < s)).length ≤ (a.Edges.filter fun x=>decide (x.From < s + 1)).length :=
  by rw [← List.countP_eq_length_filter,← List.countP_eq_length_filter]; exact List.countP_mono_left fun x _ hx=>by simp at hx ⊢; omega
 rw [Qbm1 hle (List.length_filter_le _ _),Qbge s h.ed]
 rfl
theorem Qboq {s e : Int} (h0 : -1000000000000 < s) (h1 : s < 1000000000000) : Qin a s e = some (Qfg a s e):=by
 unfold Qin Qdh
 rw [Qbnt h hs h0 h1]
 simp only [Option.bind_some]
 have hl : (outP a s).length < big:=Nat.lt_of_le_of_lt (List.length_filter_le _ _) hs.2.2
 have hf : Qfg a s e = match (outP a s).find? (fun x=>x.Event == e) with | some x=>x.To | none=>-1:=by
  unfold Qfg outP; rw [List.find?_filter]
  have : (fun x : Qe=>decide ((x.From == s) = true ∧ (x.Event == e) = true)) = fun x=>x.From == s && x.Event == e:=by
   funext x; rw [Bool.eq_iff_iff]; simp
  rw [this]
 rw [hf]
 generalize outP a s = l at hl
 have hi : Qev l (fun a6=>Qg8 a6 e) = some (if ∃ x ∈ l,x.Event = e then (l.findIdx (fun x=>x.Event == e) : Int) else -1):=by
  have hb : l.length < 1000000000000:=hl
  unfold Qev Qbv
  refine (Qmj (len:=l.length) (fun k=>some (if ∃ x ∈ l.drop k,x.Event = e then ((k + (l.drop k).findIdx (fun x=>x.Event == e) : Nat) : Int) else -1)) (by unfold Qbq; omega) ?_ ?_).trans (by simp)
  ·intro k i hi ih
   rw [if_pos (by omega),Qb6 hi,Qbj (by omega),ih,List.drop_eq_getElem_cons hi]
   simp only [Option.bind_some,Qg8,Qct,List.findIdx_cons]
   by_cases hx : l[i].Event = e
   ·have hxb : (l[i].Event == e) = true:=by simp [hx]
    have hz : ∃ x ∈ l[i] :: l.drop (i + 1),x.Event = e:=⟨l[i],List.mem_cons_self,hx⟩
    simp only [hxb,if_true,if_pos hz,cond_true]; rfl
   ·have hxb : (l[i].Event == e) = false:=by simp [hx]
    by_cases hy : ∃ x ∈ l.drop (i + 1),x.Event = e
    ·have hz : ∃ x ∈ l[i] :: l.drop (i + 1),x.Event = e:=by obtain ⟨x,k1,k2⟩:=hy; exact ⟨x,List.mem_cons_of_mem _ k1,k2⟩
     simp only [hxb,Bool.false_eq_true,if_false,if_pos hy,if_pos hz,cond_false]
     have : ∀ n : Nat,i + 1 + n = i + (n + 1):=fun n=>by omega
     rw [this]
    ·have hz : ¬ ∃ x ∈ l[i] :: l.drop (i + 1),x.Event = e:=by
      rintro ⟨x,k1,k2⟩
      rcases List.mem_cons.1 k1 with rfl | k1
      ·exact hx k2
      ·exact hy ⟨x,k1,k2⟩
     simp only [hxb,Bool.false_eq_true,if_false,if_neg hy,if_neg hz,cond_false]
  ·intro k; simp
 rw [hi]
 simp only [Option.bind_some]
 by_cases hx : ∃ x ∈ l,x.Event = e
 ·rw [if_pos hx,if_neg (by omega)]
  have hlt : l.findIdx (fun x=>x.Event == e) < l.length:=by
   rw [List.findIdx_lt_length]; obtain ⟨x,k1,k2⟩:=hx; exact ⟨x,k1,by simp [k2]⟩
  rw [Qb6 hlt]
  simp only [Option.bind_some]
  rw [show l.find? (fun x=>x.Event == e) = some l[l.findIdx (fun x=>x.Event == e)] from by
   rw [List.find?_eq_some_iff_getElem]
   refine ⟨List.findIdx_getElem (w:=hlt),_,hlt,rfl,fun j hj=>?_⟩
   have:=List.not_of_lt_findIdx hj
   simpa using this]
 ·rw [if_neg hx,if_pos (by omega)]
  rw [show l.find? (fun x=>x.Event == e) = none from List.find?_eq_none.2 fun x hx' hy=>hx ⟨x,hx',by simpa using hy⟩]
omit h in
theorem Qbdp {s e : Int} : Qb9 a s e = some (Qfg a s e):=by
 have hb : a.Edges.length < 1000000000000:=hs.2.2
 unfold Qb9 Qbe
 refine (Qmj (len:=a.Edges.length) (fun k=>some (match (a.Edges.drop k).find? (fun x=>x.From == s && x.Event == e) with | some x=>x.To | none=>-1)) (by unfold Qbq; omega) ?_ ?_).trans (by simp [Qfg])
 ·intro k i hi ih
  rw [if_pos (by omega),Qb6 hi,Qbj (by omega),ih,List.drop_eq_getElem_cons hi]
  simp only [Option.bind_some,List.find?_cons]
  cases h1 : a.Edges[i].From == s <;> cases h2 : a.Edges[i].Event == e <;> simp [h1,h2]
 ·intro k; simp
end
theorem Q7h {a : Qb} (h : Right a) (s e : Int) : Qfg a s e = -1 ∨ 0 ≤ Qfg a s e ∧ Qfg a s e < a.States ∧ 0 ≤ s ∧ s < a.States ∧ e ∈ a.Alphabet:=by
 unfold Qfg
 split
 ·rename_i x hx
  have hm:=List.mem_of_find?_eq_some hx
  have hp:=List.find?_some hx
  obtain ⟨k1,k2,k3,k4,k5⟩:=h.ed0 x hm
  simp at hp
  exact .inr ⟨k3,k4,by omega,by omega,hp.2 ▸ k5⟩
 ·exact .inl rfl
theorem Q2i {a : Qb} (h : Right a) {s e : Int} : 0 ≤ Qfg a s e ↔ ∃ x ∈ outP a s,x.Event = e:=by
 unfold Qfg outP
 split
 ·rename_i x hx
  have hm:=List.mem_of_find?_eq_some hx
  have hp:=List.find?_some hx
  simp at hp
  refine ⟨fun _=>⟨x,by simp [hm,hp.1],hp.2⟩,fun _=>(h.ed0 x hm).2.2.1⟩
 ·rename_i hx
  have:=List.find?_eq_none.1 hx
  refine ⟨fun h=>by omega,?_⟩
  rintro ⟨x,h1,h2⟩
  simp at h1
  exact absurd (by simp [h1.2,h2]) (this x h1.1)
theorem Qxm {a : Qb} (h : Right a) (s : Int) : (outP a s).map (·.Event) = a.Alphabet.filter fun e=>decide (0 ≤ Qfg a s e):=by
 refine Qbji ?_ (h.al.filter _) fun e=>?_
 ·rw [List.pairwise_map]
  have h1 : (outP a s).Pairwise Qkm:=h.ed.filter _
  have h2 : ∀ x ∈ outP a s,x.From = s:=fun x hx=>by unfold outP at hx; simp at hx; exact hx.2
  exact List.Pairwise.imp_of_mem (fun {x y} hx hy hk=>by have:=h2 x hx; have:=h2 y hy; unfold Qkm at hk; omega) h1
 ·simp only [List.mem_map,List.mem_filter,decide_eq_true_eq,Q2i h]
  constructor
  ·rintro ⟨x,hx,rfl⟩
   refine ⟨?_,x,hx,rfl⟩
   unfold outP at hx; simp at hx; exact (h.ed0 x hx.1).2.2.2.2
  ·rintro ⟨_,x,hx,rfl⟩; exact ⟨x,hx,rfl⟩
theorem Q2j {a : Qb} (h : Right a) {s : Int} {x : Qe} (hx : x ∈ outP a s) : Qfg a s x.Event = x.To:=by
 unfold outP at hx
 simp at hx
 unfold Qfg
 split
 ·rename_i y hy
  have hm:=List.mem_of_find?_eq_some hy
  have hp:=List.find?_some hy
  simp at hp
  have : x = y:=by
   rcases Classical.em (x = y) with e | hne
   ·exact e
   ·exfalso
    have hk : Qkm x y ∨ Qkm y x:=by
     have:=List.pairwise_iff_getElem.1 h.ed
     obtain ⟨i,hi,rfl⟩:=List.getElem_of_mem hx.1
     obtain ⟨j,hj,rfl⟩:=List.getElem_of_mem hm
     rcases Nat.lt_trichotomy i j with hij | hij | hij
     ·exact .inl (this i j hi hj hij)
     ·subst hij; exact absurd rfl hne
     ·exact .inr (this j i hj hi hij)
    unfold Qkm at hk; omega
  rw [this]
 ·rename_i hn
  exact absurd (by simp [hx.2]) (List.find?_eq_none.1 hn x hx.1)
end Go.Abs
end
