/-
  Part 6 of the proof: see the last text.
-/
import Derived.Test.YtdfiohnppomfgaaGreatP5
import Derived.Test.YtdfiohnppomfgaaGreatProg
import Derived.KernelRfl
import Derived.Sort.Statements
import Derived.Lib.SlicesCompact
import Derived.Lib.RuneBytes
import Derived.Shelf.SlSortCmp.NoneTotal
import Derived.Shelf.SlGeneric
import Derived.Ground.SlgmProg
import Derived.Shelf.SortM.Plain
import Derived.Shelf.SortM.SortNone
import Derived.Shelf.Small.Bits
import Derived.Ground.Names2Prog
import Derived.Shelf.Slices.CompactI
import Derived.WalkKit
import Derived.Shelf.Strings.BuilderK
import Derived.Shelf.Strings.BuilderRune
import Derived.Shelf.Strconv.Itoa0
import Derived.Shelf.Spec.SlicesGrow
import Derived.Ground.Names8Prog
import Derived.BigCall
import Derived.Lib.OthersKept
import Derived.OpenShut
import Derived.ProofKit
import Derived.Carry
import GoSem.Claim
import GoSem.ClaimJoined
import Derived.JoinedTies
set_option linter.unusedVariables false
set_option linter.unusedSimpArgs false
set_option linter.unusedSectionVars false
section
namespace Go.Abs
open Go
set_option maxRecDepth 10000
set_option maxHeartbeats 4000000
theorem Qn5 {P : Program} {c : Nat} {Qr : (List Int) → (List Int) → Option Bool}
    (H_overseerref03_SameInts : Qc1 P 19 Qr) (hcf : Qs P c = some Qfw) (fuel : Nat) : Qec P c (Qy Qr fuel):=by
 intro a1 b2 r h
 refine Qcj hcf rfl fun Γ M hP hnt hM=>?_
 subst hP
 refine Tr.init [(0,.d (.lst 1 (List.map (eL 1 (eI .i64)) a1))),(1,.d (.lst 1 (List.map (eL 1 (eI .i64)) b2)))] rfl ?_
 unfold Qy at h
 unfold Qfw
 refine sr ((md rfl (nt ((Tr.seq (sr ((md rfl (Rn.lenD tv rfl (md rfl (Rn.lenD tv rfl (Rn.bin tv rfl rfl rfl (Rn.nil (toN ?_))))))))))))))
 refine Tr.cond rfl (fun hb3=>?_) (fun hb3=>?_)
 ·replace h:=bT hb3 h
  refine sr ((md rfl (nt ((Tr.ret ?_)))))
  replace h:=si h; subst h
  exact ⟨.inr rfl,(b_ false),rfl,fun _ _ _ _ h=>h,tv,fun k hk=>Qf hk⟩
 ·replace h:=bF hb3 h
  refine Tr.skip (toN (Tr.seq (sr ((md rfl (nt ((Tr.block ?_))))))))
  refine Tr.loop (mk:=fun (i4 : Int)=>⟨look [(0,.d (.lst 1 (List.map (eL 1 (eI .i64)) a1))),(1,.d (.lst 1 (List.map (eL 1 (eI .i64)) b2))),(5,(i_ i4))],Qm Γ.n0 (bxs []) M,Γ.n0 + 27⟩) h (by exact Qh ⟨(sm rfl),(sm rfl),(sm rfl),tv⟩ tv rfl) (fun k5 z h=>?_)
  ·obtain ⟨i4,rfl⟩ : ∃ x,x = z:=⟨_,rfl⟩
   replace h : _ = some _:=h
   refine Tr.seq (sr ((md rfl (md rfl (Rn.lenD tv rfl (Rn.bin tv rfl rfl rfl (Rn.nil (toN ?_))))))))
   refine Tr.cond rfl (fun hb6=>?_) (fun hb6=>?_)
   ·replace h:=ifT hb6 h
    refine Tr.skip (toN (Tr.seq (Tr.block (Tr.seq ?_))))
    refine Tr.rgnD (by decide) ?_
    refine md rfl (md rfl ?_)
    obtain ⟨x7,h8,h⟩:=bnd h
    refine Rn.idxD (e:=(eL 1 (eI .i64))) tv rfl rfl h8 (Rn.loadC (x:=.lst 1 (List.map (eI .i64) x7)) tv rfl (md rfl (md rfl ?_)))
    obtain ⟨x9,h10,h⟩:=bnd h
    refine Rn.idxD (e:=(eL 1 (eI .i64))) tv rfl rfl h10 (Rn.loadC (x:=.lst 1 (List.map (eI .i64) x9)) tv rfl ?_)
    obtain ⟨x12,h11,h⟩:=bnd h
    refine Rn.call (args:=[(l_ x7),(l_ x9)]) tv rfl (H_overseerref03_SameInts _ _ _ h11) pc0 (Rn.un tv rfl rfl ?_)
    refine Rn.nil ⟨rfl,?_⟩
    refine toN ?_
    refine Tr.cond rfl (fun hb13=>?_) (fun hb13=>?_)
    ·have hb13:=nT' hb13
     replace h:=bF hb13 h
     refine sr ((md rfl (nt ((Tr.ret ?_)))))
     replace h:=si h; subst h
     exact ⟨.inr rfl,(b_ false),rfl,fun _ _ _ _ h=>h,tv,fun k hk=>Qf hk⟩
    ·have hb13:=nF' hb13
     replace h:=bT hb13 h
     refine Tr.skip (toN (Tr.rgn (md rfl (Rn.bin tv rfl rfl rfl (md rfl (Rn.nil ?_))))))
     exact ⟨_,h,(by exact Qh ⟨(sm rfl),(sm rfl),(sm rfl),tv⟩ tv rfl)⟩
   ·replace h:=ifF hb6 h
    refine Tr.exit (toN (sr ((md rfl (nt ((Tr.ret ?_)))))))
    replace h:=si h; subst h
    exact ⟨.inr rfl,(b_ true),rfl,fun _ _ _ _ h=>h,tv,fun k hk=>Qf hk⟩
theorem Qt2 {P : Program} {c : Nat} {Qbe : Qa → (List Int) → Option (Qa × (List (List Int)) × Int)} {Qbf : Qa → Qa → Option Bool} {Qy : (List (List Int)) → (List (List Int)) → Option Bool} {Qr : (List Int) → (List Int) → Option Bool} {Qdn : Qa → (List Int) → (List Int) → Bool → Option ((List Int) × Bool × Int)} {Qb5 : Option Qa} {Qcu : Qa → (List Int) → Option (Qa × Int)}
    (H_projection_Project : Qf4 P 12 Qbe)
    (H_overseerref03_Same : Qf5 P 14 Qbf)
    (H_overseerlaw03_SameWords : Qec P 15 Qy)
    (H_overseerref03_SameInts : Qc1 P 19 Qr)
    (H_projection_Lift : Qk5 P 31 Qdn)
    (H_overseerlaw07_example : Qgo P 34 Qb5)
    (H_projection_Inverse : Qim P 35 Qcu) (hcf : Qs P c = some Qhv) : Qhu P c (Qb7 Qbe Qbf Qy Qr Qdn Qb5 Qcu):=by
 intro  r h
 refine Qcj hcf rfl fun Γ M hP hnt hM=>?_
 subst hP
 refine Tr.init [] rfl ?_
 unfold Qb7 at h
 unfold Qhv
 refine sr ((md rfl (nt ((Tr.seq (Tr.rgn ?_))))))
 obtain ⟨x2,h1,h⟩:=bnd h
 refine Rn.call (args:=[]) tv rfl (H_overseerlaw07_example _ h1) pc9 (Rn.alloc tv rfl (Rn.storeT (v:=(Qb x2)) (ds:=(Qd x2)) (cs':=(Qd x2)) tv rfl rfl rfl rfl rfl rfl rfl (nt ((sr ((Rn.load (v:=(Qb x2)) tv rfl (Qj rfl) rfl rfl (Rn.bslice (xs:=[(i_ 1)]) (cs:=[(i_ 1)]) tv rfl rfl rfl rfl ?_))))))))
 refine Rn.weak (by show WeakSt Γ _ ⟨look [(0,(b_ false)),(1,.ptr (Γ.n0 + 1) 0),(10,(Qb x2)),(12,(Qb x2)),(13,(l_ [1]))],Qm Γ.n0 (bxs [(1,.cells ((Qd x2)))]) M,Γ.n0 + 74⟩; exact Qcv 13 [.int .i64 1] rfl rfl ⟨(.same rfl),(fPtr rfl),(.same rfl),(.same rfl),(fSl rfl rfl),tv⟩ ⟨⟨_,rfl,rfl,(.same rfl)⟩,tv⟩ rfl) ?_
 obtain ⟨⟨r4,r5,r6⟩,h3,h⟩:=bnd h
 refine Rn.call (args:=[(Qb x2),(l_ [1])]) tv rfl (H_projection_Project _ _ _ h3) pc9 (Rn.mov (v:=.tup [(Qb r4),.d (.lst 1 (List.map (eL 1 (eI .i64)) r5)),(i_ r6)]) tv rfl (Rn.ext (v:=(Qb r4)) (vs:=[(Qb r4),.d (.lst 1 (List.map (eL 1 (eI .i64)) r5)),(i_ r6)]) tv rfl rfl rfl (Rn.extTD (vs:=[(Qb r4),.d (.lst 1 (List.map (eL 1 (eI .i64)) r5)),(i_ r6)]) tv rfl rfl rfl (Rn.ext (v:=(i_ r6)) (vs:=[(Qb r4),.d (.lst 1 (List.map (eL 1 (eI .i64)) r5)),(i_ r6)]) tv rfl rfl rfl (Rn.alloc tv rfl (Rn.storeT (v:=(Qb r4)) (ds:=(Qd r4)) (cs':=(Qd r4)) tv rfl rfl rfl rfl rfl rfl rfl (Rn.movTD tv rfl (md rfl (nt ((sr ((Rn.load (v:=(Qb x2)) tv rfl (Qj rfl) rfl rfl (Rn.bslice (xs:=[(i_ 1)]) (cs:=[(i_ 1)]) tv rfl rfl rfl rfl (Rn.bslice (xs:=[(i_ 1)]) (cs:=[(i_ 1)]) tv rfl rfl rfl rfl ?_)))))))))))))))
 refine Rn.weak (by show WeakSt Γ _ ⟨look [(0,(b_ false)),(1,.ptr (Γ.n0 + 1) 0),(2,.ptr (Γ.n0 + 2) 0),(3,.d (.lst 1 (List.map (eL 1 (eI .i64)) r5))),(4,(i_ r6)),(10,(Qb x2)),(11,.tup [(Qb r4),.d (.lst 1 (List.map (eL 1 (eI .i64)) r5)),(i_ r6)]),(12,(Qb x2)),(13,(l_ [1])),(14,.tup [(Qb r4),.own 1 (List.map (eL 1 (eI .i64)) r5),(i_ r6)]),(15,(Qb r4)),(16,.d (.lst 1 (List.map (eL 1 (eI .i64)) r5))),(17,(i_ r6)),(19,(Qb x2)),(20,(l_ [1])),(21,.sl 1 (Γ.n0 + 21) 0 1 1)],Qm Γ.n0 (bxs [(1,.cells ((Qd x2))),(2,.cells ((Qd r4))),(21,.cells ([(i_ 1)]))]) M,Γ.n0 + 74⟩; exact Qcv 20 [.int .i64 1] rfl rfl ⟨(.same rfl),(fPtr rfl),(fPtr rfl),(.same rfl),(.same rfl),(.same rfl),(.same rfl),(.same rfl),(.same rfl),(.same rfl),(.same rfl),(.same rfl),(.same rfl),(.same rfl),(fSl rfl rfl),(fSlO rfl),tv⟩ ⟨⟨_,rfl,rfl,(.same rfl)⟩,⟨_,rfl,rfl,(.same rfl)⟩,⟨_,rfl,rfl,(.same rfl)⟩,tv⟩ rfl) ?_
 refine Rn.weak (by show WeakSt Γ _ ⟨look [(0,(b_ false)),(1,.ptr (Γ.n0 + 1) 0),(2,.ptr (Γ.n0 + 2) 0),(3,.d (.lst 1 (List.map (eL 1 (eI .i64)) r5))),(4,(i_ r6)),(10,(Qb x2)),(11,.tup [(Qb r4),.d (.lst 1 (List.map (eL 1 (eI .i64)) r5)),(i_ r6)]),(12,(Qb x2)),(13,(l_ [1])),(14,.tup [(Qb r4),.own 1 (List.map (eL 1 (eI .i64)) r5),(i_ r6)]),(15,(Qb r4)),(16,.d (.lst 1 (List.map (eL 1 (eI .i64)) r5))),(17,(i_ r6)),(19,(Qb x2)),(20,(l_ [1])),(21,(l_ [1]))],Qm Γ.n0 (bxs [(1,.cells ((Qd x2))),(2,.cells ((Qd r4)))]) M,Γ.n0 + 74⟩; exact Qcv 21 [.int .i64 1] rfl rfl ⟨(.same rfl),(fPtr rfl),(fPtr rfl),(.same rfl),(.same rfl),(.same rfl),(.same rfl),(.same rfl),(.same rfl),(.same rfl),(.same rfl),(.same rfl),(.same rfl),(.same rfl),(.same rfl),(fSl rfl rfl),tv⟩ ⟨⟨_,rfl,rfl,(.same rfl)⟩,⟨_,rfl,rfl,(.same rfl)⟩,tv⟩ rfl) ?_
 obtain ⟨⟨r8,r9,r10⟩,h7,h⟩:=bnd h
 refine Rn.call (args:=[(Qb x2),(l_ [1]),(l_ [1]),(b_ true)]) tv rfl (H_projection_Lift _ _ _ _ _ h7) pc9 (Rn.mov (v:=.tup [(l_ r8),(b_ r9),(i_ r10)]) tv rfl (Rn.extTD (vs:=[(l_ r8),(b_ r9),(i_ r10)]) tv rfl rfl rfl (Rn.ext (v:=(b_ r9)) (vs:=[(l_ r8),(b_ r9),(i_ r10)]) tv rfl rfl rfl (Rn.ext (v:=(i_ r10)) (vs:=[(l_ r8),(b_ r9),(i_ r10)]) tv rfl rfl rfl (Rn.movTD tv rfl (md rfl (md rfl (nt ((sr ((Rn.bslice (xs:=[(i_ 1)]) (cs:=[(i_ 1)]) tv rfl rfl rfl rfl (Rn.buildT (v:=.agg [.sl 1 (Γ.n0 + 27) 0 1 1,(i_ 1),.nils 1,.nils 3]) tv rfl (Rn.bslice (xs:=[(i_ 0),(i_ 1)]) (cs:=[(i_ 0),(i_ 1)]) tv rfl rfl rfl rfl ?_))))))))))))))
 refine Rn.weak (by show WeakSt Γ _ ⟨look [(0,(b_ false)),(1,.ptr (Γ.n0 + 1) 0),(2,.ptr (Γ.n0 + 2) 0),(3,.d (.lst 1 (List.map (eL 1 (eI .i64)) r5))),(4,(i_ r6)),(5,(l_ r8)),(6,(b_ r9)),(7,(i_ r10)),(10,(Qb x2)),(11,.tup [(Qb r4),.d (.lst 1 (List.map (eL 1 (eI .i64)) r5)),(i_ r6)]),(12,(Qb x2)),(13,(l_ [1])),(14,.tup [(Qb r4),.own 1 (List.map (eL 1 (eI .i64)) r5),(i_ r6)]),(15,(Qb r4)),(16,.d (.lst 1 (List.map (eL 1 (eI .i64)) r5))),(17,(i_ r6)),(18,.tup [(l_ r8),(b_ r9),(i_ r10)]),(19,(Qb x2)),(20,(l_ [1])),(21,(l_ [1])),(22,.tup [(l_ r8),(b_ r9),(i_ r10)]),(23,(l_ r8)),(24,(b_ r9)),(25,(i_ r10)),(27,(l_ [1])),(28,.agg [(l_ [1]),(i_ 1),.nils 1,.nils 3]),(29,.sl 1 (Γ.n0 + 29) 0 2 2)],Qm Γ.n0 (bxs [(1,.cells ((Qd x2))),(2,.cells ((Qd r4))),(29,.cells ([(i_ 0),(i_ 1)]))]) M,Γ.n0 + 74⟩; exact Qcv 27 [.int .i64 1] rfl rfl ⟨(.same rfl),(fPtr rfl),(fPtr rfl),(.same rfl),(.same rfl),(.same rfl),(.same rfl),(.same rfl),(.same rfl),(.same rfl),(.same rfl),(.same rfl),(.same rfl),(.same rfl),(.same rfl),(.same rfl),(.same rfl),(.same rfl),(.same rfl),(.same rfl),(.same rfl),(.same rfl),(.same rfl),(.same rfl),(fSl rfl rfl),(WkV.agg (.cons (fSl rfl rfl) (.cons (.same rfl) (.cons (.same rfl) (.cons (.same rfl) .nil))))),(fSlO rfl),tv⟩ ⟨⟨_,rfl,rfl,(.same rfl)⟩,⟨_,rfl,rfl,(.same rfl)⟩,⟨_,rfl,rfl,(.same rfl)⟩,tv⟩ rfl) ?_
 refine Rn.weak (by show WeakSt Γ _ ⟨look [(0,(b_ false)),(1,.ptr (Γ.n0 + 1) 0),(2,.ptr (Γ.n0 + 2) 0),(3,.d (.lst 1 (List.map (eL 1 (eI .i64)) r5))),(4,(i_ r6)),(5,(l_ r8)),(6,(b_ r9)),(7,(i_ r10)),(10,(Qb x2)),(11,.tup [(Qb r4),.d (.lst 1 (List.map (eL 1 (eI .i64)) r5)),(i_ r6)]),(12,(Qb x2)),(13,(l_ [1])),(14,.tup [(Qb r4),.own 1 (List.map (eL 1 (eI .i64)) r5),(i_ r6)]),(15,(Qb r4)),(16,.d (.lst 1 (List.map (eL 1 (eI .i64)) r5))),(17,(i_ r6)),(18,.tup [(l_ r8),(b_ r9),(i_ r10)]),(19,(Qb x2)),(20,(l_ [1])),(21,(l_ [1])),(22,.tup [(l_ r8),(b_ r9),(i_ r10)]),(23,(l_ r8)),(24,(b_ r9)),(25,(i_ r10)),(27,(l_ [1])),(28,.agg [(l_ [1]),(i_ 1),.nils 1,.nils 3]),(29,(l_ [0,1]))],Qm Γ.n0 (bxs [(1,.cells ((Qd x2))),(2,.cells ((Qd r4)))]) M,Γ.n0 + 74⟩; exact Qcv 29 [.int .i64 0,.int .i64 1] rfl rfl ⟨(.same rfl),(fPtr rfl),(fPtr rfl),(.same rfl),(.same rfl),(.same rfl),(.same rfl),(.same rfl),(.same rfl),(.same rfl),(.same rfl),(.same rfl),(.same rfl),(.same rfl),(.same rfl),(.same rfl),(.same rfl),(.same rfl),(.same rfl),(.same rfl),(.same rfl),(.same rfl),(.same rfl),(.same rfl),(.same rfl),(.same rfl),(fSl rfl rfl),tv⟩ ⟨⟨_,rfl,rfl,(.same rfl)⟩,⟨_,rfl,rfl,(.same rfl)⟩,tv⟩ rfl) ?_
 obtain ⟨⟨r12,r13⟩,h11,h⟩:=bnd h
 refine Rn.call (args:=[.agg [(l_ [1]),(i_ 1),.nils 1,.nils 3],(l_ [0,1])]) tv rfl (fun M2 nb2=>ACalls.weak (args':=[.agg [(l_ [1]),(i_ 1),(l_ []),.d (.lst 3 (List.map Qc []))],(l_ [0,1])]) (H_projection_Inverse _ _ _ h11 M2 nb2) (.cons (WkV.agg (.cons (sm rfl) (.cons (sm rfl) (.cons (WkV.nilsD _) (.cons (WkV.nilsD _) .nil))))) (.cons (sm rfl) .nil)) rfl) pc9 ?_
 refine Rn.mov (v:=.tup [(Qb r12),(i_ r13)]) tv rfl (Rn.ext (v:=(Qb r12)) (vs:=[(Qb r12),(i_ r13)]) tv rfl rfl rfl (Rn.ext (v:=(i_ r13)) (vs:=[(Qb r12),(i_ r13)]) tv rfl rfl rfl (Rn.alloc tv rfl (Rn.storeT (v:=(Qb r12)) (ds:=(Qd r12)) (cs':=(Qd r12)) tv rfl rfl rfl rfl rfl rfl rfl (md rfl (Rn.nil (toN ?_)))))))
 refine Tr.cutB (fun (x27 : Bool)=>⟨look [(0,(b_ x27))],Qm Γ.n0 (bxs [(1,.cells ((Qd x2))),(2,.cells ((Qd r4))),(8,.cells ((Qd r12)))]) M,Γ.n0 + 74⟩) h (fun z h=>?_) (fun z h=>?_)
 ·refine Tr.rgn (md rfl (Rn.bin tv rfl rfl rfl (md rfl ?_)))
  refine Qc2 (r6 == 0) (fun hb14=>?_) (fun hb14=>?_)
  ·replace h:=bT hb14 h
   refine Rn.load (v:=(Qb r4)) (gw rfl hb14) rfl (Qj rfl) rfl rfl (Rn.bslice (xs:=[(i_ 1)]) (cs:=[(i_ 1)]) (gw rfl hb14) rfl rfl rfl rfl (Rn.bslice (xs:=[(i_ 1)]) (cs:=[(i_ 1)]) (gw rfl hb14) rfl rfl rfl rfl (Rn.build (v:=.agg [(i_ 0),(i_ 1),(i_ 1)]) (gw rfl hb14) rfl (Rn.build (v:=.agg [(i_ 1),(i_ 1),(i_ 1)]) (gw rfl hb14) rfl (Rn.bslice (xs:=[.agg [(i_ 0),(i_ 1),(i_ 1)],.agg [(i_ 1),(i_ 1),(i_ 1)]]) (cs:=[(i_ 0),(i_ 1),(i_ 1),(i_ 1),(i_ 1),(i_ 1)]) (gw rfl hb14) rfl rfl rfl rfl (Rn.buildT (v:=.agg [.sl 1 (Γ.n0 + 37) 0 1 1,(i_ 2),.sl 1 (Γ.n0 + 38) 0 1 1,.sl 3 (Γ.n0 + 41) 0 2 2]) (gw rfl hb14) rfl ?_))))))
   refine Rn.weak (by show WeakSt Γ _ ⟨look [(0,(b_ false)),(1,.ptr (Γ.n0 + 1) 0),(2,.ptr (Γ.n0 + 2) 0),(3,.d (.lst 1 (List.map (eL 1 (eI .i64)) r5))),(4,(i_ r6)),(5,(l_ r8)),(6,(b_ r9)),(7,(i_ r10)),(8,.ptr (Γ.n0 + 8) 0),(9,(i_ r13)),(10,(Qb x2)),(11,.tup [(Qb r4),.d (.lst 1 (List.map (eL 1 (eI .i64)) r5)),(i_ r6)]),(12,(Qb x2)),(13,(l_ [1])),(14,.tup [(Qb r4),.own 1 (List.map (eL 1 (eI .i64)) r5),(i_ r6)]),(15,(Qb r4)),(16,.d (.lst 1 (List.map (eL 1 (eI .i64)) r5))),(17,(i_ r6)),(18,.tup [(l_ r8),(b_ r9),(i_ r10)]),(19,(Qb x2)),(20,(l_ [1])),(21,(l_ [1])),(22,.tup [(l_ r8),(b_ r9),(i_ r10)]),(23,(l_ r8)),(24,(b_ r9)),(25,(i_ r10)),(26,.tup [(Qb r12),(i_ r13)]),(27,(l_ [1])),(28,.agg [(l_ [1]),(i_ 1),.nils 1,.nils 3]),(29,(l_ [0,1])),(30,.tup [(Qb r12),(i_ r13)]),(31,(Qb r12)),(32,(i_ r13)),(33,(i_ r6)),(34,(b_ (r6 == 0))),(35,(b_ (r6 == 0))),(36,(Qb r4)),(37,(l_ [1])),(38,.sl 1 (Γ.n0 + 38) 0 1 1),(39,.agg [(i_ 0),(i_ 1),(i_ 1)]),(40,.agg [(i_ 1),(i_ 1),(i_ 1)]),(41,.sl 3 (Γ.n0 + 41) 0 2 2),(42,.agg [(l_ [1]),(i_ 2),.sl 1 (Γ.n0 + 38) 0 1 1,.sl 3 (Γ.n0 + 41) 0 2 2])],Qm Γ.n0 (bxs [(1,.cells ((Qd x2))),(2,.cells ((Qd r4))),(8,.cells ((Qd r12))),(38,.cells ([(i_ 1)])),(41,.cells ([(i_ 0),(i_ 1),(i_ 1),(i_ 1),(i_ 1),(i_ 1)]))]) M,Γ.n0 + 74⟩; exact Qcv 37 [.int .i64 1] rfl rfl ⟨(.same rfl),(fPtr rfl),(fPtr rfl),(.same rfl),(.same rfl),(.same rfl),(.same rfl),(.same rfl),(fPtr rfl),(.same rfl),(.same rfl),(.same rfl),(.same rfl),(.same rfl),(.same rfl),(.same rfl),(.same rfl),(.same rfl),(.same rfl),(.same rfl),(.same rfl),(.same rfl),(.same rfl),(.same rfl),(.same rfl),(.same rfl),(.same rfl),(.same rfl),(.same rfl),(.same rfl),(.same rfl),(.same rfl),(.same rfl),(.same rfl),(.same rfl),(.same rfl),(.same rfl),(fSl rfl rfl),(fSlO rfl),(.same rfl),(.same rfl),(fSlO rfl),(WkV.agg (.cons (fSl rfl rfl) (.cons (.same rfl) (.cons (fSlO rfl) (.cons (fSlO rfl) .nil))))),tv⟩ ⟨⟨_,rfl,rfl,(.same rfl)⟩,⟨_,rfl,rfl,(.same rfl)⟩,⟨_,rfl,rfl,(.same rfl)⟩,⟨_,rfl,rfl,(.same rfl)⟩,⟨_,rfl,rfl,(.same rfl)⟩,tv⟩ rfl) ?_
   refine Rn.weak (by show WeakSt Γ _ ⟨look [(0,(b_ false)),(1,.ptr (Γ.n0 + 1) 0),(2,.ptr (Γ.n0 + 2) 0),(3,.d (.lst 1 (List.map (eL 1 (eI .i64)) r5))),(4,(i_ r6)),(5,(l_ r8)),(6,(b_ r9)),(7,(i_ r10)),(8,.ptr (Γ.n0 + 8) 0),(9,(i_ r13)),(10,(Qb x2)),(11,.tup [(Qb r4),.d (.lst 1 (List.map (eL 1 (eI .i64)) r5)),(i_ r6)]),(12,(Qb x2)),(13,(l_ [1])),(14,.tup [(Qb r4),.own 1 (List.map (eL 1 (eI .i64)) r5),(i_ r6)]),(15,(Qb r4)),(16,.d (.lst 1 (List.map (eL 1 (eI .i64)) r5))),(17,(i_ r6)),(18,.tup [(l_ r8),(b_ r9),(i_ r10)]),(19,(Qb x2)),(20,(l_ [1])),(21,(l_ [1])),(22,.tup [(l_ r8),(b_ r9),(i_ r10)]),(23,(l_ r8)),(24,(b_ r9)),(25,(i_ r10)),(26,.tup [(Qb r12),(i_ r13)]),(27,(l_ [1])),(28,.agg [(l_ [1]),(i_ 1),.nils 1,.nils 3]),(29,(l_ [0,1])),(30,.tup [(Qb r12),(i_ r13)]),(31,(Qb r12)),(32,(i_ r13)),(33,(i_ r6)),(34,(b_ (r6 == 0))),(35,(b_ (r6 == 0))),(36,(Qb r4)),(37,(l_ [1])),(38,(l_ [1])),(39,.agg [(i_ 0),(i_ 1),(i_ 1)]),(40,.agg [(i_ 1),(i_ 1),(i_ 1)]),(41,.sl 3 (Γ.n0 + 41) 0 2 2),(42,.agg [(l_ [1]),(i_ 2),(l_ [1]),.sl 3 (Γ.n0 + 41) 0 2 2])],Qm Γ.n0 (bxs [(1,.cells ((Qd x2))),(2,.cells ((Qd r4))),(8,.cells ((Qd r12))),(41,.cells ([(i_ 0),(i_ 1),(i_ 1),(i_ 1),(i_ 1),(i_ 1)]))]) M,Γ.n0 + 74⟩; exact Qcv 38 [.int .i64 1] rfl rfl ⟨(.same rfl),(fPtr rfl),(fPtr rfl),(.same rfl),(.same rfl),(.same rfl),(.same rfl),(.same rfl),(fPtr rfl),(.same rfl),(.same rfl),(.same rfl),(.same rfl),(.same rfl),(.same rfl),(.same rfl),(.same rfl),(.same rfl),(.same rfl),(.same rfl),(.same rfl),(.same rfl),(.same rfl),(.same rfl),(.same rfl),(.same rfl),(.same rfl),(.same rfl),(.same rfl),(.same rfl),(.same rfl),(.same rfl),(.same rfl),(.same rfl),(.same rfl),(.same rfl),(.same rfl),(.same rfl),(fSl rfl rfl),(.same rfl),(.same rfl),(fSlO rfl),(WkV.agg (.cons (.same rfl) (.cons (.same rfl) (.cons (fSl rfl rfl) (.cons (fSlO rfl) .nil))))),tv⟩ ⟨⟨_,rfl,rfl,(.same rfl)⟩,⟨_,rfl,rfl,(.same rfl)⟩,⟨_,rfl,rfl,(.same rfl)⟩,⟨_,rfl,rfl,(.same rfl)⟩,tv⟩ rfl) ?_
   refine Rn.weak (by show WeakSt Γ _ ⟨look [(0,(b_ false)),(1,.ptr (Γ.n0 + 1) 0),(2,.ptr (Γ.n0 + 2) 0),(3,.d (.lst 1 (List.map (eL 1 (eI .i64)) r5))),(4,(i_ r6)),(5,(l_ r8)),(6,(b_ r9)),(7,(i_ r10)),(8,.ptr (Γ.n0 + 8) 0),(9,(i_ r13)),(10,(Qb x2)),(11,.tup [(Qb r4),.d (.lst 1 (List.map (eL 1 (eI .i64)) r5)),(i_ r6)]),(12,(Qb x2)),(13,(l_ [1])),(14,.tup [(Qb r4),.own 1 (List.map (eL 1 (eI .i64)) r5),(i_ r6)]),(15,(Qb r4)),(16,.d (.lst 1 (List.map (eL 1 (eI .i64)) r5))),(17,(i_ r6)),(18,.tup [(l_ r8),(b_ r9),(i_ r10)]),(19,(Qb x2)),(20,(l_ [1])),(21,(l_ [1])),(22,.tup [(l_ r8),(b_ r9),(i_ r10)]),(23,(l_ r8)),(24,(b_ r9)),(25,(i_ r10)),(26,.tup [(Qb r12),(i_ r13)]),(27,(l_ [1])),(28,.agg [(l_ [1]),(i_ 1),.nils 1,.nils 3]),(29,(l_ [0,1])),(30,.tup [(Qb r12),(i_ r13)]),(31,(Qb r12)),(32,(i_ r13)),(33,(i_ r6)),(34,(b_ (r6 == 0))),(35,(b_ (r6 == 0))),(36,(Qb r4)),(37,(l_ [1])),(38,(l_ [1])),(39,.agg [(i_ 0),(i_ 1),(i_ 1)]),(40,.agg [(i_ 1),(i_ 1),(i_ 1)]),(41,.d (.lst 3 (List.map Qc [(Qe.mk 0 1 1),(Qe.mk 1 1 1)]))),(42,.agg [(l_ [1]),(i_ 2),(l_ [1]),.d (.lst 3 (List.map Qc [(Qe.mk 0 1 1),(Qe.mk 1 1 1)]))])],Qm Γ.n0 (bxs [(1,.cells ((Qd x2))),(2,.cells ((Qd r4))),(8,.cells ((Qd r12)))]) M,Γ.n0 + 74⟩; exact Qcv 41 [.int .i64 0,.int .i64 1,.int .i64 1,.int .i64 1,.int .i64 1,.int .i64 1] rfl rfl ⟨(.same rfl),(fPtr rfl),(fPtr rfl),(.same rfl),(.same rfl),(.same rfl),(.same rfl),(.same rfl),(fPtr rfl),(.same rfl),(.same rfl),(.same rfl),(.same rfl),(.same rfl),(.same rfl),(.same rfl),(.same rfl),(.same rfl),(.same rfl),(.same rfl),(.same rfl),(.same rfl),(.same rfl),(.same rfl),(.same rfl),(.same rfl),(.same rfl),(.same rfl),(.same rfl),(.same rfl),(.same rfl),(.same rfl),(.same rfl),(.same rfl),(.same rfl),(.same rfl),(.same rfl),(.same rfl),(.same rfl),(.same rfl),(.same rfl),(fSl rfl rfl),(WkV.agg (.cons (.same rfl) (.cons (.same rfl) (.cons (.same rfl) (.cons (fSl rfl rfl) .nil))))),tv⟩ ⟨⟨_,rfl,rfl,(.same rfl)⟩,⟨_,rfl,rfl,(.same rfl)⟩,⟨_,rfl,rfl,(.same rfl)⟩,tv⟩ rfl) ?_
   obtain ⟨x16,h15,h⟩:=bnd h
   refine Rn.call (args:=[(Qb r4),.agg [(l_ [1]),(i_ 2),(l_ [1]),.d (.lst 3 (List.map Qc [(Qe.mk 0 1 1),(Qe.mk 1 1 1)]))]]) (gw rfl hb14) rfl (H_overseerref03_Same _ _ _ h15) pc9 (Rn.pickT (v:=(b_ x16)) tv rfl hb14 rfl (md rfl ?_))
   refine Qc2 x16 (fun hb17=>?_) (fun hb17=>?_)
   ·replace h:=bT hb17 h
    refine Rn.movD (gw rfl hb17) rfl (Rn.bslice (xs:=[(i_ 0),(i_ 1)]) (cs:=[(i_ 0),(i_ 1)]) (gw rfl hb17) rfl rfl rfl rfl (Rn.bslice (xs:=[(i_ 0),(i_ 1),(i_ 2)]) (cs:=[(i_ 0),(i_ 1),(i_ 2)]) (gw rfl hb17) rfl rfl rfl rfl (Rn.bslice (xs:=[.sl 1 (Γ.n0 + 47) 0 2 2,.sl 1 (Γ.n0 + 48) 0 3 3]) (cs:=[.sl 1 (Γ.n0 + 47) 0 2 2,.sl 1 (Γ.n0 + 48) 0 3 3]) (gw rfl hb17) rfl rfl rfl rfl ?_)))
    refine Rn.weak (by show WeakSt Γ _ ⟨look [(0,(b_ false)),(1,.ptr (Γ.n0 + 1) 0),(2,.ptr (Γ.n0 + 2) 0),(3,.d (.lst 1 (List.map (eL 1 (eI .i64)) r5))),(4,(i_ r6)),(5,(l_ r8)),(6,(b_ r9)),(7,(i_ r10)),(8,.ptr (Γ.n0 + 8) 0),(9,(i_ r13)),(10,(Qb x2)),(11,.tup [(Qb r4),.d (.lst 1 (List.map (eL 1 (eI .i64)) r5)),(i_ r6)]),(12,(Qb x2)),(13,(l_ [1])),(14,.tup [(Qb r4),.own 1 (List.map (eL 1 (eI .i64)) r5),(i_ r6)]),(15,(Qb r4)),(16,.d (.lst 1 (List.map (eL 1 (eI .i64)) r5))),(17,(i_ r6)),(18,.tup [(l_ r8),(b_ r9),(i_ r10)]),(19,(Qb x2)),(20,(l_ [1])),(21,(l_ [1])),(22,.tup [(l_ r8),(b_ r9),(i_ r10)]),(23,(l_ r8)),(24,(b_ r9)),(25,(i_ r10)),(26,.tup [(Qb r12),(i_ r13)]),(27,(l_ [1])),(28,.agg [(l_ [1]),(i_ 1),.nils 1,.nils 3]),(29,(l_ [0,1])),(30,.tup [(Qb r12),(i_ r13)]),(31,(Qb r12)),(32,(i_ r13)),(33,(i_ r6)),(34,(b_ (r6 == 0))),(35,(b_ (r6 == 0))),(36,(Qb r4)),(37,(l_ [1])),(38,(l_ [1])),(39,.agg [(i_ 0),(i_ 1),(i_ 1)]),(40,.agg [(i_ 1),(i_ 1),(i_ 1)]),(41,.d (.lst 3 (List.map Qc [(Qe.mk 0 1 1),(Qe.mk 1 1 1)]))),(42,.agg [(l_ [1]),(i_ 2),(l_ [1]),.d (.lst 3 (List.map Qc [(Qe.mk 0 1 1),(Qe.mk 1 1 1)]))]),(43,(b_ x16)),(44,(b_ x16)),(45,(b_ x16)),(46,.d (.lst 1 (List.map (eL 1 (eI .i64)) r5))),(47,(l_ [0,1])),(48,.sl 1 (Γ.n0 + 48) 0 3 3),(49,.sl 1 (Γ.n0 + 49) 0 2 2)],Qm Γ.n0 (bxs [(1,.cells ((Qd x2))),(2,.cells ((Qd r4))),(8,.cells ((Qd r12))),(48,.cells ([(i_ 0),(i_ 1),(i_ 2)])),(49,.cells ([(l_ [0,1]),.sl 1 (Γ.n0 + 48) 0 3 3]))]) M,Γ.n0 + 74⟩; exact Qcv 47 [.int .i64 0,.int .i64 1] rfl rfl ⟨(.same rfl),(fPtr rfl),(fPtr rfl),(.same rfl),(.same rfl),(.same rfl),(.same rfl),(.same rfl),(fPtr rfl),(.same rfl),(.same rfl),(.same rfl),(.same rfl),(.same rfl),(.same rfl),(.same rfl),(.same rfl),(.same rfl),(.same rfl),(.same rfl),(.same rfl),(.same rfl),(.same rfl),(.same rfl),(.same rfl),(.same rfl),(.same rfl),(.same rfl),(.same rfl),(.same rfl),(.same rfl),(.same rfl),(.same rfl),(.same rfl),(.same rfl),(.same rfl),(.same rfl),(.same rfl),(.same rfl),(.same rfl),(.same rfl),(.same rfl),(.same rfl),(.same rfl),(.same rfl),(.same rfl),(.same rfl),(fSl rfl rfl),(fSlO rfl),(fSlO rfl),tv⟩ ⟨⟨_,rfl,rfl,(.same rfl)⟩,⟨_,rfl,rfl,(.same rfl)⟩,⟨_,rfl,rfl,(.same rfl)⟩,⟨_,rfl,rfl,(.same rfl)⟩,⟨_,rfl,rfl,(.cons (fSl rfl rfl) (.cons (fSlO rfl) .nil))⟩,tv⟩ rfl) ?_
    refine Rn.weak (by show WeakSt Γ _ ⟨look [(0,(b_ false)),(1,.ptr (Γ.n0 + 1) 0),(2,.ptr (Γ.n0 + 2) 0),(3,.d (.lst 1 (List.map (eL 1 (eI .i64)) r5))),(4,(i_ r6)),(5,(l_ r8)),(6,(b_ r9)),(7,(i_ r10)),(8,.ptr (Γ.n0 + 8) 0),(9,(i_ r13)),(10,(Qb x2)),(11,.tup [(Qb r4),.d (.lst 1 (List.map (eL 1 (eI .i64)) r5)),(i_ r6)]),(12,(Qb x2)),(13,(l_ [1])),(14,.tup [(Qb r4),.own 1 (List.map (eL 1 (eI .i64)) r5),(i_ r6)]),(15,(Qb r4)),(16,.d (.lst 1 (List.map (eL 1 (eI .i64)) r5))),(17,(i_ r6)),(18,.tup [(l_ r8),(b_ r9),(i_ r10)]),(19,(Qb x2)),(20,(l_ [1])),(21,(l_ [1])),(22,.tup [(l_ r8),(b_ r9),(i_ r10)]),(23,(l_ r8)),(24,(b_ r9)),(25,(i_ r10)),(26,.tup [(Qb r12),(i_ r13)]),(27,(l_ [1])),(28,.agg [(l_ [1]),(i_ 1),.nils 1,.nils 3]),(29,(l_ [0,1])),(30,.tup [(Qb r12),(i_ r13)]),(31,(Qb r12)),(32,(i_ r13)),(33,(i_ r6)),(34,(b_ (r6 == 0))),(35,(b_ (r6 == 0))),(36,(Qb r4)),(37,(l_ [1])),(38,(l_ [1])),(39,.agg [(i_ 0),(i_ 1),(i_ 1)]),(40,.agg [(i_ 1),(i_ 1),(i_ 1)]),(41,.d (.lst 3 (List.map Qc [(Qe.mk 0 1 1),(Qe.mk 1 1 1)]))),(42,.agg [(l_ [1]),(i_ 2),(l_ [1]),.d (.lst 3 (List.map Qc [(Qe.mk 0 1 1),(Qe.mk 1 1 1)]))]),(43,(b_ x16)),(44,(b_ x16)),(45,(b_ x16)),(46,.d (.lst 1 (List.map (eL 1 (eI .i64)) r5))),(47,(l_ [0,1])),(48,(l_ [0,1,2])),(49,.sl 1 (Γ.n0 + 49) 0 2 2)],Qm Γ.n0 (bxs [(1,.cells ((Qd x2))),(2,.cells ((Qd r4))),(8,.cells ((Qd r12))),(49,.cells ([(l_ [0,1]),(l_ [0,1,2])]))]) M,Γ.n0 + 74⟩; exact Qcv 48 [.int .i64 0,.int .i64 1,.int .i64 2] rfl rfl ⟨(.same rfl),(fPtr rfl),(fPtr rfl),(.same rfl),(.same rfl),(.same rfl),(.same rfl),(.same rfl),(fPtr rfl),(.same rfl),(.same rfl),(.same rfl),(.same rfl),(.same rfl),(.same rfl),(.same rfl),(.same rfl),(.same rfl),(.same rfl),(.same rfl),(.same rfl),(.same rfl),(.same rfl),(.same rfl),(.same rfl),(.same rfl),(.same rfl),(.same rfl),(.same rfl),(.same rfl),(.same rfl),(.same rfl),(.same rfl),(.same rfl),(.same rfl),(.same rfl),(.same rfl),(.same rfl),(.same rfl),(.same rfl),(.same rfl),(.same rfl),(.same rfl),(.same rfl),(.same rfl),(.same rfl),(.same rfl),(.same rfl),(fSl rfl rfl),(fSlO rfl),tv⟩ ⟨⟨_,rfl,rfl,(.same rfl)⟩,⟨_,rfl,rfl,(.same rfl)⟩,⟨_,rfl,rfl,(.same rfl)⟩,⟨_,rfl,rfl,(.cons (.same rfl) (.cons (fSl rfl rfl) .nil))⟩,tv⟩ rfl) ?_
    refine Rn.weak (by show WeakSt Γ _ ⟨look [(0,(b_ false)),(1,.ptr (Γ.n0 + 1) 0),(2,.ptr (Γ.n0 + 2) 0),(3,.d (.lst 1 (List.map (eL 1 (eI .i64)) r5))),(4,(i_ r6)),(5,(l_ r8)),(6,(b_ r9)),(7,(i_ r10)),(8,.ptr (Γ.n0 + 8) 0),(9,(i_ r13)),(10,(Qb x2)),(11,.tup [(Qb r4),.d (.lst 1 (List.map (eL 1 (eI .i64)) r5)),(i_ r6)]),(12,(Qb x2)),(13,(l_ [1])),(14,.tup [(Qb r4),.own 1 (List.map (eL 1 (eI .i64)) r5),(i_ r6)]),(15,(Qb r4)),(16,.d (.lst 1 (List.map (eL 1 (eI .i64)) r5))),(17,(i_ r6)),(18,.tup [(l_ r8),(b_ r9),(i_ r10)]),(19,(Qb x2)),(20,(l_ [1])),(21,(l_ [1])),(22,.tup [(l_ r8),(b_ r9),(i_ r10)]),(23,(l_ r8)),(24,(b_ r9)),(25,(i_ r10)),(26,.tup [(Qb r12),(i_ r13)]),(27,(l_ [1])),(28,.agg [(l_ [1]),(i_ 1),.nils 1,.nils 3]),(29,(l_ [0,1])),(30,.tup [(Qb r12),(i_ r13)]),(31,(Qb r12)),(32,(i_ r13)),(33,(i_ r6)),(34,(b_ (r6 == 0))),(35,(b_ (r6 == 0))),(36,(Qb r4)),(37,(l_ [1])),(38,(l_ [1])),(39,.agg [(i_ 0),(i_ 1),(i_ 1)]),(40,.agg [(i_ 1),(i_ 1),(i_ 1)]),(41,.d (.lst 3 (List.map Qc [(Qe.mk 0 1 1),(Qe.mk 1 1 1)]))),(42,.agg [(l_ [1]),(i_ 2),(l_ [1]),.d (.lst 3 (List.map Qc [(Qe.mk 0 1 1),(Qe.mk 1 1 1)]))]),(43,(b_ x16)),(44,(b_ x16)),(45,(b_ x16)),(46,.d (.lst 1 (List.map (eL 1 (eI .i64)) r5))),(47,(l_ [0,1])),(48,(l_ [0,1,2])),(49,.d (.lst 1 (List.map (eL 1 (eI .i64)) ([[0,1],[0,1,2]]))))],Qm Γ.n0 (bxs [(1,.cells ((Qd x2))),(2,.cells ((Qd r4))),(8,.cells ((Qd r12)))]) M,Γ.n0 + 74⟩; exact Qcv 49 [.lst 1 (List.map (eI .i64) [0,1]),.lst 1 (List.map (eI .i64) [0,1,2])] rfl rfl ⟨(.same rfl),(fPtr rfl),(fPtr rfl),(.same rfl),(.same rfl),(.same rfl),(.same rfl),(.same rfl),(fPtr rfl),(.same rfl),(.same rfl),(.same rfl),(.same rfl),(.same rfl),(.same rfl),(.same rfl),(.same rfl),(.same rfl),(.same rfl),(.same rfl),(.same rfl),(.same rfl),(.same rfl),(.same rfl),(.same rfl),(.same rfl),(.same rfl),(.same rfl),(.same rfl),(.same rfl),(.same rfl),(.same rfl),(.same rfl),(.same rfl),(.same rfl),(.same rfl),(.same rfl),(.same rfl),(.same rfl),(.same rfl),(.same rfl),(.same rfl),(.same rfl),(.same rfl),(.same rfl),(.same rfl),(.same rfl),(.same rfl),(.same rfl),(fSl rfl rfl),tv⟩ ⟨⟨_,rfl,rfl,(.same rfl)⟩,⟨_,rfl,rfl,(.same rfl)⟩,⟨_,rfl,rfl,(.same rfl)⟩,tv⟩ rfl) ?_
    obtain ⟨x19,h18,h⟩:=bnd h
    refine Rn.call (args:=[.d (.lst 1 (List.map (eL 1 (eI .i64)) r5)),.d (.lst 1 (List.map (eL 1 (eI .i64)) ([[0,1],[0,1,2]])))]) (gw rfl hb17) rfl (H_overseerlaw03_SameWords _ _ _ h18) pc9 (Rn.pickT (v:=(b_ x19)) tv rfl hb17 rfl (md rfl ?_))
    refine Qc2 x19 (fun hb20=>?_) (fun hb20=>?_)
    ·replace h:=bT hb20 h
     refine Rn.movD (gw rfl hb20) rfl (Rn.bin (gw rfl hb20) rfl rfl rfl (Rn.pickT (v:=(b_ (r10 == 0))) tv rfl hb20 rfl (md rfl ?_)))
     refine Qc2 (r10 == 0) (fun hb21=>?_) (fun hb21=>?_)
     ·replace h:=bT hb21 h
      refine Rn.movD (gw rfl hb21) rfl (Rn.pickT (v:=(b_ r9)) tv rfl hb21 rfl (md rfl ?_))
      refine Qc2 r9 (fun hb22=>?_) (fun hb22=>?_)
      ·replace h:=bT hb22 h
       refine Rn.movD (gw rfl hb22) rfl (Rn.bslice (xs:=[(i_ 0),(i_ 1)]) (cs:=[(i_ 0),(i_ 1)]) (gw rfl hb22) rfl rfl rfl rfl ?_)
       refine Rn.weak (by show WeakSt Γ _ ⟨look [(0,(b_ false)),(1,.ptr (Γ.n0 + 1) 0),(2,.ptr (Γ.n0 + 2) 0),(3,.d (.lst 1 (List.map (eL 1 (eI .i64)) r5))),(4,(i_ r6)),(5,(l_ r8)),(6,(b_ r9)),(7,(i_ r10)),(8,.ptr (Γ.n0 + 8) 0),(9,(i_ r13)),(10,(Qb x2)),(11,.tup [(Qb r4),.d (.lst 1 (List.map (eL 1 (eI .i64)) r5)),(i_ r6)]),(12,(Qb x2)),(13,(l_ [1])),(14,.tup [(Qb r4),.own 1 (List.map (eL 1 (eI .i64)) r5),(i_ r6)]),(15,(Qb r4)),(16,.d (.lst 1 (List.map (eL 1 (eI .i64)) r5))),(17,(i_ r6)),(18,.tup [(l_ r8),(b_ r9),(i_ r10)]),(19,(Qb x2)),(20,(l_ [1])),(21,(l_ [1])),(22,.tup [(l_ r8),(b_ r9),(i_ r10)]),(23,(l_ r8)),(24,(b_ r9)),(25,(i_ r10)),(26,.tup [(Qb r12),(i_ r13)]),(27,(l_ [1])),(28,.agg [(l_ [1]),(i_ 1),.nils 1,.nils 3]),(29,(l_ [0,1])),(30,.tup [(Qb r12),(i_ r13)]),(31,(Qb r12)),(32,(i_ r13)),(33,(i_ r6)),(34,(b_ (r6 == 0))),(35,(b_ (r6 == 0))),(36,(Qb r4)),(37,(l_ [1])),(38,(l_ [1])),(39,.agg [(i_ 0),(i_ 1),(i_ 1)]),(40,.agg [(i_ 1),(i_ 1),(i_ 1)]),(41,.d (.lst 3 (List.map Qc [(Qe.mk 0 1 1),(Qe.mk 1 1 1)]))),(42,.agg [(l_ [1]),(i_ 2),(l_ [1]),.d (.lst 3 (List.map Qc [(Qe.mk 0 1 1),(Qe.mk 1 1 1)]))]),(43,(b_ x16)),(44,(b_ x16)),(45,(b_ x16)),(46,.d (.lst 1 (List.map (eL 1 (eI .i64)) r5))),(47,(l_ [0,1])),(48,(l_ [0,1,2])),(49,.d (.lst 1 (List.map (eL 1 (eI .i64)) ([[0,1],[0,1,2]])))),(50,(b_ x19)),(51,(b_ x19)),(52,(b_ x19)),(53,(i_ r10)),(54,(b_ (r10 == 0))),(55,(b_ (r10 == 0))),(56,(b_ (r10 == 0))),(57,(b_ r9)),(58,(b_ r9)),(59,(b_ r9)),(60,(l_ r8)),(61,(l_ [0,1]))],Qm Γ.n0 (bxs [(1,.cells ((Qd x2))),(2,.cells ((Qd r4))),(8,.cells ((Qd r12)))]) M,Γ.n0 + 74⟩; exact Qcv 61 [.int .i64 0,.int .i64 1] rfl rfl ⟨(.same rfl),(fPtr rfl),(fPtr rfl),(.same rfl),(.same rfl),(.same rfl),(.same rfl),(.same rfl),(fPtr rfl),(.same rfl),(.same rfl),(.same rfl),(.same rfl),(.same rfl),(.same rfl),(.same rfl),(.same rfl),(.same rfl),(.same rfl),(.same rfl),(.same rfl),(.same rfl),(.same rfl),(.same rfl),(.same rfl),(.same rfl),(.same rfl),(.same rfl),(.same rfl),(.same rfl),(.same rfl),(.same rfl),(.same rfl),(.same rfl),(.same rfl),(.same rfl),(.same rfl),(.same rfl),(.same rfl),(.same rfl),(.same rfl),(.same rfl),(.same rfl),(.same rfl),(.same rfl),(.same rfl),(.same rfl),(.same rfl),(.same rfl),(.same rfl),(.same rfl),(.same rfl),(.same rfl),(.same rfl),(.same rfl),(.same rfl),(.same rfl),(.same rfl),(.same rfl),(.same rfl),(.same rfl),(fSl rfl rfl),tv⟩ ⟨⟨_,rfl,rfl,(.same rfl)⟩,⟨_,rfl,rfl,(.same rfl)⟩,⟨_,rfl,rfl,(.same rfl)⟩,tv⟩ rfl) ?_
       obtain ⟨x24,h23,h⟩:=bnd h
       refine Rn.call (args:=[(l_ r8),(l_ [0,1])]) (gw rfl hb22) rfl (H_overseerref03_SameInts _ _ _ h23) pc9 (Rn.pickT (v:=(b_ x24)) tv rfl hb22 rfl (md rfl ?_))
       refine Qc2 x24 (fun hb25=>?_) (fun hb25=>?_)
       ·replace h:=bT hb25 h
        refine Rn.movD (gw rfl hb25) rfl (Rn.bin (gw rfl hb25) rfl rfl rfl (Rn.pickT (v:=(b_ (r13 == 0))) tv rfl hb25 rfl (md rfl ?_)))
        refine Qc2 (r13 == 0) (fun hb26=>?_) (fun hb26=>?_)
        ·replace h:=bT hb26 h
         refine Rn.fldP (o':=3) (gw rfl hb26) rfl rfl (Rn.load (v:=.d (.lst 3 (List.map Qc r12.Edges))) (gw rfl hb26) rfl (Qj rfl) rfl rfl (Rn.lenD (gw rfl hb26) rfl (Rn.bin (gw rfl hb26) rfl rfl rfl (Rn.pickT (v:=(b_ ((r12.Edges.length : Int) == 1))) tv rfl hb26 rfl (md rfl (Rn.nil ?_))))))
         replace h:=si h; subst h
         exact Qg [] ⟨(sm rfl),tv⟩ ⟨⟨_,rfl,rfl,(.same rfl)⟩,⟨_,rfl,rfl,(.same rfl)⟩,⟨_,rfl,rfl,(.same rfl)⟩,tv⟩ rfl
        ·replace h:=bF hb26 h
         refine Rn.sk (nw rfl hb26) (Rn.sk (nw rfl hb26) (Rn.sk (nw rfl hb26) (Rn.sk (nw rfl hb26) (Rn.pickF (v:=(b_ false)) tv rfl hb26 rfl (md rfl (Rn.nil ?_))))))
         replace h:=si h; subst h
         exact Qg [] ⟨(sm rfl),tv⟩ ⟨⟨_,rfl,rfl,(.same rfl)⟩,⟨_,rfl,rfl,(.same rfl)⟩,⟨_,rfl,rfl,(.same rfl)⟩,tv⟩ rfl
       ·replace h:=bF hb25 h
        refine Rn.sk (nw rfl hb25) (Rn.sk (nw rfl hb25) (Rn.pickF (v:=(b_ false)) tv rfl hb25 rfl (md rfl (Rn.sk (nw (b:=false) rfl rfl) (Rn.sk (nw (b:=false) rfl rfl) (Rn.sk (nw (b:=false) rfl rfl) (Rn.sk (nw (b:=false) rfl rfl) (Rn.pickF (v:=(b_ false)) tv rfl rfl rfl (md rfl (Rn.nil ?_))))))))))
        replace h:=si h; subst h
        exact Qg [] ⟨(sm rfl),tv⟩ ⟨⟨_,rfl,rfl,(.same rfl)⟩,⟨_,rfl,rfl,(.same rfl)⟩,⟨_,rfl,rfl,(.same rfl)⟩,tv⟩ rfl
      ·replace h:=bF hb22 h
       refine Rn.sk (nw rfl hb22) (Rn.sk (nw rfl hb22) (Rn.sk (nw rfl hb22) (Rn.pickF (v:=(b_ false)) tv rfl hb22 rfl (md rfl (Rn.sk (nw (b:=false) rfl rfl) (Rn.sk (nw (b:=false) rfl rfl) (Rn.pickF (v:=(b_ false)) tv rfl rfl rfl (md rfl (Rn.sk (nw (b:=false) rfl rfl) (Rn.sk (nw (b:=false) rfl rfl) (Rn.sk (nw (b:=false) rfl rfl) (Rn.sk (nw (b:=false) rfl rfl) (Rn.pickF (v:=(b_ false)) tv rfl rfl rfl (md rfl (Rn.nil ?_)))))))))))))))
       replace h:=si h; subst h
       exact Qg [] ⟨(sm rfl),tv⟩ ⟨⟨_,rfl,rfl,(.same rfl)⟩,⟨_,rfl,rfl,(.same rfl)⟩,⟨_,rfl,rfl,(.same rfl)⟩,tv⟩ rfl
     ·replace h:=bF hb21 h
      refine Rn.sk (nw rfl hb21) (Rn.pickF (v:=(b_ false)) tv rfl hb21 rfl (md rfl (Rn.sk (nw (b:=false) rfl rfl) (Rn.sk (nw (b:=false) rfl rfl) (Rn.sk (nw (b:=false) rfl rfl) (Rn.pickF (v:=(b_ false)) tv rfl rfl rfl (md rfl (Rn.sk (nw (b:=false) rfl rfl) (Rn.sk (nw (b:=false) rfl rfl) (Rn.pickF (v:=(b_ false)) tv rfl rfl rfl (md rfl (Rn.sk (nw (b:=false) rfl rfl) (Rn.sk (nw (b:=false) rfl rfl) (Rn.sk (nw (b:=false) rfl rfl) (Rn.sk (nw (b:=false) rfl rfl) (Rn.pickF (v:=(b_ false)) tv rfl rfl rfl (md rfl (Rn.nil ?_))))))))))))))))))
      replace h:=si h; subst h
      exact Qg [] ⟨(sm rfl),tv⟩ ⟨⟨_,rfl,rfl,(.same rfl)⟩,⟨_,rfl,rfl,(.same rfl)⟩,⟨_,rfl,rfl,(.same rfl)⟩,tv⟩ rfl
    ·replace h:=bF hb20 h
     refine Rn.sk (nw rfl hb20) (Rn.sk (nw rfl hb20) (Rn.pickF (v:=(b_ false)) tv rfl hb20 rfl (md rfl (Rn.sk (nw (b:=false) rfl rfl) (Rn.pickF (v:=(b_ false)) tv rfl rfl rfl (md rfl (Rn.sk (nw (b:=false) rfl rfl) (Rn.sk (nw (b:=false) rfl rfl) (Rn.sk (nw (b:=false) rfl rfl) (Rn.pickF (v:=(b_ false)) tv rfl rfl rfl (md rfl (Rn.sk (nw (b:=false) rfl rfl) (Rn.sk (nw (b:=false) rfl rfl) (Rn.pickF (v:=(b_ false)) tv rfl rfl rfl (md rfl (Rn.sk (nw (b:=false) rfl rfl) (Rn.sk (nw (b:=false) rfl rfl) (Rn.sk (nw (b:=false) rfl rfl) (Rn.sk (nw (b:=false) rfl rfl) (Rn.pickF (v:=(b_ false)) tv rfl rfl rfl (md rfl (Rn.nil ?_))))))))))))))))))))))
     replace h:=si h; subst h
     exact Qg [] ⟨(sm rfl),tv⟩ ⟨⟨_,rfl,rfl,(.same rfl)⟩,⟨_,rfl,rfl,(.same rfl)⟩,⟨_,rfl,rfl,(.same rfl)⟩,tv⟩ rfl
   ·replace h:=bF hb17 h
    refine Rn.sk (nw rfl hb17) (Rn.sk (nw rfl hb17) (Rn.sk (nw rfl hb17) (Rn.sk (nw rfl hb17) (Rn.sk (nw rfl hb17) (Rn.pickF (v:=(b_ false)) tv rfl hb17 rfl (md rfl (Rn.sk (nw (b:=false) rfl rfl) (Rn.sk (nw (b:=false) rfl rfl) (Rn.pickF (v:=(b_ false)) tv rfl rfl rfl (md rfl (Rn.sk (nw (b:=false) rfl rfl) (Rn.pickF (v:=(b_ false)) tv rfl rfl rfl (md rfl (Rn.sk (nw (b:=false) rfl rfl) (Rn.sk (nw (b:=false) rfl rfl) (Rn.sk (nw (b:=false) rfl rfl) (Rn.pickF (v:=(b_ false)) tv rfl rfl rfl (md rfl (Rn.sk (nw (b:=false) rfl rfl) (Rn.sk (nw (b:=false) rfl rfl) (Rn.pickF (v:=(b_ false)) tv rfl rfl rfl (md rfl (Rn.sk (nw (b:=false) rfl rfl) (Rn.sk (nw (b:=false) rfl rfl) (Rn.sk (nw (b:=false) rfl rfl) (Rn.sk (nw (b:=false) rfl rfl) (Rn.pickF (v:=(b_ false)) tv rfl rfl rfl (md rfl (Rn.nil ?_)))))))))))))))))))))))))))))
    replace h:=si h; subst h
    exact Qg [] ⟨(sm rfl),tv⟩ ⟨⟨_,rfl,rfl,(.same rfl)⟩,⟨_,rfl,rfl,(.same rfl)⟩,⟨_,rfl,rfl,(.same rfl)⟩,tv⟩ rfl
  ·replace h:=bF hb14 h
   refine Rn.sk (nw rfl hb14) (Rn.sk (nw rfl hb14) (Rn.sk (nw rfl hb14) (Rn.sk (nw rfl hb14) (Rn.sk (nw rfl hb14) (Rn.sk (nw rfl hb14) (Rn.sk (nw rfl hb14) (Rn.sk (nw rfl hb14) (Rn.pickF (v:=(b_ false)) tv rfl hb14 rfl (md rfl (Rn.sk (nw (b:=false) rfl rfl) (Rn.sk (nw (b:=false) rfl rfl) (Rn.sk (nw (b:=false) rfl rfl) (Rn.sk (nw (b:=false) rfl rfl) (Rn.sk (nw (b:=false) rfl rfl) (Rn.pickF (v:=(b_ false)) tv rfl rfl rfl (md rfl (Rn.sk (nw (b:=false) rfl rfl) (Rn.sk (nw (b:=false) rfl rfl) (Rn.pickF (v:=(b_ false)) tv rfl rfl rfl (md rfl (Rn.sk (nw (b:=false) rfl rfl) (Rn.pickF (v:=(b_ false)) tv rfl rfl rfl (md rfl (Rn.sk (nw (b:=false) rfl rfl) (Rn.sk (nw (b:=false) rfl rfl) (Rn.sk (nw (b:=false) rfl rfl) (Rn.pickF (v:=(b_ false)) tv rfl rfl rfl (md rfl (Rn.sk (nw (b:=false) rfl rfl) (Rn.sk (nw (b:=false) rfl rfl) (Rn.pickF (v:=(b_ false)) tv rfl rfl rfl (md rfl (Rn.sk (nw (b:=false) rfl rfl) (Rn.sk (nw (b:=false) rfl rfl) (Rn.sk (nw (b:=false) rfl rfl) (Rn.sk (nw (b:=false) rfl rfl) (Rn.pickF (v:=(b_ false)) tv rfl rfl rfl (md rfl (Rn.nil ?_)))))))))))))))))))))))))))))))))))))))
   replace h:=si h; subst h
   exact Qg [] ⟨(sm rfl),tv⟩ ⟨⟨_,rfl,rfl,(.same rfl)⟩,⟨_,rfl,rfl,(.same rfl)⟩,⟨_,rfl,rfl,(.same rfl)⟩,tv⟩ rfl
 ·obtain ⟨x27,rfl⟩ : ∃ x,x = z:=⟨_,rfl⟩
  refine Tr.ret ?_
  replace h:=si h; subst h
  exact ⟨.inr rfl,(b_ x27),rfl,fun _ _ _ _ h=>h,tv,fun k hk=>Qf hk⟩
theorem Qxz {P : Program} {c : Nat} (hcf : Qs P c = some Qiq) (fuel : Nat) : Qip P c (Qcc fuel):=by
 intro l1 most2 r h
 refine Qcj hcf rfl fun Γ M hP hnt hM=>?_
 subst hP
 refine Tr.init [(0,(l_ l1)),(1,(i_ most2))] rfl ?_
 unfold Qcc at h
 unfold Qiq
 refine sr ((md rfl (nt ((Tr.seq (sr ((md rfl (nt ((Tr.block ?_)))))))))))
 refine Tr.loop (mk:=fun (i3 : Int)=>⟨look [(0,(l_ l1)),(1,(i_ most2)),(5,(i_ i3))],Qm Γ.n0 (bxs []) M,Γ.n0 + 39⟩) h (by exact Qh ⟨(sm rfl),(sm rfl),(sm rfl),tv⟩ tv rfl) (fun k4 z h=>?_)
 ·obtain ⟨i3,rfl⟩ : ∃ x,x = z:=⟨_,rfl⟩
  replace h : _ = some _:=h
  refine Tr.seq (sr ((md rfl (md rfl (Rn.lenD tv rfl (Rn.bin tv rfl rfl rfl (Rn.nil (toN ?_))))))))
  refine Tr.cond rfl (fun hb5=>?_) (fun hb5=>?_)
  ·replace h:=ifT hb5 h
   refine Tr.skip (toN (Tr.seq (Tr.block (Tr.seq ?_))))
   refine Tr.cutB (fun (x11 : Bool)=>⟨look [(0,(l_ l1)),(1,(i_ most2)),(5,(i_ i3)),(24,(b_ x11))],Qm Γ.n0 (bxs []) M,Γ.n0 + 39⟩) h (fun z h=>?_) (fun z h=>?_)
   ·refine Tr.rgn (md rfl (md rfl ?_))
    obtain ⟨x6,h7,h⟩:=bnd h
    refine Rn.idxD (e:=(eI .i64)) tv rfl rfl h7 (Rn.loadC (x:=.int .i64 x6) tv rfl (Rn.bin tv rfl rfl rfl (md rfl ?_)))
    refine Qc2 (decide (x6 < 0)) (fun hb8=>?_) (fun hb8=>?_)
    ·replace h:=ifT hb8 h
     refine Rn.sk (nw rfl hb8) (Rn.sk (nw rfl hb8) (Rn.sk (nw rfl hb8) (Rn.sk (nw rfl hb8) (Rn.sk (nw rfl hb8) (Rn.sk (nw rfl hb8) (Rn.pickT (v:=(b_ true)) tv rfl hb8 rfl (Rn.nil ?_)))))))
     replace h:=si h; subst h
     exact Qg [] ⟨(sm rfl),(sm rfl),(sm rfl),(sm rfl),tv⟩ tv rfl
    ·replace h:=ifF hb8 h
     refine Rn.movD (gw rfl hb8) rfl (Rn.movD (gw rfl hb8) rfl ?_)
     obtain ⟨x9,h10,h⟩:=bnd h
     refine Rn.idxD (e:=(eI .i64)) (gw rfl hb8) rfl rfl h10 (Rn.loadC (x:=.int .i64 x9) (gw rfl hb8) rfl (Rn.movD (gw rfl hb8) rfl (Rn.bin (gw rfl hb8) rfl rfl rfl (Rn.pickF (v:=(b_ (decide (x9 ≥ most2)))) tv rfl hb8 rfl (Rn.nil ?_)))))
     replace h:=si h; subst h
     exact Qg [] ⟨(sm rfl),(sm rfl),(sm rfl),(sm rfl),tv⟩ tv rfl
   ·obtain ⟨x11,rfl⟩ : ∃ x,x = z:=⟨_,rfl⟩
    refine Tr.cond rfl (fun hb12=>?_) (fun hb12=>?_)
    ·replace h:=bT hb12 h
     refine sr ((md rfl (nt ((Tr.ret ?_)))))
     replace h:=si h; subst h
     exact ⟨.inr rfl,(i_ 2),rfl,fun _ _ _ _ h=>h,tv,fun k hk=>Qf hk⟩
    ·replace h:=bF hb12 h
     refine Tr.skip (toN ?_)
     refine Tr.cutB (fun (x18 : Bool)=>⟨look [(0,(l_ l1)),(1,(i_ most2)),(5,(i_ i3)),(38,(b_ x18))],Qm Γ.n0 (bxs []) M,Γ.n0 + 39⟩) h (fun z h=>?_) (fun z h=>?_)
     ·refine Tr.rgnD (by decide) ?_
      refine md rfl (Rn.bin tv rfl rfl rfl (md rfl ?_))
      refine Qc2 (decide (i3 > 0)) (fun hb13=>?_) (fun hb13=>?_)
      ·replace h:=ifT hb13 h
       refine Rn.movD (gw rfl hb13) rfl (Rn.movD (gw rfl hb13) rfl ?_)
       obtain ⟨x14,h15,h⟩:=bnd h
       refine Rn.idxD (e:=(eI .i64)) (gw rfl hb13) rfl rfl h15 (Rn.loadC (x:=.int .i64 x14) (gw rfl hb13) rfl (Rn.movD (gw rfl hb13) rfl (Rn.movD (gw rfl hb13) rfl (Rn.bin (gw rfl hb13) rfl rfl rfl ?_))))
       obtain ⟨x16,h17,h⟩:=bnd h
       refine Rn.idxD (e:=(eI .i64)) (gw rfl hb13) rfl rfl h17 (Rn.loadC (x:=.int .i64 x16) (gw rfl hb13) rfl (Rn.bin (gw rfl hb13) rfl rfl rfl (Rn.pickT (v:=(b_ (decide (x14 ≤ x16)))) tv rfl hb13 rfl ?_)))
       refine Rn.nil ⟨rfl,?_⟩
       replace h:=si h; subst h
       exact Qg [] ⟨(sm rfl),(sm rfl),(sm rfl),(sm rfl),tv⟩ tv rfl
      ·replace h:=ifF hb13 h
       refine Rn.sk (nw rfl hb13) (Rn.sk (nw rfl hb13) (Rn.sk (nw rfl hb13) (Rn.sk (nw rfl hb13) (Rn.sk (nw rfl hb13) (Rn.sk (nw rfl hb13) (Rn.sk (nw rfl hb13) (Rn.sk (nw rfl hb13) (Rn.sk (nw rfl hb13) (Rn.sk (nw rfl hb13) (Rn.pickF (v:=(b_ false)) tv rfl hb13 rfl ?_))))))))))
       refine Rn.nil ⟨rfl,?_⟩
       replace h:=si h; subst h
       exact Qg [] ⟨(sm rfl),(sm rfl),(sm rfl),(sm rfl),tv⟩ tv rfl
     ·obtain ⟨x18,rfl⟩ : ∃ x,x = z:=⟨_,rfl⟩
      refine Tr.cond rfl (fun hb19=>?_) (fun hb19=>?_)
      ·replace h:=bT hb19 h
       refine sr ((md rfl (nt ((Tr.ret ?_)))))
       replace h:=si h; subst h
       exact ⟨.inr rfl,(i_ 5),rfl,fun _ _ _ _ h=>h,tv,fun k hk=>Qf hk⟩
      ·replace h:=bF hb19 h
       refine Tr.skip (toN (Tr.rgn (md rfl (Rn.bin tv rfl rfl rfl (md rfl (Rn.nil ?_))))))
       exact ⟨_,h,(by exact Qh ⟨(sm rfl),(sm rfl),(sm rfl),tv⟩ tv rfl)⟩
  ·replace h:=ifF hb5 h
   refine Tr.exit (toN (sr ((md rfl (nt ((Tr.ret ?_)))))))
   replace h:=si h; subst h
   exact ⟨.inr rfl,(i_ 0),rfl,fun _ _ _ _ h=>h,tv,fun k hk=>Qf hk⟩
theorem Qm3 {P : Program} {c : Nat} (hcf : Qs P c = some Qfj) (fuel : Nat) : Qfi P c (Qbu fuel):=by
 intro s1 r h
 refine Qcj hcf rfl fun Γ M hP hnt hM=>?_
 subst hP
 refine Tr.init [(0,.d (.int .u8 s1))] rfl ?_
 unfold Qbu at h
 unfold Qfj
 refine sr ((Rn.movTC (v:=.nils 1) tv (nt ((sr ((Rn.movTC (v:=.nils 1) tv (Rn.nil (toN ?_)))))))))
 refine Tr.cutB (fun (out12 : List Int)=>⟨look [(3,(o_ out12))],Qm Γ.n0 (bxs []) M,Γ.n0 + 19⟩) h (fun z h=>?_) (fun z h=>?_)
 ·refine sr ((md rfl (nt ((Tr.block ?_)))))
  refine Tr.loop (mk:=fun ((out2,i3) : (List Int) × Int)=>⟨look [(0,.d (.int .u8 s1)),(3,(o_ out2)),(4,(i_ i3))],Qm Γ.n0 (bxs []) M,Γ.n0 + 19⟩) h (by exact Qh ⟨(sm rfl),(WkV.nilsO _),(sm rfl),tv⟩ tv rfl) (fun k4 z h=>?_)
  ·obtain ⟨out2,i3⟩:=z
   replace h : _ = some _:=h
   refine Tr.seq (sr ((md rfl (Rn.bin tv rfl rfl rfl (Rn.nil (toN ?_))))))
   refine Tr.cond rfl (fun hb5=>?_) (fun hb5=>?_)
   ·replace h:=ifT hb5 h
    refine Tr.skip (toN ?_)
    refine Tr.cutB (fun (out11 : List Int)=>⟨look [(0,.d (.int .u8 s1)),(3,(o_ out11)),(4,(i_ i3))],Qm Γ.n0 (bxs []) M,Γ.n0 + 19⟩) h (fun z h=>?_) (fun z h=>?_)
    ·refine Tr.block (sr ((md rfl (md rfl ?_))))
     obtain ⟨s6,h7,h⟩:=bnd h
     refine Rn.bin tv rfl rfl (Qbk1 h7) (Rn.bin tv rfl rfl rfl (Rn.bin tv rfl rfl rfl (Rn.nil (toN ?_))))
     refine Tr.cond rfl (fun hb8=>?_) (fun hb8=>?_)
     ·replace h:=bT hb8 h
      refine Tr.rgn (Rn.movTO tv rfl (md rfl (Rn.bslice (xs:=[(i_ i3)]) (cs:=[(i_ i3)]) tv rfl rfl rfl rfl ?_)))
      obtain ⟨x9,h10,h⟩:=bnd h
      refine Rn.app (e:=(eI .i64)) tv rfl rfl rfl (Qb3 rfl rfl rfl) h10 rfl (Rn.movTO tv rfl (Rn.nil ?_))
      replace h:=si h; subst h
      exact Qg [16] ⟨(sm rfl),(sm rfl),(sm rfl),tv⟩ tv rfl
     ·replace h:=bF hb8 h
      refine Tr.skip ?_
      replace h:=si h; subst h
      exact Qg [] ⟨(sm rfl),(sm rfl),(sm rfl),tv⟩ tv rfl
    ·obtain ⟨out11,rfl⟩ : ∃ x,x = z:=⟨_,rfl⟩
     refine Tr.rgn (md rfl (Rn.bin tv rfl rfl rfl (md rfl (Rn.nil ?_))))
     exact ⟨_,h,(by exact Qh ⟨(sm rfl),(sm rfl),(sm rfl),tv⟩ tv rfl)⟩
   ·replace h:=ifF hb5 h
    refine Tr.exit ?_
    replace h:=si h; subst h
    exact Qg [] ⟨(sm rfl),tv⟩ tv rfl
 ·obtain ⟨out12,rfl⟩ : ∃ x,x = z:=⟨_,rfl⟩
  refine sr ((Rn.movTO tv rfl (Rn.movTO tv rfl (nt ((Tr.ret ?_))))))
  replace h:=si h; subst h
  exact ⟨.inr rfl,(o_ out12),rfl,fun _ _ _ _ h=>h,tv,fun k hk=>Qf hk⟩
theorem Qt3 {P : Program} {c : Nat} (hcf : Qs P c = some Qhw) : Qej P c (Qt):=by
 intro alphabet1 r h
 refine Qcj hcf rfl fun Γ M hP hnt hM=>?_
 subst hP
 refine Tr.init [(0,(l_ alphabet1))] rfl ?_
 unfold Qt at h
 unfold Qhw
 refine sr ((Rn.alloc tv rfl (nt ((sr ((Rn.bslice (xs:=[]) (cs:=[]) tv rfl rfl rfl rfl (md rfl ?_))))))))
 obtain ⟨x2,h3,h⟩:=bnd h
 refine Rn.app0 (e:=(eI .i64)) tv rfl rfl rfl rfl Q1x h3 rfl (Rn.buildT (v:=.agg [(o_ x2),(i_ 0),.nils 1,.nils 3]) tv rfl (Rn.storeT (v:=.agg [(o_ x2),(i_ 0),.nils 1,.nils 3]) (ds:=[(o_ x2),(i_ 0),.nils 1,.nils 3]) (cs':=[(o_ x2),(i_ 0),.nils 1,.nils 3]) tv rfl rfl rfl rfl rfl rfl rfl (nt ((Tr.ret ?_)))))
 replace h:=si h; subst h
 exact ⟨.inr rfl,(.agg [(l_ x2),(i_ 0),.nils 1,.nils 3]),Qhn rfl rfl rfl rfl,fun _ _ _ _ h=>h,⟨tv,tv,tv,tv,tv⟩,fun k hk=>Qf hk⟩
theorem Qx0 {P : Program} {c : Nat} (hcf : Qs P c = some Qir) (fuel : Nat) : Qf6 P c (Qbg fuel):=by
 intro a1 state2 event3 r h
 refine Qcj hcf rfl fun Γ M hP hnt hM=>?_
 subst hP
 refine Tr.init [(0,(Qb a1)),(1,(i_ state2)),(2,(i_ event3))] rfl ?_
 unfold Qbg at h
 unfold Qir
 refine sr ((Rn.box (v:=(Qb a1)) (cs:=(Qd a1)) tv rfl rfl rfl rfl rfl (md rfl (nt ((Tr.seq (sr ((md rfl (nt ((Tr.block ?_))))))))))))
 refine Tr.loop (mk:=fun (i4 : Int)=>⟨look [(1,(i_ state2)),(2,(i_ event3)),(3,.ptr (Γ.n0 + 3) 0),(7,(i_ i4))],Qm Γ.n0 (bxs [(3,.cells ((Qd a1)))]) M,Γ.n0 + 39⟩) h (by exact Qh ⟨(sm rfl),(sm rfl),(kPtr rfl),(sm rfl),tv⟩ ⟨⟨_,rfl,rfl,(.same rfl)⟩,tv⟩ rfl) (fun k5 z h=>?_)
 ·obtain ⟨i4,rfl⟩ : ∃ x,x = z:=⟨_,rfl⟩
  replace h : _ = some _:=h
  refine Tr.seq (sr ((md rfl (Rn.fldP (o':=3) tv rfl rfl (Rn.load (v:=.d (.lst 3 (List.map Qc a1.Edges))) tv rfl (Qj rfl) rfl rfl (Rn.lenD tv rfl (Rn.bin tv rfl rfl rfl (Rn.nil (toN ?_)))))))))
  refine Tr.cond rfl (fun hb6=>?_) (fun hb6=>?_)
  ·replace h:=ifT hb6 h
   refine Tr.skip (toN (Tr.seq (Tr.block ?_)))
   refine Tr.cutB (fun (x12 : Bool)=>⟨look [(1,(i_ state2)),(2,(i_ event3)),(3,.ptr (Γ.n0 + 3) 0),(7,(i_ i4)),(32,(b_ x12))],Qm Γ.n0 (bxs [(3,.cells ((Qd a1)))]) M,Γ.n0 + 39⟩) h (fun z h=>?_) (fun z h=>?_)
   ·refine Tr.rgn (Rn.fldP (o':=3) tv rfl rfl (Rn.load (v:=.d (.lst 3 (List.map Qc a1.Edges))) tv rfl (Qj rfl) rfl rfl (md rfl ?_)))
    obtain ⟨x7,h8,h⟩:=bnd h
    refine Rn.idxD (e:=Qc) tv rfl rfl h8 (Rn.fldC tv rfl (Rn.loadC (x:=.int .i64 x7.From) tv rfl (md rfl (Rn.bin tv rfl rfl rfl (md rfl ?_)))))
    refine Qc2 (x7.From == state2) (fun hb9=>?_) (fun hb9=>?_)
    ·replace h:=bT hb9 h
     refine Rn.fldP (o':=3) (gw rfl hb9) rfl rfl (Rn.load (v:=.d (.lst 3 (List.map Qc a1.Edges))) (gw rfl hb9) rfl (Qj rfl) rfl rfl (Rn.movD (gw rfl hb9) rfl ?_))
     obtain ⟨x10,h11,h⟩:=bnd h
     refine Rn.idxD (e:=Qc) (gw rfl hb9) rfl rfl h11 (Rn.fldC (gw rfl hb9) rfl (Rn.loadC (x:=.int .i64 x10.Event) (gw rfl hb9) rfl (Rn.movD (gw rfl hb9) rfl (Rn.bin (gw rfl hb9) rfl rfl rfl (Rn.pickT (v:=(b_ (x10.Event == event3))) tv rfl hb9 rfl (Rn.nil ?_))))))
     replace h:=si h; subst h
     exact Qg [] ⟨(sm rfl),(sm rfl),(kPtr rfl),(sm rfl),(sm rfl),tv⟩ ⟨⟨_,rfl,rfl,(.same rfl)⟩,tv⟩ rfl
    ·replace h:=bF hb9 h
     refine Rn.sk (nw rfl hb9) (Rn.sk (nw rfl hb9) (Rn.sk (nw rfl hb9) (Rn.sk (nw rfl hb9) (Rn.sk (nw rfl hb9) (Rn.sk (nw rfl hb9) (Rn.sk (nw rfl hb9) (Rn.sk (nw rfl hb9) (Rn.pickF (v:=(b_ false)) tv rfl hb9 rfl (Rn.nil ?_)))))))))
     replace h:=si h; subst h
     exact Qg [] ⟨(sm rfl),(sm rfl),(kPtr rfl),(sm rfl),(sm rfl),tv⟩ ⟨⟨_,rfl,rfl,(.same rfl)⟩,tv⟩ rfl
   ·obtain ⟨x12,rfl⟩ : ∃ x,x = z:=⟨_,rfl⟩
    refine Tr.cond rfl (fun hb13=>?_) (fun hb13=>?_)
    ·replace h:=bT hb13 h
     refine sr ((Rn.fldP (o':=3) tv rfl rfl (Rn.load (v:=.d (.lst 3 (List.map Qc a1.Edges))) tv rfl (Qj rfl) rfl rfl (md rfl ?_))))
     obtain ⟨x14,h15,h⟩:=bnd h
     refine Rn.idxD (e:=Qc) tv rfl rfl h15 (Rn.fldC tv rfl (Rn.loadC (x:=.int .i64 x14.To) tv rfl (md rfl (nt ((Tr.ret ?_))))))
     replace h:=si h; subst h
     exact ⟨.inr rfl,(i_ x14.To),rfl,fun _ _ _ _ h=>h,tv,fun k hk=>Qf hk⟩
    ·replace h:=bF hb13 h
     refine Tr.skip (toN (Tr.rgn (md rfl (Rn.bin tv rfl rfl rfl (md rfl (Rn.nil ?_))))))
     exact ⟨_,h,(by exact Qh ⟨(sm rfl),(sm rfl),(kPtr rfl),(sm rfl),tv⟩ ⟨⟨_,rfl,rfl,(.same rfl)⟩,tv⟩ rfl)⟩
  ·replace h:=ifF hb6 h
   refine Tr.exit (toN (sr ((md rfl (nt ((Tr.ret ?_)))))))
   replace h:=si h; subst h
   exact ⟨.inr rfl,(i_ (-1)),rfl,fun _ _ _ _ h=>h,tv,fun k hk=>Qf hk⟩
theorem Q09 {P : Program} {c : Nat} (hcf : Qs P c = some Qjk) (fuel : Nat) : Qgq P c (Qbk fuel):=by
 intro l1 n2 r h
 refine Qcj hcf rfl fun Γ M hP hnt hM=>?_
 subst hP
 refine Tr.init [(0,(l_ l1)),(1,(i_ n2))] rfl ?_
 unfold Qbk at h
 unfold Qjk
 refine sr ((md rfl (nt ((Tr.seq (sr ((md rfl (nt ((Tr.block ?_)))))))))))
 refine Tr.loop (mk:=fun (i3 : Int)=>⟨look [(0,(l_ l1)),(1,(i_ n2)),(5,(i_ i3))],Qm Γ.n0 (bxs []) M,Γ.n0 + 18⟩) h (by exact Qh ⟨(sm rfl),(sm rfl),(sm rfl),tv⟩ tv rfl) (fun k4 z h=>?_)
 ·obtain ⟨i3,rfl⟩ : ∃ x,x = z:=⟨_,rfl⟩
  replace h : _ = some _:=h
  refine Tr.seq (sr ((md rfl (md rfl (Rn.lenD tv rfl (Rn.bin tv rfl rfl rfl (Rn.nil (toN ?_))))))))
  refine Tr.cond rfl (fun hb5=>?_) (fun hb5=>?_)
  ·replace h:=ifT hb5 h
   refine Tr.skip (toN (Tr.seq (Tr.block (sr ((md rfl (md rfl ?_)))))))
   obtain ⟨x6,h7,h⟩:=bnd h
   refine Rn.idxD (e:=(eI .i64)) tv rfl rfl h7 (Rn.loadC (x:=.int .i64 x6) tv rfl (md rfl (Rn.bin tv rfl rfl rfl (Rn.nil (toN ?_)))))
   refine Tr.cond rfl (fun hb8=>?_) (fun hb8=>?_)
   ·replace h:=bT hb8 h
    refine sr ((md rfl (nt ((Tr.ret ?_)))))
    replace h:=si h; subst h
    exact ⟨.inr rfl,(b_ true),rfl,fun _ _ _ _ h=>h,tv,fun k hk=>Qf hk⟩
   ·replace h:=bF hb8 h
    refine Tr.skip (toN (Tr.rgn (md rfl (Rn.bin tv rfl rfl rfl (md rfl (Rn.nil ?_))))))
    exact ⟨_,h,(by exact Qh ⟨(sm rfl),(sm rfl),(sm rfl),tv⟩ tv rfl)⟩
  ·replace h:=ifF hb5 h
   refine Tr.exit (toN (sr ((md rfl (nt ((Tr.ret ?_)))))))
   replace h:=si h; subst h
   exact ⟨.inr rfl,(b_ false),rfl,fun _ _ _ _ h=>h,tv,fun k hk=>Qf hk⟩
theorem Qt4 {P : Program} {c : Nat} {Qbk : (List Int) → Int → Option Bool} {Qbg : Qa → Int → Int → Option Int}
    (H_overseerref03_has : Qgq P 73 Qbk)
    (H_overseerref03_Step : Qf6 P 74 Qbg) (hcf : Qs P c = some Qhy) (fuel : Nat) : Qhx P c (Qb8 Qbk Qbg fuel):=by
 intro a1 r h
 refine Qcj hcf rfl fun Γ M hP hnt hM=>?_
 subst hP
 refine Tr.init [(0,(Qb a1))] rfl ?_
 unfold Qb8 at h
 unfold Qhy
 refine sr ((Rn.box (v:=(Qb a1)) (cs:=(Qd a1)) tv rfl rfl rfl rfl rfl (Rn.movTC (v:=.nils 1) tv (nt ((sr ((Rn.movTC (v:=.nils 1) tv (Rn.nil (toN ?_))))))))))
 refine Tr.cutB (fun (out5 : List Int)=>⟨look [(1,.ptr (Γ.n0 + 1) 0),(3,(o_ out5))],Qm Γ.n0 (bxs [(1,.cells ((Qd a1)))]) M,Γ.n0 + 50⟩) h (fun z h=>?_) (fun z h=>?_)
 ·refine sr ((Rn.fldP (o':=1) tv rfl rfl (Rn.load (v:=(i_ a1.States)) tv rfl (Qj rfl) rfl rfl (Rn.bin tv rfl rfl rfl (Rn.nil (toN ?_))))))
  refine Tr.cond rfl (fun hb2=>?_) (fun hb2=>?_)
  ·replace h:=ifT hb2 h
   refine Tr.rgn (Rn.movTF (v:=.nils 1) tv rfl rfl (Rn.bslice (xs:=[(i_ 0)]) (cs:=[(i_ 0)]) tv rfl rfl rfl rfl ?_))
   refine Rn.weak (by show WeakSt Γ _ ⟨look [(0,(Qb a1)),(1,.ptr (Γ.n0 + 1) 0),(2,.nils 1),(3,.nils 1),(7,.ptr (Γ.n0 + 1) 1),(8,(i_ a1.States)),(9,(b_ (decide (a1.States > 0)))),(10,.own 1 (List.map (eI .i64) [])),(11,.sl 1 (Γ.n0 + 11) 0 1 1)],Qm Γ.n0 (bxs [(1,.cells ((Qd a1))),(11,.cells ([(i_ 0)]))]) M,Γ.n0 + 50⟩; exact Qg [] ⟨(sm rfl),(kPtr rfl),(sm rfl),(sm rfl),(kPtr rfl),(sm rfl),(sm rfl),(WkV.nilsO _),(kSl rfl),tv⟩ ⟨⟨_,rfl,rfl,(.same rfl)⟩,⟨_,rfl,rfl,(.same rfl)⟩,tv⟩ rfl) ?_
   obtain ⟨x3,h4,h⟩:=bnd h
   refine Rn.app (e:=(eI .i64)) tv rfl rfl rfl (Qb3 rfl rfl rfl) h4 rfl (Rn.movTO tv rfl (Rn.nil ?_))
   replace h:=si h; subst h
   exact Qg [11] ⟨(kPtr rfl),(sm rfl),tv⟩ ⟨⟨_,rfl,rfl,(.same rfl)⟩,tv⟩ rfl
  ·replace h:=ifF hb2 h
   refine Tr.skip ?_
   replace h:=si h; subst h
   exact Qg [] ⟨(kPtr rfl),(WkV.nilsO _),tv⟩ ⟨⟨_,rfl,rfl,(.same rfl)⟩,tv⟩ rfl
 ·obtain ⟨out5,rfl⟩ : ∃ x,x = z:=⟨_,rfl⟩
  refine Tr.cutB (fun (out29 : List Int)=>⟨look [(3,(o_ out29))],Qm Γ.n0 (bxs [(1,.cells ((Qd a1)))]) M,Γ.n0 + 50⟩) h (fun z h=>?_) (fun z h=>?_)
  ·refine sr ((md rfl (nt ((Tr.block ?_)))))
   refine Tr.loop (mk:=fun ((out6,i7) : (List Int) × Int)=>⟨look [(1,.ptr (Γ.n0 + 1) 0),(3,(o_ out6)),(4,(i_ i7))],Qm Γ.n0 (bxs [(1,.cells ((Qd a1)))]) M,Γ.n0 + 50⟩) h (by exact Qh ⟨(kPtr rfl),(sm rfl),(sm rfl),tv⟩ ⟨⟨_,rfl,rfl,(.same rfl)⟩,tv⟩ rfl) (fun k8 z h=>?_)
   ·obtain ⟨out6,i7⟩:=z
    replace h : _ = some _:=h
    refine Tr.seq (sr ((md rfl (Rn.mov (v:=(l_ out6)) tv rfl (Rn.lenD tv rfl (Rn.bin tv rfl rfl rfl (Rn.nil (toN ?_))))))))
    refine Tr.cond rfl (fun hb9=>?_) (fun hb9=>?_)
    ·replace h:=ifT hb9 h
     refine Tr.skip (toN ?_)
     refine Tr.cutB (fun (out28 : List Int)=>⟨look [(1,.ptr (Γ.n0 + 1) 0),(3,(o_ out28)),(4,(i_ i7))],Qm Γ.n0 (bxs [(1,.cells ((Qd a1)))]) M,Γ.n0 + 50⟩) h (fun z h=>?_) (fun z h=>?_)
     ·refine Tr.block (sr ((md rfl (nt ((Tr.block ?_))))))
      refine Tr.loop (mk:=fun ((out10,k11) : (List Int) × Int)=>⟨look [(1,.ptr (Γ.n0 + 1) 0),(3,(o_ out10)),(4,(i_ i7)),(5,(i_ k11))],Qm Γ.n0 (bxs [(1,.cells ((Qd a1)))]) M,Γ.n0 + 50⟩) h (by exact Qh ⟨(kPtr rfl),(sm rfl),(sm rfl),(sm rfl),tv⟩ ⟨⟨_,rfl,rfl,(.same rfl)⟩,tv⟩ rfl) (fun k12 z h=>?_)
      ·obtain ⟨out10,k11⟩:=z
       replace h : _ = some _:=h
       refine Tr.seq (sr ((md rfl (Rn.fldP (o':=0) tv rfl rfl (Rn.load (v:=(l_ a1.Alphabet)) tv rfl (Qj rfl) rfl rfl (Rn.lenD tv rfl (Rn.bin tv rfl rfl rfl (Rn.nil (toN ?_)))))))))
       refine Tr.cond rfl (fun hb13=>?_) (fun hb13=>?_)
       ·replace h:=ifT hb13 h
        refine Tr.skip (toN ?_)
        refine Tr.cutB (fun (out27 : List Int)=>⟨look [(1,.ptr (Γ.n0 + 1) 0),(3,(o_ out27)),(4,(i_ i7)),(5,(i_ k11))],Qm Γ.n0 (bxs [(1,.cells ((Qd a1)))]) M,Γ.n0 + 50⟩) h (fun z h=>?_) (fun z h=>?_)
        ·refine Tr.block (Tr.seq ?_)
         refine Tr.rgnD (by decide) ?_
         refine Rn.load (v:=(Qb a1)) tv rfl (Qj rfl) rfl rfl (Rn.mov (v:=(l_ out10)) tv rfl (md rfl ?_))
         obtain ⟨x14,h15,h⟩:=bnd h
         refine Rn.idxD (e:=(eI .i64)) tv rfl rfl h15 (Rn.loadC (x:=.int .i64 x14) tv rfl (Rn.fldP (o':=0) tv rfl rfl (Rn.load (v:=(l_ a1.Alphabet)) tv rfl (Qj rfl) rfl rfl (md rfl ?_))))
         obtain ⟨x16,h17,h⟩:=bnd h
         refine Rn.idxD (e:=(eI .i64)) tv rfl rfl h17 (Rn.loadC (x:=.int .i64 x16) tv rfl ?_)
         obtain ⟨x19,h18,h⟩:=bnd h
         refine Rn.call (args:=[(Qb a1),(i_ x14),(i_ x16)]) tv rfl (H_overseerref03_Step _ _ _ _ h18) pc0 (md rfl ?_)
         refine Rn.nil ⟨rfl,?_⟩
         refine toN ?_
         refine Tr.cutB (fun (x23 : Bool)=>⟨look [(1,.ptr (Γ.n0 + 1) 0),(3,(o_ out10)),(4,(i_ i7)),(5,(i_ k11)),(6,(i_ x19)),(44,(b_ x23))],Qm Γ.n0 (bxs [(1,.cells ((Qd a1)))]) M,Γ.n0 + 50⟩) h (fun z h=>?_) (fun z h=>?_)
         ·refine Tr.rgn (md rfl (Rn.bin tv rfl rfl rfl (md rfl ?_)))
          refine Qc2 (decide (x19 ≥ 0)) (fun hb20=>?_) (fun hb20=>?_)
          ·replace h:=ifT hb20 h
           refine Rn.mov (v:=(l_ out10)) (gw rfl hb20) rfl (Rn.movD (gw rfl hb20) rfl ?_)
           obtain ⟨x22,h21,h⟩:=bnd h
           refine Rn.call (args:=[(l_ out10),(i_ x19)]) (gw rfl hb20) rfl (H_overseerref03_has _ _ _ h21) pc9 (Rn.un (gw rfl hb20) rfl rfl (Rn.pickT (v:=(b_ (!x22))) tv rfl hb20 rfl (Rn.nil ?_)))
           replace h:=si h; subst h
           exact Qg [] ⟨(kPtr rfl),(sm rfl),(sm rfl),(sm rfl),(sm rfl),(sm rfl),tv⟩ ⟨⟨_,rfl,rfl,(.same rfl)⟩,tv⟩ rfl
          ·replace h:=ifF hb20 h
           refine Rn.sk (nw rfl hb20) (Rn.sk (nw rfl hb20) (Rn.sk (nw rfl hb20) (Rn.sk (nw rfl hb20) (Rn.pickF (v:=(b_ false)) tv rfl hb20 rfl (Rn.nil ?_)))))
           replace h:=si h; subst h
           exact Qg [] ⟨(kPtr rfl),(sm rfl),(sm rfl),(sm rfl),(sm rfl),(sm rfl),tv⟩ ⟨⟨_,rfl,rfl,(.same rfl)⟩,tv⟩ rfl
         ·obtain ⟨x23,rfl⟩ : ∃ x,x = z:=⟨_,rfl⟩
          refine Tr.cond rfl (fun hb24=>?_) (fun hb24=>?_)
          ·replace h:=bT hb24 h
           refine Tr.rgn (Rn.movTO tv rfl (md rfl (Rn.bslice (xs:=[(i_ x19)]) (cs:=[(i_ x19)]) tv rfl rfl rfl rfl ?_)))
           obtain ⟨x25,h26,h⟩:=bnd h
           refine Rn.app (e:=(eI .i64)) tv rfl rfl rfl (Qb3 rfl rfl rfl) h26 rfl (Rn.movTO tv rfl (Rn.nil ?_))
           replace h:=si h; subst h
           exact Qg [47] ⟨(kPtr rfl),(sm rfl),(sm rfl),(sm rfl),tv⟩ ⟨⟨_,rfl,rfl,(.same rfl)⟩,tv⟩ rfl
          ·replace h:=bF hb24 h
           refine Tr.skip ?_
           replace h:=si h; subst h
           exact Qg [] ⟨(kPtr rfl),(sm rfl),(sm rfl),(sm rfl),tv⟩ ⟨⟨_,rfl,rfl,(.same rfl)⟩,tv⟩ rfl
        ·obtain ⟨out27,rfl⟩ : ∃ x,x = z:=⟨_,rfl⟩
         refine Tr.rgn (md rfl (Rn.bin tv rfl rfl rfl (md rfl (Rn.nil ?_))))
         exact ⟨_,h,(by exact Qh ⟨(kPtr rfl),(sm rfl),(sm rfl),(sm rfl),tv⟩ ⟨⟨_,rfl,rfl,(.same rfl)⟩,tv⟩ rfl)⟩
       ·replace h:=ifF hb13 h
        refine Tr.exit ?_
        replace h:=si h; subst h
        exact Qg [] ⟨(kPtr rfl),(sm rfl),(sm rfl),tv⟩ ⟨⟨_,rfl,rfl,(.same rfl)⟩,tv⟩ rfl
     ·obtain ⟨out28,rfl⟩ : ∃ x,x = z:=⟨_,rfl⟩
      refine Tr.rgn (md rfl (Rn.bin tv rfl rfl rfl (md rfl (Rn.nil ?_))))
      exact ⟨_,h,(by exact Qh ⟨(kPtr rfl),(sm rfl),(sm rfl),tv⟩ ⟨⟨_,rfl,rfl,(.same rfl)⟩,tv⟩ rfl)⟩
    ·replace h:=ifF hb9 h
     refine Tr.exit ?_
     replace h:=si h; subst h
     exact Qg [] ⟨(sm rfl),tv⟩ ⟨⟨_,rfl,rfl,(.same rfl)⟩,tv⟩ rfl
  ·obtain ⟨out29,rfl⟩ : ∃ x,x = z:=⟨_,rfl⟩
   refine sr ((Rn.movTO tv rfl (Rn.movTO tv rfl (nt ((Tr.ret ?_))))))
   replace h:=si h; subst h
   exact ⟨.inr rfl,(o_ out29),rfl,fun _ _ _ _ h=>h,tv,fun k hk=>Qf hk⟩
theorem Qt5 {P : Program} {c : Nat} (hcf : Qs P c = some Qh0) (fuel : Nat) : Qhz P c (Qb9 fuel):=by
 intro l1 n2 r h
 refine Qcj hcf rfl fun Γ M hP hnt hM=>?_
 subst hP
 refine Tr.init [(0,(l_ l1)),(1,(i_ n2))] rfl ?_
 unfold Qb9 at h
 unfold Qh0
 refine sr ((md rfl (nt ((Tr.seq (sr ((md rfl (nt ((Tr.block ?_)))))))))))
 refine Tr.loop (mk:=fun (i3 : Int)=>⟨look [(0,(l_ l1)),(1,(i_ n2)),(5,(i_ i3))],Qm Γ.n0 (bxs []) M,Γ.n0 + 19⟩) h (by exact Qh ⟨(sm rfl),(sm rfl),(sm rfl),tv⟩ tv rfl) (fun k4 z h=>?_)
 ·obtain ⟨i3,rfl⟩ : ∃ x,x = z:=⟨_,rfl⟩
  replace h : _ = some _:=h
  refine Tr.seq (sr ((md rfl (md rfl (Rn.lenD tv rfl (Rn.bin tv rfl rfl rfl (Rn.nil (toN ?_))))))))
  refine Tr.cond rfl (fun hb5=>?_) (fun hb5=>?_)
  ·replace h:=ifT hb5 h
   refine Tr.skip (toN (Tr.seq (Tr.block (sr ((md rfl (md rfl ?_)))))))
   obtain ⟨x6,h7,h⟩:=bnd h
   refine Rn.idxD (e:=(eI .i64)) tv rfl rfl h7 (Rn.loadC (x:=.int .i64 x6) tv rfl (md rfl (Rn.bin tv rfl rfl rfl (Rn.nil (toN ?_)))))
   refine Tr.cond rfl (fun hb8=>?_) (fun hb8=>?_)
   ·replace h:=bT hb8 h
    refine sr ((md rfl (md rfl (nt ((Tr.ret ?_))))))
    replace h:=si h; subst h
    exact ⟨.inr rfl,(i_ i3),rfl,fun _ _ _ _ h=>h,tv,fun k hk=>Qf hk⟩
   ·replace h:=bF hb8 h
    refine Tr.skip (toN (Tr.rgn (md rfl (Rn.bin tv rfl rfl rfl (md rfl (Rn.nil ?_))))))
    exact ⟨_,h,(by exact Qh ⟨(sm rfl),(sm rfl),(sm rfl),tv⟩ tv rfl)⟩
  ·replace h:=ifF hb5 h
   refine Tr.exit (toN (sr ((md rfl (nt ((Tr.ret ?_)))))))
   replace h:=si h; subst h
   exact ⟨.inr rfl,(i_ (-1)),rfl,fun _ _ _ _ h=>h,tv,fun k hk=>Qf hk⟩
theorem Qn6 {P : Program} {c : Nat} {Qt : (List Int) → Option Qa} {Qb8 : Qa → Option ((List Int))} {Qbk : (List Int) → Int → Option Bool} {Qbg : Qa → Int → Int → Option Int} {Qb9 : (List Int) → Int → Option Int}
    (H_overseerref03_Empty : Qej P 36 Qt)
    (H_overseerref03_Found : Qhx P 72 Qb8)
    (H_overseerref03_has : Qgq P 73 Qbk)
    (H_overseerref03_Step : Qf6 P 74 Qbg)
    (H_overseerref03_index : Qhz P 75 Qb9) (hcf : Qs P c = some Qfy) (fuel : Nat) : Qfx P c (Qbq Qt Qb8 Qbk Qbg Qb9 fuel):=by
 intro a1 r h
 refine Qcj hcf rfl fun Γ M hP hnt hM=>?_
 subst hP
 refine Tr.init [(0,(Qb a1))] rfl ?_
 unfold Qbq at h
 unfold Qfy
 refine sr ((Rn.box (v:=(Qb a1)) (cs:=(Qd a1)) tv rfl rfl rfl rfl rfl (Rn.alloc tv rfl (nt ((sr ((Rn.load (v:=(Qb a1)) tv rfl (Qj rfl) rfl rfl ?_))))))))
 obtain ⟨x3,h2,h⟩:=bnd h
 refine Rn.call (args:=[(Qb a1)]) tv rfl (H_overseerref03_Found _ _ h2) pc9 (Rn.movTO tv rfl (nt ((sr ((Rn.fldP (o':=0) tv rfl rfl (Rn.load (v:=(l_ a1.Alphabet)) tv rfl (Qj rfl) rfl rfl ?_)))))))
 obtain ⟨x5,h4,h⟩:=bnd h
 refine Rn.call (args:=[(l_ a1.Alphabet)]) tv rfl (H_overseerref03_Empty _ _ h4) pc9 (Rn.alloc tv rfl (Rn.storeT (v:=.agg [(l_ x5.Alphabet),(i_ x5.States),.nils 1,.nils 3]) (ds:=[(l_ x5.Alphabet),(i_ x5.States),.nils 1,.nils 3]) (cs':=[(l_ x5.Alphabet),(i_ x5.States),.nils 1,.nils 3]) tv rfl rfl rfl rfl rfl rfl rfl (nt ((sr ((Rn.mov (v:=(l_ x3)) tv rfl (Rn.lenD tv rfl (Rn.fldP (o':=1) tv rfl rfl (Rn.store (v:=(i_ (x3.length : Int))) (cs':=[(l_ x5.Alphabet),(i_ (x3.length : Int)),.nils 1,.nils 3]) tv rfl rfl rfl rfl rfl rfl (Rn.nil (toN ?_))))))))))))
 refine Tr.cutB (fun ((c42,c43,c44,out45,out46) : (List Int) × (List Int) × (List Qe) × (List Int) × (List Qe))=>⟨look [(2,.ptr (Γ.n0 + 2) 0),(4,.ptr (Γ.n0 + 4) 0)],Qm Γ.n0 (bxs [(1,.cells ((Qd a1))),(2,.cells ([(o_ c42),(i_ 0),(o_ c43),.own 3 (List.map Qc c44)])),(4,.cells ([(l_ x5.Alphabet),(i_ (x3.length : Int)),(o_ out45),.own 3 (List.map Qc out46)]))]) M,Γ.n0 + 71⟩) h (fun z h=>?_) (fun z h=>?_)
 ·refine sr ((md rfl (nt ((Tr.block ?_)))))
  refine Tr.loop (mk:=fun ((i6,c7,c8,c9,out10,out11) : Int × (List Int) × (List Int) × (List Qe) × (List Int) × (List Qe))=>⟨look [(1,.ptr (Γ.n0 + 1) 0),(2,.ptr (Γ.n0 + 2) 0),(3,(o_ x3)),(4,.ptr (Γ.n0 + 4) 0),(5,(i_ i6))],Qm Γ.n0 (bxs [(1,.cells ((Qd a1))),(2,.cells ([(o_ c7),(i_ 0),(o_ c8),.own 3 (List.map Qc c9)])),(4,.cells ([(l_ x5.Alphabet),(i_ (x3.length : Int)),(o_ out10),.own 3 (List.map Qc out11)]))]) M,Γ.n0 + 71⟩) h (by exact Qh ⟨(kPtr rfl),(kPtr rfl),(sm rfl),(kPtr rfl),(sm rfl),tv⟩ ⟨⟨_,rfl,rfl,(.same rfl)⟩,⟨_,rfl,rfl,(.cons (WkV.nilsO _) (.cons (sm rfl) (.cons (WkV.nilsO _) (.cons (WkV.nilsO _) .nil))))⟩,⟨_,rfl,rfl,(.cons (sm rfl) (.cons (sm rfl) (.cons (WkV.nilsO _) (.cons (WkV.nilsO _) .nil))))⟩,tv⟩ rfl) (fun k12 z h=>?_)
  ·obtain ⟨i6,c7,c8,c9,out10,out11⟩:=z
   replace h : _ = some _:=h
   refine Tr.seq (sr ((md rfl (Rn.mov (v:=(l_ x3)) tv rfl (Rn.lenD tv rfl (Rn.bin tv rfl rfl rfl (Rn.nil (toN ?_))))))))
   refine Tr.cond rfl (fun hb13=>?_) (fun hb13=>?_)
   ·replace h:=ifT hb13 h
    refine Tr.skip (toN ?_)
    refine Tr.cutB (fun ((out40,out41) : (List Int) × (List Qe))=>⟨look [(1,.ptr (Γ.n0 + 1) 0),(2,.ptr (Γ.n0 + 2) 0),(3,(o_ x3)),(4,.ptr (Γ.n0 + 4) 0),(5,(i_ i6))],Qm Γ.n0 (bxs [(1,.cells ((Qd a1))),(2,.cells ([(o_ c7),(i_ 0),(o_ c8),.own 3 (List.map Qc c9)])),(4,.cells ([(l_ x5.Alphabet),(i_ (x3.length : Int)),(o_ out40),.own 3 (List.map Qc out41)]))]) M,Γ.n0 + 71⟩) h (fun z h=>?_) (fun z h=>?_)
    ·refine Tr.block ?_
     refine Tr.cutB (fun (out21 : List Int)=>⟨look [(1,.ptr (Γ.n0 + 1) 0),(2,.ptr (Γ.n0 + 2) 0),(3,(o_ x3)),(4,.ptr (Γ.n0 + 4) 0),(5,(i_ i6))],Qm Γ.n0 (bxs [(1,.cells ((Qd a1))),(2,.cells ([(o_ c7),(i_ 0),(o_ c8),.own 3 (List.map Qc c9)])),(4,.cells ([(l_ x5.Alphabet),(i_ (x3.length : Int)),(o_ out21),.own 3 (List.map Qc out11)]))]) M,Γ.n0 + 71⟩) h (fun z h=>?_) (fun z h=>?_)
     ·refine Tr.seq ?_
      refine Tr.rgnD (by decide) ?_
      refine Rn.fldP (o':=2) tv rfl rfl (Rn.load (v:=(l_ a1.Marked)) tv rfl (Qj rfl) rfl rfl (Rn.mov (v:=(l_ x3)) tv rfl (md rfl ?_)))
      obtain ⟨x14,h15,h⟩:=bnd h
      refine Rn.idxD (e:=(eI .i64)) tv rfl rfl h15 (Rn.loadC (x:=.int .i64 x14) tv rfl ?_)
      obtain ⟨x17,h16,h⟩:=bnd h
      refine Rn.call (args:=[(l_ a1.Marked),(i_ x14)]) tv rfl (H_overseerref03_has _ _ _ h16) pc0 ?_
      refine Rn.nil ⟨rfl,?_⟩
      refine toN ?_
      refine Tr.cond rfl (fun hb18=>?_) (fun hb18=>?_)
      ·replace h:=bT hb18 h
       refine Tr.rgn (Rn.fldP (o':=2) tv rfl rfl (Rn.loadT (cs':=[(l_ x5.Alphabet),(i_ (x3.length : Int)),(l_ out10),.own 3 (List.map Qc out11)]) tv rfl rfl rfl rfl (md rfl (Rn.bslice (xs:=[(i_ i6)]) (cs:=[(i_ i6)]) tv rfl rfl rfl rfl ?_))))
       obtain ⟨x19,h20,h⟩:=bnd h
       refine Rn.app (e:=(eI .i64)) tv rfl rfl rfl (Qb3 rfl rfl rfl) h20 rfl (Rn.fldP (o':=2) tv rfl rfl (Rn.storeO (cs':=[(l_ x5.Alphabet),(i_ (x3.length : Int)),(o_ x19),.own 3 (List.map Qc out11)]) tv rfl rfl rfl rfl rfl (Rn.nil ?_)))
       replace h:=si h; subst h
       exact Qg [32] ⟨(kPtr rfl),(kPtr rfl),(sm rfl),(kPtr rfl),(sm rfl),tv⟩ ⟨⟨_,rfl,rfl,(.same rfl)⟩,⟨_,rfl,rfl,(.same rfl)⟩,⟨_,rfl,rfl,(.same rfl)⟩,tv⟩ rfl
      ·replace h:=bF hb18 h
       refine Tr.skip ?_
       replace h:=si h; subst h
       exact Qg [] ⟨(kPtr rfl),(kPtr rfl),(sm rfl),(kPtr rfl),(sm rfl),tv⟩ ⟨⟨_,rfl,rfl,(.same rfl)⟩,⟨_,rfl,rfl,(.same rfl)⟩,⟨_,rfl,rfl,(.same rfl)⟩,tv⟩ rfl
     ·obtain ⟨out21,rfl⟩ : ∃ x,x = z:=⟨_,rfl⟩
      refine sr ((md rfl (nt ((Tr.block ?_)))))
      refine Tr.loop (mk:=fun ((k22,out23) : Int × (List Qe))=>⟨look [(1,.ptr (Γ.n0 + 1) 0),(2,.ptr (Γ.n0 + 2) 0),(3,(o_ x3)),(4,.ptr (Γ.n0 + 4) 0),(5,(i_ i6)),(6,(i_ k22))],Qm Γ.n0 (bxs [(1,.cells ((Qd a1))),(2,.cells ([(o_ c7),(i_ 0),(o_ c8),.own 3 (List.map Qc c9)])),(4,.cells ([(l_ x5.Alphabet),(i_ (x3.length : Int)),(o_ out21),.own 3 (List.map Qc out23)]))]) M,Γ.n0 + 71⟩) h (by exact Qh ⟨(kPtr rfl),(kPtr rfl),(sm rfl),(kPtr rfl),(sm rfl),(sm rfl),tv⟩ ⟨⟨_,rfl,rfl,(.same rfl)⟩,⟨_,rfl,rfl,(.same rfl)⟩,⟨_,rfl,rfl,(.same rfl)⟩,tv⟩ rfl) (fun k24 z h=>?_)
      ·obtain ⟨k22,out23⟩:=z
       replace h : _ = some _:=h
       refine Tr.seq (sr ((md rfl (Rn.fldP (o':=0) tv rfl rfl (Rn.load (v:=(l_ a1.Alphabet)) tv rfl (Qj rfl) rfl rfl (Rn.lenD tv rfl (Rn.bin tv rfl rfl rfl (Rn.nil (toN ?_)))))))))
       refine Tr.cond rfl (fun hb25=>?_) (fun hb25=>?_)
       ·replace h:=ifT hb25 h
        refine Tr.skip (toN ?_)
        refine Tr.cutB (fun (out39 : List Qe)=>⟨look [(1,.ptr (Γ.n0 + 1) 0),(2,.ptr (Γ.n0 + 2) 0),(3,(o_ x3)),(4,.ptr (Γ.n0 + 4) 0),(5,(i_ i6)),(6,(i_ k22))],Qm Γ.n0 (bxs [(1,.cells ((Qd a1))),(2,.cells ([(o_ c7),(i_ 0),(o_ c8),.own 3 (List.map Qc c9)])),(4,.cells ([(l_ x5.Alphabet),(i_ (x3.length : Int)),(o_ out21),.own 3 (List.map Qc out39)]))]) M,Γ.n0 + 71⟩) h (fun z h=>?_) (fun z h=>?_)
        ·refine Tr.block (Tr.seq ?_)
         refine Tr.rgnD (by decide) ?_
         refine Rn.load (v:=(Qb a1)) tv rfl (Qj rfl) rfl rfl (Rn.mov (v:=(l_ x3)) tv rfl (md rfl ?_))
         obtain ⟨x26,h27,h⟩:=bnd h
         refine Rn.idxD (e:=(eI .i64)) tv rfl rfl h27 (Rn.loadC (x:=.int .i64 x26) tv rfl (Rn.fldP (o':=0) tv rfl rfl (Rn.load (v:=(l_ a1.Alphabet)) tv rfl (Qj rfl) rfl rfl (md rfl ?_))))
         obtain ⟨x28,h29,h⟩:=bnd h
         refine Rn.idxD (e:=(eI .i64)) tv rfl rfl h29 (Rn.loadC (x:=.int .i64 x28) tv rfl ?_)
         obtain ⟨x31,h30,h⟩:=bnd h
         refine Rn.call (args:=[(Qb a1),(i_ x26),(i_ x28)]) tv rfl (H_overseerref03_Step _ _ _ _ h30) pc0 (md rfl ?_)
         refine Rn.nil ⟨rfl,?_⟩
         refine toN (sr ((md rfl (Rn.bin tv rfl rfl rfl (Rn.nil (toN ?_))))))
         refine Tr.cond rfl (fun hb32=>?_) (fun hb32=>?_)
         ·replace h:=ifT hb32 h
          refine Tr.rgnD (by decide) ?_
          refine Rn.fldP (o':=3) tv rfl rfl (Rn.loadT (cs':=[(l_ x5.Alphabet),(i_ (x3.length : Int)),(o_ out21),.d (.lst 3 (List.map Qc out23))]) tv rfl rfl rfl rfl (md rfl (Rn.fldP (o':=0) tv rfl rfl (Rn.load (v:=(l_ a1.Alphabet)) tv rfl (Qj rfl) rfl rfl (md rfl ?_)))))
          obtain ⟨x33,h34,h⟩:=bnd h
          refine Rn.idxD (e:=(eI .i64)) tv rfl rfl h34 (Rn.loadC (x:=.int .i64 x33) tv rfl (Rn.mov (v:=(l_ x3)) tv rfl (md rfl ?_)))
          obtain ⟨x36,h35,h⟩:=bnd h
          refine Rn.call (args:=[(l_ x3),(i_ x31)]) tv rfl (H_overseerref03_index _ _ _ h35) pc2 (Rn.build (v:=.agg [(i_ i6),(i_ x33),(i_ x36)]) tv rfl (Rn.bslice (xs:=[.agg [(i_ i6),(i_ x33),(i_ x36)]]) (cs:=[(i_ i6),(i_ x33),(i_ x36)]) tv rfl rfl rfl rfl ?_))
          obtain ⟨x37,h38,h⟩:=bnd h
          refine Rn.app (e:=Qc) tv rfl rfl rfl (Qb3 rfl rfl rfl) h38 rfl (Rn.fldP (o':=3) tv rfl rfl (Rn.storeO (cs':=[(l_ x5.Alphabet),(i_ (x3.length : Int)),(o_ out21),.own 3 (List.map Qc x37)]) tv rfl rfl rfl rfl rfl ?_))
          refine Rn.nil ⟨rfl,?_⟩
          replace h:=si h; subst h
          exact Qg [67] ⟨(kPtr rfl),(kPtr rfl),(sm rfl),(kPtr rfl),(sm rfl),(sm rfl),tv⟩ ⟨⟨_,rfl,rfl,(.same rfl)⟩,⟨_,rfl,rfl,(.same rfl)⟩,⟨_,rfl,rfl,(.same rfl)⟩,tv⟩ rfl
         ·replace h:=ifF hb32 h
          refine Tr.skip ?_
          replace h:=si h; subst h
          exact Qg [] ⟨(kPtr rfl),(kPtr rfl),(sm rfl),(kPtr rfl),(sm rfl),(sm rfl),tv⟩ ⟨⟨_,rfl,rfl,(.same rfl)⟩,⟨_,rfl,rfl,(.same rfl)⟩,⟨_,rfl,rfl,(.same rfl)⟩,tv⟩ rfl
        ·obtain ⟨out39,rfl⟩ : ∃ x,x = z:=⟨_,rfl⟩
         refine Tr.rgn (md rfl (Rn.bin tv rfl rfl rfl (md rfl (Rn.nil ?_))))
         exact ⟨_,h,(by exact Qh ⟨(kPtr rfl),(kPtr rfl),(sm rfl),(kPtr rfl),(sm rfl),(sm rfl),tv⟩ ⟨⟨_,rfl,rfl,(.same rfl)⟩,⟨_,rfl,rfl,(.same rfl)⟩,⟨_,rfl,rfl,(.same rfl)⟩,tv⟩ rfl)⟩
       ·replace h:=ifF hb25 h
        refine Tr.exit ?_
        replace h:=si h; subst h
        exact Qg [] ⟨(kPtr rfl),(kPtr rfl),(sm rfl),(kPtr rfl),(sm rfl),tv⟩ ⟨⟨_,rfl,rfl,(.same rfl)⟩,⟨_,rfl,rfl,(.same rfl)⟩,⟨_,rfl,rfl,(.same rfl)⟩,tv⟩ rfl
    ·obtain ⟨out40,out41⟩:=z
     refine Tr.rgn (md rfl (Rn.bin tv rfl rfl rfl (md rfl (Rn.nil ?_))))
     exact ⟨_,h,(by exact Qh ⟨(kPtr rfl),(kPtr rfl),(sm rfl),(kPtr rfl),(sm rfl),tv⟩ ⟨⟨_,rfl,rfl,(.same rfl)⟩,⟨_,rfl,rfl,(.same rfl)⟩,⟨_,rfl,rfl,(.same rfl)⟩,tv⟩ rfl)⟩
   ·replace h:=ifF hb13 h
    refine Tr.exit ?_
    replace h:=si h; subst h
    exact Qg [] ⟨(kPtr rfl),(kPtr rfl),tv⟩ ⟨⟨_,rfl,rfl,(.same rfl)⟩,⟨_,rfl,rfl,(.same rfl)⟩,⟨_,rfl,rfl,(.same rfl)⟩,tv⟩ rfl
 ·obtain ⟨c42,c43,c44,out45,out46⟩:=z
  refine sr ((Rn.load (v:=.agg [(l_ x5.Alphabet),(i_ (x3.length : Int)),(l_ out45),.d (.lst 3 (List.map Qc out46))]) tv rfl (Qj rfl) rfl rfl (Rn.storeT (v:=.agg [(l_ x5.Alphabet),(i_ (x3.length : Int)),(l_ out45),.d (.lst 3 (List.map Qc out46))]) (ds:=[(l_ x5.Alphabet),(i_ (x3.length : Int)),(l_ out45),.d (.lst 3 (List.map Qc out46))]) (cs':=[(l_ x5.Alphabet),(i_ (x3.length : Int)),(l_ out45),.d (.lst 3 (List.map Qc out46))]) tv rfl rfl rfl rfl rfl rfl rfl (nt ((Tr.ret ?_))))))
  replace h:=si h; subst h
  exact ⟨.inr rfl,(.agg [(l_ x5.Alphabet),(i_ (x3.length : Int)),(l_ out45),.d (.lst 3 (List.map Qc out46))]),Qhn rfl rfl rfl rfl,fun _ _ _ _ h=>h,⟨tv,tv,tv,tv,tv⟩,fun k hk=>Qf hk⟩
theorem Qx1 {P : Program} {c : Nat} {Qt : (List Int) → Option Qa} {Qbq : Qa → Option Qa}
    (H_overseerref03_Empty : Qej P 36 Qt)
    (H_overseerref03_Canonical : Qfx P 37 Qbq) (hcf : Qs P c = some Qit) (fuel : Nat) : Qis P c (Qcd Qt Qbq fuel):=by
 intro alphabet1 g2 r h
 refine Qcj hcf rfl fun Γ M hP hnt hM=>?_
 subst hP
 refine Tr.init [(0,(l_ alphabet1)),(1,.agg [.d (.int .u8 g2.States),.d (.int .u8 g2.Marks),.d (.int .u8 g2.To.1.1),.d (.int .u8 g2.To.1.2.1),.d (.int .u8 g2.To.1.2.2.1),.d (.int .u8 g2.To.1.2.2.2.1),.d (.int .u8 g2.To.1.2.2.2.2),.d (.int .u8 g2.To.2.1.1),.d (.int .u8 g2.To.2.1.2.1),.d (.int .u8 g2.To.2.1.2.2.1),.d (.int .u8 g2.To.2.1.2.2.2.1),.d (.int .u8 g2.To.2.1.2.2.2.2),.d (.int .u8 g2.To.2.2.1.1),.d (.int .u8 g2.To.2.2.1.2.1),.d (.int .u8 g2.To.2.2.1.2.2.1),.d (.int .u8 g2.To.2.2.1.2.2.2.1),.d (.int .u8 g2.To.2.2.1.2.2.2.2),.d (.int .u8 g2.To.2.2.2.1.1),.d (.int .u8 g2.To.2.2.2.1.2.1),.d (.int .u8 g2.To.2.2.2.1.2.2.1),.d (.int .u8 g2.To.2.2.2.1.2.2.2.1),.d (.int .u8 g2.To.2.2.2.1.2.2.2.2),.d (.int .u8 g2.To.2.2.2.2.1),.d (.int .u8 g2.To.2.2.2.2.2.1),.d (.int .u8 g2.To.2.2.2.2.2.2.1),.d (.int .u8 g2.To.2.2.2.2.2.2.2.1),.d (.int .u8 g2.To.2.2.2.2.2.2.2.2)])] rfl ?_
 unfold Qcd at h
 unfold Qit
 refine sr ((Rn.box (v:=.agg [.d (.int .u8 g2.States),.d (.int .u8 g2.Marks),.d (.int .u8 g2.To.1.1),.d (.int .u8 g2.To.1.2.1),.d (.int .u8 g2.To.1.2.2.1),.d (.int .u8 g2.To.1.2.2.2.1),.d (.int .u8 g2.To.1.2.2.2.2),.d (.int .u8 g2.To.2.1.1),.d (.int .u8 g2.To.2.1.2.1),.d (.int .u8 g2.To.2.1.2.2.1),.d (.int .u8 g2.To.2.1.2.2.2.1),.d (.int .u8 g2.To.2.1.2.2.2.2),.d (.int .u8 g2.To.2.2.1.1),.d (.int .u8 g2.To.2.2.1.2.1),.d (.int .u8 g2.To.2.2.1.2.2.1),.d (.int .u8 g2.To.2.2.1.2.2.2.1),.d (.int .u8 g2.To.2.2.1.2.2.2.2),.d (.int .u8 g2.To.2.2.2.1.1),.d (.int .u8 g2.To.2.2.2.1.2.1),.d (.int .u8 g2.To.2.2.2.1.2.2.1),.d (.int .u8 g2.To.2.2.2.1.2.2.2.1),.d (.int .u8 g2.To.2.2.2.1.2.2.2.2),.d (.int .u8 g2.To.2.2.2.2.1),.d (.int .u8 g2.To.2.2.2.2.2.1),.d (.int .u8 g2.To.2.2.2.2.2.2.1),.d (.int .u8 g2.To.2.2.2.2.2.2.2.1),.d (.int .u8 g2.To.2.2.2.2.2.2.2.2)]) (cs:=[.d (.int .u8 g2.States),.d (.int .u8 g2.Marks),.d (.int .u8 g2.To.1.1),.d (.int .u8 g2.To.1.2.1),.d (.int .u8 g2.To.1.2.2.1),.d (.int .u8 g2.To.1.2.2.2.1),.d (.int .u8 g2.To.1.2.2.2.2),.d (.int .u8 g2.To.2.1.1),.d (.int .u8 g2.To.2.1.2.1),.d (.int .u8 g2.To.2.1.2.2.1),.d (.int .u8 g2.To.2.1.2.2.2.1),.d (.int .u8 g2.To.2.1.2.2.2.2),.d (.int .u8 g2.To.2.2.1.1),.d (.int .u8 g2.To.2.2.1.2.1),.d (.int .u8 g2.To.2.2.1.2.2.1),.d (.int .u8 g2.To.2.2.1.2.2.2.1),.d (.int .u8 g2.To.2.2.1.2.2.2.2),.d (.int .u8 g2.To.2.2.2.1.1),.d (.int .u8 g2.To.2.2.2.1.2.1),.d (.int .u8 g2.To.2.2.2.1.2.2.1),.d (.int .u8 g2.To.2.2.2.1.2.2.2.1),.d (.int .u8 g2.To.2.2.2.1.2.2.2.2),.d (.int .u8 g2.To.2.2.2.2.1),.d (.int .u8 g2.To.2.2.2.2.2.1),.d (.int .u8 g2.To.2.2.2.2.2.2.1),.d (.int .u8 g2.To.2.2.2.2.2.2.2.1),.d (.int .u8 g2.To.2.2.2.2.2.2.2.2)]) tv rfl rfl rfl rfl rfl (Rn.alloc tv rfl (nt ((Tr.seq (sr ((Rn.fldP (o':=0) tv rfl rfl (Rn.load (v:=.d (.int .u8 g2.States)) tv rfl (Qj rfl) rfl rfl (Rn.bin tv rfl rfl rfl (Rn.nil (toN ?_)))))))))))))
 refine Tr.cond rfl (fun hb3=>?_) (fun hb3=>?_)
 ·replace h:=ifT hb3 h
  refine sr ((md rfl ?_))
  obtain ⟨x5,h4,h⟩:=bnd h
  refine Rn.call (args:=[(l_ alphabet1)]) tv rfl (H_overseerref03_Empty _ _ h4) pc9 (Rn.storeT (v:=.agg [(l_ x5.Alphabet),(i_ x5.States),.nils 1,.nils 3]) (ds:=[(l_ x5.Alphabet),(i_ x5.States),.nils 1,.nils 3]) (cs':=[(l_ x5.Alphabet),(i_ x5.States),.nils 1,.nils 3]) tv rfl rfl rfl rfl rfl rfl rfl (nt ((Tr.ret ?_))))
  replace h:=si h; subst h
  exact ⟨.inr rfl,(.agg [(l_ x5.Alphabet),(i_ x5.States),.nils 1,.nils 3]),Qhn rfl rfl rfl rfl,(WkV.agg (.cons (.same rfl) (.cons (.same rfl) (.cons (WkV.nilsD _) (.cons (WkV.nilsD _) .nil))))).rd,⟨tv,tv,tv,tv,tv⟩,fun k hk=>Qf hk⟩
 ·replace h:=ifF hb3 h
  refine Tr.skip (toN (sr ((md rfl ?_))))
  obtain ⟨x7,h6,h⟩:=bnd h
  refine Rn.call (args:=[(l_ alphabet1)]) tv rfl (H_overseerref03_Empty _ _ h6) pc9 (Rn.alloc tv rfl (Rn.storeT (v:=.agg [(l_ x7.Alphabet),(i_ x7.States),.nils 1,.nils 3]) (ds:=[(l_ x7.Alphabet),(i_ x7.States),.nils 1,.nils 3]) (cs':=[(l_ x7.Alphabet),(i_ x7.States),.nils 1,.nils 3]) tv rfl rfl rfl rfl rfl rfl rfl (nt ((sr ((Rn.fldP (o':=0) tv rfl rfl (Rn.load (v:=.d (.int .u8 g2.States)) tv rfl (Qj rfl) rfl rfl (Rn.bin tv rfl rfl rfl (Rn.conv tv rfl (Rn.bin tv rfl rfl rfl (Rn.fldP (o':=1) tv rfl rfl (Rn.store (v:=(i_ (IntKind.wrap .i64 (1 + (IntKind.wrap .i64 (Int.tmod g2.States 5)))))) (cs':=[(l_ x7.Alphabet),(i_ (IntKind.wrap .i64 (1 + (IntKind.wrap .i64 (Int.tmod g2.States 5))))),.nils 1,.nils 3]) tv rfl rfl rfl rfl rfl rfl (Rn.nil (toN ?_)))))))))))))))
  refine Tr.cutB (fun ((c43,c44,c45,a46,a47,a48) : (List Int) × (List Int) × (List Qe) × Int × (List Int) × (List Qe))=>⟨look [(4,.ptr (Γ.n0 + 4) 0),(5,.ptr (Γ.n0 + 5) 0)],Qm Γ.n0 (bxs [(3,.cells ([.d (.int .u8 g2.States),.d (.int .u8 g2.Marks),.d (.int .u8 g2.To.1.1),.d (.int .u8 g2.To.1.2.1),.d (.int .u8 g2.To.1.2.2.1),.d (.int .u8 g2.To.1.2.2.2.1),.d (.int .u8 g2.To.1.2.2.2.2),.d (.int .u8 g2.To.2.1.1),.d (.int .u8 g2.To.2.1.2.1),.d (.int .u8 g2.To.2.1.2.2.1),.d (.int .u8 g2.To.2.1.2.2.2.1),.d (.int .u8 g2.To.2.1.2.2.2.2),.d (.int .u8 g2.To.2.2.1.1),.d (.int .u8 g2.To.2.2.1.2.1),.d (.int .u8 g2.To.2.2.1.2.2.1),.d (.int .u8 g2.To.2.2.1.2.2.2.1),.d (.int .u8 g2.To.2.2.1.2.2.2.2),.d (.int .u8 g2.To.2.2.2.1.1),.d (.int .u8 g2.To.2.2.2.1.2.1),.d (.int .u8 g2.To.2.2.2.1.2.2.1),.d (.int .u8 g2.To.2.2.2.1.2.2.2.1),.d (.int .u8 g2.To.2.2.2.1.2.2.2.2),.d (.int .u8 g2.To.2.2.2.2.1),.d (.int .u8 g2.To.2.2.2.2.2.1),.d (.int .u8 g2.To.2.2.2.2.2.2.1),.d (.int .u8 g2.To.2.2.2.2.2.2.2.1),.d (.int .u8 g2.To.2.2.2.2.2.2.2.2)])),(4,.cells ([(o_ c43),(i_ 0),(o_ c44),.own 3 (List.map Qc c45)])),(5,.cells ([(l_ x7.Alphabet),(i_ a46),(o_ a47),.own 3 (List.map Qc a48)]))]) M,Γ.n0 + 79⟩) h (fun z h=>?_) (fun z h=>?_)
  ·refine sr ((md rfl (nt ((Tr.block ?_)))))
   refine Tr.loop (mk:=fun ((i8,c9,c10,c11,a12,a13,a14) : Int × (List Int) × (List Int) × (List Qe) × Int × (List Int) × (List Qe))=>⟨look [(0,(l_ alphabet1)),(3,.ptr (Γ.n0 + 3) 0),(4,.ptr (Γ.n0 + 4) 0),(5,.ptr (Γ.n0 + 5) 0),(6,(i_ i8))],Qm Γ.n0 (bxs [(3,.cells ([.d (.int .u8 g2.States),.d (.int .u8 g2.Marks),.d (.int .u8 g2.To.1.1),.d (.int .u8 g2.To.1.2.1),.d (.int .u8 g2.To.1.2.2.1),.d (.int .u8 g2.To.1.2.2.2.1),.d (.int .u8 g2.To.1.2.2.2.2),.d (.int .u8 g2.To.2.1.1),.d (.int .u8 g2.To.2.1.2.1),.d (.int .u8 g2.To.2.1.2.2.1),.d (.int .u8 g2.To.2.1.2.2.2.1),.d (.int .u8 g2.To.2.1.2.2.2.2),.d (.int .u8 g2.To.2.2.1.1),.d (.int .u8 g2.To.2.2.1.2.1),.d (.int .u8 g2.To.2.2.1.2.2.1),.d (.int .u8 g2.To.2.2.1.2.2.2.1),.d (.int .u8 g2.To.2.2.1.2.2.2.2),.d (.int .u8 g2.To.2.2.2.1.1),.d (.int .u8 g2.To.2.2.2.1.2.1),.d (.int .u8 g2.To.2.2.2.1.2.2.1),.d (.int .u8 g2.To.2.2.2.1.2.2.2.1),.d (.int .u8 g2.To.2.2.2.1.2.2.2.2),.d (.int .u8 g2.To.2.2.2.2.1),.d (.int .u8 g2.To.2.2.2.2.2.1),.d (.int .u8 g2.To.2.2.2.2.2.2.1),.d (.int .u8 g2.To.2.2.2.2.2.2.2.1),.d (.int .u8 g2.To.2.2.2.2.2.2.2.2)])),(4,.cells ([(o_ c9),(i_ 0),(o_ c10),.own 3 (List.map Qc c11)])),(5,.cells ([(l_ x7.Alphabet),(i_ a12),(o_ a13),.own 3 (List.map Qc a14)]))]) M,Γ.n0 + 79⟩) h (by exact Qh ⟨(sm rfl),(kPtr rfl),(kPtr rfl),(kPtr rfl),(sm rfl),tv⟩ ⟨⟨_,rfl,rfl,(.same rfl)⟩,⟨_,rfl,rfl,(.cons (WkV.nilsO _) (.cons (sm rfl) (.cons (WkV.nilsO _) (.cons (WkV.nilsO _) .nil))))⟩,⟨_,rfl,rfl,(.cons (sm rfl) (.cons (sm rfl) (.cons (WkV.nilsO _) (.cons (WkV.nilsO _) .nil))))⟩,tv⟩ rfl) (fun k15 z h=>?_)
   ·obtain ⟨i8,c9,c10,c11,a12,a13,a14⟩:=z
    replace h : _ = some _:=h
    refine Tr.seq (sr ((md rfl (Rn.fldP (o':=1) tv rfl rfl (Rn.load (v:=(i_ a12)) tv rfl (Qj rfl) rfl rfl (Rn.bin tv rfl rfl rfl (Rn.nil (toN ?_))))))))
    refine Tr.cond rfl (fun hb16=>?_) (fun hb16=>?_)
    ·replace h:=ifT hb16 h
     refine Tr.skip (toN ?_)
     refine Tr.cutB (fun ((a41,a42) : (List Int) × (List Qe))=>⟨look [(0,(l_ alphabet1)),(3,.ptr (Γ.n0 + 3) 0),(4,.ptr (Γ.n0 + 4) 0),(5,.ptr (Γ.n0 + 5) 0),(6,(i_ i8))],Qm Γ.n0 (bxs [(3,.cells ([.d (.int .u8 g2.States),.d (.int .u8 g2.Marks),.d (.int .u8 g2.To.1.1),.d (.int .u8 g2.To.1.2.1),.d (.int .u8 g2.To.1.2.2.1),.d (.int .u8 g2.To.1.2.2.2.1),.d (.int .u8 g2.To.1.2.2.2.2),.d (.int .u8 g2.To.2.1.1),.d (.int .u8 g2.To.2.1.2.1),.d (.int .u8 g2.To.2.1.2.2.1),.d (.int .u8 g2.To.2.1.2.2.2.1),.d (.int .u8 g2.To.2.1.2.2.2.2),.d (.int .u8 g2.To.2.2.1.1),.d (.int .u8 g2.To.2.2.1.2.1),.d (.int .u8 g2.To.2.2.1.2.2.1),.d (.int .u8 g2.To.2.2.1.2.2.2.1),.d (.int .u8 g2.To.2.2.1.2.2.2.2),.d (.int .u8 g2.To.2.2.2.1.1),.d (.int .u8 g2.To.2.2.2.1.2.1),.d (.int .u8 g2.To.2.2.2.1.2.2.1),.d (.int .u8 g2.To.2.2.2.1.2.2.2.1),.d (.int .u8 g2.To.2.2.2.1.2.2.2.2),.d (.int .u8 g2.To.2.2.2.2.1),.d (.int .u8 g2.To.2.2.2.2.2.1),.d (.int .u8 g2.To.2.2.2.2.2.2.1),.d (.int .u8 g2.To.2.2.2.2.2.2.2.1),.d (.int .u8 g2.To.2.2.2.2.2.2.2.2)])),(4,.cells ([(o_ c9),(i_ 0),(o_ c10),.own 3 (List.map Qc c11)])),(5,.cells ([(l_ x7.Alphabet),(i_ a12),(o_ a41),.own 3 (List.map Qc a42)]))]) M,Γ.n0 + 79⟩) h (fun z h=>?_) (fun z h=>?_)
     ·refine Tr.block ?_
      refine Tr.cutB (fun (a22 : List Int)=>⟨look [(0,(l_ alphabet1)),(3,.ptr (Γ.n0 + 3) 0),(4,.ptr (Γ.n0 + 4) 0),(5,.ptr (Γ.n0 + 5) 0),(6,(i_ i8))],Qm Γ.n0 (bxs [(3,.cells ([.d (.int .u8 g2.States),.d (.int .u8 g2.Marks),.d (.int .u8 g2.To.1.1),.d (.int .u8 g2.To.1.2.1),.d (.int .u8 g2.To.1.2.2.1),.d (.int .u8 g2.To.1.2.2.2.1),.d (.int .u8 g2.To.1.2.2.2.2),.d (.int .u8 g2.To.2.1.1),.d (.int .u8 g2.To.2.1.2.1),.d (.int .u8 g2.To.2.1.2.2.1),.d (.int .u8 g2.To.2.1.2.2.2.1),.d (.int .u8 g2.To.2.1.2.2.2.2),.d (.int .u8 g2.To.2.2.1.1),.d (.int .u8 g2.To.2.2.1.2.1),.d (.int .u8 g2.To.2.2.1.2.2.1),.d (.int .u8 g2.To.2.2.1.2.2.2.1),.d (.int .u8 g2.To.2.2.1.2.2.2.2),.d (.int .u8 g2.To.2.2.2.1.1),.d (.int .u8 g2.To.2.2.2.1.2.1),.d (.int .u8 g2.To.2.2.2.1.2.2.1),.d (.int .u8 g2.To.2.2.2.1.2.2.2.1),.d (.int .u8 g2.To.2.2.2.1.2.2.2.2),.d (.int .u8 g2.To.2.2.2.2.1),.d (.int .u8 g2.To.2.2.2.2.2.1),.d (.int .u8 g2.To.2.2.2.2.2.2.1),.d (.int .u8 g2.To.2.2.2.2.2.2.2.1),.d (.int .u8 g2.To.2.2.2.2.2.2.2.2)])),(4,.cells ([(o_ c9),(i_ 0),(o_ c10),.own 3 (List.map Qc c11)])),(5,.cells ([(l_ x7.Alphabet),(i_ a12),(o_ a22),.own 3 (List.map Qc a14)]))]) M,Γ.n0 + 79⟩) h (fun z h=>?_) (fun z h=>?_)
      ·refine sr ((Rn.fldP (o':=1) tv rfl rfl (Rn.load (v:=.d (.int .u8 g2.Marks)) tv rfl (Qj rfl) rfl rfl (md rfl ?_))))
       obtain ⟨s17,h18,h⟩:=bnd h
       refine Rn.bin tv rfl rfl (Qbk1 h18) (Rn.bin tv rfl rfl rfl (Rn.bin tv rfl rfl rfl (Rn.nil (toN ?_))))
       refine Tr.cond rfl (fun hb19=>?_) (fun hb19=>?_)
       ·replace h:=bT hb19 h
        refine Tr.rgn (Rn.fldP (o':=2) tv rfl rfl (Rn.loadT (cs':=[(l_ x7.Alphabet),(i_ a12),(l_ a13),.own 3 (List.map Qc a14)]) tv rfl rfl rfl rfl (md rfl (Rn.bslice (xs:=[(i_ i8)]) (cs:=[(i_ i8)]) tv rfl rfl rfl rfl ?_))))
        obtain ⟨x20,h21,h⟩:=bnd h
        refine Rn.app (e:=(eI .i64)) tv rfl rfl rfl (Qb3 rfl rfl rfl) h21 rfl (Rn.fldP (o':=2) tv rfl rfl (Rn.storeO (cs':=[(l_ x7.Alphabet),(i_ a12),(o_ x20),.own 3 (List.map Qc a14)]) tv rfl rfl rfl rfl rfl (Rn.nil ?_)))
        replace h:=si h; subst h
        exact Qg [37] ⟨(sm rfl),(kPtr rfl),(kPtr rfl),(kPtr rfl),(sm rfl),tv⟩ ⟨⟨_,rfl,rfl,(.same rfl)⟩,⟨_,rfl,rfl,(.same rfl)⟩,⟨_,rfl,rfl,(.same rfl)⟩,tv⟩ rfl
       ·replace h:=bF hb19 h
        refine Tr.skip ?_
        replace h:=si h; subst h
        exact Qg [] ⟨(sm rfl),(kPtr rfl),(kPtr rfl),(kPtr rfl),(sm rfl),tv⟩ ⟨⟨_,rfl,rfl,(.same rfl)⟩,⟨_,rfl,rfl,(.same rfl)⟩,⟨_,rfl,rfl,(.same rfl)⟩,tv⟩ rfl
      ·obtain ⟨a22,rfl⟩ : ∃ x,x = z:=⟨_,rfl⟩
       refine sr ((md rfl (nt ((Tr.block ?_)))))
       refine Tr.loop (mk:=fun ((k23,a24) : Int × (List Qe))=>⟨look [(0,(l_ alphabet1)),(3,.ptr (Γ.n0 + 3) 0),(4,.ptr (Γ.n0 + 4) 0),(5,.ptr (Γ.n0 + 5) 0),(6,(i_ i8)),(7,(i_ k23))],Qm Γ.n0 (bxs [(3,.cells ([.d (.int .u8 g2.States),.d (.int .u8 g2.Marks),.d (.int .u8 g2.To.1.1),.d (.int .u8 g2.To.1.2.1),.d (.int .u8 g2.To.1.2.2.1),.d (.int .u8 g2.To.1.2.2.2.1),.d (.int .u8 g2.To.1.2.2.2.2),.d (.int .u8 g2.To.2.1.1),.d (.int .u8 g2.To.2.1.2.1),.d (.int .u8 g2.To.2.1.2.2.1),.d (.int .u8 g2.To.2.1.2.2.2.1),.d (.int .u8 g2.To.2.1.2.2.2.2),.d (.int .u8 g2.To.2.2.1.1),.d (.int .u8 g2.To.2.2.1.2.1),.d (.int .u8 g2.To.2.2.1.2.2.1),.d (.int .u8 g2.To.2.2.1.2.2.2.1),.d (.int .u8 g2.To.2.2.1.2.2.2.2),.d (.int .u8 g2.To.2.2.2.1.1),.d (.int .u8 g2.To.2.2.2.1.2.1),.d (.int .u8 g2.To.2.2.2.1.2.2.1),.d (.int .u8 g2.To.2.2.2.1.2.2.2.1),.d (.int .u8 g2.To.2.2.2.1.2.2.2.2),.d (.int .u8 g2.To.2.2.2.2.1),.d (.int .u8 g2.To.2.2.2.2.2.1),.d (.int .u8 g2.To.2.2.2.2.2.2.1),.d (.int .u8 g2.To.2.2.2.2.2.2.2.1),.d (.int .u8 g2.To.2.2.2.2.2.2.2.2)])),(4,.cells ([(o_ c9),(i_ 0),(o_ c10),.own 3 (List.map Qc c11)])),(5,.cells ([(l_ x7.Alphabet),(i_ a12),(o_ a22),.own 3 (List.map Qc a24)]))]) M,Γ.n0 + 79⟩) h (by exact Qh ⟨(sm rfl),(kPtr rfl),(kPtr rfl),(kPtr rfl),(sm rfl),(sm rfl),tv⟩ ⟨⟨_,rfl,rfl,(.same rfl)⟩,⟨_,rfl,rfl,(.same rfl)⟩,⟨_,rfl,rfl,(.same rfl)⟩,tv⟩ rfl) (fun k25 z h=>?_)
       ·obtain ⟨k23,a24⟩:=z
        replace h : _ = some _:=h
        refine Tr.seq ?_
        refine Tr.cutB (fun (x27 : Bool)=>⟨look [(0,(l_ alphabet1)),(3,.ptr (Γ.n0 + 3) 0),(4,.ptr (Γ.n0 + 4) 0),(5,.ptr (Γ.n0 + 5) 0),(6,(i_ i8)),(7,(i_ k23)),(47,(b_ x27))],Qm Γ.n0 (bxs [(3,.cells ([.d (.int .u8 g2.States),.d (.int .u8 g2.Marks),.d (.int .u8 g2.To.1.1),.d (.int .u8 g2.To.1.2.1),.d (.int .u8 g2.To.1.2.2.1),.d (.int .u8 g2.To.1.2.2.2.1),.d (.int .u8 g2.To.1.2.2.2.2),.d (.int .u8 g2.To.2.1.1),.d (.int .u8 g2.To.2.1.2.1),.d (.int .u8 g2.To.2.1.2.2.1),.d (.int .u8 g2.To.2.1.2.2.2.1),.d (.int .u8 g2.To.2.1.2.2.2.2),.d (.int .u8 g2.To.2.2.1.1),.d (.int .u8 g2.To.2.2.1.2.1),.d (.int .u8 g2.To.2.2.1.2.2.1),.d (.int .u8 g2.To.2.2.1.2.2.2.1),.d (.int .u8 g2.To.2.2.1.2.2.2.2),.d (.int .u8 g2.To.2.2.2.1.1),.d (.int .u8 g2.To.2.2.2.1.2.1),.d (.int .u8 g2.To.2.2.2.1.2.2.1),.d (.int .u8 g2.To.2.2.2.1.2.2.2.1),.d (.int .u8 g2.To.2.2.2.1.2.2.2.2),.d (.int .u8 g2.To.2.2.2.2.1),.d (.int .u8 g2.To.2.2.2.2.2.1),.d (.int .u8 g2.To.2.2.2.2.2.2.1),.d (.int .u8 g2.To.2.2.2.2.2.2.2.1),.d (.int .u8 g2.To.2.2.2.2.2.2.2.2)])),(4,.cells ([(o_ c9),(i_ 0),(o_ c10),.own 3 (List.map Qc c11)])),(5,.cells ([(l_ x7.Alphabet),(i_ a12),(o_ a22),.own 3 (List.map Qc a24)]))]) M,Γ.n0 + 79⟩) h (fun z h=>?_) (fun z h=>?_)
        ·refine Tr.rgn (md rfl (md rfl (Rn.lenD tv rfl (Rn.bin tv rfl rfl rfl (md rfl ?_)))))
         refine Qc2 (decide (k23 < (alphabet1.length : Int))) (fun hb26=>?_) (fun hb26=>?_)
         ·replace h:=ifT hb26 h
          refine Rn.movD (gw rfl hb26) rfl (Rn.bin (gw rfl hb26) rfl rfl rfl (Rn.pickT (v:=(b_ (decide (k23 < 5)))) tv rfl hb26 rfl (Rn.nil ?_)))
          replace h:=si h; subst h
          exact Qg [] ⟨(sm rfl),(kPtr rfl),(kPtr rfl),(kPtr rfl),(sm rfl),(sm rfl),(sm rfl),tv⟩ ⟨⟨_,rfl,rfl,(.same rfl)⟩,⟨_,rfl,rfl,(.same rfl)⟩,⟨_,rfl,rfl,(.same rfl)⟩,tv⟩ rfl
         ·replace h:=ifF hb26 h
          refine Rn.sk (nw rfl hb26) (Rn.sk (nw rfl hb26) (Rn.pickF (v:=(b_ false)) tv rfl hb26 rfl (Rn.nil ?_)))
          replace h:=si h; subst h
          exact Qg [] ⟨(sm rfl),(kPtr rfl),(kPtr rfl),(kPtr rfl),(sm rfl),(sm rfl),(sm rfl),tv⟩ ⟨⟨_,rfl,rfl,(.same rfl)⟩,⟨_,rfl,rfl,(.same rfl)⟩,⟨_,rfl,rfl,(.same rfl)⟩,tv⟩ rfl
        ·obtain ⟨x27,rfl⟩ : ∃ x,x = z:=⟨_,rfl⟩
         refine Tr.cond rfl (fun hb28=>?_) (fun hb28=>?_)
         ·replace h:=bT hb28 h
          refine Tr.skip (toN ?_)
          refine Tr.cutB (fun (a40 : List Qe)=>⟨look [(0,(l_ alphabet1)),(3,.ptr (Γ.n0 + 3) 0),(4,.ptr (Γ.n0 + 4) 0),(5,.ptr (Γ.n0 + 5) 0),(6,(i_ i8)),(7,(i_ k23))],Qm Γ.n0 (bxs [(3,.cells ([.d (.int .u8 g2.States),.d (.int .u8 g2.Marks),.d (.int .u8 g2.To.1.1),.d (.int .u8 g2.To.1.2.1),.d (.int .u8 g2.To.1.2.2.1),.d (.int .u8 g2.To.1.2.2.2.1),.d (.int .u8 g2.To.1.2.2.2.2),.d (.int .u8 g2.To.2.1.1),.d (.int .u8 g2.To.2.1.2.1),.d (.int .u8 g2.To.2.1.2.2.1),.d (.int .u8 g2.To.2.1.2.2.2.1),.d (.int .u8 g2.To.2.1.2.2.2.2),.d (.int .u8 g2.To.2.2.1.1),.d (.int .u8 g2.To.2.2.1.2.1),.d (.int .u8 g2.To.2.2.1.2.2.1),.d (.int .u8 g2.To.2.2.1.2.2.2.1),.d (.int .u8 g2.To.2.2.1.2.2.2.2),.d (.int .u8 g2.To.2.2.2.1.1),.d (.int .u8 g2.To.2.2.2.1.2.1),.d (.int .u8 g2.To.2.2.2.1.2.2.1),.d (.int .u8 g2.To.2.2.2.1.2.2.2.1),.d (.int .u8 g2.To.2.2.2.1.2.2.2.2),.d (.int .u8 g2.To.2.2.2.2.1),.d (.int .u8 g2.To.2.2.2.2.2.1),.d (.int .u8 g2.To.2.2.2.2.2.2.1),.d (.int .u8 g2.To.2.2.2.2.2.2.2.1),.d (.int .u8 g2.To.2.2.2.2.2.2.2.2)])),(4,.cells ([(o_ c9),(i_ 0),(o_ c10),.own 3 (List.map Qc c11)])),(5,.cells ([(l_ x7.Alphabet),(i_ a12),(o_ a22),.own 3 (List.map Qc a40)]))]) M,Γ.n0 + 79⟩) h (fun z h=>?_) (fun z h=>?_)
          ·refine Tr.block (Tr.seq ?_)
           refine Tr.rgnD (by decide) ?_
           refine md rfl (md rfl (Rn.fldP (o':=2) tv rfl rfl ?_))
           obtain ⟨⟨⟩,h29,h⟩:=bnd h
           refine Rn.idxArr (o':=2 + (Int.toNat i8 * 5)) tv rfl rfl rfl h29 ?_
           obtain ⟨⟨⟩,h30,h⟩:=bnd h
           refine Rn.idxArr (o':=2 + (Int.toNat i8 * 5 + Int.toNat k23 * 1)) tv rfl rfl (Nat.add_assoc ..).symm h30 ?_
           obtain ⟨x31,h32,h⟩:=bnd h
           refine Rn.loadArr (e:=(fun (z : Int)=>.int .u8 z)) (pre:=[.d (.int .u8 g2.States),.d (.int .u8 g2.Marks)]) (post:=[]) tv rfl rfl (Qj rfl) rfl rfl h32 (Rn.conv tv rfl (Rn.fldP (o':=1) tv rfl rfl (Rn.load (v:=(i_ a12)) tv rfl (Qj rfl) rfl rfl (Rn.bin tv rfl rfl rfl ?_))))
           obtain ⟨s33,h34,h⟩:=bnd h
           refine Rn.bin tv rfl rfl (Qbok h34) (md rfl ?_)
           refine Rn.nil ⟨rfl,?_⟩
           refine toN (sr ((md rfl (Rn.fldP (o':=1) tv rfl rfl (Rn.load (v:=(i_ a12)) tv rfl (Qj rfl) rfl rfl (Rn.bin tv rfl rfl rfl (Rn.nil (toN ?_))))))))
           refine Tr.cond rfl (fun hb35=>?_) (fun hb35=>?_)
           ·replace h:=ifT hb35 h
            refine Tr.rgnD (by decide) ?_
            refine Rn.fldP (o':=3) tv rfl rfl (Rn.loadT (cs':=[(l_ x7.Alphabet),(i_ a12),(o_ a22),.d (.lst 3 (List.map Qc a24))]) tv rfl rfl rfl rfl (md rfl (md rfl (md rfl ?_))))
            obtain ⟨x36,h37,h⟩:=bnd h
            refine Rn.idxD (e:=(eI .i64)) tv rfl rfl h37 (Rn.loadC (x:=.int .i64 x36) tv rfl (md rfl (Rn.build (v:=.agg [(i_ i8),(i_ x36),(i_ s33)]) tv rfl (Rn.bslice (xs:=[.agg [(i_ i8),(i_ x36),(i_ s33)]]) (cs:=[(i_ i8),(i_ x36),(i_ s33)]) tv rfl rfl rfl rfl ?_))))
            obtain ⟨x38,h39,h⟩:=bnd h
            refine Rn.app (e:=Qc) tv rfl rfl rfl (Qb3 rfl rfl rfl) h39 rfl (Rn.fldP (o':=3) tv rfl rfl (Rn.storeO (cs':=[(l_ x7.Alphabet),(i_ a12),(o_ a22),.own 3 (List.map Qc x38)]) tv rfl rfl rfl rfl rfl ?_))
            refine Rn.nil ⟨rfl,?_⟩
            replace h:=si h; subst h
            exact Qg [74] ⟨(sm rfl),(kPtr rfl),(kPtr rfl),(kPtr rfl),(sm rfl),(sm rfl),tv⟩ ⟨⟨_,rfl,rfl,(.same rfl)⟩,⟨_,rfl,rfl,(.same rfl)⟩,⟨_,rfl,rfl,(.same rfl)⟩,tv⟩ rfl
           ·replace h:=ifF hb35 h
            refine Tr.skip ?_
            replace h:=si h; subst h
            exact Qg [] ⟨(sm rfl),(kPtr rfl),(kPtr rfl),(kPtr rfl),(sm rfl),(sm rfl),tv⟩ ⟨⟨_,rfl,rfl,(.same rfl)⟩,⟨_,rfl,rfl,(.same rfl)⟩,⟨_,rfl,rfl,(.same rfl)⟩,tv⟩ rfl
          ·obtain ⟨a40,rfl⟩ : ∃ x,x = z:=⟨_,rfl⟩
           refine Tr.rgn (md rfl (Rn.bin tv rfl rfl rfl (md rfl (Rn.nil ?_))))
           exact ⟨_,h,(by exact Qh ⟨(sm rfl),(kPtr rfl),(kPtr rfl),(kPtr rfl),(sm rfl),(sm rfl),tv⟩ ⟨⟨_,rfl,rfl,(.same rfl)⟩,⟨_,rfl,rfl,(.same rfl)⟩,⟨_,rfl,rfl,(.same rfl)⟩,tv⟩ rfl)⟩
         ·replace h:=bF hb28 h
          refine Tr.exit ?_
          replace h:=si h; subst h
          exact Qg [] ⟨(sm rfl),(kPtr rfl),(kPtr rfl),(kPtr rfl),(sm rfl),tv⟩ ⟨⟨_,rfl,rfl,(.same rfl)⟩,⟨_,rfl,rfl,(.same rfl)⟩,⟨_,rfl,rfl,(.same rfl)⟩,tv⟩ rfl
     ·obtain ⟨a41,a42⟩:=z
      refine Tr.rgn (md rfl (Rn.bin tv rfl rfl rfl (md rfl (Rn.nil ?_))))
      exact ⟨_,h,(by exact Qh ⟨(sm rfl),(kPtr rfl),(kPtr rfl),(kPtr rfl),(sm rfl),tv⟩ ⟨⟨_,rfl,rfl,(.same rfl)⟩,⟨_,rfl,rfl,(.same rfl)⟩,⟨_,rfl,rfl,(.same rfl)⟩,tv⟩ rfl)⟩
    ·replace h:=ifF hb16 h
     refine Tr.exit ?_
     replace h:=si h; subst h
     exact Qg [] ⟨(kPtr rfl),(kPtr rfl),tv⟩ ⟨⟨_,rfl,rfl,(.same rfl)⟩,⟨_,rfl,rfl,(.same rfl)⟩,⟨_,rfl,rfl,(.same rfl)⟩,tv⟩ rfl
  ·obtain ⟨c43,c44,c45,a46,a47,a48⟩:=z
   refine sr ((Rn.load (v:=.agg [(l_ x7.Alphabet),(i_ a46),(l_ a47),.d (.lst 3 (List.map Qc a48))]) tv rfl (Qj rfl) rfl rfl ?_))
   obtain ⟨x50,h49,h⟩:=bnd h
   refine Rn.call (args:=[.agg [(l_ x7.Alphabet),(i_ a46),(l_ a47),.d (.lst 3 (List.map Qc a48))]]) tv rfl (H_overseerref03_Canonical _ _ h49) pc9 (Rn.storeT (v:=(Qb x50)) (ds:=(Qd x50)) (cs':=(Qd x50)) tv rfl rfl rfl rfl rfl rfl rfl (nt ((Tr.ret ?_))))
   replace h:=si h; subst h
   exact ⟨.inr rfl,(Qb x50),Qhn rfl rfl rfl rfl,fun _ _ _ _ h=>h,⟨tv,tv,tv,tv,tv⟩,fun k hk=>Qf hk⟩
theorem Q1a {P : Program} {c : Nat} (hcf : Qs P c = some Qjl) (fuel : Nat) : Qc5 P c (Qq fuel):=by
 intro l1 n2 r h
 refine Qcj hcf rfl fun Γ M hP hnt hM=>?_
 subst hP
 refine Tr.init [(0,(l_ l1)),(1,(i_ n2))] rfl ?_
 unfold Qq at h
 unfold Qjl
 refine sr ((md rfl (nt ((Tr.seq (sr ((md rfl (nt ((Tr.block ?_)))))))))))
 refine Tr.loop (mk:=fun (i3 : Int)=>⟨look [(0,(l_ l1)),(1,(i_ n2)),(5,(i_ i3))],Qm Γ.n0 (bxs []) M,Γ.n0 + 18⟩) h (by exact Qh ⟨(sm rfl),(sm rfl),(sm rfl),tv⟩ tv rfl) (fun k4 z h=>?_)
 ·obtain ⟨i3,rfl⟩ : ∃ x,x = z:=⟨_,rfl⟩
  replace h : _ = some _:=h
  refine Tr.seq (sr ((md rfl (md rfl (Rn.lenD tv rfl (Rn.bin tv rfl rfl rfl (Rn.nil (toN ?_))))))))
  refine Tr.cond rfl (fun hb5=>?_) (fun hb5=>?_)
  ·replace h:=ifT hb5 h
   refine Tr.skip (toN (Tr.seq (Tr.block (sr ((md rfl (md rfl ?_)))))))
   obtain ⟨x6,h7,h⟩:=bnd h
   refine Rn.idxD (e:=(eI .i64)) tv rfl rfl h7 (Rn.loadC (x:=.int .i64 x6) tv rfl (md rfl (Rn.bin tv rfl rfl rfl (Rn.nil (toN ?_)))))
   refine Tr.cond rfl (fun hb8=>?_) (fun hb8=>?_)
   ·replace h:=bT hb8 h
    refine sr ((md rfl (nt ((Tr.ret ?_)))))
    replace h:=si h; subst h
    exact ⟨.inr rfl,(b_ true),rfl,fun _ _ _ _ h=>h,tv,fun k hk=>Qf hk⟩
   ·replace h:=bF hb8 h
    refine Tr.skip (toN (Tr.rgn (md rfl (Rn.bin tv rfl rfl rfl (md rfl (Rn.nil ?_))))))
    exact ⟨_,h,(by exact Qh ⟨(sm rfl),(sm rfl),(sm rfl),tv⟩ tv rfl)⟩
  ·replace h:=ifF hb5 h
   refine Tr.exit (toN (sr ((md rfl (nt ((Tr.ret ?_)))))))
   replace h:=si h; subst h
   exact ⟨.inr rfl,(b_ false),rfl,fun _ _ _ _ h=>h,tv,fun k hk=>Qf hk⟩
theorem Qx2 {P : Program} {c : Nat} {Qq : (List Int) → Int → Option Bool}
    (H_overseerref07_has : Qc5 P 45 Qq) (hcf : Qs P c = some Qiv) (fuel : Nat) : Qiu P c (Qce Qq fuel):=by
 intro a1 onto2 r h
 refine Qcj hcf rfl fun Γ M hP hnt hM=>?_
 subst hP
 refine Tr.init [(0,(Qb a1)),(1,(l_ onto2))] rfl ?_
 unfold Qce at h
 unfold Qiv
 refine sr ((Rn.box (v:=(Qb a1)) (cs:=(Qd a1)) tv rfl rfl rfl rfl rfl (Rn.movTC (v:=.nils 1) tv (nt ((sr ((Rn.movTC (v:=.nils 1) tv (Rn.nil (toN ?_))))))))))
 refine Tr.cutB (fun (out17 : List Int)=>⟨look [(5,(o_ out17))],Qm Γ.n0 (bxs [(2,.cells ((Qd a1)))]) M,Γ.n0 + 30⟩) h (fun z h=>?_) (fun z h=>?_)
 ·refine sr ((md rfl (nt ((Tr.block ?_)))))
  refine Tr.loop (mk:=fun ((out3,i4) : (List Int) × Int)=>⟨look [(1,(l_ onto2)),(2,.ptr (Γ.n0 + 2) 0),(5,(o_ out3)),(6,(i_ i4))],Qm Γ.n0 (bxs [(2,.cells ((Qd a1)))]) M,Γ.n0 + 30⟩) h (by exact Qh ⟨(sm rfl),(kPtr rfl),(WkV.nilsO _),(sm rfl),tv⟩ ⟨⟨_,rfl,rfl,(.same rfl)⟩,tv⟩ rfl) (fun k5 z h=>?_)
  ·obtain ⟨out3,i4⟩:=z
   replace h : _ = some _:=h
   refine Tr.seq (sr ((md rfl (Rn.fldP (o':=0) tv rfl rfl (Rn.load (v:=(l_ a1.Alphabet)) tv rfl (Qj rfl) rfl rfl (Rn.lenD tv rfl (Rn.bin tv rfl rfl rfl (Rn.nil (toN ?_)))))))))
   refine Tr.cond rfl (fun hb6=>?_) (fun hb6=>?_)
   ·replace h:=ifT hb6 h
    refine Tr.skip (toN ?_)
    refine Tr.cutB (fun (out16 : List Int)=>⟨look [(1,(l_ onto2)),(2,.ptr (Γ.n0 + 2) 0),(5,(o_ out16)),(6,(i_ i4))],Qm Γ.n0 (bxs [(2,.cells ((Qd a1)))]) M,Γ.n0 + 30⟩) h (fun z h=>?_) (fun z h=>?_)
    ·refine Tr.block (sr ((md rfl (Rn.fldP (o':=0) tv rfl rfl (Rn.load (v:=(l_ a1.Alphabet)) tv rfl (Qj rfl) rfl rfl (md rfl ?_))))))
     obtain ⟨x7,h8,h⟩:=bnd h
     refine Rn.idxD (e:=(eI .i64)) tv rfl rfl h8 (Rn.loadC (x:=.int .i64 x7) tv rfl ?_)
     obtain ⟨x10,h9,h⟩:=bnd h
     refine Rn.call (args:=[(l_ onto2),(i_ x7)]) tv rfl (H_overseerref07_has _ _ _ h9) pc9 (Rn.nil (toN ?_))
     refine Tr.cond rfl (fun hb11=>?_) (fun hb11=>?_)
     ·replace h:=bT hb11 h
      refine Tr.rgn (Rn.movTO tv rfl (Rn.fldP (o':=0) tv rfl rfl (Rn.load (v:=(l_ a1.Alphabet)) tv rfl (Qj rfl) rfl rfl (md rfl ?_))))
      obtain ⟨x12,h13,h⟩:=bnd h
      refine Rn.idxD (e:=(eI .i64)) tv rfl rfl h13 (Rn.loadC (x:=.int .i64 x12) tv rfl (Rn.bslice (xs:=[(i_ x12)]) (cs:=[(i_ x12)]) tv rfl rfl rfl rfl ?_))
      obtain ⟨x14,h15,h⟩:=bnd h
      refine Rn.app (e:=(eI .i64)) tv rfl rfl rfl (Qb3 rfl rfl rfl) h15 rfl (Rn.movTO tv rfl (Rn.nil ?_))
      replace h:=si h; subst h
      exact Qg [27] ⟨(sm rfl),(kPtr rfl),(sm rfl),(sm rfl),tv⟩ ⟨⟨_,rfl,rfl,(.same rfl)⟩,tv⟩ rfl
     ·replace h:=bF hb11 h
      refine Tr.skip ?_
      replace h:=si h; subst h
      exact Qg [] ⟨(sm rfl),(kPtr rfl),(sm rfl),(sm rfl),tv⟩ ⟨⟨_,rfl,rfl,(.same rfl)⟩,tv⟩ rfl
    ·obtain ⟨out16,rfl⟩ : ∃ x,x = z:=⟨_,rfl⟩
     refine Tr.rgn (md rfl (Rn.bin tv rfl rfl rfl (md rfl (Rn.nil ?_))))
     exact ⟨_,h,(by exact Qh ⟨(sm rfl),(kPtr rfl),(sm rfl),(sm rfl),tv⟩ ⟨⟨_,rfl,rfl,(.same rfl)⟩,tv⟩ rfl)⟩
   ·replace h:=ifF hb6 h
    refine Tr.exit ?_
    replace h:=si h; subst h
    exact Qg [] ⟨(sm rfl),tv⟩ ⟨⟨_,rfl,rfl,(.same rfl)⟩,tv⟩ rfl
 ·obtain ⟨out17,rfl⟩ : ∃ x,x = z:=⟨_,rfl⟩
  refine sr ((Rn.movTO tv rfl (Rn.movTO tv rfl (nt ((Tr.ret ?_))))))
  replace h:=si h; subst h
  exact ⟨.inr rfl,(o_ out17),rfl,fun _ _ _ _ h=>h,tv,fun k hk=>Qf hk⟩
theorem Qry {P : Program} {c : Nat} {Qq : (List Int) → Int → Option Bool}
    (H_overseerref07_has : Qc5 P 45 Qq) (hcf : Qs P c = some Qha) (fuel : Nat) : Qfa P c (Q5 Qq fuel):=by
 intro a1 onto2 r h
 refine Qcj hcf rfl fun Γ M hP hnt hM=>?_
 subst hP
 refine Tr.init [(0,(Qb a1)),(1,(l_ onto2))] rfl ?_
 unfold Q5 at h
 unfold Qha
 refine sr ((Rn.box (v:=(Qb a1)) (cs:=(Qd a1)) tv rfl rfl rfl rfl rfl (Rn.movTC (v:=.nils 1) tv (nt ((sr ((Rn.movTC (v:=.nils 1) tv (Rn.nil (toN ?_))))))))))
 refine Tr.cutB (fun (out17 : List Int)=>⟨look [(5,(o_ out17))],Qm Γ.n0 (bxs [(2,.cells ((Qd a1)))]) M,Γ.n0 + 31⟩) h (fun z h=>?_) (fun z h=>?_)
 ·refine sr ((md rfl (nt ((Tr.block ?_)))))
  refine Tr.loop (mk:=fun ((out3,i4) : (List Int) × Int)=>⟨look [(1,(l_ onto2)),(2,.ptr (Γ.n0 + 2) 0),(5,(o_ out3)),(6,(i_ i4))],Qm Γ.n0 (bxs [(2,.cells ((Qd a1)))]) M,Γ.n0 + 31⟩) h (by exact Qh ⟨(sm rfl),(kPtr rfl),(WkV.nilsO _),(sm rfl),tv⟩ ⟨⟨_,rfl,rfl,(.same rfl)⟩,tv⟩ rfl) (fun k5 z h=>?_)
  ·obtain ⟨out3,i4⟩:=z
   replace h : _ = some _:=h
   refine Tr.seq (sr ((md rfl (Rn.fldP (o':=0) tv rfl rfl (Rn.load (v:=(l_ a1.Alphabet)) tv rfl (Qj rfl) rfl rfl (Rn.lenD tv rfl (Rn.bin tv rfl rfl rfl (Rn.nil (toN ?_)))))))))
   refine Tr.cond rfl (fun hb6=>?_) (fun hb6=>?_)
   ·replace h:=ifT hb6 h
    refine Tr.skip (toN ?_)
    refine Tr.cutB (fun (out16 : List Int)=>⟨look [(1,(l_ onto2)),(2,.ptr (Γ.n0 + 2) 0),(5,(o_ out16)),(6,(i_ i4))],Qm Γ.n0 (bxs [(2,.cells ((Qd a1)))]) M,Γ.n0 + 31⟩) h (fun z h=>?_) (fun z h=>?_)
    ·refine Tr.block (sr ((md rfl (Rn.fldP (o':=0) tv rfl rfl (Rn.load (v:=(l_ a1.Alphabet)) tv rfl (Qj rfl) rfl rfl (md rfl ?_))))))
     obtain ⟨x7,h8,h⟩:=bnd h
     refine Rn.idxD (e:=(eI .i64)) tv rfl rfl h8 (Rn.loadC (x:=.int .i64 x7) tv rfl ?_)
     obtain ⟨x10,h9,h⟩:=bnd h
     refine Rn.call (args:=[(l_ onto2),(i_ x7)]) tv rfl (H_overseerref07_has _ _ _ h9) pc9 (Rn.un tv rfl rfl (Rn.nil (toN ?_)))
     refine Tr.cond rfl (fun hb11=>?_) (fun hb11=>?_)
     ·have hb11:=nT' hb11
      replace h:=bF hb11 h
      refine Tr.rgn (Rn.movTO tv rfl (Rn.fldP (o':=0) tv rfl rfl (Rn.load (v:=(l_ a1.Alphabet)) tv rfl (Qj rfl) rfl rfl (md rfl ?_))))
      obtain ⟨x12,h13,h⟩:=bnd h
      refine Rn.idxD (e:=(eI .i64)) tv rfl rfl h13 (Rn.loadC (x:=.int .i64 x12) tv rfl (Rn.bslice (xs:=[(i_ x12)]) (cs:=[(i_ x12)]) tv rfl rfl rfl rfl ?_))
      obtain ⟨x14,h15,h⟩:=bnd h
      refine Rn.app (e:=(eI .i64)) tv rfl rfl rfl (Qb3 rfl rfl rfl) h15 rfl (Rn.movTO tv rfl (Rn.nil ?_))
      replace h:=si h; subst h
      exact Qg [28] ⟨(sm rfl),(kPtr rfl),(sm rfl),(sm rfl),tv⟩ ⟨⟨_,rfl,rfl,(.same rfl)⟩,tv⟩ rfl
     ·have hb11:=nF' hb11
      replace h:=bT hb11 h
      refine Tr.skip ?_
      replace h:=si h; subst h
      exact Qg [] ⟨(sm rfl),(kPtr rfl),(sm rfl),(sm rfl),tv⟩ ⟨⟨_,rfl,rfl,(.same rfl)⟩,tv⟩ rfl
    ·obtain ⟨out16,rfl⟩ : ∃ x,x = z:=⟨_,rfl⟩
     refine Tr.rgn (md rfl (Rn.bin tv rfl rfl rfl (md rfl (Rn.nil ?_))))
     exact ⟨_,h,(by exact Qh ⟨(sm rfl),(kPtr rfl),(sm rfl),(sm rfl),tv⟩ ⟨⟨_,rfl,rfl,(.same rfl)⟩,tv⟩ rfl)⟩
   ·replace h:=ifF hb6 h
    refine Tr.exit ?_
    replace h:=si h; subst h
    exact Qg [] ⟨(sm rfl),tv⟩ ⟨⟨_,rfl,rfl,(.same rfl)⟩,tv⟩ rfl
 ·obtain ⟨out17,rfl⟩ : ∃ x,x = z:=⟨_,rfl⟩
  refine sr ((Rn.movTO tv rfl (Rn.movTO tv rfl (nt ((Tr.ret ?_))))))
  replace h:=si h; subst h
  exact ⟨.inr rfl,(o_ out17),rfl,fun _ _ _ _ h=>h,tv,fun k hk=>Qf hk⟩
theorem Qrz {P : Program} {c : Nat} {Qq : (List Int) → Int → Option Bool}
    (H_overseerref07_has : Qc5 P 45 Qq) (hcf : Qs P c = some Qhc) (fuel : Nat) : Qhb P c (Qb1 Qq fuel):=by
 intro l1 states2 r h
 refine Qcj hcf rfl fun Γ M hP hnt hM=>?_
 subst hP
 refine Tr.init [(0,(l_ l1)),(1,(i_ states2))] rfl ?_
 unfold Qb1 at h
 unfold Qhc
 refine sr ((Rn.movTC (v:=.nils 1) tv (nt ((sr ((Rn.movTC (v:=.nils 1) tv (Rn.nil (toN ?_)))))))))
 refine Tr.cutB (fun (out13 : List Int)=>⟨look [(5,(o_ out13))],Qm Γ.n0 (bxs []) M,Γ.n0 + 20⟩) h (fun z h=>?_) (fun z h=>?_)
 ·refine sr ((md rfl (nt ((Tr.block ?_)))))
  refine Tr.loop (mk:=fun ((out3,i4) : (List Int) × Int)=>⟨look [(0,(l_ l1)),(1,(i_ states2)),(5,(o_ out3)),(6,(i_ i4))],Qm Γ.n0 (bxs []) M,Γ.n0 + 20⟩) h (by exact Qh ⟨(sm rfl),(sm rfl),(WkV.nilsO _),(sm rfl),tv⟩ tv rfl) (fun k5 z h=>?_)
  ·obtain ⟨out3,i4⟩:=z
   replace h : _ = some _:=h
   refine Tr.seq (sr ((md rfl (md rfl (Rn.bin tv rfl rfl rfl (Rn.nil (toN ?_)))))))
   refine Tr.cond rfl (fun hb6=>?_) (fun hb6=>?_)
   ·replace h:=ifT hb6 h
    refine Tr.skip (toN ?_)
    refine Tr.cutB (fun (out12 : List Int)=>⟨look [(0,(l_ l1)),(1,(i_ states2)),(5,(o_ out12)),(6,(i_ i4))],Qm Γ.n0 (bxs []) M,Γ.n0 + 20⟩) h (fun z h=>?_) (fun z h=>?_)
    ·refine Tr.block (sr ((md rfl (md rfl ?_))))
     obtain ⟨x8,h7,h⟩:=bnd h
     refine Rn.call (args:=[(l_ l1),(i_ i4)]) tv rfl (H_overseerref07_has _ _ _ h7) pc9 (Rn.nil (toN ?_))
     refine Tr.cond rfl (fun hb9=>?_) (fun hb9=>?_)
     ·replace h:=bT hb9 h
      refine Tr.rgn (Rn.movTO tv rfl (md rfl (Rn.bslice (xs:=[(i_ i4)]) (cs:=[(i_ i4)]) tv rfl rfl rfl rfl ?_)))
      obtain ⟨x10,h11,h⟩:=bnd h
      refine Rn.app (e:=(eI .i64)) tv rfl rfl rfl (Qb3 rfl rfl rfl) h11 rfl (Rn.movTO tv rfl (Rn.nil ?_))
      replace h:=si h; subst h
      exact Qg [17] ⟨(sm rfl),(sm rfl),(sm rfl),(sm rfl),tv⟩ tv rfl
     ·replace h:=bF hb9 h
      refine Tr.skip ?_
      replace h:=si h; subst h
      exact Qg [] ⟨(sm rfl),(sm rfl),(sm rfl),(sm rfl),tv⟩ tv rfl
    ·obtain ⟨out12,rfl⟩ : ∃ x,x = z:=⟨_,rfl⟩
     refine Tr.rgn (md rfl (Rn.bin tv rfl rfl rfl (md rfl (Rn.nil ?_))))
     exact ⟨_,h,(by exact Qh ⟨(sm rfl),(sm rfl),(sm rfl),(sm rfl),tv⟩ tv rfl)⟩
   ·replace h:=ifF hb6 h
    refine Tr.exit ?_
    replace h:=si h; subst h
    exact Qg [] ⟨(sm rfl),tv⟩ tv rfl
 ·obtain ⟨out13,rfl⟩ : ∃ x,x = z:=⟨_,rfl⟩
  refine sr ((Rn.movTO tv rfl (Rn.movTO tv rfl (nt ((Tr.ret ?_))))))
  replace h:=si h; subst h
  exact ⟨.inr rfl,(o_ out13),rfl,fun _ _ _ _ h=>h,tv,fun k hk=>Qf hk⟩
theorem Qt6 {P : Program} {c : Nat} {Qq : (List Int) → Int → Option Bool} {Qb1 : (List Int) → Int → Option ((List Int))}
    (H_overseerref07_has : Qc5 P 45 Qq)
    (H_overseerref07_sorted : Qhb P 51 Qb1) (hcf : Qs P c = some Qh1) (fuel : Nat) : Qfn P c (Qba Qq Qb1 fuel):=by
 intro a1 xfrom2 events3 r h
 refine Qcj hcf rfl fun Γ M hP hnt hM=>?_
 subst hP
 refine Tr.init [(0,(Qb a1)),(1,(l_ xfrom2)),(2,(l_ events3))] rfl ?_
 unfold Qba at h
 unfold Qh1
 refine sr ((Rn.box (v:=(Qb a1)) (cs:=(Qd a1)) tv rfl rfl rfl rfl rfl (Rn.movTC (v:=.nils 1) tv (nt ((sr ((Rn.bslice (xs:=[]) (cs:=[]) tv rfl rfl rfl rfl (md rfl ?_)))))))))
 obtain ⟨x4,h5,h⟩:=bnd h
 refine Rn.app0 (e:=(eI .i64)) tv rfl rfl rfl rfl Q1x h5 rfl (Rn.movTO tv rfl (Rn.nil (toN ?_)))
 refine Tr.cutB (fun (out33 : List Int)=>⟨look [(3,.ptr (Γ.n0 + 3) 0),(7,(o_ out33))],Qm Γ.n0 (bxs [(3,.cells ((Qd a1))),(11,.cells ([]))]) M,Γ.n0 + 61⟩) h (fun z h=>?_) (fun z h=>?_)
 ·refine sr ((md rfl (nt ((Tr.block ?_)))))
  refine Tr.loop (mk:=fun ((out6,i7) : (List Int) × Int)=>⟨look [(2,(l_ events3)),(3,.ptr (Γ.n0 + 3) 0),(7,(o_ out6)),(8,(i_ i7))],Qm Γ.n0 (bxs [(3,.cells ((Qd a1))),(11,.cells ([]))]) M,Γ.n0 + 61⟩) h (by exact Qh ⟨(sm rfl),(kPtr rfl),(sm rfl),(sm rfl),tv⟩ ⟨⟨_,rfl,rfl,(.same rfl)⟩,⟨_,rfl,rfl,(.same rfl)⟩,tv⟩ rfl) (fun k8 z h=>?_)
  ·obtain ⟨out6,i7⟩:=z
   replace h : _ = some _:=h
   refine Tr.seq (sr ((md rfl (Rn.mov (v:=(l_ out6)) tv rfl (Rn.lenD tv rfl (Rn.bin tv rfl rfl rfl (Rn.nil (toN ?_))))))))
   refine Tr.cond rfl (fun hb9=>?_) (fun hb9=>?_)
   ·replace h:=ifT hb9 h
    refine Tr.skip (toN ?_)
    refine Tr.cutB (fun (out32 : List Int)=>⟨look [(2,(l_ events3)),(3,.ptr (Γ.n0 + 3) 0),(7,(o_ out32)),(8,(i_ i7))],Qm Γ.n0 (bxs [(3,.cells ((Qd a1))),(11,.cells ([]))]) M,Γ.n0 + 61⟩) h (fun z h=>?_) (fun z h=>?_)
    ·refine Tr.block (sr ((md rfl (nt ((Tr.block ?_))))))
     refine Tr.loop (mk:=fun ((out10,k11) : (List Int) × Int)=>⟨look [(2,(l_ events3)),(3,.ptr (Γ.n0 + 3) 0),(7,(o_ out10)),(8,(i_ i7)),(9,(i_ k11))],Qm Γ.n0 (bxs [(3,.cells ((Qd a1))),(11,.cells ([]))]) M,Γ.n0 + 61⟩) h (by exact Qh ⟨(sm rfl),(kPtr rfl),(sm rfl),(sm rfl),(sm rfl),tv⟩ ⟨⟨_,rfl,rfl,(.same rfl)⟩,⟨_,rfl,rfl,(.same rfl)⟩,tv⟩ rfl) (fun k12 z h=>?_)
     ·obtain ⟨out10,k11⟩:=z
      replace h : _ = some _:=h
      refine Tr.seq (sr ((md rfl (Rn.fldP (o':=3) tv rfl rfl (Rn.load (v:=.d (.lst 3 (List.map Qc a1.Edges))) tv rfl (Qj rfl) rfl rfl (Rn.lenD tv rfl (Rn.bin tv rfl rfl rfl (Rn.nil (toN ?_)))))))))
      refine Tr.cond rfl (fun hb13=>?_) (fun hb13=>?_)
      ·replace h:=ifT hb13 h
       refine Tr.skip (toN ?_)
       refine Tr.cutB (fun ((out28,c29,c30,c31) : (List Int) × Int × Int × Int)=>⟨look [(2,(l_ events3)),(3,.ptr (Γ.n0 + 3) 0),(7,(o_ out28)),(8,(i_ i7)),(9,(i_ k11))],Qm Γ.n0 (bxs [(3,.cells ((Qd a1))),(10,.cells ([(i_ c29),(i_ c30),(i_ c31)])),(11,.cells ([]))]) M,Γ.n0 + 61⟩) h (fun z h=>?_) (fun z h=>?_)
       ·refine Tr.block (sr ((Rn.fldP (o':=3) tv rfl rfl (Rn.load (v:=.d (.lst 3 (List.map Qc a1.Edges))) tv rfl (Qj rfl) rfl rfl (md rfl ?_)))))
        obtain ⟨x14,h15,h⟩:=bnd h
        refine Rn.idxD (e:=Qc) tv rfl rfl h15 (Rn.loadCA (vs:=(Qbi x14)) tv rfl rfl rfl (Rn.alloc tv rfl (Rn.store (v:=(Qb4 x14)) (cs':=(Qbi x14)) tv rfl rfl rfl rfl rfl rfl (Rn.nil (toN ?_)))))
        refine Tr.cutB (fun (x24 : Bool)=>⟨look [(2,(l_ events3)),(3,.ptr (Γ.n0 + 3) 0),(7,(o_ out10)),(8,(i_ i7)),(9,(i_ k11)),(10,.ptr (Γ.n0 + 10) 0),(51,(b_ x24))],Qm Γ.n0 (bxs [(3,.cells ((Qd a1))),(10,.cells ((Qbi x14))),(11,.cells ([]))]) M,Γ.n0 + 61⟩) h (fun z h=>?_) (fun z h=>?_)
        ·refine Tr.rgnD (by decide) ?_
         refine Rn.fldP (o':=0) tv rfl rfl (Rn.load (v:=(i_ x14.From)) tv rfl (Qj rfl) rfl rfl (Rn.mov (v:=(l_ out10)) tv rfl (md rfl ?_)))
         obtain ⟨x16,h17,h⟩:=bnd h
         refine Rn.idxD (e:=(eI .i64)) tv rfl rfl h17 (Rn.loadC (x:=.int .i64 x16) tv rfl (Rn.bin tv rfl rfl rfl (md rfl ?_)))
         refine Qc2 (x14.From == x16) (fun hb18=>?_) (fun hb18=>?_)
         ·replace h:=bT hb18 h
          refine Rn.movD (gw rfl hb18) rfl (Rn.fldP (o':=1) (gw rfl hb18) rfl rfl (Rn.load (v:=(i_ x14.Event)) (gw rfl hb18) rfl (Qj rfl) rfl rfl ?_))
          obtain ⟨x20,h19,h⟩:=bnd h
          refine Rn.call (args:=[(l_ events3),(i_ x14.Event)]) (gw rfl hb18) rfl (H_overseerref07_has _ _ _ h19) pc0 (Rn.pickT (v:=(b_ x20)) tv rfl hb18 rfl (md rfl ?_))
          refine Qc2 x20 (fun hb21=>?_) (fun hb21=>?_)
          ·replace h:=bT hb21 h
           refine Rn.mov (v:=(l_ out10)) (gw rfl hb21) rfl (Rn.fldP (o':=2) (gw rfl hb21) rfl rfl (Rn.load (v:=(i_ x14.To)) (gw rfl hb21) rfl (Qj rfl) rfl rfl ?_))
           obtain ⟨x23,h22,h⟩:=bnd h
           refine Rn.call (args:=[(l_ out10),(i_ x14.To)]) (gw rfl hb21) rfl (H_overseerref07_has _ _ _ h22) pc0 (Rn.un (gw rfl hb21) rfl rfl (Rn.pickT (v:=(b_ (!x23))) tv rfl hb21 rfl ?_))
           refine Rn.nil ⟨rfl,?_⟩
           replace h:=si h; subst h
           exact Qg [] ⟨(sm rfl),(kPtr rfl),(sm rfl),(sm rfl),(sm rfl),(kPtr rfl),(sm rfl),tv⟩ ⟨⟨_,rfl,rfl,(.same rfl)⟩,⟨_,rfl,rfl,(.same rfl)⟩,⟨_,rfl,rfl,(.same rfl)⟩,tv⟩ rfl
          ·replace h:=bF hb21 h
           refine Rn.sk (nw rfl hb21) (Rn.sk (nw rfl hb21) (Rn.sk (nw rfl hb21) (Rn.sk (nw rfl hb21) (Rn.sk (nw rfl hb21) (Rn.pickF (v:=(b_ false)) tv rfl hb21 rfl ?_)))))
           refine Rn.nil ⟨rfl,?_⟩
           replace h:=si h; subst h
           exact Qg [] ⟨(sm rfl),(kPtr rfl),(sm rfl),(sm rfl),(sm rfl),(kPtr rfl),(sm rfl),tv⟩ ⟨⟨_,rfl,rfl,(.same rfl)⟩,⟨_,rfl,rfl,(.same rfl)⟩,⟨_,rfl,rfl,(.same rfl)⟩,tv⟩ rfl
         ·replace h:=bF hb18 h
          refine Rn.sk (nw rfl hb18) (Rn.sk (nw rfl hb18) (Rn.sk (nw rfl hb18) (Rn.sk (nw rfl hb18) (Rn.pickF (v:=(b_ false)) tv rfl hb18 rfl (md rfl (Rn.sk (nw (b:=false) rfl rfl) (Rn.sk (nw (b:=false) rfl rfl) (Rn.sk (nw (b:=false) rfl rfl) (Rn.sk (nw (b:=false) rfl rfl) (Rn.sk (nw (b:=false) rfl rfl) (Rn.pickF (v:=(b_ false)) tv rfl rfl rfl ?_)))))))))))
          refine Rn.nil ⟨rfl,?_⟩
          replace h:=si h; subst h
          exact Qg [] ⟨(sm rfl),(kPtr rfl),(sm rfl),(sm rfl),(sm rfl),(kPtr rfl),(sm rfl),tv⟩ ⟨⟨_,rfl,rfl,(.same rfl)⟩,⟨_,rfl,rfl,(.same rfl)⟩,⟨_,rfl,rfl,(.same rfl)⟩,tv⟩ rfl
        ·obtain ⟨x24,rfl⟩ : ∃ x,x = z:=⟨_,rfl⟩
         refine Tr.cond rfl (fun hb25=>?_) (fun hb25=>?_)
         ·replace h:=bT hb25 h
          refine Tr.rgn (Rn.movTO tv rfl (Rn.fldP (o':=2) tv rfl rfl (Rn.load (v:=(i_ x14.To)) tv rfl (Qj rfl) rfl rfl (Rn.bslice (xs:=[(i_ x14.To)]) (cs:=[(i_ x14.To)]) tv rfl rfl rfl rfl ?_))))
          obtain ⟨x26,h27,h⟩:=bnd h
          refine Rn.app (e:=(eI .i64)) tv rfl rfl rfl (Qb3 rfl rfl rfl) h27 rfl (Rn.movTO tv rfl (Rn.nil ?_))
          replace h:=si h; subst h
          exact Qg [55] ⟨(sm rfl),(kPtr rfl),(sm rfl),(sm rfl),(sm rfl),tv⟩ ⟨⟨_,rfl,rfl,(.same rfl)⟩,⟨_,rfl,rfl,(.same rfl)⟩,⟨_,rfl,rfl,(.same rfl)⟩,tv⟩ rfl
         ·replace h:=bF hb25 h
          refine Tr.skip ?_
          replace h:=si h; subst h
          exact Qg [] ⟨(sm rfl),(kPtr rfl),(sm rfl),(sm rfl),(sm rfl),tv⟩ ⟨⟨_,rfl,rfl,(.same rfl)⟩,⟨_,rfl,rfl,(.same rfl)⟩,⟨_,rfl,rfl,(.same rfl)⟩,tv⟩ rfl
       ·obtain ⟨out28,c29,c30,c31⟩:=z
        refine Tr.rgn (md rfl (Rn.bin tv rfl rfl rfl (md rfl (Rn.nil ?_))))
        exact ⟨_,h,(by exact Qh ⟨(sm rfl),(kPtr rfl),(sm rfl),(sm rfl),(sm rfl),tv⟩ ⟨⟨_,rfl,rfl,(.same rfl)⟩,⟨_,rfl,rfl,(.same rfl)⟩,tv⟩ rfl)⟩
      ·replace h:=ifF hb13 h
       refine Tr.exit ?_
       replace h:=si h; subst h
       exact Qg [] ⟨(sm rfl),(kPtr rfl),(sm rfl),(sm rfl),tv⟩ ⟨⟨_,rfl,rfl,(.same rfl)⟩,⟨_,rfl,rfl,(.same rfl)⟩,tv⟩ rfl
    ·obtain ⟨out32,rfl⟩ : ∃ x,x = z:=⟨_,rfl⟩
     refine Tr.rgn (md rfl (Rn.bin tv rfl rfl rfl (md rfl (Rn.nil ?_))))
     exact ⟨_,h,(by exact Qh ⟨(sm rfl),(kPtr rfl),(sm rfl),(sm rfl),tv⟩ ⟨⟨_,rfl,rfl,(.same rfl)⟩,⟨_,rfl,rfl,(.same rfl)⟩,tv⟩ rfl)⟩
   ·replace h:=ifF hb9 h
    refine Tr.exit ?_
    replace h:=si h; subst h
    exact Qg [] ⟨(kPtr rfl),(sm rfl),tv⟩ ⟨⟨_,rfl,rfl,(.same rfl)⟩,⟨_,rfl,rfl,(.same rfl)⟩,tv⟩ rfl
 ·obtain ⟨out33,rfl⟩ : ∃ x,x = z:=⟨_,rfl⟩
  refine sr ((Rn.mov (v:=(l_ out33)) tv rfl (Rn.fldP (o':=1) tv rfl rfl (Rn.load (v:=(i_ a1.States)) tv rfl (Qj rfl) rfl rfl ?_))))
  obtain ⟨x35,h34,h⟩:=bnd h
  refine Rn.call (args:=[(l_ out33),(i_ a1.States)]) tv rfl (H_overseerref07_sorted _ _ _ h34) pc9 (Rn.movTO tv rfl (nt ((Tr.ret ?_))))
  replace h:=si h; subst h
  exact ⟨.inr rfl,(o_ x35),rfl,fun _ _ _ _ h=>h,tv,fun k hk=>Qf hk⟩
theorem Qt7 {P : Program} {c : Nat} {Qba : Qa → (List Int) → (List Int) → Option ((List Int))} {Q5 : Qa → (List Int) → Option ((List Int))}
    (H_overseerref07_Reach : Qfn P 20 Qba)
    (H_overseerref07_Erased : Qfa P 53 Q5) (hcf : Qs P c = some Qh3) : Qh2 P c (Qca Qba Q5):=by
 intro a1 onto2 r h
 refine Qcj hcf rfl fun Γ M hP hnt hM=>?_
 subst hP
 refine Tr.init [(0,(Qb a1)),(1,(l_ onto2))] rfl ?_
 unfold Qca at h
 unfold Qh3
 refine sr ((Rn.box (v:=(Qb a1)) (cs:=(Qd a1)) tv rfl rfl rfl rfl rfl (Rn.movTC (v:=.nils 1) tv (nt ((Tr.seq (sr ((Rn.fldP (o':=1) tv rfl rfl (Rn.load (v:=(i_ a1.States)) tv rfl (Qj rfl) rfl rfl (Rn.bin tv rfl rfl rfl (Rn.nil (toN ?_)))))))))))))
 refine Tr.cond rfl (fun hb3=>?_) (fun hb3=>?_)
 ·replace h:=bT hb3 h
  refine sr ((Rn.movTC (v:=.nils 1) tv (nt ((Tr.ret ?_)))))
  replace h:=si h; subst h
  exact ⟨.inr rfl,(.nils 1),rfl,(WkV.nilsO _).rd,tv,fun k hk=>Qf hk⟩
 ·replace h:=bF hb3 h
  refine Tr.skip (toN (Tr.seq ?_))
  refine Tr.rgnD (by decide) ?_
  refine Rn.load (v:=(Qb a1)) tv rfl (Qj rfl) rfl rfl (Rn.lit (e:=(eI .i64)) (xs:=[0]) tv rfl rfl (Rn.load (v:=(Qb a1)) tv rfl (Qj rfl) rfl rfl (md rfl ?_)))
  obtain ⟨x5,h4,h⟩:=bnd h
  refine Rn.call (args:=[(Qb a1),(l_ onto2)]) tv rfl (H_overseerref07_Erased _ _ _ h4) (fun _=>Q1y hM rfl) ?_
  obtain ⟨x7,h6,h⟩:=bnd h
  refine Rn.call (args:=[(Qb a1),(l_ [0]),(l_ x5)]) tv rfl (H_overseerref07_Reach _ _ _ _ h6) (fun _=>Q1y hM rfl) (Rn.movTO tv rfl ?_)
  refine Rn.nil ⟨rfl,?_⟩
  refine toN (Tr.ret ?_)
  replace h:=si h; subst h
  exact ⟨.inr rfl,(o_ x7),rfl,fun _ _ _ _ h=>h,tv,fun k hk=>Qf hk⟩
theorem Qx3 {P : Program} {c : Nat} {Qba : Qa → (List Int) → (List Int) → Option ((List Int))} {Qq : (List Int) → Int → Option Bool} {Q5 : Qa → (List Int) → Option ((List Int))}
    (H_overseerref07_Reach : Qfn P 20 Qba)
    (H_overseerref07_has : Qc5 P 45 Qq)
    (H_overseerref07_Erased : Qfa P 53 Q5) (hcf : Qs P c = some Qix) (fuel : Nat) : Qiw P c (Qcf Qba Qq Q5 fuel):=by
 intro a1 onto2 estimate3 event4 r h
 refine Qcj hcf rfl fun Γ M hP hnt hM=>?_
 subst hP
 refine Tr.init [(0,(Qb a1)),(1,(l_ onto2)),(2,(l_ estimate3)),(3,(i_ event4))] rfl ?_
 unfold Qcf at h
 unfold Qix
 refine sr ((Rn.box (v:=(Qb a1)) (cs:=(Qd a1)) tv rfl rfl rfl rfl rfl (Rn.movTC (v:=.nils 1) tv (nt ((sr ((Rn.movTC (v:=.nils 1) tv (Rn.nil (toN ?_))))))))))
 refine Tr.cutB (fun (moved23 : List Int)=>⟨look [(1,(l_ onto2)),(4,.ptr (Γ.n0 + 4) 0),(9,(o_ moved23))],Qm Γ.n0 (bxs [(4,.cells ((Qd a1)))]) M,Γ.n0 + 51⟩) h (fun z h=>?_) (fun z h=>?_)
 ·refine sr ((md rfl (nt ((Tr.block ?_)))))
  refine Tr.loop (mk:=fun ((moved5,i6) : (List Int) × Int)=>⟨look [(1,(l_ onto2)),(2,(l_ estimate3)),(3,(i_ event4)),(4,.ptr (Γ.n0 + 4) 0),(9,(o_ moved5)),(10,(i_ i6))],Qm Γ.n0 (bxs [(4,.cells ((Qd a1)))]) M,Γ.n0 + 51⟩) h (by exact Qh ⟨(sm rfl),(sm rfl),(sm rfl),(kPtr rfl),(WkV.nilsO _),(sm rfl),tv⟩ ⟨⟨_,rfl,rfl,(.same rfl)⟩,tv⟩ rfl) (fun k7 z h=>?_)
  ·obtain ⟨moved5,i6⟩:=z
   replace h : _ = some _:=h
   refine Tr.seq (sr ((md rfl (Rn.fldP (o':=3) tv rfl rfl (Rn.load (v:=.d (.lst 3 (List.map Qc a1.Edges))) tv rfl (Qj rfl) rfl rfl (Rn.lenD tv rfl (Rn.bin tv rfl rfl rfl (Rn.nil (toN ?_)))))))))
   refine Tr.cond rfl (fun hb8=>?_) (fun hb8=>?_)
   ·replace h:=ifT hb8 h
    refine Tr.skip (toN ?_)
    refine Tr.cutB (fun (moved22 : List Int)=>⟨look [(1,(l_ onto2)),(2,(l_ estimate3)),(3,(i_ event4)),(4,.ptr (Γ.n0 + 4) 0),(9,(o_ moved22)),(10,(i_ i6))],Qm Γ.n0 (bxs [(4,.cells ((Qd a1)))]) M,Γ.n0 + 51⟩) h (fun z h=>?_) (fun z h=>?_)
    ·refine Tr.block ?_
     refine Tr.cutB (fun (x16 : Bool)=>⟨look [(1,(l_ onto2)),(2,(l_ estimate3)),(3,(i_ event4)),(4,.ptr (Γ.n0 + 4) 0),(9,(o_ moved5)),(10,(i_ i6)),(35,(b_ x16))],Qm Γ.n0 (bxs [(4,.cells ((Qd a1)))]) M,Γ.n0 + 51⟩) h (fun z h=>?_) (fun z h=>?_)
     ·refine Tr.rgn (Rn.fldP (o':=3) tv rfl rfl (Rn.load (v:=.d (.lst 3 (List.map Qc a1.Edges))) tv rfl (Qj rfl) rfl rfl (md rfl ?_)))
      obtain ⟨x9,h10,h⟩:=bnd h
      refine Rn.idxD (e:=Qc) tv rfl rfl h10 (Rn.fldC tv rfl (Rn.loadC (x:=.int .i64 x9.Event) tv rfl (md rfl (Rn.bin tv rfl rfl rfl (md rfl ?_)))))
      refine Qc2 (x9.Event == event4) (fun hb11=>?_) (fun hb11=>?_)
      ·replace h:=bT hb11 h
       refine Rn.movD (gw rfl hb11) rfl (Rn.fldP (o':=3) (gw rfl hb11) rfl rfl (Rn.load (v:=.d (.lst 3 (List.map Qc a1.Edges))) (gw rfl hb11) rfl (Qj rfl) rfl rfl (Rn.movD (gw rfl hb11) rfl ?_)))
       obtain ⟨x12,h13,h⟩:=bnd h
       refine Rn.idxD (e:=Qc) (gw rfl hb11) rfl rfl h13 (Rn.fldC (gw rfl hb11) rfl (Rn.loadC (x:=.int .i64 x12.From) (gw rfl hb11) rfl ?_))
       obtain ⟨x15,h14,h⟩:=bnd h
       refine Rn.call (args:=[(l_ estimate3),(i_ x12.From)]) (gw rfl hb11) rfl (H_overseerref07_has _ _ _ h14) pc9 (Rn.pickT (v:=(b_ x15)) tv rfl hb11 rfl (Rn.nil ?_))
       replace h:=si h; subst h
       exact Qg [] ⟨(sm rfl),(sm rfl),(sm rfl),(kPtr rfl),(sm rfl),(sm rfl),(sm rfl),tv⟩ ⟨⟨_,rfl,rfl,(.same rfl)⟩,tv⟩ rfl
      ·replace h:=bF hb11 h
       refine Rn.sk (nw rfl hb11) (Rn.sk (nw rfl hb11) (Rn.sk (nw rfl hb11) (Rn.sk (nw rfl hb11) (Rn.sk (nw rfl hb11) (Rn.sk (nw rfl hb11) (Rn.sk (nw rfl hb11) (Rn.sk (nw rfl hb11) (Rn.pickF (v:=(b_ false)) tv rfl hb11 rfl (Rn.nil ?_)))))))))
       replace h:=si h; subst h
       exact Qg [] ⟨(sm rfl),(sm rfl),(sm rfl),(kPtr rfl),(sm rfl),(sm rfl),(sm rfl),tv⟩ ⟨⟨_,rfl,rfl,(.same rfl)⟩,tv⟩ rfl
     ·obtain ⟨x16,rfl⟩ : ∃ x,x = z:=⟨_,rfl⟩
      refine Tr.cond rfl (fun hb17=>?_) (fun hb17=>?_)
      ·replace h:=bT hb17 h
       refine Tr.rgn (Rn.movTO tv rfl (Rn.fldP (o':=3) tv rfl rfl (Rn.load (v:=.d (.lst 3 (List.map Qc a1.Edges))) tv rfl (Qj rfl) rfl rfl (md rfl ?_))))
       obtain ⟨x18,h19,h⟩:=bnd h
       refine Rn.idxD (e:=Qc) tv rfl rfl h19 (Rn.fldC tv rfl (Rn.loadC (x:=.int .i64 x18.To) tv rfl (Rn.bslice (xs:=[(i_ x18.To)]) (cs:=[(i_ x18.To)]) tv rfl rfl rfl rfl ?_)))
       obtain ⟨x20,h21,h⟩:=bnd h
       refine Rn.app (e:=(eI .i64)) tv rfl rfl rfl (Qb3 rfl rfl rfl) h21 rfl (Rn.movTO tv rfl (Rn.nil ?_))
       replace h:=si h; subst h
       exact Qg [43] ⟨(sm rfl),(sm rfl),(sm rfl),(kPtr rfl),(sm rfl),(sm rfl),tv⟩ ⟨⟨_,rfl,rfl,(.same rfl)⟩,tv⟩ rfl
      ·replace h:=bF hb17 h
       refine Tr.skip ?_
       replace h:=si h; subst h
       exact Qg [] ⟨(sm rfl),(sm rfl),(sm rfl),(kPtr rfl),(sm rfl),(sm rfl),tv⟩ ⟨⟨_,rfl,rfl,(.same rfl)⟩,tv⟩ rfl
    ·obtain ⟨moved22,rfl⟩ : ∃ x,x = z:=⟨_,rfl⟩
     refine Tr.rgn (md rfl (Rn.bin tv rfl rfl rfl (md rfl (Rn.nil ?_))))
     exact ⟨_,h,(by exact Qh ⟨(sm rfl),(sm rfl),(sm rfl),(kPtr rfl),(sm rfl),(sm rfl),tv⟩ ⟨⟨_,rfl,rfl,(.same rfl)⟩,tv⟩ rfl)⟩
   ·replace h:=ifF hb8 h
    refine Tr.exit ?_
    replace h:=si h; subst h
    exact Qg [] ⟨(sm rfl),(kPtr rfl),(sm rfl),tv⟩ ⟨⟨_,rfl,rfl,(.same rfl)⟩,tv⟩ rfl
 ·obtain ⟨moved23,rfl⟩ : ∃ x,x = z:=⟨_,rfl⟩
  refine Tr.seq ?_
  refine Tr.rgnD (by decide) ?_
  refine Rn.load (v:=(Qb a1)) tv rfl (Qj rfl) rfl rfl (Rn.mov (v:=(l_ moved23)) tv rfl (Rn.load (v:=(Qb a1)) tv rfl (Qj rfl) rfl rfl (md rfl ?_)))
  obtain ⟨x25,h24,h⟩:=bnd h
  refine Rn.call (args:=[(Qb a1),(l_ onto2)]) tv rfl (H_overseerref07_Erased _ _ _ h24) (fun _=>Q1y hM rfl) ?_
  obtain ⟨x27,h26,h⟩:=bnd h
  refine Rn.call (args:=[(Qb a1),(l_ moved23),(l_ x25)]) tv rfl (H_overseerref07_Reach _ _ _ _ h26) (fun _=>Q1y hM rfl) (Rn.movTO tv rfl ?_)
  refine Rn.nil ⟨rfl,?_⟩
  refine toN (Tr.ret ?_)
  replace h:=si h; subst h
  exact ⟨.inr rfl,(o_ x27),rfl,fun _ _ _ _ h=>h,tv,fun k hk=>Qf hk⟩
theorem Qqu {P : Program} {c : Nat} {Qr : (List Int) → (List Int) → Option Bool} {Qce : Qa → (List Int) → Option ((List Int))} {Qcf : Qa → (List Int) → (List Int) → Int → Option ((List Int))} {Qt : (List Int) → Option Qa} {Qca : Qa → (List Int) → Option ((List Int))} {Qq : (List Int) → Int → Option Bool}
    (H_overseerref03_SameInts : Qc1 P 19 Qr)
    (H_overseerref07_Kept : Qiu P 23 Qce)
    (H_overseerref07_Next : Qiw P 24 Qcf)
    (H_overseerref03_Empty : Qej P 36 Qt)
    (H_overseerref07_Begin : Qh2 P 44 Qca)
    (H_overseerref07_has : Qc5 P 45 Qq) (hcf : Qs P c = some Qgs) (fuel : Nat) : Qgr P c (Qbr Qr Qce Qcf Qt Qca Qq fuel):=by
 intro a1 onto2 r h
 refine Qcj hcf rfl fun Γ M hP hnt hM=>?_
 subst hP
 refine Tr.init [(0,(Qb a1)),(1,(l_ onto2))] rfl ?_
 unfold Qbr at h
 unfold Qgs
 refine sr ((Rn.box (v:=(Qb a1)) (cs:=(Qd a1)) tv rfl rfl rfl rfl rfl (Rn.alloc tv rfl (Rn.movTC (v:=.nils 1) tv (nt ((sr ((Rn.load (v:=(Qb a1)) tv rfl (Qj rfl) rfl rfl (md rfl ?_))))))))))
 obtain ⟨x4,h3,h⟩:=bnd h
 refine Rn.call (args:=[(Qb a1),(l_ onto2)]) tv rfl (H_overseerref07_Kept _ _ _ h3) pc9 ?_
 obtain ⟨x6,h5,h⟩:=bnd h
 refine Rn.call (args:=[(l_ x4)]) tv rfl (H_overseerref03_Empty _ _ h5) pc9 (Rn.alloc tv rfl (Rn.storeT (v:=.agg [(l_ x6.Alphabet),(i_ x6.States),.nils 1,.nils 3]) (ds:=[(l_ x6.Alphabet),(i_ x6.States),.nils 1,.nils 3]) (cs':=[(l_ x6.Alphabet),(i_ x6.States),.nils 1,.nils 3]) tv rfl rfl rfl rfl rfl rfl rfl (nt ((sr ((Rn.movTC (v:=.nils 1) tv (Rn.nil (toN ?_)))))))))
 refine Tr.cutB (fun (all12 : List (List Int))=>⟨look [(1,(l_ onto2)),(2,.ptr (Γ.n0 + 2) 0),(4,.ptr (Γ.n0 + 4) 0),(6,.ptr (Γ.n0 + 6) 0),(7,.own 1 (List.map (eL 1 (eI .i64)) all12))],Qm Γ.n0 (bxs [(2,.cells ((Qd a1))),(4,.cells ([.nils 1,(i_ 0),.nils 1,.nils 3])),(6,.cells ([(l_ x6.Alphabet),(i_ x6.States),.nils 1,.nils 3]))]) M,Γ.n0 + 125⟩) h (fun z h=>?_) (fun z h=>?_)
 ·refine sr ((Rn.fldP (o':=1) tv rfl rfl (Rn.load (v:=(i_ a1.States)) tv rfl (Qj rfl) rfl rfl (Rn.bin tv rfl rfl rfl (Rn.nil (toN ?_))))))
  refine Tr.cond rfl (fun hb7=>?_) (fun hb7=>?_)
  ·replace h:=ifT hb7 h
   refine Tr.rgn (Rn.movTF (v:=.nils 1) tv rfl rfl (Rn.load (v:=(Qb a1)) tv rfl (Qj rfl) rfl rfl (md rfl ?_)))
   obtain ⟨x9,h8,h⟩:=bnd h
   refine Rn.call (args:=[(Qb a1),(l_ onto2)]) tv rfl (H_overseerref07_Begin _ _ _ h8) pc9 (Rn.bslice (xs:=[(l_ x9)]) (cs:=[(l_ x9)]) tv rfl rfl rfl rfl ?_)
   refine Rn.weak (by show WeakSt Γ _ ⟨look [(0,(Qb a1)),(1,(l_ onto2)),(2,.ptr (Γ.n0 + 2) 0),(4,.ptr (Γ.n0 + 4) 0),(5,.nils 1),(6,.ptr (Γ.n0 + 6) 0),(7,.nils 1),(13,(Qb a1)),(14,(l_ onto2)),(15,(o_ x4)),(16,.agg [(l_ x6.Alphabet),(i_ x6.States),.nils 1,.nils 3]),(17,.ptr (Γ.n0 + 2) 1),(18,(i_ a1.States)),(19,(b_ (decide (a1.States > 0)))),(20,.own 1 (List.map (eL 1 (eI .i64)) [])),(21,(Qb a1)),(22,(l_ onto2)),(23,(o_ x9)),(24,.sl 1 (Γ.n0 + 24) 0 1 1)],Qm Γ.n0 (bxs [(2,.cells ((Qd a1))),(4,.cells ([.nils 1,(i_ 0),.nils 1,.nils 3])),(6,.cells ([(l_ x6.Alphabet),(i_ x6.States),.nils 1,.nils 3])),(24,.cells ([(l_ x9)]))]) M,Γ.n0 + 125⟩; exact Qg [] ⟨(sm rfl),(sm rfl),(kPtr rfl),(kPtr rfl),(sm rfl),(kPtr rfl),(sm rfl),(sm rfl),(sm rfl),(sm rfl),(sm rfl),(kPtr rfl),(sm rfl),(sm rfl),(WkV.nilsO _),(sm rfl),(sm rfl),(sm rfl),(kSl rfl),tv⟩ ⟨⟨_,rfl,rfl,(.same rfl)⟩,⟨_,rfl,rfl,(.same rfl)⟩,⟨_,rfl,rfl,(.same rfl)⟩,⟨_,rfl,rfl,(.same rfl)⟩,tv⟩ rfl) ?_
   obtain ⟨x10,h11,h⟩:=bnd h
   refine Rn.app (e:=(eL 1 (eI .i64))) tv rfl rfl rfl (Qb3 rfl rfl rfl) h11 rfl (Rn.movTO tv rfl (Rn.nil ?_))
   replace h:=si h; subst h
   exact Qg [24] ⟨(sm rfl),(kPtr rfl),(kPtr rfl),(kPtr rfl),(sm rfl),tv⟩ ⟨⟨_,rfl,rfl,(.same rfl)⟩,⟨_,rfl,rfl,(.same rfl)⟩,⟨_,rfl,rfl,(.same rfl)⟩,tv⟩ rfl
  ·replace h:=ifF hb7 h
   refine Tr.skip ?_
   replace h:=si h; subst h
   exact Qg [] ⟨(sm rfl),(kPtr rfl),(kPtr rfl),(kPtr rfl),(WkV.nilsO _),tv⟩ ⟨⟨_,rfl,rfl,(.same rfl)⟩,⟨_,rfl,rfl,(.same rfl)⟩,⟨_,rfl,rfl,(.same rfl)⟩,tv⟩ rfl
 ·obtain ⟨all12,rfl⟩ : ∃ x,x = z:=⟨_,rfl⟩
  refine Tr.cutB (fun ((all76,c77,c78,c79,out80,out81) : (List (List Int)) × (List Int) × (List Int) × (List Qe) × (List Int) × (List Qe))=>⟨look [(4,.ptr (Γ.n0 + 4) 0),(6,.ptr (Γ.n0 + 6) 0),(7,.own 1 (List.map (eL 1 (eI .i64)) all76))],Qm Γ.n0 (bxs [(2,.cells ((Qd a1))),(4,.cells ([(o_ c77),(i_ 0),(o_ c78),.own 3 (List.map Qc c79)])),(6,.cells ([(l_ x6.Alphabet),(i_ x6.States),(o_ out80),.own 3 (List.map Qc out81)]))]) M,Γ.n0 + 125⟩) h (fun z h=>?_) (fun z h=>?_)
  ·refine sr ((md rfl (nt ((Tr.block ?_)))))
   refine Tr.loop (mk:=fun ((all13,i14,c15,c16,c17,out18,out19) : (List (List Int)) × Int × (List Int) × (List Int) × (List Qe) × (List Int) × (List Qe))=>⟨look [(1,(l_ onto2)),(2,.ptr (Γ.n0 + 2) 0),(4,.ptr (Γ.n0 + 4) 0),(6,.ptr (Γ.n0 + 6) 0),(7,.own 1 (List.map (eL 1 (eI .i64)) all13)),(8,(i_ i14))],Qm Γ.n0 (bxs [(2,.cells ((Qd a1))),(4,.cells ([(o_ c15),(i_ 0),(o_ c16),.own 3 (List.map Qc c17)])),(6,.cells ([(l_ x6.Alphabet),(i_ x6.States),(o_ out18),.own 3 (List.map Qc out19)]))]) M,Γ.n0 + 125⟩) h (by exact Qh ⟨(sm rfl),(kPtr rfl),(kPtr rfl),(kPtr rfl),(sm rfl),(sm rfl),tv⟩ ⟨⟨_,rfl,rfl,(.same rfl)⟩,⟨_,rfl,rfl,(.cons (WkV.nilsO _) (.cons (sm rfl) (.cons (WkV.nilsO _) (.cons (WkV.nilsO _) .nil))))⟩,⟨_,rfl,rfl,(.cons (sm rfl) (.cons (sm rfl) (.cons (WkV.nilsO _) (.cons (WkV.nilsO _) .nil))))⟩,tv⟩ rfl) (fun k20 z h=>?_)
   ·obtain ⟨all13,i14,c15,c16,c17,out18,out19⟩:=z
    replace h : _ = some _:=h
    refine Tr.seq (sr ((md rfl (Rn.mov (v:=.d (.lst 1 (List.map (eL 1 (eI .i64)) all13))) tv rfl (Rn.lenD tv rfl (Rn.bin tv rfl rfl rfl (Rn.nil (toN ?_))))))))
    refine Tr.cond rfl (fun hb21=>?_) (fun hb21=>?_)
    ·replace h:=ifT hb21 h
     refine Tr.skip (toN ?_)
     refine Tr.cutB (fun ((all73,out74,out75) : (List (List Int)) × (List Int) × (List Qe))=>⟨look [(1,(l_ onto2)),(2,.ptr (Γ.n0 + 2) 0),(4,.ptr (Γ.n0 + 4) 0),(6,.ptr (Γ.n0 + 6) 0),(7,.own 1 (List.map (eL 1 (eI .i64)) all73)),(8,(i_ i14))],Qm Γ.n0 (bxs [(2,.cells ((Qd a1))),(4,.cells ([(o_ c15),(i_ 0),(o_ c16),.own 3 (List.map Qc c17)])),(6,.cells ([(l_ x6.Alphabet),(i_ x6.States),(o_ out74),.own 3 (List.map Qc out75)]))]) M,Γ.n0 + 125⟩) h (fun z h=>?_) (fun z h=>?_)
     ·refine Tr.block ?_
      refine Tr.cutB (fun (out40 : List Int)=>⟨look [(1,(l_ onto2)),(2,.ptr (Γ.n0 + 2) 0),(4,.ptr (Γ.n0 + 4) 0),(6,.ptr (Γ.n0 + 6) 0),(7,.own 1 (List.map (eL 1 (eI .i64)) all13)),(8,(i_ i14))],Qm Γ.n0 (bxs [(2,.cells ((Qd a1))),(4,.cells ([(o_ c15),(i_ 0),(o_ c16),.own 3 (List.map Qc c17)])),(6,.cells ([(l_ x6.Alphabet),(i_ x6.States),(o_ out40),.own 3 (List.map Qc out19)]))]) M,Γ.n0 + 125⟩) h (fun z h=>?_) (fun z h=>?_)
      ·refine sr ((md rfl (nt ((Tr.block ?_)))))
       refine Tr.loop (mk:=fun ((k22,out23) : Int × (List Int))=>⟨look [(1,(l_ onto2)),(2,.ptr (Γ.n0 + 2) 0),(4,.ptr (Γ.n0 + 4) 0),(6,.ptr (Γ.n0 + 6) 0),(7,.own 1 (List.map (eL 1 (eI .i64)) all13)),(8,(i_ i14)),(9,(i_ k22))],Qm Γ.n0 (bxs [(2,.cells ((Qd a1))),(4,.cells ([(o_ c15),(i_ 0),(o_ c16),.own 3 (List.map Qc c17)])),(6,.cells ([(l_ x6.Alphabet),(i_ x6.States),(o_ out23),.own 3 (List.map Qc out19)]))]) M,Γ.n0 + 125⟩) h (by exact Qh ⟨(sm rfl),(kPtr rfl),(kPtr rfl),(kPtr rfl),(sm rfl),(sm rfl),(sm rfl),tv⟩ ⟨⟨_,rfl,rfl,(.same rfl)⟩,⟨_,rfl,rfl,(.same rfl)⟩,⟨_,rfl,rfl,(.same rfl)⟩,tv⟩ rfl) (fun k24 z h=>?_)
       ·obtain ⟨k22,out23⟩:=z
        replace h : _ = some _:=h
        refine Tr.seq (sr ((md rfl (Rn.fldP (o':=2) tv rfl rfl (Rn.load (v:=(l_ a1.Marked)) tv rfl (Qj rfl) rfl rfl (Rn.lenD tv rfl (Rn.bin tv rfl rfl rfl (Rn.nil (toN ?_)))))))))
        refine Tr.cond rfl (fun hb25=>?_) (fun hb25=>?_)
        ·replace h:=ifT hb25 h
         refine Tr.skip (toN ?_)
         refine Tr.cutB (fun (out39 : List Int)=>⟨look [(1,(l_ onto2)),(2,.ptr (Γ.n0 + 2) 0),(4,.ptr (Γ.n0 + 4) 0),(6,.ptr (Γ.n0 + 6) 0),(7,.own 1 (List.map (eL 1 (eI .i64)) all13)),(8,(i_ i14)),(9,(i_ k22))],Qm Γ.n0 (bxs [(2,.cells ((Qd a1))),(4,.cells ([(o_ c15),(i_ 0),(o_ c16),.own 3 (List.map Qc c17)])),(6,.cells ([(l_ x6.Alphabet),(i_ x6.States),(o_ out39),.own 3 (List.map Qc out19)]))]) M,Γ.n0 + 125⟩) h (fun z h=>?_) (fun z h=>?_)
         ·refine Tr.block ?_
          refine Tr.cutB (fun (x35 : Bool)=>⟨look [(1,(l_ onto2)),(2,.ptr (Γ.n0 + 2) 0),(4,.ptr (Γ.n0 + 4) 0),(6,.ptr (Γ.n0 + 6) 0),(7,.own 1 (List.map (eL 1 (eI .i64)) all13)),(8,(i_ i14)),(9,(i_ k22)),(55,(b_ x35))],Qm Γ.n0 (bxs [(2,.cells ((Qd a1))),(4,.cells ([(o_ c15),(i_ 0),(o_ c16),.own 3 (List.map Qc c17)])),(6,.cells ([(l_ x6.Alphabet),(i_ x6.States),(o_ out23),.own 3 (List.map Qc out19)]))]) M,Γ.n0 + 125⟩) h (fun z h=>?_) (fun z h=>?_)
          ·refine Tr.rgnD (by decide) ?_
           refine Rn.mov (v:=.d (.lst 1 (List.map (eL 1 (eI .i64)) all13))) tv rfl (md rfl ?_)
           obtain ⟨x26,h27,h⟩:=bnd h
           refine Rn.idxD (e:=(eL 1 (eI .i64))) tv rfl rfl h27 (Rn.loadC (x:=.lst 1 (List.map (eI .i64) x26)) tv rfl (Rn.fldP (o':=2) tv rfl rfl (Rn.load (v:=(l_ a1.Marked)) tv rfl (Qj rfl) rfl rfl (md rfl ?_))))
           obtain ⟨x28,h29,h⟩:=bnd h
           refine Rn.idxD (e:=(eI .i64)) tv rfl rfl h29 (Rn.loadC (x:=.int .i64 x28) tv rfl ?_)
           obtain ⟨x31,h30,h⟩:=bnd h
           refine Rn.call (args:=[(l_ x26),(i_ x28)]) tv rfl (H_overseerref07_has _ _ _ h30) pc0 (md rfl ?_)
           refine Qc2 x31 (fun hb32=>?_) (fun hb32=>?_)
           ·replace h:=bT hb32 h
            refine Rn.fldP (o':=2) (gw rfl hb32) rfl rfl (Rn.load (v:=(l_ out23)) (gw rfl hb32) rfl (Qj rfl) rfl rfl (Rn.movD (gw rfl hb32) rfl ?_))
            obtain ⟨x34,h33,h⟩:=bnd h
            refine Rn.call (args:=[(l_ out23),(i_ i14)]) (gw rfl hb32) rfl (H_overseerref07_has _ _ _ h33) pc0 (Rn.un (gw rfl hb32) rfl rfl (Rn.pickT (v:=(b_ (!x34))) tv rfl hb32 rfl ?_))
            refine Rn.nil ⟨rfl,?_⟩
            replace h:=si h; subst h
            exact Qg [] ⟨(sm rfl),(kPtr rfl),(kPtr rfl),(kPtr rfl),(sm rfl),(sm rfl),(sm rfl),(sm rfl),tv⟩ ⟨⟨_,rfl,rfl,(.same rfl)⟩,⟨_,rfl,rfl,(.same rfl)⟩,⟨_,rfl,rfl,(.same rfl)⟩,tv⟩ rfl
           ·replace h:=bF hb32 h
            refine Rn.sk (nw rfl hb32) (Rn.sk (nw rfl hb32) (Rn.sk (nw rfl hb32) (Rn.sk (nw rfl hb32) (Rn.sk (nw rfl hb32) (Rn.pickF (v:=(b_ false)) tv rfl hb32 rfl ?_)))))
            refine Rn.nil ⟨rfl,?_⟩
            replace h:=si h; subst h
            exact Qg [] ⟨(sm rfl),(kPtr rfl),(kPtr rfl),(kPtr rfl),(sm rfl),(sm rfl),(sm rfl),(sm rfl),tv⟩ ⟨⟨_,rfl,rfl,(.same rfl)⟩,⟨_,rfl,rfl,(.same rfl)⟩,⟨_,rfl,rfl,(.same rfl)⟩,tv⟩ rfl
          ·obtain ⟨x35,rfl⟩ : ∃ x,x = z:=⟨_,rfl⟩
           refine Tr.cond rfl (fun hb36=>?_) (fun hb36=>?_)
           ·replace h:=bT hb36 h
            refine Tr.rgn (Rn.fldP (o':=2) tv rfl rfl (Rn.loadT (cs':=[(l_ x6.Alphabet),(i_ x6.States),(l_ out23),.own 3 (List.map Qc out19)]) tv rfl rfl rfl rfl (md rfl (Rn.bslice (xs:=[(i_ i14)]) (cs:=[(i_ i14)]) tv rfl rfl rfl rfl ?_))))
            obtain ⟨x37,h38,h⟩:=bnd h
            refine Rn.app (e:=(eI .i64)) tv rfl rfl rfl (Qb3 rfl rfl rfl) h38 rfl (Rn.fldP (o':=2) tv rfl rfl (Rn.storeO (cs':=[(l_ x6.Alphabet),(i_ x6.States),(o_ x37),.own 3 (List.map Qc out19)]) tv rfl rfl rfl rfl rfl (Rn.nil ?_)))
            replace h:=si h; subst h
            exact Qg [59] ⟨(sm rfl),(kPtr rfl),(kPtr rfl),(kPtr rfl),(sm rfl),(sm rfl),(sm rfl),tv⟩ ⟨⟨_,rfl,rfl,(.same rfl)⟩,⟨_,rfl,rfl,(.same rfl)⟩,⟨_,rfl,rfl,(.same rfl)⟩,tv⟩ rfl
           ·replace h:=bF hb36 h
            refine Tr.skip ?_
            replace h:=si h; subst h
            exact Qg [] ⟨(sm rfl),(kPtr rfl),(kPtr rfl),(kPtr rfl),(sm rfl),(sm rfl),(sm rfl),tv⟩ ⟨⟨_,rfl,rfl,(.same rfl)⟩,⟨_,rfl,rfl,(.same rfl)⟩,⟨_,rfl,rfl,(.same rfl)⟩,tv⟩ rfl
         ·obtain ⟨out39,rfl⟩ : ∃ x,x = z:=⟨_,rfl⟩
          refine Tr.rgn (md rfl (Rn.bin tv rfl rfl rfl (md rfl (Rn.nil ?_))))
          exact ⟨_,h,(by exact Qh ⟨(sm rfl),(kPtr rfl),(kPtr rfl),(kPtr rfl),(sm rfl),(sm rfl),(sm rfl),tv⟩ ⟨⟨_,rfl,rfl,(.same rfl)⟩,⟨_,rfl,rfl,(.same rfl)⟩,⟨_,rfl,rfl,(.same rfl)⟩,tv⟩ rfl)⟩
        ·replace h:=ifF hb25 h
         refine Tr.exit ?_
         replace h:=si h; subst h
         exact Qg [] ⟨(sm rfl),(kPtr rfl),(kPtr rfl),(kPtr rfl),(sm rfl),(sm rfl),tv⟩ ⟨⟨_,rfl,rfl,(.same rfl)⟩,⟨_,rfl,rfl,(.same rfl)⟩,⟨_,rfl,rfl,(.same rfl)⟩,tv⟩ rfl
      ·obtain ⟨out40,rfl⟩ : ∃ x,x = z:=⟨_,rfl⟩
       refine sr ((md rfl (nt ((Tr.block ?_)))))
       refine Tr.loop (mk:=fun ((all41,k42,out43) : (List (List Int)) × Int × (List Qe))=>⟨look [(1,(l_ onto2)),(2,.ptr (Γ.n0 + 2) 0),(4,.ptr (Γ.n0 + 4) 0),(6,.ptr (Γ.n0 + 6) 0),(7,.own 1 (List.map (eL 1 (eI .i64)) all41)),(8,(i_ i14)),(10,(i_ k42))],Qm Γ.n0 (bxs [(2,.cells ((Qd a1))),(4,.cells ([(o_ c15),(i_ 0),(o_ c16),.own 3 (List.map Qc c17)])),(6,.cells ([(l_ x6.Alphabet),(i_ x6.States),(o_ out40),.own 3 (List.map Qc out43)]))]) M,Γ.n0 + 125⟩) h (by exact Qh ⟨(sm rfl),(kPtr rfl),(kPtr rfl),(kPtr rfl),(sm rfl),(sm rfl),(sm rfl),tv⟩ ⟨⟨_,rfl,rfl,(.same rfl)⟩,⟨_,rfl,rfl,(.same rfl)⟩,⟨_,rfl,rfl,(.same rfl)⟩,tv⟩ rfl) (fun k44 z h=>?_)
       ·obtain ⟨all41,k42,out43⟩:=z
        replace h : _ = some _:=h
        refine Tr.seq (sr ((md rfl (Rn.fldP (o':=0) tv rfl rfl (Rn.load (v:=(l_ x6.Alphabet)) tv rfl (Qj rfl) rfl rfl (Rn.lenD tv rfl (Rn.bin tv rfl rfl rfl (Rn.nil (toN ?_)))))))))
        refine Tr.cond rfl (fun hb45=>?_) (fun hb45=>?_)
        ·replace h:=ifT hb45 h
         refine Tr.skip (toN ?_)
         refine Tr.cutB (fun ((all71,out72) : (List (List Int)) × (List Qe))=>⟨look [(1,(l_ onto2)),(2,.ptr (Γ.n0 + 2) 0),(4,.ptr (Γ.n0 + 4) 0),(6,.ptr (Γ.n0 + 6) 0),(7,.own 1 (List.map (eL 1 (eI .i64)) all71)),(8,(i_ i14)),(10,(i_ k42))],Qm Γ.n0 (bxs [(2,.cells ((Qd a1))),(4,.cells ([(o_ c15),(i_ 0),(o_ c16),.own 3 (List.map Qc c17)])),(6,.cells ([(l_ x6.Alphabet),(i_ x6.States),(o_ out40),.own 3 (List.map Qc out72)]))]) M,Γ.n0 + 125⟩) h (fun z h=>?_) (fun z h=>?_)
         ·refine Tr.block (Tr.seq ?_)
          refine Tr.rgnD (by decide) ?_
          refine Rn.load (v:=(Qb a1)) tv rfl (Qj rfl) rfl rfl (md rfl (Rn.mov (v:=.d (.lst 1 (List.map (eL 1 (eI .i64)) all41))) tv rfl (md rfl ?_)))
          obtain ⟨x46,h47,h⟩:=bnd h
          refine Rn.idxD (e:=(eL 1 (eI .i64))) tv rfl rfl h47 (Rn.loadC (x:=.lst 1 (List.map (eI .i64) x46)) tv rfl (Rn.fldP (o':=0) tv rfl rfl (Rn.load (v:=(l_ x6.Alphabet)) tv rfl (Qj rfl) rfl rfl (md rfl ?_))))
          obtain ⟨x48,h49,h⟩:=bnd h
          refine Rn.idxD (e:=(eI .i64)) tv rfl rfl h49 (Rn.loadC (x:=.int .i64 x48) tv rfl ?_)
          obtain ⟨x51,h50,h⟩:=bnd h
          refine Rn.call (args:=[(Qb a1),(l_ onto2),(l_ x46),(i_ x48)]) tv rfl (H_overseerref07_Next _ _ _ _ _ h50) pc0 (Rn.movTO tv rfl ?_)
          refine Rn.nil ⟨rfl,?_⟩
          refine toN (Tr.seq (sr ((Rn.mov (v:=(l_ x51)) tv rfl (Rn.lenD tv rfl (Rn.bin tv rfl rfl rfl (Rn.nil (toN ?_))))))))
          refine Tr.cond rfl (fun hb52=>?_) (fun hb52=>?_)
          ·replace h:=bT hb52 h
           refine Tr.exit ?_
           replace h:=si h; subst h
           exact Qg [] ⟨(sm rfl),(kPtr rfl),(kPtr rfl),(kPtr rfl),(sm rfl),(sm rfl),(sm rfl),tv⟩ ⟨⟨_,rfl,rfl,(.same rfl)⟩,⟨_,rfl,rfl,(.same rfl)⟩,⟨_,rfl,rfl,(.same rfl)⟩,tv⟩ rfl
          ·replace h:=bF hb52 h
           refine Tr.skip (toN (sr ((md rfl (Rn.nil (toN ?_))))))
           refine Tr.cutB (fun (to62 : Int)=>⟨look [(1,(l_ onto2)),(2,.ptr (Γ.n0 + 2) 0),(4,.ptr (Γ.n0 + 4) 0),(6,.ptr (Γ.n0 + 6) 0),(7,.own 1 (List.map (eL 1 (eI .i64)) all41)),(8,(i_ i14)),(10,(i_ k42)),(11,(o_ x51)),(12,(i_ to62))],Qm Γ.n0 (bxs [(2,.cells ((Qd a1))),(4,.cells ([(o_ c15),(i_ 0),(o_ c16),.own 3 (List.map Qc c17)])),(6,.cells ([(l_ x6.Alphabet),(i_ x6.States),(o_ out40),.own 3 (List.map Qc out43)]))]) M,Γ.n0 + 125⟩) h (fun z h=>?_) (fun z h=>?_)
           ·refine Tr.block ?_
            refine Tr.loop (mk:=fun (to53 : Int)=>⟨look [(1,(l_ onto2)),(2,.ptr (Γ.n0 + 2) 0),(4,.ptr (Γ.n0 + 4) 0),(6,.ptr (Γ.n0 + 6) 0),(7,.own 1 (List.map (eL 1 (eI .i64)) all41)),(8,(i_ i14)),(10,(i_ k42)),(11,(o_ x51)),(12,(i_ to53))],Qm Γ.n0 (bxs [(2,.cells ((Qd a1))),(4,.cells ([(o_ c15),(i_ 0),(o_ c16),.own 3 (List.map Qc c17)])),(6,.cells ([(l_ x6.Alphabet),(i_ x6.States),(o_ out40),.own 3 (List.map Qc out43)]))]) M,Γ.n0 + 125⟩) h (by exact Qh ⟨(sm rfl),(kPtr rfl),(kPtr rfl),(kPtr rfl),(sm rfl),(sm rfl),(sm rfl),(sm rfl),(sm rfl),tv⟩ ⟨⟨_,rfl,rfl,(.same rfl)⟩,⟨_,rfl,rfl,(.same rfl)⟩,⟨_,rfl,rfl,(.same rfl)⟩,tv⟩ rfl) (fun k54 z h=>?_)
            ·obtain ⟨to53,rfl⟩ : ∃ x,x = z:=⟨_,rfl⟩
             replace h : _ = some _:=h
             refine Tr.seq ?_
             refine Tr.cutB (fun (x60 : Bool)=>⟨look [(1,(l_ onto2)),(2,.ptr (Γ.n0 + 2) 0),(4,.ptr (Γ.n0 + 4) 0),(6,.ptr (Γ.n0 + 6) 0),(7,.own 1 (List.map (eL 1 (eI .i64)) all41)),(8,(i_ i14)),(10,(i_ k42)),(11,(o_ x51)),(12,(i_ to53)),(96,(b_ x60))],Qm Γ.n0 (bxs [(2,.cells ((Qd a1))),(4,.cells ([(o_ c15),(i_ 0),(o_ c16),.own 3 (List.map Qc c17)])),(6,.cells ([(l_ x6.Alphabet),(i_ x6.States),(o_ out40),.own 3 (List.map Qc out43)]))]) M,Γ.n0 + 125⟩) h (fun z h=>?_) (fun z h=>?_)
             ·refine Tr.rgn (md rfl (Rn.mov (v:=.d (.lst 1 (List.map (eL 1 (eI .i64)) all41))) tv rfl (Rn.lenD tv rfl (Rn.bin tv rfl rfl rfl (md rfl ?_)))))
              refine Qc2 (decide (to53 < (all41.length : Int))) (fun hb55=>?_) (fun hb55=>?_)
              ·replace h:=ifT hb55 h
               refine Rn.mov (v:=.d (.lst 1 (List.map (eL 1 (eI .i64)) all41))) (gw rfl hb55) rfl (Rn.movD (gw rfl hb55) rfl ?_)
               obtain ⟨x56,h57,h⟩:=bnd h
               refine Rn.idxD (e:=(eL 1 (eI .i64))) (gw rfl hb55) rfl rfl h57 (Rn.loadC (x:=.lst 1 (List.map (eI .i64) x56)) (gw rfl hb55) rfl (Rn.mov (v:=(l_ x51)) (gw rfl hb55) rfl ?_))
               obtain ⟨x59,h58,h⟩:=bnd h
               refine Rn.call (args:=[(l_ x56),(l_ x51)]) (gw rfl hb55) rfl (H_overseerref03_SameInts _ _ _ h58) pc9 (Rn.un (gw rfl hb55) rfl rfl (Rn.pickT (v:=(b_ (!x59))) tv rfl hb55 rfl (Rn.nil ?_)))
               replace h:=si h; subst h
               exact Qg [] ⟨(sm rfl),(kPtr rfl),(kPtr rfl),(kPtr rfl),(sm rfl),(sm rfl),(sm rfl),(sm rfl),(sm rfl),(sm rfl),tv⟩ ⟨⟨_,rfl,rfl,(.same rfl)⟩,⟨_,rfl,rfl,(.same rfl)⟩,⟨_,rfl,rfl,(.same rfl)⟩,tv⟩ rfl
              ·replace h:=ifF hb55 h
               refine Rn.sk (nw rfl hb55) (Rn.sk (nw rfl hb55) (Rn.sk (nw rfl hb55) (Rn.sk (nw rfl hb55) (Rn.sk (nw rfl hb55) (Rn.sk (nw rfl hb55) (Rn.sk (nw rfl hb55) (Rn.pickF (v:=(b_ false)) tv rfl hb55 rfl (Rn.nil ?_))))))))
               replace h:=si h; subst h
               exact Qg [] ⟨(sm rfl),(kPtr rfl),(kPtr rfl),(kPtr rfl),(sm rfl),(sm rfl),(sm rfl),(sm rfl),(sm rfl),(sm rfl),tv⟩ ⟨⟨_,rfl,rfl,(.same rfl)⟩,⟨_,rfl,rfl,(.same rfl)⟩,⟨_,rfl,rfl,(.same rfl)⟩,tv⟩ rfl
             ·obtain ⟨x60,rfl⟩ : ∃ x,x = z:=⟨_,rfl⟩
              refine Tr.cond rfl (fun hb61=>?_) (fun hb61=>?_)
              ·replace h:=bT hb61 h
               refine Tr.skip (toN (Tr.block (Tr.rgn (md rfl (Rn.bin tv rfl rfl rfl (md rfl (Rn.nil ?_)))))))
               exact ⟨_,h,(by exact Qh ⟨(sm rfl),(kPtr rfl),(kPtr rfl),(kPtr rfl),(sm rfl),(sm rfl),(sm rfl),(sm rfl),(sm rfl),tv⟩ ⟨⟨_,rfl,rfl,(.same rfl)⟩,⟨_,rfl,rfl,(.same rfl)⟩,⟨_,rfl,rfl,(.same rfl)⟩,tv⟩ rfl)⟩
              ·replace h:=bF hb61 h
               refine Tr.exit ?_
               replace h:=si h; subst h
               exact Qg [] ⟨(sm rfl),(kPtr rfl),(kPtr rfl),(kPtr rfl),(sm rfl),(sm rfl),(sm rfl),(sm rfl),(sm rfl),tv⟩ ⟨⟨_,rfl,rfl,(.same rfl)⟩,⟨_,rfl,rfl,(.same rfl)⟩,⟨_,rfl,rfl,(.same rfl)⟩,tv⟩ rfl
           ·obtain ⟨to62,rfl⟩ : ∃ x,x = z:=⟨_,rfl⟩
            refine Tr.cutB (fun (all66 : List (List Int))=>⟨look [(1,(l_ onto2)),(2,.ptr (Γ.n0 + 2) 0),(4,.ptr (Γ.n0 + 4) 0),(6,.ptr (Γ.n0 + 6) 0),(7,.own 1 (List.map (eL 1 (eI .i64)) all66)),(8,(i_ i14)),(10,(i_ k42)),(12,(i_ to62))],Qm Γ.n0 (bxs [(2,.cells ((Qd a1))),(4,.cells ([(o_ c15),(i_ 0),(o_ c16),.own 3 (List.map Qc c17)])),(6,.cells ([(l_ x6.Alphabet),(i_ x6.States),(o_ out40),.own 3 (List.map Qc out43)]))]) M,Γ.n0 + 125⟩) h (fun z h=>?_) (fun z h=>?_)
            ·refine sr ((md rfl (Rn.mov (v:=.d (.lst 1 (List.map (eL 1 (eI .i64)) all41))) tv rfl (Rn.lenD tv rfl (Rn.bin tv rfl rfl rfl (Rn.nil (toN ?_)))))))
             refine Tr.cond rfl (fun hb63=>?_) (fun hb63=>?_)
             ·replace h:=bT hb63 h
              refine Tr.rgn (Rn.movTO tv rfl (Rn.mov (v:=(l_ x51)) tv rfl (Rn.bslice (xs:=[(l_ x51)]) (cs:=[(l_ x51)]) tv rfl rfl rfl rfl ?_)))
              obtain ⟨x64,h65,h⟩:=bnd h
              refine Rn.app (e:=(eL 1 (eI .i64))) tv rfl rfl rfl (Qb3 rfl rfl rfl) h65 rfl (Rn.movTO tv rfl (Rn.nil ?_))
              replace h:=si h; subst h
              exact Qg [105] ⟨(sm rfl),(kPtr rfl),(kPtr rfl),(kPtr rfl),(sm rfl),(sm rfl),(sm rfl),(sm rfl),tv⟩ ⟨⟨_,rfl,rfl,(.same rfl)⟩,⟨_,rfl,rfl,(.same rfl)⟩,⟨_,rfl,rfl,(.same rfl)⟩,tv⟩ rfl
             ·replace h:=bF hb63 h
              refine Tr.skip ?_
              replace h:=si h; subst h
              exact Qg [] ⟨(sm rfl),(kPtr rfl),(kPtr rfl),(kPtr rfl),(sm rfl),(sm rfl),(sm rfl),(sm rfl),tv⟩ ⟨⟨_,rfl,rfl,(.same rfl)⟩,⟨_,rfl,rfl,(.same rfl)⟩,⟨_,rfl,rfl,(.same rfl)⟩,tv⟩ rfl
            ·obtain ⟨all66,rfl⟩ : ∃ x,x = z:=⟨_,rfl⟩
             refine Tr.rgnD (by decide) ?_
             refine Rn.fldP (o':=3) tv rfl rfl (Rn.loadT (cs':=[(l_ x6.Alphabet),(i_ x6.States),(o_ out40),.d (.lst 3 (List.map Qc out43))]) tv rfl rfl rfl rfl (md rfl (Rn.fldP (o':=0) tv rfl rfl (Rn.load (v:=(l_ x6.Alphabet)) tv rfl (Qj rfl) rfl rfl (md rfl ?_)))))
             obtain ⟨x67,h68,h⟩:=bnd h
             refine Rn.idxD (e:=(eI .i64)) tv rfl rfl h68 (Rn.loadC (x:=.int .i64 x67) tv rfl (md rfl (Rn.build (v:=.agg [(i_ i14),(i_ x67),(i_ to62)]) tv rfl (Rn.bslice (xs:=[.agg [(i_ i14),(i_ x67),(i_ to62)]]) (cs:=[(i_ i14),(i_ x67),(i_ to62)]) tv rfl rfl rfl rfl ?_))))
             obtain ⟨x69,h70,h⟩:=bnd h
             refine Rn.app (e:=Qc) tv rfl rfl rfl (Qb3 rfl rfl rfl) h70 rfl (Rn.fldP (o':=3) tv rfl rfl (Rn.storeO (cs':=[(l_ x6.Alphabet),(i_ x6.States),(o_ out40),.own 3 (List.map Qc x69)]) tv rfl rfl rfl rfl rfl ?_))
             refine Rn.nil ⟨rfl,?_⟩
             replace h:=si h; subst h
             exact Qg [117] ⟨(sm rfl),(kPtr rfl),(kPtr rfl),(kPtr rfl),(sm rfl),(sm rfl),(sm rfl),tv⟩ ⟨⟨_,rfl,rfl,(.same rfl)⟩,⟨_,rfl,rfl,(.same rfl)⟩,⟨_,rfl,rfl,(.same rfl)⟩,tv⟩ rfl
         ·obtain ⟨all71,out72⟩:=z
          refine Tr.rgn (md rfl (Rn.bin tv rfl rfl rfl (md rfl (Rn.nil ?_))))
          exact ⟨_,h,(by exact Qh ⟨(sm rfl),(kPtr rfl),(kPtr rfl),(kPtr rfl),(sm rfl),(sm rfl),(sm rfl),tv⟩ ⟨⟨_,rfl,rfl,(.same rfl)⟩,⟨_,rfl,rfl,(.same rfl)⟩,⟨_,rfl,rfl,(.same rfl)⟩,tv⟩ rfl)⟩
        ·replace h:=ifF hb45 h
         refine Tr.exit ?_
         replace h:=si h; subst h
         exact Qg [] ⟨(sm rfl),(kPtr rfl),(kPtr rfl),(kPtr rfl),(sm rfl),(sm rfl),tv⟩ ⟨⟨_,rfl,rfl,(.same rfl)⟩,⟨_,rfl,rfl,(.same rfl)⟩,⟨_,rfl,rfl,(.same rfl)⟩,tv⟩ rfl
     ·obtain ⟨all73,out74,out75⟩:=z
      refine Tr.rgn (md rfl (Rn.bin tv rfl rfl rfl (md rfl (Rn.nil ?_))))
      exact ⟨_,h,(by exact Qh ⟨(sm rfl),(kPtr rfl),(kPtr rfl),(kPtr rfl),(sm rfl),(sm rfl),tv⟩ ⟨⟨_,rfl,rfl,(.same rfl)⟩,⟨_,rfl,rfl,(.same rfl)⟩,⟨_,rfl,rfl,(.same rfl)⟩,tv⟩ rfl)⟩
    ·replace h:=ifF hb21 h
     refine Tr.exit ?_
     replace h:=si h; subst h
     exact Qg [] ⟨(kPtr rfl),(kPtr rfl),(sm rfl),tv⟩ ⟨⟨_,rfl,rfl,(.same rfl)⟩,⟨_,rfl,rfl,(.same rfl)⟩,⟨_,rfl,rfl,(.same rfl)⟩,tv⟩ rfl
  ·obtain ⟨all76,c77,c78,c79,out80,out81⟩:=z
   refine sr ((Rn.mov (v:=.d (.lst 1 (List.map (eL 1 (eI .i64)) all76))) tv rfl (Rn.lenD tv rfl (Rn.fldP (o':=1) tv rfl rfl (Rn.store (v:=(i_ (all76.length : Int))) (cs':=[(l_ x6.Alphabet),(i_ (all76.length : Int)),(o_ out80),.own 3 (List.map Qc out81)]) tv rfl rfl rfl rfl rfl rfl (nt ((sr ((Rn.load (v:=.agg [(l_ x6.Alphabet),(i_ (all76.length : Int)),(l_ out80),.d (.lst 3 (List.map Qc out81))]) tv rfl (Qj rfl) rfl rfl (Rn.movTO tv rfl (Rn.storeT (v:=.agg [(l_ x6.Alphabet),(i_ (all76.length : Int)),(l_ out80),.d (.lst 3 (List.map Qc out81))]) (ds:=[(l_ x6.Alphabet),(i_ (all76.length : Int)),(l_ out80),.d (.lst 3 (List.map Qc out81))]) (cs':=[(l_ x6.Alphabet),(i_ (all76.length : Int)),(l_ out80),.d (.lst 3 (List.map Qc out81))]) tv rfl rfl rfl rfl rfl rfl rfl (Rn.movTO tv rfl (nt ((Tr.ret ?_))))))))))))))))
   replace h:=si h; subst h
   exact ⟨.inr rfl,.tup [.agg [(l_ x6.Alphabet),(i_ (all76.length : Int)),(l_ out80),.d (.lst 3 (List.map Qc out81))],.own 1 (List.map (eL 1 (eI .i64)) all76)],res2 (Qhn rfl rfl rfl rfl) rfl,(WkV.tup (.cons (.same rfl) (.cons (.same rfl) .nil))).rd,⟨⟨tv,tv,tv,tv,tv⟩,tv,tv⟩,fun k hk=>Qf hk⟩
theorem Q3a {P : Program} {c : Nat} (hcf : Qs P c = some Qj9) (fuel : Nat) : Qj8 P c (Qcl fuel):=by
 intro s1 s2 r h
 refine Qcj hcf rfl fun Γ M hP hnt hM=>?_
 subst hP
 refine Tr.init [(0,(l_ s1)),(1,(l_ s2))] rfl ?_
 unfold Qcl at h
 unfold Qj9
 refine sr ((md rfl (nt ((Tr.seq (sr ((md rfl (Rn.lenD tv rfl (md rfl (Rn.lenD tv rfl (Rn.bin tv rfl rfl rfl (Rn.nil (toN ?_))))))))))))))
 refine Tr.cond rfl (fun hb3=>?_) (fun hb3=>?_)
 ·replace h:=bT hb3 h
  refine sr ((md rfl (nt ((Tr.ret ?_)))))
  replace h:=si h; subst h
  exact ⟨.inr rfl,(b_ false),rfl,fun _ _ _ _ h=>h,tv,fun k hk=>Qf hk⟩
 ·replace h:=bF hb3 h
  refine Tr.skip (toN (Tr.seq (sr ((md rfl (Rn.lenD tv rfl (md rfl (nt ((Tr.block ?_))))))))))
  refine Tr.loop (mk:=fun (x4 : Int)=>⟨look [(0,(l_ s1)),(1,(l_ s2)),(12,(i_ (s1.length : Int))),(13,(i_ x4))],Qm Γ.n0 (bxs []) M,Γ.n0 + 26⟩) h (by exact Qh ⟨(sm rfl),(sm rfl),(sm rfl),(sm rfl),tv⟩ tv rfl) (fun k5 z h=>?_)
  ·obtain ⟨x4,rfl⟩ : ∃ x,x = z:=⟨_,rfl⟩
   replace h : _ = some _:=h
   refine sr ((Rn.bin tv rfl rfl rfl (nt ((Tr.seq ?_)))))
   refine Tr.cond rfl (fun hb6=>?_) (fun hb6=>?_)
   ·replace h:=ifT hb6 h
    refine Tr.skip (toN (Tr.seq (Tr.block (sr ((md rfl (md rfl (nt ((Tr.seq ?_))))))))))
    refine Tr.rgnD (by decide) ?_
    refine md rfl (md rfl ?_)
    obtain ⟨x7,h8,h⟩:=bnd h
    refine Rn.idxD (e:=(eI .i64)) tv rfl rfl h8 (Rn.loadC (x:=.int .i64 x7) tv rfl (md rfl (md rfl ?_)))
    obtain ⟨x9,h10,h⟩:=bnd h
    refine Rn.idxD (e:=(eI .i64)) tv rfl rfl h10 (Rn.loadC (x:=.int .i64 x9) tv rfl (Rn.bin tv rfl rfl rfl ?_))
    refine Rn.nil ⟨rfl,?_⟩
    refine toN ?_
    refine Tr.cond rfl (fun hb11=>?_) (fun hb11=>?_)
    ·replace h:=bT hb11 h
     refine sr ((md rfl (nt ((Tr.ret ?_)))))
     replace h:=si h; subst h
     exact ⟨.inr rfl,(b_ false),rfl,fun _ _ _ _ h=>h,tv,fun k hk=>Qf hk⟩
    ·replace h:=bF hb11 h
     refine Tr.skip (toN (Tr.rgn (Rn.bin tv rfl rfl rfl (md rfl (Rn.nil ?_)))))
     exact ⟨_,h,(by exact Qh ⟨(sm rfl),(sm rfl),(sm rfl),(sm rfl),tv⟩ tv rfl)⟩
   ·replace h:=ifF hb6 h
    refine Tr.exit (toN (sr ((md rfl (nt ((Tr.ret ?_)))))))
    replace h:=si h; subst h
    exact ⟨.inr rfl,(b_ true),rfl,fun _ _ _ _ h=>h,tv,fun k hk=>Qf hk⟩
theorem Q1b {P : Program} {c : Nat} (hcf : Qs P c = some Qjn) (fuel : Nat) : Qjm P c (Qcp fuel):=by
 intro s1 s2 r h
 refine Qcj hcf rfl fun Γ M hP hnt hM=>?_
 subst hP
 refine Tr.init [(0,.d (.lst 3 (List.map Qc s1))),(1,.d (.lst 3 (List.map Qc s2)))] rfl ?_
 unfold Qcp at h
 unfold Qjn
 refine sr ((md rfl (nt ((Tr.seq (sr ((md rfl (Rn.lenD tv rfl (md rfl (Rn.lenD tv rfl (Rn.bin tv rfl rfl rfl (Rn.nil (toN ?_))))))))))))))
 refine Tr.cond rfl (fun hb3=>?_) (fun hb3=>?_)
 ·replace h:=bT hb3 h
  refine sr ((md rfl (nt ((Tr.ret ?_)))))
  replace h:=si h; subst h
  exact ⟨.inr rfl,(b_ false),rfl,fun _ _ _ _ h=>h,tv,fun k hk=>Qf hk⟩
 ·replace h:=bF hb3 h
  refine Tr.skip (toN (Tr.seq (sr ((md rfl (Rn.lenD tv rfl (md rfl (nt ((Tr.block ?_))))))))))
  refine Tr.loop (mk:=fun (x4 : Int)=>⟨look [(0,.d (.lst 3 (List.map Qc s1))),(1,.d (.lst 3 (List.map Qc s2))),(12,(i_ (s1.length : Int))),(13,(i_ x4))],Qm Γ.n0 (bxs []) M,Γ.n0 + 26⟩) h (by exact Qh ⟨(sm rfl),(sm rfl),(sm rfl),(sm rfl),tv⟩ tv rfl) (fun k5 z h=>?_)
  ·obtain ⟨x4,rfl⟩ : ∃ x,x = z:=⟨_,rfl⟩
   replace h : _ = some _:=h
   refine sr ((Rn.bin tv rfl rfl rfl (nt ((Tr.seq ?_)))))
   refine Tr.cond rfl (fun hb6=>?_) (fun hb6=>?_)
   ·replace h:=ifT hb6 h
    refine Tr.skip (toN (Tr.seq (Tr.block (sr ((md rfl (md rfl (nt ((Tr.seq ?_))))))))))
    refine Tr.rgnD (by decide) ?_
    refine md rfl (md rfl ?_)
    obtain ⟨x7,h8,h⟩:=bnd h
    refine Rn.idxD (e:=Qc) tv rfl rfl h8 (Rn.loadCA (vs:=(Qbi x7)) tv rfl rfl rfl (md rfl (md rfl ?_)))
    obtain ⟨x9,h10,h⟩:=bnd h
    refine Rn.idxD (e:=Qc) tv rfl rfl h10 (Rn.loadCA (vs:=(Qbi x9)) tv rfl rfl rfl (Rn.eqa (r:=((x7.From == x9.From) && ((x7.Event == x9.Event) && ((x7.To == x9.To) && true)))) tv rfl rfl rfl ?_))
    refine Rn.nil ⟨rfl,?_⟩
    refine toN ?_
    refine Tr.cond rfl (fun hb11=>?_) (fun hb11=>?_)
    ·have hb11:=nT' hb11
     replace h:=bF hb11 h
     refine sr ((md rfl (nt ((Tr.ret ?_)))))
     replace h:=si h; subst h
     exact ⟨.inr rfl,(b_ false),rfl,fun _ _ _ _ h=>h,tv,fun k hk=>Qf hk⟩
    ·have hb11:=nF' hb11
     replace h:=bT hb11 h
     refine Tr.skip (toN (Tr.rgn (Rn.bin tv rfl rfl rfl (md rfl (Rn.nil ?_)))))
     exact ⟨_,h,(by exact Qh ⟨(sm rfl),(sm rfl),(sm rfl),(sm rfl),tv⟩ tv rfl)⟩
   ·replace h:=ifF hb6 h
    refine Tr.exit (toN (sr ((md rfl (nt ((Tr.ret ?_)))))))
    replace h:=si h; subst h
    exact ⟨.inr rfl,(b_ true),rfl,fun _ _ _ _ h=>h,tv,fun k hk=>Qf hk⟩
theorem Q5w {P : Program} {c : Nat} {Qcl : (List Int) → (List Int) → Option Bool} {Qcp : (List Qe) → (List Qe) → Option Bool}
    (H_slices_Equal_int : Qj8 P 63 Qcl)
    (H_slices_Equal_Edge : Qjm P 81 Qcp) (hcf : Qs P c = some Qll) : Qlk P c (Qdc Qcl Qcp):=by
 intro a1 b2 r h
 refine Qcj hcf rfl fun Γ M hP hnt hM=>?_
 subst hP
 refine Tr.init [(0,(Qb a1)),(1,(Qb b2))] rfl ?_
 unfold Qdc at h
 unfold Qll
 refine sr ((Rn.box (v:=(Qb a1)) (cs:=(Qd a1)) tv rfl rfl rfl rfl rfl (Rn.box (v:=(Qb b2)) (cs:=(Qd b2)) tv rfl rfl rfl rfl rfl (md rfl (nt ((sr ((Rn.fldP (o':=1) tv rfl rfl (Rn.load (v:=(i_ a1.States)) tv rfl (Qj rfl) rfl rfl (Rn.fldP (o':=1) tv rfl rfl (Rn.load (v:=(i_ b2.States)) tv rfl (Qj rfl) rfl rfl (Rn.bin tv rfl rfl rfl (md rfl ?_))))))))))))))
 refine Qc2 (a1.States == b2.States) (fun hb3=>?_) (fun hb3=>?_)
 ·replace h:=bT hb3 h
  refine Rn.fldP (o':=0) (gw rfl hb3) rfl rfl (Rn.load (v:=(l_ a1.Alphabet)) (gw rfl hb3) rfl (Qj rfl) rfl rfl (Rn.fldP (o':=0) (gw rfl hb3) rfl rfl (Rn.load (v:=(l_ b2.Alphabet)) (gw rfl hb3) rfl (Qj rfl) rfl rfl ?_)))
  obtain ⟨x5,h4,h⟩:=bnd h
  refine Rn.call (args:=[(l_ a1.Alphabet),(l_ b2.Alphabet)]) (gw rfl hb3) rfl (H_slices_Equal_int _ _ _ h4) pc9 (Rn.pickT (v:=(b_ x5)) tv rfl hb3 rfl (md rfl ?_))
  refine Qc2 x5 (fun hb6=>?_) (fun hb6=>?_)
  ·replace h:=bT hb6 h
   refine Rn.fldP (o':=2) (gw rfl hb6) rfl rfl (Rn.load (v:=(l_ a1.Marked)) (gw rfl hb6) rfl (Qj rfl) rfl rfl (Rn.fldP (o':=2) (gw rfl hb6) rfl rfl (Rn.load (v:=(l_ b2.Marked)) (gw rfl hb6) rfl (Qj rfl) rfl rfl ?_)))
   obtain ⟨x8,h7,h⟩:=bnd h
   refine Rn.call (args:=[(l_ a1.Marked),(l_ b2.Marked)]) (gw rfl hb6) rfl (H_slices_Equal_int _ _ _ h7) pc9 (Rn.pickT (v:=(b_ x8)) tv rfl hb6 rfl (md rfl ?_))
   refine Qc2 x8 (fun hb9=>?_) (fun hb9=>?_)
   ·replace h:=bT hb9 h
    refine Rn.fldP (o':=3) (gw rfl hb9) rfl rfl (Rn.load (v:=.d (.lst 3 (List.map Qc a1.Edges))) (gw rfl hb9) rfl (Qj rfl) rfl rfl (Rn.fldP (o':=3) (gw rfl hb9) rfl rfl (Rn.load (v:=.d (.lst 3 (List.map Qc b2.Edges))) (gw rfl hb9) rfl (Qj rfl) rfl rfl ?_)))
    obtain ⟨x11,h10,h⟩:=bnd h
    refine Rn.call (args:=[.d (.lst 3 (List.map Qc a1.Edges)),.d (.lst 3 (List.map Qc b2.Edges))]) (gw rfl hb9) rfl (H_slices_Equal_Edge _ _ _ h10) pc9 (Rn.pickT (v:=(b_ x11)) tv rfl hb9 rfl (md rfl (nt ((Tr.ret ?_)))))
    replace h:=si h; subst h
    exact ⟨.inr rfl,(b_ x11),rfl,fun _ _ _ _ h=>h,tv,fun k hk=>Qf hk⟩
   ·replace h:=bF hb9 h
    refine Rn.sk (nw rfl hb9) (Rn.sk (nw rfl hb9) (Rn.sk (nw rfl hb9) (Rn.sk (nw rfl hb9) (Rn.sk (nw rfl hb9) (Rn.pickF (v:=(b_ false)) tv rfl hb9 rfl (md rfl (nt ((Tr.ret ?_)))))))))
    replace h:=si h; subst h
    exact ⟨.inr rfl,(b_ false),rfl,fun _ _ _ _ h=>h,tv,fun k hk=>Qf hk⟩
  ·replace h:=bF hb6 h
   refine Rn.sk (nw rfl hb6) (Rn.sk (nw rfl hb6) (Rn.sk (nw rfl hb6) (Rn.sk (nw rfl hb6) (Rn.sk (nw rfl hb6) (Rn.pickF (v:=(b_ false)) tv rfl hb6 rfl (md rfl (Rn.sk (nw (b:=false) rfl rfl) (Rn.sk (nw (b:=false) rfl rfl) (Rn.sk (nw (b:=false) rfl rfl) (Rn.sk (nw (b:=false) rfl rfl) (Rn.sk (nw (b:=false) rfl rfl) (Rn.pickF (v:=(b_ false)) tv rfl rfl rfl (md rfl (nt ((Tr.ret ?_))))))))))))))))
   replace h:=si h; subst h
   exact ⟨.inr rfl,(b_ false),rfl,fun _ _ _ _ h=>h,tv,fun k hk=>Qf hk⟩
 ·replace h:=bF hb3 h
  refine Rn.sk (nw rfl hb3) (Rn.sk (nw rfl hb3) (Rn.sk (nw rfl hb3) (Rn.sk (nw rfl hb3) (Rn.sk (nw rfl hb3) (Rn.pickF (v:=(b_ false)) tv rfl hb3 rfl (md rfl (Rn.sk (nw (b:=false) rfl rfl) (Rn.sk (nw (b:=false) rfl rfl) (Rn.sk (nw (b:=false) rfl rfl) (Rn.sk (nw (b:=false) rfl rfl) (Rn.sk (nw (b:=false) rfl rfl) (Rn.pickF (v:=(b_ false)) tv rfl rfl rfl (md rfl (Rn.sk (nw (b:=false) rfl rfl) (Rn.sk (nw (b:=false) rfl rfl) (Rn.sk (nw (b:=false) rfl rfl) (Rn.sk (nw (b:=false) rfl rfl) (Rn.sk (nw (b:=false) rfl rfl) (Rn.pickF (v:=(b_ false)) tv rfl rfl rfl (md rfl (nt ((Tr.ret ?_)))))))))))))))))))))))
  replace h:=si h; subst h
  exact ⟨.inr rfl,(b_ false),rfl,fun _ _ _ _ h=>h,tv,fun k hk=>Qf hk⟩
theorem Qqv {P : Program} {c : Nat} {Q6 : Qa → Option Int} {Qdc : Qa → Qa → Option Bool} {Q9 : Qa → Option Qa}
    (H_automaton_Check : Qgg P 46 Q6)
    (H_automaton_Equal : Qlk P 47 Qdc)
    (H_automaton_canonical : Qfm P 48 Q9) (hcf : Qs P c = some Qgu) : Qgt P c (Qbw Q6 Qdc Q9):=by
 intro a1 r h
 refine Qcj hcf rfl fun Γ M hP hnt hM=>?_
 subst hP
 refine Tr.init [(0,(Qb a1))] rfl ?_
 unfold Qbw at h
 unfold Qgu
 refine sr ((Rn.box (v:=(Qb a1)) (cs:=(Qd a1)) tv rfl rfl rfl rfl rfl (md rfl (nt ((Tr.seq ?_))))))
 refine Tr.rgnD (by decide) ?_
 refine Rn.load (v:=(Qb a1)) tv rfl (Qj rfl) rfl rfl ?_
 obtain ⟨x3,h2,h⟩:=bnd h
 refine Rn.call (args:=[(Qb a1)]) tv rfl (H_automaton_Check _ _ h2) (fun _=>Q1y hM rfl) (Rn.bin tv rfl rfl rfl (md rfl ?_))
 refine Qc2 (x3 == 0) (fun hb4=>?_) (fun hb4=>?_)
 ·replace h:=bT hb4 h
  refine Rn.load (v:=(Qb a1)) (gw rfl hb4) rfl (Qj rfl) rfl rfl (Rn.load (v:=(Qb a1)) (gw rfl hb4) rfl (Qj rfl) rfl rfl ?_)
  obtain ⟨x6,h5,h⟩:=bnd h
  refine Rn.call (args:=[(Qb a1)]) (gw rfl hb4) rfl (H_automaton_canonical _ _ h5) (fun _=>Q1y hM rfl) ?_
  obtain ⟨x8,h7,h⟩:=bnd h
  refine Rn.call (args:=[(Qb a1),(Qb x6)]) (gw rfl hb4) rfl (H_automaton_Equal _ _ _ h7) (fun _=>Q1y hM rfl) (Rn.pickT (v:=(b_ x8)) tv rfl hb4 rfl (md rfl ?_))
  refine Rn.nil ⟨rfl,?_⟩
  refine toN (Tr.ret ?_)
  replace h:=si h; subst h
  exact ⟨.inr rfl,(b_ x8),rfl,fun _ _ _ _ h=>h,tv,fun k hk=>Qf hk⟩
 ·replace h:=bF hb4 h
  refine Rn.sk (nw rfl hb4) (Rn.sk (nw rfl hb4) (Rn.sk (nw rfl hb4) (Rn.sk (nw rfl hb4) (Rn.pickF (v:=(b_ false)) tv rfl hb4 rfl (md rfl ?_)))))
  refine Rn.nil ⟨rfl,?_⟩
  refine toN (Tr.ret ?_)
  replace h:=si h; subst h
  exact ⟨.inr rfl,(b_ false),rfl,fun _ _ _ _ h=>h,tv,fun k hk=>Qf hk⟩
theorem Qiy {P : Program} {c : Nat} {Qb7 : Option Bool} {Qcc : (List Int) → Int → Option Int} {Qcd : (List Int) → Q7 → Option Qa} {Qbu : Int → Option ((List Int))} {Qbe : Qa → (List Int) → Option (Qa × (List (List Int)) × Int)} {Qbr : Qa → (List Int) → Option (Qa × (List (List Int)))} {Qbf : Qa → Qa → Option Bool} {Qy : (List (List Int)) → (List (List Int)) → Option Bool} {Qbw : Qa → Option Bool}
    (H_overseerlaw07_known : Qhu P 8 Qb7)
    (H_overseerref03_List : Qip P 9 Qcc)
    (H_overseerlaw03_Make : Qis P 10 Qcd)
    (H_overseerlaw03_Set_Events : Qfi P 11 Qbu)
    (H_projection_Project : Qf4 P 12 Qbe)
    (H_overseerref07_Project : Qgr P 13 Qbr)
    (H_overseerref03_Same : Qf5 P 14 Qbf)
    (H_overseerlaw03_SameWords : Qec P 15 Qy)
    (H_automaton_IsCanonical : Qgt P 16 Qbw) (hcf : Qs P c = some Qdr) : Qfd P c (Qcr Qb7 Qcc Qcd Qbu Qbe Qbr Qbf Qy Qbw):=by
 intro s1 g2 onto3 r h
 refine Qcj hcf rfl fun Γ M hP hnt hM=>?_
 subst hP
 refine Tr.init [(0,.d (.int .u8 s1)),(1,.agg [.d (.int .u8 g2.States),.d (.int .u8 g2.Marks),.d (.int .u8 g2.To.1.1),.d (.int .u8 g2.To.1.2.1),.d (.int .u8 g2.To.1.2.2.1),.d (.int .u8 g2.To.1.2.2.2.1),.d (.int .u8 g2.To.1.2.2.2.2),.d (.int .u8 g2.To.2.1.1),.d (.int .u8 g2.To.2.1.2.1),.d (.int .u8 g2.To.2.1.2.2.1),.d (.int .u8 g2.To.2.1.2.2.2.1),.d (.int .u8 g2.To.2.1.2.2.2.2),.d (.int .u8 g2.To.2.2.1.1),.d (.int .u8 g2.To.2.2.1.2.1),.d (.int .u8 g2.To.2.2.1.2.2.1),.d (.int .u8 g2.To.2.2.1.2.2.2.1),.d (.int .u8 g2.To.2.2.1.2.2.2.2),.d (.int .u8 g2.To.2.2.2.1.1),.d (.int .u8 g2.To.2.2.2.1.2.1),.d (.int .u8 g2.To.2.2.2.1.2.2.1),.d (.int .u8 g2.To.2.2.2.1.2.2.2.1),.d (.int .u8 g2.To.2.2.2.1.2.2.2.2),.d (.int .u8 g2.To.2.2.2.2.1),.d (.int .u8 g2.To.2.2.2.2.2.1),.d (.int .u8 g2.To.2.2.2.2.2.2.1),.d (.int .u8 g2.To.2.2.2.2.2.2.2.1),.d (.int .u8 g2.To.2.2.2.2.2.2.2.2)]),(2,(l_ onto3))] rfl ?_
 unfold Qcr at h
 unfold Qdr
 refine sr ((Rn.box (v:=.agg [.d (.int .u8 g2.States),.d (.int .u8 g2.Marks),.d (.int .u8 g2.To.1.1),.d (.int .u8 g2.To.1.2.1),.d (.int .u8 g2.To.1.2.2.1),.d (.int .u8 g2.To.1.2.2.2.1),.d (.int .u8 g2.To.1.2.2.2.2),.d (.int .u8 g2.To.2.1.1),.d (.int .u8 g2.To.2.1.2.1),.d (.int .u8 g2.To.2.1.2.2.1),.d (.int .u8 g2.To.2.1.2.2.2.1),.d (.int .u8 g2.To.2.1.2.2.2.2),.d (.int .u8 g2.To.2.2.1.1),.d (.int .u8 g2.To.2.2.1.2.1),.d (.int .u8 g2.To.2.2.1.2.2.1),.d (.int .u8 g2.To.2.2.1.2.2.2.1),.d (.int .u8 g2.To.2.2.1.2.2.2.2),.d (.int .u8 g2.To.2.2.2.1.1),.d (.int .u8 g2.To.2.2.2.1.2.1),.d (.int .u8 g2.To.2.2.2.1.2.2.1),.d (.int .u8 g2.To.2.2.2.1.2.2.2.1),.d (.int .u8 g2.To.2.2.2.1.2.2.2.2),.d (.int .u8 g2.To.2.2.2.2.1),.d (.int .u8 g2.To.2.2.2.2.2.1),.d (.int .u8 g2.To.2.2.2.2.2.2.1),.d (.int .u8 g2.To.2.2.2.2.2.2.2.1),.d (.int .u8 g2.To.2.2.2.2.2.2.2.2)]) (cs:=[.d (.int .u8 g2.States),.d (.int .u8 g2.Marks),.d (.int .u8 g2.To.1.1),.d (.int .u8 g2.To.1.2.1),.d (.int .u8 g2.To.1.2.2.1),.d (.int .u8 g2.To.1.2.2.2.1),.d (.int .u8 g2.To.1.2.2.2.2),.d (.int .u8 g2.To.2.1.1),.d (.int .u8 g2.To.2.1.2.1),.d (.int .u8 g2.To.2.1.2.2.1),.d (.int .u8 g2.To.2.1.2.2.2.1),.d (.int .u8 g2.To.2.1.2.2.2.2),.d (.int .u8 g2.To.2.2.1.1),.d (.int .u8 g2.To.2.2.1.2.1),.d (.int .u8 g2.To.2.2.1.2.2.1),.d (.int .u8 g2.To.2.2.1.2.2.2.1),.d (.int .u8 g2.To.2.2.1.2.2.2.2),.d (.int .u8 g2.To.2.2.2.1.1),.d (.int .u8 g2.To.2.2.2.1.2.1),.d (.int .u8 g2.To.2.2.2.1.2.2.1),.d (.int .u8 g2.To.2.2.2.1.2.2.2.1),.d (.int .u8 g2.To.2.2.2.1.2.2.2.2),.d (.int .u8 g2.To.2.2.2.2.1),.d (.int .u8 g2.To.2.2.2.2.2.1),.d (.int .u8 g2.To.2.2.2.2.2.2.1),.d (.int .u8 g2.To.2.2.2.2.2.2.2.1),.d (.int .u8 g2.To.2.2.2.2.2.2.2.2)]) tv rfl rfl rfl rfl rfl (md rfl (nt ((Tr.seq ?_))))))
 refine Tr.cutB (fun (x10 : Bool)=>⟨look [(0,.d (.int .u8 s1)),(2,(l_ onto3)),(4,.ptr (Γ.n0 + 4) 0),(24,(b_ x10))],Qm Γ.n0 (bxs [(4,.cells ([.d (.int .u8 g2.States),.d (.int .u8 g2.Marks),.d (.int .u8 g2.To.1.1),.d (.int .u8 g2.To.1.2.1),.d (.int .u8 g2.To.1.2.2.1),.d (.int .u8 g2.To.1.2.2.2.1),.d (.int .u8 g2.To.1.2.2.2.2),.d (.int .u8 g2.To.2.1.1),.d (.int .u8 g2.To.2.1.2.1),.d (.int .u8 g2.To.2.1.2.2.1),.d (.int .u8 g2.To.2.1.2.2.2.1),.d (.int .u8 g2.To.2.1.2.2.2.2),.d (.int .u8 g2.To.2.2.1.1),.d (.int .u8 g2.To.2.2.1.2.1),.d (.int .u8 g2.To.2.2.1.2.2.1),.d (.int .u8 g2.To.2.2.1.2.2.2.1),.d (.int .u8 g2.To.2.2.1.2.2.2.2),.d (.int .u8 g2.To.2.2.2.1.1),.d (.int .u8 g2.To.2.2.2.1.2.1),.d (.int .u8 g2.To.2.2.2.1.2.2.1),.d (.int .u8 g2.To.2.2.2.1.2.2.2.1),.d (.int .u8 g2.To.2.2.2.1.2.2.2.2),.d (.int .u8 g2.To.2.2.2.2.1),.d (.int .u8 g2.To.2.2.2.2.2.1),.d (.int .u8 g2.To.2.2.2.2.2.2.1),.d (.int .u8 g2.To.2.2.2.2.2.2.2.1),.d (.int .u8 g2.To.2.2.2.2.2.2.2.2)]))]) M,Γ.n0 + 59⟩) h (fun z h=>?_) (fun z h=>?_)
 ·refine Tr.rgn ?_
  obtain ⟨x5,h4,h⟩:=bnd h
  refine Rn.call (args:=[]) tv rfl (H_overseerlaw07_known _ h4) pc9 (Rn.un tv rfl rfl (md rfl ?_))
  refine Qc2 x5 (fun hb6=>?_) (fun hb6=>?_)
  ·replace h:=bT hb6 h
   refine Rn.movD (gw rfl (nT hb6)) rfl (Rn.lenD (gw rfl (nT hb6)) rfl (Rn.bin (gw rfl (nT hb6)) rfl rfl rfl (Rn.pickF (v:=(b_ (decide ((onto3.length : Int) > 8)))) tv rfl (nT hb6) rfl (md rfl ?_))))
   refine Qc2 (decide ((onto3.length : Int) > 8)) (fun hb7=>?_) (fun hb7=>?_)
   ·replace h:=ifT hb7 h
    refine Rn.sk (nw rfl hb7) (Rn.sk (nw rfl hb7) (Rn.sk (nw rfl hb7) (Rn.pickT (v:=(b_ true)) tv rfl hb7 rfl (Rn.nil ?_))))
    replace h:=si h; subst h
    exact Qg [] ⟨(sm rfl),(sm rfl),(kPtr rfl),(sm rfl),tv⟩ ⟨⟨_,rfl,rfl,(.same rfl)⟩,tv⟩ rfl
   ·replace h:=ifF hb7 h
    refine Rn.movD (gw rfl hb7) rfl ?_
    obtain ⟨x9,h8,h⟩:=bnd h
    refine Rn.call (args:=[(l_ onto3),(i_ 32)]) (gw rfl hb7) rfl (H_overseerref03_List _ _ _ h8) pc9 (Rn.bin (gw rfl hb7) rfl rfl rfl (Rn.pickF (v:=(b_ (x9 != 0))) tv rfl hb7 rfl (Rn.nil ?_)))
    replace h:=si h; subst h
    exact Qg [] ⟨(sm rfl),(sm rfl),(kPtr rfl),(sm rfl),tv⟩ ⟨⟨_,rfl,rfl,(.same rfl)⟩,tv⟩ rfl
  ·replace h:=bF hb6 h
   refine Rn.sk (nw rfl (nF hb6)) (Rn.sk (nw rfl (nF hb6)) (Rn.sk (nw rfl (nF hb6)) (Rn.pickT (v:=(b_ true)) tv rfl (nF hb6) rfl (md rfl (Rn.sk (nw (b:=true) rfl rfl) (Rn.sk (nw (b:=true) rfl rfl) (Rn.sk (nw (b:=true) rfl rfl) (Rn.pickT (v:=(b_ true)) tv rfl rfl rfl (Rn.nil ?_)))))))))
   replace h:=si h; subst h
   exact Qg [] ⟨(sm rfl),(sm rfl),(kPtr rfl),(sm rfl),tv⟩ ⟨⟨_,rfl,rfl,(.same rfl)⟩,tv⟩ rfl
 ·obtain ⟨x10,rfl⟩ : ∃ x,x = z:=⟨_,rfl⟩
  refine Tr.cond rfl (fun hb11=>?_) (fun hb11=>?_)
  ·replace h:=bT hb11 h
   refine Tr.seq (Tr.rgn ?_)
   obtain ⟨x13,h12,h⟩:=bnd h
   refine Rn.call (args:=[]) tv rfl (H_overseerlaw07_known _ h12) pc9 (md rfl (nt ((Tr.ret ?_))))
   replace h:=si h; subst h
   exact ⟨.inr rfl,(b_ x13),rfl,fun _ _ _ _ h=>h,tv,fun k hk=>Qf hk⟩
  ·replace h:=bF hb11 h
   refine Tr.skip (toN (Tr.seq ?_))
   refine Tr.rgnD (by decide) ?_
   refine md rfl ?_
   obtain ⟨x15,h14,h⟩:=bnd h
   refine Rn.call (args:=[.d (.int .u8 s1)]) tv rfl (H_overseerlaw03_Set_Events _ _ h14) (fun _=>Q1y hM rfl) (Rn.load (v:=.agg [.d (.int .u8 g2.States),.d (.int .u8 g2.Marks),.d (.int .u8 g2.To.1.1),.d (.int .u8 g2.To.1.2.1),.d (.int .u8 g2.To.1.2.2.1),.d (.int .u8 g2.To.1.2.2.2.1),.d (.int .u8 g2.To.1.2.2.2.2),.d (.int .u8 g2.To.2.1.1),.d (.int .u8 g2.To.2.1.2.1),.d (.int .u8 g2.To.2.1.2.2.1),.d (.int .u8 g2.To.2.1.2.2.2.1),.d (.int .u8 g2.To.2.1.2.2.2.2),.d (.int .u8 g2.To.2.2.1.1),.d (.int .u8 g2.To.2.2.1.2.1),.d (.int .u8 g2.To.2.2.1.2.2.1),.d (.int .u8 g2.To.2.2.1.2.2.2.1),.d (.int .u8 g2.To.2.2.1.2.2.2.2),.d (.int .u8 g2.To.2.2.2.1.1),.d (.int .u8 g2.To.2.2.2.1.2.1),.d (.int .u8 g2.To.2.2.2.1.2.2.1),.d (.int .u8 g2.To.2.2.2.1.2.2.2.1),.d (.int .u8 g2.To.2.2.2.1.2.2.2.2),.d (.int .u8 g2.To.2.2.2.2.1),.d (.int .u8 g2.To.2.2.2.2.2.1),.d (.int .u8 g2.To.2.2.2.2.2.2.1),.d (.int .u8 g2.To.2.2.2.2.2.2.2.1),.d (.int .u8 g2.To.2.2.2.2.2.2.2.2)]) tv rfl (Qj rfl) rfl rfl ?_)
   obtain ⟨x17,h16,h⟩:=bnd h
   refine Rn.call (args:=[(l_ x15),.agg [.d (.int .u8 g2.States),.d (.int .u8 g2.Marks),.d (.int .u8 g2.To.1.1),.d (.int .u8 g2.To.1.2.1),.d (.int .u8 g2.To.1.2.2.1),.d (.int .u8 g2.To.1.2.2.2.1),.d (.int .u8 g2.To.1.2.2.2.2),.d (.int .u8 g2.To.2.1.1),.d (.int .u8 g2.To.2.1.2.1),.d (.int .u8 g2.To.2.1.2.2.1),.d (.int .u8 g2.To.2.1.2.2.2.1),.d (.int .u8 g2.To.2.1.2.2.2.2),.d (.int .u8 g2.To.2.2.1.1),.d (.int .u8 g2.To.2.2.1.2.1),.d (.int .u8 g2.To.2.2.1.2.2.1),.d (.int .u8 g2.To.2.2.1.2.2.2.1),.d (.int .u8 g2.To.2.2.1.2.2.2.2),.d (.int .u8 g2.To.2.2.2.1.1),.d (.int .u8 g2.To.2.2.2.1.2.1),.d (.int .u8 g2.To.2.2.2.1.2.2.1),.d (.int .u8 g2.To.2.2.2.1.2.2.2.1),.d (.int .u8 g2.To.2.2.2.1.2.2.2.2),.d (.int .u8 g2.To.2.2.2.2.1),.d (.int .u8 g2.To.2.2.2.2.2.1),.d (.int .u8 g2.To.2.2.2.2.2.2.1),.d (.int .u8 g2.To.2.2.2.2.2.2.2.1),.d (.int .u8 g2.To.2.2.2.2.2.2.2.2)]]) tv rfl (H_overseerlaw03_Make _ _ _ h16) (fun _=>Q1y hM rfl) (Rn.alloc tv rfl (Rn.storeT (v:=(Qb x17)) (ds:=(Qd x17)) (cs':=(Qd x17)) tv rfl rfl rfl rfl rfl rfl rfl ?_))
   refine Rn.nil ⟨rfl,?_⟩
   refine toN (sr ((Rn.load (v:=(Qb x17)) tv rfl (Qj rfl) rfl rfl (md rfl ?_))))
   obtain ⟨⟨r19,r20,r21⟩,h18,h⟩:=bnd h
   refine Rn.call (args:=[(Qb x17),(l_ onto3)]) tv rfl (H_projection_Project _ _ _ h18) pc9 (Rn.mov (v:=.tup [(Qb r19),.d (.lst 1 (List.map (eL 1 (eI .i64)) r20)),(i_ r21)]) tv rfl (Rn.ext (v:=(Qb r19)) (vs:=[(Qb r19),.d (.lst 1 (List.map (eL 1 (eI .i64)) r20)),(i_ r21)]) tv rfl rfl rfl (Rn.extTD (vs:=[(Qb r19),.d (.lst 1 (List.map (eL 1 (eI .i64)) r20)),(i_ r21)]) tv rfl rfl rfl (Rn.ext (v:=(i_ r21)) (vs:=[(Qb r19),.d (.lst 1 (List.map (eL 1 (eI .i64)) r20)),(i_ r21)]) tv rfl rfl rfl (Rn.alloc tv rfl (Rn.storeT (v:=(Qb r19)) (ds:=(Qd r19)) (cs':=(Qd r19)) tv rfl rfl rfl rfl rfl rfl rfl (Rn.movTD tv rfl (md rfl (nt ((sr ((Rn.load (v:=(Qb x17)) tv rfl (Qj rfl) rfl rfl (md rfl ?_))))))))))))))
   obtain ⟨⟨r23,r24⟩,h22,h⟩:=bnd h
   refine Rn.call (args:=[(Qb x17),(l_ onto3)]) tv rfl (H_overseerref07_Project _ _ _ h22) pc9 (Rn.mov (v:=.tup [(Qb r23),.d (.lst 1 (List.map (eL 1 (eI .i64)) r24))]) tv rfl (Rn.ext (v:=(Qb r23)) (vs:=[(Qb r23),.d (.lst 1 (List.map (eL 1 (eI .i64)) r24))]) tv rfl rfl rfl (Rn.extTD (vs:=[(Qb r23),.d (.lst 1 (List.map (eL 1 (eI .i64)) r24))]) tv rfl rfl rfl (Rn.alloc tv rfl (Rn.storeT (v:=(Qb r23)) (ds:=(Qd r23)) (cs':=(Qd r23)) tv rfl rfl rfl rfl rfl rfl rfl (Rn.movTD tv rfl (nt ((sr ((md rfl (Rn.bin tv rfl rfl rfl (md rfl ?_)))))))))))))
   refine Qc2 (r21 == 0) (fun hb25=>?_) (fun hb25=>?_)
   ·replace h:=bT hb25 h
    refine Rn.load (v:=(Qb r19)) (gw rfl hb25) rfl (Qj rfl) rfl rfl (Rn.load (v:=(Qb r23)) (gw rfl hb25) rfl (Qj rfl) rfl rfl ?_)
    obtain ⟨x27,h26,h⟩:=bnd h
    refine Rn.call (args:=[(Qb r19),(Qb r23)]) (gw rfl hb25) rfl (H_overseerref03_Same _ _ _ h26) pc9 (Rn.pickT (v:=(b_ x27)) tv rfl hb25 rfl (md rfl ?_))
    refine Qc2 x27 (fun hb28=>?_) (fun hb28=>?_)
    ·replace h:=bT hb28 h
     refine Rn.movD (gw rfl hb28) rfl (Rn.movD (gw rfl hb28) rfl ?_)
     obtain ⟨x30,h29,h⟩:=bnd h
     refine Rn.call (args:=[.d (.lst 1 (List.map (eL 1 (eI .i64)) r20)),.d (.lst 1 (List.map (eL 1 (eI .i64)) r24))]) (gw rfl hb28) rfl (H_overseerlaw03_SameWords _ _ _ h29) pc9 (Rn.pickT (v:=(b_ x30)) tv rfl hb28 rfl (md rfl ?_))
     refine Qc2 x30 (fun hb31=>?_) (fun hb31=>?_)
     ·replace h:=bT hb31 h
      refine Rn.load (v:=(Qb r19)) (gw rfl hb31) rfl (Qj rfl) rfl rfl ?_
      obtain ⟨x33,h32,h⟩:=bnd h
      refine Rn.call (args:=[(Qb r19)]) (gw rfl hb31) rfl (H_automaton_IsCanonical _ _ h32) pc9 (Rn.pickT (v:=(b_ x33)) tv rfl hb31 rfl (md rfl (nt ((Tr.ret ?_)))))
      replace h:=si h; subst h
      exact ⟨.inr rfl,(b_ x33),rfl,fun _ _ _ _ h=>h,tv,fun k hk=>Qf hk⟩
     ·replace h:=bF hb31 h
      refine Rn.sk (nw rfl hb31) (Rn.sk (nw rfl hb31) (Rn.pickF (v:=(b_ false)) tv rfl hb31 rfl (md rfl (nt ((Tr.ret ?_))))))
      replace h:=si h; subst h
      exact ⟨.inr rfl,(b_ false),rfl,fun _ _ _ _ h=>h,tv,fun k hk=>Qf hk⟩
    ·replace h:=bF hb28 h
     refine Rn.sk (nw rfl hb28) (Rn.sk (nw rfl hb28) (Rn.sk (nw rfl hb28) (Rn.pickF (v:=(b_ false)) tv rfl hb28 rfl (md rfl (Rn.sk (nw (b:=false) rfl rfl) (Rn.sk (nw (b:=false) rfl rfl) (Rn.pickF (v:=(b_ false)) tv rfl rfl rfl (md rfl (nt ((Tr.ret ?_)))))))))))
     replace h:=si h; subst h
     exact ⟨.inr rfl,(b_ false),rfl,fun _ _ _ _ h=>h,tv,fun k hk=>Qf hk⟩
   ·replace h:=bF hb25 h
    refine Rn.sk (nw rfl hb25) (Rn.sk (nw rfl hb25) (Rn.sk (nw rfl hb25) (Rn.pickF (v:=(b_ false)) tv rfl hb25 rfl (md rfl (Rn.sk (nw (b:=false) rfl rfl) (Rn.sk (nw (b:=false) rfl rfl) (Rn.sk (nw (b:=false) rfl rfl) (Rn.pickF (v:=(b_ false)) tv rfl rfl rfl (md rfl (Rn.sk (nw (b:=false) rfl rfl) (Rn.sk (nw (b:=false) rfl rfl) (Rn.pickF (v:=(b_ false)) tv rfl rfl rfl (md rfl (nt ((Tr.ret ?_))))))))))))))))
    replace h:=si h; subst h
    exact ⟨.inr rfl,(b_ false),rfl,fun _ _ _ _ h=>h,tv,fun k hk=>Qf hk⟩
end Go.Abs
end
section
namespace Go.Proofs
open Go.Abs
set_option maxRecDepth 100000
theorem Qjy : Qs Tryz.prog 3 = some Qdr:=by kernel_rfl
theorem Q3b : Qs Tryz.prog 8 = some Qhv:=by kernel_rfl
theorem Q5x : Qs Tryz.prog 9 = some Qiq:=by kernel_rfl
theorem Q5y : Qs Tryz.prog 10 = some Qit:=by kernel_rfl
theorem Qqw : Qs Tryz.prog 11 = some Qfj:=by kernel_rfl
theorem Q5z : Qs Tryz.prog 12 = some Qil:=by kernel_rfl
theorem Qx4 : Qs Tryz.prog 13 = some Qgs:=by kernel_rfl
theorem Q50 : Qs Tryz.prog 14 = some Qio:=by kernel_rfl
theorem Qr0 : Qs Tryz.prog 15 = some Qfw:=by kernel_rfl
theorem Qx5 : Qs Tryz.prog 16 = some Qgu:=by kernel_rfl
theorem Qt8 : Qs Tryz.prog 19 = some Qgh:=by kernel_rfl
theorem Q3c : Qs Tryz.prog 20 = some Qh1:=by kernel_rfl
theorem Q51 : Qs Tryz.prog 23 = some Qiv:=by kernel_rfl
theorem Q52 : Qs Tryz.prog 24 = some Qix:=by kernel_rfl
theorem Q9b : Qs Tryz.prog 31 = some Qk6:=by kernel_rfl
theorem Qx6 : Qs Tryz.prog 34 = some Qgp:=by kernel_rfl
theorem Q53 : Qs Tryz.prog 35 = some Qin:=by kernel_rfl
theorem Q3d : Qs Tryz.prog 36 = some Qhw:=by kernel_rfl
theorem Qr1 : Qs Tryz.prog 37 = some Qfy:=by kernel_rfl
theorem Q8d : Qs Tryz.prog 38 = some Qj4:=by kernel_rfl
theorem Q54 : Qs Tryz.prog 39 = some Qik:=by kernel_rfl
theorem Qpq : Qs Tryz.prog 40 = some Qe6:=by kernel_rfl
theorem Ql7 : Qs Tryz.prog 42 = some Qei:=by kernel_rfl
theorem Qqx : Qs Tryz.prog 43 = some Qfh:=by kernel_rfl
theorem Q3e : Qs Tryz.prog 44 = some Qh3:=by kernel_rfl
theorem Q7e : Qs Tryz.prog 45 = some Qjl:=by kernel_rfl
theorem Q9c : Qs Tryz.prog 46 = some Qkz:=by kernel_rfl
theorem Q9d : Qs Tryz.prog 47 = some Qll:=by kernel_rfl
theorem Q3f : Qs Tryz.prog 48 = some Qhr:=by kernel_rfl
theorem Q3g : Qs Tryz.prog 49 = some Qhq:=by kernel_rfl
theorem Qpr : Qs Tryz.prog 50 = some Qe4:=by kernel_rfl
theorem Q1c : Qs Tryz.prog 51 = some Qhc:=by kernel_rfl
theorem Qps : Qs Tryz.prog 52 = some Qe8:=by kernel_rfl
theorem Q1d : Qs Tryz.prog 53 = some Qha:=by kernel_rfl
theorem Qbbl : Qs Tryz.prog 54 = some Qo5:=by kernel_rfl
theorem Q8e : Qs Tryz.prog 55 = some Qj5:=by kernel_rfl
theorem Q3h : Qs Tryz.prog 56 = some Qho:=by kernel_rfl
theorem Qr2 : Qs Tryz.prog 58 = some Qft:=by kernel_rfl
theorem Q8f : Qs Tryz.prog 63 = some Qj9:=by kernel_rfl
theorem Q7f : Qs Tryz.prog 65 = some Qjh:=by kernel_rfl
theorem Q7g : Qs Tryz.prog 66 = some Qjj:=by kernel_rfl
theorem Q1e : Qs Tryz.prog 70 = some Qg8:=by kernel_rfl
theorem Q3i : Qs Tryz.prog 71 = some Qht:=by kernel_rfl
theorem Q3j : Qs Tryz.prog 72 = some Qhy:=by kernel_rfl
theorem Q7h : Qs Tryz.prog 73 = some Qjk:=by kernel_rfl
theorem Q55 : Qs Tryz.prog 74 = some Qir:=by kernel_rfl
theorem Q3k : Qs Tryz.prog 75 = some Qh0:=by kernel_rfl
theorem Qkr : Qs Tryz.prog 78 = some Qd1:=by kernel_rfl
theorem Q56 : Qs Tryz.prog 79 = some Qij:=by kernel_rfl
theorem Q1f : Qs Tryz.prog 80 = some Qg5:=by kernel_rfl
theorem Q7i : Qs Tryz.prog 81 = some Qjn:=by kernel_rfl
theorem Qr3 : Qs Tryz.prog 82 = some Qfv:=by kernel_rfl
theorem Qm4 : Qs Tryz.prog 83 = some Qeq:=by kernel_rfl
theorem Qm5 : Qs Tryz.prog 84 = some Qes:=by kernel_rfl
theorem Qm6 : Qs Tryz.prog 85 = some Qeu:=by kernel_rfl
theorem Q9e : Qs Tryz.prog 86 = some Qlh:=by kernel_rfl
theorem Q9f : Qs Tryz.prog 87 = some Qlj:=by kernel_rfl
theorem Q8g : Qs Tryz.prog 88 = some Qj3:=by kernel_rfl
theorem Q1g : Qs Tryz.prog 89 = some Qg7:=by kernel_rfl
theorem Qbci : Qs Tryz.prog 97 = some Qri:=by kernel_rfl
theorem Q8h : Qs Tryz.prog 98 = some Qj7:=by kernel_rfl
theorem Qbbm : Qs Tryz.prog 121 = some Qou:=by kernel_rfl
end Go.Proofs
end
section
namespace Go.Abs
open Go Go.Sort
section plain
variable {β : Type}
def insB (lt : β → β → Bool) (x : β) : List β → List β
 | []=>[x]
 | y :: ys=>if lt y x then y :: insB lt x ys else x :: y :: ys
def Qid (lt : β → β → Bool) : List β → List β
 | []=>[]
 | x :: xs=>insB lt x (Qid lt xs)
def Qbcj (lt : β → β → Bool) : List β → Bool
 | []=>true
 | x :: xs=>xs.all (fun y=>lt x y || lt y x) && Qbcj lt xs
def Qbon (ok : β → Bool) (lt : β → β → Bool) (l : List β) : Option (List β):=if l.all ok && Qbcj lt l then some (Qid lt l) else none
theorem Qbbn (lt : β → β → Bool) (x : β) : ∀ l,(insB lt x l).Perm (x :: l)
 | []=>.refl _
 | y :: ys=>by
  unfold insB; split
  ·exact ((Qbbn lt x ys).cons y).trans (.swap x y ys)
  ·exact .refl _
theorem Qjp (lt : β → β → Bool) : ∀ l,(Qid lt l).Perm l
 | []=>.refl _
 | x :: xs=>(Qbbn lt x _).trans ((Qjp lt xs).cons x)
theorem Qkb (lt : β → β → Bool) (l : List β) : (Qid lt l).length = l.length:=(Qjp lt l).length_eq
theorem Qbbo {lt : β → β → Bool} (h : SWO lt) (x : β) : ∀ l,l.Pairwise (fun a b=>lt b a = false) → (insB lt x l).Pairwise fun a b=>lt b a = false
 | [],_=>by simp [insB]
 | y :: ys,hl=>by
  obtain ⟨h1,h2⟩:=List.pairwise_cons.1 hl
  unfold insB; split
  ·rename_i hc
   refine List.pairwise_cons.2 ⟨fun z hz=>?_,Qbbo h x ys h2⟩
   rcases List.mem_cons.1 ((Qbbn lt x ys).mem_iff.1 hz) with rfl | hz
   ·cases hb : lt z y with
    | false=>rfl
    | true=>have:=h.trans _ _ _ hc hb; rw [h.irrefl] at this; cases this
   ·exact h1 z hz
  ·rename_i hc
   have hc : lt y x = false:=by cases h : lt y x <;> simp_all
   refine List.pairwise_cons.2 ⟨fun z hz=>?_,hl⟩
   rcases List.mem_cons.1 hz with rfl | hz
   ·exact hc
   ·exact h.ntrans _ _ _ (h1 z hz) hc
theorem Qkc {lt : β → β → Bool} (h : SWO lt) : ∀ l,(Qid lt l).Pairwise fun a b=>lt b a = false
 | []=>.nil
 | x :: xs=>Qbbo h x _ (Qkc h xs)
theorem Qbdg {lt : β → β → Bool} : ∀ {l : List β},Qbcj lt l = true → ∀ a b,a ∈ l → b ∈ l → lt a b = false → lt b a = false → a = b
 | [],_,a,_,ha,_,_,_=>by cases ha
 | x :: xs,h,a,b,ha,hb,h1,h2=>by
  simp only [Qbcj,Bool.and_eq_true,List.all_eq_true] at h
  obtain ⟨k1,k2⟩:=h
  rcases List.mem_cons.1 ha with e1 | ha' <;> rcases List.mem_cons.1 hb with e2 | hb'
  ·rw [e1,e2]
  ·subst e1; have:=k1 b hb'; simp [h1,h2] at this
  ·subst e2; have:=k1 a ha'; simp [h1,h2] at this
  ·exact Qbdg k2 a b ha' hb' h1 h2
theorem Qbei {lt : β → β → Bool} (h : SWO lt) {l m : List β} (hd : Qbcj lt l = true) (hp : m.Perm l) (hs : m.Pairwise fun a b=>lt b a = false) : m = Qid lt l:=by
 refine List.Perm.eq_of_pairwise (le:=fun a b=>lt b a = false) (fun a b ha hb h1 h2=>?_) hs (Qkc h l) (hp.trans (Qjp lt l).symm)
 exact Qbdg hd a b (hp.mem_iff.1 ha) ((Qjp lt l).mem_iff.1 hb) h2 h1
theorem Qbid {α : Type} (f : α → β) (lt : β → β → Bool) (x : α) : ∀ l : List α,insB lt (f x) (l.map f) = (insB (fun a b=>lt (f a) (f b)) x l).map f
 | []=>rfl
 | y :: ys=>by
  simp only [List.map_cons,insB]; split
  ·simp only [List.map_cons,Qbid f lt x ys]
  ·rfl
theorem Qbdh {α : Type} (f : α → β) (lt : β → β → Bool) : ∀ l : List α,Qid lt (l.map f) = (Qid (fun a b=>lt (f a) (f b)) l).map f
 | []=>rfl
 | x :: xs=>by simp only [List.map_cons,Qid,Qbdh f lt xs,Qbid]
theorem Qbfu {α : Type} (f : α → β) (lt : β → β → Bool) : ∀ l : List α,Qbcj lt (l.map f) = Qbcj (fun a b=>lt (f a) (f b)) l
 | []=>rfl
 | x :: xs=>by simp only [List.map_cons,Qbcj,Qbfu f lt xs,List.all_map]; rfl
end plain
def Qfe (a b : Int) : Bool:=decide (a < b)
end Go.Abs
end
section
namespace Go.Abs
open Go Go.Sort Go.RowKit
theorem Qbbp {P : Program} {f : FuncId} {ex : Array Value} {exV : List V} {sz nb : Nat} {M : Mem} (hb : Qg3 P f = true) (hex : ∀ g w us,RFs g w exV us → us = ex.toList)
  (h : ∀ (p : Option Addr) (cap : Nat) (w : World),Calls P f (#[.slice p 0 cap] ++ ex) w fun e' w'=>e' = .returned (.tuple #[]) ∧ w' = w) :
  ACalls P f (.d (.lst sz []) :: exV) M nb (.tup []) M nb:=by
 refine ⟨hb,Nat.le_refl _,fun w g us hm hMon hfresh hus hfl hons=>?_⟩
 obtain ⟨u0,us',rfl,hu0,hus'⟩:=hus
 have h1:=hex _ _ _ hus'
 subst h1
 have h2 : ∃ p cap,u0 = .slice p 0 cap:=by
  have:=RF_d.1 hu0
  obtain ⟨a,cap,rfl,_,_⟩:=this
  exact ⟨a,cap,rfl⟩
 obtain ⟨p,cap,rfl⟩:=h2
 have e1 : (Value.slice p 0 cap :: ex.toList).toArray = #[.slice p 0 cap] ++ ex:=by apply Array.ext'; simp
 rw [e1]
 refine (h p cap w).mono ?_
 rintro e' w' ⟨rfl,rfl⟩
 exact ⟨_,g,rfl,hm,⟨[],rfl,rfl⟩,trivial,hMon,Fr.refl _ _ _⟩
theorem Qbg8 (l : List Int) : (l.mergeSort fun x y=>decide (x ≤ y)) = Qid Qfe l:=by
 have hO : Go.Sort.SWO Qfe:=⟨fun x=>by simp [Qfe],fun x y z h1 h2=>by simp [Qfe] at *; omega,fun x y z h1 h2=>by simp [Qfe] at *; omega⟩
 refine List.Perm.eq_of_pairwise (le:=fun a b=>Qfe b a = false) (fun a b _ _ h1 h2=>by simp [Qfe] at *; omega) ?_ (Qkc hO l) ((List.mergeSort_perm _ _).trans (Qjp _ l).symm)
 have:=List.pairwise_mergeSort (le:=fun x y : Int=>decide (x ≤ y)) (fun a b c h1 h2=>by simp at *; omega) (fun a b=>by simp; omega) l
 exact this.imp fun h=>by simp [Qfe] at *; omega
end Go.Abs
end
section
namespace Go.Abs
def sortI (l : List Int) : Option (List Int) := if l.length ≤ lim then some (Qid Qfe l) else none
def Qbie (l : List Int) : Option (List Int) := if l.length ≤ lim then some (Lib.compact l) else none
def okE (x : Qe) : Bool := decide (0 ≤ x.From ∧ x.From < 4611686018427387904 ∧ 0 ≤ x.Event ∧ x.Event < 4611686018427387904)
def ltE (x y : Qe) : Bool := decide (x.From < y.From ∨ (x.From = y.From ∧ x.Event < y.Event))
def Qbnr (l : List Qe) : Option (List Qe) := if l.length ≤ 65536 then Qbon okE ltE l else none
def Qboo (n : Int) : Option (List Int) := if 0 ≤ n ∧ n ≤ lim then some [] else none
def keyB (l : List Int) : ByteArray := ⟨(l.flatMap fun x => Lib.encodeRune (x + 1)).toArray⟩
def keyS (l : List Int) : Option ByteArray := if l.length ≤ lim ∧ ∀ x ∈ l, 0 ≤ x ∧ x < 50000 then some (keyB l) else none
end Go.Abs
end
section
namespace Go.Abs
open Go Go.Abs
set_option maxRecDepth 10000
set_option maxHeartbeats 4000000
def Qbc : Nat:=1099511627776
def Qkd:=Qb5
def Qf7:=Qb2 Qbc
def Qhh:=Qcz Qbc
def Qbb:=Qi Qhh
def Qfb:=Qbz Qbb Qbc
def Qe0:=Q6 Qf7 Qfb
def Qh4:=Qcm Qbc
def Qdv:=Qz Qe0 Qh4
def Qew:=Qbd Qbb Qbc
def Q4:=Q2
def Qc6:=Qu Qbb sortI Q4 Qbc
def Qdw:=Qbj Qc6
def Qd2:=Q1 Qbb
def Qhd:=Qb0 Qbc
def Qdh:=Qx Qhd
def Qdf:=Q8 Qdh Qd2
def Qd4:=Qbm Qc6 Qbc
def Qdy:=Qbe Qdv Qew Qdw keyS Qdf Qd4 Qbc
def Qgx:=Qbl Qbb
def Qh5:=Qbs Qdh Qgx
def Qfo:=Qbn
def Qt9:=Qdn Qdv Qew Qh5 Qfo Qbb Qbc
def Qpt:=Qc3
def Qpu:=Qc4 Qboo Qbc
def Q1h:=Qg9
def Qpv:=Qdg
def Qi9:=Qeb Qpv
def Qhi:=Qck
def Qct:=Qbp Qi9 Qhi Qbc
def Qdj:=Q3 Qbc
def Qh9:=Qda
def Qia:=Qdb
def Qgi:=Qdu Qdj Qh9 Qia
def Qek:=Q9 Qgi Qfo Qct Qbc
def Ql8:=Qcn Qe0 Qek
def Qm7:=Qcu Qdv Qbb Qpt Qpu sortI Qbie Qbnr Ql8 Qbc
def Qci:=Qr Qbc
def Qex:=Qbf Qci Qbc
def Qdi:=Qy Qci Qbc
def Qh6:=Qb7 Qdy Qex Qdi Qci Qt9 Qkd Qm7
def Qf8:=Qcc Qbc
def Qd5:=Qbu Qbc
def Qdo:=Qt
def Qcg:=Qbg Qbc
def Qc7:=Qbk Qbc
def Qfp:=Qb8 Qc7 Qcg Qbc
def Qel:=Qb9 Qbc
def Qed:=Qbq Qdo Qfp Qc7 Qcg Qel Qbc
def Qf9:=Qcd Qdo Qed Qbc
def Qc8:=Qq Qbc
def Qga:=Qce Qc8 Qbc
def Qd7:=Q5 Qc8 Qbc
def Qfc:=Qb1 Qc8 Qbc
def Qem:=Qba Qc8 Qfc Qbc
def Qfq:=Qca Qem Qd7
def Qgb:=Qcf Qem Qc8 Qd7 Qbc
def Qcq:=Qbr Qci Qga Qgb Qdo Qfq Qc8 Qbc
def Qhj:=Qcl Qbc
def Qgv:=Qcp Qbc
def Qib:=Qdc Qhj Qgv
def Qez:=Qbw Qe0 Qib Qek
def Qds:=Qcr Qh6 Qf8 Qf9 Qd5 Qdy Qcq Qex Qdi Qez
end Go.Abs
end
section
namespace Go.Abs
open Go Go.Sort Go.Shelf Go.RowKit Go.Lib Go.Proofs
theorem Qbfv {α : Type} [Inhabited α] {enc : α → List Value} {k : Nat} (hk : ∀ x,(enc x).length = k) (h0 : 0 < k) : ∀ (l : List α) (t : Nat),t < l.length * k → (l.map enc).flatten[t]? = some (enc l[t / k]!)[t % k]!
 | [],t,h=>by simp at h
 | x :: xs,t,h=>by
  rw [List.map_cons,List.flatten_cons]
  by_cases hl : t < k
  ·rw [List.getElem?_append_left (by rw [hk]; exact hl),Nat.div_eq_of_lt hl,Nat.mod_eq_of_lt hl]
   have : t < (enc x).length:=by rw [hk]; exact hl
   simp [this]
  ·have hge : k ≤ t:=by omega
   have h2 : t - k < xs.length * k:=by simp only [List.length_cons,Nat.add_mul,Nat.one_mul] at h; omega
   rw [List.getElem?_append_right (by rw [hk]; exact hge),hk,Qbfv hk h0 xs (t - k) h2]
   have e1 : t / k = (t - k) / k + 1:=by rw [← Nat.add_div_right _ h0,Nat.sub_add_cancel hge]
   have e2 : t % k = (t - k) % k:=by rw [Nat.mod_eq_sub_mod hge]
   rw [e1,e2]; simp
theorem Qbfw {α : Type} [Inhabited α] {enc : α → List Value} {k : Nat} (hk : ∀ x,(enc x).length = k) (h0 : 0 < k) (l : List α) : flatK enc k l.toArray = (l.map enc).flatten.toArray:=by
 have hs : (l.map enc).flatten.length = l.length * k:=by
  induction l with
  | nil=>simp
  | cons x xs ih=>rw [List.map_cons,List.flatten_cons,List.length_append,ih,hk]; simp [Nat.add_mul]; omega
 refine ext_get! (by simp [hs]) fun t ht=>?_
 have ht' : t < l.length * k:=by simpa using ht
 rw [get_flatK _ _ _ _ (by simpa using ht')]
 have:=Qbfv hk h0 l t ht'
 obtain ⟨h1,h2⟩:=List.getElem?_eq_some_iff.1 this
 rw [getElem!_pos _ t (by simpa using h1)]
 simp only [List.getElem_toArray,h2]
 simp
theorem Qbfx {α : Type} (e : α → List D) (xs : List α) : rowV e xs = (xs.map fun x=>(e x).map D.val).flatten:=by
 unfold rowV; rw [List.map_flatten,List.map_map]; rfl
theorem Qbck {P : Program} {ρ : Ren} {α : Type} [Inhabited α] (L : SlLaysF0.n6 P ρ) {k : Nat} (aE : ∀ w,(isAgg (ρ.t 24)).run P w = .ok true w) (zE : ∀ w,(Go.sizeOf (ρ.t 24)).run P w = .ok k w) (e : α → List D) (hk : ∀ x,(e x).length = k) (h0 : 0 < k) (hsc : ∀ x,(e x).all D.scalar = true)
  (cf : α → α → Int) (hO : SWO (ltOf cf)) (g : Nat) (cb : Array Value) (eg : ∀ args w,(callFunc g args).run P w = .ok (.enter g args) w)
  (hcmp : ∀ (x y : α) (W : World),Calls P g (#[.agg ((e x).map D.val).toArray,.agg ((e y).map D.val).toArray] ++ cb) W fun r w'=>r = .returned (.int .i64 (cf x y)) ∧ ∃ q os',w' = grow (W.drewN q) os') :
  Qbk9 P (ρ.f 6) e #[.func (.func g) #[] cb] (fun xs=>(pdq (ltOf cf) xs.toArray 0 xs.length (Lib.bitLen xs.length) true true).toList):=by
 intro blk cap xs w hc hblk hsz
 have henc : ∀ x,((fun x=>(e x).map D.val) x).length = k:=fun x=>by simp [hk]
 have h1 : ∀ x : α,∀ v ∈ (e x).map D.val,v.oneCell' = true:=by
  intro x v hv
  obtain ⟨d,hd,rfl⟩:=List.mem_map.1 hv
  exact Qbg7 (List.all_eq_true.1 (hsc x) d hd)
 have hH : HoldsK (fun x=>(e x).map D.val) k w blk 0 xs.toArray:=by
  unfold HoldsK
  rw [Qbfw henc h0,← Qbfx]
  intro j hj
  have hj' : j < (rowV e xs).length:=by simpa using hj
  obtain ⟨k1,k2⟩:=hc j hj'
  rw [Nat.zero_add]
  refine ⟨k1.trans ?_,k2⟩
  rw [List.getElem?_eq_getElem hj',getElem!_pos _ j hj]; rfl
 have hcl : CmpLays P g cb (fun x=>(e x).map D.val) k cf blk 0 xs.toArray.size w:=fun _ _ _ _ x y=>hcmp x y _
 have:=AnyQ.slices_SortFunc_eq L k aE zE (fun x=>(e x).map D.val) henc h1 cf hO g cb blk 0 cap xs.toArray w eg hcl hH hblk (by simpa using hsz)
 refine this.mono ?_
 rintro r w' ⟨rfl,n,os,rfl⟩
 refine ⟨rfl,n,os,?_⟩
 unfold sortWorldK putRowK
 have hrow : flatK (fun x=>(e x).map D.val) k (pdq (ltOf cf) xs.toArray 0 xs.toArray.size (Lib.bitLen xs.toArray.size) true true) = (rowV e (pdq (ltOf cf) xs.toArray 0 xs.length (Lib.bitLen xs.length) true true).toList).toArray:=by
  rw [Qbfx,← Qbfw henc h0]; simp
 rw [hrow]
section
variable {α : Type} [Inhabited α]
theorem Qbej {lt : α → α → Bool} (hO : SWO lt) (xs : List α) (k : Nat) : (pdq lt xs.toArray 0 xs.length k true true).toList.Perm xs ∧ (pdq lt xs.toArray 0 xs.length k true true).toList.Pairwise fun a b=>lt b a = false:=by
 obtain ⟨⟨h1,_,h2⟩,h3⟩:=pdq_sorts lt hO xs.toArray 0 xs.length k true true (Nat.zero_le _) (by simp) (Or.inl rfl)
 generalize pdq lt xs.toArray 0 xs.length k true true = d at *
 have hs : d.size = xs.length:=by simpa using h1
 refine ⟨?_,?_⟩
 ·have e1 : d.extract 0 xs.length = d:=by rw [← hs]; exact Array.extract_size
  have e2 : xs.toArray.extract 0 xs.length = xs.toArray:=by
   have : xs.length = xs.toArray.size:=by simp
   rw [this]; exact Array.extract_size
  rw [e1,e2] at h2
  simpa using h2
 ·rw [List.pairwise_iff_getElem]
  intro i j hi hj hij
  have hi' : i < d.size:=by simpa using hi
  have hj' : j < d.size:=by simpa using hj
  have:=h3 i j (Nat.zero_le _) hij (by omega)
  rw [getElem!_pos d i hi',getElem!_pos d j hj'] at this
  simpa using this
theorem Qblh {lt : α → α → Bool} (hO : SWO lt) (xs : List α) (k : Nat) (hd : Qbcj lt xs = true) : (pdq lt xs.toArray 0 xs.length k true true).toList = Qid lt xs :=
 Qbei hO hd (Qbej hO xs k).1 (Qbej hO xs k).2
end
theorem Qbli {β : Type} {P : Program} {c : Nat} {e : β → List D} {sz N : Nat} {ok : β → Bool} {lt : β → β → Bool} [Inhabited {x : β // ok x = true}] {lt' : {x : β // ok x = true} → {x : β // ok x = true} → Bool}
  (hN : N < 4611686018427387904) (hk : ∀ x,(e x).length = sz) (hsc : ∀ x,(e x).all D.scalar = true) (hO : SWO lt') (hlt : ∀ x y,lt' x y = lt x.1 y.1) (hb : Qg3 P c = true) {ex : Array Value} {exV : List V} (hex : ∀ g w us,RFs g w exV us → us = ex.toList)
  (hrow : Qbk9 P c (fun x : {x : β // ok x = true}=>e x.1) ex (fun xs=>(pdq lt' xs.toArray 0 xs.length (Lib.bitLen xs.length) true true).toList))
  (hnone : ∀ (p : Option Addr) (cap : Nat) (w : World),Calls P c (#[.slice p 0 cap] ++ ex) w fun e' w'=>e' = .returned (.tuple #[]) ∧ w' = w) :
  RowK P c e sz exV (fun l=>if l.length ≤ N then Qbon ok lt l else none):=by
 intro xs ys h
 dsimp only at h
 split at h <;> try (cases h; done)
 rename_i hlN
 unfold Qbon at h
 split at h <;> cases h
 rename_i hok
 simp only [Bool.and_eq_true,List.all_eq_true] at hok
 obtain ⟨ho,hd⟩:=hok
 obtain ⟨zs,rfl⟩ : ∃ zs : List {x : β // ok x = true},xs = zs.map Subtype.val:=⟨xs.pmap Subtype.mk ho,by rw [List.map_pmap]; simp⟩
 have hd' : Qbcj lt' zs = true:=by
  rw [Qbfu] at hd
  rw [show lt' = fun a b=>lt a.1 b.1 from funext fun a=>funext fun b=>hlt a b]; exact hd
 have e1 : Qid lt (zs.map Subtype.val) = (Qid lt' zs).map Subtype.val:=by
  rw [Qbdh,show lt' = fun a b=>lt a.1 b.1 from funext fun a=>funext fun b=>hlt a b]
 refine ⟨Qkb _ _,fun h0=>?_,fun hl cap k0 M nb hM=>?_⟩
 ·simp only [List.map_eq_nil_iff] at h0
  subst h0
  exact ⟨rfl,fun M nb=>Qbbp hb hex hnone⟩
 ·have hM' : M k0 = some (.cells (Qbt (zs.map fun x=>e x.1) ((cap - zs.length) * sz))):=by
   rw [hM,List.map_map,List.length_map]; rfl
  have:=Qbde (fun x=>hk x.1) (fun x=>hsc x.1) (fun xs=>(Qbej hO xs _).1.length_eq) hex hb hrow zs cap k0 M nb hM' (by rw [List.length_map] at hlN; omega)
  rw [Qblh hO zs _ hd'] at this
  rw [e1,List.map_map,List.length_map]
  exact this
end Go.Abs
end
section
namespace Go.Abs
open Go Go.RowKit
end Go.Abs
end
section
namespace Go.Abs
open Go Go.Sort Go.RowKit
theorem Qbbq (xs : List Int) : rowV (eI .i64) xs = xs.map (Value.int .i64):=by
 unfold rowV
 induction xs with
 | nil=>rfl
 | cons x xs ih=>simp only [List.map_cons,List.flatten_cons,List.map_append,ih]; rfl
theorem Qblj {P : Program} {c : Nat} (hb : Qg3 P c = true)
  (hs : ∀ (blk off cap : Nat) (zs : List Int) (w : World),Holds (Value.int .i64) w blk off zs.toArray → blk < w.heap.size → zs.length < 4611686018427387904 →
   Calls P c #[.slice (some ⟨blk,off,none⟩) zs.length cap] w fun e w'=>e = .returned (.tuple #[]) ∧ ∃ n os,w' = grow (putRow (Value.int .i64) (Sort.ahead w n) blk off (zs.mergeSort fun x y=>decide (x ≤ y)).toArray) os)
  (hnone : ∀ (p : Option Addr) (cap : Nat) (w : World),Calls P c (#[.slice p 0 cap] ++ #[]) w fun e' w'=>e' = .returned (.tuple #[]) ∧ w' = w) :
  RowK P c (eI .i64) 1 [] (fun l=>if l.length ≤ lim then some (Qid Qfe l) else none):=by
 have hrow : Qbk9 P c (eI .i64) #[] (fun xs=>Qid Qfe xs):=by
  intro blk cap xs w hcell hblk hsz
  refine Calls.mono (hs blk 0 cap xs w ?_ hblk hsz) ?_
  ·intro j hj
   have hj' : j < xs.length:=by simpa using hj
   have:=hcell j (by rw [Qbbq]; simpa using hj')
   rw [Qbbq] at this
   rw [Nat.zero_add]
   refine ⟨?_,this.2⟩
   rw [this.1,getElem!_pos xs.toArray j hj]
   simp [hj']
  ·rintro e w' ⟨rfl,n,os,rfl⟩
   refine ⟨rfl,n,os,?_⟩
   rw [Qbg8,Qbbq]
   congr 1
   unfold putRow
   congr 1
   funext c
   unfold putCells
   congr 1
   funext k x
   simp only [List.size_toArray,List.length_map]
   split
   ·rename_i h
    simp only [id]
    rw [getElem!_pos _ _ (by simp; omega),getElem!_pos _ _ (by simp; omega)]
    simp
   ·rfl
 intro xs ys h
 dsimp only at h
 split at h <;> cases h
 rename_i hl
 refine ⟨Qkb _ _,fun h0=>?_,fun hl2 cap k0 M nb hM=>?_⟩
 ·subst h0
  exact ⟨rfl,fun M nb=>Qbbp (ex:=#[]) (exV:=[]) hb (fun _ _ _ h=>h) hnone⟩
 ·exact Qbde (e:=eI .i64) (fun _=>rfl) (fun _=>rfl) (fun xs=>Qkb _ _) (ex:=#[]) (exV:=[]) (fun _ _ _ h=>h) hb hrow xs cap k0 M nb hM (by unfold lim at hl; omega)
end Go.Abs
end
section
namespace Go.Abs
open Go Go.Sort Go.RowKit Go.Lib
theorem Qbbr (zs : List Int) : (Lib.compact zs).length ≤ zs.length:=by
 unfold Lib.compact Lib.compactUpTo
 rw [List.length_map]
 exact Nat.le_trans (List.length_filter_le _ _) (by simp)
theorem Qbop (l : List Int) : (l.map (eI .i64)).flatten = l.map (D.int .i64):=by
 induction l with
 | nil=>rfl
 | cons x l ih=>simp only [List.map_cons,List.flatten_cons,ih]; rfl
theorem Qbi7 {P : Program} {c : Nat} (hb : Qg3 P c = true)
  (hs : ∀ (blk off cap : Nat) (zs : List Int) (w : World),Holds (Value.int .i64) w blk off zs.toArray → zs.length ≤ 9223372036854775807 → zs.length ≤ cap →
   Calls P c #[.slice (some ⟨blk,off,none⟩) zs.length cap] w fun e w'=>e = .returned (.slice (some ⟨blk,off,none⟩) (Lib.compact zs).length cap) ∧ ∃ n,w' = putRow (Value.int .i64) (Sort.ahead w n) blk off (Lib.compact zs ++ List.replicate (zs.length - (Lib.compact zs).length) 0).toArray)
  (hnone : ∀ (p : Option Addr) (cap : Nat) (w : World),Calls P c #[.slice p 0 cap] w fun e' w'=>e' = .returned (.slice p 0 cap) ∧ w' = w) :
  CompK P c (fun l=>if l.length ≤ lim then some (Lib.compact l) else none):=by
 intro xs ys hf
 dsimp only at hf
 split at hf <;> cases hf
 rename_i hl
 refine ⟨Qbbr xs,fun h0=>?_,fun cap k0 M nb hcap hM=>?_⟩
 ·subst h0
  refine ⟨rfl,fun M nb=>⟨hb,Nat.le_refl _,fun w g us hm hMon hfresh hus hfl hons=>?_⟩⟩
  obtain ⟨u0,us',rfl,hu0,rfl⟩:=hus
  have h2:=RF_d.1 hu0
  obtain ⟨a,cp,rfl,_,_⟩:=id h2
  refine (hnone a cp w).mono ?_
  rintro e' w' ⟨rfl,rfl⟩
  exact ⟨_,g,rfl,hm,hu0 _,trivial,hMon,Fr.refl _ _ _⟩
 refine ⟨hb,Nat.le_refl _,fun w g us hm hMon hfresh hus hfl hons=>?_⟩
 obtain ⟨u0,us',rfl,hu0,rfl⟩:=hus
 have h0:=Qbcf.1 hu0
 subst h0
 obtain ⟨hk0,hown,vals,et,hh,hrv,hone⟩:=hm.box k0 _ hM
 have hlt : g.box k0 < w.heap.size:=(Array.getElem?_eq_some_iff.1 hh).1
 obtain ⟨hvl,hvr⟩:=(Qco _ _ _ _).1 hrv
 simp only [Qbt,Qbop,List.map_map,List.length_append,List.length_map,List.length_replicate,Nat.mul_one] at hvl hvr
 have hcell : ∀ (j : Nat) (x : Int),xs[j]? = some x → vals[j]? = some (.int .i64 x):=by
  intro j x hx
  have hj:=(List.getElem?_eq_some_iff.1 hx).1
  have hjv : j < vals.length:=by omega
  have hc : (List.map (V.d ∘ D.int .i64) xs ++ List.replicate (cap - xs.length) V.und)[j]? = some (.d (.int .i64 x)):=by
   rw [List.getElem?_append_left (by rw [List.length_map]; exact hj),List.getElem?_map,hx]; rfl
  have:=hvr j _ _ hc (List.getElem?_eq_getElem hjv)
  have h2 : vals[j] = .int .i64 x:=this
  rw [List.getElem?_eq_getElem hjv,h2]
 have hH : Holds (Value.int .i64) w (g.box k0) 0 xs.toArray:=by
  intro j hj
  have hj' : j < xs.length:=by simpa using hj
  have:=hcell j xs[j] (List.getElem?_eq_getElem hj')
  rw [Nat.zero_add]
  refine ⟨?_,by simp [World.frozen?,hh]⟩
  rw [getElem!_pos xs.toArray j hj]
  simp [World.cell?,hh,this]
 refine (hs (g.box k0) 0 cap xs w hH (by unfold lim at hl; omega) hcap).mono ?_
 rintro e' w' ⟨rfl,n,rfl⟩
 have hyl:=Qbbr xs
 generalize Lib.compact xs = ys at hyl ⊢
 generalize hF : (ys ++ List.replicate (xs.length - ys.length) 0).toArray = F
 have hFs : F.size = xs.length:=by rw [← hF]; simp; omega
 have hput : putRow (Value.int .i64) (Sort.ahead w n) (g.box k0) 0 F = grow (putRow id (Sort.ahead w n) (g.box k0) 0 (F.map (Value.int .i64))) #[]:=by
  have e1 : ∀ W : World,grow W #[] = W:=fun W=>by unfold grow; simp
  rw [e1]
  unfold putRow
  congr 1
  funext c
  unfold putCells
  congr 1
  funext k x
  simp only [Array.size_map]
  split
  ·rename_i h
   simp only [id]
   rw [getElem!_pos _ _ (by omega),getElem!_pos _ _ (by simp; omega)]
   simp
  ·rfl
 rw [hput]
 generalize hF' : F.map (Value.int .i64) = F'
 have hFs' : F'.size = xs.length:=by rw [← hF',Array.size_map,hFs]
 have hFv : ∀ j (h : j < ys.length),F'[j]'(by omega) = Value.int .i64 ys[j]:=by
  intro j h
  subst hF'
  subst hF
  simp only [List.getElem_toArray,Array.getElem_map]
  rw [List.getElem_append_left h]
 have hFi : ∀ j (h : j < F'.size),∃ z : Int,F'[j] = Value.int .i64 z:=by
  intro j h
  subst hF'
  exact ⟨_,Array.getElem_map ..⟩
 have hblk:=Qbbh w n (g.box k0) F' #[] hh
 have hoth : ∀ b,b ≠ g.box k0 → b < w.heap.size → (grow (putRow id (Sort.ahead w n) (g.box k0) 0 F') #[]).heap[b]? = w.heap[b]?:=fun b hb hlt=>Qr7 w n _ F' #[] hb hlt
 have hsize : w.heap.size ≤ (grow (putRow id (Sort.ahead w n) (g.box k0) 0 F') #[]).heap.size:=by
  simp [putRow,mapBlock,Sort.ahead]
 generalize hw' : grow (putRow id (Sort.ahead w n) (g.box k0) 0 F') #[] = w' at hblk hoth hsize
 have himm : Imm g.imm g.imm w w':=by
  refine ⟨fun _ _ h=>h,fun b o h=>?_⟩
  obtain ⟨k1,k2⟩:=hm.imm b o h
  have hne : b ≠ g.box k0:=by rintro rfl; exact k2 k0 hown
  simp only [World.cell?,hoth b hne k1]
 have hkept : Kept g w g w' (There M) (fun o=>o ≠ .box k0):=⟨himm,fun _ _=>rfl,fun b hb hl=>⟨rfl,hoth b (by rintro rfl; exact hb hown) hl,fun _=>Iff.rfl⟩⟩
 have hsub : ∀ (o : Owner) i,o ≠ .box k0 → o.sub i ≠ .box k0:=by intro o i _; cases o <;> simp [Owner.sub]
 have hnew : ∀ p : Nat → Prop,V.ons p (Qbt (ys.map (eI .i64)) ((cap - ys.length) * 1)):=by
  intro p
  rw [Qgn]
  intro v hv
  simp only [Qbt,List.mem_append,List.mem_map,List.mem_replicate] at hv
  rcases hv with ⟨x,_,rfl⟩ | ⟨_,rfl⟩ <;> trivial
 have hth : There (M.put k0 (.cells (Qbt (ys.map (eI .i64)) ((cap - ys.length) * 1)))) k0:=by simp [There,Mem.put]
 refine ⟨_,g,rfl,⟨fun k b hk=>?_,fun b o h=>⟨Nat.lt_of_lt_of_le (hm.imm b o h).1 hsize,(hm.imm b o h).2⟩⟩,by simp [RV],hth,fun k cs hk=>?_,?_⟩
 ·by_cases hkk : k = k0
  ·subst hkk
   rw [Qf2] at hk; cases hk
   refine ⟨hk0,hown,(putCells id 0 F' vals.toArray).toList,et,by simpa using hblk,(Qco _ _ _ _).2 ⟨?_,fun j cc x hc hx=>?_⟩,fun x hx=>?_⟩
   ·simp only [Qbt,Qbop,List.map_map,List.length_append,List.length_map,List.length_replicate,Nat.mul_one]
    simp [putCells]
    omega
   ·have hx' : (putCells id 0 F' vals.toArray)[j]? = some x:=by simpa using hx
    simp only [putCells,Array.getElem?_mapIdx,List.getElem?_toArray,Option.map_eq_some_iff] at hx'
    obtain ⟨y,hy,rfl⟩:=hx'
    simp only [Qbt,Qbop,List.map_map,Nat.mul_one] at hc
    by_cases hj : j < ys.length
    ·rw [List.getElem?_append_left (by rw [List.length_map]; exact hj),List.getElem?_map,List.getElem?_eq_getElem hj,Option.map_some,Option.some.injEq] at hc
     subst hc
     rw [if_pos ⟨Nat.zero_le _,by omega⟩]
     simp only [Nat.sub_zero,id]
     rw [getElem!_pos F' j (by omega),hFv j hj]
     simp [RV,RD]
    ·rw [List.getElem?_append_right (by rw [List.length_map]; omega)] at hc
     have : cc = .und:=(List.mem_replicate.1 (List.mem_of_getElem? hc)).2
     subst this; simp [RV]
   ·obtain ⟨j,hj⟩:=List.getElem?_of_mem hx
    have hx' : (putCells id 0 F' vals.toArray)[j]? = some x:=by simpa using hj
    simp only [putCells,Array.getElem?_mapIdx,List.getElem?_toArray,Option.map_eq_some_iff] at hx'
    obtain ⟨y,hy,rfl⟩:=hx'
    split
    ·rename_i hr
     simp only [id]
     rw [getElem!_pos F' _ (by omega)]
     obtain ⟨z,hz⟩:=hFi (j - 0) (by omega)
     rw [hz]
     exact Qbg7 (x:=.int .i64 z) rfl
    ·exact hone y (List.mem_of_getElem? hy)
  ·rw [Qcx _ _ hkk] at hk
   obtain ⟨k1,k2,k3⟩:=hm.box k b hk
   cases b with
   | mp es c =>
    obtain ⟨ents,q1,q2⟩:=k3
    have hne : g.box k ≠ g.box k0:=by
     intro h; rw [h,hown] at k2; cases k2; exact hkk rfl
    exact ⟨k1,k2,ents,(hoth _ hne (Array.getElem?_eq_some_iff.1 q1).1).trans q1,Qok (g:=g) (g':=g) hkept.imm q2⟩
   | cells cs =>
    obtain ⟨vals2,e2,q1,q2,q3⟩:=k3
    have hne : g.box k ≠ g.box k0:=by
     intro h; rw [h,hown] at k2; cases k2; exact hkk rfl
    refine ⟨k1,k2,vals2,e2,(hoth _ hne (Array.getElem?_eq_some_iff.1 q1).1).trans q1,?_,q3⟩
    exact RVs_mono hkept hsub (by simp) cs (.box k) 0 vals2 (by simpa using hkk) (hMon k cs hk) q2
 ·by_cases hkk : k = k0
  ·subst hkk
   rw [Qf2] at hk; cases hk
   exact hnew _
  ·rw [Qcx _ _ hkk] at hk
   exact ons_mono (fun j hj=>There.put hj) _ (hMon k cs hk)
 ·refine ⟨by rw [← hw']; rfl,by rw [← hw']; rfl,by rw [← hw']; rfl,hsize,himm,fun _ _=>rfl,fun b hb ho=>⟨rfl,hoth b ?_ hb,fun _=>Iff.rfl⟩⟩
  rintro rfl
  rw [hown] at ho
  exact ho
end Go.Abs
end
section
namespace Go.Proofs
open Go.Shelf
def Tryz.sortI_ren : Go.Shelf.Ren:=⟨fun | 5=>67 | 8=>93 | 7=>92 | 19=>109 | 20=>110 | 10=>101 | 11=>102 | 12=>103 | 13=>104 | 14=>105 | 15=>106 | 16=>97 | 17=>107 | 18=>108 | 30=>122 | 31=>123 | 32=>124 | 33=>125 | 34=>126 | 35=>121 | 40=>130 | n=>n,fun | 23=>27 | 25=>3 | 3=>3 | 32=>134 | 22=>27 | 0=>0 | 44=>149 | 46=>151 | 4=>4 | 36=>143 | 35=>142 | 41=>88 | 5=>5 | 9=>9 | 53=>159 | 57=>163 | 63=>167 | 64=>98 | n=>n,fun | n=>n⟩
theorem Tryz.sortI : Go.Proofs.SlLaysM.n5 Tryz.prog Tryz.sortI_ren:={
 mixed:=by kernel_rfl
 f5:=⟨Tryz.f67.name,by decide,Tryz.func67.trans (congrArg some (by kernel_rfl))⟩
 f7:=⟨Tryz.f92.name,by decide,Tryz.func92.trans (congrArg some (by kernel_rfl))⟩
 f8:=Tryz.func93.trans (congrArg some (by kernel_rfl))
 f10:=⟨Tryz.f101.name,by decide,Tryz.func101.trans (congrArg some (by kernel_rfl))⟩
 f11:=⟨Tryz.f102.name,by decide,Tryz.func102.trans (congrArg some (by kernel_rfl))⟩
 f12:=⟨Tryz.f103.name,by decide,Tryz.func103.trans (congrArg some (by kernel_rfl))⟩
 f13:=⟨Tryz.f104.name,by decide,Tryz.func104.trans (congrArg some (by kernel_rfl))⟩
 f14:=⟨Tryz.f105.name,by decide,Tryz.func105.trans (congrArg some (by kernel_rfl))⟩
 f15:=⟨Tryz.f106.name,by decide,Tryz.func106.trans (congrArg some (by kernel_rfl))⟩
 f16:=⟨Tryz.f97.name,by decide,Tryz.func97.trans (congrArg some (by kernel_rfl))⟩
 f17:=⟨Tryz.f107.name,by decide,Tryz.func107.trans (congrArg some (by kernel_rfl))⟩
 f18:=⟨Tryz.f108.name,by decide,Tryz.func108.trans (congrArg some (by kernel_rfl))⟩
 f19:=Tryz.func109.trans (congrArg some (by kernel_rfl))
 f20:=Tryz.func110.trans (congrArg some (by kernel_rfl))
 f30:=⟨Tryz.f122.name,by decide,Tryz.func122.trans (congrArg some (by kernel_rfl))⟩
 f31:=Tryz.func123.trans (congrArg some (by kernel_rfl))
 f32:=Tryz.func124.trans (congrArg some (by kernel_rfl))
 f33:=⟨Tryz.f125.name,by decide,Tryz.func125.trans (congrArg some (by kernel_rfl))⟩
 f34:=⟨Tryz.f126.name,by decide,Tryz.func126.trans (congrArg some (by kernel_rfl))⟩
 f35:=⟨Tryz.f121.name,by decide,Tryz.func121.trans (congrArg some (by kernel_rfl))⟩
 f40:=⟨Tryz.f130.name,by decide,Tryz.func130.trans (congrArg some (by kernel_rfl))⟩
 t0:=Tryz.underlying0
 a0:=Tryz.isAgg0
 z0:=Tryz.sizeOf0
 v0:=Tryz.zeroValue0
 t3:=Tryz.underlying3
 a3:=Tryz.isAgg3
 z3:=Tryz.sizeOf3
 v3:=Tryz.zeroValue3
 t4:=Tryz.underlying4
 a4:=Tryz.isAgg4
 z4:=Tryz.sizeOf4
 v4:=Tryz.zeroValue4
 t5:=Tryz.underlying5
 a5:=Tryz.isAgg5
 z5:=Tryz.sizeOf5
 v5:=Tryz.zeroValue5
 t9:=Tryz.underlying9
 a9:=Tryz.isAgg9
 z9:=Tryz.sizeOf9
 v9:=Tryz.zeroValue9
 t22:=Tryz.underlying27
 a22:=Tryz.isAgg27
 z22:=Tryz.sizeOf27
 v22:=Tryz.zeroValue27
 t23:=Tryz.underlying27
 a23:=Tryz.isAgg27
 z23:=Tryz.sizeOf27
 v23:=Tryz.zeroValue27
 t25:=Tryz.underlying3
 a25:=Tryz.isAgg3
 z25:=Tryz.sizeOf3
 v25:=Tryz.zeroValue3
 t32:=Tryz.underlying134
 a32:=Tryz.isAgg134
 z32:=Tryz.sizeOf134
 v32:=Tryz.zeroValue134
 t35:=Tryz.underlying142
 a35:=Tryz.isAgg142
 z35:=Tryz.sizeOf142
 v35:=Tryz.zeroValue142
 t36:=Tryz.underlying143
 a36:=Tryz.isAgg143
 z36:=Tryz.sizeOf143
 v36:=Tryz.zeroValue143
 t41:=Tryz.underlying88
 a41:=Tryz.isAgg88
 z41:=Tryz.sizeOf88
 v41:=Tryz.zeroValue88
 t44:=Tryz.underlying149
 a44:=Tryz.isAgg149
 z44:=Tryz.sizeOf149
 v44:=Tryz.zeroValue149
 t46:=Tryz.underlying151
 a46:=Tryz.isAgg151
 z46:=Tryz.sizeOf151
 v46:=Tryz.zeroValue151
 t53:=Tryz.underlying159
 a53:=Tryz.isAgg159
 z53:=Tryz.sizeOf159
 v53:=Tryz.zeroValue159
 t57:=Tryz.underlying163
 a57:=Tryz.isAgg163
 z57:=Tryz.sizeOf163
 v57:=Tryz.zeroValue163
 t63:=Tryz.underlying167
 a63:=Tryz.isAgg167
 z63:=Tryz.sizeOf167
 v63:=Tryz.zeroValue167
 t64:=Tryz.underlying98
 a64:=Tryz.isAgg98
 z64:=Tryz.sizeOf98
 v64:=Tryz.zeroValue98 }
def Tryz.sortE_ren : Go.Shelf.Ren:=⟨fun | 6=>69 | 15=>93 | 14=>94 | 28=>109 | 29=>110 | 20=>111 | 21=>112 | 22=>113 | 23=>114 | 24=>115 | 25=>116 | 26=>117 | 27=>118 | 46=>127 | 47=>123 | 48=>124 | 49=>128 | 50=>129 | 57=>131 | n=>n,fun | 22=>31 | 24=>76 | 25=>111 | 3=>3 | 39=>134 | 0=>0 | 53=>149 | 55=>151 | 4=>4 | 46=>143 | 45=>142 | 50=>88 | 5=>5 | 9=>9 | 66=>159 | 70=>163 | 76=>167 | 77=>98 | n=>n,fun | n=>n⟩
theorem Tryz.sortE : Go.Proofs.SlLaysF0.n6 Tryz.prog Tryz.sortE_ren:={
 mixed:=by kernel_rfl
 f6:=⟨Tryz.f69.name,by decide,Tryz.func69.trans (congrArg some (by kernel_rfl))⟩
 f14:=⟨Tryz.f94.name,by decide,Tryz.func94.trans (congrArg some (by kernel_rfl))⟩
 f15:=Tryz.func93.trans (congrArg some (by kernel_rfl))
 f20:=⟨Tryz.f111.name,by decide,Tryz.func111.trans (congrArg some (by kernel_rfl))⟩
 f21:=⟨Tryz.f112.name,by decide,Tryz.func112.trans (congrArg some (by kernel_rfl))⟩
 f22:=⟨Tryz.f113.name,by decide,Tryz.func113.trans (congrArg some (by kernel_rfl))⟩
 f23:=⟨Tryz.f114.name,by decide,Tryz.func114.trans (congrArg some (by kernel_rfl))⟩
 f24:=⟨Tryz.f115.name,by decide,Tryz.func115.trans (congrArg some (by kernel_rfl))⟩
 f25:=⟨Tryz.f116.name,by decide,Tryz.func116.trans (congrArg some (by kernel_rfl))⟩
 f26:=⟨Tryz.f117.name,by decide,Tryz.func117.trans (congrArg some (by kernel_rfl))⟩
 f27:=⟨Tryz.f118.name,by decide,Tryz.func118.trans (congrArg some (by kernel_rfl))⟩
 f28:=Tryz.func109.trans (congrArg some (by kernel_rfl))
 f29:=Tryz.func110.trans (congrArg some (by kernel_rfl))
 f46:=⟨Tryz.f127.name,by decide,Tryz.func127.trans (congrArg some (by kernel_rfl))⟩
 f47:=Tryz.func123.trans (congrArg some (by kernel_rfl))
 f48:=Tryz.func124.trans (congrArg some (by kernel_rfl))
 f49:=⟨Tryz.f128.name,by decide,Tryz.func128.trans (congrArg some (by kernel_rfl))⟩
 f50:=⟨Tryz.f129.name,by decide,Tryz.func129.trans (congrArg some (by kernel_rfl))⟩
 f57:=⟨Tryz.f131.name,by decide,Tryz.func131.trans (congrArg some (by kernel_rfl))⟩
 t0:=Tryz.underlying0
 a0:=Tryz.isAgg0
 z0:=Tryz.sizeOf0
 v0:=Tryz.zeroValue0
 t3:=Tryz.underlying3
 a3:=Tryz.isAgg3
 z3:=Tryz.sizeOf3
 v3:=Tryz.zeroValue3
 t4:=Tryz.underlying4
 a4:=Tryz.isAgg4
 z4:=Tryz.sizeOf4
 v4:=Tryz.zeroValue4
 t5:=Tryz.underlying5
 a5:=Tryz.isAgg5
 z5:=Tryz.sizeOf5
 v5:=Tryz.zeroValue5
 t9:=Tryz.underlying9
 a9:=Tryz.isAgg9
 z9:=Tryz.sizeOf9
 v9:=Tryz.zeroValue9
 t22:=Tryz.underlying31
 a22:=Tryz.isAgg31
 z22:=Tryz.sizeOf31
 v22:=Tryz.zeroValue31
 t25:=Tryz.underlying111
 a25:=Tryz.isAgg111
 z25:=Tryz.sizeOf111
 v25:=Tryz.zeroValue111
 t39:=Tryz.underlying134
 a39:=Tryz.isAgg134
 z39:=Tryz.sizeOf134
 v39:=Tryz.zeroValue134
 t45:=Tryz.underlying142
 a45:=Tryz.isAgg142
 z45:=Tryz.sizeOf142
 v45:=Tryz.zeroValue142
 t46:=Tryz.underlying143
 a46:=Tryz.isAgg143
 z46:=Tryz.sizeOf143
 v46:=Tryz.zeroValue143
 t50:=Tryz.underlying88
 a50:=Tryz.isAgg88
 z50:=Tryz.sizeOf88
 v50:=Tryz.zeroValue88
 t53:=Tryz.underlying149
 a53:=Tryz.isAgg149
 z53:=Tryz.sizeOf149
 v53:=Tryz.zeroValue149
 t55:=Tryz.underlying151
 a55:=Tryz.isAgg151
 z55:=Tryz.sizeOf151
 v55:=Tryz.zeroValue151
 t66:=Tryz.underlying159
 a66:=Tryz.isAgg159
 z66:=Tryz.sizeOf159
 v66:=Tryz.zeroValue159
 t70:=Tryz.underlying163
 a70:=Tryz.isAgg163
 z70:=Tryz.sizeOf163
 v70:=Tryz.zeroValue163
 t76:=Tryz.underlying167
 a76:=Tryz.isAgg167
 z76:=Tryz.sizeOf167
 v76:=Tryz.zeroValue167
 t77:=Tryz.underlying98
 a77:=Tryz.isAgg98
 z77:=Tryz.sizeOf98
 v77:=Tryz.zeroValue98 }
def Tryz.laysC_ren : Go.Shelf.Ren:=⟨fun | 20=>68 | n=>n,fun | 22=>27 | 3=>3 | 4=>4 | 0=>0 | n=>n,fun | n=>n⟩
theorem Tryz.laysC : Go.Proofs.Lays2.n20 Tryz.prog Tryz.laysC_ren:={
 mixed:=by kernel_rfl
 f20:=Tryz.func68.trans (congrArg some (by kernel_rfl))
 t0:=Tryz.underlying0
 a0:=Tryz.isAgg0
 z0:=Tryz.sizeOf0
 v0:=Tryz.zeroValue0
 t3:=Tryz.underlying3
 a3:=Tryz.isAgg3
 z3:=Tryz.sizeOf3
 v3:=Tryz.zeroValue3
 t4:=Tryz.underlying4
 a4:=Tryz.isAgg4
 z4:=Tryz.sizeOf4
 v4:=Tryz.zeroValue4
 t22:=Tryz.underlying27
 a22:=Tryz.isAgg27
 z22:=Tryz.sizeOf27
 v22:=Tryz.zeroValue27
 i3:=by kernel_rfl }
open Go.RowKit Go.Sort in
theorem Tryz.slices_Sort_int (blk off cap : Nat) (zs : List Int) (w : World) (hH : Holds (Value.int .i64) w blk off zs.toArray) (hblk : blk < w.heap.size) (hsz : zs.length < 4611686018427387904) :
  Calls Tryz.prog 67 #[.slice (some ⟨blk,off,none⟩) zs.length cap] w fun e w' =>
   e = .returned (.tuple #[]) ∧ ∃ n os,w' = grow (putRow (Value.int .i64) (Sort.ahead w n) blk off (zs.mergeSort fun x y=>decide (x ≤ y)).toArray) os:=AnyM.slices_Sort_int Tryz.sortI blk off cap zs w hH hblk hsz
open Go.RowKit Go.Sort in
theorem Tryz.slices_Sort_int_none (p : Option Addr) (cap : Nat) (w : World) :
  Calls Tryz.prog 67 #[.slice p 0 cap] w fun e w'=>e = .returned (.tuple #[]) ∧ w' = w:=AnyM.slices_Sort_int_none Tryz.sortI p cap w
open Go.RowKit Go.Lib Go.Sort in
theorem Tryz.slices_Compact_int (blk off cap : Nat) (zs : List Int) (w : World) (hH : Holds (Value.int .i64) w blk off zs.toArray) (hsz : zs.length ≤ 9223372036854775807) (hcap : zs.length ≤ cap) :
  Calls Tryz.prog 68 #[.slice (some ⟨blk,off,none⟩) zs.length cap] w fun e w'=>e = .returned (.slice (some ⟨blk,off,none⟩) (Lib.compact zs).length cap) ∧ ∃ q,w' = putRow (Value.int .i64) (Sort.ahead w q) blk off (Lib.compact zs ++ List.replicate (zs.length - (Lib.compact zs).length) 0).toArray:=Any.slices_Compact_int Tryz.laysC blk off cap zs w hH hsz hcap
open Go.RowKit Go.Lib Go.Sort in
theorem Tryz.slices_Compact_int_empty (a : Option Addr) (cap : Nat) (w : World) :
  Calls Tryz.prog 68 #[.slice a 0 cap] w fun e w'=>e = .returned (.slice a 0 cap) ∧ w' = w:=Any.slices_Compact_int_empty Tryz.laysC a cap w
end Go.Proofs
end
section
namespace Go.Proofs
open Go.Shelf Go.RowKit Go.Lib Go.Sort Go.Abs
abbrev Qbdi:={x : Qe // okE x = true}
instance : Inhabited Qbdi:=⟨⟨⟨0,0,0⟩,rfl⟩⟩
def cfE (x y : Qbdi) : Int:=if x.1.From = y.1.From then x.1.Event - y.1.Event else x.1.From - y.1.From
theorem Qbae (x y : Qbdi) : ltOf cfE x y = ltE x.1 y.1:=by
 unfold ltOf cfE ltE
 apply decide_eq_decide.2
 split <;> omega
theorem swoE : SWO (ltOf cfE):={
 irrefl x:=by rw [Qbae]; simp [ltE]
 trans x y z h1 h2:=by rw [Qbae] at *; simp only [ltE,decide_eq_true_eq] at *; omega
 ntrans x y z h1 h2:=by rw [Qbae] at *; simp only [ltE,decide_eq_false_iff_not] at *; omega }
set_option maxHeartbeats 1000000 in
theorem Tryz.edges37 (x y : Qbdi) (W : World) : Calls Tryz.prog 70 #[.agg ((Qc x.1).map D.val).toArray,.agg ((Qc y.1).map D.val).toArray] W fun e w'=>e = .returned (.int .i64 (cfE x y)) ∧ ∃ q os',w' = grow (W.drewN q) os':=by
 obtain ⟨⟨a,b,c⟩,hx0⟩:=x
 obtain ⟨⟨a',b',c'⟩,hy0⟩:=y
 have hx:=hx0
 have hy:=hy0
 simp only [okE,decide_eq_true_eq] at hx hy
 have w1 : IntKind.i64.wrap (a - a') = a - a':=by simp [IntKind.wrap,IntKind.bits,IntKind.signed]; omega
 have w2 : IntKind.i64.wrap (b - b') = b - b':=by simp [IntKind.wrap,IntKind.bits,IntKind.signed]; omega
 have hr : cfE ⟨⟨a,b,c⟩,hx0⟩ ⟨⟨a',b',c'⟩,hy0⟩ = if a = a' then b - b' else a - a':=rfl
 generalize cfE ⟨⟨a,b,c⟩,hx0⟩ ⟨⟨a',b',c'⟩,hy0⟩ = r at hr ⊢
 simp only [Qc,List.map_cons,List.map_nil,D.val]
 go_enter Tryz.func70,Tryz.ntmps70
 go_wp2
 ·rename_i h
  have h : a ≠ a':=by simpa using h
  go_ret
  exact ⟨by rw [hr,if_neg h]; rfl,0,_,by rw [alloc_eq_grow,alloc_eq_grow,grow_grow]; rfl⟩
 ·rename_i h
  have h : a = a':=by simpa using h
  go_ret
  exact ⟨by rw [hr,if_pos h]; rfl,0,_,by rw [alloc_eq_grow,alloc_eq_grow,grow_grow]; rfl⟩
set_option maxHeartbeats 1000000 in
theorem Tryz.row36 : Qbk9 Tryz.prog 69 (fun x : Qbdi=>Qc x.1) #[.func (.func 70) #[] #[]] (fun xs=>(pdq (ltOf cfE) xs.toArray 0 xs.length (Lib.bitLen xs.length) true true).toList) :=
 Qbck Tryz.sortE Tryz.isAgg76 Tryz.sizeOf76 (fun x : Qbdi=>Qc x.1) (fun _=>rfl) (by decide) (fun _=>rfl) cfE swoE 70 #[] (enters_of Tryz.func70 (by kernel_rfl) rfl) (fun x y W=>Tryz.edges37 x y W)
set_option maxHeartbeats 1000000 in
theorem Tryz.none36 (p : Option Addr) (cap : Nat) (w : World) : Calls Tryz.prog 69 (#[.slice p 0 cap] ++ #[.func (.func 70) #[] #[]]) w fun e' w'=>e' = .returned (.tuple #[]) ∧ w' = w :=
 AnyF.slices_SortFunc_none Tryz.sortE p cap (.func (.func 70) #[] #[]) w
theorem Tryz.rowK36 : Go.Abs.RowK Tryz.prog 69 Qc 3 [.clo 70 []] Qbnr :=
 Qbli (e:=Qc) (sz:=3) (N:=65536) (by decide) (fun _=>rfl) (fun _=>rfl) swoE Qbae (by kernel_rfl) (ex:=#[.func (.func 70) #[] #[]]) (exV:=[.clo 70 []]) (fun g w us h=>by
  obtain ⟨u,us',rfl,hu,hus⟩:=h
  simp only [RFs] at hus
  subst hus
  have:=hu .free
  simp only [RV] at this
  obtain ⟨vs,rfl,hv⟩:=this
  simp only [RVs] at hv
  subst hv
  rfl) Tryz.row36 Tryz.none36
theorem Tryz.rowK33 : Go.Abs.RowK Tryz.prog 67 (eI .i64) 1 [] Go.Abs.sortI :=
 Qblj (by kernel_rfl) Tryz.slices_Sort_int Tryz.slices_Sort_int_none
theorem Tryz.compK34 : Go.Abs.CompK Tryz.prog 68 Qbie :=
 Qbi7 (by kernel_rfl) Tryz.slices_Compact_int Tryz.slices_Compact_int_empty
end Go.Proofs
end
section
namespace Go.Proofs
open Go.Shelf
def Tryz.lays169_ren : Go.Shelf.Ren:=⟨fun | 169=>77 | n=>n,fun | 70=>116 | 9=>9 | 0=>0 | 72=>119 | 37=>117 | 127=>137 | 3=>3 | 5=>5 | n=>n,fun | n=>n⟩
theorem Tryz.lays169 : Go.Proofs.Lays.n169 Tryz.prog Tryz.lays169_ren:={
 mixed:=by kernel_rfl
 f169:=Tryz.func77.trans (congrArg some (by kernel_rfl))
 t0:=Tryz.underlying0
 a0:=Tryz.isAgg0
 z0:=Tryz.sizeOf0
 v0:=Tryz.zeroValue0
 t3:=Tryz.underlying3
 a3:=Tryz.isAgg3
 z3:=Tryz.sizeOf3
 v3:=Tryz.zeroValue3
 t9:=Tryz.underlying9
 a9:=Tryz.isAgg9
 z9:=Tryz.sizeOf9
 v9:=Tryz.zeroValue9
 t37:=Tryz.underlying117
 a37:=Tryz.isAgg117
 z37:=Tryz.sizeOf117
 v37:=Tryz.zeroValue117
 t70:=Tryz.underlying116
 a70:=Tryz.isAgg116
 z70:=Tryz.sizeOf116
 v70:=Tryz.zeroValue116
 t72:=Tryz.underlying119
 a72:=Tryz.isAgg119
 z72:=Tryz.sizeOf119
 v72:=Tryz.zeroValue119
 t127:=Tryz.underlying137
 a127:=Tryz.isAgg137
 z127:=Tryz.sizeOf137
 v127:=Tryz.zeroValue137 }
theorem Tryz.Builder_Extra_169 : Builder.Extra Tryz.prog Tryz.lays169_ren:={
 sizeBuilder:=by kernel_rfl
 liesBuilder:=by kernel_rfl
 t5:=Tryz.underlying5
 a5:=Tryz.isAgg5
 z5:=Tryz.sizeOf5
 v5:=Tryz.zeroValue5
 infoByte:=by kernel_rfl
 cellsByte:=by kernel_rfl
 sizeByte:=by kernel_rfl
 neB5:=by decide }
open Go.RowKit in
theorem Tryz.Builder_String_any_k (B b : Nat) (l : List UInt8) (w : World) (h : Lib.IsBuilderF 119 5 B b (Lib.byteCells l) w) (hBw : B ≤ w.heap.size) :
  Calls Tryz.prog 77 #[.pointer (some ⟨b,0,none⟩)] w fun e w'=>e = .returned (.string ⟨l.toArray⟩) ∧ (Lib.IsBuilderF 119 5 B b (Lib.byteCells l) w' ∧ Below B w w' ∧ Lib.OthersKept 5 (some b) w w'):=Any.Builder_String_any_k Tryz.lays169 Tryz.Builder_Extra_169 B b l w h hBw
def Tryz.lays168_ren : Go.Shelf.Ren:=⟨fun | 168=>76 | 240=>95 | 242=>96 | 276=>119 | 278=>120 | n=>n,fun | 0=>0 | 3=>3 | 4=>4 | 5=>5 | 9=>9 | 20=>20 | 21=>21 | 37=>117 | 46=>134 | 51=>149 | 70=>116 | 72=>119 | 75=>121 | 80=>124 | 164=>157 | n=>n,fun | n=>n⟩
theorem Tryz.lays168 : Go.Proofs.Lays.n168 Tryz.prog Tryz.lays168_ren:={
 mixed:=by kernel_rfl
 f168:=Tryz.func76.trans (congrArg some (by kernel_rfl))
 f240:=Tryz.func95.trans (congrArg some (by kernel_rfl))
 f242:=Tryz.func96.trans (congrArg some (by kernel_rfl))
 f276:=Tryz.func119.trans (congrArg some (by kernel_rfl))
 f278:=Tryz.func120.trans (congrArg some (by kernel_rfl))
 t0:=Tryz.underlying0
 a0:=Tryz.isAgg0
 z0:=Tryz.sizeOf0
 v0:=Tryz.zeroValue0
 t3:=Tryz.underlying3
 a3:=Tryz.isAgg3
 z3:=Tryz.sizeOf3
 v3:=Tryz.zeroValue3
 t4:=Tryz.underlying4
 a4:=Tryz.isAgg4
 z4:=Tryz.sizeOf4
 v4:=Tryz.zeroValue4
 t5:=Tryz.underlying5
 a5:=Tryz.isAgg5
 z5:=Tryz.sizeOf5
 v5:=Tryz.zeroValue5
 t9:=Tryz.underlying9
 a9:=Tryz.isAgg9
 z9:=Tryz.sizeOf9
 v9:=Tryz.zeroValue9
 t20:=Tryz.underlying20
 a20:=Tryz.isAgg20
 z20:=Tryz.sizeOf20
 v20:=Tryz.zeroValue20
 t21:=Tryz.underlying21
 a21:=Tryz.isAgg21
 z21:=Tryz.sizeOf21
 v21:=Tryz.zeroValue21
 t37:=Tryz.underlying117
 a37:=Tryz.isAgg117
 z37:=Tryz.sizeOf117
 v37:=Tryz.zeroValue117
 t46:=Tryz.underlying134
 a46:=Tryz.isAgg134
 z46:=Tryz.sizeOf134
 v46:=Tryz.zeroValue134
 t51:=Tryz.underlying149
 a51:=Tryz.isAgg149
 z51:=Tryz.sizeOf149
 v51:=Tryz.zeroValue149
 t70:=Tryz.underlying116
 a70:=Tryz.isAgg116
 z70:=Tryz.sizeOf116
 v70:=Tryz.zeroValue116
 t72:=Tryz.underlying119
 a72:=Tryz.isAgg119
 z72:=Tryz.sizeOf119
 v72:=Tryz.zeroValue119
 t75:=Tryz.underlying121
 a75:=Tryz.isAgg121
 z75:=Tryz.sizeOf121
 v75:=Tryz.zeroValue121
 t164:=Tryz.underlying157
 a164:=Tryz.isAgg157
 z164:=Tryz.sizeOf157
 v164:=Tryz.zeroValue157 }
theorem Tryz.Builder_Extra_168 : Builder.Extra Tryz.prog Tryz.lays168_ren:={
 sizeBuilder:=by kernel_rfl
 liesBuilder:=by kernel_rfl
 t5:=Tryz.underlying5
 a5:=Tryz.isAgg5
 z5:=Tryz.sizeOf5
 v5:=Tryz.zeroValue5
 infoByte:=by kernel_rfl
 cellsByte:=by kernel_rfl
 sizeByte:=by kernel_rfl
 neB5:=by decide }
open Go.RowKit in
theorem Tryz.Builder_WriteRune_k (B b : Nat) (bs : List Value) (r : Int) (hr0 : -2147483648 ≤ r) (hr1 : r ≤ 2147483647) (w : World) (h : Lib.IsBuilderF 119 5 B b bs w) (hlen : bs.length + 4 ≤ 140737488355328) (hBw : B ≤ w.heap.size) :
  Calls Tryz.prog 76 #[.pointer (some ⟨b,0,none⟩),.int .i32 r] w fun e w'=>e = .returned (.tuple #[.int .i64 (Lib.runeCells r).length,.nilIface]) ∧ (Lib.BuilderAtF 119 5 B b (.pointer (some ⟨b,0,none⟩)) (bs ++ Lib.runeCells r) w' ∧ Below B w w' ∧ Lib.OthersKept 5 (some b) w w'):=Any.Builder_WriteRune_k Tryz.lays168 Tryz.Builder_Extra_168 B b bs r hr0 hr1 w h hlen hBw
def Tryz.laysGrow_ren : Go.Shelf.Ren:=⟨fun | 4=>91 | n=>n,fun | 22=>27 | 25=>3 | 3=>3 | 4=>4 | 9=>9 | 20=>20 | 0=>0 | n=>n,fun | n=>n⟩
theorem Tryz.laysGrow : Go.Proofs.Lays8.n4 Tryz.prog Tryz.laysGrow_ren:={
 mixed:=by kernel_rfl
 f4:=⟨Tryz.f91.name,by decide,Tryz.func91.trans (congrArg some (by kernel_rfl))⟩
 t0:=Tryz.underlying0
 a0:=Tryz.isAgg0
 z0:=Tryz.sizeOf0
 v0:=Tryz.zeroValue0
 t3:=Tryz.underlying3
 a3:=Tryz.isAgg3
 z3:=Tryz.sizeOf3
 v3:=Tryz.zeroValue3
 t4:=Tryz.underlying4
 a4:=Tryz.isAgg4
 z4:=Tryz.sizeOf4
 v4:=Tryz.zeroValue4
 t9:=Tryz.underlying9
 a9:=Tryz.isAgg9
 z9:=Tryz.sizeOf9
 v9:=Tryz.zeroValue9
 t20:=Tryz.underlying20
 a20:=Tryz.isAgg20
 z20:=Tryz.sizeOf20
 v20:=Tryz.zeroValue20
 t22:=Tryz.underlying27
 a22:=Tryz.isAgg27
 z22:=Tryz.sizeOf27
 v22:=Tryz.zeroValue27 }
end Go.Proofs
end
section
namespace Go.Abs
open Go Go.RowKit
theorem MR.cellOld {g : G} {w w' : World} {M : Mem} {nb : Nat} (hm : MR g w M nb) (hbw : Below w.heap.size w w') : ∀ b o,g.imm b o → w'.cell? ⟨b,o,none⟩ = w.cell? ⟨b,o,none⟩:=by
 intro b o hi
 have hlt:=(hm.imm b o hi).1
 simp only [World.cell?]
 rw [hbw.block b hlt]
theorem Qbek {P : Program} {f : FuncId} {args : List V} {x : D} (hx : x.scalar = true) (hb : Qg3 P f = true)
  (h : ∀ (w : World) (g : G) (us : List Value),(∀ b o,g.imm b o → b < w.heap.size) → RFs g w args us → Calls P f us.toArray w fun e w'=>e = .returned x.val ∧ Below w.heap.size w w') (M : Mem) (nb : Nat) : ACalls P f args M nb (.d x) M nb:=by
 refine ⟨hb,Nat.le_refl _,fun w g us hm hMon hfresh hus hfl hons=>?_⟩
 refine Calls.mono (h w g us (fun b o hi=>(hm.imm b o hi).1) hus) ?_
 rintro e w' ⟨rfl,hbw⟩
 have hI : Imm g.imm g.imm w w':=⟨fun _ _ h=>h,fun b o hi=>hm.cellOld hbw b o hi⟩
 have hk : Kept g w g w' (There M) (fun _=>True):=⟨hI,fun _ _=>rfl,fun b _ hlt=>⟨rfl,hbw.block b hlt,fun _=>Iff.rfl⟩⟩
 refine ⟨_,g,rfl,hm.kept hk hMon (fun _ _ _=>trivial) trivial (fun _ _=>trivial) (fun b o hi=>?_),?_,trivial,hMon,?_⟩
 ·obtain ⟨h1,h2⟩:=hm.imm b o hi
  exact ⟨Nat.lt_of_lt_of_le h1 hbw.size,h2⟩
 ·simp only [RV]; exact (Qbk8 hx).2 rfl
 ·exact ⟨hbw.os,hbw.tape,hbw.output,hbw.size,hI,fun _ _=>rfl,fun b hb _=>⟨rfl,hbw.block b hb,fun _=>Iff.rfl⟩⟩
theorem Qbg9 {P : Program} {f : FuncId} {args : List V} {sz : Nat} (hb : Qg3 P f = true)
  (h : ∀ (w : World) (g : G) (us : List Value),RFs g w args us → Calls P f us.toArray w fun e w'=>(∃ a,e = .returned (.slice a 0 0) ∧ w' = w) ∨
   ∃ cap row t,e = .returned (.slice (some ⟨w.heap.size,0,none⟩) 0 cap) ∧ w' = w.drew.alloc (.cells row t) ∧ row.size = cap * sz ∧ cap ≤ maxLen ∧ ∀ u ∈ row.toList,u.oneCell' = true) (M : Mem) (nb : Nat) : ACalls P f args M nb (.own sz []) M nb:=by
 refine ⟨hb,Nat.le_refl _,fun w g us hm hMon hfresh hus hfl hons=>?_⟩
 refine Calls.mono (h w g us hus) ?_
 rintro e w' (⟨a,rfl,rfl⟩ | ⟨cap,row,t,rfl,rfl,hrow,hcap,hone⟩)
 ·exact ⟨_,g,rfl,hm,by simp only [RV]; exact .inl ⟨⟨a,rfl⟩,trivial⟩,trivial,hMon,Fr.refl _ _ _⟩
 ·let g' : G:={ box:=g.box,imm:=g.imm,own:=fun b=>if b = w.heap.size then .res [] else g.own b }
  have hold : ∀ b,b < w.heap.size → (w.drew.alloc (.cells row t)).heap[b]? = w.heap[b]?:=fun b hlt=>RowKit.Below.heap_alloc w.drew _ b (by simpa using hlt)
  have hown : ∀ b,b < w.heap.size → g'.own b = g.own b:=fun b hlt=>by simp only [g']; rw [if_neg (by omega)]
  have hI : Imm g.imm g'.imm w (w.drew.alloc (.cells row t)):=⟨fun _ _ h=>h,fun b o hi=>by
   have hlt:=(hm.imm b o hi).1
   simp only [World.cell?]
   rw [hold b hlt]⟩
  have hk : Kept g w g' (w.drew.alloc (.cells row t)) (There M) (fun _=>True):=⟨hI,fun _ _=>rfl,fun b _ hlt=>⟨hown b hlt,hold b hlt,fun _=>Iff.rfl⟩⟩
  refine ⟨_,g',rfl,hm.kept hk hMon (fun _ _ _=>trivial) trivial (fun _ _=>trivial) (fun b o hi=>?_),?_,trivial,hMon,?_⟩
  ·obtain ⟨h1,h2⟩:=hm.imm b o hi
   refine ⟨by simp; omega,fun k=>?_⟩
   rw [hown b h1]; exact h2 k
  ·simp only [RV]
   refine .inr ⟨w.heap.size,cap,row,t,rfl,by simp [g'],heap_alloc_new w.drew _,Nat.zero_le _,hcap,⟨hrow,hone⟩,fun o=>?_,by simp [RDL]⟩
   constructor
   ·intro hi; have:=(hm.imm _ _ hi).1; omega
   ·intro hi; simp at hi
  ·exact ⟨rfl,rfl,rfl,by simp,hI,fun _ _=>rfl,fun b hb _=>⟨hown b hb,hold b hb,fun _=>Iff.rfl⟩⟩
theorem Qboq {g : G} {w : World} {l : List Int} {k : IntKind} {u : Value} (h : RF g w (.d (.lst 1 (l.map (fun n=>[.int k n])))) u) :
  ∃ a cap,u = .slice a l.length cap ∧ l.length ≤ cap ∧ (l = [] ∨ ∃ b o,a = some ⟨b,o,none⟩ ∧ ∀ (i : Nat) n,l[i]? = some n → g.imm b (o + i) ∧ w.cell? ⟨b,o + i,none⟩ = some (.int k n)):=by
 have h:=RF_d.1 h
 simp only [RD,List.length_map] at h
 obtain ⟨a,cap,rfl,hc,hl⟩:=h
 refine ⟨a,cap,rfl,hc,?_⟩
 rcases hl with hl | ⟨b,o,rfl,hl⟩
 ·exact .inl (by simpa using hl)
 ·refine .inr ⟨b,o,rfl,fun i n hi=>?_⟩
  have:=(Qbaq hl i [.int k n] (by simp [hi])).2
  simp only [RDc,Nat.mul_one,RD] at this
  obtain ⟨h1,⟨u,h2,rfl⟩,_⟩:=this
  exact ⟨h1,h2⟩
end Go.Abs
end
section
namespace Go.Proofs
open Go.RowKit Go.Abs
def keyL (l : List Int) : List UInt8:=l.flatMap fun x=>Lib.encodeRune (x + 1)
theorem Qblk : ∀ l : List Int,(keyL l).length ≤ 4 * l.length
 | []=>by simp [keyL]
 | x :: l=>by
  have h:=Lib.runeCells_le (x + 1)
  rw [Lib.runeCells_length] at h
  have ih:=Qblk l
  simp only [keyL,List.flatMap_cons,List.length_append,List.length_cons] at *
  omega
set_option maxHeartbeats 4000000 in
set_option maxRecDepth 1000000 in
theorem Tryz.key_walk (l : List Int) (hl : l.length ≤ lim) (hx : ∀ x ∈ l,0 ≤ x ∧ x < 50000) (a : Option Addr) (cap : Nat) (w : World)
  (hc : ∀ (i : Nat) n,l[i]? = some n → ∃ b o,a = some ⟨b,o,none⟩ ∧ b < w.heap.size ∧ w.cell? ⟨b,o + i,none⟩ = some (.int .i64 n)) :
  Calls Tryz.prog 41 #[.slice a l.length cap] w fun e w'=>e = .returned (.string (keyB l)) ∧ Below w.heap.size w w':=by
 have hlim : l.length ≤ 1099511627776:=hl
 go_enter Tryz.func41,Tryz.ntmps41
 go_wp2
 go_loopw [8] (fun vi wr=>∃ (k : Nat),vi = .int .i64 k ∧ k ≤ l.length ∧ Lib.IsBuilderF 119 5 w.heap.size w.heap.size (Lib.byteCells (keyL (l.take k))) wr ∧ Below w.heap.size w wr) (fun vi _=>l.length - (intOf vi).toNat)
 case atStart =>
  refine ⟨0,rfl,by omega,?_,((Below.refl _ w).alloc (Nat.le_refl _) _)⟩
  exact Lib.IsBuilderF.of (Lib.fresh_isBuilder 119 5 w)
 case round =>
  obtain ⟨k,rfl,hk,hI,hbw⟩:=hrel
  by_cases hlt : k < l.length
  ·obtain ⟨b,o,rfl,hb,hcell⟩:=hc k l[k] (List.getElem?_eq_getElem hlt)
   have hcr : wr.cell? ⟨b,o + k,none⟩ = some (.int .i64 l[k]):=by
    rw [← hcell]; simp only [World.cell?]; rw [hbw.block b hb]
   have hxk:=hx l[k] (List.getElem_mem hlt)
   have w1 : IntKind.i64.wrap (l[k] + 1) = l[k] + 1:=by simp [IntKind.wrap,IntKind.bits,IntKind.signed]; omega
   have w2 : IntKind.i32.wrap (l[k] + 1) = l[k] + 1:=by simp [IntKind.wrap,IntKind.bits,IntKind.signed]; omega
   have hsz : w.heap.size ≤ wr.heap.size:=hbw.size
   have hkl:=Qblk (l.take k)
   rw [List.length_take] at hkl
   go_wp2_with (go_at_call 76; refine (Tryz.Builder_WriteRune_k w.heap.size w.heap.size _ (l[k] + 1) (by omega) (by omega) _ hI (by rw [Lib.byteCells_length]; omega) hsz).mono ?_)
   rintro e W1 ⟨rfl,h1,b1,k1⟩
   go_wp2
   go_roundw
   case rel =>
    refine ⟨k + 1,by simp,by omega,?_,hbw.trans b1⟩
    have e1 : keyL (l.take (k + 1)) = keyL (l.take k) ++ Lib.encodeRune (l[k] + 1):=by
     rw [List.take_succ_eq_append_getElem hlt]; simp only [keyL,List.flatMap_append,List.flatMap_cons,List.flatMap_nil,List.append_nil]
    rw [e1,Lib.byteCells_append,Lib.byteCells_encodeRune]; exact Or.inr h1
   case measure =>
    simp [intOf]; omega
  ·have hk2 : k = l.length:=by omega
   subst hk2
   go_wp2_with (go_at_call 77; refine (Tryz.Builder_String_any_k w.heap.size w.heap.size _ _ hI hbw.size).mono ?_)
   rintro e W1 ⟨rfl,_,b1,_⟩
   go_wp2
   go_ret
   exact ⟨rfl,hbw.trans b1⟩
theorem Tryz.keyK : Go.Abs.K_projection_key Tryz.prog 41 keyS:=by
 intro l r h
 unfold keyS at h
 split at h <;> cases h
 rename_i hc
 intro M nb
 refine Qbek rfl (by kernel_rfl) (fun w g us himm hus=>?_) M nb
 obtain ⟨u,us',rfl,hu,hus'⟩:=hus
 simp only [RFs] at hus'
 subst hus'
 obtain ⟨a,cap,rfl,hcap,hl⟩:=Qboq hu
 refine Tryz.key_walk l hc.1 hc.2 a cap w fun i n hi=>?_
 rcases hl with rfl | ⟨b,o,rfl,hl⟩
 ·simp at hi
 ·exact ⟨b,o,rfl,himm _ _ (hl i n hi).1,(hl i n hi).2⟩
theorem Tryz.growK : Go.Abs.K_slices_Grow_int Tryz.prog 91 Qboo:=by
 intro n r h
 unfold Qboo at h
 split at h <;> cases h
 rename_i hc
 have hlim : n ≤ 1099511627776:=hc.2
 intro M nb
 refine Qbg9 (by kernel_rfl) (fun w g us hus=>?_) M nb
 obtain ⟨u,us',rfl,hu,u2,us2,rfl,hu2,hus'⟩:=hus
 simp only [RFs] at hus'
 subst hus'
 have hu:=hu .free
 simp only [RV] at hu
 obtain ⟨a,rfl⟩:=hu
 have h2:=Qnd hu2
 subst h2
 by_cases h0 : n = 0
 ·subst h0
  refine (Any8.slices_Grow_room Tryz.laysGrow a 0 0 0 w (by omega) (by omega) (by omega) (by omega)).mono ?_
  rintro e w' ⟨rfl,rfl⟩
  exact .inl ⟨a,rfl,rfl⟩
 ·obtain ⟨m,rfl⟩ : ∃ m : Nat,n = m:=⟨n.toNat,by omega⟩
  obtain ⟨i,zv,hi,hzv,hcz,_⟩:=Qj1 Tryz.prog (t:=3) (z:=[.d (.int .i64 0)]) (by kernel_rfl)
  have hsz : i.size = 1:=(Qd8 Tryz.prog hi).symm.trans (by kernel_rfl)
  have hby : i.bytes = 8:=by
   have : Tryz.prog.bytesOf 3 = 8:=by kernel_rfl
   simpa [Program.bytesOf,hi] using this
  have hzs : zv.cells.size = 1:=by have:=(hcz g w).len; simpa using this
  have hz1 : ∀ q,∀ u ∈ (Builtin.zeroCells zv.cells q).toList,u.oneCell' = true:=by
   intro q u hu
   refine (hcz g w).one u ?_
   simp only [Builtin.zeroCells] at hu
   have hu' : ∃ a,a < q * zv.cells.size ∧ zv.cells[a % zv.cells.size]! = u:=by simpa using hu
   obtain ⟨j,hj,rfl⟩:=hu'
   have hlt : j % zv.cells.size < zv.cells.size:=Nat.mod_lt _ (by omega)
   rw [getElem!_pos zv.cells _ hlt]
   simp
  have hge:=grownCap_ge w (0 + m) 0 3
  have hle:=grownCap_le_maxLen w (0 + m) 0 3 (by simp only [maxLen]; omega)
  refine (Any8.slices_Grow_grow Tryz.laysGrow i zv hi hzv (by omega) a 0 0 m [] w (by omega) (by omega) (by rw [hby]; omega) (by omega) (by simp) (fun _=>rfl) (fun _ _ j v hj=>by simp at hj)).mono ?_
  rintro e w' ⟨rfl,rfl⟩
  refine .inr ⟨_,_,_,rfl,rfl,?_,hle,fun u hu=>?_⟩
  ·simp only [Array.size_append,size_zeroCells,hzs,List.size_toArray,List.length_nil]
   show _ = grownCap w (0 + m) 0 3 * 1
   simp only [show (Tryz.laysGrow_ren.t 25) = 3 from rfl]
   omega
  ·simp only [Array.toList_append,List.mem_append,List.nil_append] at hu
   rcases hu with hu | hu
   ·exact hz1 _ u hu
   ·exact hz1 _ u hu
end Go.Proofs
end
section
namespace Go.Proofs
open Go Go.Abs
set_option maxRecDepth 10000
set_option maxHeartbeats 4000000
theorem Qua : Qgo Tryz.prog 34 Qkd:=Qqt Qx6
theorem Q3l : Qii Tryz.prog 79 Qf7:=Qxu Q56 Qbc
theorem Q7j : Qj2 Tryz.prog 88 Qhh:=Q26 Q8g Qbc
theorem Qcw : Qb6 Tryz.prog 56 Qbb:=Qty Q7j Q3h
theorem Qx7 : Qg4 Tryz.prog 80 Qfb:=Qrv Qcw Q1f Qbc
theorem Qke : Qgg Tryz.prog 46 Qe0:=Q5s Q3l Qx7 Q9c
theorem Q1i : Qhp Tryz.prog 49 Qh4:=Qtz Q3g Qbc
theorem Qjq : Qfl Tryz.prog 38 Qdv:=Q27 Qke Q1i Q8d
theorem Ql9 : Qf3 Tryz.prog 39 Qew:=Qxv Qcw Q54 Qbc
theorem Qma : Qep Tryz.prog 83 Q4:=Qko Qm4
theorem Qhk : Qdt Tryz.prog 50 Qc6:=Ql4 Qcw Tryz.rowK33 Qma Qpr Qbc
theorem Qn7 : Qe5 Tryz.prog 40 Qdw:=Ql5 Qhk Qpq
theorem Qkf : Qd0 Tryz.prog 78 Qd2:=Qjo Qcw Qkr
theorem Qx8 : Qg6 Tryz.prog 89 Qhd:=Qrw Q1g Qbc
theorem Qie : Qea Tryz.prog 58 Qdh:=Qn3 Qx8 Qr2
theorem Qlm : Qeh Tryz.prog 42 Qdf:=Qka Qie Qkf Ql7
theorem Qpw : Qfg Tryz.prog 43 Qd4:=Qm2 Qhk Qqx Qbc
theorem Qmb : Qf4 Tryz.prog 12 Qdy:=Qxw Qjq Ql9 Qn7 Tryz.keyK Qlm Qpw Q5z Qbc
theorem Qmc : Qer Tryz.prog 84 Qgx:=Qkp Qcw Qm5
theorem Qn8 : Qe7 Tryz.prog 52 Qh5:=Ql6 Qie Qmc Qps
theorem Qpx : Qhg Tryz.prog 55 Qfo:=Q28 Q8e
theorem Q8i : Qk5 Tryz.prog 31 Qt9:=Q5t Qjq Ql9 Qn8 Qpx Qcw Q9b Qbc
theorem Q57 : Qjg Tryz.prog 65 Qpt:=Q07 Q7f
theorem Q58 : Qji Tryz.prog 66 Qpu:=Q08 Tryz.growK Q7g Qbc
theorem Qbel : Qkt Tryz.prog 70 Q1h:=Qrx Q1e
theorem Q95 : Qot Tryz.prog 121 Qpv:=Q8b Qbbm
theorem Qbbs : Qrh Tryz.prog 97 Qi9:=Q9a Q95 Qbci
theorem Q7k : Qj6 Tryz.prog 98 Qhi:=Q29 Q8h
theorem Qqy : Qfu Tryz.prog 82 Qct:=Qn4 Qbbs Q7k Qr3 Qbc
theorem Qmd : Qet Tryz.prog 85 Qdj:=Qkq Qm6 Qbc
theorem Q8j : Qlg Tryz.prog 86 Qh9:=Q5u Q9e
theorem Q8k : Qli Tryz.prog 87 Qia:=Q5v Q9f
theorem Q96 : Qo4 Tryz.prog 54 Qgi:=Q8c Qmd Q8j Q8k Qbbl
theorem Qku : Qfm Tryz.prog 48 Qek:=Qt0 Q96 Qpx Qqy Q3f Qbc
theorem Q1j : Qhs Tryz.prog 71 Ql8:=Qt1 Qke Qku Q3i
theorem Q3m : Qim Tryz.prog 35 Qm7:=Qxx Qjq Qcw Q57 Q58 Tryz.rowK33 Tryz.compK34 Tryz.rowK36 Q1j Q53 Qbc
theorem Qee : Qc1 Tryz.prog 19 Qci:=Qpp Qt8 Qbc
theorem Qme : Qf5 Tryz.prog 14 Qex:=Qxy Qee Q50 Qbc
theorem Qif : Qec Tryz.prog 15 Qdi:=Qn5 Qee Qr0 Qbc
theorem Q1k : Qhu Tryz.prog 8 Qh6:=Qt2 Qmb Qme Qif Qee Q8i Qua Q3m Q3b
theorem Q3n : Qip Tryz.prog 9 Qf8:=Qxz Q5x Qbc
theorem Qpy : Qfi Tryz.prog 11 Qd5:=Qm3 Qqw Qbc
theorem Qhe : Qej Tryz.prog 36 Qdo:=Qt3 Q3d
theorem Qmf : Qf6 Tryz.prog 74 Qcg:=Qx0 Q55 Qbc
theorem Qm8 : Qgq Tryz.prog 73 Qc7:=Q09 Q7h Qbc
theorem Q1l : Qhx Tryz.prog 72 Qfp:=Qt4 Qm8 Qmf Q3j Qbc
theorem Q1m : Qhz Tryz.prog 75 Qel:=Qt5 Q3k Qbc
theorem Qqz : Qfx Tryz.prog 37 Qed:=Qn6 Qhe Q1l Qm8 Qmf Q1m Qr1 Qbc
theorem Q3o : Qis Tryz.prog 10 Qf9:=Qx1 Qhe Qqz Q5y Qbc
theorem Qdz : Qc5 Tryz.prog 45 Qc8:=Q1a Q7e Qbc
theorem Q3p : Qiu Tryz.prog 23 Qga:=Qx2 Qdz Q51 Qbc
theorem Qkg : Qfa Tryz.prog 53 Qd7:=Qry Qdz Q1d Qbc
theorem Qx9 : Qhb Tryz.prog 51 Qfc:=Qrz Qdz Q1c Qbc
theorem Qkv : Qfn Tryz.prog 20 Qem:=Qt6 Qdz Qx9 Q3c Qbc
theorem Q1n : Qh2 Tryz.prog 44 Qfq:=Qt7 Qkv Qkg Q3e
theorem Q3q : Qiw Tryz.prog 24 Qgb:=Qx3 Qkv Qdz Qkg Q52 Qbc
theorem Qub : Qgr Tryz.prog 13 Qcq:=Qqu Qee Q3p Q3q Qhe Q1n Qdz Qx4 Qbc
theorem Q7l : Qj8 Tryz.prog 63 Qhj:=Q3a Q8f Qbc
theorem Q59 : Qjm Tryz.prog 81 Qgv:=Q1b Q7i Qbc
theorem Q8l : Qlk Tryz.prog 47 Qib:=Q5w Q7l Q59 Q9d
theorem Quc : Qgt Tryz.prog 16 Qez:=Qqv Qke Q8l Qku Qx5
theorem Q7m : Qfd Tryz.prog 3 Qds:=Qiy Q1k Q3n Q3o Qpy Qmb Qub Qme Qif Quc Qjy
end Go.Proofs
end
section
namespace Go.Abs
open Go Go.ChangeShapes Go.WideShapes Go.ChangeAt Go.RowKit
def live (w : World) : Nat → Nat → Prop:=fun b o=>(w.cell? ⟨b,o,none⟩).isSome = true
def RDs (w : World) : List D → List Value → Prop
 | [],vs=>vs = []
 | x :: xs,vs=>∃ u us,vs = u :: us ∧ RD (live w) w x u ∧ RDs w xs us
theorem Qbdj {w : World} : ∀ {xs ys : List D} {us vs : List Value},RDs w xs us → RDs w ys vs → RDs w (xs ++ ys) (us ++ vs)
 | [],ys,us,vs,h,k=>by simp only [RDs] at h; subst h; simpa using k
 | x :: xs,ys,us,vs,⟨u,us',e,r,h⟩,k=>by subst e; exact ⟨u,us' ++ vs,by simp,r,Qbdj h k⟩
def RDat (w : World) (cs : List Value) (off : Nat) (xs : List D) : Prop:=RDs w xs ((cs.drop off).take xs.length)
theorem RDat.app {w : World} {cs : List Value} {off : Nat} {xs ys : List D} (h : RDat w cs off xs) {n : Nat} (hn : n = off + xs.length) (k : RDat w cs n ys) : RDat w cs off (xs ++ ys):=by
 subst hn
 have:=Qbdj h k
 unfold RDat
 rw [List.length_append,List.take_add,List.drop_drop]
 exact this
theorem RDat.nil {w : World} {cs : List Value} {off : Nat} : RDat w cs off []:=by simp [RDat,RDs]
theorem RDat.all {w : World} {cs : List Value} {xs : List D} (h : RDat w cs 0 xs) (hl : cs.length = xs.length) : RDs w xs cs:=by
 unfold RDat at h
 rw [List.drop_zero,← hl,List.take_length] at h
 exact h
theorem Qbll {w : World} {b : Nat} : ∀ {xs : List D} {vs : List Value} {o : Nat},RDs w xs vs → (∀ i v,vs[i]? = some v → w.cell? ⟨b,o + i,none⟩ = some v) → RDc (live w) w b xs o
 | [],vs,o,_,_=>by simp [RDc]
 | x :: xs,vs,o,⟨u,us,e,r,h⟩,hc=>by
  subst e
  have h0:=hc 0 u rfl
  rw [Nat.add_zero] at h0
  refine ⟨by simp [live,h0],⟨u,h0,r⟩,Qbll h fun i v hv=>?_⟩
  have:=hc (i + 1) v (by simpa using hv)
  rw [show o + 1 + i = o + (i + 1) from by omega]; exact this
def Q9g {α : Type} (P : Program) (t : TypeId) (e : α → List D) (wf : α → Prop) : Prop :=
 ∀ {H : Type} {enc : TypeId × Value → H} {w : World} {base : Nat} {spare : Nat → Bool} {held : Bool} {fuel : Nat} {cs : List Value} {x : DataW H × List MemPlace},
  DataW.trod enc P w base spare held fuel t cs = some x → ∃ a,wf a ∧ RDs w (e a) cs
def wfI (k : IntKind) (n : Int) : Prop:=(Lit.int k n).wf = true
def wfL {α : Type} (wf : α → Prop) (l : List α) : Prop:=l.length ≤ maxLen ∧ ∀ a ∈ l,wf a
variable {P : Program} {t : TypeId}
theorem Qbbt {k : IntKind} (ht : P.underlying t = some (.int k)) : Q9g P t (fun n : Int=>[.int k n]) (wfI k):=by
 intro H enc w base spare held fuel cs x h
 obtain ⟨n,rfl,_,hw⟩:=DataW.trod_int ht h
 exact ⟨n,hw,_,_,rfl,by simp [RD],rfl⟩
theorem cells?_get {w : World} {base : Nat} {a : Addr} {n : Nat} {cs : List Value} (h : w.cells? base a n = some cs) : cs.length = n ∧ ∀ i v,cs[i]? = some v → w.cell? (a.add i) = some v:=by
 obtain ⟨h1,h2,h3⟩:=World.cells?_some h
 refine ⟨h2,fun i v hv=>?_⟩
 have hi:=(List.getElem?_eq_some_iff.1 hv).1
 have:=h3 i (by omega)
 rw [this]; simpa using hv
theorem Qbha {α : Type} {el : TypeId} {e : α → List D} {wf : α → Prop} {sz : Nat} (ht : P.underlying t = some (.slice el)) (he : Q9g P el e wf) (hsz : P.cellsOf el = sz) (hpos : 0 < sz) (hlen : ∀ a,(e a).length = sz) :
  Q9g P t (fun l : List α=>[.lst sz (l.map e)]) (wfL wf):=by
 intro H enc w base spare held fuel cs x h
 rcases DataW.trod_slice ht h with ⟨rfl,_⟩ | ⟨a,len,cap,Qhm,rest,n,_,rfl,_,hb,hl,hm,helen,hel,_,_⟩
 ·exact ⟨[],⟨by simp,by simp⟩,_,_,rfl,by simp only [RD,List.map_nil,List.length_nil]; exact ⟨none,0,rfl,Nat.le_refl _,.inl trivial⟩,rfl⟩
 ·have key : ∀ m,m ≤ len → ∃ l : List α,l.length = m ∧ (∀ x ∈ l,wf x) ∧ ∀ i y,l[i]? = some y → ∃ vs,w.cells? base (a.add (i * sz)) sz = some vs ∧ RDs w (e y) vs:=by
   intro m
   induction m with
   | zero=>exact fun _=>⟨[],rfl,by simp,by simp⟩
   | succ m ih =>
    intro hm'
    obtain ⟨l,h1,h2,h3⟩:=ih (by omega)
    have h4:=hel m (by omega)
    have h5 : Qhm[m]? = some Qhm[m]:=List.getElem?_eq_getElem (by omega)
    rw [h5,hsz,Option.bind_eq_some_iff] at h4
    obtain ⟨vs,h6,h7⟩:=h4
    obtain ⟨y,h8,h9⟩:=he h7
    refine ⟨l ++ [y],by simp [h1],?_,fun i z hz=>?_⟩
    ·intro x hx
     rcases List.mem_append.1 hx with hx | hx
     ·exact h2 x hx
     ·simp at hx; subst hx; exact h8
    ·by_cases hi : i < m
     ·rw [List.getElem?_append_left (by omega)] at hz; exact h3 i z hz
     ·have : i = m:=by
       have:=(List.getElem?_eq_some_iff.1 hz).1
       simp at this; omega
      subst this
      rw [List.getElem?_append_right (by omega),h1] at hz
      simp at hz; subst hz
      exact ⟨vs,h6,h9⟩
  obtain ⟨l,h1,h2,h3⟩:=key len (Nat.le_refl _)
  have hmax : l.length ≤ maxLen:=by omega
  refine ⟨l,⟨hmax,h2⟩,_,_,rfl,?_,rfl⟩
  simp only [RD,List.length_map,h1]
  refine ⟨some a,cap,rfl,hl,?_⟩
  cases l with
  | nil=>exact .inl rfl
  | cons y l =>
   right
   have hspot : a.spot = none:=by
    obtain ⟨vs,h4,h5⟩:=h3 0 y rfl
    obtain ⟨h6,h7⟩:=cells?_get h4
    have hv : vs[0]? = some vs[0]:=List.getElem?_eq_getElem (by omega)
    have:=h7 0 _ hv
    cases hs : a.spot with
    | none=>rfl
    | some s =>
     unfold World.cell? at this
     split at this
     ·simp [Addr.add,hs] at this
     ·cases this
   obtain ⟨b,o,sp⟩:=a
   simp only at hspot
   subst hspot
   refine ⟨b,o,rfl,?_⟩
   have row : ∀ (l : List α) (j : Nat),(∀ i y,l[i]? = some y → ∃ vs,w.cells? base ((⟨b,o,none⟩ : Addr).add ((j + i) * sz)) sz = some vs ∧ RDs w (e y) vs) → RDL (live w) w sz b (l.map e) (o + j * sz):=by
    intro l
    induction l with
    | nil=>intro j _; simp [RDL]
    | cons y l ih =>
     intro j h
     obtain ⟨vs,h4,h5⟩:=h 0 y rfl
     obtain ⟨h6,h7⟩:=cells?_get h4
     refine ⟨hlen y,Qbll h5 fun i v hv=>?_,?_⟩
     ·have:=h7 i v hv
      rw [Qf0,Qf0] at this
      simpa [Nat.add_assoc] using this
     ·have:=ih (j + 1) fun i y hy=>by
       have:=h (i + 1) y (by simpa using hy)
       rw [show j + 1 + i = j + (i + 1) from by omega]; exact this
      rw [show o + j * sz + sz = o + (j + 1) * sz from by rw [Nat.add_mul]; omega]
      exact this
   have:=row (y :: l) 0 fun i y hy=>by simpa using h3 i y hy
   simpa using this
theorem Qic {α : Type} {el : TypeId} {e : α → List D} {wf : α → Prop} {sz : Nat} (he : Q9g P el e wf) (hsz : P.cellsOf el = sz) (hlen : ∀ a,(e a).length = sz)
  {H : Type} {enc : TypeId × Value → H} {w : World} {base : Nat} {spare : Nat → Bool} {held : Bool} {fuel off : Nat} {cs : List Value} {x : DataW H × List MemPlace}
  (h : DataW.trod enc P w base spare held fuel el ((cs.drop off).take (P.cellsOf el)) = some x) : ∃ a,wf a ∧ RDat w cs off (e a):=by
 obtain ⟨a,h1,h2⟩:=he h
 refine ⟨a,h1,?_⟩
 unfold RDat
 rw [hlen,← hsz]; exact h2
theorem Qblm {H : Type} {enc : TypeId × Value → H} {w : World} {base : Nat} {spare : Nat → Bool} {held : Bool} {fuel : Nat} {cs : List Value} {x : DataW H × List MemPlace} {fs : Array Field}
  (ht : P.underlying t = some (.struct fs)) (h : DataW.trod enc P w base spare held fuel t cs = some x) :
  cs.length = P.cellsOf t ∧ ∃ n,∀ (i : Nat) (f : Field),fs[i]? = some f → ∃ y,DataW.trod enc P w base spare held n f.type ((cs.drop f.offset).take (P.cellsOf f.type)) = some y:=by
 obtain ⟨xs,n,_,_,h1,h2,h3⟩:=DataW.trod_struct ht h
 refine ⟨h1,n,fun i f hf=>?_⟩
 have hi : i < fs.size:=(Array.getElem?_eq_some_iff.1 hf).1
 exact ⟨xs[i]'(by omega),by rw [h3 i f hf]; exact List.getElem?_eq_getElem (by omega)⟩
theorem Qbmz {H : Type} {enc : TypeId × Value → H} {w : World} {base : Nat} {spare : Nat → Bool} {held : Bool} {fuel : Nat} {cs : List Value} {x : DataW H × List MemPlace} {n : Nat} {el : TypeId}
  (ht : P.underlying t = some (.array n el)) (h : DataW.trod enc P w base spare held fuel t cs = some x) :
  cs.length = P.cellsOf t ∧ ∃ m,∀ i,i < n → ∃ y,DataW.trod enc P w base spare held m el ((cs.drop (i * P.cellsOf el)).take (P.cellsOf el)) = some y:=by
 obtain ⟨xs,m,_,_,h1,h2,h3⟩:=DataW.trod_array ht h
 exact ⟨h1,m,fun i hi=>⟨xs[i]'(by omega),by rw [h3 i hi]; exact List.getElem?_eq_getElem (by omega)⟩⟩
def Qlq {α : Type} (P : Program) (t : TypeId) (v : α → V) (wf : α → Prop) : Prop :=
 ∀ {H : Type} {enc : TypeId × Value → H} {w : World} {base b0 : Nat} {spare : Nat → Bool} {held : Bool} {u : Value} {d : DataW H} {ps : List MemPlace},
  Value.okWide P w .any b0 t u → DataW.Trod enc P w base spare held t u d ps → ∃ a,wf a ∧ RF ⟨fun _=>0,live w,fun _=>.ext⟩ w (v a) u
theorem Qbln {α : Type} {e : α → D} {wf : α → Prop} (he : Q9g P t (fun a=>[e a]) wf) (hone : ∀ w b0 u,Value.okWide P w .any b0 t u → u.cells = #[u]) : Qlq P t (fun a=>.d (e a)) wf:=by
 intro H enc w base b0 spare held u d ps hok hd
 obtain ⟨fuel,hf⟩:=hd
 rw [hone _ _ _ hok] at hf
 obtain ⟨a,h1,u',us,h2,h3,h4⟩:=he hf
 simp only [RDs] at h4; subst h4
 simp at h2; subst h2
 exact ⟨a,h1,fun ℓ=>by simpa [RV] using h3⟩
theorem Qbor {k : IntKind} (ht : P.underlying t = some (.int k)) : ∀ w b0 u,Value.okWide P w .any b0 t u → u.cells = #[u]:=by
 intro w b0 u h
 simp only [Value.okWide,ht] at h
 cases u <;> first | rfl | (simp [Cell.okWide,Cell.ok,ht] at h)
theorem Qblo {el : TypeId} (ht : P.underlying t = some (.slice el)) : ∀ w b0 u,Value.okWide P w .any b0 t u → u.cells = #[u]:=by
 intro w b0 u h
 simp only [Value.okWide,ht] at h
 cases u <;> first | rfl | (simp [Cell.okWide,Cell.ok,ht] at h)
theorem Qbpq {imm : Nat → Nat → Prop} {w : World} {x : D} {u : Value} (h : RD imm w x u) : u.oneCell' = true:=by
 cases x with
 | int k n=>simp only [RD] at h; subst h; rfl
 | bool b=>simp only [RD] at h; subst h; rfl
 | str s=>simp only [RD] at h; subst h; rfl
 | lst sz l=>simp only [RD] at h; obtain ⟨a,cap,rfl,_⟩:=h; cases a <;> rfl
theorem Qblp {w : World} {g : G} (hg : g.imm = live w) : ∀ {xs : List D} {us : List Value} {ℓ : Owner} {i : Nat},RDs w xs us → RVs g w (xs.map V.d) ℓ i us ∧ ∀ u ∈ us,u.oneCell' = true
 | [],us,ℓ,i,h=>by simp only [RDs] at h; subst h; simp [RVs]
 | x :: xs,us,ℓ,i,⟨u,us',e,r,h⟩=>by
  subst e
  obtain ⟨h1,h2⟩:=Qblp hg (ℓ:=ℓ) (i:=i + 1) h
  refine ⟨⟨u,us',rfl,by simpa [RV,hg] using r,h1⟩,fun v hv=>?_⟩
  rcases List.mem_cons.1 hv with rfl | hv
  ·exact Qbpq r
  ·exact h2 v hv
theorem Qbos {α : Type} {e : α → List D} {wf : α → Prop} (he : Q9g P t e wf) (hagg : (∃ fs,P.underlying t = some (.struct fs)) ∨ ∃ n el,P.underlying t = some (.array n el)) : Qlq P t (fun a=>.agg ((e a).map V.d)) wf:=by
 intro H enc w base b0 spare held u d ps hok hd
 obtain ⟨cs,rfl⟩ : ∃ cs,u = .agg cs:=by
  rcases hagg with ⟨fs,ht⟩ | ⟨n,el,ht⟩
  ·simp only [Value.okWide,ht] at hok; obtain ⟨cs,rfl,_⟩:=hok; exact ⟨cs,rfl⟩
  ·simp only [Value.okWide,ht] at hok; obtain ⟨cs,rfl,_⟩:=hok; exact ⟨cs,rfl⟩
 obtain ⟨fuel,hf⟩:=hd
 obtain ⟨a,h1,h2⟩:=he hf
 refine ⟨a,h1,fun ℓ=>?_⟩
 simp only [RV]
 obtain ⟨h3,h4⟩:=Qblp (g:=⟨fun _=>0,live w,fun _=>.ext⟩) rfl (ℓ:=ℓ) (i:=0) h2
 exact ⟨cs.toList,by simp,h3,h4⟩
def Qbot (P : Program) (f : FuncId) (ts : List TypeId) : Prop :=
 ∀ {H : Type} {enc : TypeId × Value → H} {w : World} {b0 : Nat} {us : List Value} {ds : List (DataW H)} {ps : List MemPlace},
  (∀ (j : Nat) t u,ts[j]? = some t → us[j]? = some u → Value.okWide P w .any b0 t u) → DataW.TrodAll enc P w 0 (fun _=>true) true ts us ds ps →
  ∃ vs,RFs ⟨fun _=>0,live w,fun _=>.ext⟩ w vs us ∧ (∀ x ∈ vs,Flat x) ∧ V.lt.go 0 vs = true ∧ ∀ M nb,ACalls P f vs M nb (.d (.bool true)) M nb
theorem Q8m (hl : laidOutB P = true) {W W' : World} {sp : Nat → Bool} {H : Type} {enc : TypeId × Value → H} : ∀ {ts : List TypeId} {us : List Value} {ds : List (DataW H)} {ps : List MemPlace},
  (∀ t ∈ ts,P.readableRec t = true ∧ t < P.types.size) → DataW.TrodAll enc P W 0 (fun _=>true) true ts us ds ps → (∀ p ∈ ps,W.sameAt W' p) → (∀ p ∈ ps,sp p.block = true) → DataW.TrodAll enc P W' 0 sp true ts us ds ps
 | [],[],[],ps,_,h,_,_=>h
 | t :: ts,u :: us,d :: ds,ps,hr,⟨p,q,h1,h2,e⟩,hs,hp=>by
  subst e
  obtain ⟨r1,r2⟩:=hr t (by simp)
  exact ⟨p,q,WideElems.Trod_stays hl r1 r2 h1 (fun x hx=>hs x (by simp [hx])) (fun x hx=>hp x (by simp [hx])),Q8m hl (fun t ht=>hr t (by simp [ht])) h2 (fun x hx=>hs x (by simp [hx])) (fun x hx=>hp x (by simp [hx])),rfl⟩
 | [],[],_ :: _,_,_,h,_,_=>h.elim
 | [],_ :: _,_,_,_,h,_,_=>h.elim
 | _ :: _,[],_,_,_,h,_,_=>h.elim
 | _ :: _,_ :: _,[],_,_,h,_,_=>h.elim
theorem Qbbu {W : World} {sp : Nat → Bool} {held : Bool} {base : Nat} {H : Type} {enc : TypeId × Value → H} : ∀ {ts : List TypeId} {us : List Value} {ds : List (DataW H)} {ps : List MemPlace},
  DataW.TrodAll enc P W base sp held ts us ds ps → ds.length = ts.length ∧ us.length = ts.length
 | [],[],[],ps,h=>⟨rfl,rfl⟩
 | t :: ts,u :: us,d :: ds,ps,⟨p,q,h1,h2,e⟩=>by have:=Qbbu h2; simp [this.1,this.2]
 | [],[],_ :: _,_,h=>h.elim
 | [],_ :: _,_,_,h=>h.elim
 | _ :: _,[],_,_,h=>h.elim
 | _ :: _,_ :: _,[],_,h=>h.elim
theorem Qbou {C : Checked} {f : FuncId} {fn : Func} {s : ChangeSpec} {conds : List PathCond} {bt : TypeId} {os : Os} {H : Type} {enc : TypeId × Value → H}
  (own : ownKnob C.prog.godebug = none) (started : os.Started) (noInit : C.prog.inits.idxOf? f = none) (hfn : C.prog.funcs[f]? = some fn)
  (witness : ∃ (w : World) (tape : Tape) (i : Input),w.os = os ∧ (w.forCall tape i).Shaped C.prog ∧ i.vars = [] ∧ Input.okWide C.prog (w.forCall tape i) .any w.heap.size f i ∧
   s.pre6 enc C.prog fn conds false (w.forCall tape i).memory i.args ∧ ({} : Assume).holds C.prog (lone (Frame.enter C.prog f i.args .normal) [] (w.forCall tape i)))
  (hvars : s.vars = []) (hres : fn.resultTypes = #[bt]) (hbt : C.prog.underlying bt = some .bool)
  (hl : laidOutB C.prog = true) (hread : ∀ t ∈ fn.params.toList,C.prog.readableRec t = true ∧ t < C.prog.types.size)
  (hspec : ∀ ds : List (DataW H),ds.length = fn.params.size → s.fn H ds = { results:=[.lit (.bool true)],args:=ds })
  (law : Qbot C.prog f fn.params.toList) :
  ReturnsInHanded {} C os f .any (s.pre6 enc C.prog fn conds false) (s.post enc C.prog fn false true false false):=by
 refine returnsInHanded_of_change own started noInit hfn witness ?_
 intro W base args ds gs before hval hW hcnd _
 have hW':=hW
 obtain ⟨p,q,hA,hV,hps,hfz,hnd⟩:=hW
 rw [hvars] at hV
 obtain ⟨rfl,rfl⟩ : gs = [] ∧ q = []:=by
  cases gs with
  | nil=>exact ⟨rfl,hV⟩
  | cons _ _=>exact hV.elim
 obtain ⟨vs,h1,h2,h3,h4⟩:=law (fun j t u ht hu=>hval j t u (by simpa using ht) (by simpa using hu)) hA
 obtain ⟨hb,_,h5⟩:=h4 (fun _=>none) 0
 have hlv : ∀ b o,live W b o → b < W.heap.size:=by
  intro b o h
  simp only [live] at h
  obtain ⟨v,hv⟩:=Option.isSome_iff_exists.1 h
  unfold World.cell? at hv
  split at hv
  ·rename_i hh; exact (Array.getElem?_eq_some_iff.1 hh).1
  ·cases hv
 have hmr : MR ⟨fun _=>0,live W,fun _=>.ext⟩ W (fun _=>none) 0:=⟨fun k b h=>(by cases h),fun b o h=>⟨hlv b o h,fun k h=>by cases h⟩⟩
 have h6:=h5 W ⟨fun _=>0,live W,fun _=>.ext⟩ args.toList hmr (fun k cs h=>by cases h) (fun b=>⟨fun t p h=>(by cases h),fun p h=>(by cases h)⟩) h1 h2 (ons_mono (fun k hk=>absurd hk (Nat.not_lt_zero k)) _ (ons_lt vs h3))
 refine Calls.mono h6 fun e W' ⟨v,g',he,_,hr,_,_,hf⟩=>?_
 subst he
 have hv : v = .bool true:=by simpa [RV,RD] using hr
 subst hv
 have hbelow : Below W.heap.size W W':=⟨hf.os,hf.tape,hf.output,hf.size,fun k hk=>(hf.old k hk trivial).2.1⟩
 have hrl : (Value.bool true).resultList fn.resultTypes.size = [.bool true]:=by rw [hres]; rfl
 have hsp : s.fn H (ds ++ []) = { results:=[.lit (.bool true)],args:=ds }:=by
  rw [List.append_nil]
  exact hspec ds (by have:=(Qbbu hA).1; simpa using this)
 have hlt : ∀ p ∈ before,p.block < W.heap.size:=fun x hx=>hW'.lt x hx
 have hst : ∀ sp : Nat → Bool,(∀ p ∈ before,sp p.block = true) → DataW.TrodAll enc C.prog W' 0 sp true fn.params.toList args.toList ds before:=by
  intro sp hsp'
  have e : p = before:=by rw [hps,List.append_nil]
  subst e
  exact Q8m hl hread hA (fun x hx=>hbelow.same (hlt x hx)) hsp'
 refine ⟨_,rfl,ds,[],before,[],before,[],hW',?_,?_,?_,World.keptBut_mono (fun p hp=>⟨hp,.inr (.inl hp)⟩) (hbelow.frame (· ∈ before)),fun h=>by cases h⟩
 ·rw [hsp,hrl,hres]
  exact ⟨[],[],⟨1,by simp [DataW.trod,Value.cells,hbt]⟩,rfl,rfl⟩
 ·rw [hsp]
  exact hst _ fun p hp=>by simpa using hlt p hp
 ·rw [hsp,hvars]; rfl
section
variable {α β γ δ : Type} {f : FuncId} {ta tb tc td : TypeId} {va : α → V} {vb : β → V} {vc : γ → V} {vd : δ → V} {wa : α → Prop} {wb : β → Prop} {wc : γ → Prop} {wd : δ → Prop}
theorem Qpz {H : Type} {enc : TypeId × Value → H} {w : World} {base : Nat} {sp : Nat → Bool} {held : Bool} {t : TypeId} {ts : List TypeId} {us : List Value} {ds : List (DataW H)} {ps : List MemPlace} (h : DataW.TrodAll enc P w base sp held (t :: ts) us ds ps) :
  ∃ u us' d ds' p q,us = u :: us' ∧ ds = d :: ds' ∧ DataW.Trod enc P w base sp held t u d p ∧ DataW.TrodAll enc P w base sp held ts us' ds' q:=by
 match us,ds,h with
 | u :: us',d :: ds',⟨p,q,h1,h2,_⟩=>exact ⟨u,us',d,ds',p,q,rfl,rfl,h1,h2⟩
 | [],[],h=>exact h.elim
 | [],_ :: _,h=>exact h.elim
 | _ :: _,[],h=>exact h.elim
theorem Qbbv {H : Type} {enc : TypeId × Value → H} {w : World} {base : Nat} {sp : Nat → Bool} {held : Bool} {us : List Value} {ds : List (DataW H)} {ps : List MemPlace} (h : DataW.TrodAll enc P w base sp held [] us ds ps) : us = []:=by
 match us,ds,h with
 | [],[],_=>rfl
 | [],_ :: _,h=>exact h.elim
 | _ :: _,[],h=>exact h.elim
 | _ :: _,_ :: _,h=>exact h.elim
theorem Qbp3 (ra : Qlq P ta va wa) (fa : ∀ a,(va a).dem = va a) (la : ∀ a,(va a).lt 0 = true) (rb : Qlq P tb vb wb) (fb : ∀ a,(vb a).dem = vb a) (lb : ∀ a,(vb a).lt 0 = true)
  (law : ∀ a b,wa a → wb b → ∀ M nb,ACalls P f [va a,vb b] M nb (.d (.bool true)) M nb) : Qbot P f [ta,tb]:=by
 intro H enc w b0 us ds ps hok hT
 obtain ⟨u,us',d,ds',p,q,rfl,rfl,h1,hT⟩:=Qpz hT
 obtain ⟨u2,us',d2,ds',p2,q2,rfl,rfl,h2,hT⟩:=Qpz hT
 obtain rfl:=Qbbv hT
 obtain ⟨a,ha,hra⟩:=ra (hok 0 _ _ rfl rfl) h1
 obtain ⟨b,hb,hrb⟩:=rb (hok 1 _ _ rfl rfl) h2
 refine ⟨[va a,vb b],⟨u,_,rfl,hra,u2,_,rfl,hrb,rfl⟩,?_,by simp [V.lt.go,la,lb],law a b ha hb⟩
 intro x hx
 simp only [List.mem_cons,List.not_mem_nil,or_false] at hx
 rcases hx with rfl | rfl
 ·exact fa a
 ·exact fb b
theorem Qbp4 (ra : Qlq P ta va wa) (fa : ∀ a,(va a).dem = va a) (la : ∀ a,(va a).lt 0 = true) (rb : Qlq P tb vb wb) (fb : ∀ a,(vb a).dem = vb a) (lb : ∀ a,(vb a).lt 0 = true)
  (rc : Qlq P tc vc wc) (fc : ∀ a,(vc a).dem = vc a) (lc : ∀ a,(vc a).lt 0 = true)
  (law : ∀ a b c,wa a → wb b → wc c → ∀ M nb,ACalls P f [va a,vb b,vc c] M nb (.d (.bool true)) M nb) : Qbot P f [ta,tb,tc]:=by
 intro H enc w b0 us ds ps hok hT
 obtain ⟨u,us',d,ds',p,q,rfl,rfl,h1,hT⟩:=Qpz hT
 obtain ⟨u2,us',d2,ds',p2,q2,rfl,rfl,h2,hT⟩:=Qpz hT
 obtain ⟨u3,us',d3,ds',p3,q3,rfl,rfl,h3,hT⟩:=Qpz hT
 obtain rfl:=Qbbv hT
 obtain ⟨a,ha,hra⟩:=ra (hok 0 _ _ rfl rfl) h1
 obtain ⟨b,hb,hrb⟩:=rb (hok 1 _ _ rfl rfl) h2
 obtain ⟨c,hc,hrc⟩:=rc (hok 2 _ _ rfl rfl) h3
 refine ⟨[va a,vb b,vc c],⟨u,_,rfl,hra,u2,_,rfl,hrb,u3,_,rfl,hrc,rfl⟩,?_,by simp [V.lt.go,la,lb,lc],law a b c ha hb hc⟩
 intro x hx
 simp only [List.mem_cons,List.not_mem_nil,or_false] at hx
 rcases hx with rfl | rfl | rfl
 ·exact fa a
 ·exact fb b
 ·exact fc c
end
theorem Qbns {H : Type} {enc : TypeId × Value → H} {w : World} {base : Nat} {spare : Nat → Bool} {held : Bool} {fuel : Nat} {cs : List Value} {x : DataW H × List MemPlace} {n sz : Nat} {el : TypeId}
  (ht : P.underlying t = some (.array n el)) (hsz : P.cellsOf el = sz) (h : DataW.trod enc P w base spare held fuel t cs = some x) :
  cs.length = P.cellsOf t ∧ ∃ m,∀ i,i < n → ∃ y,DataW.trod enc P w base spare held m el ((cs.drop (i * sz)).take (P.cellsOf el)) = some y:=by
 obtain ⟨h1,m,h2⟩:=Qbmz ht h
 exact ⟨h1,m,fun i hi=>by have:=h2 i hi; rwa [show i * P.cellsOf el = i * sz from by rw [hsz]] at this⟩
end Go.Abs
end
section
namespace Go.Proofs
open Go Go.Abs
set_option maxRecDepth 100000
def W_22 (x : Int) : Prop:=wfI .u8 x
theorem R_22 : Q9g Tryz.prog 22 (eI .u8) W_22:=Qbbt Tryz.underlying22
theorem A_22 : Qlq Tryz.prog 22 (fun (a : Int)=>.d (.int .u8 a)) W_22:=Qbln R_22 (Qbor Tryz.underlying22)
def W_5 (x : Int) : Prop:=wfI .u8 x
theorem R_5 : Q9g Tryz.prog 5 (eI .u8) W_5:=Qbbt Tryz.underlying5
def W_23 (x : Int × Int × Int × Int × Int) : Prop:=W_5 x.1 ∧ W_5 x.2.1 ∧ W_5 x.2.2.1 ∧ W_5 x.2.2.2.1 ∧ W_5 x.2.2.2.2
theorem R_23 : Q9g Tryz.prog 23 (fun p : Int × Int × Int × Int × Int=>[.int .u8 p.1,.int .u8 p.2.1,.int .u8 p.2.2.1,.int .u8 p.2.2.2.1,.int .u8 p.2.2.2.2]) W_23:=by
  intro H enc w base spare held fuel cs x h
  obtain ⟨hl,n,hf⟩:=Qbns (sz:=1) Tryz.underlying23 (by kernel_rfl) h
  obtain ⟨y0,h0⟩:=hf 0 (by decide)
  obtain ⟨a0,w0,r0⟩:=Qic (off:=0 * 1) (sz:=1) R_5 (by kernel_rfl) (fun _=>rfl) h0
  obtain ⟨y1,h1⟩:=hf 1 (by decide)
  obtain ⟨a1,w1,r1⟩:=Qic (off:=1 * 1) (sz:=1) R_5 (by kernel_rfl) (fun _=>rfl) h1
  obtain ⟨y2,h2⟩:=hf 2 (by decide)
  obtain ⟨a2,w2,r2⟩:=Qic (off:=2 * 1) (sz:=1) R_5 (by kernel_rfl) (fun _=>rfl) h2
  obtain ⟨y3,h3⟩:=hf 3 (by decide)
  obtain ⟨a3,w3,r3⟩:=Qic (off:=3 * 1) (sz:=1) R_5 (by kernel_rfl) (fun _=>rfl) h3
  obtain ⟨y4,h4⟩:=hf 4 (by decide)
  obtain ⟨a4,w4,r4⟩:=Qic (off:=4 * 1) (sz:=1) R_5 (by kernel_rfl) (fun _=>rfl) h4
  exact ⟨(a0,a1,a2,a3,a4),⟨w0,w1,w2,w3,w4⟩,RDat.all (xs:=(fun p : Int × Int × Int × Int × Int=>[.int .u8 p.1,.int .u8 p.2.1,.int .u8 p.2.2.1,.int .u8 p.2.2.2.1,.int .u8 p.2.2.2.2]) (a0,a1,a2,a3,a4)) (RDat.app r0 rfl (RDat.app r1 rfl (RDat.app r2 rfl (RDat.app r3 rfl r4)))) (hl.trans (by kernel_rfl))⟩
def W_24 (x : (Int × Int × Int × Int × Int) × (Int × Int × Int × Int × Int) × (Int × Int × Int × Int × Int) × (Int × Int × Int × Int × Int) × (Int × Int × Int × Int × Int)) : Prop:=W_23 x.1 ∧ W_23 x.2.1 ∧ W_23 x.2.2.1 ∧ W_23 x.2.2.2.1 ∧ W_23 x.2.2.2.2
theorem R_24 : Q9g Tryz.prog 24 (fun p : (Int × Int × Int × Int × Int) × (Int × Int × Int × Int × Int) × (Int × Int × Int × Int × Int) × (Int × Int × Int × Int × Int) × (Int × Int × Int × Int × Int)=>[.int .u8 p.1.1,.int .u8 p.1.2.1,.int .u8 p.1.2.2.1,.int .u8 p.1.2.2.2.1,.int .u8 p.1.2.2.2.2,.int .u8 p.2.1.1,.int .u8 p.2.1.2.1,.int .u8 p.2.1.2.2.1,.int .u8 p.2.1.2.2.2.1,.int .u8 p.2.1.2.2.2.2,.int .u8 p.2.2.1.1,.int .u8 p.2.2.1.2.1,.int .u8 p.2.2.1.2.2.1,.int .u8 p.2.2.1.2.2.2.1,.int .u8 p.2.2.1.2.2.2.2,.int .u8 p.2.2.2.1.1,.int .u8 p.2.2.2.1.2.1,.int .u8 p.2.2.2.1.2.2.1,.int .u8 p.2.2.2.1.2.2.2.1,.int .u8 p.2.2.2.1.2.2.2.2,.int .u8 p.2.2.2.2.1,.int .u8 p.2.2.2.2.2.1,.int .u8 p.2.2.2.2.2.2.1,.int .u8 p.2.2.2.2.2.2.2.1,.int .u8 p.2.2.2.2.2.2.2.2]) W_24:=by
  intro H enc w base spare held fuel cs x h
  obtain ⟨hl,n,hf⟩:=Qbns (sz:=5) Tryz.underlying24 (by kernel_rfl) h
  obtain ⟨y0,h0⟩:=hf 0 (by decide)
  obtain ⟨a0,w0,r0⟩:=Qic (off:=0 * 5) (sz:=5) R_23 (by kernel_rfl) (fun _=>rfl) h0
  obtain ⟨y1,h1⟩:=hf 1 (by decide)
  obtain ⟨a1,w1,r1⟩:=Qic (off:=1 * 5) (sz:=5) R_23 (by kernel_rfl) (fun _=>rfl) h1
  obtain ⟨y2,h2⟩:=hf 2 (by decide)
  obtain ⟨a2,w2,r2⟩:=Qic (off:=2 * 5) (sz:=5) R_23 (by kernel_rfl) (fun _=>rfl) h2
  obtain ⟨y3,h3⟩:=hf 3 (by decide)
  obtain ⟨a3,w3,r3⟩:=Qic (off:=3 * 5) (sz:=5) R_23 (by kernel_rfl) (fun _=>rfl) h3
  obtain ⟨y4,h4⟩:=hf 4 (by decide)
  obtain ⟨a4,w4,r4⟩:=Qic (off:=4 * 5) (sz:=5) R_23 (by kernel_rfl) (fun _=>rfl) h4
  exact ⟨(a0,a1,a2,a3,a4),⟨w0,w1,w2,w3,w4⟩,RDat.all (xs:=(fun p : (Int × Int × Int × Int × Int) × (Int × Int × Int × Int × Int) × (Int × Int × Int × Int × Int) × (Int × Int × Int × Int × Int) × (Int × Int × Int × Int × Int)=>[.int .u8 p.1.1,.int .u8 p.1.2.1,.int .u8 p.1.2.2.1,.int .u8 p.1.2.2.2.1,.int .u8 p.1.2.2.2.2,.int .u8 p.2.1.1,.int .u8 p.2.1.2.1,.int .u8 p.2.1.2.2.1,.int .u8 p.2.1.2.2.2.1,.int .u8 p.2.1.2.2.2.2,.int .u8 p.2.2.1.1,.int .u8 p.2.2.1.2.1,.int .u8 p.2.2.1.2.2.1,.int .u8 p.2.2.1.2.2.2.1,.int .u8 p.2.2.1.2.2.2.2,.int .u8 p.2.2.2.1.1,.int .u8 p.2.2.2.1.2.1,.int .u8 p.2.2.2.1.2.2.1,.int .u8 p.2.2.2.1.2.2.2.1,.int .u8 p.2.2.2.1.2.2.2.2,.int .u8 p.2.2.2.2.1,.int .u8 p.2.2.2.2.2.1,.int .u8 p.2.2.2.2.2.2.1,.int .u8 p.2.2.2.2.2.2.2.1,.int .u8 p.2.2.2.2.2.2.2.2]) (a0,a1,a2,a3,a4)) (RDat.app r0 rfl (RDat.app r1 rfl (RDat.app r2 rfl (RDat.app r3 rfl r4)))) (hl.trans (by kernel_rfl))⟩
def W_26 (x : Q7) : Prop:=W_5 x.States ∧ W_5 x.Marks ∧ W_24 x.To
theorem R_26 : Q9g Tryz.prog 26 Qlt W_26:=by
  intro H enc w base spare held fuel cs x h
  obtain ⟨hl,n,hf⟩:=Qblm Tryz.underlying26 h
  obtain ⟨y0,h0⟩:=hf 0 _ rfl
  obtain ⟨a0,w0,r0⟩:=Qic (off:=0) (sz:=1) R_5 (by kernel_rfl) (fun _=>rfl) h0
  obtain ⟨y1,h1⟩:=hf 1 _ rfl
  obtain ⟨a1,w1,r1⟩:=Qic (off:=1) (sz:=1) R_5 (by kernel_rfl) (fun _=>rfl) h1
  obtain ⟨y2,h2⟩:=hf 2 _ rfl
  obtain ⟨a2,w2,r2⟩:=Qic (off:=2) (sz:=25) R_24 (by kernel_rfl) (fun _=>rfl) h2
  exact ⟨⟨a0,a1,a2⟩,⟨w0,w1,w2⟩,RDat.all (xs:=Qlt ⟨a0,a1,a2⟩) (RDat.app r0 rfl (RDat.app r1 rfl r2)) (hl.trans (by kernel_rfl))⟩
theorem A_26 : Qlq Tryz.prog 26 (fun (a : Q7)=>.agg [.d (.int .u8 a.States),.d (.int .u8 a.Marks),.d (.int .u8 a.To.1.1),.d (.int .u8 a.To.1.2.1),.d (.int .u8 a.To.1.2.2.1),.d (.int .u8 a.To.1.2.2.2.1),.d (.int .u8 a.To.1.2.2.2.2),.d (.int .u8 a.To.2.1.1),.d (.int .u8 a.To.2.1.2.1),.d (.int .u8 a.To.2.1.2.2.1),.d (.int .u8 a.To.2.1.2.2.2.1),.d (.int .u8 a.To.2.1.2.2.2.2),.d (.int .u8 a.To.2.2.1.1),.d (.int .u8 a.To.2.2.1.2.1),.d (.int .u8 a.To.2.2.1.2.2.1),.d (.int .u8 a.To.2.2.1.2.2.2.1),.d (.int .u8 a.To.2.2.1.2.2.2.2),.d (.int .u8 a.To.2.2.2.1.1),.d (.int .u8 a.To.2.2.2.1.2.1),.d (.int .u8 a.To.2.2.2.1.2.2.1),.d (.int .u8 a.To.2.2.2.1.2.2.2.1),.d (.int .u8 a.To.2.2.2.1.2.2.2.2),.d (.int .u8 a.To.2.2.2.2.1),.d (.int .u8 a.To.2.2.2.2.2.1),.d (.int .u8 a.To.2.2.2.2.2.2.1),.d (.int .u8 a.To.2.2.2.2.2.2.2.1),.d (.int .u8 a.To.2.2.2.2.2.2.2.2)]) W_26:=Qbos R_26 (.inl ⟨_,Tryz.underlying26⟩)
def W_3 (x : Int) : Prop:=wfI .i64 x
theorem R_3 : Q9g Tryz.prog 3 (eI .i64) W_3:=Qbbt Tryz.underlying3
def W_27 (x : List Int) : Prop:=wfL W_3 x
theorem R_27 : Q9g Tryz.prog 27 (eL 1 (eI .i64)) W_27:=Qbha Tryz.underlying27 R_3 (by kernel_rfl) (by decide) (fun _=>rfl)
theorem A_27 : Qlq Tryz.prog 27 (fun (a : List Int)=>.d (.lst 1 (List.map (eI .i64) a))) W_27:=Qbln R_27 (Qblo Tryz.underlying27)
end Go.Proofs
end
section
namespace Go.Abs
open Go
theorem Qdd {X R : Type} {F : (X → Option R) → X → Option R} (I : X → Prop) (m : X → Nat) (Q : X → Option R → Prop)
  (step : ∀ (k : X → Option R) (x : X),I x → (∀ y,I y → m y < m x → Q y (k y)) → Q x (F k x)) : ∀ (fuel : Nat) (x : X),I x → m x < fuel → Q x (Qcb F fuel x)
 | 0,x,_,h=>absurd h (Nat.not_lt_zero _)
 | fuel + 1,x,hi,h=>step _ x hi fun y hy hm=>Qdd I m Q step fuel y hy (by omega)
theorem Qbem {X R : Type} {F : (X → Option R) → X → Option R} {fuel : Nat} {x : X} (I : X → Prop) (m : X → Nat) (q : Option R) (hi : I x) (hm : m x < fuel)
  (step : ∀ (k : X → Option R) (x : X),I x → (∀ y,I y → m y < m x → k y = q) → F k x = q) : Qcb F fuel x = q :=
 Qdd I m (fun _ r=>r = q) step fuel x hi hm
theorem Qr4 {x : Int} (h1 : -9223372036854775808 ≤ x) (h2 : x ≤ 9223372036854775807) : IntKind.wrap .i64 x = x:=by
 simp [IntKind.wrap,IntKind.bits,IntKind.signed]; omega
theorem Qv {n : Nat} (h : n < 9223372036854775807) : IntKind.wrap .i64 ((n : Int) + 1) = ((n + 1 : Nat) : Int):=by
 rw [Qr4 (by omega) (by omega)]; omega
theorem Qbo {α : Type} {l : List α} {n : Nat} (h : n < l.length) : getO l (n : Int) = some l[n]:=by
 simp [getO,h]
theorem Qja {α : Type} {l : List α} {i : Int} {x : α} : getO l i = some x ↔ 0 ≤ i ∧ l[i.toNat]? = some x:=by
 unfold getO; split
 ·rename_i h; simp [h]
 ·rename_i h; simp only [reduceCtorEq,false_iff,not_and]; exact fun h'=>absurd h' h
theorem Qbx {α : Type} {l m : List α} (h : l.length + m.length ≤ lim) : appO l m = some (l ++ m):=by
 unfold appO; rw [if_pos h]
theorem Q9x {α : Type} {s t : List α} {k : Nat} (hs : k < s.length) (ht : k < t.length) (h : s.take k = t.take k) (he : s[k] = t[k]) : s.take (k + 1) = t.take (k + 1):=by
 rw [List.take_add_one,List.take_add_one,h,List.getElem?_eq_getElem hs,List.getElem?_eq_getElem ht,he]
theorem Qmg {R : Type} {F : (Int → Option R) → Int → Option R} {len fuel : Nat} (G : Nat → Option R) (hf : len < fuel)
  (step : ∀ (k : Int → Option R) (n : Nat),n < len → k ((n + 1 : Nat) : Int) = G (n + 1) → F k (n : Int) = G n) (last : ∀ k : Int → Option R,F k (len : Int) = G len) : Qcb F fuel 0 = G 0:=by
 have:=Qdd (F:=F) (fun x=>∃ n : Nat,x = (n : Int) ∧ n ≤ len) (fun x=>len - x.toNat) (fun x r=>∀ n : Nat,x = (n : Int) → r = G n) (fun k x hx ih=>by
  obtain ⟨n,rfl,hn⟩:=hx
  intro m hm
  obtain rfl : n = m:=by omega
  by_cases h : n < len
  ·exact step k n h (ih _ ⟨n + 1,rfl,by omega⟩ (by omega) (n + 1) rfl)
  ·obtain rfl : n = len:=by omega
   exact last k) fuel 0 ⟨0,rfl,by omega⟩ (by simpa using hf)
 exact this 0 rfl
theorem Qbbw {n : Nat} (h0 : 0 < n) (h : n < 9223372036854775807) : IntKind.wrap .i64 ((n : Int) - 1) = ((n - 1 : Nat) : Int):=by
 rw [Qr4 (by omega) (by omega)]; omega
theorem Qbm0 {X S R : Type} {F : (X → Option R) → X → Option R} {len : Nat} (mk : Nat → S → X) (G : Nat → S → Option R)
  (step : ∀ (k : X → Option R) (n : Nat) (s : S),n < len → (∀ s',k (mk (n + 1) s') = G (n + 1) s') → F k (mk n s) = G n s) (last : ∀ (k : X → Option R) (s : S),F k (mk len s) = G len s) :
  ∀ (fuel n : Nat) (s : S),n ≤ len → len - n < fuel → Qcb F fuel (mk n s) = G n s
 | 0,n,s,_,h=>by omega
 | fuel + 1,n,s,hn,h=>by
  show F (Qcb F fuel) (mk n s) = _
  by_cases hlt : n < len
  ·exact step _ n s hlt fun s'=>Qbm0 mk G step last fuel (n + 1) s' (by omega) (by omega)
  ·obtain rfl : n = len:=by omega
   exact last _ s
theorem Qbnt {i j : Nat} (hi : i < 1000000000000) (hj : j < 1000000000000) : IntKind.wrap .i64 (Int.fdiv (IntKind.wrap .u64 (IntKind.wrap .i64 ((i : Int) + j))) (2 ^ (min (Int.toNat 1) (IntKind.bits .u64)))) = (((i + j) / 2 : Nat) : Int):=by
 have h1 : IntKind.wrap .i64 ((i : Int) + j) = ((i + j : Nat) : Int):=by rw [Qr4 (by omega) (by omega)]; omega
 have h2 : IntKind.wrap .u64 ((i + j : Nat) : Int) = ((i + j : Nat) : Int):=by
  simp [IntKind.wrap,IntKind.bits,IntKind.signed]; omega
 have h3 : (2 : Int) ^ (min (Int.toNat 1) (IntKind.bits .u64)) = 2:=by decide
 rw [h1,h2,h3,Int.fdiv_eq_ediv_of_nonneg _ (by omega),show ((i + j : Nat) : Int) / 2 = (((i + j) / 2 : Nat) : Int) from by omega,Qr4 (by omega) (by omega)]
theorem Qbm1 {α : Type} {l : List α} {i j : Nat} (h : i ≤ j) (hj : j ≤ l.length) : slcO l (i : Int) (j : Int) = some ((l.take j).drop i):=by
 simp [slcO,h,hj]
theorem Qbi8 : ∀ {l m : List Int},l.Pairwise (· < ·) → m.Pairwise (· < ·) → (∀ x,x ∈ l ↔ x ∈ m) → l = m
 | l,m,h1,h2,h=>by
  have n1 : l.Nodup:=h1.imp fun h=>by omega
  have n2 : m.Nodup:=h2.imp fun h=>by omega
  have hp : l.Perm m:=(List.perm_ext_iff_of_nodup n1 n2).2 h
  exact List.Perm.eq_of_pairwise (le:=(· < ·)) (fun a b _ _ h1 h2=>by omega) h1 h2 hp
section
variable {α : Type} {p : α → Bool}
theorem Q9h : ∀ {l : List α},l.Pairwise (fun a b=>p b = true → p a = true) → ∀ (n : Nat) (h : n < l.length),p l[n] = true ↔ n < (l.filter p).length
 | [],_,n,h=>by simp at h
 | x :: xs,hs,n,h=>by
  obtain ⟨h1,h2⟩:=List.pairwise_cons.1 hs
  cases n with
  | zero =>
   cases hx : p x with
   | true=>simp [hx]
   | false =>
    have : xs.filter p = []:=List.filter_eq_nil_iff.2 fun y hy hp=>by have:=h1 y hy hp; rw [hx] at this; cases this
    simp [hx,this]
  | succ n =>
   have ih:=Q9h h2 n (by simpa using h)
   cases hx : p x with
   | true=>simp [hx,ih]
   | false =>
    have : xs.filter p = []:=List.filter_eq_nil_iff.2 fun y hy hp=>by have:=h1 y hy hp; rw [hx] at this; cases this
    rw [this] at ih
    simp [hx,this] at ih ⊢
    exact ih
end
theorem Qh7 {X S R : Type} {F : (X → Option R) → X → Option R} {len : Nat} (mk : Nat → S → X) (I : Nat → S → Prop) (G : Nat → S → Option R)
  (step : ∀ (k : X → Option R) (n : Nat) (s : S),n < len → I n s → (∀ s',I (n + 1) s' → k (mk (n + 1) s') = G (n + 1) s') → F k (mk n s) = G n s) (last : ∀ (k : X → Option R) (s : S),I len s → F k (mk len s) = G len s) :
  ∀ (fuel n : Nat) (s : S),n ≤ len → len - n < fuel → I n s → Qcb F fuel (mk n s) = G n s
 | 0,n,s,_,h,_=>by omega
 | fuel + 1,n,s,hn,h,hi=>by
  show F (Qcb F fuel) (mk n s) = _
  by_cases hlt : n < len
  ·exact step _ n s hlt hi fun s' hi'=>Qh7 mk I G step last fuel (n + 1) s' (by omega) (by omega) hi'
  ·obtain rfl : n = len:=by omega
   exact last _ s hi
theorem Qg1 : ∀ {l : List Int} {a b : Int},l.Pairwise (· < ·) → (∀ x ∈ l,a ≤ x ∧ x < b) → l.length ≤ (b - a).toNat
 | [],_,_,_,_=>by simp
 | x :: xs,a,b,h,hr=>by
  obtain ⟨h1,h2⟩:=List.pairwise_cons.1 h
  have:=Qg1 (a:=x + 1) (b:=b) h2 fun y hy=>⟨by have:=h1 y hy; omega,(hr y (by simp [hy])).2⟩
  have:=hr x (by simp)
  simp only [List.length_cons]
  omega
end Go.Abs
end
section
namespace Go.Abs
abbrev big : Nat := 1000000000000
def small (a : Qa) : Prop := a.Alphabet.length < big ∧ a.Marked.length < big ∧ a.Edges.length < big
end Go.Abs
end
