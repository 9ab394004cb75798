/-
  Part 6 of the proof: see the last text.
-/
import Derived.Test.YtdfiohnppomfgaaGreatP5
import Derived.Test.YtdfiohnppomfgaaGreatProg
import Derived.KernelRfl
import Derived.Sort.Statements
import Derived.Lib.SlicesCompact
import Derived.Lib.RuneBytes
import Derived.Shelf.SlSortCmp.NoneTotal
import Derived.Shelf.SlGeneric
import Derived.Ground.SlgmProg
import Derived.Shelf.SortM.Plain
import Derived.Shelf.SortM.SortNone
import Derived.Shelf.Small.Bits
import Derived.Ground.Names2Prog
import Derived.Shelf.Slices.CompactI
import Derived.WalkKit
import Derived.Shelf.Strings.BuilderK
import Derived.Shelf.Strings.BuilderRune
import Derived.Shelf.Strconv.Itoa0
import Derived.Shelf.Spec.SlicesGrow
import Derived.Ground.Names8Prog
import Derived.BigCall
import Derived.Lib.OthersKept
import Derived.Shelf.Slices.Turned
import Derived.Shelf.Slices.Equal
import Derived.Shelf.Slices.Clone
import Derived.Shelf.Slices.Empties
import Derived.Shelf.Slices.Empties2
import Derived.Ground.SlgfProg
import Derived.Shelf.SlicesE.IndexFunc
import Derived.Shelf.SlicesE.DeleteFunc
import Derived.Lib.OwnBridge
set_option linter.unusedVariables false
set_option linter.unusedSimpArgs false
set_option linter.unusedSectionVars false
section
namespace Go.Abs
open Go
set_option maxRecDepth 10000
set_option maxHeartbeats 4000000
theorem Qpa {P:Program} {c:Nat} {Qv:(List Int)→(List Int)→Option Bool}
    (H_overseerref03_SameInts:Qdl P 19 Qv) (hcf:Qu P c = some Qfx) (fuel:Nat):Qfw P c (Qb0 Qv fuel):=by
 intro a1 b2 r h
 refine Qcf hcf rfl fun Γ M hP hnt hM=>?_
 subst hP
 refine Tr.init [(0,.d (.lst 1 (List.map (eL 1 (eI .i64)) a1))),(1,.d (.lst 1 (List.map (eL 1 (eI .i64)) b2)))] rfl ?_
 unfold Qb0 at h
 unfold Qfx
 refine sr ((md rfl (nt ((Tr.seq (sr ((md rfl (Rn.lenD tv rfl (md rfl (Rn.lenD tv rfl (Rn.bin tv rfl rfl rfl (Rn.nil (toN ?_))))))))))))))
 refine Tr.cond rfl (fun hb3=>?_) (fun hb3=>?_)
 ·replace h:=bT hb3 h
  refine sr ((md rfl (nt ((Tr.ret ?_)))))
  replace h:=si h; subst h
  exact ⟨.inr rfl,(b_ false),rfl,fun _ _ _ _ h=>h,tv,fun k hk=>Qf hk⟩
 ·replace h:=bF hb3 h
  refine Tr.skip (toN (Tr.seq (sr ((md rfl (nt ((Tr.block ?_))))))))
  refine Tr.loop (mk:=fun (i4:Int)=>⟨look [(0,.d (.lst 1 (List.map (eL 1 (eI .i64)) a1))),(1,.d (.lst 1 (List.map (eL 1 (eI .i64)) b2))),(5,(i_ i4))],Qp Γ.n0 (bxs []) M,Γ.n0 + 27⟩) h (by exact Ql ⟨(sm rfl),(sm rfl),(sm rfl),tv⟩ tv rfl) (fun k5 z h=>?_)
  ·obtain ⟨i4,rfl⟩ : ∃ x,x = z:=⟨_,rfl⟩
   replace h:_ = some _:=h
   refine Tr.seq (sr ((md rfl (md rfl (Rn.lenD tv rfl (Rn.bin tv rfl rfl rfl (Rn.nil (toN ?_))))))))
   refine Tr.cond rfl (fun hb6=>?_) (fun hb6=>?_)
   ·replace h:=ifT hb6 h
    refine Tr.skip (toN (Tr.seq (Tr.block (Tr.seq ?_))))
    refine Tr.rgnD (by decide) ?_
    refine md rfl (md rfl ?_)
    obtain ⟨x7,h8,h⟩:=bnd h
    refine Rn.idxD (e:=(eL 1 (eI .i64))) tv rfl rfl h8 (Rn.loadC (x:=.lst 1 (List.map (eI .i64) x7)) tv rfl (md rfl (md rfl ?_)))
    obtain ⟨x9,h10,h⟩:=bnd h
    refine Rn.idxD (e:=(eL 1 (eI .i64))) tv rfl rfl h10 (Rn.loadC (x:=.lst 1 (List.map (eI .i64) x9)) tv rfl ?_)
    obtain ⟨x12,h11,h⟩:=bnd h
    refine Rn.call (args:=[(l_ x7),(l_ x9)]) tv rfl (H_overseerref03_SameInts _ _ _ h11) pc0 (Rn.un tv rfl rfl ?_)
    refine Rn.nil ⟨rfl,?_⟩
    refine toN ?_
    refine Tr.cond rfl (fun hb13=>?_) (fun hb13=>?_)
    ·have hb13:=nT' hb13
     replace h:=bF hb13 h
     refine sr ((md rfl (nt ((Tr.ret ?_)))))
     replace h:=si h; subst h
     exact ⟨.inr rfl,(b_ false),rfl,fun _ _ _ _ h=>h,tv,fun k hk=>Qf hk⟩
    ·have hb13:=nF' hb13
     replace h:=bT hb13 h
     refine Tr.skip (toN (Tr.rgn (md rfl (Rn.bin tv rfl rfl rfl (md rfl (Rn.nil ?_))))))
     exact ⟨_,h,(by exact Ql ⟨(sm rfl),(sm rfl),(sm rfl),tv⟩ tv rfl)⟩
   ·replace h:=ifF hb6 h
    refine Tr.exit (toN (sr ((md rfl (nt ((Tr.ret ?_)))))))
    replace h:=si h; subst h
    exact ⟨.inr rfl,(b_ true),rfl,fun _ _ _ _ h=>h,tv,fun k hk=>Qf hk⟩
theorem Qui {P:Program} {c:Nat} {Qbo:Qb→(List Int)→Option (Qb×(List (List Int))×Int)} {Qcs:Qb→Qb→Option Bool} {Qb0:(List (List Int))→(List (List Int))→Option Bool} {Qv:(List Int)→(List Int)→Option Bool} {Qbu:Qb→(List Int)→(List Int)→Bool→Option ((List Int)×Bool×Int)} {Qb7:Option Qb} {Qcr:Qb→(List Int)→Option (Qb×Int)}
    (H_projection_Project:Qf4 P 12 Qbo)
    (H_overseerref03_Same:Qim P 14 Qcs)
    (H_overseerlaw03_SameWords:Qfw P 15 Qb0)
    (H_overseerref03_SameInts:Qdl P 19 Qv)
    (H_projection_Lift:Qia P 31 Qbu)
    (H_overseerlaw07_example:Qgl P 34 Qb7)
    (H_projection_Inverse:Qik P 35 Qcr) (hcf:Qu P c = some Qht):Qfk P c (Qbi Qbo Qcs Qb0 Qv Qbu Qb7 Qcr):=by
 intro  r h
 refine Qcf hcf rfl fun Γ M hP hnt hM=>?_
 subst hP
 refine Tr.init [] rfl ?_
 unfold Qbi at h
 unfold Qht
 refine sr ((md rfl (nt ((Tr.seq (Tr.rgn ?_))))))
 obtain ⟨x2,h1,h⟩:=bnd h
 refine Rn.call (args:=[]) tv rfl (H_overseerlaw07_example _ h1) pc9 (Rn.alloc tv rfl (Rn.storeT (v:=(Qa x2)) (ds:=(Qd x2)) (cs':=(Qd x2)) tv rfl rfl rfl rfl rfl rfl rfl (nt ((sr ((Rn.load (v:=(Qa x2)) tv rfl (Qm rfl) rfl rfl (Rn.bslice (xs:=[(i_ 1)]) (cs:=[(i_ 1)]) tv rfl rfl rfl rfl ?_))))))))
 refine Rn.weak (by show WeakSt Γ _ ⟨look [(0,(b_ false)),(1,.ptr (Γ.n0 + 1) 0),(10,(Qa x2)),(12,(Qa x2)),(13,(l_ [1]))],Qp Γ.n0 (bxs [(1,.cells ((Qd x2)))]) M,Γ.n0 + 74⟩; exact Qct 13 [.int .i64 1] rfl rfl ⟨(.same rfl),(fPtr rfl),(.same rfl),(.same rfl),(fSl rfl rfl),tv⟩ ⟨⟨_,rfl,rfl,(.same rfl)⟩,tv⟩ rfl) ?_
 obtain ⟨⟨r4,r5,r6⟩,h3,h⟩:=bnd h
 refine Rn.call (args:=[(Qa x2),(l_ [1])]) tv rfl (H_projection_Project _ _ _ h3) pc9 (Rn.mov (v:=.tup [(Qa r4),.d (.lst 1 (List.map (eL 1 (eI .i64)) r5)),(i_ r6)]) tv rfl (Rn.ext (v:=(Qa r4)) (vs:=[(Qa r4),.d (.lst 1 (List.map (eL 1 (eI .i64)) r5)),(i_ r6)]) tv rfl rfl rfl (Rn.extTD (vs:=[(Qa r4),.d (.lst 1 (List.map (eL 1 (eI .i64)) r5)),(i_ r6)]) tv rfl rfl rfl (Rn.ext (v:=(i_ r6)) (vs:=[(Qa r4),.d (.lst 1 (List.map (eL 1 (eI .i64)) r5)),(i_ r6)]) tv rfl rfl rfl (Rn.alloc tv rfl (Rn.storeT (v:=(Qa r4)) (ds:=(Qd r4)) (cs':=(Qd r4)) tv rfl rfl rfl rfl rfl rfl rfl (Rn.movTD tv rfl (md rfl (nt ((sr ((Rn.load (v:=(Qa x2)) tv rfl (Qm rfl) rfl rfl (Rn.bslice (xs:=[(i_ 1)]) (cs:=[(i_ 1)]) tv rfl rfl rfl rfl (Rn.bslice (xs:=[(i_ 1)]) (cs:=[(i_ 1)]) tv rfl rfl rfl rfl ?_)))))))))))))))
 refine Rn.weak (by show WeakSt Γ _ ⟨look [(0,(b_ false)),(1,.ptr (Γ.n0 + 1) 0),(2,.ptr (Γ.n0 + 2) 0),(3,.d (.lst 1 (List.map (eL 1 (eI .i64)) r5))),(4,(i_ r6)),(10,(Qa x2)),(11,.tup [(Qa r4),.d (.lst 1 (List.map (eL 1 (eI .i64)) r5)),(i_ r6)]),(12,(Qa x2)),(13,(l_ [1])),(14,.tup [(Qa r4),.own 1 (List.map (eL 1 (eI .i64)) r5),(i_ r6)]),(15,(Qa r4)),(16,.d (.lst 1 (List.map (eL 1 (eI .i64)) r5))),(17,(i_ r6)),(19,(Qa x2)),(20,(l_ [1])),(21,.sl 1 (Γ.n0 + 21) 0 1 1)],Qp Γ.n0 (bxs [(1,.cells ((Qd x2))),(2,.cells ((Qd r4))),(21,.cells ([(i_ 1)]))]) M,Γ.n0 + 74⟩; exact Qct 20 [.int .i64 1] rfl rfl ⟨(.same rfl),(fPtr rfl),(fPtr rfl),(.same rfl),(.same rfl),(.same rfl),(.same rfl),(.same rfl),(.same rfl),(.same rfl),(.same rfl),(.same rfl),(.same rfl),(.same rfl),(fSl rfl rfl),(fSlO rfl),tv⟩ ⟨⟨_,rfl,rfl,(.same rfl)⟩,⟨_,rfl,rfl,(.same rfl)⟩,⟨_,rfl,rfl,(.same rfl)⟩,tv⟩ rfl) ?_
 refine Rn.weak (by show WeakSt Γ _ ⟨look [(0,(b_ false)),(1,.ptr (Γ.n0 + 1) 0),(2,.ptr (Γ.n0 + 2) 0),(3,.d (.lst 1 (List.map (eL 1 (eI .i64)) r5))),(4,(i_ r6)),(10,(Qa x2)),(11,.tup [(Qa r4),.d (.lst 1 (List.map (eL 1 (eI .i64)) r5)),(i_ r6)]),(12,(Qa x2)),(13,(l_ [1])),(14,.tup [(Qa r4),.own 1 (List.map (eL 1 (eI .i64)) r5),(i_ r6)]),(15,(Qa r4)),(16,.d (.lst 1 (List.map (eL 1 (eI .i64)) r5))),(17,(i_ r6)),(19,(Qa x2)),(20,(l_ [1])),(21,(l_ [1]))],Qp Γ.n0 (bxs [(1,.cells ((Qd x2))),(2,.cells ((Qd r4)))]) M,Γ.n0 + 74⟩; exact Qct 21 [.int .i64 1] rfl rfl ⟨(.same rfl),(fPtr rfl),(fPtr rfl),(.same rfl),(.same rfl),(.same rfl),(.same rfl),(.same rfl),(.same rfl),(.same rfl),(.same rfl),(.same rfl),(.same rfl),(.same rfl),(.same rfl),(fSl rfl rfl),tv⟩ ⟨⟨_,rfl,rfl,(.same rfl)⟩,⟨_,rfl,rfl,(.same rfl)⟩,tv⟩ rfl) ?_
 obtain ⟨⟨r8,r9,r10⟩,h7,h⟩:=bnd h
 refine Rn.call (args:=[(Qa x2),(l_ [1]),(l_ [1]),(b_ true)]) tv rfl (H_projection_Lift _ _ _ _ _ h7) pc9 (Rn.mov (v:=.tup [(l_ r8),(b_ r9),(i_ r10)]) tv rfl (Rn.extTD (vs:=[(l_ r8),(b_ r9),(i_ r10)]) tv rfl rfl rfl (Rn.ext (v:=(b_ r9)) (vs:=[(l_ r8),(b_ r9),(i_ r10)]) tv rfl rfl rfl (Rn.ext (v:=(i_ r10)) (vs:=[(l_ r8),(b_ r9),(i_ r10)]) tv rfl rfl rfl (Rn.movTD tv rfl (md rfl (md rfl (nt ((sr ((Rn.bslice (xs:=[(i_ 1)]) (cs:=[(i_ 1)]) tv rfl rfl rfl rfl (Rn.buildT (v:=.agg [.sl 1 (Γ.n0 + 27) 0 1 1,(i_ 1),.nils 1,.nils 3]) tv rfl (Rn.bslice (xs:=[(i_ 0),(i_ 1)]) (cs:=[(i_ 0),(i_ 1)]) tv rfl rfl rfl rfl ?_))))))))))))))
 refine Rn.weak (by show WeakSt Γ _ ⟨look [(0,(b_ false)),(1,.ptr (Γ.n0 + 1) 0),(2,.ptr (Γ.n0 + 2) 0),(3,.d (.lst 1 (List.map (eL 1 (eI .i64)) r5))),(4,(i_ r6)),(5,(l_ r8)),(6,(b_ r9)),(7,(i_ r10)),(10,(Qa x2)),(11,.tup [(Qa r4),.d (.lst 1 (List.map (eL 1 (eI .i64)) r5)),(i_ r6)]),(12,(Qa x2)),(13,(l_ [1])),(14,.tup [(Qa r4),.own 1 (List.map (eL 1 (eI .i64)) r5),(i_ r6)]),(15,(Qa r4)),(16,.d (.lst 1 (List.map (eL 1 (eI .i64)) r5))),(17,(i_ r6)),(18,.tup [(l_ r8),(b_ r9),(i_ r10)]),(19,(Qa x2)),(20,(l_ [1])),(21,(l_ [1])),(22,.tup [(l_ r8),(b_ r9),(i_ r10)]),(23,(l_ r8)),(24,(b_ r9)),(25,(i_ r10)),(27,(l_ [1])),(28,.agg [(l_ [1]),(i_ 1),.nils 1,.nils 3]),(29,.sl 1 (Γ.n0 + 29) 0 2 2)],Qp Γ.n0 (bxs [(1,.cells ((Qd x2))),(2,.cells ((Qd r4))),(29,.cells ([(i_ 0),(i_ 1)]))]) M,Γ.n0 + 74⟩; exact Qct 27 [.int .i64 1] rfl rfl ⟨(.same rfl),(fPtr rfl),(fPtr rfl),(.same rfl),(.same rfl),(.same rfl),(.same rfl),(.same rfl),(.same rfl),(.same rfl),(.same rfl),(.same rfl),(.same rfl),(.same rfl),(.same rfl),(.same rfl),(.same rfl),(.same rfl),(.same rfl),(.same rfl),(.same rfl),(.same rfl),(.same rfl),(.same rfl),(fSl rfl rfl),(WkV.agg (.cons (fSl rfl rfl) (.cons (.same rfl) (.cons (.same rfl) (.cons (.same rfl) .nil))))),(fSlO rfl),tv⟩ ⟨⟨_,rfl,rfl,(.same rfl)⟩,⟨_,rfl,rfl,(.same rfl)⟩,⟨_,rfl,rfl,(.same rfl)⟩,tv⟩ rfl) ?_
 refine Rn.weak (by show WeakSt Γ _ ⟨look [(0,(b_ false)),(1,.ptr (Γ.n0 + 1) 0),(2,.ptr (Γ.n0 + 2) 0),(3,.d (.lst 1 (List.map (eL 1 (eI .i64)) r5))),(4,(i_ r6)),(5,(l_ r8)),(6,(b_ r9)),(7,(i_ r10)),(10,(Qa x2)),(11,.tup [(Qa r4),.d (.lst 1 (List.map (eL 1 (eI .i64)) r5)),(i_ r6)]),(12,(Qa x2)),(13,(l_ [1])),(14,.tup [(Qa r4),.own 1 (List.map (eL 1 (eI .i64)) r5),(i_ r6)]),(15,(Qa r4)),(16,.d (.lst 1 (List.map (eL 1 (eI .i64)) r5))),(17,(i_ r6)),(18,.tup [(l_ r8),(b_ r9),(i_ r10)]),(19,(Qa x2)),(20,(l_ [1])),(21,(l_ [1])),(22,.tup [(l_ r8),(b_ r9),(i_ r10)]),(23,(l_ r8)),(24,(b_ r9)),(25,(i_ r10)),(27,(l_ [1])),(28,.agg [(l_ [1]),(i_ 1),.nils 1,.nils 3]),(29,(l_ [0,1]))],Qp Γ.n0 (bxs [(1,.cells ((Qd x2))),(2,.cells ((Qd r4)))]) M,Γ.n0 + 74⟩; exact Qct 29 [.int .i64 0,.int .i64 1] rfl rfl ⟨(.same rfl),(fPtr rfl),(fPtr rfl),(.same rfl),(.same rfl),(.same rfl),(.same rfl),(.same rfl),(.same rfl),(.same rfl),(.same rfl),(.same rfl),(.same rfl),(.same rfl),(.same rfl),(.same rfl),(.same rfl),(.same rfl),(.same rfl),(.same rfl),(.same rfl),(.same rfl),(.same rfl),(.same rfl),(.same rfl),(.same rfl),(fSl rfl rfl),tv⟩ ⟨⟨_,rfl,rfl,(.same rfl)⟩,⟨_,rfl,rfl,(.same rfl)⟩,tv⟩ rfl) ?_
 obtain ⟨⟨r12,r13⟩,h11,h⟩:=bnd h
 refine Rn.call (args:=[.agg [(l_ [1]),(i_ 1),.nils 1,.nils 3],(l_ [0,1])]) tv rfl (fun M2 nb2=>ACalls.weak (args':=[.agg [(l_ [1]),(i_ 1),(l_ []),.d (.lst 3 (List.map Qc []))],(l_ [0,1])]) (H_projection_Inverse _ _ _ h11 M2 nb2) (.cons (WkV.agg (.cons (sm rfl) (.cons (sm rfl) (.cons (WkV.nilsD _) (.cons (WkV.nilsD _) .nil))))) (.cons (sm rfl) .nil)) rfl) pc9 ?_
 refine Rn.mov (v:=.tup [(Qa r12),(i_ r13)]) tv rfl (Rn.ext (v:=(Qa r12)) (vs:=[(Qa r12),(i_ r13)]) tv rfl rfl rfl (Rn.ext (v:=(i_ r13)) (vs:=[(Qa r12),(i_ r13)]) tv rfl rfl rfl (Rn.alloc tv rfl (Rn.storeT (v:=(Qa r12)) (ds:=(Qd r12)) (cs':=(Qd r12)) tv rfl rfl rfl rfl rfl rfl rfl (md rfl (Rn.nil (toN ?_)))))))
 refine Tr.cutB (fun (x27:Bool)=>⟨look [(0,(b_ x27))],Qp Γ.n0 (bxs [(1,.cells ((Qd x2))),(2,.cells ((Qd r4))),(8,.cells ((Qd r12)))]) M,Γ.n0 + 74⟩) h (fun z h=>?_) (fun z h=>?_)
 ·refine Tr.rgn (md rfl (Rn.bin tv rfl rfl rfl (md rfl ?_)))
  refine Qc0 (r6 == 0) (fun hb14=>?_) (fun hb14=>?_)
  ·replace h:=bT hb14 h
   refine Rn.load (v:=(Qa r4)) (gw rfl hb14) rfl (Qm rfl) rfl rfl (Rn.bslice (xs:=[(i_ 1)]) (cs:=[(i_ 1)]) (gw rfl hb14) rfl rfl rfl rfl (Rn.bslice (xs:=[(i_ 1)]) (cs:=[(i_ 1)]) (gw rfl hb14) rfl rfl rfl rfl (Rn.build (v:=.agg [(i_ 0),(i_ 1),(i_ 1)]) (gw rfl hb14) rfl (Rn.build (v:=.agg [(i_ 1),(i_ 1),(i_ 1)]) (gw rfl hb14) rfl (Rn.bslice (xs:=[.agg [(i_ 0),(i_ 1),(i_ 1)],.agg [(i_ 1),(i_ 1),(i_ 1)]]) (cs:=[(i_ 0),(i_ 1),(i_ 1),(i_ 1),(i_ 1),(i_ 1)]) (gw rfl hb14) rfl rfl rfl rfl (Rn.buildT (v:=.agg [.sl 1 (Γ.n0 + 37) 0 1 1,(i_ 2),.sl 1 (Γ.n0 + 38) 0 1 1,.sl 3 (Γ.n0 + 41) 0 2 2]) (gw rfl hb14) rfl ?_))))))
   refine Rn.weak (by show WeakSt Γ _ ⟨look [(0,(b_ false)),(1,.ptr (Γ.n0 + 1) 0),(2,.ptr (Γ.n0 + 2) 0),(3,.d (.lst 1 (List.map (eL 1 (eI .i64)) r5))),(4,(i_ r6)),(5,(l_ r8)),(6,(b_ r9)),(7,(i_ r10)),(8,.ptr (Γ.n0 + 8) 0),(9,(i_ r13)),(10,(Qa x2)),(11,.tup [(Qa r4),.d (.lst 1 (List.map (eL 1 (eI .i64)) r5)),(i_ r6)]),(12,(Qa x2)),(13,(l_ [1])),(14,.tup [(Qa r4),.own 1 (List.map (eL 1 (eI .i64)) r5),(i_ r6)]),(15,(Qa r4)),(16,.d (.lst 1 (List.map (eL 1 (eI .i64)) r5))),(17,(i_ r6)),(18,.tup [(l_ r8),(b_ r9),(i_ r10)]),(19,(Qa x2)),(20,(l_ [1])),(21,(l_ [1])),(22,.tup [(l_ r8),(b_ r9),(i_ r10)]),(23,(l_ r8)),(24,(b_ r9)),(25,(i_ r10)),(26,.tup [(Qa r12),(i_ r13)]),(27,(l_ [1])),(28,.agg [(l_ [1]),(i_ 1),.nils 1,.nils 3]),(29,(l_ [0,1])),(30,.tup [(Qa r12),(i_ r13)]),(31,(Qa r12)),(32,(i_ r13)),(33,(i_ r6)),(34,(b_ (r6 == 0))),(35,(b_ (r6 == 0))),(36,(Qa r4)),(37,(l_ [1])),(38,.sl 1 (Γ.n0 + 38) 0 1 1),(39,.agg [(i_ 0),(i_ 1),(i_ 1)]),(40,.agg [(i_ 1),(i_ 1),(i_ 1)]),(41,.sl 3 (Γ.n0 + 41) 0 2 2),(42,.agg [(l_ [1]),(i_ 2),.sl 1 (Γ.n0 + 38) 0 1 1,.sl 3 (Γ.n0 + 41) 0 2 2])],Qp Γ.n0 (bxs [(1,.cells ((Qd x2))),(2,.cells ((Qd r4))),(8,.cells ((Qd r12))),(38,.cells ([(i_ 1)])),(41,.cells ([(i_ 0),(i_ 1),(i_ 1),(i_ 1),(i_ 1),(i_ 1)]))]) M,Γ.n0 + 74⟩; exact Qct 37 [.int .i64 1] rfl rfl ⟨(.same rfl),(fPtr rfl),(fPtr rfl),(.same rfl),(.same rfl),(.same rfl),(.same rfl),(.same rfl),(fPtr rfl),(.same rfl),(.same rfl),(.same rfl),(.same rfl),(.same rfl),(.same rfl),(.same rfl),(.same rfl),(.same rfl),(.same rfl),(.same rfl),(.same rfl),(.same rfl),(.same rfl),(.same rfl),(.same rfl),(.same rfl),(.same rfl),(.same rfl),(.same rfl),(.same rfl),(.same rfl),(.same rfl),(.same rfl),(.same rfl),(.same rfl),(.same rfl),(.same rfl),(fSl rfl rfl),(fSlO rfl),(.same rfl),(.same rfl),(fSlO rfl),(WkV.agg (.cons (fSl rfl rfl) (.cons (.same rfl) (.cons (fSlO rfl) (.cons (fSlO rfl) .nil))))),tv⟩ ⟨⟨_,rfl,rfl,(.same rfl)⟩,⟨_,rfl,rfl,(.same rfl)⟩,⟨_,rfl,rfl,(.same rfl)⟩,⟨_,rfl,rfl,(.same rfl)⟩,⟨_,rfl,rfl,(.same rfl)⟩,tv⟩ rfl) ?_
   refine Rn.weak (by show WeakSt Γ _ ⟨look [(0,(b_ false)),(1,.ptr (Γ.n0 + 1) 0),(2,.ptr (Γ.n0 + 2) 0),(3,.d (.lst 1 (List.map (eL 1 (eI .i64)) r5))),(4,(i_ r6)),(5,(l_ r8)),(6,(b_ r9)),(7,(i_ r10)),(8,.ptr (Γ.n0 + 8) 0),(9,(i_ r13)),(10,(Qa x2)),(11,.tup [(Qa r4),.d (.lst 1 (List.map (eL 1 (eI .i64)) r5)),(i_ r6)]),(12,(Qa x2)),(13,(l_ [1])),(14,.tup [(Qa r4),.own 1 (List.map (eL 1 (eI .i64)) r5),(i_ r6)]),(15,(Qa r4)),(16,.d (.lst 1 (List.map (eL 1 (eI .i64)) r5))),(17,(i_ r6)),(18,.tup [(l_ r8),(b_ r9),(i_ r10)]),(19,(Qa x2)),(20,(l_ [1])),(21,(l_ [1])),(22,.tup [(l_ r8),(b_ r9),(i_ r10)]),(23,(l_ r8)),(24,(b_ r9)),(25,(i_ r10)),(26,.tup [(Qa r12),(i_ r13)]),(27,(l_ [1])),(28,.agg [(l_ [1]),(i_ 1),.nils 1,.nils 3]),(29,(l_ [0,1])),(30,.tup [(Qa r12),(i_ r13)]),(31,(Qa r12)),(32,(i_ r13)),(33,(i_ r6)),(34,(b_ (r6 == 0))),(35,(b_ (r6 == 0))),(36,(Qa r4)),(37,(l_ [1])),(38,(l_ [1])),(39,.agg [(i_ 0),(i_ 1),(i_ 1)]),(40,.agg [(i_ 1),(i_ 1),(i_ 1)]),(41,.sl 3 (Γ.n0 + 41) 0 2 2),(42,.agg [(l_ [1]),(i_ 2),(l_ [1]),.sl 3 (Γ.n0 + 41) 0 2 2])],Qp Γ.n0 (bxs [(1,.cells ((Qd x2))),(2,.cells ((Qd r4))),(8,.cells ((Qd r12))),(41,.cells ([(i_ 0),(i_ 1),(i_ 1),(i_ 1),(i_ 1),(i_ 1)]))]) M,Γ.n0 + 74⟩; exact Qct 38 [.int .i64 1] rfl rfl ⟨(.same rfl),(fPtr rfl),(fPtr rfl),(.same rfl),(.same rfl),(.same rfl),(.same rfl),(.same rfl),(fPtr rfl),(.same rfl),(.same rfl),(.same rfl),(.same rfl),(.same rfl),(.same rfl),(.same rfl),(.same rfl),(.same rfl),(.same rfl),(.same rfl),(.same rfl),(.same rfl),(.same rfl),(.same rfl),(.same rfl),(.same rfl),(.same rfl),(.same rfl),(.same rfl),(.same rfl),(.same rfl),(.same rfl),(.same rfl),(.same rfl),(.same rfl),(.same rfl),(.same rfl),(.same rfl),(fSl rfl rfl),(.same rfl),(.same rfl),(fSlO rfl),(WkV.agg (.cons (.same rfl) (.cons (.same rfl) (.cons (fSl rfl rfl) (.cons (fSlO rfl) .nil))))),tv⟩ ⟨⟨_,rfl,rfl,(.same rfl)⟩,⟨_,rfl,rfl,(.same rfl)⟩,⟨_,rfl,rfl,(.same rfl)⟩,⟨_,rfl,rfl,(.same rfl)⟩,tv⟩ rfl) ?_
   refine Rn.weak (by show WeakSt Γ _ ⟨look [(0,(b_ false)),(1,.ptr (Γ.n0 + 1) 0),(2,.ptr (Γ.n0 + 2) 0),(3,.d (.lst 1 (List.map (eL 1 (eI .i64)) r5))),(4,(i_ r6)),(5,(l_ r8)),(6,(b_ r9)),(7,(i_ r10)),(8,.ptr (Γ.n0 + 8) 0),(9,(i_ r13)),(10,(Qa x2)),(11,.tup [(Qa r4),.d (.lst 1 (List.map (eL 1 (eI .i64)) r5)),(i_ r6)]),(12,(Qa x2)),(13,(l_ [1])),(14,.tup [(Qa r4),.own 1 (List.map (eL 1 (eI .i64)) r5),(i_ r6)]),(15,(Qa r4)),(16,.d (.lst 1 (List.map (eL 1 (eI .i64)) r5))),(17,(i_ r6)),(18,.tup [(l_ r8),(b_ r9),(i_ r10)]),(19,(Qa x2)),(20,(l_ [1])),(21,(l_ [1])),(22,.tup [(l_ r8),(b_ r9),(i_ r10)]),(23,(l_ r8)),(24,(b_ r9)),(25,(i_ r10)),(26,.tup [(Qa r12),(i_ r13)]),(27,(l_ [1])),(28,.agg [(l_ [1]),(i_ 1),.nils 1,.nils 3]),(29,(l_ [0,1])),(30,.tup [(Qa r12),(i_ r13)]),(31,(Qa r12)),(32,(i_ r13)),(33,(i_ r6)),(34,(b_ (r6 == 0))),(35,(b_ (r6 == 0))),(36,(Qa r4)),(37,(l_ [1])),(38,(l_ [1])),(39,.agg [(i_ 0),(i_ 1),(i_ 1)]),(40,.agg [(i_ 1),(i_ 1),(i_ 1)]),(41,.d (.lst 3 (List.map Qc [(Qe.mk 0 1 1),(Qe.mk 1 1 1)]))),(42,.agg [(l_ [1]),(i_ 2),(l_ [1]),.d (.lst 3 (List.map Qc [(Qe.mk 0 1 1),(Qe.mk 1 1 1)]))])],Qp Γ.n0 (bxs [(1,.cells ((Qd x2))),(2,.cells ((Qd r4))),(8,.cells ((Qd r12)))]) M,Γ.n0 + 74⟩; exact Qct 41 [.int .i64 0,.int .i64 1,.int .i64 1,.int .i64 1,.int .i64 1,.int .i64 1] rfl rfl ⟨(.same rfl),(fPtr rfl),(fPtr rfl),(.same rfl),(.same rfl),(.same rfl),(.same rfl),(.same rfl),(fPtr rfl),(.same rfl),(.same rfl),(.same rfl),(.same rfl),(.same rfl),(.same rfl),(.same rfl),(.same rfl),(.same rfl),(.same rfl),(.same rfl),(.same rfl),(.same rfl),(.same rfl),(.same rfl),(.same rfl),(.same rfl),(.same rfl),(.same rfl),(.same rfl),(.same rfl),(.same rfl),(.same rfl),(.same rfl),(.same rfl),(.same rfl),(.same rfl),(.same rfl),(.same rfl),(.same rfl),(.same rfl),(.same rfl),(fSl rfl rfl),(WkV.agg (.cons (.same rfl) (.cons (.same rfl) (.cons (.same rfl) (.cons (fSl rfl rfl) .nil))))),tv⟩ ⟨⟨_,rfl,rfl,(.same rfl)⟩,⟨_,rfl,rfl,(.same rfl)⟩,⟨_,rfl,rfl,(.same rfl)⟩,tv⟩ rfl) ?_
   obtain ⟨x16,h15,h⟩:=bnd h
   refine Rn.call (args:=[(Qa r4),.agg [(l_ [1]),(i_ 2),(l_ [1]),.d (.lst 3 (List.map Qc [(Qe.mk 0 1 1),(Qe.mk 1 1 1)]))]]) (gw rfl hb14) rfl (H_overseerref03_Same _ _ _ h15) pc9 (Rn.pickT (v:=(b_ x16)) tv rfl hb14 rfl (md rfl ?_))
   refine Qc0 x16 (fun hb17=>?_) (fun hb17=>?_)
   ·replace h:=bT hb17 h
    refine Rn.movD (gw rfl hb17) rfl (Rn.bslice (xs:=[(i_ 0),(i_ 1)]) (cs:=[(i_ 0),(i_ 1)]) (gw rfl hb17) rfl rfl rfl rfl (Rn.bslice (xs:=[(i_ 0),(i_ 1),(i_ 2)]) (cs:=[(i_ 0),(i_ 1),(i_ 2)]) (gw rfl hb17) rfl rfl rfl rfl (Rn.bslice (xs:=[.sl 1 (Γ.n0 + 47) 0 2 2,.sl 1 (Γ.n0 + 48) 0 3 3]) (cs:=[.sl 1 (Γ.n0 + 47) 0 2 2,.sl 1 (Γ.n0 + 48) 0 3 3]) (gw rfl hb17) rfl rfl rfl rfl ?_)))
    refine Rn.weak (by show WeakSt Γ _ ⟨look [(0,(b_ false)),(1,.ptr (Γ.n0 + 1) 0),(2,.ptr (Γ.n0 + 2) 0),(3,.d (.lst 1 (List.map (eL 1 (eI .i64)) r5))),(4,(i_ r6)),(5,(l_ r8)),(6,(b_ r9)),(7,(i_ r10)),(8,.ptr (Γ.n0 + 8) 0),(9,(i_ r13)),(10,(Qa x2)),(11,.tup [(Qa r4),.d (.lst 1 (List.map (eL 1 (eI .i64)) r5)),(i_ r6)]),(12,(Qa x2)),(13,(l_ [1])),(14,.tup [(Qa r4),.own 1 (List.map (eL 1 (eI .i64)) r5),(i_ r6)]),(15,(Qa r4)),(16,.d (.lst 1 (List.map (eL 1 (eI .i64)) r5))),(17,(i_ r6)),(18,.tup [(l_ r8),(b_ r9),(i_ r10)]),(19,(Qa x2)),(20,(l_ [1])),(21,(l_ [1])),(22,.tup [(l_ r8),(b_ r9),(i_ r10)]),(23,(l_ r8)),(24,(b_ r9)),(25,(i_ r10)),(26,.tup [(Qa r12),(i_ r13)]),(27,(l_ [1])),(28,.agg [(l_ [1]),(i_ 1),.nils 1,.nils 3]),(29,(l_ [0,1])),(30,.tup [(Qa r12),(i_ r13)]),(31,(Qa r12)),(32,(i_ r13)),(33,(i_ r6)),(34,(b_ (r6 == 0))),(35,(b_ (r6 == 0))),(36,(Qa r4)),(37,(l_ [1])),(38,(l_ [1])),(39,.agg [(i_ 0),(i_ 1),(i_ 1)]),(40,.agg [(i_ 1),(i_ 1),(i_ 1)]),(41,.d (.lst 3 (List.map Qc [(Qe.mk 0 1 1),(Qe.mk 1 1 1)]))),(42,.agg [(l_ [1]),(i_ 2),(l_ [1]),.d (.lst 3 (List.map Qc [(Qe.mk 0 1 1),(Qe.mk 1 1 1)]))]),(43,(b_ x16)),(44,(b_ x16)),(45,(b_ x16)),(46,.d (.lst 1 (List.map (eL 1 (eI .i64)) r5))),(47,(l_ [0,1])),(48,.sl 1 (Γ.n0 + 48) 0 3 3),(49,.sl 1 (Γ.n0 + 49) 0 2 2)],Qp Γ.n0 (bxs [(1,.cells ((Qd x2))),(2,.cells ((Qd r4))),(8,.cells ((Qd r12))),(48,.cells ([(i_ 0),(i_ 1),(i_ 2)])),(49,.cells ([(l_ [0,1]),.sl 1 (Γ.n0 + 48) 0 3 3]))]) M,Γ.n0 + 74⟩; exact Qct 47 [.int .i64 0,.int .i64 1] rfl rfl ⟨(.same rfl),(fPtr rfl),(fPtr rfl),(.same rfl),(.same rfl),(.same rfl),(.same rfl),(.same rfl),(fPtr rfl),(.same rfl),(.same rfl),(.same rfl),(.same rfl),(.same rfl),(.same rfl),(.same rfl),(.same rfl),(.same rfl),(.same rfl),(.same rfl),(.same rfl),(.same rfl),(.same rfl),(.same rfl),(.same rfl),(.same rfl),(.same rfl),(.same rfl),(.same rfl),(.same rfl),(.same rfl),(.same rfl),(.same rfl),(.same rfl),(.same rfl),(.same rfl),(.same rfl),(.same rfl),(.same rfl),(.same rfl),(.same rfl),(.same rfl),(.same rfl),(.same rfl),(.same rfl),(.same rfl),(.same rfl),(fSl rfl rfl),(fSlO rfl),(fSlO rfl),tv⟩ ⟨⟨_,rfl,rfl,(.same rfl)⟩,⟨_,rfl,rfl,(.same rfl)⟩,⟨_,rfl,rfl,(.same rfl)⟩,⟨_,rfl,rfl,(.same rfl)⟩,⟨_,rfl,rfl,(.cons (fSl rfl rfl) (.cons (fSlO rfl) .nil))⟩,tv⟩ rfl) ?_
    refine Rn.weak (by show WeakSt Γ _ ⟨look [(0,(b_ false)),(1,.ptr (Γ.n0 + 1) 0),(2,.ptr (Γ.n0 + 2) 0),(3,.d (.lst 1 (List.map (eL 1 (eI .i64)) r5))),(4,(i_ r6)),(5,(l_ r8)),(6,(b_ r9)),(7,(i_ r10)),(8,.ptr (Γ.n0 + 8) 0),(9,(i_ r13)),(10,(Qa x2)),(11,.tup [(Qa r4),.d (.lst 1 (List.map (eL 1 (eI .i64)) r5)),(i_ r6)]),(12,(Qa x2)),(13,(l_ [1])),(14,.tup [(Qa r4),.own 1 (List.map (eL 1 (eI .i64)) r5),(i_ r6)]),(15,(Qa r4)),(16,.d (.lst 1 (List.map (eL 1 (eI .i64)) r5))),(17,(i_ r6)),(18,.tup [(l_ r8),(b_ r9),(i_ r10)]),(19,(Qa x2)),(20,(l_ [1])),(21,(l_ [1])),(22,.tup [(l_ r8),(b_ r9),(i_ r10)]),(23,(l_ r8)),(24,(b_ r9)),(25,(i_ r10)),(26,.tup [(Qa r12),(i_ r13)]),(27,(l_ [1])),(28,.agg [(l_ [1]),(i_ 1),.nils 1,.nils 3]),(29,(l_ [0,1])),(30,.tup [(Qa r12),(i_ r13)]),(31,(Qa r12)),(32,(i_ r13)),(33,(i_ r6)),(34,(b_ (r6 == 0))),(35,(b_ (r6 == 0))),(36,(Qa r4)),(37,(l_ [1])),(38,(l_ [1])),(39,.agg [(i_ 0),(i_ 1),(i_ 1)]),(40,.agg [(i_ 1),(i_ 1),(i_ 1)]),(41,.d (.lst 3 (List.map Qc [(Qe.mk 0 1 1),(Qe.mk 1 1 1)]))),(42,.agg [(l_ [1]),(i_ 2),(l_ [1]),.d (.lst 3 (List.map Qc [(Qe.mk 0 1 1),(Qe.mk 1 1 1)]))]),(43,(b_ x16)),(44,(b_ x16)),(45,(b_ x16)),(46,.d (.lst 1 (List.map (eL 1 (eI .i64)) r5))),(47,(l_ [0,1])),(48,(l_ [0,1,2])),(49,.sl 1 (Γ.n0 + 49) 0 2 2)],Qp Γ.n0 (bxs [(1,.cells ((Qd x2))),(2,.cells ((Qd r4))),(8,.cells ((Qd r12))),(49,.cells ([(l_ [0,1]),(l_ [0,1,2])]))]) M,Γ.n0 + 74⟩; exact Qct 48 [.int .i64 0,.int .i64 1,.int .i64 2] rfl rfl ⟨(.same rfl),(fPtr rfl),(fPtr rfl),(.same rfl),(.same rfl),(.same rfl),(.same rfl),(.same rfl),(fPtr rfl),(.same rfl),(.same rfl),(.same rfl),(.same rfl),(.same rfl),(.same rfl),(.same rfl),(.same rfl),(.same rfl),(.same rfl),(.same rfl),(.same rfl),(.same rfl),(.same rfl),(.same rfl),(.same rfl),(.same rfl),(.same rfl),(.same rfl),(.same rfl),(.same rfl),(.same rfl),(.same rfl),(.same rfl),(.same rfl),(.same rfl),(.same rfl),(.same rfl),(.same rfl),(.same rfl),(.same rfl),(.same rfl),(.same rfl),(.same rfl),(.same rfl),(.same rfl),(.same rfl),(.same rfl),(.same rfl),(fSl rfl rfl),(fSlO rfl),tv⟩ ⟨⟨_,rfl,rfl,(.same rfl)⟩,⟨_,rfl,rfl,(.same rfl)⟩,⟨_,rfl,rfl,(.same rfl)⟩,⟨_,rfl,rfl,(.cons (.same rfl) (.cons (fSl rfl rfl) .nil))⟩,tv⟩ rfl) ?_
    refine Rn.weak (by show WeakSt Γ _ ⟨look [(0,(b_ false)),(1,.ptr (Γ.n0 + 1) 0),(2,.ptr (Γ.n0 + 2) 0),(3,.d (.lst 1 (List.map (eL 1 (eI .i64)) r5))),(4,(i_ r6)),(5,(l_ r8)),(6,(b_ r9)),(7,(i_ r10)),(8,.ptr (Γ.n0 + 8) 0),(9,(i_ r13)),(10,(Qa x2)),(11,.tup [(Qa r4),.d (.lst 1 (List.map (eL 1 (eI .i64)) r5)),(i_ r6)]),(12,(Qa x2)),(13,(l_ [1])),(14,.tup [(Qa r4),.own 1 (List.map (eL 1 (eI .i64)) r5),(i_ r6)]),(15,(Qa r4)),(16,.d (.lst 1 (List.map (eL 1 (eI .i64)) r5))),(17,(i_ r6)),(18,.tup [(l_ r8),(b_ r9),(i_ r10)]),(19,(Qa x2)),(20,(l_ [1])),(21,(l_ [1])),(22,.tup [(l_ r8),(b_ r9),(i_ r10)]),(23,(l_ r8)),(24,(b_ r9)),(25,(i_ r10)),(26,.tup [(Qa r12),(i_ r13)]),(27,(l_ [1])),(28,.agg [(l_ [1]),(i_ 1),.nils 1,.nils 3]),(29,(l_ [0,1])),(30,.tup [(Qa r12),(i_ r13)]),(31,(Qa r12)),(32,(i_ r13)),(33,(i_ r6)),(34,(b_ (r6 == 0))),(35,(b_ (r6 == 0))),(36,(Qa r4)),(37,(l_ [1])),(38,(l_ [1])),(39,.agg [(i_ 0),(i_ 1),(i_ 1)]),(40,.agg [(i_ 1),(i_ 1),(i_ 1)]),(41,.d (.lst 3 (List.map Qc [(Qe.mk 0 1 1),(Qe.mk 1 1 1)]))),(42,.agg [(l_ [1]),(i_ 2),(l_ [1]),.d (.lst 3 (List.map Qc [(Qe.mk 0 1 1),(Qe.mk 1 1 1)]))]),(43,(b_ x16)),(44,(b_ x16)),(45,(b_ x16)),(46,.d (.lst 1 (List.map (eL 1 (eI .i64)) r5))),(47,(l_ [0,1])),(48,(l_ [0,1,2])),(49,.d (.lst 1 (List.map (eL 1 (eI .i64)) ([[0,1],[0,1,2]]))))],Qp Γ.n0 (bxs [(1,.cells ((Qd x2))),(2,.cells ((Qd r4))),(8,.cells ((Qd r12)))]) M,Γ.n0 + 74⟩; exact Qct 49 [.lst 1 (List.map (eI .i64) [0,1]),.lst 1 (List.map (eI .i64) [0,1,2])] rfl rfl ⟨(.same rfl),(fPtr rfl),(fPtr rfl),(.same rfl),(.same rfl),(.same rfl),(.same rfl),(.same rfl),(fPtr rfl),(.same rfl),(.same rfl),(.same rfl),(.same rfl),(.same rfl),(.same rfl),(.same rfl),(.same rfl),(.same rfl),(.same rfl),(.same rfl),(.same rfl),(.same rfl),(.same rfl),(.same rfl),(.same rfl),(.same rfl),(.same rfl),(.same rfl),(.same rfl),(.same rfl),(.same rfl),(.same rfl),(.same rfl),(.same rfl),(.same rfl),(.same rfl),(.same rfl),(.same rfl),(.same rfl),(.same rfl),(.same rfl),(.same rfl),(.same rfl),(.same rfl),(.same rfl),(.same rfl),(.same rfl),(.same rfl),(.same rfl),(fSl rfl rfl),tv⟩ ⟨⟨_,rfl,rfl,(.same rfl)⟩,⟨_,rfl,rfl,(.same rfl)⟩,⟨_,rfl,rfl,(.same rfl)⟩,tv⟩ rfl) ?_
    obtain ⟨x19,h18,h⟩:=bnd h
    refine Rn.call (args:=[.d (.lst 1 (List.map (eL 1 (eI .i64)) r5)),.d (.lst 1 (List.map (eL 1 (eI .i64)) ([[0,1],[0,1,2]])))]) (gw rfl hb17) rfl (H_overseerlaw03_SameWords _ _ _ h18) pc9 (Rn.pickT (v:=(b_ x19)) tv rfl hb17 rfl (md rfl ?_))
    refine Qc0 x19 (fun hb20=>?_) (fun hb20=>?_)
    ·replace h:=bT hb20 h
     refine Rn.movD (gw rfl hb20) rfl (Rn.bin (gw rfl hb20) rfl rfl rfl (Rn.pickT (v:=(b_ (r10 == 0))) tv rfl hb20 rfl (md rfl ?_)))
     refine Qc0 (r10 == 0) (fun hb21=>?_) (fun hb21=>?_)
     ·replace h:=bT hb21 h
      refine Rn.movD (gw rfl hb21) rfl (Rn.pickT (v:=(b_ r9)) tv rfl hb21 rfl (md rfl ?_))
      refine Qc0 r9 (fun hb22=>?_) (fun hb22=>?_)
      ·replace h:=bT hb22 h
       refine Rn.movD (gw rfl hb22) rfl (Rn.bslice (xs:=[(i_ 0),(i_ 1)]) (cs:=[(i_ 0),(i_ 1)]) (gw rfl hb22) rfl rfl rfl rfl ?_)
       refine Rn.weak (by show WeakSt Γ _ ⟨look [(0,(b_ false)),(1,.ptr (Γ.n0 + 1) 0),(2,.ptr (Γ.n0 + 2) 0),(3,.d (.lst 1 (List.map (eL 1 (eI .i64)) r5))),(4,(i_ r6)),(5,(l_ r8)),(6,(b_ r9)),(7,(i_ r10)),(8,.ptr (Γ.n0 + 8) 0),(9,(i_ r13)),(10,(Qa x2)),(11,.tup [(Qa r4),.d (.lst 1 (List.map (eL 1 (eI .i64)) r5)),(i_ r6)]),(12,(Qa x2)),(13,(l_ [1])),(14,.tup [(Qa r4),.own 1 (List.map (eL 1 (eI .i64)) r5),(i_ r6)]),(15,(Qa r4)),(16,.d (.lst 1 (List.map (eL 1 (eI .i64)) r5))),(17,(i_ r6)),(18,.tup [(l_ r8),(b_ r9),(i_ r10)]),(19,(Qa x2)),(20,(l_ [1])),(21,(l_ [1])),(22,.tup [(l_ r8),(b_ r9),(i_ r10)]),(23,(l_ r8)),(24,(b_ r9)),(25,(i_ r10)),(26,.tup [(Qa r12),(i_ r13)]),(27,(l_ [1])),(28,.agg [(l_ [1]),(i_ 1),.nils 1,.nils 3]),(29,(l_ [0,1])),(30,.tup [(Qa r12),(i_ r13)]),(31,(Qa r12)),(32,(i_ r13)),(33,(i_ r6)),(34,(b_ (r6 == 0))),(35,(b_ (r6 == 0))),(36,(Qa r4)),(37,(l_ [1])),(38,(l_ [1])),(39,.agg [(i_ 0),(i_ 1),(i_ 1)]),(40,.agg [(i_ 1),(i_ 1),(i_ 1)]),(41,.d (.lst 3 (List.map Qc [(Qe.mk 0 1 1),(Qe.mk 1 1 1)]))),(42,.agg [(l_ [1]),(i_ 2),(l_ [1]),.d (.lst 3 (List.map Qc [(Qe.mk 0 1 1),(Qe.mk 1 1 1)]))]),(43,(b_ x16)),(44,(b_ x16)),(45,(b_ x16)),(46,.d (.lst 1 (List.map (eL 1 (eI .i64)) r5))),(47,(l_ [0,1])),(48,(l_ [0,1,2])),(49,.d (.lst 1 (List.map (eL 1 (eI .i64)) ([[0,1],[0,1,2]])))),(50,(b_ x19)),(51,(b_ x19)),(52,(b_ x19)),(53,(i_ r10)),(54,(b_ (r10 == 0))),(55,(b_ (r10 == 0))),(56,(b_ (r10 == 0))),(57,(b_ r9)),(58,(b_ r9)),(59,(b_ r9)),(60,(l_ r8)),(61,(l_ [0,1]))],Qp Γ.n0 (bxs [(1,.cells ((Qd x2))),(2,.cells ((Qd r4))),(8,.cells ((Qd r12)))]) M,Γ.n0 + 74⟩; exact Qct 61 [.int .i64 0,.int .i64 1] rfl rfl ⟨(.same rfl),(fPtr rfl),(fPtr rfl),(.same rfl),(.same rfl),(.same rfl),(.same rfl),(.same rfl),(fPtr rfl),(.same rfl),(.same rfl),(.same rfl),(.same rfl),(.same rfl),(.same rfl),(.same rfl),(.same rfl),(.same rfl),(.same rfl),(.same rfl),(.same rfl),(.same rfl),(.same rfl),(.same rfl),(.same rfl),(.same rfl),(.same rfl),(.same rfl),(.same rfl),(.same rfl),(.same rfl),(.same rfl),(.same rfl),(.same rfl),(.same rfl),(.same rfl),(.same rfl),(.same rfl),(.same rfl),(.same rfl),(.same rfl),(.same rfl),(.same rfl),(.same rfl),(.same rfl),(.same rfl),(.same rfl),(.same rfl),(.same rfl),(.same rfl),(.same rfl),(.same rfl),(.same rfl),(.same rfl),(.same rfl),(.same rfl),(.same rfl),(.same rfl),(.same rfl),(.same rfl),(.same rfl),(fSl rfl rfl),tv⟩ ⟨⟨_,rfl,rfl,(.same rfl)⟩,⟨_,rfl,rfl,(.same rfl)⟩,⟨_,rfl,rfl,(.same rfl)⟩,tv⟩ rfl) ?_
       obtain ⟨x24,h23,h⟩:=bnd h
       refine Rn.call (args:=[(l_ r8),(l_ [0,1])]) (gw rfl hb22) rfl (H_overseerref03_SameInts _ _ _ h23) pc9 (Rn.pickT (v:=(b_ x24)) tv rfl hb22 rfl (md rfl ?_))
       refine Qc0 x24 (fun hb25=>?_) (fun hb25=>?_)
       ·replace h:=bT hb25 h
        refine Rn.movD (gw rfl hb25) rfl (Rn.bin (gw rfl hb25) rfl rfl rfl (Rn.pickT (v:=(b_ (r13 == 0))) tv rfl hb25 rfl (md rfl ?_)))
        refine Qc0 (r13 == 0) (fun hb26=>?_) (fun hb26=>?_)
        ·replace h:=bT hb26 h
         refine Rn.fldP (o':=3) (gw rfl hb26) rfl rfl (Rn.load (v:=.d (.lst 3 (List.map Qc r12.Edges))) (gw rfl hb26) rfl (Qm rfl) rfl rfl (Rn.lenD (gw rfl hb26) rfl (Rn.bin (gw rfl hb26) rfl rfl rfl (Rn.pickT (v:=(b_ ((r12.Edges.length:Int) == 1))) tv rfl hb26 rfl (md rfl (Rn.nil ?_))))))
         replace h:=si h; subst h
         exact Qj [] ⟨(sm rfl),tv⟩ ⟨⟨_,rfl,rfl,(.same rfl)⟩,⟨_,rfl,rfl,(.same rfl)⟩,⟨_,rfl,rfl,(.same rfl)⟩,tv⟩ rfl
        ·replace h:=bF hb26 h
         refine Rn.sk (nw rfl hb26) (Rn.sk (nw rfl hb26) (Rn.sk (nw rfl hb26) (Rn.sk (nw rfl hb26) (Rn.pickF (v:=(b_ false)) tv rfl hb26 rfl (md rfl (Rn.nil ?_))))))
         replace h:=si h; subst h
         exact Qj [] ⟨(sm rfl),tv⟩ ⟨⟨_,rfl,rfl,(.same rfl)⟩,⟨_,rfl,rfl,(.same rfl)⟩,⟨_,rfl,rfl,(.same rfl)⟩,tv⟩ rfl
       ·replace h:=bF hb25 h
        refine Rn.sk (nw rfl hb25) (Rn.sk (nw rfl hb25) (Rn.pickF (v:=(b_ false)) tv rfl hb25 rfl (md rfl (Rn.sk (nw (b:=false) rfl rfl) (Rn.sk (nw (b:=false) rfl rfl) (Rn.sk (nw (b:=false) rfl rfl) (Rn.sk (nw (b:=false) rfl rfl) (Rn.pickF (v:=(b_ false)) tv rfl rfl rfl (md rfl (Rn.nil ?_))))))))))
        replace h:=si h; subst h
        exact Qj [] ⟨(sm rfl),tv⟩ ⟨⟨_,rfl,rfl,(.same rfl)⟩,⟨_,rfl,rfl,(.same rfl)⟩,⟨_,rfl,rfl,(.same rfl)⟩,tv⟩ rfl
      ·replace h:=bF hb22 h
       refine Rn.sk (nw rfl hb22) (Rn.sk (nw rfl hb22) (Rn.sk (nw rfl hb22) (Rn.pickF (v:=(b_ false)) tv rfl hb22 rfl (md rfl (Rn.sk (nw (b:=false) rfl rfl) (Rn.sk (nw (b:=false) rfl rfl) (Rn.pickF (v:=(b_ false)) tv rfl rfl rfl (md rfl (Rn.sk (nw (b:=false) rfl rfl) (Rn.sk (nw (b:=false) rfl rfl) (Rn.sk (nw (b:=false) rfl rfl) (Rn.sk (nw (b:=false) rfl rfl) (Rn.pickF (v:=(b_ false)) tv rfl rfl rfl (md rfl (Rn.nil ?_)))))))))))))))
       replace h:=si h; subst h
       exact Qj [] ⟨(sm rfl),tv⟩ ⟨⟨_,rfl,rfl,(.same rfl)⟩,⟨_,rfl,rfl,(.same rfl)⟩,⟨_,rfl,rfl,(.same rfl)⟩,tv⟩ rfl
     ·replace h:=bF hb21 h
      refine Rn.sk (nw rfl hb21) (Rn.pickF (v:=(b_ false)) tv rfl hb21 rfl (md rfl (Rn.sk (nw (b:=false) rfl rfl) (Rn.sk (nw (b:=false) rfl rfl) (Rn.sk (nw (b:=false) rfl rfl) (Rn.pickF (v:=(b_ false)) tv rfl rfl rfl (md rfl (Rn.sk (nw (b:=false) rfl rfl) (Rn.sk (nw (b:=false) rfl rfl) (Rn.pickF (v:=(b_ false)) tv rfl rfl rfl (md rfl (Rn.sk (nw (b:=false) rfl rfl) (Rn.sk (nw (b:=false) rfl rfl) (Rn.sk (nw (b:=false) rfl rfl) (Rn.sk (nw (b:=false) rfl rfl) (Rn.pickF (v:=(b_ false)) tv rfl rfl rfl (md rfl (Rn.nil ?_))))))))))))))))))
      replace h:=si h; subst h
      exact Qj [] ⟨(sm rfl),tv⟩ ⟨⟨_,rfl,rfl,(.same rfl)⟩,⟨_,rfl,rfl,(.same rfl)⟩,⟨_,rfl,rfl,(.same rfl)⟩,tv⟩ rfl
    ·replace h:=bF hb20 h
     refine Rn.sk (nw rfl hb20) (Rn.sk (nw rfl hb20) (Rn.pickF (v:=(b_ false)) tv rfl hb20 rfl (md rfl (Rn.sk (nw (b:=false) rfl rfl) (Rn.pickF (v:=(b_ false)) tv rfl rfl rfl (md rfl (Rn.sk (nw (b:=false) rfl rfl) (Rn.sk (nw (b:=false) rfl rfl) (Rn.sk (nw (b:=false) rfl rfl) (Rn.pickF (v:=(b_ false)) tv rfl rfl rfl (md rfl (Rn.sk (nw (b:=false) rfl rfl) (Rn.sk (nw (b:=false) rfl rfl) (Rn.pickF (v:=(b_ false)) tv rfl rfl rfl (md rfl (Rn.sk (nw (b:=false) rfl rfl) (Rn.sk (nw (b:=false) rfl rfl) (Rn.sk (nw (b:=false) rfl rfl) (Rn.sk (nw (b:=false) rfl rfl) (Rn.pickF (v:=(b_ false)) tv rfl rfl rfl (md rfl (Rn.nil ?_))))))))))))))))))))))
     replace h:=si h; subst h
     exact Qj [] ⟨(sm rfl),tv⟩ ⟨⟨_,rfl,rfl,(.same rfl)⟩,⟨_,rfl,rfl,(.same rfl)⟩,⟨_,rfl,rfl,(.same rfl)⟩,tv⟩ rfl
   ·replace h:=bF hb17 h
    refine Rn.sk (nw rfl hb17) (Rn.sk (nw rfl hb17) (Rn.sk (nw rfl hb17) (Rn.sk (nw rfl hb17) (Rn.sk (nw rfl hb17) (Rn.pickF (v:=(b_ false)) tv rfl hb17 rfl (md rfl (Rn.sk (nw (b:=false) rfl rfl) (Rn.sk (nw (b:=false) rfl rfl) (Rn.pickF (v:=(b_ false)) tv rfl rfl rfl (md rfl (Rn.sk (nw (b:=false) rfl rfl) (Rn.pickF (v:=(b_ false)) tv rfl rfl rfl (md rfl (Rn.sk (nw (b:=false) rfl rfl) (Rn.sk (nw (b:=false) rfl rfl) (Rn.sk (nw (b:=false) rfl rfl) (Rn.pickF (v:=(b_ false)) tv rfl rfl rfl (md rfl (Rn.sk (nw (b:=false) rfl rfl) (Rn.sk (nw (b:=false) rfl rfl) (Rn.pickF (v:=(b_ false)) tv rfl rfl rfl (md rfl (Rn.sk (nw (b:=false) rfl rfl) (Rn.sk (nw (b:=false) rfl rfl) (Rn.sk (nw (b:=false) rfl rfl) (Rn.sk (nw (b:=false) rfl rfl) (Rn.pickF (v:=(b_ false)) tv rfl rfl rfl (md rfl (Rn.nil ?_)))))))))))))))))))))))))))))
    replace h:=si h; subst h
    exact Qj [] ⟨(sm rfl),tv⟩ ⟨⟨_,rfl,rfl,(.same rfl)⟩,⟨_,rfl,rfl,(.same rfl)⟩,⟨_,rfl,rfl,(.same rfl)⟩,tv⟩ rfl
  ·replace h:=bF hb14 h
   refine Rn.sk (nw rfl hb14) (Rn.sk (nw rfl hb14) (Rn.sk (nw rfl hb14) (Rn.sk (nw rfl hb14) (Rn.sk (nw rfl hb14) (Rn.sk (nw rfl hb14) (Rn.sk (nw rfl hb14) (Rn.sk (nw rfl hb14) (Rn.pickF (v:=(b_ false)) tv rfl hb14 rfl (md rfl (Rn.sk (nw (b:=false) rfl rfl) (Rn.sk (nw (b:=false) rfl rfl) (Rn.sk (nw (b:=false) rfl rfl) (Rn.sk (nw (b:=false) rfl rfl) (Rn.sk (nw (b:=false) rfl rfl) (Rn.pickF (v:=(b_ false)) tv rfl rfl rfl (md rfl (Rn.sk (nw (b:=false) rfl rfl) (Rn.sk (nw (b:=false) rfl rfl) (Rn.pickF (v:=(b_ false)) tv rfl rfl rfl (md rfl (Rn.sk (nw (b:=false) rfl rfl) (Rn.pickF (v:=(b_ false)) tv rfl rfl rfl (md rfl (Rn.sk (nw (b:=false) rfl rfl) (Rn.sk (nw (b:=false) rfl rfl) (Rn.sk (nw (b:=false) rfl rfl) (Rn.pickF (v:=(b_ false)) tv rfl rfl rfl (md rfl (Rn.sk (nw (b:=false) rfl rfl) (Rn.sk (nw (b:=false) rfl rfl) (Rn.pickF (v:=(b_ false)) tv rfl rfl rfl (md rfl (Rn.sk (nw (b:=false) rfl rfl) (Rn.sk (nw (b:=false) rfl rfl) (Rn.sk (nw (b:=false) rfl rfl) (Rn.sk (nw (b:=false) rfl rfl) (Rn.pickF (v:=(b_ false)) tv rfl rfl rfl (md rfl (Rn.nil ?_)))))))))))))))))))))))))))))))))))))))
   replace h:=si h; subst h
   exact Qj [] ⟨(sm rfl),tv⟩ ⟨⟨_,rfl,rfl,(.same rfl)⟩,⟨_,rfl,rfl,(.same rfl)⟩,⟨_,rfl,rfl,(.same rfl)⟩,tv⟩ rfl
 ·obtain ⟨x27,rfl⟩ : ∃ x,x = z:=⟨_,rfl⟩
  refine Tr.ret ?_
  replace h:=si h; subst h
  exact ⟨.inr rfl,(b_ x27),rfl,fun _ _ _ _ h=>h,tv,fun k hk=>Qf hk⟩
theorem Qn5 {P:Program} {c:Nat} (hcf:Qu P c = some Qff) (fuel:Nat):Qd2 P c (Qx fuel):=by
 intro s1 r h
 refine Qcf hcf rfl fun Γ M hP hnt hM=>?_
 subst hP
 refine Tr.init [(0,.d (.int .u8 s1))] rfl ?_
 unfold Qx at h
 unfold Qff
 refine sr ((Rn.movTC (v:=.nils 1) tv (nt ((sr ((Rn.movTC (v:=.nils 1) tv (Rn.nil (toN ?_)))))))))
 refine Tr.cutB (fun (out12:List Int)=>⟨look [(3,(o_ out12))],Qp Γ.n0 (bxs []) M,Γ.n0 + 19⟩) h (fun z h=>?_) (fun z h=>?_)
 ·refine sr ((md rfl (nt ((Tr.block ?_)))))
  refine Tr.loop (mk:=fun ((out2,i3):(List Int)×Int)=>⟨look [(0,.d (.int .u8 s1)),(3,(o_ out2)),(4,(i_ i3))],Qp Γ.n0 (bxs []) M,Γ.n0 + 19⟩) h (by exact Ql ⟨(sm rfl),(WkV.nilsO _),(sm rfl),tv⟩ tv rfl) (fun k4 z h=>?_)
  ·obtain ⟨out2,i3⟩:=z
   replace h:_ = some _:=h
   refine Tr.seq (sr ((md rfl (Rn.bin tv rfl rfl rfl (Rn.nil (toN ?_))))))
   refine Tr.cond rfl (fun hb5=>?_) (fun hb5=>?_)
   ·replace h:=ifT hb5 h
    refine Tr.skip (toN ?_)
    refine Tr.cutB (fun (out11:List Int)=>⟨look [(0,.d (.int .u8 s1)),(3,(o_ out11)),(4,(i_ i3))],Qp Γ.n0 (bxs []) M,Γ.n0 + 19⟩) h (fun z h=>?_) (fun z h=>?_)
    ·refine Tr.block (sr ((md rfl (md rfl ?_))))
     obtain ⟨s6,h7,h⟩:=bnd h
     refine Rn.bin tv rfl rfl (Qblf h7) (Rn.bin tv rfl rfl rfl (Rn.bin tv rfl rfl rfl (Rn.nil (toN ?_))))
     refine Tr.cond rfl (fun hb8=>?_) (fun hb8=>?_)
     ·replace h:=bT hb8 h
      refine Tr.rgn (Rn.movTO tv rfl (md rfl (Rn.bslice (xs:=[(i_ i3)]) (cs:=[(i_ i3)]) tv rfl rfl rfl rfl ?_)))
      obtain ⟨x9,h10,h⟩:=bnd h
      refine Rn.app (e:=(eI .i64)) tv rfl rfl rfl (Qcm rfl rfl rfl) h10 rfl (Rn.movTO tv rfl (Rn.nil ?_))
      replace h:=si h; subst h
      exact Qj [16] ⟨(sm rfl),(sm rfl),(sm rfl),tv⟩ tv rfl
     ·replace h:=bF hb8 h
      refine Tr.skip ?_
      replace h:=si h; subst h
      exact Qj [] ⟨(sm rfl),(sm rfl),(sm rfl),tv⟩ tv rfl
    ·obtain ⟨out11,rfl⟩ : ∃ x,x = z:=⟨_,rfl⟩
     refine Tr.rgn (md rfl (Rn.bin tv rfl rfl rfl (md rfl (Rn.nil ?_))))
     exact ⟨_,h,(by exact Ql ⟨(sm rfl),(sm rfl),(sm rfl),tv⟩ tv rfl)⟩
   ·replace h:=ifF hb5 h
    refine Tr.exit ?_
    replace h:=si h; subst h
    exact Qj [] ⟨(sm rfl),tv⟩ tv rfl
 ·obtain ⟨out12,rfl⟩ : ∃ x,x = z:=⟨_,rfl⟩
  refine sr ((Rn.movTO tv rfl (Rn.movTO tv rfl (nt ((Tr.ret ?_))))))
  replace h:=si h; subst h
  exact ⟨.inr rfl,(o_ out12),rfl,fun _ _ _ _ h=>h,tv,fun k hk=>Qf hk⟩
theorem Quj {P:Program} {c:Nat} (hcf:Qu P c = some Qhu):Qfl P c (Q9):=by
 intro alphabet1 r h
 refine Qcf hcf rfl fun Γ M hP hnt hM=>?_
 subst hP
 refine Tr.init [(0,(l_ alphabet1))] rfl ?_
 unfold Q9 at h
 unfold Qhu
 refine sr ((Rn.alloc tv rfl (nt ((sr ((Rn.bslice (xs:=[]) (cs:=[]) tv rfl rfl rfl rfl (md rfl ?_))))))))
 obtain ⟨x2,h3,h⟩:=bnd h
 refine Rn.app0 (e:=(eI .i64)) tv rfl rfl rfl rfl Q1k h3 rfl (Rn.buildT (v:=.agg [(o_ x2),(i_ 0),.nils 1,.nils 3]) tv rfl (Rn.storeT (v:=.agg [(o_ x2),(i_ 0),.nils 1,.nils 3]) (ds:=[(o_ x2),(i_ 0),.nils 1,.nils 3]) (cs':=[(o_ x2),(i_ 0),.nils 1,.nils 3]) tv rfl rfl rfl rfl rfl rfl rfl (nt ((Tr.ret ?_)))))
 replace h:=si h; subst h
 exact ⟨.inr rfl,(.agg [(l_ x2),(i_ 0),.nils 1,.nils 3]),Qif rfl rfl rfl rfl,fun _ _ _ _ h=>h,⟨tv,tv,tv,tv,tv⟩,fun k hk=>Qf hk⟩
theorem Qyg {P:Program} {c:Nat} (hcf:Qu P c = some Qio) (fuel:Nat):Qf5 P c (Qbf fuel):=by
 intro a1 state2 event3 r h
 refine Qcf hcf rfl fun Γ M hP hnt hM=>?_
 subst hP
 refine Tr.init [(0,(Qa a1)),(1,(i_ state2)),(2,(i_ event3))] rfl ?_
 unfold Qbf at h
 unfold Qio
 refine sr ((Rn.box (v:=(Qa a1)) (cs:=(Qd a1)) tv rfl rfl rfl rfl rfl (md rfl (nt ((Tr.seq (sr ((md rfl (nt ((Tr.block ?_))))))))))))
 refine Tr.loop (mk:=fun (i4:Int)=>⟨look [(1,(i_ state2)),(2,(i_ event3)),(3,.ptr (Γ.n0 + 3) 0),(7,(i_ i4))],Qp Γ.n0 (bxs [(3,.cells ((Qd a1)))]) M,Γ.n0 + 39⟩) h (by exact Ql ⟨(sm rfl),(sm rfl),(kPtr rfl),(sm rfl),tv⟩ ⟨⟨_,rfl,rfl,(.same rfl)⟩,tv⟩ rfl) (fun k5 z h=>?_)
 ·obtain ⟨i4,rfl⟩ : ∃ x,x = z:=⟨_,rfl⟩
  replace h:_ = some _:=h
  refine Tr.seq (sr ((md rfl (Rn.fldP (o':=3) tv rfl rfl (Rn.load (v:=.d (.lst 3 (List.map Qc a1.Edges))) tv rfl (Qm rfl) rfl rfl (Rn.lenD tv rfl (Rn.bin tv rfl rfl rfl (Rn.nil (toN ?_)))))))))
  refine Tr.cond rfl (fun hb6=>?_) (fun hb6=>?_)
  ·replace h:=ifT hb6 h
   refine Tr.skip (toN (Tr.seq (Tr.block ?_)))
   refine Tr.cutB (fun (x12:Bool)=>⟨look [(1,(i_ state2)),(2,(i_ event3)),(3,.ptr (Γ.n0 + 3) 0),(7,(i_ i4)),(32,(b_ x12))],Qp Γ.n0 (bxs [(3,.cells ((Qd a1)))]) M,Γ.n0 + 39⟩) h (fun z h=>?_) (fun z h=>?_)
   ·refine Tr.rgn (Rn.fldP (o':=3) tv rfl rfl (Rn.load (v:=.d (.lst 3 (List.map Qc a1.Edges))) tv rfl (Qm rfl) rfl rfl (md rfl ?_)))
    obtain ⟨x7,h8,h⟩:=bnd h
    refine Rn.idxD (e:=Qc) tv rfl rfl h8 (Rn.fldC tv rfl (Rn.loadC (x:=.int .i64 x7.From) tv rfl (md rfl (Rn.bin tv rfl rfl rfl (md rfl ?_)))))
    refine Qc0 (x7.From == state2) (fun hb9=>?_) (fun hb9=>?_)
    ·replace h:=bT hb9 h
     refine Rn.fldP (o':=3) (gw rfl hb9) rfl rfl (Rn.load (v:=.d (.lst 3 (List.map Qc a1.Edges))) (gw rfl hb9) rfl (Qm rfl) rfl rfl (Rn.movD (gw rfl hb9) rfl ?_))
     obtain ⟨x10,h11,h⟩:=bnd h
     refine Rn.idxD (e:=Qc) (gw rfl hb9) rfl rfl h11 (Rn.fldC (gw rfl hb9) rfl (Rn.loadC (x:=.int .i64 x10.Event) (gw rfl hb9) rfl (Rn.movD (gw rfl hb9) rfl (Rn.bin (gw rfl hb9) rfl rfl rfl (Rn.pickT (v:=(b_ (x10.Event == event3))) tv rfl hb9 rfl (Rn.nil ?_))))))
     replace h:=si h; subst h
     exact Qj [] ⟨(sm rfl),(sm rfl),(kPtr rfl),(sm rfl),(sm rfl),tv⟩ ⟨⟨_,rfl,rfl,(.same rfl)⟩,tv⟩ rfl
    ·replace h:=bF hb9 h
     refine Rn.sk (nw rfl hb9) (Rn.sk (nw rfl hb9) (Rn.sk (nw rfl hb9) (Rn.sk (nw rfl hb9) (Rn.sk (nw rfl hb9) (Rn.sk (nw rfl hb9) (Rn.sk (nw rfl hb9) (Rn.sk (nw rfl hb9) (Rn.pickF (v:=(b_ false)) tv rfl hb9 rfl (Rn.nil ?_)))))))))
     replace h:=si h; subst h
     exact Qj [] ⟨(sm rfl),(sm rfl),(kPtr rfl),(sm rfl),(sm rfl),tv⟩ ⟨⟨_,rfl,rfl,(.same rfl)⟩,tv⟩ rfl
   ·obtain ⟨x12,rfl⟩ : ∃ x,x = z:=⟨_,rfl⟩
    refine Tr.cond rfl (fun hb13=>?_) (fun hb13=>?_)
    ·replace h:=bT hb13 h
     refine sr ((Rn.fldP (o':=3) tv rfl rfl (Rn.load (v:=.d (.lst 3 (List.map Qc a1.Edges))) tv rfl (Qm rfl) rfl rfl (md rfl ?_))))
     obtain ⟨x14,h15,h⟩:=bnd h
     refine Rn.idxD (e:=Qc) tv rfl rfl h15 (Rn.fldC tv rfl (Rn.loadC (x:=.int .i64 x14.To) tv rfl (md rfl (nt ((Tr.ret ?_))))))
     replace h:=si h; subst h
     exact ⟨.inr rfl,(i_ x14.To),rfl,fun _ _ _ _ h=>h,tv,fun k hk=>Qf hk⟩
    ·replace h:=bF hb13 h
     refine Tr.skip (toN (Tr.rgn (md rfl (Rn.bin tv rfl rfl rfl (md rfl (Rn.nil ?_))))))
     exact ⟨_,h,(by exact Ql ⟨(sm rfl),(sm rfl),(kPtr rfl),(sm rfl),tv⟩ ⟨⟨_,rfl,rfl,(.same rfl)⟩,tv⟩ rfl)⟩
  ·replace h:=ifF hb6 h
   refine Tr.exit (toN (sr ((md rfl (nt ((Tr.ret ?_)))))))
   replace h:=si h; subst h
   exact ⟨.inr rfl,(i_ (-1)),rfl,fun _ _ _ _ h=>h,tv,fun k hk=>Qf hk⟩
theorem Q0u {P:Program} {c:Nat} (hcf:Qu P c = some Qi8) (fuel:Nat):Qgn P c (Qbm fuel):=by
 intro l1 n2 r h
 refine Qcf hcf rfl fun Γ M hP hnt hM=>?_
 subst hP
 refine Tr.init [(0,(l_ l1)),(1,(i_ n2))] rfl ?_
 unfold Qbm at h
 unfold Qi8
 refine sr ((md rfl (nt ((Tr.seq (sr ((md rfl (nt ((Tr.block ?_)))))))))))
 refine Tr.loop (mk:=fun (i3:Int)=>⟨look [(0,(l_ l1)),(1,(i_ n2)),(5,(i_ i3))],Qp Γ.n0 (bxs []) M,Γ.n0 + 18⟩) h (by exact Ql ⟨(sm rfl),(sm rfl),(sm rfl),tv⟩ tv rfl) (fun k4 z h=>?_)
 ·obtain ⟨i3,rfl⟩ : ∃ x,x = z:=⟨_,rfl⟩
  replace h:_ = some _:=h
  refine Tr.seq (sr ((md rfl (md rfl (Rn.lenD tv rfl (Rn.bin tv rfl rfl rfl (Rn.nil (toN ?_))))))))
  refine Tr.cond rfl (fun hb5=>?_) (fun hb5=>?_)
  ·replace h:=ifT hb5 h
   refine Tr.skip (toN (Tr.seq (Tr.block (sr ((md rfl (md rfl ?_)))))))
   obtain ⟨x6,h7,h⟩:=bnd h
   refine Rn.idxD (e:=(eI .i64)) tv rfl rfl h7 (Rn.loadC (x:=.int .i64 x6) tv rfl (md rfl (Rn.bin tv rfl rfl rfl (Rn.nil (toN ?_)))))
   refine Tr.cond rfl (fun hb8=>?_) (fun hb8=>?_)
   ·replace h:=bT hb8 h
    refine sr ((md rfl (nt ((Tr.ret ?_)))))
    replace h:=si h; subst h
    exact ⟨.inr rfl,(b_ true),rfl,fun _ _ _ _ h=>h,tv,fun k hk=>Qf hk⟩
   ·replace h:=bF hb8 h
    refine Tr.skip (toN (Tr.rgn (md rfl (Rn.bin tv rfl rfl rfl (md rfl (Rn.nil ?_))))))
    exact ⟨_,h,(by exact Ql ⟨(sm rfl),(sm rfl),(sm rfl),tv⟩ tv rfl)⟩
  ·replace h:=ifF hb5 h
   refine Tr.exit (toN (sr ((md rfl (nt ((Tr.ret ?_)))))))
   replace h:=si h; subst h
   exact ⟨.inr rfl,(b_ false),rfl,fun _ _ _ _ h=>h,tv,fun k hk=>Qf hk⟩
theorem Quk {P:Program} {c:Nat} {Qbm:(List Int)→Int→Option Bool} {Qbf:Qb→Int→Int→Option Int}
    (H_overseerref03_has:Qgn P 73 Qbm)
    (H_overseerref03_Step:Qf5 P 74 Qbf) (hcf:Qu P c = some Qhw) (fuel:Nat):Qhv P c (Qb8 Qbm Qbf fuel):=by
 intro a1 r h
 refine Qcf hcf rfl fun Γ M hP hnt hM=>?_
 subst hP
 refine Tr.init [(0,(Qa a1))] rfl ?_
 unfold Qb8 at h
 unfold Qhw
 refine sr ((Rn.box (v:=(Qa a1)) (cs:=(Qd a1)) tv rfl rfl rfl rfl rfl (Rn.movTC (v:=.nils 1) tv (nt ((sr ((Rn.movTC (v:=.nils 1) tv (Rn.nil (toN ?_))))))))))
 refine Tr.cutB (fun (out5:List Int)=>⟨look [(1,.ptr (Γ.n0 + 1) 0),(3,(o_ out5))],Qp Γ.n0 (bxs [(1,.cells ((Qd a1)))]) M,Γ.n0 + 50⟩) h (fun z h=>?_) (fun z h=>?_)
 ·refine sr ((Rn.fldP (o':=1) tv rfl rfl (Rn.load (v:=(i_ a1.States)) tv rfl (Qm rfl) rfl rfl (Rn.bin tv rfl rfl rfl (Rn.nil (toN ?_))))))
  refine Tr.cond rfl (fun hb2=>?_) (fun hb2=>?_)
  ·replace h:=ifT hb2 h
   refine Tr.rgn (Rn.movTF (v:=.nils 1) tv rfl rfl (Rn.bslice (xs:=[(i_ 0)]) (cs:=[(i_ 0)]) tv rfl rfl rfl rfl ?_))
   refine Rn.weak (by show WeakSt Γ _ ⟨look [(0,(Qa a1)),(1,.ptr (Γ.n0 + 1) 0),(2,.nils 1),(3,.nils 1),(7,.ptr (Γ.n0 + 1) 1),(8,(i_ a1.States)),(9,(b_ (decide (a1.States > 0)))),(10,.own 1 (List.map (eI .i64) [])),(11,.sl 1 (Γ.n0 + 11) 0 1 1)],Qp Γ.n0 (bxs [(1,.cells ((Qd a1))),(11,.cells ([(i_ 0)]))]) M,Γ.n0 + 50⟩; exact Qj [] ⟨(sm rfl),(kPtr rfl),(sm rfl),(sm rfl),(kPtr rfl),(sm rfl),(sm rfl),(WkV.nilsO _),(kSl rfl),tv⟩ ⟨⟨_,rfl,rfl,(.same rfl)⟩,⟨_,rfl,rfl,(.same rfl)⟩,tv⟩ rfl) ?_
   obtain ⟨x3,h4,h⟩:=bnd h
   refine Rn.app (e:=(eI .i64)) tv rfl rfl rfl (Qcm rfl rfl rfl) h4 rfl (Rn.movTO tv rfl (Rn.nil ?_))
   replace h:=si h; subst h
   exact Qj [11] ⟨(kPtr rfl),(sm rfl),tv⟩ ⟨⟨_,rfl,rfl,(.same rfl)⟩,tv⟩ rfl
  ·replace h:=ifF hb2 h
   refine Tr.skip ?_
   replace h:=si h; subst h
   exact Qj [] ⟨(kPtr rfl),(WkV.nilsO _),tv⟩ ⟨⟨_,rfl,rfl,(.same rfl)⟩,tv⟩ rfl
 ·obtain ⟨out5,rfl⟩ : ∃ x,x = z:=⟨_,rfl⟩
  refine Tr.cutB (fun (out29:List Int)=>⟨look [(3,(o_ out29))],Qp Γ.n0 (bxs [(1,.cells ((Qd a1)))]) M,Γ.n0 + 50⟩) h (fun z h=>?_) (fun z h=>?_)
  ·refine sr ((md rfl (nt ((Tr.block ?_)))))
   refine Tr.loop (mk:=fun ((out6,i7):(List Int)×Int)=>⟨look [(1,.ptr (Γ.n0 + 1) 0),(3,(o_ out6)),(4,(i_ i7))],Qp Γ.n0 (bxs [(1,.cells ((Qd a1)))]) M,Γ.n0 + 50⟩) h (by exact Ql ⟨(kPtr rfl),(sm rfl),(sm rfl),tv⟩ ⟨⟨_,rfl,rfl,(.same rfl)⟩,tv⟩ rfl) (fun k8 z h=>?_)
   ·obtain ⟨out6,i7⟩:=z
    replace h:_ = some _:=h
    refine Tr.seq (sr ((md rfl (Rn.mov (v:=(l_ out6)) tv rfl (Rn.lenD tv rfl (Rn.bin tv rfl rfl rfl (Rn.nil (toN ?_))))))))
    refine Tr.cond rfl (fun hb9=>?_) (fun hb9=>?_)
    ·replace h:=ifT hb9 h
     refine Tr.skip (toN ?_)
     refine Tr.cutB (fun (out28:List Int)=>⟨look [(1,.ptr (Γ.n0 + 1) 0),(3,(o_ out28)),(4,(i_ i7))],Qp Γ.n0 (bxs [(1,.cells ((Qd a1)))]) M,Γ.n0 + 50⟩) h (fun z h=>?_) (fun z h=>?_)
     ·refine Tr.block (sr ((md rfl (nt ((Tr.block ?_))))))
      refine Tr.loop (mk:=fun ((out10,k11):(List Int)×Int)=>⟨look [(1,.ptr (Γ.n0 + 1) 0),(3,(o_ out10)),(4,(i_ i7)),(5,(i_ k11))],Qp Γ.n0 (bxs [(1,.cells ((Qd a1)))]) M,Γ.n0 + 50⟩) h (by exact Ql ⟨(kPtr rfl),(sm rfl),(sm rfl),(sm rfl),tv⟩ ⟨⟨_,rfl,rfl,(.same rfl)⟩,tv⟩ rfl) (fun k12 z h=>?_)
      ·obtain ⟨out10,k11⟩:=z
       replace h:_ = some _:=h
       refine Tr.seq (sr ((md rfl (Rn.fldP (o':=0) tv rfl rfl (Rn.load (v:=(l_ a1.Alphabet)) tv rfl (Qm rfl) rfl rfl (Rn.lenD tv rfl (Rn.bin tv rfl rfl rfl (Rn.nil (toN ?_)))))))))
       refine Tr.cond rfl (fun hb13=>?_) (fun hb13=>?_)
       ·replace h:=ifT hb13 h
        refine Tr.skip (toN ?_)
        refine Tr.cutB (fun (out27:List Int)=>⟨look [(1,.ptr (Γ.n0 + 1) 0),(3,(o_ out27)),(4,(i_ i7)),(5,(i_ k11))],Qp Γ.n0 (bxs [(1,.cells ((Qd a1)))]) M,Γ.n0 + 50⟩) h (fun z h=>?_) (fun z h=>?_)
        ·refine Tr.block (Tr.seq ?_)
         refine Tr.rgnD (by decide) ?_
         refine Rn.load (v:=(Qa a1)) tv rfl (Qm rfl) rfl rfl (Rn.mov (v:=(l_ out10)) tv rfl (md rfl ?_))
         obtain ⟨x14,h15,h⟩:=bnd h
         refine Rn.idxD (e:=(eI .i64)) tv rfl rfl h15 (Rn.loadC (x:=.int .i64 x14) tv rfl (Rn.fldP (o':=0) tv rfl rfl (Rn.load (v:=(l_ a1.Alphabet)) tv rfl (Qm rfl) rfl rfl (md rfl ?_))))
         obtain ⟨x16,h17,h⟩:=bnd h
         refine Rn.idxD (e:=(eI .i64)) tv rfl rfl h17 (Rn.loadC (x:=.int .i64 x16) tv rfl ?_)
         obtain ⟨x19,h18,h⟩:=bnd h
         refine Rn.call (args:=[(Qa a1),(i_ x14),(i_ x16)]) tv rfl (H_overseerref03_Step _ _ _ _ h18) pc0 (md rfl ?_)
         refine Rn.nil ⟨rfl,?_⟩
         refine toN ?_
         refine Tr.cutB (fun (x23:Bool)=>⟨look [(1,.ptr (Γ.n0 + 1) 0),(3,(o_ out10)),(4,(i_ i7)),(5,(i_ k11)),(6,(i_ x19)),(44,(b_ x23))],Qp Γ.n0 (bxs [(1,.cells ((Qd a1)))]) M,Γ.n0 + 50⟩) h (fun z h=>?_) (fun z h=>?_)
         ·refine Tr.rgn (md rfl (Rn.bin tv rfl rfl rfl (md rfl ?_)))
          refine Qc0 (decide (x19≥0)) (fun hb20=>?_) (fun hb20=>?_)
          ·replace h:=ifT hb20 h
           refine Rn.mov (v:=(l_ out10)) (gw rfl hb20) rfl (Rn.movD (gw rfl hb20) rfl ?_)
           obtain ⟨x22,h21,h⟩:=bnd h
           refine Rn.call (args:=[(l_ out10),(i_ x19)]) (gw rfl hb20) rfl (H_overseerref03_has _ _ _ h21) pc9 (Rn.un (gw rfl hb20) rfl rfl (Rn.pickT (v:=(b_ (!x22))) tv rfl hb20 rfl (Rn.nil ?_)))
           replace h:=si h; subst h
           exact Qj [] ⟨(kPtr rfl),(sm rfl),(sm rfl),(sm rfl),(sm rfl),(sm rfl),tv⟩ ⟨⟨_,rfl,rfl,(.same rfl)⟩,tv⟩ rfl
          ·replace h:=ifF hb20 h
           refine Rn.sk (nw rfl hb20) (Rn.sk (nw rfl hb20) (Rn.sk (nw rfl hb20) (Rn.sk (nw rfl hb20) (Rn.pickF (v:=(b_ false)) tv rfl hb20 rfl (Rn.nil ?_)))))
           replace h:=si h; subst h
           exact Qj [] ⟨(kPtr rfl),(sm rfl),(sm rfl),(sm rfl),(sm rfl),(sm rfl),tv⟩ ⟨⟨_,rfl,rfl,(.same rfl)⟩,tv⟩ rfl
         ·obtain ⟨x23,rfl⟩ : ∃ x,x = z:=⟨_,rfl⟩
          refine Tr.cond rfl (fun hb24=>?_) (fun hb24=>?_)
          ·replace h:=bT hb24 h
           refine Tr.rgn (Rn.movTO tv rfl (md rfl (Rn.bslice (xs:=[(i_ x19)]) (cs:=[(i_ x19)]) tv rfl rfl rfl rfl ?_)))
           obtain ⟨x25,h26,h⟩:=bnd h
           refine Rn.app (e:=(eI .i64)) tv rfl rfl rfl (Qcm rfl rfl rfl) h26 rfl (Rn.movTO tv rfl (Rn.nil ?_))
           replace h:=si h; subst h
           exact Qj [47] ⟨(kPtr rfl),(sm rfl),(sm rfl),(sm rfl),tv⟩ ⟨⟨_,rfl,rfl,(.same rfl)⟩,tv⟩ rfl
          ·replace h:=bF hb24 h
           refine Tr.skip ?_
           replace h:=si h; subst h
           exact Qj [] ⟨(kPtr rfl),(sm rfl),(sm rfl),(sm rfl),tv⟩ ⟨⟨_,rfl,rfl,(.same rfl)⟩,tv⟩ rfl
        ·obtain ⟨out27,rfl⟩ : ∃ x,x = z:=⟨_,rfl⟩
         refine Tr.rgn (md rfl (Rn.bin tv rfl rfl rfl (md rfl (Rn.nil ?_))))
         exact ⟨_,h,(by exact Ql ⟨(kPtr rfl),(sm rfl),(sm rfl),(sm rfl),tv⟩ ⟨⟨_,rfl,rfl,(.same rfl)⟩,tv⟩ rfl)⟩
       ·replace h:=ifF hb13 h
        refine Tr.exit ?_
        replace h:=si h; subst h
        exact Qj [] ⟨(kPtr rfl),(sm rfl),(sm rfl),tv⟩ ⟨⟨_,rfl,rfl,(.same rfl)⟩,tv⟩ rfl
     ·obtain ⟨out28,rfl⟩ : ∃ x,x = z:=⟨_,rfl⟩
      refine Tr.rgn (md rfl (Rn.bin tv rfl rfl rfl (md rfl (Rn.nil ?_))))
      exact ⟨_,h,(by exact Ql ⟨(kPtr rfl),(sm rfl),(sm rfl),tv⟩ ⟨⟨_,rfl,rfl,(.same rfl)⟩,tv⟩ rfl)⟩
    ·replace h:=ifF hb9 h
     refine Tr.exit ?_
     replace h:=si h; subst h
     exact Qj [] ⟨(sm rfl),tv⟩ ⟨⟨_,rfl,rfl,(.same rfl)⟩,tv⟩ rfl
  ·obtain ⟨out29,rfl⟩ : ∃ x,x = z:=⟨_,rfl⟩
   refine sr ((Rn.movTO tv rfl (Rn.movTO tv rfl (nt ((Tr.ret ?_))))))
   replace h:=si h; subst h
   exact ⟨.inr rfl,(o_ out29),rfl,fun _ _ _ _ h=>h,tv,fun k hk=>Qf hk⟩
theorem Qul {P:Program} {c:Nat} (hcf:Qu P c = some Qhy) (fuel:Nat):Qhx P c (Qb9 fuel):=by
 intro l1 n2 r h
 refine Qcf hcf rfl fun Γ M hP hnt hM=>?_
 subst hP
 refine Tr.init [(0,(l_ l1)),(1,(i_ n2))] rfl ?_
 unfold Qb9 at h
 unfold Qhy
 refine sr ((md rfl (nt ((Tr.seq (sr ((md rfl (nt ((Tr.block ?_)))))))))))
 refine Tr.loop (mk:=fun (i3:Int)=>⟨look [(0,(l_ l1)),(1,(i_ n2)),(5,(i_ i3))],Qp Γ.n0 (bxs []) M,Γ.n0 + 19⟩) h (by exact Ql ⟨(sm rfl),(sm rfl),(sm rfl),tv⟩ tv rfl) (fun k4 z h=>?_)
 ·obtain ⟨i3,rfl⟩ : ∃ x,x = z:=⟨_,rfl⟩
  replace h:_ = some _:=h
  refine Tr.seq (sr ((md rfl (md rfl (Rn.lenD tv rfl (Rn.bin tv rfl rfl rfl (Rn.nil (toN ?_))))))))
  refine Tr.cond rfl (fun hb5=>?_) (fun hb5=>?_)
  ·replace h:=ifT hb5 h
   refine Tr.skip (toN (Tr.seq (Tr.block (sr ((md rfl (md rfl ?_)))))))
   obtain ⟨x6,h7,h⟩:=bnd h
   refine Rn.idxD (e:=(eI .i64)) tv rfl rfl h7 (Rn.loadC (x:=.int .i64 x6) tv rfl (md rfl (Rn.bin tv rfl rfl rfl (Rn.nil (toN ?_)))))
   refine Tr.cond rfl (fun hb8=>?_) (fun hb8=>?_)
   ·replace h:=bT hb8 h
    refine sr ((md rfl (md rfl (nt ((Tr.ret ?_))))))
    replace h:=si h; subst h
    exact ⟨.inr rfl,(i_ i3),rfl,fun _ _ _ _ h=>h,tv,fun k hk=>Qf hk⟩
   ·replace h:=bF hb8 h
    refine Tr.skip (toN (Tr.rgn (md rfl (Rn.bin tv rfl rfl rfl (md rfl (Rn.nil ?_))))))
    exact ⟨_,h,(by exact Ql ⟨(sm rfl),(sm rfl),(sm rfl),tv⟩ tv rfl)⟩
  ·replace h:=ifF hb5 h
   refine Tr.exit (toN (sr ((md rfl (nt ((Tr.ret ?_)))))))
   replace h:=si h; subst h
   exact ⟨.inr rfl,(i_ (-1)),rfl,fun _ _ _ _ h=>h,tv,fun k hk=>Qf hk⟩
theorem Qpb {P:Program} {c:Nat} {Q9:(List Int)→Option Qb} {Qb8:Qb→Option ((List Int))} {Qbm:(List Int)→Int→Option Bool} {Qbf:Qb→Int→Int→Option Int} {Qb9:(List Int)→Int→Option Int}
    (H_overseerref03_Empty:Qfl P 36 Q9)
    (H_overseerref03_Found:Qhv P 72 Qb8)
    (H_overseerref03_has:Qgn P 73 Qbm)
    (H_overseerref03_Step:Qf5 P 74 Qbf)
    (H_overseerref03_index:Qhx P 75 Qb9) (hcf:Qu P c = some Qfz) (fuel:Nat):Qfy P c (Qbr Q9 Qb8 Qbm Qbf Qb9 fuel):=by
 intro a1 r h
 refine Qcf hcf rfl fun Γ M hP hnt hM=>?_
 subst hP
 refine Tr.init [(0,(Qa a1))] rfl ?_
 unfold Qbr at h
 unfold Qfz
 refine sr ((Rn.box (v:=(Qa a1)) (cs:=(Qd a1)) tv rfl rfl rfl rfl rfl (Rn.alloc tv rfl (nt ((sr ((Rn.load (v:=(Qa a1)) tv rfl (Qm rfl) rfl rfl ?_))))))))
 obtain ⟨x3,h2,h⟩:=bnd h
 refine Rn.call (args:=[(Qa a1)]) tv rfl (H_overseerref03_Found _ _ h2) pc9 (Rn.movTO tv rfl (nt ((sr ((Rn.fldP (o':=0) tv rfl rfl (Rn.load (v:=(l_ a1.Alphabet)) tv rfl (Qm rfl) rfl rfl ?_)))))))
 obtain ⟨x5,h4,h⟩:=bnd h
 refine Rn.call (args:=[(l_ a1.Alphabet)]) tv rfl (H_overseerref03_Empty _ _ h4) pc9 (Rn.alloc tv rfl (Rn.storeT (v:=.agg [(l_ x5.Alphabet),(i_ x5.States),.nils 1,.nils 3]) (ds:=[(l_ x5.Alphabet),(i_ x5.States),.nils 1,.nils 3]) (cs':=[(l_ x5.Alphabet),(i_ x5.States),.nils 1,.nils 3]) tv rfl rfl rfl rfl rfl rfl rfl (nt ((sr ((Rn.mov (v:=(l_ x3)) tv rfl (Rn.lenD tv rfl (Rn.fldP (o':=1) tv rfl rfl (Rn.store (v:=(i_ (x3.length:Int))) (cs':=[(l_ x5.Alphabet),(i_ (x3.length:Int)),.nils 1,.nils 3]) tv rfl rfl rfl rfl rfl rfl (Rn.nil (toN ?_))))))))))))
 refine Tr.cutB (fun ((c42,c43,c44,out45,out46):(List Int)×(List Int)×(List Qe)×(List Int)×(List Qe))=>⟨look [(2,.ptr (Γ.n0 + 2) 0),(4,.ptr (Γ.n0 + 4) 0)],Qp Γ.n0 (bxs [(1,.cells ((Qd a1))),(2,.cells ([(o_ c42),(i_ 0),(o_ c43),.own 3 (List.map Qc c44)])),(4,.cells ([(l_ x5.Alphabet),(i_ (x3.length:Int)),(o_ out45),.own 3 (List.map Qc out46)]))]) M,Γ.n0 + 71⟩) h (fun z h=>?_) (fun z h=>?_)
 ·refine sr ((md rfl (nt ((Tr.block ?_)))))
  refine Tr.loop (mk:=fun ((i6,c7,c8,c9,out10,out11):Int×(List Int)×(List Int)×(List Qe)×(List Int)×(List Qe))=>⟨look [(1,.ptr (Γ.n0 + 1) 0),(2,.ptr (Γ.n0 + 2) 0),(3,(o_ x3)),(4,.ptr (Γ.n0 + 4) 0),(5,(i_ i6))],Qp Γ.n0 (bxs [(1,.cells ((Qd a1))),(2,.cells ([(o_ c7),(i_ 0),(o_ c8),.own 3 (List.map Qc c9)])),(4,.cells ([(l_ x5.Alphabet),(i_ (x3.length:Int)),(o_ out10),.own 3 (List.map Qc out11)]))]) M,Γ.n0 + 71⟩) h (by exact Ql ⟨(kPtr rfl),(kPtr rfl),(sm rfl),(kPtr rfl),(sm rfl),tv⟩ ⟨⟨_,rfl,rfl,(.same rfl)⟩,⟨_,rfl,rfl,(.cons (WkV.nilsO _) (.cons (sm rfl) (.cons (WkV.nilsO _) (.cons (WkV.nilsO _) .nil))))⟩,⟨_,rfl,rfl,(.cons (sm rfl) (.cons (sm rfl) (.cons (WkV.nilsO _) (.cons (WkV.nilsO _) .nil))))⟩,tv⟩ rfl) (fun k12 z h=>?_)
  ·obtain ⟨i6,c7,c8,c9,out10,out11⟩:=z
   replace h:_ = some _:=h
   refine Tr.seq (sr ((md rfl (Rn.mov (v:=(l_ x3)) tv rfl (Rn.lenD tv rfl (Rn.bin tv rfl rfl rfl (Rn.nil (toN ?_))))))))
   refine Tr.cond rfl (fun hb13=>?_) (fun hb13=>?_)
   ·replace h:=ifT hb13 h
    refine Tr.skip (toN ?_)
    refine Tr.cutB (fun ((out40,out41):(List Int)×(List Qe))=>⟨look [(1,.ptr (Γ.n0 + 1) 0),(2,.ptr (Γ.n0 + 2) 0),(3,(o_ x3)),(4,.ptr (Γ.n0 + 4) 0),(5,(i_ i6))],Qp Γ.n0 (bxs [(1,.cells ((Qd a1))),(2,.cells ([(o_ c7),(i_ 0),(o_ c8),.own 3 (List.map Qc c9)])),(4,.cells ([(l_ x5.Alphabet),(i_ (x3.length:Int)),(o_ out40),.own 3 (List.map Qc out41)]))]) M,Γ.n0 + 71⟩) h (fun z h=>?_) (fun z h=>?_)
    ·refine Tr.block ?_
     refine Tr.cutB (fun (out21:List Int)=>⟨look [(1,.ptr (Γ.n0 + 1) 0),(2,.ptr (Γ.n0 + 2) 0),(3,(o_ x3)),(4,.ptr (Γ.n0 + 4) 0),(5,(i_ i6))],Qp Γ.n0 (bxs [(1,.cells ((Qd a1))),(2,.cells ([(o_ c7),(i_ 0),(o_ c8),.own 3 (List.map Qc c9)])),(4,.cells ([(l_ x5.Alphabet),(i_ (x3.length:Int)),(o_ out21),.own 3 (List.map Qc out11)]))]) M,Γ.n0 + 71⟩) h (fun z h=>?_) (fun z h=>?_)
     ·refine Tr.seq ?_
      refine Tr.rgnD (by decide) ?_
      refine Rn.fldP (o':=2) tv rfl rfl (Rn.load (v:=(l_ a1.Marked)) tv rfl (Qm rfl) rfl rfl (Rn.mov (v:=(l_ x3)) tv rfl (md rfl ?_)))
      obtain ⟨x14,h15,h⟩:=bnd h
      refine Rn.idxD (e:=(eI .i64)) tv rfl rfl h15 (Rn.loadC (x:=.int .i64 x14) tv rfl ?_)
      obtain ⟨x17,h16,h⟩:=bnd h
      refine Rn.call (args:=[(l_ a1.Marked),(i_ x14)]) tv rfl (H_overseerref03_has _ _ _ h16) pc0 ?_
      refine Rn.nil ⟨rfl,?_⟩
      refine toN ?_
      refine Tr.cond rfl (fun hb18=>?_) (fun hb18=>?_)
      ·replace h:=bT hb18 h
       refine Tr.rgn (Rn.fldP (o':=2) tv rfl rfl (Rn.loadT (cs':=[(l_ x5.Alphabet),(i_ (x3.length:Int)),(l_ out10),.own 3 (List.map Qc out11)]) tv rfl rfl rfl rfl (md rfl (Rn.bslice (xs:=[(i_ i6)]) (cs:=[(i_ i6)]) tv rfl rfl rfl rfl ?_))))
       obtain ⟨x19,h20,h⟩:=bnd h
       refine Rn.app (e:=(eI .i64)) tv rfl rfl rfl (Qcm rfl rfl rfl) h20 rfl (Rn.fldP (o':=2) tv rfl rfl (Rn.storeO (cs':=[(l_ x5.Alphabet),(i_ (x3.length:Int)),(o_ x19),.own 3 (List.map Qc out11)]) tv rfl rfl rfl rfl rfl (Rn.nil ?_)))
       replace h:=si h; subst h
       exact Qj [32] ⟨(kPtr rfl),(kPtr rfl),(sm rfl),(kPtr rfl),(sm rfl),tv⟩ ⟨⟨_,rfl,rfl,(.same rfl)⟩,⟨_,rfl,rfl,(.same rfl)⟩,⟨_,rfl,rfl,(.same rfl)⟩,tv⟩ rfl
      ·replace h:=bF hb18 h
       refine Tr.skip ?_
       replace h:=si h; subst h
       exact Qj [] ⟨(kPtr rfl),(kPtr rfl),(sm rfl),(kPtr rfl),(sm rfl),tv⟩ ⟨⟨_,rfl,rfl,(.same rfl)⟩,⟨_,rfl,rfl,(.same rfl)⟩,⟨_,rfl,rfl,(.same rfl)⟩,tv⟩ rfl
     ·obtain ⟨out21,rfl⟩ : ∃ x,x = z:=⟨_,rfl⟩
      refine sr ((md rfl (nt ((Tr.block ?_)))))
      refine Tr.loop (mk:=fun ((k22,out23):Int×(List Qe))=>⟨look [(1,.ptr (Γ.n0 + 1) 0),(2,.ptr (Γ.n0 + 2) 0),(3,(o_ x3)),(4,.ptr (Γ.n0 + 4) 0),(5,(i_ i6)),(6,(i_ k22))],Qp Γ.n0 (bxs [(1,.cells ((Qd a1))),(2,.cells ([(o_ c7),(i_ 0),(o_ c8),.own 3 (List.map Qc c9)])),(4,.cells ([(l_ x5.Alphabet),(i_ (x3.length:Int)),(o_ out21),.own 3 (List.map Qc out23)]))]) M,Γ.n0 + 71⟩) h (by exact Ql ⟨(kPtr rfl),(kPtr rfl),(sm rfl),(kPtr rfl),(sm rfl),(sm rfl),tv⟩ ⟨⟨_,rfl,rfl,(.same rfl)⟩,⟨_,rfl,rfl,(.same rfl)⟩,⟨_,rfl,rfl,(.same rfl)⟩,tv⟩ rfl) (fun k24 z h=>?_)
      ·obtain ⟨k22,out23⟩:=z
       replace h:_ = some _:=h
       refine Tr.seq (sr ((md rfl (Rn.fldP (o':=0) tv rfl rfl (Rn.load (v:=(l_ a1.Alphabet)) tv rfl (Qm rfl) rfl rfl (Rn.lenD tv rfl (Rn.bin tv rfl rfl rfl (Rn.nil (toN ?_)))))))))
       refine Tr.cond rfl (fun hb25=>?_) (fun hb25=>?_)
       ·replace h:=ifT hb25 h
        refine Tr.skip (toN ?_)
        refine Tr.cutB (fun (out39:List Qe)=>⟨look [(1,.ptr (Γ.n0 + 1) 0),(2,.ptr (Γ.n0 + 2) 0),(3,(o_ x3)),(4,.ptr (Γ.n0 + 4) 0),(5,(i_ i6)),(6,(i_ k22))],Qp Γ.n0 (bxs [(1,.cells ((Qd a1))),(2,.cells ([(o_ c7),(i_ 0),(o_ c8),.own 3 (List.map Qc c9)])),(4,.cells ([(l_ x5.Alphabet),(i_ (x3.length:Int)),(o_ out21),.own 3 (List.map Qc out39)]))]) M,Γ.n0 + 71⟩) h (fun z h=>?_) (fun z h=>?_)
        ·refine Tr.block (Tr.seq ?_)
         refine Tr.rgnD (by decide) ?_
         refine Rn.load (v:=(Qa a1)) tv rfl (Qm rfl) rfl rfl (Rn.mov (v:=(l_ x3)) tv rfl (md rfl ?_))
         obtain ⟨x26,h27,h⟩:=bnd h
         refine Rn.idxD (e:=(eI .i64)) tv rfl rfl h27 (Rn.loadC (x:=.int .i64 x26) tv rfl (Rn.fldP (o':=0) tv rfl rfl (Rn.load (v:=(l_ a1.Alphabet)) tv rfl (Qm rfl) rfl rfl (md rfl ?_))))
         obtain ⟨x28,h29,h⟩:=bnd h
         refine Rn.idxD (e:=(eI .i64)) tv rfl rfl h29 (Rn.loadC (x:=.int .i64 x28) tv rfl ?_)
         obtain ⟨x31,h30,h⟩:=bnd h
         refine Rn.call (args:=[(Qa a1),(i_ x26),(i_ x28)]) tv rfl (H_overseerref03_Step _ _ _ _ h30) pc0 (md rfl ?_)
         refine Rn.nil ⟨rfl,?_⟩
         refine toN (sr ((md rfl (Rn.bin tv rfl rfl rfl (Rn.nil (toN ?_))))))
         refine Tr.cond rfl (fun hb32=>?_) (fun hb32=>?_)
         ·replace h:=ifT hb32 h
          refine Tr.rgnD (by decide) ?_
          refine Rn.fldP (o':=3) tv rfl rfl (Rn.loadT (cs':=[(l_ x5.Alphabet),(i_ (x3.length:Int)),(o_ out21),.d (.lst 3 (List.map Qc out23))]) tv rfl rfl rfl rfl (md rfl (Rn.fldP (o':=0) tv rfl rfl (Rn.load (v:=(l_ a1.Alphabet)) tv rfl (Qm rfl) rfl rfl (md rfl ?_)))))
          obtain ⟨x33,h34,h⟩:=bnd h
          refine Rn.idxD (e:=(eI .i64)) tv rfl rfl h34 (Rn.loadC (x:=.int .i64 x33) tv rfl (Rn.mov (v:=(l_ x3)) tv rfl (md rfl ?_)))
          obtain ⟨x36,h35,h⟩:=bnd h
          refine Rn.call (args:=[(l_ x3),(i_ x31)]) tv rfl (H_overseerref03_index _ _ _ h35) pc2 (Rn.build (v:=.agg [(i_ i6),(i_ x33),(i_ x36)]) tv rfl (Rn.bslice (xs:=[.agg [(i_ i6),(i_ x33),(i_ x36)]]) (cs:=[(i_ i6),(i_ x33),(i_ x36)]) tv rfl rfl rfl rfl ?_))
          obtain ⟨x37,h38,h⟩:=bnd h
          refine Rn.app (e:=Qc) tv rfl rfl rfl (Qcm rfl rfl rfl) h38 rfl (Rn.fldP (o':=3) tv rfl rfl (Rn.storeO (cs':=[(l_ x5.Alphabet),(i_ (x3.length:Int)),(o_ out21),.own 3 (List.map Qc x37)]) tv rfl rfl rfl rfl rfl ?_))
          refine Rn.nil ⟨rfl,?_⟩
          replace h:=si h; subst h
          exact Qj [67] ⟨(kPtr rfl),(kPtr rfl),(sm rfl),(kPtr rfl),(sm rfl),(sm rfl),tv⟩ ⟨⟨_,rfl,rfl,(.same rfl)⟩,⟨_,rfl,rfl,(.same rfl)⟩,⟨_,rfl,rfl,(.same rfl)⟩,tv⟩ rfl
         ·replace h:=ifF hb32 h
          refine Tr.skip ?_
          replace h:=si h; subst h
          exact Qj [] ⟨(kPtr rfl),(kPtr rfl),(sm rfl),(kPtr rfl),(sm rfl),(sm rfl),tv⟩ ⟨⟨_,rfl,rfl,(.same rfl)⟩,⟨_,rfl,rfl,(.same rfl)⟩,⟨_,rfl,rfl,(.same rfl)⟩,tv⟩ rfl
        ·obtain ⟨out39,rfl⟩ : ∃ x,x = z:=⟨_,rfl⟩
         refine Tr.rgn (md rfl (Rn.bin tv rfl rfl rfl (md rfl (Rn.nil ?_))))
         exact ⟨_,h,(by exact Ql ⟨(kPtr rfl),(kPtr rfl),(sm rfl),(kPtr rfl),(sm rfl),(sm rfl),tv⟩ ⟨⟨_,rfl,rfl,(.same rfl)⟩,⟨_,rfl,rfl,(.same rfl)⟩,⟨_,rfl,rfl,(.same rfl)⟩,tv⟩ rfl)⟩
       ·replace h:=ifF hb25 h
        refine Tr.exit ?_
        replace h:=si h; subst h
        exact Qj [] ⟨(kPtr rfl),(kPtr rfl),(sm rfl),(kPtr rfl),(sm rfl),tv⟩ ⟨⟨_,rfl,rfl,(.same rfl)⟩,⟨_,rfl,rfl,(.same rfl)⟩,⟨_,rfl,rfl,(.same rfl)⟩,tv⟩ rfl
    ·obtain ⟨out40,out41⟩:=z
     refine Tr.rgn (md rfl (Rn.bin tv rfl rfl rfl (md rfl (Rn.nil ?_))))
     exact ⟨_,h,(by exact Ql ⟨(kPtr rfl),(kPtr rfl),(sm rfl),(kPtr rfl),(sm rfl),tv⟩ ⟨⟨_,rfl,rfl,(.same rfl)⟩,⟨_,rfl,rfl,(.same rfl)⟩,⟨_,rfl,rfl,(.same rfl)⟩,tv⟩ rfl)⟩
   ·replace h:=ifF hb13 h
    refine Tr.exit ?_
    replace h:=si h; subst h
    exact Qj [] ⟨(kPtr rfl),(kPtr rfl),tv⟩ ⟨⟨_,rfl,rfl,(.same rfl)⟩,⟨_,rfl,rfl,(.same rfl)⟩,⟨_,rfl,rfl,(.same rfl)⟩,tv⟩ rfl
 ·obtain ⟨c42,c43,c44,out45,out46⟩:=z
  refine sr ((Rn.load (v:=.agg [(l_ x5.Alphabet),(i_ (x3.length:Int)),(l_ out45),.d (.lst 3 (List.map Qc out46))]) tv rfl (Qm rfl) rfl rfl (Rn.storeT (v:=.agg [(l_ x5.Alphabet),(i_ (x3.length:Int)),(l_ out45),.d (.lst 3 (List.map Qc out46))]) (ds:=[(l_ x5.Alphabet),(i_ (x3.length:Int)),(l_ out45),.d (.lst 3 (List.map Qc out46))]) (cs':=[(l_ x5.Alphabet),(i_ (x3.length:Int)),(l_ out45),.d (.lst 3 (List.map Qc out46))]) tv rfl rfl rfl rfl rfl rfl rfl (nt ((Tr.ret ?_))))))
  replace h:=si h; subst h
  exact ⟨.inr rfl,(.agg [(l_ x5.Alphabet),(i_ (x3.length:Int)),(l_ out45),.d (.lst 3 (List.map Qc out46))]),Qif rfl rfl rfl rfl,fun _ _ _ _ h=>h,⟨tv,tv,tv,tv,tv⟩,fun k hk=>Qf hk⟩
theorem Qyh {P:Program} {c:Nat} {Q9:(List Int)→Option Qb} {Qbr:Qb→Option Qb}
    (H_overseerref03_Empty:Qfl P 36 Q9)
    (H_overseerref03_Canonical:Qfy P 37 Qbr) (hcf:Qu P c = some Qip) (fuel:Nat):Qf6 P c (Qbg Q9 Qbr fuel):=by
 intro alphabet1 g2 r h
 refine Qcf hcf rfl fun Γ M hP hnt hM=>?_
 subst hP
 refine Tr.init [(0,(l_ alphabet1)),(1,.agg [.d (.int .u8 g2.States),.d (.int .u8 g2.Marks),.d (.int .u8 g2.To.1.1),.d (.int .u8 g2.To.1.2.1),.d (.int .u8 g2.To.1.2.2.1),.d (.int .u8 g2.To.1.2.2.2.1),.d (.int .u8 g2.To.1.2.2.2.2),.d (.int .u8 g2.To.2.1.1),.d (.int .u8 g2.To.2.1.2.1),.d (.int .u8 g2.To.2.1.2.2.1),.d (.int .u8 g2.To.2.1.2.2.2.1),.d (.int .u8 g2.To.2.1.2.2.2.2),.d (.int .u8 g2.To.2.2.1.1),.d (.int .u8 g2.To.2.2.1.2.1),.d (.int .u8 g2.To.2.2.1.2.2.1),.d (.int .u8 g2.To.2.2.1.2.2.2.1),.d (.int .u8 g2.To.2.2.1.2.2.2.2),.d (.int .u8 g2.To.2.2.2.1.1),.d (.int .u8 g2.To.2.2.2.1.2.1),.d (.int .u8 g2.To.2.2.2.1.2.2.1),.d (.int .u8 g2.To.2.2.2.1.2.2.2.1),.d (.int .u8 g2.To.2.2.2.1.2.2.2.2),.d (.int .u8 g2.To.2.2.2.2.1),.d (.int .u8 g2.To.2.2.2.2.2.1),.d (.int .u8 g2.To.2.2.2.2.2.2.1),.d (.int .u8 g2.To.2.2.2.2.2.2.2.1),.d (.int .u8 g2.To.2.2.2.2.2.2.2.2)])] rfl ?_
 unfold Qbg at h
 unfold Qip
 refine sr ((Rn.box (v:=.agg [.d (.int .u8 g2.States),.d (.int .u8 g2.Marks),.d (.int .u8 g2.To.1.1),.d (.int .u8 g2.To.1.2.1),.d (.int .u8 g2.To.1.2.2.1),.d (.int .u8 g2.To.1.2.2.2.1),.d (.int .u8 g2.To.1.2.2.2.2),.d (.int .u8 g2.To.2.1.1),.d (.int .u8 g2.To.2.1.2.1),.d (.int .u8 g2.To.2.1.2.2.1),.d (.int .u8 g2.To.2.1.2.2.2.1),.d (.int .u8 g2.To.2.1.2.2.2.2),.d (.int .u8 g2.To.2.2.1.1),.d (.int .u8 g2.To.2.2.1.2.1),.d (.int .u8 g2.To.2.2.1.2.2.1),.d (.int .u8 g2.To.2.2.1.2.2.2.1),.d (.int .u8 g2.To.2.2.1.2.2.2.2),.d (.int .u8 g2.To.2.2.2.1.1),.d (.int .u8 g2.To.2.2.2.1.2.1),.d (.int .u8 g2.To.2.2.2.1.2.2.1),.d (.int .u8 g2.To.2.2.2.1.2.2.2.1),.d (.int .u8 g2.To.2.2.2.1.2.2.2.2),.d (.int .u8 g2.To.2.2.2.2.1),.d (.int .u8 g2.To.2.2.2.2.2.1),.d (.int .u8 g2.To.2.2.2.2.2.2.1),.d (.int .u8 g2.To.2.2.2.2.2.2.2.1),.d (.int .u8 g2.To.2.2.2.2.2.2.2.2)]) (cs:=[.d (.int .u8 g2.States),.d (.int .u8 g2.Marks),.d (.int .u8 g2.To.1.1),.d (.int .u8 g2.To.1.2.1),.d (.int .u8 g2.To.1.2.2.1),.d (.int .u8 g2.To.1.2.2.2.1),.d (.int .u8 g2.To.1.2.2.2.2),.d (.int .u8 g2.To.2.1.1),.d (.int .u8 g2.To.2.1.2.1),.d (.int .u8 g2.To.2.1.2.2.1),.d (.int .u8 g2.To.2.1.2.2.2.1),.d (.int .u8 g2.To.2.1.2.2.2.2),.d (.int .u8 g2.To.2.2.1.1),.d (.int .u8 g2.To.2.2.1.2.1),.d (.int .u8 g2.To.2.2.1.2.2.1),.d (.int .u8 g2.To.2.2.1.2.2.2.1),.d (.int .u8 g2.To.2.2.1.2.2.2.2),.d (.int .u8 g2.To.2.2.2.1.1),.d (.int .u8 g2.To.2.2.2.1.2.1),.d (.int .u8 g2.To.2.2.2.1.2.2.1),.d (.int .u8 g2.To.2.2.2.1.2.2.2.1),.d (.int .u8 g2.To.2.2.2.1.2.2.2.2),.d (.int .u8 g2.To.2.2.2.2.1),.d (.int .u8 g2.To.2.2.2.2.2.1),.d (.int .u8 g2.To.2.2.2.2.2.2.1),.d (.int .u8 g2.To.2.2.2.2.2.2.2.1),.d (.int .u8 g2.To.2.2.2.2.2.2.2.2)]) tv rfl rfl rfl rfl rfl (Rn.alloc tv rfl (nt ((Tr.seq (sr ((Rn.fldP (o':=0) tv rfl rfl (Rn.load (v:=.d (.int .u8 g2.States)) tv rfl (Qm rfl) rfl rfl (Rn.bin tv rfl rfl rfl (Rn.nil (toN ?_)))))))))))))
 refine Tr.cond rfl (fun hb3=>?_) (fun hb3=>?_)
 ·replace h:=ifT hb3 h
  refine sr ((md rfl ?_))
  obtain ⟨x5,h4,h⟩:=bnd h
  refine Rn.call (args:=[(l_ alphabet1)]) tv rfl (H_overseerref03_Empty _ _ h4) pc9 (Rn.storeT (v:=.agg [(l_ x5.Alphabet),(i_ x5.States),.nils 1,.nils 3]) (ds:=[(l_ x5.Alphabet),(i_ x5.States),.nils 1,.nils 3]) (cs':=[(l_ x5.Alphabet),(i_ x5.States),.nils 1,.nils 3]) tv rfl rfl rfl rfl rfl rfl rfl (nt ((Tr.ret ?_))))
  replace h:=si h; subst h
  exact ⟨.inr rfl,(.agg [(l_ x5.Alphabet),(i_ x5.States),.nils 1,.nils 3]),Qif rfl rfl rfl rfl,(WkV.agg (.cons (.same rfl) (.cons (.same rfl) (.cons (WkV.nilsD _) (.cons (WkV.nilsD _) .nil))))).rd,⟨tv,tv,tv,tv,tv⟩,fun k hk=>Qf hk⟩
 ·replace h:=ifF hb3 h
  refine Tr.skip (toN (sr ((md rfl ?_))))
  obtain ⟨x7,h6,h⟩:=bnd h
  refine Rn.call (args:=[(l_ alphabet1)]) tv rfl (H_overseerref03_Empty _ _ h6) pc9 (Rn.alloc tv rfl (Rn.storeT (v:=.agg [(l_ x7.Alphabet),(i_ x7.States),.nils 1,.nils 3]) (ds:=[(l_ x7.Alphabet),(i_ x7.States),.nils 1,.nils 3]) (cs':=[(l_ x7.Alphabet),(i_ x7.States),.nils 1,.nils 3]) tv rfl rfl rfl rfl rfl rfl rfl (nt ((sr ((Rn.fldP (o':=0) tv rfl rfl (Rn.load (v:=.d (.int .u8 g2.States)) tv rfl (Qm rfl) rfl rfl (Rn.bin tv rfl rfl rfl (Rn.conv tv rfl (Rn.bin tv rfl rfl rfl (Rn.fldP (o':=1) tv rfl rfl (Rn.store (v:=(i_ (IntKind.wrap .i64 (1 + (IntKind.wrap .i64 (Int.tmod g2.States 5)))))) (cs':=[(l_ x7.Alphabet),(i_ (IntKind.wrap .i64 (1 + (IntKind.wrap .i64 (Int.tmod g2.States 5))))),.nils 1,.nils 3]) tv rfl rfl rfl rfl rfl rfl (Rn.nil (toN ?_)))))))))))))))
  refine Tr.cutB (fun ((c43,c44,c45,a46,a47,a48):(List Int)×(List Int)×(List Qe)×Int×(List Int)×(List Qe))=>⟨look [(4,.ptr (Γ.n0 + 4) 0),(5,.ptr (Γ.n0 + 5) 0)],Qp Γ.n0 (bxs [(3,.cells ([.d (.int .u8 g2.States),.d (.int .u8 g2.Marks),.d (.int .u8 g2.To.1.1),.d (.int .u8 g2.To.1.2.1),.d (.int .u8 g2.To.1.2.2.1),.d (.int .u8 g2.To.1.2.2.2.1),.d (.int .u8 g2.To.1.2.2.2.2),.d (.int .u8 g2.To.2.1.1),.d (.int .u8 g2.To.2.1.2.1),.d (.int .u8 g2.To.2.1.2.2.1),.d (.int .u8 g2.To.2.1.2.2.2.1),.d (.int .u8 g2.To.2.1.2.2.2.2),.d (.int .u8 g2.To.2.2.1.1),.d (.int .u8 g2.To.2.2.1.2.1),.d (.int .u8 g2.To.2.2.1.2.2.1),.d (.int .u8 g2.To.2.2.1.2.2.2.1),.d (.int .u8 g2.To.2.2.1.2.2.2.2),.d (.int .u8 g2.To.2.2.2.1.1),.d (.int .u8 g2.To.2.2.2.1.2.1),.d (.int .u8 g2.To.2.2.2.1.2.2.1),.d (.int .u8 g2.To.2.2.2.1.2.2.2.1),.d (.int .u8 g2.To.2.2.2.1.2.2.2.2),.d (.int .u8 g2.To.2.2.2.2.1),.d (.int .u8 g2.To.2.2.2.2.2.1),.d (.int .u8 g2.To.2.2.2.2.2.2.1),.d (.int .u8 g2.To.2.2.2.2.2.2.2.1),.d (.int .u8 g2.To.2.2.2.2.2.2.2.2)])),(4,.cells ([(o_ c43),(i_ 0),(o_ c44),.own 3 (List.map Qc c45)])),(5,.cells ([(l_ x7.Alphabet),(i_ a46),(o_ a47),.own 3 (List.map Qc a48)]))]) M,Γ.n0 + 79⟩) h (fun z h=>?_) (fun z h=>?_)
  ·refine sr ((md rfl (nt ((Tr.block ?_)))))
   refine Tr.loop (mk:=fun ((i8,c9,c10,c11,a12,a13,a14):Int×(List Int)×(List Int)×(List Qe)×Int×(List Int)×(List Qe))=>⟨look [(0,(l_ alphabet1)),(3,.ptr (Γ.n0 + 3) 0),(4,.ptr (Γ.n0 + 4) 0),(5,.ptr (Γ.n0 + 5) 0),(6,(i_ i8))],Qp Γ.n0 (bxs [(3,.cells ([.d (.int .u8 g2.States),.d (.int .u8 g2.Marks),.d (.int .u8 g2.To.1.1),.d (.int .u8 g2.To.1.2.1),.d (.int .u8 g2.To.1.2.2.1),.d (.int .u8 g2.To.1.2.2.2.1),.d (.int .u8 g2.To.1.2.2.2.2),.d (.int .u8 g2.To.2.1.1),.d (.int .u8 g2.To.2.1.2.1),.d (.int .u8 g2.To.2.1.2.2.1),.d (.int .u8 g2.To.2.1.2.2.2.1),.d (.int .u8 g2.To.2.1.2.2.2.2),.d (.int .u8 g2.To.2.2.1.1),.d (.int .u8 g2.To.2.2.1.2.1),.d (.int .u8 g2.To.2.2.1.2.2.1),.d (.int .u8 g2.To.2.2.1.2.2.2.1),.d (.int .u8 g2.To.2.2.1.2.2.2.2),.d (.int .u8 g2.To.2.2.2.1.1),.d (.int .u8 g2.To.2.2.2.1.2.1),.d (.int .u8 g2.To.2.2.2.1.2.2.1),.d (.int .u8 g2.To.2.2.2.1.2.2.2.1),.d (.int .u8 g2.To.2.2.2.1.2.2.2.2),.d (.int .u8 g2.To.2.2.2.2.1),.d (.int .u8 g2.To.2.2.2.2.2.1),.d (.int .u8 g2.To.2.2.2.2.2.2.1),.d (.int .u8 g2.To.2.2.2.2.2.2.2.1),.d (.int .u8 g2.To.2.2.2.2.2.2.2.2)])),(4,.cells ([(o_ c9),(i_ 0),(o_ c10),.own 3 (List.map Qc c11)])),(5,.cells ([(l_ x7.Alphabet),(i_ a12),(o_ a13),.own 3 (List.map Qc a14)]))]) M,Γ.n0 + 79⟩) h (by exact Ql ⟨(sm rfl),(kPtr rfl),(kPtr rfl),(kPtr rfl),(sm rfl),tv⟩ ⟨⟨_,rfl,rfl,(.same rfl)⟩,⟨_,rfl,rfl,(.cons (WkV.nilsO _) (.cons (sm rfl) (.cons (WkV.nilsO _) (.cons (WkV.nilsO _) .nil))))⟩,⟨_,rfl,rfl,(.cons (sm rfl) (.cons (sm rfl) (.cons (WkV.nilsO _) (.cons (WkV.nilsO _) .nil))))⟩,tv⟩ rfl) (fun k15 z h=>?_)
   ·obtain ⟨i8,c9,c10,c11,a12,a13,a14⟩:=z
    replace h:_ = some _:=h
    refine Tr.seq (sr ((md rfl (Rn.fldP (o':=1) tv rfl rfl (Rn.load (v:=(i_ a12)) tv rfl (Qm rfl) rfl rfl (Rn.bin tv rfl rfl rfl (Rn.nil (toN ?_))))))))
    refine Tr.cond rfl (fun hb16=>?_) (fun hb16=>?_)
    ·replace h:=ifT hb16 h
     refine Tr.skip (toN ?_)
     refine Tr.cutB (fun ((a41,a42):(List Int)×(List Qe))=>⟨look [(0,(l_ alphabet1)),(3,.ptr (Γ.n0 + 3) 0),(4,.ptr (Γ.n0 + 4) 0),(5,.ptr (Γ.n0 + 5) 0),(6,(i_ i8))],Qp Γ.n0 (bxs [(3,.cells ([.d (.int .u8 g2.States),.d (.int .u8 g2.Marks),.d (.int .u8 g2.To.1.1),.d (.int .u8 g2.To.1.2.1),.d (.int .u8 g2.To.1.2.2.1),.d (.int .u8 g2.To.1.2.2.2.1),.d (.int .u8 g2.To.1.2.2.2.2),.d (.int .u8 g2.To.2.1.1),.d (.int .u8 g2.To.2.1.2.1),.d (.int .u8 g2.To.2.1.2.2.1),.d (.int .u8 g2.To.2.1.2.2.2.1),.d (.int .u8 g2.To.2.1.2.2.2.2),.d (.int .u8 g2.To.2.2.1.1),.d (.int .u8 g2.To.2.2.1.2.1),.d (.int .u8 g2.To.2.2.1.2.2.1),.d (.int .u8 g2.To.2.2.1.2.2.2.1),.d (.int .u8 g2.To.2.2.1.2.2.2.2),.d (.int .u8 g2.To.2.2.2.1.1),.d (.int .u8 g2.To.2.2.2.1.2.1),.d (.int .u8 g2.To.2.2.2.1.2.2.1),.d (.int .u8 g2.To.2.2.2.1.2.2.2.1),.d (.int .u8 g2.To.2.2.2.1.2.2.2.2),.d (.int .u8 g2.To.2.2.2.2.1),.d (.int .u8 g2.To.2.2.2.2.2.1),.d (.int .u8 g2.To.2.2.2.2.2.2.1),.d (.int .u8 g2.To.2.2.2.2.2.2.2.1),.d (.int .u8 g2.To.2.2.2.2.2.2.2.2)])),(4,.cells ([(o_ c9),(i_ 0),(o_ c10),.own 3 (List.map Qc c11)])),(5,.cells ([(l_ x7.Alphabet),(i_ a12),(o_ a41),.own 3 (List.map Qc a42)]))]) M,Γ.n0 + 79⟩) h (fun z h=>?_) (fun z h=>?_)
     ·refine Tr.block ?_
      refine Tr.cutB (fun (a22:List Int)=>⟨look [(0,(l_ alphabet1)),(3,.ptr (Γ.n0 + 3) 0),(4,.ptr (Γ.n0 + 4) 0),(5,.ptr (Γ.n0 + 5) 0),(6,(i_ i8))],Qp Γ.n0 (bxs [(3,.cells ([.d (.int .u8 g2.States),.d (.int .u8 g2.Marks),.d (.int .u8 g2.To.1.1),.d (.int .u8 g2.To.1.2.1),.d (.int .u8 g2.To.1.2.2.1),.d (.int .u8 g2.To.1.2.2.2.1),.d (.int .u8 g2.To.1.2.2.2.2),.d (.int .u8 g2.To.2.1.1),.d (.int .u8 g2.To.2.1.2.1),.d (.int .u8 g2.To.2.1.2.2.1),.d (.int .u8 g2.To.2.1.2.2.2.1),.d (.int .u8 g2.To.2.1.2.2.2.2),.d (.int .u8 g2.To.2.2.1.1),.d (.int .u8 g2.To.2.2.1.2.1),.d (.int .u8 g2.To.2.2.1.2.2.1),.d (.int .u8 g2.To.2.2.1.2.2.2.1),.d (.int .u8 g2.To.2.2.1.2.2.2.2),.d (.int .u8 g2.To.2.2.2.1.1),.d (.int .u8 g2.To.2.2.2.1.2.1),.d (.int .u8 g2.To.2.2.2.1.2.2.1),.d (.int .u8 g2.To.2.2.2.1.2.2.2.1),.d (.int .u8 g2.To.2.2.2.1.2.2.2.2),.d (.int .u8 g2.To.2.2.2.2.1),.d (.int .u8 g2.To.2.2.2.2.2.1),.d (.int .u8 g2.To.2.2.2.2.2.2.1),.d (.int .u8 g2.To.2.2.2.2.2.2.2.1),.d (.int .u8 g2.To.2.2.2.2.2.2.2.2)])),(4,.cells ([(o_ c9),(i_ 0),(o_ c10),.own 3 (List.map Qc c11)])),(5,.cells ([(l_ x7.Alphabet),(i_ a12),(o_ a22),.own 3 (List.map Qc a14)]))]) M,Γ.n0 + 79⟩) h (fun z h=>?_) (fun z h=>?_)
      ·refine sr ((Rn.fldP (o':=1) tv rfl rfl (Rn.load (v:=.d (.int .u8 g2.Marks)) tv rfl (Qm rfl) rfl rfl (md rfl ?_))))
       obtain ⟨s17,h18,h⟩:=bnd h
       refine Rn.bin tv rfl rfl (Qblf h18) (Rn.bin tv rfl rfl rfl (Rn.bin tv rfl rfl rfl (Rn.nil (toN ?_))))
       refine Tr.cond rfl (fun hb19=>?_) (fun hb19=>?_)
       ·replace h:=bT hb19 h
        refine Tr.rgn (Rn.fldP (o':=2) tv rfl rfl (Rn.loadT (cs':=[(l_ x7.Alphabet),(i_ a12),(l_ a13),.own 3 (List.map Qc a14)]) tv rfl rfl rfl rfl (md rfl (Rn.bslice (xs:=[(i_ i8)]) (cs:=[(i_ i8)]) tv rfl rfl rfl rfl ?_))))
        obtain ⟨x20,h21,h⟩:=bnd h
        refine Rn.app (e:=(eI .i64)) tv rfl rfl rfl (Qcm rfl rfl rfl) h21 rfl (Rn.fldP (o':=2) tv rfl rfl (Rn.storeO (cs':=[(l_ x7.Alphabet),(i_ a12),(o_ x20),.own 3 (List.map Qc a14)]) tv rfl rfl rfl rfl rfl (Rn.nil ?_)))
        replace h:=si h; subst h
        exact Qj [37] ⟨(sm rfl),(kPtr rfl),(kPtr rfl),(kPtr rfl),(sm rfl),tv⟩ ⟨⟨_,rfl,rfl,(.same rfl)⟩,⟨_,rfl,rfl,(.same rfl)⟩,⟨_,rfl,rfl,(.same rfl)⟩,tv⟩ rfl
       ·replace h:=bF hb19 h
        refine Tr.skip ?_
        replace h:=si h; subst h
        exact Qj [] ⟨(sm rfl),(kPtr rfl),(kPtr rfl),(kPtr rfl),(sm rfl),tv⟩ ⟨⟨_,rfl,rfl,(.same rfl)⟩,⟨_,rfl,rfl,(.same rfl)⟩,⟨_,rfl,rfl,(.same rfl)⟩,tv⟩ rfl
      ·obtain ⟨a22,rfl⟩ : ∃ x,x = z:=⟨_,rfl⟩
       refine sr ((md rfl (nt ((Tr.block ?_)))))
       refine Tr.loop (mk:=fun ((k23,a24):Int×(List Qe))=>⟨look [(0,(l_ alphabet1)),(3,.ptr (Γ.n0 + 3) 0),(4,.ptr (Γ.n0 + 4) 0),(5,.ptr (Γ.n0 + 5) 0),(6,(i_ i8)),(7,(i_ k23))],Qp Γ.n0 (bxs [(3,.cells ([.d (.int .u8 g2.States),.d (.int .u8 g2.Marks),.d (.int .u8 g2.To.1.1),.d (.int .u8 g2.To.1.2.1),.d (.int .u8 g2.To.1.2.2.1),.d (.int .u8 g2.To.1.2.2.2.1),.d (.int .u8 g2.To.1.2.2.2.2),.d (.int .u8 g2.To.2.1.1),.d (.int .u8 g2.To.2.1.2.1),.d (.int .u8 g2.To.2.1.2.2.1),.d (.int .u8 g2.To.2.1.2.2.2.1),.d (.int .u8 g2.To.2.1.2.2.2.2),.d (.int .u8 g2.To.2.2.1.1),.d (.int .u8 g2.To.2.2.1.2.1),.d (.int .u8 g2.To.2.2.1.2.2.1),.d (.int .u8 g2.To.2.2.1.2.2.2.1),.d (.int .u8 g2.To.2.2.1.2.2.2.2),.d (.int .u8 g2.To.2.2.2.1.1),.d (.int .u8 g2.To.2.2.2.1.2.1),.d (.int .u8 g2.To.2.2.2.1.2.2.1),.d (.int .u8 g2.To.2.2.2.1.2.2.2.1),.d (.int .u8 g2.To.2.2.2.1.2.2.2.2),.d (.int .u8 g2.To.2.2.2.2.1),.d (.int .u8 g2.To.2.2.2.2.2.1),.d (.int .u8 g2.To.2.2.2.2.2.2.1),.d (.int .u8 g2.To.2.2.2.2.2.2.2.1),.d (.int .u8 g2.To.2.2.2.2.2.2.2.2)])),(4,.cells ([(o_ c9),(i_ 0),(o_ c10),.own 3 (List.map Qc c11)])),(5,.cells ([(l_ x7.Alphabet),(i_ a12),(o_ a22),.own 3 (List.map Qc a24)]))]) M,Γ.n0 + 79⟩) h (by exact Ql ⟨(sm rfl),(kPtr rfl),(kPtr rfl),(kPtr rfl),(sm rfl),(sm rfl),tv⟩ ⟨⟨_,rfl,rfl,(.same rfl)⟩,⟨_,rfl,rfl,(.same rfl)⟩,⟨_,rfl,rfl,(.same rfl)⟩,tv⟩ rfl) (fun k25 z h=>?_)
       ·obtain ⟨k23,a24⟩:=z
        replace h:_ = some _:=h
        refine Tr.seq ?_
        refine Tr.cutB (fun (x27:Bool)=>⟨look [(0,(l_ alphabet1)),(3,.ptr (Γ.n0 + 3) 0),(4,.ptr (Γ.n0 + 4) 0),(5,.ptr (Γ.n0 + 5) 0),(6,(i_ i8)),(7,(i_ k23)),(47,(b_ x27))],Qp Γ.n0 (bxs [(3,.cells ([.d (.int .u8 g2.States),.d (.int .u8 g2.Marks),.d (.int .u8 g2.To.1.1),.d (.int .u8 g2.To.1.2.1),.d (.int .u8 g2.To.1.2.2.1),.d (.int .u8 g2.To.1.2.2.2.1),.d (.int .u8 g2.To.1.2.2.2.2),.d (.int .u8 g2.To.2.1.1),.d (.int .u8 g2.To.2.1.2.1),.d (.int .u8 g2.To.2.1.2.2.1),.d (.int .u8 g2.To.2.1.2.2.2.1),.d (.int .u8 g2.To.2.1.2.2.2.2),.d (.int .u8 g2.To.2.2.1.1),.d (.int .u8 g2.To.2.2.1.2.1),.d (.int .u8 g2.To.2.2.1.2.2.1),.d (.int .u8 g2.To.2.2.1.2.2.2.1),.d (.int .u8 g2.To.2.2.1.2.2.2.2),.d (.int .u8 g2.To.2.2.2.1.1),.d (.int .u8 g2.To.2.2.2.1.2.1),.d (.int .u8 g2.To.2.2.2.1.2.2.1),.d (.int .u8 g2.To.2.2.2.1.2.2.2.1),.d (.int .u8 g2.To.2.2.2.1.2.2.2.2),.d (.int .u8 g2.To.2.2.2.2.1),.d (.int .u8 g2.To.2.2.2.2.2.1),.d (.int .u8 g2.To.2.2.2.2.2.2.1),.d (.int .u8 g2.To.2.2.2.2.2.2.2.1),.d (.int .u8 g2.To.2.2.2.2.2.2.2.2)])),(4,.cells ([(o_ c9),(i_ 0),(o_ c10),.own 3 (List.map Qc c11)])),(5,.cells ([(l_ x7.Alphabet),(i_ a12),(o_ a22),.own 3 (List.map Qc a24)]))]) M,Γ.n0 + 79⟩) h (fun z h=>?_) (fun z h=>?_)
        ·refine Tr.rgn (md rfl (md rfl (Rn.lenD tv rfl (Rn.bin tv rfl rfl rfl (md rfl ?_)))))
         refine Qc0 (decide (k23 < (alphabet1.length:Int))) (fun hb26=>?_) (fun hb26=>?_)
         ·replace h:=ifT hb26 h
          refine Rn.movD (gw rfl hb26) rfl (Rn.bin (gw rfl hb26) rfl rfl rfl (Rn.pickT (v:=(b_ (decide (k23 < 5)))) tv rfl hb26 rfl (Rn.nil ?_)))
          replace h:=si h; subst h
          exact Qj [] ⟨(sm rfl),(kPtr rfl),(kPtr rfl),(kPtr rfl),(sm rfl),(sm rfl),(sm rfl),tv⟩ ⟨⟨_,rfl,rfl,(.same rfl)⟩,⟨_,rfl,rfl,(.same rfl)⟩,⟨_,rfl,rfl,(.same rfl)⟩,tv⟩ rfl
         ·replace h:=ifF hb26 h
          refine Rn.sk (nw rfl hb26) (Rn.sk (nw rfl hb26) (Rn.pickF (v:=(b_ false)) tv rfl hb26 rfl (Rn.nil ?_)))
          replace h:=si h; subst h
          exact Qj [] ⟨(sm rfl),(kPtr rfl),(kPtr rfl),(kPtr rfl),(sm rfl),(sm rfl),(sm rfl),tv⟩ ⟨⟨_,rfl,rfl,(.same rfl)⟩,⟨_,rfl,rfl,(.same rfl)⟩,⟨_,rfl,rfl,(.same rfl)⟩,tv⟩ rfl
        ·obtain ⟨x27,rfl⟩ : ∃ x,x = z:=⟨_,rfl⟩
         refine Tr.cond rfl (fun hb28=>?_) (fun hb28=>?_)
         ·replace h:=bT hb28 h
          refine Tr.skip (toN ?_)
          refine Tr.cutB (fun (a40:List Qe)=>⟨look [(0,(l_ alphabet1)),(3,.ptr (Γ.n0 + 3) 0),(4,.ptr (Γ.n0 + 4) 0),(5,.ptr (Γ.n0 + 5) 0),(6,(i_ i8)),(7,(i_ k23))],Qp Γ.n0 (bxs [(3,.cells ([.d (.int .u8 g2.States),.d (.int .u8 g2.Marks),.d (.int .u8 g2.To.1.1),.d (.int .u8 g2.To.1.2.1),.d (.int .u8 g2.To.1.2.2.1),.d (.int .u8 g2.To.1.2.2.2.1),.d (.int .u8 g2.To.1.2.2.2.2),.d (.int .u8 g2.To.2.1.1),.d (.int .u8 g2.To.2.1.2.1),.d (.int .u8 g2.To.2.1.2.2.1),.d (.int .u8 g2.To.2.1.2.2.2.1),.d (.int .u8 g2.To.2.1.2.2.2.2),.d (.int .u8 g2.To.2.2.1.1),.d (.int .u8 g2.To.2.2.1.2.1),.d (.int .u8 g2.To.2.2.1.2.2.1),.d (.int .u8 g2.To.2.2.1.2.2.2.1),.d (.int .u8 g2.To.2.2.1.2.2.2.2),.d (.int .u8 g2.To.2.2.2.1.1),.d (.int .u8 g2.To.2.2.2.1.2.1),.d (.int .u8 g2.To.2.2.2.1.2.2.1),.d (.int .u8 g2.To.2.2.2.1.2.2.2.1),.d (.int .u8 g2.To.2.2.2.1.2.2.2.2),.d (.int .u8 g2.To.2.2.2.2.1),.d (.int .u8 g2.To.2.2.2.2.2.1),.d (.int .u8 g2.To.2.2.2.2.2.2.1),.d (.int .u8 g2.To.2.2.2.2.2.2.2.1),.d (.int .u8 g2.To.2.2.2.2.2.2.2.2)])),(4,.cells ([(o_ c9),(i_ 0),(o_ c10),.own 3 (List.map Qc c11)])),(5,.cells ([(l_ x7.Alphabet),(i_ a12),(o_ a22),.own 3 (List.map Qc a40)]))]) M,Γ.n0 + 79⟩) h (fun z h=>?_) (fun z h=>?_)
          ·refine Tr.block (Tr.seq ?_)
           refine Tr.rgnD (by decide) ?_
           refine md rfl (md rfl (Rn.fldP (o':=2) tv rfl rfl ?_))
           obtain ⟨⟨⟩,h29,h⟩:=bnd h
           refine Rn.idxArr (o':=2 + (Int.toNat i8 * 5)) tv rfl rfl rfl h29 ?_
           obtain ⟨⟨⟩,h30,h⟩:=bnd h
           refine Rn.idxArr (o':=2 + (Int.toNat i8 * 5 + Int.toNat k23 * 1)) tv rfl rfl (Nat.add_assoc ..).symm h30 ?_
           obtain ⟨x31,h32,h⟩:=bnd h
           refine Rn.loadArr (e:=(fun (z:Int)=>.int .u8 z)) (pre:=[.d (.int .u8 g2.States),.d (.int .u8 g2.Marks)]) (post:=[]) tv rfl rfl (Qm rfl) rfl rfl h32 (Rn.conv tv rfl (Rn.fldP (o':=1) tv rfl rfl (Rn.load (v:=(i_ a12)) tv rfl (Qm rfl) rfl rfl (Rn.bin tv rfl rfl rfl ?_))))
           obtain ⟨s33,h34,h⟩:=bnd h
           refine Rn.bin tv rfl rfl (Qble h34) (md rfl ?_)
           refine Rn.nil ⟨rfl,?_⟩
           refine toN (sr ((md rfl (Rn.fldP (o':=1) tv rfl rfl (Rn.load (v:=(i_ a12)) tv rfl (Qm rfl) rfl rfl (Rn.bin tv rfl rfl rfl (Rn.nil (toN ?_))))))))
           refine Tr.cond rfl (fun hb35=>?_) (fun hb35=>?_)
           ·replace h:=ifT hb35 h
            refine Tr.rgnD (by decide) ?_
            refine Rn.fldP (o':=3) tv rfl rfl (Rn.loadT (cs':=[(l_ x7.Alphabet),(i_ a12),(o_ a22),.d (.lst 3 (List.map Qc a24))]) tv rfl rfl rfl rfl (md rfl (md rfl (md rfl ?_))))
            obtain ⟨x36,h37,h⟩:=bnd h
            refine Rn.idxD (e:=(eI .i64)) tv rfl rfl h37 (Rn.loadC (x:=.int .i64 x36) tv rfl (md rfl (Rn.build (v:=.agg [(i_ i8),(i_ x36),(i_ s33)]) tv rfl (Rn.bslice (xs:=[.agg [(i_ i8),(i_ x36),(i_ s33)]]) (cs:=[(i_ i8),(i_ x36),(i_ s33)]) tv rfl rfl rfl rfl ?_))))
            obtain ⟨x38,h39,h⟩:=bnd h
            refine Rn.app (e:=Qc) tv rfl rfl rfl (Qcm rfl rfl rfl) h39 rfl (Rn.fldP (o':=3) tv rfl rfl (Rn.storeO (cs':=[(l_ x7.Alphabet),(i_ a12),(o_ a22),.own 3 (List.map Qc x38)]) tv rfl rfl rfl rfl rfl ?_))
            refine Rn.nil ⟨rfl,?_⟩
            replace h:=si h; subst h
            exact Qj [74] ⟨(sm rfl),(kPtr rfl),(kPtr rfl),(kPtr rfl),(sm rfl),(sm rfl),tv⟩ ⟨⟨_,rfl,rfl,(.same rfl)⟩,⟨_,rfl,rfl,(.same rfl)⟩,⟨_,rfl,rfl,(.same rfl)⟩,tv⟩ rfl
           ·replace h:=ifF hb35 h
            refine Tr.skip ?_
            replace h:=si h; subst h
            exact Qj [] ⟨(sm rfl),(kPtr rfl),(kPtr rfl),(kPtr rfl),(sm rfl),(sm rfl),tv⟩ ⟨⟨_,rfl,rfl,(.same rfl)⟩,⟨_,rfl,rfl,(.same rfl)⟩,⟨_,rfl,rfl,(.same rfl)⟩,tv⟩ rfl
          ·obtain ⟨a40,rfl⟩ : ∃ x,x = z:=⟨_,rfl⟩
           refine Tr.rgn (md rfl (Rn.bin tv rfl rfl rfl (md rfl (Rn.nil ?_))))
           exact ⟨_,h,(by exact Ql ⟨(sm rfl),(kPtr rfl),(kPtr rfl),(kPtr rfl),(sm rfl),(sm rfl),tv⟩ ⟨⟨_,rfl,rfl,(.same rfl)⟩,⟨_,rfl,rfl,(.same rfl)⟩,⟨_,rfl,rfl,(.same rfl)⟩,tv⟩ rfl)⟩
         ·replace h:=bF hb28 h
          refine Tr.exit ?_
          replace h:=si h; subst h
          exact Qj [] ⟨(sm rfl),(kPtr rfl),(kPtr rfl),(kPtr rfl),(sm rfl),tv⟩ ⟨⟨_,rfl,rfl,(.same rfl)⟩,⟨_,rfl,rfl,(.same rfl)⟩,⟨_,rfl,rfl,(.same rfl)⟩,tv⟩ rfl
     ·obtain ⟨a41,a42⟩:=z
      refine Tr.rgn (md rfl (Rn.bin tv rfl rfl rfl (md rfl (Rn.nil ?_))))
      exact ⟨_,h,(by exact Ql ⟨(sm rfl),(kPtr rfl),(kPtr rfl),(kPtr rfl),(sm rfl),tv⟩ ⟨⟨_,rfl,rfl,(.same rfl)⟩,⟨_,rfl,rfl,(.same rfl)⟩,⟨_,rfl,rfl,(.same rfl)⟩,tv⟩ rfl)⟩
    ·replace h:=ifF hb16 h
     refine Tr.exit ?_
     replace h:=si h; subst h
     exact Qj [] ⟨(kPtr rfl),(kPtr rfl),tv⟩ ⟨⟨_,rfl,rfl,(.same rfl)⟩,⟨_,rfl,rfl,(.same rfl)⟩,⟨_,rfl,rfl,(.same rfl)⟩,tv⟩ rfl
  ·obtain ⟨c43,c44,c45,a46,a47,a48⟩:=z
   refine sr ((Rn.load (v:=.agg [(l_ x7.Alphabet),(i_ a46),(l_ a47),.d (.lst 3 (List.map Qc a48))]) tv rfl (Qm rfl) rfl rfl ?_))
   obtain ⟨x50,h49,h⟩:=bnd h
   refine Rn.call (args:=[.agg [(l_ x7.Alphabet),(i_ a46),(l_ a47),.d (.lst 3 (List.map Qc a48))]]) tv rfl (H_overseerref03_Canonical _ _ h49) pc9 (Rn.storeT (v:=(Qa x50)) (ds:=(Qd x50)) (cs':=(Qd x50)) tv rfl rfl rfl rfl rfl rfl rfl (nt ((Tr.ret ?_))))
   replace h:=si h; subst h
   exact ⟨.inr rfl,(Qa x50),Qif rfl rfl rfl rfl,fun _ _ _ _ h=>h,⟨tv,tv,tv,tv,tv⟩,fun k hk=>Qf hk⟩
theorem Q56 {P:Program} {c:Nat} {Qs:Qb→Option Int} {Qbl:Qb→Int→Option ((List Qe))} {Q5:(List Int)→Option ((List Int))} {Qg:(List Int)→Int→Option Bool}
    (H_automaton_Check:Qdk P 46 Qs)
    (H_automaton_out:Qho P 54 Qbl)
    (H_slices_Clone_int:Qfj P 55 Q5)
    (H_slices_Contains_int:Qbp P 56 Qg) (hcf:Qu P c = some Qmg) (fuel:Nat):Qib P c (Qbv Qs Qbl Q5 Qg fuel):=by
 intro a1 most2 marked3 r h
 refine Qcf hcf rfl fun Γ M hP hnt hM=>?_
 subst hP
 refine Tr.init [(0,(Qa a1)),(1,(i_ most2)),(2,(b_ marked3))] rfl ?_
 unfold Qbv at h
 unfold Qmg
 refine sr ((Rn.box (v:=(Qa a1)) (cs:=(Qd a1)) tv rfl rfl rfl rfl rfl (Rn.movTC (v:=.nils 1) tv (md rfl (nt ((Tr.seq (sr ((Rn.load (v:=(Qa a1)) tv rfl (Qm rfl) rfl rfl ?_))))))))))
 obtain ⟨x5,h4,h⟩:=bnd h
 refine Rn.call (args:=[(Qa a1)]) tv rfl (H_automaton_Check _ _ h4) pc9 (md rfl (nt ((sr ((md rfl (Rn.bin tv rfl rfl rfl (Rn.nil (toN ?_)))))))))
 refine Tr.cond rfl (fun hb6=>?_) (fun hb6=>?_)
 ·replace h:=bT hb6 h
  refine sr ((md rfl (Rn.movTC (v:=.nils 1) tv (md rfl (nt ((Tr.ret ?_)))))))
  replace h:=si h; subst h
  exact ⟨.inr rfl,.tup [.nils 1,(i_ x5)],res2 rfl rfl,(WkV.tup (.cons (WkV.nilsO _) (.cons (.same rfl) .nil))).rd,⟨tv,tv,tv⟩,fun k hk=>Qf hk⟩
 ·replace h:=bF hb6 h
  refine Tr.skip (toN (Tr.seq ?_))
  refine Tr.cutB (fun (x8:Bool)=>⟨look [(1,(i_ most2)),(2,(b_ marked3)),(3,.ptr (Γ.n0 + 3) 0),(26,(b_ x8))],Qp Γ.n0 (bxs [(3,.cells ((Qd a1)))]) M,Γ.n0 + 102⟩) h (fun z h=>?_) (fun z h=>?_)
  ·refine Tr.rgn (md rfl (Rn.bin tv rfl rfl rfl (md rfl ?_)))
   refine Qc0 (decide (most2 < 0)) (fun hb7=>?_) (fun hb7=>?_)
   ·replace h:=ifT hb7 h
    refine Rn.sk (nw rfl hb7) (Rn.sk (nw rfl hb7) (Rn.pickT (v:=(b_ true)) tv rfl hb7 rfl (Rn.nil ?_)))
    replace h:=si h; subst h
    exact Qj [] ⟨(sm rfl),(sm rfl),(kPtr rfl),(sm rfl),tv⟩ ⟨⟨_,rfl,rfl,(.same rfl)⟩,tv⟩ rfl
   ·replace h:=ifF hb7 h
    refine Rn.movD (gw rfl hb7) rfl (Rn.bin (gw rfl hb7) rfl rfl rfl (Rn.pickF (v:=(b_ (decide (most2 > 4096)))) tv rfl hb7 rfl (Rn.nil ?_)))
    replace h:=si h; subst h
    exact Qj [] ⟨(sm rfl),(sm rfl),(kPtr rfl),(sm rfl),tv⟩ ⟨⟨_,rfl,rfl,(.same rfl)⟩,tv⟩ rfl
  ·obtain ⟨x8,rfl⟩ : ∃ x,x = z:=⟨_,rfl⟩
   refine Tr.cond rfl (fun hb9=>?_) (fun hb9=>?_)
   ·replace h:=bT hb9 h
    refine sr ((Rn.movTC (v:=.nils 1) tv (md rfl (nt ((Tr.ret ?_))))))
    replace h:=si h; subst h
    exact ⟨.inr rfl,.tup [.nils 1,(i_ 2)],res2 rfl rfl,(WkV.tup (.cons (WkV.nilsO _) (.cons (.same rfl) .nil))).rd,⟨tv,tv,tv⟩,fun k hk=>Qf hk⟩
   ·replace h:=bF hb9 h
    refine Tr.skip (toN (Tr.seq (sr ((Rn.fldP (o':=1) tv rfl rfl (Rn.load (v:=(i_ a1.States)) tv rfl (Qm rfl) rfl rfl (Rn.bin tv rfl rfl rfl (Rn.nil (toN ?_)))))))))
    refine Tr.cond rfl (fun hb10=>?_) (fun hb10=>?_)
    ·replace h:=bT hb10 h
     refine sr ((Rn.movTC (v:=.nils 1) tv (md rfl (nt ((Tr.ret ?_))))))
     replace h:=si h; subst h
     exact ⟨.inr rfl,.tup [.nils 1,(i_ 0)],res2 rfl rfl,(WkV.tup (.cons (WkV.nilsO _) (.cons (.same rfl) .nil))).rd,⟨tv,tv,tv⟩,fun k hk=>Qf hk⟩
    ·replace h:=bF hb10 h
     refine Tr.skip (toN (sr ((Rn.build (v:=.agg [.nils 1,(i_ 0)]) tv rfl (Rn.bslice (xs:=[.agg [.nils 1,(i_ 0)]]) (cs:=[.nils 1,(i_ 0)]) tv rfl rfl rfl rfl (Rn.movTF (v:=.sl 2 (Γ.n0 + 31) 0 1 1) tv rfl rfl (Rn.nil (toN ?_))))))))
     refine Tr.cutJ (fun (all38:List Qo)=>⟨look [(2,(b_ marked3)),(3,.ptr (Γ.n0 + 3) 0),(9,.own 2 (List.map Qbb all38))],Qp Γ.n0 (bxs [(3,.cells ((Qd a1)))]) M,Γ.n0 + 102⟩) h (fun J58 h=>?_) (fun z h=>?_)
     ·refine sr ((md rfl (nt ((Tr.block ?_)))))
      refine Tr.weak (by show WeakSt Γ _ ⟨look ((9,.own 2 (List.map Qbb ([(Qo.mk [] 0)]))) :: [(1,(i_ most2)),(2,(b_ marked3)),(3,.ptr (Γ.n0 + 3) 0),(10,(i_ 0)),(26,(b_ x8)),(27,.ptr (Γ.n0 + 3) 1),(28,(i_ a1.States)),(29,(b_ (a1.States == 0))),(30,.agg [.nils 1,(i_ 0)])] ),Qp Γ.n0 (bxs [(3,.cells ((Qd a1)))]) M,Γ.n0 + 102⟩; exact Q8y 31 9 [.lst 1 [],.int .i64 0] rfl rfl rfl rfl rfl ⟨(sm rfl),(sm rfl),(kPtr rfl),(sm rfl),(sm rfl),(kPtr rfl),(sm rfl),(sm rfl),(sm rfl),tv⟩ ⟨⟨_,rfl,rfl,(.same rfl)⟩,tv⟩ rfl) ?_
      refine Tr.loop (mk:=fun ((all11,i12):(List Qo)×Int)=>⟨look [(1,(i_ most2)),(2,(b_ marked3)),(3,.ptr (Γ.n0 + 3) 0),(9,.own 2 (List.map Qbb all11)),(10,(i_ i12))],Qp Γ.n0 (bxs [(3,.cells ((Qd a1)))]) M,Γ.n0 + 102⟩) h (by exact Ql ⟨(sm rfl),(sm rfl),(kPtr rfl),(sm rfl),(sm rfl),tv⟩ ⟨⟨_,rfl,rfl,(.same rfl)⟩,tv⟩ rfl) (fun k13 z h=>?_)
      ·obtain ⟨all11,i12⟩:=z
       replace h:_ = some _:=h
       refine Tr.seq (sr ((md rfl (Rn.mov (v:=.d (.lst 2 (List.map Qbb all11))) tv rfl (Rn.lenD tv rfl (Rn.bin tv rfl rfl rfl (Rn.nil (toN ?_))))))))
       refine Tr.cond rfl (fun hb14=>?_) (fun hb14=>?_)
       ·replace h:=ifT hb14 h
        refine Tr.skip (toN (Tr.seq (Tr.block (Tr.seq (sr ((Rn.mov (v:=.d (.lst 2 (List.map Qbb all11))) tv rfl (md rfl ?_))))))))
        obtain ⟨x15,h16,h⟩:=bnd h
        refine Rn.idxD (e:=Qbb) tv rfl rfl h16 (Rn.fldC tv rfl (Rn.loadC (x:=.lst 1 (List.map (eI .i64) x15.word_)) tv rfl (Rn.lenD tv rfl (md rfl (Rn.bin tv rfl rfl rfl (Rn.nil (toN ?_)))))))
        refine Tr.cond rfl (fun hb17=>?_) (fun hb17=>?_)
        ·replace h:=bT hb17 h
         refine Tr.exit ?_
         exact ⟨_,h,(by exact Qj [] ⟨(sm rfl),(kPtr rfl),(sm rfl),tv⟩ ⟨⟨_,rfl,rfl,(.same rfl)⟩,tv⟩ rfl)⟩
        ·replace h:=bF hb17 h
         refine Tr.skip (toN ?_)
         refine Tr.cutB (fun (all36:List Qo)=>⟨look [(1,(i_ most2)),(2,(b_ marked3)),(3,.ptr (Γ.n0 + 3) 0),(9,.own 2 (List.map Qbb all36)),(10,(i_ i12))],Qp Γ.n0 (bxs [(3,.cells ((Qd a1)))]) M,Γ.n0 + 102⟩) h (fun z h=>?_) (fun z h=>?_)
         ·refine Tr.seq ?_
          refine Tr.rgnD (by decide) ?_
          refine Rn.load (v:=(Qa a1)) tv rfl (Qm rfl) rfl rfl (Rn.mov (v:=.d (.lst 2 (List.map Qbb all11))) tv rfl (md rfl ?_))
          obtain ⟨x18,h19,h⟩:=bnd h
          refine Rn.idxD (e:=Qbb) tv rfl rfl h19 (Rn.fldC tv rfl (Rn.loadC (x:=.int .i64 x18.state_) tv rfl ?_))
          obtain ⟨x21,h20,h⟩:=bnd h
          refine Rn.call (args:=[(Qa a1),(i_ x18.state_)]) tv rfl (H_automaton_out _ _ _ h20) pc0 (Rn.lenD tv rfl (md rfl ?_))
          refine Rn.nil ⟨rfl,?_⟩
          refine toN (Tr.block ?_)
          refine Tr.loop (mk:=fun ((all22,x23):(List Qo)×Int)=>⟨look [(1,(i_ most2)),(2,(b_ marked3)),(3,.ptr (Γ.n0 + 3) 0),(9,.own 2 (List.map Qbb all22)),(10,(i_ i12)),(52,.d (.lst 3 (List.map Qc x21))),(53,(i_ (x21.length:Int))),(54,(i_ x23))],Qp Γ.n0 (bxs [(3,.cells ((Qd a1)))]) M,Γ.n0 + 102⟩) h (by exact Ql ⟨(sm rfl),(sm rfl),(kPtr rfl),(sm rfl),(sm rfl),(sm rfl),(sm rfl),(sm rfl),tv⟩ ⟨⟨_,rfl,rfl,(.same rfl)⟩,tv⟩ rfl) (fun k24 z h=>?_)
          ·obtain ⟨all22,x23⟩:=z
           replace h:_ = some _:=h
           refine sr ((Rn.bin tv rfl rfl rfl (nt ((Tr.seq ?_)))))
           refine Tr.cond rfl (fun hb25=>?_) (fun hb25=>?_)
           ·replace h:=ifT hb25 h
            refine Tr.skip (toN (Tr.seq (Tr.block (Tr.seq (Tr.rgn ?_)))))
            obtain ⟨x26,h27,h⟩:=bnd h
            refine Rn.idxD (e:=Qc) tv rfl rfl h27 (Rn.loadCA (vs:=(Qbj x26)) tv rfl rfl rfl (Rn.alloc tv rfl (Rn.store (v:=(Qbs x26)) (cs':=(Qbj x26)) tv rfl rfl rfl rfl rfl rfl (Rn.nil (toN ?_)))))
            refine Tr.rgnD (by decide) ?_
            refine Rn.movTO tv rfl (md rfl (md rfl ?_))
            obtain ⟨x28,h29,h⟩:=bnd h
            refine Rn.idxD (e:=Qbb) tv rfl rfl h29 (Rn.fldC tv rfl (Rn.loadC (x:=.lst 1 (List.map (eI .i64) x28.word_)) tv rfl ?_))
            obtain ⟨x31,h30,h⟩:=bnd h
            refine Rn.call (args:=[(l_ x28.word_)]) tv rfl (H_slices_Clone_int _ _ h30) (fun _=>Q1l hM rfl) (Rn.fldP (o':=1) tv rfl rfl (Rn.load (v:=(i_ x26.Event)) tv rfl (Qm rfl) rfl rfl (Rn.bslice (xs:=[(i_ x26.Event)]) (cs:=[(i_ x26.Event)]) tv rfl rfl rfl rfl ?_)))
            obtain ⟨x32,h33,h⟩:=bnd h
            refine Rn.app (e:=(eI .i64)) tv rfl rfl rfl (Qcm rfl rfl rfl) h33 rfl (Rn.fldP (o':=2) tv rfl rfl (Rn.load (v:=(i_ x26.To)) tv rfl (Qm rfl) rfl rfl (Rn.buildT (v:=.agg [(o_ x32),(i_ x26.To)]) tv rfl (Rn.bslice (xs:=[.agg [(l_ x32),(i_ x26.To)]]) (cs:=[(l_ x32),(i_ x26.To)]) tv rfl rfl rfl rfl ?_))))
            obtain ⟨x34,h35,h⟩:=bnd h
            refine Rn.app (e:=Qbb) tv rfl rfl rfl (Qcm rfl rfl rfl) h35 rfl (Rn.movTO tv rfl ?_)
            refine Rn.nil ⟨rfl,?_⟩
            refine toN (Tr.rgn (Rn.bin tv rfl rfl rfl (md rfl (Rn.nil ?_))))
            exact ⟨_,h,(by exact Ql ⟨(sm rfl),(sm rfl),(kPtr rfl),(sm rfl),(sm rfl),(sm rfl),(sm rfl),(sm rfl),tv⟩ ⟨⟨_,rfl,rfl,(.same rfl)⟩,tv⟩ rfl)⟩
           ·replace h:=ifF hb25 h
            refine Tr.exit ?_
            replace h:=si h; subst h
            exact Qj [] ⟨(sm rfl),(sm rfl),(kPtr rfl),(sm rfl),(sm rfl),tv⟩ ⟨⟨_,rfl,rfl,(.same rfl)⟩,tv⟩ rfl
         ·obtain ⟨all36,rfl⟩ : ∃ x,x = z:=⟨_,rfl⟩
          refine sr ((Rn.mov (v:=.d (.lst 2 (List.map Qbb all36))) tv rfl (Rn.lenD tv rfl (Rn.bin tv rfl rfl rfl (Rn.nil (toN ?_))))))
          refine Tr.cond rfl (fun hb37=>?_) (fun hb37=>?_)
          ·replace h:=ifT hb37 h
           refine sr ((Rn.movTC (v:=.nils 1) tv (md rfl (nt ((Tr.ret ?_))))))
           replace h:=si h; subst h
           exact ⟨.inr rfl,.tup [.nils 1,(i_ 3)],res2 rfl rfl,(WkV.tup (.cons (WkV.nilsO _) (.cons (.same rfl) .nil))).rd,⟨tv,tv,tv⟩,fun k hk=>Qf hk⟩
          ·replace h:=ifF hb37 h
           refine Tr.skip (toN (Tr.rgn (md rfl (Rn.bin tv rfl rfl rfl (md rfl (Rn.nil ?_))))))
           exact ⟨_,h,(by exact Ql ⟨(sm rfl),(sm rfl),(kPtr rfl),(sm rfl),(sm rfl),tv⟩ ⟨⟨_,rfl,rfl,(.same rfl)⟩,tv⟩ rfl)⟩
       ·replace h:=ifF hb14 h
        refine Tr.exit ?_
        exact ⟨_,h,(by exact Qj [] ⟨(sm rfl),(kPtr rfl),(sm rfl),tv⟩ ⟨⟨_,rfl,rfl,(.same rfl)⟩,tv⟩ rfl)⟩
     ·obtain ⟨all38,rfl⟩ : ∃ x,x = z:=⟨_,rfl⟩
      refine sr ((Rn.movTC (v:=.nils 1) tv (Rn.nil (toN ?_))))
      refine Tr.cutB (fun (l57:List (List Int))=>⟨look [(13,.own 1 (List.map (eL 1 (eI .i64)) l57))],Qp Γ.n0 (bxs [(3,.cells ((Qd a1)))]) M,Γ.n0 + 102⟩) h (fun z h=>?_) (fun z h=>?_)
      ·refine sr ((Rn.mov (v:=.d (.lst 2 (List.map Qbb all38))) tv rfl (Rn.lenD tv rfl (md rfl (nt ((Tr.block ?_)))))))
       refine Tr.loop (mk:=fun ((l39,x40):(List (List Int))×Int)=>⟨look [(2,(b_ marked3)),(3,.ptr (Γ.n0 + 3) 0),(13,.own 1 (List.map (eL 1 (eI .i64)) l39)),(78,.d (.lst 2 (List.map Qbb all38))),(79,(i_ (all38.length:Int))),(80,(i_ x40))],Qp Γ.n0 (bxs [(3,.cells ((Qd a1)))]) M,Γ.n0 + 102⟩) h (by exact Ql ⟨(sm rfl),(kPtr rfl),(WkV.nilsO _),(sm rfl),(sm rfl),(sm rfl),tv⟩ ⟨⟨_,rfl,rfl,(.same rfl)⟩,tv⟩ rfl) (fun k41 z h=>?_)
       ·obtain ⟨l39,x40⟩:=z
        replace h:_ = some _:=h
        refine sr ((Rn.bin tv rfl rfl rfl (nt ((Tr.seq ?_)))))
        refine Tr.cond rfl (fun hb42=>?_) (fun hb42=>?_)
        ·replace h:=ifT hb42 h
         refine Tr.skip (toN ?_)
         refine Tr.cutB (fun ((l54,c55,c56):(List (List Int))×(List Int)×Int)=>⟨look [(2,(b_ marked3)),(3,.ptr (Γ.n0 + 3) 0),(13,.own 1 (List.map (eL 1 (eI .i64)) l54)),(78,.d (.lst 2 (List.map Qbb all38))),(79,(i_ (all38.length:Int))),(80,(i_ x40))],Qp Γ.n0 (bxs [(3,.cells ((Qd a1))),(15,.cells ([(l_ c55),(i_ c56)]))]) M,Γ.n0 + 102⟩) h (fun z h=>?_) (fun z h=>?_)
         ·refine Tr.block (Tr.seq (Tr.rgn ?_))
          obtain ⟨x43,h44,h⟩:=bnd h
          refine Rn.idxD (e:=Qbb) tv rfl rfl h44 (Rn.loadCA (vs:=(Qgc x43)) tv rfl rfl rfl (Rn.alloc tv rfl (Rn.storeT (v:=(Q95 x43)) (ds:=(Qgc x43)) (cs':=(Qgc x43)) tv rfl rfl rfl rfl rfl rfl rfl (Rn.nil (toN ?_)))))
          refine Tr.cutB (fun (x48:Bool)=>⟨look [(2,(b_ marked3)),(3,.ptr (Γ.n0 + 3) 0),(13,.own 1 (List.map (eL 1 (eI .i64)) l39)),(15,.ptr (Γ.n0 + 15) 0),(78,.d (.lst 2 (List.map Qbb all38))),(79,(i_ (all38.length:Int))),(80,(i_ x40)),(92,(b_ x48))],Qp Γ.n0 (bxs [(3,.cells ((Qd a1))),(15,.cells ((Qgc x43)))]) M,Γ.n0 + 102⟩) h (fun z h=>?_) (fun z h=>?_)
          ·refine Tr.rgn (md rfl (Rn.un tv rfl rfl (md rfl ?_)))
           refine Qc0 marked3 (fun hb45=>?_) (fun hb45=>?_)
           ·replace h:=bT hb45 h
            refine Rn.fldP (o':=2) (gw rfl (nT hb45)) rfl rfl (Rn.load (v:=(l_ a1.Marked)) (gw rfl (nT hb45)) rfl (Qm rfl) rfl rfl (Rn.fldP (o':=1) (gw rfl (nT hb45)) rfl rfl (Rn.load (v:=(i_ x43.state_)) (gw rfl (nT hb45)) rfl (Qm rfl) rfl rfl ?_)))
            obtain ⟨x47,h46,h⟩:=bnd h
            refine Rn.call (args:=[(l_ a1.Marked),(i_ x43.state_)]) (gw rfl (nT hb45)) rfl (H_slices_Contains_int _ _ _ h46) pc9 (Rn.pickF (v:=(b_ x47)) tv rfl (nT hb45) rfl (Rn.nil ?_))
            replace h:=si h; subst h
            exact Qj [] ⟨(sm rfl),(kPtr rfl),(sm rfl),(kPtr rfl),(sm rfl),(sm rfl),(sm rfl),(sm rfl),tv⟩ ⟨⟨_,rfl,rfl,(.same rfl)⟩,⟨_,rfl,rfl,(.same rfl)⟩,tv⟩ rfl
           ·replace h:=bF hb45 h
            refine Rn.sk (nw rfl (nF hb45)) (Rn.sk (nw rfl (nF hb45)) (Rn.sk (nw rfl (nF hb45)) (Rn.sk (nw rfl (nF hb45)) (Rn.sk (nw rfl (nF hb45)) (Rn.pickT (v:=(b_ true)) tv rfl (nF hb45) rfl (Rn.nil ?_))))))
            replace h:=si h; subst h
            exact Qj [] ⟨(sm rfl),(kPtr rfl),(sm rfl),(kPtr rfl),(sm rfl),(sm rfl),(sm rfl),(sm rfl),tv⟩ ⟨⟨_,rfl,rfl,(.same rfl)⟩,⟨_,rfl,rfl,(.same rfl)⟩,tv⟩ rfl
          ·obtain ⟨x48,rfl⟩ : ∃ x,x = z:=⟨_,rfl⟩
           refine Tr.cond rfl (fun hb49=>?_) (fun hb49=>?_)
           ·replace h:=bT hb49 h
            refine Tr.rgn (Rn.movTO tv rfl (Rn.bslice (xs:=[]) (cs:=[]) tv rfl rfl rfl rfl (Rn.fldP (o':=0) tv rfl rfl (Rn.load (v:=(l_ x43.word_)) tv rfl (Qm rfl) rfl rfl ?_))))
            obtain ⟨x50,h51,h⟩:=bnd h
            refine Rn.app0 (e:=(eI .i64)) tv rfl rfl rfl rfl Q1k h51 rfl (Rn.bslice (xs:=[(l_ x50)]) (cs:=[(l_ x50)]) tv rfl rfl rfl rfl ?_)
            obtain ⟨x52,h53,h⟩:=bnd h
            refine Rn.app (e:=(eL 1 (eI .i64))) tv rfl rfl rfl (Qcm rfl rfl rfl) h53 rfl (Rn.movTO tv rfl (Rn.nil ?_))
            replace h:=si h; subst h
            exact Qj [94,98] ⟨(sm rfl),(kPtr rfl),(sm rfl),(sm rfl),(sm rfl),(sm rfl),tv⟩ ⟨⟨_,rfl,rfl,(.same rfl)⟩,⟨_,rfl,rfl,(.same rfl)⟩,tv⟩ rfl
           ·replace h:=bF hb49 h
            refine Tr.skip ?_
            replace h:=si h; subst h
            exact Qj [] ⟨(sm rfl),(kPtr rfl),(sm rfl),(sm rfl),(sm rfl),(sm rfl),tv⟩ ⟨⟨_,rfl,rfl,(.same rfl)⟩,⟨_,rfl,rfl,(.same rfl)⟩,tv⟩ rfl
         ·obtain ⟨l54,c55,c56⟩:=z
          refine Tr.rgn (Rn.bin tv rfl rfl rfl (md rfl (Rn.nil ?_)))
          exact ⟨_,h,(by exact Ql ⟨(sm rfl),(kPtr rfl),(sm rfl),(sm rfl),(sm rfl),(sm rfl),tv⟩ ⟨⟨_,rfl,rfl,(.same rfl)⟩,tv⟩ rfl)⟩
        ·replace h:=ifF hb42 h
         refine Tr.exit ?_
         replace h:=si h; subst h
         exact Qj [] ⟨(sm rfl),tv⟩ ⟨⟨_,rfl,rfl,(.same rfl)⟩,tv⟩ rfl
      ·obtain ⟨l57,rfl⟩ : ∃ x,x = z:=⟨_,rfl⟩
       refine sr ((Rn.movTO tv rfl (Rn.movTO tv rfl (md rfl (nt ((Tr.ret ?_)))))))
       replace h:=si h; subst h
       exact ⟨.inr rfl,.tup [.own 1 (List.map (eL 1 (eI .i64)) l57),(i_ 0)],res2 rfl rfl,(WkV.tup (.cons (.same rfl) (.cons (.same rfl) .nil))).rd,⟨tv,tv,tv⟩,fun k hk=>Qf hk⟩
theorem Q0v {P:Program} {c:Nat} (hcf:Qu P c = some Qja) (fuel:Nat):Qi9 P c (Qc3 fuel):=by
 intro l1 n2 r h
 refine Qcf hcf rfl fun Γ M hP hnt hM=>?_
 subst hP
 refine Tr.init [(0,(l_ l1)),(1,(i_ n2))] rfl ?_
 unfold Qc3 at h
 unfold Qja
 refine sr ((md rfl (nt ((Tr.seq (sr ((md rfl (nt ((Tr.block ?_)))))))))))
 refine Tr.loop (mk:=fun (i3:Int)=>⟨look [(0,(l_ l1)),(1,(i_ n2)),(5,(i_ i3))],Qp Γ.n0 (bxs []) M,Γ.n0 + 18⟩) h (by exact Ql ⟨(sm rfl),(sm rfl),(sm rfl),tv⟩ tv rfl) (fun k4 z h=>?_)
 ·obtain ⟨i3,rfl⟩ : ∃ x,x = z:=⟨_,rfl⟩
  replace h:_ = some _:=h
  refine Tr.seq (sr ((md rfl (md rfl (Rn.lenD tv rfl (Rn.bin tv rfl rfl rfl (Rn.nil (toN ?_))))))))
  refine Tr.cond rfl (fun hb5=>?_) (fun hb5=>?_)
  ·replace h:=ifT hb5 h
   refine Tr.skip (toN (Tr.seq (Tr.block (sr ((md rfl (md rfl ?_)))))))
   obtain ⟨x6,h7,h⟩:=bnd h
   refine Rn.idxD (e:=(eI .i64)) tv rfl rfl h7 (Rn.loadC (x:=.int .i64 x6) tv rfl (md rfl (Rn.bin tv rfl rfl rfl (Rn.nil (toN ?_)))))
   refine Tr.cond rfl (fun hb8=>?_) (fun hb8=>?_)
   ·replace h:=bT hb8 h
    refine sr ((md rfl (nt ((Tr.ret ?_)))))
    replace h:=si h; subst h
    exact ⟨.inr rfl,(b_ true),rfl,fun _ _ _ _ h=>h,tv,fun k hk=>Qf hk⟩
   ·replace h:=bF hb8 h
    refine Tr.skip (toN (Tr.rgn (md rfl (Rn.bin tv rfl rfl rfl (md rfl (Rn.nil ?_))))))
    exact ⟨_,h,(by exact Ql ⟨(sm rfl),(sm rfl),(sm rfl),tv⟩ tv rfl)⟩
  ·replace h:=ifF hb5 h
   refine Tr.exit (toN (sr ((md rfl (nt ((Tr.ret ?_)))))))
   replace h:=si h; subst h
   exact ⟨.inr rfl,(b_ false),rfl,fun _ _ _ _ h=>h,tv,fun k hk=>Qf hk⟩
theorem Qrb {P:Program} {c:Nat} {Qc3:(List Int)→Int→Option Bool}
    (H_overseerref07_has:Qi9 P 45 Qc3) (hcf:Qu P c = some Qgo) (fuel:Nat):Qez P c (Q7 Qc3 fuel):=by
 intro onto1 word2 r h
 refine Qcf hcf rfl fun Γ M hP hnt hM=>?_
 subst hP
 refine Tr.init [(0,(l_ onto1)),(1,(l_ word2))] rfl ?_
 unfold Q7 at h
 unfold Qgo
 refine sr ((Rn.movTC (v:=.nils 1) tv (nt ((sr ((Rn.movTC (v:=.nils 1) tv (Rn.nil (toN ?_)))))))))
 refine Tr.cutB (fun (out17:List Int)=>⟨look [(5,(o_ out17))],Qp Γ.n0 (bxs []) M,Γ.n0 + 27⟩) h (fun z h=>?_) (fun z h=>?_)
 ·refine sr ((md rfl (nt ((Tr.block ?_)))))
  refine Tr.loop (mk:=fun ((out3,i4):(List Int)×Int)=>⟨look [(0,(l_ onto1)),(1,(l_ word2)),(5,(o_ out3)),(6,(i_ i4))],Qp Γ.n0 (bxs []) M,Γ.n0 + 27⟩) h (by exact Ql ⟨(sm rfl),(sm rfl),(WkV.nilsO _),(sm rfl),tv⟩ tv rfl) (fun k5 z h=>?_)
  ·obtain ⟨out3,i4⟩:=z
   replace h:_ = some _:=h
   refine Tr.seq (sr ((md rfl (md rfl (Rn.lenD tv rfl (Rn.bin tv rfl rfl rfl (Rn.nil (toN ?_))))))))
   refine Tr.cond rfl (fun hb6=>?_) (fun hb6=>?_)
   ·replace h:=ifT hb6 h
    refine Tr.skip (toN ?_)
    refine Tr.cutB (fun (out16:List Int)=>⟨look [(0,(l_ onto1)),(1,(l_ word2)),(5,(o_ out16)),(6,(i_ i4))],Qp Γ.n0 (bxs []) M,Γ.n0 + 27⟩) h (fun z h=>?_) (fun z h=>?_)
    ·refine Tr.block (sr ((md rfl (md rfl (md rfl ?_)))))
     obtain ⟨x7,h8,h⟩:=bnd h
     refine Rn.idxD (e:=(eI .i64)) tv rfl rfl h8 (Rn.loadC (x:=.int .i64 x7) tv rfl ?_)
     obtain ⟨x10,h9,h⟩:=bnd h
     refine Rn.call (args:=[(l_ onto1),(i_ x7)]) tv rfl (H_overseerref07_has _ _ _ h9) pc9 (Rn.nil (toN ?_))
     refine Tr.cond rfl (fun hb11=>?_) (fun hb11=>?_)
     ·replace h:=bT hb11 h
      refine Tr.rgn (Rn.movTO tv rfl (md rfl (md rfl ?_)))
      obtain ⟨x12,h13,h⟩:=bnd h
      refine Rn.idxD (e:=(eI .i64)) tv rfl rfl h13 (Rn.loadC (x:=.int .i64 x12) tv rfl (Rn.bslice (xs:=[(i_ x12)]) (cs:=[(i_ x12)]) tv rfl rfl rfl rfl ?_))
      obtain ⟨x14,h15,h⟩:=bnd h
      refine Rn.app (e:=(eI .i64)) tv rfl rfl rfl (Qcm rfl rfl rfl) h15 rfl (Rn.movTO tv rfl (Rn.nil ?_))
      replace h:=si h; subst h
      exact Qj [24] ⟨(sm rfl),(sm rfl),(sm rfl),(sm rfl),tv⟩ tv rfl
     ·replace h:=bF hb11 h
      refine Tr.skip ?_
      replace h:=si h; subst h
      exact Qj [] ⟨(sm rfl),(sm rfl),(sm rfl),(sm rfl),tv⟩ tv rfl
    ·obtain ⟨out16,rfl⟩ : ∃ x,x = z:=⟨_,rfl⟩
     refine Tr.rgn (md rfl (Rn.bin tv rfl rfl rfl (md rfl (Rn.nil ?_))))
     exact ⟨_,h,(by exact Ql ⟨(sm rfl),(sm rfl),(sm rfl),(sm rfl),tv⟩ tv rfl)⟩
   ·replace h:=ifF hb6 h
    refine Tr.exit ?_
    replace h:=si h; subst h
    exact Qj [] ⟨(sm rfl),tv⟩ tv rfl
 ·obtain ⟨out17,rfl⟩ : ∃ x,x = z:=⟨_,rfl⟩
  refine sr ((Rn.movTO tv rfl (Rn.movTO tv rfl (nt ((Tr.ret ?_))))))
  replace h:=si h; subst h
  exact ⟨.inr rfl,(o_ out17),rfl,fun _ _ _ _ h=>h,tv,fun k hk=>Qf hk⟩
theorem Q26 {P:Program} {c:Nat} (hcf:Qu P c = some Qkq):Qkp P c (Qcy):=by
 intro x1 x2 k3 r h
 intro M nb hk4
 refine Qba3 hcf rfl M nb fun Γ hP hnt hn0 hM=>?_
 subst hP hn0
 refine Tr.init [(0,(Qbs x1)),(1,.ptr k3 0)] rfl ?_
 unfold Qcy at h
 unfold Qkq
 refine sr ((Rn.box (v:=(Qbs x1)) (cs:=(Qbj x1)) tv rfl rfl rfl rfl rfl (md rfl (nt ((sr ((Rn.fldP (o':=1) tv rfl rfl (Rn.load (v:=(i_ x1.Event)) tv rfl (Qm rfl) rfl rfl (Rn.load (v:=(i_ x2)) tv rfl (Qbe5 hM hk4) rfl rfl (Rn.bin tv rfl rfl rfl (md rfl (nt ((Tr.ret ?_)))))))))))))))
 replace h:=si h; subst h
 exact ⟨.inr rfl,(b_ (x1.Event == x2)),rfl,fun _ _ _ _ h=>h,tv,fun k hk=>Qf hk⟩
theorem Qrc {P:Program} {c:Nat} (hcf:Qu P c = some Qgq) (fuel:Nat):Qgp P c (Qby fuel):=by
 intro s1 f2 g3 cp4 r h
 intro M nb hc5 ho7 hf6
 refine Qba3 hcf rfl M nb fun Γ hP hnt hn0 hM=>?_
 subst hP hn0
 refine Tr.init [(0,.d (.lst 3 (List.map Qc s1))),(1,.clo g3 cp4)] rfl ?_
 unfold Qby at h
 unfold Qgq
 refine sr ((md rfl (nt ((Tr.seq (sr ((md rfl (Rn.lenD tv rfl (md rfl (nt ((Tr.block ?_)))))))))))))
 refine Tr.loop (mk:=fun (x9:Int)=>⟨look [(0,.d (.lst 3 (List.map Qc s1))),(1,.clo g3 cp4),(7,(i_ (s1.length:Int))),(8,(i_ x9))],Qp Γ.n0 (bxs []) M,Γ.n0 + 19⟩) h (by exact Ql ⟨(sm rfl),(kFun hM ho7),(sm rfl),(sm rfl),tv⟩ tv rfl) (fun k10 z h=>?_)
 ·obtain ⟨x9,rfl⟩ : ∃ x,x = z:=⟨_,rfl⟩
  replace h:_ = some _:=h
  refine sr ((Rn.bin tv rfl rfl rfl (nt ((Tr.seq ?_)))))
  refine Tr.cond rfl (fun hb11=>?_) (fun hb11=>?_)
  ·replace h:=ifT hb11 h
   refine Tr.skip (toN (Tr.seq (Tr.block (sr ((md rfl (md rfl (nt ((sr ((Rn.mov (v:=.clo g3 cp4) tv rfl (md rfl (md rfl ?_))))))))))))))
   obtain ⟨x12,h13,h⟩:=bnd h
   refine Rn.idxD (e:=Qc) tv rfl rfl h13 (Rn.loadCA (vs:=(Qbj x12)) tv rfl rfl rfl ?_)
   obtain ⟨x15,h14,h⟩:=bnd h
   refine Rn.callvM (args:=[(Qbs x12)] ++ cp4) tv rfl (by rw [hc5]; rfl) (fun M2 nb2 hn hx=>hf6 _ _ h14 M2 nb2 (by omega) ((Qbcf hM).trans hx)) rfl pc9 ?_
   refine Rn.nil (toN ?_)
   refine Tr.cond rfl (fun hb16=>?_) (fun hb16=>?_)
   ·replace h:=bT hb16 h
    refine sr ((md rfl (md rfl (nt ((Tr.ret ?_))))))
    replace h:=si h; subst h
    exact ⟨.inr rfl,(i_ x9),rfl,fun _ _ _ _ h=>h,tv,fun k hk=>Qf hk⟩
   ·replace h:=bF hb16 h
    refine Tr.skip (toN (Tr.rgn (Rn.bin tv rfl rfl rfl (md rfl (Rn.nil ?_)))))
    exact ⟨_,h,(by exact Ql ⟨(sm rfl),(kFun hM ho7),(sm rfl),(sm rfl),tv⟩ tv rfl)⟩
  ·replace h:=ifF hb11 h
   refine Tr.exit (toN (sr ((md rfl (nt ((Tr.ret ?_)))))))
   replace h:=si h; subst h
   exact ⟨.inr rfl,(i_ (-1)),rfl,fun _ _ _ _ h=>h,tv,fun k hk=>Qf hk⟩
theorem Q71 {P:Program} {c:Nat} {Qbl:Qb→Int→Option ((List Qe))} {Qby:(List Qe)→(Qe→Option Bool)→Option Int} {Qcy:Qe→Int→Option Bool}
    (H_automaton_out:Qho P 54 Qbl)
    (H_slices_IndexFunc_Edge:Qgp P 99 Qby)
    (H_automaton_next_1:Qkp P 100 Qcy) (hcf:Qu P c = some Qn3):Qn2 P c (Qdf Qbl Qby Qcy):=by
 intro a1 state2 event3 r h
 refine Qcf hcf rfl fun Γ M hP hnt hM=>?_
 subst hP
 refine Tr.init [(0,(Qa a1)),(1,(i_ state2)),(2,(i_ event3))] rfl ?_
 unfold Qdf at h
 unfold Qn3
 refine sr ((Rn.box (v:=(Qa a1)) (cs:=(Qd a1)) tv rfl rfl rfl rfl rfl (Rn.box (v:=(i_ event3)) (cs:=[(i_ event3)]) tv rfl rfl rfl rfl rfl (md rfl (nt ((sr ((Rn.load (v:=(Qa a1)) tv rfl (Qm rfl) rfl rfl (md rfl ?_))))))))))
 obtain ⟨x5,h4,h⟩:=bnd h
 refine Rn.call (args:=[(Qa a1),(i_ state2)]) tv rfl (H_automaton_out _ _ _ h4) pc9 (Rn.movTD tv rfl (nt ((sr ((md rfl (Rn.k (v:=.clo 100 [.ptr (Γ.n0 + 5) 0]) tv rfl rfl rfl ?_)))))))
 obtain ⟨x10,h9,h⟩:=bnd h
 refine Rn.callM (args:=[.d (.lst 3 (List.map Qc x5)),.clo 100 [.ptr (Γ.n0 + 5) 0]]) tv rfl (fun M2 nb2 hn hx=>H_slices_IndexFunc_Edge _ _ 100 [.ptr (Γ.n0 + 5) 0] _ h9 M2 nb2 rfl ⟨Qbcg (hx _ _ (Qm rfl)),tv⟩ (fun a6 r7 h8 M3 nb3 hn3 hx3=>H_automaton_next_1 a6 event3 (Γ.n0 + 5) r7 h8 M3 nb3 ((hx.trans hx3) _ _ (Qm rfl)))) rfl pc9 ?_
 refine md rfl (nt ((Tr.seq (sr ((md rfl (Rn.bin tv rfl rfl rfl (Rn.nil (toN ?_)))))))))
 refine Tr.cond rfl (fun hb11=>?_) (fun hb11=>?_)
 ·replace h:=ifT hb11 h
  refine sr ((md rfl (nt ((Tr.ret ?_)))))
  replace h:=si h; subst h
  exact ⟨.inr rfl,(i_ (-1)),rfl,fun _ _ _ _ h=>h,tv,fun k hk=>Qf hk⟩
 ·replace h:=ifF hb11 h
  refine Tr.skip (toN (sr ((md rfl (md rfl ?_)))))
  obtain ⟨x12,h13,h⟩:=bnd h
  refine Rn.idxD (e:=Qc) tv rfl rfl h13 (Rn.fldC tv rfl (Rn.loadC (x:=.int .i64 x12.To) tv rfl (md rfl (nt ((Tr.ret ?_))))))
  replace h:=si h; subst h
  exact ⟨.inr rfl,(i_ x12.To),rfl,fun _ _ _ _ h=>h,tv,fun k hk=>Qf hk⟩
theorem Q27 {P:Program} {c:Nat} {Qdf:Qb→Int→Int→Option Int}
    (H_automaton_next:Qn2 P 90 Qdf) (hcf:Qu P c = some Qkr) (fuel:Nat):Qhe P c (Qbq Qdf fuel):=by
 intro a1 state2 word3 r h
 refine Qcf hcf rfl fun Γ M hP hnt hM=>?_
 subst hP
 refine Tr.init [(0,(Qa a1)),(1,(i_ state2)),(2,(l_ word3))] rfl ?_
 unfold Qbq at h
 unfold Qkr
 refine sr ((Rn.box (v:=(Qa a1)) (cs:=(Qd a1)) tv rfl rfl rfl rfl rfl (md rfl (md rfl (nt ((Tr.seq (sr ((md rfl (Rn.lenD tv rfl (md rfl (nt ((Tr.block ?_)))))))))))))))
 refine Tr.loop (mk:=fun ((state4,x5):Int×Int)=>⟨look [(1,(i_ state4)),(2,(l_ word3)),(3,.ptr (Γ.n0 + 3) 0),(11,(l_ word3)),(12,(i_ (word3.length:Int))),(13,(i_ x5))],Qp Γ.n0 (bxs [(3,.cells ((Qd a1)))]) M,Γ.n0 + 31⟩) h (by exact Ql ⟨(sm rfl),(sm rfl),(kPtr rfl),(sm rfl),(sm rfl),(sm rfl),tv⟩ ⟨⟨_,rfl,rfl,(.same rfl)⟩,tv⟩ rfl) (fun k6 z h=>?_)
 ·obtain ⟨state4,x5⟩:=z
  replace h:_ = some _:=h
  refine sr ((Rn.bin tv rfl rfl rfl (nt ((Tr.seq ?_)))))
  refine Tr.cond rfl (fun hb7=>?_) (fun hb7=>?_)
  ·replace h:=ifT hb7 h
   refine Tr.skip (toN (Tr.seq (Tr.block (sr ((md rfl ?_))))))
   obtain ⟨x8,h9,h⟩:=bnd h
   refine Rn.idxD (e:=(eI .i64)) tv rfl rfl h9 (Rn.loadC (x:=.int .i64 x8) tv rfl (md rfl (md rfl (nt ((sr ((Rn.load (v:=(Qa a1)) tv rfl (Qm rfl) rfl rfl (md rfl (md rfl ?_))))))))))
   obtain ⟨x11,h10,h⟩:=bnd h
   refine Rn.call (args:=[(Qa a1),(i_ state4),(i_ x8)]) tv rfl (H_automaton_next _ _ _ _ h10) pc9 (md rfl (nt ((Tr.seq (sr ((md rfl (Rn.bin tv rfl rfl rfl (Rn.nil (toN ?_))))))))))
   refine Tr.cond rfl (fun hb12=>?_) (fun hb12=>?_)
   ·replace h:=ifT hb12 h
    refine sr ((md rfl (md rfl (md rfl (md rfl (nt ((Tr.ret ?_))))))))
    replace h:=si h; subst h
    exact ⟨.inr rfl,.tup [(i_ state4),(i_ x5)],res2 rfl rfl,(WkV.tup (.cons (.same rfl) (.cons (.same rfl) .nil))).rd,⟨tv,tv,tv⟩,fun k hk=>Qf hk⟩
   ·replace h:=ifF hb12 h
    refine Tr.skip (toN (Tr.rgn (md rfl (md rfl (nt ((Tr.rgn (Rn.bin tv rfl rfl rfl (md rfl (Rn.nil ?_))))))))))
    exact ⟨_,h,(by exact Ql ⟨(sm rfl),(sm rfl),(kPtr rfl),(sm rfl),(sm rfl),(sm rfl),tv⟩ ⟨⟨_,rfl,rfl,(.same rfl)⟩,tv⟩ rfl)⟩
  ·replace h:=ifF hb7 h
   refine Tr.exit (toN (sr ((md rfl (md rfl (Rn.lenD tv rfl (md rfl (md rfl (nt ((Tr.ret ?_)))))))))))
   replace h:=si h; subst h
   exact ⟨.inr rfl,.tup [(i_ state4),(i_ (word3.length:Int))],res2 rfl rfl,(WkV.tup (.cons (.same rfl) (.cons (.same rfl) .nil))).rd,⟨tv,tv,tv⟩,fun k hk=>Qf hk⟩
theorem Q0w {P:Program} {c:Nat} {Qbq:Qb→Int→(List Int)→Option (Int×Int)}
    (H_automaton_follow:Qhe P 60 Qbq) (hcf:Qu P c = some Qjb):Qgr P c (Qbn Qbq):=by
 intro a1 word2 r h
 refine Qcf hcf rfl fun Γ M hP hnt hM=>?_
 subst hP
 refine Tr.init [(0,(Qa a1)),(1,(l_ word2))] rfl ?_
 unfold Qbn at h
 unfold Qjb
 refine sr ((Rn.box (v:=(Qa a1)) (cs:=(Qd a1)) tv rfl rfl rfl rfl rfl (md rfl (md rfl (nt ((Tr.seq (sr ((Rn.fldP (o':=1) tv rfl rfl (Rn.load (v:=(i_ a1.States)) tv rfl (Qm rfl) rfl rfl (Rn.bin tv rfl rfl rfl (Rn.nil (toN ?_))))))))))))))
 refine Tr.cond rfl (fun hb3=>?_) (fun hb3=>?_)
 ·replace h:=bT hb3 h
  refine sr ((md rfl (md rfl (nt ((Tr.ret ?_))))))
  replace h:=si h; subst h
  exact ⟨.inr rfl,.tup [(i_ 0),(b_ false)],res2 rfl rfl,(WkV.tup (.cons (.same rfl) (.cons (.same rfl) .nil))).rd,⟨tv,tv,tv⟩,fun k hk=>Qf hk⟩
 ·replace h:=bF hb3 h
  refine Tr.skip (toN (sr ((Rn.load (v:=(Qa a1)) tv rfl (Qm rfl) rfl rfl (md rfl ?_)))))
  obtain ⟨⟨r5,r6⟩,h4,h⟩:=bnd h
  refine Rn.call (args:=[(Qa a1),(i_ 0),(l_ word2)]) tv rfl (H_automaton_follow _ _ _ _ h4) pc9 (Rn.mov (v:=.tup [(i_ r5),(i_ r6)]) tv rfl (Rn.ext (v:=(i_ r5)) (vs:=[(i_ r5),(i_ r6)]) tv rfl rfl rfl (Rn.ext (v:=(i_ r6)) (vs:=[(i_ r5),(i_ r6)]) tv rfl rfl rfl (md rfl (md rfl (nt ((sr ((md rfl (md rfl (md rfl (Rn.lenD tv rfl (Rn.bin tv rfl rfl rfl (md rfl (md rfl (nt ((Tr.ret ?_)))))))))))))))))))
  replace h:=si h; subst h
  exact ⟨.inr rfl,.tup [(i_ r5),(b_ (r6 == (word2.length:Int)))],res2 rfl rfl,(WkV.tup (.cons (.same rfl) (.cons (.same rfl) .nil))).rd,⟨tv,tv,tv⟩,fun k hk=>Qf hk⟩
theorem Qum {P:Program} {c:Nat} {Qs:Qb→Option Int} {Qbn:Qb→(List Int)→Option (Int×Bool)}
    (H_automaton_Check:Qdk P 46 Qs)
    (H_automaton_reached:Qgr P 61 Qbn) (hcf:Qu P c = some Qh0):Qhz P c (Qca Qs Qbn):=by
 intro a1 word2 r h
 refine Qcf hcf rfl fun Γ M hP hnt hM=>?_
 subst hP
 refine Tr.init [(0,(Qa a1)),(1,(l_ word2))] rfl ?_
 unfold Qca at h
 unfold Qh0
 refine sr ((Rn.box (v:=(Qa a1)) (cs:=(Qd a1)) tv rfl rfl rfl rfl rfl (md rfl (md rfl (nt ((Tr.seq (sr ((Rn.load (v:=(Qa a1)) tv rfl (Qm rfl) rfl rfl ?_))))))))))
 obtain ⟨x4,h3,h⟩:=bnd h
 refine Rn.call (args:=[(Qa a1)]) tv rfl (H_automaton_Check _ _ h3) pc9 (md rfl (nt ((sr ((md rfl (Rn.bin tv rfl rfl rfl (Rn.nil (toN ?_)))))))))
 refine Tr.cond rfl (fun hb5=>?_) (fun hb5=>?_)
 ·replace h:=bT hb5 h
  refine sr ((md rfl (md rfl (md rfl (nt ((Tr.ret ?_)))))))
  replace h:=si h; subst h
  exact ⟨.inr rfl,.tup [(b_ false),(i_ x4)],res2 rfl rfl,(WkV.tup (.cons (.same rfl) (.cons (.same rfl) .nil))).rd,⟨tv,tv,tv⟩,fun k hk=>Qf hk⟩
 ·replace h:=bF hb5 h
  refine Tr.skip (toN (sr ((Rn.load (v:=(Qa a1)) tv rfl (Qm rfl) rfl rfl (md rfl ?_)))))
  obtain ⟨⟨r7,r8⟩,h6,h⟩:=bnd h
  refine Rn.call (args:=[(Qa a1),(l_ word2)]) tv rfl (H_automaton_reached _ _ _ h6) pc9 (Rn.mov (v:=.tup [(i_ r7),(b_ r8)]) tv rfl (Rn.ext (v:=(i_ r7)) (vs:=[(i_ r7),(b_ r8)]) tv rfl rfl rfl (Rn.ext (v:=(b_ r8)) (vs:=[(i_ r7),(b_ r8)]) tv rfl rfl rfl (md rfl (md rfl (nt ((sr ((md rfl (md rfl (md rfl (nt ((Tr.ret ?_)))))))))))))))
  replace h:=si h; subst h
  exact ⟨.inr rfl,.tup [(b_ r8),(i_ 0)],res2 rfl rfl,(WkV.tup (.cons (.same rfl) (.cons (.same rfl) .nil))).rd,⟨tv,tv,tv⟩,fun k hk=>Qf hk⟩
theorem Qke {P:Program} {c:Nat} {Qbi:Option Bool} {Qbg:(List Int)→Qz→Option Qb} {Qx:Int→Option ((List Int))} {Qbv:Qb→Int→Bool→Option ((List (List Int))×Int)} {Q7:(List Int)→(List Int)→Option ((List Int))} {Qbu:Qb→(List Int)→(List Int)→Bool→Option ((List Int)×Bool×Int)} {f_projection_Alike:(List Int)→(List Int)→(List Int)→Option Bool} {Qca:Qb→(List Int)→Option (Bool×Int)}
    (H_overseerlaw07_known:Qfk P 8 Qbi)
    (H_overseerlaw03_Make:Qf6 P 10 Qbg)
    (H_overseerlaw03_Set_Events:Qd2 P 11 Qx)
    (H_automaton_Words:Qib P 27 Qbv)
    (H_overseerref07_Observe:Qez P 28 Q7)
    (H_projection_Lift:Qia P 31 Qbu)
    (H_projection_Alike:K_projection_Alike P 32 f_projection_Alike)
    (H_automaton_Generates:Qhz P 33 Qca) (hcf:Qu P c = some Qd5) (fuel:Nat):Qge P c (Qda Qbi Qbg Qx Qbv Q7 Qbu f_projection_Alike Qca fuel):=by
 intro s1 g2 xat3 r h
 refine Qcf hcf rfl fun Γ M hP hnt hM=>?_
 subst hP
 refine Tr.init [(0,.agg [.d (.int .u8 s1.1),.d (.int .u8 s1.2)]),(1,.agg [.d (.int .u8 g2.States),.d (.int .u8 g2.Marks),.d (.int .u8 g2.To.1.1),.d (.int .u8 g2.To.1.2.1),.d (.int .u8 g2.To.1.2.2.1),.d (.int .u8 g2.To.1.2.2.2.1),.d (.int .u8 g2.To.1.2.2.2.2),.d (.int .u8 g2.To.2.1.1),.d (.int .u8 g2.To.2.1.2.1),.d (.int .u8 g2.To.2.1.2.2.1),.d (.int .u8 g2.To.2.1.2.2.2.1),.d (.int .u8 g2.To.2.1.2.2.2.2),.d (.int .u8 g2.To.2.2.1.1),.d (.int .u8 g2.To.2.2.1.2.1),.d (.int .u8 g2.To.2.2.1.2.2.1),.d (.int .u8 g2.To.2.2.1.2.2.2.1),.d (.int .u8 g2.To.2.2.1.2.2.2.2),.d (.int .u8 g2.To.2.2.2.1.1),.d (.int .u8 g2.To.2.2.2.1.2.1),.d (.int .u8 g2.To.2.2.2.1.2.2.1),.d (.int .u8 g2.To.2.2.2.1.2.2.2.1),.d (.int .u8 g2.To.2.2.2.1.2.2.2.2),.d (.int .u8 g2.To.2.2.2.2.1),.d (.int .u8 g2.To.2.2.2.2.2.1),.d (.int .u8 g2.To.2.2.2.2.2.2.1),.d (.int .u8 g2.To.2.2.2.2.2.2.2.1),.d (.int .u8 g2.To.2.2.2.2.2.2.2.2)]),(2,.d (.int .u16 xat3))] rfl ?_
 unfold Qda at h
 unfold Qd5
 refine sr ((Rn.box (v:=.agg [.d (.int .u8 s1.1),.d (.int .u8 s1.2)]) (cs:=[.d (.int .u8 s1.1),.d (.int .u8 s1.2)]) tv rfl rfl rfl rfl rfl (Rn.box (v:=.agg [.d (.int .u8 g2.States),.d (.int .u8 g2.Marks),.d (.int .u8 g2.To.1.1),.d (.int .u8 g2.To.1.2.1),.d (.int .u8 g2.To.1.2.2.1),.d (.int .u8 g2.To.1.2.2.2.1),.d (.int .u8 g2.To.1.2.2.2.2),.d (.int .u8 g2.To.2.1.1),.d (.int .u8 g2.To.2.1.2.1),.d (.int .u8 g2.To.2.1.2.2.1),.d (.int .u8 g2.To.2.1.2.2.2.1),.d (.int .u8 g2.To.2.1.2.2.2.2),.d (.int .u8 g2.To.2.2.1.1),.d (.int .u8 g2.To.2.2.1.2.1),.d (.int .u8 g2.To.2.2.1.2.2.1),.d (.int .u8 g2.To.2.2.1.2.2.2.1),.d (.int .u8 g2.To.2.2.1.2.2.2.2),.d (.int .u8 g2.To.2.2.2.1.1),.d (.int .u8 g2.To.2.2.2.1.2.1),.d (.int .u8 g2.To.2.2.2.1.2.2.1),.d (.int .u8 g2.To.2.2.2.1.2.2.2.1),.d (.int .u8 g2.To.2.2.2.1.2.2.2.2),.d (.int .u8 g2.To.2.2.2.2.1),.d (.int .u8 g2.To.2.2.2.2.2.1),.d (.int .u8 g2.To.2.2.2.2.2.2.1),.d (.int .u8 g2.To.2.2.2.2.2.2.2.1),.d (.int .u8 g2.To.2.2.2.2.2.2.2.2)]) (cs:=[.d (.int .u8 g2.States),.d (.int .u8 g2.Marks),.d (.int .u8 g2.To.1.1),.d (.int .u8 g2.To.1.2.1),.d (.int .u8 g2.To.1.2.2.1),.d (.int .u8 g2.To.1.2.2.2.1),.d (.int .u8 g2.To.1.2.2.2.2),.d (.int .u8 g2.To.2.1.1),.d (.int .u8 g2.To.2.1.2.1),.d (.int .u8 g2.To.2.1.2.2.1),.d (.int .u8 g2.To.2.1.2.2.2.1),.d (.int .u8 g2.To.2.1.2.2.2.2),.d (.int .u8 g2.To.2.2.1.1),.d (.int .u8 g2.To.2.2.1.2.1),.d (.int .u8 g2.To.2.2.1.2.2.1),.d (.int .u8 g2.To.2.2.1.2.2.2.1),.d (.int .u8 g2.To.2.2.1.2.2.2.2),.d (.int .u8 g2.To.2.2.2.1.1),.d (.int .u8 g2.To.2.2.2.1.2.1),.d (.int .u8 g2.To.2.2.2.1.2.2.1),.d (.int .u8 g2.To.2.2.2.1.2.2.2.1),.d (.int .u8 g2.To.2.2.2.1.2.2.2.2),.d (.int .u8 g2.To.2.2.2.2.1),.d (.int .u8 g2.To.2.2.2.2.2.1),.d (.int .u8 g2.To.2.2.2.2.2.2.1),.d (.int .u8 g2.To.2.2.2.2.2.2.2.1),.d (.int .u8 g2.To.2.2.2.2.2.2.2.2)]) tv rfl rfl rfl rfl rfl (md rfl (nt ((Tr.seq (Tr.seq (Tr.rgn ?_)))))))))
 obtain ⟨x5,h4,h⟩:=bnd h
 refine Rn.call (args:=[]) tv rfl (H_overseerlaw07_known _ h4) pc9 (Rn.un tv rfl rfl (Rn.nil (toN ?_)))
 refine Tr.cond rfl (fun hb6=>?_) (fun hb6=>?_)
 ·have hb6:=nT' hb6
  replace h:=bF hb6 h
  refine sr ((md rfl (nt ((Tr.ret ?_)))))
  replace h:=si h; subst h
  exact ⟨.inr rfl,(b_ false),rfl,fun _ _ _ _ h=>h,tv,fun k hk=>Qf hk⟩
 ·have hb6:=nF' hb6
  replace h:=bT hb6 h
  refine Tr.skip (toN (Tr.seq ?_))
  refine Tr.rgnD (by decide) ?_
  refine Rn.k (v:=.ptr (Γ.n0 + 3) 0) tv rfl rfl rfl (Rn.load (v:=.d (.int .u8 s1.1)) tv rfl (Qm rfl) rfl rfl ?_)
  obtain ⟨x8,h7,h⟩:=bnd h
  refine Rn.call (args:=[.d (.int .u8 s1.1)]) tv rfl (H_overseerlaw03_Set_Events _ _ h7) (fun _=>Q1l hM rfl) (Rn.load (v:=.agg [.d (.int .u8 g2.States),.d (.int .u8 g2.Marks),.d (.int .u8 g2.To.1.1),.d (.int .u8 g2.To.1.2.1),.d (.int .u8 g2.To.1.2.2.1),.d (.int .u8 g2.To.1.2.2.2.1),.d (.int .u8 g2.To.1.2.2.2.2),.d (.int .u8 g2.To.2.1.1),.d (.int .u8 g2.To.2.1.2.1),.d (.int .u8 g2.To.2.1.2.2.1),.d (.int .u8 g2.To.2.1.2.2.2.1),.d (.int .u8 g2.To.2.1.2.2.2.2),.d (.int .u8 g2.To.2.2.1.1),.d (.int .u8 g2.To.2.2.1.2.1),.d (.int .u8 g2.To.2.2.1.2.2.1),.d (.int .u8 g2.To.2.2.1.2.2.2.1),.d (.int .u8 g2.To.2.2.1.2.2.2.2),.d (.int .u8 g2.To.2.2.2.1.1),.d (.int .u8 g2.To.2.2.2.1.2.1),.d (.int .u8 g2.To.2.2.2.1.2.2.1),.d (.int .u8 g2.To.2.2.2.1.2.2.2.1),.d (.int .u8 g2.To.2.2.2.1.2.2.2.2),.d (.int .u8 g2.To.2.2.2.2.1),.d (.int .u8 g2.To.2.2.2.2.2.1),.d (.int .u8 g2.To.2.2.2.2.2.2.1),.d (.int .u8 g2.To.2.2.2.2.2.2.2.1),.d (.int .u8 g2.To.2.2.2.2.2.2.2.2)]) tv rfl (Qm rfl) rfl rfl ?_)
  obtain ⟨x10,h9,h⟩:=bnd h
  refine Rn.call (args:=[(l_ x8),.agg [.d (.int .u8 g2.States),.d (.int .u8 g2.Marks),.d (.int .u8 g2.To.1.1),.d (.int .u8 g2.To.1.2.1),.d (.int .u8 g2.To.1.2.2.1),.d (.int .u8 g2.To.1.2.2.2.1),.d (.int .u8 g2.To.1.2.2.2.2),.d (.int .u8 g2.To.2.1.1),.d (.int .u8 g2.To.2.1.2.1),.d (.int .u8 g2.To.2.1.2.2.1),.d (.int .u8 g2.To.2.1.2.2.2.1),.d (.int .u8 g2.To.2.1.2.2.2.2),.d (.int .u8 g2.To.2.2.1.1),.d (.int .u8 g2.To.2.2.1.2.1),.d (.int .u8 g2.To.2.2.1.2.2.1),.d (.int .u8 g2.To.2.2.1.2.2.2.1),.d (.int .u8 g2.To.2.2.1.2.2.2.2),.d (.int .u8 g2.To.2.2.2.1.1),.d (.int .u8 g2.To.2.2.2.1.2.1),.d (.int .u8 g2.To.2.2.2.1.2.2.1),.d (.int .u8 g2.To.2.2.2.1.2.2.2.1),.d (.int .u8 g2.To.2.2.2.1.2.2.2.2),.d (.int .u8 g2.To.2.2.2.2.1),.d (.int .u8 g2.To.2.2.2.2.2.1),.d (.int .u8 g2.To.2.2.2.2.2.2.1),.d (.int .u8 g2.To.2.2.2.2.2.2.2.1),.d (.int .u8 g2.To.2.2.2.2.2.2.2.2)]]) tv rfl (H_overseerlaw03_Make _ _ _ h9) (fun _=>Q1l hM rfl) (Rn.k (v:=.ptr (Γ.n0 + 3) 1) tv rfl rfl rfl (Rn.load (v:=.d (.int .u8 s1.2)) tv rfl (Qm rfl) rfl rfl ?_))
  obtain ⟨x12,h11,h⟩:=bnd h
  refine Rn.call (args:=[.d (.int .u8 s1.2)]) tv rfl (H_overseerlaw03_Set_Events _ _ h11) (fun _=>Q1l hM rfl) (Rn.alloc tv rfl (Rn.storeT (v:=(Qa x10)) (ds:=(Qd x10)) (cs':=(Qd x10)) tv rfl rfl rfl rfl rfl rfl rfl (Rn.movTO tv rfl ?_)))
  refine Rn.nil ⟨rfl,?_⟩
  refine toN (sr ((Rn.load (v:=(Qa x10)) tv rfl (Qm rfl) rfl rfl ?_)))
  obtain ⟨⟨r14,r15⟩,h13,h⟩:=bnd h
  refine Rn.call (args:=[(Qa x10),(i_ 4),(b_ false)]) tv rfl (H_automaton_Words _ _ _ _ h13) pc9 (Rn.mov (v:=.tup [.d (.lst 1 (List.map (eL 1 (eI .i64)) r14)),(i_ r15)]) tv rfl (Rn.extTD (vs:=[.d (.lst 1 (List.map (eL 1 (eI .i64)) r14)),(i_ r15)]) tv rfl rfl rfl (Rn.ext (v:=(i_ r15)) (vs:=[.d (.lst 1 (List.map (eL 1 (eI .i64)) r14)),(i_ r15)]) tv rfl rfl rfl (Rn.movTD tv rfl (md rfl (nt ((Tr.seq ?_))))))))
  refine Tr.cutB (fun (x17:Bool)=>⟨look [(2,.d (.int .u16 xat3)),(7,.ptr (Γ.n0 + 7) 0),(8,(o_ x12)),(9,.d (.lst 1 (List.map (eL 1 (eI .i64)) r14))),(10,(i_ r15)),(39,(b_ x17))],Qp Γ.n0 (bxs [(3,.cells ([.d (.int .u8 s1.1),.d (.int .u8 s1.2)])),(4,.cells ([.d (.int .u8 g2.States),.d (.int .u8 g2.Marks),.d (.int .u8 g2.To.1.1),.d (.int .u8 g2.To.1.2.1),.d (.int .u8 g2.To.1.2.2.1),.d (.int .u8 g2.To.1.2.2.2.1),.d (.int .u8 g2.To.1.2.2.2.2),.d (.int .u8 g2.To.2.1.1),.d (.int .u8 g2.To.2.1.2.1),.d (.int .u8 g2.To.2.1.2.2.1),.d (.int .u8 g2.To.2.1.2.2.2.1),.d (.int .u8 g2.To.2.1.2.2.2.2),.d (.int .u8 g2.To.2.2.1.1),.d (.int .u8 g2.To.2.2.1.2.1),.d (.int .u8 g2.To.2.2.1.2.2.1),.d (.int .u8 g2.To.2.2.1.2.2.2.1),.d (.int .u8 g2.To.2.2.1.2.2.2.2),.d (.int .u8 g2.To.2.2.2.1.1),.d (.int .u8 g2.To.2.2.2.1.2.1),.d (.int .u8 g2.To.2.2.2.1.2.2.1),.d (.int .u8 g2.To.2.2.2.1.2.2.2.1),.d (.int .u8 g2.To.2.2.2.1.2.2.2.2),.d (.int .u8 g2.To.2.2.2.2.1),.d (.int .u8 g2.To.2.2.2.2.2.1),.d (.int .u8 g2.To.2.2.2.2.2.2.1),.d (.int .u8 g2.To.2.2.2.2.2.2.2.1),.d (.int .u8 g2.To.2.2.2.2.2.2.2.2)])),(7,.cells ((Qd x10)))]) M,Γ.n0 + 123⟩) h (fun z h=>?_) (fun z h=>?_)
  ·refine Tr.rgn (md rfl (Rn.bin tv rfl rfl rfl (md rfl ?_)))
   refine Qc0 (r15 != 0) (fun hb16=>?_) (fun hb16=>?_)
   ·replace h:=bT hb16 h
    refine Rn.sk (nw rfl hb16) (Rn.sk (nw rfl hb16) (Rn.sk (nw rfl hb16) (Rn.pickT (v:=(b_ true)) tv rfl hb16 rfl (Rn.nil ?_))))
    replace h:=si h; subst h
    exact Qj [] ⟨(sm rfl),(kPtr rfl),(sm rfl),(sm rfl),(sm rfl),(sm rfl),tv⟩ ⟨⟨_,rfl,rfl,(.same rfl)⟩,⟨_,rfl,rfl,(.same rfl)⟩,⟨_,rfl,rfl,(.same rfl)⟩,tv⟩ rfl
   ·replace h:=bF hb16 h
    refine Rn.movD (gw rfl hb16) rfl (Rn.lenD (gw rfl hb16) rfl (Rn.bin (gw rfl hb16) rfl rfl rfl (Rn.pickF (v:=(b_ ((r14.length:Int) == 0))) tv rfl hb16 rfl (Rn.nil ?_))))
    replace h:=si h; subst h
    exact Qj [] ⟨(sm rfl),(kPtr rfl),(sm rfl),(sm rfl),(sm rfl),(sm rfl),tv⟩ ⟨⟨_,rfl,rfl,(.same rfl)⟩,⟨_,rfl,rfl,(.same rfl)⟩,⟨_,rfl,rfl,(.same rfl)⟩,tv⟩ rfl
  ·obtain ⟨x17,rfl⟩ : ∃ x,x = z:=⟨_,rfl⟩
   refine Tr.cond rfl (fun hb18=>?_) (fun hb18=>?_)
   ·replace h:=bT hb18 h
    refine sr ((md rfl (Rn.bin tv rfl rfl rfl (md rfl (nt ((Tr.ret ?_)))))))
    replace h:=si h; subst h
    exact ⟨.inr rfl,(b_ (r15 == 0)),rfl,fun _ _ _ _ h=>h,tv,fun k hk=>Qf hk⟩
   ·replace h:=bF hb18 h
    refine Tr.skip (toN (sr ((md rfl (md rfl (Rn.conv tv rfl (md rfl (Rn.lenD tv rfl ?_))))))))
    obtain ⟨s19,h20,h⟩:=bnd h
    refine Rn.bin tv rfl rfl (Qble h20) ?_
    obtain ⟨x21,h22,h⟩:=bnd h
    refine Rn.idxD (e:=(eL 1 (eI .i64))) tv rfl rfl h22 (Rn.loadC (x:=.lst 1 (List.map (eI .i64) x21)) tv rfl (Rn.movTD tv rfl (nt ((Tr.seq ?_)))))
    refine Tr.rgnD (by decide) ?_
    refine Rn.load (v:=(Qa x10)) tv rfl (Qm rfl) rfl rfl (Rn.mov (v:=(l_ x12)) tv rfl (Rn.mov (v:=(l_ x12)) tv rfl (md rfl ?_)))
    obtain ⟨x24,h23,h⟩:=bnd h
    refine Rn.call (args:=[(l_ x12),(l_ x21)]) tv rfl (H_overseerref07_Observe _ _ _ h23) (fun _=>Q1l hM rfl) ?_
    obtain ⟨⟨r26,r27,r28⟩,h25,h⟩:=bnd h
    refine Rn.call (args:=[(Qa x10),(l_ x12),(l_ x24),(b_ false)]) tv rfl (H_projection_Lift _ _ _ _ _ h25) (fun _=>Q1l hM rfl) (Rn.mov (v:=.tup [(l_ r26),(b_ r27),(i_ r28)]) tv rfl (Rn.extTD (vs:=[(l_ r26),(b_ r27),(i_ r28)]) tv rfl rfl rfl (Rn.ext (v:=(b_ r27)) (vs:=[(l_ r26),(b_ r27),(i_ r28)]) tv rfl rfl rfl (Rn.ext (v:=(i_ r28)) (vs:=[(l_ r26),(b_ r27),(i_ r28)]) tv rfl rfl rfl (Rn.movTD tv rfl (md rfl (md rfl ?_)))))))
    refine Rn.nil ⟨rfl,?_⟩
    refine toN (Tr.seq ?_)
    refine Tr.cutB (fun (x34:Bool)=>⟨look [(7,.ptr (Γ.n0 + 7) 0),(11,(l_ x21)),(12,(l_ r26)),(79,(b_ x34))],Qp Γ.n0 (bxs [(3,.cells ([.d (.int .u8 s1.1),.d (.int .u8 s1.2)])),(4,.cells ([.d (.int .u8 g2.States),.d (.int .u8 g2.Marks),.d (.int .u8 g2.To.1.1),.d (.int .u8 g2.To.1.2.1),.d (.int .u8 g2.To.1.2.2.1),.d (.int .u8 g2.To.1.2.2.2.1),.d (.int .u8 g2.To.1.2.2.2.2),.d (.int .u8 g2.To.2.1.1),.d (.int .u8 g2.To.2.1.2.1),.d (.int .u8 g2.To.2.1.2.2.1),.d (.int .u8 g2.To.2.1.2.2.2.1),.d (.int .u8 g2.To.2.1.2.2.2.2),.d (.int .u8 g2.To.2.2.1.1),.d (.int .u8 g2.To.2.2.1.2.1),.d (.int .u8 g2.To.2.2.1.2.2.1),.d (.int .u8 g2.To.2.2.1.2.2.2.1),.d (.int .u8 g2.To.2.2.1.2.2.2.2),.d (.int .u8 g2.To.2.2.2.1.1),.d (.int .u8 g2.To.2.2.2.1.2.1),.d (.int .u8 g2.To.2.2.2.1.2.2.1),.d (.int .u8 g2.To.2.2.2.1.2.2.2.1),.d (.int .u8 g2.To.2.2.2.1.2.2.2.2),.d (.int .u8 g2.To.2.2.2.2.1),.d (.int .u8 g2.To.2.2.2.2.2.1),.d (.int .u8 g2.To.2.2.2.2.2.2.1),.d (.int .u8 g2.To.2.2.2.2.2.2.2.1),.d (.int .u8 g2.To.2.2.2.2.2.2.2.2)])),(7,.cells ((Qd x10)))]) M,Γ.n0 + 123⟩) h (fun z h=>?_) (fun z h=>?_)
    ·refine Tr.rgn (md rfl (Rn.bin tv rfl rfl rfl (md rfl ?_)))
     refine Qc0 (r28 != 0) (fun hb29=>?_) (fun hb29=>?_)
     ·replace h:=bT hb29 h
      refine Rn.sk (nw rfl hb29) (Rn.sk (nw rfl hb29) (Rn.pickT (v:=(b_ true)) tv rfl hb29 rfl (md rfl (Rn.sk (nw (b:=true) rfl rfl) (Rn.sk (nw (b:=true) rfl rfl) (Rn.sk (nw (b:=true) rfl rfl) (Rn.sk (nw (b:=true) rfl rfl) (Rn.sk (nw (b:=true) rfl rfl) (Rn.pickT (v:=(b_ true)) tv rfl rfl rfl (md rfl (Rn.sk (nw (b:=true) rfl rfl) (Rn.sk (nw (b:=true) rfl rfl) (Rn.sk (nw (b:=true) rfl rfl) (Rn.sk (nw (b:=true) rfl rfl) (Rn.sk (nw (b:=true) rfl rfl) (Rn.pickT (v:=(b_ true)) tv rfl rfl rfl (Rn.nil ?_)))))))))))))))))
      replace h:=si h; subst h
      exact Qj [] ⟨(kPtr rfl),(sm rfl),(sm rfl),(sm rfl),tv⟩ ⟨⟨_,rfl,rfl,(.same rfl)⟩,⟨_,rfl,rfl,(.same rfl)⟩,⟨_,rfl,rfl,(.same rfl)⟩,tv⟩ rfl
     ·replace h:=bF hb29 h
      refine Rn.movD (gw rfl hb29) rfl (Rn.un (gw rfl hb29) rfl rfl (Rn.pickF (v:=(b_ (!r27))) tv rfl hb29 rfl (md rfl ?_)))
      refine Qc0 r27 (fun hb30=>?_) (fun hb30=>?_)
      ·replace h:=bT hb30 h
       refine Rn.mov (v:=(l_ x12)) (gw rfl (nT hb30)) rfl (Rn.movD (gw rfl (nT hb30)) rfl (Rn.movD (gw rfl (nT hb30)) rfl ?_))
       obtain ⟨x32,h31,h⟩:=bnd h
       refine Rn.call (args:=[(l_ x12),(l_ r26),(l_ x21)]) (gw rfl (nT hb30)) rfl (H_projection_Alike _ _ _ _ h31) pc9 (Rn.un (gw rfl (nT hb30)) rfl rfl (Rn.pickF (v:=(b_ (!x32))) tv rfl (nT hb30) rfl (md rfl ?_)))
       refine Qc0 x32 (fun hb33=>?_) (fun hb33=>?_)
       ·replace h:=bT hb33 h
        refine Rn.movD (gw rfl (nT hb33)) rfl (Rn.lenD (gw rfl (nT hb33)) rfl (Rn.movD (gw rfl (nT hb33)) rfl (Rn.lenD (gw rfl (nT hb33)) rfl (Rn.bin (gw rfl (nT hb33)) rfl rfl rfl (Rn.pickF (v:=(b_ (decide ((r26.length:Int) > (x21.length:Int))))) tv rfl (nT hb33) rfl (Rn.nil ?_))))))
        replace h:=si h; subst h
        exact Qj [] ⟨(kPtr rfl),(sm rfl),(sm rfl),(sm rfl),tv⟩ ⟨⟨_,rfl,rfl,(.same rfl)⟩,⟨_,rfl,rfl,(.same rfl)⟩,⟨_,rfl,rfl,(.same rfl)⟩,tv⟩ rfl
       ·replace h:=bF hb33 h
        refine Rn.sk (nw rfl (nF hb33)) (Rn.sk (nw rfl (nF hb33)) (Rn.sk (nw rfl (nF hb33)) (Rn.sk (nw rfl (nF hb33)) (Rn.sk (nw rfl (nF hb33)) (Rn.pickT (v:=(b_ true)) tv rfl (nF hb33) rfl (Rn.nil ?_))))))
        replace h:=si h; subst h
        exact Qj [] ⟨(kPtr rfl),(sm rfl),(sm rfl),(sm rfl),tv⟩ ⟨⟨_,rfl,rfl,(.same rfl)⟩,⟨_,rfl,rfl,(.same rfl)⟩,⟨_,rfl,rfl,(.same rfl)⟩,tv⟩ rfl
      ·replace h:=bF hb30 h
       refine Rn.sk (nw rfl (nF hb30)) (Rn.sk (nw rfl (nF hb30)) (Rn.sk (nw rfl (nF hb30)) (Rn.sk (nw rfl (nF hb30)) (Rn.sk (nw rfl (nF hb30)) (Rn.pickT (v:=(b_ true)) tv rfl (nF hb30) rfl (md rfl (Rn.sk (nw (b:=true) rfl rfl) (Rn.sk (nw (b:=true) rfl rfl) (Rn.sk (nw (b:=true) rfl rfl) (Rn.sk (nw (b:=true) rfl rfl) (Rn.sk (nw (b:=true) rfl rfl) (Rn.pickT (v:=(b_ true)) tv rfl rfl rfl (Rn.nil ?_)))))))))))))
       replace h:=si h; subst h
       exact Qj [] ⟨(kPtr rfl),(sm rfl),(sm rfl),(sm rfl),tv⟩ ⟨⟨_,rfl,rfl,(.same rfl)⟩,⟨_,rfl,rfl,(.same rfl)⟩,⟨_,rfl,rfl,(.same rfl)⟩,tv⟩ rfl
    ·obtain ⟨x34,rfl⟩ : ∃ x,x = z:=⟨_,rfl⟩
     refine Tr.cond rfl (fun hb35=>?_) (fun hb35=>?_)
     ·replace h:=bT hb35 h
      refine sr ((md rfl (nt ((Tr.ret ?_)))))
      replace h:=si h; subst h
      exact ⟨.inr rfl,(b_ false),rfl,fun _ _ _ _ h=>h,tv,fun k hk=>Qf hk⟩
     ·replace h:=bF hb35 h
      refine Tr.skip (toN (sr ((Rn.load (v:=(Qa x10)) tv rfl (Qm rfl) rfl rfl (md rfl ?_)))))
      obtain ⟨⟨r37,r38⟩,h36,h⟩:=bnd h
      refine Rn.call (args:=[(Qa x10),(l_ r26)]) tv rfl (H_automaton_Generates _ _ _ h36) pc9 (Rn.mov (v:=.tup [(b_ r37),(i_ r38)]) tv rfl (Rn.ext (v:=(b_ r37)) (vs:=[(b_ r37),(i_ r38)]) tv rfl rfl rfl (Rn.ext (v:=(i_ r38)) (vs:=[(b_ r37),(i_ r38)]) tv rfl rfl rfl (md rfl (md rfl (nt ((Tr.seq ?_))))))))
      refine Tr.cutB (fun (x40:Bool)=>⟨look [(11,(l_ x21)),(12,(l_ r26)),(91,(b_ x40))],Qp Γ.n0 (bxs [(3,.cells ([.d (.int .u8 s1.1),.d (.int .u8 s1.2)])),(4,.cells ([.d (.int .u8 g2.States),.d (.int .u8 g2.Marks),.d (.int .u8 g2.To.1.1),.d (.int .u8 g2.To.1.2.1),.d (.int .u8 g2.To.1.2.2.1),.d (.int .u8 g2.To.1.2.2.2.1),.d (.int .u8 g2.To.1.2.2.2.2),.d (.int .u8 g2.To.2.1.1),.d (.int .u8 g2.To.2.1.2.1),.d (.int .u8 g2.To.2.1.2.2.1),.d (.int .u8 g2.To.2.1.2.2.2.1),.d (.int .u8 g2.To.2.1.2.2.2.2),.d (.int .u8 g2.To.2.2.1.1),.d (.int .u8 g2.To.2.2.1.2.1),.d (.int .u8 g2.To.2.2.1.2.2.1),.d (.int .u8 g2.To.2.2.1.2.2.2.1),.d (.int .u8 g2.To.2.2.1.2.2.2.2),.d (.int .u8 g2.To.2.2.2.1.1),.d (.int .u8 g2.To.2.2.2.1.2.1),.d (.int .u8 g2.To.2.2.2.1.2.2.1),.d (.int .u8 g2.To.2.2.2.1.2.2.2.1),.d (.int .u8 g2.To.2.2.2.1.2.2.2.2),.d (.int .u8 g2.To.2.2.2.2.1),.d (.int .u8 g2.To.2.2.2.2.2.1),.d (.int .u8 g2.To.2.2.2.2.2.2.1),.d (.int .u8 g2.To.2.2.2.2.2.2.2.1),.d (.int .u8 g2.To.2.2.2.2.2.2.2.2)])),(7,.cells ((Qd x10)))]) M,Γ.n0 + 123⟩) h (fun z h=>?_) (fun z h=>?_)
      ·refine Tr.rgn (md rfl (Rn.un tv rfl rfl (md rfl ?_)))
       refine Qc0 r37 (fun hb39=>?_) (fun hb39=>?_)
       ·replace h:=bT hb39 h
        refine Rn.movD (gw rfl (nT hb39)) rfl (Rn.bin (gw rfl (nT hb39)) rfl rfl rfl (Rn.pickF (v:=(b_ (r38 != 0))) tv rfl (nT hb39) rfl (Rn.nil ?_)))
        replace h:=si h; subst h
        exact Qj [] ⟨(sm rfl),(sm rfl),(sm rfl),tv⟩ ⟨⟨_,rfl,rfl,(.same rfl)⟩,⟨_,rfl,rfl,(.same rfl)⟩,⟨_,rfl,rfl,(.same rfl)⟩,tv⟩ rfl
       ·replace h:=bF hb39 h
        refine Rn.sk (nw rfl (nF hb39)) (Rn.sk (nw rfl (nF hb39)) (Rn.pickT (v:=(b_ true)) tv rfl (nF hb39) rfl (Rn.nil ?_)))
        replace h:=si h; subst h
        exact Qj [] ⟨(sm rfl),(sm rfl),(sm rfl),tv⟩ ⟨⟨_,rfl,rfl,(.same rfl)⟩,⟨_,rfl,rfl,(.same rfl)⟩,⟨_,rfl,rfl,(.same rfl)⟩,tv⟩ rfl
      ·obtain ⟨x40,rfl⟩ : ∃ x,x = z:=⟨_,rfl⟩
       refine Tr.cond rfl (fun hb41=>?_) (fun hb41=>?_)
       ·replace h:=bT hb41 h
        refine sr ((md rfl (nt ((Tr.ret ?_)))))
        replace h:=si h; subst h
        exact ⟨.inr rfl,(b_ false),rfl,fun _ _ _ _ h=>h,tv,fun k hk=>Qf hk⟩
       ·replace h:=bF hb41 h
        refine Tr.skip (toN (Tr.seq (sr ((md rfl (nt ((Tr.block ?_))))))))
        refine Tr.loop (mk:=fun (i42:Int)=>⟨look [(11,(l_ x21)),(12,(l_ r26)),(17,(i_ i42))],Qp Γ.n0 (bxs [(3,.cells ([.d (.int .u8 s1.1),.d (.int .u8 s1.2)])),(4,.cells ([.d (.int .u8 g2.States),.d (.int .u8 g2.Marks),.d (.int .u8 g2.To.1.1),.d (.int .u8 g2.To.1.2.1),.d (.int .u8 g2.To.1.2.2.1),.d (.int .u8 g2.To.1.2.2.2.1),.d (.int .u8 g2.To.1.2.2.2.2),.d (.int .u8 g2.To.2.1.1),.d (.int .u8 g2.To.2.1.2.1),.d (.int .u8 g2.To.2.1.2.2.1),.d (.int .u8 g2.To.2.1.2.2.2.1),.d (.int .u8 g2.To.2.1.2.2.2.2),.d (.int .u8 g2.To.2.2.1.1),.d (.int .u8 g2.To.2.2.1.2.1),.d (.int .u8 g2.To.2.2.1.2.2.1),.d (.int .u8 g2.To.2.2.1.2.2.2.1),.d (.int .u8 g2.To.2.2.1.2.2.2.2),.d (.int .u8 g2.To.2.2.2.1.1),.d (.int .u8 g2.To.2.2.2.1.2.1),.d (.int .u8 g2.To.2.2.2.1.2.2.1),.d (.int .u8 g2.To.2.2.2.1.2.2.2.1),.d (.int .u8 g2.To.2.2.2.1.2.2.2.2),.d (.int .u8 g2.To.2.2.2.2.1),.d (.int .u8 g2.To.2.2.2.2.2.1),.d (.int .u8 g2.To.2.2.2.2.2.2.1),.d (.int .u8 g2.To.2.2.2.2.2.2.2.1),.d (.int .u8 g2.To.2.2.2.2.2.2.2.2)])),(7,.cells ((Qd x10)))]) M,Γ.n0 + 123⟩) h (by exact Ql ⟨(sm rfl),(sm rfl),(sm rfl),tv⟩ ⟨⟨_,rfl,rfl,(.same rfl)⟩,⟨_,rfl,rfl,(.same rfl)⟩,⟨_,rfl,rfl,(.same rfl)⟩,tv⟩ rfl) (fun k43 z h=>?_)
        ·obtain ⟨i42,rfl⟩ : ∃ x,x = z:=⟨_,rfl⟩
         replace h:_ = some _:=h
         refine Tr.seq ?_
         refine Tr.cutB (fun (x45:Bool)=>⟨look [(11,(l_ x21)),(12,(l_ r26)),(17,(i_ i42)),(102,(b_ x45))],Qp Γ.n0 (bxs [(3,.cells ([.d (.int .u8 s1.1),.d (.int .u8 s1.2)])),(4,.cells ([.d (.int .u8 g2.States),.d (.int .u8 g2.Marks),.d (.int .u8 g2.To.1.1),.d (.int .u8 g2.To.1.2.1),.d (.int .u8 g2.To.1.2.2.1),.d (.int .u8 g2.To.1.2.2.2.1),.d (.int .u8 g2.To.1.2.2.2.2),.d (.int .u8 g2.To.2.1.1),.d (.int .u8 g2.To.2.1.2.1),.d (.int .u8 g2.To.2.1.2.2.1),.d (.int .u8 g2.To.2.1.2.2.2.1),.d (.int .u8 g2.To.2.1.2.2.2.2),.d (.int .u8 g2.To.2.2.1.1),.d (.int .u8 g2.To.2.2.1.2.1),.d (.int .u8 g2.To.2.2.1.2.2.1),.d (.int .u8 g2.To.2.2.1.2.2.2.1),.d (.int .u8 g2.To.2.2.1.2.2.2.2),.d (.int .u8 g2.To.2.2.2.1.1),.d (.int .u8 g2.To.2.2.2.1.2.1),.d (.int .u8 g2.To.2.2.2.1.2.2.1),.d (.int .u8 g2.To.2.2.2.1.2.2.2.1),.d (.int .u8 g2.To.2.2.2.1.2.2.2.2),.d (.int .u8 g2.To.2.2.2.2.1),.d (.int .u8 g2.To.2.2.2.2.2.1),.d (.int .u8 g2.To.2.2.2.2.2.2.1),.d (.int .u8 g2.To.2.2.2.2.2.2.2.1),.d (.int .u8 g2.To.2.2.2.2.2.2.2.2)])),(7,.cells ((Qd x10)))]) M,Γ.n0 + 123⟩) h (fun z h=>?_) (fun z h=>?_)
         ·refine Tr.rgn (md rfl (md rfl (Rn.lenD tv rfl (Rn.bin tv rfl rfl rfl (md rfl ?_)))))
          refine Qc0 (decide (i42 < (r26.length:Int))) (fun hb44=>?_) (fun hb44=>?_)
          ·replace h:=ifT hb44 h
           refine Rn.movD (gw rfl hb44) rfl (Rn.lenD (gw rfl hb44) rfl (Rn.movD (gw rfl hb44) rfl (Rn.lenD (gw rfl hb44) rfl (Rn.bin (gw rfl hb44) rfl rfl rfl (Rn.pickT (v:=(b_ ((r26.length:Int) == (x21.length:Int)))) tv rfl hb44 rfl (Rn.nil ?_))))))
           replace h:=si h; subst h
           exact Qj [] ⟨(sm rfl),(sm rfl),(sm rfl),(sm rfl),tv⟩ ⟨⟨_,rfl,rfl,(.same rfl)⟩,⟨_,rfl,rfl,(.same rfl)⟩,⟨_,rfl,rfl,(.same rfl)⟩,tv⟩ rfl
          ·replace h:=ifF hb44 h
           refine Rn.sk (nw rfl hb44) (Rn.sk (nw rfl hb44) (Rn.sk (nw rfl hb44) (Rn.sk (nw rfl hb44) (Rn.sk (nw rfl hb44) (Rn.pickF (v:=(b_ false)) tv rfl hb44 rfl (Rn.nil ?_))))))
           replace h:=si h; subst h
           exact Qj [] ⟨(sm rfl),(sm rfl),(sm rfl),(sm rfl),tv⟩ ⟨⟨_,rfl,rfl,(.same rfl)⟩,⟨_,rfl,rfl,(.same rfl)⟩,⟨_,rfl,rfl,(.same rfl)⟩,tv⟩ rfl
         ·obtain ⟨x45,rfl⟩ : ∃ x,x = z:=⟨_,rfl⟩
          refine Tr.cond rfl (fun hb46=>?_) (fun hb46=>?_)
          ·replace h:=bT hb46 h
           refine Tr.skip (toN (Tr.seq (Tr.block (Tr.seq ?_))))
           refine Tr.rgnD (by decide) ?_
           refine md rfl (md rfl ?_)
           obtain ⟨x47,h48,h⟩:=bnd h
           refine Rn.idxD (e:=(eI .i64)) tv rfl rfl h48 (Rn.loadC (x:=.int .i64 x47) tv rfl (md rfl (md rfl ?_)))
           obtain ⟨x49,h50,h⟩:=bnd h
           refine Rn.idxD (e:=(eI .i64)) tv rfl rfl h50 (Rn.loadC (x:=.int .i64 x49) tv rfl (Rn.bin tv rfl rfl rfl ?_))
           refine Rn.nil ⟨rfl,?_⟩
           refine toN ?_
           refine Tr.cond rfl (fun hb51=>?_) (fun hb51=>?_)
           ·replace h:=bT hb51 h
            refine Tr.seq ?_
            refine Tr.rgnD (by decide) ?_
            refine md rfl (md rfl ?_)
            obtain ⟨x52,h53,h⟩:=bnd h
            refine Rn.idxD (e:=(eI .i64)) tv rfl rfl h53 (Rn.loadC (x:=.int .i64 x52) tv rfl (md rfl (md rfl ?_)))
            obtain ⟨x54,h55,h⟩:=bnd h
            refine Rn.idxD (e:=(eI .i64)) tv rfl rfl h55 (Rn.loadC (x:=.int .i64 x54) tv rfl (Rn.bin tv rfl rfl rfl (md rfl ?_)))
            refine Rn.nil ⟨rfl,?_⟩
            refine toN (Tr.ret ?_)
            replace h:=si h; subst h
            exact ⟨.inr rfl,(b_ (decide (x52 < x54))),rfl,fun _ _ _ _ h=>h,tv,fun k hk=>Qf hk⟩
           ·replace h:=bF hb51 h
            refine Tr.skip (toN (Tr.rgn (md rfl (Rn.bin tv rfl rfl rfl (md rfl (Rn.nil ?_))))))
            exact ⟨_,h,(by exact Ql ⟨(sm rfl),(sm rfl),(sm rfl),tv⟩ ⟨⟨_,rfl,rfl,(.same rfl)⟩,⟨_,rfl,rfl,(.same rfl)⟩,⟨_,rfl,rfl,(.same rfl)⟩,tv⟩ rfl)⟩
          ·replace h:=bF hb46 h
           refine Tr.exit (toN (sr ((md rfl (nt ((Tr.ret ?_)))))))
           replace h:=si h; subst h
           exact ⟨.inr rfl,(b_ true),rfl,fun _ _ _ _ h=>h,tv,fun k hk=>Qf hk⟩
theorem Qsn {P:Program} {c:Nat} {Qs:Qb→Option Int}
    (H_automaton_Check:Qdk P 46 Qs) (hcf:Qu P c = some Qha):Qg9 P c (Qcc Qs):=by
 intro a1 state2 r h
 refine Qcf hcf rfl fun Γ M hP hnt hM=>?_
 subst hP
 refine Tr.init [(0,(Qa a1)),(1,(i_ state2))] rfl ?_
 unfold Qcc at h
 unfold Qha
 refine sr ((Rn.box (v:=(Qa a1)) (cs:=(Qd a1)) tv rfl rfl rfl rfl rfl (md rfl (nt ((Tr.seq (sr ((Rn.load (v:=(Qa a1)) tv rfl (Qm rfl) rfl rfl ?_)))))))))
 obtain ⟨x4,h3,h⟩:=bnd h
 refine Rn.call (args:=[(Qa a1)]) tv rfl (H_automaton_Check _ _ h3) pc9 (md rfl (nt ((sr ((md rfl (Rn.bin tv rfl rfl rfl (Rn.nil (toN ?_)))))))))
 refine Tr.cond rfl (fun hb5=>?_) (fun hb5=>?_)
 ·replace h:=bT hb5 h
  refine sr ((md rfl (md rfl (nt ((Tr.ret ?_))))))
  replace h:=si h; subst h
  exact ⟨.inr rfl,(i_ x4),rfl,fun _ _ _ _ h=>h,tv,fun k hk=>Qf hk⟩
 ·replace h:=bF hb5 h
  refine Tr.skip (toN (Tr.seq ?_))
  refine Tr.cutB (fun (x7:Bool)=>⟨look [(18,(b_ x7))],Qp Γ.n0 (bxs [(2,.cells ((Qd a1)))]) M,Γ.n0 + 19⟩) h (fun z h=>?_) (fun z h=>?_)
  ·refine Tr.rgn (md rfl (Rn.bin tv rfl rfl rfl (md rfl ?_)))
   refine Qc0 (decide (state2 < 0)) (fun hb6=>?_) (fun hb6=>?_)
   ·replace h:=ifT hb6 h
    refine Rn.sk (nw rfl hb6) (Rn.sk (nw rfl hb6) (Rn.sk (nw rfl hb6) (Rn.sk (nw rfl hb6) (Rn.pickT (v:=(b_ true)) tv rfl hb6 rfl (Rn.nil ?_)))))
    replace h:=si h; subst h
    exact Qj [] ⟨(sm rfl),tv⟩ ⟨⟨_,rfl,rfl,(.same rfl)⟩,tv⟩ rfl
   ·replace h:=ifF hb6 h
    refine Rn.movD (gw rfl hb6) rfl (Rn.fldP (o':=1) (gw rfl hb6) rfl rfl (Rn.load (v:=(i_ a1.States)) (gw rfl hb6) rfl (Qm rfl) rfl rfl (Rn.bin (gw rfl hb6) rfl rfl rfl (Rn.pickF (v:=(b_ (decide (state2≥a1.States)))) tv rfl hb6 rfl (Rn.nil ?_)))))
    replace h:=si h; subst h
    exact Qj [] ⟨(sm rfl),tv⟩ ⟨⟨_,rfl,rfl,(.same rfl)⟩,tv⟩ rfl
  ·obtain ⟨x7,rfl⟩ : ∃ x,x = z:=⟨_,rfl⟩
   refine Tr.cond rfl (fun hb8=>?_) (fun hb8=>?_)
   ·replace h:=bT hb8 h
    refine sr ((md rfl (nt ((Tr.ret ?_)))))
    replace h:=si h; subst h
    exact ⟨.inr rfl,(i_ 2),rfl,fun _ _ _ _ h=>h,tv,fun k hk=>Qf hk⟩
   ·replace h:=bF hb8 h
    refine Tr.skip (toN (sr ((md rfl (nt ((Tr.ret ?_)))))))
    replace h:=si h; subst h
    exact ⟨.inr rfl,(i_ 0),rfl,fun _ _ _ _ h=>h,tv,fun k hk=>Qf hk⟩
theorem Q57 {P:Program} {c:Nat} {Qg:(List Int)→Int→Option Bool}
    (H_slices_Contains_int:Qbp P 56 Qg) (hcf:Qu P c = some Qmi):Qmh P c (Qdm Qg):=by
 intro x1 x2 k3 r h
 intro M nb hk4
 refine Qba3 hcf rfl M nb fun Γ hP hnt hn0 hM=>?_
 subst hP hn0
 refine Tr.init [(0,(i_ x1)),(1,.ptr k3 0)] rfl ?_
 unfold Qdm at h
 unfold Qmi
 refine sr ((md rfl (nt ((sr ((Rn.fldP (o':=0) tv rfl rfl (Rn.load (v:=(l_ x2.Alphabet)) tv rfl (Qbe5 hM hk4) rfl rfl (md rfl ?_)))))))))
 obtain ⟨x6,h5,h⟩:=bnd h
 refine Rn.call (args:=[(l_ x2.Alphabet),(i_ x1)]) tv rfl (H_slices_Contains_int _ _ _ h5) pc9 (Rn.un tv rfl rfl (md rfl (nt ((Tr.ret ?_)))))
 replace h:=si h; subst h
 exact ⟨.inr rfl,(b_ (!x6)),rfl,fun _ _ _ _ h=>h,tv,fun k hk=>Qf hk⟩
theorem Q9a {P:Program} {c:Nat} {Qcc:Qb→Int→Option Int} {Qt:(List Int)→(Int→Option Bool)→Option Bool} {Qdm:Int→Qb→Option Bool} {Qbq:Qb→Int→(List Int)→Option (Int×Int)}
    (H_automaton_checkState:Qg9 P 57 Qcc)
    (H_slices_ContainsFunc_int:Qde P 58 Qt)
    (H_automaton_Run_1:Qmh P 59 Qdm)
    (H_automaton_follow:Qhe P 60 Qbq) (hcf:Qu P c = some Qqp):Qqo P c (Qdt Qcc Qt Qdm Qbq):=by
 intro a1 xfrom2 word3 r h
 refine Qcf hcf rfl fun Γ M hP hnt hM=>?_
 subst hP
 refine Tr.init [(0,(Qa a1)),(1,(i_ xfrom2)),(2,(l_ word3))] rfl ?_
 unfold Qdt at h
 unfold Qqp
 refine sr ((Rn.box (v:=(Qa a1)) (cs:=(Qd a1)) tv rfl rfl rfl rfl rfl (md rfl (md rfl (md rfl (nt ((Tr.seq (sr ((Rn.load (v:=(Qa a1)) tv rfl (Qm rfl) rfl rfl (md rfl ?_))))))))))))
 obtain ⟨x5,h4,h⟩:=bnd h
 refine Rn.call (args:=[(Qa a1),(i_ xfrom2)]) tv rfl (H_automaton_checkState _ _ _ h4) pc9 (md rfl (nt ((sr ((md rfl (Rn.bin tv rfl rfl rfl (Rn.nil (toN ?_)))))))))
 refine Tr.cond rfl (fun hb6=>?_) (fun hb6=>?_)
 ·replace h:=bT hb6 h
  refine sr ((md rfl (md rfl (md rfl (md rfl (nt ((Tr.ret ?_))))))))
  replace h:=si h; subst h
  exact ⟨.inr rfl,.tup [(i_ 0),(i_ 0),(i_ x5)],res3 rfl rfl rfl,(WkV.tup (.cons (.same rfl) (.cons (.same rfl) (.cons (.same rfl) .nil)))).rd,⟨tv,tv,tv,tv⟩,fun k hk=>Qf hk⟩
 ·replace h:=bF hb6 h
  refine Tr.skip (toN (Tr.seq (sr ((md rfl (Rn.k (v:=.clo 59 [.ptr (Γ.n0 + 3) 0]) tv rfl rfl rfl ?_))))))
  obtain ⟨x11,h10,h⟩:=bnd h
  refine Rn.callM (args:=[(l_ word3),.clo 59 [.ptr (Γ.n0 + 3) 0]]) tv rfl (fun M2 nb2 hn hx=>H_slices_ContainsFunc_int _ _ 59 [.ptr (Γ.n0 + 3) 0] _ h10 M2 nb2 rfl ⟨Qbcg (hx _ _ (Qm rfl)),tv⟩ (fun a7 r8 h9 M3 nb3 hn3 hx3=>H_automaton_Run_1 a7 a1 (Γ.n0 + 3) r8 h9 M3 nb3 ((hx.trans hx3) _ _ (Qm rfl)))) rfl pc9 ?_
  refine Rn.nil (toN ?_)
  refine Tr.cond rfl (fun hb12=>?_) (fun hb12=>?_)
  ·replace h:=bT hb12 h
   refine sr ((md rfl (md rfl (md rfl (nt ((Tr.ret ?_)))))))
   replace h:=si h; subst h
   exact ⟨.inr rfl,.tup [(i_ 0),(i_ 0),(i_ 9)],res3 rfl rfl rfl,(WkV.tup (.cons (.same rfl) (.cons (.same rfl) (.cons (.same rfl) .nil)))).rd,⟨tv,tv,tv,tv⟩,fun k hk=>Qf hk⟩
  ·replace h:=bF hb12 h
   refine Tr.skip (toN (sr ((Rn.load (v:=(Qa a1)) tv rfl (Qm rfl) rfl rfl (md rfl (md rfl ?_))))))
   obtain ⟨⟨r14,r15⟩,h13,h⟩:=bnd h
   refine Rn.call (args:=[(Qa a1),(i_ xfrom2),(l_ word3)]) tv rfl (H_automaton_follow _ _ _ _ h13) pc9 (Rn.mov (v:=.tup [(i_ r14),(i_ r15)]) tv rfl (Rn.ext (v:=(i_ r14)) (vs:=[(i_ r14),(i_ r15)]) tv rfl rfl rfl (Rn.ext (v:=(i_ r15)) (vs:=[(i_ r14),(i_ r15)]) tv rfl rfl rfl (md rfl (md rfl (nt ((sr ((md rfl (md rfl (md rfl (md rfl (md rfl (nt ((Tr.ret ?_)))))))))))))))))
   replace h:=si h; subst h
   exact ⟨.inr rfl,.tup [(i_ r14),(i_ r15),(i_ 0)],res3 rfl rfl rfl,(WkV.tup (.cons (.same rfl) (.cons (.same rfl) (.cons (.same rfl) .nil)))).rd,⟨tv,tv,tv,tv⟩,fun k hk=>Qf hk⟩
theorem Q0x {P:Program} {c:Nat} (hcf:Qu P c = some Qjd) (fuel:Nat):Qjc P c (Qc4 fuel):=by
 intro l1 n2 r h
 refine Qcf hcf rfl fun Γ M hP hnt hM=>?_
 subst hP
 refine Tr.init [(0,(l_ l1)),(1,(i_ n2))] rfl ?_
 unfold Qc4 at h
 unfold Qjd
 refine sr ((md rfl (nt ((Tr.seq (sr ((md rfl (nt ((Tr.block ?_)))))))))))
 refine Tr.loop (mk:=fun (i3:Int)=>⟨look [(0,(l_ l1)),(1,(i_ n2)),(5,(i_ i3))],Qp Γ.n0 (bxs []) M,Γ.n0 + 18⟩) h (by exact Ql ⟨(sm rfl),(sm rfl),(sm rfl),tv⟩ tv rfl) (fun k4 z h=>?_)
 ·obtain ⟨i3,rfl⟩ : ∃ x,x = z:=⟨_,rfl⟩
  replace h:_ = some _:=h
  refine Tr.seq (sr ((md rfl (md rfl (Rn.lenD tv rfl (Rn.bin tv rfl rfl rfl (Rn.nil (toN ?_))))))))
  refine Tr.cond rfl (fun hb5=>?_) (fun hb5=>?_)
  ·replace h:=ifT hb5 h
   refine Tr.skip (toN (Tr.seq (Tr.block (sr ((md rfl (md rfl ?_)))))))
   obtain ⟨x6,h7,h⟩:=bnd h
   refine Rn.idxD (e:=(eI .i64)) tv rfl rfl h7 (Rn.loadC (x:=.int .i64 x6) tv rfl (md rfl (Rn.bin tv rfl rfl rfl (Rn.nil (toN ?_)))))
   refine Tr.cond rfl (fun hb8=>?_) (fun hb8=>?_)
   ·replace h:=bT hb8 h
    refine sr ((md rfl (nt ((Tr.ret ?_)))))
    replace h:=si h; subst h
    exact ⟨.inr rfl,(b_ true),rfl,fun _ _ _ _ h=>h,tv,fun k hk=>Qf hk⟩
   ·replace h:=bF hb8 h
    refine Tr.skip (toN (Tr.rgn (md rfl (Rn.bin tv rfl rfl rfl (md rfl (Rn.nil ?_))))))
    exact ⟨_,h,(by exact Ql ⟨(sm rfl),(sm rfl),(sm rfl),tv⟩ tv rfl)⟩
  ·replace h:=ifF hb5 h
   refine Tr.exit (toN (sr ((md rfl (nt ((Tr.ret ?_)))))))
   replace h:=si h; subst h
   exact ⟨.inr rfl,(b_ false),rfl,fun _ _ _ _ h=>h,tv,fun k hk=>Qf hk⟩
theorem Q0y {P:Program} {c:Nat} {Qs:Qb→Option Int} {Qg:(List Int)→Int→Option Bool} {Qbn:Qb→(List Int)→Option (Int×Bool)}
    (H_automaton_Check:Qdk P 46 Qs)
    (H_slices_Contains_int:Qbp P 56 Qg)
    (H_automaton_reached:Qgr P 61 Qbn) (hcf:Qu P c = some Qjf):Qje P c (Qck Qs Qg Qbn):=by
 intro a1 word2 r h
 refine Qcf hcf rfl fun Γ M hP hnt hM=>?_
 subst hP
 refine Tr.init [(0,(Qa a1)),(1,(l_ word2))] rfl ?_
 unfold Qck at h
 unfold Qjf
 refine sr ((Rn.box (v:=(Qa a1)) (cs:=(Qd a1)) tv rfl rfl rfl rfl rfl (md rfl (md rfl (nt ((Tr.seq (sr ((Rn.load (v:=(Qa a1)) tv rfl (Qm rfl) rfl rfl ?_))))))))))
 obtain ⟨x4,h3,h⟩:=bnd h
 refine Rn.call (args:=[(Qa a1)]) tv rfl (H_automaton_Check _ _ h3) pc9 (md rfl (nt ((sr ((md rfl (Rn.bin tv rfl rfl rfl (Rn.nil (toN ?_)))))))))
 refine Tr.cond rfl (fun hb5=>?_) (fun hb5=>?_)
 ·replace h:=bT hb5 h
  refine sr ((md rfl (md rfl (md rfl (nt ((Tr.ret ?_)))))))
  replace h:=si h; subst h
  exact ⟨.inr rfl,.tup [(b_ false),(i_ x4)],res2 rfl rfl,(WkV.tup (.cons (.same rfl) (.cons (.same rfl) .nil))).rd,⟨tv,tv,tv⟩,fun k hk=>Qf hk⟩
 ·replace h:=bF hb5 h
  refine Tr.skip (toN (sr ((Rn.load (v:=(Qa a1)) tv rfl (Qm rfl) rfl rfl (md rfl ?_)))))
  obtain ⟨⟨r7,r8⟩,h6,h⟩:=bnd h
  refine Rn.call (args:=[(Qa a1),(l_ word2)]) tv rfl (H_automaton_reached _ _ _ h6) pc9 (Rn.mov (v:=.tup [(i_ r7),(b_ r8)]) tv rfl (Rn.ext (v:=(i_ r7)) (vs:=[(i_ r7),(b_ r8)]) tv rfl rfl rfl (Rn.ext (v:=(b_ r8)) (vs:=[(i_ r7),(b_ r8)]) tv rfl rfl rfl (md rfl (md rfl (nt ((sr ((md rfl (md rfl ?_)))))))))))
  refine Qc0 r8 (fun hb9=>?_) (fun hb9=>?_)
  ·replace h:=bT hb9 h
   refine Rn.fldP (o':=2) (gw rfl hb9) rfl rfl (Rn.load (v:=(l_ a1.Marked)) (gw rfl hb9) rfl (Qm rfl) rfl rfl (Rn.movD (gw rfl hb9) rfl ?_))
   obtain ⟨x11,h10,h⟩:=bnd h
   refine Rn.call (args:=[(l_ a1.Marked),(i_ r7)]) (gw rfl hb9) rfl (H_slices_Contains_int _ _ _ h10) pc9 (Rn.pickT (v:=(b_ x11)) tv rfl hb9 rfl (md rfl (md rfl (nt ((Tr.ret ?_))))))
   replace h:=si h; subst h
   exact ⟨.inr rfl,.tup [(b_ x11),(i_ 0)],res2 rfl rfl,(WkV.tup (.cons (.same rfl) (.cons (.same rfl) .nil))).rd,⟨tv,tv,tv⟩,fun k hk=>Qf hk⟩
  ·replace h:=bF hb9 h
   refine Rn.sk (nw rfl hb9) (Rn.sk (nw rfl hb9) (Rn.sk (nw rfl hb9) (Rn.sk (nw rfl hb9) (Rn.pickF (v:=(b_ false)) tv rfl hb9 rfl (md rfl (md rfl (nt ((Tr.ret ?_)))))))))
   replace h:=si h; subst h
   exact ⟨.inr rfl,.tup [(b_ false),(i_ 0)],res2 rfl rfl,(WkV.tup (.cons (.same rfl) (.cons (.same rfl) .nil))).rd,⟨tv,tv,tv⟩,fun k hk=>Qf hk⟩
theorem Qkf {P:Program} {c:Nat} {Qbi:Option Bool} {Qbg:(List Int)→Qz→Option Qb} {Qx:Int→Option ((List Int))} {Qbo:Qb→(List Int)→Option (Qb×(List (List Int))×Int)} {Qc4:(List Int)→Int→Option Bool} {Qbv:Qb→Int→Bool→Option ((List (List Int))×Int)} {Q7:(List Int)→(List Int)→Option ((List Int))} {Qdt:Qb→Int→(List Int)→Option (Int×Int×Int)} {Qck:Qb→(List Int)→Option (Bool×Int)}
    (H_overseerlaw07_known:Qfk P 8 Qbi)
    (H_overseerlaw03_Make:Qf6 P 10 Qbg)
    (H_overseerlaw03_Set_Events:Qd2 P 11 Qx)
    (H_projection_Project:Qf4 P 12 Qbo)
    (H_overseerlaw03_Has:Qjc P 22 Qc4)
    (H_automaton_Words:Qib P 27 Qbv)
    (H_overseerref07_Observe:Qez P 28 Q7)
    (H_automaton_Run:Qqo P 29 Qdt)
    (H_automaton_Accepts:Qje P 30 Qck) (hcf:Qu P c = some Qd6) (fuel:Nat):Qgf P c (Qd7 Qbi Qbg Qx Qbo Qc4 Qbv Q7 Qdt Qck fuel):=by
 intro s1 g2 r h
 refine Qcf hcf rfl fun Γ M hP hnt hM=>?_
 subst hP
 refine Tr.init [(0,.agg [.d (.int .u8 s1.1),.d (.int .u8 s1.2)]),(1,.agg [.d (.int .u8 g2.States),.d (.int .u8 g2.Marks),.d (.int .u8 g2.To.1.1),.d (.int .u8 g2.To.1.2.1),.d (.int .u8 g2.To.1.2.2.1),.d (.int .u8 g2.To.1.2.2.2.1),.d (.int .u8 g2.To.1.2.2.2.2),.d (.int .u8 g2.To.2.1.1),.d (.int .u8 g2.To.2.1.2.1),.d (.int .u8 g2.To.2.1.2.2.1),.d (.int .u8 g2.To.2.1.2.2.2.1),.d (.int .u8 g2.To.2.1.2.2.2.2),.d (.int .u8 g2.To.2.2.1.1),.d (.int .u8 g2.To.2.2.1.2.1),.d (.int .u8 g2.To.2.2.1.2.2.1),.d (.int .u8 g2.To.2.2.1.2.2.2.1),.d (.int .u8 g2.To.2.2.1.2.2.2.2),.d (.int .u8 g2.To.2.2.2.1.1),.d (.int .u8 g2.To.2.2.2.1.2.1),.d (.int .u8 g2.To.2.2.2.1.2.2.1),.d (.int .u8 g2.To.2.2.2.1.2.2.2.1),.d (.int .u8 g2.To.2.2.2.1.2.2.2.2),.d (.int .u8 g2.To.2.2.2.2.1),.d (.int .u8 g2.To.2.2.2.2.2.1),.d (.int .u8 g2.To.2.2.2.2.2.2.1),.d (.int .u8 g2.To.2.2.2.2.2.2.2.1),.d (.int .u8 g2.To.2.2.2.2.2.2.2.2)])] rfl ?_
 unfold Qd7 at h
 unfold Qd6
 refine sr ((Rn.box (v:=.agg [.d (.int .u8 s1.1),.d (.int .u8 s1.2)]) (cs:=[.d (.int .u8 s1.1),.d (.int .u8 s1.2)]) tv rfl rfl rfl rfl rfl (Rn.box (v:=.agg [.d (.int .u8 g2.States),.d (.int .u8 g2.Marks),.d (.int .u8 g2.To.1.1),.d (.int .u8 g2.To.1.2.1),.d (.int .u8 g2.To.1.2.2.1),.d (.int .u8 g2.To.1.2.2.2.1),.d (.int .u8 g2.To.1.2.2.2.2),.d (.int .u8 g2.To.2.1.1),.d (.int .u8 g2.To.2.1.2.1),.d (.int .u8 g2.To.2.1.2.2.1),.d (.int .u8 g2.To.2.1.2.2.2.1),.d (.int .u8 g2.To.2.1.2.2.2.2),.d (.int .u8 g2.To.2.2.1.1),.d (.int .u8 g2.To.2.2.1.2.1),.d (.int .u8 g2.To.2.2.1.2.2.1),.d (.int .u8 g2.To.2.2.1.2.2.2.1),.d (.int .u8 g2.To.2.2.1.2.2.2.2),.d (.int .u8 g2.To.2.2.2.1.1),.d (.int .u8 g2.To.2.2.2.1.2.1),.d (.int .u8 g2.To.2.2.2.1.2.2.1),.d (.int .u8 g2.To.2.2.2.1.2.2.2.1),.d (.int .u8 g2.To.2.2.2.1.2.2.2.2),.d (.int .u8 g2.To.2.2.2.2.1),.d (.int .u8 g2.To.2.2.2.2.2.1),.d (.int .u8 g2.To.2.2.2.2.2.2.1),.d (.int .u8 g2.To.2.2.2.2.2.2.2.1),.d (.int .u8 g2.To.2.2.2.2.2.2.2.2)]) (cs:=[.d (.int .u8 g2.States),.d (.int .u8 g2.Marks),.d (.int .u8 g2.To.1.1),.d (.int .u8 g2.To.1.2.1),.d (.int .u8 g2.To.1.2.2.1),.d (.int .u8 g2.To.1.2.2.2.1),.d (.int .u8 g2.To.1.2.2.2.2),.d (.int .u8 g2.To.2.1.1),.d (.int .u8 g2.To.2.1.2.1),.d (.int .u8 g2.To.2.1.2.2.1),.d (.int .u8 g2.To.2.1.2.2.2.1),.d (.int .u8 g2.To.2.1.2.2.2.2),.d (.int .u8 g2.To.2.2.1.1),.d (.int .u8 g2.To.2.2.1.2.1),.d (.int .u8 g2.To.2.2.1.2.2.1),.d (.int .u8 g2.To.2.2.1.2.2.2.1),.d (.int .u8 g2.To.2.2.1.2.2.2.2),.d (.int .u8 g2.To.2.2.2.1.1),.d (.int .u8 g2.To.2.2.2.1.2.1),.d (.int .u8 g2.To.2.2.2.1.2.2.1),.d (.int .u8 g2.To.2.2.2.1.2.2.2.1),.d (.int .u8 g2.To.2.2.2.1.2.2.2.2),.d (.int .u8 g2.To.2.2.2.2.1),.d (.int .u8 g2.To.2.2.2.2.2.1),.d (.int .u8 g2.To.2.2.2.2.2.2.1),.d (.int .u8 g2.To.2.2.2.2.2.2.2.1),.d (.int .u8 g2.To.2.2.2.2.2.2.2.2)]) tv rfl rfl rfl rfl rfl (md rfl (nt ((Tr.seq (Tr.seq (Tr.rgn ?_)))))))))
 obtain ⟨x4,h3,h⟩:=bnd h
 refine Rn.call (args:=[]) tv rfl (H_overseerlaw07_known _ h3) pc9 (Rn.un tv rfl rfl (Rn.nil (toN ?_)))
 refine Tr.cond rfl (fun hb5=>?_) (fun hb5=>?_)
 ·have hb5:=nT' hb5
  replace h:=bF hb5 h
  refine sr ((md rfl (nt ((Tr.ret ?_)))))
  replace h:=si h; subst h
  exact ⟨.inr rfl,(b_ false),rfl,fun _ _ _ _ h=>h,tv,fun k hk=>Qf hk⟩
 ·have hb5:=nF' hb5
  replace h:=bT hb5 h
  refine Tr.skip (toN (Tr.seq ?_))
  refine Tr.rgnD (by decide) ?_
  refine Rn.k (v:=.ptr (Γ.n0 + 2) 0) tv rfl rfl rfl (Rn.load (v:=.d (.int .u8 s1.1)) tv rfl (Qm rfl) rfl rfl ?_)
  obtain ⟨x7,h6,h⟩:=bnd h
  refine Rn.call (args:=[.d (.int .u8 s1.1)]) tv rfl (H_overseerlaw03_Set_Events _ _ h6) (fun _=>Q1l hM rfl) (Rn.load (v:=.agg [.d (.int .u8 g2.States),.d (.int .u8 g2.Marks),.d (.int .u8 g2.To.1.1),.d (.int .u8 g2.To.1.2.1),.d (.int .u8 g2.To.1.2.2.1),.d (.int .u8 g2.To.1.2.2.2.1),.d (.int .u8 g2.To.1.2.2.2.2),.d (.int .u8 g2.To.2.1.1),.d (.int .u8 g2.To.2.1.2.1),.d (.int .u8 g2.To.2.1.2.2.1),.d (.int .u8 g2.To.2.1.2.2.2.1),.d (.int .u8 g2.To.2.1.2.2.2.2),.d (.int .u8 g2.To.2.2.1.1),.d (.int .u8 g2.To.2.2.1.2.1),.d (.int .u8 g2.To.2.2.1.2.2.1),.d (.int .u8 g2.To.2.2.1.2.2.2.1),.d (.int .u8 g2.To.2.2.1.2.2.2.2),.d (.int .u8 g2.To.2.2.2.1.1),.d (.int .u8 g2.To.2.2.2.1.2.1),.d (.int .u8 g2.To.2.2.2.1.2.2.1),.d (.int .u8 g2.To.2.2.2.1.2.2.2.1),.d (.int .u8 g2.To.2.2.2.1.2.2.2.2),.d (.int .u8 g2.To.2.2.2.2.1),.d (.int .u8 g2.To.2.2.2.2.2.1),.d (.int .u8 g2.To.2.2.2.2.2.2.1),.d (.int .u8 g2.To.2.2.2.2.2.2.2.1),.d (.int .u8 g2.To.2.2.2.2.2.2.2.2)]) tv rfl (Qm rfl) rfl rfl ?_)
  obtain ⟨x9,h8,h⟩:=bnd h
  refine Rn.call (args:=[(l_ x7),.agg [.d (.int .u8 g2.States),.d (.int .u8 g2.Marks),.d (.int .u8 g2.To.1.1),.d (.int .u8 g2.To.1.2.1),.d (.int .u8 g2.To.1.2.2.1),.d (.int .u8 g2.To.1.2.2.2.1),.d (.int .u8 g2.To.1.2.2.2.2),.d (.int .u8 g2.To.2.1.1),.d (.int .u8 g2.To.2.1.2.1),.d (.int .u8 g2.To.2.1.2.2.1),.d (.int .u8 g2.To.2.1.2.2.2.1),.d (.int .u8 g2.To.2.1.2.2.2.2),.d (.int .u8 g2.To.2.2.1.1),.d (.int .u8 g2.To.2.2.1.2.1),.d (.int .u8 g2.To.2.2.1.2.2.1),.d (.int .u8 g2.To.2.2.1.2.2.2.1),.d (.int .u8 g2.To.2.2.1.2.2.2.2),.d (.int .u8 g2.To.2.2.2.1.1),.d (.int .u8 g2.To.2.2.2.1.2.1),.d (.int .u8 g2.To.2.2.2.1.2.2.1),.d (.int .u8 g2.To.2.2.2.1.2.2.2.1),.d (.int .u8 g2.To.2.2.2.1.2.2.2.2),.d (.int .u8 g2.To.2.2.2.2.1),.d (.int .u8 g2.To.2.2.2.2.2.1),.d (.int .u8 g2.To.2.2.2.2.2.2.1),.d (.int .u8 g2.To.2.2.2.2.2.2.2.1),.d (.int .u8 g2.To.2.2.2.2.2.2.2.2)]]) tv rfl (H_overseerlaw03_Make _ _ _ h8) (fun _=>Q1l hM rfl) (Rn.k (v:=.ptr (Γ.n0 + 2) 1) tv rfl rfl rfl (Rn.load (v:=.d (.int .u8 s1.2)) tv rfl (Qm rfl) rfl rfl ?_))
  obtain ⟨x11,h10,h⟩:=bnd h
  refine Rn.call (args:=[.d (.int .u8 s1.2)]) tv rfl (H_overseerlaw03_Set_Events _ _ h10) (fun _=>Q1l hM rfl) (Rn.alloc tv rfl (Rn.storeT (v:=(Qa x9)) (ds:=(Qd x9)) (cs':=(Qd x9)) tv rfl rfl rfl rfl rfl rfl rfl (Rn.movTO tv rfl ?_)))
  refine Rn.nil ⟨rfl,?_⟩
  refine toN (sr ((Rn.load (v:=(Qa x9)) tv rfl (Qm rfl) rfl rfl (Rn.mov (v:=(l_ x11)) tv rfl ?_))))
  obtain ⟨⟨r13,r14,r15⟩,h12,h⟩:=bnd h
  refine Rn.call (args:=[(Qa x9),(l_ x11)]) tv rfl (H_projection_Project _ _ _ h12) pc9 (Rn.mov (v:=.tup [(Qa r13),.d (.lst 1 (List.map (eL 1 (eI .i64)) r14)),(i_ r15)]) tv rfl (Rn.ext (v:=(Qa r13)) (vs:=[(Qa r13),.d (.lst 1 (List.map (eL 1 (eI .i64)) r14)),(i_ r15)]) tv rfl rfl rfl (Rn.extTD (vs:=[(Qa r13),.d (.lst 1 (List.map (eL 1 (eI .i64)) r14)),(i_ r15)]) tv rfl rfl rfl (Rn.ext (v:=(i_ r15)) (vs:=[(Qa r13),.d (.lst 1 (List.map (eL 1 (eI .i64)) r14)),(i_ r15)]) tv rfl rfl rfl (Rn.alloc tv rfl (Rn.storeT (v:=(Qa r13)) (ds:=(Qd r13)) (cs':=(Qd r13)) tv rfl rfl rfl rfl rfl rfl rfl (Rn.movTD tv rfl (md rfl (nt ((sr ((Rn.load (v:=(Qa x9)) tv rfl (Qm rfl) rfl rfl ?_)))))))))))))
  obtain ⟨⟨r17,r18⟩,h16,h⟩:=bnd h
  refine Rn.call (args:=[(Qa x9),(i_ 3),(b_ false)]) tv rfl (H_automaton_Words _ _ _ _ h16) pc9 (Rn.mov (v:=.tup [.d (.lst 1 (List.map (eL 1 (eI .i64)) r17)),(i_ r18)]) tv rfl (Rn.extTD (vs:=[.d (.lst 1 (List.map (eL 1 (eI .i64)) r17)),(i_ r18)]) tv rfl rfl rfl (Rn.ext (v:=(i_ r18)) (vs:=[.d (.lst 1 (List.map (eL 1 (eI .i64)) r17)),(i_ r18)]) tv rfl rfl rfl (Rn.movTD tv rfl (md rfl (nt ((Tr.seq ?_))))))))
  refine Tr.cutB (fun (x21:Bool)=>⟨look [(5,.ptr (Γ.n0 + 5) 0),(6,(o_ x11)),(7,.ptr (Γ.n0 + 7) 0),(8,.d (.lst 1 (List.map (eL 1 (eI .i64)) r14))),(10,.d (.lst 1 (List.map (eL 1 (eI .i64)) r17))),(58,(b_ x21))],Qp Γ.n0 (bxs [(2,.cells ([.d (.int .u8 s1.1),.d (.int .u8 s1.2)])),(3,.cells ([.d (.int .u8 g2.States),.d (.int .u8 g2.Marks),.d (.int .u8 g2.To.1.1),.d (.int .u8 g2.To.1.2.1),.d (.int .u8 g2.To.1.2.2.1),.d (.int .u8 g2.To.1.2.2.2.1),.d (.int .u8 g2.To.1.2.2.2.2),.d (.int .u8 g2.To.2.1.1),.d (.int .u8 g2.To.2.1.2.1),.d (.int .u8 g2.To.2.1.2.2.1),.d (.int .u8 g2.To.2.1.2.2.2.1),.d (.int .u8 g2.To.2.1.2.2.2.2),.d (.int .u8 g2.To.2.2.1.1),.d (.int .u8 g2.To.2.2.1.2.1),.d (.int .u8 g2.To.2.2.1.2.2.1),.d (.int .u8 g2.To.2.2.1.2.2.2.1),.d (.int .u8 g2.To.2.2.1.2.2.2.2),.d (.int .u8 g2.To.2.2.2.1.1),.d (.int .u8 g2.To.2.2.2.1.2.1),.d (.int .u8 g2.To.2.2.2.1.2.2.1),.d (.int .u8 g2.To.2.2.2.1.2.2.2.1),.d (.int .u8 g2.To.2.2.2.1.2.2.2.2),.d (.int .u8 g2.To.2.2.2.2.1),.d (.int .u8 g2.To.2.2.2.2.2.1),.d (.int .u8 g2.To.2.2.2.2.2.2.1),.d (.int .u8 g2.To.2.2.2.2.2.2.2.1),.d (.int .u8 g2.To.2.2.2.2.2.2.2.2)])),(5,.cells ((Qd x9))),(7,.cells ((Qd r13)))]) M,Γ.n0 + 135⟩) h (fun z h=>?_) (fun z h=>?_)
  ·refine Tr.rgn (md rfl (Rn.bin tv rfl rfl rfl (md rfl ?_)))
   refine Qc0 (r15 != 0) (fun hb19=>?_) (fun hb19=>?_)
   ·replace h:=bT hb19 h
    refine Rn.sk (nw rfl hb19) (Rn.sk (nw rfl hb19) (Rn.pickT (v:=(b_ true)) tv rfl hb19 rfl (md rfl (Rn.sk (nw (b:=true) rfl rfl) (Rn.sk (nw (b:=true) rfl rfl) (Rn.sk (nw (b:=true) rfl rfl) (Rn.sk (nw (b:=true) rfl rfl) (Rn.sk (nw (b:=true) rfl rfl) (Rn.pickT (v:=(b_ true)) tv rfl rfl rfl (Rn.nil ?_))))))))))
    replace h:=si h; subst h
    exact Qj [] ⟨(kPtr rfl),(sm rfl),(kPtr rfl),(sm rfl),(sm rfl),(sm rfl),tv⟩ ⟨⟨_,rfl,rfl,(.same rfl)⟩,⟨_,rfl,rfl,(.same rfl)⟩,⟨_,rfl,rfl,(.same rfl)⟩,⟨_,rfl,rfl,(.same rfl)⟩,tv⟩ rfl
   ·replace h:=bF hb19 h
    refine Rn.movD (gw rfl hb19) rfl (Rn.bin (gw rfl hb19) rfl rfl rfl (Rn.pickF (v:=(b_ (r18 != 0))) tv rfl hb19 rfl (md rfl ?_)))
    refine Qc0 (r18 != 0) (fun hb20=>?_) (fun hb20=>?_)
    ·replace h:=bT hb20 h
     refine Rn.sk (nw rfl hb20) (Rn.sk (nw rfl hb20) (Rn.sk (nw rfl hb20) (Rn.sk (nw rfl hb20) (Rn.sk (nw rfl hb20) (Rn.pickT (v:=(b_ true)) tv rfl hb20 rfl (Rn.nil ?_))))))
     replace h:=si h; subst h
     exact Qj [] ⟨(kPtr rfl),(sm rfl),(kPtr rfl),(sm rfl),(sm rfl),(sm rfl),tv⟩ ⟨⟨_,rfl,rfl,(.same rfl)⟩,⟨_,rfl,rfl,(.same rfl)⟩,⟨_,rfl,rfl,(.same rfl)⟩,⟨_,rfl,rfl,(.same rfl)⟩,tv⟩ rfl
    ·replace h:=bF hb20 h
     refine Rn.movD (gw rfl hb20) rfl (Rn.lenD (gw rfl hb20) rfl (Rn.fldP (o':=1) (gw rfl hb20) rfl rfl (Rn.load (v:=(i_ r13.States)) (gw rfl hb20) rfl (Qm rfl) rfl rfl (Rn.bin (gw rfl hb20) rfl rfl rfl (Rn.pickF (v:=(b_ ((r14.length:Int) != r13.States))) tv rfl hb20 rfl (Rn.nil ?_))))))
     replace h:=si h; subst h
     exact Qj [] ⟨(kPtr rfl),(sm rfl),(kPtr rfl),(sm rfl),(sm rfl),(sm rfl),tv⟩ ⟨⟨_,rfl,rfl,(.same rfl)⟩,⟨_,rfl,rfl,(.same rfl)⟩,⟨_,rfl,rfl,(.same rfl)⟩,⟨_,rfl,rfl,(.same rfl)⟩,tv⟩ rfl
  ·obtain ⟨x21,rfl⟩ : ∃ x,x = z:=⟨_,rfl⟩
   refine Tr.cond rfl (fun hb22=>?_) (fun hb22=>?_)
   ·replace h:=bT hb22 h
    refine sr ((md rfl (nt ((Tr.ret ?_)))))
    replace h:=si h; subst h
    exact ⟨.inr rfl,(b_ false),rfl,fun _ _ _ _ h=>h,tv,fun k hk=>Qf hk⟩
   ·replace h:=bF hb22 h
    refine Tr.skip (toN (Tr.seq (sr ((md rfl (nt ((Tr.block ?_))))))))
    refine Tr.loop (mk:=fun (i23:Int)=>⟨look [(5,.ptr (Γ.n0 + 5) 0),(6,(o_ x11)),(7,.ptr (Γ.n0 + 7) 0),(8,.d (.lst 1 (List.map (eL 1 (eI .i64)) r14))),(10,.d (.lst 1 (List.map (eL 1 (eI .i64)) r17))),(12,(i_ i23))],Qp Γ.n0 (bxs [(2,.cells ([.d (.int .u8 s1.1),.d (.int .u8 s1.2)])),(3,.cells ([.d (.int .u8 g2.States),.d (.int .u8 g2.Marks),.d (.int .u8 g2.To.1.1),.d (.int .u8 g2.To.1.2.1),.d (.int .u8 g2.To.1.2.2.1),.d (.int .u8 g2.To.1.2.2.2.1),.d (.int .u8 g2.To.1.2.2.2.2),.d (.int .u8 g2.To.2.1.1),.d (.int .u8 g2.To.2.1.2.1),.d (.int .u8 g2.To.2.1.2.2.1),.d (.int .u8 g2.To.2.1.2.2.2.1),.d (.int .u8 g2.To.2.1.2.2.2.2),.d (.int .u8 g2.To.2.2.1.1),.d (.int .u8 g2.To.2.2.1.2.1),.d (.int .u8 g2.To.2.2.1.2.2.1),.d (.int .u8 g2.To.2.2.1.2.2.2.1),.d (.int .u8 g2.To.2.2.1.2.2.2.2),.d (.int .u8 g2.To.2.2.2.1.1),.d (.int .u8 g2.To.2.2.2.1.2.1),.d (.int .u8 g2.To.2.2.2.1.2.2.1),.d (.int .u8 g2.To.2.2.2.1.2.2.2.1),.d (.int .u8 g2.To.2.2.2.1.2.2.2.2),.d (.int .u8 g2.To.2.2.2.2.1),.d (.int .u8 g2.To.2.2.2.2.2.1),.d (.int .u8 g2.To.2.2.2.2.2.2.1),.d (.int .u8 g2.To.2.2.2.2.2.2.2.1),.d (.int .u8 g2.To.2.2.2.2.2.2.2.2)])),(5,.cells ((Qd x9))),(7,.cells ((Qd r13)))]) M,Γ.n0 + 135⟩) h (by exact Ql ⟨(kPtr rfl),(sm rfl),(kPtr rfl),(sm rfl),(sm rfl),(sm rfl),tv⟩ ⟨⟨_,rfl,rfl,(.same rfl)⟩,⟨_,rfl,rfl,(.same rfl)⟩,⟨_,rfl,rfl,(.same rfl)⟩,⟨_,rfl,rfl,(.same rfl)⟩,tv⟩ rfl) (fun k24 z h=>?_)
    ·obtain ⟨i23,rfl⟩ : ∃ x,x = z:=⟨_,rfl⟩
     replace h:_ = some _:=h
     refine Tr.seq (sr ((md rfl (md rfl (Rn.lenD tv rfl (Rn.bin tv rfl rfl rfl (Rn.nil (toN ?_))))))))
     refine Tr.cond rfl (fun hb25=>?_) (fun hb25=>?_)
     ·replace h:=ifT hb25 h
      refine Tr.skip (toN (Tr.seq (Tr.block (sr ((Rn.mov (v:=(l_ x11)) tv rfl (md rfl (md rfl ?_))))))))
      obtain ⟨x26,h27,h⟩:=bnd h
      refine Rn.idxD (e:=(eL 1 (eI .i64))) tv rfl rfl h27 (Rn.loadC (x:=.lst 1 (List.map (eI .i64) x26)) tv rfl ?_)
      obtain ⟨x29,h28,h⟩:=bnd h
      refine Rn.call (args:=[(l_ x11),(l_ x26)]) tv rfl (H_overseerref07_Observe _ _ _ h28) pc9 (Rn.movTO tv rfl (nt ((sr ((Rn.load (v:=(Qa r13)) tv rfl (Qm rfl) rfl rfl (Rn.mov (v:=(l_ x29)) tv rfl ?_)))))))
      obtain ⟨⟨r31,r32,r33⟩,h30,h⟩:=bnd h
      refine Rn.call (args:=[(Qa r13),(i_ 0),(l_ x29)]) tv rfl (H_automaton_Run _ _ _ _ h30) pc9 (Rn.mov (v:=.tup [(i_ r31),(i_ r32),(i_ r33)]) tv rfl (Rn.ext (v:=(i_ r31)) (vs:=[(i_ r31),(i_ r32),(i_ r33)]) tv rfl rfl rfl (Rn.ext (v:=(i_ r32)) (vs:=[(i_ r31),(i_ r32),(i_ r33)]) tv rfl rfl rfl (Rn.ext (v:=(i_ r33)) (vs:=[(i_ r31),(i_ r32),(i_ r33)]) tv rfl rfl rfl (md rfl (md rfl (md rfl (nt ((Tr.seq ?_))))))))))
      refine Tr.rgnD (by decide) ?_
      refine Rn.load (v:=(Qa x9)) tv rfl (Qm rfl) rfl rfl (md rfl (md rfl ?_))
      obtain ⟨x34,h35,h⟩:=bnd h
      refine Rn.idxD (e:=(eL 1 (eI .i64))) tv rfl rfl h35 (Rn.loadC (x:=.lst 1 (List.map (eI .i64) x34)) tv rfl ?_)
      obtain ⟨⟨r37,r38,r39⟩,h36,h⟩:=bnd h
      refine Rn.call (args:=[(Qa x9),(i_ 0),(l_ x34)]) tv rfl (H_automaton_Run _ _ _ _ h36) pc0 (Rn.mov (v:=.tup [(i_ r37),(i_ r38),(i_ r39)]) tv rfl (Rn.ext (v:=(i_ r37)) (vs:=[(i_ r37),(i_ r38),(i_ r39)]) tv rfl rfl rfl (Rn.ext (v:=(i_ r38)) (vs:=[(i_ r37),(i_ r38),(i_ r39)]) tv rfl rfl rfl (Rn.ext (v:=(i_ r39)) (vs:=[(i_ r37),(i_ r38),(i_ r39)]) tv rfl rfl rfl (md rfl (md rfl (md rfl ?_)))))))
      refine Rn.nil ⟨rfl,?_⟩
      refine toN (Tr.seq ?_)
      refine Tr.cutB (fun (x48:Bool)=>⟨look [(5,.ptr (Γ.n0 + 5) 0),(6,(o_ x11)),(7,.ptr (Γ.n0 + 7) 0),(8,.d (.lst 1 (List.map (eL 1 (eI .i64)) r14))),(10,.d (.lst 1 (List.map (eL 1 (eI .i64)) r17))),(12,(i_ i23)),(13,(o_ x29)),(114,(b_ x48))],Qp Γ.n0 (bxs [(2,.cells ([.d (.int .u8 s1.1),.d (.int .u8 s1.2)])),(3,.cells ([.d (.int .u8 g2.States),.d (.int .u8 g2.Marks),.d (.int .u8 g2.To.1.1),.d (.int .u8 g2.To.1.2.1),.d (.int .u8 g2.To.1.2.2.1),.d (.int .u8 g2.To.1.2.2.2.1),.d (.int .u8 g2.To.1.2.2.2.2),.d (.int .u8 g2.To.2.1.1),.d (.int .u8 g2.To.2.1.2.1),.d (.int .u8 g2.To.2.1.2.2.1),.d (.int .u8 g2.To.2.1.2.2.2.1),.d (.int .u8 g2.To.2.1.2.2.2.2),.d (.int .u8 g2.To.2.2.1.1),.d (.int .u8 g2.To.2.2.1.2.1),.d (.int .u8 g2.To.2.2.1.2.2.1),.d (.int .u8 g2.To.2.2.1.2.2.2.1),.d (.int .u8 g2.To.2.2.1.2.2.2.2),.d (.int .u8 g2.To.2.2.2.1.1),.d (.int .u8 g2.To.2.2.2.1.2.1),.d (.int .u8 g2.To.2.2.2.1.2.2.1),.d (.int .u8 g2.To.2.2.2.1.2.2.2.1),.d (.int .u8 g2.To.2.2.2.1.2.2.2.2),.d (.int .u8 g2.To.2.2.2.2.1),.d (.int .u8 g2.To.2.2.2.2.2.1),.d (.int .u8 g2.To.2.2.2.2.2.2.1),.d (.int .u8 g2.To.2.2.2.2.2.2.2.1),.d (.int .u8 g2.To.2.2.2.2.2.2.2.2)])),(5,.cells ((Qd x9))),(7,.cells ((Qd r13)))]) M,Γ.n0 + 135⟩) h (fun z h=>?_) (fun z h=>?_)
      ·refine Tr.rgn (md rfl (Rn.bin tv rfl rfl rfl (md rfl ?_)))
       refine Qc0 (r33 != 0) (fun hb40=>?_) (fun hb40=>?_)
       ·replace h:=bT hb40 h
        refine Rn.sk (nw rfl hb40) (Rn.sk (nw rfl hb40) (Rn.pickT (v:=(b_ true)) tv rfl hb40 rfl (md rfl (Rn.sk (nw (b:=true) rfl rfl) (Rn.sk (nw (b:=true) rfl rfl) (Rn.sk (nw (b:=true) rfl rfl) (Rn.sk (nw (b:=true) rfl rfl) (Rn.pickT (v:=(b_ true)) tv rfl rfl rfl (md rfl (Rn.sk (nw (b:=true) rfl rfl) (Rn.sk (nw (b:=true) rfl rfl) (Rn.sk (nw (b:=true) rfl rfl) (Rn.sk (nw (b:=true) rfl rfl) (Rn.pickT (v:=(b_ true)) tv rfl rfl rfl (md rfl (Rn.sk (nw (b:=true) rfl rfl) (Rn.sk (nw (b:=true) rfl rfl) (Rn.sk (nw (b:=true) rfl rfl) (Rn.sk (nw (b:=true) rfl rfl) (Rn.sk (nw (b:=true) rfl rfl) (Rn.sk (nw (b:=true) rfl rfl) (Rn.sk (nw (b:=true) rfl rfl) (Rn.pickT (v:=(b_ true)) tv rfl rfl rfl (Rn.nil ?_))))))))))))))))))))))))
        replace h:=si h; subst h
        exact Qj [] ⟨(kPtr rfl),(sm rfl),(kPtr rfl),(sm rfl),(sm rfl),(sm rfl),(sm rfl),(sm rfl),tv⟩ ⟨⟨_,rfl,rfl,(.same rfl)⟩,⟨_,rfl,rfl,(.same rfl)⟩,⟨_,rfl,rfl,(.same rfl)⟩,⟨_,rfl,rfl,(.same rfl)⟩,tv⟩ rfl
       ·replace h:=bF hb40 h
        refine Rn.movD (gw rfl hb40) rfl (Rn.bin (gw rfl hb40) rfl rfl rfl (Rn.pickF (v:=(b_ (r39 != 0))) tv rfl hb40 rfl (md rfl ?_)))
        refine Qc0 (r39 != 0) (fun hb41=>?_) (fun hb41=>?_)
        ·replace h:=bT hb41 h
         refine Rn.sk (nw rfl hb41) (Rn.sk (nw rfl hb41) (Rn.sk (nw rfl hb41) (Rn.sk (nw rfl hb41) (Rn.pickT (v:=(b_ true)) tv rfl hb41 rfl (md rfl (Rn.sk (nw (b:=true) rfl rfl) (Rn.sk (nw (b:=true) rfl rfl) (Rn.sk (nw (b:=true) rfl rfl) (Rn.sk (nw (b:=true) rfl rfl) (Rn.pickT (v:=(b_ true)) tv rfl rfl rfl (md rfl (Rn.sk (nw (b:=true) rfl rfl) (Rn.sk (nw (b:=true) rfl rfl) (Rn.sk (nw (b:=true) rfl rfl) (Rn.sk (nw (b:=true) rfl rfl) (Rn.sk (nw (b:=true) rfl rfl) (Rn.sk (nw (b:=true) rfl rfl) (Rn.sk (nw (b:=true) rfl rfl) (Rn.pickT (v:=(b_ true)) tv rfl rfl rfl (Rn.nil ?_))))))))))))))))))))
         replace h:=si h; subst h
         exact Qj [] ⟨(kPtr rfl),(sm rfl),(kPtr rfl),(sm rfl),(sm rfl),(sm rfl),(sm rfl),(sm rfl),tv⟩ ⟨⟨_,rfl,rfl,(.same rfl)⟩,⟨_,rfl,rfl,(.same rfl)⟩,⟨_,rfl,rfl,(.same rfl)⟩,⟨_,rfl,rfl,(.same rfl)⟩,tv⟩ rfl
        ·replace h:=bF hb41 h
         refine Rn.movD (gw rfl hb41) rfl (Rn.mov (v:=(l_ x29)) (gw rfl hb41) rfl (Rn.lenD (gw rfl hb41) rfl (Rn.bin (gw rfl hb41) rfl rfl rfl (Rn.pickF (v:=(b_ (r32 != (x29.length:Int)))) tv rfl hb41 rfl (md rfl ?_)))))
         refine Qc0 (r32 != (x29.length:Int)) (fun hb42=>?_) (fun hb42=>?_)
         ·replace h:=bT hb42 h
          refine Rn.sk (nw rfl hb42) (Rn.sk (nw rfl hb42) (Rn.sk (nw rfl hb42) (Rn.sk (nw rfl hb42) (Rn.pickT (v:=(b_ true)) tv rfl hb42 rfl (md rfl (Rn.sk (nw (b:=true) rfl rfl) (Rn.sk (nw (b:=true) rfl rfl) (Rn.sk (nw (b:=true) rfl rfl) (Rn.sk (nw (b:=true) rfl rfl) (Rn.sk (nw (b:=true) rfl rfl) (Rn.sk (nw (b:=true) rfl rfl) (Rn.sk (nw (b:=true) rfl rfl) (Rn.pickT (v:=(b_ true)) tv rfl rfl rfl (Rn.nil ?_))))))))))))))
          replace h:=si h; subst h
          exact Qj [] ⟨(kPtr rfl),(sm rfl),(kPtr rfl),(sm rfl),(sm rfl),(sm rfl),(sm rfl),(sm rfl),tv⟩ ⟨⟨_,rfl,rfl,(.same rfl)⟩,⟨_,rfl,rfl,(.same rfl)⟩,⟨_,rfl,rfl,(.same rfl)⟩,⟨_,rfl,rfl,(.same rfl)⟩,tv⟩ rfl
         ·replace h:=bF hb42 h
          refine Rn.movD (gw rfl hb42) rfl (Rn.movD (gw rfl hb42) rfl (Rn.lenD (gw rfl hb42) rfl (Rn.bin (gw rfl hb42) rfl rfl rfl (Rn.pickF (v:=(b_ (decide (r31≥(r14.length:Int))))) tv rfl hb42 rfl (md rfl ?_)))))
          refine Qc0 (decide (r31≥(r14.length:Int))) (fun hb43=>?_) (fun hb43=>?_)
          ·replace h:=ifT hb43 h
           refine Rn.sk (nw rfl hb43) (Rn.sk (nw rfl hb43) (Rn.sk (nw rfl hb43) (Rn.sk (nw rfl hb43) (Rn.sk (nw rfl hb43) (Rn.sk (nw rfl hb43) (Rn.sk (nw rfl hb43) (Rn.pickT (v:=(b_ true)) tv rfl hb43 rfl (Rn.nil ?_))))))))
           replace h:=si h; subst h
           exact Qj [] ⟨(kPtr rfl),(sm rfl),(kPtr rfl),(sm rfl),(sm rfl),(sm rfl),(sm rfl),(sm rfl),tv⟩ ⟨⟨_,rfl,rfl,(.same rfl)⟩,⟨_,rfl,rfl,(.same rfl)⟩,⟨_,rfl,rfl,(.same rfl)⟩,⟨_,rfl,rfl,(.same rfl)⟩,tv⟩ rfl
          ·replace h:=ifF hb43 h
           refine Rn.movD (gw rfl hb43) rfl (Rn.movD (gw rfl hb43) rfl ?_)
           obtain ⟨x44,h45,h⟩:=bnd h
           refine Rn.idxD (e:=(eL 1 (eI .i64))) (gw rfl hb43) rfl rfl h45 (Rn.loadC (x:=.lst 1 (List.map (eI .i64) x44)) (gw rfl hb43) rfl (Rn.movD (gw rfl hb43) rfl ?_))
           obtain ⟨x47,h46,h⟩:=bnd h
           refine Rn.call (args:=[(l_ x44),(i_ r37)]) (gw rfl hb43) rfl (H_overseerlaw03_Has _ _ _ h46) pc9 (Rn.un (gw rfl hb43) rfl rfl (Rn.pickF (v:=(b_ (!x47))) tv rfl hb43 rfl (Rn.nil ?_)))
           replace h:=si h; subst h
           exact Qj [] ⟨(kPtr rfl),(sm rfl),(kPtr rfl),(sm rfl),(sm rfl),(sm rfl),(sm rfl),(sm rfl),tv⟩ ⟨⟨_,rfl,rfl,(.same rfl)⟩,⟨_,rfl,rfl,(.same rfl)⟩,⟨_,rfl,rfl,(.same rfl)⟩,⟨_,rfl,rfl,(.same rfl)⟩,tv⟩ rfl
      ·obtain ⟨x48,rfl⟩ : ∃ x,x = z:=⟨_,rfl⟩
       refine Tr.cond rfl (fun hb49=>?_) (fun hb49=>?_)
       ·replace h:=bT hb49 h
        refine sr ((md rfl (nt ((Tr.ret ?_)))))
        replace h:=si h; subst h
        exact ⟨.inr rfl,(b_ false),rfl,fun _ _ _ _ h=>h,tv,fun k hk=>Qf hk⟩
       ·replace h:=bF hb49 h
        refine Tr.skip (toN (Tr.seq ?_))
        refine Tr.rgnD (by decide) ?_
        refine Rn.load (v:=(Qa x9)) tv rfl (Qm rfl) rfl rfl (md rfl (md rfl ?_))
        obtain ⟨x50,h51,h⟩:=bnd h
        refine Rn.idxD (e:=(eL 1 (eI .i64))) tv rfl rfl h51 (Rn.loadC (x:=.lst 1 (List.map (eI .i64) x50)) tv rfl ?_)
        obtain ⟨⟨r53,r54⟩,h52,h⟩:=bnd h
        refine Rn.call (args:=[(Qa x9),(l_ x50)]) tv rfl (H_automaton_Accepts _ _ _ h52) pc0 (Rn.mov (v:=.tup [(b_ r53),(i_ r54)]) tv rfl (Rn.ext (v:=(b_ r53)) (vs:=[(b_ r53),(i_ r54)]) tv rfl rfl rfl (Rn.ext (v:=(i_ r54)) (vs:=[(b_ r53),(i_ r54)]) tv rfl rfl rfl (md rfl (md rfl ?_)))))
        refine Rn.nil ⟨rfl,?_⟩
        refine toN (sr ((Rn.load (v:=(Qa r13)) tv rfl (Qm rfl) rfl rfl (Rn.mov (v:=(l_ x29)) tv rfl ?_))))
        obtain ⟨⟨r56,r57⟩,h55,h⟩:=bnd h
        refine Rn.call (args:=[(Qa r13),(l_ x29)]) tv rfl (H_automaton_Accepts _ _ _ h55) pc9 (Rn.mov (v:=.tup [(b_ r56),(i_ r57)]) tv rfl (Rn.ext (v:=(b_ r56)) (vs:=[(b_ r56),(i_ r57)]) tv rfl rfl rfl (Rn.ext (v:=(i_ r57)) (vs:=[(b_ r56),(i_ r57)]) tv rfl rfl rfl (md rfl (md rfl (Rn.nil (toN ?_)))))))
        refine Tr.cutB (fun (x59:Bool)=>⟨look [(5,.ptr (Γ.n0 + 5) 0),(6,(o_ x11)),(7,.ptr (Γ.n0 + 7) 0),(8,.d (.lst 1 (List.map (eL 1 (eI .i64)) r14))),(10,.d (.lst 1 (List.map (eL 1 (eI .i64)) r17))),(12,(i_ i23)),(134,(b_ x59))],Qp Γ.n0 (bxs [(2,.cells ([.d (.int .u8 s1.1),.d (.int .u8 s1.2)])),(3,.cells ([.d (.int .u8 g2.States),.d (.int .u8 g2.Marks),.d (.int .u8 g2.To.1.1),.d (.int .u8 g2.To.1.2.1),.d (.int .u8 g2.To.1.2.2.1),.d (.int .u8 g2.To.1.2.2.2.1),.d (.int .u8 g2.To.1.2.2.2.2),.d (.int .u8 g2.To.2.1.1),.d (.int .u8 g2.To.2.1.2.1),.d (.int .u8 g2.To.2.1.2.2.1),.d (.int .u8 g2.To.2.1.2.2.2.1),.d (.int .u8 g2.To.2.1.2.2.2.2),.d (.int .u8 g2.To.2.2.1.1),.d (.int .u8 g2.To.2.2.1.2.1),.d (.int .u8 g2.To.2.2.1.2.2.1),.d (.int .u8 g2.To.2.2.1.2.2.2.1),.d (.int .u8 g2.To.2.2.1.2.2.2.2),.d (.int .u8 g2.To.2.2.2.1.1),.d (.int .u8 g2.To.2.2.2.1.2.1),.d (.int .u8 g2.To.2.2.2.1.2.2.1),.d (.int .u8 g2.To.2.2.2.1.2.2.2.1),.d (.int .u8 g2.To.2.2.2.1.2.2.2.2),.d (.int .u8 g2.To.2.2.2.2.1),.d (.int .u8 g2.To.2.2.2.2.2.1),.d (.int .u8 g2.To.2.2.2.2.2.2.1),.d (.int .u8 g2.To.2.2.2.2.2.2.2.1),.d (.int .u8 g2.To.2.2.2.2.2.2.2.2)])),(5,.cells ((Qd x9))),(7,.cells ((Qd r13)))]) M,Γ.n0 + 135⟩) h (fun z h=>?_) (fun z h=>?_)
        ·refine Tr.rgn (md rfl (md rfl ?_))
         refine Qc0 r53 (fun hb58=>?_) (fun hb58=>?_)
         ·replace h:=bT hb58 h
          refine Rn.movD (gw rfl hb58) rfl (Rn.un (gw rfl hb58) rfl rfl (Rn.pickT (v:=(b_ (!r56))) tv rfl hb58 rfl (Rn.nil ?_)))
          replace h:=si h; subst h
          exact Qj [] ⟨(kPtr rfl),(sm rfl),(kPtr rfl),(sm rfl),(sm rfl),(sm rfl),(sm rfl),tv⟩ ⟨⟨_,rfl,rfl,(.same rfl)⟩,⟨_,rfl,rfl,(.same rfl)⟩,⟨_,rfl,rfl,(.same rfl)⟩,⟨_,rfl,rfl,(.same rfl)⟩,tv⟩ rfl
         ·replace h:=bF hb58 h
          refine Rn.sk (nw rfl hb58) (Rn.sk (nw rfl hb58) (Rn.pickF (v:=(b_ false)) tv rfl hb58 rfl (Rn.nil ?_)))
          replace h:=si h; subst h
          exact Qj [] ⟨(kPtr rfl),(sm rfl),(kPtr rfl),(sm rfl),(sm rfl),(sm rfl),(sm rfl),tv⟩ ⟨⟨_,rfl,rfl,(.same rfl)⟩,⟨_,rfl,rfl,(.same rfl)⟩,⟨_,rfl,rfl,(.same rfl)⟩,⟨_,rfl,rfl,(.same rfl)⟩,tv⟩ rfl
        ·obtain ⟨x59,rfl⟩ : ∃ x,x = z:=⟨_,rfl⟩
         refine Tr.cond rfl (fun hb60=>?_) (fun hb60=>?_)
         ·replace h:=bT hb60 h
          refine sr ((md rfl (nt ((Tr.ret ?_)))))
          replace h:=si h; subst h
          exact ⟨.inr rfl,(b_ false),rfl,fun _ _ _ _ h=>h,tv,fun k hk=>Qf hk⟩
         ·replace h:=bF hb60 h
          refine Tr.skip (toN (Tr.rgn (md rfl (Rn.bin tv rfl rfl rfl (md rfl (Rn.nil ?_))))))
          exact ⟨_,h,(by exact Ql ⟨(kPtr rfl),(sm rfl),(kPtr rfl),(sm rfl),(sm rfl),(sm rfl),tv⟩ ⟨⟨_,rfl,rfl,(.same rfl)⟩,⟨_,rfl,rfl,(.same rfl)⟩,⟨_,rfl,rfl,(.same rfl)⟩,⟨_,rfl,rfl,(.same rfl)⟩,tv⟩ rfl)⟩
     ·replace h:=ifF hb25 h
      refine Tr.exit (toN (sr ((md rfl (nt ((Tr.ret ?_)))))))
      replace h:=si h; subst h
      exact ⟨.inr rfl,(b_ true),rfl,fun _ _ _ _ h=>h,tv,fun k hk=>Qf hk⟩
theorem Qun {P:Program} {c:Nat} {Qw:Qb→(List Int)→Option Int} {Q1:Qb→(List Int)→Option Qi} {Q3:Qi→Option ((List Int))} {Q4:Qi→(List Int)→Int→Option ((List Int))} {Qy:Qi→(List Int)→Option Bool}
    (H_projection_check:Qek P 38 Qw)
    (H_projection_observe:Qew P 39 Q1)
    (H_projection_observer_start:Qdq P 40 Q3)
    (H_projection_observer_next:Qd1 P 43 Q4)
    (H_projection_observer_known:Qdr P 52 Qy) (hcf:Qu P c = some Qh1) (fuel:Nat):Qm3 P c (Qh2 Qw Q1 Q3 Q4 Qy fuel):=by
 intro a1 onto2 observation3 r h
 refine Qcf hcf rfl fun Γ M hP hnt hM=>?_
 subst hP
 refine Tr.init [(0,(Qa a1)),(1,(l_ onto2)),(2,(l_ observation3))] rfl ?_
 unfold Qh2 at h
 unfold Qh1
 refine sr ((Rn.box (v:=(Qa a1)) (cs:=(Qd a1)) tv rfl rfl rfl rfl rfl (Rn.movTC (v:=.nils 1) tv (md rfl (nt ((Tr.seq (sr ((Rn.load (v:=(Qa a1)) tv rfl (Qm rfl) rfl rfl (md rfl ?_)))))))))))
 obtain ⟨x5,h4,h⟩:=bnd h
 refine Rn.call (args:=[(Qa a1),(l_ onto2)]) tv rfl (H_projection_check _ _ _ h4) pc9 (md rfl (nt ((sr ((md rfl (Rn.bin tv rfl rfl rfl (Rn.nil (toN ?_)))))))))
 refine Tr.cond rfl (fun hb6=>?_) (fun hb6=>?_)
 ·replace h:=bT hb6 h
  refine sr ((md rfl (Rn.movTC (v:=.nils 1) tv (md rfl (nt ((Tr.ret ?_)))))))
  replace h:=si h; subst h
  exact ⟨.inr rfl,.tup [.nils 1,(i_ x5)],res2 rfl rfl,(WkV.tup (.cons (WkV.nilsD _) (.cons (.same rfl) .nil))).rd,⟨tv,tv,tv⟩,fun k hk=>Qf hk⟩
 ·replace h:=bF hb6 h
  refine Tr.skip (toN (sr ((Rn.load (v:=(Qa a1)) tv rfl (Qm rfl) rfl rfl (md rfl ?_)))))
  obtain ⟨x8,h7,h⟩:=bnd h
  refine Rn.call (args:=[(Qa a1),(l_ onto2)]) tv rfl (H_projection_observe _ _ _ h7) pc9 (Rn.alloc tv rfl (Rn.storeT (v:=(Qk x8)) (ds:=(Qn x8)) (cs':=(Qn x8)) tv rfl rfl rfl rfl rfl rfl rfl (nt ((Tr.seq (sr ((Rn.load (v:=(Qk x8)) tv rfl (Qm rfl) rfl rfl (md rfl ?_)))))))))
  obtain ⟨x10,h9,h⟩:=bnd h
  refine Rn.call (args:=[(Qk x8),(l_ observation3)]) tv rfl (H_projection_observer_known _ _ _ h9) pc9 (Rn.un tv rfl rfl (Rn.nil (toN ?_)))
  refine Tr.cond rfl (fun hb11=>?_) (fun hb11=>?_)
  ·have hb11:=nT' hb11
   replace h:=bF hb11 h
   refine sr ((Rn.movTC (v:=.nils 1) tv (md rfl (nt ((Tr.ret ?_))))))
   replace h:=si h; subst h
   exact ⟨.inr rfl,.tup [.nils 1,(i_ 9)],res2 rfl rfl,(WkV.tup (.cons (WkV.nilsD _) (.cons (.same rfl) .nil))).rd,⟨tv,tv,tv⟩,fun k hk=>Qf hk⟩
  ·have hb11:=nF' hb11
   replace h:=bT hb11 h
   refine Tr.skip (toN (sr ((Rn.load (v:=(Qk x8)) tv rfl (Qm rfl) rfl rfl ?_))))
   obtain ⟨x13,h12,h⟩:=bnd h
   refine Rn.call (args:=[(Qk x8)]) tv rfl (H_projection_observer_start _ _ h12) pc9 (Rn.movTD tv rfl (Rn.nil (toN ?_)))
   refine Tr.cutB (fun (l22:List Int)=>⟨look [(10,(l_ l22))],Qp Γ.n0 (bxs [(3,.cells ((Qd a1))),(9,.cells ((Qn x8)))]) M,Γ.n0 + 40⟩) h (fun z h=>?_) (fun z h=>?_)
   ·refine sr ((md rfl (Rn.lenD tv rfl (md rfl (nt ((Tr.block ?_)))))))
    refine Tr.loop (mk:=fun ((l14,x15):(List Int)×Int)=>⟨look [(9,.ptr (Γ.n0 + 9) 0),(10,(l_ l14)),(28,(l_ observation3)),(29,(i_ (observation3.length:Int))),(30,(i_ x15))],Qp Γ.n0 (bxs [(3,.cells ((Qd a1))),(9,.cells ((Qn x8)))]) M,Γ.n0 + 40⟩) h (by exact Ql ⟨(kPtr rfl),(sm rfl),(sm rfl),(sm rfl),(sm rfl),tv⟩ ⟨⟨_,rfl,rfl,(.same rfl)⟩,⟨_,rfl,rfl,(.same rfl)⟩,tv⟩ rfl) (fun k16 z h=>?_)
    ·obtain ⟨l14,x15⟩:=z
     replace h:_ = some _:=h
     refine sr ((Rn.bin tv rfl rfl rfl (nt ((Tr.seq ?_)))))
     refine Tr.cond rfl (fun hb17=>?_) (fun hb17=>?_)
     ·replace h:=ifT hb17 h
      refine Tr.skip (toN (Tr.seq (Tr.block (Tr.seq (Tr.rgn ?_)))))
      obtain ⟨x18,h19,h⟩:=bnd h
      refine Rn.idxD (e:=(eI .i64)) tv rfl rfl h19 (Rn.loadC (x:=.int .i64 x18) tv rfl (md rfl (nt ((Tr.rgn (Rn.load (v:=(Qk x8)) tv rfl (Qm rfl) rfl rfl (md rfl (md rfl ?_))))))))
      obtain ⟨x21,h20,h⟩:=bnd h
      refine Rn.call (args:=[(Qk x8),(l_ l14),(i_ x18)]) tv rfl (H_projection_observer_next _ _ _ _ h20) pc9 (Rn.movTD tv rfl (nt ((Tr.rgn (Rn.bin tv rfl rfl rfl (md rfl (Rn.nil ?_)))))))
      exact ⟨_,h,(by exact Ql ⟨(kPtr rfl),(sm rfl),(sm rfl),(sm rfl),(sm rfl),tv⟩ ⟨⟨_,rfl,rfl,(.same rfl)⟩,⟨_,rfl,rfl,(.same rfl)⟩,tv⟩ rfl)⟩
     ·replace h:=ifF hb17 h
      refine Tr.exit ?_
      replace h:=si h; subst h
      exact Qj [] ⟨(sm rfl),tv⟩ ⟨⟨_,rfl,rfl,(.same rfl)⟩,⟨_,rfl,rfl,(.same rfl)⟩,tv⟩ rfl
   ·obtain ⟨l22,rfl⟩ : ∃ x,x = z:=⟨_,rfl⟩
    refine sr ((Rn.movTD tv rfl (Rn.movTD tv rfl (md rfl (nt ((Tr.ret ?_)))))))
    replace h:=si h; subst h
    exact ⟨.inr rfl,.tup [(l_ l22),(i_ 0)],res2 rfl rfl,(WkV.tup (.cons (.same rfl) (.cons (.same rfl) .nil))).rd,⟨tv,tv,tv⟩,fun k hk=>Qf hk⟩
end Go.Abs
end
section
namespace Go.Proofs
open Go.Abs
set_option maxRecDepth 100000
theorem Qmj:Qu Tryz.prog 6 = some Qd6:=by kernel_rfl
theorem Qmk:Qu Tryz.prog 7 = some Qd5:=by kernel_rfl
theorem Q28:Qu Tryz.prog 8 = some Qht:=by kernel_rfl
theorem Q58:Qu Tryz.prog 10 = some Qip:=by kernel_rfl
theorem Qrd:Qu Tryz.prog 11 = some Qff:=by kernel_rfl
theorem Q59:Qu Tryz.prog 12 = some Qij:=by kernel_rfl
theorem Q6a:Qu Tryz.prog 14 = some Qin:=by kernel_rfl
theorem Qso:Qu Tryz.prog 15 = some Qfx:=by kernel_rfl
theorem Quo:Qu Tryz.prog 19 = some Qgd:=by kernel_rfl
theorem Q72:Qu Tryz.prog 22 = some Qjd:=by kernel_rfl
theorem Q29:Qu Tryz.prog 25 = some Qh1:=by kernel_rfl
theorem Qbal:Qu Tryz.prog 27 = some Qmg:=by kernel_rfl
theorem Qyi:Qu Tryz.prog 28 = some Qgo:=by kernel_rfl
theorem Qbcm:Qu Tryz.prog 29 = some Qqp:=by kernel_rfl
theorem Q73:Qu Tryz.prog 30 = some Qjf:=by kernel_rfl
theorem Qbam:Qu Tryz.prog 31 = some Ql2:=by kernel_rfl
theorem Q3a:Qu Tryz.prog 33 = some Qh0:=by kernel_rfl
theorem Qyj:Qu Tryz.prog 34 = some Qgm:=by kernel_rfl
theorem Q6b:Qu Tryz.prog 35 = some Qil:=by kernel_rfl
theorem Q3b:Qu Tryz.prog 36 = some Qhu:=by kernel_rfl
theorem Qsp:Qu Tryz.prog 37 = some Qfz:=by kernel_rfl
theorem Q9b:Qu Tryz.prog 38 = some Qkl:=by kernel_rfl
theorem Q6c:Qu Tryz.prog 39 = some Qii:=by kernel_rfl
theorem Qqr:Qu Tryz.prog 40 = some Qe6:=by kernel_rfl
theorem Qm7:Qu Tryz.prog 42 = some Qef:=by kernel_rfl
theorem Qre:Qu Tryz.prog 43 = some Qfe:=by kernel_rfl
theorem Q74:Qu Tryz.prog 45 = some Qja:=by kernel_rfl
theorem Qban:Qu Tryz.prog 46 = some Qlw:=by kernel_rfl
theorem Q3c:Qu Tryz.prog 48 = some Qhq:=by kernel_rfl
theorem Q3d:Qu Tryz.prog 49 = some Qhn:=by kernel_rfl
theorem Qqs:Qu Tryz.prog 50 = some Qe5:=by kernel_rfl
theorem Qqt:Qu Tryz.prog 52 = some Qe7:=by kernel_rfl
theorem Qbcn:Qu Tryz.prog 54 = some Qp4:=by kernel_rfl
theorem Q9c:Qu Tryz.prog 55 = some Qkm:=by kernel_rfl
theorem Q3e:Qu Tryz.prog 56 = some Qhl:=by kernel_rfl
theorem Q0z:Qu Tryz.prog 57 = some Qha:=by kernel_rfl
theorem Qsq:Qu Tryz.prog 58 = some Qft:=by kernel_rfl
theorem Qbao:Qu Tryz.prog 59 = some Qmi:=by kernel_rfl
theorem Q9d:Qu Tryz.prog 60 = some Qkr:=by kernel_rfl
theorem Q75:Qu Tryz.prog 61 = some Qjb:=by kernel_rfl
theorem Q76:Qu Tryz.prog 65 = some Qi5:=by kernel_rfl
theorem Q77:Qu Tryz.prog 66 = some Qi7:=by kernel_rfl
theorem Q00:Qu Tryz.prog 70 = some Qg7:=by kernel_rfl
theorem Q3f:Qu Tryz.prog 71 = some Qhs:=by kernel_rfl
theorem Q3g:Qu Tryz.prog 72 = some Qhw:=by kernel_rfl
theorem Q78:Qu Tryz.prog 73 = some Qi8:=by kernel_rfl
theorem Q6d:Qu Tryz.prog 74 = some Qio:=by kernel_rfl
theorem Q3h:Qu Tryz.prog 75 = some Qhy:=by kernel_rfl
theorem Qlm:Qu Tryz.prog 78 = some Qd0:=by kernel_rfl
theorem Q6e:Qu Tryz.prog 79 = some Qih:=by kernel_rfl
theorem Q01:Qu Tryz.prog 80 = some Qg4:=by kernel_rfl
theorem Qsr:Qu Tryz.prog 82 = some Qfv:=by kernel_rfl
theorem Qn6:Qu Tryz.prog 83 = some Qep:=by kernel_rfl
theorem Qn7:Qu Tryz.prog 84 = some Qer:=by kernel_rfl
theorem Qn8:Qu Tryz.prog 85 = some Qet:=by kernel_rfl
theorem Qbap:Qu Tryz.prog 86 = some Qmd:=by kernel_rfl
theorem Qbaq:Qu Tryz.prog 87 = some Qmf:=by kernel_rfl
theorem Q9e:Qu Tryz.prog 88 = some Qkk:=by kernel_rfl
theorem Q02:Qu Tryz.prog 89 = some Qg6:=by kernel_rfl
theorem Qba9:Qu Tryz.prog 90 = some Qn3:=by kernel_rfl
theorem Qbdh:Qu Tryz.prog 97 = some Qr3:=by kernel_rfl
theorem Q9f:Qu Tryz.prog 98 = some Qko:=by kernel_rfl
theorem Qyk:Qu Tryz.prog 99 = some Qgq:=by kernel_rfl
theorem Q9g:Qu Tryz.prog 100 = some Qkq:=by kernel_rfl
theorem Qbco:Qu Tryz.prog 121 = some Qpu:=by kernel_rfl
end Go.Proofs
end
section
namespace Go.Abs
open Go Go.Sort
section plain
variable {β:Type}
def insB (lt:β→β→Bool) (x:β):List β→List β
 | []=>[x]
 | y :: ys=>if lt y x then y :: insB lt x ys else x :: y :: ys
def Qiv (lt:β→β→Bool):List β→List β
 | []=>[]
 | x :: xs=>insB lt x (Qiv lt xs)
def Qbdi (lt:β→β→Bool):List β→Bool
 | []=>true
 | x :: xs=>xs.all (fun y=>lt x y || lt y x) && Qbdi lt xs
def Qboz (ok:β→Bool) (lt:β→β→Bool) (l:List β):Option (List β):=if l.all ok && Qbdi lt l then some (Qiv lt l) else none
theorem Qbcp (lt:β→β→Bool) (x:β):∀ l,(insB lt x l).Perm (x :: l)
 | []=>.refl _
 | y :: ys=>by
  unfold insB; split
  ·exact ((Qbcp lt x ys).cons y).trans (.swap x y ys)
  ·exact .refl _
theorem Qjh (lt:β→β→Bool):∀ l,(Qiv lt l).Perm l
 | []=>.refl _
 | x :: xs=>(Qbcp lt x _).trans ((Qjh lt xs).cons x)
theorem Qld (lt:β→β→Bool) (l:List β):(Qiv lt l).length = l.length:=(Qjh lt l).length_eq
theorem Qbcq {lt:β→β→Bool} (h:SWO lt) (x:β):∀ l,l.Pairwise (fun a b=>lt b a = false)→(insB lt x l).Pairwise fun a b=>lt b a = false
 | [],_=>by simp [insB]
 | y :: ys,hl=>by
  obtain ⟨h1,h2⟩:=List.pairwise_cons.1 hl
  unfold insB; split
  ·rename_i hc
   refine List.pairwise_cons.2 ⟨fun z hz=>?_,Qbcq h x ys h2⟩
   rcases List.mem_cons.1 ((Qbcp lt x ys).mem_iff.1 hz) with rfl | hz
   ·cases hb:lt z y with
    | false=>rfl
    | true=>have:=h.trans _ _ _ hc hb; rw [h.irrefl] at this; cases this
   ·exact h1 z hz
  ·rename_i hc
   have hc:lt y x = false:=by cases h:lt y x <;> simp_all
   refine List.pairwise_cons.2 ⟨fun z hz=>?_,hl⟩
   rcases List.mem_cons.1 hz with rfl | hz
   ·exact hc
   ·exact h.ntrans _ _ _ (h1 z hz) hc
theorem Qle {lt:β→β→Bool} (h:SWO lt):∀ l,(Qiv lt l).Pairwise fun a b=>lt b a = false
 | []=>.nil
 | x :: xs=>Qbcq h x _ (Qle h xs)
theorem Qbea {lt:β→β→Bool}:∀ {l:List β},Qbdi lt l = true→∀ a b,a∈l→b∈l→lt a b = false→lt b a = false→a = b
 | [],_,a,_,ha,_,_,_=>by cases ha
 | x :: xs,h,a,b,ha,hb,h1,h2=>by
  simp only [Qbdi,Bool.and_eq_true,List.all_eq_true] at h
  obtain ⟨k1,k2⟩:=h
  rcases List.mem_cons.1 ha with e1 | ha' <;> rcases List.mem_cons.1 hb with e2 | hb'
  ·rw [e1,e2]
  ·subst e1; have:=k1 b hb'; simp [h1,h2] at this
  ·subst e2; have:=k1 a ha'; simp [h1,h2] at this
  ·exact Qbea k2 a b ha' hb' h1 h2
theorem Qbfb {lt:β→β→Bool} (h:SWO lt) {l m:List β} (hd:Qbdi lt l = true) (hp:m.Perm l) (hs:m.Pairwise fun a b=>lt b a = false):m = Qiv lt l:=by
 refine List.Perm.eq_of_pairwise (le:=fun a b=>lt b a = false) (fun a b ha hb h1 h2=>?_) hs (Qle h l) (hp.trans (Qjh lt l).symm)
 exact Qbea hd a b (hp.mem_iff.1 ha) ((Qjh lt l).mem_iff.1 hb) h2 h1
theorem Qbiu {α:Type} (f:α→β) (lt:β→β→Bool) (x:α):∀ l:List α,insB lt (f x) (l.map f) = (insB (fun a b=>lt (f a) (f b)) x l).map f
 | []=>rfl
 | y :: ys=>by
  simp only [List.map_cons,insB]; split
  ·simp only [List.map_cons,Qbiu f lt x ys]
  ·rfl
theorem Qbeb {α:Type} (f:α→β) (lt:β→β→Bool):∀ l:List α,Qiv lt (l.map f) = (Qiv (fun a b=>lt (f a) (f b)) l).map f
 | []=>rfl
 | x :: xs=>by simp only [List.map_cons,Qiv,Qbeb f lt xs,Qbiu]
theorem Qbgh {α:Type} (f:α→β) (lt:β→β→Bool):∀ l:List α,Qbdi lt (l.map f) = Qbdi (fun a b=>lt (f a) (f b)) l
 | []=>rfl
 | x :: xs=>by simp only [List.map_cons,Qbdi,Qbgh f lt xs,List.all_map]; rfl
end plain
def Qfm (a b:Int):Bool:=decide (a < b)
end Go.Abs
end
section
namespace Go.Abs
open Go Go.Sort Go.RowKit
theorem Qbcr {P:Program} {f:FuncId} {ex:Array Value} {exV:List V} {sz nb:Nat} {M:Mem} (hb:Qg2 P f = true) (hex:∀ g w us,RFs g w exV us→us = ex.toList)
  (h:∀ (p:Option Addr) (cap:Nat) (w:World),Calls P f (#[.slice p 0 cap] ++ ex) w fun e' w'=>e' = .returned (.tuple #[])∧w' = w) :
  ACalls P f (.d (.lst sz []) :: exV) M nb (.tup []) M nb:=by
 refine ⟨hb,Nat.le_refl _,fun w g us hm hMon hfresh hus hfl hons=>?_⟩
 obtain ⟨u0,us',rfl,hu0,hus'⟩:=hus
 have h1:=hex _ _ _ hus'
 subst h1
 have h2:∃ p cap,u0 = .slice p 0 cap:=by
  have:=RF_d.1 hu0
  obtain ⟨a,cap,rfl,_,_⟩:=this
  exact ⟨a,cap,rfl⟩
 obtain ⟨p,cap,rfl⟩:=h2
 have e1:(Value.slice p 0 cap :: ex.toList).toArray = #[.slice p 0 cap] ++ ex:=by apply Array.ext'; simp
 rw [e1]
 refine (h p cap w).mono ?_
 rintro e' w' ⟨rfl,rfl⟩
 exact ⟨_,g,rfl,hm,⟨[],rfl,rfl⟩,trivial,hMon,Fr.refl _ _ _⟩
theorem Qbhq (l:List Int):(l.mergeSort fun x y=>decide (x≤y)) = Qiv Qfm l:=by
 have hO:Go.Sort.SWO Qfm:=⟨fun x=>by simp [Qfm],fun x y z h1 h2=>by simp [Qfm] at *; omega,fun x y z h1 h2=>by simp [Qfm] at *; omega⟩
 refine List.Perm.eq_of_pairwise (le:=fun a b=>Qfm b a = false) (fun a b _ _ h1 h2=>by simp [Qfm] at *; omega) ?_ (Qle hO l) ((List.mergeSort_perm _ _).trans (Qjh _ l).symm)
 have:=List.pairwise_mergeSort (le:=fun x y:Int=>decide (x≤y)) (fun a b c h1 h2=>by simp at *; omega) (fun a b=>by simp; omega) l
 exact this.imp fun h=>by simp [Qfm] at *; omega
end Go.Abs
end
section
namespace Go.Abs
def sortI (l : List Int) : Option (List Int) := if l.length ≤ lim then some (Qiv Qfm l) else none
def Qbiv (l : List Int) : Option (List Int) := if l.length ≤ lim then some (Lib.compact l) else none
def okE (x : Qe) : Bool := decide (0 ≤ x.From ∧ x.From < 4611686018427387904 ∧ 0 ≤ x.Event ∧ x.Event < 4611686018427387904)
def ltE (x y : Qe) : Bool := decide (x.From < y.From ∨ (x.From = y.From ∧ x.Event < y.Event))
def Qbn8 (l : List Qe) : Option (List Qe) := if l.length ≤ 65536 then Qboz okE ltE l else none
def Qbo0 (n : Int) : Option (List Int) := if 0 ≤ n ∧ n ≤ lim then some [] else none
def keyB (l : List Int) : ByteArray := ⟨(l.flatMap fun x => Lib.encodeRune (x + 1)).toArray⟩
def keyS (l : List Int) : Option ByteArray := if l.length ≤ lim ∧ ∀ x ∈ l, 0 ≤ x ∧ x < 50000 then some (keyB l) else none
def Qbgi (onto v w : List Int) : Option Bool := if onto.length ≤ lim ∧ v.length ≤ lim ∧ w.length ≤ lim then some (decide ((v.filter fun e => decide (e ∈ onto)) = w.filter fun e => decide (e ∈ onto))) else none
end Go.Abs
end
section
namespace Go.Abs
open Go Go.Abs
set_option maxRecDepth 10000
set_option maxHeartbeats 4000000
def Qb6:Nat:=1099511627776
def Qlf:=Qb7
def Qf7:=Qb5 Qb6
def Qhf:=Qcw Qb6
def Q6:=Qg Qhf
def Qfc:=Qb3 Q6 Qb6
def Qcp:=Qs Qf7 Qfc
def Qh3:=Qcg Qb6
def Qdd:=Qw Qcp Qh3
def Qdy:=Q1 Q6 Qb6
def Qgw:=Qbd
def Qe8:=Q2 Q6 sortI Qgw Qb6
def Qe9:=Q3 Qe8
def Qf1:=Qbc Q6
def Qhb:=Qb4 Qb6
def Qcq:=Qt Qhb
def Qgi:=Qbk Qcq Qf1
def Qfg:=Q4 Qe8 Qb6
def Qiq:=Qbo Qdd Qdy Qe9 keyS Qgi Qfg Qb6
def Qeu:=Qbe Q6
def Qc5:=Qy Qcq Qeu
def Qb2:=Q5
def Qgg:=Qbu Qdd Qdy Qc5 Qb2 Q6 Qb6
def Qqu:=Qc1
def Qqv:=Qc2 Qbo0 Qb6
def Q03:=Qg8
def Q3i:=Qds
def Q6p:=Qe1 Q3i
def Qrn:=Qcx
def Qiw:=Qbz Q6p Qrn Qb6
def Qdg:=Qba Qb6
def Qic:=Qc8
def Qid:=Qc9
def Qeg:=Qbl Qdg Qic Qid
def Qm8:=Qch Qeg Qb2 Qiw Qb6
def Qm9:=Qci Qcp Qm8
def Qob:=Qcr Qdd Q6 Qqu Qqv sortI Qbiv Qbn8 Qm9 Qb6
def Qel:=Qv Qb6
def Qoc:=Qcs Qel Qb6
def Qix:=Qb0 Qel Qb6
def Qfn:=Qbi Qiq Qoc Qix Qel Qgg Qlf Qob
def Qdc:=Qx Qb6
def Qeh:=Q9
def Qcd:=Qbf Qb6
def Qc6:=Qbm Qb6
def Qfo:=Qb8 Qc6 Qcd Qb6
def Qei:=Qb9 Qb6
def Qeb:=Qbr Qeh Qfo Qc6 Qcd Qei Qb6
def Qex:=Qbg Qeh Qeb Qb6
def Qd8:=Qbv Qcp Qeg Qb2 Q6 Qb6
def Qji:=Qc3 Qb6
def Qdu:=Q7 Qji Qb6
def Qhg:=Qcy
def Qe0:=Qby Qb6
def Qi0:=Qdf Qeg Qe0 Qhg
def Qfp:=Qbq Qi0 Qb6
def Qgs:=Qbn Qfp
def Qfq:=Qca Qcp Qgs
def Qd9:=Qda Qfn Qex Qdc Qd8 Qdu Qgg Qbgi Qfq Qb6
def Qlq:=Qcc Qcp
def Qup:=Qdm Q6
def Q3j:=Qdt Qlq Qcq Qup Qfp
def Qqw:=Qc4 Qb6
def Qqx:=Qck Qcp Q6 Qgs
def Qml:=Qd7 Qfn Qex Qdc Qiq Qqw Qd8 Qdu Q3j Qqx Qb6
def Q3k:=Qh2 Qdd Qdy Qe9 Qfg Qc5 Qb6
end Go.Abs
end
section
namespace Go.Abs
open Go Go.Sort Go.Shelf Go.RowKit Go.Lib Go.Proofs
theorem Qbgj {α:Type} [Inhabited α] {enc:α→List Value} {k:Nat} (hk:∀ x,(enc x).length = k) (h0:0 < k):∀ (l:List α) (t:Nat),t < l.length * k→(l.map enc).flatten[t]? = some (enc l[t / k]!)[t % k]!
 | [],t,h=>by simp at h
 | x :: xs,t,h=>by
  rw [List.map_cons,List.flatten_cons]
  by_cases hl:t < k
  ·rw [List.getElem?_append_left (by rw [hk]; exact hl),Nat.div_eq_of_lt hl,Nat.mod_eq_of_lt hl]
   have:t < (enc x).length:=by rw [hk]; exact hl
   simp [this]
  ·have hge:k≤t:=by omega
   have h2:t - k < xs.length * k:=by simp only [List.length_cons,Nat.add_mul,Nat.one_mul] at h; omega
   rw [List.getElem?_append_right (by rw [hk]; exact hge),hk,Qbgj hk h0 xs (t - k) h2]
   have e1:t / k = (t - k) / k + 1:=by rw [← Nat.add_div_right _ h0,Nat.sub_add_cancel hge]
   have e2:t % k = (t - k) % k:=by rw [Nat.mod_eq_sub_mod hge]
   rw [e1,e2]; simp
theorem Qbgk {α:Type} [Inhabited α] {enc:α→List Value} {k:Nat} (hk:∀ x,(enc x).length = k) (h0:0 < k) (l:List α):flatK enc k l.toArray = (l.map enc).flatten.toArray:=by
 have hs:(l.map enc).flatten.length = l.length * k:=by
  induction l with
  | nil=>simp
  | cons x xs ih=>rw [List.map_cons,List.flatten_cons,List.length_append,ih,hk]; simp [Nat.add_mul]; omega
 refine ext_get! (by simp [hs]) fun t ht=>?_
 have ht' : t < l.length * k:=by simpa using ht
 rw [get_flatK _ _ _ _ (by simpa using ht')]
 have:=Qbgj hk h0 l t ht'
 obtain ⟨h1,h2⟩:=List.getElem?_eq_some_iff.1 this
 rw [getElem!_pos _ t (by simpa using h1)]
 simp only [List.getElem_toArray,h2]
 simp
theorem Qbgl {α:Type} (e:α→List D) (xs:List α):rowV e xs = (xs.map fun x=>(e x).map D.val).flatten:=by
 unfold rowV; rw [List.map_flatten,List.map_map]; rfl
theorem Qbdj {P:Program} {ρ:Ren} {α:Type} [Inhabited α] (L:SlLaysF0.n6 P ρ) {k:Nat} (aE:∀ w,(isAgg (ρ.t 24)).run P w = .ok true w) (zE:∀ w,(Go.sizeOf (ρ.t 24)).run P w = .ok k w) (e:α→List D) (hk:∀ x,(e x).length = k) (h0:0 < k) (hsc:∀ x,(e x).all D.scalar = true)
  (cf:α→α→Int) (hO:SWO (ltOf cf)) (g:Nat) (cb:Array Value) (eg:∀ args w,(callFunc g args).run P w = .ok (.enter g args) w)
  (hcmp:∀ (x y:α) (W:World),Calls P g (#[.agg ((e x).map D.val).toArray,.agg ((e y).map D.val).toArray] ++ cb) W fun r w'=>r = .returned (.int .i64 (cf x y))∧∃ q os',w' = grow (W.drewN q) os') :
  Qblm P (ρ.f 6) e #[.func (.func g) #[] cb] (fun xs=>(pdq (ltOf cf) xs.toArray 0 xs.length (Lib.bitLen xs.length) true true).toList):=by
 intro blk cap xs w hc hblk hsz
 have henc:∀ x,((fun x=>(e x).map D.val) x).length = k:=fun x=>by simp [hk]
 have h1:∀ x:α,∀ v∈(e x).map D.val,v.oneCell' = true:=by
  intro x v hv
  obtain ⟨d,hd,rfl⟩:=List.mem_map.1 hv
  exact Qbhp (List.all_eq_true.1 (hsc x) d hd)
 have hH:HoldsK (fun x=>(e x).map D.val) k w blk 0 xs.toArray:=by
  unfold HoldsK
  rw [Qbgk henc h0,← Qbgl]
  intro j hj
  have hj' : j < (rowV e xs).length:=by simpa using hj
  obtain ⟨k1,k2⟩:=hc j hj'
  rw [Nat.zero_add]
  refine ⟨k1.trans ?_,k2⟩
  rw [List.getElem?_eq_getElem hj',getElem!_pos _ j hj]; rfl
 have hcl:CmpLays P g cb (fun x=>(e x).map D.val) k cf blk 0 xs.toArray.size w:=fun _ _ _ _ x y=>hcmp x y _
 have:=AnyQ.slices_SortFunc_eq L k aE zE (fun x=>(e x).map D.val) henc h1 cf hO g cb blk 0 cap xs.toArray w eg hcl hH hblk (by simpa using hsz)
 refine this.mono ?_
 rintro r w' ⟨rfl,n,os,rfl⟩
 refine ⟨rfl,n,os,?_⟩
 unfold sortWorldK putRowK
 have hrow:flatK (fun x=>(e x).map D.val) k (pdq (ltOf cf) xs.toArray 0 xs.toArray.size (Lib.bitLen xs.toArray.size) true true) = (rowV e (pdq (ltOf cf) xs.toArray 0 xs.length (Lib.bitLen xs.length) true true).toList).toArray:=by
  rw [Qbgl,← Qbgk henc h0]; simp
 rw [hrow]
section
variable {α:Type} [Inhabited α]
theorem Qbfc {lt:α→α→Bool} (hO:SWO lt) (xs:List α) (k:Nat):(pdq lt xs.toArray 0 xs.length k true true).toList.Perm xs∧(pdq lt xs.toArray 0 xs.length k true true).toList.Pairwise fun a b=>lt b a = false:=by
 obtain ⟨⟨h1,_,h2⟩,h3⟩:=pdq_sorts lt hO xs.toArray 0 xs.length k true true (Nat.zero_le _) (by simp) (Or.inl rfl)
 generalize pdq lt xs.toArray 0 xs.length k true true = d at *
 have hs:d.size = xs.length:=by simpa using h1
 refine ⟨?_,?_⟩
 ·have e1:d.extract 0 xs.length = d:=by rw [← hs]; exact Array.extract_size
  have e2:xs.toArray.extract 0 xs.length = xs.toArray:=by
   have:xs.length = xs.toArray.size:=by simp
   rw [this]; exact Array.extract_size
  rw [e1,e2] at h2
  simpa using h2
 ·rw [List.pairwise_iff_getElem]
  intro i j hi hj hij
  have hi' : i < d.size:=by simpa using hi
  have hj' : j < d.size:=by simpa using hj
  have:=h3 i j (Nat.zero_le _) hij (by omega)
  rw [getElem!_pos d i hi',getElem!_pos d j hj'] at this
  simpa using this
theorem Qblu {lt:α→α→Bool} (hO:SWO lt) (xs:List α) (k:Nat) (hd:Qbdi lt xs = true):(pdq lt xs.toArray 0 xs.length k true true).toList = Qiv lt xs :=
 Qbfb hO hd (Qbfc hO xs k).1 (Qbfc hO xs k).2
end
theorem Qblv {β:Type} {P:Program} {c:Nat} {e:β→List D} {sz N:Nat} {ok:β→Bool} {lt:β→β→Bool} [Inhabited {x:β // ok x = true}] {lt' : {x:β // ok x = true}→{x:β // ok x = true}→Bool}
  (hN:N < 4611686018427387904) (hk:∀ x,(e x).length = sz) (hsc:∀ x,(e x).all D.scalar = true) (hO:SWO lt') (hlt:∀ x y,lt' x y = lt x.1 y.1) (hb:Qg2 P c = true) {ex:Array Value} {exV:List V} (hex:∀ g w us,RFs g w exV us→us = ex.toList)
  (hrow:Qblm P c (fun x:{x:β // ok x = true}=>e x.1) ex (fun xs=>(pdq lt' xs.toArray 0 xs.length (Lib.bitLen xs.length) true true).toList))
  (hnone:∀ (p:Option Addr) (cap:Nat) (w:World),Calls P c (#[.slice p 0 cap] ++ ex) w fun e' w'=>e' = .returned (.tuple #[])∧w' = w) :
  RowK P c e sz exV (fun l=>if l.length≤N then Qboz ok lt l else none):=by
 intro xs ys h
 dsimp only at h
 split at h <;> try (cases h; done)
 rename_i hlN
 unfold Qboz at h
 split at h <;> cases h
 rename_i hok
 simp only [Bool.and_eq_true,List.all_eq_true] at hok
 obtain ⟨ho,hd⟩:=hok
 obtain ⟨zs,rfl⟩ : ∃ zs:List {x:β // ok x = true},xs = zs.map Subtype.val:=⟨xs.pmap Subtype.mk ho,by rw [List.map_pmap]; simp⟩
 have hd' : Qbdi lt' zs = true:=by
  rw [Qbgh] at hd
  rw [show lt' = fun a b=>lt a.1 b.1 from funext fun a=>funext fun b=>hlt a b]; exact hd
 have e1:Qiv lt (zs.map Subtype.val) = (Qiv lt' zs).map Subtype.val:=by
  rw [Qbeb,show lt' = fun a b=>lt a.1 b.1 from funext fun a=>funext fun b=>hlt a b]
 refine ⟨Qld _ _,fun h0=>?_,fun hl cap k0 M nb hM=>?_⟩
 ·simp only [List.map_eq_nil_iff] at h0
  subst h0
  exact ⟨rfl,fun M nb=>Qbcr hb hex hnone⟩
 ·have hM' : M k0 = some (.cells (Qbt (zs.map fun x=>e x.1) ((cap - zs.length) * sz))):=by
   rw [hM,List.map_map,List.length_map]; rfl
  have:=Qbd8 (fun x=>hk x.1) (fun x=>hsc x.1) (fun xs=>(Qbfc hO xs _).1.length_eq) hex hb hrow zs cap k0 M nb hM' (by rw [List.length_map] at hlN; omega)
  rw [Qblu hO zs _ hd'] at this
  rw [e1,List.map_map,List.length_map]
  exact this
end Go.Abs
end
section
namespace Go.Abs
open Go Go.RowKit
def Ints (n₀:Nat) (W:World) (sv:Value) (zs:List Int):Prop :=
 (∃ a cap,sv = .slice a 0 cap∧zs = [])∨∃ b off cap,sv = .slice (some ⟨b,off,none⟩) zs.length cap∧b < n₀∧∀ j,j < zs.length→W.cell? ⟨b,off + j,none⟩ = some (.int .i64 (zs[j]?.getD 0))
theorem Ints.below {n₀:Nat} {A B:World} (h:Below n₀ A B) {sv:Value} {zs:List Int}:Ints n₀ A sv zs→Ints n₀ B sv zs
 | .inl e=>.inl e
 | .inr ⟨b,off,cap,e,hb,hc⟩=>.inr ⟨b,off,cap,e,hb,fun j hj=>(h.cell (p:=⟨b,off + j,none⟩) hb).trans (hc j hj)⟩
end Go.Abs
end
section
namespace Go.Abs
open Go Go.Sort Go.RowKit
theorem Qbcs (xs:List Int):rowV (eI .i64) xs = xs.map (Value.int .i64):=by
 unfold rowV
 induction xs with
 | nil=>rfl
 | cons x xs ih=>simp only [List.map_cons,List.flatten_cons,List.map_append,ih]; rfl
theorem Qblw {P:Program} {c:Nat} (hb:Qg2 P c = true)
  (hs:∀ (blk off cap:Nat) (zs:List Int) (w:World),Holds (Value.int .i64) w blk off zs.toArray→blk < w.heap.size→zs.length < 4611686018427387904 →
   Calls P c #[.slice (some ⟨blk,off,none⟩) zs.length cap] w fun e w'=>e = .returned (.tuple #[])∧∃ n os,w' = grow (putRow (Value.int .i64) (Sort.ahead w n) blk off (zs.mergeSort fun x y=>decide (x≤y)).toArray) os)
  (hnone:∀ (p:Option Addr) (cap:Nat) (w:World),Calls P c (#[.slice p 0 cap] ++ #[]) w fun e' w'=>e' = .returned (.tuple #[])∧w' = w) :
  RowK P c (eI .i64) 1 [] (fun l=>if l.length≤lim then some (Qiv Qfm l) else none):=by
 have hrow:Qblm P c (eI .i64) #[] (fun xs=>Qiv Qfm xs):=by
  intro blk cap xs w hcell hblk hsz
  refine Calls.mono (hs blk 0 cap xs w ?_ hblk hsz) ?_
  ·intro j hj
   have hj' : j < xs.length:=by simpa using hj
   have:=hcell j (by rw [Qbcs]; simpa using hj')
   rw [Qbcs] at this
   rw [Nat.zero_add]
   refine ⟨?_,this.2⟩
   rw [this.1,getElem!_pos xs.toArray j hj]
   simp [hj']
  ·rintro e w' ⟨rfl,n,os,rfl⟩
   refine ⟨rfl,n,os,?_⟩
   rw [Qbhq,Qbcs]
   congr 1
   unfold putRow
   congr 1
   funext c
   unfold putCells
   congr 1
   funext k x
   simp only [List.size_toArray,List.length_map]
   split
   ·rename_i h
    simp only [id]
    rw [getElem!_pos _ _ (by simp; omega),getElem!_pos _ _ (by simp; omega)]
    simp
   ·rfl
 intro xs ys h
 dsimp only at h
 split at h <;> cases h
 rename_i hl
 refine ⟨Qld _ _,fun h0=>?_,fun hl2 cap k0 M nb hM=>?_⟩
 ·subst h0
  exact ⟨rfl,fun M nb=>Qbcr (ex:=#[]) (exV:=[]) hb (fun _ _ _ h=>h) hnone⟩
 ·exact Qbd8 (e:=eI .i64) (fun _=>rfl) (fun _=>rfl) (fun xs=>Qld _ _) (ex:=#[]) (exV:=[]) (fun _ _ _ h=>h) hb hrow xs cap k0 M nb hM (by unfold lim at hl; omega)
end Go.Abs
end
section
namespace Go.Abs
open Go Go.Sort Go.RowKit Go.Lib
theorem Qbct (zs:List Int):(Lib.compact zs).length≤zs.length:=by
 unfold Lib.compact Lib.compactUpTo
 rw [List.length_map]
 exact Nat.le_trans (List.length_filter_le _ _) (by simp)
theorem Qbo1 (l:List Int):(l.map (eI .i64)).flatten = l.map (D.int .i64):=by
 induction l with
 | nil=>rfl
 | cons x l ih=>simp only [List.map_cons,List.flatten_cons,ih]; rfl
theorem Qbjo {P:Program} {c:Nat} (hb:Qg2 P c = true)
  (hs:∀ (blk off cap:Nat) (zs:List Int) (w:World),Holds (Value.int .i64) w blk off zs.toArray→zs.length≤9223372036854775807→zs.length≤cap →
   Calls P c #[.slice (some ⟨blk,off,none⟩) zs.length cap] w fun e w'=>e = .returned (.slice (some ⟨blk,off,none⟩) (Lib.compact zs).length cap)∧∃ n,w' = putRow (Value.int .i64) (Sort.ahead w n) blk off (Lib.compact zs ++ List.replicate (zs.length - (Lib.compact zs).length) 0).toArray)
  (hnone:∀ (p:Option Addr) (cap:Nat) (w:World),Calls P c #[.slice p 0 cap] w fun e' w'=>e' = .returned (.slice p 0 cap)∧w' = w) :
  CompK P c (fun l=>if l.length≤lim then some (Lib.compact l) else none):=by
 intro xs ys hf
 dsimp only at hf
 split at hf <;> cases hf
 rename_i hl
 refine ⟨Qbct xs,fun h0=>?_,fun cap k0 M nb hcap hM=>?_⟩
 ·subst h0
  refine ⟨rfl,fun M nb=>⟨hb,Nat.le_refl _,fun w g us hm hMon hfresh hus hfl hons=>?_⟩⟩
  obtain ⟨u0,us',rfl,hu0,rfl⟩:=hus
  have h2:=RF_d.1 hu0
  obtain ⟨a,cp,rfl,_,_⟩:=id h2
  refine (hnone a cp w).mono ?_
  rintro e' w' ⟨rfl,rfl⟩
  exact ⟨_,g,rfl,hm,hu0 _,trivial,hMon,Fr.refl _ _ _⟩
 refine ⟨hb,Nat.le_refl _,fun w g us hm hMon hfresh hus hfl hons=>?_⟩
 obtain ⟨u0,us',rfl,hu0,rfl⟩:=hus
 have h0:=Qbde.1 hu0
 subst h0
 obtain ⟨hk0,hown,vals,et,hh,hrv,hone⟩:=hm.box k0 _ hM
 have hlt:g.box k0 < w.heap.size:=(Array.getElem?_eq_some_iff.1 hh).1
 obtain ⟨hvl,hvr⟩:=(Qcj _ _ _ _).1 hrv
 simp only [Qbt,Qbo1,List.map_map,List.length_append,List.length_map,List.length_replicate,Nat.mul_one] at hvl hvr
 have hcell:∀ (j:Nat) (x:Int),xs[j]? = some x→vals[j]? = some (.int .i64 x):=by
  intro j x hx
  have hj:=(List.getElem?_eq_some_iff.1 hx).1
  have hjv:j < vals.length:=by omega
  have hc:(List.map (V.d ∘ D.int .i64) xs ++ List.replicate (cap - xs.length) V.und)[j]? = some (.d (.int .i64 x)):=by
   rw [List.getElem?_append_left (by rw [List.length_map]; exact hj),List.getElem?_map,hx]; rfl
  have:=hvr j _ _ hc (List.getElem?_eq_getElem hjv)
  have h2:vals[j] = .int .i64 x:=this
  rw [List.getElem?_eq_getElem hjv,h2]
 have hH:Holds (Value.int .i64) w (g.box k0) 0 xs.toArray:=by
  intro j hj
  have hj' : j < xs.length:=by simpa using hj
  have:=hcell j xs[j] (List.getElem?_eq_getElem hj')
  rw [Nat.zero_add]
  refine ⟨?_,by simp [World.frozen?,hh]⟩
  rw [getElem!_pos xs.toArray j hj]
  simp [World.cell?,hh,this]
 refine (hs (g.box k0) 0 cap xs w hH (by unfold lim at hl; omega) hcap).mono ?_
 rintro e' w' ⟨rfl,n,rfl⟩
 have hyl:=Qbct xs
 generalize Lib.compact xs = ys at hyl ⊢
 generalize hF:(ys ++ List.replicate (xs.length - ys.length) 0).toArray = F
 have hFs:F.size = xs.length:=by rw [← hF]; simp; omega
 have hput:putRow (Value.int .i64) (Sort.ahead w n) (g.box k0) 0 F = grow (putRow id (Sort.ahead w n) (g.box k0) 0 (F.map (Value.int .i64))) #[]:=by
  have e1:∀ W:World,grow W #[] = W:=fun W=>by unfold grow; simp
  rw [e1]
  unfold putRow
  congr 1
  funext c
  unfold putCells
  congr 1
  funext k x
  simp only [Array.size_map]
  split
  ·rename_i h
   simp only [id]
   rw [getElem!_pos _ _ (by omega),getElem!_pos _ _ (by simp; omega)]
   simp
  ·rfl
 rw [hput]
 generalize hF' : F.map (Value.int .i64) = F'
 have hFs' : F'.size = xs.length:=by rw [← hF',Array.size_map,hFs]
 have hFv:∀ j (h:j < ys.length),F'[j]'(by omega) = Value.int .i64 ys[j]:=by
  intro j h
  subst hF'
  subst hF
  simp only [List.getElem_toArray,Array.getElem_map]
  rw [List.getElem_append_left h]
 have hFi:∀ j (h:j < F'.size),∃ z:Int,F'[j] = Value.int .i64 z:=by
  intro j h
  subst hF'
  exact ⟨_,Array.getElem_map ..⟩
 have hblk:=Qbcj w n (g.box k0) F' #[] hh
 have hoth:∀ b,b≠g.box k0→b < w.heap.size→(grow (putRow id (Sort.ahead w n) (g.box k0) 0 F') #[]).heap[b]? = w.heap[b]?:=fun b hb hlt=>Qsu w n _ F' #[] hb hlt
 have hsize:w.heap.size≤(grow (putRow id (Sort.ahead w n) (g.box k0) 0 F') #[]).heap.size:=by
  simp [putRow,mapBlock,Sort.ahead]
 generalize hw' : grow (putRow id (Sort.ahead w n) (g.box k0) 0 F') #[] = w' at hblk hoth hsize
 have himm:Imm g.imm g.imm w w':=by
  refine ⟨fun _ _ h=>h,fun b o h=>?_⟩
  obtain ⟨k1,k2⟩:=hm.imm b o h
  have hne:b≠g.box k0:=by rintro rfl; exact k2 k0 hown
  simp only [World.cell?,hoth b hne k1]
 have hkept:Kept g w g w' (There M) (fun o=>o ≠ .box k0):=⟨himm,fun _ _=>rfl,fun b hb hl=>⟨rfl,hoth b (by rintro rfl; exact hb hown) hl,fun _=>Iff.rfl⟩⟩
 have hsub:∀ (o:Owner) i,o ≠ .box k0→o.sub i ≠ .box k0:=by intro o i _; cases o <;> simp [Owner.sub]
 have hnew:∀ p:Nat→Prop,V.ons p (Qbt (ys.map (eI .i64)) ((cap - ys.length) * 1)):=by
  intro p
  rw [Qgk]
  intro v hv
  simp only [Qbt,List.mem_append,List.mem_map,List.mem_replicate] at hv
  rcases hv with ⟨x,_,rfl⟩ | ⟨_,rfl⟩ <;> trivial
 have hth:There (M.put k0 (.cells (Qbt (ys.map (eI .i64)) ((cap - ys.length) * 1)))) k0:=by simp [There,Mem.put]
 refine ⟨_,g,rfl,⟨fun k b hk=>?_,fun b o h=>⟨Nat.lt_of_lt_of_le (hm.imm b o h).1 hsize,(hm.imm b o h).2⟩⟩,by simp [RV],hth,fun k cs hk=>?_,?_⟩
 ·by_cases hkk:k = k0
  ·subst hkk
   rw [Qf3] at hk; cases hk
   refine ⟨hk0,hown,(putCells id 0 F' vals.toArray).toList,et,by simpa using hblk,(Qcj _ _ _ _).2 ⟨?_,fun j cc x hc hx=>?_⟩,fun x hx=>?_⟩
   ·simp only [Qbt,Qbo1,List.map_map,List.length_append,List.length_map,List.length_replicate,Nat.mul_one]
    simp [putCells]
    omega
   ·have hx' : (putCells id 0 F' vals.toArray)[j]? = some x:=by simpa using hx
    simp only [putCells,Array.getElem?_mapIdx,List.getElem?_toArray,Option.map_eq_some_iff] at hx'
    obtain ⟨y,hy,rfl⟩:=hx'
    simp only [Qbt,Qbo1,List.map_map,Nat.mul_one] at hc
    by_cases hj:j < ys.length
    ·rw [List.getElem?_append_left (by rw [List.length_map]; exact hj),List.getElem?_map,List.getElem?_eq_getElem hj,Option.map_some,Option.some.injEq] at hc
     subst hc
     rw [if_pos ⟨Nat.zero_le _,by omega⟩]
     simp only [Nat.sub_zero,id]
     rw [getElem!_pos F' j (by omega),hFv j hj]
     simp [RV,RD]
    ·rw [List.getElem?_append_right (by rw [List.length_map]; omega)] at hc
     have:cc = .und:=(List.mem_replicate.1 (List.mem_of_getElem? hc)).2
     subst this; simp [RV]
   ·obtain ⟨j,hj⟩:=List.getElem?_of_mem hx
    have hx' : (putCells id 0 F' vals.toArray)[j]? = some x:=by simpa using hj
    simp only [putCells,Array.getElem?_mapIdx,List.getElem?_toArray,Option.map_eq_some_iff] at hx'
    obtain ⟨y,hy,rfl⟩:=hx'
    split
    ·rename_i hr
     simp only [id]
     rw [getElem!_pos F' _ (by omega)]
     obtain ⟨z,hz⟩:=hFi (j - 0) (by omega)
     rw [hz]
     exact Qbhp (x:=.int .i64 z) rfl
    ·exact hone y (List.mem_of_getElem? hy)
  ·rw [Qcu _ _ hkk] at hk
   obtain ⟨k1,k2,k3⟩:=hm.box k b hk
   cases b with
   | mp es c =>
    obtain ⟨ents,q1,q2⟩:=k3
    have hne:g.box k≠g.box k0:=by
     intro h; rw [h,hown] at k2; cases k2; exact hkk rfl
    exact ⟨k1,k2,ents,(hoth _ hne (Array.getElem?_eq_some_iff.1 q1).1).trans q1,Qpk (g:=g) (g':=g) hkept.imm q2⟩
   | cells cs =>
    obtain ⟨vals2,e2,q1,q2,q3⟩:=k3
    have hne:g.box k≠g.box k0:=by
     intro h; rw [h,hown] at k2; cases k2; exact hkk rfl
    refine ⟨k1,k2,vals2,e2,(hoth _ hne (Array.getElem?_eq_some_iff.1 q1).1).trans q1,?_,q3⟩
    exact RVs_mono hkept hsub (by simp) cs (.box k) 0 vals2 (by simpa using hkk) (hMon k cs hk) q2
 ·by_cases hkk:k = k0
  ·subst hkk
   rw [Qf3] at hk; cases hk
   exact hnew _
  ·rw [Qcu _ _ hkk] at hk
   exact ons_mono (fun j hj=>There.put hj) _ (hMon k cs hk)
 ·refine ⟨by rw [← hw']; rfl,by rw [← hw']; rfl,by rw [← hw']; rfl,hsize,himm,fun _ _=>rfl,fun b hb ho=>⟨rfl,hoth b ?_ hb,fun _=>Iff.rfl⟩⟩
  rintro rfl
  rw [hown] at ho
  exact ho
end Go.Abs
end
section
namespace Go.Proofs
open Go.Shelf
def Tryz.sortI_ren:Go.Shelf.Ren:=⟨fun | 5=>67 | 8=>93 | 7=>92 | 19=>109 | 20=>110 | 10=>101 | 11=>102 | 12=>103 | 13=>104 | 14=>105 | 15=>106 | 16=>97 | 17=>107 | 18=>108 | 30=>122 | 31=>123 | 32=>124 | 33=>125 | 34=>126 | 35=>121 | 40=>130 | n=>n,fun | 23=>27 | 25=>3 | 3=>3 | 32=>134 | 22=>27 | 0=>0 | 44=>149 | 46=>151 | 4=>4 | 36=>143 | 35=>142 | 41=>88 | 5=>5 | 9=>9 | 53=>159 | 57=>163 | 63=>167 | 64=>98 | n=>n,fun | n=>n⟩
theorem Tryz.sortI:Go.Proofs.SlLaysM.n5 Tryz.prog Tryz.sortI_ren:={
 mixed:=by kernel_rfl
 f5:=⟨Tryz.f67.name,by decide,Tryz.func67.trans (congrArg some (by kernel_rfl))⟩
 f7:=⟨Tryz.f92.name,by decide,Tryz.func92.trans (congrArg some (by kernel_rfl))⟩
 f8:=Tryz.func93.trans (congrArg some (by kernel_rfl))
 f10:=⟨Tryz.f101.name,by decide,Tryz.func101.trans (congrArg some (by kernel_rfl))⟩
 f11:=⟨Tryz.f102.name,by decide,Tryz.func102.trans (congrArg some (by kernel_rfl))⟩
 f12:=⟨Tryz.f103.name,by decide,Tryz.func103.trans (congrArg some (by kernel_rfl))⟩
 f13:=⟨Tryz.f104.name,by decide,Tryz.func104.trans (congrArg some (by kernel_rfl))⟩
 f14:=⟨Tryz.f105.name,by decide,Tryz.func105.trans (congrArg some (by kernel_rfl))⟩
 f15:=⟨Tryz.f106.name,by decide,Tryz.func106.trans (congrArg some (by kernel_rfl))⟩
 f16:=⟨Tryz.f97.name,by decide,Tryz.func97.trans (congrArg some (by kernel_rfl))⟩
 f17:=⟨Tryz.f107.name,by decide,Tryz.func107.trans (congrArg some (by kernel_rfl))⟩
 f18:=⟨Tryz.f108.name,by decide,Tryz.func108.trans (congrArg some (by kernel_rfl))⟩
 f19:=Tryz.func109.trans (congrArg some (by kernel_rfl))
 f20:=Tryz.func110.trans (congrArg some (by kernel_rfl))
 f30:=⟨Tryz.f122.name,by decide,Tryz.func122.trans (congrArg some (by kernel_rfl))⟩
 f31:=Tryz.func123.trans (congrArg some (by kernel_rfl))
 f32:=Tryz.func124.trans (congrArg some (by kernel_rfl))
 f33:=⟨Tryz.f125.name,by decide,Tryz.func125.trans (congrArg some (by kernel_rfl))⟩
 f34:=⟨Tryz.f126.name,by decide,Tryz.func126.trans (congrArg some (by kernel_rfl))⟩
 f35:=⟨Tryz.f121.name,by decide,Tryz.func121.trans (congrArg some (by kernel_rfl))⟩
 f40:=⟨Tryz.f130.name,by decide,Tryz.func130.trans (congrArg some (by kernel_rfl))⟩
 t0:=Tryz.underlying0
 a0:=Tryz.isAgg0
 z0:=Tryz.sizeOf0
 v0:=Tryz.zeroValue0
 t3:=Tryz.underlying3
 a3:=Tryz.isAgg3
 z3:=Tryz.sizeOf3
 v3:=Tryz.zeroValue3
 t4:=Tryz.underlying4
 a4:=Tryz.isAgg4
 z4:=Tryz.sizeOf4
 v4:=Tryz.zeroValue4
 t5:=Tryz.underlying5
 a5:=Tryz.isAgg5
 z5:=Tryz.sizeOf5
 v5:=Tryz.zeroValue5
 t9:=Tryz.underlying9
 a9:=Tryz.isAgg9
 z9:=Tryz.sizeOf9
 v9:=Tryz.zeroValue9
 t22:=Tryz.underlying27
 a22:=Tryz.isAgg27
 z22:=Tryz.sizeOf27
 v22:=Tryz.zeroValue27
 t23:=Tryz.underlying27
 a23:=Tryz.isAgg27
 z23:=Tryz.sizeOf27
 v23:=Tryz.zeroValue27
 t25:=Tryz.underlying3
 a25:=Tryz.isAgg3
 z25:=Tryz.sizeOf3
 v25:=Tryz.zeroValue3
 t32:=Tryz.underlying134
 a32:=Tryz.isAgg134
 z32:=Tryz.sizeOf134
 v32:=Tryz.zeroValue134
 t35:=Tryz.underlying142
 a35:=Tryz.isAgg142
 z35:=Tryz.sizeOf142
 v35:=Tryz.zeroValue142
 t36:=Tryz.underlying143
 a36:=Tryz.isAgg143
 z36:=Tryz.sizeOf143
 v36:=Tryz.zeroValue143
 t41:=Tryz.underlying88
 a41:=Tryz.isAgg88
 z41:=Tryz.sizeOf88
 v41:=Tryz.zeroValue88
 t44:=Tryz.underlying149
 a44:=Tryz.isAgg149
 z44:=Tryz.sizeOf149
 v44:=Tryz.zeroValue149
 t46:=Tryz.underlying151
 a46:=Tryz.isAgg151
 z46:=Tryz.sizeOf151
 v46:=Tryz.zeroValue151
 t53:=Tryz.underlying159
 a53:=Tryz.isAgg159
 z53:=Tryz.sizeOf159
 v53:=Tryz.zeroValue159
 t57:=Tryz.underlying163
 a57:=Tryz.isAgg163
 z57:=Tryz.sizeOf163
 v57:=Tryz.zeroValue163
 t63:=Tryz.underlying167
 a63:=Tryz.isAgg167
 z63:=Tryz.sizeOf167
 v63:=Tryz.zeroValue167
 t64:=Tryz.underlying98
 a64:=Tryz.isAgg98
 z64:=Tryz.sizeOf98
 v64:=Tryz.zeroValue98 }
def Tryz.sortE_ren:Go.Shelf.Ren:=⟨fun | 6=>69 | 15=>93 | 14=>94 | 28=>109 | 29=>110 | 20=>111 | 21=>112 | 22=>113 | 23=>114 | 24=>115 | 25=>116 | 26=>117 | 27=>118 | 46=>127 | 47=>123 | 48=>124 | 49=>128 | 50=>129 | 57=>131 | n=>n,fun | 22=>31 | 24=>76 | 25=>111 | 3=>3 | 39=>134 | 0=>0 | 53=>149 | 55=>151 | 4=>4 | 46=>143 | 45=>142 | 50=>88 | 5=>5 | 9=>9 | 66=>159 | 70=>163 | 76=>167 | 77=>98 | n=>n,fun | n=>n⟩
theorem Tryz.sortE:Go.Proofs.SlLaysF0.n6 Tryz.prog Tryz.sortE_ren:={
 mixed:=by kernel_rfl
 f6:=⟨Tryz.f69.name,by decide,Tryz.func69.trans (congrArg some (by kernel_rfl))⟩
 f14:=⟨Tryz.f94.name,by decide,Tryz.func94.trans (congrArg some (by kernel_rfl))⟩
 f15:=Tryz.func93.trans (congrArg some (by kernel_rfl))
 f20:=⟨Tryz.f111.name,by decide,Tryz.func111.trans (congrArg some (by kernel_rfl))⟩
 f21:=⟨Tryz.f112.name,by decide,Tryz.func112.trans (congrArg some (by kernel_rfl))⟩
 f22:=⟨Tryz.f113.name,by decide,Tryz.func113.trans (congrArg some (by kernel_rfl))⟩
 f23:=⟨Tryz.f114.name,by decide,Tryz.func114.trans (congrArg some (by kernel_rfl))⟩
 f24:=⟨Tryz.f115.name,by decide,Tryz.func115.trans (congrArg some (by kernel_rfl))⟩
 f25:=⟨Tryz.f116.name,by decide,Tryz.func116.trans (congrArg some (by kernel_rfl))⟩
 f26:=⟨Tryz.f117.name,by decide,Tryz.func117.trans (congrArg some (by kernel_rfl))⟩
 f27:=⟨Tryz.f118.name,by decide,Tryz.func118.trans (congrArg some (by kernel_rfl))⟩
 f28:=Tryz.func109.trans (congrArg some (by kernel_rfl))
 f29:=Tryz.func110.trans (congrArg some (by kernel_rfl))
 f46:=⟨Tryz.f127.name,by decide,Tryz.func127.trans (congrArg some (by kernel_rfl))⟩
 f47:=Tryz.func123.trans (congrArg some (by kernel_rfl))
 f48:=Tryz.func124.trans (congrArg some (by kernel_rfl))
 f49:=⟨Tryz.f128.name,by decide,Tryz.func128.trans (congrArg some (by kernel_rfl))⟩
 f50:=⟨Tryz.f129.name,by decide,Tryz.func129.trans (congrArg some (by kernel_rfl))⟩
 f57:=⟨Tryz.f131.name,by decide,Tryz.func131.trans (congrArg some (by kernel_rfl))⟩
 t0:=Tryz.underlying0
 a0:=Tryz.isAgg0
 z0:=Tryz.sizeOf0
 v0:=Tryz.zeroValue0
 t3:=Tryz.underlying3
 a3:=Tryz.isAgg3
 z3:=Tryz.sizeOf3
 v3:=Tryz.zeroValue3
 t4:=Tryz.underlying4
 a4:=Tryz.isAgg4
 z4:=Tryz.sizeOf4
 v4:=Tryz.zeroValue4
 t5:=Tryz.underlying5
 a5:=Tryz.isAgg5
 z5:=Tryz.sizeOf5
 v5:=Tryz.zeroValue5
 t9:=Tryz.underlying9
 a9:=Tryz.isAgg9
 z9:=Tryz.sizeOf9
 v9:=Tryz.zeroValue9
 t22:=Tryz.underlying31
 a22:=Tryz.isAgg31
 z22:=Tryz.sizeOf31
 v22:=Tryz.zeroValue31
 t25:=Tryz.underlying111
 a25:=Tryz.isAgg111
 z25:=Tryz.sizeOf111
 v25:=Tryz.zeroValue111
 t39:=Tryz.underlying134
 a39:=Tryz.isAgg134
 z39:=Tryz.sizeOf134
 v39:=Tryz.zeroValue134
 t45:=Tryz.underlying142
 a45:=Tryz.isAgg142
 z45:=Tryz.sizeOf142
 v45:=Tryz.zeroValue142
 t46:=Tryz.underlying143
 a46:=Tryz.isAgg143
 z46:=Tryz.sizeOf143
 v46:=Tryz.zeroValue143
 t50:=Tryz.underlying88
 a50:=Tryz.isAgg88
 z50:=Tryz.sizeOf88
 v50:=Tryz.zeroValue88
 t53:=Tryz.underlying149
 a53:=Tryz.isAgg149
 z53:=Tryz.sizeOf149
 v53:=Tryz.zeroValue149
 t55:=Tryz.underlying151
 a55:=Tryz.isAgg151
 z55:=Tryz.sizeOf151
 v55:=Tryz.zeroValue151
 t66:=Tryz.underlying159
 a66:=Tryz.isAgg159
 z66:=Tryz.sizeOf159
 v66:=Tryz.zeroValue159
 t70:=Tryz.underlying163
 a70:=Tryz.isAgg163
 z70:=Tryz.sizeOf163
 v70:=Tryz.zeroValue163
 t76:=Tryz.underlying167
 a76:=Tryz.isAgg167
 z76:=Tryz.sizeOf167
 v76:=Tryz.zeroValue167
 t77:=Tryz.underlying98
 a77:=Tryz.isAgg98
 z77:=Tryz.sizeOf98
 v77:=Tryz.zeroValue98 }
def Tryz.laysC_ren:Go.Shelf.Ren:=⟨fun | 20=>68 | n=>n,fun | 22=>27 | 3=>3 | 4=>4 | 0=>0 | n=>n,fun | n=>n⟩
theorem Tryz.laysC:Go.Proofs.Lays2.n20 Tryz.prog Tryz.laysC_ren:={
 mixed:=by kernel_rfl
 f20:=Tryz.func68.trans (congrArg some (by kernel_rfl))
 t0:=Tryz.underlying0
 a0:=Tryz.isAgg0
 z0:=Tryz.sizeOf0
 v0:=Tryz.zeroValue0
 t3:=Tryz.underlying3
 a3:=Tryz.isAgg3
 z3:=Tryz.sizeOf3
 v3:=Tryz.zeroValue3
 t4:=Tryz.underlying4
 a4:=Tryz.isAgg4
 z4:=Tryz.sizeOf4
 v4:=Tryz.zeroValue4
 t22:=Tryz.underlying27
 a22:=Tryz.isAgg27
 z22:=Tryz.sizeOf27
 v22:=Tryz.zeroValue27
 i3:=by kernel_rfl }
open Go.RowKit Go.Sort in
theorem Tryz.slices_Sort_int (blk off cap:Nat) (zs:List Int) (w:World) (hH:Holds (Value.int .i64) w blk off zs.toArray) (hblk:blk < w.heap.size) (hsz:zs.length < 4611686018427387904) :
  Calls Tryz.prog 67 #[.slice (some ⟨blk,off,none⟩) zs.length cap] w fun e w' =>
   e = .returned (.tuple #[])∧∃ n os,w' = grow (putRow (Value.int .i64) (Sort.ahead w n) blk off (zs.mergeSort fun x y=>decide (x≤y)).toArray) os:=AnyM.slices_Sort_int Tryz.sortI blk off cap zs w hH hblk hsz
open Go.RowKit Go.Sort in
theorem Tryz.slices_Sort_int_none (p:Option Addr) (cap:Nat) (w:World) :
  Calls Tryz.prog 67 #[.slice p 0 cap] w fun e w'=>e = .returned (.tuple #[])∧w' = w:=AnyM.slices_Sort_int_none Tryz.sortI p cap w
open Go.RowKit Go.Lib Go.Sort in
theorem Tryz.slices_Compact_int (blk off cap:Nat) (zs:List Int) (w:World) (hH:Holds (Value.int .i64) w blk off zs.toArray) (hsz:zs.length≤9223372036854775807) (hcap:zs.length≤cap) :
  Calls Tryz.prog 68 #[.slice (some ⟨blk,off,none⟩) zs.length cap] w fun e w'=>e = .returned (.slice (some ⟨blk,off,none⟩) (Lib.compact zs).length cap)∧∃ q,w' = putRow (Value.int .i64) (Sort.ahead w q) blk off (Lib.compact zs ++ List.replicate (zs.length - (Lib.compact zs).length) 0).toArray:=Any.slices_Compact_int Tryz.laysC blk off cap zs w hH hsz hcap
open Go.RowKit Go.Lib Go.Sort in
theorem Tryz.slices_Compact_int_empty (a:Option Addr) (cap:Nat) (w:World) :
  Calls Tryz.prog 68 #[.slice a 0 cap] w fun e w'=>e = .returned (.slice a 0 cap)∧w' = w:=Any.slices_Compact_int_empty Tryz.laysC a cap w
end Go.Proofs
end
section
namespace Go.Proofs
open Go.Shelf Go.RowKit Go.Lib Go.Sort Go.Abs
abbrev Qbec:={x:Qe // okE x = true}
instance:Inhabited Qbec:=⟨⟨⟨0,0,0⟩,rfl⟩⟩
def cfE (x y:Qbec):Int:=if x.1.From = y.1.From then x.1.Event - y.1.Event else x.1.From - y.1.From
theorem Qbbk (x y:Qbec):ltOf cfE x y = ltE x.1 y.1:=by
 unfold ltOf cfE ltE
 apply decide_eq_decide.2
 split <;> omega
theorem swoE:SWO (ltOf cfE):={
 irrefl x:=by rw [Qbbk]; simp [ltE]
 trans x y z h1 h2:=by rw [Qbbk] at *; simp only [ltE,decide_eq_true_eq] at *; omega
 ntrans x y z h1 h2:=by rw [Qbbk] at *; simp only [ltE,decide_eq_false_iff_not] at *; omega }
set_option maxHeartbeats 1000000 in
theorem Tryz.edges37 (x y:Qbec) (W:World):Calls Tryz.prog 70 #[.agg ((Qc x.1).map D.val).toArray,.agg ((Qc y.1).map D.val).toArray] W fun e w'=>e = .returned (.int .i64 (cfE x y))∧∃ q os',w' = grow (W.drewN q) os':=by
 obtain ⟨⟨a,b,c⟩,hx0⟩:=x
 obtain ⟨⟨a',b',c'⟩,hy0⟩:=y
 have hx:=hx0
 have hy:=hy0
 simp only [okE,decide_eq_true_eq] at hx hy
 have w1:IntKind.i64.wrap (a - a') = a - a':=by simp [IntKind.wrap,IntKind.bits,IntKind.signed]; omega
 have w2:IntKind.i64.wrap (b - b') = b - b':=by simp [IntKind.wrap,IntKind.bits,IntKind.signed]; omega
 have hr:cfE ⟨⟨a,b,c⟩,hx0⟩ ⟨⟨a',b',c'⟩,hy0⟩ = if a = a' then b - b' else a - a':=rfl
 generalize cfE ⟨⟨a,b,c⟩,hx0⟩ ⟨⟨a',b',c'⟩,hy0⟩ = r at hr ⊢
 simp only [Qc,List.map_cons,List.map_nil,D.val]
 go_enter Tryz.func70,Tryz.ntmps70
 go_wp2
 ·rename_i h
  have h:a≠a':=by simpa using h
  go_ret
  exact ⟨by rw [hr,if_neg h]; rfl,0,_,by rw [alloc_eq_grow,alloc_eq_grow,grow_grow]; rfl⟩
 ·rename_i h
  have h:a = a':=by simpa using h
  go_ret
  exact ⟨by rw [hr,if_pos h]; rfl,0,_,by rw [alloc_eq_grow,alloc_eq_grow,grow_grow]; rfl⟩
set_option maxHeartbeats 1000000 in
theorem Tryz.row36:Qblm Tryz.prog 69 (fun x:Qbec=>Qc x.1) #[.func (.func 70) #[] #[]] (fun xs=>(pdq (ltOf cfE) xs.toArray 0 xs.length (Lib.bitLen xs.length) true true).toList) :=
 Qbdj Tryz.sortE Tryz.isAgg76 Tryz.sizeOf76 (fun x:Qbec=>Qc x.1) (fun _=>rfl) (by decide) (fun _=>rfl) cfE swoE 70 #[] (enters_of Tryz.func70 (by kernel_rfl) rfl) (fun x y W=>Tryz.edges37 x y W)
set_option maxHeartbeats 1000000 in
theorem Tryz.none36 (p:Option Addr) (cap:Nat) (w:World):Calls Tryz.prog 69 (#[.slice p 0 cap] ++ #[.func (.func 70) #[] #[]]) w fun e' w'=>e' = .returned (.tuple #[])∧w' = w :=
 AnyF.slices_SortFunc_none Tryz.sortE p cap (.func (.func 70) #[] #[]) w
theorem Tryz.rowK36:Go.Abs.RowK Tryz.prog 69 Qc 3 [.clo 70 []] Qbn8 :=
 Qblv (e:=Qc) (sz:=3) (N:=65536) (by decide) (fun _=>rfl) (fun _=>rfl) swoE Qbbk (by kernel_rfl) (ex:=#[.func (.func 70) #[] #[]]) (exV:=[.clo 70 []]) (fun g w us h=>by
  obtain ⟨u,us',rfl,hu,hus⟩:=h
  simp only [RFs] at hus
  subst hus
  have:=hu .free
  simp only [RV] at this
  obtain ⟨vs,rfl,hv⟩:=this
  simp only [RVs] at hv
  subst hv
  rfl) Tryz.row36 Tryz.none36
theorem Tryz.rowK33:Go.Abs.RowK Tryz.prog 67 (eI .i64) 1 [] Go.Abs.sortI :=
 Qblw (by kernel_rfl) Tryz.slices_Sort_int Tryz.slices_Sort_int_none
theorem Tryz.compK34:Go.Abs.CompK Tryz.prog 68 Qbiv :=
 Qbjo (by kernel_rfl) Tryz.slices_Compact_int Tryz.slices_Compact_int_empty
end Go.Proofs
end
section
namespace Go.Proofs
open Go.Shelf
def Tryz.lays169_ren:Go.Shelf.Ren:=⟨fun | 169=>77 | n=>n,fun | 70=>116 | 9=>9 | 0=>0 | 72=>119 | 37=>117 | 127=>137 | 3=>3 | 5=>5 | n=>n,fun | n=>n⟩
theorem Tryz.lays169:Go.Proofs.Lays.n169 Tryz.prog Tryz.lays169_ren:={
 mixed:=by kernel_rfl
 f169:=Tryz.func77.trans (congrArg some (by kernel_rfl))
 t0:=Tryz.underlying0
 a0:=Tryz.isAgg0
 z0:=Tryz.sizeOf0
 v0:=Tryz.zeroValue0
 t3:=Tryz.underlying3
 a3:=Tryz.isAgg3
 z3:=Tryz.sizeOf3
 v3:=Tryz.zeroValue3
 t9:=Tryz.underlying9
 a9:=Tryz.isAgg9
 z9:=Tryz.sizeOf9
 v9:=Tryz.zeroValue9
 t37:=Tryz.underlying117
 a37:=Tryz.isAgg117
 z37:=Tryz.sizeOf117
 v37:=Tryz.zeroValue117
 t70:=Tryz.underlying116
 a70:=Tryz.isAgg116
 z70:=Tryz.sizeOf116
 v70:=Tryz.zeroValue116
 t72:=Tryz.underlying119
 a72:=Tryz.isAgg119
 z72:=Tryz.sizeOf119
 v72:=Tryz.zeroValue119
 t127:=Tryz.underlying137
 a127:=Tryz.isAgg137
 z127:=Tryz.sizeOf137
 v127:=Tryz.zeroValue137 }
theorem Tryz.Builder_Extra_169:Builder.Extra Tryz.prog Tryz.lays169_ren:={
 sizeBuilder:=by kernel_rfl
 liesBuilder:=by kernel_rfl
 t5:=Tryz.underlying5
 a5:=Tryz.isAgg5
 z5:=Tryz.sizeOf5
 v5:=Tryz.zeroValue5
 infoByte:=by kernel_rfl
 cellsByte:=by kernel_rfl
 sizeByte:=by kernel_rfl
 neB5:=by decide }
open Go.RowKit in
theorem Tryz.Builder_String_any_k (B b:Nat) (l:List UInt8) (w:World) (h:Lib.IsBuilderF 119 5 B b (Lib.byteCells l) w) (hBw:B≤w.heap.size) :
  Calls Tryz.prog 77 #[.pointer (some ⟨b,0,none⟩)] w fun e w'=>e = .returned (.string ⟨l.toArray⟩)∧(Lib.IsBuilderF 119 5 B b (Lib.byteCells l) w' ∧ Below B w w' ∧ Lib.OthersKept 5 (some b) w w'):=Any.Builder_String_any_k Tryz.lays169 Tryz.Builder_Extra_169 B b l w h hBw
def Tryz.lays168_ren:Go.Shelf.Ren:=⟨fun | 168=>76 | 240=>95 | 242=>96 | 276=>119 | 278=>120 | n=>n,fun | 0=>0 | 3=>3 | 4=>4 | 5=>5 | 9=>9 | 20=>20 | 21=>21 | 37=>117 | 46=>134 | 51=>149 | 70=>116 | 72=>119 | 75=>121 | 80=>124 | 164=>157 | n=>n,fun | n=>n⟩
theorem Tryz.lays168:Go.Proofs.Lays.n168 Tryz.prog Tryz.lays168_ren:={
 mixed:=by kernel_rfl
 f168:=Tryz.func76.trans (congrArg some (by kernel_rfl))
 f240:=Tryz.func95.trans (congrArg some (by kernel_rfl))
 f242:=Tryz.func96.trans (congrArg some (by kernel_rfl))
 f276:=Tryz.func119.trans (congrArg some (by kernel_rfl))
 f278:=Tryz.func120.trans (congrArg some (by kernel_rfl))
 t0:=Tryz.underlying0
 a0:=Tryz.isAgg0
 z0:=Tryz.sizeOf0
 v0:=Tryz.zeroValue0
 t3:=Tryz.underlying3
 a3:=Tryz.isAgg3
 z3:=Tryz.sizeOf3
 v3:=Tryz.zeroValue3
 t4:=Tryz.underlying4
 a4:=Tryz.isAgg4
 z4:=Tryz.sizeOf4
 v4:=Tryz.zeroValue4
 t5:=Tryz.underlying5
 a5:=Tryz.isAgg5
 z5:=Tryz.sizeOf5
 v5:=Tryz.zeroValue5
 t9:=Tryz.underlying9
 a9:=Tryz.isAgg9
 z9:=Tryz.sizeOf9
 v9:=Tryz.zeroValue9
 t20:=Tryz.underlying20
 a20:=Tryz.isAgg20
 z20:=Tryz.sizeOf20
 v20:=Tryz.zeroValue20
 t21:=Tryz.underlying21
 a21:=Tryz.isAgg21
 z21:=Tryz.sizeOf21
 v21:=Tryz.zeroValue21
 t37:=Tryz.underlying117
 a37:=Tryz.isAgg117
 z37:=Tryz.sizeOf117
 v37:=Tryz.zeroValue117
 t46:=Tryz.underlying134
 a46:=Tryz.isAgg134
 z46:=Tryz.sizeOf134
 v46:=Tryz.zeroValue134
 t51:=Tryz.underlying149
 a51:=Tryz.isAgg149
 z51:=Tryz.sizeOf149
 v51:=Tryz.zeroValue149
 t70:=Tryz.underlying116
 a70:=Tryz.isAgg116
 z70:=Tryz.sizeOf116
 v70:=Tryz.zeroValue116
 t72:=Tryz.underlying119
 a72:=Tryz.isAgg119
 z72:=Tryz.sizeOf119
 v72:=Tryz.zeroValue119
 t75:=Tryz.underlying121
 a75:=Tryz.isAgg121
 z75:=Tryz.sizeOf121
 v75:=Tryz.zeroValue121
 t164:=Tryz.underlying157
 a164:=Tryz.isAgg157
 z164:=Tryz.sizeOf157
 v164:=Tryz.zeroValue157 }
theorem Tryz.Builder_Extra_168:Builder.Extra Tryz.prog Tryz.lays168_ren:={
 sizeBuilder:=by kernel_rfl
 liesBuilder:=by kernel_rfl
 t5:=Tryz.underlying5
 a5:=Tryz.isAgg5
 z5:=Tryz.sizeOf5
 v5:=Tryz.zeroValue5
 infoByte:=by kernel_rfl
 cellsByte:=by kernel_rfl
 sizeByte:=by kernel_rfl
 neB5:=by decide }
open Go.RowKit in
theorem Tryz.Builder_WriteRune_k (B b:Nat) (bs:List Value) (r:Int) (hr0 : -2147483648≤r) (hr1:r≤2147483647) (w:World) (h:Lib.IsBuilderF 119 5 B b bs w) (hlen:bs.length + 4≤140737488355328) (hBw:B≤w.heap.size) :
  Calls Tryz.prog 76 #[.pointer (some ⟨b,0,none⟩),.int .i32 r] w fun e w'=>e = .returned (.tuple #[.int .i64 (Lib.runeCells r).length,.nilIface])∧(Lib.BuilderAtF 119 5 B b (.pointer (some ⟨b,0,none⟩)) (bs ++ Lib.runeCells r) w' ∧ Below B w w' ∧ Lib.OthersKept 5 (some b) w w'):=Any.Builder_WriteRune_k Tryz.lays168 Tryz.Builder_Extra_168 B b bs r hr0 hr1 w h hlen hBw
def Tryz.laysGrow_ren:Go.Shelf.Ren:=⟨fun | 4=>91 | n=>n,fun | 22=>27 | 25=>3 | 3=>3 | 4=>4 | 9=>9 | 20=>20 | 0=>0 | n=>n,fun | n=>n⟩
theorem Tryz.laysGrow:Go.Proofs.Lays8.n4 Tryz.prog Tryz.laysGrow_ren:={
 mixed:=by kernel_rfl
 f4:=⟨Tryz.f91.name,by decide,Tryz.func91.trans (congrArg some (by kernel_rfl))⟩
 t0:=Tryz.underlying0
 a0:=Tryz.isAgg0
 z0:=Tryz.sizeOf0
 v0:=Tryz.zeroValue0
 t3:=Tryz.underlying3
 a3:=Tryz.isAgg3
 z3:=Tryz.sizeOf3
 v3:=Tryz.zeroValue3
 t4:=Tryz.underlying4
 a4:=Tryz.isAgg4
 z4:=Tryz.sizeOf4
 v4:=Tryz.zeroValue4
 t9:=Tryz.underlying9
 a9:=Tryz.isAgg9
 z9:=Tryz.sizeOf9
 v9:=Tryz.zeroValue9
 t20:=Tryz.underlying20
 a20:=Tryz.isAgg20
 z20:=Tryz.sizeOf20
 v20:=Tryz.zeroValue20
 t22:=Tryz.underlying27
 a22:=Tryz.isAgg27
 z22:=Tryz.sizeOf27
 v22:=Tryz.zeroValue27 }
end Go.Proofs
end
section
namespace Go.Abs
open Go Go.RowKit
theorem MR.cellOld {g:G} {w w' : World} {M:Mem} {nb:Nat} (hm:MR g w M nb) (hbw:Below w.heap.size w w'):∀ b o,g.imm b o→w'.cell? ⟨b,o,none⟩ = w.cell? ⟨b,o,none⟩:=by
 intro b o hi
 have hlt:=(hm.imm b o hi).1
 simp only [World.cell?]
 rw [hbw.block b hlt]
theorem Q9h {P:Program} {f:FuncId} {args:List V} {x:D} (hx:x.scalar = true) (hb:Qg2 P f = true)
  (h:∀ (w:World) (g:G) (us:List Value),(∀ b o,g.imm b o→b < w.heap.size)→RFs g w args us→Calls P f us.toArray w fun e w'=>e = .returned x.val∧Below w.heap.size w w') (M:Mem) (nb:Nat):ACalls P f args M nb (.d x) M nb:=by
 refine ⟨hb,Nat.le_refl _,fun w g us hm hMon hfresh hus hfl hons=>?_⟩
 refine Calls.mono (h w g us (fun b o hi=>(hm.imm b o hi).1) hus) ?_
 rintro e w' ⟨rfl,hbw⟩
 have hI:Imm g.imm g.imm w w':=⟨fun _ _ h=>h,fun b o hi=>hm.cellOld hbw b o hi⟩
 have hk:Kept g w g w' (There M) (fun _=>True):=⟨hI,fun _ _=>rfl,fun b _ hlt=>⟨rfl,hbw.block b hlt,fun _=>Iff.rfl⟩⟩
 refine ⟨_,g,rfl,hm.kept hk hMon (fun _ _ _=>trivial) trivial (fun _ _=>trivial) (fun b o hi=>?_),?_,trivial,hMon,?_⟩
 ·obtain ⟨h1,h2⟩:=hm.imm b o hi
  exact ⟨Nat.lt_of_lt_of_le h1 hbw.size,h2⟩
 ·simp only [RV]; exact (Qbll hx).2 rfl
 ·exact ⟨hbw.os,hbw.tape,hbw.output,hbw.size,hI,fun _ _=>rfl,fun b hb _=>⟨rfl,hbw.block b hb,fun _=>Iff.rfl⟩⟩
theorem Qbhr {P:Program} {f:FuncId} {args:List V} {sz:Nat} (hb:Qg2 P f = true)
  (h:∀ (w:World) (g:G) (us:List Value),RFs g w args us→Calls P f us.toArray w fun e w'=>(∃ a,e = .returned (.slice a 0 0)∧w' = w) ∨
   ∃ cap row t,e = .returned (.slice (some ⟨w.heap.size,0,none⟩) 0 cap)∧w' = w.drew.alloc (.cells row t)∧row.size = cap * sz∧cap≤maxLen∧∀ u∈row.toList,u.oneCell' = true) (M:Mem) (nb:Nat):ACalls P f args M nb (.own sz []) M nb:=by
 refine ⟨hb,Nat.le_refl _,fun w g us hm hMon hfresh hus hfl hons=>?_⟩
 refine Calls.mono (h w g us hus) ?_
 rintro e w' (⟨a,rfl,rfl⟩ | ⟨cap,row,t,rfl,rfl,hrow,hcap,hone⟩)
 ·exact ⟨_,g,rfl,hm,by simp only [RV]; exact .inl ⟨⟨a,rfl⟩,trivial⟩,trivial,hMon,Fr.refl _ _ _⟩
 ·let g' : G:={ box:=g.box,imm:=g.imm,own:=fun b=>if b = w.heap.size then .res [] else g.own b }
  have hold:∀ b,b < w.heap.size→(w.drew.alloc (.cells row t)).heap[b]? = w.heap[b]?:=fun b hlt=>RowKit.Below.heap_alloc w.drew _ b (by simpa using hlt)
  have hown:∀ b,b < w.heap.size→g'.own b = g.own b:=fun b hlt=>by simp only [g']; rw [if_neg (by omega)]
  have hI:Imm g.imm g'.imm w (w.drew.alloc (.cells row t)):=⟨fun _ _ h=>h,fun b o hi=>by
   have hlt:=(hm.imm b o hi).1
   simp only [World.cell?]
   rw [hold b hlt]⟩
  have hk:Kept g w g' (w.drew.alloc (.cells row t)) (There M) (fun _=>True):=⟨hI,fun _ _=>rfl,fun b _ hlt=>⟨hown b hlt,hold b hlt,fun _=>Iff.rfl⟩⟩
  refine ⟨_,g',rfl,hm.kept hk hMon (fun _ _ _=>trivial) trivial (fun _ _=>trivial) (fun b o hi=>?_),?_,trivial,hMon,?_⟩
  ·obtain ⟨h1,h2⟩:=hm.imm b o hi
   refine ⟨by simp; omega,fun k=>?_⟩
   rw [hown b h1]; exact h2 k
  ·simp only [RV]
   refine .inr ⟨w.heap.size,cap,row,t,rfl,by simp [g'],heap_alloc_new w.drew _,Nat.zero_le _,hcap,⟨hrow,hone⟩,fun o=>?_,by simp [RDL]⟩
   constructor
   ·intro hi; have:=(hm.imm _ _ hi).1; omega
   ·intro hi; simp at hi
  ·exact ⟨rfl,rfl,rfl,by simp,hI,fun _ _=>rfl,fun b hb _=>⟨hown b hb,hold b hb,fun _=>Iff.rfl⟩⟩
theorem Qbfd {g:G} {w:World} {l:List Int} {k:IntKind} {u:Value} (h:RF g w (.d (.lst 1 (l.map (fun n=>[.int k n])))) u) :
  ∃ a cap,u = .slice a l.length cap∧l.length≤cap∧(l = []∨∃ b o,a = some ⟨b,o,none⟩∧∀ (i:Nat) n,l[i]? = some n→g.imm b (o + i)∧w.cell? ⟨b,o + i,none⟩ = some (.int k n)):=by
 have h:=RF_d.1 h
 simp only [RD,List.length_map] at h
 obtain ⟨a,cap,rfl,hc,hl⟩:=h
 refine ⟨a,cap,rfl,hc,?_⟩
 rcases hl with hl | ⟨b,o,rfl,hl⟩
 ·exact .inl (by simpa using hl)
 ·refine .inr ⟨b,o,rfl,fun i n hi=>?_⟩
  have:=(Qbbr hl i [.int k n] (by simp [hi])).2
  simp only [RDc,Nat.mul_one,RD] at this
  obtain ⟨h1,⟨u,h2,rfl⟩,_⟩:=this
  exact ⟨h1,h2⟩
end Go.Abs
end
section
namespace Go.Proofs
open Go.RowKit Go.Abs
def keyL (l:List Int):List UInt8:=l.flatMap fun x=>Lib.encodeRune (x + 1)
theorem Qblx:∀ l:List Int,(keyL l).length≤4 * l.length
 | []=>by simp [keyL]
 | x :: l=>by
  have h:=Lib.runeCells_le (x + 1)
  rw [Lib.runeCells_length] at h
  have ih:=Qblx l
  simp only [keyL,List.flatMap_cons,List.length_append,List.length_cons] at *
  omega
set_option maxHeartbeats 4000000 in
set_option maxRecDepth 1000000 in
theorem Tryz.key_walk (l:List Int) (hl:l.length≤lim) (hx:∀ x∈l,0≤x∧x < 50000) (a:Option Addr) (cap:Nat) (w:World)
  (hc:∀ (i:Nat) n,l[i]? = some n→∃ b o,a = some ⟨b,o,none⟩∧b < w.heap.size∧w.cell? ⟨b,o + i,none⟩ = some (.int .i64 n)) :
  Calls Tryz.prog 41 #[.slice a l.length cap] w fun e w'=>e = .returned (.string (keyB l))∧Below w.heap.size w w':=by
 have hlim:l.length≤1099511627776:=hl
 go_enter Tryz.func41,Tryz.ntmps41
 go_wp2
 go_loopw [8] (fun vi wr=>∃ (k:Nat),vi = .int .i64 k∧k≤l.length∧Lib.IsBuilderF 119 5 w.heap.size w.heap.size (Lib.byteCells (keyL (l.take k))) wr∧Below w.heap.size w wr) (fun vi _=>l.length - (intOf vi).toNat)
 case atStart =>
  refine ⟨0,rfl,by omega,?_,((Below.refl _ w).alloc (Nat.le_refl _) _)⟩
  exact Lib.IsBuilderF.of (Lib.fresh_isBuilder 119 5 w)
 case round =>
  obtain ⟨k,rfl,hk,hI,hbw⟩:=hrel
  by_cases hlt:k < l.length
  ·obtain ⟨b,o,rfl,hb,hcell⟩:=hc k l[k] (List.getElem?_eq_getElem hlt)
   have hcr:wr.cell? ⟨b,o + k,none⟩ = some (.int .i64 l[k]):=by
    rw [← hcell]; simp only [World.cell?]; rw [hbw.block b hb]
   have hxk:=hx l[k] (List.getElem_mem hlt)
   have w1:IntKind.i64.wrap (l[k] + 1) = l[k] + 1:=by simp [IntKind.wrap,IntKind.bits,IntKind.signed]; omega
   have w2:IntKind.i32.wrap (l[k] + 1) = l[k] + 1:=by simp [IntKind.wrap,IntKind.bits,IntKind.signed]; omega
   have hsz:w.heap.size≤wr.heap.size:=hbw.size
   have hkl:=Qblx (l.take k)
   rw [List.length_take] at hkl
   go_wp2_with (go_at_call 76; refine (Tryz.Builder_WriteRune_k w.heap.size w.heap.size _ (l[k] + 1) (by omega) (by omega) _ hI (by rw [Lib.byteCells_length]; omega) hsz).mono ?_)
   rintro e W1 ⟨rfl,h1,b1,k1⟩
   go_wp2
   go_roundw
   case rel =>
    refine ⟨k + 1,by simp,by omega,?_,hbw.trans b1⟩
    have e1:keyL (l.take (k + 1)) = keyL (l.take k) ++ Lib.encodeRune (l[k] + 1):=by
     rw [List.take_succ_eq_append_getElem hlt]; simp only [keyL,List.flatMap_append,List.flatMap_cons,List.flatMap_nil,List.append_nil]
    rw [e1,Lib.byteCells_append,Lib.byteCells_encodeRune]; exact Or.inr h1
   case measure =>
    simp [intOf]; omega
  ·have hk2:k = l.length:=by omega
   subst hk2
   go_wp2_with (go_at_call 77; refine (Tryz.Builder_String_any_k w.heap.size w.heap.size _ _ hI hbw.size).mono ?_)
   rintro e W1 ⟨rfl,_,b1,_⟩
   go_wp2
   go_ret
   exact ⟨rfl,hbw.trans b1⟩
theorem Tryz.keyK:Go.Abs.K_projection_key Tryz.prog 41 keyS:=by
 intro l r h
 unfold keyS at h
 split at h <;> cases h
 rename_i hc
 intro M nb
 refine Q9h rfl (by kernel_rfl) (fun w g us himm hus=>?_) M nb
 obtain ⟨u,us',rfl,hu,hus'⟩:=hus
 simp only [RFs] at hus'
 subst hus'
 obtain ⟨a,cap,rfl,hcap,hl⟩:=Qbfd hu
 refine Tryz.key_walk l hc.1 hc.2 a cap w fun i n hi=>?_
 rcases hl with rfl | ⟨b,o,rfl,hl⟩
 ·simp at hi
 ·exact ⟨b,o,rfl,himm _ _ (hl i n hi).1,(hl i n hi).2⟩
theorem Tryz.growK:Go.Abs.K_slices_Grow_int Tryz.prog 91 Qbo0:=by
 intro n r h
 unfold Qbo0 at h
 split at h <;> cases h
 rename_i hc
 have hlim:n≤1099511627776:=hc.2
 intro M nb
 refine Qbhr (by kernel_rfl) (fun w g us hus=>?_) M nb
 obtain ⟨u,us',rfl,hu,u2,us2,rfl,hu2,hus'⟩:=hus
 simp only [RFs] at hus'
 subst hus'
 have hu:=hu .free
 simp only [RV] at hu
 obtain ⟨a,rfl⟩:=hu
 have h2:=Qoi hu2
 subst h2
 by_cases h0:n = 0
 ·subst h0
  refine (Any8.slices_Grow_room Tryz.laysGrow a 0 0 0 w (by omega) (by omega) (by omega) (by omega)).mono ?_
  rintro e w' ⟨rfl,rfl⟩
  exact .inl ⟨a,rfl,rfl⟩
 ·obtain ⟨m,rfl⟩ : ∃ m:Nat,n = m:=⟨n.toNat,by omega⟩
  obtain ⟨i,zv,hi,hzv,hcz,_⟩:=Qki Tryz.prog (t:=3) (z:=[.d (.int .i64 0)]) (by kernel_rfl)
  have hsz:i.size = 1:=(Qd4 Tryz.prog hi).symm.trans (by kernel_rfl)
  have hby:i.bytes = 8:=by
   have:Tryz.prog.bytesOf 3 = 8:=by kernel_rfl
   simpa [Program.bytesOf,hi] using this
  have hzs:zv.cells.size = 1:=by have:=(hcz g w).len; simpa using this
  have hz1:∀ q,∀ u∈(Builtin.zeroCells zv.cells q).toList,u.oneCell' = true:=by
   intro q u hu
   refine (hcz g w).one u ?_
   simp only [Builtin.zeroCells] at hu
   have hu' : ∃ a,a < q * zv.cells.size∧zv.cells[a % zv.cells.size]! = u:=by simpa using hu
   obtain ⟨j,hj,rfl⟩:=hu'
   have hlt:j % zv.cells.size < zv.cells.size:=Nat.mod_lt _ (by omega)
   rw [getElem!_pos zv.cells _ hlt]
   simp
  have hge:=grownCap_ge w (0 + m) 0 3
  have hle:=grownCap_le_maxLen w (0 + m) 0 3 (by simp only [maxLen]; omega)
  refine (Any8.slices_Grow_grow Tryz.laysGrow i zv hi hzv (by omega) a 0 0 m [] w (by omega) (by omega) (by rw [hby]; omega) (by omega) (by simp) (fun _=>rfl) (fun _ _ j v hj=>by simp at hj)).mono ?_
  rintro e w' ⟨rfl,rfl⟩
  refine .inr ⟨_,_,_,rfl,rfl,?_,hle,fun u hu=>?_⟩
  ·simp only [Array.size_append,size_zeroCells,hzs,List.size_toArray,List.length_nil]
   show _ = grownCap w (0 + m) 0 3 * 1
   simp only [show (Tryz.laysGrow_ren.t 25) = 3 from rfl]
   omega
  ·simp only [Array.toList_append,List.mem_append,List.nil_append] at hu
   rcases hu with hu | hu
   ·exact hz1 _ u hu
   ·exact hz1 _ u hu
end Go.Proofs
end
section
namespace Go.Proofs
open Go.Shelf
def Tryz.lays107_ren:Go.Shelf.Ren:=⟨fun | 107=>56 | 108=>88 | n=>n,fun | 28=>27 | 3=>3 | 4=>4 | 0=>0 | n=>n,fun | n=>n⟩
theorem Tryz.lays107:Go.Proofs.Lays.n107 Tryz.prog Tryz.lays107_ren:={
 mixed:=by kernel_rfl
 f107:=Tryz.func56.trans (congrArg some (by kernel_rfl))
 f108:=Tryz.func88.trans (congrArg some (by kernel_rfl))
 t0:=Tryz.underlying0
 a0:=Tryz.isAgg0
 z0:=Tryz.sizeOf0
 v0:=Tryz.zeroValue0
 t3:=Tryz.underlying3
 a3:=Tryz.isAgg3
 z3:=Tryz.sizeOf3
 v3:=Tryz.zeroValue3
 t4:=Tryz.underlying4
 a4:=Tryz.isAgg4
 z4:=Tryz.sizeOf4
 v4:=Tryz.zeroValue4
 t28:=Tryz.underlying27
 a28:=Tryz.isAgg27
 z28:=Tryz.sizeOf27
 v28:=Tryz.zeroValue27 }
open Go.Lib in
theorem Tryz.slices_Contains_int (b off n c:Nat) (zs:List Int) (x:Int) (w:World) (hz:n≤zs.length) (hbig:n≤9223372036854775807) (hc:∀ j,j < zs.length→w.cell? ⟨b,off + j,none⟩ = some (.int .i64 (zs.getD j 0))) :
  Calls Tryz.prog 56 #[.slice (some ⟨b,off,none⟩) n c,.int .i64 x] w fun e w'=>e = .returned (.bool ((zs.take n).contains x))∧w' = w:=Any.slices_Contains_int Tryz.lays107 b off n c zs x w hz hbig hc
open Go.Lib in
theorem Tryz.slices_Contains_int_empty (a:Option Addr) (c:Nat) (x:Int) (w:World) :
  Calls Tryz.prog 56 #[.slice a 0 c,.int .i64 x] w fun e w'=>e = .returned (.bool false)∧w' = w:=Any.slices_Contains_int_empty Tryz.lays107 a c x w
def Tryz.lays111_ren:Go.Shelf.Ren:=⟨fun | 111=>63 | n=>n,fun | 28=>27 | 3=>3 | 4=>4 | 0=>0 | n=>n,fun | n=>n⟩
theorem Tryz.lays111:Go.Proofs.Lays.n111 Tryz.prog Tryz.lays111_ren:={
 mixed:=by kernel_rfl
 f111:=Tryz.func63.trans (congrArg some (by kernel_rfl))
 t0:=Tryz.underlying0
 a0:=Tryz.isAgg0
 z0:=Tryz.sizeOf0
 v0:=Tryz.zeroValue0
 t3:=Tryz.underlying3
 a3:=Tryz.isAgg3
 z3:=Tryz.sizeOf3
 v3:=Tryz.zeroValue3
 t4:=Tryz.underlying4
 a4:=Tryz.isAgg4
 z4:=Tryz.sizeOf4
 v4:=Tryz.zeroValue4
 t28:=Tryz.underlying27
 a28:=Tryz.isAgg27
 z28:=Tryz.sizeOf27
 v28:=Tryz.zeroValue27 }
open Go.RowKit Go.Lib in
theorem Tryz.slices_Equal_int (b1 o1 n c b2 o2 m d:Nat) (xs ys:List Int) (w:World) (hx:n≤xs.length) (hy:m≤ys.length) (hbig:n≤9223372036854775807) (hbig2:m≤9223372036854775807) (hc1:∀ j,j < xs.length→w.cell? ⟨b1,o1 + j,none⟩ = some (.int .i64 (xs.getD j 0))) (hc2:∀ j,j < ys.length→w.cell? ⟨b2,o2 + j,none⟩ = some (.int .i64 (ys.getD j 0))) :
  Calls Tryz.prog 63 #[.slice (some ⟨b1,o1,none⟩) n c,.slice (some ⟨b2,o2,none⟩) m d] w fun e w'=>e = .returned (.bool (xs.take n == ys.take m))∧∃ q,w' = w.drewN q:=Any.slices_Equal_int Tryz.lays111 b1 o1 n c b2 o2 m d xs ys w hx hy hbig hbig2 hc1 hc2
open Go.RowKit Go.Lib in
theorem Tryz.slices_Equal_int_empty (a1 a2:Option Addr) (c m d:Nat) (w:World) (hbig2:m≤9223372036854775807) :
  Calls Tryz.prog 63 #[.slice a1 0 c,.slice a2 m d] w fun e w'=>e = .returned (.bool (decide (m = 0)))∧w' = w:=Any.slices_Equal_int_empty Tryz.lays111 a1 a2 c m d w hbig2
def Tryz.laysNm215_ren:Go.Shelf.Ren:=⟨fun | 15=>55 | n=>n,fun | 22=>27 | 3=>3 | 4=>4 | n=>n,fun | n=>n⟩
theorem Tryz.laysNm215:Go.Proofs.Lays2.n15 Tryz.prog Tryz.laysNm215_ren:={
 mixed:=by kernel_rfl
 f15:=Tryz.func55.trans (congrArg some (by kernel_rfl))
 t3:=Tryz.underlying3
 a3:=Tryz.isAgg3
 z3:=Tryz.sizeOf3
 v3:=Tryz.zeroValue3
 t4:=Tryz.underlying4
 a4:=Tryz.isAgg4
 z4:=Tryz.sizeOf4
 v4:=Tryz.zeroValue4
 t22:=Tryz.underlying27
 a22:=Tryz.isAgg27
 z22:=Tryz.sizeOf27
 v22:=Tryz.zeroValue27
 i3:=by kernel_rfl }
open Go.RowKit Go.Lib in
theorem Tryz.slices_Clone_int (b off n c:Nat) (zs:List Int) (w:World) (hz:n≤zs.length) (hbig:n * 8≤140737488355328) (hc:∀ j,j < zs.length→w.cell? ⟨b,off + j,none⟩ = some (.int .i64 (zs.getD j 0))) :
  Calls Tryz.prog 55 #[.slice (some ⟨b,off,none⟩) n c] w fun e w'=>∃ v',e = .returned v' ∧ w'.ownsRow w.heap.size 3 1 v' n ((zs.take n).map (Value.int .i64))∧v' ≠ .slice none 0 0∧Below w.heap.size w w':=Any.slices_Clone_int Tryz.laysNm215 b off n c zs w hz hbig hc
open Go.RowKit Go.Lib in
theorem Tryz.slices_Clone_int_nil (n c:Nat) (w:World) :
  Calls Tryz.prog 55 #[.slice none n c] w fun e w'=>e = .returned (.slice none 0 0)∧w' = w:=Any.slices_Clone_int_nil Tryz.laysNm215 n c w
open Go.RowKit Go.Lib in
theorem Tryz.slices_Clone_int_zero (a:Addr) (c:Nat) (w:World) :
  Calls Tryz.prog 55 #[.slice (some a) 0 c] w fun e w'=>∃ v',e = .returned v' ∧ w'.ownsRow w.heap.size 3 1 v' 0 []∧v' ≠ .slice none 0 0∧Below w.heap.size w w':=Any.slices_Clone_int_zero Tryz.laysNm215 a c w
def Tryz.laysSlH6_f89_ren:Go.Shelf.Ren:=⟨fun | 6=>89 | n=>n,fun | 22=>27 | 23=>3 | 25=>97 | 3=>3 | 0=>0 | 4=>4 | n=>n,fun | n=>n⟩
theorem Tryz.laysSlH6_f89:Go.Proofs.SlLaysH.n6 Tryz.prog Tryz.laysSlH6_f89_ren:={
 mixed:=by kernel_rfl
 f6:=⟨Tryz.f89.name,by decide,Tryz.func89.trans (congrArg some (by kernel_rfl))⟩
 t0:=Tryz.underlying0
 a0:=Tryz.isAgg0
 z0:=Tryz.sizeOf0
 v0:=Tryz.zeroValue0
 t3:=Tryz.underlying3
 a3:=Tryz.isAgg3
 z3:=Tryz.sizeOf3
 v3:=Tryz.zeroValue3
 t4:=Tryz.underlying4
 a4:=Tryz.isAgg4
 z4:=Tryz.sizeOf4
 v4:=Tryz.zeroValue4
 t22:=Tryz.underlying27
 a22:=Tryz.isAgg27
 z22:=Tryz.sizeOf27
 v22:=Tryz.zeroValue27
 a23:=Tryz.isAgg3
 z23:=Tryz.sizeOf3
 t25:=Tryz.underlying97
 a25:=Tryz.isAgg97
 z25:=Tryz.sizeOf97
 v25:=Tryz.zeroValue97 }
open Go.RowKit Go.Lib in
theorem Tryz.slices_IndexFunc_empty {α:Type} [Inhabited α] (a:Option Addr) (c:Nat) (fv:Value) (w:World) :
  Calls Tryz.prog 89 #[.slice a 0 c,fv] w fun e w'=>e = .returned (.int .i64 (-1))∧w' = w:=AnyE.slices_IndexFunc_empty Tryz.laysSlH6_f89 a c fv w
def Tryz.laysSlH10_f64_ren:Go.Shelf.Ren:=⟨fun | 10=>64 | 6=>89 | n=>n,fun | 22=>27 | 23=>3 | 25=>97 | 3=>3 | 4=>4 | 0=>0 | n=>n,fun | n=>n⟩
theorem Tryz.laysSlH10_f64:Go.Proofs.SlLaysH.n10 Tryz.prog Tryz.laysSlH10_f64_ren:={
 mixed:=by kernel_rfl
 f6:=⟨Tryz.f89.name,by decide,Tryz.func89.trans (congrArg some (by kernel_rfl))⟩
 f10:=⟨Tryz.f64.name,by decide,Tryz.func64.trans (congrArg some (by kernel_rfl))⟩
 t0:=Tryz.underlying0
 a0:=Tryz.isAgg0
 z0:=Tryz.sizeOf0
 v0:=Tryz.zeroValue0
 t3:=Tryz.underlying3
 a3:=Tryz.isAgg3
 z3:=Tryz.sizeOf3
 v3:=Tryz.zeroValue3
 t4:=Tryz.underlying4
 a4:=Tryz.isAgg4
 z4:=Tryz.sizeOf4
 v4:=Tryz.zeroValue4
 t22:=Tryz.underlying27
 a22:=Tryz.isAgg27
 z22:=Tryz.sizeOf27
 v22:=Tryz.zeroValue27
 a23:=Tryz.isAgg3
 z23:=Tryz.sizeOf3
 t25:=Tryz.underlying97
 a25:=Tryz.isAgg97
 z25:=Tryz.sizeOf97
 v25:=Tryz.zeroValue97 }
open Go.RowKit Go.Lib Go.Sort in
theorem Tryz.slices_DeleteFunc {α:Type} [Inhabited α] (enc:α→Value) (hO:OneCell enc) (p:α→Bool) (g:Nat) (lb:Array Value) (eg:∀ args w,(callFunc g args).run Tryz.prog w = .ok (.enter g args) w) (zr:α) (v23:∀ w,(zeroValue 3).run Tryz.prog w = .ok (enc zr) w) (blk off cap:Nat) (d:Array α) (w:World) (hp:PredAt Tryz.prog g lb enc p w) (hpo:PredOver Tryz.prog g lb enc p blk off d.size w) (hH:Holds enc w blk off d) (hsz:d.size≤9223372036854775807) (hcap:d.size≤cap) :
  Calls Tryz.prog 64 #[.slice (some ⟨blk,off,none⟩) d.size cap,.func (.func g) #[] lb] w fun e w'=>e = .returned (.slice (some ⟨blk,off,none⟩) (d.toList.filter fun x=>!p x).length cap)∧∃ q,w' = putRow enc (Sort.ahead w q) blk off ((d.toList.filter fun x=>!p x) ++ List.replicate (d.size - (d.toList.filter fun x=>!p x).length) zr).toArray:=AnyE.slices_DeleteFunc Tryz.laysSlH10_f64 enc hO p g lb eg zr v23 blk off cap d w hp hpo hH hsz hcap
end Go.Proofs
end
section
namespace Go.Abs
end Go.Abs
end
section
namespace Go.Proofs
open Go.RowKit Go.Abs Go.Sort Go.Shelf
def IntsAt (B:Nat) (w:World) (a:Option Addr) (l:List Int):Prop:=l = []∨∃ b o,a = some ⟨b,o,none⟩∧b < B∧∀ (i:Nat) n,l[i]? = some n→w.cell? ⟨b,o + i,none⟩ = some (.int .i64 n)
theorem IntsAt.same {B:Nat} {w w' : World} {a:Option Addr} {l:List Int} (h:IntsAt B w a l) (hb:∀ k,k < B→w'.heap[k]? = w.heap[k]?):IntsAt B w' a l:=by
 rcases h with h | ⟨b,o,h1,h2,h3⟩
 ·exact .inl h
 ·refine .inr ⟨b,o,h1,h2,fun i n hi=>?_⟩
  rw [← h3 i n hi]
  simp only [World.cell?]
  rw [hb b h2]
theorem IntsAt.mono {B B' : Nat} {w:World} {a:Option Addr} {l:List Int} (h:IntsAt B w a l) (hB:B≤B'):IntsAt B' w a l:=by
 rcases h with h | ⟨b,o,h1,h2,h3⟩
 ·exact .inl h
 ·exact .inr ⟨b,o,h1,by omega,h3⟩
theorem Qbp1 (enc:Int→Value) (W:World) (blk off m:Nat) (dk:Array Int) (os:Array Obj) {k:Nat} (hk:k < W.heap.size) (hne:blk≠k):(sortWorld enc W blk off m dk os).heap[k]? = W.heap[k]?:=by
 unfold sortWorld
 rw [Sort.heap_grow_old _ _ (by simpa [putRow,mapBlock,Sort.ahead] using hk)]
 simp [putRow,mapBlock,Sort.ahead,Array.getElem?_modify,hne]
structure CloAt (base B0:Nat) (ao:Option Addr) (co:Nat) (onto:List Int) (W:World):Prop where
 lt:B0 < base
 cell:W.cell? ⟨B0,0,none⟩ = some (.slice ao onto.length co)
 ints:IntsAt base W ao onto
 lim:onto.length≤lim
theorem CloAt.same {base B0:Nat} {ao:Option Addr} {co:Nat} {onto:List Int} {W W' : World} (h:CloAt base B0 ao co onto W) (hb:∀ k,k < base→W'.heap[k]? = W.heap[k]?):CloAt base B0 ao co onto W':=by
 refine ⟨h.lt,?_,h.ints.same hb,h.lim⟩
 rw [← h.cell]
 simp only [World.cell?]
 rw [hb B0 h.lt]
set_option maxHeartbeats 1000000 in
theorem Tryz.clo62 {base B0:Nat} {ao:Option Addr} {co:Nat} {onto:List Int} {W:World} (h:CloAt base B0 ao co onto W) (x:Int) :
  Calls Tryz.prog 62 #[.int .i64 x,.pointer (some ⟨B0,0,none⟩)] W fun e w'=>e = .returned (.bool (!onto.contains x))∧w' = W:=by
 have hlim:onto.length≤1099511627776:=h.lim
 have hcl:Calls Tryz.prog 56 #[.slice ao onto.length co,.int .i64 x] W fun e w'=>e = .returned (.bool (onto.contains x))∧w' = W:=by
  rcases h.ints with rfl | ⟨b,o,rfl,_,hc⟩
  ·refine (Tryz.slices_Contains_int_empty ao co x W).mono ?_
   rintro e w' ⟨rfl,rfl⟩
   exact ⟨by simp,rfl⟩
  ·refine (Tryz.slices_Contains_int b o onto.length co onto x W (Nat.le_refl _) (by omega) (fun j hj=>?_)).mono ?_
   ·rw [hc j onto[j] (List.getElem?_eq_getElem hj)]
    simp [List.getD_eq_getElem?_getD,List.getElem?_eq_getElem hj]
   ·rintro e w' ⟨rfl,rfl⟩
    exact ⟨by simp,rfl⟩
 have hcell:=h.cell
 generalize onto.contains x = r at hcl ⊢
 go_enter Tryz.func62,Tryz.ntmps62
 go_wp2_with (go_at_call 56; refine hcl.mono ?_)
 rintro e W1 ⟨rfl,rfl⟩
 go_wp2
 go_ret
 exact ⟨rfl,rfl⟩
theorem Tryz.clone55 {v:List Int} {a:Option Addr} {c B:Nat} {W:World} (hl:v.length≤lim) (h:IntsAt B W a v) :
  Calls Tryz.prog 55 #[.slice a v.length c] W fun e W'=>∃ a' c',e = .returned (.slice a' v.length c')∧Below W.heap.size W W' ∧ (v = []∨W'.ownsRow W.heap.size 3 1 (.slice a' v.length c') v.length (v.map (Value.int .i64))∧∃ g,a' = some ⟨g,0,none⟩):=by
 have hlim:v.length≤1099511627776:=hl
 by_cases hv:v = []
 ·subst hv
  cases a with
  | none =>
   refine (Tryz.slices_Clone_int_nil 0 c W).mono ?_
   rintro e W' ⟨rfl,rfl⟩
   exact ⟨none,0,rfl,Below.refl _ _,.inl rfl⟩
  | some a =>
   refine (Tryz.slices_Clone_int_zero a c W).mono ?_
   rintro e W' ⟨v',rfl,h1,h2,h3⟩
   obtain ⟨g,cap,rfl,_⟩:=Lib.holds_of_ownsRow (enc:=Value.int .i64) (zs:=[]) h1 h2
   exact ⟨_,_,rfl,h3,.inl rfl⟩
 ·rcases h with h | ⟨b,o,rfl,_,hc⟩
  ·exact absurd h hv
  ·refine (Tryz.slices_Clone_int b o v.length c v W (Nat.le_refl _) (by omega) (fun j hj=>?_)).mono ?_
   ·rw [hc j v[j] (List.getElem?_eq_getElem hj)]
    simp [List.getD_eq_getElem?_getD,List.getElem?_eq_getElem hj]
   ·rintro e W' ⟨v',rfl,h1,h2,h3⟩
    rw [List.take_length] at h1
    obtain ⟨g,cap,rfl,_⟩:=Lib.holds_of_ownsRow (enc:=Value.int .i64) (zs:=v) h1 h2
    exact ⟨_,_,rfl,h3,.inr ⟨h1,g,rfl⟩⟩
theorem Qbgm {base:Nat} {w:World} {a:Option Addr} {c:Nat} {l:List Int} (h:w.ownsRow base 3 1 (.slice a l.length c) l.length (l.map (Value.int .i64))) (ha:∃ g,a = some ⟨g,0,none⟩):IntsAt w.heap.size w a l:=by
 obtain ⟨g,rfl⟩:=ha
 obtain ⟨g',cap,e,h1,h2,h3,h4,h5,h6⟩:=Lib.holds_of_ownsRow (enc:=Value.int .i64) (zs:=l) h (by simp)
 cases e
 refine .inr ⟨g,0,rfl,h2,fun i n hi=>?_⟩
 obtain ⟨hlt,rfl⟩:=List.getElem?_eq_some_iff.1 hi
 rw [(h6 i (by simpa using hlt)).1]
 simp [hlt]
set_option maxHeartbeats 2000000 in
theorem Tryz.del_none (a:Option Addr) (c:Nat) (fv:Value) (W:World):Calls Tryz.prog 64 #[.slice a 0 c,fv] W fun e W'=>e = .returned (.slice a 0 c)∧W' = W:=by
 go_enter Tryz.func64,Tryz.ntmps64
 go_wp2_with (go_at_call 89; refine (Tryz.slices_IndexFunc_empty (α:=Int) a c fv W).mono ?_)
 rintro e W1 ⟨rfl,rfl⟩
 go_wp2
 go_ret
 exact ⟨rfl,rfl⟩
theorem Tryz.del64 {base B0:Nat} {ao:Option Addr} {co:Nat} {onto l:List Int} {a:Option Addr} {c:Nat} {W:World} (h:CloAt base B0 ao co onto W) (hbW:base≤W.heap.size) (hl:l.length≤lim)
  (hr:l = []∨W.ownsRow base 3 1 (.slice a l.length c) l.length (l.map (Value.int .i64))∧∃ g,a = some ⟨g,0,none⟩) :
  Calls Tryz.prog 64 #[.slice a l.length c,.func (.func 62) #[] #[.pointer (some ⟨B0,0,none⟩)]] W fun e W'=>e = .returned (.slice a (l.filter fun e=>decide (e∈onto)).length c)∧Below base W W' ∧ IntsAt W'.heap.size W' a (l.filter fun e=>decide (e∈onto)):=by
 have hlim:l.length≤1099511627776:=hl
 rcases hr with rfl | ⟨ho,g,rfl⟩
 ·refine (Tryz.del_none a c _ W).mono ?_
  rintro e W' ⟨rfl,rfl⟩
  exact ⟨rfl,Below.refl _ _,.inl rfl⟩
 ·obtain ⟨g',cap,e,h1,h2,h3,h4,h5,h6⟩:=Lib.holds_of_ownsRow (enc:=Value.int .i64) (zs:=l) ho (by simp)
  cases e
  have hsz:l.toArray.size = l.length:=by simp
  have hp:PredAt Tryz.prog 62 #[.pointer (some ⟨B0,0,none⟩)] (Value.int .i64) (fun x=>!onto.contains x) W:=fun V x hV=>by
   refine (Tryz.clo62 (h.same fun k hk=>hV.block k (by omega)) x).mono ?_
   rintro e w' ⟨rfl,rfl⟩
   exact ⟨rfl,0,rfl⟩
  have hpo:PredOver Tryz.prog 62 #[.pointer (some ⟨B0,0,none⟩)] (Value.int .i64) (fun x=>!onto.contains x) g 0 l.toArray.size W:=fun n os dk x _=>by
   refine (Tryz.clo62 (h.same fun k hk=>Qbp1 _ W g 0 n dk os (by omega) (by omega)) x).mono ?_
   rintro e w' ⟨rfl,rfl⟩
   exact ⟨rfl,0,rfl⟩
  have hf:(l.toArray.toList.filter fun x=>!(!onto.contains x)) = l.filter fun e=>decide (e∈onto):=by
   rw [List.toList_toArray]
   refine List.filter_congr fun x _=>?_
   rw [Bool.eq_iff_iff]; simp
  have hk:=Tryz.slices_DeleteFunc (Value.int .i64) (fun _=>rfl) (fun x=>!onto.contains x) 62 #[.pointer (some ⟨B0,0,none⟩)] (enters_of Tryz.func62 (by kernel_rfl) rfl) 0 Tryz.zeroValue3 g 0 c l.toArray W hp hpo h6 (by simp; omega) (by simpa using h3)
  rw [hf] at hk
  rw [hsz] at hk
  refine hk.mono ?_
  rintro e W' ⟨rfl,q,rfl⟩
  have hle:(l.filter fun e=>decide (e∈onto)).length≤l.length:=List.length_filter_le _ _
  have hown:=Lib.ownsRow_putRow (q:=q) (k:=(l.filter fun e=>decide (e∈onto)).length) (ys:=(l.filter fun e=>decide (e∈onto)) ++ List.replicate (l.length - (l.filter fun e=>decide (e∈onto)).length) 0) ho (by simp; omega) hle
  rw [List.take_left'  rfl] at hown
  exact ⟨rfl,Lib.below_putRow (Below.refl _ _) h1,Qbgm hown ⟨g,rfl⟩⟩
set_option maxHeartbeats 2000000 in
theorem Tryz.eq_short (a1 a2:Option Addr) (n c m:Nat) (hn:0 < n) (hb:n < 4611686018427387904) (W:World):Calls Tryz.prog 63 #[.slice a1 n c,.slice a2 0 m] W fun e W'=>e = .returned (.bool false)∧W' = W:=by
 have hne:¬ ((n:Int) = 0):=by omega
 go_enter Tryz.func63,Tryz.ntmps63
 go_wp2
 go_ret
 exact ⟨rfl,rfl⟩
theorem Tryz.eq63 {l1 l2:List Int} {a1 a2:Option Addr} {c1 c2 B1 B2:Nat} {W:World} (hl1:l1.length≤lim) (hl2:l2.length≤lim) (h1:IntsAt B1 W a1 l1) (h2:IntsAt B2 W a2 l2) :
  Calls Tryz.prog 63 #[.slice a1 l1.length c1,.slice a2 l2.length c2] W fun e W'=>e = .returned (.bool (decide (l1 = l2)))∧∃ q,W' = W.drewN q:=by
 have k1:l1.length≤1099511627776:=hl1
 have k2:l2.length≤1099511627776:=hl2
 by_cases e1:l1 = []
 ·subst e1
  refine (Tryz.slices_Equal_int_empty a1 a2 c1 l2.length c2 W (by omega)).mono ?_
  rintro e w' ⟨rfl,rfl⟩
  refine ⟨?_,0,rfl⟩
  cases l2 <;> simp
 ·by_cases e2:l2 = []
  ·subst e2
   have hpos:0 < l1.length:=List.length_pos_iff.2 e1
   refine (Tryz.eq_short a1 a2 l1.length c1 c2 hpos (by omega) W).mono ?_
   rintro e w' ⟨rfl,rfl⟩
   exact ⟨by simp [e1],0,rfl⟩
  ·rcases h1 with h1 | ⟨b1,o1,rfl,_,hc1⟩
   ·exact absurd h1 e1
   ·rcases h2 with h2 | ⟨b2,o2,rfl,_,hc2⟩
    ·exact absurd h2 e2
    ·refine (Tryz.slices_Equal_int b1 o1 l1.length c1 b2 o2 l2.length c2 l1 l2 W (Nat.le_refl _) (Nat.le_refl _) (by omega) (by omega) (fun j hj=>?_) (fun j hj=>?_)).mono ?_
     ·rw [hc1 j l1[j] (List.getElem?_eq_getElem hj)]
      simp [List.getD_eq_getElem?_getD,List.getElem?_eq_getElem hj]
     ·rw [hc2 j l2[j] (List.getElem?_eq_getElem hj)]
      simp [List.getD_eq_getElem?_getD,List.getElem?_eq_getElem hj]
     ·rintro e w' ⟨rfl,hq⟩
      refine ⟨?_,hq⟩
      rw [List.take_length,List.take_length]
      congr 2
      rw [Bool.eq_iff_iff]; simp
theorem Qbbl {B B' : Nat} {a b:World} (h:Below B a b) (hB:B' ≤ B):Below B' a b:=⟨h.os,h.tape,h.output,h.size,fun k hk=>h.block k (by omega)⟩
theorem CloAt.mono {base base' B0:Nat} {ao:Option Addr} {co:Nat} {onto:List Int} {W:World} (h:CloAt base B0 ao co onto W) (hB:base≤base'):CloAt base' B0 ao co onto W:=⟨by have:=h.lt; omega,h.cell,h.ints.mono hB,h.lim⟩
set_option maxHeartbeats 4000000 in
set_option maxRecDepth 1000000 in
theorem Tryz.alike_walk {onto v u:List Int} {ao av au:Option Addr} {co cv cu:Nat} {w:World} (hlo:onto.length≤lim) (hlv:v.length≤lim) (hlu:u.length≤lim) (h1:IntsAt w.heap.size w ao onto) (h2:IntsAt w.heap.size w av v) (h3:IntsAt w.heap.size w au u) :
  Calls Tryz.prog 32 #[.slice ao onto.length co,.slice av v.length cv,.slice au u.length cu] w fun e w'=>e = .returned (.bool (decide ((v.filter fun e=>decide (e∈onto)) = u.filter fun e=>decide (e∈onto))))∧Below w.heap.size w w':=by
 have hfv:(v.filter fun e=>decide (e∈onto)).length≤lim:=Nat.le_trans (List.length_filter_le _ _) hlv
 have hfu:(u.filter fun e=>decide (e∈onto)).length≤lim:=Nat.le_trans (List.length_filter_le _ _) hlu
 obtain ⟨w1,hw1⟩ : ∃ w1,w1 = w.alloc (.cells #[.slice ao onto.length co] 27):=⟨_,rfl⟩
 have b1:Below w.heap.size w w1:=hw1 ▸ (Below.refl _ w).alloc (Nat.le_refl _) _
 have s1:w1.heap.size = w.heap.size + 1:=by rw [hw1]; simp
 have c1:CloAt w1.heap.size w.heap.size ao co onto w1:=⟨by omega,by rw [hw1]; exact (World.cell?_alloc_at (w:=w) #[.slice ao onto.length co] 27 w.heap.size 0 rfl).trans rfl,(h1.same b1.block).mono (by omega),hlo⟩
 have k1:=Tryz.clone55 (c:=cv) (W:=w1) hlv (h2.same b1.block)
 go_enter Tryz.func32,Tryz.ntmps32
 go_wp2_with (go_at_call 55; rw [← hw1]; refine k1.mono ?_)
 rintro e W2 ⟨a2,n2,rfl,b2,o2⟩
 have k2:=Tryz.del64 (c1.same b2.block) b2.size hlv o2
 go_wp2_with (go_at_call 64; refine k2.mono ?_)
 rintro e W3 ⟨rfl,b3,i3⟩
 have b13:Below w.heap.size w W3:=(b1.trans (Qbbl b2 (by omega))).trans (Qbbl b3 (by omega))
 have s3:w1.heap.size≤W3.heap.size:=Nat.le_trans b2.size b3.size
 have k3:=Tryz.clone55 (c:=cu) (W:=W3) hlu (h3.same b13.block)
 go_wp2_with (go_at_call 55; refine k3.mono ?_)
 rintro e W4 ⟨a4,n4,rfl,b4,o4⟩
 have k4:=Tryz.del64 (((c1.same b2.block).same b3.block).mono s3 |>.same b4.block) b4.size hlu o4
 go_wp2_with (go_at_call 64; refine k4.mono ?_)
 rintro e W5 ⟨rfl,b5,i5⟩
 have k5:=Tryz.eq63 (c1:=n2) (c2:=n4) hfv hfu ((i3.same b4.block).same b5.block) i5
 go_wp2_with (go_at_call 63; refine k5.mono ?_)
 rintro e W6 ⟨rfl,q,rfl⟩
 go_wp2
 go_ret
 exact ⟨rfl,below_drewN' ((b13.trans (Qbbl b4 b13.size)).trans (Qbbl b5 b13.size)) q⟩
theorem Qbhs {g:G} {w:World} {a:Option Addr} {l:List Int} (himm:∀ b o,g.imm b o→b < w.heap.size) (h:l = []∨∃ b o,a = some ⟨b,o,none⟩∧∀ (i:Nat) n,l[i]? = some n→g.imm b (o + i)∧w.cell? ⟨b,o + i,none⟩ = some (.int .i64 n)):IntsAt w.heap.size w a l:=by
 rcases h with h | ⟨b,o,h1,h2⟩
 ·exact .inl h
 ·cases l with
  | nil=>exact .inl rfl
  | cons x t=>exact .inr ⟨b,o,h1,himm _ _ (h2 0 x rfl).1,fun i n hi=>(h2 i n hi).2⟩
theorem Tryz.alikeK:Go.Abs.K_projection_Alike Tryz.prog 32 Qbgi:=by
 intro onto v u r h
 unfold Qbgi at h
 split at h <;> cases h
 rename_i hc
 intro M nb
 refine Q9h rfl (by kernel_rfl) (fun w g us himm hus=>?_) M nb
 obtain ⟨u1,us1,rfl,hu1,u2,us2,rfl,hu2,u3,us3,rfl,hu3,hus⟩:=hus
 simp only [RFs] at hus
 subst hus
 obtain ⟨a1,c1,rfl,_,i1⟩:=Qbfd hu1
 obtain ⟨a2,c2,rfl,_,i2⟩:=Qbfd hu2
 obtain ⟨a3,c3,rfl,_,i3⟩:=Qbfd hu3
 exact Tryz.alike_walk hc.1 hc.2.1 hc.2.2 (Qbhs himm i1) (Qbhs himm i2) (Qbhs himm i3)
end Go.Proofs
end
section
namespace Go.Proofs
open Go Go.Abs
set_option maxRecDepth 10000
set_option maxHeartbeats 4000000
theorem Quq:Qgl Tryz.prog 34 Qlf:=Qra Qyj
theorem Q3l:Qig Tryz.prog 79 Qf7:=Qyb Q6e Qb6
theorem Q79:Qkj Tryz.prog 88 Qhf:=Q22 Q9e Qb6
theorem Qbw:Qbp Tryz.prog 56 Q6:=Que Q79 Q3e
theorem Qyl:Qg3 Tryz.prog 80 Qfc:=Qsk Qbw Q01 Qb6
theorem Qem:Qdk Tryz.prog 46 Qcp:=Q52 Q3l Qyl Qban
theorem Q04:Qhm Tryz.prog 49 Qh3:=Quf Q3d Qb6
theorem Qgt:Qek Tryz.prog 38 Qdd:=Q23 Qem Q04 Q9b
theorem Qh4:Qew Tryz.prog 39 Qdy:=Qyc Qbw Q6c Qb6
theorem Qna:Qeo Tryz.prog 83 Qgw:=Qlj Qn6
theorem Qhh:Qdp Tryz.prog 50 Qe8:=Qm4 Qbw Tryz.rowK33 Qna Qqs Qb6
theorem Qhi:Qdq Tryz.prog 40 Qe9:=Qm5 Qhh Qqr
theorem Qlg:Qdz Tryz.prog 78 Qf1:=Qjg Qbw Qlm
theorem Qym:Qg5 Tryz.prog 89 Qhb:=Qsl Q02 Qb6
theorem Qfh:Qde Tryz.prog 58 Qcq:=Qo8 Qym Qsq
theorem Qmm:Qee Tryz.prog 42 Qgi:=Qlc Qfh Qlg Qm7
theorem Qh5:Qd1 Tryz.prog 43 Qfg:=Qn4 Qhh Qre Qb6
theorem Qnb:Qf4 Tryz.prog 12 Qiq:=Qyd Qgt Qh4 Qhi Tryz.keyK Qmm Qh5 Q59 Qb6
theorem Qnc:Qeq Tryz.prog 84 Qeu:=Qlk Qbw Qn7
theorem Qhj:Qdr Tryz.prog 52 Qc5:=Qm6 Qfh Qnc Qqt
theorem Qjj:Qfj Tryz.prog 55 Qb2:=Q24 Q9c
theorem Qro:Qia Tryz.prog 31 Qgg:=Q53 Qgt Qh4 Qhj Qjj Qbw Qbam Qb6
theorem Q6f:Qi4 Tryz.prog 65 Qqu:=Q0s Q76
theorem Q6g:Qi6 Tryz.prog 66 Qqv:=Q0t Tryz.growK Q77 Qb6
theorem Qbfe:Qlp Tryz.prog 70 Q03:=Qsm Q00
theorem Qbba:Qpt Tryz.prog 121 Q3i:=Q88 Qbco
theorem Qbcu:Qr2 Tryz.prog 97 Q6p:=Qbak Qbba Qbdh
theorem Q8a:Qkn Tryz.prog 98 Qrn:=Q25 Q9f
theorem Qrf:Qfu Tryz.prog 82 Qiw:=Qo9 Qbcu Q8a Qsr Qb6
theorem Qnd:Qes Tryz.prog 85 Qdg:=Qll Qn8 Qb6
theorem Q9i:Qmc Tryz.prog 86 Qic:=Q54 Qbap
theorem Q9j:Qme Tryz.prog 87 Qid:=Q55 Qbaq
theorem Qn9:Qho Tryz.prog 54 Qeg:=Q89 Qnd Q9i Q9j Qbcn
theorem Q05:Qhp Tryz.prog 48 Qm8:=Qug Qn9 Qjj Qrf Q3c Qb6
theorem Q06:Qhr Tryz.prog 71 Qm9:=Quh Qem Q05 Q3f
theorem Q3m:Qik Tryz.prog 35 Qob:=Qye Qgt Qbw Q6f Q6g Tryz.rowK33 Tryz.compK34 Tryz.rowK36 Q06 Q6b Qb6
theorem Qf0:Qdl Tryz.prog 19 Qel:=Qqq Quo Qb6
theorem Q3n:Qim Tryz.prog 14 Qoc:=Qyf Qf0 Q6a Qb6
theorem Qrg:Qfw Tryz.prog 15 Qix:=Qpa Qf0 Qso Qb6
theorem Qlr:Qfk Tryz.prog 8 Qfn:=Qui Qnb Q3n Qrg Qf0 Qro Quq Q3m Q28
theorem Qh6:Qd2 Tryz.prog 11 Qdc:=Qn5 Qrd Qb6
theorem Qls:Qfl Tryz.prog 36 Qeh:=Quj Q3b
theorem Qne:Qf5 Tryz.prog 74 Qcd:=Qyg Q6d Qb6
theorem Qod:Qgn Tryz.prog 73 Qc6:=Q0u Q78 Qb6
theorem Q07:Qhv Tryz.prog 72 Qfo:=Quk Qod Qne Q3g Qb6
theorem Q08:Qhx Tryz.prog 75 Qei:=Qul Q3h Qb6
theorem Qrh:Qfy Tryz.prog 37 Qeb:=Qpb Qls Q07 Qod Qne Q08 Qsp Qb6
theorem Qnf:Qf6 Tryz.prog 10 Qex:=Qyh Qls Qrh Q58 Qb6
theorem Qrp:Qib Tryz.prog 27 Qd8:=Q56 Qem Qn9 Qjj Qbw Qbal Qb6
theorem Q6h:Qi9 Tryz.prog 45 Qji:=Q0v Q74 Qb6
theorem Qjn:Qez Tryz.prog 28 Qdu:=Qrb Q6h Qyi Qb6
theorem Q8b:Qkp Tryz.prog 100 Qhg:=Q26 Q9g
theorem Qur:Qgp Tryz.prog 99 Qe0:=Qrc Qyk Qb6
theorem Qbar:Qn2 Tryz.prog 90 Qi0:=Q71 Qn9 Qur Q8b Qba9
theorem Qqy:Qhe Tryz.prog 60 Qfp:=Q27 Qbar Q9d Qb6
theorem Qoe:Qgr Tryz.prog 61 Qgs:=Q0w Qqy Q75
theorem Q09:Qhz Tryz.prog 33 Qfq:=Qum Qem Qoe Q3a
theorem Q9p:Qge Tryz.prog 7 Qd9:=Qke Qlr Qnf Qh6 Qrp Qjn Qro Tryz.alikeK Q09 Qmk Qb6
theorem Qyn:Qg9 Tryz.prog 57 Qlq:=Qsn Qem Q0z
theorem Q9k:Qmh Tryz.prog 59 Qup:=Q57 Qbw Qbao
theorem Qbbb:Qqo Tryz.prog 29 Q3j:=Q9a Qyn Qfh Q9k Qqy Qbcm
theorem Q6i:Qjc Tryz.prog 22 Qqw:=Q0x Q72 Qb6
theorem Q6j:Qje Tryz.prog 30 Qqx:=Q0y Qem Qbw Qoe Q73
theorem Q9q:Qgf Tryz.prog 6 Qml:=Qkf Qlr Qnf Qh6 Qnb Q6i Qrp Qjn Qbbb Q6j Qmj Qb6
theorem Qbfi:Qm3 Tryz.prog 25 Q3k:=Qun Qgt Qh4 Qhi Qh5 Qhj Q29 Qb6
end Go.Proofs
end
