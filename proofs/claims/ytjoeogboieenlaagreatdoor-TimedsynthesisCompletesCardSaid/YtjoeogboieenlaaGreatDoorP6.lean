/-
  Part 6 of the proof: see the last text.
-/
import Derived.Test.YtjoeogboieenlaaGreatDoorP5
import Derived.Test.YtjoeogboieenlaaGreatDoorProg
import Derived.KernelRfl
import Derived.Sort.Statements
import Derived.Lib.ItoaNum
import Derived.Shelf.Strings.BuilderK
import Derived.Shelf.Strconv.Itoa2
import Derived.Shelf.Strconv.Itoa3
import Derived.Ground.SlgmProg
import Derived.Shelf.SortM.Plain
import Derived.Shelf.SortM.SortNone
import Derived.WalkKit
import Derived.BigCall
import Derived.Lib.OthersKept
import Derived.OpenShut
import Derived.ProofKit
import Derived.Carry
import GoSem.Claim
import GoSem.ClaimJoined
import Derived.JoinedTies
set_option linter.unusedVariables false
set_option linter.unusedSimpArgs false
set_option linter.unusedSectionVars false
section
namespace Go.Abs
open Go
set_option maxRecDepth 10000
set_option maxHeartbeats 4000000
theorem Q0l {P:Program} {c:Nat} {Qdv:(List Int)→(List Int)→Option Bool} {Qcc:Int→Int→Int→Int→Option (Qa×Int)} {Qbl:Qh→Option (Qcn×Int)} {Qco:(List Int)→Option Qh}
    (H_word_Equal:Qvu P 12 Qdv)
    (H_timedsynthesis_Deadline:Qgm P 17 Qcc)
    (H_timedsynthesis_Synthesize:Qfu P 18 Qbl)
    (H_overseerlaw46_clock:Qjo P 23 Qco) (hcf:Qq P c=some Qjs):Qjr P c (Qcp Qdv Qcc Qbl Qco):=by
 intro  r h
 refine Qc6 hcf rfl fun Γ M hP hnt hM=>?_
 subst hP
 refine Tr.init [] rfl ?_
 unfold Qcp at h
 unfold Qjs
 refine sr ((md rfl (nt ((sr ((Rn.bslice (xs:=[(i_ 0)]) (cs:=[(i_ 0)]) tv rfl rfl rfl rfl ?_)))))))
 refine Rn.weak (by show WeakSt Γ _ ⟨look [(0,(b_ false)),(8,(l_ [0]))],Qm Γ.n0 (bxs []) M,Γ.n0+77⟩; exact Qeb 8 [.int .i64 0] rfl rfl ⟨(.same rfl),(fSl rfl rfl),tv⟩ tv rfl) ?_
 obtain ⟨x2,h1,h⟩:=bnd h
 refine Rn.call (args:=[(l_ [0])]) tv rfl (H_overseerlaw46_clock _ _ h1) pc9 ?_
 obtain ⟨⟨r4,r5⟩,h3,h⟩:=bnd h
 refine Rn.call (args:=[.agg [(l_ x2.zA.zJ),(i_ x2.zA.zM),(l_ x2.zA.zK),(Qe x2.zA.zL),(l_ x2.zC),.nils 1,(l_ x2.zD),(i_ x2.Tick)]]) tv rfl (fun M2 nb2=>ACalls.weak (args':=[.agg [(l_ x2.zA.zJ),(i_ x2.zA.zM),(l_ x2.zA.zK),(Qe x2.zA.zL),(l_ x2.zC),(l_ []),(l_ x2.zD),(i_ x2.Tick)]]) (H_timedsynthesis_Synthesize _ _ h3 M2 nb2) (.cons (WkV.agg (cS rfl (cS rfl (cS rfl (cS rfl (cS rfl (.cons (WkV.nilsD _) (cS rfl (cS rfl .nil))))))))) .nil) rfl) pc9 ?_
 refine Rn.mov (v:=.tup [(Qx r4),(i_ r5)]) tv rfl (Rn.ext (v:=(Qx r4)) (vs:=[(Qx r4),(i_ r5)]) tv rfl rfl rfl (Rn.ext (v:=(i_ r5)) (vs:=[(Qx r4),(i_ r5)]) tv rfl rfl rfl (Rn.alloc tv rfl (Rn.storeT (v:=(Qx r4)) (ds:=(Qca r4)) (cs':=(Qca r4)) tv rfl rfl rfl rfl rfl rfl rfl (md rfl (nt ((Tr.seq (Tr.rgn ?_)))))))))
 obtain ⟨x7,h6,h⟩:=bnd h
 refine Rn.call (args:=[.nils 1]) tv rfl (fun M2 nb2=>ACalls.weak (args':=[(l_ [])]) (H_overseerlaw46_clock _ _ h6 M2 nb2) (.cons (WkV.nilsD _) .nil) rfl) pc9 ?_
 obtain ⟨⟨r9,r10⟩,h8,h⟩:=bnd h
 refine Rn.call (args:=[.agg [(l_ x7.zA.zJ),(i_ x7.zA.zM),(l_ x7.zA.zK),(Qe x7.zA.zL),(l_ x7.zC),.nils 1,(l_ x7.zD),(i_ x7.Tick)]]) tv rfl (fun M2 nb2=>ACalls.weak (args':=[.agg [(l_ x7.zA.zJ),(i_ x7.zA.zM),(l_ x7.zA.zK),(Qe x7.zA.zL),(l_ x7.zC),(l_ []),(l_ x7.zD),(i_ x7.Tick)]]) (H_timedsynthesis_Synthesize _ _ h8 M2 nb2) (.cons (WkV.agg (cS rfl (cS rfl (cS rfl (cS rfl (cS rfl (.cons (WkV.nilsD _) (cS rfl (cS rfl .nil))))))))) .nil) rfl) pc9 ?_
 refine Rn.mov (v:=.tup [(Qx r9),(i_ r10)]) tv rfl (Rn.ext (v:=(Qx r9)) (vs:=[(Qx r9),(i_ r10)]) tv rfl rfl rfl (Rn.ext (v:=(i_ r10)) (vs:=[(Qx r9),(i_ r10)]) tv rfl rfl rfl (Rn.alloc tv rfl (Rn.storeT (v:=(Qx r9)) (ds:=(Qca r9)) (cs':=(Qca r9)) tv rfl rfl rfl rfl rfl rfl rfl (md rfl (nt ((Tr.seq (Tr.rgn ?_)))))))))
 obtain ⟨⟨r12,r13⟩,h11,h⟩:=bnd h
 refine Rn.call (args:=[(i_ 0),(i_ 1),(i_ 1),(i_ 2)]) tv rfl (H_timedsynthesis_Deadline _ _ _ _ _ h11) pc9 (Rn.mov (v:=.tup [(Qb r12),(i_ r13)]) tv rfl (Rn.ext (v:=(Qb r12)) (vs:=[(Qb r12),(i_ r13)]) tv rfl rfl rfl (Rn.ext (v:=(i_ r13)) (vs:=[(Qb r12),(i_ r13)]) tv rfl rfl rfl (Rn.alloc tv rfl (Rn.storeT (v:=(Qb r12)) (ds:=(Qd r12)) (cs':=(Qd r12)) tv rfl rfl rfl rfl rfl rfl rfl (md rfl (Rn.nil (toN ?_))))))))
 refine Tr.cutB (fun (x27:Bool)=>⟨look [(0,(b_ x27))],Qm Γ.n0 (bxs [(1,.cells ((Qca r4))),(3,.cells ((Qca r9))),(5,.cells ((Qd r12)))]) M,Γ.n0+77⟩) h (fun z h=>?_) (fun z h=>?_)
 ·refine Tr.rgn (md rfl (Rn.bin tv rfl rfl rfl (md rfl ?_)))
  refine Qbz (r5 == 0) (fun hb14=>?_) (fun hb14=>?_)
  ·replace h:=bT hb14 h
   refine Rn.fldP (o':=9) (gw rfl hb14) rfl rfl (Rn.load (v:=(l_ r4.zI)) (gw rfl hb14) rfl (Q6 rfl) rfl rfl (Rn.bslice (xs:=[(i_ 0)]) (cs:=[(i_ 0)]) (gw rfl hb14) rfl rfl rfl rfl ?_))
   refine Rn.weak (by show WeakSt Γ _ ⟨look [(0,(b_ false)),(1,.ptr (Γ.n0+1) 0),(2,(i_ r5)),(3,.ptr (Γ.n0+3) 0),(4,(i_ r10)),(5,.ptr (Γ.n0+5) 0),(6,(i_ r13)),(7,.tup [(Qx r4),(i_ r5)]),(8,(l_ [0])),(9,.agg [(l_ x2.zA.zJ),(i_ x2.zA.zM),(l_ x2.zA.zK),(Qe x2.zA.zL),(l_ x2.zC),.nils 1,(l_ x2.zD),(i_ x2.Tick)]),(10,.tup [(Qx r4),(i_ r5)]),(11,(Qx r4)),(12,(i_ r5)),(13,.tup [(Qx r9),(i_ r10)]),(14,.agg [(l_ x7.zA.zJ),(i_ x7.zA.zM),(l_ x7.zA.zK),(Qe x7.zA.zL),(l_ x7.zC),.nils 1,(l_ x7.zD),(i_ x7.Tick)]),(15,.tup [(Qx r9),(i_ r10)]),(16,(Qx r9)),(17,(i_ r10)),(18,.tup [(Qb r12),(i_ r13)]),(19,.tup [(Qb r12),(i_ r13)]),(20,(Qb r12)),(21,(i_ r13)),(22,(i_ r5)),(23,(b_ (r5 == 0))),(24,(b_ (r5 == 0))),(25,.ptr (Γ.n0+1) 9),(26,(l_ r4.zI)),(27,(l_ [0]))],Qm Γ.n0 (bxs [(1,.cells ((Qca r4))),(3,.cells ((Qca r9))),(5,.cells ((Qd r12)))]) M,Γ.n0+77⟩; exact Qeb 27 [.int .i64 0] rfl rfl ⟨(.same rfl),(fPtr rfl),(.same rfl),(fPtr rfl),(.same rfl),(fPtr rfl),(.same rfl),(.same rfl),(.same rfl),(.same rfl),(.same rfl),(.same rfl),(.same rfl),(.same rfl),(.same rfl),(.same rfl),(.same rfl),(.same rfl),(.same rfl),(.same rfl),(.same rfl),(.same rfl),(.same rfl),(.same rfl),(.same rfl),(fPtr rfl),(.same rfl),(fSl rfl rfl),tv⟩ ⟨bS rfl rfl rfl,bS rfl rfl rfl,bS rfl rfl rfl,tv⟩ rfl) ?_
   obtain ⟨x16,h15,h⟩:=bnd h
   refine Rn.call (args:=[(l_ r4.zI),(l_ [0])]) (gw rfl hb14) rfl (H_word_Equal _ _ _ h15) pc9 (Rn.pickT (v:=(b_ x16)) tv rfl hb14 rfl (md rfl ?_))
   refine Qbz x16 (fun hb17=>?_) (fun hb17=>?_)
   ·replace h:=bT hb17 h
    refine Rn.fldP (o':=9) (gw rfl hb17) rfl rfl (Rn.load (v:=(l_ r4.zI)) (gw rfl hb17) rfl (Q6 rfl) rfl rfl (Rn.lenD (gw rfl hb17) rfl (Rn.bin (gw rfl hb17) rfl rfl rfl (Rn.pickT (v:=(b_ ((r4.zI.length:Int) == 1))) tv rfl hb17 rfl (md rfl ?_)))))
    refine Qbz ((r4.zI.length:Int) == 1) (fun hb18=>?_) (fun hb18=>?_)
    ·replace h:=bT hb18 h
     refine Rn.fldP (o':=4) (gw rfl hb18) rfl rfl (Rn.fldP (o':=5) (gw rfl hb18) rfl rfl (Rn.load (v:=(i_ r4.zH.zM)) (gw rfl hb18) rfl (Q6 rfl) rfl rfl (Rn.bin (gw rfl hb18) rfl rfl rfl (Rn.pickT (v:=(b_ (r4.zH.zM == 1))) tv rfl hb18 rfl (md rfl ?_)))))
     refine Qbz (r4.zH.zM == 1) (fun hb19=>?_) (fun hb19=>?_)
     ·replace h:=bT hb19 h
      refine Rn.movD (gw rfl hb19) rfl (Rn.bin (gw rfl hb19) rfl rfl rfl (Rn.pickT (v:=(b_ (r10 == 0))) tv rfl hb19 rfl (md rfl ?_)))
      refine Qbz (r10 == 0) (fun hb20=>?_) (fun hb20=>?_)
      ·replace h:=bT hb20 h
       refine Rn.fldP (o':=0) (gw rfl hb20) rfl rfl (Rn.fldP (o':=2) (gw rfl hb20) rfl rfl (Rn.load (v:=(Qd1 r9.zE.zG)) (gw rfl hb20) rfl (Q6 rfl) rfl rfl (Rn.lenD (gw rfl hb20) rfl (Rn.bin (gw rfl hb20) rfl rfl rfl (Rn.pickT (v:=(b_ ((r9.zE.zG.length:Int) == 2))) tv rfl hb20 rfl (md rfl ?_))))))
       refine Qbz ((r9.zE.zG.length:Int) == 2) (fun hb21=>?_) (fun hb21=>?_)
       ·replace h:=bT hb21 h
        refine Rn.fldP (o':=0) (gw rfl hb21) rfl rfl (Rn.fldP (o':=2) (gw rfl hb21) rfl rfl (Rn.load (v:=(Qd1 r9.zE.zG)) (gw rfl hb21) rfl (Q6 rfl) rfl rfl ?_))
        obtain ⟨x22,h23,h⟩:=bnd h
        refine Rn.idxD (e:=Qec) (gw rfl hb21) rfl rfl h23 (Rn.loadCA (vs:=(Qmh x22)) (gw rfl hb21) rfl rfl rfl (Rn.build (v:=.agg [(i_ 0),(i_ 2),(i_ 4),(i_ 2)]) (gw rfl hb21) rfl (Rn.eqa (r:=((x22.State == 0) && ((x22.Rank == 2) && ((x22.Reason == 4) && ((x22.Event == 2) && true))))) (gw rfl hb21) rfl rfl rfl (Rn.pickT (v:=(b_ ((x22.State == 0) && ((x22.Rank == 2) && ((x22.Reason == 4) && ((x22.Event == 2) && true)))))) tv rfl hb21 rfl (md rfl ?_)))))
        refine Qbz ((x22.State == 0) && ((x22.Rank == 2) && ((x22.Reason == 4) && ((x22.Event == 2) && true)))) (fun hb24=>?_) (fun hb24=>?_)
        ·replace h:=bT hb24 h
         refine Rn.movD (gw rfl hb24) rfl (Rn.bin (gw rfl hb24) rfl rfl rfl (Rn.pickT (v:=(b_ (r13 == 0))) tv rfl hb24 rfl (md rfl ?_)))
         refine Qbz (r13 == 0) (fun hb25=>?_) (fun hb25=>?_)
         ·replace h:=bT hb25 h
          refine Rn.fldP (o':=1) (gw rfl hb25) rfl rfl (Rn.load (v:=(i_ r12.zM)) (gw rfl hb25) rfl (Q6 rfl) rfl rfl (Rn.bin (gw rfl hb25) rfl rfl rfl (Rn.pickT (v:=(b_ (r12.zM == 3))) tv rfl hb25 rfl (md rfl ?_))))
          refine Qbz (r12.zM == 3) (fun hb26=>?_) (fun hb26=>?_)
          ·replace h:=bT hb26 h
           refine Rn.fldP (o':=3) (gw rfl hb26) rfl rfl (Rn.load (v:=(Qe r12.zL)) (gw rfl hb26) rfl (Q6 rfl) rfl rfl (Rn.lenD (gw rfl hb26) rfl (Rn.bin (gw rfl hb26) rfl rfl rfl (Rn.pickT (v:=(b_ ((r12.zL.length:Int) == 8))) tv rfl hb26 rfl (md rfl (Rn.nil ?_))))))
           replace h:=si h; subst h
           exact Qg [] ⟨(sm rfl),tv⟩ ⟨bS rfl rfl rfl,bS rfl rfl rfl,bS rfl rfl rfl,tv⟩ rfl
          ·replace h:=bF hb26 h
           refine Rn.sk (nw rfl hb26) (Rn.sk (nw rfl hb26) (Rn.sk (nw rfl hb26) (Rn.sk (nw rfl hb26) (Rn.pickF (v:=(b_ false)) tv rfl hb26 rfl (md rfl (Rn.nil ?_))))))
           replace h:=si h; subst h
           exact Qg [] ⟨(sm rfl),tv⟩ ⟨bS rfl rfl rfl,bS rfl rfl rfl,bS rfl rfl rfl,tv⟩ rfl
         ·replace h:=bF hb25 h
          refine Rn.sk (nw rfl hb25) (Rn.sk (nw rfl hb25) (Rn.sk (nw rfl hb25) (Rn.pickF (v:=(b_ false)) tv rfl hb25 rfl (md rfl (sF rfl rfl (sF rfl rfl (sF rfl rfl (sF rfl rfl (Rn.pickF (v:=(b_ false)) tv rfl rfl rfl (md rfl (Rn.nil ?_)))))))))))
          replace h:=si h; subst h
          exact Qg [] ⟨(sm rfl),tv⟩ ⟨bS rfl rfl rfl,bS rfl rfl rfl,bS rfl rfl rfl,tv⟩ rfl
        ·replace h:=bF hb24 h
         refine Rn.sk (nw rfl hb24) (Rn.sk (nw rfl hb24) (Rn.pickF (v:=(b_ false)) tv rfl hb24 rfl (md rfl (sF rfl rfl (sF rfl rfl (sF rfl rfl (Rn.pickF (v:=(b_ false)) tv rfl rfl rfl (md rfl (sF rfl rfl (sF rfl rfl (sF rfl rfl (sF rfl rfl (Rn.pickF (v:=(b_ false)) tv rfl rfl rfl (md rfl (Rn.nil ?_)))))))))))))))
         replace h:=si h; subst h
         exact Qg [] ⟨(sm rfl),tv⟩ ⟨bS rfl rfl rfl,bS rfl rfl rfl,bS rfl rfl rfl,tv⟩ rfl
       ·replace h:=bF hb21 h
        refine Rn.sk (nw rfl hb21) (Rn.sk (nw rfl hb21) (Rn.sk (nw rfl hb21) (Rn.sk (nw rfl hb21) (Rn.sk (nw rfl hb21) (Rn.sk (nw rfl hb21) (Rn.sk (nw rfl hb21) (Rn.pickF (v:=(b_ false)) tv rfl hb21 rfl (md rfl (sF rfl rfl (sF rfl rfl (Rn.pickF (v:=(b_ false)) tv rfl rfl rfl (md rfl (sF rfl rfl (sF rfl rfl (sF rfl rfl (Rn.pickF (v:=(b_ false)) tv rfl rfl rfl (md rfl (sF rfl rfl (sF rfl rfl (sF rfl rfl (sF rfl rfl (Rn.pickF (v:=(b_ false)) tv rfl rfl rfl (md rfl (Rn.nil ?_))))))))))))))))))))))))
        replace h:=si h; subst h
        exact Qg [] ⟨(sm rfl),tv⟩ ⟨bS rfl rfl rfl,bS rfl rfl rfl,bS rfl rfl rfl,tv⟩ rfl
      ·replace h:=bF hb20 h
       refine Rn.sk (nw rfl hb20) (Rn.sk (nw rfl hb20) (Rn.sk (nw rfl hb20) (Rn.sk (nw rfl hb20) (Rn.sk (nw rfl hb20) (Rn.pickF (v:=(b_ false)) tv rfl hb20 rfl (md rfl (sF rfl rfl (sF rfl rfl (sF rfl rfl (sF rfl rfl (sF rfl rfl (sF rfl rfl (sF rfl rfl (Rn.pickF (v:=(b_ false)) tv rfl rfl rfl (md rfl (sF rfl rfl (sF rfl rfl (Rn.pickF (v:=(b_ false)) tv rfl rfl rfl (md rfl (sF rfl rfl (sF rfl rfl (sF rfl rfl (Rn.pickF (v:=(b_ false)) tv rfl rfl rfl (md rfl (sF rfl rfl (sF rfl rfl (sF rfl rfl (sF rfl rfl (Rn.pickF (v:=(b_ false)) tv rfl rfl rfl (md rfl (Rn.nil ?_)))))))))))))))))))))))))))))))
       replace h:=si h; subst h
       exact Qg [] ⟨(sm rfl),tv⟩ ⟨bS rfl rfl rfl,bS rfl rfl rfl,bS rfl rfl rfl,tv⟩ rfl
     ·replace h:=bF hb19 h
      refine Rn.sk (nw rfl hb19) (Rn.sk (nw rfl hb19) (Rn.pickF (v:=(b_ false)) tv rfl hb19 rfl (md rfl (sF rfl rfl (sF rfl rfl (sF rfl rfl (sF rfl rfl (sF rfl rfl (Rn.pickF (v:=(b_ false)) tv rfl rfl rfl (md rfl (sF rfl rfl (sF rfl rfl (sF rfl rfl (sF rfl rfl (sF rfl rfl (sF rfl rfl (sF rfl rfl (Rn.pickF (v:=(b_ false)) tv rfl rfl rfl (md rfl (sF rfl rfl (sF rfl rfl (Rn.pickF (v:=(b_ false)) tv rfl rfl rfl (md rfl (sF rfl rfl (sF rfl rfl (sF rfl rfl (Rn.pickF (v:=(b_ false)) tv rfl rfl rfl (md rfl (sF rfl rfl (sF rfl rfl (sF rfl rfl (sF rfl rfl (Rn.pickF (v:=(b_ false)) tv rfl rfl rfl (md rfl (Rn.nil ?_)))))))))))))))))))))))))))))))))))
      replace h:=si h; subst h
      exact Qg [] ⟨(sm rfl),tv⟩ ⟨bS rfl rfl rfl,bS rfl rfl rfl,bS rfl rfl rfl,tv⟩ rfl
    ·replace h:=bF hb18 h
     refine Rn.sk (nw rfl hb18) (Rn.sk (nw rfl hb18) (Rn.sk (nw rfl hb18) (Rn.sk (nw rfl hb18) (Rn.pickF (v:=(b_ false)) tv rfl hb18 rfl (md rfl (sF rfl rfl (sF rfl rfl (Rn.pickF (v:=(b_ false)) tv rfl rfl rfl (md rfl (sF rfl rfl (sF rfl rfl (sF rfl rfl (sF rfl rfl (sF rfl rfl (Rn.pickF (v:=(b_ false)) tv rfl rfl rfl (md rfl (sF rfl rfl (sF rfl rfl (sF rfl rfl (sF rfl rfl (sF rfl rfl (sF rfl rfl (sF rfl rfl (Rn.pickF (v:=(b_ false)) tv rfl rfl rfl (md rfl (sF rfl rfl (sF rfl rfl (Rn.pickF (v:=(b_ false)) tv rfl rfl rfl (md rfl (sF rfl rfl (sF rfl rfl (sF rfl rfl (Rn.pickF (v:=(b_ false)) tv rfl rfl rfl (md rfl (sF rfl rfl (sF rfl rfl (sF rfl rfl (sF rfl rfl (Rn.pickF (v:=(b_ false)) tv rfl rfl rfl ?_)))))))))))))))))))))))))))))))))))))))
     refine md rfl (Rn.nil ?_)
     replace h:=si h; subst h
     exact Qg [] ⟨(sm rfl),tv⟩ ⟨bS rfl rfl rfl,bS rfl rfl rfl,bS rfl rfl rfl,tv⟩ rfl
   ·replace h:=bF hb17 h
    refine Rn.sk (nw rfl hb17) (Rn.sk (nw rfl hb17) (Rn.sk (nw rfl hb17) (Rn.sk (nw rfl hb17) (Rn.pickF (v:=(b_ false)) tv rfl hb17 rfl (md rfl (sF rfl rfl (sF rfl rfl (sF rfl rfl (sF rfl rfl (Rn.pickF (v:=(b_ false)) tv rfl rfl rfl (md rfl (sF rfl rfl (sF rfl rfl (Rn.pickF (v:=(b_ false)) tv rfl rfl rfl (md rfl (sF rfl rfl (sF rfl rfl (sF rfl rfl (sF rfl rfl (sF rfl rfl (Rn.pickF (v:=(b_ false)) tv rfl rfl rfl (md rfl (sF rfl rfl (sF rfl rfl (sF rfl rfl (sF rfl rfl (sF rfl rfl (sF rfl rfl (sF rfl rfl (Rn.pickF (v:=(b_ false)) tv rfl rfl rfl (md rfl (sF rfl rfl (sF rfl rfl (Rn.pickF (v:=(b_ false)) tv rfl rfl rfl (md rfl (sF rfl rfl (sF rfl rfl (sF rfl rfl (Rn.pickF (v:=(b_ false)) tv rfl rfl rfl ?_)))))))))))))))))))))))))))))))))))))))
    refine md rfl (sF rfl rfl (sF rfl rfl (sF rfl rfl (sF rfl rfl (Rn.pickF (v:=(b_ false)) tv rfl rfl rfl (md rfl (Rn.nil ?_)))))))
    replace h:=si h; subst h
    exact Qg [] ⟨(sm rfl),tv⟩ ⟨bS rfl rfl rfl,bS rfl rfl rfl,bS rfl rfl rfl,tv⟩ rfl
  ·replace h:=bF hb14 h
   refine Rn.sk (nw rfl hb14) (Rn.sk (nw rfl hb14) (Rn.sk (nw rfl hb14) (Rn.sk (nw rfl hb14) (Rn.pickF (v:=(b_ false)) tv rfl hb14 rfl (md rfl (sF rfl rfl (sF rfl rfl (sF rfl rfl (sF rfl rfl (Rn.pickF (v:=(b_ false)) tv rfl rfl rfl (md rfl (sF rfl rfl (sF rfl rfl (sF rfl rfl (sF rfl rfl (Rn.pickF (v:=(b_ false)) tv rfl rfl rfl (md rfl (sF rfl rfl (sF rfl rfl (Rn.pickF (v:=(b_ false)) tv rfl rfl rfl (md rfl (sF rfl rfl (sF rfl rfl (sF rfl rfl (sF rfl rfl (sF rfl rfl (Rn.pickF (v:=(b_ false)) tv rfl rfl rfl (md rfl (sF rfl rfl (sF rfl rfl (sF rfl rfl (sF rfl rfl (sF rfl rfl (sF rfl rfl (sF rfl rfl (Rn.pickF (v:=(b_ false)) tv rfl rfl rfl (md rfl (sF rfl rfl (sF rfl rfl ?_)))))))))))))))))))))))))))))))))))))))
   refine Rn.pickF (v:=(b_ false)) tv rfl rfl rfl (md rfl (sF rfl rfl (sF rfl rfl (sF rfl rfl (Rn.pickF (v:=(b_ false)) tv rfl rfl rfl (md rfl (sF rfl rfl (sF rfl rfl (sF rfl rfl (sF rfl rfl (Rn.pickF (v:=(b_ false)) tv rfl rfl rfl (md rfl (Rn.nil ?_)))))))))))))
   replace h:=si h; subst h
   exact Qg [] ⟨(sm rfl),tv⟩ ⟨bS rfl rfl rfl,bS rfl rfl rfl,bS rfl rfl rfl,tv⟩ rfl
 ·obtain ⟨x27,rfl⟩ : ∃ x,x=z:=⟨_,rfl⟩
  refine Tr.ret ?_
  replace h:=si h; subst h
  exact ⟨.inr rfl,(b_ x27),rfl,fun _ _ _ _ h=>h,tv,mB⟩
theorem Qrh {P:Program} {c:Nat} (hcf:Qq P c=some Qf8) (fuel:Nat):Qf7 P c (Qb9 fuel):=by
 intro s1 r h
 refine Qc6 hcf rfl fun Γ M hP hnt hM=>?_
 subst hP
 refine Tr.init [(0,.d (.int .u8 s1))] rfl ?_
 unfold Qb9 at h
 unfold Qf8
 refine sr ((Rn.movTC (v:=.nils 1) tv (nt ((sr ((Rn.movTC (v:=.nils 1) tv (Rn.nil (toN ?_)))))))))
 refine Tr.cutB (fun (out12:List Int)=>⟨look [(3,(o_ out12))],Qm Γ.n0 (bxs []) M,Γ.n0+19⟩) h (fun z h=>?_) (fun z h=>?_)
 ·refine sr ((md rfl (nt ((Tr.block ?_)))))
  refine Tr.loop (mk:=fun ((out2,i3):(List Int)×Int)=>⟨look [(0,.d (.int .u8 s1)),(3,(o_ out2)),(4,(i_ i3))],Qm Γ.n0 (bxs []) M,Γ.n0+19⟩) h (by exact Qj ⟨(sm rfl),(WkV.nilsO _),(sm rfl),tv⟩ tv rfl) (fun k4 z h=>?_)
  ·obtain ⟨out2,i3⟩:=z
   replace h:_=some _:=h
   refine Tr.seq (sr ((md rfl (Rn.bin tv rfl rfl rfl (Rn.nil (toN ?_))))))
   refine Tr.cond rfl (fun hb5=>?_) (fun hb5=>?_)
   ·replace h:=ifT hb5 h
    refine Tr.skip (toN ?_)
    refine Tr.cutB (fun (out11:List Int)=>⟨look [(0,.d (.int .u8 s1)),(3,(o_ out11)),(4,(i_ i3))],Qm Γ.n0 (bxs []) M,Γ.n0+19⟩) h (fun z h=>?_) (fun z h=>?_)
    ·refine Tr.block (sr ((md rfl (md rfl ?_))))
     obtain ⟨s6,h7,h⟩:=bnd h
     refine Rn.bin tv rfl rfl (Qbod h7) (Rn.bin tv rfl rfl rfl (Rn.bin tv rfl rfl rfl (Rn.nil (toN ?_))))
     refine Tr.cond rfl (fun hb8=>?_) (fun hb8=>?_)
     ·replace h:=bT hb8 h
      refine Tr.rgn (Rn.movTO tv rfl (md rfl (Rn.bslice (xs:=[(i_ i3)]) (cs:=[(i_ i3)]) tv rfl rfl rfl rfl ?_)))
      obtain ⟨x9,h10,h⟩:=bnd h
      refine Rn.app (e:=(eI .i64)) tv rfl rfl rfl (Qcl rfl rfl rfl) h10 rfl (Rn.movTO tv rfl (Rn.nil ?_))
      replace h:=si h; subst h
      exact Qg [16] ⟨(sm rfl),(sm rfl),(sm rfl),tv⟩ tv rfl
     ·replace h:=bF hb8 h
      refine Tr.skip ?_
      replace h:=si h; subst h
      exact Qg [] ⟨(sm rfl),(sm rfl),(sm rfl),tv⟩ tv rfl
    ·obtain ⟨out11,rfl⟩ : ∃ x,x=z:=⟨_,rfl⟩
     refine Tr.rgn (md rfl (Rn.bin tv rfl rfl rfl (md rfl (Rn.nil ?_))))
     exact ⟨_,h,(by exact Qj ⟨(sm rfl),(sm rfl),(sm rfl),tv⟩ tv rfl)⟩
   ·replace h:=ifF hb5 h
    refine Tr.exit ?_
    replace h:=si h; subst h
    exact Qg [] ⟨(sm rfl),tv⟩ tv rfl
 ·obtain ⟨out12,rfl⟩ : ∃ x,x=z:=⟨_,rfl⟩
  refine sr ((Rn.movTO tv rfl (Rn.movTO tv rfl (nt ((Tr.ret ?_))))))
  replace h:=si h; subst h
  exact ⟨.inr rfl,(o_ out12),rfl,fun _ _ _ _ h=>h,tv,mB⟩
theorem Q0m {P:Program} {c:Nat} (hcf:Qq P c=some Qjt):Qge P c (Q1):=by
 intro alphabet1 r h
 refine Qc6 hcf rfl fun Γ M hP hnt hM=>?_
 subst hP
 refine Tr.init [(0,(l_ alphabet1))] rfl ?_
 unfold Q1 at h
 unfold Qjt
 refine sr ((Rn.alloc tv rfl (nt ((sr ((Rn.bslice (xs:=[]) (cs:=[]) tv rfl rfl rfl rfl (md rfl ?_))))))))
 obtain ⟨x2,h3,h⟩:=bnd h
 refine Rn.app0 (e:=(eI .i64)) tv rfl rfl rfl rfl Qbff h3 rfl (Rn.buildT (v:=.agg [(o_ x2),(i_ 0),.nils 1,.nils 3]) tv rfl (Rn.storeT (v:=.agg [(o_ x2),(i_ 0),.nils 1,.nils 3]) (ds:=[(o_ x2),(i_ 0),.nils 1,.nils 3]) (cs':=[(o_ x2),(i_ 0),.nils 1,.nils 3]) tv rfl rfl rfl rfl rfl rfl rfl (nt ((Tr.ret ?_)))))
 replace h:=si h; subst h
 exact ⟨.inr rfl,(.agg [(l_ x2),(i_ 0),.nils 1,.nils 3]),Qfh rfl rfl rfl rfl,fun _ _ _ _ h=>h,⟨tv,tv,tv,tv,tv⟩,mB⟩
theorem Q2f {P:Program} {c:Nat} (hcf:Qq P c=some Qke) (fuel:Nat):Qgy P c (Qbc fuel):=by
 intro a1 state2 event3 r h
 refine Qc6 hcf rfl fun Γ M hP hnt hM=>?_
 subst hP
 refine Tr.init [(0,(Qb a1)),(1,(i_ state2)),(2,(i_ event3))] rfl ?_
 unfold Qbc at h
 unfold Qke
 refine sr ((Rn.box (v:=(Qb a1)) (cs:=(Qd a1)) tv rfl rfl rfl rfl rfl (md rfl (nt ((Tr.seq (sr ((md rfl (nt ((Tr.block ?_))))))))))))
 refine Tr.loop (mk:=fun (i4:Int)=>⟨look [(1,(i_ state2)),(2,(i_ event3)),(3,.ptr (Γ.n0+3) 0),(7,(i_ i4))],Qm Γ.n0 (bxs [(3,.cells ((Qd a1)))]) M,Γ.n0+39⟩) h (by exact Qj ⟨(sm rfl),(sm rfl),(kPtr rfl),(sm rfl),tv⟩ ⟨bS rfl rfl rfl,tv⟩ rfl) (fun k5 z h=>?_)
 ·obtain ⟨i4,rfl⟩ : ∃ x,x=z:=⟨_,rfl⟩
  replace h:_=some _:=h
  refine Tr.seq (sr ((md rfl (Rn.fldP (o':=3) tv rfl rfl (lB (v:=(Qe a1.zL)) rfl rfl rfl rfl (Rn.lenD tv rfl (Rn.bin tv rfl rfl rfl (Rn.nil (toN ?_)))))))))
  refine Tr.cond rfl (fun hb6=>?_) (fun hb6=>?_)
  ·replace h:=ifT hb6 h
   refine Tr.skip (toN (Tr.seq (Tr.block ?_)))
   refine Tr.cutB (fun (x12:Bool)=>⟨look [(1,(i_ state2)),(2,(i_ event3)),(3,.ptr (Γ.n0+3) 0),(7,(i_ i4)),(32,(b_ x12))],Qm Γ.n0 (bxs [(3,.cells ((Qd a1)))]) M,Γ.n0+39⟩) h (fun z h=>?_) (fun z h=>?_)
   ·refine Tr.rgn (Rn.fldP (o':=3) tv rfl rfl (lB (v:=(Qe a1.zL)) rfl rfl rfl rfl (md rfl ?_)))
    obtain ⟨x7,h8,h⟩:=bnd h
    refine Rn.idxD (e:=Qv) tv rfl rfl h8 (Rn.fldC tv rfl (Rn.loadC (x:=.int .i64 x7.From) tv rfl (md rfl (Rn.bin tv rfl rfl rfl (md rfl ?_)))))
    refine Qbz (x7.From == state2) (fun hb9=>?_) (fun hb9=>?_)
    ·replace h:=bT hb9 h
     refine Rn.fldP (o':=3) (gw rfl hb9) rfl rfl (Rn.load (v:=(Qe a1.zL)) (gw rfl hb9) rfl (Q6 rfl) rfl rfl (Rn.movD (gw rfl hb9) rfl ?_))
     obtain ⟨x10,h11,h⟩:=bnd h
     refine Rn.idxD (e:=Qv) (gw rfl hb9) rfl rfl h11 (Rn.fldC (gw rfl hb9) rfl (Rn.loadC (x:=.int .i64 x10.Event) (gw rfl hb9) rfl (Rn.movD (gw rfl hb9) rfl (Rn.bin (gw rfl hb9) rfl rfl rfl (Rn.pickT (v:=(b_ (x10.Event == event3))) tv rfl hb9 rfl (Rn.nil ?_))))))
     replace h:=si h; subst h
     exact Qg [] ⟨(sm rfl),(sm rfl),(kPtr rfl),(sm rfl),(sm rfl),tv⟩ ⟨bS rfl rfl rfl,tv⟩ rfl
    ·replace h:=bF hb9 h
     refine Rn.sk (nw rfl hb9) (Rn.sk (nw rfl hb9) (Rn.sk (nw rfl hb9) (Rn.sk (nw rfl hb9) (Rn.sk (nw rfl hb9) (Rn.sk (nw rfl hb9) (Rn.sk (nw rfl hb9) (Rn.sk (nw rfl hb9) (Rn.pickF (v:=(b_ false)) tv rfl hb9 rfl (Rn.nil ?_)))))))))
     replace h:=si h; subst h
     exact Qg [] ⟨(sm rfl),(sm rfl),(kPtr rfl),(sm rfl),(sm rfl),tv⟩ ⟨bS rfl rfl rfl,tv⟩ rfl
   ·obtain ⟨x12,rfl⟩ : ∃ x,x=z:=⟨_,rfl⟩
    refine Tr.cond rfl (fun hb13=>?_) (fun hb13=>?_)
    ·replace h:=bT hb13 h
     refine sr ((Rn.fldP (o':=3) tv rfl rfl (lB (v:=(Qe a1.zL)) rfl rfl rfl rfl (md rfl ?_))))
     obtain ⟨x14,h15,h⟩:=bnd h
     refine Rn.idxD (e:=Qv) tv rfl rfl h15 (Rn.fldC tv rfl (Rn.loadC (x:=.int .i64 x14.To) tv rfl (md rfl (nt ((Tr.ret ?_))))))
     replace h:=si h; subst h
     exact ⟨.inr rfl,(i_ x14.To),rfl,fun _ _ _ _ h=>h,tv,mB⟩
    ·replace h:=bF hb13 h
     refine Tr.skip (toN (Tr.rgn (md rfl (Rn.bin tv rfl rfl rfl (md rfl (Rn.nil ?_))))))
     exact ⟨_,h,(by exact Qj ⟨(sm rfl),(sm rfl),(kPtr rfl),(sm rfl),tv⟩ ⟨bS rfl rfl rfl,tv⟩ rfl)⟩
  ·replace h:=ifF hb6 h
   refine Tr.exit (toN (sr ((md rfl (nt ((Tr.ret ?_)))))))
   replace h:=si h; subst h
   exact ⟨.inr rfl,(i_ (-1)),rfl,fun _ _ _ _ h=>h,tv,mB⟩
theorem Q32 {P:Program} {c:Nat} (hcf:Qq P c=some Qlh) (fuel:Nat):Qhk P c (Qbn fuel):=by
 intro l1 n2 r h
 refine Qc6 hcf rfl fun Γ M hP hnt hM=>?_
 subst hP
 refine Tr.init [(0,(l_ l1)),(1,(i_ n2))] rfl ?_
 unfold Qbn at h
 unfold Qlh
 refine sr ((md rfl (nt ((Tr.seq (sr ((md rfl (nt ((Tr.block ?_)))))))))))
 refine Tr.loop (mk:=fun (i3:Int)=>⟨look [(0,(l_ l1)),(1,(i_ n2)),(5,(i_ i3))],Qm Γ.n0 (bxs []) M,Γ.n0+18⟩) h (by exact Qj ⟨(sm rfl),(sm rfl),(sm rfl),tv⟩ tv rfl) (fun k4 z h=>?_)
 ·obtain ⟨i3,rfl⟩ : ∃ x,x=z:=⟨_,rfl⟩
  replace h:_=some _:=h
  refine Tr.seq (sr ((md rfl (md rfl (Rn.lenD tv rfl (Rn.bin tv rfl rfl rfl (Rn.nil (toN ?_))))))))
  refine Tr.cond rfl (fun hb5=>?_) (fun hb5=>?_)
  ·replace h:=ifT hb5 h
   refine Tr.skip (toN (Tr.seq (Tr.block (sr ((md rfl (md rfl ?_)))))))
   obtain ⟨x6,h7,h⟩:=bnd h
   refine Rn.idxD (e:=(eI .i64)) tv rfl rfl h7 (Rn.loadC (x:=.int .i64 x6) tv rfl (md rfl (Rn.bin tv rfl rfl rfl (Rn.nil (toN ?_)))))
   refine Tr.cond rfl (fun hb8=>?_) (fun hb8=>?_)
   ·replace h:=bT hb8 h
    refine sr ((md rfl (nt ((Tr.ret ?_)))))
    replace h:=si h; subst h
    exact ⟨.inr rfl,(b_ true),rfl,fun _ _ _ _ h=>h,tv,mB⟩
   ·replace h:=bF hb8 h
    refine Tr.skip (toN (Tr.rgn (md rfl (Rn.bin tv rfl rfl rfl (md rfl (Rn.nil ?_))))))
    exact ⟨_,h,(by exact Qj ⟨(sm rfl),(sm rfl),(sm rfl),tv⟩ tv rfl)⟩
  ·replace h:=ifF hb5 h
   refine Tr.exit (toN (sr ((md rfl (nt ((Tr.ret ?_)))))))
   replace h:=si h; subst h
   exact ⟨.inr rfl,(b_ false),rfl,fun _ _ _ _ h=>h,tv,mB⟩
theorem Q0n {P:Program} {c:Nat} {Qbn:(List Int)→Int→Option Bool} {Qbc:Qa→Int→Int→Option Int}
    (H_overseerref03_has:Qhk P 83 Qbn)
    (H_overseerref03_Step:Qgy P 84 Qbc) (hcf:Qq P c=some Qjv) (fuel:Nat):Qju P c (Qcq Qbn Qbc fuel):=by
 intro a1 r h
 refine Qc6 hcf rfl fun Γ M hP hnt hM=>?_
 subst hP
 refine Tr.init [(0,(Qb a1))] rfl ?_
 unfold Qcq at h
 unfold Qjv
 refine sr ((Rn.box (v:=(Qb a1)) (cs:=(Qd a1)) tv rfl rfl rfl rfl rfl (Rn.movTC (v:=.nils 1) tv (nt ((sr ((Rn.movTC (v:=.nils 1) tv (Rn.nil (toN ?_))))))))))
 refine Tr.cutB (fun (out5:List Int)=>⟨look [(1,.ptr (Γ.n0+1) 0),(3,(o_ out5))],Qm Γ.n0 (bxs [(1,.cells ((Qd a1)))]) M,Γ.n0+50⟩) h (fun z h=>?_) (fun z h=>?_)
 ·refine sr ((Rn.fldP (o':=1) tv rfl rfl (lB (v:=(i_ a1.zM)) rfl rfl rfl rfl (Rn.bin tv rfl rfl rfl (Rn.nil (toN ?_))))))
  refine Tr.cond rfl (fun hb2=>?_) (fun hb2=>?_)
  ·replace h:=ifT hb2 h
   refine Tr.rgn (Rn.movTF (v:=.nils 1) tv rfl rfl (Rn.bslice (xs:=[(i_ 0)]) (cs:=[(i_ 0)]) tv rfl rfl rfl rfl ?_))
   refine Rn.weak (by show WeakSt Γ _ ⟨look [(0,(Qb a1)),(1,.ptr (Γ.n0+1) 0),(2,.nils 1),(3,.nils 1),(7,.ptr (Γ.n0+1) 1),(8,(i_ a1.zM)),(9,(b_ (decide (a1.zM > 0)))),(10,.own 1 (List.map (eI .i64) [])),(11,.sl 1 (Γ.n0+11) 0 1 1)],Qm Γ.n0 (bxs [(1,.cells ((Qd a1))),(11,.cells ([(i_ 0)]))]) M,Γ.n0+50⟩; exact Qg [] ⟨(sm rfl),(kPtr rfl),(sm rfl),(sm rfl),(kPtr rfl),(sm rfl),(sm rfl),(WkV.nilsO _),(kSl rfl),tv⟩ ⟨bS rfl rfl rfl,bS rfl rfl rfl,tv⟩ rfl) ?_
   obtain ⟨x3,h4,h⟩:=bnd h
   refine Rn.app (e:=(eI .i64)) tv rfl rfl rfl (Qcl rfl rfl rfl) h4 rfl (Rn.movTO tv rfl (Rn.nil ?_))
   replace h:=si h; subst h
   exact Qg [11] ⟨(kPtr rfl),(sm rfl),tv⟩ ⟨bS rfl rfl rfl,tv⟩ rfl
  ·replace h:=ifF hb2 h
   refine Tr.skip ?_
   replace h:=si h; subst h
   exact Qg [] ⟨(kPtr rfl),(WkV.nilsO _),tv⟩ ⟨bS rfl rfl rfl,tv⟩ rfl
 ·obtain ⟨out5,rfl⟩ : ∃ x,x=z:=⟨_,rfl⟩
  refine Tr.cutB (fun (out29:List Int)=>⟨look [(3,(o_ out29))],Qm Γ.n0 (bxs [(1,.cells ((Qd a1)))]) M,Γ.n0+50⟩) h (fun z h=>?_) (fun z h=>?_)
  ·refine sr ((md rfl (nt ((Tr.block ?_)))))
   refine Tr.loop (mk:=fun ((out6,i7):(List Int)×Int)=>⟨look [(1,.ptr (Γ.n0+1) 0),(3,(o_ out6)),(4,(i_ i7))],Qm Γ.n0 (bxs [(1,.cells ((Qd a1)))]) M,Γ.n0+50⟩) h (by exact Qj ⟨(kPtr rfl),(sm rfl),(sm rfl),tv⟩ ⟨bS rfl rfl rfl,tv⟩ rfl) (fun k8 z h=>?_)
   ·obtain ⟨out6,i7⟩:=z
    replace h:_=some _:=h
    refine Tr.seq (sr ((md rfl (Rn.mov (v:=(l_ out6)) tv rfl (Rn.lenD tv rfl (Rn.bin tv rfl rfl rfl (Rn.nil (toN ?_))))))))
    refine Tr.cond rfl (fun hb9=>?_) (fun hb9=>?_)
    ·replace h:=ifT hb9 h
     refine Tr.skip (toN ?_)
     refine Tr.cutB (fun (out28:List Int)=>⟨look [(1,.ptr (Γ.n0+1) 0),(3,(o_ out28)),(4,(i_ i7))],Qm Γ.n0 (bxs [(1,.cells ((Qd a1)))]) M,Γ.n0+50⟩) h (fun z h=>?_) (fun z h=>?_)
     ·refine Tr.block (sr ((md rfl (nt ((Tr.block ?_))))))
      refine Tr.loop (mk:=fun ((out10,k11):(List Int)×Int)=>⟨look [(1,.ptr (Γ.n0+1) 0),(3,(o_ out10)),(4,(i_ i7)),(5,(i_ k11))],Qm Γ.n0 (bxs [(1,.cells ((Qd a1)))]) M,Γ.n0+50⟩) h (by exact Qj ⟨(kPtr rfl),(sm rfl),(sm rfl),(sm rfl),tv⟩ ⟨bS rfl rfl rfl,tv⟩ rfl) (fun k12 z h=>?_)
      ·obtain ⟨out10,k11⟩:=z
       replace h:_=some _:=h
       refine Tr.seq (sr ((md rfl (Rn.fldP (o':=0) tv rfl rfl (lB (v:=(l_ a1.zJ)) rfl rfl rfl rfl (Rn.lenD tv rfl (Rn.bin tv rfl rfl rfl (Rn.nil (toN ?_)))))))))
       refine Tr.cond rfl (fun hb13=>?_) (fun hb13=>?_)
       ·replace h:=ifT hb13 h
        refine Tr.skip (toN ?_)
        refine Tr.cutB (fun (out27:List Int)=>⟨look [(1,.ptr (Γ.n0+1) 0),(3,(o_ out27)),(4,(i_ i7)),(5,(i_ k11))],Qm Γ.n0 (bxs [(1,.cells ((Qd a1)))]) M,Γ.n0+50⟩) h (fun z h=>?_) (fun z h=>?_)
        ·refine Tr.block (Tr.seq ?_)
         refine Tr.rgnD (by decide) ?_
         refine lB (v:=(Qb a1)) rfl rfl rfl rfl (Rn.mov (v:=(l_ out10)) tv rfl (md rfl ?_))
         obtain ⟨x14,h15,h⟩:=bnd h
         refine Rn.idxD (e:=(eI .i64)) tv rfl rfl h15 (Rn.loadC (x:=.int .i64 x14) tv rfl (Rn.fldP (o':=0) tv rfl rfl (lB (v:=(l_ a1.zJ)) rfl rfl rfl rfl (md rfl ?_))))
         obtain ⟨x16,h17,h⟩:=bnd h
         refine Rn.idxD (e:=(eI .i64)) tv rfl rfl h17 (Rn.loadC (x:=.int .i64 x16) tv rfl ?_)
         obtain ⟨x19,h18,h⟩:=bnd h
         refine Rn.call (args:=[(Qb a1),(i_ x14),(i_ x16)]) tv rfl (H_overseerref03_Step _ _ _ _ h18) pc0 (md rfl ?_)
         refine Rn.nil ⟨rfl,?_⟩
         refine toN ?_
         refine Tr.cutB (fun (x23:Bool)=>⟨look [(1,.ptr (Γ.n0+1) 0),(3,(o_ out10)),(4,(i_ i7)),(5,(i_ k11)),(6,(i_ x19)),(44,(b_ x23))],Qm Γ.n0 (bxs [(1,.cells ((Qd a1)))]) M,Γ.n0+50⟩) h (fun z h=>?_) (fun z h=>?_)
         ·refine Tr.rgn (md rfl (Rn.bin tv rfl rfl rfl (md rfl ?_)))
          refine Qbz (decide (x19≥0)) (fun hb20=>?_) (fun hb20=>?_)
          ·replace h:=ifT hb20 h
           refine Rn.mov (v:=(l_ out10)) (gw rfl hb20) rfl (Rn.movD (gw rfl hb20) rfl ?_)
           obtain ⟨x22,h21,h⟩:=bnd h
           refine Rn.call (args:=[(l_ out10),(i_ x19)]) (gw rfl hb20) rfl (H_overseerref03_has _ _ _ h21) pc9 (Rn.un (gw rfl hb20) rfl rfl (Rn.pickT (v:=(b_ (!x22))) tv rfl hb20 rfl (Rn.nil ?_)))
           replace h:=si h; subst h
           exact Qg [] ⟨(kPtr rfl),(sm rfl),(sm rfl),(sm rfl),(sm rfl),(sm rfl),tv⟩ ⟨bS rfl rfl rfl,tv⟩ rfl
          ·replace h:=ifF hb20 h
           refine Rn.sk (nw rfl hb20) (Rn.sk (nw rfl hb20) (Rn.sk (nw rfl hb20) (Rn.sk (nw rfl hb20) (Rn.pickF (v:=(b_ false)) tv rfl hb20 rfl (Rn.nil ?_)))))
           replace h:=si h; subst h
           exact Qg [] ⟨(kPtr rfl),(sm rfl),(sm rfl),(sm rfl),(sm rfl),(sm rfl),tv⟩ ⟨bS rfl rfl rfl,tv⟩ rfl
         ·obtain ⟨x23,rfl⟩ : ∃ x,x=z:=⟨_,rfl⟩
          refine Tr.cond rfl (fun hb24=>?_) (fun hb24=>?_)
          ·replace h:=bT hb24 h
           refine Tr.rgn (Rn.movTO tv rfl (md rfl (Rn.bslice (xs:=[(i_ x19)]) (cs:=[(i_ x19)]) tv rfl rfl rfl rfl ?_)))
           obtain ⟨x25,h26,h⟩:=bnd h
           refine Rn.app (e:=(eI .i64)) tv rfl rfl rfl (Qcl rfl rfl rfl) h26 rfl (Rn.movTO tv rfl (Rn.nil ?_))
           replace h:=si h; subst h
           exact Qg [47] ⟨(kPtr rfl),(sm rfl),(sm rfl),(sm rfl),tv⟩ ⟨bS rfl rfl rfl,tv⟩ rfl
          ·replace h:=bF hb24 h
           refine Tr.skip ?_
           replace h:=si h; subst h
           exact Qg [] ⟨(kPtr rfl),(sm rfl),(sm rfl),(sm rfl),tv⟩ ⟨bS rfl rfl rfl,tv⟩ rfl
        ·obtain ⟨out27,rfl⟩ : ∃ x,x=z:=⟨_,rfl⟩
         refine Tr.rgn (md rfl (Rn.bin tv rfl rfl rfl (md rfl (Rn.nil ?_))))
         exact ⟨_,h,(by exact Qj ⟨(kPtr rfl),(sm rfl),(sm rfl),(sm rfl),tv⟩ ⟨bS rfl rfl rfl,tv⟩ rfl)⟩
       ·replace h:=ifF hb13 h
        refine Tr.exit ?_
        replace h:=si h; subst h
        exact Qg [] ⟨(kPtr rfl),(sm rfl),(sm rfl),tv⟩ ⟨bS rfl rfl rfl,tv⟩ rfl
     ·obtain ⟨out28,rfl⟩ : ∃ x,x=z:=⟨_,rfl⟩
      refine Tr.rgn (md rfl (Rn.bin tv rfl rfl rfl (md rfl (Rn.nil ?_))))
      exact ⟨_,h,(by exact Qj ⟨(kPtr rfl),(sm rfl),(sm rfl),tv⟩ ⟨bS rfl rfl rfl,tv⟩ rfl)⟩
    ·replace h:=ifF hb9 h
     refine Tr.exit ?_
     replace h:=si h; subst h
     exact Qg [] ⟨(sm rfl),tv⟩ ⟨bS rfl rfl rfl,tv⟩ rfl
  ·obtain ⟨out29,rfl⟩ : ∃ x,x=z:=⟨_,rfl⟩
   refine sr ((Rn.movTO tv rfl (Rn.movTO tv rfl (nt ((Tr.ret ?_))))))
   replace h:=si h; subst h
   exact ⟨.inr rfl,(o_ out29),rfl,fun _ _ _ _ h=>h,tv,mB⟩
theorem Q0o {P:Program} {c:Nat} (hcf:Qq P c=some Qjx) (fuel:Nat):Qjw P c (Qcr fuel):=by
 intro l1 n2 r h
 refine Qc6 hcf rfl fun Γ M hP hnt hM=>?_
 subst hP
 refine Tr.init [(0,(l_ l1)),(1,(i_ n2))] rfl ?_
 unfold Qcr at h
 unfold Qjx
 refine sr ((md rfl (nt ((Tr.seq (sr ((md rfl (nt ((Tr.block ?_)))))))))))
 refine Tr.loop (mk:=fun (i3:Int)=>⟨look [(0,(l_ l1)),(1,(i_ n2)),(5,(i_ i3))],Qm Γ.n0 (bxs []) M,Γ.n0+19⟩) h (by exact Qj ⟨(sm rfl),(sm rfl),(sm rfl),tv⟩ tv rfl) (fun k4 z h=>?_)
 ·obtain ⟨i3,rfl⟩ : ∃ x,x=z:=⟨_,rfl⟩
  replace h:_=some _:=h
  refine Tr.seq (sr ((md rfl (md rfl (Rn.lenD tv rfl (Rn.bin tv rfl rfl rfl (Rn.nil (toN ?_))))))))
  refine Tr.cond rfl (fun hb5=>?_) (fun hb5=>?_)
  ·replace h:=ifT hb5 h
   refine Tr.skip (toN (Tr.seq (Tr.block (sr ((md rfl (md rfl ?_)))))))
   obtain ⟨x6,h7,h⟩:=bnd h
   refine Rn.idxD (e:=(eI .i64)) tv rfl rfl h7 (Rn.loadC (x:=.int .i64 x6) tv rfl (md rfl (Rn.bin tv rfl rfl rfl (Rn.nil (toN ?_)))))
   refine Tr.cond rfl (fun hb8=>?_) (fun hb8=>?_)
   ·replace h:=bT hb8 h
    refine sr ((md rfl (md rfl (nt ((Tr.ret ?_))))))
    replace h:=si h; subst h
    exact ⟨.inr rfl,(i_ i3),rfl,fun _ _ _ _ h=>h,tv,mB⟩
   ·replace h:=bF hb8 h
    refine Tr.skip (toN (Tr.rgn (md rfl (Rn.bin tv rfl rfl rfl (md rfl (Rn.nil ?_))))))
    exact ⟨_,h,(by exact Qj ⟨(sm rfl),(sm rfl),(sm rfl),tv⟩ tv rfl)⟩
  ·replace h:=ifF hb5 h
   refine Tr.exit (toN (sr ((md rfl (nt ((Tr.ret ?_)))))))
   replace h:=si h; subst h
   exact ⟨.inr rfl,(i_ (-1)),rfl,fun _ _ _ _ h=>h,tv,mB⟩
theorem Qs3 {P:Program} {c:Nat} {Q1:(List Int)→Option Qa} {Qcq:Qa→Option ((List Int))} {Qbn:(List Int)→Int→Option Bool} {Qbc:Qa→Int→Int→Option Int} {Qcr:(List Int)→Int→Option Int}
    (H_overseerref03_Empty:Qge P 57 Q1)
    (H_overseerref03_Found:Qju P 82 Qcq)
    (H_overseerref03_has:Qhk P 83 Qbn)
    (H_overseerref03_Step:Qgy P 84 Qbc)
    (H_overseerref03_index:Qjw P 85 Qcr) (hcf:Qq P c=some Qgp) (fuel:Nat):Qgo P c (Qbw Q1 Qcq Qbn Qbc Qcr fuel):=by
 intro a1 r h
 refine Qc6 hcf rfl fun Γ M hP hnt hM=>?_
 subst hP
 refine Tr.init [(0,(Qb a1))] rfl ?_
 unfold Qbw at h
 unfold Qgp
 refine sr ((Rn.box (v:=(Qb a1)) (cs:=(Qd a1)) tv rfl rfl rfl rfl rfl (Rn.alloc tv rfl (nt ((sr ((lB (v:=(Qb a1)) rfl rfl rfl rfl ?_))))))))
 obtain ⟨x3,h2,h⟩:=bnd h
 refine Rn.call (args:=[(Qb a1)]) tv rfl (H_overseerref03_Found _ _ h2) pc9 (Rn.movTO tv rfl (nt ((sr ((Rn.fldP (o':=0) tv rfl rfl (lB (v:=(l_ a1.zJ)) rfl rfl rfl rfl ?_)))))))
 obtain ⟨x5,h4,h⟩:=bnd h
 refine Rn.call (args:=[(l_ a1.zJ)]) tv rfl (H_overseerref03_Empty _ _ h4) pc9 (Rn.alloc tv rfl (Rn.storeT (v:=.agg [(l_ x5.zJ),(i_ x5.zM),.nils 1,.nils 3]) (ds:=[(l_ x5.zJ),(i_ x5.zM),.nils 1,.nils 3]) (cs':=[(l_ x5.zJ),(i_ x5.zM),.nils 1,.nils 3]) tv rfl rfl rfl rfl rfl rfl rfl (nt ((sr ((Rn.mov (v:=(l_ x3)) tv rfl (Rn.lenD tv rfl (Rn.fldP (o':=1) tv rfl rfl (Rn.store (v:=(i_ (x3.length:Int))) (cs':=[(l_ x5.zJ),(i_ (x3.length:Int)),.nils 1,.nils 3]) tv rfl rfl rfl rfl rfl rfl (Rn.nil (toN ?_))))))))))))
 refine Tr.cutB (fun ((c42,c43,c44,out45,out46):(List Int)×(List Int)×(List Qc)×(List Int)×(List Qc))=>⟨look [(2,.ptr (Γ.n0+2) 0),(4,.ptr (Γ.n0+4) 0)],Qm Γ.n0 (bxs [(1,.cells ((Qd a1))),(2,.cells ([(o_ c42),(i_ 0),(o_ c43),(Qk c44)])),(4,.cells ([(l_ x5.zJ),(i_ (x3.length:Int)),(o_ out45),(Qk out46)]))]) M,Γ.n0+71⟩) h (fun z h=>?_) (fun z h=>?_)
 ·refine sr ((md rfl (nt ((Tr.block ?_)))))
  refine Tr.loop (mk:=fun ((i6,c7,c8,c9,out10,out11):Int×(List Int)×(List Int)×(List Qc)×(List Int)×(List Qc))=>⟨look [(1,.ptr (Γ.n0+1) 0),(2,.ptr (Γ.n0+2) 0),(3,(o_ x3)),(4,.ptr (Γ.n0+4) 0),(5,(i_ i6))],Qm Γ.n0 (bxs [(1,.cells ((Qd a1))),(2,.cells ([(o_ c7),(i_ 0),(o_ c8),(Qk c9)])),(4,.cells ([(l_ x5.zJ),(i_ (x3.length:Int)),(o_ out10),(Qk out11)]))]) M,Γ.n0+71⟩) h (by exact Qj ⟨(kPtr rfl),(kPtr rfl),(sm rfl),(kPtr rfl),(sm rfl),tv⟩ ⟨bS rfl rfl rfl,⟨_,rfl,rfl,(.cons (WkV.nilsO _) (cS rfl (.cons (WkV.nilsO _) (.cons (WkV.nilsO _) .nil))))⟩,⟨_,rfl,rfl,(cS rfl (cS rfl (.cons (WkV.nilsO _) (.cons (WkV.nilsO _) .nil))))⟩,tv⟩ rfl) (fun k12 z h=>?_)
  ·obtain ⟨i6,c7,c8,c9,out10,out11⟩:=z
   replace h:_=some _:=h
   refine Tr.seq (sr ((md rfl (Rn.mov (v:=(l_ x3)) tv rfl (Rn.lenD tv rfl (Rn.bin tv rfl rfl rfl (Rn.nil (toN ?_))))))))
   refine Tr.cond rfl (fun hb13=>?_) (fun hb13=>?_)
   ·replace h:=ifT hb13 h
    refine Tr.skip (toN ?_)
    refine Tr.cutB (fun ((out40,out41):(List Int)×(List Qc))=>⟨look [(1,.ptr (Γ.n0+1) 0),(2,.ptr (Γ.n0+2) 0),(3,(o_ x3)),(4,.ptr (Γ.n0+4) 0),(5,(i_ i6))],Qm Γ.n0 (bxs [(1,.cells ((Qd a1))),(2,.cells ([(o_ c7),(i_ 0),(o_ c8),(Qk c9)])),(4,.cells ([(l_ x5.zJ),(i_ (x3.length:Int)),(o_ out40),(Qk out41)]))]) M,Γ.n0+71⟩) h (fun z h=>?_) (fun z h=>?_)
    ·refine Tr.block ?_
     refine Tr.cutB (fun (out21:List Int)=>⟨look [(1,.ptr (Γ.n0+1) 0),(2,.ptr (Γ.n0+2) 0),(3,(o_ x3)),(4,.ptr (Γ.n0+4) 0),(5,(i_ i6))],Qm Γ.n0 (bxs [(1,.cells ((Qd a1))),(2,.cells ([(o_ c7),(i_ 0),(o_ c8),(Qk c9)])),(4,.cells ([(l_ x5.zJ),(i_ (x3.length:Int)),(o_ out21),(Qk out11)]))]) M,Γ.n0+71⟩) h (fun z h=>?_) (fun z h=>?_)
     ·refine Tr.seq ?_
      refine Tr.rgnD (by decide) ?_
      refine Rn.fldP (o':=2) tv rfl rfl (lB (v:=(l_ a1.zK)) rfl rfl rfl rfl (Rn.mov (v:=(l_ x3)) tv rfl (md rfl ?_)))
      obtain ⟨x14,h15,h⟩:=bnd h
      refine Rn.idxD (e:=(eI .i64)) tv rfl rfl h15 (Rn.loadC (x:=.int .i64 x14) tv rfl ?_)
      obtain ⟨x17,h16,h⟩:=bnd h
      refine Rn.call (args:=[(l_ a1.zK),(i_ x14)]) tv rfl (H_overseerref03_has _ _ _ h16) pc0 ?_
      refine Rn.nil ⟨rfl,?_⟩
      refine toN ?_
      refine Tr.cond rfl (fun hb18=>?_) (fun hb18=>?_)
      ·replace h:=bT hb18 h
       refine Tr.rgn (Rn.fldP (o':=2) tv rfl rfl (Rn.loadT (cs':=[(l_ x5.zJ),(i_ (x3.length:Int)),(l_ out10),(Qk out11)]) tv rfl rfl rfl rfl (md rfl (Rn.bslice (xs:=[(i_ i6)]) (cs:=[(i_ i6)]) tv rfl rfl rfl rfl ?_))))
       obtain ⟨x19,h20,h⟩:=bnd h
       refine Rn.app (e:=(eI .i64)) tv rfl rfl rfl (Qcl rfl rfl rfl) h20 rfl (Rn.fldP (o':=2) tv rfl rfl (Rn.storeO (cs':=[(l_ x5.zJ),(i_ (x3.length:Int)),(o_ x19),(Qk out11)]) tv rfl rfl rfl rfl rfl (Rn.nil ?_)))
       replace h:=si h; subst h
       exact Qg [32] ⟨(kPtr rfl),(kPtr rfl),(sm rfl),(kPtr rfl),(sm rfl),tv⟩ ⟨bS rfl rfl rfl,bS rfl rfl rfl,bS rfl rfl rfl,tv⟩ rfl
      ·replace h:=bF hb18 h
       refine Tr.skip ?_
       replace h:=si h; subst h
       exact Qg [] ⟨(kPtr rfl),(kPtr rfl),(sm rfl),(kPtr rfl),(sm rfl),tv⟩ ⟨bS rfl rfl rfl,bS rfl rfl rfl,bS rfl rfl rfl,tv⟩ rfl
     ·obtain ⟨out21,rfl⟩ : ∃ x,x=z:=⟨_,rfl⟩
      refine sr ((md rfl (nt ((Tr.block ?_)))))
      refine Tr.loop (mk:=fun ((k22,out23):Int×(List Qc))=>⟨look [(1,.ptr (Γ.n0+1) 0),(2,.ptr (Γ.n0+2) 0),(3,(o_ x3)),(4,.ptr (Γ.n0+4) 0),(5,(i_ i6)),(6,(i_ k22))],Qm Γ.n0 (bxs [(1,.cells ((Qd a1))),(2,.cells ([(o_ c7),(i_ 0),(o_ c8),(Qk c9)])),(4,.cells ([(l_ x5.zJ),(i_ (x3.length:Int)),(o_ out21),(Qk out23)]))]) M,Γ.n0+71⟩) h (by exact Qj ⟨(kPtr rfl),(kPtr rfl),(sm rfl),(kPtr rfl),(sm rfl),(sm rfl),tv⟩ ⟨bS rfl rfl rfl,bS rfl rfl rfl,bS rfl rfl rfl,tv⟩ rfl) (fun k24 z h=>?_)
      ·obtain ⟨k22,out23⟩:=z
       replace h:_=some _:=h
       refine Tr.seq (sr ((md rfl (Rn.fldP (o':=0) tv rfl rfl (lB (v:=(l_ a1.zJ)) rfl rfl rfl rfl (Rn.lenD tv rfl (Rn.bin tv rfl rfl rfl (Rn.nil (toN ?_)))))))))
       refine Tr.cond rfl (fun hb25=>?_) (fun hb25=>?_)
       ·replace h:=ifT hb25 h
        refine Tr.skip (toN ?_)
        refine Tr.cutB (fun (out39:List Qc)=>⟨look [(1,.ptr (Γ.n0+1) 0),(2,.ptr (Γ.n0+2) 0),(3,(o_ x3)),(4,.ptr (Γ.n0+4) 0),(5,(i_ i6)),(6,(i_ k22))],Qm Γ.n0 (bxs [(1,.cells ((Qd a1))),(2,.cells ([(o_ c7),(i_ 0),(o_ c8),(Qk c9)])),(4,.cells ([(l_ x5.zJ),(i_ (x3.length:Int)),(o_ out21),(Qk out39)]))]) M,Γ.n0+71⟩) h (fun z h=>?_) (fun z h=>?_)
        ·refine Tr.block (Tr.seq ?_)
         refine Tr.rgnD (by decide) ?_
         refine lB (v:=(Qb a1)) rfl rfl rfl rfl (Rn.mov (v:=(l_ x3)) tv rfl (md rfl ?_))
         obtain ⟨x26,h27,h⟩:=bnd h
         refine Rn.idxD (e:=(eI .i64)) tv rfl rfl h27 (Rn.loadC (x:=.int .i64 x26) tv rfl (Rn.fldP (o':=0) tv rfl rfl (lB (v:=(l_ a1.zJ)) rfl rfl rfl rfl (md rfl ?_))))
         obtain ⟨x28,h29,h⟩:=bnd h
         refine Rn.idxD (e:=(eI .i64)) tv rfl rfl h29 (Rn.loadC (x:=.int .i64 x28) tv rfl ?_)
         obtain ⟨x31,h30,h⟩:=bnd h
         refine Rn.call (args:=[(Qb a1),(i_ x26),(i_ x28)]) tv rfl (H_overseerref03_Step _ _ _ _ h30) pc0 (md rfl ?_)
         refine Rn.nil ⟨rfl,?_⟩
         refine toN (sr ((md rfl (Rn.bin tv rfl rfl rfl (Rn.nil (toN ?_))))))
         refine Tr.cond rfl (fun hb32=>?_) (fun hb32=>?_)
         ·replace h:=ifT hb32 h
          refine Tr.rgnD (by decide) ?_
          refine Rn.fldP (o':=3) tv rfl rfl (Rn.loadT (cs':=[(l_ x5.zJ),(i_ (x3.length:Int)),(o_ out21),(Qe out23)]) tv rfl rfl rfl rfl (md rfl (Rn.fldP (o':=0) tv rfl rfl (lB (v:=(l_ a1.zJ)) rfl rfl rfl rfl (md rfl ?_)))))
          obtain ⟨x33,h34,h⟩:=bnd h
          refine Rn.idxD (e:=(eI .i64)) tv rfl rfl h34 (Rn.loadC (x:=.int .i64 x33) tv rfl (Rn.mov (v:=(l_ x3)) tv rfl (md rfl ?_)))
          obtain ⟨x36,h35,h⟩:=bnd h
          refine Rn.call (args:=[(l_ x3),(i_ x31)]) tv rfl (H_overseerref03_index _ _ _ h35) pc2 (Rn.build (v:=.agg [(i_ i6),(i_ x33),(i_ x36)]) tv rfl (Rn.bslice (xs:=[.agg [(i_ i6),(i_ x33),(i_ x36)]]) (cs:=[(i_ i6),(i_ x33),(i_ x36)]) tv rfl rfl rfl rfl ?_))
          obtain ⟨x37,h38,h⟩:=bnd h
          refine Rn.app (e:=Qv) tv rfl rfl rfl (Qcl rfl rfl rfl) h38 rfl (Rn.fldP (o':=3) tv rfl rfl (Rn.storeO (cs':=[(l_ x5.zJ),(i_ (x3.length:Int)),(o_ out21),(Qk x37)]) tv rfl rfl rfl rfl rfl ?_))
          refine Rn.nil ⟨rfl,?_⟩
          replace h:=si h; subst h
          exact Qg [67] ⟨(kPtr rfl),(kPtr rfl),(sm rfl),(kPtr rfl),(sm rfl),(sm rfl),tv⟩ ⟨bS rfl rfl rfl,bS rfl rfl rfl,bS rfl rfl rfl,tv⟩ rfl
         ·replace h:=ifF hb32 h
          refine Tr.skip ?_
          replace h:=si h; subst h
          exact Qg [] ⟨(kPtr rfl),(kPtr rfl),(sm rfl),(kPtr rfl),(sm rfl),(sm rfl),tv⟩ ⟨bS rfl rfl rfl,bS rfl rfl rfl,bS rfl rfl rfl,tv⟩ rfl
        ·obtain ⟨out39,rfl⟩ : ∃ x,x=z:=⟨_,rfl⟩
         refine Tr.rgn (md rfl (Rn.bin tv rfl rfl rfl (md rfl (Rn.nil ?_))))
         exact ⟨_,h,(by exact Qj ⟨(kPtr rfl),(kPtr rfl),(sm rfl),(kPtr rfl),(sm rfl),(sm rfl),tv⟩ ⟨bS rfl rfl rfl,bS rfl rfl rfl,bS rfl rfl rfl,tv⟩ rfl)⟩
       ·replace h:=ifF hb25 h
        refine Tr.exit ?_
        replace h:=si h; subst h
        exact Qg [] ⟨(kPtr rfl),(kPtr rfl),(sm rfl),(kPtr rfl),(sm rfl),tv⟩ ⟨bS rfl rfl rfl,bS rfl rfl rfl,bS rfl rfl rfl,tv⟩ rfl
    ·obtain ⟨out40,out41⟩:=z
     refine Tr.rgn (md rfl (Rn.bin tv rfl rfl rfl (md rfl (Rn.nil ?_))))
     exact ⟨_,h,(by exact Qj ⟨(kPtr rfl),(kPtr rfl),(sm rfl),(kPtr rfl),(sm rfl),tv⟩ ⟨bS rfl rfl rfl,bS rfl rfl rfl,bS rfl rfl rfl,tv⟩ rfl)⟩
   ·replace h:=ifF hb13 h
    refine Tr.exit ?_
    replace h:=si h; subst h
    exact Qg [] ⟨(kPtr rfl),(kPtr rfl),tv⟩ ⟨bS rfl rfl rfl,bS rfl rfl rfl,bS rfl rfl rfl,tv⟩ rfl
 ·obtain ⟨c42,c43,c44,out45,out46⟩:=z
  refine sr ((lB (v:=.agg [(l_ x5.zJ),(i_ (x3.length:Int)),(l_ out45),(Qe out46)]) rfl rfl rfl rfl (Rn.storeT (v:=.agg [(l_ x5.zJ),(i_ (x3.length:Int)),(l_ out45),(Qe out46)]) (ds:=[(l_ x5.zJ),(i_ (x3.length:Int)),(l_ out45),(Qe out46)]) (cs':=[(l_ x5.zJ),(i_ (x3.length:Int)),(l_ out45),(Qe out46)]) tv rfl rfl rfl rfl rfl rfl rfl (nt ((Tr.ret ?_))))))
  replace h:=si h; subst h
  exact ⟨.inr rfl,(.agg [(l_ x5.zJ),(i_ (x3.length:Int)),(l_ out45),(Qe out46)]),Qfh rfl rfl rfl rfl,fun _ _ _ _ h=>h,⟨tv,tv,tv,tv,tv⟩,mB⟩
theorem Q2g {P:Program} {c:Nat} {Q1:(List Int)→Option Qa} {Qbw:Qa→Option Qa}
    (H_overseerref03_Empty:Qge P 57 Q1)
    (H_overseerref03_Canonical:Qgo P 58 Qbw) (hcf:Qq P c=some Qkg) (fuel:Nat):Qkf P c (Qcz Q1 Qbw fuel):=by
 intro alphabet1 g2 r h
 refine Qc6 hcf rfl fun Γ M hP hnt hM=>?_
 subst hP
 refine Tr.init [(0,(l_ alphabet1)),(1,(Qgc g2))] rfl ?_
 unfold Qcz at h
 unfold Qkg
 refine sr ((Rn.box (v:=(Qgc g2)) (cs:=(Qcb g2)) tv rfl rfl rfl rfl rfl (Rn.alloc tv rfl (nt ((Tr.seq (sr ((Rn.fldP (o':=0) tv rfl rfl (lB (v:=.d (.int .u8 g2.zM)) rfl rfl rfl rfl (Rn.bin tv rfl rfl rfl (Rn.nil (toN ?_)))))))))))))
 refine Tr.cond rfl (fun hb3=>?_) (fun hb3=>?_)
 ·replace h:=ifT hb3 h
  refine sr ((md rfl ?_))
  obtain ⟨x5,h4,h⟩:=bnd h
  refine Rn.call (args:=[(l_ alphabet1)]) tv rfl (H_overseerref03_Empty _ _ h4) pc9 (Rn.storeT (v:=.agg [(l_ x5.zJ),(i_ x5.zM),.nils 1,.nils 3]) (ds:=[(l_ x5.zJ),(i_ x5.zM),.nils 1,.nils 3]) (cs':=[(l_ x5.zJ),(i_ x5.zM),.nils 1,.nils 3]) tv rfl rfl rfl rfl rfl rfl rfl (nt ((Tr.ret ?_))))
  replace h:=si h; subst h
  exact ⟨.inr rfl,(.agg [(l_ x5.zJ),(i_ x5.zM),.nils 1,.nils 3]),Qfh rfl rfl rfl rfl,(WkV.agg (.cons (.same rfl) (.cons (.same rfl) (.cons (WkV.nilsD _) (.cons (WkV.nilsD _) .nil))))).rd,⟨tv,tv,tv,tv,tv⟩,mB⟩
 ·replace h:=ifF hb3 h
  refine Tr.skip (toN (sr ((md rfl ?_))))
  obtain ⟨x7,h6,h⟩:=bnd h
  refine Rn.call (args:=[(l_ alphabet1)]) tv rfl (H_overseerref03_Empty _ _ h6) pc9 (Rn.alloc tv rfl (Rn.storeT (v:=.agg [(l_ x7.zJ),(i_ x7.zM),.nils 1,.nils 3]) (ds:=[(l_ x7.zJ),(i_ x7.zM),.nils 1,.nils 3]) (cs':=[(l_ x7.zJ),(i_ x7.zM),.nils 1,.nils 3]) tv rfl rfl rfl rfl rfl rfl rfl (nt ((sr ((Rn.fldP (o':=0) tv rfl rfl (lB (v:=.d (.int .u8 g2.zM)) rfl rfl rfl rfl (Rn.bin tv rfl rfl rfl (Rn.conv tv rfl (Rn.bin tv rfl rfl rfl (Rn.fldP (o':=1) tv rfl rfl (Rn.store (v:=(i_ (IntKind.wrap .i64 (1+(IntKind.wrap .i64 (Int.tmod g2.zM 5)))))) (cs':=[(l_ x7.zJ),(i_ (IntKind.wrap .i64 (1+(IntKind.wrap .i64 (Int.tmod g2.zM 5))))),.nils 1,.nils 3]) tv rfl rfl rfl rfl rfl rfl (Rn.nil (toN ?_)))))))))))))))
  refine Tr.cutB (fun ((c43,c44,c45,a46,a47,a48):(List Int)×(List Int)×(List Qc)×Int×(List Int)×(List Qc))=>⟨look [(4,.ptr (Γ.n0+4) 0),(5,.ptr (Γ.n0+5) 0)],Qm Γ.n0 (bxs [(3,.cells ((Qcb g2))),(4,.cells ([(o_ c43),(i_ 0),(o_ c44),(Qk c45)])),(5,.cells ([(l_ x7.zJ),(i_ a46),(o_ a47),(Qk a48)]))]) M,Γ.n0+79⟩) h (fun z h=>?_) (fun z h=>?_)
  ·refine sr ((md rfl (nt ((Tr.block ?_)))))
   refine Tr.loop (mk:=fun ((i8,c9,c10,c11,a12,a13,a14):Int×(List Int)×(List Int)×(List Qc)×Int×(List Int)×(List Qc))=>⟨look [(0,(l_ alphabet1)),(3,.ptr (Γ.n0+3) 0),(4,.ptr (Γ.n0+4) 0),(5,.ptr (Γ.n0+5) 0),(6,(i_ i8))],Qm Γ.n0 (bxs [(3,.cells ((Qcb g2))),(4,.cells ([(o_ c9),(i_ 0),(o_ c10),(Qk c11)])),(5,.cells ([(l_ x7.zJ),(i_ a12),(o_ a13),(Qk a14)]))]) M,Γ.n0+79⟩) h (by exact Qj ⟨(sm rfl),(kPtr rfl),(kPtr rfl),(kPtr rfl),(sm rfl),tv⟩ ⟨bS rfl rfl rfl,⟨_,rfl,rfl,(.cons (WkV.nilsO _) (cS rfl (.cons (WkV.nilsO _) (.cons (WkV.nilsO _) .nil))))⟩,⟨_,rfl,rfl,(cS rfl (cS rfl (.cons (WkV.nilsO _) (.cons (WkV.nilsO _) .nil))))⟩,tv⟩ rfl) (fun k15 z h=>?_)
   ·obtain ⟨i8,c9,c10,c11,a12,a13,a14⟩:=z
    replace h:_=some _:=h
    refine Tr.seq (sr ((md rfl (Rn.fldP (o':=1) tv rfl rfl (lB (v:=(i_ a12)) rfl rfl rfl rfl (Rn.bin tv rfl rfl rfl (Rn.nil (toN ?_))))))))
    refine Tr.cond rfl (fun hb16=>?_) (fun hb16=>?_)
    ·replace h:=ifT hb16 h
     refine Tr.skip (toN ?_)
     refine Tr.cutB (fun ((a41,a42):(List Int)×(List Qc))=>⟨look [(0,(l_ alphabet1)),(3,.ptr (Γ.n0+3) 0),(4,.ptr (Γ.n0+4) 0),(5,.ptr (Γ.n0+5) 0),(6,(i_ i8))],Qm Γ.n0 (bxs [(3,.cells ((Qcb g2))),(4,.cells ([(o_ c9),(i_ 0),(o_ c10),(Qk c11)])),(5,.cells ([(l_ x7.zJ),(i_ a12),(o_ a41),(Qk a42)]))]) M,Γ.n0+79⟩) h (fun z h=>?_) (fun z h=>?_)
     ·refine Tr.block ?_
      refine Tr.cutB (fun (a22:List Int)=>⟨look [(0,(l_ alphabet1)),(3,.ptr (Γ.n0+3) 0),(4,.ptr (Γ.n0+4) 0),(5,.ptr (Γ.n0+5) 0),(6,(i_ i8))],Qm Γ.n0 (bxs [(3,.cells ((Qcb g2))),(4,.cells ([(o_ c9),(i_ 0),(o_ c10),(Qk c11)])),(5,.cells ([(l_ x7.zJ),(i_ a12),(o_ a22),(Qk a14)]))]) M,Γ.n0+79⟩) h (fun z h=>?_) (fun z h=>?_)
      ·refine sr ((Rn.fldP (o':=1) tv rfl rfl (lB (v:=.d (.int .u8 g2.Marks)) rfl rfl rfl rfl (md rfl ?_))))
       obtain ⟨s17,h18,h⟩:=bnd h
       refine Rn.bin tv rfl rfl (Qbod h18) (Rn.bin tv rfl rfl rfl (Rn.bin tv rfl rfl rfl (Rn.nil (toN ?_))))
       refine Tr.cond rfl (fun hb19=>?_) (fun hb19=>?_)
       ·replace h:=bT hb19 h
        refine Tr.rgn (Rn.fldP (o':=2) tv rfl rfl (Rn.loadT (cs':=[(l_ x7.zJ),(i_ a12),(l_ a13),(Qk a14)]) tv rfl rfl rfl rfl (md rfl (Rn.bslice (xs:=[(i_ i8)]) (cs:=[(i_ i8)]) tv rfl rfl rfl rfl ?_))))
        obtain ⟨x20,h21,h⟩:=bnd h
        refine Rn.app (e:=(eI .i64)) tv rfl rfl rfl (Qcl rfl rfl rfl) h21 rfl (Rn.fldP (o':=2) tv rfl rfl (Rn.storeO (cs':=[(l_ x7.zJ),(i_ a12),(o_ x20),(Qk a14)]) tv rfl rfl rfl rfl rfl (Rn.nil ?_)))
        replace h:=si h; subst h
        exact Qg [37] ⟨(sm rfl),(kPtr rfl),(kPtr rfl),(kPtr rfl),(sm rfl),tv⟩ ⟨bS rfl rfl rfl,bS rfl rfl rfl,bS rfl rfl rfl,tv⟩ rfl
       ·replace h:=bF hb19 h
        refine Tr.skip ?_
        replace h:=si h; subst h
        exact Qg [] ⟨(sm rfl),(kPtr rfl),(kPtr rfl),(kPtr rfl),(sm rfl),tv⟩ ⟨bS rfl rfl rfl,bS rfl rfl rfl,bS rfl rfl rfl,tv⟩ rfl
      ·obtain ⟨a22,rfl⟩ : ∃ x,x=z:=⟨_,rfl⟩
       refine sr ((md rfl (nt ((Tr.block ?_)))))
       refine Tr.loop (mk:=fun ((k23,a24):Int×(List Qc))=>⟨look [(0,(l_ alphabet1)),(3,.ptr (Γ.n0+3) 0),(4,.ptr (Γ.n0+4) 0),(5,.ptr (Γ.n0+5) 0),(6,(i_ i8)),(7,(i_ k23))],Qm Γ.n0 (bxs [(3,.cells ((Qcb g2))),(4,.cells ([(o_ c9),(i_ 0),(o_ c10),(Qk c11)])),(5,.cells ([(l_ x7.zJ),(i_ a12),(o_ a22),(Qk a24)]))]) M,Γ.n0+79⟩) h (by exact Qj ⟨(sm rfl),(kPtr rfl),(kPtr rfl),(kPtr rfl),(sm rfl),(sm rfl),tv⟩ ⟨bS rfl rfl rfl,bS rfl rfl rfl,bS rfl rfl rfl,tv⟩ rfl) (fun k25 z h=>?_)
       ·obtain ⟨k23,a24⟩:=z
        replace h:_=some _:=h
        refine Tr.seq ?_
        refine Tr.cutB (fun (x27:Bool)=>⟨look [(0,(l_ alphabet1)),(3,.ptr (Γ.n0+3) 0),(4,.ptr (Γ.n0+4) 0),(5,.ptr (Γ.n0+5) 0),(6,(i_ i8)),(7,(i_ k23)),(47,(b_ x27))],Qm Γ.n0 (bxs [(3,.cells ((Qcb g2))),(4,.cells ([(o_ c9),(i_ 0),(o_ c10),(Qk c11)])),(5,.cells ([(l_ x7.zJ),(i_ a12),(o_ a22),(Qk a24)]))]) M,Γ.n0+79⟩) h (fun z h=>?_) (fun z h=>?_)
        ·refine Tr.rgn (md rfl (md rfl (Rn.lenD tv rfl (Rn.bin tv rfl rfl rfl (md rfl ?_)))))
         refine Qbz (decide (k23 < (alphabet1.length:Int))) (fun hb26=>?_) (fun hb26=>?_)
         ·replace h:=ifT hb26 h
          refine Rn.movD (gw rfl hb26) rfl (Rn.bin (gw rfl hb26) rfl rfl rfl (Rn.pickT (v:=(b_ (decide (k23 < 5)))) tv rfl hb26 rfl (Rn.nil ?_)))
          replace h:=si h; subst h
          exact Qg [] ⟨(sm rfl),(kPtr rfl),(kPtr rfl),(kPtr rfl),(sm rfl),(sm rfl),(sm rfl),tv⟩ ⟨bS rfl rfl rfl,bS rfl rfl rfl,bS rfl rfl rfl,tv⟩ rfl
         ·replace h:=ifF hb26 h
          refine Rn.sk (nw rfl hb26) (Rn.sk (nw rfl hb26) (Rn.pickF (v:=(b_ false)) tv rfl hb26 rfl (Rn.nil ?_)))
          replace h:=si h; subst h
          exact Qg [] ⟨(sm rfl),(kPtr rfl),(kPtr rfl),(kPtr rfl),(sm rfl),(sm rfl),(sm rfl),tv⟩ ⟨bS rfl rfl rfl,bS rfl rfl rfl,bS rfl rfl rfl,tv⟩ rfl
        ·obtain ⟨x27,rfl⟩ : ∃ x,x=z:=⟨_,rfl⟩
         refine Tr.cond rfl (fun hb28=>?_) (fun hb28=>?_)
         ·replace h:=bT hb28 h
          refine Tr.skip (toN ?_)
          refine Tr.cutB (fun (a40:List Qc)=>⟨look [(0,(l_ alphabet1)),(3,.ptr (Γ.n0+3) 0),(4,.ptr (Γ.n0+4) 0),(5,.ptr (Γ.n0+5) 0),(6,(i_ i8)),(7,(i_ k23))],Qm Γ.n0 (bxs [(3,.cells ((Qcb g2))),(4,.cells ([(o_ c9),(i_ 0),(o_ c10),(Qk c11)])),(5,.cells ([(l_ x7.zJ),(i_ a12),(o_ a22),(Qk a40)]))]) M,Γ.n0+79⟩) h (fun z h=>?_) (fun z h=>?_)
          ·refine Tr.block (Tr.seq ?_)
           refine Tr.rgnD (by decide) ?_
           refine md rfl (md rfl (Rn.fldP (o':=2) tv rfl rfl ?_))
           obtain ⟨⟨⟩,h29,h⟩:=bnd h
           refine Rn.idxArr (o':=2+(Int.toNat i8 * 5)) tv rfl rfl rfl h29 ?_
           obtain ⟨⟨⟩,h30,h⟩:=bnd h
           refine Rn.idxArr (o':=2+(Int.toNat i8 * 5+Int.toNat k23 * 1)) tv rfl rfl (Nat.add_assoc ..).symm h30 ?_
           obtain ⟨x31,h32,h⟩:=bnd h
           refine Rn.loadArr (e:=(fun (z:Int)=>.int .u8 z)) (pre:=[.d (.int .u8 g2.zM),.d (.int .u8 g2.Marks)]) (post:=[]) tv rfl rfl (Q6 rfl) rfl rfl h32 (Rn.conv tv rfl (Rn.fldP (o':=1) tv rfl rfl (lB (v:=(i_ a12)) rfl rfl rfl rfl (Rn.bin tv rfl rfl rfl ?_))))
           obtain ⟨s33,h34,h⟩:=bnd h
           refine Rn.bin tv rfl rfl (Qbrq h34) (md rfl ?_)
           refine Rn.nil ⟨rfl,?_⟩
           refine toN (sr ((md rfl (Rn.fldP (o':=1) tv rfl rfl (lB (v:=(i_ a12)) rfl rfl rfl rfl (Rn.bin tv rfl rfl rfl (Rn.nil (toN ?_))))))))
           refine Tr.cond rfl (fun hb35=>?_) (fun hb35=>?_)
           ·replace h:=ifT hb35 h
            refine Tr.rgnD (by decide) ?_
            refine Rn.fldP (o':=3) tv rfl rfl (Rn.loadT (cs':=[(l_ x7.zJ),(i_ a12),(o_ a22),(Qe a24)]) tv rfl rfl rfl rfl (md rfl (md rfl (md rfl ?_))))
            obtain ⟨x36,h37,h⟩:=bnd h
            refine Rn.idxD (e:=(eI .i64)) tv rfl rfl h37 (Rn.loadC (x:=.int .i64 x36) tv rfl (md rfl (Rn.build (v:=.agg [(i_ i8),(i_ x36),(i_ s33)]) tv rfl (Rn.bslice (xs:=[.agg [(i_ i8),(i_ x36),(i_ s33)]]) (cs:=[(i_ i8),(i_ x36),(i_ s33)]) tv rfl rfl rfl rfl ?_))))
            obtain ⟨x38,h39,h⟩:=bnd h
            refine Rn.app (e:=Qv) tv rfl rfl rfl (Qcl rfl rfl rfl) h39 rfl (Rn.fldP (o':=3) tv rfl rfl (Rn.storeO (cs':=[(l_ x7.zJ),(i_ a12),(o_ a22),(Qk x38)]) tv rfl rfl rfl rfl rfl ?_))
            refine Rn.nil ⟨rfl,?_⟩
            replace h:=si h; subst h
            exact Qg [74] ⟨(sm rfl),(kPtr rfl),(kPtr rfl),(kPtr rfl),(sm rfl),(sm rfl),tv⟩ ⟨bS rfl rfl rfl,bS rfl rfl rfl,bS rfl rfl rfl,tv⟩ rfl
           ·replace h:=ifF hb35 h
            refine Tr.skip ?_
            replace h:=si h; subst h
            exact Qg [] ⟨(sm rfl),(kPtr rfl),(kPtr rfl),(kPtr rfl),(sm rfl),(sm rfl),tv⟩ ⟨bS rfl rfl rfl,bS rfl rfl rfl,bS rfl rfl rfl,tv⟩ rfl
          ·obtain ⟨a40,rfl⟩ : ∃ x,x=z:=⟨_,rfl⟩
           refine Tr.rgn (md rfl (Rn.bin tv rfl rfl rfl (md rfl (Rn.nil ?_))))
           exact ⟨_,h,(by exact Qj ⟨(sm rfl),(kPtr rfl),(kPtr rfl),(kPtr rfl),(sm rfl),(sm rfl),tv⟩ ⟨bS rfl rfl rfl,bS rfl rfl rfl,bS rfl rfl rfl,tv⟩ rfl)⟩
         ·replace h:=bF hb28 h
          refine Tr.exit ?_
          replace h:=si h; subst h
          exact Qg [] ⟨(sm rfl),(kPtr rfl),(kPtr rfl),(kPtr rfl),(sm rfl),tv⟩ ⟨bS rfl rfl rfl,bS rfl rfl rfl,bS rfl rfl rfl,tv⟩ rfl
     ·obtain ⟨a41,a42⟩:=z
      refine Tr.rgn (md rfl (Rn.bin tv rfl rfl rfl (md rfl (Rn.nil ?_))))
      exact ⟨_,h,(by exact Qj ⟨(sm rfl),(kPtr rfl),(kPtr rfl),(kPtr rfl),(sm rfl),tv⟩ ⟨bS rfl rfl rfl,bS rfl rfl rfl,bS rfl rfl rfl,tv⟩ rfl)⟩
    ·replace h:=ifF hb16 h
     refine Tr.exit ?_
     replace h:=si h; subst h
     exact Qg [] ⟨(kPtr rfl),(kPtr rfl),tv⟩ ⟨bS rfl rfl rfl,bS rfl rfl rfl,bS rfl rfl rfl,tv⟩ rfl
  ·obtain ⟨c43,c44,c45,a46,a47,a48⟩:=z
   refine sr ((lB (v:=.agg [(l_ x7.zJ),(i_ a46),(l_ a47),(Qe a48)]) rfl rfl rfl rfl ?_))
   obtain ⟨x50,h49,h⟩:=bnd h
   refine Rn.call (args:=[.agg [(l_ x7.zJ),(i_ a46),(l_ a47),(Qe a48)]]) tv rfl (H_overseerref03_Canonical _ _ h49) pc9 (Rn.storeT (v:=(Qb x50)) (ds:=(Qd x50)) (cs':=(Qd x50)) tv rfl rfl rfl rfl rfl rfl rfl (nt ((Tr.ret ?_))))
   replace h:=si h; subst h
   exact ⟨.inr rfl,(Qb x50),Qfh rfl rfl rfl rfl,fun _ _ _ _ h=>h,⟨tv,tv,tv,tv,tv⟩,mB⟩
theorem Q2h {P:Program} {c:Nat} {Qcz:(List Int)→Qbs→Option Qa} {Qb9:Int→Option ((List Int))}
    (H_overseerlaw03_Make:Qkf P 24 Qcz)
    (H_overseerlaw03_Set_Events:Qf7 P 25 Qb9) (hcf:Qq P c=some Qki) (fuel:Nat):Qkh P c (Qc0 Qcz Qb9 fuel):=by
 intro l1 r h
 refine Qc6 hcf rfl fun Γ M hP hnt hM=>?_
 subst hP
 refine Tr.init [(0,(Qbu l1))] rfl ?_
 unfold Qc0 at h
 unfold Qki
 refine sr ((Rn.movTC (v:=.nils 4) tv (nt ((sr ((Rn.movTC (v:=.nils 4) tv (Rn.nil (toN ?_)))))))))
 refine Tr.cutB (fun (out18:List Qa)=>⟨look [(3,(Qda out18))],Qm Γ.n0 (bxs []) M,Γ.n0+31⟩) h (fun z h=>?_) (fun z h=>?_)
 ·refine sr ((md rfl (nt ((Tr.block ?_)))))
  refine Tr.loop (mk:=fun ((out2,i3):(List Qa)×Int)=>⟨look [(0,(Qbu l1)),(3,(Qda out2)),(4,(i_ i3))],Qm Γ.n0 (bxs []) M,Γ.n0+31⟩) h (by exact Qj ⟨(sm rfl),(WkV.nilsO _),(sm rfl),tv⟩ tv rfl) (fun k4 z h=>?_)
  ·obtain ⟨out2,i3⟩:=z
   replace h:_=some _:=h
   refine Tr.seq ?_
   refine Tr.cutB (fun (x6:Bool)=>⟨look [(0,(Qbu l1)),(3,(Qda out2)),(4,(i_ i3)),(12,(b_ x6))],Qm Γ.n0 (bxs []) M,Γ.n0+31⟩) h (fun z h=>?_) (fun z h=>?_)
   ·refine Tr.rgn (md rfl (md rfl (Rn.lenD tv rfl (Rn.bin tv rfl rfl rfl (md rfl ?_)))))
    refine Qbz (decide (i3 < (l1.length:Int))) (fun hb5=>?_) (fun hb5=>?_)
    ·replace h:=ifT hb5 h
     refine Rn.movD (gw rfl hb5) rfl (Rn.bin (gw rfl hb5) rfl rfl rfl (Rn.pickT (v:=(b_ (decide (i3 < 3)))) tv rfl hb5 rfl (Rn.nil ?_)))
     replace h:=si h; subst h
     exact Qg [] ⟨(sm rfl),(sm rfl),(sm rfl),(sm rfl),tv⟩ tv rfl
    ·replace h:=ifF hb5 h
     refine Rn.sk (nw rfl hb5) (Rn.sk (nw rfl hb5) (Rn.pickF (v:=(b_ false)) tv rfl hb5 rfl (Rn.nil ?_)))
     replace h:=si h; subst h
     exact Qg [] ⟨(sm rfl),(sm rfl),(sm rfl),(sm rfl),tv⟩ tv rfl
   ·obtain ⟨x6,rfl⟩ : ∃ x,x=z:=⟨_,rfl⟩
    refine Tr.cond rfl (fun hb7=>?_) (fun hb7=>?_)
    ·replace h:=bT hb7 h
     refine Tr.skip (toN (Tr.seq (Tr.block ?_)))
     refine Tr.rgnD (by decide) ?_
     refine Rn.movTO tv rfl (md rfl (md rfl ?_))
     obtain ⟨x8,h9,h⟩:=bnd h
     refine Rn.idxD (e:=Qdt) tv rfl rfl h9 (Rn.fldC tv rfl (Rn.loadC (x:=.int .u8 x8.Events) tv rfl ?_))
     obtain ⟨x11,h10,h⟩:=bnd h
     refine Rn.call (args:=[.d (.int .u8 x8.Events)]) tv rfl (H_overseerlaw03_Set_Events _ _ h10) (fun _=>Qbfg hM rfl) (md rfl (md rfl ?_))
     obtain ⟨x12,h13,h⟩:=bnd h
     refine Rn.idxD (e:=Qdt) tv rfl rfl h13 (Rn.fldC tv rfl (Rn.loadCA (vs:=(Qcb x12.Graph)) tv rfl rfl rfl ?_))
     obtain ⟨x15,h14,h⟩:=bnd h
     refine Rn.call (args:=[(l_ x11),(Qgc x12.Graph)]) tv rfl (H_overseerlaw03_Make _ _ _ h14) (fun _=>Qbfg hM rfl) (Rn.bslice (xs:=[(Qb x15)]) (cs:=(Qd x15)) tv rfl rfl rfl rfl ?_)
     obtain ⟨x16,h17,h⟩:=bnd h
     refine Rn.app (e:=Qr) tv rfl rfl rfl (Qcl rfl rfl rfl) h17 rfl (Rn.movTO tv rfl ?_)
     refine Rn.nil ⟨rfl,?_⟩
     refine toN (Tr.rgn (md rfl (Rn.bin tv rfl rfl rfl (md rfl (Rn.nil ?_)))))
     exact ⟨_,h,(by exact Qj ⟨(sm rfl),(sm rfl),(sm rfl),tv⟩ tv rfl)⟩
    ·replace h:=bF hb7 h
     refine Tr.exit ?_
     replace h:=si h; subst h
     exact Qg [] ⟨(sm rfl),tv⟩ tv rfl
 ·obtain ⟨out18,rfl⟩ : ∃ x,x=z:=⟨_,rfl⟩
  refine sr ((Rn.movTO tv rfl (Rn.movTO tv rfl (nt ((Tr.ret ?_))))))
  replace h:=si h; subst h
  exact ⟨.inr rfl,(Qda out18),rfl,fun _ _ _ _ h=>h,tv,mB⟩
theorem Qbbc {P:Program} {c:Nat} {Q5:Qa→Option Int}
    (H_automaton_Check:Qha P 55 Q5) (hcf:Qq P c=some Quf) (fuel:Nat):Qmz P c (Qcs Q5 fuel):=by
 intro l1 r h
 refine Qc6 hcf rfl fun Γ M hP hnt hM=>?_
 subst hP
 refine Tr.init [(0,(Qf l1))] rfl ?_
 unfold Qcs at h
 unfold Quf
 refine sr ((md rfl (nt ((Tr.seq (sr ((md rfl (Rn.lenD tv rfl (Rn.bin tv rfl rfl rfl (Rn.nil (toN ?_))))))))))))
 refine Tr.cond rfl (fun hb2=>?_) (fun hb2=>?_)
 ·replace h:=ifT hb2 h
  refine sr ((md rfl (nt ((Tr.ret ?_)))))
  replace h:=si h; subst h
  exact ⟨.inr rfl,(i_ 3),rfl,fun _ _ _ _ h=>h,tv,mB⟩
 ·replace h:=ifF hb2 h
  refine Tr.skip (toN (Tr.seq (sr ((md rfl (Rn.lenD tv rfl (md rfl (nt ((Tr.block ?_))))))))))
  refine Tr.loop (mk:=fun (x3:Int)=>⟨look [(9,(Qf l1)),(10,(i_ (l1.length:Int))),(11,(i_ x3))],Qm Γ.n0 (bxs []) M,Γ.n0+21⟩) h (by exact Qj ⟨(sm rfl),(sm rfl),(sm rfl),tv⟩ tv rfl) (fun k4 z h=>?_)
  ·obtain ⟨x3,rfl⟩ : ∃ x,x=z:=⟨_,rfl⟩
   replace h:_=some _:=h
   refine sr ((Rn.bin tv rfl rfl rfl (nt ((Tr.seq ?_)))))
   refine Tr.cond rfl (fun hb5=>?_) (fun hb5=>?_)
   ·replace h:=ifT hb5 h
    refine Tr.skip (toN (Tr.seq (Tr.block (Tr.seq (Tr.rgn ?_)))))
    obtain ⟨x6,h7,h⟩:=bnd h
    refine Rn.idxD (e:=Qr) tv rfl rfl h7 (Rn.loadCA (vs:=(Qd x6)) tv rfl rfl rfl (Rn.alloc tv rfl (Rn.storeT (v:=(Qb x6)) (ds:=(Qd x6)) (cs':=(Qd x6)) tv rfl rfl rfl rfl rfl rfl rfl (nt ((sr ((lB (v:=(Qb x6)) rfl rfl rfl rfl ?_))))))))
    obtain ⟨x9,h8,h⟩:=bnd h
    refine Rn.call (args:=[(Qb x6)]) tv rfl (H_automaton_Check _ _ h8) pc9 (md rfl (nt ((sr ((md rfl (Rn.bin tv rfl rfl rfl (Rn.nil (toN ?_)))))))))
    refine Tr.cond rfl (fun hb10=>?_) (fun hb10=>?_)
    ·replace h:=bT hb10 h
     refine sr ((md rfl (md rfl (nt ((Tr.ret ?_))))))
     replace h:=si h; subst h
     exact ⟨.inr rfl,(i_ x9),rfl,fun _ _ _ _ h=>h,tv,mB⟩
    ·replace h:=bF hb10 h
     refine Tr.skip (toN (Tr.rgn (Rn.bin tv rfl rfl rfl (md rfl (Rn.nil ?_)))))
     exact ⟨_,h,(by exact Qj ⟨(sm rfl),(sm rfl),(sm rfl),tv⟩ tv rfl)⟩
   ·replace h:=ifF hb5 h
    refine Tr.exit (toN (sr ((md rfl (nt ((Tr.ret ?_)))))))
    replace h:=si h; subst h
    exact ⟨.inr rfl,(i_ 0),rfl,fun _ _ _ _ h=>h,tv,mB⟩
theorem Q89 {P:Program} {c:Nat} (hcf:Qq P c=some Qq5) (fuel:Nat):Qku P c (Qb8 fuel):=by
 intro a1 b2 keep3 g4 cp5 r h
 intro M nb hc6 ho8 hf7
 refine Qtp hcf rfl M nb fun Γ hP hnt hn0 hM=>?_
 subst hP hn0
 refine Tr.init [(0,(l_ a1)),(1,(l_ b2)),(2,.clo g4 cp5)] rfl ?_
 unfold Qb8 at h
 unfold Qq5
 refine sr ((Rn.movTC (v:=.nils 1) tv (nt ((sr ((Rn.movTC (v:=.nils 1) tv (Rn.nil (toN ?_)))))))))
 refine Tr.cutB (fun (out51:List Int)=>⟨look [(7,(o_ out51))],Qm Γ.n0 (bxs []) M,Γ.n0+74⟩) h (fun z h=>?_) (fun z h=>?_)
 ·refine Tr.block ?_
  refine Tr.loop (mk:=fun ((a11,b12,out13):(List Int)×(List Int)×(List Int))=>⟨look [(0,(l_ a11)),(1,(l_ b12)),(2,.clo g4 cp5),(7,(o_ out13))],Qm Γ.n0 (bxs []) M,Γ.n0+74⟩) h (by exact Qj ⟨(sm rfl),(sm rfl),(kFun hM ho8),(WkV.nilsO _),tv⟩ tv rfl) (fun k14 z h=>?_)
  ·obtain ⟨a11,b12,out13⟩:=z
   replace h:_=some _:=h
   refine Tr.seq ?_
   refine Tr.cutB (fun (x16:Bool)=>⟨look [(0,(l_ a11)),(1,(l_ b12)),(2,.clo g4 cp5),(7,(o_ out13)),(18,(b_ x16))],Qm Γ.n0 (bxs []) M,Γ.n0+74⟩) h (fun z h=>?_) (fun z h=>?_)
   ·refine Tr.rgn (md rfl (Rn.lenD tv rfl (Rn.bin tv rfl rfl rfl (md rfl ?_))))
    refine Qbz (decide ((a11.length:Int) > 0)) (fun hb15=>?_) (fun hb15=>?_)
    ·replace h:=ifT hb15 h
     refine Rn.sk (nw rfl hb15) (Rn.sk (nw rfl hb15) (Rn.sk (nw rfl hb15) (Rn.pickT (v:=(b_ true)) tv rfl hb15 rfl (Rn.nil ?_))))
     replace h:=si h; subst h
     exact Qg [] ⟨(sm rfl),(sm rfl),(kFun hM ho8),(sm rfl),(sm rfl),tv⟩ tv rfl
    ·replace h:=ifF hb15 h
     refine Rn.movD (gw rfl hb15) rfl (Rn.lenD (gw rfl hb15) rfl (Rn.bin (gw rfl hb15) rfl rfl rfl (Rn.pickF (v:=(b_ (decide ((b12.length:Int) > 0)))) tv rfl hb15 rfl (Rn.nil ?_))))
     replace h:=si h; subst h
     exact Qg [] ⟨(sm rfl),(sm rfl),(kFun hM ho8),(sm rfl),(sm rfl),tv⟩ tv rfl
   ·obtain ⟨x16,rfl⟩ : ∃ x,x=z:=⟨_,rfl⟩
    refine Tr.cond rfl (fun hb17=>?_) (fun hb17=>?_)
    ·replace h:=bT hb17 h
     refine Tr.skip (toN (Tr.block ?_))
     refine Tr.cutB (fun (inA24:Bool)=>⟨look [(0,(l_ a11)),(1,(l_ b12)),(2,.clo g4 cp5),(7,(o_ out13)),(8,(b_ inA24))],Qm Γ.n0 (bxs []) M,Γ.n0+74⟩) h (fun z h=>?_) (fun z h=>?_)
     ·refine Tr.rgnD (by decide) ?_
      refine md rfl (Rn.lenD tv rfl (Rn.bin tv rfl rfl rfl (md rfl ?_)))
      refine Qbz (decide ((a11.length:Int) > 0)) (fun hb18=>?_) (fun hb18=>?_)
      ·replace h:=ifT hb18 h
       refine Rn.movD (gw rfl hb18) rfl (Rn.lenD (gw rfl hb18) rfl (Rn.bin (gw rfl hb18) rfl rfl rfl (Rn.movD (gw rfl hb18) rfl ?_)))
       refine Qbz ((b12.length:Int) == 0) (fun hb19=>?_) (fun hb19=>?_)
       ·replace h:=bT hb19 h
        refine Rn.sk (nw rfl hb19) (Rn.sk (nw rfl hb19) (Rn.sk (nw rfl hb19) (Rn.sk (nw rfl hb19) (Rn.sk (nw rfl hb19) (Rn.sk (nw rfl hb19) (Rn.sk (nw rfl hb19) (Rn.pickT (v:=(b_ true)) (gw rfl hb18) rfl hb19 rfl (Rn.pickT (v:=(b_ true)) tv rfl hb18 rfl (md rfl ?_)))))))))
        refine Rn.nil ⟨rfl,?_⟩
        replace h:=si h; subst h
        exact Qg [] ⟨(sm rfl),(sm rfl),(kFun hM ho8),(sm rfl),(sm rfl),tv⟩ tv rfl
       ·replace h:=bF hb19 h
        refine Rn.movD (gw rfl hb19) rfl ?_
        obtain ⟨x20,h21,h⟩:=bnd h
        refine Rn.idxD (e:=(eI .i64)) (gw rfl hb19) rfl rfl h21 (Rn.loadC (x:=.int .i64 x20) (gw rfl hb19) rfl (Rn.movD (gw rfl hb19) rfl ?_))
        obtain ⟨x22,h23,h⟩:=bnd h
        refine Rn.idxD (e:=(eI .i64)) (gw rfl hb19) rfl rfl h23 (Rn.loadC (x:=.int .i64 x22) (gw rfl hb19) rfl (Rn.bin (gw rfl hb19) rfl rfl rfl (Rn.pickF (v:=(b_ (decide (x20≤x22)))) (gw rfl hb18) rfl hb19 rfl (Rn.pickT (v:=(b_ (decide (x20≤x22)))) tv rfl hb18 rfl (md rfl ?_)))))
        refine Rn.nil ⟨rfl,?_⟩
        replace h:=si h; subst h
        exact Qg [] ⟨(sm rfl),(sm rfl),(kFun hM ho8),(sm rfl),(sm rfl),tv⟩ tv rfl
      ·replace h:=ifF hb18 h
       refine Rn.sk (nw rfl hb18) (Rn.sk (nw rfl hb18) (Rn.sk (nw rfl hb18) (Rn.sk (nw rfl hb18) (Rn.sk (nu rfl) (Rn.sk (nu rfl) (Rn.sk (nu rfl) (Rn.sk (nu rfl) (Rn.sk (nu rfl) (Rn.sk (nu rfl) (Rn.sk (nu rfl) (Rn.sk (nw rfl hb18) (Rn.pickF (v:=(b_ false)) tv rfl hb18 rfl (md rfl ?_)))))))))))))
       refine Rn.nil ⟨rfl,?_⟩
       replace h:=si h; subst h
       exact Qg [] ⟨(sm rfl),(sm rfl),(kFun hM ho8),(sm rfl),(sm rfl),tv⟩ tv rfl
     ·obtain ⟨inA24,rfl⟩ : ∃ x,x=z:=⟨_,rfl⟩
      refine Tr.cutB (fun (inB31:Bool)=>⟨look [(0,(l_ a11)),(1,(l_ b12)),(2,.clo g4 cp5),(7,(o_ out13)),(8,(b_ inA24)),(9,(b_ inB31))],Qm Γ.n0 (bxs []) M,Γ.n0+74⟩) h (fun z h=>?_) (fun z h=>?_)
      ·refine Tr.rgnD (by decide) ?_
       refine md rfl (Rn.lenD tv rfl (Rn.bin tv rfl rfl rfl (md rfl ?_)))
       refine Qbz (decide ((b12.length:Int) > 0)) (fun hb25=>?_) (fun hb25=>?_)
       ·replace h:=ifT hb25 h
        refine Rn.movD (gw rfl hb25) rfl (Rn.lenD (gw rfl hb25) rfl (Rn.bin (gw rfl hb25) rfl rfl rfl (Rn.movD (gw rfl hb25) rfl ?_)))
        refine Qbz ((a11.length:Int) == 0) (fun hb26=>?_) (fun hb26=>?_)
        ·replace h:=bT hb26 h
         refine Rn.sk (nw rfl hb26) (Rn.sk (nw rfl hb26) (Rn.sk (nw rfl hb26) (Rn.sk (nw rfl hb26) (Rn.sk (nw rfl hb26) (Rn.sk (nw rfl hb26) (Rn.sk (nw rfl hb26) (Rn.pickT (v:=(b_ true)) (gw rfl hb25) rfl hb26 rfl (Rn.pickT (v:=(b_ true)) tv rfl hb25 rfl (md rfl ?_)))))))))
         refine Rn.nil ⟨rfl,?_⟩
         replace h:=si h; subst h
         exact Qg [] ⟨(sm rfl),(sm rfl),(kFun hM ho8),(sm rfl),(sm rfl),(sm rfl),tv⟩ tv rfl
        ·replace h:=bF hb26 h
         refine Rn.movD (gw rfl hb26) rfl ?_
         obtain ⟨x27,h28,h⟩:=bnd h
         refine Rn.idxD (e:=(eI .i64)) (gw rfl hb26) rfl rfl h28 (Rn.loadC (x:=.int .i64 x27) (gw rfl hb26) rfl (Rn.movD (gw rfl hb26) rfl ?_))
         obtain ⟨x29,h30,h⟩:=bnd h
         refine Rn.idxD (e:=(eI .i64)) (gw rfl hb26) rfl rfl h30 (Rn.loadC (x:=.int .i64 x29) (gw rfl hb26) rfl (Rn.bin (gw rfl hb26) rfl rfl rfl (Rn.pickF (v:=(b_ (decide (x27≤x29)))) (gw rfl hb25) rfl hb26 rfl (Rn.pickT (v:=(b_ (decide (x27≤x29)))) tv rfl hb25 rfl (md rfl ?_)))))
         refine Rn.nil ⟨rfl,?_⟩
         replace h:=si h; subst h
         exact Qg [] ⟨(sm rfl),(sm rfl),(kFun hM ho8),(sm rfl),(sm rfl),(sm rfl),tv⟩ tv rfl
       ·replace h:=ifF hb25 h
        refine Rn.sk (nw rfl hb25) (Rn.sk (nw rfl hb25) (Rn.sk (nw rfl hb25) (Rn.sk (nw rfl hb25) (Rn.sk (nu rfl) (Rn.sk (nu rfl) (Rn.sk (nu rfl) (Rn.sk (nu rfl) (Rn.sk (nu rfl) (Rn.sk (nu rfl) (Rn.sk (nu rfl) (Rn.sk (nw rfl hb25) (Rn.pickF (v:=(b_ false)) tv rfl hb25 rfl (md rfl ?_)))))))))))))
        refine Rn.nil ⟨rfl,?_⟩
        replace h:=si h; subst h
        exact Qg [] ⟨(sm rfl),(sm rfl),(kFun hM ho8),(sm rfl),(sm rfl),(sm rfl),tv⟩ tv rfl
      ·obtain ⟨inB31,rfl⟩ : ∃ x,x=z:=⟨_,rfl⟩
       refine sr ((md rfl (Rn.nil (toN ?_))))
       refine Tr.cutB (fun ((a37,x38):(List Int)×Int)=>⟨look [(0,(l_ a37)),(1,(l_ b12)),(2,.clo g4 cp5),(7,(o_ out13)),(8,(b_ inA24)),(9,(b_ inB31)),(10,(i_ x38))],Qm Γ.n0 (bxs []) M,Γ.n0+74⟩) h (fun z h=>?_) (fun z h=>?_)
       ·refine sr ((md rfl (Rn.nil (toN ?_))))
        refine Tr.cond rfl (fun hb32=>?_) (fun hb32=>?_)
        ·replace h:=bT hb32 h
         refine Tr.rgnD (by decide) ?_
         refine md rfl ?_
         obtain ⟨x33,h34,h⟩:=bnd h
         refine Rn.idxD (e:=(eI .i64)) tv rfl rfl h34 (Rn.loadC (x:=.int .i64 x33) tv rfl (Rn.movTD tv rfl ?_))
         obtain ⟨x35,h36,h⟩:=bnd h
         refine Rn.slcTD (e:=(eI .i64)) tv rfl rfl h36 (md rfl (Rn.movTD tv rfl ?_))
         refine Rn.nil ⟨rfl,?_⟩
         replace h:=si h; subst h
         exact Qg [] ⟨(sm rfl),(sm rfl),(kFun hM ho8),(sm rfl),(sm rfl),(sm rfl),(sm rfl),tv⟩ tv rfl
        ·replace h:=bF hb32 h
         refine Tr.skip ?_
         replace h:=si h; subst h
         exact Qg [] ⟨(sm rfl),(sm rfl),(kFun hM ho8),(sm rfl),(sm rfl),(sm rfl),(sm rfl),tv⟩ tv rfl
       ·obtain ⟨a37,x38⟩:=z
        refine Tr.cutB (fun ((b44,x45):(List Int)×Int)=>⟨look [(0,(l_ a37)),(1,(l_ b44)),(2,.clo g4 cp5),(7,(o_ out13)),(8,(b_ inA24)),(9,(b_ inB31)),(10,(i_ x45))],Qm Γ.n0 (bxs []) M,Γ.n0+74⟩) h (fun z h=>?_) (fun z h=>?_)
        ·refine sr ((md rfl (Rn.nil (toN ?_))))
         refine Tr.cond rfl (fun hb39=>?_) (fun hb39=>?_)
         ·replace h:=bT hb39 h
          refine Tr.rgnD (by decide) ?_
          refine md rfl ?_
          obtain ⟨x40,h41,h⟩:=bnd h
          refine Rn.idxD (e:=(eI .i64)) tv rfl rfl h41 (Rn.loadC (x:=.int .i64 x40) tv rfl (Rn.movTD tv rfl ?_))
          obtain ⟨x42,h43,h⟩:=bnd h
          refine Rn.slcTD (e:=(eI .i64)) tv rfl rfl h43 (md rfl (Rn.movTD tv rfl ?_))
          refine Rn.nil ⟨rfl,?_⟩
          replace h:=si h; subst h
          exact Qg [] ⟨(sm rfl),(sm rfl),(kFun hM ho8),(sm rfl),(sm rfl),(sm rfl),(sm rfl),tv⟩ tv rfl
         ·replace h:=bF hb39 h
          refine Tr.skip ?_
          replace h:=si h; subst h
          exact Qg [] ⟨(sm rfl),(sm rfl),(kFun hM ho8),(sm rfl),(sm rfl),(sm rfl),(sm rfl),tv⟩ tv rfl
        ·obtain ⟨b44,x45⟩:=z
         refine sr ((Rn.mov (v:=.clo g4 cp5) tv rfl (md rfl (md rfl ?_))))
         obtain ⟨x47,h46,h⟩:=bnd h
         refine Rn.callvM (args:=[(b_ inA24),(b_ inB31)] ++ cp5) tv rfl (by rw [hc6]; rfl) (fun M2 nb2 hn hx=>hf7 _ _ _ h46 M2 nb2 (by omega) ((Qbdj hM).trans hx)) rfl pc9 ?_
         refine Rn.nil (toN ?_)
         refine Tr.cond rfl (fun hb48=>?_) (fun hb48=>?_)
         ·replace h:=bT hb48 h
          refine Tr.rgn (Rn.movTO tv rfl (md rfl (Rn.bslice (xs:=[(i_ x45)]) (cs:=[(i_ x45)]) tv rfl rfl rfl rfl ?_)))
          obtain ⟨x49,h50,h⟩:=bnd h
          refine Rn.app (e:=(eI .i64)) tv rfl rfl rfl (Qcl rfl rfl rfl) h50 rfl (Rn.movTO tv rfl (Rn.nil ?_))
          exact ⟨_,h,(by exact Qj ⟨(sm rfl),(sm rfl),(kFun hM ho8),(sm rfl),tv⟩ tv rfl)⟩
         ·replace h:=bF hb48 h
          refine Tr.skip ?_
          exact ⟨_,h,(by exact Qj ⟨(sm rfl),(sm rfl),(kFun hM ho8),(sm rfl),tv⟩ tv rfl)⟩
    ·replace h:=bF hb17 h
     refine Tr.exit ?_
     replace h:=si h; subst h
     exact Qg [] ⟨(sm rfl),tv⟩ tv rfl
 ·obtain ⟨out51,rfl⟩ : ∃ x,x=z:=⟨_,rfl⟩
  refine sr ((Rn.movTO tv rfl (Rn.movTO tv rfl (nt ((Tr.ret ?_))))))
  replace h:=si h; subst h
  exact ⟨.inr rfl,(o_ out51),rfl,fun _ _ _ _ h=>h,tv,mB⟩
theorem Q53 {P:Program} {c:Nat} (hcf:Qq P c=some Qm1):Qm0 P c (Qdw):=by
 intro inA1 inB2 r h
 refine Qc6 hcf rfl fun Γ M hP hnt hM=>?_
 subst hP
 refine Tr.init [(0,(b_ inA1)),(1,(b_ inB2))] rfl ?_
 unfold Qdw at h
 unfold Qm1
 refine sr ((md rfl (nt ((sr ((md rfl (md rfl ?_))))))))
 refine Qbz inA1 (fun hb3=>?_) (fun hb3=>?_)
 ·replace h:=bT hb3 h
  refine Rn.movD (gw rfl hb3) rfl (Rn.un (gw rfl hb3) rfl rfl (Rn.pickT (v:=(b_ (!inB2))) tv rfl hb3 rfl (md rfl (nt ((Tr.ret ?_))))))
  replace h:=si h; subst h
  exact ⟨.inr rfl,(b_ (!inB2)),rfl,fun _ _ _ _ h=>h,tv,mB⟩
 ·replace h:=bF hb3 h
  refine Rn.sk (nw rfl hb3) (Rn.sk (nw rfl hb3) (Rn.pickF (v:=(b_ false)) tv rfl hb3 rfl (md rfl (nt ((Tr.ret ?_))))))
  replace h:=si h; subst h
  exact ⟨.inr rfl,(b_ false),rfl,fun _ _ _ _ h=>h,tv,mB⟩
theorem Q9a {P:Program} {c:Nat} {Qb8:(List Int)→(List Int)→(Bool→Bool→Option Bool)→Option ((List Int))} {Qdw:Bool→Bool→Option Bool}
    (H_alphabet_merge:Qku P 53 Qb8)
    (H_alphabet_Minus_1:Qm0 P 60 Qdw) (hcf:Qq P c=some Qq7):Qq6 P c (Qd2 Qb8 Qdw):=by
 intro a1 b2 r h
 refine Qc6 hcf rfl fun Γ M hP hnt hM=>?_
 subst hP
 refine Tr.init [(0,(l_ a1)),(1,(l_ b2))] rfl ?_
 unfold Qd2 at h
 unfold Qq7
 refine sr ((Rn.movTC (v:=.nils 1) tv (nt ((sr ((md rfl (md rfl ?_))))))))
 obtain ⟨x8,h7,h⟩:=bnd h
 refine Rn.callM (args:=[(l_ a1),(l_ b2),.clo 60 []]) tv rfl (fun M2 nb2 hn hx=>H_alphabet_merge _ _ _ 60 [] _ h7 M2 nb2 rfl tv (fun a3 a4 r5 h6 M3 nb3 hn3 hx3=>H_alphabet_Minus_1 a3 a4 r5 h6 M3 nb3 )) rfl pc9 ?_
 refine Rn.movTO tv rfl (nt ((Tr.ret ?_)))
 replace h:=si h; subst h
 exact ⟨.inr rfl,(o_ x8),rfl,fun _ _ _ _ h=>h,tv,mB⟩
theorem Q7x {P:Program} {c:Nat} {Qd2:(List Int)→(List Int)→Option ((List Int))}
    (H_alphabet_Minus:Qq6 P 30 Qd2) (hcf:Qq P c=some Qn0):Qj6 P c (Qb4 Qd2):=by
 intro a1 b2 r h
 refine Qc6 hcf rfl fun Γ M hP hnt hM=>?_
 subst hP
 refine Tr.init [(0,(l_ a1)),(1,(l_ b2))] rfl ?_
 unfold Qb4 at h
 unfold Qn0
 refine sr ((md rfl (nt ((sr ((md rfl (md rfl ?_))))))))
 obtain ⟨x4,h3,h⟩:=bnd h
 refine Rn.call (args:=[(l_ a1),(l_ b2)]) tv rfl (H_alphabet_Minus _ _ _ h3) pc9 (Rn.lenD tv rfl (Rn.bin tv rfl rfl rfl (md rfl (nt ((Tr.ret ?_))))))
 replace h:=si h; subst h
 exact ⟨.inr rfl,(b_ ((x4.length:Int) == 0)),rfl,fun _ _ _ _ h=>h,tv,mB⟩
theorem Q54 {P:Program} {c:Nat} (hcf:Qq P c=some Qm3):Qm2 P c (Qdx):=by
 intro inA1 inB2 r h
 refine Qc6 hcf rfl fun Γ M hP hnt hM=>?_
 subst hP
 refine Tr.init [(0,(b_ inA1)),(1,(b_ inB2))] rfl ?_
 unfold Qdx at h
 unfold Qm3
 refine sr ((md rfl (nt ((sr ((md rfl (md rfl ?_))))))))
 refine Qbz inA1 (fun hb3=>?_) (fun hb3=>?_)
 ·replace h:=bT hb3 h
  refine Rn.sk (nw rfl hb3) (Rn.pickT (v:=(b_ true)) tv rfl hb3 rfl (md rfl (nt ((Tr.ret ?_)))))
  replace h:=si h; subst h
  exact ⟨.inr rfl,(b_ true),rfl,fun _ _ _ _ h=>h,tv,mB⟩
 ·replace h:=bF hb3 h
  refine Rn.movD (gw rfl hb3) rfl (Rn.pickF (v:=(b_ inB2)) tv rfl hb3 rfl (md rfl (nt ((Tr.ret ?_)))))
  replace h:=si h; subst h
  exact ⟨.inr rfl,(b_ inB2),rfl,fun _ _ _ _ h=>h,tv,mB⟩
theorem Q9b {P:Program} {c:Nat} {Qb8:(List Int)→(List Int)→(Bool→Bool→Option Bool)→Option ((List Int))} {Qdx:Bool→Bool→Option Bool}
    (H_alphabet_merge:Qku P 53 Qb8)
    (H_alphabet_Union_1:Qm2 P 99 Qdx) (hcf:Qq P c=some Qq9):Qq8 P c (Qd3 Qb8 Qdx):=by
 intro a1 b2 r h
 refine Qc6 hcf rfl fun Γ M hP hnt hM=>?_
 subst hP
 refine Tr.init [(0,(l_ a1)),(1,(l_ b2))] rfl ?_
 unfold Qd3 at h
 unfold Qq9
 refine sr ((Rn.movTC (v:=.nils 1) tv (nt ((sr ((md rfl (md rfl ?_))))))))
 obtain ⟨x8,h7,h⟩:=bnd h
 refine Rn.callM (args:=[(l_ a1),(l_ b2),.clo 99 []]) tv rfl (fun M2 nb2 hn hx=>H_alphabet_merge _ _ _ 99 [] _ h7 M2 nb2 rfl tv (fun a3 a4 r5 h6 M3 nb3 hn3 hx3=>H_alphabet_Union_1 a3 a4 r5 h6 M3 nb3 )) rfl pc9 ?_
 refine Rn.movTO tv rfl (nt ((Tr.ret ?_)))
 replace h:=si h; subst h
 exact ⟨.inr rfl,(o_ x8),rfl,fun _ _ _ _ h=>h,tv,mB⟩
theorem Q9c {P:Program} {c:Nat} {Qd3:(List Int)→(List Int)→Option ((List Int))}
    (H_alphabet_Union:Qq8 P 88 Qd3) (hcf:Qq P c=some Qrb) (fuel:Nat):Qra P c (Qd4 Qd3 fuel):=by
 intro l1 r h
 refine Qc6 hcf rfl fun Γ M hP hnt hM=>?_
 subst hP
 refine Tr.init [(0,(Qf l1))] rfl ?_
 unfold Qd4 at h
 unfold Qrb
 refine sr ((Rn.movTC (v:=.nils 1) tv (nt ((sr ((Rn.movTC (v:=.nils 1) tv (Rn.nil (toN ?_)))))))))
 refine Tr.cutB (fun (out10:List Int)=>⟨look [(3,(o_ out10))],Qm Γ.n0 (bxs []) M,Γ.n0+18⟩) h (fun z h=>?_) (fun z h=>?_)
 ·refine sr ((md rfl (Rn.lenD tv rfl (md rfl (nt ((Tr.block ?_)))))))
  refine Tr.loop (mk:=fun ((out2,x3):(List Int)×Int)=>⟨look [(3,(o_ out2)),(6,(Qf l1)),(7,(i_ (l1.length:Int))),(8,(i_ x3))],Qm Γ.n0 (bxs []) M,Γ.n0+18⟩) h (by exact Qj ⟨(WkV.nilsO _),(sm rfl),(sm rfl),(sm rfl),tv⟩ tv rfl) (fun k4 z h=>?_)
  ·obtain ⟨out2,x3⟩:=z
   replace h:_=some _:=h
   refine sr ((Rn.bin tv rfl rfl rfl (nt ((Tr.seq ?_)))))
   refine Tr.cond rfl (fun hb5=>?_) (fun hb5=>?_)
   ·replace h:=ifT hb5 h
    refine Tr.skip (toN (Tr.seq (Tr.block (Tr.seq (Tr.rgn ?_)))))
    obtain ⟨x6,h7,h⟩:=bnd h
    refine Rn.idxD (e:=Qr) tv rfl rfl h7 (Rn.loadCA (vs:=(Qd x6)) tv rfl rfl rfl (Rn.alloc tv rfl (Rn.storeT (v:=(Qb x6)) (ds:=(Qd x6)) (cs':=(Qd x6)) tv rfl rfl rfl rfl rfl rfl rfl (nt ((Tr.rgn (Rn.mov (v:=(l_ out2)) tv rfl (Rn.fldP (o':=0) tv rfl rfl (lB (v:=(l_ x6.zJ)) rfl rfl rfl rfl ?_)))))))))
    obtain ⟨x9,h8,h⟩:=bnd h
    refine Rn.call (args:=[(l_ out2),(l_ x6.zJ)]) tv rfl (H_alphabet_Union _ _ _ h8) pc9 (Rn.movTO tv rfl (nt ((Tr.rgn (Rn.bin tv rfl rfl rfl (md rfl (Rn.nil ?_)))))))
    exact ⟨_,h,(by exact Qj ⟨(sm rfl),(sm rfl),(sm rfl),(sm rfl),tv⟩ tv rfl)⟩
   ·replace h:=ifF hb5 h
    refine Tr.exit ?_
    replace h:=si h; subst h
    exact Qg [] ⟨(sm rfl),tv⟩ tv rfl
 ·obtain ⟨out10,rfl⟩ : ∃ x,x=z:=⟨_,rfl⟩
  refine sr ((Rn.movTO tv rfl (Rn.movTO tv rfl (nt ((Tr.ret ?_))))))
  replace h:=si h; subst h
  exact ⟨.inr rfl,(o_ out10),rfl,fun _ _ _ _ h=>h,tv,mB⟩
theorem Qbcv {P:Program} {c:Nat} {Qd4:(List Qa)→Option ((List Int))}
    (H_product_events:Qra P 61 Qd4) (hcf:Qq P c=some Qxc) (fuel:Nat):Qxb P c (Qes Qd4 fuel):=by
 intro l1 r h
 refine Qc6 hcf rfl fun Γ M hP hnt hM=>?_
 subst hP
 refine Tr.init [(0,(Qf l1))] rfl ?_
 unfold Qes at h
 unfold Qxc
 refine sr ((Rn.alloc tv rfl (nt ((sr ((md rfl (md rfl ?_))))))))
 obtain ⟨x3,h2,h⟩:=bnd h
 refine Rn.call (args:=[(Qf l1)]) tv rfl (H_product_events _ _ h2) pc9 (Rn.buildT (v:=.agg [(Qf l1),(o_ x3),.nils 1]) tv rfl (Rn.alloc tv rfl (Rn.storeT (v:=.agg [(Qf l1),(o_ x3),.nils 1]) (ds:=[(Qf l1),(o_ x3),.nils 1]) (cs':=[(Qf l1),(o_ x3),.nils 1]) tv rfl rfl rfl rfl rfl rfl rfl (Rn.nil (toN ?_)))))
 refine Tr.cutB (fun ((c28,c29,c30,m31):(List Qa)×(List Int)×(List (List ((Int×Int)×Int)))×(List (List ((Int×Int)×Int))))=>⟨look [(2,.ptr (Γ.n0+2) 0),(3,.ptr (Γ.n0+3) 0)],Qm Γ.n0 (bxs [(2,.cells ([(Qda c28),(o_ c29),.own 1 (List.map (fun p:List ((Int×Int)×Int)=>[mq0 p]) c30)])),(3,.cells ([(Qf l1),(o_ x3),.own 1 (List.map (fun p:List ((Int×Int)×Int)=>[mq0 p]) m31)]))]) M,Γ.n0+44⟩) h (fun z h=>?_) (fun z h=>?_)
 ·refine sr ((md rfl (Rn.lenD tv rfl (md rfl (nt ((Tr.block ?_)))))))
  refine Tr.loop (mk:=fun ((x4,c5,c6,c7,m8):Int×(List Qa)×(List Int)×(List (List ((Int×Int)×Int)))×(List (List ((Int×Int)×Int))))=>⟨look [(2,.ptr (Γ.n0+2) 0),(3,.ptr (Γ.n0+3) 0),(13,(Qf l1)),(14,(i_ (l1.length:Int))),(15,(i_ x4))],Qm Γ.n0 (bxs [(2,.cells ([(Qda c5),(o_ c6),.own 1 (List.map (fun p:List ((Int×Int)×Int)=>[mq0 p]) c7)])),(3,.cells ([(Qf l1),(o_ x3),.own 1 (List.map (fun p:List ((Int×Int)×Int)=>[mq0 p]) m8)]))]) M,Γ.n0+44⟩) h (by exact Qj ⟨(kPtr rfl),(kPtr rfl),(sm rfl),(sm rfl),(sm rfl),tv⟩ ⟨⟨_,rfl,rfl,(.cons (WkV.nilsO _) (.cons (WkV.nilsO _) (.cons (WkV.nilsO _) .nil)))⟩,⟨_,rfl,rfl,(cS rfl (cS rfl (.cons (WkV.nilsO _) .nil)))⟩,tv⟩ rfl) (fun k9 z h=>?_)
  ·obtain ⟨x4,c5,c6,c7,m8⟩:=z
   replace h:_=some _:=h
   refine sr ((Rn.bin tv rfl rfl rfl (nt ((Tr.seq ?_)))))
   refine Tr.cond rfl (fun hb10=>?_) (fun hb10=>?_)
   ·replace h:=ifT hb10 h
    refine Tr.skip (toN ?_)
    refine Tr.cutB (fun ((m22,a23,a24,a25,a26,c27):(List (List ((Int×Int)×Int)))×(List Int)×Int×(List Int)×(List Qc)×(List ((Int×Int)×Int)))=>⟨look [(2,.ptr (Γ.n0+2) 0),(3,.ptr (Γ.n0+3) 0),(13,(Qf l1)),(14,(i_ (l1.length:Int))),(15,(i_ x4))],Qm Γ.n0 (bxs [(2,.cells ([(Qda c5),(o_ c6),.own 1 (List.map (fun p:List ((Int×Int)×Int)=>[mq0 p]) c7)])),(3,.cells ([(Qf l1),(o_ x3),.own 1 (List.map (fun p:List ((Int×Int)×Int)=>[mq0 p]) m22)])),(5,.cells ([(l_ a23),(i_ a24),(l_ a25),(Qe a26)])),(39,.cells ([.d (mq0 c27)]))]) M,Γ.n0+44⟩) h (fun z h=>?_) (fun z h=>?_)
    ·refine Tr.block (Tr.seq (Tr.rgn ?_))
     obtain ⟨x11,h12,h⟩:=bnd h
     refine Rn.idxD (e:=Qr) tv rfl rfl h12 (Rn.loadCA (vs:=(Qd x11)) tv rfl rfl rfl (Rn.alloc tv rfl (Rn.storeT (v:=(Qb x11)) (ds:=(Qd x11)) (cs':=(Qd x11)) tv rfl rfl rfl rfl rfl rfl rfl (nt ((sr ((Rn.mkmap tv rfl (fun (x:Int×Int)=>(.agg [(i_ x.1),(i_ x.2)]:V)) (fun (x:Int)=>((i_ x):V)) (Rn.mov (v:=.mp (Γ.n0+19)) tv rfl (Rn.nil (toN ?_)))))))))))
     refine Tr.cutB (fun (c19:List ((Int×Int)×Int))=>⟨look [(2,.ptr (Γ.n0+2) 0),(3,.ptr (Γ.n0+3) 0),(6,.mp (Γ.n0+19)),(13,(Qf l1)),(14,(i_ (l1.length:Int))),(15,(i_ x4))],Qm Γ.n0 (bxs [(2,.cells ([(Qda c5),(o_ c6),.own 1 (List.map (fun p:List ((Int×Int)×Int)=>[mq0 p]) c7)])),(3,.cells ([(Qf l1),(o_ x3),.own 1 (List.map (fun p:List ((Int×Int)×Int)=>[mq0 p]) m8)])),(5,.cells ((Qd x11))),(19,.mp (mapE (fun (x:Int×Int)=>(.agg [(i_ x.1),(i_ x.2)]:V)) (fun (x:Int)=>((i_ x):V)) 0 c19) (c19).length)]) M,Γ.n0+44⟩) h (fun z h=>?_) (fun z h=>?_)
     ·refine sr ((Rn.fldP (o':=3) tv rfl rfl (lB (v:=(Qe x11.zL)) rfl rfl rfl rfl (Rn.lenD tv rfl (md rfl (nt ((Tr.block ?_))))))))
      refine Tr.loop (mk:=fun ((x13,c14):Int×(List ((Int×Int)×Int)))=>⟨look [(2,.ptr (Γ.n0+2) 0),(3,.ptr (Γ.n0+3) 0),(6,.mp (Γ.n0+19)),(13,(Qf l1)),(14,(i_ (l1.length:Int))),(15,(i_ x4)),(21,(Qe x11.zL)),(22,(i_ (x11.zL.length:Int))),(23,(i_ x13))],Qm Γ.n0 (bxs [(2,.cells ([(Qda c5),(o_ c6),.own 1 (List.map (fun p:List ((Int×Int)×Int)=>[mq0 p]) c7)])),(3,.cells ([(Qf l1),(o_ x3),.own 1 (List.map (fun p:List ((Int×Int)×Int)=>[mq0 p]) m8)])),(5,.cells ((Qd x11))),(19,.mp (mapE (fun (x:Int×Int)=>(.agg [(i_ x.1),(i_ x.2)]:V)) (fun (x:Int)=>((i_ x):V)) 0 c14) (c14).length)]) M,Γ.n0+44⟩) h (by exact Qj ⟨(kPtr rfl),(kPtr rfl),(kMp rfl),(sm rfl),(sm rfl),(sm rfl),(sm rfl),(sm rfl),(sm rfl),tv⟩ ⟨bS rfl rfl rfl,bS rfl rfl rfl,bS rfl rfl rfl,⟨rfl,rfl⟩,tv⟩ rfl) (fun k15 z h=>?_)
      ·obtain ⟨x13,c14⟩:=z
       replace h:_=some _:=h
       refine sr ((Rn.bin tv rfl rfl rfl (nt ((Tr.seq ?_)))))
       refine Tr.cond rfl (fun hb16=>?_) (fun hb16=>?_)
       ·replace h:=ifT hb16 h
        refine Tr.skip (toN (Tr.seq (Tr.block (Tr.seq (Tr.rgn ?_)))))
        obtain ⟨x17,h18,h⟩:=bnd h
        refine Rn.idxD (e:=Qv) tv rfl rfl h18 (Rn.loadCA (vs:=(Qbe x17)) tv rfl rfl rfl (Rn.alloc tv rfl (Rn.store (v:=(Qbh x17)) (cs':=(Qbe x17)) tv rfl rfl rfl rfl rfl rfl (nt ((Tr.rgn (Rn.mov (v:=.mp (Γ.n0+19)) tv rfl (Rn.fldP (o':=0) tv rfl rfl (lB (v:=(i_ x17.From)) rfl rfl rfl rfl (Rn.fldP (o':=1) tv rfl rfl (lB (v:=(i_ x17.Event)) rfl rfl rfl rfl (Rn.build (v:=.agg [(i_ x17.From),(i_ x17.Event)]) tv rfl (Rn.fldP (o':=2) tv rfl rfl (lB (v:=(i_ x17.To)) rfl rfl rfl rfl (Rn.mapset (ek:=(fun (x:Int×Int)=>(.agg [(i_ x.1),(i_ x.2)]:V))) (ev:=(fun (x:Int)=>((i_ x):V))) (m:=c14) (k:=(x17.From,x17.Event)) (v:=x17.To) Qbji (fun _=>rfl) (fun _=>rfl) tv rfl rfl rfl rfl rfl (nt ((Tr.rgn (Rn.bin tv rfl rfl rfl (md rfl (Rn.nil ?_)))))))))))))))))))))
        exact ⟨_,h,(by exact Qj ⟨(kPtr rfl),(kPtr rfl),(kMp rfl),(sm rfl),(sm rfl),(sm rfl),(sm rfl),(sm rfl),(sm rfl),tv⟩ ⟨bS rfl rfl rfl,bS rfl rfl rfl,bS rfl rfl rfl,⟨rfl,rfl⟩,tv⟩ rfl)⟩
       ·replace h:=ifF hb16 h
        refine Tr.exit ?_
        replace h:=si h; subst h
        exact Qg [] ⟨(kPtr rfl),(kPtr rfl),(kMp rfl),(sm rfl),(sm rfl),(sm rfl),tv⟩ ⟨bS rfl rfl rfl,bS rfl rfl rfl,bS rfl rfl rfl,⟨rfl,rfl⟩,tv⟩ rfl
     ·obtain ⟨c19,rfl⟩ : ∃ x,x=z:=⟨_,rfl⟩
      refine Tr.rgn (Rn.fldP (o':=2) tv rfl rfl (Rn.loadT (cs':=[(Qf l1),(o_ x3),.d (.lst 1 (List.map (fun p:List ((Int×Int)×Int)=>[mq0 p]) m8))]) tv rfl rfl rfl rfl (Rn.mov (v:=.mp (Γ.n0+19)) tv rfl (Rn.bslice (xs:=[.mp (Γ.n0+19)]) (cs:=[.mp (Γ.n0+19)]) tv rfl rfl rfl rfl ?_))))
      refine Rn.weak (by show WeakSt Γ _ ⟨look [(2,.ptr (Γ.n0+2) 0),(3,.ptr (Γ.n0+3) 0),(6,.d (mq0 c19)),(13,(Qf l1)),(14,(i_ (l1.length:Int))),(15,(i_ x4)),(36,.ptr (Γ.n0+3) 2),(37,.own 1 (List.map (fun p:List ((Int×Int)×Int)=>[mq0 p]) m8)),(38,.d (mq0 c19)),(39,.sl 1 (Γ.n0+39) 0 1 1)],Qm Γ.n0 (bxs [(2,.cells ([(Qda c5),(o_ c6),.own 1 (List.map (fun p:List ((Int×Int)×Int)=>[mq0 p]) c7)])),(3,.cells ([(Qf l1),(o_ x3),.d (.lst 1 (List.map (fun p:List ((Int×Int)×Int)=>[mq0 p]) m8))])),(5,.cells ((Qd x11))),(39,.cells ([.d (mq0 c19)]))]) M,Γ.n0+44⟩; exact Qbdl (ek:=(fun (x:Int×Int)=>(.agg [(i_ x.1),(i_ x.2)]:V))) (ev:=(fun (x:Int)=>((i_ x):V))) (m:=c19) 19 rfl (fun _=>rfl) (fun _=>rfl) ⟨(mPtr rfl),(mPtr rfl),mMpS,(.same rfl),(.same rfl),(.same rfl),(mPtr rfl),(.same rfl),mMpS,(mSlO rfl),tv⟩ ⟨bS rfl rfl rfl,bS rfl rfl rfl,bS rfl rfl rfl,⟨_,rfl,rfl,(.cons mMpS .nil)⟩,tv⟩ rfl) ?_
      obtain ⟨x20,h21,h⟩:=bnd h
      refine Rn.app (e:=(fun p:List ((Int×Int)×Int)=>[mq0 p])) tv rfl rfl rfl (Qcl rfl rfl rfl) h21 rfl (Rn.fldP (o':=2) tv rfl rfl (Rn.storeO (cs':=[(Qf l1),(o_ x3),.own 1 (List.map (fun p:List ((Int×Int)×Int)=>[mq0 p]) x20)]) tv rfl rfl rfl rfl rfl (Rn.nil ?_)))
      replace h:=si h; subst h
      exact Qg [] ⟨(kPtr rfl),(kPtr rfl),(sm rfl),(sm rfl),(sm rfl),tv⟩ ⟨bS rfl rfl rfl,bS rfl rfl rfl,bS rfl rfl rfl,bS rfl rfl rfl,tv⟩ rfl
    ·obtain ⟨m22,a23,a24,a25,a26,c27⟩:=z
     refine Tr.rgn (Rn.bin tv rfl rfl rfl (md rfl (Rn.nil ?_)))
     exact ⟨_,h,(by exact Qj ⟨(kPtr rfl),(kPtr rfl),(sm rfl),(sm rfl),(sm rfl),tv⟩ ⟨bS rfl rfl rfl,bS rfl rfl rfl,tv⟩ rfl)⟩
   ·replace h:=ifF hb10 h
    refine Tr.exit ?_
    replace h:=si h; subst h
    exact Qg [] ⟨(kPtr rfl),(kPtr rfl),tv⟩ ⟨bS rfl rfl rfl,bS rfl rfl rfl,tv⟩ rfl
 ·obtain ⟨c28,c29,c30,m31⟩:=z
  refine sr ((lB (v:=.agg [(Qf l1),(l_ x3),.d (.lst 1 (List.map (fun p:List ((Int×Int)×Int)=>[mq0 p]) m31))]) rfl rfl rfl rfl (Rn.storeT (v:=.agg [(Qf l1),(l_ x3),.d (.lst 1 (List.map (fun p:List ((Int×Int)×Int)=>[mq0 p]) m31))]) (ds:=[(Qf l1),(l_ x3),.d (.lst 1 (List.map (fun p:List ((Int×Int)×Int)=>[mq0 p]) m31))]) (cs':=[(Qf l1),(l_ x3),.d (.lst 1 (List.map (fun p:List ((Int×Int)×Int)=>[mq0 p]) m31))]) tv rfl rfl rfl rfl rfl rfl rfl (nt ((Tr.ret ?_))))))
  replace h:=si h; subst h
  exact ⟨.inr rfl,(.agg [(Qf l1),(l_ x3),.d (.lst 1 (List.map (fun p:List ((Int×Int)×Int)=>[mq0 p]) m31))]),Qfh rfl rfl rfl rfl,fun _ _ _ _ h=>h,⟨tv,tv,tv,tv⟩,mB⟩
theorem Qs4 {P:Program} {c:Nat} (hcf:Qq P c=some Qgr) (fuel:Nat):Qgq P c (Qbx fuel):=by
 intro m1 r h
 refine Qc6 hcf rfl fun Γ M hP hnt hM=>?_
 subst hP
 refine Tr.init [(0,(Qbg m1))] rfl ?_
 unfold Qbx at h
 unfold Qgr
 refine sr ((Rn.box (v:=(Qbg m1)) (cs:=(Qb3 m1)) tv rfl rfl rfl rfl rfl (Rn.movTC (v:=.nils 1) tv (md rfl (nt ((Tr.seq (sr ((Rn.fldP (o':=0) tv rfl rfl (lB (v:=(Qf m1.list_)) rfl rfl rfl rfl (Rn.lenD tv rfl (md rfl (nt ((Tr.block ?_))))))))))))))))
 refine Tr.loop (mk:=fun (x2:Int)=>⟨look [(1,.ptr (Γ.n0+1) 0),(7,(Qf m1.list_)),(8,(i_ (m1.list_.length:Int))),(9,(i_ x2))],Qm Γ.n0 (bxs [(1,.cells ((Qb3 m1)))]) M,Γ.n0+21⟩) h (by exact Qj ⟨(kPtr rfl),(sm rfl),(sm rfl),(sm rfl),tv⟩ ⟨bS rfl rfl rfl,tv⟩ rfl) (fun k3 z h=>?_)
 ·obtain ⟨x2,rfl⟩ : ∃ x,x=z:=⟨_,rfl⟩
  replace h:_=some _:=h
  refine sr ((Rn.bin tv rfl rfl rfl (nt ((Tr.seq ?_)))))
  refine Tr.cond rfl (fun hb4=>?_) (fun hb4=>?_)
  ·replace h:=ifT hb4 h
   refine Tr.skip (toN (Tr.seq (Tr.block (Tr.seq (Tr.rgn ?_)))))
   obtain ⟨x5,h6,h⟩:=bnd h
   refine Rn.idxD (e:=Qr) tv rfl rfl h6 (Rn.loadCA (vs:=(Qd x5)) tv rfl rfl rfl (Rn.alloc tv rfl (Rn.storeT (v:=(Qb x5)) (ds:=(Qd x5)) (cs':=(Qd x5)) tv rfl rfl rfl rfl rfl rfl rfl (nt ((sr ((Rn.fldP (o':=1) tv rfl rfl (lB (v:=(i_ x5.zM)) rfl rfl rfl rfl (Rn.bin tv rfl rfl rfl (Rn.nil (toN ?_))))))))))))
   refine Tr.cond rfl (fun hb7=>?_) (fun hb7=>?_)
   ·replace h:=bT hb7 h
    refine sr ((Rn.movTC (v:=.nils 1) tv (md rfl (nt ((Tr.ret ?_))))))
    replace h:=si h; subst h
    exact ⟨.inr rfl,.tup [.nils 1,(b_ false)],res2 rfl rfl,(WkV.tup (.cons (WkV.nilsD _) (.cons (.same rfl) .nil))).rd,⟨tv,tv,tv⟩,mB⟩
   ·replace h:=bF hb7 h
    refine Tr.skip (toN (Tr.rgn (Rn.bin tv rfl rfl rfl (md rfl (Rn.nil ?_)))))
    exact ⟨_,h,(by exact Qj ⟨(kPtr rfl),(sm rfl),(sm rfl),(sm rfl),tv⟩ ⟨bS rfl rfl rfl,tv⟩ rfl)⟩
  ·replace h:=ifF hb4 h
   refine Tr.exit (toN (sr ((Rn.fldP (o':=0) tv rfl rfl (lB (v:=(Qf m1.list_)) rfl rfl rfl rfl (Rn.lenD tv rfl ?_))))))
   obtain ⟨x8,h9,h⟩:=bnd h
   refine Rn.makes (g:=(fun (x:Int)=>[V.d (.int .i64 x)])) tv rfl rfl rfl rfl rfl h9 (Rn.movTF (v:=.sl 1 (Γ.n0+20) 0 (Int.toNat (m1.list_.length:Int)) (Int.toNat (m1.list_.length:Int))) tv rfl rfl (md rfl (Rn.nil (toN ?_))))
   obtain ⟨⟨⟩,hl10,h⟩:=bnd h
   refine Tr.weak (by show WeakSt Γ _ ⟨look [(1,.ptr (Γ.n0+1) 0),(2,(l_ x8)),(3,(b_ true)),(7,(Qf m1.list_)),(8,(i_ (m1.list_.length:Int))),(9,(i_ x2)),(10,(b_ (decide (x2 < (m1.list_.length:Int))))),(17,.ptr (Γ.n0+1) 0),(18,(Qf m1.list_)),(19,(i_ (m1.list_.length:Int))),(20,(l_ x8))],Qm Γ.n0 (bxs [(1,.cells ((Qb3 m1)))]) M,Γ.n0+21⟩; exact Qeb 20 _ rfl (Q6v (fun _=>rfl) _) ⟨(fPtr rfl),(fSlA (fun _=>rfl) (Qex hl10)),(.same rfl),(.same rfl),(.same rfl),(.same rfl),(.same rfl),(fPtr rfl),(.same rfl),(.same rfl),(fSlA (fun _=>rfl) (Qex hl10)),tv⟩ ⟨bS rfl rfl rfl,tv⟩ rfl) ?_
   refine Tr.ret ?_
   replace h:=si h; subst h
   exact ⟨.inr rfl,.tup [(l_ x8),(b_ true)],res2 rfl rfl,(WkV.tup (.cons (.same rfl) (.cons (.same rfl) .nil))).rd,⟨tv,tv,tv⟩,mB⟩
theorem Qu0 {P:Program} {c:Nat} {Qi:(List Int)→Int→Option Bool}
    (H_alphabet_Contains:Qcf P 29 Qi) (hcf:Qq P c=some Qhc) (fuel:Nat):Qhb P c (Qb5 Qi fuel):=by
 intro m1 tuple2 r h
 refine Qc6 hcf rfl fun Γ M hP hnt hM=>?_
 subst hP
 refine Tr.init [(0,(Qbg m1)),(1,(l_ tuple2))] rfl ?_
 unfold Qb5 at h
 unfold Qhc
 refine sr ((Rn.box (v:=(Qbg m1)) (cs:=(Qb3 m1)) tv rfl rfl rfl rfl rfl (md rfl (nt ((Tr.seq (sr ((Rn.fldP (o':=0) tv rfl rfl (lB (v:=(Qf m1.list_)) rfl rfl rfl rfl (Rn.lenD tv rfl (md rfl (nt ((Tr.block ?_)))))))))))))))
 refine Tr.loop (mk:=fun (x3:Int)=>⟨look [(1,(l_ tuple2)),(8,(Qf m1.list_)),(9,(i_ (m1.list_.length:Int))),(10,(i_ x3))],Qm Γ.n0 (bxs [(2,.cells ((Qb3 m1)))]) M,Γ.n0+24⟩) h (by exact Qj ⟨(sm rfl),(sm rfl),(sm rfl),(sm rfl),tv⟩ ⟨bS rfl rfl rfl,tv⟩ rfl) (fun k4 z h=>?_)
 ·obtain ⟨x3,rfl⟩ : ∃ x,x=z:=⟨_,rfl⟩
  replace h:_=some _:=h
  refine sr ((Rn.bin tv rfl rfl rfl (nt ((Tr.seq ?_)))))
  refine Tr.cond rfl (fun hb5=>?_) (fun hb5=>?_)
  ·replace h:=ifT hb5 h
   refine Tr.skip (toN (Tr.seq (Tr.block (sr ((md rfl ?_))))))
   obtain ⟨x6,h7,h⟩:=bnd h
   refine Rn.idxD (e:=Qr) tv rfl rfl h7 (Rn.loadCA (vs:=(Qd x6)) tv rfl rfl rfl (Rn.alloc tv rfl (md rfl (Rn.storeT (v:=(Qb x6)) (ds:=(Qd x6)) (cs':=(Qd x6)) tv rfl rfl rfl rfl rfl rfl rfl (nt ((Tr.seq ?_)))))))
   refine Tr.rgnD (by decide) ?_
   refine Rn.fldP (o':=2) tv rfl rfl (lB (v:=(l_ x6.zK)) rfl rfl rfl rfl (md rfl (md rfl ?_)))
   obtain ⟨x8,h9,h⟩:=bnd h
   refine Rn.idxD (e:=(eI .i64)) tv rfl rfl h9 (Rn.loadC (x:=.int .i64 x8) tv rfl ?_)
   obtain ⟨x11,h10,h⟩:=bnd h
   refine Rn.call (args:=[(l_ x6.zK),(i_ x8)]) tv rfl (H_alphabet_Contains _ _ _ h10) pc0 (Rn.un tv rfl rfl ?_)
   refine Rn.nil ⟨rfl,?_⟩
   refine toN ?_
   refine Tr.cond rfl (fun hb12=>?_) (fun hb12=>?_)
   ·have hb12:=nT' hb12
    replace h:=bF hb12 h
    refine sr ((md rfl (nt ((Tr.ret ?_)))))
    replace h:=si h; subst h
    exact ⟨.inr rfl,(b_ false),rfl,fun _ _ _ _ h=>h,tv,mB⟩
   ·have hb12:=nF' hb12
    replace h:=bT hb12 h
    refine Tr.skip (toN (Tr.rgn (Rn.bin tv rfl rfl rfl (md rfl (Rn.nil ?_)))))
    exact ⟨_,h,(by exact Qj ⟨(sm rfl),(sm rfl),(sm rfl),(sm rfl),tv⟩ ⟨bS rfl rfl rfl,tv⟩ rfl)⟩
  ·replace h:=ifF hb5 h
   refine Tr.exit (toN (sr ((md rfl (nt ((Tr.ret ?_)))))))
   replace h:=si h; subst h
   exact ⟨.inr rfl,(b_ true),rfl,fun _ _ _ _ h=>h,tv,mB⟩
theorem Qxk {P:Program} {c:Nat} {Qi:(List Int)→Int→Option Bool} {Qbr:(List Int)→Option ((List Int))}
    (H_alphabet_Contains:Qcf P 29 Qi)
    (H_slices_Clone_int:Qjg P 56 Qbr) (hcf:Qq P c=some Qiz) (fuel:Nat):Qiy P c (Qci Qi Qbr fuel):=by
 intro m1 tuple2 event3 r h
 refine Qbs2 hcf (args':=[.agg [.f (.lst 4 (List.map Qr m1.list_)),(f_ m1.events_),.f (.lst 1 (List.map (fun p:List ((Int×Int)×Int)=>[mq0 p]) m1.edges_))],(f_ tuple2),(i_ event3)]) rfl rfl rfl rfl rfl rfl fun Γ M hP hnt hG hM0 hM=>?_
 subst hP
 refine Tr.init [(0,.agg [.f (.lst 4 (List.map Qr m1.list_)),(f_ m1.events_),.f (.lst 1 (List.map (fun p:List ((Int×Int)×Int)=>[mq0 p]) m1.edges_))]),(1,(f_ tuple2)),(2,(i_ event3))] rfl ?_
 unfold Qci at h
 unfold Qiz
 refine sr ((Rn.box (v:=.agg [.f (.lst 4 (List.map Qr m1.list_)),(f_ m1.events_),.f (.lst 1 (List.map (fun p:List ((Int×Int)×Int)=>[mq0 p]) m1.edges_))]) (cs:=[.f (.lst 4 (List.map Qr m1.list_)),(f_ m1.events_),.f (.lst 1 (List.map (fun p:List ((Int×Int)×Int)=>[mq0 p]) m1.edges_))]) tv rfl rfl rfl rfl rfl (Rn.movTC (v:=.nils 1) tv (md rfl (nt ((sr ((Rn.mov (v:=(f_ tuple2)) tv rfl ?_)))))))))
 obtain ⟨x5,h4,h⟩:=bnd h
 refine Rn.call (args:=[(f_ tuple2)]) tv rfl (fun M2 nb2=>ACalls.weak (args':=[(l_ tuple2)]) (H_slices_Clone_int _ _ h4 M2 nb2) (.cons fToD .nil) rfl) pc9 ?_
 refine Rn.movTO tv rfl (Rn.nil (toN ?_))
 obtain ⟨⟨⟩,hx6,h⟩:=bnd h
 refine Tr.weak (by show WeakSt Γ _ ⟨look [(0,.agg [.f (.lst 4 (List.map Qr m1.list_)),(f_ m1.events_),.f (.lst 1 (List.map (fun p:List ((Int×Int)×Int)=>[mq0 p]) m1.edges_))]),(1,(f_ tuple2)),(2,(i_ event3)),(3,.ptr (Γ.n0+3) 0),(6,.nils 1),(7,(b_ false)),(8,(o_ x5)),(13,(f_ tuple2))],Qm Γ.n0 (bxs [(3,.cells ([.f (.lst 4 (List.map Qr m1.list_)),(f_ m1.events_),.f (.lst 1 (List.map (fun p:List ((Int×Int)×Int)=>[mq0 p]) m1.edges_))]))]) M,Γ.n0+51⟩; exact Qg [] ⟨(sm rfl),(sm rfl),(sm rfl),(kPtr rfl),(sm rfl),(sm rfl),(sm rfl),(sm rfl),tv⟩ ⟨bS rfl rfl rfl,tv⟩ rfl) ?_
 refine Qbs6 hG hM0 8 8 (e:=(eI .i64)) (fun (x:Int)=>[V.d (.int .i64 x)]) (fun _=>rfl) (Qbp2 hx6) (fun _=>rfl) rfl rfl rfl ⟨rfl,rfl,rfl,rfl,rfl,rfl,rfl,(Qbp0 (fun _=>rfl)),rfl,tv⟩ ⟨⟨rfl,rfl,rfl,tv⟩,tv⟩ (fun c7 R8 hc9=>?_)
 refine Tr.weak (by show WeakSt Γ _ ⟨look [(0,.agg [.f (.lst 4 (List.map Qr m1.list_)),(f_ m1.events_),.f (.lst 1 (List.map (fun p:List ((Int×Int)×Int)=>[mq0 p]) m1.edges_))]),(1,(f_ tuple2)),(2,(i_ event3)),(3,.ptr (Γ.n0+3) 0),(6,.nils 1),(7,(b_ false)),(8,.sl 1 (Γ.n0+8) 0 x5.length c7),(13,(f_ tuple2))],Qm Γ.n0 (bxs [(3,.cells ([.f (.lst 4 (List.map Qr m1.list_)),(f_ m1.events_),.f (.lst 1 (List.map (fun p:List ((Int×Int)×Int)=>[mq0 p]) m1.edges_))])),(8,.cells (rowR (fun (x:Int)=>[V.d (.int .i64 x)]) x5 R8))]) M,Γ.n0+51⟩; exact Qg [] ⟨(sm rfl),(sm rfl),(sm rfl),(kPtr rfl),(sm rfl),(sm rfl),(kSl rfl),(sm rfl),tv⟩ ⟨bS rfl rfl rfl,⟨_,rfl,rfl,(Q4w (fun _=>rfl) rfl)⟩,tv⟩ rfl) ?_
 refine Tr.seq (sr ((Rn.fldP (o':=0) tv rfl rfl (lB (v:=.f (.lst 4 (List.map Qr m1.list_))) rfl rfl rfl rfl ?_))))
 refine Rn.weak (by show WeakSt Γ _ ⟨look [(0,.agg [.f (.lst 4 (List.map Qr m1.list_)),(f_ m1.events_),.f (.lst 1 (List.map (fun p:List ((Int×Int)×Int)=>[mq0 p]) m1.edges_))]),(1,(f_ tuple2)),(2,(i_ event3)),(3,.ptr (Γ.n0+3) 0),(6,.nils 1),(7,(b_ false)),(8,.sl 1 (Γ.n0+8) 0 x5.length c7),(13,(f_ tuple2)),(15,.ptr (Γ.n0+3) 0),(16,(Qf m1.list_))],Qm Γ.n0 (bxs [(3,.cells ([.f (.lst 4 (List.map Qr m1.list_)),(f_ m1.events_),.f (.lst 1 (List.map (fun p:List ((Int×Int)×Int)=>[mq0 p]) m1.edges_))])),(8,.cells (rowR (fun (x:Int)=>[V.d (.int .i64 x)]) x5 R8))]) M,Γ.n0+51⟩; exact Qg [] ⟨(sm rfl),(sm rfl),(sm rfl),(kPtr rfl),(sm rfl),(sm rfl),(kSl rfl),(sm rfl),(kPtr rfl),fToD,tv⟩ ⟨bS rfl rfl rfl,⟨_,rfl,rfl,(Q4w (fun _=>rfl) rfl)⟩,tv⟩ rfl) ?_
 refine Rn.lenD tv rfl (md rfl (nt ((Tr.block ?_))))
 refine Tr.weak (by show WeakSt Γ _ ⟨look [(0,.agg [.f (.lst 4 (List.map Qr m1.list_)),(f_ m1.events_),.f (.lst 1 (List.map (fun p:List ((Int×Int)×Int)=>[mq0 p]) m1.edges_))]),(1,(f_ tuple2)),(2,(i_ event3)),(3,.ptr (Γ.n0+3) 0),(6,.nils 1),(7,(b_ false)),(8,.sl 1 (Γ.n0+8) 0 x5.length c7),(13,(f_ tuple2)),(15,.ptr (Γ.n0+3) 0),(16,(Qf m1.list_)),(17,(i_ (m1.list_.length:Int))),(18,(i_ 0))],Qm Γ.n0 (bxs [(3,.cells ([.f (.lst 4 (List.map Qr m1.list_)),(f_ m1.events_),.d (.lst 1 (List.map (fun p:List ((Int×Int)×Int)=>[mq0 p]) m1.edges_))])),(8,.cells (rowR (fun (x:Int)=>[V.d (.int .i64 x)]) x5 R8))]) M,Γ.n0+51⟩; exact Qg [] ⟨(sm rfl),(sm rfl),(sm rfl),(kPtr rfl),(sm rfl),(sm rfl),(kSl rfl),(sm rfl),(kPtr rfl),(sm rfl),(sm rfl),(sm rfl),tv⟩ ⟨⟨_,rfl,rfl,(cS rfl (cS rfl (.cons fToD .nil)))⟩,⟨_,rfl,rfl,(Q4w (fun _=>rfl) rfl)⟩,tv⟩ rfl) ?_
 refine Tr.weak (by show WeakSt Γ _ ⟨look [(0,.agg [.f (.lst 4 (List.map Qr m1.list_)),(f_ m1.events_),.f (.lst 1 (List.map (fun p:List ((Int×Int)×Int)=>[mq0 p]) m1.edges_))]),(1,(l_ tuple2)),(2,(i_ event3)),(3,.ptr (Γ.n0+3) 0),(6,.nils 1),(7,(b_ false)),(8,.sl 1 (Γ.n0+8) 0 x5.length c7),(13,(f_ tuple2)),(15,.ptr (Γ.n0+3) 0),(16,(Qf m1.list_)),(17,(i_ (m1.list_.length:Int))),(18,(i_ 0))],Qm Γ.n0 (bxs [(3,.cells ([.f (.lst 4 (List.map Qr m1.list_)),(f_ m1.events_),.d (.lst 1 (List.map (fun p:List ((Int×Int)×Int)=>[mq0 p]) m1.edges_))])),(8,.cells (rowR (fun (x:Int)=>[V.d (.int .i64 x)]) x5 R8))]) M,Γ.n0+51⟩; exact Qg [] ⟨(sm rfl),fToD,(sm rfl),(kPtr rfl),(sm rfl),(sm rfl),(kSl rfl),(sm rfl),(kPtr rfl),(sm rfl),(sm rfl),(sm rfl),tv⟩ ⟨bS rfl rfl rfl,⟨_,rfl,rfl,(Q4w (fun _=>rfl) rfl)⟩,tv⟩ rfl) ?_
 refine Tr.loop (mk:=fun ((x10,next11):Int×(List Int))=>⟨look [(1,(l_ tuple2)),(2,(i_ event3)),(3,.ptr (Γ.n0+3) 0),(8,.sl 1 (Γ.n0+8) 0 x5.length c7),(16,(Qf m1.list_)),(17,(i_ (m1.list_.length:Int))),(18,(i_ x10))],Qm Γ.n0 (bxs [(3,.cells ([.f (.lst 4 (List.map Qr m1.list_)),(f_ m1.events_),.d (.lst 1 (List.map (fun p:List ((Int×Int)×Int)=>[mq0 p]) m1.edges_))])),(8,.cells (rowR (fun (x:Int)=>[V.d (.int .i64 x)]) next11 R8))]) M,Γ.n0+51⟩) h (by exact Qj ⟨(sm rfl),(sm rfl),(kPtr rfl),(kSl rfl),(sm rfl),(sm rfl),(sm rfl),tv⟩ ⟨bS rfl rfl rfl,⟨_,rfl,rfl,(Q4w (fun _=>rfl) rfl)⟩,tv⟩ rfl) (fun k12 z h=>?_)
 ·obtain ⟨x10,next11⟩:=z
  replace h:_=some _:=h
  refine sr ((Rn.bin tv rfl rfl rfl (nt ((Tr.seq ?_)))))
  refine Tr.cond rfl (fun hb13=>?_) (fun hb13=>?_)
  ·replace h:=ifT hb13 h
   refine Tr.skip (toN ?_)
   refine Tr.cutJ (fun ((next28,a29,a30,a31,a32):(List Int)×(List Int)×Int×(List Int)×(List Qc))=>⟨look [(1,(l_ tuple2)),(2,(i_ event3)),(3,.ptr (Γ.n0+3) 0),(8,.sl 1 (Γ.n0+8) 0 x5.length c7),(16,(Qf m1.list_)),(17,(i_ (m1.list_.length:Int))),(18,(i_ x10))],Qm Γ.n0 (bxs [(3,.cells ([.f (.lst 4 (List.map Qr m1.list_)),(f_ m1.events_),.d (.lst 1 (List.map (fun p:List ((Int×Int)×Int)=>[mq0 p]) m1.edges_))])),(8,.cells (rowR (fun (x:Int)=>[V.d (.int .i64 x)]) next28 R8)),(10,.cells ([(l_ a29),(i_ a30),(l_ a31),(Qe a32)]))]) M,Γ.n0+51⟩) h (fun J33 h=>?_) (fun z h=>?_)
   ·refine Tr.block (sr ((md rfl ?_)))
    obtain ⟨x14,h15,h⟩:=bnd h
    refine Rn.idxD (e:=Qr) tv rfl rfl h15 (Rn.loadCA (vs:=(Qd x14)) tv rfl rfl rfl (Rn.alloc tv rfl (md rfl (Rn.storeT (v:=(Qb x14)) (ds:=(Qd x14)) (cs':=(Qd x14)) tv rfl rfl rfl rfl rfl rfl rfl (nt ((Tr.seq (sr ((Rn.fldP (o':=0) tv rfl rfl (lB (v:=(l_ x14.zJ)) rfl rfl rfl rfl (md rfl ?_))))))))))))
    obtain ⟨x17,h16,h⟩:=bnd h
    refine Rn.call (args:=[(l_ x14.zJ),(i_ event3)]) tv rfl (H_alphabet_Contains _ _ _ h16) pc9 (Rn.un tv rfl rfl (Rn.nil (toN ?_)))
    refine Tr.cond rfl (fun hb18=>?_) (fun hb18=>?_)
    ·have hb18:=nT' hb18
     replace h:=bF hb18 h
     refine Tr.exit ?_
     exact ⟨_,h,(by exact Qg [] ⟨(sm rfl),(sm rfl),(kPtr rfl),(kSl rfl),(sm rfl),(sm rfl),(sm rfl),tv⟩ ⟨bS rfl rfl rfl,⟨_,rfl,rfl,(Q4w (fun _=>rfl) rfl)⟩,bS rfl rfl rfl,tv⟩ rfl)⟩
    ·have hb18:=nF' hb18
     replace h:=bT hb18 h
     refine Tr.skip (toN (Tr.seq ?_))
     refine Tr.rgnD (by decide) ?_
     refine Rn.fldP (o':=2) tv rfl rfl (lB (v:=.d (.lst 1 (List.map (fun p:List ((Int×Int)×Int)=>[mq0 p]) m1.edges_))) rfl rfl rfl rfl (md rfl ?_))
     obtain ⟨x19,h20,h⟩:=bnd h
     refine Rn.idxD (e:=(fun p:List ((Int×Int)×Int)=>[mq0 p])) tv rfl rfl h20 (Rn.loadC (x:=mq0 x19) tv rfl (md rfl (md rfl ?_)))
     obtain ⟨x21,h22,h⟩:=bnd h
     refine Rn.idxD (e:=(eI .i64)) tv rfl rfl h22 (Rn.loadC (x:=.int .i64 x21) tv rfl (md rfl (Rn.build (v:=.agg [(i_ x21),(i_ event3)]) tv rfl (Rn.lookupDC (ek:=(fun (x:Int×Int)=>(.agg [(i_ x.1),(i_ x.2)]:V))) (ev:=(fun (x:Int)=>((i_ x):V))) (m:=x19) (k:=(x21,event3)) Qbji (fun _=>rfl) (fun _=>rfl) (fun _=>rfl) (fun _=>rfl) 0 rfl tv rfl rfl (Rn.mov (v:=.tup [(i_ (getM x19 (x21,event3) 0)),(b_ (hasM x19 (x21,event3)))]) tv rfl (Rn.ext (v:=(i_ (getM x19 (x21,event3) 0))) (vs:=[(i_ (getM x19 (x21,event3) 0)),(b_ (hasM x19 (x21,event3)))]) tv rfl rfl rfl (Rn.ext (v:=(b_ (hasM x19 (x21,event3)))) (vs:=[(i_ (getM x19 (x21,event3) 0)),(b_ (hasM x19 (x21,event3)))]) tv rfl rfl rfl (md rfl (md rfl ?_)))))))))
     refine Rn.nil ⟨rfl,?_⟩
     refine toN (Tr.seq (sr ((md rfl (Rn.un tv rfl rfl (Rn.nil (toN ?_)))))))
     refine Tr.cond rfl (fun hb23=>?_) (fun hb23=>?_)
     ·have hb23:=nT' hb23
      replace h:=bF hb23 h
      refine sr ((Rn.movTC (v:=.nils 1) tv (md rfl (nt ((Tr.ret ?_))))))
      replace h:=si h; subst h
      exact ⟨.inr rfl,.tup [.nils 1,(b_ false)],res2 rfl rfl,(WkV.tup (.cons (WkV.nilsD _) (.cons (.same rfl) .nil))).rd,⟨tv,tv,tv⟩,mB⟩
     ·have hb23:=nF' hb23
      replace h:=bT hb23 h
      refine Tr.skip (toN (Tr.rgn (Rn.mov (v:=.sl 1 (Γ.n0+8) 0 x5.length c7) tv rfl (md rfl (md rfl ?_)))))
      obtain ⟨⟨⟩,h25,h⟩:=bnd h
      refine Rn.idxA tv rfl rfl h25 ?_
      obtain ⟨next26,h27,h⟩:=bnd h
      refine Rn.storeR (g:=(fun (x:Int)=>[V.d (.int .i64 x)])) (v:=(i_ (getM x19 (x21,event3) 0))) (fun _=>rfl) tv rfl rfl rfl rfl rfl h27 (Rn.nil ?_)
      exact ⟨_,h,(by exact Qg [] ⟨(sm rfl),(sm rfl),(kPtr rfl),(kSl rfl),(sm rfl),(sm rfl),(sm rfl),tv⟩ ⟨bS rfl rfl rfl,⟨_,rfl,rfl,(Q4w (fun _=>rfl) rfl)⟩,bS rfl rfl rfl,tv⟩ rfl)⟩
   ·obtain ⟨next28,a29,a30,a31,a32⟩:=z
    refine Tr.rgn (Rn.bin tv rfl rfl rfl (md rfl (Rn.nil ?_)))
    exact ⟨_,h,(by exact Qj ⟨(sm rfl),(sm rfl),(kPtr rfl),(kSl rfl),(sm rfl),(sm rfl),(sm rfl),tv⟩ ⟨bS rfl rfl rfl,⟨_,rfl,rfl,(Q4w (fun _=>rfl) rfl)⟩,tv⟩ rfl)⟩
  ·replace h:=ifF hb13 h
   refine Tr.exit (toN (sr ((Rn.movTF (v:=.sl 1 (Γ.n0+8) 0 x5.length c7) tv rfl rfl (Rn.movTF (v:=.sl 1 (Γ.n0+8) 0 x5.length c7) tv rfl rfl (md rfl (Rn.nil (toN ?_))))))))
   obtain ⟨⟨⟩,hl34,h⟩:=bnd h
   refine Tr.weak (by show WeakSt Γ _ ⟨look [(1,(l_ tuple2)),(2,(i_ event3)),(3,.ptr (Γ.n0+3) 0),(6,(l_ next11)),(7,(b_ true)),(8,(l_ next11)),(16,(Qf m1.list_)),(17,(i_ (m1.list_.length:Int))),(18,(i_ x10)),(19,(b_ (decide (x10 < (m1.list_.length:Int))))),(50,(l_ next11))],Qm Γ.n0 (bxs [(3,.cells ([.f (.lst 4 (List.map Qr m1.list_)),(f_ m1.events_),.d (.lst 1 (List.map (fun p:List ((Int×Int)×Int)=>[mq0 p]) m1.edges_))]))]) M,Γ.n0+51⟩; exact Qbdk 8 _ rfl (preR (fun _=>rfl)) ⟨(.same rfl),(.same rfl),(fPtr rfl),(fSlT (fun _=>rfl) (Qex hl34) hc9),(.same rfl),(fSlT (fun _=>rfl) (Qex hl34) hc9),(.same rfl),(.same rfl),(.same rfl),(.same rfl),(fSlT (fun _=>rfl) (Qex hl34) hc9),tv⟩ ⟨bS rfl rfl rfl,tv⟩ rfl) ?_
   refine Tr.ret ?_
   replace h:=si h; subst h
   exact ⟨.inr rfl,.tup [(l_ next11),(b_ true)],res2 rfl rfl,(WkV.tup (.cons (.same rfl) (.cons (.same rfl) .nil))).rd,⟨tv,tv,tv⟩,mB⟩
theorem Q0p {P:Program} {c:Nat} {Qcs:(List Qa)→Option Int} {Qes:(List Qa)→Option Qbf} {Qbx:Qbf→Option ((List Int)×Bool)} {f_product_key:(List Int)→Option ByteArray} {Qb5:Qbf→(List Int)→Option Bool} {Qci:Qbf→(List Int)→Int→Option ((List Int)×Bool)}
    (H_product_Check:Qmz P 26 Qcs)
    (H_product_open:Qxb P 31 Qes)
    (H_product_machine_initial:Qgq P 32 Qbx)
    (H_product_key:K_product_key P 33 f_product_key)
    (H_product_machine_marked:Qhb P 34 Qb5)
    (H_product_machine_step:Qiy P 35 Qci) (hcf:Qq P c=some Qjy) (fuel:Nat):Qgf P c (Q2 Qcs Qes Qbx f_product_key Qb5 Qci fuel):=by
 intro l1 r h
 refine Qc6 hcf rfl fun Γ M hP hnt hM=>?_
 subst hP
 refine Tr.init [(0,(Qf l1))] rfl ?_
 unfold Q2 at h
 unfold Qjy
 refine sr ((Rn.alloc tv rfl (Rn.movTC (v:=.nils 1) tv (md rfl (nt ((Tr.seq (sr ((md rfl ?_))))))))))
 obtain ⟨x3,h2,h⟩:=bnd h
 refine Rn.call (args:=[(Qf l1)]) tv rfl (H_product_Check _ _ h2) pc9 (md rfl (nt ((sr ((md rfl (Rn.bin tv rfl rfl rfl (Rn.nil (toN ?_)))))))))
 refine Tr.cond rfl (fun hb4=>?_) (fun hb4=>?_)
 ·replace h:=bT hb4 h
  refine sr ((Rn.build (v:=.agg [.nils 1,(i_ 0),.nils 1,.nils 3]) tv rfl (md rfl (Rn.storeT (v:=.agg [.nils 1,(i_ 0),.nils 1,.nils 3]) (ds:=[.nils 1,(i_ 0),.nils 1,.nils 3]) (cs':=[.nils 1,(i_ 0),.nils 1,.nils 3]) tv rfl rfl rfl rfl rfl rfl rfl (Rn.movTC (v:=.nils 1) tv (md rfl (nt ((Tr.ret ?_)))))))))
  replace h:=si h; subst h
  exact ⟨.inr rfl,.tup [.agg [.nils 1,(i_ 0),.nils 1,.nils 3],.nils 1,(i_ x3)],res3 (Qfh rfl rfl rfl rfl) rfl rfl,(WkV.tup (.cons (WkV.agg (.cons (WkV.nilsD _) (.cons (.same rfl) (.cons (WkV.nilsD _) (.cons (WkV.nilsD _) .nil))))) (.cons (WkV.nilsO _) (.cons (.same rfl) .nil)))).rd,⟨⟨tv,tv,tv,tv,tv⟩,tv,tv,tv⟩,mB⟩
 ·replace h:=bF hb4 h
  refine Tr.skip (toN (sr ((md rfl ?_))))
  obtain ⟨x6,h5,h⟩:=bnd h
  refine Rn.call (args:=[(Qf l1)]) tv rfl (H_product_open _ _ h5) pc9 (Rn.alloc tv rfl (Rn.storeT (v:=(Qbg x6)) (ds:=(Qb3 x6)) (cs':=(Qb3 x6)) tv rfl rfl rfl rfl rfl rfl rfl (nt ((sr ((Rn.fldP (o':=1) tv rfl rfl (lB (v:=(l_ x6.events_)) rfl rfl rfl rfl (Rn.fldP (o':=0) tv rfl rfl (Rn.storeD (cs':=[(l_ x6.events_),(i_ 0),.nils 1,.nils 3]) tv rfl rfl rfl rfl rfl (nt ((sr ((lB (v:=(Qbg x6)) rfl rfl rfl rfl ?_)))))))))))))))
  obtain ⟨⟨r8,r9⟩,h7,h⟩:=bnd h
  refine Rn.call (args:=[(Qbg x6)]) tv rfl (H_product_machine_initial _ _ h7) pc9 (Rn.mov (v:=.tup [(l_ r8),(b_ r9)]) tv rfl (Rn.extTD (vs:=[(l_ r8),(b_ r9)]) tv rfl rfl rfl (Rn.ext (v:=(b_ r9)) (vs:=[(l_ r8),(b_ r9)]) tv rfl rfl rfl (Rn.movTD tv rfl (md rfl (nt ((Tr.seq (sr ((md rfl (Rn.un tv rfl rfl (Rn.nil (toN ?_))))))))))))))
  refine Tr.cond rfl (fun hb10=>?_) (fun hb10=>?_)
  ·have hb10:=nT' hb10
   replace h:=bF hb10 h
   refine sr ((lB (v:=.agg [(l_ x6.events_),(i_ 0),.nils 1,.nils 3]) rfl rfl rfl rfl (Rn.storeT (v:=.agg [(l_ x6.events_),(i_ 0),.nils 1,.nils 3]) (ds:=[(l_ x6.events_),(i_ 0),.nils 1,.nils 3]) (cs':=[(l_ x6.events_),(i_ 0),.nils 1,.nils 3]) tv rfl rfl rfl rfl rfl rfl rfl (Rn.movTC (v:=.nils 1) tv (md rfl (nt ((Tr.ret ?_))))))))
   replace h:=si h; subst h
   exact ⟨.inr rfl,.tup [.agg [(l_ x6.events_),(i_ 0),.nils 1,.nils 3],.nils 1,(i_ 0)],res3 (Qfh rfl rfl rfl rfl) rfl rfl,(WkV.tup (.cons (WkV.agg (.cons (.same rfl) (.cons (.same rfl) (.cons (WkV.nilsD _) (.cons (WkV.nilsD _) .nil))))) (.cons (WkV.nilsO _) (.cons (.same rfl) .nil)))).rd,⟨⟨tv,tv,tv,tv,tv⟩,tv,tv,tv⟩,mB⟩
  ·have hb10:=nF' hb10
   replace h:=bT hb10 h
   refine Tr.skip (toN (sr ((md rfl (Rn.bslice (xs:=[(l_ r8)]) (cs:=[(l_ r8)]) tv rfl rfl rfl rfl (Rn.movTF (v:=.sl 1 (Γ.n0+37) 0 1 1) tv rfl rfl (nt ((sr ((Rn.mkmap tv rfl (fun (x:ByteArray)=>(.d (.str x):V)) (fun (x:Int)=>((i_ x):V)) (md rfl ?_))))))))))))
   obtain ⟨x12,h11,h⟩:=bnd h
   refine Rn.call (args:=[(l_ r8)]) tv rfl (H_product_key _ _ h11) pc9 (Rn.mapset (ek:=(fun (x:ByteArray)=>(.d (.str x):V))) (ev:=(fun (x:Int)=>((i_ x):V))) (m:=([]:List (ByteArray×Int))) (k:=x12) (v:=0) (fun _ _=>rfl) (fun _=>rfl) (fun _=>rfl) tv rfl rfl rfl rfl rfl (Rn.mov (v:=.mp (Γ.n0+38)) tv rfl (Rn.mov (v:=.mp (Γ.n0+38)) tv rfl (nt ((Tr.seq (sr ((md rfl (nt ((Tr.block ?_))))))))))))
   refine Tr.weak (by show WeakSt Γ _ ⟨look ((3,.own 1 (List.map (eL 1 (eI .i64)) [r8])) :: [(0,(Qf l1)),(2,.ptr (Γ.n0+2) 0),(4,(i_ 0)),(5,(i_ x3)),(6,.ptr (Γ.n0+6) 0),(7,(l_ r8)),(8,(b_ r9)),(9,.mp (Γ.n0+38)),(10,(i_ 0)),(17,(Qf l1)),(18,(i_ x3)),(19,(i_ x3)),(20,(b_ (x3 != 0))),(23,(Qf l1)),(24,(Qbg x6)),(25,.ptr (Γ.n0+6) 1),(26,(l_ x6.events_)),(27,.ptr (Γ.n0+2) 0),(28,.tup [(l_ r8),(b_ r9)]),(29,(Qbg x6)),(30,.tup [(l_ r8),(b_ r9)]),(31,(l_ r8)),(32,(b_ r9)),(33,(b_ r9)),(34,(b_ (!r9))),(36,(l_ r8)),(38,.mp (Γ.n0+38)),(39,(l_ r8)),(40,.d (.str x12)),(41,.mp (Γ.n0+38))] ),Qm Γ.n0 (bxs [(2,.cells ([(l_ x6.events_),(i_ 0),.nils 1,.nils 3])),(6,.cells ((Qb3 x6))),(38,.mp (mapE (fun (x:ByteArray)=>(.d (.str x):V)) (fun (x:Int)=>((i_ x):V)) 0 (setM ([]:List (ByteArray×Int)) x12 0)) ((setM ([]:List (ByteArray×Int)) x12 0)).length)]) M,Γ.n0+117⟩; exact Qbje 37 3 [.lst 1 (List.map (eI .i64) r8)] rfl rfl rfl rfl rfl ⟨(sm rfl),(kPtr rfl),(sm rfl),(sm rfl),(kPtr rfl),(sm rfl),(sm rfl),(kMp rfl),(sm rfl),(sm rfl),(sm rfl),(sm rfl),(sm rfl),(sm rfl),(sm rfl),(kPtr rfl),(sm rfl),(kPtr rfl),(sm rfl),(sm rfl),(sm rfl),(sm rfl),(sm rfl),(sm rfl),(sm rfl),(sm rfl),(kMp rfl),(sm rfl),(sm rfl),(kMp rfl),tv⟩ ⟨bS rfl rfl rfl,bS rfl rfl rfl,⟨rfl,rfl⟩,tv⟩ rfl) ?_
   refine Tr.loop (mk:=fun ((tuples13,i14,a15,a16,c17):(List (List Int))×Int×(List Int)×(List Qc)×(List (ByteArray×Int)))=>⟨look [(2,.ptr (Γ.n0+2) 0),(3,.own 1 (List.map (eL 1 (eI .i64)) tuples13)),(6,.ptr (Γ.n0+6) 0),(9,.mp (Γ.n0+38)),(10,(i_ i14))],Qm Γ.n0 (bxs [(2,.cells ([(l_ x6.events_),(i_ 0),(o_ a15),(Qk a16)])),(6,.cells ((Qb3 x6))),(38,.mp (mapE (fun (x:ByteArray)=>(.d (.str x):V)) (fun (x:Int)=>((i_ x):V)) 0 c17) (c17).length)]) M,Γ.n0+117⟩) h (by exact Qj ⟨(kPtr rfl),(sm rfl),(kPtr rfl),(kMp rfl),(sm rfl),tv⟩ ⟨⟨_,rfl,rfl,(cS rfl (cS rfl (.cons (WkV.nilsO _) (.cons (WkV.nilsO _) .nil))))⟩,bS rfl rfl rfl,⟨rfl,rfl⟩,tv⟩ rfl) (fun k18 z h=>?_)
   ·obtain ⟨tuples13,i14,a15,a16,c17⟩:=z
    replace h:_=some _:=h
    refine Tr.seq (sr ((md rfl (Rn.mov (v:=.d (.lst 1 (List.map (eL 1 (eI .i64)) tuples13))) tv rfl (Rn.lenD tv rfl (Rn.bin tv rfl rfl rfl (Rn.nil (toN ?_))))))))
    refine Tr.cond rfl (fun hb19=>?_) (fun hb19=>?_)
    ·replace h:=ifT hb19 h
     refine Tr.skip (toN (Tr.seq (Tr.block ?_)))
     refine Tr.cutB (fun (a27:List Int)=>⟨look [(2,.ptr (Γ.n0+2) 0),(3,.own 1 (List.map (eL 1 (eI .i64)) tuples13)),(6,.ptr (Γ.n0+6) 0),(9,.mp (Γ.n0+38)),(10,(i_ i14))],Qm Γ.n0 (bxs [(2,.cells ([(l_ x6.events_),(i_ 0),(o_ a27),(Qk a16)])),(6,.cells ((Qb3 x6))),(38,.mp (mapE (fun (x:ByteArray)=>(.d (.str x):V)) (fun (x:Int)=>((i_ x):V)) 0 c17) (c17).length)]) M,Γ.n0+117⟩) h (fun z h=>?_) (fun z h=>?_)
     ·refine Tr.seq ?_
      refine Tr.rgnD (by decide) ?_
      refine lB (v:=(Qbg x6)) rfl rfl rfl rfl (Rn.mov (v:=.d (.lst 1 (List.map (eL 1 (eI .i64)) tuples13))) tv rfl (md rfl ?_))
      obtain ⟨x20,h21,h⟩:=bnd h
      refine Rn.idxD (e:=(eL 1 (eI .i64))) tv rfl rfl h21 (Rn.loadC (x:=.lst 1 (List.map (eI .i64) x20)) tv rfl ?_)
      obtain ⟨x23,h22,h⟩:=bnd h
      refine Rn.call (args:=[(Qbg x6),(l_ x20)]) tv rfl (H_product_machine_marked _ _ _ h22) pc0 ?_
      refine Rn.nil ⟨rfl,?_⟩
      refine toN ?_
      refine Tr.cond rfl (fun hb24=>?_) (fun hb24=>?_)
      ·replace h:=bT hb24 h
       refine Tr.rgn (Rn.fldP (o':=2) tv rfl rfl (Rn.loadT (cs':=[(l_ x6.events_),(i_ 0),(l_ a15),(Qk a16)]) tv rfl rfl rfl rfl (md rfl (Rn.bslice (xs:=[(i_ i14)]) (cs:=[(i_ i14)]) tv rfl rfl rfl rfl ?_))))
       obtain ⟨x25,h26,h⟩:=bnd h
       refine Rn.app (e:=(eI .i64)) tv rfl rfl rfl (Qcl rfl rfl rfl) h26 rfl (Rn.fldP (o':=2) tv rfl rfl (Rn.storeO (cs':=[(l_ x6.events_),(i_ 0),(o_ x25),(Qk a16)]) tv rfl rfl rfl rfl rfl (Rn.nil ?_)))
       replace h:=si h; subst h
       exact Qg [57] ⟨(kPtr rfl),(sm rfl),(kPtr rfl),(kMp rfl),(sm rfl),tv⟩ ⟨bS rfl rfl rfl,bS rfl rfl rfl,⟨rfl,rfl⟩,tv⟩ rfl
      ·replace h:=bF hb24 h
       refine Tr.skip ?_
       replace h:=si h; subst h
       exact Qg [] ⟨(kPtr rfl),(sm rfl),(kPtr rfl),(kMp rfl),(sm rfl),tv⟩ ⟨bS rfl rfl rfl,bS rfl rfl rfl,⟨rfl,rfl⟩,tv⟩ rfl
     ·obtain ⟨a27,rfl⟩ : ∃ x,x=z:=⟨_,rfl⟩
      refine sr ((Rn.fldP (o':=1) tv rfl rfl (lB (v:=(l_ x6.events_)) rfl rfl rfl rfl (Rn.lenD tv rfl (md rfl (nt ((Tr.block ?_))))))))
      refine Tr.loop (mk:=fun ((tuples28,x29,a30,c31):(List (List Int))×Int×(List Qc)×(List (ByteArray×Int)))=>⟨look [(2,.ptr (Γ.n0+2) 0),(3,.own 1 (List.map (eL 1 (eI .i64)) tuples28)),(6,.ptr (Γ.n0+6) 0),(9,.mp (Γ.n0+38)),(10,(i_ i14)),(61,(l_ x6.events_)),(62,(i_ (x6.events_.length:Int))),(63,(i_ x29))],Qm Γ.n0 (bxs [(2,.cells ([(l_ x6.events_),(i_ 0),(o_ a27),(Qk a30)])),(6,.cells ((Qb3 x6))),(38,.mp (mapE (fun (x:ByteArray)=>(.d (.str x):V)) (fun (x:Int)=>((i_ x):V)) 0 c31) (c31).length)]) M,Γ.n0+117⟩) h (by exact Qj ⟨(kPtr rfl),(sm rfl),(kPtr rfl),(kMp rfl),(sm rfl),(sm rfl),(sm rfl),(sm rfl),tv⟩ ⟨bS rfl rfl rfl,bS rfl rfl rfl,⟨rfl,rfl⟩,tv⟩ rfl) (fun k32 z h=>?_)
      ·obtain ⟨tuples28,x29,a30,c31⟩:=z
       replace h:_=some _:=h
       refine sr ((Rn.bin tv rfl rfl rfl (nt ((Tr.seq ?_)))))
       refine Tr.cond rfl (fun hb33=>?_) (fun hb33=>?_)
       ·replace h:=ifT hb33 h
        refine Tr.skip (toN ?_)
        refine Tr.cutJ (fun ((tuples56,a57,c58):(List (List Int))×(List Qc)×(List (ByteArray×Int)))=>⟨look [(2,.ptr (Γ.n0+2) 0),(3,.own 1 (List.map (eL 1 (eI .i64)) tuples56)),(6,.ptr (Γ.n0+6) 0),(9,.mp (Γ.n0+38)),(10,(i_ i14)),(61,(l_ x6.events_)),(62,(i_ (x6.events_.length:Int))),(63,(i_ x29))],Qm Γ.n0 (bxs [(2,.cells ([(l_ x6.events_),(i_ 0),(o_ a27),(Qk a57)])),(6,.cells ((Qb3 x6))),(38,.mp (mapE (fun (x:ByteArray)=>(.d (.str x):V)) (fun (x:Int)=>((i_ x):V)) 0 c58) (c58).length)]) M,Γ.n0+117⟩) h (fun J59 h=>?_) (fun z h=>?_)
        ·refine Tr.block (Tr.seq (Tr.rgn ?_))
         obtain ⟨x34,h35,h⟩:=bnd h
         refine Rn.idxD (e:=(eI .i64)) tv rfl rfl h35 (Rn.loadC (x:=.int .i64 x34) tv rfl (md rfl (nt ((Tr.seq ?_)))))
         refine Tr.rgnD (by decide) ?_
         refine lB (v:=(Qbg x6)) rfl rfl rfl rfl (Rn.mov (v:=.d (.lst 1 (List.map (eL 1 (eI .i64)) tuples28))) tv rfl (md rfl ?_))
         obtain ⟨x36,h37,h⟩:=bnd h
         refine Rn.idxD (e:=(eL 1 (eI .i64))) tv rfl rfl h37 (Rn.loadC (x:=.lst 1 (List.map (eI .i64) x36)) tv rfl (md rfl ?_))
         obtain ⟨⟨r39,r40⟩,h38,h⟩:=bnd h
         refine Rn.call (args:=[(Qbg x6),(l_ x36),(i_ x34)]) tv rfl (H_product_machine_step _ _ _ _ h38) pc0 (Rn.mov (v:=.tup [(l_ r39),(b_ r40)]) tv rfl (Rn.extTD (vs:=[(l_ r39),(b_ r40)]) tv rfl rfl rfl (Rn.ext (v:=(b_ r40)) (vs:=[(l_ r39),(b_ r40)]) tv rfl rfl rfl (Rn.movTD tv rfl (md rfl ?_)))))
         refine Rn.nil ⟨rfl,?_⟩
         refine toN (Tr.seq (sr ((md rfl (Rn.un tv rfl rfl (Rn.nil (toN ?_)))))))
         refine Tr.cond rfl (fun hb41=>?_) (fun hb41=>?_)
         ·have hb41:=nT' hb41
          replace h:=bF hb41 h
          refine Tr.exit ?_
          exact ⟨_,h,(by exact Qg [] ⟨(kPtr rfl),(sm rfl),(kPtr rfl),(kMp rfl),(sm rfl),(sm rfl),(sm rfl),(sm rfl),tv⟩ ⟨bS rfl rfl rfl,bS rfl rfl rfl,⟨rfl,rfl⟩,tv⟩ rfl)⟩
         ·have hb41:=nF' hb41
          replace h:=bT hb41 h
          refine Tr.skip (toN (sr ((Rn.mov (v:=.mp (Γ.n0+38)) tv rfl (md rfl ?_)))))
          obtain ⟨x43,h42,h⟩:=bnd h
          refine Rn.call (args:=[(l_ r39)]) tv rfl (H_product_key _ _ h42) pc9 (Rn.lookupC (ek:=(fun (x:ByteArray)=>(.d (.str x):V))) (ev:=(fun (x:Int)=>((i_ x):V))) (m:=c31) (k:=x43) (fun _ _=>rfl) (fun _=>rfl) (fun _=>rfl) 0 rfl tv rfl rfl rfl (Rn.mov (v:=.tup [(i_ (getM c31 x43 0)),(b_ (hasM c31 x43))]) tv rfl (Rn.ext (v:=(i_ (getM c31 x43 0))) (vs:=[(i_ (getM c31 x43 0)),(b_ (hasM c31 x43))]) tv rfl rfl rfl (Rn.ext (v:=(b_ (hasM c31 x43))) (vs:=[(i_ (getM c31 x43 0)),(b_ (hasM c31 x43))]) tv rfl rfl rfl (md rfl (md rfl (Rn.nil (toN ?_))))))))
          refine Tr.cutJ (fun ((tuples50,to51,c52):(List (List Int))×Int×(List (ByteArray×Int)))=>⟨look [(2,.ptr (Γ.n0+2) 0),(3,.own 1 (List.map (eL 1 (eI .i64)) tuples50)),(6,.ptr (Γ.n0+6) 0),(9,.mp (Γ.n0+38)),(10,(i_ i14)),(12,(i_ x34)),(15,(i_ to51)),(61,(l_ x6.events_)),(62,(i_ (x6.events_.length:Int))),(63,(i_ x29))],Qm Γ.n0 (bxs [(2,.cells ([(l_ x6.events_),(i_ 0),(o_ a27),(Qk a30)])),(6,.cells ((Qb3 x6))),(38,.mp (mapE (fun (x:ByteArray)=>(.d (.str x):V)) (fun (x:Int)=>((i_ x):V)) 0 c52) (c52).length)]) M,Γ.n0+117⟩) h (fun J55 h=>?_) (fun z h=>?_)
          ·refine sr ((md rfl (Rn.un tv rfl rfl (Rn.nil (toN ?_)))))
           refine Tr.cond rfl (fun hb44=>?_) (fun hb44=>?_)
           ·have hb44:=nT' hb44
            replace h:=bF hb44 h
            refine Tr.seq (sr ((Rn.mov (v:=.d (.lst 1 (List.map (eL 1 (eI .i64)) tuples28))) tv rfl (Rn.lenD tv rfl (Rn.bin tv rfl rfl rfl (Rn.nil (toN ?_)))))))
            refine Tr.cond rfl (fun hb45=>?_) (fun hb45=>?_)
            ·replace h:=bT hb45 h
             refine sr ((Rn.build (v:=.agg [.nils 1,(i_ 0),.nils 1,.nils 3]) tv rfl (Rn.storeT (v:=.agg [.nils 1,(i_ 0),.nils 1,.nils 3]) (ds:=[.nils 1,(i_ 0),.nils 1,.nils 3]) (cs':=[.nils 1,(i_ 0),.nils 1,.nils 3]) tv rfl rfl rfl rfl rfl rfl rfl (Rn.movTC (v:=.nils 1) tv (md rfl (nt ((Tr.ret ?_))))))))
             replace h:=si h; subst h
             exact ⟨.inr rfl,.tup [.agg [.nils 1,(i_ 0),.nils 1,.nils 3],.nils 1,(i_ 3)],res3 (Qfh rfl rfl rfl rfl) rfl rfl,(WkV.tup (.cons (WkV.agg (.cons (WkV.nilsD _) (.cons (.same rfl) (.cons (WkV.nilsD _) (.cons (WkV.nilsD _) .nil))))) (.cons (WkV.nilsO _) (.cons (.same rfl) .nil)))).rd,⟨⟨tv,tv,tv,tv,tv⟩,tv,tv,tv⟩,mB⟩
            ·replace h:=bF hb45 h
             refine Tr.skip (toN (sr ((Rn.mov (v:=.d (.lst 1 (List.map (eL 1 (eI .i64)) tuples28))) tv rfl (Rn.lenD tv rfl (md rfl (nt ((sr ((Rn.mov (v:=.mp (Γ.n0+38)) tv rfl (md rfl ?_))))))))))))
             obtain ⟨x47,h46,h⟩:=bnd h
             refine Rn.call (args:=[(l_ r39)]) tv rfl (H_product_key _ _ h46) pc9 (md rfl (Rn.mapset (ek:=(fun (x:ByteArray)=>(.d (.str x):V))) (ev:=(fun (x:Int)=>((i_ x):V))) (m:=c31) (k:=x47) (v:=(tuples28.length:Int)) (fun _ _=>rfl) (fun _=>rfl) (fun _=>rfl) tv rfl rfl rfl rfl rfl (nt ((Tr.rgn (Rn.movTO tv rfl (md rfl (Rn.bslice (xs:=[(l_ r39)]) (cs:=[(l_ r39)]) tv rfl rfl rfl rfl ?_))))))))
             obtain ⟨x48,h49,h⟩:=bnd h
             refine Rn.app (e:=(eL 1 (eI .i64))) tv rfl rfl rfl (Qcl rfl rfl rfl) h49 rfl (Rn.movTO tv rfl (Rn.nil ?_))
             exact ⟨_,h,(by exact Qg [100] ⟨(kPtr rfl),(sm rfl),(kPtr rfl),(kMp rfl),(sm rfl),(sm rfl),(sm rfl),(sm rfl),(sm rfl),(sm rfl),tv⟩ ⟨bS rfl rfl rfl,bS rfl rfl rfl,⟨rfl,rfl⟩,tv⟩ rfl)⟩
           ·have hb44:=nF' hb44
            replace h:=bT hb44 h
            refine Tr.skip ?_
            exact ⟨_,h,(by exact Qg [] ⟨(kPtr rfl),(sm rfl),(kPtr rfl),(kMp rfl),(sm rfl),(sm rfl),(sm rfl),(sm rfl),(sm rfl),(sm rfl),tv⟩ ⟨bS rfl rfl rfl,bS rfl rfl rfl,⟨rfl,rfl⟩,tv⟩ rfl)⟩
          ·obtain ⟨tuples50,to51,c52⟩:=z
           refine Tr.rgn (Rn.fldP (o':=3) tv rfl rfl (Rn.loadT (cs':=[(l_ x6.events_),(i_ 0),(o_ a27),(Qe a30)]) tv rfl rfl rfl rfl (md rfl (md rfl (md rfl (Rn.build (v:=.agg [(i_ i14),(i_ x34),(i_ to51)]) tv rfl (Rn.bslice (xs:=[.agg [(i_ i14),(i_ x34),(i_ to51)]]) (cs:=[(i_ i14),(i_ x34),(i_ to51)]) tv rfl rfl rfl rfl ?_)))))))
           obtain ⟨x53,h54,h⟩:=bnd h
           refine Rn.app (e:=Qv) tv rfl rfl rfl (Qcl rfl rfl rfl) h54 rfl (Rn.fldP (o':=3) tv rfl rfl (Rn.storeO (cs':=[(l_ x6.events_),(i_ 0),(o_ a27),(Qk x53)]) tv rfl rfl rfl rfl rfl (Rn.nil ?_)))
           exact ⟨_,h,(by exact Qg [108] ⟨(kPtr rfl),(sm rfl),(kPtr rfl),(kMp rfl),(sm rfl),(sm rfl),(sm rfl),(sm rfl),tv⟩ ⟨bS rfl rfl rfl,bS rfl rfl rfl,⟨rfl,rfl⟩,tv⟩ rfl)⟩
        ·obtain ⟨tuples56,a57,c58⟩:=z
         refine Tr.rgn (Rn.bin tv rfl rfl rfl (md rfl (Rn.nil ?_)))
         exact ⟨_,h,(by exact Qj ⟨(kPtr rfl),(sm rfl),(kPtr rfl),(kMp rfl),(sm rfl),(sm rfl),(sm rfl),(sm rfl),tv⟩ ⟨bS rfl rfl rfl,bS rfl rfl rfl,⟨rfl,rfl⟩,tv⟩ rfl)⟩
       ·replace h:=ifF hb33 h
        refine Tr.exit (toN (Tr.rgn (md rfl (Rn.bin tv rfl rfl rfl (md rfl (Rn.nil ?_))))))
        exact ⟨_,h,(by exact Qj ⟨(kPtr rfl),(sm rfl),(kPtr rfl),(kMp rfl),(sm rfl),tv⟩ ⟨bS rfl rfl rfl,bS rfl rfl rfl,⟨rfl,rfl⟩,tv⟩ rfl)⟩
    ·replace h:=ifF hb19 h
     refine Tr.exit (toN (sr ((Rn.mov (v:=.d (.lst 1 (List.map (eL 1 (eI .i64)) tuples13))) tv rfl (Rn.lenD tv rfl (Rn.fldP (o':=1) tv rfl rfl (Rn.store (v:=(i_ (tuples13.length:Int))) (cs':=[(l_ x6.events_),(i_ (tuples13.length:Int)),(o_ a15),(Qk a16)]) tv rfl rfl rfl rfl rfl rfl (nt ((sr ((lB (v:=.agg [(l_ x6.events_),(i_ (tuples13.length:Int)),(l_ a15),(Qe a16)]) rfl rfl rfl rfl (Rn.movTO tv rfl (Rn.storeT (v:=.agg [(l_ x6.events_),(i_ (tuples13.length:Int)),(l_ a15),(Qe a16)]) (ds:=[(l_ x6.events_),(i_ (tuples13.length:Int)),(l_ a15),(Qe a16)]) (cs':=[(l_ x6.events_),(i_ (tuples13.length:Int)),(l_ a15),(Qe a16)]) tv rfl rfl rfl rfl rfl rfl rfl (Rn.movTO tv rfl (md rfl (nt ((Tr.ret ?_)))))))))))))))))))
     replace h:=si h; subst h
     exact ⟨.inr rfl,.tup [.agg [(l_ x6.events_),(i_ (tuples13.length:Int)),(l_ a15),(Qe a16)],.own 1 (List.map (eL 1 (eI .i64)) tuples13),(i_ 0)],res3 (Qfh rfl rfl rfl rfl) rfl rfl,(WkV.tup (.cons (.same rfl) (.cons (.same rfl) (.cons (.same rfl) .nil)))).rd,⟨⟨tv,tv,tv,tv,tv⟩,tv,tv,tv⟩,mB⟩
theorem Qxl {P:Program} {c:Nat} (hcf:Qq P c=some Qi1) (fuel:Nat):Qi0 P c (Qb7 fuel):=by
 intro a1 r h
 refine Qc6 hcf rfl fun Γ M hP hnt hM=>?_
 subst hP
 refine Tr.init [(0,(Qb a1))] rfl ?_
 unfold Qb7 at h
 unfold Qi1
 refine sr ((Rn.box (v:=(Qb a1)) (cs:=(Qd a1)) tv rfl rfl rfl rfl rfl (Rn.mov (v:=.und) tv rfl (nt ((sr ((Rn.mkmap tv rfl (fun (x:Int×Int)=>(.agg [(i_ x.1),(i_ x.2)]:V)) (fun (x:Int)=>((i_ x):V)) (Rn.mov (v:=.mp (Γ.n0+6)) tv rfl (Rn.nil (toN ?_)))))))))))
 refine Tr.cutB (fun (c8:List ((Int×Int)×Int))=>⟨look [(3,.mp (Γ.n0+6))],Qm Γ.n0 (bxs [(1,.cells ((Qd a1))),(6,.mp (mapE (fun (x:Int×Int)=>(.agg [(i_ x.1),(i_ x.2)]:V)) (fun (x:Int)=>((i_ x):V)) 0 c8) (c8).length)]) M,Γ.n0+24⟩) h (fun z h=>?_) (fun z h=>?_)
 ·refine sr ((Rn.fldP (o':=3) tv rfl rfl (lB (v:=(Qe a1.zL)) rfl rfl rfl rfl (Rn.lenD tv rfl (md rfl (nt ((Tr.block ?_))))))))
  refine Tr.loop (mk:=fun ((x2,c3):Int×(List ((Int×Int)×Int)))=>⟨look [(3,.mp (Γ.n0+6)),(8,(Qe a1.zL)),(9,(i_ (a1.zL.length:Int))),(10,(i_ x2))],Qm Γ.n0 (bxs [(1,.cells ((Qd a1))),(6,.mp (mapE (fun (x:Int×Int)=>(.agg [(i_ x.1),(i_ x.2)]:V)) (fun (x:Int)=>((i_ x):V)) 0 c3) (c3).length)]) M,Γ.n0+24⟩) h (by exact Qj ⟨(kMp rfl),(sm rfl),(sm rfl),(sm rfl),tv⟩ ⟨bS rfl rfl rfl,⟨rfl,rfl⟩,tv⟩ rfl) (fun k4 z h=>?_)
  ·obtain ⟨x2,c3⟩:=z
   replace h:_=some _:=h
   refine sr ((Rn.bin tv rfl rfl rfl (nt ((Tr.seq ?_)))))
   refine Tr.cond rfl (fun hb5=>?_) (fun hb5=>?_)
   ·replace h:=ifT hb5 h
    refine Tr.skip (toN (Tr.seq (Tr.block (Tr.seq (Tr.rgn ?_)))))
    obtain ⟨x6,h7,h⟩:=bnd h
    refine Rn.idxD (e:=Qv) tv rfl rfl h7 (Rn.loadCA (vs:=(Qbe x6)) tv rfl rfl rfl (Rn.alloc tv rfl (Rn.store (v:=(Qbh x6)) (cs':=(Qbe x6)) tv rfl rfl rfl rfl rfl rfl (nt ((Tr.rgn (Rn.mov (v:=.mp (Γ.n0+6)) tv rfl (Rn.fldP (o':=0) tv rfl rfl (lB (v:=(i_ x6.From)) rfl rfl rfl rfl (Rn.fldP (o':=1) tv rfl rfl (lB (v:=(i_ x6.Event)) rfl rfl rfl rfl (Rn.build (v:=.agg [(i_ x6.From),(i_ x6.Event)]) tv rfl (Rn.fldP (o':=2) tv rfl rfl (lB (v:=(i_ x6.To)) rfl rfl rfl rfl (Rn.mapset (ek:=(fun (x:Int×Int)=>(.agg [(i_ x.1),(i_ x.2)]:V))) (ev:=(fun (x:Int)=>((i_ x):V))) (m:=c3) (k:=(x6.From,x6.Event)) (v:=x6.To) Qbji (fun _=>rfl) (fun _=>rfl) tv rfl rfl rfl rfl rfl (nt ((Tr.rgn (Rn.bin tv rfl rfl rfl (md rfl (Rn.nil ?_)))))))))))))))))))))
    exact ⟨_,h,(by exact Qj ⟨(kMp rfl),(sm rfl),(sm rfl),(sm rfl),tv⟩ ⟨bS rfl rfl rfl,⟨rfl,rfl⟩,tv⟩ rfl)⟩
   ·replace h:=ifF hb5 h
    refine Tr.exit ?_
    replace h:=si h; subst h
    exact Qg [] ⟨(kMp rfl),tv⟩ ⟨bS rfl rfl rfl,⟨rfl,rfl⟩,tv⟩ rfl
 ·obtain ⟨c8,rfl⟩ : ∃ x,x=z:=⟨_,rfl⟩
  refine sr ((Rn.mov (v:=.mp (Γ.n0+6)) tv rfl (Rn.mov (v:=.mp (Γ.n0+6)) tv rfl (Rn.nil (toN ?_)))))
  refine Tr.weak (by show WeakSt Γ _ ⟨look [(2,.d (mq0 c8)),(3,.d (mq0 c8)),(23,.d (mq0 c8))],Qm Γ.n0 (bxs [(1,.cells ((Qd a1)))]) M,Γ.n0+24⟩; exact Qbdl (ek:=(fun (x:Int×Int)=>(.agg [(i_ x.1),(i_ x.2)]:V))) (ev:=(fun (x:Int)=>((i_ x):V))) (m:=c8) 6 rfl (fun _=>rfl) (fun _=>rfl) ⟨mMpS,mMpS,mMpS,tv⟩ ⟨bS rfl rfl rfl,tv⟩ rfl) ?_
  refine Tr.ret ?_
  replace h:=si h; subst h
  exact ⟨.inr rfl,(.d (mq0 c8)),rfl,fun _ _ _ _ h=>h,tv,mB⟩
theorem Qs5 {P:Program} {c:Nat} {Qb4:(List Int)→(List Int)→Option Bool} {Qy:(List Int)→Int→Option Int} {Q2:(List Qa)→Option (Qa×(List (List Int))×Int)} {Qcs:(List Qa)→Option Int} {Qt:Int→Option Bool} {Qb7:Qa→Option ((List ((Int×Int)×Int)))} {Qi:(List Int)→Int→Option Bool}
    (H_alphabet_Subset:Qj6 P 8 Qb4)
    (H_alphabet_CheckSet:Qfr P 9 Qy)
    (H_product_Synchronous:Qgf P 11 Q2)
    (H_product_Check:Qmz P 26 Qcs)
    (H_timedsynthesis_event:Qem P 27 Qt)
    (H_timedsynthesis_steps:Qi0 P 28 Qb7)
    (H_alphabet_Contains:Qcf P 29 Qi) (hcf:Qq P c=some Qgt) (fuel:Nat):Qgs P c (Qby Qb4 Qy Q2 Qcs Qt Qb7 Qi fuel):=by
 intro plant1 requirements2 uncontrollable3 tick4 r h
 refine Qc6 hcf rfl fun Γ M hP hnt hM=>?_
 subst hP
 refine Tr.init [(0,(Qb plant1)),(1,(Qf requirements2)),(2,(l_ uncontrollable3)),(3,(i_ tick4))] rfl ?_
 unfold Qby at h
 unfold Qgt
 refine sr ((Rn.box (v:=(Qb plant1)) (cs:=(Qd plant1)) tv rfl rfl rfl rfl rfl (Rn.alloc tv rfl (Rn.movTC (v:=.nils 1) tv (md rfl (nt ((sr ((lB (v:=(Qb plant1)) rfl rfl rfl rfl (Rn.bslice (xs:=[(Qb plant1)]) (cs:=(Qd plant1)) tv rfl rfl rfl rfl (md rfl ?_))))))))))))
 refine Rn.weak (by show WeakSt Γ _ ⟨look ((29,.own 4 (List.map Qr [plant1])) :: [(0,(Qb plant1)),(1,(Qf requirements2)),(2,(l_ uncontrollable3)),(3,(i_ tick4)),(4,.ptr (Γ.n0+4) 0),(8,.ptr (Γ.n0+8) 0),(9,.nils 1),(10,(i_ 0)),(28,(Qb plant1)),(30,(Qf requirements2))] ),Qm Γ.n0 (bxs [(4,.cells ((Qd plant1))),(8,.cells ([.nils 1,(i_ 0),.nils 1,.nils 3]))]) M,Γ.n0+154⟩; exact Qbje 29 29 [.lst 1 (List.map (eI .i64) plant1.zJ),.int .i64 plant1.zM,.lst 1 (List.map (eI .i64) plant1.zK),.lst 3 (List.map Qv plant1.zL)] rfl rfl rfl rfl rfl ⟨(sm rfl),(sm rfl),(sm rfl),(sm rfl),(kPtr rfl),(kPtr rfl),(sm rfl),(sm rfl),(sm rfl),(sm rfl),tv⟩ ⟨bS rfl rfl rfl,bS rfl rfl rfl,tv⟩ rfl) ?_
 obtain ⟨x5,h6,h⟩:=bnd h
 refine Rn.app (e:=Qr) tv rfl rfl rfl Qbff h6 rfl (Rn.movTO tv rfl (nt ((Tr.seq (sr ((Rn.mov (v:=(Qf x5)) tv rfl ?_)))))))
 obtain ⟨x8,h7,h⟩:=bnd h
 refine Rn.call (args:=[(Qf x5)]) tv rfl (H_product_Check _ _ h7) pc9 (md rfl (nt ((sr ((md rfl (Rn.bin tv rfl rfl rfl (Rn.nil (toN ?_)))))))))
 refine Tr.cond rfl (fun hb9=>?_) (fun hb9=>?_)
 ·replace h:=bT hb9 h
  refine sr ((Rn.build (v:=.agg [.nils 1,(i_ 0),.nils 1,.nils 3]) tv rfl (md rfl (Rn.storeT (v:=.agg [.nils 1,(i_ 0),.nils 1,.nils 3]) (ds:=[.nils 1,(i_ 0),.nils 1,.nils 3]) (cs':=[.nils 1,(i_ 0),.nils 1,.nils 3]) tv rfl rfl rfl rfl rfl rfl rfl (Rn.movTC (v:=.nils 1) tv (md rfl (nt ((Tr.ret ?_)))))))))
  replace h:=si h; subst h
  exact ⟨.inr rfl,.tup [.agg [.nils 1,(i_ 0),.nils 1,.nils 3],.nils 1,(i_ x8)],res3 (Qfh rfl rfl rfl rfl) rfl rfl,(WkV.tup (.cons (WkV.agg (.cons (WkV.nilsD _) (.cons (.same rfl) (.cons (WkV.nilsD _) (.cons (WkV.nilsD _) .nil))))) (.cons (WkV.nilsD _) (.cons (.same rfl) .nil)))).rd,⟨⟨tv,tv,tv,tv,tv⟩,tv,tv,tv⟩,mB⟩
 ·replace h:=bF hb9 h
  refine Tr.skip (toN (Tr.seq (sr ((md rfl (Rn.lenD tv rfl (md rfl (nt ((Tr.block ?_))))))))))
  refine Tr.loop (mk:=fun (x10:Int)=>⟨look [(2,(l_ uncontrollable3)),(3,(i_ tick4)),(4,.ptr (Γ.n0+4) 0),(8,.ptr (Γ.n0+8) 0),(11,(Qda x5)),(38,(Qf requirements2)),(39,(i_ (requirements2.length:Int))),(40,(i_ x10))],Qm Γ.n0 (bxs [(4,.cells ((Qd plant1))),(8,.cells ([.nils 1,(i_ 0),.nils 1,.nils 3]))]) M,Γ.n0+154⟩) h (by exact Qj ⟨(sm rfl),(sm rfl),(kPtr rfl),(kPtr rfl),(sm rfl),(sm rfl),(sm rfl),(sm rfl),tv⟩ ⟨bS rfl rfl rfl,bS rfl rfl rfl,tv⟩ rfl) (fun k11 z h=>?_)
  ·obtain ⟨x10,rfl⟩ : ∃ x,x=z:=⟨_,rfl⟩
   replace h:_=some _:=h
   refine sr ((Rn.bin tv rfl rfl rfl (nt ((Tr.seq ?_)))))
   refine Tr.cond rfl (fun hb12=>?_) (fun hb12=>?_)
   ·replace h:=ifT hb12 h
    refine Tr.skip (toN (Tr.seq (Tr.block (Tr.seq (Tr.rgn ?_)))))
    obtain ⟨x13,h14,h⟩:=bnd h
    refine Rn.idxD (e:=Qr) tv rfl rfl h14 (Rn.loadCA (vs:=(Qd x13)) tv rfl rfl rfl (Rn.alloc tv rfl (Rn.storeT (v:=(Qb x13)) (ds:=(Qd x13)) (cs':=(Qd x13)) tv rfl rfl rfl rfl rfl rfl rfl (nt ((sr ((Rn.fldP (o':=0) tv rfl rfl (lB (v:=(l_ x13.zJ)) rfl rfl rfl rfl (Rn.fldP (o':=0) tv rfl rfl (lB (v:=(l_ plant1.zJ)) rfl rfl rfl rfl ?_)))))))))))
    obtain ⟨x16,h15,h⟩:=bnd h
    refine Rn.call (args:=[(l_ x13.zJ),(l_ plant1.zJ)]) tv rfl (H_alphabet_Subset _ _ _ h15) pc9 (Rn.un tv rfl rfl (Rn.nil (toN ?_)))
    refine Tr.cond rfl (fun hb17=>?_) (fun hb17=>?_)
    ·have hb17:=nT' hb17
     replace h:=bF hb17 h
     refine sr ((Rn.build (v:=.agg [.nils 1,(i_ 0),.nils 1,.nils 3]) tv rfl (Rn.storeT (v:=.agg [.nils 1,(i_ 0),.nils 1,.nils 3]) (ds:=[.nils 1,(i_ 0),.nils 1,.nils 3]) (cs':=[.nils 1,(i_ 0),.nils 1,.nils 3]) tv rfl rfl rfl rfl rfl rfl rfl (Rn.movTC (v:=.nils 1) tv (md rfl (nt ((Tr.ret ?_))))))))
     replace h:=si h; subst h
     exact ⟨.inr rfl,.tup [.agg [.nils 1,(i_ 0),.nils 1,.nils 3],.nils 1,(i_ 9)],res3 (Qfh rfl rfl rfl rfl) rfl rfl,(WkV.tup (.cons (WkV.agg (.cons (WkV.nilsD _) (.cons (.same rfl) (.cons (WkV.nilsD _) (.cons (WkV.nilsD _) .nil))))) (.cons (WkV.nilsD _) (.cons (.same rfl) .nil)))).rd,⟨⟨tv,tv,tv,tv,tv⟩,tv,tv,tv⟩,mB⟩
    ·have hb17:=nF' hb17
     replace h:=bT hb17 h
     refine Tr.skip (toN (Tr.rgn (Rn.bin tv rfl rfl rfl (md rfl (Rn.nil ?_)))))
     exact ⟨_,h,(by exact Qj ⟨(sm rfl),(sm rfl),(kPtr rfl),(kPtr rfl),(sm rfl),(sm rfl),(sm rfl),(sm rfl),tv⟩ ⟨bS rfl rfl rfl,bS rfl rfl rfl,tv⟩ rfl)⟩
   ·replace h:=ifF hb12 h
    refine Tr.exit (toN (Tr.seq (sr ((md rfl ?_)))))
    obtain ⟨x19,h18,h⟩:=bnd h
    refine Rn.call (args:=[(l_ uncontrollable3),(i_ 32)]) tv rfl (H_alphabet_CheckSet _ _ _ h18) pc9 (md rfl (nt ((sr ((md rfl (Rn.bin tv rfl rfl rfl (Rn.nil (toN ?_)))))))))
    refine Tr.cond rfl (fun hb20=>?_) (fun hb20=>?_)
    ·replace h:=bT hb20 h
     refine sr ((Rn.build (v:=.agg [.nils 1,(i_ 0),.nils 1,.nils 3]) tv rfl (md rfl (Rn.storeT (v:=.agg [.nils 1,(i_ 0),.nils 1,.nils 3]) (ds:=[.nils 1,(i_ 0),.nils 1,.nils 3]) (cs':=[.nils 1,(i_ 0),.nils 1,.nils 3]) tv rfl rfl rfl rfl rfl rfl rfl (Rn.movTC (v:=.nils 1) tv (md rfl (nt ((Tr.ret ?_)))))))))
     replace h:=si h; subst h
     exact ⟨.inr rfl,.tup [.agg [.nils 1,(i_ 0),.nils 1,.nils 3],.nils 1,(i_ x19)],res3 (Qfh rfl rfl rfl rfl) rfl rfl,(WkV.tup (.cons (WkV.agg (.cons (WkV.nilsD _) (.cons (.same rfl) (.cons (WkV.nilsD _) (.cons (WkV.nilsD _) .nil))))) (.cons (WkV.nilsD _) (.cons (.same rfl) .nil)))).rd,⟨⟨tv,tv,tv,tv,tv⟩,tv,tv,tv⟩,mB⟩
    ·replace h:=bF hb20 h
     refine Tr.skip (toN (Tr.seq (sr ((md rfl ?_)))))
     obtain ⟨x22,h21,h⟩:=bnd h
     refine Rn.call (args:=[(i_ tick4)]) tv rfl (H_timedsynthesis_event _ _ h21) pc9 (Rn.un tv rfl rfl (Rn.nil (toN ?_)))
     refine Tr.cond rfl (fun hb23=>?_) (fun hb23=>?_)
     ·have hb23:=nT' hb23
      replace h:=bF hb23 h
      refine sr ((Rn.build (v:=.agg [.nils 1,(i_ 0),.nils 1,.nils 3]) tv rfl (Rn.storeT (v:=.agg [.nils 1,(i_ 0),.nils 1,.nils 3]) (ds:=[.nils 1,(i_ 0),.nils 1,.nils 3]) (cs':=[.nils 1,(i_ 0),.nils 1,.nils 3]) tv rfl rfl rfl rfl rfl rfl rfl (Rn.movTC (v:=.nils 1) tv (md rfl (nt ((Tr.ret ?_))))))))
      replace h:=si h; subst h
      exact ⟨.inr rfl,.tup [.agg [.nils 1,(i_ 0),.nils 1,.nils 3],.nils 1,(i_ 2)],res3 (Qfh rfl rfl rfl rfl) rfl rfl,(WkV.tup (.cons (WkV.agg (.cons (WkV.nilsD _) (.cons (.same rfl) (.cons (WkV.nilsD _) (.cons (WkV.nilsD _) .nil))))) (.cons (WkV.nilsD _) (.cons (.same rfl) .nil)))).rd,⟨⟨tv,tv,tv,tv,tv⟩,tv,tv,tv⟩,mB⟩
     ·have hb23:=nF' hb23
      replace h:=bT hb23 h
      refine Tr.skip (toN (sr ((Rn.mov (v:=(Qf x5)) tv rfl ?_))))
      obtain ⟨⟨r25,r26,r27⟩,h24,h⟩:=bnd h
      refine Rn.call (args:=[(Qf x5)]) tv rfl (H_product_Synchronous _ _ h24) pc9 (Rn.mov (v:=.tup [(Qb r25),.d (.lst 1 (List.map (eL 1 (eI .i64)) r26)),(i_ r27)]) tv rfl (Rn.ext (v:=(Qb r25)) (vs:=[(Qb r25),.d (.lst 1 (List.map (eL 1 (eI .i64)) r26)),(i_ r27)]) tv rfl rfl rfl (Rn.extTD (vs:=[(Qb r25),.d (.lst 1 (List.map (eL 1 (eI .i64)) r26)),(i_ r27)]) tv rfl rfl rfl (Rn.ext (v:=(i_ r27)) (vs:=[(Qb r25),.d (.lst 1 (List.map (eL 1 (eI .i64)) r26)),(i_ r27)]) tv rfl rfl rfl (Rn.storeT (v:=(Qb r25)) (ds:=(Qd r25)) (cs':=(Qd r25)) tv rfl rfl rfl rfl rfl rfl rfl (Rn.movTD tv rfl (md rfl (nt ((Tr.seq ?_))))))))))
      refine Tr.cutB (fun (x29:Bool)=>⟨look [(2,(l_ uncontrollable3)),(3,(i_ tick4)),(4,.ptr (Γ.n0+4) 0),(8,.ptr (Γ.n0+8) 0),(16,.d (.lst 1 (List.map (eL 1 (eI .i64)) r26))),(74,(b_ x29))],Qm Γ.n0 (bxs [(4,.cells ((Qd plant1))),(8,.cells ((Qd r25)))]) M,Γ.n0+154⟩) h (fun z h=>?_) (fun z h=>?_)
      ·refine Tr.rgn (md rfl (Rn.bin tv rfl rfl rfl (md rfl ?_)))
       refine Qbz (r27 != 0) (fun hb28=>?_) (fun hb28=>?_)
       ·replace h:=bT hb28 h
        refine Rn.sk (nw rfl hb28) (Rn.sk (nw rfl hb28) (Rn.sk (nw rfl hb28) (Rn.pickT (v:=(b_ true)) tv rfl hb28 rfl (Rn.nil ?_))))
        replace h:=si h; subst h
        exact Qg [] ⟨(sm rfl),(sm rfl),(kPtr rfl),(kPtr rfl),(sm rfl),(sm rfl),tv⟩ ⟨bS rfl rfl rfl,bS rfl rfl rfl,tv⟩ rfl
       ·replace h:=bF hb28 h
        refine Rn.fldP (o':=1) (gw rfl hb28) rfl rfl (Rn.load (v:=(i_ r25.zM)) (gw rfl hb28) rfl (Q6 rfl) rfl rfl (Rn.bin (gw rfl hb28) rfl rfl rfl (Rn.pickF (v:=(b_ (r25.zM == 4096))) tv rfl hb28 rfl (Rn.nil ?_))))
        replace h:=si h; subst h
        exact Qg [] ⟨(sm rfl),(sm rfl),(kPtr rfl),(kPtr rfl),(sm rfl),(sm rfl),tv⟩ ⟨bS rfl rfl rfl,bS rfl rfl rfl,tv⟩ rfl
      ·obtain ⟨x29,rfl⟩ : ∃ x,x=z:=⟨_,rfl⟩
       refine Tr.cond rfl (fun hb30=>?_) (fun hb30=>?_)
       ·replace h:=bT hb30 h
        refine sr ((Rn.build (v:=.agg [.nils 1,(i_ 0),.nils 1,.nils 3]) tv rfl (Rn.storeT (v:=.agg [.nils 1,(i_ 0),.nils 1,.nils 3]) (ds:=[.nils 1,(i_ 0),.nils 1,.nils 3]) (cs':=[.nils 1,(i_ 0),.nils 1,.nils 3]) tv rfl rfl rfl rfl rfl rfl rfl (Rn.movTC (v:=.nils 1) tv (md rfl (nt ((Tr.ret ?_))))))))
        replace h:=si h; subst h
        exact ⟨.inr rfl,.tup [.agg [.nils 1,(i_ 0),.nils 1,.nils 3],.nils 1,(i_ 3)],res3 (Qfh rfl rfl rfl rfl) rfl rfl,(WkV.tup (.cons (WkV.agg (.cons (WkV.nilsD _) (.cons (.same rfl) (.cons (WkV.nilsD _) (.cons (WkV.nilsD _) .nil))))) (.cons (WkV.nilsD _) (.cons (.same rfl) .nil)))).rd,⟨⟨tv,tv,tv,tv,tv⟩,tv,tv,tv⟩,mB⟩
       ·replace h:=bF hb30 h
        refine Tr.skip (toN (Tr.seq ?_))
        refine Tr.rgnD (by decide) ?_
        refine lB (v:=(Qb plant1)) rfl rfl rfl rfl ?_
        obtain ⟨x32,h31,h⟩:=bnd h
        refine Rn.call (args:=[(Qb plant1)]) tv rfl (H_timedsynthesis_steps _ _ h31) (fun _=>Qbfg hM rfl) (lB (v:=(Qb r25)) rfl rfl rfl rfl ?_)
        obtain ⟨x34,h33,h⟩:=bnd h
        refine Rn.call (args:=[(Qb r25)]) tv rfl (H_timedsynthesis_steps _ _ h33) (fun _=>Qbfg hM rfl) (md rfl (md rfl ?_))
        refine Rn.nil ⟨rfl,?_⟩
        refine toN (sr ((Rn.fldP (o':=1) tv rfl rfl (lB (v:=(i_ r25.zM)) rfl rfl rfl rfl (md rfl (nt ((sr ((Rn.fldP (o':=1) tv rfl rfl (lB (v:=(i_ r25.zM)) rfl rfl rfl rfl (Rn.bin tv rfl rfl rfl (Rn.fldP (o':=1) tv rfl rfl (Rn.store (v:=(i_ (IntKind.wrap .i64 (r25.zM+1)))) (cs':=[(l_ r25.zJ),(i_ (IntKind.wrap .i64 (r25.zM+1))),(l_ r25.zK),(Qe r25.zL)]) tv rfl rfl rfl rfl rfl rfl (nt ((sr ((Rn.fldP (o':=3) tv rfl rfl (Rn.store (v:=.nils 3) (cs':=[(l_ r25.zJ),(i_ (IntKind.wrap .i64 (r25.zM+1))),(l_ r25.zK),.nils 3]) tv rfl rfl rfl rfl rfl rfl (Rn.nil (toN ?_))))))))))))))))))))))
        refine Tr.cutB (fun ((a63,a64):Int×(List Qc))=>⟨look [(8,.ptr (Γ.n0+8) 0),(19,(i_ r25.zM))],Qm Γ.n0 (bxs [(4,.cells ((Qd plant1))),(8,.cells ([(l_ r25.zJ),(i_ a63),(l_ r25.zK),(Qk a64)]))]) M,Γ.n0+154⟩) h (fun z h=>?_) (fun z h=>?_)
        ·refine sr ((md rfl (Rn.lenD tv rfl (md rfl (nt ((Tr.block ?_)))))))
         refine Tr.loop (mk:=fun ((x35,a36,a37):Int×Int×(List Qc))=>⟨look [(2,(l_ uncontrollable3)),(3,(i_ tick4)),(8,.ptr (Γ.n0+8) 0),(17,.d (mq0 x32)),(18,.d (mq0 x34)),(19,(i_ r25.zM)),(87,.d (.lst 1 (List.map (eL 1 (eI .i64)) r26))),(88,(i_ (r26.length:Int))),(89,(i_ x35))],Qm Γ.n0 (bxs [(4,.cells ((Qd plant1))),(8,.cells ([(l_ r25.zJ),(i_ a36),(l_ r25.zK),(Qk a37)]))]) M,Γ.n0+154⟩) h (by exact Qj ⟨(sm rfl),(sm rfl),(kPtr rfl),(sm rfl),(sm rfl),(sm rfl),(sm rfl),(sm rfl),(sm rfl),tv⟩ ⟨bS rfl rfl rfl,⟨_,rfl,rfl,(cS rfl (cS rfl (cS rfl (.cons (WkV.nilsO _) .nil))))⟩,tv⟩ rfl) (fun k38 z h=>?_)
         ·obtain ⟨x35,a36,a37⟩:=z
          replace h:_=some _:=h
          refine sr ((Rn.bin tv rfl rfl rfl (nt ((Tr.seq ?_)))))
          refine Tr.cond rfl (fun hb39=>?_) (fun hb39=>?_)
          ·replace h:=ifT hb39 h
           refine Tr.skip (toN ?_)
           refine Tr.cutB (fun (a62:List Qc)=>⟨look [(2,(l_ uncontrollable3)),(3,(i_ tick4)),(8,.ptr (Γ.n0+8) 0),(17,.d (mq0 x32)),(18,.d (mq0 x34)),(19,(i_ r25.zM)),(87,.d (.lst 1 (List.map (eL 1 (eI .i64)) r26))),(88,(i_ (r26.length:Int))),(89,(i_ x35))],Qm Γ.n0 (bxs [(4,.cells ((Qd plant1))),(8,.cells ([(l_ r25.zJ),(i_ a36),(l_ r25.zK),(Qk a62)]))]) M,Γ.n0+154⟩) h (fun z h=>?_) (fun z h=>?_)
           ·refine Tr.block (sr ((md rfl ?_)))
            obtain ⟨x40,h41,h⟩:=bnd h
            refine Rn.idxD (e:=(eL 1 (eI .i64))) tv rfl rfl h41 (Rn.loadC (x:=.lst 1 (List.map (eI .i64) x40)) tv rfl (md rfl (Rn.movTD tv rfl (nt ((sr ((Rn.fldP (o':=0) tv rfl rfl (lB (v:=(l_ r25.zJ)) rfl rfl rfl rfl (Rn.lenD tv rfl (md rfl (nt ((Tr.block ?_))))))))))))))
            refine Tr.loop (mk:=fun ((x42,a43):Int×(List Qc))=>⟨look [(2,(l_ uncontrollable3)),(3,(i_ tick4)),(8,.ptr (Γ.n0+8) 0),(17,.d (mq0 x32)),(18,.d (mq0 x34)),(19,(i_ r25.zM)),(20,(i_ x35)),(21,(l_ x40)),(87,.d (.lst 1 (List.map (eL 1 (eI .i64)) r26))),(88,(i_ (r26.length:Int))),(89,(i_ x35)),(95,(l_ r25.zJ)),(96,(i_ (r25.zJ.length:Int))),(97,(i_ x42))],Qm Γ.n0 (bxs [(4,.cells ((Qd plant1))),(8,.cells ([(l_ r25.zJ),(i_ a36),(l_ r25.zK),(Qk a43)]))]) M,Γ.n0+154⟩) h (by exact Qj ⟨(sm rfl),(sm rfl),(kPtr rfl),(sm rfl),(sm rfl),(sm rfl),(sm rfl),(sm rfl),(sm rfl),(sm rfl),(sm rfl),(sm rfl),(sm rfl),(sm rfl),tv⟩ ⟨bS rfl rfl rfl,bS rfl rfl rfl,tv⟩ rfl) (fun k44 z h=>?_)
            ·obtain ⟨x42,a43⟩:=z
             replace h:_=some _:=h
             refine sr ((Rn.bin tv rfl rfl rfl (nt ((Tr.seq ?_)))))
             refine Tr.cond rfl (fun hb45=>?_) (fun hb45=>?_)
             ·replace h:=ifT hb45 h
              refine Tr.skip (toN ?_)
              refine Tr.cutB (fun (a61:List Qc)=>⟨look [(2,(l_ uncontrollable3)),(3,(i_ tick4)),(8,.ptr (Γ.n0+8) 0),(17,.d (mq0 x32)),(18,.d (mq0 x34)),(19,(i_ r25.zM)),(20,(i_ x35)),(21,(l_ x40)),(87,.d (.lst 1 (List.map (eL 1 (eI .i64)) r26))),(88,(i_ (r26.length:Int))),(89,(i_ x35)),(95,(l_ r25.zJ)),(96,(i_ (r25.zJ.length:Int))),(97,(i_ x42))],Qm Γ.n0 (bxs [(4,.cells ((Qd plant1))),(8,.cells ([(l_ r25.zJ),(i_ a36),(l_ r25.zK),(Qk a61)]))]) M,Γ.n0+154⟩) h (fun z h=>?_) (fun z h=>?_)
              ·refine Tr.block (Tr.seq (Tr.rgn ?_))
               obtain ⟨x46,h47,h⟩:=bnd h
               refine Rn.idxD (e:=(eI .i64)) tv rfl rfl h47 (Rn.loadC (x:=.int .i64 x46) tv rfl (md rfl (nt ((sr ((md rfl (md rfl (md rfl (Rn.build (v:=.agg [(i_ x35),(i_ x46)]) tv rfl (Rn.lookupDC (ek:=(fun (x:Int×Int)=>(.agg [(i_ x.1),(i_ x.2)]:V))) (ev:=(fun (x:Int)=>((i_ x):V))) (m:=x34) (k:=(x35,x46)) Qbji (fun _=>rfl) (fun _=>rfl) (fun _=>rfl) (fun _=>rfl) 0 rfl tv rfl rfl (Rn.mov (v:=.tup [(i_ (getM x34 (x35,x46) 0)),(b_ (hasM x34 (x35,x46)))]) tv rfl (Rn.ext (v:=(i_ (getM x34 (x35,x46) 0))) (vs:=[(i_ (getM x34 (x35,x46) 0)),(b_ (hasM x34 (x35,x46)))]) tv rfl rfl rfl (Rn.ext (v:=(b_ (hasM x34 (x35,x46)))) (vs:=[(i_ (getM x34 (x35,x46) 0)),(b_ (hasM x34 (x35,x46)))]) tv rfl rfl rfl (md rfl (md rfl (nt ((sr ((md rfl (Rn.nil (toN ?_)))))))))))))))))))))))
               refine Tr.cond rfl (fun hb48=>?_) (fun hb48=>?_)
               ·replace h:=bT hb48 h
                refine Tr.rgn (Rn.fldP (o':=3) tv rfl rfl (Rn.loadT (cs':=[(l_ r25.zJ),(i_ a36),(l_ r25.zK),(Qe a43)]) tv rfl rfl rfl rfl (md rfl (md rfl (md rfl (Rn.build (v:=.agg [(i_ x35),(i_ x46),(i_ (getM x34 (x35,x46) 0))]) tv rfl (Rn.bslice (xs:=[.agg [(i_ x35),(i_ x46),(i_ (getM x34 (x35,x46) 0))]]) (cs:=[(i_ x35),(i_ x46),(i_ (getM x34 (x35,x46) 0))]) tv rfl rfl rfl rfl ?_)))))))
                obtain ⟨x49,h50,h⟩:=bnd h
                refine Rn.app (e:=Qv) tv rfl rfl rfl (Qcl rfl rfl rfl) h50 rfl (Rn.fldP (o':=3) tv rfl rfl (Rn.storeO (cs':=[(l_ r25.zJ),(i_ a36),(l_ r25.zK),(Qk x49)]) tv rfl rfl rfl rfl rfl (Rn.nil ?_)))
                replace h:=si h; subst h
                exact Qg [116] ⟨(sm rfl),(sm rfl),(kPtr rfl),(sm rfl),(sm rfl),(sm rfl),(sm rfl),(sm rfl),(sm rfl),(sm rfl),(sm rfl),(sm rfl),(sm rfl),(sm rfl),tv⟩ ⟨bS rfl rfl rfl,bS rfl rfl rfl,tv⟩ rfl
               ·replace h:=bF hb48 h
                refine sr ((md rfl (md rfl ?_)))
                obtain ⟨x51,h52,h⟩:=bnd h
                refine Rn.idxD (e:=(eI .i64)) tv rfl rfl h52 (Rn.loadC (x:=.int .i64 x51) tv rfl (md rfl (Rn.build (v:=.agg [(i_ x51),(i_ x46)]) tv rfl (Rn.lookupDC (ek:=(fun (x:Int×Int)=>(.agg [(i_ x.1),(i_ x.2)]:V))) (ev:=(fun (x:Int)=>((i_ x):V))) (m:=x32) (k:=(x51,x46)) Qbji (fun _=>rfl) (fun _=>rfl) (fun _=>rfl) (fun _=>rfl) 0 rfl tv rfl rfl (Rn.mov (v:=.tup [(i_ (getM x32 (x51,x46) 0)),(b_ (hasM x32 (x51,x46)))]) tv rfl (Rn.ext (v:=(i_ (getM x32 (x51,x46) 0))) (vs:=[(i_ (getM x32 (x51,x46) 0)),(b_ (hasM x32 (x51,x46)))]) tv rfl rfl rfl (Rn.ext (v:=(b_ (hasM x32 (x51,x46)))) (vs:=[(i_ (getM x32 (x51,x46) 0)),(b_ (hasM x32 (x51,x46)))]) tv rfl rfl rfl (md rfl (md rfl (Rn.nil (toN ?_)))))))))))
                refine Tr.cutB (fun (x57:Bool)=>⟨look [(2,(l_ uncontrollable3)),(3,(i_ tick4)),(8,.ptr (Γ.n0+8) 0),(17,.d (mq0 x32)),(18,.d (mq0 x34)),(19,(i_ r25.zM)),(20,(i_ x35)),(21,(l_ x40)),(23,(i_ x46)),(87,.d (.lst 1 (List.map (eL 1 (eI .i64)) r26))),(88,(i_ (r26.length:Int))),(89,(i_ x35)),(95,(l_ r25.zJ)),(96,(i_ (r25.zJ.length:Int))),(97,(i_ x42)),(139,(b_ x57))],Qm Γ.n0 (bxs [(4,.cells ((Qd plant1))),(8,.cells ([(l_ r25.zJ),(i_ a36),(l_ r25.zK),(Qk a43)]))]) M,Γ.n0+154⟩) h (fun z h=>?_) (fun z h=>?_)
                ·refine Tr.rgn (md rfl (md rfl ?_))
                 refine Qbz (hasM x32 (x51,x46)) (fun hb53=>?_) (fun hb53=>?_)
                 ·replace h:=bT hb53 h
                  refine Rn.movD (gw rfl hb53) rfl (Rn.movD (gw rfl hb53) rfl (Rn.bin (gw rfl hb53) rfl rfl rfl (Rn.movD (gw rfl hb53) rfl ?_)))
                  refine Qbz (x46 == tick4) (fun hb54=>?_) (fun hb54=>?_)
                  ·replace h:=bT hb54 h
                   refine Rn.sk (nw rfl hb54) (Rn.sk (nw rfl hb54) (Rn.sk (nw rfl hb54) (Rn.pickT (v:=(b_ true)) (gw rfl hb53) rfl hb54 rfl (Rn.pickT (v:=(b_ true)) tv rfl hb53 rfl (Rn.nil ?_)))))
                   replace h:=si h; subst h
                   exact Qg [] ⟨(sm rfl),(sm rfl),(kPtr rfl),(sm rfl),(sm rfl),(sm rfl),(sm rfl),(sm rfl),(sm rfl),(sm rfl),(sm rfl),(sm rfl),(sm rfl),(sm rfl),(sm rfl),(sm rfl),tv⟩ ⟨bS rfl rfl rfl,bS rfl rfl rfl,tv⟩ rfl
                  ·replace h:=bF hb54 h
                   refine Rn.movD (gw rfl hb54) rfl (Rn.movD (gw rfl hb54) rfl ?_)
                   obtain ⟨x56,h55,h⟩:=bnd h
                   refine Rn.call (args:=[(l_ uncontrollable3),(i_ x46)]) (gw rfl hb54) rfl (H_alphabet_Contains _ _ _ h55) pc9 (Rn.pickF (v:=(b_ x56)) (gw rfl hb53) rfl hb54 rfl (Rn.pickT (v:=(b_ x56)) tv rfl hb53 rfl (Rn.nil ?_)))
                   replace h:=si h; subst h
                   exact Qg [] ⟨(sm rfl),(sm rfl),(kPtr rfl),(sm rfl),(sm rfl),(sm rfl),(sm rfl),(sm rfl),(sm rfl),(sm rfl),(sm rfl),(sm rfl),(sm rfl),(sm rfl),(sm rfl),(sm rfl),tv⟩ ⟨bS rfl rfl rfl,bS rfl rfl rfl,tv⟩ rfl
                 ·replace h:=bF hb53 h
                  refine Rn.sk (nw rfl hb53) (Rn.sk (nw rfl hb53) (Rn.sk (nw rfl hb53) (Rn.sk (nw rfl hb53) (Rn.sk (nu rfl) (Rn.sk (nu rfl) (Rn.sk (nu rfl) (Rn.sk (nw rfl hb53) (Rn.pickF (v:=(b_ false)) tv rfl hb53 rfl (Rn.nil ?_)))))))))
                  replace h:=si h; subst h
                  exact Qg [] ⟨(sm rfl),(sm rfl),(kPtr rfl),(sm rfl),(sm rfl),(sm rfl),(sm rfl),(sm rfl),(sm rfl),(sm rfl),(sm rfl),(sm rfl),(sm rfl),(sm rfl),(sm rfl),(sm rfl),tv⟩ ⟨bS rfl rfl rfl,bS rfl rfl rfl,tv⟩ rfl
                ·obtain ⟨x57,rfl⟩ : ∃ x,x=z:=⟨_,rfl⟩
                 refine Tr.cond rfl (fun hb58=>?_) (fun hb58=>?_)
                 ·replace h:=bT hb58 h
                  refine Tr.rgn (Rn.fldP (o':=3) tv rfl rfl (Rn.loadT (cs':=[(l_ r25.zJ),(i_ a36),(l_ r25.zK),(Qe a43)]) tv rfl rfl rfl rfl (md rfl (md rfl (md rfl (Rn.build (v:=.agg [(i_ x35),(i_ x46),(i_ r25.zM)]) tv rfl (Rn.bslice (xs:=[.agg [(i_ x35),(i_ x46),(i_ r25.zM)]]) (cs:=[(i_ x35),(i_ x46),(i_ r25.zM)]) tv rfl rfl rfl rfl ?_)))))))
                  obtain ⟨x59,h60,h⟩:=bnd h
                  refine Rn.app (e:=Qv) tv rfl rfl rfl (Qcl rfl rfl rfl) h60 rfl (Rn.fldP (o':=3) tv rfl rfl (Rn.storeO (cs':=[(l_ r25.zJ),(i_ a36),(l_ r25.zK),(Qk x59)]) tv rfl rfl rfl rfl rfl (Rn.nil ?_)))
                  replace h:=si h; subst h
                  exact Qg [146] ⟨(sm rfl),(sm rfl),(kPtr rfl),(sm rfl),(sm rfl),(sm rfl),(sm rfl),(sm rfl),(sm rfl),(sm rfl),(sm rfl),(sm rfl),(sm rfl),(sm rfl),tv⟩ ⟨bS rfl rfl rfl,bS rfl rfl rfl,tv⟩ rfl
                 ·replace h:=bF hb58 h
                  refine Tr.skip ?_
                  replace h:=si h; subst h
                  exact Qg [] ⟨(sm rfl),(sm rfl),(kPtr rfl),(sm rfl),(sm rfl),(sm rfl),(sm rfl),(sm rfl),(sm rfl),(sm rfl),(sm rfl),(sm rfl),(sm rfl),(sm rfl),tv⟩ ⟨bS rfl rfl rfl,bS rfl rfl rfl,tv⟩ rfl
              ·obtain ⟨a61,rfl⟩ : ∃ x,x=z:=⟨_,rfl⟩
               refine Tr.rgn (Rn.bin tv rfl rfl rfl (md rfl (Rn.nil ?_)))
               exact ⟨_,h,(by exact Qj ⟨(sm rfl),(sm rfl),(kPtr rfl),(sm rfl),(sm rfl),(sm rfl),(sm rfl),(sm rfl),(sm rfl),(sm rfl),(sm rfl),(sm rfl),(sm rfl),(sm rfl),tv⟩ ⟨bS rfl rfl rfl,bS rfl rfl rfl,tv⟩ rfl)⟩
             ·replace h:=ifF hb45 h
              refine Tr.exit ?_
              replace h:=si h; subst h
              exact Qg [] ⟨(sm rfl),(sm rfl),(kPtr rfl),(sm rfl),(sm rfl),(sm rfl),(sm rfl),(sm rfl),(sm rfl),tv⟩ ⟨bS rfl rfl rfl,bS rfl rfl rfl,tv⟩ rfl
           ·obtain ⟨a62,rfl⟩ : ∃ x,x=z:=⟨_,rfl⟩
            refine Tr.rgn (Rn.bin tv rfl rfl rfl (md rfl (Rn.nil ?_)))
            exact ⟨_,h,(by exact Qj ⟨(sm rfl),(sm rfl),(kPtr rfl),(sm rfl),(sm rfl),(sm rfl),(sm rfl),(sm rfl),(sm rfl),tv⟩ ⟨bS rfl rfl rfl,bS rfl rfl rfl,tv⟩ rfl)⟩
          ·replace h:=ifF hb39 h
           refine Tr.exit ?_
           replace h:=si h; subst h
           exact Qg [] ⟨(kPtr rfl),(sm rfl),tv⟩ ⟨bS rfl rfl rfl,bS rfl rfl rfl,tv⟩ rfl
        ·obtain ⟨a63,a64⟩:=z
         refine sr ((lB (v:=.agg [(l_ r25.zJ),(i_ a63),(l_ r25.zK),(Qe a64)]) rfl rfl rfl rfl (md rfl (Rn.bslice (xs:=[(i_ r25.zM)]) (cs:=[(i_ r25.zM)]) tv rfl rfl rfl rfl (Rn.storeT (v:=.agg [(l_ r25.zJ),(i_ a63),(l_ r25.zK),(Qe a64)]) (ds:=[(l_ r25.zJ),(i_ a63),(l_ r25.zK),(Qe a64)]) (cs':=[(l_ r25.zJ),(i_ a63),(l_ r25.zK),(Qe a64)]) tv rfl rfl rfl rfl rfl rfl rfl (Rn.movTF (v:=.sl 1 (Γ.n0+153) 0 1 1) tv rfl rfl (md rfl (Rn.nil (toN ?_)))))))))
         refine Tr.weak (by show WeakSt Γ _ ⟨look [(8,.ptr (Γ.n0+8) 0),(9,(l_ [r25.zM])),(10,(i_ 0)),(19,(i_ r25.zM)),(151,.agg [(l_ r25.zJ),(i_ a63),(l_ r25.zK),(Qe a64)]),(152,(i_ r25.zM)),(153,(l_ [r25.zM]))],Qm Γ.n0 (bxs [(4,.cells ((Qd plant1))),(8,.cells ([(l_ r25.zJ),(i_ a63),(l_ r25.zK),(Qe a64)]))]) M,Γ.n0+154⟩; exact Qeb 153 [.int .i64 r25.zM] rfl rfl ⟨(fPtr rfl),(fSl rfl rfl),(.same rfl),(.same rfl),(.same rfl),(.same rfl),(fSl rfl rfl),tv⟩ ⟨bS rfl rfl rfl,bS rfl rfl rfl,tv⟩ rfl) ?_
         refine Tr.ret ?_
         replace h:=si h; subst h
         exact ⟨.inr rfl,.tup [.agg [(l_ r25.zJ),(i_ a63),(l_ r25.zK),(Qe a64)],(l_ [r25.zM]),(i_ 0)],res3 (Qfh rfl rfl rfl rfl) rfl rfl,(WkV.tup (.cons (.same rfl) (.cons (.same rfl) (.cons (.same rfl) .nil)))).rd,⟨⟨tv,tv,tv,tv,tv⟩,tv,tv,tv⟩,mB⟩
theorem Q33 {P:Program} {c:Nat} (hcf:Qq P c=some Qlj) (fuel:Nat):Qli P c (Qc7 fuel):=by
 intro s1 s2 r h
 refine Qc6 hcf rfl fun Γ M hP hnt hM=>?_
 subst hP
 refine Tr.init [(0,(Qe s1)),(1,(Qe s2))] rfl ?_
 unfold Qc7 at h
 unfold Qlj
 refine sr ((md rfl (nt ((Tr.seq (sr ((md rfl (Rn.lenD tv rfl (md rfl (Rn.lenD tv rfl (Rn.bin tv rfl rfl rfl (Rn.nil (toN ?_))))))))))))))
 refine Tr.cond rfl (fun hb3=>?_) (fun hb3=>?_)
 ·replace h:=bT hb3 h
  refine sr ((md rfl (nt ((Tr.ret ?_)))))
  replace h:=si h; subst h
  exact ⟨.inr rfl,(b_ false),rfl,fun _ _ _ _ h=>h,tv,mB⟩
 ·replace h:=bF hb3 h
  refine Tr.skip (toN (Tr.seq (sr ((md rfl (Rn.lenD tv rfl (md rfl (nt ((Tr.block ?_))))))))))
  refine Tr.loop (mk:=fun (x4:Int)=>⟨look [(0,(Qe s1)),(1,(Qe s2)),(12,(i_ (s1.length:Int))),(13,(i_ x4))],Qm Γ.n0 (bxs []) M,Γ.n0+26⟩) h (by exact Qj ⟨(sm rfl),(sm rfl),(sm rfl),(sm rfl),tv⟩ tv rfl) (fun k5 z h=>?_)
  ·obtain ⟨x4,rfl⟩ : ∃ x,x=z:=⟨_,rfl⟩
   replace h:_=some _:=h
   refine sr ((Rn.bin tv rfl rfl rfl (nt ((Tr.seq ?_)))))
   refine Tr.cond rfl (fun hb6=>?_) (fun hb6=>?_)
   ·replace h:=ifT hb6 h
    refine Tr.skip (toN (Tr.seq (Tr.block (sr ((md rfl (md rfl (nt ((Tr.seq ?_))))))))))
    refine Tr.rgnD (by decide) ?_
    refine md rfl (md rfl ?_)
    obtain ⟨x7,h8,h⟩:=bnd h
    refine Rn.idxD (e:=Qv) tv rfl rfl h8 (Rn.loadCA (vs:=(Qbe x7)) tv rfl rfl rfl (md rfl (md rfl ?_)))
    obtain ⟨x9,h10,h⟩:=bnd h
    refine Rn.idxD (e:=Qv) tv rfl rfl h10 (Rn.loadCA (vs:=(Qbe x9)) tv rfl rfl rfl (Rn.eqa (r:=((x7.From == x9.From) && ((x7.Event == x9.Event) && ((x7.To == x9.To) && true)))) tv rfl rfl rfl ?_))
    refine Rn.nil ⟨rfl,?_⟩
    refine toN ?_
    refine Tr.cond rfl (fun hb11=>?_) (fun hb11=>?_)
    ·have hb11:=nT' hb11
     replace h:=bF hb11 h
     refine sr ((md rfl (nt ((Tr.ret ?_)))))
     replace h:=si h; subst h
     exact ⟨.inr rfl,(b_ false),rfl,fun _ _ _ _ h=>h,tv,mB⟩
    ·have hb11:=nF' hb11
     replace h:=bT hb11 h
     refine Tr.skip (toN (Tr.rgn (Rn.bin tv rfl rfl rfl (md rfl (Rn.nil ?_)))))
     exact ⟨_,h,(by exact Qj ⟨(sm rfl),(sm rfl),(sm rfl),(sm rfl),tv⟩ tv rfl)⟩
   ·replace h:=ifF hb6 h
    refine Tr.exit (toN (sr ((md rfl (nt ((Tr.ret ?_)))))))
    replace h:=si h; subst h
    exact ⟨.inr rfl,(b_ true),rfl,fun _ _ _ _ h=>h,tv,mB⟩
theorem Q7y {P:Program} {c:Nat} {Qbm:(List Int)→(List Int)→Option Bool} {Qc7:(List Qc)→(List Qc)→Option Bool}
    (H_slices_Equal_int:Qjh P 36 Qbm)
    (H_slices_Equal_Edge:Qli P 40 Qc7) (hcf:Qq P c=some Qn1):Qj7 P c (Qb6 Qbm Qc7):=by
 intro a1 b2 r h
 refine Qc6 hcf rfl fun Γ M hP hnt hM=>?_
 subst hP
 refine Tr.init [(0,(Qb a1)),(1,(Qb b2))] rfl ?_
 unfold Qb6 at h
 unfold Qn1
 refine sr ((Rn.box (v:=(Qb a1)) (cs:=(Qd a1)) tv rfl rfl rfl rfl rfl (Rn.box (v:=(Qb b2)) (cs:=(Qd b2)) tv rfl rfl rfl rfl rfl (md rfl (nt ((sr ((Rn.fldP (o':=1) tv rfl rfl (lB (v:=(i_ a1.zM)) rfl rfl rfl rfl (Rn.fldP (o':=1) tv rfl rfl (lB (v:=(i_ b2.zM)) rfl rfl rfl rfl (Rn.bin tv rfl rfl rfl (md rfl ?_))))))))))))))
 refine Qbz (a1.zM == b2.zM) (fun hb3=>?_) (fun hb3=>?_)
 ·replace h:=bT hb3 h
  refine Rn.fldP (o':=0) (gw rfl hb3) rfl rfl (Rn.load (v:=(l_ a1.zJ)) (gw rfl hb3) rfl (Q6 rfl) rfl rfl (Rn.fldP (o':=0) (gw rfl hb3) rfl rfl (Rn.load (v:=(l_ b2.zJ)) (gw rfl hb3) rfl (Q6 rfl) rfl rfl ?_)))
  obtain ⟨x5,h4,h⟩:=bnd h
  refine Rn.call (args:=[(l_ a1.zJ),(l_ b2.zJ)]) (gw rfl hb3) rfl (H_slices_Equal_int _ _ _ h4) pc9 (Rn.pickT (v:=(b_ x5)) tv rfl hb3 rfl (md rfl ?_))
  refine Qbz x5 (fun hb6=>?_) (fun hb6=>?_)
  ·replace h:=bT hb6 h
   refine Rn.fldP (o':=2) (gw rfl hb6) rfl rfl (Rn.load (v:=(l_ a1.zK)) (gw rfl hb6) rfl (Q6 rfl) rfl rfl (Rn.fldP (o':=2) (gw rfl hb6) rfl rfl (Rn.load (v:=(l_ b2.zK)) (gw rfl hb6) rfl (Q6 rfl) rfl rfl ?_)))
   obtain ⟨x8,h7,h⟩:=bnd h
   refine Rn.call (args:=[(l_ a1.zK),(l_ b2.zK)]) (gw rfl hb6) rfl (H_slices_Equal_int _ _ _ h7) pc9 (Rn.pickT (v:=(b_ x8)) tv rfl hb6 rfl (md rfl ?_))
   refine Qbz x8 (fun hb9=>?_) (fun hb9=>?_)
   ·replace h:=bT hb9 h
    refine Rn.fldP (o':=3) (gw rfl hb9) rfl rfl (Rn.load (v:=(Qe a1.zL)) (gw rfl hb9) rfl (Q6 rfl) rfl rfl (Rn.fldP (o':=3) (gw rfl hb9) rfl rfl (Rn.load (v:=(Qe b2.zL)) (gw rfl hb9) rfl (Q6 rfl) rfl rfl ?_)))
    obtain ⟨x11,h10,h⟩:=bnd h
    refine Rn.call (args:=[(Qe a1.zL),(Qe b2.zL)]) (gw rfl hb9) rfl (H_slices_Equal_Edge _ _ _ h10) pc9 (Rn.pickT (v:=(b_ x11)) tv rfl hb9 rfl (md rfl (nt ((Tr.ret ?_)))))
    replace h:=si h; subst h
    exact ⟨.inr rfl,(b_ x11),rfl,fun _ _ _ _ h=>h,tv,mB⟩
   ·replace h:=bF hb9 h
    refine Rn.sk (nw rfl hb9) (Rn.sk (nw rfl hb9) (Rn.sk (nw rfl hb9) (Rn.sk (nw rfl hb9) (Rn.sk (nw rfl hb9) (Rn.pickF (v:=(b_ false)) tv rfl hb9 rfl (md rfl (nt ((Tr.ret ?_)))))))))
    replace h:=si h; subst h
    exact ⟨.inr rfl,(b_ false),rfl,fun _ _ _ _ h=>h,tv,mB⟩
  ·replace h:=bF hb6 h
   refine Rn.sk (nw rfl hb6) (Rn.sk (nw rfl hb6) (Rn.sk (nw rfl hb6) (Rn.sk (nw rfl hb6) (Rn.sk (nw rfl hb6) (Rn.pickF (v:=(b_ false)) tv rfl hb6 rfl (md rfl (sF rfl rfl (sF rfl rfl (sF rfl rfl (sF rfl rfl (sF rfl rfl (Rn.pickF (v:=(b_ false)) tv rfl rfl rfl (md rfl (nt ((Tr.ret ?_))))))))))))))))
   replace h:=si h; subst h
   exact ⟨.inr rfl,(b_ false),rfl,fun _ _ _ _ h=>h,tv,mB⟩
 ·replace h:=bF hb3 h
  refine Rn.sk (nw rfl hb3) (Rn.sk (nw rfl hb3) (Rn.sk (nw rfl hb3) (Rn.sk (nw rfl hb3) (Rn.sk (nw rfl hb3) (Rn.pickF (v:=(b_ false)) tv rfl hb3 rfl (md rfl (sF rfl rfl (sF rfl rfl (sF rfl rfl (sF rfl rfl (sF rfl rfl (Rn.pickF (v:=(b_ false)) tv rfl rfl rfl (md rfl (sF rfl rfl (sF rfl rfl (sF rfl rfl (sF rfl rfl (sF rfl rfl (Rn.pickF (v:=(b_ false)) tv rfl rfl rfl (md rfl (nt ((Tr.ret ?_)))))))))))))))))))))))
  replace h:=si h; subst h
  exact ⟨.inr rfl,(b_ false),rfl,fun _ _ _ _ h=>h,tv,mB⟩
theorem Q2i {P:Program} {c:Nat} {Qb6:Qa→Qa→Option Bool}
    (H_automaton_Equal:Qj7 P 15 Qb6) (hcf:Qq P c=some Qkk):Qkj P c (Qc1 Qb6):=by
 intro a1 r h
 refine Qc6 hcf rfl fun Γ M hP hnt hM=>?_
 subst hP
 refine Tr.init [(0,(Qb a1))] rfl ?_
 unfold Qc1 at h
 unfold Qkk
 refine sr ((Rn.box (v:=(Qb a1)) (cs:=(Qd a1)) tv rfl rfl rfl rfl rfl (md rfl (nt ((sr ((lB (v:=(Qb a1)) rfl rfl rfl rfl (Rn.build (v:=.agg [.nils 1,(i_ 0),.nils 1,.nils 3]) tv rfl ?_)))))))))
 obtain ⟨x3,h2,h⟩:=bnd h
 refine Rn.call (args:=[(Qb a1),.agg [.nils 1,(i_ 0),.nils 1,.nils 3]]) tv rfl (fun M2 nb2=>ACalls.weak (args':=[(Qb a1),.agg [(l_ []),(i_ 0),(l_ []),.d (.lst 3 (List.map Qv []))]]) (H_automaton_Equal _ _ _ h2 M2 nb2) (cS rfl (.cons (WkV.agg (.cons (WkV.nilsD _) (cS rfl (.cons (WkV.nilsD _) (.cons (WkV.nilsD _) .nil))))) .nil)) rfl) pc9 ?_
 refine md rfl (nt ((Tr.ret ?_)))
 replace h:=si h; subst h
 exact ⟨.inr rfl,(b_ x3),rfl,fun _ _ _ _ h=>h,tv,mB⟩
theorem Qxm {P:Program} {c:Nat} {Q5:Qa→Option Int}
    (H_automaton_Check:Qha P 55 Q5) (hcf:Qq P c=some Qi3):Qi2 P c (Qcj Q5):=by
 intro a1 state2 r h
 refine Qc6 hcf rfl fun Γ M hP hnt hM=>?_
 subst hP
 refine Tr.init [(0,(Qb a1)),(1,(i_ state2))] rfl ?_
 unfold Qcj at h
 unfold Qi3
 refine sr ((Rn.box (v:=(Qb a1)) (cs:=(Qd a1)) tv rfl rfl rfl rfl rfl (md rfl (nt ((Tr.seq (sr ((lB (v:=(Qb a1)) rfl rfl rfl rfl ?_)))))))))
 obtain ⟨x4,h3,h⟩:=bnd h
 refine Rn.call (args:=[(Qb a1)]) tv rfl (H_automaton_Check _ _ h3) pc9 (md rfl (nt ((sr ((md rfl (Rn.bin tv rfl rfl rfl (Rn.nil (toN ?_)))))))))
 refine Tr.cond rfl (fun hb5=>?_) (fun hb5=>?_)
 ·replace h:=bT hb5 h
  refine sr ((md rfl (md rfl (nt ((Tr.ret ?_))))))
  replace h:=si h; subst h
  exact ⟨.inr rfl,(i_ x4),rfl,fun _ _ _ _ h=>h,tv,mB⟩
 ·replace h:=bF hb5 h
  refine Tr.skip (toN (Tr.seq ?_))
  refine Tr.cutB (fun (x7:Bool)=>⟨look [(18,(b_ x7))],Qm Γ.n0 (bxs [(2,.cells ((Qd a1)))]) M,Γ.n0+19⟩) h (fun z h=>?_) (fun z h=>?_)
  ·refine Tr.rgn (md rfl (Rn.bin tv rfl rfl rfl (md rfl ?_)))
   refine Qbz (decide (state2 < 0)) (fun hb6=>?_) (fun hb6=>?_)
   ·replace h:=ifT hb6 h
    refine Rn.sk (nw rfl hb6) (Rn.sk (nw rfl hb6) (Rn.sk (nw rfl hb6) (Rn.sk (nw rfl hb6) (Rn.pickT (v:=(b_ true)) tv rfl hb6 rfl (Rn.nil ?_)))))
    replace h:=si h; subst h
    exact Qg [] ⟨(sm rfl),tv⟩ ⟨bS rfl rfl rfl,tv⟩ rfl
   ·replace h:=ifF hb6 h
    refine Rn.movD (gw rfl hb6) rfl (Rn.fldP (o':=1) (gw rfl hb6) rfl rfl (Rn.load (v:=(i_ a1.zM)) (gw rfl hb6) rfl (Q6 rfl) rfl rfl (Rn.bin (gw rfl hb6) rfl rfl rfl (Rn.pickF (v:=(b_ (decide (state2≥a1.zM)))) tv rfl hb6 rfl (Rn.nil ?_)))))
    replace h:=si h; subst h
    exact Qg [] ⟨(sm rfl),tv⟩ ⟨bS rfl rfl rfl,tv⟩ rfl
  ·obtain ⟨x7,rfl⟩ : ∃ x,x=z:=⟨_,rfl⟩
   refine Tr.cond rfl (fun hb8=>?_) (fun hb8=>?_)
   ·replace h:=bT hb8 h
    refine sr ((md rfl (nt ((Tr.ret ?_)))))
    replace h:=si h; subst h
    exact ⟨.inr rfl,(i_ 2),rfl,fun _ _ _ _ h=>h,tv,mB⟩
   ·replace h:=bF hb8 h
    refine Tr.skip (toN (sr ((md rfl (nt ((Tr.ret ?_)))))))
    replace h:=si h; subst h
    exact ⟨.inr rfl,(i_ 0),rfl,fun _ _ _ _ h=>h,tv,mB⟩
theorem Qni {P:Program} {c:Nat} (hcf:Qq P c=some Qfc) (fuel:Nat):Qfb P c (Q3 fuel):=by
 intro x1 target2 cmp3 g4 cp5 r h
 intro M nb hc6 ho8 hf7
 refine Qtp hcf rfl M nb fun Γ hP hnt hn0 hM=>?_
 subst hP hn0
 refine Tr.init [(0,(Qe x1)),(1,(i_ target2)),(2,.clo g4 cp5)] rfl ?_
 unfold Q3 at h
 unfold Qfc
 refine sr ((md rfl (md rfl (nt ((sr ((md rfl (Rn.lenD tv rfl (md rfl (nt ((sr ((md rfl (md rfl (md rfl (Rn.nil (toN ?_)))))))))))))))))))
 refine Tr.cutB (fun (i20:Int)=>⟨look [(0,(Qe x1)),(1,(i_ target2)),(2,.clo g4 cp5),(8,(i_ (x1.length:Int))),(9,(i_ i20))],Qm Γ.n0 (bxs []) M,Γ.n0+49⟩) h (fun z h=>?_) (fun z h=>?_)
 ·refine Tr.block ?_
  refine Tr.loop (mk:=fun ((i11,j12):Int×Int)=>⟨look [(0,(Qe x1)),(1,(i_ target2)),(2,.clo g4 cp5),(8,(i_ (x1.length:Int))),(9,(i_ i11)),(10,(i_ j12))],Qm Γ.n0 (bxs []) M,Γ.n0+49⟩) h (by exact Qj ⟨(sm rfl),(sm rfl),(kFun hM ho8),(sm rfl),(sm rfl),(sm rfl),tv⟩ tv rfl) (fun k13 z h=>?_)
  ·obtain ⟨i11,j12⟩:=z
   replace h:_=some _:=h
   refine Tr.seq (sr ((md rfl (md rfl (Rn.bin tv rfl rfl rfl (Rn.nil (toN ?_)))))))
   refine Tr.cond rfl (fun hb14=>?_) (fun hb14=>?_)
   ·replace h:=ifT hb14 h
    refine Tr.skip (toN (Tr.block (sr ((md rfl (md rfl (Rn.bin tv rfl rfl rfl (Rn.conv tv rfl (Rn.bin tv rfl rfl rfl (Rn.conv tv rfl (md rfl (nt ((sr ((Rn.mov (v:=.clo g4 cp5) tv rfl (md rfl (md rfl ?_))))))))))))))))))
    obtain ⟨x15,h16,h⟩:=bnd h
    refine Rn.idxD (e:=Qv) tv rfl rfl h16 (Rn.loadCA (vs:=(Qbe x15)) tv rfl rfl rfl (md rfl ?_))
    obtain ⟨x18,h17,h⟩:=bnd h
    refine Rn.callvM (args:=[(Qbh x15),(i_ target2)] ++ cp5) tv rfl (by rw [hc6]; rfl) (fun M2 nb2 hn hx=>hf7 _ _ _ h17 M2 nb2 (by omega) ((Qbdj hM).trans hx)) rfl pc9 ?_
    refine Rn.bin tv rfl rfl rfl (Rn.nil (toN ?_))
    refine Tr.cond rfl (fun hb19=>?_) (fun hb19=>?_)
    ·replace h:=ifT hb19 h
     refine Tr.rgn (md rfl (Rn.bin tv rfl rfl rfl (md rfl (Rn.nil ?_))))
     exact ⟨_,h,(by exact Qj ⟨(sm rfl),(sm rfl),(kFun hM ho8),(sm rfl),(sm rfl),(sm rfl),tv⟩ tv rfl)⟩
    ·replace h:=ifF hb19 h
     refine Tr.rgn (md rfl (md rfl (Rn.nil ?_)))
     exact ⟨_,h,(by exact Qj ⟨(sm rfl),(sm rfl),(kFun hM ho8),(sm rfl),(sm rfl),(sm rfl),tv⟩ tv rfl)⟩
   ·replace h:=ifF hb14 h
    refine Tr.exit ?_
    replace h:=si h; subst h
    exact Qg [] ⟨(sm rfl),(sm rfl),(kFun hM ho8),(sm rfl),(sm rfl),tv⟩ tv rfl
 ·obtain ⟨i20,rfl⟩ : ∃ x,x=z:=⟨_,rfl⟩
  refine sr ((md rfl (md rfl (md rfl (Rn.bin tv rfl rfl rfl (md rfl ?_))))))
  refine Qbz (decide (i20 < (x1.length:Int))) (fun hb21=>?_) (fun hb21=>?_)
  ·replace h:=ifT hb21 h
   refine Rn.mov (v:=.clo g4 cp5) (gw rfl hb21) rfl (Rn.movD (gw rfl hb21) rfl (Rn.movD (gw rfl hb21) rfl ?_))
   obtain ⟨x22,h23,h⟩:=bnd h
   refine Rn.idxD (e:=Qv) (gw rfl hb21) rfl rfl h23 (Rn.loadCA (vs:=(Qbe x22)) (gw rfl hb21) rfl rfl rfl (Rn.movD (gw rfl hb21) rfl ?_))
   obtain ⟨x25,h24,h⟩:=bnd h
   refine Rn.callvM (args:=[(Qbh x22),(i_ target2)] ++ cp5) (gw rfl hb21) rfl (by rw [hc6]; rfl) (fun M2 nb2 hn hx=>hf7 _ _ _ h24 M2 nb2 (by omega) ((Qbdj hM).trans hx)) rfl pc9 ?_
   refine Rn.bin (gw rfl hb21) rfl rfl rfl (Rn.pickT (v:=(b_ (x25 == 0))) tv rfl hb21 rfl (md rfl (md rfl (nt ((Tr.ret ?_))))))
   replace h:=si h; subst h
   exact ⟨.inr rfl,.tup [(i_ i20),(b_ (x25 == 0))],res2 rfl rfl,(WkV.tup (.cons (.same rfl) (.cons (.same rfl) .nil))).rd,⟨tv,tv,tv⟩,mB⟩
  ·replace h:=ifF hb21 h
   refine Rn.sk (nw rfl hb21) (Rn.sk (nw rfl hb21) (Rn.sk (nw rfl hb21) (Rn.sk (nw rfl hb21) (Rn.sk (nw rfl hb21) (Rn.sk (nw rfl hb21) (Rn.sk (nw rfl hb21) (Rn.sk (nw rfl hb21) (Rn.pickF (v:=(b_ false)) tv rfl hb21 rfl (md rfl (md rfl (nt ((Tr.ret ?_)))))))))))))
   replace h:=si h; subst h
   exact ⟨.inr rfl,.tup [(i_ i20),(b_ false)],res2 rfl rfl,(WkV.tup (.cons (.same rfl) (.cons (.same rfl) .nil))).rd,⟨tv,tv,tv⟩,mB⟩
theorem Q7z {P:Program} {c:Nat} (hcf:Qq P c=some Qoc):Qob P c (Qdn):=by
 intro x1 s2 r h
 refine Qc6 hcf rfl fun Γ M hP hnt hM=>?_
 subst hP
 refine Tr.init [(0,(Qbh x1)),(1,(i_ s2))] rfl ?_
 unfold Qdn at h
 unfold Qoc
 refine sr ((Rn.box (v:=(Qbh x1)) (cs:=(Qbe x1)) tv rfl rfl rfl rfl rfl (md rfl (nt ((sr ((Rn.fldP (o':=0) tv rfl rfl (lB (v:=(i_ x1.From)) rfl rfl rfl rfl (md rfl (Rn.bin tv rfl rfl rfl (md rfl (nt ((Tr.ret ?_)))))))))))))))
 replace h:=si h; subst h
 exact ⟨.inr rfl,(i_ (IntKind.wrap .i64 (x1.From - s2))),rfl,fun _ _ _ _ h=>h,tv,mB⟩
theorem Q70 {P:Program} {c:Nat} (hcf:Qq P c=some Qoe):Qod P c (Qdo):=by
 intro x1 s2 r h
 refine Qc6 hcf rfl fun Γ M hP hnt hM=>?_
 subst hP
 refine Tr.init [(0,(Qbh x1)),(1,(i_ s2))] rfl ?_
 unfold Qdo at h
 unfold Qoe
 refine sr ((Rn.box (v:=(Qbh x1)) (cs:=(Qbe x1)) tv rfl rfl rfl rfl rfl (md rfl (nt ((sr ((Rn.fldP (o':=0) tv rfl rfl (lB (v:=(i_ x1.From)) rfl rfl rfl rfl (md rfl (Rn.bin tv rfl rfl rfl (md rfl (nt ((Tr.ret ?_)))))))))))))))
 replace h:=si h; subst h
 exact ⟨.inr rfl,(i_ (IntKind.wrap .i64 (x1.From - s2))),rfl,fun _ _ _ _ h=>h,tv,mB⟩
theorem Qbbd {P:Program} {c:Nat} {Q3:(List Qc)→Int→(Qc→Int→Option Int)→Option (Int×Bool)} {Qdn:Qc→Int→Option Int} {Qdo:Qc→Int→Option Int}
    (H_slices_BinarySearchFunc_int:Qfb P 77 Q3)
    (H_automaton_out_1:Qob P 78 Qdn)
    (H_automaton_out_2:Qod P 79 Qdo) (hcf:Qq P c=some Quz):Quy P c (Qed Q3 Qdn Qdo):=by
 intro a1 state2 r h
 refine Qc6 hcf rfl fun Γ M hP hnt hM=>?_
 subst hP
 refine Tr.init [(0,(Qb a1)),(1,(i_ state2))] rfl ?_
 unfold Qed at h
 unfold Quz
 refine sr ((Rn.box (v:=(Qb a1)) (cs:=(Qd a1)) tv rfl rfl rfl rfl rfl (Rn.movTC (v:=.nils 3) tv (nt ((sr ((Rn.fldP (o':=3) tv rfl rfl (lB (v:=(Qe a1.zL)) rfl rfl rfl rfl (md rfl ?_))))))))))
 obtain ⟨⟨r8,r9⟩,h7,h⟩:=bnd h
 refine Rn.callM (args:=[(Qe a1.zL),(i_ state2),.clo 78 []]) tv rfl (fun M2 nb2 hn hx=>H_slices_BinarySearchFunc_int _ _ _ 78 [] _ h7 M2 nb2 rfl tv (fun a3 a4 r5 h6 M3 nb3 hn3 hx3=>H_automaton_out_1 a3 a4 r5 h6 M3 nb3 )) rfl pc9 ?_
 refine Rn.mov (v:=.tup [(i_ r8),(b_ r9)]) tv rfl (Rn.ext (v:=(i_ r8)) (vs:=[(i_ r8),(b_ r9)]) tv rfl rfl rfl (Rn.ext (v:=(b_ r9)) (vs:=[(i_ r8),(b_ r9)]) tv rfl rfl rfl (md rfl (md rfl (nt ((sr ((Rn.fldP (o':=3) tv rfl rfl (lB (v:=(Qe a1.zL)) rfl rfl rfl rfl (md rfl (Rn.bin tv rfl rfl rfl ?_))))))))))))
 obtain ⟨⟨r15,r16⟩,h14,h⟩:=bnd h
 refine Rn.callM (args:=[(Qe a1.zL),(i_ (IntKind.wrap .i64 (state2+1))),.clo 79 []]) tv rfl (fun M2 nb2 hn hx=>H_slices_BinarySearchFunc_int _ _ _ 79 [] _ h14 M2 nb2 rfl tv (fun a10 a11 r12 h13 M3 nb3 hn3 hx3=>H_automaton_out_2 a10 a11 r12 h13 M3 nb3 )) rfl pc9 ?_
 refine Rn.mov (v:=.tup [(i_ r15),(b_ r16)]) tv rfl (Rn.ext (v:=(i_ r15)) (vs:=[(i_ r15),(b_ r16)]) tv rfl rfl rfl (Rn.ext (v:=(b_ r16)) (vs:=[(i_ r15),(b_ r16)]) tv rfl rfl rfl (md rfl (md rfl (nt ((sr ((Rn.fldP (o':=3) tv rfl rfl (lB (v:=(Qe a1.zL)) rfl rfl rfl rfl (md rfl (md rfl ?_))))))))))))
 obtain ⟨x17,h18,h⟩:=bnd h
 refine Rn.slc2 (e:=Qv) tv rfl rfl rfl h18 (Rn.movTD tv rfl (nt ((Tr.ret ?_))))
 replace h:=si h; subst h
 exact ⟨.inr rfl,(Qe x17),rfl,fun _ _ _ _ h=>h,tv,mB⟩
theorem Q55 {P:Program} {c:Nat} (hcf:Qq P c=some Qm5):Qm4 P c (Qdd):=by
 intro x1 x2 k3 r h
 intro M nb hk4
 refine Qtp hcf rfl M nb fun Γ hP hnt hn0 hM=>?_
 subst hP hn0
 refine Tr.init [(0,(Qbh x1)),(1,.ptr k3 0)] rfl ?_
 unfold Qdd at h
 unfold Qm5
 refine sr ((Rn.box (v:=(Qbh x1)) (cs:=(Qbe x1)) tv rfl rfl rfl rfl rfl (md rfl (nt ((sr ((Rn.fldP (o':=1) tv rfl rfl (lB (v:=(i_ x1.Event)) rfl rfl rfl rfl (Rn.load (v:=(i_ x2)) tv rfl (Q9 hM hk4) rfl rfl (Rn.bin tv rfl rfl rfl (md rfl (nt ((Tr.ret ?_)))))))))))))))
 replace h:=si h; subst h
 exact ⟨.inr rfl,(b_ (x1.Event == x2)),rfl,fun _ _ _ _ h=>h,tv,mB⟩
theorem Q9d {P:Program} {c:Nat} {Qed:Qa→Int→Option ((List Qc))} {Qz:(List Qc)→(Qc→Option Bool)→Option Int} {Qdd:Qc→Int→Option Bool}
    (H_automaton_out:Quy P 52 Qed)
    (H_slices_IndexFunc_Edge:Qfi P 67 Qz)
    (H_automaton_next_1:Qm4 P 68 Qdd) (hcf:Qq P c=some Qrd):Qrc P c (Qd5 Qed Qz Qdd):=by
 intro a1 state2 event3 r h
 refine Qc6 hcf rfl fun Γ M hP hnt hM=>?_
 subst hP
 refine Tr.init [(0,(Qb a1)),(1,(i_ state2)),(2,(i_ event3))] rfl ?_
 unfold Qd5 at h
 unfold Qrd
 refine sr ((Rn.box (v:=(Qb a1)) (cs:=(Qd a1)) tv rfl rfl rfl rfl rfl (Rn.box (v:=(i_ event3)) (cs:=[(i_ event3)]) tv rfl rfl rfl rfl rfl (md rfl (nt ((sr ((lB (v:=(Qb a1)) rfl rfl rfl rfl (md rfl ?_))))))))))
 obtain ⟨x5,h4,h⟩:=bnd h
 refine Rn.call (args:=[(Qb a1),(i_ state2)]) tv rfl (H_automaton_out _ _ _ h4) pc9 (Rn.movTD tv rfl (nt ((sr ((md rfl (Rn.k (v:=.clo 68 [.ptr (Γ.n0+5) 0]) tv rfl rfl rfl ?_)))))))
 obtain ⟨x10,h9,h⟩:=bnd h
 refine Rn.callM (args:=[(Qe x5),.clo 68 [.ptr (Γ.n0+5) 0]]) tv rfl (fun M2 nb2 hn hx=>H_slices_IndexFunc_Edge _ _ 68 [.ptr (Γ.n0+5) 0] _ h9 M2 nb2 rfl ⟨Q04 (hx _ _ (Q6 rfl)),tv⟩ (fun a6 r7 h8 M3 nb3 hn3 hx3=>H_automaton_next_1 a6 event3 (Γ.n0+5) r7 h8 M3 nb3 ((hx.trans hx3) _ _ (Q6 rfl)))) rfl pc9 ?_
 refine md rfl (nt ((Tr.seq (sr ((md rfl (Rn.bin tv rfl rfl rfl (Rn.nil (toN ?_)))))))))
 refine Tr.cond rfl (fun hb11=>?_) (fun hb11=>?_)
 ·replace h:=ifT hb11 h
  refine sr ((md rfl (nt ((Tr.ret ?_)))))
  replace h:=si h; subst h
  exact ⟨.inr rfl,(i_ (-1)),rfl,fun _ _ _ _ h=>h,tv,mB⟩
 ·replace h:=ifF hb11 h
  refine Tr.skip (toN (sr ((md rfl (md rfl ?_)))))
  obtain ⟨x12,h13,h⟩:=bnd h
  refine Rn.idxD (e:=Qv) tv rfl rfl h13 (Rn.fldC tv rfl (Rn.loadC (x:=.int .i64 x12.To) tv rfl (md rfl (nt ((Tr.ret ?_))))))
  replace h:=si h; subst h
  exact ⟨.inr rfl,(i_ x12.To),rfl,fun _ _ _ _ h=>h,tv,mB⟩
theorem Q9e {P:Program} {c:Nat} {Qcj:Qa→Int→Option Int} {Q8:(List Int)→Int→Option Bool} {Qd5:Qa→Int→Int→Option Int}
    (H_automaton_checkState:Qi2 P 37 Qcj)
    (H_slices_Contains_int:Qgd P 38 Q8)
    (H_automaton_next:Qrc P 39 Qd5) (hcf:Qq P c=some Qrf):Qre P c (Qdi Qcj Q8 Qd5):=by
 intro a1 state2 event3 r h
 refine Qc6 hcf rfl fun Γ M hP hnt hM=>?_
 subst hP
 refine Tr.init [(0,(Qb a1)),(1,(i_ state2)),(2,(i_ event3))] rfl ?_
 unfold Qdi at h
 unfold Qrf
 refine sr ((Rn.box (v:=(Qb a1)) (cs:=(Qd a1)) tv rfl rfl rfl rfl rfl (md rfl (md rfl (md rfl (nt ((Tr.seq (sr ((lB (v:=(Qb a1)) rfl rfl rfl rfl (md rfl ?_))))))))))))
 obtain ⟨x5,h4,h⟩:=bnd h
 refine Rn.call (args:=[(Qb a1),(i_ state2)]) tv rfl (H_automaton_checkState _ _ _ h4) pc9 (md rfl (nt ((sr ((md rfl (Rn.bin tv rfl rfl rfl (Rn.nil (toN ?_)))))))))
 refine Tr.cond rfl (fun hb6=>?_) (fun hb6=>?_)
 ·replace h:=bT hb6 h
  refine sr ((md rfl (md rfl (md rfl (md rfl (nt ((Tr.ret ?_))))))))
  replace h:=si h; subst h
  exact ⟨.inr rfl,.tup [(i_ 0),(b_ false),(i_ x5)],res3 rfl rfl rfl,(WkV.tup (.cons (.same rfl) (.cons (.same rfl) (.cons (.same rfl) .nil)))).rd,⟨tv,tv,tv,tv⟩,mB⟩
 ·replace h:=bF hb6 h
  refine Tr.skip (toN (Tr.seq (sr ((Rn.fldP (o':=0) tv rfl rfl (lB (v:=(l_ a1.zJ)) rfl rfl rfl rfl (md rfl ?_)))))))
  obtain ⟨x8,h7,h⟩:=bnd h
  refine Rn.call (args:=[(l_ a1.zJ),(i_ event3)]) tv rfl (H_slices_Contains_int _ _ _ h7) pc9 (Rn.un tv rfl rfl (Rn.nil (toN ?_)))
  refine Tr.cond rfl (fun hb9=>?_) (fun hb9=>?_)
  ·have hb9:=nT' hb9
   replace h:=bF hb9 h
   refine sr ((md rfl (md rfl (md rfl (nt ((Tr.ret ?_)))))))
   replace h:=si h; subst h
   exact ⟨.inr rfl,.tup [(i_ 0),(b_ false),(i_ 9)],res3 rfl rfl rfl,(WkV.tup (.cons (.same rfl) (.cons (.same rfl) (.cons (.same rfl) .nil)))).rd,⟨tv,tv,tv,tv⟩,mB⟩
  ·have hb9:=nF' hb9
   replace h:=bT hb9 h
   refine Tr.skip (toN (Tr.seq (sr ((lB (v:=(Qb a1)) rfl rfl rfl rfl (md rfl (md rfl ?_)))))))
   obtain ⟨x11,h10,h⟩:=bnd h
   refine Rn.call (args:=[(Qb a1),(i_ state2),(i_ event3)]) tv rfl (H_automaton_next _ _ _ _ h10) pc9 (md rfl (nt ((sr ((md rfl (Rn.bin tv rfl rfl rfl (Rn.nil (toN ?_)))))))))
   refine Tr.cond rfl (fun hb12=>?_) (fun hb12=>?_)
   ·replace h:=ifT hb12 h
    refine sr ((md rfl (md rfl (md rfl (md rfl (nt ((Tr.ret ?_))))))))
    replace h:=si h; subst h
    exact ⟨.inr rfl,.tup [(i_ x11),(b_ true),(i_ 0)],res3 rfl rfl rfl,(WkV.tup (.cons (.same rfl) (.cons (.same rfl) (.cons (.same rfl) .nil)))).rd,⟨tv,tv,tv,tv⟩,mB⟩
   ·replace h:=ifF hb12 h
    refine Tr.skip (toN (sr ((md rfl (md rfl (md rfl (nt ((Tr.ret ?_)))))))))
    replace h:=si h; subst h
    exact ⟨.inr rfl,.tup [(i_ 0),(b_ false),(i_ 0)],res3 rfl rfl rfl,(WkV.tup (.cons (.same rfl) (.cons (.same rfl) (.cons (.same rfl) .nil)))).rd,⟨tv,tv,tv,tv⟩,mB⟩
theorem Q34 {P:Program} {c:Nat} (hcf:Qq P c=some Qll) (fuel:Nat):Qlk P c (Qc8 fuel):=by
 intro l1 n2 r h
 refine Qc6 hcf rfl fun Γ M hP hnt hM=>?_
 subst hP
 refine Tr.init [(0,(l_ l1)),(1,(i_ n2))] rfl ?_
 unfold Qc8 at h
 unfold Qll
 refine sr ((md rfl (nt ((Tr.seq (sr ((md rfl (nt ((Tr.block ?_)))))))))))
 refine Tr.loop (mk:=fun (i3:Int)=>⟨look [(0,(l_ l1)),(1,(i_ n2)),(5,(i_ i3))],Qm Γ.n0 (bxs []) M,Γ.n0+18⟩) h (by exact Qj ⟨(sm rfl),(sm rfl),(sm rfl),tv⟩ tv rfl) (fun k4 z h=>?_)
 ·obtain ⟨i3,rfl⟩ : ∃ x,x=z:=⟨_,rfl⟩
  replace h:_=some _:=h
  refine Tr.seq (sr ((md rfl (md rfl (Rn.lenD tv rfl (Rn.bin tv rfl rfl rfl (Rn.nil (toN ?_))))))))
  refine Tr.cond rfl (fun hb5=>?_) (fun hb5=>?_)
  ·replace h:=ifT hb5 h
   refine Tr.skip (toN (Tr.seq (Tr.block (sr ((md rfl (md rfl ?_)))))))
   obtain ⟨x6,h7,h⟩:=bnd h
   refine Rn.idxD (e:=(eI .i64)) tv rfl rfl h7 (Rn.loadC (x:=.int .i64 x6) tv rfl (md rfl (Rn.bin tv rfl rfl rfl (Rn.nil (toN ?_)))))
   refine Tr.cond rfl (fun hb8=>?_) (fun hb8=>?_)
   ·replace h:=bT hb8 h
    refine sr ((md rfl (nt ((Tr.ret ?_)))))
    replace h:=si h; subst h
    exact ⟨.inr rfl,(b_ true),rfl,fun _ _ _ _ h=>h,tv,mB⟩
   ·replace h:=bF hb8 h
    refine Tr.skip (toN (Tr.rgn (md rfl (Rn.bin tv rfl rfl rfl (md rfl (Rn.nil ?_))))))
    exact ⟨_,h,(by exact Qj ⟨(sm rfl),(sm rfl),(sm rfl),tv⟩ tv rfl)⟩
  ·replace h:=ifF hb5 h
   refine Tr.exit (toN (sr ((md rfl (nt ((Tr.ret ?_)))))))
   replace h:=si h; subst h
   exact ⟨.inr rfl,(b_ false),rfl,fun _ _ _ _ h=>h,tv,mB⟩
end Go.Abs
end
section
namespace Go.Abs
open Go
set_option maxRecDepth 10000
set_option maxHeartbeats 4000000
theorem Qih {P:Program} {c:Nat} {Qcp:Option Bool} {Qc0:(List Q4)→Option ((List Qa))} {Qby:Qa→(List Qa)→(List Int)→Int→Option (Qa×(List Int)×Int)} {Qb4:(List Int)→(List Int)→Option Bool} {Qy:(List Int)→Int→Option Int} {Qc1:Qa→Option Bool} {Q2:(List Qa)→Option (Qa×(List (List Int))×Int)} {Qdv:(List Int)→(List Int)→Option Bool} {Qdi:Qa→Int→Int→Option (Int×Bool×Int)} {Qc8:(List Int)→Int→Option Bool} {Qb6:Qa→Qa→Option Bool}
    (H_overseerlaw46_known:Qjr P 5 Qcp)
    (H_overseerlaw06_List:Qkh P 6 Qc0)
    (H_timedsynthesis_Complete:Qgs P 7 Qby)
    (H_alphabet_Subset:Qj6 P 8 Qb4)
    (H_alphabet_CheckSet:Qfr P 9 Qy)
    (H_overseerlaw46_none:Qkj P 10 Qc1)
    (H_product_Synchronous:Qgf P 11 Q2)
    (H_word_Equal:Qvu P 12 Qdv)
    (H_automaton_Step:Qre P 13 Qdi)
    (H_overseerlaw46_has:Qlk P 14 Qc8)
    (H_automaton_Equal:Qj7 P 15 Qb6) (hcf:Qq P c=some Qdf) (fuel:Nat):Qe2 P c (Qct Qcp Qc0 Qby Qb4 Qy Qc1 Q2 Qdv Qdi Qc8 Qb6 fuel):=by
 intro l1 uncontrollable2 tick3 r h
 refine Qc6 hcf rfl fun Γ M hP hnt hM=>?_
 subst hP
 refine Tr.init [(0,(Qbu l1)),(1,(l_ uncontrollable2)),(2,(i_ tick3))] rfl ?_
 unfold Qct at h
 unfold Qdf
 refine sr ((md rfl (nt ((Tr.seq ?_)))))
 refine Tr.cutB (fun (x7:Bool)=>⟨look [(0,(Qbu l1)),(1,(l_ uncontrollable2)),(2,(i_ tick3)),(32,(b_ x7))],Qm Γ.n0 (bxs []) M,Γ.n0+202⟩) h (fun z h=>?_) (fun z h=>?_)
 ·refine Tr.rgn ?_
  obtain ⟨x5,h4,h⟩:=bnd h
  refine Rn.call (args:=[]) tv rfl (H_overseerlaw46_known _ h4) pc9 (Rn.un tv rfl rfl (md rfl ?_))
  refine Qbz x5 (fun hb6=>?_) (fun hb6=>?_)
  ·replace h:=bT hb6 h
   refine Rn.movD (gw rfl (nT hb6)) rfl (Rn.lenD (gw rfl (nT hb6)) rfl (Rn.bin (gw rfl (nT hb6)) rfl rfl rfl (Rn.pickF (v:=(b_ (decide ((uncontrollable2.length:Int) > 8)))) tv rfl (nT hb6) rfl (Rn.nil ?_))))
   replace h:=si h; subst h
   exact Qg [] ⟨(sm rfl),(sm rfl),(sm rfl),(sm rfl),tv⟩ tv rfl
  ·replace h:=bF hb6 h
   refine Rn.sk (nw rfl (nF hb6)) (Rn.sk (nw rfl (nF hb6)) (Rn.sk (nw rfl (nF hb6)) (Rn.pickT (v:=(b_ true)) tv rfl (nF hb6) rfl (Rn.nil ?_))))
   replace h:=si h; subst h
   exact Qg [] ⟨(sm rfl),(sm rfl),(sm rfl),(sm rfl),tv⟩ tv rfl
 ·obtain ⟨x7,rfl⟩ : ∃ x,x=z:=⟨_,rfl⟩
  refine Tr.cond rfl (fun hb8=>?_) (fun hb8=>?_)
  ·replace h:=bT hb8 h
   refine Tr.seq (Tr.rgn ?_)
   obtain ⟨x10,h9,h⟩:=bnd h
   refine Rn.call (args:=[]) tv rfl (H_overseerlaw46_known _ h9) pc9 (md rfl (nt ((Tr.ret ?_))))
   replace h:=si h; subst h
   exact ⟨.inr rfl,(b_ x10),rfl,fun _ _ _ _ h=>h,tv,mB⟩
  ·replace h:=bF hb8 h
   refine Tr.skip (toN (sr ((md rfl ?_))))
   obtain ⟨x12,h11,h⟩:=bnd h
   refine Rn.call (args:=[(Qbu l1)]) tv rfl (H_overseerlaw06_List _ _ h11) pc9 (Rn.movTO tv rfl (Rn.nil (toN ?_)))
   refine Tr.cutB (fun (all14:List Qa)=>⟨look [(1,(l_ uncontrollable2)),(2,(i_ tick3)),(7,(Qf all14))],Qm Γ.n0 (bxs []) M,Γ.n0+202⟩) h (fun z h=>?_) (fun z h=>?_)
   ·refine sr ((Rn.mov (v:=(Qf x12)) tv rfl (Rn.lenD tv rfl (Rn.bin tv rfl rfl rfl (Rn.nil (toN ?_))))))
    refine Tr.cond rfl (fun hb13=>?_) (fun hb13=>?_)
    ·replace h:=bT hb13 h
     refine Tr.rgn (Rn.bslice (xs:=[(i_ 0)]) (cs:=[(i_ 0)]) tv rfl rfl rfl rfl (Rn.buildT (v:=.agg [.sl 1 (Γ.n0+39) 0 1 1,(i_ 0),.nils 1,.nils 3]) tv rfl (Rn.bslice (xs:=[.agg [.sl 1 (Γ.n0+39) 0 1 1,(i_ 0),.nils 1,.nils 3]]) (cs:=[.sl 1 (Γ.n0+39) 0 1 1,(i_ 0),.nils 1,.nils 3]) tv rfl rfl rfl rfl (Rn.movTF (v:=.sl 4 (Γ.n0+41) 0 1 1) tv rfl rfl (Rn.nil ?_)))))
     replace h:=si h; subst h
     refine WeakSt.trans (by show WeakSt Γ _ ⟨look [(0,(Qbu l1)),(1,(l_ uncontrollable2)),(2,(i_ tick3)),(7,.sl 4 (Γ.n0+41) 0 1 1),(32,(b_ x7)),(34,(Qbu l1)),(35,(Qf x12)),(36,(Qf x12)),(37,(i_ (x12.length:Int))),(38,(b_ ((x12.length:Int) == 0))),(39,(l_ [0])),(40,.agg [(l_ [0]),(i_ 0),.nils 1,.nils 3]),(41,.sl 4 (Γ.n0+41) 0 1 1)],Qm Γ.n0 (bxs [(41,.cells ([(l_ [0]),(i_ 0),.nils 1,.nils 3]))]) M,Γ.n0+202⟩; exact Qeb 39 [.int .i64 0] rfl rfl ⟨(.same rfl),(.same rfl),(.same rfl),(fSlO rfl),(.same rfl),(.same rfl),(.same rfl),(.same rfl),(.same rfl),(.same rfl),(fSl rfl rfl),(WkV.agg (.cons (fSl rfl rfl) (.cons (.same rfl) (.cons (.same rfl) (.cons (.same rfl) .nil))))),(fSlO rfl),tv⟩ ⟨⟨_,rfl,rfl,(.cons (fSl rfl rfl) (.cons (.same rfl) (.cons (.same rfl) (.cons (.same rfl) .nil))))⟩,tv⟩ rfl) ?_
     refine WeakSt.trans (by show WeakSt Γ _ ⟨look [(0,(Qbu l1)),(1,(l_ uncontrollable2)),(2,(i_ tick3)),(7,(Qf ([(Qa.mk [0] 0 [] [])]))),(32,(b_ x7)),(34,(Qbu l1)),(35,(Qf x12)),(36,(Qf x12)),(37,(i_ (x12.length:Int))),(38,(b_ ((x12.length:Int) == 0))),(39,(l_ [0])),(40,.agg [(l_ [0]),(i_ 0),.nils 1,.nils 3]),(41,(Qf ([(Qa.mk [0] 0 [] [])])))],Qm Γ.n0 (bxs []) M,Γ.n0+202⟩; exact Qeb 41 [.lst 1 (List.map (eI .i64) [0]),.int .i64 0,.lst 1 [],.lst 3 []] rfl rfl ⟨(.same rfl),(.same rfl),(.same rfl),(fSl rfl rfl),(.same rfl),(.same rfl),(.same rfl),(.same rfl),(.same rfl),(.same rfl),(.same rfl),(.same rfl),(fSl rfl rfl),tv⟩ tv rfl) ?_
     exact Qg [] ⟨(sm rfl),(sm rfl),(sm rfl),tv⟩ tv rfl
    ·replace h:=bF hb13 h
     refine Tr.skip ?_
     replace h:=si h; subst h
     exact Qg [] ⟨(sm rfl),(sm rfl),(WkV.dem' rfl),tv⟩ tv rfl
   ·obtain ⟨all14,rfl⟩ : ∃ x,x=z:=⟨_,rfl⟩
    refine Tr.seq ?_
    refine Tr.rgnD (by decide) ?_
    refine md rfl ?_
    obtain ⟨x15,h16,h⟩:=bnd h
    refine Rn.idxD (e:=Qr) tv rfl rfl h16 (Rn.loadCA (vs:=(Qd x15)) tv rfl rfl rfl (md rfl ?_))
    obtain ⟨x17,h18,h⟩:=bnd h
    refine Rn.slcL (e:=Qr) tv rfl rfl h18 (md rfl (md rfl ?_))
    obtain ⟨⟨r20,r21,r22⟩,h19,h⟩:=bnd h
    refine Rn.call (args:=[(Qb x15),(Qf x17),(l_ uncontrollable2),(i_ tick3)]) tv rfl (H_timedsynthesis_Complete _ _ _ _ _ h19) (fun _=>Qbfg hM rfl) (Rn.mov (v:=.tup [(Qb r20),(l_ r21),(i_ r22)]) tv rfl (Rn.ext (v:=(Qb r20)) (vs:=[(Qb r20),(l_ r21),(i_ r22)]) tv rfl rfl rfl (Rn.extTD (vs:=[(Qb r20),(l_ r21),(i_ r22)]) tv rfl rfl rfl (Rn.ext (v:=(i_ r22)) (vs:=[(Qb r20),(l_ r21),(i_ r22)]) tv rfl rfl rfl (Rn.alloc tv rfl (Rn.storeT (v:=(Qb r20)) (ds:=(Qd r20)) (cs':=(Qd r20)) tv rfl rfl rfl rfl rfl rfl rfl (Rn.movTD tv rfl (md rfl ?_))))))))
    refine Rn.nil ⟨rfl,?_⟩
    refine toN (sr ((md rfl (Rn.nil (toN ?_)))))
    refine Tr.cutB (fun (want37:Int)=>⟨look [(1,(l_ uncontrollable2)),(2,(i_ tick3)),(7,(Qf all14)),(8,.ptr (Γ.n0+8) 0),(9,(l_ r21)),(10,(i_ r22)),(11,(i_ want37))],Qm Γ.n0 (bxs [(8,.cells ((Qd r20)))]) M,Γ.n0+202⟩) h (fun z h=>?_) (fun z h=>?_)
    ·refine sr ((md rfl (nt ((Tr.block ?_)))))
     refine Tr.loop (mk:=fun ((want23,i24):Int×Int)=>⟨look [(1,(l_ uncontrollable2)),(2,(i_ tick3)),(7,(Qf all14)),(8,.ptr (Γ.n0+8) 0),(9,(l_ r21)),(10,(i_ r22)),(11,(i_ want23)),(12,(i_ i24))],Qm Γ.n0 (bxs [(8,.cells ((Qd r20)))]) M,Γ.n0+202⟩) h (by exact Qj ⟨(sm rfl),(sm rfl),(sm rfl),(kPtr rfl),(sm rfl),(sm rfl),(sm rfl),(sm rfl),tv⟩ ⟨bS rfl rfl rfl,tv⟩ rfl) (fun k25 z h=>?_)
     ·obtain ⟨want23,i24⟩:=z
      replace h:_=some _:=h
      refine Tr.seq ?_
      refine Tr.cutB (fun (x27:Bool)=>⟨look [(1,(l_ uncontrollable2)),(2,(i_ tick3)),(7,(Qf all14)),(8,.ptr (Γ.n0+8) 0),(9,(l_ r21)),(10,(i_ r22)),(11,(i_ want23)),(12,(i_ i24)),(61,(b_ x27))],Qm Γ.n0 (bxs [(8,.cells ((Qd r20)))]) M,Γ.n0+202⟩) h (fun z h=>?_) (fun z h=>?_)
      ·refine Tr.rgn (md rfl (md rfl (Rn.lenD tv rfl (Rn.bin tv rfl rfl rfl (md rfl ?_)))))
       refine Qbz (decide (i24 < (all14.length:Int))) (fun hb26=>?_) (fun hb26=>?_)
       ·replace h:=ifT hb26 h
        refine Rn.movD (gw rfl hb26) rfl (Rn.bin (gw rfl hb26) rfl rfl rfl (Rn.pickT (v:=(b_ (want23 == 0))) tv rfl hb26 rfl (Rn.nil ?_)))
        replace h:=si h; subst h
        exact Qg [] ⟨(sm rfl),(sm rfl),(sm rfl),(kPtr rfl),(sm rfl),(sm rfl),(sm rfl),(sm rfl),(sm rfl),tv⟩ ⟨bS rfl rfl rfl,tv⟩ rfl
       ·replace h:=ifF hb26 h
        refine Rn.sk (nw rfl hb26) (Rn.sk (nw rfl hb26) (Rn.pickF (v:=(b_ false)) tv rfl hb26 rfl (Rn.nil ?_)))
        replace h:=si h; subst h
        exact Qg [] ⟨(sm rfl),(sm rfl),(sm rfl),(kPtr rfl),(sm rfl),(sm rfl),(sm rfl),(sm rfl),(sm rfl),tv⟩ ⟨bS rfl rfl rfl,tv⟩ rfl
      ·obtain ⟨x27,rfl⟩ : ∃ x,x=z:=⟨_,rfl⟩
       refine Tr.cond rfl (fun hb28=>?_) (fun hb28=>?_)
       ·replace h:=bT hb28 h
        refine Tr.skip (toN ?_)
        refine Tr.cutB (fun (want36:Int)=>⟨look [(1,(l_ uncontrollable2)),(2,(i_ tick3)),(7,(Qf all14)),(8,.ptr (Γ.n0+8) 0),(9,(l_ r21)),(10,(i_ r22)),(11,(i_ want36)),(12,(i_ i24))],Qm Γ.n0 (bxs [(8,.cells ((Qd r20)))]) M,Γ.n0+202⟩) h (fun z h=>?_) (fun z h=>?_)
        ·refine Tr.block (Tr.seq ?_)
         refine Tr.rgnD (by decide) ?_
         refine md rfl (md rfl ?_)
         obtain ⟨x29,h30,h⟩:=bnd h
         refine Rn.idxD (e:=Qr) tv rfl rfl h30 (Rn.fldC tv rfl (Rn.loadC (x:=.lst 1 (List.map (eI .i64) x29.zJ)) tv rfl (md rfl ?_)))
         obtain ⟨x31,h32,h⟩:=bnd h
         refine Rn.idxD (e:=Qr) tv rfl rfl h32 (Rn.fldC tv rfl (Rn.loadC (x:=.lst 1 (List.map (eI .i64) x31.zJ)) tv rfl ?_))
         obtain ⟨x34,h33,h⟩:=bnd h
         refine Rn.call (args:=[(l_ x29.zJ),(l_ x31.zJ)]) tv rfl (H_alphabet_Subset _ _ _ h33) pc0 (Rn.un tv rfl rfl ?_)
         refine Rn.nil ⟨rfl,?_⟩
         refine toN ?_
         refine Tr.cond rfl (fun hb35=>?_) (fun hb35=>?_)
         ·have hb35:=nT' hb35
          replace h:=bF hb35 h
          refine Tr.rgn (md rfl (Rn.nil ?_))
          replace h:=si h; subst h
          exact Qg [] ⟨(sm rfl),(sm rfl),(sm rfl),(kPtr rfl),(sm rfl),(sm rfl),(sm rfl),(sm rfl),tv⟩ ⟨bS rfl rfl rfl,tv⟩ rfl
         ·have hb35:=nF' hb35
          replace h:=bT hb35 h
          refine Tr.skip ?_
          replace h:=si h; subst h
          exact Qg [] ⟨(sm rfl),(sm rfl),(sm rfl),(kPtr rfl),(sm rfl),(sm rfl),(sm rfl),(sm rfl),tv⟩ ⟨bS rfl rfl rfl,tv⟩ rfl
        ·obtain ⟨want36,rfl⟩ : ∃ x,x=z:=⟨_,rfl⟩
         refine Tr.rgn (md rfl (Rn.bin tv rfl rfl rfl (md rfl (Rn.nil ?_))))
         exact ⟨_,h,(by exact Qj ⟨(sm rfl),(sm rfl),(sm rfl),(kPtr rfl),(sm rfl),(sm rfl),(sm rfl),(sm rfl),tv⟩ ⟨bS rfl rfl rfl,tv⟩ rfl)⟩
       ·replace h:=bF hb28 h
        refine Tr.exit ?_
        replace h:=si h; subst h
        exact Qg [] ⟨(sm rfl),(sm rfl),(sm rfl),(kPtr rfl),(sm rfl),(sm rfl),(sm rfl),tv⟩ ⟨bS rfl rfl rfl,tv⟩ rfl
    ·obtain ⟨want37,rfl⟩ : ∃ x,x=z:=⟨_,rfl⟩
     refine Tr.cutB (fun (want41:Int)=>⟨look [(1,(l_ uncontrollable2)),(2,(i_ tick3)),(7,(Qf all14)),(8,.ptr (Γ.n0+8) 0),(9,(l_ r21)),(10,(i_ r22)),(11,(i_ want41))],Qm Γ.n0 (bxs [(8,.cells ((Qd r20)))]) M,Γ.n0+202⟩) h (fun z h=>?_) (fun z h=>?_)
     ·refine sr ((md rfl (Rn.bin tv rfl rfl rfl (Rn.nil (toN ?_)))))
      refine Tr.cond rfl (fun hb38=>?_) (fun hb38=>?_)
      ·replace h:=bT hb38 h
       refine Tr.rgn (md rfl ?_)
       obtain ⟨x40,h39,h⟩:=bnd h
       refine Rn.call (args:=[(l_ uncontrollable2),(i_ 32)]) tv rfl (H_alphabet_CheckSet _ _ _ h39) pc9 (md rfl (Rn.nil ?_))
       replace h:=si h; subst h
       exact Qg [] ⟨(sm rfl),(sm rfl),(sm rfl),(kPtr rfl),(sm rfl),(sm rfl),(sm rfl),tv⟩ ⟨bS rfl rfl rfl,tv⟩ rfl
      ·replace h:=bF hb38 h
       refine Tr.skip ?_
       replace h:=si h; subst h
       exact Qg [] ⟨(sm rfl),(sm rfl),(sm rfl),(kPtr rfl),(sm rfl),(sm rfl),(sm rfl),tv⟩ ⟨bS rfl rfl rfl,tv⟩ rfl
     ·obtain ⟨want41,rfl⟩ : ∃ x,x=z:=⟨_,rfl⟩
      refine Tr.cutB (fun (want46:Int)=>⟨look [(1,(l_ uncontrollable2)),(2,(i_ tick3)),(7,(Qf all14)),(8,.ptr (Γ.n0+8) 0),(9,(l_ r21)),(10,(i_ r22)),(11,(i_ want46))],Qm Γ.n0 (bxs [(8,.cells ((Qd r20)))]) M,Γ.n0+202⟩) h (fun z h=>?_) (fun z h=>?_)
      ·refine Tr.cutB (fun (x44:Bool)=>⟨look [(1,(l_ uncontrollable2)),(2,(i_ tick3)),(7,(Qf all14)),(8,.ptr (Γ.n0+8) 0),(9,(l_ r21)),(10,(i_ r22)),(11,(i_ want41)),(88,(b_ x44))],Qm Γ.n0 (bxs [(8,.cells ((Qd r20)))]) M,Γ.n0+202⟩) h (fun z h=>?_) (fun z h=>?_)
       ·refine Tr.rgn (md rfl (Rn.bin tv rfl rfl rfl (md rfl ?_)))
        refine Qbz (want41 == 0) (fun hb42=>?_) (fun hb42=>?_)
        ·replace h:=bT hb42 h
         refine Rn.movD (gw rfl hb42) rfl (Rn.bin (gw rfl hb42) rfl rfl rfl (Rn.movD (gw rfl hb42) rfl ?_))
         refine Qbz (decide (tick3 < 0)) (fun hb43=>?_) (fun hb43=>?_)
         ·replace h:=ifT hb43 h
          refine Rn.sk (nw rfl hb43) (Rn.sk (nw rfl hb43) (Rn.pickT (v:=(b_ true)) (gw rfl hb42) rfl hb43 rfl (Rn.pickT (v:=(b_ true)) tv rfl hb42 rfl (Rn.nil ?_))))
          replace h:=si h; subst h
          exact Qg [] ⟨(sm rfl),(sm rfl),(sm rfl),(kPtr rfl),(sm rfl),(sm rfl),(sm rfl),(sm rfl),tv⟩ ⟨bS rfl rfl rfl,tv⟩ rfl
         ·replace h:=ifF hb43 h
          refine Rn.movD (gw rfl hb43) rfl (Rn.bin (gw rfl hb43) rfl rfl rfl (Rn.pickF (v:=(b_ (decide (tick3≥32)))) (gw rfl hb42) rfl hb43 rfl (Rn.pickT (v:=(b_ (decide (tick3≥32)))) tv rfl hb42 rfl (Rn.nil ?_))))
          replace h:=si h; subst h
          exact Qg [] ⟨(sm rfl),(sm rfl),(sm rfl),(kPtr rfl),(sm rfl),(sm rfl),(sm rfl),(sm rfl),tv⟩ ⟨bS rfl rfl rfl,tv⟩ rfl
        ·replace h:=bF hb42 h
         refine Rn.sk (nw rfl hb42) (Rn.sk (nw rfl hb42) (Rn.sk (nw rfl hb42) (Rn.sk (nu rfl) (Rn.sk (nu rfl) (Rn.sk (nw rfl hb42) (Rn.pickF (v:=(b_ false)) tv rfl hb42 rfl (Rn.nil ?_)))))))
         replace h:=si h; subst h
         exact Qg [] ⟨(sm rfl),(sm rfl),(sm rfl),(kPtr rfl),(sm rfl),(sm rfl),(sm rfl),(sm rfl),tv⟩ ⟨bS rfl rfl rfl,tv⟩ rfl
       ·obtain ⟨x44,rfl⟩ : ∃ x,x=z:=⟨_,rfl⟩
        refine Tr.cond rfl (fun hb45=>?_) (fun hb45=>?_)
        ·replace h:=bT hb45 h
         refine Tr.rgn (md rfl (Rn.nil ?_))
         replace h:=si h; subst h
         exact Qg [] ⟨(sm rfl),(sm rfl),(sm rfl),(kPtr rfl),(sm rfl),(sm rfl),(sm rfl),tv⟩ ⟨bS rfl rfl rfl,tv⟩ rfl
        ·replace h:=bF hb45 h
         refine Tr.skip ?_
         replace h:=si h; subst h
         exact Qg [] ⟨(sm rfl),(sm rfl),(sm rfl),(kPtr rfl),(sm rfl),(sm rfl),(sm rfl),tv⟩ ⟨bS rfl rfl rfl,tv⟩ rfl
      ·obtain ⟨want46,rfl⟩ : ∃ x,x=z:=⟨_,rfl⟩
       refine Tr.seq (sr ((md rfl (Rn.bin tv rfl rfl rfl (Rn.nil (toN ?_))))))
       refine Tr.cond rfl (fun hb47=>?_) (fun hb47=>?_)
       ·replace h:=bT hb47 h
        refine sr ((lB (v:=(Qb r20)) rfl rfl rfl rfl ?_))
        obtain ⟨x49,h48,h⟩:=bnd h
        refine Rn.call (args:=[(Qb r20)]) tv rfl (H_overseerlaw46_none _ _ h48) pc9 (md rfl ?_)
        refine Qbz x49 (fun hb50=>?_) (fun hb50=>?_)
        ·replace h:=bT hb50 h
         refine Rn.movD (gw rfl hb50) rfl (Rn.lenD (gw rfl hb50) rfl (Rn.bin (gw rfl hb50) rfl rfl rfl (Rn.pickT (v:=(b_ ((r21.length:Int) == 0))) tv rfl hb50 rfl (md rfl ?_))))
         refine Qbz ((r21.length:Int) == 0) (fun hb51=>?_) (fun hb51=>?_)
         ·replace h:=bT hb51 h
          refine Rn.movD (gw rfl hb51) rfl (Rn.movD (gw rfl hb51) rfl (Rn.bin (gw rfl hb51) rfl rfl rfl (Rn.pickT (v:=(b_ (r22 == want46))) tv rfl hb51 rfl (md rfl (nt ((Tr.ret ?_)))))))
          replace h:=si h; subst h
          exact ⟨.inr rfl,(b_ (r22 == want46)),rfl,fun _ _ _ _ h=>h,tv,mB⟩
         ·replace h:=bF hb51 h
          refine Rn.sk (nw rfl hb51) (Rn.sk (nw rfl hb51) (Rn.sk (nw rfl hb51) (Rn.pickF (v:=(b_ false)) tv rfl hb51 rfl (md rfl (nt ((Tr.ret ?_)))))))
          replace h:=si h; subst h
          exact ⟨.inr rfl,(b_ false),rfl,fun _ _ _ _ h=>h,tv,mB⟩
        ·replace h:=bF hb50 h
         refine Rn.sk (nw rfl hb50) (Rn.sk (nw rfl hb50) (Rn.sk (nw rfl hb50) (Rn.pickF (v:=(b_ false)) tv rfl hb50 rfl (md rfl (sF rfl rfl (sF rfl rfl (sF rfl rfl (Rn.pickF (v:=(b_ false)) tv rfl rfl rfl (md rfl (nt ((Tr.ret ?_))))))))))))
         replace h:=si h; subst h
         exact ⟨.inr rfl,(b_ false),rfl,fun _ _ _ _ h=>h,tv,mB⟩
       ·replace h:=bF hb47 h
        refine Tr.skip (toN (sr ((md rfl ?_))))
        obtain ⟨⟨r53,r54,r55⟩,h52,h⟩:=bnd h
        refine Rn.call (args:=[(Qf all14)]) tv rfl (H_product_Synchronous _ _ h52) pc9 (Rn.mov (v:=.tup [(Qb r53),.d (.lst 1 (List.map (eL 1 (eI .i64)) r54)),(i_ r55)]) tv rfl (Rn.ext (v:=(Qb r53)) (vs:=[(Qb r53),.d (.lst 1 (List.map (eL 1 (eI .i64)) r54)),(i_ r55)]) tv rfl rfl rfl (Rn.extTD (vs:=[(Qb r53),.d (.lst 1 (List.map (eL 1 (eI .i64)) r54)),(i_ r55)]) tv rfl rfl rfl (Rn.ext (v:=(i_ r55)) (vs:=[(Qb r53),.d (.lst 1 (List.map (eL 1 (eI .i64)) r54)),(i_ r55)]) tv rfl rfl rfl (Rn.alloc tv rfl (Rn.storeT (v:=(Qb r53)) (ds:=(Qd r53)) (cs':=(Qd r53)) tv rfl rfl rfl rfl rfl rfl rfl (Rn.movTD tv rfl (md rfl (nt ((Tr.seq ?_)))))))))))
        refine Tr.cutB (fun (x60:Bool)=>⟨look [(1,(l_ uncontrollable2)),(2,(i_ tick3)),(7,(Qf all14)),(8,.ptr (Γ.n0+8) 0),(13,.ptr (Γ.n0+13) 0),(14,.d (.lst 1 (List.map (eL 1 (eI .i64)) r54))),(122,(b_ x60))],Qm Γ.n0 (bxs [(8,.cells ((Qd r20))),(13,.cells ((Qd r53)))]) M,Γ.n0+202⟩) h (fun z h=>?_) (fun z h=>?_)
        ·refine Tr.rgn (md rfl (Rn.bin tv rfl rfl rfl (md rfl ?_)))
         refine Qbz (r55 != 0) (fun hb56=>?_) (fun hb56=>?_)
         ·replace h:=bT hb56 h
          refine Rn.sk (nw rfl hb56) (Rn.sk (nw rfl hb56) (Rn.pickT (v:=(b_ true)) tv rfl hb56 rfl (md rfl (sT rfl rfl (sT rfl rfl (sT rfl rfl (sT rfl rfl (sT rfl rfl (sT rfl rfl (Rn.pickT (v:=(b_ true)) tv rfl rfl rfl (Rn.nil ?_)))))))))))
          replace h:=si h; subst h
          exact Qg [] ⟨(sm rfl),(sm rfl),(sm rfl),(kPtr rfl),(kPtr rfl),(sm rfl),(sm rfl),tv⟩ ⟨bS rfl rfl rfl,bS rfl rfl rfl,tv⟩ rfl
         ·replace h:=bF hb56 h
          refine Rn.movD (gw rfl hb56) rfl (Rn.bin (gw rfl hb56) rfl rfl rfl (Rn.pickF (v:=(b_ (r22 != 0))) tv rfl hb56 rfl (md rfl ?_)))
          refine Qbz (r22 != 0) (fun hb57=>?_) (fun hb57=>?_)
          ·replace h:=bT hb57 h
           refine Rn.sk (nw rfl hb57) (Rn.sk (nw rfl hb57) (Rn.sk (nw rfl hb57) (Rn.sk (nw rfl hb57) (Rn.sk (nw rfl hb57) (Rn.sk (nw rfl hb57) (Rn.pickT (v:=(b_ true)) tv rfl hb57 rfl (Rn.nil ?_)))))))
           replace h:=si h; subst h
           exact Qg [] ⟨(sm rfl),(sm rfl),(sm rfl),(kPtr rfl),(kPtr rfl),(sm rfl),(sm rfl),tv⟩ ⟨bS rfl rfl rfl,bS rfl rfl rfl,tv⟩ rfl
          ·replace h:=bF hb57 h
           refine Rn.movD (gw rfl hb57) rfl (Rn.fldP (o':=1) (gw rfl hb57) rfl rfl (Rn.load (v:=(i_ r53.zM)) (gw rfl hb57) rfl (Q6 rfl) rfl rfl (Rn.bslice (xs:=[(i_ r53.zM)]) (cs:=[(i_ r53.zM)]) (gw rfl hb57) rfl rfl rfl rfl ?_)))
           refine Rn.weak (by show WeakSt Γ _ ⟨look [(1,(l_ uncontrollable2)),(2,(i_ tick3)),(7,(Qf all14)),(8,.ptr (Γ.n0+8) 0),(9,(l_ r21)),(10,(i_ r22)),(11,(i_ want46)),(13,.ptr (Γ.n0+13) 0),(14,.d (.lst 1 (List.map (eL 1 (eI .i64)) r54))),(15,(i_ r55)),(89,(i_ want46)),(90,(b_ (want46 != 0))),(103,.tup [(Qb r53),.d (.lst 1 (List.map (eL 1 (eI .i64)) r54)),(i_ r55)]),(104,(Qf all14)),(105,.tup [(Qb r53),.own 1 (List.map (eL 1 (eI .i64)) r54),(i_ r55)]),(106,(Qb r53)),(107,.d (.lst 1 (List.map (eL 1 (eI .i64)) r54))),(108,(i_ r55)),(109,(i_ r55)),(110,(b_ (r55 != 0))),(111,(b_ (r55 != 0))),(112,(i_ r22)),(113,(b_ (r22 != 0))),(114,(b_ (r22 != 0))),(115,(b_ (r22 != 0))),(116,(l_ r21)),(117,.ptr (Γ.n0+13) 1),(118,(i_ r53.zM)),(119,(l_ [r53.zM]))],Qm Γ.n0 (bxs [(8,.cells ((Qd r20))),(13,.cells ((Qd r53)))]) M,Γ.n0+202⟩; exact Qeb 119 [.int .i64 r53.zM] rfl rfl ⟨(.same rfl),(.same rfl),(.same rfl),(fPtr rfl),(.same rfl),(.same rfl),(.same rfl),(fPtr rfl),(.same rfl),(.same rfl),(.same rfl),(.same rfl),(.same rfl),(.same rfl),(.same rfl),(.same rfl),(.same rfl),(.same rfl),(.same rfl),(.same rfl),(.same rfl),(.same rfl),(.same rfl),(.same rfl),(.same rfl),(.same rfl),(fPtr rfl),(.same rfl),(fSl rfl rfl),tv⟩ ⟨bS rfl rfl rfl,bS rfl rfl rfl,tv⟩ rfl) ?_
           obtain ⟨x59,h58,h⟩:=bnd h
           refine Rn.call (args:=[(l_ r21),(l_ [r53.zM])]) (gw rfl hb57) rfl (H_word_Equal _ _ _ h58) pc9 (Rn.un (gw rfl hb57) rfl rfl (Rn.pickF (v:=(b_ (!x59))) tv rfl hb57 rfl (Rn.nil ?_)))
           replace h:=si h; subst h
           exact Qg [] ⟨(sm rfl),(sm rfl),(sm rfl),(kPtr rfl),(kPtr rfl),(sm rfl),(sm rfl),tv⟩ ⟨bS rfl rfl rfl,bS rfl rfl rfl,tv⟩ rfl
        ·obtain ⟨x60,rfl⟩ : ∃ x,x=z:=⟨_,rfl⟩
         refine Tr.cond rfl (fun hb61=>?_) (fun hb61=>?_)
         ·replace h:=bT hb61 h
          refine sr ((md rfl (nt ((Tr.ret ?_)))))
          replace h:=si h; subst h
          exact ⟨.inr rfl,(b_ false),rfl,fun _ _ _ _ h=>h,tv,mB⟩
         ·replace h:=bF hb61 h
          refine Tr.skip (toN (sr ((Rn.fldP (o':=0) tv rfl rfl (lB (v:=(l_ r53.zJ)) rfl rfl rfl rfl (Rn.fldP (o':=1) tv rfl rfl (lB (v:=(i_ r53.zM)) rfl rfl rfl rfl (Rn.bin tv rfl rfl rfl (Rn.fldP (o':=2) tv rfl rfl (lB (v:=(l_ r53.zK)) rfl rfl rfl rfl (Rn.buildT (v:=.agg [(l_ r53.zJ),(i_ (IntKind.wrap .i64 (r53.zM+1))),(l_ r53.zK),.nils 3]) tv rfl (Rn.alloc tv rfl (Rn.storeT (v:=.agg [(l_ r53.zJ),(i_ (IntKind.wrap .i64 (r53.zM+1))),(l_ r53.zK),.nils 3]) (ds:=[(l_ r53.zJ),(i_ (IntKind.wrap .i64 (r53.zM+1))),(l_ r53.zK),.nils 3]) (cs':=[(l_ r53.zJ),(i_ (IntKind.wrap .i64 (r53.zM+1))),(l_ r53.zK),.nils 3]) tv rfl rfl rfl rfl rfl rfl rfl (Rn.nil (toN ?_)))))))))))))))
          refine Tr.cutB (fun ((out99,out100):Int×(List Qc))=>⟨look [(8,.ptr (Γ.n0+8) 0),(16,.ptr (Γ.n0+16) 0)],Qm Γ.n0 (bxs [(8,.cells ((Qd r20))),(13,.cells ((Qd r53))),(16,.cells ([(l_ r53.zJ),(i_ out99),(l_ r53.zK),(Qk out100)]))]) M,Γ.n0+202⟩) h (fun z h=>?_) (fun z h=>?_)
          ·refine sr ((md rfl (nt ((Tr.block ?_)))))
           refine Tr.loop (mk:=fun ((i62,out63):Int×(List Qc))=>⟨look [(1,(l_ uncontrollable2)),(2,(i_ tick3)),(7,(Qf all14)),(8,.ptr (Γ.n0+8) 0),(13,.ptr (Γ.n0+13) 0),(14,.d (.lst 1 (List.map (eL 1 (eI .i64)) r54))),(16,.ptr (Γ.n0+16) 0),(17,(i_ i62))],Qm Γ.n0 (bxs [(8,.cells ((Qd r20))),(13,.cells ((Qd r53))),(16,.cells ([(l_ r53.zJ),(i_ (IntKind.wrap .i64 (r53.zM+1))),(l_ r53.zK),(Qk out63)]))]) M,Γ.n0+202⟩) h (by exact Qj ⟨(sm rfl),(sm rfl),(sm rfl),(kPtr rfl),(kPtr rfl),(sm rfl),(kPtr rfl),(sm rfl),tv⟩ ⟨bS rfl rfl rfl,bS rfl rfl rfl,⟨_,rfl,rfl,(cS rfl (cS rfl (cS rfl (.cons (WkV.nilsO _) .nil))))⟩,tv⟩ rfl) (fun k64 z h=>?_)
           ·obtain ⟨i62,out63⟩:=z
            replace h:_=some _:=h
            refine Tr.seq (sr ((md rfl (Rn.fldP (o':=1) tv rfl rfl (lB (v:=(i_ r53.zM)) rfl rfl rfl rfl (Rn.bin tv rfl rfl rfl (Rn.nil (toN ?_))))))))
            refine Tr.cond rfl (fun hb65=>?_) (fun hb65=>?_)
            ·replace h:=ifT hb65 h
             refine Tr.skip (toN ?_)
             refine Tr.cutB (fun (out98:List Qc)=>⟨look [(1,(l_ uncontrollable2)),(2,(i_ tick3)),(7,(Qf all14)),(8,.ptr (Γ.n0+8) 0),(13,.ptr (Γ.n0+13) 0),(14,.d (.lst 1 (List.map (eL 1 (eI .i64)) r54))),(16,.ptr (Γ.n0+16) 0),(17,(i_ i62))],Qm Γ.n0 (bxs [(8,.cells ((Qd r20))),(13,.cells ((Qd r53))),(16,.cells ([(l_ r53.zJ),(i_ (IntKind.wrap .i64 (r53.zM+1))),(l_ r53.zK),(Qk out98)]))]) M,Γ.n0+202⟩) h (fun z h=>?_) (fun z h=>?_)
             ·refine Tr.block (sr ((Rn.fldP (o':=0) tv rfl rfl (lB (v:=(l_ r53.zJ)) rfl rfl rfl rfl (Rn.lenD tv rfl (md rfl (nt ((Tr.block ?_)))))))))
              refine Tr.loop (mk:=fun ((x66,out67):Int×(List Qc))=>⟨look [(1,(l_ uncontrollable2)),(2,(i_ tick3)),(7,(Qf all14)),(8,.ptr (Γ.n0+8) 0),(13,.ptr (Γ.n0+13) 0),(14,.d (.lst 1 (List.map (eL 1 (eI .i64)) r54))),(16,.ptr (Γ.n0+16) 0),(17,(i_ i62)),(138,(l_ r53.zJ)),(139,(i_ (r53.zJ.length:Int))),(140,(i_ x66))],Qm Γ.n0 (bxs [(8,.cells ((Qd r20))),(13,.cells ((Qd r53))),(16,.cells ([(l_ r53.zJ),(i_ (IntKind.wrap .i64 (r53.zM+1))),(l_ r53.zK),(Qk out67)]))]) M,Γ.n0+202⟩) h (by exact Qj ⟨(sm rfl),(sm rfl),(sm rfl),(kPtr rfl),(kPtr rfl),(sm rfl),(kPtr rfl),(sm rfl),(sm rfl),(sm rfl),(sm rfl),tv⟩ ⟨bS rfl rfl rfl,bS rfl rfl rfl,bS rfl rfl rfl,tv⟩ rfl) (fun k68 z h=>?_)
              ·obtain ⟨x66,out67⟩:=z
               replace h:_=some _:=h
               refine sr ((Rn.bin tv rfl rfl rfl (nt ((Tr.seq ?_)))))
               refine Tr.cond rfl (fun hb69=>?_) (fun hb69=>?_)
               ·replace h:=ifT hb69 h
                refine Tr.skip (toN ?_)
                refine Tr.cutB (fun (out97:List Qc)=>⟨look [(1,(l_ uncontrollable2)),(2,(i_ tick3)),(7,(Qf all14)),(8,.ptr (Γ.n0+8) 0),(13,.ptr (Γ.n0+13) 0),(14,.d (.lst 1 (List.map (eL 1 (eI .i64)) r54))),(16,.ptr (Γ.n0+16) 0),(17,(i_ i62)),(138,(l_ r53.zJ)),(139,(i_ (r53.zJ.length:Int))),(140,(i_ x66))],Qm Γ.n0 (bxs [(8,.cells ((Qd r20))),(13,.cells ((Qd r53))),(16,.cells ([(l_ r53.zJ),(i_ (IntKind.wrap .i64 (r53.zM+1))),(l_ r53.zK),(Qk out97)]))]) M,Γ.n0+202⟩) h (fun z h=>?_) (fun z h=>?_)
                ·refine Tr.block (Tr.seq (Tr.rgn ?_))
                 obtain ⟨x70,h71,h⟩:=bnd h
                 refine Rn.idxD (e:=(eI .i64)) tv rfl rfl h71 (Rn.loadC (x:=.int .i64 x70) tv rfl (md rfl (nt ((sr ((lB (v:=(Qb r53)) rfl rfl rfl rfl (md rfl (md rfl ?_)))))))))
                 obtain ⟨⟨r73,r74,r75⟩,h72,h⟩:=bnd h
                 refine Rn.call (args:=[(Qb r53),(i_ i62),(i_ x70)]) tv rfl (H_automaton_Step _ _ _ _ h72) pc9 (Rn.mov (v:=.tup [(i_ r73),(b_ r74),(i_ r75)]) tv rfl (Rn.ext (v:=(i_ r73)) (vs:=[(i_ r73),(b_ r74),(i_ r75)]) tv rfl rfl rfl (Rn.ext (v:=(b_ r74)) (vs:=[(i_ r73),(b_ r74),(i_ r75)]) tv rfl rfl rfl (Rn.ext (v:=(i_ r75)) (vs:=[(i_ r73),(b_ r74),(i_ r75)]) tv rfl rfl rfl (md rfl (md rfl (md rfl (nt ((Tr.seq ?_))))))))))
                 refine Tr.rgnD (by decide) ?_
                 refine md rfl ?_
                 obtain ⟨x76,h77,h⟩:=bnd h
                 refine Rn.idxD (e:=Qr) tv rfl rfl h77 (Rn.loadCA (vs:=(Qd x76)) tv rfl rfl rfl (md rfl (md rfl ?_)))
                 obtain ⟨x78,h79,h⟩:=bnd h
                 refine Rn.idxD (e:=(eL 1 (eI .i64))) tv rfl rfl h79 (Rn.loadC (x:=.lst 1 (List.map (eI .i64) x78)) tv rfl ?_)
                 obtain ⟨x80,h81,h⟩:=bnd h
                 refine Rn.idxD (e:=(eI .i64)) tv rfl rfl h81 (Rn.loadC (x:=.int .i64 x80) tv rfl (md rfl ?_))
                 obtain ⟨⟨r83,r84,r85⟩,h82,h⟩:=bnd h
                 refine Rn.call (args:=[(Qb x76),(i_ x80),(i_ x70)]) tv rfl (H_automaton_Step _ _ _ _ h82) pc0 (Rn.mov (v:=.tup [(i_ r83),(b_ r84),(i_ r85)]) tv rfl (Rn.ext (v:=(i_ r83)) (vs:=[(i_ r83),(b_ r84),(i_ r85)]) tv rfl rfl rfl (Rn.ext (v:=(b_ r84)) (vs:=[(i_ r83),(b_ r84),(i_ r85)]) tv rfl rfl rfl (Rn.ext (v:=(i_ r85)) (vs:=[(i_ r83),(b_ r84),(i_ r85)]) tv rfl rfl rfl (md rfl (md rfl (md rfl ?_)))))))
                 refine Rn.nil ⟨rfl,?_⟩
                 refine toN (sr ((md rfl (Rn.nil (toN ?_)))))
                 refine Tr.cond rfl (fun hb86=>?_) (fun hb86=>?_)
                 ·replace h:=bT hb86 h
                  refine Tr.rgn (Rn.fldP (o':=3) tv rfl rfl (Rn.loadT (cs':=[(l_ r53.zJ),(i_ (IntKind.wrap .i64 (r53.zM+1))),(l_ r53.zK),(Qe out67)]) tv rfl rfl rfl rfl (md rfl (md rfl (md rfl (Rn.build (v:=.agg [(i_ i62),(i_ x70),(i_ r73)]) tv rfl (Rn.bslice (xs:=[.agg [(i_ i62),(i_ x70),(i_ r73)]]) (cs:=[(i_ i62),(i_ x70),(i_ r73)]) tv rfl rfl rfl rfl ?_)))))))
                  obtain ⟨x87,h88,h⟩:=bnd h
                  refine Rn.app (e:=Qv) tv rfl rfl rfl (Qcl rfl rfl rfl) h88 rfl (Rn.fldP (o':=3) tv rfl rfl (Rn.storeO (cs':=[(l_ r53.zJ),(i_ (IntKind.wrap .i64 (r53.zM+1))),(l_ r53.zK),(Qk x87)]) tv rfl rfl rfl rfl rfl (Rn.nil ?_)))
                  replace h:=si h; subst h
                  exact Qg [174] ⟨(sm rfl),(sm rfl),(sm rfl),(kPtr rfl),(kPtr rfl),(sm rfl),(kPtr rfl),(sm rfl),(sm rfl),(sm rfl),(sm rfl),tv⟩ ⟨bS rfl rfl rfl,bS rfl rfl rfl,bS rfl rfl rfl,tv⟩ rfl
                 ·replace h:=bF hb86 h
                  refine Tr.cutB (fun (x93:Bool)=>⟨look [(1,(l_ uncontrollable2)),(2,(i_ tick3)),(7,(Qf all14)),(8,.ptr (Γ.n0+8) 0),(13,.ptr (Γ.n0+13) 0),(14,.d (.lst 1 (List.map (eL 1 (eI .i64)) r54))),(16,.ptr (Γ.n0+16) 0),(17,(i_ i62)),(19,(i_ x70)),(138,(l_ r53.zJ)),(139,(i_ (r53.zJ.length:Int))),(140,(i_ x66)),(187,(b_ x93))],Qm Γ.n0 (bxs [(8,.cells ((Qd r20))),(13,.cells ((Qd r53))),(16,.cells ([(l_ r53.zJ),(i_ (IntKind.wrap .i64 (r53.zM+1))),(l_ r53.zK),(Qk out67)]))]) M,Γ.n0+202⟩) h (fun z h=>?_) (fun z h=>?_)
                  ·refine Tr.rgn (md rfl (md rfl ?_))
                   refine Qbz r84 (fun hb89=>?_) (fun hb89=>?_)
                   ·replace h:=bT hb89 h
                    refine Rn.movD (gw rfl hb89) rfl (Rn.movD (gw rfl hb89) rfl ?_)
                    obtain ⟨x91,h90,h⟩:=bnd h
                    refine Rn.call (args:=[(l_ uncontrollable2),(i_ x70)]) (gw rfl hb89) rfl (H_overseerlaw46_has _ _ _ h90) pc9 (Rn.movD (gw rfl hb89) rfl ?_)
                    refine Qbz x91 (fun hb92=>?_) (fun hb92=>?_)
                    ·replace h:=bT hb92 h
                     refine Rn.sk (nw rfl hb92) (Rn.sk (nw rfl hb92) (Rn.sk (nw rfl hb92) (Rn.pickT (v:=(b_ true)) (gw rfl hb89) rfl hb92 rfl (Rn.pickT (v:=(b_ true)) tv rfl hb89 rfl (Rn.nil ?_)))))
                     replace h:=si h; subst h
                     exact Qg [] ⟨(sm rfl),(sm rfl),(sm rfl),(kPtr rfl),(kPtr rfl),(sm rfl),(kPtr rfl),(sm rfl),(sm rfl),(sm rfl),(sm rfl),(sm rfl),(sm rfl),tv⟩ ⟨bS rfl rfl rfl,bS rfl rfl rfl,bS rfl rfl rfl,tv⟩ rfl
                    ·replace h:=bF hb92 h
                     refine Rn.movD (gw rfl hb92) rfl (Rn.movD (gw rfl hb92) rfl (Rn.bin (gw rfl hb92) rfl rfl rfl (Rn.pickF (v:=(b_ (x70 == tick3))) (gw rfl hb89) rfl hb92 rfl (Rn.pickT (v:=(b_ (x70 == tick3))) tv rfl hb89 rfl (Rn.nil ?_)))))
                     replace h:=si h; subst h
                     exact Qg [] ⟨(sm rfl),(sm rfl),(sm rfl),(kPtr rfl),(kPtr rfl),(sm rfl),(kPtr rfl),(sm rfl),(sm rfl),(sm rfl),(sm rfl),(sm rfl),(sm rfl),tv⟩ ⟨bS rfl rfl rfl,bS rfl rfl rfl,bS rfl rfl rfl,tv⟩ rfl
                   ·replace h:=bF hb89 h
                    refine Rn.sk (nw rfl hb89) (Rn.sk (nw rfl hb89) (Rn.sk (nw rfl hb89) (Rn.sk (nw rfl hb89) (Rn.sk (nu rfl) (Rn.sk (nu rfl) (Rn.sk (nu rfl) (Rn.sk (nw rfl hb89) (Rn.pickF (v:=(b_ false)) tv rfl hb89 rfl (Rn.nil ?_)))))))))
                    replace h:=si h; subst h
                    exact Qg [] ⟨(sm rfl),(sm rfl),(sm rfl),(kPtr rfl),(kPtr rfl),(sm rfl),(kPtr rfl),(sm rfl),(sm rfl),(sm rfl),(sm rfl),(sm rfl),(sm rfl),tv⟩ ⟨bS rfl rfl rfl,bS rfl rfl rfl,bS rfl rfl rfl,tv⟩ rfl
                  ·obtain ⟨x93,rfl⟩ : ∃ x,x=z:=⟨_,rfl⟩
                   refine Tr.cond rfl (fun hb94=>?_) (fun hb94=>?_)
                   ·replace h:=bT hb94 h
                    refine Tr.rgn (Rn.fldP (o':=3) tv rfl rfl (Rn.loadT (cs':=[(l_ r53.zJ),(i_ (IntKind.wrap .i64 (r53.zM+1))),(l_ r53.zK),(Qe out67)]) tv rfl rfl rfl rfl (md rfl (md rfl (Rn.fldP (o':=1) tv rfl rfl (lB (v:=(i_ r53.zM)) rfl rfl rfl rfl (Rn.build (v:=.agg [(i_ i62),(i_ x70),(i_ r53.zM)]) tv rfl (Rn.bslice (xs:=[.agg [(i_ i62),(i_ x70),(i_ r53.zM)]]) (cs:=[(i_ i62),(i_ x70),(i_ r53.zM)]) tv rfl rfl rfl rfl ?_))))))))
                    obtain ⟨x95,h96,h⟩:=bnd h
                    refine Rn.app (e:=Qv) tv rfl rfl rfl (Qcl rfl rfl rfl) h96 rfl (Rn.fldP (o':=3) tv rfl rfl (Rn.storeO (cs':=[(l_ r53.zJ),(i_ (IntKind.wrap .i64 (r53.zM+1))),(l_ r53.zK),(Qk x95)]) tv rfl rfl rfl rfl rfl (Rn.nil ?_)))
                    replace h:=si h; subst h
                    exact Qg [195] ⟨(sm rfl),(sm rfl),(sm rfl),(kPtr rfl),(kPtr rfl),(sm rfl),(kPtr rfl),(sm rfl),(sm rfl),(sm rfl),(sm rfl),tv⟩ ⟨bS rfl rfl rfl,bS rfl rfl rfl,bS rfl rfl rfl,tv⟩ rfl
                   ·replace h:=bF hb94 h
                    refine Tr.skip ?_
                    replace h:=si h; subst h
                    exact Qg [] ⟨(sm rfl),(sm rfl),(sm rfl),(kPtr rfl),(kPtr rfl),(sm rfl),(kPtr rfl),(sm rfl),(sm rfl),(sm rfl),(sm rfl),tv⟩ ⟨bS rfl rfl rfl,bS rfl rfl rfl,bS rfl rfl rfl,tv⟩ rfl
                ·obtain ⟨out97,rfl⟩ : ∃ x,x=z:=⟨_,rfl⟩
                 refine Tr.rgn (Rn.bin tv rfl rfl rfl (md rfl (Rn.nil ?_)))
                 exact ⟨_,h,(by exact Qj ⟨(sm rfl),(sm rfl),(sm rfl),(kPtr rfl),(kPtr rfl),(sm rfl),(kPtr rfl),(sm rfl),(sm rfl),(sm rfl),(sm rfl),tv⟩ ⟨bS rfl rfl rfl,bS rfl rfl rfl,bS rfl rfl rfl,tv⟩ rfl)⟩
               ·replace h:=ifF hb69 h
                refine Tr.exit ?_
                replace h:=si h; subst h
                exact Qg [] ⟨(sm rfl),(sm rfl),(sm rfl),(kPtr rfl),(kPtr rfl),(sm rfl),(kPtr rfl),(sm rfl),tv⟩ ⟨bS rfl rfl rfl,bS rfl rfl rfl,bS rfl rfl rfl,tv⟩ rfl
             ·obtain ⟨out98,rfl⟩ : ∃ x,x=z:=⟨_,rfl⟩
              refine Tr.rgn (md rfl (Rn.bin tv rfl rfl rfl (md rfl (Rn.nil ?_))))
              exact ⟨_,h,(by exact Qj ⟨(sm rfl),(sm rfl),(sm rfl),(kPtr rfl),(kPtr rfl),(sm rfl),(kPtr rfl),(sm rfl),tv⟩ ⟨bS rfl rfl rfl,bS rfl rfl rfl,bS rfl rfl rfl,tv⟩ rfl)⟩
            ·replace h:=ifF hb65 h
             refine Tr.exit ?_
             replace h:=si h; subst h
             exact Qg [] ⟨(kPtr rfl),(kPtr rfl),tv⟩ ⟨bS rfl rfl rfl,bS rfl rfl rfl,bS rfl rfl rfl,tv⟩ rfl
          ·obtain ⟨out99,out100⟩:=z
           refine sr ((lB (v:=(Qb r20)) rfl rfl rfl rfl (lB (v:=.agg [(l_ r53.zJ),(i_ out99),(l_ r53.zK),(Qe out100)]) rfl rfl rfl rfl ?_)))
           obtain ⟨x102,h101,h⟩:=bnd h
           refine Rn.call (args:=[(Qb r20),.agg [(l_ r53.zJ),(i_ out99),(l_ r53.zK),(Qe out100)]]) tv rfl (H_automaton_Equal _ _ _ h101) pc9 (md rfl (nt ((Tr.ret ?_))))
           replace h:=si h; subst h
           exact ⟨.inr rfl,(b_ x102),rfl,fun _ _ _ _ h=>h,tv,mB⟩
end Go.Abs
end
section
namespace Go.Proofs
open Go.Abs
set_option maxRecDepth 100000
theorem Qjz:Qq Tryz.prog 3=some Qdf:=by kernel_rfl
theorem Q56:Qq Tryz.prog 5=some Qjs:=by kernel_rfl
theorem Q71:Qq Tryz.prog 6=some Qki:=by kernel_rfl
theorem Qxn:Qq Tryz.prog 7=some Qgt:=by kernel_rfl
theorem Qbcw:Qq Tryz.prog 8=some Qn0:=by kernel_rfl
theorem Q9f:Qq Tryz.prog 9=some Qk1:=by kernel_rfl
theorem Q72:Qq Tryz.prog 10=some Qkk:=by kernel_rfl
theorem Q57:Qq Tryz.prog 11=some Qjy:=by kernel_rfl
theorem Qbjn:Qq Tryz.prog 12=some Q5a:=by kernel_rfl
theorem Qbd1:Qq Tryz.prog 13=some Qrf:=by kernel_rfl
theorem Q9g:Qq Tryz.prog 14=some Qll:=by kernel_rfl
theorem Qbcx:Qq Tryz.prog 15=some Qn1:=by kernel_rfl
theorem Qxo:Qq Tryz.prog 17=some Qgn:=by kernel_rfl
theorem Qu1:Qq Tryz.prog 18=some Qfv:=by kernel_rfl
theorem Q58:Qq Tryz.prog 23=some Qjp:=by kernel_rfl
theorem Q73:Qq Tryz.prog 24=some Qkg:=by kernel_rfl
theorem Qvk:Qq Tryz.prog 25=some Qf8:=by kernel_rfl
theorem Qbfo:Qq Tryz.prog 26=some Quf:=by kernel_rfl
theorem Q35:Qq Tryz.prog 27=some Qir:=by kernel_rfl
theorem Q36:Qq Tryz.prog 28=some Qi1:=by kernel_rfl
theorem Q9h:Qq Tryz.prog 29=some Qk2:=by kernel_rfl
theorem Qbd2:Qq Tryz.prog 30=some Qq7:=by kernel_rfl
theorem Qbgk:Qq Tryz.prog 31=some Qxc:=by kernel_rfl
theorem Qxp:Qq Tryz.prog 32=some Qgr:=by kernel_rfl
theorem Q0q:Qq Tryz.prog 34=some Qhc:=by kernel_rfl
theorem Q37:Qq Tryz.prog 35=some Qiz:=by kernel_rfl
theorem Qbbe:Qq Tryz.prog 36=some Qmy:=by kernel_rfl
theorem Q38:Qq Tryz.prog 37=some Qi3:=by kernel_rfl
theorem Q59:Qq Tryz.prog 38=some Qjq:=by kernel_rfl
theorem Qbd3:Qq Tryz.prog 39=some Qrd:=by kernel_rfl
theorem Q9i:Qq Tryz.prog 40=some Qlj:=by kernel_rfl
theorem Q39:Qq Tryz.prog 41=some Qix:=by kernel_rfl
theorem Qu2:Qq Tryz.prog 42=some Qfx:=by kernel_rfl
theorem Q4a:Qq Tryz.prog 43=some Qit:=by kernel_rfl
theorem Q4b:Qq Tryz.prog 44=some Qiv:=by kernel_rfl
theorem Qu3:Qq Tryz.prog 45=some Qft:=by kernel_rfl
theorem Qoh:Qq Tryz.prog 46=some Qen:=by kernel_rfl
theorem Qvl:Qq Tryz.prog 47=some Qf6:=by kernel_rfl
theorem Qri:Qq Tryz.prog 48=some Qfa:=by kernel_rfl
theorem Qnj:Qq Tryz.prog 49=some Qei:=by kernel_rfl
theorem Qbfp:Qq Tryz.prog 52=some Quz:=by kernel_rfl
theorem Qbd4:Qq Tryz.prog 53=some Qq5:=by kernel_rfl
theorem Qbcy:Qq Tryz.prog 55=some Qnw:=by kernel_rfl
theorem Qbbf:Qq Tryz.prog 56=some Qmx:=by kernel_rfl
theorem Q6a:Qq Tryz.prog 57=some Qjt:=by kernel_rfl
theorem Qxq:Qq Tryz.prog 58=some Qgp:=by kernel_rfl
theorem Qxr:Qq Tryz.prog 59=some Qgl:=by kernel_rfl
theorem Qbbg:Qq Tryz.prog 60=some Qm1:=by kernel_rfl
theorem Qbd5:Qq Tryz.prog 61=some Qrb:=by kernel_rfl
theorem Qbbh:Qq Tryz.prog 66=some Qmk:=by kernel_rfl
theorem Q2j:Qq Tryz.prog 67=some Qhj:=by kernel_rfl
theorem Qbbi:Qq Tryz.prog 68=some Qm5:=by kernel_rfl
theorem Qs6:Qq Tryz.prog 70=some Qfm:=by kernel_rfl
theorem Qrj:Qq Tryz.prog 77=some Qfc:=by kernel_rfl
theorem Qbcz:Qq Tryz.prog 78=some Qoc:=by kernel_rfl
theorem Qbc0:Qq Tryz.prog 79=some Qoe:=by kernel_rfl
theorem Q74:Qq Tryz.prog 80=some Qkd:=by kernel_rfl
theorem Q4c:Qq Tryz.prog 81=some Qiq:=by kernel_rfl
theorem Q6b:Qq Tryz.prog 82=some Qjv:=by kernel_rfl
theorem Q9j:Qq Tryz.prog 83=some Qlh:=by kernel_rfl
theorem Q75:Qq Tryz.prog 84=some Qke:=by kernel_rfl
theorem Q6c:Qq Tryz.prog 85=some Qjx:=by kernel_rfl
theorem Qbgl:Qq Tryz.prog 86=some Qv9:=by kernel_rfl
theorem Qbbj:Qq Tryz.prog 87=some Qmm:=by kernel_rfl
theorem Qbd6:Qq Tryz.prog 88=some Qq9:=by kernel_rfl
theorem Qp4:Qq Tryz.prog 93=some Qez:=by kernel_rfl
theorem Qs7:Qq Tryz.prog 94=some Qfk:=by kernel_rfl
theorem Qbfq:Qq Tryz.prog 98=some Qtt:=by kernel_rfl
theorem Qbbk:Qq Tryz.prog 99=some Qm3:=by kernel_rfl
theorem Qp5:Qq Tryz.prog 112=some Qe1:=by kernel_rfl
end Go.Proofs
end
section
namespace Go.Abs
open Go Go.Sort
section plain
variable {β:Type}
def insB (lt:β→β→Bool) (x:β):List β→List β
 | []=>[x]
 | y :: ys=>if lt y x then y :: insB lt x ys else x :: y :: ys
def Q6d (lt:β→β→Bool):List β→List β
 | []=>[]
 | x :: xs=>insB lt x (Q6d lt xs)
theorem Qbfr (lt:β→β→Bool) (x:β):∀ l,(insB lt x l).Perm (x :: l)
 | []=>.refl _
 | y :: ys=>by
  unfold insB; split
  ·exact ((Qbfr lt x ys).cons y).trans (.swap x y ys)
  ·exact .refl _
theorem Q2k (lt:β→β→Bool):∀ l,(Q6d lt l).Perm l
 | []=>.refl _
 | x :: xs=>(Qbfr lt x _).trans ((Q2k lt xs).cons x)
theorem Q2l (lt:β→β→Bool) (l:List β):(Q6d lt l).length=l.length:=(Q2k lt l).length_eq
theorem Qbfs {lt:β→β→Bool} (h:SWO lt) (x:β):∀ l,l.Pairwise (fun a b=>lt b a=false)→(insB lt x l).Pairwise fun a b=>lt b a=false
 | [],_=>by simp [insB]
 | y :: ys,hl=>by
  obtain ⟨h1,h2⟩:=List.pairwise_cons.1 hl
  unfold insB; split
  ·rename_i hc
   refine List.pairwise_cons.2 ⟨fun z hz=>?_,Qbfs h x ys h2⟩
   rcases List.mem_cons.1 ((Qbfr lt x ys).mem_iff.1 hz) with rfl | hz
   ·cases hb:lt z y with
    | false=>rfl
    | true=>have:=h.trans _ _ _ hc hb; rw [h.irrefl] at this; cases this
   ·exact h1 z hz
  ·rename_i hc
   have hc:lt y x=false:=by cases h:lt y x <;> simp_all
   refine List.pairwise_cons.2 ⟨fun z hz=>?_,hl⟩
   rcases List.mem_cons.1 hz with rfl | hz
   ·exact hc
   ·exact h.ntrans _ _ _ (h1 z hz) hc
theorem Q2m {lt:β→β→Bool} (h:SWO lt):∀ l,(Q6d lt l).Pairwise fun a b=>lt b a=false
 | []=>.nil
 | x :: xs=>Qbfs h x _ (Q2m h xs)
end plain
def Qkq (a b:Int):Bool:=decide (a < b)
end Go.Abs
end
section
namespace Go.Abs
def Qbs7 (l:List Int):Option (List Int):=if l.length≤lim then some (Q6d Qkq l) else none
def keyL (l:List Int):List UInt8:=l.flatMap fun x=>Lib.decDigits x.toNat ++ [32]
def keyB (l:List Int):ByteArray:=⟨(keyL l).toArray⟩
def keyI (l:List Int):Option ByteArray:=if l.length≤lim∧∀ x∈l,0≤x∧x < 100 then some (keyB l) else none
end Go.Abs
end
section
namespace Go.Abs
open Go Go.Abs
set_option maxRecDepth 10000
set_option maxHeartbeats 4000000
def Qb2:Nat:=1099511627776
def Qp6:=Qco
def Qgz:=Qck Qb2
def Qji:=Qdc Qb2
def Qe3:=Q8 Qji
def Qf0:=Qch Qe3 Qb2
def Qeo:=Q5 Qgz Qf0
def Qd8:=Qy Qb2
def Qdy:=Qt
def Qu4:=Qdz
def Qkr:=Qer Qu4
def Qjj:=Qc5
def Qet:=Qbv Qkr Qjj Qb2
def Qbt:=Qi Qet
def Qnm:=Qcw Qd8 Qdy Qbt Qeo Qb2
def Qnn:=Qcx Qbt Qb2
def Qhg:=Qbj
def Qee:=Qz Qb2
def Qek:=Qs Qee
def Qhh:=Qbk Qbt
def Qjk:=Qbp Qek Qhh
def Qjl:=Qbq Qbt Qek Qhg Qjk Qb2
def Qep:=Qu Qbt Qb2
def Qj0:=Qb0 Qep Qjl Qb2
def Qii:=Qbo
def Qgg:=Qbr
def Qgu:=Qba Qbt Qgg Qb2
def Qj1:=Qbl Qnm Qnn Qj0 Qep Qek Qii Qgu Qb2
def Qj2:=Qb1
def Qno:=Qcy Qdy Qbs7 Qb2
def Qks:=Qcc Qno Qj2
def Qgh:=Qbm Qb2
def Qp7:=Qdv Qgh
def Qj3:=Qcp Qp7 Qks Qj1 Qp6
def Qdr:=Qb9 Qb2
def Qe4:=Q1
def Qc2:=Qbc Qb2
def Qdg:=Qbn Qb2
def Qgi:=Qcq Qdg Qc2 Qb2
def Qe5:=Qcr Qb2
def Qeu:=Qbw Qe4 Qgi Qdg Qc2 Qe5 Qb2
def Qfg:=Qcz Qe4 Qeu Qb2
def Qg0:=Qc0 Qfg Qdr Qb2
def Qj4:=Qcs Qeo Qb2
def Qga:=Qb8 Qb2
def Qm8:=Qdw
def Qkv:=Qd2 Qga Qm8
def Qfn:=Qb4 Qkv
def Qm9:=Qdx
def Qij:=Qd3 Qga Qm9
def Qfd:=Qd4 Qij Qb2
def Qoo:=Qes Qfd Qb2
def Qev:=Qbx Qb2
def Qe7:=Qb5 Qbt Qb2
def Qf1:=Qci Qbt Qgg Qb2
def Qcd:=Q2 Qj4 Qoo Qev keyI Qe7 Qf1 Qb2
def Qf2:=Qb7 Qb2
def Qd0:=Qby Qfn Qd8 Qcd Qj4 Qdy Qf2 Qbt Qb2
def Qhl:=Qc7 Qb2
def Qhd:=Qb6 Qgh Qhl
def Qg1:=Qc1 Qhd
def Qf3:=Qcj Qeo
def Qd6:=Q3 Qb2
def Qj8:=Qdn
def Qj9:=Qdo
def Qna:=Qed Qd6 Qj8 Qj9
def Qjm:=Qdd
def Qkw:=Qd5 Qna Qee Qjm
def Qik:=Qdi Qf3 Qe3 Qkw
def Qhm:=Qc8 Qb2
def Qdh:=Qct Qj3 Qg0 Qd0 Qfn Qd8 Qg1 Qcd Qp7 Qik Qhm Qhd Qb2
end Go.Abs
end
section
namespace Go.Proofs
open Go.Shelf
def Tryz.lays169_ren:Go.Shelf.Ren:=⟨fun | 169=>65 | n=>n,fun | 70=>130 | 9=>9 | 0=>0 | 72=>133 | 37=>131 | 127=>160 | 3=>3 | 5=>5 | n=>n,fun | n=>n⟩
theorem Tryz.lays169:Go.Proofs.Lays.n169 Tryz.prog Tryz.lays169_ren:={
 mixed:=by kernel_rfl
 f169:=Tryz.func65.trans (congrArg some (by kernel_rfl))
 t0:=Tryz.underlying0
 a0:=Tryz.isAgg0
 z0:=Tryz.sizeOf0
 v0:=Tryz.zeroValue0
 t3:=Tryz.underlying3
 a3:=Tryz.isAgg3
 z3:=Tryz.sizeOf3
 v3:=Tryz.zeroValue3
 t9:=Tryz.underlying9
 a9:=Tryz.isAgg9
 z9:=Tryz.sizeOf9
 v9:=Tryz.zeroValue9
 t37:=Tryz.underlying131
 a37:=Tryz.isAgg131
 z37:=Tryz.sizeOf131
 v37:=Tryz.zeroValue131
 t70:=Tryz.underlying130
 a70:=Tryz.isAgg130
 z70:=Tryz.sizeOf130
 v70:=Tryz.zeroValue130
 t72:=Tryz.underlying133
 a72:=Tryz.isAgg133
 z72:=Tryz.sizeOf133
 v72:=Tryz.zeroValue133
 t127:=Tryz.underlying160
 a127:=Tryz.isAgg160
 z127:=Tryz.sizeOf160
 v127:=Tryz.zeroValue160 }
theorem Tryz.Builder_Extra_169:Builder.Extra Tryz.prog Tryz.lays169_ren:={
 sizeBuilder:=by kernel_rfl
 liesBuilder:=by kernel_rfl
 t5:=Tryz.underlying5
 a5:=Tryz.isAgg5
 z5:=Tryz.sizeOf5
 v5:=Tryz.zeroValue5
 infoByte:=by kernel_rfl
 cellsByte:=by kernel_rfl
 sizeByte:=by kernel_rfl
 neB5:=by decide }
open Go.RowKit in
theorem Tryz.Builder_String_any_k (B b:Nat) (l:List UInt8) (w:World) (h:Lib.IsBuilderF 133 5 B b (Lib.byteCells l) w) (hBw:B≤w.heap.size) :
  Calls Tryz.prog 65 #[.pointer (some ⟨b,0,none⟩)] w fun e w'=>e = .returned (.string ⟨l.toArray⟩)∧(Lib.IsBuilderF 133 5 B b (Lib.byteCells l) w' ∧ Below B w w' ∧ Lib.OthersKept 5 (some b) w w'):=Any.Builder_String_any_k Tryz.lays169 Tryz.Builder_Extra_169 B b l w h hBw
def Tryz.lays171_ren:Go.Shelf.Ren:=⟨fun | 171=>63 | 243=>90 | 246=>101 | 283=>121 | 284=>122 | 285=>123 | 286=>124 | 129=>111 | 317=>133 | 318=>134 | 319=>135 | 320=>136 | 337=>139 | 338=>140 | n=>n,fun | 3=>3 | 9=>9 | 2=>2 | 4=>4 | 171=>183 | 0=>0 | 53=>177 | 37=>131 | 5=>5 | 173=>185 | 212=>197 | 51=>175 | 20=>20 | 213=>198 | 46=>158 | 232=>202 | 233=>203 | n=>n,fun | 17=>0 | 18=>1 | 19=>2 | n=>n⟩
theorem Tryz.lays171:Go.Proofs.Lays.n171 Tryz.prog Tryz.lays171_ren:={
 mixed:=by kernel_rfl
 f129:=Tryz.func111.trans (congrArg some (by kernel_rfl))
 f171:=Tryz.func63.trans (congrArg some (by kernel_rfl))
 f243:=Tryz.func90.trans (congrArg some (by kernel_rfl))
 f246:=Tryz.func101.trans (congrArg some (by kernel_rfl))
 f283:=Tryz.func121.trans (congrArg some (by kernel_rfl))
 f284:=Tryz.func122.trans (congrArg some (by kernel_rfl))
 f285:=Tryz.func123.trans (congrArg some (by kernel_rfl))
 f286:=Tryz.func124.trans (congrArg some (by kernel_rfl))
 f317:=Tryz.func133.trans (congrArg some (by kernel_rfl))
 f318:=Tryz.func134.trans (congrArg some (by kernel_rfl))
 f319:=Tryz.func135.trans (congrArg some (by kernel_rfl))
 f320:=Tryz.func136.trans (congrArg some (by kernel_rfl))
 f337:=Tryz.func139.trans (congrArg some (by kernel_rfl))
 f338:=Tryz.func140.trans (congrArg some (by kernel_rfl))
 t0:=Tryz.underlying0
 a0:=Tryz.isAgg0
 z0:=Tryz.sizeOf0
 v0:=Tryz.zeroValue0
 t2:=Tryz.underlying2
 a2:=Tryz.isAgg2
 z2:=Tryz.sizeOf2
 v2:=Tryz.zeroValue2
 t3:=Tryz.underlying3
 a3:=Tryz.isAgg3
 z3:=Tryz.sizeOf3
 v3:=Tryz.zeroValue3
 t4:=Tryz.underlying4
 a4:=Tryz.isAgg4
 z4:=Tryz.sizeOf4
 v4:=Tryz.zeroValue4
 t5:=Tryz.underlying5
 a5:=Tryz.isAgg5
 z5:=Tryz.sizeOf5
 v5:=Tryz.zeroValue5
 t9:=Tryz.underlying9
 a9:=Tryz.isAgg9
 z9:=Tryz.sizeOf9
 v9:=Tryz.zeroValue9
 t20:=Tryz.underlying20
 a20:=Tryz.isAgg20
 z20:=Tryz.sizeOf20
 v20:=Tryz.zeroValue20
 t37:=Tryz.underlying131
 a37:=Tryz.isAgg131
 z37:=Tryz.sizeOf131
 v37:=Tryz.zeroValue131
 t46:=Tryz.underlying158
 a46:=Tryz.isAgg158
 z46:=Tryz.sizeOf158
 v46:=Tryz.zeroValue158
 t51:=Tryz.underlying175
 a51:=Tryz.isAgg175
 z51:=Tryz.sizeOf175
 v51:=Tryz.zeroValue175
 t53:=Tryz.underlying177
 a53:=Tryz.isAgg177
 z53:=Tryz.sizeOf177
 v53:=Tryz.zeroValue177
 t171:=Tryz.underlying183
 a171:=Tryz.isAgg183
 z171:=Tryz.sizeOf183
 v171:=Tryz.zeroValue183
 t173:=Tryz.underlying185
 a173:=Tryz.isAgg185
 z173:=Tryz.sizeOf185
 v173:=Tryz.zeroValue185
 t212:=Tryz.underlying197
 a212:=Tryz.isAgg197
 z212:=Tryz.sizeOf197
 v212:=Tryz.zeroValue197
 t213:=Tryz.underlying198
 a213:=Tryz.isAgg198
 z213:=Tryz.sizeOf198
 t232:=Tryz.underlying202
 a232:=Tryz.isAgg202
 z232:=Tryz.sizeOf202
 v232:=Tryz.zeroValue202
 t233:=Tryz.underlying203
 a233:=Tryz.isAgg203
 z233:=Tryz.sizeOf203
 v233:=Tryz.zeroValue203
 g17:=by kernel_rfl
 g18:=by kernel_rfl
 g19:=by kernel_rfl }
open Go.RowKit Go.Sort Go.Lib in
theorem Tryz.strconv_Itoa_small (i:Nat) (hi:i < 100) (w:World) :
  Calls Tryz.prog 63 #[.int .i64 i] w fun e w'=>e = .returned (.string ⟨(Lib.decDigits i).toArray⟩)∧w' = w:=Any.strconv_Itoa_small Tryz.lays171 i hi w
def Tryz.laysSlM5_f69_ren:Go.Shelf.Ren:=⟨fun | 5=>69 | 8=>92 | 7=>91 | 19=>110 | 20=>111 | 10=>102 | 11=>103 | 12=>104 | 13=>105 | 14=>106 | 15=>107 | 16=>86 | 17=>108 | 18=>109 | 30=>125 | 31=>126 | 32=>127 | 33=>128 | 34=>129 | 35=>98 | 40=>137 | n=>n,fun | 23=>23 | 25=>3 | 3=>3 | 32=>158 | 22=>23 | 0=>0 | 44=>175 | 46=>177 | 4=>4 | 36=>169 | 35=>168 | 41=>86 | 5=>5 | 9=>9 | 53=>187 | 57=>191 | 63=>199 | 64=>144 | n=>n,fun | n=>n⟩
theorem Tryz.laysSlM5_f69:Go.Proofs.SlLaysM.n5 Tryz.prog Tryz.laysSlM5_f69_ren:={
 mixed:=by kernel_rfl
 f5:=⟨Tryz.f69.name,by decide,Tryz.func69.trans (congrArg some (by kernel_rfl))⟩
 f7:=⟨Tryz.f91.name,by decide,Tryz.func91.trans (congrArg some (by kernel_rfl))⟩
 f8:=Tryz.func92.trans (congrArg some (by kernel_rfl))
 f10:=⟨Tryz.f102.name,by decide,Tryz.func102.trans (congrArg some (by kernel_rfl))⟩
 f11:=⟨Tryz.f103.name,by decide,Tryz.func103.trans (congrArg some (by kernel_rfl))⟩
 f12:=⟨Tryz.f104.name,by decide,Tryz.func104.trans (congrArg some (by kernel_rfl))⟩
 f13:=⟨Tryz.f105.name,by decide,Tryz.func105.trans (congrArg some (by kernel_rfl))⟩
 f14:=⟨Tryz.f106.name,by decide,Tryz.func106.trans (congrArg some (by kernel_rfl))⟩
 f15:=⟨Tryz.f107.name,by decide,Tryz.func107.trans (congrArg some (by kernel_rfl))⟩
 f16:=⟨Tryz.f86.name,by decide,Tryz.func86.trans (congrArg some (by kernel_rfl))⟩
 f17:=⟨Tryz.f108.name,by decide,Tryz.func108.trans (congrArg some (by kernel_rfl))⟩
 f18:=⟨Tryz.f109.name,by decide,Tryz.func109.trans (congrArg some (by kernel_rfl))⟩
 f19:=Tryz.func110.trans (congrArg some (by kernel_rfl))
 f20:=Tryz.func111.trans (congrArg some (by kernel_rfl))
 f30:=⟨Tryz.f125.name,by decide,Tryz.func125.trans (congrArg some (by kernel_rfl))⟩
 f31:=Tryz.func126.trans (congrArg some (by kernel_rfl))
 f32:=Tryz.func127.trans (congrArg some (by kernel_rfl))
 f33:=⟨Tryz.f128.name,by decide,Tryz.func128.trans (congrArg some (by kernel_rfl))⟩
 f34:=⟨Tryz.f129.name,by decide,Tryz.func129.trans (congrArg some (by kernel_rfl))⟩
 f35:=⟨Tryz.f98.name,by decide,Tryz.func98.trans (congrArg some (by kernel_rfl))⟩
 f40:=⟨Tryz.f137.name,by decide,Tryz.func137.trans (congrArg some (by kernel_rfl))⟩
 t0:=Tryz.underlying0
 a0:=Tryz.isAgg0
 z0:=Tryz.sizeOf0
 v0:=Tryz.zeroValue0
 t3:=Tryz.underlying3
 a3:=Tryz.isAgg3
 z3:=Tryz.sizeOf3
 v3:=Tryz.zeroValue3
 t4:=Tryz.underlying4
 a4:=Tryz.isAgg4
 z4:=Tryz.sizeOf4
 v4:=Tryz.zeroValue4
 t5:=Tryz.underlying5
 a5:=Tryz.isAgg5
 z5:=Tryz.sizeOf5
 v5:=Tryz.zeroValue5
 t9:=Tryz.underlying9
 a9:=Tryz.isAgg9
 z9:=Tryz.sizeOf9
 v9:=Tryz.zeroValue9
 t22:=Tryz.underlying23
 a22:=Tryz.isAgg23
 z22:=Tryz.sizeOf23
 v22:=Tryz.zeroValue23
 t23:=Tryz.underlying23
 a23:=Tryz.isAgg23
 z23:=Tryz.sizeOf23
 v23:=Tryz.zeroValue23
 t25:=Tryz.underlying3
 a25:=Tryz.isAgg3
 z25:=Tryz.sizeOf3
 v25:=Tryz.zeroValue3
 t32:=Tryz.underlying158
 a32:=Tryz.isAgg158
 z32:=Tryz.sizeOf158
 v32:=Tryz.zeroValue158
 t35:=Tryz.underlying168
 a35:=Tryz.isAgg168
 z35:=Tryz.sizeOf168
 v35:=Tryz.zeroValue168
 t36:=Tryz.underlying169
 a36:=Tryz.isAgg169
 z36:=Tryz.sizeOf169
 v36:=Tryz.zeroValue169
 t41:=Tryz.underlying86
 a41:=Tryz.isAgg86
 z41:=Tryz.sizeOf86
 v41:=Tryz.zeroValue86
 t44:=Tryz.underlying175
 a44:=Tryz.isAgg175
 z44:=Tryz.sizeOf175
 v44:=Tryz.zeroValue175
 t46:=Tryz.underlying177
 a46:=Tryz.isAgg177
 z46:=Tryz.sizeOf177
 v46:=Tryz.zeroValue177
 t53:=Tryz.underlying187
 a53:=Tryz.isAgg187
 z53:=Tryz.sizeOf187
 v53:=Tryz.zeroValue187
 t57:=Tryz.underlying191
 a57:=Tryz.isAgg191
 z57:=Tryz.sizeOf191
 v57:=Tryz.zeroValue191
 t63:=Tryz.underlying199
 a63:=Tryz.isAgg199
 z63:=Tryz.sizeOf199
 v63:=Tryz.zeroValue199
 t64:=Tryz.underlying144
 a64:=Tryz.isAgg144
 z64:=Tryz.sizeOf144
 v64:=Tryz.zeroValue144 }
open Go.Sort Go.RowKit in
theorem Tryz.slices_Sort_int (blk off cap:Nat) (zs:List Int) (w:World) (hH:Holds (Value.int .i64) w blk off zs.toArray) (hblk:blk < w.heap.size) (hsz:zs.length < 4611686018427387904) :
  Calls Tryz.prog 69 #[.slice (some ⟨blk,off,none⟩) zs.length cap] w fun e w' =>
   e = .returned (.tuple #[])∧∃ n os,w' = grow (putRow (Value.int .i64) (Sort.ahead w n) blk off (zs.mergeSort fun x y=>decide (x≤y)).toArray) os:=AnyM.slices_Sort_int Tryz.laysSlM5_f69 blk off cap zs w hH hblk hsz
open Go.RowKit Go.Sort in
theorem Tryz.slices_Sort_int_none (p:Option Addr) (cap:Nat) (w:World) :
  Calls Tryz.prog 69 #[.slice p 0 cap] w fun e w'=>e = .returned (.tuple #[])∧w' = w:=AnyM.slices_Sort_int_none Tryz.laysSlM5_f69 p cap w
def Tryz.lays167_ren:Go.Shelf.Ren:=⟨fun | 167=>64 | 240=>89 | 276=>100 | n=>n,fun | 0=>0 | 4=>4 | 5=>5 | 9=>9 | 20=>20 | 37=>131 | 70=>130 | 72=>133 | 75=>135 | 80=>140 | 164=>164 | n=>n,fun | n=>n⟩
theorem Tryz.lays167:Go.Proofs.Lays.n167 Tryz.prog Tryz.lays167_ren:={
 mixed:=by kernel_rfl
 f167:=Tryz.func64.trans (congrArg some (by kernel_rfl))
 f240:=Tryz.func89.trans (congrArg some (by kernel_rfl))
 f276:=Tryz.func100.trans (congrArg some (by kernel_rfl))
 t0:=Tryz.underlying0
 a0:=Tryz.isAgg0
 z0:=Tryz.sizeOf0
 v0:=Tryz.zeroValue0
 t4:=Tryz.underlying4
 a4:=Tryz.isAgg4
 z4:=Tryz.sizeOf4
 v4:=Tryz.zeroValue4
 t5:=Tryz.underlying5
 a5:=Tryz.isAgg5
 z5:=Tryz.sizeOf5
 v5:=Tryz.zeroValue5
 t9:=Tryz.underlying9
 a9:=Tryz.isAgg9
 z9:=Tryz.sizeOf9
 v9:=Tryz.zeroValue9
 t20:=Tryz.underlying20
 a20:=Tryz.isAgg20
 z20:=Tryz.sizeOf20
 v20:=Tryz.zeroValue20
 t37:=Tryz.underlying131
 a37:=Tryz.isAgg131
 z37:=Tryz.sizeOf131
 v37:=Tryz.zeroValue131
 t70:=Tryz.underlying130
 a70:=Tryz.isAgg130
 z70:=Tryz.sizeOf130
 v70:=Tryz.zeroValue130
 t72:=Tryz.underlying133
 a72:=Tryz.isAgg133
 z72:=Tryz.sizeOf133
 v72:=Tryz.zeroValue133
 t75:=Tryz.underlying135
 a75:=Tryz.isAgg135
 z75:=Tryz.sizeOf135
 v75:=Tryz.zeroValue135
 t164:=Tryz.underlying164
 a164:=Tryz.isAgg164
 z164:=Tryz.sizeOf164
 v164:=Tryz.zeroValue164 }
theorem Tryz.Builder_Extra_167:Builder.Extra Tryz.prog Tryz.lays167_ren:={
 sizeBuilder:=by kernel_rfl
 liesBuilder:=by kernel_rfl
 t5:=Tryz.underlying5
 a5:=Tryz.isAgg5
 z5:=Tryz.sizeOf5
 v5:=Tryz.zeroValue5
 infoByte:=by kernel_rfl
 cellsByte:=by kernel_rfl
 sizeByte:=by kernel_rfl
 neB5:=by decide }
def Tryz.lays166_ren:Go.Shelf.Ren:=⟨fun | 166=>62 | 240=>89 | 276=>100 | n=>n,fun | 0=>0 | 3=>3 | 4=>4 | 5=>5 | 9=>9 | 20=>20 | 37=>131 | 70=>130 | 72=>133 | 75=>135 | 80=>140 | 164=>164 | n=>n,fun | n=>n⟩
theorem Tryz.lays166:Go.Proofs.Lays.n166 Tryz.prog Tryz.lays166_ren:={
 mixed:=by kernel_rfl
 f166:=Tryz.func62.trans (congrArg some (by kernel_rfl))
 f240:=Tryz.func89.trans (congrArg some (by kernel_rfl))
 f276:=Tryz.func100.trans (congrArg some (by kernel_rfl))
 t0:=Tryz.underlying0
 a0:=Tryz.isAgg0
 z0:=Tryz.sizeOf0
 v0:=Tryz.zeroValue0
 t3:=Tryz.underlying3
 a3:=Tryz.isAgg3
 z3:=Tryz.sizeOf3
 v3:=Tryz.zeroValue3
 t4:=Tryz.underlying4
 a4:=Tryz.isAgg4
 z4:=Tryz.sizeOf4
 v4:=Tryz.zeroValue4
 t9:=Tryz.underlying9
 a9:=Tryz.isAgg9
 z9:=Tryz.sizeOf9
 v9:=Tryz.zeroValue9
 t20:=Tryz.underlying20
 a20:=Tryz.isAgg20
 z20:=Tryz.sizeOf20
 v20:=Tryz.zeroValue20
 t37:=Tryz.underlying131
 a37:=Tryz.isAgg131
 z37:=Tryz.sizeOf131
 v37:=Tryz.zeroValue131
 t70:=Tryz.underlying130
 a70:=Tryz.isAgg130
 z70:=Tryz.sizeOf130
 v70:=Tryz.zeroValue130
 t72:=Tryz.underlying133
 a72:=Tryz.isAgg133
 z72:=Tryz.sizeOf133
 v72:=Tryz.zeroValue133
 t75:=Tryz.underlying135
 a75:=Tryz.isAgg135
 z75:=Tryz.sizeOf135
 v75:=Tryz.zeroValue135
 t164:=Tryz.underlying164
 a164:=Tryz.isAgg164
 z164:=Tryz.sizeOf164
 v164:=Tryz.zeroValue164 }
theorem Tryz.Builder_Extra_166:Builder.Extra Tryz.prog Tryz.lays166_ren:={
 sizeBuilder:=by kernel_rfl
 liesBuilder:=by kernel_rfl
 t5:=Tryz.underlying5
 a5:=Tryz.isAgg5
 z5:=Tryz.sizeOf5
 v5:=Tryz.zeroValue5
 infoByte:=by kernel_rfl
 cellsByte:=by kernel_rfl
 sizeByte:=by kernel_rfl
 neB5:=by decide }
open Go.RowKit in
theorem Tryz.Builder_WriteByte_k (B b:Nat) (bs:List Value) (c:Int) (w:World) (h:Lib.IsBuilderF 133 5 B b bs w) (hlen:bs.length+1≤140737488355328) (hBw:B≤w.heap.size) :
  Calls Tryz.prog 64 #[.pointer (some ⟨b,0,none⟩),.int .u8 c] w fun e w'=>e = .returned .nilIface∧(Lib.BuilderAtF 133 5 B b (.pointer (some ⟨b,0,none⟩)) (bs ++ [.int .u8 c]) w' ∧ Below B w w' ∧ Lib.OthersKept 5 (some b) w w'):=Any.Builder_WriteByte_k Tryz.lays167 Tryz.Builder_Extra_167 B b bs c w h hlen hBw
open Go.RowKit in
theorem Tryz.Builder_WriteString_k (B b:Nat) (bs:List Value) (s:ByteArray) (w:World) (h:Lib.IsBuilderF 133 5 B b bs w) (hlen:bs.length+s.size≤140737488355328) (hBw:B≤w.heap.size) :
  Calls Tryz.prog 62 #[.pointer (some ⟨b,0,none⟩),.string s] w fun e w'=>e = .returned (.tuple #[.int .i64 s.size,.nilIface])∧(Lib.BuilderAtF 133 5 B b (.pointer (some ⟨b,0,none⟩)) (bs ++ Lib.strCells s) w' ∧ Below B w w' ∧ Lib.OthersKept 5 (some b) w w'):=Any.Builder_WriteString_k Tryz.lays166 Tryz.Builder_Extra_166 B b bs s w h hlen hBw
end Go.Proofs
end
section
namespace Go.Abs
open Go Go.RowKit
theorem Qbig {P:Program} {f:FuncId} {args:List V} {x:D} (hx:x.scalar=true) (hb:Qkz P f=true)
  (h:∀ (w:World) (g:G) (us:List Value),(∀ b o,g.imm b o→b < w.heap.size)→RFs g w args us→Calls P f us.toArray w fun e w'=>e = .returned x.val∧Below w.heap.size w w') (M:Mem) (nb:Nat):ACalls P f args M nb (.d x) M nb:=by
 refine ⟨hb,Nat.le_refl _,fun w g us hm hMon hfresh hus hfl hons=>?_⟩
 refine Calls.mono (h w g us (fun b o hi=>(hm.imm b o hi).1) hus) ?_
 rintro e w' ⟨rfl,hbw⟩
 have hI:Imm g.imm g.imm w w':=⟨fun _ _ h=>h,fun b o hi=>Qgj (hbw.block b (hm.imm b o hi).1)⟩
 have hk:Kept g w g w' (There M) (fun _=>True):=⟨hI,fun _ _=>rfl,fun b _ hlt=>⟨rfl,hbw.block b hlt,fun _=>Iff.rfl⟩⟩
 refine ⟨_,g,rfl,hm.kept hk hMon (fun _ _ _=>trivial) trivial (fun _ _=>trivial) (fun b o hi=>?_),?_,trivial,hMon,?_⟩
 ·obtain ⟨h1,h2⟩:=hm.imm b o hi
  exact ⟨Nat.lt_of_lt_of_le h1 hbw.size,h2⟩
 ·simp only [RV]; exact (Qboj hx).2 rfl
 ·exact ⟨hbw.os,hbw.tape,hbw.output,hbw.size,hI,fun _ _=>rfl,fun b hb _=>⟨rfl,hbw.block b hb,fun _=>Iff.rfl⟩⟩
theorem Qbrv {g:G} {w:World} {l:List Int} {k:IntKind} {u:Value} (h:RF g w (.d (.lst 1 (l.map (fun n=>[.int k n])))) u) :
  ∃ a cap,u = .slice a l.length cap∧l.length≤cap∧(l=[]∨∃ b o,a=some ⟨b,o,none⟩∧∀ (i:Nat) n,l[i]? = some n→g.imm b (o+i)∧w.cell? ⟨b,o+i,none⟩=some (.int k n)):=by
 have h:=RF_d.1 h
 simp only [RD,List.length_map] at h
 obtain ⟨a,cap,rfl,hc,hl⟩:=h
 refine ⟨a,cap,rfl,hc,?_⟩
 rcases hl with hl | ⟨b,o,rfl,hl⟩
 ·exact .inl (by simpa using hl)
 ·refine .inr ⟨b,o,rfl,fun i n hi=>?_⟩
  have:=(Qber hl i [.int k n] (by simp [hi])).2
  simp only [RDc,Nat.mul_one,RD] at this
  obtain ⟨h1,⟨u,h2,rfl⟩,_⟩:=this
  exact ⟨h1,h2⟩
end Go.Abs
end
section
namespace Go.Abs
open Go Go.Sort Go.RowKit
theorem Qbkr {P:Program} {f:FuncId} {ex:Array Value} {exV:List V} {sz nb:Nat} {M:Mem} (hb:Qkz P f=true) (hex:∀ g w us,RFs g w exV us→us=ex.toList)
  (h:∀ (p:Option Addr) (cap:Nat) (w:World),Calls P f (#[.slice p 0 cap] ++ ex) w fun e' w'=>e' = .returned (.tuple #[])∧w' = w) :
  ACalls P f (.d (.lst sz []) :: exV) M nb (.tup []) M nb:=by
 refine ⟨hb,Nat.le_refl _,fun w g us hm hMon hfresh hus hfl hons=>?_⟩
 obtain ⟨u0,us',rfl,hu0,hus'⟩:=hus
 have h1:=hex _ _ _ hus'
 subst h1
 have h2:∃ p cap,u0 = .slice p 0 cap:=by
  have:=RF_d.1 hu0
  obtain ⟨a,cap,rfl,_,_⟩:=this
  exact ⟨a,cap,rfl⟩
 obtain ⟨p,cap,rfl⟩:=h2
 have e1:(Value.slice p 0 cap :: ex.toList).toArray = #[.slice p 0 cap] ++ ex:=by apply Array.ext'; simp
 rw [e1]
 refine (h p cap w).mono ?_
 rintro e' w' ⟨rfl,rfl⟩
 exact ⟨_,g,rfl,hm,⟨[],rfl,rfl⟩,trivial,hMon,Fr.refl _ _ _⟩
theorem Qbks (l:List Int):(l.mergeSort fun x y=>decide (x≤y))=Q6d Qkq l:=by
 have hO:Go.Sort.SWO Qkq:=⟨fun x=>by simp [Qkq],fun x y z h1 h2=>by simp [Qkq] at *; omega,fun x y z h1 h2=>by simp [Qkq] at *; omega⟩
 refine List.Perm.eq_of_pairwise (le:=fun a b=>Qkq b a=false) (fun a b _ _ h1 h2=>by simp [Qkq] at *; omega) ?_ (Q2m hO l) ((List.mergeSort_perm _ _).trans (Q2k _ l).symm)
 have:=List.pairwise_mergeSort (le:=fun x y:Int=>decide (x≤y)) (fun a b c h1 h2=>by simp at *; omega) (fun a b=>by simp; omega) l
 exact this.imp fun h=>by simp [Qkq] at *; omega
end Go.Abs
end
section
namespace Go.Abs
open Go Go.Sort Go.RowKit
theorem Qbft (xs:List Int):rowV (eI .i64) xs=xs.map (Value.int .i64):=by
 unfold rowV
 induction xs with
 | nil=>rfl
 | cons x xs ih=>simp only [List.map_cons,List.flatten_cons,List.map_append,ih]; rfl
theorem Qbor {P:Program} {c:Nat} (hb:Qkz P c=true)
  (hs:∀ (blk off cap:Nat) (zs:List Int) (w:World),Holds (Value.int .i64) w blk off zs.toArray→blk < w.heap.size→zs.length < 4611686018427387904 →
   Calls P c #[.slice (some ⟨blk,off,none⟩) zs.length cap] w fun e w'=>e = .returned (.tuple #[])∧∃ n os,w' = grow (putRow (Value.int .i64) (Sort.ahead w n) blk off (zs.mergeSort fun x y=>decide (x≤y)).toArray) os)
  (hnone:∀ (p:Option Addr) (cap:Nat) (w:World),Calls P c (#[.slice p 0 cap] ++ #[]) w fun e' w'=>e' = .returned (.tuple #[])∧w' = w) :
  RowK P c (eI .i64) 1 [] (fun l=>if l.length≤lim then some (Q6d Qkq l) else none):=by
 have hrow:Qbs1 P c (eI .i64) #[] (fun xs=>Q6d Qkq xs):=by
  intro blk cap xs w hcell hblk hsz
  refine Calls.mono (hs blk 0 cap xs w ?_ hblk hsz) ?_
  ·intro j hj
   have hj' : j < xs.length:=by simpa using hj
   have:=hcell j (by rw [Qbft]; simpa using hj')
   rw [Qbft] at this
   rw [Nat.zero_add]
   refine ⟨?_,this.2⟩
   rw [this.1,getElem!_pos xs.toArray j hj]
   simp [hj']
  ·rintro e w' ⟨rfl,n,os,rfl⟩
   refine ⟨rfl,n,os,?_⟩
   rw [Qbks,Qbft]
   congr 1
   unfold putRow
   congr 1
   funext c
   unfold putCells
   congr 1
   funext k x
   simp only [List.size_toArray,List.length_map]
   split
   ·rename_i h
    simp only [id]
    rw [getElem!_pos _ _ (by simp; omega),getElem!_pos _ _ (by simp; omega)]
    simp
   ·rfl
 intro xs ys h
 dsimp only at h
 split at h <;> cases h
 rename_i hl
 refine ⟨Q2l _ _,fun h0=>?_,fun hl2 cap k0 M nb hM=>?_⟩
 ·subst h0
  exact ⟨rfl,fun M nb=>Qbkr (ex:=#[]) (exV:=[]) hb (fun _ _ _ h=>h) hnone⟩
 ·exact Qbmr (e:=eI .i64) (fun _=>rfl) (fun _=>rfl) (fun xs=>Q2l _ _) (ex:=#[]) (exV:=[]) (fun _ _ _ h=>h) hb hrow xs cap k0 M nb hM (by unfold lim at hl; omega)
end Go.Abs
end
section
namespace Go.Proofs
open Go.RowKit Go.Abs
theorem Tryz.rowK69:Go.Abs.RowK Tryz.prog 69 (eI .i64) 1 [] Qbs7 :=
 Qbor (by kernel_rfl) Tryz.slices_Sort_int Tryz.slices_Sort_int_none
theorem Qbqz {i:Nat} (h:i < 100):(Lib.decDigits i).length≤2:=by
 by_cases h1:i < 10
 ·rw [Lib.decDigits_one h1]; simp
 ·rw [Lib.decDigits_two h1 h]; simp
theorem Qbos:∀ l:List Int,(∀ x∈l,0≤x∧x < 100)→(keyL l).length≤3 * l.length
 | [],_=>by simp [keyL]
 | x :: l,h=>by
  have hx:=h x (by simp)
  have h1:=Qbqz (i:=x.toNat) (by omega)
  have ih:=Qbos l fun y hy=>h y (by simp [hy])
  simp only [keyL,List.flatMap_cons,List.length_append,List.length_cons,List.length_nil] at *
  omega
set_option maxHeartbeats 4000000 in
set_option maxRecDepth 1000000 in
theorem Tryz.key_walk (l:List Int) (hl:l.length≤lim) (hx:∀ x∈l,0≤x∧x < 100) (a:Option Addr) (cap:Nat) (w:World)
  (hc:∀ (i:Nat) n,l[i]? = some n→∃ b o,a=some ⟨b,o,none⟩∧b < w.heap.size∧w.cell? ⟨b,o+i,none⟩=some (.int .i64 n)) :
  Calls Tryz.prog 33 #[.slice a l.length cap] w fun e w'=>e = .returned (.string (keyB l))∧Below w.heap.size w w':=by
 have hlim:l.length≤1099511627776:=hl
 go_enter Tryz.func33,Tryz.ntmps33
 go_wp2
 go_loopw [8] (fun vi wr=>∃ (k:Nat),vi = .int .i64 k∧k≤l.length∧Lib.IsBuilderF 133 5 w.heap.size w.heap.size (Lib.byteCells (keyL (l.take k))) wr∧Below w.heap.size w wr) (fun vi _=>l.length - (intOf vi).toNat)
 case atStart =>
  refine ⟨0,rfl,by omega,?_,((Below.refl _ w).alloc (Nat.le_refl _) _)⟩
  exact Lib.IsBuilderF.of (Lib.fresh_isBuilder 133 5 w)
 case round =>
  obtain ⟨k,rfl,hk,hI,hbw⟩:=hrel
  by_cases hlt:k < l.length
  ·obtain ⟨b,o,rfl,hb,hcell⟩:=hc k l[k] (List.getElem?_eq_getElem hlt)
   have hcr:wr.cell? ⟨b,o+k,none⟩=some (.int .i64 l[k]):=by
    rw [← hcell]; simp only [World.cell?]; rw [hbw.block b hb]
   have hxk:=hx l[k] (List.getElem_mem hlt)
   obtain ⟨n,hn⟩ : ∃ n:Nat,l[k]=(n:Int):=⟨l[k].toNat,by omega⟩
   have hn100:n < 100:=by omega
   rw [hn] at hcr
   have hdl:=Qbqz hn100
   have hsz:w.heap.size≤wr.heap.size:=hbw.size
   have hkl:=Qbos (l.take k) fun x hxm=>hx x (List.mem_of_mem_take hxm)
   rw [List.length_take] at hkl
   go_wp2_with (go_at_call 63; refine (Tryz.strconv_Itoa_small n hn100 _).mono ?_)
   rintro e W0 ⟨rfl,rfl⟩
   go_wp2_with (go_at_call 62; refine (Tryz.Builder_WriteString_k w.heap.size w.heap.size _ _ _ hI (by rw [Lib.byteCells_length]; simp only [ByteArray.size,List.size_toArray]; omega) hsz).mono ?_)
   rintro e W1 ⟨rfl,h1,b1,k1⟩
   have hsz1:w.heap.size≤W1.heap.size:=Nat.le_trans hsz b1.size
   have hlen2:(Lib.byteCells (keyL (l.take k)) ++ Lib.strCells ⟨(Lib.decDigits n).toArray⟩).length+1≤140737488355328:=by
    rw [show Lib.strCells ⟨(Lib.decDigits n).toArray⟩=Lib.byteCells (Lib.decDigits n) from rfl,List.length_append,Lib.byteCells_length,Lib.byteCells_length]; omega
   go_wp2_with (go_at_call 64; refine (Tryz.Builder_WriteByte_k w.heap.size w.heap.size _ 32 _ (Or.inr h1) hlen2 hsz1).mono ?_)
   rintro e W2 ⟨rfl,h2,b2,k2⟩
   go_wp2
   go_roundw
   case rel =>
    refine ⟨k+1,by simp,by omega,?_,(hbw.trans b1).trans b2⟩
    have e1:keyL (l.take (k+1))=keyL (l.take k) ++ Lib.decDigits n ++ [32]:=by
     rw [List.take_succ_eq_append_getElem hlt]; simp only [keyL,List.flatMap_append,List.flatMap_cons,List.flatMap_nil,List.append_nil,hn,Int.toNat_natCast,List.append_assoc]
    rw [e1,Lib.byteCells_append,Lib.byteCells_append]; exact Or.inr h2
   case measure =>
    simp [intOf]; omega
  ·have hk2:k=l.length:=by omega
   subst hk2
   go_wp2_with (go_at_call 65; refine (Tryz.Builder_String_any_k w.heap.size w.heap.size _ _ hI hbw.size).mono ?_)
   rintro e W1 ⟨rfl,_,b1,_⟩
   go_wp2
   go_ret
   refine ⟨?_,hbw.trans b1⟩
   first | rfl | (rw [List.take_length]; rfl) | (simp [keyB,List.take_length])
theorem Tryz.keyK:Go.Abs.K_product_key Tryz.prog 33 keyI:=by
 intro l r h
 unfold keyI at h
 split at h <;> cases h
 rename_i hc
 intro M nb
 refine Qbig rfl (by kernel_rfl) (fun w g us himm hus=>?_) M nb
 obtain ⟨u,us',rfl,hu,hus'⟩:=hus
 simp only [RFs] at hus'
 subst hus'
 obtain ⟨a,cap,rfl,hcap,hl⟩:=Qbrv hu
 refine Tryz.key_walk l hc.1 hc.2 a cap w fun i n hi=>?_
 rcases hl with rfl | ⟨b,o,rfl,hl⟩
 ·simp at hi
 ·exact ⟨b,o,rfl,himm _ _ (hl i n hi).1,(hl i n hi).2⟩
end Go.Proofs
end
section
namespace Go.Proofs
open Go Go.Abs
set_option maxRecDepth 10000
set_option maxHeartbeats 4000000
theorem Q4d:Qjo Tryz.prog 23 Qp6:=Q0j Q58
theorem Q6e:Qkc Tryz.prog 80 Qgz:=Q2e Q74 Qb2
theorem Q9k:Qmj Tryz.prog 66 Qji:=Q5z Qbbh Qb2
theorem Qnp:Qgd Tryz.prog 38 Qe3:=Q0k Q9k Q59
theorem Q2n:Qip Tryz.prog 81 Qf0:=Qxf Qnp Q4c Qb2
theorem Qnb:Qha Tryz.prog 55 Qeo:=Q7w Q6e Q2n Qbcy
theorem Qkl:Qfr Tryz.prog 9 Qd8:=Q30 Q9f Qb2
theorem Qhn:Qem Tryz.prog 27 Qdy:=Qxg Q35
theorem Qbd7:Qts Tryz.prog 98 Qu4:=Qbbb Qbfq
theorem Qbfu:Qv8 Tryz.prog 86 Qkr:=Qbcu Qbd7 Qbgl
theorem Q9l:Qml Tryz.prog 87 Qjj:=Q50 Qbbj
theorem Qvm:Qgk Tryz.prog 59 Qet:=Qs1 Qbfu Q9l Qxr Qb2
theorem Qc3:Qcf Tryz.prog 29 Qbt:=Q31 Qvm Q9h
theorem Q2o:Qis Tryz.prog 43 Qnm:=Qxh Qkl Qhn Qc3 Qnb Q4a Qb2
theorem Q2p:Qiu Tryz.prog 44 Qnn:=Qxi Qc3 Q4b Qb2
theorem Qoi:Qey Tryz.prog 93 Qhg:=Qm6 Qp4
theorem Qlq:Qfi Tryz.prog 67 Qee:=Qvj Q2j Qb2
theorem Qfy:Qdq Tryz.prog 47 Qek:=Qrg Qlq Qvl
theorem Qoj:Qe0 Tryz.prog 112 Qhh:=Qm7 Qc3 Qp5
theorem Qrk:Qfj Tryz.prog 94 Qjk:=Qof Qfy Qoj Qs7
theorem Qrl:Qfl Tryz.prog 70 Qjl:=Qog Qc3 Qfy Qoi Qrk Qs6 Qb2
theorem Qgv:Qdm Tryz.prog 46 Qep:=Qmd Qc3 Qoh Qb2
theorem Qs8:Qfs Tryz.prog 45 Qj0:=Qp1 Qgv Qrl Qu3 Qb2
theorem Qp8:Qe9 Tryz.prog 48 Qii:=Qnh Qri
theorem Qu5:Qjg Tryz.prog 56 Qgg:=Q51 Qbbf
theorem Qnc:Qeh Tryz.prog 49 Qgu:=Qlm Qc3 Qu5 Qnj Qb2
theorem Qs9:Qfu Tryz.prog 18 Qj1:=Qp2 Q2o Q2p Qs8 Qgv Qfy Qp8 Qnc Qu1 Qb2
theorem Qta:Qfw Tryz.prog 42 Qj2:=Qp3 Qu2
theorem Q2q:Qiw Tryz.prog 41 Qno:=Qxj Qhn Tryz.rowK69 Q39 Qb2
theorem Qvn:Qgm Tryz.prog 17 Qks:=Qs2 Q2q Qta Qxo
theorem Qu6:Qjh Tryz.prog 36 Qgh:=Q52 Qbbe Qb2
theorem Qbbl:Qvu Tryz.prog 12 Qp7:=Qbfn Qu6 Qbjn
theorem Q4e:Qjr Tryz.prog 5 Qj3:=Q0l Qbbl Qvn Qs9 Q4d Q56
theorem Qu7:Qf7 Tryz.prog 25 Qdr:=Qrh Qvk Qb2
theorem Qnq:Qge Tryz.prog 57 Qe4:=Q0m Q6a
theorem Qp9:Qgy Tryz.prog 84 Qc2:=Q2f Q75 Qb2
theorem Qro:Qhk Tryz.prog 83 Qdg:=Q32 Q9j Qb2
theorem Q4f:Qju Tryz.prog 82 Qgi:=Q0n Qro Qp9 Q6b Qb2
theorem Q4g:Qjw Tryz.prog 85 Qe5:=Q0o Q6c Qb2
theorem Qvo:Qgo Tryz.prog 58 Qeu:=Qs3 Qnq Q4f Qro Qp9 Q4g Qxq Qb2
theorem Q6f:Qkf Tryz.prog 24 Qfg:=Q2g Qnq Qvo Q73 Qb2
theorem Q6g:Qkh Tryz.prog 6 Qg0:=Q2h Q6f Qu7 Q71 Qb2
theorem Q2y:Qmz Tryz.prog 26 Qj4:=Qbbc Qnb Qbfo Qb2
theorem Q0r:Qku Tryz.prog 53 Qga:=Q89 Qbd4 Qb2
theorem Q9m:Qm0 Tryz.prog 60 Qm8:=Q53 Qbbg
theorem Qbc1:Qq6 Tryz.prog 30 Qkv:=Q9a Q0r Q9m Qbd2
theorem Qvv:Qj6 Tryz.prog 8 Qfn:=Q7x Qbc1 Qbcw
theorem Q9n:Qm2 Tryz.prog 99 Qm9:=Q54 Qbbk
theorem Qbc2:Qq8 Tryz.prog 88 Qij:=Q9b Q0r Q9n Qbd6
theorem Qbc3:Qra Tryz.prog 61 Qfd:=Q9c Qbc2 Qbd5 Qb2
theorem Qbfv:Qxb Tryz.prog 31 Qoo:=Qbcv Qbc3 Qbgk Qb2
theorem Qvp:Qgq Tryz.prog 32 Qev:=Qs4 Qxp Qb2
theorem Qxs:Qhb Tryz.prog 34 Qe7:=Qu0 Qc3 Q0q Qb2
theorem Q2r:Qiy Tryz.prog 35 Qf1:=Qxk Qc3 Qu5 Q37 Qb2
theorem Qnr:Qgf Tryz.prog 11 Qcd:=Q0p Q2y Qbfv Qvp Tryz.keyK Qxs Q2r Q57 Qb2
theorem Q2s:Qi0 Tryz.prog 28 Qf2:=Qxl Q36 Qb2
theorem Qvq:Qgs Tryz.prog 7 Qd0:=Qs5 Qvv Qkl Qnr Q2y Qhn Q2s Qc3 Qxn Qb2
theorem Q76:Qli Tryz.prog 40 Qhl:=Q33 Q9i Qb2
theorem Qvw:Qj7 Tryz.prog 15 Qhd:=Q7y Qu6 Q76 Qbcx
theorem Q6h:Qkj Tryz.prog 10 Qg1:=Q2i Qvw Q72
theorem Q2t:Qi2 Tryz.prog 37 Qf3:=Qxm Qnb Q38
theorem Qqa:Qfb Tryz.prog 77 Qd6:=Qni Qrj Qb2
theorem Qbbm:Qob Tryz.prog 78 Qj8:=Q7z Qbcz
theorem Qbbn:Qod Tryz.prog 79 Qj9:=Q70 Qbc0
theorem Qbd8:Quy Tryz.prog 52 Qna:=Qbbd Qqa Qbbm Qbbn Qbfp
theorem Q9o:Qm4 Tryz.prog 68 Qjm:=Q55 Qbbi
theorem Qbc4:Qrc Tryz.prog 39 Qkw:=Q9d Qbd8 Qlq Q9o Qbd3
theorem Qbc5:Qre Tryz.prog 13 Qik:=Q9e Q2t Qnp Qbc4 Qbd1
theorem Q77:Qlk Tryz.prog 14 Qhm:=Q34 Q9g Qb2
theorem Q4h:Qe2 Tryz.prog 3 Qdh:=Qih Q4e Q6g Qvq Qvv Qkl Q6h Qnr Qbbl Qbc5 Q77 Qvw Qjz Qb2
end Go.Proofs
end
section
namespace Go.Abs
open Go Go.ChangeShapes Go.WideShapes Go.ChangeAt Go.RowKit
def live (w:World):Nat→Nat→Prop:=fun b o=>(w.cell? ⟨b,o,none⟩).isSome=true
def RDs (w:World):List D→List Value→Prop
 | [],vs=>vs=[]
 | x :: xs,vs=>∃ u us,vs=u :: us∧RD (live w) w x u∧RDs w xs us
theorem Qbhi {w:World}:∀ {xs ys:List D} {us vs:List Value},RDs w xs us→RDs w ys vs→RDs w (xs ++ ys) (us ++ vs)
 | [],ys,us,vs,h,k=>by simp only [RDs] at h; subst h; simpa using k
 | x :: xs,ys,us,vs,⟨u,us',e,r,h⟩,k=>by subst e; exact ⟨u,us' ++ vs,by simp,r,Qbhi h k⟩
def RDat (w:World) (cs:List Value) (off:Nat) (xs:List D):Prop:=RDs w xs ((cs.drop off).take xs.length)
theorem RDat.app {w:World} {cs:List Value} {off:Nat} {xs ys:List D} (h:RDat w cs off xs) {n:Nat} (hn:n=off+xs.length) (k:RDat w cs n ys):RDat w cs off (xs ++ ys):=by
 subst hn
 have:=Qbhi h k
 unfold RDat
 rw [List.length_append,List.take_add,List.drop_drop]
 exact this
theorem RDat.nil {w:World} {cs:List Value} {off:Nat}:RDat w cs off []:=by simp [RDat,RDs]
theorem RDat.all {w:World} {cs:List Value} {xs:List D} (h:RDat w cs 0 xs) (hl:cs.length=xs.length):RDs w xs cs:=by
 unfold RDat at h
 rw [List.drop_zero,← hl,List.take_length] at h
 exact h
theorem Qbot {w:World} {b:Nat}:∀ {xs:List D} {vs:List Value} {o:Nat},RDs w xs vs→(∀ i v,vs[i]? = some v→w.cell? ⟨b,o+i,none⟩=some v)→RDc (live w) w b xs o
 | [],vs,o,_,_=>by simp [RDc]
 | x :: xs,vs,o,⟨u,us,e,r,h⟩,hc=>by
  subst e
  have h0:=hc 0 u rfl
  rw [Nat.add_zero] at h0
  refine ⟨by simp [live,h0],⟨u,h0,r⟩,Qbot h fun i v hv=>?_⟩
  have:=hc (i+1) v (by simpa using hv)
  rw [show o+1+i=o+(i+1) from by omega]; exact this
def Qbbo {α:Type} (P:Program) (t:TypeId) (e:α→List D) (wf:α→Prop):Prop :=
 ∀ {H:Type} {enc:TypeId×Value→H} {w:World} {base:Nat} {spare:Nat→Bool} {held:Bool} {fuel:Nat} {cs:List Value} {x:DataW H×List MemPlace},
  DataW.trod enc P w base spare held fuel t cs=some x→∃ a,wf a∧RDs w (e a) cs
def wfI (k:IntKind) (n:Int):Prop:=(Lit.int k n).wf=true
def wfL {α:Type} (wf:α→Prop) (l:List α):Prop:=l.length≤maxLen∧∀ a∈l,wf a
variable {P:Program} {t:TypeId}
theorem Qbfw {k:IntKind} (ht:P.underlying t=some (.int k)):Qbbo P t (fun n:Int=>[.int k n]) (wfI k):=by
 intro H enc w base spare held fuel cs x h
 obtain ⟨n,rfl,_,hw⟩:=DataW.trod_int ht h
 exact ⟨n,hw,_,_,rfl,by simp [RD],rfl⟩
theorem cells?_get {w:World} {base:Nat} {a:Addr} {n:Nat} {cs:List Value} (h:w.cells? base a n=some cs):cs.length=n∧∀ i v,cs[i]? = some v→w.cell? (a.add i)=some v:=by
 obtain ⟨h1,h2,h3⟩:=World.cells?_some h
 refine ⟨h2,fun i v hv=>?_⟩
 have hi:=(List.getElem?_eq_some_iff.1 hv).1
 have:=h3 i (by omega)
 rw [this]; simpa using hv
theorem Qbfx {α:Type} {el:TypeId} {e:α→List D} {wf:α→Prop} {sz:Nat} (ht:P.underlying t=some (.slice el)) (he:Qbbo P el e wf) (hsz:P.cellsOf el=sz) (hpos:0 < sz) (hlen:∀ a,(e a).length=sz) :
  Qbbo P t (fun l:List α=>[.lst sz (l.map e)]) (wfL wf):=by
 intro H enc w base spare held fuel cs x h
 rcases DataW.trod_slice ht h with ⟨rfl,_⟩ | ⟨a,len,cap,Qj5,rest,n,_,rfl,_,hb,hl,hm,helen,hel,_,_⟩
 ·exact ⟨[],⟨by simp,by simp⟩,_,_,rfl,by simp only [RD,List.map_nil,List.length_nil]; exact ⟨none,0,rfl,Nat.le_refl _,.inl trivial⟩,rfl⟩
 ·have key:∀ m,m≤len→∃ l:List α,l.length=m∧(∀ x∈l,wf x)∧∀ i y,l[i]? = some y→∃ vs,w.cells? base (a.add (i * sz)) sz=some vs∧RDs w (e y) vs:=by
   intro m
   induction m with
   | zero=>exact fun _=>⟨[],rfl,by simp,by simp⟩
   | succ m ih =>
    intro hm'
    obtain ⟨l,h1,h2,h3⟩:=ih (by omega)
    have h4:=hel m (by omega)
    have h5:Qj5[m]? = some Qj5[m]:=List.getElem?_eq_getElem (by omega)
    rw [h5,hsz,Option.bind_eq_some_iff] at h4
    obtain ⟨vs,h6,h7⟩:=h4
    obtain ⟨y,h8,h9⟩:=he h7
    refine ⟨l ++ [y],by simp [h1],?_,fun i z hz=>?_⟩
    ·intro x hx
     rcases List.mem_append.1 hx with hx | hx
     ·exact h2 x hx
     ·simp at hx; subst hx; exact h8
    ·by_cases hi:i < m
     ·rw [List.getElem?_append_left (by omega)] at hz; exact h3 i z hz
     ·have:i=m:=by
       have:=(List.getElem?_eq_some_iff.1 hz).1
       simp at this; omega
      subst this
      rw [List.getElem?_append_right (by omega),h1] at hz
      simp at hz; subst hz
      exact ⟨vs,h6,h9⟩
  obtain ⟨l,h1,h2,h3⟩:=key len (Nat.le_refl _)
  have hmax:l.length≤maxLen:=by omega
  refine ⟨l,⟨hmax,h2⟩,_,_,rfl,?_,rfl⟩
  simp only [RD,List.length_map,h1]
  refine ⟨some a,cap,rfl,hl,?_⟩
  cases l with
  | nil=>exact .inl rfl
  | cons y l =>
   right
   have hspot:a.spot=none:=by
    obtain ⟨vs,h4,h5⟩:=h3 0 y rfl
    obtain ⟨h6,h7⟩:=cells?_get h4
    have hv:vs[0]? = some vs[0]:=List.getElem?_eq_getElem (by omega)
    have:=h7 0 _ hv
    cases hs:a.spot with
    | none=>rfl
    | some s =>
     unfold World.cell? at this
     split at this
     ·simp [Addr.add,hs] at this
     ·cases this
   obtain ⟨b,o,sp⟩:=a
   simp only at hspot
   subst hspot
   refine ⟨b,o,rfl,?_⟩
   have row:∀ (l:List α) (j:Nat),(∀ i y,l[i]? = some y→∃ vs,w.cells? base ((⟨b,o,none⟩ : Addr).add ((j+i) * sz)) sz=some vs∧RDs w (e y) vs)→RDL (live w) w sz b (l.map e) (o+j * sz):=by
    intro l
    induction l with
    | nil=>intro j _; simp [RDL]
    | cons y l ih =>
     intro j h
     obtain ⟨vs,h4,h5⟩:=h 0 y rfl
     obtain ⟨h6,h7⟩:=cells?_get h4
     refine ⟨hlen y,Qbot h5 fun i v hv=>?_,?_⟩
     ·have:=h7 i v hv
      rw [Qgw,Qgw] at this
      simpa [Nat.add_assoc] using this
     ·have:=ih (j+1) fun i y hy=>by
       have:=h (i+1) y (by simpa using hy)
       rw [show j+1+i=j+(i+1) from by omega]; exact this
      rw [show o+j * sz+sz=o+(j+1) * sz from by rw [Nat.add_mul]; omega]
      exact this
   have:=row (y :: l) 0 fun i y hy=>by simpa using h3 i y hy
   simpa using this
theorem Qho {α:Type} {el:TypeId} {e:α→List D} {wf:α→Prop} {sz:Nat} (he:Qbbo P el e wf) (hsz:P.cellsOf el=sz) (hlen:∀ a,(e a).length=sz)
  {H:Type} {enc:TypeId×Value→H} {w:World} {base:Nat} {spare:Nat→Bool} {held:Bool} {fuel off:Nat} {cs:List Value} {x:DataW H×List MemPlace}
  (h:DataW.trod enc P w base spare held fuel el ((cs.drop off).take (P.cellsOf el))=some x):∃ a,wf a∧RDat w cs off (e a):=by
 obtain ⟨a,h1,h2⟩:=he h
 refine ⟨a,h1,?_⟩
 unfold RDat
 rw [hlen,← hsz]; exact h2
theorem Qbjo {H:Type} {enc:TypeId×Value→H} {w:World} {base:Nat} {spare:Nat→Bool} {held:Bool} {fuel:Nat} {cs:List Value} {x:DataW H×List MemPlace} {fs:Array Field}
  (ht:P.underlying t=some (.struct fs)) (h:DataW.trod enc P w base spare held fuel t cs=some x) :
  cs.length=P.cellsOf t∧∃ n,∀ (i:Nat) (f:Field),fs[i]? = some f→∃ y,DataW.trod enc P w base spare held n f.type ((cs.drop f.offset).take (P.cellsOf f.type))=some y:=by
 obtain ⟨xs,n,_,_,h1,h2,h3⟩:=DataW.trod_struct ht h
 refine ⟨h1,n,fun i f hf=>?_⟩
 have hi:i < fs.size:=(Array.getElem?_eq_some_iff.1 hf).1
 exact ⟨xs[i]'(by omega),by rw [h3 i f hf]; exact List.getElem?_eq_getElem (by omega)⟩
theorem Qbp3 {H:Type} {enc:TypeId×Value→H} {w:World} {base:Nat} {spare:Nat→Bool} {held:Bool} {fuel:Nat} {cs:List Value} {x:DataW H×List MemPlace} {n:Nat} {el:TypeId}
  (ht:P.underlying t=some (.array n el)) (h:DataW.trod enc P w base spare held fuel t cs=some x) :
  cs.length=P.cellsOf t∧∃ m,∀ i,i < n→∃ y,DataW.trod enc P w base spare held m el ((cs.drop (i * P.cellsOf el)).take (P.cellsOf el))=some y:=by
 obtain ⟨xs,m,_,_,h1,h2,h3⟩:=DataW.trod_array ht h
 exact ⟨h1,m,fun i hi=>⟨xs[i]'(by omega),by rw [h3 i hi]; exact List.getElem?_eq_getElem (by omega)⟩⟩
def Qtb {α:Type} (P:Program) (t:TypeId) (v:α→V) (wf:α→Prop):Prop :=
 ∀ {H:Type} {enc:TypeId×Value→H} {w:World} {base b0:Nat} {spare:Nat→Bool} {held:Bool} {u:Value} {d:DataW H} {ps:List MemPlace},
  Value.okWide P w .any b0 t u→DataW.Trod enc P w base spare held t u d ps→∃ a,wf a∧RF ⟨fun _=>0,live w,fun _=>.ext⟩ w (v a) u
theorem Qbkt {α:Type} {e:α→D} {wf:α→Prop} (he:Qbbo P t (fun a=>[e a]) wf) (hone:∀ w b0 u,Value.okWide P w .any b0 t u→u.cells = #[u]):Qtb P t (fun a=>.d (e a)) wf:=by
 intro H enc w base b0 spare held u d ps hok hd
 obtain ⟨fuel,hf⟩:=hd
 rw [hone _ _ _ hok] at hf
 obtain ⟨a,h1,u',us,h2,h3,h4⟩:=he hf
 simp only [RDs] at h4; subst h4
 simp at h2; subst h2
 exact ⟨a,h1,fun ℓ=>by simpa [RV] using h3⟩
theorem Qbrw {k:IntKind} (ht:P.underlying t=some (.int k)):∀ w b0 u,Value.okWide P w .any b0 t u→u.cells = #[u]:=by
 intro w b0 u h
 simp only [Value.okWide,ht] at h
 cases u <;> first | rfl | (simp [Cell.okWide,Cell.ok,ht] at h)
theorem Qbjp {el:TypeId} (ht:P.underlying t=some (.slice el)):∀ w b0 u,Value.okWide P w .any b0 t u→u.cells = #[u]:=by
 intro w b0 u h
 simp only [Value.okWide,ht] at h
 cases u <;> first | rfl | (simp [Cell.okWide,Cell.ok,ht] at h)
def Qbrx (P:Program) (f:FuncId) (ts:List TypeId):Prop :=
 ∀ {H:Type} {enc:TypeId×Value→H} {w:World} {b0:Nat} {us:List Value} {ds:List (DataW H)} {ps:List MemPlace},
  (∀ (j:Nat) t u,ts[j]? = some t→us[j]? = some u→Value.okWide P w .any b0 t u)→DataW.TrodAll enc P w 0 (fun _=>true) true ts us ds ps →
  ∃ vs,RFs ⟨fun _=>0,live w,fun _=>.ext⟩ w vs us∧(∀ x∈vs,Flat x)∧V.lt.go 0 vs=true∧∀ M nb,ACalls P f vs M nb (.d (.bool true)) M nb
theorem Qbbp (hl:laidOutB P=true) {W W' : World} {sp:Nat→Bool} {H:Type} {enc:TypeId×Value→H}:∀ {ts:List TypeId} {us:List Value} {ds:List (DataW H)} {ps:List MemPlace},
  (∀ t∈ts,P.readableRec t=true∧t < P.types.size)→DataW.TrodAll enc P W 0 (fun _=>true) true ts us ds ps→(∀ p∈ps,W.sameAt W' p)→(∀ p∈ps,sp p.block=true)→DataW.TrodAll enc P W' 0 sp true ts us ds ps
 | [],[],[],ps,_,h,_,_=>h
 | t :: ts,u :: us,d :: ds,ps,hr,⟨p,q,h1,h2,e⟩,hs,hp=>by
  subst e
  obtain ⟨r1,r2⟩:=hr t (by simp)
  exact ⟨p,q,WideElems.Trod_stays hl r1 r2 h1 (fun x hx=>hs x (by simp [hx])) (fun x hx=>hp x (by simp [hx])),Qbbp hl (fun t ht=>hr t (by simp [ht])) h2 (fun x hx=>hs x (by simp [hx])) (fun x hx=>hp x (by simp [hx])),rfl⟩
 | [],[],_ :: _,_,_,h,_,_=>h.elim
 | [],_ :: _,_,_,_,h,_,_=>h.elim
 | _ :: _,[],_,_,_,h,_,_=>h.elim
 | _ :: _,_ :: _,[],_,_,h,_,_=>h.elim
theorem Qbfy {W:World} {sp:Nat→Bool} {held:Bool} {base:Nat} {H:Type} {enc:TypeId×Value→H}:∀ {ts:List TypeId} {us:List Value} {ds:List (DataW H)} {ps:List MemPlace},
  DataW.TrodAll enc P W base sp held ts us ds ps→ds.length=ts.length∧us.length=ts.length
 | [],[],[],ps,h=>⟨rfl,rfl⟩
 | t :: ts,u :: us,d :: ds,ps,⟨p,q,h1,h2,e⟩=>by have:=Qbfy h2; simp [this.1,this.2]
 | [],[],_ :: _,_,h=>h.elim
 | [],_ :: _,_,_,h=>h.elim
 | _ :: _,[],_,_,h=>h.elim
 | _ :: _,_ :: _,[],_,h=>h.elim
section
variable {α β γ δ:Type} {f:FuncId} {ta tb tc td:TypeId} {va:α→V} {vb:β→V} {vc:γ→V} {vd:δ→V} {wa:α→Prop} {wb:β→Prop} {wc:γ→Prop} {wd:δ→Prop}
theorem Qu8 {H:Type} {enc:TypeId×Value→H} {w:World} {base:Nat} {sp:Nat→Bool} {held:Bool} {t:TypeId} {ts:List TypeId} {us:List Value} {ds:List (DataW H)} {ps:List MemPlace} (h:DataW.TrodAll enc P w base sp held (t :: ts) us ds ps) :
  ∃ u us' d ds' p q,us=u :: us' ∧ ds=d :: ds' ∧ DataW.Trod enc P w base sp held t u d p∧DataW.TrodAll enc P w base sp held ts us' ds' q:=by
 match us,ds,h with
 | u :: us',d :: ds',⟨p,q,h1,h2,_⟩=>exact ⟨u,us',d,ds',p,q,rfl,rfl,h1,h2⟩
 | [],[],h=>exact h.elim
 | [],_ :: _,h=>exact h.elim
 | _ :: _,[],h=>exact h.elim
theorem Qbfz {H:Type} {enc:TypeId×Value→H} {w:World} {base:Nat} {sp:Nat→Bool} {held:Bool} {us:List Value} {ds:List (DataW H)} {ps:List MemPlace} (h:DataW.TrodAll enc P w base sp held [] us ds ps):us=[]:=by
 match us,ds,h with
 | [],[],_=>rfl
 | [],_ :: _,h=>exact h.elim
 | _ :: _,[],h=>exact h.elim
 | _ :: _,_ :: _,h=>exact h.elim
theorem Qbtn (ra:Qtb P ta va wa) (fa:∀ a,(va a).dem=va a) (la:∀ a,(va a).lt 0=true) (rb:Qtb P tb vb wb) (fb:∀ a,(vb a).dem=vb a) (lb:∀ a,(vb a).lt 0=true)
  (law:∀ a b,wa a→wb b→∀ M nb,ACalls P f [va a,vb b] M nb (.d (.bool true)) M nb):Qbrx P f [ta,tb]:=by
 intro H enc w b0 us ds ps hok hT
 obtain ⟨u,us',d,ds',p,q,rfl,rfl,h1,hT⟩:=Qu8 hT
 obtain ⟨u2,us',d2,ds',p2,q2,rfl,rfl,h2,hT⟩:=Qu8 hT
 obtain rfl:=Qbfz hT
 obtain ⟨a,ha,hra⟩:=ra (hok 0 _ _ rfl rfl) h1
 obtain ⟨b,hb,hrb⟩:=rb (hok 1 _ _ rfl rfl) h2
 refine ⟨[va a,vb b],⟨u,_,rfl,hra,u2,_,rfl,hrb,rfl⟩,?_,by simp [V.lt.go,la,lb],law a b ha hb⟩
 intro x hx
 simp only [List.mem_cons,List.not_mem_nil,or_false] at hx
 rcases hx with rfl | rfl
 ·exact fa a
 ·exact fb b
theorem Qbto (ra:Qtb P ta va wa) (fa:∀ a,(va a).dem=va a) (la:∀ a,(va a).lt 0=true) (rb:Qtb P tb vb wb) (fb:∀ a,(vb a).dem=vb a) (lb:∀ a,(vb a).lt 0=true)
  (rc:Qtb P tc vc wc) (fc:∀ a,(vc a).dem=vc a) (lc:∀ a,(vc a).lt 0=true)
  (law:∀ a b c,wa a→wb b→wc c→∀ M nb,ACalls P f [va a,vb b,vc c] M nb (.d (.bool true)) M nb):Qbrx P f [ta,tb,tc]:=by
 intro H enc w b0 us ds ps hok hT
 obtain ⟨u,us',d,ds',p,q,rfl,rfl,h1,hT⟩:=Qu8 hT
 obtain ⟨u2,us',d2,ds',p2,q2,rfl,rfl,h2,hT⟩:=Qu8 hT
 obtain ⟨u3,us',d3,ds',p3,q3,rfl,rfl,h3,hT⟩:=Qu8 hT
 obtain rfl:=Qbfz hT
 obtain ⟨a,ha,hra⟩:=ra (hok 0 _ _ rfl rfl) h1
 obtain ⟨b,hb,hrb⟩:=rb (hok 1 _ _ rfl rfl) h2
 obtain ⟨c,hc,hrc⟩:=rc (hok 2 _ _ rfl rfl) h3
 refine ⟨[va a,vb b,vc c],⟨u,_,rfl,hra,u2,_,rfl,hrb,u3,_,rfl,hrc,rfl⟩,?_,by simp [V.lt.go,la,lb,lc],law a b c ha hb hc⟩
 intro x hx
 simp only [List.mem_cons,List.not_mem_nil,or_false] at hx
 rcases hx with rfl | rfl | rfl
 ·exact fa a
 ·exact fb b
 ·exact fc c
end
theorem Qbq0 {H:Type} {enc:TypeId×Value→H} {w:World} {base:Nat} {spare:Nat→Bool} {held:Bool} {fuel:Nat} {cs:List Value} {x:DataW H×List MemPlace} {n sz:Nat} {el:TypeId}
  (ht:P.underlying t=some (.array n el)) (hsz:P.cellsOf el=sz) (h:DataW.trod enc P w base spare held fuel t cs=some x) :
  cs.length=P.cellsOf t∧∃ m,∀ i,i < n→∃ y,DataW.trod enc P w base spare held m el ((cs.drop (i * sz)).take (P.cellsOf el))=some y:=by
 obtain ⟨h1,m,h2⟩:=Qbp3 ht h
 exact ⟨h1,m,fun i hi=>by have:=h2 i hi; rwa [show i * P.cellsOf el=i * sz from by rw [hsz]] at this⟩
end Go.Abs
end
section
namespace Go.Proofs
open Go Go.Abs
set_option maxRecDepth 100000
def W_46 (x:Int):Prop:=wfI .u8 x
theorem R_46:Qbbo Tryz.prog 46 (eI .u8) W_46:=Qbfw Tryz.underlying46
def W_5 (x:Int):Prop:=wfI .u8 x
theorem R_5:Qbbo Tryz.prog 5 (eI .u8) W_5:=Qbfw Tryz.underlying5
def W_47 (x:Int×Int×Int×Int×Int):Prop:=W_5 x.1∧W_5 x.2.1∧W_5 x.2.2.1∧W_5 x.2.2.2.1∧W_5 x.2.2.2.2
theorem R_47:Qbbo Tryz.prog 47 (fun p:Int×Int×Int×Int×Int=>[.int .u8 p.1,.int .u8 p.2.1,.int .u8 p.2.2.1,.int .u8 p.2.2.2.1,.int .u8 p.2.2.2.2]) W_47:=by
  intro H enc w base spare held fuel cs x h
  obtain ⟨hl,n,hf⟩:=Qbq0 (sz:=1) Tryz.underlying47 (by kernel_rfl) h
  obtain ⟨y0,h0⟩:=hf 0 (by decide)
  obtain ⟨a0,w0,r0⟩:=Qho (off:=0 * 1) (sz:=1) R_5 (by kernel_rfl) (fun _=>rfl) h0
  obtain ⟨y1,h1⟩:=hf 1 (by decide)
  obtain ⟨a1,w1,r1⟩:=Qho (off:=1 * 1) (sz:=1) R_5 (by kernel_rfl) (fun _=>rfl) h1
  obtain ⟨y2,h2⟩:=hf 2 (by decide)
  obtain ⟨a2,w2,r2⟩:=Qho (off:=2 * 1) (sz:=1) R_5 (by kernel_rfl) (fun _=>rfl) h2
  obtain ⟨y3,h3⟩:=hf 3 (by decide)
  obtain ⟨a3,w3,r3⟩:=Qho (off:=3 * 1) (sz:=1) R_5 (by kernel_rfl) (fun _=>rfl) h3
  obtain ⟨y4,h4⟩:=hf 4 (by decide)
  obtain ⟨a4,w4,r4⟩:=Qho (off:=4 * 1) (sz:=1) R_5 (by kernel_rfl) (fun _=>rfl) h4
  exact ⟨(a0,a1,a2,a3,a4),⟨w0,w1,w2,w3,w4⟩,RDat.all (xs:=(fun p:Int×Int×Int×Int×Int=>[.int .u8 p.1,.int .u8 p.2.1,.int .u8 p.2.2.1,.int .u8 p.2.2.2.1,.int .u8 p.2.2.2.2]) (a0,a1,a2,a3,a4)) (RDat.app r0 rfl (RDat.app r1 rfl (RDat.app r2 rfl (RDat.app r3 rfl r4)))) (hl.trans (by kernel_rfl))⟩
def W_48 (x:(Int×Int×Int×Int×Int)×(Int×Int×Int×Int×Int)×(Int×Int×Int×Int×Int)×(Int×Int×Int×Int×Int)×(Int×Int×Int×Int×Int)):Prop:=W_47 x.1∧W_47 x.2.1∧W_47 x.2.2.1∧W_47 x.2.2.2.1∧W_47 x.2.2.2.2
theorem R_48:Qbbo Tryz.prog 48 (fun p:(Int×Int×Int×Int×Int)×(Int×Int×Int×Int×Int)×(Int×Int×Int×Int×Int)×(Int×Int×Int×Int×Int)×(Int×Int×Int×Int×Int)=>[.int .u8 p.1.1,.int .u8 p.1.2.1,.int .u8 p.1.2.2.1,.int .u8 p.1.2.2.2.1,.int .u8 p.1.2.2.2.2,.int .u8 p.2.1.1,.int .u8 p.2.1.2.1,.int .u8 p.2.1.2.2.1,.int .u8 p.2.1.2.2.2.1,.int .u8 p.2.1.2.2.2.2,.int .u8 p.2.2.1.1,.int .u8 p.2.2.1.2.1,.int .u8 p.2.2.1.2.2.1,.int .u8 p.2.2.1.2.2.2.1,.int .u8 p.2.2.1.2.2.2.2,.int .u8 p.2.2.2.1.1,.int .u8 p.2.2.2.1.2.1,.int .u8 p.2.2.2.1.2.2.1,.int .u8 p.2.2.2.1.2.2.2.1,.int .u8 p.2.2.2.1.2.2.2.2,.int .u8 p.2.2.2.2.1,.int .u8 p.2.2.2.2.2.1,.int .u8 p.2.2.2.2.2.2.1,.int .u8 p.2.2.2.2.2.2.2.1,.int .u8 p.2.2.2.2.2.2.2.2]) W_48:=by
  intro H enc w base spare held fuel cs x h
  obtain ⟨hl,n,hf⟩:=Qbq0 (sz:=5) Tryz.underlying48 (by kernel_rfl) h
  obtain ⟨y0,h0⟩:=hf 0 (by decide)
  obtain ⟨a0,w0,r0⟩:=Qho (off:=0 * 5) (sz:=5) R_47 (by kernel_rfl) (fun _=>rfl) h0
  obtain ⟨y1,h1⟩:=hf 1 (by decide)
  obtain ⟨a1,w1,r1⟩:=Qho (off:=1 * 5) (sz:=5) R_47 (by kernel_rfl) (fun _=>rfl) h1
  obtain ⟨y2,h2⟩:=hf 2 (by decide)
  obtain ⟨a2,w2,r2⟩:=Qho (off:=2 * 5) (sz:=5) R_47 (by kernel_rfl) (fun _=>rfl) h2
  obtain ⟨y3,h3⟩:=hf 3 (by decide)
  obtain ⟨a3,w3,r3⟩:=Qho (off:=3 * 5) (sz:=5) R_47 (by kernel_rfl) (fun _=>rfl) h3
  obtain ⟨y4,h4⟩:=hf 4 (by decide)
  obtain ⟨a4,w4,r4⟩:=Qho (off:=4 * 5) (sz:=5) R_47 (by kernel_rfl) (fun _=>rfl) h4
  exact ⟨(a0,a1,a2,a3,a4),⟨w0,w1,w2,w3,w4⟩,RDat.all (xs:=(fun p:(Int×Int×Int×Int×Int)×(Int×Int×Int×Int×Int)×(Int×Int×Int×Int×Int)×(Int×Int×Int×Int×Int)×(Int×Int×Int×Int×Int)=>[.int .u8 p.1.1,.int .u8 p.1.2.1,.int .u8 p.1.2.2.1,.int .u8 p.1.2.2.2.1,.int .u8 p.1.2.2.2.2,.int .u8 p.2.1.1,.int .u8 p.2.1.2.1,.int .u8 p.2.1.2.2.1,.int .u8 p.2.1.2.2.2.1,.int .u8 p.2.1.2.2.2.2,.int .u8 p.2.2.1.1,.int .u8 p.2.2.1.2.1,.int .u8 p.2.2.1.2.2.1,.int .u8 p.2.2.1.2.2.2.1,.int .u8 p.2.2.1.2.2.2.2,.int .u8 p.2.2.2.1.1,.int .u8 p.2.2.2.1.2.1,.int .u8 p.2.2.2.1.2.2.1,.int .u8 p.2.2.2.1.2.2.2.1,.int .u8 p.2.2.2.1.2.2.2.2,.int .u8 p.2.2.2.2.1,.int .u8 p.2.2.2.2.2.1,.int .u8 p.2.2.2.2.2.2.1,.int .u8 p.2.2.2.2.2.2.2.1,.int .u8 p.2.2.2.2.2.2.2.2]) (a0,a1,a2,a3,a4)) (RDat.app r0 rfl (RDat.app r1 rfl (RDat.app r2 rfl (RDat.app r3 rfl r4)))) (hl.trans (by kernel_rfl))⟩
def W_50 (x:Qbs):Prop:=W_5 x.zM∧W_5 x.Marks∧W_48 x.To
theorem R_50:Qbbo Tryz.prog 50 Qos W_50:=by
  intro H enc w base spare held fuel cs x h
  obtain ⟨hl,n,hf⟩:=Qbjo Tryz.underlying50 h
  obtain ⟨y0,h0⟩:=hf 0 _ rfl
  obtain ⟨a0,w0,r0⟩:=Qho (off:=0) (sz:=1) R_5 (by kernel_rfl) (fun _=>rfl) h0
  obtain ⟨y1,h1⟩:=hf 1 _ rfl
  obtain ⟨a1,w1,r1⟩:=Qho (off:=1) (sz:=1) R_5 (by kernel_rfl) (fun _=>rfl) h1
  obtain ⟨y2,h2⟩:=hf 2 _ rfl
  obtain ⟨a2,w2,r2⟩:=Qho (off:=2) (sz:=25) R_48 (by kernel_rfl) (fun _=>rfl) h2
  exact ⟨⟨a0,a1,a2⟩,⟨w0,w1,w2⟩,RDat.all (xs:=Qos ⟨a0,a1,a2⟩) (RDat.app r0 rfl (RDat.app r1 rfl r2)) (hl.trans (by kernel_rfl))⟩
def W_52 (x:Q4):Prop:=W_46 x.Events∧W_50 x.Graph
theorem R_52:Qbbo Tryz.prog 52 Qdt W_52:=by
  intro H enc w base spare held fuel cs x h
  obtain ⟨hl,n,hf⟩:=Qbjo Tryz.underlying52 h
  obtain ⟨y0,h0⟩:=hf 0 _ rfl
  obtain ⟨a0,w0,r0⟩:=Qho (off:=0) (sz:=1) R_46 (by kernel_rfl) (fun _=>rfl) h0
  obtain ⟨y1,h1⟩:=hf 1 _ rfl
  obtain ⟨a1,w1,r1⟩:=Qho (off:=1) (sz:=27) R_50 (by kernel_rfl) (fun _=>rfl) h1
  exact ⟨⟨a0,a1⟩,⟨w0,w1⟩,RDat.all (xs:=Qdt ⟨a0,a1⟩) (RDat.app r0 rfl r1) (hl.trans (by kernel_rfl))⟩
def W_22 (x:List Q4):Prop:=wfL W_52 x
theorem R_22:Qbbo Tryz.prog 22 (eL 28 Qdt) W_22:=Qbfx Tryz.underlying22 R_52 (by kernel_rfl) (by decide) (fun _=>rfl)
theorem A_22:Qtb Tryz.prog 22 (fun (a:List Q4)=>.d (.lst 28 (List.map Qdt a))) W_22:=Qbkt R_22 (Qbjp Tryz.underlying22)
def W_3 (x:Int):Prop:=wfI .i64 x
theorem R_3:Qbbo Tryz.prog 3 (eI .i64) W_3:=Qbfw Tryz.underlying3
def W_23 (x:List Int):Prop:=wfL W_3 x
theorem R_23:Qbbo Tryz.prog 23 (eL 1 (eI .i64)) W_23:=Qbfx Tryz.underlying23 R_3 (by kernel_rfl) (by decide) (fun _=>rfl)
theorem A_23:Qtb Tryz.prog 23 (fun (a:List Int)=>.d (.lst 1 (List.map (eI .i64) a))) W_23:=Qbkt R_23 (Qbjp Tryz.underlying23)
theorem A_3:Qtb Tryz.prog 3 (fun (a:Int)=>.d (.int .i64 a)) W_3:=Qbkt R_3 (Qbrw Tryz.underlying3)
end Go.Proofs
end
section
namespace Go.Abs
open Go
theorem Qhe {X R:Type} {F:(X→Option R)→X→Option R} (I:X→Prop) (m:X→Nat) (Q:X→Option R→Prop)
  (step:∀ (k:X→Option R) (x:X),I x→(∀ y,I y→m y < m x→Q y (k y))→Q x (F k x)):∀ (fuel:Nat) (x:X),I x→m x < fuel→Q x (Qcv F fuel x)
 | 0,x,_,h=>absurd h (Nat.not_lt_zero _)
 | fuel+1,x,hi,h=>step _ x hi fun y hy hm=>Qhe I m Q step fuel y hy (by omega)
theorem Qbei {X R:Type} {F:(X→Option R)→X→Option R} {fuel:Nat} {x:X} (I:X→Prop) (m:X→Nat) (q:Option R) (hi:I x) (hm:m x < fuel)
  (step:∀ (k:X→Option R) (x:X),I x→(∀ y,I y→m y < m x→k y=q)→F k x=q):Qcv F fuel x=q :=
 Qhe I m (fun _ r=>r=q) step fuel x hi hm
theorem Qrm {x:Int} (h1 : -9223372036854775808≤x) (h2:x≤9223372036854775807):IntKind.wrap .i64 x=x:=by
 simp [IntKind.wrap,IntKind.bits,IntKind.signed]; omega
theorem Qcu {n:Nat} (h:n < 9223372036854775807):IntKind.wrap .i64 ((n:Int)+1)=((n+1:Nat):Int):=by
 rw [Qrm (by omega) (by omega)]; omega
theorem Qbi {α:Type} {l:List α} {n:Nat} (h:n < l.length):getO l (n:Int)=some l[n]:=by
 simp [getO,h]
theorem Qbf0 {α:Type} {l:List α} {i:Int} {x:α}:getO l i=some x↔0≤i∧l[i.toNat]? = some x:=by
 unfold getO; split
 ·rename_i h; simp [h]
 ·rename_i h; simp only [reduceCtorEq,false_iff,not_and]; exact fun h'=>absurd h' h
theorem Qde {α:Type} {l m:List α} (h:l.length+m.length≤lim):appO l m=some (l ++ m):=by
 unfold appO; rw [if_pos h]
theorem Qbjq {α:Type} {s t:List α} {k:Nat} (hs:k < s.length) (ht:k < t.length) (h:s.take k=t.take k) (he:s[k]=t[k]):s.take (k+1)=t.take (k+1):=by
 rw [List.take_add_one,List.take_add_one,h,List.getElem?_eq_getElem hs,List.getElem?_eq_getElem ht,he]
theorem Qkt {R:Type} {F:(Int→Option R)→Int→Option R} {len fuel:Nat} (G:Nat→Option R) (hf:len < fuel)
  (step:∀ (k:Int→Option R) (n:Nat),n < len→k ((n+1:Nat):Int)=G (n+1)→F k (n:Int)=G n) (last:∀ k:Int→Option R,F k (len:Int)=G len):Qcv F fuel 0=G 0:=by
 have:=Qhe (F:=F) (fun x=>∃ n:Nat,x=(n:Int)∧n≤len) (fun x=>len - x.toNat) (fun x r=>∀ n:Nat,x=(n:Int)→r=G n) (fun k x hx ih=>by
  obtain ⟨n,rfl,hn⟩:=hx
  intro m hm
  obtain rfl:n=m:=by omega
  by_cases h:n < len
  ·exact step k n h (ih _ ⟨n+1,rfl,by omega⟩ (by omega) (n+1) rfl)
  ·obtain rfl:n=len:=by omega
   exact last k) fuel 0 ⟨0,rfl,by omega⟩ (by simpa using hf)
 exact this 0 rfl
theorem Qbf1 {n:Nat} (h0:0 < n) (h:n < 9223372036854775807):IntKind.wrap .i64 ((n:Int) - 1)=((n - 1:Nat):Int):=by
 rw [Qrm (by omega) (by omega)]; omega
theorem Qbly {X S R:Type} {F:(X→Option R)→X→Option R} {len:Nat} (mk:Nat→S→X) (G:Nat→S→Option R)
  (step:∀ (k:X→Option R) (n:Nat) (s:S),n < len→(∀ s',k (mk (n+1) s')=G (n+1) s')→F k (mk n s)=G n s) (last:∀ (k:X→Option R) (s:S),F k (mk len s)=G len s) :
  ∀ (fuel n:Nat) (s:S),n≤len→len - n < fuel→Qcv F fuel (mk n s)=G n s
 | 0,n,s,_,h=>by omega
 | fuel+1,n,s,hn,h=>by
  show F (Qcv F fuel) (mk n s)=_
  by_cases hlt:n < len
  ·exact step _ n s hlt fun s'=>Qbly mk G step last fuel (n+1) s' (by omega) (by omega)
  ·obtain rfl:n=len:=by omega
   exact last _ s
theorem Qbq1 {i j:Nat} (hi:i < 1000000000000) (hj:j < 1000000000000):IntKind.wrap .i64 (Int.fdiv (IntKind.wrap .u64 (IntKind.wrap .i64 ((i:Int)+j))) (2 ^ (min (Int.toNat 1) (IntKind.bits .u64))))=(((i+j) / 2:Nat):Int):=by
 have h1:IntKind.wrap .i64 ((i:Int)+j)=((i+j:Nat):Int):=by rw [Qrm (by omega) (by omega)]; omega
 have h2:IntKind.wrap .u64 ((i+j:Nat):Int)=((i+j:Nat):Int):=by
  simp [IntKind.wrap,IntKind.bits,IntKind.signed]; omega
 have h3:(2:Int) ^ (min (Int.toNat 1) (IntKind.bits .u64))=2:=by decide
 rw [h1,h2,h3,Int.fdiv_eq_ediv_of_nonneg _ (by omega),show ((i+j:Nat):Int) / 2=(((i+j) / 2:Nat):Int) from by omega,Qrm (by omega) (by omega)]
theorem Qbej {α:Type} {l:List α} {i j:Nat} (h:i≤j) (hj:j≤l.length):slcO l (i:Int) (j:Int)=some ((l.take j).drop i):=by
 simp [slcO,h,hj]
theorem Qbmv:∀ {l m:List Int},l.Pairwise (· < ·)→m.Pairwise (· < ·)→(∀ x,x∈l↔x∈m)→l=m
 | l,m,h1,h2,h=>by
  have n1:l.Nodup:=h1.imp fun h=>by omega
  have n2:m.Nodup:=h2.imp fun h=>by omega
  have hp:l.Perm m:=(List.perm_ext_iff_of_nodup n1 n2).2 h
  exact List.Perm.eq_of_pairwise (le:=(· < ·)) (fun a b _ _ h1 h2=>by omega) h1 h2 hp
section
variable {α:Type} {p:α→Bool}
theorem Qbc6:∀ {l:List α},l.Pairwise (fun a b=>p b=true→p a=true)→∀ (n:Nat) (h:n < l.length),p l[n]=true↔n < (l.filter p).length
 | [],_,n,h=>by simp at h
 | x :: xs,hs,n,h=>by
  obtain ⟨h1,h2⟩:=List.pairwise_cons.1 hs
  cases n with
  | zero =>
   cases hx:p x with
   | true=>simp [hx]
   | false =>
    have:xs.filter p=[]:=List.filter_eq_nil_iff.2 fun y hy hp=>by have:=h1 y hy hp; rw [hx] at this; cases this
    simp [hx,this]
  | succ n =>
   have ih:=Qbc6 h2 n (by simpa using h)
   cases hx:p x with
   | true=>simp [hx,ih]
   | false =>
    have:xs.filter p=[]:=List.filter_eq_nil_iff.2 fun y hy hp=>by have:=h1 y hy hp; rw [hx] at this; cases this
    rw [this] at ih
    simp [hx,this] at ih ⊢
    exact ih
end
theorem Q0s {X S R:Type} {F:(X→Option R)→X→Option R} {len:Nat} (mk:Nat→S→X) (I:Nat→S→Prop) (G:Nat→S→Option R)
  (step:∀ (k:X→Option R) (n:Nat) (s:S),n < len→I n s→(∀ s',I (n+1) s' → k (mk (n+1) s')=G (n+1) s')→F k (mk n s)=G n s) (last:∀ (k:X→Option R) (s:S),I len s→F k (mk len s)=G len s) :
  ∀ (fuel n:Nat) (s:S),n≤len→len - n < fuel→I n s→Qcv F fuel (mk n s)=G n s
 | 0,n,s,_,h,_=>by omega
 | fuel+1,n,s,hn,h,hi=>by
  show F (Qcv F fuel) (mk n s)=_
  by_cases hlt:n < len
  ·exact step _ n s hlt hi fun s' hi'=>Q0s mk I G step last fuel (n+1) s' (by omega) (by omega) hi'
  ·obtain rfl:n=len:=by omega
   exact last _ s hi
theorem Qlr:∀ {l:List Int} {a b:Int},l.Pairwise (· < ·)→(∀ x∈l,a≤x∧x < b)→l.length≤(b - a).toNat
 | [],_,_,_,_=>by simp
 | x :: xs,a,b,h,hr=>by
  obtain ⟨h1,h2⟩:=List.pairwise_cons.1 h
  have:=Qlr (a:=x+1) (b:=b) h2 fun y hy=>⟨by have:=h1 y hy; omega,(hr y (by simp [hy])).2⟩
  have:=hr x (by simp)
  simp only [List.length_cons]
  omega
end Go.Abs
end
section
namespace Go.Abs
abbrev big : Nat := 1000000000000
def small (a : Qa) : Prop := a.zJ.length < big ∧ a.zK.length < big ∧ a.zL.length < big
end Go.Abs
end
