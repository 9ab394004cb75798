/-
  Part 6 of the proof: see the last text.
-/
import Derived.Test.YthlopjpofmcdmaaP5
import Derived.Test.YthlopjpofmcdmaaProg
import Derived.KernelRfl
import Derived.Sort.Statements
import Derived.Shelf.SlLaysF0
import Derived.Ground.SlsfProg
import Derived.Ground.SlgmProg
import Derived.Shelf.SortM.Plain
import Derived.Shelf.SortM.SortNone
import Derived.Shelf.SlSortCmp.NoneTotal
import Derived.Shelf.Small.Bits
import Derived.WalkKit
import Derived.OpenShut
import Derived.ProofKit
import Derived.Carry
import GoSem.Claim
import GoSem.ClaimJoined
import Derived.JoinedTies
set_option linter.unusedVariables false
set_option linter.unusedSimpArgs false
set_option linter.unusedSectionVars false
section
namespace Go.Abs
open Go
set_option maxRecDepth 10000
set_option maxHeartbeats 4000000
theorem Qyu {P:Program} {c:Nat} {Qbp:_} {Qbk:_}
    (Haw:Qhm P 90 Qbp)
    (Hav:Qgx P 91 Qbk) (hcf:Qy P c=some Qip) (fuel:Nat):Qio P c (Qck Qbp Qbk fuel):=by
 intro a1 r h;refine Qec hcf rfl fun Γ M hP hnt hM=>?_;subst hP;refine Tr.init [(0,(Qh a1))] rfl ?_;unfold Qck at h;unfold Qip;refine sr (Rn.box (v:=(Qh a1)) (cs:=(Qs a1)) tv rfl rfl rfl rfl rfl (Rn.movTC (v:=.nils 1) tv (nt (sr (Rn.movTC (v:=.nils 1) tv (nO ?_))))));refine Tr.cutB (fun (ov5:List Int)=>⟨look [(1,.ptr (Γ.n0+1) 0),(3,(o_ ov5))],Qo Γ.n0 (bxs [(1,.cells ((Qs a1)))]) M,Γ.n0+50⟩) h (fun z h=>?_) (fun z h=>?_)
 ·refine sr (fP rfl (lB (v:=(i_ a1.zN)) rfl rfl rfl rfl (bN rfl (nO ?_))));refine Tr.cond rfl (fun hb2=>?_) (fun hb2=>?_)
  ·replace h:=ifT hb2 h;refine Tr.rgn (Rn.movTF (v:=.nils 1) tv rfl rfl (Rn.bslice (xs:=[(i_ 0)]) (cs:=[(i_ 0)]) tv rfl rfl rfl rfl ?_));refine Rn.weak (by show WeakSt Γ _ ⟨look [(0,(Qh a1)),(1,.ptr (Γ.n0+1) 0),(2,.nils 1),(3,.nils 1),(7,.ptr (Γ.n0+1) 1),(8,(i_ a1.zN)),(9,(b_ (decide (a1.zN>0)))),(10,.own 1 (List.map (eI .i64) [])),(11,.sl 1 (Γ.n0+11) 0 1 1)],Qo Γ.n0 (bxs [(1,.cells ((Qs a1))),(11,.cells ([(i_ 0)]))]) M,Γ.n0+50⟩;exact Qf [] ⟨sq,(kPtr rfl),sq,sq,(kPtr rfl),sq,sq,(WkV.nilsO _),(kSl rfl),tv⟩ ⟨bS rfl rfl rfl,bS rfl rfl rfl,tv⟩ rfl) ?_;obtain ⟨x3,h4,h⟩:=bnd h;refine Rn.app (e:=(eI .i64)) tv rfl rfl rfl (Qbz rfl rfl rfl) h4 rfl (Rn.movTO tv rfl (Rn.nil ?_));replace h:=si h;subst h;exact Qf [11] ⟨(kPtr rfl),sq,tv⟩ ⟨bS rfl rfl rfl,tv⟩ rfl
  ·replace h:=ifF hb2 h;refine Tr.skip ?_;cases sj h;exact Qf [] ⟨(kPtr rfl),(WkV.nilsO _),tv⟩ ⟨bS rfl rfl rfl,tv⟩ rfl
 ·obtain ⟨ov5,rfl⟩ : ∃ x,x=z:=⟨_,rfl⟩;refine Tr.cutB (fun (ov29:List Int)=>⟨look [(3,(o_ ov29))],Qo Γ.n0 (bxs [(1,.cells ((Qs a1)))]) M,Γ.n0+50⟩) h (fun z h=>?_) (fun z h=>?_)
  ·refine sr (md rfl (nt (Tr.block ?_)));refine Tr.loop (mk:=fun ((ov6,i7):(List Int)×Int)=>⟨look [(1,.ptr (Γ.n0+1) 0),(3,(o_ ov6)),(4,(i_ i7))],Qo Γ.n0 (bxs [(1,.cells ((Qs a1)))]) M,Γ.n0+50⟩) h (by exact Qk ⟨(kPtr rfl),sq,sq,tv⟩ ⟨bS rfl rfl rfl,tv⟩ rfl) (fun k8 z h=>?_)
   ·obtain ⟨ov6,i7⟩:=z;replace h:_=some _:=h;refine Tr.seq (sr (md rfl (mv (l_ ov6) rfl (Rn.lenD tv rfl (bN rfl (nO ?_))))));refine Tr.cond rfl (fun hb9=>?_) (fun hb9=>?_)
    ·replace h:=ifT hb9 h;refine Tr.skip (toN ?_);refine Tr.cutB (fun (ov28:List Int)=>⟨look [(1,.ptr (Γ.n0+1) 0),(3,(o_ ov28)),(4,(i_ i7))],Qo Γ.n0 (bxs [(1,.cells ((Qs a1)))]) M,Γ.n0+50⟩) h (fun z h=>?_) (fun z h=>?_)
     ·refine Tr.block (sr (md rfl (nt (Tr.block ?_))));refine Tr.loop (mk:=fun ((ov10,k11):(List Int)×Int)=>⟨look [(1,.ptr (Γ.n0+1) 0),(3,(o_ ov10)),(4,(i_ i7)),(5,(i_ k11))],Qo Γ.n0 (bxs [(1,.cells ((Qs a1)))]) M,Γ.n0+50⟩) h (by exact Qk ⟨(kPtr rfl),sq,sq,sq,tv⟩ ⟨bS rfl rfl rfl,tv⟩ rfl) (fun k12 z h=>?_)
      ·obtain ⟨ov10,k11⟩:=z;replace h:_=some _:=h;refine Tr.seq (sr (md rfl (fP rfl (lB (v:=(l_ a1.zK)) rfl rfl rfl rfl (Rn.lenD tv rfl (bN rfl (nO ?_)))))));refine Tr.cond rfl (fun hb13=>?_) (fun hb13=>?_)
       ·replace h:=ifT hb13 h;refine Tr.skip (toN ?_);refine Tr.cutB (fun (ov27:List Int)=>⟨look [(1,.ptr (Γ.n0+1) 0),(3,(o_ ov27)),(4,(i_ i7)),(5,(i_ k11))],Qo Γ.n0 (bxs [(1,.cells ((Qs a1)))]) M,Γ.n0+50⟩) h (fun z h=>?_) (fun z h=>?_)
        ·refine Tr.block (Tr.seq ?_);refine Tr.rgnD (by decide) ?_;refine lB (v:=(Qh a1)) rfl rfl rfl rfl (mv (l_ ov10) rfl (md rfl ?_));obtain ⟨x14,h15,h⟩:=bnd h;refine Rn.idxD (e:=(eI .i64)) tv rfl rfl h15 (Rn.loadC (x:=.int .i64 x14) tv rfl (fP rfl (lB (v:=(l_ a1.zK)) rfl rfl rfl rfl (md rfl ?_))));obtain ⟨x16,h17,h⟩:=bnd h;refine Rn.idxD (e:=(eI .i64)) tv rfl rfl h17 (Rn.loadC (x:=.int .i64 x16) tv rfl ?_);obtain ⟨x19,h18,h⟩:=bnd h;refine Rn.call (args:=[(Qh a1),(i_ x14),(i_ x16)]) tv rfl (Hav _ _ _ _ h18) pc0 (md rfl ?_);refine Rn.nil ⟨rfl,?_⟩;refine toN ?_;refine Tr.cutB (fun (x23:Bool)=>⟨look [(1,.ptr (Γ.n0+1) 0),(3,(o_ ov10)),(4,(i_ i7)),(5,(i_ k11)),(6,(i_ x19)),(44,(b_ x23))],Qo Γ.n0 (bxs [(1,.cells ((Qs a1)))]) M,Γ.n0+50⟩) h (fun z h=>?_) (fun z h=>?_)
         ·refine Tr.rgn (md rfl (bN rfl (md rfl ?_)));refine Qb4 (decide (x19≥0)) (fun hb20=>?_) (fun hb20=>?_)
          ·replace h:=ifT hb20 h;refine Rn.mov (v:=(l_ ov10)) (gw rfl hb20) rfl (Rn.movD (gw rfl hb20) rfl ?_);obtain ⟨x22,h21,h⟩:=bnd h;refine Rn.call (args:=[(l_ ov10),(i_ x19)]) (gw rfl hb20) rfl (Haw _ _ _ h21) pc9 (Rn.un (gw rfl hb20) rfl rfl (pT (b_ (!x22)) rfl hb20 rfl (Rn.nil ?_)));cases sj h;exact Qf [] ⟨(kPtr rfl),sq,sq,sq,sq,sq,tv⟩ ⟨bS rfl rfl rfl,tv⟩ rfl
          ·replace h:=ifF hb20 h;refine sK rfl hb20 (sK rfl hb20 (sK rfl hb20 (sK rfl hb20 (pF (b_ false) rfl hb20 rfl (Rn.nil ?_)))));replace h:=si h;subst h;exact Qf [] ⟨(kPtr rfl),sq,sq,sq,sq,sq,tv⟩ ⟨bS rfl rfl rfl,tv⟩ rfl
         ·obtain ⟨x23,rfl⟩ : ∃ x,x=z:=⟨_,rfl⟩;refine Tr.cond rfl (fun hb24=>?_) (fun hb24=>?_)
          ·replace h:=bT hb24 h;refine Tr.rgn (Rn.movTO tv rfl (md rfl (Rn.bslice (xs:=[(i_ x19)]) (cs:=[(i_ x19)]) tv rfl rfl rfl rfl ?_)));obtain ⟨x25,h26,h⟩:=bnd h;refine Rn.app (e:=(eI .i64)) tv rfl rfl rfl (Qbz rfl rfl rfl) h26 rfl (Rn.movTO tv rfl (Rn.nil ?_));replace h:=si h;subst h;exact Qf [47] ⟨(kPtr rfl),sq,sq,sq,tv⟩ ⟨bS rfl rfl rfl,tv⟩ rfl
          ·replace h:=bF hb24 h;refine Tr.skip ?_;replace h:=si h;subst h;exact Qf [] ⟨(kPtr rfl),sq,sq,sq,tv⟩ ⟨bS rfl rfl rfl,tv⟩ rfl
        ·obtain ⟨ov27,rfl⟩ : ∃ x,x=z:=⟨_,rfl⟩;refine Tr.rgn (md rfl (bN rfl (md rfl (Rn.nil ?_))));exact ⟨_,h,(by exact Qk ⟨(kPtr rfl),sq,sq,sq,tv⟩ ⟨bS rfl rfl rfl,tv⟩ rfl)⟩
       ·replace h:=ifF hb13 h;refine Tr.exit ?_;replace h:=si h;subst h;exact Qf [] ⟨(kPtr rfl),sq,sq,tv⟩ ⟨bS rfl rfl rfl,tv⟩ rfl
     ·obtain ⟨ov28,rfl⟩ : ∃ x,x=z:=⟨_,rfl⟩;refine Tr.rgn (md rfl (bN rfl (md rfl (Rn.nil ?_))));exact ⟨_,h,(by exact Qk ⟨(kPtr rfl),sq,sq,tv⟩ ⟨bS rfl rfl rfl,tv⟩ rfl)⟩
    ·replace h:=ifF hb9 h;refine Tr.exit ?_;replace h:=si h;subst h;exact Qf [] ⟨sq,tv⟩ ⟨bS rfl rfl rfl,tv⟩ rfl
  ·obtain ⟨ov29,rfl⟩ : ∃ x,x=z:=⟨_,rfl⟩;refine sr (Rn.movTO tv rfl (Rn.movTO tv rfl (nt (Tr.ret ?_))));replace h:=si h;subst h;exact ⟨.inr rfl,(o_ ov29),rfl,fun _ _ _ _ h=>h,tv,mB⟩
theorem Qyv {P:Program} {c:Nat} (hcf:Qy P c=some Qir) (fuel:Nat):Qiq P c (Qcl fuel):=by
 intro l1 n2 r h;refine Qec hcf rfl fun Γ M hP hnt hM=>?_;subst hP;refine Tr.init [(0,(l_ l1)),(1,(i_ n2))] rfl ?_;unfold Qcl at h;unfold Qir;refine sr (md rfl (nt (Tr.seq (sr (md rfl (nt (Tr.block ?_)))))));refine Tr.loop (mk:=fun (i3:Int)=>⟨look [(0,(l_ l1)),(1,(i_ n2)),(5,(i_ i3))],Qo Γ.n0 (bxs []) M,Γ.n0+19⟩) h (by exact Qk ⟨sq,sq,sq,tv⟩ tv rfl) (fun k4 z h=>?_)
 ·obtain ⟨i3,rfl⟩ : ∃ x,x=z:=⟨_,rfl⟩;replace h:_=some _:=h;refine Tr.seq (sr (md rfl (md rfl (Rn.lenD tv rfl (bN rfl (nO ?_))))));refine Tr.cond rfl (fun hb5=>?_) (fun hb5=>?_)
  ·replace h:=ifT hb5 h;refine Tr.skip (toN (Tr.seq (Tr.block (sr (md rfl (md rfl ?_))))));obtain ⟨x6,h7,h⟩:=bnd h;refine Rn.idxD (e:=(eI .i64)) tv rfl rfl h7 (Rn.loadC (x:=.int .i64 x6) tv rfl (md rfl (bN rfl (nO ?_))));refine Tr.cond rfl (fun hb8=>?_) (fun hb8=>?_)
   ·replace h:=bT hb8 h;refine sr (md rfl (md rfl (nt (Tr.ret ?_))));replace h:=si h;subst h;exact ⟨.inr rfl,(i_ i3),rfl,fun _ _ _ _ h=>h,tv,mB⟩
   ·replace h:=bF hb8 h;refine Tr.skip (toN (Tr.rgn (md rfl (bN rfl (md rfl (Rn.nil ?_))))));exact ⟨_,h,(by exact Qk ⟨sq,sq,sq,tv⟩ tv rfl)⟩
  ·replace h:=ifF hb5 h;refine Tr.exit (toN (sr (md rfl (nt (Tr.ret ?_)))));cases sj h;exact ⟨.inr rfl,(i_ (-1)),rfl,fun _ _ _ _ h=>h,tv,mB⟩
theorem Qs1 {P:Program} {c:Nat} {Q9:_} {Qck:_} {Qbp:_} {Qbk:_} {Qcl:_}
    (Hat:Qgk P 69 Q9)
    (Hau:Qio P 89 Qck)
    (Haw:Qhm P 90 Qbp)
    (Hav:Qgx P 91 Qbk)
    (Hax:Qiq P 92 Qcl) (hcf:Qy P c=some Qgu) (fuel:Nat):Qgt P c (Qbw Q9 Qck Qbp Qbk Qcl fuel):=by
 intro a1 r h;refine Qec hcf rfl fun Γ M hP hnt hM=>?_;subst hP;refine Tr.init [(0,(Qh a1))] rfl ?_;unfold Qbw at h;unfold Qgu;refine sr (Rn.box (v:=(Qh a1)) (cs:=(Qs a1)) tv rfl rfl rfl rfl rfl (Rn.alloc tv rfl (nt (sr (lB (v:=(Qh a1)) rfl rfl rfl rfl ?_)))));obtain ⟨x3,h2,h⟩:=bnd h;refine Rn.call (args:=[(Qh a1)]) tv rfl (Hau _ _ h2) pc9 (Rn.movTO tv rfl (nt (sr (fP rfl (lB (v:=(l_ a1.zK)) rfl rfl rfl rfl ?_)))));obtain ⟨x5,h4,h⟩:=bnd h;refine Rn.call (args:=[(l_ a1.zK)]) tv rfl (Hat _ _ h4) pc9 (Rn.alloc tv rfl (Rn.storeT (v:=.agg [(l_ x5.zK),(i_ x5.zN),.nils 1,.nils 3]) (ds:=[(l_ x5.zK),(i_ x5.zN),.nils 1,.nils 3]) (cs':=[(l_ x5.zK),(i_ x5.zN),.nils 1,.nils 3]) tv rfl rfl rfl rfl rfl rfl rfl (nt (sr (mv (l_ x3) rfl (Rn.lenD tv rfl (fP rfl (Rn.store (v:=(i_ (x3.length:Int))) (cs':=[(l_ x5.zK),(i_ (x3.length:Int)),.nils 1,.nils 3]) tv rfl rfl rfl rfl rfl rfl (nO ?_)))))))));refine Tr.cutB (fun ((c42,c43,c44,ov45,ov46):(List Int)×(List Int)×(List Qc)×(List Int)×(List Qc))=>⟨look [(2,.ptr (Γ.n0+2) 0),(4,.ptr (Γ.n0+4) 0)],Qo Γ.n0 (bxs [(1,.cells ((Qs a1))),(2,.cells ([(o_ c42),(i_ 0),(o_ c43),(Qg c44)])),(4,.cells ([(l_ x5.zK),(i_ (x3.length:Int)),(o_ ov45),(Qg ov46)]))]) M,Γ.n0+71⟩) h (fun z h=>?_) (fun z h=>?_)
 ·refine sr (md rfl (nt (Tr.block ?_)));refine Tr.loop (mk:=fun ((i6,c7,c8,c9,ov10,ov11):Int×(List Int)×(List Int)×(List Qc)×(List Int)×(List Qc))=>⟨look [(1,.ptr (Γ.n0+1) 0),(2,.ptr (Γ.n0+2) 0),(3,(o_ x3)),(4,.ptr (Γ.n0+4) 0),(5,(i_ i6))],Qo Γ.n0 (bxs [(1,.cells ((Qs a1))),(2,.cells ([(o_ c7),(i_ 0),(o_ c8),(Qg c9)])),(4,.cells ([(l_ x5.zK),(i_ (x3.length:Int)),(o_ ov10),(Qg ov11)]))]) M,Γ.n0+71⟩) h (by exact Qk ⟨(kPtr rfl),(kPtr rfl),sq,(kPtr rfl),sq,tv⟩ ⟨bS rfl rfl rfl,⟨_,rfl,rfl,(.cons (WkV.nilsO _) (cS rfl (.cons (WkV.nilsO _) (.cons (WkV.nilsO _) .nil))))⟩,⟨_,rfl,rfl,(cS rfl (cS rfl (.cons (WkV.nilsO _) (.cons (WkV.nilsO _) .nil))))⟩,tv⟩ rfl) (fun k12 z h=>?_)
  ·obtain ⟨i6,c7,c8,c9,ov10,ov11⟩:=z;replace h:_=some _:=h;refine Tr.seq (sr (md rfl (mv (l_ x3) rfl (Rn.lenD tv rfl (bN rfl (nO ?_))))));refine Tr.cond rfl (fun hb13=>?_) (fun hb13=>?_)
   ·replace h:=ifT hb13 h;refine Tr.skip (toN ?_);refine Tr.cutB (fun ((ov40,ov41):(List Int)×(List Qc))=>⟨look [(1,.ptr (Γ.n0+1) 0),(2,.ptr (Γ.n0+2) 0),(3,(o_ x3)),(4,.ptr (Γ.n0+4) 0),(5,(i_ i6))],Qo Γ.n0 (bxs [(1,.cells ((Qs a1))),(2,.cells ([(o_ c7),(i_ 0),(o_ c8),(Qg c9)])),(4,.cells ([(l_ x5.zK),(i_ (x3.length:Int)),(o_ ov40),(Qg ov41)]))]) M,Γ.n0+71⟩) h (fun z h=>?_) (fun z h=>?_)
    ·refine Tr.block ?_;refine Tr.cutB (fun (ov21:List Int)=>⟨look [(1,.ptr (Γ.n0+1) 0),(2,.ptr (Γ.n0+2) 0),(3,(o_ x3)),(4,.ptr (Γ.n0+4) 0),(5,(i_ i6))],Qo Γ.n0 (bxs [(1,.cells ((Qs a1))),(2,.cells ([(o_ c7),(i_ 0),(o_ c8),(Qg c9)])),(4,.cells ([(l_ x5.zK),(i_ (x3.length:Int)),(o_ ov21),(Qg ov11)]))]) M,Γ.n0+71⟩) h (fun z h=>?_) (fun z h=>?_)
     ·refine Tr.seq ?_;refine Tr.rgnD (by decide) ?_;refine fP rfl (lB (v:=(l_ a1.zL)) rfl rfl rfl rfl (mv (l_ x3) rfl (md rfl ?_)));obtain ⟨x14,h15,h⟩:=bnd h;refine Rn.idxD (e:=(eI .i64)) tv rfl rfl h15 (Rn.loadC (x:=.int .i64 x14) tv rfl ?_);obtain ⟨x17,h16,h⟩:=bnd h;refine Rn.call (args:=[(l_ a1.zL),(i_ x14)]) tv rfl (Haw _ _ _ h16) pc0 ?_;refine Rn.nil ⟨rfl,?_⟩;refine toN ?_;refine Tr.cond rfl (fun hb18=>?_) (fun hb18=>?_)
      ·replace h:=bT hb18 h;refine Tr.rgn (fP rfl (Rn.loadT (cs':=[(l_ x5.zK),(i_ (x3.length:Int)),(l_ ov10),(Qg ov11)]) tv rfl rfl rfl rfl (md rfl (Rn.bslice (xs:=[(i_ i6)]) (cs:=[(i_ i6)]) tv rfl rfl rfl rfl ?_))));obtain ⟨x19,h20,h⟩:=bnd h;refine Rn.app (e:=(eI .i64)) tv rfl rfl rfl (Qbz rfl rfl rfl) h20 rfl (fP rfl (Rn.storeO (cs':=[(l_ x5.zK),(i_ (x3.length:Int)),(o_ x19),(Qg ov11)]) tv rfl rfl rfl rfl rfl (Rn.nil ?_)));replace h:=si h;subst h;exact Qf [32] ⟨(kPtr rfl),(kPtr rfl),sq,(kPtr rfl),sq,tv⟩ ⟨bS rfl rfl rfl,bS rfl rfl rfl,bS rfl rfl rfl,tv⟩ rfl
      ·replace h:=bF hb18 h;refine Tr.skip ?_;replace h:=si h;subst h;exact Qf [] ⟨(kPtr rfl),(kPtr rfl),sq,(kPtr rfl),sq,tv⟩ ⟨bS rfl rfl rfl,bS rfl rfl rfl,bS rfl rfl rfl,tv⟩ rfl
     ·obtain ⟨ov21,rfl⟩ : ∃ x,x=z:=⟨_,rfl⟩;refine sr (md rfl (nt (Tr.block ?_)));refine Tr.loop (mk:=fun ((k22,ov23):Int×(List Qc))=>⟨look [(1,.ptr (Γ.n0+1) 0),(2,.ptr (Γ.n0+2) 0),(3,(o_ x3)),(4,.ptr (Γ.n0+4) 0),(5,(i_ i6)),(6,(i_ k22))],Qo Γ.n0 (bxs [(1,.cells ((Qs a1))),(2,.cells ([(o_ c7),(i_ 0),(o_ c8),(Qg c9)])),(4,.cells ([(l_ x5.zK),(i_ (x3.length:Int)),(o_ ov21),(Qg ov23)]))]) M,Γ.n0+71⟩) h (by exact Qk ⟨(kPtr rfl),(kPtr rfl),sq,(kPtr rfl),sq,sq,tv⟩ ⟨bS rfl rfl rfl,bS rfl rfl rfl,bS rfl rfl rfl,tv⟩ rfl) (fun k24 z h=>?_)
      ·obtain ⟨k22,ov23⟩:=z;replace h:_=some _:=h;refine Tr.seq (sr (md rfl (fP rfl (lB (v:=(l_ a1.zK)) rfl rfl rfl rfl (Rn.lenD tv rfl (bN rfl (nO ?_)))))));refine Tr.cond rfl (fun hb25=>?_) (fun hb25=>?_)
       ·replace h:=ifT hb25 h;refine Tr.skip (toN ?_);refine Tr.cutB (fun (ov39:List Qc)=>⟨look [(1,.ptr (Γ.n0+1) 0),(2,.ptr (Γ.n0+2) 0),(3,(o_ x3)),(4,.ptr (Γ.n0+4) 0),(5,(i_ i6)),(6,(i_ k22))],Qo Γ.n0 (bxs [(1,.cells ((Qs a1))),(2,.cells ([(o_ c7),(i_ 0),(o_ c8),(Qg c9)])),(4,.cells ([(l_ x5.zK),(i_ (x3.length:Int)),(o_ ov21),(Qg ov39)]))]) M,Γ.n0+71⟩) h (fun z h=>?_) (fun z h=>?_)
        ·refine Tr.block (Tr.seq ?_);refine Tr.rgnD (by decide) ?_;refine lB (v:=(Qh a1)) rfl rfl rfl rfl (mv (l_ x3) rfl (md rfl ?_));obtain ⟨x26,h27,h⟩:=bnd h;refine Rn.idxD (e:=(eI .i64)) tv rfl rfl h27 (Rn.loadC (x:=.int .i64 x26) tv rfl (fP rfl (lB (v:=(l_ a1.zK)) rfl rfl rfl rfl (md rfl ?_))));obtain ⟨x28,h29,h⟩:=bnd h;refine Rn.idxD (e:=(eI .i64)) tv rfl rfl h29 (Rn.loadC (x:=.int .i64 x28) tv rfl ?_);obtain ⟨x31,h30,h⟩:=bnd h;refine Rn.call (args:=[(Qh a1),(i_ x26),(i_ x28)]) tv rfl (Hav _ _ _ _ h30) pc0 (md rfl ?_);refine Rn.nil ⟨rfl,?_⟩;refine toN (sr (md rfl (bN rfl (nO ?_))));refine Tr.cond rfl (fun hb32=>?_) (fun hb32=>?_)
         ·replace h:=ifT hb32 h;refine Tr.rgnD (by decide) ?_;refine fP rfl (Rn.loadT (cs':=[(l_ x5.zK),(i_ (x3.length:Int)),(o_ ov21),(Qd ov23)]) tv rfl rfl rfl rfl (md rfl (fP rfl (lB (v:=(l_ a1.zK)) rfl rfl rfl rfl (md rfl ?_)))));obtain ⟨x33,h34,h⟩:=bnd h;refine Rn.idxD (e:=(eI .i64)) tv rfl rfl h34 (Rn.loadC (x:=.int .i64 x33) tv rfl (mv (l_ x3) rfl (md rfl ?_)));obtain ⟨x36,h35,h⟩:=bnd h;refine Rn.call (args:=[(l_ x3),(i_ x31)]) tv rfl (Hax _ _ _ h35) pc2 (Rn.build (v:=.agg [(i_ i6),(i_ x33),(i_ x36)]) tv rfl (Rn.bslice (xs:=[.agg [(i_ i6),(i_ x33),(i_ x36)]]) (cs:=[(i_ i6),(i_ x33),(i_ x36)]) tv rfl rfl rfl rfl ?_));obtain ⟨x37,h38,h⟩:=bnd h;refine Rn.app (e:=Qi) tv rfl rfl rfl (Qbz rfl rfl rfl) h38 rfl (fP rfl (Rn.storeO (cs':=[(l_ x5.zK),(i_ (x3.length:Int)),(o_ ov21),(Qg x37)]) tv rfl rfl rfl rfl rfl ?_));refine Rn.nil ⟨rfl,?_⟩;replace h:=si h;subst h;exact Qf [67] ⟨(kPtr rfl),(kPtr rfl),sq,(kPtr rfl),sq,sq,tv⟩ ⟨bS rfl rfl rfl,bS rfl rfl rfl,bS rfl rfl rfl,tv⟩ rfl
         ·replace h:=ifF hb32 h;refine Tr.skip ?_;replace h:=si h;subst h;exact Qf [] ⟨(kPtr rfl),(kPtr rfl),sq,(kPtr rfl),sq,sq,tv⟩ ⟨bS rfl rfl rfl,bS rfl rfl rfl,bS rfl rfl rfl,tv⟩ rfl
        ·obtain ⟨ov39,rfl⟩ : ∃ x,x=z:=⟨_,rfl⟩;refine Tr.rgn (md rfl (bN rfl (md rfl (Rn.nil ?_))));exact ⟨_,h,(by exact Qk ⟨(kPtr rfl),(kPtr rfl),sq,(kPtr rfl),sq,sq,tv⟩ ⟨bS rfl rfl rfl,bS rfl rfl rfl,bS rfl rfl rfl,tv⟩ rfl)⟩
       ·replace h:=ifF hb25 h;refine Tr.exit ?_;cases sj h;exact Qf [] ⟨(kPtr rfl),(kPtr rfl),sq,(kPtr rfl),sq,tv⟩ ⟨bS rfl rfl rfl,bS rfl rfl rfl,bS rfl rfl rfl,tv⟩ rfl
    ·obtain ⟨ov40,ov41⟩:=z;refine Tr.rgn (md rfl (bN rfl (md rfl (Rn.nil ?_))));exact ⟨_,h,(by exact Qk ⟨(kPtr rfl),(kPtr rfl),sq,(kPtr rfl),sq,tv⟩ ⟨bS rfl rfl rfl,bS rfl rfl rfl,bS rfl rfl rfl,tv⟩ rfl)⟩
   ·replace h:=ifF hb13 h;refine Tr.exit ?_;cases sj h;exact Qf [] ⟨(kPtr rfl),(kPtr rfl),tv⟩ ⟨bS rfl rfl rfl,bS rfl rfl rfl,bS rfl rfl rfl,tv⟩ rfl
 ·obtain ⟨c42,c43,c44,ov45,ov46⟩:=z;refine sr (lB (v:=.agg [(l_ x5.zK),(i_ (x3.length:Int)),(l_ ov45),(Qd ov46)]) rfl rfl rfl rfl (Rn.storeT (v:=.agg [(l_ x5.zK),(i_ (x3.length:Int)),(l_ ov45),(Qd ov46)]) (ds:=[(l_ x5.zK),(i_ (x3.length:Int)),(l_ ov45),(Qd ov46)]) (cs':=[(l_ x5.zK),(i_ (x3.length:Int)),(l_ ov45),(Qd ov46)]) tv rfl rfl rfl rfl rfl rfl rfl (nt (Tr.ret ?_))));cases sj h;exact ⟨.inr rfl,(.agg [(l_ x5.zK),(i_ (x3.length:Int)),(l_ ov45),(Qd ov46)]),Qhi rfl rfl rfl rfl,fun _ _ _ _ h=>h,⟨tv,tv,tv,tv,tv⟩,mB⟩
theorem Q0m {P:Program} {c:Nat} {Q9:_} {Qbw:_}
    (Hat:Qgk P 69 Q9)
    (Has:Qgt P 70 Qbw) (hcf:Qy P c=some Qi7) (fuel:Nat):Qi6 P c (Qcq Q9 Qbw fuel):=by
 intro av1 g2 r h;refine Qec hcf rfl fun Γ M hP hnt hM=>?_;subst hP;refine Tr.init [(0,(l_ av1)),(1,(Qet g2))] rfl ?_;unfold Qcq at h;unfold Qi7;refine sr (Rn.box (v:=(Qet g2)) (cs:=(Qci g2)) tv rfl rfl rfl rfl rfl (Rn.alloc tv rfl (nt (Tr.seq (sr (fP rfl (lB (v:=.d (.int .u8 g2.zN)) rfl rfl rfl rfl (bN rfl (nO ?_)))))))));refine Tr.cond rfl (fun hb3=>?_) (fun hb3=>?_)
 ·replace h:=ifT hb3 h;refine sr (md rfl ?_);obtain ⟨x5,h4,h⟩:=bnd h;refine Rn.call (args:=[(l_ av1)]) tv rfl (Hat _ _ h4) pc9 (Rn.storeT (v:=.agg [(l_ x5.zK),(i_ x5.zN),.nils 1,.nils 3]) (ds:=[(l_ x5.zK),(i_ x5.zN),.nils 1,.nils 3]) (cs':=[(l_ x5.zK),(i_ x5.zN),.nils 1,.nils 3]) tv rfl rfl rfl rfl rfl rfl rfl (nt (Tr.ret ?_)));cases sj h;exact ⟨.inr rfl,(.agg [(l_ x5.zK),(i_ x5.zN),.nils 1,.nils 3]),Qhi rfl rfl rfl rfl,(WkV.agg (cS rfl (cS rfl (.cons (WkV.nilsD _) (.cons (WkV.nilsD _) .nil))))).rd,⟨tv,tv,tv,tv,tv⟩,mB⟩
 ·replace h:=ifF hb3 h;refine Tr.skip (toN (sr (md rfl ?_)));obtain ⟨x7,h6,h⟩:=bnd h;refine Rn.call (args:=[(l_ av1)]) tv rfl (Hat _ _ h6) pc9 (Rn.alloc tv rfl (Rn.storeT (v:=.agg [(l_ x7.zK),(i_ x7.zN),.nils 1,.nils 3]) (ds:=[(l_ x7.zK),(i_ x7.zN),.nils 1,.nils 3]) (cs':=[(l_ x7.zK),(i_ x7.zN),.nils 1,.nils 3]) tv rfl rfl rfl rfl rfl rfl rfl (nt (sr (fP rfl (lB (v:=.d (.int .u8 g2.zN)) rfl rfl rfl rfl (bN rfl (Rn.conv tv rfl (bN rfl (fP rfl (Rn.store (v:=(i_ (IntKind.wrap .i64 (1+(IntKind.wrap .i64 (Int.tmod g2.zN 5)))))) (cs':=[(l_ x7.zK),(i_ (IntKind.wrap .i64 (1+(IntKind.wrap .i64 (Int.tmod g2.zN 5))))),.nils 1,.nils 3]) tv rfl rfl rfl rfl rfl rfl (nO ?_))))))))))));refine Tr.cutB (fun ((c43,c44,c45,a46,a47,a48):(List Int)×(List Int)×(List Qc)×Int×(List Int)×(List Qc))=>⟨look [(4,.ptr (Γ.n0+4) 0),(5,.ptr (Γ.n0+5) 0)],Qo Γ.n0 (bxs [(3,.cells ((Qci g2))),(4,.cells ([(o_ c43),(i_ 0),(o_ c44),(Qg c45)])),(5,.cells ([(l_ x7.zK),(i_ a46),(o_ a47),(Qg a48)]))]) M,Γ.n0+79⟩) h (fun z h=>?_) (fun z h=>?_)
  ·refine sr (md rfl (nt (Tr.block ?_)));refine Tr.loop (mk:=fun ((i8,c9,c10,c11,a12,a13,a14):Int×(List Int)×(List Int)×(List Qc)×Int×(List Int)×(List Qc))=>⟨look [(0,(l_ av1)),(3,.ptr (Γ.n0+3) 0),(4,.ptr (Γ.n0+4) 0),(5,.ptr (Γ.n0+5) 0),(6,(i_ i8))],Qo Γ.n0 (bxs [(3,.cells ((Qci g2))),(4,.cells ([(o_ c9),(i_ 0),(o_ c10),(Qg c11)])),(5,.cells ([(l_ x7.zK),(i_ a12),(o_ a13),(Qg a14)]))]) M,Γ.n0+79⟩) h (by exact Qk ⟨sq,(kPtr rfl),(kPtr rfl),(kPtr rfl),sq,tv⟩ ⟨bS rfl rfl rfl,⟨_,rfl,rfl,(.cons (WkV.nilsO _) (cS rfl (.cons (WkV.nilsO _) (.cons (WkV.nilsO _) .nil))))⟩,⟨_,rfl,rfl,(cS rfl (cS rfl (.cons (WkV.nilsO _) (.cons (WkV.nilsO _) .nil))))⟩,tv⟩ rfl) (fun k15 z h=>?_)
   ·obtain ⟨i8,c9,c10,c11,a12,a13,a14⟩:=z;replace h:_=some _:=h;refine Tr.seq (sr (md rfl (fP rfl (lB (v:=(i_ a12)) rfl rfl rfl rfl (bN rfl (nO ?_))))));refine Tr.cond rfl (fun hb16=>?_) (fun hb16=>?_)
    ·replace h:=ifT hb16 h;refine Tr.skip (toN ?_);refine Tr.cutB (fun ((a41,a42):(List Int)×(List Qc))=>⟨look [(0,(l_ av1)),(3,.ptr (Γ.n0+3) 0),(4,.ptr (Γ.n0+4) 0),(5,.ptr (Γ.n0+5) 0),(6,(i_ i8))],Qo Γ.n0 (bxs [(3,.cells ((Qci g2))),(4,.cells ([(o_ c9),(i_ 0),(o_ c10),(Qg c11)])),(5,.cells ([(l_ x7.zK),(i_ a12),(o_ a41),(Qg a42)]))]) M,Γ.n0+79⟩) h (fun z h=>?_) (fun z h=>?_)
     ·refine Tr.block ?_;refine Tr.cutB (fun (a22:List Int)=>⟨look [(0,(l_ av1)),(3,.ptr (Γ.n0+3) 0),(4,.ptr (Γ.n0+4) 0),(5,.ptr (Γ.n0+5) 0),(6,(i_ i8))],Qo Γ.n0 (bxs [(3,.cells ((Qci g2))),(4,.cells ([(o_ c9),(i_ 0),(o_ c10),(Qg c11)])),(5,.cells ([(l_ x7.zK),(i_ a12),(o_ a22),(Qg a14)]))]) M,Γ.n0+79⟩) h (fun z h=>?_) (fun z h=>?_)
      ·refine sr (fP rfl (lB (v:=.d (.int .u8 g2.Marks)) rfl rfl rfl rfl (md rfl ?_)));obtain ⟨s17,h18,h⟩:=bnd h;refine Rn.bin tv rfl rfl (Qbil h18) (bN rfl (bN rfl (nO ?_)));refine Tr.cond rfl (fun hb19=>?_) (fun hb19=>?_)
       ·replace h:=bT hb19 h;refine Tr.rgn (fP rfl (Rn.loadT (cs':=[(l_ x7.zK),(i_ a12),(l_ a13),(Qg a14)]) tv rfl rfl rfl rfl (md rfl (Rn.bslice (xs:=[(i_ i8)]) (cs:=[(i_ i8)]) tv rfl rfl rfl rfl ?_))));obtain ⟨x20,h21,h⟩:=bnd h;refine Rn.app (e:=(eI .i64)) tv rfl rfl rfl (Qbz rfl rfl rfl) h21 rfl (fP rfl (Rn.storeO (cs':=[(l_ x7.zK),(i_ a12),(o_ x20),(Qg a14)]) tv rfl rfl rfl rfl rfl (Rn.nil ?_)));replace h:=si h;subst h;exact Qf [37] ⟨sq,(kPtr rfl),(kPtr rfl),(kPtr rfl),sq,tv⟩ ⟨bS rfl rfl rfl,bS rfl rfl rfl,bS rfl rfl rfl,tv⟩ rfl
       ·replace h:=bF hb19 h;refine Tr.skip ?_;replace h:=si h;subst h;exact Qf [] ⟨sq,(kPtr rfl),(kPtr rfl),(kPtr rfl),sq,tv⟩ ⟨bS rfl rfl rfl,bS rfl rfl rfl,bS rfl rfl rfl,tv⟩ rfl
      ·obtain ⟨a22,rfl⟩ : ∃ x,x=z:=⟨_,rfl⟩;refine sr (md rfl (nt (Tr.block ?_)));refine Tr.loop (mk:=fun ((k23,a24):Int×(List Qc))=>⟨look [(0,(l_ av1)),(3,.ptr (Γ.n0+3) 0),(4,.ptr (Γ.n0+4) 0),(5,.ptr (Γ.n0+5) 0),(6,(i_ i8)),(7,(i_ k23))],Qo Γ.n0 (bxs [(3,.cells ((Qci g2))),(4,.cells ([(o_ c9),(i_ 0),(o_ c10),(Qg c11)])),(5,.cells ([(l_ x7.zK),(i_ a12),(o_ a22),(Qg a24)]))]) M,Γ.n0+79⟩) h (by exact Qk ⟨sq,(kPtr rfl),(kPtr rfl),(kPtr rfl),sq,sq,tv⟩ ⟨bS rfl rfl rfl,bS rfl rfl rfl,bS rfl rfl rfl,tv⟩ rfl) (fun k25 z h=>?_)
       ·obtain ⟨k23,a24⟩:=z;replace h:_=some _:=h;refine Tr.seq ?_;refine Tr.cutB (fun (x27:Bool)=>⟨look [(0,(l_ av1)),(3,.ptr (Γ.n0+3) 0),(4,.ptr (Γ.n0+4) 0),(5,.ptr (Γ.n0+5) 0),(6,(i_ i8)),(7,(i_ k23)),(47,(b_ x27))],Qo Γ.n0 (bxs [(3,.cells ((Qci g2))),(4,.cells ([(o_ c9),(i_ 0),(o_ c10),(Qg c11)])),(5,.cells ([(l_ x7.zK),(i_ a12),(o_ a22),(Qg a24)]))]) M,Γ.n0+79⟩) h (fun z h=>?_) (fun z h=>?_)
        ·refine Tr.rgn (md rfl (md rfl (Rn.lenD tv rfl (bN rfl (md rfl ?_)))));refine Qb4 (decide (k23<(av1.length:Int))) (fun hb26=>?_) (fun hb26=>?_)
         ·replace h:=ifT hb26 h;refine Rn.movD (gw rfl hb26) rfl (Rn.bin (gw rfl hb26) rfl rfl rfl (pT (b_ (decide (k23<5))) rfl hb26 rfl (Rn.nil ?_)));cases sj h;exact Qf [] ⟨sq,(kPtr rfl),(kPtr rfl),(kPtr rfl),sq,sq,sq,tv⟩ ⟨bS rfl rfl rfl,bS rfl rfl rfl,bS rfl rfl rfl,tv⟩ rfl
         ·replace h:=ifF hb26 h;refine sK rfl hb26 (sK rfl hb26 (pF (b_ false) rfl hb26 rfl (Rn.nil ?_)));replace h:=si h;subst h;exact Qf [] ⟨sq,(kPtr rfl),(kPtr rfl),(kPtr rfl),sq,sq,sq,tv⟩ ⟨bS rfl rfl rfl,bS rfl rfl rfl,bS rfl rfl rfl,tv⟩ rfl
        ·obtain ⟨x27,rfl⟩ : ∃ x,x=z:=⟨_,rfl⟩;refine Tr.cond rfl (fun hb28=>?_) (fun hb28=>?_)
         ·replace h:=bT hb28 h;refine Tr.skip (toN ?_);refine Tr.cutB (fun (a40:List Qc)=>⟨look [(0,(l_ av1)),(3,.ptr (Γ.n0+3) 0),(4,.ptr (Γ.n0+4) 0),(5,.ptr (Γ.n0+5) 0),(6,(i_ i8)),(7,(i_ k23))],Qo Γ.n0 (bxs [(3,.cells ((Qci g2))),(4,.cells ([(o_ c9),(i_ 0),(o_ c10),(Qg c11)])),(5,.cells ([(l_ x7.zK),(i_ a12),(o_ a22),(Qg a40)]))]) M,Γ.n0+79⟩) h (fun z h=>?_) (fun z h=>?_)
          ·refine Tr.block (Tr.seq ?_);refine Tr.rgnD (by decide) ?_;refine md rfl (md rfl (fP rfl ?_));obtain ⟨⟨⟩,h29,h⟩:=bnd h;refine Rn.idxArr (o':=2+(Int.toNat i8*5)) tv rfl rfl rfl h29 ?_;obtain ⟨⟨⟩,h30,h⟩:=bnd h;refine Rn.idxArr (o':=2+(Int.toNat i8*5+Int.toNat k23*1)) tv rfl rfl (Nat.add_assoc ..).symm h30 ?_;obtain ⟨x31,h32,h⟩:=bnd h;refine Rn.loadArr (e:=(fun (z:Int)=>.int .u8 z)) (pre:=[.d (.int .u8 g2.zN),.d (.int .u8 g2.Marks)]) (post:=[]) tv rfl rfl (Q5 rfl) rfl rfl h32 (Rn.conv tv rfl (fP rfl (lB (v:=(i_ a12)) rfl rfl rfl rfl (bN rfl ?_))));obtain ⟨s33,h34,h⟩:=bnd h;refine Rn.bin tv rfl rfl (Qbqc h34) (md rfl ?_);refine Rn.nil ⟨rfl,?_⟩;refine toN (sr (md rfl (fP rfl (lB (v:=(i_ a12)) rfl rfl rfl rfl (bN rfl (nO ?_))))));refine Tr.cond rfl (fun hb35=>?_) (fun hb35=>?_)
           ·replace h:=ifT hb35 h;refine Tr.rgnD (by decide) ?_;refine fP rfl (Rn.loadT (cs':=[(l_ x7.zK),(i_ a12),(o_ a22),(Qd a24)]) tv rfl rfl rfl rfl (md rfl (md rfl (md rfl ?_))));obtain ⟨x36,h37,h⟩:=bnd h;refine Rn.idxD (e:=(eI .i64)) tv rfl rfl h37 (Rn.loadC (x:=.int .i64 x36) tv rfl (md rfl (Rn.build (v:=.agg [(i_ i8),(i_ x36),(i_ s33)]) tv rfl (Rn.bslice (xs:=[.agg [(i_ i8),(i_ x36),(i_ s33)]]) (cs:=[(i_ i8),(i_ x36),(i_ s33)]) tv rfl rfl rfl rfl ?_))));obtain ⟨x38,h39,h⟩:=bnd h;refine Rn.app (e:=Qi) tv rfl rfl rfl (Qbz rfl rfl rfl) h39 rfl (fP rfl (Rn.storeO (cs':=[(l_ x7.zK),(i_ a12),(o_ a22),(Qg x38)]) tv rfl rfl rfl rfl rfl ?_));refine Rn.nil ⟨rfl,?_⟩;replace h:=si h;subst h;exact Qf [74] ⟨sq,(kPtr rfl),(kPtr rfl),(kPtr rfl),sq,sq,tv⟩ ⟨bS rfl rfl rfl,bS rfl rfl rfl,bS rfl rfl rfl,tv⟩ rfl
           ·replace h:=ifF hb35 h;refine Tr.skip ?_;replace h:=si h;subst h;exact Qf [] ⟨sq,(kPtr rfl),(kPtr rfl),(kPtr rfl),sq,sq,tv⟩ ⟨bS rfl rfl rfl,bS rfl rfl rfl,bS rfl rfl rfl,tv⟩ rfl
          ·obtain ⟨a40,rfl⟩ : ∃ x,x=z:=⟨_,rfl⟩;refine Tr.rgn (md rfl (bN rfl (md rfl (Rn.nil ?_))));exact ⟨_,h,(by exact Qk ⟨sq,(kPtr rfl),(kPtr rfl),(kPtr rfl),sq,sq,tv⟩ ⟨bS rfl rfl rfl,bS rfl rfl rfl,bS rfl rfl rfl,tv⟩ rfl)⟩
         ·replace h:=bF hb28 h;refine Tr.exit ?_;cases sj h;exact Qf [] ⟨sq,(kPtr rfl),(kPtr rfl),(kPtr rfl),sq,tv⟩ ⟨bS rfl rfl rfl,bS rfl rfl rfl,bS rfl rfl rfl,tv⟩ rfl
     ·obtain ⟨a41,a42⟩:=z;refine Tr.rgn (md rfl (bN rfl (md rfl (Rn.nil ?_))));exact ⟨_,h,(by exact Qk ⟨sq,(kPtr rfl),(kPtr rfl),(kPtr rfl),sq,tv⟩ ⟨bS rfl rfl rfl,bS rfl rfl rfl,bS rfl rfl rfl,tv⟩ rfl)⟩
    ·replace h:=ifF hb16 h;refine Tr.exit ?_;cases sj h;exact Qf [] ⟨(kPtr rfl),(kPtr rfl),tv⟩ ⟨bS rfl rfl rfl,bS rfl rfl rfl,bS rfl rfl rfl,tv⟩ rfl
  ·obtain ⟨c43,c44,c45,a46,a47,a48⟩:=z;refine sr (lB (v:=.agg [(l_ x7.zK),(i_ a46),(l_ a47),(Qd a48)]) rfl rfl rfl rfl ?_);obtain ⟨x50,h49,h⟩:=bnd h;refine Rn.call (args:=[.agg [(l_ x7.zK),(i_ a46),(l_ a47),(Qd a48)]]) tv rfl (Has _ _ h49) pc9 (Rn.storeT (v:=(Qh x50)) (ds:=(Qs x50)) (cs':=(Qs x50)) tv rfl rfl rfl rfl rfl rfl rfl (nt (Tr.ret ?_)));replace h:=si h;subst h;exact ⟨.inr rfl,(Qh x50),Qhi rfl rfl rfl rfl,fun _ _ _ _ h=>h,⟨tv,tv,tv,tv,tv⟩,mB⟩
theorem Q0n {P:Program} {c:Nat} {Q0:_} {Qcq:_}
    (Hao:Qen P 33 Q0)
    (Han:Qi6 P 36 Qcq) (hcf:Qy P c=some Qi9) (fuel:Nat):Qi8 P c (Qcr Q0 Qcq fuel):=by
 intro k1 r h;refine Qec hcf rfl fun Γ M hP hnt hM=>?_;subst hP;refine Tr.init [(0,(Qco k1))] rfl ?_;unfold Qcr at h;unfold Qi9;refine sr (Rn.box (v:=(Qco k1)) (cs:=(Qc7 k1)) tv rfl rfl rfl rfl rfl (Rn.alloc tv rfl (nt (Tr.seq ?_))));refine Tr.rgnD (by decide) ?_;refine fP rfl (fP rfl (lB (v:=.d (.int .u8 k1.Part.Events)) rfl rfl rfl rfl ?_));obtain ⟨x3,h2,h⟩:=bnd h;refine Rn.call (args:=[.d (.int .u8 k1.Part.Events)]) tv rfl (Hao _ _ h2) (fun _=>Q6v hM rfl) (fP rfl (fP rfl (lB (v:=(Qet k1.Part.Graph)) rfl rfl rfl rfl ?_)));obtain ⟨x5,h4,h⟩:=bnd h;refine Rn.call (args:=[(l_ x3),(Qet k1.Part.Graph)]) tv rfl (Han _ _ _ h4) (fun _=>Q6v hM rfl) (fP rfl (lB (v:=.d (.int .u8 k1.zB)) rfl rfl rfl rfl (bN rfl ?_)));obtain ⟨x7,h6,h⟩:=bnd h;refine Rn.call (args:=[.d (.int .u8 (andI .u8 k1.zB 15))]) tv rfl (Hao _ _ h6) (fun _=>Q6v hM rfl) (fP rfl (lB (v:=.d (.int .u8 k1.zD)) rfl rfl rfl rfl (bN rfl ?_)));obtain ⟨x9,h8,h⟩:=bnd h;refine Rn.call (args:=[.d (.int .u8 (andI .u8 k1.zD 15))]) tv rfl (Hao _ _ h8) (fun _=>Q6v hM rfl) (Rn.buildT (v:=.agg [(l_ x5.zK),(i_ x5.zN),(l_ x5.zL),(Qd x5.zM),.nils 1,(o_ x7),(l_ x9),(i_ 4)]) tv rfl (Rn.alloc tv rfl (Rn.storeT (v:=.agg [(l_ x5.zK),(i_ x5.zN),(l_ x5.zL),(Qd x5.zM),.nils 1,(o_ x7),(l_ x9),(i_ 4)]) (ds:=[(l_ x5.zK),(i_ x5.zN),(l_ x5.zL),(Qd x5.zM),.nils 1,(o_ x7),(l_ x9),(i_ 4)]) (cs':=[(l_ x5.zK),(i_ x5.zN),(l_ x5.zL),(Qd x5.zM),.nils 1,(o_ x7),(l_ x9),(i_ 4)]) tv rfl rfl rfl rfl rfl rfl rfl ?_)));refine Rn.nil ⟨rfl,?_⟩;refine toN ?_;refine Tr.cutB (fun ((c26,c27,c28,c29,c30,c31,p32):(List Int)×(List Int)×(List Qc)×(List Int)×(List Int)×(List Int)×(List Int))=>⟨look [(2,.ptr (Γ.n0+2) 0),(3,.ptr (Γ.n0+3) 0)],Qo Γ.n0 (bxs [(1,.cells ((Qc7 k1))),(2,.cells ([(o_ c26),(i_ 0),(o_ c27),(Qg c28),(o_ c29),(o_ c30),(o_ c31),(i_ 0)])),(3,.cells ([(l_ x5.zK),(i_ x5.zN),(l_ x5.zL),(Qd x5.zM),(o_ p32),(o_ x7),(l_ x9),(i_ 4)]))]) M,Γ.n0+42⟩) h (fun z h=>?_) (fun z h=>?_)
 ·refine sr (md rfl (nt (Tr.block ?_)));refine Tr.loop (mk:=fun ((i10,c11,c12,c13,c14,c15,c16,p17):Int×(List Int)×(List Int)×(List Qc)×(List Int)×(List Int)×(List Int)×(List Int))=>⟨look [(1,.ptr (Γ.n0+1) 0),(2,.ptr (Γ.n0+2) 0),(3,.ptr (Γ.n0+3) 0),(4,(i_ i10))],Qo Γ.n0 (bxs [(1,.cells ((Qc7 k1))),(2,.cells ([(o_ c11),(i_ 0),(o_ c12),(Qg c13),(o_ c14),(o_ c15),(o_ c16),(i_ 0)])),(3,.cells ([(l_ x5.zK),(i_ x5.zN),(l_ x5.zL),(Qd x5.zM),(o_ p17),(o_ x7),(l_ x9),(i_ 4)]))]) M,Γ.n0+42⟩) h (by exact Qk ⟨(kPtr rfl),(kPtr rfl),(kPtr rfl),sq,tv⟩ ⟨bS rfl rfl rfl,⟨_,rfl,rfl,(.cons (WkV.nilsO _) (cS rfl (.cons (WkV.nilsO _) (.cons (WkV.nilsO _) (.cons (WkV.nilsO _) (.cons (WkV.nilsO _) (.cons (WkV.nilsO _) (cS rfl .nil))))))))⟩,⟨_,rfl,rfl,(cS rfl (cS rfl (cS rfl (cS rfl (.cons (WkV.nilsO _) (cS rfl (cS rfl (cS rfl .nil))))))))⟩,tv⟩ rfl) (fun k18 z h=>?_)
  ·obtain ⟨i10,c11,c12,c13,c14,c15,c16,p17⟩:=z;replace h:_=some _:=h;refine Tr.seq (sr (md rfl (fP rfl (fP rfl (lB (v:=(i_ x5.zN)) rfl rfl rfl rfl (bN rfl (nO ?_)))))));refine Tr.cond rfl (fun hb19=>?_) (fun hb19=>?_)
   ·replace h:=ifT hb19 h;refine Tr.skip (toN ?_);refine Tr.cutB (fun (p25:List Int)=>⟨look [(1,.ptr (Γ.n0+1) 0),(2,.ptr (Γ.n0+2) 0),(3,.ptr (Γ.n0+3) 0),(4,(i_ i10))],Qo Γ.n0 (bxs [(1,.cells ((Qc7 k1))),(2,.cells ([(o_ c11),(i_ 0),(o_ c12),(Qg c13),(o_ c14),(o_ c15),(o_ c16),(i_ 0)])),(3,.cells ([(l_ x5.zK),(i_ x5.zN),(l_ x5.zL),(Qd x5.zM),(o_ p25),(o_ x7),(l_ x9),(i_ 4)]))]) M,Γ.n0+42⟩) h (fun z h=>?_) (fun z h=>?_)
    ·refine Tr.block (sr (fP rfl (lB (v:=.d (.int .u8 k1.zC)) rfl rfl rfl rfl (md rfl ?_))));obtain ⟨s20,h21,h⟩:=bnd h;refine Rn.bin tv rfl rfl (Qbil h21) (bN rfl (bN rfl (nO ?_)));refine Tr.cond rfl (fun hb22=>?_) (fun hb22=>?_)
     ·replace h:=bT hb22 h;refine Tr.rgn (fP rfl (Rn.loadT (cs':=[(l_ x5.zK),(i_ x5.zN),(l_ x5.zL),(Qd x5.zM),(l_ p17),(o_ x7),(l_ x9),(i_ 4)]) tv rfl rfl rfl rfl (md rfl (Rn.bslice (xs:=[(i_ i10)]) (cs:=[(i_ i10)]) tv rfl rfl rfl rfl ?_))));obtain ⟨x23,h24,h⟩:=bnd h;refine Rn.app (e:=(eI .i64)) tv rfl rfl rfl (Qbz rfl rfl rfl) h24 rfl (fP rfl (Rn.storeO (cs':=[(l_ x5.zK),(i_ x5.zN),(l_ x5.zL),(Qd x5.zM),(o_ x23),(o_ x7),(l_ x9),(i_ 4)]) tv rfl rfl rfl rfl rfl (Rn.nil ?_)));replace h:=si h;subst h;exact Qf [38] ⟨(kPtr rfl),(kPtr rfl),(kPtr rfl),sq,tv⟩ ⟨bS rfl rfl rfl,bS rfl rfl rfl,bS rfl rfl rfl,tv⟩ rfl
     ·replace h:=bF hb22 h;refine Tr.skip ?_;replace h:=si h;subst h;exact Qf [] ⟨(kPtr rfl),(kPtr rfl),(kPtr rfl),sq,tv⟩ ⟨bS rfl rfl rfl,bS rfl rfl rfl,bS rfl rfl rfl,tv⟩ rfl
    ·obtain ⟨p25,rfl⟩ : ∃ x,x=z:=⟨_,rfl⟩;refine Tr.rgn (md rfl (bN rfl (md rfl (Rn.nil ?_))));exact ⟨_,h,(by exact Qk ⟨(kPtr rfl),(kPtr rfl),(kPtr rfl),sq,tv⟩ ⟨bS rfl rfl rfl,bS rfl rfl rfl,bS rfl rfl rfl,tv⟩ rfl)⟩
   ·replace h:=ifF hb19 h;refine Tr.exit ?_;cases sj h;exact Qf [] ⟨(kPtr rfl),(kPtr rfl),tv⟩ ⟨bS rfl rfl rfl,bS rfl rfl rfl,bS rfl rfl rfl,tv⟩ rfl
 ·obtain ⟨c26,c27,c28,c29,c30,c31,p32⟩:=z;refine sr (lB (v:=.agg [(l_ x5.zK),(i_ x5.zN),(l_ x5.zL),(Qd x5.zM),(l_ p32),(l_ x7),(l_ x9),(i_ 4)]) rfl rfl rfl rfl (Rn.storeT (v:=.agg [(l_ x5.zK),(i_ x5.zN),(l_ x5.zL),(Qd x5.zM),(l_ p32),(l_ x7),(l_ x9),(i_ 4)]) (ds:=[(l_ x5.zK),(i_ x5.zN),(l_ x5.zL),(Qd x5.zM),(l_ p32),(l_ x7),(l_ x9),(i_ 4)]) (cs':=[(l_ x5.zK),(i_ x5.zN),(l_ x5.zL),(Qd x5.zM),(l_ p32),(l_ x7),(l_ x9),(i_ 4)]) tv rfl rfl rfl rfl rfl rfl rfl (nt (Tr.ret ?_))));cases sj h;exact ⟨.inr rfl,(.agg [(l_ x5.zK),(i_ x5.zN),(l_ x5.zL),(Qd x5.zM),(l_ p32),(l_ x7),(l_ x9),(i_ 4)]),Qhi rfl rfl rfl rfl,fun _ _ _ _ h=>h,⟨tv,tv,tv,tv,tv,tv,tv,tv,tv⟩,mB⟩
theorem Q74 {P:Program} {c:Nat} (hcf:Qy P c=some Qrn) (fuel:Nat):Qj2 P c (Qb3 fuel):=by
 intro a1 b2 kv3 g4 cp5 r h;intro M nb hc6 ho8 hf7;refine Qn3 hcf rfl M nb fun Γ hP hnt hn0 hM=>?_;subst hP hn0;refine Tr.init [(0,(l_ a1)),(1,(l_ b2)),(2,.clo g4 cp5)] rfl ?_;unfold Qb3 at h;unfold Qrn;refine sr (Rn.movTC (v:=.nils 1) tv (nt (sr (Rn.movTC (v:=.nils 1) tv (nO ?_)))));refine Tr.cutB (fun (ov51:List Int)=>⟨look [(7,(o_ ov51))],Qo Γ.n0 (bxs []) M,Γ.n0+74⟩) h (fun z h=>?_) (fun z h=>?_)
 ·refine Tr.block ?_;refine Tr.loop (mk:=fun ((a11,b12,ov13):(List Int)×(List Int)×(List Int))=>⟨look [(0,(l_ a11)),(1,(l_ b12)),(2,.clo g4 cp5),(7,(o_ ov13))],Qo Γ.n0 (bxs []) M,Γ.n0+74⟩) h (by exact Qk ⟨sq,sq,(kFun hM ho8),(WkV.nilsO _),tv⟩ tv rfl) (fun k14 z h=>?_)
  ·obtain ⟨a11,b12,ov13⟩:=z;replace h:_=some _:=h;refine Tr.seq ?_;refine Tr.cutB (fun (x16:Bool)=>⟨look [(0,(l_ a11)),(1,(l_ b12)),(2,.clo g4 cp5),(7,(o_ ov13)),(18,(b_ x16))],Qo Γ.n0 (bxs []) M,Γ.n0+74⟩) h (fun z h=>?_) (fun z h=>?_)
   ·refine Tr.rgn (md rfl (Rn.lenD tv rfl (bN rfl (md rfl ?_))));refine Qb4 (decide ((a11.length:Int)>0)) (fun hb15=>?_) (fun hb15=>?_)
    ·replace h:=ifT hb15 h;refine sK rfl hb15 (sK rfl hb15 (sK rfl hb15 (pT (b_ true) rfl hb15 rfl (Rn.nil ?_))));replace h:=si h;subst h;exact Qf [] ⟨sq,sq,(kFun hM ho8),sq,sq,tv⟩ tv rfl
    ·replace h:=ifF hb15 h;refine Rn.movD (gw rfl hb15) rfl (Rn.lenD (gw rfl hb15) rfl (Rn.bin (gw rfl hb15) rfl rfl rfl (pF (b_ (decide ((b12.length:Int)>0))) rfl hb15 rfl (Rn.nil ?_))));cases sj h;exact Qf [] ⟨sq,sq,(kFun hM ho8),sq,sq,tv⟩ tv rfl
   ·obtain ⟨x16,rfl⟩ : ∃ x,x=z:=⟨_,rfl⟩;refine Tr.cond rfl (fun hb17=>?_) (fun hb17=>?_)
    ·replace h:=bT hb17 h;refine Tr.skip (toN (Tr.block ?_));refine Tr.cutB (fun (iv24:Bool)=>⟨look [(0,(l_ a11)),(1,(l_ b12)),(2,.clo g4 cp5),(7,(o_ ov13)),(8,(b_ iv24))],Qo Γ.n0 (bxs []) M,Γ.n0+74⟩) h (fun z h=>?_) (fun z h=>?_)
     ·refine Tr.rgnD (by decide) ?_;refine md rfl (Rn.lenD tv rfl (bN rfl (md rfl ?_)));refine Qb4 (decide ((a11.length:Int)>0)) (fun hb18=>?_) (fun hb18=>?_)
      ·replace h:=ifT hb18 h;refine Rn.movD (gw rfl hb18) rfl (Rn.lenD (gw rfl hb18) rfl (Rn.bin (gw rfl hb18) rfl rfl rfl (Rn.movD (gw rfl hb18) rfl ?_)));refine Qb4 ((b12.length:Int)==0) (fun hb19=>?_) (fun hb19=>?_)
       ·replace h:=bT hb19 h;refine sK rfl hb19 (sK rfl hb19 (sK rfl hb19 (sK rfl hb19 (sK rfl hb19 (sK rfl hb19 (sK rfl hb19 (Rn.pickT (v:=(b_ true)) (gw rfl hb18) rfl hb19 rfl (pT (b_ true) rfl hb18 rfl (md rfl ?_)))))))));refine Rn.nil ⟨rfl,?_⟩;replace h:=si h;subst h;exact Qf [] ⟨sq,sq,(kFun hM ho8),sq,sq,tv⟩ tv rfl
       ·replace h:=bF hb19 h;refine Rn.movD (gw rfl hb19) rfl ?_;obtain ⟨x20,h21,h⟩:=bnd h;refine Rn.idxD (e:=(eI .i64)) (gw rfl hb19) rfl rfl h21 (Rn.loadC (x:=.int .i64 x20) (gw rfl hb19) rfl (Rn.movD (gw rfl hb19) rfl ?_));obtain ⟨x22,h23,h⟩:=bnd h;refine Rn.idxD (e:=(eI .i64)) (gw rfl hb19) rfl rfl h23 (Rn.loadC (x:=.int .i64 x22) (gw rfl hb19) rfl (Rn.bin (gw rfl hb19) rfl rfl rfl (Rn.pickF (v:=(b_ (decide (x20≤x22)))) (gw rfl hb18) rfl hb19 rfl (pT (b_ (decide (x20≤x22))) rfl hb18 rfl (md rfl ?_)))));refine Rn.nil ⟨rfl,?_⟩;cases sj h;exact Qf [] ⟨sq,sq,(kFun hM ho8),sq,sq,tv⟩ tv rfl
      ·replace h:=ifF hb18 h;refine sK rfl hb18 (sK rfl hb18 (sK rfl hb18 (sK rfl hb18 (Rn.sk (nu rfl) (Rn.sk (nu rfl) (Rn.sk (nu rfl) (Rn.sk (nu rfl) (Rn.sk (nu rfl) (Rn.sk (nu rfl) (Rn.sk (nu rfl) (sK rfl hb18 (pF (b_ false) rfl hb18 rfl (md rfl ?_)))))))))))));refine Rn.nil ⟨rfl,?_⟩;replace h:=si h;subst h;exact Qf [] ⟨sq,sq,(kFun hM ho8),sq,sq,tv⟩ tv rfl
     ·obtain ⟨iv24,rfl⟩ : ∃ x,x=z:=⟨_,rfl⟩;refine Tr.cutB (fun (iv31:Bool)=>⟨look [(0,(l_ a11)),(1,(l_ b12)),(2,.clo g4 cp5),(7,(o_ ov13)),(8,(b_ iv24)),(9,(b_ iv31))],Qo Γ.n0 (bxs []) M,Γ.n0+74⟩) h (fun z h=>?_) (fun z h=>?_)
      ·refine Tr.rgnD (by decide) ?_;refine md rfl (Rn.lenD tv rfl (bN rfl (md rfl ?_)));refine Qb4 (decide ((b12.length:Int)>0)) (fun hb25=>?_) (fun hb25=>?_)
       ·replace h:=ifT hb25 h;refine Rn.movD (gw rfl hb25) rfl (Rn.lenD (gw rfl hb25) rfl (Rn.bin (gw rfl hb25) rfl rfl rfl (Rn.movD (gw rfl hb25) rfl ?_)));refine Qb4 ((a11.length:Int)==0) (fun hb26=>?_) (fun hb26=>?_)
        ·replace h:=bT hb26 h;refine sK rfl hb26 (sK rfl hb26 (sK rfl hb26 (sK rfl hb26 (sK rfl hb26 (sK rfl hb26 (sK rfl hb26 (Rn.pickT (v:=(b_ true)) (gw rfl hb25) rfl hb26 rfl (pT (b_ true) rfl hb25 rfl (md rfl ?_)))))))));refine Rn.nil ⟨rfl,?_⟩;replace h:=si h;subst h;exact Qf [] ⟨sq,sq,(kFun hM ho8),sq,sq,sq,tv⟩ tv rfl
        ·replace h:=bF hb26 h;refine Rn.movD (gw rfl hb26) rfl ?_;obtain ⟨x27,h28,h⟩:=bnd h;refine Rn.idxD (e:=(eI .i64)) (gw rfl hb26) rfl rfl h28 (Rn.loadC (x:=.int .i64 x27) (gw rfl hb26) rfl (Rn.movD (gw rfl hb26) rfl ?_));obtain ⟨x29,h30,h⟩:=bnd h;refine Rn.idxD (e:=(eI .i64)) (gw rfl hb26) rfl rfl h30 (Rn.loadC (x:=.int .i64 x29) (gw rfl hb26) rfl (Rn.bin (gw rfl hb26) rfl rfl rfl (Rn.pickF (v:=(b_ (decide (x27≤x29)))) (gw rfl hb25) rfl hb26 rfl (pT (b_ (decide (x27≤x29))) rfl hb25 rfl (md rfl ?_)))));refine Rn.nil ⟨rfl,?_⟩;cases sj h;exact Qf [] ⟨sq,sq,(kFun hM ho8),sq,sq,sq,tv⟩ tv rfl
       ·replace h:=ifF hb25 h;refine sK rfl hb25 (sK rfl hb25 (sK rfl hb25 (sK rfl hb25 (Rn.sk (nu rfl) (Rn.sk (nu rfl) (Rn.sk (nu rfl) (Rn.sk (nu rfl) (Rn.sk (nu rfl) (Rn.sk (nu rfl) (Rn.sk (nu rfl) (sK rfl hb25 (pF (b_ false) rfl hb25 rfl (md rfl ?_)))))))))))));refine Rn.nil ⟨rfl,?_⟩;replace h:=si h;subst h;exact Qf [] ⟨sq,sq,(kFun hM ho8),sq,sq,sq,tv⟩ tv rfl
      ·obtain ⟨iv31,rfl⟩ : ∃ x,x=z:=⟨_,rfl⟩;refine sr (md rfl (nO ?_));refine Tr.cutB (fun ((a37,x38):(List Int)×Int)=>⟨look [(0,(l_ a37)),(1,(l_ b12)),(2,.clo g4 cp5),(7,(o_ ov13)),(8,(b_ iv24)),(9,(b_ iv31)),(10,(i_ x38))],Qo Γ.n0 (bxs []) M,Γ.n0+74⟩) h (fun z h=>?_) (fun z h=>?_)
       ·refine sr (md rfl (nO ?_));refine Tr.cond rfl (fun hb32=>?_) (fun hb32=>?_)
        ·replace h:=bT hb32 h;refine Tr.rgnD (by decide) ?_;refine md rfl ?_;obtain ⟨x33,h34,h⟩:=bnd h;refine Rn.idxD (e:=(eI .i64)) tv rfl rfl h34 (Rn.loadC (x:=.int .i64 x33) tv rfl (Rn.movTD tv rfl ?_));obtain ⟨x35,h36,h⟩:=bnd h;refine Rn.slcTD (e:=(eI .i64)) tv rfl rfl h36 (md rfl (Rn.movTD tv rfl ?_));refine Rn.nil ⟨rfl,?_⟩;cases sj h;exact Qf [] ⟨sq,sq,(kFun hM ho8),sq,sq,sq,sq,tv⟩ tv rfl
        ·replace h:=bF hb32 h;refine Tr.skip ?_;cases sj h;exact Qf [] ⟨sq,sq,(kFun hM ho8),sq,sq,sq,sq,tv⟩ tv rfl
       ·obtain ⟨a37,x38⟩:=z;refine Tr.cutB (fun ((b44,x45):(List Int)×Int)=>⟨look [(0,(l_ a37)),(1,(l_ b44)),(2,.clo g4 cp5),(7,(o_ ov13)),(8,(b_ iv24)),(9,(b_ iv31)),(10,(i_ x45))],Qo Γ.n0 (bxs []) M,Γ.n0+74⟩) h (fun z h=>?_) (fun z h=>?_)
        ·refine sr (md rfl (nO ?_));refine Tr.cond rfl (fun hb39=>?_) (fun hb39=>?_)
         ·replace h:=bT hb39 h;refine Tr.rgnD (by decide) ?_;refine md rfl ?_;obtain ⟨x40,h41,h⟩:=bnd h;refine Rn.idxD (e:=(eI .i64)) tv rfl rfl h41 (Rn.loadC (x:=.int .i64 x40) tv rfl (Rn.movTD tv rfl ?_));obtain ⟨x42,h43,h⟩:=bnd h;refine Rn.slcTD (e:=(eI .i64)) tv rfl rfl h43 (md rfl (Rn.movTD tv rfl ?_));refine Rn.nil ⟨rfl,?_⟩;cases sj h;exact Qf [] ⟨sq,sq,(kFun hM ho8),sq,sq,sq,sq,tv⟩ tv rfl
         ·replace h:=bF hb39 h;refine Tr.skip ?_;cases sj h;exact Qf [] ⟨sq,sq,(kFun hM ho8),sq,sq,sq,sq,tv⟩ tv rfl
        ·obtain ⟨b44,x45⟩:=z;refine sr (mv (.clo g4 cp5) rfl (md rfl (md rfl ?_)));obtain ⟨x47,h46,h⟩:=bnd h;refine Rn.callvM (args:=[(b_ iv24),(b_ iv31)]++cp5) tv rfl (by rw [hc6];rfl) (fun M2 nb2 hn hx=>hf7 _ _ _ h46 M2 nb2 (by omega) ((Qben hM).trans hx)) rfl pc9 ?_;refine nO ?_;refine Tr.cond rfl (fun hb48=>?_) (fun hb48=>?_)
         ·replace h:=bT hb48 h;refine Tr.rgn (Rn.movTO tv rfl (md rfl (Rn.bslice (xs:=[(i_ x45)]) (cs:=[(i_ x45)]) tv rfl rfl rfl rfl ?_)));obtain ⟨x49,h50,h⟩:=bnd h;refine Rn.app (e:=(eI .i64)) tv rfl rfl rfl (Qbz rfl rfl rfl) h50 rfl (Rn.movTO tv rfl (Rn.nil ?_));exact ⟨_,h,(by exact Qk ⟨sq,sq,(kFun hM ho8),sq,tv⟩ tv rfl)⟩
         ·replace h:=bF hb48 h;refine Tr.skip ?_;exact ⟨_,h,(by exact Qk ⟨sq,sq,(kFun hM ho8),sq,tv⟩ tv rfl)⟩
    ·replace h:=bF hb17 h;refine Tr.exit ?_;replace h:=si h;subst h;exact Qf [] ⟨sq,tv⟩ tv rfl
 ·obtain ⟨ov51,rfl⟩ : ∃ x,x=z:=⟨_,rfl⟩;refine sr (Rn.movTO tv rfl (Rn.movTO tv rfl (nt (Tr.ret ?_))));replace h:=si h;subst h;exact ⟨.inr rfl,(o_ ov51),rfl,fun _ _ _ _ h=>h,tv,mB⟩
theorem Q37 {P:Program} {c:Nat} (hcf:Qy P c=some Ql3):Ql2 P c (Qdt):=by
 intro iv1 iv2 r h;refine Qec hcf rfl fun Γ M hP hnt hM=>?_;subst hP;refine Tr.init [(0,(b_ iv1)),(1,(b_ iv2))] rfl ?_;unfold Qdt at h;unfold Ql3;refine sr (md rfl (nt (sr (md rfl (md rfl ?_)))));refine Qb4 iv1 (fun hb3=>?_) (fun hb3=>?_)
 ·replace h:=bT hb3 h;refine sK rfl hb3 (pT (b_ true) rfl hb3 rfl (md rfl (nt (Tr.ret ?_))));replace h:=si h;subst h;exact ⟨.inr rfl,(b_ true),rfl,fun _ _ _ _ h=>h,tv,mB⟩
 ·replace h:=bF hb3 h;refine Rn.movD (gw rfl hb3) rfl (pF (b_ iv2) rfl hb3 rfl (md rfl (nt (Tr.ret ?_))));replace h:=si h;subst h;exact ⟨.inr rfl,(b_ iv2),rfl,fun _ _ _ _ h=>h,tv,mB⟩
theorem Q75 {P:Program} {c:Nat} {Qb3:_} {Qdt:_}
    (Hah:Qj2 P 66 Qb3)
    (Hag:Ql2 P 67 Qdt) (hcf:Qy P c=some Qrp):Qro P c (Qdj Qb3 Qdt):=by
 intro a1 b2 r h;refine Qec hcf rfl fun Γ M hP hnt hM=>?_;subst hP;refine Tr.init [(0,(l_ a1)),(1,(l_ b2))] rfl ?_;unfold Qdj at h;unfold Qrp;refine sr (Rn.movTC (v:=.nils 1) tv (nt (sr (md rfl (md rfl ?_)))));obtain ⟨x8,h7,h⟩:=bnd h;refine Rn.callM (args:=[(l_ a1),(l_ b2),.clo 67 []]) tv rfl (fun M2 nb2 hn hx=>Hah _ _ _ 67 [] _ h7 M2 nb2 rfl tv (fun a3 a4 r5 h6 M3 nb3 hn3 hx3=>Hag a3 a4 r5 h6 M3 nb3 )) rfl pc9 ?_;refine Rn.movTO tv rfl (nt (Tr.ret ?_));replace h:=si h;subst h;exact ⟨.inr rfl,(o_ x8),rfl,fun _ _ _ _ h=>h,tv,mB⟩
theorem Q6h {P:Program} {c:Nat} {Qba:_} {Qb0:_}
    (Haa:Qhj P 31 Qba)
    (Hai:Qiw P 64 Qb0) (hcf:Qy P c=some Qog):Qof P c (Qdn Qba Qb0):=by
 intro a1 fv2 uv3 r h;refine Qec hcf rfl fun Γ M hP hnt hM=>?_;subst hP;refine Tr.init [(0,(Qh a1)),(1,(l_ fv2)),(2,(l_ uv3))] rfl ?_;unfold Qdn at h;unfold Qog;refine sr (Rn.box (v:=(Qh a1)) (cs:=(Qs a1)) tv rfl rfl rfl rfl rfl (md rfl (nt (Tr.seq (sr (lB (v:=(Qh a1)) rfl rfl rfl rfl ?_))))));obtain ⟨x5,h4,h⟩:=bnd h;refine Rn.call (args:=[(Qh a1)]) tv rfl (Hai _ _ h4) pc9 (md rfl (nt (sr (md rfl (bN rfl (nO ?_))))));refine Tr.cond rfl (fun hb6=>?_) (fun hb6=>?_)
 ·replace h:=bT hb6 h;refine sr (md rfl (md rfl (nt (Tr.ret ?_))));replace h:=si h;subst h;exact ⟨.inr rfl,(i_ x5),rfl,fun _ _ _ _ h=>h,tv,mB⟩
 ·replace h:=bF hb6 h;refine Tr.skip (toN (Tr.seq (sr (md rfl (fP rfl (lB (v:=(i_ a1.zN)) rfl rfl rfl rfl ?_))))));obtain ⟨x8,h7,h⟩:=bnd h;refine Rn.call (args:=[(l_ fv2),(i_ a1.zN)]) tv rfl (Haa _ _ _ h7) pc9 (md rfl (nt (sr (md rfl (bN rfl (nO ?_))))));refine Tr.cond rfl (fun hb9=>?_) (fun hb9=>?_)
  ·replace h:=bT hb9 h;refine sr (md rfl (md rfl (nt (Tr.ret ?_))));replace h:=si h;subst h;exact ⟨.inr rfl,(i_ x8),rfl,fun _ _ _ _ h=>h,tv,mB⟩
  ·replace h:=bF hb9 h;refine Tr.skip (toN (sr (md rfl ?_)));obtain ⟨x11,h10,h⟩:=bnd h;refine Rn.call (args:=[(l_ uv3),(i_ 32)]) tv rfl (Haa _ _ _ h10) pc9 (md rfl (nt (Tr.ret ?_)));replace h:=si h;subst h;exact ⟨.inr rfl,(i_ x11),rfl,fun _ _ _ _ h=>h,tv,mB⟩
theorem Q6i {P:Program} {c:Nat} (hcf:Qy P c=some Qoi) (fuel:Nat):Qoh P c (Qdo fuel):=by
 intro a1 rv2 uv3 r h M nb;refine Qbpl hcf rfl M nb fun Γ hP hnt hn0 hM=>?_;subst hP hn0;refine Tr.init [(0,.agg [(f_ a1.zK),(i_ a1.zN),(f_ a1.zL),.f (.lst 3 (List.map Qi a1.zM))]),(1,(f_ rv2)),(2,(f_ uv3))] rfl ?_;unfold Qdo at h;unfold Qoi;refine sr (Rn.box (v:=.agg [(f_ a1.zK),(i_ a1.zN),(f_ a1.zL),.f (.lst 3 (List.map Qi a1.zM))]) (cs:=[(f_ a1.zK),(i_ a1.zN),(f_ a1.zL),.f (.lst 3 (List.map Qi a1.zM))]) tv rfl rfl rfl rfl rfl (mv .nilp rfl (nt (Tr.seq ?_))));refine Tr.rgnD (by decide) ?_;refine lB (v:=.agg [(f_ a1.zK),(i_ a1.zN),(f_ a1.zL),.f (.lst 3 (List.map Qi a1.zM))]) rfl rfl rfl rfl (mv (f_ uv3) rfl (Rn.mkmap tv rfl (fun (x:Int)=>((i_ x):V)) (ownE 1 (eI .i64)) (fP rfl (lB (v:=(i_ a1.zN)) rfl rfl rfl rfl ?_))));obtain ⟨x4,h5,h⟩:=bnd h;refine Rn.makes (g:=(fun (x:Bool)=>[V.d (.bool x)])) tv rfl rfl rfl rfl rfl h5 (Rn.buildT (v:=.agg [(f_ a1.zK),(i_ a1.zN),(f_ a1.zL),.f (.lst 3 (List.map Qi a1.zM)),(f_ uv3),.mp (Γ.n0+15),.sl 1 (Γ.n0+18) 0 (Int.toNat a1.zN) (Int.toNat a1.zN)]) tv rfl (Rn.box (v:=.agg [(f_ a1.zK),(i_ a1.zN),(f_ a1.zL),.f (.lst 3 (List.map Qi a1.zM)),(f_ uv3),.mp (Γ.n0+15),.sl 1 (Γ.n0+18) 0 (Int.toNat a1.zN) (Int.toNat a1.zN)]) (cs:=[(f_ a1.zK),(i_ a1.zN),(f_ a1.zL),.f (.lst 3 (List.map Qi a1.zM)),(f_ uv3),.mp (Γ.n0+15),.sl 1 (Γ.n0+18) 0 (Int.toNat a1.zN) (Int.toNat a1.zN)]) tv rfl rfl rfl rfl rfl (mv (.ptr (Γ.n0+20) 0) rfl ?_)));refine Rn.nil ⟨rfl,?_⟩;refine toN ?_;refine Tr.cutB (fun (c14:List Bool)=>⟨look [(1,(l_ rv2)),(3,.ptr (Γ.n0+3) 0),(7,.ptr (Γ.n0+20) 0)],Qo Γ.n0 (bxs [(3,.cells ([(f_ a1.zK),(i_ a1.zN),(f_ a1.zL),.f (.lst 3 (List.map Qi a1.zM))])),(15,.mp (mapE (fun (x:Int)=>((i_ x):V)) (ownE 1 (eI .i64)) 0 []) (([]:List (Int×(List Int)))).length),(18,.cells (Q3 (fun (x:Bool)=>[V.d (.bool x)]) c14)),(20,.cells ([(f_ a1.zK),(i_ a1.zN),(f_ a1.zL),.f (.lst 3 (List.map Qi a1.zM)),(f_ uv3),.mp (Γ.n0+15),.sl 1 (Γ.n0+18) 0 (Int.toNat a1.zN) (Int.toNat a1.zN)]))]) M,Γ.n0+75⟩) h (fun z h=>?_) (fun z h=>?_)
 ·refine sr (mv (.ptr (Γ.n0+20) 0) rfl (Rn.nilchkP tv rfl (fP rfl (lB (v:=.sl 1 (Γ.n0+18) 0 (Int.toNat a1.zN) (Int.toNat a1.zN)) rfl rfl rfl rfl (Rn.lenA tv rfl (md rfl (nt (Tr.block ?_))))))));refine Tr.weak (by show WeakSt Γ _ ⟨look [(0,.agg [(f_ a1.zK),(i_ a1.zN),(f_ a1.zL),.f (.lst 3 (List.map Qi a1.zM))]),(1,(l_ rv2)),(2,(f_ uv3)),(3,.ptr (Γ.n0+3) 0),(6,.nilp),(7,.ptr (Γ.n0+20) 0),(13,.agg [(f_ a1.zK),(i_ a1.zN),(f_ a1.zL),.f (.lst 3 (List.map Qi a1.zM))]),(14,(f_ uv3)),(15,.mp (Γ.n0+15)),(16,.ptr (Γ.n0+3) 1),(17,(i_ a1.zN)),(18,.sl 1 (Γ.n0+18) 0 (Int.toNat a1.zN) (Int.toNat a1.zN)),(19,.agg [(f_ a1.zK),(i_ a1.zN),(f_ a1.zL),.f (.lst 3 (List.map Qi a1.zM)),(f_ uv3),.mp (Γ.n0+15),.sl 1 (Γ.n0+18) 0 (Int.toNat a1.zN) (Int.toNat a1.zN)]),(20,.ptr (Γ.n0+20) 0),(21,.ptr (Γ.n0+20) 0),(22,.ptr (Γ.n0+20) 0),(23,.ptr (Γ.n0+20) 6),(24,.sl 1 (Γ.n0+18) 0 (Int.toNat a1.zN) (Int.toNat a1.zN)),(25,(i_ ((Int.toNat a1.zN):Int))),(26,(i_ 0))],Qo Γ.n0 (bxs [(3,.cells ([(f_ a1.zK),(i_ a1.zN),(f_ a1.zL),.f (.lst 3 (List.map Qi a1.zM))])),(15,.mp (mapE (fun (x:Int)=>((i_ x):V)) (ownE 1 (eI .i64)) 0 []) (([]:List (Int×(List Int)))).length),(18,.cells (Q3 (fun (x:Bool)=>[V.d (.bool x)]) x4)),(20,.cells ([(f_ a1.zK),(i_ a1.zN),(f_ a1.zL),.f (.lst 3 (List.map Qi a1.zM)),(f_ uv3),.mp (Γ.n0+15),.sl 1 (Γ.n0+18) 0 (Int.toNat a1.zN) (Int.toNat a1.zN)]))]) M,Γ.n0+75⟩;exact Qf [] ⟨sq,fToD,sq,(kPtr rfl),sq,(kPtr rfl),sq,sq,(kMp rfl),(kPtr rfl),sq,(kSl rfl),(WkV.agg (cS rfl (cS rfl (cS rfl (cS rfl (cS rfl (.cons (kMp rfl) (.cons (kSl rfl) .nil)))))))),(kPtr rfl),(kPtr rfl),(kPtr rfl),(kPtr rfl),(kSl rfl),sq,sq,tv⟩ ⟨bS rfl rfl rfl,⟨rfl,rfl⟩,bM rfl rfl fun _=>rfl,⟨_,rfl,rfl,(cS rfl (cS rfl (cS rfl (cS rfl (cS rfl (.cons (kMp rfl) (.cons (kSl rfl) .nil)))))))⟩,tv⟩ rfl) ?_;refine Tr.loop (mk:=fun ((x6,c7):Int×(List Bool))=>⟨look [(1,(l_ rv2)),(3,.ptr (Γ.n0+3) 0),(7,.ptr (Γ.n0+20) 0),(25,(i_ ((Int.toNat a1.zN):Int))),(26,(i_ x6))],Qo Γ.n0 (bxs [(3,.cells ([(f_ a1.zK),(i_ a1.zN),(f_ a1.zL),.f (.lst 3 (List.map Qi a1.zM))])),(15,.mp (mapE (fun (x:Int)=>((i_ x):V)) (ownE 1 (eI .i64)) 0 []) (([]:List (Int×(List Int)))).length),(18,.cells (Q3 (fun (x:Bool)=>[V.d (.bool x)]) c7)),(20,.cells ([(f_ a1.zK),(i_ a1.zN),(f_ a1.zL),.f (.lst 3 (List.map Qi a1.zM)),(f_ uv3),.mp (Γ.n0+15),.sl 1 (Γ.n0+18) 0 (Int.toNat a1.zN) (Int.toNat a1.zN)]))]) M,Γ.n0+75⟩) h (by exact Qk ⟨sq,(kPtr rfl),(kPtr rfl),sq,sq,tv⟩ ⟨bS rfl rfl rfl,⟨rfl,rfl⟩,bM rfl rfl fun _=>rfl,⟨_,rfl,rfl,(cS rfl (cS rfl (cS rfl (cS rfl (cS rfl (.cons (kMp rfl) (.cons (kSl rfl) .nil)))))))⟩,tv⟩ rfl) (fun k8 z h=>?_)
  ·obtain ⟨x6,c7⟩:=z;replace h:_=some _:=h;refine sr (bN rfl (nt (Tr.seq ?_)));refine Tr.cond rfl (fun hb9=>?_) (fun hb9=>?_)
   ·replace h:=ifT hb9 h;refine Tr.skip (toN (Tr.seq (Tr.block (sr (md rfl (md rfl (nt (Tr.rgn (mv (.ptr (Γ.n0+20) 0) rfl (Rn.nilchkP tv rfl (fP rfl (lB (v:=.sl 1 (Γ.n0+18) 0 (Int.toNat a1.zN) (Int.toNat a1.zN)) rfl rfl rfl rfl (md rfl ?_)))))))))))));obtain ⟨⟨⟩,h11,h⟩:=bnd h;refine Rn.idxA tv rfl rfl h11 ?_;obtain ⟨x12,h13,h⟩:=bnd h;refine Rn.storeA (g:=(fun (x:Bool)=>[V.d (.bool x)])) (v:=(b_ true)) (fun _=>rfl) tv rfl rfl rfl rfl rfl h13 (nt (Tr.rgn (bN rfl (md rfl (Rn.nil ?_)))));exact ⟨_,h,(by exact Qk ⟨sq,(kPtr rfl),(kPtr rfl),sq,sq,tv⟩ ⟨bS rfl rfl rfl,⟨rfl,rfl⟩,bM rfl rfl fun _=>rfl,⟨_,rfl,rfl,(cS rfl (cS rfl (cS rfl (cS rfl (cS rfl (.cons (kMp rfl) (.cons (kSl rfl) .nil)))))))⟩,tv⟩ rfl)⟩
   ·replace h:=ifF hb9 h;refine Tr.exit ?_;replace h:=si h;subst h;exact Qf [] ⟨sq,(kPtr rfl),(kPtr rfl),tv⟩ ⟨bS rfl rfl rfl,⟨rfl,rfl⟩,bM rfl rfl fun _=>rfl,⟨_,rfl,rfl,(cS rfl (cS rfl (cS rfl (cS rfl (cS rfl (.cons (kMp rfl) (.cons (kSl rfl) .nil)))))))⟩,tv⟩ rfl
 ·obtain ⟨c14,rfl⟩ : ∃ x,x=z:=⟨_,rfl⟩;refine Tr.cutB (fun (c25:List Bool)=>⟨look [(3,.ptr (Γ.n0+3) 0),(7,.ptr (Γ.n0+20) 0)],Qo Γ.n0 (bxs [(3,.cells ([(f_ a1.zK),(i_ a1.zN),(f_ a1.zL),.f (.lst 3 (List.map Qi a1.zM))])),(15,.mp (mapE (fun (x:Int)=>((i_ x):V)) (ownE 1 (eI .i64)) 0 []) (([]:List (Int×(List Int)))).length),(18,.cells (Q3 (fun (x:Bool)=>[V.d (.bool x)]) c25)),(20,.cells ([(f_ a1.zK),(i_ a1.zN),(f_ a1.zL),.f (.lst 3 (List.map Qi a1.zM)),(f_ uv3),.mp (Γ.n0+15),.sl 1 (Γ.n0+18) 0 (Int.toNat a1.zN) (Int.toNat a1.zN)]))]) M,Γ.n0+75⟩) h (fun z h=>?_) (fun z h=>?_)
  ·refine sr (md rfl (Rn.lenD tv rfl (md rfl (nt (Tr.block ?_)))));refine Tr.loop (mk:=fun ((x15,c16):Int×(List Bool))=>⟨look [(3,.ptr (Γ.n0+3) 0),(7,.ptr (Γ.n0+20) 0),(36,(l_ rv2)),(37,(i_ (rv2.length:Int))),(38,(i_ x15))],Qo Γ.n0 (bxs [(3,.cells ([(f_ a1.zK),(i_ a1.zN),(f_ a1.zL),.f (.lst 3 (List.map Qi a1.zM))])),(15,.mp (mapE (fun (x:Int)=>((i_ x):V)) (ownE 1 (eI .i64)) 0 []) (([]:List (Int×(List Int)))).length),(18,.cells (Q3 (fun (x:Bool)=>[V.d (.bool x)]) c16)),(20,.cells ([(f_ a1.zK),(i_ a1.zN),(f_ a1.zL),.f (.lst 3 (List.map Qi a1.zM)),(f_ uv3),.mp (Γ.n0+15),.sl 1 (Γ.n0+18) 0 (Int.toNat a1.zN) (Int.toNat a1.zN)]))]) M,Γ.n0+75⟩) h (by exact Qk ⟨(kPtr rfl),(kPtr rfl),sq,sq,sq,tv⟩ ⟨bS rfl rfl rfl,⟨rfl,rfl⟩,bM rfl rfl fun _=>rfl,⟨_,rfl,rfl,(cS rfl (cS rfl (cS rfl (cS rfl (cS rfl (.cons (kMp rfl) (.cons (kSl rfl) .nil)))))))⟩,tv⟩ rfl) (fun k17 z h=>?_)
   ·obtain ⟨x15,c16⟩:=z;replace h:_=some _:=h;refine sr (bN rfl (nt (Tr.seq ?_)));refine Tr.cond rfl (fun hb18=>?_) (fun hb18=>?_)
    ·replace h:=ifT hb18 h;refine Tr.skip (toN (Tr.seq (Tr.block (Tr.seq (Tr.rgn ?_)))));obtain ⟨x19,h20,h⟩:=bnd h;refine Rn.idxD (e:=(eI .i64)) tv rfl rfl h20 (Rn.loadC (x:=.int .i64 x19) tv rfl (md rfl (nt (Tr.rgn (mv (.ptr (Γ.n0+20) 0) rfl (Rn.nilchkP tv rfl (fP rfl (lB (v:=.sl 1 (Γ.n0+18) 0 (Int.toNat a1.zN) (Int.toNat a1.zN)) rfl rfl rfl rfl (md rfl ?_)))))))));obtain ⟨⟨⟩,h22,h⟩:=bnd h;refine Rn.idxA tv rfl rfl h22 ?_;obtain ⟨x23,h24,h⟩:=bnd h;refine Rn.storeA (g:=(fun (x:Bool)=>[V.d (.bool x)])) (v:=(b_ false)) (fun _=>rfl) tv rfl rfl rfl rfl rfl h24 (nt (Tr.rgn (bN rfl (md rfl (Rn.nil ?_)))));exact ⟨_,h,(by exact Qk ⟨(kPtr rfl),(kPtr rfl),sq,sq,sq,tv⟩ ⟨bS rfl rfl rfl,⟨rfl,rfl⟩,bM rfl rfl fun _=>rfl,⟨_,rfl,rfl,(cS rfl (cS rfl (cS rfl (cS rfl (cS rfl (.cons (kMp rfl) (.cons (kSl rfl) .nil)))))))⟩,tv⟩ rfl)⟩
    ·replace h:=ifF hb18 h;refine Tr.exit ?_;replace h:=si h;subst h;exact Qf [] ⟨(kPtr rfl),(kPtr rfl),tv⟩ ⟨bS rfl rfl rfl,⟨rfl,rfl⟩,bM rfl rfl fun _=>rfl,⟨_,rfl,rfl,(cS rfl (cS rfl (cS rfl (cS rfl (cS rfl (.cons (kMp rfl) (.cons (kSl rfl) .nil)))))))⟩,tv⟩ rfl
  ·obtain ⟨c25,rfl⟩ : ∃ x,x=z:=⟨_,rfl⟩;refine Tr.cutB (fun (c34:List (Int×(List Int)))=>⟨look [(7,.ptr (Γ.n0+20) 0)],Qo Γ.n0 (bxs [(3,.cells ([(f_ a1.zK),(i_ a1.zN),(f_ a1.zL),.f (.lst 3 (List.map Qi a1.zM))])),(15,.mp (mapE (fun (x:Int)=>((i_ x):V)) (ownE 1 (eI .i64)) 0 c34) (c34).length),(18,.cells (Q3 (fun (x:Bool)=>[V.d (.bool x)]) c25)),(20,.cells ([(f_ a1.zK),(i_ a1.zN),(f_ a1.zL),.f (.lst 3 (List.map Qi a1.zM)),(f_ uv3),.mp (Γ.n0+15),.sl 1 (Γ.n0+18) 0 (Int.toNat a1.zN) (Int.toNat a1.zN)]))]) M,Γ.n0+75⟩) h (fun z h=>?_) (fun z h=>?_)
   ·refine sr (fP rfl (lB (v:=.f (.lst 3 (List.map Qi a1.zM))) rfl rfl rfl rfl ?_));refine Rn.weak (by show WeakSt Γ _ ⟨look [(3,.ptr (Γ.n0+3) 0),(7,.ptr (Γ.n0+20) 0),(49,.ptr (Γ.n0+3) 3),(50,(Qd a1.zM))],Qo Γ.n0 (bxs [(3,.cells ([(f_ a1.zK),(i_ a1.zN),(f_ a1.zL),.f (.lst 3 (List.map Qi a1.zM))])),(15,.mp (mapE (fun (x:Int)=>((i_ x):V)) (ownE 1 (eI .i64)) 0 []) (([]:List (Int×(List Int)))).length),(18,.cells (Q3 (fun (x:Bool)=>[V.d (.bool x)]) c25)),(20,.cells ([(f_ a1.zK),(i_ a1.zN),(f_ a1.zL),.f (.lst 3 (List.map Qi a1.zM)),(f_ uv3),.mp (Γ.n0+15),.sl 1 (Γ.n0+18) 0 (Int.toNat a1.zN) (Int.toNat a1.zN)]))]) M,Γ.n0+75⟩;exact Qf [] ⟨(kPtr rfl),(kPtr rfl),(kPtr rfl),fToD,tv⟩ ⟨bS rfl rfl rfl,⟨rfl,rfl⟩,bM rfl rfl fun _=>rfl,⟨_,rfl,rfl,(cS rfl (cS rfl (cS rfl (cS rfl (cS rfl (.cons (kMp rfl) (.cons (kSl rfl) .nil)))))))⟩,tv⟩ rfl) ?_;refine Rn.lenD tv rfl (md rfl (nt (Tr.block ?_)));refine Tr.loop (mk:=fun ((x26,c27):Int×(List (Int×(List Int))))=>⟨look [(7,.ptr (Γ.n0+20) 0),(50,(Qd a1.zM)),(51,(i_ (a1.zM.length:Int))),(52,(i_ x26))],Qo Γ.n0 (bxs [(3,.cells ([(f_ a1.zK),(i_ a1.zN),(f_ a1.zL),.f (.lst 3 (List.map Qi a1.zM))])),(15,.mp (mapE (fun (x:Int)=>((i_ x):V)) (ownE 1 (eI .i64)) 0 c27) (c27).length),(18,.cells (Q3 (fun (x:Bool)=>[V.d (.bool x)]) c25)),(20,.cells ([(f_ a1.zK),(i_ a1.zN),(f_ a1.zL),.f (.lst 3 (List.map Qi a1.zM)),(f_ uv3),.mp (Γ.n0+15),.sl 1 (Γ.n0+18) 0 (Int.toNat a1.zN) (Int.toNat a1.zN)]))]) M,Γ.n0+75⟩) h (by exact Qk ⟨(kPtr rfl),sq,sq,sq,tv⟩ ⟨bS rfl rfl rfl,⟨rfl,rfl⟩,bM rfl rfl fun _=>rfl,⟨_,rfl,rfl,(cS rfl (cS rfl (cS rfl (cS rfl (cS rfl (.cons (kMp rfl) (.cons (kSl rfl) .nil)))))))⟩,tv⟩ rfl) (fun k28 z h=>?_)
    ·obtain ⟨x26,c27⟩:=z;replace h:_=some _:=h;refine sr (bN rfl (nt (Tr.seq ?_)));refine Tr.cond rfl (fun hb29=>?_) (fun hb29=>?_)
     ·replace h:=ifT hb29 h;refine Tr.skip (toN (Tr.seq (Tr.block (Tr.seq (Tr.rgn ?_)))));obtain ⟨x30,h31,h⟩:=bnd h;refine Rn.idxD (e:=Qi) tv rfl rfl h31 (Rn.loadCA (vs:=(Qbi x30)) tv rfl rfl rfl (Rn.alloc tv rfl (Rn.store (v:=(Qce x30)) (cs':=(Qbi x30)) tv rfl rfl rfl rfl rfl rfl (nO ?_))));refine Tr.rgnD (by decide) ?_;refine mv (.ptr (Γ.n0+20) 0) rfl (Rn.nilchkP tv rfl (fP rfl (lB (v:=.mp (Γ.n0+15)) rfl rfl rfl rfl (fP rfl (lB (v:=(i_ x30.To)) rfl rfl rfl rfl (mv (.ptr (Γ.n0+20) 0) rfl (Rn.nilchkP tv rfl (fP rfl (lB (v:=.mp (Γ.n0+15)) rfl rfl rfl rfl (fP rfl (lB (v:=(i_ x30.To)) rfl rfl rfl rfl (Rn.lookupT (ek:=(fun (x:Int)=>((i_ x):V))) (sz:=1) (e:=(eI .i64)) (m:=c27) (k:=x30.To) (fun _ _=>rfl) (fun _=>rfl) rfl tv rfl rfl rfl (fP rfl (lB (v:=(i_ x30.From)) rfl rfl rfl rfl (Rn.bslice (xs:=[(i_ x30.From)]) (cs:=[(i_ x30.From)]) tv rfl rfl rfl rfl ?_)))))))))))))));obtain ⟨l32,h33,h⟩:=bnd h;refine Rn.appH (e:=(eI .i64)) (m:=c27) (k:=x30.To) tv rfl rfl rfl (Qbz rfl rfl rfl) h33 rfl (Rn.mapsetT (ek:=(fun (x:Int)=>((i_ x):V))) (sz:=1) (e:=(eI .i64)) (m:=c27) (k:=x30.To) (v:=l32) (fun _ _=>rfl) (fun _=>rfl) tv rfl rfl rfl rfl ?_);refine Rn.nil ⟨rfl,?_⟩;refine toN (Tr.rgn (bN rfl (md rfl (Rn.nil ?_))));exact ⟨_,h,(by exact Qk ⟨(kPtr rfl),sq,sq,sq,tv⟩ ⟨bS rfl rfl rfl,⟨rfl,rfl⟩,bM rfl rfl fun _=>rfl,⟨_,rfl,rfl,(cS rfl (cS rfl (cS rfl (cS rfl (cS rfl (.cons (kMp rfl) (.cons (kSl rfl) .nil)))))))⟩,tv⟩ rfl)⟩
     ·replace h:=ifF hb29 h;refine Tr.exit ?_;replace h:=si h;subst h;exact Qf [] ⟨(kPtr rfl),tv⟩ ⟨bS rfl rfl rfl,⟨rfl,rfl⟩,bM rfl rfl fun _=>rfl,⟨_,rfl,rfl,(cS rfl (cS rfl (cS rfl (cS rfl (cS rfl (.cons (kMp rfl) (.cons (kSl rfl) .nil)))))))⟩,tv⟩ rfl
   ·obtain ⟨c34,rfl⟩ : ∃ x,x=z:=⟨_,rfl⟩;refine sr (mv (.ptr (Γ.n0+20) 0) rfl (mv (.ptr (Γ.n0+20) 0) rfl (nt (Tr.ret ?_))));obtain ⟨⟨⟩,hl35,h⟩:=bnd h;cases sj h;exact ⟨.inr rfl,_,rfl,fun _ _ _ _ h=>h,(show There _ _ from thN rfl),⟨⟨tv,tv,tv,tv,tv,(show There _ _ from thN rfl),(show There _ _ from thN rfl),tv⟩,Qbf1 (g:=(fun (x:Bool)=>[V.d (.bool x)])) (fun _=>⟨tv,tv⟩) _,tv⟩,fun k hk=>Qdl hk,lrAt ⟨(by show Qo Γ.n0 _ M (Γ.n0+20)=some (.cells [(f_ a1.zK),(i_ a1.zN),(f_ a1.zL),.f (.lst 3 (List.map Qi a1.zM)),(f_ uv3),.mp (Γ.n0+15),.sl 1 (Γ.n0+18) 0 c25.length c25.length]);rw [Qed hl35];exact Q5 rfl),Q5 rfl,Q5 rfl,tv⟩,rfl⟩
theorem Quh {P:Program} {c:Nat} {Q4:_}
    (Hbb:Qeu P 98 Q4) (hcf:Qy P c=some Qg8) (fuel:Nat):Qg7 P c (Qb1 Q4 fuel):=by
 intro p1 rv8 k2 k4 k6 r h;intro M nb hk3 hk5 hk7;refine Qn3 hcf rfl M nb fun Γ hP hnt hn0 hM=>?_;subst hP hn0;refine Tr.init [(0,.ptr k2 0),(1,(i_ rv8))] rfl ?_;unfold Qb1 at h;unfold Qg8;refine sr (Rn.movTC (v:=.nils 4) tv (nt (sr (Rn.movTC (v:=.nils 4) tv (nO ?_)))));refine Tr.cutB (fun (ov40:List Qb)=>⟨look [(5,(Qm ov40))],Qo Γ.n0 (bxs []) M,Γ.n0+74⟩) h (fun z h=>?_) (fun z h=>?_)
 ·refine sr (mv (.ptr k2 0) rfl (Rn.nilchkP tv rfl (fP rfl (fP rfl (Rn.load (v:=.f (.lst 3 (List.map Qi p1.zA.zM))) tv rfl (Qz hM hk3) rfl rfl ?_)))));refine Rn.weak (by show WeakSt Γ _ ⟨look [(0,.ptr k2 0),(1,(i_ rv8)),(4,.nils 4),(5,.nils 4),(9,.ptr k2 0),(10,.ptr k2 0),(11,.ptr k2 0),(12,.ptr k2 3),(13,(Qd p1.zA.zM))],Qo Γ.n0 (bxs []) M,Γ.n0+74⟩;exact Qf [] ⟨(Qbg (ltB hM hk3)),sq,sq,sq,(Qbg (ltB hM hk3)),(Qbg (ltB hM hk3)),(Qbg (ltB hM hk3)),(Qbg (ltB hM hk3)),fToD,tv⟩ tv rfl) ?_;refine Rn.lenD tv rfl (md rfl (nt (Tr.block ?_)));refine Tr.loop (mk:=fun ((ov9,x10):(List Qb)×Int)=>⟨look [(0,.ptr k2 0),(1,(i_ rv8)),(5,(Qm ov9)),(13,(Qd p1.zA.zM)),(14,(i_ (p1.zA.zM.length:Int))),(15,(i_ x10))],Qo Γ.n0 (bxs []) M,Γ.n0+74⟩) h (by exact Qk ⟨(Qbg (ltB hM hk3)),sq,(WkV.nilsO _),sq,sq,sq,tv⟩ tv rfl) (fun k11 z h=>?_)
  ·obtain ⟨ov9,x10⟩:=z;replace h:_=some _:=h;refine sr (bN rfl (nt (Tr.seq ?_)));refine Tr.cond rfl (fun hb12=>?_) (fun hb12=>?_)
   ·replace h:=ifT hb12 h;refine Tr.skip (toN ?_);refine Tr.cutB (fun ((ov36,c37,c38,c39):(List Qb)×Int×Int×Int)=>⟨look [(0,.ptr k2 0),(1,(i_ rv8)),(5,(Qm ov36)),(13,(Qd p1.zA.zM)),(14,(i_ (p1.zA.zM.length:Int))),(15,(i_ x10))],Qo Γ.n0 (bxs [(7,.cells ([(i_ c37),(i_ c38),(i_ c39)]))]) M,Γ.n0+74⟩) h (fun z h=>?_) (fun z h=>?_)
    ·refine Tr.block (Tr.seq (Tr.rgn ?_));obtain ⟨x13,h14,h⟩:=bnd h;refine Rn.idxD (e:=Qi) tv rfl rfl h14 (Rn.loadCA (vs:=(Qbi x13)) tv rfl rfl rfl (Rn.alloc tv rfl (Rn.store (v:=(Qce x13)) (cs':=(Qbi x13)) tv rfl rfl rfl rfl rfl rfl (nt (Tr.seq ?_)))));refine Tr.cutB (fun (x27:Bool)=>⟨look [(0,.ptr k2 0),(1,(i_ rv8)),(5,(Qm ov9)),(7,.ptr (Γ.n0+7) 0),(13,(Qd p1.zA.zM)),(14,(i_ (p1.zA.zM.length:Int))),(15,(i_ x10)),(47,(b_ x27))],Qo Γ.n0 (bxs [(7,.cells ((Qbi x13)))]) M,Γ.n0+74⟩) h (fun z h=>?_) (fun z h=>?_)
     ·refine Tr.rgnD (by decide) ?_;refine mv (.ptr k2 0) rfl (Rn.nilchkP tv rfl (fP rfl (Rn.load (v:=.sl 1 k6 0 p1.left_.length p1.left_.length) tv rfl (Qz hM hk3) rfl rfl (fP rfl (lB (v:=(i_ x13.From)) rfl rfl rfl rfl ?_)))));obtain ⟨⟨⟩,h16,h⟩:=bnd h;refine Rn.idxA tv rfl rfl h16 ?_;obtain ⟨x17,h18,h⟩:=bnd h;refine Rn.loadA (g:=(fun (x:Bool)=>[V.d (.bool x)])) (v:=(b_ x17)) (f:=0) (fun _=>rfl) tv rfl (Qz hM hk7) h18 rfl rfl (Rn.un tv rfl rfl (md rfl ?_));refine Qb4 x17 (fun hb19=>?_) (fun hb19=>?_)
      ·replace h:=bT hb19 h;refine Rn.mov (v:=.ptr k2 0) (gw rfl (nT hb19)) rfl (Rn.nilchkP (gw rfl (nT hb19)) rfl (Rn.fldP (o':=6) (gw rfl (nT hb19)) rfl rfl (Rn.load (v:=.sl 1 k6 0 p1.left_.length p1.left_.length) (gw rfl (nT hb19)) rfl (Qz hM hk3) rfl rfl (Rn.fldP (o':=2) (gw rfl (nT hb19)) rfl rfl (Rn.load (v:=(i_ x13.To)) (gw rfl (nT hb19)) rfl (Q5 rfl) rfl rfl ?_)))));obtain ⟨⟨⟩,h21,h⟩:=bnd h;refine Rn.idxA (gw rfl (nT hb19)) rfl rfl h21 ?_;obtain ⟨x22,h23,h⟩:=bnd h;refine Rn.loadA (g:=(fun (x:Bool)=>[V.d (.bool x)])) (v:=(b_ x22)) (f:=0) (fun _=>rfl) (gw rfl (nT hb19)) rfl (Qz hM hk7) h23 rfl rfl (pF (b_ x22) rfl (nT hb19) rfl (md rfl ?_));refine Qb4 x22 (fun hb24=>?_) (fun hb24=>?_)
       ·replace h:=bT hb24 h;refine sK rfl hb24 (sK rfl hb24 (sK rfl hb24 (sK rfl hb24 (sK rfl hb24 (sK rfl hb24 (sK rfl hb24 (sK rfl hb24 (pT (b_ true) rfl hb24 rfl ?_))))))));refine Rn.nil ⟨rfl,?_⟩;replace h:=si h;subst h;exact Qf [] ⟨(Qbg (ltB hM hk3)),sq,sq,(kPtr rfl),sq,sq,sq,sq,tv⟩ ⟨bS rfl rfl rfl,tv⟩ rfl
       ·replace h:=bF hb24 h;refine Rn.mov (v:=.ptr k2 0) (gw rfl hb24) rfl (Rn.nilchkP (gw rfl hb24) rfl (Rn.fldP (o':=4) (gw rfl hb24) rfl rfl (Rn.load (v:=(f_ p1.uncontrollable_)) (gw rfl hb24) rfl (Qz hM hk3) rfl rfl (Rn.fldP (o':=1) (gw rfl hb24) rfl rfl (Rn.load (v:=(i_ x13.Event)) (gw rfl hb24) rfl (Q5 rfl) rfl rfl ?_)))));obtain ⟨x26,h25,h⟩:=bnd h;refine Rn.call (args:=[(f_ p1.uncontrollable_),(i_ x13.Event)]) (gw rfl hb24) rfl (fun M2 nb2=>ACalls.weak (args':=[(l_ p1.uncontrollable_),(i_ x13.Event)]) (Hbb _ _ _ h25 M2 nb2) (.cons fToD (cS rfl .nil)) rfl) pc0 ?_;refine Rn.un (gw rfl hb24) rfl rfl (pF (b_ (!x26)) rfl hb24 rfl ?_);refine Rn.nil ⟨rfl,?_⟩;cases sj h;exact Qf [] ⟨(Qbg (ltB hM hk3)),sq,sq,(kPtr rfl),sq,sq,sq,sq,tv⟩ ⟨bS rfl rfl rfl,tv⟩ rfl
      ·replace h:=bF hb19 h;refine sK rfl (nF hb19) (sK rfl (nF hb19) (sK rfl (nF hb19) (sK rfl (nF hb19) (sK rfl (nF hb19) (sK rfl (nF hb19) (sK rfl (nF hb19) (sK rfl (nF hb19) (pT (b_ true) rfl (nF hb19) rfl (md rfl (sT rfl rfl (sT rfl rfl (sT rfl rfl (sT rfl rfl (sT rfl rfl (sT rfl rfl (sT rfl rfl (sT rfl rfl (pT (b_ true) rfl rfl rfl ?_))))))))))))))))));refine Rn.nil ⟨rfl,?_⟩;replace h:=si h;subst h;exact Qf [] ⟨(Qbg (ltB hM hk3)),sq,sq,(kPtr rfl),sq,sq,sq,sq,tv⟩ ⟨bS rfl rfl rfl,tv⟩ rfl
     ·obtain ⟨x27,rfl⟩ : ∃ x,x=z:=⟨_,rfl⟩;refine Tr.cond rfl (fun hb28=>?_) (fun hb28=>?_)
      ·replace h:=bT hb28 h;refine Tr.exit ?_;cases sj h;exact Qf [] ⟨(Qbg (ltB hM hk3)),sq,sq,sq,sq,sq,tv⟩ ⟨bS rfl rfl rfl,tv⟩ rfl
      ·replace h:=bF hb28 h;refine Tr.skip (toN (Tr.seq (sr (mv (Qbn ov9) rfl (Rn.lenD tv rfl (md rfl (nO ?_)))))));refine Tr.cutB (fun (x32:Bool)=>⟨look [(0,.ptr k2 0),(1,(i_ rv8)),(5,(Qm ov9)),(7,.ptr (Γ.n0+7) 0),(13,(Qd p1.zA.zM)),(14,(i_ (p1.zA.zM.length:Int))),(15,(i_ x10)),(62,(b_ x32))],Qo Γ.n0 (bxs [(7,.cells ((Qbi x13)))]) M,Γ.n0+74⟩) h (fun z h=>?_) (fun z h=>?_)
       ·refine Tr.rgnD (by decide) ?_;refine md rfl (bN rfl (md rfl ?_));refine Qb4 (decide ((ov9.length:Int)>0)) (fun hb29=>?_) (fun hb29=>?_)
        ·replace h:=ifT hb29 h;refine Rn.mov (v:=(Qbn ov9)) (gw rfl hb29) rfl (Rn.movD (gw rfl hb29) rfl (Rn.bin (gw rfl hb29) rfl rfl rfl ?_));obtain ⟨x30,h31,h⟩:=bnd h;refine Rn.idxD (e:=Qt) (gw rfl hb29) rfl rfl h31 (Rn.fldC (gw rfl hb29) rfl (Rn.loadC (x:=.int .i64 x30.State) (gw rfl hb29) rfl (Rn.fldP (o':=0) (gw rfl hb29) rfl rfl (Rn.load (v:=(i_ x13.From)) (gw rfl hb29) rfl (Q5 rfl) rfl rfl (Rn.bin (gw rfl hb29) rfl rfl rfl (pT (b_ (x30.State==x13.From)) rfl hb29 rfl ?_))))));refine Rn.nil ⟨rfl,?_⟩;cases sj h;exact Qf [] ⟨(Qbg (ltB hM hk3)),sq,sq,(kPtr rfl),sq,sq,sq,sq,tv⟩ ⟨bS rfl rfl rfl,tv⟩ rfl
        ·replace h:=ifF hb29 h;refine sK rfl hb29 (sK rfl hb29 (sK rfl hb29 (sK rfl hb29 (sK rfl hb29 (sK rfl hb29 (sK rfl hb29 (sK rfl hb29 (sK rfl hb29 (pF (b_ false) rfl hb29 rfl ?_)))))))));refine Rn.nil ⟨rfl,?_⟩;replace h:=si h;subst h;exact Qf [] ⟨(Qbg (ltB hM hk3)),sq,sq,(kPtr rfl),sq,sq,sq,sq,tv⟩ ⟨bS rfl rfl rfl,tv⟩ rfl
       ·obtain ⟨x32,rfl⟩ : ∃ x,x=z:=⟨_,rfl⟩;refine Tr.cond rfl (fun hb33=>?_) (fun hb33=>?_)
        ·replace h:=bT hb33 h;refine Tr.exit ?_;cases sj h;exact Qf [] ⟨(Qbg (ltB hM hk3)),sq,sq,sq,sq,sq,tv⟩ ⟨bS rfl rfl rfl,tv⟩ rfl
        ·replace h:=bF hb33 h;refine Tr.skip (toN (Tr.rgn (Rn.movTO tv rfl (fP rfl (lB (v:=(i_ x13.From)) rfl rfl rfl rfl (md rfl (fP rfl (lB (v:=(i_ x13.Event)) rfl rfl rfl rfl (Rn.build (v:=.agg [(i_ x13.From),(i_ rv8),(i_ 2),(i_ x13.Event)]) tv rfl (Rn.bslice (xs:=[.agg [(i_ x13.From),(i_ rv8),(i_ 2),(i_ x13.Event)]]) (cs:=[(i_ x13.From),(i_ rv8),(i_ 2),(i_ x13.Event)]) tv rfl rfl rfl rfl ?_))))))))));obtain ⟨x34,h35,h⟩:=bnd h;refine Rn.app (e:=Qt) tv rfl rfl rfl (Qbz rfl rfl rfl) h35 rfl (Rn.movTO tv rfl (Rn.nil ?_));cases sj h;exact Qf [70] ⟨(Qbg (ltB hM hk3)),sq,sq,sq,sq,sq,tv⟩ ⟨bS rfl rfl rfl,tv⟩ rfl
    ·obtain ⟨ov36,c37,c38,c39⟩:=z;refine Tr.rgn (bN rfl (md rfl (Rn.nil ?_)));exact ⟨_,h,(by exact Qk ⟨(Qbg (ltB hM hk3)),sq,sq,sq,sq,sq,tv⟩ tv rfl)⟩
   ·replace h:=ifF hb12 h;refine Tr.exit ?_;replace h:=si h;subst h;exact Qf [] ⟨sq,tv⟩ tv rfl
 ·obtain ⟨ov40,rfl⟩ : ∃ x,x=z:=⟨_,rfl⟩;refine sr (Rn.movTO tv rfl (Rn.movTO tv rfl (nt (Tr.ret ?_))));replace h:=si h;subst h;exact ⟨.inr rfl,(Qm ov40),rfl,fun _ _ _ _ h=>h,tv,mB⟩
theorem Qn0 {P:Program} {c:Nat} (hcf:Qy P c=some Qfc) (fuel:Nat):Qdz P c (Q1 fuel):=by
 intro p1 k2 k4 k6 r h;intro M nb hk3 hk5 hk7;refine Qn3 hcf rfl M nb fun Γ hP hnt hn0 hM=>?_;subst hP hn0;refine Tr.init [(0,.ptr k2 0)] rfl ?_;unfold Q1 at h;unfold Qfc;refine sr (Rn.movTC (v:=.nils 1) tv (nt (sr (mv (.ptr k2 0) rfl (Rn.nilchkP tv rfl (fP rfl (fP rfl (Rn.load (v:=(i_ p1.zA.zN)) tv rfl (Qz hM hk3) rfl rfl ?_))))))));obtain ⟨x8,h9,h⟩:=bnd h;refine Rn.makes (g:=(fun (x:Int)=>[V.d (.int .i64 x)])) tv rfl rfl rfl rfl rfl h9 (Rn.movTF (v:=.sl 1 (Γ.n0+16) 0 (Int.toNat p1.zA.zN) (Int.toNat p1.zA.zN)) tv rfl rfl (nO ?_));refine Tr.cutB (fun (c18:List Int)=>⟨look [(0,.ptr k2 0),(3,.sl 1 (Γ.n0+16) 0 (Int.toNat p1.zA.zN) (Int.toNat p1.zA.zN))],Qo Γ.n0 (bxs [(16,.cells (Q3 (fun (x:Int)=>[V.d (.int .i64 x)]) c18))]) M,Γ.n0+102⟩) h (fun z h=>?_) (fun z h=>?_)
 ·refine sr (mv (.sl 1 (Γ.n0+16) 0 (Int.toNat p1.zA.zN) (Int.toNat p1.zA.zN)) rfl (Rn.lenA tv rfl (md rfl (nt (Tr.block ?_)))));refine Tr.loop (mk:=fun ((x10,c11):Int×(List Int))=>⟨look [(0,.ptr k2 0),(3,.sl 1 (Γ.n0+16) 0 (Int.toNat p1.zA.zN) (Int.toNat p1.zA.zN)),(18,(i_ ((Int.toNat p1.zA.zN):Int))),(19,(i_ x10))],Qo Γ.n0 (bxs [(16,.cells (Q3 (fun (x:Int)=>[V.d (.int .i64 x)]) c11))]) M,Γ.n0+102⟩) h (by exact Qk ⟨(Qbg (ltB hM hk3)),(kSl rfl),sq,sq,tv⟩ ⟨bM rfl rfl fun _=>rfl,tv⟩ rfl) (fun k12 z h=>?_)
  ·obtain ⟨x10,c11⟩:=z;replace h:_=some _:=h;refine sr (bN rfl (nt (Tr.seq ?_)));refine Tr.cond rfl (fun hb13=>?_) (fun hb13=>?_)
   ·replace h:=ifT hb13 h;refine Tr.skip (toN (Tr.seq (Tr.block (sr (md rfl (md rfl (nt (Tr.rgn (mv (.sl 1 (Γ.n0+16) 0 (Int.toNat p1.zA.zN) (Int.toNat p1.zA.zN)) rfl (md rfl ?_))))))))));obtain ⟨⟨⟩,h15,h⟩:=bnd h;refine Rn.idxA tv rfl rfl h15 ?_;obtain ⟨x16,h17,h⟩:=bnd h;refine Rn.storeA (g:=(fun (x:Int)=>[V.d (.int .i64 x)])) (v:=(i_ (-1))) (fun _=>rfl) tv rfl rfl rfl rfl rfl h17 (nt (Tr.rgn (bN rfl (md rfl (Rn.nil ?_)))));exact ⟨_,h,(by exact Qk ⟨(Qbg (ltB hM hk3)),(kSl rfl),sq,sq,tv⟩ ⟨bM rfl rfl fun _=>rfl,tv⟩ rfl)⟩
   ·replace h:=ifF hb13 h;refine Tr.exit ?_;replace h:=si h;subst h;exact Qf [] ⟨(Qbg (ltB hM hk3)),(kSl rfl),tv⟩ ⟨bM rfl rfl fun _=>rfl,tv⟩ rfl
 ·obtain ⟨c18,rfl⟩ : ∃ x,x=z:=⟨_,rfl⟩;refine sr (Rn.movTC (v:=.nils 1) tv (nO ?_));refine Tr.cutB (fun ((l39,c40):(List Int)×(List Int))=>⟨look [(0,.ptr k2 0),(3,.sl 1 (Γ.n0+16) 0 (Int.toNat p1.zA.zN) (Int.toNat p1.zA.zN)),(5,(o_ l39))],Qo Γ.n0 (bxs [(16,.cells (Q3 (fun (x:Int)=>[V.d (.int .i64 x)]) c40))]) M,Γ.n0+102⟩) h (fun z h=>?_) (fun z h=>?_)
  ·refine sr (mv (.ptr k2 0) rfl (Rn.nilchkP tv rfl (fP rfl (fP rfl (Rn.load (v:=(f_ p1.zA.zL)) tv rfl (Qz hM hk3) rfl rfl ?_)))));refine Rn.weak (by show WeakSt Γ _ ⟨look [(0,.ptr k2 0),(3,.sl 1 (Γ.n0+16) 0 (Int.toNat p1.zA.zN) (Int.toNat p1.zA.zN)),(5,.nils 1),(26,.ptr k2 0),(27,.ptr k2 0),(28,.ptr k2 0),(29,.ptr k2 2),(30,(l_ p1.zA.zL))],Qo Γ.n0 (bxs [(16,.cells (Q3 (fun (x:Int)=>[V.d (.int .i64 x)]) c18))]) M,Γ.n0+102⟩;exact Qf [] ⟨(Qbg (ltB hM hk3)),(kSl rfl),sq,(Qbg (ltB hM hk3)),(Qbg (ltB hM hk3)),(Qbg (ltB hM hk3)),(Qbg (ltB hM hk3)),fToD,tv⟩ ⟨bM rfl rfl fun _=>rfl,tv⟩ rfl) ?_;refine Rn.lenD tv rfl (md rfl (nt (Tr.block ?_)));refine Tr.loop (mk:=fun ((l19,x20,c21):(List Int)×Int×(List Int))=>⟨look [(0,.ptr k2 0),(3,.sl 1 (Γ.n0+16) 0 (Int.toNat p1.zA.zN) (Int.toNat p1.zA.zN)),(5,(o_ l19)),(30,(l_ p1.zA.zL)),(31,(i_ (p1.zA.zL.length:Int))),(32,(i_ x20))],Qo Γ.n0 (bxs [(16,.cells (Q3 (fun (x:Int)=>[V.d (.int .i64 x)]) c21))]) M,Γ.n0+102⟩) h (by exact Qk ⟨(Qbg (ltB hM hk3)),(kSl rfl),(WkV.nilsO _),sq,sq,sq,tv⟩ ⟨bM rfl rfl fun _=>rfl,tv⟩ rfl) (fun k22 z h=>?_)
   ·obtain ⟨l19,x20,c21⟩:=z;replace h:_=some _:=h;refine sr (bN rfl (nt (Tr.seq ?_)));refine Tr.cond rfl (fun hb23=>?_) (fun hb23=>?_)
    ·replace h:=ifT hb23 h;refine Tr.skip (toN ?_);refine Tr.cutB (fun ((l37,c38):(List Int)×(List Int))=>⟨look [(0,.ptr k2 0),(3,.sl 1 (Γ.n0+16) 0 (Int.toNat p1.zA.zN) (Int.toNat p1.zA.zN)),(5,(o_ l37)),(30,(l_ p1.zA.zL)),(31,(i_ (p1.zA.zL.length:Int))),(32,(i_ x20))],Qo Γ.n0 (bxs [(16,.cells (Q3 (fun (x:Int)=>[V.d (.int .i64 x)]) c38))]) M,Γ.n0+102⟩) h (fun z h=>?_) (fun z h=>?_)
     ·refine Tr.block (Tr.seq (Tr.rgn ?_));obtain ⟨x24,h25,h⟩:=bnd h;refine Rn.idxD (e:=(eI .i64)) tv rfl rfl h25 (Rn.loadC (x:=.int .i64 x24) tv rfl (md rfl (nt (sr (mv (.ptr k2 0) rfl (Rn.nilchkP tv rfl (fP rfl (Rn.load (v:=.sl 1 k6 0 p1.left_.length p1.left_.length) tv rfl (Qz hM hk3) rfl rfl (md rfl ?_)))))))));obtain ⟨⟨⟩,h27,h⟩:=bnd h;refine Rn.idxA tv rfl rfl h27 ?_;obtain ⟨x28,h29,h⟩:=bnd h;refine Rn.loadA (g:=(fun (x:Bool)=>[V.d (.bool x)])) (v:=(b_ x28)) (f:=0) (fun _=>rfl) tv rfl (Qz hM hk7) h29 rfl rfl (nO ?_);refine Tr.cond rfl (fun hb30=>?_) (fun hb30=>?_)
      ·replace h:=bT hb30 h;refine sr (mv (.sl 1 (Γ.n0+16) 0 (Int.toNat p1.zA.zN) (Int.toNat p1.zA.zN)) rfl (md rfl ?_));obtain ⟨⟨⟩,h32,h⟩:=bnd h;refine Rn.idxA tv rfl rfl h32 ?_;obtain ⟨x33,h34,h⟩:=bnd h;refine Rn.storeA (g:=(fun (x:Int)=>[V.d (.int .i64 x)])) (v:=(i_ 0)) (fun _=>rfl) tv rfl rfl rfl rfl rfl h34 (nt (Tr.rgn (Rn.movTO tv rfl (md rfl (Rn.bslice (xs:=[(i_ x24)]) (cs:=[(i_ x24)]) tv rfl rfl rfl rfl ?_)))));obtain ⟨x35,h36,h⟩:=bnd h;refine Rn.app (e:=(eI .i64)) tv rfl rfl rfl (Qbz rfl rfl rfl) h36 rfl (Rn.movTO tv rfl (Rn.nil ?_));cases sj h;exact Qf [48] ⟨(Qbg (ltB hM hk3)),(kSl rfl),sq,sq,sq,sq,tv⟩ ⟨bM rfl rfl fun _=>rfl,tv⟩ rfl
      ·replace h:=bF hb30 h;refine Tr.skip ?_;cases sj h;exact Qf [] ⟨(Qbg (ltB hM hk3)),(kSl rfl),sq,sq,sq,sq,tv⟩ ⟨bM rfl rfl fun _=>rfl,tv⟩ rfl
     ·obtain ⟨l37,c38⟩:=z;refine Tr.rgn (bN rfl (md rfl (Rn.nil ?_)));exact ⟨_,h,(by exact Qk ⟨(Qbg (ltB hM hk3)),(kSl rfl),sq,sq,sq,sq,tv⟩ ⟨bM rfl rfl fun _=>rfl,tv⟩ rfl)⟩
    ·replace h:=ifF hb23 h;refine Tr.exit ?_;cases sj h;exact Qf [] ⟨(Qbg (ltB hM hk3)),(kSl rfl),sq,tv⟩ ⟨bM rfl rfl fun _=>rfl,tv⟩ rfl
  ·obtain ⟨l39,c40⟩:=z;refine Tr.cutB (fun (c82:List Int)=>⟨look [(3,.sl 1 (Γ.n0+16) 0 (Int.toNat p1.zA.zN) (Int.toNat p1.zA.zN))],Qo Γ.n0 (bxs [(16,.cells (Q3 (fun (x:Int)=>[V.d (.int .i64 x)]) c82))]) M,Γ.n0+102⟩) h (fun z h=>?_) (fun z h=>?_)
   ·refine sr (md rfl (nt (Tr.block ?_)));refine Tr.loop (mk:=fun ((l41,i42,c43):(List Int)×Int×(List Int))=>⟨look [(0,.ptr k2 0),(3,.sl 1 (Γ.n0+16) 0 (Int.toNat p1.zA.zN) (Int.toNat p1.zA.zN)),(5,(o_ l41)),(8,(i_ i42))],Qo Γ.n0 (bxs [(16,.cells (Q3 (fun (x:Int)=>[V.d (.int .i64 x)]) c43))]) M,Γ.n0+102⟩) h (by exact Qk ⟨(Qbg (ltB hM hk3)),(kSl rfl),sq,sq,tv⟩ ⟨bM rfl rfl fun _=>rfl,tv⟩ rfl) (fun k44 z h=>?_)
    ·obtain ⟨l41,i42,c43⟩:=z;replace h:_=some _:=h;refine Tr.seq (sr (md rfl (mv (l_ l41) rfl (Rn.lenD tv rfl (bN rfl (nO ?_))))));refine Tr.cond rfl (fun hb45=>?_) (fun hb45=>?_)
     ·replace h:=ifT hb45 h;refine Tr.skip (toN ?_);refine Tr.cutB (fun ((l80,c81):(List Int)×(List Int))=>⟨look [(0,.ptr k2 0),(3,.sl 1 (Γ.n0+16) 0 (Int.toNat p1.zA.zN) (Int.toNat p1.zA.zN)),(5,(o_ l80)),(8,(i_ i42))],Qo Γ.n0 (bxs [(16,.cells (Q3 (fun (x:Int)=>[V.d (.int .i64 x)]) c81))]) M,Γ.n0+102⟩) h (fun z h=>?_) (fun z h=>?_)
      ·refine Tr.block (Tr.seq ?_);refine Tr.rgnD (by decide) ?_;refine mv (.ptr k2 0) rfl (Rn.nilchkP tv rfl (fP rfl (Rn.load (v:=.mp k4) tv rfl (Qz hM hk3) rfl rfl (mv (l_ l41) rfl (md rfl ?_)))));obtain ⟨x46,h47,h⟩:=bnd h;refine Rn.idxD (e:=(eI .i64)) tv rfl rfl h47 (Rn.loadC (x:=.int .i64 x46) tv rfl (Rn.lookupO (ek:=(fun (x:Int)=>((i_ x):V))) (sz:=1) (e:=(eI .i64)) (m:=p1.back_) (k:=x46) (fun _ _=>rfl) (fun _=>rfl) rfl tv rfl rfl (Qz hM hk5) (Rn.lenD tv rfl (md rfl ?_))));refine Rn.nil ⟨rfl,?_⟩;refine toN (Tr.block ?_);refine Tr.loop (mk:=fun ((l48,x49,c50):(List Int)×Int×(List Int))=>⟨look [(0,.ptr k2 0),(3,.sl 1 (Γ.n0+16) 0 (Int.toNat p1.zA.zN) (Int.toNat p1.zA.zN)),(5,(o_ l48)),(8,(i_ i42)),(65,(l_ (getM p1.back_ x46 []))),(66,(i_ ((getM p1.back_ x46 []).length:Int))),(67,(i_ x49))],Qo Γ.n0 (bxs [(16,.cells (Q3 (fun (x:Int)=>[V.d (.int .i64 x)]) c50))]) M,Γ.n0+102⟩) h (by exact Qk ⟨(Qbg (ltB hM hk3)),(kSl rfl),sq,sq,sq,sq,sq,tv⟩ ⟨bM rfl rfl fun _=>rfl,tv⟩ rfl) (fun k51 z h=>?_)
       ·obtain ⟨l48,x49,c50⟩:=z;replace h:_=some _:=h;refine sr (bN rfl (nt (Tr.seq ?_)));refine Tr.cond rfl (fun hb52=>?_) (fun hb52=>?_)
        ·replace h:=ifT hb52 h;refine Tr.skip (toN ?_);refine Tr.cutB (fun ((l78,c79):(List Int)×(List Int))=>⟨look [(0,.ptr k2 0),(3,.sl 1 (Γ.n0+16) 0 (Int.toNat p1.zA.zN) (Int.toNat p1.zA.zN)),(5,(o_ l78)),(8,(i_ i42)),(65,(l_ (getM p1.back_ x46 []))),(66,(i_ ((getM p1.back_ x46 []).length:Int))),(67,(i_ x49))],Qo Γ.n0 (bxs [(16,.cells (Q3 (fun (x:Int)=>[V.d (.int .i64 x)]) c79))]) M,Γ.n0+102⟩) h (fun z h=>?_) (fun z h=>?_)
         ·refine Tr.block (Tr.seq (Tr.rgn ?_));obtain ⟨x53,h54,h⟩:=bnd h;refine Rn.idxD (e:=(eI .i64)) tv rfl rfl h54 (Rn.loadC (x:=.int .i64 x53) tv rfl (md rfl (nO ?_)));refine Tr.cutB (fun (x64:Bool)=>⟨look [(0,.ptr k2 0),(3,.sl 1 (Γ.n0+16) 0 (Int.toNat p1.zA.zN) (Int.toNat p1.zA.zN)),(5,(o_ l48)),(8,(i_ i42)),(10,(i_ x53)),(65,(l_ (getM p1.back_ x46 []))),(66,(i_ ((getM p1.back_ x46 []).length:Int))),(67,(i_ x49)),(84,(b_ x64))],Qo Γ.n0 (bxs [(16,.cells (Q3 (fun (x:Int)=>[V.d (.int .i64 x)]) c50))]) M,Γ.n0+102⟩) h (fun z h=>?_) (fun z h=>?_)
          ·refine Tr.rgn (mv (.ptr k2 0) rfl (Rn.nilchkP tv rfl (fP rfl (Rn.load (v:=.sl 1 k6 0 p1.left_.length p1.left_.length) tv rfl (Qz hM hk3) rfl rfl (md rfl ?_)))));obtain ⟨⟨⟩,h56,h⟩:=bnd h;refine Rn.idxA tv rfl rfl h56 ?_;obtain ⟨x57,h58,h⟩:=bnd h;refine Rn.loadA (g:=(fun (x:Bool)=>[V.d (.bool x)])) (v:=(b_ x57)) (f:=0) (fun _=>rfl) tv rfl (Qz hM hk7) h58 rfl rfl (md rfl ?_);refine Qb4 x57 (fun hb59=>?_) (fun hb59=>?_)
           ·replace h:=bT hb59 h;refine Rn.mov (v:=.sl 1 (Γ.n0+16) 0 (Int.toNat p1.zA.zN) (Int.toNat p1.zA.zN)) (gw rfl hb59) rfl (Rn.movD (gw rfl hb59) rfl ?_);obtain ⟨⟨⟩,h61,h⟩:=bnd h;refine Rn.idxA (gw rfl hb59) rfl rfl h61 ?_;obtain ⟨x62,h63,h⟩:=bnd h;refine Rn.loadA (g:=(fun (x:Int)=>[V.d (.int .i64 x)])) (v:=(i_ x62)) (f:=0) (fun _=>rfl) (gw rfl hb59) rfl (Q5 rfl) h63 rfl rfl (Rn.bin (gw rfl hb59) rfl rfl rfl (pT (b_ (decide (x62<0))) rfl hb59 rfl (Rn.nil ?_)));cases sj h;exact Qf [] ⟨(Qbg (ltB hM hk3)),(kSl rfl),sq,sq,sq,sq,sq,sq,sq,tv⟩ ⟨bM rfl rfl fun _=>rfl,tv⟩ rfl
           ·replace h:=bF hb59 h;refine sK rfl hb59 (sK rfl hb59 (sK rfl hb59 (sK rfl hb59 (sK rfl hb59 (pF (b_ false) rfl hb59 rfl (Rn.nil ?_))))));replace h:=si h;subst h;exact Qf [] ⟨(Qbg (ltB hM hk3)),(kSl rfl),sq,sq,sq,sq,sq,sq,sq,tv⟩ ⟨bM rfl rfl fun _=>rfl,tv⟩ rfl
          ·obtain ⟨x64,rfl⟩ : ∃ x,x=z:=⟨_,rfl⟩;refine Tr.cond rfl (fun hb65=>?_) (fun hb65=>?_)
           ·replace h:=bT hb65 h;refine sr (mv (.sl 1 (Γ.n0+16) 0 (Int.toNat p1.zA.zN) (Int.toNat p1.zA.zN)) rfl (md rfl (mv (.sl 1 (Γ.n0+16) 0 (Int.toNat p1.zA.zN) (Int.toNat p1.zA.zN)) rfl (mv (l_ l48) rfl (md rfl ?_)))));obtain ⟨x66,h67,h⟩:=bnd h;refine Rn.idxD (e:=(eI .i64)) tv rfl rfl h67 (Rn.loadC (x:=.int .i64 x66) tv rfl ?_);obtain ⟨⟨⟩,h69,h⟩:=bnd h;refine Rn.idxA tv rfl rfl h69 ?_;obtain ⟨x70,h71,h⟩:=bnd h;refine Rn.loadA (g:=(fun (x:Int)=>[V.d (.int .i64 x)])) (v:=(i_ x70)) (f:=0) (fun _=>rfl) tv rfl (Q5 rfl) h71 rfl rfl (bN rfl ?_);obtain ⟨⟨⟩,h73,h⟩:=bnd h;refine Rn.idxA tv rfl rfl h73 ?_;obtain ⟨x74,h75,h⟩:=bnd h;refine Rn.storeA (g:=(fun (x:Int)=>[V.d (.int .i64 x)])) (v:=(i_ (IntKind.wrap .i64 (x70+1)))) (fun _=>rfl) tv rfl rfl rfl rfl rfl h75 (nt (Tr.rgn (Rn.movTO tv rfl (md rfl (Rn.bslice (xs:=[(i_ x53)]) (cs:=[(i_ x53)]) tv rfl rfl rfl rfl ?_)))));obtain ⟨x76,h77,h⟩:=bnd h;refine Rn.app (e:=(eI .i64)) tv rfl rfl rfl (Qbz rfl rfl rfl) h77 rfl (Rn.movTO tv rfl (Rn.nil ?_));cases sj h;exact Qf [98] ⟨(Qbg (ltB hM hk3)),(kSl rfl),sq,sq,sq,sq,sq,tv⟩ ⟨bM rfl rfl fun _=>rfl,tv⟩ rfl
           ·replace h:=bF hb65 h;refine Tr.skip ?_;cases sj h;exact Qf [] ⟨(Qbg (ltB hM hk3)),(kSl rfl),sq,sq,sq,sq,sq,tv⟩ ⟨bM rfl rfl fun _=>rfl,tv⟩ rfl
         ·obtain ⟨l78,c79⟩:=z;refine Tr.rgn (bN rfl (md rfl (Rn.nil ?_)));exact ⟨_,h,(by exact Qk ⟨(Qbg (ltB hM hk3)),(kSl rfl),sq,sq,sq,sq,sq,tv⟩ ⟨bM rfl rfl fun _=>rfl,tv⟩ rfl)⟩
        ·replace h:=ifF hb52 h;refine Tr.exit ?_;cases sj h;exact Qf [] ⟨(Qbg (ltB hM hk3)),(kSl rfl),sq,sq,tv⟩ ⟨bM rfl rfl fun _=>rfl,tv⟩ rfl
      ·obtain ⟨l80,c81⟩:=z;refine Tr.rgn (md rfl (bN rfl (md rfl (Rn.nil ?_))));exact ⟨_,h,(by exact Qk ⟨(Qbg (ltB hM hk3)),(kSl rfl),sq,sq,tv⟩ ⟨bM rfl rfl fun _=>rfl,tv⟩ rfl)⟩
     ·replace h:=ifF hb45 h;refine Tr.exit ?_;replace h:=si h;subst h;exact Qf [] ⟨(kSl rfl),tv⟩ ⟨bM rfl rfl fun _=>rfl,tv⟩ rfl
   ·obtain ⟨c82,rfl⟩ : ∃ x,x=z:=⟨_,rfl⟩;refine sr (Rn.movTF (v:=.sl 1 (Γ.n0+16) 0 (Int.toNat p1.zA.zN) (Int.toNat p1.zA.zN)) tv rfl rfl (Rn.movTF (v:=.sl 1 (Γ.n0+16) 0 (Int.toNat p1.zA.zN) (Int.toNat p1.zA.zN)) tv rfl rfl (nO ?_)));obtain ⟨⟨⟩,hl83,h⟩:=bnd h;refine Tr.weak (by show WeakSt Γ _ ⟨look [(2,(l_ c82)),(3,(l_ c82)),(101,(l_ c82))],Qo Γ.n0 (bxs []) M,Γ.n0+102⟩;exact Qgo 16 _ rfl (Q4w (fun _=>rfl) _) ⟨(fSlA (fun _=>rfl) (Qed hl83)),(fSlA (fun _=>rfl) (Qed hl83)),(fSlA (fun _=>rfl) (Qed hl83)),tv⟩ tv rfl) ?_;refine Tr.ret ?_;replace h:=si h;subst h;exact ⟨.inr rfl,(l_ c82),rfl,fun _ _ _ _ h=>h,tv,mB⟩
theorem Qqm {P:Program} {c:Nat} {Q1:_}
    (Hbm:Qdz P 103 Q1) (hcf:Qy P c=some Qfx) (fuel:Nat):Qfw P c (Qbq Q1 fuel):=by
 intro p1 rv8 k2 k4 k6 r h;intro M nb hk3 hk5 hk7;refine Qn3 hcf rfl M nb fun Γ hP hnt hn0 hM=>?_;subst hP hn0;refine Tr.init [(0,.ptr k2 0),(1,(i_ rv8))] rfl ?_;unfold Qbq at h;unfold Qfx;refine sr (Rn.movTC (v:=.nils 4) tv (nt (sr (Rn.movTC (v:=.nils 4) tv (nO ?_)))));refine Tr.cutB (fun (ov27:List Qb)=>⟨look [(5,(Qm ov27))],Qo Γ.n0 (bxs []) M,Γ.n0+35⟩) h (fun z h=>?_) (fun z h=>?_)
 ·refine sr (mv (.ptr k2 0) rfl ?_);obtain ⟨x10,h9,h⟩:=bnd h;refine Rn.callM (args:=[.ptr k2 0]) tv rfl (fun M2 nb2 hn hx=>Hbm _ k2 k4 k6 _ h9 M2 nb2 (hx _ _ (Qz hM hk3)) (hx _ _ (Qz hM hk5)) (hx _ _ (Qz hM hk7))) rfl pc9 ?_;refine Rn.lenD tv rfl (md rfl (nt (Tr.block ?_)));refine Tr.loop (mk:=fun ((ov11,x12):(List Qb)×Int)=>⟨look [(0,.ptr k2 0),(1,(i_ rv8)),(5,(Qm ov11)),(9,(l_ x10)),(10,(i_ (x10.length:Int))),(11,(i_ x12))],Qo Γ.n0 (bxs []) M,Γ.n0+35⟩) h (by exact Qk ⟨(Qbg (ltB hM hk3)),sq,(WkV.nilsO _),sq,sq,sq,tv⟩ tv rfl) (fun k13 z h=>?_)
  ·obtain ⟨ov11,x12⟩:=z;replace h:_=some _:=h;refine sr (bN rfl (nt (Tr.seq ?_)));refine Tr.cond rfl (fun hb14=>?_) (fun hb14=>?_)
   ·replace h:=ifT hb14 h;refine Tr.skip (toN ?_);refine Tr.cutB (fun (ov26:List Qb)=>⟨look [(0,.ptr k2 0),(1,(i_ rv8)),(5,(Qm ov26)),(9,(l_ x10)),(10,(i_ (x10.length:Int))),(11,(i_ x12))],Qo Γ.n0 (bxs []) M,Γ.n0+35⟩) h (fun z h=>?_) (fun z h=>?_)
    ·refine Tr.block (sr (md rfl ?_));obtain ⟨x15,h16,h⟩:=bnd h;refine Rn.idxD (e:=(eI .i64)) tv rfl rfl h16 (Rn.loadC (x:=.int .i64 x15) tv rfl (md rfl (md rfl (nO ?_))));refine Tr.cutB (fun (x22:Bool)=>⟨look [(0,.ptr k2 0),(1,(i_ rv8)),(5,(Qm ov11)),(6,(i_ x12)),(9,(l_ x10)),(10,(i_ (x10.length:Int))),(11,(i_ x12)),(26,(b_ x22))],Qo Γ.n0 (bxs []) M,Γ.n0+35⟩) h (fun z h=>?_) (fun z h=>?_)
     ·refine Tr.rgn (mv (.ptr k2 0) rfl (Rn.nilchkP tv rfl (fP rfl (Rn.load (v:=.sl 1 k6 0 p1.left_.length p1.left_.length) tv rfl (Qz hM hk3) rfl rfl (md rfl ?_)))));obtain ⟨⟨⟩,h18,h⟩:=bnd h;refine Rn.idxA tv rfl rfl h18 ?_;obtain ⟨x19,h20,h⟩:=bnd h;refine Rn.loadA (g:=(fun (x:Bool)=>[V.d (.bool x)])) (v:=(b_ x19)) (f:=0) (fun _=>rfl) tv rfl (Qz hM hk7) h20 rfl rfl (md rfl ?_);refine Qb4 x19 (fun hb21=>?_) (fun hb21=>?_)
      ·replace h:=bT hb21 h;refine Rn.movD (gw rfl hb21) rfl (Rn.bin (gw rfl hb21) rfl rfl rfl (pT (b_ (decide (x15<0))) rfl hb21 rfl (Rn.nil ?_)));cases sj h;exact Qf [] ⟨(Qbg (ltB hM hk3)),sq,sq,sq,sq,sq,sq,sq,tv⟩ tv rfl
      ·replace h:=bF hb21 h;refine sK rfl hb21 (sK rfl hb21 (pF (b_ false) rfl hb21 rfl (Rn.nil ?_)));replace h:=si h;subst h;exact Qf [] ⟨(Qbg (ltB hM hk3)),sq,sq,sq,sq,sq,sq,sq,tv⟩ tv rfl
     ·obtain ⟨x22,rfl⟩ : ∃ x,x=z:=⟨_,rfl⟩;refine Tr.cond rfl (fun hb23=>?_) (fun hb23=>?_)
      ·replace h:=bT hb23 h;refine Tr.rgn (Rn.movTO tv rfl (md rfl (md rfl (Rn.build (v:=.agg [(i_ x12),(i_ rv8),(i_ 3),(i_ (-1))]) tv rfl (Rn.bslice (xs:=[.agg [(i_ x12),(i_ rv8),(i_ 3),(i_ (-1))]]) (cs:=[(i_ x12),(i_ rv8),(i_ 3),(i_ (-1))]) tv rfl rfl rfl rfl ?_)))));obtain ⟨x24,h25,h⟩:=bnd h;refine Rn.app (e:=Qt) tv rfl rfl rfl (Qbz rfl rfl rfl) h25 rfl (Rn.movTO tv rfl (Rn.nil ?_));replace h:=si h;subst h;exact Qf [31] ⟨(Qbg (ltB hM hk3)),sq,sq,sq,sq,sq,tv⟩ tv rfl
      ·replace h:=bF hb23 h;refine Tr.skip ?_;replace h:=si h;subst h;exact Qf [] ⟨(Qbg (ltB hM hk3)),sq,sq,sq,sq,sq,tv⟩ tv rfl
    ·obtain ⟨ov26,rfl⟩ : ∃ x,x=z:=⟨_,rfl⟩;refine Tr.rgn (bN rfl (md rfl (Rn.nil ?_)));exact ⟨_,h,(by exact Qk ⟨(Qbg (ltB hM hk3)),sq,sq,sq,sq,sq,tv⟩ tv rfl)⟩
   ·replace h:=ifF hb14 h;refine Tr.exit ?_;replace h:=si h;subst h;exact Qf [] ⟨sq,tv⟩ tv rfl
 ·obtain ⟨ov27,rfl⟩ : ∃ x,x=z:=⟨_,rfl⟩;refine sr (Rn.movTO tv rfl (Rn.movTO tv rfl (nt (Tr.ret ?_))));replace h:=si h;subst h;exact ⟨.inr rfl,(Qm ov27),rfl,fun _ _ _ _ h=>h,tv,mB⟩
theorem Qui {P:Program} {c:Nat} {Qb1:_} {Qbq:_}
    (Hbn:Qg7 P 117 Qb1)
    (Hbl:Qfw P 118 Qbq) (hcf:Qy P c=some Qha):Qg9 P c (Qb2 Qb1 Qbq):=by
 intro p1 rv8 av9 k2 k4 k6 r h;intro M nb hk3 hk5 hk7;refine Qn3 hcf rfl M nb fun Γ hP hnt hn0 hM=>?_;subst hP hn0;refine Tr.init [(0,.ptr k2 0),(1,(i_ rv8)),(2,(b_ av9))] rfl ?_;unfold Qb2 at h;unfold Qha;refine sr (Rn.movTC (v:=.nils 4) tv (nt (Tr.seq (sr (mv (.ptr k2 0) rfl (md rfl ?_))))));obtain ⟨x11,h10,h⟩:=bnd h;refine Rn.callM (args:=[.ptr k2 0,(i_ rv8)]) tv rfl (fun M2 nb2 hn hx=>Hbn _ _ k2 k4 k6 _ h10 M2 nb2 (hx _ _ (Qz hM hk3)) (hx _ _ (Qz hM hk5)) (hx _ _ (Qz hM hk7))) rfl pc9 ?_;refine Rn.movTO tv rfl (nO ?_);refine Tr.cutB (fun (x13:Bool)=>⟨look [(0,.ptr k2 0),(1,(i_ rv8)),(7,(Qm x11)),(17,(b_ x13))],Qo Γ.n0 (bxs []) M,Γ.n0+22⟩) h (fun z h=>?_) (fun z h=>?_)
 ·refine Tr.rgn (mv (Qbn x11) rfl (Rn.lenD tv rfl (bN rfl (md rfl ?_))));refine Qb4 (decide ((x11.length:Int)>0)) (fun hb12=>?_) (fun hb12=>?_)
  ·replace h:=ifT hb12 h;refine sK rfl hb12 (sK rfl hb12 (pT (b_ true) rfl hb12 rfl (Rn.nil ?_)));replace h:=si h;subst h;exact Qf [] ⟨(Qbg (ltB hM hk3)),sq,sq,sq,tv⟩ tv rfl
  ·replace h:=ifF hb12 h;refine Rn.movD (gw rfl hb12) rfl (Rn.un (gw rfl hb12) rfl rfl (pF (b_ (!av9)) rfl hb12 rfl (Rn.nil ?_)));cases sj h;exact Qf [] ⟨(Qbg (ltB hM hk3)),sq,sq,sq,tv⟩ tv rfl
 ·obtain ⟨x13,rfl⟩ : ∃ x,x=z:=⟨_,rfl⟩;refine Tr.cond rfl (fun hb14=>?_) (fun hb14=>?_)
  ·replace h:=bT hb14 h;refine sr (Rn.movTO tv rfl (Rn.movTO tv rfl (nt (Tr.ret ?_))));replace h:=si h;subst h;exact ⟨.inr rfl,(Qm x11),rfl,fun _ _ _ _ h=>h,tv,mB⟩
  ·replace h:=bF hb14 h;refine Tr.skip (toN (sr (mv (.ptr k2 0) rfl (md rfl ?_))));obtain ⟨x16,h15,h⟩:=bnd h;refine Rn.callM (args:=[.ptr k2 0,(i_ rv8)]) tv rfl (fun M2 nb2 hn hx=>Hbl _ _ k2 k4 k6 _ h15 M2 nb2 (hx _ _ (Qz hM hk3)) (hx _ _ (Qz hM hk5)) (hx _ _ (Qz hM hk7))) rfl pc9 ?_;refine Rn.movTO tv rfl (nt (Tr.ret ?_));replace h:=si h;subst h;exact ⟨.inr rfl,(Qm x16),rfl,fun _ _ _ _ h=>h,tv,mB⟩
theorem Q0o {P:Program} {c:Nat} (hcf:Qy P c=some Qja):Qsb P c (Qjb):=by
 intro x1 y2 r h;refine Qec hcf rfl fun Γ M hP hnt hM=>?_;subst hP;refine Tr.init [(0,(Qdy x1)),(1,(Qdy y2))] rfl ?_;unfold Qjb at h;unfold Qja;refine sr (Rn.box (v:=(Qdy x1)) (cs:=(Qfg x1)) tv rfl rfl rfl rfl rfl (Rn.box (v:=(Qdy y2)) (cs:=(Qfg y2)) tv rfl rfl rfl rfl rfl (md rfl (nt (sr (fP rfl (lB (v:=(i_ x1.State)) rfl rfl rfl rfl (fP rfl (lB (v:=(i_ y2.State)) rfl rfl rfl rfl (bN rfl (md rfl (nt (Tr.ret ?_)))))))))))));cases sj h;exact ⟨.inr rfl,(i_ (IntKind.wrap .i64 (x1.State-y2.State))),rfl,fun _ _ _ _ h=>h,tv,mB⟩
theorem Qmu {P:Program} {c:Nat} {Qbs:_} {Q4:_}
    (Haz:Qic P 72 Qbs)
    (Hbb:Qeu P 98 Q4) (hcf:Qy P c=some Qe0) (fuel:Nat):Qez P c (Qbe Qbs Q4 fuel):=by
 intro p1 k2 k4 k6 r h;intro M nb hk3 hk5 hk7;refine Qn3 hcf rfl M nb fun Γ hP hnt hn0 hM=>?_;subst hP hn0;refine Tr.init [(0,.ptr k2 0)] rfl ?_;unfold Qbe at h;unfold Qe0;refine sr (Rn.alloc tv rfl (Rn.movTC (v:=.nils 1) tv (nt (sr (mv (.ptr k2 0) rfl (Rn.nilchkP tv rfl (fP rfl (fP rfl (Rn.load (v:=(f_ p1.zA.zK)) tv rfl (Qz hM hk3) rfl rfl ?_)))))))));obtain ⟨x9,h8,h⟩:=bnd h;refine Rn.call (args:=[(f_ p1.zA.zK)]) tv rfl (fun M2 nb2=>ACalls.weak (args':=[(l_ p1.zA.zK)]) (Haz _ _ h8 M2 nb2) (.cons fToD .nil) rfl) pc9 ?_;refine Rn.buildT (v:=.agg [(o_ x9),(i_ 0),.nils 1,.nils 3]) tv rfl (Rn.alloc tv rfl (Rn.storeT (v:=.agg [(o_ x9),(i_ 0),.nils 1,.nils 3]) (ds:=[(o_ x9),(i_ 0),.nils 1,.nils 3]) (cs':=[(o_ x9),(i_ 0),.nils 1,.nils 3]) tv rfl rfl rfl rfl rfl rfl rfl (nt (Tr.seq ?_))));refine Tr.cutB (fun (x15:Bool)=>⟨look [(0,.ptr k2 0),(2,.ptr (Γ.n0+2) 0),(4,.ptr (Γ.n0+4) 0),(36,(b_ x15))],Qo Γ.n0 (bxs [(2,.cells ([.nils 1,(i_ 0),.nils 1,.nils 3])),(4,.cells ([(o_ x9),(i_ 0),.nils 1,.nils 3]))]) M,Γ.n0+148⟩) h (fun z h=>?_) (fun z h=>?_)
 ·refine Tr.rgn (mv (.ptr k2 0) rfl (Rn.nilchkP tv rfl (fP rfl (fP rfl (Rn.load (v:=(i_ p1.zA.zN)) tv rfl (Qz hM hk3) rfl rfl (bN rfl (md rfl ?_)))))));refine Qb4 (p1.zA.zN==0) (fun hb10=>?_) (fun hb10=>?_)
  ·replace h:=bT hb10 h;refine sK rfl hb10 (sK rfl hb10 (sK rfl hb10 (sK rfl hb10 (sK rfl hb10 (sK rfl hb10 (sK rfl hb10 (pT (b_ true) rfl hb10 rfl (Rn.nil ?_))))))));replace h:=si h;subst h;exact Qf [] ⟨(Qbg (ltB hM hk3)),(kPtr rfl),(kPtr rfl),sq,tv⟩ ⟨bS rfl rfl rfl,bS rfl rfl rfl,tv⟩ rfl
  ·replace h:=bF hb10 h;refine Rn.mov (v:=.ptr k2 0) (gw rfl hb10) rfl (Rn.nilchkP (gw rfl hb10) rfl (Rn.fldP (o':=6) (gw rfl hb10) rfl rfl (Rn.load (v:=.sl 1 k6 0 p1.left_.length p1.left_.length) (gw rfl hb10) rfl (Qz hM hk3) rfl rfl ?_)));obtain ⟨⟨⟩,h12,h⟩:=bnd h;refine Rn.idxA (gw rfl hb10) rfl rfl h12 ?_;obtain ⟨x13,h14,h⟩:=bnd h;refine Rn.loadA (g:=(fun (x:Bool)=>[V.d (.bool x)])) (v:=(b_ x13)) (f:=0) (fun _=>rfl) (gw rfl hb10) rfl (Qz hM hk7) h14 rfl rfl (Rn.un (gw rfl hb10) rfl rfl (pF (b_ (!x13)) rfl hb10 rfl (Rn.nil ?_)));cases sj h;exact Qf [] ⟨(Qbg (ltB hM hk3)),(kPtr rfl),(kPtr rfl),sq,tv⟩ ⟨bS rfl rfl rfl,bS rfl rfl rfl,tv⟩ rfl
 ·obtain ⟨x15,rfl⟩ : ∃ x,x=z:=⟨_,rfl⟩;refine Tr.cond rfl (fun hb16=>?_) (fun hb16=>?_)
  ·replace h:=bT hb16 h;refine sr (lB (v:=.agg [(l_ x9),(i_ 0),.nils 1,.nils 3]) rfl rfl rfl rfl (Rn.storeT (v:=.agg [(l_ x9),(i_ 0),.nils 1,.nils 3]) (ds:=[(l_ x9),(i_ 0),.nils 1,.nils 3]) (cs':=[(l_ x9),(i_ 0),.nils 1,.nils 3]) tv rfl rfl rfl rfl rfl rfl rfl (Rn.movTC (v:=.nils 1) tv (nt (Tr.ret ?_)))));cases sj h;exact ⟨.inr rfl,.tup [.agg [(l_ x9),(i_ 0),.nils 1,.nils 3],.nils 1],res2 (Qhi rfl rfl rfl rfl) rfl,(WkV.tup (.cons (WkV.agg (cS rfl (cS rfl (.cons (WkV.nilsD _) (.cons (WkV.nilsD _) .nil))))) (.cons (WkV.nilsO _) .nil))).rd,⟨⟨tv,tv,tv,tv,tv⟩,tv,tv⟩,mB⟩
  ·replace h:=bF hb16 h;refine Tr.skip (toN (sr (mv (.ptr k2 0) rfl (Rn.nilchkP tv rfl (fP rfl (fP rfl (Rn.load (v:=(i_ p1.zA.zN)) tv rfl (Qz hM hk3) rfl rfl ?_)))))));obtain ⟨x17,h18,h⟩:=bnd h;refine Rn.makes (g:=(fun (x:List Qc)=>[V.nils 3])) tv rfl rfl rfl rfl rfl h18 (Rn.movTF (v:=.sl 1 (Γ.n0+43) 0 (Int.toNat p1.zA.zN) (Int.toNat p1.zA.zN)) tv rfl rfl (nO ?_));refine Tr.cutB (fun (c44:List (List Qc))=>⟨look [(0,.ptr k2 0),(2,.ptr (Γ.n0+2) 0),(4,.ptr (Γ.n0+4) 0),(5,.sl 1 (Γ.n0+43) 0 (Int.toNat p1.zA.zN) (Int.toNat p1.zA.zN))],Qo Γ.n0 (bxs [(2,.cells ([.nils 1,(i_ 0),.nils 1,.nils 3])),(4,.cells ([(o_ x9),(i_ 0),.nils 1,.nils 3])),(43,.cells (Q3 (fun (x:List Qc)=>[V.own 3 (List.map Qi x)]) c44))]) M,Γ.n0+148⟩) h (fun z h=>?_) (fun z h=>?_)
   ·refine Tr.seq ?_;refine Tr.weak (by show WeakSt Γ _ ⟨look [(0,.ptr k2 0),(2,.ptr (Γ.n0+2) 0),(4,.ptr (Γ.n0+4) 0),(5,.sl 1 (Γ.n0+43) 0 (Int.toNat p1.zA.zN) (Int.toNat p1.zA.zN)),(36,(b_ x15)),(38,.ptr k2 0),(39,.ptr k2 0),(40,.ptr k2 0),(41,.ptr k2 1),(42,(i_ p1.zA.zN)),(43,.sl 1 (Γ.n0+43) 0 (Int.toNat p1.zA.zN) (Int.toNat p1.zA.zN))],Qo Γ.n0 (bxs [(2,.cells ([.nils 1,(i_ 0),.nils 1,.nils 3])),(4,.cells ([(o_ x9),(i_ 0),.nils 1,.nils 3])),(43,.cells (Q3 (fun (x:List Qc)=>[V.own 3 (List.map Qi x)]) x17))]) M,Γ.n0+148⟩;exact Qf [] ⟨(Qbg (ltB hM hk3)),(kPtr rfl),(kPtr rfl),(kSl rfl),sq,(Qbg (ltB hM hk3)),(Qbg (ltB hM hk3)),(Qbg (ltB hM hk3)),(Qbg (ltB hM hk3)),sq,(kSl rfl),tv⟩ ⟨bS rfl rfl rfl,bS rfl rfl rfl,⟨_,rfl,rfl,(Qbrt rfl h18)⟩,tv⟩ rfl) ?_;refine Tr.rgn (mv (.ptr k2 0) rfl (Rn.nilchkP tv rfl (fP rfl (fP rfl (Rn.load (v:=.f (.lst 3 (List.map Qi p1.zA.zM))) tv rfl (Qz hM hk3) rfl rfl ?_)))));refine Rn.weak (by show WeakSt Γ _ ⟨look [(0,.ptr k2 0),(2,.ptr (Γ.n0+2) 0),(4,.ptr (Γ.n0+4) 0),(5,.sl 1 (Γ.n0+43) 0 (Int.toNat p1.zA.zN) (Int.toNat p1.zA.zN)),(36,(b_ x15)),(38,.ptr k2 0),(39,.ptr k2 0),(40,.ptr k2 0),(41,.ptr k2 1),(42,(i_ p1.zA.zN)),(43,.sl 1 (Γ.n0+43) 0 (Int.toNat p1.zA.zN) (Int.toNat p1.zA.zN)),(44,.ptr k2 0),(45,.ptr k2 0),(46,.ptr k2 0),(47,.ptr k2 3),(48,(Qd p1.zA.zM))],Qo Γ.n0 (bxs [(2,.cells ([.nils 1,(i_ 0),.nils 1,.nils 3])),(4,.cells ([(o_ x9),(i_ 0),.nils 1,.nils 3])),(43,.cells (Q3 (fun (x:List Qc)=>[V.own 3 (List.map Qi x)]) x17))]) M,Γ.n0+148⟩;exact Qf [] ⟨(Qbg (ltB hM hk3)),(kPtr rfl),(kPtr rfl),(kSl rfl),sq,(Qbg (ltB hM hk3)),(Qbg (ltB hM hk3)),(Qbg (ltB hM hk3)),(Qbg (ltB hM hk3)),sq,(kSl rfl),(Qbg (ltB hM hk3)),(Qbg (ltB hM hk3)),(Qbg (ltB hM hk3)),(Qbg (ltB hM hk3)),fToD,tv⟩ ⟨bS rfl rfl rfl,bS rfl rfl rfl,bM rfl rfl fun _=>rfl,tv⟩ rfl) ?_;refine Rn.lenD tv rfl (md rfl (nt (Tr.block ?_)));refine Tr.loop (mk:=fun ((x19,c20):Int×(List (List Qc)))=>⟨look [(0,.ptr k2 0),(2,.ptr (Γ.n0+2) 0),(4,.ptr (Γ.n0+4) 0),(5,.sl 1 (Γ.n0+43) 0 (Int.toNat p1.zA.zN) (Int.toNat p1.zA.zN)),(48,(Qd p1.zA.zM)),(49,(i_ (p1.zA.zM.length:Int))),(50,(i_ x19))],Qo Γ.n0 (bxs [(2,.cells ([.nils 1,(i_ 0),.nils 1,.nils 3])),(4,.cells ([(o_ x9),(i_ 0),.nils 1,.nils 3])),(43,.cells (Q3 (fun (x:List Qc)=>[V.own 3 (List.map Qi x)]) c20))]) M,Γ.n0+148⟩) h (by exact Qk ⟨(Qbg (ltB hM hk3)),(kPtr rfl),(kPtr rfl),(kSl rfl),sq,sq,sq,tv⟩ ⟨bS rfl rfl rfl,bS rfl rfl rfl,bM rfl rfl fun _=>rfl,tv⟩ rfl) (fun k21 z h=>?_)
    ·obtain ⟨x19,c20⟩:=z;replace h:_=some _:=h;refine sr (bN rfl (nt (Tr.seq ?_)));refine Tr.cond rfl (fun hb22=>?_) (fun hb22=>?_)
     ·replace h:=ifT hb22 h;refine Tr.skip (toN ?_);refine Tr.cutB (fun ((c40,c41,c42,c43):(List (List Qc))×Int×Int×Int)=>⟨look [(0,.ptr k2 0),(2,.ptr (Γ.n0+2) 0),(4,.ptr (Γ.n0+4) 0),(5,.sl 1 (Γ.n0+43) 0 (Int.toNat p1.zA.zN) (Int.toNat p1.zA.zN)),(48,(Qd p1.zA.zM)),(49,(i_ (p1.zA.zM.length:Int))),(50,(i_ x19))],Qo Γ.n0 (bxs [(2,.cells ([.nils 1,(i_ 0),.nils 1,.nils 3])),(4,.cells ([(o_ x9),(i_ 0),.nils 1,.nils 3])),(7,.cells ([(i_ c41),(i_ c42),(i_ c43)])),(43,.cells (Q3 (fun (x:List Qc)=>[V.own 3 (List.map Qi x)]) c40))]) M,Γ.n0+148⟩) h (fun z h=>?_) (fun z h=>?_)
      ·refine Tr.block (Tr.seq (Tr.rgn ?_));obtain ⟨x23,h24,h⟩:=bnd h;refine Rn.idxD (e:=Qi) tv rfl rfl h24 (Rn.loadCA (vs:=(Qbi x23)) tv rfl rfl rfl (Rn.alloc tv rfl (Rn.store (v:=(Qce x23)) (cs':=(Qbi x23)) tv rfl rfl rfl rfl rfl rfl (nt (Tr.seq ?_)))));refine Tr.rgnD (by decide) ?_;refine mv (.ptr k2 0) rfl (Rn.nilchkP tv rfl (fP rfl (Rn.load (v:=.sl 1 k6 0 p1.left_.length p1.left_.length) tv rfl (Qz hM hk3) rfl rfl (fP rfl (lB (v:=(i_ x23.To)) rfl rfl rfl rfl ?_)))));obtain ⟨⟨⟩,h26,h⟩:=bnd h;refine Rn.idxA tv rfl rfl h26 ?_;obtain ⟨x27,h28,h⟩:=bnd h;refine Rn.loadA (g:=(fun (x:Bool)=>[V.d (.bool x)])) (v:=(b_ x27)) (f:=0) (fun _=>rfl) tv rfl (Qz hM hk7) h28 rfl rfl ?_;refine Rn.nil ⟨rfl,?_⟩;refine toN ?_;refine Tr.cond rfl (fun hb29=>?_) (fun hb29=>?_)
       ·replace h:=bT hb29 h;refine Tr.rgnD (by decide) ?_;refine mv (.sl 1 (Γ.n0+43) 0 (Int.toNat p1.zA.zN) (Int.toNat p1.zA.zN)) rfl (fP rfl (lB (v:=(i_ x23.From)) rfl rfl rfl rfl (mv (.sl 1 (Γ.n0+43) 0 (Int.toNat p1.zA.zN) (Int.toNat p1.zA.zN)) rfl (fP rfl (lB (v:=(i_ x23.From)) rfl rfl rfl rfl ?_)))));obtain ⟨⟨⟩,h31,h⟩:=bnd h;refine Rn.idxA tv rfl rfl h31 ?_;obtain ⟨x32,h33,h⟩:=bnd h;refine Rn.loadTA (e:=Qi) tv rfl rfl h33 (lB (v:=(Qce x23)) rfl rfl rfl rfl (Rn.bslice (xs:=[(Qce x23)]) (cs:=(Qbi x23)) tv rfl rfl rfl rfl ?_));obtain ⟨x34,h35,h⟩:=bnd h;refine Rn.app (e:=Qi) tv rfl rfl rfl (Qbz rfl rfl rfl) h35 rfl ?_;obtain ⟨⟨⟩,h37,h⟩:=bnd h;refine Rn.idxA tv rfl rfl h37 ?_;obtain ⟨x38,h39,h⟩:=bnd h;refine Rn.storeTA tv rfl rfl rfl h39 ?_;refine Rn.nil ⟨rfl,?_⟩;cases sj h;exact Qf [71] ⟨(Qbg (ltB hM hk3)),(kPtr rfl),(kPtr rfl),(kSl rfl),sq,sq,sq,tv⟩ ⟨bS rfl rfl rfl,bS rfl rfl rfl,bS rfl rfl rfl,bM rfl rfl fun _=>rfl,tv⟩ rfl
       ·replace h:=bF hb29 h;refine Tr.skip ?_;cases sj h;exact Qf [] ⟨(Qbg (ltB hM hk3)),(kPtr rfl),(kPtr rfl),(kSl rfl),sq,sq,sq,tv⟩ ⟨bS rfl rfl rfl,bS rfl rfl rfl,bS rfl rfl rfl,bM rfl rfl fun _=>rfl,tv⟩ rfl
      ·obtain ⟨c40,c41,c42,c43⟩:=z;refine Tr.rgn (bN rfl (md rfl (Rn.nil ?_)));exact ⟨_,h,(by exact Qk ⟨(Qbg (ltB hM hk3)),(kPtr rfl),(kPtr rfl),(kSl rfl),sq,sq,sq,tv⟩ ⟨bS rfl rfl rfl,bS rfl rfl rfl,bM rfl rfl fun _=>rfl,tv⟩ rfl)⟩
     ·replace h:=ifF hb22 h;refine Tr.exit ?_;replace h:=si h;subst h;exact Qf [] ⟨(Qbg (ltB hM hk3)),(kPtr rfl),(kPtr rfl),(kSl rfl),tv⟩ ⟨bS rfl rfl rfl,bS rfl rfl rfl,bM rfl rfl fun _=>rfl,tv⟩ rfl
   ·obtain ⟨c44,rfl⟩ : ∃ x,x=z:=⟨_,rfl⟩;refine sr (Rn.mkmap tv rfl (fun (x:Int)=>((i_ x):V)) (fun (x:Int)=>((i_ x):V)) (Rn.mapset (ek:=(fun (x:Int)=>((i_ x):V))) (ev:=(fun (x:Int)=>((i_ x):V))) (m:=([]:List (Int×Int))) (k:=0) (v:=0) (fun _ _=>rfl) (fun _=>rfl) (fun _=>rfl) tv rfl rfl rfl rfl rfl (mv (.mp (Γ.n0+75)) rfl (mv (.mp (Γ.n0+75)) rfl (nt (sr (Rn.bslice (xs:=[(i_ 0)]) (cs:=[(i_ 0)]) tv rfl rfl rfl rfl (Rn.movTF (v:=.sl 1 (Γ.n0+77) 0 1 1) tv rfl rfl (nO ?_)))))))));refine Tr.cutB (fun ((ov91,c92,c93,c94,a95,a96,c97):(List Int)×(List Int)×(List Int)×(List Qc)×(List Int)×(List Qc)×(List (Int×Int)))=>⟨look [(2,.ptr (Γ.n0+2) 0),(4,.ptr (Γ.n0+4) 0),(9,(o_ ov91))],Qo Γ.n0 (bxs [(2,.cells ([(o_ c92),(i_ 0),(o_ c93),(Qg c94)])),(4,.cells ([(o_ x9),(i_ 0),(o_ a95),(Qg a96)])),(43,.cells (Q3 (fun (x:List Qc)=>[V.own 3 (List.map Qi x)]) c44)),(75,.mp (mapE (fun (x:Int)=>((i_ x):V)) (fun (x:Int)=>((i_ x):V)) 0 c97) (c97).length)]) M,Γ.n0+148⟩) h (fun z h=>?_) (fun z h=>?_)
    ·refine sr (md rfl (nt (Tr.block ?_)));refine Tr.weak (by show WeakSt Γ _ ⟨look ((9,.own 1 (List.map (eI .i64) [0]))::[(0,.ptr k2 0),(2,.ptr (Γ.n0+2) 0),(4,.ptr (Γ.n0+4) 0),(5,.sl 1 (Γ.n0+43) 0 (Int.toNat p1.zA.zN) (Int.toNat p1.zA.zN)),(8,.mp (Γ.n0+75)),(10,(i_ 0)),(75,.mp (Γ.n0+75)),(76,.mp (Γ.n0+75))] ),Qo Γ.n0 (bxs [(2,.cells ([.nils 1,(i_ 0),.nils 1,.nils 3])),(4,.cells ([(o_ x9),(i_ 0),.nils 1,.nils 3])),(43,.cells (Q3 (fun (x:List Qc)=>[V.own 3 (List.map Qi x)]) c44)),(75,.mp (mapE (fun (x:Int)=>((i_ x):V)) (fun (x:Int)=>((i_ x):V)) 0 (setM ([]:List (Int×Int)) 0 0)) ((setM ([]:List (Int×Int)) 0 0)).length)]) M,Γ.n0+148⟩;exact Qbmx 77 9 [.int .i64 0] rfl rfl rfl rfl rfl ⟨(Qbg (ltB hM hk3)),(kPtr rfl),(kPtr rfl),(kSl rfl),(kMp rfl),sq,(kMp rfl),(kMp rfl),tv⟩ ⟨bS rfl rfl rfl,bS rfl rfl rfl,bM rfl rfl fun _=>rfl,⟨rfl,rfl⟩,tv⟩ rfl) ?_;refine Tr.loop (mk:=fun ((ov45,i46,c47,c48,c49,a50,a51,c52):(List Int)×Int×(List Int)×(List Int)×(List Qc)×(List Int)×(List Qc)×(List (Int×Int)))=>⟨look [(0,.ptr k2 0),(2,.ptr (Γ.n0+2) 0),(4,.ptr (Γ.n0+4) 0),(5,.sl 1 (Γ.n0+43) 0 (Int.toNat p1.zA.zN) (Int.toNat p1.zA.zN)),(8,.mp (Γ.n0+75)),(9,(o_ ov45)),(10,(i_ i46))],Qo Γ.n0 (bxs [(2,.cells ([(o_ c47),(i_ 0),(o_ c48),(Qg c49)])),(4,.cells ([(o_ x9),(i_ 0),(o_ a50),(Qg a51)])),(43,.cells (Q3 (fun (x:List Qc)=>[V.own 3 (List.map Qi x)]) c44)),(75,.mp (mapE (fun (x:Int)=>((i_ x):V)) (fun (x:Int)=>((i_ x):V)) 0 c52) (c52).length)]) M,Γ.n0+148⟩) h (by exact Qk ⟨(Qbg (ltB hM hk3)),(kPtr rfl),(kPtr rfl),(kSl rfl),(kMp rfl),sq,sq,tv⟩ ⟨⟨_,rfl,rfl,(.cons (WkV.nilsO _) (cS rfl (.cons (WkV.nilsO _) (.cons (WkV.nilsO _) .nil))))⟩,⟨_,rfl,rfl,(cS rfl (cS rfl (.cons (WkV.nilsO _) (.cons (WkV.nilsO _) .nil))))⟩,bM rfl rfl fun _=>rfl,⟨rfl,rfl⟩,tv⟩ rfl) (fun k53 z h=>?_)
     ·obtain ⟨ov45,i46,c47,c48,c49,a50,a51,c52⟩:=z;replace h:_=some _:=h;refine Tr.seq (sr (md rfl (mv (l_ ov45) rfl (Rn.lenD tv rfl (bN rfl (nO ?_))))));refine Tr.cond rfl (fun hb54=>?_) (fun hb54=>?_)
      ·replace h:=ifT hb54 h;refine Tr.skip (toN ?_);refine Tr.cutB (fun ((ov87,a88,a89,c90):(List Int)×(List Int)×(List Qc)×(List (Int×Int)))=>⟨look [(0,.ptr k2 0),(2,.ptr (Γ.n0+2) 0),(4,.ptr (Γ.n0+4) 0),(5,.sl 1 (Γ.n0+43) 0 (Int.toNat p1.zA.zN) (Int.toNat p1.zA.zN)),(8,.mp (Γ.n0+75)),(9,(o_ ov87)),(10,(i_ i46))],Qo Γ.n0 (bxs [(2,.cells ([(o_ c47),(i_ 0),(o_ c48),(Qg c49)])),(4,.cells ([(o_ x9),(i_ 0),(o_ a88),(Qg a89)])),(43,.cells (Q3 (fun (x:List Qc)=>[V.own 3 (List.map Qi x)]) c44)),(75,.mp (mapE (fun (x:Int)=>((i_ x):V)) (fun (x:Int)=>((i_ x):V)) 0 c90) (c90).length)]) M,Γ.n0+148⟩) h (fun z h=>?_) (fun z h=>?_)
       ·refine Tr.block ?_;refine Tr.cutB (fun ((ov77,a78,c79):(List Int)×(List Qc)×(List (Int×Int)))=>⟨look [(0,.ptr k2 0),(2,.ptr (Γ.n0+2) 0),(4,.ptr (Γ.n0+4) 0),(5,.sl 1 (Γ.n0+43) 0 (Int.toNat p1.zA.zN) (Int.toNat p1.zA.zN)),(8,.mp (Γ.n0+75)),(9,(o_ ov77)),(10,(i_ i46))],Qo Γ.n0 (bxs [(2,.cells ([(o_ c47),(i_ 0),(o_ c48),(Qg c49)])),(4,.cells ([(o_ x9),(i_ 0),(o_ a50),(Qg a78)])),(43,.cells (Q3 (fun (x:List Qc)=>[V.own 3 (List.map Qi x)]) c44)),(75,.mp (mapE (fun (x:Int)=>((i_ x):V)) (fun (x:Int)=>((i_ x):V)) 0 c79) (c79).length)]) M,Γ.n0+148⟩) h (fun z h=>?_) (fun z h=>?_)
        ·refine sr (mv (.sl 1 (Γ.n0+43) 0 (Int.toNat p1.zA.zN) (Int.toNat p1.zA.zN)) rfl (mv (l_ ov45) rfl (md rfl ?_)));obtain ⟨x55,h56,h⟩:=bnd h;refine Rn.idxD (e:=(eI .i64)) tv rfl rfl h56 (Rn.loadC (x:=.int .i64 x55) tv rfl ?_);obtain ⟨⟨⟩,h58,h⟩:=bnd h;refine Rn.idxA tv rfl rfl h58 ?_;obtain ⟨x59,h60,h⟩:=bnd h;refine Rn.loadA (g:=(fun (x:List Qc)=>[V.own 3 (List.map Qi x)])) (v:=(Qd x59)) (f:=0) (fun _=>rfl) tv rfl (Q5 rfl) h60 rfl rfl (Rn.lenD tv rfl (md rfl (nt (Tr.block ?_))));refine Tr.loop (mk:=fun ((ov61,x62,a63,c64):(List Int)×Int×(List Qc)×(List (Int×Int)))=>⟨look [(0,.ptr k2 0),(2,.ptr (Γ.n0+2) 0),(4,.ptr (Γ.n0+4) 0),(5,.sl 1 (Γ.n0+43) 0 (Int.toNat p1.zA.zN) (Int.toNat p1.zA.zN)),(8,.mp (Γ.n0+75)),(9,(o_ ov61)),(10,(i_ i46)),(90,(Qd x59)),(91,(i_ (x59.length:Int))),(92,(i_ x62))],Qo Γ.n0 (bxs [(2,.cells ([(o_ c47),(i_ 0),(o_ c48),(Qg c49)])),(4,.cells ([(o_ x9),(i_ 0),(o_ a50),(Qg a63)])),(43,.cells (Q3 (fun (x:List Qc)=>[V.own 3 (List.map Qi x)]) c44)),(75,.mp (mapE (fun (x:Int)=>((i_ x):V)) (fun (x:Int)=>((i_ x):V)) 0 c64) (c64).length)]) M,Γ.n0+148⟩) h (by exact Qk ⟨(Qbg (ltB hM hk3)),(kPtr rfl),(kPtr rfl),(kSl rfl),(kMp rfl),sq,sq,sq,sq,sq,tv⟩ ⟨bS rfl rfl rfl,bS rfl rfl rfl,bM rfl rfl fun _=>rfl,⟨rfl,rfl⟩,tv⟩ rfl) (fun k65 z h=>?_)
         ·obtain ⟨ov61,x62,a63,c64⟩:=z;replace h:_=some _:=h;refine sr (bN rfl (nt (Tr.seq ?_)));refine Tr.cond rfl (fun hb66=>?_) (fun hb66=>?_)
          ·replace h:=ifT hb66 h;refine Tr.skip (toN (Tr.seq (Tr.block (Tr.seq (Tr.rgn ?_)))));obtain ⟨x67,h68,h⟩:=bnd h;refine Rn.idxD (e:=Qi) tv rfl rfl h68 (Rn.loadCA (vs:=(Qbi x67)) tv rfl rfl rfl (Rn.alloc tv rfl (Rn.store (v:=(Qce x67)) (cs':=(Qbi x67)) tv rfl rfl rfl rfl rfl rfl (nt (sr (mv (.mp (Γ.n0+75)) rfl (fP rfl (lB (v:=(i_ x67.To)) rfl rfl rfl rfl (Rn.lookupC (ek:=(fun (x:Int)=>((i_ x):V))) (ev:=(fun (x:Int)=>((i_ x):V))) (m:=c64) (k:=x67.To) (fun _ _=>rfl) (fun _=>rfl) (fun _=>rfl) 0 rfl tv rfl rfl rfl (mv (.tup [(i_ (getM c64 x67.To 0)),(b_ (hasM c64 x67.To))]) rfl (Rn.ext (v:=(i_ (getM c64 x67.To 0))) (vs:=[(i_ (getM c64 x67.To 0)),(b_ (hasM c64 x67.To))]) tv rfl rfl rfl (Rn.ext (v:=(b_ (hasM c64 x67.To))) (vs:=[(i_ (getM c64 x67.To 0)),(b_ (hasM c64 x67.To))]) tv rfl rfl rfl (md rfl (md rfl (nO ?_)))))))))))))));refine Tr.cutB (fun ((ov72,to73,c74):(List Int)×Int×(List (Int×Int)))=>⟨look [(0,.ptr k2 0),(2,.ptr (Γ.n0+2) 0),(4,.ptr (Γ.n0+4) 0),(5,.sl 1 (Γ.n0+43) 0 (Int.toNat p1.zA.zN) (Int.toNat p1.zA.zN)),(8,.mp (Γ.n0+75)),(9,(o_ ov72)),(10,(i_ i46)),(12,.ptr (Γ.n0+12) 0),(13,(i_ to73)),(90,(Qd x59)),(91,(i_ (x59.length:Int))),(92,(i_ x62))],Qo Γ.n0 (bxs [(2,.cells ([(o_ c47),(i_ 0),(o_ c48),(Qg c49)])),(4,.cells ([(o_ x9),(i_ 0),(o_ a50),(Qg a63)])),(12,.cells ((Qbi x67))),(43,.cells (Q3 (fun (x:List Qc)=>[V.own 3 (List.map Qi x)]) c44)),(75,.mp (mapE (fun (x:Int)=>((i_ x):V)) (fun (x:Int)=>((i_ x):V)) 0 c74) (c74).length)]) M,Γ.n0+148⟩) h (fun z h=>?_) (fun z h=>?_)
           ·refine sr (md rfl (Rn.un tv rfl rfl (nO ?_)));refine Tr.cond rfl (fun hb69=>?_) (fun hb69=>?_)
            ·have hb69:=nT' hb69;replace h:=bF hb69 h;refine sr (mv (l_ ov61) rfl (Rn.lenD tv rfl (md rfl (nt (sr (mv (.mp (Γ.n0+75)) rfl (fP rfl (lB (v:=(i_ x67.To)) rfl rfl rfl rfl (md rfl (Rn.mapset (ek:=(fun (x:Int)=>((i_ x):V))) (ev:=(fun (x:Int)=>((i_ x):V))) (m:=c64) (k:=x67.To) (v:=(ov61.length:Int)) (fun _ _=>rfl) (fun _=>rfl) (fun _=>rfl) tv rfl rfl rfl rfl rfl (nt (Tr.rgn (Rn.movTO tv rfl (fP rfl (lB (v:=(i_ x67.To)) rfl rfl rfl rfl (Rn.bslice (xs:=[(i_ x67.To)]) (cs:=[(i_ x67.To)]) tv rfl rfl rfl rfl ?_))))))))))))))));obtain ⟨x70,h71,h⟩:=bnd h;refine Rn.app (e:=(eI .i64)) tv rfl rfl rfl (Qbz rfl rfl rfl) h71 rfl (Rn.movTO tv rfl (Rn.nil ?_));cases sj h;exact Qf [114] ⟨(Qbg (ltB hM hk3)),(kPtr rfl),(kPtr rfl),(kSl rfl),(kMp rfl),sq,sq,(kPtr rfl),sq,sq,sq,sq,tv⟩ ⟨bS rfl rfl rfl,bS rfl rfl rfl,bS rfl rfl rfl,bM rfl rfl fun _=>rfl,⟨rfl,rfl⟩,tv⟩ rfl
            ·have hb69:=nF' hb69;replace h:=bT hb69 h;refine Tr.skip ?_;cases sj h;exact Qf [] ⟨(Qbg (ltB hM hk3)),(kPtr rfl),(kPtr rfl),(kSl rfl),(kMp rfl),sq,sq,(kPtr rfl),sq,sq,sq,sq,tv⟩ ⟨bS rfl rfl rfl,bS rfl rfl rfl,bS rfl rfl rfl,bM rfl rfl fun _=>rfl,⟨rfl,rfl⟩,tv⟩ rfl
           ·obtain ⟨ov72,to73,c74⟩:=z;refine Tr.rgn (fP rfl (Rn.loadT (cs':=[(o_ x9),(i_ 0),(o_ a50),(Qd a63)]) tv rfl rfl rfl rfl (md rfl (fP rfl (lB (v:=(i_ x67.Event)) rfl rfl rfl rfl (md rfl (Rn.build (v:=.agg [(i_ i46),(i_ x67.Event),(i_ to73)]) tv rfl (Rn.bslice (xs:=[.agg [(i_ i46),(i_ x67.Event),(i_ to73)]]) (cs:=[(i_ i46),(i_ x67.Event),(i_ to73)]) tv rfl rfl rfl rfl ?_))))))));obtain ⟨x75,h76,h⟩:=bnd h;refine Rn.app (e:=Qi) tv rfl rfl rfl (Qbz rfl rfl rfl) h76 rfl (fP rfl (Rn.storeO (cs':=[(o_ x9),(i_ 0),(o_ a50),(Qg x75)]) tv rfl rfl rfl rfl rfl (nt (Tr.rgn (bN rfl (md rfl (Rn.nil ?_)))))));exact ⟨_,h,(by exact Qk ⟨(Qbg (ltB hM hk3)),(kPtr rfl),(kPtr rfl),(kSl rfl),(kMp rfl),sq,sq,sq,sq,sq,tv⟩ ⟨bS rfl rfl rfl,bS rfl rfl rfl,bM rfl rfl fun _=>rfl,⟨rfl,rfl⟩,tv⟩ rfl)⟩
          ·replace h:=ifF hb66 h;refine Tr.exit ?_;cases sj h;exact Qf [] ⟨(Qbg (ltB hM hk3)),(kPtr rfl),(kPtr rfl),(kSl rfl),(kMp rfl),sq,sq,tv⟩ ⟨bS rfl rfl rfl,bS rfl rfl rfl,bM rfl rfl fun _=>rfl,⟨rfl,rfl⟩,tv⟩ rfl
        ·obtain ⟨ov77,a78,c79⟩:=z;refine Tr.seq ?_;refine Tr.rgnD (by decide) ?_;refine mv (.ptr k2 0) rfl (Rn.nilchkP tv rfl (fP rfl (fP rfl (Rn.load (v:=(f_ p1.zA.zL)) tv rfl (Qz hM hk3) rfl rfl (mv (l_ ov77) rfl (md rfl ?_))))));obtain ⟨x80,h81,h⟩:=bnd h;refine Rn.idxD (e:=(eI .i64)) tv rfl rfl h81 (Rn.loadC (x:=.int .i64 x80) tv rfl ?_);obtain ⟨x83,h82,h⟩:=bnd h;refine Rn.call (args:=[(f_ p1.zA.zL),(i_ x80)]) tv rfl (fun M2 nb2=>ACalls.weak (args':=[(l_ p1.zA.zL),(i_ x80)]) (Hbb _ _ _ h82 M2 nb2) (.cons fToD (cS rfl .nil)) rfl) pc0 ?_;refine Rn.nil ⟨rfl,?_⟩;refine toN ?_;refine Tr.cond rfl (fun hb84=>?_) (fun hb84=>?_)
         ·replace h:=bT hb84 h;refine Tr.rgn (fP rfl (Rn.loadT (cs':=[(o_ x9),(i_ 0),(l_ a50),(Qg a78)]) tv rfl rfl rfl rfl (md rfl (Rn.bslice (xs:=[(i_ i46)]) (cs:=[(i_ i46)]) tv rfl rfl rfl rfl ?_))));obtain ⟨x85,h86,h⟩:=bnd h;refine Rn.app (e:=(eI .i64)) tv rfl rfl rfl (Qbz rfl rfl rfl) h86 rfl (fP rfl (Rn.storeO (cs':=[(o_ x9),(i_ 0),(o_ x85),(Qg a78)]) tv rfl rfl rfl rfl rfl (Rn.nil ?_)));cases sj h;exact Qf [140] ⟨(Qbg (ltB hM hk3)),(kPtr rfl),(kPtr rfl),(kSl rfl),(kMp rfl),sq,sq,tv⟩ ⟨bS rfl rfl rfl,bS rfl rfl rfl,bM rfl rfl fun _=>rfl,⟨rfl,rfl⟩,tv⟩ rfl
         ·replace h:=bF hb84 h;refine Tr.skip ?_;cases sj h;exact Qf [] ⟨(Qbg (ltB hM hk3)),(kPtr rfl),(kPtr rfl),(kSl rfl),(kMp rfl),sq,sq,tv⟩ ⟨bS rfl rfl rfl,bS rfl rfl rfl,bM rfl rfl fun _=>rfl,⟨rfl,rfl⟩,tv⟩ rfl
       ·obtain ⟨ov87,a88,a89,c90⟩:=z;refine Tr.rgn (md rfl (bN rfl (md rfl (Rn.nil ?_))));exact ⟨_,h,(by exact Qk ⟨(Qbg (ltB hM hk3)),(kPtr rfl),(kPtr rfl),(kSl rfl),(kMp rfl),sq,sq,tv⟩ ⟨bS rfl rfl rfl,bS rfl rfl rfl,bM rfl rfl fun _=>rfl,⟨rfl,rfl⟩,tv⟩ rfl)⟩
      ·replace h:=ifF hb54 h;refine Tr.exit ?_;cases sj h;exact Qf [] ⟨(kPtr rfl),(kPtr rfl),sq,tv⟩ ⟨bS rfl rfl rfl,bS rfl rfl rfl,bM rfl rfl fun _=>rfl,⟨rfl,rfl⟩,tv⟩ rfl
    ·obtain ⟨ov91,c92,c93,c94,a95,a96,c97⟩:=z;refine sr (mv (l_ ov91) rfl (Rn.lenD tv rfl (fP rfl (Rn.store (v:=(i_ (ov91.length:Int))) (cs':=[(o_ x9),(i_ (ov91.length:Int)),(o_ a95),(Qg a96)]) tv rfl rfl rfl rfl rfl rfl (nt (sr (lB (v:=.agg [(l_ x9),(i_ (ov91.length:Int)),(l_ a95),(Qd a96)]) rfl rfl rfl rfl (Rn.movTO tv rfl (Rn.storeT (v:=.agg [(l_ x9),(i_ (ov91.length:Int)),(l_ a95),(Qd a96)]) (ds:=[(l_ x9),(i_ (ov91.length:Int)),(l_ a95),(Qd a96)]) (cs':=[(l_ x9),(i_ (ov91.length:Int)),(l_ a95),(Qd a96)]) tv rfl rfl rfl rfl rfl rfl rfl (Rn.movTO tv rfl (nt (Tr.ret ?_))))))))))));cases sj h;exact ⟨.inr rfl,.tup [.agg [(l_ x9),(i_ (ov91.length:Int)),(l_ a95),(Qd a96)],(o_ ov91)],res2 (Qhi rfl rfl rfl rfl) rfl,(WkV.tup (cS rfl (cS rfl .nil))).rd,⟨⟨tv,tv,tv,tv,tv⟩,tv,tv⟩,mB⟩
theorem Q38 {P:Program} {c:Nat} {Qdo:_} {Qb2:_} {f_slices_SortFunc_Removal:_} {Q1:_} {Qbe:_}
    (Hbr:Qoh P 99 Qdo)
    (Hbo:Qg9 P 100 Qb2)
    (Hbf:RowK P 101 Qt 4 [.clo 102 []] f_slices_SortFunc_Removal)
    (Hbm:Qdz P 103 Q1)
    (Hbp:Qez P 104 Qbe) (hcf:Qy P c=some Qmp) (fuel:Nat):Qmo P c (Qdb Qdo Qb2 f_slices_SortFunc_Removal Q1 Qbe fuel):=by
 intro a1 fv2 uv3 av4 r h;refine Qbrp hcf (args':=[.agg [(f_ a1.zK),(i_ a1.zN),(f_ a1.zL),.f (.lst 3 (List.map Qi a1.zM))],(f_ fv2),(f_ uv3),(b_ av4)]) rfl rfl rfl rfl rfl rfl fun Γ M hP hnt hG hM0 hM=>?_;subst hP;refine Tr.init [(0,.agg [(f_ a1.zK),(i_ a1.zN),(f_ a1.zL),.f (.lst 3 (List.map Qi a1.zM))]),(1,(f_ fv2)),(2,(f_ uv3)),(3,(b_ av4))] rfl ?_;unfold Qdb at h;unfold Qmp;refine sr (Rn.box (v:=.agg [(f_ a1.zK),(i_ a1.zN),(f_ a1.zL),.f (.lst 3 (List.map Qi a1.zM))]) (cs:=[(f_ a1.zK),(i_ a1.zN),(f_ a1.zL),.f (.lst 3 (List.map Qi a1.zM))]) tv rfl rfl rfl rfl rfl (Rn.alloc tv rfl (nt (sr (lB (v:=.agg [(f_ a1.zK),(i_ a1.zN),(f_ a1.zL),.f (.lst 3 (List.map Qi a1.zM))]) rfl rfl rfl rfl (mv (f_ fv2) rfl (mv (f_ uv3) rfl ?_)))))));obtain ⟨x5,h6,h⟩:=bnd h;refine Rn.callNew (m:=116) (args:=[.agg [(f_ a1.zK),(i_ a1.zN),(f_ a1.zL),.f (.lst 3 (List.map Qi a1.zM))],(f_ fv2),(f_ uv3)]) (r':=.ptr (Γ.n0+136) 0) (L':=[(136,.cells [(f_ x5.zA.zK),(i_ x5.zA.zN),(f_ x5.zA.zL),.f (.lst 3 (List.map Qi x5.zA.zM)),(f_ x5.uncontrollable_),.mp (Γ.n0+131),.sl 1 (Γ.n0+134) 0 x5.left_.length x5.left_.length]),(131,.mp (mapE (fun (x:Int)=>((i_ x):V)) (ownE 1 (eI .i64)) 0 x5.back_) (x5.back_).length),(134,.cells (Q3 (fun (x:Bool)=>[V.d (.bool x)]) x5.left_))]) tv rfl (Hbr _ _ _ _ h6 _ _) rfl rfl rfl hM rfl (mv (.ptr (Γ.n0+136) 0) rfl (nt (sr (Rn.alloc tv rfl (nO ?_)))));refine Tr.cutB (fun ((c29,c30,c31,c32,c33,c34,c35,r36,r37,r38,r39,r40,r41,r42,r43):(List Int)×(List Int)×(List Qb)×(List Int)×(List Int)×(List Qc)×(List Int)×(List Int)×(List Int)×(List Qb)×Int×(List Int)×(List Int)×(List Qc)×(List Int))=>⟨look [(3,(b_ av4)),(8,.ptr (Γ.n0+8) 0),(9,.ptr (Γ.n0+136) 0),(10,.ptr (Γ.n0+10) 0)],Qo Γ.n0 (bxs [(4,.cells ([(f_ a1.zK),(i_ a1.zN),(f_ a1.zL),.f (.lst 3 (List.map Qi a1.zM))])),(8,.cells ([(o_ c29),(o_ c30),(Qm c31),(i_ 0),(o_ c32),(i_ 0),(o_ c33),(Qg c34),(o_ c35)])),(10,.cells ([(o_ r36),(o_ r37),(Qm r38),(i_ r39),(o_ r40),(i_ 0),(o_ r41),(Qg r42),(o_ r43)])),(131,.mp (mapE (fun (x:Int)=>((i_ x):V)) (ownE 1 (eI .i64)) 0 x5.back_) (x5.back_).length),(134,.cells (Q3 (fun (x:Bool)=>[V.d (.bool x)]) x5.left_)),(136,.cells ([(f_ x5.zA.zK),(i_ x5.zA.zN),(f_ x5.zA.zL),.f (.lst 3 (List.map Qi x5.zA.zM)),(f_ x5.uncontrollable_),.mp (Γ.n0+131),.sl 1 (Γ.n0+134) 0 x5.left_.length x5.left_.length]))]) M,Γ.n0+191⟩) h (fun z h=>?_) (fun z h=>?_)
 ·refine sr (mv (f_ fv2) rfl ?_);refine Rn.weak (by show WeakSt Γ _ ⟨look [(0,.agg [(f_ a1.zK),(i_ a1.zN),(f_ a1.zL),.f (.lst 3 (List.map Qi a1.zM))]),(1,(f_ fv2)),(2,(f_ uv3)),(3,(b_ av4)),(4,.ptr (Γ.n0+4) 0),(8,.ptr (Γ.n0+8) 0),(9,.ptr (Γ.n0+136) 0),(10,.ptr (Γ.n0+10) 0),(19,.agg [(f_ a1.zK),(i_ a1.zN),(f_ a1.zL),.f (.lst 3 (List.map Qi a1.zM))]),(20,(f_ fv2)),(21,(f_ uv3)),(22,.ptr (Γ.n0+136) 0),(23,(l_ fv2))],Qo Γ.n0 (bxs [(4,.cells ([(f_ a1.zK),(i_ a1.zN),(f_ a1.zL),.f (.lst 3 (List.map Qi a1.zM))])),(8,.cells ([.nils 1,.nils 1,.nils 4,(i_ 0),.nils 1,(i_ 0),.nils 1,.nils 3,.nils 1])),(10,.cells ([.nils 1,.nils 1,.nils 4,(i_ 0),.nils 1,(i_ 0),.nils 1,.nils 3,.nils 1])),(131,.mp (mapE (fun (x:Int)=>((i_ x):V)) (ownE 1 (eI .i64)) 0 x5.back_) (x5.back_).length),(134,.cells (Q3 (fun (x:Bool)=>[V.d (.bool x)]) x5.left_)),(136,.cells ([(f_ x5.zA.zK),(i_ x5.zA.zN),(f_ x5.zA.zL),.f (.lst 3 (List.map Qi x5.zA.zM)),(f_ x5.uncontrollable_),.mp (Γ.n0+131),.sl 1 (Γ.n0+134) 0 x5.left_.length x5.left_.length]))]) M,Γ.n0+191⟩;exact Qf [] ⟨sq,sq,sq,sq,(kPtr rfl),(kPtr rfl),(kPtr rfl),(kPtr rfl),sq,sq,sq,(kPtr rfl),fToD,tv⟩ ⟨bS rfl rfl rfl,bS rfl rfl rfl,bS rfl rfl rfl,⟨rfl,rfl⟩,bM rfl rfl fun _=>rfl,⟨_,rfl,rfl,(cS rfl (cS rfl (cS rfl (cS rfl (cS rfl (.cons (kMp rfl) (.cons (kSl rfl) .nil)))))))⟩,tv⟩ rfl) ?_;refine Rn.lenD tv rfl (md rfl (nt (Tr.block ?_)));refine Tr.loop (mk:=fun ((x7,c8,c9,c10,c11,c12,c13,c14,r15,r16,r17,r18,r19,r20,r21,r22):Int×(List Int)×(List Int)×(List Qb)×(List Int)×(List Int)×(List Qc)×(List Int)×(List Int)×(List Int)×(List Qb)×Int×(List Int)×(List Int)×(List Qc)×(List Int))=>⟨look [(3,(b_ av4)),(8,.ptr (Γ.n0+8) 0),(9,.ptr (Γ.n0+136) 0),(10,.ptr (Γ.n0+10) 0),(23,(l_ fv2)),(24,(i_ (fv2.length:Int))),(25,(i_ x7))],Qo Γ.n0 (bxs [(4,.cells ([(f_ a1.zK),(i_ a1.zN),(f_ a1.zL),.f (.lst 3 (List.map Qi a1.zM))])),(8,.cells ([(o_ c8),(o_ c9),(Qm c10),(i_ 0),(o_ c11),(i_ 0),(o_ c12),(Qg c13),(o_ c14)])),(10,.cells ([(o_ r15),(o_ r16),(Qm r17),(i_ r18),(o_ r19),(i_ 0),(o_ r20),(Qg r21),(o_ r22)])),(131,.mp (mapE (fun (x:Int)=>((i_ x):V)) (ownE 1 (eI .i64)) 0 x5.back_) (x5.back_).length),(134,.cells (Q3 (fun (x:Bool)=>[V.d (.bool x)]) x5.left_)),(136,.cells ([(f_ x5.zA.zK),(i_ x5.zA.zN),(f_ x5.zA.zL),.f (.lst 3 (List.map Qi x5.zA.zM)),(f_ x5.uncontrollable_),.mp (Γ.n0+131),.sl 1 (Γ.n0+134) 0 x5.left_.length x5.left_.length]))]) M,Γ.n0+191⟩) h (by exact Qk ⟨sq,(kPtr rfl),(kPtr rfl),(kPtr rfl),sq,sq,sq,tv⟩ ⟨bS rfl rfl rfl,⟨_,rfl,rfl,(.cons (WkV.nilsO _) (.cons (WkV.nilsO _) (.cons (WkV.nilsO _) (cS rfl (.cons (WkV.nilsO _) (cS rfl (.cons (WkV.nilsO _) (.cons (WkV.nilsO _) (.cons (WkV.nilsO _) .nil)))))))))⟩,⟨_,rfl,rfl,(.cons (WkV.nilsO _) (.cons (WkV.nilsO _) (.cons (WkV.nilsO _) (cS rfl (.cons (WkV.nilsO _) (cS rfl (.cons (WkV.nilsO _) (.cons (WkV.nilsO _) (.cons (WkV.nilsO _) .nil)))))))))⟩,⟨rfl,rfl⟩,bM rfl rfl fun _=>rfl,⟨_,rfl,rfl,(cS rfl (cS rfl (cS rfl (cS rfl (cS rfl (.cons (kMp rfl) (.cons (kSl rfl) .nil)))))))⟩,tv⟩ rfl) (fun k23 z h=>?_)
  ·obtain ⟨x7,c8,c9,c10,c11,c12,c13,c14,r15,r16,r17,r18,r19,r20,r21,r22⟩:=z;replace h:_=some _:=h;refine sr (bN rfl (nt (Tr.seq ?_)));refine Tr.cond rfl (fun hb24=>?_) (fun hb24=>?_)
   ·replace h:=ifT hb24 h;refine Tr.skip (toN (Tr.seq (Tr.block (Tr.seq (Tr.rgn ?_)))));obtain ⟨x25,h26,h⟩:=bnd h;refine Rn.idxD (e:=(eI .i64)) tv rfl rfl h26 (Rn.loadC (x:=.int .i64 x25) tv rfl (md rfl (nt (sr (fP rfl (fP rfl (Rn.loadT (cs':=[(o_ r15),(o_ r16),(Qbn r17),(i_ r18),(o_ r19),(i_ 0),(o_ r20),(Qg r21),(o_ r22)]) tv rfl rfl rfl rfl (md rfl (Rn.build (v:=.agg [(i_ x25),(i_ 1),(i_ 1),(i_ (-1))]) tv rfl (Rn.bslice (xs:=[.agg [(i_ x25),(i_ 1),(i_ 1),(i_ (-1))]]) (cs:=[(i_ x25),(i_ 1),(i_ 1),(i_ (-1))]) tv rfl rfl rfl rfl ?_))))))))));obtain ⟨x27,h28,h⟩:=bnd h;refine Rn.app (e:=Qt) tv rfl rfl rfl (Qbz rfl rfl rfl) h28 rfl (fP rfl (fP rfl (Rn.storeO (cs':=[(o_ r15),(o_ r16),(Qm x27),(i_ r18),(o_ r19),(i_ 0),(o_ r20),(Qg r21),(o_ r22)]) tv rfl rfl rfl rfl rfl (nt (Tr.rgn (fP rfl (Rn.store (v:=(i_ 1)) (cs':=[(o_ r15),(o_ r16),(Qm x27),(i_ 1),(o_ r19),(i_ 0),(o_ r20),(Qg r21),(o_ r22)]) tv rfl rfl rfl rfl rfl rfl (nt (Tr.rgn (bN rfl (md rfl (Rn.nil ?_))))))))))));exact ⟨_,h,(by exact Qk ⟨sq,(kPtr rfl),(kPtr rfl),(kPtr rfl),sq,sq,sq,tv⟩ ⟨bS rfl rfl rfl,bS rfl rfl rfl,bS rfl rfl rfl,⟨rfl,rfl⟩,bM rfl rfl fun _=>rfl,⟨_,rfl,rfl,(cS rfl (cS rfl (cS rfl (cS rfl (cS rfl (.cons (kMp rfl) (.cons (kSl rfl) .nil)))))))⟩,tv⟩ rfl)⟩
   ·replace h:=ifF hb24 h;refine Tr.exit ?_;cases sj h;exact Qf [] ⟨sq,(kPtr rfl),(kPtr rfl),(kPtr rfl),tv⟩ ⟨bS rfl rfl rfl,bS rfl rfl rfl,bS rfl rfl rfl,⟨rfl,rfl⟩,bM rfl rfl fun _=>rfl,⟨_,rfl,rfl,(cS rfl (cS rfl (cS rfl (cS rfl (cS rfl (.cons (kMp rfl) (.cons (kSl rfl) .nil)))))))⟩,tv⟩ rfl
 ·obtain ⟨c29,c30,c31,c32,c33,c34,c35,r36,r37,r38,r39,r40,r41,r42,r43⟩:=z;refine Tr.cutB (fun ((r66,r67,c68):(List Qb)×Int×(List Bool))=>⟨look [(8,.ptr (Γ.n0+8) 0),(9,.ptr (Γ.n0+136) 0),(10,.ptr (Γ.n0+10) 0)],Qo Γ.n0 (bxs [(4,.cells ([(f_ a1.zK),(i_ a1.zN),(f_ a1.zL),.f (.lst 3 (List.map Qi a1.zM))])),(8,.cells ([(o_ c29),(o_ c30),(Qm c31),(i_ 0),(o_ c32),(i_ 0),(o_ c33),(Qg c34),(o_ c35)])),(10,.cells ([(o_ r36),(o_ r37),(Qm r66),(i_ r67),(o_ r40),(i_ 0),(o_ r41),(Qg r42),(o_ r43)])),(131,.mp (mapE (fun (x:Int)=>((i_ x):V)) (ownE 1 (eI .i64)) 0 x5.back_) (x5.back_).length),(134,.cells (Q3 (fun (x:Bool)=>[V.d (.bool x)]) c68)),(136,.cells ([(f_ x5.zA.zK),(i_ x5.zA.zN),(f_ x5.zA.zL),.f (.lst 3 (List.map Qi x5.zA.zM)),(f_ x5.uncontrollable_),.mp (Γ.n0+131),.sl 1 (Γ.n0+134) 0 x5.left_.length x5.left_.length]))]) M,Γ.n0+191⟩) h (fun z h=>?_) (fun z h=>?_)
  ·refine sr (md rfl (nt (Tr.block ?_)));refine Tr.loop (mk:=fun ((rv44,r45,r46,c47):Int×(List Qb)×Int×(List Bool))=>⟨look [(3,(b_ av4)),(8,.ptr (Γ.n0+8) 0),(9,.ptr (Γ.n0+136) 0),(10,.ptr (Γ.n0+10) 0),(13,(i_ rv44))],Qo Γ.n0 (bxs [(4,.cells ([(f_ a1.zK),(i_ a1.zN),(f_ a1.zL),.f (.lst 3 (List.map Qi a1.zM))])),(8,.cells ([(o_ c29),(o_ c30),(Qm c31),(i_ 0),(o_ c32),(i_ 0),(o_ c33),(Qg c34),(o_ c35)])),(10,.cells ([(o_ r36),(o_ r37),(Qm r45),(i_ r46),(o_ r40),(i_ 0),(o_ r41),(Qg r42),(o_ r43)])),(131,.mp (mapE (fun (x:Int)=>((i_ x):V)) (ownE 1 (eI .i64)) 0 x5.back_) (x5.back_).length),(134,.cells (Q3 (fun (x:Bool)=>[V.d (.bool x)]) c47)),(136,.cells ([(f_ x5.zA.zK),(i_ x5.zA.zN),(f_ x5.zA.zL),.f (.lst 3 (List.map Qi x5.zA.zM)),(f_ x5.uncontrollable_),.mp (Γ.n0+131),.sl 1 (Γ.n0+134) 0 x5.left_.length x5.left_.length]))]) M,Γ.n0+191⟩) h (by exact Qk ⟨sq,(kPtr rfl),(kPtr rfl),(kPtr rfl),sq,tv⟩ ⟨bS rfl rfl rfl,bS rfl rfl rfl,bS rfl rfl rfl,⟨rfl,rfl⟩,bM rfl rfl fun _=>rfl,⟨_,rfl,rfl,(cS rfl (cS rfl (cS rfl (cS rfl (cS rfl (.cons (kMp rfl) (.cons (kSl rfl) .nil)))))))⟩,tv⟩ rfl) (fun k48 z h=>?_)
   ·obtain ⟨rv44,r45,r46,c47⟩:=z;replace h:_=some _:=h;refine Tr.seq (Tr.block (sr (mv (.ptr (Γ.n0+136) 0) rfl (md rfl (md rfl ?_)))));obtain ⟨⟨⟩,hl49,h⟩:=bnd h;obtain ⟨x51,h50,h⟩:=bnd h;refine Rn.callM (args:=[.ptr (Γ.n0+136) 0,(i_ rv44),(b_ av4)]) tv rfl (fun M2 nb2 hn hx=>Hbo _ _ _ (Γ.n0+136) (Γ.n0+131) (Γ.n0+134) _ h50 M2 nb2 (by rw [Qed hl49];exact (hx _ _ (Q5 rfl))) (hx _ _ (Q5 rfl)) (hx _ _ (Q5 rfl))) rfl pc9 ?_;refine Rn.movTO tv rfl (nt (Tr.seq (sr (mv (Qbn x51) rfl (Rn.lenD tv rfl (bN rfl (nO ?_)))))));refine Tr.cond rfl (fun hb52=>?_) (fun hb52=>?_)
    ·replace h:=bT hb52 h;refine Tr.exit ?_;cases sj h;exact Qf [] ⟨(kPtr rfl),(kPtr rfl),(kPtr rfl),tv⟩ ⟨bS rfl rfl rfl,bS rfl rfl rfl,bS rfl rfl rfl,⟨rfl,rfl⟩,bM rfl rfl fun _=>rfl,⟨_,rfl,rfl,(cS rfl (cS rfl (cS rfl (cS rfl (cS rfl (.cons (kMp rfl) (.cons (kSl rfl) .nil)))))))⟩,tv⟩ rfl
    ·replace h:=bF hb52 h;refine Tr.skip (toN ?_);refine Tr.cutB (fun (c63:List Bool)=>⟨look [(3,(b_ av4)),(8,.ptr (Γ.n0+8) 0),(9,.ptr (Γ.n0+136) 0),(10,.ptr (Γ.n0+10) 0),(13,(i_ rv44)),(14,(Qm x51))],Qo Γ.n0 (bxs [(4,.cells ([(f_ a1.zK),(i_ a1.zN),(f_ a1.zL),.f (.lst 3 (List.map Qi a1.zM))])),(8,.cells ([(o_ c29),(o_ c30),(Qm c31),(i_ 0),(o_ c32),(i_ 0),(o_ c33),(Qg c34),(o_ c35)])),(10,.cells ([(o_ r36),(o_ r37),(Qm r45),(i_ r46),(o_ r40),(i_ 0),(o_ r41),(Qg r42),(o_ r43)])),(131,.mp (mapE (fun (x:Int)=>((i_ x):V)) (ownE 1 (eI .i64)) 0 x5.back_) (x5.back_).length),(134,.cells (Q3 (fun (x:Bool)=>[V.d (.bool x)]) c63)),(136,.cells ([(f_ x5.zA.zK),(i_ x5.zA.zN),(f_ x5.zA.zL),.f (.lst 3 (List.map Qi x5.zA.zM)),(f_ x5.uncontrollable_),.mp (Γ.n0+131),.sl 1 (Γ.n0+134) 0 x5.left_.length x5.left_.length]))]) M,Γ.n0+191⟩) h (fun z h=>?_) (fun z h=>?_)
     ·refine sr (mv (Qbn x51) rfl (Rn.lenD tv rfl (md rfl (nt (Tr.block ?_)))));refine Tr.loop (mk:=fun ((x53,c54):Int×(List Bool))=>⟨look [(3,(b_ av4)),(8,.ptr (Γ.n0+8) 0),(9,.ptr (Γ.n0+136) 0),(10,.ptr (Γ.n0+10) 0),(13,(i_ rv44)),(14,(Qm x51)),(49,(Qbn x51)),(50,(i_ (x51.length:Int))),(51,(i_ x53))],Qo Γ.n0 (bxs [(4,.cells ([(f_ a1.zK),(i_ a1.zN),(f_ a1.zL),.f (.lst 3 (List.map Qi a1.zM))])),(8,.cells ([(o_ c29),(o_ c30),(Qm c31),(i_ 0),(o_ c32),(i_ 0),(o_ c33),(Qg c34),(o_ c35)])),(10,.cells ([(o_ r36),(o_ r37),(Qm r45),(i_ r46),(o_ r40),(i_ 0),(o_ r41),(Qg r42),(o_ r43)])),(131,.mp (mapE (fun (x:Int)=>((i_ x):V)) (ownE 1 (eI .i64)) 0 x5.back_) (x5.back_).length),(134,.cells (Q3 (fun (x:Bool)=>[V.d (.bool x)]) c54)),(136,.cells ([(f_ x5.zA.zK),(i_ x5.zA.zN),(f_ x5.zA.zL),.f (.lst 3 (List.map Qi x5.zA.zM)),(f_ x5.uncontrollable_),.mp (Γ.n0+131),.sl 1 (Γ.n0+134) 0 x5.left_.length x5.left_.length]))]) M,Γ.n0+191⟩) h (by exact Qk ⟨sq,(kPtr rfl),(kPtr rfl),(kPtr rfl),sq,sq,sq,sq,sq,tv⟩ ⟨bS rfl rfl rfl,bS rfl rfl rfl,bS rfl rfl rfl,⟨rfl,rfl⟩,bM rfl rfl fun _=>rfl,⟨_,rfl,rfl,(cS rfl (cS rfl (cS rfl (cS rfl (cS rfl (.cons (kMp rfl) (.cons (kSl rfl) .nil)))))))⟩,tv⟩ rfl) (fun k55 z h=>?_)
      ·obtain ⟨x53,c54⟩:=z;replace h:_=some _:=h;refine sr (bN rfl (nt (Tr.seq ?_)));refine Tr.cond rfl (fun hb56=>?_) (fun hb56=>?_)
       ·replace h:=ifT hb56 h;refine Tr.skip (toN (Tr.seq (Tr.block (Tr.seq (Tr.rgn ?_)))));obtain ⟨x57,h58,h⟩:=bnd h;refine Rn.idxD (e:=Qt) tv rfl rfl h58 (Rn.loadCA (vs:=(Qfg x57)) tv rfl rfl rfl (Rn.alloc tv rfl (Rn.store (v:=(Qdy x57)) (cs':=(Qfg x57)) tv rfl rfl rfl rfl rfl rfl (nO ?_))));refine Tr.rgnD (by decide) ?_;refine mv (.ptr (Γ.n0+136) 0) rfl (Rn.nilchkP tv rfl (fP rfl (lB (v:=.sl 1 (Γ.n0+134) 0 x5.left_.length x5.left_.length) rfl rfl rfl rfl (fP rfl (lB (v:=(i_ x57.State)) rfl rfl rfl rfl ?_)))));obtain ⟨⟨⟩,h60,h⟩:=bnd h;refine Rn.idxA tv rfl rfl h60 ?_;obtain ⟨x61,h62,h⟩:=bnd h;refine Rn.storeA (g:=(fun (x:Bool)=>[V.d (.bool x)])) (v:=(b_ false)) (fun _=>rfl) tv rfl rfl rfl rfl rfl h62 ?_;refine Rn.nil ⟨rfl,?_⟩;refine toN (Tr.rgn (bN rfl (md rfl (Rn.nil ?_))));exact ⟨_,h,(by exact Qk ⟨sq,(kPtr rfl),(kPtr rfl),(kPtr rfl),sq,sq,sq,sq,sq,tv⟩ ⟨bS rfl rfl rfl,bS rfl rfl rfl,bS rfl rfl rfl,⟨rfl,rfl⟩,bM rfl rfl fun _=>rfl,⟨_,rfl,rfl,(cS rfl (cS rfl (cS rfl (cS rfl (cS rfl (.cons (kMp rfl) (.cons (kSl rfl) .nil)))))))⟩,tv⟩ rfl)⟩
       ·replace h:=ifF hb56 h;refine Tr.exit ?_;replace h:=si h;subst h;exact Qf [] ⟨sq,(kPtr rfl),(kPtr rfl),(kPtr rfl),sq,sq,tv⟩ ⟨bS rfl rfl rfl,bS rfl rfl rfl,bS rfl rfl rfl,⟨rfl,rfl⟩,bM rfl rfl fun _=>rfl,⟨_,rfl,rfl,(cS rfl (cS rfl (cS rfl (cS rfl (cS rfl (.cons (kMp rfl) (.cons (kSl rfl) .nil)))))))⟩,tv⟩ rfl
     ·obtain ⟨c63,rfl⟩ : ∃ x,x=z:=⟨_,rfl⟩;refine sr (fP rfl (fP rfl (Rn.loadT (cs':=[(o_ r36),(o_ r37),(Qbn r45),(i_ r46),(o_ r40),(i_ 0),(o_ r41),(Qg r42),(o_ r43)]) tv rfl rfl rfl rfl (mv (Qbn x51) rfl ?_))));obtain ⟨x64,h65,h⟩:=bnd h;refine Rn.app (e:=Qt) tv rfl rfl rfl Qbc1 h65 rfl (fP rfl (fP rfl (Rn.storeO (cs':=[(o_ r36),(o_ r37),(Qm x64),(i_ r46),(o_ r40),(i_ 0),(o_ r41),(Qg r42),(o_ r43)]) tv rfl rfl rfl rfl rfl (nt (Tr.rgn (md rfl (fP rfl (Rn.store (v:=(i_ rv44)) (cs':=[(o_ r36),(o_ r37),(Qm x64),(i_ rv44),(o_ r40),(i_ 0),(o_ r41),(Qg r42),(o_ r43)]) tv rfl rfl rfl rfl rfl rfl (nt (Tr.rgn (md rfl (bN rfl (md rfl (Rn.nil ?_))))))))))))));exact ⟨_,h,(by exact Qk ⟨sq,(kPtr rfl),(kPtr rfl),(kPtr rfl),sq,tv⟩ ⟨bS rfl rfl rfl,bS rfl rfl rfl,bS rfl rfl rfl,⟨rfl,rfl⟩,bM rfl rfl fun _=>rfl,⟨_,rfl,rfl,(cS rfl (cS rfl (cS rfl (cS rfl (cS rfl (.cons (kMp rfl) (.cons (kSl rfl) .nil)))))))⟩,tv⟩ rfl)⟩
  ·obtain ⟨r66,r67,c68⟩:=z;obtain ⟨rv69,hs70,h⟩:=bnd h;obtain ⟨hl71,hn72,hr73⟩:=Hbf _ _ hs70;refine Tr.seqW ⟨look [(8,.ptr (Γ.n0+8) 0),(9,.ptr (Γ.n0+136) 0),(10,.ptr (Γ.n0+10) 0)],Qo Γ.n0 (bxs [(8,.cells ([(o_ c29),(o_ c30),(Qm c31),(i_ 0),(o_ c32),(i_ 0),(o_ c33),(Qg c34),(o_ c35)])),(10,.cells ([(o_ r36),(o_ r37),.f (.lst 4 (List.map Qt rv69)),(i_ r67),(o_ r40),(i_ 0),(o_ r41),(Qg r42),(o_ r43)])),(131,.mp (mapE (fun (x:Int)=>((i_ x):V)) (ownE 1 (eI .i64)) 0 x5.back_) (x5.back_).length),(134,.cells (Q3 (fun (x:Bool)=>[V.d (.bool x)]) c68)),(136,.cells ([(f_ x5.zA.zK),(i_ x5.zA.zN),(f_ x5.zA.zL),.f (.lst 3 (List.map Qi x5.zA.zM)),(f_ x5.uncontrollable_),.mp (Γ.n0+131),.sl 1 (Γ.n0+134) 0 x5.left_.length x5.left_.length]))]) M,Γ.n0+191⟩ ?_ ?_
   ·by_cases hx74:r66=[]
    ·obtain ⟨hyx,hn72b⟩:=hn72 hx74;replace hyx:=hyx.symm;subst hyx;replace hn72:=And.intro tv hn72b;refine Tr.rgn (fP rfl (fP rfl (lB (v:=(Qbn r66)) rfl rfl rfl rfl (Rn.call (args:=[(Qbn r66),.clo 102 []]) tv rfl (hn72.2) pc9 ?_))));refine Rn.nil ⟨rfl,(by exact Qf [4] ⟨(kPtr rfl),(kPtr rfl),(kPtr rfl),tv⟩ ⟨bS rfl rfl rfl,⟨_,rfl,rfl,(cS rfl (cS rfl (.cons (Qbsb hx74) (cS rfl (cS rfl (cS rfl (cS rfl (cS rfl (cS rfl .nil)))))))))⟩,⟨rfl,rfl⟩,bM rfl rfl fun _=>rfl,⟨_,rfl,rfl,(cS rfl (cS rfl (cS rfl (cS rfl (cS rfl (.cons (kMp rfl) (.cons (kSl rfl) .nil)))))))⟩,tv⟩ rfl)⟩
    ·refine Tr.weak (by show WeakSt Γ _ ⟨look [(8,.ptr (Γ.n0+8) 0),(9,.ptr (Γ.n0+136) 0),(10,.ptr (Γ.n0+10) 0)],Qo Γ.n0 (bxs [(8,.cells ([(o_ c29),(o_ c30),(Qm c31),(i_ 0),(o_ c32),(i_ 0),(o_ c33),(Qg c34),(o_ c35)])),(10,.cells ([(o_ r36),(o_ r37),(Qm r66),(i_ r67),(o_ r40),(i_ 0),(o_ r41),(Qg r42),(o_ r43)])),(131,.mp (mapE (fun (x:Int)=>((i_ x):V)) (ownE 1 (eI .i64)) 0 x5.back_) (x5.back_).length),(134,.cells (Q3 (fun (x:Bool)=>[V.d (.bool x)]) c68)),(136,.cells ([(f_ x5.zA.zK),(i_ x5.zA.zN),(f_ x5.zA.zL),.f (.lst 3 (List.map Qi x5.zA.zM)),(f_ x5.uncontrollable_),.mp (Γ.n0+131),.sl 1 (Γ.n0+134) 0 x5.left_.length x5.left_.length]))]) M,Γ.n0+191⟩;exact Qf [4] ⟨(kPtr rfl),(kPtr rfl),(kPtr rfl),tv⟩ ⟨bS rfl rfl rfl,bS rfl rfl rfl,⟨rfl,rfl⟩,bM rfl rfl fun _=>rfl,⟨_,rfl,rfl,(cS rfl (cS rfl (cS rfl (cS rfl (cS rfl (.cons (kMp rfl) (.cons (kSl rfl) .nil)))))))⟩,tv⟩ rfl) ?_;refine Qbrq hG hM0 10 2 75 hx74 (fun _=>rfl) rfl rfl rfl rfl ⟨rfl,rfl,rfl,tv⟩ ⟨⟨(Qib (fun _=>rfl)),(Qib (fun _=>rfl)),(Qib (fun _=>rfl)),rfl,(Qib (fun _=>rfl)),rfl,(Qib (fun _=>rfl)),(Qib (fun _=>rfl)),(Qib (fun _=>rfl)),tv⟩,⟨(Qib (fun _=>rfl)),(Qib (fun _=>rfl)),rfl,rfl,(Qib (fun _=>rfl)),rfl,(Qib (fun _=>rfl)),(Qib (fun _=>rfl)),(Qib (fun _=>rfl)),tv⟩,(Qbm9 (fun _=>rfl) (fun _=>rfl)),(PVf (g:=(fun (x:Bool)=>[V.d (.bool x)])) fun _=>⟨rfl,tv⟩),⟨rfl,rfl,rfl,rfl,rfl,rfl,rfl,tv⟩,tv⟩ (fun c75 hc76 hc77=>?_);refine Tr.rgn (fP rfl (fP rfl (lB (v:=.sl 4 (Γ.n0+75) 0 r66.length c75) rfl rfl rfl rfl ?_)));refine Rn.callRow (t:=75) (cs:=Qc1 (List.map Qt r66) ((c75-r66.length)*4)) (cs':=Qc1 (List.map Qt rv69) ((c75-r66.length)*4)) tv rfl rfl (fun M2 hM2=>hr73 hc77 _ _ _ _ hM2) rfl ?_;refine Rn.weak (by show WeakSt Γ _ ⟨look [(8,.ptr (Γ.n0+8) 0),(9,.ptr (Γ.n0+136) 0),(10,.ptr (Γ.n0+10) 0),(72,.ptr (Γ.n0+10) 0),(73,.ptr (Γ.n0+10) 2),(74,.f (.lst 4 (List.map Qt rv69))),(75,.tup [])],Qo Γ.n0 (bxs [(8,.cells ([(o_ c29),(o_ c30),(Qm c31),(i_ 0),(o_ c32),(i_ 0),(o_ c33),(Qg c34),(o_ c35)])),(10,.cells ([(o_ r36),(o_ r37),.f (.lst 4 (List.map Qt rv69)),(i_ r67),(o_ r40),(i_ 0),(o_ r41),(Qg r42),(o_ r43)])),(131,.mp (mapE (fun (x:Int)=>((i_ x):V)) (ownE 1 (eI .i64)) 0 x5.back_) (x5.back_).length),(134,.cells (Q3 (fun (x:Bool)=>[V.d (.bool x)]) c68)),(136,.cells ([(f_ x5.zA.zK),(i_ x5.zA.zN),(f_ x5.zA.zL),.f (.lst 3 (List.map Qi x5.zA.zM)),(f_ x5.uncontrollable_),.mp (Γ.n0+131),.sl 1 (Γ.n0+134) 0 x5.left_.length x5.left_.length]))]) M,Γ.n0+191⟩;exact Qbbe 75 _ rfl Qbsc ⟨(fPtr rfl),(fPtr rfl),(fPtr rfl),(fPtr rfl),(fPtr rfl),(Qbrr (fun _=>rfl) (fun _=>rfl) hl71 hc76),sq,tv⟩ ⟨⟨_,rfl,rfl,(cS rfl (cS rfl (cS rfl (cS rfl (cS rfl (cS rfl (cS rfl (cS rfl (cS rfl .nil)))))))))⟩,⟨_,rfl,rfl,(cS rfl (cS rfl (.cons (Qbrr (fun _=>rfl) (fun _=>rfl) hl71 hc76) (cS rfl (cS rfl (cS rfl (cS rfl (cS rfl (cS rfl .nil)))))))))⟩,⟨rfl,rfl⟩,bM rfl rfl fun _=>rfl,⟨_,rfl,rfl,(cS rfl (cS rfl (cS rfl (cS rfl (cS rfl (.cons (fMp rfl) (.cons (fSlO rfl) .nil)))))))⟩,tv⟩ rfl) ?_;refine Rn.nil ⟨rfl,(by exact Qf [] ⟨(kPtr rfl),(kPtr rfl),(kPtr rfl),tv⟩ ⟨bS rfl rfl rfl,bS rfl rfl rfl,⟨rfl,rfl⟩,bM rfl rfl fun _=>rfl,⟨_,rfl,rfl,(cS rfl (cS rfl (cS rfl (cS rfl (cS rfl (.cons (kMp rfl) (.cons (kSl rfl) .nil)))))))⟩,tv⟩ rfl)⟩
   ·refine Tr.cutB (fun ((r99,r100):(List Int)×(List Int))=>⟨look [(8,.ptr (Γ.n0+8) 0),(9,.ptr (Γ.n0+136) 0),(10,.ptr (Γ.n0+10) 0)],Qo Γ.n0 (bxs [(8,.cells ([(o_ c29),(o_ c30),(Qm c31),(i_ 0),(o_ c32),(i_ 0),(o_ c33),(Qg c34),(o_ c35)])),(10,.cells ([(o_ r99),(o_ r100),.f (.lst 4 (List.map Qt rv69)),(i_ r67),(o_ r40),(i_ 0),(o_ r41),(Qg r42),(o_ r43)])),(131,.mp (mapE (fun (x:Int)=>((i_ x):V)) (ownE 1 (eI .i64)) 0 x5.back_) (x5.back_).length),(134,.cells (Q3 (fun (x:Bool)=>[V.d (.bool x)]) c68)),(136,.cells ([(f_ x5.zA.zK),(i_ x5.zA.zN),(f_ x5.zA.zL),.f (.lst 3 (List.map Qi x5.zA.zM)),(f_ x5.uncontrollable_),.mp (Γ.n0+131),.sl 1 (Γ.n0+134) 0 x5.left_.length x5.left_.length]))]) M,Γ.n0+191⟩) h (fun z h=>?_) (fun z h=>?_)
    ·refine sr (mv (.ptr (Γ.n0+136) 0) rfl ?_);obtain ⟨⟨⟩,hl78,h⟩:=bnd h;obtain ⟨x80,h79,h⟩:=bnd h;refine Rn.callM (args:=[.ptr (Γ.n0+136) 0]) tv rfl (fun M2 nb2 hn hx=>Hbm _ (Γ.n0+136) (Γ.n0+131) (Γ.n0+134) _ h79 M2 nb2 (by rw [Qed hl78];exact (hx _ _ (Q5 rfl))) (hx _ _ (Q5 rfl)) (hx _ _ (Q5 rfl))) rfl pc9 ?_;refine Rn.lenD tv rfl (md rfl (nt (Tr.block ?_)));refine Tr.loop (mk:=fun ((x81,r82,r83):Int×(List Int)×(List Int))=>⟨look [(8,.ptr (Γ.n0+8) 0),(9,.ptr (Γ.n0+136) 0),(10,.ptr (Γ.n0+10) 0),(77,(l_ x80)),(78,(i_ (x80.length:Int))),(79,(i_ x81))],Qo Γ.n0 (bxs [(8,.cells ([(o_ c29),(o_ c30),(Qm c31),(i_ 0),(o_ c32),(i_ 0),(o_ c33),(Qg c34),(o_ c35)])),(10,.cells ([(o_ r82),(o_ r83),.f (.lst 4 (List.map Qt rv69)),(i_ r67),(o_ r40),(i_ 0),(o_ r41),(Qg r42),(o_ r43)])),(131,.mp (mapE (fun (x:Int)=>((i_ x):V)) (ownE 1 (eI .i64)) 0 x5.back_) (x5.back_).length),(134,.cells (Q3 (fun (x:Bool)=>[V.d (.bool x)]) c68)),(136,.cells ([(f_ x5.zA.zK),(i_ x5.zA.zN),(f_ x5.zA.zL),.f (.lst 3 (List.map Qi x5.zA.zM)),(f_ x5.uncontrollable_),.mp (Γ.n0+131),.sl 1 (Γ.n0+134) 0 x5.left_.length x5.left_.length]))]) M,Γ.n0+191⟩) h (by exact Qk ⟨(kPtr rfl),(kPtr rfl),(kPtr rfl),sq,sq,sq,tv⟩ ⟨bS rfl rfl rfl,bS rfl rfl rfl,⟨rfl,rfl⟩,bM rfl rfl fun _=>rfl,⟨_,rfl,rfl,(cS rfl (cS rfl (cS rfl (cS rfl (cS rfl (.cons (kMp rfl) (.cons (kSl rfl) .nil)))))))⟩,tv⟩ rfl) (fun k84 z h=>?_)
     ·obtain ⟨x81,r82,r83⟩:=z;replace h:_=some _:=h;refine sr (bN rfl (nt (Tr.seq ?_)));refine Tr.cond rfl (fun hb85=>?_) (fun hb85=>?_)
      ·replace h:=ifT hb85 h;refine Tr.skip (toN ?_);refine Tr.cutB (fun ((r97,r98):(List Int)×(List Int))=>⟨look [(8,.ptr (Γ.n0+8) 0),(9,.ptr (Γ.n0+136) 0),(10,.ptr (Γ.n0+10) 0),(77,(l_ x80)),(78,(i_ (x80.length:Int))),(79,(i_ x81))],Qo Γ.n0 (bxs [(8,.cells ([(o_ c29),(o_ c30),(Qm c31),(i_ 0),(o_ c32),(i_ 0),(o_ c33),(Qg c34),(o_ c35)])),(10,.cells ([(o_ r97),(o_ r98),.f (.lst 4 (List.map Qt rv69)),(i_ r67),(o_ r40),(i_ 0),(o_ r41),(Qg r42),(o_ r43)])),(131,.mp (mapE (fun (x:Int)=>((i_ x):V)) (ownE 1 (eI .i64)) 0 x5.back_) (x5.back_).length),(134,.cells (Q3 (fun (x:Bool)=>[V.d (.bool x)]) c68)),(136,.cells ([(f_ x5.zA.zK),(i_ x5.zA.zN),(f_ x5.zA.zL),.f (.lst 3 (List.map Qi x5.zA.zM)),(f_ x5.uncontrollable_),.mp (Γ.n0+131),.sl 1 (Γ.n0+134) 0 x5.left_.length x5.left_.length]))]) M,Γ.n0+191⟩) h (fun z h=>?_) (fun z h=>?_)
       ·refine Tr.block (sr (md rfl ?_));obtain ⟨x86,h87,h⟩:=bnd h;refine Rn.idxD (e:=(eI .i64)) tv rfl rfl h87 (Rn.loadC (x:=.int .i64 x86) tv rfl (md rfl (md rfl (nt (sr (mv (.ptr (Γ.n0+136) 0) rfl (Rn.nilchkP tv rfl (fP rfl (lB (v:=.sl 1 (Γ.n0+134) 0 x5.left_.length x5.left_.length) rfl rfl rfl rfl (md rfl ?_))))))))));obtain ⟨⟨⟩,h89,h⟩:=bnd h;refine Rn.idxA tv rfl rfl h89 ?_;obtain ⟨x90,h91,h⟩:=bnd h;refine Rn.loadA (g:=(fun (x:Bool)=>[V.d (.bool x)])) (v:=(b_ x90)) (f:=0) (fun _=>rfl) tv rfl (Q5 rfl) h91 rfl rfl (nO ?_);refine Tr.cond rfl (fun hb92=>?_) (fun hb92=>?_)
        ·replace h:=bT hb92 h;refine sr (fP rfl (fP rfl (Rn.loadT (cs':=[(l_ r82),(o_ r83),.f (.lst 4 (List.map Qt rv69)),(i_ r67),(o_ r40),(i_ 0),(o_ r41),(Qg r42),(o_ r43)]) tv rfl rfl rfl rfl (md rfl (Rn.bslice (xs:=[(i_ x81)]) (cs:=[(i_ x81)]) tv rfl rfl rfl rfl ?_)))));obtain ⟨x93,h94,h⟩:=bnd h;refine Rn.app (e:=(eI .i64)) tv rfl rfl rfl (Qbz rfl rfl rfl) h94 rfl (fP rfl (fP rfl (Rn.storeO (cs':=[(o_ x93),(o_ r83),.f (.lst 4 (List.map Qt rv69)),(i_ r67),(o_ r40),(i_ 0),(o_ r41),(Qg r42),(o_ r43)]) tv rfl rfl rfl rfl rfl (nt (Tr.rgn (fP rfl (fP rfl (Rn.loadT (cs':=[(o_ x93),(l_ r83),.f (.lst 4 (List.map Qt rv69)),(i_ r67),(o_ r40),(i_ 0),(o_ r41),(Qg r42),(o_ r43)]) tv rfl rfl rfl rfl (md rfl (Rn.bslice (xs:=[(i_ x86)]) (cs:=[(i_ x86)]) tv rfl rfl rfl rfl ?_))))))))));obtain ⟨x95,h96,h⟩:=bnd h;refine Rn.app (e:=(eI .i64)) tv rfl rfl rfl (Qbz rfl rfl rfl) h96 rfl (fP rfl (fP rfl (Rn.storeO (cs':=[(o_ x93),(o_ x95),.f (.lst 4 (List.map Qt rv69)),(i_ r67),(o_ r40),(i_ 0),(o_ r41),(Qg r42),(o_ r43)]) tv rfl rfl rfl rfl rfl (Rn.nil ?_))));cases sj h;exact Qf [95,103] ⟨(kPtr rfl),(kPtr rfl),(kPtr rfl),sq,sq,sq,tv⟩ ⟨bS rfl rfl rfl,bS rfl rfl rfl,⟨rfl,rfl⟩,bM rfl rfl fun _=>rfl,⟨_,rfl,rfl,(cS rfl (cS rfl (cS rfl (cS rfl (cS rfl (.cons (kMp rfl) (.cons (kSl rfl) .nil)))))))⟩,tv⟩ rfl
        ·replace h:=bF hb92 h;refine Tr.skip ?_;cases sj h;exact Qf [] ⟨(kPtr rfl),(kPtr rfl),(kPtr rfl),sq,sq,sq,tv⟩ ⟨bS rfl rfl rfl,bS rfl rfl rfl,⟨rfl,rfl⟩,bM rfl rfl fun _=>rfl,⟨_,rfl,rfl,(cS rfl (cS rfl (cS rfl (cS rfl (cS rfl (.cons (kMp rfl) (.cons (kSl rfl) .nil)))))))⟩,tv⟩ rfl
       ·obtain ⟨r97,r98⟩:=z;refine Tr.rgn (bN rfl (md rfl (Rn.nil ?_)));exact ⟨_,h,(by exact Qk ⟨(kPtr rfl),(kPtr rfl),(kPtr rfl),sq,sq,sq,tv⟩ ⟨bS rfl rfl rfl,bS rfl rfl rfl,⟨rfl,rfl⟩,bM rfl rfl fun _=>rfl,⟨_,rfl,rfl,(cS rfl (cS rfl (cS rfl (cS rfl (cS rfl (.cons (kMp rfl) (.cons (kSl rfl) .nil)))))))⟩,tv⟩ rfl)⟩
      ·replace h:=ifF hb85 h;refine Tr.exit ?_;cases sj h;exact Qf [] ⟨(kPtr rfl),(kPtr rfl),(kPtr rfl),tv⟩ ⟨bS rfl rfl rfl,bS rfl rfl rfl,⟨rfl,rfl⟩,bM rfl rfl fun _=>rfl,⟨_,rfl,rfl,(cS rfl (cS rfl (cS rfl (cS rfl (cS rfl (.cons (kMp rfl) (.cons (kSl rfl) .nil)))))))⟩,tv⟩ rfl
    ·obtain ⟨r99,r100⟩:=z;refine sr (mv (.ptr (Γ.n0+136) 0) rfl ?_);obtain ⟨⟨⟩,hl101,h⟩:=bnd h;obtain ⟨⟨r103,r104⟩,h102,h⟩:=bnd h;refine Rn.callM (args:=[.ptr (Γ.n0+136) 0]) tv rfl (fun M2 nb2 hn hx=>Hbp _ (Γ.n0+136) (Γ.n0+131) (Γ.n0+134) _ h102 M2 nb2 (by rw [Qed hl101];exact (hx _ _ (Q5 rfl))) (hx _ _ (Q5 rfl)) (hx _ _ (Q5 rfl))) rfl pc9 ?_;refine mv (.tup [(Qh r103),(l_ r104)]) rfl (Rn.ext (v:=(Qh r103)) (vs:=[(Qh r103),(l_ r104)]) tv rfl rfl rfl (Rn.extTD (vs:=[(Qh r103),(l_ r104)]) tv rfl rfl rfl (fP rfl (Rn.storeT (v:=(Qh r103)) (ds:=(Qs r103)) (cs':=[(o_ r99),(o_ r100),.f (.lst 4 (List.map Qt rv69)),(i_ r67),(l_ r103.zK),(i_ r103.zN),(l_ r103.zL),(Qd r103.zM),(o_ r43)]) tv rfl rfl rfl rfl rfl rfl rfl (fP rfl (Rn.storeD (cs':=[(o_ r99),(o_ r100),.f (.lst 4 (List.map Qt rv69)),(i_ r67),(l_ r103.zK),(i_ r103.zN),(l_ r103.zL),(Qd r103.zM),(l_ r104)]) tv rfl rfl rfl rfl rfl (nt (sr (lB (v:=.agg [(l_ r99),(l_ r100),.f (.lst 4 (List.map Qt rv69)),(i_ r67),(l_ r103.zK),(i_ r103.zN),(l_ r103.zL),(Qd r103.zM),(l_ r104)]) rfl rfl rfl rfl (Rn.storeT (v:=.agg [(l_ r99),(l_ r100),.f (.lst 4 (List.map Qt rv69)),(i_ r67),(l_ r103.zK),(i_ r103.zN),(l_ r103.zL),(Qd r103.zM),(l_ r104)]) (ds:=[(l_ r99),(l_ r100),.f (.lst 4 (List.map Qt rv69)),(i_ r67),(l_ r103.zK),(i_ r103.zN),(l_ r103.zL),(Qd r103.zM),(l_ r104)]) (cs':=[(l_ r99),(l_ r100),.f (.lst 4 (List.map Qt rv69)),(i_ r67),(l_ r103.zK),(i_ r103.zN),(l_ r103.zL),(Qd r103.zM),(l_ r104)]) tv rfl rfl rfl rfl rfl rfl rfl (nt (Tr.ret ?_))))))))))));cases sj h;exact ⟨.inr rfl,(.agg [(l_ r99),(l_ r100),.f (.lst 4 (List.map Qt rv69)),(i_ r67),(l_ r103.zK),(i_ r103.zN),(l_ r103.zL),(Qd r103.zM),(l_ r104)]),Qhi rfl rfl rfl rfl,(WkV.agg (cS rfl (cS rfl (.cons fToD (cS rfl (cS rfl (cS rfl (cS rfl (cS rfl (cS rfl .nil)))))))))).rd,⟨tv,tv,tv,tv,tv,tv,tv,tv,tv,tv⟩,mB⟩
theorem Qw1 {P:Program} {c:Nat} {Qdn:_} {Qdb:_}
    (Hbi:Qof P 87 Qdn)
    (Hbq:Qmo P 88 Qdb) (hcf:Qy P c=some Qh5):Qh4 P c (Qcd Qdn Qdb):=by
 intro a1 fv2 uv3 r h;refine Qec hcf rfl fun Γ M hP hnt hM=>?_;subst hP;refine Tr.init [(0,(Qh a1)),(1,(l_ fv2)),(2,(l_ uv3))] rfl ?_;unfold Qcd at h;unfold Qh5;refine sr (Rn.box (v:=(Qh a1)) (cs:=(Qs a1)) tv rfl rfl rfl rfl rfl (Rn.alloc tv rfl (md rfl (nt (Tr.seq (sr (lB (v:=(Qh a1)) rfl rfl rfl rfl (md rfl (md rfl ?_)))))))));obtain ⟨x5,h4,h⟩:=bnd h;refine Rn.call (args:=[(Qh a1),(l_ fv2),(l_ uv3)]) tv rfl (Hbi _ _ _ _ h4) pc9 (md rfl (nt (sr (md rfl (bN rfl (nO ?_))))));refine Tr.cond rfl (fun hb6=>?_) (fun hb6=>?_)
 ·replace h:=bT hb6 h;refine sr (Rn.build (v:=.agg [.nils 1,.nils 1,.nils 4,(i_ 0),.nils 1,(i_ 0),.nils 1,.nils 3,.nils 1]) tv rfl (md rfl (Rn.storeT (v:=.agg [.nils 1,.nils 1,.nils 4,(i_ 0),.nils 1,(i_ 0),.nils 1,.nils 3,.nils 1]) (ds:=[.nils 1,.nils 1,.nils 4,(i_ 0),.nils 1,(i_ 0),.nils 1,.nils 3,.nils 1]) (cs':=[.nils 1,.nils 1,.nils 4,(i_ 0),.nils 1,(i_ 0),.nils 1,.nils 3,.nils 1]) tv rfl rfl rfl rfl rfl rfl rfl (md rfl (nt (Tr.ret ?_))))));cases sj h;exact ⟨.inr rfl,.tup [.agg [.nils 1,.nils 1,.nils 4,(i_ 0),.nils 1,(i_ 0),.nils 1,.nils 3,.nils 1],(i_ x5)],res2 (Qhi rfl rfl rfl rfl) rfl,(WkV.tup (.cons (WkV.agg (.cons (WkV.nilsD _) (.cons (WkV.nilsD _) (.cons (WkV.nilsD _) (cS rfl (.cons (WkV.nilsD _) (cS rfl (.cons (WkV.nilsD _) (.cons (WkV.nilsD _) (.cons (WkV.nilsD _) .nil)))))))))) (cS rfl .nil))).rd,⟨⟨tv,tv,tv,tv,tv,tv,tv,tv,tv,tv⟩,tv,tv⟩,mB⟩
 ·replace h:=bF hb6 h;refine Tr.skip (toN (sr (lB (v:=(Qh a1)) rfl rfl rfl rfl (md rfl (md rfl ?_)))));obtain ⟨x8,h7,h⟩:=bnd h;refine Rn.call (args:=[(Qh a1),(l_ fv2),(l_ uv3),(b_ true)]) tv rfl (Hbq _ _ _ _ _ h7) pc9 (Rn.storeT (v:=(Qc8 x8)) (ds:=(Qgj x8)) (cs':=(Qgj x8)) tv rfl rfl rfl rfl rfl rfl rfl (md rfl (nt (Tr.ret ?_))));cases sj h;exact ⟨.inr rfl,.tup [(Qc8 x8),(i_ 0)],res2 (Qhi rfl rfl rfl rfl) rfl,(WkV.tup (cS rfl (cS rfl .nil))).rd,⟨⟨tv,tv,tv,tv,tv,tv,tv,tv,tv,tv⟩,tv,tv⟩,mB⟩
theorem Q76 {P:Program} {c:Nat} {Qcd:_}
    (Hbk:Qh4 P 68 Qcd) (hcf:Qy P c=some Qr0):Qrz P c (Qd0 Qcd):=by
 intro a1 fv2 uv3 r h;refine Qec hcf rfl fun Γ M hP hnt hM=>?_;subst hP;refine Tr.init [(0,(Qh a1)),(1,(l_ fv2)),(2,(l_ uv3))] rfl ?_;unfold Qd0 at h;unfold Qr0;refine sr (Rn.box (v:=(Qh a1)) (cs:=(Qs a1)) tv rfl rfl rfl rfl rfl (Rn.movTC (v:=.nils 1) tv (md rfl (nt (sr (lB (v:=(Qh a1)) rfl rfl rfl rfl (md rfl (md rfl ?_))))))));obtain ⟨⟨r5,r6⟩,h4,h⟩:=bnd h;refine Rn.call (args:=[(Qh a1),(l_ fv2),(l_ uv3)]) tv rfl (Hbk _ _ _ _ h4) pc9 (mv (.tup [(Qc8 r5),(i_ r6)]) rfl (Rn.ext (v:=(Qc8 r5)) (vs:=[(Qc8 r5),(i_ r6)]) tv rfl rfl rfl (Rn.ext (v:=(i_ r6)) (vs:=[(Qc8 r5),(i_ r6)]) tv rfl rfl rfl (Rn.alloc tv rfl (Rn.storeT (v:=(Qc8 r5)) (ds:=(Qgj r5)) (cs':=(Qgj r5)) tv rfl rfl rfl rfl rfl rfl rfl (md rfl (nt (sr (fP rfl (fP rfl (lB (v:=(l_ r5.zF.Kept)) rfl rfl rfl rfl (md rfl (Rn.movTD tv rfl (md rfl (nt (Tr.ret ?_))))))))))))))));cases sj h;exact ⟨.inr rfl,.tup [(l_ r5.zF.Kept),(i_ r6)],res2 rfl rfl,(WkV.tup (cS rfl (cS rfl .nil))).rd,⟨tv,tv,tv⟩,mB⟩
theorem Q39 {P:Program} {c:Nat} (hcf:Qy P c=some Qmr):Qmq P c (Qdu):=by
 intro iv1 iv2 r h;refine Qec hcf rfl fun Γ M hP hnt hM=>?_;subst hP;refine Tr.init [(0,(b_ iv1)),(1,(b_ iv2))] rfl ?_;unfold Qdu at h;unfold Qmr;refine sr (md rfl (nt (sr (md rfl (md rfl ?_)))));refine Qb4 iv1 (fun hb3=>?_) (fun hb3=>?_)
 ·replace h:=bT hb3 h;refine Rn.movD (gw rfl hb3) rfl (Rn.un (gw rfl hb3) rfl rfl (pT (b_ (!iv2)) rfl hb3 rfl (md rfl (nt (Tr.ret ?_)))));cases sj h;exact ⟨.inr rfl,(b_ (!iv2)),rfl,fun _ _ _ _ h=>h,tv,mB⟩
 ·replace h:=bF hb3 h;refine sK rfl hb3 (sK rfl hb3 (pF (b_ false) rfl hb3 rfl (md rfl (nt (Tr.ret ?_)))));replace h:=si h;subst h;exact ⟨.inr rfl,(b_ false),rfl,fun _ _ _ _ h=>h,tv,mB⟩
theorem Q77 {P:Program} {c:Nat} {Qb3:_} {Qdu:_}
    (Hah:Qj2 P 66 Qb3)
    (Had:Qmq P 78 Qdu) (hcf:Qy P c=some Qr2):Qr1 P c (Qd1 Qb3 Qdu):=by
 intro a1 b2 r h;refine Qec hcf rfl fun Γ M hP hnt hM=>?_;subst hP;refine Tr.init [(0,(l_ a1)),(1,(l_ b2))] rfl ?_;unfold Qd1 at h;unfold Qr2;refine sr (Rn.movTC (v:=.nils 1) tv (nt (sr (md rfl (md rfl ?_)))));obtain ⟨x8,h7,h⟩:=bnd h;refine Rn.callM (args:=[(l_ a1),(l_ b2),.clo 78 []]) tv rfl (fun M2 nb2 hn hx=>Hah _ _ _ 78 [] _ h7 M2 nb2 rfl tv (fun a3 a4 r5 h6 M3 nb3 hn3 hx3=>Had a3 a4 r5 h6 M3 nb3 )) rfl pc9 ?_;refine Rn.movTO tv rfl (nt (Tr.ret ?_));replace h:=si h;subst h;exact ⟨.inr rfl,(o_ x8),rfl,fun _ _ _ _ h=>h,tv,mB⟩
theorem Q6j {P:Program} {c:Nat} {Qd1:_}
    (Hac:Qr1 P 55 Qd1) (hcf:Qy P c=some Qou):Qot P c (Qc5 Qd1):=by
 intro a1 b2 r h;refine Qec hcf rfl fun Γ M hP hnt hM=>?_;subst hP;refine Tr.init [(0,(l_ a1)),(1,(l_ b2))] rfl ?_;unfold Qc5 at h;unfold Qou;refine sr (md rfl (nt (sr (md rfl (md rfl ?_)))));obtain ⟨x4,h3,h⟩:=bnd h;refine Rn.call (args:=[(l_ a1),(l_ b2)]) tv rfl (Hac _ _ _ h3) pc9 (Rn.lenD tv rfl (bN rfl (md rfl (nt (Tr.ret ?_)))));cases sj h;exact ⟨.inr rfl,(b_ ((x4.length:Int)==0)),rfl,fun _ _ _ _ h=>h,tv,mB⟩
theorem Qji {P:Program} {c:Nat} {Qcy:_} {Qcr:_} {Qv:_} {Qds:_} {Qc5:_} {Qdj:_} {Q0:_} {Qd0:_}
    (Har:Qil P 9 Qcy)
    (Hap:Qi8 P 10 Qcr)
    (Hbv:Qef P 11 Qv)
    (Hch:Qvi P 16 Qds)
    (Hae:Qot P 24 Qc5)
    (Haf:Qro P 32 Qdj)
    (Hao:Qen P 33 Q0)
    (Hbj:Qrz P 34 Qd0) (hcf:Qy P c=some Qd9):Qf7 P c (Qc4 Qcy Qcr Qv Qds Qc5 Qdj Q0 Qd0):=by
 intro k1 fv2 uv3 r h;refine Qec hcf rfl fun Γ M hP hnt hM=>?_;subst hP;refine Tr.init [(0,(Qco k1)),(1,.d (.int .u8 fv2)),(2,.d (.int .u8 uv3))] rfl ?_;unfold Qc4 at h;unfold Qd9;refine sr (Rn.box (v:=(Qco k1)) (cs:=(Qc7 k1)) tv rfl rfl rfl rfl rfl (md rfl (nt (Tr.seq (Tr.seq (Tr.rgn ?_))))));obtain ⟨x5,h4,h⟩:=bnd h;refine Rn.call (args:=[]) tv rfl (Har _ h4) pc9 (Rn.un tv rfl rfl (nO ?_));refine Tr.cond rfl (fun hb6=>?_) (fun hb6=>?_)
 ·have hb6:=nT' hb6;replace h:=bF hb6 h;refine sr (md rfl (nt (Tr.ret ?_)));replace h:=si h;subst h;exact ⟨.inr rfl,(b_ false),rfl,fun _ _ _ _ h=>h,tv,mB⟩
 ·have hb6:=nF' hb6;replace h:=bT hb6 h;refine Tr.skip (toN (sr (lB (v:=(Qco k1)) rfl rfl rfl rfl ?_)));obtain ⟨x8,h7,h⟩:=bnd h;refine Rn.call (args:=[(Qco k1)]) tv rfl (Hap _ _ h7) pc9 (Rn.alloc tv rfl (Rn.storeT (v:=(Qq x8)) (ds:=(Ql x8)) (cs':=(Ql x8)) tv rfl rfl rfl rfl rfl rfl rfl (nt (sr (lB (v:=(Qq x8)) rfl rfl rfl rfl ?_)))));obtain ⟨⟨r10,r11⟩,h9,h⟩:=bnd h;refine Rn.call (args:=[(Qq x8)]) tv rfl (Hbv _ _ h9) pc9 (mv (.tup [(Qj r10),(i_ r11)]) rfl (Rn.ext (v:=(Qj r10)) (vs:=[(Qj r10),(i_ r11)]) tv rfl rfl rfl (Rn.ext (v:=(i_ r11)) (vs:=[(Qj r10),(i_ r11)]) tv rfl rfl rfl (Rn.alloc tv rfl (Rn.storeT (v:=(Qj r10)) (ds:=(Qw r10)) (cs':=(Qw r10)) tv rfl rfl rfl rfl rfl rfl rfl (md rfl (nt (sr (lB (v:=(Qq x8)) rfl rfl rfl rfl (Rn.alloc tv rfl (Rn.storeT (v:=(Qq x8)) (ds:=(Ql x8)) (cs':=(Ql x8)) tv rfl rfl rfl rfl rfl rfl rfl (nt (Tr.seq ?_)))))))))))));refine Tr.rgnD (by decide) ?_;refine fP rfl (lB (v:=(l_ x8.zD)) rfl rfl rfl rfl (md rfl (bN rfl ?_)));obtain ⟨x13,h12,h⟩:=bnd h;refine Rn.call (args:=[.d (.int .u8 (andI .u8 fv2 15))]) tv rfl (Hao _ _ h12) (fun _=>Q6v hM rfl) ?_;obtain ⟨x15,h14,h⟩:=bnd h;refine Rn.call (args:=[(l_ x8.zD),(l_ x13)]) tv rfl (Haf _ _ _ h14) (fun _=>Q6v hM rfl) (fP rfl (Rn.storeO (cs':=[(l_ x8.zA.zK),(i_ x8.zA.zN),(l_ x8.zA.zL),(Qd x8.zA.zM),(l_ x8.zC),(l_ x8.zB),(o_ x15),(i_ x8.Tick)]) tv rfl rfl rfl rfl rfl ?_));refine Rn.nil ⟨rfl,?_⟩;refine toN (sr (lB (v:=.agg [(l_ x8.zA.zK),(i_ x8.zA.zN),(l_ x8.zA.zL),(Qd x8.zA.zM),(l_ x8.zC),(l_ x8.zB),(l_ x15),(i_ x8.Tick)]) rfl rfl rfl rfl ?_));obtain ⟨⟨r17,r18⟩,h16,h⟩:=bnd h;refine Rn.call (args:=[.agg [(l_ x8.zA.zK),(i_ x8.zA.zN),(l_ x8.zA.zL),(Qd x8.zA.zM),(l_ x8.zC),(l_ x8.zB),(l_ x15),(i_ x8.Tick)]]) tv rfl (Hbv _ _ h16) pc9 (mv (.tup [(Qj r17),(i_ r18)]) rfl (Rn.ext (v:=(Qj r17)) (vs:=[(Qj r17),(i_ r18)]) tv rfl rfl rfl (Rn.ext (v:=(i_ r18)) (vs:=[(Qj r17),(i_ r18)]) tv rfl rfl rfl (Rn.alloc tv rfl (Rn.storeT (v:=(Qj r17)) (ds:=(Qw r17)) (cs':=(Qw r17)) tv rfl rfl rfl rfl rfl rfl rfl (md rfl (nt (sr (lB (v:=(Qq x8)) rfl rfl rfl rfl (Rn.storeT (v:=(Qq x8)) (ds:=(Ql x8)) (cs':=(Ql x8)) tv rfl rfl rfl rfl rfl rfl rfl (nt (Tr.seq ?_))))))))))));refine Tr.rgnD (by decide) ?_;refine fP rfl (lB (v:=(l_ x8.zB)) rfl rfl rfl rfl (md rfl (bN rfl ?_)));obtain ⟨x20,h19,h⟩:=bnd h;refine Rn.call (args:=[.d (.int .u8 (andI .u8 uv3 15))]) tv rfl (Hao _ _ h19) (fun _=>Q6v hM rfl) ?_;obtain ⟨x22,h21,h⟩:=bnd h;refine Rn.call (args:=[(l_ x8.zB),(l_ x20)]) tv rfl (Haf _ _ _ h21) (fun _=>Q6v hM rfl) (fP rfl (Rn.storeO (cs':=[(l_ x8.zA.zK),(i_ x8.zA.zN),(l_ x8.zA.zL),(Qd x8.zA.zM),(l_ x8.zC),(o_ x22),(l_ x8.zD),(i_ x8.Tick)]) tv rfl rfl rfl rfl rfl ?_));refine Rn.nil ⟨rfl,?_⟩;refine toN (sr (lB (v:=.agg [(l_ x8.zA.zK),(i_ x8.zA.zN),(l_ x8.zA.zL),(Qd x8.zA.zM),(l_ x8.zC),(l_ x22),(l_ x8.zD),(i_ x8.Tick)]) rfl rfl rfl rfl ?_));obtain ⟨⟨r24,r25⟩,h23,h⟩:=bnd h;refine Rn.call (args:=[.agg [(l_ x8.zA.zK),(i_ x8.zA.zN),(l_ x8.zA.zL),(Qd x8.zA.zM),(l_ x8.zC),(l_ x22),(l_ x8.zD),(i_ x8.Tick)]]) tv rfl (Hbv _ _ h23) pc9 (mv (.tup [(Qj r24),(i_ r25)]) rfl (Rn.ext (v:=(Qj r24)) (vs:=[(Qj r24),(i_ r25)]) tv rfl rfl rfl (Rn.ext (v:=(i_ r25)) (vs:=[(Qj r24),(i_ r25)]) tv rfl rfl rfl (Rn.alloc tv rfl (Rn.storeT (v:=(Qj r24)) (ds:=(Qw r24)) (cs':=(Qw r24)) tv rfl rfl rfl rfl rfl rfl rfl (md rfl (nt (sr (lB (v:=(Qq x8)) rfl rfl rfl rfl (Rn.storeT (v:=(Qq x8)) (ds:=(Ql x8)) (cs':=(Ql x8)) tv rfl rfl rfl rfl rfl rfl rfl (nt (sr (fP rfl (Rn.store (v:=(i_ 9)) (cs':=[(l_ x8.zA.zK),(i_ x8.zA.zN),(l_ x8.zA.zL),(Qd x8.zA.zM),(l_ x8.zC),(l_ x8.zB),(l_ x8.zD),(i_ 9)]) tv rfl rfl rfl rfl rfl rfl (nt (sr (lB (v:=.agg [(l_ x8.zA.zK),(i_ x8.zA.zN),(l_ x8.zA.zL),(Qd x8.zA.zM),(l_ x8.zC),(l_ x8.zB),(l_ x8.zD),(i_ 9)]) rfl rfl rfl rfl ?_)))))))))))))))));obtain ⟨⟨r27,r28⟩,h26,h⟩:=bnd h;refine Rn.call (args:=[.agg [(l_ x8.zA.zK),(i_ x8.zA.zN),(l_ x8.zA.zL),(Qd x8.zA.zM),(l_ x8.zC),(l_ x8.zB),(l_ x8.zD),(i_ 9)]]) tv rfl (Hbv _ _ h26) pc9 (mv (.tup [(Qj r27),(i_ r28)]) rfl (Rn.ext (v:=(Qj r27)) (vs:=[(Qj r27),(i_ r28)]) tv rfl rfl rfl (Rn.ext (v:=(i_ r28)) (vs:=[(Qj r27),(i_ r28)]) tv rfl rfl rfl (Rn.alloc tv rfl (Rn.storeT (v:=(Qj r27)) (ds:=(Qw r27)) (cs':=(Qw r27)) tv rfl rfl rfl rfl rfl rfl rfl (md rfl (nt (sr (fP rfl (lB (v:=(Qh x8.zA)) rfl rfl rfl rfl (fP rfl (lB (v:=(l_ x8.zC)) rfl rfl rfl rfl (fP rfl (lB (v:=(l_ x8.zB)) rfl rfl rfl rfl ?_))))))))))))));obtain ⟨⟨r30,r31⟩,h29,h⟩:=bnd h;refine Rn.call (args:=[(Qh x8.zA),(l_ x8.zC),(l_ x8.zB)]) tv rfl (Hbj _ _ _ _ h29) pc9 (mv (.tup [(l_ r30),(i_ r31)]) rfl (Rn.extTD (vs:=[(l_ r30),(i_ r31)]) tv rfl rfl rfl (Rn.ext (v:=(i_ r31)) (vs:=[(l_ r30),(i_ r31)]) tv rfl rfl rfl (Rn.movTD tv rfl (md rfl (nO ?_))))));refine Tr.cutB (fun (x46:Bool)=>⟨look [(6,(b_ x46))],Qo Γ.n0 (bxs [(3,.cells ((Qc7 k1))),(7,.cells ((Ql x8))),(8,.cells ((Qw r10))),(10,.cells ([(l_ x8.zA.zK),(i_ x8.zA.zN),(l_ x8.zA.zL),(Qd x8.zA.zM),(l_ x8.zC),(l_ x8.zB),(l_ x8.zD),(i_ 9)])),(11,.cells ((Qw r17))),(13,.cells ((Qw r24))),(15,.cells ((Qw r27)))]) M,Γ.n0+120⟩) h (fun z h=>?_) (fun z h=>?_)
  ·refine Tr.rgn (md rfl (bN rfl (md rfl ?_)));refine Qb4 (r11==0) (fun hb32=>?_) (fun hb32=>?_)
   ·replace h:=bT hb32 h;refine Rn.movD (gw rfl hb32) rfl (Rn.bin (gw rfl hb32) rfl rfl rfl (pT (b_ (r18==0)) rfl hb32 rfl (md rfl ?_)));refine Qb4 (r18==0) (fun hb33=>?_) (fun hb33=>?_)
    ·replace h:=bT hb33 h;refine Rn.movD (gw rfl hb33) rfl (Rn.bin (gw rfl hb33) rfl rfl rfl (pT (b_ (r25==0)) rfl hb33 rfl (md rfl ?_)));refine Qb4 (r25==0) (fun hb34=>?_) (fun hb34=>?_)
     ·replace h:=bT hb34 h;refine Rn.movD (gw rfl hb34) rfl (Rn.bin (gw rfl hb34) rfl rfl rfl (pT (b_ (r28==0)) rfl hb34 rfl (md rfl ?_)));refine Qb4 (r28==0) (fun hb35=>?_) (fun hb35=>?_)
      ·replace h:=bT hb35 h;refine Rn.movD (gw rfl hb35) rfl (Rn.bin (gw rfl hb35) rfl rfl rfl (pT (b_ (r31==0)) rfl hb35 rfl (md rfl ?_)));refine Qb4 (r31==0) (fun hb36=>?_) (fun hb36=>?_)
       ·replace h:=bT hb36 h;refine Rn.fldP (o':=0) (gw rfl hb36) rfl rfl (Rn.fldP (o':=0) (gw rfl hb36) rfl rfl (Rn.load (v:=(l_ r10.zF.Kept)) (gw rfl hb36) rfl (Q5 rfl) rfl rfl (Rn.fldP (o':=0) (gw rfl hb36) rfl rfl (Rn.fldP (o':=0) (gw rfl hb36) rfl rfl (Rn.load (v:=(l_ r17.zF.Kept)) (gw rfl hb36) rfl (Q5 rfl) rfl rfl ?_)))));obtain ⟨x38,h37,h⟩:=bnd h;refine Rn.call (args:=[(l_ r10.zF.Kept),(l_ r17.zF.Kept)]) (gw rfl hb36) rfl (Hae _ _ _ h37) pc9 (pT (b_ x38) rfl hb36 rfl (md rfl ?_));refine Qb4 x38 (fun hb39=>?_) (fun hb39=>?_)
        ·replace h:=bT hb39 h;refine Rn.fldP (o':=0) (gw rfl hb39) rfl rfl (Rn.fldP (o':=0) (gw rfl hb39) rfl rfl (Rn.load (v:=(l_ r24.zF.Kept)) (gw rfl hb39) rfl (Q5 rfl) rfl rfl (Rn.fldP (o':=0) (gw rfl hb39) rfl rfl (Rn.fldP (o':=0) (gw rfl hb39) rfl rfl (Rn.load (v:=(l_ r10.zF.Kept)) (gw rfl hb39) rfl (Q5 rfl) rfl rfl ?_)))));obtain ⟨x41,h40,h⟩:=bnd h;refine Rn.call (args:=[(l_ r24.zF.Kept),(l_ r10.zF.Kept)]) (gw rfl hb39) rfl (Hae _ _ _ h40) pc9 (pT (b_ x41) rfl hb39 rfl (md rfl ?_));refine Qb4 x41 (fun hb42=>?_) (fun hb42=>?_)
         ·replace h:=bT hb42 h;refine Rn.fldP (o':=0) (gw rfl hb42) rfl rfl (Rn.fldP (o':=0) (gw rfl hb42) rfl rfl (Rn.load (v:=(l_ r27.zF.Kept)) (gw rfl hb42) rfl (Q5 rfl) rfl rfl (Rn.movD (gw rfl hb42) rfl ?_)));obtain ⟨x44,h43,h⟩:=bnd h;refine Rn.call (args:=[(l_ r27.zF.Kept),(l_ r30)]) (gw rfl hb42) rfl (Hch _ _ _ h43) pc9 (pT (b_ x44) rfl hb42 rfl (md rfl ?_));refine Qb4 x44 (fun hb45=>?_) (fun hb45=>?_)
          ·replace h:=bT hb45 h;refine Rn.fldP (o':=9) (gw rfl hb45) rfl rfl (Rn.load (v:=(l_ r27.zJ)) (gw rfl hb45) rfl (Q5 rfl) rfl rfl (Rn.lenD (gw rfl hb45) rfl (Rn.bin (gw rfl hb45) rfl rfl rfl (pT (b_ ((r27.zJ.length:Int)==0)) rfl hb45 rfl (md rfl (Rn.nil ?_))))));cases sj h;exact Qf [] ⟨sq,tv⟩ ⟨bS rfl rfl rfl,bS rfl rfl rfl,bS rfl rfl rfl,bS rfl rfl rfl,bS rfl rfl rfl,bS rfl rfl rfl,bS rfl rfl rfl,tv⟩ rfl
          ·replace h:=bF hb45 h;refine sK rfl hb45 (sK rfl hb45 (sK rfl hb45 (sK rfl hb45 (pF (b_ false) rfl hb45 rfl (md rfl (Rn.nil ?_))))));replace h:=si h;subst h;exact Qf [] ⟨sq,tv⟩ ⟨bS rfl rfl rfl,bS rfl rfl rfl,bS rfl rfl rfl,bS rfl rfl rfl,bS rfl rfl rfl,bS rfl rfl rfl,bS rfl rfl rfl,tv⟩ rfl
         ·replace h:=bF hb42 h;refine sK rfl hb42 (sK rfl hb42 (sK rfl hb42 (sK rfl hb42 (sK rfl hb42 (pF (b_ false) rfl hb42 rfl (md rfl (sF rfl rfl (sF rfl rfl (sF rfl rfl (sF rfl rfl (pF (b_ false) rfl rfl rfl (md rfl (Rn.nil ?_)))))))))))));replace h:=si h;subst h;exact Qf [] ⟨sq,tv⟩ ⟨bS rfl rfl rfl,bS rfl rfl rfl,bS rfl rfl rfl,bS rfl rfl rfl,bS rfl rfl rfl,bS rfl rfl rfl,bS rfl rfl rfl,tv⟩ rfl
        ·replace h:=bF hb39 h;refine sK rfl hb39 (sK rfl hb39 (sK rfl hb39 (sK rfl hb39 (sK rfl hb39 (sK rfl hb39 (sK rfl hb39 (pF (b_ false) rfl hb39 rfl (md rfl (sF rfl rfl (sF rfl rfl (sF rfl rfl (sF rfl rfl (sF rfl rfl (pF (b_ false) rfl rfl rfl (md rfl (sF rfl rfl (sF rfl rfl (sF rfl rfl (sF rfl rfl (pF (b_ false) rfl rfl rfl (md rfl (Rn.nil ?_))))))))))))))))))))));replace h:=si h;subst h;exact Qf [] ⟨sq,tv⟩ ⟨bS rfl rfl rfl,bS rfl rfl rfl,bS rfl rfl rfl,bS rfl rfl rfl,bS rfl rfl rfl,bS rfl rfl rfl,bS rfl rfl rfl,tv⟩ rfl
       ·replace h:=bF hb36 h;refine sK rfl hb36 (sK rfl hb36 (sK rfl hb36 (sK rfl hb36 (sK rfl hb36 (sK rfl hb36 (sK rfl hb36 (pF (b_ false) rfl hb36 rfl (md rfl (sF rfl rfl (sF rfl rfl (sF rfl rfl (sF rfl rfl (sF rfl rfl (sF rfl rfl (sF rfl rfl (pF (b_ false) rfl rfl rfl (md rfl (sF rfl rfl (sF rfl rfl (sF rfl rfl (sF rfl rfl (sF rfl rfl (pF (b_ false) rfl rfl rfl (md rfl (sF rfl rfl (sF rfl rfl (sF rfl rfl (sF rfl rfl (pF (b_ false) rfl rfl rfl (md rfl (Rn.nil ?_)))))))))))))))))))))))))))))));replace h:=si h;subst h;exact Qf [] ⟨sq,tv⟩ ⟨bS rfl rfl rfl,bS rfl rfl rfl,bS rfl rfl rfl,bS rfl rfl rfl,bS rfl rfl rfl,bS rfl rfl rfl,bS rfl rfl rfl,tv⟩ rfl
      ·replace h:=bF hb35 h;refine sK rfl hb35 (sK rfl hb35 (pF (b_ false) rfl hb35 rfl (md rfl (sF rfl rfl (sF rfl rfl (sF rfl rfl (sF rfl rfl (sF rfl rfl (sF rfl rfl (sF rfl rfl (pF (b_ false) rfl rfl rfl (md rfl (sF rfl rfl (sF rfl rfl (sF rfl rfl (sF rfl rfl (sF rfl rfl (sF rfl rfl (sF rfl rfl (pF (b_ false) rfl rfl rfl (md rfl (sF rfl rfl (sF rfl rfl (sF rfl rfl (sF rfl rfl (sF rfl rfl (pF (b_ false) rfl rfl rfl (md rfl (sF rfl rfl (sF rfl rfl (sF rfl rfl (sF rfl rfl (pF (b_ false) rfl rfl rfl (md rfl (Rn.nil ?_)))))))))))))))))))))))))))))))))));replace h:=si h;subst h;exact Qf [] ⟨sq,tv⟩ ⟨bS rfl rfl rfl,bS rfl rfl rfl,bS rfl rfl rfl,bS rfl rfl rfl,bS rfl rfl rfl,bS rfl rfl rfl,bS rfl rfl rfl,tv⟩ rfl
     ·replace h:=bF hb34 h;refine sK rfl hb34 (sK rfl hb34 (pF (b_ false) rfl hb34 rfl (md rfl (sF rfl rfl (sF rfl rfl (pF (b_ false) rfl rfl rfl (md rfl (sF rfl rfl (sF rfl rfl (sF rfl rfl (sF rfl rfl (sF rfl rfl (sF rfl rfl (sF rfl rfl (pF (b_ false) rfl rfl rfl (md rfl (sF rfl rfl (sF rfl rfl (sF rfl rfl (sF rfl rfl (sF rfl rfl (sF rfl rfl (sF rfl rfl (pF (b_ false) rfl rfl rfl (md rfl (sF rfl rfl (sF rfl rfl (sF rfl rfl (sF rfl rfl (sF rfl rfl (pF (b_ false) rfl rfl rfl (md rfl (sF rfl rfl (sF rfl rfl (sF rfl rfl (sF rfl rfl (pF (b_ false) rfl rfl rfl (md rfl (Rn.nil ?_)))))))))))))))))))))))))))))))))))))));replace h:=si h;subst h;exact Qf [] ⟨sq,tv⟩ ⟨bS rfl rfl rfl,bS rfl rfl rfl,bS rfl rfl rfl,bS rfl rfl rfl,bS rfl rfl rfl,bS rfl rfl rfl,bS rfl rfl rfl,tv⟩ rfl
    ·replace h:=bF hb33 h;refine sK rfl hb33 (sK rfl hb33 (pF (b_ false) rfl hb33 rfl (md rfl (sF rfl rfl (sF rfl rfl (pF (b_ false) rfl rfl rfl (md rfl (sF rfl rfl (sF rfl rfl (pF (b_ false) rfl rfl rfl (md rfl (sF rfl rfl (sF rfl rfl (sF rfl rfl (sF rfl rfl (sF rfl rfl (sF rfl rfl (sF rfl rfl (pF (b_ false) rfl rfl rfl (md rfl (sF rfl rfl (sF rfl rfl (sF rfl rfl (sF rfl rfl (sF rfl rfl (sF rfl rfl (sF rfl rfl (pF (b_ false) rfl rfl rfl (md rfl (sF rfl rfl (sF rfl rfl (sF rfl rfl (sF rfl rfl (sF rfl rfl (pF (b_ false) rfl rfl rfl (md rfl (sF rfl rfl (sF rfl rfl (sF rfl rfl ?_)))))))))))))))))))))))))))))))))))))));refine sF rfl rfl (pF (b_ false) rfl rfl rfl (md rfl (Rn.nil ?_)));replace h:=si h;subst h;exact Qf [] ⟨sq,tv⟩ ⟨bS rfl rfl rfl,bS rfl rfl rfl,bS rfl rfl rfl,bS rfl rfl rfl,bS rfl rfl rfl,bS rfl rfl rfl,bS rfl rfl rfl,tv⟩ rfl
   ·replace h:=bF hb32 h;refine sK rfl hb32 (sK rfl hb32 (pF (b_ false) rfl hb32 rfl (md rfl (sF rfl rfl (sF rfl rfl (pF (b_ false) rfl rfl rfl (md rfl (sF rfl rfl (sF rfl rfl (pF (b_ false) rfl rfl rfl (md rfl (sF rfl rfl (sF rfl rfl (pF (b_ false) rfl rfl rfl (md rfl (sF rfl rfl (sF rfl rfl (sF rfl rfl (sF rfl rfl (sF rfl rfl (sF rfl rfl (sF rfl rfl (pF (b_ false) rfl rfl rfl (md rfl (sF rfl rfl (sF rfl rfl (sF rfl rfl (sF rfl rfl (sF rfl rfl (sF rfl rfl (sF rfl rfl (pF (b_ false) rfl rfl rfl (md rfl (sF rfl rfl (sF rfl rfl (sF rfl rfl (sF rfl rfl (sF rfl rfl (pF (b_ false) rfl rfl rfl ?_)))))))))))))))))))))))))))))))))))))));refine md rfl (sF rfl rfl (sF rfl rfl (sF rfl rfl (sF rfl rfl (pF (b_ false) rfl rfl rfl (md rfl (Rn.nil ?_)))))));replace h:=si h;subst h;exact Qf [] ⟨sq,tv⟩ ⟨bS rfl rfl rfl,bS rfl rfl rfl,bS rfl rfl rfl,bS rfl rfl rfl,bS rfl rfl rfl,bS rfl rfl rfl,bS rfl rfl rfl,tv⟩ rfl
  ·obtain ⟨x46,rfl⟩ : ∃ x,x=z:=⟨_,rfl⟩;refine Tr.ret ?_;replace h:=si h;subst h;exact ⟨.inr rfl,(b_ x46),rfl,fun _ _ _ _ h=>h,tv,mB⟩
end Go.Abs
end
section
namespace Go.Proofs
open Go.Abs
set_option maxRecDepth 100000
theorem Qli:Qy Try.prog 8=some Qd9:=by kernel_rfl
theorem Q4a:Qy Try.prog 9=some Qim:=by kernel_rfl
theorem Q6k:Qy Try.prog 10=some Qi9:=by kernel_rfl
theorem Quj:Qy Try.prog 11=some Qft:=by kernel_rfl
theorem Qbhb:Qy Try.prog 16=some Q3b:=by kernel_rfl
theorem Qw2:Qy Try.prog 17=some Qgs:=by kernel_rfl
theorem Qbas:Qy Try.prog 24=some Qou:=by kernel_rfl
theorem Q17:Qy Try.prog 30=some Qhz:=by kernel_rfl
theorem Q78:Qy Try.prog 31=some Qj9:=by kernel_rfl
theorem Qbbm:Qy Try.prog 32=some Qrp:=by kernel_rfl
theorem Qva:Qy Try.prog 33=some Qga:=by kernel_rfl
theorem Qbbn:Qy Try.prog 34=some Qr0:=by kernel_rfl
theorem Q4b:Qy Try.prog 35=some Qij:=by kernel_rfl
theorem Q6l:Qy Try.prog 36=some Qi7:=by kernel_rfl
theorem Q18:Qy Try.prog 37=some Qh1:=by kernel_rfl
theorem Quk:Qy Try.prog 38=some Qfs:=by kernel_rfl
theorem Qox:Qy Try.prog 39=some Qeo:=by kernel_rfl
theorem Qvb:Qy Try.prog 40=some Qf9:=by kernel_rfl
theorem Qr5:Qy Try.prog 41=some Qfb:=by kernel_rfl
theorem Qn1:Qy Try.prog 42=some Qel:=by kernel_rfl
theorem Q9n:Qy Try.prog 45=some Ql1:=by kernel_rfl
theorem Q19:Qy Try.prog 47=some Qh3:=by kernel_rfl
theorem Qul:Qy Try.prog 48=some Qfv:=by kernel_rfl
theorem Q79:Qy Try.prog 50=some Qka:=by kernel_rfl
theorem Qs2:Qy Try.prog 53=some Qfk:=by kernel_rfl
theorem Qbbo:Qy Try.prog 55=some Qr2:=by kernel_rfl
theorem Qbat:Qy Try.prog 64=some Qob:=by kernel_rfl
theorem Q2a:Qy Try.prog 65=some Qhx:=by kernel_rfl
theorem Qbbp:Qy Try.prog 66=some Qrn:=by kernel_rfl
theorem Q9o:Qy Try.prog 67=some Ql3:=by kernel_rfl
theorem Q2b:Qy Try.prog 68=some Qh5:=by kernel_rfl
theorem Q4c:Qy Try.prog 69=some Qin:=by kernel_rfl
theorem Qw3:Qy Try.prog 70=some Qgu:=by kernel_rfl
theorem Q0p:Qy Try.prog 71=some Qhl:=by kernel_rfl
theorem Q9p:Qy Try.prog 72=some Qlz:=by kernel_rfl
theorem Qw4:Qy Try.prog 74=some Qgq:=by kernel_rfl
theorem Qqn:Qy Try.prog 76=some Qew:=by kernel_rfl
theorem Qs3:Qy Try.prog 77=some Qfi:=by kernel_rfl
theorem Q9q:Qy Try.prog 78=some Qmr:=by kernel_rfl
theorem Q6m:Qy Try.prog 85=some Qi4:=by kernel_rfl
theorem Q2c:Qy Try.prog 86=some Qhw:=by kernel_rfl
theorem Qbau:Qy Try.prog 87=some Qog:=by kernel_rfl
theorem Q9r:Qy Try.prog 88=some Qmp:=by kernel_rfl
theorem Q4d:Qy Try.prog 89=some Qip:=by kernel_rfl
theorem Q8a:Qy Try.prog 90=some Qkp:=by kernel_rfl
theorem Q6n:Qy Try.prog 91=some Qi5:=by kernel_rfl
theorem Q4e:Qy Try.prog 92=some Qir:=by kernel_rfl
theorem Qbdy:Qy Try.prog 95=some Qvu:=by kernel_rfl
theorem Q9s:Qy Try.prog 96=some Qlo:=by kernel_rfl
theorem Qqo:Qy Try.prog 97=some Qey:=by kernel_rfl
theorem Q4f:Qy Try.prog 98=some Qik:=by kernel_rfl
theorem Qbav:Qy Try.prog 99=some Qoi:=by kernel_rfl
theorem Qyw:Qy Try.prog 100=some Qha:=by kernel_rfl
theorem Q6o:Qy Try.prog 102=some Qja:=by kernel_rfl
theorem Qr6:Qy Try.prog 103=some Qfc:=by kernel_rfl
theorem Qqp:Qy Try.prog 104=some Qe0:=by kernel_rfl
theorem Qbc7:Qy Try.prog 115=some Qtu:=by kernel_rfl
theorem Q9t:Qy Try.prog 116=some Qlm:=by kernel_rfl
theorem Qyx:Qy Try.prog 117=some Qg8:=by kernel_rfl
theorem Qum:Qy Try.prog 118=some Qfx:=by kernel_rfl
end Go.Proofs
end
section
namespace Go.Abs
open Go Go.Sort
section plain
variable {β:Type}
def insB (lt:β→β→Bool) (x:β):List β→List β
 | []=>[x]
 | y::ys=>if lt y x then y::insB lt x ys else x::y::ys
def Qmv (lt:β→β→Bool):List β→List β
 | []=>[]
 | x::xs=>insB lt x (Qmv lt xs)
def Qbbq (lt:β→β→Bool):List β→Bool
 | []=>true
 | x::xs=>xs.all (fun y=>lt x y||lt y x)&&Qbbq lt xs
def Qbok (ok:β→Bool) (lt:β→β→Bool) (l:List β):Option (List β):=if l.all ok&&Qbbq lt l then some (Qmv lt l) else none
theorem Qbc8 (lt:β→β→Bool) (x:β):∀ l,(insB lt x l).Perm (x::l)
 | []=>.refl _
 | y::ys=>by
  unfold insB;split
  ·exact ((Qbc8 lt x ys).cons y).trans (.swap x y ys)
  ·exact .refl _
theorem Qkr (lt:β→β→Bool):∀ l,(Qmv lt l).Perm l
 | []=>.refl _
 | x::xs=>(Qbc8 lt x _).trans ((Qkr lt xs).cons x)
theorem Qs4 (lt:β→β→Bool) (l:List β):(Qmv lt l).length=l.length:=(Qkr lt l).length_eq
theorem Qbc9 {lt:β→β→Bool} (h:SWO lt) (x:β):∀ l,l.Pairwise (fun a b=>lt b a=false)→(insB lt x l).Pairwise fun a b=>lt b a=false
 | [],_=>by simp [insB]
 | y::ys,hl=>by
  obtain ⟨h1,h2⟩:=List.pairwise_cons.1 hl;unfold insB;split
  ·rename_i hc;refine List.pairwise_cons.2 ⟨fun z hz=>?_,Qbc9 h x ys h2⟩;rcases List.mem_cons.1 ((Qbc8 lt x ys).mem_iff.1 hz) with rfl|hz
   ·cases hb:lt z y with
    | false=>rfl
    | true=>have:=h.trans _ _ _ hc hb;rw [h.irrefl] at this;cases this
   ·exact h1 z hz
  ·rename_i hc;have hc:lt y x=false:=by cases h:lt y x<;>simp_all
   refine List.pairwise_cons.2 ⟨fun z hz=>?_,hl⟩;rcases List.mem_cons.1 hz with rfl|hz
   ·exact hc
   ·exact h.ntrans _ _ _ (h1 z hz) hc
theorem Qs5 {lt:β→β→Bool} (h:SWO lt):∀ l,(Qmv lt l).Pairwise fun a b=>lt b a=false
 | []=>.nil
 | x::xs=>Qbc9 h x _ (Qs5 h xs)
theorem Qbeu {lt:β→β→Bool}:∀ {l:List β},Qbbq lt l=true→∀ a b,a∈l→b∈l→lt a b=false→lt b a=false→a=b
 | [],_,a,_,ha,_,_,_=>by cases ha
 | x::xs,h,a,b,ha,hb,h1,h2=>by
  simp only [Qbbq,Bool.and_eq_true,List.all_eq_true] at h;obtain ⟨k1,k2⟩:=h;rcases List.mem_cons.1 ha with e1|ha'<;>rcases List.mem_cons.1 hb with e2|hb'
  ·rw [e1,e2]
  ·subst e1;have:=k1 b hb';simp [h1,h2] at this
  ·subst e2;have:=k1 a ha';simp [h1,h2] at this
  ·exact Qbeu k2 a b ha' hb' h1 h2
theorem Qbf3 {lt:β→β→Bool} (h:SWO lt) {l m:List β} (hd:Qbbq lt l=true) (hp:m.Perm l) (hs:m.Pairwise fun a b=>lt b a=false):m=Qmv lt l:=by
 refine List.Perm.eq_of_pairwise (le:=fun a b=>lt b a=false) (fun a b ha hb h1 h2=>?_) hs (Qs5 h l) (hp.trans (Qkr lt l).symm);exact Qbeu hd a b (hp.mem_iff.1 ha) ((Qkr lt l).mem_iff.1 hb) h2 h1
theorem Qbju {α:Type} (f:α→β) (lt:β→β→Bool) (x:α):∀ l:List α,insB lt (f x) (l.map f)=(insB (fun a b=>lt (f a) (f b)) x l).map f
 | []=>rfl
 | y::ys=>by
  simp only [List.map_cons,insB];split
  ·simp only [List.map_cons,Qbju f lt x ys]
  ·rfl
theorem Qbev {α:Type} (f:α→β) (lt:β→β→Bool):∀ l:List α,Qmv lt (l.map f)=(Qmv (fun a b=>lt (f a) (f b)) l).map f
 | []=>rfl
 | x::xs=>by simp only [List.map_cons,Qmv,Qbev f lt xs,Qbju]
theorem Qbhc {α:Type} (f:α→β) (lt:β→β→Bool):∀ l:List α,Qbbq lt (l.map f)=Qbbq (fun a b=>lt (f a) (f b)) l
 | []=>rfl
 | x::xs=>by simp only [List.map_cons,Qbbq,Qbhc f lt xs,List.all_map];rfl
end plain
def Qjy (a b:Int):Bool:=decide (a<b)
end Go.Abs
end
section
namespace Go.Abs
def Qbru (l:List Int):Option (List Int):=if l.length≤lim then some (Qmv Qjy l) else none
end Go.Abs
end
section
namespace Go.Abs
def okRm (x:Qb):Bool:=decide (0≤x.State∧x.State<4611686018427387904)
def ltRm (x y:Qb):Bool:=decide (x.State<y.State)
def Qbol (l:List Qb):Option (List Qb):=if l.length≤65536 then Qbok okRm ltRm l else none
end Go.Abs
end
section
namespace Go.Abs
open Go Go.Abs
set_option maxRecDepth 10000
set_option maxHeartbeats 4000000
def Qch:Nat:=1099511627776
def Qqq:=Qcj
def Qgy:=Qcf Qch
def Qid:=Qc9 Qch
def Qdf:=Q4 Qid
def Qf2:=Qca Qdf Qch
def Qhb:=Qb0 Qgy Qf2
def Qfy:=Qba Qch
def Qf3:=Q6
def Qun:=Qdx
def Qjz:=Qep Qun
def Qie:=Qcw
def Qeq:=Qbv Qjz Qie Qch
def Qc0:=Qr Qeq
def Qf4:=Qcb Qfy Qc0 Qhb Qf3 Qch
def Qf5:=Qcc Qc0 Qch
def Qe1:=Qbc
def Qhn:=Qb5 Qch
def Qcz:=Qu Qhn
def Qe2:=Qbd Qc0
def Qd6:=Qbl Qcz Qe2
def Qd7:=Qbm Qcz Qc0 Qe1 Qd6 Qch
def Qcv:=Qx Qc0 Qch
def Qdg:=Qbo Qcv Qd7 Qch
def Qfd:=Qbh
def Qgl:=Qbs
def Qdd:=Q8 Qc0 Qgl Qch
def Qdh:=Qv Qf4 Qf5 Qdg Qcv Qcz Qfd Qdd Qch
def Qis:=Qbx
def Qn5:=Qcp Qf3 Qbru Qch
def Qj0:=Qb7 Qn5 Qis
def Qif:=Qda Qch
def Qku:=Qds Qif
def Qit:=Qcy Qdh Qku Qj0 Qqq
def Qcg:=Q0 Qch
def Qe3:=Q9
def Qcs:=Qbk Qch
def Qdi:=Qbp Qch
def Qgm:=Qck Qdi Qcs Qch
def Qe4:=Qcl Qch
def Qer:=Qbw Qe3 Qgm Qdi Qcs Qe4 Qch
def Qgz:=Qcq Qe3 Qer Qch
def Qg0:=Qcr Qcg Qgz Qch
def Qge:=Qb3 Qch
def Qmw:=Qdt
def Qj3:=Qdj Qge Qmw
def Qix:=Qdn Qfy Qhb
def Qiy:=Qdo Qch
def Qe6:=Qb1 Qdf Qch
def Qc3:=Q1 Qch
def Qeg:=Qbq Qc3 Qch
def Qd4:=Qb2 Qe6 Qeg
def Q6p:=Qjb
def Qdv:=Qbe Qgl Qdf Qch
def Qig:=Qdb Qiy Qd4 Qbol Qc3 Qdv Qch
def Qh6:=Qcd Qix Qig
def Qhr:=Qd0 Qh6
def Qmx:=Qdu
def Qj4:=Qd1 Qge Qmx
def Qfo:=Qc5 Qj4
def Qea:=Qc4 Qit Qg0 Qdh Qku Qfo Qj3 Qcg Qhr
end Go.Abs
end
section
namespace Go.Proofs
open Go.Shelf
def Try.sortR_ren:Go.Shelf.Ren:=⟨fun|6=>101|15=>94|14=>119|28=>113|29=>114|20=>125|21=>126|22=>127|23=>128|24=>129|25=>130|26=>131|27=>132|46=>134|47=>121|48=>122|49=>135|50=>136|57=>137|n=>n,fun|22=>39|24=>87|25=>150|3=>3|39=>142|0=>0|53=>159|55=>161|4=>4|46=>153|45=>152|50=>127|5=>5|9=>9|66=>163|70=>167|76=>174|77=>66|n=>n,fun|n=>n⟩
theorem Try.sortR:Go.Proofs.SlLaysF0.n6 Try.prog Try.sortR_ren:={
 mixed:=by kernel_rfl
 f6:=⟨Try.f101.name,by decide,Try.func101.trans (congrArg some (by kernel_rfl))⟩
 f14:=⟨Try.f119.name,by decide,Try.func119.trans (congrArg some (by kernel_rfl))⟩
 f15:=Try.func94.trans (congrArg some (by kernel_rfl))
 f20:=⟨Try.f125.name,by decide,Try.func125.trans (congrArg some (by kernel_rfl))⟩
 f21:=⟨Try.f126.name,by decide,Try.func126.trans (congrArg some (by kernel_rfl))⟩
 f22:=⟨Try.f127.name,by decide,Try.func127.trans (congrArg some (by kernel_rfl))⟩
 f23:=⟨Try.f128.name,by decide,Try.func128.trans (congrArg some (by kernel_rfl))⟩
 f24:=⟨Try.f129.name,by decide,Try.func129.trans (congrArg some (by kernel_rfl))⟩
 f25:=⟨Try.f130.name,by decide,Try.func130.trans (congrArg some (by kernel_rfl))⟩
 f26:=⟨Try.f131.name,by decide,Try.func131.trans (congrArg some (by kernel_rfl))⟩
 f27:=⟨Try.f132.name,by decide,Try.func132.trans (congrArg some (by kernel_rfl))⟩
 f28:=Try.func113.trans (congrArg some (by kernel_rfl))
 f29:=Try.func114.trans (congrArg some (by kernel_rfl))
 f46:=⟨Try.f134.name,by decide,Try.func134.trans (congrArg some (by kernel_rfl))⟩
 f47:=Try.func121.trans (congrArg some (by kernel_rfl))
 f48:=Try.func122.trans (congrArg some (by kernel_rfl))
 f49:=⟨Try.f135.name,by decide,Try.func135.trans (congrArg some (by kernel_rfl))⟩
 f50:=⟨Try.f136.name,by decide,Try.func136.trans (congrArg some (by kernel_rfl))⟩
 f57:=⟨Try.f137.name,by decide,Try.func137.trans (congrArg some (by kernel_rfl))⟩
 t0:=Try.underlying0
 a0:=Try.isAgg0
 z0:=Try.sizeOf0
 v0:=Try.zeroValue0
 t3:=Try.underlying3
 a3:=Try.isAgg3
 z3:=Try.sizeOf3
 v3:=Try.zeroValue3
 t4:=Try.underlying4
 a4:=Try.isAgg4
 z4:=Try.sizeOf4
 v4:=Try.zeroValue4
 t5:=Try.underlying5
 a5:=Try.isAgg5
 z5:=Try.sizeOf5
 v5:=Try.zeroValue5
 t9:=Try.underlying9
 a9:=Try.isAgg9
 z9:=Try.sizeOf9
 v9:=Try.zeroValue9
 t22:=Try.underlying39
 a22:=Try.isAgg39
 z22:=Try.sizeOf39
 v22:=Try.zeroValue39
 t25:=Try.underlying150
 a25:=Try.isAgg150
 z25:=Try.sizeOf150
 v25:=Try.zeroValue150
 t39:=Try.underlying142
 a39:=Try.isAgg142
 z39:=Try.sizeOf142
 v39:=Try.zeroValue142
 t45:=Try.underlying152
 a45:=Try.isAgg152
 z45:=Try.sizeOf152
 v45:=Try.zeroValue152
 t46:=Try.underlying153
 a46:=Try.isAgg153
 z46:=Try.sizeOf153
 v46:=Try.zeroValue153
 t50:=Try.underlying127
 a50:=Try.isAgg127
 z50:=Try.sizeOf127
 v50:=Try.zeroValue127
 t53:=Try.underlying159
 a53:=Try.isAgg159
 z53:=Try.sizeOf159
 v53:=Try.zeroValue159
 t55:=Try.underlying161
 a55:=Try.isAgg161
 z55:=Try.sizeOf161
 v55:=Try.zeroValue161
 t66:=Try.underlying163
 a66:=Try.isAgg163
 z66:=Try.sizeOf163
 v66:=Try.zeroValue163
 t70:=Try.underlying167
 a70:=Try.isAgg167
 z70:=Try.sizeOf167
 v70:=Try.zeroValue167
 t76:=Try.underlying174
 a76:=Try.isAgg174
 z76:=Try.sizeOf174
 v76:=Try.zeroValue174
 t77:=Try.underlying66
 a77:=Try.isAgg66
 z77:=Try.sizeOf66
 v77:=Try.zeroValue66 }
end Go.Proofs
end
section
namespace Go.Abs
open Go Go.Sort Go.RowKit
theorem Qbda {P:Program} {f:FuncId} {ex:Array Value} {exV:List V} {sz nb:Nat} {M:Mem} (hb:Qj8 P f=true) (hex:∀ g w us,RFs g w exV us→us=ex.toList)
  (h:∀ (p:Option Addr) (cap:Nat) (w:World),Calls P f (#[.slice p 0 cap]++ex) w fun e' w'=>e' = .returned (.tuple #[])∧w'=w) :
  ACalls P f (.d (.lst sz [])::exV) M nb (.tup []) M nb:=by
 refine ⟨hb,Nat.le_refl _,fun w g us hm hMon hfresh hus hfl hons=>?_⟩;obtain ⟨u0,us',rfl,hu0,hus'⟩:=hus;have h1:=hex _ _ _ hus';subst h1;have h2:∃ p cap,u0 = .slice p 0 cap:=by
  have:=RF_d.1 hu0;obtain ⟨a,cap,rfl,_,_⟩:=this;exact ⟨a,cap,rfl⟩
 obtain ⟨p,cap,rfl⟩:=h2;have e1:(Value.slice p 0 cap::ex.toList).toArray = #[.slice p 0 cap]++ex:=by apply Array.ext';simp
 rw [e1];refine (h p cap w).mono ?_;rintro e' w' ⟨rfl,rfl⟩;exact ⟨_,g,rfl,hm,⟨[],rfl,rfl⟩,trivial,hMon,Fr.refl _ _ _⟩
theorem Qbio (l:List Int):(l.mergeSort fun x y=>decide (x≤y))=Qmv Qjy l:=by
 have hO:Go.Sort.SWO Qjy:=⟨fun x=>by simp [Qjy],fun x y z h1 h2=>by simp [Qjy] at *;omega,fun x y z h1 h2=>by simp [Qjy] at *;omega⟩;refine List.Perm.eq_of_pairwise (le:=fun a b=>Qjy b a=false) (fun a b _ _ h1 h2=>by simp [Qjy] at *;omega) ?_ (Qs5 hO l) ((List.mergeSort_perm _ _).trans (Qkr _ l).symm);have:=List.pairwise_mergeSort (le:=fun x y:Int=>decide (x≤y)) (fun a b c h1 h2=>by simp at *;omega) (fun a b=>by simp;omega) l;exact this.imp fun h=>by simp [Qjy] at *;omega
end Go.Abs
end
section
namespace Go.Abs
open Go Go.Sort Go.RowKit
theorem Qbdb (xs:List Int):rowV (eI .i64) xs=xs.map (Value.int .i64):=by
 unfold rowV
 induction xs with
 | nil=>rfl
 | cons x xs ih=>simp only [List.map_cons,List.flatten_cons,List.map_append,ih];rfl
theorem Qbnb {P:Program} {c:Nat} (hb:Qj8 P c=true)
  (hs:∀ (blk off cap:Nat) (zs:List Int) (w:World),Holds (Value.int .i64) w blk off zs.toArray→blk<w.heap.size→zs.length<4611686018427387904 →
   Calls P c #[.slice (some ⟨blk,off,none⟩) zs.length cap] w fun e w'=>e = .returned (.tuple #[])∧∃ n os,w'=grow (putRow (Value.int .i64) (Sort.ahead w n) blk off (zs.mergeSort fun x y=>decide (x≤y)).toArray) os)
  (hnone:∀ (p:Option Addr) (cap:Nat) (w:World),Calls P c (#[.slice p 0 cap] ++ #[]) w fun e' w'=>e' = .returned (.tuple #[])∧w'=w) :
  RowK P c (eI .i64) 1 [] (fun l=>if l.length≤lim then some (Qmv Qjy l) else none):=by
 have hrow:Qbm2 P c (eI .i64) #[] (fun xs=>Qmv Qjy xs):=by
  intro blk cap xs w hcell hblk hsz;refine Calls.mono (hs blk 0 cap xs w ?_ hblk hsz) ?_
  ·intro j hj;have hj' : j<xs.length:=by simpa using hj
   have:=hcell j (by rw [Qbdb];simpa using hj');rw [Qbdb] at this;rw [Nat.zero_add];refine ⟨?_,this.2⟩;rw [this.1,getElem!_pos xs.toArray j hj];simp [hj']
  ·rintro e w' ⟨rfl,n,os,rfl⟩;refine ⟨rfl,n,os,?_⟩;rw [Qbio,Qbdb];congr 1;unfold putRow;congr 1;funext c;unfold putCells;congr 1;funext k x;simp only [List.size_toArray,List.length_map];split
   ·rename_i h;simp only [id];rw [getElem!_pos _ _ (by simp;omega),getElem!_pos _ _ (by simp;omega)];simp
   ·rfl
 intro xs ys h;dsimp only at h;split at h<;>cases h;rename_i hl;refine ⟨Qs4 _ _,fun h0=>?_,fun hl2 cap k0 M nb hM=>?_⟩
 ·subst h0;exact ⟨rfl,fun M nb=>Qbda (ex:=#[]) (exV:=[]) hb (fun _ _ _ h=>h) hnone⟩
 ·exact Qbep (e:=eI .i64) (fun _=>rfl) (fun _=>rfl) (fun xs=>Qs4 _ _) (ex:=#[]) (exV:=[]) (fun _ _ _ h=>h) hb hrow xs cap k0 M nb hM (by unfold lim at hl;omega)
end Go.Abs
end
section
namespace Go.Proofs
open Go.Shelf
def Try.laysSlM5_f56_ren:Go.Shelf.Ren:=⟨fun|5=>73|8=>94|7=>93|19=>113|20=>114|10=>105|11=>106|12=>107|13=>108|14=>109|15=>110|16=>95|17=>111|18=>112|30=>120|31=>121|32=>122|33=>123|34=>124|35=>115|40=>133|n=>n,fun|23=>32|25=>3|3=>3|32=>142|22=>32|0=>0|44=>159|46=>161|4=>4|36=>153|35=>152|41=>127|5=>5|9=>9|53=>163|57=>167|63=>174|64=>66|n=>n,fun|n=>n⟩
theorem Try.laysSlM5_f56:Go.Proofs.SlLaysM.n5 Try.prog Try.laysSlM5_f56_ren:={
 mixed:=by kernel_rfl
 f5:=⟨Try.f73.name,by decide,Try.func73.trans (congrArg some (by kernel_rfl))⟩
 f7:=⟨Try.f93.name,by decide,Try.func93.trans (congrArg some (by kernel_rfl))⟩
 f8:=Try.func94.trans (congrArg some (by kernel_rfl))
 f10:=⟨Try.f105.name,by decide,Try.func105.trans (congrArg some (by kernel_rfl))⟩
 f11:=⟨Try.f106.name,by decide,Try.func106.trans (congrArg some (by kernel_rfl))⟩
 f12:=⟨Try.f107.name,by decide,Try.func107.trans (congrArg some (by kernel_rfl))⟩
 f13:=⟨Try.f108.name,by decide,Try.func108.trans (congrArg some (by kernel_rfl))⟩
 f14:=⟨Try.f109.name,by decide,Try.func109.trans (congrArg some (by kernel_rfl))⟩
 f15:=⟨Try.f110.name,by decide,Try.func110.trans (congrArg some (by kernel_rfl))⟩
 f16:=⟨Try.f95.name,by decide,Try.func95.trans (congrArg some (by kernel_rfl))⟩
 f17:=⟨Try.f111.name,by decide,Try.func111.trans (congrArg some (by kernel_rfl))⟩
 f18:=⟨Try.f112.name,by decide,Try.func112.trans (congrArg some (by kernel_rfl))⟩
 f19:=Try.func113.trans (congrArg some (by kernel_rfl))
 f20:=Try.func114.trans (congrArg some (by kernel_rfl))
 f30:=⟨Try.f120.name,by decide,Try.func120.trans (congrArg some (by kernel_rfl))⟩
 f31:=Try.func121.trans (congrArg some (by kernel_rfl))
 f32:=Try.func122.trans (congrArg some (by kernel_rfl))
 f33:=⟨Try.f123.name,by decide,Try.func123.trans (congrArg some (by kernel_rfl))⟩
 f34:=⟨Try.f124.name,by decide,Try.func124.trans (congrArg some (by kernel_rfl))⟩
 f35:=⟨Try.f115.name,by decide,Try.func115.trans (congrArg some (by kernel_rfl))⟩
 f40:=⟨Try.f133.name,by decide,Try.func133.trans (congrArg some (by kernel_rfl))⟩
 t0:=Try.underlying0
 a0:=Try.isAgg0
 z0:=Try.sizeOf0
 v0:=Try.zeroValue0
 t3:=Try.underlying3
 a3:=Try.isAgg3
 z3:=Try.sizeOf3
 v3:=Try.zeroValue3
 t4:=Try.underlying4
 a4:=Try.isAgg4
 z4:=Try.sizeOf4
 v4:=Try.zeroValue4
 t5:=Try.underlying5
 a5:=Try.isAgg5
 z5:=Try.sizeOf5
 v5:=Try.zeroValue5
 t9:=Try.underlying9
 a9:=Try.isAgg9
 z9:=Try.sizeOf9
 v9:=Try.zeroValue9
 t22:=Try.underlying32
 a22:=Try.isAgg32
 z22:=Try.sizeOf32
 v22:=Try.zeroValue32
 t23:=Try.underlying32
 a23:=Try.isAgg32
 z23:=Try.sizeOf32
 v23:=Try.zeroValue32
 t25:=Try.underlying3
 a25:=Try.isAgg3
 z25:=Try.sizeOf3
 v25:=Try.zeroValue3
 t32:=Try.underlying142
 a32:=Try.isAgg142
 z32:=Try.sizeOf142
 v32:=Try.zeroValue142
 t35:=Try.underlying152
 a35:=Try.isAgg152
 z35:=Try.sizeOf152
 v35:=Try.zeroValue152
 t36:=Try.underlying153
 a36:=Try.isAgg153
 z36:=Try.sizeOf153
 v36:=Try.zeroValue153
 t41:=Try.underlying127
 a41:=Try.isAgg127
 z41:=Try.sizeOf127
 v41:=Try.zeroValue127
 t44:=Try.underlying159
 a44:=Try.isAgg159
 z44:=Try.sizeOf159
 v44:=Try.zeroValue159
 t46:=Try.underlying161
 a46:=Try.isAgg161
 z46:=Try.sizeOf161
 v46:=Try.zeroValue161
 t53:=Try.underlying163
 a53:=Try.isAgg163
 z53:=Try.sizeOf163
 v53:=Try.zeroValue163
 t57:=Try.underlying167
 a57:=Try.isAgg167
 z57:=Try.sizeOf167
 v57:=Try.zeroValue167
 t63:=Try.underlying174
 a63:=Try.isAgg174
 z63:=Try.sizeOf174
 v63:=Try.zeroValue174
 t64:=Try.underlying66
 a64:=Try.isAgg66
 z64:=Try.sizeOf66
 v64:=Try.zeroValue66 }
open Go.Sort Go.RowKit in
theorem Try.slices_Sort_int (blk off cap:Nat) (zs:List Int) (w:World) (hH:Holds (Value.int .i64) w blk off zs.toArray) (hblk:blk<w.heap.size) (hsz:zs.length<4611686018427387904) :
  Calls Try.prog 73 #[.slice (some ⟨blk,off,none⟩) zs.length cap] w fun e w' =>
   e = .returned (.tuple #[])∧∃ n os,w'=grow (putRow (Value.int .i64) (Sort.ahead w n) blk off (zs.mergeSort fun x y=>decide (x≤y)).toArray) os:=AnyM.slices_Sort_int Try.laysSlM5_f56 blk off cap zs w hH hblk hsz
open Go.RowKit Go.Sort in
theorem Try.slices_Sort_int_none (p:Option Addr) (cap:Nat) (w:World) :
  Calls Try.prog 73 #[.slice p 0 cap] w fun e w'=>e = .returned (.tuple #[])∧w'=w:=AnyM.slices_Sort_int_none Try.laysSlM5_f56 p cap w
end Go.Proofs
end
section
namespace Go.Proofs
open Go.Abs
theorem Try.rowK73:Go.Abs.RowK Try.prog 73 (eI .i64) 1 [] Qbru :=
 Qbnb (by kernel_rfl) Try.slices_Sort_int Try.slices_Sort_int_none
end Go.Proofs
end
section
namespace Go.Abs
open Go Go.Sort Go.Shelf Go.RowKit Go.Lib Go.Proofs
theorem Qbhd {α:Type} [Inhabited α] {enc:α→List Value} {k:Nat} (hk:∀ x,(enc x).length=k) (h0:0<k):∀ (l:List α) (t:Nat),t<l.length*k→(l.map enc).flatten[t]? = some (enc l[t / k]!)[t % k]!
 | [],t,h=>by simp at h
 | x::xs,t,h=>by
  rw [List.map_cons,List.flatten_cons];by_cases hl:t<k
  ·rw [List.getElem?_append_left (by rw [hk];exact hl),Nat.div_eq_of_lt hl,Nat.mod_eq_of_lt hl];have:t<(enc x).length:=by rw [hk];exact hl
   simp [this]
  ·have hge:k≤t:=by omega
   have h2:t-k<xs.length*k:=by simp only [List.length_cons,Nat.add_mul,Nat.one_mul] at h;omega
   rw [List.getElem?_append_right (by rw [hk];exact hge),hk,Qbhd hk h0 xs (t-k) h2];have e1:t / k=(t-k) / k+1:=by rw [← Nat.add_div_right _ h0,Nat.sub_add_cancel hge]
   have e2:t % k=(t-k) % k:=by rw [Nat.mod_eq_sub_mod hge]
   rw [e1,e2];simp
theorem Qbhe {α:Type} [Inhabited α] {enc:α→List Value} {k:Nat} (hk:∀ x,(enc x).length=k) (h0:0<k) (l:List α):flatK enc k l.toArray=(l.map enc).flatten.toArray:=by
 have hs:(l.map enc).flatten.length=l.length*k:=by
  induction l with
  | nil=>simp
  | cons x xs ih=>rw [List.map_cons,List.flatten_cons,List.length_append,ih,hk];simp [Nat.add_mul];omega
 refine ext_get! (by simp [hs]) fun t ht=>?_;have ht' : t<l.length*k:=by simpa using ht
 rw [get_flatK _ _ _ _ (by simpa using ht')];have:=Qbhd hk h0 l t ht';obtain ⟨h1,h2⟩:=List.getElem?_eq_some_iff.1 this;rw [getElem!_pos _ t (by simpa using h1)];simp only [List.getElem_toArray,h2];simp
theorem Qbhf {α:Type} (e:α→List D) (xs:List α):rowV e xs=(xs.map fun x=>(e x).map D.val).flatten:=by
 unfold rowV;rw [List.map_flatten,List.map_map];rfl
theorem Qbdz {P:Program} {ρ:Ren} {α:Type} [Inhabited α] (L:SlLaysF0.n6 P ρ) {k:Nat} (aE:∀ w,(isAgg (ρ.t 24)).run P w = .ok true w) (zE:∀ w,(Go.sizeOf (ρ.t 24)).run P w = .ok k w) (e:α→List D) (hk:∀ x,(e x).length=k) (h0:0<k) (hsc:∀ x,(e x).all D.scalar=true)
  (cf:α→α→Int) (hO:SWO (ltOf cf)) (g:Nat) (cb:Array Value) (eg:∀ args w,(callFunc g args).run P w = .ok (.enter g args) w)
  (hcmp:∀ (x y:α) (W:World),Calls P g (#[.agg ((e x).map D.val).toArray,.agg ((e y).map D.val).toArray]++cb) W fun r w'=>r = .returned (.int .i64 (cf x y))∧∃ q os',w'=grow (W.drewN q) os') :
  Qbm2 P (ρ.f 6) e #[.func (.func g) #[] cb] (fun xs=>(pdq (ltOf cf) xs.toArray 0 xs.length (Lib.bitLen xs.length) true true).toList):=by
 intro blk cap xs w hc hblk hsz;have henc:∀ x,((fun x=>(e x).map D.val) x).length=k:=fun x=>by simp [hk]
 have h1:∀ x:α,∀ v∈(e x).map D.val,v.oneCell'=true:=by
  intro x v hv;obtain ⟨d,hd,rfl⟩:=List.mem_map.1 hv;exact Qbm1 (List.all_eq_true.1 (hsc x) d hd)
 have hH:HoldsK (fun x=>(e x).map D.val) k w blk 0 xs.toArray:=by
  unfold HoldsK;rw [Qbhe henc h0,← Qbhf];intro j hj;have hj' : j<(rowV e xs).length:=by simpa using hj
  obtain ⟨k1,k2⟩:=hc j hj';rw [Nat.zero_add];refine ⟨k1.trans ?_,k2⟩;rw [List.getElem?_eq_getElem hj',getElem!_pos _ j hj];rfl
 have hcl:CmpLays P g cb (fun x=>(e x).map D.val) k cf blk 0 xs.toArray.size w:=fun _ _ _ _ x y=>hcmp x y _;have:=AnyQ.slices_SortFunc_eq L k aE zE (fun x=>(e x).map D.val) henc h1 cf hO g cb blk 0 cap xs.toArray w eg hcl hH hblk (by simpa using hsz);refine this.mono ?_;rintro r w' ⟨rfl,n,os,rfl⟩;refine ⟨rfl,n,os,?_⟩;unfold sortWorldK putRowK;have hrow:flatK (fun x=>(e x).map D.val) k (pdq (ltOf cf) xs.toArray 0 xs.toArray.size (Lib.bitLen xs.toArray.size) true true)=(rowV e (pdq (ltOf cf) xs.toArray 0 xs.length (Lib.bitLen xs.length) true true).toList).toArray:=by
  rw [Qbhf,← Qbhe henc h0];simp
 rw [hrow]
section
variable {α:Type} [Inhabited α]
theorem Qbf4 {lt:α→α→Bool} (hO:SWO lt) (xs:List α) (k:Nat):(pdq lt xs.toArray 0 xs.length k true true).toList.Perm xs∧(pdq lt xs.toArray 0 xs.length k true true).toList.Pairwise fun a b=>lt b a=false:=by
 obtain ⟨⟨h1,_,h2⟩,h3⟩:=pdq_sorts lt hO xs.toArray 0 xs.length k true true (Nat.zero_le _) (by simp) (Or.inl rfl);generalize pdq lt xs.toArray 0 xs.length k true true=d at *
 have hs:d.size=xs.length:=by simpa using h1
 refine ⟨?_,?_⟩
 ·have e1:d.extract 0 xs.length=d:=by rw [← hs];exact Array.extract_size
  have e2:xs.toArray.extract 0 xs.length=xs.toArray:=by
   have:xs.length=xs.toArray.size:=by simp
   rw [this];exact Array.extract_size
  rw [e1,e2] at h2;simpa using h2
 ·rw [List.pairwise_iff_getElem];intro i j hi hj hij;have hi' : i<d.size:=by simpa using hi
  have hj' : j<d.size:=by simpa using hj
  have:=h3 i j (Nat.zero_le _) hij (by omega);rw [getElem!_pos d i hi',getElem!_pos d j hj'] at this;simpa using this
theorem Qbnc {lt:α→α→Bool} (hO:SWO lt) (xs:List α) (k:Nat) (hd:Qbbq lt xs=true):(pdq lt xs.toArray 0 xs.length k true true).toList=Qmv lt xs :=
 Qbf3 hO hd (Qbf4 hO xs k).1 (Qbf4 hO xs k).2
end
theorem Qbnd {β:Type} {P:Program} {c:Nat} {e:β→List D} {sz N:Nat} {ok:β→Bool} {lt:β→β→Bool} [Inhabited {x:β // ok x=true}] {lt' : {x:β // ok x=true}→{x:β // ok x=true}→Bool}
  (hN:N<4611686018427387904) (hk:∀ x,(e x).length=sz) (hsc:∀ x,(e x).all D.scalar=true) (hO:SWO lt') (hlt:∀ x y,lt' x y=lt x.1 y.1) (hb:Qj8 P c=true) {ex:Array Value} {exV:List V} (hex:∀ g w us,RFs g w exV us→us=ex.toList)
  (hrow:Qbm2 P c (fun x:{x:β // ok x=true}=>e x.1) ex (fun xs=>(pdq lt' xs.toArray 0 xs.length (Lib.bitLen xs.length) true true).toList))
  (hnone:∀ (p:Option Addr) (cap:Nat) (w:World),Calls P c (#[.slice p 0 cap]++ex) w fun e' w'=>e' = .returned (.tuple #[])∧w'=w) :
  RowK P c e sz exV (fun l=>if l.length≤N then Qbok ok lt l else none):=by
 intro xs ys h;dsimp only at h;split at h<;>try (cases h;done)
 rename_i hlN;unfold Qbok at h;split at h<;>cases h;rename_i hok;simp only [Bool.and_eq_true,List.all_eq_true] at hok;obtain ⟨ho,hd⟩:=hok;obtain ⟨zs,rfl⟩ : ∃ zs:List {x:β // ok x=true},xs=zs.map Subtype.val:=⟨xs.pmap Subtype.mk ho,by rw [List.map_pmap];simp⟩;have hd' : Qbbq lt' zs=true:=by
  rw [Qbhc] at hd;rw [show lt'=fun a b=>lt a.1 b.1 from funext fun a=>funext fun b=>hlt a b];exact hd
 have e1:Qmv lt (zs.map Subtype.val)=(Qmv lt' zs).map Subtype.val:=by
  rw [Qbev,show lt'=fun a b=>lt a.1 b.1 from funext fun a=>funext fun b=>hlt a b]
 refine ⟨Qs4 _ _,fun h0=>?_,fun hl cap k0 M nb hM=>?_⟩
 ·simp only [List.map_eq_nil_iff] at h0;subst h0;exact ⟨rfl,fun M nb=>Qbda hb hex hnone⟩
 ·have hM' : M k0=some (.cells (Qc1 (zs.map fun x=>e x.1) ((cap-zs.length)*sz))):=by
   rw [hM,List.map_map,List.length_map];rfl
  have:=Qbep (fun x=>hk x.1) (fun x=>hsc x.1) (fun xs=>(Qbf4 hO xs _).1.length_eq) hex hb hrow zs cap k0 M nb hM' (by rw [List.length_map] at hlN;omega);rw [Qbnc hO zs _ hd'] at this;rw [e1,List.map_map,List.length_map];exact this
end Go.Abs
end
section
namespace Go.Proofs
open Go.Shelf Go.RowKit Go.Lib Go.Sort Go.Abs
abbrev RmOk:={x:Qb // okRm x=true}
instance:Inhabited RmOk:=⟨⟨⟨0,0,0,0⟩,rfl⟩⟩
def cfR (x y:RmOk):Int:=x.1.State-y.1.State
theorem Qbbz (x y:RmOk):ltOf cfR x y=ltRm x.1 y.1:=by
 unfold ltOf cfR ltRm;apply decide_eq_decide.2;omega
theorem swoR:SWO (ltOf cfR):={
 irrefl x:=by rw [Qbbz];simp [ltRm]
 trans x y z h1 h2:=by rw [Qbbz] at *;simp only [ltRm,decide_eq_true_eq] at *;omega
 ntrans x y z h1 h2:=by rw [Qbbz] at *;simp only [ltRm,decide_eq_false_iff_not] at *;omega }
set_option maxHeartbeats 1000000 in
theorem Try.rems102 (x y:RmOk) (W:World):Calls Try.prog 102 #[.agg ((Qt x.1).map D.val).toArray,.agg ((Qt y.1).map D.val).toArray] W fun e w'=>e = .returned (.int .i64 (cfR x y))∧∃ q os',w'=grow (W.drewN q) os':=by
 obtain ⟨⟨a,b,c,d⟩,hx0⟩:=x;obtain ⟨⟨a',b',c',d'⟩,hy0⟩:=y;have hx:=hx0;have hy:=hy0;simp only [okRm,decide_eq_true_eq] at hx hy;have w1:IntKind.i64.wrap (a-a')=a-a':=by simp [IntKind.wrap,IntKind.bits,IntKind.signed];omega
 have hr:cfR ⟨⟨a,b,c,d⟩,hx0⟩ ⟨⟨a',b',c',d'⟩,hy0⟩=a-a':=rfl;generalize cfR ⟨⟨a,b,c,d⟩,hx0⟩ ⟨⟨a',b',c',d'⟩,hy0⟩=r at hr ⊢;simp only [Qt,List.map_cons,List.map_nil,D.val]
 go_enter Try.func102,Try.ntmps102
 go_wp2
 go_ret
 exact ⟨by rw [hr];rfl,0,_,by rw [alloc_eq_grow,alloc_eq_grow,grow_grow];rfl⟩
set_option maxHeartbeats 1000000 in
theorem Try.row101:Qbm2 Try.prog 101 (fun x:RmOk=>Qt x.1) #[.func (.func 102) #[] #[]] (fun xs=>(pdq (ltOf cfR) xs.toArray 0 xs.length (Lib.bitLen xs.length) true true).toList) :=
 Qbdz Try.sortR Try.isAgg87 Try.sizeOf87 (fun x:RmOk=>Qt x.1) (fun _=>rfl) (by decide) (fun _=>rfl) cfR swoR 102 #[] (enters_of Try.func102 (by kernel_rfl) rfl) (fun x y W=>Try.rems102 x y W)
theorem Try.none101 (p:Option Addr) (cap:Nat) (w:World):Calls Try.prog 101 (#[.slice p 0 cap] ++ #[.func (.func 102) #[] #[]]) w fun e' w'=>e' = .returned (.tuple #[])∧w'=w :=
 AnyF.slices_SortFunc_none Try.sortR p cap (.func (.func 102) #[] #[]) w
theorem Qbrv {g:G} {w:World} {f:Nat} {us:List Value} (h:RFs g w [.clo f []] us):us = #[Value.func (.func f) #[] #[]].toList:=by
 obtain ⟨u,us',rfl,h1,h2⟩:=h;have h1:=h1 .ext;simp only [RV,RVs] at h1;obtain ⟨vs,rfl,rfl⟩:=h1;have:us'=[]:=h2;subst this;rfl
theorem Try.rowK101:Go.Abs.RowK Try.prog 101 Qt 4 [.clo 102 []] Qbol :=
 Qbnd (e:=Qt) (sz:=4) (N:=65536) (by decide) (fun _=>rfl) (fun _=>rfl) swoR Qbbz (by kernel_rfl) (ex:=#[.func (.func 102) #[] #[]]) (exV:=[.clo 102 []]) (fun _ _ us h=>Qbrv h) Try.row101 Try.none101
end Go.Proofs
end
section
namespace Go.Proofs
open Go Go.Abs
set_option maxRecDepth 10000
set_option maxHeartbeats 4000000
theorem Q2d:Qii Try.prog 35 Qqq:=Qyq Q4b
theorem Q4g:Qi3 Try.prog 85 Qgy:=Q0k Q6m Qch
theorem Q8b:Qll Try.prog 116 Qid:=Q33 Q9t Qch
theorem Qh7:Qeu Try.prog 98 Qdf:=Qyr Q8b Q4f
theorem Q0q:Qhv Try.prog 86 Qf2:=Qww Qh7 Q2c Qch
theorem Qvj:Qiw Try.prog 64 Qhb:=Q6g Q4g Q0q Qbat
theorem Qsc:Qhj Try.prog 31 Qfy:=Q14 Q78 Qch
theorem Qmy:Qf1 Try.prog 65 Qf3:=Qwx Q2a
theorem Qbbr:Qtt Try.prog 115 Qun:=Q9m Qbc7
theorem Qbdc:Qvt Try.prog 95 Qjz:=Qbar Qbbr Qbdy
theorem Q8c:Qln Try.prog 96 Qie:=Q34 Q9s
theorem Qvc:Qgp Try.prog 74 Qeq:=Qsz Qbdc Q8c Qw4 Qch
theorem Qei:Qde Try.prog 50 Qc0:=Q15 Qvc Q79
theorem Q0r:Qhy Try.prog 30 Qf4:=Qwy Qsc Qei Qvj Qmy Q17 Qch
theorem Q0s:Qh0 Try.prog 37 Qf5:=Qwz Qei Q18 Qch
theorem Qoy:Qev Try.prog 76 Qe1:=Qms Qqn
theorem Qyy:Qhk Try.prog 71 Qhn:=Qu9 Q0p Qch
theorem Qfz:Qdq Try.prog 40 Qcz:=Qr3 Qyy Qvb
theorem Qoz:Qex Try.prog 97 Qe2:=Qmt Qei Qqo
theorem Qr7:Qfh Try.prog 77 Qd6:=Qov Qfz Qoz Qs3
theorem Qr8:Qfj Try.prog 53 Qd7:=Qow Qfz Qei Qoy Qr7 Qs2 Qch
theorem Qgw:Qdm Try.prog 39 Qcv:=Qlh Qei Qox Qch
theorem Qs6:Qfr Try.prog 38 Qdg:=Qqj Qgw Qr8 Quk Qch
theorem Qqr:Qfa Try.prog 41 Qfd:=Qnz Qr5
theorem Quo:Qic Try.prog 72 Qgl:=Q35 Q9p
theorem Qmz:Qek Try.prog 42 Qdd:=Qkq Qei Quo Qn1 Qch
theorem Qih:Qef Try.prog 11 Qdh:=Qqk Q0r Q0s Qs6 Qgw Qfz Qqr Qmz Quj Qch
theorem Qs7:Qfu Try.prog 48 Qis:=Qql Qul
theorem Q0t:Qh2 Try.prog 47 Qn5:=Qw0 Qmy Try.rowK73 Q19 Qch
theorem Qvd:Qgr Try.prog 17 Qj0:=Qs0 Q0t Qs7 Qw2
theorem Q8d:Ql0 Try.prog 45 Qif:=Q36 Q9n Qch
theorem Q9u:Qvi Try.prog 16 Qku:=Qbc6 Q8d Qbhb
theorem Q2e:Qil Try.prog 9 Qit:=Qys Qih Q9u Qvd Q2d Q4a
theorem Qiu:Qen Try.prog 33 Qcg:=Qr4 Qva Qch
theorem Qn6:Qgk Try.prog 69 Qe3:=Qyt Q4c
theorem Qqs:Qgx Try.prog 91 Qcs:=Q0l Q6n Qch
theorem Qsd:Qhm Try.prog 90 Qdi:=Q16 Q8a Qch
theorem Q2f:Qio Try.prog 89 Qgm:=Qyu Qsd Qqs Q4d Qch
theorem Q2g:Qiq Try.prog 92 Qe4:=Qyv Q4e Qch
theorem Qve:Qgt Try.prog 70 Qer:=Qs1 Qn6 Q2f Qsd Qqs Q2g Qw3 Qch
theorem Q4h:Qi6 Try.prog 36 Qgz:=Q0m Qn6 Qve Q6l Qch
theorem Q4i:Qi8 Try.prog 10 Qg0:=Q0n Qiu Q4h Q6k Qch
theorem Qyz:Qj2 Try.prog 66 Qge:=Q74 Qbbp Qch
theorem Q8e:Ql2 Try.prog 67 Qmw:=Q37 Q9o
theorem Qbaw:Qro Try.prog 32 Qj3:=Q75 Qyz Q8e Qbbm
theorem Q9v:Qof Try.prog 87 Qix:=Q6h Qsc Qvj Qbau
theorem Q9w:Qoh Try.prog 99 Qiy:=Q6i Qbav Qch
theorem Qw5:Qg7 Try.prog 117 Qe6:=Quh Qh7 Qyx Qch
theorem Qhd:Qdz Try.prog 103 Qc3:=Qn0 Qr6 Qch
theorem Qs8:Qfw Try.prog 118 Qeg:=Qqm Qhd Qum Qch
theorem Qw6:Qg9 Try.prog 100 Qd4:=Qui Qw5 Qs8 Qyw
theorem Qbhg:Qsb Try.prog 102 Q6p:=Q0o Q6o
theorem Qo0:Qez Try.prog 104 Qdv:=Qmu Quo Qh7 Qqp Qch
theorem Q8f:Qmo Try.prog 88 Qig:=Q38 Q9w Qw6 Try.rowK101 Qhd Qo0 Q9r Qch
theorem Q0u:Qh4 Try.prog 68 Qh6:=Qw1 Q9v Q8f Q2b
theorem Qbax:Qrz Try.prog 34 Qhr:=Q76 Q0u Qbbn
theorem Q8g:Qmq Try.prog 78 Qmx:=Q39 Q9q
theorem Qbay:Qr1 Try.prog 55 Qj4:=Q77 Qyz Q8g Qbbo
theorem Q9x:Qot Try.prog 24 Qfo:=Q6j Qbay Qbas
theorem Q8h:Qf7 Try.prog 8 Qea:=Qji Q2e Q4i Qih Q9u Q9x Qbaw Qiu Qbax Qli
end Go.Proofs
end
section
namespace Go.Abs
open Go Go.ChangeShapes Go.WideShapes Go.ChangeAt Go.RowKit
def live (w:World):Nat→Nat→Prop:=fun b o=>(w.cell? ⟨b,o,none⟩).isSome=true
def RDs (w:World):List D→List Value→Prop
 | [],vs=>vs=[]
 | x::xs,vs=>∃ u us,vs=u::us∧RD (live w) w x u∧RDs w xs us
theorem Qbew {w:World}:∀ {xs ys:List D} {us vs:List Value},RDs w xs us→RDs w ys vs→RDs w (xs++ys) (us++vs)
 | [],ys,us,vs,h,k=>by simp only [RDs] at h;subst h;simpa using k
 | x::xs,ys,us,vs,⟨u,us',e,r,h⟩,k=>by subst e;exact ⟨u,us'++vs,by simp,r,Qbew h k⟩
def RDat (w:World) (cs:List Value) (off:Nat) (xs:List D):Prop:=RDs w xs ((cs.drop off).take xs.length)
theorem RDat.app {w:World} {cs:List Value} {off:Nat} {xs ys:List D} (h:RDat w cs off xs) {n:Nat} (hn:n=off+xs.length) (k:RDat w cs n ys):RDat w cs off (xs++ys):=by
 subst hn;have:=Qbew h k;unfold RDat;rw [List.length_append,List.take_add,List.drop_drop];exact this
theorem RDat.nil {w:World} {cs:List Value} {off:Nat}:RDat w cs off []:=by simp [RDat,RDs]
theorem RDat.all {w:World} {cs:List Value} {xs:List D} (h:RDat w cs 0 xs) (hl:cs.length=xs.length):RDs w xs cs:=by
 unfold RDat at h;rw [List.drop_zero,← hl,List.take_length] at h;exact h
def Qbdd {α:Type} (P:Program) (t:TypeId) (e:α→List D) (wf:α→Prop):Prop :=
 ∀ {H:Type} {enc:TypeId×Value→H} {w:World} {base:Nat} {spare:Nat→Bool} {held:Bool} {fuel:Nat} {cs:List Value} {x:DataW H×List MemPlace},
  DataW.trod enc P w base spare held fuel t cs=some x→∃ a,wf a∧RDs w (e a) cs
def wfI (k:IntKind) (n:Int):Prop:=(Lit.int k n).wf=true
variable {P:Program} {t:TypeId}
theorem Qbhh {k:IntKind} (ht:P.underlying t=some (.int k)):Qbdd P t (fun n:Int=>[.int k n]) (wfI k):=by
 intro H enc w base spare held fuel cs x h;obtain ⟨n,rfl,_,hw⟩:=DataW.trod_int ht h;exact ⟨n,hw,_,_,rfl,by simp [RD],rfl⟩
theorem Qfl {α:Type} {el:TypeId} {e:α→List D} {wf:α→Prop} {sz:Nat} (he:Qbdd P el e wf) (hsz:P.cellsOf el=sz) (hlen:∀ a,(e a).length=sz)
  {H:Type} {enc:TypeId×Value→H} {w:World} {base:Nat} {spare:Nat→Bool} {held:Bool} {fuel off:Nat} {cs:List Value} {x:DataW H×List MemPlace}
  (h:DataW.trod enc P w base spare held fuel el ((cs.drop off).take (P.cellsOf el))=some x):∃ a,wf a∧RDat w cs off (e a):=by
 obtain ⟨a,h1,h2⟩:=he h;refine ⟨a,h1,?_⟩;unfold RDat;rw [hlen,← hsz];exact h2
theorem Qbde {H:Type} {enc:TypeId×Value→H} {w:World} {base:Nat} {spare:Nat→Bool} {held:Bool} {fuel:Nat} {cs:List Value} {x:DataW H×List MemPlace} {fs:Array Field}
  (ht:P.underlying t=some (.struct fs)) (h:DataW.trod enc P w base spare held fuel t cs=some x) :
  cs.length=P.cellsOf t∧∃ n,∀ (i:Nat) (f:Field),fs[i]? = some f→∃ y,DataW.trod enc P w base spare held n f.type ((cs.drop f.offset).take (P.cellsOf f.type))=some y:=by
 obtain ⟨xs,n,_,_,h1,h2,h3⟩:=DataW.trod_struct ht h;refine ⟨h1,n,fun i f hf=>?_⟩;have hi:i<fs.size:=(Array.getElem?_eq_some_iff.1 hf).1;exact ⟨xs[i]'(by omega),by rw [h3 i f hf];exact List.getElem?_eq_getElem (by omega)⟩
theorem Qbom {H:Type} {enc:TypeId×Value→H} {w:World} {base:Nat} {spare:Nat→Bool} {held:Bool} {fuel:Nat} {cs:List Value} {x:DataW H×List MemPlace} {n:Nat} {el:TypeId}
  (ht:P.underlying t=some (.array n el)) (h:DataW.trod enc P w base spare held fuel t cs=some x) :
  cs.length=P.cellsOf t∧∃ m,∀ i,i<n→∃ y,DataW.trod enc P w base spare held m el ((cs.drop (i*P.cellsOf el)).take (P.cellsOf el))=some y:=by
 obtain ⟨xs,m,_,_,h1,h2,h3⟩:=DataW.trod_array ht h;exact ⟨h1,m,fun i hi=>⟨xs[i]'(by omega),by rw [h3 i hi];exact List.getElem?_eq_getElem (by omega)⟩⟩
def Qs9 {α:Type} (P:Program) (t:TypeId) (v:α→V) (wf:α→Prop):Prop :=
 ∀ {H:Type} {enc:TypeId×Value→H} {w:World} {base b0:Nat} {spare:Nat→Bool} {held:Bool} {u:Value} {d:DataW H} {ps:List MemPlace},
  Value.okWide P w .any b0 t u→DataW.Trod enc P w base spare held t u d ps→∃ a,wf a∧RF ⟨fun _=>0,live w,fun _=>.ext⟩ w (v a) u
theorem Qbqg {α:Type} {e:α→D} {wf:α→Prop} (he:Qbdd P t (fun a=>[e a]) wf) (hone:∀ w b0 u,Value.okWide P w .any b0 t u→u.cells = #[u]):Qs9 P t (fun a=>.d (e a)) wf:=by
 intro H enc w base b0 spare held u d ps hok hd;obtain ⟨fuel,hf⟩:=hd;rw [hone _ _ _ hok] at hf;obtain ⟨a,h1,u',us,h2,h3,h4⟩:=he hf;simp only [RDs] at h4;subst h4;simp at h2;subst h2;exact ⟨a,h1,fun ℓ=>by simpa [RV] using h3⟩
theorem Qbqh {k:IntKind} (ht:P.underlying t=some (.int k)):∀ w b0 u,Value.okWide P w .any b0 t u→u.cells = #[u]:=by
 intro w b0 u h;simp only [Value.okWide,ht] at h;cases u<;>first|rfl|(simp [Cell.okWide,Cell.ok,ht] at h)
theorem Qbrw {imm:Nat→Nat→Prop} {w:World} {x:D} {u:Value} (h:RD imm w x u):u.oneCell'=true:=by
 cases x with
 | int k n=>simp only [RD] at h;subst h;rfl
 | bool b=>simp only [RD] at h;subst h;rfl
 | str s=>simp only [RD] at h;subst h;rfl
 | lst sz l=>simp only [RD] at h;obtain ⟨a,cap,rfl,_⟩:=h;cases a<;>rfl
 | mp es c=>simp only [RD] at h;obtain ⟨b,rfl,_⟩:=h;rfl
theorem Qbne {w:World} {g:G} (hg:g.imm=live w):∀ {xs:List D} {us:List Value} {ℓ:Owner} {i:Nat},RDs w xs us→RVs g w (xs.map V.d) ℓ i us∧∀ u∈us,u.oneCell'=true
 | [],us,ℓ,i,h=>by simp only [RDs] at h;subst h;simp [RVs]
 | x::xs,us,ℓ,i,⟨u,us',e,r,h⟩=>by
  subst e;obtain ⟨h1,h2⟩:=Qbne hg (ℓ:=ℓ) (i:=i+1) h;refine ⟨⟨u,us',rfl,by simpa [RV,hg] using r,h1⟩,fun v hv=>?_⟩;rcases List.mem_cons.1 hv with rfl|hv
  ·exact Qbrw r
  ·exact h2 v hv
theorem Qbqi {α:Type} {e:α→List D} {wf:α→Prop} (he:Qbdd P t e wf) (hagg:(∃ fs,P.underlying t=some (.struct fs))∨∃ n el,P.underlying t=some (.array n el)):Qs9 P t (fun a=>.agg ((e a).map V.d)) wf:=by
 intro H enc w base b0 spare held u d ps hok hd;obtain ⟨cs,rfl⟩ : ∃ cs,u = .agg cs:=by
  rcases hagg with ⟨fs,ht⟩|⟨n,el,ht⟩
  ·simp only [Value.okWide,ht] at hok;obtain ⟨cs,rfl,_⟩:=hok;exact ⟨cs,rfl⟩
  ·simp only [Value.okWide,ht] at hok;obtain ⟨cs,rfl,_⟩:=hok;exact ⟨cs,rfl⟩
 obtain ⟨fuel,hf⟩:=hd;obtain ⟨a,h1,h2⟩:=he hf;refine ⟨a,h1,fun ℓ=>?_⟩;simp only [RV];obtain ⟨h3,h4⟩:=Qbne (g:=⟨fun _=>0,live w,fun _=>.ext⟩) rfl (ℓ:=ℓ) (i:=0) h2;exact ⟨cs.toList,by simp,h3,h4⟩
def Qbqj (P:Program) (f:FuncId) (ts:List TypeId):Prop :=
 ∀ {H:Type} {enc:TypeId×Value→H} {w:World} {b0:Nat} {us:List Value} {ds:List (DataW H)} {ps:List MemPlace},
  (∀ (j:Nat) t u,ts[j]? = some t→us[j]? = some u→Value.okWide P w .any b0 t u)→DataW.TrodAll enc P w 0 (fun _=>true) true ts us ds ps →
  ∃ vs,RFs ⟨fun _=>0,live w,fun _=>.ext⟩ w vs us∧(∀ x∈vs,Flat x)∧V.lt.go 0 vs=true∧∀ M nb,ACalls P f vs M nb (.d (.bool true)) M nb
theorem Q9y (hl:laidOutB P=true) {W W' : World} {sp:Nat→Bool} {H:Type} {enc:TypeId×Value→H}:∀ {ts:List TypeId} {us:List Value} {ds:List (DataW H)} {ps:List MemPlace},
  (∀ t∈ts,P.readableRec t=true∧t<P.types.size)→DataW.TrodAll enc P W 0 (fun _=>true) true ts us ds ps→(∀ p∈ps,W.sameAt W' p)→(∀ p∈ps,sp p.block=true)→DataW.TrodAll enc P W' 0 sp true ts us ds ps
 | [],[],[],ps,_,h,_,_=>h
 | t::ts,u::us,d::ds,ps,hr,⟨p,q,h1,h2,e⟩,hs,hp=>by
  subst e;obtain ⟨r1,r2⟩:=hr t (by simp);exact ⟨p,q,WideElems.Trod_stays hl r1 r2 h1 (fun x hx=>hs x (by simp [hx])) (fun x hx=>hp x (by simp [hx])),Q9y hl (fun t ht=>hr t (by simp [ht])) h2 (fun x hx=>hs x (by simp [hx])) (fun x hx=>hp x (by simp [hx])),rfl⟩
 | [],[],_::_,_,_,h,_,_=>h.elim
 | [],_::_,_,_,_,h,_,_=>h.elim
 | _::_,[],_,_,_,h,_,_=>h.elim
 | _::_,_::_,[],_,_,h,_,_=>h.elim
theorem Qbdf {W:World} {sp:Nat→Bool} {held:Bool} {base:Nat} {H:Type} {enc:TypeId×Value→H}:∀ {ts:List TypeId} {us:List Value} {ds:List (DataW H)} {ps:List MemPlace},
  DataW.TrodAll enc P W base sp held ts us ds ps→ds.length=ts.length∧us.length=ts.length
 | [],[],[],ps,h=>⟨rfl,rfl⟩
 | t::ts,u::us,d::ds,ps,⟨p,q,h1,h2,e⟩=>by have:=Qbdf h2;simp [this.1,this.2]
 | [],[],_::_,_,h=>h.elim
 | [],_::_,_,_,h=>h.elim
 | _::_,[],_,_,h=>h.elim
 | _::_,_::_,[],_,h=>h.elim
theorem Qbqk {C:Checked} {f:FuncId} {fn:Func} {s:ChangeSpec} {conds:List PathCond} {bt:TypeId} {os:Os} {H:Type} {enc:TypeId×Value→H}
  (own:ownKnob C.prog.godebug=none) (started:os.Started) (noInit:C.prog.inits.idxOf? f=none) (hfn:C.prog.funcs[f]? = some fn)
  (witness:∃ (w:World) (tape:Tape) (i:Input),w.os=os∧(w.forCall tape i).Shaped C.prog∧i.vars=[]∧Input.okWide C.prog (w.forCall tape i) .any w.heap.size f i ∧
   s.pre6 enc C.prog fn conds false (w.forCall tape i).memory i.args∧({}:Assume).holds C.prog (lone (Frame.enter C.prog f i.args .normal) [] (w.forCall tape i)))
  (hvars:s.vars=[]) (hres:fn.resultTypes = #[bt]) (hbt:C.prog.underlying bt=some .bool)
  (hl:laidOutB C.prog=true) (hread:∀ t∈fn.params.toList,C.prog.readableRec t=true∧t<C.prog.types.size)
  (hspec:∀ ds:List (DataW H),ds.length=fn.params.size→s.fn H ds={ results:=[.lit (.bool true)],args:=ds })
  (law:Qbqj C.prog f fn.params.toList) :
  ReturnsInHanded {} C os f .any (s.pre6 enc C.prog fn conds false) (s.post enc C.prog fn false true false false):=by
 refine returnsInHanded_of_change own started noInit hfn witness ?_;intro W base args ds gs before hval hW hcnd _;have hW':=hW;obtain ⟨p,q,hA,hV,hps,hfz,hnd⟩:=hW;rw [hvars] at hV;obtain ⟨rfl,rfl⟩ : gs=[]∧q=[]:=by
  cases gs with
  | nil=>exact ⟨rfl,hV⟩
  | cons _ _=>exact hV.elim
 obtain ⟨vs,h1,h2,h3,h4⟩:=law (fun j t u ht hu=>hval j t u (by simpa using ht) (by simpa using hu)) hA;obtain ⟨hb,_,h5⟩:=h4 (fun _=>none) 0;have hlv:∀ b o,live W b o→b<W.heap.size:=by
  intro b o h;simp only [live] at h;obtain ⟨v,hv⟩:=Option.isSome_iff_exists.1 h;unfold World.cell? at hv;split at hv
  ·rename_i hh;exact (Array.getElem?_eq_some_iff.1 hh).1
  ·cases hv
 have hmr:MR ⟨fun _=>0,live W,fun _=>.ext⟩ W (fun _=>none) 0:=⟨fun k b h=>(by cases h),fun b o h=>⟨hlv b o h,fun k h=>by cases h⟩⟩;have h6:=h5 W ⟨fun _=>0,live W,fun _=>.ext⟩ args.toList hmr (fun k cs h=>by cases h) (fun b=>⟨fun t p h=>(by cases h),fun p h=>(by cases h)⟩) h1 h2 (ons_mono (fun k hk=>absurd hk (Nat.not_lt_zero k)) _ (ons_lt vs h3));refine Calls.mono h6 fun e W' ⟨v,g',he,_,hr,_,_,hf⟩=>?_;subst he;have hv:v = .bool true:=by simpa [RV,RD] using hr
 subst hv;have hbelow:Below W.heap.size W W':=⟨hf.os,hf.tape,hf.output,hf.size,fun k hk=>(hf.old k hk trivial).2.1⟩;have hrl:(Value.bool true).resultList fn.resultTypes.size=[.bool true]:=by rw [hres];rfl
 have hsp:s.fn H (ds++[])={ results:=[.lit (.bool true)],args:=ds }:=by
  rw [List.append_nil];exact hspec ds (by have:=(Qbdf hA).1;simpa using this)
 have hlt:∀ p∈before,p.block<W.heap.size:=fun x hx=>hW'.lt x hx;have hst:∀ sp:Nat→Bool,(∀ p∈before,sp p.block=true)→DataW.TrodAll enc C.prog W' 0 sp true fn.params.toList args.toList ds before:=by
  intro sp hsp';have e:p=before:=by rw [hps,List.append_nil]
  subst e;exact Q9y hl hread hA (fun x hx=>hbelow.same (hlt x hx)) hsp'
 refine ⟨_,rfl,ds,[],before,[],before,[],hW',?_,?_,?_,World.keptBut_mono (fun p hp=>⟨hp,.inr (.inl hp)⟩) (hbelow.frame (· ∈ before)),fun h=>by cases h⟩
 ·rw [hsp,hrl,hres];exact ⟨[],[],⟨1,by simp [DataW.trod,Value.cells,hbt]⟩,rfl,rfl⟩
 ·rw [hsp];exact hst _ fun p hp=>by simpa using hlt p hp
 ·rw [hsp,hvars];rfl
section
variable {α β γ δ:Type} {f:FuncId} {ta tb tc td:TypeId} {va:α→V} {vb:β→V} {vc:γ→V} {vd:δ→V} {wa:α→Prop} {wb:β→Prop} {wc:γ→Prop} {wd:δ→Prop}
theorem Qup {H:Type} {enc:TypeId×Value→H} {w:World} {base:Nat} {sp:Nat→Bool} {held:Bool} {t:TypeId} {ts:List TypeId} {us:List Value} {ds:List (DataW H)} {ps:List MemPlace} (h:DataW.TrodAll enc P w base sp held (t::ts) us ds ps) :
  ∃ u us' d ds' p q,us=u::us'∧ds=d::ds'∧DataW.Trod enc P w base sp held t u d p∧DataW.TrodAll enc P w base sp held ts us' ds' q:=by
 match us,ds,h with
 | u::us',d::ds',⟨p,q,h1,h2,_⟩=>exact ⟨u,us',d,ds',p,q,rfl,rfl,h1,h2⟩
 | [],[],h=>exact h.elim
 | [],_::_,h=>exact h.elim
 | _::_,[],h=>exact h.elim
theorem Qbdg {H:Type} {enc:TypeId×Value→H} {w:World} {base:Nat} {sp:Nat→Bool} {held:Bool} {us:List Value} {ds:List (DataW H)} {ps:List MemPlace} (h:DataW.TrodAll enc P w base sp held [] us ds ps):us=[]:=by
 match us,ds,h with
 | [],[],_=>rfl
 | [],_::_,h=>exact h.elim
 | _::_,[],h=>exact h.elim
 | _::_,_::_,h=>exact h.elim
theorem Qbse (ra:Qs9 P ta va wa) (fa:∀ a,(va a).dem=va a) (la:∀ a,(va a).lt 0=true) (rb:Qs9 P tb vb wb) (fb:∀ a,(vb a).dem=vb a) (lb:∀ a,(vb a).lt 0=true)
  (law:∀ a b,wa a→wb b→∀ M nb,ACalls P f [va a,vb b] M nb (.d (.bool true)) M nb):Qbqj P f [ta,tb]:=by
 intro H enc w b0 us ds ps hok hT;obtain ⟨u,us',d,ds',p,q,rfl,rfl,h1,hT⟩:=Qup hT;obtain ⟨u2,us',d2,ds',p2,q2,rfl,rfl,h2,hT⟩:=Qup hT;obtain rfl:=Qbdg hT;obtain ⟨a,ha,hra⟩:=ra (hok 0 _ _ rfl rfl) h1;obtain ⟨b,hb,hrb⟩:=rb (hok 1 _ _ rfl rfl) h2;refine ⟨[va a,vb b],⟨u,_,rfl,hra,u2,_,rfl,hrb,rfl⟩,?_,by simp [V.lt.go,la,lb],law a b ha hb⟩;intro x hx;simp only [List.mem_cons,List.not_mem_nil,or_false] at hx;rcases hx with rfl|rfl
 ·exact fa a
 ·exact fb b
theorem Qbsf (ra:Qs9 P ta va wa) (fa:∀ a,(va a).dem=va a) (la:∀ a,(va a).lt 0=true) (rb:Qs9 P tb vb wb) (fb:∀ a,(vb a).dem=vb a) (lb:∀ a,(vb a).lt 0=true)
  (rc:Qs9 P tc vc wc) (fc:∀ a,(vc a).dem=vc a) (lc:∀ a,(vc a).lt 0=true)
  (law:∀ a b c,wa a→wb b→wc c→∀ M nb,ACalls P f [va a,vb b,vc c] M nb (.d (.bool true)) M nb):Qbqj P f [ta,tb,tc]:=by
 intro H enc w b0 us ds ps hok hT;obtain ⟨u,us',d,ds',p,q,rfl,rfl,h1,hT⟩:=Qup hT;obtain ⟨u2,us',d2,ds',p2,q2,rfl,rfl,h2,hT⟩:=Qup hT;obtain ⟨u3,us',d3,ds',p3,q3,rfl,rfl,h3,hT⟩:=Qup hT;obtain rfl:=Qbdg hT;obtain ⟨a,ha,hra⟩:=ra (hok 0 _ _ rfl rfl) h1;obtain ⟨b,hb,hrb⟩:=rb (hok 1 _ _ rfl rfl) h2;obtain ⟨c,hc,hrc⟩:=rc (hok 2 _ _ rfl rfl) h3;refine ⟨[va a,vb b,vc c],⟨u,_,rfl,hra,u2,_,rfl,hrb,u3,_,rfl,hrc,rfl⟩,?_,by simp [V.lt.go,la,lb,lc],law a b c ha hb hc⟩;intro x hx;simp only [List.mem_cons,List.not_mem_nil,or_false] at hx;rcases hx with rfl|rfl|rfl
 ·exact fa a
 ·exact fb b
 ·exact fc c
end
theorem Qbpm {H:Type} {enc:TypeId×Value→H} {w:World} {base:Nat} {spare:Nat→Bool} {held:Bool} {fuel:Nat} {cs:List Value} {x:DataW H×List MemPlace} {n sz:Nat} {el:TypeId}
  (ht:P.underlying t=some (.array n el)) (hsz:P.cellsOf el=sz) (h:DataW.trod enc P w base spare held fuel t cs=some x) :
  cs.length=P.cellsOf t∧∃ m,∀ i,i<n→∃ y,DataW.trod enc P w base spare held m el ((cs.drop (i*sz)).take (P.cellsOf el))=some y:=by
 obtain ⟨h1,m,h2⟩:=Qbom ht h;exact ⟨h1,m,fun i hi=>by have:=h2 i hi;rwa [show i*P.cellsOf el=i*sz from by rw [hsz]] at this⟩
end Go.Abs
end
section
namespace Go.Proofs
open Go Go.Abs
set_option maxRecDepth 100000
def W_22 (x:Int):Prop:=wfI .u8 x
theorem R_22:Qbdd Try.prog 22 (eI .u8) W_22:=Qbhh Try.underlying22
def W_5 (x:Int):Prop:=wfI .u8 x
theorem R_5:Qbdd Try.prog 5 (eI .u8) W_5:=Qbhh Try.underlying5
def W_23 (x:Int×Int×Int×Int×Int):Prop:=W_5 x.1∧W_5 x.2.1∧W_5 x.2.2.1∧W_5 x.2.2.2.1∧W_5 x.2.2.2.2
theorem R_23:Qbdd Try.prog 23 (fun p:Int×Int×Int×Int×Int=>[.int .u8 p.1,.int .u8 p.2.1,.int .u8 p.2.2.1,.int .u8 p.2.2.2.1,.int .u8 p.2.2.2.2]) W_23:=by
  intro H enc w base spare held fuel cs x h;obtain ⟨hl,n,hf⟩:=Qbpm (sz:=1) Try.underlying23 (by kernel_rfl) h;obtain ⟨y0,h0⟩:=hf 0 (by decide);obtain ⟨a0,w0,r0⟩:=Qfl (off:=0*1) (sz:=1) R_5 (by kernel_rfl) (fun _=>rfl) h0;obtain ⟨y1,h1⟩:=hf 1 (by decide);obtain ⟨a1,w1,r1⟩:=Qfl (off:=1*1) (sz:=1) R_5 (by kernel_rfl) (fun _=>rfl) h1;obtain ⟨y2,h2⟩:=hf 2 (by decide);obtain ⟨a2,w2,r2⟩:=Qfl (off:=2*1) (sz:=1) R_5 (by kernel_rfl) (fun _=>rfl) h2;obtain ⟨y3,h3⟩:=hf 3 (by decide);obtain ⟨a3,w3,r3⟩:=Qfl (off:=3*1) (sz:=1) R_5 (by kernel_rfl) (fun _=>rfl) h3;obtain ⟨y4,h4⟩:=hf 4 (by decide);obtain ⟨a4,w4,r4⟩:=Qfl (off:=4*1) (sz:=1) R_5 (by kernel_rfl) (fun _=>rfl) h4;exact ⟨(a0,a1,a2,a3,a4),⟨w0,w1,w2,w3,w4⟩,RDat.all (xs:=(fun p:Int×Int×Int×Int×Int=>[.int .u8 p.1,.int .u8 p.2.1,.int .u8 p.2.2.1,.int .u8 p.2.2.2.1,.int .u8 p.2.2.2.2]) (a0,a1,a2,a3,a4)) (RDat.app r0 rfl (RDat.app r1 rfl (RDat.app r2 rfl (RDat.app r3 rfl r4)))) (hl.trans (by kernel_rfl))⟩
def W_24 (x:(Int×Int×Int×Int×Int)×(Int×Int×Int×Int×Int)×(Int×Int×Int×Int×Int)×(Int×Int×Int×Int×Int)×(Int×Int×Int×Int×Int)):Prop:=W_23 x.1∧W_23 x.2.1∧W_23 x.2.2.1∧W_23 x.2.2.2.1∧W_23 x.2.2.2.2
theorem R_24:Qbdd Try.prog 24 (fun p:(Int×Int×Int×Int×Int)×(Int×Int×Int×Int×Int)×(Int×Int×Int×Int×Int)×(Int×Int×Int×Int×Int)×(Int×Int×Int×Int×Int)=>[.int .u8 p.1.1,.int .u8 p.1.2.1,.int .u8 p.1.2.2.1,.int .u8 p.1.2.2.2.1,.int .u8 p.1.2.2.2.2,.int .u8 p.2.1.1,.int .u8 p.2.1.2.1,.int .u8 p.2.1.2.2.1,.int .u8 p.2.1.2.2.2.1,.int .u8 p.2.1.2.2.2.2,.int .u8 p.2.2.1.1,.int .u8 p.2.2.1.2.1,.int .u8 p.2.2.1.2.2.1,.int .u8 p.2.2.1.2.2.2.1,.int .u8 p.2.2.1.2.2.2.2,.int .u8 p.2.2.2.1.1,.int .u8 p.2.2.2.1.2.1,.int .u8 p.2.2.2.1.2.2.1,.int .u8 p.2.2.2.1.2.2.2.1,.int .u8 p.2.2.2.1.2.2.2.2,.int .u8 p.2.2.2.2.1,.int .u8 p.2.2.2.2.2.1,.int .u8 p.2.2.2.2.2.2.1,.int .u8 p.2.2.2.2.2.2.2.1,.int .u8 p.2.2.2.2.2.2.2.2]) W_24:=by
  intro H enc w base spare held fuel cs x h;obtain ⟨hl,n,hf⟩:=Qbpm (sz:=5) Try.underlying24 (by kernel_rfl) h;obtain ⟨y0,h0⟩:=hf 0 (by decide);obtain ⟨a0,w0,r0⟩:=Qfl (off:=0*5) (sz:=5) R_23 (by kernel_rfl) (fun _=>rfl) h0;obtain ⟨y1,h1⟩:=hf 1 (by decide);obtain ⟨a1,w1,r1⟩:=Qfl (off:=1*5) (sz:=5) R_23 (by kernel_rfl) (fun _=>rfl) h1;obtain ⟨y2,h2⟩:=hf 2 (by decide);obtain ⟨a2,w2,r2⟩:=Qfl (off:=2*5) (sz:=5) R_23 (by kernel_rfl) (fun _=>rfl) h2;obtain ⟨y3,h3⟩:=hf 3 (by decide);obtain ⟨a3,w3,r3⟩:=Qfl (off:=3*5) (sz:=5) R_23 (by kernel_rfl) (fun _=>rfl) h3;obtain ⟨y4,h4⟩:=hf 4 (by decide);obtain ⟨a4,w4,r4⟩:=Qfl (off:=4*5) (sz:=5) R_23 (by kernel_rfl) (fun _=>rfl) h4;exact ⟨(a0,a1,a2,a3,a4),⟨w0,w1,w2,w3,w4⟩,RDat.all (xs:=(fun p:(Int×Int×Int×Int×Int)×(Int×Int×Int×Int×Int)×(Int×Int×Int×Int×Int)×(Int×Int×Int×Int×Int)×(Int×Int×Int×Int×Int)=>[.int .u8 p.1.1,.int .u8 p.1.2.1,.int .u8 p.1.2.2.1,.int .u8 p.1.2.2.2.1,.int .u8 p.1.2.2.2.2,.int .u8 p.2.1.1,.int .u8 p.2.1.2.1,.int .u8 p.2.1.2.2.1,.int .u8 p.2.1.2.2.2.1,.int .u8 p.2.1.2.2.2.2,.int .u8 p.2.2.1.1,.int .u8 p.2.2.1.2.1,.int .u8 p.2.2.1.2.2.1,.int .u8 p.2.2.1.2.2.2.1,.int .u8 p.2.2.1.2.2.2.2,.int .u8 p.2.2.2.1.1,.int .u8 p.2.2.2.1.2.1,.int .u8 p.2.2.2.1.2.2.1,.int .u8 p.2.2.2.1.2.2.2.1,.int .u8 p.2.2.2.1.2.2.2.2,.int .u8 p.2.2.2.2.1,.int .u8 p.2.2.2.2.2.1,.int .u8 p.2.2.2.2.2.2.1,.int .u8 p.2.2.2.2.2.2.2.1,.int .u8 p.2.2.2.2.2.2.2.2]) (a0,a1,a2,a3,a4)) (RDat.app r0 rfl (RDat.app r1 rfl (RDat.app r2 rfl (RDat.app r3 rfl r4)))) (hl.trans (by kernel_rfl))⟩
def W_26 (x:Qb8):Prop:=W_5 x.zN∧W_5 x.Marks∧W_24 x.To
theorem R_26:Qbdd Try.prog 26 Qpa W_26:=by
  intro H enc w base spare held fuel cs x h;obtain ⟨hl,n,hf⟩:=Qbde Try.underlying26 h;obtain ⟨y0,h0⟩:=hf 0 _ rfl;obtain ⟨a0,w0,r0⟩:=Qfl (off:=0) (sz:=1) R_5 (by kernel_rfl) (fun _=>rfl) h0;obtain ⟨y1,h1⟩:=hf 1 _ rfl;obtain ⟨a1,w1,r1⟩:=Qfl (off:=1) (sz:=1) R_5 (by kernel_rfl) (fun _=>rfl) h1;obtain ⟨y2,h2⟩:=hf 2 _ rfl;obtain ⟨a2,w2,r2⟩:=Qfl (off:=2) (sz:=25) R_24 (by kernel_rfl) (fun _=>rfl) h2;exact ⟨⟨a0,a1,a2⟩,⟨w0,w1,w2⟩,RDat.all (xs:=Qpa ⟨a0,a1,a2⟩) (RDat.app r0 rfl (RDat.app r1 rfl r2)) (hl.trans (by kernel_rfl))⟩
def W_28 (x:Qgi):Prop:=W_22 x.Events∧W_26 x.Graph
theorem R_28:Qbdd Try.prog 28 Qsa W_28:=by
  intro H enc w base spare held fuel cs x h;obtain ⟨hl,n,hf⟩:=Qbde Try.underlying28 h;obtain ⟨y0,h0⟩:=hf 0 _ rfl;obtain ⟨a0,w0,r0⟩:=Qfl (off:=0) (sz:=1) R_22 (by kernel_rfl) (fun _=>rfl) h0;obtain ⟨y1,h1⟩:=hf 1 _ rfl;obtain ⟨a1,w1,r1⟩:=Qfl (off:=1) (sz:=27) R_26 (by kernel_rfl) (fun _=>rfl) h1;exact ⟨⟨a0,a1⟩,⟨w0,w1⟩,RDat.all (xs:=Qsa ⟨a0,a1⟩) (RDat.app r0 rfl r1) (hl.trans (by kernel_rfl))⟩
def W_30 (x:Qbj):Prop:=W_28 x.Part∧W_5 x.zC∧W_22 x.zB∧W_22 x.zD
theorem R_30:Qbdd Try.prog 30 Qn4 W_30:=by
  intro H enc w base spare held fuel cs x h;obtain ⟨hl,n,hf⟩:=Qbde Try.underlying30 h;obtain ⟨y0,h0⟩:=hf 0 _ rfl;obtain ⟨a0,w0,r0⟩:=Qfl (off:=0) (sz:=28) R_28 (by kernel_rfl) (fun _=>rfl) h0;obtain ⟨y1,h1⟩:=hf 1 _ rfl;obtain ⟨a1,w1,r1⟩:=Qfl (off:=28) (sz:=1) R_5 (by kernel_rfl) (fun _=>rfl) h1;obtain ⟨y2,h2⟩:=hf 2 _ rfl;obtain ⟨a2,w2,r2⟩:=Qfl (off:=29) (sz:=1) R_22 (by kernel_rfl) (fun _=>rfl) h2;obtain ⟨y3,h3⟩:=hf 3 _ rfl;obtain ⟨a3,w3,r3⟩:=Qfl (off:=30) (sz:=1) R_22 (by kernel_rfl) (fun _=>rfl) h3;exact ⟨⟨a0,a1,a2,a3⟩,⟨w0,w1,w2,w3⟩,RDat.all (xs:=Qn4 ⟨a0,a1,a2,a3⟩) (RDat.app r0 rfl (RDat.app r1 rfl (RDat.app r2 rfl r3))) (hl.trans (by kernel_rfl))⟩
theorem A_30:Qs9 Try.prog 30 (fun (a:Qbj)=>.agg [.d (.int .u8 a.Part.Events),.d (.int .u8 a.Part.Graph.zN),.d (.int .u8 a.Part.Graph.Marks),.d (.int .u8 a.Part.Graph.To.1.1),.d (.int .u8 a.Part.Graph.To.1.2.1),.d (.int .u8 a.Part.Graph.To.1.2.2.1),.d (.int .u8 a.Part.Graph.To.1.2.2.2.1),.d (.int .u8 a.Part.Graph.To.1.2.2.2.2),.d (.int .u8 a.Part.Graph.To.2.1.1),.d (.int .u8 a.Part.Graph.To.2.1.2.1),.d (.int .u8 a.Part.Graph.To.2.1.2.2.1),.d (.int .u8 a.Part.Graph.To.2.1.2.2.2.1),.d (.int .u8 a.Part.Graph.To.2.1.2.2.2.2),.d (.int .u8 a.Part.Graph.To.2.2.1.1),.d (.int .u8 a.Part.Graph.To.2.2.1.2.1),.d (.int .u8 a.Part.Graph.To.2.2.1.2.2.1),.d (.int .u8 a.Part.Graph.To.2.2.1.2.2.2.1),.d (.int .u8 a.Part.Graph.To.2.2.1.2.2.2.2),.d (.int .u8 a.Part.Graph.To.2.2.2.1.1),.d (.int .u8 a.Part.Graph.To.2.2.2.1.2.1),.d (.int .u8 a.Part.Graph.To.2.2.2.1.2.2.1),.d (.int .u8 a.Part.Graph.To.2.2.2.1.2.2.2.1),.d (.int .u8 a.Part.Graph.To.2.2.2.1.2.2.2.2),.d (.int .u8 a.Part.Graph.To.2.2.2.2.1),.d (.int .u8 a.Part.Graph.To.2.2.2.2.2.1),.d (.int .u8 a.Part.Graph.To.2.2.2.2.2.2.1),.d (.int .u8 a.Part.Graph.To.2.2.2.2.2.2.2.1),.d (.int .u8 a.Part.Graph.To.2.2.2.2.2.2.2.2),.d (.int .u8 a.zC),.d (.int .u8 a.zB),.d (.int .u8 a.zD)]) W_30:=Qbqi R_30 (.inl ⟨_,Try.underlying30⟩)
theorem A_22:Qs9 Try.prog 22 (fun (a:Int)=>.d (.int .u8 a)) W_22:=Qbqg R_22 (Qbqh Try.underlying22)
end Go.Proofs
end
section
namespace Go.Abs
open Go
theorem Qgf {X R:Type} {F:(X→Option R)→X→Option R} (I:X→Prop) (m:X→Nat) (Q:X→Option R→Prop)
  (step:∀ (k:X→Option R) (x:X),I x→(∀ y,I y→m y<m x→Q y (k y))→Q x (F k x)):∀ (fuel:Nat) (x:X),I x→m x<fuel→Q x (Qcm F fuel x)
 | 0,x,_,h=>absurd h (Nat.not_lt_zero _)
 | fuel+1,x,hi,h=>step _ x hi fun y hy hm=>Qgf I m Q step fuel y hy (by omega)
theorem Q9z {X R:Type} {F:(X→Option R)→X→Option R} {fuel:Nat} {x:X} (I:X→Prop) (m:X→Nat) (q:Option R) (hi:I x) (hm:m x<fuel)
  (step:∀ (k:X→Option R) (x:X),I x→(∀ y,I y→m y<m x→k y=q)→F k x=q):Qcm F fuel x=q :=
 Qgf I m (fun _ r=>r=q) step fuel x hi hm
theorem Qm0 {x:Int} (h1 : -9223372036854775808≤x) (h2:x≤9223372036854775807):IntKind.wrap .i64 x=x:=by
 simp [IntKind.wrap,IntKind.bits,IntKind.signed];omega
theorem Qcn {n:Nat} (h:n<9223372036854775807):IntKind.wrap .i64 ((n:Int)+1)=((n+1:Nat):Int):=by
 rw [Qm0 (by omega) (by omega)];omega
theorem Qbt {α:Type} {l:List α} {n:Nat} (h:n<l.length):getO l (n:Int)=some l[n]:=by
 simp [getO,h]
theorem Qbhi {α:Type} {l:List α} {i:Int} {x:α}:getO l i=some x↔0≤i∧l[i.toNat]? = some x:=by
 unfold getO;split
 ·rename_i h;simp [h]
 ·rename_i h;simp only [reduceCtorEq,false_iff,not_and];exact fun h'=>absurd h' h
theorem Qby {α:Type} {l m:List α} (h:l.length+m.length≤lim):appO l m=some (l++m):=by
 unfold appO;rw [if_pos h]
theorem Qbhj {α:Type} {s t:List α} {k:Nat} (hs:k<s.length) (ht:k<t.length) (h:s.take k=t.take k) (he:s[k]=t[k]):s.take (k+1)=t.take (k+1):=by
 rw [List.take_add_one,List.take_add_one,h,List.getElem?_eq_getElem hs,List.getElem?_eq_getElem ht,he]
theorem Quq {R:Type} {F:(Int→Option R)→Int→Option R} {len fuel:Nat} (G:Nat→Option R) (hf:len<fuel)
  (step:∀ (k:Int→Option R) (n:Nat),n<len→k ((n+1:Nat):Int)=G (n+1)→F k (n:Int)=G n) (last:∀ k:Int→Option R,F k (len:Int)=G len):Qcm F fuel 0=G 0:=by
 have:=Qgf (F:=F) (fun x=>∃ n:Nat,x=(n:Int)∧n≤len) (fun x=>len-x.toNat) (fun x r=>∀ n:Nat,x=(n:Int)→r=G n) (fun k x hx ih=>by
  obtain ⟨n,rfl,hn⟩:=hx;intro m hm;obtain rfl:n=m:=by omega
  by_cases h:n<len
  ·exact step k n h (ih _ ⟨n+1,rfl,by omega⟩ (by omega) (n+1) rfl)
  ·obtain rfl:n=len:=by omega
   exact last k) fuel 0 ⟨0,rfl,by omega⟩ (by simpa using hf)
 exact this 0 rfl
theorem Qbdh {n:Nat} (h0:0<n) (h:n<9223372036854775807):IntKind.wrap .i64 ((n:Int)-1)=((n-1:Nat):Int):=by
 rw [Qm0 (by omega) (by omega)];omega
theorem Qbon {X S R:Type} {F:(X→Option R)→X→Option R} {len:Nat} (mk:Nat→S→X) (G:Nat→S→Option R)
  (step:∀ (k:X→Option R) (n:Nat) (s:S),n<len→(∀ s',k (mk (n+1) s')=G (n+1) s')→F k (mk n s)=G n s) (last:∀ (k:X→Option R) (s:S),F k (mk len s)=G len s) :
  ∀ (fuel n:Nat) (s:S),n≤len→len-n<fuel→Qcm F fuel (mk n s)=G n s
 | 0,n,s,_,h=>by omega
 | fuel+1,n,s,hn,h=>by
  show F (Qcm F fuel) (mk n s)=_;by_cases hlt:n<len
  ·exact step _ n s hlt fun s'=>Qbon mk G step last fuel (n+1) s' (by omega) (by omega)
  ·obtain rfl:n=len:=by omega
   exact last _ s
theorem Qbrx {i j:Nat} (hi:i<1000000000000) (hj:j<1000000000000):IntKind.wrap .i64 (Int.fdiv (IntKind.wrap .u64 (IntKind.wrap .i64 ((i:Int)+j))) (2 ^ (min (Int.toNat 1) (IntKind.bits .u64))))=(((i+j) / 2:Nat):Int):=by
 have h1:IntKind.wrap .i64 ((i:Int)+j)=((i+j:Nat):Int):=by rw [Qm0 (by omega) (by omega)];omega
 have h2:IntKind.wrap .u64 ((i+j:Nat):Int)=((i+j:Nat):Int):=by
  simp [IntKind.wrap,IntKind.bits,IntKind.signed];omega
 have h3:(2:Int) ^ (min (Int.toNat 1) (IntKind.bits .u64))=2:=by decide
 rw [h1,h2,h3,Int.fdiv_eq_ediv_of_nonneg _ (by omega),show ((i+j:Nat):Int) / 2=(((i+j) / 2:Nat):Int) from by omega,Qm0 (by omega) (by omega)]
theorem Qbjv {α:Type} {l:List α} {i j:Nat} (h:i≤j) (hj:j≤l.length):slcO l (i:Int) (j:Int)=some ((l.take j).drop i):=by
 simp [slcO,h,hj]
theorem Qbkv:∀ {l m:List Int},l.Pairwise (· < ·)→m.Pairwise (· < ·)→(∀ x,x∈l↔x∈m)→l=m
 | l,m,h1,h2,h=>by
  have n1:l.Nodup:=h1.imp fun h=>by omega
  have n2:m.Nodup:=h2.imp fun h=>by omega
  have hp:l.Perm m:=(List.perm_ext_iff_of_nodup n1 n2).2 h;exact List.Perm.eq_of_pairwise (le:=(· < ·)) (fun a b _ _ h1 h2=>by omega) h1 h2 hp
section
variable {α:Type} {p:α→Bool}
theorem Qbex:∀ {l:List α},l.Pairwise (fun a b=>p b=true→p a=true)→∀ (n:Nat) (h:n<l.length),p l[n]=true↔n<(l.filter p).length
 | [],_,n,h=>by simp at h
 | x::xs,hs,n,h=>by
  obtain ⟨h1,h2⟩:=List.pairwise_cons.1 hs;cases n with
  | zero =>
   cases hx:p x with
   | true=>simp [hx]
   | false =>
    have:xs.filter p=[]:=List.filter_eq_nil_iff.2 fun y hy hp=>by have:=h1 y hy hp;rw [hx] at this;cases this
    simp [hx,this]
  | succ n =>
   have ih:=Qbex h2 n (by simpa using h);cases hx:p x with
   | true=>simp [hx,ih]
   | false =>
    have:xs.filter p=[]:=List.filter_eq_nil_iff.2 fun y hy hp=>by have:=h1 y hy hp;rw [hx] at this;cases this
    rw [this] at ih;simp [hx,this] at ih ⊢;exact ih
end
theorem Qm1 {X S R:Type} {F:(X→Option R)→X→Option R} {len:Nat} (mk:Nat→S→X) (I:Nat→S→Prop) (G:Nat→S→Option R)
  (step:∀ (k:X→Option R) (n:Nat) (s:S),n<len→I n s→(∀ s',I (n+1) s'→k (mk (n+1) s')=G (n+1) s')→F k (mk n s)=G n s) (last:∀ (k:X→Option R) (s:S),I len s→F k (mk len s)=G len s) :
  ∀ (fuel n:Nat) (s:S),n≤len→len-n<fuel→I n s→Qcm F fuel (mk n s)=G n s
 | 0,n,s,_,h,_=>by omega
 | fuel+1,n,s,hn,h,hi=>by
  show F (Qcm F fuel) (mk n s)=_;by_cases hlt:n<len
  ·exact step _ n s hlt hi fun s' hi'=>Qm1 mk I G step last fuel (n+1) s' (by omega) (by omega) hi'
  ·obtain rfl:n=len:=by omega
   exact last _ s hi
theorem Qiz:∀ {l:List Int} {a b:Int},l.Pairwise (· < ·)→(∀ x∈l,a≤x∧x<b)→l.length≤(b-a).toNat
 | [],_,_,_,_=>by simp
 | x::xs,a,b,h,hr=>by
  obtain ⟨h1,h2⟩:=List.pairwise_cons.1 h;have:=Qiz (a:=x+1) (b:=b) h2 fun y hy=>⟨by have:=h1 y hy;omega,(hr y (by simp [hy])).2⟩;have:=hr x (by simp);simp only [List.length_cons];omega
end Go.Abs
end
section
namespace Go.Abs
abbrev big : Nat := 1000000000000
def small (a : Qe) : Prop := a.zK.length < big ∧ a.zL.length < big ∧ a.zM.length < big
end Go.Abs
end
section
namespace Go.Abs
open Go
def Qdp (n:Int):Option Int→List Int→Int
 | _,[]=>0
 | p,x::xs=>if x<0∨x≥n then 2 else if ∃ y,p=some y∧x≤y then 5 else Qdp n (some x) xs
def Qj5 (al:List Int) (st:Int):Option Qc→List Qc→Int
 | _,[]=>0
 | p,x::xs=>if x.From<0∨x.From≥st∨x.To<0∨x.To≥st then 2 else if x.Event∉al then 9 else if ∃ y,p=some y∧(x.From<y.From∨x.From=y.From∧x.Event≤y.Event) then 5 else Qj5 al st (some x) xs
def Qvk (a:Qe):Int :=
 if Qdp 32 none a.zK≠0 then Qdp 32 none a.zK else if a.zN<0 then 2 else if a.zN>4096 then 3 else
 if Qdp a.zN none a.zL≠0 then Qdp a.zN none a.zL else Qj5 a.zK a.zN none a.zM
def ahead {α:Type} (l:List α) (n:Nat):Option α:=if n=0 then none else l[n-1]?
theorem Qtj {α:Type} (l:List α):ahead l 0=none:=rfl
theorem Qbey {α:Type} (l:List α) {n:Nat} (h:n<l.length):ahead l (n+1)=some l[n]:=by simp [ahead,h]
theorem Qbdi {α:Type} (l:List α) {n:Nat} (h0:0<n) (h:n≤l.length):ahead l n=some (l[n-1]'(by omega)):=by
 simp [ahead,show n≠0 from by omega,show n-1<l.length from by omega]
theorem Qbbg {n:Int} {l:List Int} {k:Nat} (h:k<l.length):Qdp n (ahead l k) (l.drop k)=if l[k]<0∨l[k]≥n then 2 else if ∃ y,ahead l k=some y∧l[k]≤y then 5 else Qdp n (ahead l (k+1)) (l.drop (k+1)):=by
 rw [List.drop_eq_getElem_cons h,Qdp,Qbey l h]
theorem Qbf5 {al:List Int} {n:Int} {l:List Qc} {k:Nat} (h:k<l.length):Qj5 al n (ahead l k) (l.drop k)=if l[k].From<0∨l[k].From≥n∨l[k].To<0∨l[k].To≥n then 2 else if l[k].Event∉al then 9 else if ∃ y,ahead l k=some y∧(l[k].From<y.From∨l[k].From=y.From∧l[k].Event≤y.Event) then 5 else Qj5 al n (ahead l (k+1)) (l.drop (k+1)):=by
 rw [List.drop_eq_getElem_cons h,Qj5,Qbey l h]
theorem Qbdj {l:List Int} {n:Int} (hl:l.length<big):Qgy l n=some (Qdp n none l):=by
 unfold Qgy Qcf;refine (Quq (len:=l.length) (fun k=>some (Qdp n (ahead l k) (l.drop k))) (by unfold Qch;unfold big at hl;omega) ?_ ?_).trans (by simp [Qtj])
 ·intro k i hi ih;have hb:i<1000000000000:=by unfold big at hl;omega
  rw [Qbbg hi]
  try dsimp only
  rw [if_pos (by omega),Qbt hi,Qcn (by omega),ih];simp only [Option.bind_some];by_cases h1:l[i]<0
  ·simp [h1]
  ·by_cases h2:l[i]≥n
   ·simp [h1,h2]
   ·by_cases h0:0<i
    ·rw [Qbdh h0 (by omega),Qbt (by omega:i-1<l.length),Qbdi l h0 (by omega)];by_cases h3:l[i]≤l[i-1]<;>simp [h1,h2,h3,h0]
    ·obtain rfl:i=0:=by omega
     simp [h1,h2,Qtj]
 ·intro k;simp [Qdp]
theorem Qboo {l:List Int} {v:Int} (hl:l.length<big):Qid l v=some (if v∈l then (l.idxOf v:Int) else -1):=by
 unfold Qid Qc9;refine (Quq (len:=l.length) (fun k=>some (if v∈l.drop k then ((k+(l.drop k).idxOf v:Nat):Int) else -1)) (by unfold Qch;unfold big at hl;omega) ?_ ?_).trans (by simp)
 ·intro k i hi ih;have hb:i<1000000000000:=by unfold big at hl;omega
  try dsimp only
  rw [if_pos (by omega),Qbt hi,Qcn (by omega),ih,List.drop_eq_getElem_cons hi];simp only [Option.bind_some,List.mem_cons,List.idxOf_cons];by_cases h:v=l[i]
  ·simp [← h]
  ·have:¬ l[i]=v:=fun e=>h e.symm;have hbq:(l[i]==v)=false:=by simp [this]
   by_cases h2:v∈l.drop (i+1)<;>simp [h,h2,hbq];omega
 ·intro k;simp
theorem Q8i {l:List Int} {v:Int} (hl:l.length<big):Qdf l v=some (decide (v∈l)):=by
 unfold Qdf Q4;rw [Qboo hl];simp only [Option.bind_some,Option.some.injEq];by_cases h:v∈l<;>simp [h]
theorem Qbpn {l:List Int} {v:Int} (hl:l.length<big):Qdi l v=some (decide (v∈l)):=by
 unfold Qdi Qbp;refine (Quq (len:=l.length) (fun k=>some (decide (v∈l.drop k))) (by unfold Qch;unfold big at hl;omega) ?_ ?_).trans (by simp)
 ·intro k i hi ih;have hb:i<1000000000000:=by unfold big at hl;omega
  try dsimp only
  rw [if_pos (by omega),Qbt hi,Qcn (by omega),ih,List.drop_eq_getElem_cons hi];simp only [Option.bind_some,List.mem_cons];by_cases h:l[i]=v
  ·simp [h]
  ·have:¬ v=l[i]:=fun e=>h e.symm;simp [h,this]
 ·intro k;simp
theorem Qbf6 {a:Qe} (h:small a):Qf2 a=some (Qj5 a.zK a.zN none a.zM):=by
 obtain ⟨hal,_,hl⟩:=h;unfold Qf2 Qca;refine (Quq (len:=a.zM.length) (fun k=>some (Qj5 a.zK a.zN (ahead a.zM k) (a.zM.drop k))) (by unfold Qch;unfold big at hl;omega) ?_ ?_).trans (by simp [Qtj])
 ·intro k i hi ih;have hb:i<1000000000000:=by unfold big at hl;omega
  rw [Qbf5 hi];unfold letJ
  try dsimp only
  rw [if_pos (by omega),Qbt hi,Qcn (by omega),ih];simp only [Option.bind_some,Q8i hal];generalize a.zM[i]=x;by_cases h1:x.From<0
  ·simp [h1]
  by_cases h2:x.From≥a.zN
  ·simp [h1,h2]
  by_cases h3:x.To<0
  ·simp [h1,h2,h3]
  by_cases h4:x.To≥a.zN
  ·simp [h1,h2,h3,h4]
  by_cases h5:x.Event∈a.zK
  ·by_cases h0:0<i
   ·rw [Qbdh h0 (by omega),Qbt (by omega:i-1<a.zM.length),Qbdi a.zM h0 (by omega)];generalize a.zM[i-1]=y;have hi0:i≠0:=by omega
    by_cases h6:x.From<y.From
    ·simp [h1,h2,h3,h4,h5,h6,hi0]
    by_cases h7:y.From=x.From
    ·by_cases h8:x.Event≤y.Event<;>simp [h1,h2,h3,h4,h5,h6,h7,h8,hi0]
    ·have h7' : ¬ x.From=y.From:=fun e=>h7 e.symm;simp [h1,h2,h3,h4,h5,h6,h7,hi0,h7']
   ·obtain rfl:i=0:=by omega
    simp [h1,h2,h3,h4,h5,Qtj]
  ·simp [h1,h2,h3,h4,h5]
 ·intro k;unfold letJ;simp [Qj5]
theorem Qbjw {a:Qe} (h:small a):Qhb a=some (Qvk a):=by
 unfold Qhb Qb0 Qvk;rw [Qbdj h.1,Qbdj h.2.1,Qbf6 h];simp only [Option.bind_some];by_cases h1:Qdp 32 none a.zK=0
 ·by_cases h2:a.zN<0
  ·simp [h1,h2]
  by_cases h3:a.zN>4096
  ·simp [h1,h2,h3]
  by_cases h4:Qdp a.zN none a.zL=0<;>simp [h1,h2,h3,h4]
 ·simp [h1]
end Go.Abs
end
section
namespace Go.Abs
open Go
def Qta (x y:Qc):Prop:=x.From<y.From∨x.From=y.From∧x.Event<y.Event
instance (x y:Qc):Decidable (Qta x y):=by unfold Qta;infer_instance
structure Right (a:Qe):Prop where
 al0:∀ x∈a.zK,0≤x∧x<32
 al:a.zK.Pairwise (· < ·)
 st:0≤a.zN∧a.zN≤4096
 ma0:∀ x∈a.zL,0≤x∧x<a.zN
 ma:a.zL.Pairwise (· < ·)
 ed0:∀ x∈a.zM,0≤x.From∧x.From<a.zN∧0≤x.To∧x.To<a.zN∧x.Event∈a.zK
 ed:a.zM.Pairwise Qta
theorem Qhe {n:Int}:∀ {l:List Int} {p:Option Int},Qdp n p l=0↔(∀ x∈l,0≤x∧x<n)∧l.Pairwise (· < ·)∧∀ y,p=some y→∀ x∈l,y<x
 | [],p=>by simp [Qdp]
 | x::xs,p=>by
  rw [Qdp];split
  ·rename_i h;refine ⟨fun h=>by omega,fun hh=>?_⟩;have:=hh.1 x (by simp);omega
  ·rename_i h;split
   ·rename_i h2;obtain ⟨y,hy,hxy⟩:=h2;refine ⟨fun h=>by omega,fun hh=>?_⟩;have:=hh.2.2 y hy x (by simp);omega
   ·rename_i h2;rw [Qhe];constructor
    ·rintro ⟨k1,k2,k3⟩;refine ⟨fun z hz=>?_,List.pairwise_cons.2 ⟨fun z hz=>k3 x rfl z hz,k2⟩,fun y hy z hz=>?_⟩
     ·rcases List.mem_cons.1 hz with rfl|hz
      ·omega
      ·exact k1 z hz
     ·have hyx:y<x:=by
       rcases Int.lt_or_le y x with h|h
       ·exact h
       ·exact absurd ⟨y,hy,h⟩ h2
      rcases List.mem_cons.1 hz with rfl|hz
      ·exact hyx
      ·have:=k3 x rfl z hz;omega
    ·rintro ⟨k1,k2,k3⟩;obtain ⟨k4,k5⟩:=List.pairwise_cons.1 k2;exact ⟨fun z hz=>k1 z (by simp [hz]),k5,fun y hy z hz=>by cases hy;exact k4 z hz⟩
theorem Q0v {al:List Int} {n:Int}:∀ {l:List Qc} {p:Option Qc},Qj5 al n p l=0↔(∀ x∈l,0≤x.From∧x.From<n∧0≤x.To∧x.To<n∧x.Event∈al)∧l.Pairwise Qta∧∀ y,p=some y→∀ x∈l,Qta y x
 | [],p=>by simp [Qj5]
 | x::xs,p=>by
  have tr:∀ a b c:Qc,Qta a b→Qta b c→Qta a c:=fun a b c h k=>by unfold Qta at *;omega
  rw [Qj5];split
  ·rename_i h;refine ⟨fun h=>by omega,fun hh=>?_⟩;have:=hh.1 x (by simp);omega
  ·rename_i h;split
   ·rename_i h2;refine ⟨fun h=>by omega,fun hh=>?_⟩;exact absurd (hh.1 x (by simp)).2.2.2.2 h2
   ·rename_i hal;split
    ·rename_i h2;obtain ⟨y,hy,hxy⟩:=h2;refine ⟨fun h=>by omega,fun hh=>?_⟩;have:=hh.2.2 y hy x (by simp);unfold Qta at this;omega
    ·rename_i h2;rw [Q0v];constructor
     ·rintro ⟨k1,k2,k3⟩;refine ⟨fun z hz=>?_,List.pairwise_cons.2 ⟨fun z hz=>k3 x rfl z hz,k2⟩,fun y hy z hz=>?_⟩
      ·rcases List.mem_cons.1 hz with rfl|hz
       ·exact ⟨by omega,by omega,by omega,by omega,Decidable.not_not.1 hal⟩
       ·exact k1 z hz
      ·have hyx:Qta y x:=by
        apply Decidable.byContradiction;intro h;exact h2 ⟨y,hy,by unfold Qta at h;omega⟩
       rcases List.mem_cons.1 hz with rfl|hz
       ·exact hyx
       ·exact tr _ _ _ hyx (k3 x rfl z hz)
     ·rintro ⟨k1,k2,k3⟩;obtain ⟨k4,k5⟩:=List.pairwise_cons.1 k2;exact ⟨fun z hz=>k1 z (by simp [hz]),k5,fun y hy z hz=>by cases hy;exact k4 z hz⟩
theorem Qbdk {a:Qe}:Qvk a=0↔Right a:=by
 unfold Qvk;constructor
 ·intro h;split at h
  ·rename_i h1;exact absurd h h1
  rename_i h1;split at h
  ·omega
  split at h
  ·omega
  split at h
  ·rename_i h4;exact absurd h h4
  rename_i h4;have q1:=Qhe.1 (Decidable.not_not.1 h1);have q2:=Qhe.1 (Decidable.not_not.1 h4);have q3:=Q0v.1 h;exact ⟨q1.1,q1.2.1,⟨by omega,by omega⟩,q2.1,q2.2.1,q3.1,q3.2.1⟩
 ·intro h;have q1:Qdp 32 none a.zK=0:=Qhe.2 ⟨h.al0,h.al,fun y hy=>by cases hy⟩;have q2:Qdp a.zN none a.zL=0:=Qhe.2 ⟨h.ma0,h.ma,fun y hy=>by cases hy⟩;have q3:Qj5 a.zK a.zN none a.zM=0:=Q0v.2 ⟨h.ed0,h.ed,fun y hy=>by cases hy⟩;have:=h.st;rw [if_neg (by simp [q1]),if_neg (by omega),if_neg (by omega),if_neg (by simp [q2]),q3]
def outP (a:Qe) (s:Int):List Qc:=a.zM.filter fun x=>x.From==s
def Qm2 (a:Qe) (s e:Int):Int:=match a.zM.find? fun x=>x.From==s&&x.Event==e with
 | some x=>x.To
 | none=>-1
section
variable {a:Qe} (h:Right a) (hs:small a)
include h hs
omit h in
theorem Qbez {s e:Int}:Qcs a s e=some (Qm2 a s e):=by
 have hb:a.zM.length<1000000000000:=hs.2.2;unfold Qcs Qbk;refine (Quq (len:=a.zM.length) (fun k=>some (match (a.zM.drop k).find? (fun x=>x.From==s&&x.Event==e) with|some x=>x.To|none=>-1)) (by unfold Qch;omega) ?_ ?_).trans (by simp [Qm2])
 ·intro k i hi ih;rw [if_pos (by omega),Qbt hi,Qcn (by omega),ih,List.drop_eq_getElem_cons hi];simp only [Option.bind_some,List.find?_cons];cases h1:a.zM[i].From==s<;>cases h2:a.zM[i].Event==e<;>simp [h1,h2]
 ·intro k;simp
end
theorem Qbip {a:Qe} (h:Right a) (s e:Int):Qm2 a s e = -1∨0≤Qm2 a s e∧Qm2 a s e<a.zN∧0≤s∧s<a.zN∧e∈a.zK:=by
 unfold Qm2;split
 ·rename_i x hx;have hm:=List.mem_of_find?_eq_some hx;have hp:=List.find?_some hx;obtain ⟨k1,k2,k3,k4,k5⟩:=h.ed0 x hm;simp at hp;exact .inr ⟨k3,k4,by omega,by omega,hp.2 ▸ k5⟩
 ·exact .inl rfl
theorem Qbhk {a:Qe} (h:Right a) {s e:Int}:0≤Qm2 a s e↔∃ x∈outP a s,x.Event=e:=by
 unfold Qm2 outP;split
 ·rename_i x hx;have hm:=List.mem_of_find?_eq_some hx;have hp:=List.find?_some hx;simp at hp;refine ⟨fun _=>⟨x,by simp [hm,hp.1],hp.2⟩,fun _=>(h.ed0 x hm).2.2.1⟩
 ·rename_i hx;have:=List.find?_eq_none.1 hx;refine ⟨fun h=>by omega,?_⟩;rintro ⟨x,h1,h2⟩;simp at h1;exact absurd (by simp [h1.2,h2]) (this x h1.1)
theorem Q8j {a:Qe} (h:Right a) (s:Int):(outP a s).map (·.Event)=a.zK.filter fun e=>decide (0≤Qm2 a s e):=by
 refine Qbkv ?_ (h.al.filter _) fun e=>?_
 ·rw [List.pairwise_map];have h1:(outP a s).Pairwise Qta:=h.ed.filter _;have h2:∀ x∈outP a s,x.From=s:=fun x hx=>by unfold outP at hx;simp at hx;exact hx.2
  exact List.Pairwise.imp_of_mem (fun {x y} hx hy hk=>by have:=h2 x hx;have:=h2 y hy;unfold Qta at hk;omega) h1
 ·simp only [List.mem_map,List.mem_filter,decide_eq_true_eq,Qbhk h];constructor
  ·rintro ⟨x,hx,rfl⟩;refine ⟨?_,x,hx,rfl⟩;unfold outP at hx;simp at hx;exact (h.ed0 x hx.1).2.2.2.2
  ·rintro ⟨_,x,hx,rfl⟩;exact ⟨x,hx,rfl⟩
theorem Qbhl {a:Qe} (h:Right a) {s:Int} {x:Qc} (hx:x∈outP a s):Qm2 a s x.Event=x.To:=by
 unfold outP at hx;simp at hx;unfold Qm2;split
 ·rename_i y hy;have hm:=List.mem_of_find?_eq_some hy;have hp:=List.find?_some hy;simp at hp;have:x=y:=by
   rcases Classical.em (x=y) with e|hne
   ·exact e
   ·exfalso;have hk:Qta x y∨Qta y x:=by
     have:=List.pairwise_iff_getElem.1 h.ed;obtain ⟨i,hi,rfl⟩:=List.getElem_of_mem hx.1;obtain ⟨j,hj,rfl⟩:=List.getElem_of_mem hm;rcases Nat.lt_trichotomy i j with hij|hij|hij
     ·exact .inl (this i j hi hj hij)
     ·subst hij;exact absurd rfl hne
     ·exact .inr (this j i hj hi hij)
    unfold Qta at hk;omega
  rw [this]
 ·rename_i hn;exact absurd (by simp [hx.2]) (List.find?_eq_none.1 hn x hx.1)
end Go.Abs
end
section
namespace Go.Abs
open Go
theorem Right.small {a:Qe} (h:Right a):small a∧a.zK.length≤32∧a.zL.length≤4096∧a.zM.length≤131072:=by
 have h1:=Qiz h.al h.al0;have h2:=Qiz h.ma h.ma0;have h3:(a.zM.map fun x=>x.From*32+x.Event).Pairwise (· < ·):=by
  rw [List.pairwise_map];refine List.Pairwise.imp_of_mem (fun {x y} hx hy hk=>?_) h.ed;have:=h.al0 _ (h.ed0 x hx).2.2.2.2;have:=h.al0 _ (h.ed0 y hy).2.2.2.2;unfold Qta at hk;omega
 have h4:=Qiz (a:=0) (b:=131072) h3 (by
  intro z hz;obtain ⟨x,hx,rfl⟩:=List.mem_map.1 hz;have:=h.al0 _ (h.ed0 x hx).2.2.2.2;have:=h.ed0 x hx;have:=h.st;omega)
 rw [List.length_map] at h4;have:=h.st;refine ⟨⟨?_,?_,?_⟩,?_,?_,?_⟩<;>(try unfold big)<;>omega
theorem Qbdl {α β:Type} {l:List α} {f:α→Option β} {fuel:Nat} (hl:l.length<big) (hf:l.length<fuel) {F:(List β×Int→Option (List β))→List β×Int→Option (List β)}
  (hF:∀ (k:List β×Int→Option (List β)) (acc:List β) (n:Nat) (h:n<l.length),acc.length≤n→F k (acc,(n:Int))=k (acc++(f l[n]).toList,IntKind.wrap .i64 ((n:Int)+1)))
  (hlast:∀ (k:List β×Int→Option (List β)) (acc:List β),F k (acc,(l.length:Int))=some acc):Qcm F fuel ([],0)=some (l.filterMap f):=by
 have hb:l.length<1000000000000:=hl;refine (Qm1 (len:=l.length) (fun n (acc:List β)=>(acc,(n:Int))) (fun n acc=>acc.length≤n) (fun n acc=>some (acc++(l.drop n).filterMap f)) ?_ ?_ fuel 0 [] (Nat.zero_le _) (by omega) (Nat.le_refl _)).trans (by simp)
 ·intro k n acc hn hi ih;have hlen:(f l[n]).toList.length≤1:=by cases f l[n]<;>simp
  rw [hF k acc n hn hi,Qcn (by omega),ih _ (by simp only [List.length_append];omega),List.drop_eq_getElem_cons hn];rw [List.filterMap_cons];cases f l[n]<;>simp only [Option.toList_none,Option.toList_some,List.append_nil,List.append_assoc,List.cons_append,List.nil_append]
 ·intro k acc _;rw [hlast];simp
end Go.Abs
end
section
namespace Go.Abs
open Go
def ins (o:List Int) (t:Int):List Int:=if t∈o then o else o++[t]
def Qbbs (a:Qe) (s:Int):List Int:=(outP a s).map (·.To)
def bfs (a:Qe):Nat→Nat→List Int→List Int
 | 0,_,o=>o
 | fuel+1,i,o=>match o[i]? with
  | some s=>bfs a fuel (i+1) ((Qbbs a s).foldl ins o)
  | none=>o
def Qvl (a:Qe):List Int:=bfs a (a.zN.toNat+1) 0 (if 0<a.zN then [0] else [])
structure Fnd (a:Qe) (o:List Int):Prop where
 nd:o.Nodup
 rg:∀ s∈o,0≤s∧s<a.zN
theorem Fnd.len {a:Qe} {o:List Int} (h:Fnd a o):o.length≤a.zN.toNat:=by
 have hO:Go.Sort.SWO Qjy:=⟨fun x=>by simp [Qjy],fun x y z h1 h2=>by simp [Qjy] at *;omega,fun x y z h1 h2=>by simp [Qjy] at *;omega⟩;have hp:=Qkr Qjy o;have hs:=Qs5 hO o;have hn:(Qmv Qjy o).Nodup:=(hp.nodup_iff).2 h.nd;have hlt:(Qmv Qjy o).Pairwise (· < ·):=by
  have:(Qmv Qjy o).Pairwise fun x y=>Qjy y x=false∧x≠y:=hs.and hn;exact this.imp fun ⟨h1,h2⟩=>by simp [Qjy] at h1;omega
 have:=Qiz hlt (a:=0) (b:=a.zN) fun x hx=>h.rg x (hp.mem_iff.1 hx);rw [Qs4] at this;simpa using this
theorem Qbiq {o:List Int} {t x:Int}:x∈ins o t↔x∈o∨x=t:=by
 unfold ins;split
 ·rename_i h;constructor
  ·exact .inl
  ·rintro (h'|rfl)
   ·exact h'
   ·exact h
 ·simp
theorem Qbnf (o:List Int) (t:Int):o <+: ins o t:=by
 unfold ins;split
 ·exact List.prefix_refl o
 ·exact List.prefix_append o [t]
theorem Fnd.ins {a:Qe} {o:List Int} (h:Fnd a o) {t:Int} (ht:0≤t∧t<a.zN):Fnd a (ins o t):=by
 refine ⟨?_,fun s hs=>?_⟩
 ·unfold Go.Abs.ins;split
  ·exact h.nd
  ·rename_i hn;rw [List.nodup_append];exact ⟨h.nd,by simp,fun x hx y hy=>by simp at hy;subst hy;exact fun e=>hn (e ▸ hx)⟩
 ·rcases Qbiq.1 hs with hs|rfl
  ·exact h.rg s hs
  ·exact ht
theorem Qbdm {a:Qe}:∀ {ts o:List Int},Fnd a o→(∀ t∈ts,0≤t∧t<a.zN)→Fnd a (ts.foldl ins o)∧o <+: ts.foldl ins o∧(∀ t∈ts,t∈ts.foldl ins o)∧∀ x∈ts.foldl ins o,x∈o∨x∈ts
 | [],o,h,_=>⟨h,List.prefix_refl o,by simp,fun x hx=>.inl hx⟩
 | t::ts,o,h,ht=>by
  obtain ⟨h1,h2,h3,h4⟩:=Qbdm (ts:=ts) (h.ins (ht t (by simp))) fun t ht'=>ht t (by simp [ht']);refine ⟨h1,(Qbnf o t).trans h2,fun x hx=>?_,fun x hx=>?_⟩
  ·rcases List.mem_cons.1 hx with rfl|hx
   ·exact h2.subset (Qbiq.2 (.inr rfl))
   ·exact h3 x hx
  ·rcases h4 x hx with h5|h5
   ·rcases Qbiq.1 h5 with h6|rfl
    ·exact .inl h6
    ·exact .inr (by simp)
   ·exact .inr (by simp [h5])
theorem Qbdn {a:Qe} (h:Right a) (s:Int):∀ t∈Qbbs a s,0≤t∧t<a.zN:=by
 intro t ht;unfold Qbbs outP at ht;obtain ⟨x,hx,rfl⟩:=List.mem_map.1 ht;have:=h.ed0 x ((List.mem_filter.1 hx).1);omega
theorem Qbaz {α:Type} {l m:List α} (h:l <+: m) {i:Nat} {x:α} (hx:l[i]? = some x):m[i]? = some x:=by
 obtain ⟨t,rfl⟩:=h;have:=(List.getElem?_eq_some_iff.1 hx).1;rw [List.getElem?_append_left this];exact hx
theorem Qbjx {a:Qe} (h:Right a):∀ (fuel i:Nat) (o:List Int),Fnd a o→i≤o.length→a.zN.toNat+1≤fuel+i→(∀ j s,j<i→o[j]? = some s→∀ t∈Qbbs a s,t∈o) →
  Fnd a (bfs a fuel i o)∧o <+: bfs a fuel i o∧∀ s∈bfs a fuel i o,∀ t∈Qbbs a s,t∈bfs a fuel i o
 | 0,i,o,hf,hi,hfu,_=>by have:=hf.len;omega
 | fuel+1,i,o,hf,hi,hfu,hc=>by
  unfold bfs;cases hg:o[i]? with
  | none =>
   dsimp only;refine ⟨hf,List.prefix_refl o,fun s hs t ht=>?_⟩;obtain ⟨j,hj⟩:=List.getElem?_of_mem hs;have hlt:=(List.getElem?_eq_some_iff.1 hj).1;exact hc j s (by have:=List.getElem?_eq_none_iff.1 hg;omega) hj t ht
  | some s =>
   dsimp only;obtain ⟨h1,h2,h3,_⟩:=Qbdm hf (Qbdn h s);have hlen:i<o.length:=(List.getElem?_eq_some_iff.1 hg).1;have hle:=h2.length_le;obtain ⟨k1,k2,k3⟩:=Qbjx h fuel (i+1) ((Qbbs a s).foldl ins o) h1 (by omega) (by omega) (fun j s' hj hs' t ht=>by
    by_cases hji:j<i
    ·have hjl:j<o.length:=by omega
     have:o[j]? = some s':=by
      have:=Qbaz h2 (List.getElem?_eq_getElem hjl);rw [hs'] at this;rw [List.getElem?_eq_getElem hjl];exact this.symm
     exact h2.subset (hc j s' hji this t ht)
    ·obtain rfl:j=i:=by omega
     have:=Qbaz h2 hg;rw [hs'] at this;cases this;exact h3 t ht)
   exact ⟨k1,h2.trans k2,k3⟩
theorem Qba0 {a:Qe} (h:Right a):Fnd a (Qvl a)∧(if 0<a.zN then [0] else []) <+: Qvl a∧∀ s∈Qvl a,∀ t∈Qbbs a s,t∈Qvl a :=
 Qbjx h _ 0 _ ⟨by split<;>simp,fun s hs=>by split at hs<;>simp at hs;subst hs;omega⟩ (Nat.zero_le _) (by omega) fun j s hj=>by omega
def Q6x (m:List Int):Nat→List Int→List Int
 | _,[]=>[]
 | i,s::t=>(if s∈m then [(i:Int)] else [])++Q6x m (i+1) t
def rowP (a:Qe) (F:List Int) (i:Nat) (s:Int):List Qc:=(outP a s).map fun x=>⟨(i:Int),x.Event,(F.idxOf x.To:Int)⟩
def Q6y (a:Qe) (F:List Int):Nat→List Int→List Qc
 | _,[]=>[]
 | i,s::t=>rowP a F i s++Q6y a F (i+1) t
def Q01 (a:Qe):Qe:=⟨a.zK,((Qvl a).length:Int),Q6x a.zL 0 (Qvl a),Q6y a (Qvl a) 0 (Qvl a)⟩
theorem Q4j {m:List Int}:∀ {l:List Int} {i:Nat},∀ x∈Q6x m i l,(i:Int)≤x∧x<(i+l.length:Nat)
 | [],i,x,hx=>by simp [Q6x] at hx
 | s::t,i,x,hx=>by
  simp only [Q6x,List.mem_append] at hx;rcases hx with hx|hx
  ·split at hx<;>simp at hx;subst hx;simp only [List.length_cons];omega
  ·have:=Q4j x hx;simp only [List.length_cons];omega
theorem Q90 {m:List Int}:∀ {l:List Int} {i:Nat},(Q6x m i l).Pairwise (· < ·)
 | [],i=>.nil
 | s::t,i=>by
  simp only [Q6x];rw [List.pairwise_append];refine ⟨by split<;>simp,Q90,fun x hx y hy=>?_⟩;have:=Q4j y hy;split at hx<;>simp at hx;omega
theorem Q8k {a:Qe} {F:List Int}:∀ {l:List Int} {i:Nat},∀ x∈Q6y a F i l,(i:Int)≤x.From∧x.From<(i+l.length:Nat)∧∃ s∈l,∃ y∈outP a s,x.Event=y.Event∧x.To=(F.idxOf y.To:Int)
 | [],i,x,hx=>by simp [Q6y] at hx
 | s::t,i,x,hx=>by
  simp only [Q6y,List.mem_append] at hx;rcases hx with hx|hx
  ·obtain ⟨y,hy,rfl⟩:=List.mem_map.1 hx;simp only [List.length_cons];exact ⟨by omega,by omega,s,by simp,y,hy,rfl,rfl⟩
  ·obtain ⟨h1,h2,s',h3,h4⟩:=Q8k x hx;simp only [List.length_cons];exact ⟨by omega,by omega,s',by simp [h3],h4⟩
theorem Q91 {a:Qe} (h:Right a) {F:List Int}:∀ {l:List Int} {i:Nat},(Q6y a F i l).Pairwise Qta
 | [],i=>.nil
 | s::t,i=>by
  simp only [Q6y];rw [List.pairwise_append];refine ⟨?_,Q91 h,fun x hx y hy=>?_⟩
  ·unfold rowP;rw [List.pairwise_map];have h1:(outP a s).Pairwise Qta:=h.ed.filter _;have h2:∀ x∈outP a s,x.From=s:=fun x hx=>by unfold outP at hx;simp at hx;exact hx.2
   exact List.Pairwise.imp_of_mem (fun {x y} hx hy hk=>by have:=h2 x hx;have:=h2 y hy;unfold Qta at hk;exact .inr ⟨rfl,by show x.Event<y.Event;omega⟩) h1
  ·obtain ⟨z,_,rfl⟩:=List.mem_map.1 hx;have:=(Q8k y hy).1;unfold Qta;simp only;omega
theorem Qbhm {a:Qe} (h:Right a):Right (Q01 a):=by
 obtain ⟨h1,h2,h3⟩:=Qba0 h;have hl:=h1.len;have hst:=h.st;refine ⟨h.al0,h.al,⟨by simp only [Q01];omega,by simp only [Q01];omega⟩,fun x hx=>?_,Q90,fun x hx=>?_,Q91 h⟩
 ·have:=Q4j x hx;simp only [Q01];omega
 ·obtain ⟨k1,k2,s,hs,y,hy,k3,k4⟩:=Q8k x hx;have hy' : y.To∈Qvl a:=h3 s hs y.To (List.mem_map.2 ⟨y,hy,rfl⟩);have:=List.idxOf_lt_length_iff.2 hy';simp only [Q01];refine ⟨by omega,by omega,by omega,by omega,?_⟩;rw [k3];unfold outP at hy;exact (h.ed0 y ((List.mem_filter.1 hy).1)).2.2.2.2
end Go.Abs
end
section
namespace Go.Abs
open Go
theorem Qbjy {l:List Int} (hl:l.length≤lim):Qe3 l=some ⟨l,0,[],[]⟩:=by
 unfold Qe3 Q9;rw [Qby (by simpa using hl)];rfl
theorem Qbir {l:List Int} {v:Int} (hl:l.length<big):Qe4 l v=some (if v∈l then (l.idxOf v:Int) else -1):=by
 have hb:l.length<1000000000000:=hl;unfold Qe4 Qcl;refine (Quq (len:=l.length) (fun k=>some (if v∈l.drop k then ((k+(l.drop k).idxOf v:Nat):Int) else -1)) (by unfold Qch;omega) ?_ ?_).trans (by simp)
 ·intro k i hi ih;rw [if_pos (by omega),Qbt hi,Qcn (by omega),ih,List.drop_eq_getElem_cons hi];simp only [Option.bind_some,List.mem_cons,List.idxOf_cons];by_cases h:v=l[i]
  ·simp [← h]
  ·have h' : ¬ l[i]=v:=fun e=>h e.symm;have hbq:(l[i]==v)=false:=by simp [h']
   by_cases h2:v∈l.drop (i+1)<;>simp [h,h2,hbq];omega
 ·intro k;simp
theorem Qbbh {a:Qe} (h:Right a) (s:Int):Qbbs a s=(a.zK.filter fun e=>decide (0≤Qm2 a s e)).map (Qm2 a s):=by
 rw [← Q8j h,List.map_map];unfold Qbbs;exact List.map_congr_left fun x hx=>(Qbhl h hx).symm
theorem Qbe0 {a:Qe} (s:Int):∀ (al o:List Int),al.foldl (fun o e=>if 0≤Qm2 a s e then ins o (Qm2 a s e) else o) o=((al.filter fun e=>decide (0≤Qm2 a s e)).map (Qm2 a s)).foldl ins o
 | [],o=>rfl
 | e::al,o=>by
  by_cases hx:0≤Qm2 a s e<;>simp [List.filter_cons,hx,Qbe0 s al]
theorem Qbop {a:Qe} {fuel i:Nat} {o:List Int} (hi:i<o.length):bfs a (fuel+1) i o=bfs a fuel (i+1) ((Qbbs a o[i]).foldl ins o):=by
 conv=>lhs;unfold bfs
 rw [List.getElem?_eq_getElem hi]
theorem Qbql {a:Qe} {fuel:Nat} {o:List Int}:bfs a fuel o.length o=o:=by
 cases fuel with
 | zero=>rfl
 | succ n=>unfold bfs;simp
section
variable {a:Qe} (h:Right a)
include h
theorem Qbkw (fuel:Nat) (hfu:1099511627776≤fuel) {s:Int} {o:List Int} {i:Nat} (hf:Fnd a o) (hi:o[i]? = some s) :
  Qcm (fun k12 ((out10,k11):(List Int)×Int)=>(if (k11<(a.zK.length:Int)) then ((((getO out10 (i:Int)).bind fun x14=>((getO a.zK k11).bind fun x16=>((Qcs a x14 x16).bind fun x19=>(((if (x19≥0) then ((Qdi out10 x19).bind fun x22=>some (!x22)) else some false)).bind fun (x23:Bool)=>(if x23 then ((appO out10 [x19]).bind fun x25=>some x25) else some out10)))))).bind fun (out27:List Int)=>k12 (out27,(IntKind.wrap .i64 (k11+1)))) else some out10)) fuel (o,0)=some ((Qbbs a s).foldl ins o):=by
 have hs:=h.small.1;have hst:=h.st;have hb:a.zK.length<1000000000000:=hs.1;rw [Qbbh h,← Qbe0];refine (Qm1 (len:=a.zK.length) (fun n (acc:List Int)=>(acc,(n:Int))) (fun n acc=>Fnd a acc∧acc[i]? = some s) (fun n acc=>some ((a.zK.drop n).foldl (fun o e=>if 0≤Qm2 a s e then ins o (Qm2 a s e) else o) acc)) ?_ ?_ fuel 0 o (Nat.zero_le _) (by omega) ⟨hf,hi⟩).trans (by simp)
 ·intro k n acc hn ⟨k1,k2⟩ ih;have hlen:=k1.len;have hg:getO acc (i:Int)=some s:=by rw [Qbhi];exact ⟨by omega,by simpa using k2⟩
  dsimp only;rw [if_pos (by omega),hg,Qbt hn];simp only [Option.bind_some];rw [Qbez hs,Qcn (by omega)];simp only [Option.bind_some];rw [Qbpn (by unfold big;omega),List.drop_eq_getElem_cons hn,List.foldl_cons];rcases Qbip h s a.zK[n] with hr|hr
  ·rw [hr];simp only [show ¬ ((-1:Int)≥0) from by omega,show ¬ ((0:Int) ≤ -1) from by omega,if_false,Option.bind_some,Bool.false_eq_true];exact ih _ ⟨k1,k2⟩
  ·have hge:Qm2 a s a.zK[n]≥0:=hr.1;by_cases hm:Qm2 a s a.zK[n]∈acc
   ·simp only [hge,hm,decide_true,Bool.not_true,if_true,Option.bind_some,Bool.false_eq_true,if_false,hr.1,ins];exact ih _ ⟨k1,k2⟩
   ·simp only [hge,hm,decide_false,Bool.not_false,if_true,Option.bind_some,hr.1,ins,if_false];rw [Qby (by simp only [List.length_cons,List.length_nil];unfold lim;omega)];simp only [Option.bind_some];have hi':=k1.ins (t:=Qm2 a s a.zK[n]) ⟨hr.1,hr.2.1⟩;unfold ins at hi';rw [if_neg hm] at hi';exact ih _ ⟨hi',Qbaz (List.prefix_append acc _) k2⟩
 ·intro k acc _;dsimp only;rw [if_neg (by omega)];simp
theorem Qbis:Qgm a=some (Qvl a):=by
 have hs:=h.small.1;have hst:=h.st;unfold Qgm Qck;obtain ⟨fuel,hfu,hge⟩ : ∃ f,Qch=f∧1099511627776≤f:=⟨_,rfl,Nat.le_refl _⟩;rw [hfu];have hloop:∀ o:List Int,Fnd a o→Qcm (fun (k8:List Int×Int→Option (List Int)) ((out6,i7):(List Int)×Int)=>(if (i7<(out6.length:Int)) then ((Qcm (fun k12 ((out10,k11):(List Int)×Int)=>(if (k11<(a.zK.length:Int)) then ((((getO out10 i7).bind fun x14=>((getO a.zK k11).bind fun x16=>((Qcs a x14 x16).bind fun x19=>(((if (x19≥0) then ((Qdi out10 x19).bind fun x22=>some (!x22)) else some false)).bind fun (x23:Bool)=>(if x23 then ((appO out10 [x19]).bind fun x25=>some x25) else some out10)))))).bind fun (out27:List Int)=>k12 (out27,(IntKind.wrap .i64 (k11+1)))) else some out10)) fuel (out6,0)).bind fun (out28:List Int)=>k8 (out28,(IntKind.wrap .i64 (i7+1)))) else some out6)) fuel (o,0)=some (bfs a (a.zN.toNat+1) 0 o):=by
  intro o ho;have:=Qgf (F:=fun (k8:List Int×Int→Option (List Int)) ((out6,i7):(List Int)×Int)=>(if (i7<(out6.length:Int)) then ((Qcm (fun k12 ((out10,k11):(List Int)×Int)=>(if (k11<(a.zK.length:Int)) then ((((getO out10 i7).bind fun x14=>((getO a.zK k11).bind fun x16=>((Qcs a x14 x16).bind fun x19=>(((if (x19≥0) then ((Qdi out10 x19).bind fun x22=>some (!x22)) else some false)).bind fun (x23:Bool)=>(if x23 then ((appO out10 [x19]).bind fun x25=>some x25) else some out10)))))).bind fun (out27:List Int)=>k12 (out27,(IntKind.wrap .i64 (k11+1)))) else some out10)) fuel (out6,0)).bind fun (out28:List Int)=>k8 (out28,(IntKind.wrap .i64 (i7+1)))) else some out6))
   (fun x=>∃ i:Nat,x.2=(i:Int)∧i≤x.1.length∧Fnd a x.1) (fun x=>a.zN.toNat+1-x.2.toNat) (fun x r=>r=some (bfs a (a.zN.toNat+1-x.2.toNat) x.2.toNat x.1)) (by
    rintro k ⟨o,i⟩ ⟨i,rfl,hi,hf⟩ ih;replace hi:i≤o.length:=hi;replace hf:Fnd a o:=hf;have hl:=hf.len;dsimp only;by_cases hlt:i<o.length
    ·rw [if_pos (by omega),Qbkw h fuel hge hf (List.getElem?_eq_getElem hlt),Option.bind_some,Qcn (by omega)];obtain ⟨q1,q2,_,_⟩:=Qbdm hf (Qbdn h o[i]);have hle:=q2.length_le;rw [ih _ ⟨i+1,rfl,by simp only;omega,q1⟩ (by simp only;omega)];simp only [Int.toNat_natCast];rw [show a.zN.toNat+1-i=(a.zN.toNat+1-(i+1))+1 from by omega,Qbop hlt]
    ·rw [if_neg (by omega)];obtain rfl:i=o.length:=by omega
     simp only [Int.toNat_natCast,Qbql]) fuel (o,0) ⟨0,rfl,Nat.zero_le _,ho⟩ (by simp only;omega)
  simpa using this
 by_cases h0:0<a.zN
 ·rw [if_pos (by omega),Qby (by simp only [List.length_cons,List.length_nil];unfold lim;omega)];simp only [Option.bind_some];rw [show ([]++[0]:List Int)=[0] from rfl,hloop [0] ⟨by simp,fun s hs=>by simp at hs;subst hs;omega⟩];simp only [Option.bind_some,Qvl,if_pos h0]
 ·rw [if_neg (by omega)];simp only [Option.bind_some];rw [hloop [] ⟨by simp,fun s hs=>by simp at hs⟩];simp only [Option.bind_some,Qvl,if_neg h0]
theorem Qbe1 (fuel:Nat) (hfu:1099511627776≤fuel) {F:List Int} (hF:Fnd a F) (hcl:∀ s∈F,∀ t∈Qbbs a s,t∈F) {s:Int} {i:Nat} (hi:F[i]? = some s) (ms:List Int) (es:List Qc) (hes:es.length≤200000) :
  Qcm (fun (k24:Int×List Qc→Option (List Int×List Qc)) ((k22,out23):Int×(List Qc))=>(if (k22<(a.zK.length:Int)) then ((((getO F (i:Int)).bind fun x26=>((getO a.zK k22).bind fun x28=>((Qcs a x26 x28).bind fun x31=>(if (x31≥0) then ((getO a.zK k22).bind fun x33=>((Qe4 F x31).bind fun x36=>((appO out23 [(Qc.mk (i:Int) x33 x36)]).bind fun x37=>some x37))) else some out23))))).bind fun (out39:List Qc)=>k24 ((IntKind.wrap .i64 (k22+1)),out39)) else some (ms,out23))) fuel (0,es)=some (ms,es++rowP a F i s):=by
 have hs:=h.small.1;have hst:=h.st;have hal:=h.small.2.1;have hb:a.zK.length<1000000000000:=hs.1;have hFl:=hF.len;have hrow:rowP a F i s=(a.zK.filter fun e=>decide (0≤Qm2 a s e)).map fun e=>⟨(i:Int),e,(F.idxOf (Qm2 a s e):Int)⟩:=by
  rw [← Q8j h,List.map_map];unfold rowP;exact List.map_congr_left fun x hx=>by simp only [Function.comp];rw [Qbhl h hx]
 rw [hrow];refine (Qm1 (len:=a.zK.length) (fun n (acc:List Qc)=>((n:Int),acc)) (fun n acc=>acc.length≤200000+n) (fun n acc=>some (ms,acc++((a.zK.drop n).filter fun e=>decide (0≤Qm2 a s e)).map fun e=>⟨(i:Int),e,(F.idxOf (Qm2 a s e):Int)⟩)) ?_ ?_ fuel 0 es (Nat.zero_le _) (by omega) (by omega)).trans (by simp)
 ·intro k n acc hn k1 ih;have hg:getO F (i:Int)=some s:=by rw [Qbhi];exact ⟨by omega,by simpa using hi⟩
  dsimp only;rw [if_pos (by omega),hg,Qbt hn];simp only [Option.bind_some];rw [Qbez hs,Qcn (by omega)];simp only [Option.bind_some];rw [List.drop_eq_getElem_cons hn,List.filter_cons];by_cases hr:0≤Qm2 a s a.zK[n]
  ·have hm:Qm2 a s a.zK[n]∈F:=hcl s (List.mem_of_getElem? hi) _ (by rw [Qbbh h];exact List.mem_map.2 ⟨_,List.mem_filter.2 ⟨List.getElem_mem hn,by simpa using hr⟩,rfl⟩);rw [if_pos hr,Qbir (by unfold big;omega),if_pos hm];simp only [Option.bind_some];rw [Qby (by simp only [List.length_cons,List.length_nil];unfold lim;omega)];simp only [Option.bind_some];rw [ih _ (by simp only [List.length_append,List.length_cons,List.length_nil];omega)];simp only [hr,decide_true,if_true,List.map_cons,List.append_assoc,List.cons_append,List.nil_append]
  ·rw [if_neg (by omega)];simp only [Option.bind_some];rw [ih _ (by omega)];simp only [hr,decide_false,Bool.false_eq_true,if_false]
 ·intro k acc _;dsimp only;rw [if_neg (by omega)];simp
theorem Qboq {F:List Int} {i:Nat} {s:Int}:(rowP a F i s).length≤32:=by
 have:=h.small.2.1;have h1:(rowP a F i s).length=((outP a s).map (·.Event)).length:=by simp [rowP]
 rw [h1,Q8j h];exact Nat.le_trans (List.length_filter_le _ _) this
theorem Qbdo:Qer a=some (Q01 a):=by
 have hs:=h.small.1;have hst:=h.st;have hal:=h.small.2.1;have hb:a.zK.length<1000000000000:=hs.1;obtain ⟨hF,_,hcl⟩:=Qba0 h;have hFl:=hF.len;unfold Qer Qbw;obtain ⟨fuel,hfu,hge⟩ : ∃ f,Qch=f∧1099511627776≤f:=⟨_,rfl,Nat.le_refl _⟩;rw [hfu,Qbis h,Option.bind_some,Qbjy (by unfold lim;omega),Option.bind_some];unfold Q01;generalize Qvl a=F at hF hcl hFl;show Option.bind (Qcm _ fuel (((0:Nat):Int),[],[],[],[],[])) _=_;rw [Qm1 (len:=F.length) (R:=List Int×List Int×List Qc×List Int×List Qc) (fun n (acc:List Int×List Qc)=>((n:Int),([]:List Int),([]:List Int),([]:List Qc),acc.1,acc.2)) (fun n acc=>acc.1.length≤n∧acc.2.length≤32*n)
  (fun n acc=>some (([]:List Int),([]:List Int),([]:List Qc),acc.1++Q6x a.zL n (F.drop n),acc.2++Q6y a F n (F.drop n))) ?_ ?_ fuel 0 ([],[]) (Nat.zero_le _) (by omega) ⟨Nat.zero_le _,Nat.zero_le _⟩]
 ·simp
 ·rintro k n ⟨ms,es⟩ hn ⟨k1,k2⟩ ih;replace k1:ms.length≤n:=k1;replace k2:es.length≤32*n:=k2;have hg:=List.getElem?_eq_getElem hn;dsimp only;rw [if_pos (by omega),Qbt hn];simp only [Option.bind_some];rw [Qbpn hs.2.1];simp only [Option.bind_some];have hrl:=Qboq h (F:=F) (i:=n) (s:=F[n]);rw [List.drop_eq_getElem_cons hn];simp only [Q6x,Q6y];by_cases hm:F[n]∈a.zL
  ·simp only [hm,decide_true,if_true];rw [Qby (by simp only [List.length_cons,List.length_nil];unfold lim;omega)];simp only [Option.bind_some];have:=Qbe1 h fuel hge hF hcl hg (ms++[(n:Int)]) es (by omega);rw [Qbt hn] at this;simp only [Option.bind_some] at this;rw [this];simp only [Option.bind_some];rw [Qcn (by omega),ih (ms++[(n:Int)],es++rowP a F n F[n]) ⟨by simp only [List.length_append,List.length_cons,List.length_nil];omega,by simp only [List.length_append];omega⟩];simp only [List.append_assoc]
  ·simp only [hm,decide_false,Bool.false_eq_true,if_false,Option.bind_some];have:=Qbe1 h fuel hge hF hcl hg ms es (by omega);rw [Qbt hn] at this;simp only [Option.bind_some] at this;rw [this];simp only [Option.bind_some];rw [Qcn (by omega),ih (ms,es++rowP a F n F[n]) ⟨by simp only;omega,by simp only [List.length_append];omega⟩];simp only [List.append_assoc,List.nil_append]
 ·rintro k ⟨ms,es⟩ _;dsimp only;rw [if_neg (by omega)];simp [Q6x,Q6y]
end
end Go.Abs
end
section
namespace Go.Abs
open Go
structure Evs (l:List Int):Prop where
 rg:∀ x∈l,0≤x∧x<5
 so:l.Pairwise (· < ·)
theorem Evs.len {l:List Int} (h:Evs l):l.length≤5:=by have:=Qiz h.so h.rg;simpa using this
def Qbng:List Int→Bool
 | []=>true
 | x::xs=>xs.all (fun y=>decide (x<y))&&Qbng xs
theorem Qbdp:∀ {l:List Int},Qbng l=true→l.Pairwise (· < ·)
 | [],_=>.nil
 | x::xs,h=>by
  simp only [Qbng,Bool.and_eq_true,List.all_eq_true,decide_eq_true_eq] at h;exact List.pairwise_cons.2 ⟨h.1,Qbdp h.2⟩
def evB (s:Nat):Bool:=match Qcg (s:Int) with
 | some l=>Qbng l&&l.all fun x=>decide (0≤x)&&decide (x<5)
 | none=>false
theorem Qbqm:(List.range 256).all evB=true:=by kernel_rfl
theorem Qbnh {s:Int} (h0:0≤s) (h1:s<256):∃ l,Qcg s=some l∧Evs l:=by
 have:=List.all_eq_true.1 Qbqm s.toNat (List.mem_range.2 (by omega));unfold evB at this;rw [show ((s.toNat:Nat):Int)=s from by omega] at this;split at this
 ·rename_i l hl;simp only [Bool.and_eq_true,List.all_eq_true,decide_eq_true_eq] at this;exact ⟨l,hl,fun x hx=>this.2 x hx,Qbdp this.1⟩
 ·cases this
structure Mks (n:Nat) (ms:List Int):Prop where
 rg:∀ x∈ms,0≤x∧x<n
 so:ms.Pairwise (· < ·)
structure Eds (al:List Int) (N:Int) (i k:Nat) (es:List Qc):Prop where
 rg:∀ x∈es,0≤x.From∧0≤x.To∧x.To<N∧x.Event∈al∧(x.From<i∨x.From=i∧∃ j:Nat,j<k∧al[j]? = some x.Event)
 so:es.Pairwise Qta
 ln:es.length≤5*i+k
theorem Mks.up {n:Nat} {ms:List Int} (h:Mks n ms):Mks (n+1) ms:=⟨fun x hx=>by have:=h.rg x hx;omega,h.so⟩
theorem Mks.add {n:Nat} {ms:List Int} (h:Mks n ms):Mks (n+1) (ms++[(n:Int)]):=by
 refine ⟨fun x hx=>?_,?_⟩
 ·rcases List.mem_append.1 hx with hx|hx
  ·have:=h.rg x hx;omega
  ·simp at hx;omega
 ·rw [List.pairwise_append];exact ⟨h.so,by simp,fun x hx y hy=>by simp at hy;have:=h.rg x hx;omega⟩
theorem Mks.len {n:Nat} {ms:List Int} (h:Mks n ms):ms.length≤n:=by have:=Qiz h.so h.rg;simpa using this
section
variable {al:List Int} (hal:Evs al) {N:Int} {i k:Nat} {es:List Qc}
theorem Eds.up (h:Eds al N i k es):Eds al N i (k+1) es:=⟨fun x hx=>by
 obtain ⟨h1,h2,h3,h4,h5⟩:=h.rg x hx;refine ⟨h1,h2,h3,h4,?_⟩;rcases h5 with h5|⟨h5,j,h6,h7⟩
 ·exact .inl h5
 ·exact .inr ⟨h5,j,by omega,h7⟩,h.so,by have:=h.ln;omega⟩
theorem Eds.next (h:Eds al N i k es) (hk:k≤5):Eds al N (i+1) 0 es:=⟨fun x hx=>by
 obtain ⟨h1,h2,h3,h4,h5⟩:=h.rg x hx;exact ⟨h1,h2,h3,h4,.inl (by rcases h5 with h5|⟨h5,_⟩<;>omega)⟩,h.so,by have:=h.ln;omega⟩
include hal in
theorem Eds.add (h:Eds al N i k es) (hk:k<al.length) {t:Int} (ht:0≤t∧t<N):Eds al N i (k+1) (es++[⟨(i:Int),al[k],t⟩]):=by
 refine ⟨fun x hx=>?_,?_,by have:=h.ln;simp only [List.length_append,List.length_cons,List.length_nil];omega⟩
 ·rcases List.mem_append.1 hx with hx|hx
  ·exact h.up.rg x hx
  ·simp at hx;subst hx;exact ⟨by simp only;omega,ht.1,ht.2,List.getElem_mem hk,.inr ⟨rfl,k,by omega,List.getElem?_eq_getElem hk⟩⟩
 ·rw [List.pairwise_append];refine ⟨h.so,by simp,fun x hx y hy=>?_⟩;simp at hy;subst hy;obtain ⟨_,_,_,_,h5⟩:=h.rg x hx;rcases h5 with h5|⟨h5,j,h6,h7⟩
  ·exact .inl h5
  ·refine .inr ⟨h5,?_⟩;obtain ⟨h8,h9⟩:=List.getElem?_eq_some_iff.1 h7;rw [← h9];exact List.pairwise_iff_getElem.1 hal.so j k h8 hk h6
end
structure Qbni (g:Qb8):Prop where
 st:0≤g.zN∧g.zN<256
 to:∀ x∈[g.To.1.1,g.To.1.2.1,g.To.1.2.2.1,g.To.1.2.2.2.1,g.To.1.2.2.2.2,g.To.2.1.1,g.To.2.1.2.1,g.To.2.1.2.2.1,g.To.2.1.2.2.2.1,g.To.2.1.2.2.2.2,g.To.2.2.1.1,g.To.2.2.1.2.1,g.To.2.2.1.2.2.1,g.To.2.2.1.2.2.2.1,g.To.2.2.1.2.2.2.2,g.To.2.2.2.1.1,g.To.2.2.2.1.2.1,g.To.2.2.2.1.2.2.1,g.To.2.2.2.1.2.2.2.1,g.To.2.2.2.1.2.2.2.2,g.To.2.2.2.2.1,g.To.2.2.2.2.2.1,g.To.2.2.2.2.2.2.1,g.To.2.2.2.2.2.2.2.1,g.To.2.2.2.2.2.2.2.2],0≤x∧x<256
theorem Qbjz {al:List Int} (hal:Evs al) (fuel:Nat) (hfu:1099511627776≤fuel) {L:List Int} (hL:L.length=25) (hL2:∀ x∈L,0≤x∧x<256) {N:Int} (hN:1≤N∧N≤5) {i:Nat} (hi:(i:Int)<N) {ms:List Int} {es:List Qc} (hes:Eds al N i 0 es) :
  ∃ es',Eds al N (i+1) 0 es'∧Qcm (fun (k25:Int×List Qc→Option (List Int×List Qc)) ((k23,a24):Int×(List Qc))=>(((if (k23<(al.length:Int)) then some (decide (k23<5)) else some false)).bind fun (x27:Bool)=>(if x27 then ((((inO 5 (i:Int)).bind fun _=>((inO 5 k23).bind fun _=>((rowO L (Int.toNat (i:Int)*5+Int.toNat k23*1)).bind fun x31=>((remO .i64 (IntKind.wrap .i64 x31) (IntKind.wrap .i64 (N+2))).bind fun s33=>(if (s33<N) then ((getO al k23).bind fun x36=>((appO a24 [(Qc.mk (i:Int) x36 s33)]).bind fun x38=>some x38)) else some a24)))))).bind fun (a40:List Qc)=>k25 ((IntKind.wrap .i64 (k23+1)),a40)) else some (ms,a24)))) fuel (0,es)=some (ms,es'):=by
 have hl:=hal.len;have:=Qgf (F:=fun (k25:Int×List Qc→Option (List Int×List Qc)) ((k23,a24):Int×(List Qc))=>(((if (k23<(al.length:Int)) then some (decide (k23<5)) else some false)).bind fun (x27:Bool)=>(if x27 then ((((inO 5 (i:Int)).bind fun _=>((inO 5 k23).bind fun _=>((rowO L (Int.toNat (i:Int)*5+Int.toNat k23*1)).bind fun x31=>((remO .i64 (IntKind.wrap .i64 x31) (IntKind.wrap .i64 (N+2))).bind fun s33=>(if (s33<N) then ((getO al k23).bind fun x36=>((appO a24 [(Qc.mk (i:Int) x36 s33)]).bind fun x38=>some x38)) else some a24)))))).bind fun (a40:List Qc)=>k25 ((IntKind.wrap .i64 (k23+1)),a40)) else some (ms,a24))))
  (fun x=>∃ k:Nat,x.1=(k:Int)∧k≤al.length∧Eds al N i k x.2) (fun x=>al.length-x.1.toNat) (fun _ r=>∃ es',r=some (ms,es')∧Eds al N (i+1) 0 es') (by
   rintro kk ⟨k,es⟩ ⟨k,rfl,hk,he⟩ ih;replace he:Eds al N i k es:=he;replace hk:k≤al.length:=hk;dsimp only;by_cases hlt:k<al.length
   ·rw [if_pos (by omega)];simp only [Option.bind_some,show decide ((k:Int)<5)=true from by simp;omega,if_true];rw [show inO 5 (i:Int)=some () from by unfold inO;rw [if_pos (by omega)],show inO 5 (k:Int)=some () from by unfold inO;rw [if_pos (by omega)]];simp only [Option.bind_some,Int.toNat_natCast];have hidx:i*5+k*1<L.length:=by omega
    have hx:=hL2 _ (List.getElem_mem hidx);rw [show rowO L (i*5+k*1)=some L[i*5+k*1] from by unfold rowO;exact List.getElem?_eq_getElem hidx];simp only [Option.bind_some];rw [Qm0 (x:=L[i*5+k*1]) (by omega) (by omega),Qm0 (x:=N+2) (by omega) (by omega),show remO .i64 L[i*5+k*1] (N+2)=some (L[i*5+k*1].tmod (N+2)) from by unfold remO;rw [if_neg (by omega)]];simp only [Option.bind_some];have hmod:0≤L[i*5+k*1].tmod (N+2):=Int.tmod_nonneg _ hx.1;have hln:=he.ln;by_cases hm:L[i*5+k*1].tmod (N+2)<N
    ·rw [if_pos hm,Qbt hlt];simp only [Option.bind_some];rw [Qby (by simp only [List.length_cons,List.length_nil];unfold lim;omega)];simp only [Option.bind_some];rw [Qcn (by omega)];exact ih _ ⟨k+1,rfl,hlt,he.add hal hlt ⟨hmod,hm⟩⟩ (by simp only;omega)
    ·rw [if_neg hm];simp only [Option.bind_some];rw [Qcn (by omega)];exact ih _ ⟨k+1,rfl,hlt,he.up⟩ (by simp only;omega)
   ·rw [if_neg (by omega)];exact ⟨es,rfl,he.next (by omega)⟩) fuel (0,es) ⟨0,rfl,Nat.zero_le _,hes⟩ (by simp only;omega)
 obtain ⟨es',h1,h2⟩:=this;exact ⟨es',h2,h1⟩
theorem Qbit {al:List Int} (hal:Evs al):Right ⟨al,0,[],[]⟩ :=
 ⟨fun x hx=>by have:=hal.rg x hx;omega,hal.so,⟨by simp,by simp⟩,by simp,.nil,by simp,.nil⟩
theorem Qbqn {al:List Int} (hal:Evs al) {g:Qb8} (hg:Qbni g):∃ m,Right m∧m.zK=al∧Qgz al g=some (Q01 m)∧m.zN≤5:=by
 have hl:=hal.len;obtain ⟨hst,hto⟩:=hg;unfold Qgz Qcq;obtain ⟨fuel,hfu,hge⟩ : ∃ f,Qch=f∧1099511627776≤f:=⟨_,rfl,Nat.le_refl _⟩;rw [hfu,Qbjy (by unfold lim;omega)];simp only [Option.bind_some];by_cases h250:g.zN≥250
 ·rw [if_pos h250];exact ⟨⟨al,0,[],[]⟩,Qbit hal,rfl,rfl,by simp⟩
 rw [if_neg h250];have hL:[g.To.1.1,g.To.1.2.1,g.To.1.2.2.1,g.To.1.2.2.2.1,g.To.1.2.2.2.2,g.To.2.1.1,g.To.2.1.2.1,g.To.2.1.2.2.1,g.To.2.1.2.2.2.1,g.To.2.1.2.2.2.2,g.To.2.2.1.1,g.To.2.2.1.2.1,g.To.2.2.1.2.2.1,g.To.2.2.1.2.2.2.1,g.To.2.2.1.2.2.2.2,g.To.2.2.2.1.1,g.To.2.2.2.1.2.1,g.To.2.2.2.1.2.2.1,g.To.2.2.2.1.2.2.2.1,g.To.2.2.2.1.2.2.2.2,g.To.2.2.2.2.1,g.To.2.2.2.2.2.1,g.To.2.2.2.2.2.2.1,g.To.2.2.2.2.2.2.2.1,g.To.2.2.2.2.2.2.2.2].length=25:=rfl;generalize [g.To.1.1,g.To.1.2.1,g.To.1.2.2.1,g.To.1.2.2.2.1,g.To.1.2.2.2.2,g.To.2.1.1,g.To.2.1.2.1,g.To.2.1.2.2.1,g.To.2.1.2.2.2.1,g.To.2.1.2.2.2.2,g.To.2.2.1.1,g.To.2.2.1.2.1,g.To.2.2.1.2.2.1,g.To.2.2.1.2.2.2.1,g.To.2.2.1.2.2.2.2,g.To.2.2.2.1.1,g.To.2.2.2.1.2.1,g.To.2.2.2.1.2.2.1,g.To.2.2.2.1.2.2.2.1,g.To.2.2.2.1.2.2.2.2,g.To.2.2.2.2.1,g.To.2.2.2.2.2.1,g.To.2.2.2.2.2.2.1,g.To.2.2.2.2.2.2.2.1,g.To.2.2.2.2.2.2.2.2]=L at hto hL ⊢;have hmod:0≤g.zN.tmod 5∧g.zN.tmod 5<5:=⟨Int.tmod_nonneg _ hst.1,Int.tmod_lt_of_pos _ (by omega)⟩;have hN:1≤IntKind.wrap .i64 (1+(IntKind.wrap .i64 (Int.tmod g.zN 5)))∧IntKind.wrap .i64 (1+(IntKind.wrap .i64 (Int.tmod g.zN 5)))≤5:=by
  rw [Qm0 (x:=g.zN.tmod 5) (by omega) (by omega),Qm0 (by omega) (by omega)];omega
 generalize IntKind.wrap .i64 (1+(IntKind.wrap .i64 (Int.tmod g.zN 5)))=N at hN ⊢;have hloop:=Qgf (F:=(fun (k15:Int×List Int×List Int×List Qc×Int×List Int×List Qc→Option (List Int×List Int×List Qc×Int×List Int×List Qc)) ((i8,c9,c10,c11,a12,a13,a14):Int×(List Int)×(List Int)×(List Qc)×Int×(List Int)×(List Qc))=>(if (i8<a12) then ((((((shrO .u8 g.Marks i8).bind fun s17=>(if ((andI .u8 s17 1)==1) then ((appO a13 [i8]).bind fun x20=>some x20) else some a13))).bind fun (a22:List Int)=>Qcm (fun k25 ((k23,a24):Int×(List Qc))=>(((if (k23<(al.length:Int)) then some (decide (k23<5)) else some false)).bind fun (x27:Bool)=>(if x27 then ((((inO 5 i8).bind fun _=>((inO 5 k23).bind fun _=>((rowO L (Int.toNat i8*5+Int.toNat k23*1)).bind fun x31=>((remO .i64 (IntKind.wrap .i64 x31) (IntKind.wrap .i64 (a12+2))).bind fun s33=>(if (s33<a12) then ((getO al k23).bind fun x36=>((appO a24 [(Qc.mk i8 x36 s33)]).bind fun x38=>some x38)) else some a24)))))).bind fun (a40:List Qc)=>k25 ((IntKind.wrap .i64 (k23+1)),a40)) else some (a22,a24)))) fuel (0,a14))).bind fun ((a41,a42):(List Int)×(List Qc))=>k15 ((IntKind.wrap .i64 (i8+1)),c9,c10,c11,a12,a41,a42)) else some (c9,c10,c11,a12,a13,a14))))
  (fun x=>∃ (i:Nat) (ms:List Int) (es:List Qc),x=((i:Int),[],[],[],N,ms,es)∧(i:Int)≤N∧Mks i ms∧Eds al N i 0 es) (fun x=>(N-x.1).toNat)
  (fun _ r=>∃ (i:Nat) (ms:List Int) (es:List Qc),r=some ([],[],[],N,ms,es)∧(i:Int)=N∧Mks i ms∧Eds al N i 0 es) (by
   rintro k _ ⟨i,ms,es,rfl,hi,hm,he⟩ ih;dsimp only;by_cases hlt:(i:Int)<N
   ·rw [if_pos hlt,show shrO .u8 g.Marks (i:Int)=some (g.Marks.fdiv (2 ^ (min (Int.toNat (i:Int)) (IntKind.bits .u8)))) from by unfold shrO;rw [if_neg (by omega)]];simp only [Option.bind_some];have hml:=hm.len;by_cases hb:(andI .u8 (g.Marks.fdiv (2 ^ (min (Int.toNat (i:Int)) (IntKind.bits .u8)))) 1==1)=true
    ·rw [if_pos hb,Qby (by simp only [List.length_cons,List.length_nil];unfold lim;omega)];simp only [Option.bind_some];obtain ⟨es',h1,h2⟩:=Qbjz hal fuel hge hL hto hN hlt (ms:=ms++[(i:Int)]) he;rw [h2];simp only [Option.bind_some];rw [Qcn (by omega)];exact ih _ ⟨i+1,_,_,rfl,by omega,hm.add,h1⟩ (by simp only;omega)
    ·rw [if_neg hb];simp only [Option.bind_some];obtain ⟨es',h1,h2⟩:=Qbjz hal fuel hge hL hto hN hlt (ms:=ms) he;rw [h2];simp only [Option.bind_some];rw [Qcn (by omega)];exact ih _ ⟨i+1,_,_,rfl,by omega,hm.up,h1⟩ (by simp only;omega)
   ·rw [if_neg hlt];exact ⟨i,ms,es,rfl,by omega,hm,he⟩) fuel (0,[],[],[],N,[],[]) ⟨0,[],[],rfl,by omega,⟨by simp,.nil⟩,⟨by simp,.nil,by simp⟩⟩ (by simp only;omega)
 obtain ⟨i,ms,es,h1,h2,h3,h4⟩:=hloop;rw [h1];simp only [Option.bind_some];have hr:Right ⟨al,N,ms,es⟩:=⟨fun x hx=>by have:=hal.rg x hx;omega,hal.so,⟨by simp only;omega,by simp only;omega⟩,fun x hx=>by have:=h3.rg x hx;simp only;omega,h3.so,fun x hx=>by
  obtain ⟨k1,k2,k3,k4,k5⟩:=h4.rg x hx;refine ⟨k1,?_,k2,k3,k4⟩;rcases k5 with k5|⟨_,j,k6,_⟩
  ·simp only;omega
  ·omega,h4.so⟩
 rw [Qbdo hr];exact ⟨_,hr,rfl,rfl,by simp only;omega⟩
end Go.Abs
end
section
namespace Go.Abs
open Go
theorem Qbj0 {α β:Type} {o:Option α} {K:α→Option β} {r:Option β} {P:α→Prop} (h:∃ v,o=some v∧P v) (hk:∀ v,P v→K v=r):o.bind K=r:=by
 obtain ⟨v,rfl,hv⟩:=h;exact hk v hv
def upto (n:Int):List Int:=(List.range n.toNat).map fun (i:Nat)=>(i:Int)
theorem Qi0 {n x:Int}:x∈upto n↔0≤x∧x<n:=by
 simp only [upto,List.mem_map,List.mem_range];constructor
 ·rintro ⟨i,hi,rfl⟩;omega
 ·rintro ⟨h1,h2⟩;exact ⟨x.toNat,by omega,by omega⟩
theorem Qur (n:Int):(upto n).Pairwise (· < ·):=by
 unfold upto;rw [List.pairwise_map];exact List.pairwise_lt_range.imp fun h=>by omega
theorem Qbr (n:Int):(upto n).length=n.toNat:=by simp [upto]
theorem Qj6 {n:Int} {i:Nat} (h:i<(upto n).length):(upto n)[i]=(i:Int):=by simp [upto]
theorem Qeh {X S R α:Type} {F:(X→Option R)→X→Option R} {fuel:Nat} {l:List α} (mk:Int→S→X) (stp:S→α→S) (I:Nat→S→Prop) (K:S→Option R) (hl:l.length<big) (hf:1099511627776≤fuel)
  (step:∀ (k:X→Option R) (n:Nat) (s:S) (h:n<l.length),I n s→F k (mk n s)=k (mk (IntKind.wrap .i64 ((n:Int)+1)) (stp s l[n])))
  (keep:∀ (n:Nat) (s:S) (h:n<l.length),I n s→I (n+1) (stp s l[n]))
  (last:∀ (k:X→Option R) (s:S),I l.length s→F k (mk l.length s)=K s) {s0:S} (h0:I 0 s0):Qcm F fuel (mk 0 s0)=K (l.foldl stp s0):=by
 have hb:l.length<1000000000000:=hl;have:=Qm1 (F:=F) (len:=l.length) (fun n s=>mk n s) I (fun n s=>K ((l.drop n).foldl stp s)) (fun k n s hn hi ih=>by
  rw [step k n s hn hi,Qcn (by omega),ih _ (keep n s hn hi),List.drop_eq_getElem_cons hn,List.foldl_cons]) (fun k s hi=>by rw [last k s hi];simp) fuel 0 s0 (Nat.zero_le _) (by omega) h0
 simpa using this
theorem Qbb0 {S α:Type} {l:List α} {stp:S→α→S} {I:Nat→S→Prop} (keep:∀ (n:Nat) (s:S) (h:n<l.length),I n s→I (n+1) (stp s l[n])) {s0:S} (h0:I 0 s0):I l.length (l.foldl stp s0):=by
 have:∀ (m n:Nat) (s:S),n+m=l.length→I n s→I l.length ((l.drop n).foldl stp s):=by
  intro m
  induction m with
  | zero =>
   intro n s hn hi;obtain rfl:n=l.length:=by omega
   simpa using hi
  | succ m ih =>
   intro n s hn hi;have hlt:n<l.length:=by omega
   rw [List.drop_eq_getElem_cons hlt,List.foldl_cons];exact ih (n+1) _ (by omega) (keep n s hlt hi)
 simpa using this l.length 0 s0 (by omega) h0
theorem Qbnj {X R α:Type} {F:(X→Option R)→X→Option R} {fuel:Nat} {l:List α} (mk:Int→X) (p:α→Bool) (hit:α→Option R) (K:Option R) (hl:l.length<big) (hf:1099511627776≤fuel)
  (step:∀ (k:X→Option R) (n:Nat) (h:n<l.length),F k (mk n)=if p l[n] then hit l[n] else k (mk (IntKind.wrap .i64 ((n:Int)+1))))
  (last:∀ (k:X→Option R),F k (mk l.length)=K):Qcm F fuel (mk 0)=match l.find? p with|some x=>hit x|none=>K:=by
 have hb:l.length<1000000000000:=hl;have:=Qm1 (F:=F) (len:=l.length) (fun n (_:Unit)=>mk n) (fun _ _=>True) (fun n _=>match (l.drop n).find? p with|some x=>hit x|none=>K) (fun k n s hn hi ih=>by
  rw [step k n hn,Qcn (by omega),ih () trivial,List.drop_eq_getElem_cons hn,List.find?_cons];cases p l[n]<;>simp) (fun k s hi=>by rw [last k];simp) fuel 0 () (Nat.zero_le _) (by omega) trivial
 simpa using this
def at0 {α:Type} (d:α) (l:List α) (x:Int):α:=l.getD x.toNat d
abbrev lf (L:List Bool) (x:Int):Bool:=at0 false L x
abbrev ati (l:List Int) (x:Int):Int:=at0 0 l x
theorem Qm3 {α:Type} {d:α} {l:List α} {x:Int} (h0:0≤x) (h1:x<l.length):getO l x=some (at0 d l x):=by
 have h:x.toNat<l.length:=by omega
 unfold getO at0;rw [if_pos h0,List.getD_eq_getElem?_getD,List.getElem?_eq_getElem h];rfl
theorem Qks {α:Type} {l:List α} {x:Int} {y:α} (h0:0≤x) (h1:x<l.length):setO l x y=some (l.set x.toNat y):=by
 unfold setO;rw [if_pos ⟨h0,by omega⟩]
theorem Qkv {n:Nat} {x:Int} (h0:0≤x) (h1:x<n):inO n x=some ():=by
 unfold inO;rw [if_pos ⟨h0,h1⟩]
theorem Q0w {α:Type} {l:List α} {n:Nat} (h:l.length=n):lenO l n=some ():=by
 unfold lenO;rw [if_pos h]
theorem Qbj1 {α:Type} {d:α} {l:List α} {x y:Int} {v:α} (hx:0≤x∧x<l.length) (hy:0≤y):at0 d (l.set x.toNat v) y=if y=x then v else at0 d l y:=by
 unfold at0;simp only [List.getD_eq_getElem?_getD,List.getElem?_set];by_cases h:y=x
 ·subst h;rw [if_pos rfl,if_pos (by omega),if_pos rfl];rfl
 ·rw [if_neg (by omega),if_neg h]
theorem Q8l {l:List Int} {x y v:Int} (hx:0≤x∧x<l.length) (hy:0≤y):ati (l.set x.toNat v) y=if y=x then v else ati l y:=Qbj1 hx hy
theorem Qbry {l:List Bool} {x y:Int} {v:Bool} (hx:0≤x∧x<l.length) (hy:0≤y):lf (l.set x.toNat v) y=if y=x then v else lf l y:=Qbj1 hx hy
theorem Qbrz {α β:Type} {d:α} {e:β} {f:α→β} {l:List α} {x:Int} (h0:0≤x) (h1:x<l.length):at0 e (l.map f) x=f (at0 d l x):=by
 have h:x.toNat<l.length:=by omega
 unfold at0;simp [List.getD_eq_getElem?_getD,h]
theorem Qbhn {α:Type} {d:α} {v:α} {n:Nat} {x:Int} (h0:0≤x) (h1:x<n):at0 d (List.replicate n v) x=v:=by
 have h:x.toNat<n:=by omega
 unfold at0;simp [List.getD_eq_getElem?_getD,h]
theorem Qo1 {α:Type} {d:α} {f:Int→α} {n x:Int} (h0:0≤x) (h1:x<n):at0 d ((upto n).map f) x=f x:=by
 have h:x.toNat<n.toNat:=by omega
 unfold at0 upto;simp only [List.map_map,List.getD_eq_getElem?_getD,List.getElem?_map,List.getElem?_range h,Option.map_some,Option.getD_some,Function.comp];congr 1;omega
theorem Qbpo {α:Type} {d:α} {l:List α} {n:Nat} (h:n<l.length):at0 d l (n:Int)=l[n]:=by
 unfold at0;simp [List.getD_eq_getElem?_getD,h]
theorem Qbdq {α:Type} {d:α} {l m:List α} (hl:l.length=m.length) (h:∀ x:Int,0≤x→x<l.length→at0 d l x=at0 d m x):l=m:=by
 apply List.ext_getElem hl;intro i h1 h2;have:=h i (by omega) (by omega)
 rwa [Qbpo h1,Qbpo h2] at this
theorem Q92 {α:Type} {f:Int→α} {n:Int} {l:List α} (hl:l.length=n.toNat):(upto n).foldl (fun c i=>c.set i.toNat (f i)) l=(upto n).map f:=by
 have key:∀ (m:Nat),m≤n.toNat→((upto n).take m).foldl (fun c i=>c.set i.toNat (f i)) l=((upto n).take m).map f++l.drop m:=by
  intro m
  induction m with
  | zero=>intro _;simp
  | succ m ih =>
   intro hm;have h1:m<(upto n).length:=by rw [Qbr];omega
   rw [List.take_succ_eq_append_getElem h1,List.foldl_append,ih (by omega),List.foldl_cons,List.foldl_nil,List.map_append,Qj6 h1];simp only [Int.toNat_natCast,List.map_cons,List.map_nil];have h2:(((upto n).take m).map f).length=m:=by rw [List.length_map,List.length_take,Qbr];omega
   rw [List.set_append_right _ _ (by omega),h2,Nat.sub_self];have h3:m<l.length:=by omega
   rw [List.drop_eq_getElem_cons h3,List.set_cons_zero,List.append_assoc,List.singleton_append]
 have:=key n.toNat (Nat.le_refl _);rw [List.take_of_length_le (by rw [Qbr];omega)] at this;rw [this,List.drop_of_length_le (by omega),List.append_nil]
theorem Qbf7 {α β:Type} {f:β→Nat} {g:β→α}:∀ {l:List β} {c:List α},(l.foldl (fun c x=>c.set (f x) (g x)) c).length=c.length
 | [],c=>rfl
 | x::l,c=>by rw [List.foldl_cons,Qbf7 (l:=l),List.length_set]
end Go.Abs
end
section
namespace Go.Abs
open Go
theorem Qbkx:Qit=some true:=by kernel_rfl
end Go.Abs
end
