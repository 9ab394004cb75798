/-
  Part 5 of the proof: see the last text.
-/
import Derived.Test.YtjoeogboieenlaaGreatDoorP4
set_option linter.unusedVariables false
set_option linter.unusedSimpArgs false
set_option linter.unusedSectionVars false
namespace Go.Abs
open Go
set_option maxRecDepth 10000
set_option maxHeartbeats 4000000
theorem Q0j {P:Program} {c:Nat} (hcf:Qq P c=some Qjp):Qjo P c (Qco):=by
 intro forcible1 r h
 refine Qc6 hcf rfl fun Γ M hP hnt hM=>?_
 subst hP
 refine Tr.init [(0,(l_ forcible1))] rfl ?_
 unfold Qco at h
 unfold Qjp
 refine sr ((Rn.alloc tv rfl (nt ((sr ((Rn.bslice (xs:=[(i_ 0),(i_ 2)]) (cs:=[(i_ 0),(i_ 2)]) tv rfl rfl rfl rfl (Rn.bslice (xs:=[(i_ 0)]) (cs:=[(i_ 0)]) tv rfl rfl rfl rfl (Rn.build (v:=.agg [(i_ 0),(i_ 0),(i_ 0)]) tv rfl (Rn.build (v:=.agg [(i_ 0),(i_ 2),(i_ 1)]) tv rfl (Rn.bslice (xs:=[.agg [(i_ 0),(i_ 0),(i_ 0)],.agg [(i_ 0),(i_ 2),(i_ 1)]]) (cs:=[(i_ 0),(i_ 0),(i_ 0),(i_ 0),(i_ 2),(i_ 1)]) tv rfl rfl rfl rfl (Rn.buildT (v:=.agg [.sl 1 (Γ.n0+3) 0 2 2,(i_ 2),.sl 1 (Γ.n0+4) 0 1 1,.sl 3 (Γ.n0+7) 0 2 2]) tv rfl (Rn.bslice (xs:=[(i_ 1)]) (cs:=[(i_ 1)]) tv rfl rfl rfl rfl (md rfl (Rn.buildT (v:=.agg [.sl 1 (Γ.n0+3) 0 2 2,(i_ 2),.sl 1 (Γ.n0+4) 0 1 1,.sl 3 (Γ.n0+7) 0 2 2,.sl 1 (Γ.n0+9) 0 1 1,.nils 1,(l_ forcible1),(i_ 2)]) tv rfl (Rn.storeT (v:=.agg [.sl 1 (Γ.n0+3) 0 2 2,(i_ 2),.sl 1 (Γ.n0+4) 0 1 1,.sl 3 (Γ.n0+7) 0 2 2,.sl 1 (Γ.n0+9) 0 1 1,.nils 1,(l_ forcible1),(i_ 2)]) (ds:=[.sl 1 (Γ.n0+3) 0 2 2,(i_ 2),.sl 1 (Γ.n0+4) 0 1 1,.sl 3 (Γ.n0+7) 0 2 2,.sl 1 (Γ.n0+9) 0 1 1,.nils 1,(l_ forcible1),(i_ 2)]) (cs':=[.sl 1 (Γ.n0+3) 0 2 2,(i_ 2),.sl 1 (Γ.n0+4) 0 1 1,.sl 3 (Γ.n0+7) 0 2 2,.sl 1 (Γ.n0+9) 0 1 1,.nils 1,(l_ forcible1),(i_ 2)]) tv rfl rfl rfl rfl rfl rfl rfl (Rn.nil (toN ?_))))))))))))))))))
 refine Tr.weak (by show WeakSt Γ _ ⟨look [(0,(l_ forcible1)),(2,.ptr (Γ.n0+2) 0),(3,(l_ [0,2])),(4,.sl 1 (Γ.n0+4) 0 1 1),(5,.agg [(i_ 0),(i_ 0),(i_ 0)]),(6,.agg [(i_ 0),(i_ 2),(i_ 1)]),(7,.sl 3 (Γ.n0+7) 0 2 2),(8,.agg [(l_ [0,2]),(i_ 2),.sl 1 (Γ.n0+4) 0 1 1,.sl 3 (Γ.n0+7) 0 2 2]),(9,.sl 1 (Γ.n0+9) 0 1 1),(10,(l_ forcible1)),(11,.agg [(l_ [0,2]),(i_ 2),.sl 1 (Γ.n0+4) 0 1 1,.sl 3 (Γ.n0+7) 0 2 2,.sl 1 (Γ.n0+9) 0 1 1,.nils 1,(l_ forcible1),(i_ 2)])],Qm Γ.n0 (bxs [(2,.cells ([(l_ [0,2]),(i_ 2),.sl 1 (Γ.n0+4) 0 1 1,.sl 3 (Γ.n0+7) 0 2 2,.sl 1 (Γ.n0+9) 0 1 1,.nils 1,(l_ forcible1),(i_ 2)])),(4,.cells ([(i_ 0)])),(7,.cells ([(i_ 0),(i_ 0),(i_ 0),(i_ 0),(i_ 2),(i_ 1)])),(9,.cells ([(i_ 1)]))]) M,Γ.n0+12⟩; exact Qeb 3 [.int .i64 0,.int .i64 2] rfl rfl ⟨(.same rfl),(fPtr rfl),(fSl rfl rfl),(fSlO rfl),(.same rfl),(.same rfl),(fSlO rfl),(WkV.agg (.cons (fSl rfl rfl) (.cons (.same rfl) (.cons (fSlO rfl) (.cons (fSlO rfl) .nil))))),(fSlO rfl),(.same rfl),(WkV.agg (.cons (fSl rfl rfl) (.cons (.same rfl) (.cons (fSlO rfl) (.cons (fSlO rfl) (.cons (fSlO rfl) (.cons (.same rfl) (.cons (.same rfl) (.cons (.same rfl) .nil))))))))),tv⟩ ⟨⟨_,rfl,rfl,(.cons (fSl rfl rfl) (.cons (.same rfl) (.cons (fSlO rfl) (.cons (fSlO rfl) (.cons (fSlO rfl) (.cons (.same rfl) (.cons (.same rfl) (.cons (.same rfl) .nil))))))))⟩,bS rfl rfl rfl,bS rfl rfl rfl,bS rfl rfl rfl,tv⟩ rfl) ?_
 refine Tr.weak (by show WeakSt Γ _ ⟨look [(0,(l_ forcible1)),(2,.ptr (Γ.n0+2) 0),(3,(l_ [0,2])),(4,(l_ [0])),(5,.agg [(i_ 0),(i_ 0),(i_ 0)]),(6,.agg [(i_ 0),(i_ 2),(i_ 1)]),(7,.sl 3 (Γ.n0+7) 0 2 2),(8,.agg [(l_ [0,2]),(i_ 2),(l_ [0]),.sl 3 (Γ.n0+7) 0 2 2]),(9,.sl 1 (Γ.n0+9) 0 1 1),(10,(l_ forcible1)),(11,.agg [(l_ [0,2]),(i_ 2),(l_ [0]),.sl 3 (Γ.n0+7) 0 2 2,.sl 1 (Γ.n0+9) 0 1 1,.nils 1,(l_ forcible1),(i_ 2)])],Qm Γ.n0 (bxs [(2,.cells ([(l_ [0,2]),(i_ 2),(l_ [0]),.sl 3 (Γ.n0+7) 0 2 2,.sl 1 (Γ.n0+9) 0 1 1,.nils 1,(l_ forcible1),(i_ 2)])),(7,.cells ([(i_ 0),(i_ 0),(i_ 0),(i_ 0),(i_ 2),(i_ 1)])),(9,.cells ([(i_ 1)]))]) M,Γ.n0+12⟩; exact Qeb 4 [.int .i64 0] rfl rfl ⟨(.same rfl),(fPtr rfl),(.same rfl),(fSl rfl rfl),(.same rfl),(.same rfl),(fSlO rfl),(WkV.agg (.cons (.same rfl) (.cons (.same rfl) (.cons (fSl rfl rfl) (.cons (fSlO rfl) .nil))))),(fSlO rfl),(.same rfl),(WkV.agg (.cons (.same rfl) (.cons (.same rfl) (.cons (fSl rfl rfl) (.cons (fSlO rfl) (.cons (fSlO rfl) (.cons (.same rfl) (.cons (.same rfl) (.cons (.same rfl) .nil))))))))),tv⟩ ⟨⟨_,rfl,rfl,(.cons (.same rfl) (.cons (.same rfl) (.cons (fSl rfl rfl) (.cons (fSlO rfl) (.cons (fSlO rfl) (.cons (.same rfl) (.cons (.same rfl) (.cons (.same rfl) .nil))))))))⟩,bS rfl rfl rfl,bS rfl rfl rfl,tv⟩ rfl) ?_
 refine Tr.weak (by show WeakSt Γ _ ⟨look [(0,(l_ forcible1)),(2,.ptr (Γ.n0+2) 0),(3,(l_ [0,2])),(4,(l_ [0])),(5,.agg [(i_ 0),(i_ 0),(i_ 0)]),(6,.agg [(i_ 0),(i_ 2),(i_ 1)]),(7,.d (.lst 3 (List.map Qv [(Qc.mk 0 0 0),(Qc.mk 0 2 1)]))),(8,.agg [(l_ [0,2]),(i_ 2),(l_ [0]),.d (.lst 3 (List.map Qv [(Qc.mk 0 0 0),(Qc.mk 0 2 1)]))]),(9,.sl 1 (Γ.n0+9) 0 1 1),(10,(l_ forcible1)),(11,.agg [(l_ [0,2]),(i_ 2),(l_ [0]),.d (.lst 3 (List.map Qv [(Qc.mk 0 0 0),(Qc.mk 0 2 1)])),.sl 1 (Γ.n0+9) 0 1 1,.nils 1,(l_ forcible1),(i_ 2)])],Qm Γ.n0 (bxs [(2,.cells ([(l_ [0,2]),(i_ 2),(l_ [0]),.d (.lst 3 (List.map Qv [(Qc.mk 0 0 0),(Qc.mk 0 2 1)])),.sl 1 (Γ.n0+9) 0 1 1,.nils 1,(l_ forcible1),(i_ 2)])),(9,.cells ([(i_ 1)]))]) M,Γ.n0+12⟩; exact Qeb 7 [.int .i64 0,.int .i64 0,.int .i64 0,.int .i64 0,.int .i64 2,.int .i64 1] rfl rfl ⟨(.same rfl),(fPtr rfl),(.same rfl),(.same rfl),(.same rfl),(.same rfl),(fSl rfl rfl),(WkV.agg (.cons (.same rfl) (.cons (.same rfl) (.cons (.same rfl) (.cons (fSl rfl rfl) .nil))))),(fSlO rfl),(.same rfl),(WkV.agg (.cons (.same rfl) (.cons (.same rfl) (.cons (.same rfl) (.cons (fSl rfl rfl) (.cons (fSlO rfl) (.cons (.same rfl) (.cons (.same rfl) (.cons (.same rfl) .nil))))))))),tv⟩ ⟨⟨_,rfl,rfl,(.cons (.same rfl) (.cons (.same rfl) (.cons (.same rfl) (.cons (fSl rfl rfl) (.cons (fSlO rfl) (.cons (.same rfl) (.cons (.same rfl) (.cons (.same rfl) .nil))))))))⟩,bS rfl rfl rfl,tv⟩ rfl) ?_
 refine Tr.weak (by show WeakSt Γ _ ⟨look [(0,(l_ forcible1)),(2,.ptr (Γ.n0+2) 0),(3,(l_ [0,2])),(4,(l_ [0])),(5,.agg [(i_ 0),(i_ 0),(i_ 0)]),(6,.agg [(i_ 0),(i_ 2),(i_ 1)]),(7,.d (.lst 3 (List.map Qv [(Qc.mk 0 0 0),(Qc.mk 0 2 1)]))),(8,.agg [(l_ [0,2]),(i_ 2),(l_ [0]),.d (.lst 3 (List.map Qv [(Qc.mk 0 0 0),(Qc.mk 0 2 1)]))]),(9,(l_ [1])),(10,(l_ forcible1)),(11,.agg [(l_ [0,2]),(i_ 2),(l_ [0]),.d (.lst 3 (List.map Qv [(Qc.mk 0 0 0),(Qc.mk 0 2 1)])),(l_ [1]),.nils 1,(l_ forcible1),(i_ 2)])],Qm Γ.n0 (bxs [(2,.cells ([(l_ [0,2]),(i_ 2),(l_ [0]),.d (.lst 3 (List.map Qv [(Qc.mk 0 0 0),(Qc.mk 0 2 1)])),(l_ [1]),.nils 1,(l_ forcible1),(i_ 2)]))]) M,Γ.n0+12⟩; exact Qeb 9 [.int .i64 1] rfl rfl ⟨(.same rfl),(fPtr rfl),(.same rfl),(.same rfl),(.same rfl),(.same rfl),(.same rfl),(.same rfl),(fSl rfl rfl),(.same rfl),(WkV.agg (.cons (.same rfl) (.cons (.same rfl) (.cons (.same rfl) (.cons (.same rfl) (.cons (fSl rfl rfl) (.cons (.same rfl) (.cons (.same rfl) (.cons (.same rfl) .nil))))))))),tv⟩ ⟨⟨_,rfl,rfl,(.cons (.same rfl) (.cons (.same rfl) (.cons (.same rfl) (.cons (.same rfl) (.cons (fSl rfl rfl) (.cons (.same rfl) (.cons (.same rfl) (.cons (.same rfl) .nil))))))))⟩,tv⟩ rfl) ?_
 refine Tr.ret ?_
 replace h:=si h; subst h
 exact ⟨.inr rfl,(.agg [(l_ [0,2]),(i_ 2),(l_ [0]),.d (.lst 3 (List.map Qv [(Qc.mk 0 0 0),(Qc.mk 0 2 1)])),(l_ [1]),.nils 1,(l_ forcible1),(i_ 2)]),Qfh rfl rfl rfl rfl,fun _ _ _ _ h=>h,⟨tv,tv,tv,tv,tv,tv,tv,tv,tv⟩,mB⟩
theorem Q2e {P:Program} {c:Nat} (hcf:Qq P c=some Qkd) (fuel:Nat):Qkc P c (Qck fuel):=by
 intro l1 n2 r h
 refine Qc6 hcf rfl fun Γ M hP hnt hM=>?_
 subst hP
 refine Tr.init [(0,(l_ l1)),(1,(i_ n2))] rfl ?_
 unfold Qck at h
 unfold Qkd
 refine sr ((md rfl (nt ((Tr.seq (sr ((md rfl (Rn.lenD tv rfl (md rfl (nt ((Tr.block ?_)))))))))))))
 refine Tr.loop (mk:=fun (x3:Int)=>⟨look [(0,(l_ l1)),(1,(i_ n2)),(7,(l_ l1)),(8,(i_ (l1.length:Int))),(9,(i_ x3))],Qm Γ.n0 (bxs []) M,Γ.n0+35⟩) h (by exact Qj ⟨(sm rfl),(sm rfl),(sm rfl),(sm rfl),(sm rfl),tv⟩ tv rfl) (fun k4 z h=>?_)
 ·obtain ⟨x3,rfl⟩ : ∃ x,x=z:=⟨_,rfl⟩
  replace h:_=some _:=h
  refine sr ((Rn.bin tv rfl rfl rfl (nt ((Tr.seq ?_)))))
  refine Tr.cond rfl (fun hb5=>?_) (fun hb5=>?_)
  ·replace h:=ifT hb5 h
   refine Tr.skip (toN (Tr.seq (Tr.block (sr ((md rfl ?_))))))
   obtain ⟨x6,h7,h⟩:=bnd h
   refine Rn.idxD (e:=(eI .i64)) tv rfl rfl h7 (Rn.loadC (x:=.int .i64 x6) tv rfl (md rfl (md rfl (nt ((Tr.block ?_))))))
   refine Tr.cutB (fun (x9:Bool)=>⟨look [(0,(l_ l1)),(1,(i_ n2)),(5,(i_ x3)),(6,(i_ x6)),(7,(l_ l1)),(8,(i_ (l1.length:Int))),(9,(i_ x3)),(14,(b_ x9))],Qm Γ.n0 (bxs []) M,Γ.n0+35⟩) h (fun z h=>?_) (fun z h=>?_)
   ·refine Tr.rgn (md rfl (Rn.bin tv rfl rfl rfl (md rfl ?_)))
    refine Qbz (decide (x6 < 0)) (fun hb8=>?_) (fun hb8=>?_)
    ·replace h:=ifT hb8 h
     refine Rn.sk (nw rfl hb8) (Rn.sk (nw rfl hb8) (Rn.sk (nw rfl hb8) (Rn.pickT (v:=(b_ true)) tv rfl hb8 rfl (md rfl (Rn.nil ?_)))))
     replace h:=si h; subst h
     exact Qg [] ⟨(sm rfl),(sm rfl),(sm rfl),(sm rfl),(sm rfl),(sm rfl),(sm rfl),(sm rfl),tv⟩ tv rfl
    ·replace h:=ifF hb8 h
     refine Rn.movD (gw rfl hb8) rfl (Rn.movD (gw rfl hb8) rfl (Rn.bin (gw rfl hb8) rfl rfl rfl (Rn.pickF (v:=(b_ (decide (x6≥n2)))) tv rfl hb8 rfl (md rfl (Rn.nil ?_)))))
     replace h:=si h; subst h
     exact Qg [] ⟨(sm rfl),(sm rfl),(sm rfl),(sm rfl),(sm rfl),(sm rfl),(sm rfl),(sm rfl),tv⟩ tv rfl
   ·obtain ⟨x9,rfl⟩ : ∃ x,x=z:=⟨_,rfl⟩
    refine Tr.cond rfl (fun hb10=>?_) (fun hb10=>?_)
    ·replace h:=bT hb10 h
     refine sr ((md rfl (nt ((Tr.ret ?_)))))
     replace h:=si h; subst h
     exact ⟨.inr rfl,(i_ 2),rfl,fun _ _ _ _ h=>h,tv,mB⟩
    ·replace h:=bF hb10 h
     refine Tr.cutB (fun (x14:Bool)=>⟨look [(0,(l_ l1)),(1,(i_ n2)),(7,(l_ l1)),(8,(i_ (l1.length:Int))),(9,(i_ x3)),(22,(b_ x14))],Qm Γ.n0 (bxs []) M,Γ.n0+35⟩) h (fun z h=>?_) (fun z h=>?_)
     ·refine Tr.rgn (md rfl (Rn.bin tv rfl rfl rfl (md rfl ?_)))
      refine Qbz (decide (x3 > 0)) (fun hb11=>?_) (fun hb11=>?_)
      ·replace h:=ifT hb11 h
       refine Rn.movD (gw rfl hb11) rfl (Rn.movD (gw rfl hb11) rfl (Rn.movD (gw rfl hb11) rfl (Rn.bin (gw rfl hb11) rfl rfl rfl ?_)))
       obtain ⟨x12,h13,h⟩:=bnd h
       refine Rn.idxD (e:=(eI .i64)) (gw rfl hb11) rfl rfl h13 (Rn.loadC (x:=.int .i64 x12) (gw rfl hb11) rfl (Rn.bin (gw rfl hb11) rfl rfl rfl (Rn.pickT (v:=(b_ (decide (x6≤x12)))) tv rfl hb11 rfl (md rfl (Rn.nil ?_)))))
       replace h:=si h; subst h
       exact Qg [] ⟨(sm rfl),(sm rfl),(sm rfl),(sm rfl),(sm rfl),(sm rfl),tv⟩ tv rfl
      ·replace h:=ifF hb11 h
       refine Rn.sk (nw rfl hb11) (Rn.sk (nw rfl hb11) (Rn.sk (nw rfl hb11) (Rn.sk (nw rfl hb11) (Rn.sk (nw rfl hb11) (Rn.sk (nw rfl hb11) (Rn.sk (nw rfl hb11) (Rn.pickF (v:=(b_ false)) tv rfl hb11 rfl (md rfl (Rn.nil ?_)))))))))
       replace h:=si h; subst h
       exact Qg [] ⟨(sm rfl),(sm rfl),(sm rfl),(sm rfl),(sm rfl),(sm rfl),tv⟩ tv rfl
     ·obtain ⟨x14,rfl⟩ : ∃ x,x=z:=⟨_,rfl⟩
      refine Tr.cond rfl (fun hb15=>?_) (fun hb15=>?_)
      ·replace h:=bT hb15 h
       refine sr ((md rfl (nt ((Tr.ret ?_)))))
       replace h:=si h; subst h
       exact ⟨.inr rfl,(i_ 5),rfl,fun _ _ _ _ h=>h,tv,mB⟩
      ·replace h:=bF hb15 h
       refine Tr.skip (toN (Tr.rgn (Rn.bin tv rfl rfl rfl (md rfl (Rn.nil ?_)))))
       exact ⟨_,h,(by exact Qj ⟨(sm rfl),(sm rfl),(sm rfl),(sm rfl),(sm rfl),tv⟩ tv rfl)⟩
  ·replace h:=ifF hb5 h
   refine Tr.exit (toN (sr ((md rfl (nt ((Tr.ret ?_)))))))
   replace h:=si h; subst h
   exact ⟨.inr rfl,(i_ 0),rfl,fun _ _ _ _ h=>h,tv,mB⟩
theorem Q5z {P:Program} {c:Nat} (hcf:Qq P c=some Qmk) (fuel:Nat):Qmj P c (Qdc fuel):=by
 intro s1 v2 r h
 refine Qc6 hcf rfl fun Γ M hP hnt hM=>?_
 subst hP
 refine Tr.init [(0,(l_ s1)),(1,(i_ v2))] rfl ?_
 unfold Qdc at h
 unfold Qmk
 refine sr ((md rfl (nt ((Tr.seq (sr ((md rfl (Rn.lenD tv rfl (md rfl (nt ((Tr.block ?_)))))))))))))
 refine Tr.loop (mk:=fun (x3:Int)=>⟨look [(0,(l_ s1)),(1,(i_ v2)),(7,(i_ (s1.length:Int))),(8,(i_ x3))],Qm Γ.n0 (bxs []) M,Γ.n0+19⟩) h (by exact Qj ⟨(sm rfl),(sm rfl),(sm rfl),(sm rfl),tv⟩ tv rfl) (fun k4 z h=>?_)
 ·obtain ⟨x3,rfl⟩ : ∃ x,x=z:=⟨_,rfl⟩
  replace h:_=some _:=h
  refine sr ((Rn.bin tv rfl rfl rfl (nt ((Tr.seq ?_)))))
  refine Tr.cond rfl (fun hb5=>?_) (fun hb5=>?_)
  ·replace h:=ifT hb5 h
   refine Tr.skip (toN (Tr.seq (Tr.block (sr ((md rfl (md rfl (nt ((sr ((md rfl (md rfl (md rfl ?_))))))))))))))
   obtain ⟨x6,h7,h⟩:=bnd h
   refine Rn.idxD (e:=(eI .i64)) tv rfl rfl h7 (Rn.loadC (x:=.int .i64 x6) tv rfl (Rn.bin tv rfl rfl rfl (Rn.nil (toN ?_))))
   refine Tr.cond rfl (fun hb8=>?_) (fun hb8=>?_)
   ·replace h:=bT hb8 h
    refine sr ((md rfl (md rfl (nt ((Tr.ret ?_))))))
    replace h:=si h; subst h
    exact ⟨.inr rfl,(i_ x3),rfl,fun _ _ _ _ h=>h,tv,mB⟩
   ·replace h:=bF hb8 h
    refine Tr.skip (toN (Tr.rgn (Rn.bin tv rfl rfl rfl (md rfl (Rn.nil ?_)))))
    exact ⟨_,h,(by exact Qj ⟨(sm rfl),(sm rfl),(sm rfl),(sm rfl),tv⟩ tv rfl)⟩
  ·replace h:=ifF hb5 h
   refine Tr.exit (toN (sr ((md rfl (nt ((Tr.ret ?_)))))))
   replace h:=si h; subst h
   exact ⟨.inr rfl,(i_ (-1)),rfl,fun _ _ _ _ h=>h,tv,mB⟩
theorem Q0k {P:Program} {c:Nat} {Qdc:(List Int)→Int→Option Int}
    (H_slices_Index_int:Qmj P 66 Qdc) (hcf:Qq P c=some Qjq):Qgd P c (Q8 Qdc):=by
 intro s1 v2 r h
 refine Qc6 hcf rfl fun Γ M hP hnt hM=>?_
 subst hP
 refine Tr.init [(0,(l_ s1)),(1,(i_ v2))] rfl ?_
 unfold Q8 at h
 unfold Qjq
 refine sr ((md rfl (nt ((sr ((md rfl (md rfl ?_))))))))
 obtain ⟨x4,h3,h⟩:=bnd h
 refine Rn.call (args:=[(l_ s1),(i_ v2)]) tv rfl (H_slices_Index_int _ _ _ h3) pc9 (Rn.bin tv rfl rfl rfl (md rfl (nt ((Tr.ret ?_)))))
 replace h:=si h; subst h
 exact ⟨.inr rfl,(b_ (decide (x4≥0))),rfl,fun _ _ _ _ h=>h,tv,mB⟩
theorem Qxf {P:Program} {c:Nat} {Q8:(List Int)→Int→Option Bool}
    (H_slices_Contains_int:Qgd P 38 Q8) (hcf:Qq P c=some Qiq) (fuel:Nat):Qip P c (Qch Q8 fuel):=by
 intro a1 r h
 refine Qc6 hcf rfl fun Γ M hP hnt hM=>?_
 subst hP
 refine Tr.init [(0,(Qb a1))] rfl ?_
 unfold Qch at h
 unfold Qiq
 refine sr ((Rn.box (v:=(Qb a1)) (cs:=(Qd a1)) tv rfl rfl rfl rfl rfl (md rfl (nt ((Tr.seq (sr ((Rn.fldP (o':=3) tv rfl rfl (lB (v:=(Qe a1.zL)) rfl rfl rfl rfl (Rn.lenD tv rfl (md rfl (nt ((Tr.block ?_)))))))))))))))
 refine Tr.loop (mk:=fun (x2:Int)=>⟨look [(1,.ptr (Γ.n0+1) 0),(7,(Qe a1.zL)),(8,(i_ (a1.zL.length:Int))),(9,(i_ x2))],Qm Γ.n0 (bxs [(1,.cells ((Qd a1)))]) M,Γ.n0+72⟩) h (by exact Qj ⟨(kPtr rfl),(sm rfl),(sm rfl),(sm rfl),tv⟩ ⟨bS rfl rfl rfl,tv⟩ rfl) (fun k3 z h=>?_)
 ·obtain ⟨x2,rfl⟩ : ∃ x,x=z:=⟨_,rfl⟩
  replace h:_=some _:=h
  refine sr ((Rn.bin tv rfl rfl rfl (nt ((Tr.seq ?_)))))
  refine Tr.cond rfl (fun hb4=>?_) (fun hb4=>?_)
  ·replace h:=ifT hb4 h
   refine Tr.skip (toN ?_)
   refine Tr.cutJ (fun ((c22,c23,c24):Int×Int×Int)=>⟨look [(1,.ptr (Γ.n0+1) 0),(7,(Qe a1.zL)),(8,(i_ (a1.zL.length:Int))),(9,(i_ x2))],Qm Γ.n0 (bxs [(1,.cells ((Qd a1))),(4,.cells ([(i_ c22),(i_ c23),(i_ c24)]))]) M,Γ.n0+72⟩) h (fun J25 h=>?_) (fun z h=>?_)
   ·refine Tr.block (sr ((md rfl ?_)))
    obtain ⟨x5,h6,h⟩:=bnd h
    refine Rn.idxD (e:=Qv) tv rfl rfl h6 (Rn.loadCA (vs:=(Qbe x5)) tv rfl rfl rfl (Rn.alloc tv rfl (md rfl (Rn.store (v:=(Qbh x5)) (cs':=(Qbe x5)) tv rfl rfl rfl rfl rfl rfl (nt ((Tr.seq (Tr.block ?_))))))))
    refine Tr.cutB (fun (x10:Bool)=>⟨look [(1,.ptr (Γ.n0+1) 0),(3,(i_ x2)),(4,.ptr (Γ.n0+4) 0),(7,(Qe a1.zL)),(8,(i_ (a1.zL.length:Int))),(9,(i_ x2)),(14,(b_ x10))],Qm Γ.n0 (bxs [(1,.cells ((Qd a1))),(4,.cells ((Qbe x5)))]) M,Γ.n0+72⟩) h (fun z h=>?_) (fun z h=>?_)
    ·refine Tr.rgn (Rn.fldP (o':=0) tv rfl rfl (lB (v:=(i_ x5.From)) rfl rfl rfl rfl (Rn.bin tv rfl rfl rfl (md rfl ?_))))
     refine Qbz (decide (x5.From < 0)) (fun hb7=>?_) (fun hb7=>?_)
     ·replace h:=ifT hb7 h
      refine Rn.sk (nw rfl hb7) (Rn.sk (nw rfl hb7) (Rn.sk (nw rfl hb7) (Rn.sk (nw rfl hb7) (Rn.sk (nw rfl hb7) (Rn.pickT (v:=(b_ true)) tv rfl hb7 rfl (md rfl (sT rfl rfl (sT rfl rfl (sT rfl rfl (Rn.pickT (v:=(b_ true)) tv rfl rfl rfl (md rfl (sT rfl rfl (sT rfl rfl (sT rfl rfl (sT rfl rfl (sT rfl rfl (Rn.pickT (v:=(b_ true)) tv rfl rfl rfl (md rfl (Rn.nil ?_)))))))))))))))))))
      replace h:=si h; subst h
      exact Qg [] ⟨(kPtr rfl),(sm rfl),(kPtr rfl),(sm rfl),(sm rfl),(sm rfl),(sm rfl),tv⟩ ⟨bS rfl rfl rfl,bS rfl rfl rfl,tv⟩ rfl
     ·replace h:=ifF hb7 h
      refine Rn.fldP (o':=0) (gw rfl hb7) rfl rfl (Rn.load (v:=(i_ x5.From)) (gw rfl hb7) rfl (Q6 rfl) rfl rfl (Rn.fldP (o':=1) (gw rfl hb7) rfl rfl (Rn.load (v:=(i_ a1.zM)) (gw rfl hb7) rfl (Q6 rfl) rfl rfl (Rn.bin (gw rfl hb7) rfl rfl rfl (Rn.pickF (v:=(b_ (decide (x5.From≥a1.zM)))) tv rfl hb7 rfl (md rfl ?_))))))
      refine Qbz (decide (x5.From≥a1.zM)) (fun hb8=>?_) (fun hb8=>?_)
      ·replace h:=ifT hb8 h
       refine Rn.sk (nw rfl hb8) (Rn.sk (nw rfl hb8) (Rn.sk (nw rfl hb8) (Rn.pickT (v:=(b_ true)) tv rfl hb8 rfl (md rfl (sT rfl rfl (sT rfl rfl (sT rfl rfl (sT rfl rfl (sT rfl rfl (Rn.pickT (v:=(b_ true)) tv rfl rfl rfl (md rfl (Rn.nil ?_))))))))))))
       replace h:=si h; subst h
       exact Qg [] ⟨(kPtr rfl),(sm rfl),(kPtr rfl),(sm rfl),(sm rfl),(sm rfl),(sm rfl),tv⟩ ⟨bS rfl rfl rfl,bS rfl rfl rfl,tv⟩ rfl
      ·replace h:=ifF hb8 h
       refine Rn.fldP (o':=2) (gw rfl hb8) rfl rfl (Rn.load (v:=(i_ x5.To)) (gw rfl hb8) rfl (Q6 rfl) rfl rfl (Rn.bin (gw rfl hb8) rfl rfl rfl (Rn.pickF (v:=(b_ (decide (x5.To < 0)))) tv rfl hb8 rfl (md rfl ?_))))
       refine Qbz (decide (x5.To < 0)) (fun hb9=>?_) (fun hb9=>?_)
       ·replace h:=ifT hb9 h
        refine Rn.sk (nw rfl hb9) (Rn.sk (nw rfl hb9) (Rn.sk (nw rfl hb9) (Rn.sk (nw rfl hb9) (Rn.sk (nw rfl hb9) (Rn.pickT (v:=(b_ true)) tv rfl hb9 rfl (md rfl (Rn.nil ?_)))))))
        replace h:=si h; subst h
        exact Qg [] ⟨(kPtr rfl),(sm rfl),(kPtr rfl),(sm rfl),(sm rfl),(sm rfl),(sm rfl),tv⟩ ⟨bS rfl rfl rfl,bS rfl rfl rfl,tv⟩ rfl
       ·replace h:=ifF hb9 h
        refine Rn.fldP (o':=2) (gw rfl hb9) rfl rfl (Rn.load (v:=(i_ x5.To)) (gw rfl hb9) rfl (Q6 rfl) rfl rfl (Rn.fldP (o':=1) (gw rfl hb9) rfl rfl (Rn.load (v:=(i_ a1.zM)) (gw rfl hb9) rfl (Q6 rfl) rfl rfl (Rn.bin (gw rfl hb9) rfl rfl rfl (Rn.pickF (v:=(b_ (decide (x5.To≥a1.zM)))) tv rfl hb9 rfl (md rfl (Rn.nil ?_)))))))
        replace h:=si h; subst h
        exact Qg [] ⟨(kPtr rfl),(sm rfl),(kPtr rfl),(sm rfl),(sm rfl),(sm rfl),(sm rfl),tv⟩ ⟨bS rfl rfl rfl,bS rfl rfl rfl,tv⟩ rfl
    ·obtain ⟨x10,rfl⟩ : ∃ x,x=z:=⟨_,rfl⟩
     refine Tr.cond rfl (fun hb11=>?_) (fun hb11=>?_)
     ·replace h:=bT hb11 h
      refine sr ((md rfl (nt ((Tr.ret ?_)))))
      replace h:=si h; subst h
      exact ⟨.inr rfl,(i_ 2),rfl,fun _ _ _ _ h=>h,tv,mB⟩
     ·replace h:=bF hb11 h
      refine sr ((Rn.fldP (o':=0) tv rfl rfl (lB (v:=(l_ a1.zJ)) rfl rfl rfl rfl (Rn.fldP (o':=1) tv rfl rfl (lB (v:=(i_ x5.Event)) rfl rfl rfl rfl ?_)))))
      obtain ⟨x13,h12,h⟩:=bnd h
      refine Rn.call (args:=[(l_ a1.zJ),(i_ x5.Event)]) tv rfl (H_slices_Contains_int _ _ _ h12) pc9 (Rn.un tv rfl rfl (md rfl (Rn.nil (toN ?_))))
      refine Tr.cond rfl (fun hb14=>?_) (fun hb14=>?_)
      ·have hb14:=nT' hb14
       replace h:=bF hb14 h
       refine sr ((md rfl (nt ((Tr.ret ?_)))))
       replace h:=si h; subst h
       exact ⟨.inr rfl,(i_ 9),rfl,fun _ _ _ _ h=>h,tv,mB⟩
      ·have hb14:=nF' hb14
       replace h:=bT hb14 h
       refine Tr.skip (toN (Tr.seq (sr ((md rfl (Rn.bin tv rfl rfl rfl (Rn.nil (toN ?_))))))))
       refine Tr.cond rfl (fun hb15=>?_) (fun hb15=>?_)
       ·replace h:=bT hb15 h
        refine Tr.exit ?_
        exact ⟨_,h,(by exact Qg [] ⟨(kPtr rfl),(sm rfl),(sm rfl),(sm rfl),tv⟩ ⟨bS rfl rfl rfl,bS rfl rfl rfl,tv⟩ rfl)⟩
       ·replace h:=bF hb15 h
        refine Tr.skip (toN (sr ((Rn.fldP (o':=3) tv rfl rfl (lB (v:=(Qe a1.zL)) rfl rfl rfl rfl (md rfl (Rn.bin tv rfl rfl rfl ?_)))))))
        obtain ⟨x16,h17,h⟩:=bnd h
        refine Rn.idxD (e:=Qv) tv rfl rfl h17 (Rn.loadCA (vs:=(Qbe x16)) tv rfl rfl rfl (Rn.alloc tv rfl (Rn.store (v:=(Qbh x16)) (cs':=(Qbe x16)) tv rfl rfl rfl rfl rfl rfl (Rn.nil (toN ?_)))))
        refine Tr.cutB (fun (x20:Bool)=>⟨look [(1,.ptr (Γ.n0+1) 0),(7,(Qe a1.zL)),(8,(i_ (a1.zL.length:Int))),(9,(i_ x2)),(70,(b_ x20))],Qm Γ.n0 (bxs [(1,.cells ((Qd a1))),(4,.cells ((Qbe x5))),(5,.cells ((Qbe x16)))]) M,Γ.n0+72⟩) h (fun z h=>?_) (fun z h=>?_)
        ·refine Tr.rgn (Rn.fldP (o':=0) tv rfl rfl (lB (v:=(i_ x5.From)) rfl rfl rfl rfl (Rn.fldP (o':=0) tv rfl rfl (lB (v:=(i_ x16.From)) rfl rfl rfl rfl (Rn.bin tv rfl rfl rfl (md rfl ?_))))))
         refine Qbz (decide (x5.From < x16.From)) (fun hb18=>?_) (fun hb18=>?_)
         ·replace h:=ifT hb18 h
          refine Rn.sk (nw rfl hb18) (Rn.sk (nw rfl hb18) (Rn.sk (nw rfl hb18) (Rn.sk (nw rfl hb18) (Rn.sk (nw rfl hb18) (Rn.sk (nw rfl hb18) (Rn.sk (nu rfl) (Rn.sk (nu rfl) (Rn.sk (nu rfl) (Rn.sk (nu rfl) (Rn.sk (nu rfl) (Rn.sk (nw rfl hb18) (Rn.pickT (v:=(b_ true)) tv rfl hb18 rfl (Rn.nil ?_)))))))))))))
          replace h:=si h; subst h
          exact Qg [] ⟨(kPtr rfl),(sm rfl),(sm rfl),(sm rfl),(sm rfl),tv⟩ ⟨bS rfl rfl rfl,bS rfl rfl rfl,bS rfl rfl rfl,tv⟩ rfl
         ·replace h:=ifF hb18 h
          refine Rn.fldP (o':=0) (gw rfl hb18) rfl rfl (Rn.load (v:=(i_ x5.From)) (gw rfl hb18) rfl (Q6 rfl) rfl rfl (Rn.fldP (o':=0) (gw rfl hb18) rfl rfl (Rn.load (v:=(i_ x16.From)) (gw rfl hb18) rfl (Q6 rfl) rfl rfl (Rn.bin (gw rfl hb18) rfl rfl rfl (Rn.movD (gw rfl hb18) rfl ?_)))))
          refine Qbz (x5.From == x16.From) (fun hb19=>?_) (fun hb19=>?_)
          ·replace h:=bT hb19 h
           refine Rn.fldP (o':=1) (gw rfl hb19) rfl rfl (Rn.load (v:=(i_ x5.Event)) (gw rfl hb19) rfl (Q6 rfl) rfl rfl (Rn.fldP (o':=1) (gw rfl hb19) rfl rfl (Rn.load (v:=(i_ x16.Event)) (gw rfl hb19) rfl (Q6 rfl) rfl rfl (Rn.bin (gw rfl hb19) rfl rfl rfl (Rn.pickT (v:=(b_ (decide (x5.Event≤x16.Event)))) (gw rfl hb18) rfl hb19 rfl (Rn.pickF (v:=(b_ (decide (x5.Event≤x16.Event)))) tv rfl hb18 rfl (Rn.nil ?_)))))))
           replace h:=si h; subst h
           exact Qg [] ⟨(kPtr rfl),(sm rfl),(sm rfl),(sm rfl),(sm rfl),tv⟩ ⟨bS rfl rfl rfl,bS rfl rfl rfl,bS rfl rfl rfl,tv⟩ rfl
          ·replace h:=bF hb19 h
           refine Rn.sk (nw rfl hb19) (Rn.sk (nw rfl hb19) (Rn.sk (nw rfl hb19) (Rn.sk (nw rfl hb19) (Rn.sk (nw rfl hb19) (Rn.pickF (v:=(b_ false)) (gw rfl hb18) rfl hb19 rfl (Rn.pickF (v:=(b_ false)) tv rfl hb18 rfl (Rn.nil ?_)))))))
           replace h:=si h; subst h
           exact Qg [] ⟨(kPtr rfl),(sm rfl),(sm rfl),(sm rfl),(sm rfl),tv⟩ ⟨bS rfl rfl rfl,bS rfl rfl rfl,bS rfl rfl rfl,tv⟩ rfl
        ·obtain ⟨x20,rfl⟩ : ∃ x,x=z:=⟨_,rfl⟩
         refine Tr.cond rfl (fun hb21=>?_) (fun hb21=>?_)
         ·replace h:=bT hb21 h
          refine sr ((md rfl (nt ((Tr.ret ?_)))))
          replace h:=si h; subst h
          exact ⟨.inr rfl,(i_ 5),rfl,fun _ _ _ _ h=>h,tv,mB⟩
         ·replace h:=bF hb21 h
          refine Tr.skip ?_
          exact ⟨_,h,(by exact Qg [5] ⟨(kPtr rfl),(sm rfl),(sm rfl),(sm rfl),tv⟩ ⟨bS rfl rfl rfl,bS rfl rfl rfl,tv⟩ rfl)⟩
   ·obtain ⟨c22,c23,c24⟩:=z
    refine Tr.rgn (Rn.bin tv rfl rfl rfl (md rfl (Rn.nil ?_)))
    exact ⟨_,h,(by exact Qj ⟨(kPtr rfl),(sm rfl),(sm rfl),(sm rfl),tv⟩ ⟨bS rfl rfl rfl,tv⟩ rfl)⟩
  ·replace h:=ifF hb4 h
   refine Tr.exit (toN (sr ((md rfl (nt ((Tr.ret ?_)))))))
   replace h:=si h; subst h
   exact ⟨.inr rfl,(i_ 0),rfl,fun _ _ _ _ h=>h,tv,mB⟩
theorem Q7w {P:Program} {c:Nat} {Qck:(List Int)→Int→Option Int} {Qch:Qa→Option Int}
    (H_automaton_checkSet:Qkc P 80 Qck)
    (H_automaton_checkEdges:Qip P 81 Qch) (hcf:Qq P c=some Qnw):Qha P c (Q5 Qck Qch):=by
 intro a1 r h
 refine Qc6 hcf rfl fun Γ M hP hnt hM=>?_
 subst hP
 refine Tr.init [(0,(Qb a1))] rfl ?_
 unfold Q5 at h
 unfold Qnw
 refine sr ((Rn.box (v:=(Qb a1)) (cs:=(Qd a1)) tv rfl rfl rfl rfl rfl (md rfl (nt ((Tr.seq (sr ((Rn.fldP (o':=0) tv rfl rfl (lB (v:=(l_ a1.zJ)) rfl rfl rfl rfl ?_))))))))))
 obtain ⟨x3,h2,h⟩:=bnd h
 refine Rn.call (args:=[(l_ a1.zJ),(i_ 32)]) tv rfl (H_automaton_checkSet _ _ _ h2) pc9 (md rfl (nt ((sr ((md rfl (Rn.bin tv rfl rfl rfl (Rn.nil (toN ?_)))))))))
 refine Tr.cond rfl (fun hb4=>?_) (fun hb4=>?_)
 ·replace h:=bT hb4 h
  refine sr ((md rfl (md rfl (nt ((Tr.ret ?_))))))
  replace h:=si h; subst h
  exact ⟨.inr rfl,(i_ x3),rfl,fun _ _ _ _ h=>h,tv,mB⟩
 ·replace h:=bF hb4 h
  refine Tr.skip (toN (Tr.seq (Tr.block (sr ((Rn.fldP (o':=1) tv rfl rfl (lB (v:=(i_ a1.zM)) rfl rfl rfl rfl (Rn.bin tv rfl rfl rfl (md rfl (Rn.nil (toN ?_)))))))))))
  refine Tr.cond rfl (fun hb5=>?_) (fun hb5=>?_)
  ·replace h:=ifT hb5 h
   refine sr ((md rfl (nt ((Tr.ret ?_)))))
   replace h:=si h; subst h
   exact ⟨.inr rfl,(i_ 2),rfl,fun _ _ _ _ h=>h,tv,mB⟩
  ·replace h:=ifF hb5 h
   refine sr ((Rn.fldP (o':=1) tv rfl rfl (lB (v:=(i_ a1.zM)) rfl rfl rfl rfl (Rn.bin tv rfl rfl rfl (md rfl (Rn.nil (toN ?_)))))))
   refine Tr.cond rfl (fun hb6=>?_) (fun hb6=>?_)
   ·replace h:=ifT hb6 h
    refine sr ((md rfl (nt ((Tr.ret ?_)))))
    replace h:=si h; subst h
    exact ⟨.inr rfl,(i_ 3),rfl,fun _ _ _ _ h=>h,tv,mB⟩
   ·replace h:=ifF hb6 h
    refine Tr.skip (toN (Tr.seq (sr ((Rn.fldP (o':=2) tv rfl rfl (lB (v:=(l_ a1.zK)) rfl rfl rfl rfl (Rn.fldP (o':=1) tv rfl rfl (lB (v:=(i_ a1.zM)) rfl rfl rfl rfl ?_))))))))
    obtain ⟨x8,h7,h⟩:=bnd h
    refine Rn.call (args:=[(l_ a1.zK),(i_ a1.zM)]) tv rfl (H_automaton_checkSet _ _ _ h7) pc9 (md rfl (nt ((sr ((md rfl (Rn.bin tv rfl rfl rfl (Rn.nil (toN ?_)))))))))
    refine Tr.cond rfl (fun hb9=>?_) (fun hb9=>?_)
    ·replace h:=bT hb9 h
     refine sr ((md rfl (md rfl (nt ((Tr.ret ?_))))))
     replace h:=si h; subst h
     exact ⟨.inr rfl,(i_ x8),rfl,fun _ _ _ _ h=>h,tv,mB⟩
    ·replace h:=bF hb9 h
     refine Tr.skip (toN (sr ((lB (v:=(Qb a1)) rfl rfl rfl rfl ?_))))
     obtain ⟨x11,h10,h⟩:=bnd h
     refine Rn.call (args:=[(Qb a1)]) tv rfl (H_automaton_checkEdges _ _ h10) pc9 (md rfl (nt ((Tr.ret ?_))))
     replace h:=si h; subst h
     exact ⟨.inr rfl,(i_ x11),rfl,fun _ _ _ _ h=>h,tv,mB⟩
theorem Q30 {P:Program} {c:Nat} (hcf:Qq P c=some Qk1) (fuel:Nat):Qfr P c (Qy fuel):=by
 intro xset1 n2 r h
 refine Qc6 hcf rfl fun Γ M hP hnt hM=>?_
 subst hP
 refine Tr.init [(0,(l_ xset1)),(1,(i_ n2))] rfl ?_
 unfold Qy at h
 unfold Qk1
 refine sr ((md rfl (nt ((Tr.seq (sr ((md rfl (Rn.lenD tv rfl (md rfl (nt ((Tr.block ?_)))))))))))))
 refine Tr.loop (mk:=fun (x3:Int)=>⟨look [(0,(l_ xset1)),(1,(i_ n2)),(7,(l_ xset1)),(8,(i_ (xset1.length:Int))),(9,(i_ x3))],Qm Γ.n0 (bxs []) M,Γ.n0+33⟩) h (by exact Qj ⟨(sm rfl),(sm rfl),(sm rfl),(sm rfl),(sm rfl),tv⟩ tv rfl) (fun k4 z h=>?_)
 ·obtain ⟨x3,rfl⟩ : ∃ x,x=z:=⟨_,rfl⟩
  replace h:_=some _:=h
  refine sr ((Rn.bin tv rfl rfl rfl (nt ((Tr.seq ?_)))))
  refine Tr.cond rfl (fun hb5=>?_) (fun hb5=>?_)
  ·replace h:=ifT hb5 h
   refine Tr.skip (toN (Tr.seq (Tr.block (sr ((md rfl ?_))))))
   obtain ⟨x6,h7,h⟩:=bnd h
   refine Rn.idxD (e:=(eI .i64)) tv rfl rfl h7 (Rn.loadC (x:=.int .i64 x6) tv rfl (md rfl (md rfl (nt ((Tr.seq ?_))))))
   refine Tr.cutB (fun (x9:Bool)=>⟨look [(0,(l_ xset1)),(1,(i_ n2)),(5,(i_ x3)),(6,(i_ x6)),(7,(l_ xset1)),(8,(i_ (xset1.length:Int))),(9,(i_ x3)),(20,(b_ x9))],Qm Γ.n0 (bxs []) M,Γ.n0+33⟩) h (fun z h=>?_) (fun z h=>?_)
   ·refine Tr.rgn (md rfl (Rn.bin tv rfl rfl rfl (md rfl ?_)))
    refine Qbz (decide (x6 < 0)) (fun hb8=>?_) (fun hb8=>?_)
    ·replace h:=ifT hb8 h
     refine Rn.sk (nw rfl hb8) (Rn.sk (nw rfl hb8) (Rn.sk (nw rfl hb8) (Rn.pickT (v:=(b_ true)) tv rfl hb8 rfl (Rn.nil ?_))))
     replace h:=si h; subst h
     exact Qg [] ⟨(sm rfl),(sm rfl),(sm rfl),(sm rfl),(sm rfl),(sm rfl),(sm rfl),(sm rfl),tv⟩ tv rfl
    ·replace h:=ifF hb8 h
     refine Rn.movD (gw rfl hb8) rfl (Rn.movD (gw rfl hb8) rfl (Rn.bin (gw rfl hb8) rfl rfl rfl (Rn.pickF (v:=(b_ (decide (x6≥n2)))) tv rfl hb8 rfl (Rn.nil ?_))))
     replace h:=si h; subst h
     exact Qg [] ⟨(sm rfl),(sm rfl),(sm rfl),(sm rfl),(sm rfl),(sm rfl),(sm rfl),(sm rfl),tv⟩ tv rfl
   ·obtain ⟨x9,rfl⟩ : ∃ x,x=z:=⟨_,rfl⟩
    refine Tr.cond rfl (fun hb10=>?_) (fun hb10=>?_)
    ·replace h:=bT hb10 h
     refine sr ((md rfl (nt ((Tr.ret ?_)))))
     replace h:=si h; subst h
     exact ⟨.inr rfl,(i_ 2),rfl,fun _ _ _ _ h=>h,tv,mB⟩
    ·replace h:=bF hb10 h
     refine Tr.skip (toN ?_)
     refine Tr.cutB (fun (x14:Bool)=>⟨look [(0,(l_ xset1)),(1,(i_ n2)),(7,(l_ xset1)),(8,(i_ (xset1.length:Int))),(9,(i_ x3)),(31,(b_ x14))],Qm Γ.n0 (bxs []) M,Γ.n0+33⟩) h (fun z h=>?_) (fun z h=>?_)
     ·refine Tr.rgn (md rfl (Rn.bin tv rfl rfl rfl (md rfl ?_)))
      refine Qbz (decide (x3 > 0)) (fun hb11=>?_) (fun hb11=>?_)
      ·replace h:=ifT hb11 h
       refine Rn.movD (gw rfl hb11) rfl (Rn.movD (gw rfl hb11) rfl (Rn.movD (gw rfl hb11) rfl (Rn.bin (gw rfl hb11) rfl rfl rfl ?_)))
       obtain ⟨x12,h13,h⟩:=bnd h
       refine Rn.idxD (e:=(eI .i64)) (gw rfl hb11) rfl rfl h13 (Rn.loadC (x:=.int .i64 x12) (gw rfl hb11) rfl (Rn.bin (gw rfl hb11) rfl rfl rfl (Rn.pickT (v:=(b_ (decide (x6≤x12)))) tv rfl hb11 rfl (Rn.nil ?_))))
       replace h:=si h; subst h
       exact Qg [] ⟨(sm rfl),(sm rfl),(sm rfl),(sm rfl),(sm rfl),(sm rfl),tv⟩ tv rfl
      ·replace h:=ifF hb11 h
       refine Rn.sk (nw rfl hb11) (Rn.sk (nw rfl hb11) (Rn.sk (nw rfl hb11) (Rn.sk (nw rfl hb11) (Rn.sk (nw rfl hb11) (Rn.sk (nw rfl hb11) (Rn.sk (nw rfl hb11) (Rn.pickF (v:=(b_ false)) tv rfl hb11 rfl (Rn.nil ?_))))))))
       replace h:=si h; subst h
       exact Qg [] ⟨(sm rfl),(sm rfl),(sm rfl),(sm rfl),(sm rfl),(sm rfl),tv⟩ tv rfl
     ·obtain ⟨x14,rfl⟩ : ∃ x,x=z:=⟨_,rfl⟩
      refine Tr.cond rfl (fun hb15=>?_) (fun hb15=>?_)
      ·replace h:=bT hb15 h
       refine sr ((md rfl (nt ((Tr.ret ?_)))))
       replace h:=si h; subst h
       exact ⟨.inr rfl,(i_ 5),rfl,fun _ _ _ _ h=>h,tv,mB⟩
      ·replace h:=bF hb15 h
       refine Tr.skip (toN (Tr.rgn (Rn.bin tv rfl rfl rfl (md rfl (Rn.nil ?_)))))
       exact ⟨_,h,(by exact Qj ⟨(sm rfl),(sm rfl),(sm rfl),(sm rfl),(sm rfl),tv⟩ tv rfl)⟩
  ·replace h:=ifF hb5 h
   refine Tr.exit (toN (sr ((md rfl (nt ((Tr.ret ?_)))))))
   replace h:=si h; subst h
   exact ⟨.inr rfl,(i_ 0),rfl,fun _ _ _ _ h=>h,tv,mB⟩
theorem Qxg {P:Program} {c:Nat} (hcf:Qq P c=some Qir):Qem P c (Qt):=by
 intro n1 r h
 refine Qc6 hcf rfl fun Γ M hP hnt hM=>?_
 subst hP
 refine Tr.init [(0,(i_ n1))] rfl ?_
 unfold Qt at h
 unfold Qir
 refine sr ((md rfl (nt ((sr ((md rfl (Rn.bin tv rfl rfl rfl (md rfl ?_)))))))))
 refine Qbz (decide (n1≥0)) (fun hb2=>?_) (fun hb2=>?_)
 ·replace h:=ifT hb2 h
  refine Rn.movD (gw rfl hb2) rfl (Rn.bin (gw rfl hb2) rfl rfl rfl (Rn.pickT (v:=(b_ (decide (n1 < 32)))) tv rfl hb2 rfl (md rfl (nt ((Tr.ret ?_))))))
  replace h:=si h; subst h
  exact ⟨.inr rfl,(b_ (decide (n1 < 32))),rfl,fun _ _ _ _ h=>h,tv,mB⟩
 ·replace h:=ifF hb2 h
  refine Rn.sk (nw rfl hb2) (Rn.sk (nw rfl hb2) (Rn.pickF (v:=(b_ false)) tv rfl hb2 rfl (md rfl (nt ((Tr.ret ?_))))))
  replace h:=si h; subst h
  exact ⟨.inr rfl,(b_ false),rfl,fun _ _ _ _ h=>h,tv,mB⟩
theorem Qbbb {P:Program} {c:Nat} (hcf:Qq P c=some Qtt):Qts P c (Qdz):=by
 intro x1 r h
 refine Qc6 hcf rfl fun Γ M hP hnt hM=>?_
 subst hP
 refine Tr.init [(0,(i_ x1))] rfl ?_
 unfold Qdz at h
 unfold Qtt
 refine sr ((md rfl (nt ((sr ((md rfl (md rfl (Rn.bin tv rfl rfl rfl (md rfl (nt ((Tr.ret ?_)))))))))))))
 replace h:=si h; subst h
 exact ⟨.inr rfl,(b_ (x1 != x1)),rfl,fun _ _ _ _ h=>h,tv,mB⟩
theorem Qbcu {P:Program} {c:Nat} {Qdz:Int→Option Bool}
    (H_cmp_isNaN_int:Qts P 98 Qdz) (hcf:Qq P c=some Qv9):Qv8 P c (Qer Qdz):=by
 intro x1 y2 r h
 refine Qc6 hcf rfl fun Γ M hP hnt hM=>?_
 subst hP
 refine Tr.init [(0,(i_ x1)),(1,(i_ y2))] rfl ?_
 unfold Qer at h
 unfold Qv9
 refine sr ((md rfl (nt ((sr ((md rfl ?_)))))))
 obtain ⟨x4,h3,h⟩:=bnd h
 refine Rn.call (args:=[(i_ x1)]) tv rfl (H_cmp_isNaN_int _ _ h3) pc9 (md rfl ?_)
 refine Qbz x4 (fun hb5=>?_) (fun hb5=>?_)
 ·replace h:=bT hb5 h
  refine Rn.movD (gw rfl hb5) rfl ?_
  obtain ⟨x7,h6,h⟩:=bnd h
  refine Rn.call (args:=[(i_ y2)]) (gw rfl hb5) rfl (H_cmp_isNaN_int _ _ h6) pc9 (Rn.un (gw rfl hb5) rfl rfl (Rn.pickT (v:=(b_ (!x7))) tv rfl hb5 rfl (md rfl ?_)))
  refine Qbz x7 (fun hb8=>?_) (fun hb8=>?_)
  ·replace h:=bT hb8 h
   refine Rn.movD (gw rfl (nT hb8)) rfl (Rn.movD (gw rfl (nT hb8)) rfl (Rn.bin (gw rfl (nT hb8)) rfl rfl rfl (Rn.pickF (v:=(b_ (decide (x1 < y2)))) tv rfl (nT hb8) rfl (md rfl (nt ((Tr.ret ?_)))))))
   replace h:=si h; subst h
   exact ⟨.inr rfl,(b_ (decide (x1 < y2))),rfl,fun _ _ _ _ h=>h,tv,mB⟩
  ·replace h:=bF hb8 h
   refine Rn.sk (nw rfl (nF hb8)) (Rn.sk (nw rfl (nF hb8)) (Rn.sk (nw rfl (nF hb8)) (Rn.pickT (v:=(b_ true)) tv rfl (nF hb8) rfl (md rfl (nt ((Tr.ret ?_)))))))
   replace h:=si h; subst h
   exact ⟨.inr rfl,(b_ true),rfl,fun _ _ _ _ h=>h,tv,mB⟩
 ·replace h:=bF hb5 h
  refine Rn.sk (nw rfl hb5) (Rn.sk (nw rfl hb5) (Rn.sk (nw rfl hb5) (Rn.pickF (v:=(b_ false)) tv rfl hb5 rfl (md rfl (Rn.movD (gw (b:=false) rfl rfl) rfl (Rn.movD (gw (b:=false) rfl rfl) rfl (Rn.bin (gw (b:=false) rfl rfl) rfl rfl rfl (Rn.pickF (v:=(b_ (decide (x1 < y2)))) tv rfl rfl rfl (md rfl (nt ((Tr.ret ?_))))))))))))
  replace h:=si h; subst h
  exact ⟨.inr rfl,(b_ (decide (x1 < y2))),rfl,fun _ _ _ _ h=>h,tv,mB⟩
theorem Q50 {P:Program} {c:Nat} (hcf:Qq P c=some Qmm):Qml P c (Qc5):=by
 intro x1 r h
 refine Qc6 hcf rfl fun Γ M hP hnt hM=>?_
 subst hP
 refine Tr.init [(0,(i_ x1))] rfl ?_
 unfold Qc5 at h
 unfold Qmm
 refine sr ((md rfl (nt ((sr ((md rfl (md rfl (Rn.bin tv rfl rfl rfl (md rfl (nt ((Tr.ret ?_)))))))))))))
 replace h:=si h; subst h
 exact ⟨.inr rfl,(b_ (x1 != x1)),rfl,fun _ _ _ _ h=>h,tv,mB⟩
theorem Qs1 {P:Program} {c:Nat} {Qer:Int→Int→Option Bool} {Qc5:Int→Option Bool}
    (H_cmp_Less_int:Qv8 P 86 Qer)
    (H_slices_isNaN_int:Qml P 87 Qc5) (hcf:Qq P c=some Qgl) (fuel:Nat):Qgk P c (Qbv Qer Qc5 fuel):=by
 intro x1 target2 r h
 refine Qc6 hcf rfl fun Γ M hP hnt hM=>?_
 subst hP
 refine Tr.init [(0,(l_ x1)),(1,(i_ target2))] rfl ?_
 unfold Qbv at h
 unfold Qgl
 refine sr ((md rfl (md rfl (nt ((sr ((md rfl (Rn.lenD tv rfl (md rfl (nt ((sr ((md rfl (md rfl (md rfl (Rn.nil (toN ?_)))))))))))))))))))
 refine Tr.cutB (fun (i12:Int)=>⟨look [(0,(l_ x1)),(1,(i_ target2)),(6,(i_ (x1.length:Int))),(7,(i_ i12))],Qm Γ.n0 (bxs []) M,Γ.n0+54⟩) h (fun z h=>?_) (fun z h=>?_)
 ·refine Tr.block ?_
  refine Tr.loop (mk:=fun ((i3,j4):Int×Int)=>⟨look [(0,(l_ x1)),(1,(i_ target2)),(6,(i_ (x1.length:Int))),(7,(i_ i3)),(8,(i_ j4))],Qm Γ.n0 (bxs []) M,Γ.n0+54⟩) h (by exact Qj ⟨(sm rfl),(sm rfl),(sm rfl),(sm rfl),(sm rfl),tv⟩ tv rfl) (fun k5 z h=>?_)
  ·obtain ⟨i3,j4⟩:=z
   replace h:_=some _:=h
   refine Tr.seq (sr ((md rfl (md rfl (Rn.bin tv rfl rfl rfl (Rn.nil (toN ?_)))))))
   refine Tr.cond rfl (fun hb6=>?_) (fun hb6=>?_)
   ·replace h:=ifT hb6 h
    refine Tr.skip (toN (Tr.block (sr ((md rfl (md rfl (Rn.bin tv rfl rfl rfl (Rn.conv tv rfl (Rn.bin tv rfl rfl rfl (Rn.conv tv rfl (md rfl (nt ((sr ((md rfl (md rfl ?_)))))))))))))))))
    obtain ⟨x7,h8,h⟩:=bnd h
    refine Rn.idxD (e:=(eI .i64)) tv rfl rfl h8 (Rn.loadC (x:=.int .i64 x7) tv rfl (md rfl ?_))
    obtain ⟨x10,h9,h⟩:=bnd h
    refine Rn.call (args:=[(i_ x7),(i_ target2)]) tv rfl (H_cmp_Less_int _ _ _ h9) pc9 (Rn.nil (toN ?_))
    refine Tr.cond rfl (fun hb11=>?_) (fun hb11=>?_)
    ·replace h:=bT hb11 h
     refine Tr.rgn (md rfl (Rn.bin tv rfl rfl rfl (md rfl (Rn.nil ?_))))
     exact ⟨_,h,(by exact Qj ⟨(sm rfl),(sm rfl),(sm rfl),(sm rfl),(sm rfl),tv⟩ tv rfl)⟩
    ·replace h:=bF hb11 h
     refine Tr.rgn (md rfl (md rfl (Rn.nil ?_)))
     exact ⟨_,h,(by exact Qj ⟨(sm rfl),(sm rfl),(sm rfl),(sm rfl),(sm rfl),tv⟩ tv rfl)⟩
   ·replace h:=ifF hb6 h
    refine Tr.exit ?_
    replace h:=si h; subst h
    exact Qg [] ⟨(sm rfl),(sm rfl),(sm rfl),(sm rfl),tv⟩ tv rfl
 ·obtain ⟨i12,rfl⟩ : ∃ x,x=z:=⟨_,rfl⟩
  refine sr ((md rfl (md rfl (md rfl (Rn.bin tv rfl rfl rfl (md rfl ?_))))))
  refine Qbz (decide (i12 < (x1.length:Int))) (fun hb13=>?_) (fun hb13=>?_)
  ·replace h:=ifT hb13 h
   refine Rn.movD (gw rfl hb13) rfl (Rn.movD (gw rfl hb13) rfl ?_)
   obtain ⟨x14,h15,h⟩:=bnd h
   refine Rn.idxD (e:=(eI .i64)) (gw rfl hb13) rfl rfl h15 (Rn.loadC (x:=.int .i64 x14) (gw rfl hb13) rfl (Rn.movD (gw rfl hb13) rfl (Rn.bin (gw rfl hb13) rfl rfl rfl (Rn.movD (gw rfl hb13) rfl ?_))))
   refine Qbz (x14 == target2) (fun hb16=>?_) (fun hb16=>?_)
   ·replace h:=bT hb16 h
    refine Rn.sk (nw rfl hb16) (Rn.sk (nw rfl hb16) (Rn.sk (nw rfl hb16) (Rn.sk (nw rfl hb16) (Rn.sk (nw rfl hb16) (Rn.sk (nw rfl hb16) (Rn.sk (nu rfl) (Rn.sk (nu rfl) (Rn.sk (nw rfl hb16) (Rn.pickT (v:=(b_ true)) (gw rfl hb13) rfl hb16 rfl (Rn.pickT (v:=(b_ true)) tv rfl hb13 rfl (md rfl (md rfl (nt ((Tr.ret ?_)))))))))))))))
    replace h:=si h; subst h
    exact ⟨.inr rfl,.tup [(i_ i12),(b_ true)],res2 rfl rfl,(WkV.tup (.cons (.same rfl) (.cons (.same rfl) .nil))).rd,⟨tv,tv,tv⟩,mB⟩
   ·replace h:=bF hb16 h
    refine Rn.movD (gw rfl hb16) rfl (Rn.movD (gw rfl hb16) rfl ?_)
    obtain ⟨x17,h18,h⟩:=bnd h
    refine Rn.idxD (e:=(eI .i64)) (gw rfl hb16) rfl rfl h18 (Rn.loadC (x:=.int .i64 x17) (gw rfl hb16) rfl ?_)
    obtain ⟨x20,h19,h⟩:=bnd h
    refine Rn.call (args:=[(i_ x17)]) (gw rfl hb16) rfl (H_slices_isNaN_int _ _ h19) pc9 (Rn.movD (gw rfl hb16) rfl ?_)
    refine Qbz x20 (fun hb21=>?_) (fun hb21=>?_)
    ·replace h:=bT hb21 h
     refine Rn.movD (gw rfl hb21) rfl ?_
     obtain ⟨x23,h22,h⟩:=bnd h
     refine Rn.call (args:=[(i_ target2)]) (gw rfl hb21) rfl (H_slices_isNaN_int _ _ h22) pc9 (Rn.pickT (v:=(b_ x23)) (gw rfl hb16) rfl hb21 rfl (Rn.pickF (v:=(b_ x23)) (gw rfl hb13) rfl hb16 rfl (Rn.pickT (v:=(b_ x23)) tv rfl hb13 rfl (md rfl (md rfl (nt ((Tr.ret ?_))))))))
     replace h:=si h; subst h
     exact ⟨.inr rfl,.tup [(i_ i12),(b_ x23)],res2 rfl rfl,(WkV.tup (.cons (.same rfl) (.cons (.same rfl) .nil))).rd,⟨tv,tv,tv⟩,mB⟩
    ·replace h:=bF hb21 h
     refine Rn.sk (nw rfl hb21) (Rn.sk (nw rfl hb21) (Rn.pickF (v:=(b_ false)) (gw rfl hb16) rfl hb21 rfl (Rn.pickF (v:=(b_ false)) (gw rfl hb13) rfl hb16 rfl (Rn.pickT (v:=(b_ false)) tv rfl hb13 rfl (md rfl (md rfl (nt ((Tr.ret ?_)))))))))
     replace h:=si h; subst h
     exact ⟨.inr rfl,.tup [(i_ i12),(b_ false)],res2 rfl rfl,(WkV.tup (.cons (.same rfl) (.cons (.same rfl) .nil))).rd,⟨tv,tv,tv⟩,mB⟩
  ·replace h:=ifF hb13 h
   refine Rn.sk (nw rfl hb13) (Rn.sk (nw rfl hb13) (Rn.sk (nw rfl hb13) (Rn.sk (nw rfl hb13) (Rn.sk (nw rfl hb13) (Rn.sk (nw rfl hb13) (Rn.sk (nw rfl hb13) (Rn.sk (nu rfl) (Rn.sk (nu rfl) (Rn.sk (nu rfl) (Rn.sk (nu rfl) (Rn.sk (nu rfl) (Rn.sk (nu rfl) (Rn.sk (nu rfl) (Rn.sk (nu rfl) (Rn.sk (nu rfl) (Rn.sk (nw rfl hb13) (Rn.pickF (v:=(b_ false)) tv rfl hb13 rfl (md rfl (md rfl (nt ((Tr.ret ?_))))))))))))))))))))))
   replace h:=si h; subst h
   exact ⟨.inr rfl,.tup [(i_ i12),(b_ false)],res2 rfl rfl,(WkV.tup (.cons (.same rfl) (.cons (.same rfl) .nil))).rd,⟨tv,tv,tv⟩,mB⟩
theorem Q31 {P:Program} {c:Nat} {Qbv:(List Int)→Int→Option (Int×Bool)}
    (H_slices_BinarySearch_int:Qgk P 59 Qbv) (hcf:Qq P c=some Qk2):Qcf P c (Qi Qbv):=by
 intro xset1 x2 r h
 refine Qc6 hcf rfl fun Γ M hP hnt hM=>?_
 subst hP
 refine Tr.init [(0,(l_ xset1)),(1,(i_ x2))] rfl ?_
 unfold Qi at h
 unfold Qk2
 refine sr ((md rfl (nt ((sr ((md rfl (md rfl ?_))))))))
 obtain ⟨⟨r4,r5⟩,h3,h⟩:=bnd h
 refine Rn.call (args:=[(l_ xset1),(i_ x2)]) tv rfl (H_slices_BinarySearch_int _ _ _ h3) pc9 (Rn.mov (v:=.tup [(i_ r4),(b_ r5)]) tv rfl (Rn.ext (v:=(i_ r4)) (vs:=[(i_ r4),(b_ r5)]) tv rfl rfl rfl (Rn.ext (v:=(b_ r5)) (vs:=[(i_ r4),(b_ r5)]) tv rfl rfl rfl (md rfl (md rfl (nt ((sr ((md rfl (md rfl (nt ((Tr.ret ?_))))))))))))))
 replace h:=si h; subst h
 exact ⟨.inr rfl,(b_ r5),rfl,fun _ _ _ _ h=>h,tv,mB⟩
theorem Qxh {P:Program} {c:Nat} {Qy:(List Int)→Int→Option Int} {Qt:Int→Option Bool} {Qi:(List Int)→Int→Option Bool} {Q5:Qa→Option Int}
    (H_alphabet_CheckSet:Qfr P 9 Qy)
    (H_timedsynthesis_event:Qem P 27 Qt)
    (H_alphabet_Contains:Qcf P 29 Qi)
    (H_automaton_Check:Qha P 55 Q5) (hcf:Qq P c=some Qit) (fuel:Nat):Qis P c (Qcw Qy Qt Qi Q5 fuel):=by
 intro p1 r h
 refine Qc6 hcf rfl fun Γ M hP hnt hM=>?_
 subst hP
 refine Tr.init [(0,(Qw p1))] rfl ?_
 unfold Qcw at h
 unfold Qit
 refine sr ((Rn.box (v:=(Qw p1)) (cs:=(Qp p1)) tv rfl rfl rfl rfl rfl (md rfl (nt ((Tr.seq (sr ((Rn.fldP (o':=0) tv rfl rfl (lB (v:=(Qb p1.zA)) rfl rfl rfl rfl ?_))))))))))
 obtain ⟨x3,h2,h⟩:=bnd h
 refine Rn.call (args:=[(Qb p1.zA)]) tv rfl (H_automaton_Check _ _ h2) pc9 (md rfl (nt ((sr ((md rfl (Rn.bin tv rfl rfl rfl (Rn.nil (toN ?_)))))))))
 refine Tr.cond rfl (fun hb4=>?_) (fun hb4=>?_)
 ·replace h:=bT hb4 h
  refine sr ((md rfl (md rfl (nt ((Tr.ret ?_))))))
  replace h:=si h; subst h
  exact ⟨.inr rfl,(i_ x3),rfl,fun _ _ _ _ h=>h,tv,mB⟩
 ·replace h:=bF hb4 h
  refine Tr.skip (toN (Tr.seq (sr ((Rn.fldP (o':=4) tv rfl rfl (lB (v:=(l_ p1.zC)) rfl rfl rfl rfl (Rn.fldP (o':=0) tv rfl rfl (Rn.fldP (o':=1) tv rfl rfl (lB (v:=(i_ p1.zA.zM)) rfl rfl rfl rfl ?_)))))))))
  obtain ⟨x6,h5,h⟩:=bnd h
  refine Rn.call (args:=[(l_ p1.zC),(i_ p1.zA.zM)]) tv rfl (H_alphabet_CheckSet _ _ _ h5) pc9 (md rfl (nt ((sr ((md rfl (Rn.bin tv rfl rfl rfl (Rn.nil (toN ?_)))))))))
  refine Tr.cond rfl (fun hb7=>?_) (fun hb7=>?_)
  ·replace h:=bT hb7 h
   refine sr ((md rfl (md rfl (nt ((Tr.ret ?_))))))
   replace h:=si h; subst h
   exact ⟨.inr rfl,(i_ x6),rfl,fun _ _ _ _ h=>h,tv,mB⟩
  ·replace h:=bF hb7 h
   refine Tr.skip (toN (Tr.seq (sr ((Rn.fldP (o':=5) tv rfl rfl (lB (v:=(l_ p1.zB)) rfl rfl rfl rfl (Rn.fldP (o':=6) tv rfl rfl (lB (v:=(l_ p1.zD)) rfl rfl rfl rfl (Rn.bslice (xs:=[(l_ p1.zB),(l_ p1.zD)]) (cs:=[(l_ p1.zB),(l_ p1.zD)]) tv rfl rfl rfl rfl (Rn.k (v:=.d (.int .i64 2)) tv rfl rfl rfl (md rfl (nt ((Tr.block ?_))))))))))))))
   refine Tr.weak (by show WeakSt Γ _ ⟨look [(0,(Qw p1)),(1,.ptr (Γ.n0+1) 0),(2,(i_ 0)),(3,(i_ x3)),(4,(i_ x6)),(8,.ptr (Γ.n0+1) 0),(9,(Qb p1.zA)),(10,(i_ x3)),(11,(i_ x3)),(12,(b_ (x3 != 0))),(14,.ptr (Γ.n0+1) 4),(15,(l_ p1.zC)),(16,.ptr (Γ.n0+1) 0),(17,.ptr (Γ.n0+1) 1),(18,(i_ p1.zA.zM)),(19,(i_ x6)),(20,(i_ x6)),(21,(b_ (x6 != 0))),(23,.ptr (Γ.n0+1) 5),(24,(l_ p1.zB)),(25,.ptr (Γ.n0+1) 6),(26,(l_ p1.zD)),(27,.d (.lst 1 (List.map (eL 1 (eI .i64)) [p1.zB,p1.zD]))),(28,(i_ 2)),(29,(i_ 0))],Qm Γ.n0 (bxs [(1,.cells ((Qp p1)))]) M,Γ.n0+57⟩; exact Qeb 27 [.lst 1 (List.map (eI .i64) p1.zB),.lst 1 (List.map (eI .i64) p1.zD)] rfl rfl ⟨(.same rfl),(fPtr rfl),(.same rfl),(.same rfl),(.same rfl),(fPtr rfl),(.same rfl),(.same rfl),(.same rfl),(.same rfl),(fPtr rfl),(.same rfl),(fPtr rfl),(fPtr rfl),(.same rfl),(.same rfl),(.same rfl),(.same rfl),(fPtr rfl),(.same rfl),(fPtr rfl),(.same rfl),(fSl rfl rfl),(.same rfl),(.same rfl),tv⟩ ⟨bS rfl rfl rfl,tv⟩ rfl) ?_
   refine Tr.loop (mk:=fun (x8:Int)=>⟨look [(1,.ptr (Γ.n0+1) 0),(27,.d (.lst 1 (List.map (eL 1 (eI .i64)) [p1.zB,p1.zD]))),(28,(i_ 2)),(29,(i_ x8))],Qm Γ.n0 (bxs [(1,.cells ((Qp p1)))]) M,Γ.n0+57⟩) h (by exact Qj ⟨(kPtr rfl),(sm rfl),(sm rfl),(sm rfl),tv⟩ ⟨bS rfl rfl rfl,tv⟩ rfl) (fun k9 z h=>?_)
   ·obtain ⟨x8,rfl⟩ : ∃ x,x=z:=⟨_,rfl⟩
    replace h:_=some _:=h
    refine sr ((Rn.bin tv rfl rfl rfl (nt ((Tr.seq ?_)))))
    refine Tr.cond rfl (fun hb10=>?_) (fun hb10=>?_)
    ·replace h:=ifT hb10 h
     refine Tr.skip (toN (Tr.seq (Tr.block (Tr.seq (Tr.rgn ?_)))))
     obtain ⟨x11,h12,h⟩:=bnd h
     refine Rn.idxD (e:=(eL 1 (eI .i64))) tv rfl rfl h12 (Rn.loadC (x:=.lst 1 (List.map (eI .i64) x11)) tv rfl (Rn.movTD tv rfl (nt ((sr ((md rfl ?_)))))))
     obtain ⟨x14,h13,h⟩:=bnd h
     refine Rn.call (args:=[(l_ x11),(i_ 32)]) tv rfl (H_alphabet_CheckSet _ _ _ h13) pc9 (md rfl (nt ((sr ((md rfl (Rn.bin tv rfl rfl rfl (Rn.nil (toN ?_)))))))))
     refine Tr.cond rfl (fun hb15=>?_) (fun hb15=>?_)
     ·replace h:=bT hb15 h
      refine sr ((md rfl (md rfl (nt ((Tr.ret ?_))))))
      replace h:=si h; subst h
      exact ⟨.inr rfl,(i_ x14),rfl,fun _ _ _ _ h=>h,tv,mB⟩
     ·replace h:=bF hb15 h
      refine Tr.skip (toN (Tr.rgn (Rn.bin tv rfl rfl rfl (md rfl (Rn.nil ?_)))))
      exact ⟨_,h,(by exact Qj ⟨(kPtr rfl),(sm rfl),(sm rfl),(sm rfl),tv⟩ ⟨bS rfl rfl rfl,tv⟩ rfl)⟩
    ·replace h:=ifF hb10 h
     refine Tr.exit (toN (Tr.seq (Tr.block (sr ((Rn.fldP (o':=7) tv rfl rfl (lB (v:=(i_ p1.Tick)) rfl rfl rfl rfl ?_)))))))
     obtain ⟨x17,h16,h⟩:=bnd h
     refine Rn.call (args:=[(i_ p1.Tick)]) tv rfl (H_timedsynthesis_event _ _ h16) pc9 (Rn.un tv rfl rfl (md rfl (Rn.nil (toN ?_))))
     refine Tr.cond rfl (fun hb18=>?_) (fun hb18=>?_)
     ·have hb18:=nT' hb18
      replace h:=bF hb18 h
      refine sr ((md rfl (nt ((Tr.ret ?_)))))
      replace h:=si h; subst h
      exact ⟨.inr rfl,(i_ 2),rfl,fun _ _ _ _ h=>h,tv,mB⟩
     ·have hb18:=nF' hb18
      replace h:=bT hb18 h
      refine Tr.cutB (fun (x24:Bool)=>⟨look [(44,(b_ x24))],Qm Γ.n0 (bxs [(1,.cells ((Qp p1)))]) M,Γ.n0+57⟩) h (fun z h=>?_) (fun z h=>?_)
      ·refine Tr.rgn (Rn.fldP (o':=5) tv rfl rfl (lB (v:=(l_ p1.zB)) rfl rfl rfl rfl (Rn.fldP (o':=7) tv rfl rfl (lB (v:=(i_ p1.Tick)) rfl rfl rfl rfl ?_))))
       obtain ⟨x20,h19,h⟩:=bnd h
       refine Rn.call (args:=[(l_ p1.zB),(i_ p1.Tick)]) tv rfl (H_alphabet_Contains _ _ _ h19) pc9 (md rfl ?_)
       refine Qbz x20 (fun hb21=>?_) (fun hb21=>?_)
       ·replace h:=bT hb21 h
        refine Rn.sk (nw rfl hb21) (Rn.sk (nw rfl hb21) (Rn.sk (nw rfl hb21) (Rn.sk (nw rfl hb21) (Rn.sk (nw rfl hb21) (Rn.pickT (v:=(b_ true)) tv rfl hb21 rfl (md rfl (Rn.nil ?_)))))))
        replace h:=si h; subst h
        exact Qg [] ⟨(sm rfl),tv⟩ ⟨bS rfl rfl rfl,tv⟩ rfl
       ·replace h:=bF hb21 h
        refine Rn.fldP (o':=6) (gw rfl hb21) rfl rfl (Rn.load (v:=(l_ p1.zD)) (gw rfl hb21) rfl (Q6 rfl) rfl rfl (Rn.fldP (o':=7) (gw rfl hb21) rfl rfl (Rn.load (v:=(i_ p1.Tick)) (gw rfl hb21) rfl (Q6 rfl) rfl rfl ?_)))
        obtain ⟨x23,h22,h⟩:=bnd h
        refine Rn.call (args:=[(l_ p1.zD),(i_ p1.Tick)]) (gw rfl hb21) rfl (H_alphabet_Contains _ _ _ h22) pc9 (Rn.pickF (v:=(b_ x23)) tv rfl hb21 rfl (md rfl (Rn.nil ?_)))
        replace h:=si h; subst h
        exact Qg [] ⟨(sm rfl),tv⟩ ⟨bS rfl rfl rfl,tv⟩ rfl
      ·obtain ⟨x24,rfl⟩ : ∃ x,x=z:=⟨_,rfl⟩
       refine Tr.cond rfl (fun hb25=>?_) (fun hb25=>?_)
       ·replace h:=bT hb25 h
        refine sr ((md rfl (nt ((Tr.ret ?_)))))
        replace h:=si h; subst h
        exact ⟨.inr rfl,(i_ 13),rfl,fun _ _ _ _ h=>h,tv,mB⟩
       ·replace h:=bF hb25 h
        refine Tr.skip (toN (sr ((md rfl (nt ((Tr.ret ?_)))))))
        replace h:=si h; subst h
        exact ⟨.inr rfl,(i_ 0),rfl,fun _ _ _ _ h=>h,tv,mB⟩
theorem Qxi {P:Program} {c:Nat} {Qi:(List Int)→Int→Option Bool}
    (H_alphabet_Contains:Qcf P 29 Qi) (hcf:Qq P c=some Qiv) (fuel:Nat):Qiu P c (Qcx Qi fuel):=by
 intro p1 r h M nb
 refine Qbs4 hcf rfl M nb fun Γ hP hnt hn0 hM=>?_
 subst hP hn0
 refine Tr.init [(0,(Qw p1))] rfl ?_
 unfold Qcx at h
 unfold Qiv
 refine sr ((Rn.box (v:=(Qw p1)) (cs:=(Qp p1)) tv rfl rfl rfl rfl rfl (Rn.mov (v:=.nilp) tv rfl (nt ((Tr.seq ?_))))))
 refine Tr.rgnD (by decide) ?_
 refine lB (v:=(Qw p1)) rfl rfl rfl rfl (Rn.fldP (o':=0) tv rfl rfl (Rn.fldP (o':=1) tv rfl rfl (lB (v:=(i_ p1.zA.zM)) rfl rfl rfl rfl ?_)))
 obtain ⟨x2,h3,h⟩:=bnd h
 refine Rn.makes (g:=(fun (x:List Qc)=>[V.nils 3])) tv rfl rfl rfl rfl rfl h3 (Rn.fldP (o':=0) tv rfl rfl (Rn.fldP (o':=1) tv rfl rfl (lB (v:=(i_ p1.zA.zM)) rfl rfl rfl rfl ?_)))
 obtain ⟨x4,h5,h⟩:=bnd h
 refine Rn.makes (g:=(fun (x:Bool)=>[V.d (.bool x)])) tv rfl rfl rfl rfl rfl h5 (Rn.buildT (v:=.agg [(l_ p1.zA.zJ),(i_ p1.zA.zM),(l_ p1.zA.zK),(Qe p1.zA.zL),(l_ p1.zC),(l_ p1.zB),(l_ p1.zD),(i_ p1.Tick),.sl 1 (Γ.n0+11) 0 (Int.toNat p1.zA.zM) (Int.toNat p1.zA.zM),.sl 1 (Γ.n0+15) 0 (Int.toNat p1.zA.zM) (Int.toNat p1.zA.zM)]) tv rfl (Rn.box (v:=.agg [(l_ p1.zA.zJ),(i_ p1.zA.zM),(l_ p1.zA.zK),(Qe p1.zA.zL),(l_ p1.zC),(l_ p1.zB),(l_ p1.zD),(i_ p1.Tick),.sl 1 (Γ.n0+11) 0 (Int.toNat p1.zA.zM) (Int.toNat p1.zA.zM),.sl 1 (Γ.n0+15) 0 (Int.toNat p1.zA.zM) (Int.toNat p1.zA.zM)]) (cs:=[(l_ p1.zA.zJ),(i_ p1.zA.zM),(l_ p1.zA.zK),(Qe p1.zA.zL),(l_ p1.zC),(l_ p1.zB),(l_ p1.zD),(i_ p1.Tick),.sl 1 (Γ.n0+11) 0 (Int.toNat p1.zA.zM) (Int.toNat p1.zA.zM),.sl 1 (Γ.n0+15) 0 (Int.toNat p1.zA.zM) (Int.toNat p1.zA.zM)]) tv rfl rfl rfl rfl rfl (Rn.mov (v:=.ptr (Γ.n0+17) 0) tv rfl ?_)))
 refine Rn.nil ⟨rfl,?_⟩
 refine toN ?_
 refine Tr.cutB (fun (c22:List (List Qc))=>⟨look [(1,.ptr (Γ.n0+1) 0),(3,.ptr (Γ.n0+17) 0)],Qm Γ.n0 (bxs [(1,.cells ((Qp p1))),(11,.cells (Qbb (fun (x:List Qc)=>[V.own 3 (List.map Qv x)]) c22)),(15,.cells (Qbb (fun (x:Bool)=>[V.d (.bool x)]) x4)),(17,.cells ([(l_ p1.zA.zJ),(i_ p1.zA.zM),(l_ p1.zA.zK),(Qe p1.zA.zL),(l_ p1.zC),(l_ p1.zB),(l_ p1.zD),(i_ p1.Tick),.sl 1 (Γ.n0+11) 0 (Int.toNat p1.zA.zM) (Int.toNat p1.zA.zM),.sl 1 (Γ.n0+15) 0 (Int.toNat p1.zA.zM) (Int.toNat p1.zA.zM)]))]) M,Γ.n0+66⟩) h (fun z h=>?_) (fun z h=>?_)
 ·refine Tr.seq ?_
  refine Tr.weak (by show WeakSt Γ _ ⟨look [(0,(Qw p1)),(1,.ptr (Γ.n0+1) 0),(2,.nilp),(3,.ptr (Γ.n0+17) 0),(7,(Qw p1)),(8,.ptr (Γ.n0+1) 0),(9,.ptr (Γ.n0+1) 1),(10,(i_ p1.zA.zM)),(11,.sl 1 (Γ.n0+11) 0 (Int.toNat p1.zA.zM) (Int.toNat p1.zA.zM)),(12,.ptr (Γ.n0+1) 0),(13,.ptr (Γ.n0+1) 1),(14,(i_ p1.zA.zM)),(15,.sl 1 (Γ.n0+15) 0 (Int.toNat p1.zA.zM) (Int.toNat p1.zA.zM)),(16,.agg [(l_ p1.zA.zJ),(i_ p1.zA.zM),(l_ p1.zA.zK),(Qe p1.zA.zL),(l_ p1.zC),(l_ p1.zB),(l_ p1.zD),(i_ p1.Tick),.sl 1 (Γ.n0+11) 0 (Int.toNat p1.zA.zM) (Int.toNat p1.zA.zM),.sl 1 (Γ.n0+15) 0 (Int.toNat p1.zA.zM) (Int.toNat p1.zA.zM)]),(17,.ptr (Γ.n0+17) 0)],Qm Γ.n0 (bxs [(1,.cells ((Qp p1))),(11,.cells (Qbb (fun (x:List Qc)=>[V.own 3 (List.map Qv x)]) x2)),(15,.cells (Qbb (fun (x:Bool)=>[V.d (.bool x)]) x4)),(17,.cells ([(l_ p1.zA.zJ),(i_ p1.zA.zM),(l_ p1.zA.zK),(Qe p1.zA.zL),(l_ p1.zC),(l_ p1.zB),(l_ p1.zD),(i_ p1.Tick),.sl 1 (Γ.n0+11) 0 (Int.toNat p1.zA.zM) (Int.toNat p1.zA.zM),.sl 1 (Γ.n0+15) 0 (Int.toNat p1.zA.zM) (Int.toNat p1.zA.zM)]))]) M,Γ.n0+66⟩; exact Qg [] ⟨(sm rfl),(kPtr rfl),(sm rfl),(kPtr rfl),(sm rfl),(kPtr rfl),(kPtr rfl),(sm rfl),(kSl rfl),(kPtr rfl),(kPtr rfl),(sm rfl),(kSl rfl),(WkV.agg (cS rfl (cS rfl (cS rfl (cS rfl (cS rfl (cS rfl (cS rfl (cS rfl (.cons (kSl rfl) (.cons (kSl rfl) .nil))))))))))),(kPtr rfl),tv⟩ ⟨bS rfl rfl rfl,⟨_,rfl,rfl,(Qbtj rfl h3)⟩,bM rfl rfl fun _=>rfl,⟨_,rfl,rfl,(cS rfl (cS rfl (cS rfl (cS rfl (cS rfl (cS rfl (cS rfl (cS rfl (.cons (kSl rfl) (.cons (kSl rfl) .nil))))))))))⟩,tv⟩ rfl) ?_
  refine Tr.rgn (Rn.fldP (o':=0) tv rfl rfl (Rn.fldP (o':=3) tv rfl rfl (lB (v:=(Qe p1.zA.zL)) rfl rfl rfl rfl (Rn.lenD tv rfl (md rfl (nt ((Tr.block ?_))))))))
  refine Tr.loop (mk:=fun ((x6,c7):Int×(List (List Qc)))=>⟨look [(1,.ptr (Γ.n0+1) 0),(3,.ptr (Γ.n0+17) 0),(20,(Qe p1.zA.zL)),(21,(i_ (p1.zA.zL.length:Int))),(22,(i_ x6))],Qm Γ.n0 (bxs [(1,.cells ((Qp p1))),(11,.cells (Qbb (fun (x:List Qc)=>[V.own 3 (List.map Qv x)]) c7)),(15,.cells (Qbb (fun (x:Bool)=>[V.d (.bool x)]) x4)),(17,.cells ([(l_ p1.zA.zJ),(i_ p1.zA.zM),(l_ p1.zA.zK),(Qe p1.zA.zL),(l_ p1.zC),(l_ p1.zB),(l_ p1.zD),(i_ p1.Tick),.sl 1 (Γ.n0+11) 0 (Int.toNat p1.zA.zM) (Int.toNat p1.zA.zM),.sl 1 (Γ.n0+15) 0 (Int.toNat p1.zA.zM) (Int.toNat p1.zA.zM)]))]) M,Γ.n0+66⟩) h (by exact Qj ⟨(kPtr rfl),(kPtr rfl),(sm rfl),(sm rfl),(sm rfl),tv⟩ ⟨bS rfl rfl rfl,bM rfl rfl fun _=>rfl,bM rfl rfl fun _=>rfl,⟨_,rfl,rfl,(cS rfl (cS rfl (cS rfl (cS rfl (cS rfl (cS rfl (cS rfl (cS rfl (.cons (kSl rfl) (.cons (kSl rfl) .nil))))))))))⟩,tv⟩ rfl) (fun k8 z h=>?_)
  ·obtain ⟨x6,c7⟩:=z
   replace h:_=some _:=h
   refine sr ((Rn.bin tv rfl rfl rfl (nt ((Tr.seq ?_)))))
   refine Tr.cond rfl (fun hb9=>?_) (fun hb9=>?_)
   ·replace h:=ifT hb9 h
    refine Tr.skip (toN (Tr.seq (Tr.block (Tr.seq (Tr.rgn ?_)))))
    obtain ⟨x10,h11,h⟩:=bnd h
    refine Rn.idxD (e:=Qv) tv rfl rfl h11 (Rn.loadCA (vs:=(Qbe x10)) tv rfl rfl rfl (Rn.alloc tv rfl (Rn.store (v:=(Qbh x10)) (cs':=(Qbe x10)) tv rfl rfl rfl rfl rfl rfl (Rn.nil (toN ?_)))))
    refine Tr.rgnD (by decide) ?_
    refine Rn.mov (v:=.ptr (Γ.n0+17) 0) tv rfl (Rn.nilchkP tv rfl (Rn.fldP (o':=8) tv rfl rfl (lB (v:=.sl 1 (Γ.n0+11) 0 (Int.toNat p1.zA.zM) (Int.toNat p1.zA.zM)) rfl rfl rfl rfl (Rn.fldP (o':=0) tv rfl rfl (lB (v:=(i_ x10.From)) rfl rfl rfl rfl (Rn.mov (v:=.ptr (Γ.n0+17) 0) tv rfl (Rn.nilchkP tv rfl (Rn.fldP (o':=8) tv rfl rfl (lB (v:=.sl 1 (Γ.n0+11) 0 (Int.toNat p1.zA.zM) (Int.toNat p1.zA.zM)) rfl rfl rfl rfl (Rn.fldP (o':=0) tv rfl rfl (lB (v:=(i_ x10.From)) rfl rfl rfl rfl ?_)))))))))))
    obtain ⟨⟨⟩,h13,h⟩:=bnd h
    refine Rn.idxA tv rfl rfl h13 ?_
    obtain ⟨x14,h15,h⟩:=bnd h
    refine Rn.loadTA (e:=Qv) tv rfl rfl h15 (lB (v:=(Qbh x10)) rfl rfl rfl rfl (Rn.bslice (xs:=[(Qbh x10)]) (cs:=(Qbe x10)) tv rfl rfl rfl rfl ?_))
    obtain ⟨x16,h17,h⟩:=bnd h
    refine Rn.app (e:=Qv) tv rfl rfl rfl (Qcl rfl rfl rfl) h17 rfl ?_
    obtain ⟨⟨⟩,h19,h⟩:=bnd h
    refine Rn.idxA tv rfl rfl h19 ?_
    obtain ⟨x20,h21,h⟩:=bnd h
    refine Rn.storeTA tv rfl rfl rfl h21 ?_
    refine Rn.nil ⟨rfl,?_⟩
    refine toN (Tr.rgn (Rn.bin tv rfl rfl rfl (md rfl (Rn.nil ?_))))
    exact ⟨_,h,(by exact Qj ⟨(kPtr rfl),(kPtr rfl),(sm rfl),(sm rfl),(sm rfl),tv⟩ ⟨bS rfl rfl rfl,bM rfl rfl fun _=>rfl,bM rfl rfl fun _=>rfl,⟨_,rfl,rfl,(cS rfl (cS rfl (cS rfl (cS rfl (cS rfl (cS rfl (cS rfl (cS rfl (.cons (kSl rfl) (.cons (kSl rfl) .nil))))))))))⟩,tv⟩ rfl)⟩
   ·replace h:=ifF hb9 h
    refine Tr.exit ?_
    replace h:=si h; subst h
    exact Qg [] ⟨(kPtr rfl),(kPtr rfl),tv⟩ ⟨bS rfl rfl rfl,bM rfl rfl fun _=>rfl,bM rfl rfl fun _=>rfl,⟨_,rfl,rfl,(cS rfl (cS rfl (cS rfl (cS rfl (cS rfl (cS rfl (cS rfl (cS rfl (.cons (kSl rfl) (.cons (kSl rfl) .nil))))))))))⟩,tv⟩ rfl
 ·obtain ⟨c22,rfl⟩ : ∃ x,x=z:=⟨_,rfl⟩
  refine Tr.cutB (fun (c33:List Bool)=>⟨look [(3,.ptr (Γ.n0+17) 0)],Qm Γ.n0 (bxs [(1,.cells ((Qp p1))),(11,.cells (Qbb (fun (x:List Qc)=>[V.own 3 (List.map Qv x)]) c22)),(15,.cells (Qbb (fun (x:Bool)=>[V.d (.bool x)]) c33)),(17,.cells ([(l_ p1.zA.zJ),(i_ p1.zA.zM),(l_ p1.zA.zK),(Qe p1.zA.zL),(l_ p1.zC),(l_ p1.zB),(l_ p1.zD),(i_ p1.Tick),.sl 1 (Γ.n0+11) 0 (Int.toNat p1.zA.zM) (Int.toNat p1.zA.zM),.sl 1 (Γ.n0+15) 0 (Int.toNat p1.zA.zM) (Int.toNat p1.zA.zM)]))]) M,Γ.n0+66⟩) h (fun z h=>?_) (fun z h=>?_)
  ·refine sr ((Rn.mov (v:=.ptr (Γ.n0+17) 0) tv rfl (Rn.nilchkP tv rfl (Rn.fldP (o':=9) tv rfl rfl (lB (v:=.sl 1 (Γ.n0+15) 0 (Int.toNat p1.zA.zM) (Int.toNat p1.zA.zM)) rfl rfl rfl rfl (Rn.lenA tv rfl (md rfl (nt ((Tr.block ?_))))))))))
   refine Tr.loop (mk:=fun ((x23,c24):Int×(List Bool))=>⟨look [(1,.ptr (Γ.n0+1) 0),(3,.ptr (Γ.n0+17) 0),(49,(i_ ((Int.toNat p1.zA.zM):Int))),(50,(i_ x23))],Qm Γ.n0 (bxs [(1,.cells ((Qp p1))),(11,.cells (Qbb (fun (x:List Qc)=>[V.own 3 (List.map Qv x)]) c22)),(15,.cells (Qbb (fun (x:Bool)=>[V.d (.bool x)]) c24)),(17,.cells ([(l_ p1.zA.zJ),(i_ p1.zA.zM),(l_ p1.zA.zK),(Qe p1.zA.zL),(l_ p1.zC),(l_ p1.zB),(l_ p1.zD),(i_ p1.Tick),.sl 1 (Γ.n0+11) 0 (Int.toNat p1.zA.zM) (Int.toNat p1.zA.zM),.sl 1 (Γ.n0+15) 0 (Int.toNat p1.zA.zM) (Int.toNat p1.zA.zM)]))]) M,Γ.n0+66⟩) h (by exact Qj ⟨(kPtr rfl),(kPtr rfl),(sm rfl),(sm rfl),tv⟩ ⟨bS rfl rfl rfl,bM rfl rfl fun _=>rfl,bM rfl rfl fun _=>rfl,⟨_,rfl,rfl,(cS rfl (cS rfl (cS rfl (cS rfl (cS rfl (cS rfl (cS rfl (cS rfl (.cons (kSl rfl) (.cons (kSl rfl) .nil))))))))))⟩,tv⟩ rfl) (fun k25 z h=>?_)
   ·obtain ⟨x23,c24⟩:=z
    replace h:_=some _:=h
    refine sr ((Rn.bin tv rfl rfl rfl (nt ((Tr.seq ?_)))))
    refine Tr.cond rfl (fun hb26=>?_) (fun hb26=>?_)
    ·replace h:=ifT hb26 h
     refine Tr.skip (toN (Tr.seq (Tr.block (sr ((md rfl (md rfl (Rn.nil (toN ?_)))))))))
     refine Tr.rgnD (by decide) ?_
     refine Rn.mov (v:=.ptr (Γ.n0+17) 0) tv rfl (Rn.nilchkP tv rfl (Rn.fldP (o':=9) tv rfl rfl (lB (v:=.sl 1 (Γ.n0+15) 0 (Int.toNat p1.zA.zM) (Int.toNat p1.zA.zM)) rfl rfl rfl rfl (md rfl (Rn.fldP (o':=4) tv rfl rfl (lB (v:=(l_ p1.zC)) rfl rfl rfl rfl (md rfl ?_)))))))
     obtain ⟨x28,h27,h⟩:=bnd h
     refine Rn.call (args:=[(l_ p1.zC),(i_ x23)]) tv rfl (H_alphabet_Contains _ _ _ h27) (fun _=>Qbfg hM rfl) (Rn.un tv rfl rfl ?_)
     obtain ⟨⟨⟩,h30,h⟩:=bnd h
     refine Rn.idxA tv rfl rfl h30 ?_
     obtain ⟨x31,h32,h⟩:=bnd h
     refine Rn.storeA (g:=(fun (x:Bool)=>[V.d (.bool x)])) (v:=(b_ (!x28))) (fun _=>rfl) tv rfl rfl rfl rfl rfl h32 ?_
     refine Rn.nil ⟨rfl,?_⟩
     refine toN (Tr.rgn (Rn.bin tv rfl rfl rfl (md rfl (Rn.nil ?_))))
     exact ⟨_,h,(by exact Qj ⟨(kPtr rfl),(kPtr rfl),(sm rfl),(sm rfl),tv⟩ ⟨bS rfl rfl rfl,bM rfl rfl fun _=>rfl,bM rfl rfl fun _=>rfl,⟨_,rfl,rfl,(cS rfl (cS rfl (cS rfl (cS rfl (cS rfl (cS rfl (cS rfl (cS rfl (.cons (kSl rfl) (.cons (kSl rfl) .nil))))))))))⟩,tv⟩ rfl)⟩
    ·replace h:=ifF hb26 h
     refine Tr.exit ?_
     replace h:=si h; subst h
     exact Qg [] ⟨(kPtr rfl),tv⟩ ⟨bS rfl rfl rfl,bM rfl rfl fun _=>rfl,bM rfl rfl fun _=>rfl,⟨_,rfl,rfl,(cS rfl (cS rfl (cS rfl (cS rfl (cS rfl (cS rfl (cS rfl (cS rfl (.cons (kSl rfl) (.cons (kSl rfl) .nil))))))))))⟩,tv⟩ rfl
  ·obtain ⟨c33,rfl⟩ : ∃ x,x=z:=⟨_,rfl⟩
   refine sr ((Rn.mov (v:=.ptr (Γ.n0+17) 0) tv rfl (Rn.mov (v:=.ptr (Γ.n0+17) 0) tv rfl (Rn.nil (toN ?_)))))
   refine Tr.weak (by show WeakSt Γ _ ⟨look [(2,.ptr (Γ.n0+17) 0),(3,.ptr (Γ.n0+17) 0),(65,.ptr (Γ.n0+17) 0)],Qm Γ.n0 (bxs [(1,.cells ((Qp p1))),(11,.cells (Qbb (fun (x:List Qc)=>[(Qe x)]) c22)),(15,.cells (Qbb (fun (x:Bool)=>[V.d (.bool x)]) c33)),(17,.cells ([(l_ p1.zA.zJ),(i_ p1.zA.zM),(l_ p1.zA.zK),(Qe p1.zA.zL),(l_ p1.zC),(l_ p1.zB),(l_ p1.zD),(i_ p1.Tick),.sl 1 (Γ.n0+11) 0 (Int.toNat p1.zA.zM) (Int.toNat p1.zA.zM),.sl 1 (Γ.n0+15) 0 (Int.toNat p1.zA.zM) (Int.toNat p1.zA.zM)]))]) M,Γ.n0+66⟩; exact Qg [] ⟨(kPtr rfl),(kPtr rfl),(kPtr rfl),tv⟩ ⟨bS rfl rfl rfl,⟨_,rfl,rfl,(Qbtk fun _=>rfl)⟩,bM rfl rfl fun _=>rfl,⟨_,rfl,rfl,(cS rfl (cS rfl (cS rfl (cS rfl (cS rfl (cS rfl (cS rfl (cS rfl (.cons (kSl rfl) (.cons (kSl rfl) .nil))))))))))⟩,tv⟩ rfl) ?_
   refine Tr.ret ?_
   obtain ⟨⟨⟩,hl34,h⟩:=bnd h
   obtain ⟨⟨⟩,hl35,h⟩:=bnd h
   replace h:=si h; subst h
   exact ⟨.inr rfl,_,rfl,fun _ _ _ _ h=>h,(show There _ _ from thN rfl),⟨⟨tv,tv,tv,tv,tv,tv,tv,tv,(show There _ _ from thN rfl),(show There _ _ from thN rfl),tv⟩,Qbkq (g:=(fun (x:List Qc)=>[(Qe x)])) (fun _=>⟨tv,tv⟩) _,Qbkq (g:=(fun (x:Bool)=>[V.d (.bool x)])) (fun _=>⟨tv,tv⟩) _,tv⟩,fun k hk=>Qdl hk,lrAt ⟨(by show Qm Γ.n0 _ M (Γ.n0+17)=some (.cells [(l_ p1.zA.zJ),(i_ p1.zA.zM),(l_ p1.zA.zK),(Qe p1.zA.zL),(l_ p1.zC),(l_ p1.zB),(l_ p1.zD),(i_ p1.Tick),.sl 1 (Γ.n0+11) 0 c22.length c22.length,.sl 1 (Γ.n0+15) 0 c33.length c33.length]); rw [Qex hl34,Qex hl35]; exact Q6 rfl),Q6 rfl,Q6 rfl,tv⟩,rfl⟩
theorem Qm6 {P:Program} {c:Nat} (hcf:Qq P c=some Qez):Qey P c (Qbj):=by
 intro x1 x2 k3 k5 k7 k9 r h
 intro M nb hk4 hk6 hk8 hk10
 refine Qtp hcf rfl M nb fun Γ hP hnt hn0 hM=>?_
 subst hP hn0
 refine Tr.init [(0,(Qbh x1)),(1,.ptr k3 0)] rfl ?_
 unfold Qbj at h
 unfold Qez
 refine sr ((Rn.box (v:=(Qbh x1)) (cs:=(Qbe x1)) tv rfl rfl rfl rfl rfl (md rfl (nt ((Tr.seq ?_))))))
 refine Tr.rgnD (by decide) ?_
 refine Rn.fldP (o':=1) tv rfl rfl (lB (v:=(i_ x1.Event)) rfl rfl rfl rfl (Rn.load (v:=.ptr k5 0) tv rfl (Q9 hM hk4) rfl rfl (Rn.nilchkP tv rfl (Rn.fldP (o':=0) tv rfl rfl (Rn.fldP (o':=7) tv rfl rfl (Rn.load (v:=(i_ x2.zN.Tick)) tv rfl (Q9 hM hk6) rfl rfl (Rn.bin tv rfl rfl rfl (md rfl ?_))))))))
 refine Qbz (x1.Event == x2.zN.Tick) (fun hb11=>?_) (fun hb11=>?_)
 ·replace h:=bT hb11 h
  refine Rn.load (v:=.ptr k5 0) (gw rfl hb11) rfl (Q9 hM hk4) rfl rfl (Rn.nilchkP (gw rfl hb11) rfl (Rn.fldP (o':=9) (gw rfl hb11) rfl rfl (Rn.load (v:=.sl 1 k9 0 x2.left_.length x2.left_.length) (gw rfl hb11) rfl (Q9 hM hk6) rfl rfl (Rn.fldP (o':=2) (gw rfl hb11) rfl rfl (Rn.load (v:=(i_ x1.To)) (gw rfl hb11) rfl (Q6 rfl) rfl rfl ?_)))))
  obtain ⟨⟨⟩,h13,h⟩:=bnd h
  refine Rn.idxA (gw rfl hb11) rfl rfl h13 ?_
  obtain ⟨x14,h15,h⟩:=bnd h
  refine Rn.loadA (g:=(fun (x:Bool)=>[V.d (.bool x)])) (v:=(b_ x14)) (f:=0) (fun _=>rfl) (gw rfl hb11) rfl (Q9 hM hk10) h15 rfl rfl (Rn.un (gw rfl hb11) rfl rfl (Rn.pickT (v:=(b_ (!x14))) tv rfl hb11 rfl (md rfl ?_)))
  refine Rn.nil ⟨rfl,?_⟩
  refine toN (Tr.ret ?_)
  replace h:=si h; subst h
  exact ⟨.inr rfl,(b_ (!x14)),rfl,fun _ _ _ _ h=>h,tv,mB⟩
 ·replace h:=bF hb11 h
  refine Rn.sk (nw rfl hb11) (Rn.sk (nw rfl hb11) (Rn.sk (nw rfl hb11) (Rn.sk (nw rfl hb11) (Rn.sk (nw rfl hb11) (Rn.sk (nw rfl hb11) (Rn.sk (nw rfl hb11) (Rn.sk (nw rfl hb11) (Rn.sk (nw rfl hb11) (Rn.pickF (v:=(b_ false)) tv rfl hb11 rfl (md rfl ?_))))))))))
  refine Rn.nil ⟨rfl,?_⟩
  refine toN (Tr.ret ?_)
  replace h:=si h; subst h
  exact ⟨.inr rfl,(b_ false),rfl,fun _ _ _ _ h=>h,tv,mB⟩
theorem Qvj {P:Program} {c:Nat} (hcf:Qq P c=some Qhj) (fuel:Nat):Qfi P c (Qz fuel):=by
 intro s1 f2 g3 cp4 r h
 intro M nb hc5 ho7 hf6
 refine Qtp hcf rfl M nb fun Γ hP hnt hn0 hM=>?_
 subst hP hn0
 refine Tr.init [(0,(Qe s1)),(1,.clo g3 cp4)] rfl ?_
 unfold Qz at h
 unfold Qhj
 refine sr ((md rfl (nt ((Tr.seq (sr ((md rfl (Rn.lenD tv rfl (md rfl (nt ((Tr.block ?_)))))))))))))
 refine Tr.loop (mk:=fun (x9:Int)=>⟨look [(0,(Qe s1)),(1,.clo g3 cp4),(7,(i_ (s1.length:Int))),(8,(i_ x9))],Qm Γ.n0 (bxs []) M,Γ.n0+19⟩) h (by exact Qj ⟨(sm rfl),(kFun hM ho7),(sm rfl),(sm rfl),tv⟩ tv rfl) (fun k10 z h=>?_)
 ·obtain ⟨x9,rfl⟩ : ∃ x,x=z:=⟨_,rfl⟩
  replace h:_=some _:=h
  refine sr ((Rn.bin tv rfl rfl rfl (nt ((Tr.seq ?_)))))
  refine Tr.cond rfl (fun hb11=>?_) (fun hb11=>?_)
  ·replace h:=ifT hb11 h
   refine Tr.skip (toN (Tr.seq (Tr.block (sr ((md rfl (md rfl (nt ((sr ((Rn.mov (v:=.clo g3 cp4) tv rfl (md rfl (md rfl ?_))))))))))))))
   obtain ⟨x12,h13,h⟩:=bnd h
   refine Rn.idxD (e:=Qv) tv rfl rfl h13 (Rn.loadCA (vs:=(Qbe x12)) tv rfl rfl rfl ?_)
   obtain ⟨x15,h14,h⟩:=bnd h
   refine Rn.callvM (args:=[(Qbh x12)] ++ cp4) tv rfl (by rw [hc5]; rfl) (fun M2 nb2 hn hx=>hf6 _ _ h14 M2 nb2 (by omega) ((Qbdj hM).trans hx)) rfl pc9 ?_
   refine Rn.nil (toN ?_)
   refine Tr.cond rfl (fun hb16=>?_) (fun hb16=>?_)
   ·replace h:=bT hb16 h
    refine sr ((md rfl (md rfl (nt ((Tr.ret ?_))))))
    replace h:=si h; subst h
    exact ⟨.inr rfl,(i_ x9),rfl,fun _ _ _ _ h=>h,tv,mB⟩
   ·replace h:=bF hb16 h
    refine Tr.skip (toN (Tr.rgn (Rn.bin tv rfl rfl rfl (md rfl (Rn.nil ?_)))))
    exact ⟨_,h,(by exact Qj ⟨(sm rfl),(kFun hM ho7),(sm rfl),(sm rfl),tv⟩ tv rfl)⟩
  ·replace h:=ifF hb11 h
   refine Tr.exit (toN (sr ((md rfl (nt ((Tr.ret ?_)))))))
   replace h:=si h; subst h
   exact ⟨.inr rfl,(i_ (-1)),rfl,fun _ _ _ _ h=>h,tv,mB⟩
theorem Qrg {P:Program} {c:Nat} {Qz:(List Qc)→(Qc→Option Bool)→Option Int}
    (H_slices_IndexFunc_Edge:Qfi P 67 Qz) (hcf:Qq P c=some Qf6):Qdq P c (Qs Qz):=by
 intro s1 f2 g3 cp4 r h
 intro M nb hc5 ho7 hf6
 refine Qtp hcf rfl M nb fun Γ hP hnt hn0 hM=>?_
 subst hP hn0
 refine Tr.init [(0,(Qe s1)),(1,.clo g3 cp4)] rfl ?_
 unfold Qs at h
 unfold Qf6
 refine sr ((md rfl (nt ((sr ((md rfl (Rn.mov (v:=.clo g3 cp4) tv rfl ?_))))))))
 obtain ⟨x13,h12,h⟩:=bnd h
 refine Rn.callM (args:=[(Qe s1),.clo g3 cp4]) tv rfl (fun M2 nb2 hn hx=>H_slices_IndexFunc_Edge _ _ g3 cp4 _ h12 M2 nb2 hc5 (Qbsv ((Qbdj hM).trans hx) ho7) (fun a9 r10 h11 M3 nb3 hn3 hx3=>hf6 a9 r10 h11 M3 nb3 (by omega) ((Qbdj hM).trans (hx.trans hx3)))) rfl pc9 ?_
 refine Rn.bin tv rfl rfl rfl (md rfl (nt ((Tr.ret ?_))))
 replace h:=si h; subst h
 exact ⟨.inr rfl,(b_ (decide (x13≥0))),rfl,fun _ _ _ _ h=>h,tv,mB⟩
theorem Qm7 {P:Program} {c:Nat} {Qi:(List Int)→Int→Option Bool}
    (H_alphabet_Contains:Qcf P 29 Qi) (hcf:Qq P c=some Qe1):Qe0 P c (Qbk Qi):=by
 intro x1 x2 k3 k5 k7 k9 r h
 intro M nb hk4 hk6 hk8 hk10
 refine Qtp hcf rfl M nb fun Γ hP hnt hn0 hM=>?_
 subst hP hn0
 refine Tr.init [(0,(Qbh x1)),(1,.ptr k3 0)] rfl ?_
 unfold Qbk at h
 unfold Qe1
 refine sr ((Rn.box (v:=(Qbh x1)) (cs:=(Qbe x1)) tv rfl rfl rfl rfl rfl (md rfl (nt ((Tr.seq ?_))))))
 refine Tr.rgnD (by decide) ?_
 refine Rn.load (v:=.ptr k5 0) tv rfl (Q9 hM hk4) rfl rfl (Rn.nilchkP tv rfl (Rn.fldP (o':=9) tv rfl rfl (Rn.load (v:=.sl 1 k9 0 x2.left_.length x2.left_.length) tv rfl (Q9 hM hk6) rfl rfl (Rn.fldP (o':=2) tv rfl rfl (lB (v:=(i_ x1.To)) rfl rfl rfl rfl ?_)))))
 obtain ⟨⟨⟩,h12,h⟩:=bnd h
 refine Rn.idxA tv rfl rfl h12 ?_
 obtain ⟨x13,h14,h⟩:=bnd h
 refine Rn.loadA (g:=(fun (x:Bool)=>[V.d (.bool x)])) (v:=(b_ x13)) (f:=0) (fun _=>rfl) tv rfl (Q9 hM hk10) h14 rfl rfl (md rfl ?_)
 refine Qbz x13 (fun hb15=>?_) (fun hb15=>?_)
 ·replace h:=bT hb15 h
  refine Rn.load (v:=.ptr k5 0) (gw rfl hb15) rfl (Q9 hM hk4) rfl rfl (Rn.nilchkP (gw rfl hb15) rfl (Rn.fldP (o':=0) (gw rfl hb15) rfl rfl (Rn.fldP (o':=6) (gw rfl hb15) rfl rfl (Rn.load (v:=(l_ x2.zN.zD)) (gw rfl hb15) rfl (Q9 hM hk6) rfl rfl (Rn.fldP (o':=1) (gw rfl hb15) rfl rfl (Rn.load (v:=(i_ x1.Event)) (gw rfl hb15) rfl (Q6 rfl) rfl rfl ?_))))))
  obtain ⟨x17,h16,h⟩:=bnd h
  refine Rn.call (args:=[(l_ x2.zN.zD),(i_ x1.Event)]) (gw rfl hb15) rfl (H_alphabet_Contains _ _ _ h16) pc0 (Rn.pickT (v:=(b_ x17)) tv rfl hb15 rfl (md rfl ?_))
  refine Rn.nil ⟨rfl,?_⟩
  refine toN (Tr.ret ?_)
  replace h:=si h; subst h
  exact ⟨.inr rfl,(b_ x17),rfl,fun _ _ _ _ h=>h,tv,mB⟩
 ·replace h:=bF hb15 h
  refine Rn.sk (nw rfl hb15) (Rn.sk (nw rfl hb15) (Rn.sk (nw rfl hb15) (Rn.sk (nw rfl hb15) (Rn.sk (nw rfl hb15) (Rn.sk (nw rfl hb15) (Rn.sk (nw rfl hb15) (Rn.sk (nw rfl hb15) (Rn.pickF (v:=(b_ false)) tv rfl hb15 rfl (md rfl ?_)))))))))
  refine Rn.nil ⟨rfl,?_⟩
  refine toN (Tr.ret ?_)
  replace h:=si h; subst h
  exact ⟨.inr rfl,(b_ false),rfl,fun _ _ _ _ h=>h,tv,mB⟩
theorem Qof {P:Program} {c:Nat} {Qs:(List Qc)→(Qc→Option Bool)→Option Bool} {Qbk:Qc→Ql→Option Bool}
    (H_slices_ContainsFunc_Edge:Qdq P 47 Qs)
    (H_timedsynthesis_task_forces_1:Qe0 P 112 Qbk) (hcf:Qq P c=some Qfk):Qfj P c (Qbp Qs Qbk):=by
 intro t1 state8 k2 k4 k6 r h
 intro M nb hk3 hk5 hk7
 refine Qtp hcf rfl M nb fun Γ hP hnt hn0 hM=>?_
 subst hP hn0
 refine Tr.init [(0,.ptr k2 0),(1,(i_ state8))] rfl ?_
 unfold Qbp at h
 unfold Qfk
 refine sr ((Rn.box (v:=.ptr k2 0) (cs:=[.ptr k2 0]) tv rfl rfl rfl rfl rfl (md rfl (nt ((sr ((lB (v:=.ptr k2 0) rfl rfl rfl rfl (Rn.nilchkP tv rfl (Rn.fldP (o':=8) tv rfl rfl (Rn.load (v:=.sl 1 k4 0 t1.from_.length t1.from_.length) tv rfl (Q9 hM hk3) rfl rfl (md rfl ?_))))))))))))
 obtain ⟨⟨⟩,h10,h⟩:=bnd h
 refine Rn.idxA tv rfl rfl h10 ?_
 obtain ⟨x11,h12,h⟩:=bnd h
 refine Rn.loadA (g:=(fun (x:List Qc)=>[(Qe x)])) (v:=(Qe x11)) (f:=0) (fun _=>rfl) tv rfl (Q9 hM hk5) h12 rfl rfl (Rn.k (v:=.clo 112 [.ptr (Γ.n0+2) 0]) tv rfl rfl rfl ?_)
 obtain ⟨x17,h16,h⟩:=bnd h
 refine Rn.callM (args:=[(Qe x11),.clo 112 [.ptr (Γ.n0+2) 0]]) tv rfl (fun M2 nb2 hn hx=>H_slices_ContainsFunc_Edge _ _ 112 [.ptr (Γ.n0+2) 0] _ h16 M2 nb2 rfl ⟨Q04 (hx _ _ (Q6 rfl)),tv⟩ (fun a13 r14 h15 M3 nb3 hn3 hx3=>H_timedsynthesis_task_forces_1 a13 t1 (Γ.n0+2) k2 k4 k6 r14 h15 M3 nb3 ((hx.trans hx3) _ _ (Q6 rfl)) ((hx.trans hx3) _ _ (Q9 hM hk3)) ((hx.trans hx3) _ _ (Q9 hM hk5)) ((hx.trans hx3) _ _ (Q9 hM hk7)))) rfl pc9 ?_
 refine md rfl (nt ((Tr.ret ?_)))
 replace h:=si h; subst h
 exact ⟨.inr rfl,(b_ x17),rfl,fun _ _ _ _ h=>h,tv,mB⟩
theorem Qog {P:Program} {c:Nat} {Qi:(List Int)→Int→Option Bool} {Qs:(List Qc)→(Qc→Option Bool)→Option Bool} {Qbj:Qc→Ql→Option Bool} {Qbp:Ql→Int→Option Bool}
    (H_alphabet_Contains:Qcf P 29 Qi)
    (H_slices_ContainsFunc_Edge:Qdq P 47 Qs)
    (H_timedsynthesis_task_escape_1:Qey P 93 Qbj)
    (H_timedsynthesis_task_forces:Qfj P 94 Qbp) (hcf:Qq P c=some Qfm) (fuel:Nat):Qfl P c (Qbq Qi Qs Qbj Qbp fuel):=by
 intro t1 state8 k2 k4 k6 r h
 intro M nb hk3 hk5 hk7
 refine Qtp hcf rfl M nb fun Γ hP hnt hn0 hM=>?_
 subst hP hn0
 refine Tr.init [(0,.ptr k2 0),(1,(i_ state8))] rfl ?_
 unfold Qbq at h
 unfold Qfm
 refine sr ((Rn.box (v:=.ptr k2 0) (cs:=[.ptr k2 0]) tv rfl rfl rfl rfl rfl (md rfl (md rfl (nt ((Tr.seq (sr ((lB (v:=.ptr k2 0) rfl rfl rfl rfl (Rn.nilchkP tv rfl (Rn.fldP (o':=8) tv rfl rfl (Rn.load (v:=.sl 1 k4 0 t1.from_.length t1.from_.length) tv rfl (Q9 hM hk3) rfl rfl (md rfl ?_))))))))))))))
 obtain ⟨⟨⟩,h10,h⟩:=bnd h
 refine Rn.idxA tv rfl rfl h10 ?_
 obtain ⟨x11,h12,h⟩:=bnd h
 refine Rn.loadA (g:=(fun (x:List Qc)=>[(Qe x)])) (v:=(Qe x11)) (f:=0) (fun _=>rfl) tv rfl (Q9 hM hk5) h12 rfl rfl (Rn.lenD tv rfl (md rfl (nt ((Tr.block ?_)))))
 refine Tr.loop (mk:=fun (x13:Int)=>⟨look [(1,(i_ state8)),(2,.ptr (Γ.n0+2) 0),(15,(Qe x11)),(16,(i_ (x11.length:Int))),(17,(i_ x13))],Qm Γ.n0 (bxs [(2,.cells ([.ptr k2 0]))]) M,Γ.n0+64⟩) h (by exact Qj ⟨(sm rfl),(kPtr rfl),(sm rfl),(sm rfl),(sm rfl),tv⟩ ⟨⟨_,rfl,rfl,(.cons (Qew (ltB hM hk3)) .nil)⟩,tv⟩ rfl) (fun k14 z h=>?_)
 ·obtain ⟨x13,rfl⟩ : ∃ x,x=z:=⟨_,rfl⟩
  replace h:_=some _:=h
  refine sr ((Rn.bin tv rfl rfl rfl (nt ((Tr.seq ?_)))))
  refine Tr.cond rfl (fun hb15=>?_) (fun hb15=>?_)
  ·replace h:=ifT hb15 h
   refine Tr.skip (toN (Tr.seq (Tr.block (Tr.seq (Tr.rgn ?_)))))
   obtain ⟨x16,h17,h⟩:=bnd h
   refine Rn.idxD (e:=Qv) tv rfl rfl h17 (Rn.loadCA (vs:=(Qbe x16)) tv rfl rfl rfl (Rn.alloc tv rfl (Rn.store (v:=(Qbh x16)) (cs':=(Qbe x16)) tv rfl rfl rfl rfl rfl rfl (Rn.nil (toN ?_)))))
   refine Tr.cutB (fun (x25:Bool)=>⟨look [(1,(i_ state8)),(2,.ptr (Γ.n0+2) 0),(7,.ptr (Γ.n0+7) 0),(15,(Qe x11)),(16,(i_ (x11.length:Int))),(17,(i_ x13)),(39,(b_ x25))],Qm Γ.n0 (bxs [(2,.cells ([.ptr k2 0])),(7,.cells ((Qbe x16)))]) M,Γ.n0+64⟩) h (fun z h=>?_) (fun z h=>?_)
   ·refine Tr.rgnD (by decide) ?_
    refine lB (v:=.ptr k2 0) rfl rfl rfl rfl (Rn.nilchkP tv rfl (Rn.fldP (o':=9) tv rfl rfl (Rn.load (v:=.sl 1 k6 0 t1.left_.length t1.left_.length) tv rfl (Q9 hM hk3) rfl rfl (Rn.fldP (o':=2) tv rfl rfl (lB (v:=(i_ x16.To)) rfl rfl rfl rfl ?_)))))
    obtain ⟨⟨⟩,h19,h⟩:=bnd h
    refine Rn.idxA tv rfl rfl h19 ?_
    obtain ⟨x20,h21,h⟩:=bnd h
    refine Rn.loadA (g:=(fun (x:Bool)=>[V.d (.bool x)])) (v:=(b_ x20)) (f:=0) (fun _=>rfl) tv rfl (Q9 hM hk7) h21 rfl rfl (Rn.un tv rfl rfl (md rfl ?_))
    refine Qbz x20 (fun hb22=>?_) (fun hb22=>?_)
    ·replace h:=bT hb22 h
     refine Rn.sk (nw rfl (nT hb22)) (Rn.sk (nw rfl (nT hb22)) (Rn.sk (nw rfl (nT hb22)) (Rn.sk (nw rfl (nT hb22)) (Rn.sk (nw rfl (nT hb22)) (Rn.sk (nw rfl (nT hb22)) (Rn.sk (nw rfl (nT hb22)) (Rn.sk (nw rfl (nT hb22)) (Rn.pickF (v:=(b_ false)) tv rfl (nT hb22) rfl ?_))))))))
     refine Rn.nil ⟨rfl,?_⟩
     replace h:=si h; subst h
     exact Qg [] ⟨(sm rfl),(kPtr rfl),(kPtr rfl),(sm rfl),(sm rfl),(sm rfl),(sm rfl),tv⟩ ⟨⟨_,rfl,rfl,(.cons (Qew (ltB hM hk3)) .nil)⟩,bS rfl rfl rfl,tv⟩ rfl
    ·replace h:=bF hb22 h
     refine Rn.load (v:=.ptr k2 0) (gw rfl (nF hb22)) rfl (Q6 rfl) rfl rfl (Rn.nilchkP (gw rfl (nF hb22)) rfl (Rn.fldP (o':=0) (gw rfl (nF hb22)) rfl rfl (Rn.fldP (o':=5) (gw rfl (nF hb22)) rfl rfl (Rn.load (v:=(l_ t1.zN.zB)) (gw rfl (nF hb22)) rfl (Q9 hM hk3) rfl rfl (Rn.fldP (o':=1) (gw rfl (nF hb22)) rfl rfl (Rn.load (v:=(i_ x16.Event)) (gw rfl (nF hb22)) rfl (Q6 rfl) rfl rfl ?_))))))
     obtain ⟨x24,h23,h⟩:=bnd h
     refine Rn.call (args:=[(l_ t1.zN.zB),(i_ x16.Event)]) (gw rfl (nF hb22)) rfl (H_alphabet_Contains _ _ _ h23) pc0 (Rn.pickT (v:=(b_ x24)) tv rfl (nF hb22) rfl ?_)
     refine Rn.nil ⟨rfl,?_⟩
     replace h:=si h; subst h
     exact Qg [] ⟨(sm rfl),(kPtr rfl),(kPtr rfl),(sm rfl),(sm rfl),(sm rfl),(sm rfl),tv⟩ ⟨⟨_,rfl,rfl,(.cons (Qew (ltB hM hk3)) .nil)⟩,bS rfl rfl rfl,tv⟩ rfl
   ·obtain ⟨x25,rfl⟩ : ∃ x,x=z:=⟨_,rfl⟩
    refine Tr.cond rfl (fun hb26=>?_) (fun hb26=>?_)
    ·replace h:=bT hb26 h
     refine Tr.seq ?_
     refine Tr.rgnD (by decide) ?_
     refine Rn.fldP (o':=1) tv rfl rfl (lB (v:=(i_ x16.Event)) rfl rfl rfl rfl (md rfl (md rfl ?_)))
     refine Rn.nil ⟨rfl,?_⟩
     refine toN (Tr.ret ?_)
     replace h:=si h; subst h
     exact ⟨.inr rfl,.tup [(i_ 2),(i_ x16.Event)],res2 rfl rfl,(WkV.tup (.cons (.same rfl) (.cons (.same rfl) .nil))).rd,⟨tv,tv,tv⟩,mB⟩
    ·replace h:=bF hb26 h
     refine Tr.skip (toN (Tr.rgn (Rn.bin tv rfl rfl rfl (md rfl (Rn.nil ?_)))))
     exact ⟨_,h,(by exact Qj ⟨(sm rfl),(kPtr rfl),(sm rfl),(sm rfl),(sm rfl),tv⟩ ⟨⟨_,rfl,rfl,(.cons (Qew (ltB hM hk3)) .nil)⟩,tv⟩ rfl)⟩
  ·replace h:=ifF hb15 h
   refine Tr.exit (toN (sr ((lB (v:=.ptr k2 0) rfl rfl rfl rfl (Rn.nilchkP tv rfl (Rn.fldP (o':=8) tv rfl rfl (Rn.load (v:=.sl 1 k4 0 t1.from_.length t1.from_.length) tv rfl (Q9 hM hk3) rfl rfl (md rfl ?_))))))))
   obtain ⟨⟨⟩,h28,h⟩:=bnd h
   refine Rn.idxA tv rfl rfl h28 ?_
   obtain ⟨x29,h30,h⟩:=bnd h
   refine Rn.loadA (g:=(fun (x:List Qc)=>[(Qe x)])) (v:=(Qe x29)) (f:=0) (fun _=>rfl) tv rfl (Q9 hM hk5) h30 rfl rfl (Rn.k (v:=.clo 93 [.ptr (Γ.n0+2) 0]) tv rfl rfl rfl ?_)
   obtain ⟨x35,h34,h⟩:=bnd h
   refine Rn.callM (args:=[(Qe x29),.clo 93 [.ptr (Γ.n0+2) 0]]) tv rfl (fun M2 nb2 hn hx=>H_slices_ContainsFunc_Edge _ _ 93 [.ptr (Γ.n0+2) 0] _ h34 M2 nb2 rfl ⟨Q04 (hx _ _ (Q6 rfl)),tv⟩ (fun a31 r32 h33 M3 nb3 hn3 hx3=>H_timedsynthesis_task_escape_1 a31 t1 (Γ.n0+2) k2 k4 k6 r32 h33 M3 nb3 ((hx.trans hx3) _ _ (Q6 rfl)) ((hx.trans hx3) _ _ (Q9 hM hk3)) ((hx.trans hx3) _ _ (Q9 hM hk5)) ((hx.trans hx3) _ _ (Q9 hM hk7)))) rfl pc9 ?_
   refine md rfl (nt ((Tr.seq ?_)))
   refine Tr.cutB (fun (x39:Bool)=>⟨look [(2,.ptr (Γ.n0+2) 0),(58,(b_ x39))],Qm Γ.n0 (bxs [(2,.cells ([.ptr k2 0]))]) M,Γ.n0+64⟩) h (fun z h=>?_) (fun z h=>?_)
   ·refine Tr.rgn (md rfl (md rfl ?_))
    refine Qbz x35 (fun hb36=>?_) (fun hb36=>?_)
    ·replace h:=bT hb36 h
     refine Rn.load (v:=.ptr k2 0) (gw rfl hb36) rfl (Q6 rfl) rfl rfl (Rn.movD (gw rfl hb36) rfl ?_)
     obtain ⟨x38,h37,h⟩:=bnd h
     refine Rn.callM (args:=[.ptr k2 0,(i_ state8)]) (gw rfl hb36) rfl (fun M2 nb2 hn hx=>H_timedsynthesis_task_forces _ _ k2 k4 k6 _ h37 M2 nb2 (hx _ _ (Q9 hM hk3)) (hx _ _ (Q9 hM hk5)) (hx _ _ (Q9 hM hk7))) rfl pc9 ?_
     refine Rn.un (gw rfl hb36) rfl rfl (Rn.pickT (v:=(b_ (!x38))) tv rfl hb36 rfl (Rn.nil ?_))
     replace h:=si h; subst h
     exact Qg [] ⟨(kPtr rfl),(sm rfl),tv⟩ ⟨⟨_,rfl,rfl,(.cons (Qew (ltB hM hk3)) .nil)⟩,tv⟩ rfl
    ·replace h:=bF hb36 h
     refine Rn.sk (nw rfl hb36) (Rn.sk (nw rfl hb36) (Rn.sk (nw rfl hb36) (Rn.sk (nw rfl hb36) (Rn.pickF (v:=(b_ false)) tv rfl hb36 rfl (Rn.nil ?_)))))
     replace h:=si h; subst h
     exact Qg [] ⟨(kPtr rfl),(sm rfl),tv⟩ ⟨⟨_,rfl,rfl,(.cons (Qew (ltB hM hk3)) .nil)⟩,tv⟩ rfl
   ·obtain ⟨x39,rfl⟩ : ∃ x,x=z:=⟨_,rfl⟩
    refine Tr.cond rfl (fun hb40=>?_) (fun hb40=>?_)
    ·replace h:=bT hb40 h
     refine Tr.seq ?_
     refine Tr.rgnD (by decide) ?_
     refine lB (v:=.ptr k2 0) rfl rfl rfl rfl (Rn.nilchkP tv rfl (Rn.fldP (o':=0) tv rfl rfl (Rn.fldP (o':=7) tv rfl rfl (Rn.load (v:=(i_ t1.zN.Tick)) tv rfl (Q9 hM hk3) rfl rfl (md rfl (md rfl ?_))))))
     refine Rn.nil ⟨rfl,?_⟩
     refine toN (Tr.ret ?_)
     replace h:=si h; subst h
     exact ⟨.inr rfl,.tup [(i_ 4),(i_ t1.zN.Tick)],res2 rfl rfl,(WkV.tup (.cons (.same rfl) (.cons (.same rfl) .nil))).rd,⟨tv,tv,tv⟩,mB⟩
    ·replace h:=bF hb40 h
     refine Tr.skip (toN (sr ((md rfl (md rfl (nt ((Tr.ret ?_))))))))
     replace h:=si h; subst h
     exact ⟨.inr rfl,.tup [(i_ 0),(i_ (-1))],res2 rfl rfl,(WkV.tup (.cons (.same rfl) (.cons (.same rfl) .nil))).rd,⟨tv,tv,tv⟩,mB⟩
theorem Qmd {P:Program} {c:Nat} {Qi:(List Int)→Int→Option Bool}
    (H_alphabet_Contains:Qcf P 29 Qi) (hcf:Qq P c=some Qen) (fuel:Nat):Qdm P c (Qu Qi fuel):=by
 intro t1 k2 k4 k6 r h
 intro M nb hk3 hk5 hk7
 refine Qtp hcf rfl M nb fun Γ hP hnt hn0 hM=>?_
 subst hP hn0
 refine Tr.init [(0,.ptr k2 0)] rfl ?_
 unfold Qu at h
 unfold Qen
 refine sr ((Rn.movTC (v:=.nils 1) tv (nt ((sr ((Rn.mov (v:=.ptr k2 0) tv rfl (Rn.nilchkP tv rfl (Rn.fldP (o':=0) tv rfl rfl (Rn.fldP (o':=0) tv rfl rfl (Rn.fldP (o':=1) tv rfl rfl (Rn.load (v:=(i_ t1.zN.zA.zM)) tv rfl (Q9 hM hk3) rfl rfl ?_))))))))))))
 obtain ⟨x8,h9,h⟩:=bnd h
 refine Rn.makes (g:=(fun (x:Int)=>[V.d (.int .i64 x)])) tv rfl rfl rfl rfl rfl h9 (Rn.movTF (v:=.sl 1 (Γ.n0+15) 0 (Int.toNat t1.zN.zA.zM) (Int.toNat t1.zN.zA.zM)) tv rfl rfl (Rn.nil (toN ?_)))
 refine Tr.cutB (fun (c32:List Int)=>⟨look [(0,.ptr k2 0),(3,.sl 1 (Γ.n0+15) 0 (Int.toNat t1.zN.zA.zM) (Int.toNat t1.zN.zA.zM))],Qm Γ.n0 (bxs [(15,.cells (Qbb (fun (x:Int)=>[V.d (.int .i64 x)]) c32))]) M,Γ.n0+102⟩) h (fun z h=>?_) (fun z h=>?_)
 ·refine sr ((Rn.mov (v:=.sl 1 (Γ.n0+15) 0 (Int.toNat t1.zN.zA.zM) (Int.toNat t1.zN.zA.zM)) tv rfl (Rn.lenA tv rfl (md rfl (nt ((Tr.block ?_)))))))
  refine Tr.loop (mk:=fun ((x10,c11):Int×(List Int))=>⟨look [(0,.ptr k2 0),(3,.sl 1 (Γ.n0+15) 0 (Int.toNat t1.zN.zA.zM) (Int.toNat t1.zN.zA.zM)),(17,(i_ ((Int.toNat t1.zN.zA.zM):Int))),(18,(i_ x10))],Qm Γ.n0 (bxs [(15,.cells (Qbb (fun (x:Int)=>[V.d (.int .i64 x)]) c11))]) M,Γ.n0+102⟩) h (by exact Qj ⟨(Qew (ltB hM hk3)),(kSl rfl),(sm rfl),(sm rfl),tv⟩ ⟨bM rfl rfl fun _=>rfl,tv⟩ rfl) (fun k12 z h=>?_)
  ·obtain ⟨x10,c11⟩:=z
   replace h:_=some _:=h
   refine sr ((Rn.bin tv rfl rfl rfl (nt ((Tr.seq ?_)))))
   refine Tr.cond rfl (fun hb13=>?_) (fun hb13=>?_)
   ·replace h:=ifT hb13 h
    refine Tr.skip (toN ?_)
    refine Tr.cutB (fun (c31:List Int)=>⟨look [(0,.ptr k2 0),(3,.sl 1 (Γ.n0+15) 0 (Int.toNat t1.zN.zA.zM) (Int.toNat t1.zN.zA.zM)),(17,(i_ ((Int.toNat t1.zN.zA.zM):Int))),(18,(i_ x10))],Qm Γ.n0 (bxs [(15,.cells (Qbb (fun (x:Int)=>[V.d (.int .i64 x)]) c31))]) M,Γ.n0+102⟩) h (fun z h=>?_) (fun z h=>?_)
    ·refine Tr.block (sr ((md rfl (md rfl (nt ((sr ((Rn.mov (v:=.sl 1 (Γ.n0+15) 0 (Int.toNat t1.zN.zA.zM) (Int.toNat t1.zN.zA.zM)) tv rfl (md rfl ?_))))))))))
     obtain ⟨⟨⟩,h15,h⟩:=bnd h
     refine Rn.idxA tv rfl rfl h15 ?_
     obtain ⟨x16,h17,h⟩:=bnd h
     refine Rn.storeA (g:=(fun (x:Int)=>[V.d (.int .i64 x)])) (v:=(i_ (-1))) (fun _=>rfl) tv rfl rfl rfl rfl rfl h17 (Rn.nil (toN ?_))
     refine Tr.cutB (fun (x25:Bool)=>⟨look [(0,.ptr k2 0),(3,.sl 1 (Γ.n0+15) 0 (Int.toNat t1.zN.zA.zM) (Int.toNat t1.zN.zA.zM)),(4,(i_ x10)),(17,(i_ ((Int.toNat t1.zN.zA.zM):Int))),(18,(i_ x10)),(40,(b_ x25))],Qm Γ.n0 (bxs [(15,.cells (Qbb (fun (x:Int)=>[V.d (.int .i64 x)]) x16))]) M,Γ.n0+102⟩) h (fun z h=>?_) (fun z h=>?_)
     ·refine Tr.rgn (Rn.mov (v:=.ptr k2 0) tv rfl (Rn.nilchkP tv rfl (Rn.fldP (o':=9) tv rfl rfl (Rn.load (v:=.sl 1 k6 0 t1.left_.length t1.left_.length) tv rfl (Q9 hM hk3) rfl rfl (md rfl ?_)))))
      obtain ⟨⟨⟩,h19,h⟩:=bnd h
      refine Rn.idxA tv rfl rfl h19 ?_
      obtain ⟨x20,h21,h⟩:=bnd h
      refine Rn.loadA (g:=(fun (x:Bool)=>[V.d (.bool x)])) (v:=(b_ x20)) (f:=0) (fun _=>rfl) tv rfl (Q9 hM hk7) h21 rfl rfl (md rfl ?_)
      refine Qbz x20 (fun hb22=>?_) (fun hb22=>?_)
      ·replace h:=bT hb22 h
       refine Rn.mov (v:=.ptr k2 0) (gw rfl hb22) rfl (Rn.nilchkP (gw rfl hb22) rfl (Rn.fldP (o':=0) (gw rfl hb22) rfl rfl (Rn.fldP (o':=0) (gw rfl hb22) rfl rfl (Rn.fldP (o':=2) (gw rfl hb22) rfl rfl (Rn.load (v:=(l_ t1.zN.zA.zK)) (gw rfl hb22) rfl (Q9 hM hk3) rfl rfl (Rn.movD (gw rfl hb22) rfl ?_))))))
       obtain ⟨x24,h23,h⟩:=bnd h
       refine Rn.call (args:=[(l_ t1.zN.zA.zK),(i_ x10)]) (gw rfl hb22) rfl (H_alphabet_Contains _ _ _ h23) pc9 (Rn.pickT (v:=(b_ x24)) tv rfl hb22 rfl (Rn.nil ?_))
       replace h:=si h; subst h
       exact Qg [] ⟨(Qew (ltB hM hk3)),(kSl rfl),(sm rfl),(sm rfl),(sm rfl),(sm rfl),tv⟩ ⟨bM rfl rfl fun _=>rfl,tv⟩ rfl
      ·replace h:=bF hb22 h
       refine Rn.sk (nw rfl hb22) (Rn.sk (nw rfl hb22) (Rn.sk (nw rfl hb22) (Rn.sk (nw rfl hb22) (Rn.sk (nw rfl hb22) (Rn.sk (nw rfl hb22) (Rn.sk (nw rfl hb22) (Rn.sk (nw rfl hb22) (Rn.pickF (v:=(b_ false)) tv rfl hb22 rfl (Rn.nil ?_)))))))))
       replace h:=si h; subst h
       exact Qg [] ⟨(Qew (ltB hM hk3)),(kSl rfl),(sm rfl),(sm rfl),(sm rfl),(sm rfl),tv⟩ ⟨bM rfl rfl fun _=>rfl,tv⟩ rfl
     ·obtain ⟨x25,rfl⟩ : ∃ x,x=z:=⟨_,rfl⟩
      refine Tr.cond rfl (fun hb26=>?_) (fun hb26=>?_)
      ·replace h:=bT hb26 h
       refine Tr.rgn (Rn.mov (v:=.sl 1 (Γ.n0+15) 0 (Int.toNat t1.zN.zA.zM) (Int.toNat t1.zN.zA.zM)) tv rfl (md rfl ?_))
       obtain ⟨⟨⟩,h28,h⟩:=bnd h
       refine Rn.idxA tv rfl rfl h28 ?_
       obtain ⟨x29,h30,h⟩:=bnd h
       refine Rn.storeA (g:=(fun (x:Int)=>[V.d (.int .i64 x)])) (v:=(i_ 0)) (fun _=>rfl) tv rfl rfl rfl rfl rfl h30 (Rn.nil ?_)
       replace h:=si h; subst h
       exact Qg [] ⟨(Qew (ltB hM hk3)),(kSl rfl),(sm rfl),(sm rfl),tv⟩ ⟨bM rfl rfl fun _=>rfl,tv⟩ rfl
      ·replace h:=bF hb26 h
       refine Tr.skip ?_
       replace h:=si h; subst h
       exact Qg [] ⟨(Qew (ltB hM hk3)),(kSl rfl),(sm rfl),(sm rfl),tv⟩ ⟨bM rfl rfl fun _=>rfl,tv⟩ rfl
    ·obtain ⟨c31,rfl⟩ : ∃ x,x=z:=⟨_,rfl⟩
     refine Tr.rgn (Rn.bin tv rfl rfl rfl (md rfl (Rn.nil ?_)))
     exact ⟨_,h,(by exact Qj ⟨(Qew (ltB hM hk3)),(kSl rfl),(sm rfl),(sm rfl),tv⟩ ⟨bM rfl rfl fun _=>rfl,tv⟩ rfl)⟩
   ·replace h:=ifF hb13 h
    refine Tr.exit ?_
    replace h:=si h; subst h
    exact Qg [] ⟨(Qew (ltB hM hk3)),(kSl rfl),tv⟩ ⟨bM rfl rfl fun _=>rfl,tv⟩ rfl
 ·obtain ⟨c32,rfl⟩ : ∃ x,x=z:=⟨_,rfl⟩
  refine Tr.cutB (fun (c77:List Int)=>⟨look [(3,.sl 1 (Γ.n0+15) 0 (Int.toNat t1.zN.zA.zM) (Int.toNat t1.zN.zA.zM))],Qm Γ.n0 (bxs [(15,.cells (Qbb (fun (x:Int)=>[V.d (.int .i64 x)]) c77))]) M,Γ.n0+102⟩) h (fun z h=>?_) (fun z h=>?_)
  ·refine sr ((md rfl (md rfl (nt ((Tr.block ?_))))))
   refine Tr.loop (mk:=fun ((round33,more34,c35):Int×Bool×(List Int))=>⟨look [(0,.ptr k2 0),(3,.sl 1 (Γ.n0+15) 0 (Int.toNat t1.zN.zA.zM) (Int.toNat t1.zN.zA.zM)),(5,(i_ round33)),(6,(b_ more34))],Qm Γ.n0 (bxs [(15,.cells (Qbb (fun (x:Int)=>[V.d (.int .i64 x)]) c35))]) M,Γ.n0+102⟩) h (by exact Qj ⟨(Qew (ltB hM hk3)),(kSl rfl),(sm rfl),(sm rfl),tv⟩ ⟨bM rfl rfl fun _=>rfl,tv⟩ rfl) (fun k36 z h=>?_)
   ·obtain ⟨round33,more34,c35⟩:=z
    replace h:_=some _:=h
    refine Tr.seq (sr ((md rfl (Rn.nil (toN ?_)))))
    refine Tr.cond rfl (fun hb37=>?_) (fun hb37=>?_)
    ·replace h:=bT hb37 h
     refine Tr.skip (toN ?_)
     refine Tr.cutB (fun ((more75,c76):Bool×(List Int))=>⟨look [(0,.ptr k2 0),(3,.sl 1 (Γ.n0+15) 0 (Int.toNat t1.zN.zA.zM) (Int.toNat t1.zN.zA.zM)),(5,(i_ round33)),(6,(b_ more75))],Qm Γ.n0 (bxs [(15,.cells (Qbb (fun (x:Int)=>[V.d (.int .i64 x)]) c76))]) M,Γ.n0+102⟩) h (fun z h=>?_) (fun z h=>?_)
     ·refine Tr.block (sr ((md rfl (nt ((sr ((Rn.mov (v:=.ptr k2 0) tv rfl (Rn.nilchkP tv rfl (Rn.fldP (o':=0) tv rfl rfl (Rn.fldP (o':=0) tv rfl rfl (Rn.fldP (o':=3) tv rfl rfl (Rn.load (v:=(Qe t1.zN.zA.zL)) tv rfl (Q9 hM hk3) rfl rfl (Rn.lenD tv rfl (md rfl (nt ((Tr.block ?_))))))))))))))))))
      refine Tr.loop (mk:=fun ((more38,x39,c40):Bool×Int×(List Int))=>⟨look [(0,.ptr k2 0),(3,.sl 1 (Γ.n0+15) 0 (Int.toNat t1.zN.zA.zM) (Int.toNat t1.zN.zA.zM)),(5,(i_ round33)),(6,(b_ more38)),(53,(Qe t1.zN.zA.zL)),(54,(i_ (t1.zN.zA.zL.length:Int))),(55,(i_ x39))],Qm Γ.n0 (bxs [(15,.cells (Qbb (fun (x:Int)=>[V.d (.int .i64 x)]) c40))]) M,Γ.n0+102⟩) h (by exact Qj ⟨(Qew (ltB hM hk3)),(kSl rfl),(sm rfl),(sm rfl),(sm rfl),(sm rfl),(sm rfl),tv⟩ ⟨bM rfl rfl fun _=>rfl,tv⟩ rfl) (fun k41 z h=>?_)
      ·obtain ⟨more38,x39,c40⟩:=z
       replace h:_=some _:=h
       refine sr ((Rn.bin tv rfl rfl rfl (nt ((Tr.seq ?_)))))
       refine Tr.cond rfl (fun hb42=>?_) (fun hb42=>?_)
       ·replace h:=ifT hb42 h
        refine Tr.skip (toN ?_)
        refine Tr.cutB (fun ((more70,c71,c72,c73,c74):Bool×(List Int)×Int×Int×Int)=>⟨look [(0,.ptr k2 0),(3,.sl 1 (Γ.n0+15) 0 (Int.toNat t1.zN.zA.zM) (Int.toNat t1.zN.zA.zM)),(5,(i_ round33)),(6,(b_ more70)),(53,(Qe t1.zN.zA.zL)),(54,(i_ (t1.zN.zA.zL.length:Int))),(55,(i_ x39))],Qm Γ.n0 (bxs [(8,.cells ([(i_ c72),(i_ c73),(i_ c74)])),(15,.cells (Qbb (fun (x:Int)=>[V.d (.int .i64 x)]) c71))]) M,Γ.n0+102⟩) h (fun z h=>?_) (fun z h=>?_)
        ·refine Tr.block (Tr.seq (Tr.rgn ?_))
         obtain ⟨x43,h44,h⟩:=bnd h
         refine Rn.idxD (e:=Qv) tv rfl rfl h44 (Rn.loadCA (vs:=(Qbe x43)) tv rfl rfl rfl (Rn.alloc tv rfl (Rn.store (v:=(Qbh x43)) (cs':=(Qbe x43)) tv rfl rfl rfl rfl rfl rfl (Rn.nil (toN ?_)))))
         refine Tr.cutB (fun (x64:Bool)=>⟨look [(0,.ptr k2 0),(3,.sl 1 (Γ.n0+15) 0 (Int.toNat t1.zN.zA.zM) (Int.toNat t1.zN.zA.zM)),(5,(i_ round33)),(6,(b_ more38)),(8,.ptr (Γ.n0+8) 0),(53,(Qe t1.zN.zA.zL)),(54,(i_ (t1.zN.zA.zL.length:Int))),(55,(i_ x39)),(94,(b_ x64))],Qm Γ.n0 (bxs [(8,.cells ((Qbe x43))),(15,.cells (Qbb (fun (x:Int)=>[V.d (.int .i64 x)]) c40))]) M,Γ.n0+102⟩) h (fun z h=>?_) (fun z h=>?_)
         ·refine Tr.rgnD (by decide) ?_
          refine Rn.mov (v:=.ptr k2 0) tv rfl (Rn.nilchkP tv rfl (Rn.fldP (o':=9) tv rfl rfl (Rn.load (v:=.sl 1 k6 0 t1.left_.length t1.left_.length) tv rfl (Q9 hM hk3) rfl rfl (Rn.fldP (o':=0) tv rfl rfl (lB (v:=(i_ x43.From)) rfl rfl rfl rfl ?_)))))
          obtain ⟨⟨⟩,h46,h⟩:=bnd h
          refine Rn.idxA tv rfl rfl h46 ?_
          obtain ⟨x47,h48,h⟩:=bnd h
          refine Rn.loadA (g:=(fun (x:Bool)=>[V.d (.bool x)])) (v:=(b_ x47)) (f:=0) (fun _=>rfl) tv rfl (Q9 hM hk7) h48 rfl rfl (md rfl ?_)
          refine Qbz x47 (fun hb49=>?_) (fun hb49=>?_)
          ·replace h:=bT hb49 h
           refine Rn.mov (v:=.ptr k2 0) (gw rfl hb49) rfl (Rn.nilchkP (gw rfl hb49) rfl (Rn.fldP (o':=9) (gw rfl hb49) rfl rfl (Rn.load (v:=.sl 1 k6 0 t1.left_.length t1.left_.length) (gw rfl hb49) rfl (Q9 hM hk3) rfl rfl (Rn.fldP (o':=2) (gw rfl hb49) rfl rfl (Rn.load (v:=(i_ x43.To)) (gw rfl hb49) rfl (Q6 rfl) rfl rfl ?_)))))
           obtain ⟨⟨⟩,h51,h⟩:=bnd h
           refine Rn.idxA (gw rfl hb49) rfl rfl h51 ?_
           obtain ⟨x52,h53,h⟩:=bnd h
           refine Rn.loadA (g:=(fun (x:Bool)=>[V.d (.bool x)])) (v:=(b_ x52)) (f:=0) (fun _=>rfl) (gw rfl hb49) rfl (Q9 hM hk7) h53 rfl rfl (Rn.pickT (v:=(b_ x52)) tv rfl hb49 rfl (md rfl ?_))
           refine Qbz x52 (fun hb54=>?_) (fun hb54=>?_)
           ·replace h:=bT hb54 h
            refine Rn.mov (v:=.sl 1 (Γ.n0+15) 0 (Int.toNat t1.zN.zA.zM) (Int.toNat t1.zN.zA.zM)) (gw rfl hb54) rfl (Rn.fldP (o':=0) (gw rfl hb54) rfl rfl (Rn.load (v:=(i_ x43.From)) (gw rfl hb54) rfl (Q6 rfl) rfl rfl ?_))
            obtain ⟨⟨⟩,h56,h⟩:=bnd h
            refine Rn.idxA (gw rfl hb54) rfl rfl h56 ?_
            obtain ⟨x57,h58,h⟩:=bnd h
            refine Rn.loadA (g:=(fun (x:Int)=>[V.d (.int .i64 x)])) (v:=(i_ x57)) (f:=0) (fun _=>rfl) (gw rfl hb54) rfl (Q6 rfl) h58 rfl rfl (Rn.bin (gw rfl hb54) rfl rfl rfl (Rn.pickT (v:=(b_ (decide (x57 < 0)))) tv rfl hb54 rfl (md rfl ?_)))
            refine Qbz (decide (x57 < 0)) (fun hb59=>?_) (fun hb59=>?_)
            ·replace h:=ifT hb59 h
             refine Rn.mov (v:=.sl 1 (Γ.n0+15) 0 (Int.toNat t1.zN.zA.zM) (Int.toNat t1.zN.zA.zM)) (gw rfl hb59) rfl (Rn.fldP (o':=2) (gw rfl hb59) rfl rfl (Rn.load (v:=(i_ x43.To)) (gw rfl hb59) rfl (Q6 rfl) rfl rfl ?_))
             obtain ⟨⟨⟩,h61,h⟩:=bnd h
             refine Rn.idxA (gw rfl hb59) rfl rfl h61 ?_
             obtain ⟨x62,h63,h⟩:=bnd h
             refine Rn.loadA (g:=(fun (x:Int)=>[V.d (.int .i64 x)])) (v:=(i_ x62)) (f:=0) (fun _=>rfl) (gw rfl hb59) rfl (Q6 rfl) h63 rfl rfl (Rn.movD (gw rfl hb59) rfl (Rn.bin (gw rfl hb59) rfl rfl rfl (Rn.bin (gw rfl hb59) rfl rfl rfl (Rn.pickT (v:=(b_ (x62 == (IntKind.wrap .i64 (round33 - 1))))) tv rfl hb59 rfl ?_))))
             refine Rn.nil ⟨rfl,?_⟩
             replace h:=si h; subst h
             exact Qg [] ⟨(Qew (ltB hM hk3)),(kSl rfl),(sm rfl),(sm rfl),(kPtr rfl),(sm rfl),(sm rfl),(sm rfl),(sm rfl),tv⟩ ⟨bS rfl rfl rfl,bM rfl rfl fun _=>rfl,tv⟩ rfl
            ·replace h:=ifF hb59 h
             refine Rn.sk (nw rfl hb59) (Rn.sk (nw rfl hb59) (Rn.sk (nw rfl hb59) (Rn.sk (nw rfl hb59) (Rn.sk (nw rfl hb59) (Rn.sk (nw rfl hb59) (Rn.sk (nw rfl hb59) (Rn.sk (nw rfl hb59) (Rn.pickF (v:=(b_ false)) tv rfl hb59 rfl ?_))))))))
             refine Rn.nil ⟨rfl,?_⟩
             replace h:=si h; subst h
             exact Qg [] ⟨(Qew (ltB hM hk3)),(kSl rfl),(sm rfl),(sm rfl),(kPtr rfl),(sm rfl),(sm rfl),(sm rfl),(sm rfl),tv⟩ ⟨bS rfl rfl rfl,bM rfl rfl fun _=>rfl,tv⟩ rfl
           ·replace h:=bF hb54 h
            refine Rn.sk (nw rfl hb54) (Rn.sk (nw rfl hb54) (Rn.sk (nw rfl hb54) (Rn.sk (nw rfl hb54) (Rn.sk (nw rfl hb54) (Rn.sk (nw rfl hb54) (Rn.pickF (v:=(b_ false)) tv rfl hb54 rfl (md rfl (sF rfl rfl (sF rfl rfl (sF rfl rfl (sF rfl rfl (sF rfl rfl (sF rfl rfl (sF rfl rfl (sF rfl rfl (Rn.pickF (v:=(b_ false)) tv rfl rfl rfl ?_))))))))))))))))
            refine Rn.nil ⟨rfl,?_⟩
            replace h:=si h; subst h
            exact Qg [] ⟨(Qew (ltB hM hk3)),(kSl rfl),(sm rfl),(sm rfl),(kPtr rfl),(sm rfl),(sm rfl),(sm rfl),(sm rfl),tv⟩ ⟨bS rfl rfl rfl,bM rfl rfl fun _=>rfl,tv⟩ rfl
          ·replace h:=bF hb49 h
           refine Rn.sk (nw rfl hb49) (Rn.sk (nw rfl hb49) (Rn.sk (nw rfl hb49) (Rn.sk (nw rfl hb49) (Rn.sk (nw rfl hb49) (Rn.sk (nw rfl hb49) (Rn.sk (nw rfl hb49) (Rn.sk (nw rfl hb49) (Rn.pickF (v:=(b_ false)) tv rfl hb49 rfl (md rfl (sF rfl rfl (sF rfl rfl (sF rfl rfl (sF rfl rfl (sF rfl rfl (sF rfl rfl (Rn.pickF (v:=(b_ false)) tv rfl rfl rfl (md rfl (sF rfl rfl (sF rfl rfl (sF rfl rfl (sF rfl rfl (sF rfl rfl (sF rfl rfl (sF rfl rfl (sF rfl rfl (Rn.pickF (v:=(b_ false)) tv rfl rfl rfl ?_))))))))))))))))))))))))))
           refine Rn.nil ⟨rfl,?_⟩
           replace h:=si h; subst h
           exact Qg [] ⟨(Qew (ltB hM hk3)),(kSl rfl),(sm rfl),(sm rfl),(kPtr rfl),(sm rfl),(sm rfl),(sm rfl),(sm rfl),tv⟩ ⟨bS rfl rfl rfl,bM rfl rfl fun _=>rfl,tv⟩ rfl
         ·obtain ⟨x64,rfl⟩ : ∃ x,x=z:=⟨_,rfl⟩
          refine Tr.cond rfl (fun hb65=>?_) (fun hb65=>?_)
          ·replace h:=bT hb65 h
           refine Tr.rgn (Rn.mov (v:=.sl 1 (Γ.n0+15) 0 (Int.toNat t1.zN.zA.zM) (Int.toNat t1.zN.zA.zM)) tv rfl (Rn.fldP (o':=0) tv rfl rfl (lB (v:=(i_ x43.From)) rfl rfl rfl rfl (md rfl ?_))))
           obtain ⟨⟨⟩,h67,h⟩:=bnd h
           refine Rn.idxA tv rfl rfl h67 ?_
           obtain ⟨x68,h69,h⟩:=bnd h
           refine Rn.storeA (g:=(fun (x:Int)=>[V.d (.int .i64 x)])) (v:=(i_ round33)) (fun _=>rfl) tv rfl rfl rfl rfl rfl h69 (md rfl (Rn.nil ?_))
           replace h:=si h; subst h
           exact Qg [] ⟨(Qew (ltB hM hk3)),(kSl rfl),(sm rfl),(sm rfl),(sm rfl),(sm rfl),(sm rfl),tv⟩ ⟨bS rfl rfl rfl,bM rfl rfl fun _=>rfl,tv⟩ rfl
          ·replace h:=bF hb65 h
           refine Tr.skip ?_
           replace h:=si h; subst h
           exact Qg [] ⟨(Qew (ltB hM hk3)),(kSl rfl),(sm rfl),(sm rfl),(sm rfl),(sm rfl),(sm rfl),tv⟩ ⟨bS rfl rfl rfl,bM rfl rfl fun _=>rfl,tv⟩ rfl
        ·obtain ⟨more70,c71,c72,c73,c74⟩:=z
         refine Tr.rgn (Rn.bin tv rfl rfl rfl (md rfl (Rn.nil ?_)))
         exact ⟨_,h,(by exact Qj ⟨(Qew (ltB hM hk3)),(kSl rfl),(sm rfl),(sm rfl),(sm rfl),(sm rfl),(sm rfl),tv⟩ ⟨bM rfl rfl fun _=>rfl,tv⟩ rfl)⟩
       ·replace h:=ifF hb42 h
        refine Tr.exit ?_
        replace h:=si h; subst h
        exact Qg [] ⟨(Qew (ltB hM hk3)),(kSl rfl),(sm rfl),(sm rfl),tv⟩ ⟨bM rfl rfl fun _=>rfl,tv⟩ rfl
     ·obtain ⟨more75,c76⟩:=z
      refine Tr.rgn (md rfl (Rn.bin tv rfl rfl rfl (md rfl (Rn.nil ?_))))
      exact ⟨_,h,(by exact Qj ⟨(Qew (ltB hM hk3)),(kSl rfl),(sm rfl),(sm rfl),tv⟩ ⟨bM rfl rfl fun _=>rfl,tv⟩ rfl)⟩
    ·replace h:=bF hb37 h
     refine Tr.exit ?_
     replace h:=si h; subst h
     exact Qg [] ⟨(kSl rfl),tv⟩ ⟨bM rfl rfl fun _=>rfl,tv⟩ rfl
  ·obtain ⟨c77,rfl⟩ : ∃ x,x=z:=⟨_,rfl⟩
   refine sr ((Rn.movTF (v:=.sl 1 (Γ.n0+15) 0 (Int.toNat t1.zN.zA.zM) (Int.toNat t1.zN.zA.zM)) tv rfl rfl (Rn.movTF (v:=.sl 1 (Γ.n0+15) 0 (Int.toNat t1.zN.zA.zM) (Int.toNat t1.zN.zA.zM)) tv rfl rfl (Rn.nil (toN ?_)))))
   obtain ⟨⟨⟩,hl78,h⟩:=bnd h
   refine Tr.weak (by show WeakSt Γ _ ⟨look [(2,(l_ c77)),(3,(l_ c77)),(101,(l_ c77))],Qm Γ.n0 (bxs []) M,Γ.n0+102⟩; exact Qeb 15 _ rfl (Q6v (fun _=>rfl) _) ⟨(fSlA (fun _=>rfl) (Qex hl78)),(fSlA (fun _=>rfl) (Qex hl78)),(fSlA (fun _=>rfl) (Qex hl78)),tv⟩ tv rfl) ?_
   refine Tr.ret ?_
   replace h:=si h; subst h
   exact ⟨.inr rfl,(l_ c77),rfl,fun _ _ _ _ h=>h,tv,mB⟩
theorem Qp1 {P:Program} {c:Nat} {Qu:Ql→Option ((List Int))} {Qbq:Ql→Int→Option (Int×Int)}
    (H_timedsynthesis_task_distances:Qdm P 46 Qu)
    (H_timedsynthesis_task_escape:Qfl P 70 Qbq) (hcf:Qq P c=some Qft) (fuel:Nat):Qfs P c (Qb0 Qu Qbq fuel):=by
 intro t1 rank8 k2 k4 k6 r h
 intro M nb hk3 hk5 hk7
 refine Qtp hcf rfl M nb fun Γ hP hnt hn0 hM=>?_
 subst hP hn0
 refine Tr.init [(0,.ptr k2 0),(1,(i_ rank8))] rfl ?_
 unfold Qb0 at h
 unfold Qft
 refine sr ((Rn.movTC (v:=.nils 4) tv (nt ((sr ((Rn.movTC (v:=.nils 4) tv (Rn.nil (toN ?_)))))))))
 refine Tr.cutB (fun (out26:List Qo)=>⟨look [(0,.ptr k2 0),(1,(i_ rank8)),(5,(Q7 out26))],Qm Γ.n0 (bxs []) M,Γ.n0+73⟩) h (fun z h=>?_) (fun z h=>?_)
 ·refine sr ((Rn.mov (v:=.ptr k2 0) tv rfl (Rn.nilchkP tv rfl (Rn.fldP (o':=9) tv rfl rfl (Rn.load (v:=.sl 1 k6 0 t1.left_.length t1.left_.length) tv rfl (Q9 hM hk3) rfl rfl (Rn.lenA tv rfl (md rfl (nt ((Tr.block ?_))))))))))
  refine Tr.loop (mk:=fun ((out9,x10):(List Qo)×Int)=>⟨look [(0,.ptr k2 0),(1,(i_ rank8)),(5,(Q7 out9)),(15,.sl 1 k6 0 t1.left_.length t1.left_.length),(16,(i_ (t1.left_.length:Int))),(17,(i_ x10))],Qm Γ.n0 (bxs []) M,Γ.n0+73⟩) h (by exact Qj ⟨(Qew (ltB hM hk3)),(sm rfl),(WkV.nilsO _),(kSlB (ltB hM hk7)),(sm rfl),(sm rfl),tv⟩ tv rfl) (fun k11 z h=>?_)
  ·obtain ⟨out9,x10⟩:=z
   replace h:_=some _:=h
   refine sr ((Rn.bin tv rfl rfl rfl (nt ((Tr.seq ?_)))))
   refine Tr.cond rfl (fun hb12=>?_) (fun hb12=>?_)
   ·replace h:=ifT hb12 h
    refine Tr.skip (toN ?_)
    refine Tr.cutB (fun (out25:List Qo)=>⟨look [(0,.ptr k2 0),(1,(i_ rank8)),(5,(Q7 out25)),(15,.sl 1 k6 0 t1.left_.length t1.left_.length),(16,(i_ (t1.left_.length:Int))),(17,(i_ x10))],Qm Γ.n0 (bxs []) M,Γ.n0+73⟩) h (fun z h=>?_) (fun z h=>?_)
    ·refine Tr.block (sr ((md rfl ?_)))
     obtain ⟨⟨⟩,h14,h⟩:=bnd h
     refine Rn.idxA tv rfl rfl h14 ?_
     obtain ⟨x15,h16,h⟩:=bnd h
     refine Rn.loadA (g:=(fun (x:Bool)=>[V.d (.bool x)])) (v:=(b_ x15)) (f:=0) (fun _=>rfl) tv rfl (Q9 hM hk7) h16 rfl rfl (md rfl (md rfl (nt ((sr ((Rn.mov (v:=.ptr k2 0) tv rfl (md rfl ?_))))))))
     obtain ⟨⟨r18,r19⟩,h17,h⟩:=bnd h
     refine Rn.callM (args:=[.ptr k2 0,(i_ x10)]) tv rfl (fun M2 nb2 hn hx=>H_timedsynthesis_task_escape _ _ k2 k4 k6 _ h17 M2 nb2 (hx _ _ (Q9 hM hk3)) (hx _ _ (Q9 hM hk5)) (hx _ _ (Q9 hM hk7))) rfl pc9 ?_
     refine Rn.mov (v:=.tup [(i_ r18),(i_ r19)]) tv rfl (Rn.ext (v:=(i_ r18)) (vs:=[(i_ r18),(i_ r19)]) tv rfl rfl rfl (Rn.ext (v:=(i_ r19)) (vs:=[(i_ r18),(i_ r19)]) tv rfl rfl rfl (md rfl (md rfl (Rn.nil (toN ?_))))))
     refine Tr.cutB (fun (x21:Bool)=>⟨look [(0,.ptr k2 0),(1,(i_ rank8)),(5,(Q7 out9)),(6,(i_ x10)),(8,(i_ r18)),(9,(i_ r19)),(15,.sl 1 k6 0 t1.left_.length t1.left_.length),(16,(i_ (t1.left_.length:Int))),(17,(i_ x10)),(32,(b_ x21))],Qm Γ.n0 (bxs []) M,Γ.n0+73⟩) h (fun z h=>?_) (fun z h=>?_)
     ·refine Tr.rgn (md rfl (md rfl ?_))
      refine Qbz x15 (fun hb20=>?_) (fun hb20=>?_)
      ·replace h:=bT hb20 h
       refine Rn.movD (gw rfl hb20) rfl (Rn.bin (gw rfl hb20) rfl rfl rfl (Rn.pickT (v:=(b_ (r18 != 0))) tv rfl hb20 rfl (Rn.nil ?_)))
       replace h:=si h; subst h
       exact Qg [] ⟨(Qew (ltB hM hk3)),(sm rfl),(sm rfl),(sm rfl),(sm rfl),(sm rfl),(kSlB (ltB hM hk7)),(sm rfl),(sm rfl),(sm rfl),tv⟩ tv rfl
      ·replace h:=bF hb20 h
       refine Rn.sk (nw rfl hb20) (Rn.sk (nw rfl hb20) (Rn.pickF (v:=(b_ false)) tv rfl hb20 rfl (Rn.nil ?_)))
       replace h:=si h; subst h
       exact Qg [] ⟨(Qew (ltB hM hk3)),(sm rfl),(sm rfl),(sm rfl),(sm rfl),(sm rfl),(kSlB (ltB hM hk7)),(sm rfl),(sm rfl),(sm rfl),tv⟩ tv rfl
     ·obtain ⟨x21,rfl⟩ : ∃ x,x=z:=⟨_,rfl⟩
      refine Tr.cond rfl (fun hb22=>?_) (fun hb22=>?_)
      ·replace h:=bT hb22 h
       refine Tr.rgn (Rn.movTO tv rfl (md rfl (md rfl (md rfl (md rfl (Rn.build (v:=.agg [(i_ x10),(i_ rank8),(i_ r18),(i_ r19)]) tv rfl (Rn.bslice (xs:=[.agg [(i_ x10),(i_ rank8),(i_ r18),(i_ r19)]]) (cs:=[(i_ x10),(i_ rank8),(i_ r18),(i_ r19)]) tv rfl rfl rfl rfl ?_)))))))
       obtain ⟨x23,h24,h⟩:=bnd h
       refine Rn.app (e:=Qec) tv rfl rfl rfl (Qcl rfl rfl rfl) h24 rfl (Rn.movTO tv rfl (Rn.nil ?_))
       replace h:=si h; subst h
       exact Qg [39] ⟨(Qew (ltB hM hk3)),(sm rfl),(sm rfl),(kSlB (ltB hM hk7)),(sm rfl),(sm rfl),tv⟩ tv rfl
      ·replace h:=bF hb22 h
       refine Tr.skip ?_
       replace h:=si h; subst h
       exact Qg [] ⟨(Qew (ltB hM hk3)),(sm rfl),(sm rfl),(kSlB (ltB hM hk7)),(sm rfl),(sm rfl),tv⟩ tv rfl
    ·obtain ⟨out25,rfl⟩ : ∃ x,x=z:=⟨_,rfl⟩
     refine Tr.rgn (Rn.bin tv rfl rfl rfl (md rfl (Rn.nil ?_)))
     exact ⟨_,h,(by exact Qj ⟨(Qew (ltB hM hk3)),(sm rfl),(sm rfl),(kSlB (ltB hM hk7)),(sm rfl),(sm rfl),tv⟩ tv rfl)⟩
   ·replace h:=ifF hb12 h
    refine Tr.exit ?_
    replace h:=si h; subst h
    exact Qg [] ⟨(Qew (ltB hM hk3)),(sm rfl),(sm rfl),tv⟩ tv rfl
 ·obtain ⟨out26,rfl⟩ : ∃ x,x=z:=⟨_,rfl⟩
  refine Tr.seq (sr ((Rn.mov (v:=(Qd1 out26)) tv rfl (Rn.lenD tv rfl (Rn.bin tv rfl rfl rfl (Rn.nil (toN ?_)))))))
  refine Tr.cond rfl (fun hb27=>?_) (fun hb27=>?_)
  ·replace h:=ifT hb27 h
   refine sr ((Rn.movTO tv rfl (Rn.movTO tv rfl (nt ((Tr.ret ?_))))))
   replace h:=si h; subst h
   exact ⟨.inr rfl,(Q7 out26),rfl,fun _ _ _ _ h=>h,tv,mB⟩
  ·replace h:=ifF hb27 h
   refine Tr.skip (toN ?_)
   refine Tr.cutB (fun (out46:List Qo)=>⟨look [(5,(Q7 out46))],Qm Γ.n0 (bxs []) M,Γ.n0+73⟩) h (fun z h=>?_) (fun z h=>?_)
   ·refine sr ((Rn.mov (v:=.ptr k2 0) tv rfl ?_))
    obtain ⟨x29,h28,h⟩:=bnd h
    refine Rn.callM (args:=[.ptr k2 0]) tv rfl (fun M2 nb2 hn hx=>H_timedsynthesis_task_distances _ k2 k4 k6 _ h28 M2 nb2 (hx _ _ (Q9 hM hk3)) (hx _ _ (Q9 hM hk5)) (hx _ _ (Q9 hM hk7))) rfl pc9 ?_
    refine Rn.lenD tv rfl (md rfl (nt ((Tr.block ?_))))
    refine Tr.loop (mk:=fun ((out30,x31):(List Qo)×Int)=>⟨look [(0,.ptr k2 0),(1,(i_ rank8)),(5,(Q7 out30)),(47,(l_ x29)),(48,(i_ (x29.length:Int))),(49,(i_ x31))],Qm Γ.n0 (bxs []) M,Γ.n0+73⟩) h (by exact Qj ⟨(Qew (ltB hM hk3)),(sm rfl),(sm rfl),(sm rfl),(sm rfl),(sm rfl),tv⟩ tv rfl) (fun k32 z h=>?_)
    ·obtain ⟨out30,x31⟩:=z
     replace h:_=some _:=h
     refine sr ((Rn.bin tv rfl rfl rfl (nt ((Tr.seq ?_)))))
     refine Tr.cond rfl (fun hb33=>?_) (fun hb33=>?_)
     ·replace h:=ifT hb33 h
      refine Tr.skip (toN ?_)
      refine Tr.cutB (fun (out45:List Qo)=>⟨look [(0,.ptr k2 0),(1,(i_ rank8)),(5,(Q7 out45)),(47,(l_ x29)),(48,(i_ (x29.length:Int))),(49,(i_ x31))],Qm Γ.n0 (bxs []) M,Γ.n0+73⟩) h (fun z h=>?_) (fun z h=>?_)
      ·refine Tr.block (sr ((md rfl ?_)))
       obtain ⟨x34,h35,h⟩:=bnd h
       refine Rn.idxD (e:=(eI .i64)) tv rfl rfl h35 (Rn.loadC (x:=.int .i64 x34) tv rfl (md rfl (md rfl (Rn.nil (toN ?_)))))
       refine Tr.cutB (fun (x41:Bool)=>⟨look [(0,.ptr k2 0),(1,(i_ rank8)),(5,(Q7 out30)),(10,(i_ x31)),(47,(l_ x29)),(48,(i_ (x29.length:Int))),(49,(i_ x31)),(64,(b_ x41))],Qm Γ.n0 (bxs []) M,Γ.n0+73⟩) h (fun z h=>?_) (fun z h=>?_)
       ·refine Tr.rgn (Rn.mov (v:=.ptr k2 0) tv rfl (Rn.nilchkP tv rfl (Rn.fldP (o':=9) tv rfl rfl (Rn.load (v:=.sl 1 k6 0 t1.left_.length t1.left_.length) tv rfl (Q9 hM hk3) rfl rfl (md rfl ?_)))))
        obtain ⟨⟨⟩,h37,h⟩:=bnd h
        refine Rn.idxA tv rfl rfl h37 ?_
        obtain ⟨x38,h39,h⟩:=bnd h
        refine Rn.loadA (g:=(fun (x:Bool)=>[V.d (.bool x)])) (v:=(b_ x38)) (f:=0) (fun _=>rfl) tv rfl (Q9 hM hk7) h39 rfl rfl (md rfl ?_)
        refine Qbz x38 (fun hb40=>?_) (fun hb40=>?_)
        ·replace h:=bT hb40 h
         refine Rn.movD (gw rfl hb40) rfl (Rn.bin (gw rfl hb40) rfl rfl rfl (Rn.pickT (v:=(b_ (decide (x34 < 0)))) tv rfl hb40 rfl (Rn.nil ?_)))
         replace h:=si h; subst h
         exact Qg [] ⟨(Qew (ltB hM hk3)),(sm rfl),(sm rfl),(sm rfl),(sm rfl),(sm rfl),(sm rfl),(sm rfl),tv⟩ tv rfl
        ·replace h:=bF hb40 h
         refine Rn.sk (nw rfl hb40) (Rn.sk (nw rfl hb40) (Rn.pickF (v:=(b_ false)) tv rfl hb40 rfl (Rn.nil ?_)))
         replace h:=si h; subst h
         exact Qg [] ⟨(Qew (ltB hM hk3)),(sm rfl),(sm rfl),(sm rfl),(sm rfl),(sm rfl),(sm rfl),(sm rfl),tv⟩ tv rfl
       ·obtain ⟨x41,rfl⟩ : ∃ x,x=z:=⟨_,rfl⟩
        refine Tr.cond rfl (fun hb42=>?_) (fun hb42=>?_)
        ·replace h:=bT hb42 h
         refine Tr.rgn (Rn.movTO tv rfl (md rfl (md rfl (Rn.build (v:=.agg [(i_ x31),(i_ rank8),(i_ 3),(i_ (-1))]) tv rfl (Rn.bslice (xs:=[.agg [(i_ x31),(i_ rank8),(i_ 3),(i_ (-1))]]) (cs:=[(i_ x31),(i_ rank8),(i_ 3),(i_ (-1))]) tv rfl rfl rfl rfl ?_)))))
         obtain ⟨x43,h44,h⟩:=bnd h
         refine Rn.app (e:=Qec) tv rfl rfl rfl (Qcl rfl rfl rfl) h44 rfl (Rn.movTO tv rfl (Rn.nil ?_))
         replace h:=si h; subst h
         exact Qg [69] ⟨(Qew (ltB hM hk3)),(sm rfl),(sm rfl),(sm rfl),(sm rfl),(sm rfl),tv⟩ tv rfl
        ·replace h:=bF hb42 h
         refine Tr.skip ?_
         replace h:=si h; subst h
         exact Qg [] ⟨(Qew (ltB hM hk3)),(sm rfl),(sm rfl),(sm rfl),(sm rfl),(sm rfl),tv⟩ tv rfl
      ·obtain ⟨out45,rfl⟩ : ∃ x,x=z:=⟨_,rfl⟩
       refine Tr.rgn (Rn.bin tv rfl rfl rfl (md rfl (Rn.nil ?_)))
       exact ⟨_,h,(by exact Qj ⟨(Qew (ltB hM hk3)),(sm rfl),(sm rfl),(sm rfl),(sm rfl),(sm rfl),tv⟩ tv rfl)⟩
     ·replace h:=ifF hb33 h
      refine Tr.exit ?_
      replace h:=si h; subst h
      exact Qg [] ⟨(sm rfl),tv⟩ tv rfl
   ·obtain ⟨out46,rfl⟩ : ∃ x,x=z:=⟨_,rfl⟩
    refine sr ((Rn.movTO tv rfl (Rn.movTO tv rfl (nt ((Tr.ret ?_))))))
    replace h:=si h; subst h
    exact ⟨.inr rfl,(Q7 out46),rfl,fun _ _ _ _ h=>h,tv,mB⟩
theorem Qnh {P:Program} {c:Nat} (hcf:Qq P c=some Qfa):Qe9 P c (Qbo):=by
 intro x1 x2 x5 k3 k6 k8 k10 k12 r h
 intro M nb hk4 hk7 hk9 hk11 hk13
 refine Qtp hcf rfl M nb fun Γ hP hnt hn0 hM=>?_
 subst hP hn0
 refine Tr.init [(0,(Qbh x1)),(1,.ptr k3 0),(2,.ptr k6 0)] rfl ?_
 unfold Qbo at h
 unfold Qfa
 refine sr ((Rn.box (v:=(Qbh x1)) (cs:=(Qbe x1)) tv rfl rfl rfl rfl rfl (md rfl (nt ((Tr.seq ?_))))))
 refine Tr.rgnD (by decide) ?_
 refine Rn.fldP (o':=1) tv rfl rfl (lB (v:=(i_ x1.Event)) rfl rfl rfl rfl (Rn.fldP (o':=7) tv rfl rfl (Rn.load (v:=(i_ x2.Tick)) tv rfl (Q9 hM hk4) rfl rfl (Rn.bin tv rfl rfl rfl (md rfl ?_)))))
 refine Qbz (x1.Event == x2.Tick) (fun hb14=>?_) (fun hb14=>?_)
 ·replace h:=bT hb14 h
  refine Rn.load (v:=.ptr k8 0) (gw rfl hb14) rfl (Q9 hM hk7) rfl rfl (Rn.nilchkP (gw rfl hb14) rfl (Rn.fldP (o':=9) (gw rfl hb14) rfl rfl (Rn.load (v:=.sl 1 k12 0 x5.left_.length x5.left_.length) (gw rfl hb14) rfl (Q9 hM hk9) rfl rfl (Rn.fldP (o':=2) (gw rfl hb14) rfl rfl (Rn.load (v:=(i_ x1.To)) (gw rfl hb14) rfl (Q6 rfl) rfl rfl ?_)))))
  obtain ⟨⟨⟩,h16,h⟩:=bnd h
  refine Rn.idxA (gw rfl hb14) rfl rfl h16 ?_
  obtain ⟨x17,h18,h⟩:=bnd h
  refine Rn.loadA (g:=(fun (x:Bool)=>[V.d (.bool x)])) (v:=(b_ x17)) (f:=0) (fun _=>rfl) (gw rfl hb14) rfl (Q9 hM hk13) h18 rfl rfl (Rn.un (gw rfl hb14) rfl rfl (Rn.pickT (v:=(b_ (!x17))) tv rfl hb14 rfl (md rfl ?_)))
  refine Rn.nil ⟨rfl,?_⟩
  refine toN (Tr.ret ?_)
  replace h:=si h; subst h
  exact ⟨.inr rfl,(b_ (!x17)),rfl,fun _ _ _ _ h=>h,tv,mB⟩
 ·replace h:=bF hb14 h
  refine Rn.sk (nw rfl hb14) (Rn.sk (nw rfl hb14) (Rn.sk (nw rfl hb14) (Rn.sk (nw rfl hb14) (Rn.sk (nw rfl hb14) (Rn.sk (nw rfl hb14) (Rn.sk (nw rfl hb14) (Rn.sk (nw rfl hb14) (Rn.sk (nw rfl hb14) (Rn.pickF (v:=(b_ false)) tv rfl hb14 rfl (md rfl ?_))))))))))
  refine Rn.nil ⟨rfl,?_⟩
  refine toN (Tr.ret ?_)
  replace h:=si h; subst h
  exact ⟨.inr rfl,(b_ false),rfl,fun _ _ _ _ h=>h,tv,mB⟩
theorem Q51 {P:Program} {c:Nat} (hcf:Qq P c=some Qmx):Qjg P c (Qbr):=by
 intro s1 r h
 refine Qc6 hcf rfl fun Γ M hP hnt hM=>?_
 subst hP
 refine Tr.init [(0,(l_ s1))] rfl ?_
 unfold Qbr at h
 unfold Qmx
 refine sr ((Rn.movTC (v:=.nils 1) tv (nt ((Tr.seq (sr ((md rfl ?_))))))))
 refine Rn.isnil (e:=(eI .i64)) tv rfl h (fun b2 h=>?_)
 refine Rn.nil (toN ?_)
 refine Tr.cond rfl (fun hb3=>?_) (fun hb3=>?_)
 ·replace h:=bT hb3 h
  refine sr ((Rn.movTC (v:=.nils 1) tv (nt ((Tr.ret ?_)))))
  replace h:=si h; subst h
  exact ⟨.inr rfl,(.nils 1),rfl,(WkV.nilsO _).rd,tv,mB⟩
 ·replace h:=bF hb3 h
  refine Tr.skip (toN (sr ((Rn.bslice (xs:=[]) (cs:=[]) tv rfl rfl rfl rfl (md rfl ?_)))))
  obtain ⟨x4,h5,h⟩:=bnd h
  refine Rn.app0 (e:=(eI .i64)) tv rfl rfl rfl rfl Qbff h5 rfl (Rn.movTO tv rfl (nt ((Tr.ret ?_))))
  replace h:=si h; subst h
  exact ⟨.inr rfl,(o_ x4),rfl,fun _ _ _ _ h=>h,tv,mB⟩
theorem Qlm {P:Program} {c:Nat} {Qi:(List Int)→Int→Option Bool} {Qbr:(List Int)→Option ((List Int))}
    (H_alphabet_Contains:Qcf P 29 Qi)
    (H_slices_Clone_int:Qjg P 56 Qbr) (hcf:Qq P c=some Qei) (fuel:Nat):Qeh P c (Qba Qi Qbr fuel):=by
 intro t1 k2 k4 k6 r h
 intro M nb hk3 hk5 hk7
 refine Qtp hcf rfl M nb fun Γ hP hnt hn0 hM=>?_
 subst hP hn0
 refine Tr.init [(0,.ptr k2 0)] rfl ?_
 unfold Qba at h
 unfold Qei
 refine sr ((Rn.alloc tv rfl (Rn.movTC (v:=.nils 1) tv (nt ((sr ((Rn.mov (v:=.ptr k2 0) tv rfl (Rn.nilchkP tv rfl (Rn.fldP (o':=0) tv rfl rfl (Rn.fldP (o':=0) tv rfl rfl (Rn.fldP (o':=0) tv rfl rfl (Rn.load (v:=(l_ t1.zN.zA.zJ)) tv rfl (Q9 hM hk3) rfl rfl ?_)))))))))))))
 obtain ⟨x9,h8,h⟩:=bnd h
 refine Rn.call (args:=[(l_ t1.zN.zA.zJ)]) tv rfl (H_slices_Clone_int _ _ h8) pc9 (Rn.buildT (v:=.agg [(o_ x9),(i_ 0),.nils 1,.nils 3]) tv rfl (Rn.alloc tv rfl (Rn.storeT (v:=.agg [(o_ x9),(i_ 0),.nils 1,.nils 3]) (ds:=[(o_ x9),(i_ 0),.nils 1,.nils 3]) (cs':=[(o_ x9),(i_ 0),.nils 1,.nils 3]) tv rfl rfl rfl rfl rfl rfl rfl (nt ((sr ((Rn.movTC (v:=.nils 1) tv (nt ((sr ((Rn.mkmap tv rfl (fun (x:Int)=>((i_ x):V)) (fun (x:Int)=>((i_ x):V)) (Rn.mov (v:=.mp (Γ.n0+20)) tv rfl (Rn.nil (toN ?_))))))))))))))))
 refine Tr.cutB (fun ((origins19,c20):(List Int)×(List (Int×Int)))=>⟨look [(0,.ptr k2 0),(2,.ptr (Γ.n0+2) 0),(4,.ptr (Γ.n0+4) 0),(5,(o_ origins19)),(6,.mp (Γ.n0+20))],Qm Γ.n0 (bxs [(2,.cells ([.nils 1,(i_ 0),.nils 1,.nils 3])),(4,.cells ([(o_ x9),(i_ 0),.nils 1,.nils 3])),(20,.mp (mapE (fun (x:Int)=>((i_ x):V)) (fun (x:Int)=>((i_ x):V)) 0 c20) (c20).length)]) M,Γ.n0+124⟩) h (fun z h=>?_) (fun z h=>?_)
 ·refine Tr.cutB (fun (x15:Bool)=>⟨look [(0,.ptr k2 0),(2,.ptr (Γ.n0+2) 0),(4,.ptr (Γ.n0+4) 0),(5,.nils 1),(6,.mp (Γ.n0+20)),(34,(b_ x15))],Qm Γ.n0 (bxs [(2,.cells ([.nils 1,(i_ 0),.nils 1,.nils 3])),(4,.cells ([(o_ x9),(i_ 0),.nils 1,.nils 3])),(20,.mp (mapE (fun (x:Int)=>((i_ x):V)) (fun (x:Int)=>((i_ x):V)) 0 []) (([]:List (Int×Int))).length)]) M,Γ.n0+124⟩) h (fun z h=>?_) (fun z h=>?_)
  ·refine Tr.rgn (Rn.mov (v:=.ptr k2 0) tv rfl (Rn.nilchkP tv rfl (Rn.fldP (o':=9) tv rfl rfl (Rn.load (v:=.sl 1 k6 0 t1.left_.length t1.left_.length) tv rfl (Q9 hM hk3) rfl rfl (Rn.lenA tv rfl (Rn.bin tv rfl rfl rfl (md rfl ?_)))))))
   refine Qbz (decide ((t1.left_.length:Int) > 0)) (fun hb10=>?_) (fun hb10=>?_)
   ·replace h:=ifT hb10 h
    refine Rn.mov (v:=.ptr k2 0) (gw rfl hb10) rfl (Rn.nilchkP (gw rfl hb10) rfl (Rn.fldP (o':=9) (gw rfl hb10) rfl rfl (Rn.load (v:=.sl 1 k6 0 t1.left_.length t1.left_.length) (gw rfl hb10) rfl (Q9 hM hk3) rfl rfl ?_)))
    obtain ⟨⟨⟩,h12,h⟩:=bnd h
    refine Rn.idxA (gw rfl hb10) rfl rfl h12 ?_
    obtain ⟨x13,h14,h⟩:=bnd h
    refine Rn.loadA (g:=(fun (x:Bool)=>[V.d (.bool x)])) (v:=(b_ x13)) (f:=0) (fun _=>rfl) (gw rfl hb10) rfl (Q9 hM hk7) h14 rfl rfl (Rn.pickT (v:=(b_ x13)) tv rfl hb10 rfl (Rn.nil ?_))
    replace h:=si h; subst h
    exact Qg [] ⟨(Qew (ltB hM hk3)),(kPtr rfl),(kPtr rfl),(sm rfl),(kMp rfl),(sm rfl),tv⟩ ⟨bS rfl rfl rfl,bS rfl rfl rfl,⟨rfl,rfl⟩,tv⟩ rfl
   ·replace h:=ifF hb10 h
    refine Rn.sk (nw rfl hb10) (Rn.sk (nw rfl hb10) (Rn.sk (nw rfl hb10) (Rn.sk (nw rfl hb10) (Rn.sk (nw rfl hb10) (Rn.sk (nw rfl hb10) (Rn.pickF (v:=(b_ false)) tv rfl hb10 rfl (Rn.nil ?_)))))))
    replace h:=si h; subst h
    exact Qg [] ⟨(Qew (ltB hM hk3)),(kPtr rfl),(kPtr rfl),(sm rfl),(kMp rfl),(sm rfl),tv⟩ ⟨bS rfl rfl rfl,bS rfl rfl rfl,⟨rfl,rfl⟩,tv⟩ rfl
  ·obtain ⟨x15,rfl⟩ : ∃ x,x=z:=⟨_,rfl⟩
   refine Tr.cond rfl (fun hb16=>?_) (fun hb16=>?_)
   ·replace h:=bT hb16 h
    refine sr ((Rn.movTF (v:=.nils 1) tv rfl rfl (Rn.bslice (xs:=[(i_ 0)]) (cs:=[(i_ 0)]) tv rfl rfl rfl rfl ?_)))
    refine Rn.weak (by show WeakSt Γ _ ⟨look [(0,.ptr k2 0),(2,.ptr (Γ.n0+2) 0),(4,.ptr (Γ.n0+4) 0),(5,.nils 1),(6,.mp (Γ.n0+20)),(34,(b_ x15)),(35,.own 1 (List.map (eI .i64) [])),(36,.sl 1 (Γ.n0+36) 0 1 1)],Qm Γ.n0 (bxs [(2,.cells ([.nils 1,(i_ 0),.nils 1,.nils 3])),(4,.cells ([(o_ x9),(i_ 0),.nils 1,.nils 3])),(20,.mp (mapE (fun (x:Int)=>((i_ x):V)) (fun (x:Int)=>((i_ x):V)) 0 []) (([]:List (Int×Int))).length),(36,.cells ([(i_ 0)]))]) M,Γ.n0+124⟩; exact Qg [] ⟨(Qew (ltB hM hk3)),(kPtr rfl),(kPtr rfl),(sm rfl),(kMp rfl),(sm rfl),(WkV.nilsO _),(kSl rfl),tv⟩ ⟨bS rfl rfl rfl,bS rfl rfl rfl,⟨rfl,rfl⟩,bS rfl rfl rfl,tv⟩ rfl) ?_
    obtain ⟨x17,h18,h⟩:=bnd h
    refine Rn.app (e:=(eI .i64)) tv rfl rfl rfl (Qcl rfl rfl rfl) h18 rfl (Rn.movTO tv rfl (nt ((Tr.rgn (Rn.mov (v:=.mp (Γ.n0+20)) tv rfl (Rn.mapset (ek:=(fun (x:Int)=>((i_ x):V))) (ev:=(fun (x:Int)=>((i_ x):V))) (m:=([]:List (Int×Int))) (k:=0) (v:=0) (fun _ _=>rfl) (fun _=>rfl) (fun _=>rfl) tv rfl rfl rfl rfl rfl (Rn.nil ?_)))))))
    replace h:=si h; subst h
    exact Qg [36] ⟨(Qew (ltB hM hk3)),(kPtr rfl),(kPtr rfl),(sm rfl),(kMp rfl),tv⟩ ⟨bS rfl rfl rfl,bS rfl rfl rfl,⟨rfl,rfl⟩,tv⟩ rfl
   ·replace h:=bF hb16 h
    refine Tr.skip ?_
    replace h:=si h; subst h
    exact Qg [] ⟨(Qew (ltB hM hk3)),(kPtr rfl),(kPtr rfl),(WkV.nilsO _),(kMp rfl),tv⟩ ⟨bS rfl rfl rfl,bS rfl rfl rfl,⟨rfl,rfl⟩,tv⟩ rfl
 ·obtain ⟨origins19,c20⟩:=z
  refine Tr.cutB (fun ((origins75,c76,c77,c78,a79,a80,c81):(List Int)×(List Int)×(List Int)×(List Qc)×(List Int)×(List Qc)×(List (Int×Int)))=>⟨look [(2,.ptr (Γ.n0+2) 0),(4,.ptr (Γ.n0+4) 0),(5,(o_ origins75))],Qm Γ.n0 (bxs [(2,.cells ([(o_ c76),(i_ 0),(o_ c77),(Qk c78)])),(4,.cells ([(o_ x9),(i_ 0),(o_ a79),(Qk a80)])),(20,.mp (mapE (fun (x:Int)=>((i_ x):V)) (fun (x:Int)=>((i_ x):V)) 0 c81) (c81).length)]) M,Γ.n0+124⟩) h (fun z h=>?_) (fun z h=>?_)
  ·refine sr ((md rfl (nt ((Tr.block ?_)))))
   refine Tr.loop (mk:=fun ((origins21,i22,c23,c24,c25,a26,a27,c28):(List Int)×Int×(List Int)×(List Int)×(List Qc)×(List Int)×(List Qc)×(List (Int×Int)))=>⟨look [(0,.ptr k2 0),(2,.ptr (Γ.n0+2) 0),(4,.ptr (Γ.n0+4) 0),(5,(o_ origins21)),(6,.mp (Γ.n0+20)),(7,(i_ i22))],Qm Γ.n0 (bxs [(2,.cells ([(o_ c23),(i_ 0),(o_ c24),(Qk c25)])),(4,.cells ([(o_ x9),(i_ 0),(o_ a26),(Qk a27)])),(20,.mp (mapE (fun (x:Int)=>((i_ x):V)) (fun (x:Int)=>((i_ x):V)) 0 c28) (c28).length)]) M,Γ.n0+124⟩) h (by exact Qj ⟨(Qew (ltB hM hk3)),(kPtr rfl),(kPtr rfl),(sm rfl),(kMp rfl),(sm rfl),tv⟩ ⟨⟨_,rfl,rfl,(.cons (WkV.nilsO _) (cS rfl (.cons (WkV.nilsO _) (.cons (WkV.nilsO _) .nil))))⟩,⟨_,rfl,rfl,(cS rfl (cS rfl (.cons (WkV.nilsO _) (.cons (WkV.nilsO _) .nil))))⟩,⟨rfl,rfl⟩,tv⟩ rfl) (fun k29 z h=>?_)
   ·obtain ⟨origins21,i22,c23,c24,c25,a26,a27,c28⟩:=z
    replace h:_=some _:=h
    refine Tr.seq (sr ((md rfl (Rn.mov (v:=(l_ origins21)) tv rfl (Rn.lenD tv rfl (Rn.bin tv rfl rfl rfl (Rn.nil (toN ?_))))))))
    refine Tr.cond rfl (fun hb30=>?_) (fun hb30=>?_)
    ·replace h:=ifT hb30 h
     refine Tr.skip (toN ?_)
     refine Tr.cutB (fun ((origins71,a72,a73,c74):(List Int)×(List Int)×(List Qc)×(List (Int×Int)))=>⟨look [(0,.ptr k2 0),(2,.ptr (Γ.n0+2) 0),(4,.ptr (Γ.n0+4) 0),(5,(o_ origins71)),(6,.mp (Γ.n0+20)),(7,(i_ i22))],Qm Γ.n0 (bxs [(2,.cells ([(o_ c23),(i_ 0),(o_ c24),(Qk c25)])),(4,.cells ([(o_ x9),(i_ 0),(o_ a72),(Qk a73)])),(20,.mp (mapE (fun (x:Int)=>((i_ x):V)) (fun (x:Int)=>((i_ x):V)) 0 c74) (c74).length)]) M,Γ.n0+124⟩) h (fun z h=>?_) (fun z h=>?_)
     ·refine Tr.block ?_
      refine Tr.cutB (fun (a38:List Int)=>⟨look [(0,.ptr k2 0),(2,.ptr (Γ.n0+2) 0),(4,.ptr (Γ.n0+4) 0),(5,(o_ origins21)),(6,.mp (Γ.n0+20)),(7,(i_ i22))],Qm Γ.n0 (bxs [(2,.cells ([(o_ c23),(i_ 0),(o_ c24),(Qk c25)])),(4,.cells ([(o_ x9),(i_ 0),(o_ a38),(Qk a27)])),(20,.mp (mapE (fun (x:Int)=>((i_ x):V)) (fun (x:Int)=>((i_ x):V)) 0 c28) (c28).length)]) M,Γ.n0+124⟩) h (fun z h=>?_) (fun z h=>?_)
      ·refine Tr.seq ?_
       refine Tr.rgnD (by decide) ?_
       refine Rn.mov (v:=.ptr k2 0) tv rfl (Rn.nilchkP tv rfl (Rn.fldP (o':=0) tv rfl rfl (Rn.fldP (o':=0) tv rfl rfl (Rn.fldP (o':=2) tv rfl rfl (Rn.load (v:=(l_ t1.zN.zA.zK)) tv rfl (Q9 hM hk3) rfl rfl (Rn.mov (v:=(l_ origins21)) tv rfl (md rfl ?_)))))))
       obtain ⟨x31,h32,h⟩:=bnd h
       refine Rn.idxD (e:=(eI .i64)) tv rfl rfl h32 (Rn.loadC (x:=.int .i64 x31) tv rfl ?_)
       obtain ⟨x34,h33,h⟩:=bnd h
       refine Rn.call (args:=[(l_ t1.zN.zA.zK),(i_ x31)]) tv rfl (H_alphabet_Contains _ _ _ h33) pc0 ?_
       refine Rn.nil ⟨rfl,?_⟩
       refine toN ?_
       refine Tr.cond rfl (fun hb35=>?_) (fun hb35=>?_)
       ·replace h:=bT hb35 h
        refine Tr.rgn (Rn.fldP (o':=2) tv rfl rfl (Rn.loadT (cs':=[(o_ x9),(i_ 0),(l_ a26),(Qk a27)]) tv rfl rfl rfl rfl (md rfl (Rn.bslice (xs:=[(i_ i22)]) (cs:=[(i_ i22)]) tv rfl rfl rfl rfl ?_))))
        obtain ⟨x36,h37,h⟩:=bnd h
        refine Rn.app (e:=(eI .i64)) tv rfl rfl rfl (Qcl rfl rfl rfl) h37 rfl (Rn.fldP (o':=2) tv rfl rfl (Rn.storeO (cs':=[(o_ x9),(i_ 0),(o_ x36),(Qk a27)]) tv rfl rfl rfl rfl rfl (Rn.nil ?_)))
        replace h:=si h; subst h
        exact Qg [59] ⟨(Qew (ltB hM hk3)),(kPtr rfl),(kPtr rfl),(sm rfl),(kMp rfl),(sm rfl),tv⟩ ⟨bS rfl rfl rfl,bS rfl rfl rfl,⟨rfl,rfl⟩,tv⟩ rfl
       ·replace h:=bF hb35 h
        refine Tr.skip ?_
        replace h:=si h; subst h
        exact Qg [] ⟨(Qew (ltB hM hk3)),(kPtr rfl),(kPtr rfl),(sm rfl),(kMp rfl),(sm rfl),tv⟩ ⟨bS rfl rfl rfl,bS rfl rfl rfl,⟨rfl,rfl⟩,tv⟩ rfl
      ·obtain ⟨a38,rfl⟩ : ∃ x,x=z:=⟨_,rfl⟩
       refine Tr.seq ?_
       refine Tr.rgnD (by decide) ?_
       refine Rn.mov (v:=.ptr k2 0) tv rfl (Rn.nilchkP tv rfl (Rn.fldP (o':=8) tv rfl rfl (Rn.load (v:=.sl 1 k4 0 t1.from_.length t1.from_.length) tv rfl (Q9 hM hk3) rfl rfl (Rn.mov (v:=(l_ origins21)) tv rfl (md rfl ?_)))))
       obtain ⟨x39,h40,h⟩:=bnd h
       refine Rn.idxD (e:=(eI .i64)) tv rfl rfl h40 (Rn.loadC (x:=.int .i64 x39) tv rfl ?_)
       obtain ⟨⟨⟩,h42,h⟩:=bnd h
       refine Rn.idxA tv rfl rfl h42 ?_
       obtain ⟨x43,h44,h⟩:=bnd h
       refine Rn.loadA (g:=(fun (x:List Qc)=>[(Qe x)])) (v:=(Qe x43)) (f:=0) (fun _=>rfl) tv rfl (Q9 hM hk5) h44 rfl rfl (Rn.lenD tv rfl (md rfl ?_))
       refine Rn.nil ⟨rfl,?_⟩
       refine toN (Tr.block ?_)
       refine Tr.loop (mk:=fun ((origins45,x46,a47,c48):(List Int)×Int×(List Qc)×(List (Int×Int)))=>⟨look [(0,.ptr k2 0),(2,.ptr (Γ.n0+2) 0),(4,.ptr (Γ.n0+4) 0),(5,(o_ origins45)),(6,.mp (Γ.n0+20)),(7,(i_ i22)),(71,(Qe x43)),(72,(i_ (x43.length:Int))),(73,(i_ x46))],Qm Γ.n0 (bxs [(2,.cells ([(o_ c23),(i_ 0),(o_ c24),(Qk c25)])),(4,.cells ([(o_ x9),(i_ 0),(o_ a38),(Qk a47)])),(20,.mp (mapE (fun (x:Int)=>((i_ x):V)) (fun (x:Int)=>((i_ x):V)) 0 c48) (c48).length)]) M,Γ.n0+124⟩) h (by exact Qj ⟨(Qew (ltB hM hk3)),(kPtr rfl),(kPtr rfl),(sm rfl),(kMp rfl),(sm rfl),(sm rfl),(sm rfl),(sm rfl),tv⟩ ⟨bS rfl rfl rfl,bS rfl rfl rfl,⟨rfl,rfl⟩,tv⟩ rfl) (fun k49 z h=>?_)
       ·obtain ⟨origins45,x46,a47,c48⟩:=z
        replace h:_=some _:=h
        refine sr ((Rn.bin tv rfl rfl rfl (nt ((Tr.seq ?_)))))
        refine Tr.cond rfl (fun hb50=>?_) (fun hb50=>?_)
        ·replace h:=ifT hb50 h
         refine Tr.skip (toN ?_)
         refine Tr.cutB (fun ((origins65,a66,c67,c68,c69,c70):(List Int)×(List Qc)×(List (Int×Int))×Int×Int×Int)=>⟨look [(0,.ptr k2 0),(2,.ptr (Γ.n0+2) 0),(4,.ptr (Γ.n0+4) 0),(5,(o_ origins65)),(6,.mp (Γ.n0+20)),(7,(i_ i22)),(71,(Qe x43)),(72,(i_ (x43.length:Int))),(73,(i_ x46))],Qm Γ.n0 (bxs [(2,.cells ([(o_ c23),(i_ 0),(o_ c24),(Qk c25)])),(4,.cells ([(o_ x9),(i_ 0),(o_ a38),(Qk a66)])),(9,.cells ([(i_ c68),(i_ c69),(i_ c70)])),(20,.mp (mapE (fun (x:Int)=>((i_ x):V)) (fun (x:Int)=>((i_ x):V)) 0 c67) (c67).length)]) M,Γ.n0+124⟩) h (fun z h=>?_) (fun z h=>?_)
         ·refine Tr.block (Tr.seq (Tr.rgn ?_))
          obtain ⟨x51,h52,h⟩:=bnd h
          refine Rn.idxD (e:=Qv) tv rfl rfl h52 (Rn.loadCA (vs:=(Qbe x51)) tv rfl rfl rfl (Rn.alloc tv rfl (Rn.store (v:=(Qbh x51)) (cs':=(Qbe x51)) tv rfl rfl rfl rfl rfl rfl (nt ((Tr.seq (Tr.seq ?_)))))))
          refine Tr.rgnD (by decide) ?_
          refine Rn.mov (v:=.ptr k2 0) tv rfl (Rn.nilchkP tv rfl (Rn.fldP (o':=9) tv rfl rfl (Rn.load (v:=.sl 1 k6 0 t1.left_.length t1.left_.length) tv rfl (Q9 hM hk3) rfl rfl (Rn.fldP (o':=2) tv rfl rfl (lB (v:=(i_ x51.To)) rfl rfl rfl rfl ?_)))))
          obtain ⟨⟨⟩,h54,h⟩:=bnd h
          refine Rn.idxA tv rfl rfl h54 ?_
          obtain ⟨x55,h56,h⟩:=bnd h
          refine Rn.loadA (g:=(fun (x:Bool)=>[V.d (.bool x)])) (v:=(b_ x55)) (f:=0) (fun _=>rfl) tv rfl (Q9 hM hk7) h56 rfl rfl (Rn.un tv rfl rfl ?_)
          refine Rn.nil ⟨rfl,?_⟩
          refine toN ?_
          refine Tr.cond rfl (fun hb57=>?_) (fun hb57=>?_)
          ·have hb57:=nT' hb57
           replace h:=bF hb57 h
           refine Tr.exit ?_
           replace h:=si h; subst h
           exact Qg [] ⟨(Qew (ltB hM hk3)),(kPtr rfl),(kPtr rfl),(sm rfl),(kMp rfl),(sm rfl),(sm rfl),(sm rfl),(sm rfl),tv⟩ ⟨bS rfl rfl rfl,bS rfl rfl rfl,bS rfl rfl rfl,⟨rfl,rfl⟩,tv⟩ rfl
          ·have hb57:=nF' hb57
           replace h:=bT hb57 h
           refine Tr.skip (toN ?_)
           refine Tr.cutB (fun ((origins61,c62):(List Int)×(List (Int×Int)))=>⟨look [(0,.ptr k2 0),(2,.ptr (Γ.n0+2) 0),(4,.ptr (Γ.n0+4) 0),(5,(o_ origins61)),(6,.mp (Γ.n0+20)),(7,(i_ i22)),(9,.ptr (Γ.n0+9) 0),(71,(Qe x43)),(72,(i_ (x43.length:Int))),(73,(i_ x46))],Qm Γ.n0 (bxs [(2,.cells ([(o_ c23),(i_ 0),(o_ c24),(Qk c25)])),(4,.cells ([(o_ x9),(i_ 0),(o_ a38),(Qk a47)])),(9,.cells ((Qbe x51))),(20,.mp (mapE (fun (x:Int)=>((i_ x):V)) (fun (x:Int)=>((i_ x):V)) 0 c62) (c62).length)]) M,Γ.n0+124⟩) h (fun z h=>?_) (fun z h=>?_)
           ·refine sr ((Rn.mov (v:=.mp (Γ.n0+20)) tv rfl (Rn.fldP (o':=2) tv rfl rfl (lB (v:=(i_ x51.To)) rfl rfl rfl rfl (Rn.lookupC (ek:=(fun (x:Int)=>((i_ x):V))) (ev:=(fun (x:Int)=>((i_ x):V))) (m:=c48) (k:=x51.To) (fun _ _=>rfl) (fun _=>rfl) (fun _=>rfl) 0 rfl tv rfl rfl rfl (Rn.mov (v:=.tup [(i_ (getM c48 x51.To 0)),(b_ (hasM c48 x51.To))]) tv rfl (Rn.ext (v:=(i_ (getM c48 x51.To 0))) (vs:=[(i_ (getM c48 x51.To 0)),(b_ (hasM c48 x51.To))]) tv rfl rfl rfl (Rn.ext (v:=(b_ (hasM c48 x51.To))) (vs:=[(i_ (getM c48 x51.To 0)),(b_ (hasM c48 x51.To))]) tv rfl rfl rfl (md rfl (md rfl (nt ((sr ((md rfl (Rn.un tv rfl rfl (Rn.nil (toN ?_))))))))))))))))))
            refine Tr.cond rfl (fun hb58=>?_) (fun hb58=>?_)
            ·have hb58:=nT' hb58
             replace h:=bF hb58 h
             refine sr ((Rn.mov (v:=.mp (Γ.n0+20)) tv rfl (Rn.fldP (o':=2) tv rfl rfl (lB (v:=(i_ x51.To)) rfl rfl rfl rfl (Rn.mov (v:=(l_ origins45)) tv rfl (Rn.lenD tv rfl (Rn.mapset (ek:=(fun (x:Int)=>((i_ x):V))) (ev:=(fun (x:Int)=>((i_ x):V))) (m:=c48) (k:=x51.To) (v:=(origins45.length:Int)) (fun _ _=>rfl) (fun _=>rfl) (fun _=>rfl) tv rfl rfl rfl rfl rfl (nt ((Tr.rgn (Rn.movTO tv rfl (Rn.fldP (o':=2) tv rfl rfl (lB (v:=(i_ x51.To)) rfl rfl rfl rfl (Rn.bslice (xs:=[(i_ x51.To)]) (cs:=[(i_ x51.To)]) tv rfl rfl rfl rfl ?_))))))))))))))
             obtain ⟨x59,h60,h⟩:=bnd h
             refine Rn.app (e:=(eI .i64)) tv rfl rfl rfl (Qcl rfl rfl rfl) h60 rfl (Rn.movTO tv rfl (Rn.nil ?_))
             replace h:=si h; subst h
             exact Qg [103] ⟨(Qew (ltB hM hk3)),(kPtr rfl),(kPtr rfl),(sm rfl),(kMp rfl),(sm rfl),(kPtr rfl),(sm rfl),(sm rfl),(sm rfl),tv⟩ ⟨bS rfl rfl rfl,bS rfl rfl rfl,bS rfl rfl rfl,⟨rfl,rfl⟩,tv⟩ rfl
            ·have hb58:=nF' hb58
             replace h:=bT hb58 h
             refine Tr.skip ?_
             replace h:=si h; subst h
             exact Qg [] ⟨(Qew (ltB hM hk3)),(kPtr rfl),(kPtr rfl),(sm rfl),(kMp rfl),(sm rfl),(kPtr rfl),(sm rfl),(sm rfl),(sm rfl),tv⟩ ⟨bS rfl rfl rfl,bS rfl rfl rfl,bS rfl rfl rfl,⟨rfl,rfl⟩,tv⟩ rfl
           ·obtain ⟨origins61,c62⟩:=z
            refine Tr.rgn (Rn.fldP (o':=3) tv rfl rfl (Rn.loadT (cs':=[(o_ x9),(i_ 0),(o_ a38),(Qe a47)]) tv rfl rfl rfl rfl (md rfl (Rn.fldP (o':=1) tv rfl rfl (lB (v:=(i_ x51.Event)) rfl rfl rfl rfl (Rn.mov (v:=.mp (Γ.n0+20)) tv rfl (Rn.fldP (o':=2) tv rfl rfl (lB (v:=(i_ x51.To)) rfl rfl rfl rfl (Rn.lookup (ek:=(fun (x:Int)=>((i_ x):V))) (ev:=(fun (x:Int)=>((i_ x):V))) (m:=c62) (k:=x51.To) (fun _ _=>rfl) (fun _=>rfl) (fun _=>rfl) 0 rfl tv rfl rfl rfl (Rn.build (v:=.agg [(i_ i22),(i_ x51.Event),(i_ (getM c62 x51.To 0))]) tv rfl (Rn.bslice (xs:=[.agg [(i_ i22),(i_ x51.Event),(i_ (getM c62 x51.To 0))]]) (cs:=[(i_ i22),(i_ x51.Event),(i_ (getM c62 x51.To 0))]) tv rfl rfl rfl rfl ?_)))))))))))
            obtain ⟨x63,h64,h⟩:=bnd h
            refine Rn.app (e:=Qv) tv rfl rfl rfl (Qcl rfl rfl rfl) h64 rfl (Rn.fldP (o':=3) tv rfl rfl (Rn.storeO (cs':=[(o_ x9),(i_ 0),(o_ a38),(Qk x63)]) tv rfl rfl rfl rfl rfl (Rn.nil ?_)))
            replace h:=si h; subst h
            exact Qg [115] ⟨(Qew (ltB hM hk3)),(kPtr rfl),(kPtr rfl),(sm rfl),(kMp rfl),(sm rfl),(sm rfl),(sm rfl),(sm rfl),tv⟩ ⟨bS rfl rfl rfl,bS rfl rfl rfl,bS rfl rfl rfl,⟨rfl,rfl⟩,tv⟩ rfl
         ·obtain ⟨origins65,a66,c67,c68,c69,c70⟩:=z
          refine Tr.rgn (Rn.bin tv rfl rfl rfl (md rfl (Rn.nil ?_)))
          exact ⟨_,h,(by exact Qj ⟨(Qew (ltB hM hk3)),(kPtr rfl),(kPtr rfl),(sm rfl),(kMp rfl),(sm rfl),(sm rfl),(sm rfl),(sm rfl),tv⟩ ⟨bS rfl rfl rfl,bS rfl rfl rfl,⟨rfl,rfl⟩,tv⟩ rfl)⟩
        ·replace h:=ifF hb50 h
         refine Tr.exit ?_
         replace h:=si h; subst h
         exact Qg [] ⟨(Qew (ltB hM hk3)),(kPtr rfl),(kPtr rfl),(sm rfl),(kMp rfl),(sm rfl),tv⟩ ⟨bS rfl rfl rfl,bS rfl rfl rfl,⟨rfl,rfl⟩,tv⟩ rfl
     ·obtain ⟨origins71,a72,a73,c74⟩:=z
      refine Tr.rgn (md rfl (Rn.bin tv rfl rfl rfl (md rfl (Rn.nil ?_))))
      exact ⟨_,h,(by exact Qj ⟨(Qew (ltB hM hk3)),(kPtr rfl),(kPtr rfl),(sm rfl),(kMp rfl),(sm rfl),tv⟩ ⟨bS rfl rfl rfl,bS rfl rfl rfl,⟨rfl,rfl⟩,tv⟩ rfl)⟩
    ·replace h:=ifF hb30 h
     refine Tr.exit ?_
     replace h:=si h; subst h
     exact Qg [] ⟨(kPtr rfl),(kPtr rfl),(sm rfl),tv⟩ ⟨bS rfl rfl rfl,bS rfl rfl rfl,⟨rfl,rfl⟩,tv⟩ rfl
  ·obtain ⟨origins75,c76,c77,c78,a79,a80,c81⟩:=z
   refine sr ((Rn.mov (v:=(l_ origins75)) tv rfl (Rn.lenD tv rfl (Rn.fldP (o':=1) tv rfl rfl (Rn.store (v:=(i_ (origins75.length:Int))) (cs':=[(o_ x9),(i_ (origins75.length:Int)),(o_ a79),(Qk a80)]) tv rfl rfl rfl rfl rfl rfl (nt ((sr ((lB (v:=.agg [(l_ x9),(i_ (origins75.length:Int)),(l_ a79),(Qe a80)]) rfl rfl rfl rfl (Rn.movTO tv rfl (Rn.storeT (v:=.agg [(l_ x9),(i_ (origins75.length:Int)),(l_ a79),(Qe a80)]) (ds:=[(l_ x9),(i_ (origins75.length:Int)),(l_ a79),(Qe a80)]) (cs':=[(l_ x9),(i_ (origins75.length:Int)),(l_ a79),(Qe a80)]) tv rfl rfl rfl rfl rfl rfl rfl (Rn.movTO tv rfl (nt ((Tr.ret ?_))))))))))))))))
   replace h:=si h; subst h
   exact ⟨.inr rfl,.tup [.agg [(l_ x9),(i_ (origins75.length:Int)),(l_ a79),(Qe a80)],(o_ origins75)],res2 (Qfh rfl rfl rfl rfl) rfl,(WkV.tup (.cons (.same rfl) (.cons (.same rfl) .nil))).rd,⟨⟨tv,tv,tv,tv,tv⟩,tv,tv⟩,mB⟩
theorem Qp2 {P:Program} {c:Nat} {Qcw:Qh→Option Int} {Qcx:Qh→Option Ql} {Qb0:Ql→Int→Option ((List Qo))} {Qu:Ql→Option ((List Int))} {Qs:(List Qc)→(Qc→Option Bool)→Option Bool} {Qbo:Qc→Qh→Ql→Option Bool} {Qba:Ql→Option (Qa×(List Int))}
    (H_timedsynthesis_Check:Qis P 43 Qcw)
    (H_timedsynthesis_begin:Qiu P 44 Qcx)
    (H_timedsynthesis_task_round:Qfs P 45 Qb0)
    (H_timedsynthesis_task_distances:Qdm P 46 Qu)
    (H_slices_ContainsFunc_Edge:Qdq P 47 Qs)
    (H_timedsynthesis_Synthesize_1:Qe9 P 48 Qbo)
    (H_timedsynthesis_task_supervisor:Qeh P 49 Qba) (hcf:Qq P c=some Qfv) (fuel:Nat):Qfu P c (Qbl Qcw Qcx Qb0 Qu Qs Qbo Qba fuel):=by
 intro p1 r h
 refine Qc6 hcf rfl fun Γ M hP hnt hM=>?_
 subst hP
 refine Tr.init [(0,(Qw p1))] rfl ?_
 unfold Qbl at h
 unfold Qfv
 refine sr ((Rn.box (v:=(Qw p1)) (cs:=(Qp p1)) tv rfl rfl rfl rfl rfl (Rn.alloc tv rfl (md rfl (nt ((Tr.seq (sr ((lB (v:=(Qw p1)) rfl rfl rfl rfl ?_))))))))))
 obtain ⟨x3,h2,h⟩:=bnd h
 refine Rn.call (args:=[(Qw p1)]) tv rfl (H_timedsynthesis_Check _ _ h2) pc9 (md rfl (nt ((sr ((md rfl (Rn.bin tv rfl rfl rfl (Rn.nil (toN ?_)))))))))
 refine Tr.cond rfl (fun hb4=>?_) (fun hb4=>?_)
 ·replace h:=bT hb4 h
  refine sr ((Rn.build (v:=.agg [.nils 1,.nils 1,.nils 4,(i_ 0),.nils 1,(i_ 0),.nils 1,.nils 3,.nils 1,.nils 1]) tv rfl (md rfl (Rn.storeT (v:=.agg [.nils 1,.nils 1,.nils 4,(i_ 0),.nils 1,(i_ 0),.nils 1,.nils 3,.nils 1,.nils 1]) (ds:=[.nils 1,.nils 1,.nils 4,(i_ 0),.nils 1,(i_ 0),.nils 1,.nils 3,.nils 1,.nils 1]) (cs':=[.nils 1,.nils 1,.nils 4,(i_ 0),.nils 1,(i_ 0),.nils 1,.nils 3,.nils 1,.nils 1]) tv rfl rfl rfl rfl rfl rfl rfl (md rfl (nt ((Tr.ret ?_))))))))
  replace h:=si h; subst h
  exact ⟨.inr rfl,.tup [.agg [.nils 1,.nils 1,.nils 4,(i_ 0),.nils 1,(i_ 0),.nils 1,.nils 3,.nils 1,.nils 1],(i_ x3)],res2 (Qfh rfl rfl rfl rfl) rfl,(WkV.tup (.cons (WkV.agg (.cons (WkV.nilsD _) (.cons (WkV.nilsD _) (.cons (WkV.nilsD _) (.cons (.same rfl) (.cons (WkV.nilsD _) (.cons (.same rfl) (.cons (WkV.nilsD _) (.cons (WkV.nilsD _) (.cons (WkV.nilsD _) (.cons (WkV.nilsD _) .nil))))))))))) (.cons (.same rfl) .nil))).rd,⟨⟨tv,tv,tv,tv,tv,tv,tv,tv,tv,tv,tv⟩,tv,tv⟩,mB⟩
 ·replace h:=bF hb4 h
  refine Tr.skip (toN (sr ((lB (v:=(Qw p1)) rfl rfl rfl rfl ?_))))
  obtain ⟨x5,h6,h⟩:=bnd h
  refine Rn.callNew (m:=148) (args:=[(Qw p1)]) (r':=.ptr (Γ.n0+165) 0) (L':=[(165,.cells [(l_ x5.zN.zA.zJ),(i_ x5.zN.zA.zM),(l_ x5.zN.zA.zK),(Qe x5.zN.zA.zL),(l_ x5.zN.zC),(l_ x5.zN.zB),(l_ x5.zN.zD),(i_ x5.zN.Tick),.sl 1 (Γ.n0+159) 0 x5.from_.length x5.from_.length,.sl 1 (Γ.n0+163) 0 x5.left_.length x5.left_.length]),(159,.cells (Qbb (fun (x:List Qc)=>[(Qe x)]) x5.from_)),(163,.cells (Qbb (fun (x:Bool)=>[V.d (.bool x)]) x5.left_))]) tv rfl (H_timedsynthesis_begin _ _ h6 _ _) rfl rfl rfl hM rfl (Rn.alloc tv rfl (Rn.store (v:=.ptr (Γ.n0+165) 0) (cs':=[.ptr (Γ.n0+165) 0]) tv rfl rfl rfl rfl rfl rfl (nt ((sr ((Rn.alloc tv rfl (nt ((sr ((lB (v:=.ptr (Γ.n0+165) 0) rfl rfl rfl rfl (Rn.nilchkP tv rfl (Rn.fldP (o':=9) tv rfl rfl (lB (v:=.sl 1 (Γ.n0+163) 0 x5.left_.length x5.left_.length) rfl rfl rfl rfl (Rn.lenA tv rfl ?_))))))))))))))))
  obtain ⟨x7,h8,h⟩:=bnd h
  refine Rn.makes (g:=(fun (x:Qo)=>[V.d (.int .i64 x.State),V.d (.int .i64 x.Rank),V.d (.int .i64 x.Reason),V.d (.int .i64 x.Event)])) tv rfl rfl rfl rfl rfl h8 (Rn.movTF (v:=.sl 4 (Γ.n0+30) 0 (Int.toNat (x5.left_.length:Int)) (Int.toNat (x5.left_.length:Int))) tv rfl rfl (Rn.nil (toN ?_)))
  refine Tr.cutB (fun ((r20,c21):Int×(List Qo))=>⟨look [(1,.ptr (Γ.n0+1) 0),(2,.ptr (Γ.n0+2) 0),(5,.ptr (Γ.n0+5) 0),(6,.ptr (Γ.n0+6) 0),(7,.sl 4 (Γ.n0+30) 0 (Int.toNat (x5.left_.length:Int)) (Int.toNat (x5.left_.length:Int)))],Qm Γ.n0 (bxs [(1,.cells ((Qp p1))),(2,.cells ([.nils 1,.nils 1,.nils 4,(i_ 0),.nils 1,(i_ 0),.nils 1,.nils 3,.nils 1,.nils 1])),(5,.cells ([.ptr (Γ.n0+165) 0])),(6,.cells ([.nils 1,.nils 1,.nils 4,(i_ r20),.nils 1,(i_ 0),.nils 1,.nils 3,.nils 1,.nils 1])),(30,.cells (Qbb (fun (x:Qo)=>[V.d (.int .i64 x.State),V.d (.int .i64 x.Rank),V.d (.int .i64 x.Reason),V.d (.int .i64 x.Event)]) c21)),(159,.cells (Qbb (fun (x:List Qc)=>[(Qe x)]) x5.from_)),(163,.cells (Qbb (fun (x:Bool)=>[V.d (.bool x)]) x5.left_)),(165,.cells ([(l_ x5.zN.zA.zJ),(i_ x5.zN.zA.zM),(l_ x5.zN.zA.zK),(Qe x5.zN.zA.zL),(l_ x5.zN.zC),(l_ x5.zN.zB),(l_ x5.zN.zD),(i_ x5.zN.Tick),.sl 1 (Γ.n0+159) 0 x5.from_.length x5.from_.length,.sl 1 (Γ.n0+163) 0 x5.left_.length x5.left_.length]))]) M,Γ.n0+214⟩) h (fun z h=>?_) (fun z h=>?_)
  ·refine sr ((Rn.fldP (o':=4) tv rfl rfl (lB (v:=(l_ p1.zC)) rfl rfl rfl rfl (Rn.lenD tv rfl (md rfl (nt ((Tr.block ?_))))))))
   refine Tr.loop (mk:=fun ((x9,r10,c11):Int×Int×(List Qo))=>⟨look [(1,.ptr (Γ.n0+1) 0),(2,.ptr (Γ.n0+2) 0),(5,.ptr (Γ.n0+5) 0),(6,.ptr (Γ.n0+6) 0),(7,.sl 4 (Γ.n0+30) 0 (Int.toNat (x5.left_.length:Int)) (Int.toNat (x5.left_.length:Int))),(32,(l_ p1.zC)),(33,(i_ (p1.zC.length:Int))),(34,(i_ x9))],Qm Γ.n0 (bxs [(1,.cells ((Qp p1))),(2,.cells ([.nils 1,.nils 1,.nils 4,(i_ 0),.nils 1,(i_ 0),.nils 1,.nils 3,.nils 1,.nils 1])),(5,.cells ([.ptr (Γ.n0+165) 0])),(6,.cells ([.nils 1,.nils 1,.nils 4,(i_ r10),.nils 1,(i_ 0),.nils 1,.nils 3,.nils 1,.nils 1])),(30,.cells (Qbb (fun (x:Qo)=>[V.d (.int .i64 x.State),V.d (.int .i64 x.Rank),V.d (.int .i64 x.Reason),V.d (.int .i64 x.Event)]) c11)),(159,.cells (Qbb (fun (x:List Qc)=>[(Qe x)]) x5.from_)),(163,.cells (Qbb (fun (x:Bool)=>[V.d (.bool x)]) x5.left_)),(165,.cells ([(l_ x5.zN.zA.zJ),(i_ x5.zN.zA.zM),(l_ x5.zN.zA.zK),(Qe x5.zN.zA.zL),(l_ x5.zN.zC),(l_ x5.zN.zB),(l_ x5.zN.zD),(i_ x5.zN.Tick),.sl 1 (Γ.n0+159) 0 x5.from_.length x5.from_.length,.sl 1 (Γ.n0+163) 0 x5.left_.length x5.left_.length]))]) M,Γ.n0+214⟩) h (by exact Qj ⟨(kPtr rfl),(kPtr rfl),(kPtr rfl),(kPtr rfl),(kSl rfl),(sm rfl),(sm rfl),(sm rfl),tv⟩ ⟨bS rfl rfl rfl,bS rfl rfl rfl,⟨_,rfl,rfl,(.cons (kPtr rfl) .nil)⟩,bS rfl rfl rfl,bM rfl rfl fun _=>rfl,bM rfl rfl fun _=>rfl,bM rfl rfl fun _=>rfl,⟨_,rfl,rfl,(cS rfl (cS rfl (cS rfl (cS rfl (cS rfl (cS rfl (cS rfl (cS rfl (.cons (kSl rfl) (.cons (kSl rfl) .nil))))))))))⟩,tv⟩ rfl) (fun k12 z h=>?_)
   ·obtain ⟨x9,r10,c11⟩:=z
    replace h:_=some _:=h
    refine sr ((Rn.bin tv rfl rfl rfl (nt ((Tr.seq ?_)))))
    refine Tr.cond rfl (fun hb13=>?_) (fun hb13=>?_)
    ·replace h:=ifT hb13 h
     refine Tr.skip (toN (Tr.seq (Tr.block (Tr.seq (Tr.rgn ?_)))))
     obtain ⟨x14,h15,h⟩:=bnd h
     refine Rn.idxD (e:=(eI .i64)) tv rfl rfl h15 (Rn.loadC (x:=.int .i64 x14) tv rfl (md rfl (nt ((Tr.rgn (Rn.mov (v:=.sl 4 (Γ.n0+30) 0 (Int.toNat (x5.left_.length:Int)) (Int.toNat (x5.left_.length:Int))) tv rfl (md rfl (md rfl (Rn.build (v:=.agg [(i_ x14),(i_ 1),(i_ 1),(i_ (-1))]) tv rfl ?_)))))))))
     obtain ⟨⟨⟩,h17,h⟩:=bnd h
     refine Rn.idxA tv rfl rfl h17 ?_
     obtain ⟨x18,h19,h⟩:=bnd h
     refine Rn.storeA (g:=(fun (x:Qo)=>[V.d (.int .i64 x.State),V.d (.int .i64 x.Rank),V.d (.int .i64 x.Reason),V.d (.int .i64 x.Event)])) (v:=.agg [(i_ x14),(i_ 1),(i_ 1),(i_ (-1))]) (fun _=>rfl) tv rfl rfl rfl rfl rfl h19 (Rn.fldP (o':=3) tv rfl rfl (Rn.store (v:=(i_ 1)) (cs':=[.nils 1,.nils 1,.nils 4,(i_ 1),.nils 1,(i_ 0),.nils 1,.nils 3,.nils 1,.nils 1]) tv rfl rfl rfl rfl rfl rfl (nt ((Tr.rgn (Rn.bin tv rfl rfl rfl (md rfl (Rn.nil ?_))))))))
     exact ⟨_,h,(by exact Qj ⟨(kPtr rfl),(kPtr rfl),(kPtr rfl),(kPtr rfl),(kSl rfl),(sm rfl),(sm rfl),(sm rfl),tv⟩ ⟨bS rfl rfl rfl,bS rfl rfl rfl,⟨_,rfl,rfl,(.cons (kPtr rfl) .nil)⟩,bS rfl rfl rfl,bM rfl rfl fun _=>rfl,bM rfl rfl fun _=>rfl,bM rfl rfl fun _=>rfl,⟨_,rfl,rfl,(cS rfl (cS rfl (cS rfl (cS rfl (cS rfl (cS rfl (cS rfl (cS rfl (.cons (kSl rfl) (.cons (kSl rfl) .nil))))))))))⟩,tv⟩ rfl)⟩
    ·replace h:=ifF hb13 h
     refine Tr.exit ?_
     replace h:=si h; subst h
     exact Qg [] ⟨(kPtr rfl),(kPtr rfl),(kPtr rfl),(kPtr rfl),(kSl rfl),tv⟩ ⟨bS rfl rfl rfl,bS rfl rfl rfl,⟨_,rfl,rfl,(.cons (kPtr rfl) .nil)⟩,bS rfl rfl rfl,bM rfl rfl fun _=>rfl,bM rfl rfl fun _=>rfl,bM rfl rfl fun _=>rfl,⟨_,rfl,rfl,(cS rfl (cS rfl (cS rfl (cS rfl (cS rfl (cS rfl (cS rfl (cS rfl (.cons (kSl rfl) (.cons (kSl rfl) .nil))))))))))⟩,tv⟩ rfl
  ·obtain ⟨r20,c21⟩:=z
   refine Tr.cutB (fun ((r48,c49,c50):Int×(List Qo)×(List Bool))=>⟨look [(1,.ptr (Γ.n0+1) 0),(2,.ptr (Γ.n0+2) 0),(5,.ptr (Γ.n0+5) 0),(6,.ptr (Γ.n0+6) 0),(7,.sl 4 (Γ.n0+30) 0 (Int.toNat (x5.left_.length:Int)) (Int.toNat (x5.left_.length:Int)))],Qm Γ.n0 (bxs [(1,.cells ((Qp p1))),(2,.cells ([.nils 1,.nils 1,.nils 4,(i_ 0),.nils 1,(i_ 0),.nils 1,.nils 3,.nils 1,.nils 1])),(5,.cells ([.ptr (Γ.n0+165) 0])),(6,.cells ([.nils 1,.nils 1,.nils 4,(i_ r48),.nils 1,(i_ 0),.nils 1,.nils 3,.nils 1,.nils 1])),(30,.cells (Qbb (fun (x:Qo)=>[V.d (.int .i64 x.State),V.d (.int .i64 x.Rank),V.d (.int .i64 x.Reason),V.d (.int .i64 x.Event)]) c49)),(159,.cells (Qbb (fun (x:List Qc)=>[(Qe x)]) x5.from_)),(163,.cells (Qbb (fun (x:Bool)=>[V.d (.bool x)]) c50)),(165,.cells ([(l_ x5.zN.zA.zJ),(i_ x5.zN.zA.zM),(l_ x5.zN.zA.zK),(Qe x5.zN.zA.zL),(l_ x5.zN.zC),(l_ x5.zN.zB),(l_ x5.zN.zD),(i_ x5.zN.Tick),.sl 1 (Γ.n0+159) 0 x5.from_.length x5.from_.length,.sl 1 (Γ.n0+163) 0 x5.left_.length x5.left_.length]))]) M,Γ.n0+214⟩) h (fun z h=>?_) (fun z h=>?_)
   ·refine sr ((md rfl (nt ((Tr.block ?_)))))
    refine Tr.loop (mk:=fun ((rank22,r23,c24,c25):Int×Int×(List Qo)×(List Bool))=>⟨look [(1,.ptr (Γ.n0+1) 0),(2,.ptr (Γ.n0+2) 0),(5,.ptr (Γ.n0+5) 0),(6,.ptr (Γ.n0+6) 0),(7,.sl 4 (Γ.n0+30) 0 (Int.toNat (x5.left_.length:Int)) (Int.toNat (x5.left_.length:Int))),(10,(i_ rank22))],Qm Γ.n0 (bxs [(1,.cells ((Qp p1))),(2,.cells ([.nils 1,.nils 1,.nils 4,(i_ 0),.nils 1,(i_ 0),.nils 1,.nils 3,.nils 1,.nils 1])),(5,.cells ([.ptr (Γ.n0+165) 0])),(6,.cells ([.nils 1,.nils 1,.nils 4,(i_ r23),.nils 1,(i_ 0),.nils 1,.nils 3,.nils 1,.nils 1])),(30,.cells (Qbb (fun (x:Qo)=>[V.d (.int .i64 x.State),V.d (.int .i64 x.Rank),V.d (.int .i64 x.Reason),V.d (.int .i64 x.Event)]) c24)),(159,.cells (Qbb (fun (x:List Qc)=>[(Qe x)]) x5.from_)),(163,.cells (Qbb (fun (x:Bool)=>[V.d (.bool x)]) c25)),(165,.cells ([(l_ x5.zN.zA.zJ),(i_ x5.zN.zA.zM),(l_ x5.zN.zA.zK),(Qe x5.zN.zA.zL),(l_ x5.zN.zC),(l_ x5.zN.zB),(l_ x5.zN.zD),(i_ x5.zN.Tick),.sl 1 (Γ.n0+159) 0 x5.from_.length x5.from_.length,.sl 1 (Γ.n0+163) 0 x5.left_.length x5.left_.length]))]) M,Γ.n0+214⟩) h (by exact Qj ⟨(kPtr rfl),(kPtr rfl),(kPtr rfl),(kPtr rfl),(kSl rfl),(sm rfl),tv⟩ ⟨bS rfl rfl rfl,bS rfl rfl rfl,⟨_,rfl,rfl,(.cons (kPtr rfl) .nil)⟩,bS rfl rfl rfl,bM rfl rfl fun _=>rfl,bM rfl rfl fun _=>rfl,bM rfl rfl fun _=>rfl,⟨_,rfl,rfl,(cS rfl (cS rfl (cS rfl (cS rfl (cS rfl (cS rfl (cS rfl (cS rfl (.cons (kSl rfl) (.cons (kSl rfl) .nil))))))))))⟩,tv⟩ rfl) (fun k26 z h=>?_)
    ·obtain ⟨rank22,r23,c24,c25⟩:=z
     replace h:_=some _:=h
     refine Tr.seq (Tr.block (sr ((lB (v:=.ptr (Γ.n0+165) 0) rfl rfl rfl rfl (md rfl ?_)))))
     obtain ⟨⟨⟩,hl27,h⟩:=bnd h
     obtain ⟨x29,h28,h⟩:=bnd h
     refine Rn.callM (args:=[.ptr (Γ.n0+165) 0,(i_ rank22)]) tv rfl (fun M2 nb2 hn hx=>H_timedsynthesis_task_round _ _ (Γ.n0+165) (Γ.n0+159) (Γ.n0+163) _ h28 M2 nb2 (by rw [Qex hl27]; exact (hx _ _ (Q6 rfl))) (hx _ _ (Q6 rfl)) (hx _ _ (Q6 rfl))) rfl pc9 ?_
     refine Rn.movTO tv rfl (nt ((Tr.seq (sr ((Rn.mov (v:=(Qd1 x29)) tv rfl (Rn.lenD tv rfl (Rn.bin tv rfl rfl rfl (Rn.nil (toN ?_))))))))))
     refine Tr.cond rfl (fun hb30=>?_) (fun hb30=>?_)
     ·replace h:=bT hb30 h
      refine Tr.exit ?_
      replace h:=si h; subst h
      exact Qg [] ⟨(kPtr rfl),(kPtr rfl),(kPtr rfl),(kPtr rfl),(kSl rfl),tv⟩ ⟨bS rfl rfl rfl,bS rfl rfl rfl,⟨_,rfl,rfl,(.cons (kPtr rfl) .nil)⟩,bS rfl rfl rfl,bM rfl rfl fun _=>rfl,bM rfl rfl fun _=>rfl,bM rfl rfl fun _=>rfl,⟨_,rfl,rfl,(cS rfl (cS rfl (cS rfl (cS rfl (cS rfl (cS rfl (cS rfl (cS rfl (.cons (kSl rfl) (.cons (kSl rfl) .nil))))))))))⟩,tv⟩ rfl
     ·replace h:=bF hb30 h
      refine Tr.skip (toN ?_)
      refine Tr.cutB (fun ((c46,c47):(List Qo)×(List Bool))=>⟨look [(1,.ptr (Γ.n0+1) 0),(2,.ptr (Γ.n0+2) 0),(5,.ptr (Γ.n0+5) 0),(6,.ptr (Γ.n0+6) 0),(7,.sl 4 (Γ.n0+30) 0 (Int.toNat (x5.left_.length:Int)) (Int.toNat (x5.left_.length:Int))),(10,(i_ rank22))],Qm Γ.n0 (bxs [(1,.cells ((Qp p1))),(2,.cells ([.nils 1,.nils 1,.nils 4,(i_ 0),.nils 1,(i_ 0),.nils 1,.nils 3,.nils 1,.nils 1])),(5,.cells ([.ptr (Γ.n0+165) 0])),(6,.cells ([.nils 1,.nils 1,.nils 4,(i_ r23),.nils 1,(i_ 0),.nils 1,.nils 3,.nils 1,.nils 1])),(30,.cells (Qbb (fun (x:Qo)=>[V.d (.int .i64 x.State),V.d (.int .i64 x.Rank),V.d (.int .i64 x.Reason),V.d (.int .i64 x.Event)]) c46)),(159,.cells (Qbb (fun (x:List Qc)=>[(Qe x)]) x5.from_)),(163,.cells (Qbb (fun (x:Bool)=>[V.d (.bool x)]) c47)),(165,.cells ([(l_ x5.zN.zA.zJ),(i_ x5.zN.zA.zM),(l_ x5.zN.zA.zK),(Qe x5.zN.zA.zL),(l_ x5.zN.zC),(l_ x5.zN.zB),(l_ x5.zN.zD),(i_ x5.zN.Tick),.sl 1 (Γ.n0+159) 0 x5.from_.length x5.from_.length,.sl 1 (Γ.n0+163) 0 x5.left_.length x5.left_.length]))]) M,Γ.n0+214⟩) h (fun z h=>?_) (fun z h=>?_)
      ·refine sr ((Rn.mov (v:=(Qd1 x29)) tv rfl (Rn.lenD tv rfl (md rfl (nt ((Tr.block ?_)))))))
       refine Tr.loop (mk:=fun ((x31,c32,c33):Int×(List Qo)×(List Bool))=>⟨look [(1,.ptr (Γ.n0+1) 0),(2,.ptr (Γ.n0+2) 0),(5,.ptr (Γ.n0+5) 0),(6,.ptr (Γ.n0+6) 0),(7,.sl 4 (Γ.n0+30) 0 (Int.toNat (x5.left_.length:Int)) (Int.toNat (x5.left_.length:Int))),(10,(i_ rank22)),(53,(Qd1 x29)),(54,(i_ (x29.length:Int))),(55,(i_ x31))],Qm Γ.n0 (bxs [(1,.cells ((Qp p1))),(2,.cells ([.nils 1,.nils 1,.nils 4,(i_ 0),.nils 1,(i_ 0),.nils 1,.nils 3,.nils 1,.nils 1])),(5,.cells ([.ptr (Γ.n0+165) 0])),(6,.cells ([.nils 1,.nils 1,.nils 4,(i_ r23),.nils 1,(i_ 0),.nils 1,.nils 3,.nils 1,.nils 1])),(30,.cells (Qbb (fun (x:Qo)=>[V.d (.int .i64 x.State),V.d (.int .i64 x.Rank),V.d (.int .i64 x.Reason),V.d (.int .i64 x.Event)]) c32)),(159,.cells (Qbb (fun (x:List Qc)=>[(Qe x)]) x5.from_)),(163,.cells (Qbb (fun (x:Bool)=>[V.d (.bool x)]) c33)),(165,.cells ([(l_ x5.zN.zA.zJ),(i_ x5.zN.zA.zM),(l_ x5.zN.zA.zK),(Qe x5.zN.zA.zL),(l_ x5.zN.zC),(l_ x5.zN.zB),(l_ x5.zN.zD),(i_ x5.zN.Tick),.sl 1 (Γ.n0+159) 0 x5.from_.length x5.from_.length,.sl 1 (Γ.n0+163) 0 x5.left_.length x5.left_.length]))]) M,Γ.n0+214⟩) h (by exact Qj ⟨(kPtr rfl),(kPtr rfl),(kPtr rfl),(kPtr rfl),(kSl rfl),(sm rfl),(sm rfl),(sm rfl),(sm rfl),tv⟩ ⟨bS rfl rfl rfl,bS rfl rfl rfl,⟨_,rfl,rfl,(.cons (kPtr rfl) .nil)⟩,bS rfl rfl rfl,bM rfl rfl fun _=>rfl,bM rfl rfl fun _=>rfl,bM rfl rfl fun _=>rfl,⟨_,rfl,rfl,(cS rfl (cS rfl (cS rfl (cS rfl (cS rfl (cS rfl (cS rfl (cS rfl (.cons (kSl rfl) (.cons (kSl rfl) .nil))))))))))⟩,tv⟩ rfl) (fun k34 z h=>?_)
       ·obtain ⟨x31,c32,c33⟩:=z
        replace h:_=some _:=h
        refine sr ((Rn.bin tv rfl rfl rfl (nt ((Tr.seq ?_)))))
        refine Tr.cond rfl (fun hb35=>?_) (fun hb35=>?_)
        ·replace h:=ifT hb35 h
         refine Tr.skip (toN (Tr.seq (Tr.block (Tr.seq (Tr.rgn ?_)))))
         obtain ⟨x36,h37,h⟩:=bnd h
         refine Rn.idxD (e:=Qec) tv rfl rfl h37 (Rn.loadCA (vs:=(Qmh x36)) tv rfl rfl rfl (Rn.alloc tv rfl (Rn.store (v:=(Qmi x36)) (cs':=(Qmh x36)) tv rfl rfl rfl rfl rfl rfl (Rn.nil (toN ?_)))))
         refine Tr.rgnD (by decide) ?_
         refine lB (v:=.ptr (Γ.n0+165) 0) rfl rfl rfl rfl (Rn.nilchkP tv rfl (Rn.fldP (o':=9) tv rfl rfl (lB (v:=.sl 1 (Γ.n0+163) 0 x5.left_.length x5.left_.length) rfl rfl rfl rfl (Rn.fldP (o':=0) tv rfl rfl (lB (v:=(i_ x36.State)) rfl rfl rfl rfl (Rn.mov (v:=.sl 4 (Γ.n0+30) 0 (Int.toNat (x5.left_.length:Int)) (Int.toNat (x5.left_.length:Int))) tv rfl (Rn.fldP (o':=0) tv rfl rfl (lB (v:=(i_ x36.State)) rfl rfl rfl rfl (lB (v:=(Qmi x36)) rfl rfl rfl rfl ?_)))))))))
         obtain ⟨⟨⟩,h39,h⟩:=bnd h
         refine Rn.idxA tv rfl rfl h39 ?_
         obtain ⟨x40,h41,h⟩:=bnd h
         refine Rn.storeA (g:=(fun (x:Bool)=>[V.d (.bool x)])) (v:=(b_ false)) (fun _=>rfl) tv rfl rfl rfl rfl rfl h41 ?_
         obtain ⟨⟨⟩,h43,h⟩:=bnd h
         refine Rn.idxA tv rfl rfl h43 ?_
         obtain ⟨x44,h45,h⟩:=bnd h
         refine Rn.storeA (g:=(fun (x:Qo)=>[V.d (.int .i64 x.State),V.d (.int .i64 x.Rank),V.d (.int .i64 x.Reason),V.d (.int .i64 x.Event)])) (v:=(Qmi x36)) (fun _=>rfl) tv rfl rfl rfl rfl rfl h45 ?_
         refine Rn.nil ⟨by first | rfl | (simp [Q6u,Qop,look,Bool.cond_eq_ite,Nat.beq_eq]; done),?_⟩
         refine toN (Tr.rgn (Rn.bin tv rfl rfl rfl (md rfl (Rn.nil ?_))))
         exact ⟨_,h,(by exact Qj ⟨(kPtr rfl),(kPtr rfl),(kPtr rfl),(kPtr rfl),(kSl rfl),(sm rfl),(sm rfl),(sm rfl),(sm rfl),tv⟩ ⟨bS rfl rfl rfl,bS rfl rfl rfl,⟨_,rfl,rfl,(.cons (kPtr rfl) .nil)⟩,bS rfl rfl rfl,bM rfl rfl fun _=>rfl,bM rfl rfl fun _=>rfl,bM rfl rfl fun _=>rfl,⟨_,rfl,rfl,(cS rfl (cS rfl (cS rfl (cS rfl (cS rfl (cS rfl (cS rfl (cS rfl (.cons (kSl rfl) (.cons (kSl rfl) .nil))))))))))⟩,tv⟩ rfl)⟩
        ·replace h:=ifF hb35 h
         refine Tr.exit ?_
         replace h:=si h; subst h
         exact Qg [] ⟨(kPtr rfl),(kPtr rfl),(kPtr rfl),(kPtr rfl),(kSl rfl),(sm rfl),tv⟩ ⟨bS rfl rfl rfl,bS rfl rfl rfl,⟨_,rfl,rfl,(.cons (kPtr rfl) .nil)⟩,bS rfl rfl rfl,bM rfl rfl fun _=>rfl,bM rfl rfl fun _=>rfl,bM rfl rfl fun _=>rfl,⟨_,rfl,rfl,(cS rfl (cS rfl (cS rfl (cS rfl (cS rfl (cS rfl (cS rfl (cS rfl (.cons (kSl rfl) (.cons (kSl rfl) .nil))))))))))⟩,tv⟩ rfl
      ·obtain ⟨c46,c47⟩:=z
       refine Tr.rgn (md rfl (Rn.fldP (o':=3) tv rfl rfl (Rn.store (v:=(i_ rank22)) (cs':=[.nils 1,.nils 1,.nils 4,(i_ rank22),.nils 1,(i_ 0),.nils 1,.nils 3,.nils 1,.nils 1]) tv rfl rfl rfl rfl rfl rfl (nt ((Tr.rgn (md rfl (Rn.bin tv rfl rfl rfl (md rfl (Rn.nil ?_))))))))))
       exact ⟨_,h,(by exact Qj ⟨(kPtr rfl),(kPtr rfl),(kPtr rfl),(kPtr rfl),(kSl rfl),(sm rfl),tv⟩ ⟨bS rfl rfl rfl,bS rfl rfl rfl,⟨_,rfl,rfl,(.cons (kPtr rfl) .nil)⟩,bS rfl rfl rfl,bM rfl rfl fun _=>rfl,bM rfl rfl fun _=>rfl,bM rfl rfl fun _=>rfl,⟨_,rfl,rfl,(cS rfl (cS rfl (cS rfl (cS rfl (cS rfl (cS rfl (cS rfl (cS rfl (.cons (kSl rfl) (.cons (kSl rfl) .nil))))))))))⟩,tv⟩ rfl)⟩
   ·obtain ⟨r48,c49,c50⟩:=z
    refine sr ((Rn.fldP (o':=0) tv rfl rfl (Rn.mov (v:=.ptr (Γ.n0+6) 0) tv rfl (Rn.nil (toN ?_)))))
    refine Tr.cutB (fun ((c107,c108,c109,c110,c111,c112,c113,c114,r115,r116,r117,r118,r119,r120,r121,r122):(List Int)×(List Int)×(List Qo)×(List Int)×(List Int)×(List Qc)×(List Int)×(List Int)×(List Int)×(List Int)×(List Qo)×(List Int)×(List Int)×(List Qc)×(List Int)×(List Int))=>⟨look [(2,.ptr (Γ.n0+2) 0),(5,.ptr (Γ.n0+5) 0),(6,.ptr (Γ.n0+6) 0)],Qm Γ.n0 (bxs [(1,.cells ((Qp p1))),(2,.cells ([(o_ c107),(o_ c108),(Q7 c109),(i_ 0),(o_ c110),(i_ 0),(o_ c111),(Qk c112),(o_ c113),(o_ c114)])),(5,.cells ([.ptr (Γ.n0+165) 0])),(6,.cells ([(o_ r115),(o_ r116),(Q7 r117),(i_ r48),(o_ r118),(i_ 0),(o_ r119),(Qk r120),(o_ r121),(o_ r122)])),(30,.cells (Qbb (fun (x:Qo)=>[V.d (.int .i64 x.State),V.d (.int .i64 x.Rank),V.d (.int .i64 x.Reason),V.d (.int .i64 x.Event)]) c49)),(159,.cells (Qbb (fun (x:List Qc)=>[(Qe x)]) x5.from_)),(163,.cells (Qbb (fun (x:Bool)=>[V.d (.bool x)]) c50)),(165,.cells ([(l_ x5.zN.zA.zJ),(i_ x5.zN.zA.zM),(l_ x5.zN.zA.zK),(Qe x5.zN.zA.zL),(l_ x5.zN.zC),(l_ x5.zN.zB),(l_ x5.zN.zD),(i_ x5.zN.Tick),.sl 1 (Γ.n0+159) 0 x5.from_.length x5.from_.length,.sl 1 (Γ.n0+163) 0 x5.left_.length x5.left_.length]))]) M,Γ.n0+214⟩) h (fun z h=>?_) (fun z h=>?_)
    ·refine sr ((lB (v:=.ptr (Γ.n0+165) 0) rfl rfl rfl rfl ?_))
     obtain ⟨⟨⟩,hl51,h⟩:=bnd h
     obtain ⟨x53,h52,h⟩:=bnd h
     refine Rn.callM (args:=[.ptr (Γ.n0+165) 0]) tv rfl (fun M2 nb2 hn hx=>H_timedsynthesis_task_distances _ (Γ.n0+165) (Γ.n0+159) (Γ.n0+163) _ h52 M2 nb2 (by rw [Qex hl51]; exact (hx _ _ (Q6 rfl))) (hx _ _ (Q6 rfl)) (hx _ _ (Q6 rfl))) rfl pc9 ?_
     refine Rn.lenD tv rfl (md rfl (nt ((Tr.block ?_))))
     refine Tr.loop (mk:=fun ((x54,c55,c56,c57,c58,c59,c60,c61,c62,r63,r64,r65,r66,r67,r68,r69,r70):Int×(List Int)×(List Int)×(List Qo)×(List Int)×(List Int)×(List Qc)×(List Int)×(List Int)×(List Int)×(List Int)×(List Qo)×(List Int)×(List Int)×(List Qc)×(List Int)×(List Int))=>⟨look [(1,.ptr (Γ.n0+1) 0),(2,.ptr (Γ.n0+2) 0),(5,.ptr (Γ.n0+5) 0),(6,.ptr (Γ.n0+6) 0),(7,.sl 4 (Γ.n0+30) 0 (Int.toNat (x5.left_.length:Int)) (Int.toNat (x5.left_.length:Int))),(14,.ptr (Γ.n0+6) 0),(76,(l_ x53)),(77,(i_ (x53.length:Int))),(78,(i_ x54))],Qm Γ.n0 (bxs [(1,.cells ((Qp p1))),(2,.cells ([(o_ c55),(o_ c56),(Q7 c57),(i_ 0),(o_ c58),(i_ 0),(o_ c59),(Qk c60),(o_ c61),(o_ c62)])),(5,.cells ([.ptr (Γ.n0+165) 0])),(6,.cells ([(o_ r63),(o_ r64),(Q7 r65),(i_ r48),(o_ r66),(i_ 0),(o_ r67),(Qk r68),(o_ r69),(o_ r70)])),(30,.cells (Qbb (fun (x:Qo)=>[V.d (.int .i64 x.State),V.d (.int .i64 x.Rank),V.d (.int .i64 x.Reason),V.d (.int .i64 x.Event)]) c49)),(159,.cells (Qbb (fun (x:List Qc)=>[(Qe x)]) x5.from_)),(163,.cells (Qbb (fun (x:Bool)=>[V.d (.bool x)]) c50)),(165,.cells ([(l_ x5.zN.zA.zJ),(i_ x5.zN.zA.zM),(l_ x5.zN.zA.zK),(Qe x5.zN.zA.zL),(l_ x5.zN.zC),(l_ x5.zN.zB),(l_ x5.zN.zD),(i_ x5.zN.Tick),.sl 1 (Γ.n0+159) 0 x5.from_.length x5.from_.length,.sl 1 (Γ.n0+163) 0 x5.left_.length x5.left_.length]))]) M,Γ.n0+214⟩) h (by exact Qj ⟨(kPtr rfl),(kPtr rfl),(kPtr rfl),(kPtr rfl),(kSl rfl),(kPtr rfl),(sm rfl),(sm rfl),(sm rfl),tv⟩ ⟨bS rfl rfl rfl,⟨_,rfl,rfl,(.cons (WkV.nilsO _) (.cons (WkV.nilsO _) (.cons (WkV.nilsO _) (cS rfl (.cons (WkV.nilsO _) (cS rfl (.cons (WkV.nilsO _) (.cons (WkV.nilsO _) (.cons (WkV.nilsO _) (.cons (WkV.nilsO _) .nil))))))))))⟩,⟨_,rfl,rfl,(.cons (kPtr rfl) .nil)⟩,⟨_,rfl,rfl,(.cons (WkV.nilsO _) (.cons (WkV.nilsO _) (.cons (WkV.nilsO _) (cS rfl (.cons (WkV.nilsO _) (cS rfl (.cons (WkV.nilsO _) (.cons (WkV.nilsO _) (.cons (WkV.nilsO _) (.cons (WkV.nilsO _) .nil))))))))))⟩,bM rfl rfl fun _=>rfl,bM rfl rfl fun _=>rfl,bM rfl rfl fun _=>rfl,⟨_,rfl,rfl,(cS rfl (cS rfl (cS rfl (cS rfl (cS rfl (cS rfl (cS rfl (cS rfl (.cons (kSl rfl) (.cons (kSl rfl) .nil))))))))))⟩,tv⟩ rfl) (fun k71 z h=>?_)
     ·obtain ⟨x54,c55,c56,c57,c58,c59,c60,c61,c62,r63,r64,r65,r66,r67,r68,r69,r70⟩:=z
      replace h:_=some _:=h
      refine sr ((Rn.bin tv rfl rfl rfl (nt ((Tr.seq ?_)))))
      refine Tr.cond rfl (fun hb72=>?_) (fun hb72=>?_)
      ·replace h:=ifT hb72 h
       refine Tr.skip (toN ?_)
       refine Tr.cutB (fun ((r103,r104,r105,r106):(List Int)×(List Int)×(List Qo)×(List Int))=>⟨look [(1,.ptr (Γ.n0+1) 0),(2,.ptr (Γ.n0+2) 0),(5,.ptr (Γ.n0+5) 0),(6,.ptr (Γ.n0+6) 0),(7,.sl 4 (Γ.n0+30) 0 (Int.toNat (x5.left_.length:Int)) (Int.toNat (x5.left_.length:Int))),(14,.ptr (Γ.n0+6) 0),(76,(l_ x53)),(77,(i_ (x53.length:Int))),(78,(i_ x54))],Qm Γ.n0 (bxs [(1,.cells ((Qp p1))),(2,.cells ([(o_ c55),(o_ c56),(Q7 c57),(i_ 0),(o_ c58),(i_ 0),(o_ c59),(Qk c60),(o_ c61),(o_ c62)])),(5,.cells ([.ptr (Γ.n0+165) 0])),(6,.cells ([(o_ r103),(o_ r104),(Q7 r105),(i_ r48),(o_ r66),(i_ 0),(o_ r67),(Qk r68),(o_ r69),(o_ r106)])),(30,.cells (Qbb (fun (x:Qo)=>[V.d (.int .i64 x.State),V.d (.int .i64 x.Rank),V.d (.int .i64 x.Reason),V.d (.int .i64 x.Event)]) c49)),(159,.cells (Qbb (fun (x:List Qc)=>[(Qe x)]) x5.from_)),(163,.cells (Qbb (fun (x:Bool)=>[V.d (.bool x)]) c50)),(165,.cells ([(l_ x5.zN.zA.zJ),(i_ x5.zN.zA.zM),(l_ x5.zN.zA.zK),(Qe x5.zN.zA.zL),(l_ x5.zN.zC),(l_ x5.zN.zB),(l_ x5.zN.zD),(i_ x5.zN.Tick),.sl 1 (Γ.n0+159) 0 x5.from_.length x5.from_.length,.sl 1 (Γ.n0+163) 0 x5.left_.length x5.left_.length]))]) M,Γ.n0+214⟩) h (fun z h=>?_) (fun z h=>?_)
       ·refine Tr.block (sr ((md rfl ?_)))
        obtain ⟨x73,h74,h⟩:=bnd h
        refine Rn.idxD (e:=(eI .i64)) tv rfl rfl h74 (Rn.loadC (x:=.int .i64 x73) tv rfl (md rfl (md rfl (nt ((Tr.seq (sr ((lB (v:=.ptr (Γ.n0+165) 0) rfl rfl rfl rfl (Rn.nilchkP tv rfl (Rn.fldP (o':=9) tv rfl rfl (lB (v:=.sl 1 (Γ.n0+163) 0 x5.left_.length x5.left_.length) rfl rfl rfl rfl (md rfl ?_)))))))))))))
        obtain ⟨⟨⟩,h76,h⟩:=bnd h
        refine Rn.idxA tv rfl rfl h76 ?_
        obtain ⟨x77,h78,h⟩:=bnd h
        refine Rn.loadA (g:=(fun (x:Bool)=>[V.d (.bool x)])) (v:=(b_ x77)) (f:=0) (fun _=>rfl) tv rfl (Q6 rfl) h78 rfl rfl (Rn.un tv rfl rfl (Rn.nil (toN ?_)))
        refine Tr.cond rfl (fun hb79=>?_) (fun hb79=>?_)
        ·have hb79:=nT' hb79
         replace h:=bF hb79 h
         refine Tr.seq ?_
         refine Tr.rgnD (by decide) ?_
         refine Rn.mov (v:=.ptr (Γ.n0+6) 0) tv rfl (Rn.mov (v:=.ptr (Γ.n0+6) 0) tv rfl (Rn.nilchkP tv rfl (Rn.fldP (o':=2) tv rfl rfl (Rn.loadT (cs':=[(o_ r63),(o_ r64),(Qd1 r65),(i_ r48),(o_ r66),(i_ 0),(o_ r67),(Qk r68),(o_ r69),(o_ r70)]) tv rfl rfl rfl rfl (Rn.mov (v:=.sl 4 (Γ.n0+30) 0 (Int.toNat (x5.left_.length:Int)) (Int.toNat (x5.left_.length:Int))) tv rfl (md rfl ?_))))))
         obtain ⟨⟨⟩,h81,h⟩:=bnd h
         refine Rn.idxA tv rfl rfl h81 ?_
         obtain ⟨x82,h83,h⟩:=bnd h
         refine Rn.loadA (g:=(fun (x:Qo)=>[V.d (.int .i64 x.State),V.d (.int .i64 x.Rank),V.d (.int .i64 x.Reason),V.d (.int .i64 x.Event)])) (v:=(Qmi x82)) (f:=0) (fun _=>rfl) tv rfl (Q6 rfl) h83 rfl rfl (Rn.bslice (xs:=[(Qmi x82)]) (cs:=(Qmh x82)) tv rfl rfl rfl rfl ?_)
         obtain ⟨x84,h85,h⟩:=bnd h
         refine Rn.app (e:=Qec) tv rfl rfl rfl (Qcl rfl rfl rfl) h85 rfl (Rn.nilchkP tv rfl (Rn.fldP (o':=2) tv rfl rfl (Rn.storeO (cs':=[(o_ r63),(o_ r64),(Q7 x84),(i_ r48),(o_ r66),(i_ 0),(o_ r67),(Qk r68),(o_ r69),(o_ r70)]) tv rfl rfl rfl rfl rfl ?_)))
         refine Rn.nil ⟨rfl,?_⟩
         refine toN (Tr.exit ?_)
         replace h:=si h; subst h
         exact Qg [100] ⟨(kPtr rfl),(kPtr rfl),(kPtr rfl),(kPtr rfl),(kSl rfl),(kPtr rfl),(sm rfl),(sm rfl),(sm rfl),tv⟩ ⟨bS rfl rfl rfl,bS rfl rfl rfl,⟨_,rfl,rfl,(.cons (kPtr rfl) .nil)⟩,bS rfl rfl rfl,bM rfl rfl fun _=>rfl,bM rfl rfl fun _=>rfl,bM rfl rfl fun _=>rfl,⟨_,rfl,rfl,(cS rfl (cS rfl (cS rfl (cS rfl (cS rfl (cS rfl (cS rfl (cS rfl (.cons (kSl rfl) (.cons (kSl rfl) .nil))))))))))⟩,tv⟩ rfl
        ·have hb79:=nF' hb79
         replace h:=bT hb79 h
         refine Tr.skip (toN (Tr.seq ?_))
         refine Tr.rgnD (by decide) ?_
         refine Rn.mov (v:=.ptr (Γ.n0+6) 0) tv rfl (Rn.mov (v:=.ptr (Γ.n0+6) 0) tv rfl (Rn.mov (v:=.ptr (Γ.n0+6) 0) tv rfl (Rn.nilchkP tv rfl (Rn.fldP (o':=0) tv rfl rfl (Rn.loadT (cs':=[(l_ r63),(o_ r64),(Q7 r65),(i_ r48),(o_ r66),(i_ 0),(o_ r67),(Qk r68),(o_ r69),(o_ r70)]) tv rfl rfl rfl rfl (md rfl (Rn.bslice (xs:=[(i_ x54)]) (cs:=[(i_ x54)]) tv rfl rfl rfl rfl ?_)))))))
         obtain ⟨x86,h87,h⟩:=bnd h
         refine Rn.app (e:=(eI .i64)) tv rfl rfl rfl (Qcl rfl rfl rfl) h87 rfl (Rn.mov (v:=.ptr (Γ.n0+6) 0) tv rfl (Rn.nilchkP tv rfl (Rn.fldP (o':=1) tv rfl rfl (Rn.loadT (cs':=[(l_ r63),(l_ r64),(Q7 r65),(i_ r48),(o_ r66),(i_ 0),(o_ r67),(Qk r68),(o_ r69),(o_ r70)]) tv rfl rfl rfl rfl (md rfl (Rn.bslice (xs:=[(i_ x73)]) (cs:=[(i_ x73)]) tv rfl rfl rfl rfl ?_))))))
         obtain ⟨x88,h89,h⟩:=bnd h
         refine Rn.app (e:=(eI .i64)) tv rfl rfl rfl (Qcl rfl rfl rfl) h89 rfl (Rn.nilchkP tv rfl (Rn.fldP (o':=0) tv rfl rfl (Rn.storeO (cs':=[(o_ x86),(l_ r64),(Q7 r65),(i_ r48),(o_ r66),(i_ 0),(o_ r67),(Qk r68),(o_ r69),(o_ r70)]) tv rfl rfl rfl rfl rfl (Rn.nilchkP tv rfl (Rn.fldP (o':=1) tv rfl rfl (Rn.storeO (cs':=[(o_ x86),(o_ x88),(Q7 r65),(i_ r48),(o_ r66),(i_ 0),(o_ r67),(Qk r68),(o_ r69),(o_ r70)]) tv rfl rfl rfl rfl rfl ?_))))))
         refine Rn.nil ⟨by first | rfl | (simp [Q6u,Qop,look,Bool.cond_eq_ite,Nat.beq_eq]; done),?_⟩
         refine toN (sr ((lB (v:=.ptr (Γ.n0+165) 0) rfl rfl rfl rfl (Rn.nilchkP tv rfl (Rn.fldP (o':=8) tv rfl rfl (lB (v:=.sl 1 (Γ.n0+159) 0 x5.from_.length x5.from_.length) rfl rfl rfl rfl (md rfl ?_)))))))
         obtain ⟨⟨⟩,h91,h⟩:=bnd h
         refine Rn.idxA tv rfl rfl h91 ?_
         obtain ⟨x92,h93,h⟩:=bnd h
         refine Rn.loadA (g:=(fun (x:List Qc)=>[(Qe x)])) (v:=(Qe x92)) (f:=0) (fun _=>rfl) tv rfl (Q6 rfl) h93 rfl rfl (Rn.k (v:=.clo 48 [.ptr (Γ.n0+1) 0,.ptr (Γ.n0+5) 0]) tv rfl rfl rfl ?_)
         obtain ⟨⟨⟩,hl97,h⟩:=bnd h
         obtain ⟨x99,h98,h⟩:=bnd h
         refine Rn.callM (args:=[(Qe x92),.clo 48 [.ptr (Γ.n0+1) 0,.ptr (Γ.n0+5) 0]]) tv rfl (fun M2 nb2 hn hx=>H_slices_ContainsFunc_Edge _ _ 48 [.ptr (Γ.n0+1) 0,.ptr (Γ.n0+5) 0] _ h98 M2 nb2 rfl ⟨Q04 (hx _ _ (Q6 rfl)),Q04 (hx _ _ (Q6 rfl)),tv⟩ (fun a94 r95 h96 M3 nb3 hn3 hx3=>H_timedsynthesis_Synthesize_1 a94 p1 (Ql.mk x5.zN x5.from_ c50) (Γ.n0+1) (Γ.n0+5) (Γ.n0+165) (Γ.n0+159) (Γ.n0+163) r95 h96 M3 nb3 ((hx.trans hx3) _ _ (Q6 rfl)) ((hx.trans hx3) _ _ (Q6 rfl)) (by rw [Qex hl97]; exact ((hx.trans hx3) _ _ (Q6 rfl))) ((hx.trans hx3) _ _ (Q6 rfl)) ((hx.trans hx3) _ _ (Q6 rfl)))) rfl pc9 ?_
         refine Rn.nil (toN ?_)
         refine Tr.cond rfl (fun hb100=>?_) (fun hb100=>?_)
         ·replace h:=bT hb100 h
          refine Tr.rgn (Rn.fldP (o':=9) tv rfl rfl (Rn.loadT (cs':=[(o_ x86),(o_ x88),(Q7 r65),(i_ r48),(o_ r66),(i_ 0),(o_ r67),(Qk r68),(o_ r69),(l_ r70)]) tv rfl rfl rfl rfl (md rfl (Rn.bslice (xs:=[(i_ x54)]) (cs:=[(i_ x54)]) tv rfl rfl rfl rfl ?_))))
          obtain ⟨x101,h102,h⟩:=bnd h
          refine Rn.app (e:=(eI .i64)) tv rfl rfl rfl (Qcl rfl rfl rfl) h102 rfl (Rn.fldP (o':=9) tv rfl rfl (Rn.storeO (cs':=[(o_ x86),(o_ x88),(Q7 r65),(i_ r48),(o_ r66),(i_ 0),(o_ r67),(Qk r68),(o_ r69),(o_ x101)]) tv rfl rfl rfl rfl rfl (Rn.nil ?_)))
          replace h:=si h; subst h
          exact Qg [111,118,136] ⟨(kPtr rfl),(kPtr rfl),(kPtr rfl),(kPtr rfl),(kSl rfl),(kPtr rfl),(sm rfl),(sm rfl),(sm rfl),tv⟩ ⟨bS rfl rfl rfl,bS rfl rfl rfl,⟨_,rfl,rfl,(.cons (kPtr rfl) .nil)⟩,bS rfl rfl rfl,bM rfl rfl fun _=>rfl,bM rfl rfl fun _=>rfl,bM rfl rfl fun _=>rfl,⟨_,rfl,rfl,(cS rfl (cS rfl (cS rfl (cS rfl (cS rfl (cS rfl (cS rfl (cS rfl (.cons (kSl rfl) (.cons (kSl rfl) .nil))))))))))⟩,tv⟩ rfl
         ·replace h:=bF hb100 h
          refine Tr.skip ?_
          replace h:=si h; subst h
          exact Qg [111,118] ⟨(kPtr rfl),(kPtr rfl),(kPtr rfl),(kPtr rfl),(kSl rfl),(kPtr rfl),(sm rfl),(sm rfl),(sm rfl),tv⟩ ⟨bS rfl rfl rfl,bS rfl rfl rfl,⟨_,rfl,rfl,(.cons (kPtr rfl) .nil)⟩,bS rfl rfl rfl,bM rfl rfl fun _=>rfl,bM rfl rfl fun _=>rfl,bM rfl rfl fun _=>rfl,⟨_,rfl,rfl,(cS rfl (cS rfl (cS rfl (cS rfl (cS rfl (cS rfl (cS rfl (cS rfl (.cons (kSl rfl) (.cons (kSl rfl) .nil))))))))))⟩,tv⟩ rfl
       ·obtain ⟨r103,r104,r105,r106⟩:=z
        refine Tr.rgn (Rn.bin tv rfl rfl rfl (md rfl (Rn.nil ?_)))
        exact ⟨_,h,(by exact Qj ⟨(kPtr rfl),(kPtr rfl),(kPtr rfl),(kPtr rfl),(kSl rfl),(kPtr rfl),(sm rfl),(sm rfl),(sm rfl),tv⟩ ⟨bS rfl rfl rfl,bS rfl rfl rfl,⟨_,rfl,rfl,(.cons (kPtr rfl) .nil)⟩,bS rfl rfl rfl,bM rfl rfl fun _=>rfl,bM rfl rfl fun _=>rfl,bM rfl rfl fun _=>rfl,⟨_,rfl,rfl,(cS rfl (cS rfl (cS rfl (cS rfl (cS rfl (cS rfl (cS rfl (cS rfl (.cons (kSl rfl) (.cons (kSl rfl) .nil))))))))))⟩,tv⟩ rfl)⟩
      ·replace h:=ifF hb72 h
       refine Tr.exit ?_
       replace h:=si h; subst h
       exact Qg [] ⟨(kPtr rfl),(kPtr rfl),(kPtr rfl),tv⟩ ⟨bS rfl rfl rfl,bS rfl rfl rfl,⟨_,rfl,rfl,(.cons (kPtr rfl) .nil)⟩,bS rfl rfl rfl,bM rfl rfl fun _=>rfl,bM rfl rfl fun _=>rfl,bM rfl rfl fun _=>rfl,⟨_,rfl,rfl,(cS rfl (cS rfl (cS rfl (cS rfl (cS rfl (cS rfl (cS rfl (cS rfl (.cons (kSl rfl) (.cons (kSl rfl) .nil))))))))))⟩,tv⟩ rfl
    ·obtain ⟨c107,c108,c109,c110,c111,c112,c113,c114,r115,r116,r117,r118,r119,r120,r121,r122⟩:=z
     refine sr ((lB (v:=.ptr (Γ.n0+165) 0) rfl rfl rfl rfl ?_))
     obtain ⟨⟨⟩,hl123,h⟩:=bnd h
     obtain ⟨⟨r125,r126⟩,h124,h⟩:=bnd h
     refine Rn.callM (args:=[.ptr (Γ.n0+165) 0]) tv rfl (fun M2 nb2 hn hx=>H_timedsynthesis_task_supervisor _ (Γ.n0+165) (Γ.n0+159) (Γ.n0+163) _ h124 M2 nb2 (by rw [Qex hl123]; exact (hx _ _ (Q6 rfl))) (hx _ _ (Q6 rfl)) (hx _ _ (Q6 rfl))) rfl pc9 ?_
     refine Rn.mov (v:=.tup [(Qb r125),(l_ r126)]) tv rfl (Rn.ext (v:=(Qb r125)) (vs:=[(Qb r125),(l_ r126)]) tv rfl rfl rfl (Rn.extTD (vs:=[(Qb r125),(l_ r126)]) tv rfl rfl rfl (Rn.fldP (o':=4) tv rfl rfl (Rn.storeT (v:=(Qb r125)) (ds:=(Qd r125)) (cs':=[(o_ r115),(o_ r116),(Q7 r117),(i_ r48),(l_ r125.zJ),(i_ r125.zM),(l_ r125.zK),(Qe r125.zL),(o_ r121),(o_ r122)]) tv rfl rfl rfl rfl rfl rfl rfl (Rn.fldP (o':=8) tv rfl rfl (Rn.storeD (cs':=[(o_ r115),(o_ r116),(Q7 r117),(i_ r48),(l_ r125.zJ),(i_ r125.zM),(l_ r125.zK),(Qe r125.zL),(l_ r126),(o_ r122)]) tv rfl rfl rfl rfl rfl (nt ((sr ((lB (v:=.agg [(l_ r115),(l_ r116),(Qd1 r117),(i_ r48),(l_ r125.zJ),(i_ r125.zM),(l_ r125.zK),(Qe r125.zL),(l_ r126),(l_ r122)]) rfl rfl rfl rfl (Rn.storeT (v:=.agg [(l_ r115),(l_ r116),(Qd1 r117),(i_ r48),(l_ r125.zJ),(i_ r125.zM),(l_ r125.zK),(Qe r125.zL),(l_ r126),(l_ r122)]) (ds:=[(l_ r115),(l_ r116),(Qd1 r117),(i_ r48),(l_ r125.zJ),(i_ r125.zM),(l_ r125.zK),(Qe r125.zL),(l_ r126),(l_ r122)]) (cs':=[(l_ r115),(l_ r116),(Qd1 r117),(i_ r48),(l_ r125.zJ),(i_ r125.zM),(l_ r125.zK),(Qe r125.zL),(l_ r126),(l_ r122)]) tv rfl rfl rfl rfl rfl rfl rfl (md rfl (nt ((Tr.ret ?_))))))))))))))))
     replace h:=si h; subst h
     exact ⟨.inr rfl,.tup [.agg [(l_ r115),(l_ r116),(Qd1 r117),(i_ r48),(l_ r125.zJ),(i_ r125.zM),(l_ r125.zK),(Qe r125.zL),(l_ r126),(l_ r122)],(i_ 0)],res2 (Qfh rfl rfl rfl rfl) rfl,(WkV.tup (.cons (.same rfl) (.cons (.same rfl) .nil))).rd,⟨⟨tv,tv,tv,tv,tv,tv,tv,tv,tv,tv,tv⟩,tv,tv⟩,mB⟩
theorem Qp3 {P:Program} {c:Nat} (hcf:Qq P c=some Qfx):Qfw P c (Qb1):=by
 intro state1 x2 x3 x6 x9 k4 k7 k10 r h
 intro M nb hk5 hk8 hk11
 refine Qtp hcf rfl M nb fun Γ hP hnt hn0 hM=>?_
 subst hP hn0
 refine Tr.init [(0,(i_ state1)),(1,(i_ x2)),(2,.ptr k4 0),(3,.ptr k7 0),(4,.ptr k10 0)] rfl ?_
 unfold Qb1 at h
 unfold Qfx
 refine sr ((md rfl (nt ((Tr.seq (Tr.block (sr ((md rfl (Rn.load (v:=(i_ x3)) tv rfl (Q9 hM hk5) rfl rfl (Rn.bin tv rfl rfl rfl (md rfl (Rn.nil (toN ?_))))))))))))))
 refine Tr.cond rfl (fun hb12=>?_) (fun hb12=>?_)
 ·replace h:=bT hb12 h
  refine sr ((md rfl (md rfl (nt ((Tr.ret ?_))))))
  replace h:=si h; subst h
  exact ⟨.inr rfl,(i_ state1),rfl,fun _ _ _ _ h=>h,tv,mB⟩
 ·replace h:=bF hb12 h
  refine sr ((md rfl (Rn.load (v:=(i_ x6)) tv rfl (Q9 hM hk8) rfl rfl (Rn.bin tv rfl rfl rfl (md rfl (Rn.nil (toN ?_)))))))
  refine Tr.cond rfl (fun hb13=>?_) (fun hb13=>?_)
  ·replace h:=bT hb13 h
   refine sr ((md rfl (nt ((Tr.ret ?_)))))
   replace h:=si h; subst h
   exact ⟨.inr rfl,(i_ 0),rfl,fun _ _ _ _ h=>h,tv,mB⟩
  ·replace h:=bF hb13 h
   refine sr ((md rfl (Rn.load (v:=(i_ x9)) tv rfl (Q9 hM hk11) rfl rfl (Rn.bin tv rfl rfl rfl (md rfl (Rn.nil (toN ?_)))))))
   refine Tr.cond rfl (fun hb14=>?_) (fun hb14=>?_)
   ·replace h:=ifT hb14 h
    refine sr ((md rfl (Rn.bin tv rfl rfl rfl (md rfl (nt ((Tr.ret ?_)))))))
    replace h:=si h; subst h
    exact ⟨.inr rfl,(i_ (IntKind.wrap .i64 (state1+1))),rfl,fun _ _ _ _ h=>h,tv,mB⟩
   ·replace h:=ifF hb14 h
    refine Tr.skip (toN (sr ((md rfl (nt ((Tr.ret ?_)))))))
    replace h:=si h; subst h
    exact ⟨.inr rfl,(i_ (-1)),rfl,fun _ _ _ _ h=>h,tv,mB⟩
theorem Qxj {P:Program} {c:Nat} {Qt:Int→Option Bool} {f_slices_Sort_int:List Int→Option (List Int)}
    (H_timedsynthesis_event:Qem P 27 Qt)
    (H_slices_Sort_int:RowK P 69 (eI .i64) 1 [] f_slices_Sort_int) (hcf:Qq P c=some Qix) (fuel:Nat):Qiw P c (Qcy Qt f_slices_Sort_int fuel):=by
 intro xfrom1 to2 ticks3 tick4 marked5 lead6 g7 cp8 r h
 intro M nb hc9 ho11 hf10
 refine Qtp hcf rfl M nb fun Γ hP hnt hn0 hM=>?_
 subst hP hn0
 refine Tr.init [(0,(i_ xfrom1)),(1,(i_ to2)),(2,(i_ ticks3)),(3,(i_ tick4)),(4,(b_ marked5)),(5,.clo g7 cp8)] rfl ?_
 unfold Qcy at h
 unfold Qix
 refine sr ((Rn.alloc tv rfl (md rfl (nt ((Tr.seq (Tr.block ?_)))))))
 refine Tr.cutB (fun (x22:Bool)=>⟨look [(0,(i_ xfrom1)),(1,(i_ to2)),(2,(i_ ticks3)),(3,(i_ tick4)),(4,(b_ marked5)),(5,.clo g7 cp8),(12,.ptr (Γ.n0+12) 0),(19,(b_ x22))],Qm Γ.n0 (bxs [(12,.cells ([.nils 1,(i_ 0),.nils 1,.nils 3]))]) M,Γ.n0+113⟩) h (fun z h=>?_) (fun z h=>?_)
 ·refine Tr.rgn (md rfl ?_)
  obtain ⟨x15,h14,h⟩:=bnd h
  refine Rn.call (args:=[(i_ xfrom1)]) tv rfl (H_timedsynthesis_event _ _ h14) pc9 (Rn.un tv rfl rfl (md rfl ?_))
  refine Qbz x15 (fun hb16=>?_) (fun hb16=>?_)
  ·replace h:=bT hb16 h
   refine Rn.movD (gw rfl (nT hb16)) rfl ?_
   obtain ⟨x18,h17,h⟩:=bnd h
   refine Rn.call (args:=[(i_ to2)]) (gw rfl (nT hb16)) rfl (H_timedsynthesis_event _ _ h17) pc9 (Rn.un (gw rfl (nT hb16)) rfl rfl (Rn.pickF (v:=(b_ (!x18))) tv rfl (nT hb16) rfl (md rfl ?_)))
   refine Qbz x18 (fun hb19=>?_) (fun hb19=>?_)
   ·replace h:=bT hb19 h
    refine Rn.movD (gw rfl (nT hb19)) rfl ?_
    obtain ⟨x21,h20,h⟩:=bnd h
    refine Rn.call (args:=[(i_ tick4)]) (gw rfl (nT hb19)) rfl (H_timedsynthesis_event _ _ h20) pc9 (Rn.un (gw rfl (nT hb19)) rfl rfl (Rn.pickF (v:=(b_ (!x21))) tv rfl (nT hb19) rfl (md rfl (Rn.nil ?_))))
    replace h:=si h; subst h
    exact Qg [] ⟨(sm rfl),(sm rfl),(sm rfl),(sm rfl),(sm rfl),(kFun hM ho11),(kPtr rfl),(sm rfl),tv⟩ ⟨bS rfl rfl rfl,tv⟩ rfl
   ·replace h:=bF hb19 h
    refine Rn.sk (nw rfl (nF hb19)) (Rn.sk (nw rfl (nF hb19)) (Rn.sk (nw rfl (nF hb19)) (Rn.pickT (v:=(b_ true)) tv rfl (nF hb19) rfl (md rfl (Rn.nil ?_)))))
    replace h:=si h; subst h
    exact Qg [] ⟨(sm rfl),(sm rfl),(sm rfl),(sm rfl),(sm rfl),(kFun hM ho11),(kPtr rfl),(sm rfl),tv⟩ ⟨bS rfl rfl rfl,tv⟩ rfl
  ·replace h:=bF hb16 h
   refine Rn.sk (nw rfl (nF hb16)) (Rn.sk (nw rfl (nF hb16)) (Rn.sk (nw rfl (nF hb16)) (Rn.pickT (v:=(b_ true)) tv rfl (nF hb16) rfl (md rfl (sT rfl rfl (sT rfl rfl (sT rfl rfl (Rn.pickT (v:=(b_ true)) tv rfl rfl rfl (md rfl (Rn.nil ?_))))))))))
   replace h:=si h; subst h
   exact Qg [] ⟨(sm rfl),(sm rfl),(sm rfl),(sm rfl),(sm rfl),(kFun hM ho11),(kPtr rfl),(sm rfl),tv⟩ ⟨bS rfl rfl rfl,tv⟩ rfl
 ·obtain ⟨x22,rfl⟩ : ∃ x,x=z:=⟨_,rfl⟩
  refine Tr.cond rfl (fun hb23=>?_) (fun hb23=>?_)
  ·replace h:=bT hb23 h
   refine sr ((Rn.build (v:=.agg [.nils 1,(i_ 0),.nils 1,.nils 3]) tv rfl (Rn.storeT (v:=.agg [.nils 1,(i_ 0),.nils 1,.nils 3]) (ds:=[.nils 1,(i_ 0),.nils 1,.nils 3]) (cs':=[.nils 1,(i_ 0),.nils 1,.nils 3]) tv rfl rfl rfl rfl rfl rfl rfl (md rfl (nt ((Tr.ret ?_)))))))
   replace h:=si h; subst h
   exact ⟨.inr rfl,.tup [.agg [.nils 1,(i_ 0),.nils 1,.nils 3],(i_ 2)],res2 (Qfh rfl rfl rfl rfl) rfl,(WkV.tup (.cons (WkV.agg (.cons (WkV.nilsD _) (.cons (.same rfl) (.cons (WkV.nilsD _) (.cons (WkV.nilsD _) .nil))))) (.cons (.same rfl) .nil))).rd,⟨⟨tv,tv,tv,tv,tv⟩,tv,tv⟩,mB⟩
  ·replace h:=bF hb23 h
   refine Tr.cutB (fun (x26:Bool)=>⟨look [(0,(i_ xfrom1)),(1,(i_ to2)),(2,(i_ ticks3)),(3,(i_ tick4)),(4,(b_ marked5)),(5,.clo g7 cp8),(12,.ptr (Γ.n0+12) 0),(34,(b_ x26))],Qm Γ.n0 (bxs [(12,.cells ([.nils 1,(i_ 0),.nils 1,.nils 3]))]) M,Γ.n0+113⟩) h (fun z h=>?_) (fun z h=>?_)
   ·refine Tr.rgn (md rfl (md rfl (Rn.bin tv rfl rfl rfl (md rfl ?_))))
    refine Qbz (xfrom1 == to2) (fun hb24=>?_) (fun hb24=>?_)
    ·replace h:=bT hb24 h
     refine Rn.sk (nw rfl hb24) (Rn.sk (nw rfl hb24) (Rn.sk (nw rfl hb24) (Rn.pickT (v:=(b_ true)) tv rfl hb24 rfl (md rfl (sT rfl rfl (sT rfl rfl (sT rfl rfl (Rn.pickT (v:=(b_ true)) tv rfl rfl rfl (md rfl (Rn.nil ?_))))))))))
     replace h:=si h; subst h
     exact Qg [] ⟨(sm rfl),(sm rfl),(sm rfl),(sm rfl),(sm rfl),(kFun hM ho11),(kPtr rfl),(sm rfl),tv⟩ ⟨bS rfl rfl rfl,tv⟩ rfl
    ·replace h:=bF hb24 h
     refine Rn.movD (gw rfl hb24) rfl (Rn.movD (gw rfl hb24) rfl (Rn.bin (gw rfl hb24) rfl rfl rfl (Rn.pickF (v:=(b_ (xfrom1 == tick4))) tv rfl hb24 rfl (md rfl ?_))))
     refine Qbz (xfrom1 == tick4) (fun hb25=>?_) (fun hb25=>?_)
     ·replace h:=bT hb25 h
      refine Rn.sk (nw rfl hb25) (Rn.sk (nw rfl hb25) (Rn.sk (nw rfl hb25) (Rn.pickT (v:=(b_ true)) tv rfl hb25 rfl (md rfl (Rn.nil ?_)))))
      replace h:=si h; subst h
      exact Qg [] ⟨(sm rfl),(sm rfl),(sm rfl),(sm rfl),(sm rfl),(kFun hM ho11),(kPtr rfl),(sm rfl),tv⟩ ⟨bS rfl rfl rfl,tv⟩ rfl
     ·replace h:=bF hb25 h
      refine Rn.movD (gw rfl hb25) rfl (Rn.movD (gw rfl hb25) rfl (Rn.bin (gw rfl hb25) rfl rfl rfl (Rn.pickF (v:=(b_ (to2 == tick4))) tv rfl hb25 rfl (md rfl (Rn.nil ?_)))))
      replace h:=si h; subst h
      exact Qg [] ⟨(sm rfl),(sm rfl),(sm rfl),(sm rfl),(sm rfl),(kFun hM ho11),(kPtr rfl),(sm rfl),tv⟩ ⟨bS rfl rfl rfl,tv⟩ rfl
   ·obtain ⟨x26,rfl⟩ : ∃ x,x=z:=⟨_,rfl⟩
    refine Tr.cond rfl (fun hb27=>?_) (fun hb27=>?_)
    ·replace h:=bT hb27 h
     refine sr ((Rn.build (v:=.agg [.nils 1,(i_ 0),.nils 1,.nils 3]) tv rfl (Rn.storeT (v:=.agg [.nils 1,(i_ 0),.nils 1,.nils 3]) (ds:=[.nils 1,(i_ 0),.nils 1,.nils 3]) (cs':=[.nils 1,(i_ 0),.nils 1,.nils 3]) tv rfl rfl rfl rfl rfl rfl rfl (md rfl (nt ((Tr.ret ?_)))))))
     replace h:=si h; subst h
     exact ⟨.inr rfl,.tup [.agg [.nils 1,(i_ 0),.nils 1,.nils 3],(i_ 13)],res2 (Qfh rfl rfl rfl rfl) rfl,(WkV.tup (.cons (WkV.agg (.cons (WkV.nilsD _) (.cons (.same rfl) (.cons (WkV.nilsD _) (.cons (WkV.nilsD _) .nil))))) (.cons (.same rfl) .nil))).rd,⟨⟨tv,tv,tv,tv,tv⟩,tv,tv⟩,mB⟩
    ·replace h:=bF hb27 h
     refine Tr.cutB (fun (x29:Bool)=>⟨look [(0,(i_ xfrom1)),(1,(i_ to2)),(2,(i_ ticks3)),(3,(i_ tick4)),(4,(b_ marked5)),(5,.clo g7 cp8),(12,.ptr (Γ.n0+12) 0),(49,(b_ x29))],Qm Γ.n0 (bxs [(12,.cells ([.nils 1,(i_ 0),.nils 1,.nils 3]))]) M,Γ.n0+113⟩) h (fun z h=>?_) (fun z h=>?_)
     ·refine Tr.rgn (md rfl (Rn.bin tv rfl rfl rfl (md rfl ?_)))
      refine Qbz (decide (ticks3 < 0)) (fun hb28=>?_) (fun hb28=>?_)
      ·replace h:=ifT hb28 h
       refine Rn.sk (nw rfl hb28) (Rn.sk (nw rfl hb28) (Rn.pickT (v:=(b_ true)) tv rfl hb28 rfl (md rfl (Rn.nil ?_))))
       replace h:=si h; subst h
       exact Qg [] ⟨(sm rfl),(sm rfl),(sm rfl),(sm rfl),(sm rfl),(kFun hM ho11),(kPtr rfl),(sm rfl),tv⟩ ⟨bS rfl rfl rfl,tv⟩ rfl
      ·replace h:=ifF hb28 h
       refine Rn.movD (gw rfl hb28) rfl (Rn.bin (gw rfl hb28) rfl rfl rfl (Rn.pickF (v:=(b_ (decide (ticks3 > 16)))) tv rfl hb28 rfl (md rfl (Rn.nil ?_))))
       replace h:=si h; subst h
       exact Qg [] ⟨(sm rfl),(sm rfl),(sm rfl),(sm rfl),(sm rfl),(kFun hM ho11),(kPtr rfl),(sm rfl),tv⟩ ⟨bS rfl rfl rfl,tv⟩ rfl
     ·obtain ⟨x29,rfl⟩ : ∃ x,x=z:=⟨_,rfl⟩
      refine Tr.cond rfl (fun hb30=>?_) (fun hb30=>?_)
      ·replace h:=bT hb30 h
       refine sr ((Rn.build (v:=.agg [.nils 1,(i_ 0),.nils 1,.nils 3]) tv rfl (Rn.storeT (v:=.agg [.nils 1,(i_ 0),.nils 1,.nils 3]) (ds:=[.nils 1,(i_ 0),.nils 1,.nils 3]) (cs':=[.nils 1,(i_ 0),.nils 1,.nils 3]) tv rfl rfl rfl rfl rfl rfl rfl (md rfl (nt ((Tr.ret ?_)))))))
       replace h:=si h; subst h
       exact ⟨.inr rfl,.tup [.agg [.nils 1,(i_ 0),.nils 1,.nils 3],(i_ 2)],res2 (Qfh rfl rfl rfl rfl) rfl,(WkV.tup (.cons (WkV.agg (.cons (WkV.nilsD _) (.cons (.same rfl) (.cons (WkV.nilsD _) (.cons (WkV.nilsD _) .nil))))) (.cons (.same rfl) .nil))).rd,⟨⟨tv,tv,tv,tv,tv⟩,tv,tv⟩,mB⟩
      ·replace h:=bF hb30 h
       refine Tr.skip (toN (sr ((md rfl (md rfl (md rfl (Rn.bslice (xs:=[(i_ xfrom1),(i_ to2),(i_ tick4)]) (cs:=[(i_ xfrom1),(i_ to2),(i_ tick4)]) tv rfl rfl rfl rfl (md rfl (Rn.bin tv rfl rfl rfl (Rn.buildT (v:=.agg [.sl 1 (Γ.n0+60) 0 3 3,(i_ (IntKind.wrap .i64 (ticks3+2))),.nils 1,.nils 3]) tv rfl (Rn.alloc tv rfl (Rn.storeT (v:=.agg [.sl 1 (Γ.n0+60) 0 3 3,(i_ (IntKind.wrap .i64 (ticks3+2))),.nils 1,.nils 3]) (ds:=[.sl 1 (Γ.n0+60) 0 3 3,(i_ (IntKind.wrap .i64 (ticks3+2))),.nils 1,.nils 3]) (cs':=[.sl 1 (Γ.n0+60) 0 3 3,(i_ (IntKind.wrap .i64 (ticks3+2))),.nils 1,.nils 3]) tv rfl rfl rfl rfl rfl rfl rfl (nt ((sr ((Rn.fldP (o':=0) tv rfl rfl (lB (v:=.sl 1 (Γ.n0+60) 0 3 3) rfl rfl rfl rfl ?_))))))))))))))))))
       obtain ⟨row31,hs32,h⟩:=bnd h
       obtain ⟨hl33,hn34,hr35⟩:=H_slices_Sort_int _ _ hs32
       refine Rn.callRow (args:=[.sl 1 (Γ.n0+60) 0 3 3]) (t:=60) (cs:=Qbb (fun (x:Int)=>[V.d (.int .i64 x)]) [xfrom1,to2,tick4]) (cs':=Qbb (fun (x:Int)=>[V.d (.int .i64 x)]) row31) tv rfl rfl (fun M2 hM2=>Qboq (fun _=>rfl) hr35 (Nat.le_of_ble_eq_true rfl) hM2) rfl ?_
       refine Rn.nil (toN ?_)
       refine Tr.cutB (fun ((c71,c72,c73,a74,a75,a76):(List Int)×(List Int)×(List Qc)×Int×(List Int)×(List Qc))=>⟨look [(12,.ptr (Γ.n0+12) 0),(14,.ptr (Γ.n0+14) 0)],Qm Γ.n0 (bxs [(12,.cells ([(o_ c71),(i_ 0),(o_ c72),(Qk c73)])),(14,.cells ([.sl 1 (Γ.n0+60) 0 3 3,(i_ a74),(o_ a75),(Qk a76)])),(60,.cells (Qbb (fun (x:Int)=>[V.d (.int .i64 x)]) row31))]) M,Γ.n0+113⟩) h (fun z h=>?_) (fun z h=>?_)
       ·refine sr ((Rn.fldP (o':=1) tv rfl rfl (lB (v:=(i_ (IntKind.wrap .i64 (ticks3+2)))) rfl rfl rfl rfl (md rfl (nt ((Tr.block ?_)))))))
        refine Tr.loop (mk:=fun ((x36,x37,c38,c39,c40,a41,a42,a43):Int×Int×(List Int)×(List Int)×(List Qc)×Int×(List Int)×(List Qc))=>⟨look [(0,(i_ xfrom1)),(4,(b_ marked5)),(5,.clo g7 cp8),(12,.ptr (Γ.n0+12) 0),(14,.ptr (Γ.n0+14) 0),(68,(i_ x36)),(69,(i_ x37))],Qm Γ.n0 (bxs [(12,.cells ([(o_ c38),(i_ 0),(o_ c39),(Qk c40)])),(14,.cells ([.sl 1 (Γ.n0+60) 0 3 3,(i_ a41),(o_ a42),(Qk a43)])),(60,.cells (Qbb (fun (x:Int)=>[V.d (.int .i64 x)]) row31))]) M,Γ.n0+113⟩) h (by exact Qj ⟨(sm rfl),(sm rfl),(kFun hM ho11),(kPtr rfl),(kPtr rfl),(sm rfl),(sm rfl),tv⟩ ⟨⟨_,rfl,rfl,(.cons (WkV.nilsO _) (cS rfl (.cons (WkV.nilsO _) (.cons (WkV.nilsO _) .nil))))⟩,⟨_,rfl,rfl,(.cons (kSl rfl) (cS rfl (.cons (WkV.nilsO _) (.cons (WkV.nilsO _) .nil))))⟩,bM rfl rfl fun _=>rfl,tv⟩ rfl) (fun k44 z h=>?_)
        ·obtain ⟨x36,x37,c38,c39,c40,a41,a42,a43⟩:=z
         replace h:_=some _:=h
         refine sr ((Rn.bin tv rfl rfl rfl (nt ((Tr.seq ?_)))))
         refine Tr.cond rfl (fun hb45=>?_) (fun hb45=>?_)
         ·replace h:=ifT hb45 h
          refine Tr.skip (toN ?_)
          refine Tr.cutB (fun ((a69,a70):(List Int)×(List Qc))=>⟨look [(0,(i_ xfrom1)),(4,(b_ marked5)),(5,.clo g7 cp8),(12,.ptr (Γ.n0+12) 0),(14,.ptr (Γ.n0+14) 0),(68,(i_ x36)),(69,(i_ x37))],Qm Γ.n0 (bxs [(12,.cells ([(o_ c38),(i_ 0),(o_ c39),(Qk c40)])),(14,.cells ([.sl 1 (Γ.n0+60) 0 3 3,(i_ a41),(o_ a69),(Qk a70)])),(60,.cells (Qbb (fun (x:Int)=>[V.d (.int .i64 x)]) row31))]) M,Γ.n0+113⟩) h (fun z h=>?_) (fun z h=>?_)
          ·refine Tr.block (sr ((md rfl (md rfl (Rn.nil (toN ?_))))))
           refine Tr.cutB (fun (a51:List Int)=>⟨look [(0,(i_ xfrom1)),(4,(b_ marked5)),(5,.clo g7 cp8),(12,.ptr (Γ.n0+12) 0),(14,.ptr (Γ.n0+14) 0),(15,(i_ x37)),(68,(i_ x36)),(69,(i_ x37))],Qm Γ.n0 (bxs [(12,.cells ([(o_ c38),(i_ 0),(o_ c39),(Qk c40)])),(14,.cells ([.sl 1 (Γ.n0+60) 0 3 3,(i_ a41),(o_ a51),(Qk a43)])),(60,.cells (Qbb (fun (x:Int)=>[V.d (.int .i64 x)]) row31))]) M,Γ.n0+113⟩) h (fun z h=>?_) (fun z h=>?_)
           ·refine Tr.cutB (fun (x47:Bool)=>⟨look [(0,(i_ xfrom1)),(4,(b_ marked5)),(5,.clo g7 cp8),(12,.ptr (Γ.n0+12) 0),(14,.ptr (Γ.n0+14) 0),(15,(i_ x37)),(68,(i_ x36)),(69,(i_ x37)),(76,(b_ x47))],Qm Γ.n0 (bxs [(12,.cells ([(o_ c38),(i_ 0),(o_ c39),(Qk c40)])),(14,.cells ([.sl 1 (Γ.n0+60) 0 3 3,(i_ a41),(o_ a42),(Qk a43)])),(60,.cells (Qbb (fun (x:Int)=>[V.d (.int .i64 x)]) row31))]) M,Γ.n0+113⟩) h (fun z h=>?_) (fun z h=>?_)
            ·refine Tr.rgn (md rfl (Rn.bin tv rfl rfl rfl (md rfl ?_)))
             refine Qbz (x37 == 0) (fun hb46=>?_) (fun hb46=>?_)
             ·replace h:=bT hb46 h
              refine Rn.sk (nw rfl hb46) (Rn.pickT (v:=(b_ true)) tv rfl hb46 rfl (Rn.nil ?_))
              replace h:=si h; subst h
              exact Qg [] ⟨(sm rfl),(sm rfl),(kFun hM ho11),(kPtr rfl),(kPtr rfl),(sm rfl),(sm rfl),(sm rfl),(sm rfl),tv⟩ ⟨bS rfl rfl rfl,⟨_,rfl,rfl,(.cons (kSl rfl) (cS rfl (cS rfl (cS rfl .nil))))⟩,bM rfl rfl fun _=>rfl,tv⟩ rfl
             ·replace h:=bF hb46 h
              refine Rn.movD (gw rfl hb46) rfl (Rn.pickF (v:=(b_ marked5)) tv rfl hb46 rfl (Rn.nil ?_))
              replace h:=si h; subst h
              exact Qg [] ⟨(sm rfl),(sm rfl),(kFun hM ho11),(kPtr rfl),(kPtr rfl),(sm rfl),(sm rfl),(sm rfl),(sm rfl),tv⟩ ⟨bS rfl rfl rfl,⟨_,rfl,rfl,(.cons (kSl rfl) (cS rfl (cS rfl (cS rfl .nil))))⟩,bM rfl rfl fun _=>rfl,tv⟩ rfl
            ·obtain ⟨x47,rfl⟩ : ∃ x,x=z:=⟨_,rfl⟩
             refine Tr.cond rfl (fun hb48=>?_) (fun hb48=>?_)
             ·replace h:=bT hb48 h
              refine Tr.rgn (Rn.fldP (o':=2) tv rfl rfl (Rn.loadT (cs':=[.sl 1 (Γ.n0+60) 0 3 3,(i_ a41),(l_ a42),(Qk a43)]) tv rfl rfl rfl rfl (md rfl (Rn.bslice (xs:=[(i_ x37)]) (cs:=[(i_ x37)]) tv rfl rfl rfl rfl ?_))))
              obtain ⟨x49,h50,h⟩:=bnd h
              refine Rn.app (e:=(eI .i64)) tv rfl rfl rfl (Qcl rfl rfl rfl) h50 rfl (Rn.fldP (o':=2) tv rfl rfl (Rn.storeO (cs':=[.sl 1 (Γ.n0+60) 0 3 3,(i_ a41),(o_ x49),(Qk a43)]) tv rfl rfl rfl rfl rfl (Rn.nil ?_)))
              replace h:=si h; subst h
              exact Qg [80] ⟨(sm rfl),(sm rfl),(kFun hM ho11),(kPtr rfl),(kPtr rfl),(sm rfl),(sm rfl),(sm rfl),tv⟩ ⟨bS rfl rfl rfl,⟨_,rfl,rfl,(.cons (kSl rfl) (cS rfl (cS rfl (cS rfl .nil))))⟩,bM rfl rfl fun _=>rfl,tv⟩ rfl
             ·replace h:=bF hb48 h
              refine Tr.skip ?_
              replace h:=si h; subst h
              exact Qg [] ⟨(sm rfl),(sm rfl),(kFun hM ho11),(kPtr rfl),(kPtr rfl),(sm rfl),(sm rfl),(sm rfl),tv⟩ ⟨bS rfl rfl rfl,⟨_,rfl,rfl,(.cons (kSl rfl) (cS rfl (cS rfl (cS rfl .nil))))⟩,bM rfl rfl fun _=>rfl,tv⟩ rfl
           ·obtain ⟨a51,rfl⟩ : ∃ x,x=z:=⟨_,rfl⟩
            refine sr ((Rn.fldP (o':=0) tv rfl rfl (lB (v:=.sl 1 (Γ.n0+60) 0 3 3) rfl rfl rfl rfl (Rn.lenA tv rfl (md rfl (nt ((Tr.block ?_))))))))
            refine Tr.loop (mk:=fun ((x52,a53):Int×(List Qc))=>⟨look [(0,(i_ xfrom1)),(4,(b_ marked5)),(5,.clo g7 cp8),(12,.ptr (Γ.n0+12) 0),(14,.ptr (Γ.n0+14) 0),(15,(i_ x37)),(68,(i_ x36)),(69,(i_ x37)),(84,.sl 1 (Γ.n0+60) 0 3 3),(85,(i_ (3:Int))),(86,(i_ x52))],Qm Γ.n0 (bxs [(12,.cells ([(o_ c38),(i_ 0),(o_ c39),(Qk c40)])),(14,.cells ([.sl 1 (Γ.n0+60) 0 3 3,(i_ a41),(o_ a51),(Qk a53)])),(60,.cells (Qbb (fun (x:Int)=>[V.d (.int .i64 x)]) row31))]) M,Γ.n0+113⟩) h (by exact Qj ⟨(sm rfl),(sm rfl),(kFun hM ho11),(kPtr rfl),(kPtr rfl),(sm rfl),(sm rfl),(sm rfl),(kSl rfl),(sm rfl),(sm rfl),tv⟩ ⟨bS rfl rfl rfl,⟨_,rfl,rfl,(.cons (kSl rfl) (cS rfl (cS rfl (cS rfl .nil))))⟩,bM rfl rfl fun _=>rfl,tv⟩ rfl) (fun k54 z h=>?_)
            ·obtain ⟨x52,a53⟩:=z
             replace h:_=some _:=h
             refine sr ((Rn.bin tv rfl rfl rfl (nt ((Tr.seq ?_)))))
             refine Tr.cond rfl (fun hb55=>?_) (fun hb55=>?_)
             ·replace h:=ifT hb55 h
              refine Tr.skip (toN ?_)
              refine Tr.cutB (fun (a68:List Qc)=>⟨look [(0,(i_ xfrom1)),(4,(b_ marked5)),(5,.clo g7 cp8),(12,.ptr (Γ.n0+12) 0),(14,.ptr (Γ.n0+14) 0),(15,(i_ x37)),(68,(i_ x36)),(69,(i_ x37)),(84,.sl 1 (Γ.n0+60) 0 3 3),(85,(i_ (3:Int))),(86,(i_ x52))],Qm Γ.n0 (bxs [(12,.cells ([(o_ c38),(i_ 0),(o_ c39),(Qk c40)])),(14,.cells ([.sl 1 (Γ.n0+60) 0 3 3,(i_ a41),(o_ a51),(Qk a68)])),(60,.cells (Qbb (fun (x:Int)=>[V.d (.int .i64 x)]) row31))]) M,Γ.n0+113⟩) h (fun z h=>?_) (fun z h=>?_)
              ·refine Tr.block (Tr.seq (Tr.rgn ?_))
               obtain ⟨⟨⟩,h57,h⟩:=bnd h
               refine Rn.idxA tv rfl rfl h57 ?_
               obtain ⟨x58,h59,h⟩:=bnd h
               refine Rn.loadA (g:=(fun (x:Int)=>[V.d (.int .i64 x)])) (v:=(i_ x58)) (f:=0) (fun _=>rfl) tv rfl (Q6 rfl) h59 rfl rfl (md rfl (nt ((sr ((Rn.mov (v:=.clo g7 cp8) tv rfl (md rfl (md rfl ?_))))))))
               obtain ⟨x61,h60,h⟩:=bnd h
               refine Rn.callvM (args:=[(i_ x37),(i_ x58)] ++ cp8) tv rfl (by rw [hc9]; rfl) (fun M2 nb2 hn hx=>hf10 _ _ _ h60 M2 nb2 (by omega) ((Qbdj hM).trans hx)) rfl pc9 ?_
               refine md rfl (Rn.nil (toN ?_))
               refine Tr.cutB (fun (next64:Int)=>⟨look [(0,(i_ xfrom1)),(4,(b_ marked5)),(5,.clo g7 cp8),(12,.ptr (Γ.n0+12) 0),(14,.ptr (Γ.n0+14) 0),(15,(i_ x37)),(17,(i_ x58)),(18,(i_ next64)),(68,(i_ x36)),(69,(i_ x37)),(84,.sl 1 (Γ.n0+60) 0 3 3),(85,(i_ (3:Int))),(86,(i_ x52))],Qm Γ.n0 (bxs [(12,.cells ([(o_ c38),(i_ 0),(o_ c39),(Qk c40)])),(14,.cells ([.sl 1 (Γ.n0+60) 0 3 3,(i_ a41),(o_ a51),(Qk a53)])),(60,.cells (Qbb (fun (x:Int)=>[V.d (.int .i64 x)]) row31))]) M,Γ.n0+113⟩) h (fun z h=>?_) (fun z h=>?_)
               ·refine sr ((md rfl (Rn.bin tv rfl rfl rfl (Rn.nil (toN ?_)))))
                refine Tr.cond rfl (fun hb62=>?_) (fun hb62=>?_)
                ·replace h:=bT hb62 h
                 refine sr ((md rfl (nt ((sr ((md rfl (md rfl (Rn.bin tv rfl rfl rfl (Rn.nil (toN ?_)))))))))))
                 refine Tr.cond rfl (fun hb63=>?_) (fun hb63=>?_)
                 ·replace h:=bT hb63 h
                  refine Tr.rgn (md rfl (Rn.nil ?_))
                  replace h:=si h; subst h
                  exact Qg [] ⟨(sm rfl),(sm rfl),(kFun hM ho11),(kPtr rfl),(kPtr rfl),(sm rfl),(sm rfl),(sm rfl),(sm rfl),(sm rfl),(kSl rfl),(sm rfl),(sm rfl),tv⟩ ⟨bS rfl rfl rfl,⟨_,rfl,rfl,(.cons (kSl rfl) (cS rfl (cS rfl (cS rfl .nil))))⟩,bM rfl rfl fun _=>rfl,tv⟩ rfl
                 ·replace h:=bF hb63 h
                  refine Tr.skip ?_
                  replace h:=si h; subst h
                  exact Qg [] ⟨(sm rfl),(sm rfl),(kFun hM ho11),(kPtr rfl),(kPtr rfl),(sm rfl),(sm rfl),(sm rfl),(sm rfl),(sm rfl),(kSl rfl),(sm rfl),(sm rfl),tv⟩ ⟨bS rfl rfl rfl,⟨_,rfl,rfl,(.cons (kSl rfl) (cS rfl (cS rfl (cS rfl .nil))))⟩,bM rfl rfl fun _=>rfl,tv⟩ rfl
                ·replace h:=bF hb62 h
                 refine Tr.skip ?_
                 replace h:=si h; subst h
                 exact Qg [] ⟨(sm rfl),(sm rfl),(kFun hM ho11),(kPtr rfl),(kPtr rfl),(sm rfl),(sm rfl),(sm rfl),(sm rfl),(sm rfl),(kSl rfl),(sm rfl),(sm rfl),tv⟩ ⟨bS rfl rfl rfl,⟨_,rfl,rfl,(.cons (kSl rfl) (cS rfl (cS rfl (cS rfl .nil))))⟩,bM rfl rfl fun _=>rfl,tv⟩ rfl
               ·obtain ⟨next64,rfl⟩ : ∃ x,x=z:=⟨_,rfl⟩
                refine sr ((md rfl (Rn.bin tv rfl rfl rfl (Rn.nil (toN ?_)))))
                refine Tr.cond rfl (fun hb65=>?_) (fun hb65=>?_)
                ·replace h:=bT hb65 h
                 refine Tr.rgn (Rn.fldP (o':=3) tv rfl rfl (Rn.loadT (cs':=[.sl 1 (Γ.n0+60) 0 3 3,(i_ a41),(o_ a51),(Qe a53)]) tv rfl rfl rfl rfl (md rfl (md rfl (md rfl (Rn.build (v:=.agg [(i_ x37),(i_ x58),(i_ next64)]) tv rfl (Rn.bslice (xs:=[.agg [(i_ x37),(i_ x58),(i_ next64)]]) (cs:=[(i_ x37),(i_ x58),(i_ next64)]) tv rfl rfl rfl rfl ?_)))))))
                 obtain ⟨x66,h67,h⟩:=bnd h
                 refine Rn.app (e:=Qv) tv rfl rfl rfl (Qcl rfl rfl rfl) h67 rfl (Rn.fldP (o':=3) tv rfl rfl (Rn.storeO (cs':=[.sl 1 (Γ.n0+60) 0 3 3,(i_ a41),(o_ a51),(Qk x66)]) tv rfl rfl rfl rfl rfl (Rn.nil ?_)))
                 replace h:=si h; subst h
                 exact Qg [107] ⟨(sm rfl),(sm rfl),(kFun hM ho11),(kPtr rfl),(kPtr rfl),(sm rfl),(sm rfl),(sm rfl),(kSl rfl),(sm rfl),(sm rfl),tv⟩ ⟨bS rfl rfl rfl,⟨_,rfl,rfl,(.cons (kSl rfl) (cS rfl (cS rfl (cS rfl .nil))))⟩,bM rfl rfl fun _=>rfl,tv⟩ rfl
                ·replace h:=bF hb65 h
                 refine Tr.skip ?_
                 replace h:=si h; subst h
                 exact Qg [] ⟨(sm rfl),(sm rfl),(kFun hM ho11),(kPtr rfl),(kPtr rfl),(sm rfl),(sm rfl),(sm rfl),(kSl rfl),(sm rfl),(sm rfl),tv⟩ ⟨bS rfl rfl rfl,⟨_,rfl,rfl,(.cons (kSl rfl) (cS rfl (cS rfl (cS rfl .nil))))⟩,bM rfl rfl fun _=>rfl,tv⟩ rfl
              ·obtain ⟨a68,rfl⟩ : ∃ x,x=z:=⟨_,rfl⟩
               refine Tr.rgn (Rn.bin tv rfl rfl rfl (md rfl (Rn.nil ?_)))
               exact ⟨_,h,(by exact Qj ⟨(sm rfl),(sm rfl),(kFun hM ho11),(kPtr rfl),(kPtr rfl),(sm rfl),(sm rfl),(sm rfl),(kSl rfl),(sm rfl),(sm rfl),tv⟩ ⟨bS rfl rfl rfl,⟨_,rfl,rfl,(.cons (kSl rfl) (cS rfl (cS rfl (cS rfl .nil))))⟩,bM rfl rfl fun _=>rfl,tv⟩ rfl)⟩
             ·replace h:=ifF hb55 h
              refine Tr.exit ?_
              replace h:=si h; subst h
              exact Qg [] ⟨(sm rfl),(sm rfl),(kFun hM ho11),(kPtr rfl),(kPtr rfl),(sm rfl),(sm rfl),tv⟩ ⟨bS rfl rfl rfl,⟨_,rfl,rfl,(.cons (kSl rfl) (cS rfl (cS rfl (cS rfl .nil))))⟩,bM rfl rfl fun _=>rfl,tv⟩ rfl
          ·obtain ⟨a69,a70⟩:=z
           refine Tr.rgn (Rn.bin tv rfl rfl rfl (md rfl (Rn.nil ?_)))
           exact ⟨_,h,(by exact Qj ⟨(sm rfl),(sm rfl),(kFun hM ho11),(kPtr rfl),(kPtr rfl),(sm rfl),(sm rfl),tv⟩ ⟨bS rfl rfl rfl,⟨_,rfl,rfl,(.cons (kSl rfl) (cS rfl (cS rfl (cS rfl .nil))))⟩,bM rfl rfl fun _=>rfl,tv⟩ rfl)⟩
         ·replace h:=ifF hb45 h
          refine Tr.exit ?_
          replace h:=si h; subst h
          exact Qg [] ⟨(kPtr rfl),(kPtr rfl),tv⟩ ⟨bS rfl rfl rfl,⟨_,rfl,rfl,(.cons (kSl rfl) (cS rfl (cS rfl (cS rfl .nil))))⟩,bM rfl rfl fun _=>rfl,tv⟩ rfl
       ·obtain ⟨c71,c72,c73,a74,a75,a76⟩:=z
        refine sr ((lB (v:=.agg [.sl 1 (Γ.n0+60) 0 3 3,(i_ a74),(l_ a75),(Qe a76)]) rfl rfl rfl rfl (Rn.storeT (v:=.agg [.sl 1 (Γ.n0+60) 0 3 3,(i_ a74),(l_ a75),(Qe a76)]) (ds:=[.sl 1 (Γ.n0+60) 0 3 3,(i_ a74),(l_ a75),(Qe a76)]) (cs':=[.sl 1 (Γ.n0+60) 0 3 3,(i_ a74),(l_ a75),(Qe a76)]) tv rfl rfl rfl rfl rfl rfl rfl (md rfl (Rn.nil (toN ?_))))))
        obtain ⟨⟨⟩,hl77,h⟩:=bnd h
        refine Tr.weak (by show WeakSt Γ _ ⟨look [(12,.ptr (Γ.n0+12) 0),(13,(i_ 0)),(14,.ptr (Γ.n0+14) 0),(112,.agg [(l_ row31),(i_ a74),(l_ a75),(Qe a76)])],Qm Γ.n0 (bxs [(12,.cells ([(l_ row31),(i_ a74),(l_ a75),(Qe a76)])),(14,.cells ([(l_ row31),(i_ a74),(o_ a75),(Qk a76)]))]) M,Γ.n0+113⟩; exact Qeb 60 _ rfl (Q6v (fun _=>rfl) _) ⟨(fPtr rfl),(.same rfl),(fPtr rfl),(WkV.agg (.cons (fSlA (fun _=>rfl) (Qex hl77)) (.cons (.same rfl) (.cons (.same rfl) (.cons (.same rfl) .nil))))),tv⟩ ⟨⟨_,rfl,rfl,(.cons (fSlA (fun _=>rfl) (Qex hl77)) (.cons (.same rfl) (.cons (.same rfl) (.cons (.same rfl) .nil))))⟩,⟨_,rfl,rfl,(.cons (fSlA (fun _=>rfl) (Qex hl77)) (.cons (.same rfl) (.cons (.same rfl) (.cons (.same rfl) .nil))))⟩,tv⟩ rfl) ?_
        refine Tr.ret ?_
        replace h:=si h; subst h
        exact ⟨.inr rfl,.tup [.agg [(l_ row31),(i_ a74),(l_ a75),(Qe a76)],(i_ 0)],res2 (Qfh rfl rfl rfl rfl) rfl,(WkV.tup (.cons (.same rfl) (.cons (.same rfl) .nil))).rd,⟨⟨tv,tv,tv,tv,tv⟩,tv,tv⟩,mB⟩
theorem Qs2 {P:Program} {c:Nat} {Qcy:Int→Int→Int→Int→Bool→(Int→Int→Option Int)→Option (Qa×Int)} {Qb1:Int→Int→Int→Int→Int→Option Int}
    (H_timedsynthesis_clock:Qiw P 41 Qcy)
    (H_timedsynthesis_Deadline_1:Qfw P 42 Qb1) (hcf:Qq P c=some Qgn):Qgm P c (Qcc Qcy Qb1):=by
 intro xfrom1 to2 ticks3 tick4 r h
 refine Qc6 hcf rfl fun Γ M hP hnt hM=>?_
 subst hP
 refine Tr.init [(0,(i_ xfrom1)),(1,(i_ to2)),(2,(i_ ticks3)),(3,(i_ tick4))] rfl ?_
 unfold Qcc at h
 unfold Qgn
 refine sr ((Rn.box (v:=(i_ xfrom1)) (cs:=[(i_ xfrom1)]) tv rfl rfl rfl rfl rfl (Rn.box (v:=(i_ to2)) (cs:=[(i_ to2)]) tv rfl rfl rfl rfl rfl (Rn.box (v:=(i_ ticks3)) (cs:=[(i_ ticks3)]) tv rfl rfl rfl rfl rfl (Rn.alloc tv rfl (md rfl (nt ((sr ((lB (v:=(i_ xfrom1)) rfl rfl rfl rfl (lB (v:=(i_ to2)) rfl rfl rfl rfl (lB (v:=(i_ ticks3)) rfl rfl rfl rfl (md rfl (Rn.k (v:=.clo 42 [.ptr (Γ.n0+4) 0,.ptr (Γ.n0+5) 0,.ptr (Γ.n0+6) 0]) tv rfl rfl rfl ?_)))))))))))))))
 obtain ⟨⟨r10,r11⟩,h9,h⟩:=bnd h
 refine Rn.callM (args:=[(i_ xfrom1),(i_ to2),(i_ ticks3),(i_ tick4),(b_ false),.clo 42 [.ptr (Γ.n0+4) 0,.ptr (Γ.n0+5) 0,.ptr (Γ.n0+6) 0]]) tv rfl (fun M2 nb2 hn hx=>H_timedsynthesis_clock _ _ _ _ _ _ 42 [.ptr (Γ.n0+4) 0,.ptr (Γ.n0+5) 0,.ptr (Γ.n0+6) 0] _ h9 M2 nb2 rfl ⟨Q04 (hx _ _ (Q6 rfl)),Q04 (hx _ _ (Q6 rfl)),Q04 (hx _ _ (Q6 rfl)),tv⟩ (fun a5 a6 r7 h8 M3 nb3 hn3 hx3=>H_timedsynthesis_Deadline_1 a5 a6 xfrom1 to2 ticks3 (Γ.n0+4) (Γ.n0+5) (Γ.n0+6) r7 h8 M3 nb3 ((hx.trans hx3) _ _ (Q6 rfl)) ((hx.trans hx3) _ _ (Q6 rfl)) ((hx.trans hx3) _ _ (Q6 rfl)))) rfl pc9 ?_
 refine Rn.ext (v:=(Qb r10)) (vs:=[(Qb r10),(i_ r11)]) tv rfl rfl rfl (Rn.ext (v:=(i_ r11)) (vs:=[(Qb r10),(i_ r11)]) tv rfl rfl rfl (Rn.storeT (v:=(Qb r10)) (ds:=(Qd r10)) (cs':=(Qd r10)) tv rfl rfl rfl rfl rfl rfl rfl (md rfl (nt ((Tr.ret ?_))))))
 replace h:=si h; subst h
 exact ⟨.inr rfl,.tup [(Qb r10),(i_ r11)],res2 (Qfh rfl rfl rfl rfl) rfl,(WkV.tup (.cons (.same rfl) (.cons (.same rfl) .nil))).rd,⟨⟨tv,tv,tv,tv,tv⟩,tv,tv⟩,mB⟩
theorem Q52 {P:Program} {c:Nat} (hcf:Qq P c=some Qmy) (fuel:Nat):Qjh P c (Qbm fuel):=by
 intro s1 s2 r h
 refine Qc6 hcf rfl fun Γ M hP hnt hM=>?_
 subst hP
 refine Tr.init [(0,(l_ s1)),(1,(l_ s2))] rfl ?_
 unfold Qbm at h
 unfold Qmy
 refine sr ((md rfl (nt ((Tr.seq (sr ((md rfl (Rn.lenD tv rfl (md rfl (Rn.lenD tv rfl (Rn.bin tv rfl rfl rfl (Rn.nil (toN ?_))))))))))))))
 refine Tr.cond rfl (fun hb3=>?_) (fun hb3=>?_)
 ·replace h:=bT hb3 h
  refine sr ((md rfl (nt ((Tr.ret ?_)))))
  replace h:=si h; subst h
  exact ⟨.inr rfl,(b_ false),rfl,fun _ _ _ _ h=>h,tv,mB⟩
 ·replace h:=bF hb3 h
  refine Tr.skip (toN (Tr.seq (sr ((md rfl (Rn.lenD tv rfl (md rfl (nt ((Tr.block ?_))))))))))
  refine Tr.loop (mk:=fun (x4:Int)=>⟨look [(0,(l_ s1)),(1,(l_ s2)),(12,(i_ (s1.length:Int))),(13,(i_ x4))],Qm Γ.n0 (bxs []) M,Γ.n0+26⟩) h (by exact Qj ⟨(sm rfl),(sm rfl),(sm rfl),(sm rfl),tv⟩ tv rfl) (fun k5 z h=>?_)
  ·obtain ⟨x4,rfl⟩ : ∃ x,x=z:=⟨_,rfl⟩
   replace h:_=some _:=h
   refine sr ((Rn.bin tv rfl rfl rfl (nt ((Tr.seq ?_)))))
   refine Tr.cond rfl (fun hb6=>?_) (fun hb6=>?_)
   ·replace h:=ifT hb6 h
    refine Tr.skip (toN (Tr.seq (Tr.block (sr ((md rfl (md rfl (nt ((Tr.seq ?_))))))))))
    refine Tr.rgnD (by decide) ?_
    refine md rfl (md rfl ?_)
    obtain ⟨x7,h8,h⟩:=bnd h
    refine Rn.idxD (e:=(eI .i64)) tv rfl rfl h8 (Rn.loadC (x:=.int .i64 x7) tv rfl (md rfl (md rfl ?_)))
    obtain ⟨x9,h10,h⟩:=bnd h
    refine Rn.idxD (e:=(eI .i64)) tv rfl rfl h10 (Rn.loadC (x:=.int .i64 x9) tv rfl (Rn.bin tv rfl rfl rfl ?_))
    refine Rn.nil ⟨rfl,?_⟩
    refine toN ?_
    refine Tr.cond rfl (fun hb11=>?_) (fun hb11=>?_)
    ·replace h:=bT hb11 h
     refine sr ((md rfl (nt ((Tr.ret ?_)))))
     replace h:=si h; subst h
     exact ⟨.inr rfl,(b_ false),rfl,fun _ _ _ _ h=>h,tv,mB⟩
    ·replace h:=bF hb11 h
     refine Tr.skip (toN (Tr.rgn (Rn.bin tv rfl rfl rfl (md rfl (Rn.nil ?_)))))
     exact ⟨_,h,(by exact Qj ⟨(sm rfl),(sm rfl),(sm rfl),(sm rfl),tv⟩ tv rfl)⟩
   ·replace h:=ifF hb6 h
    refine Tr.exit (toN (sr ((md rfl (nt ((Tr.ret ?_)))))))
    replace h:=si h; subst h
    exact ⟨.inr rfl,(b_ true),rfl,fun _ _ _ _ h=>h,tv,mB⟩
theorem Qbfn {P:Program} {c:Nat} {Qbm:(List Int)→(List Int)→Option Bool}
    (H_slices_Equal_int:Qjh P 36 Qbm) (hcf:Qq P c=some Q5a):Qvu P c (Qdv Qbm):=by
 intro a1 b2 r h
 refine Qc6 hcf rfl fun Γ M hP hnt hM=>?_
 subst hP
 refine Tr.init [(0,(l_ a1)),(1,(l_ b2))] rfl ?_
 unfold Qdv at h
 unfold Q5a
 refine sr ((md rfl (nt ((sr ((md rfl (md rfl ?_))))))))
 obtain ⟨x4,h3,h⟩:=bnd h
 refine Rn.call (args:=[(l_ a1),(l_ b2)]) tv rfl (H_slices_Equal_int _ _ _ h3) pc9 (md rfl (nt ((Tr.ret ?_))))
 replace h:=si h; subst h
 exact ⟨.inr rfl,(b_ x4),rfl,fun _ _ _ _ h=>h,tv,mB⟩
end Go.Abs
