/-
  Part 4 of the proof: see the last text.
-/
import Derived.Test.YthlopjpofmcdmaaP3
set_option linter.unusedVariables false
set_option linter.unusedSimpArgs false
set_option linter.unusedSectionVars false
namespace Go.Abs
open Go
set_option maxRecDepth 10000
set_option maxHeartbeats 4000000
theorem Qxq {P:Program} {c:Nat} (hcf:Q1 P c = some Qib):Qia P c (Qcj):=by
 intro forcible1 r h
 refine Qf3 hcf rfl fun Γ M hP hnt hM=>?_
 subst hP
 refine Tr.init [(0,(l_ forcible1))] rfl ?_
 unfold Qcj at h
 unfold Qib
 refine sr ((Rn.alloc tv rfl (nt ((sr ((Rn.bslice (xs:=[(i_ 0),(i_ 2)]) (cs:=[(i_ 0),(i_ 2)]) tv rfl rfl rfl rfl (Rn.bslice (xs:=[(i_ 0)]) (cs:=[(i_ 0)]) tv rfl rfl rfl rfl (Rn.build (v:=.agg [(i_ 0),(i_ 0),(i_ 0)]) tv rfl (Rn.build (v:=.agg [(i_ 0),(i_ 2),(i_ 1)]) tv rfl (Rn.bslice (xs:=[.agg [(i_ 0),(i_ 0),(i_ 0)],.agg [(i_ 0),(i_ 2),(i_ 1)]]) (cs:=[(i_ 0),(i_ 0),(i_ 0),(i_ 0),(i_ 2),(i_ 1)]) tv rfl rfl rfl rfl (Rn.buildT (v:=.agg [.sl 1 (Γ.n0 + 3) 0 2 2,(i_ 2),.sl 1 (Γ.n0 + 4) 0 1 1,.sl 3 (Γ.n0 + 7) 0 2 2]) tv rfl (Rn.bslice (xs:=[(i_ 1)]) (cs:=[(i_ 1)]) tv rfl rfl rfl rfl (md rfl (Rn.buildT (v:=.agg [.sl 1 (Γ.n0 + 3) 0 2 2,(i_ 2),.sl 1 (Γ.n0 + 4) 0 1 1,.sl 3 (Γ.n0 + 7) 0 2 2,.sl 1 (Γ.n0 + 9) 0 1 1,.nils 1,(l_ forcible1),(i_ 2)]) tv rfl (Rn.storeT (v:=.agg [.sl 1 (Γ.n0 + 3) 0 2 2,(i_ 2),.sl 1 (Γ.n0 + 4) 0 1 1,.sl 3 (Γ.n0 + 7) 0 2 2,.sl 1 (Γ.n0 + 9) 0 1 1,.nils 1,(l_ forcible1),(i_ 2)]) (ds:=[.sl 1 (Γ.n0 + 3) 0 2 2,(i_ 2),.sl 1 (Γ.n0 + 4) 0 1 1,.sl 3 (Γ.n0 + 7) 0 2 2,.sl 1 (Γ.n0 + 9) 0 1 1,.nils 1,(l_ forcible1),(i_ 2)]) (cs':=[.sl 1 (Γ.n0 + 3) 0 2 2,(i_ 2),.sl 1 (Γ.n0 + 4) 0 1 1,.sl 3 (Γ.n0 + 7) 0 2 2,.sl 1 (Γ.n0 + 9) 0 1 1,.nils 1,(l_ forcible1),(i_ 2)]) tv rfl rfl rfl rfl rfl rfl rfl (Rn.nil (toN ?_))))))))))))))))))
 refine Tr.weak (by show WeakSt Γ _ ⟨look [(0,(l_ forcible1)),(2,.ptr (Γ.n0 + 2) 0),(3,(l_ [0,2])),(4,.sl 1 (Γ.n0 + 4) 0 1 1),(5,.agg [(i_ 0),(i_ 0),(i_ 0)]),(6,.agg [(i_ 0),(i_ 2),(i_ 1)]),(7,.sl 3 (Γ.n0 + 7) 0 2 2),(8,.agg [(l_ [0,2]),(i_ 2),.sl 1 (Γ.n0 + 4) 0 1 1,.sl 3 (Γ.n0 + 7) 0 2 2]),(9,.sl 1 (Γ.n0 + 9) 0 1 1),(10,(l_ forcible1)),(11,.agg [(l_ [0,2]),(i_ 2),.sl 1 (Γ.n0 + 4) 0 1 1,.sl 3 (Γ.n0 + 7) 0 2 2,.sl 1 (Γ.n0 + 9) 0 1 1,.nils 1,(l_ forcible1),(i_ 2)])],Qr Γ.n0 (bxs [(2,.cells ([(l_ [0,2]),(i_ 2),.sl 1 (Γ.n0 + 4) 0 1 1,.sl 3 (Γ.n0 + 7) 0 2 2,.sl 1 (Γ.n0 + 9) 0 1 1,.nils 1,(l_ forcible1),(i_ 2)])),(4,.cells ([(i_ 0)])),(7,.cells ([(i_ 0),(i_ 0),(i_ 0),(i_ 0),(i_ 2),(i_ 1)])),(9,.cells ([(i_ 1)]))]) M,Γ.n0 + 12⟩; exact Qha 3 [.int .i64 0,.int .i64 2] rfl rfl ⟨(.same rfl),(fPtr rfl),(fSl rfl rfl),(fSlO rfl),(.same rfl),(.same rfl),(fSlO rfl),(WkV.agg (.cons (fSl rfl rfl) (.cons (.same rfl) (.cons (fSlO rfl) (.cons (fSlO rfl) .nil))))),(fSlO rfl),(.same rfl),(WkV.agg (.cons (fSl rfl rfl) (.cons (.same rfl) (.cons (fSlO rfl) (.cons (fSlO rfl) (.cons (fSlO rfl) (.cons (.same rfl) (.cons (.same rfl) (.cons (.same rfl) .nil))))))))),tv⟩ ⟨⟨_,rfl,rfl,(.cons (fSl rfl rfl) (.cons (.same rfl) (.cons (fSlO rfl) (.cons (fSlO rfl) (.cons (fSlO rfl) (.cons (.same rfl) (.cons (.same rfl) (.cons (.same rfl) .nil))))))))⟩,⟨_,rfl,rfl,(.same rfl)⟩,⟨_,rfl,rfl,(.same rfl)⟩,⟨_,rfl,rfl,(.same rfl)⟩,tv⟩ rfl) ?_
 refine Tr.weak (by show WeakSt Γ _ ⟨look [(0,(l_ forcible1)),(2,.ptr (Γ.n0 + 2) 0),(3,(l_ [0,2])),(4,(l_ [0])),(5,.agg [(i_ 0),(i_ 0),(i_ 0)]),(6,.agg [(i_ 0),(i_ 2),(i_ 1)]),(7,.sl 3 (Γ.n0 + 7) 0 2 2),(8,.agg [(l_ [0,2]),(i_ 2),(l_ [0]),.sl 3 (Γ.n0 + 7) 0 2 2]),(9,.sl 1 (Γ.n0 + 9) 0 1 1),(10,(l_ forcible1)),(11,.agg [(l_ [0,2]),(i_ 2),(l_ [0]),.sl 3 (Γ.n0 + 7) 0 2 2,.sl 1 (Γ.n0 + 9) 0 1 1,.nils 1,(l_ forcible1),(i_ 2)])],Qr Γ.n0 (bxs [(2,.cells ([(l_ [0,2]),(i_ 2),(l_ [0]),.sl 3 (Γ.n0 + 7) 0 2 2,.sl 1 (Γ.n0 + 9) 0 1 1,.nils 1,(l_ forcible1),(i_ 2)])),(7,.cells ([(i_ 0),(i_ 0),(i_ 0),(i_ 0),(i_ 2),(i_ 1)])),(9,.cells ([(i_ 1)]))]) M,Γ.n0 + 12⟩; exact Qha 4 [.int .i64 0] rfl rfl ⟨(.same rfl),(fPtr rfl),(.same rfl),(fSl rfl rfl),(.same rfl),(.same rfl),(fSlO rfl),(WkV.agg (.cons (.same rfl) (.cons (.same rfl) (.cons (fSl rfl rfl) (.cons (fSlO rfl) .nil))))),(fSlO rfl),(.same rfl),(WkV.agg (.cons (.same rfl) (.cons (.same rfl) (.cons (fSl rfl rfl) (.cons (fSlO rfl) (.cons (fSlO rfl) (.cons (.same rfl) (.cons (.same rfl) (.cons (.same rfl) .nil))))))))),tv⟩ ⟨⟨_,rfl,rfl,(.cons (.same rfl) (.cons (.same rfl) (.cons (fSl rfl rfl) (.cons (fSlO rfl) (.cons (fSlO rfl) (.cons (.same rfl) (.cons (.same rfl) (.cons (.same rfl) .nil))))))))⟩,⟨_,rfl,rfl,(.same rfl)⟩,⟨_,rfl,rfl,(.same rfl)⟩,tv⟩ rfl) ?_
 refine Tr.weak (by show WeakSt Γ _ ⟨look [(0,(l_ forcible1)),(2,.ptr (Γ.n0 + 2) 0),(3,(l_ [0,2])),(4,(l_ [0])),(5,.agg [(i_ 0),(i_ 0),(i_ 0)]),(6,.agg [(i_ 0),(i_ 2),(i_ 1)]),(7,.d (.lst 3 (List.map Qb [(Qe.mk 0 0 0),(Qe.mk 0 2 1)]))),(8,.agg [(l_ [0,2]),(i_ 2),(l_ [0]),.d (.lst 3 (List.map Qb [(Qe.mk 0 0 0),(Qe.mk 0 2 1)]))]),(9,.sl 1 (Γ.n0 + 9) 0 1 1),(10,(l_ forcible1)),(11,.agg [(l_ [0,2]),(i_ 2),(l_ [0]),.d (.lst 3 (List.map Qb [(Qe.mk 0 0 0),(Qe.mk 0 2 1)])),.sl 1 (Γ.n0 + 9) 0 1 1,.nils 1,(l_ forcible1),(i_ 2)])],Qr Γ.n0 (bxs [(2,.cells ([(l_ [0,2]),(i_ 2),(l_ [0]),.d (.lst 3 (List.map Qb [(Qe.mk 0 0 0),(Qe.mk 0 2 1)])),.sl 1 (Γ.n0 + 9) 0 1 1,.nils 1,(l_ forcible1),(i_ 2)])),(9,.cells ([(i_ 1)]))]) M,Γ.n0 + 12⟩; exact Qha 7 [.int .i64 0,.int .i64 0,.int .i64 0,.int .i64 0,.int .i64 2,.int .i64 1] rfl rfl ⟨(.same rfl),(fPtr rfl),(.same rfl),(.same rfl),(.same rfl),(.same rfl),(fSl rfl rfl),(WkV.agg (.cons (.same rfl) (.cons (.same rfl) (.cons (.same rfl) (.cons (fSl rfl rfl) .nil))))),(fSlO rfl),(.same rfl),(WkV.agg (.cons (.same rfl) (.cons (.same rfl) (.cons (.same rfl) (.cons (fSl rfl rfl) (.cons (fSlO rfl) (.cons (.same rfl) (.cons (.same rfl) (.cons (.same rfl) .nil))))))))),tv⟩ ⟨⟨_,rfl,rfl,(.cons (.same rfl) (.cons (.same rfl) (.cons (.same rfl) (.cons (fSl rfl rfl) (.cons (fSlO rfl) (.cons (.same rfl) (.cons (.same rfl) (.cons (.same rfl) .nil))))))))⟩,⟨_,rfl,rfl,(.same rfl)⟩,tv⟩ rfl) ?_
 refine Tr.weak (by show WeakSt Γ _ ⟨look [(0,(l_ forcible1)),(2,.ptr (Γ.n0 + 2) 0),(3,(l_ [0,2])),(4,(l_ [0])),(5,.agg [(i_ 0),(i_ 0),(i_ 0)]),(6,.agg [(i_ 0),(i_ 2),(i_ 1)]),(7,.d (.lst 3 (List.map Qb [(Qe.mk 0 0 0),(Qe.mk 0 2 1)]))),(8,.agg [(l_ [0,2]),(i_ 2),(l_ [0]),.d (.lst 3 (List.map Qb [(Qe.mk 0 0 0),(Qe.mk 0 2 1)]))]),(9,(l_ [1])),(10,(l_ forcible1)),(11,.agg [(l_ [0,2]),(i_ 2),(l_ [0]),.d (.lst 3 (List.map Qb [(Qe.mk 0 0 0),(Qe.mk 0 2 1)])),(l_ [1]),.nils 1,(l_ forcible1),(i_ 2)])],Qr Γ.n0 (bxs [(2,.cells ([(l_ [0,2]),(i_ 2),(l_ [0]),.d (.lst 3 (List.map Qb [(Qe.mk 0 0 0),(Qe.mk 0 2 1)])),(l_ [1]),.nils 1,(l_ forcible1),(i_ 2)]))]) M,Γ.n0 + 12⟩; exact Qha 9 [.int .i64 1] rfl rfl ⟨(.same rfl),(fPtr rfl),(.same rfl),(.same rfl),(.same rfl),(.same rfl),(.same rfl),(.same rfl),(fSl rfl rfl),(.same rfl),(WkV.agg (.cons (.same rfl) (.cons (.same rfl) (.cons (.same rfl) (.cons (.same rfl) (.cons (fSl rfl rfl) (.cons (.same rfl) (.cons (.same rfl) (.cons (.same rfl) .nil))))))))),tv⟩ ⟨⟨_,rfl,rfl,(.cons (.same rfl) (.cons (.same rfl) (.cons (.same rfl) (.cons (.same rfl) (.cons (fSl rfl rfl) (.cons (.same rfl) (.cons (.same rfl) (.cons (.same rfl) .nil))))))))⟩,tv⟩ rfl) ?_
 refine Tr.ret ?_
 replace h:=si h; subst h
 exact ⟨.inr rfl,(.agg [(l_ [0,2]),(i_ 2),(l_ [0]),.d (.lst 3 (List.map Qb [(Qe.mk 0 0 0),(Qe.mk 0 2 1)])),(l_ [1]),.nils 1,(l_ forcible1),(i_ 2)]),Qyc rfl rfl rfl rfl,fun _ _ _ _ h=>h,⟨tv,tv,tv,tv,tv,tv,tv,tv,tv⟩,fun k hk=>Qf hk⟩
theorem Qy7 {P:Program} {c:Nat} (hcf:Q1 P c = some Qja) (fuel:Nat):Qi9 P c (Qcf fuel):=by
 intro l1 n2 r h
 refine Qf3 hcf rfl fun Γ M hP hnt hM=>?_
 subst hP
 refine Tr.init [(0,(l_ l1)),(1,(i_ n2))] rfl ?_
 unfold Qcf at h
 unfold Qja
 refine sr ((md rfl (nt ((Tr.seq (sr ((md rfl (Rn.lenD tv rfl (md rfl (nt ((Tr.block ?_)))))))))))))
 refine Tr.loop (mk:=fun (x3:Int)=>⟨look [(0,(l_ l1)),(1,(i_ n2)),(7,(l_ l1)),(8,(i_ (l1.length:Int))),(9,(i_ x3))],Qr Γ.n0 (bxs []) M,Γ.n0 + 35⟩) h (by exact Qx ⟨(sm rfl),(sm rfl),(sm rfl),(sm rfl),(sm rfl),tv⟩ tv rfl) (fun k4 z h=>?_)
 ·obtain ⟨x3,rfl⟩ : ∃ x,x = z:=⟨_,rfl⟩
  replace h:_ = some _:=h
  refine sr ((Rn.bin tv rfl rfl rfl (nt ((Tr.seq ?_)))))
  refine Tr.cond rfl (fun hb5=>?_) (fun hb5=>?_)
  ·replace h:=ifT hb5 h
   refine Tr.skip (toN (Tr.seq (Tr.block (sr ((md rfl ?_))))))
   obtain ⟨x6,h7,h⟩:=bnd h
   refine Rn.idxD (e:=(eI .i64)) tv rfl rfl h7 (Rn.loadC (x:=.int .i64 x6) tv rfl (md rfl (md rfl (nt ((Tr.block ?_))))))
   refine Tr.cutB (fun (x9:Bool)=>⟨look [(0,(l_ l1)),(1,(i_ n2)),(5,(i_ x3)),(6,(i_ x6)),(7,(l_ l1)),(8,(i_ (l1.length:Int))),(9,(i_ x3)),(14,(b_ x9))],Qr Γ.n0 (bxs []) M,Γ.n0 + 35⟩) h (fun z h=>?_) (fun z h=>?_)
   ·refine Tr.rgn (md rfl (Rn.bin tv rfl rfl rfl (md rfl ?_)))
    refine Q8 (decide (x6 < 0)) (fun hb8=>?_) (fun hb8=>?_)
    ·replace h:=ifT hb8 h
     refine Rn.sk (nw rfl hb8) (Rn.sk (nw rfl hb8) (Rn.sk (nw rfl hb8) (Rn.pickT (v:=(b_ true)) tv rfl hb8 rfl (md rfl (Rn.nil ?_)))))
     replace h:=si h; subst h
     exact Qn [] ⟨(sm rfl),(sm rfl),(sm rfl),(sm rfl),(sm rfl),(sm rfl),(sm rfl),(sm rfl),tv⟩ tv rfl
    ·replace h:=ifF hb8 h
     refine Rn.movD (gw rfl hb8) rfl (Rn.movD (gw rfl hb8) rfl (Rn.bin (gw rfl hb8) rfl rfl rfl (Rn.pickF (v:=(b_ (decide (x6≥n2)))) tv rfl hb8 rfl (md rfl (Rn.nil ?_)))))
     replace h:=si h; subst h
     exact Qn [] ⟨(sm rfl),(sm rfl),(sm rfl),(sm rfl),(sm rfl),(sm rfl),(sm rfl),(sm rfl),tv⟩ tv rfl
   ·obtain ⟨x9,rfl⟩ : ∃ x,x = z:=⟨_,rfl⟩
    refine Tr.cond rfl (fun hb10=>?_) (fun hb10=>?_)
    ·replace h:=bT hb10 h
     refine sr ((md rfl (nt ((Tr.ret ?_)))))
     replace h:=si h; subst h
     exact ⟨.inr rfl,(i_ 2),rfl,fun _ _ _ _ h=>h,tv,fun k hk=>Qf hk⟩
    ·replace h:=bF hb10 h
     refine Tr.cutB (fun (x14:Bool)=>⟨look [(0,(l_ l1)),(1,(i_ n2)),(7,(l_ l1)),(8,(i_ (l1.length:Int))),(9,(i_ x3)),(22,(b_ x14))],Qr Γ.n0 (bxs []) M,Γ.n0 + 35⟩) h (fun z h=>?_) (fun z h=>?_)
     ·refine Tr.rgn (md rfl (Rn.bin tv rfl rfl rfl (md rfl ?_)))
      refine Q8 (decide (x3 > 0)) (fun hb11=>?_) (fun hb11=>?_)
      ·replace h:=ifT hb11 h
       refine Rn.movD (gw rfl hb11) rfl (Rn.movD (gw rfl hb11) rfl (Rn.movD (gw rfl hb11) rfl (Rn.bin (gw rfl hb11) rfl rfl rfl ?_)))
       obtain ⟨x12,h13,h⟩:=bnd h
       refine Rn.idxD (e:=(eI .i64)) (gw rfl hb11) rfl rfl h13 (Rn.loadC (x:=.int .i64 x12) (gw rfl hb11) rfl (Rn.bin (gw rfl hb11) rfl rfl rfl (Rn.pickT (v:=(b_ (decide (x6≤x12)))) tv rfl hb11 rfl (md rfl (Rn.nil ?_)))))
       replace h:=si h; subst h
       exact Qn [] ⟨(sm rfl),(sm rfl),(sm rfl),(sm rfl),(sm rfl),(sm rfl),tv⟩ tv rfl
      ·replace h:=ifF hb11 h
       refine Rn.sk (nw rfl hb11) (Rn.sk (nw rfl hb11) (Rn.sk (nw rfl hb11) (Rn.sk (nw rfl hb11) (Rn.sk (nw rfl hb11) (Rn.sk (nw rfl hb11) (Rn.sk (nw rfl hb11) (Rn.pickF (v:=(b_ false)) tv rfl hb11 rfl (md rfl (Rn.nil ?_)))))))))
       replace h:=si h; subst h
       exact Qn [] ⟨(sm rfl),(sm rfl),(sm rfl),(sm rfl),(sm rfl),(sm rfl),tv⟩ tv rfl
     ·obtain ⟨x14,rfl⟩ : ∃ x,x = z:=⟨_,rfl⟩
      refine Tr.cond rfl (fun hb15=>?_) (fun hb15=>?_)
      ·replace h:=bT hb15 h
       refine sr ((md rfl (nt ((Tr.ret ?_)))))
       replace h:=si h; subst h
       exact ⟨.inr rfl,(i_ 5),rfl,fun _ _ _ _ h=>h,tv,fun k hk=>Qf hk⟩
      ·replace h:=bF hb15 h
       refine Tr.skip (toN (Tr.rgn (Rn.bin tv rfl rfl rfl (md rfl (Rn.nil ?_)))))
       exact ⟨_,h,(by exact Qx ⟨(sm rfl),(sm rfl),(sm rfl),(sm rfl),(sm rfl),tv⟩ tv rfl)⟩
  ·replace h:=ifF hb5 h
   refine Tr.exit (toN (sr ((md rfl (nt ((Tr.ret ?_)))))))
   replace h:=si h; subst h
   exact ⟨.inr rfl,(i_ 0),rfl,fun _ _ _ _ h=>h,tv,fun k hk=>Qf hk⟩
theorem Q14 {P:Program} {c:Nat} (hcf:Q1 P c = some Qll) (fuel:Nat):Qlk P c (Qda fuel):=by
 intro s1 v2 r h
 refine Qf3 hcf rfl fun Γ M hP hnt hM=>?_
 subst hP
 refine Tr.init [(0,(l_ s1)),(1,(i_ v2))] rfl ?_
 unfold Qda at h
 unfold Qll
 refine sr ((md rfl (nt ((Tr.seq (sr ((md rfl (Rn.lenD tv rfl (md rfl (nt ((Tr.block ?_)))))))))))))
 refine Tr.loop (mk:=fun (x3:Int)=>⟨look [(0,(l_ s1)),(1,(i_ v2)),(7,(i_ (s1.length:Int))),(8,(i_ x3))],Qr Γ.n0 (bxs []) M,Γ.n0 + 19⟩) h (by exact Qx ⟨(sm rfl),(sm rfl),(sm rfl),(sm rfl),tv⟩ tv rfl) (fun k4 z h=>?_)
 ·obtain ⟨x3,rfl⟩ : ∃ x,x = z:=⟨_,rfl⟩
  replace h:_ = some _:=h
  refine sr ((Rn.bin tv rfl rfl rfl (nt ((Tr.seq ?_)))))
  refine Tr.cond rfl (fun hb5=>?_) (fun hb5=>?_)
  ·replace h:=ifT hb5 h
   refine Tr.skip (toN (Tr.seq (Tr.block (sr ((md rfl (md rfl (nt ((sr ((md rfl (md rfl (md rfl ?_))))))))))))))
   obtain ⟨x6,h7,h⟩:=bnd h
   refine Rn.idxD (e:=(eI .i64)) tv rfl rfl h7 (Rn.loadC (x:=.int .i64 x6) tv rfl (Rn.bin tv rfl rfl rfl (Rn.nil (toN ?_))))
   refine Tr.cond rfl (fun hb8=>?_) (fun hb8=>?_)
   ·replace h:=bT hb8 h
    refine sr ((md rfl (md rfl (nt ((Tr.ret ?_))))))
    replace h:=si h; subst h
    exact ⟨.inr rfl,(i_ x3),rfl,fun _ _ _ _ h=>h,tv,fun k hk=>Qf hk⟩
   ·replace h:=bF hb8 h
    refine Tr.skip (toN (Tr.rgn (Rn.bin tv rfl rfl rfl (md rfl (Rn.nil ?_)))))
    exact ⟨_,h,(by exact Qx ⟨(sm rfl),(sm rfl),(sm rfl),(sm rfl),tv⟩ tv rfl)⟩
  ·replace h:=ifF hb5 h
   refine Tr.exit (toN (sr ((md rfl (nt ((Tr.ret ?_)))))))
   replace h:=si h; subst h
   exact ⟨.inr rfl,(i_ (-1)),rfl,fun _ _ _ _ h=>h,tv,fun k hk=>Qf hk⟩
theorem Qxr {P:Program} {c:Nat} {Qda:(List Int)→Int→Option Int}
    (H_slices_Index_int:Qlk P 116 Qda) (hcf:Q1 P c = some Qid):Qic P c (Qck Qda):=by
 intro s1 v2 r h
 refine Qf3 hcf rfl fun Γ M hP hnt hM=>?_
 subst hP
 refine Tr.init [(0,(l_ s1)),(1,(i_ v2))] rfl ?_
 unfold Qck at h
 unfold Qid
 refine sr ((md rfl (nt ((sr ((md rfl (md rfl ?_))))))))
 obtain ⟨x4,h3,h⟩:=bnd h
 refine Rn.call (args:=[(l_ s1),(i_ v2)]) tv rfl (H_slices_Index_int _ _ _ h3) pc9 (Rn.bin tv rfl rfl rfl (md rfl (nt ((Tr.ret ?_)))))
 replace h:=si h; subst h
 exact ⟨.inr rfl,(b_ (decide (x4≥0))),rfl,fun _ _ _ _ h=>h,tv,fun k hk=>Qf hk⟩
theorem Qu9 {P:Program} {c:Nat} {Qck:(List Int)→Int→Option Bool}
    (H_slices_Contains_int:Qic P 98 Qck) (hcf:Q1 P c = some Qhq) (fuel:Nat):Qhp P c (Qcd Qck fuel):=by
 intro a1 r h
 refine Qf3 hcf rfl fun Γ M hP hnt hM=>?_
 subst hP
 refine Tr.init [(0,(Qo a1))] rfl ?_
 unfold Qcd at h
 unfold Qhq
 refine sr ((Rn.box (v:=(Qo a1)) (cs:=(Qbq a1)) tv rfl rfl rfl rfl rfl (md rfl (nt ((Tr.seq (sr ((Rn.fldP (o':=3) tv rfl rfl (Rn.load (v:=.d (.lst 3 (List.map Qb a1.zL))) tv rfl (Qi rfl) rfl rfl (Rn.lenD tv rfl (md rfl (nt ((Tr.block ?_)))))))))))))))
 refine Tr.loop (mk:=fun (x2:Int)=>⟨look [(1,.ptr (Γ.n0 + 1) 0),(7,.d (.lst 3 (List.map Qb a1.zL))),(8,(i_ (a1.zL.length:Int))),(9,(i_ x2))],Qr Γ.n0 (bxs [(1,.cells ((Qbq a1)))]) M,Γ.n0 + 72⟩) h (by exact Qx ⟨(kPtr rfl),(sm rfl),(sm rfl),(sm rfl),tv⟩ ⟨⟨_,rfl,rfl,(.same rfl)⟩,tv⟩ rfl) (fun k3 z h=>?_)
 ·obtain ⟨x2,rfl⟩ : ∃ x,x = z:=⟨_,rfl⟩
  replace h:_ = some _:=h
  refine sr ((Rn.bin tv rfl rfl rfl (nt ((Tr.seq ?_)))))
  refine Tr.cond rfl (fun hb4=>?_) (fun hb4=>?_)
  ·replace h:=ifT hb4 h
   refine Tr.skip (toN ?_)
   refine Tr.cutJ (fun ((c22,c23,c24):Int×Int×Int)=>⟨look [(1,.ptr (Γ.n0 + 1) 0),(7,.d (.lst 3 (List.map Qb a1.zL))),(8,(i_ (a1.zL.length:Int))),(9,(i_ x2))],Qr Γ.n0 (bxs [(1,.cells ((Qbq a1))),(4,.cells ([(i_ c22),(i_ c23),(i_ c24)]))]) M,Γ.n0 + 72⟩) h (fun J25 h=>?_) (fun z h=>?_)
   ·refine Tr.block (sr ((md rfl ?_)))
    obtain ⟨x5,h6,h⟩:=bnd h
    refine Rn.idxD (e:=Qb) tv rfl rfl h6 (Rn.loadCA (vs:=(Qbx x5)) tv rfl rfl rfl (Rn.alloc tv rfl (md rfl (Rn.store (v:=(Qbv x5)) (cs':=(Qbx x5)) tv rfl rfl rfl rfl rfl rfl (nt ((Tr.seq (Tr.block ?_))))))))
    refine Tr.cutB (fun (x10:Bool)=>⟨look [(1,.ptr (Γ.n0 + 1) 0),(3,(i_ x2)),(4,.ptr (Γ.n0 + 4) 0),(7,.d (.lst 3 (List.map Qb a1.zL))),(8,(i_ (a1.zL.length:Int))),(9,(i_ x2)),(14,(b_ x10))],Qr Γ.n0 (bxs [(1,.cells ((Qbq a1))),(4,.cells ((Qbx x5)))]) M,Γ.n0 + 72⟩) h (fun z h=>?_) (fun z h=>?_)
    ·refine Tr.rgn (Rn.fldP (o':=0) tv rfl rfl (Rn.load (v:=(i_ x5.From)) tv rfl (Qi rfl) rfl rfl (Rn.bin tv rfl rfl rfl (md rfl ?_))))
     refine Q8 (decide (x5.From < 0)) (fun hb7=>?_) (fun hb7=>?_)
     ·replace h:=ifT hb7 h
      refine Rn.sk (nw rfl hb7) (Rn.sk (nw rfl hb7) (Rn.sk (nw rfl hb7) (Rn.sk (nw rfl hb7) (Rn.sk (nw rfl hb7) (Rn.pickT (v:=(b_ true)) tv rfl hb7 rfl (md rfl (Rn.sk (nw (b:=true) rfl rfl) (Rn.sk (nw (b:=true) rfl rfl) (Rn.sk (nw (b:=true) rfl rfl) (Rn.pickT (v:=(b_ true)) tv rfl rfl rfl (md rfl (Rn.sk (nw (b:=true) rfl rfl) (Rn.sk (nw (b:=true) rfl rfl) (Rn.sk (nw (b:=true) rfl rfl) (Rn.sk (nw (b:=true) rfl rfl) (Rn.sk (nw (b:=true) rfl rfl) (Rn.pickT (v:=(b_ true)) tv rfl rfl rfl (md rfl (Rn.nil ?_)))))))))))))))))))
      replace h:=si h; subst h
      exact Qn [] ⟨(kPtr rfl),(sm rfl),(kPtr rfl),(sm rfl),(sm rfl),(sm rfl),(sm rfl),tv⟩ ⟨⟨_,rfl,rfl,(.same rfl)⟩,⟨_,rfl,rfl,(.same rfl)⟩,tv⟩ rfl
     ·replace h:=ifF hb7 h
      refine Rn.fldP (o':=0) (gw rfl hb7) rfl rfl (Rn.load (v:=(i_ x5.From)) (gw rfl hb7) rfl (Qi rfl) rfl rfl (Rn.fldP (o':=1) (gw rfl hb7) rfl rfl (Rn.load (v:=(i_ a1.zM)) (gw rfl hb7) rfl (Qi rfl) rfl rfl (Rn.bin (gw rfl hb7) rfl rfl rfl (Rn.pickF (v:=(b_ (decide (x5.From≥a1.zM)))) tv rfl hb7 rfl (md rfl ?_))))))
      refine Q8 (decide (x5.From≥a1.zM)) (fun hb8=>?_) (fun hb8=>?_)
      ·replace h:=ifT hb8 h
       refine Rn.sk (nw rfl hb8) (Rn.sk (nw rfl hb8) (Rn.sk (nw rfl hb8) (Rn.pickT (v:=(b_ true)) tv rfl hb8 rfl (md rfl (Rn.sk (nw (b:=true) rfl rfl) (Rn.sk (nw (b:=true) rfl rfl) (Rn.sk (nw (b:=true) rfl rfl) (Rn.sk (nw (b:=true) rfl rfl) (Rn.sk (nw (b:=true) rfl rfl) (Rn.pickT (v:=(b_ true)) tv rfl rfl rfl (md rfl (Rn.nil ?_))))))))))))
       replace h:=si h; subst h
       exact Qn [] ⟨(kPtr rfl),(sm rfl),(kPtr rfl),(sm rfl),(sm rfl),(sm rfl),(sm rfl),tv⟩ ⟨⟨_,rfl,rfl,(.same rfl)⟩,⟨_,rfl,rfl,(.same rfl)⟩,tv⟩ rfl
      ·replace h:=ifF hb8 h
       refine Rn.fldP (o':=2) (gw rfl hb8) rfl rfl (Rn.load (v:=(i_ x5.To)) (gw rfl hb8) rfl (Qi rfl) rfl rfl (Rn.bin (gw rfl hb8) rfl rfl rfl (Rn.pickF (v:=(b_ (decide (x5.To < 0)))) tv rfl hb8 rfl (md rfl ?_))))
       refine Q8 (decide (x5.To < 0)) (fun hb9=>?_) (fun hb9=>?_)
       ·replace h:=ifT hb9 h
        refine Rn.sk (nw rfl hb9) (Rn.sk (nw rfl hb9) (Rn.sk (nw rfl hb9) (Rn.sk (nw rfl hb9) (Rn.sk (nw rfl hb9) (Rn.pickT (v:=(b_ true)) tv rfl hb9 rfl (md rfl (Rn.nil ?_)))))))
        replace h:=si h; subst h
        exact Qn [] ⟨(kPtr rfl),(sm rfl),(kPtr rfl),(sm rfl),(sm rfl),(sm rfl),(sm rfl),tv⟩ ⟨⟨_,rfl,rfl,(.same rfl)⟩,⟨_,rfl,rfl,(.same rfl)⟩,tv⟩ rfl
       ·replace h:=ifF hb9 h
        refine Rn.fldP (o':=2) (gw rfl hb9) rfl rfl (Rn.load (v:=(i_ x5.To)) (gw rfl hb9) rfl (Qi rfl) rfl rfl (Rn.fldP (o':=1) (gw rfl hb9) rfl rfl (Rn.load (v:=(i_ a1.zM)) (gw rfl hb9) rfl (Qi rfl) rfl rfl (Rn.bin (gw rfl hb9) rfl rfl rfl (Rn.pickF (v:=(b_ (decide (x5.To≥a1.zM)))) tv rfl hb9 rfl (md rfl (Rn.nil ?_)))))))
        replace h:=si h; subst h
        exact Qn [] ⟨(kPtr rfl),(sm rfl),(kPtr rfl),(sm rfl),(sm rfl),(sm rfl),(sm rfl),tv⟩ ⟨⟨_,rfl,rfl,(.same rfl)⟩,⟨_,rfl,rfl,(.same rfl)⟩,tv⟩ rfl
    ·obtain ⟨x10,rfl⟩ : ∃ x,x = z:=⟨_,rfl⟩
     refine Tr.cond rfl (fun hb11=>?_) (fun hb11=>?_)
     ·replace h:=bT hb11 h
      refine sr ((md rfl (nt ((Tr.ret ?_)))))
      replace h:=si h; subst h
      exact ⟨.inr rfl,(i_ 2),rfl,fun _ _ _ _ h=>h,tv,fun k hk=>Qf hk⟩
     ·replace h:=bF hb11 h
      refine sr ((Rn.fldP (o':=0) tv rfl rfl (Rn.load (v:=(l_ a1.zJ)) tv rfl (Qi rfl) rfl rfl (Rn.fldP (o':=1) tv rfl rfl (Rn.load (v:=(i_ x5.Event)) tv rfl (Qi rfl) rfl rfl ?_)))))
      obtain ⟨x13,h12,h⟩:=bnd h
      refine Rn.call (args:=[(l_ a1.zJ),(i_ x5.Event)]) tv rfl (H_slices_Contains_int _ _ _ h12) pc9 (Rn.un tv rfl rfl (md rfl (Rn.nil (toN ?_))))
      refine Tr.cond rfl (fun hb14=>?_) (fun hb14=>?_)
      ·have hb14:=nT' hb14
       replace h:=bF hb14 h
       refine sr ((md rfl (nt ((Tr.ret ?_)))))
       replace h:=si h; subst h
       exact ⟨.inr rfl,(i_ 9),rfl,fun _ _ _ _ h=>h,tv,fun k hk=>Qf hk⟩
      ·have hb14:=nF' hb14
       replace h:=bT hb14 h
       refine Tr.skip (toN (Tr.seq (sr ((md rfl (Rn.bin tv rfl rfl rfl (Rn.nil (toN ?_))))))))
       refine Tr.cond rfl (fun hb15=>?_) (fun hb15=>?_)
       ·replace h:=bT hb15 h
        refine Tr.exit ?_
        exact ⟨_,h,(by exact Qn [] ⟨(kPtr rfl),(sm rfl),(sm rfl),(sm rfl),tv⟩ ⟨⟨_,rfl,rfl,(.same rfl)⟩,⟨_,rfl,rfl,(.same rfl)⟩,tv⟩ rfl)⟩
       ·replace h:=bF hb15 h
        refine Tr.skip (toN (sr ((Rn.fldP (o':=3) tv rfl rfl (Rn.load (v:=.d (.lst 3 (List.map Qb a1.zL))) tv rfl (Qi rfl) rfl rfl (md rfl (Rn.bin tv rfl rfl rfl ?_)))))))
        obtain ⟨x16,h17,h⟩:=bnd h
        refine Rn.idxD (e:=Qb) tv rfl rfl h17 (Rn.loadCA (vs:=(Qbx x16)) tv rfl rfl rfl (Rn.alloc tv rfl (Rn.store (v:=(Qbv x16)) (cs':=(Qbx x16)) tv rfl rfl rfl rfl rfl rfl (Rn.nil (toN ?_)))))
        refine Tr.cutB (fun (x20:Bool)=>⟨look [(1,.ptr (Γ.n0 + 1) 0),(7,.d (.lst 3 (List.map Qb a1.zL))),(8,(i_ (a1.zL.length:Int))),(9,(i_ x2)),(70,(b_ x20))],Qr Γ.n0 (bxs [(1,.cells ((Qbq a1))),(4,.cells ((Qbx x5))),(5,.cells ((Qbx x16)))]) M,Γ.n0 + 72⟩) h (fun z h=>?_) (fun z h=>?_)
        ·refine Tr.rgn (Rn.fldP (o':=0) tv rfl rfl (Rn.load (v:=(i_ x5.From)) tv rfl (Qi rfl) rfl rfl (Rn.fldP (o':=0) tv rfl rfl (Rn.load (v:=(i_ x16.From)) tv rfl (Qi rfl) rfl rfl (Rn.bin tv rfl rfl rfl (md rfl ?_))))))
         refine Q8 (decide (x5.From < x16.From)) (fun hb18=>?_) (fun hb18=>?_)
         ·replace h:=ifT hb18 h
          refine Rn.sk (nw rfl hb18) (Rn.sk (nw rfl hb18) (Rn.sk (nw rfl hb18) (Rn.sk (nw rfl hb18) (Rn.sk (nw rfl hb18) (Rn.sk (nw rfl hb18) (Rn.sk (nu rfl) (Rn.sk (nu rfl) (Rn.sk (nu rfl) (Rn.sk (nu rfl) (Rn.sk (nu rfl) (Rn.sk (nw rfl hb18) (Rn.pickT (v:=(b_ true)) tv rfl hb18 rfl (Rn.nil ?_)))))))))))))
          replace h:=si h; subst h
          exact Qn [] ⟨(kPtr rfl),(sm rfl),(sm rfl),(sm rfl),(sm rfl),tv⟩ ⟨⟨_,rfl,rfl,(.same rfl)⟩,⟨_,rfl,rfl,(.same rfl)⟩,⟨_,rfl,rfl,(.same rfl)⟩,tv⟩ rfl
         ·replace h:=ifF hb18 h
          refine Rn.fldP (o':=0) (gw rfl hb18) rfl rfl (Rn.load (v:=(i_ x5.From)) (gw rfl hb18) rfl (Qi rfl) rfl rfl (Rn.fldP (o':=0) (gw rfl hb18) rfl rfl (Rn.load (v:=(i_ x16.From)) (gw rfl hb18) rfl (Qi rfl) rfl rfl (Rn.bin (gw rfl hb18) rfl rfl rfl (Rn.movD (gw rfl hb18) rfl ?_)))))
          refine Q8 (x5.From == x16.From) (fun hb19=>?_) (fun hb19=>?_)
          ·replace h:=bT hb19 h
           refine Rn.fldP (o':=1) (gw rfl hb19) rfl rfl (Rn.load (v:=(i_ x5.Event)) (gw rfl hb19) rfl (Qi rfl) rfl rfl (Rn.fldP (o':=1) (gw rfl hb19) rfl rfl (Rn.load (v:=(i_ x16.Event)) (gw rfl hb19) rfl (Qi rfl) rfl rfl (Rn.bin (gw rfl hb19) rfl rfl rfl (Rn.pickT (v:=(b_ (decide (x5.Event≤x16.Event)))) (gw rfl hb18) rfl hb19 rfl (Rn.pickF (v:=(b_ (decide (x5.Event≤x16.Event)))) tv rfl hb18 rfl (Rn.nil ?_)))))))
           replace h:=si h; subst h
           exact Qn [] ⟨(kPtr rfl),(sm rfl),(sm rfl),(sm rfl),(sm rfl),tv⟩ ⟨⟨_,rfl,rfl,(.same rfl)⟩,⟨_,rfl,rfl,(.same rfl)⟩,⟨_,rfl,rfl,(.same rfl)⟩,tv⟩ rfl
          ·replace h:=bF hb19 h
           refine Rn.sk (nw rfl hb19) (Rn.sk (nw rfl hb19) (Rn.sk (nw rfl hb19) (Rn.sk (nw rfl hb19) (Rn.sk (nw rfl hb19) (Rn.pickF (v:=(b_ false)) (gw rfl hb18) rfl hb19 rfl (Rn.pickF (v:=(b_ false)) tv rfl hb18 rfl (Rn.nil ?_)))))))
           replace h:=si h; subst h
           exact Qn [] ⟨(kPtr rfl),(sm rfl),(sm rfl),(sm rfl),(sm rfl),tv⟩ ⟨⟨_,rfl,rfl,(.same rfl)⟩,⟨_,rfl,rfl,(.same rfl)⟩,⟨_,rfl,rfl,(.same rfl)⟩,tv⟩ rfl
        ·obtain ⟨x20,rfl⟩ : ∃ x,x = z:=⟨_,rfl⟩
         refine Tr.cond rfl (fun hb21=>?_) (fun hb21=>?_)
         ·replace h:=bT hb21 h
          refine sr ((md rfl (nt ((Tr.ret ?_)))))
          replace h:=si h; subst h
          exact ⟨.inr rfl,(i_ 5),rfl,fun _ _ _ _ h=>h,tv,fun k hk=>Qf hk⟩
         ·replace h:=bF hb21 h
          refine Tr.skip ?_
          exact ⟨_,h,(by exact Qn [5] ⟨(kPtr rfl),(sm rfl),(sm rfl),(sm rfl),tv⟩ ⟨⟨_,rfl,rfl,(.same rfl)⟩,⟨_,rfl,rfl,(.same rfl)⟩,tv⟩ rfl)⟩
   ·obtain ⟨c22,c23,c24⟩:=z
    refine Tr.rgn (Rn.bin tv rfl rfl rfl (md rfl (Rn.nil ?_)))
    exact ⟨_,h,(by exact Qx ⟨(kPtr rfl),(sm rfl),(sm rfl),(sm rfl),tv⟩ ⟨⟨_,rfl,rfl,(.same rfl)⟩,tv⟩ rfl)⟩
  ·replace h:=ifF hb4 h
   refine Tr.exit (toN (sr ((md rfl (nt ((Tr.ret ?_)))))))
   replace h:=si h; subst h
   exact ⟨.inr rfl,(i_ 0),rfl,fun _ _ _ _ h=>h,tv,fun k hk=>Qf hk⟩
theorem Q3o {P:Program} {c:Nat} {Qcf:(List Int)→Int→Option Int} {Qcd:Qm→Option Int}
    (H_automaton_checkSet:Qi9 P 85 Qcf)
    (H_automaton_checkEdges:Qhp P 86 Qcd) (hcf:Q1 P c = some Qm5):Qg4 P c (Qbd Qcf Qcd):=by
 intro a1 r h
 refine Qf3 hcf rfl fun Γ M hP hnt hM=>?_
 subst hP
 refine Tr.init [(0,(Qo a1))] rfl ?_
 unfold Qbd at h
 unfold Qm5
 refine sr ((Rn.box (v:=(Qo a1)) (cs:=(Qbq a1)) tv rfl rfl rfl rfl rfl (md rfl (nt ((Tr.seq (sr ((Rn.fldP (o':=0) tv rfl rfl (Rn.load (v:=(l_ a1.zJ)) tv rfl (Qi rfl) rfl rfl ?_))))))))))
 obtain ⟨x3,h2,h⟩:=bnd h
 refine Rn.call (args:=[(l_ a1.zJ),(i_ 32)]) tv rfl (H_automaton_checkSet _ _ _ h2) pc9 (md rfl (nt ((sr ((md rfl (Rn.bin tv rfl rfl rfl (Rn.nil (toN ?_)))))))))
 refine Tr.cond rfl (fun hb4=>?_) (fun hb4=>?_)
 ·replace h:=bT hb4 h
  refine sr ((md rfl (md rfl (nt ((Tr.ret ?_))))))
  replace h:=si h; subst h
  exact ⟨.inr rfl,(i_ x3),rfl,fun _ _ _ _ h=>h,tv,fun k hk=>Qf hk⟩
 ·replace h:=bF hb4 h
  refine Tr.skip (toN (Tr.seq (Tr.block (sr ((Rn.fldP (o':=1) tv rfl rfl (Rn.load (v:=(i_ a1.zM)) tv rfl (Qi rfl) rfl rfl (Rn.bin tv rfl rfl rfl (md rfl (Rn.nil (toN ?_)))))))))))
  refine Tr.cond rfl (fun hb5=>?_) (fun hb5=>?_)
  ·replace h:=ifT hb5 h
   refine sr ((md rfl (nt ((Tr.ret ?_)))))
   replace h:=si h; subst h
   exact ⟨.inr rfl,(i_ 2),rfl,fun _ _ _ _ h=>h,tv,fun k hk=>Qf hk⟩
  ·replace h:=ifF hb5 h
   refine sr ((Rn.fldP (o':=1) tv rfl rfl (Rn.load (v:=(i_ a1.zM)) tv rfl (Qi rfl) rfl rfl (Rn.bin tv rfl rfl rfl (md rfl (Rn.nil (toN ?_)))))))
   refine Tr.cond rfl (fun hb6=>?_) (fun hb6=>?_)
   ·replace h:=ifT hb6 h
    refine sr ((md rfl (nt ((Tr.ret ?_)))))
    replace h:=si h; subst h
    exact ⟨.inr rfl,(i_ 3),rfl,fun _ _ _ _ h=>h,tv,fun k hk=>Qf hk⟩
   ·replace h:=ifF hb6 h
    refine Tr.skip (toN (Tr.seq (sr ((Rn.fldP (o':=2) tv rfl rfl (Rn.load (v:=(l_ a1.zK)) tv rfl (Qi rfl) rfl rfl (Rn.fldP (o':=1) tv rfl rfl (Rn.load (v:=(i_ a1.zM)) tv rfl (Qi rfl) rfl rfl ?_))))))))
    obtain ⟨x8,h7,h⟩:=bnd h
    refine Rn.call (args:=[(l_ a1.zK),(i_ a1.zM)]) tv rfl (H_automaton_checkSet _ _ _ h7) pc9 (md rfl (nt ((sr ((md rfl (Rn.bin tv rfl rfl rfl (Rn.nil (toN ?_)))))))))
    refine Tr.cond rfl (fun hb9=>?_) (fun hb9=>?_)
    ·replace h:=bT hb9 h
     refine sr ((md rfl (md rfl (nt ((Tr.ret ?_))))))
     replace h:=si h; subst h
     exact ⟨.inr rfl,(i_ x8),rfl,fun _ _ _ _ h=>h,tv,fun k hk=>Qf hk⟩
    ·replace h:=bF hb9 h
     refine Tr.skip (toN (sr ((Rn.load (v:=(Qo a1)) tv rfl (Qi rfl) rfl rfl ?_))))
     obtain ⟨x11,h10,h⟩:=bnd h
     refine Rn.call (args:=[(Qo a1)]) tv rfl (H_automaton_checkEdges _ _ h10) pc9 (md rfl (nt ((Tr.ret ?_))))
     replace h:=si h; subst h
     exact ⟨.inr rfl,(i_ x11),rfl,fun _ _ _ _ h=>h,tv,fun k hk=>Qf hk⟩
theorem Q0c {P:Program} {c:Nat} (hcf:Q1 P c = some Qju) (fuel:Nat):Qei P c (Qy fuel):=by
 intro xset1 n2 r h
 refine Qf3 hcf rfl fun Γ M hP hnt hM=>?_
 subst hP
 refine Tr.init [(0,(l_ xset1)),(1,(i_ n2))] rfl ?_
 unfold Qy at h
 unfold Qju
 refine sr ((md rfl (nt ((Tr.seq (sr ((md rfl (Rn.lenD tv rfl (md rfl (nt ((Tr.block ?_)))))))))))))
 refine Tr.loop (mk:=fun (x3:Int)=>⟨look [(0,(l_ xset1)),(1,(i_ n2)),(7,(l_ xset1)),(8,(i_ (xset1.length:Int))),(9,(i_ x3))],Qr Γ.n0 (bxs []) M,Γ.n0 + 33⟩) h (by exact Qx ⟨(sm rfl),(sm rfl),(sm rfl),(sm rfl),(sm rfl),tv⟩ tv rfl) (fun k4 z h=>?_)
 ·obtain ⟨x3,rfl⟩ : ∃ x,x = z:=⟨_,rfl⟩
  replace h:_ = some _:=h
  refine sr ((Rn.bin tv rfl rfl rfl (nt ((Tr.seq ?_)))))
  refine Tr.cond rfl (fun hb5=>?_) (fun hb5=>?_)
  ·replace h:=ifT hb5 h
   refine Tr.skip (toN (Tr.seq (Tr.block (sr ((md rfl ?_))))))
   obtain ⟨x6,h7,h⟩:=bnd h
   refine Rn.idxD (e:=(eI .i64)) tv rfl rfl h7 (Rn.loadC (x:=.int .i64 x6) tv rfl (md rfl (md rfl (nt ((Tr.seq ?_))))))
   refine Tr.cutB (fun (x9:Bool)=>⟨look [(0,(l_ xset1)),(1,(i_ n2)),(5,(i_ x3)),(6,(i_ x6)),(7,(l_ xset1)),(8,(i_ (xset1.length:Int))),(9,(i_ x3)),(20,(b_ x9))],Qr Γ.n0 (bxs []) M,Γ.n0 + 33⟩) h (fun z h=>?_) (fun z h=>?_)
   ·refine Tr.rgn (md rfl (Rn.bin tv rfl rfl rfl (md rfl ?_)))
    refine Q8 (decide (x6 < 0)) (fun hb8=>?_) (fun hb8=>?_)
    ·replace h:=ifT hb8 h
     refine Rn.sk (nw rfl hb8) (Rn.sk (nw rfl hb8) (Rn.sk (nw rfl hb8) (Rn.pickT (v:=(b_ true)) tv rfl hb8 rfl (Rn.nil ?_))))
     replace h:=si h; subst h
     exact Qn [] ⟨(sm rfl),(sm rfl),(sm rfl),(sm rfl),(sm rfl),(sm rfl),(sm rfl),(sm rfl),tv⟩ tv rfl
    ·replace h:=ifF hb8 h
     refine Rn.movD (gw rfl hb8) rfl (Rn.movD (gw rfl hb8) rfl (Rn.bin (gw rfl hb8) rfl rfl rfl (Rn.pickF (v:=(b_ (decide (x6≥n2)))) tv rfl hb8 rfl (Rn.nil ?_))))
     replace h:=si h; subst h
     exact Qn [] ⟨(sm rfl),(sm rfl),(sm rfl),(sm rfl),(sm rfl),(sm rfl),(sm rfl),(sm rfl),tv⟩ tv rfl
   ·obtain ⟨x9,rfl⟩ : ∃ x,x = z:=⟨_,rfl⟩
    refine Tr.cond rfl (fun hb10=>?_) (fun hb10=>?_)
    ·replace h:=bT hb10 h
     refine sr ((md rfl (nt ((Tr.ret ?_)))))
     replace h:=si h; subst h
     exact ⟨.inr rfl,(i_ 2),rfl,fun _ _ _ _ h=>h,tv,fun k hk=>Qf hk⟩
    ·replace h:=bF hb10 h
     refine Tr.skip (toN ?_)
     refine Tr.cutB (fun (x14:Bool)=>⟨look [(0,(l_ xset1)),(1,(i_ n2)),(7,(l_ xset1)),(8,(i_ (xset1.length:Int))),(9,(i_ x3)),(31,(b_ x14))],Qr Γ.n0 (bxs []) M,Γ.n0 + 33⟩) h (fun z h=>?_) (fun z h=>?_)
     ·refine Tr.rgn (md rfl (Rn.bin tv rfl rfl rfl (md rfl ?_)))
      refine Q8 (decide (x3 > 0)) (fun hb11=>?_) (fun hb11=>?_)
      ·replace h:=ifT hb11 h
       refine Rn.movD (gw rfl hb11) rfl (Rn.movD (gw rfl hb11) rfl (Rn.movD (gw rfl hb11) rfl (Rn.bin (gw rfl hb11) rfl rfl rfl ?_)))
       obtain ⟨x12,h13,h⟩:=bnd h
       refine Rn.idxD (e:=(eI .i64)) (gw rfl hb11) rfl rfl h13 (Rn.loadC (x:=.int .i64 x12) (gw rfl hb11) rfl (Rn.bin (gw rfl hb11) rfl rfl rfl (Rn.pickT (v:=(b_ (decide (x6≤x12)))) tv rfl hb11 rfl (Rn.nil ?_))))
       replace h:=si h; subst h
       exact Qn [] ⟨(sm rfl),(sm rfl),(sm rfl),(sm rfl),(sm rfl),(sm rfl),tv⟩ tv rfl
      ·replace h:=ifF hb11 h
       refine Rn.sk (nw rfl hb11) (Rn.sk (nw rfl hb11) (Rn.sk (nw rfl hb11) (Rn.sk (nw rfl hb11) (Rn.sk (nw rfl hb11) (Rn.sk (nw rfl hb11) (Rn.sk (nw rfl hb11) (Rn.pickF (v:=(b_ false)) tv rfl hb11 rfl (Rn.nil ?_))))))))
       replace h:=si h; subst h
       exact Qn [] ⟨(sm rfl),(sm rfl),(sm rfl),(sm rfl),(sm rfl),(sm rfl),tv⟩ tv rfl
     ·obtain ⟨x14,rfl⟩ : ∃ x,x = z:=⟨_,rfl⟩
      refine Tr.cond rfl (fun hb15=>?_) (fun hb15=>?_)
      ·replace h:=bT hb15 h
       refine sr ((md rfl (nt ((Tr.ret ?_)))))
       replace h:=si h; subst h
       exact ⟨.inr rfl,(i_ 5),rfl,fun _ _ _ _ h=>h,tv,fun k hk=>Qf hk⟩
      ·replace h:=bF hb15 h
       refine Tr.skip (toN (Tr.rgn (Rn.bin tv rfl rfl rfl (md rfl (Rn.nil ?_)))))
       exact ⟨_,h,(by exact Qx ⟨(sm rfl),(sm rfl),(sm rfl),(sm rfl),(sm rfl),tv⟩ tv rfl)⟩
  ·replace h:=ifF hb5 h
   refine Tr.exit (toN (sr ((md rfl (nt ((Tr.ret ?_)))))))
   replace h:=si h; subst h
   exact ⟨.inr rfl,(i_ 0),rfl,fun _ _ _ _ h=>h,tv,fun k hk=>Qf hk⟩
theorem Qva {P:Program} {c:Nat} (hcf:Q1 P c = some Qhr):Qf0 P c (Q4):=by
 intro n1 r h
 refine Qf3 hcf rfl fun Γ M hP hnt hM=>?_
 subst hP
 refine Tr.init [(0,(i_ n1))] rfl ?_
 unfold Q4 at h
 unfold Qhr
 refine sr ((md rfl (nt ((sr ((md rfl (Rn.bin tv rfl rfl rfl (md rfl ?_)))))))))
 refine Q8 (decide (n1≥0)) (fun hb2=>?_) (fun hb2=>?_)
 ·replace h:=ifT hb2 h
  refine Rn.movD (gw rfl hb2) rfl (Rn.bin (gw rfl hb2) rfl rfl rfl (Rn.pickT (v:=(b_ (decide (n1 < 32)))) tv rfl hb2 rfl (md rfl (nt ((Tr.ret ?_))))))
  replace h:=si h; subst h
  exact ⟨.inr rfl,(b_ (decide (n1 < 32))),rfl,fun _ _ _ _ h=>h,tv,fun k hk=>Qf hk⟩
 ·replace h:=ifF hb2 h
  refine Rn.sk (nw rfl hb2) (Rn.sk (nw rfl hb2) (Rn.pickF (v:=(b_ false)) tv rfl hb2 rfl (md rfl (nt ((Tr.ret ?_))))))
  replace h:=si h; subst h
  exact ⟨.inr rfl,(b_ false),rfl,fun _ _ _ _ h=>h,tv,fun k hk=>Qf hk⟩
theorem Q49 {P:Program} {c:Nat} (hcf:Q1 P c = some Qr6):Qr5 P c (Qdt):=by
 intro x1 r h
 refine Qf3 hcf rfl fun Γ M hP hnt hM=>?_
 subst hP
 refine Tr.init [(0,(i_ x1))] rfl ?_
 unfold Qdt at h
 unfold Qr6
 refine sr ((md rfl (nt ((sr ((md rfl (md rfl (Rn.bin tv rfl rfl rfl (md rfl (nt ((Tr.ret ?_)))))))))))))
 replace h:=si h; subst h
 exact ⟨.inr rfl,(b_ (x1 != x1)),rfl,fun _ _ _ _ h=>h,tv,fun k hk=>Qf hk⟩
theorem Q6b {P:Program} {c:Nat} {Qdt:Int→Option Bool}
    (H_cmp_isNaN_int:Qr5 P 115 Qdt) (hcf:Q1 P c = some Qtz):Qty P c (Qek Qdt):=by
 intro x1 y2 r h
 refine Qf3 hcf rfl fun Γ M hP hnt hM=>?_
 subst hP
 refine Tr.init [(0,(i_ x1)),(1,(i_ y2))] rfl ?_
 unfold Qek at h
 unfold Qtz
 refine sr ((md rfl (nt ((sr ((md rfl ?_)))))))
 obtain ⟨x4,h3,h⟩:=bnd h
 refine Rn.call (args:=[(i_ x1)]) tv rfl (H_cmp_isNaN_int _ _ h3) pc9 (md rfl ?_)
 refine Q8 x4 (fun hb5=>?_) (fun hb5=>?_)
 ·replace h:=bT hb5 h
  refine Rn.movD (gw rfl hb5) rfl ?_
  obtain ⟨x7,h6,h⟩:=bnd h
  refine Rn.call (args:=[(i_ y2)]) (gw rfl hb5) rfl (H_cmp_isNaN_int _ _ h6) pc9 (Rn.un (gw rfl hb5) rfl rfl (Rn.pickT (v:=(b_ (!x7))) tv rfl hb5 rfl (md rfl ?_)))
  refine Q8 x7 (fun hb8=>?_) (fun hb8=>?_)
  ·replace h:=bT hb8 h
   refine Rn.movD (gw rfl (nT hb8)) rfl (Rn.movD (gw rfl (nT hb8)) rfl (Rn.bin (gw rfl (nT hb8)) rfl rfl rfl (Rn.pickF (v:=(b_ (decide (x1 < y2)))) tv rfl (nT hb8) rfl (md rfl (nt ((Tr.ret ?_)))))))
   replace h:=si h; subst h
   exact ⟨.inr rfl,(b_ (decide (x1 < y2))),rfl,fun _ _ _ _ h=>h,tv,fun k hk=>Qf hk⟩
  ·replace h:=bF hb8 h
   refine Rn.sk (nw rfl (nF hb8)) (Rn.sk (nw rfl (nF hb8)) (Rn.sk (nw rfl (nF hb8)) (Rn.pickT (v:=(b_ true)) tv rfl (nF hb8) rfl (md rfl (nt ((Tr.ret ?_)))))))
   replace h:=si h; subst h
   exact ⟨.inr rfl,(b_ true),rfl,fun _ _ _ _ h=>h,tv,fun k hk=>Qf hk⟩
 ·replace h:=bF hb5 h
  refine Rn.sk (nw rfl hb5) (Rn.sk (nw rfl hb5) (Rn.sk (nw rfl hb5) (Rn.pickF (v:=(b_ false)) tv rfl hb5 rfl (md rfl (Rn.movD (gw (b:=false) rfl rfl) rfl (Rn.movD (gw (b:=false) rfl rfl) rfl (Rn.bin (gw (b:=false) rfl rfl) rfl rfl rfl (Rn.pickF (v:=(b_ (decide (x1 < y2)))) tv rfl rfl rfl (md rfl (nt ((Tr.ret ?_))))))))))))
  replace h:=si h; subst h
  exact ⟨.inr rfl,(b_ (decide (x1 < y2))),rfl,fun _ _ _ _ h=>h,tv,fun k hk=>Qf hk⟩
theorem Q15 {P:Program} {c:Nat} (hcf:Q1 P c = some Qln):Qlm P c (Qc0):=by
 intro x1 r h
 refine Qf3 hcf rfl fun Γ M hP hnt hM=>?_
 subst hP
 refine Tr.init [(0,(i_ x1))] rfl ?_
 unfold Qc0 at h
 unfold Qln
 refine sr ((md rfl (nt ((sr ((md rfl (md rfl (Rn.bin tv rfl rfl rfl (md rfl (nt ((Tr.ret ?_)))))))))))))
 replace h:=si h; subst h
 exact ⟨.inr rfl,(b_ (x1 != x1)),rfl,fun _ _ _ _ h=>h,tv,fun k hk=>Qf hk⟩
theorem Qrb {P:Program} {c:Nat} {Qek:Int→Int→Option Bool} {Qc0:Int→Option Bool}
    (H_cmp_Less_int:Qty P 95 Qek)
    (H_slices_isNaN_int:Qlm P 96 Qc0) (hcf:Q1 P c = some Qgh) (fuel:Nat):Qgg P c (Qb1 Qek Qc0 fuel):=by
 intro x1 target2 r h
 refine Qf3 hcf rfl fun Γ M hP hnt hM=>?_
 subst hP
 refine Tr.init [(0,(l_ x1)),(1,(i_ target2))] rfl ?_
 unfold Qb1 at h
 unfold Qgh
 refine sr ((md rfl (md rfl (nt ((sr ((md rfl (Rn.lenD tv rfl (md rfl (nt ((sr ((md rfl (md rfl (md rfl (Rn.nil (toN ?_)))))))))))))))))))
 refine Tr.cutB (fun (i12:Int)=>⟨look [(0,(l_ x1)),(1,(i_ target2)),(6,(i_ (x1.length:Int))),(7,(i_ i12))],Qr Γ.n0 (bxs []) M,Γ.n0 + 54⟩) h (fun z h=>?_) (fun z h=>?_)
 ·refine Tr.block ?_
  refine Tr.loop (mk:=fun ((i3,j4):Int×Int)=>⟨look [(0,(l_ x1)),(1,(i_ target2)),(6,(i_ (x1.length:Int))),(7,(i_ i3)),(8,(i_ j4))],Qr Γ.n0 (bxs []) M,Γ.n0 + 54⟩) h (by exact Qx ⟨(sm rfl),(sm rfl),(sm rfl),(sm rfl),(sm rfl),tv⟩ tv rfl) (fun k5 z h=>?_)
  ·obtain ⟨i3,j4⟩:=z
   replace h:_ = some _:=h
   refine Tr.seq (sr ((md rfl (md rfl (Rn.bin tv rfl rfl rfl (Rn.nil (toN ?_)))))))
   refine Tr.cond rfl (fun hb6=>?_) (fun hb6=>?_)
   ·replace h:=ifT hb6 h
    refine Tr.skip (toN (Tr.block (sr ((md rfl (md rfl (Rn.bin tv rfl rfl rfl (Rn.conv tv rfl (Rn.bin tv rfl rfl rfl (Rn.conv tv rfl (md rfl (nt ((sr ((md rfl (md rfl ?_)))))))))))))))))
    obtain ⟨x7,h8,h⟩:=bnd h
    refine Rn.idxD (e:=(eI .i64)) tv rfl rfl h8 (Rn.loadC (x:=.int .i64 x7) tv rfl (md rfl ?_))
    obtain ⟨x10,h9,h⟩:=bnd h
    refine Rn.call (args:=[(i_ x7),(i_ target2)]) tv rfl (H_cmp_Less_int _ _ _ h9) pc9 (Rn.nil (toN ?_))
    refine Tr.cond rfl (fun hb11=>?_) (fun hb11=>?_)
    ·replace h:=bT hb11 h
     refine Tr.rgn (md rfl (Rn.bin tv rfl rfl rfl (md rfl (Rn.nil ?_))))
     exact ⟨_,h,(by exact Qx ⟨(sm rfl),(sm rfl),(sm rfl),(sm rfl),(sm rfl),tv⟩ tv rfl)⟩
    ·replace h:=bF hb11 h
     refine Tr.rgn (md rfl (md rfl (Rn.nil ?_)))
     exact ⟨_,h,(by exact Qx ⟨(sm rfl),(sm rfl),(sm rfl),(sm rfl),(sm rfl),tv⟩ tv rfl)⟩
   ·replace h:=ifF hb6 h
    refine Tr.exit ?_
    replace h:=si h; subst h
    exact Qn [] ⟨(sm rfl),(sm rfl),(sm rfl),(sm rfl),tv⟩ tv rfl
 ·obtain ⟨i12,rfl⟩ : ∃ x,x = z:=⟨_,rfl⟩
  refine sr ((md rfl (md rfl (md rfl (Rn.bin tv rfl rfl rfl (md rfl ?_))))))
  refine Q8 (decide (i12 < (x1.length:Int))) (fun hb13=>?_) (fun hb13=>?_)
  ·replace h:=ifT hb13 h
   refine Rn.movD (gw rfl hb13) rfl (Rn.movD (gw rfl hb13) rfl ?_)
   obtain ⟨x14,h15,h⟩:=bnd h
   refine Rn.idxD (e:=(eI .i64)) (gw rfl hb13) rfl rfl h15 (Rn.loadC (x:=.int .i64 x14) (gw rfl hb13) rfl (Rn.movD (gw rfl hb13) rfl (Rn.bin (gw rfl hb13) rfl rfl rfl (Rn.movD (gw rfl hb13) rfl ?_))))
   refine Q8 (x14 == target2) (fun hb16=>?_) (fun hb16=>?_)
   ·replace h:=bT hb16 h
    refine Rn.sk (nw rfl hb16) (Rn.sk (nw rfl hb16) (Rn.sk (nw rfl hb16) (Rn.sk (nw rfl hb16) (Rn.sk (nw rfl hb16) (Rn.sk (nw rfl hb16) (Rn.sk (nu rfl) (Rn.sk (nu rfl) (Rn.sk (nw rfl hb16) (Rn.pickT (v:=(b_ true)) (gw rfl hb13) rfl hb16 rfl (Rn.pickT (v:=(b_ true)) tv rfl hb13 rfl (md rfl (md rfl (nt ((Tr.ret ?_)))))))))))))))
    replace h:=si h; subst h
    exact ⟨.inr rfl,.tup [(i_ i12),(b_ true)],res2 rfl rfl,(WkV.tup (.cons (.same rfl) (.cons (.same rfl) .nil))).rd,⟨tv,tv,tv⟩,fun k hk=>Qf hk⟩
   ·replace h:=bF hb16 h
    refine Rn.movD (gw rfl hb16) rfl (Rn.movD (gw rfl hb16) rfl ?_)
    obtain ⟨x17,h18,h⟩:=bnd h
    refine Rn.idxD (e:=(eI .i64)) (gw rfl hb16) rfl rfl h18 (Rn.loadC (x:=.int .i64 x17) (gw rfl hb16) rfl ?_)
    obtain ⟨x20,h19,h⟩:=bnd h
    refine Rn.call (args:=[(i_ x17)]) (gw rfl hb16) rfl (H_slices_isNaN_int _ _ h19) pc9 (Rn.movD (gw rfl hb16) rfl ?_)
    refine Q8 x20 (fun hb21=>?_) (fun hb21=>?_)
    ·replace h:=bT hb21 h
     refine Rn.movD (gw rfl hb21) rfl ?_
     obtain ⟨x23,h22,h⟩:=bnd h
     refine Rn.call (args:=[(i_ target2)]) (gw rfl hb21) rfl (H_slices_isNaN_int _ _ h22) pc9 (Rn.pickT (v:=(b_ x23)) (gw rfl hb16) rfl hb21 rfl (Rn.pickF (v:=(b_ x23)) (gw rfl hb13) rfl hb16 rfl (Rn.pickT (v:=(b_ x23)) tv rfl hb13 rfl (md rfl (md rfl (nt ((Tr.ret ?_))))))))
     replace h:=si h; subst h
     exact ⟨.inr rfl,.tup [(i_ i12),(b_ x23)],res2 rfl rfl,(WkV.tup (.cons (.same rfl) (.cons (.same rfl) .nil))).rd,⟨tv,tv,tv⟩,fun k hk=>Qf hk⟩
    ·replace h:=bF hb21 h
     refine Rn.sk (nw rfl hb21) (Rn.sk (nw rfl hb21) (Rn.pickF (v:=(b_ false)) (gw rfl hb16) rfl hb21 rfl (Rn.pickF (v:=(b_ false)) (gw rfl hb13) rfl hb16 rfl (Rn.pickT (v:=(b_ false)) tv rfl hb13 rfl (md rfl (md rfl (nt ((Tr.ret ?_)))))))))
     replace h:=si h; subst h
     exact ⟨.inr rfl,.tup [(i_ i12),(b_ false)],res2 rfl rfl,(WkV.tup (.cons (.same rfl) (.cons (.same rfl) .nil))).rd,⟨tv,tv,tv⟩,fun k hk=>Qf hk⟩
  ·replace h:=ifF hb13 h
   refine Rn.sk (nw rfl hb13) (Rn.sk (nw rfl hb13) (Rn.sk (nw rfl hb13) (Rn.sk (nw rfl hb13) (Rn.sk (nw rfl hb13) (Rn.sk (nw rfl hb13) (Rn.sk (nw rfl hb13) (Rn.sk (nu rfl) (Rn.sk (nu rfl) (Rn.sk (nu rfl) (Rn.sk (nu rfl) (Rn.sk (nu rfl) (Rn.sk (nu rfl) (Rn.sk (nu rfl) (Rn.sk (nu rfl) (Rn.sk (nu rfl) (Rn.sk (nw rfl hb13) (Rn.pickF (v:=(b_ false)) tv rfl hb13 rfl (md rfl (md rfl (nt ((Tr.ret ?_))))))))))))))))))))))
   replace h:=si h; subst h
   exact ⟨.inr rfl,.tup [(i_ i12),(b_ false)],res2 rfl rfl,(WkV.tup (.cons (.same rfl) (.cons (.same rfl) .nil))).rd,⟨tv,tv,tv⟩,fun k hk=>Qf hk⟩
theorem Q0d {P:Program} {c:Nat} {Qb1:(List Int)→Int→Option (Int×Bool)}
    (H_slices_BinarySearch_int:Qgg P 74 Qb1) (hcf:Q1 P c = some Qjv):Qbz P c (Qh Qb1):=by
 intro xset1 x2 r h
 refine Qf3 hcf rfl fun Γ M hP hnt hM=>?_
 subst hP
 refine Tr.init [(0,(l_ xset1)),(1,(i_ x2))] rfl ?_
 unfold Qh at h
 unfold Qjv
 refine sr ((md rfl (nt ((sr ((md rfl (md rfl ?_))))))))
 obtain ⟨⟨r4,r5⟩,h3,h⟩:=bnd h
 refine Rn.call (args:=[(l_ xset1),(i_ x2)]) tv rfl (H_slices_BinarySearch_int _ _ _ h3) pc9 (Rn.mov (v:=.tup [(i_ r4),(b_ r5)]) tv rfl (Rn.ext (v:=(i_ r4)) (vs:=[(i_ r4),(b_ r5)]) tv rfl rfl rfl (Rn.ext (v:=(b_ r5)) (vs:=[(i_ r4),(b_ r5)]) tv rfl rfl rfl (md rfl (md rfl (nt ((sr ((md rfl (md rfl (nt ((Tr.ret ?_))))))))))))))
 replace h:=si h; subst h
 exact ⟨.inr rfl,(b_ r5),rfl,fun _ _ _ _ h=>h,tv,fun k hk=>Qf hk⟩
theorem Qvb {P:Program} {c:Nat} {Qy:(List Int)→Int→Option Int} {Qh:(List Int)→Int→Option Bool} {Qbd:Qm→Option Int} {Q4:Int→Option Bool}
    (H_alphabet_CheckSet:Qei P 31 Qy)
    (H_alphabet_Contains:Qbz P 50 Qh)
    (H_automaton_Check:Qg4 P 64 Qbd)
    (H_timedsynthesis_event:Qf0 P 65 Q4) (hcf:Q1 P c = some Qhs) (fuel:Nat):Qdr P c (Qw Qy Qh Qbd Q4 fuel):=by
 intro p1 r h
 refine Qf3 hcf rfl fun Γ M hP hnt hM=>?_
 subst hP
 refine Tr.init [(0,.agg [(l_ p1.zA.zJ),(i_ p1.zA.zM),(l_ p1.zA.zK),.d (.lst 3 (List.map Qb p1.zA.zL)),(l_ p1.zC),(l_ p1.zB),(l_ p1.zD),(i_ p1.Tick)])] rfl ?_
 unfold Qw at h
 unfold Qhs
 refine sr ((Rn.box (v:=.agg [(l_ p1.zA.zJ),(i_ p1.zA.zM),(l_ p1.zA.zK),.d (.lst 3 (List.map Qb p1.zA.zL)),(l_ p1.zC),(l_ p1.zB),(l_ p1.zD),(i_ p1.Tick)]) (cs:=[(l_ p1.zA.zJ),(i_ p1.zA.zM),(l_ p1.zA.zK),.d (.lst 3 (List.map Qb p1.zA.zL)),(l_ p1.zC),(l_ p1.zB),(l_ p1.zD),(i_ p1.Tick)]) tv rfl rfl rfl rfl rfl (md rfl (nt ((Tr.seq (sr ((Rn.fldP (o':=0) tv rfl rfl (Rn.load (v:=(Qo p1.zA)) tv rfl (Qi rfl) rfl rfl ?_))))))))))
 obtain ⟨x3,h2,h⟩:=bnd h
 refine Rn.call (args:=[(Qo p1.zA)]) tv rfl (H_automaton_Check _ _ h2) pc9 (md rfl (nt ((sr ((md rfl (Rn.bin tv rfl rfl rfl (Rn.nil (toN ?_)))))))))
 refine Tr.cond rfl (fun hb4=>?_) (fun hb4=>?_)
 ·replace h:=bT hb4 h
  refine sr ((md rfl (md rfl (nt ((Tr.ret ?_))))))
  replace h:=si h; subst h
  exact ⟨.inr rfl,(i_ x3),rfl,fun _ _ _ _ h=>h,tv,fun k hk=>Qf hk⟩
 ·replace h:=bF hb4 h
  refine Tr.skip (toN (Tr.seq (sr ((Rn.fldP (o':=4) tv rfl rfl (Rn.load (v:=(l_ p1.zC)) tv rfl (Qi rfl) rfl rfl (Rn.fldP (o':=0) tv rfl rfl (Rn.fldP (o':=1) tv rfl rfl (Rn.load (v:=(i_ p1.zA.zM)) tv rfl (Qi rfl) rfl rfl ?_)))))))))
  obtain ⟨x6,h5,h⟩:=bnd h
  refine Rn.call (args:=[(l_ p1.zC),(i_ p1.zA.zM)]) tv rfl (H_alphabet_CheckSet _ _ _ h5) pc9 (md rfl (nt ((sr ((md rfl (Rn.bin tv rfl rfl rfl (Rn.nil (toN ?_)))))))))
  refine Tr.cond rfl (fun hb7=>?_) (fun hb7=>?_)
  ·replace h:=bT hb7 h
   refine sr ((md rfl (md rfl (nt ((Tr.ret ?_))))))
   replace h:=si h; subst h
   exact ⟨.inr rfl,(i_ x6),rfl,fun _ _ _ _ h=>h,tv,fun k hk=>Qf hk⟩
  ·replace h:=bF hb7 h
   refine Tr.skip (toN (Tr.seq (sr ((Rn.fldP (o':=5) tv rfl rfl (Rn.load (v:=(l_ p1.zB)) tv rfl (Qi rfl) rfl rfl (Rn.fldP (o':=6) tv rfl rfl (Rn.load (v:=(l_ p1.zD)) tv rfl (Qi rfl) rfl rfl (Rn.bslice (xs:=[(l_ p1.zB),(l_ p1.zD)]) (cs:=[(l_ p1.zB),(l_ p1.zD)]) tv rfl rfl rfl rfl (Rn.k (v:=.d (.int .i64 2)) tv rfl rfl rfl (md rfl (nt ((Tr.block ?_))))))))))))))
   refine Tr.weak (by show WeakSt Γ _ ⟨look [(0,.agg [(l_ p1.zA.zJ),(i_ p1.zA.zM),(l_ p1.zA.zK),.d (.lst 3 (List.map Qb p1.zA.zL)),(l_ p1.zC),(l_ p1.zB),(l_ p1.zD),(i_ p1.Tick)]),(1,.ptr (Γ.n0 + 1) 0),(2,(i_ 0)),(3,(i_ x3)),(4,(i_ x6)),(8,.ptr (Γ.n0 + 1) 0),(9,(Qo p1.zA)),(10,(i_ x3)),(11,(i_ x3)),(12,(b_ (x3 != 0))),(14,.ptr (Γ.n0 + 1) 4),(15,(l_ p1.zC)),(16,.ptr (Γ.n0 + 1) 0),(17,.ptr (Γ.n0 + 1) 1),(18,(i_ p1.zA.zM)),(19,(i_ x6)),(20,(i_ x6)),(21,(b_ (x6 != 0))),(23,.ptr (Γ.n0 + 1) 5),(24,(l_ p1.zB)),(25,.ptr (Γ.n0 + 1) 6),(26,(l_ p1.zD)),(27,.d (.lst 1 (List.map (eL 1 (eI .i64)) [p1.zB,p1.zD]))),(28,(i_ 2)),(29,(i_ 0))],Qr Γ.n0 (bxs [(1,.cells ([(l_ p1.zA.zJ),(i_ p1.zA.zM),(l_ p1.zA.zK),.d (.lst 3 (List.map Qb p1.zA.zL)),(l_ p1.zC),(l_ p1.zB),(l_ p1.zD),(i_ p1.Tick)]))]) M,Γ.n0 + 57⟩; exact Qha 27 [.lst 1 (List.map (eI .i64) p1.zB),.lst 1 (List.map (eI .i64) p1.zD)] rfl rfl ⟨(.same rfl),(fPtr rfl),(.same rfl),(.same rfl),(.same rfl),(fPtr rfl),(.same rfl),(.same rfl),(.same rfl),(.same rfl),(fPtr rfl),(.same rfl),(fPtr rfl),(fPtr rfl),(.same rfl),(.same rfl),(.same rfl),(.same rfl),(fPtr rfl),(.same rfl),(fPtr rfl),(.same rfl),(fSl rfl rfl),(.same rfl),(.same rfl),tv⟩ ⟨⟨_,rfl,rfl,(.same rfl)⟩,tv⟩ rfl) ?_
   refine Tr.loop (mk:=fun (x8:Int)=>⟨look [(1,.ptr (Γ.n0 + 1) 0),(27,.d (.lst 1 (List.map (eL 1 (eI .i64)) [p1.zB,p1.zD]))),(28,(i_ 2)),(29,(i_ x8))],Qr Γ.n0 (bxs [(1,.cells ([(l_ p1.zA.zJ),(i_ p1.zA.zM),(l_ p1.zA.zK),.d (.lst 3 (List.map Qb p1.zA.zL)),(l_ p1.zC),(l_ p1.zB),(l_ p1.zD),(i_ p1.Tick)]))]) M,Γ.n0 + 57⟩) h (by exact Qx ⟨(kPtr rfl),(sm rfl),(sm rfl),(sm rfl),tv⟩ ⟨⟨_,rfl,rfl,(.same rfl)⟩,tv⟩ rfl) (fun k9 z h=>?_)
   ·obtain ⟨x8,rfl⟩ : ∃ x,x = z:=⟨_,rfl⟩
    replace h:_ = some _:=h
    refine sr ((Rn.bin tv rfl rfl rfl (nt ((Tr.seq ?_)))))
    refine Tr.cond rfl (fun hb10=>?_) (fun hb10=>?_)
    ·replace h:=ifT hb10 h
     refine Tr.skip (toN (Tr.seq (Tr.block (Tr.seq (Tr.rgn ?_)))))
     obtain ⟨x11,h12,h⟩:=bnd h
     refine Rn.idxD (e:=(eL 1 (eI .i64))) tv rfl rfl h12 (Rn.loadC (x:=.lst 1 (List.map (eI .i64) x11)) tv rfl (Rn.movTD tv rfl (nt ((sr ((md rfl ?_)))))))
     obtain ⟨x14,h13,h⟩:=bnd h
     refine Rn.call (args:=[(l_ x11),(i_ 32)]) tv rfl (H_alphabet_CheckSet _ _ _ h13) pc9 (md rfl (nt ((sr ((md rfl (Rn.bin tv rfl rfl rfl (Rn.nil (toN ?_)))))))))
     refine Tr.cond rfl (fun hb15=>?_) (fun hb15=>?_)
     ·replace h:=bT hb15 h
      refine sr ((md rfl (md rfl (nt ((Tr.ret ?_))))))
      replace h:=si h; subst h
      exact ⟨.inr rfl,(i_ x14),rfl,fun _ _ _ _ h=>h,tv,fun k hk=>Qf hk⟩
     ·replace h:=bF hb15 h
      refine Tr.skip (toN (Tr.rgn (Rn.bin tv rfl rfl rfl (md rfl (Rn.nil ?_)))))
      exact ⟨_,h,(by exact Qx ⟨(kPtr rfl),(sm rfl),(sm rfl),(sm rfl),tv⟩ ⟨⟨_,rfl,rfl,(.same rfl)⟩,tv⟩ rfl)⟩
    ·replace h:=ifF hb10 h
     refine Tr.exit (toN (Tr.seq (Tr.block (sr ((Rn.fldP (o':=7) tv rfl rfl (Rn.load (v:=(i_ p1.Tick)) tv rfl (Qi rfl) rfl rfl ?_)))))))
     obtain ⟨x17,h16,h⟩:=bnd h
     refine Rn.call (args:=[(i_ p1.Tick)]) tv rfl (H_timedsynthesis_event _ _ h16) pc9 (Rn.un tv rfl rfl (md rfl (Rn.nil (toN ?_))))
     refine Tr.cond rfl (fun hb18=>?_) (fun hb18=>?_)
     ·have hb18:=nT' hb18
      replace h:=bF hb18 h
      refine sr ((md rfl (nt ((Tr.ret ?_)))))
      replace h:=si h; subst h
      exact ⟨.inr rfl,(i_ 2),rfl,fun _ _ _ _ h=>h,tv,fun k hk=>Qf hk⟩
     ·have hb18:=nF' hb18
      replace h:=bT hb18 h
      refine Tr.cutB (fun (x24:Bool)=>⟨look [(44,(b_ x24))],Qr Γ.n0 (bxs [(1,.cells ([(l_ p1.zA.zJ),(i_ p1.zA.zM),(l_ p1.zA.zK),.d (.lst 3 (List.map Qb p1.zA.zL)),(l_ p1.zC),(l_ p1.zB),(l_ p1.zD),(i_ p1.Tick)]))]) M,Γ.n0 + 57⟩) h (fun z h=>?_) (fun z h=>?_)
      ·refine Tr.rgn (Rn.fldP (o':=5) tv rfl rfl (Rn.load (v:=(l_ p1.zB)) tv rfl (Qi rfl) rfl rfl (Rn.fldP (o':=7) tv rfl rfl (Rn.load (v:=(i_ p1.Tick)) tv rfl (Qi rfl) rfl rfl ?_))))
       obtain ⟨x20,h19,h⟩:=bnd h
       refine Rn.call (args:=[(l_ p1.zB),(i_ p1.Tick)]) tv rfl (H_alphabet_Contains _ _ _ h19) pc9 (md rfl ?_)
       refine Q8 x20 (fun hb21=>?_) (fun hb21=>?_)
       ·replace h:=bT hb21 h
        refine Rn.sk (nw rfl hb21) (Rn.sk (nw rfl hb21) (Rn.sk (nw rfl hb21) (Rn.sk (nw rfl hb21) (Rn.sk (nw rfl hb21) (Rn.pickT (v:=(b_ true)) tv rfl hb21 rfl (md rfl (Rn.nil ?_)))))))
        replace h:=si h; subst h
        exact Qn [] ⟨(sm rfl),tv⟩ ⟨⟨_,rfl,rfl,(.same rfl)⟩,tv⟩ rfl
       ·replace h:=bF hb21 h
        refine Rn.fldP (o':=6) (gw rfl hb21) rfl rfl (Rn.load (v:=(l_ p1.zD)) (gw rfl hb21) rfl (Qi rfl) rfl rfl (Rn.fldP (o':=7) (gw rfl hb21) rfl rfl (Rn.load (v:=(i_ p1.Tick)) (gw rfl hb21) rfl (Qi rfl) rfl rfl ?_)))
        obtain ⟨x23,h22,h⟩:=bnd h
        refine Rn.call (args:=[(l_ p1.zD),(i_ p1.Tick)]) (gw rfl hb21) rfl (H_alphabet_Contains _ _ _ h22) pc9 (Rn.pickF (v:=(b_ x23)) tv rfl hb21 rfl (md rfl (Rn.nil ?_)))
        replace h:=si h; subst h
        exact Qn [] ⟨(sm rfl),tv⟩ ⟨⟨_,rfl,rfl,(.same rfl)⟩,tv⟩ rfl
      ·obtain ⟨x24,rfl⟩ : ∃ x,x = z:=⟨_,rfl⟩
       refine Tr.cond rfl (fun hb25=>?_) (fun hb25=>?_)
       ·replace h:=bT hb25 h
        refine sr ((md rfl (nt ((Tr.ret ?_)))))
        replace h:=si h; subst h
        exact ⟨.inr rfl,(i_ 13),rfl,fun _ _ _ _ h=>h,tv,fun k hk=>Qf hk⟩
       ·replace h:=bF hb25 h
        refine Tr.skip (toN (sr ((md rfl (nt ((Tr.ret ?_)))))))
        replace h:=si h; subst h
        exact ⟨.inr rfl,(i_ 0),rfl,fun _ _ _ _ h=>h,tv,fun k hk=>Qf hk⟩
theorem Qvc {P:Program} {c:Nat} {Qh:(List Int)→Int→Option Bool}
    (H_alphabet_Contains:Qbz P 50 Qh) (hcf:Q1 P c = some Qht) (fuel:Nat):Qeh P c (Q2 Qh fuel):=by
 intro p1 r h M nb
 refine Qbkl hcf rfl M nb fun Γ hP hnt hn0 hM=>?_
 subst hP hn0
 refine Tr.init [(0,.agg [(l_ p1.zA.zJ),(i_ p1.zA.zM),(l_ p1.zA.zK),.d (.lst 3 (List.map Qb p1.zA.zL)),(l_ p1.zC),(l_ p1.zB),(l_ p1.zD),(i_ p1.Tick)])] rfl ?_
 unfold Q2 at h
 unfold Qht
 refine sr ((Rn.box (v:=.agg [(l_ p1.zA.zJ),(i_ p1.zA.zM),(l_ p1.zA.zK),.d (.lst 3 (List.map Qb p1.zA.zL)),(l_ p1.zC),(l_ p1.zB),(l_ p1.zD),(i_ p1.Tick)]) (cs:=[(l_ p1.zA.zJ),(i_ p1.zA.zM),(l_ p1.zA.zK),.d (.lst 3 (List.map Qb p1.zA.zL)),(l_ p1.zC),(l_ p1.zB),(l_ p1.zD),(i_ p1.Tick)]) tv rfl rfl rfl rfl rfl (Rn.mov (v:=.nilp) tv rfl (nt ((Tr.seq ?_))))))
 refine Tr.rgnD (by decide) ?_
 refine Rn.load (v:=.agg [(l_ p1.zA.zJ),(i_ p1.zA.zM),(l_ p1.zA.zK),.d (.lst 3 (List.map Qb p1.zA.zL)),(l_ p1.zC),(l_ p1.zB),(l_ p1.zD),(i_ p1.Tick)]) tv rfl (Qi rfl) rfl rfl (Rn.fldP (o':=0) tv rfl rfl (Rn.fldP (o':=1) tv rfl rfl (Rn.load (v:=(i_ p1.zA.zM)) tv rfl (Qi rfl) rfl rfl ?_)))
 obtain ⟨x2,h3,h⟩:=bnd h
 refine Rn.makes (g:=(fun (x:List Qe)=>[V.nils 3])) tv rfl rfl rfl rfl rfl h3 (Rn.fldP (o':=0) tv rfl rfl (Rn.fldP (o':=1) tv rfl rfl (Rn.load (v:=(i_ p1.zA.zM)) tv rfl (Qi rfl) rfl rfl ?_)))
 obtain ⟨x4,h5,h⟩:=bnd h
 refine Rn.makes (g:=(fun (x:Bool)=>[V.d (.bool x)])) tv rfl rfl rfl rfl rfl h5 (Rn.buildT (v:=.agg [(l_ p1.zA.zJ),(i_ p1.zA.zM),(l_ p1.zA.zK),.d (.lst 3 (List.map Qb p1.zA.zL)),(l_ p1.zC),(l_ p1.zB),(l_ p1.zD),(i_ p1.Tick),.sl 1 (Γ.n0 + 11) 0 (Int.toNat p1.zA.zM) (Int.toNat p1.zA.zM),.sl 1 (Γ.n0 + 15) 0 (Int.toNat p1.zA.zM) (Int.toNat p1.zA.zM)]) tv rfl (Rn.box (v:=.agg [(l_ p1.zA.zJ),(i_ p1.zA.zM),(l_ p1.zA.zK),.d (.lst 3 (List.map Qb p1.zA.zL)),(l_ p1.zC),(l_ p1.zB),(l_ p1.zD),(i_ p1.Tick),.sl 1 (Γ.n0 + 11) 0 (Int.toNat p1.zA.zM) (Int.toNat p1.zA.zM),.sl 1 (Γ.n0 + 15) 0 (Int.toNat p1.zA.zM) (Int.toNat p1.zA.zM)]) (cs:=[(l_ p1.zA.zJ),(i_ p1.zA.zM),(l_ p1.zA.zK),.d (.lst 3 (List.map Qb p1.zA.zL)),(l_ p1.zC),(l_ p1.zB),(l_ p1.zD),(i_ p1.Tick),.sl 1 (Γ.n0 + 11) 0 (Int.toNat p1.zA.zM) (Int.toNat p1.zA.zM),.sl 1 (Γ.n0 + 15) 0 (Int.toNat p1.zA.zM) (Int.toNat p1.zA.zM)]) tv rfl rfl rfl rfl rfl (Rn.mov (v:=.ptr (Γ.n0 + 17) 0) tv rfl ?_)))
 refine Rn.nil ⟨rfl,?_⟩
 refine toN ?_
 refine Tr.cutB (fun (c22:List (List Qe))=>⟨look [(1,.ptr (Γ.n0 + 1) 0),(3,.ptr (Γ.n0 + 17) 0)],Qr Γ.n0 (bxs [(1,.cells ([(l_ p1.zA.zJ),(i_ p1.zA.zM),(l_ p1.zA.zK),.d (.lst 3 (List.map Qb p1.zA.zL)),(l_ p1.zC),(l_ p1.zB),(l_ p1.zD),(i_ p1.Tick)])),(11,.cells (Qz (fun (x:List Qe)=>[V.own 3 (List.map Qb x)]) c22)),(15,.cells (Qz (fun (x:Bool)=>[V.d (.bool x)]) x4)),(17,.cells ([(l_ p1.zA.zJ),(i_ p1.zA.zM),(l_ p1.zA.zK),.d (.lst 3 (List.map Qb p1.zA.zL)),(l_ p1.zC),(l_ p1.zB),(l_ p1.zD),(i_ p1.Tick),.sl 1 (Γ.n0 + 11) 0 (Int.toNat p1.zA.zM) (Int.toNat p1.zA.zM),.sl 1 (Γ.n0 + 15) 0 (Int.toNat p1.zA.zM) (Int.toNat p1.zA.zM)]))]) M,Γ.n0 + 66⟩) h (fun z h=>?_) (fun z h=>?_)
 ·refine Tr.seq ?_
  refine Tr.weak (by show WeakSt Γ _ ⟨look [(0,.agg [(l_ p1.zA.zJ),(i_ p1.zA.zM),(l_ p1.zA.zK),.d (.lst 3 (List.map Qb p1.zA.zL)),(l_ p1.zC),(l_ p1.zB),(l_ p1.zD),(i_ p1.Tick)]),(1,.ptr (Γ.n0 + 1) 0),(2,.nilp),(3,.ptr (Γ.n0 + 17) 0),(7,.agg [(l_ p1.zA.zJ),(i_ p1.zA.zM),(l_ p1.zA.zK),.d (.lst 3 (List.map Qb p1.zA.zL)),(l_ p1.zC),(l_ p1.zB),(l_ p1.zD),(i_ p1.Tick)]),(8,.ptr (Γ.n0 + 1) 0),(9,.ptr (Γ.n0 + 1) 1),(10,(i_ p1.zA.zM)),(11,.sl 1 (Γ.n0 + 11) 0 (Int.toNat p1.zA.zM) (Int.toNat p1.zA.zM)),(12,.ptr (Γ.n0 + 1) 0),(13,.ptr (Γ.n0 + 1) 1),(14,(i_ p1.zA.zM)),(15,.sl 1 (Γ.n0 + 15) 0 (Int.toNat p1.zA.zM) (Int.toNat p1.zA.zM)),(16,.agg [(l_ p1.zA.zJ),(i_ p1.zA.zM),(l_ p1.zA.zK),.d (.lst 3 (List.map Qb p1.zA.zL)),(l_ p1.zC),(l_ p1.zB),(l_ p1.zD),(i_ p1.Tick),.sl 1 (Γ.n0 + 11) 0 (Int.toNat p1.zA.zM) (Int.toNat p1.zA.zM),.sl 1 (Γ.n0 + 15) 0 (Int.toNat p1.zA.zM) (Int.toNat p1.zA.zM)]),(17,.ptr (Γ.n0 + 17) 0)],Qr Γ.n0 (bxs [(1,.cells ([(l_ p1.zA.zJ),(i_ p1.zA.zM),(l_ p1.zA.zK),.d (.lst 3 (List.map Qb p1.zA.zL)),(l_ p1.zC),(l_ p1.zB),(l_ p1.zD),(i_ p1.Tick)])),(11,.cells (Qz (fun (x:List Qe)=>[V.own 3 (List.map Qb x)]) x2)),(15,.cells (Qz (fun (x:Bool)=>[V.d (.bool x)]) x4)),(17,.cells ([(l_ p1.zA.zJ),(i_ p1.zA.zM),(l_ p1.zA.zK),.d (.lst 3 (List.map Qb p1.zA.zL)),(l_ p1.zC),(l_ p1.zB),(l_ p1.zD),(i_ p1.Tick),.sl 1 (Γ.n0 + 11) 0 (Int.toNat p1.zA.zM) (Int.toNat p1.zA.zM),.sl 1 (Γ.n0 + 15) 0 (Int.toNat p1.zA.zM) (Int.toNat p1.zA.zM)]))]) M,Γ.n0 + 66⟩; exact Qn [] ⟨(sm rfl),(kPtr rfl),(sm rfl),(kPtr rfl),(sm rfl),(kPtr rfl),(kPtr rfl),(sm rfl),(kSl rfl),(kPtr rfl),(kPtr rfl),(sm rfl),(kSl rfl),(WkV.agg (.cons (sm rfl) (.cons (sm rfl) (.cons (sm rfl) (.cons (sm rfl) (.cons (sm rfl) (.cons (sm rfl) (.cons (sm rfl) (.cons (sm rfl) (.cons (kSl rfl) (.cons (kSl rfl) .nil))))))))))),(kPtr rfl),tv⟩ ⟨⟨_,rfl,rfl,(.same rfl)⟩,⟨_,rfl,rfl,(Qbk3 rfl h3)⟩,⟨_,rfl,rfl,(Qu fun _=>rfl)⟩,⟨_,rfl,rfl,(.cons (sm rfl) (.cons (sm rfl) (.cons (sm rfl) (.cons (sm rfl) (.cons (sm rfl) (.cons (sm rfl) (.cons (sm rfl) (.cons (sm rfl) (.cons (kSl rfl) (.cons (kSl rfl) .nil))))))))))⟩,tv⟩ rfl) ?_
  refine Tr.rgn (Rn.fldP (o':=0) tv rfl rfl (Rn.fldP (o':=3) tv rfl rfl (Rn.load (v:=.d (.lst 3 (List.map Qb p1.zA.zL))) tv rfl (Qi rfl) rfl rfl (Rn.lenD tv rfl (md rfl (nt ((Tr.block ?_))))))))
  refine Tr.loop (mk:=fun ((x6,c7):Int×(List (List Qe)))=>⟨look [(1,.ptr (Γ.n0 + 1) 0),(3,.ptr (Γ.n0 + 17) 0),(20,.d (.lst 3 (List.map Qb p1.zA.zL))),(21,(i_ (p1.zA.zL.length:Int))),(22,(i_ x6))],Qr Γ.n0 (bxs [(1,.cells ([(l_ p1.zA.zJ),(i_ p1.zA.zM),(l_ p1.zA.zK),.d (.lst 3 (List.map Qb p1.zA.zL)),(l_ p1.zC),(l_ p1.zB),(l_ p1.zD),(i_ p1.Tick)])),(11,.cells (Qz (fun (x:List Qe)=>[V.own 3 (List.map Qb x)]) c7)),(15,.cells (Qz (fun (x:Bool)=>[V.d (.bool x)]) x4)),(17,.cells ([(l_ p1.zA.zJ),(i_ p1.zA.zM),(l_ p1.zA.zK),.d (.lst 3 (List.map Qb p1.zA.zL)),(l_ p1.zC),(l_ p1.zB),(l_ p1.zD),(i_ p1.Tick),.sl 1 (Γ.n0 + 11) 0 (Int.toNat p1.zA.zM) (Int.toNat p1.zA.zM),.sl 1 (Γ.n0 + 15) 0 (Int.toNat p1.zA.zM) (Int.toNat p1.zA.zM)]))]) M,Γ.n0 + 66⟩) h (by exact Qx ⟨(kPtr rfl),(kPtr rfl),(sm rfl),(sm rfl),(sm rfl),tv⟩ ⟨⟨_,rfl,rfl,(.same rfl)⟩,⟨_,rfl,rfl,(Qu fun _=>rfl)⟩,⟨_,rfl,rfl,(Qu fun _=>rfl)⟩,⟨_,rfl,rfl,(.cons (sm rfl) (.cons (sm rfl) (.cons (sm rfl) (.cons (sm rfl) (.cons (sm rfl) (.cons (sm rfl) (.cons (sm rfl) (.cons (sm rfl) (.cons (kSl rfl) (.cons (kSl rfl) .nil))))))))))⟩,tv⟩ rfl) (fun k8 z h=>?_)
  ·obtain ⟨x6,c7⟩:=z
   replace h:_ = some _:=h
   refine sr ((Rn.bin tv rfl rfl rfl (nt ((Tr.seq ?_)))))
   refine Tr.cond rfl (fun hb9=>?_) (fun hb9=>?_)
   ·replace h:=ifT hb9 h
    refine Tr.skip (toN (Tr.seq (Tr.block (Tr.seq (Tr.rgn ?_)))))
    obtain ⟨x10,h11,h⟩:=bnd h
    refine Rn.idxD (e:=Qb) tv rfl rfl h11 (Rn.loadCA (vs:=(Qbx x10)) tv rfl rfl rfl (Rn.alloc tv rfl (Rn.store (v:=(Qbv x10)) (cs':=(Qbx x10)) tv rfl rfl rfl rfl rfl rfl (Rn.nil (toN ?_)))))
    refine Tr.rgnD (by decide) ?_
    refine Rn.mov (v:=.ptr (Γ.n0 + 17) 0) tv rfl (Rn.nilchkP tv rfl (Rn.fldP (o':=8) tv rfl rfl (Rn.load (v:=.sl 1 (Γ.n0 + 11) 0 (Int.toNat p1.zA.zM) (Int.toNat p1.zA.zM)) tv rfl (Qi rfl) rfl rfl (Rn.fldP (o':=0) tv rfl rfl (Rn.load (v:=(i_ x10.From)) tv rfl (Qi rfl) rfl rfl (Rn.mov (v:=.ptr (Γ.n0 + 17) 0) tv rfl (Rn.nilchkP tv rfl (Rn.fldP (o':=8) tv rfl rfl (Rn.load (v:=.sl 1 (Γ.n0 + 11) 0 (Int.toNat p1.zA.zM) (Int.toNat p1.zA.zM)) tv rfl (Qi rfl) rfl rfl (Rn.fldP (o':=0) tv rfl rfl (Rn.load (v:=(i_ x10.From)) tv rfl (Qi rfl) rfl rfl ?_)))))))))))
    obtain ⟨⟨⟩,h13,h⟩:=bnd h
    refine Rn.idxA tv rfl rfl h13 ?_
    obtain ⟨x14,h15,h⟩:=bnd h
    refine Rn.loadTA (e:=Qb) tv rfl rfl h15 (Rn.load (v:=(Qbv x10)) tv rfl (Qi rfl) rfl rfl (Rn.bslice (xs:=[(Qbv x10)]) (cs:=(Qbx x10)) tv rfl rfl rfl rfl ?_))
    obtain ⟨x16,h17,h⟩:=bnd h
    refine Rn.app (e:=Qb) tv rfl rfl rfl (Qg2 rfl rfl rfl) h17 rfl ?_
    obtain ⟨⟨⟩,h19,h⟩:=bnd h
    refine Rn.idxA tv rfl rfl h19 ?_
    obtain ⟨x20,h21,h⟩:=bnd h
    refine Rn.storeTA tv rfl rfl rfl h21 ?_
    refine Rn.nil ⟨rfl,?_⟩
    refine toN (Tr.rgn (Rn.bin tv rfl rfl rfl (md rfl (Rn.nil ?_))))
    exact ⟨_,h,(by exact Qx ⟨(kPtr rfl),(kPtr rfl),(sm rfl),(sm rfl),(sm rfl),tv⟩ ⟨⟨_,rfl,rfl,(.same rfl)⟩,⟨_,rfl,rfl,(Qu fun _=>rfl)⟩,⟨_,rfl,rfl,(Qu fun _=>rfl)⟩,⟨_,rfl,rfl,(.cons (sm rfl) (.cons (sm rfl) (.cons (sm rfl) (.cons (sm rfl) (.cons (sm rfl) (.cons (sm rfl) (.cons (sm rfl) (.cons (sm rfl) (.cons (kSl rfl) (.cons (kSl rfl) .nil))))))))))⟩,tv⟩ rfl)⟩
   ·replace h:=ifF hb9 h
    refine Tr.exit ?_
    replace h:=si h; subst h
    exact Qn [] ⟨(kPtr rfl),(kPtr rfl),tv⟩ ⟨⟨_,rfl,rfl,(.same rfl)⟩,⟨_,rfl,rfl,(Qu fun _=>rfl)⟩,⟨_,rfl,rfl,(Qu fun _=>rfl)⟩,⟨_,rfl,rfl,(.cons (sm rfl) (.cons (sm rfl) (.cons (sm rfl) (.cons (sm rfl) (.cons (sm rfl) (.cons (sm rfl) (.cons (sm rfl) (.cons (sm rfl) (.cons (kSl rfl) (.cons (kSl rfl) .nil))))))))))⟩,tv⟩ rfl
 ·obtain ⟨c22,rfl⟩ : ∃ x,x = z:=⟨_,rfl⟩
  refine Tr.cutB (fun (c33:List Bool)=>⟨look [(3,.ptr (Γ.n0 + 17) 0)],Qr Γ.n0 (bxs [(1,.cells ([(l_ p1.zA.zJ),(i_ p1.zA.zM),(l_ p1.zA.zK),.d (.lst 3 (List.map Qb p1.zA.zL)),(l_ p1.zC),(l_ p1.zB),(l_ p1.zD),(i_ p1.Tick)])),(11,.cells (Qz (fun (x:List Qe)=>[V.own 3 (List.map Qb x)]) c22)),(15,.cells (Qz (fun (x:Bool)=>[V.d (.bool x)]) c33)),(17,.cells ([(l_ p1.zA.zJ),(i_ p1.zA.zM),(l_ p1.zA.zK),.d (.lst 3 (List.map Qb p1.zA.zL)),(l_ p1.zC),(l_ p1.zB),(l_ p1.zD),(i_ p1.Tick),.sl 1 (Γ.n0 + 11) 0 (Int.toNat p1.zA.zM) (Int.toNat p1.zA.zM),.sl 1 (Γ.n0 + 15) 0 (Int.toNat p1.zA.zM) (Int.toNat p1.zA.zM)]))]) M,Γ.n0 + 66⟩) h (fun z h=>?_) (fun z h=>?_)
  ·refine sr ((Rn.mov (v:=.ptr (Γ.n0 + 17) 0) tv rfl (Rn.nilchkP tv rfl (Rn.fldP (o':=9) tv rfl rfl (Rn.load (v:=.sl 1 (Γ.n0 + 15) 0 (Int.toNat p1.zA.zM) (Int.toNat p1.zA.zM)) tv rfl (Qi rfl) rfl rfl (Rn.lenA tv rfl (md rfl (nt ((Tr.block ?_))))))))))
   refine Tr.loop (mk:=fun ((x23,c24):Int×(List Bool))=>⟨look [(1,.ptr (Γ.n0 + 1) 0),(3,.ptr (Γ.n0 + 17) 0),(49,(i_ ((Int.toNat p1.zA.zM):Int))),(50,(i_ x23))],Qr Γ.n0 (bxs [(1,.cells ([(l_ p1.zA.zJ),(i_ p1.zA.zM),(l_ p1.zA.zK),.d (.lst 3 (List.map Qb p1.zA.zL)),(l_ p1.zC),(l_ p1.zB),(l_ p1.zD),(i_ p1.Tick)])),(11,.cells (Qz (fun (x:List Qe)=>[V.own 3 (List.map Qb x)]) c22)),(15,.cells (Qz (fun (x:Bool)=>[V.d (.bool x)]) c24)),(17,.cells ([(l_ p1.zA.zJ),(i_ p1.zA.zM),(l_ p1.zA.zK),.d (.lst 3 (List.map Qb p1.zA.zL)),(l_ p1.zC),(l_ p1.zB),(l_ p1.zD),(i_ p1.Tick),.sl 1 (Γ.n0 + 11) 0 (Int.toNat p1.zA.zM) (Int.toNat p1.zA.zM),.sl 1 (Γ.n0 + 15) 0 (Int.toNat p1.zA.zM) (Int.toNat p1.zA.zM)]))]) M,Γ.n0 + 66⟩) h (by exact Qx ⟨(kPtr rfl),(kPtr rfl),(sm rfl),(sm rfl),tv⟩ ⟨⟨_,rfl,rfl,(.same rfl)⟩,⟨_,rfl,rfl,(Qu fun _=>rfl)⟩,⟨_,rfl,rfl,(Qu fun _=>rfl)⟩,⟨_,rfl,rfl,(.cons (sm rfl) (.cons (sm rfl) (.cons (sm rfl) (.cons (sm rfl) (.cons (sm rfl) (.cons (sm rfl) (.cons (sm rfl) (.cons (sm rfl) (.cons (kSl rfl) (.cons (kSl rfl) .nil))))))))))⟩,tv⟩ rfl) (fun k25 z h=>?_)
   ·obtain ⟨x23,c24⟩:=z
    replace h:_ = some _:=h
    refine sr ((Rn.bin tv rfl rfl rfl (nt ((Tr.seq ?_)))))
    refine Tr.cond rfl (fun hb26=>?_) (fun hb26=>?_)
    ·replace h:=ifT hb26 h
     refine Tr.skip (toN (Tr.seq (Tr.block (sr ((md rfl (md rfl (Rn.nil (toN ?_)))))))))
     refine Tr.rgnD (by decide) ?_
     refine Rn.mov (v:=.ptr (Γ.n0 + 17) 0) tv rfl (Rn.nilchkP tv rfl (Rn.fldP (o':=9) tv rfl rfl (Rn.load (v:=.sl 1 (Γ.n0 + 15) 0 (Int.toNat p1.zA.zM) (Int.toNat p1.zA.zM)) tv rfl (Qi rfl) rfl rfl (md rfl (Rn.fldP (o':=4) tv rfl rfl (Rn.load (v:=(l_ p1.zC)) tv rfl (Qi rfl) rfl rfl (md rfl ?_)))))))
     obtain ⟨x28,h27,h⟩:=bnd h
     refine Rn.call (args:=[(l_ p1.zC),(i_ x23)]) tv rfl (H_alphabet_Contains _ _ _ h27) (fun _=>Qbd0 hM rfl) (Rn.un tv rfl rfl ?_)
     obtain ⟨⟨⟩,h30,h⟩:=bnd h
     refine Rn.idxA tv rfl rfl h30 ?_
     obtain ⟨x31,h32,h⟩:=bnd h
     refine Rn.storeA (g:=(fun (x:Bool)=>[V.d (.bool x)])) (v:=(b_ (!x28))) (fun _=>rfl) tv rfl rfl rfl rfl rfl h32 ?_
     refine Rn.nil ⟨rfl,?_⟩
     refine toN (Tr.rgn (Rn.bin tv rfl rfl rfl (md rfl (Rn.nil ?_))))
     exact ⟨_,h,(by exact Qx ⟨(kPtr rfl),(kPtr rfl),(sm rfl),(sm rfl),tv⟩ ⟨⟨_,rfl,rfl,(.same rfl)⟩,⟨_,rfl,rfl,(Qu fun _=>rfl)⟩,⟨_,rfl,rfl,(Qu fun _=>rfl)⟩,⟨_,rfl,rfl,(.cons (sm rfl) (.cons (sm rfl) (.cons (sm rfl) (.cons (sm rfl) (.cons (sm rfl) (.cons (sm rfl) (.cons (sm rfl) (.cons (sm rfl) (.cons (kSl rfl) (.cons (kSl rfl) .nil))))))))))⟩,tv⟩ rfl)⟩
    ·replace h:=ifF hb26 h
     refine Tr.exit ?_
     replace h:=si h; subst h
     exact Qn [] ⟨(kPtr rfl),tv⟩ ⟨⟨_,rfl,rfl,(.same rfl)⟩,⟨_,rfl,rfl,(Qu fun _=>rfl)⟩,⟨_,rfl,rfl,(Qu fun _=>rfl)⟩,⟨_,rfl,rfl,(.cons (sm rfl) (.cons (sm rfl) (.cons (sm rfl) (.cons (sm rfl) (.cons (sm rfl) (.cons (sm rfl) (.cons (sm rfl) (.cons (sm rfl) (.cons (kSl rfl) (.cons (kSl rfl) .nil))))))))))⟩,tv⟩ rfl
  ·obtain ⟨c33,rfl⟩ : ∃ x,x = z:=⟨_,rfl⟩
   refine sr ((Rn.mov (v:=.ptr (Γ.n0 + 17) 0) tv rfl (Rn.mov (v:=.ptr (Γ.n0 + 17) 0) tv rfl (Rn.nil (toN ?_)))))
   refine Tr.weak (by show WeakSt Γ _ ⟨look [(2,.ptr (Γ.n0 + 17) 0),(3,.ptr (Γ.n0 + 17) 0),(65,.ptr (Γ.n0 + 17) 0)],Qr Γ.n0 (bxs [(1,.cells ([(l_ p1.zA.zJ),(i_ p1.zA.zM),(l_ p1.zA.zK),.d (.lst 3 (List.map Qb p1.zA.zL)),(l_ p1.zC),(l_ p1.zB),(l_ p1.zD),(i_ p1.Tick)])),(11,.cells (Qz (fun (x:List Qe)=>[V.d (.lst 3 (List.map Qb x))]) c22)),(15,.cells (Qz (fun (x:Bool)=>[V.d (.bool x)]) c33)),(17,.cells ([(l_ p1.zA.zJ),(i_ p1.zA.zM),(l_ p1.zA.zK),.d (.lst 3 (List.map Qb p1.zA.zL)),(l_ p1.zC),(l_ p1.zB),(l_ p1.zD),(i_ p1.Tick),.sl 1 (Γ.n0 + 11) 0 (Int.toNat p1.zA.zM) (Int.toNat p1.zA.zM),.sl 1 (Γ.n0 + 15) 0 (Int.toNat p1.zA.zM) (Int.toNat p1.zA.zM)]))]) M,Γ.n0 + 66⟩; exact Qn [] ⟨(kPtr rfl),(kPtr rfl),(kPtr rfl),tv⟩ ⟨⟨_,rfl,rfl,(.same rfl)⟩,⟨_,rfl,rfl,(Qbk4 fun _=>rfl)⟩,⟨_,rfl,rfl,(Qu fun _=>rfl)⟩,⟨_,rfl,rfl,(.cons (sm rfl) (.cons (sm rfl) (.cons (sm rfl) (.cons (sm rfl) (.cons (sm rfl) (.cons (sm rfl) (.cons (sm rfl) (.cons (sm rfl) (.cons (kSl rfl) (.cons (kSl rfl) .nil))))))))))⟩,tv⟩ rfl) ?_
   refine Tr.ret ?_
   obtain ⟨⟨⟩,hl34,h⟩:=bnd h
   obtain ⟨⟨⟩,hl35,h⟩:=bnd h
   replace h:=si h; subst h
   exact ⟨.inr rfl,_,rfl,fun _ _ _ _ h=>h,(show There _ _ from thN rfl),⟨⟨tv,tv,tv,tv,tv,tv,tv,tv,(show There _ _ from thN rfl),(show There _ _ from thN rfl),tv⟩,Q57 (g:=(fun (x:List Qe)=>[V.d (.lst 3 (List.map Qb x))])) (fun _=>⟨tv,tv⟩) _,Q57 (g:=(fun (x:Bool)=>[V.d (.bool x)])) (fun _=>⟨tv,tv⟩) _,tv⟩,fun k hk=>Qf hk,lrAt ⟨(by show Qr Γ.n0 _ M (Γ.n0 + 17) = some (.cells [(l_ p1.zA.zJ),(i_ p1.zA.zM),(l_ p1.zA.zK),.d (.lst 3 (List.map Qb p1.zA.zL)),(l_ p1.zC),(l_ p1.zB),(l_ p1.zD),(i_ p1.Tick),.sl 1 (Γ.n0 + 11) 0 c22.length c22.length,.sl 1 (Γ.n0 + 15) 0 c33.length c33.length]); rw [Qd4 hl34,Qd4 hl35]; exact Qi rfl),Qi rfl,Qi rfl,tv⟩,rfl⟩
theorem Ql4 {P:Program} {c:Nat} (hcf:Q1 P c = some Qer):Qeq P c (Qbf):=by
 intro x1 x2 k3 k5 k7 k9 r h
 intro M nb hk4 hk6 hk8 hk10
 refine Qg8 hcf rfl M nb fun Γ hP hnt hn0 hM=>?_
 subst hP hn0
 refine Tr.init [(0,(Qbv x1)),(1,.ptr k3 0)] rfl ?_
 unfold Qbf at h
 unfold Qer
 refine sr ((Rn.box (v:=(Qbv x1)) (cs:=(Qbx x1)) tv rfl rfl rfl rfl rfl (md rfl (nt ((Tr.seq ?_))))))
 refine Tr.rgnD (by decide) ?_
 refine Rn.fldP (o':=1) tv rfl rfl (Rn.load (v:=(i_ x1.Event)) tv rfl (Qi rfl) rfl rfl (Rn.load (v:=.ptr k5 0) tv rfl (Qk hM hk4) rfl rfl (Rn.nilchkP tv rfl (Rn.fldP (o':=0) tv rfl rfl (Rn.fldP (o':=7) tv rfl rfl (Rn.load (v:=(i_ x2.zN.Tick)) tv rfl (Qk hM hk6) rfl rfl (Rn.bin tv rfl rfl rfl (md rfl ?_))))))))
 refine Q8 (x1.Event == x2.zN.Tick) (fun hb11=>?_) (fun hb11=>?_)
 ·replace h:=bT hb11 h
  refine Rn.load (v:=.ptr k5 0) (gw rfl hb11) rfl (Qk hM hk4) rfl rfl (Rn.nilchkP (gw rfl hb11) rfl (Rn.fldP (o':=9) (gw rfl hb11) rfl rfl (Rn.load (v:=.sl 1 k9 0 x2.left_.length x2.left_.length) (gw rfl hb11) rfl (Qk hM hk6) rfl rfl (Rn.fldP (o':=2) (gw rfl hb11) rfl rfl (Rn.load (v:=(i_ x1.To)) (gw rfl hb11) rfl (Qi rfl) rfl rfl ?_)))))
  obtain ⟨⟨⟩,h13,h⟩:=bnd h
  refine Rn.idxA (gw rfl hb11) rfl rfl h13 ?_
  obtain ⟨x14,h15,h⟩:=bnd h
  refine Rn.loadA (g:=(fun (x:Bool)=>[V.d (.bool x)])) (v:=(b_ x14)) (f:=0) (fun _=>rfl) (gw rfl hb11) rfl (Qk hM hk10) h15 rfl rfl (Rn.un (gw rfl hb11) rfl rfl (Rn.pickT (v:=(b_ (!x14))) tv rfl hb11 rfl (md rfl ?_)))
  refine Rn.nil ⟨rfl,?_⟩
  refine toN (Tr.ret ?_)
  replace h:=si h; subst h
  exact ⟨.inr rfl,(b_ (!x14)),rfl,fun _ _ _ _ h=>h,tv,fun k hk=>Qf hk⟩
 ·replace h:=bF hb11 h
  refine Rn.sk (nw rfl hb11) (Rn.sk (nw rfl hb11) (Rn.sk (nw rfl hb11) (Rn.sk (nw rfl hb11) (Rn.sk (nw rfl hb11) (Rn.sk (nw rfl hb11) (Rn.sk (nw rfl hb11) (Rn.sk (nw rfl hb11) (Rn.sk (nw rfl hb11) (Rn.pickF (v:=(b_ false)) tv rfl hb11 rfl (md rfl ?_))))))))))
  refine Rn.nil ⟨rfl,?_⟩
  refine toN (Tr.ret ?_)
  replace h:=si h; subst h
  exact ⟨.inr rfl,(b_ false),rfl,fun _ _ _ _ h=>h,tv,fun k hk=>Qf hk⟩
theorem Qs7 {P:Program} {c:Nat} (hcf:Q1 P c = some Qhc) (fuel:Nat):Qhb P c (Qb7 fuel):=by
 intro s1 f2 g3 cp4 r h
 intro M nb hc5 ho7 hf6
 refine Qg8 hcf rfl M nb fun Γ hP hnt hn0 hM=>?_
 subst hP hn0
 refine Tr.init [(0,.d (.lst 3 (List.map Qb s1))),(1,.clo g3 cp4)] rfl ?_
 unfold Qb7 at h
 unfold Qhc
 refine sr ((md rfl (nt ((Tr.seq (sr ((md rfl (Rn.lenD tv rfl (md rfl (nt ((Tr.block ?_)))))))))))))
 refine Tr.loop (mk:=fun (x9:Int)=>⟨look [(0,.d (.lst 3 (List.map Qb s1))),(1,.clo g3 cp4),(7,(i_ (s1.length:Int))),(8,(i_ x9))],Qr Γ.n0 (bxs []) M,Γ.n0 + 19⟩) h (by exact Qx ⟨(sm rfl),(kFun hM ho7),(sm rfl),(sm rfl),tv⟩ tv rfl) (fun k10 z h=>?_)
 ·obtain ⟨x9,rfl⟩ : ∃ x,x = z:=⟨_,rfl⟩
  replace h:_ = some _:=h
  refine sr ((Rn.bin tv rfl rfl rfl (nt ((Tr.seq ?_)))))
  refine Tr.cond rfl (fun hb11=>?_) (fun hb11=>?_)
  ·replace h:=ifT hb11 h
   refine Tr.skip (toN (Tr.seq (Tr.block (sr ((md rfl (md rfl (nt ((sr ((Rn.mov (v:=.clo g3 cp4) tv rfl (md rfl (md rfl ?_))))))))))))))
   obtain ⟨x12,h13,h⟩:=bnd h
   refine Rn.idxD (e:=Qb) tv rfl rfl h13 (Rn.loadCA (vs:=(Qbx x12)) tv rfl rfl rfl ?_)
   obtain ⟨x15,h14,h⟩:=bnd h
   refine Rn.callvM (args:=[(Qbv x12)] ++ cp4) tv rfl (by rw [hc5]; rfl) (fun M2 nb2 hn hx=>hf6 _ _ h14 M2 nb2 (by omega) ((Q02 hM).trans hx)) rfl pc9 ?_
   refine Rn.nil (toN ?_)
   refine Tr.cond rfl (fun hb16=>?_) (fun hb16=>?_)
   ·replace h:=bT hb16 h
    refine sr ((md rfl (md rfl (nt ((Tr.ret ?_))))))
    replace h:=si h; subst h
    exact ⟨.inr rfl,(i_ x9),rfl,fun _ _ _ _ h=>h,tv,fun k hk=>Qf hk⟩
   ·replace h:=bF hb16 h
    refine Tr.skip (toN (Tr.rgn (Rn.bin tv rfl rfl rfl (md rfl (Rn.nil ?_)))))
    exact ⟨_,h,(by exact Qx ⟨(sm rfl),(kFun hM ho7),(sm rfl),(sm rfl),tv⟩ tv rfl)⟩
  ·replace h:=ifF hb11 h
   refine Tr.exit (toN (sr ((md rfl (nt ((Tr.ret ?_)))))))
   replace h:=si h; subst h
   exact ⟨.inr rfl,(i_ (-1)),rfl,fun _ _ _ _ h=>h,tv,fun k hk=>Qf hk⟩
theorem Qql {P:Program} {c:Nat} {Qb7:(List Qe)→(Qe→Option Bool)→Option Int}
    (H_slices_IndexFunc_Edge:Qhb P 71 Qb7) (hcf:Q1 P c = some Qf5):Qch P c (Ql Qb7):=by
 intro s1 f2 g3 cp4 r h
 intro M nb hc5 ho7 hf6
 refine Qg8 hcf rfl M nb fun Γ hP hnt hn0 hM=>?_
 subst hP hn0
 refine Tr.init [(0,.d (.lst 3 (List.map Qb s1))),(1,.clo g3 cp4)] rfl ?_
 unfold Ql at h
 unfold Qf5
 refine sr ((md rfl (nt ((sr ((md rfl (Rn.mov (v:=.clo g3 cp4) tv rfl ?_))))))))
 obtain ⟨x13,h12,h⟩:=bnd h
 refine Rn.callM (args:=[.d (.lst 3 (List.map Qb s1)),.clo g3 cp4]) tv rfl (fun M2 nb2 hn hx=>H_slices_IndexFunc_Edge _ _ g3 cp4 _ h12 M2 nb2 hc5 (Qbgf ((Q02 hM).trans hx) ho7) (fun a9 r10 h11 M3 nb3 hn3 hx3=>hf6 a9 r10 h11 M3 nb3 (by omega) ((Q02 hM).trans (hx.trans hx3)))) rfl pc9 ?_
 refine Rn.bin tv rfl rfl rfl (md rfl (nt ((Tr.ret ?_))))
 replace h:=si h; subst h
 exact ⟨.inr rfl,(b_ (decide (x13≥0))),rfl,fun _ _ _ _ h=>h,tv,fun k hk=>Qf hk⟩
theorem Ql5 {P:Program} {c:Nat} {Qh:(List Int)→Int→Option Bool}
    (H_alphabet_Contains:Qbz P 50 Qh) (hcf:Q1 P c = some Qet):Qes P c (Qbg Qh):=by
 intro x1 x2 k3 k5 k7 k9 r h
 intro M nb hk4 hk6 hk8 hk10
 refine Qg8 hcf rfl M nb fun Γ hP hnt hn0 hM=>?_
 subst hP hn0
 refine Tr.init [(0,(Qbv x1)),(1,.ptr k3 0)] rfl ?_
 unfold Qbg at h
 unfold Qet
 refine sr ((Rn.box (v:=(Qbv x1)) (cs:=(Qbx x1)) tv rfl rfl rfl rfl rfl (md rfl (nt ((Tr.seq ?_))))))
 refine Tr.rgnD (by decide) ?_
 refine Rn.load (v:=.ptr k5 0) tv rfl (Qk hM hk4) rfl rfl (Rn.nilchkP tv rfl (Rn.fldP (o':=9) tv rfl rfl (Rn.load (v:=.sl 1 k9 0 x2.left_.length x2.left_.length) tv rfl (Qk hM hk6) rfl rfl (Rn.fldP (o':=2) tv rfl rfl (Rn.load (v:=(i_ x1.To)) tv rfl (Qi rfl) rfl rfl ?_)))))
 obtain ⟨⟨⟩,h12,h⟩:=bnd h
 refine Rn.idxA tv rfl rfl h12 ?_
 obtain ⟨x13,h14,h⟩:=bnd h
 refine Rn.loadA (g:=(fun (x:Bool)=>[V.d (.bool x)])) (v:=(b_ x13)) (f:=0) (fun _=>rfl) tv rfl (Qk hM hk10) h14 rfl rfl (md rfl ?_)
 refine Q8 x13 (fun hb15=>?_) (fun hb15=>?_)
 ·replace h:=bT hb15 h
  refine Rn.load (v:=.ptr k5 0) (gw rfl hb15) rfl (Qk hM hk4) rfl rfl (Rn.nilchkP (gw rfl hb15) rfl (Rn.fldP (o':=0) (gw rfl hb15) rfl rfl (Rn.fldP (o':=6) (gw rfl hb15) rfl rfl (Rn.load (v:=(l_ x2.zN.zD)) (gw rfl hb15) rfl (Qk hM hk6) rfl rfl (Rn.fldP (o':=1) (gw rfl hb15) rfl rfl (Rn.load (v:=(i_ x1.Event)) (gw rfl hb15) rfl (Qi rfl) rfl rfl ?_))))))
  obtain ⟨x17,h16,h⟩:=bnd h
  refine Rn.call (args:=[(l_ x2.zN.zD),(i_ x1.Event)]) (gw rfl hb15) rfl (H_alphabet_Contains _ _ _ h16) pc0 (Rn.pickT (v:=(b_ x17)) tv rfl hb15 rfl (md rfl ?_))
  refine Rn.nil ⟨rfl,?_⟩
  refine toN (Tr.ret ?_)
  replace h:=si h; subst h
  exact ⟨.inr rfl,(b_ x17),rfl,fun _ _ _ _ h=>h,tv,fun k hk=>Qf hk⟩
 ·replace h:=bF hb15 h
  refine Rn.sk (nw rfl hb15) (Rn.sk (nw rfl hb15) (Rn.sk (nw rfl hb15) (Rn.sk (nw rfl hb15) (Rn.sk (nw rfl hb15) (Rn.sk (nw rfl hb15) (Rn.sk (nw rfl hb15) (Rn.sk (nw rfl hb15) (Rn.pickF (v:=(b_ false)) tv rfl hb15 rfl (md rfl ?_)))))))))
  refine Rn.nil ⟨rfl,?_⟩
  refine toN (Tr.ret ?_)
  replace h:=si h; subst h
  exact ⟨.inr rfl,(b_ false),rfl,fun _ _ _ _ h=>h,tv,fun k hk=>Qf hk⟩
theorem Qnd {P:Program} {c:Nat} {Ql:(List Qe)→(Qe→Option Bool)→Option Bool} {Qbg:Qe→Qd→Option Bool}
    (H_slices_ContainsFunc_Edge:Qch P 40 Ql)
    (H_timedsynthesis_task_forces_1:Qes P 97 Qbg) (hcf:Q1 P c = some Qfg):Qff P c (Qbo Ql Qbg):=by
 intro t1 state8 k2 k4 k6 r h
 intro M nb hk3 hk5 hk7
 refine Qg8 hcf rfl M nb fun Γ hP hnt hn0 hM=>?_
 subst hP hn0
 refine Tr.init [(0,.ptr k2 0),(1,(i_ state8))] rfl ?_
 unfold Qbo at h
 unfold Qfg
 refine sr ((Rn.box (v:=.ptr k2 0) (cs:=[.ptr k2 0]) tv rfl rfl rfl rfl rfl (md rfl (nt ((sr ((Rn.load (v:=.ptr k2 0) tv rfl (Qi rfl) rfl rfl (Rn.nilchkP tv rfl (Rn.fldP (o':=8) tv rfl rfl (Rn.load (v:=.sl 1 k4 0 t1.from_.length t1.from_.length) tv rfl (Qk hM hk3) rfl rfl (md rfl ?_))))))))))))
 obtain ⟨⟨⟩,h10,h⟩:=bnd h
 refine Rn.idxA tv rfl rfl h10 ?_
 obtain ⟨x11,h12,h⟩:=bnd h
 refine Rn.loadA (g:=(fun (x:List Qe)=>[V.d (.lst 3 (List.map Qb x))])) (v:=.d (.lst 3 (List.map Qb x11))) (f:=0) (fun _=>rfl) tv rfl (Qk hM hk5) h12 rfl rfl (Rn.k (v:=.clo 97 [.ptr (Γ.n0 + 2) 0]) tv rfl rfl rfl ?_)
 obtain ⟨x17,h16,h⟩:=bnd h
 refine Rn.callM (args:=[.d (.lst 3 (List.map Qb x11)),.clo 97 [.ptr (Γ.n0 + 2) 0]]) tv rfl (fun M2 nb2 hn hx=>H_slices_ContainsFunc_Edge _ _ 97 [.ptr (Γ.n0 + 2) 0] _ h16 M2 nb2 rfl ⟨Qfq (hx _ _ (Qi rfl)),tv⟩ (fun a13 r14 h15 M3 nb3 hn3 hx3=>H_timedsynthesis_task_forces_1 a13 t1 (Γ.n0 + 2) k2 k4 k6 r14 h15 M3 nb3 ((hx.trans hx3) _ _ (Qi rfl)) ((hx.trans hx3) _ _ (Qk hM hk3)) ((hx.trans hx3) _ _ (Qk hM hk5)) ((hx.trans hx3) _ _ (Qk hM hk7)))) rfl pc9 ?_
 refine md rfl (nt ((Tr.ret ?_)))
 replace h:=si h; subst h
 exact ⟨.inr rfl,(b_ x17),rfl,fun _ _ _ _ h=>h,tv,fun k hk=>Qf hk⟩
theorem Qne {P:Program} {c:Nat} {Ql:(List Qe)→(Qe→Option Bool)→Option Bool} {Qh:(List Int)→Int→Option Bool} {Qbf:Qe→Qd→Option Bool} {Qbo:Qd→Int→Option Bool}
    (H_slices_ContainsFunc_Edge:Qch P 40 Ql)
    (H_alphabet_Contains:Qbz P 50 Qh)
    (H_timedsynthesis_task_escape_1:Qeq P 76 Qbf)
    (H_timedsynthesis_task_forces:Qff P 77 Qbo) (hcf:Q1 P c = some Qfh) (fuel:Nat):Qdb P c (Qs Ql Qh Qbf Qbo fuel):=by
 intro t1 state8 k2 k4 k6 r h
 intro M nb hk3 hk5 hk7
 refine Qg8 hcf rfl M nb fun Γ hP hnt hn0 hM=>?_
 subst hP hn0
 refine Tr.init [(0,.ptr k2 0),(1,(i_ state8))] rfl ?_
 unfold Qs at h
 unfold Qfh
 refine sr ((Rn.box (v:=.ptr k2 0) (cs:=[.ptr k2 0]) tv rfl rfl rfl rfl rfl (md rfl (md rfl (nt ((Tr.seq (sr ((Rn.load (v:=.ptr k2 0) tv rfl (Qi rfl) rfl rfl (Rn.nilchkP tv rfl (Rn.fldP (o':=8) tv rfl rfl (Rn.load (v:=.sl 1 k4 0 t1.from_.length t1.from_.length) tv rfl (Qk hM hk3) rfl rfl (md rfl ?_))))))))))))))
 obtain ⟨⟨⟩,h10,h⟩:=bnd h
 refine Rn.idxA tv rfl rfl h10 ?_
 obtain ⟨x11,h12,h⟩:=bnd h
 refine Rn.loadA (g:=(fun (x:List Qe)=>[V.d (.lst 3 (List.map Qb x))])) (v:=.d (.lst 3 (List.map Qb x11))) (f:=0) (fun _=>rfl) tv rfl (Qk hM hk5) h12 rfl rfl (Rn.lenD tv rfl (md rfl (nt ((Tr.block ?_)))))
 refine Tr.loop (mk:=fun (x13:Int)=>⟨look [(1,(i_ state8)),(2,.ptr (Γ.n0 + 2) 0),(15,.d (.lst 3 (List.map Qb x11))),(16,(i_ (x11.length:Int))),(17,(i_ x13))],Qr Γ.n0 (bxs [(2,.cells ([.ptr k2 0]))]) M,Γ.n0 + 64⟩) h (by exact Qx ⟨(sm rfl),(kPtr rfl),(sm rfl),(sm rfl),(sm rfl),tv⟩ ⟨⟨_,rfl,rfl,(.cons (Qcg (ltB hM hk3)) .nil)⟩,tv⟩ rfl) (fun k14 z h=>?_)
 ·obtain ⟨x13,rfl⟩ : ∃ x,x = z:=⟨_,rfl⟩
  replace h:_ = some _:=h
  refine sr ((Rn.bin tv rfl rfl rfl (nt ((Tr.seq ?_)))))
  refine Tr.cond rfl (fun hb15=>?_) (fun hb15=>?_)
  ·replace h:=ifT hb15 h
   refine Tr.skip (toN (Tr.seq (Tr.block (Tr.seq (Tr.rgn ?_)))))
   obtain ⟨x16,h17,h⟩:=bnd h
   refine Rn.idxD (e:=Qb) tv rfl rfl h17 (Rn.loadCA (vs:=(Qbx x16)) tv rfl rfl rfl (Rn.alloc tv rfl (Rn.store (v:=(Qbv x16)) (cs':=(Qbx x16)) tv rfl rfl rfl rfl rfl rfl (Rn.nil (toN ?_)))))
   refine Tr.cutB (fun (x25:Bool)=>⟨look [(1,(i_ state8)),(2,.ptr (Γ.n0 + 2) 0),(7,.ptr (Γ.n0 + 7) 0),(15,.d (.lst 3 (List.map Qb x11))),(16,(i_ (x11.length:Int))),(17,(i_ x13)),(39,(b_ x25))],Qr Γ.n0 (bxs [(2,.cells ([.ptr k2 0])),(7,.cells ((Qbx x16)))]) M,Γ.n0 + 64⟩) h (fun z h=>?_) (fun z h=>?_)
   ·refine Tr.rgnD (by decide) ?_
    refine Rn.load (v:=.ptr k2 0) tv rfl (Qi rfl) rfl rfl (Rn.nilchkP tv rfl (Rn.fldP (o':=9) tv rfl rfl (Rn.load (v:=.sl 1 k6 0 t1.left_.length t1.left_.length) tv rfl (Qk hM hk3) rfl rfl (Rn.fldP (o':=2) tv rfl rfl (Rn.load (v:=(i_ x16.To)) tv rfl (Qi rfl) rfl rfl ?_)))))
    obtain ⟨⟨⟩,h19,h⟩:=bnd h
    refine Rn.idxA tv rfl rfl h19 ?_
    obtain ⟨x20,h21,h⟩:=bnd h
    refine Rn.loadA (g:=(fun (x:Bool)=>[V.d (.bool x)])) (v:=(b_ x20)) (f:=0) (fun _=>rfl) tv rfl (Qk hM hk7) h21 rfl rfl (Rn.un tv rfl rfl (md rfl ?_))
    refine Q8 x20 (fun hb22=>?_) (fun hb22=>?_)
    ·replace h:=bT hb22 h
     refine Rn.sk (nw rfl (nT hb22)) (Rn.sk (nw rfl (nT hb22)) (Rn.sk (nw rfl (nT hb22)) (Rn.sk (nw rfl (nT hb22)) (Rn.sk (nw rfl (nT hb22)) (Rn.sk (nw rfl (nT hb22)) (Rn.sk (nw rfl (nT hb22)) (Rn.sk (nw rfl (nT hb22)) (Rn.pickF (v:=(b_ false)) tv rfl (nT hb22) rfl ?_))))))))
     refine Rn.nil ⟨rfl,?_⟩
     replace h:=si h; subst h
     exact Qn [] ⟨(sm rfl),(kPtr rfl),(kPtr rfl),(sm rfl),(sm rfl),(sm rfl),(sm rfl),tv⟩ ⟨⟨_,rfl,rfl,(.cons (Qcg (ltB hM hk3)) .nil)⟩,⟨_,rfl,rfl,(.same rfl)⟩,tv⟩ rfl
    ·replace h:=bF hb22 h
     refine Rn.load (v:=.ptr k2 0) (gw rfl (nF hb22)) rfl (Qi rfl) rfl rfl (Rn.nilchkP (gw rfl (nF hb22)) rfl (Rn.fldP (o':=0) (gw rfl (nF hb22)) rfl rfl (Rn.fldP (o':=5) (gw rfl (nF hb22)) rfl rfl (Rn.load (v:=(l_ t1.zN.zB)) (gw rfl (nF hb22)) rfl (Qk hM hk3) rfl rfl (Rn.fldP (o':=1) (gw rfl (nF hb22)) rfl rfl (Rn.load (v:=(i_ x16.Event)) (gw rfl (nF hb22)) rfl (Qi rfl) rfl rfl ?_))))))
     obtain ⟨x24,h23,h⟩:=bnd h
     refine Rn.call (args:=[(l_ t1.zN.zB),(i_ x16.Event)]) (gw rfl (nF hb22)) rfl (H_alphabet_Contains _ _ _ h23) pc0 (Rn.pickT (v:=(b_ x24)) tv rfl (nF hb22) rfl ?_)
     refine Rn.nil ⟨rfl,?_⟩
     replace h:=si h; subst h
     exact Qn [] ⟨(sm rfl),(kPtr rfl),(kPtr rfl),(sm rfl),(sm rfl),(sm rfl),(sm rfl),tv⟩ ⟨⟨_,rfl,rfl,(.cons (Qcg (ltB hM hk3)) .nil)⟩,⟨_,rfl,rfl,(.same rfl)⟩,tv⟩ rfl
   ·obtain ⟨x25,rfl⟩ : ∃ x,x = z:=⟨_,rfl⟩
    refine Tr.cond rfl (fun hb26=>?_) (fun hb26=>?_)
    ·replace h:=bT hb26 h
     refine Tr.seq ?_
     refine Tr.rgnD (by decide) ?_
     refine Rn.fldP (o':=1) tv rfl rfl (Rn.load (v:=(i_ x16.Event)) tv rfl (Qi rfl) rfl rfl (md rfl (md rfl ?_)))
     refine Rn.nil ⟨rfl,?_⟩
     refine toN (Tr.ret ?_)
     replace h:=si h; subst h
     exact ⟨.inr rfl,.tup [(i_ 2),(i_ x16.Event)],res2 rfl rfl,(WkV.tup (.cons (.same rfl) (.cons (.same rfl) .nil))).rd,⟨tv,tv,tv⟩,fun k hk=>Qf hk⟩
    ·replace h:=bF hb26 h
     refine Tr.skip (toN (Tr.rgn (Rn.bin tv rfl rfl rfl (md rfl (Rn.nil ?_)))))
     exact ⟨_,h,(by exact Qx ⟨(sm rfl),(kPtr rfl),(sm rfl),(sm rfl),(sm rfl),tv⟩ ⟨⟨_,rfl,rfl,(.cons (Qcg (ltB hM hk3)) .nil)⟩,tv⟩ rfl)⟩
  ·replace h:=ifF hb15 h
   refine Tr.exit (toN (sr ((Rn.load (v:=.ptr k2 0) tv rfl (Qi rfl) rfl rfl (Rn.nilchkP tv rfl (Rn.fldP (o':=8) tv rfl rfl (Rn.load (v:=.sl 1 k4 0 t1.from_.length t1.from_.length) tv rfl (Qk hM hk3) rfl rfl (md rfl ?_))))))))
   obtain ⟨⟨⟩,h28,h⟩:=bnd h
   refine Rn.idxA tv rfl rfl h28 ?_
   obtain ⟨x29,h30,h⟩:=bnd h
   refine Rn.loadA (g:=(fun (x:List Qe)=>[V.d (.lst 3 (List.map Qb x))])) (v:=.d (.lst 3 (List.map Qb x29))) (f:=0) (fun _=>rfl) tv rfl (Qk hM hk5) h30 rfl rfl (Rn.k (v:=.clo 76 [.ptr (Γ.n0 + 2) 0]) tv rfl rfl rfl ?_)
   obtain ⟨x35,h34,h⟩:=bnd h
   refine Rn.callM (args:=[.d (.lst 3 (List.map Qb x29)),.clo 76 [.ptr (Γ.n0 + 2) 0]]) tv rfl (fun M2 nb2 hn hx=>H_slices_ContainsFunc_Edge _ _ 76 [.ptr (Γ.n0 + 2) 0] _ h34 M2 nb2 rfl ⟨Qfq (hx _ _ (Qi rfl)),tv⟩ (fun a31 r32 h33 M3 nb3 hn3 hx3=>H_timedsynthesis_task_escape_1 a31 t1 (Γ.n0 + 2) k2 k4 k6 r32 h33 M3 nb3 ((hx.trans hx3) _ _ (Qi rfl)) ((hx.trans hx3) _ _ (Qk hM hk3)) ((hx.trans hx3) _ _ (Qk hM hk5)) ((hx.trans hx3) _ _ (Qk hM hk7)))) rfl pc9 ?_
   refine md rfl (nt ((Tr.seq ?_)))
   refine Tr.cutB (fun (x39:Bool)=>⟨look [(2,.ptr (Γ.n0 + 2) 0),(58,(b_ x39))],Qr Γ.n0 (bxs [(2,.cells ([.ptr k2 0]))]) M,Γ.n0 + 64⟩) h (fun z h=>?_) (fun z h=>?_)
   ·refine Tr.rgn (md rfl (md rfl ?_))
    refine Q8 x35 (fun hb36=>?_) (fun hb36=>?_)
    ·replace h:=bT hb36 h
     refine Rn.load (v:=.ptr k2 0) (gw rfl hb36) rfl (Qi rfl) rfl rfl (Rn.movD (gw rfl hb36) rfl ?_)
     obtain ⟨x38,h37,h⟩:=bnd h
     refine Rn.callM (args:=[.ptr k2 0,(i_ state8)]) (gw rfl hb36) rfl (fun M2 nb2 hn hx=>H_timedsynthesis_task_forces _ _ k2 k4 k6 _ h37 M2 nb2 (hx _ _ (Qk hM hk3)) (hx _ _ (Qk hM hk5)) (hx _ _ (Qk hM hk7))) rfl pc9 ?_
     refine Rn.un (gw rfl hb36) rfl rfl (Rn.pickT (v:=(b_ (!x38))) tv rfl hb36 rfl (Rn.nil ?_))
     replace h:=si h; subst h
     exact Qn [] ⟨(kPtr rfl),(sm rfl),tv⟩ ⟨⟨_,rfl,rfl,(.cons (Qcg (ltB hM hk3)) .nil)⟩,tv⟩ rfl
    ·replace h:=bF hb36 h
     refine Rn.sk (nw rfl hb36) (Rn.sk (nw rfl hb36) (Rn.sk (nw rfl hb36) (Rn.sk (nw rfl hb36) (Rn.pickF (v:=(b_ false)) tv rfl hb36 rfl (Rn.nil ?_)))))
     replace h:=si h; subst h
     exact Qn [] ⟨(kPtr rfl),(sm rfl),tv⟩ ⟨⟨_,rfl,rfl,(.cons (Qcg (ltB hM hk3)) .nil)⟩,tv⟩ rfl
   ·obtain ⟨x39,rfl⟩ : ∃ x,x = z:=⟨_,rfl⟩
    refine Tr.cond rfl (fun hb40=>?_) (fun hb40=>?_)
    ·replace h:=bT hb40 h
     refine Tr.seq ?_
     refine Tr.rgnD (by decide) ?_
     refine Rn.load (v:=.ptr k2 0) tv rfl (Qi rfl) rfl rfl (Rn.nilchkP tv rfl (Rn.fldP (o':=0) tv rfl rfl (Rn.fldP (o':=7) tv rfl rfl (Rn.load (v:=(i_ t1.zN.Tick)) tv rfl (Qk hM hk3) rfl rfl (md rfl (md rfl ?_))))))
     refine Rn.nil ⟨rfl,?_⟩
     refine toN (Tr.ret ?_)
     replace h:=si h; subst h
     exact ⟨.inr rfl,.tup [(i_ 4),(i_ t1.zN.Tick)],res2 rfl rfl,(WkV.tup (.cons (.same rfl) (.cons (.same rfl) .nil))).rd,⟨tv,tv,tv⟩,fun k hk=>Qf hk⟩
    ·replace h:=bF hb40 h
     refine Tr.skip (toN (sr ((md rfl (md rfl (nt ((Tr.ret ?_))))))))
     replace h:=si h; subst h
     exact ⟨.inr rfl,.tup [(i_ 0),(i_ (-1))],res2 rfl rfl,(WkV.tup (.cons (.same rfl) (.cons (.same rfl) .nil))).rd,⟨tv,tv,tv⟩,fun k hk=>Qf hk⟩
theorem Qlg {P:Program} {c:Nat} {Qh:(List Int)→Int→Option Bool}
    (H_alphabet_Contains:Qbz P 50 Qh) (hcf:Q1 P c = some Qej) (fuel:Nat):Qcz P c (Qq Qh fuel):=by
 intro t1 k2 k4 k6 r h
 intro M nb hk3 hk5 hk7
 refine Qg8 hcf rfl M nb fun Γ hP hnt hn0 hM=>?_
 subst hP hn0
 refine Tr.init [(0,.ptr k2 0)] rfl ?_
 unfold Qq at h
 unfold Qej
 refine sr ((Rn.movTC (v:=.nils 1) tv (nt ((sr ((Rn.mov (v:=.ptr k2 0) tv rfl (Rn.nilchkP tv rfl (Rn.fldP (o':=0) tv rfl rfl (Rn.fldP (o':=0) tv rfl rfl (Rn.fldP (o':=1) tv rfl rfl (Rn.load (v:=(i_ t1.zN.zA.zM)) tv rfl (Qk hM hk3) rfl rfl ?_))))))))))))
 obtain ⟨x8,h9,h⟩:=bnd h
 refine Rn.makes (g:=(fun (x:Int)=>[V.d (.int .i64 x)])) tv rfl rfl rfl rfl rfl h9 (Rn.movTF (v:=.sl 1 (Γ.n0 + 15) 0 (Int.toNat t1.zN.zA.zM) (Int.toNat t1.zN.zA.zM)) tv rfl rfl (Rn.nil (toN ?_)))
 refine Tr.cutB (fun (c32:List Int)=>⟨look [(0,.ptr k2 0),(3,.sl 1 (Γ.n0 + 15) 0 (Int.toNat t1.zN.zA.zM) (Int.toNat t1.zN.zA.zM))],Qr Γ.n0 (bxs [(15,.cells (Qz (fun (x:Int)=>[V.d (.int .i64 x)]) c32))]) M,Γ.n0 + 102⟩) h (fun z h=>?_) (fun z h=>?_)
 ·refine sr ((Rn.mov (v:=.sl 1 (Γ.n0 + 15) 0 (Int.toNat t1.zN.zA.zM) (Int.toNat t1.zN.zA.zM)) tv rfl (Rn.lenA tv rfl (md rfl (nt ((Tr.block ?_)))))))
  refine Tr.loop (mk:=fun ((x10,c11):Int×(List Int))=>⟨look [(0,.ptr k2 0),(3,.sl 1 (Γ.n0 + 15) 0 (Int.toNat t1.zN.zA.zM) (Int.toNat t1.zN.zA.zM)),(17,(i_ ((Int.toNat t1.zN.zA.zM):Int))),(18,(i_ x10))],Qr Γ.n0 (bxs [(15,.cells (Qz (fun (x:Int)=>[V.d (.int .i64 x)]) c11))]) M,Γ.n0 + 102⟩) h (by exact Qx ⟨(Qcg (ltB hM hk3)),(kSl rfl),(sm rfl),(sm rfl),tv⟩ ⟨⟨_,rfl,rfl,(Qu fun _=>rfl)⟩,tv⟩ rfl) (fun k12 z h=>?_)
  ·obtain ⟨x10,c11⟩:=z
   replace h:_ = some _:=h
   refine sr ((Rn.bin tv rfl rfl rfl (nt ((Tr.seq ?_)))))
   refine Tr.cond rfl (fun hb13=>?_) (fun hb13=>?_)
   ·replace h:=ifT hb13 h
    refine Tr.skip (toN ?_)
    refine Tr.cutB (fun (c31:List Int)=>⟨look [(0,.ptr k2 0),(3,.sl 1 (Γ.n0 + 15) 0 (Int.toNat t1.zN.zA.zM) (Int.toNat t1.zN.zA.zM)),(17,(i_ ((Int.toNat t1.zN.zA.zM):Int))),(18,(i_ x10))],Qr Γ.n0 (bxs [(15,.cells (Qz (fun (x:Int)=>[V.d (.int .i64 x)]) c31))]) M,Γ.n0 + 102⟩) h (fun z h=>?_) (fun z h=>?_)
    ·refine Tr.block (sr ((md rfl (md rfl (nt ((sr ((Rn.mov (v:=.sl 1 (Γ.n0 + 15) 0 (Int.toNat t1.zN.zA.zM) (Int.toNat t1.zN.zA.zM)) tv rfl (md rfl ?_))))))))))
     obtain ⟨⟨⟩,h15,h⟩:=bnd h
     refine Rn.idxA tv rfl rfl h15 ?_
     obtain ⟨x16,h17,h⟩:=bnd h
     refine Rn.storeA (g:=(fun (x:Int)=>[V.d (.int .i64 x)])) (v:=(i_ (-1))) (fun _=>rfl) tv rfl rfl rfl rfl rfl h17 (Rn.nil (toN ?_))
     refine Tr.cutB (fun (x25:Bool)=>⟨look [(0,.ptr k2 0),(3,.sl 1 (Γ.n0 + 15) 0 (Int.toNat t1.zN.zA.zM) (Int.toNat t1.zN.zA.zM)),(4,(i_ x10)),(17,(i_ ((Int.toNat t1.zN.zA.zM):Int))),(18,(i_ x10)),(40,(b_ x25))],Qr Γ.n0 (bxs [(15,.cells (Qz (fun (x:Int)=>[V.d (.int .i64 x)]) x16))]) M,Γ.n0 + 102⟩) h (fun z h=>?_) (fun z h=>?_)
     ·refine Tr.rgn (Rn.mov (v:=.ptr k2 0) tv rfl (Rn.nilchkP tv rfl (Rn.fldP (o':=9) tv rfl rfl (Rn.load (v:=.sl 1 k6 0 t1.left_.length t1.left_.length) tv rfl (Qk hM hk3) rfl rfl (md rfl ?_)))))
      obtain ⟨⟨⟩,h19,h⟩:=bnd h
      refine Rn.idxA tv rfl rfl h19 ?_
      obtain ⟨x20,h21,h⟩:=bnd h
      refine Rn.loadA (g:=(fun (x:Bool)=>[V.d (.bool x)])) (v:=(b_ x20)) (f:=0) (fun _=>rfl) tv rfl (Qk hM hk7) h21 rfl rfl (md rfl ?_)
      refine Q8 x20 (fun hb22=>?_) (fun hb22=>?_)
      ·replace h:=bT hb22 h
       refine Rn.mov (v:=.ptr k2 0) (gw rfl hb22) rfl (Rn.nilchkP (gw rfl hb22) rfl (Rn.fldP (o':=0) (gw rfl hb22) rfl rfl (Rn.fldP (o':=0) (gw rfl hb22) rfl rfl (Rn.fldP (o':=2) (gw rfl hb22) rfl rfl (Rn.load (v:=(l_ t1.zN.zA.zK)) (gw rfl hb22) rfl (Qk hM hk3) rfl rfl (Rn.movD (gw rfl hb22) rfl ?_))))))
       obtain ⟨x24,h23,h⟩:=bnd h
       refine Rn.call (args:=[(l_ t1.zN.zA.zK),(i_ x10)]) (gw rfl hb22) rfl (H_alphabet_Contains _ _ _ h23) pc9 (Rn.pickT (v:=(b_ x24)) tv rfl hb22 rfl (Rn.nil ?_))
       replace h:=si h; subst h
       exact Qn [] ⟨(Qcg (ltB hM hk3)),(kSl rfl),(sm rfl),(sm rfl),(sm rfl),(sm rfl),tv⟩ ⟨⟨_,rfl,rfl,(Qu fun _=>rfl)⟩,tv⟩ rfl
      ·replace h:=bF hb22 h
       refine Rn.sk (nw rfl hb22) (Rn.sk (nw rfl hb22) (Rn.sk (nw rfl hb22) (Rn.sk (nw rfl hb22) (Rn.sk (nw rfl hb22) (Rn.sk (nw rfl hb22) (Rn.sk (nw rfl hb22) (Rn.sk (nw rfl hb22) (Rn.pickF (v:=(b_ false)) tv rfl hb22 rfl (Rn.nil ?_)))))))))
       replace h:=si h; subst h
       exact Qn [] ⟨(Qcg (ltB hM hk3)),(kSl rfl),(sm rfl),(sm rfl),(sm rfl),(sm rfl),tv⟩ ⟨⟨_,rfl,rfl,(Qu fun _=>rfl)⟩,tv⟩ rfl
     ·obtain ⟨x25,rfl⟩ : ∃ x,x = z:=⟨_,rfl⟩
      refine Tr.cond rfl (fun hb26=>?_) (fun hb26=>?_)
      ·replace h:=bT hb26 h
       refine Tr.rgn (Rn.mov (v:=.sl 1 (Γ.n0 + 15) 0 (Int.toNat t1.zN.zA.zM) (Int.toNat t1.zN.zA.zM)) tv rfl (md rfl ?_))
       obtain ⟨⟨⟩,h28,h⟩:=bnd h
       refine Rn.idxA tv rfl rfl h28 ?_
       obtain ⟨x29,h30,h⟩:=bnd h
       refine Rn.storeA (g:=(fun (x:Int)=>[V.d (.int .i64 x)])) (v:=(i_ 0)) (fun _=>rfl) tv rfl rfl rfl rfl rfl h30 (Rn.nil ?_)
       replace h:=si h; subst h
       exact Qn [] ⟨(Qcg (ltB hM hk3)),(kSl rfl),(sm rfl),(sm rfl),tv⟩ ⟨⟨_,rfl,rfl,(Qu fun _=>rfl)⟩,tv⟩ rfl
      ·replace h:=bF hb26 h
       refine Tr.skip ?_
       replace h:=si h; subst h
       exact Qn [] ⟨(Qcg (ltB hM hk3)),(kSl rfl),(sm rfl),(sm rfl),tv⟩ ⟨⟨_,rfl,rfl,(Qu fun _=>rfl)⟩,tv⟩ rfl
    ·obtain ⟨c31,rfl⟩ : ∃ x,x = z:=⟨_,rfl⟩
     refine Tr.rgn (Rn.bin tv rfl rfl rfl (md rfl (Rn.nil ?_)))
     exact ⟨_,h,(by exact Qx ⟨(Qcg (ltB hM hk3)),(kSl rfl),(sm rfl),(sm rfl),tv⟩ ⟨⟨_,rfl,rfl,(Qu fun _=>rfl)⟩,tv⟩ rfl)⟩
   ·replace h:=ifF hb13 h
    refine Tr.exit ?_
    replace h:=si h; subst h
    exact Qn [] ⟨(Qcg (ltB hM hk3)),(kSl rfl),tv⟩ ⟨⟨_,rfl,rfl,(Qu fun _=>rfl)⟩,tv⟩ rfl
 ·obtain ⟨c32,rfl⟩ : ∃ x,x = z:=⟨_,rfl⟩
  refine Tr.cutB (fun (c77:List Int)=>⟨look [(3,.sl 1 (Γ.n0 + 15) 0 (Int.toNat t1.zN.zA.zM) (Int.toNat t1.zN.zA.zM))],Qr Γ.n0 (bxs [(15,.cells (Qz (fun (x:Int)=>[V.d (.int .i64 x)]) c77))]) M,Γ.n0 + 102⟩) h (fun z h=>?_) (fun z h=>?_)
  ·refine sr ((md rfl (md rfl (nt ((Tr.block ?_))))))
   refine Tr.loop (mk:=fun ((round33,more34,c35):Int×Bool×(List Int))=>⟨look [(0,.ptr k2 0),(3,.sl 1 (Γ.n0 + 15) 0 (Int.toNat t1.zN.zA.zM) (Int.toNat t1.zN.zA.zM)),(5,(i_ round33)),(6,(b_ more34))],Qr Γ.n0 (bxs [(15,.cells (Qz (fun (x:Int)=>[V.d (.int .i64 x)]) c35))]) M,Γ.n0 + 102⟩) h (by exact Qx ⟨(Qcg (ltB hM hk3)),(kSl rfl),(sm rfl),(sm rfl),tv⟩ ⟨⟨_,rfl,rfl,(Qu fun _=>rfl)⟩,tv⟩ rfl) (fun k36 z h=>?_)
   ·obtain ⟨round33,more34,c35⟩:=z
    replace h:_ = some _:=h
    refine Tr.seq (sr ((md rfl (Rn.nil (toN ?_)))))
    refine Tr.cond rfl (fun hb37=>?_) (fun hb37=>?_)
    ·replace h:=bT hb37 h
     refine Tr.skip (toN ?_)
     refine Tr.cutB (fun ((more75,c76):Bool×(List Int))=>⟨look [(0,.ptr k2 0),(3,.sl 1 (Γ.n0 + 15) 0 (Int.toNat t1.zN.zA.zM) (Int.toNat t1.zN.zA.zM)),(5,(i_ round33)),(6,(b_ more75))],Qr Γ.n0 (bxs [(15,.cells (Qz (fun (x:Int)=>[V.d (.int .i64 x)]) c76))]) M,Γ.n0 + 102⟩) h (fun z h=>?_) (fun z h=>?_)
     ·refine Tr.block (sr ((md rfl (nt ((sr ((Rn.mov (v:=.ptr k2 0) tv rfl (Rn.nilchkP tv rfl (Rn.fldP (o':=0) tv rfl rfl (Rn.fldP (o':=0) tv rfl rfl (Rn.fldP (o':=3) tv rfl rfl (Rn.load (v:=.d (.lst 3 (List.map Qb t1.zN.zA.zL))) tv rfl (Qk hM hk3) rfl rfl (Rn.lenD tv rfl (md rfl (nt ((Tr.block ?_))))))))))))))))))
      refine Tr.loop (mk:=fun ((more38,x39,c40):Bool×Int×(List Int))=>⟨look [(0,.ptr k2 0),(3,.sl 1 (Γ.n0 + 15) 0 (Int.toNat t1.zN.zA.zM) (Int.toNat t1.zN.zA.zM)),(5,(i_ round33)),(6,(b_ more38)),(53,.d (.lst 3 (List.map Qb t1.zN.zA.zL))),(54,(i_ (t1.zN.zA.zL.length:Int))),(55,(i_ x39))],Qr Γ.n0 (bxs [(15,.cells (Qz (fun (x:Int)=>[V.d (.int .i64 x)]) c40))]) M,Γ.n0 + 102⟩) h (by exact Qx ⟨(Qcg (ltB hM hk3)),(kSl rfl),(sm rfl),(sm rfl),(sm rfl),(sm rfl),(sm rfl),tv⟩ ⟨⟨_,rfl,rfl,(Qu fun _=>rfl)⟩,tv⟩ rfl) (fun k41 z h=>?_)
      ·obtain ⟨more38,x39,c40⟩:=z
       replace h:_ = some _:=h
       refine sr ((Rn.bin tv rfl rfl rfl (nt ((Tr.seq ?_)))))
       refine Tr.cond rfl (fun hb42=>?_) (fun hb42=>?_)
       ·replace h:=ifT hb42 h
        refine Tr.skip (toN ?_)
        refine Tr.cutB (fun ((more70,c71,c72,c73,c74):Bool×(List Int)×Int×Int×Int)=>⟨look [(0,.ptr k2 0),(3,.sl 1 (Γ.n0 + 15) 0 (Int.toNat t1.zN.zA.zM) (Int.toNat t1.zN.zA.zM)),(5,(i_ round33)),(6,(b_ more70)),(53,.d (.lst 3 (List.map Qb t1.zN.zA.zL))),(54,(i_ (t1.zN.zA.zL.length:Int))),(55,(i_ x39))],Qr Γ.n0 (bxs [(8,.cells ([(i_ c72),(i_ c73),(i_ c74)])),(15,.cells (Qz (fun (x:Int)=>[V.d (.int .i64 x)]) c71))]) M,Γ.n0 + 102⟩) h (fun z h=>?_) (fun z h=>?_)
        ·refine Tr.block (Tr.seq (Tr.rgn ?_))
         obtain ⟨x43,h44,h⟩:=bnd h
         refine Rn.idxD (e:=Qb) tv rfl rfl h44 (Rn.loadCA (vs:=(Qbx x43)) tv rfl rfl rfl (Rn.alloc tv rfl (Rn.store (v:=(Qbv x43)) (cs':=(Qbx x43)) tv rfl rfl rfl rfl rfl rfl (Rn.nil (toN ?_)))))
         refine Tr.cutB (fun (x64:Bool)=>⟨look [(0,.ptr k2 0),(3,.sl 1 (Γ.n0 + 15) 0 (Int.toNat t1.zN.zA.zM) (Int.toNat t1.zN.zA.zM)),(5,(i_ round33)),(6,(b_ more38)),(8,.ptr (Γ.n0 + 8) 0),(53,.d (.lst 3 (List.map Qb t1.zN.zA.zL))),(54,(i_ (t1.zN.zA.zL.length:Int))),(55,(i_ x39)),(94,(b_ x64))],Qr Γ.n0 (bxs [(8,.cells ((Qbx x43))),(15,.cells (Qz (fun (x:Int)=>[V.d (.int .i64 x)]) c40))]) M,Γ.n0 + 102⟩) h (fun z h=>?_) (fun z h=>?_)
         ·refine Tr.rgnD (by decide) ?_
          refine Rn.mov (v:=.ptr k2 0) tv rfl (Rn.nilchkP tv rfl (Rn.fldP (o':=9) tv rfl rfl (Rn.load (v:=.sl 1 k6 0 t1.left_.length t1.left_.length) tv rfl (Qk hM hk3) rfl rfl (Rn.fldP (o':=0) tv rfl rfl (Rn.load (v:=(i_ x43.From)) tv rfl (Qi rfl) rfl rfl ?_)))))
          obtain ⟨⟨⟩,h46,h⟩:=bnd h
          refine Rn.idxA tv rfl rfl h46 ?_
          obtain ⟨x47,h48,h⟩:=bnd h
          refine Rn.loadA (g:=(fun (x:Bool)=>[V.d (.bool x)])) (v:=(b_ x47)) (f:=0) (fun _=>rfl) tv rfl (Qk hM hk7) h48 rfl rfl (md rfl ?_)
          refine Q8 x47 (fun hb49=>?_) (fun hb49=>?_)
          ·replace h:=bT hb49 h
           refine Rn.mov (v:=.ptr k2 0) (gw rfl hb49) rfl (Rn.nilchkP (gw rfl hb49) rfl (Rn.fldP (o':=9) (gw rfl hb49) rfl rfl (Rn.load (v:=.sl 1 k6 0 t1.left_.length t1.left_.length) (gw rfl hb49) rfl (Qk hM hk3) rfl rfl (Rn.fldP (o':=2) (gw rfl hb49) rfl rfl (Rn.load (v:=(i_ x43.To)) (gw rfl hb49) rfl (Qi rfl) rfl rfl ?_)))))
           obtain ⟨⟨⟩,h51,h⟩:=bnd h
           refine Rn.idxA (gw rfl hb49) rfl rfl h51 ?_
           obtain ⟨x52,h53,h⟩:=bnd h
           refine Rn.loadA (g:=(fun (x:Bool)=>[V.d (.bool x)])) (v:=(b_ x52)) (f:=0) (fun _=>rfl) (gw rfl hb49) rfl (Qk hM hk7) h53 rfl rfl (Rn.pickT (v:=(b_ x52)) tv rfl hb49 rfl (md rfl ?_))
           refine Q8 x52 (fun hb54=>?_) (fun hb54=>?_)
           ·replace h:=bT hb54 h
            refine Rn.mov (v:=.sl 1 (Γ.n0 + 15) 0 (Int.toNat t1.zN.zA.zM) (Int.toNat t1.zN.zA.zM)) (gw rfl hb54) rfl (Rn.fldP (o':=0) (gw rfl hb54) rfl rfl (Rn.load (v:=(i_ x43.From)) (gw rfl hb54) rfl (Qi rfl) rfl rfl ?_))
            obtain ⟨⟨⟩,h56,h⟩:=bnd h
            refine Rn.idxA (gw rfl hb54) rfl rfl h56 ?_
            obtain ⟨x57,h58,h⟩:=bnd h
            refine Rn.loadA (g:=(fun (x:Int)=>[V.d (.int .i64 x)])) (v:=(i_ x57)) (f:=0) (fun _=>rfl) (gw rfl hb54) rfl (Qi rfl) h58 rfl rfl (Rn.bin (gw rfl hb54) rfl rfl rfl (Rn.pickT (v:=(b_ (decide (x57 < 0)))) tv rfl hb54 rfl (md rfl ?_)))
            refine Q8 (decide (x57 < 0)) (fun hb59=>?_) (fun hb59=>?_)
            ·replace h:=ifT hb59 h
             refine Rn.mov (v:=.sl 1 (Γ.n0 + 15) 0 (Int.toNat t1.zN.zA.zM) (Int.toNat t1.zN.zA.zM)) (gw rfl hb59) rfl (Rn.fldP (o':=2) (gw rfl hb59) rfl rfl (Rn.load (v:=(i_ x43.To)) (gw rfl hb59) rfl (Qi rfl) rfl rfl ?_))
             obtain ⟨⟨⟩,h61,h⟩:=bnd h
             refine Rn.idxA (gw rfl hb59) rfl rfl h61 ?_
             obtain ⟨x62,h63,h⟩:=bnd h
             refine Rn.loadA (g:=(fun (x:Int)=>[V.d (.int .i64 x)])) (v:=(i_ x62)) (f:=0) (fun _=>rfl) (gw rfl hb59) rfl (Qi rfl) h63 rfl rfl (Rn.movD (gw rfl hb59) rfl (Rn.bin (gw rfl hb59) rfl rfl rfl (Rn.bin (gw rfl hb59) rfl rfl rfl (Rn.pickT (v:=(b_ (x62 == (IntKind.wrap .i64 (round33 - 1))))) tv rfl hb59 rfl ?_))))
             refine Rn.nil ⟨rfl,?_⟩
             replace h:=si h; subst h
             exact Qn [] ⟨(Qcg (ltB hM hk3)),(kSl rfl),(sm rfl),(sm rfl),(kPtr rfl),(sm rfl),(sm rfl),(sm rfl),(sm rfl),tv⟩ ⟨⟨_,rfl,rfl,(.same rfl)⟩,⟨_,rfl,rfl,(Qu fun _=>rfl)⟩,tv⟩ rfl
            ·replace h:=ifF hb59 h
             refine Rn.sk (nw rfl hb59) (Rn.sk (nw rfl hb59) (Rn.sk (nw rfl hb59) (Rn.sk (nw rfl hb59) (Rn.sk (nw rfl hb59) (Rn.sk (nw rfl hb59) (Rn.sk (nw rfl hb59) (Rn.sk (nw rfl hb59) (Rn.pickF (v:=(b_ false)) tv rfl hb59 rfl ?_))))))))
             refine Rn.nil ⟨rfl,?_⟩
             replace h:=si h; subst h
             exact Qn [] ⟨(Qcg (ltB hM hk3)),(kSl rfl),(sm rfl),(sm rfl),(kPtr rfl),(sm rfl),(sm rfl),(sm rfl),(sm rfl),tv⟩ ⟨⟨_,rfl,rfl,(.same rfl)⟩,⟨_,rfl,rfl,(Qu fun _=>rfl)⟩,tv⟩ rfl
           ·replace h:=bF hb54 h
            refine Rn.sk (nw rfl hb54) (Rn.sk (nw rfl hb54) (Rn.sk (nw rfl hb54) (Rn.sk (nw rfl hb54) (Rn.sk (nw rfl hb54) (Rn.sk (nw rfl hb54) (Rn.pickF (v:=(b_ false)) tv rfl hb54 rfl (md rfl (Rn.sk (nw (b:=false) rfl rfl) (Rn.sk (nw (b:=false) rfl rfl) (Rn.sk (nw (b:=false) rfl rfl) (Rn.sk (nw (b:=false) rfl rfl) (Rn.sk (nw (b:=false) rfl rfl) (Rn.sk (nw (b:=false) rfl rfl) (Rn.sk (nw (b:=false) rfl rfl) (Rn.sk (nw (b:=false) rfl rfl) (Rn.pickF (v:=(b_ false)) tv rfl rfl rfl ?_))))))))))))))))
            refine Rn.nil ⟨rfl,?_⟩
            replace h:=si h; subst h
            exact Qn [] ⟨(Qcg (ltB hM hk3)),(kSl rfl),(sm rfl),(sm rfl),(kPtr rfl),(sm rfl),(sm rfl),(sm rfl),(sm rfl),tv⟩ ⟨⟨_,rfl,rfl,(.same rfl)⟩,⟨_,rfl,rfl,(Qu fun _=>rfl)⟩,tv⟩ rfl
          ·replace h:=bF hb49 h
           refine Rn.sk (nw rfl hb49) (Rn.sk (nw rfl hb49) (Rn.sk (nw rfl hb49) (Rn.sk (nw rfl hb49) (Rn.sk (nw rfl hb49) (Rn.sk (nw rfl hb49) (Rn.sk (nw rfl hb49) (Rn.sk (nw rfl hb49) (Rn.pickF (v:=(b_ false)) tv rfl hb49 rfl (md rfl (Rn.sk (nw (b:=false) rfl rfl) (Rn.sk (nw (b:=false) rfl rfl) (Rn.sk (nw (b:=false) rfl rfl) (Rn.sk (nw (b:=false) rfl rfl) (Rn.sk (nw (b:=false) rfl rfl) (Rn.sk (nw (b:=false) rfl rfl) (Rn.pickF (v:=(b_ false)) tv rfl rfl rfl (md rfl (Rn.sk (nw (b:=false) rfl rfl) (Rn.sk (nw (b:=false) rfl rfl) (Rn.sk (nw (b:=false) rfl rfl) (Rn.sk (nw (b:=false) rfl rfl) (Rn.sk (nw (b:=false) rfl rfl) (Rn.sk (nw (b:=false) rfl rfl) (Rn.sk (nw (b:=false) rfl rfl) (Rn.sk (nw (b:=false) rfl rfl) (Rn.pickF (v:=(b_ false)) tv rfl rfl rfl ?_))))))))))))))))))))))))))
           refine Rn.nil ⟨rfl,?_⟩
           replace h:=si h; subst h
           exact Qn [] ⟨(Qcg (ltB hM hk3)),(kSl rfl),(sm rfl),(sm rfl),(kPtr rfl),(sm rfl),(sm rfl),(sm rfl),(sm rfl),tv⟩ ⟨⟨_,rfl,rfl,(.same rfl)⟩,⟨_,rfl,rfl,(Qu fun _=>rfl)⟩,tv⟩ rfl
         ·obtain ⟨x64,rfl⟩ : ∃ x,x = z:=⟨_,rfl⟩
          refine Tr.cond rfl (fun hb65=>?_) (fun hb65=>?_)
          ·replace h:=bT hb65 h
           refine Tr.rgn (Rn.mov (v:=.sl 1 (Γ.n0 + 15) 0 (Int.toNat t1.zN.zA.zM) (Int.toNat t1.zN.zA.zM)) tv rfl (Rn.fldP (o':=0) tv rfl rfl (Rn.load (v:=(i_ x43.From)) tv rfl (Qi rfl) rfl rfl (md rfl ?_))))
           obtain ⟨⟨⟩,h67,h⟩:=bnd h
           refine Rn.idxA tv rfl rfl h67 ?_
           obtain ⟨x68,h69,h⟩:=bnd h
           refine Rn.storeA (g:=(fun (x:Int)=>[V.d (.int .i64 x)])) (v:=(i_ round33)) (fun _=>rfl) tv rfl rfl rfl rfl rfl h69 (md rfl (Rn.nil ?_))
           replace h:=si h; subst h
           exact Qn [] ⟨(Qcg (ltB hM hk3)),(kSl rfl),(sm rfl),(sm rfl),(sm rfl),(sm rfl),(sm rfl),tv⟩ ⟨⟨_,rfl,rfl,(.same rfl)⟩,⟨_,rfl,rfl,(Qu fun _=>rfl)⟩,tv⟩ rfl
          ·replace h:=bF hb65 h
           refine Tr.skip ?_
           replace h:=si h; subst h
           exact Qn [] ⟨(Qcg (ltB hM hk3)),(kSl rfl),(sm rfl),(sm rfl),(sm rfl),(sm rfl),(sm rfl),tv⟩ ⟨⟨_,rfl,rfl,(.same rfl)⟩,⟨_,rfl,rfl,(Qu fun _=>rfl)⟩,tv⟩ rfl
        ·obtain ⟨more70,c71,c72,c73,c74⟩:=z
         refine Tr.rgn (Rn.bin tv rfl rfl rfl (md rfl (Rn.nil ?_)))
         exact ⟨_,h,(by exact Qx ⟨(Qcg (ltB hM hk3)),(kSl rfl),(sm rfl),(sm rfl),(sm rfl),(sm rfl),(sm rfl),tv⟩ ⟨⟨_,rfl,rfl,(Qu fun _=>rfl)⟩,tv⟩ rfl)⟩
       ·replace h:=ifF hb42 h
        refine Tr.exit ?_
        replace h:=si h; subst h
        exact Qn [] ⟨(Qcg (ltB hM hk3)),(kSl rfl),(sm rfl),(sm rfl),tv⟩ ⟨⟨_,rfl,rfl,(Qu fun _=>rfl)⟩,tv⟩ rfl
     ·obtain ⟨more75,c76⟩:=z
      refine Tr.rgn (md rfl (Rn.bin tv rfl rfl rfl (md rfl (Rn.nil ?_))))
      exact ⟨_,h,(by exact Qx ⟨(Qcg (ltB hM hk3)),(kSl rfl),(sm rfl),(sm rfl),tv⟩ ⟨⟨_,rfl,rfl,(Qu fun _=>rfl)⟩,tv⟩ rfl)⟩
    ·replace h:=bF hb37 h
     refine Tr.exit ?_
     replace h:=si h; subst h
     exact Qn [] ⟨(kSl rfl),tv⟩ ⟨⟨_,rfl,rfl,(Qu fun _=>rfl)⟩,tv⟩ rfl
  ·obtain ⟨c77,rfl⟩ : ∃ x,x = z:=⟨_,rfl⟩
   refine sr ((Rn.movTF (v:=.sl 1 (Γ.n0 + 15) 0 (Int.toNat t1.zN.zA.zM) (Int.toNat t1.zN.zA.zM)) tv rfl rfl (Rn.movTF (v:=.sl 1 (Γ.n0 + 15) 0 (Int.toNat t1.zN.zA.zM) (Int.toNat t1.zN.zA.zM)) tv rfl rfl (Rn.nil (toN ?_)))))
   obtain ⟨⟨⟩,hl78,h⟩:=bnd h
   refine Tr.weak (by show WeakSt Γ _ ⟨look [(2,(l_ c77)),(3,(l_ c77)),(101,(l_ c77))],Qr Γ.n0 (bxs []) M,Γ.n0 + 102⟩; exact Qha 15 _ rfl (Q53 (fun _=>rfl) _) ⟨(fSlA (fun _=>rfl) (Qd4 hl78)),(fSlA (fun _=>rfl) (Qd4 hl78)),(fSlA (fun _=>rfl) (Qd4 hl78)),tv⟩ tv rfl) ?_
   refine Tr.ret ?_
   replace h:=si h; subst h
   exact ⟨.inr rfl,(l_ c77),rfl,fun _ _ _ _ h=>h,tv,fun k hk=>Qf hk⟩
theorem Qpd {P:Program} {c:Nat} {Qq:Qd→Option ((List Int))} {Qs:Qd→Int→Option (Int×Int)}
    (H_timedsynthesis_task_distances:Qcz P 39 Qq)
    (H_timedsynthesis_task_escape:Qdb P 53 Qs) (hcf:Q1 P c = some Qfs) (fuel:Nat):Qfr P c (Qbr Qq Qs fuel):=by
 intro t1 rank8 k2 k4 k6 r h
 intro M nb hk3 hk5 hk7
 refine Qg8 hcf rfl M nb fun Γ hP hnt hn0 hM=>?_
 subst hP hn0
 refine Tr.init [(0,.ptr k2 0),(1,(i_ rank8))] rfl ?_
 unfold Qbr at h
 unfold Qfs
 refine sr ((Rn.movTC (v:=.nils 4) tv (nt ((sr ((Rn.movTC (v:=.nils 4) tv (Rn.nil (toN ?_)))))))))
 refine Tr.cutB (fun (out26:List Qc)=>⟨look [(0,.ptr k2 0),(1,(i_ rank8)),(5,.own 4 (List.map Qg out26))],Qr Γ.n0 (bxs []) M,Γ.n0 + 73⟩) h (fun z h=>?_) (fun z h=>?_)
 ·refine sr ((Rn.mov (v:=.ptr k2 0) tv rfl (Rn.nilchkP tv rfl (Rn.fldP (o':=9) tv rfl rfl (Rn.load (v:=.sl 1 k6 0 t1.left_.length t1.left_.length) tv rfl (Qk hM hk3) rfl rfl (Rn.lenA tv rfl (md rfl (nt ((Tr.block ?_))))))))))
  refine Tr.loop (mk:=fun ((out9,x10):(List Qc)×Int)=>⟨look [(0,.ptr k2 0),(1,(i_ rank8)),(5,.own 4 (List.map Qg out9)),(15,.sl 1 k6 0 t1.left_.length t1.left_.length),(16,(i_ (t1.left_.length:Int))),(17,(i_ x10))],Qr Γ.n0 (bxs []) M,Γ.n0 + 73⟩) h (by exact Qx ⟨(Qcg (ltB hM hk3)),(sm rfl),(WkV.nilsO _),(kSlB (ltB hM hk7)),(sm rfl),(sm rfl),tv⟩ tv rfl) (fun k11 z h=>?_)
  ·obtain ⟨out9,x10⟩:=z
   replace h:_ = some _:=h
   refine sr ((Rn.bin tv rfl rfl rfl (nt ((Tr.seq ?_)))))
   refine Tr.cond rfl (fun hb12=>?_) (fun hb12=>?_)
   ·replace h:=ifT hb12 h
    refine Tr.skip (toN ?_)
    refine Tr.cutB (fun (out25:List Qc)=>⟨look [(0,.ptr k2 0),(1,(i_ rank8)),(5,.own 4 (List.map Qg out25)),(15,.sl 1 k6 0 t1.left_.length t1.left_.length),(16,(i_ (t1.left_.length:Int))),(17,(i_ x10))],Qr Γ.n0 (bxs []) M,Γ.n0 + 73⟩) h (fun z h=>?_) (fun z h=>?_)
    ·refine Tr.block (sr ((md rfl ?_)))
     obtain ⟨⟨⟩,h14,h⟩:=bnd h
     refine Rn.idxA tv rfl rfl h14 ?_
     obtain ⟨x15,h16,h⟩:=bnd h
     refine Rn.loadA (g:=(fun (x:Bool)=>[V.d (.bool x)])) (v:=(b_ x15)) (f:=0) (fun _=>rfl) tv rfl (Qk hM hk7) h16 rfl rfl (md rfl (md rfl (nt ((sr ((Rn.mov (v:=.ptr k2 0) tv rfl (md rfl ?_))))))))
     obtain ⟨⟨r18,r19⟩,h17,h⟩:=bnd h
     refine Rn.callM (args:=[.ptr k2 0,(i_ x10)]) tv rfl (fun M2 nb2 hn hx=>H_timedsynthesis_task_escape _ _ k2 k4 k6 _ h17 M2 nb2 (hx _ _ (Qk hM hk3)) (hx _ _ (Qk hM hk5)) (hx _ _ (Qk hM hk7))) rfl pc9 ?_
     refine Rn.mov (v:=.tup [(i_ r18),(i_ r19)]) tv rfl (Rn.ext (v:=(i_ r18)) (vs:=[(i_ r18),(i_ r19)]) tv rfl rfl rfl (Rn.ext (v:=(i_ r19)) (vs:=[(i_ r18),(i_ r19)]) tv rfl rfl rfl (md rfl (md rfl (Rn.nil (toN ?_))))))
     refine Tr.cutB (fun (x21:Bool)=>⟨look [(0,.ptr k2 0),(1,(i_ rank8)),(5,.own 4 (List.map Qg out9)),(6,(i_ x10)),(8,(i_ r18)),(9,(i_ r19)),(15,.sl 1 k6 0 t1.left_.length t1.left_.length),(16,(i_ (t1.left_.length:Int))),(17,(i_ x10)),(32,(b_ x21))],Qr Γ.n0 (bxs []) M,Γ.n0 + 73⟩) h (fun z h=>?_) (fun z h=>?_)
     ·refine Tr.rgn (md rfl (md rfl ?_))
      refine Q8 x15 (fun hb20=>?_) (fun hb20=>?_)
      ·replace h:=bT hb20 h
       refine Rn.movD (gw rfl hb20) rfl (Rn.bin (gw rfl hb20) rfl rfl rfl (Rn.pickT (v:=(b_ (r18 != 0))) tv rfl hb20 rfl (Rn.nil ?_)))
       replace h:=si h; subst h
       exact Qn [] ⟨(Qcg (ltB hM hk3)),(sm rfl),(sm rfl),(sm rfl),(sm rfl),(sm rfl),(kSlB (ltB hM hk7)),(sm rfl),(sm rfl),(sm rfl),tv⟩ tv rfl
      ·replace h:=bF hb20 h
       refine Rn.sk (nw rfl hb20) (Rn.sk (nw rfl hb20) (Rn.pickF (v:=(b_ false)) tv rfl hb20 rfl (Rn.nil ?_)))
       replace h:=si h; subst h
       exact Qn [] ⟨(Qcg (ltB hM hk3)),(sm rfl),(sm rfl),(sm rfl),(sm rfl),(sm rfl),(kSlB (ltB hM hk7)),(sm rfl),(sm rfl),(sm rfl),tv⟩ tv rfl
     ·obtain ⟨x21,rfl⟩ : ∃ x,x = z:=⟨_,rfl⟩
      refine Tr.cond rfl (fun hb22=>?_) (fun hb22=>?_)
      ·replace h:=bT hb22 h
       refine Tr.rgn (Rn.movTO tv rfl (md rfl (md rfl (md rfl (md rfl (Rn.build (v:=.agg [(i_ x10),(i_ rank8),(i_ r18),(i_ r19)]) tv rfl (Rn.bslice (xs:=[.agg [(i_ x10),(i_ rank8),(i_ r18),(i_ r19)]]) (cs:=[(i_ x10),(i_ rank8),(i_ r18),(i_ r19)]) tv rfl rfl rfl rfl ?_)))))))
       obtain ⟨x23,h24,h⟩:=bnd h
       refine Rn.app (e:=Qg) tv rfl rfl rfl (Qg2 rfl rfl rfl) h24 rfl (Rn.movTO tv rfl (Rn.nil ?_))
       replace h:=si h; subst h
       exact Qn [39] ⟨(Qcg (ltB hM hk3)),(sm rfl),(sm rfl),(kSlB (ltB hM hk7)),(sm rfl),(sm rfl),tv⟩ tv rfl
      ·replace h:=bF hb22 h
       refine Tr.skip ?_
       replace h:=si h; subst h
       exact Qn [] ⟨(Qcg (ltB hM hk3)),(sm rfl),(sm rfl),(kSlB (ltB hM hk7)),(sm rfl),(sm rfl),tv⟩ tv rfl
    ·obtain ⟨out25,rfl⟩ : ∃ x,x = z:=⟨_,rfl⟩
     refine Tr.rgn (Rn.bin tv rfl rfl rfl (md rfl (Rn.nil ?_)))
     exact ⟨_,h,(by exact Qx ⟨(Qcg (ltB hM hk3)),(sm rfl),(sm rfl),(kSlB (ltB hM hk7)),(sm rfl),(sm rfl),tv⟩ tv rfl)⟩
   ·replace h:=ifF hb12 h
    refine Tr.exit ?_
    replace h:=si h; subst h
    exact Qn [] ⟨(Qcg (ltB hM hk3)),(sm rfl),(sm rfl),tv⟩ tv rfl
 ·obtain ⟨out26,rfl⟩ : ∃ x,x = z:=⟨_,rfl⟩
  refine Tr.seq (sr ((Rn.mov (v:=.d (.lst 4 (List.map Qg out26))) tv rfl (Rn.lenD tv rfl (Rn.bin tv rfl rfl rfl (Rn.nil (toN ?_)))))))
  refine Tr.cond rfl (fun hb27=>?_) (fun hb27=>?_)
  ·replace h:=ifT hb27 h
   refine sr ((Rn.movTO tv rfl (Rn.movTO tv rfl (nt ((Tr.ret ?_))))))
   replace h:=si h; subst h
   exact ⟨.inr rfl,(.own 4 (List.map Qg out26)),rfl,fun _ _ _ _ h=>h,tv,fun k hk=>Qf hk⟩
  ·replace h:=ifF hb27 h
   refine Tr.skip (toN ?_)
   refine Tr.cutB (fun (out46:List Qc)=>⟨look [(5,.own 4 (List.map Qg out46))],Qr Γ.n0 (bxs []) M,Γ.n0 + 73⟩) h (fun z h=>?_) (fun z h=>?_)
   ·refine sr ((Rn.mov (v:=.ptr k2 0) tv rfl ?_))
    obtain ⟨x29,h28,h⟩:=bnd h
    refine Rn.callM (args:=[.ptr k2 0]) tv rfl (fun M2 nb2 hn hx=>H_timedsynthesis_task_distances _ k2 k4 k6 _ h28 M2 nb2 (hx _ _ (Qk hM hk3)) (hx _ _ (Qk hM hk5)) (hx _ _ (Qk hM hk7))) rfl pc9 ?_
    refine Rn.lenD tv rfl (md rfl (nt ((Tr.block ?_))))
    refine Tr.loop (mk:=fun ((out30,x31):(List Qc)×Int)=>⟨look [(0,.ptr k2 0),(1,(i_ rank8)),(5,.own 4 (List.map Qg out30)),(47,(l_ x29)),(48,(i_ (x29.length:Int))),(49,(i_ x31))],Qr Γ.n0 (bxs []) M,Γ.n0 + 73⟩) h (by exact Qx ⟨(Qcg (ltB hM hk3)),(sm rfl),(sm rfl),(sm rfl),(sm rfl),(sm rfl),tv⟩ tv rfl) (fun k32 z h=>?_)
    ·obtain ⟨out30,x31⟩:=z
     replace h:_ = some _:=h
     refine sr ((Rn.bin tv rfl rfl rfl (nt ((Tr.seq ?_)))))
     refine Tr.cond rfl (fun hb33=>?_) (fun hb33=>?_)
     ·replace h:=ifT hb33 h
      refine Tr.skip (toN ?_)
      refine Tr.cutB (fun (out45:List Qc)=>⟨look [(0,.ptr k2 0),(1,(i_ rank8)),(5,.own 4 (List.map Qg out45)),(47,(l_ x29)),(48,(i_ (x29.length:Int))),(49,(i_ x31))],Qr Γ.n0 (bxs []) M,Γ.n0 + 73⟩) h (fun z h=>?_) (fun z h=>?_)
      ·refine Tr.block (sr ((md rfl ?_)))
       obtain ⟨x34,h35,h⟩:=bnd h
       refine Rn.idxD (e:=(eI .i64)) tv rfl rfl h35 (Rn.loadC (x:=.int .i64 x34) tv rfl (md rfl (md rfl (Rn.nil (toN ?_)))))
       refine Tr.cutB (fun (x41:Bool)=>⟨look [(0,.ptr k2 0),(1,(i_ rank8)),(5,.own 4 (List.map Qg out30)),(10,(i_ x31)),(47,(l_ x29)),(48,(i_ (x29.length:Int))),(49,(i_ x31)),(64,(b_ x41))],Qr Γ.n0 (bxs []) M,Γ.n0 + 73⟩) h (fun z h=>?_) (fun z h=>?_)
       ·refine Tr.rgn (Rn.mov (v:=.ptr k2 0) tv rfl (Rn.nilchkP tv rfl (Rn.fldP (o':=9) tv rfl rfl (Rn.load (v:=.sl 1 k6 0 t1.left_.length t1.left_.length) tv rfl (Qk hM hk3) rfl rfl (md rfl ?_)))))
        obtain ⟨⟨⟩,h37,h⟩:=bnd h
        refine Rn.idxA tv rfl rfl h37 ?_
        obtain ⟨x38,h39,h⟩:=bnd h
        refine Rn.loadA (g:=(fun (x:Bool)=>[V.d (.bool x)])) (v:=(b_ x38)) (f:=0) (fun _=>rfl) tv rfl (Qk hM hk7) h39 rfl rfl (md rfl ?_)
        refine Q8 x38 (fun hb40=>?_) (fun hb40=>?_)
        ·replace h:=bT hb40 h
         refine Rn.movD (gw rfl hb40) rfl (Rn.bin (gw rfl hb40) rfl rfl rfl (Rn.pickT (v:=(b_ (decide (x34 < 0)))) tv rfl hb40 rfl (Rn.nil ?_)))
         replace h:=si h; subst h
         exact Qn [] ⟨(Qcg (ltB hM hk3)),(sm rfl),(sm rfl),(sm rfl),(sm rfl),(sm rfl),(sm rfl),(sm rfl),tv⟩ tv rfl
        ·replace h:=bF hb40 h
         refine Rn.sk (nw rfl hb40) (Rn.sk (nw rfl hb40) (Rn.pickF (v:=(b_ false)) tv rfl hb40 rfl (Rn.nil ?_)))
         replace h:=si h; subst h
         exact Qn [] ⟨(Qcg (ltB hM hk3)),(sm rfl),(sm rfl),(sm rfl),(sm rfl),(sm rfl),(sm rfl),(sm rfl),tv⟩ tv rfl
       ·obtain ⟨x41,rfl⟩ : ∃ x,x = z:=⟨_,rfl⟩
        refine Tr.cond rfl (fun hb42=>?_) (fun hb42=>?_)
        ·replace h:=bT hb42 h
         refine Tr.rgn (Rn.movTO tv rfl (md rfl (md rfl (Rn.build (v:=.agg [(i_ x31),(i_ rank8),(i_ 3),(i_ (-1))]) tv rfl (Rn.bslice (xs:=[.agg [(i_ x31),(i_ rank8),(i_ 3),(i_ (-1))]]) (cs:=[(i_ x31),(i_ rank8),(i_ 3),(i_ (-1))]) tv rfl rfl rfl rfl ?_)))))
         obtain ⟨x43,h44,h⟩:=bnd h
         refine Rn.app (e:=Qg) tv rfl rfl rfl (Qg2 rfl rfl rfl) h44 rfl (Rn.movTO tv rfl (Rn.nil ?_))
         replace h:=si h; subst h
         exact Qn [69] ⟨(Qcg (ltB hM hk3)),(sm rfl),(sm rfl),(sm rfl),(sm rfl),(sm rfl),tv⟩ tv rfl
        ·replace h:=bF hb42 h
         refine Tr.skip ?_
         replace h:=si h; subst h
         exact Qn [] ⟨(Qcg (ltB hM hk3)),(sm rfl),(sm rfl),(sm rfl),(sm rfl),(sm rfl),tv⟩ tv rfl
      ·obtain ⟨out45,rfl⟩ : ∃ x,x = z:=⟨_,rfl⟩
       refine Tr.rgn (Rn.bin tv rfl rfl rfl (md rfl (Rn.nil ?_)))
       exact ⟨_,h,(by exact Qx ⟨(Qcg (ltB hM hk3)),(sm rfl),(sm rfl),(sm rfl),(sm rfl),(sm rfl),tv⟩ tv rfl)⟩
     ·replace h:=ifF hb33 h
      refine Tr.exit ?_
      replace h:=si h; subst h
      exact Qn [] ⟨(sm rfl),tv⟩ tv rfl
   ·obtain ⟨out46,rfl⟩ : ∃ x,x = z:=⟨_,rfl⟩
    refine sr ((Rn.movTO tv rfl (Rn.movTO tv rfl (nt ((Tr.ret ?_))))))
    replace h:=si h; subst h
    exact ⟨.inr rfl,(.own 4 (List.map Qg out46)),rfl,fun _ _ _ _ h=>h,tv,fun k hk=>Qf hk⟩
theorem Qmv {P:Program} {c:Nat} (hcf:Q1 P c = some Qe4):Qe3 P c (Qbm):=by
 intro x1 x2 x5 k3 k6 k8 k10 k12 r h
 intro M nb hk4 hk7 hk9 hk11 hk13
 refine Qg8 hcf rfl M nb fun Γ hP hnt hn0 hM=>?_
 subst hP hn0
 refine Tr.init [(0,(Qbv x1)),(1,.ptr k3 0),(2,.ptr k6 0)] rfl ?_
 unfold Qbm at h
 unfold Qe4
 refine sr ((Rn.box (v:=(Qbv x1)) (cs:=(Qbx x1)) tv rfl rfl rfl rfl rfl (md rfl (nt ((Tr.seq ?_))))))
 refine Tr.rgnD (by decide) ?_
 refine Rn.fldP (o':=1) tv rfl rfl (Rn.load (v:=(i_ x1.Event)) tv rfl (Qi rfl) rfl rfl (Rn.fldP (o':=7) tv rfl rfl (Rn.load (v:=(i_ x2.Tick)) tv rfl (Qk hM hk4) rfl rfl (Rn.bin tv rfl rfl rfl (md rfl ?_)))))
 refine Q8 (x1.Event == x2.Tick) (fun hb14=>?_) (fun hb14=>?_)
 ·replace h:=bT hb14 h
  refine Rn.load (v:=.ptr k8 0) (gw rfl hb14) rfl (Qk hM hk7) rfl rfl (Rn.nilchkP (gw rfl hb14) rfl (Rn.fldP (o':=9) (gw rfl hb14) rfl rfl (Rn.load (v:=.sl 1 k12 0 x5.left_.length x5.left_.length) (gw rfl hb14) rfl (Qk hM hk9) rfl rfl (Rn.fldP (o':=2) (gw rfl hb14) rfl rfl (Rn.load (v:=(i_ x1.To)) (gw rfl hb14) rfl (Qi rfl) rfl rfl ?_)))))
  obtain ⟨⟨⟩,h16,h⟩:=bnd h
  refine Rn.idxA (gw rfl hb14) rfl rfl h16 ?_
  obtain ⟨x17,h18,h⟩:=bnd h
  refine Rn.loadA (g:=(fun (x:Bool)=>[V.d (.bool x)])) (v:=(b_ x17)) (f:=0) (fun _=>rfl) (gw rfl hb14) rfl (Qk hM hk13) h18 rfl rfl (Rn.un (gw rfl hb14) rfl rfl (Rn.pickT (v:=(b_ (!x17))) tv rfl hb14 rfl (md rfl ?_)))
  refine Rn.nil ⟨rfl,?_⟩
  refine toN (Tr.ret ?_)
  replace h:=si h; subst h
  exact ⟨.inr rfl,(b_ (!x17)),rfl,fun _ _ _ _ h=>h,tv,fun k hk=>Qf hk⟩
 ·replace h:=bF hb14 h
  refine Rn.sk (nw rfl hb14) (Rn.sk (nw rfl hb14) (Rn.sk (nw rfl hb14) (Rn.sk (nw rfl hb14) (Rn.sk (nw rfl hb14) (Rn.sk (nw rfl hb14) (Rn.sk (nw rfl hb14) (Rn.sk (nw rfl hb14) (Rn.sk (nw rfl hb14) (Rn.pickF (v:=(b_ false)) tv rfl hb14 rfl (md rfl ?_))))))))))
  refine Rn.nil ⟨rfl,?_⟩
  refine toN (Tr.ret ?_)
  replace h:=si h; subst h
  exact ⟨.inr rfl,(b_ false),rfl,fun _ _ _ _ h=>h,tv,fun k hk=>Qf hk⟩
theorem Q16 {P:Program} {c:Nat} (hcf:Q1 P c = some Qlz):Qly P c (Qdc):=by
 intro s1 r h
 refine Qf3 hcf rfl fun Γ M hP hnt hM=>?_
 subst hP
 refine Tr.init [(0,(l_ s1))] rfl ?_
 unfold Qdc at h
 unfold Qlz
 refine sr ((Rn.movTC (v:=.nils 1) tv (nt ((Tr.seq (sr ((md rfl ?_))))))))
 refine Rn.isnil (e:=(eI .i64)) tv rfl h (fun b2 h=>?_)
 refine Rn.nil (toN ?_)
 refine Tr.cond rfl (fun hb3=>?_) (fun hb3=>?_)
 ·replace h:=bT hb3 h
  refine sr ((Rn.movTC (v:=.nils 1) tv (nt ((Tr.ret ?_)))))
  replace h:=si h; subst h
  exact ⟨.inr rfl,(.nils 1),rfl,(WkV.nilsO _).rd,tv,fun k hk=>Qf hk⟩
 ·replace h:=bF hb3 h
  refine Tr.skip (toN (sr ((Rn.bslice (xs:=[]) (cs:=[]) tv rfl rfl rfl rfl (md rfl ?_)))))
  obtain ⟨x4,h5,h⟩:=bnd h
  refine Rn.app0 (e:=(eI .i64)) tv rfl rfl rfl rfl Qbgd h5 rfl (Rn.movTO tv rfl (nt ((Tr.ret ?_))))
  replace h:=si h; subst h
  exact ⟨.inr rfl,(o_ x4),rfl,fun _ _ _ _ h=>h,tv,fun k hk=>Qf hk⟩
theorem Qkg {P:Program} {c:Nat} {Qh:(List Int)→Int→Option Bool} {Qdc:(List Int)→Option ((List Int))}
    (H_alphabet_Contains:Qbz P 50 Qh)
    (H_slices_Clone_int:Qly P 72 Qdc) (hcf:Q1 P c = some Qd9) (fuel:Nat):Qd8 P c (Q9 Qh Qdc fuel):=by
 intro t1 k2 k4 k6 r h
 intro M nb hk3 hk5 hk7
 refine Qg8 hcf rfl M nb fun Γ hP hnt hn0 hM=>?_
 subst hP hn0
 refine Tr.init [(0,.ptr k2 0)] rfl ?_
 unfold Q9 at h
 unfold Qd9
 refine sr ((Rn.alloc tv rfl (Rn.movTC (v:=.nils 1) tv (nt ((sr ((Rn.mov (v:=.ptr k2 0) tv rfl (Rn.nilchkP tv rfl (Rn.fldP (o':=0) tv rfl rfl (Rn.fldP (o':=0) tv rfl rfl (Rn.fldP (o':=0) tv rfl rfl (Rn.load (v:=(l_ t1.zN.zA.zJ)) tv rfl (Qk hM hk3) rfl rfl ?_)))))))))))))
 obtain ⟨x9,h8,h⟩:=bnd h
 refine Rn.call (args:=[(l_ t1.zN.zA.zJ)]) tv rfl (H_slices_Clone_int _ _ h8) pc9 (Rn.buildT (v:=.agg [(o_ x9),(i_ 0),.nils 1,.nils 3]) tv rfl (Rn.alloc tv rfl (Rn.storeT (v:=.agg [(o_ x9),(i_ 0),.nils 1,.nils 3]) (ds:=[(o_ x9),(i_ 0),.nils 1,.nils 3]) (cs':=[(o_ x9),(i_ 0),.nils 1,.nils 3]) tv rfl rfl rfl rfl rfl rfl rfl (nt ((sr ((Rn.movTC (v:=.nils 1) tv (nt ((sr ((Rn.mkmap tv rfl (fun (x:Int)=>((i_ x):V)) (fun (x:Int)=>((i_ x):V)) (Rn.mov (v:=.mp (Γ.n0 + 20)) tv rfl (Rn.nil (toN ?_))))))))))))))))
 refine Tr.cutB (fun ((origins19,c20):(List Int)×(List (Int×Int)))=>⟨look [(0,.ptr k2 0),(2,.ptr (Γ.n0 + 2) 0),(4,.ptr (Γ.n0 + 4) 0),(5,(o_ origins19)),(6,.mp (Γ.n0 + 20))],Qr Γ.n0 (bxs [(2,.cells ([.nils 1,(i_ 0),.nils 1,.nils 3])),(4,.cells ([(o_ x9),(i_ 0),.nils 1,.nils 3])),(20,.mp (mapE (fun (x:Int)=>((i_ x):V)) (fun (x:Int)=>((i_ x):V)) 0 c20) (c20).length)]) M,Γ.n0 + 124⟩) h (fun z h=>?_) (fun z h=>?_)
 ·refine Tr.cutB (fun (x15:Bool)=>⟨look [(0,.ptr k2 0),(2,.ptr (Γ.n0 + 2) 0),(4,.ptr (Γ.n0 + 4) 0),(5,.nils 1),(6,.mp (Γ.n0 + 20)),(34,(b_ x15))],Qr Γ.n0 (bxs [(2,.cells ([.nils 1,(i_ 0),.nils 1,.nils 3])),(4,.cells ([(o_ x9),(i_ 0),.nils 1,.nils 3])),(20,.mp (mapE (fun (x:Int)=>((i_ x):V)) (fun (x:Int)=>((i_ x):V)) 0 []) (([]:List (Int×Int))).length)]) M,Γ.n0 + 124⟩) h (fun z h=>?_) (fun z h=>?_)
  ·refine Tr.rgn (Rn.mov (v:=.ptr k2 0) tv rfl (Rn.nilchkP tv rfl (Rn.fldP (o':=9) tv rfl rfl (Rn.load (v:=.sl 1 k6 0 t1.left_.length t1.left_.length) tv rfl (Qk hM hk3) rfl rfl (Rn.lenA tv rfl (Rn.bin tv rfl rfl rfl (md rfl ?_)))))))
   refine Q8 (decide ((t1.left_.length:Int) > 0)) (fun hb10=>?_) (fun hb10=>?_)
   ·replace h:=ifT hb10 h
    refine Rn.mov (v:=.ptr k2 0) (gw rfl hb10) rfl (Rn.nilchkP (gw rfl hb10) rfl (Rn.fldP (o':=9) (gw rfl hb10) rfl rfl (Rn.load (v:=.sl 1 k6 0 t1.left_.length t1.left_.length) (gw rfl hb10) rfl (Qk hM hk3) rfl rfl ?_)))
    obtain ⟨⟨⟩,h12,h⟩:=bnd h
    refine Rn.idxA (gw rfl hb10) rfl rfl h12 ?_
    obtain ⟨x13,h14,h⟩:=bnd h
    refine Rn.loadA (g:=(fun (x:Bool)=>[V.d (.bool x)])) (v:=(b_ x13)) (f:=0) (fun _=>rfl) (gw rfl hb10) rfl (Qk hM hk7) h14 rfl rfl (Rn.pickT (v:=(b_ x13)) tv rfl hb10 rfl (Rn.nil ?_))
    replace h:=si h; subst h
    exact Qn [] ⟨(Qcg (ltB hM hk3)),(kPtr rfl),(kPtr rfl),(sm rfl),(kMp rfl),(sm rfl),tv⟩ ⟨⟨_,rfl,rfl,(.same rfl)⟩,⟨_,rfl,rfl,(.same rfl)⟩,⟨rfl,rfl⟩,tv⟩ rfl
   ·replace h:=ifF hb10 h
    refine Rn.sk (nw rfl hb10) (Rn.sk (nw rfl hb10) (Rn.sk (nw rfl hb10) (Rn.sk (nw rfl hb10) (Rn.sk (nw rfl hb10) (Rn.sk (nw rfl hb10) (Rn.pickF (v:=(b_ false)) tv rfl hb10 rfl (Rn.nil ?_)))))))
    replace h:=si h; subst h
    exact Qn [] ⟨(Qcg (ltB hM hk3)),(kPtr rfl),(kPtr rfl),(sm rfl),(kMp rfl),(sm rfl),tv⟩ ⟨⟨_,rfl,rfl,(.same rfl)⟩,⟨_,rfl,rfl,(.same rfl)⟩,⟨rfl,rfl⟩,tv⟩ rfl
  ·obtain ⟨x15,rfl⟩ : ∃ x,x = z:=⟨_,rfl⟩
   refine Tr.cond rfl (fun hb16=>?_) (fun hb16=>?_)
   ·replace h:=bT hb16 h
    refine sr ((Rn.movTF (v:=.nils 1) tv rfl rfl (Rn.bslice (xs:=[(i_ 0)]) (cs:=[(i_ 0)]) tv rfl rfl rfl rfl ?_)))
    refine Rn.weak (by show WeakSt Γ _ ⟨look [(0,.ptr k2 0),(2,.ptr (Γ.n0 + 2) 0),(4,.ptr (Γ.n0 + 4) 0),(5,.nils 1),(6,.mp (Γ.n0 + 20)),(34,(b_ x15)),(35,.own 1 (List.map (eI .i64) [])),(36,.sl 1 (Γ.n0 + 36) 0 1 1)],Qr Γ.n0 (bxs [(2,.cells ([.nils 1,(i_ 0),.nils 1,.nils 3])),(4,.cells ([(o_ x9),(i_ 0),.nils 1,.nils 3])),(20,.mp (mapE (fun (x:Int)=>((i_ x):V)) (fun (x:Int)=>((i_ x):V)) 0 []) (([]:List (Int×Int))).length),(36,.cells ([(i_ 0)]))]) M,Γ.n0 + 124⟩; exact Qn [] ⟨(Qcg (ltB hM hk3)),(kPtr rfl),(kPtr rfl),(sm rfl),(kMp rfl),(sm rfl),(WkV.nilsO _),(kSl rfl),tv⟩ ⟨⟨_,rfl,rfl,(.same rfl)⟩,⟨_,rfl,rfl,(.same rfl)⟩,⟨rfl,rfl⟩,⟨_,rfl,rfl,(.same rfl)⟩,tv⟩ rfl) ?_
    obtain ⟨x17,h18,h⟩:=bnd h
    refine Rn.app (e:=(eI .i64)) tv rfl rfl rfl (Qg2 rfl rfl rfl) h18 rfl (Rn.movTO tv rfl (nt ((Tr.rgn (Rn.mov (v:=.mp (Γ.n0 + 20)) tv rfl (Rn.mapset (ek:=(fun (x:Int)=>((i_ x):V))) (ev:=(fun (x:Int)=>((i_ x):V))) (m:=([]:List (Int×Int))) (k:=0) (v:=0) (fun _ _=>rfl) (fun _=>rfl) (fun _=>rfl) tv rfl rfl rfl rfl rfl (Rn.nil ?_)))))))
    replace h:=si h; subst h
    exact Qn [36] ⟨(Qcg (ltB hM hk3)),(kPtr rfl),(kPtr rfl),(sm rfl),(kMp rfl),tv⟩ ⟨⟨_,rfl,rfl,(.same rfl)⟩,⟨_,rfl,rfl,(.same rfl)⟩,⟨rfl,rfl⟩,tv⟩ rfl
   ·replace h:=bF hb16 h
    refine Tr.skip ?_
    replace h:=si h; subst h
    exact Qn [] ⟨(Qcg (ltB hM hk3)),(kPtr rfl),(kPtr rfl),(WkV.nilsO _),(kMp rfl),tv⟩ ⟨⟨_,rfl,rfl,(.same rfl)⟩,⟨_,rfl,rfl,(.same rfl)⟩,⟨rfl,rfl⟩,tv⟩ rfl
 ·obtain ⟨origins19,c20⟩:=z
  refine Tr.cutB (fun ((origins75,c76,c77,c78,a79,a80,c81):(List Int)×(List Int)×(List Int)×(List Qe)×(List Int)×(List Qe)×(List (Int×Int)))=>⟨look [(2,.ptr (Γ.n0 + 2) 0),(4,.ptr (Γ.n0 + 4) 0),(5,(o_ origins75))],Qr Γ.n0 (bxs [(2,.cells ([(o_ c76),(i_ 0),(o_ c77),.own 3 (List.map Qb c78)])),(4,.cells ([(o_ x9),(i_ 0),(o_ a79),.own 3 (List.map Qb a80)])),(20,.mp (mapE (fun (x:Int)=>((i_ x):V)) (fun (x:Int)=>((i_ x):V)) 0 c81) (c81).length)]) M,Γ.n0 + 124⟩) h (fun z h=>?_) (fun z h=>?_)
  ·refine sr ((md rfl (nt ((Tr.block ?_)))))
   refine Tr.loop (mk:=fun ((origins21,i22,c23,c24,c25,a26,a27,c28):(List Int)×Int×(List Int)×(List Int)×(List Qe)×(List Int)×(List Qe)×(List (Int×Int)))=>⟨look [(0,.ptr k2 0),(2,.ptr (Γ.n0 + 2) 0),(4,.ptr (Γ.n0 + 4) 0),(5,(o_ origins21)),(6,.mp (Γ.n0 + 20)),(7,(i_ i22))],Qr Γ.n0 (bxs [(2,.cells ([(o_ c23),(i_ 0),(o_ c24),.own 3 (List.map Qb c25)])),(4,.cells ([(o_ x9),(i_ 0),(o_ a26),.own 3 (List.map Qb a27)])),(20,.mp (mapE (fun (x:Int)=>((i_ x):V)) (fun (x:Int)=>((i_ x):V)) 0 c28) (c28).length)]) M,Γ.n0 + 124⟩) h (by exact Qx ⟨(Qcg (ltB hM hk3)),(kPtr rfl),(kPtr rfl),(sm rfl),(kMp rfl),(sm rfl),tv⟩ ⟨⟨_,rfl,rfl,(.cons (WkV.nilsO _) (.cons (sm rfl) (.cons (WkV.nilsO _) (.cons (WkV.nilsO _) .nil))))⟩,⟨_,rfl,rfl,(.cons (sm rfl) (.cons (sm rfl) (.cons (WkV.nilsO _) (.cons (WkV.nilsO _) .nil))))⟩,⟨rfl,rfl⟩,tv⟩ rfl) (fun k29 z h=>?_)
   ·obtain ⟨origins21,i22,c23,c24,c25,a26,a27,c28⟩:=z
    replace h:_ = some _:=h
    refine Tr.seq (sr ((md rfl (Rn.mov (v:=(l_ origins21)) tv rfl (Rn.lenD tv rfl (Rn.bin tv rfl rfl rfl (Rn.nil (toN ?_))))))))
    refine Tr.cond rfl (fun hb30=>?_) (fun hb30=>?_)
    ·replace h:=ifT hb30 h
     refine Tr.skip (toN ?_)
     refine Tr.cutB (fun ((origins71,a72,a73,c74):(List Int)×(List Int)×(List Qe)×(List (Int×Int)))=>⟨look [(0,.ptr k2 0),(2,.ptr (Γ.n0 + 2) 0),(4,.ptr (Γ.n0 + 4) 0),(5,(o_ origins71)),(6,.mp (Γ.n0 + 20)),(7,(i_ i22))],Qr Γ.n0 (bxs [(2,.cells ([(o_ c23),(i_ 0),(o_ c24),.own 3 (List.map Qb c25)])),(4,.cells ([(o_ x9),(i_ 0),(o_ a72),.own 3 (List.map Qb a73)])),(20,.mp (mapE (fun (x:Int)=>((i_ x):V)) (fun (x:Int)=>((i_ x):V)) 0 c74) (c74).length)]) M,Γ.n0 + 124⟩) h (fun z h=>?_) (fun z h=>?_)
     ·refine Tr.block ?_
      refine Tr.cutB (fun (a38:List Int)=>⟨look [(0,.ptr k2 0),(2,.ptr (Γ.n0 + 2) 0),(4,.ptr (Γ.n0 + 4) 0),(5,(o_ origins21)),(6,.mp (Γ.n0 + 20)),(7,(i_ i22))],Qr Γ.n0 (bxs [(2,.cells ([(o_ c23),(i_ 0),(o_ c24),.own 3 (List.map Qb c25)])),(4,.cells ([(o_ x9),(i_ 0),(o_ a38),.own 3 (List.map Qb a27)])),(20,.mp (mapE (fun (x:Int)=>((i_ x):V)) (fun (x:Int)=>((i_ x):V)) 0 c28) (c28).length)]) M,Γ.n0 + 124⟩) h (fun z h=>?_) (fun z h=>?_)
      ·refine Tr.seq ?_
       refine Tr.rgnD (by decide) ?_
       refine Rn.mov (v:=.ptr k2 0) tv rfl (Rn.nilchkP tv rfl (Rn.fldP (o':=0) tv rfl rfl (Rn.fldP (o':=0) tv rfl rfl (Rn.fldP (o':=2) tv rfl rfl (Rn.load (v:=(l_ t1.zN.zA.zK)) tv rfl (Qk hM hk3) rfl rfl (Rn.mov (v:=(l_ origins21)) tv rfl (md rfl ?_)))))))
       obtain ⟨x31,h32,h⟩:=bnd h
       refine Rn.idxD (e:=(eI .i64)) tv rfl rfl h32 (Rn.loadC (x:=.int .i64 x31) tv rfl ?_)
       obtain ⟨x34,h33,h⟩:=bnd h
       refine Rn.call (args:=[(l_ t1.zN.zA.zK),(i_ x31)]) tv rfl (H_alphabet_Contains _ _ _ h33) pc0 ?_
       refine Rn.nil ⟨rfl,?_⟩
       refine toN ?_
       refine Tr.cond rfl (fun hb35=>?_) (fun hb35=>?_)
       ·replace h:=bT hb35 h
        refine Tr.rgn (Rn.fldP (o':=2) tv rfl rfl (Rn.loadT (cs':=[(o_ x9),(i_ 0),(l_ a26),.own 3 (List.map Qb a27)]) tv rfl rfl rfl rfl (md rfl (Rn.bslice (xs:=[(i_ i22)]) (cs:=[(i_ i22)]) tv rfl rfl rfl rfl ?_))))
        obtain ⟨x36,h37,h⟩:=bnd h
        refine Rn.app (e:=(eI .i64)) tv rfl rfl rfl (Qg2 rfl rfl rfl) h37 rfl (Rn.fldP (o':=2) tv rfl rfl (Rn.storeO (cs':=[(o_ x9),(i_ 0),(o_ x36),.own 3 (List.map Qb a27)]) tv rfl rfl rfl rfl rfl (Rn.nil ?_)))
        replace h:=si h; subst h
        exact Qn [59] ⟨(Qcg (ltB hM hk3)),(kPtr rfl),(kPtr rfl),(sm rfl),(kMp rfl),(sm rfl),tv⟩ ⟨⟨_,rfl,rfl,(.same rfl)⟩,⟨_,rfl,rfl,(.same rfl)⟩,⟨rfl,rfl⟩,tv⟩ rfl
       ·replace h:=bF hb35 h
        refine Tr.skip ?_
        replace h:=si h; subst h
        exact Qn [] ⟨(Qcg (ltB hM hk3)),(kPtr rfl),(kPtr rfl),(sm rfl),(kMp rfl),(sm rfl),tv⟩ ⟨⟨_,rfl,rfl,(.same rfl)⟩,⟨_,rfl,rfl,(.same rfl)⟩,⟨rfl,rfl⟩,tv⟩ rfl
      ·obtain ⟨a38,rfl⟩ : ∃ x,x = z:=⟨_,rfl⟩
       refine Tr.seq ?_
       refine Tr.rgnD (by decide) ?_
       refine Rn.mov (v:=.ptr k2 0) tv rfl (Rn.nilchkP tv rfl (Rn.fldP (o':=8) tv rfl rfl (Rn.load (v:=.sl 1 k4 0 t1.from_.length t1.from_.length) tv rfl (Qk hM hk3) rfl rfl (Rn.mov (v:=(l_ origins21)) tv rfl (md rfl ?_)))))
       obtain ⟨x39,h40,h⟩:=bnd h
       refine Rn.idxD (e:=(eI .i64)) tv rfl rfl h40 (Rn.loadC (x:=.int .i64 x39) tv rfl ?_)
       obtain ⟨⟨⟩,h42,h⟩:=bnd h
       refine Rn.idxA tv rfl rfl h42 ?_
       obtain ⟨x43,h44,h⟩:=bnd h
       refine Rn.loadA (g:=(fun (x:List Qe)=>[V.d (.lst 3 (List.map Qb x))])) (v:=.d (.lst 3 (List.map Qb x43))) (f:=0) (fun _=>rfl) tv rfl (Qk hM hk5) h44 rfl rfl (Rn.lenD tv rfl (md rfl ?_))
       refine Rn.nil ⟨rfl,?_⟩
       refine toN (Tr.block ?_)
       refine Tr.loop (mk:=fun ((origins45,x46,a47,c48):(List Int)×Int×(List Qe)×(List (Int×Int)))=>⟨look [(0,.ptr k2 0),(2,.ptr (Γ.n0 + 2) 0),(4,.ptr (Γ.n0 + 4) 0),(5,(o_ origins45)),(6,.mp (Γ.n0 + 20)),(7,(i_ i22)),(71,.d (.lst 3 (List.map Qb x43))),(72,(i_ (x43.length:Int))),(73,(i_ x46))],Qr Γ.n0 (bxs [(2,.cells ([(o_ c23),(i_ 0),(o_ c24),.own 3 (List.map Qb c25)])),(4,.cells ([(o_ x9),(i_ 0),(o_ a38),.own 3 (List.map Qb a47)])),(20,.mp (mapE (fun (x:Int)=>((i_ x):V)) (fun (x:Int)=>((i_ x):V)) 0 c48) (c48).length)]) M,Γ.n0 + 124⟩) h (by exact Qx ⟨(Qcg (ltB hM hk3)),(kPtr rfl),(kPtr rfl),(sm rfl),(kMp rfl),(sm rfl),(sm rfl),(sm rfl),(sm rfl),tv⟩ ⟨⟨_,rfl,rfl,(.same rfl)⟩,⟨_,rfl,rfl,(.same rfl)⟩,⟨rfl,rfl⟩,tv⟩ rfl) (fun k49 z h=>?_)
       ·obtain ⟨origins45,x46,a47,c48⟩:=z
        replace h:_ = some _:=h
        refine sr ((Rn.bin tv rfl rfl rfl (nt ((Tr.seq ?_)))))
        refine Tr.cond rfl (fun hb50=>?_) (fun hb50=>?_)
        ·replace h:=ifT hb50 h
         refine Tr.skip (toN ?_)
         refine Tr.cutB (fun ((origins65,a66,c67,c68,c69,c70):(List Int)×(List Qe)×(List (Int×Int))×Int×Int×Int)=>⟨look [(0,.ptr k2 0),(2,.ptr (Γ.n0 + 2) 0),(4,.ptr (Γ.n0 + 4) 0),(5,(o_ origins65)),(6,.mp (Γ.n0 + 20)),(7,(i_ i22)),(71,.d (.lst 3 (List.map Qb x43))),(72,(i_ (x43.length:Int))),(73,(i_ x46))],Qr Γ.n0 (bxs [(2,.cells ([(o_ c23),(i_ 0),(o_ c24),.own 3 (List.map Qb c25)])),(4,.cells ([(o_ x9),(i_ 0),(o_ a38),.own 3 (List.map Qb a66)])),(9,.cells ([(i_ c68),(i_ c69),(i_ c70)])),(20,.mp (mapE (fun (x:Int)=>((i_ x):V)) (fun (x:Int)=>((i_ x):V)) 0 c67) (c67).length)]) M,Γ.n0 + 124⟩) h (fun z h=>?_) (fun z h=>?_)
         ·refine Tr.block (Tr.seq (Tr.rgn ?_))
          obtain ⟨x51,h52,h⟩:=bnd h
          refine Rn.idxD (e:=Qb) tv rfl rfl h52 (Rn.loadCA (vs:=(Qbx x51)) tv rfl rfl rfl (Rn.alloc tv rfl (Rn.store (v:=(Qbv x51)) (cs':=(Qbx x51)) tv rfl rfl rfl rfl rfl rfl (nt ((Tr.seq (Tr.seq ?_)))))))
          refine Tr.rgnD (by decide) ?_
          refine Rn.mov (v:=.ptr k2 0) tv rfl (Rn.nilchkP tv rfl (Rn.fldP (o':=9) tv rfl rfl (Rn.load (v:=.sl 1 k6 0 t1.left_.length t1.left_.length) tv rfl (Qk hM hk3) rfl rfl (Rn.fldP (o':=2) tv rfl rfl (Rn.load (v:=(i_ x51.To)) tv rfl (Qi rfl) rfl rfl ?_)))))
          obtain ⟨⟨⟩,h54,h⟩:=bnd h
          refine Rn.idxA tv rfl rfl h54 ?_
          obtain ⟨x55,h56,h⟩:=bnd h
          refine Rn.loadA (g:=(fun (x:Bool)=>[V.d (.bool x)])) (v:=(b_ x55)) (f:=0) (fun _=>rfl) tv rfl (Qk hM hk7) h56 rfl rfl (Rn.un tv rfl rfl ?_)
          refine Rn.nil ⟨rfl,?_⟩
          refine toN ?_
          refine Tr.cond rfl (fun hb57=>?_) (fun hb57=>?_)
          ·have hb57:=nT' hb57
           replace h:=bF hb57 h
           refine Tr.exit ?_
           replace h:=si h; subst h
           exact Qn [] ⟨(Qcg (ltB hM hk3)),(kPtr rfl),(kPtr rfl),(sm rfl),(kMp rfl),(sm rfl),(sm rfl),(sm rfl),(sm rfl),tv⟩ ⟨⟨_,rfl,rfl,(.same rfl)⟩,⟨_,rfl,rfl,(.same rfl)⟩,⟨_,rfl,rfl,(.same rfl)⟩,⟨rfl,rfl⟩,tv⟩ rfl
          ·have hb57:=nF' hb57
           replace h:=bT hb57 h
           refine Tr.skip (toN ?_)
           refine Tr.cutB (fun ((origins61,c62):(List Int)×(List (Int×Int)))=>⟨look [(0,.ptr k2 0),(2,.ptr (Γ.n0 + 2) 0),(4,.ptr (Γ.n0 + 4) 0),(5,(o_ origins61)),(6,.mp (Γ.n0 + 20)),(7,(i_ i22)),(9,.ptr (Γ.n0 + 9) 0),(71,.d (.lst 3 (List.map Qb x43))),(72,(i_ (x43.length:Int))),(73,(i_ x46))],Qr Γ.n0 (bxs [(2,.cells ([(o_ c23),(i_ 0),(o_ c24),.own 3 (List.map Qb c25)])),(4,.cells ([(o_ x9),(i_ 0),(o_ a38),.own 3 (List.map Qb a47)])),(9,.cells ((Qbx x51))),(20,.mp (mapE (fun (x:Int)=>((i_ x):V)) (fun (x:Int)=>((i_ x):V)) 0 c62) (c62).length)]) M,Γ.n0 + 124⟩) h (fun z h=>?_) (fun z h=>?_)
           ·refine sr ((Rn.mov (v:=.mp (Γ.n0 + 20)) tv rfl (Rn.fldP (o':=2) tv rfl rfl (Rn.load (v:=(i_ x51.To)) tv rfl (Qi rfl) rfl rfl (Rn.lookupC (ek:=(fun (x:Int)=>((i_ x):V))) (ev:=(fun (x:Int)=>((i_ x):V))) (m:=c48) (k:=x51.To) (fun _ _=>rfl) (fun _=>rfl) (fun _=>rfl) 0 rfl tv rfl rfl rfl (Rn.mov (v:=.tup [(i_ (getM c48 x51.To 0)),(b_ (hasM c48 x51.To))]) tv rfl (Rn.ext (v:=(i_ (getM c48 x51.To 0))) (vs:=[(i_ (getM c48 x51.To 0)),(b_ (hasM c48 x51.To))]) tv rfl rfl rfl (Rn.ext (v:=(b_ (hasM c48 x51.To))) (vs:=[(i_ (getM c48 x51.To 0)),(b_ (hasM c48 x51.To))]) tv rfl rfl rfl (md rfl (md rfl (nt ((sr ((md rfl (Rn.un tv rfl rfl (Rn.nil (toN ?_))))))))))))))))))
            refine Tr.cond rfl (fun hb58=>?_) (fun hb58=>?_)
            ·have hb58:=nT' hb58
             replace h:=bF hb58 h
             refine sr ((Rn.mov (v:=.mp (Γ.n0 + 20)) tv rfl (Rn.fldP (o':=2) tv rfl rfl (Rn.load (v:=(i_ x51.To)) tv rfl (Qi rfl) rfl rfl (Rn.mov (v:=(l_ origins45)) tv rfl (Rn.lenD tv rfl (Rn.mapset (ek:=(fun (x:Int)=>((i_ x):V))) (ev:=(fun (x:Int)=>((i_ x):V))) (m:=c48) (k:=x51.To) (v:=(origins45.length:Int)) (fun _ _=>rfl) (fun _=>rfl) (fun _=>rfl) tv rfl rfl rfl rfl rfl (nt ((Tr.rgn (Rn.movTO tv rfl (Rn.fldP (o':=2) tv rfl rfl (Rn.load (v:=(i_ x51.To)) tv rfl (Qi rfl) rfl rfl (Rn.bslice (xs:=[(i_ x51.To)]) (cs:=[(i_ x51.To)]) tv rfl rfl rfl rfl ?_))))))))))))))
             obtain ⟨x59,h60,h⟩:=bnd h
             refine Rn.app (e:=(eI .i64)) tv rfl rfl rfl (Qg2 rfl rfl rfl) h60 rfl (Rn.movTO tv rfl (Rn.nil ?_))
             replace h:=si h; subst h
             exact Qn [103] ⟨(Qcg (ltB hM hk3)),(kPtr rfl),(kPtr rfl),(sm rfl),(kMp rfl),(sm rfl),(kPtr rfl),(sm rfl),(sm rfl),(sm rfl),tv⟩ ⟨⟨_,rfl,rfl,(.same rfl)⟩,⟨_,rfl,rfl,(.same rfl)⟩,⟨_,rfl,rfl,(.same rfl)⟩,⟨rfl,rfl⟩,tv⟩ rfl
            ·have hb58:=nF' hb58
             replace h:=bT hb58 h
             refine Tr.skip ?_
             replace h:=si h; subst h
             exact Qn [] ⟨(Qcg (ltB hM hk3)),(kPtr rfl),(kPtr rfl),(sm rfl),(kMp rfl),(sm rfl),(kPtr rfl),(sm rfl),(sm rfl),(sm rfl),tv⟩ ⟨⟨_,rfl,rfl,(.same rfl)⟩,⟨_,rfl,rfl,(.same rfl)⟩,⟨_,rfl,rfl,(.same rfl)⟩,⟨rfl,rfl⟩,tv⟩ rfl
           ·obtain ⟨origins61,c62⟩:=z
            refine Tr.rgn (Rn.fldP (o':=3) tv rfl rfl (Rn.loadT (cs':=[(o_ x9),(i_ 0),(o_ a38),.d (.lst 3 (List.map Qb a47))]) tv rfl rfl rfl rfl (md rfl (Rn.fldP (o':=1) tv rfl rfl (Rn.load (v:=(i_ x51.Event)) tv rfl (Qi rfl) rfl rfl (Rn.mov (v:=.mp (Γ.n0 + 20)) tv rfl (Rn.fldP (o':=2) tv rfl rfl (Rn.load (v:=(i_ x51.To)) tv rfl (Qi rfl) rfl rfl (Rn.lookup (ek:=(fun (x:Int)=>((i_ x):V))) (ev:=(fun (x:Int)=>((i_ x):V))) (m:=c62) (k:=x51.To) (fun _ _=>rfl) (fun _=>rfl) (fun _=>rfl) 0 rfl tv rfl rfl rfl (Rn.build (v:=.agg [(i_ i22),(i_ x51.Event),(i_ (getM c62 x51.To 0))]) tv rfl (Rn.bslice (xs:=[.agg [(i_ i22),(i_ x51.Event),(i_ (getM c62 x51.To 0))]]) (cs:=[(i_ i22),(i_ x51.Event),(i_ (getM c62 x51.To 0))]) tv rfl rfl rfl rfl ?_)))))))))))
            obtain ⟨x63,h64,h⟩:=bnd h
            refine Rn.app (e:=Qb) tv rfl rfl rfl (Qg2 rfl rfl rfl) h64 rfl (Rn.fldP (o':=3) tv rfl rfl (Rn.storeO (cs':=[(o_ x9),(i_ 0),(o_ a38),.own 3 (List.map Qb x63)]) tv rfl rfl rfl rfl rfl (Rn.nil ?_)))
            replace h:=si h; subst h
            exact Qn [115] ⟨(Qcg (ltB hM hk3)),(kPtr rfl),(kPtr rfl),(sm rfl),(kMp rfl),(sm rfl),(sm rfl),(sm rfl),(sm rfl),tv⟩ ⟨⟨_,rfl,rfl,(.same rfl)⟩,⟨_,rfl,rfl,(.same rfl)⟩,⟨_,rfl,rfl,(.same rfl)⟩,⟨rfl,rfl⟩,tv⟩ rfl
         ·obtain ⟨origins65,a66,c67,c68,c69,c70⟩:=z
          refine Tr.rgn (Rn.bin tv rfl rfl rfl (md rfl (Rn.nil ?_)))
          exact ⟨_,h,(by exact Qx ⟨(Qcg (ltB hM hk3)),(kPtr rfl),(kPtr rfl),(sm rfl),(kMp rfl),(sm rfl),(sm rfl),(sm rfl),(sm rfl),tv⟩ ⟨⟨_,rfl,rfl,(.same rfl)⟩,⟨_,rfl,rfl,(.same rfl)⟩,⟨rfl,rfl⟩,tv⟩ rfl)⟩
        ·replace h:=ifF hb50 h
         refine Tr.exit ?_
         replace h:=si h; subst h
         exact Qn [] ⟨(Qcg (ltB hM hk3)),(kPtr rfl),(kPtr rfl),(sm rfl),(kMp rfl),(sm rfl),tv⟩ ⟨⟨_,rfl,rfl,(.same rfl)⟩,⟨_,rfl,rfl,(.same rfl)⟩,⟨rfl,rfl⟩,tv⟩ rfl
     ·obtain ⟨origins71,a72,a73,c74⟩:=z
      refine Tr.rgn (md rfl (Rn.bin tv rfl rfl rfl (md rfl (Rn.nil ?_))))
      exact ⟨_,h,(by exact Qx ⟨(Qcg (ltB hM hk3)),(kPtr rfl),(kPtr rfl),(sm rfl),(kMp rfl),(sm rfl),tv⟩ ⟨⟨_,rfl,rfl,(.same rfl)⟩,⟨_,rfl,rfl,(.same rfl)⟩,⟨rfl,rfl⟩,tv⟩ rfl)⟩
    ·replace h:=ifF hb30 h
     refine Tr.exit ?_
     replace h:=si h; subst h
     exact Qn [] ⟨(kPtr rfl),(kPtr rfl),(sm rfl),tv⟩ ⟨⟨_,rfl,rfl,(.same rfl)⟩,⟨_,rfl,rfl,(.same rfl)⟩,⟨rfl,rfl⟩,tv⟩ rfl
  ·obtain ⟨origins75,c76,c77,c78,a79,a80,c81⟩:=z
   refine sr ((Rn.mov (v:=(l_ origins75)) tv rfl (Rn.lenD tv rfl (Rn.fldP (o':=1) tv rfl rfl (Rn.store (v:=(i_ (origins75.length:Int))) (cs':=[(o_ x9),(i_ (origins75.length:Int)),(o_ a79),.own 3 (List.map Qb a80)]) tv rfl rfl rfl rfl rfl rfl (nt ((sr ((Rn.load (v:=.agg [(l_ x9),(i_ (origins75.length:Int)),(l_ a79),.d (.lst 3 (List.map Qb a80))]) tv rfl (Qi rfl) rfl rfl (Rn.movTO tv rfl (Rn.storeT (v:=.agg [(l_ x9),(i_ (origins75.length:Int)),(l_ a79),.d (.lst 3 (List.map Qb a80))]) (ds:=[(l_ x9),(i_ (origins75.length:Int)),(l_ a79),.d (.lst 3 (List.map Qb a80))]) (cs':=[(l_ x9),(i_ (origins75.length:Int)),(l_ a79),.d (.lst 3 (List.map Qb a80))]) tv rfl rfl rfl rfl rfl rfl rfl (Rn.movTO tv rfl (nt ((Tr.ret ?_))))))))))))))))
   replace h:=si h; subst h
   exact ⟨.inr rfl,.tup [.agg [(l_ x9),(i_ (origins75.length:Int)),(l_ a79),.d (.lst 3 (List.map Qb a80))],(o_ origins75)],res2 (Qyc rfl rfl rfl rfl) rfl,(WkV.tup (.cons (.same rfl) (.cons (.same rfl) .nil))).rd,⟨⟨tv,tv,tv,tv,tv⟩,tv,tv⟩,fun k hk=>Qf hk⟩
theorem Qpe {P:Program} {c:Nat} {Qw:Qa→Option Int} {Q2:Qa→Option Qd} {Qbr:Qd→Int→Option ((List Qc))} {Qq:Qd→Option ((List Int))} {Ql:(List Qe)→(Qe→Option Bool)→Option Bool} {Qbm:Qe→Qa→Qd→Option Bool} {Q9:Qd→Option (Qm×(List Int))}
    (H_timedsynthesis_Check:Qdr P 30 Qw)
    (H_timedsynthesis_begin:Qeh P 37 Q2)
    (H_timedsynthesis_task_round:Qfr P 38 Qbr)
    (H_timedsynthesis_task_distances:Qcz P 39 Qq)
    (H_slices_ContainsFunc_Edge:Qch P 40 Ql)
    (H_timedsynthesis_Synthesize_1:Qe3 P 41 Qbm)
    (H_timedsynthesis_task_supervisor:Qd8 P 42 Q9) (hcf:Q1 P c = some Qft) (fuel:Nat):Qd5 P c (Q0 Qw Q2 Qbr Qq Ql Qbm Q9 fuel):=by
 intro p1 r h
 refine Qf3 hcf rfl fun Γ M hP hnt hM=>?_
 subst hP
 refine Tr.init [(0,.agg [(l_ p1.zA.zJ),(i_ p1.zA.zM),(l_ p1.zA.zK),.d (.lst 3 (List.map Qb p1.zA.zL)),(l_ p1.zC),(l_ p1.zB),(l_ p1.zD),(i_ p1.Tick)])] rfl ?_
 unfold Q0 at h
 unfold Qft
 refine sr ((Rn.box (v:=.agg [(l_ p1.zA.zJ),(i_ p1.zA.zM),(l_ p1.zA.zK),.d (.lst 3 (List.map Qb p1.zA.zL)),(l_ p1.zC),(l_ p1.zB),(l_ p1.zD),(i_ p1.Tick)]) (cs:=[(l_ p1.zA.zJ),(i_ p1.zA.zM),(l_ p1.zA.zK),.d (.lst 3 (List.map Qb p1.zA.zL)),(l_ p1.zC),(l_ p1.zB),(l_ p1.zD),(i_ p1.Tick)]) tv rfl rfl rfl rfl rfl (Rn.alloc tv rfl (md rfl (nt ((Tr.seq (sr ((Rn.load (v:=.agg [(l_ p1.zA.zJ),(i_ p1.zA.zM),(l_ p1.zA.zK),.d (.lst 3 (List.map Qb p1.zA.zL)),(l_ p1.zC),(l_ p1.zB),(l_ p1.zD),(i_ p1.Tick)]) tv rfl (Qi rfl) rfl rfl ?_))))))))))
 obtain ⟨x3,h2,h⟩:=bnd h
 refine Rn.call (args:=[.agg [(l_ p1.zA.zJ),(i_ p1.zA.zM),(l_ p1.zA.zK),.d (.lst 3 (List.map Qb p1.zA.zL)),(l_ p1.zC),(l_ p1.zB),(l_ p1.zD),(i_ p1.Tick)]]) tv rfl (H_timedsynthesis_Check _ _ h2) pc9 (md rfl (nt ((sr ((md rfl (Rn.bin tv rfl rfl rfl (Rn.nil (toN ?_)))))))))
 refine Tr.cond rfl (fun hb4=>?_) (fun hb4=>?_)
 ·replace h:=bT hb4 h
  refine sr ((Rn.build (v:=.agg [.nils 1,.nils 1,.nils 4,(i_ 0),.nils 1,(i_ 0),.nils 1,.nils 3,.nils 1,.nils 1]) tv rfl (md rfl (Rn.storeT (v:=.agg [.nils 1,.nils 1,.nils 4,(i_ 0),.nils 1,(i_ 0),.nils 1,.nils 3,.nils 1,.nils 1]) (ds:=[.nils 1,.nils 1,.nils 4,(i_ 0),.nils 1,(i_ 0),.nils 1,.nils 3,.nils 1,.nils 1]) (cs':=[.nils 1,.nils 1,.nils 4,(i_ 0),.nils 1,(i_ 0),.nils 1,.nils 3,.nils 1,.nils 1]) tv rfl rfl rfl rfl rfl rfl rfl (md rfl (nt ((Tr.ret ?_))))))))
  replace h:=si h; subst h
  exact ⟨.inr rfl,.tup [.agg [.nils 1,.nils 1,.nils 4,(i_ 0),.nils 1,(i_ 0),.nils 1,.nils 3,.nils 1,.nils 1],(i_ x3)],res2 (Qyc rfl rfl rfl rfl) rfl,(WkV.tup (.cons (WkV.agg (.cons (WkV.nilsD _) (.cons (WkV.nilsD _) (.cons (WkV.nilsD _) (.cons (.same rfl) (.cons (WkV.nilsD _) (.cons (.same rfl) (.cons (WkV.nilsD _) (.cons (WkV.nilsD _) (.cons (WkV.nilsD _) (.cons (WkV.nilsD _) .nil))))))))))) (.cons (.same rfl) .nil))).rd,⟨⟨tv,tv,tv,tv,tv,tv,tv,tv,tv,tv,tv⟩,tv,tv⟩,fun k hk=>Qf hk⟩
 ·replace h:=bF hb4 h
  refine Tr.skip (toN (sr ((Rn.load (v:=.agg [(l_ p1.zA.zJ),(i_ p1.zA.zM),(l_ p1.zA.zK),.d (.lst 3 (List.map Qb p1.zA.zL)),(l_ p1.zC),(l_ p1.zB),(l_ p1.zD),(i_ p1.Tick)]) tv rfl (Qi rfl) rfl rfl ?_))))
  obtain ⟨x5,h6,h⟩:=bnd h
  refine Rn.callNew (m:=148) (args:=[.agg [(l_ p1.zA.zJ),(i_ p1.zA.zM),(l_ p1.zA.zK),.d (.lst 3 (List.map Qb p1.zA.zL)),(l_ p1.zC),(l_ p1.zB),(l_ p1.zD),(i_ p1.Tick)]]) (r':=.ptr (Γ.n0 + 165) 0) (L':=[(165,.cells [(l_ x5.zN.zA.zJ),(i_ x5.zN.zA.zM),(l_ x5.zN.zA.zK),.d (.lst 3 (List.map Qb x5.zN.zA.zL)),(l_ x5.zN.zC),(l_ x5.zN.zB),(l_ x5.zN.zD),(i_ x5.zN.Tick),.sl 1 (Γ.n0 + 159) 0 x5.from_.length x5.from_.length,.sl 1 (Γ.n0 + 163) 0 x5.left_.length x5.left_.length]),(159,.cells (Qz (fun (x:List Qe)=>[V.d (.lst 3 (List.map Qb x))]) x5.from_)),(163,.cells (Qz (fun (x:Bool)=>[V.d (.bool x)]) x5.left_))]) tv rfl (H_timedsynthesis_begin _ _ h6 _ _) rfl rfl rfl hM rfl (Rn.alloc tv rfl (Rn.store (v:=.ptr (Γ.n0 + 165) 0) (cs':=[.ptr (Γ.n0 + 165) 0]) tv rfl rfl rfl rfl rfl rfl (nt ((sr ((Rn.alloc tv rfl (nt ((sr ((Rn.load (v:=.ptr (Γ.n0 + 165) 0) tv rfl (Qi rfl) rfl rfl (Rn.nilchkP tv rfl (Rn.fldP (o':=9) tv rfl rfl (Rn.load (v:=.sl 1 (Γ.n0 + 163) 0 x5.left_.length x5.left_.length) tv rfl (Qi rfl) rfl rfl (Rn.lenA tv rfl ?_))))))))))))))))
  obtain ⟨x7,h8,h⟩:=bnd h
  refine Rn.makes (g:=(fun (x:Qc)=>[V.d (.int .i64 x.State),V.d (.int .i64 x.Rank),V.d (.int .i64 x.Reason),V.d (.int .i64 x.Event)])) tv rfl rfl rfl rfl rfl h8 (Rn.movTF (v:=.sl 4 (Γ.n0 + 30) 0 (Int.toNat (x5.left_.length:Int)) (Int.toNat (x5.left_.length:Int))) tv rfl rfl (Rn.nil (toN ?_)))
  refine Tr.cutB (fun ((r20,c21):Int×(List Qc))=>⟨look [(1,.ptr (Γ.n0 + 1) 0),(2,.ptr (Γ.n0 + 2) 0),(5,.ptr (Γ.n0 + 5) 0),(6,.ptr (Γ.n0 + 6) 0),(7,.sl 4 (Γ.n0 + 30) 0 (Int.toNat (x5.left_.length:Int)) (Int.toNat (x5.left_.length:Int)))],Qr Γ.n0 (bxs [(1,.cells ([(l_ p1.zA.zJ),(i_ p1.zA.zM),(l_ p1.zA.zK),.d (.lst 3 (List.map Qb p1.zA.zL)),(l_ p1.zC),(l_ p1.zB),(l_ p1.zD),(i_ p1.Tick)])),(2,.cells ([.nils 1,.nils 1,.nils 4,(i_ 0),.nils 1,(i_ 0),.nils 1,.nils 3,.nils 1,.nils 1])),(5,.cells ([.ptr (Γ.n0 + 165) 0])),(6,.cells ([.nils 1,.nils 1,.nils 4,(i_ r20),.nils 1,(i_ 0),.nils 1,.nils 3,.nils 1,.nils 1])),(30,.cells (Qz (fun (x:Qc)=>[V.d (.int .i64 x.State),V.d (.int .i64 x.Rank),V.d (.int .i64 x.Reason),V.d (.int .i64 x.Event)]) c21)),(159,.cells (Qz (fun (x:List Qe)=>[V.d (.lst 3 (List.map Qb x))]) x5.from_)),(163,.cells (Qz (fun (x:Bool)=>[V.d (.bool x)]) x5.left_)),(165,.cells ([(l_ x5.zN.zA.zJ),(i_ x5.zN.zA.zM),(l_ x5.zN.zA.zK),.d (.lst 3 (List.map Qb x5.zN.zA.zL)),(l_ x5.zN.zC),(l_ x5.zN.zB),(l_ x5.zN.zD),(i_ x5.zN.Tick),.sl 1 (Γ.n0 + 159) 0 x5.from_.length x5.from_.length,.sl 1 (Γ.n0 + 163) 0 x5.left_.length x5.left_.length]))]) M,Γ.n0 + 214⟩) h (fun z h=>?_) (fun z h=>?_)
  ·refine sr ((Rn.fldP (o':=4) tv rfl rfl (Rn.load (v:=(l_ p1.zC)) tv rfl (Qi rfl) rfl rfl (Rn.lenD tv rfl (md rfl (nt ((Tr.block ?_))))))))
   refine Tr.loop (mk:=fun ((x9,r10,c11):Int×Int×(List Qc))=>⟨look [(1,.ptr (Γ.n0 + 1) 0),(2,.ptr (Γ.n0 + 2) 0),(5,.ptr (Γ.n0 + 5) 0),(6,.ptr (Γ.n0 + 6) 0),(7,.sl 4 (Γ.n0 + 30) 0 (Int.toNat (x5.left_.length:Int)) (Int.toNat (x5.left_.length:Int))),(32,(l_ p1.zC)),(33,(i_ (p1.zC.length:Int))),(34,(i_ x9))],Qr Γ.n0 (bxs [(1,.cells ([(l_ p1.zA.zJ),(i_ p1.zA.zM),(l_ p1.zA.zK),.d (.lst 3 (List.map Qb p1.zA.zL)),(l_ p1.zC),(l_ p1.zB),(l_ p1.zD),(i_ p1.Tick)])),(2,.cells ([.nils 1,.nils 1,.nils 4,(i_ 0),.nils 1,(i_ 0),.nils 1,.nils 3,.nils 1,.nils 1])),(5,.cells ([.ptr (Γ.n0 + 165) 0])),(6,.cells ([.nils 1,.nils 1,.nils 4,(i_ r10),.nils 1,(i_ 0),.nils 1,.nils 3,.nils 1,.nils 1])),(30,.cells (Qz (fun (x:Qc)=>[V.d (.int .i64 x.State),V.d (.int .i64 x.Rank),V.d (.int .i64 x.Reason),V.d (.int .i64 x.Event)]) c11)),(159,.cells (Qz (fun (x:List Qe)=>[V.d (.lst 3 (List.map Qb x))]) x5.from_)),(163,.cells (Qz (fun (x:Bool)=>[V.d (.bool x)]) x5.left_)),(165,.cells ([(l_ x5.zN.zA.zJ),(i_ x5.zN.zA.zM),(l_ x5.zN.zA.zK),.d (.lst 3 (List.map Qb x5.zN.zA.zL)),(l_ x5.zN.zC),(l_ x5.zN.zB),(l_ x5.zN.zD),(i_ x5.zN.Tick),.sl 1 (Γ.n0 + 159) 0 x5.from_.length x5.from_.length,.sl 1 (Γ.n0 + 163) 0 x5.left_.length x5.left_.length]))]) M,Γ.n0 + 214⟩) h (by exact Qx ⟨(kPtr rfl),(kPtr rfl),(kPtr rfl),(kPtr rfl),(kSl rfl),(sm rfl),(sm rfl),(sm rfl),tv⟩ ⟨⟨_,rfl,rfl,(.same rfl)⟩,⟨_,rfl,rfl,(.same rfl)⟩,⟨_,rfl,rfl,(.cons (kPtr rfl) .nil)⟩,⟨_,rfl,rfl,(.same rfl)⟩,⟨_,rfl,rfl,(Qu fun _=>rfl)⟩,⟨_,rfl,rfl,(Qu fun _=>rfl)⟩,⟨_,rfl,rfl,(Qu fun _=>rfl)⟩,⟨_,rfl,rfl,(.cons (sm rfl) (.cons (sm rfl) (.cons (sm rfl) (.cons (sm rfl) (.cons (sm rfl) (.cons (sm rfl) (.cons (sm rfl) (.cons (sm rfl) (.cons (kSl rfl) (.cons (kSl rfl) .nil))))))))))⟩,tv⟩ rfl) (fun k12 z h=>?_)
   ·obtain ⟨x9,r10,c11⟩:=z
    replace h:_ = some _:=h
    refine sr ((Rn.bin tv rfl rfl rfl (nt ((Tr.seq ?_)))))
    refine Tr.cond rfl (fun hb13=>?_) (fun hb13=>?_)
    ·replace h:=ifT hb13 h
     refine Tr.skip (toN (Tr.seq (Tr.block (Tr.seq (Tr.rgn ?_)))))
     obtain ⟨x14,h15,h⟩:=bnd h
     refine Rn.idxD (e:=(eI .i64)) tv rfl rfl h15 (Rn.loadC (x:=.int .i64 x14) tv rfl (md rfl (nt ((Tr.rgn (Rn.mov (v:=.sl 4 (Γ.n0 + 30) 0 (Int.toNat (x5.left_.length:Int)) (Int.toNat (x5.left_.length:Int))) tv rfl (md rfl (md rfl (Rn.build (v:=.agg [(i_ x14),(i_ 1),(i_ 1),(i_ (-1))]) tv rfl ?_)))))))))
     obtain ⟨⟨⟩,h17,h⟩:=bnd h
     refine Rn.idxA tv rfl rfl h17 ?_
     obtain ⟨x18,h19,h⟩:=bnd h
     refine Rn.storeA (g:=(fun (x:Qc)=>[V.d (.int .i64 x.State),V.d (.int .i64 x.Rank),V.d (.int .i64 x.Reason),V.d (.int .i64 x.Event)])) (v:=.agg [(i_ x14),(i_ 1),(i_ 1),(i_ (-1))]) (fun _=>rfl) tv rfl rfl rfl rfl rfl h19 (Rn.fldP (o':=3) tv rfl rfl (Rn.store (v:=(i_ 1)) (cs':=[.nils 1,.nils 1,.nils 4,(i_ 1),.nils 1,(i_ 0),.nils 1,.nils 3,.nils 1,.nils 1]) tv rfl rfl rfl rfl rfl rfl (nt ((Tr.rgn (Rn.bin tv rfl rfl rfl (md rfl (Rn.nil ?_))))))))
     exact ⟨_,h,(by exact Qx ⟨(kPtr rfl),(kPtr rfl),(kPtr rfl),(kPtr rfl),(kSl rfl),(sm rfl),(sm rfl),(sm rfl),tv⟩ ⟨⟨_,rfl,rfl,(.same rfl)⟩,⟨_,rfl,rfl,(.same rfl)⟩,⟨_,rfl,rfl,(.cons (kPtr rfl) .nil)⟩,⟨_,rfl,rfl,(.same rfl)⟩,⟨_,rfl,rfl,(Qu fun _=>rfl)⟩,⟨_,rfl,rfl,(Qu fun _=>rfl)⟩,⟨_,rfl,rfl,(Qu fun _=>rfl)⟩,⟨_,rfl,rfl,(.cons (sm rfl) (.cons (sm rfl) (.cons (sm rfl) (.cons (sm rfl) (.cons (sm rfl) (.cons (sm rfl) (.cons (sm rfl) (.cons (sm rfl) (.cons (kSl rfl) (.cons (kSl rfl) .nil))))))))))⟩,tv⟩ rfl)⟩
    ·replace h:=ifF hb13 h
     refine Tr.exit ?_
     replace h:=si h; subst h
     exact Qn [] ⟨(kPtr rfl),(kPtr rfl),(kPtr rfl),(kPtr rfl),(kSl rfl),tv⟩ ⟨⟨_,rfl,rfl,(.same rfl)⟩,⟨_,rfl,rfl,(.same rfl)⟩,⟨_,rfl,rfl,(.cons (kPtr rfl) .nil)⟩,⟨_,rfl,rfl,(.same rfl)⟩,⟨_,rfl,rfl,(Qu fun _=>rfl)⟩,⟨_,rfl,rfl,(Qu fun _=>rfl)⟩,⟨_,rfl,rfl,(Qu fun _=>rfl)⟩,⟨_,rfl,rfl,(.cons (sm rfl) (.cons (sm rfl) (.cons (sm rfl) (.cons (sm rfl) (.cons (sm rfl) (.cons (sm rfl) (.cons (sm rfl) (.cons (sm rfl) (.cons (kSl rfl) (.cons (kSl rfl) .nil))))))))))⟩,tv⟩ rfl
  ·obtain ⟨r20,c21⟩:=z
   refine Tr.cutB (fun ((r48,c49,c50):Int×(List Qc)×(List Bool))=>⟨look [(1,.ptr (Γ.n0 + 1) 0),(2,.ptr (Γ.n0 + 2) 0),(5,.ptr (Γ.n0 + 5) 0),(6,.ptr (Γ.n0 + 6) 0),(7,.sl 4 (Γ.n0 + 30) 0 (Int.toNat (x5.left_.length:Int)) (Int.toNat (x5.left_.length:Int)))],Qr Γ.n0 (bxs [(1,.cells ([(l_ p1.zA.zJ),(i_ p1.zA.zM),(l_ p1.zA.zK),.d (.lst 3 (List.map Qb p1.zA.zL)),(l_ p1.zC),(l_ p1.zB),(l_ p1.zD),(i_ p1.Tick)])),(2,.cells ([.nils 1,.nils 1,.nils 4,(i_ 0),.nils 1,(i_ 0),.nils 1,.nils 3,.nils 1,.nils 1])),(5,.cells ([.ptr (Γ.n0 + 165) 0])),(6,.cells ([.nils 1,.nils 1,.nils 4,(i_ r48),.nils 1,(i_ 0),.nils 1,.nils 3,.nils 1,.nils 1])),(30,.cells (Qz (fun (x:Qc)=>[V.d (.int .i64 x.State),V.d (.int .i64 x.Rank),V.d (.int .i64 x.Reason),V.d (.int .i64 x.Event)]) c49)),(159,.cells (Qz (fun (x:List Qe)=>[V.d (.lst 3 (List.map Qb x))]) x5.from_)),(163,.cells (Qz (fun (x:Bool)=>[V.d (.bool x)]) c50)),(165,.cells ([(l_ x5.zN.zA.zJ),(i_ x5.zN.zA.zM),(l_ x5.zN.zA.zK),.d (.lst 3 (List.map Qb x5.zN.zA.zL)),(l_ x5.zN.zC),(l_ x5.zN.zB),(l_ x5.zN.zD),(i_ x5.zN.Tick),.sl 1 (Γ.n0 + 159) 0 x5.from_.length x5.from_.length,.sl 1 (Γ.n0 + 163) 0 x5.left_.length x5.left_.length]))]) M,Γ.n0 + 214⟩) h (fun z h=>?_) (fun z h=>?_)
   ·refine sr ((md rfl (nt ((Tr.block ?_)))))
    refine Tr.loop (mk:=fun ((rank22,r23,c24,c25):Int×Int×(List Qc)×(List Bool))=>⟨look [(1,.ptr (Γ.n0 + 1) 0),(2,.ptr (Γ.n0 + 2) 0),(5,.ptr (Γ.n0 + 5) 0),(6,.ptr (Γ.n0 + 6) 0),(7,.sl 4 (Γ.n0 + 30) 0 (Int.toNat (x5.left_.length:Int)) (Int.toNat (x5.left_.length:Int))),(10,(i_ rank22))],Qr Γ.n0 (bxs [(1,.cells ([(l_ p1.zA.zJ),(i_ p1.zA.zM),(l_ p1.zA.zK),.d (.lst 3 (List.map Qb p1.zA.zL)),(l_ p1.zC),(l_ p1.zB),(l_ p1.zD),(i_ p1.Tick)])),(2,.cells ([.nils 1,.nils 1,.nils 4,(i_ 0),.nils 1,(i_ 0),.nils 1,.nils 3,.nils 1,.nils 1])),(5,.cells ([.ptr (Γ.n0 + 165) 0])),(6,.cells ([.nils 1,.nils 1,.nils 4,(i_ r23),.nils 1,(i_ 0),.nils 1,.nils 3,.nils 1,.nils 1])),(30,.cells (Qz (fun (x:Qc)=>[V.d (.int .i64 x.State),V.d (.int .i64 x.Rank),V.d (.int .i64 x.Reason),V.d (.int .i64 x.Event)]) c24)),(159,.cells (Qz (fun (x:List Qe)=>[V.d (.lst 3 (List.map Qb x))]) x5.from_)),(163,.cells (Qz (fun (x:Bool)=>[V.d (.bool x)]) c25)),(165,.cells ([(l_ x5.zN.zA.zJ),(i_ x5.zN.zA.zM),(l_ x5.zN.zA.zK),.d (.lst 3 (List.map Qb x5.zN.zA.zL)),(l_ x5.zN.zC),(l_ x5.zN.zB),(l_ x5.zN.zD),(i_ x5.zN.Tick),.sl 1 (Γ.n0 + 159) 0 x5.from_.length x5.from_.length,.sl 1 (Γ.n0 + 163) 0 x5.left_.length x5.left_.length]))]) M,Γ.n0 + 214⟩) h (by exact Qx ⟨(kPtr rfl),(kPtr rfl),(kPtr rfl),(kPtr rfl),(kSl rfl),(sm rfl),tv⟩ ⟨⟨_,rfl,rfl,(.same rfl)⟩,⟨_,rfl,rfl,(.same rfl)⟩,⟨_,rfl,rfl,(.cons (kPtr rfl) .nil)⟩,⟨_,rfl,rfl,(.same rfl)⟩,⟨_,rfl,rfl,(Qu fun _=>rfl)⟩,⟨_,rfl,rfl,(Qu fun _=>rfl)⟩,⟨_,rfl,rfl,(Qu fun _=>rfl)⟩,⟨_,rfl,rfl,(.cons (sm rfl) (.cons (sm rfl) (.cons (sm rfl) (.cons (sm rfl) (.cons (sm rfl) (.cons (sm rfl) (.cons (sm rfl) (.cons (sm rfl) (.cons (kSl rfl) (.cons (kSl rfl) .nil))))))))))⟩,tv⟩ rfl) (fun k26 z h=>?_)
    ·obtain ⟨rank22,r23,c24,c25⟩:=z
     replace h:_ = some _:=h
     refine Tr.seq (Tr.block (sr ((Rn.load (v:=.ptr (Γ.n0 + 165) 0) tv rfl (Qi rfl) rfl rfl (md rfl ?_)))))
     obtain ⟨⟨⟩,hl27,h⟩:=bnd h
     obtain ⟨x29,h28,h⟩:=bnd h
     refine Rn.callM (args:=[.ptr (Γ.n0 + 165) 0,(i_ rank22)]) tv rfl (fun M2 nb2 hn hx=>H_timedsynthesis_task_round _ _ (Γ.n0 + 165) (Γ.n0 + 159) (Γ.n0 + 163) _ h28 M2 nb2 (by rw [Qd4 hl27]; exact (hx _ _ (Qi rfl))) (hx _ _ (Qi rfl)) (hx _ _ (Qi rfl))) rfl pc9 ?_
     refine Rn.movTO tv rfl (nt ((Tr.seq (sr ((Rn.mov (v:=.d (.lst 4 (List.map Qg x29))) tv rfl (Rn.lenD tv rfl (Rn.bin tv rfl rfl rfl (Rn.nil (toN ?_))))))))))
     refine Tr.cond rfl (fun hb30=>?_) (fun hb30=>?_)
     ·replace h:=bT hb30 h
      refine Tr.exit ?_
      replace h:=si h; subst h
      exact Qn [] ⟨(kPtr rfl),(kPtr rfl),(kPtr rfl),(kPtr rfl),(kSl rfl),tv⟩ ⟨⟨_,rfl,rfl,(.same rfl)⟩,⟨_,rfl,rfl,(.same rfl)⟩,⟨_,rfl,rfl,(.cons (kPtr rfl) .nil)⟩,⟨_,rfl,rfl,(.same rfl)⟩,⟨_,rfl,rfl,(Qu fun _=>rfl)⟩,⟨_,rfl,rfl,(Qu fun _=>rfl)⟩,⟨_,rfl,rfl,(Qu fun _=>rfl)⟩,⟨_,rfl,rfl,(.cons (sm rfl) (.cons (sm rfl) (.cons (sm rfl) (.cons (sm rfl) (.cons (sm rfl) (.cons (sm rfl) (.cons (sm rfl) (.cons (sm rfl) (.cons (kSl rfl) (.cons (kSl rfl) .nil))))))))))⟩,tv⟩ rfl
     ·replace h:=bF hb30 h
      refine Tr.skip (toN ?_)
      refine Tr.cutB (fun ((c46,c47):(List Qc)×(List Bool))=>⟨look [(1,.ptr (Γ.n0 + 1) 0),(2,.ptr (Γ.n0 + 2) 0),(5,.ptr (Γ.n0 + 5) 0),(6,.ptr (Γ.n0 + 6) 0),(7,.sl 4 (Γ.n0 + 30) 0 (Int.toNat (x5.left_.length:Int)) (Int.toNat (x5.left_.length:Int))),(10,(i_ rank22))],Qr Γ.n0 (bxs [(1,.cells ([(l_ p1.zA.zJ),(i_ p1.zA.zM),(l_ p1.zA.zK),.d (.lst 3 (List.map Qb p1.zA.zL)),(l_ p1.zC),(l_ p1.zB),(l_ p1.zD),(i_ p1.Tick)])),(2,.cells ([.nils 1,.nils 1,.nils 4,(i_ 0),.nils 1,(i_ 0),.nils 1,.nils 3,.nils 1,.nils 1])),(5,.cells ([.ptr (Γ.n0 + 165) 0])),(6,.cells ([.nils 1,.nils 1,.nils 4,(i_ r23),.nils 1,(i_ 0),.nils 1,.nils 3,.nils 1,.nils 1])),(30,.cells (Qz (fun (x:Qc)=>[V.d (.int .i64 x.State),V.d (.int .i64 x.Rank),V.d (.int .i64 x.Reason),V.d (.int .i64 x.Event)]) c46)),(159,.cells (Qz (fun (x:List Qe)=>[V.d (.lst 3 (List.map Qb x))]) x5.from_)),(163,.cells (Qz (fun (x:Bool)=>[V.d (.bool x)]) c47)),(165,.cells ([(l_ x5.zN.zA.zJ),(i_ x5.zN.zA.zM),(l_ x5.zN.zA.zK),.d (.lst 3 (List.map Qb x5.zN.zA.zL)),(l_ x5.zN.zC),(l_ x5.zN.zB),(l_ x5.zN.zD),(i_ x5.zN.Tick),.sl 1 (Γ.n0 + 159) 0 x5.from_.length x5.from_.length,.sl 1 (Γ.n0 + 163) 0 x5.left_.length x5.left_.length]))]) M,Γ.n0 + 214⟩) h (fun z h=>?_) (fun z h=>?_)
      ·refine sr ((Rn.mov (v:=.d (.lst 4 (List.map Qg x29))) tv rfl (Rn.lenD tv rfl (md rfl (nt ((Tr.block ?_)))))))
       refine Tr.loop (mk:=fun ((x31,c32,c33):Int×(List Qc)×(List Bool))=>⟨look [(1,.ptr (Γ.n0 + 1) 0),(2,.ptr (Γ.n0 + 2) 0),(5,.ptr (Γ.n0 + 5) 0),(6,.ptr (Γ.n0 + 6) 0),(7,.sl 4 (Γ.n0 + 30) 0 (Int.toNat (x5.left_.length:Int)) (Int.toNat (x5.left_.length:Int))),(10,(i_ rank22)),(53,.d (.lst 4 (List.map Qg x29))),(54,(i_ (x29.length:Int))),(55,(i_ x31))],Qr Γ.n0 (bxs [(1,.cells ([(l_ p1.zA.zJ),(i_ p1.zA.zM),(l_ p1.zA.zK),.d (.lst 3 (List.map Qb p1.zA.zL)),(l_ p1.zC),(l_ p1.zB),(l_ p1.zD),(i_ p1.Tick)])),(2,.cells ([.nils 1,.nils 1,.nils 4,(i_ 0),.nils 1,(i_ 0),.nils 1,.nils 3,.nils 1,.nils 1])),(5,.cells ([.ptr (Γ.n0 + 165) 0])),(6,.cells ([.nils 1,.nils 1,.nils 4,(i_ r23),.nils 1,(i_ 0),.nils 1,.nils 3,.nils 1,.nils 1])),(30,.cells (Qz (fun (x:Qc)=>[V.d (.int .i64 x.State),V.d (.int .i64 x.Rank),V.d (.int .i64 x.Reason),V.d (.int .i64 x.Event)]) c32)),(159,.cells (Qz (fun (x:List Qe)=>[V.d (.lst 3 (List.map Qb x))]) x5.from_)),(163,.cells (Qz (fun (x:Bool)=>[V.d (.bool x)]) c33)),(165,.cells ([(l_ x5.zN.zA.zJ),(i_ x5.zN.zA.zM),(l_ x5.zN.zA.zK),.d (.lst 3 (List.map Qb x5.zN.zA.zL)),(l_ x5.zN.zC),(l_ x5.zN.zB),(l_ x5.zN.zD),(i_ x5.zN.Tick),.sl 1 (Γ.n0 + 159) 0 x5.from_.length x5.from_.length,.sl 1 (Γ.n0 + 163) 0 x5.left_.length x5.left_.length]))]) M,Γ.n0 + 214⟩) h (by exact Qx ⟨(kPtr rfl),(kPtr rfl),(kPtr rfl),(kPtr rfl),(kSl rfl),(sm rfl),(sm rfl),(sm rfl),(sm rfl),tv⟩ ⟨⟨_,rfl,rfl,(.same rfl)⟩,⟨_,rfl,rfl,(.same rfl)⟩,⟨_,rfl,rfl,(.cons (kPtr rfl) .nil)⟩,⟨_,rfl,rfl,(.same rfl)⟩,⟨_,rfl,rfl,(Qu fun _=>rfl)⟩,⟨_,rfl,rfl,(Qu fun _=>rfl)⟩,⟨_,rfl,rfl,(Qu fun _=>rfl)⟩,⟨_,rfl,rfl,(.cons (sm rfl) (.cons (sm rfl) (.cons (sm rfl) (.cons (sm rfl) (.cons (sm rfl) (.cons (sm rfl) (.cons (sm rfl) (.cons (sm rfl) (.cons (kSl rfl) (.cons (kSl rfl) .nil))))))))))⟩,tv⟩ rfl) (fun k34 z h=>?_)
       ·obtain ⟨x31,c32,c33⟩:=z
        replace h:_ = some _:=h
        refine sr ((Rn.bin tv rfl rfl rfl (nt ((Tr.seq ?_)))))
        refine Tr.cond rfl (fun hb35=>?_) (fun hb35=>?_)
        ·replace h:=ifT hb35 h
         refine Tr.skip (toN (Tr.seq (Tr.block (Tr.seq (Tr.rgn ?_)))))
         obtain ⟨x36,h37,h⟩:=bnd h
         refine Rn.idxD (e:=Qg) tv rfl rfl h37 (Rn.loadCA (vs:=(Qcu x36)) tv rfl rfl rfl (Rn.alloc tv rfl (Rn.store (v:=(Qci x36)) (cs':=(Qcu x36)) tv rfl rfl rfl rfl rfl rfl (Rn.nil (toN ?_)))))
         refine Tr.rgnD (by decide) ?_
         refine Rn.load (v:=.ptr (Γ.n0 + 165) 0) tv rfl (Qi rfl) rfl rfl (Rn.nilchkP tv rfl (Rn.fldP (o':=9) tv rfl rfl (Rn.load (v:=.sl 1 (Γ.n0 + 163) 0 x5.left_.length x5.left_.length) tv rfl (Qi rfl) rfl rfl (Rn.fldP (o':=0) tv rfl rfl (Rn.load (v:=(i_ x36.State)) tv rfl (Qi rfl) rfl rfl (Rn.mov (v:=.sl 4 (Γ.n0 + 30) 0 (Int.toNat (x5.left_.length:Int)) (Int.toNat (x5.left_.length:Int))) tv rfl (Rn.fldP (o':=0) tv rfl rfl (Rn.load (v:=(i_ x36.State)) tv rfl (Qi rfl) rfl rfl (Rn.load (v:=(Qci x36)) tv rfl (Qi rfl) rfl rfl ?_)))))))))
         obtain ⟨⟨⟩,h39,h⟩:=bnd h
         refine Rn.idxA tv rfl rfl h39 ?_
         obtain ⟨x40,h41,h⟩:=bnd h
         refine Rn.storeA (g:=(fun (x:Bool)=>[V.d (.bool x)])) (v:=(b_ false)) (fun _=>rfl) tv rfl rfl rfl rfl rfl h41 ?_
         obtain ⟨⟨⟩,h43,h⟩:=bnd h
         refine Rn.idxA tv rfl rfl h43 ?_
         obtain ⟨x44,h45,h⟩:=bnd h
         refine Rn.storeA (g:=(fun (x:Qc)=>[V.d (.int .i64 x.State),V.d (.int .i64 x.Rank),V.d (.int .i64 x.Reason),V.d (.int .i64 x.Event)])) (v:=(Qci x36)) (fun _=>rfl) tv rfl rfl rfl rfl rfl h45 ?_
         refine Rn.nil ⟨by first | rfl | (simp [Qru,Qli,look,Bool.cond_eq_ite,Nat.beq_eq]; done),?_⟩
         refine toN (Tr.rgn (Rn.bin tv rfl rfl rfl (md rfl (Rn.nil ?_))))
         exact ⟨_,h,(by exact Qx ⟨(kPtr rfl),(kPtr rfl),(kPtr rfl),(kPtr rfl),(kSl rfl),(sm rfl),(sm rfl),(sm rfl),(sm rfl),tv⟩ ⟨⟨_,rfl,rfl,(.same rfl)⟩,⟨_,rfl,rfl,(.same rfl)⟩,⟨_,rfl,rfl,(.cons (kPtr rfl) .nil)⟩,⟨_,rfl,rfl,(.same rfl)⟩,⟨_,rfl,rfl,(Qu fun _=>rfl)⟩,⟨_,rfl,rfl,(Qu fun _=>rfl)⟩,⟨_,rfl,rfl,(Qu fun _=>rfl)⟩,⟨_,rfl,rfl,(.cons (sm rfl) (.cons (sm rfl) (.cons (sm rfl) (.cons (sm rfl) (.cons (sm rfl) (.cons (sm rfl) (.cons (sm rfl) (.cons (sm rfl) (.cons (kSl rfl) (.cons (kSl rfl) .nil))))))))))⟩,tv⟩ rfl)⟩
        ·replace h:=ifF hb35 h
         refine Tr.exit ?_
         replace h:=si h; subst h
         exact Qn [] ⟨(kPtr rfl),(kPtr rfl),(kPtr rfl),(kPtr rfl),(kSl rfl),(sm rfl),tv⟩ ⟨⟨_,rfl,rfl,(.same rfl)⟩,⟨_,rfl,rfl,(.same rfl)⟩,⟨_,rfl,rfl,(.cons (kPtr rfl) .nil)⟩,⟨_,rfl,rfl,(.same rfl)⟩,⟨_,rfl,rfl,(Qu fun _=>rfl)⟩,⟨_,rfl,rfl,(Qu fun _=>rfl)⟩,⟨_,rfl,rfl,(Qu fun _=>rfl)⟩,⟨_,rfl,rfl,(.cons (sm rfl) (.cons (sm rfl) (.cons (sm rfl) (.cons (sm rfl) (.cons (sm rfl) (.cons (sm rfl) (.cons (sm rfl) (.cons (sm rfl) (.cons (kSl rfl) (.cons (kSl rfl) .nil))))))))))⟩,tv⟩ rfl
      ·obtain ⟨c46,c47⟩:=z
       refine Tr.rgn (md rfl (Rn.fldP (o':=3) tv rfl rfl (Rn.store (v:=(i_ rank22)) (cs':=[.nils 1,.nils 1,.nils 4,(i_ rank22),.nils 1,(i_ 0),.nils 1,.nils 3,.nils 1,.nils 1]) tv rfl rfl rfl rfl rfl rfl (nt ((Tr.rgn (md rfl (Rn.bin tv rfl rfl rfl (md rfl (Rn.nil ?_))))))))))
       exact ⟨_,h,(by exact Qx ⟨(kPtr rfl),(kPtr rfl),(kPtr rfl),(kPtr rfl),(kSl rfl),(sm rfl),tv⟩ ⟨⟨_,rfl,rfl,(.same rfl)⟩,⟨_,rfl,rfl,(.same rfl)⟩,⟨_,rfl,rfl,(.cons (kPtr rfl) .nil)⟩,⟨_,rfl,rfl,(.same rfl)⟩,⟨_,rfl,rfl,(Qu fun _=>rfl)⟩,⟨_,rfl,rfl,(Qu fun _=>rfl)⟩,⟨_,rfl,rfl,(Qu fun _=>rfl)⟩,⟨_,rfl,rfl,(.cons (sm rfl) (.cons (sm rfl) (.cons (sm rfl) (.cons (sm rfl) (.cons (sm rfl) (.cons (sm rfl) (.cons (sm rfl) (.cons (sm rfl) (.cons (kSl rfl) (.cons (kSl rfl) .nil))))))))))⟩,tv⟩ rfl)⟩
   ·obtain ⟨r48,c49,c50⟩:=z
    refine sr ((Rn.fldP (o':=0) tv rfl rfl (Rn.mov (v:=.ptr (Γ.n0 + 6) 0) tv rfl (Rn.nil (toN ?_)))))
    refine Tr.cutB (fun ((c107,c108,c109,c110,c111,c112,c113,c114,r115,r116,r117,r118,r119,r120,r121,r122):(List Int)×(List Int)×(List Qc)×(List Int)×(List Int)×(List Qe)×(List Int)×(List Int)×(List Int)×(List Int)×(List Qc)×(List Int)×(List Int)×(List Qe)×(List Int)×(List Int))=>⟨look [(2,.ptr (Γ.n0 + 2) 0),(5,.ptr (Γ.n0 + 5) 0),(6,.ptr (Γ.n0 + 6) 0)],Qr Γ.n0 (bxs [(1,.cells ([(l_ p1.zA.zJ),(i_ p1.zA.zM),(l_ p1.zA.zK),.d (.lst 3 (List.map Qb p1.zA.zL)),(l_ p1.zC),(l_ p1.zB),(l_ p1.zD),(i_ p1.Tick)])),(2,.cells ([(o_ c107),(o_ c108),.own 4 (List.map Qg c109),(i_ 0),(o_ c110),(i_ 0),(o_ c111),.own 3 (List.map Qb c112),(o_ c113),(o_ c114)])),(5,.cells ([.ptr (Γ.n0 + 165) 0])),(6,.cells ([(o_ r115),(o_ r116),.own 4 (List.map Qg r117),(i_ r48),(o_ r118),(i_ 0),(o_ r119),.own 3 (List.map Qb r120),(o_ r121),(o_ r122)])),(30,.cells (Qz (fun (x:Qc)=>[V.d (.int .i64 x.State),V.d (.int .i64 x.Rank),V.d (.int .i64 x.Reason),V.d (.int .i64 x.Event)]) c49)),(159,.cells (Qz (fun (x:List Qe)=>[V.d (.lst 3 (List.map Qb x))]) x5.from_)),(163,.cells (Qz (fun (x:Bool)=>[V.d (.bool x)]) c50)),(165,.cells ([(l_ x5.zN.zA.zJ),(i_ x5.zN.zA.zM),(l_ x5.zN.zA.zK),.d (.lst 3 (List.map Qb x5.zN.zA.zL)),(l_ x5.zN.zC),(l_ x5.zN.zB),(l_ x5.zN.zD),(i_ x5.zN.Tick),.sl 1 (Γ.n0 + 159) 0 x5.from_.length x5.from_.length,.sl 1 (Γ.n0 + 163) 0 x5.left_.length x5.left_.length]))]) M,Γ.n0 + 214⟩) h (fun z h=>?_) (fun z h=>?_)
    ·refine sr ((Rn.load (v:=.ptr (Γ.n0 + 165) 0) tv rfl (Qi rfl) rfl rfl ?_))
     obtain ⟨⟨⟩,hl51,h⟩:=bnd h
     obtain ⟨x53,h52,h⟩:=bnd h
     refine Rn.callM (args:=[.ptr (Γ.n0 + 165) 0]) tv rfl (fun M2 nb2 hn hx=>H_timedsynthesis_task_distances _ (Γ.n0 + 165) (Γ.n0 + 159) (Γ.n0 + 163) _ h52 M2 nb2 (by rw [Qd4 hl51]; exact (hx _ _ (Qi rfl))) (hx _ _ (Qi rfl)) (hx _ _ (Qi rfl))) rfl pc9 ?_
     refine Rn.lenD tv rfl (md rfl (nt ((Tr.block ?_))))
     refine Tr.loop (mk:=fun ((x54,c55,c56,c57,c58,c59,c60,c61,c62,r63,r64,r65,r66,r67,r68,r69,r70):Int×(List Int)×(List Int)×(List Qc)×(List Int)×(List Int)×(List Qe)×(List Int)×(List Int)×(List Int)×(List Int)×(List Qc)×(List Int)×(List Int)×(List Qe)×(List Int)×(List Int))=>⟨look [(1,.ptr (Γ.n0 + 1) 0),(2,.ptr (Γ.n0 + 2) 0),(5,.ptr (Γ.n0 + 5) 0),(6,.ptr (Γ.n0 + 6) 0),(7,.sl 4 (Γ.n0 + 30) 0 (Int.toNat (x5.left_.length:Int)) (Int.toNat (x5.left_.length:Int))),(14,.ptr (Γ.n0 + 6) 0),(76,(l_ x53)),(77,(i_ (x53.length:Int))),(78,(i_ x54))],Qr Γ.n0 (bxs [(1,.cells ([(l_ p1.zA.zJ),(i_ p1.zA.zM),(l_ p1.zA.zK),.d (.lst 3 (List.map Qb p1.zA.zL)),(l_ p1.zC),(l_ p1.zB),(l_ p1.zD),(i_ p1.Tick)])),(2,.cells ([(o_ c55),(o_ c56),.own 4 (List.map Qg c57),(i_ 0),(o_ c58),(i_ 0),(o_ c59),.own 3 (List.map Qb c60),(o_ c61),(o_ c62)])),(5,.cells ([.ptr (Γ.n0 + 165) 0])),(6,.cells ([(o_ r63),(o_ r64),.own 4 (List.map Qg r65),(i_ r48),(o_ r66),(i_ 0),(o_ r67),.own 3 (List.map Qb r68),(o_ r69),(o_ r70)])),(30,.cells (Qz (fun (x:Qc)=>[V.d (.int .i64 x.State),V.d (.int .i64 x.Rank),V.d (.int .i64 x.Reason),V.d (.int .i64 x.Event)]) c49)),(159,.cells (Qz (fun (x:List Qe)=>[V.d (.lst 3 (List.map Qb x))]) x5.from_)),(163,.cells (Qz (fun (x:Bool)=>[V.d (.bool x)]) c50)),(165,.cells ([(l_ x5.zN.zA.zJ),(i_ x5.zN.zA.zM),(l_ x5.zN.zA.zK),.d (.lst 3 (List.map Qb x5.zN.zA.zL)),(l_ x5.zN.zC),(l_ x5.zN.zB),(l_ x5.zN.zD),(i_ x5.zN.Tick),.sl 1 (Γ.n0 + 159) 0 x5.from_.length x5.from_.length,.sl 1 (Γ.n0 + 163) 0 x5.left_.length x5.left_.length]))]) M,Γ.n0 + 214⟩) h (by exact Qx ⟨(kPtr rfl),(kPtr rfl),(kPtr rfl),(kPtr rfl),(kSl rfl),(kPtr rfl),(sm rfl),(sm rfl),(sm rfl),tv⟩ ⟨⟨_,rfl,rfl,(.same rfl)⟩,⟨_,rfl,rfl,(.cons (WkV.nilsO _) (.cons (WkV.nilsO _) (.cons (WkV.nilsO _) (.cons (sm rfl) (.cons (WkV.nilsO _) (.cons (sm rfl) (.cons (WkV.nilsO _) (.cons (WkV.nilsO _) (.cons (WkV.nilsO _) (.cons (WkV.nilsO _) .nil))))))))))⟩,⟨_,rfl,rfl,(.cons (kPtr rfl) .nil)⟩,⟨_,rfl,rfl,(.cons (WkV.nilsO _) (.cons (WkV.nilsO _) (.cons (WkV.nilsO _) (.cons (sm rfl) (.cons (WkV.nilsO _) (.cons (sm rfl) (.cons (WkV.nilsO _) (.cons (WkV.nilsO _) (.cons (WkV.nilsO _) (.cons (WkV.nilsO _) .nil))))))))))⟩,⟨_,rfl,rfl,(Qu fun _=>rfl)⟩,⟨_,rfl,rfl,(Qu fun _=>rfl)⟩,⟨_,rfl,rfl,(Qu fun _=>rfl)⟩,⟨_,rfl,rfl,(.cons (sm rfl) (.cons (sm rfl) (.cons (sm rfl) (.cons (sm rfl) (.cons (sm rfl) (.cons (sm rfl) (.cons (sm rfl) (.cons (sm rfl) (.cons (kSl rfl) (.cons (kSl rfl) .nil))))))))))⟩,tv⟩ rfl) (fun k71 z h=>?_)
     ·obtain ⟨x54,c55,c56,c57,c58,c59,c60,c61,c62,r63,r64,r65,r66,r67,r68,r69,r70⟩:=z
      replace h:_ = some _:=h
      refine sr ((Rn.bin tv rfl rfl rfl (nt ((Tr.seq ?_)))))
      refine Tr.cond rfl (fun hb72=>?_) (fun hb72=>?_)
      ·replace h:=ifT hb72 h
       refine Tr.skip (toN ?_)
       refine Tr.cutB (fun ((r103,r104,r105,r106):(List Int)×(List Int)×(List Qc)×(List Int))=>⟨look [(1,.ptr (Γ.n0 + 1) 0),(2,.ptr (Γ.n0 + 2) 0),(5,.ptr (Γ.n0 + 5) 0),(6,.ptr (Γ.n0 + 6) 0),(7,.sl 4 (Γ.n0 + 30) 0 (Int.toNat (x5.left_.length:Int)) (Int.toNat (x5.left_.length:Int))),(14,.ptr (Γ.n0 + 6) 0),(76,(l_ x53)),(77,(i_ (x53.length:Int))),(78,(i_ x54))],Qr Γ.n0 (bxs [(1,.cells ([(l_ p1.zA.zJ),(i_ p1.zA.zM),(l_ p1.zA.zK),.d (.lst 3 (List.map Qb p1.zA.zL)),(l_ p1.zC),(l_ p1.zB),(l_ p1.zD),(i_ p1.Tick)])),(2,.cells ([(o_ c55),(o_ c56),.own 4 (List.map Qg c57),(i_ 0),(o_ c58),(i_ 0),(o_ c59),.own 3 (List.map Qb c60),(o_ c61),(o_ c62)])),(5,.cells ([.ptr (Γ.n0 + 165) 0])),(6,.cells ([(o_ r103),(o_ r104),.own 4 (List.map Qg r105),(i_ r48),(o_ r66),(i_ 0),(o_ r67),.own 3 (List.map Qb r68),(o_ r69),(o_ r106)])),(30,.cells (Qz (fun (x:Qc)=>[V.d (.int .i64 x.State),V.d (.int .i64 x.Rank),V.d (.int .i64 x.Reason),V.d (.int .i64 x.Event)]) c49)),(159,.cells (Qz (fun (x:List Qe)=>[V.d (.lst 3 (List.map Qb x))]) x5.from_)),(163,.cells (Qz (fun (x:Bool)=>[V.d (.bool x)]) c50)),(165,.cells ([(l_ x5.zN.zA.zJ),(i_ x5.zN.zA.zM),(l_ x5.zN.zA.zK),.d (.lst 3 (List.map Qb x5.zN.zA.zL)),(l_ x5.zN.zC),(l_ x5.zN.zB),(l_ x5.zN.zD),(i_ x5.zN.Tick),.sl 1 (Γ.n0 + 159) 0 x5.from_.length x5.from_.length,.sl 1 (Γ.n0 + 163) 0 x5.left_.length x5.left_.length]))]) M,Γ.n0 + 214⟩) h (fun z h=>?_) (fun z h=>?_)
       ·refine Tr.block (sr ((md rfl ?_)))
        obtain ⟨x73,h74,h⟩:=bnd h
        refine Rn.idxD (e:=(eI .i64)) tv rfl rfl h74 (Rn.loadC (x:=.int .i64 x73) tv rfl (md rfl (md rfl (nt ((Tr.seq (sr ((Rn.load (v:=.ptr (Γ.n0 + 165) 0) tv rfl (Qi rfl) rfl rfl (Rn.nilchkP tv rfl (Rn.fldP (o':=9) tv rfl rfl (Rn.load (v:=.sl 1 (Γ.n0 + 163) 0 x5.left_.length x5.left_.length) tv rfl (Qi rfl) rfl rfl (md rfl ?_)))))))))))))
        obtain ⟨⟨⟩,h76,h⟩:=bnd h
        refine Rn.idxA tv rfl rfl h76 ?_
        obtain ⟨x77,h78,h⟩:=bnd h
        refine Rn.loadA (g:=(fun (x:Bool)=>[V.d (.bool x)])) (v:=(b_ x77)) (f:=0) (fun _=>rfl) tv rfl (Qi rfl) h78 rfl rfl (Rn.un tv rfl rfl (Rn.nil (toN ?_)))
        refine Tr.cond rfl (fun hb79=>?_) (fun hb79=>?_)
        ·have hb79:=nT' hb79
         replace h:=bF hb79 h
         refine Tr.seq ?_
         refine Tr.rgnD (by decide) ?_
         refine Rn.mov (v:=.ptr (Γ.n0 + 6) 0) tv rfl (Rn.mov (v:=.ptr (Γ.n0 + 6) 0) tv rfl (Rn.nilchkP tv rfl (Rn.fldP (o':=2) tv rfl rfl (Rn.loadT (cs':=[(o_ r63),(o_ r64),.d (.lst 4 (List.map Qg r65)),(i_ r48),(o_ r66),(i_ 0),(o_ r67),.own 3 (List.map Qb r68),(o_ r69),(o_ r70)]) tv rfl rfl rfl rfl (Rn.mov (v:=.sl 4 (Γ.n0 + 30) 0 (Int.toNat (x5.left_.length:Int)) (Int.toNat (x5.left_.length:Int))) tv rfl (md rfl ?_))))))
         obtain ⟨⟨⟩,h81,h⟩:=bnd h
         refine Rn.idxA tv rfl rfl h81 ?_
         obtain ⟨x82,h83,h⟩:=bnd h
         refine Rn.loadA (g:=(fun (x:Qc)=>[V.d (.int .i64 x.State),V.d (.int .i64 x.Rank),V.d (.int .i64 x.Reason),V.d (.int .i64 x.Event)])) (v:=(Qci x82)) (f:=0) (fun _=>rfl) tv rfl (Qi rfl) h83 rfl rfl (Rn.bslice (xs:=[(Qci x82)]) (cs:=(Qcu x82)) tv rfl rfl rfl rfl ?_)
         obtain ⟨x84,h85,h⟩:=bnd h
         refine Rn.app (e:=Qg) tv rfl rfl rfl (Qg2 rfl rfl rfl) h85 rfl (Rn.nilchkP tv rfl (Rn.fldP (o':=2) tv rfl rfl (Rn.storeO (cs':=[(o_ r63),(o_ r64),.own 4 (List.map Qg x84),(i_ r48),(o_ r66),(i_ 0),(o_ r67),.own 3 (List.map Qb r68),(o_ r69),(o_ r70)]) tv rfl rfl rfl rfl rfl ?_)))
         refine Rn.nil ⟨rfl,?_⟩
         refine toN (Tr.exit ?_)
         replace h:=si h; subst h
         exact Qn [100] ⟨(kPtr rfl),(kPtr rfl),(kPtr rfl),(kPtr rfl),(kSl rfl),(kPtr rfl),(sm rfl),(sm rfl),(sm rfl),tv⟩ ⟨⟨_,rfl,rfl,(.same rfl)⟩,⟨_,rfl,rfl,(.same rfl)⟩,⟨_,rfl,rfl,(.cons (kPtr rfl) .nil)⟩,⟨_,rfl,rfl,(.same rfl)⟩,⟨_,rfl,rfl,(Qu fun _=>rfl)⟩,⟨_,rfl,rfl,(Qu fun _=>rfl)⟩,⟨_,rfl,rfl,(Qu fun _=>rfl)⟩,⟨_,rfl,rfl,(.cons (sm rfl) (.cons (sm rfl) (.cons (sm rfl) (.cons (sm rfl) (.cons (sm rfl) (.cons (sm rfl) (.cons (sm rfl) (.cons (sm rfl) (.cons (kSl rfl) (.cons (kSl rfl) .nil))))))))))⟩,tv⟩ rfl
        ·have hb79:=nF' hb79
         replace h:=bT hb79 h
         refine Tr.skip (toN (Tr.seq ?_))
         refine Tr.rgnD (by decide) ?_
         refine Rn.mov (v:=.ptr (Γ.n0 + 6) 0) tv rfl (Rn.mov (v:=.ptr (Γ.n0 + 6) 0) tv rfl (Rn.mov (v:=.ptr (Γ.n0 + 6) 0) tv rfl (Rn.nilchkP tv rfl (Rn.fldP (o':=0) tv rfl rfl (Rn.loadT (cs':=[(l_ r63),(o_ r64),.own 4 (List.map Qg r65),(i_ r48),(o_ r66),(i_ 0),(o_ r67),.own 3 (List.map Qb r68),(o_ r69),(o_ r70)]) tv rfl rfl rfl rfl (md rfl (Rn.bslice (xs:=[(i_ x54)]) (cs:=[(i_ x54)]) tv rfl rfl rfl rfl ?_)))))))
         obtain ⟨x86,h87,h⟩:=bnd h
         refine Rn.app (e:=(eI .i64)) tv rfl rfl rfl (Qg2 rfl rfl rfl) h87 rfl (Rn.mov (v:=.ptr (Γ.n0 + 6) 0) tv rfl (Rn.nilchkP tv rfl (Rn.fldP (o':=1) tv rfl rfl (Rn.loadT (cs':=[(l_ r63),(l_ r64),.own 4 (List.map Qg r65),(i_ r48),(o_ r66),(i_ 0),(o_ r67),.own 3 (List.map Qb r68),(o_ r69),(o_ r70)]) tv rfl rfl rfl rfl (md rfl (Rn.bslice (xs:=[(i_ x73)]) (cs:=[(i_ x73)]) tv rfl rfl rfl rfl ?_))))))
         obtain ⟨x88,h89,h⟩:=bnd h
         refine Rn.app (e:=(eI .i64)) tv rfl rfl rfl (Qg2 rfl rfl rfl) h89 rfl (Rn.nilchkP tv rfl (Rn.fldP (o':=0) tv rfl rfl (Rn.storeO (cs':=[(o_ x86),(l_ r64),.own 4 (List.map Qg r65),(i_ r48),(o_ r66),(i_ 0),(o_ r67),.own 3 (List.map Qb r68),(o_ r69),(o_ r70)]) tv rfl rfl rfl rfl rfl (Rn.nilchkP tv rfl (Rn.fldP (o':=1) tv rfl rfl (Rn.storeO (cs':=[(o_ x86),(o_ x88),.own 4 (List.map Qg r65),(i_ r48),(o_ r66),(i_ 0),(o_ r67),.own 3 (List.map Qb r68),(o_ r69),(o_ r70)]) tv rfl rfl rfl rfl rfl ?_))))))
         refine Rn.nil ⟨by first | rfl | (simp [Qru,Qli,look,Bool.cond_eq_ite,Nat.beq_eq]; done),?_⟩
         refine toN (sr ((Rn.load (v:=.ptr (Γ.n0 + 165) 0) tv rfl (Qi rfl) rfl rfl (Rn.nilchkP tv rfl (Rn.fldP (o':=8) tv rfl rfl (Rn.load (v:=.sl 1 (Γ.n0 + 159) 0 x5.from_.length x5.from_.length) tv rfl (Qi rfl) rfl rfl (md rfl ?_)))))))
         obtain ⟨⟨⟩,h91,h⟩:=bnd h
         refine Rn.idxA tv rfl rfl h91 ?_
         obtain ⟨x92,h93,h⟩:=bnd h
         refine Rn.loadA (g:=(fun (x:List Qe)=>[V.d (.lst 3 (List.map Qb x))])) (v:=.d (.lst 3 (List.map Qb x92))) (f:=0) (fun _=>rfl) tv rfl (Qi rfl) h93 rfl rfl (Rn.k (v:=.clo 41 [.ptr (Γ.n0 + 1) 0,.ptr (Γ.n0 + 5) 0]) tv rfl rfl rfl ?_)
         obtain ⟨⟨⟩,hl97,h⟩:=bnd h
         obtain ⟨x99,h98,h⟩:=bnd h
         refine Rn.callM (args:=[.d (.lst 3 (List.map Qb x92)),.clo 41 [.ptr (Γ.n0 + 1) 0,.ptr (Γ.n0 + 5) 0]]) tv rfl (fun M2 nb2 hn hx=>H_slices_ContainsFunc_Edge _ _ 41 [.ptr (Γ.n0 + 1) 0,.ptr (Γ.n0 + 5) 0] _ h98 M2 nb2 rfl ⟨Qfq (hx _ _ (Qi rfl)),Qfq (hx _ _ (Qi rfl)),tv⟩ (fun a94 r95 h96 M3 nb3 hn3 hx3=>H_timedsynthesis_Synthesize_1 a94 p1 (Qd.mk x5.zN x5.from_ c50) (Γ.n0 + 1) (Γ.n0 + 5) (Γ.n0 + 165) (Γ.n0 + 159) (Γ.n0 + 163) r95 h96 M3 nb3 ((hx.trans hx3) _ _ (Qi rfl)) ((hx.trans hx3) _ _ (Qi rfl)) (by rw [Qd4 hl97]; exact ((hx.trans hx3) _ _ (Qi rfl))) ((hx.trans hx3) _ _ (Qi rfl)) ((hx.trans hx3) _ _ (Qi rfl)))) rfl pc9 ?_
         refine Rn.nil (toN ?_)
         refine Tr.cond rfl (fun hb100=>?_) (fun hb100=>?_)
         ·replace h:=bT hb100 h
          refine Tr.rgn (Rn.fldP (o':=9) tv rfl rfl (Rn.loadT (cs':=[(o_ x86),(o_ x88),.own 4 (List.map Qg r65),(i_ r48),(o_ r66),(i_ 0),(o_ r67),.own 3 (List.map Qb r68),(o_ r69),(l_ r70)]) tv rfl rfl rfl rfl (md rfl (Rn.bslice (xs:=[(i_ x54)]) (cs:=[(i_ x54)]) tv rfl rfl rfl rfl ?_))))
          obtain ⟨x101,h102,h⟩:=bnd h
          refine Rn.app (e:=(eI .i64)) tv rfl rfl rfl (Qg2 rfl rfl rfl) h102 rfl (Rn.fldP (o':=9) tv rfl rfl (Rn.storeO (cs':=[(o_ x86),(o_ x88),.own 4 (List.map Qg r65),(i_ r48),(o_ r66),(i_ 0),(o_ r67),.own 3 (List.map Qb r68),(o_ r69),(o_ x101)]) tv rfl rfl rfl rfl rfl (Rn.nil ?_)))
          replace h:=si h; subst h
          exact Qn [111,118,136] ⟨(kPtr rfl),(kPtr rfl),(kPtr rfl),(kPtr rfl),(kSl rfl),(kPtr rfl),(sm rfl),(sm rfl),(sm rfl),tv⟩ ⟨⟨_,rfl,rfl,(.same rfl)⟩,⟨_,rfl,rfl,(.same rfl)⟩,⟨_,rfl,rfl,(.cons (kPtr rfl) .nil)⟩,⟨_,rfl,rfl,(.same rfl)⟩,⟨_,rfl,rfl,(Qu fun _=>rfl)⟩,⟨_,rfl,rfl,(Qu fun _=>rfl)⟩,⟨_,rfl,rfl,(Qu fun _=>rfl)⟩,⟨_,rfl,rfl,(.cons (sm rfl) (.cons (sm rfl) (.cons (sm rfl) (.cons (sm rfl) (.cons (sm rfl) (.cons (sm rfl) (.cons (sm rfl) (.cons (sm rfl) (.cons (kSl rfl) (.cons (kSl rfl) .nil))))))))))⟩,tv⟩ rfl
         ·replace h:=bF hb100 h
          refine Tr.skip ?_
          replace h:=si h; subst h
          exact Qn [111,118] ⟨(kPtr rfl),(kPtr rfl),(kPtr rfl),(kPtr rfl),(kSl rfl),(kPtr rfl),(sm rfl),(sm rfl),(sm rfl),tv⟩ ⟨⟨_,rfl,rfl,(.same rfl)⟩,⟨_,rfl,rfl,(.same rfl)⟩,⟨_,rfl,rfl,(.cons (kPtr rfl) .nil)⟩,⟨_,rfl,rfl,(.same rfl)⟩,⟨_,rfl,rfl,(Qu fun _=>rfl)⟩,⟨_,rfl,rfl,(Qu fun _=>rfl)⟩,⟨_,rfl,rfl,(Qu fun _=>rfl)⟩,⟨_,rfl,rfl,(.cons (sm rfl) (.cons (sm rfl) (.cons (sm rfl) (.cons (sm rfl) (.cons (sm rfl) (.cons (sm rfl) (.cons (sm rfl) (.cons (sm rfl) (.cons (kSl rfl) (.cons (kSl rfl) .nil))))))))))⟩,tv⟩ rfl
       ·obtain ⟨r103,r104,r105,r106⟩:=z
        refine Tr.rgn (Rn.bin tv rfl rfl rfl (md rfl (Rn.nil ?_)))
        exact ⟨_,h,(by exact Qx ⟨(kPtr rfl),(kPtr rfl),(kPtr rfl),(kPtr rfl),(kSl rfl),(kPtr rfl),(sm rfl),(sm rfl),(sm rfl),tv⟩ ⟨⟨_,rfl,rfl,(.same rfl)⟩,⟨_,rfl,rfl,(.same rfl)⟩,⟨_,rfl,rfl,(.cons (kPtr rfl) .nil)⟩,⟨_,rfl,rfl,(.same rfl)⟩,⟨_,rfl,rfl,(Qu fun _=>rfl)⟩,⟨_,rfl,rfl,(Qu fun _=>rfl)⟩,⟨_,rfl,rfl,(Qu fun _=>rfl)⟩,⟨_,rfl,rfl,(.cons (sm rfl) (.cons (sm rfl) (.cons (sm rfl) (.cons (sm rfl) (.cons (sm rfl) (.cons (sm rfl) (.cons (sm rfl) (.cons (sm rfl) (.cons (kSl rfl) (.cons (kSl rfl) .nil))))))))))⟩,tv⟩ rfl)⟩
      ·replace h:=ifF hb72 h
       refine Tr.exit ?_
       replace h:=si h; subst h
       exact Qn [] ⟨(kPtr rfl),(kPtr rfl),(kPtr rfl),tv⟩ ⟨⟨_,rfl,rfl,(.same rfl)⟩,⟨_,rfl,rfl,(.same rfl)⟩,⟨_,rfl,rfl,(.cons (kPtr rfl) .nil)⟩,⟨_,rfl,rfl,(.same rfl)⟩,⟨_,rfl,rfl,(Qu fun _=>rfl)⟩,⟨_,rfl,rfl,(Qu fun _=>rfl)⟩,⟨_,rfl,rfl,(Qu fun _=>rfl)⟩,⟨_,rfl,rfl,(.cons (sm rfl) (.cons (sm rfl) (.cons (sm rfl) (.cons (sm rfl) (.cons (sm rfl) (.cons (sm rfl) (.cons (sm rfl) (.cons (sm rfl) (.cons (kSl rfl) (.cons (kSl rfl) .nil))))))))))⟩,tv⟩ rfl
    ·obtain ⟨c107,c108,c109,c110,c111,c112,c113,c114,r115,r116,r117,r118,r119,r120,r121,r122⟩:=z
     refine sr ((Rn.load (v:=.ptr (Γ.n0 + 165) 0) tv rfl (Qi rfl) rfl rfl ?_))
     obtain ⟨⟨⟩,hl123,h⟩:=bnd h
     obtain ⟨⟨r125,r126⟩,h124,h⟩:=bnd h
     refine Rn.callM (args:=[.ptr (Γ.n0 + 165) 0]) tv rfl (fun M2 nb2 hn hx=>H_timedsynthesis_task_supervisor _ (Γ.n0 + 165) (Γ.n0 + 159) (Γ.n0 + 163) _ h124 M2 nb2 (by rw [Qd4 hl123]; exact (hx _ _ (Qi rfl))) (hx _ _ (Qi rfl)) (hx _ _ (Qi rfl))) rfl pc9 ?_
     refine Rn.mov (v:=.tup [(Qo r125),(l_ r126)]) tv rfl (Rn.ext (v:=(Qo r125)) (vs:=[(Qo r125),(l_ r126)]) tv rfl rfl rfl (Rn.extTD (vs:=[(Qo r125),(l_ r126)]) tv rfl rfl rfl (Rn.fldP (o':=4) tv rfl rfl (Rn.storeT (v:=(Qo r125)) (ds:=(Qbq r125)) (cs':=[(o_ r115),(o_ r116),.own 4 (List.map Qg r117),(i_ r48),(l_ r125.zJ),(i_ r125.zM),(l_ r125.zK),.d (.lst 3 (List.map Qb r125.zL)),(o_ r121),(o_ r122)]) tv rfl rfl rfl rfl rfl rfl rfl (Rn.fldP (o':=8) tv rfl rfl (Rn.storeD (cs':=[(o_ r115),(o_ r116),.own 4 (List.map Qg r117),(i_ r48),(l_ r125.zJ),(i_ r125.zM),(l_ r125.zK),.d (.lst 3 (List.map Qb r125.zL)),(l_ r126),(o_ r122)]) tv rfl rfl rfl rfl rfl (nt ((sr ((Rn.load (v:=.agg [(l_ r115),(l_ r116),.d (.lst 4 (List.map Qg r117)),(i_ r48),(l_ r125.zJ),(i_ r125.zM),(l_ r125.zK),.d (.lst 3 (List.map Qb r125.zL)),(l_ r126),(l_ r122)]) tv rfl (Qi rfl) rfl rfl (Rn.storeT (v:=.agg [(l_ r115),(l_ r116),.d (.lst 4 (List.map Qg r117)),(i_ r48),(l_ r125.zJ),(i_ r125.zM),(l_ r125.zK),.d (.lst 3 (List.map Qb r125.zL)),(l_ r126),(l_ r122)]) (ds:=[(l_ r115),(l_ r116),.d (.lst 4 (List.map Qg r117)),(i_ r48),(l_ r125.zJ),(i_ r125.zM),(l_ r125.zK),.d (.lst 3 (List.map Qb r125.zL)),(l_ r126),(l_ r122)]) (cs':=[(l_ r115),(l_ r116),.d (.lst 4 (List.map Qg r117)),(i_ r48),(l_ r125.zJ),(i_ r125.zM),(l_ r125.zK),.d (.lst 3 (List.map Qb r125.zL)),(l_ r126),(l_ r122)]) tv rfl rfl rfl rfl rfl rfl rfl (md rfl (nt ((Tr.ret ?_))))))))))))))))
     replace h:=si h; subst h
     exact ⟨.inr rfl,.tup [.agg [(l_ r115),(l_ r116),.d (.lst 4 (List.map Qg r117)),(i_ r48),(l_ r125.zJ),(i_ r125.zM),(l_ r125.zK),.d (.lst 3 (List.map Qb r125.zL)),(l_ r126),(l_ r122)],(i_ 0)],res2 (Qyc rfl rfl rfl rfl) rfl,(WkV.tup (.cons (.same rfl) (.cons (.same rfl) .nil))).rd,⟨⟨tv,tv,tv,tv,tv,tv,tv,tv,tv,tv,tv⟩,tv,tv⟩,fun k hk=>Qf hk⟩
theorem Qpf {P:Program} {c:Nat} (hcf:Q1 P c = some Qfv):Qfu P c (Qb5):=by
 intro state1 x2 x3 x6 x9 k4 k7 k10 r h
 intro M nb hk5 hk8 hk11
 refine Qg8 hcf rfl M nb fun Γ hP hnt hn0 hM=>?_
 subst hP hn0
 refine Tr.init [(0,(i_ state1)),(1,(i_ x2)),(2,.ptr k4 0),(3,.ptr k7 0),(4,.ptr k10 0)] rfl ?_
 unfold Qb5 at h
 unfold Qfv
 refine sr ((md rfl (nt ((Tr.seq (Tr.block (sr ((md rfl (Rn.load (v:=(i_ x3)) tv rfl (Qk hM hk5) rfl rfl (Rn.bin tv rfl rfl rfl (md rfl (Rn.nil (toN ?_))))))))))))))
 refine Tr.cond rfl (fun hb12=>?_) (fun hb12=>?_)
 ·replace h:=bT hb12 h
  refine sr ((md rfl (md rfl (nt ((Tr.ret ?_))))))
  replace h:=si h; subst h
  exact ⟨.inr rfl,(i_ state1),rfl,fun _ _ _ _ h=>h,tv,fun k hk=>Qf hk⟩
 ·replace h:=bF hb12 h
  refine sr ((md rfl (Rn.load (v:=(i_ x6)) tv rfl (Qk hM hk8) rfl rfl (Rn.bin tv rfl rfl rfl (md rfl (Rn.nil (toN ?_)))))))
  refine Tr.cond rfl (fun hb13=>?_) (fun hb13=>?_)
  ·replace h:=bT hb13 h
   refine sr ((md rfl (nt ((Tr.ret ?_)))))
   replace h:=si h; subst h
   exact ⟨.inr rfl,(i_ 0),rfl,fun _ _ _ _ h=>h,tv,fun k hk=>Qf hk⟩
  ·replace h:=bF hb13 h
   refine sr ((md rfl (Rn.load (v:=(i_ x9)) tv rfl (Qk hM hk11) rfl rfl (Rn.bin tv rfl rfl rfl (md rfl (Rn.nil (toN ?_)))))))
   refine Tr.cond rfl (fun hb14=>?_) (fun hb14=>?_)
   ·replace h:=ifT hb14 h
    refine sr ((md rfl (Rn.bin tv rfl rfl rfl (md rfl (nt ((Tr.ret ?_)))))))
    replace h:=si h; subst h
    exact ⟨.inr rfl,(i_ (IntKind.wrap .i64 (state1 + 1))),rfl,fun _ _ _ _ h=>h,tv,fun k hk=>Qf hk⟩
   ·replace h:=ifF hb14 h
    refine Tr.skip (toN (sr ((md rfl (nt ((Tr.ret ?_)))))))
    replace h:=si h; subst h
    exact ⟨.inr rfl,(i_ (-1)),rfl,fun _ _ _ _ h=>h,tv,fun k hk=>Qf hk⟩
end Go.Abs
