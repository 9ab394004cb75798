/-
  Part 5 of the proof: see the last text.
-/
import Derived.Test.YtdfiohnppomfgaaGreatP4
set_option linter.unusedVariables false
set_option linter.unusedSimpArgs false
set_option linter.unusedSectionVars false
namespace Go.Abs
open Go
set_option maxRecDepth 10000
set_option maxHeartbeats 4000000
theorem Qra {P:Program} {c:Nat} (hcf:Qu P c = some Qgm):Qgl P c (Qb7):=by
 intro  r h
 refine Qcf hcf rfl fun Γ M hP hnt hM=>?_
 subst hP
 refine Tr.init [] rfl ?_
 unfold Qb7 at h
 unfold Qgm
 refine sr ((Rn.alloc tv rfl (nt ((sr ((Rn.bslice (xs:=[(i_ 0),(i_ 1)]) (cs:=[(i_ 0),(i_ 1)]) tv rfl rfl rfl rfl (Rn.bslice (xs:=[(i_ 2)]) (cs:=[(i_ 2)]) tv rfl rfl rfl rfl (Rn.build (v:=.agg [(i_ 0),(i_ 0),(i_ 1)]) tv rfl (Rn.build (v:=.agg [(i_ 0),(i_ 1),(i_ 0)]) tv rfl (Rn.build (v:=.agg [(i_ 1),(i_ 1),(i_ 2)]) tv rfl (Rn.build (v:=.agg [(i_ 2),(i_ 0),(i_ 0)]) tv rfl (Rn.bslice (xs:=[.agg [(i_ 0),(i_ 0),(i_ 1)],.agg [(i_ 0),(i_ 1),(i_ 0)],.agg [(i_ 1),(i_ 1),(i_ 2)],.agg [(i_ 2),(i_ 0),(i_ 0)]]) (cs:=[(i_ 0),(i_ 0),(i_ 1),(i_ 0),(i_ 1),(i_ 0),(i_ 1),(i_ 1),(i_ 2),(i_ 2),(i_ 0),(i_ 0)]) tv rfl rfl rfl rfl (Rn.buildT (v:=.agg [.sl 1 (Γ.n0 + 1) 0 2 2,(i_ 3),.sl 1 (Γ.n0 + 2) 0 1 1,.sl 3 (Γ.n0 + 7) 0 4 4]) tv rfl (Rn.storeT (v:=.agg [.sl 1 (Γ.n0 + 1) 0 2 2,(i_ 3),.sl 1 (Γ.n0 + 2) 0 1 1,.sl 3 (Γ.n0 + 7) 0 4 4]) (ds:=[.sl 1 (Γ.n0 + 1) 0 2 2,(i_ 3),.sl 1 (Γ.n0 + 2) 0 1 1,.sl 3 (Γ.n0 + 7) 0 4 4]) (cs':=[.sl 1 (Γ.n0 + 1) 0 2 2,(i_ 3),.sl 1 (Γ.n0 + 2) 0 1 1,.sl 3 (Γ.n0 + 7) 0 4 4]) tv rfl rfl rfl rfl rfl rfl rfl (Rn.nil (toN ?_)))))))))))))))))
 refine Tr.weak (by show WeakSt Γ _ ⟨look [(0,.ptr (Γ.n0 + 0) 0),(1,(l_ [0,1])),(2,.sl 1 (Γ.n0 + 2) 0 1 1),(3,.agg [(i_ 0),(i_ 0),(i_ 1)]),(4,.agg [(i_ 0),(i_ 1),(i_ 0)]),(5,.agg [(i_ 1),(i_ 1),(i_ 2)]),(6,.agg [(i_ 2),(i_ 0),(i_ 0)]),(7,.sl 3 (Γ.n0 + 7) 0 4 4),(8,.agg [(l_ [0,1]),(i_ 3),.sl 1 (Γ.n0 + 2) 0 1 1,.sl 3 (Γ.n0 + 7) 0 4 4])],Qp Γ.n0 (bxs [(0,.cells ([(l_ [0,1]),(i_ 3),.sl 1 (Γ.n0 + 2) 0 1 1,.sl 3 (Γ.n0 + 7) 0 4 4])),(2,.cells ([(i_ 2)])),(7,.cells ([(i_ 0),(i_ 0),(i_ 1),(i_ 0),(i_ 1),(i_ 0),(i_ 1),(i_ 1),(i_ 2),(i_ 2),(i_ 0),(i_ 0)]))]) M,Γ.n0 + 9⟩; exact Qct 1 [.int .i64 0,.int .i64 1] rfl rfl ⟨(fPtr rfl),(fSl rfl rfl),(fSlO rfl),(.same rfl),(.same rfl),(.same rfl),(.same rfl),(fSlO rfl),(WkV.agg (.cons (fSl rfl rfl) (.cons (.same rfl) (.cons (fSlO rfl) (.cons (fSlO rfl) .nil))))),tv⟩ ⟨⟨_,rfl,rfl,(.cons (fSl rfl rfl) (.cons (.same rfl) (.cons (fSlO rfl) (.cons (fSlO rfl) .nil))))⟩,⟨_,rfl,rfl,(.same rfl)⟩,⟨_,rfl,rfl,(.same rfl)⟩,tv⟩ rfl) ?_
 refine Tr.weak (by show WeakSt Γ _ ⟨look [(0,.ptr (Γ.n0 + 0) 0),(1,(l_ [0,1])),(2,(l_ [2])),(3,.agg [(i_ 0),(i_ 0),(i_ 1)]),(4,.agg [(i_ 0),(i_ 1),(i_ 0)]),(5,.agg [(i_ 1),(i_ 1),(i_ 2)]),(6,.agg [(i_ 2),(i_ 0),(i_ 0)]),(7,.sl 3 (Γ.n0 + 7) 0 4 4),(8,.agg [(l_ [0,1]),(i_ 3),(l_ [2]),.sl 3 (Γ.n0 + 7) 0 4 4])],Qp Γ.n0 (bxs [(0,.cells ([(l_ [0,1]),(i_ 3),(l_ [2]),.sl 3 (Γ.n0 + 7) 0 4 4])),(7,.cells ([(i_ 0),(i_ 0),(i_ 1),(i_ 0),(i_ 1),(i_ 0),(i_ 1),(i_ 1),(i_ 2),(i_ 2),(i_ 0),(i_ 0)]))]) M,Γ.n0 + 9⟩; exact Qct 2 [.int .i64 2] rfl rfl ⟨(fPtr rfl),(.same rfl),(fSl rfl rfl),(.same rfl),(.same rfl),(.same rfl),(.same rfl),(fSlO rfl),(WkV.agg (.cons (.same rfl) (.cons (.same rfl) (.cons (fSl rfl rfl) (.cons (fSlO rfl) .nil))))),tv⟩ ⟨⟨_,rfl,rfl,(.cons (.same rfl) (.cons (.same rfl) (.cons (fSl rfl rfl) (.cons (fSlO rfl) .nil))))⟩,⟨_,rfl,rfl,(.same rfl)⟩,tv⟩ rfl) ?_
 refine Tr.weak (by show WeakSt Γ _ ⟨look [(0,.ptr (Γ.n0 + 0) 0),(1,(l_ [0,1])),(2,(l_ [2])),(3,.agg [(i_ 0),(i_ 0),(i_ 1)]),(4,.agg [(i_ 0),(i_ 1),(i_ 0)]),(5,.agg [(i_ 1),(i_ 1),(i_ 2)]),(6,.agg [(i_ 2),(i_ 0),(i_ 0)]),(7,.d (.lst 3 (List.map Qc [(Qe.mk 0 0 1),(Qe.mk 0 1 0),(Qe.mk 1 1 2),(Qe.mk 2 0 0)]))),(8,.agg [(l_ [0,1]),(i_ 3),(l_ [2]),.d (.lst 3 (List.map Qc [(Qe.mk 0 0 1),(Qe.mk 0 1 0),(Qe.mk 1 1 2),(Qe.mk 2 0 0)]))])],Qp Γ.n0 (bxs [(0,.cells ([(l_ [0,1]),(i_ 3),(l_ [2]),.d (.lst 3 (List.map Qc [(Qe.mk 0 0 1),(Qe.mk 0 1 0),(Qe.mk 1 1 2),(Qe.mk 2 0 0)]))]))]) M,Γ.n0 + 9⟩; exact Qct 7 [.int .i64 0,.int .i64 0,.int .i64 1,.int .i64 0,.int .i64 1,.int .i64 0,.int .i64 1,.int .i64 1,.int .i64 2,.int .i64 2,.int .i64 0,.int .i64 0] rfl rfl ⟨(fPtr rfl),(.same rfl),(.same rfl),(.same rfl),(.same rfl),(.same rfl),(.same rfl),(fSl rfl rfl),(WkV.agg (.cons (.same rfl) (.cons (.same rfl) (.cons (.same rfl) (.cons (fSl rfl rfl) .nil))))),tv⟩ ⟨⟨_,rfl,rfl,(.cons (.same rfl) (.cons (.same rfl) (.cons (.same rfl) (.cons (fSl rfl rfl) .nil))))⟩,tv⟩ rfl) ?_
 refine Tr.ret ?_
 replace h:=si h; subst h
 exact ⟨.inr rfl,(.agg [(l_ [0,1]),(i_ 3),(l_ [2]),.d (.lst 3 (List.map Qc [(Qe.mk 0 0 1),(Qe.mk 0 1 0),(Qe.mk 1 1 2),(Qe.mk 2 0 0)]))]),Qif rfl rfl rfl rfl,fun _ _ _ _ h=>h,⟨tv,tv,tv,tv,tv⟩,fun k hk=>Qf hk⟩
theorem Qyb {P:Program} {c:Nat} (hcf:Qu P c = some Qih) (fuel:Nat):Qig P c (Qb5 fuel):=by
 intro l1 n2 r h
 refine Qcf hcf rfl fun Γ M hP hnt hM=>?_
 subst hP
 refine Tr.init [(0,(l_ l1)),(1,(i_ n2))] rfl ?_
 unfold Qb5 at h
 unfold Qih
 refine sr ((md rfl (nt ((Tr.seq (sr ((md rfl (Rn.lenD tv rfl (md rfl (nt ((Tr.block ?_)))))))))))))
 refine Tr.loop (mk:=fun (x3:Int)=>⟨look [(0,(l_ l1)),(1,(i_ n2)),(7,(l_ l1)),(8,(i_ (l1.length:Int))),(9,(i_ x3))],Qp Γ.n0 (bxs []) M,Γ.n0 + 35⟩) h (by exact Ql ⟨(sm rfl),(sm rfl),(sm rfl),(sm rfl),(sm rfl),tv⟩ tv rfl) (fun k4 z h=>?_)
 ·obtain ⟨x3,rfl⟩ : ∃ x,x = z:=⟨_,rfl⟩
  replace h:_ = some _:=h
  refine sr ((Rn.bin tv rfl rfl rfl (nt ((Tr.seq ?_)))))
  refine Tr.cond rfl (fun hb5=>?_) (fun hb5=>?_)
  ·replace h:=ifT hb5 h
   refine Tr.skip (toN (Tr.seq (Tr.block (sr ((md rfl ?_))))))
   obtain ⟨x6,h7,h⟩:=bnd h
   refine Rn.idxD (e:=(eI .i64)) tv rfl rfl h7 (Rn.loadC (x:=.int .i64 x6) tv rfl (md rfl (md rfl (nt ((Tr.block ?_))))))
   refine Tr.cutB (fun (x9:Bool)=>⟨look [(0,(l_ l1)),(1,(i_ n2)),(5,(i_ x3)),(6,(i_ x6)),(7,(l_ l1)),(8,(i_ (l1.length:Int))),(9,(i_ x3)),(14,(b_ x9))],Qp Γ.n0 (bxs []) M,Γ.n0 + 35⟩) h (fun z h=>?_) (fun z h=>?_)
   ·refine Tr.rgn (md rfl (Rn.bin tv rfl rfl rfl (md rfl ?_)))
    refine Qc0 (decide (x6 < 0)) (fun hb8=>?_) (fun hb8=>?_)
    ·replace h:=ifT hb8 h
     refine Rn.sk (nw rfl hb8) (Rn.sk (nw rfl hb8) (Rn.sk (nw rfl hb8) (Rn.pickT (v:=(b_ true)) tv rfl hb8 rfl (md rfl (Rn.nil ?_)))))
     replace h:=si h; subst h
     exact Qj [] ⟨(sm rfl),(sm rfl),(sm rfl),(sm rfl),(sm rfl),(sm rfl),(sm rfl),(sm rfl),tv⟩ tv rfl
    ·replace h:=ifF hb8 h
     refine Rn.movD (gw rfl hb8) rfl (Rn.movD (gw rfl hb8) rfl (Rn.bin (gw rfl hb8) rfl rfl rfl (Rn.pickF (v:=(b_ (decide (x6≥n2)))) tv rfl hb8 rfl (md rfl (Rn.nil ?_)))))
     replace h:=si h; subst h
     exact Qj [] ⟨(sm rfl),(sm rfl),(sm rfl),(sm rfl),(sm rfl),(sm rfl),(sm rfl),(sm rfl),tv⟩ tv rfl
   ·obtain ⟨x9,rfl⟩ : ∃ x,x = z:=⟨_,rfl⟩
    refine Tr.cond rfl (fun hb10=>?_) (fun hb10=>?_)
    ·replace h:=bT hb10 h
     refine sr ((md rfl (nt ((Tr.ret ?_)))))
     replace h:=si h; subst h
     exact ⟨.inr rfl,(i_ 2),rfl,fun _ _ _ _ h=>h,tv,fun k hk=>Qf hk⟩
    ·replace h:=bF hb10 h
     refine Tr.cutB (fun (x14:Bool)=>⟨look [(0,(l_ l1)),(1,(i_ n2)),(7,(l_ l1)),(8,(i_ (l1.length:Int))),(9,(i_ x3)),(22,(b_ x14))],Qp Γ.n0 (bxs []) M,Γ.n0 + 35⟩) h (fun z h=>?_) (fun z h=>?_)
     ·refine Tr.rgn (md rfl (Rn.bin tv rfl rfl rfl (md rfl ?_)))
      refine Qc0 (decide (x3 > 0)) (fun hb11=>?_) (fun hb11=>?_)
      ·replace h:=ifT hb11 h
       refine Rn.movD (gw rfl hb11) rfl (Rn.movD (gw rfl hb11) rfl (Rn.movD (gw rfl hb11) rfl (Rn.bin (gw rfl hb11) rfl rfl rfl ?_)))
       obtain ⟨x12,h13,h⟩:=bnd h
       refine Rn.idxD (e:=(eI .i64)) (gw rfl hb11) rfl rfl h13 (Rn.loadC (x:=.int .i64 x12) (gw rfl hb11) rfl (Rn.bin (gw rfl hb11) rfl rfl rfl (Rn.pickT (v:=(b_ (decide (x6≤x12)))) tv rfl hb11 rfl (md rfl (Rn.nil ?_)))))
       replace h:=si h; subst h
       exact Qj [] ⟨(sm rfl),(sm rfl),(sm rfl),(sm rfl),(sm rfl),(sm rfl),tv⟩ tv rfl
      ·replace h:=ifF hb11 h
       refine Rn.sk (nw rfl hb11) (Rn.sk (nw rfl hb11) (Rn.sk (nw rfl hb11) (Rn.sk (nw rfl hb11) (Rn.sk (nw rfl hb11) (Rn.sk (nw rfl hb11) (Rn.sk (nw rfl hb11) (Rn.pickF (v:=(b_ false)) tv rfl hb11 rfl (md rfl (Rn.nil ?_)))))))))
       replace h:=si h; subst h
       exact Qj [] ⟨(sm rfl),(sm rfl),(sm rfl),(sm rfl),(sm rfl),(sm rfl),tv⟩ tv rfl
     ·obtain ⟨x14,rfl⟩ : ∃ x,x = z:=⟨_,rfl⟩
      refine Tr.cond rfl (fun hb15=>?_) (fun hb15=>?_)
      ·replace h:=bT hb15 h
       refine sr ((md rfl (nt ((Tr.ret ?_)))))
       replace h:=si h; subst h
       exact ⟨.inr rfl,(i_ 5),rfl,fun _ _ _ _ h=>h,tv,fun k hk=>Qf hk⟩
      ·replace h:=bF hb15 h
       refine Tr.skip (toN (Tr.rgn (Rn.bin tv rfl rfl rfl (md rfl (Rn.nil ?_)))))
       exact ⟨_,h,(by exact Ql ⟨(sm rfl),(sm rfl),(sm rfl),(sm rfl),(sm rfl),tv⟩ tv rfl)⟩
  ·replace h:=ifF hb5 h
   refine Tr.exit (toN (sr ((md rfl (nt ((Tr.ret ?_)))))))
   replace h:=si h; subst h
   exact ⟨.inr rfl,(i_ 0),rfl,fun _ _ _ _ h=>h,tv,fun k hk=>Qf hk⟩
theorem Q22 {P:Program} {c:Nat} (hcf:Qu P c = some Qkk) (fuel:Nat):Qkj P c (Qcw fuel):=by
 intro s1 v2 r h
 refine Qcf hcf rfl fun Γ M hP hnt hM=>?_
 subst hP
 refine Tr.init [(0,(l_ s1)),(1,(i_ v2))] rfl ?_
 unfold Qcw at h
 unfold Qkk
 refine sr ((md rfl (nt ((Tr.seq (sr ((md rfl (Rn.lenD tv rfl (md rfl (nt ((Tr.block ?_)))))))))))))
 refine Tr.loop (mk:=fun (x3:Int)=>⟨look [(0,(l_ s1)),(1,(i_ v2)),(7,(i_ (s1.length:Int))),(8,(i_ x3))],Qp Γ.n0 (bxs []) M,Γ.n0 + 19⟩) h (by exact Ql ⟨(sm rfl),(sm rfl),(sm rfl),(sm rfl),tv⟩ tv rfl) (fun k4 z h=>?_)
 ·obtain ⟨x3,rfl⟩ : ∃ x,x = z:=⟨_,rfl⟩
  replace h:_ = some _:=h
  refine sr ((Rn.bin tv rfl rfl rfl (nt ((Tr.seq ?_)))))
  refine Tr.cond rfl (fun hb5=>?_) (fun hb5=>?_)
  ·replace h:=ifT hb5 h
   refine Tr.skip (toN (Tr.seq (Tr.block (sr ((md rfl (md rfl (nt ((sr ((md rfl (md rfl (md rfl ?_))))))))))))))
   obtain ⟨x6,h7,h⟩:=bnd h
   refine Rn.idxD (e:=(eI .i64)) tv rfl rfl h7 (Rn.loadC (x:=.int .i64 x6) tv rfl (Rn.bin tv rfl rfl rfl (Rn.nil (toN ?_))))
   refine Tr.cond rfl (fun hb8=>?_) (fun hb8=>?_)
   ·replace h:=bT hb8 h
    refine sr ((md rfl (md rfl (nt ((Tr.ret ?_))))))
    replace h:=si h; subst h
    exact ⟨.inr rfl,(i_ x3),rfl,fun _ _ _ _ h=>h,tv,fun k hk=>Qf hk⟩
   ·replace h:=bF hb8 h
    refine Tr.skip (toN (Tr.rgn (Rn.bin tv rfl rfl rfl (md rfl (Rn.nil ?_)))))
    exact ⟨_,h,(by exact Ql ⟨(sm rfl),(sm rfl),(sm rfl),(sm rfl),tv⟩ tv rfl)⟩
  ·replace h:=ifF hb5 h
   refine Tr.exit (toN (sr ((md rfl (nt ((Tr.ret ?_)))))))
   replace h:=si h; subst h
   exact ⟨.inr rfl,(i_ (-1)),rfl,fun _ _ _ _ h=>h,tv,fun k hk=>Qf hk⟩
theorem Que {P:Program} {c:Nat} {Qcw:(List Int)→Int→Option Int}
    (H_slices_Index_int:Qkj P 88 Qcw) (hcf:Qu P c = some Qhl):Qbp P c (Qg Qcw):=by
 intro s1 v2 r h
 refine Qcf hcf rfl fun Γ M hP hnt hM=>?_
 subst hP
 refine Tr.init [(0,(l_ s1)),(1,(i_ v2))] rfl ?_
 unfold Qg at h
 unfold Qhl
 refine sr ((md rfl (nt ((sr ((md rfl (md rfl ?_))))))))
 obtain ⟨x4,h3,h⟩:=bnd h
 refine Rn.call (args:=[(l_ s1),(i_ v2)]) tv rfl (H_slices_Index_int _ _ _ h3) pc9 (Rn.bin tv rfl rfl rfl (md rfl (nt ((Tr.ret ?_)))))
 replace h:=si h; subst h
 exact ⟨.inr rfl,(b_ (decide (x4≥0))),rfl,fun _ _ _ _ h=>h,tv,fun k hk=>Qf hk⟩
theorem Qsk {P:Program} {c:Nat} {Qg:(List Int)→Int→Option Bool}
    (H_slices_Contains_int:Qbp P 56 Qg) (hcf:Qu P c = some Qg4) (fuel:Nat):Qg3 P c (Qb3 Qg fuel):=by
 intro a1 r h
 refine Qcf hcf rfl fun Γ M hP hnt hM=>?_
 subst hP
 refine Tr.init [(0,(Qa a1))] rfl ?_
 unfold Qb3 at h
 unfold Qg4
 refine sr ((Rn.box (v:=(Qa a1)) (cs:=(Qd a1)) tv rfl rfl rfl rfl rfl (md rfl (nt ((Tr.seq (sr ((Rn.fldP (o':=3) tv rfl rfl (Rn.load (v:=.d (.lst 3 (List.map Qc a1.Edges))) tv rfl (Qm rfl) rfl rfl (Rn.lenD tv rfl (md rfl (nt ((Tr.block ?_)))))))))))))))
 refine Tr.loop (mk:=fun (x2:Int)=>⟨look [(1,.ptr (Γ.n0 + 1) 0),(7,.d (.lst 3 (List.map Qc a1.Edges))),(8,(i_ (a1.Edges.length:Int))),(9,(i_ x2))],Qp Γ.n0 (bxs [(1,.cells ((Qd a1)))]) M,Γ.n0 + 72⟩) h (by exact Ql ⟨(kPtr rfl),(sm rfl),(sm rfl),(sm rfl),tv⟩ ⟨⟨_,rfl,rfl,(.same rfl)⟩,tv⟩ rfl) (fun k3 z h=>?_)
 ·obtain ⟨x2,rfl⟩ : ∃ x,x = z:=⟨_,rfl⟩
  replace h:_ = some _:=h
  refine sr ((Rn.bin tv rfl rfl rfl (nt ((Tr.seq ?_)))))
  refine Tr.cond rfl (fun hb4=>?_) (fun hb4=>?_)
  ·replace h:=ifT hb4 h
   refine Tr.skip (toN ?_)
   refine Tr.cutJ (fun ((c22,c23,c24):Int×Int×Int)=>⟨look [(1,.ptr (Γ.n0 + 1) 0),(7,.d (.lst 3 (List.map Qc a1.Edges))),(8,(i_ (a1.Edges.length:Int))),(9,(i_ x2))],Qp Γ.n0 (bxs [(1,.cells ((Qd a1))),(4,.cells ([(i_ c22),(i_ c23),(i_ c24)]))]) M,Γ.n0 + 72⟩) h (fun J25 h=>?_) (fun z h=>?_)
   ·refine Tr.block (sr ((md rfl ?_)))
    obtain ⟨x5,h6,h⟩:=bnd h
    refine Rn.idxD (e:=Qc) tv rfl rfl h6 (Rn.loadCA (vs:=(Qbj x5)) tv rfl rfl rfl (Rn.alloc tv rfl (md rfl (Rn.store (v:=(Qbs x5)) (cs':=(Qbj x5)) tv rfl rfl rfl rfl rfl rfl (nt ((Tr.seq (Tr.block ?_))))))))
    refine Tr.cutB (fun (x10:Bool)=>⟨look [(1,.ptr (Γ.n0 + 1) 0),(3,(i_ x2)),(4,.ptr (Γ.n0 + 4) 0),(7,.d (.lst 3 (List.map Qc a1.Edges))),(8,(i_ (a1.Edges.length:Int))),(9,(i_ x2)),(14,(b_ x10))],Qp Γ.n0 (bxs [(1,.cells ((Qd a1))),(4,.cells ((Qbj x5)))]) M,Γ.n0 + 72⟩) h (fun z h=>?_) (fun z h=>?_)
    ·refine Tr.rgn (Rn.fldP (o':=0) tv rfl rfl (Rn.load (v:=(i_ x5.From)) tv rfl (Qm rfl) rfl rfl (Rn.bin tv rfl rfl rfl (md rfl ?_))))
     refine Qc0 (decide (x5.From < 0)) (fun hb7=>?_) (fun hb7=>?_)
     ·replace h:=ifT hb7 h
      refine Rn.sk (nw rfl hb7) (Rn.sk (nw rfl hb7) (Rn.sk (nw rfl hb7) (Rn.sk (nw rfl hb7) (Rn.sk (nw rfl hb7) (Rn.pickT (v:=(b_ true)) tv rfl hb7 rfl (md rfl (Rn.sk (nw (b:=true) rfl rfl) (Rn.sk (nw (b:=true) rfl rfl) (Rn.sk (nw (b:=true) rfl rfl) (Rn.pickT (v:=(b_ true)) tv rfl rfl rfl (md rfl (Rn.sk (nw (b:=true) rfl rfl) (Rn.sk (nw (b:=true) rfl rfl) (Rn.sk (nw (b:=true) rfl rfl) (Rn.sk (nw (b:=true) rfl rfl) (Rn.sk (nw (b:=true) rfl rfl) (Rn.pickT (v:=(b_ true)) tv rfl rfl rfl (md rfl (Rn.nil ?_)))))))))))))))))))
      replace h:=si h; subst h
      exact Qj [] ⟨(kPtr rfl),(sm rfl),(kPtr rfl),(sm rfl),(sm rfl),(sm rfl),(sm rfl),tv⟩ ⟨⟨_,rfl,rfl,(.same rfl)⟩,⟨_,rfl,rfl,(.same rfl)⟩,tv⟩ rfl
     ·replace h:=ifF hb7 h
      refine Rn.fldP (o':=0) (gw rfl hb7) rfl rfl (Rn.load (v:=(i_ x5.From)) (gw rfl hb7) rfl (Qm rfl) rfl rfl (Rn.fldP (o':=1) (gw rfl hb7) rfl rfl (Rn.load (v:=(i_ a1.States)) (gw rfl hb7) rfl (Qm rfl) rfl rfl (Rn.bin (gw rfl hb7) rfl rfl rfl (Rn.pickF (v:=(b_ (decide (x5.From≥a1.States)))) tv rfl hb7 rfl (md rfl ?_))))))
      refine Qc0 (decide (x5.From≥a1.States)) (fun hb8=>?_) (fun hb8=>?_)
      ·replace h:=ifT hb8 h
       refine Rn.sk (nw rfl hb8) (Rn.sk (nw rfl hb8) (Rn.sk (nw rfl hb8) (Rn.pickT (v:=(b_ true)) tv rfl hb8 rfl (md rfl (Rn.sk (nw (b:=true) rfl rfl) (Rn.sk (nw (b:=true) rfl rfl) (Rn.sk (nw (b:=true) rfl rfl) (Rn.sk (nw (b:=true) rfl rfl) (Rn.sk (nw (b:=true) rfl rfl) (Rn.pickT (v:=(b_ true)) tv rfl rfl rfl (md rfl (Rn.nil ?_))))))))))))
       replace h:=si h; subst h
       exact Qj [] ⟨(kPtr rfl),(sm rfl),(kPtr rfl),(sm rfl),(sm rfl),(sm rfl),(sm rfl),tv⟩ ⟨⟨_,rfl,rfl,(.same rfl)⟩,⟨_,rfl,rfl,(.same rfl)⟩,tv⟩ rfl
      ·replace h:=ifF hb8 h
       refine Rn.fldP (o':=2) (gw rfl hb8) rfl rfl (Rn.load (v:=(i_ x5.To)) (gw rfl hb8) rfl (Qm rfl) rfl rfl (Rn.bin (gw rfl hb8) rfl rfl rfl (Rn.pickF (v:=(b_ (decide (x5.To < 0)))) tv rfl hb8 rfl (md rfl ?_))))
       refine Qc0 (decide (x5.To < 0)) (fun hb9=>?_) (fun hb9=>?_)
       ·replace h:=ifT hb9 h
        refine Rn.sk (nw rfl hb9) (Rn.sk (nw rfl hb9) (Rn.sk (nw rfl hb9) (Rn.sk (nw rfl hb9) (Rn.sk (nw rfl hb9) (Rn.pickT (v:=(b_ true)) tv rfl hb9 rfl (md rfl (Rn.nil ?_)))))))
        replace h:=si h; subst h
        exact Qj [] ⟨(kPtr rfl),(sm rfl),(kPtr rfl),(sm rfl),(sm rfl),(sm rfl),(sm rfl),tv⟩ ⟨⟨_,rfl,rfl,(.same rfl)⟩,⟨_,rfl,rfl,(.same rfl)⟩,tv⟩ rfl
       ·replace h:=ifF hb9 h
        refine Rn.fldP (o':=2) (gw rfl hb9) rfl rfl (Rn.load (v:=(i_ x5.To)) (gw rfl hb9) rfl (Qm rfl) rfl rfl (Rn.fldP (o':=1) (gw rfl hb9) rfl rfl (Rn.load (v:=(i_ a1.States)) (gw rfl hb9) rfl (Qm rfl) rfl rfl (Rn.bin (gw rfl hb9) rfl rfl rfl (Rn.pickF (v:=(b_ (decide (x5.To≥a1.States)))) tv rfl hb9 rfl (md rfl (Rn.nil ?_)))))))
        replace h:=si h; subst h
        exact Qj [] ⟨(kPtr rfl),(sm rfl),(kPtr rfl),(sm rfl),(sm rfl),(sm rfl),(sm rfl),tv⟩ ⟨⟨_,rfl,rfl,(.same rfl)⟩,⟨_,rfl,rfl,(.same rfl)⟩,tv⟩ rfl
    ·obtain ⟨x10,rfl⟩ : ∃ x,x = z:=⟨_,rfl⟩
     refine Tr.cond rfl (fun hb11=>?_) (fun hb11=>?_)
     ·replace h:=bT hb11 h
      refine sr ((md rfl (nt ((Tr.ret ?_)))))
      replace h:=si h; subst h
      exact ⟨.inr rfl,(i_ 2),rfl,fun _ _ _ _ h=>h,tv,fun k hk=>Qf hk⟩
     ·replace h:=bF hb11 h
      refine sr ((Rn.fldP (o':=0) tv rfl rfl (Rn.load (v:=(l_ a1.Alphabet)) tv rfl (Qm rfl) rfl rfl (Rn.fldP (o':=1) tv rfl rfl (Rn.load (v:=(i_ x5.Event)) tv rfl (Qm rfl) rfl rfl ?_)))))
      obtain ⟨x13,h12,h⟩:=bnd h
      refine Rn.call (args:=[(l_ a1.Alphabet),(i_ x5.Event)]) tv rfl (H_slices_Contains_int _ _ _ h12) pc9 (Rn.un tv rfl rfl (md rfl (Rn.nil (toN ?_))))
      refine Tr.cond rfl (fun hb14=>?_) (fun hb14=>?_)
      ·have hb14:=nT' hb14
       replace h:=bF hb14 h
       refine sr ((md rfl (nt ((Tr.ret ?_)))))
       replace h:=si h; subst h
       exact ⟨.inr rfl,(i_ 9),rfl,fun _ _ _ _ h=>h,tv,fun k hk=>Qf hk⟩
      ·have hb14:=nF' hb14
       replace h:=bT hb14 h
       refine Tr.skip (toN (Tr.seq (sr ((md rfl (Rn.bin tv rfl rfl rfl (Rn.nil (toN ?_))))))))
       refine Tr.cond rfl (fun hb15=>?_) (fun hb15=>?_)
       ·replace h:=bT hb15 h
        refine Tr.exit ?_
        exact ⟨_,h,(by exact Qj [] ⟨(kPtr rfl),(sm rfl),(sm rfl),(sm rfl),tv⟩ ⟨⟨_,rfl,rfl,(.same rfl)⟩,⟨_,rfl,rfl,(.same rfl)⟩,tv⟩ rfl)⟩
       ·replace h:=bF hb15 h
        refine Tr.skip (toN (sr ((Rn.fldP (o':=3) tv rfl rfl (Rn.load (v:=.d (.lst 3 (List.map Qc a1.Edges))) tv rfl (Qm rfl) rfl rfl (md rfl (Rn.bin tv rfl rfl rfl ?_)))))))
        obtain ⟨x16,h17,h⟩:=bnd h
        refine Rn.idxD (e:=Qc) tv rfl rfl h17 (Rn.loadCA (vs:=(Qbj x16)) tv rfl rfl rfl (Rn.alloc tv rfl (Rn.store (v:=(Qbs x16)) (cs':=(Qbj x16)) tv rfl rfl rfl rfl rfl rfl (Rn.nil (toN ?_)))))
        refine Tr.cutB (fun (x20:Bool)=>⟨look [(1,.ptr (Γ.n0 + 1) 0),(7,.d (.lst 3 (List.map Qc a1.Edges))),(8,(i_ (a1.Edges.length:Int))),(9,(i_ x2)),(70,(b_ x20))],Qp Γ.n0 (bxs [(1,.cells ((Qd a1))),(4,.cells ((Qbj x5))),(5,.cells ((Qbj x16)))]) M,Γ.n0 + 72⟩) h (fun z h=>?_) (fun z h=>?_)
        ·refine Tr.rgn (Rn.fldP (o':=0) tv rfl rfl (Rn.load (v:=(i_ x5.From)) tv rfl (Qm rfl) rfl rfl (Rn.fldP (o':=0) tv rfl rfl (Rn.load (v:=(i_ x16.From)) tv rfl (Qm rfl) rfl rfl (Rn.bin tv rfl rfl rfl (md rfl ?_))))))
         refine Qc0 (decide (x5.From < x16.From)) (fun hb18=>?_) (fun hb18=>?_)
         ·replace h:=ifT hb18 h
          refine Rn.sk (nw rfl hb18) (Rn.sk (nw rfl hb18) (Rn.sk (nw rfl hb18) (Rn.sk (nw rfl hb18) (Rn.sk (nw rfl hb18) (Rn.sk (nw rfl hb18) (Rn.sk (nu rfl) (Rn.sk (nu rfl) (Rn.sk (nu rfl) (Rn.sk (nu rfl) (Rn.sk (nu rfl) (Rn.sk (nw rfl hb18) (Rn.pickT (v:=(b_ true)) tv rfl hb18 rfl (Rn.nil ?_)))))))))))))
          replace h:=si h; subst h
          exact Qj [] ⟨(kPtr rfl),(sm rfl),(sm rfl),(sm rfl),(sm rfl),tv⟩ ⟨⟨_,rfl,rfl,(.same rfl)⟩,⟨_,rfl,rfl,(.same rfl)⟩,⟨_,rfl,rfl,(.same rfl)⟩,tv⟩ rfl
         ·replace h:=ifF hb18 h
          refine Rn.fldP (o':=0) (gw rfl hb18) rfl rfl (Rn.load (v:=(i_ x5.From)) (gw rfl hb18) rfl (Qm rfl) rfl rfl (Rn.fldP (o':=0) (gw rfl hb18) rfl rfl (Rn.load (v:=(i_ x16.From)) (gw rfl hb18) rfl (Qm rfl) rfl rfl (Rn.bin (gw rfl hb18) rfl rfl rfl (Rn.movD (gw rfl hb18) rfl ?_)))))
          refine Qc0 (x5.From == x16.From) (fun hb19=>?_) (fun hb19=>?_)
          ·replace h:=bT hb19 h
           refine Rn.fldP (o':=1) (gw rfl hb19) rfl rfl (Rn.load (v:=(i_ x5.Event)) (gw rfl hb19) rfl (Qm rfl) rfl rfl (Rn.fldP (o':=1) (gw rfl hb19) rfl rfl (Rn.load (v:=(i_ x16.Event)) (gw rfl hb19) rfl (Qm rfl) rfl rfl (Rn.bin (gw rfl hb19) rfl rfl rfl (Rn.pickT (v:=(b_ (decide (x5.Event≤x16.Event)))) (gw rfl hb18) rfl hb19 rfl (Rn.pickF (v:=(b_ (decide (x5.Event≤x16.Event)))) tv rfl hb18 rfl (Rn.nil ?_)))))))
           replace h:=si h; subst h
           exact Qj [] ⟨(kPtr rfl),(sm rfl),(sm rfl),(sm rfl),(sm rfl),tv⟩ ⟨⟨_,rfl,rfl,(.same rfl)⟩,⟨_,rfl,rfl,(.same rfl)⟩,⟨_,rfl,rfl,(.same rfl)⟩,tv⟩ rfl
          ·replace h:=bF hb19 h
           refine Rn.sk (nw rfl hb19) (Rn.sk (nw rfl hb19) (Rn.sk (nw rfl hb19) (Rn.sk (nw rfl hb19) (Rn.sk (nw rfl hb19) (Rn.pickF (v:=(b_ false)) (gw rfl hb18) rfl hb19 rfl (Rn.pickF (v:=(b_ false)) tv rfl hb18 rfl (Rn.nil ?_)))))))
           replace h:=si h; subst h
           exact Qj [] ⟨(kPtr rfl),(sm rfl),(sm rfl),(sm rfl),(sm rfl),tv⟩ ⟨⟨_,rfl,rfl,(.same rfl)⟩,⟨_,rfl,rfl,(.same rfl)⟩,⟨_,rfl,rfl,(.same rfl)⟩,tv⟩ rfl
        ·obtain ⟨x20,rfl⟩ : ∃ x,x = z:=⟨_,rfl⟩
         refine Tr.cond rfl (fun hb21=>?_) (fun hb21=>?_)
         ·replace h:=bT hb21 h
          refine sr ((md rfl (nt ((Tr.ret ?_)))))
          replace h:=si h; subst h
          exact ⟨.inr rfl,(i_ 5),rfl,fun _ _ _ _ h=>h,tv,fun k hk=>Qf hk⟩
         ·replace h:=bF hb21 h
          refine Tr.skip ?_
          exact ⟨_,h,(by exact Qj [5] ⟨(kPtr rfl),(sm rfl),(sm rfl),(sm rfl),tv⟩ ⟨⟨_,rfl,rfl,(.same rfl)⟩,⟨_,rfl,rfl,(.same rfl)⟩,tv⟩ rfl)⟩
   ·obtain ⟨c22,c23,c24⟩:=z
    refine Tr.rgn (Rn.bin tv rfl rfl rfl (md rfl (Rn.nil ?_)))
    exact ⟨_,h,(by exact Ql ⟨(kPtr rfl),(sm rfl),(sm rfl),(sm rfl),tv⟩ ⟨⟨_,rfl,rfl,(.same rfl)⟩,tv⟩ rfl)⟩
  ·replace h:=ifF hb4 h
   refine Tr.exit (toN (sr ((md rfl (nt ((Tr.ret ?_)))))))
   replace h:=si h; subst h
   exact ⟨.inr rfl,(i_ 0),rfl,fun _ _ _ _ h=>h,tv,fun k hk=>Qf hk⟩
theorem Q52 {P:Program} {c:Nat} {Qb5:(List Int)→Int→Option Int} {Qb3:Qb→Option Int}
    (H_automaton_checkSet:Qig P 79 Qb5)
    (H_automaton_checkEdges:Qg3 P 80 Qb3) (hcf:Qu P c = some Qlw):Qdk P c (Qs Qb5 Qb3):=by
 intro a1 r h
 refine Qcf hcf rfl fun Γ M hP hnt hM=>?_
 subst hP
 refine Tr.init [(0,(Qa a1))] rfl ?_
 unfold Qs at h
 unfold Qlw
 refine sr ((Rn.box (v:=(Qa a1)) (cs:=(Qd a1)) tv rfl rfl rfl rfl rfl (md rfl (nt ((Tr.seq (sr ((Rn.fldP (o':=0) tv rfl rfl (Rn.load (v:=(l_ a1.Alphabet)) tv rfl (Qm rfl) rfl rfl ?_))))))))))
 obtain ⟨x3,h2,h⟩:=bnd h
 refine Rn.call (args:=[(l_ a1.Alphabet),(i_ 32)]) tv rfl (H_automaton_checkSet _ _ _ h2) pc9 (md rfl (nt ((sr ((md rfl (Rn.bin tv rfl rfl rfl (Rn.nil (toN ?_)))))))))
 refine Tr.cond rfl (fun hb4=>?_) (fun hb4=>?_)
 ·replace h:=bT hb4 h
  refine sr ((md rfl (md rfl (nt ((Tr.ret ?_))))))
  replace h:=si h; subst h
  exact ⟨.inr rfl,(i_ x3),rfl,fun _ _ _ _ h=>h,tv,fun k hk=>Qf hk⟩
 ·replace h:=bF hb4 h
  refine Tr.skip (toN (Tr.seq (Tr.block (sr ((Rn.fldP (o':=1) tv rfl rfl (Rn.load (v:=(i_ a1.States)) tv rfl (Qm rfl) rfl rfl (Rn.bin tv rfl rfl rfl (md rfl (Rn.nil (toN ?_)))))))))))
  refine Tr.cond rfl (fun hb5=>?_) (fun hb5=>?_)
  ·replace h:=ifT hb5 h
   refine sr ((md rfl (nt ((Tr.ret ?_)))))
   replace h:=si h; subst h
   exact ⟨.inr rfl,(i_ 2),rfl,fun _ _ _ _ h=>h,tv,fun k hk=>Qf hk⟩
  ·replace h:=ifF hb5 h
   refine sr ((Rn.fldP (o':=1) tv rfl rfl (Rn.load (v:=(i_ a1.States)) tv rfl (Qm rfl) rfl rfl (Rn.bin tv rfl rfl rfl (md rfl (Rn.nil (toN ?_)))))))
   refine Tr.cond rfl (fun hb6=>?_) (fun hb6=>?_)
   ·replace h:=ifT hb6 h
    refine sr ((md rfl (nt ((Tr.ret ?_)))))
    replace h:=si h; subst h
    exact ⟨.inr rfl,(i_ 3),rfl,fun _ _ _ _ h=>h,tv,fun k hk=>Qf hk⟩
   ·replace h:=ifF hb6 h
    refine Tr.skip (toN (Tr.seq (sr ((Rn.fldP (o':=2) tv rfl rfl (Rn.load (v:=(l_ a1.Marked)) tv rfl (Qm rfl) rfl rfl (Rn.fldP (o':=1) tv rfl rfl (Rn.load (v:=(i_ a1.States)) tv rfl (Qm rfl) rfl rfl ?_))))))))
    obtain ⟨x8,h7,h⟩:=bnd h
    refine Rn.call (args:=[(l_ a1.Marked),(i_ a1.States)]) tv rfl (H_automaton_checkSet _ _ _ h7) pc9 (md rfl (nt ((sr ((md rfl (Rn.bin tv rfl rfl rfl (Rn.nil (toN ?_)))))))))
    refine Tr.cond rfl (fun hb9=>?_) (fun hb9=>?_)
    ·replace h:=bT hb9 h
     refine sr ((md rfl (md rfl (nt ((Tr.ret ?_))))))
     replace h:=si h; subst h
     exact ⟨.inr rfl,(i_ x8),rfl,fun _ _ _ _ h=>h,tv,fun k hk=>Qf hk⟩
    ·replace h:=bF hb9 h
     refine Tr.skip (toN (sr ((Rn.load (v:=(Qa a1)) tv rfl (Qm rfl) rfl rfl ?_))))
     obtain ⟨x11,h10,h⟩:=bnd h
     refine Rn.call (args:=[(Qa a1)]) tv rfl (H_automaton_checkEdges _ _ h10) pc9 (md rfl (nt ((Tr.ret ?_))))
     replace h:=si h; subst h
     exact ⟨.inr rfl,(i_ x11),rfl,fun _ _ _ _ h=>h,tv,fun k hk=>Qf hk⟩
theorem Quf {P:Program} {c:Nat} (hcf:Qu P c = some Qhn) (fuel:Nat):Qhm P c (Qcg fuel):=by
 intro l1 n2 r h
 refine Qcf hcf rfl fun Γ M hP hnt hM=>?_
 subst hP
 refine Tr.init [(0,(l_ l1)),(1,(i_ n2))] rfl ?_
 unfold Qcg at h
 unfold Qhn
 refine sr ((md rfl (nt ((Tr.seq (sr ((md rfl (Rn.lenD tv rfl (md rfl (nt ((Tr.block ?_)))))))))))))
 refine Tr.loop (mk:=fun (x3:Int)=>⟨look [(0,(l_ l1)),(1,(i_ n2)),(7,(l_ l1)),(8,(i_ (l1.length:Int))),(9,(i_ x3))],Qp Γ.n0 (bxs []) M,Γ.n0 + 35⟩) h (by exact Ql ⟨(sm rfl),(sm rfl),(sm rfl),(sm rfl),(sm rfl),tv⟩ tv rfl) (fun k4 z h=>?_)
 ·obtain ⟨x3,rfl⟩ : ∃ x,x = z:=⟨_,rfl⟩
  replace h:_ = some _:=h
  refine sr ((Rn.bin tv rfl rfl rfl (nt ((Tr.seq ?_)))))
  refine Tr.cond rfl (fun hb5=>?_) (fun hb5=>?_)
  ·replace h:=ifT hb5 h
   refine Tr.skip (toN (Tr.seq (Tr.block (sr ((md rfl ?_))))))
   obtain ⟨x6,h7,h⟩:=bnd h
   refine Rn.idxD (e:=(eI .i64)) tv rfl rfl h7 (Rn.loadC (x:=.int .i64 x6) tv rfl (md rfl (md rfl (nt ((Tr.block ?_))))))
   refine Tr.cutB (fun (x9:Bool)=>⟨look [(0,(l_ l1)),(1,(i_ n2)),(5,(i_ x3)),(6,(i_ x6)),(7,(l_ l1)),(8,(i_ (l1.length:Int))),(9,(i_ x3)),(14,(b_ x9))],Qp Γ.n0 (bxs []) M,Γ.n0 + 35⟩) h (fun z h=>?_) (fun z h=>?_)
   ·refine Tr.rgn (md rfl (Rn.bin tv rfl rfl rfl (md rfl ?_)))
    refine Qc0 (decide (x6 < 0)) (fun hb8=>?_) (fun hb8=>?_)
    ·replace h:=ifT hb8 h
     refine Rn.sk (nw rfl hb8) (Rn.sk (nw rfl hb8) (Rn.sk (nw rfl hb8) (Rn.pickT (v:=(b_ true)) tv rfl hb8 rfl (md rfl (Rn.nil ?_)))))
     replace h:=si h; subst h
     exact Qj [] ⟨(sm rfl),(sm rfl),(sm rfl),(sm rfl),(sm rfl),(sm rfl),(sm rfl),(sm rfl),tv⟩ tv rfl
    ·replace h:=ifF hb8 h
     refine Rn.movD (gw rfl hb8) rfl (Rn.movD (gw rfl hb8) rfl (Rn.bin (gw rfl hb8) rfl rfl rfl (Rn.pickF (v:=(b_ (decide (x6≥n2)))) tv rfl hb8 rfl (md rfl (Rn.nil ?_)))))
     replace h:=si h; subst h
     exact Qj [] ⟨(sm rfl),(sm rfl),(sm rfl),(sm rfl),(sm rfl),(sm rfl),(sm rfl),(sm rfl),tv⟩ tv rfl
   ·obtain ⟨x9,rfl⟩ : ∃ x,x = z:=⟨_,rfl⟩
    refine Tr.cond rfl (fun hb10=>?_) (fun hb10=>?_)
    ·replace h:=bT hb10 h
     refine sr ((md rfl (nt ((Tr.ret ?_)))))
     replace h:=si h; subst h
     exact ⟨.inr rfl,(i_ 2),rfl,fun _ _ _ _ h=>h,tv,fun k hk=>Qf hk⟩
    ·replace h:=bF hb10 h
     refine Tr.cutB (fun (x14:Bool)=>⟨look [(0,(l_ l1)),(1,(i_ n2)),(7,(l_ l1)),(8,(i_ (l1.length:Int))),(9,(i_ x3)),(22,(b_ x14))],Qp Γ.n0 (bxs []) M,Γ.n0 + 35⟩) h (fun z h=>?_) (fun z h=>?_)
     ·refine Tr.rgn (md rfl (Rn.bin tv rfl rfl rfl (md rfl ?_)))
      refine Qc0 (decide (x3 > 0)) (fun hb11=>?_) (fun hb11=>?_)
      ·replace h:=ifT hb11 h
       refine Rn.movD (gw rfl hb11) rfl (Rn.movD (gw rfl hb11) rfl (Rn.movD (gw rfl hb11) rfl (Rn.bin (gw rfl hb11) rfl rfl rfl ?_)))
       obtain ⟨x12,h13,h⟩:=bnd h
       refine Rn.idxD (e:=(eI .i64)) (gw rfl hb11) rfl rfl h13 (Rn.loadC (x:=.int .i64 x12) (gw rfl hb11) rfl (Rn.bin (gw rfl hb11) rfl rfl rfl (Rn.pickT (v:=(b_ (decide (x6≤x12)))) tv rfl hb11 rfl (md rfl (Rn.nil ?_)))))
       replace h:=si h; subst h
       exact Qj [] ⟨(sm rfl),(sm rfl),(sm rfl),(sm rfl),(sm rfl),(sm rfl),tv⟩ tv rfl
      ·replace h:=ifF hb11 h
       refine Rn.sk (nw rfl hb11) (Rn.sk (nw rfl hb11) (Rn.sk (nw rfl hb11) (Rn.sk (nw rfl hb11) (Rn.sk (nw rfl hb11) (Rn.sk (nw rfl hb11) (Rn.sk (nw rfl hb11) (Rn.pickF (v:=(b_ false)) tv rfl hb11 rfl (md rfl (Rn.nil ?_)))))))))
       replace h:=si h; subst h
       exact Qj [] ⟨(sm rfl),(sm rfl),(sm rfl),(sm rfl),(sm rfl),(sm rfl),tv⟩ tv rfl
     ·obtain ⟨x14,rfl⟩ : ∃ x,x = z:=⟨_,rfl⟩
      refine Tr.cond rfl (fun hb15=>?_) (fun hb15=>?_)
      ·replace h:=bT hb15 h
       refine sr ((md rfl (nt ((Tr.ret ?_)))))
       replace h:=si h; subst h
       exact ⟨.inr rfl,(i_ 5),rfl,fun _ _ _ _ h=>h,tv,fun k hk=>Qf hk⟩
      ·replace h:=bF hb15 h
       refine Tr.skip (toN (Tr.rgn (Rn.bin tv rfl rfl rfl (md rfl (Rn.nil ?_)))))
       exact ⟨_,h,(by exact Ql ⟨(sm rfl),(sm rfl),(sm rfl),(sm rfl),(sm rfl),tv⟩ tv rfl)⟩
  ·replace h:=ifF hb5 h
   refine Tr.exit (toN (sr ((md rfl (nt ((Tr.ret ?_)))))))
   replace h:=si h; subst h
   exact ⟨.inr rfl,(i_ 0),rfl,fun _ _ _ _ h=>h,tv,fun k hk=>Qf hk⟩
theorem Q23 {P:Program} {c:Nat} {Qs:Qb→Option Int} {Qcg:(List Int)→Int→Option Int}
    (H_automaton_Check:Qdk P 46 Qs)
    (H_projection_checkSet:Qhm P 49 Qcg) (hcf:Qu P c = some Qkl):Qek P c (Qw Qs Qcg):=by
 intro a1 events2 r h
 refine Qcf hcf rfl fun Γ M hP hnt hM=>?_
 subst hP
 refine Tr.init [(0,(Qa a1)),(1,(l_ events2))] rfl ?_
 unfold Qw at h
 unfold Qkl
 refine sr ((Rn.box (v:=(Qa a1)) (cs:=(Qd a1)) tv rfl rfl rfl rfl rfl (md rfl (nt ((Tr.seq (sr ((Rn.load (v:=(Qa a1)) tv rfl (Qm rfl) rfl rfl ?_)))))))))
 obtain ⟨x4,h3,h⟩:=bnd h
 refine Rn.call (args:=[(Qa a1)]) tv rfl (H_automaton_Check _ _ h3) pc9 (md rfl (nt ((sr ((md rfl (Rn.bin tv rfl rfl rfl (Rn.nil (toN ?_)))))))))
 refine Tr.cond rfl (fun hb5=>?_) (fun hb5=>?_)
 ·replace h:=bT hb5 h
  refine sr ((md rfl (md rfl (nt ((Tr.ret ?_))))))
  replace h:=si h; subst h
  exact ⟨.inr rfl,(i_ x4),rfl,fun _ _ _ _ h=>h,tv,fun k hk=>Qf hk⟩
 ·replace h:=bF hb5 h
  refine Tr.skip (toN (sr ((md rfl ?_))))
  obtain ⟨x7,h6,h⟩:=bnd h
  refine Rn.call (args:=[(l_ events2),(i_ 32)]) tv rfl (H_projection_checkSet _ _ _ h6) pc9 (md rfl (nt ((Tr.ret ?_))))
  replace h:=si h; subst h
  exact ⟨.inr rfl,(i_ x7),rfl,fun _ _ _ _ h=>h,tv,fun k hk=>Qf hk⟩
theorem Qyc {P:Program} {c:Nat} {Qg:(List Int)→Int→Option Bool}
    (H_slices_Contains_int:Qbp P 56 Qg) (hcf:Qu P c = some Qii) (fuel:Nat):Qew P c (Q1 Qg fuel):=by
 intro a1 onto2 r h
 refine Qcf hcf rfl fun Γ M hP hnt hM=>?_
 subst hP
 refine Tr.init [(0,(Qa a1)),(1,(l_ onto2))] rfl ?_
 unfold Q1 at h
 unfold Qii
 refine sr ((Rn.box (v:=(Qa a1)) (cs:=(Qd a1)) tv rfl rfl rfl rfl rfl (Rn.alloc tv rfl (nt ((Tr.seq ?_))))))
 refine Tr.rgnD (by decide) ?_
 refine Rn.fldP (o':=1) tv rfl rfl (Rn.load (v:=(i_ a1.States)) tv rfl (Qm rfl) rfl rfl ?_)
 obtain ⟨x3,h4,h⟩:=bnd h
 refine Rn.makes (g:=(fun (x:List Qe)=>[V.nils 3])) tv rfl rfl rfl rfl rfl h4 (Rn.fldP (o':=2) tv rfl rfl (Rn.load (v:=(l_ a1.Marked)) tv rfl (Qm rfl) rfl rfl (Rn.buildT (v:=.agg [.sl 1 (Γ.n0 + 12) 0 (Int.toNat a1.States) (Int.toNat a1.States),.nils 1,.nils 1,(l_ a1.Marked)]) tv rfl (Rn.alloc tv rfl (Rn.storeT (v:=.agg [.sl 1 (Γ.n0 + 12) 0 (Int.toNat a1.States) (Int.toNat a1.States),.nils 1,.nils 1,(l_ a1.Marked)]) (ds:=[.sl 1 (Γ.n0 + 12) 0 (Int.toNat a1.States) (Int.toNat a1.States),.nils 1,.nils 1,(l_ a1.Marked)]) (cs':=[.sl 1 (Γ.n0 + 12) 0 (Int.toNat a1.States) (Int.toNat a1.States),.nils 1,.nils 1,(l_ a1.Marked)]) tv rfl rfl rfl rfl rfl rfl rfl ?_)))))
 refine Rn.nil ⟨rfl,?_⟩
 refine toN ?_
 refine Tr.cutB (fun (c21:List (List Qe))=>⟨look [(1,(l_ onto2)),(2,.ptr (Γ.n0 + 2) 0),(4,.ptr (Γ.n0 + 4) 0),(5,.ptr (Γ.n0 + 5) 0)],Qp Γ.n0 (bxs [(2,.cells ((Qd a1))),(4,.cells ([.nils 1,.nils 1,.nils 1,.nils 1])),(5,.cells ([.sl 1 (Γ.n0 + 12) 0 (Int.toNat a1.States) (Int.toNat a1.States),.nils 1,.nils 1,(l_ a1.Marked)])),(12,.cells (Qcz (fun (x:List Qe)=>[V.own 3 (List.map Qc x)]) c21))]) M,Γ.n0 + 62⟩) h (fun z h=>?_) (fun z h=>?_)
 ·refine Tr.seq ?_
  refine Tr.weak (by show WeakSt Γ _ ⟨look [(0,(Qa a1)),(1,(l_ onto2)),(2,.ptr (Γ.n0 + 2) 0),(4,.ptr (Γ.n0 + 4) 0),(5,.ptr (Γ.n0 + 5) 0),(10,.ptr (Γ.n0 + 2) 1),(11,(i_ a1.States)),(12,.sl 1 (Γ.n0 + 12) 0 (Int.toNat a1.States) (Int.toNat a1.States)),(13,.ptr (Γ.n0 + 2) 2),(14,(l_ a1.Marked)),(15,.agg [.sl 1 (Γ.n0 + 12) 0 (Int.toNat a1.States) (Int.toNat a1.States),.nils 1,.nils 1,(l_ a1.Marked)])],Qp Γ.n0 (bxs [(2,.cells ((Qd a1))),(4,.cells ([.nils 1,.nils 1,.nils 1,.nils 1])),(5,.cells ([.sl 1 (Γ.n0 + 12) 0 (Int.toNat a1.States) (Int.toNat a1.States),.nils 1,.nils 1,(l_ a1.Marked)])),(12,.cells (Qcz (fun (x:List Qe)=>[V.own 3 (List.map Qc x)]) x3))]) M,Γ.n0 + 62⟩; exact Qj [] ⟨(sm rfl),(sm rfl),(kPtr rfl),(kPtr rfl),(kPtr rfl),(kPtr rfl),(sm rfl),(kSl rfl),(kPtr rfl),(sm rfl),(WkV.agg (.cons (kSl rfl) (.cons (sm rfl) (.cons (sm rfl) (.cons (sm rfl) .nil))))),tv⟩ ⟨⟨_,rfl,rfl,(.same rfl)⟩,⟨_,rfl,rfl,(.same rfl)⟩,⟨_,rfl,rfl,(.cons (kSl rfl) (.cons (sm rfl) (.cons (sm rfl) (.cons (sm rfl) .nil))))⟩,⟨_,rfl,rfl,(Qbqg rfl h4)⟩,tv⟩ rfl) ?_
  refine Tr.rgn (Rn.fldP (o':=3) tv rfl rfl (Rn.load (v:=.d (.lst 3 (List.map Qc a1.Edges))) tv rfl (Qm rfl) rfl rfl (Rn.lenD tv rfl (md rfl (nt ((Tr.block ?_)))))))
  refine Tr.loop (mk:=fun ((x5,c6):Int×(List (List Qe)))=>⟨look [(1,(l_ onto2)),(2,.ptr (Γ.n0 + 2) 0),(4,.ptr (Γ.n0 + 4) 0),(5,.ptr (Γ.n0 + 5) 0),(17,.d (.lst 3 (List.map Qc a1.Edges))),(18,(i_ (a1.Edges.length:Int))),(19,(i_ x5))],Qp Γ.n0 (bxs [(2,.cells ((Qd a1))),(4,.cells ([.nils 1,.nils 1,.nils 1,.nils 1])),(5,.cells ([.sl 1 (Γ.n0 + 12) 0 (Int.toNat a1.States) (Int.toNat a1.States),.nils 1,.nils 1,(l_ a1.Marked)])),(12,.cells (Qcz (fun (x:List Qe)=>[V.own 3 (List.map Qc x)]) c6))]) M,Γ.n0 + 62⟩) h (by exact Ql ⟨(sm rfl),(kPtr rfl),(kPtr rfl),(kPtr rfl),(sm rfl),(sm rfl),(sm rfl),tv⟩ ⟨⟨_,rfl,rfl,(.same rfl)⟩,⟨_,rfl,rfl,(.same rfl)⟩,⟨_,rfl,rfl,(.cons (kSl rfl) (.cons (sm rfl) (.cons (sm rfl) (.cons (sm rfl) .nil))))⟩,⟨_,rfl,rfl,(Qea fun _=>rfl)⟩,tv⟩ rfl) (fun k7 z h=>?_)
  ·obtain ⟨x5,c6⟩:=z
   replace h:_ = some _:=h
   refine sr ((Rn.bin tv rfl rfl rfl (nt ((Tr.seq ?_)))))
   refine Tr.cond rfl (fun hb8=>?_) (fun hb8=>?_)
   ·replace h:=ifT hb8 h
    refine Tr.skip (toN (Tr.seq (Tr.block (Tr.seq (Tr.rgn ?_)))))
    obtain ⟨x9,h10,h⟩:=bnd h
    refine Rn.idxD (e:=Qc) tv rfl rfl h10 (Rn.loadCA (vs:=(Qbj x9)) tv rfl rfl rfl (Rn.alloc tv rfl (Rn.store (v:=(Qbs x9)) (cs':=(Qbj x9)) tv rfl rfl rfl rfl rfl rfl (Rn.nil (toN ?_)))))
    refine Tr.rgnD (by decide) ?_
    refine Rn.fldP (o':=0) tv rfl rfl (Rn.load (v:=.sl 1 (Γ.n0 + 12) 0 (Int.toNat a1.States) (Int.toNat a1.States)) tv rfl (Qm rfl) rfl rfl (Rn.fldP (o':=0) tv rfl rfl (Rn.load (v:=(i_ x9.From)) tv rfl (Qm rfl) rfl rfl (Rn.fldP (o':=0) tv rfl rfl (Rn.load (v:=.sl 1 (Γ.n0 + 12) 0 (Int.toNat a1.States) (Int.toNat a1.States)) tv rfl (Qm rfl) rfl rfl (Rn.fldP (o':=0) tv rfl rfl (Rn.load (v:=(i_ x9.From)) tv rfl (Qm rfl) rfl rfl ?_)))))))
    obtain ⟨⟨⟩,h12,h⟩:=bnd h
    refine Rn.idxA tv rfl rfl h12 ?_
    obtain ⟨x13,h14,h⟩:=bnd h
    refine Rn.loadTA (e:=Qc) tv rfl rfl h14 (Rn.load (v:=(Qbs x9)) tv rfl (Qm rfl) rfl rfl (Rn.bslice (xs:=[(Qbs x9)]) (cs:=(Qbj x9)) tv rfl rfl rfl rfl ?_))
    obtain ⟨x15,h16,h⟩:=bnd h
    refine Rn.app (e:=Qc) tv rfl rfl rfl (Qcm rfl rfl rfl) h16 rfl ?_
    obtain ⟨⟨⟩,h18,h⟩:=bnd h
    refine Rn.idxA tv rfl rfl h18 ?_
    obtain ⟨x19,h20,h⟩:=bnd h
    refine Rn.storeTA tv rfl rfl rfl h20 ?_
    refine Rn.nil ⟨rfl,?_⟩
    refine toN (Tr.rgn (Rn.bin tv rfl rfl rfl (md rfl (Rn.nil ?_))))
    exact ⟨_,h,(by exact Ql ⟨(sm rfl),(kPtr rfl),(kPtr rfl),(kPtr rfl),(sm rfl),(sm rfl),(sm rfl),tv⟩ ⟨⟨_,rfl,rfl,(.same rfl)⟩,⟨_,rfl,rfl,(.same rfl)⟩,⟨_,rfl,rfl,(.cons (kSl rfl) (.cons (sm rfl) (.cons (sm rfl) (.cons (sm rfl) .nil))))⟩,⟨_,rfl,rfl,(Qea fun _=>rfl)⟩,tv⟩ rfl)⟩
   ·replace h:=ifF hb8 h
    refine Tr.exit ?_
    replace h:=si h; subst h
    exact Qj [] ⟨(sm rfl),(kPtr rfl),(kPtr rfl),(kPtr rfl),tv⟩ ⟨⟨_,rfl,rfl,(.same rfl)⟩,⟨_,rfl,rfl,(.same rfl)⟩,⟨_,rfl,rfl,(.cons (kSl rfl) (.cons (sm rfl) (.cons (sm rfl) (.cons (sm rfl) .nil))))⟩,⟨_,rfl,rfl,(Qea fun _=>rfl)⟩,tv⟩ rfl
 ·obtain ⟨c21,rfl⟩ : ∃ x,x = z:=⟨_,rfl⟩
  refine Tr.cutB (fun ((c42,c43,c44,c45,o46,o47):(List (List Qe))×(List Int)×(List Int)×(List Int)×(List Int)×(List Int))=>⟨look [(4,.ptr (Γ.n0 + 4) 0),(5,.ptr (Γ.n0 + 5) 0)],Qp Γ.n0 (bxs [(2,.cells ((Qd a1))),(4,.cells ([.own 1 (List.map (eL 3 Qc) c42),(o_ c43),(o_ c44),(o_ c45)])),(5,.cells ([.sl 1 (Γ.n0 + 12) 0 (Int.toNat a1.States) (Int.toNat a1.States),(o_ o46),(o_ o47),(l_ a1.Marked)])),(12,.cells (Qcz (fun (x:List Qe)=>[V.own 3 (List.map Qc x)]) c21))]) M,Γ.n0 + 62⟩) h (fun z h=>?_) (fun z h=>?_)
  ·refine sr ((Rn.fldP (o':=0) tv rfl rfl (Rn.load (v:=(l_ a1.Alphabet)) tv rfl (Qm rfl) rfl rfl (Rn.lenD tv rfl (md rfl (nt ((Tr.block ?_))))))))
   refine Tr.loop (mk:=fun ((x22,c23,c24,c25,c26,o27,o28):Int×(List (List Qe))×(List Int)×(List Int)×(List Int)×(List Int)×(List Int))=>⟨look [(1,(l_ onto2)),(4,.ptr (Γ.n0 + 4) 0),(5,.ptr (Γ.n0 + 5) 0),(39,(l_ a1.Alphabet)),(40,(i_ (a1.Alphabet.length:Int))),(41,(i_ x22))],Qp Γ.n0 (bxs [(2,.cells ((Qd a1))),(4,.cells ([.own 1 (List.map (eL 3 Qc) c23),(o_ c24),(o_ c25),(o_ c26)])),(5,.cells ([.sl 1 (Γ.n0 + 12) 0 (Int.toNat a1.States) (Int.toNat a1.States),(o_ o27),(o_ o28),(l_ a1.Marked)])),(12,.cells (Qcz (fun (x:List Qe)=>[V.own 3 (List.map Qc x)]) c21))]) M,Γ.n0 + 62⟩) h (by exact Ql ⟨(sm rfl),(kPtr rfl),(kPtr rfl),(sm rfl),(sm rfl),(sm rfl),tv⟩ ⟨⟨_,rfl,rfl,(.same rfl)⟩,⟨_,rfl,rfl,(.cons (WkV.nilsO _) (.cons (WkV.nilsO _) (.cons (WkV.nilsO _) (.cons (WkV.nilsO _) .nil))))⟩,⟨_,rfl,rfl,(.cons (kSl rfl) (.cons (WkV.nilsO _) (.cons (WkV.nilsO _) (.cons (sm rfl) .nil))))⟩,⟨_,rfl,rfl,(Qea fun _=>rfl)⟩,tv⟩ rfl) (fun k29 z h=>?_)
   ·obtain ⟨x22,c23,c24,c25,c26,o27,o28⟩:=z
    replace h:_ = some _:=h
    refine sr ((Rn.bin tv rfl rfl rfl (nt ((Tr.seq ?_)))))
    refine Tr.cond rfl (fun hb30=>?_) (fun hb30=>?_)
    ·replace h:=ifT hb30 h
     refine Tr.skip (toN ?_)
     refine Tr.cutB (fun ((o40,o41):(List Int)×(List Int))=>⟨look [(1,(l_ onto2)),(4,.ptr (Γ.n0 + 4) 0),(5,.ptr (Γ.n0 + 5) 0),(39,(l_ a1.Alphabet)),(40,(i_ (a1.Alphabet.length:Int))),(41,(i_ x22))],Qp Γ.n0 (bxs [(2,.cells ((Qd a1))),(4,.cells ([.own 1 (List.map (eL 3 Qc) c23),(o_ c24),(o_ c25),(o_ c26)])),(5,.cells ([.sl 1 (Γ.n0 + 12) 0 (Int.toNat a1.States) (Int.toNat a1.States),(o_ o40),(o_ o41),(l_ a1.Marked)])),(12,.cells (Qcz (fun (x:List Qe)=>[V.own 3 (List.map Qc x)]) c21))]) M,Γ.n0 + 62⟩) h (fun z h=>?_) (fun z h=>?_)
     ·refine Tr.block (Tr.seq (Tr.rgn ?_))
      obtain ⟨x31,h32,h⟩:=bnd h
      refine Rn.idxD (e:=(eI .i64)) tv rfl rfl h32 (Rn.loadC (x:=.int .i64 x31) tv rfl (md rfl (nt ((sr ((md rfl (md rfl ?_))))))))
      obtain ⟨x34,h33,h⟩:=bnd h
      refine Rn.call (args:=[(l_ onto2),(i_ x31)]) tv rfl (H_slices_Contains_int _ _ _ h33) pc9 (Rn.nil (toN ?_))
      refine Tr.cond rfl (fun hb35=>?_) (fun hb35=>?_)
      ·replace h:=bT hb35 h
       refine Tr.rgn (Rn.fldP (o':=1) tv rfl rfl (Rn.loadT (cs':=[.sl 1 (Γ.n0 + 12) 0 (Int.toNat a1.States) (Int.toNat a1.States),(l_ o27),(o_ o28),(l_ a1.Marked)]) tv rfl rfl rfl rfl (md rfl (Rn.bslice (xs:=[(i_ x31)]) (cs:=[(i_ x31)]) tv rfl rfl rfl rfl ?_))))
       obtain ⟨x36,h37,h⟩:=bnd h
       refine Rn.app (e:=(eI .i64)) tv rfl rfl rfl (Qcm rfl rfl rfl) h37 rfl (Rn.fldP (o':=1) tv rfl rfl (Rn.storeO (cs':=[.sl 1 (Γ.n0 + 12) 0 (Int.toNat a1.States) (Int.toNat a1.States),(o_ x36),(o_ o28),(l_ a1.Marked)]) tv rfl rfl rfl rfl rfl (Rn.nil ?_)))
       replace h:=si h; subst h
       exact Qj [51] ⟨(sm rfl),(kPtr rfl),(kPtr rfl),(sm rfl),(sm rfl),(sm rfl),tv⟩ ⟨⟨_,rfl,rfl,(.same rfl)⟩,⟨_,rfl,rfl,(.same rfl)⟩,⟨_,rfl,rfl,(.cons (kSl rfl) (.cons (sm rfl) (.cons (sm rfl) (.cons (sm rfl) .nil))))⟩,⟨_,rfl,rfl,(Qea fun _=>rfl)⟩,tv⟩ rfl
      ·replace h:=bF hb35 h
       refine Tr.rgn (Rn.fldP (o':=2) tv rfl rfl (Rn.loadT (cs':=[.sl 1 (Γ.n0 + 12) 0 (Int.toNat a1.States) (Int.toNat a1.States),(o_ o27),(l_ o28),(l_ a1.Marked)]) tv rfl rfl rfl rfl (md rfl (Rn.bslice (xs:=[(i_ x31)]) (cs:=[(i_ x31)]) tv rfl rfl rfl rfl ?_))))
       obtain ⟨x38,h39,h⟩:=bnd h
       refine Rn.app (e:=(eI .i64)) tv rfl rfl rfl (Qcm rfl rfl rfl) h39 rfl (Rn.fldP (o':=2) tv rfl rfl (Rn.storeO (cs':=[.sl 1 (Γ.n0 + 12) 0 (Int.toNat a1.States) (Int.toNat a1.States),(o_ o27),(o_ x38),(l_ a1.Marked)]) tv rfl rfl rfl rfl rfl (Rn.nil ?_)))
       replace h:=si h; subst h
       exact Qj [57] ⟨(sm rfl),(kPtr rfl),(kPtr rfl),(sm rfl),(sm rfl),(sm rfl),tv⟩ ⟨⟨_,rfl,rfl,(.same rfl)⟩,⟨_,rfl,rfl,(.same rfl)⟩,⟨_,rfl,rfl,(.cons (kSl rfl) (.cons (sm rfl) (.cons (sm rfl) (.cons (sm rfl) .nil))))⟩,⟨_,rfl,rfl,(Qea fun _=>rfl)⟩,tv⟩ rfl
     ·obtain ⟨o40,o41⟩:=z
      refine Tr.rgn (Rn.bin tv rfl rfl rfl (md rfl (Rn.nil ?_)))
      exact ⟨_,h,(by exact Ql ⟨(sm rfl),(kPtr rfl),(kPtr rfl),(sm rfl),(sm rfl),(sm rfl),tv⟩ ⟨⟨_,rfl,rfl,(.same rfl)⟩,⟨_,rfl,rfl,(.same rfl)⟩,⟨_,rfl,rfl,(.cons (kSl rfl) (.cons (sm rfl) (.cons (sm rfl) (.cons (sm rfl) .nil))))⟩,⟨_,rfl,rfl,(Qea fun _=>rfl)⟩,tv⟩ rfl)⟩
    ·replace h:=ifF hb30 h
     refine Tr.exit ?_
     replace h:=si h; subst h
     exact Qj [] ⟨(kPtr rfl),(kPtr rfl),tv⟩ ⟨⟨_,rfl,rfl,(.same rfl)⟩,⟨_,rfl,rfl,(.same rfl)⟩,⟨_,rfl,rfl,(.cons (kSl rfl) (.cons (sm rfl) (.cons (sm rfl) (.cons (sm rfl) .nil))))⟩,⟨_,rfl,rfl,(Qea fun _=>rfl)⟩,tv⟩ rfl
  ·obtain ⟨c42,c43,c44,c45,o46,o47⟩:=z
   refine sr ((Rn.load (v:=.agg [.sl 1 (Γ.n0 + 12) 0 (Int.toNat a1.States) (Int.toNat a1.States),(l_ o46),(l_ o47),(l_ a1.Marked)]) tv rfl (Qm rfl) rfl rfl (Rn.storeT (v:=.agg [.sl 1 (Γ.n0 + 12) 0 (Int.toNat a1.States) (Int.toNat a1.States),(l_ o46),(l_ o47),(l_ a1.Marked)]) (ds:=[.sl 1 (Γ.n0 + 12) 0 (Int.toNat a1.States) (Int.toNat a1.States),(l_ o46),(l_ o47),(l_ a1.Marked)]) (cs':=[.sl 1 (Γ.n0 + 12) 0 (Int.toNat a1.States) (Int.toNat a1.States),(l_ o46),(l_ o47),(l_ a1.Marked)]) tv rfl rfl rfl rfl rfl rfl rfl (Rn.nil (toN ?_)))))
   obtain ⟨⟨⟩,hl48,h⟩:=bnd h
   refine Tr.weak (by show WeakSt Γ _ ⟨look [(4,.ptr (Γ.n0 + 4) 0),(5,.ptr (Γ.n0 + 5) 0),(61,.agg [.d (.lst 1 (List.map (eL 3 Qc) c21)),(l_ o46),(l_ o47),(l_ a1.Marked)])],Qp Γ.n0 (bxs [(2,.cells ((Qd a1))),(4,.cells ([.d (.lst 1 (List.map (eL 3 Qc) c21)),(l_ o46),(l_ o47),(l_ a1.Marked)])),(5,.cells ([.d (.lst 1 (List.map (eL 3 Qc) c21)),(o_ o46),(o_ o47),(l_ a1.Marked)]))]) M,Γ.n0 + 62⟩; exact Qct 12 _ rfl (Qbd7 (fun _=>rfl) _) ⟨(fPtr rfl),(fPtr rfl),(WkV.agg (.cons (fSlA (fun _=>rfl) (Q1m hl48)) (.cons (.same rfl) (.cons (.same rfl) (.cons (.same rfl) .nil))))),tv⟩ ⟨⟨_,rfl,rfl,(.same rfl)⟩,⟨_,rfl,rfl,(.cons (fSlA (fun _=>rfl) (Q1m hl48)) (.cons (.same rfl) (.cons (.same rfl) (.cons (.same rfl) .nil))))⟩,⟨_,rfl,rfl,(.cons (fSlA (fun _=>rfl) (Q1m hl48)) (.cons (.same rfl) (.cons (.same rfl) (.cons (.same rfl) .nil))))⟩,tv⟩ rfl) ?_
   refine Tr.ret ?_
   replace h:=si h; subst h
   exact ⟨.inr rfl,(.agg [.d (.lst 1 (List.map (eL 3 Qc) c21)),(l_ o46),(l_ o47),(l_ a1.Marked)]),Qif rfl rfl rfl rfl,fun _ _ _ _ h=>h,⟨tv,tv,tv,tv,tv⟩,fun k hk=>Qf hk⟩
theorem Qlj {P:Program} {c:Nat} (hcf:Qu P c = some Qep):Qeo P c (Qbd):=by
 intro x1 x2 x7 k3 k5 k8 r h
 intro M nb hk4 hk6 hk9 hne10 hne11 hne12
 refine Qbp0 hcf rfl M _ nb (fun hM=>Qbls hM ⟨(ltB hM hk6),(ltB hM hk9),tv⟩) fun Γ hP hnt hn0 hM=>?_
 subst hP hn0
 refine Tr.init [(0,(i_ x1)),(1,.ptr k3 0),(2,.ptr k8 0)] rfl ?_
 refine Tr.puts [(k5,.cells (Qcz (fun (x:Bool)=>[V.d (.bool x)]) x2)),(k8,.cells ([(o_ x7)]))] ⟨hk6,hk9,tv⟩ ?_
 unfold Qbd at h
 unfold Qep
 refine sr ((Rn.load (v:=.sl 1 k5 0 x2.length x2.length) tv rfl (Q92 (ltB hM hk4) (pgS hne10.symm (pgS hne12.symm hk4))) rfl rfl (md rfl ?_)))
 obtain ⟨⟨⟩,h14,h⟩:=bnd h
 refine Rn.idxA tv rfl rfl h14 ?_
 obtain ⟨x15,h16,h⟩:=bnd h
 refine Rn.loadA (g:=(fun (x:Bool)=>[V.d (.bool x)])) (v:=(b_ x15)) (f:=0) (fun _=>rfl) tv rfl (Q92 (ltB hM hk6) pg0) h16 rfl rfl (Rn.un tv rfl rfl (Rn.nil (toN ?_)))
 refine Tr.cond rfl (fun hb17=>?_) (fun hb17=>?_)
 ·have hb17:=nT' hb17
  replace h:=bF hb17 h
  refine sr ((Rn.load (v:=.sl 1 k5 0 x2.length x2.length) tv rfl (Q92 (ltB hM hk4) (pgS hne10.symm (pgS hne12.symm hk4))) rfl rfl (md rfl ?_)))
  obtain ⟨⟨⟩,h19,h⟩:=bnd h
  refine Rn.idxA tv rfl rfl h19 ?_
  obtain ⟨c20,h21,h⟩:=bnd h
  refine Rn.storeAB (g:=(fun (x:Bool)=>[V.d (.bool x)])) (v:=(b_ true)) (fun _=>rfl) tv rfl rfl rfl (ltB hM hk6) rfl pg0 rfl h21 ps0 (nt ((Tr.rgn (Rn.loadTB (cs':=[(l_ x7)]) tv rfl (ltB hM hk9) (pgS hne11.symm pg0) rfl rfl (psS hne11.symm ps0) (md rfl (Rn.bslice (xs:=[(i_ x1)]) (cs:=[(i_ x1)]) tv rfl rfl rfl rfl ?_))))))
  obtain ⟨x22,h23,h⟩:=bnd h
  refine Rn.app (e:=(eI .i64)) tv rfl rfl rfl (Qcm rfl rfl rfl) h23 rfl (Rn.storeOB (cs':=[(o_ x22)]) tv rfl rfl (ltB hM hk9) (pgS hne11.symm pg0) rfl rfl (psS hne11.symm ps0) (Rn.nil ?_))
  replace h:=si h; subst h
  exact ⟨.inl rfl,.tup [],res0 ,(WkV.tup .nil).rd,tv,fun k hk=>Qf hk⟩
 ·have hb17:=nF' hb17
  replace h:=bT hb17 h
  refine Tr.skip ?_
  replace h:=si h; subst h
  exact ⟨.inl rfl,.tup [],res0 ,(WkV.tup .nil).rd,tv,fun k hk=>Qf hk⟩
theorem Qm4 {P:Program} {c:Nat} {Qg:(List Int)→Int→Option Bool} {f_slices_Sort_int:List Int→Option (List Int)} {Qbd:Int→(List Bool)→(List Int)→Option ((List Bool)×(List Int))}
    (H_slices_Contains_int:Qbp P 56 Qg)
    (H_slices_Sort_int:RowK P 67 (eI .i64) 1 [] f_slices_Sort_int)
    (H_projection_observer_reach_1:Qeo P 83 Qbd) (hcf:Qu P c = some Qe5) (fuel:Nat):Qdp P c (Q2 Qg f_slices_Sort_int Qbd fuel):=by
 intro o1 xfrom2 events3 r h
 refine Qbn6 hcf (args':=[.agg [.f (.lst 1 (List.map (eL 3 Qc) o1.out_)),(f_ o1.kept_),(f_ o1.erased_),(f_ o1.marked_)],(f_ xfrom2),(f_ events3)]) rfl rfl rfl rfl rfl rfl fun Γ M hP hnt hG hM0 hM=>?_
 subst hP
 refine Tr.init [(0,.agg [.f (.lst 1 (List.map (eL 3 Qc) o1.out_)),(f_ o1.kept_),(f_ o1.erased_),(f_ o1.marked_)]),(1,(f_ xfrom2)),(2,(f_ events3))] rfl ?_
 unfold Q2 at h
 unfold Qe5
 refine sr ((Rn.box (v:=.agg [.f (.lst 1 (List.map (eL 3 Qc) o1.out_)),(f_ o1.kept_),(f_ o1.erased_),(f_ o1.marked_)]) (cs:=[.f (.lst 1 (List.map (eL 3 Qc) o1.out_)),(f_ o1.kept_),(f_ o1.erased_),(f_ o1.marked_)]) tv rfl rfl rfl rfl rfl (Rn.movTC (v:=.nils 1) tv (nt ((sr ((Rn.fldP (o':=0) tv rfl rfl (Rn.load (v:=.f (.lst 1 (List.map (eL 3 Qc) o1.out_))) tv rfl (Qm rfl) rfl rfl ?_)))))))))
 refine Rn.weak (by show WeakSt Γ _ ⟨look [(0,.agg [.f (.lst 1 (List.map (eL 3 Qc) o1.out_)),(f_ o1.kept_),(f_ o1.erased_),(f_ o1.marked_)]),(1,(f_ xfrom2)),(2,(f_ events3)),(3,.ptr (Γ.n0 + 3) 0),(6,.nils 1),(15,.ptr (Γ.n0 + 3) 0),(16,.d (.lst 1 (List.map (eL 3 Qc) o1.out_)))],Qp Γ.n0 (bxs [(3,.cells ([.f (.lst 1 (List.map (eL 3 Qc) o1.out_)),(f_ o1.kept_),(f_ o1.erased_),(f_ o1.marked_)]))]) M,Γ.n0 + 61⟩; exact Qj [] ⟨(sm rfl),(sm rfl),(sm rfl),(kPtr rfl),(sm rfl),(kPtr rfl),fToD,tv⟩ ⟨⟨_,rfl,rfl,(.same rfl)⟩,tv⟩ rfl) ?_
 refine Rn.lenD tv rfl ?_
 obtain ⟨x4,h5,h⟩:=bnd h
 refine Rn.makes (g:=(fun (x:Bool)=>[V.d (.bool x)])) tv rfl rfl rfl rfl rfl h5 (Rn.alloc tv rfl (Rn.storeV (v:=.sl 1 (Γ.n0 + 18) 0 (Int.toNat (o1.out_.length:Int)) (Int.toNat (o1.out_.length:Int))) (cs':=[.sl 1 (Γ.n0 + 18) 0 (Int.toNat (o1.out_.length:Int)) (Int.toNat (o1.out_.length:Int))]) tv rfl rfl rfl rfl rfl rfl rfl rfl (nt ((sr ((Rn.alloc tv rfl (nt ((sr ((Rn.k (v:=.clo 83 [.ptr (Γ.n0 + 7) 0,.ptr (Γ.n0 + 8) 0]) tv rfl rfl rfl (Rn.mov (v:=.clo 83 [.ptr (Γ.n0 + 7) 0,.ptr (Γ.n0 + 8) 0]) tv rfl (Rn.nil (toN ?_)))))))))))))))
 refine Tr.cutB (fun ((l17,c18):(List Int)×(List Bool))=>⟨look [(2,(l_ events3)),(3,.ptr (Γ.n0 + 3) 0),(8,.ptr (Γ.n0 + 8) 0),(9,.clo 83 [.ptr (Γ.n0 + 7) 0,.ptr (Γ.n0 + 8) 0])],Qp Γ.n0 (bxs [(3,.cells ([.f (.lst 1 (List.map (eL 3 Qc) o1.out_)),(f_ o1.kept_),(f_ o1.erased_),(f_ o1.marked_)])),(7,.cells ([.sl 1 (Γ.n0 + 18) 0 (Int.toNat (o1.out_.length:Int)) (Int.toNat (o1.out_.length:Int))])),(8,.cells ([(o_ l17)])),(18,.cells (Qcz (fun (x:Bool)=>[V.d (.bool x)]) c18))]) M,Γ.n0 + 61⟩) h (fun z h=>?_) (fun z h=>?_)
 ·refine sr ((Rn.mov (v:=(f_ xfrom2)) tv rfl ?_))
  refine Rn.weak (by show WeakSt Γ _ ⟨look [(0,.agg [.f (.lst 1 (List.map (eL 3 Qc) o1.out_)),(f_ o1.kept_),(f_ o1.erased_),(f_ o1.marked_)]),(1,(f_ xfrom2)),(2,(f_ events3)),(3,.ptr (Γ.n0 + 3) 0),(6,.nils 1),(7,.ptr (Γ.n0 + 7) 0),(8,.ptr (Γ.n0 + 8) 0),(9,.clo 83 [.ptr (Γ.n0 + 7) 0,.ptr (Γ.n0 + 8) 0]),(15,.ptr (Γ.n0 + 3) 0),(16,.d (.lst 1 (List.map (eL 3 Qc) o1.out_))),(17,(i_ (o1.out_.length:Int))),(18,.sl 1 (Γ.n0 + 18) 0 (Int.toNat (o1.out_.length:Int)) (Int.toNat (o1.out_.length:Int))),(19,.clo 83 [.ptr (Γ.n0 + 7) 0,.ptr (Γ.n0 + 8) 0]),(20,(l_ xfrom2))],Qp Γ.n0 (bxs [(3,.cells ([.f (.lst 1 (List.map (eL 3 Qc) o1.out_)),(f_ o1.kept_),(f_ o1.erased_),(f_ o1.marked_)])),(7,.cells ([.sl 1 (Γ.n0 + 18) 0 (Int.toNat (o1.out_.length:Int)) (Int.toNat (o1.out_.length:Int))])),(8,.cells ([.nils 1])),(18,.cells (Qcz (fun (x:Bool)=>[V.d (.bool x)]) x4))]) M,Γ.n0 + 61⟩; exact Qj [] ⟨(sm rfl),(sm rfl),(sm rfl),(kPtr rfl),(sm rfl),(kPtr rfl),(kPtr rfl),(kClo (Qjq rfl (Qjq rfl Q60))),(kPtr rfl),(sm rfl),(sm rfl),(kSl rfl),(kClo (Qjq rfl (Qjq rfl Q60))),fToD,tv⟩ ⟨⟨_,rfl,rfl,(.same rfl)⟩,⟨_,rfl,rfl,(.cons (kSl rfl) .nil)⟩,⟨_,rfl,rfl,(.same rfl)⟩,⟨_,rfl,rfl,(Qea fun _=>rfl)⟩,tv⟩ rfl) ?_
  refine Rn.lenD tv rfl (md rfl (nt ((Tr.block ?_))))
  refine Tr.weak (by show WeakSt Γ _ ⟨look [(0,.agg [.f (.lst 1 (List.map (eL 3 Qc) o1.out_)),(f_ o1.kept_),(f_ o1.erased_),(f_ o1.marked_)]),(1,(f_ xfrom2)),(2,(l_ events3)),(3,.ptr (Γ.n0 + 3) 0),(6,.nils 1),(7,.ptr (Γ.n0 + 7) 0),(8,.ptr (Γ.n0 + 8) 0),(9,.clo 83 [.ptr (Γ.n0 + 7) 0,.ptr (Γ.n0 + 8) 0]),(15,.ptr (Γ.n0 + 3) 0),(16,.d (.lst 1 (List.map (eL 3 Qc) o1.out_))),(17,(i_ (o1.out_.length:Int))),(18,.sl 1 (Γ.n0 + 18) 0 (Int.toNat (o1.out_.length:Int)) (Int.toNat (o1.out_.length:Int))),(19,.clo 83 [.ptr (Γ.n0 + 7) 0,.ptr (Γ.n0 + 8) 0]),(20,(l_ xfrom2)),(21,(i_ (xfrom2.length:Int))),(22,(i_ 0))],Qp Γ.n0 (bxs [(3,.cells ([.f (.lst 1 (List.map (eL 3 Qc) o1.out_)),(f_ o1.kept_),(f_ o1.erased_),(f_ o1.marked_)])),(7,.cells ([.sl 1 (Γ.n0 + 18) 0 (Int.toNat (o1.out_.length:Int)) (Int.toNat (o1.out_.length:Int))])),(8,.cells ([.nils 1])),(18,.cells (Qcz (fun (x:Bool)=>[V.d (.bool x)]) x4))]) M,Γ.n0 + 61⟩; exact Qj [] ⟨(sm rfl),(sm rfl),fToD,(kPtr rfl),(sm rfl),(kPtr rfl),(kPtr rfl),(kClo (Qjq rfl (Qjq rfl Q60))),(kPtr rfl),(sm rfl),(sm rfl),(kSl rfl),(kClo (Qjq rfl (Qjq rfl Q60))),(sm rfl),(sm rfl),(sm rfl),tv⟩ ⟨⟨_,rfl,rfl,(.same rfl)⟩,⟨_,rfl,rfl,(.cons (kSl rfl) .nil)⟩,⟨_,rfl,rfl,(.same rfl)⟩,⟨_,rfl,rfl,(Qea fun _=>rfl)⟩,tv⟩ rfl) ?_
  refine Tr.loop (mk:=fun ((x6,l7,c8):Int×(List Int)×(List Bool))=>⟨look [(2,(l_ events3)),(3,.ptr (Γ.n0 + 3) 0),(8,.ptr (Γ.n0 + 8) 0),(9,.clo 83 [.ptr (Γ.n0 + 7) 0,.ptr (Γ.n0 + 8) 0]),(20,(l_ xfrom2)),(21,(i_ (xfrom2.length:Int))),(22,(i_ x6))],Qp Γ.n0 (bxs [(3,.cells ([.f (.lst 1 (List.map (eL 3 Qc) o1.out_)),(f_ o1.kept_),(f_ o1.erased_),(f_ o1.marked_)])),(7,.cells ([.sl 1 (Γ.n0 + 18) 0 (Int.toNat (o1.out_.length:Int)) (Int.toNat (o1.out_.length:Int))])),(8,.cells ([(o_ l7)])),(18,.cells (Qcz (fun (x:Bool)=>[V.d (.bool x)]) c8))]) M,Γ.n0 + 61⟩) h (by exact Ql ⟨(sm rfl),(kPtr rfl),(kPtr rfl),(kClo (Qjq rfl (Qjq rfl Q60))),(sm rfl),(sm rfl),(sm rfl),tv⟩ ⟨⟨_,rfl,rfl,(.same rfl)⟩,⟨_,rfl,rfl,(.cons (kSl rfl) .nil)⟩,⟨_,rfl,rfl,(.cons (WkV.nilsO _) .nil)⟩,⟨_,rfl,rfl,(Qea fun _=>rfl)⟩,tv⟩ rfl) (fun k9 z h=>?_)
  ·obtain ⟨x6,l7,c8⟩:=z
   replace h:_ = some _:=h
   refine sr ((Rn.bin tv rfl rfl rfl (nt ((Tr.seq ?_)))))
   refine Tr.cond rfl (fun hb10=>?_) (fun hb10=>?_)
   ·replace h:=ifT hb10 h
    refine Tr.skip (toN (Tr.seq (Tr.block (Tr.seq (Tr.rgn ?_)))))
    obtain ⟨x11,h12,h⟩:=bnd h
    refine Rn.idxD (e:=(eI .i64)) tv rfl rfl h12 (Rn.loadC (x:=.int .i64 x11) tv rfl (md rfl (nt ((Tr.rgn (Rn.mov (v:=.clo 83 [.ptr (Γ.n0 + 7) 0,.ptr (Γ.n0 + 8) 0]) tv rfl (md rfl ?_)))))))
    obtain ⟨⟨⟩,hl13,h⟩:=bnd h
    obtain ⟨⟨c14,c15⟩,h16,h⟩:=bnd h
    refine Rn.callvW (args:=([(i_ x11)] ++ [.ptr (Γ.n0 + 7) 0,.ptr (Γ.n0 + 8) 0])) (B:=[((Γ.n0 + 18),.cells (Qcz (fun (x:Bool)=>[V.d (.bool x)]) c14)),((Γ.n0 + 8),.cells ([(o_ c15)]))]) tv rfl rfl (H_projection_observer_reach_1 _ _ _ (Γ.n0 + 7) (Γ.n0 + 18) (Γ.n0 + 8) _ h16 _ _ (by rw [Q1m hl13]; exact (Qm rfl)) (Qm rfl) (Qm rfl) (Qbjn rfl) (Qbjn rfl) (Qbjn rfl)) ⟨(.inl (Nat.le_add_right _ _)),(.inl (Nat.le_add_right _ _)),tv⟩ (Qbnc (Qbnc cw0)) rfl ?_
    refine nt ((Tr.rgn (Rn.bin tv rfl rfl rfl (md rfl (Rn.nil ?_)))))
    exact ⟨_,h,(by exact Ql ⟨(sm rfl),(kPtr rfl),(kPtr rfl),(kClo (Qjq rfl (Qjq rfl Q60))),(sm rfl),(sm rfl),(sm rfl),tv⟩ ⟨⟨_,rfl,rfl,(.same rfl)⟩,⟨_,rfl,rfl,(.cons (kSl rfl) .nil)⟩,⟨_,rfl,rfl,(.same rfl)⟩,⟨_,rfl,rfl,(Qea fun _=>rfl)⟩,tv⟩ rfl)⟩
   ·replace h:=ifF hb10 h
    refine Tr.exit ?_
    replace h:=si h; subst h
    exact Qj [] ⟨(sm rfl),(kPtr rfl),(kPtr rfl),(kClo (Qjq rfl (Qjq rfl Q60))),tv⟩ ⟨⟨_,rfl,rfl,(.same rfl)⟩,⟨_,rfl,rfl,(.cons (kSl rfl) .nil)⟩,⟨_,rfl,rfl,(.same rfl)⟩,⟨_,rfl,rfl,(Qea fun _=>rfl)⟩,tv⟩ rfl
 ·obtain ⟨l17,c18⟩:=z
  refine Tr.cutB (fun ((l49,c50):(List Int)×(List Bool))=>⟨look [(8,.ptr (Γ.n0 + 8) 0)],Qp Γ.n0 (bxs [(3,.cells ([.d (.lst 1 (List.map (eL 3 Qc) o1.out_)),(f_ o1.kept_),(f_ o1.erased_),(f_ o1.marked_)])),(7,.cells ([.sl 1 (Γ.n0 + 18) 0 (Int.toNat (o1.out_.length:Int)) (Int.toNat (o1.out_.length:Int))])),(8,.cells ([(o_ l49)])),(18,.cells (Qcz (fun (x:Bool)=>[V.d (.bool x)]) c50))]) M,Γ.n0 + 61⟩) h (fun z h=>?_) (fun z h=>?_)
  ·refine sr ((md rfl (nt ((Tr.block ?_)))))
   refine Tr.weak (by show WeakSt Γ _ ⟨look [(2,(l_ events3)),(3,.ptr (Γ.n0 + 3) 0),(8,.ptr (Γ.n0 + 8) 0),(9,.clo 83 [.ptr (Γ.n0 + 7) 0,.ptr (Γ.n0 + 8) 0]),(12,(i_ 0))],Qp Γ.n0 (bxs [(3,.cells ([.d (.lst 1 (List.map (eL 3 Qc) o1.out_)),(f_ o1.kept_),(f_ o1.erased_),(f_ o1.marked_)])),(7,.cells ([.sl 1 (Γ.n0 + 18) 0 (Int.toNat (o1.out_.length:Int)) (Int.toNat (o1.out_.length:Int))])),(8,.cells ([(o_ l17)])),(18,.cells (Qcz (fun (x:Bool)=>[V.d (.bool x)]) c18))]) M,Γ.n0 + 61⟩; exact Qj [] ⟨(sm rfl),(kPtr rfl),(kPtr rfl),(kClo (Qjq rfl (Qjq rfl Q60))),(sm rfl),tv⟩ ⟨⟨_,rfl,rfl,(.cons fToD (.cons (sm rfl) (.cons (sm rfl) (.cons (sm rfl) .nil))))⟩,⟨_,rfl,rfl,(.cons (kSl rfl) .nil)⟩,⟨_,rfl,rfl,(.same rfl)⟩,⟨_,rfl,rfl,(Qea fun _=>rfl)⟩,tv⟩ rfl) ?_
   refine Tr.loop (mk:=fun ((i19,l20,c21):Int×(List Int)×(List Bool))=>⟨look [(2,(l_ events3)),(3,.ptr (Γ.n0 + 3) 0),(8,.ptr (Γ.n0 + 8) 0),(9,.clo 83 [.ptr (Γ.n0 + 7) 0,.ptr (Γ.n0 + 8) 0]),(12,(i_ i19))],Qp Γ.n0 (bxs [(3,.cells ([.d (.lst 1 (List.map (eL 3 Qc) o1.out_)),(f_ o1.kept_),(f_ o1.erased_),(f_ o1.marked_)])),(7,.cells ([.sl 1 (Γ.n0 + 18) 0 (Int.toNat (o1.out_.length:Int)) (Int.toNat (o1.out_.length:Int))])),(8,.cells ([(o_ l20)])),(18,.cells (Qcz (fun (x:Bool)=>[V.d (.bool x)]) c21))]) M,Γ.n0 + 61⟩) h (by exact Ql ⟨(sm rfl),(kPtr rfl),(kPtr rfl),(kClo (Qjq rfl (Qjq rfl Q60))),(sm rfl),tv⟩ ⟨⟨_,rfl,rfl,(.same rfl)⟩,⟨_,rfl,rfl,(.cons (kSl rfl) .nil)⟩,⟨_,rfl,rfl,(.same rfl)⟩,⟨_,rfl,rfl,(Qea fun _=>rfl)⟩,tv⟩ rfl) (fun k22 z h=>?_)
   ·obtain ⟨i19,l20,c21⟩:=z
    replace h:_ = some _:=h
    refine Tr.seq (sr ((md rfl (Rn.load (v:=(l_ l20)) tv rfl (Qm rfl) rfl rfl (Rn.lenD tv rfl (Rn.bin tv rfl rfl rfl (Rn.nil (toN ?_))))))))
    refine Tr.cond rfl (fun hb23=>?_) (fun hb23=>?_)
    ·replace h:=ifT hb23 h
     refine Tr.skip (toN ?_)
     refine Tr.cutB (fun ((l47,c48):(List Int)×(List Bool))=>⟨look [(2,(l_ events3)),(3,.ptr (Γ.n0 + 3) 0),(8,.ptr (Γ.n0 + 8) 0),(9,.clo 83 [.ptr (Γ.n0 + 7) 0,.ptr (Γ.n0 + 8) 0]),(12,(i_ i19))],Qp Γ.n0 (bxs [(3,.cells ([.d (.lst 1 (List.map (eL 3 Qc) o1.out_)),(f_ o1.kept_),(f_ o1.erased_),(f_ o1.marked_)])),(7,.cells ([.sl 1 (Γ.n0 + 18) 0 (Int.toNat (o1.out_.length:Int)) (Int.toNat (o1.out_.length:Int))])),(8,.cells ([(o_ l47)])),(18,.cells (Qcz (fun (x:Bool)=>[V.d (.bool x)]) c48))]) M,Γ.n0 + 61⟩) h (fun z h=>?_) (fun z h=>?_)
     ·refine Tr.block (Tr.seq ?_)
      refine Tr.rgnD (by decide) ?_
      refine Rn.fldP (o':=0) tv rfl rfl (Rn.load (v:=.d (.lst 1 (List.map (eL 3 Qc) o1.out_))) tv rfl (Qm rfl) rfl rfl (Rn.load (v:=(l_ l20)) tv rfl (Qm rfl) rfl rfl (md rfl ?_)))
      obtain ⟨x24,h25,h⟩:=bnd h
      refine Rn.idxD (e:=(eI .i64)) tv rfl rfl h25 (Rn.loadC (x:=.int .i64 x24) tv rfl ?_)
      obtain ⟨x26,h27,h⟩:=bnd h
      refine Rn.idxD (e:=(eL 3 Qc)) tv rfl rfl h27 (Rn.loadC (x:=.lst 3 (List.map Qc x26)) tv rfl (Rn.lenD tv rfl (md rfl ?_)))
      refine Rn.nil ⟨rfl,?_⟩
      refine toN (Tr.block ?_)
      refine Tr.loop (mk:=fun ((x28,l29,c30):Int×(List Int)×(List Bool))=>⟨look [(2,(l_ events3)),(3,.ptr (Γ.n0 + 3) 0),(8,.ptr (Γ.n0 + 8) 0),(9,.clo 83 [.ptr (Γ.n0 + 7) 0,.ptr (Γ.n0 + 8) 0]),(12,(i_ i19)),(43,.d (.lst 3 (List.map Qc x26))),(44,(i_ (x26.length:Int))),(45,(i_ x28))],Qp Γ.n0 (bxs [(3,.cells ([.d (.lst 1 (List.map (eL 3 Qc) o1.out_)),(f_ o1.kept_),(f_ o1.erased_),(f_ o1.marked_)])),(7,.cells ([.sl 1 (Γ.n0 + 18) 0 (Int.toNat (o1.out_.length:Int)) (Int.toNat (o1.out_.length:Int))])),(8,.cells ([(o_ l29)])),(18,.cells (Qcz (fun (x:Bool)=>[V.d (.bool x)]) c30))]) M,Γ.n0 + 61⟩) h (by exact Ql ⟨(sm rfl),(kPtr rfl),(kPtr rfl),(kClo (Qjq rfl (Qjq rfl Q60))),(sm rfl),(sm rfl),(sm rfl),(sm rfl),tv⟩ ⟨⟨_,rfl,rfl,(.same rfl)⟩,⟨_,rfl,rfl,(.cons (kSl rfl) .nil)⟩,⟨_,rfl,rfl,(.same rfl)⟩,⟨_,rfl,rfl,(Qea fun _=>rfl)⟩,tv⟩ rfl) (fun k31 z h=>?_)
      ·obtain ⟨x28,l29,c30⟩:=z
       replace h:_ = some _:=h
       refine sr ((Rn.bin tv rfl rfl rfl (nt ((Tr.seq ?_)))))
       refine Tr.cond rfl (fun hb32=>?_) (fun hb32=>?_)
       ·replace h:=ifT hb32 h
        refine Tr.skip (toN ?_)
        refine Tr.cutB (fun ((l42,c43,c44,c45,c46):(List Int)×(List Bool)×Int×Int×Int)=>⟨look [(2,(l_ events3)),(3,.ptr (Γ.n0 + 3) 0),(8,.ptr (Γ.n0 + 8) 0),(9,.clo 83 [.ptr (Γ.n0 + 7) 0,.ptr (Γ.n0 + 8) 0]),(12,(i_ i19)),(43,.d (.lst 3 (List.map Qc x26))),(44,(i_ (x26.length:Int))),(45,(i_ x28))],Qp Γ.n0 (bxs [(3,.cells ([.d (.lst 1 (List.map (eL 3 Qc) o1.out_)),(f_ o1.kept_),(f_ o1.erased_),(f_ o1.marked_)])),(7,.cells ([.sl 1 (Γ.n0 + 18) 0 (Int.toNat (o1.out_.length:Int)) (Int.toNat (o1.out_.length:Int))])),(8,.cells ([(o_ l42)])),(14,.cells ([(i_ c44),(i_ c45),(i_ c46)])),(18,.cells (Qcz (fun (x:Bool)=>[V.d (.bool x)]) c43))]) M,Γ.n0 + 61⟩) h (fun z h=>?_) (fun z h=>?_)
        ·refine Tr.block (Tr.seq (Tr.rgn ?_))
         obtain ⟨x33,h34,h⟩:=bnd h
         refine Rn.idxD (e:=Qc) tv rfl rfl h34 (Rn.loadCA (vs:=(Qbj x33)) tv rfl rfl rfl (Rn.alloc tv rfl (Rn.store (v:=(Qbs x33)) (cs':=(Qbj x33)) tv rfl rfl rfl rfl rfl rfl (nt ((sr ((md rfl (Rn.fldP (o':=1) tv rfl rfl (Rn.load (v:=(i_ x33.Event)) tv rfl (Qm rfl) rfl rfl ?_))))))))))
         obtain ⟨x36,h35,h⟩:=bnd h
         refine Rn.call (args:=[(l_ events3),(i_ x33.Event)]) tv rfl (H_slices_Contains_int _ _ _ h35) pc9 (Rn.nil (toN ?_))
         refine Tr.cond rfl (fun hb37=>?_) (fun hb37=>?_)
         ·replace h:=bT hb37 h
          refine Tr.rgn (Rn.mov (v:=.clo 83 [.ptr (Γ.n0 + 7) 0,.ptr (Γ.n0 + 8) 0]) tv rfl (Rn.fldP (o':=2) tv rfl rfl (Rn.load (v:=(i_ x33.To)) tv rfl (Qm rfl) rfl rfl ?_)))
          obtain ⟨⟨⟩,hl38,h⟩:=bnd h
          obtain ⟨⟨c39,c40⟩,h41,h⟩:=bnd h
          refine Rn.callvW (args:=([(i_ x33.To)] ++ [.ptr (Γ.n0 + 7) 0,.ptr (Γ.n0 + 8) 0])) (B:=[((Γ.n0 + 18),.cells (Qcz (fun (x:Bool)=>[V.d (.bool x)]) c39)),((Γ.n0 + 8),.cells ([(o_ c40)]))]) tv rfl rfl (H_projection_observer_reach_1 _ _ _ (Γ.n0 + 7) (Γ.n0 + 18) (Γ.n0 + 8) _ h41 _ _ (by rw [Q1m hl38]; exact (Qm rfl)) (Qm rfl) (Qm rfl) (Qbjn rfl) (Qbjn rfl) (Qbjn rfl)) ⟨(.inl (Nat.le_add_right _ _)),(.inl (Nat.le_add_right _ _)),tv⟩ (Qbnc (Qbnc cw0)) rfl ?_
          refine Rn.nil ?_
          replace h:=si h; subst h
          exact Qj [] ⟨(sm rfl),(kPtr rfl),(kPtr rfl),(kClo (Qjq rfl (Qjq rfl Q60))),(sm rfl),(sm rfl),(sm rfl),(sm rfl),tv⟩ ⟨⟨_,rfl,rfl,(.same rfl)⟩,⟨_,rfl,rfl,(.cons (kSl rfl) .nil)⟩,⟨_,rfl,rfl,(.same rfl)⟩,⟨_,rfl,rfl,(.same rfl)⟩,⟨_,rfl,rfl,(Qea fun _=>rfl)⟩,tv⟩ rfl
         ·replace h:=bF hb37 h
          refine Tr.skip ?_
          replace h:=si h; subst h
          exact Qj [] ⟨(sm rfl),(kPtr rfl),(kPtr rfl),(kClo (Qjq rfl (Qjq rfl Q60))),(sm rfl),(sm rfl),(sm rfl),(sm rfl),tv⟩ ⟨⟨_,rfl,rfl,(.same rfl)⟩,⟨_,rfl,rfl,(.cons (kSl rfl) .nil)⟩,⟨_,rfl,rfl,(.same rfl)⟩,⟨_,rfl,rfl,(.same rfl)⟩,⟨_,rfl,rfl,(Qea fun _=>rfl)⟩,tv⟩ rfl
        ·obtain ⟨l42,c43,c44,c45,c46⟩:=z
         refine Tr.rgn (Rn.bin tv rfl rfl rfl (md rfl (Rn.nil ?_)))
         exact ⟨_,h,(by exact Ql ⟨(sm rfl),(kPtr rfl),(kPtr rfl),(kClo (Qjq rfl (Qjq rfl Q60))),(sm rfl),(sm rfl),(sm rfl),(sm rfl),tv⟩ ⟨⟨_,rfl,rfl,(.same rfl)⟩,⟨_,rfl,rfl,(.cons (kSl rfl) .nil)⟩,⟨_,rfl,rfl,(.same rfl)⟩,⟨_,rfl,rfl,(Qea fun _=>rfl)⟩,tv⟩ rfl)⟩
       ·replace h:=ifF hb32 h
        refine Tr.exit ?_
        replace h:=si h; subst h
        exact Qj [] ⟨(sm rfl),(kPtr rfl),(kPtr rfl),(kClo (Qjq rfl (Qjq rfl Q60))),(sm rfl),tv⟩ ⟨⟨_,rfl,rfl,(.same rfl)⟩,⟨_,rfl,rfl,(.cons (kSl rfl) .nil)⟩,⟨_,rfl,rfl,(.same rfl)⟩,⟨_,rfl,rfl,(Qea fun _=>rfl)⟩,tv⟩ rfl
     ·obtain ⟨l47,c48⟩:=z
      refine Tr.rgn (md rfl (Rn.bin tv rfl rfl rfl (md rfl (Rn.nil ?_))))
      exact ⟨_,h,(by exact Ql ⟨(sm rfl),(kPtr rfl),(kPtr rfl),(kClo (Qjq rfl (Qjq rfl Q60))),(sm rfl),tv⟩ ⟨⟨_,rfl,rfl,(.same rfl)⟩,⟨_,rfl,rfl,(.cons (kSl rfl) .nil)⟩,⟨_,rfl,rfl,(.same rfl)⟩,⟨_,rfl,rfl,(Qea fun _=>rfl)⟩,tv⟩ rfl)⟩
    ·replace h:=ifF hb23 h
     refine Tr.exit ?_
     replace h:=si h; subst h
     exact Qj [] ⟨(kPtr rfl),tv⟩ ⟨⟨_,rfl,rfl,(.same rfl)⟩,⟨_,rfl,rfl,(.cons (kSl rfl) .nil)⟩,⟨_,rfl,rfl,(.same rfl)⟩,⟨_,rfl,rfl,(Qea fun _=>rfl)⟩,tv⟩ rfl
  ·obtain ⟨l49,c50⟩:=z
   obtain ⟨row51,hs52,h⟩:=bnd h
   obtain ⟨hl53,hn54,hr55⟩:=H_slices_Sort_int _ _ hs52
   refine Tr.seqW ⟨look [(8,.ptr (Γ.n0 + 8) 0)],Qp Γ.n0 (bxs [(8,.cells ([(l_ row51)]))]) M,Γ.n0 + 61⟩ ?_ ?_
   ·by_cases hx56:l49 = []
    ·obtain ⟨hyx,hn54b⟩:=hn54 hx56
     replace hyx:=hyx.symm
     subst hyx
     replace hn54:=And.intro tv hn54b
     refine Tr.rgn (Rn.load (v:=(l_ l49)) tv rfl (Qm rfl) rfl rfl (Rn.call (args:=[.d (.lst 1 (List.map (eI .i64) l49))]) tv rfl (hn54.2) pc9 ?_))
     refine Rn.nil ⟨rfl,(by exact Qj [3,7,18] ⟨(kPtr rfl),tv⟩ ⟨⟨_,rfl,rfl,(.cons (WkV.dem' rfl) .nil)⟩,tv⟩ rfl)⟩
    ·refine Tr.weak (by show WeakSt Γ _ ⟨look [(8,.ptr (Γ.n0 + 8) 0)],Qp Γ.n0 (bxs [(8,.cells ([(o_ l49)]))]) M,Γ.n0 + 61⟩; exact Qj [3,7,18] ⟨(kPtr rfl),tv⟩ ⟨⟨_,rfl,rfl,(.same rfl)⟩,tv⟩ rfl) ?_
     refine Qblo hG hM0 8 0 59 hx56 (fun _=>rfl) rfl rfl rfl rfl ⟨rfl,tv⟩ ⟨⟨rfl,tv⟩,tv⟩ (fun c57 hc58 hc59=>?_)
     refine Tr.rgn (Rn.load (v:=.sl 1 (Γ.n0 + 59) 0 l49.length c57) tv rfl (Qm rfl) rfl rfl ?_)
     refine Rn.callRow (t:=59) (cs:=Qbt (List.map (eI .i64) l49) ((c57 - l49.length) * 1)) (cs':=Qbt (List.map (eI .i64) row51) ((c57 - l49.length) * 1)) tv rfl rfl (fun M2 hM2=>hr55 hc59 _ _ _ _ hM2) rfl ?_
     refine Rn.weak (by show WeakSt Γ _ ⟨look [(8,.ptr (Γ.n0 + 8) 0),(58,(l_ row51)),(59,.tup [])],Qp Γ.n0 (bxs [(8,.cells ([(l_ row51)]))]) M,Γ.n0 + 61⟩; exact Qrl 59 _ rfl Qboy ⟨(fPtr rfl),(fSlT (fun _=>rfl) hl53 hc58),(.same rfl),tv⟩ ⟨⟨_,rfl,rfl,(.cons (fSlT (fun _=>rfl) hl53 hc58) .nil)⟩,tv⟩ rfl) ?_
     refine Rn.nil ⟨rfl,(by exact Qj [] ⟨(kPtr rfl),tv⟩ ⟨⟨_,rfl,rfl,(.same rfl)⟩,tv⟩ rfl)⟩
   ·refine sr ((Rn.load (v:=(l_ row51)) tv rfl (Qm rfl) rfl rfl (Rn.movTD tv rfl (nt ((Tr.ret ?_))))))
    replace h:=si h; subst h
    exact ⟨.inr rfl,(l_ row51),rfl,fun _ _ _ _ h=>h,tv,fun k hk=>Qf hk⟩
theorem Qm5 {P:Program} {c:Nat} {Q2:Qi→(List Int)→(List Int)→Option ((List Int))}
    (H_projection_observer_reach:Qdp P 50 Q2) (hcf:Qu P c = some Qe6):Qdq P c (Q3 Q2):=by
 intro o1 r h
 refine Qcf hcf rfl fun Γ M hP hnt hM=>?_
 subst hP
 refine Tr.init [(0,(Qk o1))] rfl ?_
 unfold Q3 at h
 unfold Qe6
 refine sr ((Rn.box (v:=(Qk o1)) (cs:=(Qn o1)) tv rfl rfl rfl rfl rfl (Rn.movTC (v:=.nils 1) tv (nt ((Tr.seq (sr ((Rn.fldP (o':=0) tv rfl rfl (Rn.load (v:=.d (.lst 1 (List.map (eL 3 Qc) o1.out_))) tv rfl (Qm rfl) rfl rfl (Rn.lenD tv rfl (Rn.bin tv rfl rfl rfl (Rn.nil (toN ?_))))))))))))))
 refine Tr.cond rfl (fun hb2=>?_) (fun hb2=>?_)
 ·replace h:=bT hb2 h
  refine sr ((Rn.movTC (v:=.nils 1) tv (nt ((Tr.ret ?_)))))
  replace h:=si h; subst h
  exact ⟨.inr rfl,(.nils 1),rfl,(WkV.nilsD _).rd,tv,fun k hk=>Qf hk⟩
 ·replace h:=bF hb2 h
  refine Tr.skip (toN (sr ((Rn.load (v:=(Qk o1)) tv rfl (Qm rfl) rfl rfl (Rn.bslice (xs:=[(i_ 0)]) (cs:=[(i_ 0)]) tv rfl rfl rfl rfl (Rn.fldP (o':=2) tv rfl rfl (Rn.load (v:=(l_ o1.erased_)) tv rfl (Qm rfl) rfl rfl ?_)))))))
  refine Rn.weak (by show WeakSt Γ _ ⟨look [(0,(Qk o1)),(1,.ptr (Γ.n0 + 1) 0),(2,.nils 1),(3,.ptr (Γ.n0 + 1) 0),(4,.d (.lst 1 (List.map (eL 3 Qc) o1.out_))),(5,(i_ (o1.out_.length:Int))),(6,(b_ ((o1.out_.length:Int) == 0))),(7,(Qk o1)),(8,(l_ [0])),(9,.ptr (Γ.n0 + 1) 2),(10,(l_ o1.erased_))],Qp Γ.n0 (bxs [(1,.cells ((Qn o1)))]) M,Γ.n0 + 12⟩; exact Qct 8 [.int .i64 0] rfl rfl ⟨(.same rfl),(fPtr rfl),(.same rfl),(fPtr rfl),(.same rfl),(.same rfl),(.same rfl),(.same rfl),(fSl rfl rfl),(fPtr rfl),(.same rfl),tv⟩ ⟨⟨_,rfl,rfl,(.same rfl)⟩,tv⟩ rfl) ?_
  obtain ⟨x4,h3,h⟩:=bnd h
  refine Rn.call (args:=[(Qk o1),(l_ [0]),(l_ o1.erased_)]) tv rfl (H_projection_observer_reach _ _ _ _ h3) pc9 (Rn.movTD tv rfl (nt ((Tr.ret ?_))))
  replace h:=si h; subst h
  exact ⟨.inr rfl,(l_ x4),rfl,fun _ _ _ _ h=>h,tv,fun k hk=>Qf hk⟩
theorem Qjg {P:Program} {c:Nat} {Qg:(List Int)→Int→Option Bool}
    (H_slices_Contains_int:Qbp P 56 Qg) (hcf:Qu P c = some Qd0):Qdz P c (Qbc Qg):=by
 intro x1 x2 k3 r h
 intro M nb hk4
 refine Qba3 hcf rfl M nb fun Γ hP hnt hn0 hM=>?_
 subst hP hn0
 refine Tr.init [(0,(i_ x1)),(1,.ptr k3 0)] rfl ?_
 unfold Qbc at h
 unfold Qd0
 refine sr ((md rfl (nt ((sr ((Rn.fldP (o':=3) tv rfl rfl (Rn.load (v:=(l_ x2.marked_)) tv rfl (Qbe5 hM hk4) rfl rfl (md rfl ?_)))))))))
 obtain ⟨x6,h5,h⟩:=bnd h
 refine Rn.call (args:=[(l_ x2.marked_),(i_ x1)]) tv rfl (H_slices_Contains_int _ _ _ h5) pc9 (md rfl (nt ((Tr.ret ?_))))
 replace h:=si h; subst h
 exact ⟨.inr rfl,(b_ x6),rfl,fun _ _ _ _ h=>h,tv,fun k hk=>Qf hk⟩
theorem Qsl {P:Program} {c:Nat} (hcf:Qu P c = some Qg6) (fuel:Nat):Qg5 P c (Qb4 fuel):=by
 intro s1 f2 g3 cp4 r h
 intro M nb hc5 ho7 hf6
 refine Qba3 hcf rfl M nb fun Γ hP hnt hn0 hM=>?_
 subst hP hn0
 refine Tr.init [(0,(l_ s1)),(1,.clo g3 cp4)] rfl ?_
 unfold Qb4 at h
 unfold Qg6
 refine sr ((md rfl (nt ((Tr.seq (sr ((md rfl (Rn.lenD tv rfl (md rfl (nt ((Tr.block ?_)))))))))))))
 refine Tr.loop (mk:=fun (x9:Int)=>⟨look [(0,(l_ s1)),(1,.clo g3 cp4),(7,(i_ (s1.length:Int))),(8,(i_ x9))],Qp Γ.n0 (bxs []) M,Γ.n0 + 19⟩) h (by exact Ql ⟨(sm rfl),(kFun hM ho7),(sm rfl),(sm rfl),tv⟩ tv rfl) (fun k10 z h=>?_)
 ·obtain ⟨x9,rfl⟩ : ∃ x,x = z:=⟨_,rfl⟩
  replace h:_ = some _:=h
  refine sr ((Rn.bin tv rfl rfl rfl (nt ((Tr.seq ?_)))))
  refine Tr.cond rfl (fun hb11=>?_) (fun hb11=>?_)
  ·replace h:=ifT hb11 h
   refine Tr.skip (toN (Tr.seq (Tr.block (sr ((md rfl (md rfl (nt ((sr ((Rn.mov (v:=.clo g3 cp4) tv rfl (md rfl (md rfl ?_))))))))))))))
   obtain ⟨x12,h13,h⟩:=bnd h
   refine Rn.idxD (e:=(eI .i64)) tv rfl rfl h13 (Rn.loadC (x:=.int .i64 x12) tv rfl ?_)
   obtain ⟨x15,h14,h⟩:=bnd h
   refine Rn.callvM (args:=[(i_ x12)] ++ cp4) tv rfl (by rw [hc5]; rfl) (fun M2 nb2 hn hx=>hf6 _ _ h14 M2 nb2 (by omega) ((Qbcf hM).trans hx)) rfl pc9 ?_
   refine Rn.nil (toN ?_)
   refine Tr.cond rfl (fun hb16=>?_) (fun hb16=>?_)
   ·replace h:=bT hb16 h
    refine sr ((md rfl (md rfl (nt ((Tr.ret ?_))))))
    replace h:=si h; subst h
    exact ⟨.inr rfl,(i_ x9),rfl,fun _ _ _ _ h=>h,tv,fun k hk=>Qf hk⟩
   ·replace h:=bF hb16 h
    refine Tr.skip (toN (Tr.rgn (Rn.bin tv rfl rfl rfl (md rfl (Rn.nil ?_)))))
    exact ⟨_,h,(by exact Ql ⟨(sm rfl),(kFun hM ho7),(sm rfl),(sm rfl),tv⟩ tv rfl)⟩
  ·replace h:=ifF hb11 h
   refine Tr.exit (toN (sr ((md rfl (nt ((Tr.ret ?_)))))))
   replace h:=si h; subst h
   exact ⟨.inr rfl,(i_ (-1)),rfl,fun _ _ _ _ h=>h,tv,fun k hk=>Qf hk⟩
theorem Qo8 {P:Program} {c:Nat} {Qb4:(List Int)→(Int→Option Bool)→Option Int}
    (H_slices_IndexFunc_int:Qg5 P 89 Qb4) (hcf:Qu P c = some Qft):Qde P c (Qt Qb4):=by
 intro s1 f2 g3 cp4 r h
 intro M nb hc5 ho7 hf6
 refine Qba3 hcf rfl M nb fun Γ hP hnt hn0 hM=>?_
 subst hP hn0
 refine Tr.init [(0,(l_ s1)),(1,.clo g3 cp4)] rfl ?_
 unfold Qt at h
 unfold Qft
 refine sr ((md rfl (nt ((sr ((md rfl (Rn.mov (v:=.clo g3 cp4) tv rfl ?_))))))))
 obtain ⟨x13,h12,h⟩:=bnd h
 refine Rn.callM (args:=[(l_ s1),.clo g3 cp4]) tv rfl (fun M2 nb2 hn hx=>H_slices_IndexFunc_int _ _ g3 cp4 _ h12 M2 nb2 hc5 (Qbpt ((Qbcf hM).trans hx) ho7) (fun a9 r10 h11 M3 nb3 hn3 hx3=>hf6 a9 r10 h11 M3 nb3 (by omega) ((Qbcf hM).trans (hx.trans hx3)))) rfl pc9 ?_
 refine Rn.bin tv rfl rfl rfl (md rfl (nt ((Tr.ret ?_))))
 replace h:=si h; subst h
 exact ⟨.inr rfl,(b_ (decide (x13≥0))),rfl,fun _ _ _ _ h=>h,tv,fun k hk=>Qf hk⟩
theorem Qlc {P:Program} {c:Nat} {Qt:(List Int)→(Int→Option Bool)→Option Bool} {Qbc:Int→Qi→Option Bool}
    (H_slices_ContainsFunc_int:Qde P 58 Qt)
    (H_projection_observer_isMarked_1:Qdz P 78 Qbc) (hcf:Qu P c = some Qef):Qee P c (Qbk Qt Qbc):=by
 intro o1 estimate2 r h
 refine Qcf hcf rfl fun Γ M hP hnt hM=>?_
 subst hP
 refine Tr.init [(0,(Qk o1)),(1,(l_ estimate2))] rfl ?_
 unfold Qbk at h
 unfold Qef
 refine sr ((Rn.box (v:=(Qk o1)) (cs:=(Qn o1)) tv rfl rfl rfl rfl rfl (md rfl (nt ((sr ((md rfl (Rn.k (v:=.clo 78 [.ptr (Γ.n0 + 2) 0]) tv rfl rfl rfl ?_)))))))))
 obtain ⟨x7,h6,h⟩:=bnd h
 refine Rn.callM (args:=[(l_ estimate2),.clo 78 [.ptr (Γ.n0 + 2) 0]]) tv rfl (fun M2 nb2 hn hx=>H_slices_ContainsFunc_int _ _ 78 [.ptr (Γ.n0 + 2) 0] _ h6 M2 nb2 rfl ⟨Qbcg (hx _ _ (Qm rfl)),tv⟩ (fun a3 r4 h5 M3 nb3 hn3 hx3=>H_projection_observer_isMarked_1 a3 o1 (Γ.n0 + 2) r4 h5 M3 nb3 ((hx.trans hx3) _ _ (Qm rfl)))) rfl pc9 ?_
 refine md rfl (nt ((Tr.ret ?_)))
 replace h:=si h; subst h
 exact ⟨.inr rfl,(b_ x7),rfl,fun _ _ _ _ h=>h,tv,fun k hk=>Qf hk⟩
theorem Qn4 {P:Program} {c:Nat} {Q2:Qi→(List Int)→(List Int)→Option ((List Int))}
    (H_projection_observer_reach:Qdp P 50 Q2) (hcf:Qu P c = some Qfe) (fuel:Nat):Qd1 P c (Q4 Q2 fuel):=by
 intro o1 estimate2 event3 r h
 refine Qcf hcf rfl fun Γ M hP hnt hM=>?_
 subst hP
 refine Tr.init [(0,(Qk o1)),(1,(l_ estimate2)),(2,(i_ event3))] rfl ?_
 unfold Q4 at h
 unfold Qfe
 refine sr ((Rn.box (v:=(Qk o1)) (cs:=(Qn o1)) tv rfl rfl rfl rfl rfl (Rn.movTC (v:=.nils 1) tv (nt ((sr ((Rn.movTC (v:=.nils 1) tv (Rn.nil (toN ?_))))))))))
 refine Tr.cutB (fun (l26:List Int)=>⟨look [(3,.ptr (Γ.n0 + 3) 0),(7,(o_ l26))],Qp Γ.n0 (bxs [(3,.cells ((Qn o1)))]) M,Γ.n0 + 44⟩) h (fun z h=>?_) (fun z h=>?_)
 ·refine sr ((md rfl (Rn.lenD tv rfl (md rfl (nt ((Tr.block ?_)))))))
  refine Tr.loop (mk:=fun ((l4,x5):(List Int)×Int)=>⟨look [(2,(i_ event3)),(3,.ptr (Γ.n0 + 3) 0),(7,(o_ l4)),(12,(l_ estimate2)),(13,(i_ (estimate2.length:Int))),(14,(i_ x5))],Qp Γ.n0 (bxs [(3,.cells ((Qn o1)))]) M,Γ.n0 + 44⟩) h (by exact Ql ⟨(sm rfl),(kPtr rfl),(WkV.nilsO _),(sm rfl),(sm rfl),(sm rfl),tv⟩ ⟨⟨_,rfl,rfl,(.same rfl)⟩,tv⟩ rfl) (fun k6 z h=>?_)
  ·obtain ⟨l4,x5⟩:=z
   replace h:_ = some _:=h
   refine sr ((Rn.bin tv rfl rfl rfl (nt ((Tr.seq ?_)))))
   refine Tr.cond rfl (fun hb7=>?_) (fun hb7=>?_)
   ·replace h:=ifT hb7 h
    refine Tr.skip (toN ?_)
    refine Tr.cutB (fun (l25:List Int)=>⟨look [(2,(i_ event3)),(3,.ptr (Γ.n0 + 3) 0),(7,(o_ l25)),(12,(l_ estimate2)),(13,(i_ (estimate2.length:Int))),(14,(i_ x5))],Qp Γ.n0 (bxs [(3,.cells ((Qn o1)))]) M,Γ.n0 + 44⟩) h (fun z h=>?_) (fun z h=>?_)
    ·refine Tr.block (Tr.seq (Tr.rgn ?_))
     obtain ⟨x8,h9,h⟩:=bnd h
     refine Rn.idxD (e:=(eI .i64)) tv rfl rfl h9 (Rn.loadC (x:=.int .i64 x8) tv rfl (md rfl (nt ((sr ((Rn.fldP (o':=0) tv rfl rfl (Rn.load (v:=.d (.lst 1 (List.map (eL 3 Qc) o1.out_))) tv rfl (Qm rfl) rfl rfl (md rfl ?_)))))))))
     obtain ⟨x10,h11,h⟩:=bnd h
     refine Rn.idxD (e:=(eL 3 Qc)) tv rfl rfl h11 (Rn.loadC (x:=.lst 3 (List.map Qc x10)) tv rfl (Rn.lenD tv rfl (md rfl (nt ((Tr.block ?_))))))
     refine Tr.loop (mk:=fun ((l12,x13):(List Int)×Int)=>⟨look [(2,(i_ event3)),(3,.ptr (Γ.n0 + 3) 0),(7,(o_ l12)),(12,(l_ estimate2)),(13,(i_ (estimate2.length:Int))),(14,(i_ x5)),(22,.d (.lst 3 (List.map Qc x10))),(23,(i_ (x10.length:Int))),(24,(i_ x13))],Qp Γ.n0 (bxs [(3,.cells ((Qn o1)))]) M,Γ.n0 + 44⟩) h (by exact Ql ⟨(sm rfl),(kPtr rfl),(sm rfl),(sm rfl),(sm rfl),(sm rfl),(sm rfl),(sm rfl),(sm rfl),tv⟩ ⟨⟨_,rfl,rfl,(.same rfl)⟩,tv⟩ rfl) (fun k14 z h=>?_)
     ·obtain ⟨l12,x13⟩:=z
      replace h:_ = some _:=h
      refine sr ((Rn.bin tv rfl rfl rfl (nt ((Tr.seq ?_)))))
      refine Tr.cond rfl (fun hb15=>?_) (fun hb15=>?_)
      ·replace h:=ifT hb15 h
       refine Tr.skip (toN ?_)
       refine Tr.cutB (fun ((l21,c22,c23,c24):(List Int)×Int×Int×Int)=>⟨look [(2,(i_ event3)),(3,.ptr (Γ.n0 + 3) 0),(7,(o_ l21)),(12,(l_ estimate2)),(13,(i_ (estimate2.length:Int))),(14,(i_ x5)),(22,.d (.lst 3 (List.map Qc x10))),(23,(i_ (x10.length:Int))),(24,(i_ x13))],Qp Γ.n0 (bxs [(3,.cells ((Qn o1))),(11,.cells ([(i_ c22),(i_ c23),(i_ c24)]))]) M,Γ.n0 + 44⟩) h (fun z h=>?_) (fun z h=>?_)
       ·refine Tr.block (Tr.seq (Tr.rgn ?_))
        obtain ⟨x16,h17,h⟩:=bnd h
        refine Rn.idxD (e:=Qc) tv rfl rfl h17 (Rn.loadCA (vs:=(Qbj x16)) tv rfl rfl rfl (Rn.alloc tv rfl (Rn.store (v:=(Qbs x16)) (cs':=(Qbj x16)) tv rfl rfl rfl rfl rfl rfl (nt ((sr ((Rn.fldP (o':=1) tv rfl rfl (Rn.load (v:=(i_ x16.Event)) tv rfl (Qm rfl) rfl rfl (md rfl (Rn.bin tv rfl rfl rfl (Rn.nil (toN ?_)))))))))))))
        refine Tr.cond rfl (fun hb18=>?_) (fun hb18=>?_)
        ·replace h:=bT hb18 h
         refine Tr.rgn (Rn.movTO tv rfl (Rn.fldP (o':=2) tv rfl rfl (Rn.load (v:=(i_ x16.To)) tv rfl (Qm rfl) rfl rfl (Rn.bslice (xs:=[(i_ x16.To)]) (cs:=[(i_ x16.To)]) tv rfl rfl rfl rfl ?_))))
         obtain ⟨x19,h20,h⟩:=bnd h
         refine Rn.app (e:=(eI .i64)) tv rfl rfl rfl (Qcm rfl rfl rfl) h20 rfl (Rn.movTO tv rfl (Rn.nil ?_))
         replace h:=si h; subst h
         exact Qj [35] ⟨(sm rfl),(kPtr rfl),(sm rfl),(sm rfl),(sm rfl),(sm rfl),(sm rfl),(sm rfl),(sm rfl),tv⟩ ⟨⟨_,rfl,rfl,(.same rfl)⟩,⟨_,rfl,rfl,(.same rfl)⟩,tv⟩ rfl
        ·replace h:=bF hb18 h
         refine Tr.skip ?_
         replace h:=si h; subst h
         exact Qj [] ⟨(sm rfl),(kPtr rfl),(sm rfl),(sm rfl),(sm rfl),(sm rfl),(sm rfl),(sm rfl),(sm rfl),tv⟩ ⟨⟨_,rfl,rfl,(.same rfl)⟩,⟨_,rfl,rfl,(.same rfl)⟩,tv⟩ rfl
       ·obtain ⟨l21,c22,c23,c24⟩:=z
        refine Tr.rgn (Rn.bin tv rfl rfl rfl (md rfl (Rn.nil ?_)))
        exact ⟨_,h,(by exact Ql ⟨(sm rfl),(kPtr rfl),(sm rfl),(sm rfl),(sm rfl),(sm rfl),(sm rfl),(sm rfl),(sm rfl),tv⟩ ⟨⟨_,rfl,rfl,(.same rfl)⟩,tv⟩ rfl)⟩
      ·replace h:=ifF hb15 h
       refine Tr.exit ?_
       replace h:=si h; subst h
       exact Qj [] ⟨(sm rfl),(kPtr rfl),(sm rfl),(sm rfl),(sm rfl),(sm rfl),tv⟩ ⟨⟨_,rfl,rfl,(.same rfl)⟩,tv⟩ rfl
    ·obtain ⟨l25,rfl⟩ : ∃ x,x = z:=⟨_,rfl⟩
     refine Tr.rgn (Rn.bin tv rfl rfl rfl (md rfl (Rn.nil ?_)))
     exact ⟨_,h,(by exact Ql ⟨(sm rfl),(kPtr rfl),(sm rfl),(sm rfl),(sm rfl),(sm rfl),tv⟩ ⟨⟨_,rfl,rfl,(.same rfl)⟩,tv⟩ rfl)⟩
   ·replace h:=ifF hb7 h
    refine Tr.exit ?_
    replace h:=si h; subst h
    exact Qj [] ⟨(kPtr rfl),(sm rfl),tv⟩ ⟨⟨_,rfl,rfl,(.same rfl)⟩,tv⟩ rfl
 ·obtain ⟨l26,rfl⟩ : ∃ x,x = z:=⟨_,rfl⟩
  refine sr ((Rn.load (v:=(Qk o1)) tv rfl (Qm rfl) rfl rfl (Rn.mov (v:=(l_ l26)) tv rfl (Rn.fldP (o':=2) tv rfl rfl (Rn.load (v:=(l_ o1.erased_)) tv rfl (Qm rfl) rfl rfl ?_)))))
  obtain ⟨x28,h27,h⟩:=bnd h
  refine Rn.call (args:=[(Qk o1),(l_ l26),(l_ o1.erased_)]) tv rfl (H_projection_observer_reach _ _ _ _ h27) pc9 (Rn.movTD tv rfl (nt ((Tr.ret ?_))))
  replace h:=si h; subst h
  exact ⟨.inr rfl,(l_ x28),rfl,fun _ _ _ _ h=>h,tv,fun k hk=>Qf hk⟩
theorem Qyd {P:Program} {c:Nat} {Qw:Qb→(List Int)→Option Int} {Q1:Qb→(List Int)→Option Qi} {Q3:Qi→Option ((List Int))} {f_projection_key:(List Int)→Option ByteArray} {Qbk:Qi→(List Int)→Option Bool} {Q4:Qi→(List Int)→Int→Option ((List Int))}
    (H_projection_check:Qek P 38 Qw)
    (H_projection_observe:Qew P 39 Q1)
    (H_projection_observer_start:Qdq P 40 Q3)
    (H_projection_key:K_projection_key P 41 f_projection_key)
    (H_projection_observer_isMarked:Qee P 42 Qbk)
    (H_projection_observer_next:Qd1 P 43 Q4) (hcf:Qu P c = some Qij) (fuel:Nat):Qf4 P c (Qbo Qw Q1 Q3 f_projection_key Qbk Q4 fuel):=by
 intro a1 onto2 r h
 refine Qcf hcf rfl fun Γ M hP hnt hM=>?_
 subst hP
 refine Tr.init [(0,(Qa a1)),(1,(l_ onto2))] rfl ?_
 unfold Qbo at h
 unfold Qij
 refine sr ((Rn.box (v:=(Qa a1)) (cs:=(Qd a1)) tv rfl rfl rfl rfl rfl (Rn.alloc tv rfl (Rn.movTC (v:=.nils 1) tv (md rfl (nt ((Tr.seq (sr ((Rn.load (v:=(Qa a1)) tv rfl (Qm rfl) rfl rfl (md rfl ?_))))))))))))
 obtain ⟨x4,h3,h⟩:=bnd h
 refine Rn.call (args:=[(Qa a1),(l_ onto2)]) tv rfl (H_projection_check _ _ _ h3) pc9 (md rfl (nt ((sr ((md rfl (Rn.bin tv rfl rfl rfl (Rn.nil (toN ?_)))))))))
 refine Tr.cond rfl (fun hb5=>?_) (fun hb5=>?_)
 ·replace h:=bT hb5 h
  refine sr ((Rn.build (v:=.agg [.nils 1,(i_ 0),.nils 1,.nils 3]) tv rfl (md rfl (Rn.storeT (v:=.agg [.nils 1,(i_ 0),.nils 1,.nils 3]) (ds:=[.nils 1,(i_ 0),.nils 1,.nils 3]) (cs':=[.nils 1,(i_ 0),.nils 1,.nils 3]) tv rfl rfl rfl rfl rfl rfl rfl (Rn.movTC (v:=.nils 1) tv (md rfl (nt ((Tr.ret ?_)))))))))
  replace h:=si h; subst h
  exact ⟨.inr rfl,.tup [.agg [.nils 1,(i_ 0),.nils 1,.nils 3],.nils 1,(i_ x4)],res3 (Qif rfl rfl rfl rfl) rfl rfl,(WkV.tup (.cons (WkV.agg (.cons (WkV.nilsD _) (.cons (.same rfl) (.cons (WkV.nilsD _) (.cons (WkV.nilsD _) .nil))))) (.cons (WkV.nilsO _) (.cons (.same rfl) .nil)))).rd,⟨⟨tv,tv,tv,tv,tv⟩,tv,tv,tv⟩,fun k hk=>Qf hk⟩
 ·replace h:=bF hb5 h
  refine Tr.skip (toN (sr ((Rn.load (v:=(Qa a1)) tv rfl (Qm rfl) rfl rfl (md rfl ?_)))))
  obtain ⟨x7,h6,h⟩:=bnd h
  refine Rn.call (args:=[(Qa a1),(l_ onto2)]) tv rfl (H_projection_observe _ _ _ h6) pc9 (Rn.alloc tv rfl (Rn.storeT (v:=(Qk x7)) (ds:=(Qn x7)) (cs':=(Qn x7)) tv rfl rfl rfl rfl rfl rfl rfl (nt ((sr ((Rn.fldP (o':=1) tv rfl rfl (Rn.load (v:=(l_ x7.kept_)) tv rfl (Qm rfl) rfl rfl (Rn.buildT (v:=.agg [(l_ x7.kept_),(i_ 0),.nils 1,.nils 3]) tv rfl (Rn.alloc tv rfl (Rn.storeT (v:=.agg [(l_ x7.kept_),(i_ 0),.nils 1,.nils 3]) (ds:=[(l_ x7.kept_),(i_ 0),.nils 1,.nils 3]) (cs':=[(l_ x7.kept_),(i_ 0),.nils 1,.nils 3]) tv rfl rfl rfl rfl rfl rfl rfl (nt ((Tr.seq (sr ((Rn.fldP (o':=1) tv rfl rfl (Rn.load (v:=(i_ a1.States)) tv rfl (Qm rfl) rfl rfl (Rn.bin tv rfl rfl rfl (Rn.nil (toN ?_)))))))))))))))))))))
  refine Tr.cond rfl (fun hb8=>?_) (fun hb8=>?_)
  ·replace h:=bT hb8 h
   refine sr ((Rn.load (v:=.agg [(l_ x7.kept_),(i_ 0),.nils 1,.nils 3]) tv rfl (Qm rfl) rfl rfl (Rn.storeT (v:=.agg [(l_ x7.kept_),(i_ 0),.nils 1,.nils 3]) (ds:=[(l_ x7.kept_),(i_ 0),.nils 1,.nils 3]) (cs':=[(l_ x7.kept_),(i_ 0),.nils 1,.nils 3]) tv rfl rfl rfl rfl rfl rfl rfl (Rn.movTC (v:=.nils 1) tv (md rfl (nt ((Tr.ret ?_))))))))
   replace h:=si h; subst h
   exact ⟨.inr rfl,.tup [.agg [(l_ x7.kept_),(i_ 0),.nils 1,.nils 3],.nils 1,(i_ 0)],res3 (Qif rfl rfl rfl rfl) rfl rfl,(WkV.tup (.cons (WkV.agg (.cons (.same rfl) (.cons (.same rfl) (.cons (WkV.nilsD _) (.cons (WkV.nilsD _) .nil))))) (.cons (WkV.nilsO _) (.cons (.same rfl) .nil)))).rd,⟨⟨tv,tv,tv,tv,tv⟩,tv,tv,tv⟩,fun k hk=>Qf hk⟩
  ·replace h:=bF hb8 h
   refine Tr.skip (toN (sr ((Rn.load (v:=(Qk x7)) tv rfl (Qm rfl) rfl rfl ?_))))
   obtain ⟨x10,h9,h⟩:=bnd h
   refine Rn.call (args:=[(Qk x7)]) tv rfl (H_projection_observer_start _ _ h9) pc9 (Rn.bslice (xs:=[(l_ x10)]) (cs:=[(l_ x10)]) tv rfl rfl rfl rfl (Rn.movTF (v:=.sl 1 (Γ.n0 + 37) 0 1 1) tv rfl rfl (nt ((sr ((Rn.mkmap tv rfl (fun (x:ByteArray)=>(.d (.str x):V)) (fun (x:Int)=>((i_ x):V)) (Rn.mov (v:=.sl 1 (Γ.n0 + 37) 0 1 1) tv rfl (Rn.k (v:=.ptr (Γ.n0 + 37) 0) tv rfl rfl rfl (Rn.load (v:=(l_ x10)) tv rfl (Qm rfl) rfl rfl ?_))))))))))
   obtain ⟨x12,h11,h⟩:=bnd h
   refine Rn.call (args:=[(l_ x10)]) tv rfl (H_projection_key _ _ h11) pc9 (Rn.mapset (ek:=(fun (x:ByteArray)=>(.d (.str x):V))) (ev:=(fun (x:Int)=>((i_ x):V))) (m:=([]:List (ByteArray×Int))) (k:=x12) (v:=0) (fun _ _=>rfl) (fun _=>rfl) (fun _=>rfl) tv rfl rfl rfl rfl rfl (Rn.mov (v:=.mp (Γ.n0 + 38)) tv rfl (Rn.mov (v:=.mp (Γ.n0 + 38)) tv rfl (nt ((Tr.seq (sr ((md rfl (nt ((Tr.block ?_))))))))))))
   refine Tr.weak (by show WeakSt Γ _ ⟨look ((10,.own 1 (List.map (eL 1 (eI .i64)) [x10])) :: [(0,(Qa a1)),(1,(l_ onto2)),(2,.ptr (Γ.n0 + 2) 0),(4,.ptr (Γ.n0 + 4) 0),(5,.nils 1),(6,(i_ 0)),(7,(i_ x4)),(8,.ptr (Γ.n0 + 8) 0),(9,.ptr (Γ.n0 + 9) 0),(11,.mp (Γ.n0 + 38)),(12,(i_ 0)),(18,(Qa a1)),(19,(l_ onto2)),(20,(i_ x4)),(21,(i_ x4)),(22,(b_ (x4 != 0))),(25,(Qa a1)),(26,(l_ onto2)),(27,(Qk x7)),(28,.ptr (Γ.n0 + 8) 1),(29,(l_ x7.kept_)),(30,.agg [(l_ x7.kept_),(i_ 0),.nils 1,.nils 3]),(31,.ptr (Γ.n0 + 2) 1),(32,(i_ a1.States)),(33,(b_ (a1.States == 0))),(35,(Qk x7)),(36,(l_ x10)),(38,.mp (Γ.n0 + 38)),(41,(l_ x10)),(42,.d (.str x12)),(43,.mp (Γ.n0 + 38))] ),Qp Γ.n0 (bxs [(2,.cells ((Qd a1))),(4,.cells ([.nils 1,(i_ 0),.nils 1,.nils 3])),(8,.cells ((Qn x7))),(9,.cells ([(l_ x7.kept_),(i_ 0),.nils 1,.nils 3])),(38,.mp (mapE (fun (x:ByteArray)=>(.d (.str x):V)) (fun (x:Int)=>((i_ x):V)) 0 (setM ([]:List (ByteArray×Int)) x12 0)) ((setM ([]:List (ByteArray×Int)) x12 0)).length)]) M,Γ.n0 + 117⟩; exact Q8y 37 10 [.lst 1 (List.map (eI .i64) x10)] rfl rfl rfl rfl rfl ⟨(sm rfl),(sm rfl),(kPtr rfl),(kPtr rfl),(sm rfl),(sm rfl),(sm rfl),(kPtr rfl),(kPtr rfl),(kMp rfl),(sm rfl),(sm rfl),(sm rfl),(sm rfl),(sm rfl),(sm rfl),(sm rfl),(sm rfl),(sm rfl),(kPtr rfl),(sm rfl),(sm rfl),(kPtr rfl),(sm rfl),(sm rfl),(sm rfl),(sm rfl),(kMp rfl),(sm rfl),(sm rfl),(kMp rfl),tv⟩ ⟨⟨_,rfl,rfl,(.same rfl)⟩,⟨_,rfl,rfl,(.same rfl)⟩,⟨_,rfl,rfl,(.same rfl)⟩,⟨_,rfl,rfl,(.same rfl)⟩,⟨rfl,rfl⟩,tv⟩ rfl) ?_
   refine Tr.loop (mk:=fun ((states13,i14,c15,c16,c17,r18,r19,c20):(List (List Int))×Int×(List Int)×(List Int)×(List Qe)×(List Int)×(List Qe)×(List (ByteArray×Int)))=>⟨look [(4,.ptr (Γ.n0 + 4) 0),(8,.ptr (Γ.n0 + 8) 0),(9,.ptr (Γ.n0 + 9) 0),(10,.own 1 (List.map (eL 1 (eI .i64)) states13)),(11,.mp (Γ.n0 + 38)),(12,(i_ i14))],Qp Γ.n0 (bxs [(2,.cells ((Qd a1))),(4,.cells ([(o_ c15),(i_ 0),(o_ c16),.own 3 (List.map Qc c17)])),(8,.cells ((Qn x7))),(9,.cells ([(l_ x7.kept_),(i_ 0),(o_ r18),.own 3 (List.map Qc r19)])),(38,.mp (mapE (fun (x:ByteArray)=>(.d (.str x):V)) (fun (x:Int)=>((i_ x):V)) 0 c20) (c20).length)]) M,Γ.n0 + 117⟩) h (by exact Ql ⟨(kPtr rfl),(kPtr rfl),(kPtr rfl),(sm rfl),(kMp rfl),(sm rfl),tv⟩ ⟨⟨_,rfl,rfl,(.same rfl)⟩,⟨_,rfl,rfl,(.cons (WkV.nilsO _) (.cons (sm rfl) (.cons (WkV.nilsO _) (.cons (WkV.nilsO _) .nil))))⟩,⟨_,rfl,rfl,(.same rfl)⟩,⟨_,rfl,rfl,(.cons (sm rfl) (.cons (sm rfl) (.cons (WkV.nilsO _) (.cons (WkV.nilsO _) .nil))))⟩,⟨rfl,rfl⟩,tv⟩ rfl) (fun k21 z h=>?_)
   ·obtain ⟨states13,i14,c15,c16,c17,r18,r19,c20⟩:=z
    replace h:_ = some _:=h
    refine Tr.seq (sr ((md rfl (Rn.mov (v:=.d (.lst 1 (List.map (eL 1 (eI .i64)) states13))) tv rfl (Rn.lenD tv rfl (Rn.bin tv rfl rfl rfl (Rn.nil (toN ?_))))))))
    refine Tr.cond rfl (fun hb22=>?_) (fun hb22=>?_)
    ·replace h:=ifT hb22 h
     refine Tr.skip (toN (Tr.seq (Tr.block ?_)))
     refine Tr.cutB (fun (r30:List Int)=>⟨look [(4,.ptr (Γ.n0 + 4) 0),(8,.ptr (Γ.n0 + 8) 0),(9,.ptr (Γ.n0 + 9) 0),(10,.own 1 (List.map (eL 1 (eI .i64)) states13)),(11,.mp (Γ.n0 + 38)),(12,(i_ i14))],Qp Γ.n0 (bxs [(2,.cells ((Qd a1))),(4,.cells ([(o_ c15),(i_ 0),(o_ c16),.own 3 (List.map Qc c17)])),(8,.cells ((Qn x7))),(9,.cells ([(l_ x7.kept_),(i_ 0),(o_ r30),.own 3 (List.map Qc r19)])),(38,.mp (mapE (fun (x:ByteArray)=>(.d (.str x):V)) (fun (x:Int)=>((i_ x):V)) 0 c20) (c20).length)]) M,Γ.n0 + 117⟩) h (fun z h=>?_) (fun z h=>?_)
     ·refine Tr.seq ?_
      refine Tr.rgnD (by decide) ?_
      refine Rn.load (v:=(Qk x7)) tv rfl (Qm rfl) rfl rfl (Rn.mov (v:=.d (.lst 1 (List.map (eL 1 (eI .i64)) states13))) tv rfl (md rfl ?_))
      obtain ⟨x23,h24,h⟩:=bnd h
      refine Rn.idxD (e:=(eL 1 (eI .i64))) tv rfl rfl h24 (Rn.loadC (x:=.lst 1 (List.map (eI .i64) x23)) tv rfl ?_)
      obtain ⟨x26,h25,h⟩:=bnd h
      refine Rn.call (args:=[(Qk x7),(l_ x23)]) tv rfl (H_projection_observer_isMarked _ _ _ h25) pc0 ?_
      refine Rn.nil ⟨rfl,?_⟩
      refine toN ?_
      refine Tr.cond rfl (fun hb27=>?_) (fun hb27=>?_)
      ·replace h:=bT hb27 h
       refine Tr.rgn (Rn.fldP (o':=2) tv rfl rfl (Rn.loadT (cs':=[(l_ x7.kept_),(i_ 0),(l_ r18),.own 3 (List.map Qc r19)]) tv rfl rfl rfl rfl (md rfl (Rn.bslice (xs:=[(i_ i14)]) (cs:=[(i_ i14)]) tv rfl rfl rfl rfl ?_))))
       obtain ⟨x28,h29,h⟩:=bnd h
       refine Rn.app (e:=(eI .i64)) tv rfl rfl rfl (Qcm rfl rfl rfl) h29 rfl (Rn.fldP (o':=2) tv rfl rfl (Rn.storeO (cs':=[(l_ x7.kept_),(i_ 0),(o_ x28),.own 3 (List.map Qc r19)]) tv rfl rfl rfl rfl rfl (Rn.nil ?_)))
       replace h:=si h; subst h
       exact Qj [59] ⟨(kPtr rfl),(kPtr rfl),(kPtr rfl),(sm rfl),(kMp rfl),(sm rfl),tv⟩ ⟨⟨_,rfl,rfl,(.same rfl)⟩,⟨_,rfl,rfl,(.same rfl)⟩,⟨_,rfl,rfl,(.same rfl)⟩,⟨_,rfl,rfl,(.same rfl)⟩,⟨rfl,rfl⟩,tv⟩ rfl
      ·replace h:=bF hb27 h
       refine Tr.skip ?_
       replace h:=si h; subst h
       exact Qj [] ⟨(kPtr rfl),(kPtr rfl),(kPtr rfl),(sm rfl),(kMp rfl),(sm rfl),tv⟩ ⟨⟨_,rfl,rfl,(.same rfl)⟩,⟨_,rfl,rfl,(.same rfl)⟩,⟨_,rfl,rfl,(.same rfl)⟩,⟨_,rfl,rfl,(.same rfl)⟩,⟨rfl,rfl⟩,tv⟩ rfl
     ·obtain ⟨r30,rfl⟩ : ∃ x,x = z:=⟨_,rfl⟩
      refine Tr.cutB (fun ((states59,r60,c61):(List (List Int))×(List Qe)×(List (ByteArray×Int)))=>⟨look [(4,.ptr (Γ.n0 + 4) 0),(8,.ptr (Γ.n0 + 8) 0),(9,.ptr (Γ.n0 + 9) 0),(10,.own 1 (List.map (eL 1 (eI .i64)) states59)),(11,.mp (Γ.n0 + 38)),(12,(i_ i14))],Qp Γ.n0 (bxs [(2,.cells ((Qd a1))),(4,.cells ([(o_ c15),(i_ 0),(o_ c16),.own 3 (List.map Qc c17)])),(8,.cells ((Qn x7))),(9,.cells ([(l_ x7.kept_),(i_ 0),(o_ r30),.own 3 (List.map Qc r60)])),(38,.mp (mapE (fun (x:ByteArray)=>(.d (.str x):V)) (fun (x:Int)=>((i_ x):V)) 0 c61) (c61).length)]) M,Γ.n0 + 117⟩) h (fun z h=>?_) (fun z h=>?_)
      ·refine sr ((Rn.fldP (o':=1) tv rfl rfl (Rn.load (v:=(l_ x7.kept_)) tv rfl (Qm rfl) rfl rfl (Rn.lenD tv rfl (md rfl (nt ((Tr.block ?_))))))))
       refine Tr.loop (mk:=fun ((states31,x32,r33,c34):(List (List Int))×Int×(List Qe)×(List (ByteArray×Int)))=>⟨look [(4,.ptr (Γ.n0 + 4) 0),(8,.ptr (Γ.n0 + 8) 0),(9,.ptr (Γ.n0 + 9) 0),(10,.own 1 (List.map (eL 1 (eI .i64)) states31)),(11,.mp (Γ.n0 + 38)),(12,(i_ i14)),(63,(l_ x7.kept_)),(64,(i_ (x7.kept_.length:Int))),(65,(i_ x32))],Qp Γ.n0 (bxs [(2,.cells ((Qd a1))),(4,.cells ([(o_ c15),(i_ 0),(o_ c16),.own 3 (List.map Qc c17)])),(8,.cells ((Qn x7))),(9,.cells ([(l_ x7.kept_),(i_ 0),(o_ r30),.own 3 (List.map Qc r33)])),(38,.mp (mapE (fun (x:ByteArray)=>(.d (.str x):V)) (fun (x:Int)=>((i_ x):V)) 0 c34) (c34).length)]) M,Γ.n0 + 117⟩) h (by exact Ql ⟨(kPtr rfl),(kPtr rfl),(kPtr rfl),(sm rfl),(kMp rfl),(sm rfl),(sm rfl),(sm rfl),(sm rfl),tv⟩ ⟨⟨_,rfl,rfl,(.same rfl)⟩,⟨_,rfl,rfl,(.same rfl)⟩,⟨_,rfl,rfl,(.same rfl)⟩,⟨_,rfl,rfl,(.same rfl)⟩,⟨rfl,rfl⟩,tv⟩ rfl) (fun k35 z h=>?_)
       ·obtain ⟨states31,x32,r33,c34⟩:=z
        replace h:_ = some _:=h
        refine sr ((Rn.bin tv rfl rfl rfl (nt ((Tr.seq ?_)))))
        refine Tr.cond rfl (fun hb36=>?_) (fun hb36=>?_)
        ·replace h:=ifT hb36 h
         refine Tr.skip (toN ?_)
         refine Tr.cutB (fun ((states56,r57,c58):(List (List Int))×(List Qe)×(List (ByteArray×Int)))=>⟨look [(4,.ptr (Γ.n0 + 4) 0),(8,.ptr (Γ.n0 + 8) 0),(9,.ptr (Γ.n0 + 9) 0),(10,.own 1 (List.map (eL 1 (eI .i64)) states56)),(11,.mp (Γ.n0 + 38)),(12,(i_ i14)),(63,(l_ x7.kept_)),(64,(i_ (x7.kept_.length:Int))),(65,(i_ x32))],Qp Γ.n0 (bxs [(2,.cells ((Qd a1))),(4,.cells ([(o_ c15),(i_ 0),(o_ c16),.own 3 (List.map Qc c17)])),(8,.cells ((Qn x7))),(9,.cells ([(l_ x7.kept_),(i_ 0),(o_ r30),.own 3 (List.map Qc r57)])),(38,.mp (mapE (fun (x:ByteArray)=>(.d (.str x):V)) (fun (x:Int)=>((i_ x):V)) 0 c58) (c58).length)]) M,Γ.n0 + 117⟩) h (fun z h=>?_) (fun z h=>?_)
         ·refine Tr.block (Tr.seq (Tr.rgn ?_))
          obtain ⟨x37,h38,h⟩:=bnd h
          refine Rn.idxD (e:=(eI .i64)) tv rfl rfl h38 (Rn.loadC (x:=.int .i64 x37) tv rfl (md rfl (nt ((Tr.seq ?_)))))
          refine Tr.rgnD (by decide) ?_
          refine Rn.load (v:=(Qk x7)) tv rfl (Qm rfl) rfl rfl (Rn.mov (v:=.d (.lst 1 (List.map (eL 1 (eI .i64)) states31))) tv rfl (md rfl ?_))
          obtain ⟨x39,h40,h⟩:=bnd h
          refine Rn.idxD (e:=(eL 1 (eI .i64))) tv rfl rfl h40 (Rn.loadC (x:=.lst 1 (List.map (eI .i64) x39)) tv rfl (md rfl ?_))
          obtain ⟨x42,h41,h⟩:=bnd h
          refine Rn.call (args:=[(Qk x7),(l_ x39),(i_ x37)]) tv rfl (H_projection_observer_next _ _ _ _ h41) pc0 (Rn.movTD tv rfl ?_)
          refine Rn.nil ⟨rfl,?_⟩
          refine toN (Tr.seq (sr ((md rfl (Rn.lenD tv rfl (Rn.bin tv rfl rfl rfl (Rn.nil (toN ?_))))))))
          refine Tr.cond rfl (fun hb43=>?_) (fun hb43=>?_)
          ·replace h:=bT hb43 h
           refine Tr.exit ?_
           replace h:=si h; subst h
           exact Qj [] ⟨(kPtr rfl),(kPtr rfl),(kPtr rfl),(sm rfl),(kMp rfl),(sm rfl),(sm rfl),(sm rfl),(sm rfl),tv⟩ ⟨⟨_,rfl,rfl,(.same rfl)⟩,⟨_,rfl,rfl,(.same rfl)⟩,⟨_,rfl,rfl,(.same rfl)⟩,⟨_,rfl,rfl,(.same rfl)⟩,⟨rfl,rfl⟩,tv⟩ rfl
          ·replace h:=bF hb43 h
           refine Tr.skip (toN (sr ((Rn.mov (v:=.mp (Γ.n0 + 38)) tv rfl (md rfl ?_)))))
           obtain ⟨x45,h44,h⟩:=bnd h
           refine Rn.call (args:=[(l_ x42)]) tv rfl (H_projection_key _ _ h44) pc9 (Rn.lookupC (ek:=(fun (x:ByteArray)=>(.d (.str x):V))) (ev:=(fun (x:Int)=>((i_ x):V))) (m:=c34) (k:=x45) (fun _ _=>rfl) (fun _=>rfl) (fun _=>rfl) 0 rfl tv rfl rfl rfl (Rn.mov (v:=.tup [(i_ (getM c34 x45 0)),(b_ (hasM c34 x45))]) tv rfl (Rn.ext (v:=(i_ (getM c34 x45 0))) (vs:=[(i_ (getM c34 x45 0)),(b_ (hasM c34 x45))]) tv rfl rfl rfl (Rn.ext (v:=(b_ (hasM c34 x45))) (vs:=[(i_ (getM c34 x45 0)),(b_ (hasM c34 x45))]) tv rfl rfl rfl (md rfl (md rfl (Rn.nil (toN ?_))))))))
           refine Tr.cutB (fun ((states51,to52,c53):(List (List Int))×Int×(List (ByteArray×Int)))=>⟨look [(4,.ptr (Γ.n0 + 4) 0),(8,.ptr (Γ.n0 + 8) 0),(9,.ptr (Γ.n0 + 9) 0),(10,.own 1 (List.map (eL 1 (eI .i64)) states51)),(11,.mp (Γ.n0 + 38)),(12,(i_ i14)),(14,(i_ x37)),(16,(i_ to52)),(63,(l_ x7.kept_)),(64,(i_ (x7.kept_.length:Int))),(65,(i_ x32))],Qp Γ.n0 (bxs [(2,.cells ((Qd a1))),(4,.cells ([(o_ c15),(i_ 0),(o_ c16),.own 3 (List.map Qc c17)])),(8,.cells ((Qn x7))),(9,.cells ([(l_ x7.kept_),(i_ 0),(o_ r30),.own 3 (List.map Qc r33)])),(38,.mp (mapE (fun (x:ByteArray)=>(.d (.str x):V)) (fun (x:Int)=>((i_ x):V)) 0 c53) (c53).length)]) M,Γ.n0 + 117⟩) h (fun z h=>?_) (fun z h=>?_)
           ·refine sr ((md rfl (Rn.un tv rfl rfl (Rn.nil (toN ?_)))))
            refine Tr.cond rfl (fun hb46=>?_) (fun hb46=>?_)
            ·have hb46:=nT' hb46
             replace h:=bF hb46 h
             refine sr ((Rn.mov (v:=.d (.lst 1 (List.map (eL 1 (eI .i64)) states31))) tv rfl (Rn.lenD tv rfl (md rfl (nt ((sr ((Rn.mov (v:=.mp (Γ.n0 + 38)) tv rfl (md rfl ?_))))))))))
             obtain ⟨x48,h47,h⟩:=bnd h
             refine Rn.call (args:=[(l_ x42)]) tv rfl (H_projection_key _ _ h47) pc9 (md rfl (Rn.mapset (ek:=(fun (x:ByteArray)=>(.d (.str x):V))) (ev:=(fun (x:Int)=>((i_ x):V))) (m:=c34) (k:=x48) (v:=(states31.length:Int)) (fun _ _=>rfl) (fun _=>rfl) (fun _=>rfl) tv rfl rfl rfl rfl rfl (nt ((Tr.rgn (Rn.movTO tv rfl (md rfl (Rn.bslice (xs:=[(l_ x42)]) (cs:=[(l_ x42)]) tv rfl rfl rfl rfl ?_))))))))
             obtain ⟨x49,h50,h⟩:=bnd h
             refine Rn.app (e:=(eL 1 (eI .i64))) tv rfl rfl rfl (Qcm rfl rfl rfl) h50 rfl (Rn.movTO tv rfl (Rn.nil ?_))
             replace h:=si h; subst h
             exact Qj [96] ⟨(kPtr rfl),(kPtr rfl),(kPtr rfl),(sm rfl),(kMp rfl),(sm rfl),(sm rfl),(sm rfl),(sm rfl),(sm rfl),(sm rfl),tv⟩ ⟨⟨_,rfl,rfl,(.same rfl)⟩,⟨_,rfl,rfl,(.same rfl)⟩,⟨_,rfl,rfl,(.same rfl)⟩,⟨_,rfl,rfl,(.same rfl)⟩,⟨rfl,rfl⟩,tv⟩ rfl
            ·have hb46:=nF' hb46
             replace h:=bT hb46 h
             refine Tr.skip ?_
             replace h:=si h; subst h
             exact Qj [] ⟨(kPtr rfl),(kPtr rfl),(kPtr rfl),(sm rfl),(kMp rfl),(sm rfl),(sm rfl),(sm rfl),(sm rfl),(sm rfl),(sm rfl),tv⟩ ⟨⟨_,rfl,rfl,(.same rfl)⟩,⟨_,rfl,rfl,(.same rfl)⟩,⟨_,rfl,rfl,(.same rfl)⟩,⟨_,rfl,rfl,(.same rfl)⟩,⟨rfl,rfl⟩,tv⟩ rfl
           ·obtain ⟨states51,to52,c53⟩:=z
            refine Tr.rgn (Rn.fldP (o':=3) tv rfl rfl (Rn.loadT (cs':=[(l_ x7.kept_),(i_ 0),(o_ r30),.d (.lst 3 (List.map Qc r33))]) tv rfl rfl rfl rfl (md rfl (md rfl (md rfl (Rn.build (v:=.agg [(i_ i14),(i_ x37),(i_ to52)]) tv rfl (Rn.bslice (xs:=[.agg [(i_ i14),(i_ x37),(i_ to52)]]) (cs:=[(i_ i14),(i_ x37),(i_ to52)]) tv rfl rfl rfl rfl ?_)))))))
            obtain ⟨x54,h55,h⟩:=bnd h
            refine Rn.app (e:=Qc) tv rfl rfl rfl (Qcm rfl rfl rfl) h55 rfl (Rn.fldP (o':=3) tv rfl rfl (Rn.storeO (cs':=[(l_ x7.kept_),(i_ 0),(o_ r30),.own 3 (List.map Qc x54)]) tv rfl rfl rfl rfl rfl (Rn.nil ?_)))
            replace h:=si h; subst h
            exact Qj [104] ⟨(kPtr rfl),(kPtr rfl),(kPtr rfl),(sm rfl),(kMp rfl),(sm rfl),(sm rfl),(sm rfl),(sm rfl),tv⟩ ⟨⟨_,rfl,rfl,(.same rfl)⟩,⟨_,rfl,rfl,(.same rfl)⟩,⟨_,rfl,rfl,(.same rfl)⟩,⟨_,rfl,rfl,(.same rfl)⟩,⟨rfl,rfl⟩,tv⟩ rfl
         ·obtain ⟨states56,r57,c58⟩:=z
          refine Tr.rgn (Rn.bin tv rfl rfl rfl (md rfl (Rn.nil ?_)))
          exact ⟨_,h,(by exact Ql ⟨(kPtr rfl),(kPtr rfl),(kPtr rfl),(sm rfl),(kMp rfl),(sm rfl),(sm rfl),(sm rfl),(sm rfl),tv⟩ ⟨⟨_,rfl,rfl,(.same rfl)⟩,⟨_,rfl,rfl,(.same rfl)⟩,⟨_,rfl,rfl,(.same rfl)⟩,⟨_,rfl,rfl,(.same rfl)⟩,⟨rfl,rfl⟩,tv⟩ rfl)⟩
        ·replace h:=ifF hb36 h
         refine Tr.exit ?_
         replace h:=si h; subst h
         exact Qj [] ⟨(kPtr rfl),(kPtr rfl),(kPtr rfl),(sm rfl),(kMp rfl),(sm rfl),tv⟩ ⟨⟨_,rfl,rfl,(.same rfl)⟩,⟨_,rfl,rfl,(.same rfl)⟩,⟨_,rfl,rfl,(.same rfl)⟩,⟨_,rfl,rfl,(.same rfl)⟩,⟨rfl,rfl⟩,tv⟩ rfl
      ·obtain ⟨states59,r60,c61⟩:=z
       refine sr ((Rn.mov (v:=.d (.lst 1 (List.map (eL 1 (eI .i64)) states59))) tv rfl (Rn.lenD tv rfl (Rn.bin tv rfl rfl rfl (Rn.nil (toN ?_))))))
       refine Tr.cond rfl (fun hb62=>?_) (fun hb62=>?_)
       ·replace h:=ifT hb62 h
        refine sr ((Rn.build (v:=.agg [.nils 1,(i_ 0),.nils 1,.nils 3]) tv rfl (Rn.storeT (v:=.agg [.nils 1,(i_ 0),.nils 1,.nils 3]) (ds:=[.nils 1,(i_ 0),.nils 1,.nils 3]) (cs':=[.nils 1,(i_ 0),.nils 1,.nils 3]) tv rfl rfl rfl rfl rfl rfl rfl (Rn.movTC (v:=.nils 1) tv (md rfl (nt ((Tr.ret ?_))))))))
        replace h:=si h; subst h
        exact ⟨.inr rfl,.tup [.agg [.nils 1,(i_ 0),.nils 1,.nils 3],.nils 1,(i_ 3)],res3 (Qif rfl rfl rfl rfl) rfl rfl,(WkV.tup (.cons (WkV.agg (.cons (WkV.nilsD _) (.cons (.same rfl) (.cons (WkV.nilsD _) (.cons (WkV.nilsD _) .nil))))) (.cons (WkV.nilsO _) (.cons (.same rfl) .nil)))).rd,⟨⟨tv,tv,tv,tv,tv⟩,tv,tv,tv⟩,fun k hk=>Qf hk⟩
       ·replace h:=ifF hb62 h
        refine Tr.skip (toN (Tr.rgn (md rfl (Rn.bin tv rfl rfl rfl (md rfl (Rn.nil ?_))))))
        exact ⟨_,h,(by exact Ql ⟨(kPtr rfl),(kPtr rfl),(kPtr rfl),(sm rfl),(kMp rfl),(sm rfl),tv⟩ ⟨⟨_,rfl,rfl,(.same rfl)⟩,⟨_,rfl,rfl,(.same rfl)⟩,⟨_,rfl,rfl,(.same rfl)⟩,⟨_,rfl,rfl,(.same rfl)⟩,⟨rfl,rfl⟩,tv⟩ rfl)⟩
    ·replace h:=ifF hb22 h
     refine Tr.exit (toN (sr ((Rn.mov (v:=.d (.lst 1 (List.map (eL 1 (eI .i64)) states13))) tv rfl (Rn.lenD tv rfl (Rn.fldP (o':=1) tv rfl rfl (Rn.store (v:=(i_ (states13.length:Int))) (cs':=[(l_ x7.kept_),(i_ (states13.length:Int)),(o_ r18),.own 3 (List.map Qc r19)]) tv rfl rfl rfl rfl rfl rfl (nt ((sr ((Rn.load (v:=.agg [(l_ x7.kept_),(i_ (states13.length:Int)),(l_ r18),.d (.lst 3 (List.map Qc r19))]) tv rfl (Qm rfl) rfl rfl (Rn.movTO tv rfl (Rn.storeT (v:=.agg [(l_ x7.kept_),(i_ (states13.length:Int)),(l_ r18),.d (.lst 3 (List.map Qc r19))]) (ds:=[(l_ x7.kept_),(i_ (states13.length:Int)),(l_ r18),.d (.lst 3 (List.map Qc r19))]) (cs':=[(l_ x7.kept_),(i_ (states13.length:Int)),(l_ r18),.d (.lst 3 (List.map Qc r19))]) tv rfl rfl rfl rfl rfl rfl rfl (Rn.movTO tv rfl (md rfl (nt ((Tr.ret ?_)))))))))))))))))))
     replace h:=si h; subst h
     exact ⟨.inr rfl,.tup [.agg [(l_ x7.kept_),(i_ (states13.length:Int)),(l_ r18),.d (.lst 3 (List.map Qc r19))],.own 1 (List.map (eL 1 (eI .i64)) states13),(i_ 0)],res3 (Qif rfl rfl rfl rfl) rfl rfl,(WkV.tup (.cons (.same rfl) (.cons (.same rfl) (.cons (.same rfl) .nil)))).rd,⟨⟨tv,tv,tv,tv,tv⟩,tv,tv,tv⟩,fun k hk=>Qf hk⟩
theorem Qlk {P:Program} {c:Nat} {Qg:(List Int)→Int→Option Bool}
    (H_slices_Contains_int:Qbp P 56 Qg) (hcf:Qu P c = some Qer):Qeq P c (Qbe Qg):=by
 intro x1 x2 k3 r h
 intro M nb hk4
 refine Qba3 hcf rfl M nb fun Γ hP hnt hn0 hM=>?_
 subst hP hn0
 refine Tr.init [(0,(i_ x1)),(1,.ptr k3 0)] rfl ?_
 unfold Qbe at h
 unfold Qer
 refine sr ((md rfl (nt ((sr ((Rn.fldP (o':=1) tv rfl rfl (Rn.load (v:=(l_ x2.kept_)) tv rfl (Qbe5 hM hk4) rfl rfl (md rfl ?_)))))))))
 obtain ⟨x6,h5,h⟩:=bnd h
 refine Rn.call (args:=[(l_ x2.kept_),(i_ x1)]) tv rfl (H_slices_Contains_int _ _ _ h5) pc9 (Rn.un tv rfl rfl (md rfl (nt ((Tr.ret ?_)))))
 replace h:=si h; subst h
 exact ⟨.inr rfl,(b_ (!x6)),rfl,fun _ _ _ _ h=>h,tv,fun k hk=>Qf hk⟩
theorem Qm6 {P:Program} {c:Nat} {Qt:(List Int)→(Int→Option Bool)→Option Bool} {Qbe:Int→Qi→Option Bool}
    (H_slices_ContainsFunc_int:Qde P 58 Qt)
    (H_projection_observer_known_1:Qeq P 84 Qbe) (hcf:Qu P c = some Qe7):Qdr P c (Qy Qt Qbe):=by
 intro o1 observation2 r h
 refine Qcf hcf rfl fun Γ M hP hnt hM=>?_
 subst hP
 refine Tr.init [(0,(Qk o1)),(1,(l_ observation2))] rfl ?_
 unfold Qy at h
 unfold Qe7
 refine sr ((Rn.box (v:=(Qk o1)) (cs:=(Qn o1)) tv rfl rfl rfl rfl rfl (md rfl (nt ((sr ((md rfl (Rn.k (v:=.clo 84 [.ptr (Γ.n0 + 2) 0]) tv rfl rfl rfl ?_)))))))))
 obtain ⟨x7,h6,h⟩:=bnd h
 refine Rn.callM (args:=[(l_ observation2),.clo 84 [.ptr (Γ.n0 + 2) 0]]) tv rfl (fun M2 nb2 hn hx=>H_slices_ContainsFunc_int _ _ 84 [.ptr (Γ.n0 + 2) 0] _ h6 M2 nb2 rfl ⟨Qbcg (hx _ _ (Qm rfl)),tv⟩ (fun a3 r4 h5 M3 nb3 hn3 hx3=>H_projection_observer_known_1 a3 o1 (Γ.n0 + 2) r4 h5 M3 nb3 ((hx.trans hx3) _ _ (Qm rfl)))) rfl pc9 ?_
 refine Rn.un tv rfl rfl (md rfl (nt ((Tr.ret ?_))))
 replace h:=si h; subst h
 exact ⟨.inr rfl,(b_ (!x7)),rfl,fun _ _ _ _ h=>h,tv,fun k hk=>Qf hk⟩
theorem Q24 {P:Program} {c:Nat} (hcf:Qu P c = some Qkm):Qfj P c (Q5):=by
 intro s1 r h
 refine Qcf hcf rfl fun Γ M hP hnt hM=>?_
 subst hP
 refine Tr.init [(0,(l_ s1))] rfl ?_
 unfold Q5 at h
 unfold Qkm
 refine sr ((Rn.movTC (v:=.nils 1) tv (nt ((Tr.seq (sr ((md rfl ?_))))))))
 refine Rn.isnil (e:=(eI .i64)) tv rfl h (fun b2 h=>?_)
 refine Rn.nil (toN ?_)
 refine Tr.cond rfl (fun hb3=>?_) (fun hb3=>?_)
 ·replace h:=bT hb3 h
  refine sr ((Rn.movTC (v:=.nils 1) tv (nt ((Tr.ret ?_)))))
  replace h:=si h; subst h
  exact ⟨.inr rfl,(.nils 1),rfl,(WkV.nilsO _).rd,tv,fun k hk=>Qf hk⟩
 ·replace h:=bF hb3 h
  refine Tr.skip (toN (sr ((Rn.bslice (xs:=[]) (cs:=[]) tv rfl rfl rfl rfl (md rfl ?_)))))
  obtain ⟨x4,h5,h⟩:=bnd h
  refine Rn.app0 (e:=(eI .i64)) tv rfl rfl rfl rfl Q1k h5 rfl (Rn.movTO tv rfl (nt ((Tr.ret ?_))))
  replace h:=si h; subst h
  exact ⟨.inr rfl,(o_ x4),rfl,fun _ _ _ _ h=>h,tv,fun k hk=>Qf hk⟩
theorem Q53 {P:Program} {c:Nat} {Qw:Qb→(List Int)→Option Int} {Q1:Qb→(List Int)→Option Qi} {Qy:Qi→(List Int)→Option Bool} {Q5:(List Int)→Option ((List Int))} {Qg:(List Int)→Int→Option Bool}
    (H_projection_check:Qek P 38 Qw)
    (H_projection_observe:Qew P 39 Q1)
    (H_projection_observer_known:Qdr P 52 Qy)
    (H_slices_Clone_int:Qfj P 55 Q5)
    (H_slices_Contains_int:Qbp P 56 Qg) (hcf:Qu P c = some Ql2) (fuel:Nat):Qia P c (Qbu Qw Q1 Qy Q5 Qg fuel):=by
 intro a1 onto2 observation3 marked4 r h
 refine Qcf hcf rfl fun Γ M hP hnt hM=>?_
 subst hP
 refine Tr.init [(0,(Qa a1)),(1,(l_ onto2)),(2,(l_ observation3)),(3,(b_ marked4))] rfl ?_
 unfold Qbu at h
 unfold Ql2
 refine sr ((Rn.box (v:=(Qa a1)) (cs:=(Qd a1)) tv rfl rfl rfl rfl rfl (Rn.movTC (v:=.nils 1) tv (md rfl (md rfl (nt ((Tr.seq (sr ((Rn.load (v:=(Qa a1)) tv rfl (Qm rfl) rfl rfl (md rfl ?_))))))))))))
 obtain ⟨x6,h5,h⟩:=bnd h
 refine Rn.call (args:=[(Qa a1),(l_ onto2)]) tv rfl (H_projection_check _ _ _ h5) pc9 (md rfl (nt ((sr ((md rfl (Rn.bin tv rfl rfl rfl (Rn.nil (toN ?_)))))))))
 refine Tr.cond rfl (fun hb7=>?_) (fun hb7=>?_)
 ·replace h:=bT hb7 h
  refine sr ((md rfl (Rn.movTC (v:=.nils 1) tv (md rfl (md rfl (nt ((Tr.ret ?_))))))))
  replace h:=si h; subst h
  exact ⟨.inr rfl,.tup [.nils 1,(b_ false),(i_ x6)],res3 rfl rfl rfl,(WkV.tup (.cons (WkV.nilsD _) (.cons (.same rfl) (.cons (.same rfl) .nil)))).rd,⟨tv,tv,tv,tv⟩,fun k hk=>Qf hk⟩
 ·replace h:=bF hb7 h
  refine Tr.skip (toN (sr ((Rn.load (v:=(Qa a1)) tv rfl (Qm rfl) rfl rfl (md rfl ?_)))))
  obtain ⟨x9,h8,h⟩:=bnd h
  refine Rn.call (args:=[(Qa a1),(l_ onto2)]) tv rfl (H_projection_observe _ _ _ h8) pc9 (Rn.alloc tv rfl (Rn.storeT (v:=(Qk x9)) (ds:=(Qn x9)) (cs':=(Qn x9)) tv rfl rfl rfl rfl rfl rfl rfl (nt ((Tr.seq (sr ((Rn.load (v:=(Qk x9)) tv rfl (Qm rfl) rfl rfl (md rfl ?_)))))))))
  obtain ⟨x11,h10,h⟩:=bnd h
  refine Rn.call (args:=[(Qk x9),(l_ observation3)]) tv rfl (H_projection_observer_known _ _ _ h10) pc9 (Rn.un tv rfl rfl (Rn.nil (toN ?_)))
  refine Tr.cond rfl (fun hb12=>?_) (fun hb12=>?_)
  ·have hb12:=nT' hb12
   replace h:=bF hb12 h
   refine sr ((Rn.movTC (v:=.nils 1) tv (md rfl (md rfl (nt ((Tr.ret ?_)))))))
   replace h:=si h; subst h
   exact ⟨.inr rfl,.tup [.nils 1,(b_ false),(i_ 9)],res3 rfl rfl rfl,(WkV.tup (.cons (WkV.nilsD _) (.cons (.same rfl) (.cons (.same rfl) .nil)))).rd,⟨tv,tv,tv,tv⟩,fun k hk=>Qf hk⟩
  ·have hb12:=nF' hb12
   replace h:=bT hb12 h
   refine Tr.skip (toN (Tr.seq (sr ((Rn.fldP (o':=1) tv rfl rfl (Rn.load (v:=(i_ a1.States)) tv rfl (Qm rfl) rfl rfl (Rn.bin tv rfl rfl rfl (Rn.nil (toN ?_)))))))))
   refine Tr.cond rfl (fun hb13=>?_) (fun hb13=>?_)
   ·replace h:=bT hb13 h
    refine sr ((Rn.movTC (v:=.nils 1) tv (md rfl (md rfl (nt ((Tr.ret ?_)))))))
    replace h:=si h; subst h
    exact ⟨.inr rfl,.tup [.nils 1,(b_ false),(i_ 0)],res3 rfl rfl rfl,(WkV.tup (.cons (WkV.nilsD _) (.cons (.same rfl) (.cons (.same rfl) .nil)))).rd,⟨tv,tv,tv,tv⟩,fun k hk=>Qf hk⟩
   ·replace h:=bF hb13 h
    refine Tr.skip (toN (sr ((Rn.mkmap tv rfl (fun (x:Qh)=>(.agg (Q0 x):V)) (fun (x:List Int)=>((l_ x):V)) (Rn.build (v:=.agg [(i_ 0),(i_ 0)]) tv rfl (Rn.mapset (ek:=(fun (x:Qh)=>(.agg (Q0 x):V))) (ev:=(fun (x:List Int)=>((l_ x):V))) (m:=([]:List (Qh×(List Int)))) (k:=(Qh.mk 0 0)) (v:=[]) Qed (fun _=>rfl) (fun _=>rfl) tv rfl rfl rfl rfl rfl (Rn.mov (v:=.mp (Γ.n0 + 36)) tv rfl (Rn.mov (v:=.mp (Γ.n0 + 36)) tv rfl (nt ((Tr.seq (sr ((Rn.build (v:=.agg [(i_ 0),(i_ 0)]) tv rfl (Rn.bslice (xs:=[.agg [(i_ 0),(i_ 0)]]) (cs:=[(i_ 0),(i_ 0)]) tv rfl rfl rfl rfl (Rn.movTF (v:=.sl 2 (Γ.n0 + 40) 0 1 1) tv rfl rfl (nt ((Tr.block ?_)))))))))))))))))))
    refine Tr.weak (by show WeakSt Γ _ ⟨look ((13,.own 2 (List.map Qb1 [(Qh.mk 0 0)])) :: [(0,(Qa a1)),(1,(l_ onto2)),(2,(l_ observation3)),(3,(b_ marked4)),(4,.ptr (Γ.n0 + 4) 0),(8,.nils 1),(9,(b_ false)),(10,(i_ x6)),(11,.ptr (Γ.n0 + 11) 0),(12,.mp (Γ.n0 + 36)),(20,(Qa a1)),(21,(l_ onto2)),(22,(i_ x6)),(23,(i_ x6)),(24,(b_ (x6 != 0))),(26,(Qa a1)),(27,(l_ onto2)),(28,(Qk x9)),(29,(Qk x9)),(30,(l_ observation3)),(31,(b_ x11)),(32,(b_ (!x11))),(33,.ptr (Γ.n0 + 4) 1),(34,(i_ a1.States)),(35,(b_ (a1.States == 0))),(36,.mp (Γ.n0 + 36)),(37,.agg [(i_ 0),(i_ 0)]),(38,.mp (Γ.n0 + 36)),(39,.agg [(i_ 0),(i_ 0)])] ),Qp Γ.n0 (bxs [(4,.cells ((Qd a1))),(11,.cells ((Qn x9))),(36,.mp (mapE (fun (x:Qh)=>(.agg (Q0 x):V)) (fun (x:List Int)=>((l_ x):V)) 0 (setM ([]:List (Qh×(List Int))) (Qh.mk 0 0) [])) ((setM ([]:List (Qh×(List Int))) (Qh.mk 0 0) [])).length)]) M,Γ.n0 + 131⟩; exact Q8y 40 13 [.int .i64 0,.int .i64 0] rfl rfl rfl rfl rfl ⟨(sm rfl),(sm rfl),(sm rfl),(sm rfl),(kPtr rfl),(sm rfl),(sm rfl),(sm rfl),(kPtr rfl),(kMp rfl),(sm rfl),(sm rfl),(sm rfl),(sm rfl),(sm rfl),(sm rfl),(sm rfl),(sm rfl),(sm rfl),(sm rfl),(sm rfl),(sm rfl),(kPtr rfl),(sm rfl),(sm rfl),(kMp rfl),(sm rfl),(kMp rfl),(sm rfl),tv⟩ ⟨⟨_,rfl,rfl,(.same rfl)⟩,⟨_,rfl,rfl,(.same rfl)⟩,⟨rfl,rfl⟩,tv⟩ rfl) ?_
    refine Tr.loop (mk:=fun ((l14,c15):(List Qh)×(List (Qh×(List Int))))=>⟨look [(2,(l_ observation3)),(3,(b_ marked4)),(4,.ptr (Γ.n0 + 4) 0),(11,.ptr (Γ.n0 + 11) 0),(12,.mp (Γ.n0 + 36)),(13,.ownT 2 (List.map Qb1 l14))],Qp Γ.n0 (bxs [(4,.cells ((Qd a1))),(11,.cells ((Qn x9))),(36,.mp (mapE (fun (x:Qh)=>(.agg (Q0 x):V)) (fun (x:List Int)=>((l_ x):V)) 0 c15) (c15).length)]) M,Γ.n0 + 131⟩) h (by exact Ql ⟨(sm rfl),(sm rfl),(kPtr rfl),(kPtr rfl),(kMp rfl),(WkV.ownT _ _),tv⟩ ⟨⟨_,rfl,rfl,(.same rfl)⟩,⟨_,rfl,rfl,(.same rfl)⟩,⟨rfl,rfl⟩,tv⟩ rfl) (fun k16 z h=>?_)
    ·obtain ⟨l14,c15⟩:=z
     replace h:_ = some _:=h
     refine Tr.seq (sr ((Rn.mov (v:=.d (.lst 2 (List.map Qb1 l14))) tv rfl (Rn.lenD tv rfl (Rn.bin tv rfl rfl rfl (Rn.nil (toN ?_)))))))
     refine Tr.cond rfl (fun hb17=>?_) (fun hb17=>?_)
     ·replace h:=ifT hb17 h
      refine Tr.skip (toN (Tr.seq (Tr.block (sr ((Rn.mov (v:=.d (.lst 2 (List.map Qb1 l14))) tv rfl ?_))))))
      obtain ⟨x18,h19,h⟩:=bnd h
      refine Rn.idxD (e:=Qb1) tv rfl rfl h19 (Rn.loadCA (vs:=(Q0 x18)) tv rfl rfl rfl (Rn.alloc tv rfl (Rn.store (v:=(Qej x18)) (cs':=(Q0 x18)) tv rfl rfl rfl rfl rfl rfl (nt ((Tr.seq ?_))))))
      refine Tr.cutB (fun (x24:Bool)=>⟨look [(2,(l_ observation3)),(3,(b_ marked4)),(4,.ptr (Γ.n0 + 4) 0),(11,.ptr (Γ.n0 + 11) 0),(12,.mp (Γ.n0 + 36)),(13,.ownT 2 (List.map Qb1 l14)),(14,.ptr (Γ.n0 + 14) 0),(64,(b_ x24))],Qp Γ.n0 (bxs [(4,.cells ((Qd a1))),(11,.cells ((Qn x9))),(14,.cells ((Q0 x18))),(36,.mp (mapE (fun (x:Qh)=>(.agg (Q0 x):V)) (fun (x:List Int)=>((l_ x):V)) 0 c15) (c15).length)]) M,Γ.n0 + 131⟩) h (fun z h=>?_) (fun z h=>?_)
      ·refine Tr.rgn (Rn.fldP (o':=1) tv rfl rfl (Rn.load (v:=(i_ x18.done_)) tv rfl (Qm rfl) rfl rfl (md rfl (Rn.lenD tv rfl (Rn.bin tv rfl rfl rfl (md rfl ?_))))))
       refine Qc0 (x18.done_ == (observation3.length:Int)) (fun hb20=>?_) (fun hb20=>?_)
       ·replace h:=bT hb20 h
        refine Rn.movD (gw rfl hb20) rfl (Rn.un (gw rfl hb20) rfl rfl (Rn.movD (gw rfl hb20) rfl ?_))
        refine Qc0 marked4 (fun hb21=>?_) (fun hb21=>?_)
        ·replace h:=bT hb21 h
         refine Rn.fldP (o':=2) (gw rfl (nT hb21)) rfl rfl (Rn.load (v:=(l_ a1.Marked)) (gw rfl (nT hb21)) rfl (Qm rfl) rfl rfl (Rn.fldP (o':=0) (gw rfl (nT hb21)) rfl rfl (Rn.load (v:=(i_ x18.state_)) (gw rfl (nT hb21)) rfl (Qm rfl) rfl rfl ?_)))
         obtain ⟨x23,h22,h⟩:=bnd h
         refine Rn.call (args:=[(l_ a1.Marked),(i_ x18.state_)]) (gw rfl (nT hb21)) rfl (H_slices_Contains_int _ _ _ h22) pc9 (Rn.pickF (v:=(b_ x23)) (gw rfl hb20) rfl (nT hb21) rfl (Rn.pickT (v:=(b_ x23)) tv rfl hb20 rfl (Rn.nil ?_)))
         replace h:=si h; subst h
         exact Qj [] ⟨(sm rfl),(sm rfl),(kPtr rfl),(kPtr rfl),(kMp rfl),(sm rfl),(kPtr rfl),(sm rfl),tv⟩ ⟨⟨_,rfl,rfl,(.same rfl)⟩,⟨_,rfl,rfl,(.same rfl)⟩,⟨_,rfl,rfl,(.same rfl)⟩,⟨rfl,rfl⟩,tv⟩ rfl
        ·replace h:=bF hb21 h
         refine Rn.sk (nw rfl (nF hb21)) (Rn.sk (nw rfl (nF hb21)) (Rn.sk (nw rfl (nF hb21)) (Rn.sk (nw rfl (nF hb21)) (Rn.sk (nw rfl (nF hb21)) (Rn.pickT (v:=(b_ true)) (gw rfl hb20) rfl (nF hb21) rfl (Rn.pickT (v:=(b_ true)) tv rfl hb20 rfl (Rn.nil ?_)))))))
         replace h:=si h; subst h
         exact Qj [] ⟨(sm rfl),(sm rfl),(kPtr rfl),(kPtr rfl),(kMp rfl),(sm rfl),(kPtr rfl),(sm rfl),tv⟩ ⟨⟨_,rfl,rfl,(.same rfl)⟩,⟨_,rfl,rfl,(.same rfl)⟩,⟨_,rfl,rfl,(.same rfl)⟩,⟨rfl,rfl⟩,tv⟩ rfl
       ·replace h:=bF hb20 h
        refine Rn.sk (nw rfl hb20) (Rn.sk (nw rfl hb20) (Rn.sk (nw rfl hb20) (Rn.sk (nu rfl) (Rn.sk (nu rfl) (Rn.sk (nu rfl) (Rn.sk (nu rfl) (Rn.sk (nu rfl) (Rn.sk (nw rfl hb20) (Rn.pickF (v:=(b_ false)) tv rfl hb20 rfl (Rn.nil ?_))))))))))
        replace h:=si h; subst h
        exact Qj [] ⟨(sm rfl),(sm rfl),(kPtr rfl),(kPtr rfl),(kMp rfl),(sm rfl),(kPtr rfl),(sm rfl),tv⟩ ⟨⟨_,rfl,rfl,(.same rfl)⟩,⟨_,rfl,rfl,(.same rfl)⟩,⟨_,rfl,rfl,(.same rfl)⟩,⟨rfl,rfl⟩,tv⟩ rfl
      ·obtain ⟨x24,rfl⟩ : ∃ x,x = z:=⟨_,rfl⟩
       refine Tr.cond rfl (fun hb25=>?_) (fun hb25=>?_)
       ·replace h:=bT hb25 h
        refine sr ((Rn.mov (v:=.mp (Γ.n0 + 36)) tv rfl (Rn.load (v:=(Qej x18)) tv rfl (Qm rfl) rfl rfl (Rn.lookup (ek:=(fun (x:Qh)=>(.agg (Q0 x):V))) (ev:=(fun (x:List Int)=>((l_ x):V))) (m:=c15) (k:=x18) Qed (fun _=>rfl) (fun _=>rfl) [] rfl tv rfl rfl rfl (Rn.movTD tv rfl (md rfl (md rfl (nt ((Tr.ret ?_))))))))))
        replace h:=si h; subst h
        exact ⟨.inr rfl,.tup [(l_ (getM c15 x18 [])),(b_ true),(i_ 0)],res3 rfl rfl rfl,(WkV.tup (.cons (.same rfl) (.cons (.same rfl) (.cons (.same rfl) .nil)))).rd,⟨tv,tv,tv,tv⟩,fun k hk=>Qf hk⟩
       ·replace h:=bF hb25 h
        refine Tr.skip (toN (sr ((Rn.fldP (o':=0) tv rfl rfl (Rn.load (v:=.d (.lst 1 (List.map (eL 3 Qc) x9.out_))) tv rfl (Qm rfl) rfl rfl (Rn.fldP (o':=0) tv rfl rfl (Rn.load (v:=(i_ x18.state_)) tv rfl (Qm rfl) rfl rfl ?_)))))))
        obtain ⟨x26,h27,h⟩:=bnd h
        refine Rn.idxD (e:=(eL 3 Qc)) tv rfl rfl h27 (Rn.loadC (x:=.lst 3 (List.map Qc x26)) tv rfl (Rn.lenD tv rfl (md rfl (nt ((Tr.block ?_))))))
        refine Tr.loop (mk:=fun ((l28,x29,c30):(List Qh)×Int×(List (Qh×(List Int))))=>⟨look [(2,(l_ observation3)),(3,(b_ marked4)),(4,.ptr (Γ.n0 + 4) 0),(11,.ptr (Γ.n0 + 11) 0),(12,.mp (Γ.n0 + 36)),(13,.ownT 2 (List.map Qb1 l28)),(14,.ptr (Γ.n0 + 14) 0),(73,.d (.lst 3 (List.map Qc x26))),(74,(i_ (x26.length:Int))),(75,(i_ x29))],Qp Γ.n0 (bxs [(4,.cells ((Qd a1))),(11,.cells ((Qn x9))),(14,.cells ((Q0 x18))),(36,.mp (mapE (fun (x:Qh)=>(.agg (Q0 x):V)) (fun (x:List Int)=>((l_ x):V)) 0 c30) (c30).length)]) M,Γ.n0 + 131⟩) h (by exact Ql ⟨(sm rfl),(sm rfl),(kPtr rfl),(kPtr rfl),(kMp rfl),(sm rfl),(kPtr rfl),(sm rfl),(sm rfl),(sm rfl),tv⟩ ⟨⟨_,rfl,rfl,(.same rfl)⟩,⟨_,rfl,rfl,(.same rfl)⟩,⟨_,rfl,rfl,(.same rfl)⟩,⟨rfl,rfl⟩,tv⟩ rfl) (fun k31 z h=>?_)
        ·obtain ⟨l28,x29,c30⟩:=z
         replace h:_ = some _:=h
         refine sr ((Rn.bin tv rfl rfl rfl (nt ((Tr.seq ?_)))))
         refine Tr.cond rfl (fun hb32=>?_) (fun hb32=>?_)
         ·replace h:=ifT hb32 h
          refine Tr.skip (toN ?_)
          refine Tr.cutB (fun ((l52,c53,c54,c55,c56,q57,q58):(List Qh)×(List (Qh×(List Int)))×Int×Int×Int×Int×Int)=>⟨look [(2,(l_ observation3)),(3,(b_ marked4)),(4,.ptr (Γ.n0 + 4) 0),(11,.ptr (Γ.n0 + 11) 0),(12,.mp (Γ.n0 + 36)),(13,.ownT 2 (List.map Qb1 l52)),(14,.ptr (Γ.n0 + 14) 0),(73,.d (.lst 3 (List.map Qc x26))),(74,(i_ (x26.length:Int))),(75,(i_ x29))],Qp Γ.n0 (bxs [(4,.cells ((Qd a1))),(11,.cells ((Qn x9))),(14,.cells ((Q0 x18))),(16,.cells ([(i_ c54),(i_ c55),(i_ c56)])),(17,.cells ([(i_ q57),(i_ q58)])),(36,.mp (mapE (fun (x:Qh)=>(.agg (Q0 x):V)) (fun (x:List Int)=>((l_ x):V)) 0 c53) (c53).length)]) M,Γ.n0 + 131⟩) h (fun z h=>?_) (fun z h=>?_)
          ·refine Tr.block (Tr.seq (Tr.rgn ?_))
           obtain ⟨x33,h34,h⟩:=bnd h
           refine Rn.idxD (e:=Qc) tv rfl rfl h34 (Rn.loadCA (vs:=(Qbj x33)) tv rfl rfl rfl (Rn.alloc tv rfl (Rn.store (v:=(Qbs x33)) (cs':=(Qbj x33)) tv rfl rfl rfl rfl rfl rfl (nt ((sr ((Rn.fldP (o':=2) tv rfl rfl (Rn.load (v:=(i_ x33.To)) tv rfl (Qm rfl) rfl rfl (Rn.fldP (o':=1) tv rfl rfl (Rn.load (v:=(i_ x18.done_)) tv rfl (Qm rfl) rfl rfl (Rn.build (v:=.agg [(i_ x33.To),(i_ x18.done_)]) tv rfl (Rn.alloc tv rfl (Rn.store (v:=.agg [(i_ x33.To),(i_ x18.done_)]) (cs':=[(i_ x33.To),(i_ x18.done_)]) tv rfl rfl rfl rfl rfl rfl (Rn.nil (toN ?_))))))))))))))))
           refine Tr.cutJ (fun (q43:Int)=>⟨look [(2,(l_ observation3)),(3,(b_ marked4)),(4,.ptr (Γ.n0 + 4) 0),(11,.ptr (Γ.n0 + 11) 0),(12,.mp (Γ.n0 + 36)),(13,.ownT 2 (List.map Qb1 l28)),(14,.ptr (Γ.n0 + 14) 0),(16,.ptr (Γ.n0 + 16) 0),(17,.ptr (Γ.n0 + 17) 0),(73,.d (.lst 3 (List.map Qc x26))),(74,(i_ (x26.length:Int))),(75,(i_ x29))],Qp Γ.n0 (bxs [(4,.cells ((Qd a1))),(11,.cells ((Qn x9))),(14,.cells ((Q0 x18))),(16,.cells ((Qbj x33))),(17,.cells ([(i_ x33.To),(i_ q43)])),(36,.mp (mapE (fun (x:Qh)=>(.agg (Q0 x):V)) (fun (x:List Int)=>((l_ x):V)) 0 c30) (c30).length)]) M,Γ.n0 + 131⟩) h (fun J51 h=>?_) (fun z h=>?_)
           ·refine sr ((Rn.fldP (o':=1) tv rfl rfl (Rn.load (v:=(l_ x9.kept_)) tv rfl (Qm rfl) rfl rfl (Rn.fldP (o':=1) tv rfl rfl (Rn.load (v:=(i_ x33.Event)) tv rfl (Qm rfl) rfl rfl ?_)))))
            obtain ⟨x36,h35,h⟩:=bnd h
            refine Rn.call (args:=[(l_ x9.kept_),(i_ x33.Event)]) tv rfl (H_slices_Contains_int _ _ _ h35) pc9 (Rn.nil (toN ?_))
            refine Tr.cond rfl (fun hb37=>?_) (fun hb37=>?_)
            ·replace h:=bT hb37 h
             refine Tr.seq ?_
             refine Tr.cutB (fun (x41:Bool)=>⟨look [(2,(l_ observation3)),(3,(b_ marked4)),(4,.ptr (Γ.n0 + 4) 0),(11,.ptr (Γ.n0 + 11) 0),(12,.mp (Γ.n0 + 36)),(13,.ownT 2 (List.map Qb1 l28)),(14,.ptr (Γ.n0 + 14) 0),(16,.ptr (Γ.n0 + 16) 0),(17,.ptr (Γ.n0 + 17) 0),(73,.d (.lst 3 (List.map Qc x26))),(74,(i_ (x26.length:Int))),(75,(i_ x29)),(103,(b_ x41))],Qp Γ.n0 (bxs [(4,.cells ((Qd a1))),(11,.cells ((Qn x9))),(14,.cells ((Q0 x18))),(16,.cells ((Qbj x33))),(17,.cells ([(i_ x33.To),(i_ x18.done_)])),(36,.mp (mapE (fun (x:Qh)=>(.agg (Q0 x):V)) (fun (x:List Int)=>((l_ x):V)) 0 c30) (c30).length)]) M,Γ.n0 + 131⟩) h (fun z h=>?_) (fun z h=>?_)
             ·refine Tr.rgnD (by decide) ?_
              refine Rn.fldP (o':=1) tv rfl rfl (Rn.load (v:=(i_ x18.done_)) tv rfl (Qm rfl) rfl rfl (md rfl (Rn.lenD tv rfl (Rn.bin tv rfl rfl rfl (md rfl ?_)))))
              refine Qc0 (x18.done_ == (observation3.length:Int)) (fun hb38=>?_) (fun hb38=>?_)
              ·replace h:=bT hb38 h
               refine Rn.sk (nw rfl hb38) (Rn.sk (nw rfl hb38) (Rn.sk (nw rfl hb38) (Rn.sk (nw rfl hb38) (Rn.sk (nw rfl hb38) (Rn.sk (nw rfl hb38) (Rn.sk (nw rfl hb38) (Rn.sk (nw rfl hb38) (Rn.pickT (v:=(b_ true)) tv rfl hb38 rfl ?_))))))))
               refine Rn.nil ⟨rfl,?_⟩
               replace h:=si h; subst h
               exact Qj [] ⟨(sm rfl),(sm rfl),(kPtr rfl),(kPtr rfl),(kMp rfl),(sm rfl),(kPtr rfl),(kPtr rfl),(kPtr rfl),(sm rfl),(sm rfl),(sm rfl),(sm rfl),tv⟩ ⟨⟨_,rfl,rfl,(.same rfl)⟩,⟨_,rfl,rfl,(.same rfl)⟩,⟨_,rfl,rfl,(.same rfl)⟩,⟨_,rfl,rfl,(.same rfl)⟩,⟨_,rfl,rfl,(.same rfl)⟩,⟨rfl,rfl⟩,tv⟩ rfl
              ·replace h:=bF hb38 h
               refine Rn.movD (gw rfl hb38) rfl (Rn.fldP (o':=1) (gw rfl hb38) rfl rfl (Rn.load (v:=(i_ x18.done_)) (gw rfl hb38) rfl (Qm rfl) rfl rfl ?_))
               obtain ⟨x39,h40,h⟩:=bnd h
               refine Rn.idxD (e:=(eI .i64)) (gw rfl hb38) rfl rfl h40 (Rn.loadC (x:=.int .i64 x39) (gw rfl hb38) rfl (Rn.fldP (o':=1) (gw rfl hb38) rfl rfl (Rn.load (v:=(i_ x33.Event)) (gw rfl hb38) rfl (Qm rfl) rfl rfl (Rn.bin (gw rfl hb38) rfl rfl rfl (Rn.pickF (v:=(b_ (x39 != x33.Event))) tv rfl hb38 rfl ?_)))))
               refine Rn.nil ⟨rfl,?_⟩
               replace h:=si h; subst h
               exact Qj [] ⟨(sm rfl),(sm rfl),(kPtr rfl),(kPtr rfl),(kMp rfl),(sm rfl),(kPtr rfl),(kPtr rfl),(kPtr rfl),(sm rfl),(sm rfl),(sm rfl),(sm rfl),tv⟩ ⟨⟨_,rfl,rfl,(.same rfl)⟩,⟨_,rfl,rfl,(.same rfl)⟩,⟨_,rfl,rfl,(.same rfl)⟩,⟨_,rfl,rfl,(.same rfl)⟩,⟨_,rfl,rfl,(.same rfl)⟩,⟨rfl,rfl⟩,tv⟩ rfl
             ·obtain ⟨x41,rfl⟩ : ∃ x,x = z:=⟨_,rfl⟩
              refine Tr.cond rfl (fun hb42=>?_) (fun hb42=>?_)
              ·replace h:=bT hb42 h
               refine Tr.exit ?_
               replace h:=si h; subst h
               exact Qj [] ⟨(sm rfl),(sm rfl),(kPtr rfl),(kPtr rfl),(kMp rfl),(sm rfl),(kPtr rfl),(sm rfl),(sm rfl),(sm rfl),tv⟩ ⟨⟨_,rfl,rfl,(.same rfl)⟩,⟨_,rfl,rfl,(.same rfl)⟩,⟨_,rfl,rfl,(.same rfl)⟩,⟨_,rfl,rfl,(.same rfl)⟩,⟨_,rfl,rfl,(.same rfl)⟩,⟨rfl,rfl⟩,tv⟩ rfl
              ·replace h:=bF hb42 h
               refine Tr.skip (toN (Tr.rgn (Rn.fldP (o':=1) tv rfl rfl (Rn.load (v:=(i_ x18.done_)) tv rfl (Qm rfl) rfl rfl (Rn.bin tv rfl rfl rfl (Rn.fldP (o':=1) tv rfl rfl (Rn.store (v:=(i_ (IntKind.wrap .i64 (x18.done_ + 1)))) (cs':=[(i_ x33.To),(i_ (IntKind.wrap .i64 (x18.done_ + 1)))]) tv rfl rfl rfl rfl rfl rfl (Rn.nil ?_))))))))
               exact ⟨_,h,(by exact Qj [] ⟨(sm rfl),(sm rfl),(kPtr rfl),(kPtr rfl),(kMp rfl),(sm rfl),(kPtr rfl),(kPtr rfl),(kPtr rfl),(sm rfl),(sm rfl),(sm rfl),tv⟩ ⟨⟨_,rfl,rfl,(.same rfl)⟩,⟨_,rfl,rfl,(.same rfl)⟩,⟨_,rfl,rfl,(.same rfl)⟩,⟨_,rfl,rfl,(.same rfl)⟩,⟨_,rfl,rfl,(.same rfl)⟩,⟨rfl,rfl⟩,tv⟩ rfl)⟩
            ·replace h:=bF hb37 h
             refine Tr.skip ?_
             exact ⟨_,h,(by exact Qj [] ⟨(sm rfl),(sm rfl),(kPtr rfl),(kPtr rfl),(kMp rfl),(sm rfl),(kPtr rfl),(kPtr rfl),(kPtr rfl),(sm rfl),(sm rfl),(sm rfl),tv⟩ ⟨⟨_,rfl,rfl,(.same rfl)⟩,⟨_,rfl,rfl,(.same rfl)⟩,⟨_,rfl,rfl,(.same rfl)⟩,⟨_,rfl,rfl,(.same rfl)⟩,⟨_,rfl,rfl,(.same rfl)⟩,⟨rfl,rfl⟩,tv⟩ rfl)⟩
           ·obtain ⟨q43,rfl⟩ : ∃ x,x = z:=⟨_,rfl⟩
            refine sr ((Rn.mov (v:=.mp (Γ.n0 + 36)) tv rfl (Rn.load (v:=.agg [(i_ x33.To),(i_ q43)]) tv rfl (Qm rfl) rfl rfl (Rn.lookupC (ek:=(fun (x:Qh)=>(.agg (Q0 x):V))) (ev:=(fun (x:List Int)=>((l_ x):V))) (m:=c30) (k:=(Qh.mk x33.To q43)) Qed (fun _=>rfl) (fun _=>rfl) [] rfl tv rfl rfl rfl (Rn.mov (v:=.tup [(l_ (getM c30 (Qh.mk x33.To q43) [])),(b_ (hasM c30 (Qh.mk x33.To q43)))]) tv rfl (Rn.extTD (vs:=[(l_ (getM c30 (Qh.mk x33.To q43) [])),(b_ (hasM c30 (Qh.mk x33.To q43)))]) tv rfl rfl rfl (Rn.ext (v:=(b_ (hasM c30 (Qh.mk x33.To q43)))) (vs:=[(l_ (getM c30 (Qh.mk x33.To q43) [])),(b_ (hasM c30 (Qh.mk x33.To q43)))]) tv rfl rfl rfl (Rn.movTD tv rfl (md rfl (nt ((sr ((md rfl (Rn.un tv rfl rfl (Rn.nil (toN ?_)))))))))))))))))
            refine Tr.cond rfl (fun hb44=>?_) (fun hb44=>?_)
            ·have hb44:=nT' hb44
             replace h:=bF hb44 h
             refine Tr.seq ?_
             refine Tr.rgnD (by decide) ?_
             refine Rn.mov (v:=.mp (Γ.n0 + 36)) tv rfl (Rn.load (v:=.agg [(i_ x33.To),(i_ q43)]) tv rfl (Qm rfl) rfl rfl (Rn.mov (v:=.mp (Γ.n0 + 36)) tv rfl (Rn.load (v:=(Qej x18)) tv rfl (Qm rfl) rfl rfl (Rn.lookup (ek:=(fun (x:Qh)=>(.agg (Q0 x):V))) (ev:=(fun (x:List Int)=>((l_ x):V))) (m:=c30) (k:=x18) Qed (fun _=>rfl) (fun _=>rfl) [] rfl tv rfl rfl rfl ?_))))
             obtain ⟨x46,h45,h⟩:=bnd h
             refine Rn.call (args:=[(l_ (getM c30 x18 []))]) tv rfl (H_slices_Clone_int _ _ h45) (fun _=>Q1l hM rfl) (Rn.fldP (o':=1) tv rfl rfl (Rn.load (v:=(i_ x33.Event)) tv rfl (Qm rfl) rfl rfl (Rn.bslice (xs:=[(i_ x33.Event)]) (cs:=[(i_ x33.Event)]) tv rfl rfl rfl rfl ?_)))
             obtain ⟨x47,h48,h⟩:=bnd h
             refine Rn.app (e:=(eI .i64)) tv rfl rfl rfl (Qcm rfl rfl rfl) h48 rfl (Rn.mapset (ek:=(fun (x:Qh)=>(.agg (Q0 x):V))) (ev:=(fun (x:List Int)=>((l_ x):V))) (m:=c30) (k:=(Qh.mk x33.To q43)) (v:=x47) Qed (fun _=>rfl) (fun _=>rfl) tv rfl rfl rfl rfl rfl ?_)
             refine Rn.nil ⟨rfl,?_⟩
             refine toN (Tr.rgn (Rn.movTOT tv rfl (Rn.load (v:=.agg [(i_ x33.To),(i_ q43)]) tv rfl (Qm rfl) rfl rfl (Rn.bslice (xs:=[.agg [(i_ x33.To),(i_ q43)]]) (cs:=[(i_ x33.To),(i_ q43)]) tv rfl rfl rfl rfl ?_))))
             obtain ⟨x49,h50,h⟩:=bnd h
             refine Rn.appT (e:=Qb1) tv rfl rfl rfl (Qcm rfl rfl rfl) h50 rfl (Rn.movTOT tv rfl (Rn.nil ?_))
             replace h:=si h; subst h
             exact Qj [124,128] ⟨(sm rfl),(sm rfl),(kPtr rfl),(kPtr rfl),(kMp rfl),(sm rfl),(kPtr rfl),(sm rfl),(sm rfl),(sm rfl),tv⟩ ⟨⟨_,rfl,rfl,(.same rfl)⟩,⟨_,rfl,rfl,(.same rfl)⟩,⟨_,rfl,rfl,(.same rfl)⟩,⟨_,rfl,rfl,(.same rfl)⟩,⟨_,rfl,rfl,(.same rfl)⟩,⟨rfl,rfl⟩,tv⟩ rfl
            ·have hb44:=nF' hb44
             replace h:=bT hb44 h
             refine Tr.skip ?_
             replace h:=si h; subst h
             exact Qj [] ⟨(sm rfl),(sm rfl),(kPtr rfl),(kPtr rfl),(kMp rfl),(sm rfl),(kPtr rfl),(sm rfl),(sm rfl),(sm rfl),tv⟩ ⟨⟨_,rfl,rfl,(.same rfl)⟩,⟨_,rfl,rfl,(.same rfl)⟩,⟨_,rfl,rfl,(.same rfl)⟩,⟨_,rfl,rfl,(.same rfl)⟩,⟨_,rfl,rfl,(.same rfl)⟩,⟨rfl,rfl⟩,tv⟩ rfl
          ·obtain ⟨l52,c53,c54,c55,c56,q57,q58⟩:=z
           refine Tr.rgn (Rn.bin tv rfl rfl rfl (md rfl (Rn.nil ?_)))
           exact ⟨_,h,(by exact Ql ⟨(sm rfl),(sm rfl),(kPtr rfl),(kPtr rfl),(kMp rfl),(sm rfl),(kPtr rfl),(sm rfl),(sm rfl),(sm rfl),tv⟩ ⟨⟨_,rfl,rfl,(.same rfl)⟩,⟨_,rfl,rfl,(.same rfl)⟩,⟨_,rfl,rfl,(.same rfl)⟩,⟨rfl,rfl⟩,tv⟩ rfl)⟩
         ·replace h:=ifF hb32 h
          refine Tr.exit (toN (Tr.rgn (Rn.movTOT tv rfl ?_)))
          obtain ⟨x59,h60,h⟩:=bnd h
          refine Rn.slcT (e:=Qb1) tv (.inr rfl) rfl h60 (Rn.movTOT tv rfl (Rn.nil ?_))
          exact ⟨_,h,(by exact Ql ⟨(sm rfl),(sm rfl),(kPtr rfl),(kPtr rfl),(kMp rfl),(sm rfl),tv⟩ ⟨⟨_,rfl,rfl,(.same rfl)⟩,⟨_,rfl,rfl,(.same rfl)⟩,⟨rfl,rfl⟩,tv⟩ rfl)⟩
     ·replace h:=ifF hb17 h
      refine Tr.exit (toN (sr ((Rn.movTC (v:=.nils 1) tv (md rfl (md rfl (nt ((Tr.ret ?_)))))))))
      replace h:=si h; subst h
      exact ⟨.inr rfl,.tup [.nils 1,(b_ false),(i_ 0)],res3 rfl rfl rfl,(WkV.tup (.cons (WkV.nilsD _) (.cons (.same rfl) (.cons (.same rfl) .nil)))).rd,⟨tv,tv,tv,tv⟩,fun k hk=>Qf hk⟩
theorem Q0s {P:Program} {c:Nat} (hcf:Qu P c = some Qi5):Qi4 P c (Qc1):=by
 intro s1 r h
 refine Qcf hcf rfl fun Γ M hP hnt hM=>?_
 subst hP
 refine Tr.init [(0,.d (.lst 3 (List.map Qc s1)))] rfl ?_
 unfold Qc1 at h
 unfold Qi5
 refine sr ((Rn.movTC (v:=.nils 3) tv (nt ((Tr.seq (sr ((md rfl ?_))))))))
 refine Rn.isnil (e:=Qc) tv rfl h (fun b2 h=>?_)
 refine Rn.nil (toN ?_)
 refine Tr.cond rfl (fun hb3=>?_) (fun hb3=>?_)
 ·replace h:=bT hb3 h
  refine sr ((Rn.movTC (v:=.nils 3) tv (nt ((Tr.ret ?_)))))
  replace h:=si h; subst h
  exact ⟨.inr rfl,(.nils 3),rfl,(WkV.nilsO _).rd,tv,fun k hk=>Qf hk⟩
 ·replace h:=bF hb3 h
  refine Tr.skip (toN (sr ((Rn.bslice (xs:=[]) (cs:=[]) tv rfl rfl rfl rfl (md rfl ?_)))))
  obtain ⟨x4,h5,h⟩:=bnd h
  refine Rn.app0 (e:=Qc) tv rfl rfl rfl rfl Q1k h5 rfl (Rn.movTO tv rfl (nt ((Tr.ret ?_))))
  replace h:=si h; subst h
  exact ⟨.inr rfl,(.own 3 (List.map Qc x4)),rfl,fun _ _ _ _ h=>h,tv,fun k hk=>Qf hk⟩
theorem Q0t {P:Program} {c:Nat} {f_slices_Grow_int:Int→Option ((List Int))}
    (H_slices_Grow_int:K_slices_Grow_int P 91 f_slices_Grow_int) (hcf:Qu P c = some Qi7) (fuel:Nat):Qi6 P c (Qc2 f_slices_Grow_int fuel):=by
 intro slices1 r h
 refine Qcf hcf rfl fun Γ M hP hnt hM=>?_
 subst hP
 refine Tr.init [(0,.d (.lst 1 (List.map (eL 1 (eI .i64)) slices1)))] rfl ?_
 unfold Qc2 at h
 unfold Qi7
 refine sr ((Rn.movTC (v:=.nils 1) tv (nt ((sr ((md rfl (Rn.nil (toN ?_)))))))))
 refine Tr.cutB (fun (size9:Int)=>⟨look [(0,.d (.lst 1 (List.map (eL 1 (eI .i64)) slices1))),(3,(i_ size9))],Qp Γ.n0 (bxs []) M,Γ.n0 + 36⟩) h (fun z h=>?_) (fun z h=>?_)
 ·refine sr ((md rfl (Rn.lenD tv rfl (md rfl (nt ((Tr.block ?_)))))))
  refine Tr.loop (mk:=fun ((size2,x3):Int×Int)=>⟨look [(0,.d (.lst 1 (List.map (eL 1 (eI .i64)) slices1))),(3,(i_ size2)),(9,.d (.lst 1 (List.map (eL 1 (eI .i64)) slices1))),(10,(i_ (slices1.length:Int))),(11,(i_ x3))],Qp Γ.n0 (bxs []) M,Γ.n0 + 36⟩) h (by exact Ql ⟨(sm rfl),(sm rfl),(sm rfl),(sm rfl),(sm rfl),tv⟩ tv rfl) (fun k4 z h=>?_)
  ·obtain ⟨size2,x3⟩:=z
   replace h:_ = some _:=h
   refine sr ((Rn.bin tv rfl rfl rfl (nt ((Tr.seq ?_)))))
   refine Tr.cond rfl (fun hb5=>?_) (fun hb5=>?_)
   ·replace h:=ifT hb5 h
    refine Tr.skip (toN (Tr.seq (Tr.block (Tr.seq (Tr.rgn ?_)))))
    obtain ⟨x6,h7,h⟩:=bnd h
    refine Rn.idxD (e:=(eL 1 (eI .i64))) tv rfl rfl h7 (Rn.loadC (x:=.lst 1 (List.map (eI .i64) x6)) tv rfl (Rn.movTD tv rfl (nt ((sr ((md rfl (md rfl (Rn.lenD tv rfl (Rn.bin tv rfl rfl rfl (md rfl (nt ((sr ((md rfl (Rn.bin tv rfl rfl rfl (Rn.nil (toN ?_)))))))))))))))))))
    refine Tr.cond rfl (fun hb8=>?_) (fun hb8=>?_)
    ·replace h:=ifT hb8 h
     cases h
    ·replace h:=ifF hb8 h
     refine Tr.skip (toN (Tr.rgn (Rn.bin tv rfl rfl rfl (md rfl (Rn.nil ?_)))))
     exact ⟨_,h,(by exact Ql ⟨(sm rfl),(sm rfl),(sm rfl),(sm rfl),(sm rfl),tv⟩ tv rfl)⟩
   ·replace h:=ifF hb5 h
    refine Tr.exit ?_
    replace h:=si h; subst h
    exact Qj [] ⟨(sm rfl),(sm rfl),tv⟩ tv rfl
 ·obtain ⟨size9,rfl⟩ : ∃ x,x = z:=⟨_,rfl⟩
  refine sr ((md rfl ?_))
  obtain ⟨x11,h10,h⟩:=bnd h
  refine Rn.call (args:=[.nils 1,(i_ size9)]) tv rfl (H_slices_Grow_int _ _ h10) pc9 (Rn.movTO tv rfl (Rn.nil (toN ?_)))
  refine Tr.cutB (fun (newslice20:List Int)=>⟨look [(6,(o_ newslice20))],Qp Γ.n0 (bxs []) M,Γ.n0 + 36⟩) h (fun z h=>?_) (fun z h=>?_)
  ·refine sr ((md rfl (Rn.lenD tv rfl (md rfl (nt ((Tr.block ?_)))))))
   refine Tr.loop (mk:=fun ((newslice12,x13):(List Int)×Int)=>⟨look [(6,(o_ newslice12)),(25,.d (.lst 1 (List.map (eL 1 (eI .i64)) slices1))),(26,(i_ (slices1.length:Int))),(27,(i_ x13))],Qp Γ.n0 (bxs []) M,Γ.n0 + 36⟩) h (by exact Ql ⟨(sm rfl),(sm rfl),(sm rfl),(sm rfl),tv⟩ tv rfl) (fun k14 z h=>?_)
   ·obtain ⟨newslice12,x13⟩:=z
    replace h:_ = some _:=h
    refine sr ((Rn.bin tv rfl rfl rfl (nt ((Tr.seq ?_)))))
    refine Tr.cond rfl (fun hb15=>?_) (fun hb15=>?_)
    ·replace h:=ifT hb15 h
     refine Tr.skip (toN (Tr.seq (Tr.block (Tr.seq (Tr.rgn ?_)))))
     obtain ⟨x16,h17,h⟩:=bnd h
     refine Rn.idxD (e:=(eL 1 (eI .i64))) tv rfl rfl h17 (Rn.loadC (x:=.lst 1 (List.map (eI .i64) x16)) tv rfl (Rn.movTD tv rfl (nt ((Tr.rgn (Rn.movTO tv rfl (md rfl ?_)))))))
     obtain ⟨x18,h19,h⟩:=bnd h
     refine Rn.app (e:=(eI .i64)) tv rfl rfl rfl Q1k h19 rfl (Rn.movTO tv rfl (nt ((Tr.rgn (Rn.bin tv rfl rfl rfl (md rfl (Rn.nil ?_)))))))
     exact ⟨_,h,(by exact Ql ⟨(sm rfl),(sm rfl),(sm rfl),(sm rfl),tv⟩ tv rfl)⟩
    ·replace h:=ifF hb15 h
     refine Tr.exit ?_
     replace h:=si h; subst h
     exact Qj [] ⟨(sm rfl),tv⟩ tv rfl
  ·obtain ⟨newslice20,rfl⟩ : ∃ x,x = z:=⟨_,rfl⟩
   refine sr ((Rn.movTO tv rfl (Rn.movTO tv rfl (nt ((Tr.ret ?_))))))
   replace h:=si h; subst h
   exact ⟨.inr rfl,(o_ newslice20),rfl,fun _ _ _ _ h=>h,tv,fun k hk=>Qf hk⟩
theorem Qsm {P:Program} {c:Nat} (hcf:Qu P c = some Qg7):Qlp P c (Qg8):=by
 intro x1 y2 r h
 refine Qcf hcf rfl fun Γ M hP hnt hM=>?_
 subst hP
 refine Tr.init [(0,(Qbs x1)),(1,(Qbs y2))] rfl ?_
 unfold Qg8 at h
 unfold Qg7
 refine sr ((Rn.box (v:=(Qbs x1)) (cs:=(Qbj x1)) tv rfl rfl rfl rfl rfl (Rn.box (v:=(Qbs y2)) (cs:=(Qbj y2)) tv rfl rfl rfl rfl rfl (md rfl (nt ((Tr.seq (sr ((Rn.fldP (o':=0) tv rfl rfl (Rn.load (v:=(i_ x1.From)) tv rfl (Qm rfl) rfl rfl (Rn.fldP (o':=0) tv rfl rfl (Rn.load (v:=(i_ y2.From)) tv rfl (Qm rfl) rfl rfl (Rn.bin tv rfl rfl rfl (Rn.nil (toN ?_))))))))))))))))
 refine Tr.cond rfl (fun hb3=>?_) (fun hb3=>?_)
 ·replace h:=bT hb3 h
  refine sr ((Rn.fldP (o':=0) tv rfl rfl (Rn.load (v:=(i_ x1.From)) tv rfl (Qm rfl) rfl rfl (Rn.fldP (o':=0) tv rfl rfl (Rn.load (v:=(i_ y2.From)) tv rfl (Qm rfl) rfl rfl (Rn.bin tv rfl rfl rfl (md rfl (nt ((Tr.ret ?_))))))))))
  replace h:=si h; subst h
  exact ⟨.inr rfl,(i_ (IntKind.wrap .i64 (x1.From - y2.From))),rfl,fun _ _ _ _ h=>h,tv,fun k hk=>Qf hk⟩
 ·replace h:=bF hb3 h
  refine Tr.skip (toN (sr ((Rn.fldP (o':=1) tv rfl rfl (Rn.load (v:=(i_ x1.Event)) tv rfl (Qm rfl) rfl rfl (Rn.fldP (o':=1) tv rfl rfl (Rn.load (v:=(i_ y2.Event)) tv rfl (Qm rfl) rfl rfl (Rn.bin tv rfl rfl rfl (md rfl (nt ((Tr.ret ?_))))))))))))
  replace h:=si h; subst h
  exact ⟨.inr rfl,(i_ (IntKind.wrap .i64 (x1.Event - y2.Event))),rfl,fun _ _ _ _ h=>h,tv,fun k hk=>Qf hk⟩
theorem Q88 {P:Program} {c:Nat} (hcf:Qu P c = some Qpu):Qpt P c (Qds):=by
 intro x1 r h
 refine Qcf hcf rfl fun Γ M hP hnt hM=>?_
 subst hP
 refine Tr.init [(0,(i_ x1))] rfl ?_
 unfold Qds at h
 unfold Qpu
 refine sr ((md rfl (nt ((sr ((md rfl (md rfl (Rn.bin tv rfl rfl rfl (md rfl (nt ((Tr.ret ?_)))))))))))))
 replace h:=si h; subst h
 exact ⟨.inr rfl,(b_ (x1 != x1)),rfl,fun _ _ _ _ h=>h,tv,fun k hk=>Qf hk⟩
theorem Qbak {P:Program} {c:Nat} {Qds:Int→Option Bool}
    (H_cmp_isNaN_int:Qpt P 121 Qds) (hcf:Qu P c = some Qr3):Qr2 P c (Qe1 Qds):=by
 intro x1 y2 r h
 refine Qcf hcf rfl fun Γ M hP hnt hM=>?_
 subst hP
 refine Tr.init [(0,(i_ x1)),(1,(i_ y2))] rfl ?_
 unfold Qe1 at h
 unfold Qr3
 refine sr ((md rfl (nt ((sr ((md rfl ?_)))))))
 obtain ⟨x4,h3,h⟩:=bnd h
 refine Rn.call (args:=[(i_ x1)]) tv rfl (H_cmp_isNaN_int _ _ h3) pc9 (md rfl ?_)
 refine Qc0 x4 (fun hb5=>?_) (fun hb5=>?_)
 ·replace h:=bT hb5 h
  refine Rn.movD (gw rfl hb5) rfl ?_
  obtain ⟨x7,h6,h⟩:=bnd h
  refine Rn.call (args:=[(i_ y2)]) (gw rfl hb5) rfl (H_cmp_isNaN_int _ _ h6) pc9 (Rn.un (gw rfl hb5) rfl rfl (Rn.pickT (v:=(b_ (!x7))) tv rfl hb5 rfl (md rfl ?_)))
  refine Qc0 x7 (fun hb8=>?_) (fun hb8=>?_)
  ·replace h:=bT hb8 h
   refine Rn.movD (gw rfl (nT hb8)) rfl (Rn.movD (gw rfl (nT hb8)) rfl (Rn.bin (gw rfl (nT hb8)) rfl rfl rfl (Rn.pickF (v:=(b_ (decide (x1 < y2)))) tv rfl (nT hb8) rfl (md rfl (nt ((Tr.ret ?_)))))))
   replace h:=si h; subst h
   exact ⟨.inr rfl,(b_ (decide (x1 < y2))),rfl,fun _ _ _ _ h=>h,tv,fun k hk=>Qf hk⟩
  ·replace h:=bF hb8 h
   refine Rn.sk (nw rfl (nF hb8)) (Rn.sk (nw rfl (nF hb8)) (Rn.sk (nw rfl (nF hb8)) (Rn.pickT (v:=(b_ true)) tv rfl (nF hb8) rfl (md rfl (nt ((Tr.ret ?_)))))))
   replace h:=si h; subst h
   exact ⟨.inr rfl,(b_ true),rfl,fun _ _ _ _ h=>h,tv,fun k hk=>Qf hk⟩
 ·replace h:=bF hb5 h
  refine Rn.sk (nw rfl hb5) (Rn.sk (nw rfl hb5) (Rn.sk (nw rfl hb5) (Rn.pickF (v:=(b_ false)) tv rfl hb5 rfl (md rfl (Rn.movD (gw (b:=false) rfl rfl) rfl (Rn.movD (gw (b:=false) rfl rfl) rfl (Rn.bin (gw (b:=false) rfl rfl) rfl rfl rfl (Rn.pickF (v:=(b_ (decide (x1 < y2)))) tv rfl rfl rfl (md rfl (nt ((Tr.ret ?_))))))))))))
  replace h:=si h; subst h
  exact ⟨.inr rfl,(b_ (decide (x1 < y2))),rfl,fun _ _ _ _ h=>h,tv,fun k hk=>Qf hk⟩
theorem Q25 {P:Program} {c:Nat} (hcf:Qu P c = some Qko):Qkn P c (Qcx):=by
 intro x1 r h
 refine Qcf hcf rfl fun Γ M hP hnt hM=>?_
 subst hP
 refine Tr.init [(0,(i_ x1))] rfl ?_
 unfold Qcx at h
 unfold Qko
 refine sr ((md rfl (nt ((sr ((md rfl (md rfl (Rn.bin tv rfl rfl rfl (md rfl (nt ((Tr.ret ?_)))))))))))))
 replace h:=si h; subst h
 exact ⟨.inr rfl,(b_ (x1 != x1)),rfl,fun _ _ _ _ h=>h,tv,fun k hk=>Qf hk⟩
theorem Qo9 {P:Program} {c:Nat} {Qe1:Int→Int→Option Bool} {Qcx:Int→Option Bool}
    (H_cmp_Less_int:Qr2 P 97 Qe1)
    (H_slices_isNaN_int:Qkn P 98 Qcx) (hcf:Qu P c = some Qfv) (fuel:Nat):Qfu P c (Qbz Qe1 Qcx fuel):=by
 intro x1 target2 r h
 refine Qcf hcf rfl fun Γ M hP hnt hM=>?_
 subst hP
 refine Tr.init [(0,(l_ x1)),(1,(i_ target2))] rfl ?_
 unfold Qbz at h
 unfold Qfv
 refine sr ((md rfl (md rfl (nt ((sr ((md rfl (Rn.lenD tv rfl (md rfl (nt ((sr ((md rfl (md rfl (md rfl (Rn.nil (toN ?_)))))))))))))))))))
 refine Tr.cutB (fun (i12:Int)=>⟨look [(0,(l_ x1)),(1,(i_ target2)),(6,(i_ (x1.length:Int))),(7,(i_ i12))],Qp Γ.n0 (bxs []) M,Γ.n0 + 54⟩) h (fun z h=>?_) (fun z h=>?_)
 ·refine Tr.block ?_
  refine Tr.loop (mk:=fun ((i3,j4):Int×Int)=>⟨look [(0,(l_ x1)),(1,(i_ target2)),(6,(i_ (x1.length:Int))),(7,(i_ i3)),(8,(i_ j4))],Qp Γ.n0 (bxs []) M,Γ.n0 + 54⟩) h (by exact Ql ⟨(sm rfl),(sm rfl),(sm rfl),(sm rfl),(sm rfl),tv⟩ tv rfl) (fun k5 z h=>?_)
  ·obtain ⟨i3,j4⟩:=z
   replace h:_ = some _:=h
   refine Tr.seq (sr ((md rfl (md rfl (Rn.bin tv rfl rfl rfl (Rn.nil (toN ?_)))))))
   refine Tr.cond rfl (fun hb6=>?_) (fun hb6=>?_)
   ·replace h:=ifT hb6 h
    refine Tr.skip (toN (Tr.block (sr ((md rfl (md rfl (Rn.bin tv rfl rfl rfl (Rn.conv tv rfl (Rn.bin tv rfl rfl rfl (Rn.conv tv rfl (md rfl (nt ((sr ((md rfl (md rfl ?_)))))))))))))))))
    obtain ⟨x7,h8,h⟩:=bnd h
    refine Rn.idxD (e:=(eI .i64)) tv rfl rfl h8 (Rn.loadC (x:=.int .i64 x7) tv rfl (md rfl ?_))
    obtain ⟨x10,h9,h⟩:=bnd h
    refine Rn.call (args:=[(i_ x7),(i_ target2)]) tv rfl (H_cmp_Less_int _ _ _ h9) pc9 (Rn.nil (toN ?_))
    refine Tr.cond rfl (fun hb11=>?_) (fun hb11=>?_)
    ·replace h:=bT hb11 h
     refine Tr.rgn (md rfl (Rn.bin tv rfl rfl rfl (md rfl (Rn.nil ?_))))
     exact ⟨_,h,(by exact Ql ⟨(sm rfl),(sm rfl),(sm rfl),(sm rfl),(sm rfl),tv⟩ tv rfl)⟩
    ·replace h:=bF hb11 h
     refine Tr.rgn (md rfl (md rfl (Rn.nil ?_)))
     exact ⟨_,h,(by exact Ql ⟨(sm rfl),(sm rfl),(sm rfl),(sm rfl),(sm rfl),tv⟩ tv rfl)⟩
   ·replace h:=ifF hb6 h
    refine Tr.exit ?_
    replace h:=si h; subst h
    exact Qj [] ⟨(sm rfl),(sm rfl),(sm rfl),(sm rfl),tv⟩ tv rfl
 ·obtain ⟨i12,rfl⟩ : ∃ x,x = z:=⟨_,rfl⟩
  refine sr ((md rfl (md rfl (md rfl (Rn.bin tv rfl rfl rfl (md rfl ?_))))))
  refine Qc0 (decide (i12 < (x1.length:Int))) (fun hb13=>?_) (fun hb13=>?_)
  ·replace h:=ifT hb13 h
   refine Rn.movD (gw rfl hb13) rfl (Rn.movD (gw rfl hb13) rfl ?_)
   obtain ⟨x14,h15,h⟩:=bnd h
   refine Rn.idxD (e:=(eI .i64)) (gw rfl hb13) rfl rfl h15 (Rn.loadC (x:=.int .i64 x14) (gw rfl hb13) rfl (Rn.movD (gw rfl hb13) rfl (Rn.bin (gw rfl hb13) rfl rfl rfl (Rn.movD (gw rfl hb13) rfl ?_))))
   refine Qc0 (x14 == target2) (fun hb16=>?_) (fun hb16=>?_)
   ·replace h:=bT hb16 h
    refine Rn.sk (nw rfl hb16) (Rn.sk (nw rfl hb16) (Rn.sk (nw rfl hb16) (Rn.sk (nw rfl hb16) (Rn.sk (nw rfl hb16) (Rn.sk (nw rfl hb16) (Rn.sk (nu rfl) (Rn.sk (nu rfl) (Rn.sk (nw rfl hb16) (Rn.pickT (v:=(b_ true)) (gw rfl hb13) rfl hb16 rfl (Rn.pickT (v:=(b_ true)) tv rfl hb13 rfl (md rfl (md rfl (nt ((Tr.ret ?_)))))))))))))))
    replace h:=si h; subst h
    exact ⟨.inr rfl,.tup [(i_ i12),(b_ true)],res2 rfl rfl,(WkV.tup (.cons (.same rfl) (.cons (.same rfl) .nil))).rd,⟨tv,tv,tv⟩,fun k hk=>Qf hk⟩
   ·replace h:=bF hb16 h
    refine Rn.movD (gw rfl hb16) rfl (Rn.movD (gw rfl hb16) rfl ?_)
    obtain ⟨x17,h18,h⟩:=bnd h
    refine Rn.idxD (e:=(eI .i64)) (gw rfl hb16) rfl rfl h18 (Rn.loadC (x:=.int .i64 x17) (gw rfl hb16) rfl ?_)
    obtain ⟨x20,h19,h⟩:=bnd h
    refine Rn.call (args:=[(i_ x17)]) (gw rfl hb16) rfl (H_slices_isNaN_int _ _ h19) pc9 (Rn.movD (gw rfl hb16) rfl ?_)
    refine Qc0 x20 (fun hb21=>?_) (fun hb21=>?_)
    ·replace h:=bT hb21 h
     refine Rn.movD (gw rfl hb21) rfl ?_
     obtain ⟨x23,h22,h⟩:=bnd h
     refine Rn.call (args:=[(i_ target2)]) (gw rfl hb21) rfl (H_slices_isNaN_int _ _ h22) pc9 (Rn.pickT (v:=(b_ x23)) (gw rfl hb16) rfl hb21 rfl (Rn.pickF (v:=(b_ x23)) (gw rfl hb13) rfl hb16 rfl (Rn.pickT (v:=(b_ x23)) tv rfl hb13 rfl (md rfl (md rfl (nt ((Tr.ret ?_))))))))
     replace h:=si h; subst h
     exact ⟨.inr rfl,.tup [(i_ i12),(b_ x23)],res2 rfl rfl,(WkV.tup (.cons (.same rfl) (.cons (.same rfl) .nil))).rd,⟨tv,tv,tv⟩,fun k hk=>Qf hk⟩
    ·replace h:=bF hb21 h
     refine Rn.sk (nw rfl hb21) (Rn.sk (nw rfl hb21) (Rn.pickF (v:=(b_ false)) (gw rfl hb16) rfl hb21 rfl (Rn.pickF (v:=(b_ false)) (gw rfl hb13) rfl hb16 rfl (Rn.pickT (v:=(b_ false)) tv rfl hb13 rfl (md rfl (md rfl (nt ((Tr.ret ?_)))))))))
     replace h:=si h; subst h
     exact ⟨.inr rfl,.tup [(i_ i12),(b_ false)],res2 rfl rfl,(WkV.tup (.cons (.same rfl) (.cons (.same rfl) .nil))).rd,⟨tv,tv,tv⟩,fun k hk=>Qf hk⟩
  ·replace h:=ifF hb13 h
   refine Rn.sk (nw rfl hb13) (Rn.sk (nw rfl hb13) (Rn.sk (nw rfl hb13) (Rn.sk (nw rfl hb13) (Rn.sk (nw rfl hb13) (Rn.sk (nw rfl hb13) (Rn.sk (nw rfl hb13) (Rn.sk (nu rfl) (Rn.sk (nu rfl) (Rn.sk (nu rfl) (Rn.sk (nu rfl) (Rn.sk (nu rfl) (Rn.sk (nu rfl) (Rn.sk (nu rfl) (Rn.sk (nu rfl) (Rn.sk (nu rfl) (Rn.sk (nw rfl hb13) (Rn.pickF (v:=(b_ false)) tv rfl hb13 rfl (md rfl (md rfl (nt ((Tr.ret ?_))))))))))))))))))))))
   replace h:=si h; subst h
   exact ⟨.inr rfl,.tup [(i_ i12),(b_ false)],res2 rfl rfl,(WkV.tup (.cons (.same rfl) (.cons (.same rfl) .nil))).rd,⟨tv,tv,tv⟩,fun k hk=>Qf hk⟩
theorem Qll {P:Program} {c:Nat} (hcf:Qu P c = some Qet) (fuel:Nat):Qes P c (Qba fuel):=by
 intro x1 target2 cmp3 g4 cp5 r h
 intro M nb hc6 ho8 hf7
 refine Qba3 hcf rfl M nb fun Γ hP hnt hn0 hM=>?_
 subst hP hn0
 refine Tr.init [(0,.d (.lst 3 (List.map Qc x1))),(1,(i_ target2)),(2,.clo g4 cp5)] rfl ?_
 unfold Qba at h
 unfold Qet
 refine sr ((md rfl (md rfl (nt ((sr ((md rfl (Rn.lenD tv rfl (md rfl (nt ((sr ((md rfl (md rfl (md rfl (Rn.nil (toN ?_)))))))))))))))))))
 refine Tr.cutB (fun (i20:Int)=>⟨look [(0,.d (.lst 3 (List.map Qc x1))),(1,(i_ target2)),(2,.clo g4 cp5),(8,(i_ (x1.length:Int))),(9,(i_ i20))],Qp Γ.n0 (bxs []) M,Γ.n0 + 49⟩) h (fun z h=>?_) (fun z h=>?_)
 ·refine Tr.block ?_
  refine Tr.loop (mk:=fun ((i11,j12):Int×Int)=>⟨look [(0,.d (.lst 3 (List.map Qc x1))),(1,(i_ target2)),(2,.clo g4 cp5),(8,(i_ (x1.length:Int))),(9,(i_ i11)),(10,(i_ j12))],Qp Γ.n0 (bxs []) M,Γ.n0 + 49⟩) h (by exact Ql ⟨(sm rfl),(sm rfl),(kFun hM ho8),(sm rfl),(sm rfl),(sm rfl),tv⟩ tv rfl) (fun k13 z h=>?_)
  ·obtain ⟨i11,j12⟩:=z
   replace h:_ = some _:=h
   refine Tr.seq (sr ((md rfl (md rfl (Rn.bin tv rfl rfl rfl (Rn.nil (toN ?_)))))))
   refine Tr.cond rfl (fun hb14=>?_) (fun hb14=>?_)
   ·replace h:=ifT hb14 h
    refine Tr.skip (toN (Tr.block (sr ((md rfl (md rfl (Rn.bin tv rfl rfl rfl (Rn.conv tv rfl (Rn.bin tv rfl rfl rfl (Rn.conv tv rfl (md rfl (nt ((sr ((Rn.mov (v:=.clo g4 cp5) tv rfl (md rfl (md rfl ?_))))))))))))))))))
    obtain ⟨x15,h16,h⟩:=bnd h
    refine Rn.idxD (e:=Qc) tv rfl rfl h16 (Rn.loadCA (vs:=(Qbj x15)) tv rfl rfl rfl (md rfl ?_))
    obtain ⟨x18,h17,h⟩:=bnd h
    refine Rn.callvM (args:=[(Qbs x15),(i_ target2)] ++ cp5) tv rfl (by rw [hc6]; rfl) (fun M2 nb2 hn hx=>hf7 _ _ _ h17 M2 nb2 (by omega) ((Qbcf hM).trans hx)) rfl pc9 ?_
    refine Rn.bin tv rfl rfl rfl (Rn.nil (toN ?_))
    refine Tr.cond rfl (fun hb19=>?_) (fun hb19=>?_)
    ·replace h:=ifT hb19 h
     refine Tr.rgn (md rfl (Rn.bin tv rfl rfl rfl (md rfl (Rn.nil ?_))))
     exact ⟨_,h,(by exact Ql ⟨(sm rfl),(sm rfl),(kFun hM ho8),(sm rfl),(sm rfl),(sm rfl),tv⟩ tv rfl)⟩
    ·replace h:=ifF hb19 h
     refine Tr.rgn (md rfl (md rfl (Rn.nil ?_)))
     exact ⟨_,h,(by exact Ql ⟨(sm rfl),(sm rfl),(kFun hM ho8),(sm rfl),(sm rfl),(sm rfl),tv⟩ tv rfl)⟩
   ·replace h:=ifF hb14 h
    refine Tr.exit ?_
    replace h:=si h; subst h
    exact Qj [] ⟨(sm rfl),(sm rfl),(kFun hM ho8),(sm rfl),(sm rfl),tv⟩ tv rfl
 ·obtain ⟨i20,rfl⟩ : ∃ x,x = z:=⟨_,rfl⟩
  refine sr ((md rfl (md rfl (md rfl (Rn.bin tv rfl rfl rfl (md rfl ?_))))))
  refine Qc0 (decide (i20 < (x1.length:Int))) (fun hb21=>?_) (fun hb21=>?_)
  ·replace h:=ifT hb21 h
   refine Rn.mov (v:=.clo g4 cp5) (gw rfl hb21) rfl (Rn.movD (gw rfl hb21) rfl (Rn.movD (gw rfl hb21) rfl ?_))
   obtain ⟨x22,h23,h⟩:=bnd h
   refine Rn.idxD (e:=Qc) (gw rfl hb21) rfl rfl h23 (Rn.loadCA (vs:=(Qbj x22)) (gw rfl hb21) rfl rfl rfl (Rn.movD (gw rfl hb21) rfl ?_))
   obtain ⟨x25,h24,h⟩:=bnd h
   refine Rn.callvM (args:=[(Qbs x22),(i_ target2)] ++ cp5) (gw rfl hb21) rfl (by rw [hc6]; rfl) (fun M2 nb2 hn hx=>hf7 _ _ _ h24 M2 nb2 (by omega) ((Qbcf hM).trans hx)) rfl pc9 ?_
   refine Rn.bin (gw rfl hb21) rfl rfl rfl (Rn.pickT (v:=(b_ (x25 == 0))) tv rfl hb21 rfl (md rfl (md rfl (nt ((Tr.ret ?_))))))
   replace h:=si h; subst h
   exact ⟨.inr rfl,.tup [(i_ i20),(b_ (x25 == 0))],res2 rfl rfl,(WkV.tup (.cons (.same rfl) (.cons (.same rfl) .nil))).rd,⟨tv,tv,tv⟩,fun k hk=>Qf hk⟩
  ·replace h:=ifF hb21 h
   refine Rn.sk (nw rfl hb21) (Rn.sk (nw rfl hb21) (Rn.sk (nw rfl hb21) (Rn.sk (nw rfl hb21) (Rn.sk (nw rfl hb21) (Rn.sk (nw rfl hb21) (Rn.sk (nw rfl hb21) (Rn.sk (nw rfl hb21) (Rn.pickF (v:=(b_ false)) tv rfl hb21 rfl (md rfl (md rfl (nt ((Tr.ret ?_)))))))))))))
   replace h:=si h; subst h
   exact ⟨.inr rfl,.tup [(i_ i20),(b_ false)],res2 rfl rfl,(WkV.tup (.cons (.same rfl) (.cons (.same rfl) .nil))).rd,⟨tv,tv,tv⟩,fun k hk=>Qf hk⟩
theorem Q54 {P:Program} {c:Nat} (hcf:Qu P c = some Qmd):Qmc P c (Qc8):=by
 intro x1 s2 r h
 refine Qcf hcf rfl fun Γ M hP hnt hM=>?_
 subst hP
 refine Tr.init [(0,(Qbs x1)),(1,(i_ s2))] rfl ?_
 unfold Qc8 at h
 unfold Qmd
 refine sr ((Rn.box (v:=(Qbs x1)) (cs:=(Qbj x1)) tv rfl rfl rfl rfl rfl (md rfl (nt ((sr ((Rn.fldP (o':=0) tv rfl rfl (Rn.load (v:=(i_ x1.From)) tv rfl (Qm rfl) rfl rfl (md rfl (Rn.bin tv rfl rfl rfl (md rfl (nt ((Tr.ret ?_)))))))))))))))
 replace h:=si h; subst h
 exact ⟨.inr rfl,(i_ (IntKind.wrap .i64 (x1.From - s2))),rfl,fun _ _ _ _ h=>h,tv,fun k hk=>Qf hk⟩
theorem Q55 {P:Program} {c:Nat} (hcf:Qu P c = some Qmf):Qme P c (Qc9):=by
 intro x1 s2 r h
 refine Qcf hcf rfl fun Γ M hP hnt hM=>?_
 subst hP
 refine Tr.init [(0,(Qbs x1)),(1,(i_ s2))] rfl ?_
 unfold Qc9 at h
 unfold Qmf
 refine sr ((Rn.box (v:=(Qbs x1)) (cs:=(Qbj x1)) tv rfl rfl rfl rfl rfl (md rfl (nt ((sr ((Rn.fldP (o':=0) tv rfl rfl (Rn.load (v:=(i_ x1.From)) tv rfl (Qm rfl) rfl rfl (md rfl (Rn.bin tv rfl rfl rfl (md rfl (nt ((Tr.ret ?_)))))))))))))))
 replace h:=si h; subst h
 exact ⟨.inr rfl,(i_ (IntKind.wrap .i64 (x1.From - s2))),rfl,fun _ _ _ _ h=>h,tv,fun k hk=>Qf hk⟩
theorem Q89 {P:Program} {c:Nat} {Qba:(List Qe)→Int→(Qe→Int→Option Int)→Option (Int×Bool)} {Qc8:Qe→Int→Option Int} {Qc9:Qe→Int→Option Int}
    (H_slices_BinarySearchFunc_int:Qes P 85 Qba)
    (H_automaton_out_1:Qmc P 86 Qc8)
    (H_automaton_out_2:Qme P 87 Qc9) (hcf:Qu P c = some Qp4):Qho P c (Qbl Qba Qc8 Qc9):=by
 intro a1 state2 r h
 refine Qcf hcf rfl fun Γ M hP hnt hM=>?_
 subst hP
 refine Tr.init [(0,(Qa a1)),(1,(i_ state2))] rfl ?_
 unfold Qbl at h
 unfold Qp4
 refine sr ((Rn.box (v:=(Qa a1)) (cs:=(Qd a1)) tv rfl rfl rfl rfl rfl (Rn.movTC (v:=.nils 3) tv (nt ((sr ((Rn.fldP (o':=3) tv rfl rfl (Rn.load (v:=.d (.lst 3 (List.map Qc a1.Edges))) tv rfl (Qm rfl) rfl rfl (md rfl ?_))))))))))
 obtain ⟨⟨r8,r9⟩,h7,h⟩:=bnd h
 refine Rn.callM (args:=[.d (.lst 3 (List.map Qc a1.Edges)),(i_ state2),.clo 86 []]) tv rfl (fun M2 nb2 hn hx=>H_slices_BinarySearchFunc_int _ _ _ 86 [] _ h7 M2 nb2 rfl tv (fun a3 a4 r5 h6 M3 nb3 hn3 hx3=>H_automaton_out_1 a3 a4 r5 h6 M3 nb3 )) rfl pc9 ?_
 refine Rn.mov (v:=.tup [(i_ r8),(b_ r9)]) tv rfl (Rn.ext (v:=(i_ r8)) (vs:=[(i_ r8),(b_ r9)]) tv rfl rfl rfl (Rn.ext (v:=(b_ r9)) (vs:=[(i_ r8),(b_ r9)]) tv rfl rfl rfl (md rfl (md rfl (nt ((sr ((Rn.fldP (o':=3) tv rfl rfl (Rn.load (v:=.d (.lst 3 (List.map Qc a1.Edges))) tv rfl (Qm rfl) rfl rfl (md rfl (Rn.bin tv rfl rfl rfl ?_))))))))))))
 obtain ⟨⟨r15,r16⟩,h14,h⟩:=bnd h
 refine Rn.callM (args:=[.d (.lst 3 (List.map Qc a1.Edges)),(i_ (IntKind.wrap .i64 (state2 + 1))),.clo 87 []]) tv rfl (fun M2 nb2 hn hx=>H_slices_BinarySearchFunc_int _ _ _ 87 [] _ h14 M2 nb2 rfl tv (fun a10 a11 r12 h13 M3 nb3 hn3 hx3=>H_automaton_out_2 a10 a11 r12 h13 M3 nb3 )) rfl pc9 ?_
 refine Rn.mov (v:=.tup [(i_ r15),(b_ r16)]) tv rfl (Rn.ext (v:=(i_ r15)) (vs:=[(i_ r15),(b_ r16)]) tv rfl rfl rfl (Rn.ext (v:=(b_ r16)) (vs:=[(i_ r15),(b_ r16)]) tv rfl rfl rfl (md rfl (md rfl (nt ((sr ((Rn.fldP (o':=3) tv rfl rfl (Rn.load (v:=.d (.lst 3 (List.map Qc a1.Edges))) tv rfl (Qm rfl) rfl rfl (md rfl (md rfl ?_))))))))))))
 obtain ⟨x17,h18,h⟩:=bnd h
 refine Rn.slc2 (e:=Qc) tv rfl rfl rfl h18 (Rn.movTD tv rfl (nt ((Tr.ret ?_))))
 replace h:=si h; subst h
 exact ⟨.inr rfl,(.d (.lst 3 (List.map Qc x17))),rfl,fun _ _ _ _ h=>h,tv,fun k hk=>Qf hk⟩
theorem Qug {P:Program} {c:Nat} {Qbl:Qb→Int→Option ((List Qe))} {Q5:(List Int)→Option ((List Int))} {Qbz:(List Int)→Int→Option (Int×Bool)}
    (H_automaton_out:Qho P 54 Qbl)
    (H_slices_Clone_int:Qfj P 55 Q5)
    (H_slices_BinarySearch_int:Qfu P 82 Qbz) (hcf:Qu P c = some Qhq) (fuel:Nat):Qhp P c (Qch Qbl Q5 Qbz fuel):=by
 intro a1 r h
 refine Qcf hcf rfl fun Γ M hP hnt hM=>?_
 subst hP
 refine Tr.init [(0,(Qa a1))] rfl ?_
 unfold Qch at h
 unfold Qhq
 refine sr ((Rn.box (v:=(Qa a1)) (cs:=(Qd a1)) tv rfl rfl rfl rfl rfl (Rn.alloc tv rfl (nt ((sr ((Rn.fldP (o':=0) tv rfl rfl (Rn.load (v:=(l_ a1.Alphabet)) tv rfl (Qm rfl) rfl rfl ?_)))))))))
 obtain ⟨x3,h2,h⟩:=bnd h
 refine Rn.call (args:=[(l_ a1.Alphabet)]) tv rfl (H_slices_Clone_int _ _ h2) pc9 (Rn.buildT (v:=.agg [(o_ x3),(i_ 0),.nils 1,.nils 3]) tv rfl (Rn.alloc tv rfl (Rn.storeT (v:=.agg [(o_ x3),(i_ 0),.nils 1,.nils 3]) (ds:=[(o_ x3),(i_ 0),.nils 1,.nils 3]) (cs':=[(o_ x3),(i_ 0),.nils 1,.nils 3]) tv rfl rfl rfl rfl rfl rfl rfl (nt ((Tr.seq (sr ((Rn.fldP (o':=1) tv rfl rfl (Rn.load (v:=(i_ a1.States)) tv rfl (Qm rfl) rfl rfl (Rn.bin tv rfl rfl rfl (Rn.nil (toN ?_)))))))))))))
 refine Tr.cond rfl (fun hb4=>?_) (fun hb4=>?_)
 ·replace h:=bT hb4 h
  refine sr ((Rn.load (v:=.agg [(l_ x3),(i_ 0),.nils 1,.nils 3]) tv rfl (Qm rfl) rfl rfl (Rn.storeT (v:=.agg [(l_ x3),(i_ 0),.nils 1,.nils 3]) (ds:=[(l_ x3),(i_ 0),.nils 1,.nils 3]) (cs':=[(l_ x3),(i_ 0),.nils 1,.nils 3]) tv rfl rfl rfl rfl rfl rfl rfl (nt ((Tr.ret ?_))))))
  replace h:=si h; subst h
  exact ⟨.inr rfl,(.agg [(l_ x3),(i_ 0),.nils 1,.nils 3]),Qif rfl rfl rfl rfl,(WkV.agg (.cons (.same rfl) (.cons (.same rfl) (.cons (WkV.nilsD _) (.cons (WkV.nilsD _) .nil))))).rd,⟨tv,tv,tv,tv,tv⟩,fun k hk=>Qf hk⟩
 ·replace h:=bF hb4 h
  refine Tr.skip (toN (sr ((Rn.fldP (o':=1) tv rfl rfl (Rn.load (v:=(i_ a1.States)) tv rfl (Qm rfl) rfl rfl ?_)))))
  obtain ⟨x5,h6,h⟩:=bnd h
  refine Rn.makes (g:=(fun (x:Int)=>[V.d (.int .i64 x)])) tv rfl rfl rfl rfl rfl h6 (Rn.movTF (v:=.sl 1 (Γ.n0 + 22) 0 (Int.toNat a1.States) (Int.toNat a1.States)) tv rfl rfl (Rn.nil (toN ?_)))
  refine Tr.cutB (fun (c15:List Int)=>⟨look [(1,.ptr (Γ.n0 + 1) 0),(2,.ptr (Γ.n0 + 2) 0),(3,.ptr (Γ.n0 + 3) 0),(4,.sl 1 (Γ.n0 + 22) 0 (Int.toNat a1.States) (Int.toNat a1.States))],Qp Γ.n0 (bxs [(1,.cells ((Qd a1))),(2,.cells ([.nils 1,(i_ 0),.nils 1,.nils 3])),(3,.cells ([(o_ x3),(i_ 0),.nils 1,.nils 3])),(22,.cells (Qcz (fun (x:Int)=>[V.d (.int .i64 x)]) c15))]) M,Γ.n0 + 105⟩) h (fun z h=>?_) (fun z h=>?_)
  ·refine sr ((Rn.mov (v:=.sl 1 (Γ.n0 + 22) 0 (Int.toNat a1.States) (Int.toNat a1.States)) tv rfl (Rn.lenA tv rfl (md rfl (nt ((Tr.block ?_)))))))
   refine Tr.loop (mk:=fun ((x7,c8):Int×(List Int))=>⟨look [(1,.ptr (Γ.n0 + 1) 0),(2,.ptr (Γ.n0 + 2) 0),(3,.ptr (Γ.n0 + 3) 0),(4,.sl 1 (Γ.n0 + 22) 0 (Int.toNat a1.States) (Int.toNat a1.States)),(24,(i_ ((Int.toNat a1.States):Int))),(25,(i_ x7))],Qp Γ.n0 (bxs [(1,.cells ((Qd a1))),(2,.cells ([.nils 1,(i_ 0),.nils 1,.nils 3])),(3,.cells ([(o_ x3),(i_ 0),.nils 1,.nils 3])),(22,.cells (Qcz (fun (x:Int)=>[V.d (.int .i64 x)]) c8))]) M,Γ.n0 + 105⟩) h (by exact Ql ⟨(kPtr rfl),(kPtr rfl),(kPtr rfl),(kSl rfl),(sm rfl),(sm rfl),tv⟩ ⟨⟨_,rfl,rfl,(.same rfl)⟩,⟨_,rfl,rfl,(.same rfl)⟩,⟨_,rfl,rfl,(.same rfl)⟩,⟨_,rfl,rfl,(Qea fun _=>rfl)⟩,tv⟩ rfl) (fun k9 z h=>?_)
   ·obtain ⟨x7,c8⟩:=z
    replace h:_ = some _:=h
    refine sr ((Rn.bin tv rfl rfl rfl (nt ((Tr.seq ?_)))))
    refine Tr.cond rfl (fun hb10=>?_) (fun hb10=>?_)
    ·replace h:=ifT hb10 h
     refine Tr.skip (toN (Tr.seq (Tr.block (sr ((md rfl (md rfl (nt ((Tr.rgn (Rn.mov (v:=.sl 1 (Γ.n0 + 22) 0 (Int.toNat a1.States) (Int.toNat a1.States)) tv rfl (md rfl ?_))))))))))))
     obtain ⟨⟨⟩,h12,h⟩:=bnd h
     refine Rn.idxA tv rfl rfl h12 ?_
     obtain ⟨x13,h14,h⟩:=bnd h
     refine Rn.storeA (g:=(fun (x:Int)=>[V.d (.int .i64 x)])) (v:=(i_ (-1))) (fun _=>rfl) tv rfl rfl rfl rfl rfl h14 (nt ((Tr.rgn (Rn.bin tv rfl rfl rfl (md rfl (Rn.nil ?_))))))
     exact ⟨_,h,(by exact Ql ⟨(kPtr rfl),(kPtr rfl),(kPtr rfl),(kSl rfl),(sm rfl),(sm rfl),tv⟩ ⟨⟨_,rfl,rfl,(.same rfl)⟩,⟨_,rfl,rfl,(.same rfl)⟩,⟨_,rfl,rfl,(.same rfl)⟩,⟨_,rfl,rfl,(Qea fun _=>rfl)⟩,tv⟩ rfl)⟩
    ·replace h:=ifF hb10 h
     refine Tr.exit ?_
     replace h:=si h; subst h
     exact Qj [] ⟨(kPtr rfl),(kPtr rfl),(kPtr rfl),(kSl rfl),tv⟩ ⟨⟨_,rfl,rfl,(.same rfl)⟩,⟨_,rfl,rfl,(.same rfl)⟩,⟨_,rfl,rfl,(.same rfl)⟩,⟨_,rfl,rfl,(Qea fun _=>rfl)⟩,tv⟩ rfl
  ·obtain ⟨c15,rfl⟩ : ∃ x,x = z:=⟨_,rfl⟩
   refine sr ((Rn.mov (v:=.sl 1 (Γ.n0 + 22) 0 (Int.toNat a1.States) (Int.toNat a1.States)) tv rfl ?_))
   obtain ⟨⟨⟩,h17,h⟩:=bnd h
   refine Rn.idxA tv rfl rfl h17 ?_
   obtain ⟨x18,h19,h⟩:=bnd h
   refine Rn.storeA (g:=(fun (x:Int)=>[V.d (.int .i64 x)])) (v:=(i_ 0)) (fun _=>rfl) tv rfl rfl rfl rfl rfl h19 (nt ((sr ((Rn.bslice (xs:=[(i_ 0)]) (cs:=[(i_ 0)]) tv rfl rfl rfl rfl (Rn.movTF (v:=.sl 1 (Γ.n0 + 34) 0 1 1) tv rfl rfl (Rn.nil (toN ?_))))))))
   refine Tr.cutB (fun ((order74,c75,c76,c77,r78,r79,c80):(List Int)×(List Int)×(List Int)×(List Qe)×(List Int)×(List Qe)×(List Int))=>⟨look [(2,.ptr (Γ.n0 + 2) 0),(3,.ptr (Γ.n0 + 3) 0),(6,(o_ order74))],Qp Γ.n0 (bxs [(1,.cells ((Qd a1))),(2,.cells ([(o_ c75),(i_ 0),(o_ c76),.own 3 (List.map Qc c77)])),(3,.cells ([(o_ x3),(i_ 0),(o_ r78),.own 3 (List.map Qc r79)])),(22,.cells (Qcz (fun (x:Int)=>[V.d (.int .i64 x)]) c80))]) M,Γ.n0 + 105⟩) h (fun z h=>?_) (fun z h=>?_)
   ·refine sr ((md rfl (nt ((Tr.block ?_)))))
    refine Tr.weak (by show WeakSt Γ _ ⟨look ((6,.own 1 (List.map (eI .i64) [0])) :: [(1,.ptr (Γ.n0 + 1) 0),(2,.ptr (Γ.n0 + 2) 0),(3,.ptr (Γ.n0 + 3) 0),(4,.sl 1 (Γ.n0 + 22) 0 (Int.toNat a1.States) (Int.toNat a1.States)),(7,(i_ 0)),(32,.sl 1 (Γ.n0 + 22) 0 (Int.toNat a1.States) (Int.toNat a1.States)),(33,.ptr (Γ.n0 + 22) (0 + Int.toNat 0 * 1))] ),Qp Γ.n0 (bxs [(1,.cells ((Qd a1))),(2,.cells ([.nils 1,(i_ 0),.nils 1,.nils 3])),(3,.cells ([(o_ x3),(i_ 0),.nils 1,.nils 3])),(22,.cells (Qcz (fun (x:Int)=>[V.d (.int .i64 x)]) x18))]) M,Γ.n0 + 105⟩; exact Q8y 34 6 [.int .i64 0] rfl rfl rfl rfl rfl ⟨(kPtr rfl),(kPtr rfl),(kPtr rfl),(kSl rfl),(sm rfl),(kSl rfl),(kPtr rfl),tv⟩ ⟨⟨_,rfl,rfl,(.same rfl)⟩,⟨_,rfl,rfl,(.same rfl)⟩,⟨_,rfl,rfl,(.same rfl)⟩,⟨_,rfl,rfl,(Qea fun _=>rfl)⟩,tv⟩ rfl) ?_
    refine Tr.loop (mk:=fun ((order20,i21,c22,c23,c24,r25,r26,c27):(List Int)×Int×(List Int)×(List Int)×(List Qe)×(List Int)×(List Qe)×(List Int))=>⟨look [(1,.ptr (Γ.n0 + 1) 0),(2,.ptr (Γ.n0 + 2) 0),(3,.ptr (Γ.n0 + 3) 0),(4,.sl 1 (Γ.n0 + 22) 0 (Int.toNat a1.States) (Int.toNat a1.States)),(6,(o_ order20)),(7,(i_ i21))],Qp Γ.n0 (bxs [(1,.cells ((Qd a1))),(2,.cells ([(o_ c22),(i_ 0),(o_ c23),.own 3 (List.map Qc c24)])),(3,.cells ([(o_ x3),(i_ 0),(o_ r25),.own 3 (List.map Qc r26)])),(22,.cells (Qcz (fun (x:Int)=>[V.d (.int .i64 x)]) c27))]) M,Γ.n0 + 105⟩) h (by exact Ql ⟨(kPtr rfl),(kPtr rfl),(kPtr rfl),(kSl rfl),(sm rfl),(sm rfl),tv⟩ ⟨⟨_,rfl,rfl,(.same rfl)⟩,⟨_,rfl,rfl,(.cons (WkV.nilsO _) (.cons (sm rfl) (.cons (WkV.nilsO _) (.cons (WkV.nilsO _) .nil))))⟩,⟨_,rfl,rfl,(.cons (sm rfl) (.cons (sm rfl) (.cons (WkV.nilsO _) (.cons (WkV.nilsO _) .nil))))⟩,⟨_,rfl,rfl,(Qea fun _=>rfl)⟩,tv⟩ rfl) (fun k28 z h=>?_)
    ·obtain ⟨order20,i21,c22,c23,c24,r25,r26,c27⟩:=z
     replace h:_ = some _:=h
     refine Tr.seq (sr ((md rfl (Rn.mov (v:=(l_ order20)) tv rfl (Rn.lenD tv rfl (Rn.bin tv rfl rfl rfl (Rn.nil (toN ?_))))))))
     refine Tr.cond rfl (fun hb29=>?_) (fun hb29=>?_)
     ·replace h:=ifT hb29 h
      refine Tr.skip (toN ?_)
      refine Tr.cutB (fun ((order70,r71,r72,c73):(List Int)×(List Int)×(List Qe)×(List Int))=>⟨look [(1,.ptr (Γ.n0 + 1) 0),(2,.ptr (Γ.n0 + 2) 0),(3,.ptr (Γ.n0 + 3) 0),(4,.sl 1 (Γ.n0 + 22) 0 (Int.toNat a1.States) (Int.toNat a1.States)),(6,(o_ order70)),(7,(i_ i21))],Qp Γ.n0 (bxs [(1,.cells ((Qd a1))),(2,.cells ([(o_ c22),(i_ 0),(o_ c23),.own 3 (List.map Qc c24)])),(3,.cells ([(o_ x3),(i_ 0),(o_ r71),.own 3 (List.map Qc r72)])),(22,.cells (Qcz (fun (x:Int)=>[V.d (.int .i64 x)]) c73))]) M,Γ.n0 + 105⟩) h (fun z h=>?_) (fun z h=>?_)
      ·refine Tr.block ?_
       refine Tr.cutB (fun (r38:List Int)=>⟨look [(1,.ptr (Γ.n0 + 1) 0),(2,.ptr (Γ.n0 + 2) 0),(3,.ptr (Γ.n0 + 3) 0),(4,.sl 1 (Γ.n0 + 22) 0 (Int.toNat a1.States) (Int.toNat a1.States)),(6,(o_ order20)),(7,(i_ i21))],Qp Γ.n0 (bxs [(1,.cells ((Qd a1))),(2,.cells ([(o_ c22),(i_ 0),(o_ c23),.own 3 (List.map Qc c24)])),(3,.cells ([(o_ x3),(i_ 0),(o_ r38),.own 3 (List.map Qc r26)])),(22,.cells (Qcz (fun (x:Int)=>[V.d (.int .i64 x)]) c27))]) M,Γ.n0 + 105⟩) h (fun z h=>?_) (fun z h=>?_)
       ·refine Tr.seq ?_
        refine Tr.rgnD (by decide) ?_
        refine Rn.fldP (o':=2) tv rfl rfl (Rn.load (v:=(l_ a1.Marked)) tv rfl (Qm rfl) rfl rfl (Rn.mov (v:=(l_ order20)) tv rfl (md rfl ?_)))
        obtain ⟨x30,h31,h⟩:=bnd h
        refine Rn.idxD (e:=(eI .i64)) tv rfl rfl h31 (Rn.loadC (x:=.int .i64 x30) tv rfl ?_)
        obtain ⟨⟨r33,r34⟩,h32,h⟩:=bnd h
        refine Rn.call (args:=[(l_ a1.Marked),(i_ x30)]) tv rfl (H_slices_BinarySearch_int _ _ _ h32) pc0 (Rn.mov (v:=.tup [(i_ r33),(b_ r34)]) tv rfl (Rn.ext (v:=(i_ r33)) (vs:=[(i_ r33),(b_ r34)]) tv rfl rfl rfl (Rn.ext (v:=(b_ r34)) (vs:=[(i_ r33),(b_ r34)]) tv rfl rfl rfl (md rfl (md rfl ?_)))))
        refine Rn.nil ⟨rfl,?_⟩
        refine toN (sr ((md rfl (Rn.nil (toN ?_)))))
        refine Tr.cond rfl (fun hb35=>?_) (fun hb35=>?_)
        ·replace h:=bT hb35 h
         refine Tr.rgn (Rn.fldP (o':=2) tv rfl rfl (Rn.loadT (cs':=[(o_ x3),(i_ 0),(l_ r25),.own 3 (List.map Qc r26)]) tv rfl rfl rfl rfl (md rfl (Rn.bslice (xs:=[(i_ i21)]) (cs:=[(i_ i21)]) tv rfl rfl rfl rfl ?_))))
         obtain ⟨x36,h37,h⟩:=bnd h
         refine Rn.app (e:=(eI .i64)) tv rfl rfl rfl (Qcm rfl rfl rfl) h37 rfl (Rn.fldP (o':=2) tv rfl rfl (Rn.storeO (cs':=[(o_ x3),(i_ 0),(o_ x36),.own 3 (List.map Qc r26)]) tv rfl rfl rfl rfl rfl (Rn.nil ?_)))
         replace h:=si h; subst h
         exact Qj [55] ⟨(kPtr rfl),(kPtr rfl),(kPtr rfl),(kSl rfl),(sm rfl),(sm rfl),tv⟩ ⟨⟨_,rfl,rfl,(.same rfl)⟩,⟨_,rfl,rfl,(.same rfl)⟩,⟨_,rfl,rfl,(.same rfl)⟩,⟨_,rfl,rfl,(Qea fun _=>rfl)⟩,tv⟩ rfl
        ·replace h:=bF hb35 h
         refine Tr.skip ?_
         replace h:=si h; subst h
         exact Qj [] ⟨(kPtr rfl),(kPtr rfl),(kPtr rfl),(kSl rfl),(sm rfl),(sm rfl),tv⟩ ⟨⟨_,rfl,rfl,(.same rfl)⟩,⟨_,rfl,rfl,(.same rfl)⟩,⟨_,rfl,rfl,(.same rfl)⟩,⟨_,rfl,rfl,(Qea fun _=>rfl)⟩,tv⟩ rfl
       ·obtain ⟨r38,rfl⟩ : ∃ x,x = z:=⟨_,rfl⟩
        refine Tr.seq ?_
        refine Tr.rgnD (by decide) ?_
        refine Rn.load (v:=(Qa a1)) tv rfl (Qm rfl) rfl rfl (Rn.mov (v:=(l_ order20)) tv rfl (md rfl ?_))
        obtain ⟨x39,h40,h⟩:=bnd h
        refine Rn.idxD (e:=(eI .i64)) tv rfl rfl h40 (Rn.loadC (x:=.int .i64 x39) tv rfl ?_)
        obtain ⟨x42,h41,h⟩:=bnd h
        refine Rn.call (args:=[(Qa a1),(i_ x39)]) tv rfl (H_automaton_out _ _ _ h41) pc0 (Rn.lenD tv rfl (md rfl ?_))
        refine Rn.nil ⟨rfl,?_⟩
        refine toN (Tr.block ?_)
        refine Tr.loop (mk:=fun ((order43,x44,r45,c46):(List Int)×Int×(List Qe)×(List Int))=>⟨look [(1,.ptr (Γ.n0 + 1) 0),(2,.ptr (Γ.n0 + 2) 0),(3,.ptr (Γ.n0 + 3) 0),(4,.sl 1 (Γ.n0 + 22) 0 (Int.toNat a1.States) (Int.toNat a1.States)),(6,(o_ order43)),(7,(i_ i21)),(63,.d (.lst 3 (List.map Qc x42))),(64,(i_ (x42.length:Int))),(65,(i_ x44))],Qp Γ.n0 (bxs [(1,.cells ((Qd a1))),(2,.cells ([(o_ c22),(i_ 0),(o_ c23),.own 3 (List.map Qc c24)])),(3,.cells ([(o_ x3),(i_ 0),(o_ r38),.own 3 (List.map Qc r45)])),(22,.cells (Qcz (fun (x:Int)=>[V.d (.int .i64 x)]) c46))]) M,Γ.n0 + 105⟩) h (by exact Ql ⟨(kPtr rfl),(kPtr rfl),(kPtr rfl),(kSl rfl),(sm rfl),(sm rfl),(sm rfl),(sm rfl),(sm rfl),tv⟩ ⟨⟨_,rfl,rfl,(.same rfl)⟩,⟨_,rfl,rfl,(.same rfl)⟩,⟨_,rfl,rfl,(.same rfl)⟩,⟨_,rfl,rfl,(Qea fun _=>rfl)⟩,tv⟩ rfl) (fun k47 z h=>?_)
        ·obtain ⟨order43,x44,r45,c46⟩:=z
         replace h:_ = some _:=h
         refine sr ((Rn.bin tv rfl rfl rfl (nt ((Tr.seq ?_)))))
         refine Tr.cond rfl (fun hb48=>?_) (fun hb48=>?_)
         ·replace h:=ifT hb48 h
          refine Tr.skip (toN (Tr.seq (Tr.block (Tr.seq (Tr.rgn ?_)))))
          obtain ⟨x49,h50,h⟩:=bnd h
          refine Rn.idxD (e:=Qc) tv rfl rfl h50 (Rn.loadCA (vs:=(Qbj x49)) tv rfl rfl rfl (Rn.alloc tv rfl (Rn.store (v:=(Qbs x49)) (cs':=(Qbj x49)) tv rfl rfl rfl rfl rfl rfl (Rn.nil (toN ?_)))))
          refine Tr.cutB (fun ((order62,c63):(List Int)×(List Int))=>⟨look [(1,.ptr (Γ.n0 + 1) 0),(2,.ptr (Γ.n0 + 2) 0),(3,.ptr (Γ.n0 + 3) 0),(4,.sl 1 (Γ.n0 + 22) 0 (Int.toNat a1.States) (Int.toNat a1.States)),(6,(o_ order62)),(7,(i_ i21)),(11,.ptr (Γ.n0 + 11) 0),(63,.d (.lst 3 (List.map Qc x42))),(64,(i_ (x42.length:Int))),(65,(i_ x44))],Qp Γ.n0 (bxs [(1,.cells ((Qd a1))),(2,.cells ([(o_ c22),(i_ 0),(o_ c23),.own 3 (List.map Qc c24)])),(3,.cells ([(o_ x3),(i_ 0),(o_ r38),.own 3 (List.map Qc r45)])),(11,.cells ((Qbj x49))),(22,.cells (Qcz (fun (x:Int)=>[V.d (.int .i64 x)]) c63))]) M,Γ.n0 + 105⟩) h (fun z h=>?_) (fun z h=>?_)
          ·refine sr ((Rn.mov (v:=.sl 1 (Γ.n0 + 22) 0 (Int.toNat a1.States) (Int.toNat a1.States)) tv rfl (Rn.fldP (o':=2) tv rfl rfl (Rn.load (v:=(i_ x49.To)) tv rfl (Qm rfl) rfl rfl ?_))))
           obtain ⟨⟨⟩,h52,h⟩:=bnd h
           refine Rn.idxA tv rfl rfl h52 ?_
           obtain ⟨x53,h54,h⟩:=bnd h
           refine Rn.loadA (g:=(fun (x:Int)=>[V.d (.int .i64 x)])) (v:=(i_ x53)) (f:=0) (fun _=>rfl) tv rfl (Qm rfl) h54 rfl rfl (Rn.bin tv rfl rfl rfl (Rn.nil (toN ?_)))
           refine Tr.cond rfl (fun hb55=>?_) (fun hb55=>?_)
           ·replace h:=ifT hb55 h
            refine sr ((Rn.mov (v:=.sl 1 (Γ.n0 + 22) 0 (Int.toNat a1.States) (Int.toNat a1.States)) tv rfl (Rn.fldP (o':=2) tv rfl rfl (Rn.load (v:=(i_ x49.To)) tv rfl (Qm rfl) rfl rfl (Rn.mov (v:=(l_ order43)) tv rfl (Rn.lenD tv rfl ?_))))))
            obtain ⟨⟨⟩,h57,h⟩:=bnd h
            refine Rn.idxA tv rfl rfl h57 ?_
            obtain ⟨x58,h59,h⟩:=bnd h
            refine Rn.storeA (g:=(fun (x:Int)=>[V.d (.int .i64 x)])) (v:=(i_ (order43.length:Int))) (fun _=>rfl) tv rfl rfl rfl rfl rfl h59 (nt ((Tr.rgn (Rn.movTO tv rfl (Rn.fldP (o':=2) tv rfl rfl (Rn.load (v:=(i_ x49.To)) tv rfl (Qm rfl) rfl rfl (Rn.bslice (xs:=[(i_ x49.To)]) (cs:=[(i_ x49.To)]) tv rfl rfl rfl rfl ?_)))))))
            obtain ⟨x60,h61,h⟩:=bnd h
            refine Rn.app (e:=(eI .i64)) tv rfl rfl rfl (Qcm rfl rfl rfl) h61 rfl (Rn.movTO tv rfl (Rn.nil ?_))
            replace h:=si h; subst h
            exact Qj [84] ⟨(kPtr rfl),(kPtr rfl),(kPtr rfl),(kSl rfl),(sm rfl),(sm rfl),(kPtr rfl),(sm rfl),(sm rfl),(sm rfl),tv⟩ ⟨⟨_,rfl,rfl,(.same rfl)⟩,⟨_,rfl,rfl,(.same rfl)⟩,⟨_,rfl,rfl,(.same rfl)⟩,⟨_,rfl,rfl,(.same rfl)⟩,⟨_,rfl,rfl,(Qea fun _=>rfl)⟩,tv⟩ rfl
           ·replace h:=ifF hb55 h
            refine Tr.skip ?_
            replace h:=si h; subst h
            exact Qj [] ⟨(kPtr rfl),(kPtr rfl),(kPtr rfl),(kSl rfl),(sm rfl),(sm rfl),(kPtr rfl),(sm rfl),(sm rfl),(sm rfl),tv⟩ ⟨⟨_,rfl,rfl,(.same rfl)⟩,⟨_,rfl,rfl,(.same rfl)⟩,⟨_,rfl,rfl,(.same rfl)⟩,⟨_,rfl,rfl,(.same rfl)⟩,⟨_,rfl,rfl,(Qea fun _=>rfl)⟩,tv⟩ rfl
          ·obtain ⟨order62,c63⟩:=z
           refine Tr.rgnD (by decide) ?_
           refine Rn.fldP (o':=3) tv rfl rfl (Rn.loadT (cs':=[(o_ x3),(i_ 0),(o_ r38),.d (.lst 3 (List.map Qc r45))]) tv rfl rfl rfl rfl (md rfl (Rn.fldP (o':=1) tv rfl rfl (Rn.load (v:=(i_ x49.Event)) tv rfl (Qm rfl) rfl rfl (Rn.mov (v:=.sl 1 (Γ.n0 + 22) 0 (Int.toNat a1.States) (Int.toNat a1.States)) tv rfl (Rn.fldP (o':=2) tv rfl rfl (Rn.load (v:=(i_ x49.To)) tv rfl (Qm rfl) rfl rfl ?_)))))))
           obtain ⟨⟨⟩,h65,h⟩:=bnd h
           refine Rn.idxA tv rfl rfl h65 ?_
           obtain ⟨x66,h67,h⟩:=bnd h
           refine Rn.loadA (g:=(fun (x:Int)=>[V.d (.int .i64 x)])) (v:=(i_ x66)) (f:=0) (fun _=>rfl) tv rfl (Qm rfl) h67 rfl rfl (Rn.build (v:=.agg [(i_ i21),(i_ x49.Event),(i_ x66)]) tv rfl (Rn.bslice (xs:=[.agg [(i_ i21),(i_ x49.Event),(i_ x66)]]) (cs:=[(i_ i21),(i_ x49.Event),(i_ x66)]) tv rfl rfl rfl rfl ?_))
           obtain ⟨x68,h69,h⟩:=bnd h
           refine Rn.app (e:=Qc) tv rfl rfl rfl (Qcm rfl rfl rfl) h69 rfl (Rn.fldP (o':=3) tv rfl rfl (Rn.storeO (cs':=[(o_ x3),(i_ 0),(o_ r38),.own 3 (List.map Qc x68)]) tv rfl rfl rfl rfl rfl ?_))
           refine Rn.nil ⟨rfl,?_⟩
           refine toN (Tr.rgn (Rn.bin tv rfl rfl rfl (md rfl (Rn.nil ?_))))
           exact ⟨_,h,(by exact Ql ⟨(kPtr rfl),(kPtr rfl),(kPtr rfl),(kSl rfl),(sm rfl),(sm rfl),(sm rfl),(sm rfl),(sm rfl),tv⟩ ⟨⟨_,rfl,rfl,(.same rfl)⟩,⟨_,rfl,rfl,(.same rfl)⟩,⟨_,rfl,rfl,(.same rfl)⟩,⟨_,rfl,rfl,(Qea fun _=>rfl)⟩,tv⟩ rfl)⟩
         ·replace h:=ifF hb48 h
          refine Tr.exit ?_
          replace h:=si h; subst h
          exact Qj [] ⟨(kPtr rfl),(kPtr rfl),(kPtr rfl),(kSl rfl),(sm rfl),(sm rfl),tv⟩ ⟨⟨_,rfl,rfl,(.same rfl)⟩,⟨_,rfl,rfl,(.same rfl)⟩,⟨_,rfl,rfl,(.same rfl)⟩,⟨_,rfl,rfl,(Qea fun _=>rfl)⟩,tv⟩ rfl
      ·obtain ⟨order70,r71,r72,c73⟩:=z
       refine Tr.rgn (md rfl (Rn.bin tv rfl rfl rfl (md rfl (Rn.nil ?_))))
       exact ⟨_,h,(by exact Ql ⟨(kPtr rfl),(kPtr rfl),(kPtr rfl),(kSl rfl),(sm rfl),(sm rfl),tv⟩ ⟨⟨_,rfl,rfl,(.same rfl)⟩,⟨_,rfl,rfl,(.same rfl)⟩,⟨_,rfl,rfl,(.same rfl)⟩,⟨_,rfl,rfl,(Qea fun _=>rfl)⟩,tv⟩ rfl)⟩
     ·replace h:=ifF hb29 h
      refine Tr.exit ?_
      replace h:=si h; subst h
      exact Qj [] ⟨(kPtr rfl),(kPtr rfl),(sm rfl),tv⟩ ⟨⟨_,rfl,rfl,(.same rfl)⟩,⟨_,rfl,rfl,(.same rfl)⟩,⟨_,rfl,rfl,(.same rfl)⟩,⟨_,rfl,rfl,(Qea fun _=>rfl)⟩,tv⟩ rfl
   ·obtain ⟨order74,c75,c76,c77,r78,r79,c80⟩:=z
    refine sr ((Rn.mov (v:=(l_ order74)) tv rfl (Rn.lenD tv rfl (Rn.fldP (o':=1) tv rfl rfl (Rn.store (v:=(i_ (order74.length:Int))) (cs':=[(o_ x3),(i_ (order74.length:Int)),(o_ r78),.own 3 (List.map Qc r79)]) tv rfl rfl rfl rfl rfl rfl (nt ((sr ((Rn.load (v:=.agg [(l_ x3),(i_ (order74.length:Int)),(l_ r78),.d (.lst 3 (List.map Qc r79))]) tv rfl (Qm rfl) rfl rfl (Rn.storeT (v:=.agg [(l_ x3),(i_ (order74.length:Int)),(l_ r78),.d (.lst 3 (List.map Qc r79))]) (ds:=[(l_ x3),(i_ (order74.length:Int)),(l_ r78),.d (.lst 3 (List.map Qc r79))]) (cs':=[(l_ x3),(i_ (order74.length:Int)),(l_ r78),.d (.lst 3 (List.map Qc r79))]) tv rfl rfl rfl rfl rfl rfl rfl (nt ((Tr.ret ?_))))))))))))))
    replace h:=si h; subst h
    exact ⟨.inr rfl,(.agg [(l_ x3),(i_ (order74.length:Int)),(l_ r78),.d (.lst 3 (List.map Qc r79))]),Qif rfl rfl rfl rfl,fun _ _ _ _ h=>h,⟨tv,tv,tv,tv,tv⟩,fun k hk=>Qf hk⟩
theorem Quh {P:Program} {c:Nat} {Qs:Qb→Option Int} {Qch:Qb→Option Qb}
    (H_automaton_Check:Qdk P 46 Qs)
    (H_automaton_canonical:Qhp P 48 Qch) (hcf:Qu P c = some Qhs):Qhr P c (Qci Qs Qch):=by
 intro a1 r h
 refine Qcf hcf rfl fun Γ M hP hnt hM=>?_
 subst hP
 refine Tr.init [(0,(Qa a1))] rfl ?_
 unfold Qci at h
 unfold Qhs
 refine sr ((Rn.box (v:=(Qa a1)) (cs:=(Qd a1)) tv rfl rfl rfl rfl rfl (Rn.alloc tv rfl (md rfl (nt ((Tr.seq (sr ((Rn.load (v:=(Qa a1)) tv rfl (Qm rfl) rfl rfl ?_))))))))))
 obtain ⟨x3,h2,h⟩:=bnd h
 refine Rn.call (args:=[(Qa a1)]) tv rfl (H_automaton_Check _ _ h2) pc9 (md rfl (nt ((sr ((md rfl (Rn.bin tv rfl rfl rfl (Rn.nil (toN ?_)))))))))
 refine Tr.cond rfl (fun hb4=>?_) (fun hb4=>?_)
 ·replace h:=bT hb4 h
  refine sr ((Rn.build (v:=.agg [.nils 1,(i_ 0),.nils 1,.nils 3]) tv rfl (md rfl (Rn.storeT (v:=.agg [.nils 1,(i_ 0),.nils 1,.nils 3]) (ds:=[.nils 1,(i_ 0),.nils 1,.nils 3]) (cs':=[.nils 1,(i_ 0),.nils 1,.nils 3]) tv rfl rfl rfl rfl rfl rfl rfl (md rfl (nt ((Tr.ret ?_))))))))
  replace h:=si h; subst h
  exact ⟨.inr rfl,.tup [.agg [.nils 1,(i_ 0),.nils 1,.nils 3],(i_ x3)],res2 (Qif rfl rfl rfl rfl) rfl,(WkV.tup (.cons (WkV.agg (.cons (WkV.nilsD _) (.cons (.same rfl) (.cons (WkV.nilsD _) (.cons (WkV.nilsD _) .nil))))) (.cons (.same rfl) .nil))).rd,⟨⟨tv,tv,tv,tv,tv⟩,tv,tv⟩,fun k hk=>Qf hk⟩
 ·replace h:=bF hb4 h
  refine Tr.skip (toN (sr ((Rn.load (v:=(Qa a1)) tv rfl (Qm rfl) rfl rfl ?_))))
  obtain ⟨x6,h5,h⟩:=bnd h
  refine Rn.call (args:=[(Qa a1)]) tv rfl (H_automaton_canonical _ _ h5) pc9 (Rn.storeT (v:=(Qa x6)) (ds:=(Qd x6)) (cs':=(Qd x6)) tv rfl rfl rfl rfl rfl rfl rfl (md rfl (nt ((Tr.ret ?_)))))
  replace h:=si h; subst h
  exact ⟨.inr rfl,.tup [(Qa x6),(i_ 0)],res2 (Qif rfl rfl rfl rfl) rfl,(WkV.tup (.cons (.same rfl) (.cons (.same rfl) .nil))).rd,⟨⟨tv,tv,tv,tv,tv⟩,tv,tv⟩,fun k hk=>Qf hk⟩
theorem Qye {P:Program} {c:Nat} {Qw:Qb→(List Int)→Option Int} {Qg:(List Int)→Int→Option Bool} {Qc1:(List Qe)→Option ((List Qe))} {Qc2:(List (List Int))→Option ((List Int))} {f_slices_Sort_int:List Int→Option (List Int)} {f_slices_Compact_int:List Int→Option (List Int)} {f_slices_SortFunc_Edge:List Qe→Option (List Qe)} {Qci:Qb→Option (Qb×Int)}
    (H_projection_check:Qek P 38 Qw)
    (H_slices_Contains_int:Qbp P 56 Qg)
    (H_slices_Clone_Edge:Qi4 P 65 Qc1)
    (H_slices_Concat_int:Qi6 P 66 Qc2)
    (H_slices_Sort_int:RowK P 67 (eI .i64) 1 [] f_slices_Sort_int)
    (H_slices_Compact_int:CompK P 68 f_slices_Compact_int)
    (H_slices_SortFunc_Edge:RowK P 69 Qc 3 [.clo 70 []] f_slices_SortFunc_Edge)
    (H_automaton_Canonical:Qhr P 71 Qci) (hcf:Qu P c = some Qil) (fuel:Nat):Qik P c (Qcr Qw Qg Qc1 Qc2 f_slices_Sort_int f_slices_Compact_int f_slices_SortFunc_Edge Qci fuel):=by
 intro a1 alphabet2 r h
 refine Qbn6 hcf (args':=[.agg [(f_ a1.Alphabet),(i_ a1.States),(f_ a1.Marked),.f (.lst 3 (List.map Qc a1.Edges))],(f_ alphabet2)]) rfl rfl rfl rfl rfl rfl fun Γ M hP hnt hG hM0 hM=>?_
 subst hP
 refine Tr.init [(0,.agg [(f_ a1.Alphabet),(i_ a1.States),(f_ a1.Marked),.f (.lst 3 (List.map Qc a1.Edges))]),(1,(f_ alphabet2))] rfl ?_
 unfold Qcr at h
 unfold Qil
 refine sr ((Rn.box (v:=.agg [(f_ a1.Alphabet),(i_ a1.States),(f_ a1.Marked),.f (.lst 3 (List.map Qc a1.Edges))]) (cs:=[(f_ a1.Alphabet),(i_ a1.States),(f_ a1.Marked),.f (.lst 3 (List.map Qc a1.Edges))]) tv rfl rfl rfl rfl rfl (Rn.alloc tv rfl (md rfl (nt ((Tr.seq (sr ((Rn.load (v:=.agg [(f_ a1.Alphabet),(i_ a1.States),(f_ a1.Marked),.f (.lst 3 (List.map Qc a1.Edges))]) tv rfl (Qm rfl) rfl rfl (Rn.mov (v:=(f_ alphabet2)) tv rfl ?_)))))))))))
 obtain ⟨x4,h3,h⟩:=bnd h
 refine Rn.call (args:=[.agg [(f_ a1.Alphabet),(i_ a1.States),(f_ a1.Marked),.f (.lst 3 (List.map Qc a1.Edges))],(f_ alphabet2)]) tv rfl (fun M2 nb2=>ACalls.weak (args':=[(Qa a1),(l_ alphabet2)]) (H_projection_check _ _ _ h3 M2 nb2) (.cons (WkV.agg (.cons fToD (.cons (sm rfl) (.cons fToD (.cons fToD .nil))))) (.cons fToD .nil)) rfl) pc9 ?_
 refine md rfl (nt ((sr ((md rfl (Rn.bin tv rfl rfl rfl (Rn.nil (toN ?_))))))))
 refine Tr.cond rfl (fun hb5=>?_) (fun hb5=>?_)
 ·replace h:=bT hb5 h
  refine sr ((Rn.build (v:=.agg [.nils 1,(i_ 0),.nils 1,.nils 3]) tv rfl (md rfl (Rn.storeT (v:=.agg [.nils 1,(i_ 0),.nils 1,.nils 3]) (ds:=[.nils 1,(i_ 0),.nils 1,.nils 3]) (cs':=[.nils 1,(i_ 0),.nils 1,.nils 3]) tv rfl rfl rfl rfl rfl rfl rfl (md rfl (nt ((Tr.ret ?_))))))))
  replace h:=si h; subst h
  exact ⟨.inr rfl,.tup [.agg [.nils 1,(i_ 0),.nils 1,.nils 3],(i_ x4)],res2 (Qif rfl rfl rfl rfl) rfl,(WkV.tup (.cons (WkV.agg (.cons (WkV.nilsD _) (.cons (.same rfl) (.cons (WkV.nilsD _) (.cons (WkV.nilsD _) .nil))))) (.cons (.same rfl) .nil))).rd,⟨⟨tv,tv,tv,tv,tv⟩,tv,tv⟩,fun k hk=>Qf hk⟩
 ·replace h:=bF hb5 h
  refine Tr.skip (toN (Tr.seq ?_))
  refine Tr.rgnD (by decide) ?_
  refine Rn.fldP (o':=1) tv rfl rfl (Rn.load (v:=(i_ a1.States)) tv rfl (Qm rfl) rfl rfl (Rn.fldP (o':=2) tv rfl rfl (Rn.load (v:=(f_ a1.Marked)) tv rfl (Qm rfl) rfl rfl (Rn.fldP (o':=3) tv rfl rfl (Rn.load (v:=.f (.lst 3 (List.map Qc a1.Edges))) tv rfl (Qm rfl) rfl rfl ?_)))))
  obtain ⟨x7,h6,h⟩:=bnd h
  refine Rn.call (args:=[.f (.lst 3 (List.map Qc a1.Edges))]) tv rfl (fun M2 nb2=>ACalls.weak (args':=[.d (.lst 3 (List.map Qc a1.Edges))]) (H_slices_Clone_Edge _ _ h6 M2 nb2) (.cons fToD .nil) rfl) (fun _=>Q1l hM rfl) ?_
  refine Rn.buildT (v:=.agg [.nils 1,(i_ a1.States),(f_ a1.Marked),.own 3 (List.map Qc x7)]) tv rfl (Rn.alloc tv rfl (Rn.storeT (v:=.agg [.nils 1,(i_ a1.States),(f_ a1.Marked),.own 3 (List.map Qc x7)]) (ds:=[.nils 1,(i_ a1.States),(f_ a1.Marked),.own 3 (List.map Qc x7)]) (cs':=[.nils 1,(i_ a1.States),(f_ a1.Marked),.own 3 (List.map Qc x7)]) tv rfl rfl rfl rfl rfl rfl rfl ?_))
  refine Rn.nil ⟨rfl,?_⟩
  refine toN (sr ((Rn.fldP (o':=0) tv rfl rfl (Rn.load (v:=(f_ a1.Alphabet)) tv rfl (Qm rfl) rfl rfl (Rn.mov (v:=(f_ alphabet2)) tv rfl ?_)))))
  refine Rn.weak (by show WeakSt Γ _ ⟨look [(0,.agg [(f_ a1.Alphabet),(i_ a1.States),(f_ a1.Marked),.f (.lst 3 (List.map Qc a1.Edges))]),(1,(f_ alphabet2)),(2,.ptr (Γ.n0 + 2) 0),(4,.ptr (Γ.n0 + 4) 0),(5,(i_ 0)),(6,(i_ x4)),(7,.ptr (Γ.n0 + 7) 0),(11,.agg [(f_ a1.Alphabet),(i_ a1.States),(f_ a1.Marked),.f (.lst 3 (List.map Qc a1.Edges))]),(12,(f_ alphabet2)),(13,(i_ x4)),(14,(i_ x4)),(15,(b_ (x4 != 0))),(18,.ptr (Γ.n0 + 2) 1),(19,(i_ a1.States)),(20,.ptr (Γ.n0 + 2) 2),(21,(f_ a1.Marked)),(22,.ptr (Γ.n0 + 2) 3),(23,.f (.lst 3 (List.map Qc a1.Edges))),(24,.d (.lst 3 (List.map Qc x7))),(25,.agg [.nils 1,(i_ a1.States),(f_ a1.Marked),.d (.lst 3 (List.map Qc x7))]),(26,.ptr (Γ.n0 + 2) 0),(27,(l_ a1.Alphabet)),(28,(l_ alphabet2))],Qp Γ.n0 (bxs [(2,.cells ([(f_ a1.Alphabet),(i_ a1.States),(f_ a1.Marked),.f (.lst 3 (List.map Qc a1.Edges))])),(4,.cells ([.nils 1,(i_ 0),.nils 1,.nils 3])),(7,.cells ([.nils 1,(i_ a1.States),(f_ a1.Marked),.own 3 (List.map Qc x7)]))]) M,Γ.n0 + 74⟩; exact Qj [] ⟨(sm rfl),(sm rfl),(kPtr rfl),(kPtr rfl),(sm rfl),(sm rfl),(kPtr rfl),(sm rfl),(sm rfl),(sm rfl),(sm rfl),(sm rfl),(kPtr rfl),(sm rfl),(kPtr rfl),(sm rfl),(kPtr rfl),(sm rfl),(sm rfl),(sm rfl),(kPtr rfl),fToD,fToD,tv⟩ ⟨⟨_,rfl,rfl,(.same rfl)⟩,⟨_,rfl,rfl,(.same rfl)⟩,⟨_,rfl,rfl,(.same rfl)⟩,tv⟩ rfl) ?_
  refine Rn.bslice (xs:=[(l_ a1.Alphabet),(l_ alphabet2)]) (cs:=[(l_ a1.Alphabet),(l_ alphabet2)]) tv rfl rfl rfl rfl ?_
  refine Rn.weak (by show WeakSt Γ _ ⟨look [(0,.agg [(f_ a1.Alphabet),(i_ a1.States),(f_ a1.Marked),.f (.lst 3 (List.map Qc a1.Edges))]),(1,(f_ alphabet2)),(2,.ptr (Γ.n0 + 2) 0),(4,.ptr (Γ.n0 + 4) 0),(5,(i_ 0)),(6,(i_ x4)),(7,.ptr (Γ.n0 + 7) 0),(11,.agg [(f_ a1.Alphabet),(i_ a1.States),(f_ a1.Marked),.f (.lst 3 (List.map Qc a1.Edges))]),(12,(f_ alphabet2)),(13,(i_ x4)),(14,(i_ x4)),(15,(b_ (x4 != 0))),(18,.ptr (Γ.n0 + 2) 1),(19,(i_ a1.States)),(20,.ptr (Γ.n0 + 2) 2),(21,(f_ a1.Marked)),(22,.ptr (Γ.n0 + 2) 3),(23,.f (.lst 3 (List.map Qc a1.Edges))),(24,.d (.lst 3 (List.map Qc x7))),(25,.agg [.nils 1,(i_ a1.States),(f_ a1.Marked),.d (.lst 3 (List.map Qc x7))]),(26,.ptr (Γ.n0 + 2) 0),(27,(l_ a1.Alphabet)),(28,(l_ alphabet2)),(29,.d (.lst 1 (List.map (eL 1 (eI .i64)) [a1.Alphabet,alphabet2])))],Qp Γ.n0 (bxs [(2,.cells ([(f_ a1.Alphabet),(i_ a1.States),(f_ a1.Marked),.f (.lst 3 (List.map Qc a1.Edges))])),(4,.cells ([.nils 1,(i_ 0),.nils 1,.nils 3])),(7,.cells ([.nils 1,(i_ a1.States),(f_ a1.Marked),.own 3 (List.map Qc x7)]))]) M,Γ.n0 + 74⟩; exact Qct 29 [.lst 1 (List.map (eI .i64) a1.Alphabet),.lst 1 (List.map (eI .i64) alphabet2)] rfl rfl ⟨(.same rfl),(.same rfl),(fPtr rfl),(fPtr rfl),(.same rfl),(.same rfl),(fPtr rfl),(.same rfl),(.same rfl),(.same rfl),(.same rfl),(.same rfl),(fPtr rfl),(.same rfl),(fPtr rfl),(.same rfl),(fPtr rfl),(.same rfl),(.same rfl),(.same rfl),(fPtr rfl),(.same rfl),(.same rfl),(fSl rfl rfl),tv⟩ ⟨⟨_,rfl,rfl,(.same rfl)⟩,⟨_,rfl,rfl,(.same rfl)⟩,⟨_,rfl,rfl,(.same rfl)⟩,tv⟩ rfl) ?_
  obtain ⟨x9,h8,h⟩:=bnd h
  refine Rn.call (args:=[.d (.lst 1 (List.map (eL 1 (eI .i64)) [a1.Alphabet,alphabet2]))]) tv rfl (H_slices_Concat_int _ _ h8) pc9 (Rn.fldP (o':=0) tv rfl rfl (Rn.storeO (cs':=[(o_ x9),(i_ a1.States),(f_ a1.Marked),.own 3 (List.map Qc x7)]) tv rfl rfl rfl rfl rfl (Rn.nil (toN ?_))))
  obtain ⟨row10,hs11,h⟩:=bnd h
  obtain ⟨hl12,hn13,hr14⟩:=H_slices_Sort_int _ _ hs11
  obtain ⟨row16,hs17,h⟩:=bnd h
  obtain ⟨hl18,hn19,hr20⟩:=H_slices_Compact_int _ _ hs17
  refine Tr.seqW2 ⟨look [(2,.ptr (Γ.n0 + 2) 0),(4,.ptr (Γ.n0 + 4) 0),(7,.ptr (Γ.n0 + 7) 0)],Qp Γ.n0 (bxs [(2,.cells ([(f_ a1.Alphabet),(i_ a1.States),(f_ a1.Marked),.f (.lst 3 (List.map Qc a1.Edges))])),(4,.cells ([.nils 1,(i_ 0),.nils 1,.nils 3])),(7,.cells ([(f_ row16),(i_ a1.States),(f_ a1.Marked),.own 3 (List.map Qc x7)]))]) M,Γ.n0 + 74⟩ ?_ ?_
  ·by_cases hx15:x9 = []
   ·obtain ⟨hyx,hn13b⟩:=hn13 hx15
    replace hyx:=hyx.symm
    subst hyx
    replace hn13:=And.intro tv hn13b
    obtain ⟨hyx2,hn19b⟩:=hn19 hx15
    replace hyx2:=hyx2.symm
    subst hyx2
    replace hn19:=And.intro tv hn19b
    refine Tr.rgn (Rn.fldP (o':=0) tv rfl rfl (Rn.load (v:=(l_ x9)) tv rfl (Qm rfl) rfl rfl (Rn.call (args:=[.d (.lst 1 (List.map (eI .i64) x9))]) tv rfl (hn13.2) pc9 (nt ((Tr.rgn (Rn.fldP (o':=0) tv rfl rfl (Rn.load (v:=(l_ x9)) tv rfl (Qm rfl) rfl rfl (Rn.call (args:=[.d (.lst 1 (List.map (eI .i64) x9))]) (r:=.d (.lst 1 (List.map (eI .i64) x9))) tv rfl (hn19.2) pc9 (Rn.fldP (o':=0) tv rfl rfl (Rn.storeD (cs':=[(l_ x9),(i_ a1.States),(f_ a1.Marked),.own 3 (List.map Qc x7)]) tv rfl rfl rfl rfl rfl ?_)))))))))))
    refine Rn.nil ⟨rfl,(by exact Qj [] ⟨(kPtr rfl),(kPtr rfl),(kPtr rfl),tv⟩ ⟨⟨_,rfl,rfl,(.same rfl)⟩,⟨_,rfl,rfl,(.same rfl)⟩,⟨_,rfl,rfl,(.cons (Qbpy hx15) (.cons (sm rfl) (.cons (sm rfl) (.cons (sm rfl) .nil))))⟩,tv⟩ rfl)⟩
   ·refine Tr.weak (by show WeakSt Γ _ ⟨look [(2,.ptr (Γ.n0 + 2) 0),(4,.ptr (Γ.n0 + 4) 0),(7,.ptr (Γ.n0 + 7) 0)],Qp Γ.n0 (bxs [(2,.cells ([(f_ a1.Alphabet),(i_ a1.States),(f_ a1.Marked),.f (.lst 3 (List.map Qc a1.Edges))])),(4,.cells ([.nils 1,(i_ 0),.nils 1,.nils 3])),(7,.cells ([(o_ x9),(i_ a1.States),(f_ a1.Marked),.own 3 (List.map Qc x7)]))]) M,Γ.n0 + 74⟩; exact Qj [] ⟨(kPtr rfl),(kPtr rfl),(kPtr rfl),tv⟩ ⟨⟨_,rfl,rfl,(.same rfl)⟩,⟨_,rfl,rfl,(.same rfl)⟩,⟨_,rfl,rfl,(.same rfl)⟩,tv⟩ rfl) ?_
    refine Qblo hG hM0 7 0 34 hx15 (fun _=>rfl) rfl rfl rfl rfl ⟨rfl,rfl,rfl,tv⟩ ⟨⟨rfl,rfl,rfl,rfl,tv⟩,⟨rfl,rfl,rfl,rfl,tv⟩,⟨rfl,rfl,rfl,(Qbm8 (fun _=>rfl)),tv⟩,tv⟩ (fun c21 hc22 hc23=>?_)
    refine Tr.rgn (Rn.fldP (o':=0) tv rfl rfl (Rn.load (v:=.sl 1 (Γ.n0 + 34) 0 x9.length c21) tv rfl (Qm rfl) rfl rfl ?_))
    refine Rn.callRow (t:=34) (cs:=Qbt (List.map (eI .i64) x9) ((c21 - x9.length) * 1)) (cs':=Qbt (List.map (eI .i64) row10) ((c21 - x9.length) * 1)) tv rfl rfl (fun M2 hM2=>hr14 hc23 _ _ _ _ hM2) rfl ?_
    refine nt ((Tr.rgn (Rn.fldP (o':=0) tv rfl rfl (Rn.load (v:=.sl 1 (Γ.n0 + 34) 0 x9.length c21) tv rfl (Qm rfl) rfl rfl ?_))))
    refine Rn.callRow (t:=34) (cs:=Qbt (List.map (eI .i64) row10) ((c21 - x9.length) * 1)) (cs':=Qbt (List.map (eI .i64) row16) ((c21 - row16.length) * 1)) tv rfl rfl (fun M2 hM2=>Qbnb hr20 hl12 hc22 hM2) rfl ?_
    refine Rn.fldP (o':=0) tv rfl rfl (Rn.storeV (v:=.sl 1 (Γ.n0 + 34) 0 row16.length c21) (cs':=[.sl 1 (Γ.n0 + 34) 0 row16.length c21,(i_ a1.States),(f_ a1.Marked),.own 3 (List.map Qc x7)]) tv rfl rfl rfl rfl rfl rfl rfl rfl ?_)
    refine Rn.weak (by show WeakSt Γ _ ⟨look [(2,.ptr (Γ.n0 + 2) 0),(4,.ptr (Γ.n0 + 4) 0),(7,.ptr (Γ.n0 + 7) 0),(32,.ptr (Γ.n0 + 7) 0),(34,.tup []),(35,.ptr (Γ.n0 + 7) 0),(37,(f_ row16)),(38,.ptr (Γ.n0 + 7) 0)],Qp Γ.n0 (bxs [(2,.cells ([(f_ a1.Alphabet),(i_ a1.States),(f_ a1.Marked),.f (.lst 3 (List.map Qc a1.Edges))])),(4,.cells ([.nils 1,(i_ 0),.nils 1,.nils 3])),(7,.cells ([(f_ row16),(i_ a1.States),(f_ a1.Marked),.own 3 (List.map Qc x7)]))]) M,Γ.n0 + 74⟩; exact Qrl 34 _ rfl Qboy ⟨(fPtr rfl),(fPtr rfl),(fPtr rfl),(fPtr rfl),(.same rfl),(fPtr rfl),(Qbna (fun _=>rfl) (fun _=>rfl) rfl (Nat.le_trans (Nat.le_trans hl18 (Nat.le_of_eq hl12)) hc22)),(fPtr rfl),tv⟩ ⟨⟨_,rfl,rfl,(.cons (.same rfl) (.cons (.same rfl) (.cons (.same rfl) (.cons (.same rfl) .nil))))⟩,⟨_,rfl,rfl,(.cons (.same rfl) (.cons (.same rfl) (.cons (.same rfl) (.cons (.same rfl) .nil))))⟩,⟨_,rfl,rfl,(.cons (Qbna (fun _=>rfl) (fun _=>rfl) rfl (Nat.le_trans (Nat.le_trans hl18 (Nat.le_of_eq hl12)) hc22)) (.cons (.same rfl) (.cons (.same rfl) (.cons (.same rfl) .nil))))⟩,tv⟩ rfl) ?_
    refine Rn.nil ⟨rfl,(by exact Qj [] ⟨(kPtr rfl),(kPtr rfl),(kPtr rfl),tv⟩ ⟨⟨_,rfl,rfl,(.same rfl)⟩,⟨_,rfl,rfl,(.same rfl)⟩,⟨_,rfl,rfl,(.same rfl)⟩,tv⟩ rfl)⟩
  ·refine Tr.cutB (fun (r41:List Qe)=>⟨look [(4,.ptr (Γ.n0 + 4) 0),(7,.ptr (Γ.n0 + 7) 0)],Qp Γ.n0 (bxs [(2,.cells ([(f_ a1.Alphabet),(i_ a1.States),(f_ a1.Marked),.f (.lst 3 (List.map Qc a1.Edges))])),(4,.cells ([.nils 1,(i_ 0),.nils 1,.nils 3])),(7,.cells ([(f_ row16),(i_ a1.States),(f_ a1.Marked),.own 3 (List.map Qc r41)]))]) M,Γ.n0 + 74⟩) h (fun z h=>?_) (fun z h=>?_)
   ·refine sr ((Rn.fldP (o':=1) tv rfl rfl (Rn.load (v:=(i_ a1.States)) tv rfl (Qm rfl) rfl rfl (md rfl (nt ((Tr.block ?_)))))))
    refine Tr.loop (mk:=fun ((x24,r25):Int×(List Qe))=>⟨look [(2,.ptr (Γ.n0 + 2) 0),(4,.ptr (Γ.n0 + 4) 0),(7,.ptr (Γ.n0 + 7) 0),(40,(i_ a1.States)),(41,(i_ x24))],Qp Γ.n0 (bxs [(2,.cells ([(f_ a1.Alphabet),(i_ a1.States),(f_ a1.Marked),.f (.lst 3 (List.map Qc a1.Edges))])),(4,.cells ([.nils 1,(i_ 0),.nils 1,.nils 3])),(7,.cells ([(f_ row16),(i_ a1.States),(f_ a1.Marked),.own 3 (List.map Qc r25)]))]) M,Γ.n0 + 74⟩) h (by exact Ql ⟨(kPtr rfl),(kPtr rfl),(kPtr rfl),(sm rfl),(sm rfl),tv⟩ ⟨⟨_,rfl,rfl,(.same rfl)⟩,⟨_,rfl,rfl,(.same rfl)⟩,⟨_,rfl,rfl,(.same rfl)⟩,tv⟩ rfl) (fun k26 z h=>?_)
    ·obtain ⟨x24,r25⟩:=z
     replace h:_ = some _:=h
     refine sr ((Rn.bin tv rfl rfl rfl (nt ((Tr.seq ?_)))))
     refine Tr.cond rfl (fun hb27=>?_) (fun hb27=>?_)
     ·replace h:=ifT hb27 h
      refine Tr.skip (toN ?_)
      refine Tr.cutB (fun (r40:List Qe)=>⟨look [(2,.ptr (Γ.n0 + 2) 0),(4,.ptr (Γ.n0 + 4) 0),(7,.ptr (Γ.n0 + 7) 0),(40,(i_ a1.States)),(41,(i_ x24))],Qp Γ.n0 (bxs [(2,.cells ([(f_ a1.Alphabet),(i_ a1.States),(f_ a1.Marked),.f (.lst 3 (List.map Qc a1.Edges))])),(4,.cells ([.nils 1,(i_ 0),.nils 1,.nils 3])),(7,.cells ([(f_ row16),(i_ a1.States),(f_ a1.Marked),.own 3 (List.map Qc r40)]))]) M,Γ.n0 + 74⟩) h (fun z h=>?_) (fun z h=>?_)
      ·refine Tr.block (sr ((md rfl (md rfl (nt ((sr ((Rn.fldP (o':=0) tv rfl rfl (Rn.load (v:=(f_ row16)) tv rfl (Qm rfl) rfl rfl ?_))))))))))
       refine Rn.weak (by show WeakSt Γ _ ⟨look [(2,.ptr (Γ.n0 + 2) 0),(4,.ptr (Γ.n0 + 4) 0),(7,.ptr (Γ.n0 + 7) 0),(8,(i_ x24)),(40,(i_ a1.States)),(41,(i_ x24)),(42,(b_ (decide (x24 < a1.States)))),(43,(i_ x24)),(44,.ptr (Γ.n0 + 7) 0),(45,(l_ row16))],Qp Γ.n0 (bxs [(2,.cells ([(f_ a1.Alphabet),(i_ a1.States),(f_ a1.Marked),.f (.lst 3 (List.map Qc a1.Edges))])),(4,.cells ([.nils 1,(i_ 0),.nils 1,.nils 3])),(7,.cells ([(f_ row16),(i_ a1.States),(f_ a1.Marked),.own 3 (List.map Qc r25)]))]) M,Γ.n0 + 74⟩; exact Qj [] ⟨(kPtr rfl),(kPtr rfl),(kPtr rfl),(sm rfl),(sm rfl),(sm rfl),(sm rfl),(sm rfl),(kPtr rfl),fToD,tv⟩ ⟨⟨_,rfl,rfl,(.same rfl)⟩,⟨_,rfl,rfl,(.same rfl)⟩,⟨_,rfl,rfl,(.same rfl)⟩,tv⟩ rfl) ?_
       refine Rn.lenD tv rfl (md rfl (nt ((Tr.block ?_))))
       refine Tr.loop (mk:=fun ((x28,r29):Int×(List Qe))=>⟨look [(2,.ptr (Γ.n0 + 2) 0),(4,.ptr (Γ.n0 + 4) 0),(7,.ptr (Γ.n0 + 7) 0),(8,(i_ x24)),(40,(i_ a1.States)),(41,(i_ x24)),(45,(l_ row16)),(46,(i_ (row16.length:Int))),(47,(i_ x28))],Qp Γ.n0 (bxs [(2,.cells ([(f_ a1.Alphabet),(i_ a1.States),(f_ a1.Marked),.f (.lst 3 (List.map Qc a1.Edges))])),(4,.cells ([.nils 1,(i_ 0),.nils 1,.nils 3])),(7,.cells ([(f_ row16),(i_ a1.States),(f_ a1.Marked),.own 3 (List.map Qc r29)]))]) M,Γ.n0 + 74⟩) h (by exact Ql ⟨(kPtr rfl),(kPtr rfl),(kPtr rfl),(sm rfl),(sm rfl),(sm rfl),(sm rfl),(sm rfl),(sm rfl),tv⟩ ⟨⟨_,rfl,rfl,(.same rfl)⟩,⟨_,rfl,rfl,(.same rfl)⟩,⟨_,rfl,rfl,(.same rfl)⟩,tv⟩ rfl) (fun k30 z h=>?_)
       ·obtain ⟨x28,r29⟩:=z
        replace h:_ = some _:=h
        refine sr ((Rn.bin tv rfl rfl rfl (nt ((Tr.seq ?_)))))
        refine Tr.cond rfl (fun hb31=>?_) (fun hb31=>?_)
        ·replace h:=ifT hb31 h
         refine Tr.skip (toN ?_)
         refine Tr.cutB (fun (r39:List Qe)=>⟨look [(2,.ptr (Γ.n0 + 2) 0),(4,.ptr (Γ.n0 + 4) 0),(7,.ptr (Γ.n0 + 7) 0),(8,(i_ x24)),(40,(i_ a1.States)),(41,(i_ x24)),(45,(l_ row16)),(46,(i_ (row16.length:Int))),(47,(i_ x28))],Qp Γ.n0 (bxs [(2,.cells ([(f_ a1.Alphabet),(i_ a1.States),(f_ a1.Marked),.f (.lst 3 (List.map Qc a1.Edges))])),(4,.cells ([.nils 1,(i_ 0),.nils 1,.nils 3])),(7,.cells ([(f_ row16),(i_ a1.States),(f_ a1.Marked),.own 3 (List.map Qc r39)]))]) M,Γ.n0 + 74⟩) h (fun z h=>?_) (fun z h=>?_)
         ·refine Tr.block (Tr.seq (Tr.rgn ?_))
          obtain ⟨x32,h33,h⟩:=bnd h
          refine Rn.idxD (e:=(eI .i64)) tv rfl rfl h33 (Rn.loadC (x:=.int .i64 x32) tv rfl (md rfl (nt ((sr ((Rn.fldP (o':=0) tv rfl rfl (Rn.load (v:=(f_ a1.Alphabet)) tv rfl (Qm rfl) rfl rfl (md rfl ?_)))))))))
          obtain ⟨x35,h34,h⟩:=bnd h
          refine Rn.call (args:=[(f_ a1.Alphabet),(i_ x32)]) tv rfl (fun M2 nb2=>ACalls.weak (args':=[(l_ a1.Alphabet),(i_ x32)]) (H_slices_Contains_int _ _ _ h34 M2 nb2) (.cons fToD (.cons (sm rfl) .nil)) rfl) pc9 ?_
          refine Rn.un tv rfl rfl (Rn.nil (toN ?_))
          refine Tr.cond rfl (fun hb36=>?_) (fun hb36=>?_)
          ·have hb36:=nT' hb36
           replace h:=bF hb36 h
           refine Tr.rgn (Rn.fldP (o':=3) tv rfl rfl (Rn.loadT (cs':=[(f_ row16),(i_ a1.States),(f_ a1.Marked),.d (.lst 3 (List.map Qc r29))]) tv rfl rfl rfl rfl (md rfl (md rfl (md rfl (Rn.build (v:=.agg [(i_ x24),(i_ x32),(i_ x24)]) tv rfl (Rn.bslice (xs:=[.agg [(i_ x24),(i_ x32),(i_ x24)]]) (cs:=[(i_ x24),(i_ x32),(i_ x24)]) tv rfl rfl rfl rfl ?_)))))))
           obtain ⟨x37,h38,h⟩:=bnd h
           refine Rn.app (e:=Qc) tv rfl rfl rfl (Qcm rfl rfl rfl) h38 rfl (Rn.fldP (o':=3) tv rfl rfl (Rn.storeO (cs':=[(f_ row16),(i_ a1.States),(f_ a1.Marked),.own 3 (List.map Qc x37)]) tv rfl rfl rfl rfl rfl (Rn.nil ?_)))
           replace h:=si h; subst h
           exact Qj [62] ⟨(kPtr rfl),(kPtr rfl),(kPtr rfl),(sm rfl),(sm rfl),(sm rfl),(sm rfl),(sm rfl),(sm rfl),tv⟩ ⟨⟨_,rfl,rfl,(.same rfl)⟩,⟨_,rfl,rfl,(.same rfl)⟩,⟨_,rfl,rfl,(.same rfl)⟩,tv⟩ rfl
          ·have hb36:=nF' hb36
           replace h:=bT hb36 h
           refine Tr.skip ?_
           replace h:=si h; subst h
           exact Qj [] ⟨(kPtr rfl),(kPtr rfl),(kPtr rfl),(sm rfl),(sm rfl),(sm rfl),(sm rfl),(sm rfl),(sm rfl),tv⟩ ⟨⟨_,rfl,rfl,(.same rfl)⟩,⟨_,rfl,rfl,(.same rfl)⟩,⟨_,rfl,rfl,(.same rfl)⟩,tv⟩ rfl
         ·obtain ⟨r39,rfl⟩ : ∃ x,x = z:=⟨_,rfl⟩
          refine Tr.rgn (Rn.bin tv rfl rfl rfl (md rfl (Rn.nil ?_)))
          exact ⟨_,h,(by exact Ql ⟨(kPtr rfl),(kPtr rfl),(kPtr rfl),(sm rfl),(sm rfl),(sm rfl),(sm rfl),(sm rfl),(sm rfl),tv⟩ ⟨⟨_,rfl,rfl,(.same rfl)⟩,⟨_,rfl,rfl,(.same rfl)⟩,⟨_,rfl,rfl,(.same rfl)⟩,tv⟩ rfl)⟩
        ·replace h:=ifF hb31 h
         refine Tr.exit ?_
         replace h:=si h; subst h
         exact Qj [] ⟨(kPtr rfl),(kPtr rfl),(kPtr rfl),(sm rfl),(sm rfl),tv⟩ ⟨⟨_,rfl,rfl,(.same rfl)⟩,⟨_,rfl,rfl,(.same rfl)⟩,⟨_,rfl,rfl,(.same rfl)⟩,tv⟩ rfl
      ·obtain ⟨r40,rfl⟩ : ∃ x,x = z:=⟨_,rfl⟩
       refine Tr.rgn (Rn.bin tv rfl rfl rfl (md rfl (Rn.nil ?_)))
       exact ⟨_,h,(by exact Ql ⟨(kPtr rfl),(kPtr rfl),(kPtr rfl),(sm rfl),(sm rfl),tv⟩ ⟨⟨_,rfl,rfl,(.same rfl)⟩,⟨_,rfl,rfl,(.same rfl)⟩,⟨_,rfl,rfl,(.same rfl)⟩,tv⟩ rfl)⟩
     ·replace h:=ifF hb27 h
      refine Tr.exit ?_
      replace h:=si h; subst h
      exact Qj [] ⟨(kPtr rfl),(kPtr rfl),tv⟩ ⟨⟨_,rfl,rfl,(.same rfl)⟩,⟨_,rfl,rfl,(.same rfl)⟩,⟨_,rfl,rfl,(.same rfl)⟩,tv⟩ rfl
   ·obtain ⟨r41,rfl⟩ : ∃ x,x = z:=⟨_,rfl⟩
    obtain ⟨row42,hs43,h⟩:=bnd h
    obtain ⟨hl44,hn45,hr46⟩:=H_slices_SortFunc_Edge _ _ hs43
    refine Tr.seqW ⟨look [(4,.ptr (Γ.n0 + 4) 0),(7,.ptr (Γ.n0 + 7) 0)],Qp Γ.n0 (bxs [(2,.cells ([(f_ a1.Alphabet),(i_ a1.States),(f_ a1.Marked),.f (.lst 3 (List.map Qc a1.Edges))])),(4,.cells ([.nils 1,(i_ 0),.nils 1,.nils 3])),(7,.cells ([(f_ row16),(i_ a1.States),(f_ a1.Marked),.f (.lst 3 (List.map Qc row42))]))]) M,Γ.n0 + 74⟩ ?_ ?_
    ·by_cases hx47:r41 = []
     ·obtain ⟨hyx,hn45b⟩:=hn45 hx47
      replace hyx:=hyx.symm
      subst hyx
      replace hn45:=And.intro tv hn45b
      refine Tr.rgn (Rn.fldP (o':=3) tv rfl rfl (Rn.load (v:=.d (.lst 3 (List.map Qc r41))) tv rfl (Qm rfl) rfl rfl (Rn.call (args:=[.d (.lst 3 (List.map Qc r41)),.clo 70 []]) tv rfl (hn45.2) pc9 ?_)))
      refine Rn.nil ⟨rfl,(by exact Qj [] ⟨(kPtr rfl),(kPtr rfl),tv⟩ ⟨⟨_,rfl,rfl,(.same rfl)⟩,⟨_,rfl,rfl,(.same rfl)⟩,⟨_,rfl,rfl,(.cons (sm rfl) (.cons (sm rfl) (.cons (sm rfl) (.cons (Qbqf hx47) .nil))))⟩,tv⟩ rfl)⟩
     ·refine Tr.weak (by show WeakSt Γ _ ⟨look [(4,.ptr (Γ.n0 + 4) 0),(7,.ptr (Γ.n0 + 7) 0)],Qp Γ.n0 (bxs [(2,.cells ([(f_ a1.Alphabet),(i_ a1.States),(f_ a1.Marked),.f (.lst 3 (List.map Qc a1.Edges))])),(4,.cells ([.nils 1,(i_ 0),.nils 1,.nils 3])),(7,.cells ([(f_ row16),(i_ a1.States),(f_ a1.Marked),.own 3 (List.map Qc r41)]))]) M,Γ.n0 + 74⟩; exact Qj [] ⟨(kPtr rfl),(kPtr rfl),tv⟩ ⟨⟨_,rfl,rfl,(.same rfl)⟩,⟨_,rfl,rfl,(.same rfl)⟩,⟨_,rfl,rfl,(.same rfl)⟩,tv⟩ rfl) ?_
      refine Qblo hG hM0 7 3 69 hx47 (fun _=>rfl) rfl rfl rfl rfl ⟨rfl,rfl,tv⟩ ⟨⟨rfl,rfl,rfl,rfl,tv⟩,⟨rfl,rfl,rfl,rfl,tv⟩,⟨rfl,rfl,rfl,rfl,tv⟩,tv⟩ (fun c48 hc49 hc50=>?_)
      refine Tr.rgn (Rn.fldP (o':=3) tv rfl rfl (Rn.load (v:=.sl 3 (Γ.n0 + 69) 0 r41.length c48) tv rfl (Qm rfl) rfl rfl ?_))
      refine Rn.callRow (t:=69) (cs:=Qbt (List.map Qc r41) ((c48 - r41.length) * 3)) (cs':=Qbt (List.map Qc row42) ((c48 - r41.length) * 3)) tv rfl rfl (fun M2 hM2=>hr46 hc50 _ _ _ _ hM2) rfl ?_
      refine Rn.weak (by show WeakSt Γ _ ⟨look [(4,.ptr (Γ.n0 + 4) 0),(7,.ptr (Γ.n0 + 7) 0),(67,.ptr (Γ.n0 + 7) 3),(68,.f (.lst 3 (List.map Qc row42))),(69,.tup [])],Qp Γ.n0 (bxs [(2,.cells ([(f_ a1.Alphabet),(i_ a1.States),(f_ a1.Marked),.f (.lst 3 (List.map Qc a1.Edges))])),(4,.cells ([.nils 1,(i_ 0),.nils 1,.nils 3])),(7,.cells ([(f_ row16),(i_ a1.States),(f_ a1.Marked),.f (.lst 3 (List.map Qc row42))]))]) M,Γ.n0 + 74⟩; exact Qrl 69 _ rfl Qboy ⟨(fPtr rfl),(fPtr rfl),(fPtr rfl),(Qbna (fun _=>rfl) (fun _=>rfl) hl44 hc49),(.same rfl),tv⟩ ⟨⟨_,rfl,rfl,(.cons (.same rfl) (.cons (.same rfl) (.cons (.same rfl) (.cons (.same rfl) .nil))))⟩,⟨_,rfl,rfl,(.cons (.same rfl) (.cons (.same rfl) (.cons (.same rfl) (.cons (.same rfl) .nil))))⟩,⟨_,rfl,rfl,(.cons (.same rfl) (.cons (.same rfl) (.cons (.same rfl) (.cons (Qbna (fun _=>rfl) (fun _=>rfl) hl44 hc49) .nil))))⟩,tv⟩ rfl) ?_
      refine Rn.nil ⟨rfl,(by exact Qj [] ⟨(kPtr rfl),(kPtr rfl),tv⟩ ⟨⟨_,rfl,rfl,(.same rfl)⟩,⟨_,rfl,rfl,(.same rfl)⟩,⟨_,rfl,rfl,(.same rfl)⟩,tv⟩ rfl)⟩
    ·refine sr ((Rn.load (v:=.agg [(f_ row16),(i_ a1.States),(f_ a1.Marked),.f (.lst 3 (List.map Qc row42))]) tv rfl (Qm rfl) rfl rfl ?_))
     obtain ⟨⟨r52,r53⟩,h51,h⟩:=bnd h
     refine Rn.call (args:=[.agg [(f_ row16),(i_ a1.States),(f_ a1.Marked),.f (.lst 3 (List.map Qc row42))]]) tv rfl (fun M2 nb2=>ACalls.weak (args':=[.agg [(l_ row16),(i_ a1.States),(l_ a1.Marked),.d (.lst 3 (List.map Qc row42))]]) (H_automaton_Canonical _ _ h51 M2 nb2) (.cons (WkV.agg (.cons fToD (.cons (sm rfl) (.cons fToD (.cons fToD .nil))))) .nil) rfl) pc9 ?_
     refine Rn.ext (v:=(Qa r52)) (vs:=[(Qa r52),(i_ r53)]) tv rfl rfl rfl (Rn.ext (v:=(i_ r53)) (vs:=[(Qa r52),(i_ r53)]) tv rfl rfl rfl (Rn.storeT (v:=(Qa r52)) (ds:=(Qd r52)) (cs':=(Qd r52)) tv rfl rfl rfl rfl rfl rfl rfl (md rfl (nt ((Tr.ret ?_))))))
     replace h:=si h; subst h
     exact ⟨.inr rfl,.tup [(Qa r52),(i_ r53)],res2 (Qif rfl rfl rfl rfl) rfl,(WkV.tup (.cons (.same rfl) (.cons (.same rfl) .nil))).rd,⟨⟨tv,tv,tv,tv,tv⟩,tv,tv⟩,fun k hk=>Qf hk⟩
theorem Qqq {P:Program} {c:Nat} (hcf:Qu P c = some Qgd) (fuel:Nat):Qdl P c (Qv fuel):=by
 intro a1 b2 r h
 refine Qcf hcf rfl fun Γ M hP hnt hM=>?_
 subst hP
 refine Tr.init [(0,(l_ a1)),(1,(l_ b2))] rfl ?_
 unfold Qv at h
 unfold Qgd
 refine sr ((md rfl (nt ((Tr.seq (sr ((md rfl (Rn.lenD tv rfl (md rfl (Rn.lenD tv rfl (Rn.bin tv rfl rfl rfl (Rn.nil (toN ?_))))))))))))))
 refine Tr.cond rfl (fun hb3=>?_) (fun hb3=>?_)
 ·replace h:=bT hb3 h
  refine sr ((md rfl (nt ((Tr.ret ?_)))))
  replace h:=si h; subst h
  exact ⟨.inr rfl,(b_ false),rfl,fun _ _ _ _ h=>h,tv,fun k hk=>Qf hk⟩
 ·replace h:=bF hb3 h
  refine Tr.skip (toN (Tr.seq (sr ((md rfl (nt ((Tr.block ?_))))))))
  refine Tr.loop (mk:=fun (i4:Int)=>⟨look [(0,(l_ a1)),(1,(l_ b2)),(5,(i_ i4))],Qp Γ.n0 (bxs []) M,Γ.n0 + 26⟩) h (by exact Ql ⟨(sm rfl),(sm rfl),(sm rfl),tv⟩ tv rfl) (fun k5 z h=>?_)
  ·obtain ⟨i4,rfl⟩ : ∃ x,x = z:=⟨_,rfl⟩
   replace h:_ = some _:=h
   refine Tr.seq (sr ((md rfl (md rfl (Rn.lenD tv rfl (Rn.bin tv rfl rfl rfl (Rn.nil (toN ?_))))))))
   refine Tr.cond rfl (fun hb6=>?_) (fun hb6=>?_)
   ·replace h:=ifT hb6 h
    refine Tr.skip (toN (Tr.seq (Tr.block (Tr.seq ?_))))
    refine Tr.rgnD (by decide) ?_
    refine md rfl (md rfl ?_)
    obtain ⟨x7,h8,h⟩:=bnd h
    refine Rn.idxD (e:=(eI .i64)) tv rfl rfl h8 (Rn.loadC (x:=.int .i64 x7) tv rfl (md rfl (md rfl ?_)))
    obtain ⟨x9,h10,h⟩:=bnd h
    refine Rn.idxD (e:=(eI .i64)) tv rfl rfl h10 (Rn.loadC (x:=.int .i64 x9) tv rfl (Rn.bin tv rfl rfl rfl ?_))
    refine Rn.nil ⟨rfl,?_⟩
    refine toN ?_
    refine Tr.cond rfl (fun hb11=>?_) (fun hb11=>?_)
    ·replace h:=bT hb11 h
     refine sr ((md rfl (nt ((Tr.ret ?_)))))
     replace h:=si h; subst h
     exact ⟨.inr rfl,(b_ false),rfl,fun _ _ _ _ h=>h,tv,fun k hk=>Qf hk⟩
    ·replace h:=bF hb11 h
     refine Tr.skip (toN (Tr.rgn (md rfl (Rn.bin tv rfl rfl rfl (md rfl (Rn.nil ?_))))))
     exact ⟨_,h,(by exact Ql ⟨(sm rfl),(sm rfl),(sm rfl),tv⟩ tv rfl)⟩
   ·replace h:=ifF hb6 h
    refine Tr.exit (toN (sr ((md rfl (nt ((Tr.ret ?_)))))))
    replace h:=si h; subst h
    exact ⟨.inr rfl,(b_ true),rfl,fun _ _ _ _ h=>h,tv,fun k hk=>Qf hk⟩
theorem Qyf {P:Program} {c:Nat} {Qv:(List Int)→(List Int)→Option Bool}
    (H_overseerref03_SameInts:Qdl P 19 Qv) (hcf:Qu P c = some Qin) (fuel:Nat):Qim P c (Qcs Qv fuel):=by
 intro a1 b2 r h
 refine Qcf hcf rfl fun Γ M hP hnt hM=>?_
 subst hP
 refine Tr.init [(0,(Qa a1)),(1,(Qa b2))] rfl ?_
 unfold Qcs at h
 unfold Qin
 refine sr ((Rn.box (v:=(Qa a1)) (cs:=(Qd a1)) tv rfl rfl rfl rfl rfl (Rn.box (v:=(Qa b2)) (cs:=(Qd b2)) tv rfl rfl rfl rfl rfl (md rfl (nt ((Tr.seq ?_)))))))
 refine Tr.cutB (fun (x10:Bool)=>⟨look [(2,.ptr (Γ.n0 + 2) 0),(3,.ptr (Γ.n0 + 3) 0),(35,(b_ x10))],Qp Γ.n0 (bxs [(2,.cells ((Qd a1))),(3,.cells ((Qd b2)))]) M,Γ.n0 + 54⟩) h (fun z h=>?_) (fun z h=>?_)
 ·refine Tr.rgn (Rn.fldP (o':=0) tv rfl rfl (Rn.load (v:=(l_ a1.Alphabet)) tv rfl (Qm rfl) rfl rfl (Rn.fldP (o':=0) tv rfl rfl (Rn.load (v:=(l_ b2.Alphabet)) tv rfl (Qm rfl) rfl rfl ?_))))
  obtain ⟨x4,h3,h⟩:=bnd h
  refine Rn.call (args:=[(l_ a1.Alphabet),(l_ b2.Alphabet)]) tv rfl (H_overseerref03_SameInts _ _ _ h3) pc9 (Rn.un tv rfl rfl (md rfl ?_))
  refine Qc0 x4 (fun hb5=>?_) (fun hb5=>?_)
  ·replace h:=bT hb5 h
   refine Rn.fldP (o':=1) (gw rfl (nT hb5)) rfl rfl (Rn.load (v:=(i_ a1.States)) (gw rfl (nT hb5)) rfl (Qm rfl) rfl rfl (Rn.fldP (o':=1) (gw rfl (nT hb5)) rfl rfl (Rn.load (v:=(i_ b2.States)) (gw rfl (nT hb5)) rfl (Qm rfl) rfl rfl (Rn.bin (gw rfl (nT hb5)) rfl rfl rfl (Rn.pickF (v:=(b_ (a1.States != b2.States))) tv rfl (nT hb5) rfl (md rfl ?_))))))
   refine Qc0 (a1.States != b2.States) (fun hb6=>?_) (fun hb6=>?_)
   ·replace h:=bT hb6 h
    refine Rn.sk (nw rfl hb6) (Rn.sk (nw rfl hb6) (Rn.sk (nw rfl hb6) (Rn.sk (nw rfl hb6) (Rn.sk (nw rfl hb6) (Rn.sk (nw rfl hb6) (Rn.pickT (v:=(b_ true)) tv rfl hb6 rfl (md rfl (Rn.sk (nw (b:=true) rfl rfl) (Rn.sk (nw (b:=true) rfl rfl) (Rn.sk (nw (b:=true) rfl rfl) (Rn.sk (nw (b:=true) rfl rfl) (Rn.sk (nw (b:=true) rfl rfl) (Rn.sk (nw (b:=true) rfl rfl) (Rn.sk (nw (b:=true) rfl rfl) (Rn.pickT (v:=(b_ true)) tv rfl rfl rfl (Rn.nil ?_))))))))))))))))
    replace h:=si h; subst h
    exact Qj [] ⟨(kPtr rfl),(kPtr rfl),(sm rfl),tv⟩ ⟨⟨_,rfl,rfl,(.same rfl)⟩,⟨_,rfl,rfl,(.same rfl)⟩,tv⟩ rfl
   ·replace h:=bF hb6 h
    refine Rn.fldP (o':=2) (gw rfl hb6) rfl rfl (Rn.load (v:=(l_ a1.Marked)) (gw rfl hb6) rfl (Qm rfl) rfl rfl (Rn.fldP (o':=2) (gw rfl hb6) rfl rfl (Rn.load (v:=(l_ b2.Marked)) (gw rfl hb6) rfl (Qm rfl) rfl rfl ?_)))
    obtain ⟨x8,h7,h⟩:=bnd h
    refine Rn.call (args:=[(l_ a1.Marked),(l_ b2.Marked)]) (gw rfl hb6) rfl (H_overseerref03_SameInts _ _ _ h7) pc9 (Rn.un (gw rfl hb6) rfl rfl (Rn.pickF (v:=(b_ (!x8))) tv rfl hb6 rfl (md rfl ?_)))
    refine Qc0 x8 (fun hb9=>?_) (fun hb9=>?_)
    ·replace h:=bT hb9 h
     refine Rn.fldP (o':=3) (gw rfl (nT hb9)) rfl rfl (Rn.load (v:=.d (.lst 3 (List.map Qc a1.Edges))) (gw rfl (nT hb9)) rfl (Qm rfl) rfl rfl (Rn.lenD (gw rfl (nT hb9)) rfl (Rn.fldP (o':=3) (gw rfl (nT hb9)) rfl rfl (Rn.load (v:=.d (.lst 3 (List.map Qc b2.Edges))) (gw rfl (nT hb9)) rfl (Qm rfl) rfl rfl (Rn.lenD (gw rfl (nT hb9)) rfl (Rn.bin (gw rfl (nT hb9)) rfl rfl rfl (Rn.pickF (v:=(b_ ((a1.Edges.length:Int) != (b2.Edges.length:Int)))) tv rfl (nT hb9) rfl (Rn.nil ?_))))))))
     replace h:=si h; subst h
     exact Qj [] ⟨(kPtr rfl),(kPtr rfl),(sm rfl),tv⟩ ⟨⟨_,rfl,rfl,(.same rfl)⟩,⟨_,rfl,rfl,(.same rfl)⟩,tv⟩ rfl
    ·replace h:=bF hb9 h
     refine Rn.sk (nw rfl (nF hb9)) (Rn.sk (nw rfl (nF hb9)) (Rn.sk (nw rfl (nF hb9)) (Rn.sk (nw rfl (nF hb9)) (Rn.sk (nw rfl (nF hb9)) (Rn.sk (nw rfl (nF hb9)) (Rn.sk (nw rfl (nF hb9)) (Rn.pickT (v:=(b_ true)) tv rfl (nF hb9) rfl (Rn.nil ?_))))))))
     replace h:=si h; subst h
     exact Qj [] ⟨(kPtr rfl),(kPtr rfl),(sm rfl),tv⟩ ⟨⟨_,rfl,rfl,(.same rfl)⟩,⟨_,rfl,rfl,(.same rfl)⟩,tv⟩ rfl
  ·replace h:=bF hb5 h
   refine Rn.sk (nw rfl (nF hb5)) (Rn.sk (nw rfl (nF hb5)) (Rn.sk (nw rfl (nF hb5)) (Rn.sk (nw rfl (nF hb5)) (Rn.sk (nw rfl (nF hb5)) (Rn.pickT (v:=(b_ true)) tv rfl (nF hb5) rfl (md rfl (Rn.sk (nw (b:=true) rfl rfl) (Rn.sk (nw (b:=true) rfl rfl) (Rn.sk (nw (b:=true) rfl rfl) (Rn.sk (nw (b:=true) rfl rfl) (Rn.sk (nw (b:=true) rfl rfl) (Rn.sk (nw (b:=true) rfl rfl) (Rn.pickT (v:=(b_ true)) tv rfl rfl rfl (md rfl (Rn.sk (nw (b:=true) rfl rfl) (Rn.sk (nw (b:=true) rfl rfl) (Rn.sk (nw (b:=true) rfl rfl) (Rn.sk (nw (b:=true) rfl rfl) (Rn.sk (nw (b:=true) rfl rfl) (Rn.sk (nw (b:=true) rfl rfl) (Rn.sk (nw (b:=true) rfl rfl) (Rn.pickT (v:=(b_ true)) tv rfl rfl rfl (Rn.nil ?_)))))))))))))))))))))))
   replace h:=si h; subst h
   exact Qj [] ⟨(kPtr rfl),(kPtr rfl),(sm rfl),tv⟩ ⟨⟨_,rfl,rfl,(.same rfl)⟩,⟨_,rfl,rfl,(.same rfl)⟩,tv⟩ rfl
 ·obtain ⟨x10,rfl⟩ : ∃ x,x = z:=⟨_,rfl⟩
  refine Tr.cond rfl (fun hb11=>?_) (fun hb11=>?_)
  ·replace h:=bT hb11 h
   refine sr ((md rfl (nt ((Tr.ret ?_)))))
   replace h:=si h; subst h
   exact ⟨.inr rfl,(b_ false),rfl,fun _ _ _ _ h=>h,tv,fun k hk=>Qf hk⟩
  ·replace h:=bF hb11 h
   refine Tr.skip (toN (Tr.seq (sr ((md rfl (nt ((Tr.block ?_))))))))
   refine Tr.loop (mk:=fun (i12:Int)=>⟨look [(2,.ptr (Γ.n0 + 2) 0),(3,.ptr (Γ.n0 + 3) 0),(5,(i_ i12))],Qp Γ.n0 (bxs [(2,.cells ((Qd a1))),(3,.cells ((Qd b2)))]) M,Γ.n0 + 54⟩) h (by exact Ql ⟨(kPtr rfl),(kPtr rfl),(sm rfl),tv⟩ ⟨⟨_,rfl,rfl,(.same rfl)⟩,⟨_,rfl,rfl,(.same rfl)⟩,tv⟩ rfl) (fun k13 z h=>?_)
   ·obtain ⟨i12,rfl⟩ : ∃ x,x = z:=⟨_,rfl⟩
    replace h:_ = some _:=h
    refine Tr.seq (sr ((md rfl (Rn.fldP (o':=3) tv rfl rfl (Rn.load (v:=.d (.lst 3 (List.map Qc a1.Edges))) tv rfl (Qm rfl) rfl rfl (Rn.lenD tv rfl (Rn.bin tv rfl rfl rfl (Rn.nil (toN ?_)))))))))
    refine Tr.cond rfl (fun hb14=>?_) (fun hb14=>?_)
    ·replace h:=ifT hb14 h
     refine Tr.skip (toN (Tr.seq (Tr.block (Tr.seq ?_))))
     refine Tr.rgnD (by decide) ?_
     refine Rn.fldP (o':=3) tv rfl rfl (Rn.load (v:=.d (.lst 3 (List.map Qc a1.Edges))) tv rfl (Qm rfl) rfl rfl (md rfl ?_))
     obtain ⟨x15,h16,h⟩:=bnd h
     refine Rn.idxD (e:=Qc) tv rfl rfl h16 (Rn.loadCA (vs:=(Qbj x15)) tv rfl rfl rfl (Rn.fldP (o':=3) tv rfl rfl (Rn.load (v:=.d (.lst 3 (List.map Qc b2.Edges))) tv rfl (Qm rfl) rfl rfl (md rfl ?_))))
     obtain ⟨x17,h18,h⟩:=bnd h
     refine Rn.idxD (e:=Qc) tv rfl rfl h18 (Rn.loadCA (vs:=(Qbj x17)) tv rfl rfl rfl (Rn.eqa (r:=((x15.From == x17.From) && ((x15.Event == x17.Event) && ((x15.To == x17.To) && true)))) tv rfl rfl rfl ?_))
     refine Rn.nil ⟨rfl,?_⟩
     refine toN ?_
     refine Tr.cond rfl (fun hb19=>?_) (fun hb19=>?_)
     ·have hb19:=nT' hb19
      replace h:=bF hb19 h
      refine sr ((md rfl (nt ((Tr.ret ?_)))))
      replace h:=si h; subst h
      exact ⟨.inr rfl,(b_ false),rfl,fun _ _ _ _ h=>h,tv,fun k hk=>Qf hk⟩
     ·have hb19:=nF' hb19
      replace h:=bT hb19 h
      refine Tr.skip (toN (Tr.rgn (md rfl (Rn.bin tv rfl rfl rfl (md rfl (Rn.nil ?_))))))
      exact ⟨_,h,(by exact Ql ⟨(kPtr rfl),(kPtr rfl),(sm rfl),tv⟩ ⟨⟨_,rfl,rfl,(.same rfl)⟩,⟨_,rfl,rfl,(.same rfl)⟩,tv⟩ rfl)⟩
    ·replace h:=ifF hb14 h
     refine Tr.exit (toN (sr ((md rfl (nt ((Tr.ret ?_)))))))
     replace h:=si h; subst h
     exact ⟨.inr rfl,(b_ true),rfl,fun _ _ _ _ h=>h,tv,fun k hk=>Qf hk⟩
end Go.Abs
