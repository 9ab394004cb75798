/-
  Part 5 of the proof: see the last text.
-/
import Derived.Test.YtddmeallinaokaaP4
set_option linter.unusedVariables false
set_option linter.unusedSimpArgs false
set_option linter.unusedSectionVars false
namespace Go.Abs
open Go
set_option linter.unusedVariables false
set_option maxRecDepth 10000
set_option maxHeartbeats 4000000
theorem Q0g {P : Program} {c : Nat} (hcf : Qm P c = some Qju) (fuel : Nat) : Qgn P c (Q7 fuel):=by
 intro s1 v2 r h
 refine Qb1 hcf rfl fun Γ M hP hnt hM=>?_
 subst hP
 refine Tr.init [(0,(l_ s1)),(1,(i_ v2))] rfl ?_
 unfold Q7 at h
 unfold Qju
 refine sr ((md rfl (nt ((Tr.seq (sr ((md rfl (Rn.lenD tv rfl (md rfl (nt ((Tr.block ?_)))))))))))))
 refine Tr.loop (mk:=fun (x3 : Int)=>⟨look [(0,(l_ s1)),(1,(i_ v2)),(7,(i_ (s1.length : Int))),(8,(i_ x3))],Qk Γ.n0 (bxs []) M,Γ.n0 + 19⟩) h (by exact Qi ⟨(sm rfl),(sm rfl),(sm rfl),(sm rfl),tv⟩ tv rfl) (fun k4 z h=>?_)
 ·obtain ⟨x3,rfl⟩ : ∃ x,x = z:=⟨_,rfl⟩
  replace h : _ = some _:=h
  refine sr ((Rn.bin tv rfl rfl rfl (nt ((Tr.seq ?_)))))
  refine Tr.cond rfl (fun hb5=>?_) (fun hb5=>?_)
  ·replace h:=ifT hb5 h
   refine Tr.skip (toN (Tr.seq (Tr.block (sr ((md rfl (md rfl (nt ((sr ((md rfl (md rfl (md rfl ?_))))))))))))))
   obtain ⟨x6,h7,h⟩:=bnd h
   refine Rn.idxD (e:=(eI .i64)) tv rfl rfl h7 (Rn.loadC (x:=.int .i64 x6) tv rfl (Rn.bin tv rfl rfl rfl (Rn.nil (toN ?_))))
   refine Tr.cond rfl (fun hb8=>?_) (fun hb8=>?_)
   ·replace h:=bT hb8 h
    refine sr ((md rfl (md rfl (nt ((Tr.ret ?_))))))
    replace h:=si h; subst h
    exact ⟨.inr rfl,(i_ x3),rfl,fun _ _ _ _ h=>h,tv,fun k hk=>Qf hk⟩
   ·replace h:=bF hb8 h
    refine Tr.skip (toN (Tr.rgn (Rn.bin tv rfl rfl rfl (md rfl (Rn.nil ?_)))))
    exact ⟨_,h,(by exact Qi ⟨(sm rfl),(sm rfl),(sm rfl),(sm rfl),tv⟩ tv rfl)⟩
  ·replace h:=ifF hb5 h
   refine Tr.exit (toN (sr ((md rfl (nt ((Tr.ret ?_)))))))
   replace h:=si h; subst h
   exact ⟨.inr rfl,(i_ (-1)),rfl,fun _ _ _ _ h=>h,tv,fun k hk=>Qf hk⟩
theorem Qrx {P : Program} {c : Nat} {Q7 : (List Int) → Int → Option Int}
    (H_slices_Index_int : Qgn P 26 Q7) (hcf : Qm P c = some Qgv) : Qc6 P c (Ql Q7):=by
 intro s1 v2 r h
 refine Qb1 hcf rfl fun Γ M hP hnt hM=>?_
 subst hP
 refine Tr.init [(0,(l_ s1)),(1,(i_ v2))] rfl ?_
 unfold Ql at h
 unfold Qgv
 refine sr ((md rfl (nt ((sr ((md rfl (md rfl ?_))))))))
 obtain ⟨x4,h3,h⟩:=bnd h
 refine Rn.call (args:=[(l_ s1),(i_ v2)]) tv rfl (H_slices_Index_int _ _ _ h3) pc9 (Rn.bin tv rfl rfl rfl (md rfl (nt ((Tr.ret ?_)))))
 replace h:=si h; subst h
 exact ⟨.inr rfl,(b_ (decide (x4 ≥ 0))),rfl,fun _ _ _ _ h=>h,tv,fun k hk=>Qf hk⟩
theorem Qpa {P : Program} {c : Nat} {Ql : (List Int) → Int → Option Bool}
    (H_slices_Contains_int : Qc6 P 12 Ql) (hcf : Qm P c = some Qf5) (fuel : Nat) : Qeg P c (Qx Ql fuel):=by
 intro l1 r h
 refine Qb1 hcf rfl fun Γ M hP hnt hM=>?_
 subst hP
 refine Tr.init [(0,(l_ l1))] rfl ?_
 unfold Qx at h
 unfold Qf5
 refine sr ((md rfl (nt ((Tr.seq (sr ((md rfl (Rn.lenD tv rfl (md rfl (nt ((Tr.block ?_)))))))))))))
 refine Tr.loop (mk:=fun (x2 : Int)=>⟨look [(0,(l_ l1)),(5,(l_ l1)),(6,(i_ (l1.length : Int))),(7,(i_ x2))],Qk Γ.n0 (bxs []) M,Γ.n0 + 24⟩) h (by exact Qi ⟨(sm rfl),(sm rfl),(sm rfl),(sm rfl),tv⟩ tv rfl) (fun k3 z h=>?_)
 ·obtain ⟨x2,rfl⟩ : ∃ x,x = z:=⟨_,rfl⟩
  replace h : _ = some _:=h
  refine sr ((Rn.bin tv rfl rfl rfl (nt ((Tr.seq ?_)))))
  refine Tr.cond rfl (fun hb4=>?_) (fun hb4=>?_)
  ·replace h:=ifT hb4 h
   refine Tr.skip (toN (Tr.seq (Tr.block (sr ((md rfl ?_))))))
   obtain ⟨x5,h6,h⟩:=bnd h
   refine Rn.idxD (e:=(eI .i64)) tv rfl rfl h6 (Rn.loadC (x:=.int .i64 x5) tv rfl (md rfl (md rfl (nt ((Tr.seq ?_))))))
   refine Tr.cutB (fun (x8 : Bool)=>⟨look [(0,(l_ l1)),(3,(i_ x2)),(4,(i_ x5)),(5,(l_ l1)),(6,(i_ (l1.length : Int))),(7,(i_ x2)),(17,(b_ x8))],Qk Γ.n0 (bxs []) M,Γ.n0 + 24⟩) h (fun z h=>?_) (fun z h=>?_)
   ·refine Tr.rgn (md rfl (Rn.bin tv rfl rfl rfl (md rfl ?_)))
    refine Qck (decide (x5 < 0)) (fun hb7=>?_) (fun hb7=>?_)
    ·replace h:=ifT hb7 h
     refine Rn.sk (nw rfl hb7) (Rn.sk (nw rfl hb7) (Rn.pickT (v:=(b_ true)) tv rfl hb7 rfl (Rn.nil ?_)))
     replace h:=si h; subst h
     exact Qg [] ⟨(sm rfl),(sm rfl),(sm rfl),(sm rfl),(sm rfl),(sm rfl),(sm rfl),tv⟩ tv rfl
    ·replace h:=ifF hb7 h
     refine Rn.movD (gw rfl hb7) rfl (Rn.bin (gw rfl hb7) rfl rfl rfl (Rn.pickF (v:=(b_ (decide (x5 ≥ 32)))) tv rfl hb7 rfl (Rn.nil ?_)))
     replace h:=si h; subst h
     exact Qg [] ⟨(sm rfl),(sm rfl),(sm rfl),(sm rfl),(sm rfl),(sm rfl),(sm rfl),tv⟩ tv rfl
   ·obtain ⟨x8,rfl⟩ : ∃ x,x = z:=⟨_,rfl⟩
    refine Tr.cond rfl (fun hb9=>?_) (fun hb9=>?_)
    ·replace h:=bT hb9 h
     refine sr ((md rfl (nt ((Tr.ret ?_)))))
     replace h:=si h; subst h
     exact ⟨.inr rfl,(i_ 2),rfl,fun _ _ _ _ h=>h,tv,fun k hk=>Qf hk⟩
    ·replace h:=bF hb9 h
     refine Tr.skip (toN (sr ((md rfl (md rfl ?_)))))
     obtain ⟨x10,h11,h⟩:=bnd h
     refine Rn.slcH (e:=(eI .i64)) tv rfl rfl h11 (md rfl ?_)
     obtain ⟨x13,h12,h⟩:=bnd h
     refine Rn.call (args:=[(l_ x10),(i_ x5)]) tv rfl (H_slices_Contains_int _ _ _ h12) pc9 (Rn.nil (toN ?_))
     refine Tr.cond rfl (fun hb14=>?_) (fun hb14=>?_)
     ·replace h:=bT hb14 h
      refine sr ((md rfl (nt ((Tr.ret ?_)))))
      replace h:=si h; subst h
      exact ⟨.inr rfl,(i_ 8),rfl,fun _ _ _ _ h=>h,tv,fun k hk=>Qf hk⟩
     ·replace h:=bF hb14 h
      refine Tr.skip (toN (Tr.rgn (Rn.bin tv rfl rfl rfl (md rfl (Rn.nil ?_)))))
      exact ⟨_,h,(by exact Qi ⟨(sm rfl),(sm rfl),(sm rfl),(sm rfl),tv⟩ tv rfl)⟩
  ·replace h:=ifF hb4 h
   refine Tr.exit (toN (sr ((md rfl (nt ((Tr.ret ?_)))))))
   replace h:=si h; subst h
   exact ⟨.inr rfl,(i_ 0),rfl,fun _ _ _ _ h=>h,tv,fun k hk=>Qf hk⟩
theorem Q0h {P : Program} {c : Nat} (hcf : Qm P c = some Qjv) : Qdw P c (Qn):=by
 intro s1 r h
 refine Qb1 hcf rfl fun Γ M hP hnt hM=>?_
 subst hP
 refine Tr.init [(0,(l_ s1))] rfl ?_
 unfold Qn at h
 unfold Qjv
 refine sr ((Rn.movTC (v:=.nils 1) tv (nt ((Tr.seq (sr ((md rfl ?_))))))))
 refine Rn.isnil (e:=(eI .i64)) tv rfl h (fun b2 h=>?_)
 refine Rn.nil (toN ?_)
 refine Tr.cond rfl (fun hb3=>?_) (fun hb3=>?_)
 ·replace h:=bT hb3 h
  refine sr ((Rn.movTC (v:=.nils 1) tv (nt ((Tr.ret ?_)))))
  replace h:=si h; subst h
  exact ⟨.inr rfl,(.nils 1),rfl,(WkV.nilsO _).rd,tv,fun k hk=>Qf hk⟩
 ·replace h:=bF hb3 h
  refine Tr.skip (toN (sr ((Rn.bslice (xs:=[]) (cs:=[]) tv rfl rfl rfl rfl (md rfl ?_)))))
  obtain ⟨x4,h5,h⟩:=bnd h
  refine Rn.app0 (e:=(eI .i64)) tv rfl rfl rfl rfl Qyn h5 rfl (Rn.movTO tv rfl (nt ((Tr.ret ?_))))
  replace h:=si h; subst h
  exact ⟨.inr rfl,(o_ x4),rfl,fun _ _ _ _ h=>h,tv,fun k hk=>Qf hk⟩
theorem Qu2 {P : Program} {c : Nat} {Qn : (List Int) → Option ((List Int))} {f_slices_Sort_int : List Int → Option (List Int)}
    (H_slices_Clone_int : Qdw P 11 Qn)
    (H_slices_Sort_int : RowK P 24 (eI .i64) 1 [] f_slices_Sort_int) (hcf : Qm P c = some Qhp) : Qe7 P c (Q5 Qn f_slices_Sort_int):=by
 intro l1 r h
 refine Qbiz hcf (args':=[(f_ l1)]) rfl rfl rfl rfl rfl rfl fun Γ M hP hnt hG hM0 hM=>?_
 subst hP
 refine Tr.init [(0,(f_ l1))] rfl ?_
 unfold Q5 at h
 unfold Qhp
 refine sr ((Rn.movTC (v:=.nils 1) tv (nt ((sr ((Rn.mov (v:=(f_ l1)) tv rfl ?_)))))))
 obtain ⟨x3,h2,h⟩:=bnd h
 refine Rn.call (args:=[(f_ l1)]) tv rfl (fun M2 nb2=>ACalls.weak (args':=[(l_ l1)]) (H_slices_Clone_int _ _ h2 M2 nb2) (.cons fToD .nil) rfl) pc9 ?_
 refine Rn.movTO tv rfl (Rn.nil (toN ?_))
 obtain ⟨out4,hs5,h⟩:=bnd h
 obtain ⟨hl6,hn7,hr8⟩:=H_slices_Sort_int _ _ hs5
 refine Tr.seqW ⟨look [(3,(l_ out4))],Qk Γ.n0 (bxs []) M,Γ.n0 + 9⟩ ?_ ?_
 ·by_cases hx9 : x3 = []
  ·obtain ⟨hyx,hn7b⟩:=hn7 hx9
   replace hyx:=hyx.symm
   subst hyx
   replace hn7:=And.intro tv hn7b
   refine Tr.rgn (Rn.mov (v:=(l_ x3)) tv rfl (Rn.call (args:=[.d (.lst 1 (List.map (eI .i64) x3))]) tv rfl (hn7.2) pc9 ?_))
   refine Rn.nil ⟨rfl,(by exact Qg [] ⟨(WkV.dem' rfl),tv⟩ tv rfl)⟩
  ·refine Tr.weak (by show WeakSt Γ _ ⟨look [(3,(o_ x3))],Qk Γ.n0 (bxs []) M,Γ.n0 + 9⟩; exact Qg [] ⟨(sm rfl),tv⟩ tv rfl) ?_
   refine Qbld hG hM0 3 7 hx9 (fun _=>rfl) rfl rfl rfl ⟨rfl,(Qbci (fun _=>rfl)),tv⟩ tv (fun c10 hc11 hc12=>?_)
   refine Tr.rgn (Rn.mov (v:=.sl 1 (Γ.n0 + 7) 0 x3.length c10) tv rfl ?_)
   refine Rn.callRow (t:=7) (cs:=Q6 (List.map (eI .i64) x3) ((c10 - x3.length) * 1)) (cs':=Q6 (List.map (eI .i64) out4) ((c10 - x3.length) * 1)) tv rfl rfl (fun M2 hM2=>hr8 hc12 _ _ _ _ hM2) rfl ?_
   refine Rn.weak (by show WeakSt Γ _ ⟨look [(3,(l_ out4)),(6,(l_ out4)),(7,.tup [])],Qk Γ.n0 (bxs []) M,Γ.n0 + 9⟩; exact Qli 7 _ rfl Qbkk ⟨(fSlT (fun _=>rfl) hl6 hc11),(fSlT (fun _=>rfl) hl6 hc11),(.same rfl),tv⟩ tv rfl) ?_
   refine Rn.nil ⟨rfl,(by exact Qg [] ⟨(sm rfl),tv⟩ tv rfl)⟩
 ·refine sr ((Rn.movTD tv rfl (Rn.movTD tv rfl (nt ((Tr.ret ?_))))))
  replace h:=si h; subst h
  exact ⟨.inr rfl,(l_ out4),rfl,fun _ _ _ _ h=>h,tv,fun k hk=>Qf hk⟩
theorem Qmq {P : Program} {c : Nat} (hcf : Qm P c = some Qe0) : Qez P c (Qbc):=by
 intro state1 event2 x3 k4 r h
 intro M nb hk5
 refine Q8e hcf rfl M nb fun Γ hP hnt hn0 hM=>?_
 subst hP hn0
 refine Tr.init [(0,(i_ state1)),(1,(i_ event2)),(2,.ptr k4 0)] rfl ?_
 unfold Qbc at h
 unfold Qe0
 refine sr ((md rfl (md rfl (nt ((Tr.seq ?_))))))
 refine Tr.rgnD (by decide) ?_
 refine md rfl (Rn.bin tv rfl rfl rfl (Rn.load (v:=(l_ x3)) tv rfl (Qyo hM hk5) rfl rfl (Rn.lenD tv rfl ?_)))
 obtain ⟨s6,h7,h⟩:=bnd h
 refine Rn.bin tv rfl rfl (Qbiq h7) (Rn.load (v:=(l_ x3)) tv rfl (Qyo hM hk5) rfl rfl (md rfl ?_))
 obtain ⟨x8,h9,h⟩:=bnd h
 refine Rn.idxD (e:=(eI .i64)) tv rfl rfl h9 (Rn.loadC (x:=.int .i64 x8) tv rfl (md rfl (Rn.bin tv rfl rfl rfl (md rfl (md rfl ?_)))))
 refine Rn.nil ⟨rfl,?_⟩
 refine toN (Tr.ret ?_)
 replace h:=si h; subst h
 exact ⟨.inr rfl,.tup [(i_ s6),(b_ (x8 == event2))],res2 rfl rfl,(WkV.tup (.cons (.same rfl) (.cons (.same rfl) .nil))).rd,⟨tv,tv,tv⟩,fun k hk=>Qf hk⟩
theorem Qry {P : Program} {c : Nat} (hcf : Qm P c = some Qgw) (fuel : Nat) : Qdt P c (Qo fuel):=by
 intro events1 marked2 next9 g3 cp4 g10 cp11 r h
 intro M nb hc5 ho7 hf6 hc12 ho14 hf13
 refine Q8e hcf rfl M nb fun Γ hP hnt hn0 hM=>?_
 subst hP hn0
 refine Tr.init [(0,(l_ events1)),(1,.clo g3 cp4),(2,.clo g10 cp11)] rfl ?_
 unfold Qo at h
 unfold Qgw
 refine sr ((Rn.alloc tv rfl (nt ((sr ((md rfl (Rn.buildT (v:=.agg [(l_ events1),(i_ 0),.nils 1,.nils 3]) tv rfl (Rn.alloc tv rfl (Rn.storeT (v:=.agg [(l_ events1),(i_ 0),.nils 1,.nils 3]) (ds:=[(l_ events1),(i_ 0),.nils 1,.nils 3]) (cs':=[(l_ events1),(i_ 0),.nils 1,.nils 3]) tv rfl rfl rfl rfl rfl rfl rfl (nt ((sr ((Rn.bslice (xs:=[(i_ 0)]) (cs:=[(i_ 0)]) tv rfl rfl rfl rfl (Rn.mkmap tv rfl (fun (x : Int)=>((i_ x) : V)) (fun (x : Int)=>((i_ x) : V)) (Rn.mapset (ek:=(fun (x : Int)=>((i_ x) : V))) (ev:=(fun (x : Int)=>((i_ x) : V))) (m:=([] : List (Int × Int))) (k:=0) (v:=0) (fun _ _=>rfl) (fun _=>rfl) (fun _=>rfl) tv rfl rfl rfl rfl rfl (Rn.mov (v:=.mp (Γ.n0 + 20)) tv rfl (Rn.movTF (v:=.sl 1 (Γ.n0 + 19) 0 1 1) tv rfl rfl (Rn.mov (v:=.mp (Γ.n0 + 20)) tv rfl (Rn.nil (toN ?_))))))))))))))))))))))
 refine Tr.cutB (fun ((states65,c66,c67,c68,a69,a70,c71) : (List Int) × (List Int) × (List Int) × (List Qd) × (List Int) × (List Qd) × (List (Int × Int)))=>⟨look [(6,.ptr (Γ.n0 + 6) 0),(7,.ptr (Γ.n0 + 7) 0),(8,(o_ states65))],Qk Γ.n0 (bxs [(6,.cells ([(o_ c66),(i_ 0),(o_ c67),.own 3 (List.map Qc c68)])),(7,.cells ([(l_ events1),(i_ 0),(o_ a69),.own 3 (List.map Qc a70)])),(20,.mp (mapE (fun (x : Int)=>((i_ x) : V)) (fun (x : Int)=>((i_ x) : V)) 0 c71) (c71).length)]) M,Γ.n0 + 89⟩) h (fun z h=>?_) (fun z h=>?_)
 ·refine sr ((md rfl (nt ((Tr.block ?_)))))
  refine Tr.weak (by show WeakSt Γ _ ⟨look ((8,.own 1 (List.map (eI .i64) [0])) :: [(0,(l_ events1)),(1,.clo g3 cp4),(2,.clo g10 cp11),(6,.ptr (Γ.n0 + 6) 0),(7,.ptr (Γ.n0 + 7) 0),(9,.mp (Γ.n0 + 20)),(10,(i_ 0)),(17,(l_ events1)),(18,.agg [(l_ events1),(i_ 0),.nils 1,.nils 3]),(20,.mp (Γ.n0 + 20)),(21,.mp (Γ.n0 + 20))] ),Qk Γ.n0 (bxs [(6,.cells ([.nils 1,(i_ 0),.nils 1,.nils 3])),(7,.cells ([(l_ events1),(i_ 0),.nils 1,.nils 3])),(20,.mp (mapE (fun (x : Int)=>((i_ x) : V)) (fun (x : Int)=>((i_ x) : V)) 0 (setM ([] : List (Int × Int)) 0 0)) ((setM ([] : List (Int × Int)) 0 0)).length)]) M,Γ.n0 + 89⟩; exact Qbdl 19 8 [.int .i64 0] rfl rfl rfl rfl rfl ⟨(sm rfl),(kFun hM ho7),(kFun hM ho14),(kPtr rfl),(kPtr rfl),(kMp rfl),(sm rfl),(sm rfl),(sm rfl),(kMp rfl),(kMp rfl),tv⟩ ⟨⟨_,rfl,rfl,(.same rfl)⟩,⟨_,rfl,rfl,(.same rfl)⟩,⟨rfl,rfl⟩,tv⟩ rfl) ?_
  refine Tr.loop (mk:=fun ((states17,i18,c19,c20,c21,a22,a23,c24) : (List Int) × Int × (List Int) × (List Int) × (List Qd) × (List Int) × (List Qd) × (List (Int × Int)))=>⟨look [(0,(l_ events1)),(1,.clo g3 cp4),(2,.clo g10 cp11),(6,.ptr (Γ.n0 + 6) 0),(7,.ptr (Γ.n0 + 7) 0),(8,(o_ states17)),(9,.mp (Γ.n0 + 20)),(10,(i_ i18))],Qk Γ.n0 (bxs [(6,.cells ([(o_ c19),(i_ 0),(o_ c20),.own 3 (List.map Qc c21)])),(7,.cells ([(l_ events1),(i_ 0),(o_ a22),.own 3 (List.map Qc a23)])),(20,.mp (mapE (fun (x : Int)=>((i_ x) : V)) (fun (x : Int)=>((i_ x) : V)) 0 c24) (c24).length)]) M,Γ.n0 + 89⟩) h (by exact Qi ⟨(sm rfl),(kFun hM ho7),(kFun hM ho14),(kPtr rfl),(kPtr rfl),(sm rfl),(kMp rfl),(sm rfl),tv⟩ ⟨⟨_,rfl,rfl,(.cons (WkV.nilsO _) (.cons (sm rfl) (.cons (WkV.nilsO _) (.cons (WkV.nilsO _) .nil))))⟩,⟨_,rfl,rfl,(.cons (sm rfl) (.cons (sm rfl) (.cons (WkV.nilsO _) (.cons (WkV.nilsO _) .nil))))⟩,⟨rfl,rfl⟩,tv⟩ rfl) (fun k25 z h=>?_)
  ·obtain ⟨states17,i18,c19,c20,c21,a22,a23,c24⟩:=z
   replace h : _ = some _:=h
   refine Tr.seq (sr ((md rfl (Rn.mov (v:=(l_ states17)) tv rfl (Rn.lenD tv rfl (Rn.bin tv rfl rfl rfl (Rn.nil (toN ?_))))))))
   refine Tr.cond rfl (fun hb26=>?_) (fun hb26=>?_)
   ·replace h:=ifT hb26 h
    refine Tr.skip (toN ?_)
    refine Tr.cutB (fun ((states61,a62,a63,c64) : (List Int) × (List Int) × (List Qd) × (List (Int × Int)))=>⟨look [(0,(l_ events1)),(1,.clo g3 cp4),(2,.clo g10 cp11),(6,.ptr (Γ.n0 + 6) 0),(7,.ptr (Γ.n0 + 7) 0),(8,(o_ states61)),(9,.mp (Γ.n0 + 20)),(10,(i_ i18))],Qk Γ.n0 (bxs [(6,.cells ([(o_ c19),(i_ 0),(o_ c20),.own 3 (List.map Qc c21)])),(7,.cells ([(l_ events1),(i_ 0),(o_ a62),.own 3 (List.map Qc a63)])),(20,.mp (mapE (fun (x : Int)=>((i_ x) : V)) (fun (x : Int)=>((i_ x) : V)) 0 c64) (c64).length)]) M,Γ.n0 + 89⟩) h (fun z h=>?_) (fun z h=>?_)
    ·refine Tr.block ?_
     refine Tr.cutB (fun (a34 : List Int)=>⟨look [(0,(l_ events1)),(1,.clo g3 cp4),(2,.clo g10 cp11),(6,.ptr (Γ.n0 + 6) 0),(7,.ptr (Γ.n0 + 7) 0),(8,(o_ states17)),(9,.mp (Γ.n0 + 20)),(10,(i_ i18))],Qk Γ.n0 (bxs [(6,.cells ([(o_ c19),(i_ 0),(o_ c20),.own 3 (List.map Qc c21)])),(7,.cells ([(l_ events1),(i_ 0),(o_ a34),.own 3 (List.map Qc a23)])),(20,.mp (mapE (fun (x : Int)=>((i_ x) : V)) (fun (x : Int)=>((i_ x) : V)) 0 c24) (c24).length)]) M,Γ.n0 + 89⟩) h (fun z h=>?_) (fun z h=>?_)
     ·refine sr ((Rn.mov (v:=.clo g3 cp4) tv rfl (Rn.mov (v:=(l_ states17)) tv rfl (md rfl ?_))))
      obtain ⟨x27,h28,h⟩:=bnd h
      refine Rn.idxD (e:=(eI .i64)) tv rfl rfl h28 (Rn.loadC (x:=.int .i64 x27) tv rfl ?_)
      obtain ⟨x30,h29,h⟩:=bnd h
      refine Rn.callvM (args:=[(i_ x27)] ++ cp4) tv rfl (by rw [hc5]; rfl) (fun M2 nb2 hn hx=>hf6 _ _ h29 M2 nb2 (by omega) ((Q9u hM).trans hx)) rfl pc9 ?_
      refine Rn.nil (toN ?_)
      refine Tr.cond rfl (fun hb31=>?_) (fun hb31=>?_)
      ·replace h:=bT hb31 h
       refine Tr.rgn (Rn.fldP (o':=2) tv rfl rfl (Rn.loadT (cs':=[(l_ events1),(i_ 0),(l_ a22),.own 3 (List.map Qc a23)]) tv rfl rfl rfl rfl (md rfl (Rn.bslice (xs:=[(i_ i18)]) (cs:=[(i_ i18)]) tv rfl rfl rfl rfl ?_))))
       obtain ⟨x32,h33,h⟩:=bnd h
       refine Rn.app (e:=(eI .i64)) tv rfl rfl rfl (Qdb rfl rfl rfl) h33 rfl (Rn.fldP (o':=2) tv rfl rfl (Rn.storeO (cs':=[(l_ events1),(i_ 0),(o_ x32),.own 3 (List.map Qc a23)]) tv rfl rfl rfl rfl rfl (Rn.nil ?_)))
       replace h:=si h; subst h
       exact Qg [37] ⟨(sm rfl),(kFun hM ho7),(kFun hM ho14),(kPtr rfl),(kPtr rfl),(sm rfl),(kMp rfl),(sm rfl),tv⟩ ⟨⟨_,rfl,rfl,(.same rfl)⟩,⟨_,rfl,rfl,(.same rfl)⟩,⟨rfl,rfl⟩,tv⟩ rfl
      ·replace h:=bF hb31 h
       refine Tr.skip ?_
       replace h:=si h; subst h
       exact Qg [] ⟨(sm rfl),(kFun hM ho7),(kFun hM ho14),(kPtr rfl),(kPtr rfl),(sm rfl),(kMp rfl),(sm rfl),tv⟩ ⟨⟨_,rfl,rfl,(.same rfl)⟩,⟨_,rfl,rfl,(.same rfl)⟩,⟨rfl,rfl⟩,tv⟩ rfl
     ·obtain ⟨a34,rfl⟩ : ∃ x,x = z:=⟨_,rfl⟩
      refine sr ((md rfl (Rn.lenD tv rfl (md rfl (nt ((Tr.block ?_)))))))
      refine Tr.loop (mk:=fun ((states35,x36,a37,c38) : (List Int) × Int × (List Qd) × (List (Int × Int)))=>⟨look [(0,(l_ events1)),(1,.clo g3 cp4),(2,.clo g10 cp11),(6,.ptr (Γ.n0 + 6) 0),(7,.ptr (Γ.n0 + 7) 0),(8,(o_ states35)),(9,.mp (Γ.n0 + 20)),(10,(i_ i18)),(40,(l_ events1)),(41,(i_ (events1.length : Int))),(42,(i_ x36))],Qk Γ.n0 (bxs [(6,.cells ([(o_ c19),(i_ 0),(o_ c20),.own 3 (List.map Qc c21)])),(7,.cells ([(l_ events1),(i_ 0),(o_ a34),.own 3 (List.map Qc a37)])),(20,.mp (mapE (fun (x : Int)=>((i_ x) : V)) (fun (x : Int)=>((i_ x) : V)) 0 c38) (c38).length)]) M,Γ.n0 + 89⟩) h (by exact Qi ⟨(sm rfl),(kFun hM ho7),(kFun hM ho14),(kPtr rfl),(kPtr rfl),(sm rfl),(kMp rfl),(sm rfl),(sm rfl),(sm rfl),(sm rfl),tv⟩ ⟨⟨_,rfl,rfl,(.same rfl)⟩,⟨_,rfl,rfl,(.same rfl)⟩,⟨rfl,rfl⟩,tv⟩ rfl) (fun k39 z h=>?_)
      ·obtain ⟨states35,x36,a37,c38⟩:=z
       replace h : _ = some _:=h
       refine sr ((Rn.bin tv rfl rfl rfl (nt ((Tr.seq ?_)))))
       refine Tr.cond rfl (fun hb40=>?_) (fun hb40=>?_)
       ·replace h:=ifT hb40 h
        refine Tr.skip (toN ?_)
        refine Tr.cutB (fun ((states58,a59,c60) : (List Int) × (List Qd) × (List (Int × Int)))=>⟨look [(0,(l_ events1)),(1,.clo g3 cp4),(2,.clo g10 cp11),(6,.ptr (Γ.n0 + 6) 0),(7,.ptr (Γ.n0 + 7) 0),(8,(o_ states58)),(9,.mp (Γ.n0 + 20)),(10,(i_ i18)),(40,(l_ events1)),(41,(i_ (events1.length : Int))),(42,(i_ x36))],Qk Γ.n0 (bxs [(6,.cells ([(o_ c19),(i_ 0),(o_ c20),.own 3 (List.map Qc c21)])),(7,.cells ([(l_ events1),(i_ 0),(o_ a34),.own 3 (List.map Qc a59)])),(20,.mp (mapE (fun (x : Int)=>((i_ x) : V)) (fun (x : Int)=>((i_ x) : V)) 0 c60) (c60).length)]) M,Γ.n0 + 89⟩) h (fun z h=>?_) (fun z h=>?_)
        ·refine Tr.block (Tr.seq (Tr.rgn ?_))
         obtain ⟨x41,h42,h⟩:=bnd h
         refine Rn.idxD (e:=(eI .i64)) tv rfl rfl h42 (Rn.loadC (x:=.int .i64 x41) tv rfl (md rfl (nt ((sr ((Rn.mov (v:=.clo g10 cp11) tv rfl (Rn.mov (v:=(l_ states35)) tv rfl (md rfl ?_)))))))))
         obtain ⟨x43,h44,h⟩:=bnd h
         refine Rn.idxD (e:=(eI .i64)) tv rfl rfl h44 (Rn.loadC (x:=.int .i64 x43) tv rfl (md rfl ?_))
         obtain ⟨⟨r47,r48⟩,h45,h⟩:=bnd h
         refine Rn.callvM (args:=[(i_ x43),(i_ x41)] ++ cp11) tv rfl (by rw [hc12]; rfl) (fun M2 nb2 hn hx=>hf13 _ _ _ h45 M2 nb2 (by omega) ((Q9u hM).trans hx)) rfl pc9 ?_
         refine Rn.mov (v:=.tup [(i_ r47),(b_ r48)]) tv rfl (Rn.ext (v:=(i_ r47)) (vs:=[(i_ r47),(b_ r48)]) tv rfl rfl rfl (Rn.ext (v:=(b_ r48)) (vs:=[(i_ r47),(b_ r48)]) tv rfl rfl rfl (md rfl (md rfl (nt ((Tr.seq (sr ((md rfl (Rn.un tv rfl rfl (Rn.nil (toN ?_)))))))))))))
         refine Tr.cond rfl (fun hb49=>?_) (fun hb49=>?_)
         ·have hb49:=nT' hb49
          replace h:=bF hb49 h
          refine Tr.exit ?_
          replace h:=si h; subst h
          exact Qg [] ⟨(sm rfl),(kFun hM ho7),(kFun hM ho14),(kPtr rfl),(kPtr rfl),(sm rfl),(kMp rfl),(sm rfl),(sm rfl),(sm rfl),(sm rfl),tv⟩ ⟨⟨_,rfl,rfl,(.same rfl)⟩,⟨_,rfl,rfl,(.same rfl)⟩,⟨rfl,rfl⟩,tv⟩ rfl
         ·have hb49:=nF' hb49
          replace h:=bT hb49 h
          refine Tr.skip (toN (sr ((Rn.mov (v:=.mp (Γ.n0 + 20)) tv rfl (md rfl (Rn.lookupC (ek:=(fun (x : Int)=>((i_ x) : V))) (ev:=(fun (x : Int)=>((i_ x) : V))) (m:=c38) (k:=r47) (fun _ _=>rfl) (fun _=>rfl) (fun _=>rfl) 0 rfl tv rfl rfl rfl (Rn.mov (v:=.tup [(i_ (getM c38 r47 0)),(b_ (hasM c38 r47))]) tv rfl (Rn.ext (v:=(i_ (getM c38 r47 0))) (vs:=[(i_ (getM c38 r47 0)),(b_ (hasM c38 r47))]) tv rfl rfl rfl (Rn.ext (v:=(b_ (hasM c38 r47))) (vs:=[(i_ (getM c38 r47 0)),(b_ (hasM c38 r47))]) tv rfl rfl rfl (md rfl (md rfl (Rn.nil (toN ?_)))))))))))))
          refine Tr.cutB (fun ((states53,k54,c55) : (List Int) × Int × (List (Int × Int)))=>⟨look [(0,(l_ events1)),(1,.clo g3 cp4),(2,.clo g10 cp11),(6,.ptr (Γ.n0 + 6) 0),(7,.ptr (Γ.n0 + 7) 0),(8,(o_ states53)),(9,.mp (Γ.n0 + 20)),(10,(i_ i18)),(12,(i_ x41)),(15,(i_ k54)),(40,(l_ events1)),(41,(i_ (events1.length : Int))),(42,(i_ x36))],Qk Γ.n0 (bxs [(6,.cells ([(o_ c19),(i_ 0),(o_ c20),.own 3 (List.map Qc c21)])),(7,.cells ([(l_ events1),(i_ 0),(o_ a34),.own 3 (List.map Qc a37)])),(20,.mp (mapE (fun (x : Int)=>((i_ x) : V)) (fun (x : Int)=>((i_ x) : V)) 0 c55) (c55).length)]) M,Γ.n0 + 89⟩) h (fun z h=>?_) (fun z h=>?_)
          ·refine sr ((md rfl (Rn.un tv rfl rfl (Rn.nil (toN ?_)))))
           refine Tr.cond rfl (fun hb50=>?_) (fun hb50=>?_)
           ·have hb50:=nT' hb50
            replace h:=bF hb50 h
            refine sr ((Rn.mov (v:=(l_ states35)) tv rfl (Rn.lenD tv rfl (md rfl (nt ((Tr.rgn (Rn.mov (v:=.mp (Γ.n0 + 20)) tv rfl (md rfl (md rfl (Rn.movTO tv rfl (md rfl (Rn.bslice (xs:=[(i_ r47)]) (cs:=[(i_ r47)]) tv rfl rfl rfl rfl ?_)))))))))))))
            obtain ⟨x51,h52,h⟩:=bnd h
            refine Rn.app (e:=(eI .i64)) tv rfl rfl rfl (Qdb rfl rfl rfl) h52 rfl (Rn.mapset (ek:=(fun (x : Int)=>((i_ x) : V))) (ev:=(fun (x : Int)=>((i_ x) : V))) (m:=c38) (k:=r47) (v:=(states35.length : Int)) (fun _ _=>rfl) (fun _=>rfl) (fun _=>rfl) tv rfl rfl rfl rfl rfl (Rn.movTO tv rfl (Rn.nil ?_)))
            replace h:=si h; subst h
            exact Qg [73] ⟨(sm rfl),(kFun hM ho7),(kFun hM ho14),(kPtr rfl),(kPtr rfl),(sm rfl),(kMp rfl),(sm rfl),(sm rfl),(sm rfl),(sm rfl),(sm rfl),(sm rfl),tv⟩ ⟨⟨_,rfl,rfl,(.same rfl)⟩,⟨_,rfl,rfl,(.same rfl)⟩,⟨rfl,rfl⟩,tv⟩ rfl
           ·have hb50:=nF' hb50
            replace h:=bT hb50 h
            refine Tr.skip ?_
            replace h:=si h; subst h
            exact Qg [] ⟨(sm rfl),(kFun hM ho7),(kFun hM ho14),(kPtr rfl),(kPtr rfl),(sm rfl),(kMp rfl),(sm rfl),(sm rfl),(sm rfl),(sm rfl),(sm rfl),(sm rfl),tv⟩ ⟨⟨_,rfl,rfl,(.same rfl)⟩,⟨_,rfl,rfl,(.same rfl)⟩,⟨rfl,rfl⟩,tv⟩ rfl
          ·obtain ⟨states53,k54,c55⟩:=z
           refine Tr.rgn (Rn.fldP (o':=3) tv rfl rfl (Rn.loadT (cs':=[(l_ events1),(i_ 0),(o_ a34),.d (.lst 3 (List.map Qc a37))]) tv rfl rfl rfl rfl (md rfl (md rfl (md rfl (Rn.build (v:=.agg [(i_ i18),(i_ x41),(i_ k54)]) tv rfl (Rn.bslice (xs:=[.agg [(i_ i18),(i_ x41),(i_ k54)]]) (cs:=[(i_ i18),(i_ x41),(i_ k54)]) tv rfl rfl rfl rfl ?_)))))))
           obtain ⟨x56,h57,h⟩:=bnd h
           refine Rn.app (e:=Qc) tv rfl rfl rfl (Qdb rfl rfl rfl) h57 rfl (Rn.fldP (o':=3) tv rfl rfl (Rn.storeO (cs':=[(l_ events1),(i_ 0),(o_ a34),.own 3 (List.map Qc x56)]) tv rfl rfl rfl rfl rfl (Rn.nil ?_)))
           replace h:=si h; subst h
           exact Qg [81] ⟨(sm rfl),(kFun hM ho7),(kFun hM ho14),(kPtr rfl),(kPtr rfl),(sm rfl),(kMp rfl),(sm rfl),(sm rfl),(sm rfl),(sm rfl),tv⟩ ⟨⟨_,rfl,rfl,(.same rfl)⟩,⟨_,rfl,rfl,(.same rfl)⟩,⟨rfl,rfl⟩,tv⟩ rfl
        ·obtain ⟨states58,a59,c60⟩:=z
         refine Tr.rgn (Rn.bin tv rfl rfl rfl (md rfl (Rn.nil ?_)))
         exact ⟨_,h,(by exact Qi ⟨(sm rfl),(kFun hM ho7),(kFun hM ho14),(kPtr rfl),(kPtr rfl),(sm rfl),(kMp rfl),(sm rfl),(sm rfl),(sm rfl),(sm rfl),tv⟩ ⟨⟨_,rfl,rfl,(.same rfl)⟩,⟨_,rfl,rfl,(.same rfl)⟩,⟨rfl,rfl⟩,tv⟩ rfl)⟩
       ·replace h:=ifF hb40 h
        refine Tr.exit ?_
        replace h:=si h; subst h
        exact Qg [] ⟨(sm rfl),(kFun hM ho7),(kFun hM ho14),(kPtr rfl),(kPtr rfl),(sm rfl),(kMp rfl),(sm rfl),tv⟩ ⟨⟨_,rfl,rfl,(.same rfl)⟩,⟨_,rfl,rfl,(.same rfl)⟩,⟨rfl,rfl⟩,tv⟩ rfl
    ·obtain ⟨states61,a62,a63,c64⟩:=z
     refine Tr.rgn (md rfl (Rn.bin tv rfl rfl rfl (md rfl (Rn.nil ?_))))
     exact ⟨_,h,(by exact Qi ⟨(sm rfl),(kFun hM ho7),(kFun hM ho14),(kPtr rfl),(kPtr rfl),(sm rfl),(kMp rfl),(sm rfl),tv⟩ ⟨⟨_,rfl,rfl,(.same rfl)⟩,⟨_,rfl,rfl,(.same rfl)⟩,⟨rfl,rfl⟩,tv⟩ rfl)⟩
   ·replace h:=ifF hb26 h
    refine Tr.exit ?_
    replace h:=si h; subst h
    exact Qg [] ⟨(kPtr rfl),(kPtr rfl),(sm rfl),tv⟩ ⟨⟨_,rfl,rfl,(.same rfl)⟩,⟨_,rfl,rfl,(.same rfl)⟩,⟨rfl,rfl⟩,tv⟩ rfl
 ·obtain ⟨states65,c66,c67,c68,a69,a70,c71⟩:=z
  refine sr ((Rn.mov (v:=(l_ states65)) tv rfl (Rn.lenD tv rfl (Rn.fldP (o':=1) tv rfl rfl (Rn.store (v:=(i_ (states65.length : Int))) (cs':=[(l_ events1),(i_ (states65.length : Int)),(o_ a69),.own 3 (List.map Qc a70)]) tv rfl rfl rfl rfl rfl rfl (nt ((sr ((Rn.load (v:=.agg [(l_ events1),(i_ (states65.length : Int)),(l_ a69),.d (.lst 3 (List.map Qc a70))]) tv rfl (Qj rfl) rfl rfl (Rn.storeT (v:=.agg [(l_ events1),(i_ (states65.length : Int)),(l_ a69),.d (.lst 3 (List.map Qc a70))]) (ds:=[(l_ events1),(i_ (states65.length : Int)),(l_ a69),.d (.lst 3 (List.map Qc a70))]) (cs':=[(l_ events1),(i_ (states65.length : Int)),(l_ a69),.d (.lst 3 (List.map Qc a70))]) tv rfl rfl rfl rfl rfl rfl rfl (nt ((Tr.ret ?_))))))))))))))
  replace h:=si h; subst h
  exact ⟨.inr rfl,(.agg [(l_ events1),(i_ (states65.length : Int)),(l_ a69),.d (.lst 3 (List.map Qc a70))]),Qel rfl rfl rfl rfl,fun _ _ _ _ h=>h,⟨tv,tv,tv,tv,tv⟩,fun k hk=>Qf hk⟩
theorem Qxo {P : Program} {c : Nat} (hcf : Qm P c = some Qiv) : Qfl P c (Q8):=by
 intro state1 r h
 refine Qb1 hcf rfl fun Γ M hP hnt hM=>?_
 subst hP
 refine Tr.init [(0,(i_ state1))] rfl ?_
 unfold Q8 at h
 unfold Qiv
 refine sr ((md rfl (nt ((sr ((md rfl (Rn.bin tv rfl rfl rfl (md rfl (nt ((Tr.ret ?_))))))))))))
 replace h:=si h; subst h
 exact ⟨.inr rfl,(b_ (state1 == 0)),rfl,fun _ _ _ _ h=>h,tv,fun k hk=>Qf hk⟩
theorem Qn6 {P : Program} {c : Nat} {Qx : (List Int) → Option Int} {Qo : (List Int) → (Int → Option Bool) → (Int → Int → Option (Int × Bool)) → Option Qa} {Q5 : (List Int) → Option ((List Int))} {Q8 : Int → Option Bool} {Qbc : Int → Int → (List Int) → Option (Int × Bool)}
    (H_requirement_distinct : Qeg P 27 Qx)
    (H_requirement_explore : Qdt P 28 Qo)
    (H_requirement_sorted : Qe7 P 29 Q5)
    (H_requirement_first : Qfl P 30 Q8)
    (H_requirement_Alternate_1 : Qez P 31 Qbc) (hcf : Qm P c = some Qfn) : Qfm P c (Qbm Qx Qo Q5 Q8 Qbc):=by
 intro events1 r h
 refine Qb1 hcf rfl fun Γ M hP hnt hM=>?_
 subst hP
 refine Tr.init [(0,(l_ events1))] rfl ?_
 unfold Qbm at h
 unfold Qfn
 refine sr ((Rn.box (v:=(l_ events1)) (cs:=[(l_ events1)]) tv rfl rfl rfl rfl rfl (Rn.alloc tv rfl (md rfl (nt ((Tr.seq (sr ((Rn.load (v:=(l_ events1)) tv rfl (Qj rfl) rfl rfl (Rn.lenD tv rfl (Rn.bin tv rfl rfl rfl (Rn.nil (toN ?_))))))))))))))
 refine Tr.cond rfl (fun hb2=>?_) (fun hb2=>?_)
 ·replace h:=bT hb2 h
  refine sr ((Rn.build (v:=.agg [.nils 1,(i_ 0),.nils 1,.nils 3]) tv rfl (Rn.storeT (v:=.agg [.nils 1,(i_ 0),.nils 1,.nils 3]) (ds:=[.nils 1,(i_ 0),.nils 1,.nils 3]) (cs':=[.nils 1,(i_ 0),.nils 1,.nils 3]) tv rfl rfl rfl rfl rfl rfl rfl (md rfl (nt ((Tr.ret ?_)))))))
  replace h:=si h; subst h
  exact ⟨.inr rfl,.tup [.agg [.nils 1,(i_ 0),.nils 1,.nils 3],(i_ 12)],res2 (Qel rfl rfl rfl rfl) rfl,(WkV.tup (.cons (WkV.agg (.cons (WkV.nilsD _) (.cons (.same rfl) (.cons (WkV.nilsD _) (.cons (WkV.nilsD _) .nil))))) (.cons (.same rfl) .nil))).rd,⟨⟨tv,tv,tv,tv,tv⟩,tv,tv⟩,fun k hk=>Qf hk⟩
 ·replace h:=bF hb2 h
  refine Tr.skip (toN (Tr.seq (sr ((Rn.load (v:=(l_ events1)) tv rfl (Qj rfl) rfl rfl ?_)))))
  obtain ⟨x4,h3,h⟩:=bnd h
  refine Rn.call (args:=[(l_ events1)]) tv rfl (H_requirement_distinct _ _ h3) pc9 (md rfl (nt ((sr ((md rfl (Rn.bin tv rfl rfl rfl (Rn.nil (toN ?_)))))))))
  refine Tr.cond rfl (fun hb5=>?_) (fun hb5=>?_)
  ·replace h:=bT hb5 h
   refine sr ((Rn.build (v:=.agg [.nils 1,(i_ 0),.nils 1,.nils 3]) tv rfl (md rfl (Rn.storeT (v:=.agg [.nils 1,(i_ 0),.nils 1,.nils 3]) (ds:=[.nils 1,(i_ 0),.nils 1,.nils 3]) (cs':=[.nils 1,(i_ 0),.nils 1,.nils 3]) tv rfl rfl rfl rfl rfl rfl rfl (md rfl (nt ((Tr.ret ?_))))))))
   replace h:=si h; subst h
   exact ⟨.inr rfl,.tup [.agg [.nils 1,(i_ 0),.nils 1,.nils 3],(i_ x4)],res2 (Qel rfl rfl rfl rfl) rfl,(WkV.tup (.cons (WkV.agg (.cons (WkV.nilsD _) (.cons (.same rfl) (.cons (WkV.nilsD _) (.cons (WkV.nilsD _) .nil))))) (.cons (.same rfl) .nil))).rd,⟨⟨tv,tv,tv,tv,tv⟩,tv,tv⟩,fun k hk=>Qf hk⟩
  ·replace h:=bF hb5 h
   refine Tr.skip (toN (sr ((Rn.load (v:=(l_ events1)) tv rfl (Qj rfl) rfl rfl ?_))))
   obtain ⟨x7,h6,h⟩:=bnd h
   refine Rn.call (args:=[(l_ events1)]) tv rfl (H_requirement_sorted _ _ h6) pc9 (Rn.k (v:=.clo 31 [.ptr (Γ.n0 + 1) 0]) tv rfl rfl rfl ?_)
   obtain ⟨x16,h15,h⟩:=bnd h
   refine Rn.callM (args:=[(l_ x7),.clo 30 [],.clo 31 [.ptr (Γ.n0 + 1) 0]]) tv rfl (fun M2 nb2 hn hx=>H_requirement_explore _ _ _ 30 [] 31 [.ptr (Γ.n0 + 1) 0] _ h15 M2 nb2 rfl tv (fun a8 r9 h10 M3 nb3 hn3 hx3=>H_requirement_first a8 r9 h10 M3 nb3 ) rfl ⟨Q33 (hx _ _ (Qj rfl)),tv⟩ (fun a11 a12 r13 h14 M3 nb3 hn3 hx3=>H_requirement_Alternate_1 a11 a12 events1 (Γ.n0 + 1) r13 h14 M3 nb3 ((hx.trans hx3) _ _ (Qj rfl)))) rfl pc9 ?_
   refine Rn.storeT (v:=(Qb x16)) (ds:=(Qe x16)) (cs':=(Qe x16)) tv rfl rfl rfl rfl rfl rfl rfl (md rfl (nt ((Tr.ret ?_))))
   replace h:=si h; subst h
   exact ⟨.inr rfl,.tup [(Qb x16),(i_ 0)],res2 (Qel rfl rfl rfl rfl) rfl,(WkV.tup (.cons (.same rfl) (.cons (.same rfl) .nil))).rd,⟨⟨tv,tv,tv,tv,tv⟩,tv,tv⟩,fun k hk=>Qf hk⟩
theorem Qxp {P : Program} {c : Nat} (hcf : Qm P c = some Qiw) (fuel : Nat) : Qfo P c (Q2 fuel):=by
 intro xset1 n2 r h
 refine Qb1 hcf rfl fun Γ M hP hnt hM=>?_
 subst hP
 refine Tr.init [(0,(l_ xset1)),(1,(i_ n2))] rfl ?_
 unfold Q2 at h
 unfold Qiw
 refine sr ((md rfl (nt ((Tr.seq (sr ((md rfl (Rn.lenD tv rfl (md rfl (nt ((Tr.block ?_)))))))))))))
 refine Tr.loop (mk:=fun (x3 : Int)=>⟨look [(0,(l_ xset1)),(1,(i_ n2)),(7,(l_ xset1)),(8,(i_ (xset1.length : Int))),(9,(i_ x3))],Qk Γ.n0 (bxs []) M,Γ.n0 + 33⟩) h (by exact Qi ⟨(sm rfl),(sm rfl),(sm rfl),(sm rfl),(sm rfl),tv⟩ tv rfl) (fun k4 z h=>?_)
 ·obtain ⟨x3,rfl⟩ : ∃ x,x = z:=⟨_,rfl⟩
  replace h : _ = some _:=h
  refine sr ((Rn.bin tv rfl rfl rfl (nt ((Tr.seq ?_)))))
  refine Tr.cond rfl (fun hb5=>?_) (fun hb5=>?_)
  ·replace h:=ifT hb5 h
   refine Tr.skip (toN (Tr.seq (Tr.block (sr ((md rfl ?_))))))
   obtain ⟨x6,h7,h⟩:=bnd h
   refine Rn.idxD (e:=(eI .i64)) tv rfl rfl h7 (Rn.loadC (x:=.int .i64 x6) tv rfl (md rfl (md rfl (nt ((Tr.seq ?_))))))
   refine Tr.cutB (fun (x9 : Bool)=>⟨look [(0,(l_ xset1)),(1,(i_ n2)),(5,(i_ x3)),(6,(i_ x6)),(7,(l_ xset1)),(8,(i_ (xset1.length : Int))),(9,(i_ x3)),(20,(b_ x9))],Qk Γ.n0 (bxs []) M,Γ.n0 + 33⟩) h (fun z h=>?_) (fun z h=>?_)
   ·refine Tr.rgn (md rfl (Rn.bin tv rfl rfl rfl (md rfl ?_)))
    refine Qck (decide (x6 < 0)) (fun hb8=>?_) (fun hb8=>?_)
    ·replace h:=ifT hb8 h
     refine Rn.sk (nw rfl hb8) (Rn.sk (nw rfl hb8) (Rn.sk (nw rfl hb8) (Rn.pickT (v:=(b_ true)) tv rfl hb8 rfl (Rn.nil ?_))))
     replace h:=si h; subst h
     exact Qg [] ⟨(sm rfl),(sm rfl),(sm rfl),(sm rfl),(sm rfl),(sm rfl),(sm rfl),(sm rfl),tv⟩ tv rfl
    ·replace h:=ifF hb8 h
     refine Rn.movD (gw rfl hb8) rfl (Rn.movD (gw rfl hb8) rfl (Rn.bin (gw rfl hb8) rfl rfl rfl (Rn.pickF (v:=(b_ (decide (x6 ≥ n2)))) tv rfl hb8 rfl (Rn.nil ?_))))
     replace h:=si h; subst h
     exact Qg [] ⟨(sm rfl),(sm rfl),(sm rfl),(sm rfl),(sm rfl),(sm rfl),(sm rfl),(sm rfl),tv⟩ tv rfl
   ·obtain ⟨x9,rfl⟩ : ∃ x,x = z:=⟨_,rfl⟩
    refine Tr.cond rfl (fun hb10=>?_) (fun hb10=>?_)
    ·replace h:=bT hb10 h
     refine sr ((md rfl (nt ((Tr.ret ?_)))))
     replace h:=si h; subst h
     exact ⟨.inr rfl,(i_ 2),rfl,fun _ _ _ _ h=>h,tv,fun k hk=>Qf hk⟩
    ·replace h:=bF hb10 h
     refine Tr.skip (toN ?_)
     refine Tr.cutB (fun (x14 : Bool)=>⟨look [(0,(l_ xset1)),(1,(i_ n2)),(7,(l_ xset1)),(8,(i_ (xset1.length : Int))),(9,(i_ x3)),(31,(b_ x14))],Qk Γ.n0 (bxs []) M,Γ.n0 + 33⟩) h (fun z h=>?_) (fun z h=>?_)
     ·refine Tr.rgn (md rfl (Rn.bin tv rfl rfl rfl (md rfl ?_)))
      refine Qck (decide (x3 > 0)) (fun hb11=>?_) (fun hb11=>?_)
      ·replace h:=ifT hb11 h
       refine Rn.movD (gw rfl hb11) rfl (Rn.movD (gw rfl hb11) rfl (Rn.movD (gw rfl hb11) rfl (Rn.bin (gw rfl hb11) rfl rfl rfl ?_)))
       obtain ⟨x12,h13,h⟩:=bnd h
       refine Rn.idxD (e:=(eI .i64)) (gw rfl hb11) rfl rfl h13 (Rn.loadC (x:=.int .i64 x12) (gw rfl hb11) rfl (Rn.bin (gw rfl hb11) rfl rfl rfl (Rn.pickT (v:=(b_ (decide (x6 ≤ x12)))) tv rfl hb11 rfl (Rn.nil ?_))))
       replace h:=si h; subst h
       exact Qg [] ⟨(sm rfl),(sm rfl),(sm rfl),(sm rfl),(sm rfl),(sm rfl),tv⟩ tv rfl
      ·replace h:=ifF hb11 h
       refine Rn.sk (nw rfl hb11) (Rn.sk (nw rfl hb11) (Rn.sk (nw rfl hb11) (Rn.sk (nw rfl hb11) (Rn.sk (nw rfl hb11) (Rn.sk (nw rfl hb11) (Rn.sk (nw rfl hb11) (Rn.pickF (v:=(b_ false)) tv rfl hb11 rfl (Rn.nil ?_))))))))
       replace h:=si h; subst h
       exact Qg [] ⟨(sm rfl),(sm rfl),(sm rfl),(sm rfl),(sm rfl),(sm rfl),tv⟩ tv rfl
     ·obtain ⟨x14,rfl⟩ : ∃ x,x = z:=⟨_,rfl⟩
      refine Tr.cond rfl (fun hb15=>?_) (fun hb15=>?_)
      ·replace h:=bT hb15 h
       refine sr ((md rfl (nt ((Tr.ret ?_)))))
       replace h:=si h; subst h
       exact ⟨.inr rfl,(i_ 5),rfl,fun _ _ _ _ h=>h,tv,fun k hk=>Qf hk⟩
      ·replace h:=bF hb15 h
       refine Tr.skip (toN (Tr.rgn (Rn.bin tv rfl rfl rfl (md rfl (Rn.nil ?_)))))
       exact ⟨_,h,(by exact Qi ⟨(sm rfl),(sm rfl),(sm rfl),(sm rfl),(sm rfl),tv⟩ tv rfl)⟩
  ·replace h:=ifF hb5 h
   refine Tr.exit (toN (sr ((md rfl (nt ((Tr.ret ?_)))))))
   replace h:=si h; subst h
   exact ⟨.inr rfl,(i_ 0),rfl,fun _ _ _ _ h=>h,tv,fun k hk=>Qf hk⟩
theorem Q4u {P : Program} {c : Nat} (hcf : Qm P c = some Qlq) (fuel : Nat) : Qfy P c (Q0 fuel):=by
 intro a1 b2 keep3 g4 cp5 r h
 intro M nb hc6 ho8 hf7
 refine Q8e hcf rfl M nb fun Γ hP hnt hn0 hM=>?_
 subst hP hn0
 refine Tr.init [(0,(l_ a1)),(1,(l_ b2)),(2,.clo g4 cp5)] rfl ?_
 unfold Q0 at h
 unfold Qlq
 refine sr ((Rn.movTC (v:=.nils 1) tv (nt ((sr ((Rn.movTC (v:=.nils 1) tv (Rn.nil (toN ?_)))))))))
 refine Tr.cutB (fun (out51 : List Int)=>⟨look [(7,(o_ out51))],Qk Γ.n0 (bxs []) M,Γ.n0 + 74⟩) h (fun z h=>?_) (fun z h=>?_)
 ·refine Tr.block ?_
  refine Tr.loop (mk:=fun ((a11,b12,out13) : (List Int) × (List Int) × (List Int))=>⟨look [(0,(l_ a11)),(1,(l_ b12)),(2,.clo g4 cp5),(7,(o_ out13))],Qk Γ.n0 (bxs []) M,Γ.n0 + 74⟩) h (by exact Qi ⟨(sm rfl),(sm rfl),(kFun hM ho8),(WkV.nilsO _),tv⟩ tv rfl) (fun k14 z h=>?_)
  ·obtain ⟨a11,b12,out13⟩:=z
   replace h : _ = some _:=h
   refine Tr.seq ?_
   refine Tr.cutB (fun (x16 : Bool)=>⟨look [(0,(l_ a11)),(1,(l_ b12)),(2,.clo g4 cp5),(7,(o_ out13)),(18,(b_ x16))],Qk Γ.n0 (bxs []) M,Γ.n0 + 74⟩) h (fun z h=>?_) (fun z h=>?_)
   ·refine Tr.rgn (md rfl (Rn.lenD tv rfl (Rn.bin tv rfl rfl rfl (md rfl ?_))))
    refine Qck (decide ((a11.length : Int) > 0)) (fun hb15=>?_) (fun hb15=>?_)
    ·replace h:=ifT hb15 h
     refine Rn.sk (nw rfl hb15) (Rn.sk (nw rfl hb15) (Rn.sk (nw rfl hb15) (Rn.pickT (v:=(b_ true)) tv rfl hb15 rfl (Rn.nil ?_))))
     replace h:=si h; subst h
     exact Qg [] ⟨(sm rfl),(sm rfl),(kFun hM ho8),(sm rfl),(sm rfl),tv⟩ tv rfl
    ·replace h:=ifF hb15 h
     refine Rn.movD (gw rfl hb15) rfl (Rn.lenD (gw rfl hb15) rfl (Rn.bin (gw rfl hb15) rfl rfl rfl (Rn.pickF (v:=(b_ (decide ((b12.length : Int) > 0)))) tv rfl hb15 rfl (Rn.nil ?_))))
     replace h:=si h; subst h
     exact Qg [] ⟨(sm rfl),(sm rfl),(kFun hM ho8),(sm rfl),(sm rfl),tv⟩ tv rfl
   ·obtain ⟨x16,rfl⟩ : ∃ x,x = z:=⟨_,rfl⟩
    refine Tr.cond rfl (fun hb17=>?_) (fun hb17=>?_)
    ·replace h:=bT hb17 h
     refine Tr.skip (toN (Tr.block ?_))
     refine Tr.cutB (fun (inA24 : Bool)=>⟨look [(0,(l_ a11)),(1,(l_ b12)),(2,.clo g4 cp5),(7,(o_ out13)),(8,(b_ inA24))],Qk Γ.n0 (bxs []) M,Γ.n0 + 74⟩) h (fun z h=>?_) (fun z h=>?_)
     ·refine Tr.rgnD (by decide) ?_
      refine md rfl (Rn.lenD tv rfl (Rn.bin tv rfl rfl rfl (md rfl ?_)))
      refine Qck (decide ((a11.length : Int) > 0)) (fun hb18=>?_) (fun hb18=>?_)
      ·replace h:=ifT hb18 h
       refine Rn.movD (gw rfl hb18) rfl (Rn.lenD (gw rfl hb18) rfl (Rn.bin (gw rfl hb18) rfl rfl rfl (Rn.movD (gw rfl hb18) rfl ?_)))
       refine Qck ((b12.length : Int) == 0) (fun hb19=>?_) (fun hb19=>?_)
       ·replace h:=bT hb19 h
        refine Rn.sk (nw rfl hb19) (Rn.sk (nw rfl hb19) (Rn.sk (nw rfl hb19) (Rn.sk (nw rfl hb19) (Rn.sk (nw rfl hb19) (Rn.sk (nw rfl hb19) (Rn.sk (nw rfl hb19) (Rn.pickT (v:=(b_ true)) (gw rfl hb18) rfl hb19 rfl (Rn.pickT (v:=(b_ true)) tv rfl hb18 rfl (md rfl ?_)))))))))
        refine Rn.nil ⟨rfl,?_⟩
        replace h:=si h; subst h
        exact Qg [] ⟨(sm rfl),(sm rfl),(kFun hM ho8),(sm rfl),(sm rfl),tv⟩ tv rfl
       ·replace h:=bF hb19 h
        refine Rn.movD (gw rfl hb19) rfl ?_
        obtain ⟨x20,h21,h⟩:=bnd h
        refine Rn.idxD (e:=(eI .i64)) (gw rfl hb19) rfl rfl h21 (Rn.loadC (x:=.int .i64 x20) (gw rfl hb19) rfl (Rn.movD (gw rfl hb19) rfl ?_))
        obtain ⟨x22,h23,h⟩:=bnd h
        refine Rn.idxD (e:=(eI .i64)) (gw rfl hb19) rfl rfl h23 (Rn.loadC (x:=.int .i64 x22) (gw rfl hb19) rfl (Rn.bin (gw rfl hb19) rfl rfl rfl (Rn.pickF (v:=(b_ (decide (x20 ≤ x22)))) (gw rfl hb18) rfl hb19 rfl (Rn.pickT (v:=(b_ (decide (x20 ≤ x22)))) tv rfl hb18 rfl (md rfl ?_)))))
        refine Rn.nil ⟨rfl,?_⟩
        replace h:=si h; subst h
        exact Qg [] ⟨(sm rfl),(sm rfl),(kFun hM ho8),(sm rfl),(sm rfl),tv⟩ tv rfl
      ·replace h:=ifF hb18 h
       refine Rn.sk (nw rfl hb18) (Rn.sk (nw rfl hb18) (Rn.sk (nw rfl hb18) (Rn.sk (nw rfl hb18) (Rn.sk (nu rfl) (Rn.sk (nu rfl) (Rn.sk (nu rfl) (Rn.sk (nu rfl) (Rn.sk (nu rfl) (Rn.sk (nu rfl) (Rn.sk (nu rfl) (Rn.sk (nw rfl hb18) (Rn.pickF (v:=(b_ false)) tv rfl hb18 rfl (md rfl ?_)))))))))))))
       refine Rn.nil ⟨rfl,?_⟩
       replace h:=si h; subst h
       exact Qg [] ⟨(sm rfl),(sm rfl),(kFun hM ho8),(sm rfl),(sm rfl),tv⟩ tv rfl
     ·obtain ⟨inA24,rfl⟩ : ∃ x,x = z:=⟨_,rfl⟩
      refine Tr.cutB (fun (inB31 : Bool)=>⟨look [(0,(l_ a11)),(1,(l_ b12)),(2,.clo g4 cp5),(7,(o_ out13)),(8,(b_ inA24)),(9,(b_ inB31))],Qk Γ.n0 (bxs []) M,Γ.n0 + 74⟩) h (fun z h=>?_) (fun z h=>?_)
      ·refine Tr.rgnD (by decide) ?_
       refine md rfl (Rn.lenD tv rfl (Rn.bin tv rfl rfl rfl (md rfl ?_)))
       refine Qck (decide ((b12.length : Int) > 0)) (fun hb25=>?_) (fun hb25=>?_)
       ·replace h:=ifT hb25 h
        refine Rn.movD (gw rfl hb25) rfl (Rn.lenD (gw rfl hb25) rfl (Rn.bin (gw rfl hb25) rfl rfl rfl (Rn.movD (gw rfl hb25) rfl ?_)))
        refine Qck ((a11.length : Int) == 0) (fun hb26=>?_) (fun hb26=>?_)
        ·replace h:=bT hb26 h
         refine Rn.sk (nw rfl hb26) (Rn.sk (nw rfl hb26) (Rn.sk (nw rfl hb26) (Rn.sk (nw rfl hb26) (Rn.sk (nw rfl hb26) (Rn.sk (nw rfl hb26) (Rn.sk (nw rfl hb26) (Rn.pickT (v:=(b_ true)) (gw rfl hb25) rfl hb26 rfl (Rn.pickT (v:=(b_ true)) tv rfl hb25 rfl (md rfl ?_)))))))))
         refine Rn.nil ⟨rfl,?_⟩
         replace h:=si h; subst h
         exact Qg [] ⟨(sm rfl),(sm rfl),(kFun hM ho8),(sm rfl),(sm rfl),(sm rfl),tv⟩ tv rfl
        ·replace h:=bF hb26 h
         refine Rn.movD (gw rfl hb26) rfl ?_
         obtain ⟨x27,h28,h⟩:=bnd h
         refine Rn.idxD (e:=(eI .i64)) (gw rfl hb26) rfl rfl h28 (Rn.loadC (x:=.int .i64 x27) (gw rfl hb26) rfl (Rn.movD (gw rfl hb26) rfl ?_))
         obtain ⟨x29,h30,h⟩:=bnd h
         refine Rn.idxD (e:=(eI .i64)) (gw rfl hb26) rfl rfl h30 (Rn.loadC (x:=.int .i64 x29) (gw rfl hb26) rfl (Rn.bin (gw rfl hb26) rfl rfl rfl (Rn.pickF (v:=(b_ (decide (x27 ≤ x29)))) (gw rfl hb25) rfl hb26 rfl (Rn.pickT (v:=(b_ (decide (x27 ≤ x29)))) tv rfl hb25 rfl (md rfl ?_)))))
         refine Rn.nil ⟨rfl,?_⟩
         replace h:=si h; subst h
         exact Qg [] ⟨(sm rfl),(sm rfl),(kFun hM ho8),(sm rfl),(sm rfl),(sm rfl),tv⟩ tv rfl
       ·replace h:=ifF hb25 h
        refine Rn.sk (nw rfl hb25) (Rn.sk (nw rfl hb25) (Rn.sk (nw rfl hb25) (Rn.sk (nw rfl hb25) (Rn.sk (nu rfl) (Rn.sk (nu rfl) (Rn.sk (nu rfl) (Rn.sk (nu rfl) (Rn.sk (nu rfl) (Rn.sk (nu rfl) (Rn.sk (nu rfl) (Rn.sk (nw rfl hb25) (Rn.pickF (v:=(b_ false)) tv rfl hb25 rfl (md rfl ?_)))))))))))))
        refine Rn.nil ⟨rfl,?_⟩
        replace h:=si h; subst h
        exact Qg [] ⟨(sm rfl),(sm rfl),(kFun hM ho8),(sm rfl),(sm rfl),(sm rfl),tv⟩ tv rfl
      ·obtain ⟨inB31,rfl⟩ : ∃ x,x = z:=⟨_,rfl⟩
       refine sr ((md rfl (Rn.nil (toN ?_))))
       refine Tr.cutB (fun ((a37,x38) : (List Int) × Int)=>⟨look [(0,(l_ a37)),(1,(l_ b12)),(2,.clo g4 cp5),(7,(o_ out13)),(8,(b_ inA24)),(9,(b_ inB31)),(10,(i_ x38))],Qk Γ.n0 (bxs []) M,Γ.n0 + 74⟩) h (fun z h=>?_) (fun z h=>?_)
       ·refine sr ((md rfl (Rn.nil (toN ?_))))
        refine Tr.cond rfl (fun hb32=>?_) (fun hb32=>?_)
        ·replace h:=bT hb32 h
         refine Tr.rgnD (by decide) ?_
         refine md rfl ?_
         obtain ⟨x33,h34,h⟩:=bnd h
         refine Rn.idxD (e:=(eI .i64)) tv rfl rfl h34 (Rn.loadC (x:=.int .i64 x33) tv rfl (Rn.movTD tv rfl ?_))
         obtain ⟨x35,h36,h⟩:=bnd h
         refine Rn.slcTD (e:=(eI .i64)) tv rfl rfl h36 (md rfl (Rn.movTD tv rfl ?_))
         refine Rn.nil ⟨rfl,?_⟩
         replace h:=si h; subst h
         exact Qg [] ⟨(sm rfl),(sm rfl),(kFun hM ho8),(sm rfl),(sm rfl),(sm rfl),(sm rfl),tv⟩ tv rfl
        ·replace h:=bF hb32 h
         refine Tr.skip ?_
         replace h:=si h; subst h
         exact Qg [] ⟨(sm rfl),(sm rfl),(kFun hM ho8),(sm rfl),(sm rfl),(sm rfl),(sm rfl),tv⟩ tv rfl
       ·obtain ⟨a37,x38⟩:=z
        refine Tr.cutB (fun ((b44,x45) : (List Int) × Int)=>⟨look [(0,(l_ a37)),(1,(l_ b44)),(2,.clo g4 cp5),(7,(o_ out13)),(8,(b_ inA24)),(9,(b_ inB31)),(10,(i_ x45))],Qk Γ.n0 (bxs []) M,Γ.n0 + 74⟩) h (fun z h=>?_) (fun z h=>?_)
        ·refine sr ((md rfl (Rn.nil (toN ?_))))
         refine Tr.cond rfl (fun hb39=>?_) (fun hb39=>?_)
         ·replace h:=bT hb39 h
          refine Tr.rgnD (by decide) ?_
          refine md rfl ?_
          obtain ⟨x40,h41,h⟩:=bnd h
          refine Rn.idxD (e:=(eI .i64)) tv rfl rfl h41 (Rn.loadC (x:=.int .i64 x40) tv rfl (Rn.movTD tv rfl ?_))
          obtain ⟨x42,h43,h⟩:=bnd h
          refine Rn.slcTD (e:=(eI .i64)) tv rfl rfl h43 (md rfl (Rn.movTD tv rfl ?_))
          refine Rn.nil ⟨rfl,?_⟩
          replace h:=si h; subst h
          exact Qg [] ⟨(sm rfl),(sm rfl),(kFun hM ho8),(sm rfl),(sm rfl),(sm rfl),(sm rfl),tv⟩ tv rfl
         ·replace h:=bF hb39 h
          refine Tr.skip ?_
          replace h:=si h; subst h
          exact Qg [] ⟨(sm rfl),(sm rfl),(kFun hM ho8),(sm rfl),(sm rfl),(sm rfl),(sm rfl),tv⟩ tv rfl
        ·obtain ⟨b44,x45⟩:=z
         refine sr ((Rn.mov (v:=.clo g4 cp5) tv rfl (md rfl (md rfl ?_))))
         obtain ⟨x47,h46,h⟩:=bnd h
         refine Rn.callvM (args:=[(b_ inA24),(b_ inB31)] ++ cp5) tv rfl (by rw [hc6]; rfl) (fun M2 nb2 hn hx=>hf7 _ _ _ h46 M2 nb2 (by omega) ((Q9u hM).trans hx)) rfl pc9 ?_
         refine Rn.nil (toN ?_)
         refine Tr.cond rfl (fun hb48=>?_) (fun hb48=>?_)
         ·replace h:=bT hb48 h
          refine Tr.rgn (Rn.movTO tv rfl (md rfl (Rn.bslice (xs:=[(i_ x45)]) (cs:=[(i_ x45)]) tv rfl rfl rfl rfl ?_)))
          obtain ⟨x49,h50,h⟩:=bnd h
          refine Rn.app (e:=(eI .i64)) tv rfl rfl rfl (Qdb rfl rfl rfl) h50 rfl (Rn.movTO tv rfl (Rn.nil ?_))
          exact ⟨_,h,(by exact Qi ⟨(sm rfl),(sm rfl),(kFun hM ho8),(sm rfl),tv⟩ tv rfl)⟩
         ·replace h:=bF hb48 h
          refine Tr.skip ?_
          exact ⟨_,h,(by exact Qi ⟨(sm rfl),(sm rfl),(kFun hM ho8),(sm rfl),tv⟩ tv rfl)⟩
    ·replace h:=bF hb17 h
     refine Tr.exit ?_
     replace h:=si h; subst h
     exact Qg [] ⟨(sm rfl),tv⟩ tv rfl
 ·obtain ⟨out51,rfl⟩ : ∃ x,x = z:=⟨_,rfl⟩
  refine sr ((Rn.movTO tv rfl (Rn.movTO tv rfl (nt ((Tr.ret ?_))))))
  replace h:=si h; subst h
  exact ⟨.inr rfl,(o_ out51),rfl,fun _ _ _ _ h=>h,tv,fun k hk=>Qf hk⟩
theorem Qpb {P : Program} {c : Nat} (hcf : Qm P c = some Qf7) : Qf6 P c (Qbu):=by
 intro inA1 inB2 r h
 refine Qb1 hcf rfl fun Γ M hP hnt hM=>?_
 subst hP
 refine Tr.init [(0,(b_ inA1)),(1,(b_ inB2))] rfl ?_
 unfold Qbu at h
 unfold Qf7
 refine sr ((md rfl (nt ((sr ((md rfl (md rfl ?_))))))))
 refine Qck inA1 (fun hb3=>?_) (fun hb3=>?_)
 ·replace h:=bT hb3 h
  refine Rn.movD (gw rfl hb3) rfl (Rn.pickT (v:=(b_ inB2)) tv rfl hb3 rfl (md rfl (nt ((Tr.ret ?_)))))
  replace h:=si h; subst h
  exact ⟨.inr rfl,(b_ inB2),rfl,fun _ _ _ _ h=>h,tv,fun k hk=>Qf hk⟩
 ·replace h:=bF hb3 h
  refine Rn.sk (nw rfl hb3) (Rn.pickF (v:=(b_ false)) tv rfl hb3 rfl (md rfl (nt ((Tr.ret ?_)))))
  replace h:=si h; subst h
  exact ⟨.inr rfl,(b_ false),rfl,fun _ _ _ _ h=>h,tv,fun k hk=>Qf hk⟩
theorem Qu3 {P : Program} {c : Nat} {Q0 : (List Int) → (List Int) → (Bool → Bool → Option Bool) → Option ((List Int))} {Qbu : Bool → Bool → Option Bool}
    (H_alphabet_merge : Qfy P 54 Q0)
    (H_alphabet_Intersect_1 : Qf6 P 78 Qbu) (hcf : Qm P c = some Qhr) : Qhq P c (Qcb Q0 Qbu):=by
 intro a1 b2 r h
 refine Qb1 hcf rfl fun Γ M hP hnt hM=>?_
 subst hP
 refine Tr.init [(0,(l_ a1)),(1,(l_ b2))] rfl ?_
 unfold Qcb at h
 unfold Qhr
 refine sr ((Rn.movTC (v:=.nils 1) tv (nt ((sr ((md rfl (md rfl ?_))))))))
 obtain ⟨x8,h7,h⟩:=bnd h
 refine Rn.callM (args:=[(l_ a1),(l_ b2),.clo 78 []]) tv rfl (fun M2 nb2 hn hx=>H_alphabet_merge _ _ _ 78 [] _ h7 M2 nb2 rfl tv (fun a3 a4 r5 h6 M3 nb3 hn3 hx3=>H_alphabet_Intersect_1 a3 a4 r5 h6 M3 nb3 )) rfl pc9 ?_
 refine Rn.movTO tv rfl (nt ((Tr.ret ?_)))
 replace h:=si h; subst h
 exact ⟨.inr rfl,(o_ x8),rfl,fun _ _ _ _ h=>h,tv,fun k hk=>Qf hk⟩
theorem Q0i {P : Program} {c : Nat} {Q2 : (List Int) → Int → Option Int} {Qcb : (List Int) → (List Int) → Option ((List Int))}
    (H_alphabet_CheckSet : Qfo P 8 Q2)
    (H_alphabet_Intersect : Qhq P 53 Qcb) (hcf : Qm P c = some Qjx) (fuel : Nat) : Qjw P c (Qct Q2 Qcb fuel):=by
 intro a1 b2 r h
 refine Qb1 hcf rfl fun Γ M hP hnt hM=>?_
 subst hP
 refine Tr.init [(0,(l_ a1)),(1,(l_ b2))] rfl ?_
 unfold Qct at h
 unfold Qjx
 refine sr ((md rfl (nt ((Tr.seq (sr ((md rfl (md rfl (Rn.build (v:=.agg [(l_ a1),(l_ b2)]) tv rfl (md rfl (nt ((Tr.block ?_))))))))))))))
 refine Tr.loop (mk:=fun (x3 : Int)=>⟨look [(0,(l_ a1)),(1,(l_ b2)),(10,.agg [(l_ a1),(l_ b2)]),(11,(i_ x3))],Qk Γ.n0 (bxs []) M,Γ.n0 + 25⟩) h (by exact Qi ⟨(sm rfl),(sm rfl),(sm rfl),(sm rfl),tv⟩ tv rfl) (fun k4 z h=>?_)
 ·obtain ⟨x3,rfl⟩ : ∃ x,x = z:=⟨_,rfl⟩
  replace h : _ = some _:=h
  refine sr ((Rn.bin tv rfl rfl rfl (nt ((Tr.seq ?_)))))
  refine Tr.cond rfl (fun hb5=>?_) (fun hb5=>?_)
  ·replace h:=ifT hb5 h
   refine Tr.skip (toN (Tr.seq (Tr.block (Tr.seq (Tr.rgn ?_)))))
   obtain ⟨x6,h7,h⟩:=bnd h
   refine Rn.idxvalV (e:=fun (z : List Int)=>.lst 1 (List.map (eI .i64) z)) (xs:=[a1,b2]) tv rfl rfl rfl h7 (Rn.movTD tv rfl (nt ((sr ((md rfl ?_))))))
   obtain ⟨x9,h8,h⟩:=bnd h
   refine Rn.call (args:=[(l_ x6),(i_ 32)]) tv rfl (H_alphabet_CheckSet _ _ _ h8) pc9 (md rfl (nt ((sr ((md rfl (Rn.bin tv rfl rfl rfl (Rn.nil (toN ?_)))))))))
   refine Tr.cond rfl (fun hb10=>?_) (fun hb10=>?_)
   ·replace h:=bT hb10 h
    refine sr ((md rfl (md rfl (nt ((Tr.ret ?_))))))
    replace h:=si h; subst h
    exact ⟨.inr rfl,(i_ x9),rfl,fun _ _ _ _ h=>h,tv,fun k hk=>Qf hk⟩
   ·replace h:=bF hb10 h
    refine Tr.skip (toN (Tr.rgn (Rn.bin tv rfl rfl rfl (md rfl (Rn.nil ?_)))))
    exact ⟨_,h,(by exact Qi ⟨(sm rfl),(sm rfl),(sm rfl),(sm rfl),tv⟩ tv rfl)⟩
  ·replace h:=ifF hb5 h
   refine Tr.exit (toN (Tr.seq (sr ((md rfl (md rfl ?_))))))
   obtain ⟨x12,h11,h⟩:=bnd h
   refine Rn.call (args:=[(l_ a1),(l_ b2)]) tv rfl (H_alphabet_Intersect _ _ _ h11) pc9 (Rn.lenD tv rfl (Rn.bin tv rfl rfl rfl (Rn.nil (toN ?_))))
   refine Tr.cond rfl (fun hb13=>?_) (fun hb13=>?_)
   ·replace h:=ifT hb13 h
    refine sr ((md rfl (nt ((Tr.ret ?_)))))
    replace h:=si h; subst h
    exact ⟨.inr rfl,(i_ 13),rfl,fun _ _ _ _ h=>h,tv,fun k hk=>Qf hk⟩
   ·replace h:=ifF hb13 h
    refine Tr.skip (toN (sr ((md rfl (nt ((Tr.ret ?_)))))))
    replace h:=si h; subst h
    exact ⟨.inr rfl,(i_ 0),rfl,fun _ _ _ _ h=>h,tv,fun k hk=>Qf hk⟩
theorem Q0j {P : Program} {c : Nat} (hcf : Qm P c = some Qjz) : Qjy P c (Qcu):=by
 intro inA1 inB2 r h
 refine Qb1 hcf rfl fun Γ M hP hnt hM=>?_
 subst hP
 refine Tr.init [(0,(b_ inA1)),(1,(b_ inB2))] rfl ?_
 unfold Qcu at h
 unfold Qjz
 refine sr ((md rfl (nt ((sr ((md rfl (md rfl ?_))))))))
 refine Qck inA1 (fun hb3=>?_) (fun hb3=>?_)
 ·replace h:=bT hb3 h
  refine Rn.sk (nw rfl hb3) (Rn.pickT (v:=(b_ true)) tv rfl hb3 rfl (md rfl (nt ((Tr.ret ?_)))))
  replace h:=si h; subst h
  exact ⟨.inr rfl,(b_ true),rfl,fun _ _ _ _ h=>h,tv,fun k hk=>Qf hk⟩
 ·replace h:=bF hb3 h
  refine Rn.movD (gw rfl hb3) rfl (Rn.pickF (v:=(b_ inB2)) tv rfl hb3 rfl (md rfl (nt ((Tr.ret ?_)))))
  replace h:=si h; subst h
  exact ⟨.inr rfl,(b_ inB2),rfl,fun _ _ _ _ h=>h,tv,fun k hk=>Qf hk⟩
theorem Q4v {P : Program} {c : Nat} {Q0 : (List Int) → (List Int) → (Bool → Bool → Option Bool) → Option ((List Int))} {Qcu : Bool → Bool → Option Bool}
    (H_alphabet_merge : Qfy P 54 Q0)
    (H_alphabet_Union_1 : Qjy P 55 Qcu) (hcf : Qm P c = some Qls) : Qlr P c (Qdi Q0 Qcu):=by
 intro a1 b2 r h
 refine Qb1 hcf rfl fun Γ M hP hnt hM=>?_
 subst hP
 refine Tr.init [(0,(l_ a1)),(1,(l_ b2))] rfl ?_
 unfold Qdi at h
 unfold Qls
 refine sr ((Rn.movTC (v:=.nils 1) tv (nt ((sr ((md rfl (md rfl ?_))))))))
 obtain ⟨x8,h7,h⟩:=bnd h
 refine Rn.callM (args:=[(l_ a1),(l_ b2),.clo 55 []]) tv rfl (fun M2 nb2 hn hx=>H_alphabet_merge _ _ _ 55 [] _ h7 M2 nb2 rfl tv (fun a3 a4 r5 h6 M3 nb3 hn3 hx3=>H_alphabet_Union_1 a3 a4 r5 h6 M3 nb3 )) rfl pc9 ?_
 refine Rn.movTO tv rfl (nt ((Tr.ret ?_)))
 replace h:=si h; subst h
 exact ⟨.inr rfl,(o_ x8),rfl,fun _ _ _ _ h=>h,tv,fun k hk=>Qf hk⟩
theorem Q6i {P : Program} {c : Nat} (hcf : Qm P c = some Qnb) : Qna P c (Qcx):=by
 intro x1 r h
 refine Qb1 hcf rfl fun Γ M hP hnt hM=>?_
 subst hP
 refine Tr.init [(0,(i_ x1))] rfl ?_
 unfold Qcx at h
 unfold Qnb
 refine sr ((md rfl (nt ((sr ((md rfl (md rfl (Rn.bin tv rfl rfl rfl (md rfl (nt ((Tr.ret ?_)))))))))))))
 replace h:=si h; subst h
 exact ⟨.inr rfl,(b_ (x1 != x1)),rfl,fun _ _ _ _ h=>h,tv,fun k hk=>Qf hk⟩
theorem Q7p {P : Program} {c : Nat} {Qcx : Int → Option Bool}
    (H_cmp_isNaN_int : Qna P 98 Qcx) (hcf : Qm P c = some Qox) : Qow P c (Qdq Qcx):=by
 intro x1 y2 r h
 refine Qb1 hcf rfl fun Γ M hP hnt hM=>?_
 subst hP
 refine Tr.init [(0,(i_ x1)),(1,(i_ y2))] rfl ?_
 unfold Qdq at h
 unfold Qox
 refine sr ((md rfl (nt ((sr ((md rfl ?_)))))))
 obtain ⟨x4,h3,h⟩:=bnd h
 refine Rn.call (args:=[(i_ x1)]) tv rfl (H_cmp_isNaN_int _ _ h3) pc9 (md rfl ?_)
 refine Qck x4 (fun hb5=>?_) (fun hb5=>?_)
 ·replace h:=bT hb5 h
  refine Rn.movD (gw rfl hb5) rfl ?_
  obtain ⟨x7,h6,h⟩:=bnd h
  refine Rn.call (args:=[(i_ y2)]) (gw rfl hb5) rfl (H_cmp_isNaN_int _ _ h6) pc9 (Rn.un (gw rfl hb5) rfl rfl (Rn.pickT (v:=(b_ (!x7))) tv rfl hb5 rfl (md rfl ?_)))
  refine Qck x7 (fun hb8=>?_) (fun hb8=>?_)
  ·replace h:=bT hb8 h
   refine Rn.movD (gw rfl (nT hb8)) rfl (Rn.movD (gw rfl (nT hb8)) rfl (Rn.bin (gw rfl (nT hb8)) rfl rfl rfl (Rn.pickF (v:=(b_ (decide (x1 < y2)))) tv rfl (nT hb8) rfl (md rfl (nt ((Tr.ret ?_)))))))
   replace h:=si h; subst h
   exact ⟨.inr rfl,(b_ (decide (x1 < y2))),rfl,fun _ _ _ _ h=>h,tv,fun k hk=>Qf hk⟩
  ·replace h:=bF hb8 h
   refine Rn.sk (nw rfl (nF hb8)) (Rn.sk (nw rfl (nF hb8)) (Rn.sk (nw rfl (nF hb8)) (Rn.pickT (v:=(b_ true)) tv rfl (nF hb8) rfl (md rfl (nt ((Tr.ret ?_)))))))
   replace h:=si h; subst h
   exact ⟨.inr rfl,(b_ true),rfl,fun _ _ _ _ h=>h,tv,fun k hk=>Qf hk⟩
 ·replace h:=bF hb5 h
  refine Rn.sk (nw rfl hb5) (Rn.sk (nw rfl hb5) (Rn.sk (nw rfl hb5) (Rn.pickF (v:=(b_ false)) tv rfl hb5 rfl (md rfl (Rn.movD (gw (b:=false) rfl rfl) rfl (Rn.movD (gw (b:=false) rfl rfl) rfl (Rn.bin (gw (b:=false) rfl rfl) rfl rfl rfl (Rn.pickF (v:=(b_ (decide (x1 < y2)))) tv rfl rfl rfl (md rfl (nt ((Tr.ret ?_))))))))))))
  replace h:=si h; subst h
  exact ⟨.inr rfl,(b_ (decide (x1 < y2))),rfl,fun _ _ _ _ h=>h,tv,fun k hk=>Qf hk⟩
theorem Q0k {P : Program} {c : Nat} (hcf : Qm P c = some Qj1) : Qj0 P c (Qb2):=by
 intro x1 r h
 refine Qb1 hcf rfl fun Γ M hP hnt hM=>?_
 subst hP
 refine Tr.init [(0,(i_ x1))] rfl ?_
 unfold Qb2 at h
 unfold Qj1
 refine sr ((md rfl (nt ((sr ((md rfl (md rfl (Rn.bin tv rfl rfl rfl (md rfl (nt ((Tr.ret ?_)))))))))))))
 replace h:=si h; subst h
 exact ⟨.inr rfl,(b_ (x1 != x1)),rfl,fun _ _ _ _ h=>h,tv,fun k hk=>Qf hk⟩
theorem Qmr {P : Program} {c : Nat} {Qdq : Int → Int → Option Bool} {Qb2 : Int → Option Bool}
    (H_cmp_Less_int : Qow P 73 Qdq)
    (H_slices_isNaN_int : Qj0 P 79 Qb2) (hcf : Qm P c = some Qe1) (fuel : Nat) : Qdr P c (Qp Qdq Qb2 fuel):=by
 intro x1 target2 r h
 refine Qb1 hcf rfl fun Γ M hP hnt hM=>?_
 subst hP
 refine Tr.init [(0,(l_ x1)),(1,(i_ target2))] rfl ?_
 unfold Qp at h
 unfold Qe1
 refine sr ((md rfl (md rfl (nt ((sr ((md rfl (Rn.lenD tv rfl (md rfl (nt ((sr ((md rfl (md rfl (md rfl (Rn.nil (toN ?_)))))))))))))))))))
 refine Tr.cutB (fun (i12 : Int)=>⟨look [(0,(l_ x1)),(1,(i_ target2)),(6,(i_ (x1.length : Int))),(7,(i_ i12))],Qk Γ.n0 (bxs []) M,Γ.n0 + 54⟩) h (fun z h=>?_) (fun z h=>?_)
 ·refine Tr.block ?_
  refine Tr.loop (mk:=fun ((i3,j4) : Int × Int)=>⟨look [(0,(l_ x1)),(1,(i_ target2)),(6,(i_ (x1.length : Int))),(7,(i_ i3)),(8,(i_ j4))],Qk Γ.n0 (bxs []) M,Γ.n0 + 54⟩) h (by exact Qi ⟨(sm rfl),(sm rfl),(sm rfl),(sm rfl),(sm rfl),tv⟩ tv rfl) (fun k5 z h=>?_)
  ·obtain ⟨i3,j4⟩:=z
   replace h : _ = some _:=h
   refine Tr.seq (sr ((md rfl (md rfl (Rn.bin tv rfl rfl rfl (Rn.nil (toN ?_)))))))
   refine Tr.cond rfl (fun hb6=>?_) (fun hb6=>?_)
   ·replace h:=ifT hb6 h
    refine Tr.skip (toN (Tr.block (sr ((md rfl (md rfl (Rn.bin tv rfl rfl rfl (Rn.conv tv rfl (Rn.bin tv rfl rfl rfl (Rn.conv tv rfl (md rfl (nt ((sr ((md rfl (md rfl ?_)))))))))))))))))
    obtain ⟨x7,h8,h⟩:=bnd h
    refine Rn.idxD (e:=(eI .i64)) tv rfl rfl h8 (Rn.loadC (x:=.int .i64 x7) tv rfl (md rfl ?_))
    obtain ⟨x10,h9,h⟩:=bnd h
    refine Rn.call (args:=[(i_ x7),(i_ target2)]) tv rfl (H_cmp_Less_int _ _ _ h9) pc9 (Rn.nil (toN ?_))
    refine Tr.cond rfl (fun hb11=>?_) (fun hb11=>?_)
    ·replace h:=bT hb11 h
     refine Tr.rgn (md rfl (Rn.bin tv rfl rfl rfl (md rfl (Rn.nil ?_))))
     exact ⟨_,h,(by exact Qi ⟨(sm rfl),(sm rfl),(sm rfl),(sm rfl),(sm rfl),tv⟩ tv rfl)⟩
    ·replace h:=bF hb11 h
     refine Tr.rgn (md rfl (md rfl (Rn.nil ?_)))
     exact ⟨_,h,(by exact Qi ⟨(sm rfl),(sm rfl),(sm rfl),(sm rfl),(sm rfl),tv⟩ tv rfl)⟩
   ·replace h:=ifF hb6 h
    refine Tr.exit ?_
    replace h:=si h; subst h
    exact Qg [] ⟨(sm rfl),(sm rfl),(sm rfl),(sm rfl),tv⟩ tv rfl
 ·obtain ⟨i12,rfl⟩ : ∃ x,x = z:=⟨_,rfl⟩
  refine sr ((md rfl (md rfl (md rfl (Rn.bin tv rfl rfl rfl (md rfl ?_))))))
  refine Qck (decide (i12 < (x1.length : Int))) (fun hb13=>?_) (fun hb13=>?_)
  ·replace h:=ifT hb13 h
   refine Rn.movD (gw rfl hb13) rfl (Rn.movD (gw rfl hb13) rfl ?_)
   obtain ⟨x14,h15,h⟩:=bnd h
   refine Rn.idxD (e:=(eI .i64)) (gw rfl hb13) rfl rfl h15 (Rn.loadC (x:=.int .i64 x14) (gw rfl hb13) rfl (Rn.movD (gw rfl hb13) rfl (Rn.bin (gw rfl hb13) rfl rfl rfl (Rn.movD (gw rfl hb13) rfl ?_))))
   refine Qck (x14 == target2) (fun hb16=>?_) (fun hb16=>?_)
   ·replace h:=bT hb16 h
    refine Rn.sk (nw rfl hb16) (Rn.sk (nw rfl hb16) (Rn.sk (nw rfl hb16) (Rn.sk (nw rfl hb16) (Rn.sk (nw rfl hb16) (Rn.sk (nw rfl hb16) (Rn.sk (nu rfl) (Rn.sk (nu rfl) (Rn.sk (nw rfl hb16) (Rn.pickT (v:=(b_ true)) (gw rfl hb13) rfl hb16 rfl (Rn.pickT (v:=(b_ true)) tv rfl hb13 rfl (md rfl (md rfl (nt ((Tr.ret ?_)))))))))))))))
    replace h:=si h; subst h
    exact ⟨.inr rfl,.tup [(i_ i12),(b_ true)],res2 rfl rfl,(WkV.tup (.cons (.same rfl) (.cons (.same rfl) .nil))).rd,⟨tv,tv,tv⟩,fun k hk=>Qf hk⟩
   ·replace h:=bF hb16 h
    refine Rn.movD (gw rfl hb16) rfl (Rn.movD (gw rfl hb16) rfl ?_)
    obtain ⟨x17,h18,h⟩:=bnd h
    refine Rn.idxD (e:=(eI .i64)) (gw rfl hb16) rfl rfl h18 (Rn.loadC (x:=.int .i64 x17) (gw rfl hb16) rfl ?_)
    obtain ⟨x20,h19,h⟩:=bnd h
    refine Rn.call (args:=[(i_ x17)]) (gw rfl hb16) rfl (H_slices_isNaN_int _ _ h19) pc9 (Rn.movD (gw rfl hb16) rfl ?_)
    refine Qck x20 (fun hb21=>?_) (fun hb21=>?_)
    ·replace h:=bT hb21 h
     refine Rn.movD (gw rfl hb21) rfl ?_
     obtain ⟨x23,h22,h⟩:=bnd h
     refine Rn.call (args:=[(i_ target2)]) (gw rfl hb21) rfl (H_slices_isNaN_int _ _ h22) pc9 (Rn.pickT (v:=(b_ x23)) (gw rfl hb16) rfl hb21 rfl (Rn.pickF (v:=(b_ x23)) (gw rfl hb13) rfl hb16 rfl (Rn.pickT (v:=(b_ x23)) tv rfl hb13 rfl (md rfl (md rfl (nt ((Tr.ret ?_))))))))
     replace h:=si h; subst h
     exact ⟨.inr rfl,.tup [(i_ i12),(b_ x23)],res2 rfl rfl,(WkV.tup (.cons (.same rfl) (.cons (.same rfl) .nil))).rd,⟨tv,tv,tv⟩,fun k hk=>Qf hk⟩
    ·replace h:=bF hb21 h
     refine Rn.sk (nw rfl hb21) (Rn.sk (nw rfl hb21) (Rn.pickF (v:=(b_ false)) (gw rfl hb16) rfl hb21 rfl (Rn.pickF (v:=(b_ false)) (gw rfl hb13) rfl hb16 rfl (Rn.pickT (v:=(b_ false)) tv rfl hb13 rfl (md rfl (md rfl (nt ((Tr.ret ?_)))))))))
     replace h:=si h; subst h
     exact ⟨.inr rfl,.tup [(i_ i12),(b_ false)],res2 rfl rfl,(WkV.tup (.cons (.same rfl) (.cons (.same rfl) .nil))).rd,⟨tv,tv,tv⟩,fun k hk=>Qf hk⟩
  ·replace h:=ifF hb13 h
   refine Rn.sk (nw rfl hb13) (Rn.sk (nw rfl hb13) (Rn.sk (nw rfl hb13) (Rn.sk (nw rfl hb13) (Rn.sk (nw rfl hb13) (Rn.sk (nw rfl hb13) (Rn.sk (nw rfl hb13) (Rn.sk (nu rfl) (Rn.sk (nu rfl) (Rn.sk (nu rfl) (Rn.sk (nu rfl) (Rn.sk (nu rfl) (Rn.sk (nu rfl) (Rn.sk (nu rfl) (Rn.sk (nu rfl) (Rn.sk (nu rfl) (Rn.sk (nw rfl hb13) (Rn.pickF (v:=(b_ false)) tv rfl hb13 rfl (md rfl (md rfl (nt ((Tr.ret ?_))))))))))))))))))))))
   replace h:=si h; subst h
   exact ⟨.inr rfl,.tup [(i_ i12),(b_ false)],res2 rfl rfl,(WkV.tup (.cons (.same rfl) (.cons (.same rfl) .nil))).rd,⟨tv,tv,tv⟩,fun k hk=>Qf hk⟩
theorem Qxq {P : Program} {c : Nat} {Qp : (List Int) → Int → Option (Int × Bool)}
    (H_slices_BinarySearch_int : Qdr P 56 Qp) (hcf : Qm P c = some Qiy) : Qix P c (Qcl Qp):=by
 intro xset1 x2 r h
 refine Qb1 hcf rfl fun Γ M hP hnt hM=>?_
 subst hP
 refine Tr.init [(0,(l_ xset1)),(1,(i_ x2))] rfl ?_
 unfold Qcl at h
 unfold Qiy
 refine sr ((md rfl (nt ((sr ((md rfl (md rfl ?_))))))))
 obtain ⟨⟨r4,r5⟩,h3,h⟩:=bnd h
 refine Rn.call (args:=[(l_ xset1),(i_ x2)]) tv rfl (H_slices_BinarySearch_int _ _ _ h3) pc9 (Rn.mov (v:=.tup [(i_ r4),(b_ r5)]) tv rfl (Rn.ext (v:=(i_ r4)) (vs:=[(i_ r4),(b_ r5)]) tv rfl rfl rfl (Rn.ext (v:=(b_ r5)) (vs:=[(i_ r4),(b_ r5)]) tv rfl rfl rfl (md rfl (md rfl (nt ((sr ((md rfl (md rfl (nt ((Tr.ret ?_))))))))))))))
 replace h:=si h; subst h
 exact ⟨.inr rfl,(b_ r5),rfl,fun _ _ _ _ h=>h,tv,fun k hk=>Qf hk⟩
theorem Qpc {P : Program} {c : Nat} {Qcl : (List Int) → Int → Option Bool}
    (H_alphabet_Contains : Qix P 35 Qcl) (hcf : Qm P c = some Qf9) : Qf8 P c (Qbv Qcl):=by
 intro state1 event2 x3 x6 k4 k7 r h
 intro M nb hk5 hk8
 refine Q8e hcf rfl M nb fun Γ hP hnt hn0 hM=>?_
 subst hP hn0
 refine Tr.init [(0,(i_ state1)),(1,(i_ event2)),(2,.ptr k4 0),(3,.ptr k7 0)] rfl ?_
 unfold Qbv at h
 unfold Qf9
 refine sr ((md rfl (md rfl (nt ((Tr.seq (sr ((Rn.load (v:=(l_ x3)) tv rfl (Qyo hM hk5) rfl rfl (md rfl ?_))))))))))
 obtain ⟨x10,h9,h⟩:=bnd h
 refine Rn.call (args:=[(l_ x3),(i_ event2)]) tv rfl (H_alphabet_Contains _ _ _ h9) pc9 (Rn.nil (toN ?_))
 refine Tr.cond rfl (fun hb11=>?_) (fun hb11=>?_)
 ·replace h:=bT hb11 h
  refine Tr.seq ?_
  refine Tr.rgnD (by decide) ?_
  refine md rfl (Rn.bin tv rfl rfl rfl (md rfl (Rn.load (v:=(i_ x6)) tv rfl (Qyo hM hk8) rfl rfl (Rn.bin tv rfl rfl rfl (md rfl (md rfl ?_))))))
  refine Rn.nil ⟨rfl,?_⟩
  refine toN (Tr.ret ?_)
  replace h:=si h; subst h
  exact ⟨.inr rfl,.tup [(i_ (IntKind.wrap .i64 (state1 + 1))),(b_ (decide (state1 < x6)))],res2 rfl rfl,(WkV.tup (.cons (.same rfl) (.cons (.same rfl) .nil))).rd,⟨tv,tv,tv⟩,fun k hk=>Qf hk⟩
 ·replace h:=bF hb11 h
  refine Tr.skip (toN (sr ((md rfl (Rn.bin tv rfl rfl rfl (md rfl (Rn.bin tv rfl rfl rfl (md rfl (md rfl (nt ((Tr.ret ?_))))))))))))
  replace h:=si h; subst h
  exact ⟨.inr rfl,.tup [(i_ (IntKind.wrap .i64 (state1 - 1))),(b_ (decide (state1 > 0)))],res2 rfl rfl,(WkV.tup (.cons (.same rfl) (.cons (.same rfl) .nil))).rd,⟨tv,tv,tv⟩,fun k hk=>Qf hk⟩
theorem Qu4 {P : Program} {c : Nat} {Qo : (List Int) → (Int → Option Bool) → (Int → Int → Option (Int × Bool)) → Option Qa} {Q8 : Int → Option Bool} {Qct : (List Int) → (List Int) → Option Int} {Qdi : (List Int) → (List Int) → Option ((List Int))} {Qbv : Int → Int → (List Int) → Int → Option (Int × Bool)}
    (H_requirement_explore : Qdt P 28 Qo)
    (H_requirement_first : Qfl P 30 Q8)
    (H_requirement_sets : Qjw P 32 Qct)
    (H_alphabet_Union : Qlr P 33 Qdi)
    (H_requirement_Buffer_1 : Qf8 P 34 Qbv) (hcf : Qm P c = some Qht) : Qhs P c (Qcc Qo Q8 Qct Qdi Qbv):=by
 intro put1 take2 capacity3 r h
 refine Qb1 hcf rfl fun Γ M hP hnt hM=>?_
 subst hP
 refine Tr.init [(0,(l_ put1)),(1,(l_ take2)),(2,(i_ capacity3))] rfl ?_
 unfold Qcc at h
 unfold Qht
 refine sr ((Rn.box (v:=(l_ put1)) (cs:=[(l_ put1)]) tv rfl rfl rfl rfl rfl (Rn.box (v:=(i_ capacity3)) (cs:=[(i_ capacity3)]) tv rfl rfl rfl rfl rfl (Rn.alloc tv rfl (md rfl (nt ((Tr.seq (sr ((Rn.load (v:=(l_ put1)) tv rfl (Qj rfl) rfl rfl (md rfl ?_))))))))))))
 obtain ⟨x5,h4,h⟩:=bnd h
 refine Rn.call (args:=[(l_ put1),(l_ take2)]) tv rfl (H_requirement_sets _ _ _ h4) pc9 (md rfl (nt ((sr ((md rfl (Rn.bin tv rfl rfl rfl (Rn.nil (toN ?_)))))))))
 refine Tr.cond rfl (fun hb6=>?_) (fun hb6=>?_)
 ·replace h:=bT hb6 h
  refine sr ((Rn.build (v:=.agg [.nils 1,(i_ 0),.nils 1,.nils 3]) tv rfl (md rfl (Rn.storeT (v:=.agg [.nils 1,(i_ 0),.nils 1,.nils 3]) (ds:=[.nils 1,(i_ 0),.nils 1,.nils 3]) (cs':=[.nils 1,(i_ 0),.nils 1,.nils 3]) tv rfl rfl rfl rfl rfl rfl rfl (md rfl (nt ((Tr.ret ?_))))))))
  replace h:=si h; subst h
  exact ⟨.inr rfl,.tup [.agg [.nils 1,(i_ 0),.nils 1,.nils 3],(i_ x5)],res2 (Qel rfl rfl rfl rfl) rfl,(WkV.tup (.cons (WkV.agg (.cons (WkV.nilsD _) (.cons (.same rfl) (.cons (WkV.nilsD _) (.cons (WkV.nilsD _) .nil))))) (.cons (.same rfl) .nil))).rd,⟨⟨tv,tv,tv,tv,tv⟩,tv,tv⟩,fun k hk=>Qf hk⟩
 ·replace h:=bF hb6 h
  refine Tr.skip (toN (Tr.seq ?_))
  refine Tr.cutB (fun (x8 : Bool)=>⟨look [(1,(l_ take2)),(3,.ptr (Γ.n0 + 3) 0),(5,.ptr (Γ.n0 + 5) 0),(6,.ptr (Γ.n0 + 6) 0),(21,(b_ x8))],Qk Γ.n0 (bxs [(3,.cells ([(l_ put1)])),(5,.cells ([(i_ capacity3)])),(6,.cells ([.nils 1,(i_ 0),.nils 1,.nils 3]))]) M,Γ.n0 + 28⟩) h (fun z h=>?_) (fun z h=>?_)
  ·refine Tr.rgn (Rn.load (v:=(i_ capacity3)) tv rfl (Qj rfl) rfl rfl (Rn.bin tv rfl rfl rfl (md rfl ?_)))
   refine Qck (decide (capacity3 < 1)) (fun hb7=>?_) (fun hb7=>?_)
   ·replace h:=ifT hb7 h
    refine Rn.sk (nw rfl hb7) (Rn.sk (nw rfl hb7) (Rn.pickT (v:=(b_ true)) tv rfl hb7 rfl (Rn.nil ?_)))
    replace h:=si h; subst h
    exact Qg [] ⟨(sm rfl),(kPtr rfl),(kPtr rfl),(kPtr rfl),(sm rfl),tv⟩ ⟨⟨_,rfl,rfl,(.same rfl)⟩,⟨_,rfl,rfl,(.same rfl)⟩,⟨_,rfl,rfl,(.same rfl)⟩,tv⟩ rfl
   ·replace h:=ifF hb7 h
    refine Rn.load (v:=(i_ capacity3)) (gw rfl hb7) rfl (Qj rfl) rfl rfl (Rn.bin (gw rfl hb7) rfl rfl rfl (Rn.pickF (v:=(b_ (decide (capacity3 > 1024)))) tv rfl hb7 rfl (Rn.nil ?_)))
    replace h:=si h; subst h
    exact Qg [] ⟨(sm rfl),(kPtr rfl),(kPtr rfl),(kPtr rfl),(sm rfl),tv⟩ ⟨⟨_,rfl,rfl,(.same rfl)⟩,⟨_,rfl,rfl,(.same rfl)⟩,⟨_,rfl,rfl,(.same rfl)⟩,tv⟩ rfl
  ·obtain ⟨x8,rfl⟩ : ∃ x,x = z:=⟨_,rfl⟩
   refine Tr.cond rfl (fun hb9=>?_) (fun hb9=>?_)
   ·replace h:=bT hb9 h
    refine sr ((Rn.build (v:=.agg [.nils 1,(i_ 0),.nils 1,.nils 3]) tv rfl (Rn.storeT (v:=.agg [.nils 1,(i_ 0),.nils 1,.nils 3]) (ds:=[.nils 1,(i_ 0),.nils 1,.nils 3]) (cs':=[.nils 1,(i_ 0),.nils 1,.nils 3]) tv rfl rfl rfl rfl rfl rfl rfl (md rfl (nt ((Tr.ret ?_)))))))
    replace h:=si h; subst h
    exact ⟨.inr rfl,.tup [.agg [.nils 1,(i_ 0),.nils 1,.nils 3],(i_ 2)],res2 (Qel rfl rfl rfl rfl) rfl,(WkV.tup (.cons (WkV.agg (.cons (WkV.nilsD _) (.cons (.same rfl) (.cons (WkV.nilsD _) (.cons (WkV.nilsD _) .nil))))) (.cons (.same rfl) .nil))).rd,⟨⟨tv,tv,tv,tv,tv⟩,tv,tv⟩,fun k hk=>Qf hk⟩
   ·replace h:=bF hb9 h
    refine Tr.skip (toN (sr ((Rn.load (v:=(l_ put1)) tv rfl (Qj rfl) rfl rfl (md rfl ?_)))))
    obtain ⟨x11,h10,h⟩:=bnd h
    refine Rn.call (args:=[(l_ put1),(l_ take2)]) tv rfl (H_alphabet_Union _ _ _ h10) pc9 (Rn.k (v:=.clo 34 [.ptr (Γ.n0 + 3) 0,.ptr (Γ.n0 + 5) 0]) tv rfl rfl rfl ?_)
    obtain ⟨x20,h19,h⟩:=bnd h
    refine Rn.callM (args:=[(l_ x11),.clo 30 [],.clo 34 [.ptr (Γ.n0 + 3) 0,.ptr (Γ.n0 + 5) 0]]) tv rfl (fun M2 nb2 hn hx=>H_requirement_explore _ _ _ 30 [] 34 [.ptr (Γ.n0 + 3) 0,.ptr (Γ.n0 + 5) 0] _ h19 M2 nb2 rfl tv (fun a12 r13 h14 M3 nb3 hn3 hx3=>H_requirement_first a12 r13 h14 M3 nb3 ) rfl ⟨Q33 (hx _ _ (Qj rfl)),Q33 (hx _ _ (Qj rfl)),tv⟩ (fun a15 a16 r17 h18 M3 nb3 hn3 hx3=>H_requirement_Buffer_1 a15 a16 put1 capacity3 (Γ.n0 + 3) (Γ.n0 + 5) r17 h18 M3 nb3 ((hx.trans hx3) _ _ (Qj rfl)) ((hx.trans hx3) _ _ (Qj rfl)))) rfl pc9 ?_
    refine Rn.storeT (v:=(Qb x20)) (ds:=(Qe x20)) (cs':=(Qe x20)) tv rfl rfl rfl rfl rfl rfl rfl (md rfl (nt ((Tr.ret ?_))))
    replace h:=si h; subst h
    exact ⟨.inr rfl,.tup [(Qb x20),(i_ 0)],res2 (Qel rfl rfl rfl rfl) rfl,(WkV.tup (.cons (.same rfl) (.cons (.same rfl) .nil))).rd,⟨⟨tv,tv,tv,tv,tv⟩,tv,tv⟩,fun k hk=>Qf hk⟩
theorem Q0l {P : Program} {c : Nat} (hcf : Qm P c = some Qj2) : Qoe P c (Qj3):=by
 intro x1 r h
 refine Qb1 hcf rfl fun Γ M hP hnt hM=>?_
 subst hP
 refine Tr.init [(0,.d (.int .u32 x1))] rfl ?_
 unfold Qj3 at h
 unfold Qj2
 refine sr ((md rfl (nt ((Tr.seq ?_)))))
 cases h
theorem Q0m {P : Program} {c : Nat} (hcf : Qm P c = some Qj5) : Qj4 P c (Qcv):=by
 intro x1 r h
 refine Qb1 hcf rfl fun Γ M hP hnt hM=>?_
 subst hP
 refine Tr.init [(0,.d (.int .u64 x1))] rfl ?_
 unfold Qcv at h
 unfold Qj5
 refine sr ((md rfl (nt ((sr ((md rfl (Rn.bin tv rfl rfl rfl (Rn.bin tv rfl rfl rfl (md rfl (Rn.bin tv rfl rfl rfl (Rn.bin tv rfl rfl rfl (md rfl (nt ((sr ((md rfl (Rn.bin tv rfl rfl rfl (Rn.bin tv rfl rfl rfl (md rfl (Rn.bin tv rfl rfl rfl (Rn.bin tv rfl rfl rfl (md rfl (nt ((sr ((md rfl (Rn.bin tv rfl rfl rfl (md rfl (Rn.bin tv rfl rfl rfl (Rn.bin tv rfl rfl rfl (md rfl (nt ((sr ((md rfl ?_)))))))))))))))))))))))))))))))))))))))
 refine md rfl (Rn.bin tv rfl rfl rfl (Rn.bin tv rfl rfl rfl (md rfl (nt ((sr ((md rfl (md rfl (Rn.bin tv rfl rfl rfl (Rn.bin tv rfl rfl rfl (md rfl (nt ((sr ((md rfl (md rfl (Rn.bin tv rfl rfl rfl (Rn.bin tv rfl rfl rfl (md rfl (nt ((sr ((md rfl (Rn.conv tv rfl (Rn.bin tv rfl rfl rfl (md rfl (nt ((Tr.ret ?_))))))))))))))))))))))))))))))))
 replace h:=si h; subst h
 exact ⟨.inr rfl,(i_ (andI .i64 (IntKind.wrap .i64 (IntKind.wrap .u64 ((IntKind.wrap .u64 ((IntKind.wrap .u64 ((andI .u64 (IntKind.wrap .u64 ((Int.fdiv (IntKind.wrap .u64 ((andI .u64 (Int.fdiv (IntKind.wrap .u64 ((andI .u64 (Int.fdiv x1 (2 ^ (min (Int.toNat 1) (IntKind.bits .u64)))) 6148914691236517205) + (andI .u64 x1 6148914691236517205))) (2 ^ (min (Int.toNat 2) (IntKind.bits .u64)))) 3689348814741910323) + (andI .u64 (IntKind.wrap .u64 ((andI .u64 (Int.fdiv x1 (2 ^ (min (Int.toNat 1) (IntKind.bits .u64)))) 6148914691236517205) + (andI .u64 x1 6148914691236517205))) 3689348814741910323))) (2 ^ (min (Int.toNat 4) (IntKind.bits .u64)))) + (IntKind.wrap .u64 ((andI .u64 (Int.fdiv (IntKind.wrap .u64 ((andI .u64 (Int.fdiv x1 (2 ^ (min (Int.toNat 1) (IntKind.bits .u64)))) 6148914691236517205) + (andI .u64 x1 6148914691236517205))) (2 ^ (min (Int.toNat 2) (IntKind.bits .u64)))) 3689348814741910323) + (andI .u64 (IntKind.wrap .u64 ((andI .u64 (Int.fdiv x1 (2 ^ (min (Int.toNat 1) (IntKind.bits .u64)))) 6148914691236517205) + (andI .u64 x1 6148914691236517205))) 3689348814741910323))))) 1085102592571150095) + (Int.fdiv (andI .u64 (IntKind.wrap .u64 ((Int.fdiv (IntKind.wrap .u64 ((andI .u64 (Int.fdiv (IntKind.wrap .u64 ((andI .u64 (Int.fdiv x1 (2 ^ (min (Int.toNat 1) (IntKind.bits .u64)))) 6148914691236517205) + (andI .u64 x1 6148914691236517205))) (2 ^ (min (Int.toNat 2) (IntKind.bits .u64)))) 3689348814741910323) + (andI .u64 (IntKind.wrap .u64 ((andI .u64 (Int.fdiv x1 (2 ^ (min (Int.toNat 1) (IntKind.bits .u64)))) 6148914691236517205) + (andI .u64 x1 6148914691236517205))) 3689348814741910323))) (2 ^ (min (Int.toNat 4) (IntKind.bits .u64)))) + (IntKind.wrap .u64 ((andI .u64 (Int.fdiv (IntKind.wrap .u64 ((andI .u64 (Int.fdiv x1 (2 ^ (min (Int.toNat 1) (IntKind.bits .u64)))) 6148914691236517205) + (andI .u64 x1 6148914691236517205))) (2 ^ (min (Int.toNat 2) (IntKind.bits .u64)))) 3689348814741910323) + (andI .u64 (IntKind.wrap .u64 ((andI .u64 (Int.fdiv x1 (2 ^ (min (Int.toNat 1) (IntKind.bits .u64)))) 6148914691236517205) + (andI .u64 x1 6148914691236517205))) 3689348814741910323))))) 1085102592571150095) (2 ^ (min (Int.toNat 8) (IntKind.bits .u64)))))) + (Int.fdiv (IntKind.wrap .u64 ((andI .u64 (IntKind.wrap .u64 ((Int.fdiv (IntKind.wrap .u64 ((andI .u64 (Int.fdiv (IntKind.wrap .u64 ((andI .u64 (Int.fdiv x1 (2 ^ (min (Int.toNat 1) (IntKind.bits .u64)))) 6148914691236517205) + (andI .u64 x1 6148914691236517205))) (2 ^ (min (Int.toNat 2) (IntKind.bits .u64)))) 3689348814741910323) + (andI .u64 (IntKind.wrap .u64 ((andI .u64 (Int.fdiv x1 (2 ^ (min (Int.toNat 1) (IntKind.bits .u64)))) 6148914691236517205) + (andI .u64 x1 6148914691236517205))) 3689348814741910323))) (2 ^ (min (Int.toNat 4) (IntKind.bits .u64)))) + (IntKind.wrap .u64 ((andI .u64 (Int.fdiv (IntKind.wrap .u64 ((andI .u64 (Int.fdiv x1 (2 ^ (min (Int.toNat 1) (IntKind.bits .u64)))) 6148914691236517205) + (andI .u64 x1 6148914691236517205))) (2 ^ (min (Int.toNat 2) (IntKind.bits .u64)))) 3689348814741910323) + (andI .u64 (IntKind.wrap .u64 ((andI .u64 (Int.fdiv x1 (2 ^ (min (Int.toNat 1) (IntKind.bits .u64)))) 6148914691236517205) + (andI .u64 x1 6148914691236517205))) 3689348814741910323))))) 1085102592571150095) + (Int.fdiv (andI .u64 (IntKind.wrap .u64 ((Int.fdiv (IntKind.wrap .u64 ((andI .u64 (Int.fdiv (IntKind.wrap .u64 ((andI .u64 (Int.fdiv x1 (2 ^ (min (Int.toNat 1) (IntKind.bits .u64)))) 6148914691236517205) + (andI .u64 x1 6148914691236517205))) (2 ^ (min (Int.toNat 2) (IntKind.bits .u64)))) 3689348814741910323) + (andI .u64 (IntKind.wrap .u64 ((andI .u64 (Int.fdiv x1 (2 ^ (min (Int.toNat 1) (IntKind.bits .u64)))) 6148914691236517205) + (andI .u64 x1 6148914691236517205))) 3689348814741910323))) (2 ^ (min (Int.toNat 4) (IntKind.bits .u64)))) + (IntKind.wrap .u64 ((andI .u64 (Int.fdiv (IntKind.wrap .u64 ((andI .u64 (Int.fdiv x1 (2 ^ (min (Int.toNat 1) (IntKind.bits .u64)))) 6148914691236517205) + (andI .u64 x1 6148914691236517205))) (2 ^ (min (Int.toNat 2) (IntKind.bits .u64)))) 3689348814741910323) + (andI .u64 (IntKind.wrap .u64 ((andI .u64 (Int.fdiv x1 (2 ^ (min (Int.toNat 1) (IntKind.bits .u64)))) 6148914691236517205) + (andI .u64 x1 6148914691236517205))) 3689348814741910323))))) 1085102592571150095) (2 ^ (min (Int.toNat 8) (IntKind.bits .u64)))))) (2 ^ (min (Int.toNat 16) (IntKind.bits .u64)))))) + (Int.fdiv (IntKind.wrap .u64 ((IntKind.wrap .u64 ((andI .u64 (IntKind.wrap .u64 ((Int.fdiv (IntKind.wrap .u64 ((andI .u64 (Int.fdiv (IntKind.wrap .u64 ((andI .u64 (Int.fdiv x1 (2 ^ (min (Int.toNat 1) (IntKind.bits .u64)))) 6148914691236517205) + (andI .u64 x1 6148914691236517205))) (2 ^ (min (Int.toNat 2) (IntKind.bits .u64)))) 3689348814741910323) + (andI .u64 (IntKind.wrap .u64 ((andI .u64 (Int.fdiv x1 (2 ^ (min (Int.toNat 1) (IntKind.bits .u64)))) 6148914691236517205) + (andI .u64 x1 6148914691236517205))) 3689348814741910323))) (2 ^ (min (Int.toNat 4) (IntKind.bits .u64)))) + (IntKind.wrap .u64 ((andI .u64 (Int.fdiv (IntKind.wrap .u64 ((andI .u64 (Int.fdiv x1 (2 ^ (min (Int.toNat 1) (IntKind.bits .u64)))) 6148914691236517205) + (andI .u64 x1 6148914691236517205))) (2 ^ (min (Int.toNat 2) (IntKind.bits .u64)))) 3689348814741910323) + (andI .u64 (IntKind.wrap .u64 ((andI .u64 (Int.fdiv x1 (2 ^ (min (Int.toNat 1) (IntKind.bits .u64)))) 6148914691236517205) + (andI .u64 x1 6148914691236517205))) 3689348814741910323))))) 1085102592571150095) + (Int.fdiv (andI .u64 (IntKind.wrap .u64 ((Int.fdiv (IntKind.wrap .u64 ((andI .u64 (Int.fdiv (IntKind.wrap .u64 ((andI .u64 (Int.fdiv x1 (2 ^ (min (Int.toNat 1) (IntKind.bits .u64)))) 6148914691236517205) + (andI .u64 x1 6148914691236517205))) (2 ^ (min (Int.toNat 2) (IntKind.bits .u64)))) 3689348814741910323) + (andI .u64 (IntKind.wrap .u64 ((andI .u64 (Int.fdiv x1 (2 ^ (min (Int.toNat 1) (IntKind.bits .u64)))) 6148914691236517205) + (andI .u64 x1 6148914691236517205))) 3689348814741910323))) (2 ^ (min (Int.toNat 4) (IntKind.bits .u64)))) + (IntKind.wrap .u64 ((andI .u64 (Int.fdiv (IntKind.wrap .u64 ((andI .u64 (Int.fdiv x1 (2 ^ (min (Int.toNat 1) (IntKind.bits .u64)))) 6148914691236517205) + (andI .u64 x1 6148914691236517205))) (2 ^ (min (Int.toNat 2) (IntKind.bits .u64)))) 3689348814741910323) + (andI .u64 (IntKind.wrap .u64 ((andI .u64 (Int.fdiv x1 (2 ^ (min (Int.toNat 1) (IntKind.bits .u64)))) 6148914691236517205) + (andI .u64 x1 6148914691236517205))) 3689348814741910323))))) 1085102592571150095) (2 ^ (min (Int.toNat 8) (IntKind.bits .u64)))))) + (Int.fdiv (IntKind.wrap .u64 ((andI .u64 (IntKind.wrap .u64 ((Int.fdiv (IntKind.wrap .u64 ((andI .u64 (Int.fdiv (IntKind.wrap .u64 ((andI .u64 (Int.fdiv x1 (2 ^ (min (Int.toNat 1) (IntKind.bits .u64)))) 6148914691236517205) + (andI .u64 x1 6148914691236517205))) (2 ^ (min (Int.toNat 2) (IntKind.bits .u64)))) 3689348814741910323) + (andI .u64 (IntKind.wrap .u64 ((andI .u64 (Int.fdiv x1 (2 ^ (min (Int.toNat 1) (IntKind.bits .u64)))) 6148914691236517205) + (andI .u64 x1 6148914691236517205))) 3689348814741910323))) (2 ^ (min (Int.toNat 4) (IntKind.bits .u64)))) + (IntKind.wrap .u64 ((andI .u64 (Int.fdiv (IntKind.wrap .u64 ((andI .u64 (Int.fdiv x1 (2 ^ (min (Int.toNat 1) (IntKind.bits .u64)))) 6148914691236517205) + (andI .u64 x1 6148914691236517205))) (2 ^ (min (Int.toNat 2) (IntKind.bits .u64)))) 3689348814741910323) + (andI .u64 (IntKind.wrap .u64 ((andI .u64 (Int.fdiv x1 (2 ^ (min (Int.toNat 1) (IntKind.bits .u64)))) 6148914691236517205) + (andI .u64 x1 6148914691236517205))) 3689348814741910323))))) 1085102592571150095) + (Int.fdiv (andI .u64 (IntKind.wrap .u64 ((Int.fdiv (IntKind.wrap .u64 ((andI .u64 (Int.fdiv (IntKind.wrap .u64 ((andI .u64 (Int.fdiv x1 (2 ^ (min (Int.toNat 1) (IntKind.bits .u64)))) 6148914691236517205) + (andI .u64 x1 6148914691236517205))) (2 ^ (min (Int.toNat 2) (IntKind.bits .u64)))) 3689348814741910323) + (andI .u64 (IntKind.wrap .u64 ((andI .u64 (Int.fdiv x1 (2 ^ (min (Int.toNat 1) (IntKind.bits .u64)))) 6148914691236517205) + (andI .u64 x1 6148914691236517205))) 3689348814741910323))) (2 ^ (min (Int.toNat 4) (IntKind.bits .u64)))) + (IntKind.wrap .u64 ((andI .u64 (Int.fdiv (IntKind.wrap .u64 ((andI .u64 (Int.fdiv x1 (2 ^ (min (Int.toNat 1) (IntKind.bits .u64)))) 6148914691236517205) + (andI .u64 x1 6148914691236517205))) (2 ^ (min (Int.toNat 2) (IntKind.bits .u64)))) 3689348814741910323) + (andI .u64 (IntKind.wrap .u64 ((andI .u64 (Int.fdiv x1 (2 ^ (min (Int.toNat 1) (IntKind.bits .u64)))) 6148914691236517205) + (andI .u64 x1 6148914691236517205))) 3689348814741910323))))) 1085102592571150095) (2 ^ (min (Int.toNat 8) (IntKind.bits .u64)))))) (2 ^ (min (Int.toNat 16) (IntKind.bits .u64)))))) (2 ^ (min (Int.toNat 32) (IntKind.bits .u64))))))) 127)),rfl,fun _ _ _ _ h=>h,tv,fun k hk=>Qf hk⟩
theorem Q4w {P : Program} {c : Nat} {Qcv : Int → Option Int}
    (H_bits_OnesCount64 : Qj4 P 58 Qcv) (hcf : Qm P c = some Qlu) : Qlt P c (Qdj Qcv):=by
 intro x1 r h
 refine Qb1 hcf rfl fun Γ M hP hnt hM=>?_
 subst hP
 refine Tr.init [(0,.d (.int .u64 x1))] rfl ?_
 unfold Qdj at h
 unfold Qlu
 refine sr ((md rfl (nt ((Tr.seq (Tr.condF rfl rfl (Tr.skip (toN (sr ((md rfl ?_)))))))))))
 obtain ⟨x3,h2,h⟩:=bnd h
 refine Rn.call (args:=[.d (.int .u64 x1)]) tv rfl (H_bits_OnesCount64 _ _ h2) pc9 (md rfl (nt ((Tr.ret ?_))))
 replace h:=si h; subst h
 exact ⟨.inr rfl,(i_ x3),rfl,fun _ _ _ _ h=>h,tv,fun k hk=>Qf hk⟩
theorem Qpd {P : Program} {c : Nat} {Q7 : (List Int) → Int → Option Int} {Qdj : Int → Option Int}
    (H_slices_Index_int : Qgn P 26 Q7)
    (H_bits_OnesCount : Qlt P 38 Qdj) (hcf : Qm P c = some Qgb) : Qga P c (Qbw Q7 Qdj):=by
 intro state1 event2 x3 x6 k4 k7 r h
 intro M nb hk5 hk8
 refine Q8e hcf rfl M nb fun Γ hP hnt hn0 hM=>?_
 subst hP hn0
 refine Tr.init [(0,(i_ state1)),(1,(i_ event2)),(2,.ptr k4 0),(3,.ptr k7 0)] rfl ?_
 unfold Qbw at h
 unfold Qgb
 refine sr ((md rfl (md rfl (nt ((sr ((Rn.load (v:=(l_ x3)) tv rfl (Qyo hM hk5) rfl rfl (md rfl ?_)))))))))
 obtain ⟨x10,h9,h⟩:=bnd h
 refine Rn.call (args:=[(l_ x3),(i_ event2)]) tv rfl (H_slices_Index_int _ _ _ h9) pc9 (md rfl (nt ((sr ((md rfl (Rn.bin tv rfl rfl rfl ?_)))))))
 obtain ⟨s11,h12,h⟩:=bnd h
 refine Rn.bin tv rfl rfl (Qbl3 h12) (md rfl (nt ((Tr.seq (sr ((md rfl (Rn.bin tv rfl rfl rfl (Rn.bin tv rfl rfl rfl (Rn.nil (toN ?_)))))))))))
 refine Tr.cond rfl (fun hb13=>?_) (fun hb13=>?_)
 ·replace h:=bT hb13 h
  refine Tr.seq ?_
  refine Tr.rgnD (by decide) ?_
  refine md rfl (md rfl (Rn.bin tv rfl rfl rfl (md rfl (md rfl (Rn.bin tv rfl rfl rfl (Rn.bin tv rfl rfl rfl (md rfl ?_)))))))
  refine Qck ((andI .i64 state1 s11) == 0) (fun hb14=>?_) (fun hb14=>?_)
  ·replace h:=bT hb14 h
   refine Rn.movD (gw rfl hb14) rfl (Rn.conv (gw rfl hb14) rfl ?_)
   obtain ⟨x16,h15,h⟩:=bnd h
   refine Rn.call (args:=[.d (.int .u64 (IntKind.wrap .u64 state1))]) (gw rfl hb14) rfl (H_bits_OnesCount _ _ h15) (fun _=>Qbbi hM rfl) (Rn.load (v:=(i_ x6)) (gw rfl hb14) rfl (Qyo hM hk8) rfl rfl (Rn.bin (gw rfl hb14) rfl rfl rfl (Rn.pickT (v:=(b_ (decide (x16 < x6)))) tv rfl hb14 rfl (md rfl (md rfl ?_)))))
   refine Rn.nil ⟨rfl,?_⟩
   refine toN (Tr.ret ?_)
   replace h:=si h; subst h
   exact ⟨.inr rfl,.tup [(i_ (orI .i64 state1 s11)),(b_ (decide (x16 < x6)))],res2 rfl rfl,(WkV.tup (.cons (.same rfl) (.cons (.same rfl) .nil))).rd,⟨tv,tv,tv⟩,fun k hk=>Qf hk⟩
  ·replace h:=bF hb14 h
   refine Rn.sk (nw rfl hb14) (Rn.sk (nw rfl hb14) (Rn.sk (nw rfl hb14) (Rn.sk (nw rfl hb14) (Rn.sk (nw rfl hb14) (Rn.pickF (v:=(b_ false)) tv rfl hb14 rfl (md rfl (md rfl ?_)))))))
   refine Rn.nil ⟨rfl,?_⟩
   refine toN (Tr.ret ?_)
   replace h:=si h; subst h
   exact ⟨.inr rfl,.tup [(i_ (orI .i64 state1 s11)),(b_ false)],res2 rfl rfl,(WkV.tup (.cons (.same rfl) (.cons (.same rfl) .nil))).rd,⟨tv,tv,tv⟩,fun k hk=>Qf hk⟩
 ·replace h:=bF hb13 h
  refine Tr.skip (toN (sr ((md rfl (md rfl (Rn.bin tv rfl rfl rfl (md rfl (md rfl (Rn.bin tv rfl rfl rfl (Rn.bin tv rfl rfl rfl (md rfl (md rfl (nt ((Tr.ret ?_)))))))))))))))
  replace h:=si h; subst h
  exact ⟨.inr rfl,.tup [(i_ (Qbip .i64 state1 s11)),(b_ ((andI .i64 state1 s11) != 0))],res2 rfl rfl,(WkV.tup (.cons (.same rfl) (.cons (.same rfl) .nil))).rd,⟨tv,tv,tv⟩,fun k hk=>Qf hk⟩
theorem Q28 {P : Program} {c : Nat} (hcf : Qm P c = some Qku) : Qkt P c (Qc7):=by
 intro x1 r h
 refine Qb1 hcf rfl fun Γ M hP hnt hM=>?_
 subst hP
 refine Tr.init [(0,(i_ x1))] rfl ?_
 unfold Qc7 at h
 unfold Qku
 refine sr ((md rfl (nt ((sr ((md rfl (nt ((Tr.ret ?_))))))))))
 replace h:=si h; subst h
 exact ⟨.inr rfl,(b_ true),rfl,fun _ _ _ _ h=>h,tv,fun k hk=>Qf hk⟩
theorem Qu5 {P : Program} {c : Nat} {Qx : (List Int) → Option Int} {Qo : (List Int) → (Int → Option Bool) → (Int → Int → Option (Int × Bool)) → Option Qa} {Q5 : (List Int) → Option ((List Int))} {Qc7 : Int → Option Bool} {Qbw : Int → Int → (List Int) → Int → Option (Int × Bool)}
    (H_requirement_distinct : Qeg P 27 Qx)
    (H_requirement_explore : Qdt P 28 Qo)
    (H_requirement_sorted : Qe7 P 29 Q5)
    (H_requirement_all : Qkt P 36 Qc7)
    (H_requirement_AtMost_1 : Qga P 37 Qbw) (hcf : Qm P c = some Qhv) (fuel : Nat) : Qhu P c (Qcd Qx Qo Q5 Qc7 Qbw fuel):=by
 intro phases1 most2 r h
 refine Qb1 hcf rfl fun Γ M hP hnt hM=>?_
 subst hP
 refine Tr.init [(0,.d (.lst 2 (List.map Qbe phases1))),(1,(i_ most2))] rfl ?_
 unfold Qcd at h
 unfold Qhv
 refine sr ((Rn.box (v:=(i_ most2)) (cs:=[(i_ most2)]) tv rfl rfl rfl rfl rfl (Rn.alloc tv rfl (md rfl (nt ((Tr.seq (sr ((md rfl (Rn.lenD tv rfl (Rn.bin tv rfl rfl rfl (Rn.nil (toN ?_))))))))))))))
 refine Tr.cond rfl (fun hb3=>?_) (fun hb3=>?_)
 ·replace h:=ifT hb3 h
  refine sr ((Rn.build (v:=.agg [.nils 1,(i_ 0),.nils 1,.nils 3]) tv rfl (Rn.storeT (v:=.agg [.nils 1,(i_ 0),.nils 1,.nils 3]) (ds:=[.nils 1,(i_ 0),.nils 1,.nils 3]) (cs':=[.nils 1,(i_ 0),.nils 1,.nils 3]) tv rfl rfl rfl rfl rfl rfl rfl (md rfl (nt ((Tr.ret ?_)))))))
  replace h:=si h; subst h
  exact ⟨.inr rfl,.tup [.agg [.nils 1,(i_ 0),.nils 1,.nils 3],(i_ 3)],res2 (Qel rfl rfl rfl rfl) rfl,(WkV.tup (.cons (WkV.agg (.cons (WkV.nilsD _) (.cons (.same rfl) (.cons (WkV.nilsD _) (.cons (WkV.nilsD _) .nil))))) (.cons (.same rfl) .nil))).rd,⟨⟨tv,tv,tv,tv,tv⟩,tv,tv⟩,fun k hk=>Qf hk⟩
 ·replace h:=ifF hb3 h
  refine Tr.skip (toN (sr ((Rn.alloc tv rfl (Rn.nil (toN ?_))))))
  refine Tr.cutB (fun ((c15,c16,c17,events18) : (List Int) × (List Int) × (List Qd) × (List Int))=>⟨look [(0,.d (.lst 2 (List.map Qbe phases1))),(3,.ptr (Γ.n0 + 3) 0),(4,.ptr (Γ.n0 + 4) 0),(6,.ptr (Γ.n0 + 6) 0)],Qk Γ.n0 (bxs [(3,.cells ([(i_ most2)])),(4,.cells ([(o_ c15),(i_ 0),(o_ c16),.own 3 (List.map Qc c17)])),(6,.cells ([(o_ events18)]))]) M,Γ.n0 + 47⟩) h (fun z h=>?_) (fun z h=>?_)
  ·refine sr ((md rfl (Rn.lenD tv rfl (md rfl (nt ((Tr.block ?_)))))))
   refine Tr.loop (mk:=fun ((x4,c5,c6,c7,events8) : Int × (List Int) × (List Int) × (List Qd) × (List Int))=>⟨look [(0,.d (.lst 2 (List.map Qbe phases1))),(3,.ptr (Γ.n0 + 3) 0),(4,.ptr (Γ.n0 + 4) 0),(6,.ptr (Γ.n0 + 6) 0),(14,.d (.lst 2 (List.map Qbe phases1))),(15,(i_ (phases1.length : Int))),(16,(i_ x4))],Qk Γ.n0 (bxs [(3,.cells ([(i_ most2)])),(4,.cells ([(o_ c5),(i_ 0),(o_ c6),.own 3 (List.map Qc c7)])),(6,.cells ([(o_ events8)]))]) M,Γ.n0 + 47⟩) h (by exact Qi ⟨(sm rfl),(kPtr rfl),(kPtr rfl),(kPtr rfl),(sm rfl),(sm rfl),(sm rfl),tv⟩ ⟨⟨_,rfl,rfl,(.same rfl)⟩,⟨_,rfl,rfl,(.cons (WkV.nilsO _) (.cons (sm rfl) (.cons (WkV.nilsO _) (.cons (WkV.nilsO _) .nil))))⟩,⟨_,rfl,rfl,(.cons (WkV.nilsO _) .nil)⟩,tv⟩ rfl) (fun k9 z h=>?_)
   ·obtain ⟨x4,c5,c6,c7,events8⟩:=z
    replace h : _ = some _:=h
    refine sr ((Rn.bin tv rfl rfl rfl (nt ((Tr.seq ?_)))))
    refine Tr.cond rfl (fun hb10=>?_) (fun hb10=>?_)
    ·replace h:=ifT hb10 h
     refine Tr.skip (toN (Tr.seq (Tr.block (Tr.seq (Tr.rgn ?_)))))
     obtain ⟨x11,h12,h⟩:=bnd h
     refine Rn.idxD (e:=Qbe) tv rfl rfl h12 (Rn.loadCA (vs:=(Qea x11)) tv rfl rfl rfl (Rn.alloc tv rfl (Rn.store (v:=(Q38 x11)) (cs':=(Qea x11)) tv rfl rfl rfl rfl rfl rfl (nt ((Tr.rgn (Rn.loadT (cs':=[(l_ events8)]) tv rfl rfl rfl rfl (Rn.fldP (o':=0) tv rfl rfl (Rn.load (v:=(i_ x11.Enter)) tv rfl (Qj rfl) rfl rfl (Rn.fldP (o':=1) tv rfl rfl (Rn.load (v:=(i_ x11.Leave)) tv rfl (Qj rfl) rfl rfl (Rn.bslice (xs:=(Qea x11)) (cs:=(Qea x11)) tv rfl rfl rfl rfl ?_))))))))))))
     obtain ⟨x13,h14,h⟩:=bnd h
     refine Rn.app (e:=(eI .i64)) tv rfl rfl rfl (Qdb rfl rfl rfl) h14 rfl (Rn.storeO (cs':=[(o_ x13)]) tv rfl rfl rfl rfl rfl (nt ((Tr.rgn (Rn.bin tv rfl rfl rfl (md rfl (Rn.nil ?_)))))))
     exact ⟨_,h,(by exact Qi ⟨(sm rfl),(kPtr rfl),(kPtr rfl),(kPtr rfl),(sm rfl),(sm rfl),(sm rfl),tv⟩ ⟨⟨_,rfl,rfl,(.same rfl)⟩,⟨_,rfl,rfl,(.same rfl)⟩,⟨_,rfl,rfl,(.same rfl)⟩,tv⟩ rfl)⟩
    ·replace h:=ifF hb10 h
     refine Tr.exit ?_
     replace h:=si h; subst h
     exact Qg [] ⟨(sm rfl),(kPtr rfl),(kPtr rfl),(kPtr rfl),tv⟩ ⟨⟨_,rfl,rfl,(.same rfl)⟩,⟨_,rfl,rfl,(.same rfl)⟩,⟨_,rfl,rfl,(.same rfl)⟩,tv⟩ rfl
  ·obtain ⟨c15,c16,c17,events18⟩:=z
   refine Tr.seq (sr ((Rn.load (v:=(l_ events18)) tv rfl (Qj rfl) rfl rfl ?_)))
   obtain ⟨x20,h19,h⟩:=bnd h
   refine Rn.call (args:=[(l_ events18)]) tv rfl (H_requirement_distinct _ _ h19) pc9 (md rfl (nt ((sr ((md rfl (Rn.bin tv rfl rfl rfl (Rn.nil (toN ?_)))))))))
   refine Tr.cond rfl (fun hb21=>?_) (fun hb21=>?_)
   ·replace h:=bT hb21 h
    refine sr ((Rn.build (v:=.agg [.nils 1,(i_ 0),.nils 1,.nils 3]) tv rfl (md rfl (Rn.storeT (v:=.agg [.nils 1,(i_ 0),.nils 1,.nils 3]) (ds:=[.nils 1,(i_ 0),.nils 1,.nils 3]) (cs':=[.nils 1,(i_ 0),.nils 1,.nils 3]) tv rfl rfl rfl rfl rfl rfl rfl (md rfl (nt ((Tr.ret ?_))))))))
    replace h:=si h; subst h
    exact ⟨.inr rfl,.tup [.agg [.nils 1,(i_ 0),.nils 1,.nils 3],(i_ x20)],res2 (Qel rfl rfl rfl rfl) rfl,(WkV.tup (.cons (WkV.agg (.cons (WkV.nilsD _) (.cons (.same rfl) (.cons (WkV.nilsD _) (.cons (WkV.nilsD _) .nil))))) (.cons (.same rfl) .nil))).rd,⟨⟨tv,tv,tv,tv,tv⟩,tv,tv⟩,fun k hk=>Qf hk⟩
   ·replace h:=bF hb21 h
    refine Tr.skip (toN (Tr.seq ?_))
    refine Tr.cutB (fun (x23 : Bool)=>⟨look [(3,.ptr (Γ.n0 + 3) 0),(4,.ptr (Γ.n0 + 4) 0),(6,.ptr (Γ.n0 + 6) 0),(41,(b_ x23))],Qk Γ.n0 (bxs [(3,.cells ([(i_ most2)])),(4,.cells ([(o_ c15),(i_ 0),(o_ c16),.own 3 (List.map Qc c17)])),(6,.cells ([(o_ events18)]))]) M,Γ.n0 + 47⟩) h (fun z h=>?_) (fun z h=>?_)
    ·refine Tr.rgn (Rn.load (v:=(i_ most2)) tv rfl (Qj rfl) rfl rfl (Rn.bin tv rfl rfl rfl (md rfl ?_)))
     refine Qck (decide (most2 < 0)) (fun hb22=>?_) (fun hb22=>?_)
     ·replace h:=ifT hb22 h
      refine Rn.sk (nw rfl hb22) (Rn.sk (nw rfl hb22) (Rn.sk (nw rfl hb22) (Rn.sk (nw rfl hb22) (Rn.pickT (v:=(b_ true)) tv rfl hb22 rfl (Rn.nil ?_)))))
      replace h:=si h; subst h
      exact Qg [] ⟨(kPtr rfl),(kPtr rfl),(kPtr rfl),(sm rfl),tv⟩ ⟨⟨_,rfl,rfl,(.same rfl)⟩,⟨_,rfl,rfl,(.same rfl)⟩,⟨_,rfl,rfl,(.same rfl)⟩,tv⟩ rfl
     ·replace h:=ifF hb22 h
      refine Rn.load (v:=(i_ most2)) (gw rfl hb22) rfl (Qj rfl) rfl rfl (Rn.movD (gw rfl hb22) rfl (Rn.lenD (gw rfl hb22) rfl (Rn.bin (gw rfl hb22) rfl rfl rfl (Rn.pickF (v:=(b_ (decide (most2 > (phases1.length : Int))))) tv rfl hb22 rfl (Rn.nil ?_)))))
      replace h:=si h; subst h
      exact Qg [] ⟨(kPtr rfl),(kPtr rfl),(kPtr rfl),(sm rfl),tv⟩ ⟨⟨_,rfl,rfl,(.same rfl)⟩,⟨_,rfl,rfl,(.same rfl)⟩,⟨_,rfl,rfl,(.same rfl)⟩,tv⟩ rfl
    ·obtain ⟨x23,rfl⟩ : ∃ x,x = z:=⟨_,rfl⟩
     refine Tr.cond rfl (fun hb24=>?_) (fun hb24=>?_)
     ·replace h:=bT hb24 h
      refine sr ((Rn.build (v:=.agg [.nils 1,(i_ 0),.nils 1,.nils 3]) tv rfl (Rn.storeT (v:=.agg [.nils 1,(i_ 0),.nils 1,.nils 3]) (ds:=[.nils 1,(i_ 0),.nils 1,.nils 3]) (cs':=[.nils 1,(i_ 0),.nils 1,.nils 3]) tv rfl rfl rfl rfl rfl rfl rfl (md rfl (nt ((Tr.ret ?_)))))))
      replace h:=si h; subst h
      exact ⟨.inr rfl,.tup [.agg [.nils 1,(i_ 0),.nils 1,.nils 3],(i_ 2)],res2 (Qel rfl rfl rfl rfl) rfl,(WkV.tup (.cons (WkV.agg (.cons (WkV.nilsD _) (.cons (.same rfl) (.cons (WkV.nilsD _) (.cons (WkV.nilsD _) .nil))))) (.cons (.same rfl) .nil))).rd,⟨⟨tv,tv,tv,tv,tv⟩,tv,tv⟩,fun k hk=>Qf hk⟩
     ·replace h:=bF hb24 h
      refine Tr.skip (toN (sr ((Rn.load (v:=(l_ events18)) tv rfl (Qj rfl) rfl rfl ?_))))
      obtain ⟨x26,h25,h⟩:=bnd h
      refine Rn.call (args:=[(l_ events18)]) tv rfl (H_requirement_sorted _ _ h25) pc9 (Rn.k (v:=.clo 37 [.ptr (Γ.n0 + 6) 0,.ptr (Γ.n0 + 3) 0]) tv rfl rfl rfl ?_)
      refine Rn.weak (by show WeakSt Γ _ ⟨look [(3,.ptr (Γ.n0 + 3) 0),(4,.ptr (Γ.n0 + 4) 0),(6,.ptr (Γ.n0 + 6) 0),(41,(b_ x23)),(43,(l_ events18)),(44,(l_ x26)),(45,.clo 37 [.ptr (Γ.n0 + 6) 0,.ptr (Γ.n0 + 3) 0])],Qk Γ.n0 (bxs [(3,.cells ([(i_ most2)])),(4,.cells ([(o_ c15),(i_ 0),(o_ c16),.own 3 (List.map Qc c17)])),(6,.cells ([(l_ events18)]))]) M,Γ.n0 + 47⟩; exact Qg [] ⟨(kPtr rfl),(kPtr rfl),(kPtr rfl),(sm rfl),(sm rfl),(sm rfl),(kClo (Qbm4 rfl (Qbm4 rfl Qbni))),tv⟩ ⟨⟨_,rfl,rfl,(.same rfl)⟩,⟨_,rfl,rfl,(.same rfl)⟩,⟨_,rfl,rfl,(.cons (WkV.dem' rfl) .nil)⟩,tv⟩ rfl) ?_
      obtain ⟨x35,h34,h⟩:=bnd h
      refine Rn.callM (args:=[(l_ x26),.clo 36 [],.clo 37 [.ptr (Γ.n0 + 6) 0,.ptr (Γ.n0 + 3) 0]]) tv rfl (fun M2 nb2 hn hx=>H_requirement_explore _ _ _ 36 [] 37 [.ptr (Γ.n0 + 6) 0,.ptr (Γ.n0 + 3) 0] _ h34 M2 nb2 rfl tv (fun a27 r28 h29 M3 nb3 hn3 hx3=>H_requirement_all a27 r28 h29 M3 nb3 ) rfl ⟨Q33 (hx _ _ (Qj rfl)),Q33 (hx _ _ (Qj rfl)),tv⟩ (fun a30 a31 r32 h33 M3 nb3 hn3 hx3=>H_requirement_AtMost_1 a30 a31 events18 most2 (Γ.n0 + 6) (Γ.n0 + 3) r32 h33 M3 nb3 ((hx.trans hx3) _ _ (Qj rfl)) ((hx.trans hx3) _ _ (Qj rfl)))) rfl pc9 ?_
      refine Rn.storeT (v:=(Qb x35)) (ds:=(Qe x35)) (cs':=(Qe x35)) tv rfl rfl rfl rfl rfl rfl rfl (md rfl (nt ((Tr.ret ?_))))
      replace h:=si h; subst h
      exact ⟨.inr rfl,.tup [(Qb x35),(i_ 0)],res2 (Qel rfl rfl rfl rfl) rfl,(WkV.tup (.cons (.same rfl) (.cons (.same rfl) .nil))).rd,⟨⟨tv,tv,tv,tv,tv⟩,tv,tv⟩,fun k hk=>Qf hk⟩
theorem Qu6 {P : Program} {c : Nat} (hcf : Qm P c = some Qhx) (fuel : Nat) : Qhw P c (Qbh fuel):=by
 intro l1 n2 r h
 refine Qb1 hcf rfl fun Γ M hP hnt hM=>?_
 subst hP
 refine Tr.init [(0,(l_ l1)),(1,(i_ n2))] rfl ?_
 unfold Qbh at h
 unfold Qhx
 refine sr ((md rfl (nt ((Tr.seq (sr ((md rfl (Rn.lenD tv rfl (md rfl (nt ((Tr.block ?_)))))))))))))
 refine Tr.loop (mk:=fun (x3 : Int)=>⟨look [(0,(l_ l1)),(1,(i_ n2)),(7,(l_ l1)),(8,(i_ (l1.length : Int))),(9,(i_ x3))],Qk Γ.n0 (bxs []) M,Γ.n0 + 35⟩) h (by exact Qi ⟨(sm rfl),(sm rfl),(sm rfl),(sm rfl),(sm rfl),tv⟩ tv rfl) (fun k4 z h=>?_)
 ·obtain ⟨x3,rfl⟩ : ∃ x,x = z:=⟨_,rfl⟩
  replace h : _ = some _:=h
  refine sr ((Rn.bin tv rfl rfl rfl (nt ((Tr.seq ?_)))))
  refine Tr.cond rfl (fun hb5=>?_) (fun hb5=>?_)
  ·replace h:=ifT hb5 h
   refine Tr.skip (toN (Tr.seq (Tr.block (sr ((md rfl ?_))))))
   obtain ⟨x6,h7,h⟩:=bnd h
   refine Rn.idxD (e:=(eI .i64)) tv rfl rfl h7 (Rn.loadC (x:=.int .i64 x6) tv rfl (md rfl (md rfl (nt ((Tr.block ?_))))))
   refine Tr.cutB (fun (x9 : Bool)=>⟨look [(0,(l_ l1)),(1,(i_ n2)),(5,(i_ x3)),(6,(i_ x6)),(7,(l_ l1)),(8,(i_ (l1.length : Int))),(9,(i_ x3)),(14,(b_ x9))],Qk Γ.n0 (bxs []) M,Γ.n0 + 35⟩) h (fun z h=>?_) (fun z h=>?_)
   ·refine Tr.rgn (md rfl (Rn.bin tv rfl rfl rfl (md rfl ?_)))
    refine Qck (decide (x6 < 0)) (fun hb8=>?_) (fun hb8=>?_)
    ·replace h:=ifT hb8 h
     refine Rn.sk (nw rfl hb8) (Rn.sk (nw rfl hb8) (Rn.sk (nw rfl hb8) (Rn.pickT (v:=(b_ true)) tv rfl hb8 rfl (md rfl (Rn.nil ?_)))))
     replace h:=si h; subst h
     exact Qg [] ⟨(sm rfl),(sm rfl),(sm rfl),(sm rfl),(sm rfl),(sm rfl),(sm rfl),(sm rfl),tv⟩ tv rfl
    ·replace h:=ifF hb8 h
     refine Rn.movD (gw rfl hb8) rfl (Rn.movD (gw rfl hb8) rfl (Rn.bin (gw rfl hb8) rfl rfl rfl (Rn.pickF (v:=(b_ (decide (x6 ≥ n2)))) tv rfl hb8 rfl (md rfl (Rn.nil ?_)))))
     replace h:=si h; subst h
     exact Qg [] ⟨(sm rfl),(sm rfl),(sm rfl),(sm rfl),(sm rfl),(sm rfl),(sm rfl),(sm rfl),tv⟩ tv rfl
   ·obtain ⟨x9,rfl⟩ : ∃ x,x = z:=⟨_,rfl⟩
    refine Tr.cond rfl (fun hb10=>?_) (fun hb10=>?_)
    ·replace h:=bT hb10 h
     refine sr ((md rfl (nt ((Tr.ret ?_)))))
     replace h:=si h; subst h
     exact ⟨.inr rfl,(i_ 2),rfl,fun _ _ _ _ h=>h,tv,fun k hk=>Qf hk⟩
    ·replace h:=bF hb10 h
     refine Tr.cutB (fun (x14 : Bool)=>⟨look [(0,(l_ l1)),(1,(i_ n2)),(7,(l_ l1)),(8,(i_ (l1.length : Int))),(9,(i_ x3)),(22,(b_ x14))],Qk Γ.n0 (bxs []) M,Γ.n0 + 35⟩) h (fun z h=>?_) (fun z h=>?_)
     ·refine Tr.rgn (md rfl (Rn.bin tv rfl rfl rfl (md rfl ?_)))
      refine Qck (decide (x3 > 0)) (fun hb11=>?_) (fun hb11=>?_)
      ·replace h:=ifT hb11 h
       refine Rn.movD (gw rfl hb11) rfl (Rn.movD (gw rfl hb11) rfl (Rn.movD (gw rfl hb11) rfl (Rn.bin (gw rfl hb11) rfl rfl rfl ?_)))
       obtain ⟨x12,h13,h⟩:=bnd h
       refine Rn.idxD (e:=(eI .i64)) (gw rfl hb11) rfl rfl h13 (Rn.loadC (x:=.int .i64 x12) (gw rfl hb11) rfl (Rn.bin (gw rfl hb11) rfl rfl rfl (Rn.pickT (v:=(b_ (decide (x6 ≤ x12)))) tv rfl hb11 rfl (md rfl (Rn.nil ?_)))))
       replace h:=si h; subst h
       exact Qg [] ⟨(sm rfl),(sm rfl),(sm rfl),(sm rfl),(sm rfl),(sm rfl),tv⟩ tv rfl
      ·replace h:=ifF hb11 h
       refine Rn.sk (nw rfl hb11) (Rn.sk (nw rfl hb11) (Rn.sk (nw rfl hb11) (Rn.sk (nw rfl hb11) (Rn.sk (nw rfl hb11) (Rn.sk (nw rfl hb11) (Rn.sk (nw rfl hb11) (Rn.pickF (v:=(b_ false)) tv rfl hb11 rfl (md rfl (Rn.nil ?_)))))))))
       replace h:=si h; subst h
       exact Qg [] ⟨(sm rfl),(sm rfl),(sm rfl),(sm rfl),(sm rfl),(sm rfl),tv⟩ tv rfl
     ·obtain ⟨x14,rfl⟩ : ∃ x,x = z:=⟨_,rfl⟩
      refine Tr.cond rfl (fun hb15=>?_) (fun hb15=>?_)
      ·replace h:=bT hb15 h
       refine sr ((md rfl (nt ((Tr.ret ?_)))))
       replace h:=si h; subst h
       exact ⟨.inr rfl,(i_ 5),rfl,fun _ _ _ _ h=>h,tv,fun k hk=>Qf hk⟩
      ·replace h:=bF hb15 h
       refine Tr.skip (toN (Tr.rgn (Rn.bin tv rfl rfl rfl (md rfl (Rn.nil ?_)))))
       exact ⟨_,h,(by exact Qi ⟨(sm rfl),(sm rfl),(sm rfl),(sm rfl),(sm rfl),tv⟩ tv rfl)⟩
  ·replace h:=ifF hb5 h
   refine Tr.exit (toN (sr ((md rfl (nt ((Tr.ret ?_)))))))
   replace h:=si h; subst h
   exact ⟨.inr rfl,(i_ 0),rfl,fun _ _ _ _ h=>h,tv,fun k hk=>Qf hk⟩
theorem Qpe {P : Program} {c : Nat} {Ql : (List Int) → Int → Option Bool}
    (H_slices_Contains_int : Qc6 P 12 Ql) (hcf : Qm P c = some Qgd) (fuel : Nat) : Qgc P c (Qbf Ql fuel):=by
 intro a1 r h
 refine Qb1 hcf rfl fun Γ M hP hnt hM=>?_
 subst hP
 refine Tr.init [(0,(Qb a1))] rfl ?_
 unfold Qbf at h
 unfold Qgd
 refine sr ((Rn.box (v:=(Qb a1)) (cs:=(Qe a1)) tv rfl rfl rfl rfl rfl (md rfl (nt ((Tr.seq (sr ((Rn.fldP (o':=3) tv rfl rfl (Rn.load (v:=.d (.lst 3 (List.map Qc a1.Edges))) tv rfl (Qj rfl) rfl rfl (Rn.lenD tv rfl (md rfl (nt ((Tr.block ?_)))))))))))))))
 refine Tr.loop (mk:=fun (x2 : Int)=>⟨look [(1,.ptr (Γ.n0 + 1) 0),(7,.d (.lst 3 (List.map Qc a1.Edges))),(8,(i_ (a1.Edges.length : Int))),(9,(i_ x2))],Qk Γ.n0 (bxs [(1,.cells ((Qe a1)))]) M,Γ.n0 + 72⟩) h (by exact Qi ⟨(kPtr rfl),(sm rfl),(sm rfl),(sm rfl),tv⟩ ⟨⟨_,rfl,rfl,(.same rfl)⟩,tv⟩ rfl) (fun k3 z h=>?_)
 ·obtain ⟨x2,rfl⟩ : ∃ x,x = z:=⟨_,rfl⟩
  replace h : _ = some _:=h
  refine sr ((Rn.bin tv rfl rfl rfl (nt ((Tr.seq ?_)))))
  refine Tr.cond rfl (fun hb4=>?_) (fun hb4=>?_)
  ·replace h:=ifT hb4 h
   refine Tr.skip (toN ?_)
   refine Tr.cutJ (fun ((c22,c23,c24) : Int × Int × Int)=>⟨look [(1,.ptr (Γ.n0 + 1) 0),(7,.d (.lst 3 (List.map Qc a1.Edges))),(8,(i_ (a1.Edges.length : Int))),(9,(i_ x2))],Qk Γ.n0 (bxs [(1,.cells ((Qe a1))),(4,.cells ([(i_ c22),(i_ c23),(i_ c24)]))]) M,Γ.n0 + 72⟩) h (fun J25 h=>?_) (fun z h=>?_)
   ·refine Tr.block (sr ((md rfl ?_)))
    obtain ⟨x5,h6,h⟩:=bnd h
    refine Rn.idxD (e:=Qc) tv rfl rfl h6 (Rn.loadCA (vs:=(Qbk x5)) tv rfl rfl rfl (Rn.alloc tv rfl (md rfl (Rn.store (v:=(Qbl x5)) (cs':=(Qbk x5)) tv rfl rfl rfl rfl rfl rfl (nt ((Tr.seq (Tr.block ?_))))))))
    refine Tr.cutB (fun (x10 : Bool)=>⟨look [(1,.ptr (Γ.n0 + 1) 0),(3,(i_ x2)),(4,.ptr (Γ.n0 + 4) 0),(7,.d (.lst 3 (List.map Qc a1.Edges))),(8,(i_ (a1.Edges.length : Int))),(9,(i_ x2)),(14,(b_ x10))],Qk Γ.n0 (bxs [(1,.cells ((Qe a1))),(4,.cells ((Qbk x5)))]) M,Γ.n0 + 72⟩) h (fun z h=>?_) (fun z h=>?_)
    ·refine Tr.rgn (Rn.fldP (o':=0) tv rfl rfl (Rn.load (v:=(i_ x5.From)) tv rfl (Qj rfl) rfl rfl (Rn.bin tv rfl rfl rfl (md rfl ?_))))
     refine Qck (decide (x5.From < 0)) (fun hb7=>?_) (fun hb7=>?_)
     ·replace h:=ifT hb7 h
      refine Rn.sk (nw rfl hb7) (Rn.sk (nw rfl hb7) (Rn.sk (nw rfl hb7) (Rn.sk (nw rfl hb7) (Rn.sk (nw rfl hb7) (Rn.pickT (v:=(b_ true)) tv rfl hb7 rfl (md rfl (Rn.sk (nw (b:=true) rfl rfl) (Rn.sk (nw (b:=true) rfl rfl) (Rn.sk (nw (b:=true) rfl rfl) (Rn.pickT (v:=(b_ true)) tv rfl rfl rfl (md rfl (Rn.sk (nw (b:=true) rfl rfl) (Rn.sk (nw (b:=true) rfl rfl) (Rn.sk (nw (b:=true) rfl rfl) (Rn.sk (nw (b:=true) rfl rfl) (Rn.sk (nw (b:=true) rfl rfl) (Rn.pickT (v:=(b_ true)) tv rfl rfl rfl (md rfl (Rn.nil ?_)))))))))))))))))))
      replace h:=si h; subst h
      exact Qg [] ⟨(kPtr rfl),(sm rfl),(kPtr rfl),(sm rfl),(sm rfl),(sm rfl),(sm rfl),tv⟩ ⟨⟨_,rfl,rfl,(.same rfl)⟩,⟨_,rfl,rfl,(.same rfl)⟩,tv⟩ rfl
     ·replace h:=ifF hb7 h
      refine Rn.fldP (o':=0) (gw rfl hb7) rfl rfl (Rn.load (v:=(i_ x5.From)) (gw rfl hb7) rfl (Qj rfl) rfl rfl (Rn.fldP (o':=1) (gw rfl hb7) rfl rfl (Rn.load (v:=(i_ a1.States)) (gw rfl hb7) rfl (Qj rfl) rfl rfl (Rn.bin (gw rfl hb7) rfl rfl rfl (Rn.pickF (v:=(b_ (decide (x5.From ≥ a1.States)))) tv rfl hb7 rfl (md rfl ?_))))))
      refine Qck (decide (x5.From ≥ a1.States)) (fun hb8=>?_) (fun hb8=>?_)
      ·replace h:=ifT hb8 h
       refine Rn.sk (nw rfl hb8) (Rn.sk (nw rfl hb8) (Rn.sk (nw rfl hb8) (Rn.pickT (v:=(b_ true)) tv rfl hb8 rfl (md rfl (Rn.sk (nw (b:=true) rfl rfl) (Rn.sk (nw (b:=true) rfl rfl) (Rn.sk (nw (b:=true) rfl rfl) (Rn.sk (nw (b:=true) rfl rfl) (Rn.sk (nw (b:=true) rfl rfl) (Rn.pickT (v:=(b_ true)) tv rfl rfl rfl (md rfl (Rn.nil ?_))))))))))))
       replace h:=si h; subst h
       exact Qg [] ⟨(kPtr rfl),(sm rfl),(kPtr rfl),(sm rfl),(sm rfl),(sm rfl),(sm rfl),tv⟩ ⟨⟨_,rfl,rfl,(.same rfl)⟩,⟨_,rfl,rfl,(.same rfl)⟩,tv⟩ rfl
      ·replace h:=ifF hb8 h
       refine Rn.fldP (o':=2) (gw rfl hb8) rfl rfl (Rn.load (v:=(i_ x5.To)) (gw rfl hb8) rfl (Qj rfl) rfl rfl (Rn.bin (gw rfl hb8) rfl rfl rfl (Rn.pickF (v:=(b_ (decide (x5.To < 0)))) tv rfl hb8 rfl (md rfl ?_))))
       refine Qck (decide (x5.To < 0)) (fun hb9=>?_) (fun hb9=>?_)
       ·replace h:=ifT hb9 h
        refine Rn.sk (nw rfl hb9) (Rn.sk (nw rfl hb9) (Rn.sk (nw rfl hb9) (Rn.sk (nw rfl hb9) (Rn.sk (nw rfl hb9) (Rn.pickT (v:=(b_ true)) tv rfl hb9 rfl (md rfl (Rn.nil ?_)))))))
        replace h:=si h; subst h
        exact Qg [] ⟨(kPtr rfl),(sm rfl),(kPtr rfl),(sm rfl),(sm rfl),(sm rfl),(sm rfl),tv⟩ ⟨⟨_,rfl,rfl,(.same rfl)⟩,⟨_,rfl,rfl,(.same rfl)⟩,tv⟩ rfl
       ·replace h:=ifF hb9 h
        refine Rn.fldP (o':=2) (gw rfl hb9) rfl rfl (Rn.load (v:=(i_ x5.To)) (gw rfl hb9) rfl (Qj rfl) rfl rfl (Rn.fldP (o':=1) (gw rfl hb9) rfl rfl (Rn.load (v:=(i_ a1.States)) (gw rfl hb9) rfl (Qj rfl) rfl rfl (Rn.bin (gw rfl hb9) rfl rfl rfl (Rn.pickF (v:=(b_ (decide (x5.To ≥ a1.States)))) tv rfl hb9 rfl (md rfl (Rn.nil ?_)))))))
        replace h:=si h; subst h
        exact Qg [] ⟨(kPtr rfl),(sm rfl),(kPtr rfl),(sm rfl),(sm rfl),(sm rfl),(sm rfl),tv⟩ ⟨⟨_,rfl,rfl,(.same rfl)⟩,⟨_,rfl,rfl,(.same rfl)⟩,tv⟩ rfl
    ·obtain ⟨x10,rfl⟩ : ∃ x,x = z:=⟨_,rfl⟩
     refine Tr.cond rfl (fun hb11=>?_) (fun hb11=>?_)
     ·replace h:=bT hb11 h
      refine sr ((md rfl (nt ((Tr.ret ?_)))))
      replace h:=si h; subst h
      exact ⟨.inr rfl,(i_ 2),rfl,fun _ _ _ _ h=>h,tv,fun k hk=>Qf hk⟩
     ·replace h:=bF hb11 h
      refine sr ((Rn.fldP (o':=0) tv rfl rfl (Rn.load (v:=(l_ a1.Alphabet)) tv rfl (Qj rfl) rfl rfl (Rn.fldP (o':=1) tv rfl rfl (Rn.load (v:=(i_ x5.Event)) tv rfl (Qj rfl) rfl rfl ?_)))))
      obtain ⟨x13,h12,h⟩:=bnd h
      refine Rn.call (args:=[(l_ a1.Alphabet),(i_ x5.Event)]) tv rfl (H_slices_Contains_int _ _ _ h12) pc9 (Rn.un tv rfl rfl (md rfl (Rn.nil (toN ?_))))
      refine Tr.cond rfl (fun hb14=>?_) (fun hb14=>?_)
      ·have hb14:=nT' hb14
       replace h:=bF hb14 h
       refine sr ((md rfl (nt ((Tr.ret ?_)))))
       replace h:=si h; subst h
       exact ⟨.inr rfl,(i_ 9),rfl,fun _ _ _ _ h=>h,tv,fun k hk=>Qf hk⟩
      ·have hb14:=nF' hb14
       replace h:=bT hb14 h
       refine Tr.skip (toN (Tr.seq (sr ((md rfl (Rn.bin tv rfl rfl rfl (Rn.nil (toN ?_))))))))
       refine Tr.cond rfl (fun hb15=>?_) (fun hb15=>?_)
       ·replace h:=bT hb15 h
        refine Tr.exit ?_
        exact ⟨_,h,(by exact Qg [] ⟨(kPtr rfl),(sm rfl),(sm rfl),(sm rfl),tv⟩ ⟨⟨_,rfl,rfl,(.same rfl)⟩,⟨_,rfl,rfl,(.same rfl)⟩,tv⟩ rfl)⟩
       ·replace h:=bF hb15 h
        refine Tr.skip (toN (sr ((Rn.fldP (o':=3) tv rfl rfl (Rn.load (v:=.d (.lst 3 (List.map Qc a1.Edges))) tv rfl (Qj rfl) rfl rfl (md rfl (Rn.bin tv rfl rfl rfl ?_)))))))
        obtain ⟨x16,h17,h⟩:=bnd h
        refine Rn.idxD (e:=Qc) tv rfl rfl h17 (Rn.loadCA (vs:=(Qbk x16)) tv rfl rfl rfl (Rn.alloc tv rfl (Rn.store (v:=(Qbl x16)) (cs':=(Qbk x16)) tv rfl rfl rfl rfl rfl rfl (Rn.nil (toN ?_)))))
        refine Tr.cutB (fun (x20 : Bool)=>⟨look [(1,.ptr (Γ.n0 + 1) 0),(7,.d (.lst 3 (List.map Qc a1.Edges))),(8,(i_ (a1.Edges.length : Int))),(9,(i_ x2)),(70,(b_ x20))],Qk Γ.n0 (bxs [(1,.cells ((Qe a1))),(4,.cells ((Qbk x5))),(5,.cells ((Qbk x16)))]) M,Γ.n0 + 72⟩) h (fun z h=>?_) (fun z h=>?_)
        ·refine Tr.rgn (Rn.fldP (o':=0) tv rfl rfl (Rn.load (v:=(i_ x5.From)) tv rfl (Qj rfl) rfl rfl (Rn.fldP (o':=0) tv rfl rfl (Rn.load (v:=(i_ x16.From)) tv rfl (Qj rfl) rfl rfl (Rn.bin tv rfl rfl rfl (md rfl ?_))))))
         refine Qck (decide (x5.From < x16.From)) (fun hb18=>?_) (fun hb18=>?_)
         ·replace h:=ifT hb18 h
          refine Rn.sk (nw rfl hb18) (Rn.sk (nw rfl hb18) (Rn.sk (nw rfl hb18) (Rn.sk (nw rfl hb18) (Rn.sk (nw rfl hb18) (Rn.sk (nw rfl hb18) (Rn.sk (nu rfl) (Rn.sk (nu rfl) (Rn.sk (nu rfl) (Rn.sk (nu rfl) (Rn.sk (nu rfl) (Rn.sk (nw rfl hb18) (Rn.pickT (v:=(b_ true)) tv rfl hb18 rfl (Rn.nil ?_)))))))))))))
          replace h:=si h; subst h
          exact Qg [] ⟨(kPtr rfl),(sm rfl),(sm rfl),(sm rfl),(sm rfl),tv⟩ ⟨⟨_,rfl,rfl,(.same rfl)⟩,⟨_,rfl,rfl,(.same rfl)⟩,⟨_,rfl,rfl,(.same rfl)⟩,tv⟩ rfl
         ·replace h:=ifF hb18 h
          refine Rn.fldP (o':=0) (gw rfl hb18) rfl rfl (Rn.load (v:=(i_ x5.From)) (gw rfl hb18) rfl (Qj rfl) rfl rfl (Rn.fldP (o':=0) (gw rfl hb18) rfl rfl (Rn.load (v:=(i_ x16.From)) (gw rfl hb18) rfl (Qj rfl) rfl rfl (Rn.bin (gw rfl hb18) rfl rfl rfl (Rn.movD (gw rfl hb18) rfl ?_)))))
          refine Qck (x5.From == x16.From) (fun hb19=>?_) (fun hb19=>?_)
          ·replace h:=bT hb19 h
           refine Rn.fldP (o':=1) (gw rfl hb19) rfl rfl (Rn.load (v:=(i_ x5.Event)) (gw rfl hb19) rfl (Qj rfl) rfl rfl (Rn.fldP (o':=1) (gw rfl hb19) rfl rfl (Rn.load (v:=(i_ x16.Event)) (gw rfl hb19) rfl (Qj rfl) rfl rfl (Rn.bin (gw rfl hb19) rfl rfl rfl (Rn.pickT (v:=(b_ (decide (x5.Event ≤ x16.Event)))) (gw rfl hb18) rfl hb19 rfl (Rn.pickF (v:=(b_ (decide (x5.Event ≤ x16.Event)))) tv rfl hb18 rfl (Rn.nil ?_)))))))
           replace h:=si h; subst h
           exact Qg [] ⟨(kPtr rfl),(sm rfl),(sm rfl),(sm rfl),(sm rfl),tv⟩ ⟨⟨_,rfl,rfl,(.same rfl)⟩,⟨_,rfl,rfl,(.same rfl)⟩,⟨_,rfl,rfl,(.same rfl)⟩,tv⟩ rfl
          ·replace h:=bF hb19 h
           refine Rn.sk (nw rfl hb19) (Rn.sk (nw rfl hb19) (Rn.sk (nw rfl hb19) (Rn.sk (nw rfl hb19) (Rn.sk (nw rfl hb19) (Rn.pickF (v:=(b_ false)) (gw rfl hb18) rfl hb19 rfl (Rn.pickF (v:=(b_ false)) tv rfl hb18 rfl (Rn.nil ?_)))))))
           replace h:=si h; subst h
           exact Qg [] ⟨(kPtr rfl),(sm rfl),(sm rfl),(sm rfl),(sm rfl),tv⟩ ⟨⟨_,rfl,rfl,(.same rfl)⟩,⟨_,rfl,rfl,(.same rfl)⟩,⟨_,rfl,rfl,(.same rfl)⟩,tv⟩ rfl
        ·obtain ⟨x20,rfl⟩ : ∃ x,x = z:=⟨_,rfl⟩
         refine Tr.cond rfl (fun hb21=>?_) (fun hb21=>?_)
         ·replace h:=bT hb21 h
          refine sr ((md rfl (nt ((Tr.ret ?_)))))
          replace h:=si h; subst h
          exact ⟨.inr rfl,(i_ 5),rfl,fun _ _ _ _ h=>h,tv,fun k hk=>Qf hk⟩
         ·replace h:=bF hb21 h
          refine Tr.skip ?_
          exact ⟨_,h,(by exact Qg [5] ⟨(kPtr rfl),(sm rfl),(sm rfl),(sm rfl),tv⟩ ⟨⟨_,rfl,rfl,(.same rfl)⟩,⟨_,rfl,rfl,(.same rfl)⟩,tv⟩ rfl)⟩
   ·obtain ⟨c22,c23,c24⟩:=z
    refine Tr.rgn (Rn.bin tv rfl rfl rfl (md rfl (Rn.nil ?_)))
    exact ⟨_,h,(by exact Qi ⟨(kPtr rfl),(sm rfl),(sm rfl),(sm rfl),tv⟩ ⟨⟨_,rfl,rfl,(.same rfl)⟩,tv⟩ rfl)⟩
  ·replace h:=ifF hb4 h
   refine Tr.exit (toN (sr ((md rfl (nt ((Tr.ret ?_)))))))
   replace h:=si h; subst h
   exact ⟨.inr rfl,(i_ 0),rfl,fun _ _ _ _ h=>h,tv,fun k hk=>Qf hk⟩
theorem Q29 {P : Program} {c : Nat} {Qbh : (List Int) → Int → Option Int} {Qbf : Qa → Option Int}
    (H_automaton_checkSet : Qhw P 83 Qbh)
    (H_automaton_checkEdges : Qgc P 84 Qbf) (hcf : Qm P c = some Qkv) : Qff P c (Qv Qbh Qbf):=by
 intro a1 r h
 refine Qb1 hcf rfl fun Γ M hP hnt hM=>?_
 subst hP
 refine Tr.init [(0,(Qb a1))] rfl ?_
 unfold Qv at h
 unfold Qkv
 refine sr ((Rn.box (v:=(Qb a1)) (cs:=(Qe a1)) tv rfl rfl rfl rfl rfl (md rfl (nt ((Tr.seq (sr ((Rn.fldP (o':=0) tv rfl rfl (Rn.load (v:=(l_ a1.Alphabet)) tv rfl (Qj rfl) rfl rfl ?_))))))))))
 obtain ⟨x3,h2,h⟩:=bnd h
 refine Rn.call (args:=[(l_ a1.Alphabet),(i_ 32)]) tv rfl (H_automaton_checkSet _ _ _ h2) pc9 (md rfl (nt ((sr ((md rfl (Rn.bin tv rfl rfl rfl (Rn.nil (toN ?_)))))))))
 refine Tr.cond rfl (fun hb4=>?_) (fun hb4=>?_)
 ·replace h:=bT hb4 h
  refine sr ((md rfl (md rfl (nt ((Tr.ret ?_))))))
  replace h:=si h; subst h
  exact ⟨.inr rfl,(i_ x3),rfl,fun _ _ _ _ h=>h,tv,fun k hk=>Qf hk⟩
 ·replace h:=bF hb4 h
  refine Tr.skip (toN (Tr.seq (Tr.block (sr ((Rn.fldP (o':=1) tv rfl rfl (Rn.load (v:=(i_ a1.States)) tv rfl (Qj rfl) rfl rfl (Rn.bin tv rfl rfl rfl (md rfl (Rn.nil (toN ?_)))))))))))
  refine Tr.cond rfl (fun hb5=>?_) (fun hb5=>?_)
  ·replace h:=ifT hb5 h
   refine sr ((md rfl (nt ((Tr.ret ?_)))))
   replace h:=si h; subst h
   exact ⟨.inr rfl,(i_ 2),rfl,fun _ _ _ _ h=>h,tv,fun k hk=>Qf hk⟩
  ·replace h:=ifF hb5 h
   refine sr ((Rn.fldP (o':=1) tv rfl rfl (Rn.load (v:=(i_ a1.States)) tv rfl (Qj rfl) rfl rfl (Rn.bin tv rfl rfl rfl (md rfl (Rn.nil (toN ?_)))))))
   refine Tr.cond rfl (fun hb6=>?_) (fun hb6=>?_)
   ·replace h:=ifT hb6 h
    refine sr ((md rfl (nt ((Tr.ret ?_)))))
    replace h:=si h; subst h
    exact ⟨.inr rfl,(i_ 3),rfl,fun _ _ _ _ h=>h,tv,fun k hk=>Qf hk⟩
   ·replace h:=ifF hb6 h
    refine Tr.skip (toN (Tr.seq (sr ((Rn.fldP (o':=2) tv rfl rfl (Rn.load (v:=(l_ a1.Marked)) tv rfl (Qj rfl) rfl rfl (Rn.fldP (o':=1) tv rfl rfl (Rn.load (v:=(i_ a1.States)) tv rfl (Qj rfl) rfl rfl ?_))))))))
    obtain ⟨x8,h7,h⟩:=bnd h
    refine Rn.call (args:=[(l_ a1.Marked),(i_ a1.States)]) tv rfl (H_automaton_checkSet _ _ _ h7) pc9 (md rfl (nt ((sr ((md rfl (Rn.bin tv rfl rfl rfl (Rn.nil (toN ?_)))))))))
    refine Tr.cond rfl (fun hb9=>?_) (fun hb9=>?_)
    ·replace h:=bT hb9 h
     refine sr ((md rfl (md rfl (nt ((Tr.ret ?_))))))
     replace h:=si h; subst h
     exact ⟨.inr rfl,(i_ x8),rfl,fun _ _ _ _ h=>h,tv,fun k hk=>Qf hk⟩
    ·replace h:=bF hb9 h
     refine Tr.skip (toN (sr ((Rn.load (v:=(Qb a1)) tv rfl (Qj rfl) rfl rfl ?_))))
     obtain ⟨x11,h10,h⟩:=bnd h
     refine Rn.call (args:=[(Qb a1)]) tv rfl (H_automaton_checkEdges _ _ h10) pc9 (md rfl (nt ((Tr.ret ?_))))
     replace h:=si h; subst h
     exact ⟨.inr rfl,(i_ x11),rfl,fun _ _ _ _ h=>h,tv,fun k hk=>Qf hk⟩
theorem Qpf {P : Program} {c : Nat} {Qv : Qa → Option Int}
    (H_automaton_Check : Qff P 62 Qv) (hcf : Qm P c = some Qgf) : Qge P c (Qbx Qv):=by
 intro a1 state2 r h
 refine Qb1 hcf rfl fun Γ M hP hnt hM=>?_
 subst hP
 refine Tr.init [(0,(Qb a1)),(1,(i_ state2))] rfl ?_
 unfold Qbx at h
 unfold Qgf
 refine sr ((Rn.box (v:=(Qb a1)) (cs:=(Qe a1)) tv rfl rfl rfl rfl rfl (md rfl (nt ((Tr.seq (sr ((Rn.load (v:=(Qb a1)) tv rfl (Qj rfl) rfl rfl ?_)))))))))
 obtain ⟨x4,h3,h⟩:=bnd h
 refine Rn.call (args:=[(Qb a1)]) tv rfl (H_automaton_Check _ _ h3) pc9 (md rfl (nt ((sr ((md rfl (Rn.bin tv rfl rfl rfl (Rn.nil (toN ?_)))))))))
 refine Tr.cond rfl (fun hb5=>?_) (fun hb5=>?_)
 ·replace h:=bT hb5 h
  refine sr ((md rfl (md rfl (nt ((Tr.ret ?_))))))
  replace h:=si h; subst h
  exact ⟨.inr rfl,(i_ x4),rfl,fun _ _ _ _ h=>h,tv,fun k hk=>Qf hk⟩
 ·replace h:=bF hb5 h
  refine Tr.skip (toN (Tr.seq ?_))
  refine Tr.cutB (fun (x7 : Bool)=>⟨look [(18,(b_ x7))],Qk Γ.n0 (bxs [(2,.cells ((Qe a1)))]) M,Γ.n0 + 19⟩) h (fun z h=>?_) (fun z h=>?_)
  ·refine Tr.rgn (md rfl (Rn.bin tv rfl rfl rfl (md rfl ?_)))
   refine Qck (decide (state2 < 0)) (fun hb6=>?_) (fun hb6=>?_)
   ·replace h:=ifT hb6 h
    refine Rn.sk (nw rfl hb6) (Rn.sk (nw rfl hb6) (Rn.sk (nw rfl hb6) (Rn.sk (nw rfl hb6) (Rn.pickT (v:=(b_ true)) tv rfl hb6 rfl (Rn.nil ?_)))))
    replace h:=si h; subst h
    exact Qg [] ⟨(sm rfl),tv⟩ ⟨⟨_,rfl,rfl,(.same rfl)⟩,tv⟩ rfl
   ·replace h:=ifF hb6 h
    refine Rn.movD (gw rfl hb6) rfl (Rn.fldP (o':=1) (gw rfl hb6) rfl rfl (Rn.load (v:=(i_ a1.States)) (gw rfl hb6) rfl (Qj rfl) rfl rfl (Rn.bin (gw rfl hb6) rfl rfl rfl (Rn.pickF (v:=(b_ (decide (state2 ≥ a1.States)))) tv rfl hb6 rfl (Rn.nil ?_)))))
    replace h:=si h; subst h
    exact Qg [] ⟨(sm rfl),tv⟩ ⟨⟨_,rfl,rfl,(.same rfl)⟩,tv⟩ rfl
  ·obtain ⟨x7,rfl⟩ : ∃ x,x = z:=⟨_,rfl⟩
   refine Tr.cond rfl (fun hb8=>?_) (fun hb8=>?_)
   ·replace h:=bT hb8 h
    refine sr ((md rfl (nt ((Tr.ret ?_)))))
    replace h:=si h; subst h
    exact ⟨.inr rfl,(i_ 2),rfl,fun _ _ _ _ h=>h,tv,fun k hk=>Qf hk⟩
   ·replace h:=bF hb8 h
    refine Tr.skip (toN (sr ((md rfl (nt ((Tr.ret ?_)))))))
    replace h:=si h; subst h
    exact ⟨.inr rfl,(i_ 0),rfl,fun _ _ _ _ h=>h,tv,fun k hk=>Qf hk⟩
theorem Qki {P : Program} {c : Nat} (hcf : Qm P c = some Qdz) (fuel : Nat) : Qdy P c (Qt fuel):=by
 intro x1 target2 cmp3 g4 cp5 r h
 intro M nb hc6 ho8 hf7
 refine Q8e hcf rfl M nb fun Γ hP hnt hn0 hM=>?_
 subst hP hn0
 refine Tr.init [(0,.d (.lst 3 (List.map Qc x1))),(1,(i_ target2)),(2,.clo g4 cp5)] rfl ?_
 unfold Qt at h
 unfold Qdz
 refine sr ((md rfl (md rfl (nt ((sr ((md rfl (Rn.lenD tv rfl (md rfl (nt ((sr ((md rfl (md rfl (md rfl (Rn.nil (toN ?_)))))))))))))))))))
 refine Tr.cutB (fun (i20 : Int)=>⟨look [(0,.d (.lst 3 (List.map Qc x1))),(1,(i_ target2)),(2,.clo g4 cp5),(8,(i_ (x1.length : Int))),(9,(i_ i20))],Qk Γ.n0 (bxs []) M,Γ.n0 + 49⟩) h (fun z h=>?_) (fun z h=>?_)
 ·refine Tr.block ?_
  refine Tr.loop (mk:=fun ((i11,j12) : Int × Int)=>⟨look [(0,.d (.lst 3 (List.map Qc x1))),(1,(i_ target2)),(2,.clo g4 cp5),(8,(i_ (x1.length : Int))),(9,(i_ i11)),(10,(i_ j12))],Qk Γ.n0 (bxs []) M,Γ.n0 + 49⟩) h (by exact Qi ⟨(sm rfl),(sm rfl),(kFun hM ho8),(sm rfl),(sm rfl),(sm rfl),tv⟩ tv rfl) (fun k13 z h=>?_)
  ·obtain ⟨i11,j12⟩:=z
   replace h : _ = some _:=h
   refine Tr.seq (sr ((md rfl (md rfl (Rn.bin tv rfl rfl rfl (Rn.nil (toN ?_)))))))
   refine Tr.cond rfl (fun hb14=>?_) (fun hb14=>?_)
   ·replace h:=ifT hb14 h
    refine Tr.skip (toN (Tr.block (sr ((md rfl (md rfl (Rn.bin tv rfl rfl rfl (Rn.conv tv rfl (Rn.bin tv rfl rfl rfl (Rn.conv tv rfl (md rfl (nt ((sr ((Rn.mov (v:=.clo g4 cp5) tv rfl (md rfl (md rfl ?_))))))))))))))))))
    obtain ⟨x15,h16,h⟩:=bnd h
    refine Rn.idxD (e:=Qc) tv rfl rfl h16 (Rn.loadCA (vs:=(Qbk x15)) tv rfl rfl rfl (md rfl ?_))
    obtain ⟨x18,h17,h⟩:=bnd h
    refine Rn.callvM (args:=[(Qbl x15),(i_ target2)] ++ cp5) tv rfl (by rw [hc6]; rfl) (fun M2 nb2 hn hx=>hf7 _ _ _ h17 M2 nb2 (by omega) ((Q9u hM).trans hx)) rfl pc9 ?_
    refine Rn.bin tv rfl rfl rfl (Rn.nil (toN ?_))
    refine Tr.cond rfl (fun hb19=>?_) (fun hb19=>?_)
    ·replace h:=ifT hb19 h
     refine Tr.rgn (md rfl (Rn.bin tv rfl rfl rfl (md rfl (Rn.nil ?_))))
     exact ⟨_,h,(by exact Qi ⟨(sm rfl),(sm rfl),(kFun hM ho8),(sm rfl),(sm rfl),(sm rfl),tv⟩ tv rfl)⟩
    ·replace h:=ifF hb19 h
     refine Tr.rgn (md rfl (md rfl (Rn.nil ?_)))
     exact ⟨_,h,(by exact Qi ⟨(sm rfl),(sm rfl),(kFun hM ho8),(sm rfl),(sm rfl),(sm rfl),tv⟩ tv rfl)⟩
   ·replace h:=ifF hb14 h
    refine Tr.exit ?_
    replace h:=si h; subst h
    exact Qg [] ⟨(sm rfl),(sm rfl),(kFun hM ho8),(sm rfl),(sm rfl),tv⟩ tv rfl
 ·obtain ⟨i20,rfl⟩ : ∃ x,x = z:=⟨_,rfl⟩
  refine sr ((md rfl (md rfl (md rfl (Rn.bin tv rfl rfl rfl (md rfl ?_))))))
  refine Qck (decide (i20 < (x1.length : Int))) (fun hb21=>?_) (fun hb21=>?_)
  ·replace h:=ifT hb21 h
   refine Rn.mov (v:=.clo g4 cp5) (gw rfl hb21) rfl (Rn.movD (gw rfl hb21) rfl (Rn.movD (gw rfl hb21) rfl ?_))
   obtain ⟨x22,h23,h⟩:=bnd h
   refine Rn.idxD (e:=Qc) (gw rfl hb21) rfl rfl h23 (Rn.loadCA (vs:=(Qbk x22)) (gw rfl hb21) rfl rfl rfl (Rn.movD (gw rfl hb21) rfl ?_))
   obtain ⟨x25,h24,h⟩:=bnd h
   refine Rn.callvM (args:=[(Qbl x22),(i_ target2)] ++ cp5) (gw rfl hb21) rfl (by rw [hc6]; rfl) (fun M2 nb2 hn hx=>hf7 _ _ _ h24 M2 nb2 (by omega) ((Q9u hM).trans hx)) rfl pc9 ?_
   refine Rn.bin (gw rfl hb21) rfl rfl rfl (Rn.pickT (v:=(b_ (x25 == 0))) tv rfl hb21 rfl (md rfl (md rfl (nt ((Tr.ret ?_))))))
   replace h:=si h; subst h
   exact ⟨.inr rfl,.tup [(i_ i20),(b_ (x25 == 0))],res2 rfl rfl,(WkV.tup (.cons (.same rfl) (.cons (.same rfl) .nil))).rd,⟨tv,tv,tv⟩,fun k hk=>Qf hk⟩
  ·replace h:=ifF hb21 h
   refine Rn.sk (nw rfl hb21) (Rn.sk (nw rfl hb21) (Rn.sk (nw rfl hb21) (Rn.sk (nw rfl hb21) (Rn.sk (nw rfl hb21) (Rn.sk (nw rfl hb21) (Rn.sk (nw rfl hb21) (Rn.sk (nw rfl hb21) (Rn.pickF (v:=(b_ false)) tv rfl hb21 rfl (md rfl (md rfl (nt ((Tr.ret ?_)))))))))))))
   replace h:=si h; subst h
   exact ⟨.inr rfl,.tup [(i_ i20),(b_ false)],res2 rfl rfl,(WkV.tup (.cons (.same rfl) (.cons (.same rfl) .nil))).rd,⟨tv,tv,tv⟩,fun k hk=>Qf hk⟩
theorem Q3a {P : Program} {c : Nat} (hcf : Qm P c = some Qk6) : Qk5 P c (Qcq):=by
 intro x1 s2 r h
 refine Qb1 hcf rfl fun Γ M hP hnt hM=>?_
 subst hP
 refine Tr.init [(0,(Qbl x1)),(1,(i_ s2))] rfl ?_
 unfold Qcq at h
 unfold Qk6
 refine sr ((Rn.box (v:=(Qbl x1)) (cs:=(Qbk x1)) tv rfl rfl rfl rfl rfl (md rfl (nt ((sr ((Rn.fldP (o':=0) tv rfl rfl (Rn.load (v:=(i_ x1.From)) tv rfl (Qj rfl) rfl rfl (md rfl (Rn.bin tv rfl rfl rfl (md rfl (nt ((Tr.ret ?_)))))))))))))))
 replace h:=si h; subst h
 exact ⟨.inr rfl,(i_ (IntKind.wrap .i64 (x1.From - s2))),rfl,fun _ _ _ _ h=>h,tv,fun k hk=>Qf hk⟩
theorem Q3b {P : Program} {c : Nat} (hcf : Qm P c = some Qk8) : Qk7 P c (Qcr):=by
 intro x1 s2 r h
 refine Qb1 hcf rfl fun Γ M hP hnt hM=>?_
 subst hP
 refine Tr.init [(0,(Qbl x1)),(1,(i_ s2))] rfl ?_
 unfold Qcr at h
 unfold Qk8
 refine sr ((Rn.box (v:=(Qbl x1)) (cs:=(Qbk x1)) tv rfl rfl rfl rfl rfl (md rfl (nt ((sr ((Rn.fldP (o':=0) tv rfl rfl (Rn.load (v:=(i_ x1.From)) tv rfl (Qj rfl) rfl rfl (md rfl (Rn.bin tv rfl rfl rfl (md rfl (nt ((Tr.ret ?_)))))))))))))))
 replace h:=si h; subst h
 exact ⟨.inr rfl,(i_ (IntKind.wrap .i64 (x1.From - s2))),rfl,fun _ _ _ _ h=>h,tv,fun k hk=>Qf hk⟩
theorem Q6j {P : Program} {c : Nat} {Qt : (List Qd) → Int → (Qd → Int → Option Int) → Option (Int × Bool)} {Qcq : Qd → Int → Option Int} {Qcr : Qd → Int → Option Int}
    (H_slices_BinarySearchFunc_int : Qdy P 80 Qt)
    (H_automaton_out_1 : Qk5 P 81 Qcq)
    (H_automaton_out_2 : Qk7 P 82 Qcr) (hcf : Qm P c = some Qnl) : Qj6 P c (Qbn Qt Qcq Qcr):=by
 intro a1 state2 r h
 refine Qb1 hcf rfl fun Γ M hP hnt hM=>?_
 subst hP
 refine Tr.init [(0,(Qb a1)),(1,(i_ state2))] rfl ?_
 unfold Qbn at h
 unfold Qnl
 refine sr ((Rn.box (v:=(Qb a1)) (cs:=(Qe a1)) tv rfl rfl rfl rfl rfl (Rn.movTC (v:=.nils 3) tv (nt ((sr ((Rn.fldP (o':=3) tv rfl rfl (Rn.load (v:=.d (.lst 3 (List.map Qc a1.Edges))) tv rfl (Qj rfl) rfl rfl (md rfl ?_))))))))))
 obtain ⟨⟨r8,r9⟩,h7,h⟩:=bnd h
 refine Rn.callM (args:=[.d (.lst 3 (List.map Qc a1.Edges)),(i_ state2),.clo 81 []]) tv rfl (fun M2 nb2 hn hx=>H_slices_BinarySearchFunc_int _ _ _ 81 [] _ h7 M2 nb2 rfl tv (fun a3 a4 r5 h6 M3 nb3 hn3 hx3=>H_automaton_out_1 a3 a4 r5 h6 M3 nb3 )) rfl pc9 ?_
 refine Rn.mov (v:=.tup [(i_ r8),(b_ r9)]) tv rfl (Rn.ext (v:=(i_ r8)) (vs:=[(i_ r8),(b_ r9)]) tv rfl rfl rfl (Rn.ext (v:=(b_ r9)) (vs:=[(i_ r8),(b_ r9)]) tv rfl rfl rfl (md rfl (md rfl (nt ((sr ((Rn.fldP (o':=3) tv rfl rfl (Rn.load (v:=.d (.lst 3 (List.map Qc a1.Edges))) tv rfl (Qj rfl) rfl rfl (md rfl (Rn.bin tv rfl rfl rfl ?_))))))))))))
 obtain ⟨⟨r15,r16⟩,h14,h⟩:=bnd h
 refine Rn.callM (args:=[.d (.lst 3 (List.map Qc a1.Edges)),(i_ (IntKind.wrap .i64 (state2 + 1))),.clo 82 []]) tv rfl (fun M2 nb2 hn hx=>H_slices_BinarySearchFunc_int _ _ _ 82 [] _ h14 M2 nb2 rfl tv (fun a10 a11 r12 h13 M3 nb3 hn3 hx3=>H_automaton_out_2 a10 a11 r12 h13 M3 nb3 )) rfl pc9 ?_
 refine Rn.mov (v:=.tup [(i_ r15),(b_ r16)]) tv rfl (Rn.ext (v:=(i_ r15)) (vs:=[(i_ r15),(b_ r16)]) tv rfl rfl rfl (Rn.ext (v:=(b_ r16)) (vs:=[(i_ r15),(b_ r16)]) tv rfl rfl rfl (md rfl (md rfl (nt ((sr ((Rn.fldP (o':=3) tv rfl rfl (Rn.load (v:=.d (.lst 3 (List.map Qc a1.Edges))) tv rfl (Qj rfl) rfl rfl (md rfl (md rfl ?_))))))))))))
 obtain ⟨x17,h18,h⟩:=bnd h
 refine Rn.slc2 (e:=Qc) tv rfl rfl rfl h18 (Rn.movTD tv rfl (nt ((Tr.ret ?_))))
 replace h:=si h; subst h
 exact ⟨.inr rfl,(.d (.lst 3 (List.map Qc x17))),rfl,fun _ _ _ _ h=>h,tv,fun k hk=>Qf hk⟩
theorem Qxr {P : Program} {c : Nat} {Qbx : Qa → Int → Option Int} {Qbn : Qa → Int → Option ((List Qd))}
    (H_automaton_checkState : Qge P 59 Qbx)
    (H_automaton_out : Qj6 P 60 Qbn) (hcf : Qm P c = some Qi0) (fuel : Nat) : Qiz P c (Qcm Qbx Qbn fuel):=by
 intro a1 state2 r h
 refine Qb1 hcf rfl fun Γ M hP hnt hM=>?_
 subst hP
 refine Tr.init [(0,(Qb a1)),(1,(i_ state2))] rfl ?_
 unfold Qcm at h
 unfold Qi0
 refine sr ((Rn.box (v:=(Qb a1)) (cs:=(Qe a1)) tv rfl rfl rfl rfl rfl (Rn.movTC (v:=.nils 1) tv (md rfl (nt ((Tr.seq (sr ((Rn.load (v:=(Qb a1)) tv rfl (Qj rfl) rfl rfl (md rfl ?_)))))))))))
 obtain ⟨x4,h3,h⟩:=bnd h
 refine Rn.call (args:=[(Qb a1),(i_ state2)]) tv rfl (H_automaton_checkState _ _ _ h3) pc9 (md rfl (nt ((sr ((md rfl (Rn.bin tv rfl rfl rfl (Rn.nil (toN ?_)))))))))
 refine Tr.cond rfl (fun hb5=>?_) (fun hb5=>?_)
 ·replace h:=bT hb5 h
  refine sr ((md rfl (Rn.movTC (v:=.nils 1) tv (md rfl (nt ((Tr.ret ?_)))))))
  replace h:=si h; subst h
  exact ⟨.inr rfl,.tup [.nils 1,(i_ x4)],res2 rfl rfl,(WkV.tup (.cons (WkV.nilsO _) (.cons (.same rfl) .nil))).rd,⟨tv,tv,tv⟩,fun k hk=>Qf hk⟩
 ·replace h:=bF hb5 h
  refine Tr.skip (toN (sr ((Rn.movTC (v:=.nils 1) tv (Rn.nil (toN ?_))))))
  refine Tr.cutB (fun (l16 : List Int)=>⟨look [(7,(o_ l16))],Qk Γ.n0 (bxs [(2,.cells ((Qe a1)))]) M,Γ.n0 + 31⟩) h (fun z h=>?_) (fun z h=>?_)
  ·refine sr ((Rn.load (v:=(Qb a1)) tv rfl (Qj rfl) rfl rfl (md rfl ?_)))
   obtain ⟨x7,h6,h⟩:=bnd h
   refine Rn.call (args:=[(Qb a1),(i_ state2)]) tv rfl (H_automaton_out _ _ _ h6) pc9 (Rn.lenD tv rfl (md rfl (nt ((Tr.block ?_)))))
   refine Tr.loop (mk:=fun ((l8,x9) : (List Int) × Int)=>⟨look [(7,(o_ l8)),(18,.d (.lst 3 (List.map Qc x7))),(19,(i_ (x7.length : Int))),(20,(i_ x9))],Qk Γ.n0 (bxs [(2,.cells ((Qe a1)))]) M,Γ.n0 + 31⟩) h (by exact Qi ⟨(WkV.nilsO _),(sm rfl),(sm rfl),(sm rfl),tv⟩ ⟨⟨_,rfl,rfl,(.same rfl)⟩,tv⟩ rfl) (fun k10 z h=>?_)
   ·obtain ⟨l8,x9⟩:=z
    replace h : _ = some _:=h
    refine sr ((Rn.bin tv rfl rfl rfl (nt ((Tr.seq ?_)))))
    refine Tr.cond rfl (fun hb11=>?_) (fun hb11=>?_)
    ·replace h:=ifT hb11 h
     refine Tr.skip (toN (Tr.seq (Tr.block (Tr.seq (Tr.rgn ?_)))))
     obtain ⟨x12,h13,h⟩:=bnd h
     refine Rn.idxD (e:=Qc) tv rfl rfl h13 (Rn.loadCA (vs:=(Qbk x12)) tv rfl rfl rfl (Rn.alloc tv rfl (Rn.store (v:=(Qbl x12)) (cs':=(Qbk x12)) tv rfl rfl rfl rfl rfl rfl (nt ((Tr.rgn (Rn.movTO tv rfl (Rn.fldP (o':=1) tv rfl rfl (Rn.load (v:=(i_ x12.Event)) tv rfl (Qj rfl) rfl rfl (Rn.bslice (xs:=[(i_ x12.Event)]) (cs:=[(i_ x12.Event)]) tv rfl rfl rfl rfl ?_))))))))))
     obtain ⟨x14,h15,h⟩:=bnd h
     refine Rn.app (e:=(eI .i64)) tv rfl rfl rfl (Qdb rfl rfl rfl) h15 rfl (Rn.movTO tv rfl (nt ((Tr.rgn (Rn.bin tv rfl rfl rfl (md rfl (Rn.nil ?_)))))))
     exact ⟨_,h,(by exact Qi ⟨(sm rfl),(sm rfl),(sm rfl),(sm rfl),tv⟩ ⟨⟨_,rfl,rfl,(.same rfl)⟩,tv⟩ rfl)⟩
    ·replace h:=ifF hb11 h
     refine Tr.exit ?_
     replace h:=si h; subst h
     exact Qg [] ⟨(sm rfl),tv⟩ ⟨⟨_,rfl,rfl,(.same rfl)⟩,tv⟩ rfl
  ·obtain ⟨l16,rfl⟩ : ∃ x,x = z:=⟨_,rfl⟩
   refine sr ((Rn.movTO tv rfl (Rn.movTO tv rfl (md rfl (nt ((Tr.ret ?_)))))))
   replace h:=si h; subst h
   exact ⟨.inr rfl,.tup [(o_ l16),(i_ 0)],res2 rfl rfl,(WkV.tup (.cons (.same rfl) (.cons (.same rfl) .nil))).rd,⟨tv,tv,tv⟩,fun k hk=>Qf hk⟩
theorem Q0n {P : Program} {c : Nat} (hcf : Qm P c = some Qj8) : Qj7 P c (Qcw):=by
 intro inA1 inB2 r h
 refine Qb1 hcf rfl fun Γ M hP hnt hM=>?_
 subst hP
 refine Tr.init [(0,(b_ inA1)),(1,(b_ inB2))] rfl ?_
 unfold Qcw at h
 unfold Qj8
 refine sr ((md rfl (nt ((sr ((md rfl (md rfl ?_))))))))
 refine Qck inA1 (fun hb3=>?_) (fun hb3=>?_)
 ·replace h:=bT hb3 h
  refine Rn.movD (gw rfl hb3) rfl (Rn.un (gw rfl hb3) rfl rfl (Rn.pickT (v:=(b_ (!inB2))) tv rfl hb3 rfl (md rfl (nt ((Tr.ret ?_))))))
  replace h:=si h; subst h
  exact ⟨.inr rfl,(b_ (!inB2)),rfl,fun _ _ _ _ h=>h,tv,fun k hk=>Qf hk⟩
 ·replace h:=bF hb3 h
  refine Rn.sk (nw rfl hb3) (Rn.sk (nw rfl hb3) (Rn.pickF (v:=(b_ false)) tv rfl hb3 rfl (md rfl (nt ((Tr.ret ?_))))))
  replace h:=si h; subst h
  exact ⟨.inr rfl,(b_ false),rfl,fun _ _ _ _ h=>h,tv,fun k hk=>Qf hk⟩
theorem Q4x {P : Program} {c : Nat} {Q0 : (List Int) → (List Int) → (Bool → Bool → Option Bool) → Option ((List Int))} {Qcw : Bool → Bool → Option Bool}
    (H_alphabet_merge : Qfy P 54 Q0)
    (H_alphabet_Minus_1 : Qj7 P 61 Qcw) (hcf : Qm P c = some Qlw) : Qlv P c (Qdk Q0 Qcw):=by
 intro a1 b2 r h
 refine Qb1 hcf rfl fun Γ M hP hnt hM=>?_
 subst hP
 refine Tr.init [(0,(l_ a1)),(1,(l_ b2))] rfl ?_
 unfold Qdk at h
 unfold Qlw
 refine sr ((Rn.movTC (v:=.nils 1) tv (nt ((sr ((md rfl (md rfl ?_))))))))
 obtain ⟨x8,h7,h⟩:=bnd h
 refine Rn.callM (args:=[(l_ a1),(l_ b2),.clo 61 []]) tv rfl (fun M2 nb2 hn hx=>H_alphabet_merge _ _ _ 61 [] _ h7 M2 nb2 rfl tv (fun a3 a4 r5 h6 M3 nb3 hn3 hx3=>H_alphabet_Minus_1 a3 a4 r5 h6 M3 nb3 )) rfl pc9 ?_
 refine Rn.movTO tv rfl (nt ((Tr.ret ?_)))
 replace h:=si h; subst h
 exact ⟨.inr rfl,(o_ x8),rfl,fun _ _ _ _ h=>h,tv,fun k hk=>Qf hk⟩
theorem Qrz {P : Program} {c : Nat} {Qcm : Qa → Int → Option ((List Int) × Int)} {Qdk : (List Int) → (List Int) → Option ((List Int))}
    (H_automaton_Enabled : Qiz P 39 Qcm)
    (H_alphabet_Minus : Qlv P 40 Qdk) (hcf : Qm P c = some Qgy) : Qgx P c (Qb3 Qcm Qdk):=by
 intro a1 state2 r h
 refine Qb1 hcf rfl fun Γ M hP hnt hM=>?_
 subst hP
 refine Tr.init [(0,(Qb a1)),(1,(i_ state2))] rfl ?_
 unfold Qb3 at h
 unfold Qgy
 refine sr ((Rn.box (v:=(Qb a1)) (cs:=(Qe a1)) tv rfl rfl rfl rfl rfl (Rn.movTC (v:=.nils 1) tv (md rfl (nt ((sr ((Rn.load (v:=(Qb a1)) tv rfl (Qj rfl) rfl rfl (md rfl ?_))))))))))
 obtain ⟨⟨r4,r5⟩,h3,h⟩:=bnd h
 refine Rn.call (args:=[(Qb a1),(i_ state2)]) tv rfl (H_automaton_Enabled _ _ _ h3) pc9 (Rn.mov (v:=.tup [(l_ r4),(i_ r5)]) tv rfl (Rn.extTD (vs:=[(l_ r4),(i_ r5)]) tv rfl rfl rfl (Rn.ext (v:=(i_ r5)) (vs:=[(l_ r4),(i_ r5)]) tv rfl rfl rfl (Rn.movTD tv rfl (md rfl (nt ((Tr.seq (sr ((md rfl (Rn.bin tv rfl rfl rfl (Rn.nil (toN ?_))))))))))))))
 refine Tr.cond rfl (fun hb6=>?_) (fun hb6=>?_)
 ·replace h:=bT hb6 h
  refine sr ((md rfl (Rn.movTC (v:=.nils 1) tv (md rfl (nt ((Tr.ret ?_)))))))
  replace h:=si h; subst h
  exact ⟨.inr rfl,.tup [.nils 1,(i_ r5)],res2 rfl rfl,(WkV.tup (.cons (WkV.nilsO _) (.cons (.same rfl) .nil))).rd,⟨tv,tv,tv⟩,fun k hk=>Qf hk⟩
 ·replace h:=bF hb6 h
  refine Tr.skip (toN (sr ((Rn.fldP (o':=0) tv rfl rfl (Rn.load (v:=(l_ a1.Alphabet)) tv rfl (Qj rfl) rfl rfl (md rfl ?_))))))
  obtain ⟨x8,h7,h⟩:=bnd h
  refine Rn.call (args:=[(l_ a1.Alphabet),(l_ r4)]) tv rfl (H_alphabet_Minus _ _ _ h7) pc9 (Rn.movTO tv rfl (md rfl (nt ((Tr.ret ?_)))))
  replace h:=si h; subst h
  exact ⟨.inr rfl,.tup [(o_ x8),(i_ 0)],res2 rfl rfl,(WkV.tup (.cons (.same rfl) (.cons (.same rfl) .nil))).rd,⟨tv,tv,tv⟩,fun k hk=>Qf hk⟩
theorem Q0o {P : Program} {c : Nat} (hcf : Qm P c = some Qj9) (fuel : Nat) : Qgo P c (Qy fuel):=by
 intro s1 s2 r h
 refine Qb1 hcf rfl fun Γ M hP hnt hM=>?_
 subst hP
 refine Tr.init [(0,(l_ s1)),(1,(l_ s2))] rfl ?_
 unfold Qy at h
 unfold Qj9
 refine sr ((md rfl (nt ((Tr.seq (sr ((md rfl (Rn.lenD tv rfl (md rfl (Rn.lenD tv rfl (Rn.bin tv rfl rfl rfl (Rn.nil (toN ?_))))))))))))))
 refine Tr.cond rfl (fun hb3=>?_) (fun hb3=>?_)
 ·replace h:=bT hb3 h
  refine sr ((md rfl (nt ((Tr.ret ?_)))))
  replace h:=si h; subst h
  exact ⟨.inr rfl,(b_ false),rfl,fun _ _ _ _ h=>h,tv,fun k hk=>Qf hk⟩
 ·replace h:=bF hb3 h
  refine Tr.skip (toN (Tr.seq (sr ((md rfl (Rn.lenD tv rfl (md rfl (nt ((Tr.block ?_))))))))))
  refine Tr.loop (mk:=fun (x4 : Int)=>⟨look [(0,(l_ s1)),(1,(l_ s2)),(12,(i_ (s1.length : Int))),(13,(i_ x4))],Qk Γ.n0 (bxs []) M,Γ.n0 + 26⟩) h (by exact Qi ⟨(sm rfl),(sm rfl),(sm rfl),(sm rfl),tv⟩ tv rfl) (fun k5 z h=>?_)
  ·obtain ⟨x4,rfl⟩ : ∃ x,x = z:=⟨_,rfl⟩
   replace h : _ = some _:=h
   refine sr ((Rn.bin tv rfl rfl rfl (nt ((Tr.seq ?_)))))
   refine Tr.cond rfl (fun hb6=>?_) (fun hb6=>?_)
   ·replace h:=ifT hb6 h
    refine Tr.skip (toN (Tr.seq (Tr.block (sr ((md rfl (md rfl (nt ((Tr.seq ?_))))))))))
    refine Tr.rgnD (by decide) ?_
    refine md rfl (md rfl ?_)
    obtain ⟨x7,h8,h⟩:=bnd h
    refine Rn.idxD (e:=(eI .i64)) tv rfl rfl h8 (Rn.loadC (x:=.int .i64 x7) tv rfl (md rfl (md rfl ?_)))
    obtain ⟨x9,h10,h⟩:=bnd h
    refine Rn.idxD (e:=(eI .i64)) tv rfl rfl h10 (Rn.loadC (x:=.int .i64 x9) tv rfl (Rn.bin tv rfl rfl rfl ?_))
    refine Rn.nil ⟨rfl,?_⟩
    refine toN ?_
    refine Tr.cond rfl (fun hb11=>?_) (fun hb11=>?_)
    ·replace h:=bT hb11 h
     refine sr ((md rfl (nt ((Tr.ret ?_)))))
     replace h:=si h; subst h
     exact ⟨.inr rfl,(b_ false),rfl,fun _ _ _ _ h=>h,tv,fun k hk=>Qf hk⟩
    ·replace h:=bF hb11 h
     refine Tr.skip (toN (Tr.rgn (Rn.bin tv rfl rfl rfl (md rfl (Rn.nil ?_)))))
     exact ⟨_,h,(by exact Qi ⟨(sm rfl),(sm rfl),(sm rfl),(sm rfl),tv⟩ tv rfl)⟩
   ·replace h:=ifF hb6 h
    refine Tr.exit (toN (sr ((md rfl (nt ((Tr.ret ?_)))))))
    replace h:=si h; subst h
    exact ⟨.inr rfl,(b_ true),rfl,fun _ _ _ _ h=>h,tv,fun k hk=>Qf hk⟩
theorem Qxs {P : Program} {c : Nat} (hcf : Qm P c = some Qi1) (fuel : Nat) : Qfp P c (Q3 fuel):=by
 intro s1 s2 r h
 refine Qb1 hcf rfl fun Γ M hP hnt hM=>?_
 subst hP
 refine Tr.init [(0,.d (.lst 3 (List.map Qc s1))),(1,.d (.lst 3 (List.map Qc s2)))] rfl ?_
 unfold Q3 at h
 unfold Qi1
 refine sr ((md rfl (nt ((Tr.seq (sr ((md rfl (Rn.lenD tv rfl (md rfl (Rn.lenD tv rfl (Rn.bin tv rfl rfl rfl (Rn.nil (toN ?_))))))))))))))
 refine Tr.cond rfl (fun hb3=>?_) (fun hb3=>?_)
 ·replace h:=bT hb3 h
  refine sr ((md rfl (nt ((Tr.ret ?_)))))
  replace h:=si h; subst h
  exact ⟨.inr rfl,(b_ false),rfl,fun _ _ _ _ h=>h,tv,fun k hk=>Qf hk⟩
 ·replace h:=bF hb3 h
  refine Tr.skip (toN (Tr.seq (sr ((md rfl (Rn.lenD tv rfl (md rfl (nt ((Tr.block ?_))))))))))
  refine Tr.loop (mk:=fun (x4 : Int)=>⟨look [(0,.d (.lst 3 (List.map Qc s1))),(1,.d (.lst 3 (List.map Qc s2))),(12,(i_ (s1.length : Int))),(13,(i_ x4))],Qk Γ.n0 (bxs []) M,Γ.n0 + 26⟩) h (by exact Qi ⟨(sm rfl),(sm rfl),(sm rfl),(sm rfl),tv⟩ tv rfl) (fun k5 z h=>?_)
  ·obtain ⟨x4,rfl⟩ : ∃ x,x = z:=⟨_,rfl⟩
   replace h : _ = some _:=h
   refine sr ((Rn.bin tv rfl rfl rfl (nt ((Tr.seq ?_)))))
   refine Tr.cond rfl (fun hb6=>?_) (fun hb6=>?_)
   ·replace h:=ifT hb6 h
    refine Tr.skip (toN (Tr.seq (Tr.block (sr ((md rfl (md rfl (nt ((Tr.seq ?_))))))))))
    refine Tr.rgnD (by decide) ?_
    refine md rfl (md rfl ?_)
    obtain ⟨x7,h8,h⟩:=bnd h
    refine Rn.idxD (e:=Qc) tv rfl rfl h8 (Rn.loadCA (vs:=(Qbk x7)) tv rfl rfl rfl (md rfl (md rfl ?_)))
    obtain ⟨x9,h10,h⟩:=bnd h
    refine Rn.idxD (e:=Qc) tv rfl rfl h10 (Rn.loadCA (vs:=(Qbk x9)) tv rfl rfl rfl (Rn.eqa (r:=((x7.From == x9.From) && ((x7.Event == x9.Event) && ((x7.To == x9.To) && true)))) tv rfl rfl rfl ?_))
    refine Rn.nil ⟨rfl,?_⟩
    refine toN ?_
    refine Tr.cond rfl (fun hb11=>?_) (fun hb11=>?_)
    ·have hb11:=nT' hb11
     replace h:=bF hb11 h
     refine sr ((md rfl (nt ((Tr.ret ?_)))))
     replace h:=si h; subst h
     exact ⟨.inr rfl,(b_ false),rfl,fun _ _ _ _ h=>h,tv,fun k hk=>Qf hk⟩
    ·have hb11:=nF' hb11
     replace h:=bT hb11 h
     refine Tr.skip (toN (Tr.rgn (Rn.bin tv rfl rfl rfl (md rfl (Rn.nil ?_)))))
     exact ⟨_,h,(by exact Qi ⟨(sm rfl),(sm rfl),(sm rfl),(sm rfl),tv⟩ tv rfl)⟩
   ·replace h:=ifF hb6 h
    refine Tr.exit (toN (sr ((md rfl (nt ((Tr.ret ?_)))))))
    replace h:=si h; subst h
    exact ⟨.inr rfl,(b_ true),rfl,fun _ _ _ _ h=>h,tv,fun k hk=>Qf hk⟩
theorem Qr0 {P : Program} {c : Nat} {Qbm : (List Int) → Option (Qa × Int)} {Qcc : (List Int) → (List Int) → Int → Option (Qa × Int)} {Qcd : (List Qu) → Int → Option (Qa × Int)} {Qb3 : Qa → Int → Option ((List Int) × Int)} {Qy : (List Int) → (List Int) → Option Bool} {Q3 : (List Qd) → (List Qd) → Option Bool}
    (H_requirement_Alternate : Qfm P 15 Qbm)
    (H_requirement_Buffer : Qhs P 16 Qcc)
    (H_requirement_AtMost : Qhu P 17 Qcd)
    (H_requirement_Refused : Qgx P 18 Qb3)
    (H_slices_Equal_int : Qgo P 19 Qy)
    (H_slices_Equal_Edge : Qfp P 20 Q3) (hcf : Qm P c = some Qg0) : Qgz P c (Qbo Qbm Qcc Qcd Qb3 Qy Q3):=by
 intro  r h
 refine Qb1 hcf rfl fun Γ M hP hnt hM=>?_
 subst hP
 refine Tr.init [] rfl ?_
 unfold Qbo at h
 unfold Qg0
 refine sr ((md rfl (nt ((sr ((Rn.bslice (xs:=[(i_ 3),(i_ 1)]) (cs:=[(i_ 3),(i_ 1)]) tv rfl rfl rfl rfl ?_)))))))
 refine Rn.weak (by show WeakSt Γ _ ⟨look [(0,(b_ false)),(10,(l_ [3,1]))],Qk Γ.n0 (bxs []) M,Γ.n0 + 75⟩; exact Qgu 10 [.int .i64 3,.int .i64 1] rfl rfl ⟨(.same rfl),(fSl rfl rfl),tv⟩ tv rfl) ?_
 obtain ⟨⟨r2,r3⟩,h1,h⟩:=bnd h
 refine Rn.call (args:=[(l_ [3,1])]) tv rfl (H_requirement_Alternate _ _ h1) pc9 (Rn.mov (v:=.tup [(Qb r2),(i_ r3)]) tv rfl (Rn.ext (v:=(Qb r2)) (vs:=[(Qb r2),(i_ r3)]) tv rfl rfl rfl (Rn.ext (v:=(i_ r3)) (vs:=[(Qb r2),(i_ r3)]) tv rfl rfl rfl (Rn.alloc tv rfl (Rn.storeT (v:=(Qb r2)) (ds:=(Qe r2)) (cs':=(Qe r2)) tv rfl rfl rfl rfl rfl rfl rfl (md rfl (nt ((sr ((Rn.bslice (xs:=[(i_ 0)]) (cs:=[(i_ 0)]) tv rfl rfl rfl rfl (Rn.bslice (xs:=[(i_ 1)]) (cs:=[(i_ 1)]) tv rfl rfl rfl rfl ?_))))))))))))
 refine Rn.weak (by show WeakSt Γ _ ⟨look [(0,(b_ false)),(1,.ptr (Γ.n0 + 1) 0),(2,(i_ r3)),(9,.tup [(Qb r2),(i_ r3)]),(10,(l_ [3,1])),(11,.tup [(Qb r2),(i_ r3)]),(12,(Qb r2)),(13,(i_ r3)),(15,(l_ [0])),(16,.sl 1 (Γ.n0 + 16) 0 1 1)],Qk Γ.n0 (bxs [(1,.cells ((Qe r2))),(16,.cells ([(i_ 1)]))]) M,Γ.n0 + 75⟩; exact Qgu 15 [.int .i64 0] rfl rfl ⟨(.same rfl),(fPtr rfl),(.same rfl),(.same rfl),(.same rfl),(.same rfl),(.same rfl),(.same rfl),(fSl rfl rfl),(fSlO rfl),tv⟩ ⟨⟨_,rfl,rfl,(.same rfl)⟩,⟨_,rfl,rfl,(.same rfl)⟩,tv⟩ rfl) ?_
 refine Rn.weak (by show WeakSt Γ _ ⟨look [(0,(b_ false)),(1,.ptr (Γ.n0 + 1) 0),(2,(i_ r3)),(9,.tup [(Qb r2),(i_ r3)]),(10,(l_ [3,1])),(11,.tup [(Qb r2),(i_ r3)]),(12,(Qb r2)),(13,(i_ r3)),(15,(l_ [0])),(16,(l_ [1]))],Qk Γ.n0 (bxs [(1,.cells ((Qe r2)))]) M,Γ.n0 + 75⟩; exact Qgu 16 [.int .i64 1] rfl rfl ⟨(.same rfl),(fPtr rfl),(.same rfl),(.same rfl),(.same rfl),(.same rfl),(.same rfl),(.same rfl),(.same rfl),(fSl rfl rfl),tv⟩ ⟨⟨_,rfl,rfl,(.same rfl)⟩,tv⟩ rfl) ?_
 obtain ⟨⟨r5,r6⟩,h4,h⟩:=bnd h
 refine Rn.call (args:=[(l_ [0]),(l_ [1]),(i_ 2)]) tv rfl (H_requirement_Buffer _ _ _ _ h4) pc9 (Rn.mov (v:=.tup [(Qb r5),(i_ r6)]) tv rfl (Rn.ext (v:=(Qb r5)) (vs:=[(Qb r5),(i_ r6)]) tv rfl rfl rfl (Rn.ext (v:=(i_ r6)) (vs:=[(Qb r5),(i_ r6)]) tv rfl rfl rfl (Rn.alloc tv rfl (Rn.storeT (v:=(Qb r5)) (ds:=(Qe r5)) (cs':=(Qe r5)) tv rfl rfl rfl rfl rfl rfl rfl (md rfl (nt ((sr ((Rn.build (v:=.agg [(i_ 0),(i_ 1)]) tv rfl (Rn.build (v:=.agg [(i_ 2),(i_ 3)]) tv rfl (Rn.bslice (xs:=[.agg [(i_ 0),(i_ 1)],.agg [(i_ 2),(i_ 3)]]) (cs:=[(i_ 0),(i_ 1),(i_ 2),(i_ 3)]) tv rfl rfl rfl rfl ?_)))))))))))))
 refine Rn.weak (by show WeakSt Γ _ ⟨look [(0,(b_ false)),(1,.ptr (Γ.n0 + 1) 0),(2,(i_ r3)),(3,.ptr (Γ.n0 + 3) 0),(4,(i_ r6)),(9,.tup [(Qb r2),(i_ r3)]),(10,(l_ [3,1])),(11,.tup [(Qb r2),(i_ r3)]),(12,(Qb r2)),(13,(i_ r3)),(14,.tup [(Qb r5),(i_ r6)]),(15,(l_ [0])),(16,(l_ [1])),(17,.tup [(Qb r5),(i_ r6)]),(18,(Qb r5)),(19,(i_ r6)),(21,.agg [(i_ 0),(i_ 1)]),(22,.agg [(i_ 2),(i_ 3)]),(23,.d (.lst 2 (List.map Qbe [(Qu.mk 0 1),(Qu.mk 2 3)])))],Qk Γ.n0 (bxs [(1,.cells ((Qe r2))),(3,.cells ((Qe r5)))]) M,Γ.n0 + 75⟩; exact Qgu 23 [.int .i64 0,.int .i64 1,.int .i64 2,.int .i64 3] rfl rfl ⟨(.same rfl),(fPtr rfl),(.same rfl),(fPtr rfl),(.same rfl),(.same rfl),(.same rfl),(.same rfl),(.same rfl),(.same rfl),(.same rfl),(.same rfl),(.same rfl),(.same rfl),(.same rfl),(.same rfl),(.same rfl),(.same rfl),(fSl rfl rfl),tv⟩ ⟨⟨_,rfl,rfl,(.same rfl)⟩,⟨_,rfl,rfl,(.same rfl)⟩,tv⟩ rfl) ?_
 obtain ⟨⟨r8,r9⟩,h7,h⟩:=bnd h
 refine Rn.call (args:=[.d (.lst 2 (List.map Qbe [(Qu.mk 0 1),(Qu.mk 2 3)])),(i_ 1)]) tv rfl (H_requirement_AtMost _ _ _ h7) pc9 (Rn.mov (v:=.tup [(Qb r8),(i_ r9)]) tv rfl (Rn.ext (v:=(Qb r8)) (vs:=[(Qb r8),(i_ r9)]) tv rfl rfl rfl (Rn.ext (v:=(i_ r9)) (vs:=[(Qb r8),(i_ r9)]) tv rfl rfl rfl (Rn.alloc tv rfl (Rn.storeT (v:=(Qb r8)) (ds:=(Qe r8)) (cs':=(Qe r8)) tv rfl rfl rfl rfl rfl rfl rfl (md rfl (nt ((sr ((Rn.load (v:=(Qb r8)) tv rfl (Qj rfl) rfl rfl ?_)))))))))))
 obtain ⟨⟨r11,r12⟩,h10,h⟩:=bnd h
 refine Rn.call (args:=[(Qb r8),(i_ 1)]) tv rfl (H_requirement_Refused _ _ _ h10) pc9 (Rn.mov (v:=.tup [(l_ r11),(i_ r12)]) tv rfl (Rn.extTD (vs:=[(l_ r11),(i_ r12)]) tv rfl rfl rfl (Rn.ext (v:=(i_ r12)) (vs:=[(l_ r11),(i_ r12)]) tv rfl rfl rfl (Rn.movTD tv rfl (md rfl (Rn.nil (toN ?_)))))))
 refine Tr.cutB (fun (x27 : Bool)=>⟨look [(0,(b_ x27))],Qk Γ.n0 (bxs [(1,.cells ((Qe r2))),(3,.cells ((Qe r5))),(5,.cells ((Qe r8)))]) M,Γ.n0 + 75⟩) h (fun z h=>?_) (fun z h=>?_)
 ·refine Tr.rgn (md rfl (Rn.bin tv rfl rfl rfl (md rfl ?_)))
  refine Qck (r3 == 0) (fun hb13=>?_) (fun hb13=>?_)
  ·replace h:=bT hb13 h
   refine Rn.movD (gw rfl hb13) rfl (Rn.bin (gw rfl hb13) rfl rfl rfl (Rn.pickT (v:=(b_ (r6 == 0))) tv rfl hb13 rfl (md rfl ?_)))
   refine Qck (r6 == 0) (fun hb14=>?_) (fun hb14=>?_)
   ·replace h:=bT hb14 h
    refine Rn.movD (gw rfl hb14) rfl (Rn.bin (gw rfl hb14) rfl rfl rfl (Rn.pickT (v:=(b_ (r9 == 0))) tv rfl hb14 rfl (md rfl ?_)))
    refine Qck (r9 == 0) (fun hb15=>?_) (fun hb15=>?_)
    ·replace h:=bT hb15 h
     refine Rn.movD (gw rfl hb15) rfl (Rn.bin (gw rfl hb15) rfl rfl rfl (Rn.pickT (v:=(b_ (r12 == 0))) tv rfl hb15 rfl (md rfl ?_)))
     refine Qck (r12 == 0) (fun hb16=>?_) (fun hb16=>?_)
     ·replace h:=bT hb16 h
      refine Rn.fldP (o':=0) (gw rfl hb16) rfl rfl (Rn.load (v:=(l_ r2.Alphabet)) (gw rfl hb16) rfl (Qj rfl) rfl rfl (Rn.bslice (xs:=[(i_ 1),(i_ 3)]) (cs:=[(i_ 1),(i_ 3)]) (gw rfl hb16) rfl rfl rfl rfl ?_))
      refine Rn.weak (by show WeakSt Γ _ ⟨look [(0,(b_ false)),(1,.ptr (Γ.n0 + 1) 0),(2,(i_ r3)),(3,.ptr (Γ.n0 + 3) 0),(4,(i_ r6)),(5,.ptr (Γ.n0 + 5) 0),(6,(i_ r9)),(7,(l_ r11)),(8,(i_ r12)),(9,.tup [(Qb r2),(i_ r3)]),(10,(l_ [3,1])),(11,.tup [(Qb r2),(i_ r3)]),(12,(Qb r2)),(13,(i_ r3)),(14,.tup [(Qb r5),(i_ r6)]),(15,(l_ [0])),(16,(l_ [1])),(17,.tup [(Qb r5),(i_ r6)]),(18,(Qb r5)),(19,(i_ r6)),(20,.tup [(Qb r8),(i_ r9)]),(21,.agg [(i_ 0),(i_ 1)]),(22,.agg [(i_ 2),(i_ 3)]),(23,.d (.lst 2 (List.map Qbe [(Qu.mk 0 1),(Qu.mk 2 3)]))),(24,.tup [(Qb r8),(i_ r9)]),(25,(Qb r8)),(26,(i_ r9)),(27,.tup [(l_ r11),(i_ r12)]),(28,(Qb r8)),(29,.tup [(o_ r11),(i_ r12)]),(30,(l_ r11)),(31,(i_ r12)),(32,(i_ r3)),(33,(b_ (r3 == 0))),(34,(b_ (r3 == 0))),(35,(i_ r6)),(36,(b_ (r6 == 0))),(37,(b_ (r6 == 0))),(38,(b_ (r6 == 0))),(39,(i_ r9)),(40,(b_ (r9 == 0))),(41,(b_ (r9 == 0))),(42,(b_ (r9 == 0))),(43,(i_ r12)),(44,(b_ (r12 == 0))),(45,(b_ (r12 == 0))),(46,(b_ (r12 == 0))),(47,.ptr (Γ.n0 + 1) 0),(48,(l_ r2.Alphabet)),(49,(l_ [1,3]))],Qk Γ.n0 (bxs [(1,.cells ((Qe r2))),(3,.cells ((Qe r5))),(5,.cells ((Qe r8)))]) M,Γ.n0 + 75⟩; exact Qgu 49 [.int .i64 1,.int .i64 3] rfl rfl ⟨(.same rfl),(fPtr rfl),(.same rfl),(fPtr rfl),(.same rfl),(fPtr rfl),(.same rfl),(.same rfl),(.same rfl),(.same rfl),(.same rfl),(.same rfl),(.same rfl),(.same rfl),(.same rfl),(.same rfl),(.same rfl),(.same rfl),(.same rfl),(.same rfl),(.same rfl),(.same rfl),(.same rfl),(.same rfl),(.same rfl),(.same rfl),(.same rfl),(.same rfl),(.same rfl),(.same rfl),(.same rfl),(.same rfl),(.same rfl),(.same rfl),(.same rfl),(.same rfl),(.same rfl),(.same rfl),(.same rfl),(.same rfl),(.same rfl),(.same rfl),(.same rfl),(.same rfl),(.same rfl),(.same rfl),(.same rfl),(fPtr rfl),(.same rfl),(fSl rfl rfl),tv⟩ ⟨⟨_,rfl,rfl,(.same rfl)⟩,⟨_,rfl,rfl,(.same rfl)⟩,⟨_,rfl,rfl,(.same rfl)⟩,tv⟩ rfl) ?_
      obtain ⟨x18,h17,h⟩:=bnd h
      refine Rn.call (args:=[(l_ r2.Alphabet),(l_ [1,3])]) (gw rfl hb16) rfl (H_slices_Equal_int _ _ _ h17) pc9 (Rn.pickT (v:=(b_ x18)) tv rfl hb16 rfl (md rfl ?_))
      refine Qck x18 (fun hb19=>?_) (fun hb19=>?_)
      ·replace h:=bT hb19 h
       refine Rn.fldP (o':=3) (gw rfl hb19) rfl rfl (Rn.load (v:=.d (.lst 3 (List.map Qc r2.Edges))) (gw rfl hb19) rfl (Qj rfl) rfl rfl (Rn.build (v:=.agg [(i_ 0),(i_ 3),(i_ 1)]) (gw rfl hb19) rfl (Rn.build (v:=.agg [(i_ 1),(i_ 1),(i_ 0)]) (gw rfl hb19) rfl (Rn.bslice (xs:=[.agg [(i_ 0),(i_ 3),(i_ 1)],.agg [(i_ 1),(i_ 1),(i_ 0)]]) (cs:=[(i_ 0),(i_ 3),(i_ 1),(i_ 1),(i_ 1),(i_ 0)]) (gw rfl hb19) rfl rfl rfl rfl ?_))))
       refine Rn.weak (by show WeakSt Γ _ ⟨look [(0,(b_ false)),(1,.ptr (Γ.n0 + 1) 0),(2,(i_ r3)),(3,.ptr (Γ.n0 + 3) 0),(4,(i_ r6)),(5,.ptr (Γ.n0 + 5) 0),(6,(i_ r9)),(7,(l_ r11)),(8,(i_ r12)),(9,.tup [(Qb r2),(i_ r3)]),(10,(l_ [3,1])),(11,.tup [(Qb r2),(i_ r3)]),(12,(Qb r2)),(13,(i_ r3)),(14,.tup [(Qb r5),(i_ r6)]),(15,(l_ [0])),(16,(l_ [1])),(17,.tup [(Qb r5),(i_ r6)]),(18,(Qb r5)),(19,(i_ r6)),(20,.tup [(Qb r8),(i_ r9)]),(21,.agg [(i_ 0),(i_ 1)]),(22,.agg [(i_ 2),(i_ 3)]),(23,.d (.lst 2 (List.map Qbe [(Qu.mk 0 1),(Qu.mk 2 3)]))),(24,.tup [(Qb r8),(i_ r9)]),(25,(Qb r8)),(26,(i_ r9)),(27,.tup [(l_ r11),(i_ r12)]),(28,(Qb r8)),(29,.tup [(o_ r11),(i_ r12)]),(30,(l_ r11)),(31,(i_ r12)),(32,(i_ r3)),(33,(b_ (r3 == 0))),(34,(b_ (r3 == 0))),(35,(i_ r6)),(36,(b_ (r6 == 0))),(37,(b_ (r6 == 0))),(38,(b_ (r6 == 0))),(39,(i_ r9)),(40,(b_ (r9 == 0))),(41,(b_ (r9 == 0))),(42,(b_ (r9 == 0))),(43,(i_ r12)),(44,(b_ (r12 == 0))),(45,(b_ (r12 == 0))),(46,(b_ (r12 == 0))),(47,.ptr (Γ.n0 + 1) 0),(48,(l_ r2.Alphabet)),(49,(l_ [1,3])),(50,(b_ x18)),(51,(b_ x18)),(52,(b_ x18)),(53,.ptr (Γ.n0 + 1) 3),(54,.d (.lst 3 (List.map Qc r2.Edges))),(55,.agg [(i_ 0),(i_ 3),(i_ 1)]),(56,.agg [(i_ 1),(i_ 1),(i_ 0)]),(57,.d (.lst 3 (List.map Qc [(Qd.mk 0 3 1),(Qd.mk 1 1 0)])))],Qk Γ.n0 (bxs [(1,.cells ((Qe r2))),(3,.cells ((Qe r5))),(5,.cells ((Qe r8)))]) M,Γ.n0 + 75⟩; exact Qgu 57 [.int .i64 0,.int .i64 3,.int .i64 1,.int .i64 1,.int .i64 1,.int .i64 0] rfl rfl ⟨(.same rfl),(fPtr rfl),(.same rfl),(fPtr rfl),(.same rfl),(fPtr rfl),(.same rfl),(.same rfl),(.same rfl),(.same rfl),(.same rfl),(.same rfl),(.same rfl),(.same rfl),(.same rfl),(.same rfl),(.same rfl),(.same rfl),(.same rfl),(.same rfl),(.same rfl),(.same rfl),(.same rfl),(.same rfl),(.same rfl),(.same rfl),(.same rfl),(.same rfl),(.same rfl),(.same rfl),(.same rfl),(.same rfl),(.same rfl),(.same rfl),(.same rfl),(.same rfl),(.same rfl),(.same rfl),(.same rfl),(.same rfl),(.same rfl),(.same rfl),(.same rfl),(.same rfl),(.same rfl),(.same rfl),(.same rfl),(fPtr rfl),(.same rfl),(.same rfl),(.same rfl),(.same rfl),(.same rfl),(fPtr rfl),(.same rfl),(.same rfl),(.same rfl),(fSl rfl rfl),tv⟩ ⟨⟨_,rfl,rfl,(.same rfl)⟩,⟨_,rfl,rfl,(.same rfl)⟩,⟨_,rfl,rfl,(.same rfl)⟩,tv⟩ rfl) ?_
       obtain ⟨x21,h20,h⟩:=bnd h
       refine Rn.call (args:=[.d (.lst 3 (List.map Qc r2.Edges)),.d (.lst 3 (List.map Qc [(Qd.mk 0 3 1),(Qd.mk 1 1 0)]))]) (gw rfl hb19) rfl (H_slices_Equal_Edge _ _ _ h20) pc9 (Rn.pickT (v:=(b_ x21)) tv rfl hb19 rfl (md rfl ?_))
       refine Qck x21 (fun hb22=>?_) (fun hb22=>?_)
       ·replace h:=bT hb22 h
        refine Rn.fldP (o':=1) (gw rfl hb22) rfl rfl (Rn.load (v:=(i_ r5.States)) (gw rfl hb22) rfl (Qj rfl) rfl rfl (Rn.bin (gw rfl hb22) rfl rfl rfl (Rn.pickT (v:=(b_ (r5.States == 3))) tv rfl hb22 rfl (md rfl ?_))))
        refine Qck (r5.States == 3) (fun hb23=>?_) (fun hb23=>?_)
        ·replace h:=bT hb23 h
         refine Rn.fldP (o':=1) (gw rfl hb23) rfl rfl (Rn.load (v:=(i_ r8.States)) (gw rfl hb23) rfl (Qj rfl) rfl rfl (Rn.bin (gw rfl hb23) rfl rfl rfl (Rn.pickT (v:=(b_ (r8.States == 3))) tv rfl hb23 rfl (md rfl ?_))))
         refine Qck (r8.States == 3) (fun hb24=>?_) (fun hb24=>?_)
         ·replace h:=bT hb24 h
          refine Rn.movD (gw rfl hb24) rfl (Rn.bslice (xs:=[(i_ 0),(i_ 2),(i_ 3)]) (cs:=[(i_ 0),(i_ 2),(i_ 3)]) (gw rfl hb24) rfl rfl rfl rfl ?_)
          refine Rn.weak (by show WeakSt Γ _ ⟨look [(0,(b_ false)),(1,.ptr (Γ.n0 + 1) 0),(2,(i_ r3)),(3,.ptr (Γ.n0 + 3) 0),(4,(i_ r6)),(5,.ptr (Γ.n0 + 5) 0),(6,(i_ r9)),(7,(l_ r11)),(8,(i_ r12)),(9,.tup [(Qb r2),(i_ r3)]),(10,(l_ [3,1])),(11,.tup [(Qb r2),(i_ r3)]),(12,(Qb r2)),(13,(i_ r3)),(14,.tup [(Qb r5),(i_ r6)]),(15,(l_ [0])),(16,(l_ [1])),(17,.tup [(Qb r5),(i_ r6)]),(18,(Qb r5)),(19,(i_ r6)),(20,.tup [(Qb r8),(i_ r9)]),(21,.agg [(i_ 0),(i_ 1)]),(22,.agg [(i_ 2),(i_ 3)]),(23,.d (.lst 2 (List.map Qbe [(Qu.mk 0 1),(Qu.mk 2 3)]))),(24,.tup [(Qb r8),(i_ r9)]),(25,(Qb r8)),(26,(i_ r9)),(27,.tup [(l_ r11),(i_ r12)]),(28,(Qb r8)),(29,.tup [(o_ r11),(i_ r12)]),(30,(l_ r11)),(31,(i_ r12)),(32,(i_ r3)),(33,(b_ (r3 == 0))),(34,(b_ (r3 == 0))),(35,(i_ r6)),(36,(b_ (r6 == 0))),(37,(b_ (r6 == 0))),(38,(b_ (r6 == 0))),(39,(i_ r9)),(40,(b_ (r9 == 0))),(41,(b_ (r9 == 0))),(42,(b_ (r9 == 0))),(43,(i_ r12)),(44,(b_ (r12 == 0))),(45,(b_ (r12 == 0))),(46,(b_ (r12 == 0))),(47,.ptr (Γ.n0 + 1) 0),(48,(l_ r2.Alphabet)),(49,(l_ [1,3])),(50,(b_ x18)),(51,(b_ x18)),(52,(b_ x18)),(53,.ptr (Γ.n0 + 1) 3),(54,.d (.lst 3 (List.map Qc r2.Edges))),(55,.agg [(i_ 0),(i_ 3),(i_ 1)]),(56,.agg [(i_ 1),(i_ 1),(i_ 0)]),(57,.d (.lst 3 (List.map Qc [(Qd.mk 0 3 1),(Qd.mk 1 1 0)]))),(58,(b_ x21)),(59,(b_ x21)),(60,(b_ x21)),(61,.ptr (Γ.n0 + 3) 1),(62,(i_ r5.States)),(63,(b_ (r5.States == 3))),(64,(b_ (r5.States == 3))),(65,(b_ (r5.States == 3))),(66,.ptr (Γ.n0 + 5) 1),(67,(i_ r8.States)),(68,(b_ (r8.States == 3))),(69,(b_ (r8.States == 3))),(70,(b_ (r8.States == 3))),(71,(l_ r11)),(72,(l_ [0,2,3]))],Qk Γ.n0 (bxs [(1,.cells ((Qe r2))),(3,.cells ((Qe r5))),(5,.cells ((Qe r8)))]) M,Γ.n0 + 75⟩; exact Qgu 72 [.int .i64 0,.int .i64 2,.int .i64 3] rfl rfl ⟨(.same rfl),(fPtr rfl),(.same rfl),(fPtr rfl),(.same rfl),(fPtr rfl),(.same rfl),(.same rfl),(.same rfl),(.same rfl),(.same rfl),(.same rfl),(.same rfl),(.same rfl),(.same rfl),(.same rfl),(.same rfl),(.same rfl),(.same rfl),(.same rfl),(.same rfl),(.same rfl),(.same rfl),(.same rfl),(.same rfl),(.same rfl),(.same rfl),(.same rfl),(.same rfl),(.same rfl),(.same rfl),(.same rfl),(.same rfl),(.same rfl),(.same rfl),(.same rfl),(.same rfl),(.same rfl),(.same rfl),(.same rfl),(.same rfl),(.same rfl),(.same rfl),(.same rfl),(.same rfl),(.same rfl),(.same rfl),(fPtr rfl),(.same rfl),(.same rfl),(.same rfl),(.same rfl),(.same rfl),(fPtr rfl),(.same rfl),(.same rfl),(.same rfl),(.same rfl),(.same rfl),(.same rfl),(.same rfl),(fPtr rfl),(.same rfl),(.same rfl),(.same rfl),(.same rfl),(fPtr rfl),(.same rfl),(.same rfl),(.same rfl),(.same rfl),(.same rfl),(fSl rfl rfl),tv⟩ ⟨⟨_,rfl,rfl,(.same rfl)⟩,⟨_,rfl,rfl,(.same rfl)⟩,⟨_,rfl,rfl,(.same rfl)⟩,tv⟩ rfl) ?_
          obtain ⟨x26,h25,h⟩:=bnd h
          refine Rn.call (args:=[(l_ r11),(l_ [0,2,3])]) (gw rfl hb24) rfl (H_slices_Equal_int _ _ _ h25) pc9 (Rn.pickT (v:=(b_ x26)) tv rfl hb24 rfl (md rfl (Rn.nil ?_)))
          replace h:=si h; subst h
          exact Qg [] ⟨(sm rfl),tv⟩ ⟨⟨_,rfl,rfl,(.same rfl)⟩,⟨_,rfl,rfl,(.same rfl)⟩,⟨_,rfl,rfl,(.same rfl)⟩,tv⟩ rfl
         ·replace h:=bF hb24 h
          refine Rn.sk (nw rfl hb24) (Rn.sk (nw rfl hb24) (Rn.sk (nw rfl hb24) (Rn.pickF (v:=(b_ false)) tv rfl hb24 rfl (md rfl (Rn.nil ?_)))))
          replace h:=si h; subst h
          exact Qg [] ⟨(sm rfl),tv⟩ ⟨⟨_,rfl,rfl,(.same rfl)⟩,⟨_,rfl,rfl,(.same rfl)⟩,⟨_,rfl,rfl,(.same rfl)⟩,tv⟩ rfl
        ·replace h:=bF hb23 h
         refine Rn.sk (nw rfl hb23) (Rn.sk (nw rfl hb23) (Rn.sk (nw rfl hb23) (Rn.pickF (v:=(b_ false)) tv rfl hb23 rfl (md rfl (Rn.sk (nw (b:=false) rfl rfl) (Rn.sk (nw (b:=false) rfl rfl) (Rn.sk (nw (b:=false) rfl rfl) (Rn.pickF (v:=(b_ false)) tv rfl rfl rfl (md rfl (Rn.nil ?_))))))))))
         replace h:=si h; subst h
         exact Qg [] ⟨(sm rfl),tv⟩ ⟨⟨_,rfl,rfl,(.same rfl)⟩,⟨_,rfl,rfl,(.same rfl)⟩,⟨_,rfl,rfl,(.same rfl)⟩,tv⟩ rfl
       ·replace h:=bF hb22 h
        refine Rn.sk (nw rfl hb22) (Rn.sk (nw rfl hb22) (Rn.sk (nw rfl hb22) (Rn.pickF (v:=(b_ false)) tv rfl hb22 rfl (md rfl (Rn.sk (nw (b:=false) rfl rfl) (Rn.sk (nw (b:=false) rfl rfl) (Rn.sk (nw (b:=false) rfl rfl) (Rn.pickF (v:=(b_ false)) tv rfl rfl rfl (md rfl (Rn.sk (nw (b:=false) rfl rfl) (Rn.sk (nw (b:=false) rfl rfl) (Rn.sk (nw (b:=false) rfl rfl) (Rn.pickF (v:=(b_ false)) tv rfl rfl rfl (md rfl (Rn.nil ?_)))))))))))))))
        replace h:=si h; subst h
        exact Qg [] ⟨(sm rfl),tv⟩ ⟨⟨_,rfl,rfl,(.same rfl)⟩,⟨_,rfl,rfl,(.same rfl)⟩,⟨_,rfl,rfl,(.same rfl)⟩,tv⟩ rfl
      ·replace h:=bF hb19 h
       refine Rn.sk (nw rfl hb19) (Rn.sk (nw rfl hb19) (Rn.sk (nw rfl hb19) (Rn.sk (nw rfl hb19) (Rn.sk (nw rfl hb19) (Rn.sk (nw rfl hb19) (Rn.pickF (v:=(b_ false)) tv rfl hb19 rfl (md rfl (Rn.sk (nw (b:=false) rfl rfl) (Rn.sk (nw (b:=false) rfl rfl) (Rn.sk (nw (b:=false) rfl rfl) (Rn.pickF (v:=(b_ false)) tv rfl rfl rfl (md rfl (Rn.sk (nw (b:=false) rfl rfl) (Rn.sk (nw (b:=false) rfl rfl) (Rn.sk (nw (b:=false) rfl rfl) (Rn.pickF (v:=(b_ false)) tv rfl rfl rfl (md rfl (Rn.sk (nw (b:=false) rfl rfl) (Rn.sk (nw (b:=false) rfl rfl) (Rn.sk (nw (b:=false) rfl rfl) (Rn.pickF (v:=(b_ false)) tv rfl rfl rfl (md rfl (Rn.nil ?_)))))))))))))))))))))))
       replace h:=si h; subst h
       exact Qg [] ⟨(sm rfl),tv⟩ ⟨⟨_,rfl,rfl,(.same rfl)⟩,⟨_,rfl,rfl,(.same rfl)⟩,⟨_,rfl,rfl,(.same rfl)⟩,tv⟩ rfl
     ·replace h:=bF hb16 h
      refine Rn.sk (nw rfl hb16) (Rn.sk (nw rfl hb16) (Rn.sk (nw rfl hb16) (Rn.sk (nw rfl hb16) (Rn.pickF (v:=(b_ false)) tv rfl hb16 rfl (md rfl (Rn.sk (nw (b:=false) rfl rfl) (Rn.sk (nw (b:=false) rfl rfl) (Rn.sk (nw (b:=false) rfl rfl) (Rn.sk (nw (b:=false) rfl rfl) (Rn.sk (nw (b:=false) rfl rfl) (Rn.sk (nw (b:=false) rfl rfl) (Rn.pickF (v:=(b_ false)) tv rfl rfl rfl (md rfl (Rn.sk (nw (b:=false) rfl rfl) (Rn.sk (nw (b:=false) rfl rfl) (Rn.sk (nw (b:=false) rfl rfl) (Rn.pickF (v:=(b_ false)) tv rfl rfl rfl (md rfl (Rn.sk (nw (b:=false) rfl rfl) (Rn.sk (nw (b:=false) rfl rfl) (Rn.sk (nw (b:=false) rfl rfl) (Rn.pickF (v:=(b_ false)) tv rfl rfl rfl (md rfl (Rn.sk (nw (b:=false) rfl rfl) (Rn.sk (nw (b:=false) rfl rfl) (Rn.sk (nw (b:=false) rfl rfl) (Rn.pickF (v:=(b_ false)) tv rfl rfl rfl (md rfl (Rn.nil ?_)))))))))))))))))))))))))))))
      replace h:=si h; subst h
      exact Qg [] ⟨(sm rfl),tv⟩ ⟨⟨_,rfl,rfl,(.same rfl)⟩,⟨_,rfl,rfl,(.same rfl)⟩,⟨_,rfl,rfl,(.same rfl)⟩,tv⟩ rfl
    ·replace h:=bF hb15 h
     refine Rn.sk (nw rfl hb15) (Rn.sk (nw rfl hb15) (Rn.pickF (v:=(b_ false)) tv rfl hb15 rfl (md rfl (Rn.sk (nw (b:=false) rfl rfl) (Rn.sk (nw (b:=false) rfl rfl) (Rn.sk (nw (b:=false) rfl rfl) (Rn.sk (nw (b:=false) rfl rfl) (Rn.pickF (v:=(b_ false)) tv rfl rfl rfl (md rfl (Rn.sk (nw (b:=false) rfl rfl) (Rn.sk (nw (b:=false) rfl rfl) (Rn.sk (nw (b:=false) rfl rfl) (Rn.sk (nw (b:=false) rfl rfl) (Rn.sk (nw (b:=false) rfl rfl) (Rn.sk (nw (b:=false) rfl rfl) (Rn.pickF (v:=(b_ false)) tv rfl rfl rfl (md rfl (Rn.sk (nw (b:=false) rfl rfl) (Rn.sk (nw (b:=false) rfl rfl) (Rn.sk (nw (b:=false) rfl rfl) (Rn.pickF (v:=(b_ false)) tv rfl rfl rfl (md rfl (Rn.sk (nw (b:=false) rfl rfl) (Rn.sk (nw (b:=false) rfl rfl) (Rn.sk (nw (b:=false) rfl rfl) (Rn.pickF (v:=(b_ false)) tv rfl rfl rfl (md rfl (Rn.sk (nw (b:=false) rfl rfl) (Rn.sk (nw (b:=false) rfl rfl) (Rn.sk (nw (b:=false) rfl rfl) (Rn.pickF (v:=(b_ false)) tv rfl rfl rfl (md rfl (Rn.nil ?_)))))))))))))))))))))))))))))))))
     replace h:=si h; subst h
     exact Qg [] ⟨(sm rfl),tv⟩ ⟨⟨_,rfl,rfl,(.same rfl)⟩,⟨_,rfl,rfl,(.same rfl)⟩,⟨_,rfl,rfl,(.same rfl)⟩,tv⟩ rfl
   ·replace h:=bF hb14 h
    refine Rn.sk (nw rfl hb14) (Rn.sk (nw rfl hb14) (Rn.pickF (v:=(b_ false)) tv rfl hb14 rfl (md rfl (Rn.sk (nw (b:=false) rfl rfl) (Rn.sk (nw (b:=false) rfl rfl) (Rn.pickF (v:=(b_ false)) tv rfl rfl rfl (md rfl (Rn.sk (nw (b:=false) rfl rfl) (Rn.sk (nw (b:=false) rfl rfl) (Rn.sk (nw (b:=false) rfl rfl) (Rn.sk (nw (b:=false) rfl rfl) (Rn.pickF (v:=(b_ false)) tv rfl rfl rfl (md rfl (Rn.sk (nw (b:=false) rfl rfl) (Rn.sk (nw (b:=false) rfl rfl) (Rn.sk (nw (b:=false) rfl rfl) (Rn.sk (nw (b:=false) rfl rfl) (Rn.sk (nw (b:=false) rfl rfl) (Rn.sk (nw (b:=false) rfl rfl) (Rn.pickF (v:=(b_ false)) tv rfl rfl rfl (md rfl (Rn.sk (nw (b:=false) rfl rfl) (Rn.sk (nw (b:=false) rfl rfl) (Rn.sk (nw (b:=false) rfl rfl) (Rn.pickF (v:=(b_ false)) tv rfl rfl rfl (md rfl (Rn.sk (nw (b:=false) rfl rfl) (Rn.sk (nw (b:=false) rfl rfl) (Rn.sk (nw (b:=false) rfl rfl) (Rn.pickF (v:=(b_ false)) tv rfl rfl rfl (md rfl (Rn.sk (nw (b:=false) rfl rfl) (Rn.sk (nw (b:=false) rfl rfl) (Rn.sk (nw (b:=false) rfl rfl) (Rn.pickF (v:=(b_ false)) tv rfl rfl rfl (md rfl (Rn.nil ?_)))))))))))))))))))))))))))))))))))))
    replace h:=si h; subst h
    exact Qg [] ⟨(sm rfl),tv⟩ ⟨⟨_,rfl,rfl,(.same rfl)⟩,⟨_,rfl,rfl,(.same rfl)⟩,⟨_,rfl,rfl,(.same rfl)⟩,tv⟩ rfl
  ·replace h:=bF hb13 h
   refine Rn.sk (nw rfl hb13) (Rn.sk (nw rfl hb13) (Rn.pickF (v:=(b_ false)) tv rfl hb13 rfl (md rfl (Rn.sk (nw (b:=false) rfl rfl) (Rn.sk (nw (b:=false) rfl rfl) (Rn.pickF (v:=(b_ false)) tv rfl rfl rfl (md rfl (Rn.sk (nw (b:=false) rfl rfl) (Rn.sk (nw (b:=false) rfl rfl) (Rn.pickF (v:=(b_ false)) tv rfl rfl rfl (md rfl (Rn.sk (nw (b:=false) rfl rfl) (Rn.sk (nw (b:=false) rfl rfl) (Rn.sk (nw (b:=false) rfl rfl) (Rn.sk (nw (b:=false) rfl rfl) (Rn.pickF (v:=(b_ false)) tv rfl rfl rfl (md rfl (Rn.sk (nw (b:=false) rfl rfl) (Rn.sk (nw (b:=false) rfl rfl) (Rn.sk (nw (b:=false) rfl rfl) (Rn.sk (nw (b:=false) rfl rfl) (Rn.sk (nw (b:=false) rfl rfl) (Rn.sk (nw (b:=false) rfl rfl) (Rn.pickF (v:=(b_ false)) tv rfl rfl rfl (md rfl (Rn.sk (nw (b:=false) rfl rfl) (Rn.sk (nw (b:=false) rfl rfl) (Rn.sk (nw (b:=false) rfl rfl) (Rn.pickF (v:=(b_ false)) tv rfl rfl rfl (md rfl (Rn.sk (nw (b:=false) rfl rfl) (Rn.sk (nw (b:=false) rfl rfl) (Rn.sk (nw (b:=false) rfl rfl) (Rn.pickF (v:=(b_ false)) tv rfl rfl rfl (md rfl (Rn.sk (nw (b:=false) rfl rfl) (Rn.sk (nw (b:=false) rfl rfl) (Rn.sk (nw (b:=false) rfl rfl) (Rn.pickF (v:=(b_ false)) tv rfl rfl rfl ?_)))))))))))))))))))))))))))))))))))))))
   refine md rfl (Rn.nil ?_)
   replace h:=si h; subst h
   exact Qg [] ⟨(sm rfl),tv⟩ ⟨⟨_,rfl,rfl,(.same rfl)⟩,⟨_,rfl,rfl,(.same rfl)⟩,⟨_,rfl,rfl,(.same rfl)⟩,tv⟩ rfl
 ·obtain ⟨x27,rfl⟩ : ∃ x,x = z:=⟨_,rfl⟩
  refine Tr.ret ?_
  replace h:=si h; subst h
  exact ⟨.inr rfl,(b_ x27),rfl,fun _ _ _ _ h=>h,tv,fun k hk=>Qf hk⟩
theorem Qlx {P : Program} {c : Nat} (hcf : Qm P c = some Qen) (fuel : Nat) : Qem P c (Qba fuel):=by
 intro s1 r h
 refine Qb1 hcf rfl fun Γ M hP hnt hM=>?_
 subst hP
 refine Tr.init [(0,.d (.int .u8 s1))] rfl ?_
 unfold Qba at h
 unfold Qen
 refine sr ((Rn.movTC (v:=.nils 1) tv (nt ((sr ((Rn.movTC (v:=.nils 1) tv (Rn.nil (toN ?_)))))))))
 refine Tr.cutB (fun (out12 : List Int)=>⟨look [(3,(o_ out12))],Qk Γ.n0 (bxs []) M,Γ.n0 + 19⟩) h (fun z h=>?_) (fun z h=>?_)
 ·refine sr ((md rfl (nt ((Tr.block ?_)))))
  refine Tr.loop (mk:=fun ((out2,i3) : (List Int) × Int)=>⟨look [(0,.d (.int .u8 s1)),(3,(o_ out2)),(4,(i_ i3))],Qk Γ.n0 (bxs []) M,Γ.n0 + 19⟩) h (by exact Qi ⟨(sm rfl),(WkV.nilsO _),(sm rfl),tv⟩ tv rfl) (fun k4 z h=>?_)
  ·obtain ⟨out2,i3⟩:=z
   replace h : _ = some _:=h
   refine Tr.seq (sr ((md rfl (Rn.bin tv rfl rfl rfl (Rn.nil (toN ?_))))))
   refine Tr.cond rfl (fun hb5=>?_) (fun hb5=>?_)
   ·replace h:=ifT hb5 h
    refine Tr.skip (toN ?_)
    refine Tr.cutB (fun (out11 : List Int)=>⟨look [(0,.d (.int .u8 s1)),(3,(o_ out11)),(4,(i_ i3))],Qk Γ.n0 (bxs []) M,Γ.n0 + 19⟩) h (fun z h=>?_) (fun z h=>?_)
    ·refine Tr.block (sr ((md rfl (md rfl ?_))))
     obtain ⟨s6,h7,h⟩:=bnd h
     refine Rn.bin tv rfl rfl (Qbir h7) (Rn.bin tv rfl rfl rfl (Rn.bin tv rfl rfl rfl (Rn.nil (toN ?_))))
     refine Tr.cond rfl (fun hb8=>?_) (fun hb8=>?_)
     ·replace h:=bT hb8 h
      refine Tr.rgn (Rn.movTO tv rfl (md rfl (Rn.bslice (xs:=[(i_ i3)]) (cs:=[(i_ i3)]) tv rfl rfl rfl rfl ?_)))
      obtain ⟨x9,h10,h⟩:=bnd h
      refine Rn.app (e:=(eI .i64)) tv rfl rfl rfl (Qdb rfl rfl rfl) h10 rfl (Rn.movTO tv rfl (Rn.nil ?_))
      replace h:=si h; subst h
      exact Qg [16] ⟨(sm rfl),(sm rfl),(sm rfl),tv⟩ tv rfl
     ·replace h:=bF hb8 h
      refine Tr.skip ?_
      replace h:=si h; subst h
      exact Qg [] ⟨(sm rfl),(sm rfl),(sm rfl),tv⟩ tv rfl
    ·obtain ⟨out11,rfl⟩ : ∃ x,x = z:=⟨_,rfl⟩
     refine Tr.rgn (md rfl (Rn.bin tv rfl rfl rfl (md rfl (Rn.nil ?_))))
     exact ⟨_,h,(by exact Qi ⟨(sm rfl),(sm rfl),(sm rfl),tv⟩ tv rfl)⟩
   ·replace h:=ifF hb5 h
    refine Tr.exit ?_
    replace h:=si h; subst h
    exact Qg [] ⟨(sm rfl),tv⟩ tv rfl
 ·obtain ⟨out12,rfl⟩ : ∃ x,x = z:=⟨_,rfl⟩
  refine sr ((Rn.movTO tv rfl (Rn.movTO tv rfl (nt ((Tr.ret ?_))))))
  replace h:=si h; subst h
  exact ⟨.inr rfl,(o_ out12),rfl,fun _ _ _ _ h=>h,tv,fun k hk=>Qf hk⟩
theorem Qr1 {P : Program} {c : Nat} (hcf : Qm P c = some Qg1) : Qep P c (Qs):=by
 intro alphabet1 r h
 refine Qb1 hcf rfl fun Γ M hP hnt hM=>?_
 subst hP
 refine Tr.init [(0,(l_ alphabet1))] rfl ?_
 unfold Qs at h
 unfold Qg1
 refine sr ((Rn.alloc tv rfl (nt ((sr ((Rn.bslice (xs:=[]) (cs:=[]) tv rfl rfl rfl rfl (md rfl ?_))))))))
 obtain ⟨x2,h3,h⟩:=bnd h
 refine Rn.app0 (e:=(eI .i64)) tv rfl rfl rfl rfl Qyn h3 rfl (Rn.buildT (v:=.agg [(o_ x2),(i_ 0),.nils 1,.nils 3]) tv rfl (Rn.storeT (v:=.agg [(o_ x2),(i_ 0),.nils 1,.nils 3]) (ds:=[(o_ x2),(i_ 0),.nils 1,.nils 3]) (cs':=[(o_ x2),(i_ 0),.nils 1,.nils 3]) tv rfl rfl rfl rfl rfl rfl rfl (nt ((Tr.ret ?_)))))
 replace h:=si h; subst h
 exact ⟨.inr rfl,(.agg [(l_ x2),(i_ 0),.nils 1,.nils 3]),Qel rfl rfl rfl rfl,fun _ _ _ _ h=>h,⟨tv,tv,tv,tv,tv⟩,fun k hk=>Qf hk⟩
theorem Qu7 {P : Program} {c : Nat} (hcf : Qm P c = some Qhy) (fuel : Nat) : Qe8 P c (Qz fuel):=by
 intro a1 state2 event3 r h
 refine Qb1 hcf rfl fun Γ M hP hnt hM=>?_
 subst hP
 refine Tr.init [(0,(Qb a1)),(1,(i_ state2)),(2,(i_ event3))] rfl ?_
 unfold Qz at h
 unfold Qhy
 refine sr ((Rn.box (v:=(Qb a1)) (cs:=(Qe a1)) tv rfl rfl rfl rfl rfl (md rfl (nt ((Tr.seq (sr ((md rfl (nt ((Tr.block ?_))))))))))))
 refine Tr.loop (mk:=fun (i4 : Int)=>⟨look [(1,(i_ state2)),(2,(i_ event3)),(3,.ptr (Γ.n0 + 3) 0),(7,(i_ i4))],Qk Γ.n0 (bxs [(3,.cells ((Qe a1)))]) M,Γ.n0 + 39⟩) h (by exact Qi ⟨(sm rfl),(sm rfl),(kPtr rfl),(sm rfl),tv⟩ ⟨⟨_,rfl,rfl,(.same rfl)⟩,tv⟩ rfl) (fun k5 z h=>?_)
 ·obtain ⟨i4,rfl⟩ : ∃ x,x = z:=⟨_,rfl⟩
  replace h : _ = some _:=h
  refine Tr.seq (sr ((md rfl (Rn.fldP (o':=3) tv rfl rfl (Rn.load (v:=.d (.lst 3 (List.map Qc a1.Edges))) tv rfl (Qj rfl) rfl rfl (Rn.lenD tv rfl (Rn.bin tv rfl rfl rfl (Rn.nil (toN ?_)))))))))
  refine Tr.cond rfl (fun hb6=>?_) (fun hb6=>?_)
  ·replace h:=ifT hb6 h
   refine Tr.skip (toN (Tr.seq (Tr.block ?_)))
   refine Tr.cutB (fun (x12 : Bool)=>⟨look [(1,(i_ state2)),(2,(i_ event3)),(3,.ptr (Γ.n0 + 3) 0),(7,(i_ i4)),(32,(b_ x12))],Qk Γ.n0 (bxs [(3,.cells ((Qe a1)))]) M,Γ.n0 + 39⟩) h (fun z h=>?_) (fun z h=>?_)
   ·refine Tr.rgn (Rn.fldP (o':=3) tv rfl rfl (Rn.load (v:=.d (.lst 3 (List.map Qc a1.Edges))) tv rfl (Qj rfl) rfl rfl (md rfl ?_)))
    obtain ⟨x7,h8,h⟩:=bnd h
    refine Rn.idxD (e:=Qc) tv rfl rfl h8 (Rn.fldC tv rfl (Rn.loadC (x:=.int .i64 x7.From) tv rfl (md rfl (Rn.bin tv rfl rfl rfl (md rfl ?_)))))
    refine Qck (x7.From == state2) (fun hb9=>?_) (fun hb9=>?_)
    ·replace h:=bT hb9 h
     refine Rn.fldP (o':=3) (gw rfl hb9) rfl rfl (Rn.load (v:=.d (.lst 3 (List.map Qc a1.Edges))) (gw rfl hb9) rfl (Qj rfl) rfl rfl (Rn.movD (gw rfl hb9) rfl ?_))
     obtain ⟨x10,h11,h⟩:=bnd h
     refine Rn.idxD (e:=Qc) (gw rfl hb9) rfl rfl h11 (Rn.fldC (gw rfl hb9) rfl (Rn.loadC (x:=.int .i64 x10.Event) (gw rfl hb9) rfl (Rn.movD (gw rfl hb9) rfl (Rn.bin (gw rfl hb9) rfl rfl rfl (Rn.pickT (v:=(b_ (x10.Event == event3))) tv rfl hb9 rfl (Rn.nil ?_))))))
     replace h:=si h; subst h
     exact Qg [] ⟨(sm rfl),(sm rfl),(kPtr rfl),(sm rfl),(sm rfl),tv⟩ ⟨⟨_,rfl,rfl,(.same rfl)⟩,tv⟩ rfl
    ·replace h:=bF hb9 h
     refine Rn.sk (nw rfl hb9) (Rn.sk (nw rfl hb9) (Rn.sk (nw rfl hb9) (Rn.sk (nw rfl hb9) (Rn.sk (nw rfl hb9) (Rn.sk (nw rfl hb9) (Rn.sk (nw rfl hb9) (Rn.sk (nw rfl hb9) (Rn.pickF (v:=(b_ false)) tv rfl hb9 rfl (Rn.nil ?_)))))))))
     replace h:=si h; subst h
     exact Qg [] ⟨(sm rfl),(sm rfl),(kPtr rfl),(sm rfl),(sm rfl),tv⟩ ⟨⟨_,rfl,rfl,(.same rfl)⟩,tv⟩ rfl
   ·obtain ⟨x12,rfl⟩ : ∃ x,x = z:=⟨_,rfl⟩
    refine Tr.cond rfl (fun hb13=>?_) (fun hb13=>?_)
    ·replace h:=bT hb13 h
     refine sr ((Rn.fldP (o':=3) tv rfl rfl (Rn.load (v:=.d (.lst 3 (List.map Qc a1.Edges))) tv rfl (Qj rfl) rfl rfl (md rfl ?_))))
     obtain ⟨x14,h15,h⟩:=bnd h
     refine Rn.idxD (e:=Qc) tv rfl rfl h15 (Rn.fldC tv rfl (Rn.loadC (x:=.int .i64 x14.To) tv rfl (md rfl (nt ((Tr.ret ?_))))))
     replace h:=si h; subst h
     exact ⟨.inr rfl,(i_ x14.To),rfl,fun _ _ _ _ h=>h,tv,fun k hk=>Qf hk⟩
    ·replace h:=bF hb13 h
     refine Tr.skip (toN (Tr.rgn (md rfl (Rn.bin tv rfl rfl rfl (md rfl (Rn.nil ?_))))))
     exact ⟨_,h,(by exact Qi ⟨(sm rfl),(sm rfl),(kPtr rfl),(sm rfl),tv⟩ ⟨⟨_,rfl,rfl,(.same rfl)⟩,tv⟩ rfl)⟩
  ·replace h:=ifF hb6 h
   refine Tr.exit (toN (sr ((md rfl (nt ((Tr.ret ?_)))))))
   replace h:=si h; subst h
   exact ⟨.inr rfl,(i_ (-1)),rfl,fun _ _ _ _ h=>h,tv,fun k hk=>Qf hk⟩
theorem Qxt {P : Program} {c : Nat} (hcf : Qm P c = some Qi2) (fuel : Nat) : Qfq P c (Q4 fuel):=by
 intro l1 n2 r h
 refine Qb1 hcf rfl fun Γ M hP hnt hM=>?_
 subst hP
 refine Tr.init [(0,(l_ l1)),(1,(i_ n2))] rfl ?_
 unfold Q4 at h
 unfold Qi2
 refine sr ((md rfl (nt ((Tr.seq (sr ((md rfl (nt ((Tr.block ?_)))))))))))
 refine Tr.loop (mk:=fun (i3 : Int)=>⟨look [(0,(l_ l1)),(1,(i_ n2)),(5,(i_ i3))],Qk Γ.n0 (bxs []) M,Γ.n0 + 18⟩) h (by exact Qi ⟨(sm rfl),(sm rfl),(sm rfl),tv⟩ tv rfl) (fun k4 z h=>?_)
 ·obtain ⟨i3,rfl⟩ : ∃ x,x = z:=⟨_,rfl⟩
  replace h : _ = some _:=h
  refine Tr.seq (sr ((md rfl (md rfl (Rn.lenD tv rfl (Rn.bin tv rfl rfl rfl (Rn.nil (toN ?_))))))))
  refine Tr.cond rfl (fun hb5=>?_) (fun hb5=>?_)
  ·replace h:=ifT hb5 h
   refine Tr.skip (toN (Tr.seq (Tr.block (sr ((md rfl (md rfl ?_)))))))
   obtain ⟨x6,h7,h⟩:=bnd h
   refine Rn.idxD (e:=(eI .i64)) tv rfl rfl h7 (Rn.loadC (x:=.int .i64 x6) tv rfl (md rfl (Rn.bin tv rfl rfl rfl (Rn.nil (toN ?_)))))
   refine Tr.cond rfl (fun hb8=>?_) (fun hb8=>?_)
   ·replace h:=bT hb8 h
    refine sr ((md rfl (nt ((Tr.ret ?_)))))
    replace h:=si h; subst h
    exact ⟨.inr rfl,(b_ true),rfl,fun _ _ _ _ h=>h,tv,fun k hk=>Qf hk⟩
   ·replace h:=bF hb8 h
    refine Tr.skip (toN (Tr.rgn (md rfl (Rn.bin tv rfl rfl rfl (md rfl (Rn.nil ?_))))))
    exact ⟨_,h,(by exact Qi ⟨(sm rfl),(sm rfl),(sm rfl),tv⟩ tv rfl)⟩
  ·replace h:=ifF hb5 h
   refine Tr.exit (toN (sr ((md rfl (nt ((Tr.ret ?_)))))))
   replace h:=si h; subst h
   exact ⟨.inr rfl,(b_ false),rfl,fun _ _ _ _ h=>h,tv,fun k hk=>Qf hk⟩
theorem Qr2 {P : Program} {c : Nat} {Q4 : (List Int) → Int → Option Bool} {Qz : Qa → Int → Int → Option Int}
    (H_overseerref03_has : Qfq P 42 Q4)
    (H_overseerref03_Step : Qe8 P 43 Qz) (hcf : Qm P c = some Qg3) (fuel : Nat) : Qg2 P c (Qbp Q4 Qz fuel):=by
 intro a1 r h
 refine Qb1 hcf rfl fun Γ M hP hnt hM=>?_
 subst hP
 refine Tr.init [(0,(Qb a1))] rfl ?_
 unfold Qbp at h
 unfold Qg3
 refine sr ((Rn.box (v:=(Qb a1)) (cs:=(Qe a1)) tv rfl rfl rfl rfl rfl (Rn.movTC (v:=.nils 1) tv (nt ((sr ((Rn.movTC (v:=.nils 1) tv (Rn.nil (toN ?_))))))))))
 refine Tr.cutB (fun (out5 : List Int)=>⟨look [(1,.ptr (Γ.n0 + 1) 0),(3,(o_ out5))],Qk Γ.n0 (bxs [(1,.cells ((Qe a1)))]) M,Γ.n0 + 50⟩) h (fun z h=>?_) (fun z h=>?_)
 ·refine sr ((Rn.fldP (o':=1) tv rfl rfl (Rn.load (v:=(i_ a1.States)) tv rfl (Qj rfl) rfl rfl (Rn.bin tv rfl rfl rfl (Rn.nil (toN ?_))))))
  refine Tr.cond rfl (fun hb2=>?_) (fun hb2=>?_)
  ·replace h:=ifT hb2 h
   refine Tr.rgn (Rn.movTF (v:=.nils 1) tv rfl rfl (Rn.bslice (xs:=[(i_ 0)]) (cs:=[(i_ 0)]) tv rfl rfl rfl rfl ?_))
   refine Rn.weak (by show WeakSt Γ _ ⟨look [(0,(Qb a1)),(1,.ptr (Γ.n0 + 1) 0),(2,.nils 1),(3,.nils 1),(7,.ptr (Γ.n0 + 1) 1),(8,(i_ a1.States)),(9,(b_ (decide (a1.States > 0)))),(10,.own 1 (List.map (eI .i64) [])),(11,.sl 1 (Γ.n0 + 11) 0 1 1)],Qk Γ.n0 (bxs [(1,.cells ((Qe a1))),(11,.cells ([(i_ 0)]))]) M,Γ.n0 + 50⟩; exact Qg [] ⟨(sm rfl),(kPtr rfl),(sm rfl),(sm rfl),(kPtr rfl),(sm rfl),(sm rfl),(WkV.nilsO _),(kSl rfl),tv⟩ ⟨⟨_,rfl,rfl,(.same rfl)⟩,⟨_,rfl,rfl,(.same rfl)⟩,tv⟩ rfl) ?_
   obtain ⟨x3,h4,h⟩:=bnd h
   refine Rn.app (e:=(eI .i64)) tv rfl rfl rfl (Qdb rfl rfl rfl) h4 rfl (Rn.movTO tv rfl (Rn.nil ?_))
   replace h:=si h; subst h
   exact Qg [11] ⟨(kPtr rfl),(sm rfl),tv⟩ ⟨⟨_,rfl,rfl,(.same rfl)⟩,tv⟩ rfl
  ·replace h:=ifF hb2 h
   refine Tr.skip ?_
   replace h:=si h; subst h
   exact Qg [] ⟨(kPtr rfl),(WkV.nilsO _),tv⟩ ⟨⟨_,rfl,rfl,(.same rfl)⟩,tv⟩ rfl
 ·obtain ⟨out5,rfl⟩ : ∃ x,x = z:=⟨_,rfl⟩
  refine Tr.cutB (fun (out29 : List Int)=>⟨look [(3,(o_ out29))],Qk Γ.n0 (bxs [(1,.cells ((Qe a1)))]) M,Γ.n0 + 50⟩) h (fun z h=>?_) (fun z h=>?_)
  ·refine sr ((md rfl (nt ((Tr.block ?_)))))
   refine Tr.loop (mk:=fun ((out6,i7) : (List Int) × Int)=>⟨look [(1,.ptr (Γ.n0 + 1) 0),(3,(o_ out6)),(4,(i_ i7))],Qk Γ.n0 (bxs [(1,.cells ((Qe a1)))]) M,Γ.n0 + 50⟩) h (by exact Qi ⟨(kPtr rfl),(sm rfl),(sm rfl),tv⟩ ⟨⟨_,rfl,rfl,(.same rfl)⟩,tv⟩ rfl) (fun k8 z h=>?_)
   ·obtain ⟨out6,i7⟩:=z
    replace h : _ = some _:=h
    refine Tr.seq (sr ((md rfl (Rn.mov (v:=(l_ out6)) tv rfl (Rn.lenD tv rfl (Rn.bin tv rfl rfl rfl (Rn.nil (toN ?_))))))))
    refine Tr.cond rfl (fun hb9=>?_) (fun hb9=>?_)
    ·replace h:=ifT hb9 h
     refine Tr.skip (toN ?_)
     refine Tr.cutB (fun (out28 : List Int)=>⟨look [(1,.ptr (Γ.n0 + 1) 0),(3,(o_ out28)),(4,(i_ i7))],Qk Γ.n0 (bxs [(1,.cells ((Qe a1)))]) M,Γ.n0 + 50⟩) h (fun z h=>?_) (fun z h=>?_)
     ·refine Tr.block (sr ((md rfl (nt ((Tr.block ?_))))))
      refine Tr.loop (mk:=fun ((out10,k11) : (List Int) × Int)=>⟨look [(1,.ptr (Γ.n0 + 1) 0),(3,(o_ out10)),(4,(i_ i7)),(5,(i_ k11))],Qk Γ.n0 (bxs [(1,.cells ((Qe a1)))]) M,Γ.n0 + 50⟩) h (by exact Qi ⟨(kPtr rfl),(sm rfl),(sm rfl),(sm rfl),tv⟩ ⟨⟨_,rfl,rfl,(.same rfl)⟩,tv⟩ rfl) (fun k12 z h=>?_)
      ·obtain ⟨out10,k11⟩:=z
       replace h : _ = some _:=h
       refine Tr.seq (sr ((md rfl (Rn.fldP (o':=0) tv rfl rfl (Rn.load (v:=(l_ a1.Alphabet)) tv rfl (Qj rfl) rfl rfl (Rn.lenD tv rfl (Rn.bin tv rfl rfl rfl (Rn.nil (toN ?_)))))))))
       refine Tr.cond rfl (fun hb13=>?_) (fun hb13=>?_)
       ·replace h:=ifT hb13 h
        refine Tr.skip (toN ?_)
        refine Tr.cutB (fun (out27 : List Int)=>⟨look [(1,.ptr (Γ.n0 + 1) 0),(3,(o_ out27)),(4,(i_ i7)),(5,(i_ k11))],Qk Γ.n0 (bxs [(1,.cells ((Qe a1)))]) M,Γ.n0 + 50⟩) h (fun z h=>?_) (fun z h=>?_)
        ·refine Tr.block (Tr.seq ?_)
         refine Tr.rgnD (by decide) ?_
         refine Rn.load (v:=(Qb a1)) tv rfl (Qj rfl) rfl rfl (Rn.mov (v:=(l_ out10)) tv rfl (md rfl ?_))
         obtain ⟨x14,h15,h⟩:=bnd h
         refine Rn.idxD (e:=(eI .i64)) tv rfl rfl h15 (Rn.loadC (x:=.int .i64 x14) tv rfl (Rn.fldP (o':=0) tv rfl rfl (Rn.load (v:=(l_ a1.Alphabet)) tv rfl (Qj rfl) rfl rfl (md rfl ?_))))
         obtain ⟨x16,h17,h⟩:=bnd h
         refine Rn.idxD (e:=(eI .i64)) tv rfl rfl h17 (Rn.loadC (x:=.int .i64 x16) tv rfl ?_)
         obtain ⟨x19,h18,h⟩:=bnd h
         refine Rn.call (args:=[(Qb a1),(i_ x14),(i_ x16)]) tv rfl (H_overseerref03_Step _ _ _ _ h18) pc0 (md rfl ?_)
         refine Rn.nil ⟨rfl,?_⟩
         refine toN ?_
         refine Tr.cutB (fun (x23 : Bool)=>⟨look [(1,.ptr (Γ.n0 + 1) 0),(3,(o_ out10)),(4,(i_ i7)),(5,(i_ k11)),(6,(i_ x19)),(44,(b_ x23))],Qk Γ.n0 (bxs [(1,.cells ((Qe a1)))]) M,Γ.n0 + 50⟩) h (fun z h=>?_) (fun z h=>?_)
         ·refine Tr.rgn (md rfl (Rn.bin tv rfl rfl rfl (md rfl ?_)))
          refine Qck (decide (x19 ≥ 0)) (fun hb20=>?_) (fun hb20=>?_)
          ·replace h:=ifT hb20 h
           refine Rn.mov (v:=(l_ out10)) (gw rfl hb20) rfl (Rn.movD (gw rfl hb20) rfl ?_)
           obtain ⟨x22,h21,h⟩:=bnd h
           refine Rn.call (args:=[(l_ out10),(i_ x19)]) (gw rfl hb20) rfl (H_overseerref03_has _ _ _ h21) pc9 (Rn.un (gw rfl hb20) rfl rfl (Rn.pickT (v:=(b_ (!x22))) tv rfl hb20 rfl (Rn.nil ?_)))
           replace h:=si h; subst h
           exact Qg [] ⟨(kPtr rfl),(sm rfl),(sm rfl),(sm rfl),(sm rfl),(sm rfl),tv⟩ ⟨⟨_,rfl,rfl,(.same rfl)⟩,tv⟩ rfl
          ·replace h:=ifF hb20 h
           refine Rn.sk (nw rfl hb20) (Rn.sk (nw rfl hb20) (Rn.sk (nw rfl hb20) (Rn.sk (nw rfl hb20) (Rn.pickF (v:=(b_ false)) tv rfl hb20 rfl (Rn.nil ?_)))))
           replace h:=si h; subst h
           exact Qg [] ⟨(kPtr rfl),(sm rfl),(sm rfl),(sm rfl),(sm rfl),(sm rfl),tv⟩ ⟨⟨_,rfl,rfl,(.same rfl)⟩,tv⟩ rfl
         ·obtain ⟨x23,rfl⟩ : ∃ x,x = z:=⟨_,rfl⟩
          refine Tr.cond rfl (fun hb24=>?_) (fun hb24=>?_)
          ·replace h:=bT hb24 h
           refine Tr.rgn (Rn.movTO tv rfl (md rfl (Rn.bslice (xs:=[(i_ x19)]) (cs:=[(i_ x19)]) tv rfl rfl rfl rfl ?_)))
           obtain ⟨x25,h26,h⟩:=bnd h
           refine Rn.app (e:=(eI .i64)) tv rfl rfl rfl (Qdb rfl rfl rfl) h26 rfl (Rn.movTO tv rfl (Rn.nil ?_))
           replace h:=si h; subst h
           exact Qg [47] ⟨(kPtr rfl),(sm rfl),(sm rfl),(sm rfl),tv⟩ ⟨⟨_,rfl,rfl,(.same rfl)⟩,tv⟩ rfl
          ·replace h:=bF hb24 h
           refine Tr.skip ?_
           replace h:=si h; subst h
           exact Qg [] ⟨(kPtr rfl),(sm rfl),(sm rfl),(sm rfl),tv⟩ ⟨⟨_,rfl,rfl,(.same rfl)⟩,tv⟩ rfl
        ·obtain ⟨out27,rfl⟩ : ∃ x,x = z:=⟨_,rfl⟩
         refine Tr.rgn (md rfl (Rn.bin tv rfl rfl rfl (md rfl (Rn.nil ?_))))
         exact ⟨_,h,(by exact Qi ⟨(kPtr rfl),(sm rfl),(sm rfl),(sm rfl),tv⟩ ⟨⟨_,rfl,rfl,(.same rfl)⟩,tv⟩ rfl)⟩
       ·replace h:=ifF hb13 h
        refine Tr.exit ?_
        replace h:=si h; subst h
        exact Qg [] ⟨(kPtr rfl),(sm rfl),(sm rfl),tv⟩ ⟨⟨_,rfl,rfl,(.same rfl)⟩,tv⟩ rfl
     ·obtain ⟨out28,rfl⟩ : ∃ x,x = z:=⟨_,rfl⟩
      refine Tr.rgn (md rfl (Rn.bin tv rfl rfl rfl (md rfl (Rn.nil ?_))))
      exact ⟨_,h,(by exact Qi ⟨(kPtr rfl),(sm rfl),(sm rfl),tv⟩ ⟨⟨_,rfl,rfl,(.same rfl)⟩,tv⟩ rfl)⟩
    ·replace h:=ifF hb9 h
     refine Tr.exit ?_
     replace h:=si h; subst h
     exact Qg [] ⟨(sm rfl),tv⟩ ⟨⟨_,rfl,rfl,(.same rfl)⟩,tv⟩ rfl
  ·obtain ⟨out29,rfl⟩ : ∃ x,x = z:=⟨_,rfl⟩
   refine sr ((Rn.movTO tv rfl (Rn.movTO tv rfl (nt ((Tr.ret ?_))))))
   replace h:=si h; subst h
   exact ⟨.inr rfl,(o_ out29),rfl,fun _ _ _ _ h=>h,tv,fun k hk=>Qf hk⟩
theorem Qr3 {P : Program} {c : Nat} (hcf : Qm P c = some Qg5) (fuel : Nat) : Qg4 P c (Qbq fuel):=by
 intro l1 n2 r h
 refine Qb1 hcf rfl fun Γ M hP hnt hM=>?_
 subst hP
 refine Tr.init [(0,(l_ l1)),(1,(i_ n2))] rfl ?_
 unfold Qbq at h
 unfold Qg5
 refine sr ((md rfl (nt ((Tr.seq (sr ((md rfl (nt ((Tr.block ?_)))))))))))
 refine Tr.loop (mk:=fun (i3 : Int)=>⟨look [(0,(l_ l1)),(1,(i_ n2)),(5,(i_ i3))],Qk Γ.n0 (bxs []) M,Γ.n0 + 19⟩) h (by exact Qi ⟨(sm rfl),(sm rfl),(sm rfl),tv⟩ tv rfl) (fun k4 z h=>?_)
 ·obtain ⟨i3,rfl⟩ : ∃ x,x = z:=⟨_,rfl⟩
  replace h : _ = some _:=h
  refine Tr.seq (sr ((md rfl (md rfl (Rn.lenD tv rfl (Rn.bin tv rfl rfl rfl (Rn.nil (toN ?_))))))))
  refine Tr.cond rfl (fun hb5=>?_) (fun hb5=>?_)
  ·replace h:=ifT hb5 h
   refine Tr.skip (toN (Tr.seq (Tr.block (sr ((md rfl (md rfl ?_)))))))
   obtain ⟨x6,h7,h⟩:=bnd h
   refine Rn.idxD (e:=(eI .i64)) tv rfl rfl h7 (Rn.loadC (x:=.int .i64 x6) tv rfl (md rfl (Rn.bin tv rfl rfl rfl (Rn.nil (toN ?_)))))
   refine Tr.cond rfl (fun hb8=>?_) (fun hb8=>?_)
   ·replace h:=bT hb8 h
    refine sr ((md rfl (md rfl (nt ((Tr.ret ?_))))))
    replace h:=si h; subst h
    exact ⟨.inr rfl,(i_ i3),rfl,fun _ _ _ _ h=>h,tv,fun k hk=>Qf hk⟩
   ·replace h:=bF hb8 h
    refine Tr.skip (toN (Tr.rgn (md rfl (Rn.bin tv rfl rfl rfl (md rfl (Rn.nil ?_))))))
    exact ⟨_,h,(by exact Qi ⟨(sm rfl),(sm rfl),(sm rfl),tv⟩ tv rfl)⟩
  ·replace h:=ifF hb5 h
   refine Tr.exit (toN (sr ((md rfl (nt ((Tr.ret ?_)))))))
   replace h:=si h; subst h
   exact ⟨.inr rfl,(i_ (-1)),rfl,fun _ _ _ _ h=>h,tv,fun k hk=>Qf hk⟩
theorem Qms {P : Program} {c : Nat} {Qs : (List Int) → Option Qa} {Qbp : Qa → Option ((List Int))} {Q4 : (List Int) → Int → Option Bool} {Qz : Qa → Int → Int → Option Int} {Qbq : (List Int) → Int → Option Int}
    (H_overseerref03_Empty : Qep P 21 Qs)
    (H_overseerref03_Found : Qg2 P 41 Qbp)
    (H_overseerref03_has : Qfq P 42 Q4)
    (H_overseerref03_Step : Qe8 P 43 Qz)
    (H_overseerref03_index : Qg4 P 44 Qbq) (hcf : Qm P c = some Qe3) (fuel : Nat) : Qe2 P c (Q9 Qs Qbp Q4 Qz Qbq fuel):=by
 intro a1 r h
 refine Qb1 hcf rfl fun Γ M hP hnt hM=>?_
 subst hP
 refine Tr.init [(0,(Qb a1))] rfl ?_
 unfold Q9 at h
 unfold Qe3
 refine sr ((Rn.box (v:=(Qb a1)) (cs:=(Qe a1)) tv rfl rfl rfl rfl rfl (Rn.alloc tv rfl (nt ((sr ((Rn.load (v:=(Qb a1)) tv rfl (Qj rfl) rfl rfl ?_))))))))
 obtain ⟨x3,h2,h⟩:=bnd h
 refine Rn.call (args:=[(Qb a1)]) tv rfl (H_overseerref03_Found _ _ h2) pc9 (Rn.movTO tv rfl (nt ((sr ((Rn.fldP (o':=0) tv rfl rfl (Rn.load (v:=(l_ a1.Alphabet)) tv rfl (Qj rfl) rfl rfl ?_)))))))
 obtain ⟨x5,h4,h⟩:=bnd h
 refine Rn.call (args:=[(l_ a1.Alphabet)]) tv rfl (H_overseerref03_Empty _ _ h4) pc9 (Rn.alloc tv rfl (Rn.storeT (v:=.agg [(l_ x5.Alphabet),(i_ x5.States),.nils 1,.nils 3]) (ds:=[(l_ x5.Alphabet),(i_ x5.States),.nils 1,.nils 3]) (cs':=[(l_ x5.Alphabet),(i_ x5.States),.nils 1,.nils 3]) tv rfl rfl rfl rfl rfl rfl rfl (nt ((sr ((Rn.mov (v:=(l_ x3)) tv rfl (Rn.lenD tv rfl (Rn.fldP (o':=1) tv rfl rfl (Rn.store (v:=(i_ (x3.length : Int))) (cs':=[(l_ x5.Alphabet),(i_ (x3.length : Int)),.nils 1,.nils 3]) tv rfl rfl rfl rfl rfl rfl (Rn.nil (toN ?_))))))))))))
 refine Tr.cutB (fun ((c42,c43,c44,out45,out46) : (List Int) × (List Int) × (List Qd) × (List Int) × (List Qd))=>⟨look [(2,.ptr (Γ.n0 + 2) 0),(4,.ptr (Γ.n0 + 4) 0)],Qk Γ.n0 (bxs [(1,.cells ((Qe a1))),(2,.cells ([(o_ c42),(i_ 0),(o_ c43),.own 3 (List.map Qc c44)])),(4,.cells ([(l_ x5.Alphabet),(i_ (x3.length : Int)),(o_ out45),.own 3 (List.map Qc out46)]))]) M,Γ.n0 + 71⟩) h (fun z h=>?_) (fun z h=>?_)
 ·refine sr ((md rfl (nt ((Tr.block ?_)))))
  refine Tr.loop (mk:=fun ((i6,c7,c8,c9,out10,out11) : Int × (List Int) × (List Int) × (List Qd) × (List Int) × (List Qd))=>⟨look [(1,.ptr (Γ.n0 + 1) 0),(2,.ptr (Γ.n0 + 2) 0),(3,(o_ x3)),(4,.ptr (Γ.n0 + 4) 0),(5,(i_ i6))],Qk Γ.n0 (bxs [(1,.cells ((Qe a1))),(2,.cells ([(o_ c7),(i_ 0),(o_ c8),.own 3 (List.map Qc c9)])),(4,.cells ([(l_ x5.Alphabet),(i_ (x3.length : Int)),(o_ out10),.own 3 (List.map Qc out11)]))]) M,Γ.n0 + 71⟩) h (by exact Qi ⟨(kPtr rfl),(kPtr rfl),(sm rfl),(kPtr rfl),(sm rfl),tv⟩ ⟨⟨_,rfl,rfl,(.same rfl)⟩,⟨_,rfl,rfl,(.cons (WkV.nilsO _) (.cons (sm rfl) (.cons (WkV.nilsO _) (.cons (WkV.nilsO _) .nil))))⟩,⟨_,rfl,rfl,(.cons (sm rfl) (.cons (sm rfl) (.cons (WkV.nilsO _) (.cons (WkV.nilsO _) .nil))))⟩,tv⟩ rfl) (fun k12 z h=>?_)
  ·obtain ⟨i6,c7,c8,c9,out10,out11⟩:=z
   replace h : _ = some _:=h
   refine Tr.seq (sr ((md rfl (Rn.mov (v:=(l_ x3)) tv rfl (Rn.lenD tv rfl (Rn.bin tv rfl rfl rfl (Rn.nil (toN ?_))))))))
   refine Tr.cond rfl (fun hb13=>?_) (fun hb13=>?_)
   ·replace h:=ifT hb13 h
    refine Tr.skip (toN ?_)
    refine Tr.cutB (fun ((out40,out41) : (List Int) × (List Qd))=>⟨look [(1,.ptr (Γ.n0 + 1) 0),(2,.ptr (Γ.n0 + 2) 0),(3,(o_ x3)),(4,.ptr (Γ.n0 + 4) 0),(5,(i_ i6))],Qk Γ.n0 (bxs [(1,.cells ((Qe a1))),(2,.cells ([(o_ c7),(i_ 0),(o_ c8),.own 3 (List.map Qc c9)])),(4,.cells ([(l_ x5.Alphabet),(i_ (x3.length : Int)),(o_ out40),.own 3 (List.map Qc out41)]))]) M,Γ.n0 + 71⟩) h (fun z h=>?_) (fun z h=>?_)
    ·refine Tr.block ?_
     refine Tr.cutB (fun (out21 : List Int)=>⟨look [(1,.ptr (Γ.n0 + 1) 0),(2,.ptr (Γ.n0 + 2) 0),(3,(o_ x3)),(4,.ptr (Γ.n0 + 4) 0),(5,(i_ i6))],Qk Γ.n0 (bxs [(1,.cells ((Qe a1))),(2,.cells ([(o_ c7),(i_ 0),(o_ c8),.own 3 (List.map Qc c9)])),(4,.cells ([(l_ x5.Alphabet),(i_ (x3.length : Int)),(o_ out21),.own 3 (List.map Qc out11)]))]) M,Γ.n0 + 71⟩) h (fun z h=>?_) (fun z h=>?_)
     ·refine Tr.seq ?_
      refine Tr.rgnD (by decide) ?_
      refine Rn.fldP (o':=2) tv rfl rfl (Rn.load (v:=(l_ a1.Marked)) tv rfl (Qj rfl) rfl rfl (Rn.mov (v:=(l_ x3)) tv rfl (md rfl ?_)))
      obtain ⟨x14,h15,h⟩:=bnd h
      refine Rn.idxD (e:=(eI .i64)) tv rfl rfl h15 (Rn.loadC (x:=.int .i64 x14) tv rfl ?_)
      obtain ⟨x17,h16,h⟩:=bnd h
      refine Rn.call (args:=[(l_ a1.Marked),(i_ x14)]) tv rfl (H_overseerref03_has _ _ _ h16) pc0 ?_
      refine Rn.nil ⟨rfl,?_⟩
      refine toN ?_
      refine Tr.cond rfl (fun hb18=>?_) (fun hb18=>?_)
      ·replace h:=bT hb18 h
       refine Tr.rgn (Rn.fldP (o':=2) tv rfl rfl (Rn.loadT (cs':=[(l_ x5.Alphabet),(i_ (x3.length : Int)),(l_ out10),.own 3 (List.map Qc out11)]) tv rfl rfl rfl rfl (md rfl (Rn.bslice (xs:=[(i_ i6)]) (cs:=[(i_ i6)]) tv rfl rfl rfl rfl ?_))))
       obtain ⟨x19,h20,h⟩:=bnd h
       refine Rn.app (e:=(eI .i64)) tv rfl rfl rfl (Qdb rfl rfl rfl) h20 rfl (Rn.fldP (o':=2) tv rfl rfl (Rn.storeO (cs':=[(l_ x5.Alphabet),(i_ (x3.length : Int)),(o_ x19),.own 3 (List.map Qc out11)]) tv rfl rfl rfl rfl rfl (Rn.nil ?_)))
       replace h:=si h; subst h
       exact Qg [32] ⟨(kPtr rfl),(kPtr rfl),(sm rfl),(kPtr rfl),(sm rfl),tv⟩ ⟨⟨_,rfl,rfl,(.same rfl)⟩,⟨_,rfl,rfl,(.same rfl)⟩,⟨_,rfl,rfl,(.same rfl)⟩,tv⟩ rfl
      ·replace h:=bF hb18 h
       refine Tr.skip ?_
       replace h:=si h; subst h
       exact Qg [] ⟨(kPtr rfl),(kPtr rfl),(sm rfl),(kPtr rfl),(sm rfl),tv⟩ ⟨⟨_,rfl,rfl,(.same rfl)⟩,⟨_,rfl,rfl,(.same rfl)⟩,⟨_,rfl,rfl,(.same rfl)⟩,tv⟩ rfl
     ·obtain ⟨out21,rfl⟩ : ∃ x,x = z:=⟨_,rfl⟩
      refine sr ((md rfl (nt ((Tr.block ?_)))))
      refine Tr.loop (mk:=fun ((k22,out23) : Int × (List Qd))=>⟨look [(1,.ptr (Γ.n0 + 1) 0),(2,.ptr (Γ.n0 + 2) 0),(3,(o_ x3)),(4,.ptr (Γ.n0 + 4) 0),(5,(i_ i6)),(6,(i_ k22))],Qk Γ.n0 (bxs [(1,.cells ((Qe a1))),(2,.cells ([(o_ c7),(i_ 0),(o_ c8),.own 3 (List.map Qc c9)])),(4,.cells ([(l_ x5.Alphabet),(i_ (x3.length : Int)),(o_ out21),.own 3 (List.map Qc out23)]))]) M,Γ.n0 + 71⟩) h (by exact Qi ⟨(kPtr rfl),(kPtr rfl),(sm rfl),(kPtr rfl),(sm rfl),(sm rfl),tv⟩ ⟨⟨_,rfl,rfl,(.same rfl)⟩,⟨_,rfl,rfl,(.same rfl)⟩,⟨_,rfl,rfl,(.same rfl)⟩,tv⟩ rfl) (fun k24 z h=>?_)
      ·obtain ⟨k22,out23⟩:=z
       replace h : _ = some _:=h
       refine Tr.seq (sr ((md rfl (Rn.fldP (o':=0) tv rfl rfl (Rn.load (v:=(l_ a1.Alphabet)) tv rfl (Qj rfl) rfl rfl (Rn.lenD tv rfl (Rn.bin tv rfl rfl rfl (Rn.nil (toN ?_)))))))))
       refine Tr.cond rfl (fun hb25=>?_) (fun hb25=>?_)
       ·replace h:=ifT hb25 h
        refine Tr.skip (toN ?_)
        refine Tr.cutB (fun (out39 : List Qd)=>⟨look [(1,.ptr (Γ.n0 + 1) 0),(2,.ptr (Γ.n0 + 2) 0),(3,(o_ x3)),(4,.ptr (Γ.n0 + 4) 0),(5,(i_ i6)),(6,(i_ k22))],Qk Γ.n0 (bxs [(1,.cells ((Qe a1))),(2,.cells ([(o_ c7),(i_ 0),(o_ c8),.own 3 (List.map Qc c9)])),(4,.cells ([(l_ x5.Alphabet),(i_ (x3.length : Int)),(o_ out21),.own 3 (List.map Qc out39)]))]) M,Γ.n0 + 71⟩) h (fun z h=>?_) (fun z h=>?_)
        ·refine Tr.block (Tr.seq ?_)
         refine Tr.rgnD (by decide) ?_
         refine Rn.load (v:=(Qb a1)) tv rfl (Qj rfl) rfl rfl (Rn.mov (v:=(l_ x3)) tv rfl (md rfl ?_))
         obtain ⟨x26,h27,h⟩:=bnd h
         refine Rn.idxD (e:=(eI .i64)) tv rfl rfl h27 (Rn.loadC (x:=.int .i64 x26) tv rfl (Rn.fldP (o':=0) tv rfl rfl (Rn.load (v:=(l_ a1.Alphabet)) tv rfl (Qj rfl) rfl rfl (md rfl ?_))))
         obtain ⟨x28,h29,h⟩:=bnd h
         refine Rn.idxD (e:=(eI .i64)) tv rfl rfl h29 (Rn.loadC (x:=.int .i64 x28) tv rfl ?_)
         obtain ⟨x31,h30,h⟩:=bnd h
         refine Rn.call (args:=[(Qb a1),(i_ x26),(i_ x28)]) tv rfl (H_overseerref03_Step _ _ _ _ h30) pc0 (md rfl ?_)
         refine Rn.nil ⟨rfl,?_⟩
         refine toN (sr ((md rfl (Rn.bin tv rfl rfl rfl (Rn.nil (toN ?_))))))
         refine Tr.cond rfl (fun hb32=>?_) (fun hb32=>?_)
         ·replace h:=ifT hb32 h
          refine Tr.rgnD (by decide) ?_
          refine Rn.fldP (o':=3) tv rfl rfl (Rn.loadT (cs':=[(l_ x5.Alphabet),(i_ (x3.length : Int)),(o_ out21),.d (.lst 3 (List.map Qc out23))]) tv rfl rfl rfl rfl (md rfl (Rn.fldP (o':=0) tv rfl rfl (Rn.load (v:=(l_ a1.Alphabet)) tv rfl (Qj rfl) rfl rfl (md rfl ?_)))))
          obtain ⟨x33,h34,h⟩:=bnd h
          refine Rn.idxD (e:=(eI .i64)) tv rfl rfl h34 (Rn.loadC (x:=.int .i64 x33) tv rfl (Rn.mov (v:=(l_ x3)) tv rfl (md rfl ?_)))
          obtain ⟨x36,h35,h⟩:=bnd h
          refine Rn.call (args:=[(l_ x3),(i_ x31)]) tv rfl (H_overseerref03_index _ _ _ h35) pc2 (Rn.build (v:=.agg [(i_ i6),(i_ x33),(i_ x36)]) tv rfl (Rn.bslice (xs:=[.agg [(i_ i6),(i_ x33),(i_ x36)]]) (cs:=[(i_ i6),(i_ x33),(i_ x36)]) tv rfl rfl rfl rfl ?_))
          obtain ⟨x37,h38,h⟩:=bnd h
          refine Rn.app (e:=Qc) tv rfl rfl rfl (Qdb rfl rfl rfl) h38 rfl (Rn.fldP (o':=3) tv rfl rfl (Rn.storeO (cs':=[(l_ x5.Alphabet),(i_ (x3.length : Int)),(o_ out21),.own 3 (List.map Qc x37)]) tv rfl rfl rfl rfl rfl ?_))
          refine Rn.nil ⟨rfl,?_⟩
          replace h:=si h; subst h
          exact Qg [67] ⟨(kPtr rfl),(kPtr rfl),(sm rfl),(kPtr rfl),(sm rfl),(sm rfl),tv⟩ ⟨⟨_,rfl,rfl,(.same rfl)⟩,⟨_,rfl,rfl,(.same rfl)⟩,⟨_,rfl,rfl,(.same rfl)⟩,tv⟩ rfl
         ·replace h:=ifF hb32 h
          refine Tr.skip ?_
          replace h:=si h; subst h
          exact Qg [] ⟨(kPtr rfl),(kPtr rfl),(sm rfl),(kPtr rfl),(sm rfl),(sm rfl),tv⟩ ⟨⟨_,rfl,rfl,(.same rfl)⟩,⟨_,rfl,rfl,(.same rfl)⟩,⟨_,rfl,rfl,(.same rfl)⟩,tv⟩ rfl
        ·obtain ⟨out39,rfl⟩ : ∃ x,x = z:=⟨_,rfl⟩
         refine Tr.rgn (md rfl (Rn.bin tv rfl rfl rfl (md rfl (Rn.nil ?_))))
         exact ⟨_,h,(by exact Qi ⟨(kPtr rfl),(kPtr rfl),(sm rfl),(kPtr rfl),(sm rfl),(sm rfl),tv⟩ ⟨⟨_,rfl,rfl,(.same rfl)⟩,⟨_,rfl,rfl,(.same rfl)⟩,⟨_,rfl,rfl,(.same rfl)⟩,tv⟩ rfl)⟩
       ·replace h:=ifF hb25 h
        refine Tr.exit ?_
        replace h:=si h; subst h
        exact Qg [] ⟨(kPtr rfl),(kPtr rfl),(sm rfl),(kPtr rfl),(sm rfl),tv⟩ ⟨⟨_,rfl,rfl,(.same rfl)⟩,⟨_,rfl,rfl,(.same rfl)⟩,⟨_,rfl,rfl,(.same rfl)⟩,tv⟩ rfl
    ·obtain ⟨out40,out41⟩:=z
     refine Tr.rgn (md rfl (Rn.bin tv rfl rfl rfl (md rfl (Rn.nil ?_))))
     exact ⟨_,h,(by exact Qi ⟨(kPtr rfl),(kPtr rfl),(sm rfl),(kPtr rfl),(sm rfl),tv⟩ ⟨⟨_,rfl,rfl,(.same rfl)⟩,⟨_,rfl,rfl,(.same rfl)⟩,⟨_,rfl,rfl,(.same rfl)⟩,tv⟩ rfl)⟩
   ·replace h:=ifF hb13 h
    refine Tr.exit ?_
    replace h:=si h; subst h
    exact Qg [] ⟨(kPtr rfl),(kPtr rfl),tv⟩ ⟨⟨_,rfl,rfl,(.same rfl)⟩,⟨_,rfl,rfl,(.same rfl)⟩,⟨_,rfl,rfl,(.same rfl)⟩,tv⟩ rfl
 ·obtain ⟨c42,c43,c44,out45,out46⟩:=z
  refine sr ((Rn.load (v:=.agg [(l_ x5.Alphabet),(i_ (x3.length : Int)),(l_ out45),.d (.lst 3 (List.map Qc out46))]) tv rfl (Qj rfl) rfl rfl (Rn.storeT (v:=.agg [(l_ x5.Alphabet),(i_ (x3.length : Int)),(l_ out45),.d (.lst 3 (List.map Qc out46))]) (ds:=[(l_ x5.Alphabet),(i_ (x3.length : Int)),(l_ out45),.d (.lst 3 (List.map Qc out46))]) (cs':=[(l_ x5.Alphabet),(i_ (x3.length : Int)),(l_ out45),.d (.lst 3 (List.map Qc out46))]) tv rfl rfl rfl rfl rfl rfl rfl (nt ((Tr.ret ?_))))))
  replace h:=si h; subst h
  exact ⟨.inr rfl,(.agg [(l_ x5.Alphabet),(i_ (x3.length : Int)),(l_ out45),.d (.lst 3 (List.map Qc out46))]),Qel rfl rfl rfl rfl,fun _ _ _ _ h=>h,⟨tv,tv,tv,tv,tv⟩,fun k hk=>Qf hk⟩
theorem Qu8 {P : Program} {c : Nat} {Qs : (List Int) → Option Qa} {Q9 : Qa → Option Qa}
    (H_overseerref03_Empty : Qep P 21 Qs)
    (H_overseerref03_Canonical : Qe2 P 22 Q9) (hcf : Qm P c = some Qh0) (fuel : Nat) : Qhz P c (Qby Qs Q9 fuel):=by
 intro alphabet1 g2 r h
 refine Qb1 hcf rfl fun Γ M hP hnt hM=>?_
 subst hP
 refine Tr.init [(0,(l_ alphabet1)),(1,.agg [.d (.int .u8 g2.States),.d (.int .u8 g2.Marks),.d (.int .u8 g2.To.1.1),.d (.int .u8 g2.To.1.2.1),.d (.int .u8 g2.To.1.2.2.1),.d (.int .u8 g2.To.1.2.2.2.1),.d (.int .u8 g2.To.1.2.2.2.2),.d (.int .u8 g2.To.2.1.1),.d (.int .u8 g2.To.2.1.2.1),.d (.int .u8 g2.To.2.1.2.2.1),.d (.int .u8 g2.To.2.1.2.2.2.1),.d (.int .u8 g2.To.2.1.2.2.2.2),.d (.int .u8 g2.To.2.2.1.1),.d (.int .u8 g2.To.2.2.1.2.1),.d (.int .u8 g2.To.2.2.1.2.2.1),.d (.int .u8 g2.To.2.2.1.2.2.2.1),.d (.int .u8 g2.To.2.2.1.2.2.2.2),.d (.int .u8 g2.To.2.2.2.1.1),.d (.int .u8 g2.To.2.2.2.1.2.1),.d (.int .u8 g2.To.2.2.2.1.2.2.1),.d (.int .u8 g2.To.2.2.2.1.2.2.2.1),.d (.int .u8 g2.To.2.2.2.1.2.2.2.2),.d (.int .u8 g2.To.2.2.2.2.1),.d (.int .u8 g2.To.2.2.2.2.2.1),.d (.int .u8 g2.To.2.2.2.2.2.2.1),.d (.int .u8 g2.To.2.2.2.2.2.2.2.1),.d (.int .u8 g2.To.2.2.2.2.2.2.2.2)])] rfl ?_
 unfold Qby at h
 unfold Qh0
 refine sr ((Rn.box (v:=.agg [.d (.int .u8 g2.States),.d (.int .u8 g2.Marks),.d (.int .u8 g2.To.1.1),.d (.int .u8 g2.To.1.2.1),.d (.int .u8 g2.To.1.2.2.1),.d (.int .u8 g2.To.1.2.2.2.1),.d (.int .u8 g2.To.1.2.2.2.2),.d (.int .u8 g2.To.2.1.1),.d (.int .u8 g2.To.2.1.2.1),.d (.int .u8 g2.To.2.1.2.2.1),.d (.int .u8 g2.To.2.1.2.2.2.1),.d (.int .u8 g2.To.2.1.2.2.2.2),.d (.int .u8 g2.To.2.2.1.1),.d (.int .u8 g2.To.2.2.1.2.1),.d (.int .u8 g2.To.2.2.1.2.2.1),.d (.int .u8 g2.To.2.2.1.2.2.2.1),.d (.int .u8 g2.To.2.2.1.2.2.2.2),.d (.int .u8 g2.To.2.2.2.1.1),.d (.int .u8 g2.To.2.2.2.1.2.1),.d (.int .u8 g2.To.2.2.2.1.2.2.1),.d (.int .u8 g2.To.2.2.2.1.2.2.2.1),.d (.int .u8 g2.To.2.2.2.1.2.2.2.2),.d (.int .u8 g2.To.2.2.2.2.1),.d (.int .u8 g2.To.2.2.2.2.2.1),.d (.int .u8 g2.To.2.2.2.2.2.2.1),.d (.int .u8 g2.To.2.2.2.2.2.2.2.1),.d (.int .u8 g2.To.2.2.2.2.2.2.2.2)]) (cs:=[.d (.int .u8 g2.States),.d (.int .u8 g2.Marks),.d (.int .u8 g2.To.1.1),.d (.int .u8 g2.To.1.2.1),.d (.int .u8 g2.To.1.2.2.1),.d (.int .u8 g2.To.1.2.2.2.1),.d (.int .u8 g2.To.1.2.2.2.2),.d (.int .u8 g2.To.2.1.1),.d (.int .u8 g2.To.2.1.2.1),.d (.int .u8 g2.To.2.1.2.2.1),.d (.int .u8 g2.To.2.1.2.2.2.1),.d (.int .u8 g2.To.2.1.2.2.2.2),.d (.int .u8 g2.To.2.2.1.1),.d (.int .u8 g2.To.2.2.1.2.1),.d (.int .u8 g2.To.2.2.1.2.2.1),.d (.int .u8 g2.To.2.2.1.2.2.2.1),.d (.int .u8 g2.To.2.2.1.2.2.2.2),.d (.int .u8 g2.To.2.2.2.1.1),.d (.int .u8 g2.To.2.2.2.1.2.1),.d (.int .u8 g2.To.2.2.2.1.2.2.1),.d (.int .u8 g2.To.2.2.2.1.2.2.2.1),.d (.int .u8 g2.To.2.2.2.1.2.2.2.2),.d (.int .u8 g2.To.2.2.2.2.1),.d (.int .u8 g2.To.2.2.2.2.2.1),.d (.int .u8 g2.To.2.2.2.2.2.2.1),.d (.int .u8 g2.To.2.2.2.2.2.2.2.1),.d (.int .u8 g2.To.2.2.2.2.2.2.2.2)]) tv rfl rfl rfl rfl rfl (Rn.alloc tv rfl (nt ((Tr.seq (sr ((Rn.fldP (o':=0) tv rfl rfl (Rn.load (v:=.d (.int .u8 g2.States)) tv rfl (Qj rfl) rfl rfl (Rn.bin tv rfl rfl rfl (Rn.nil (toN ?_)))))))))))))
 refine Tr.cond rfl (fun hb3=>?_) (fun hb3=>?_)
 ·replace h:=ifT hb3 h
  refine sr ((md rfl ?_))
  obtain ⟨x5,h4,h⟩:=bnd h
  refine Rn.call (args:=[(l_ alphabet1)]) tv rfl (H_overseerref03_Empty _ _ h4) pc9 (Rn.storeT (v:=.agg [(l_ x5.Alphabet),(i_ x5.States),.nils 1,.nils 3]) (ds:=[(l_ x5.Alphabet),(i_ x5.States),.nils 1,.nils 3]) (cs':=[(l_ x5.Alphabet),(i_ x5.States),.nils 1,.nils 3]) tv rfl rfl rfl rfl rfl rfl rfl (nt ((Tr.ret ?_))))
  replace h:=si h; subst h
  exact ⟨.inr rfl,(.agg [(l_ x5.Alphabet),(i_ x5.States),.nils 1,.nils 3]),Qel rfl rfl rfl rfl,(WkV.agg (.cons (.same rfl) (.cons (.same rfl) (.cons (WkV.nilsD _) (.cons (WkV.nilsD _) .nil))))).rd,⟨tv,tv,tv,tv,tv⟩,fun k hk=>Qf hk⟩
 ·replace h:=ifF hb3 h
  refine Tr.skip (toN (sr ((md rfl ?_))))
  obtain ⟨x7,h6,h⟩:=bnd h
  refine Rn.call (args:=[(l_ alphabet1)]) tv rfl (H_overseerref03_Empty _ _ h6) pc9 (Rn.alloc tv rfl (Rn.storeT (v:=.agg [(l_ x7.Alphabet),(i_ x7.States),.nils 1,.nils 3]) (ds:=[(l_ x7.Alphabet),(i_ x7.States),.nils 1,.nils 3]) (cs':=[(l_ x7.Alphabet),(i_ x7.States),.nils 1,.nils 3]) tv rfl rfl rfl rfl rfl rfl rfl (nt ((sr ((Rn.fldP (o':=0) tv rfl rfl (Rn.load (v:=.d (.int .u8 g2.States)) tv rfl (Qj rfl) rfl rfl (Rn.bin tv rfl rfl rfl (Rn.conv tv rfl (Rn.bin tv rfl rfl rfl (Rn.fldP (o':=1) tv rfl rfl (Rn.store (v:=(i_ (IntKind.wrap .i64 (1 + (IntKind.wrap .i64 (Int.tmod g2.States 5)))))) (cs':=[(l_ x7.Alphabet),(i_ (IntKind.wrap .i64 (1 + (IntKind.wrap .i64 (Int.tmod g2.States 5))))),.nils 1,.nils 3]) tv rfl rfl rfl rfl rfl rfl (Rn.nil (toN ?_)))))))))))))))
  refine Tr.cutB (fun ((c43,c44,c45,a46,a47,a48) : (List Int) × (List Int) × (List Qd) × Int × (List Int) × (List Qd))=>⟨look [(4,.ptr (Γ.n0 + 4) 0),(5,.ptr (Γ.n0 + 5) 0)],Qk Γ.n0 (bxs [(3,.cells ([.d (.int .u8 g2.States),.d (.int .u8 g2.Marks),.d (.int .u8 g2.To.1.1),.d (.int .u8 g2.To.1.2.1),.d (.int .u8 g2.To.1.2.2.1),.d (.int .u8 g2.To.1.2.2.2.1),.d (.int .u8 g2.To.1.2.2.2.2),.d (.int .u8 g2.To.2.1.1),.d (.int .u8 g2.To.2.1.2.1),.d (.int .u8 g2.To.2.1.2.2.1),.d (.int .u8 g2.To.2.1.2.2.2.1),.d (.int .u8 g2.To.2.1.2.2.2.2),.d (.int .u8 g2.To.2.2.1.1),.d (.int .u8 g2.To.2.2.1.2.1),.d (.int .u8 g2.To.2.2.1.2.2.1),.d (.int .u8 g2.To.2.2.1.2.2.2.1),.d (.int .u8 g2.To.2.2.1.2.2.2.2),.d (.int .u8 g2.To.2.2.2.1.1),.d (.int .u8 g2.To.2.2.2.1.2.1),.d (.int .u8 g2.To.2.2.2.1.2.2.1),.d (.int .u8 g2.To.2.2.2.1.2.2.2.1),.d (.int .u8 g2.To.2.2.2.1.2.2.2.2),.d (.int .u8 g2.To.2.2.2.2.1),.d (.int .u8 g2.To.2.2.2.2.2.1),.d (.int .u8 g2.To.2.2.2.2.2.2.1),.d (.int .u8 g2.To.2.2.2.2.2.2.2.1),.d (.int .u8 g2.To.2.2.2.2.2.2.2.2)])),(4,.cells ([(o_ c43),(i_ 0),(o_ c44),.own 3 (List.map Qc c45)])),(5,.cells ([(l_ x7.Alphabet),(i_ a46),(o_ a47),.own 3 (List.map Qc a48)]))]) M,Γ.n0 + 79⟩) h (fun z h=>?_) (fun z h=>?_)
  ·refine sr ((md rfl (nt ((Tr.block ?_)))))
   refine Tr.loop (mk:=fun ((i8,c9,c10,c11,a12,a13,a14) : Int × (List Int) × (List Int) × (List Qd) × Int × (List Int) × (List Qd))=>⟨look [(0,(l_ alphabet1)),(3,.ptr (Γ.n0 + 3) 0),(4,.ptr (Γ.n0 + 4) 0),(5,.ptr (Γ.n0 + 5) 0),(6,(i_ i8))],Qk Γ.n0 (bxs [(3,.cells ([.d (.int .u8 g2.States),.d (.int .u8 g2.Marks),.d (.int .u8 g2.To.1.1),.d (.int .u8 g2.To.1.2.1),.d (.int .u8 g2.To.1.2.2.1),.d (.int .u8 g2.To.1.2.2.2.1),.d (.int .u8 g2.To.1.2.2.2.2),.d (.int .u8 g2.To.2.1.1),.d (.int .u8 g2.To.2.1.2.1),.d (.int .u8 g2.To.2.1.2.2.1),.d (.int .u8 g2.To.2.1.2.2.2.1),.d (.int .u8 g2.To.2.1.2.2.2.2),.d (.int .u8 g2.To.2.2.1.1),.d (.int .u8 g2.To.2.2.1.2.1),.d (.int .u8 g2.To.2.2.1.2.2.1),.d (.int .u8 g2.To.2.2.1.2.2.2.1),.d (.int .u8 g2.To.2.2.1.2.2.2.2),.d (.int .u8 g2.To.2.2.2.1.1),.d (.int .u8 g2.To.2.2.2.1.2.1),.d (.int .u8 g2.To.2.2.2.1.2.2.1),.d (.int .u8 g2.To.2.2.2.1.2.2.2.1),.d (.int .u8 g2.To.2.2.2.1.2.2.2.2),.d (.int .u8 g2.To.2.2.2.2.1),.d (.int .u8 g2.To.2.2.2.2.2.1),.d (.int .u8 g2.To.2.2.2.2.2.2.1),.d (.int .u8 g2.To.2.2.2.2.2.2.2.1),.d (.int .u8 g2.To.2.2.2.2.2.2.2.2)])),(4,.cells ([(o_ c9),(i_ 0),(o_ c10),.own 3 (List.map Qc c11)])),(5,.cells ([(l_ x7.Alphabet),(i_ a12),(o_ a13),.own 3 (List.map Qc a14)]))]) M,Γ.n0 + 79⟩) h (by exact Qi ⟨(sm rfl),(kPtr rfl),(kPtr rfl),(kPtr rfl),(sm rfl),tv⟩ ⟨⟨_,rfl,rfl,(.same rfl)⟩,⟨_,rfl,rfl,(.cons (WkV.nilsO _) (.cons (sm rfl) (.cons (WkV.nilsO _) (.cons (WkV.nilsO _) .nil))))⟩,⟨_,rfl,rfl,(.cons (sm rfl) (.cons (sm rfl) (.cons (WkV.nilsO _) (.cons (WkV.nilsO _) .nil))))⟩,tv⟩ rfl) (fun k15 z h=>?_)
   ·obtain ⟨i8,c9,c10,c11,a12,a13,a14⟩:=z
    replace h : _ = some _:=h
    refine Tr.seq (sr ((md rfl (Rn.fldP (o':=1) tv rfl rfl (Rn.load (v:=(i_ a12)) tv rfl (Qj rfl) rfl rfl (Rn.bin tv rfl rfl rfl (Rn.nil (toN ?_))))))))
    refine Tr.cond rfl (fun hb16=>?_) (fun hb16=>?_)
    ·replace h:=ifT hb16 h
     refine Tr.skip (toN ?_)
     refine Tr.cutB (fun ((a41,a42) : (List Int) × (List Qd))=>⟨look [(0,(l_ alphabet1)),(3,.ptr (Γ.n0 + 3) 0),(4,.ptr (Γ.n0 + 4) 0),(5,.ptr (Γ.n0 + 5) 0),(6,(i_ i8))],Qk Γ.n0 (bxs [(3,.cells ([.d (.int .u8 g2.States),.d (.int .u8 g2.Marks),.d (.int .u8 g2.To.1.1),.d (.int .u8 g2.To.1.2.1),.d (.int .u8 g2.To.1.2.2.1),.d (.int .u8 g2.To.1.2.2.2.1),.d (.int .u8 g2.To.1.2.2.2.2),.d (.int .u8 g2.To.2.1.1),.d (.int .u8 g2.To.2.1.2.1),.d (.int .u8 g2.To.2.1.2.2.1),.d (.int .u8 g2.To.2.1.2.2.2.1),.d (.int .u8 g2.To.2.1.2.2.2.2),.d (.int .u8 g2.To.2.2.1.1),.d (.int .u8 g2.To.2.2.1.2.1),.d (.int .u8 g2.To.2.2.1.2.2.1),.d (.int .u8 g2.To.2.2.1.2.2.2.1),.d (.int .u8 g2.To.2.2.1.2.2.2.2),.d (.int .u8 g2.To.2.2.2.1.1),.d (.int .u8 g2.To.2.2.2.1.2.1),.d (.int .u8 g2.To.2.2.2.1.2.2.1),.d (.int .u8 g2.To.2.2.2.1.2.2.2.1),.d (.int .u8 g2.To.2.2.2.1.2.2.2.2),.d (.int .u8 g2.To.2.2.2.2.1),.d (.int .u8 g2.To.2.2.2.2.2.1),.d (.int .u8 g2.To.2.2.2.2.2.2.1),.d (.int .u8 g2.To.2.2.2.2.2.2.2.1),.d (.int .u8 g2.To.2.2.2.2.2.2.2.2)])),(4,.cells ([(o_ c9),(i_ 0),(o_ c10),.own 3 (List.map Qc c11)])),(5,.cells ([(l_ x7.Alphabet),(i_ a12),(o_ a41),.own 3 (List.map Qc a42)]))]) M,Γ.n0 + 79⟩) h (fun z h=>?_) (fun z h=>?_)
     ·refine Tr.block ?_
      refine Tr.cutB (fun (a22 : List Int)=>⟨look [(0,(l_ alphabet1)),(3,.ptr (Γ.n0 + 3) 0),(4,.ptr (Γ.n0 + 4) 0),(5,.ptr (Γ.n0 + 5) 0),(6,(i_ i8))],Qk Γ.n0 (bxs [(3,.cells ([.d (.int .u8 g2.States),.d (.int .u8 g2.Marks),.d (.int .u8 g2.To.1.1),.d (.int .u8 g2.To.1.2.1),.d (.int .u8 g2.To.1.2.2.1),.d (.int .u8 g2.To.1.2.2.2.1),.d (.int .u8 g2.To.1.2.2.2.2),.d (.int .u8 g2.To.2.1.1),.d (.int .u8 g2.To.2.1.2.1),.d (.int .u8 g2.To.2.1.2.2.1),.d (.int .u8 g2.To.2.1.2.2.2.1),.d (.int .u8 g2.To.2.1.2.2.2.2),.d (.int .u8 g2.To.2.2.1.1),.d (.int .u8 g2.To.2.2.1.2.1),.d (.int .u8 g2.To.2.2.1.2.2.1),.d (.int .u8 g2.To.2.2.1.2.2.2.1),.d (.int .u8 g2.To.2.2.1.2.2.2.2),.d (.int .u8 g2.To.2.2.2.1.1),.d (.int .u8 g2.To.2.2.2.1.2.1),.d (.int .u8 g2.To.2.2.2.1.2.2.1),.d (.int .u8 g2.To.2.2.2.1.2.2.2.1),.d (.int .u8 g2.To.2.2.2.1.2.2.2.2),.d (.int .u8 g2.To.2.2.2.2.1),.d (.int .u8 g2.To.2.2.2.2.2.1),.d (.int .u8 g2.To.2.2.2.2.2.2.1),.d (.int .u8 g2.To.2.2.2.2.2.2.2.1),.d (.int .u8 g2.To.2.2.2.2.2.2.2.2)])),(4,.cells ([(o_ c9),(i_ 0),(o_ c10),.own 3 (List.map Qc c11)])),(5,.cells ([(l_ x7.Alphabet),(i_ a12),(o_ a22),.own 3 (List.map Qc a14)]))]) M,Γ.n0 + 79⟩) h (fun z h=>?_) (fun z h=>?_)
      ·refine sr ((Rn.fldP (o':=1) tv rfl rfl (Rn.load (v:=.d (.int .u8 g2.Marks)) tv rfl (Qj rfl) rfl rfl (md rfl ?_))))
       obtain ⟨s17,h18,h⟩:=bnd h
       refine Rn.bin tv rfl rfl (Qbir h18) (Rn.bin tv rfl rfl rfl (Rn.bin tv rfl rfl rfl (Rn.nil (toN ?_))))
       refine Tr.cond rfl (fun hb19=>?_) (fun hb19=>?_)
       ·replace h:=bT hb19 h
        refine Tr.rgn (Rn.fldP (o':=2) tv rfl rfl (Rn.loadT (cs':=[(l_ x7.Alphabet),(i_ a12),(l_ a13),.own 3 (List.map Qc a14)]) tv rfl rfl rfl rfl (md rfl (Rn.bslice (xs:=[(i_ i8)]) (cs:=[(i_ i8)]) tv rfl rfl rfl rfl ?_))))
        obtain ⟨x20,h21,h⟩:=bnd h
        refine Rn.app (e:=(eI .i64)) tv rfl rfl rfl (Qdb rfl rfl rfl) h21 rfl (Rn.fldP (o':=2) tv rfl rfl (Rn.storeO (cs':=[(l_ x7.Alphabet),(i_ a12),(o_ x20),.own 3 (List.map Qc a14)]) tv rfl rfl rfl rfl rfl (Rn.nil ?_)))
        replace h:=si h; subst h
        exact Qg [37] ⟨(sm rfl),(kPtr rfl),(kPtr rfl),(kPtr rfl),(sm rfl),tv⟩ ⟨⟨_,rfl,rfl,(.same rfl)⟩,⟨_,rfl,rfl,(.same rfl)⟩,⟨_,rfl,rfl,(.same rfl)⟩,tv⟩ rfl
       ·replace h:=bF hb19 h
        refine Tr.skip ?_
        replace h:=si h; subst h
        exact Qg [] ⟨(sm rfl),(kPtr rfl),(kPtr rfl),(kPtr rfl),(sm rfl),tv⟩ ⟨⟨_,rfl,rfl,(.same rfl)⟩,⟨_,rfl,rfl,(.same rfl)⟩,⟨_,rfl,rfl,(.same rfl)⟩,tv⟩ rfl
      ·obtain ⟨a22,rfl⟩ : ∃ x,x = z:=⟨_,rfl⟩
       refine sr ((md rfl (nt ((Tr.block ?_)))))
       refine Tr.loop (mk:=fun ((k23,a24) : Int × (List Qd))=>⟨look [(0,(l_ alphabet1)),(3,.ptr (Γ.n0 + 3) 0),(4,.ptr (Γ.n0 + 4) 0),(5,.ptr (Γ.n0 + 5) 0),(6,(i_ i8)),(7,(i_ k23))],Qk Γ.n0 (bxs [(3,.cells ([.d (.int .u8 g2.States),.d (.int .u8 g2.Marks),.d (.int .u8 g2.To.1.1),.d (.int .u8 g2.To.1.2.1),.d (.int .u8 g2.To.1.2.2.1),.d (.int .u8 g2.To.1.2.2.2.1),.d (.int .u8 g2.To.1.2.2.2.2),.d (.int .u8 g2.To.2.1.1),.d (.int .u8 g2.To.2.1.2.1),.d (.int .u8 g2.To.2.1.2.2.1),.d (.int .u8 g2.To.2.1.2.2.2.1),.d (.int .u8 g2.To.2.1.2.2.2.2),.d (.int .u8 g2.To.2.2.1.1),.d (.int .u8 g2.To.2.2.1.2.1),.d (.int .u8 g2.To.2.2.1.2.2.1),.d (.int .u8 g2.To.2.2.1.2.2.2.1),.d (.int .u8 g2.To.2.2.1.2.2.2.2),.d (.int .u8 g2.To.2.2.2.1.1),.d (.int .u8 g2.To.2.2.2.1.2.1),.d (.int .u8 g2.To.2.2.2.1.2.2.1),.d (.int .u8 g2.To.2.2.2.1.2.2.2.1),.d (.int .u8 g2.To.2.2.2.1.2.2.2.2),.d (.int .u8 g2.To.2.2.2.2.1),.d (.int .u8 g2.To.2.2.2.2.2.1),.d (.int .u8 g2.To.2.2.2.2.2.2.1),.d (.int .u8 g2.To.2.2.2.2.2.2.2.1),.d (.int .u8 g2.To.2.2.2.2.2.2.2.2)])),(4,.cells ([(o_ c9),(i_ 0),(o_ c10),.own 3 (List.map Qc c11)])),(5,.cells ([(l_ x7.Alphabet),(i_ a12),(o_ a22),.own 3 (List.map Qc a24)]))]) M,Γ.n0 + 79⟩) h (by exact Qi ⟨(sm rfl),(kPtr rfl),(kPtr rfl),(kPtr rfl),(sm rfl),(sm rfl),tv⟩ ⟨⟨_,rfl,rfl,(.same rfl)⟩,⟨_,rfl,rfl,(.same rfl)⟩,⟨_,rfl,rfl,(.same rfl)⟩,tv⟩ rfl) (fun k25 z h=>?_)
       ·obtain ⟨k23,a24⟩:=z
        replace h : _ = some _:=h
        refine Tr.seq ?_
        refine Tr.cutB (fun (x27 : Bool)=>⟨look [(0,(l_ alphabet1)),(3,.ptr (Γ.n0 + 3) 0),(4,.ptr (Γ.n0 + 4) 0),(5,.ptr (Γ.n0 + 5) 0),(6,(i_ i8)),(7,(i_ k23)),(47,(b_ x27))],Qk Γ.n0 (bxs [(3,.cells ([.d (.int .u8 g2.States),.d (.int .u8 g2.Marks),.d (.int .u8 g2.To.1.1),.d (.int .u8 g2.To.1.2.1),.d (.int .u8 g2.To.1.2.2.1),.d (.int .u8 g2.To.1.2.2.2.1),.d (.int .u8 g2.To.1.2.2.2.2),.d (.int .u8 g2.To.2.1.1),.d (.int .u8 g2.To.2.1.2.1),.d (.int .u8 g2.To.2.1.2.2.1),.d (.int .u8 g2.To.2.1.2.2.2.1),.d (.int .u8 g2.To.2.1.2.2.2.2),.d (.int .u8 g2.To.2.2.1.1),.d (.int .u8 g2.To.2.2.1.2.1),.d (.int .u8 g2.To.2.2.1.2.2.1),.d (.int .u8 g2.To.2.2.1.2.2.2.1),.d (.int .u8 g2.To.2.2.1.2.2.2.2),.d (.int .u8 g2.To.2.2.2.1.1),.d (.int .u8 g2.To.2.2.2.1.2.1),.d (.int .u8 g2.To.2.2.2.1.2.2.1),.d (.int .u8 g2.To.2.2.2.1.2.2.2.1),.d (.int .u8 g2.To.2.2.2.1.2.2.2.2),.d (.int .u8 g2.To.2.2.2.2.1),.d (.int .u8 g2.To.2.2.2.2.2.1),.d (.int .u8 g2.To.2.2.2.2.2.2.1),.d (.int .u8 g2.To.2.2.2.2.2.2.2.1),.d (.int .u8 g2.To.2.2.2.2.2.2.2.2)])),(4,.cells ([(o_ c9),(i_ 0),(o_ c10),.own 3 (List.map Qc c11)])),(5,.cells ([(l_ x7.Alphabet),(i_ a12),(o_ a22),.own 3 (List.map Qc a24)]))]) M,Γ.n0 + 79⟩) h (fun z h=>?_) (fun z h=>?_)
        ·refine Tr.rgn (md rfl (md rfl (Rn.lenD tv rfl (Rn.bin tv rfl rfl rfl (md rfl ?_)))))
         refine Qck (decide (k23 < (alphabet1.length : Int))) (fun hb26=>?_) (fun hb26=>?_)
         ·replace h:=ifT hb26 h
          refine Rn.movD (gw rfl hb26) rfl (Rn.bin (gw rfl hb26) rfl rfl rfl (Rn.pickT (v:=(b_ (decide (k23 < 5)))) tv rfl hb26 rfl (Rn.nil ?_)))
          replace h:=si h; subst h
          exact Qg [] ⟨(sm rfl),(kPtr rfl),(kPtr rfl),(kPtr rfl),(sm rfl),(sm rfl),(sm rfl),tv⟩ ⟨⟨_,rfl,rfl,(.same rfl)⟩,⟨_,rfl,rfl,(.same rfl)⟩,⟨_,rfl,rfl,(.same rfl)⟩,tv⟩ rfl
         ·replace h:=ifF hb26 h
          refine Rn.sk (nw rfl hb26) (Rn.sk (nw rfl hb26) (Rn.pickF (v:=(b_ false)) tv rfl hb26 rfl (Rn.nil ?_)))
          replace h:=si h; subst h
          exact Qg [] ⟨(sm rfl),(kPtr rfl),(kPtr rfl),(kPtr rfl),(sm rfl),(sm rfl),(sm rfl),tv⟩ ⟨⟨_,rfl,rfl,(.same rfl)⟩,⟨_,rfl,rfl,(.same rfl)⟩,⟨_,rfl,rfl,(.same rfl)⟩,tv⟩ rfl
        ·obtain ⟨x27,rfl⟩ : ∃ x,x = z:=⟨_,rfl⟩
         refine Tr.cond rfl (fun hb28=>?_) (fun hb28=>?_)
         ·replace h:=bT hb28 h
          refine Tr.skip (toN ?_)
          refine Tr.cutB (fun (a40 : List Qd)=>⟨look [(0,(l_ alphabet1)),(3,.ptr (Γ.n0 + 3) 0),(4,.ptr (Γ.n0 + 4) 0),(5,.ptr (Γ.n0 + 5) 0),(6,(i_ i8)),(7,(i_ k23))],Qk Γ.n0 (bxs [(3,.cells ([.d (.int .u8 g2.States),.d (.int .u8 g2.Marks),.d (.int .u8 g2.To.1.1),.d (.int .u8 g2.To.1.2.1),.d (.int .u8 g2.To.1.2.2.1),.d (.int .u8 g2.To.1.2.2.2.1),.d (.int .u8 g2.To.1.2.2.2.2),.d (.int .u8 g2.To.2.1.1),.d (.int .u8 g2.To.2.1.2.1),.d (.int .u8 g2.To.2.1.2.2.1),.d (.int .u8 g2.To.2.1.2.2.2.1),.d (.int .u8 g2.To.2.1.2.2.2.2),.d (.int .u8 g2.To.2.2.1.1),.d (.int .u8 g2.To.2.2.1.2.1),.d (.int .u8 g2.To.2.2.1.2.2.1),.d (.int .u8 g2.To.2.2.1.2.2.2.1),.d (.int .u8 g2.To.2.2.1.2.2.2.2),.d (.int .u8 g2.To.2.2.2.1.1),.d (.int .u8 g2.To.2.2.2.1.2.1),.d (.int .u8 g2.To.2.2.2.1.2.2.1),.d (.int .u8 g2.To.2.2.2.1.2.2.2.1),.d (.int .u8 g2.To.2.2.2.1.2.2.2.2),.d (.int .u8 g2.To.2.2.2.2.1),.d (.int .u8 g2.To.2.2.2.2.2.1),.d (.int .u8 g2.To.2.2.2.2.2.2.1),.d (.int .u8 g2.To.2.2.2.2.2.2.2.1),.d (.int .u8 g2.To.2.2.2.2.2.2.2.2)])),(4,.cells ([(o_ c9),(i_ 0),(o_ c10),.own 3 (List.map Qc c11)])),(5,.cells ([(l_ x7.Alphabet),(i_ a12),(o_ a22),.own 3 (List.map Qc a40)]))]) M,Γ.n0 + 79⟩) h (fun z h=>?_) (fun z h=>?_)
          ·refine Tr.block (Tr.seq ?_)
           refine Tr.rgnD (by decide) ?_
           refine md rfl (md rfl (Rn.fldP (o':=2) tv rfl rfl ?_))
           obtain ⟨⟨⟩,h29,h⟩:=bnd h
           refine Rn.idxArr (o':=2 + (Int.toNat i8 * 5)) tv rfl rfl rfl h29 ?_
           obtain ⟨⟨⟩,h30,h⟩:=bnd h
           refine Rn.idxArr (o':=2 + (Int.toNat i8 * 5 + Int.toNat k23 * 1)) tv rfl rfl (Nat.add_assoc ..).symm h30 ?_
           obtain ⟨x31,h32,h⟩:=bnd h
           refine Rn.loadArr (e:=(fun (z : Int)=>.int .u8 z)) (pre:=[.d (.int .u8 g2.States),.d (.int .u8 g2.Marks)]) (post:=[]) tv rfl rfl (Qj rfl) rfl rfl h32 (Rn.conv tv rfl (Rn.fldP (o':=1) tv rfl rfl (Rn.load (v:=(i_ a12)) tv rfl (Qj rfl) rfl rfl (Rn.bin tv rfl rfl rfl ?_))))
           obtain ⟨s33,h34,h⟩:=bnd h
           refine Rn.bin tv rfl rfl (Qbiq h34) (md rfl ?_)
           refine Rn.nil ⟨rfl,?_⟩
           refine toN (sr ((md rfl (Rn.fldP (o':=1) tv rfl rfl (Rn.load (v:=(i_ a12)) tv rfl (Qj rfl) rfl rfl (Rn.bin tv rfl rfl rfl (Rn.nil (toN ?_))))))))
           refine Tr.cond rfl (fun hb35=>?_) (fun hb35=>?_)
           ·replace h:=ifT hb35 h
            refine Tr.rgnD (by decide) ?_
            refine Rn.fldP (o':=3) tv rfl rfl (Rn.loadT (cs':=[(l_ x7.Alphabet),(i_ a12),(o_ a22),.d (.lst 3 (List.map Qc a24))]) tv rfl rfl rfl rfl (md rfl (md rfl (md rfl ?_))))
            obtain ⟨x36,h37,h⟩:=bnd h
            refine Rn.idxD (e:=(eI .i64)) tv rfl rfl h37 (Rn.loadC (x:=.int .i64 x36) tv rfl (md rfl (Rn.build (v:=.agg [(i_ i8),(i_ x36),(i_ s33)]) tv rfl (Rn.bslice (xs:=[.agg [(i_ i8),(i_ x36),(i_ s33)]]) (cs:=[(i_ i8),(i_ x36),(i_ s33)]) tv rfl rfl rfl rfl ?_))))
            obtain ⟨x38,h39,h⟩:=bnd h
            refine Rn.app (e:=Qc) tv rfl rfl rfl (Qdb rfl rfl rfl) h39 rfl (Rn.fldP (o':=3) tv rfl rfl (Rn.storeO (cs':=[(l_ x7.Alphabet),(i_ a12),(o_ a22),.own 3 (List.map Qc x38)]) tv rfl rfl rfl rfl rfl ?_))
            refine Rn.nil ⟨rfl,?_⟩
            replace h:=si h; subst h
            exact Qg [74] ⟨(sm rfl),(kPtr rfl),(kPtr rfl),(kPtr rfl),(sm rfl),(sm rfl),tv⟩ ⟨⟨_,rfl,rfl,(.same rfl)⟩,⟨_,rfl,rfl,(.same rfl)⟩,⟨_,rfl,rfl,(.same rfl)⟩,tv⟩ rfl
           ·replace h:=ifF hb35 h
            refine Tr.skip ?_
            replace h:=si h; subst h
            exact Qg [] ⟨(sm rfl),(kPtr rfl),(kPtr rfl),(kPtr rfl),(sm rfl),(sm rfl),tv⟩ ⟨⟨_,rfl,rfl,(.same rfl)⟩,⟨_,rfl,rfl,(.same rfl)⟩,⟨_,rfl,rfl,(.same rfl)⟩,tv⟩ rfl
          ·obtain ⟨a40,rfl⟩ : ∃ x,x = z:=⟨_,rfl⟩
           refine Tr.rgn (md rfl (Rn.bin tv rfl rfl rfl (md rfl (Rn.nil ?_))))
           exact ⟨_,h,(by exact Qi ⟨(sm rfl),(kPtr rfl),(kPtr rfl),(kPtr rfl),(sm rfl),(sm rfl),tv⟩ ⟨⟨_,rfl,rfl,(.same rfl)⟩,⟨_,rfl,rfl,(.same rfl)⟩,⟨_,rfl,rfl,(.same rfl)⟩,tv⟩ rfl)⟩
         ·replace h:=bF hb28 h
          refine Tr.exit ?_
          replace h:=si h; subst h
          exact Qg [] ⟨(sm rfl),(kPtr rfl),(kPtr rfl),(kPtr rfl),(sm rfl),tv⟩ ⟨⟨_,rfl,rfl,(.same rfl)⟩,⟨_,rfl,rfl,(.same rfl)⟩,⟨_,rfl,rfl,(.same rfl)⟩,tv⟩ rfl
     ·obtain ⟨a41,a42⟩:=z
      refine Tr.rgn (md rfl (Rn.bin tv rfl rfl rfl (md rfl (Rn.nil ?_))))
      exact ⟨_,h,(by exact Qi ⟨(sm rfl),(kPtr rfl),(kPtr rfl),(kPtr rfl),(sm rfl),tv⟩ ⟨⟨_,rfl,rfl,(.same rfl)⟩,⟨_,rfl,rfl,(.same rfl)⟩,⟨_,rfl,rfl,(.same rfl)⟩,tv⟩ rfl)⟩
    ·replace h:=ifF hb16 h
     refine Tr.exit ?_
     replace h:=si h; subst h
     exact Qg [] ⟨(kPtr rfl),(kPtr rfl),tv⟩ ⟨⟨_,rfl,rfl,(.same rfl)⟩,⟨_,rfl,rfl,(.same rfl)⟩,⟨_,rfl,rfl,(.same rfl)⟩,tv⟩ rfl
  ·obtain ⟨c43,c44,c45,a46,a47,a48⟩:=z
   refine sr ((Rn.load (v:=.agg [(l_ x7.Alphabet),(i_ a46),(l_ a47),.d (.lst 3 (List.map Qc a48))]) tv rfl (Qj rfl) rfl rfl ?_))
   obtain ⟨x50,h49,h⟩:=bnd h
   refine Rn.call (args:=[.agg [(l_ x7.Alphabet),(i_ a46),(l_ a47),.d (.lst 3 (List.map Qc a48))]]) tv rfl (H_overseerref03_Canonical _ _ h49) pc9 (Rn.storeT (v:=(Qb x50)) (ds:=(Qe x50)) (cs':=(Qe x50)) tv rfl rfl rfl rfl rfl rfl rfl (nt ((Tr.ret ?_))))
   replace h:=si h; subst h
   exact ⟨.inr rfl,(Qb x50),Qel rfl rfl rfl rfl,fun _ _ _ _ h=>h,⟨tv,tv,tv,tv,tv⟩,fun k hk=>Qf hk⟩
end Go.Abs
