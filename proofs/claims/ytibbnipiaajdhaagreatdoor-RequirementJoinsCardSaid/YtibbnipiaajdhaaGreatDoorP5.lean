/-
  Part 5 of the proof: see the last text.
-/
import Derived.Test.YtibbnipiaajdhaaGreatDoorP4
set_option linter.unusedVariables false
set_option linter.unusedSimpArgs false
set_option linter.unusedSectionVars false
namespace Go.Abs
open Go
set_option maxRecDepth 10000
set_option maxHeartbeats 4000000
theorem Qy1 {P:Program} {c:Nat} (hcf:Qm P c=some Qi4) (fuel:Nat):Qgr P c (Q7 fuel):=by
 intro s1 v2 r h
 refine Qbw hcf rfl fun Γ M hP hnt hM=>?_
 subst hP
 refine Tr.init [(0,(l_ s1)),(1,(i_ v2))] rfl ?_
 unfold Q7 at h
 unfold Qi4
 refine sr ((md rfl (nt ((Tr.seq (sr ((md rfl (Rn.lenD tv rfl (md rfl (nt ((Tr.block ?_)))))))))))))
 refine Tr.loop (mk:=fun (x3:Int)=>⟨look [(0,(l_ s1)),(1,(i_ v2)),(7,(i_ (s1.length:Int))),(8,(i_ x3))],Qj Γ.n0 (bxs []) M,Γ.n0+19⟩) h (by exact Qi ⟨(sm rfl),(sm rfl),(sm rfl),(sm rfl),tv⟩ tv rfl) (fun k4 z h=>?_)
 ·obtain ⟨x3,rfl⟩ : ∃ x,x=z:=⟨_,rfl⟩
  replace h:_=some _:=h
  refine sr ((Rn.bin tv rfl rfl rfl (nt ((Tr.seq ?_)))))
  refine Tr.cond rfl (fun hb5=>?_) (fun hb5=>?_)
  ·replace h:=ifT hb5 h
   refine Tr.skip (toN (Tr.seq (Tr.block (sr ((md rfl (md rfl (nt ((sr ((md rfl (md rfl (md rfl ?_))))))))))))))
   obtain ⟨x6,h7,h⟩:=bnd h
   refine Rn.idxD (e:=(eI .i64)) tv rfl rfl h7 (Rn.loadC (x:=.int .i64 x6) tv rfl (Rn.bin tv rfl rfl rfl (Rn.nil (toN ?_))))
   refine Tr.cond rfl (fun hb8=>?_) (fun hb8=>?_)
   ·replace h:=bT hb8 h
    refine sr ((md rfl (md rfl (nt ((Tr.ret ?_))))))
    replace h:=si h; subst h
    exact ⟨.inr rfl,(i_ x3),rfl,fun _ _ _ _ h=>h,tv,mB⟩
   ·replace h:=bF hb8 h
    refine Tr.skip (toN (Tr.rgn (Rn.bin tv rfl rfl rfl (md rfl (Rn.nil ?_)))))
    exact ⟨_,h,(by exact Qi ⟨(sm rfl),(sm rfl),(sm rfl),(sm rfl),tv⟩ tv rfl)⟩
  ·replace h:=ifF hb5 h
   refine Tr.exit (toN (sr ((md rfl (nt ((Tr.ret ?_)))))))
   replace h:=si h; subst h
   exact ⟨.inr rfl,(i_ (-1)),rfl,fun _ _ _ _ h=>h,tv,mB⟩
theorem Qr6 {P:Program} {c:Nat} {Q7:(List Int)→Int→Option Int}
    (H_slices_Index_int:Qgr P 32 Q7) (hcf:Qm P c=some Qgx):Qev P c (Qu Q7):=by
 intro s1 v2 r h
 refine Qbw hcf rfl fun Γ M hP hnt hM=>?_
 subst hP
 refine Tr.init [(0,(l_ s1)),(1,(i_ v2))] rfl ?_
 unfold Qu at h
 unfold Qgx
 refine sr ((md rfl (nt ((sr ((md rfl (md rfl ?_))))))))
 obtain ⟨x4,h3,h⟩:=bnd h
 refine Rn.call (args:=[(l_ s1),(i_ v2)]) tv rfl (H_slices_Index_int _ _ _ h3) pc9 (Rn.bin tv rfl rfl rfl (md rfl (nt ((Tr.ret ?_)))))
 replace h:=si h; subst h
 exact ⟨.inr rfl,(b_ (decide (x4≥0))),rfl,fun _ _ _ _ h=>h,tv,mB⟩
theorem Qo6 {P:Program} {c:Nat} {Qu:(List Int)→Int→Option Bool}
    (H_slices_Contains_int:Qev P 48 Qu) (hcf:Qm P c=some Qf6) (fuel:Nat):Qej P c (Qv Qu fuel):=by
 intro l1 r h
 refine Qbw hcf rfl fun Γ M hP hnt hM=>?_
 subst hP
 refine Tr.init [(0,(l_ l1))] rfl ?_
 unfold Qv at h
 unfold Qf6
 refine sr ((md rfl (nt ((Tr.seq (sr ((md rfl (Rn.lenD tv rfl (md rfl (nt ((Tr.block ?_)))))))))))))
 refine Tr.loop (mk:=fun (x2:Int)=>⟨look [(0,(l_ l1)),(5,(l_ l1)),(6,(i_ (l1.length:Int))),(7,(i_ x2))],Qj Γ.n0 (bxs []) M,Γ.n0+24⟩) h (by exact Qi ⟨(sm rfl),(sm rfl),(sm rfl),(sm rfl),tv⟩ tv rfl) (fun k3 z h=>?_)
 ·obtain ⟨x2,rfl⟩ : ∃ x,x=z:=⟨_,rfl⟩
  replace h:_=some _:=h
  refine sr ((Rn.bin tv rfl rfl rfl (nt ((Tr.seq ?_)))))
  refine Tr.cond rfl (fun hb4=>?_) (fun hb4=>?_)
  ·replace h:=ifT hb4 h
   refine Tr.skip (toN (Tr.seq (Tr.block (sr ((md rfl ?_))))))
   obtain ⟨x5,h6,h⟩:=bnd h
   refine Rn.idxD (e:=(eI .i64)) tv rfl rfl h6 (Rn.loadC (x:=.int .i64 x5) tv rfl (md rfl (md rfl (nt ((Tr.seq ?_))))))
   refine Tr.cutB (fun (x8:Bool)=>⟨look [(0,(l_ l1)),(3,(i_ x2)),(4,(i_ x5)),(5,(l_ l1)),(6,(i_ (l1.length:Int))),(7,(i_ x2)),(17,(b_ x8))],Qj Γ.n0 (bxs []) M,Γ.n0+24⟩) h (fun z h=>?_) (fun z h=>?_)
   ·refine Tr.rgn (md rfl (Rn.bin tv rfl rfl rfl (md rfl ?_)))
    refine Qcb (decide (x5 < 0)) (fun hb7=>?_) (fun hb7=>?_)
    ·replace h:=ifT hb7 h
     refine Rn.sk (nw rfl hb7) (Rn.sk (nw rfl hb7) (Rn.pickT (v:=(b_ true)) tv rfl hb7 rfl (Rn.nil ?_)))
     replace h:=si h; subst h
     exact Qh [] ⟨(sm rfl),(sm rfl),(sm rfl),(sm rfl),(sm rfl),(sm rfl),(sm rfl),tv⟩ tv rfl
    ·replace h:=ifF hb7 h
     refine Rn.movD (gw rfl hb7) rfl (Rn.bin (gw rfl hb7) rfl rfl rfl (Rn.pickF (v:=(b_ (decide (x5≥32)))) tv rfl hb7 rfl (Rn.nil ?_)))
     replace h:=si h; subst h
     exact Qh [] ⟨(sm rfl),(sm rfl),(sm rfl),(sm rfl),(sm rfl),(sm rfl),(sm rfl),tv⟩ tv rfl
   ·obtain ⟨x8,rfl⟩ : ∃ x,x=z:=⟨_,rfl⟩
    refine Tr.cond rfl (fun hb9=>?_) (fun hb9=>?_)
    ·replace h:=bT hb9 h
     refine sr ((md rfl (nt ((Tr.ret ?_)))))
     replace h:=si h; subst h
     exact ⟨.inr rfl,(i_ 2),rfl,fun _ _ _ _ h=>h,tv,mB⟩
    ·replace h:=bF hb9 h
     refine Tr.skip (toN (sr ((md rfl (md rfl ?_)))))
     obtain ⟨x10,h11,h⟩:=bnd h
     refine Rn.slcH (e:=(eI .i64)) tv rfl rfl h11 (md rfl ?_)
     obtain ⟨x13,h12,h⟩:=bnd h
     refine Rn.call (args:=[(l_ x10),(i_ x5)]) tv rfl (H_slices_Contains_int _ _ _ h12) pc9 (Rn.nil (toN ?_))
     refine Tr.cond rfl (fun hb14=>?_) (fun hb14=>?_)
     ·replace h:=bT hb14 h
      refine sr ((md rfl (nt ((Tr.ret ?_)))))
      replace h:=si h; subst h
      exact ⟨.inr rfl,(i_ 8),rfl,fun _ _ _ _ h=>h,tv,mB⟩
     ·replace h:=bF hb14 h
      refine Tr.skip (toN (Tr.rgn (Rn.bin tv rfl rfl rfl (md rfl (Rn.nil ?_)))))
      exact ⟨_,h,(by exact Qi ⟨(sm rfl),(sm rfl),(sm rfl),(sm rfl),tv⟩ tv rfl)⟩
  ·replace h:=ifF hb4 h
   refine Tr.exit (toN (sr ((md rfl (nt ((Tr.ret ?_)))))))
   replace h:=si h; subst h
   exact ⟨.inr rfl,(i_ 0),rfl,fun _ _ _ _ h=>h,tv,mB⟩
theorem Qy2 {P:Program} {c:Nat} (hcf:Qm P c=some Qi5):Qgs P c (Q8):=by
 intro s1 r h
 refine Qbw hcf rfl fun Γ M hP hnt hM=>?_
 subst hP
 refine Tr.init [(0,(l_ s1))] rfl ?_
 unfold Q8 at h
 unfold Qi5
 refine sr ((Rn.movTC (v:=.nils 1) tv (nt ((Tr.seq (sr ((md rfl ?_))))))))
 refine Rn.isnil (e:=(eI .i64)) tv rfl h (fun b2 h=>?_)
 refine Rn.nil (toN ?_)
 refine Tr.cond rfl (fun hb3=>?_) (fun hb3=>?_)
 ·replace h:=bT hb3 h
  refine sr ((Rn.movTC (v:=.nils 1) tv (nt ((Tr.ret ?_)))))
  replace h:=si h; subst h
  exact ⟨.inr rfl,(.nils 1),rfl,(WkV.nilsO _).rd,tv,mB⟩
 ·replace h:=bF hb3 h
  refine Tr.skip (toN (sr ((Rn.bslice (xs:=[]) (cs:=[]) tv rfl rfl rfl rfl (md rfl ?_)))))
  obtain ⟨x4,h5,h⟩:=bnd h
  refine Rn.app0 (e:=(eI .i64)) tv rfl rfl rfl rfl Qbck h5 rfl (Rn.movTO tv rfl (nt ((Tr.ret ?_))))
  replace h:=si h; subst h
  exact ⟨.inr rfl,(o_ x4),rfl,fun _ _ _ _ h=>h,tv,mB⟩
theorem Qup {P:Program} {c:Nat} {Q8:(List Int)→Option ((List Int))} {f_slices_Sort_int:List Int→Option (List Int)}
    (H_slices_Clone_int:Qgs P 49 Q8)
    (H_slices_Sort_int:RowK P 50 (eI .i64) 1 [] f_slices_Sort_int) (hcf:Qm P c=some Qhe):Qff P c (Q6 Q8 f_slices_Sort_int):=by
 intro l1 r h
 refine Qbjr hcf (args':=[(f_ l1)]) rfl rfl rfl rfl rfl rfl fun Γ M hP hnt hG hM0 hM=>?_
 subst hP
 refine Tr.init [(0,(f_ l1))] rfl ?_
 unfold Q6 at h
 unfold Qhe
 refine sr ((Rn.movTC (v:=.nils 1) tv (nt ((sr ((Rn.mov (v:=(f_ l1)) tv rfl ?_)))))))
 obtain ⟨x3,h2,h⟩:=bnd h
 refine Rn.call (args:=[(f_ l1)]) tv rfl (fun M2 nb2=>ACalls.weak (args':=[(l_ l1)]) (H_slices_Clone_int _ _ h2 M2 nb2) (.cons fToD .nil) rfl) pc9 ?_
 refine Rn.movTO tv rfl (Rn.nil (toN ?_))
 obtain ⟨out4,hs5,h⟩:=bnd h
 obtain ⟨hl6,hn7,hr8⟩:=H_slices_Sort_int _ _ hs5
 refine Tr.seqW ⟨look [(3,(l_ out4))],Qj Γ.n0 (bxs []) M,Γ.n0+9⟩ ?_ ?_
 ·by_cases hx9:x3=[]
  ·obtain ⟨hyx,hn7b⟩:=hn7 hx9
   replace hyx:=hyx.symm
   subst hyx
   replace hn7:=And.intro tv hn7b
   refine Tr.rgn (Rn.mov (v:=(l_ x3)) tv rfl (Rn.call (args:=[.d (.lst 1 (List.map (eI .i64) x3))]) tv rfl (hn7.2) pc9 ?_))
   refine Rn.nil ⟨rfl,(by exact Qh [] ⟨(WkV.dem' rfl),tv⟩ tv rfl)⟩
  ·refine Tr.weak (by show WeakSt Γ _ ⟨look [(3,(o_ x3))],Qj Γ.n0 (bxs []) M,Γ.n0+9⟩; exact Qh [] ⟨(sm rfl),tv⟩ tv rfl) ?_
   refine Qbjs hG hM0 3 7 hx9 (fun _=>rfl) rfl rfl rfl ⟨rfl,(Qbex (fun _=>rfl)),tv⟩ tv (fun c10 hc11 hc12=>?_)
   refine Tr.rgn (Rn.mov (v:=.sl 1 (Γ.n0+7) 0 x3.length c10) tv rfl ?_)
   refine Rn.callRow (t:=7) (cs:=Qce (List.map (eI .i64) x3) ((c10 - x3.length) * 1)) (cs':=Qce (List.map (eI .i64) out4) ((c10 - x3.length) * 1)) tv rfl rfl (fun M2 hM2=>hr8 hc12 _ _ _ _ hM2) rfl ?_
   refine Rn.weak (by show WeakSt Γ _ ⟨look [(3,(l_ out4)),(6,(l_ out4)),(7,.tup [])],Qj Γ.n0 (bxs []) M,Γ.n0+9⟩; exact Qxn 7 _ rfl Qblr ⟨(fSlT (fun _=>rfl) hl6 hc11),(fSlT (fun _=>rfl) hl6 hc11),(.same rfl),tv⟩ tv rfl) ?_
   refine Rn.nil ⟨rfl,(by exact Qh [] ⟨(sm rfl),tv⟩ tv rfl)⟩
 ·refine sr ((Rn.movTD tv rfl (Rn.movTD tv rfl (nt ((Tr.ret ?_))))))
  replace h:=si h; subst h
  exact ⟨.inr rfl,(l_ out4),rfl,fun _ _ _ _ h=>h,tv,mB⟩
theorem Ql4 {P:Program} {c:Nat} (hcf:Qm P c=some Qe4):Qe3 P c (Qbj):=by
 intro state1 event2 x3 k4 r h
 intro M nb hk5
 refine Qbai hcf rfl M nb fun Γ hP hnt hn0 hM=>?_
 subst hP hn0
 refine Tr.init [(0,(i_ state1)),(1,(i_ event2)),(2,.ptr k4 0)] rfl ?_
 unfold Qbj at h
 unfold Qe4
 refine sr ((md rfl (md rfl (nt ((Tr.seq ?_))))))
 refine Tr.rgnD (by decide) ?_
 refine md rfl (Rn.bin tv rfl rfl rfl (Rn.load (v:=(l_ x3)) tv rfl (Q5s hM hk5) rfl rfl (Rn.lenD tv rfl ?_)))
 obtain ⟨s6,h7,h⟩:=bnd h
 refine Rn.bin tv rfl rfl (Qbhd h7) (Rn.load (v:=(l_ x3)) tv rfl (Q5s hM hk5) rfl rfl (md rfl ?_))
 obtain ⟨x8,h9,h⟩:=bnd h
 refine Rn.idxD (e:=(eI .i64)) tv rfl rfl h9 (Rn.loadC (x:=.int .i64 x8) tv rfl (md rfl (Rn.bin tv rfl rfl rfl (md rfl (md rfl ?_)))))
 refine Rn.nil ⟨rfl,?_⟩
 refine toN (Tr.ret ?_)
 replace h:=si h; subst h
 exact ⟨.inr rfl,.tup [(i_ s6),(b_ (x8 == event2))],res2 rfl rfl,(WkV.tup (.cons (.same rfl) (.cons (.same rfl) .nil))).rd,⟨tv,tv,tv⟩,mB⟩
theorem Qr7 {P:Program} {c:Nat} (hcf:Qm P c=some Qgy) (fuel:Nat):Qdt P c (Qo fuel):=by
 intro events1 marked2 next9 g3 cp4 g10 cp11 r h
 intro M nb hc5 ho7 hf6 hc12 ho14 hf13
 refine Qbai hcf rfl M nb fun Γ hP hnt hn0 hM=>?_
 subst hP hn0
 refine Tr.init [(0,(l_ events1)),(1,.clo g3 cp4),(2,.clo g10 cp11)] rfl ?_
 unfold Qo at h
 unfold Qgy
 refine sr ((Rn.alloc tv rfl (nt ((sr ((md rfl (Rn.buildT (v:=.agg [(l_ events1),(i_ 0),.nils 1,.nils 3]) tv rfl (Rn.alloc tv rfl (Rn.storeT (v:=.agg [(l_ events1),(i_ 0),.nils 1,.nils 3]) (ds:=[(l_ events1),(i_ 0),.nils 1,.nils 3]) (cs':=[(l_ events1),(i_ 0),.nils 1,.nils 3]) tv rfl rfl rfl rfl rfl rfl rfl (nt ((sr ((Rn.bslice (xs:=[(i_ 0)]) (cs:=[(i_ 0)]) tv rfl rfl rfl rfl (Rn.mkmap tv rfl (fun (x:Int)=>((i_ x):V)) (fun (x:Int)=>((i_ x):V)) (Rn.mapset (ek:=(fun (x:Int)=>((i_ x):V))) (ev:=(fun (x:Int)=>((i_ x):V))) (m:=([]:List (Int×Int))) (k:=0) (v:=0) (fun _ _=>rfl) (fun _=>rfl) (fun _=>rfl) tv rfl rfl rfl rfl rfl (Rn.mov (v:=.mp (Γ.n0+20)) tv rfl (Rn.movTF (v:=.sl 1 (Γ.n0+19) 0 1 1) tv rfl rfl (Rn.mov (v:=.mp (Γ.n0+20)) tv rfl (Rn.nil (toN ?_))))))))))))))))))))))
 refine Tr.cutB (fun ((states65,c66,c67,c68,a69,a70,c71):(List Int)×(List Int)×(List Int)×(List Qd)×(List Int)×(List Qd)×(List (Int×Int)))=>⟨look [(6,.ptr (Γ.n0+6) 0),(7,.ptr (Γ.n0+7) 0),(8,(o_ states65))],Qj Γ.n0 (bxs [(6,.cells ([(o_ c66),(i_ 0),(o_ c67),(Qk c68)])),(7,.cells ([(l_ events1),(i_ 0),(o_ a69),(Qk a70)])),(20,.mp (mapE (fun (x:Int)=>((i_ x):V)) (fun (x:Int)=>((i_ x):V)) 0 c71) (c71).length)]) M,Γ.n0+89⟩) h (fun z h=>?_) (fun z h=>?_)
 ·refine sr ((md rfl (nt ((Tr.block ?_)))))
  refine Tr.weak (by show WeakSt Γ _ ⟨look ((8,.own 1 (List.map (eI .i64) [0])) :: [(0,(l_ events1)),(1,.clo g3 cp4),(2,.clo g10 cp11),(6,.ptr (Γ.n0+6) 0),(7,.ptr (Γ.n0+7) 0),(9,.mp (Γ.n0+20)),(10,(i_ 0)),(17,(l_ events1)),(18,.agg [(l_ events1),(i_ 0),.nils 1,.nils 3]),(20,.mp (Γ.n0+20)),(21,.mp (Γ.n0+20))] ),Qj Γ.n0 (bxs [(6,.cells ([.nils 1,(i_ 0),.nils 1,.nils 3])),(7,.cells ([(l_ events1),(i_ 0),.nils 1,.nils 3])),(20,.mp (mapE (fun (x:Int)=>((i_ x):V)) (fun (x:Int)=>((i_ x):V)) 0 (setM ([]:List (Int×Int)) 0 0)) ((setM ([]:List (Int×Int)) 0 0)).length)]) M,Γ.n0+89⟩; exact Qbcn 19 8 [.int .i64 0] rfl rfl rfl rfl rfl ⟨(sm rfl),(kFun hM ho7),(kFun hM ho14),(kPtr rfl),(kPtr rfl),(kMp rfl),(sm rfl),(sm rfl),(sm rfl),(kMp rfl),(kMp rfl),tv⟩ ⟨bS rfl rfl rfl,bS rfl rfl rfl,⟨rfl,rfl⟩,tv⟩ rfl) ?_
  refine Tr.loop (mk:=fun ((states17,i18,c19,c20,c21,a22,a23,c24):(List Int)×Int×(List Int)×(List Int)×(List Qd)×(List Int)×(List Qd)×(List (Int×Int)))=>⟨look [(0,(l_ events1)),(1,.clo g3 cp4),(2,.clo g10 cp11),(6,.ptr (Γ.n0+6) 0),(7,.ptr (Γ.n0+7) 0),(8,(o_ states17)),(9,.mp (Γ.n0+20)),(10,(i_ i18))],Qj Γ.n0 (bxs [(6,.cells ([(o_ c19),(i_ 0),(o_ c20),(Qk c21)])),(7,.cells ([(l_ events1),(i_ 0),(o_ a22),(Qk a23)])),(20,.mp (mapE (fun (x:Int)=>((i_ x):V)) (fun (x:Int)=>((i_ x):V)) 0 c24) (c24).length)]) M,Γ.n0+89⟩) h (by exact Qi ⟨(sm rfl),(kFun hM ho7),(kFun hM ho14),(kPtr rfl),(kPtr rfl),(sm rfl),(kMp rfl),(sm rfl),tv⟩ ⟨⟨_,rfl,rfl,(.cons (WkV.nilsO _) (cS rfl (.cons (WkV.nilsO _) (.cons (WkV.nilsO _) .nil))))⟩,⟨_,rfl,rfl,(cS rfl (cS rfl (.cons (WkV.nilsO _) (.cons (WkV.nilsO _) .nil))))⟩,⟨rfl,rfl⟩,tv⟩ rfl) (fun k25 z h=>?_)
  ·obtain ⟨states17,i18,c19,c20,c21,a22,a23,c24⟩:=z
   replace h:_=some _:=h
   refine Tr.seq (sr ((md rfl (Rn.mov (v:=(l_ states17)) tv rfl (Rn.lenD tv rfl (Rn.bin tv rfl rfl rfl (Rn.nil (toN ?_))))))))
   refine Tr.cond rfl (fun hb26=>?_) (fun hb26=>?_)
   ·replace h:=ifT hb26 h
    refine Tr.skip (toN ?_)
    refine Tr.cutB (fun ((states61,a62,a63,c64):(List Int)×(List Int)×(List Qd)×(List (Int×Int)))=>⟨look [(0,(l_ events1)),(1,.clo g3 cp4),(2,.clo g10 cp11),(6,.ptr (Γ.n0+6) 0),(7,.ptr (Γ.n0+7) 0),(8,(o_ states61)),(9,.mp (Γ.n0+20)),(10,(i_ i18))],Qj Γ.n0 (bxs [(6,.cells ([(o_ c19),(i_ 0),(o_ c20),(Qk c21)])),(7,.cells ([(l_ events1),(i_ 0),(o_ a62),(Qk a63)])),(20,.mp (mapE (fun (x:Int)=>((i_ x):V)) (fun (x:Int)=>((i_ x):V)) 0 c64) (c64).length)]) M,Γ.n0+89⟩) h (fun z h=>?_) (fun z h=>?_)
    ·refine Tr.block ?_
     refine Tr.cutB (fun (a34:List Int)=>⟨look [(0,(l_ events1)),(1,.clo g3 cp4),(2,.clo g10 cp11),(6,.ptr (Γ.n0+6) 0),(7,.ptr (Γ.n0+7) 0),(8,(o_ states17)),(9,.mp (Γ.n0+20)),(10,(i_ i18))],Qj Γ.n0 (bxs [(6,.cells ([(o_ c19),(i_ 0),(o_ c20),(Qk c21)])),(7,.cells ([(l_ events1),(i_ 0),(o_ a34),(Qk a23)])),(20,.mp (mapE (fun (x:Int)=>((i_ x):V)) (fun (x:Int)=>((i_ x):V)) 0 c24) (c24).length)]) M,Γ.n0+89⟩) h (fun z h=>?_) (fun z h=>?_)
     ·refine sr ((Rn.mov (v:=.clo g3 cp4) tv rfl (Rn.mov (v:=(l_ states17)) tv rfl (md rfl ?_))))
      obtain ⟨x27,h28,h⟩:=bnd h
      refine Rn.idxD (e:=(eI .i64)) tv rfl rfl h28 (Rn.loadC (x:=.int .i64 x27) tv rfl ?_)
      obtain ⟨x30,h29,h⟩:=bnd h
      refine Rn.callvM (args:=[(i_ x27)] ++ cp4) tv rfl (by rw [hc5]; rfl) (fun M2 nb2 hn hx=>hf6 _ _ h29 M2 nb2 (by omega) ((Qbah hM).trans hx)) rfl pc9 ?_
      refine Rn.nil (toN ?_)
      refine Tr.cond rfl (fun hb31=>?_) (fun hb31=>?_)
      ·replace h:=bT hb31 h
       refine Tr.rgn (Rn.fldP (o':=2) tv rfl rfl (Rn.loadT (cs':=[(l_ events1),(i_ 0),(l_ a22),(Qk a23)]) tv rfl rfl rfl rfl (md rfl (Rn.bslice (xs:=[(i_ i18)]) (cs:=[(i_ i18)]) tv rfl rfl rfl rfl ?_))))
       obtain ⟨x32,h33,h⟩:=bnd h
       refine Rn.app (e:=(eI .i64)) tv rfl rfl rfl (Qdk rfl rfl rfl) h33 rfl (Rn.fldP (o':=2) tv rfl rfl (Rn.storeO (cs':=[(l_ events1),(i_ 0),(o_ x32),(Qk a23)]) tv rfl rfl rfl rfl rfl (Rn.nil ?_)))
       replace h:=si h; subst h
       exact Qh [37] ⟨(sm rfl),(kFun hM ho7),(kFun hM ho14),(kPtr rfl),(kPtr rfl),(sm rfl),(kMp rfl),(sm rfl),tv⟩ ⟨bS rfl rfl rfl,bS rfl rfl rfl,⟨rfl,rfl⟩,tv⟩ rfl
      ·replace h:=bF hb31 h
       refine Tr.skip ?_
       replace h:=si h; subst h
       exact Qh [] ⟨(sm rfl),(kFun hM ho7),(kFun hM ho14),(kPtr rfl),(kPtr rfl),(sm rfl),(kMp rfl),(sm rfl),tv⟩ ⟨bS rfl rfl rfl,bS rfl rfl rfl,⟨rfl,rfl⟩,tv⟩ rfl
     ·obtain ⟨a34,rfl⟩ : ∃ x,x=z:=⟨_,rfl⟩
      refine sr ((md rfl (Rn.lenD tv rfl (md rfl (nt ((Tr.block ?_)))))))
      refine Tr.loop (mk:=fun ((states35,x36,a37,c38):(List Int)×Int×(List Qd)×(List (Int×Int)))=>⟨look [(0,(l_ events1)),(1,.clo g3 cp4),(2,.clo g10 cp11),(6,.ptr (Γ.n0+6) 0),(7,.ptr (Γ.n0+7) 0),(8,(o_ states35)),(9,.mp (Γ.n0+20)),(10,(i_ i18)),(40,(l_ events1)),(41,(i_ (events1.length:Int))),(42,(i_ x36))],Qj Γ.n0 (bxs [(6,.cells ([(o_ c19),(i_ 0),(o_ c20),(Qk c21)])),(7,.cells ([(l_ events1),(i_ 0),(o_ a34),(Qk a37)])),(20,.mp (mapE (fun (x:Int)=>((i_ x):V)) (fun (x:Int)=>((i_ x):V)) 0 c38) (c38).length)]) M,Γ.n0+89⟩) h (by exact Qi ⟨(sm rfl),(kFun hM ho7),(kFun hM ho14),(kPtr rfl),(kPtr rfl),(sm rfl),(kMp rfl),(sm rfl),(sm rfl),(sm rfl),(sm rfl),tv⟩ ⟨bS rfl rfl rfl,bS rfl rfl rfl,⟨rfl,rfl⟩,tv⟩ rfl) (fun k39 z h=>?_)
      ·obtain ⟨states35,x36,a37,c38⟩:=z
       replace h:_=some _:=h
       refine sr ((Rn.bin tv rfl rfl rfl (nt ((Tr.seq ?_)))))
       refine Tr.cond rfl (fun hb40=>?_) (fun hb40=>?_)
       ·replace h:=ifT hb40 h
        refine Tr.skip (toN ?_)
        refine Tr.cutB (fun ((states58,a59,c60):(List Int)×(List Qd)×(List (Int×Int)))=>⟨look [(0,(l_ events1)),(1,.clo g3 cp4),(2,.clo g10 cp11),(6,.ptr (Γ.n0+6) 0),(7,.ptr (Γ.n0+7) 0),(8,(o_ states58)),(9,.mp (Γ.n0+20)),(10,(i_ i18)),(40,(l_ events1)),(41,(i_ (events1.length:Int))),(42,(i_ x36))],Qj Γ.n0 (bxs [(6,.cells ([(o_ c19),(i_ 0),(o_ c20),(Qk c21)])),(7,.cells ([(l_ events1),(i_ 0),(o_ a34),(Qk a59)])),(20,.mp (mapE (fun (x:Int)=>((i_ x):V)) (fun (x:Int)=>((i_ x):V)) 0 c60) (c60).length)]) M,Γ.n0+89⟩) h (fun z h=>?_) (fun z h=>?_)
        ·refine Tr.block (Tr.seq (Tr.rgn ?_))
         obtain ⟨x41,h42,h⟩:=bnd h
         refine Rn.idxD (e:=(eI .i64)) tv rfl rfl h42 (Rn.loadC (x:=.int .i64 x41) tv rfl (md rfl (nt ((sr ((Rn.mov (v:=.clo g10 cp11) tv rfl (Rn.mov (v:=(l_ states35)) tv rfl (md rfl ?_)))))))))
         obtain ⟨x43,h44,h⟩:=bnd h
         refine Rn.idxD (e:=(eI .i64)) tv rfl rfl h44 (Rn.loadC (x:=.int .i64 x43) tv rfl (md rfl ?_))
         obtain ⟨⟨r47,r48⟩,h45,h⟩:=bnd h
         refine Rn.callvM (args:=[(i_ x43),(i_ x41)] ++ cp11) tv rfl (by rw [hc12]; rfl) (fun M2 nb2 hn hx=>hf13 _ _ _ h45 M2 nb2 (by omega) ((Qbah hM).trans hx)) rfl pc9 ?_
         refine Rn.mov (v:=.tup [(i_ r47),(b_ r48)]) tv rfl (Rn.ext (v:=(i_ r47)) (vs:=[(i_ r47),(b_ r48)]) tv rfl rfl rfl (Rn.ext (v:=(b_ r48)) (vs:=[(i_ r47),(b_ r48)]) tv rfl rfl rfl (md rfl (md rfl (nt ((Tr.seq (sr ((md rfl (Rn.un tv rfl rfl (Rn.nil (toN ?_)))))))))))))
         refine Tr.cond rfl (fun hb49=>?_) (fun hb49=>?_)
         ·have hb49:=nT' hb49
          replace h:=bF hb49 h
          refine Tr.exit ?_
          replace h:=si h; subst h
          exact Qh [] ⟨(sm rfl),(kFun hM ho7),(kFun hM ho14),(kPtr rfl),(kPtr rfl),(sm rfl),(kMp rfl),(sm rfl),(sm rfl),(sm rfl),(sm rfl),tv⟩ ⟨bS rfl rfl rfl,bS rfl rfl rfl,⟨rfl,rfl⟩,tv⟩ rfl
         ·have hb49:=nF' hb49
          replace h:=bT hb49 h
          refine Tr.skip (toN (sr ((Rn.mov (v:=.mp (Γ.n0+20)) tv rfl (md rfl (Rn.lookupC (ek:=(fun (x:Int)=>((i_ x):V))) (ev:=(fun (x:Int)=>((i_ x):V))) (m:=c38) (k:=r47) (fun _ _=>rfl) (fun _=>rfl) (fun _=>rfl) 0 rfl tv rfl rfl rfl (Rn.mov (v:=.tup [(i_ (getM c38 r47 0)),(b_ (hasM c38 r47))]) tv rfl (Rn.ext (v:=(i_ (getM c38 r47 0))) (vs:=[(i_ (getM c38 r47 0)),(b_ (hasM c38 r47))]) tv rfl rfl rfl (Rn.ext (v:=(b_ (hasM c38 r47))) (vs:=[(i_ (getM c38 r47 0)),(b_ (hasM c38 r47))]) tv rfl rfl rfl (md rfl (md rfl (Rn.nil (toN ?_)))))))))))))
          refine Tr.cutB (fun ((states53,k54,c55):(List Int)×Int×(List (Int×Int)))=>⟨look [(0,(l_ events1)),(1,.clo g3 cp4),(2,.clo g10 cp11),(6,.ptr (Γ.n0+6) 0),(7,.ptr (Γ.n0+7) 0),(8,(o_ states53)),(9,.mp (Γ.n0+20)),(10,(i_ i18)),(12,(i_ x41)),(15,(i_ k54)),(40,(l_ events1)),(41,(i_ (events1.length:Int))),(42,(i_ x36))],Qj Γ.n0 (bxs [(6,.cells ([(o_ c19),(i_ 0),(o_ c20),(Qk c21)])),(7,.cells ([(l_ events1),(i_ 0),(o_ a34),(Qk a37)])),(20,.mp (mapE (fun (x:Int)=>((i_ x):V)) (fun (x:Int)=>((i_ x):V)) 0 c55) (c55).length)]) M,Γ.n0+89⟩) h (fun z h=>?_) (fun z h=>?_)
          ·refine sr ((md rfl (Rn.un tv rfl rfl (Rn.nil (toN ?_)))))
           refine Tr.cond rfl (fun hb50=>?_) (fun hb50=>?_)
           ·have hb50:=nT' hb50
            replace h:=bF hb50 h
            refine sr ((Rn.mov (v:=(l_ states35)) tv rfl (Rn.lenD tv rfl (md rfl (nt ((Tr.rgn (Rn.mov (v:=.mp (Γ.n0+20)) tv rfl (md rfl (md rfl (Rn.movTO tv rfl (md rfl (Rn.bslice (xs:=[(i_ r47)]) (cs:=[(i_ r47)]) tv rfl rfl rfl rfl ?_)))))))))))))
            obtain ⟨x51,h52,h⟩:=bnd h
            refine Rn.app (e:=(eI .i64)) tv rfl rfl rfl (Qdk rfl rfl rfl) h52 rfl (Rn.mapset (ek:=(fun (x:Int)=>((i_ x):V))) (ev:=(fun (x:Int)=>((i_ x):V))) (m:=c38) (k:=r47) (v:=(states35.length:Int)) (fun _ _=>rfl) (fun _=>rfl) (fun _=>rfl) tv rfl rfl rfl rfl rfl (Rn.movTO tv rfl (Rn.nil ?_)))
            replace h:=si h; subst h
            exact Qh [73] ⟨(sm rfl),(kFun hM ho7),(kFun hM ho14),(kPtr rfl),(kPtr rfl),(sm rfl),(kMp rfl),(sm rfl),(sm rfl),(sm rfl),(sm rfl),(sm rfl),(sm rfl),tv⟩ ⟨bS rfl rfl rfl,bS rfl rfl rfl,⟨rfl,rfl⟩,tv⟩ rfl
           ·have hb50:=nF' hb50
            replace h:=bT hb50 h
            refine Tr.skip ?_
            replace h:=si h; subst h
            exact Qh [] ⟨(sm rfl),(kFun hM ho7),(kFun hM ho14),(kPtr rfl),(kPtr rfl),(sm rfl),(kMp rfl),(sm rfl),(sm rfl),(sm rfl),(sm rfl),(sm rfl),(sm rfl),tv⟩ ⟨bS rfl rfl rfl,bS rfl rfl rfl,⟨rfl,rfl⟩,tv⟩ rfl
          ·obtain ⟨states53,k54,c55⟩:=z
           refine Tr.rgn (Rn.fldP (o':=3) tv rfl rfl (Rn.loadT (cs':=[(l_ events1),(i_ 0),(o_ a34),(Ql a37)]) tv rfl rfl rfl rfl (md rfl (md rfl (md rfl (Rn.build (v:=.agg [(i_ i18),(i_ x41),(i_ k54)]) tv rfl (Rn.bslice (xs:=[.agg [(i_ i18),(i_ x41),(i_ k54)]]) (cs:=[(i_ i18),(i_ x41),(i_ k54)]) tv rfl rfl rfl rfl ?_)))))))
           obtain ⟨x56,h57,h⟩:=bnd h
           refine Rn.app (e:=Qb4) tv rfl rfl rfl (Qdk rfl rfl rfl) h57 rfl (Rn.fldP (o':=3) tv rfl rfl (Rn.storeO (cs':=[(l_ events1),(i_ 0),(o_ a34),(Qk x56)]) tv rfl rfl rfl rfl rfl (Rn.nil ?_)))
           replace h:=si h; subst h
           exact Qh [81] ⟨(sm rfl),(kFun hM ho7),(kFun hM ho14),(kPtr rfl),(kPtr rfl),(sm rfl),(kMp rfl),(sm rfl),(sm rfl),(sm rfl),(sm rfl),tv⟩ ⟨bS rfl rfl rfl,bS rfl rfl rfl,⟨rfl,rfl⟩,tv⟩ rfl
        ·obtain ⟨states58,a59,c60⟩:=z
         refine Tr.rgn (Rn.bin tv rfl rfl rfl (md rfl (Rn.nil ?_)))
         exact ⟨_,h,(by exact Qi ⟨(sm rfl),(kFun hM ho7),(kFun hM ho14),(kPtr rfl),(kPtr rfl),(sm rfl),(kMp rfl),(sm rfl),(sm rfl),(sm rfl),(sm rfl),tv⟩ ⟨bS rfl rfl rfl,bS rfl rfl rfl,⟨rfl,rfl⟩,tv⟩ rfl)⟩
       ·replace h:=ifF hb40 h
        refine Tr.exit ?_
        replace h:=si h; subst h
        exact Qh [] ⟨(sm rfl),(kFun hM ho7),(kFun hM ho14),(kPtr rfl),(kPtr rfl),(sm rfl),(kMp rfl),(sm rfl),tv⟩ ⟨bS rfl rfl rfl,bS rfl rfl rfl,⟨rfl,rfl⟩,tv⟩ rfl
    ·obtain ⟨states61,a62,a63,c64⟩:=z
     refine Tr.rgn (md rfl (Rn.bin tv rfl rfl rfl (md rfl (Rn.nil ?_))))
     exact ⟨_,h,(by exact Qi ⟨(sm rfl),(kFun hM ho7),(kFun hM ho14),(kPtr rfl),(kPtr rfl),(sm rfl),(kMp rfl),(sm rfl),tv⟩ ⟨bS rfl rfl rfl,bS rfl rfl rfl,⟨rfl,rfl⟩,tv⟩ rfl)⟩
   ·replace h:=ifF hb26 h
    refine Tr.exit ?_
    replace h:=si h; subst h
    exact Qh [] ⟨(kPtr rfl),(kPtr rfl),(sm rfl),tv⟩ ⟨bS rfl rfl rfl,bS rfl rfl rfl,⟨rfl,rfl⟩,tv⟩ rfl
 ·obtain ⟨states65,c66,c67,c68,a69,a70,c71⟩:=z
  refine sr ((Rn.mov (v:=(l_ states65)) tv rfl (Rn.lenD tv rfl (Rn.fldP (o':=1) tv rfl rfl (Rn.store (v:=(i_ (states65.length:Int))) (cs':=[(l_ events1),(i_ (states65.length:Int)),(o_ a69),(Qk a70)]) tv rfl rfl rfl rfl rfl rfl (nt ((sr ((lB (v:=.agg [(l_ events1),(i_ (states65.length:Int)),(l_ a69),(Ql a70)]) rfl rfl rfl rfl (Rn.storeT (v:=.agg [(l_ events1),(i_ (states65.length:Int)),(l_ a69),(Ql a70)]) (ds:=[(l_ events1),(i_ (states65.length:Int)),(l_ a69),(Ql a70)]) (cs':=[(l_ events1),(i_ (states65.length:Int)),(l_ a69),(Ql a70)]) tv rfl rfl rfl rfl rfl rfl rfl (nt ((Tr.ret ?_))))))))))))))
  replace h:=si h; subst h
  exact ⟨.inr rfl,(.agg [(l_ events1),(i_ (states65.length:Int)),(l_ a69),(Ql a70)]),Qeo rfl rfl rfl rfl,fun _ _ _ _ h=>h,⟨tv,tv,tv,tv,tv⟩,mB⟩
theorem Qwu {P:Program} {c:Nat} (hcf:Qm P c=some Qh4):Qfs P c (Q9):=by
 intro state1 r h
 refine Qbw hcf rfl fun Γ M hP hnt hM=>?_
 subst hP
 refine Tr.init [(0,(i_ state1))] rfl ?_
 unfold Q9 at h
 unfold Qh4
 refine sr ((md rfl (nt ((sr ((md rfl (Rn.bin tv rfl rfl rfl (md rfl (nt ((Tr.ret ?_))))))))))))
 replace h:=si h; subst h
 exact ⟨.inr rfl,(b_ (state1 == 0)),rfl,fun _ _ _ _ h=>h,tv,mB⟩
theorem Qn5 {P:Program} {c:Nat} {Qv:(List Int)→Option Int} {Qo:(List Int)→(Int→Option Bool)→(Int→Int→Option (Int×Bool))→Option Qa} {Q6:(List Int)→Option ((List Int))} {Q9:Int→Option Bool} {Qbj:Int→Int→(List Int)→Option (Int×Bool)}
    (H_requirement_distinct:Qej P 21 Qv)
    (H_requirement_explore:Qdt P 22 Qo)
    (H_requirement_sorted:Qff P 23 Q6)
    (H_requirement_first:Qfs P 24 Q9)
    (H_requirement_Alternate_1:Qe3 P 25 Qbj) (hcf:Qm P c=some Qfu):Qft P c (Qbq Qv Qo Q6 Q9 Qbj):=by
 intro events1 r h
 refine Qbw hcf rfl fun Γ M hP hnt hM=>?_
 subst hP
 refine Tr.init [(0,(l_ events1))] rfl ?_
 unfold Qbq at h
 unfold Qfu
 refine sr ((Rn.box (v:=(l_ events1)) (cs:=[(l_ events1)]) tv rfl rfl rfl rfl rfl (Rn.alloc tv rfl (md rfl (nt ((Tr.seq (sr ((lB (v:=(l_ events1)) rfl rfl rfl rfl (Rn.lenD tv rfl (Rn.bin tv rfl rfl rfl (Rn.nil (toN ?_))))))))))))))
 refine Tr.cond rfl (fun hb2=>?_) (fun hb2=>?_)
 ·replace h:=bT hb2 h
  refine sr ((Rn.build (v:=.agg [.nils 1,(i_ 0),.nils 1,.nils 3]) tv rfl (Rn.storeT (v:=.agg [.nils 1,(i_ 0),.nils 1,.nils 3]) (ds:=[.nils 1,(i_ 0),.nils 1,.nils 3]) (cs':=[.nils 1,(i_ 0),.nils 1,.nils 3]) tv rfl rfl rfl rfl rfl rfl rfl (md rfl (nt ((Tr.ret ?_)))))))
  replace h:=si h; subst h
  exact ⟨.inr rfl,.tup [.agg [.nils 1,(i_ 0),.nils 1,.nils 3],(i_ 12)],res2 (Qeo rfl rfl rfl rfl) rfl,(WkV.tup (.cons (WkV.agg (.cons (WkV.nilsD _) (.cons (.same rfl) (.cons (WkV.nilsD _) (.cons (WkV.nilsD _) .nil))))) (.cons (.same rfl) .nil))).rd,⟨⟨tv,tv,tv,tv,tv⟩,tv,tv⟩,mB⟩
 ·replace h:=bF hb2 h
  refine Tr.skip (toN (Tr.seq (sr ((lB (v:=(l_ events1)) rfl rfl rfl rfl ?_)))))
  obtain ⟨x4,h3,h⟩:=bnd h
  refine Rn.call (args:=[(l_ events1)]) tv rfl (H_requirement_distinct _ _ h3) pc9 (md rfl (nt ((sr ((md rfl (Rn.bin tv rfl rfl rfl (Rn.nil (toN ?_)))))))))
  refine Tr.cond rfl (fun hb5=>?_) (fun hb5=>?_)
  ·replace h:=bT hb5 h
   refine sr ((Rn.build (v:=.agg [.nils 1,(i_ 0),.nils 1,.nils 3]) tv rfl (md rfl (Rn.storeT (v:=.agg [.nils 1,(i_ 0),.nils 1,.nils 3]) (ds:=[.nils 1,(i_ 0),.nils 1,.nils 3]) (cs':=[.nils 1,(i_ 0),.nils 1,.nils 3]) tv rfl rfl rfl rfl rfl rfl rfl (md rfl (nt ((Tr.ret ?_))))))))
   replace h:=si h; subst h
   exact ⟨.inr rfl,.tup [.agg [.nils 1,(i_ 0),.nils 1,.nils 3],(i_ x4)],res2 (Qeo rfl rfl rfl rfl) rfl,(WkV.tup (.cons (WkV.agg (.cons (WkV.nilsD _) (.cons (.same rfl) (.cons (WkV.nilsD _) (.cons (WkV.nilsD _) .nil))))) (.cons (.same rfl) .nil))).rd,⟨⟨tv,tv,tv,tv,tv⟩,tv,tv⟩,mB⟩
  ·replace h:=bF hb5 h
   refine Tr.skip (toN (sr ((lB (v:=(l_ events1)) rfl rfl rfl rfl ?_))))
   obtain ⟨x7,h6,h⟩:=bnd h
   refine Rn.call (args:=[(l_ events1)]) tv rfl (H_requirement_sorted _ _ h6) pc9 (Rn.k (v:=.clo 25 [.ptr (Γ.n0+1) 0]) tv rfl rfl rfl ?_)
   obtain ⟨x16,h15,h⟩:=bnd h
   refine Rn.callM (args:=[(l_ x7),.clo 24 [],.clo 25 [.ptr (Γ.n0+1) 0]]) tv rfl (fun M2 nb2 hn hx=>H_requirement_explore _ _ _ 24 [] 25 [.ptr (Γ.n0+1) 0] _ h15 M2 nb2 rfl tv (fun a8 r9 h10 M3 nb3 hn3 hx3=>H_requirement_first a8 r9 h10 M3 nb3 ) rfl ⟨Q8s (hx _ _ (Qbv rfl)),tv⟩ (fun a11 a12 r13 h14 M3 nb3 hn3 hx3=>H_requirement_Alternate_1 a11 a12 events1 (Γ.n0+1) r13 h14 M3 nb3 ((hx.trans hx3) _ _ (Qbv rfl)))) rfl pc9 ?_
   refine Rn.storeT (v:=(Qb x16)) (ds:=(Qc x16)) (cs':=(Qc x16)) tv rfl rfl rfl rfl rfl rfl rfl (md rfl (nt ((Tr.ret ?_))))
   replace h:=si h; subst h
   exact ⟨.inr rfl,.tup [(Qb x16),(i_ 0)],res2 (Qeo rfl rfl rfl rfl) rfl,(WkV.tup (.cons (.same rfl) (.cons (.same rfl) .nil))).rd,⟨⟨tv,tv,tv,tv,tv⟩,tv,tv⟩,mB⟩
theorem Qwv {P:Program} {c:Nat} (hcf:Qm P c=some Qh6) (fuel:Nat):Qh5 P c (Qcl fuel):=by
 intro xset1 n2 r h
 refine Qbw hcf rfl fun Γ M hP hnt hM=>?_
 subst hP
 refine Tr.init [(0,(l_ xset1)),(1,(i_ n2))] rfl ?_
 unfold Qcl at h
 unfold Qh6
 refine sr ((md rfl (nt ((Tr.seq (sr ((md rfl (Rn.lenD tv rfl (md rfl (nt ((Tr.block ?_)))))))))))))
 refine Tr.loop (mk:=fun (x3:Int)=>⟨look [(0,(l_ xset1)),(1,(i_ n2)),(7,(l_ xset1)),(8,(i_ (xset1.length:Int))),(9,(i_ x3))],Qj Γ.n0 (bxs []) M,Γ.n0+33⟩) h (by exact Qi ⟨(sm rfl),(sm rfl),(sm rfl),(sm rfl),(sm rfl),tv⟩ tv rfl) (fun k4 z h=>?_)
 ·obtain ⟨x3,rfl⟩ : ∃ x,x=z:=⟨_,rfl⟩
  replace h:_=some _:=h
  refine sr ((Rn.bin tv rfl rfl rfl (nt ((Tr.seq ?_)))))
  refine Tr.cond rfl (fun hb5=>?_) (fun hb5=>?_)
  ·replace h:=ifT hb5 h
   refine Tr.skip (toN (Tr.seq (Tr.block (sr ((md rfl ?_))))))
   obtain ⟨x6,h7,h⟩:=bnd h
   refine Rn.idxD (e:=(eI .i64)) tv rfl rfl h7 (Rn.loadC (x:=.int .i64 x6) tv rfl (md rfl (md rfl (nt ((Tr.seq ?_))))))
   refine Tr.cutB (fun (x9:Bool)=>⟨look [(0,(l_ xset1)),(1,(i_ n2)),(5,(i_ x3)),(6,(i_ x6)),(7,(l_ xset1)),(8,(i_ (xset1.length:Int))),(9,(i_ x3)),(20,(b_ x9))],Qj Γ.n0 (bxs []) M,Γ.n0+33⟩) h (fun z h=>?_) (fun z h=>?_)
   ·refine Tr.rgn (md rfl (Rn.bin tv rfl rfl rfl (md rfl ?_)))
    refine Qcb (decide (x6 < 0)) (fun hb8=>?_) (fun hb8=>?_)
    ·replace h:=ifT hb8 h
     refine Rn.sk (nw rfl hb8) (Rn.sk (nw rfl hb8) (Rn.sk (nw rfl hb8) (Rn.pickT (v:=(b_ true)) tv rfl hb8 rfl (Rn.nil ?_))))
     replace h:=si h; subst h
     exact Qh [] ⟨(sm rfl),(sm rfl),(sm rfl),(sm rfl),(sm rfl),(sm rfl),(sm rfl),(sm rfl),tv⟩ tv rfl
    ·replace h:=ifF hb8 h
     refine Rn.movD (gw rfl hb8) rfl (Rn.movD (gw rfl hb8) rfl (Rn.bin (gw rfl hb8) rfl rfl rfl (Rn.pickF (v:=(b_ (decide (x6≥n2)))) tv rfl hb8 rfl (Rn.nil ?_))))
     replace h:=si h; subst h
     exact Qh [] ⟨(sm rfl),(sm rfl),(sm rfl),(sm rfl),(sm rfl),(sm rfl),(sm rfl),(sm rfl),tv⟩ tv rfl
   ·obtain ⟨x9,rfl⟩ : ∃ x,x=z:=⟨_,rfl⟩
    refine Tr.cond rfl (fun hb10=>?_) (fun hb10=>?_)
    ·replace h:=bT hb10 h
     refine sr ((md rfl (nt ((Tr.ret ?_)))))
     replace h:=si h; subst h
     exact ⟨.inr rfl,(i_ 2),rfl,fun _ _ _ _ h=>h,tv,mB⟩
    ·replace h:=bF hb10 h
     refine Tr.skip (toN ?_)
     refine Tr.cutB (fun (x14:Bool)=>⟨look [(0,(l_ xset1)),(1,(i_ n2)),(7,(l_ xset1)),(8,(i_ (xset1.length:Int))),(9,(i_ x3)),(31,(b_ x14))],Qj Γ.n0 (bxs []) M,Γ.n0+33⟩) h (fun z h=>?_) (fun z h=>?_)
     ·refine Tr.rgn (md rfl (Rn.bin tv rfl rfl rfl (md rfl ?_)))
      refine Qcb (decide (x3 > 0)) (fun hb11=>?_) (fun hb11=>?_)
      ·replace h:=ifT hb11 h
       refine Rn.movD (gw rfl hb11) rfl (Rn.movD (gw rfl hb11) rfl (Rn.movD (gw rfl hb11) rfl (Rn.bin (gw rfl hb11) rfl rfl rfl ?_)))
       obtain ⟨x12,h13,h⟩:=bnd h
       refine Rn.idxD (e:=(eI .i64)) (gw rfl hb11) rfl rfl h13 (Rn.loadC (x:=.int .i64 x12) (gw rfl hb11) rfl (Rn.bin (gw rfl hb11) rfl rfl rfl (Rn.pickT (v:=(b_ (decide (x6≤x12)))) tv rfl hb11 rfl (Rn.nil ?_))))
       replace h:=si h; subst h
       exact Qh [] ⟨(sm rfl),(sm rfl),(sm rfl),(sm rfl),(sm rfl),(sm rfl),tv⟩ tv rfl
      ·replace h:=ifF hb11 h
       refine Rn.sk (nw rfl hb11) (Rn.sk (nw rfl hb11) (Rn.sk (nw rfl hb11) (Rn.sk (nw rfl hb11) (Rn.sk (nw rfl hb11) (Rn.sk (nw rfl hb11) (Rn.sk (nw rfl hb11) (Rn.pickF (v:=(b_ false)) tv rfl hb11 rfl (Rn.nil ?_))))))))
       replace h:=si h; subst h
       exact Qh [] ⟨(sm rfl),(sm rfl),(sm rfl),(sm rfl),(sm rfl),(sm rfl),tv⟩ tv rfl
     ·obtain ⟨x14,rfl⟩ : ∃ x,x=z:=⟨_,rfl⟩
      refine Tr.cond rfl (fun hb15=>?_) (fun hb15=>?_)
      ·replace h:=bT hb15 h
       refine sr ((md rfl (nt ((Tr.ret ?_)))))
       replace h:=si h; subst h
       exact ⟨.inr rfl,(i_ 5),rfl,fun _ _ _ _ h=>h,tv,mB⟩
      ·replace h:=bF hb15 h
       refine Tr.skip (toN (Tr.rgn (Rn.bin tv rfl rfl rfl (md rfl (Rn.nil ?_)))))
       exact ⟨_,h,(by exact Qi ⟨(sm rfl),(sm rfl),(sm rfl),(sm rfl),(sm rfl),tv⟩ tv rfl)⟩
  ·replace h:=ifF hb5 h
   refine Tr.exit (toN (sr ((md rfl (nt ((Tr.ret ?_)))))))
   replace h:=si h; subst h
   exact ⟨.inr rfl,(i_ 0),rfl,fun _ _ _ _ h=>h,tv,mB⟩
theorem Q25 {P:Program} {c:Nat} (hcf:Qm P c=some Qk5) (fuel:Nat):Qfy P c (Qw fuel):=by
 intro a1 b2 keep3 g4 cp5 r h
 intro M nb hc6 ho8 hf7
 refine Qbai hcf rfl M nb fun Γ hP hnt hn0 hM=>?_
 subst hP hn0
 refine Tr.init [(0,(l_ a1)),(1,(l_ b2)),(2,.clo g4 cp5)] rfl ?_
 unfold Qw at h
 unfold Qk5
 refine sr ((Rn.movTC (v:=.nils 1) tv (nt ((sr ((Rn.movTC (v:=.nils 1) tv (Rn.nil (toN ?_)))))))))
 refine Tr.cutB (fun (out51:List Int)=>⟨look [(7,(o_ out51))],Qj Γ.n0 (bxs []) M,Γ.n0+74⟩) h (fun z h=>?_) (fun z h=>?_)
 ·refine Tr.block ?_
  refine Tr.loop (mk:=fun ((a11,b12,out13):(List Int)×(List Int)×(List Int))=>⟨look [(0,(l_ a11)),(1,(l_ b12)),(2,.clo g4 cp5),(7,(o_ out13))],Qj Γ.n0 (bxs []) M,Γ.n0+74⟩) h (by exact Qi ⟨(sm rfl),(sm rfl),(kFun hM ho8),(WkV.nilsO _),tv⟩ tv rfl) (fun k14 z h=>?_)
  ·obtain ⟨a11,b12,out13⟩:=z
   replace h:_=some _:=h
   refine Tr.seq ?_
   refine Tr.cutB (fun (x16:Bool)=>⟨look [(0,(l_ a11)),(1,(l_ b12)),(2,.clo g4 cp5),(7,(o_ out13)),(18,(b_ x16))],Qj Γ.n0 (bxs []) M,Γ.n0+74⟩) h (fun z h=>?_) (fun z h=>?_)
   ·refine Tr.rgn (md rfl (Rn.lenD tv rfl (Rn.bin tv rfl rfl rfl (md rfl ?_))))
    refine Qcb (decide ((a11.length:Int) > 0)) (fun hb15=>?_) (fun hb15=>?_)
    ·replace h:=ifT hb15 h
     refine Rn.sk (nw rfl hb15) (Rn.sk (nw rfl hb15) (Rn.sk (nw rfl hb15) (Rn.pickT (v:=(b_ true)) tv rfl hb15 rfl (Rn.nil ?_))))
     replace h:=si h; subst h
     exact Qh [] ⟨(sm rfl),(sm rfl),(kFun hM ho8),(sm rfl),(sm rfl),tv⟩ tv rfl
    ·replace h:=ifF hb15 h
     refine Rn.movD (gw rfl hb15) rfl (Rn.lenD (gw rfl hb15) rfl (Rn.bin (gw rfl hb15) rfl rfl rfl (Rn.pickF (v:=(b_ (decide ((b12.length:Int) > 0)))) tv rfl hb15 rfl (Rn.nil ?_))))
     replace h:=si h; subst h
     exact Qh [] ⟨(sm rfl),(sm rfl),(kFun hM ho8),(sm rfl),(sm rfl),tv⟩ tv rfl
   ·obtain ⟨x16,rfl⟩ : ∃ x,x=z:=⟨_,rfl⟩
    refine Tr.cond rfl (fun hb17=>?_) (fun hb17=>?_)
    ·replace h:=bT hb17 h
     refine Tr.skip (toN (Tr.block ?_))
     refine Tr.cutB (fun (inA24:Bool)=>⟨look [(0,(l_ a11)),(1,(l_ b12)),(2,.clo g4 cp5),(7,(o_ out13)),(8,(b_ inA24))],Qj Γ.n0 (bxs []) M,Γ.n0+74⟩) h (fun z h=>?_) (fun z h=>?_)
     ·refine Tr.rgnD (by decide) ?_
      refine md rfl (Rn.lenD tv rfl (Rn.bin tv rfl rfl rfl (md rfl ?_)))
      refine Qcb (decide ((a11.length:Int) > 0)) (fun hb18=>?_) (fun hb18=>?_)
      ·replace h:=ifT hb18 h
       refine Rn.movD (gw rfl hb18) rfl (Rn.lenD (gw rfl hb18) rfl (Rn.bin (gw rfl hb18) rfl rfl rfl (Rn.movD (gw rfl hb18) rfl ?_)))
       refine Qcb ((b12.length:Int) == 0) (fun hb19=>?_) (fun hb19=>?_)
       ·replace h:=bT hb19 h
        refine Rn.sk (nw rfl hb19) (Rn.sk (nw rfl hb19) (Rn.sk (nw rfl hb19) (Rn.sk (nw rfl hb19) (Rn.sk (nw rfl hb19) (Rn.sk (nw rfl hb19) (Rn.sk (nw rfl hb19) (Rn.pickT (v:=(b_ true)) (gw rfl hb18) rfl hb19 rfl (Rn.pickT (v:=(b_ true)) tv rfl hb18 rfl (md rfl ?_)))))))))
        refine Rn.nil ⟨rfl,?_⟩
        replace h:=si h; subst h
        exact Qh [] ⟨(sm rfl),(sm rfl),(kFun hM ho8),(sm rfl),(sm rfl),tv⟩ tv rfl
       ·replace h:=bF hb19 h
        refine Rn.movD (gw rfl hb19) rfl ?_
        obtain ⟨x20,h21,h⟩:=bnd h
        refine Rn.idxD (e:=(eI .i64)) (gw rfl hb19) rfl rfl h21 (Rn.loadC (x:=.int .i64 x20) (gw rfl hb19) rfl (Rn.movD (gw rfl hb19) rfl ?_))
        obtain ⟨x22,h23,h⟩:=bnd h
        refine Rn.idxD (e:=(eI .i64)) (gw rfl hb19) rfl rfl h23 (Rn.loadC (x:=.int .i64 x22) (gw rfl hb19) rfl (Rn.bin (gw rfl hb19) rfl rfl rfl (Rn.pickF (v:=(b_ (decide (x20≤x22)))) (gw rfl hb18) rfl hb19 rfl (Rn.pickT (v:=(b_ (decide (x20≤x22)))) tv rfl hb18 rfl (md rfl ?_)))))
        refine Rn.nil ⟨rfl,?_⟩
        replace h:=si h; subst h
        exact Qh [] ⟨(sm rfl),(sm rfl),(kFun hM ho8),(sm rfl),(sm rfl),tv⟩ tv rfl
      ·replace h:=ifF hb18 h
       refine Rn.sk (nw rfl hb18) (Rn.sk (nw rfl hb18) (Rn.sk (nw rfl hb18) (Rn.sk (nw rfl hb18) (Rn.sk (nu rfl) (Rn.sk (nu rfl) (Rn.sk (nu rfl) (Rn.sk (nu rfl) (Rn.sk (nu rfl) (Rn.sk (nu rfl) (Rn.sk (nu rfl) (Rn.sk (nw rfl hb18) (Rn.pickF (v:=(b_ false)) tv rfl hb18 rfl (md rfl ?_)))))))))))))
       refine Rn.nil ⟨rfl,?_⟩
       replace h:=si h; subst h
       exact Qh [] ⟨(sm rfl),(sm rfl),(kFun hM ho8),(sm rfl),(sm rfl),tv⟩ tv rfl
     ·obtain ⟨inA24,rfl⟩ : ∃ x,x=z:=⟨_,rfl⟩
      refine Tr.cutB (fun (inB31:Bool)=>⟨look [(0,(l_ a11)),(1,(l_ b12)),(2,.clo g4 cp5),(7,(o_ out13)),(8,(b_ inA24)),(9,(b_ inB31))],Qj Γ.n0 (bxs []) M,Γ.n0+74⟩) h (fun z h=>?_) (fun z h=>?_)
      ·refine Tr.rgnD (by decide) ?_
       refine md rfl (Rn.lenD tv rfl (Rn.bin tv rfl rfl rfl (md rfl ?_)))
       refine Qcb (decide ((b12.length:Int) > 0)) (fun hb25=>?_) (fun hb25=>?_)
       ·replace h:=ifT hb25 h
        refine Rn.movD (gw rfl hb25) rfl (Rn.lenD (gw rfl hb25) rfl (Rn.bin (gw rfl hb25) rfl rfl rfl (Rn.movD (gw rfl hb25) rfl ?_)))
        refine Qcb ((a11.length:Int) == 0) (fun hb26=>?_) (fun hb26=>?_)
        ·replace h:=bT hb26 h
         refine Rn.sk (nw rfl hb26) (Rn.sk (nw rfl hb26) (Rn.sk (nw rfl hb26) (Rn.sk (nw rfl hb26) (Rn.sk (nw rfl hb26) (Rn.sk (nw rfl hb26) (Rn.sk (nw rfl hb26) (Rn.pickT (v:=(b_ true)) (gw rfl hb25) rfl hb26 rfl (Rn.pickT (v:=(b_ true)) tv rfl hb25 rfl (md rfl ?_)))))))))
         refine Rn.nil ⟨rfl,?_⟩
         replace h:=si h; subst h
         exact Qh [] ⟨(sm rfl),(sm rfl),(kFun hM ho8),(sm rfl),(sm rfl),(sm rfl),tv⟩ tv rfl
        ·replace h:=bF hb26 h
         refine Rn.movD (gw rfl hb26) rfl ?_
         obtain ⟨x27,h28,h⟩:=bnd h
         refine Rn.idxD (e:=(eI .i64)) (gw rfl hb26) rfl rfl h28 (Rn.loadC (x:=.int .i64 x27) (gw rfl hb26) rfl (Rn.movD (gw rfl hb26) rfl ?_))
         obtain ⟨x29,h30,h⟩:=bnd h
         refine Rn.idxD (e:=(eI .i64)) (gw rfl hb26) rfl rfl h30 (Rn.loadC (x:=.int .i64 x29) (gw rfl hb26) rfl (Rn.bin (gw rfl hb26) rfl rfl rfl (Rn.pickF (v:=(b_ (decide (x27≤x29)))) (gw rfl hb25) rfl hb26 rfl (Rn.pickT (v:=(b_ (decide (x27≤x29)))) tv rfl hb25 rfl (md rfl ?_)))))
         refine Rn.nil ⟨rfl,?_⟩
         replace h:=si h; subst h
         exact Qh [] ⟨(sm rfl),(sm rfl),(kFun hM ho8),(sm rfl),(sm rfl),(sm rfl),tv⟩ tv rfl
       ·replace h:=ifF hb25 h
        refine Rn.sk (nw rfl hb25) (Rn.sk (nw rfl hb25) (Rn.sk (nw rfl hb25) (Rn.sk (nw rfl hb25) (Rn.sk (nu rfl) (Rn.sk (nu rfl) (Rn.sk (nu rfl) (Rn.sk (nu rfl) (Rn.sk (nu rfl) (Rn.sk (nu rfl) (Rn.sk (nu rfl) (Rn.sk (nw rfl hb25) (Rn.pickF (v:=(b_ false)) tv rfl hb25 rfl (md rfl ?_)))))))))))))
        refine Rn.nil ⟨rfl,?_⟩
        replace h:=si h; subst h
        exact Qh [] ⟨(sm rfl),(sm rfl),(kFun hM ho8),(sm rfl),(sm rfl),(sm rfl),tv⟩ tv rfl
      ·obtain ⟨inB31,rfl⟩ : ∃ x,x=z:=⟨_,rfl⟩
       refine sr ((md rfl (Rn.nil (toN ?_))))
       refine Tr.cutB (fun ((a37,x38):(List Int)×Int)=>⟨look [(0,(l_ a37)),(1,(l_ b12)),(2,.clo g4 cp5),(7,(o_ out13)),(8,(b_ inA24)),(9,(b_ inB31)),(10,(i_ x38))],Qj Γ.n0 (bxs []) M,Γ.n0+74⟩) h (fun z h=>?_) (fun z h=>?_)
       ·refine sr ((md rfl (Rn.nil (toN ?_))))
        refine Tr.cond rfl (fun hb32=>?_) (fun hb32=>?_)
        ·replace h:=bT hb32 h
         refine Tr.rgnD (by decide) ?_
         refine md rfl ?_
         obtain ⟨x33,h34,h⟩:=bnd h
         refine Rn.idxD (e:=(eI .i64)) tv rfl rfl h34 (Rn.loadC (x:=.int .i64 x33) tv rfl (Rn.movTD tv rfl ?_))
         obtain ⟨x35,h36,h⟩:=bnd h
         refine Rn.slcTD (e:=(eI .i64)) tv rfl rfl h36 (md rfl (Rn.movTD tv rfl ?_))
         refine Rn.nil ⟨rfl,?_⟩
         replace h:=si h; subst h
         exact Qh [] ⟨(sm rfl),(sm rfl),(kFun hM ho8),(sm rfl),(sm rfl),(sm rfl),(sm rfl),tv⟩ tv rfl
        ·replace h:=bF hb32 h
         refine Tr.skip ?_
         replace h:=si h; subst h
         exact Qh [] ⟨(sm rfl),(sm rfl),(kFun hM ho8),(sm rfl),(sm rfl),(sm rfl),(sm rfl),tv⟩ tv rfl
       ·obtain ⟨a37,x38⟩:=z
        refine Tr.cutB (fun ((b44,x45):(List Int)×Int)=>⟨look [(0,(l_ a37)),(1,(l_ b44)),(2,.clo g4 cp5),(7,(o_ out13)),(8,(b_ inA24)),(9,(b_ inB31)),(10,(i_ x45))],Qj Γ.n0 (bxs []) M,Γ.n0+74⟩) h (fun z h=>?_) (fun z h=>?_)
        ·refine sr ((md rfl (Rn.nil (toN ?_))))
         refine Tr.cond rfl (fun hb39=>?_) (fun hb39=>?_)
         ·replace h:=bT hb39 h
          refine Tr.rgnD (by decide) ?_
          refine md rfl ?_
          obtain ⟨x40,h41,h⟩:=bnd h
          refine Rn.idxD (e:=(eI .i64)) tv rfl rfl h41 (Rn.loadC (x:=.int .i64 x40) tv rfl (Rn.movTD tv rfl ?_))
          obtain ⟨x42,h43,h⟩:=bnd h
          refine Rn.slcTD (e:=(eI .i64)) tv rfl rfl h43 (md rfl (Rn.movTD tv rfl ?_))
          refine Rn.nil ⟨rfl,?_⟩
          replace h:=si h; subst h
          exact Qh [] ⟨(sm rfl),(sm rfl),(kFun hM ho8),(sm rfl),(sm rfl),(sm rfl),(sm rfl),tv⟩ tv rfl
         ·replace h:=bF hb39 h
          refine Tr.skip ?_
          replace h:=si h; subst h
          exact Qh [] ⟨(sm rfl),(sm rfl),(kFun hM ho8),(sm rfl),(sm rfl),(sm rfl),(sm rfl),tv⟩ tv rfl
        ·obtain ⟨b44,x45⟩:=z
         refine sr ((Rn.mov (v:=.clo g4 cp5) tv rfl (md rfl (md rfl ?_))))
         obtain ⟨x47,h46,h⟩:=bnd h
         refine Rn.callvM (args:=[(b_ inA24),(b_ inB31)] ++ cp5) tv rfl (by rw [hc6]; rfl) (fun M2 nb2 hn hx=>hf7 _ _ _ h46 M2 nb2 (by omega) ((Qbah hM).trans hx)) rfl pc9 ?_
         refine Rn.nil (toN ?_)
         refine Tr.cond rfl (fun hb48=>?_) (fun hb48=>?_)
         ·replace h:=bT hb48 h
          refine Tr.rgn (Rn.movTO tv rfl (md rfl (Rn.bslice (xs:=[(i_ x45)]) (cs:=[(i_ x45)]) tv rfl rfl rfl rfl ?_)))
          obtain ⟨x49,h50,h⟩:=bnd h
          refine Rn.app (e:=(eI .i64)) tv rfl rfl rfl (Qdk rfl rfl rfl) h50 rfl (Rn.movTO tv rfl (Rn.nil ?_))
          exact ⟨_,h,(by exact Qi ⟨(sm rfl),(sm rfl),(kFun hM ho8),(sm rfl),tv⟩ tv rfl)⟩
         ·replace h:=bF hb48 h
          refine Tr.skip ?_
          exact ⟨_,h,(by exact Qi ⟨(sm rfl),(sm rfl),(kFun hM ho8),(sm rfl),tv⟩ tv rfl)⟩
    ·replace h:=bF hb17 h
     refine Tr.exit ?_
     replace h:=si h; subst h
     exact Qh [] ⟨(sm rfl),tv⟩ tv rfl
 ·obtain ⟨out51,rfl⟩ : ∃ x,x=z:=⟨_,rfl⟩
  refine sr ((Rn.movTO tv rfl (Rn.movTO tv rfl (nt ((Tr.ret ?_))))))
  replace h:=si h; subst h
  exact ⟨.inr rfl,(o_ out51),rfl,fun _ _ _ _ h=>h,tv,mB⟩
theorem Qo7 {P:Program} {c:Nat} (hcf:Qm P c=some Qf8):Qf7 P c (Qbx):=by
 intro inA1 inB2 r h
 refine Qbw hcf rfl fun Γ M hP hnt hM=>?_
 subst hP
 refine Tr.init [(0,(b_ inA1)),(1,(b_ inB2))] rfl ?_
 unfold Qbx at h
 unfold Qf8
 refine sr ((md rfl (nt ((sr ((md rfl (md rfl ?_))))))))
 refine Qcb inA1 (fun hb3=>?_) (fun hb3=>?_)
 ·replace h:=bT hb3 h
  refine Rn.movD (gw rfl hb3) rfl (Rn.pickT (v:=(b_ inB2)) tv rfl hb3 rfl (md rfl (nt ((Tr.ret ?_)))))
  replace h:=si h; subst h
  exact ⟨.inr rfl,(b_ inB2),rfl,fun _ _ _ _ h=>h,tv,mB⟩
 ·replace h:=bF hb3 h
  refine Rn.sk (nw rfl hb3) (Rn.pickF (v:=(b_ false)) tv rfl hb3 rfl (md rfl (nt ((Tr.ret ?_)))))
  replace h:=si h; subst h
  exact ⟨.inr rfl,(b_ false),rfl,fun _ _ _ _ h=>h,tv,mB⟩
theorem Quq {P:Program} {c:Nat} {Qw:(List Int)→(List Int)→(Bool→Bool→Option Bool)→Option ((List Int))} {Qbx:Bool→Bool→Option Bool}
    (H_alphabet_merge:Qfy P 53 Qw)
    (H_alphabet_Intersect_1:Qf7 P 68 Qbx) (hcf:Qm P c=some Qhg):Qhf P c (Qcg Qw Qbx):=by
 intro a1 b2 r h
 refine Qbw hcf rfl fun Γ M hP hnt hM=>?_
 subst hP
 refine Tr.init [(0,(l_ a1)),(1,(l_ b2))] rfl ?_
 unfold Qcg at h
 unfold Qhg
 refine sr ((Rn.movTC (v:=.nils 1) tv (nt ((sr ((md rfl (md rfl ?_))))))))
 obtain ⟨x8,h7,h⟩:=bnd h
 refine Rn.callM (args:=[(l_ a1),(l_ b2),.clo 68 []]) tv rfl (fun M2 nb2 hn hx=>H_alphabet_merge _ _ _ 68 [] _ h7 M2 nb2 rfl tv (fun a3 a4 r5 h6 M3 nb3 hn3 hx3=>H_alphabet_Intersect_1 a3 a4 r5 h6 M3 nb3 )) rfl pc9 ?_
 refine Rn.movTO tv rfl (nt ((Tr.ret ?_)))
 replace h:=si h; subst h
 exact ⟨.inr rfl,(o_ x8),rfl,fun _ _ _ _ h=>h,tv,mB⟩
theorem Qy3 {P:Program} {c:Nat} {Qcl:(List Int)→Int→Option Int} {Qcg:(List Int)→(List Int)→Option ((List Int))}
    (H_alphabet_CheckSet:Qh5 P 51 Qcl)
    (H_alphabet_Intersect:Qhf P 52 Qcg) (hcf:Qm P c=some Qi7) (fuel:Nat):Qi6 P c (Qct Qcl Qcg fuel):=by
 intro a1 b2 r h
 refine Qbw hcf rfl fun Γ M hP hnt hM=>?_
 subst hP
 refine Tr.init [(0,(l_ a1)),(1,(l_ b2))] rfl ?_
 unfold Qct at h
 unfold Qi7
 refine sr ((md rfl (nt ((Tr.seq (sr ((md rfl (md rfl (Rn.build (v:=.agg [(l_ a1),(l_ b2)]) tv rfl (md rfl (nt ((Tr.block ?_))))))))))))))
 refine Tr.loop (mk:=fun (x3:Int)=>⟨look [(0,(l_ a1)),(1,(l_ b2)),(10,.agg [(l_ a1),(l_ b2)]),(11,(i_ x3))],Qj Γ.n0 (bxs []) M,Γ.n0+25⟩) h (by exact Qi ⟨(sm rfl),(sm rfl),(sm rfl),(sm rfl),tv⟩ tv rfl) (fun k4 z h=>?_)
 ·obtain ⟨x3,rfl⟩ : ∃ x,x=z:=⟨_,rfl⟩
  replace h:_=some _:=h
  refine sr ((Rn.bin tv rfl rfl rfl (nt ((Tr.seq ?_)))))
  refine Tr.cond rfl (fun hb5=>?_) (fun hb5=>?_)
  ·replace h:=ifT hb5 h
   refine Tr.skip (toN (Tr.seq (Tr.block (Tr.seq (Tr.rgn ?_)))))
   obtain ⟨x6,h7,h⟩:=bnd h
   refine Rn.idxvalV (e:=fun (z:List Int)=>.lst 1 (List.map (eI .i64) z)) (xs:=[a1,b2]) tv rfl rfl rfl h7 (Rn.movTD tv rfl (nt ((sr ((md rfl ?_))))))
   obtain ⟨x9,h8,h⟩:=bnd h
   refine Rn.call (args:=[(l_ x6),(i_ 32)]) tv rfl (H_alphabet_CheckSet _ _ _ h8) pc9 (md rfl (nt ((sr ((md rfl (Rn.bin tv rfl rfl rfl (Rn.nil (toN ?_)))))))))
   refine Tr.cond rfl (fun hb10=>?_) (fun hb10=>?_)
   ·replace h:=bT hb10 h
    refine sr ((md rfl (md rfl (nt ((Tr.ret ?_))))))
    replace h:=si h; subst h
    exact ⟨.inr rfl,(i_ x9),rfl,fun _ _ _ _ h=>h,tv,mB⟩
   ·replace h:=bF hb10 h
    refine Tr.skip (toN (Tr.rgn (Rn.bin tv rfl rfl rfl (md rfl (Rn.nil ?_)))))
    exact ⟨_,h,(by exact Qi ⟨(sm rfl),(sm rfl),(sm rfl),(sm rfl),tv⟩ tv rfl)⟩
  ·replace h:=ifF hb5 h
   refine Tr.exit (toN (Tr.seq (sr ((md rfl (md rfl ?_))))))
   obtain ⟨x12,h11,h⟩:=bnd h
   refine Rn.call (args:=[(l_ a1),(l_ b2)]) tv rfl (H_alphabet_Intersect _ _ _ h11) pc9 (Rn.lenD tv rfl (Rn.bin tv rfl rfl rfl (Rn.nil (toN ?_))))
   refine Tr.cond rfl (fun hb13=>?_) (fun hb13=>?_)
   ·replace h:=ifT hb13 h
    refine sr ((md rfl (nt ((Tr.ret ?_)))))
    replace h:=si h; subst h
    exact ⟨.inr rfl,(i_ 13),rfl,fun _ _ _ _ h=>h,tv,mB⟩
   ·replace h:=ifF hb13 h
    refine Tr.skip (toN (sr ((md rfl (nt ((Tr.ret ?_)))))))
    replace h:=si h; subst h
    exact ⟨.inr rfl,(i_ 0),rfl,fun _ _ _ _ h=>h,tv,mB⟩
theorem Qy4 {P:Program} {c:Nat} (hcf:Qm P c=some Qi9):Qi8 P c (Qcu):=by
 intro inA1 inB2 r h
 refine Qbw hcf rfl fun Γ M hP hnt hM=>?_
 subst hP
 refine Tr.init [(0,(b_ inA1)),(1,(b_ inB2))] rfl ?_
 unfold Qcu at h
 unfold Qi9
 refine sr ((md rfl (nt ((sr ((md rfl (md rfl ?_))))))))
 refine Qcb inA1 (fun hb3=>?_) (fun hb3=>?_)
 ·replace h:=bT hb3 h
  refine Rn.sk (nw rfl hb3) (Rn.pickT (v:=(b_ true)) tv rfl hb3 rfl (md rfl (nt ((Tr.ret ?_)))))
  replace h:=si h; subst h
  exact ⟨.inr rfl,(b_ true),rfl,fun _ _ _ _ h=>h,tv,mB⟩
 ·replace h:=bF hb3 h
  refine Rn.movD (gw rfl hb3) rfl (Rn.pickF (v:=(b_ inB2)) tv rfl hb3 rfl (md rfl (nt ((Tr.ret ?_)))))
  replace h:=si h; subst h
  exact ⟨.inr rfl,(b_ inB2),rfl,fun _ _ _ _ h=>h,tv,mB⟩
theorem Q26 {P:Program} {c:Nat} {Qw:(List Int)→(List Int)→(Bool→Bool→Option Bool)→Option ((List Int))} {Qcu:Bool→Bool→Option Bool}
    (H_alphabet_merge:Qfy P 53 Qw)
    (H_alphabet_Union_1:Qi8 P 54 Qcu) (hcf:Qm P c=some Qk6):Qhy P c (Qbm Qw Qcu):=by
 intro a1 b2 r h
 refine Qbw hcf rfl fun Γ M hP hnt hM=>?_
 subst hP
 refine Tr.init [(0,(l_ a1)),(1,(l_ b2))] rfl ?_
 unfold Qbm at h
 unfold Qk6
 refine sr ((Rn.movTC (v:=.nils 1) tv (nt ((sr ((md rfl (md rfl ?_))))))))
 obtain ⟨x8,h7,h⟩:=bnd h
 refine Rn.callM (args:=[(l_ a1),(l_ b2),.clo 54 []]) tv rfl (fun M2 nb2 hn hx=>H_alphabet_merge _ _ _ 54 [] _ h7 M2 nb2 rfl tv (fun a3 a4 r5 h6 M3 nb3 hn3 hx3=>H_alphabet_Union_1 a3 a4 r5 h6 M3 nb3 )) rfl pc9 ?_
 refine Rn.movTO tv rfl (nt ((Tr.ret ?_)))
 replace h:=si h; subst h
 exact ⟨.inr rfl,(o_ x8),rfl,fun _ _ _ _ h=>h,tv,mB⟩
theorem Q4u {P:Program} {c:Nat} (hcf:Qm P c=some Qmp):Qmo P c (Qcz):=by
 intro x1 r h
 refine Qbw hcf rfl fun Γ M hP hnt hM=>?_
 subst hP
 refine Tr.init [(0,(i_ x1))] rfl ?_
 unfold Qcz at h
 unfold Qmp
 refine sr ((md rfl (nt ((sr ((md rfl (md rfl (Rn.bin tv rfl rfl rfl (md rfl (nt ((Tr.ret ?_)))))))))))))
 replace h:=si h; subst h
 exact ⟨.inr rfl,(b_ (x1 != x1)),rfl,fun _ _ _ _ h=>h,tv,mB⟩
theorem Q6f {P:Program} {c:Nat} {Qcz:Int→Option Bool}
    (H_cmp_isNaN_int:Qmo P 86 Qcz) (hcf:Qm P c=some Qox):Qow P c (Qdn Qcz):=by
 intro x1 y2 r h
 refine Qbw hcf rfl fun Γ M hP hnt hM=>?_
 subst hP
 refine Tr.init [(0,(i_ x1)),(1,(i_ y2))] rfl ?_
 unfold Qdn at h
 unfold Qox
 refine sr ((md rfl (nt ((sr ((md rfl ?_)))))))
 obtain ⟨x4,h3,h⟩:=bnd h
 refine Rn.call (args:=[(i_ x1)]) tv rfl (H_cmp_isNaN_int _ _ h3) pc9 (md rfl ?_)
 refine Qcb x4 (fun hb5=>?_) (fun hb5=>?_)
 ·replace h:=bT hb5 h
  refine Rn.movD (gw rfl hb5) rfl ?_
  obtain ⟨x7,h6,h⟩:=bnd h
  refine Rn.call (args:=[(i_ y2)]) (gw rfl hb5) rfl (H_cmp_isNaN_int _ _ h6) pc9 (Rn.un (gw rfl hb5) rfl rfl (Rn.pickT (v:=(b_ (!x7))) tv rfl hb5 rfl (md rfl ?_)))
  refine Qcb x7 (fun hb8=>?_) (fun hb8=>?_)
  ·replace h:=bT hb8 h
   refine Rn.movD (gw rfl (nT hb8)) rfl (Rn.movD (gw rfl (nT hb8)) rfl (Rn.bin (gw rfl (nT hb8)) rfl rfl rfl (Rn.pickF (v:=(b_ (decide (x1 < y2)))) tv rfl (nT hb8) rfl (md rfl (nt ((Tr.ret ?_)))))))
   replace h:=si h; subst h
   exact ⟨.inr rfl,(b_ (decide (x1 < y2))),rfl,fun _ _ _ _ h=>h,tv,mB⟩
  ·replace h:=bF hb8 h
   refine Rn.sk (nw rfl (nF hb8)) (Rn.sk (nw rfl (nF hb8)) (Rn.sk (nw rfl (nF hb8)) (Rn.pickT (v:=(b_ true)) tv rfl (nF hb8) rfl (md rfl (nt ((Tr.ret ?_)))))))
   replace h:=si h; subst h
   exact ⟨.inr rfl,(b_ true),rfl,fun _ _ _ _ h=>h,tv,mB⟩
 ·replace h:=bF hb5 h
  refine Rn.sk (nw rfl hb5) (Rn.sk (nw rfl hb5) (Rn.sk (nw rfl hb5) (Rn.pickF (v:=(b_ false)) tv rfl hb5 rfl (md rfl (Rn.movD (gw (b:=false) rfl rfl) rfl (Rn.movD (gw (b:=false) rfl rfl) rfl (Rn.bin (gw (b:=false) rfl rfl) rfl rfl rfl (Rn.pickF (v:=(b_ (decide (x1 < y2)))) tv rfl rfl rfl (md rfl (nt ((Tr.ret ?_))))))))))))
  replace h:=si h; subst h
  exact ⟨.inr rfl,(b_ (decide (x1 < y2))),rfl,fun _ _ _ _ h=>h,tv,mB⟩
theorem Qy5 {P:Program} {c:Nat} (hcf:Qm P c=some Qjb):Qja P c (Qb5):=by
 intro x1 r h
 refine Qbw hcf rfl fun Γ M hP hnt hM=>?_
 subst hP
 refine Tr.init [(0,(i_ x1))] rfl ?_
 unfold Qb5 at h
 unfold Qjb
 refine sr ((md rfl (nt ((sr ((md rfl (md rfl (Rn.bin tv rfl rfl rfl (md rfl (nt ((Tr.ret ?_)))))))))))))
 replace h:=si h; subst h
 exact ⟨.inr rfl,(b_ (x1 != x1)),rfl,fun _ _ _ _ h=>h,tv,mB⟩
theorem Ql5 {P:Program} {c:Nat} {Qdn:Int→Int→Option Bool} {Qb5:Int→Option Bool}
    (H_cmp_Less_int:Qow P 69 Qdn)
    (H_slices_isNaN_int:Qja P 70 Qb5) (hcf:Qm P c=some Qe6) (fuel:Nat):Qe5 P c (Qba Qdn Qb5 fuel):=by
 intro x1 target2 r h
 refine Qbw hcf rfl fun Γ M hP hnt hM=>?_
 subst hP
 refine Tr.init [(0,(l_ x1)),(1,(i_ target2))] rfl ?_
 unfold Qba at h
 unfold Qe6
 refine sr ((md rfl (md rfl (nt ((sr ((md rfl (Rn.lenD tv rfl (md rfl (nt ((sr ((md rfl (md rfl (md rfl (Rn.nil (toN ?_)))))))))))))))))))
 refine Tr.cutB (fun (i12:Int)=>⟨look [(0,(l_ x1)),(1,(i_ target2)),(6,(i_ (x1.length:Int))),(7,(i_ i12))],Qj Γ.n0 (bxs []) M,Γ.n0+54⟩) h (fun z h=>?_) (fun z h=>?_)
 ·refine Tr.block ?_
  refine Tr.loop (mk:=fun ((i3,j4):Int×Int)=>⟨look [(0,(l_ x1)),(1,(i_ target2)),(6,(i_ (x1.length:Int))),(7,(i_ i3)),(8,(i_ j4))],Qj Γ.n0 (bxs []) M,Γ.n0+54⟩) h (by exact Qi ⟨(sm rfl),(sm rfl),(sm rfl),(sm rfl),(sm rfl),tv⟩ tv rfl) (fun k5 z h=>?_)
  ·obtain ⟨i3,j4⟩:=z
   replace h:_=some _:=h
   refine Tr.seq (sr ((md rfl (md rfl (Rn.bin tv rfl rfl rfl (Rn.nil (toN ?_)))))))
   refine Tr.cond rfl (fun hb6=>?_) (fun hb6=>?_)
   ·replace h:=ifT hb6 h
    refine Tr.skip (toN (Tr.block (sr ((md rfl (md rfl (Rn.bin tv rfl rfl rfl (Rn.conv tv rfl (Rn.bin tv rfl rfl rfl (Rn.conv tv rfl (md rfl (nt ((sr ((md rfl (md rfl ?_)))))))))))))))))
    obtain ⟨x7,h8,h⟩:=bnd h
    refine Rn.idxD (e:=(eI .i64)) tv rfl rfl h8 (Rn.loadC (x:=.int .i64 x7) tv rfl (md rfl ?_))
    obtain ⟨x10,h9,h⟩:=bnd h
    refine Rn.call (args:=[(i_ x7),(i_ target2)]) tv rfl (H_cmp_Less_int _ _ _ h9) pc9 (Rn.nil (toN ?_))
    refine Tr.cond rfl (fun hb11=>?_) (fun hb11=>?_)
    ·replace h:=bT hb11 h
     refine Tr.rgn (md rfl (Rn.bin tv rfl rfl rfl (md rfl (Rn.nil ?_))))
     exact ⟨_,h,(by exact Qi ⟨(sm rfl),(sm rfl),(sm rfl),(sm rfl),(sm rfl),tv⟩ tv rfl)⟩
    ·replace h:=bF hb11 h
     refine Tr.rgn (md rfl (md rfl (Rn.nil ?_)))
     exact ⟨_,h,(by exact Qi ⟨(sm rfl),(sm rfl),(sm rfl),(sm rfl),(sm rfl),tv⟩ tv rfl)⟩
   ·replace h:=ifF hb6 h
    refine Tr.exit ?_
    replace h:=si h; subst h
    exact Qh [] ⟨(sm rfl),(sm rfl),(sm rfl),(sm rfl),tv⟩ tv rfl
 ·obtain ⟨i12,rfl⟩ : ∃ x,x=z:=⟨_,rfl⟩
  refine sr ((md rfl (md rfl (md rfl (Rn.bin tv rfl rfl rfl (md rfl ?_))))))
  refine Qcb (decide (i12 < (x1.length:Int))) (fun hb13=>?_) (fun hb13=>?_)
  ·replace h:=ifT hb13 h
   refine Rn.movD (gw rfl hb13) rfl (Rn.movD (gw rfl hb13) rfl ?_)
   obtain ⟨x14,h15,h⟩:=bnd h
   refine Rn.idxD (e:=(eI .i64)) (gw rfl hb13) rfl rfl h15 (Rn.loadC (x:=.int .i64 x14) (gw rfl hb13) rfl (Rn.movD (gw rfl hb13) rfl (Rn.bin (gw rfl hb13) rfl rfl rfl (Rn.movD (gw rfl hb13) rfl ?_))))
   refine Qcb (x14 == target2) (fun hb16=>?_) (fun hb16=>?_)
   ·replace h:=bT hb16 h
    refine Rn.sk (nw rfl hb16) (Rn.sk (nw rfl hb16) (Rn.sk (nw rfl hb16) (Rn.sk (nw rfl hb16) (Rn.sk (nw rfl hb16) (Rn.sk (nw rfl hb16) (Rn.sk (nu rfl) (Rn.sk (nu rfl) (Rn.sk (nw rfl hb16) (Rn.pickT (v:=(b_ true)) (gw rfl hb13) rfl hb16 rfl (Rn.pickT (v:=(b_ true)) tv rfl hb13 rfl (md rfl (md rfl (nt ((Tr.ret ?_)))))))))))))))
    replace h:=si h; subst h
    exact ⟨.inr rfl,.tup [(i_ i12),(b_ true)],res2 rfl rfl,(WkV.tup (.cons (.same rfl) (.cons (.same rfl) .nil))).rd,⟨tv,tv,tv⟩,mB⟩
   ·replace h:=bF hb16 h
    refine Rn.movD (gw rfl hb16) rfl (Rn.movD (gw rfl hb16) rfl ?_)
    obtain ⟨x17,h18,h⟩:=bnd h
    refine Rn.idxD (e:=(eI .i64)) (gw rfl hb16) rfl rfl h18 (Rn.loadC (x:=.int .i64 x17) (gw rfl hb16) rfl ?_)
    obtain ⟨x20,h19,h⟩:=bnd h
    refine Rn.call (args:=[(i_ x17)]) (gw rfl hb16) rfl (H_slices_isNaN_int _ _ h19) pc9 (Rn.movD (gw rfl hb16) rfl ?_)
    refine Qcb x20 (fun hb21=>?_) (fun hb21=>?_)
    ·replace h:=bT hb21 h
     refine Rn.movD (gw rfl hb21) rfl ?_
     obtain ⟨x23,h22,h⟩:=bnd h
     refine Rn.call (args:=[(i_ target2)]) (gw rfl hb21) rfl (H_slices_isNaN_int _ _ h22) pc9 (Rn.pickT (v:=(b_ x23)) (gw rfl hb16) rfl hb21 rfl (Rn.pickF (v:=(b_ x23)) (gw rfl hb13) rfl hb16 rfl (Rn.pickT (v:=(b_ x23)) tv rfl hb13 rfl (md rfl (md rfl (nt ((Tr.ret ?_))))))))
     replace h:=si h; subst h
     exact ⟨.inr rfl,.tup [(i_ i12),(b_ x23)],res2 rfl rfl,(WkV.tup (.cons (.same rfl) (.cons (.same rfl) .nil))).rd,⟨tv,tv,tv⟩,mB⟩
    ·replace h:=bF hb21 h
     refine Rn.sk (nw rfl hb21) (Rn.sk (nw rfl hb21) (Rn.pickF (v:=(b_ false)) (gw rfl hb16) rfl hb21 rfl (Rn.pickF (v:=(b_ false)) (gw rfl hb13) rfl hb16 rfl (Rn.pickT (v:=(b_ false)) tv rfl hb13 rfl (md rfl (md rfl (nt ((Tr.ret ?_)))))))))
     replace h:=si h; subst h
     exact ⟨.inr rfl,.tup [(i_ i12),(b_ false)],res2 rfl rfl,(WkV.tup (.cons (.same rfl) (.cons (.same rfl) .nil))).rd,⟨tv,tv,tv⟩,mB⟩
  ·replace h:=ifF hb13 h
   refine Rn.sk (nw rfl hb13) (Rn.sk (nw rfl hb13) (Rn.sk (nw rfl hb13) (Rn.sk (nw rfl hb13) (Rn.sk (nw rfl hb13) (Rn.sk (nw rfl hb13) (Rn.sk (nw rfl hb13) (Rn.sk (nu rfl) (Rn.sk (nu rfl) (Rn.sk (nu rfl) (Rn.sk (nu rfl) (Rn.sk (nu rfl) (Rn.sk (nu rfl) (Rn.sk (nu rfl) (Rn.sk (nu rfl) (Rn.sk (nu rfl) (Rn.sk (nw rfl hb13) (Rn.pickF (v:=(b_ false)) tv rfl hb13 rfl (md rfl (md rfl (nt ((Tr.ret ?_))))))))))))))))))))))
   replace h:=si h; subst h
   exact ⟨.inr rfl,.tup [(i_ i12),(b_ false)],res2 rfl rfl,(WkV.tup (.cons (.same rfl) (.cons (.same rfl) .nil))).rd,⟨tv,tv,tv⟩,mB⟩
theorem Qww {P:Program} {c:Nat} {Qba:(List Int)→Int→Option (Int×Bool)}
    (H_slices_BinarySearch_int:Qe5 P 55 Qba) (hcf:Qm P c=some Qh7):Qef P c (Qp Qba):=by
 intro xset1 x2 r h
 refine Qbw hcf rfl fun Γ M hP hnt hM=>?_
 subst hP
 refine Tr.init [(0,(l_ xset1)),(1,(i_ x2))] rfl ?_
 unfold Qp at h
 unfold Qh7
 refine sr ((md rfl (nt ((sr ((md rfl (md rfl ?_))))))))
 obtain ⟨⟨r4,r5⟩,h3,h⟩:=bnd h
 refine Rn.call (args:=[(l_ xset1),(i_ x2)]) tv rfl (H_slices_BinarySearch_int _ _ _ h3) pc9 (Rn.mov (v:=.tup [(i_ r4),(b_ r5)]) tv rfl (Rn.ext (v:=(i_ r4)) (vs:=[(i_ r4),(b_ r5)]) tv rfl rfl rfl (Rn.ext (v:=(b_ r5)) (vs:=[(i_ r4),(b_ r5)]) tv rfl rfl rfl (md rfl (md rfl (nt ((sr ((md rfl (md rfl (nt ((Tr.ret ?_))))))))))))))
 replace h:=si h; subst h
 exact ⟨.inr rfl,(b_ r5),rfl,fun _ _ _ _ h=>h,tv,mB⟩
theorem Qo8 {P:Program} {c:Nat} {Qp:(List Int)→Int→Option Bool}
    (H_alphabet_Contains:Qef P 29 Qp) (hcf:Qm P c=some Qga):Qf9 P c (Qby Qp):=by
 intro state1 event2 x3 x6 k4 k7 r h
 intro M nb hk5 hk8
 refine Qbai hcf rfl M nb fun Γ hP hnt hn0 hM=>?_
 subst hP hn0
 refine Tr.init [(0,(i_ state1)),(1,(i_ event2)),(2,.ptr k4 0),(3,.ptr k7 0)] rfl ?_
 unfold Qby at h
 unfold Qga
 refine sr ((md rfl (md rfl (nt ((Tr.seq (sr ((Rn.load (v:=(l_ x3)) tv rfl (Q5s hM hk5) rfl rfl (md rfl ?_))))))))))
 obtain ⟨x10,h9,h⟩:=bnd h
 refine Rn.call (args:=[(l_ x3),(i_ event2)]) tv rfl (H_alphabet_Contains _ _ _ h9) pc9 (Rn.nil (toN ?_))
 refine Tr.cond rfl (fun hb11=>?_) (fun hb11=>?_)
 ·replace h:=bT hb11 h
  refine Tr.seq ?_
  refine Tr.rgnD (by decide) ?_
  refine md rfl (Rn.bin tv rfl rfl rfl (md rfl (Rn.load (v:=(i_ x6)) tv rfl (Q5s hM hk8) rfl rfl (Rn.bin tv rfl rfl rfl (md rfl (md rfl ?_))))))
  refine Rn.nil ⟨rfl,?_⟩
  refine toN (Tr.ret ?_)
  replace h:=si h; subst h
  exact ⟨.inr rfl,.tup [(i_ (IntKind.wrap .i64 (state1+1))),(b_ (decide (state1 < x6)))],res2 rfl rfl,(WkV.tup (.cons (.same rfl) (.cons (.same rfl) .nil))).rd,⟨tv,tv,tv⟩,mB⟩
 ·replace h:=bF hb11 h
  refine Tr.skip (toN (sr ((md rfl (Rn.bin tv rfl rfl rfl (md rfl (Rn.bin tv rfl rfl rfl (md rfl (md rfl (nt ((Tr.ret ?_))))))))))))
  replace h:=si h; subst h
  exact ⟨.inr rfl,.tup [(i_ (IntKind.wrap .i64 (state1 - 1))),(b_ (decide (state1 > 0)))],res2 rfl rfl,(WkV.tup (.cons (.same rfl) (.cons (.same rfl) .nil))).rd,⟨tv,tv,tv⟩,mB⟩
theorem Qur {P:Program} {c:Nat} {Qo:(List Int)→(Int→Option Bool)→(Int→Int→Option (Int×Bool))→Option Qa} {Q9:Int→Option Bool} {Qct:(List Int)→(List Int)→Option Int} {Qbm:(List Int)→(List Int)→Option ((List Int))} {Qby:Int→Int→(List Int)→Int→Option (Int×Bool)}
    (H_requirement_explore:Qdt P 22 Qo)
    (H_requirement_first:Qfs P 24 Q9)
    (H_requirement_sets:Qi6 P 26 Qct)
    (H_alphabet_Union:Qhy P 27 Qbm)
    (H_requirement_Buffer_1:Qf9 P 28 Qby) (hcf:Qm P c=some Qhi):Qhh P c (Qch Qo Q9 Qct Qbm Qby):=by
 intro put1 take2 capacity3 r h
 refine Qbw hcf rfl fun Γ M hP hnt hM=>?_
 subst hP
 refine Tr.init [(0,(l_ put1)),(1,(l_ take2)),(2,(i_ capacity3))] rfl ?_
 unfold Qch at h
 unfold Qhi
 refine sr ((Rn.box (v:=(l_ put1)) (cs:=[(l_ put1)]) tv rfl rfl rfl rfl rfl (Rn.box (v:=(i_ capacity3)) (cs:=[(i_ capacity3)]) tv rfl rfl rfl rfl rfl (Rn.alloc tv rfl (md rfl (nt ((Tr.seq (sr ((lB (v:=(l_ put1)) rfl rfl rfl rfl (md rfl ?_))))))))))))
 obtain ⟨x5,h4,h⟩:=bnd h
 refine Rn.call (args:=[(l_ put1),(l_ take2)]) tv rfl (H_requirement_sets _ _ _ h4) pc9 (md rfl (nt ((sr ((md rfl (Rn.bin tv rfl rfl rfl (Rn.nil (toN ?_)))))))))
 refine Tr.cond rfl (fun hb6=>?_) (fun hb6=>?_)
 ·replace h:=bT hb6 h
  refine sr ((Rn.build (v:=.agg [.nils 1,(i_ 0),.nils 1,.nils 3]) tv rfl (md rfl (Rn.storeT (v:=.agg [.nils 1,(i_ 0),.nils 1,.nils 3]) (ds:=[.nils 1,(i_ 0),.nils 1,.nils 3]) (cs':=[.nils 1,(i_ 0),.nils 1,.nils 3]) tv rfl rfl rfl rfl rfl rfl rfl (md rfl (nt ((Tr.ret ?_))))))))
  replace h:=si h; subst h
  exact ⟨.inr rfl,.tup [.agg [.nils 1,(i_ 0),.nils 1,.nils 3],(i_ x5)],res2 (Qeo rfl rfl rfl rfl) rfl,(WkV.tup (.cons (WkV.agg (.cons (WkV.nilsD _) (.cons (.same rfl) (.cons (WkV.nilsD _) (.cons (WkV.nilsD _) .nil))))) (.cons (.same rfl) .nil))).rd,⟨⟨tv,tv,tv,tv,tv⟩,tv,tv⟩,mB⟩
 ·replace h:=bF hb6 h
  refine Tr.skip (toN (Tr.seq ?_))
  refine Tr.cutB (fun (x8:Bool)=>⟨look [(1,(l_ take2)),(3,.ptr (Γ.n0+3) 0),(5,.ptr (Γ.n0+5) 0),(6,.ptr (Γ.n0+6) 0),(21,(b_ x8))],Qj Γ.n0 (bxs [(3,.cells ([(l_ put1)])),(5,.cells ([(i_ capacity3)])),(6,.cells ([.nils 1,(i_ 0),.nils 1,.nils 3]))]) M,Γ.n0+28⟩) h (fun z h=>?_) (fun z h=>?_)
  ·refine Tr.rgn (lB (v:=(i_ capacity3)) rfl rfl rfl rfl (Rn.bin tv rfl rfl rfl (md rfl ?_)))
   refine Qcb (decide (capacity3 < 1)) (fun hb7=>?_) (fun hb7=>?_)
   ·replace h:=ifT hb7 h
    refine Rn.sk (nw rfl hb7) (Rn.sk (nw rfl hb7) (Rn.pickT (v:=(b_ true)) tv rfl hb7 rfl (Rn.nil ?_)))
    replace h:=si h; subst h
    exact Qh [] ⟨(sm rfl),(kPtr rfl),(kPtr rfl),(kPtr rfl),(sm rfl),tv⟩ ⟨bS rfl rfl rfl,bS rfl rfl rfl,bS rfl rfl rfl,tv⟩ rfl
   ·replace h:=ifF hb7 h
    refine Rn.load (v:=(i_ capacity3)) (gw rfl hb7) rfl (Qbv rfl) rfl rfl (Rn.bin (gw rfl hb7) rfl rfl rfl (Rn.pickF (v:=(b_ (decide (capacity3 > 1024)))) tv rfl hb7 rfl (Rn.nil ?_)))
    replace h:=si h; subst h
    exact Qh [] ⟨(sm rfl),(kPtr rfl),(kPtr rfl),(kPtr rfl),(sm rfl),tv⟩ ⟨bS rfl rfl rfl,bS rfl rfl rfl,bS rfl rfl rfl,tv⟩ rfl
  ·obtain ⟨x8,rfl⟩ : ∃ x,x=z:=⟨_,rfl⟩
   refine Tr.cond rfl (fun hb9=>?_) (fun hb9=>?_)
   ·replace h:=bT hb9 h
    refine sr ((Rn.build (v:=.agg [.nils 1,(i_ 0),.nils 1,.nils 3]) tv rfl (Rn.storeT (v:=.agg [.nils 1,(i_ 0),.nils 1,.nils 3]) (ds:=[.nils 1,(i_ 0),.nils 1,.nils 3]) (cs':=[.nils 1,(i_ 0),.nils 1,.nils 3]) tv rfl rfl rfl rfl rfl rfl rfl (md rfl (nt ((Tr.ret ?_)))))))
    replace h:=si h; subst h
    exact ⟨.inr rfl,.tup [.agg [.nils 1,(i_ 0),.nils 1,.nils 3],(i_ 2)],res2 (Qeo rfl rfl rfl rfl) rfl,(WkV.tup (.cons (WkV.agg (.cons (WkV.nilsD _) (.cons (.same rfl) (.cons (WkV.nilsD _) (.cons (WkV.nilsD _) .nil))))) (.cons (.same rfl) .nil))).rd,⟨⟨tv,tv,tv,tv,tv⟩,tv,tv⟩,mB⟩
   ·replace h:=bF hb9 h
    refine Tr.skip (toN (sr ((lB (v:=(l_ put1)) rfl rfl rfl rfl (md rfl ?_)))))
    obtain ⟨x11,h10,h⟩:=bnd h
    refine Rn.call (args:=[(l_ put1),(l_ take2)]) tv rfl (H_alphabet_Union _ _ _ h10) pc9 (Rn.k (v:=.clo 28 [.ptr (Γ.n0+3) 0,.ptr (Γ.n0+5) 0]) tv rfl rfl rfl ?_)
    obtain ⟨x20,h19,h⟩:=bnd h
    refine Rn.callM (args:=[(l_ x11),.clo 24 [],.clo 28 [.ptr (Γ.n0+3) 0,.ptr (Γ.n0+5) 0]]) tv rfl (fun M2 nb2 hn hx=>H_requirement_explore _ _ _ 24 [] 28 [.ptr (Γ.n0+3) 0,.ptr (Γ.n0+5) 0] _ h19 M2 nb2 rfl tv (fun a12 r13 h14 M3 nb3 hn3 hx3=>H_requirement_first a12 r13 h14 M3 nb3 ) rfl ⟨Q8s (hx _ _ (Qbv rfl)),Q8s (hx _ _ (Qbv rfl)),tv⟩ (fun a15 a16 r17 h18 M3 nb3 hn3 hx3=>H_requirement_Buffer_1 a15 a16 put1 capacity3 (Γ.n0+3) (Γ.n0+5) r17 h18 M3 nb3 ((hx.trans hx3) _ _ (Qbv rfl)) ((hx.trans hx3) _ _ (Qbv rfl)))) rfl pc9 ?_
    refine Rn.storeT (v:=(Qb x20)) (ds:=(Qc x20)) (cs':=(Qc x20)) tv rfl rfl rfl rfl rfl rfl rfl (md rfl (nt ((Tr.ret ?_))))
    replace h:=si h; subst h
    exact ⟨.inr rfl,.tup [(Qb x20),(i_ 0)],res2 (Qeo rfl rfl rfl rfl) rfl,(WkV.tup (.cons (.same rfl) (.cons (.same rfl) .nil))).rd,⟨⟨tv,tv,tv,tv,tv⟩,tv,tv⟩,mB⟩
theorem Qy6 {P:Program} {c:Nat} (hcf:Qm P c=some Qjc):Qoe P c (Qjd):=by
 intro x1 r h
 refine Qbw hcf rfl fun Γ M hP hnt hM=>?_
 subst hP
 refine Tr.init [(0,.d (.int .u32 x1))] rfl ?_
 unfold Qjd at h
 unfold Qjc
 refine sr ((md rfl (nt ((Tr.seq ?_)))))
 cases h
theorem Qy7 {P:Program} {c:Nat} (hcf:Qm P c=some Qjf):Qje P c (Qcv):=by
 intro x1 r h
 refine Qbw hcf rfl fun Γ M hP hnt hM=>?_
 subst hP
 refine Tr.init [(0,.d (.int .u64 x1))] rfl ?_
 unfold Qcv at h
 unfold Qjf
 refine sr ((md rfl (nt ((sr ((md rfl (Rn.bin tv rfl rfl rfl (Rn.bin tv rfl rfl rfl (md rfl (Rn.bin tv rfl rfl rfl (Rn.bin tv rfl rfl rfl (md rfl (nt ((sr ((md rfl (Rn.bin tv rfl rfl rfl (Rn.bin tv rfl rfl rfl (md rfl (Rn.bin tv rfl rfl rfl (Rn.bin tv rfl rfl rfl (md rfl (nt ((sr ((md rfl (Rn.bin tv rfl rfl rfl (md rfl (Rn.bin tv rfl rfl rfl (Rn.bin tv rfl rfl rfl (md rfl (nt ((sr ((md rfl ?_)))))))))))))))))))))))))))))))))))))))
 refine md rfl (Rn.bin tv rfl rfl rfl (Rn.bin tv rfl rfl rfl (md rfl (nt ((sr ((md rfl (md rfl (Rn.bin tv rfl rfl rfl (Rn.bin tv rfl rfl rfl (md rfl (nt ((sr ((md rfl (md rfl (Rn.bin tv rfl rfl rfl (Rn.bin tv rfl rfl rfl (md rfl (nt ((sr ((md rfl (Rn.conv tv rfl (Rn.bin tv rfl rfl rfl (md rfl (nt ((Tr.ret ?_))))))))))))))))))))))))))))))))
 replace h:=si h; subst h
 exact ⟨.inr rfl,(i_ (andI .i64 (IntKind.wrap .i64 (IntKind.wrap .u64 ((IntKind.wrap .u64 ((IntKind.wrap .u64 ((andI .u64 (IntKind.wrap .u64 ((Int.fdiv (IntKind.wrap .u64 ((andI .u64 (Int.fdiv (IntKind.wrap .u64 ((andI .u64 (Int.fdiv x1 (2 ^ (min (Int.toNat 1) (IntKind.bits .u64)))) 6148914691236517205)+(andI .u64 x1 6148914691236517205))) (2 ^ (min (Int.toNat 2) (IntKind.bits .u64)))) 3689348814741910323)+(andI .u64 (IntKind.wrap .u64 ((andI .u64 (Int.fdiv x1 (2 ^ (min (Int.toNat 1) (IntKind.bits .u64)))) 6148914691236517205)+(andI .u64 x1 6148914691236517205))) 3689348814741910323))) (2 ^ (min (Int.toNat 4) (IntKind.bits .u64))))+(IntKind.wrap .u64 ((andI .u64 (Int.fdiv (IntKind.wrap .u64 ((andI .u64 (Int.fdiv x1 (2 ^ (min (Int.toNat 1) (IntKind.bits .u64)))) 6148914691236517205)+(andI .u64 x1 6148914691236517205))) (2 ^ (min (Int.toNat 2) (IntKind.bits .u64)))) 3689348814741910323)+(andI .u64 (IntKind.wrap .u64 ((andI .u64 (Int.fdiv x1 (2 ^ (min (Int.toNat 1) (IntKind.bits .u64)))) 6148914691236517205)+(andI .u64 x1 6148914691236517205))) 3689348814741910323))))) 1085102592571150095)+(Int.fdiv (andI .u64 (IntKind.wrap .u64 ((Int.fdiv (IntKind.wrap .u64 ((andI .u64 (Int.fdiv (IntKind.wrap .u64 ((andI .u64 (Int.fdiv x1 (2 ^ (min (Int.toNat 1) (IntKind.bits .u64)))) 6148914691236517205)+(andI .u64 x1 6148914691236517205))) (2 ^ (min (Int.toNat 2) (IntKind.bits .u64)))) 3689348814741910323)+(andI .u64 (IntKind.wrap .u64 ((andI .u64 (Int.fdiv x1 (2 ^ (min (Int.toNat 1) (IntKind.bits .u64)))) 6148914691236517205)+(andI .u64 x1 6148914691236517205))) 3689348814741910323))) (2 ^ (min (Int.toNat 4) (IntKind.bits .u64))))+(IntKind.wrap .u64 ((andI .u64 (Int.fdiv (IntKind.wrap .u64 ((andI .u64 (Int.fdiv x1 (2 ^ (min (Int.toNat 1) (IntKind.bits .u64)))) 6148914691236517205)+(andI .u64 x1 6148914691236517205))) (2 ^ (min (Int.toNat 2) (IntKind.bits .u64)))) 3689348814741910323)+(andI .u64 (IntKind.wrap .u64 ((andI .u64 (Int.fdiv x1 (2 ^ (min (Int.toNat 1) (IntKind.bits .u64)))) 6148914691236517205)+(andI .u64 x1 6148914691236517205))) 3689348814741910323))))) 1085102592571150095) (2 ^ (min (Int.toNat 8) (IntKind.bits .u64))))))+(Int.fdiv (IntKind.wrap .u64 ((andI .u64 (IntKind.wrap .u64 ((Int.fdiv (IntKind.wrap .u64 ((andI .u64 (Int.fdiv (IntKind.wrap .u64 ((andI .u64 (Int.fdiv x1 (2 ^ (min (Int.toNat 1) (IntKind.bits .u64)))) 6148914691236517205)+(andI .u64 x1 6148914691236517205))) (2 ^ (min (Int.toNat 2) (IntKind.bits .u64)))) 3689348814741910323)+(andI .u64 (IntKind.wrap .u64 ((andI .u64 (Int.fdiv x1 (2 ^ (min (Int.toNat 1) (IntKind.bits .u64)))) 6148914691236517205)+(andI .u64 x1 6148914691236517205))) 3689348814741910323))) (2 ^ (min (Int.toNat 4) (IntKind.bits .u64))))+(IntKind.wrap .u64 ((andI .u64 (Int.fdiv (IntKind.wrap .u64 ((andI .u64 (Int.fdiv x1 (2 ^ (min (Int.toNat 1) (IntKind.bits .u64)))) 6148914691236517205)+(andI .u64 x1 6148914691236517205))) (2 ^ (min (Int.toNat 2) (IntKind.bits .u64)))) 3689348814741910323)+(andI .u64 (IntKind.wrap .u64 ((andI .u64 (Int.fdiv x1 (2 ^ (min (Int.toNat 1) (IntKind.bits .u64)))) 6148914691236517205)+(andI .u64 x1 6148914691236517205))) 3689348814741910323))))) 1085102592571150095)+(Int.fdiv (andI .u64 (IntKind.wrap .u64 ((Int.fdiv (IntKind.wrap .u64 ((andI .u64 (Int.fdiv (IntKind.wrap .u64 ((andI .u64 (Int.fdiv x1 (2 ^ (min (Int.toNat 1) (IntKind.bits .u64)))) 6148914691236517205)+(andI .u64 x1 6148914691236517205))) (2 ^ (min (Int.toNat 2) (IntKind.bits .u64)))) 3689348814741910323)+(andI .u64 (IntKind.wrap .u64 ((andI .u64 (Int.fdiv x1 (2 ^ (min (Int.toNat 1) (IntKind.bits .u64)))) 6148914691236517205)+(andI .u64 x1 6148914691236517205))) 3689348814741910323))) (2 ^ (min (Int.toNat 4) (IntKind.bits .u64))))+(IntKind.wrap .u64 ((andI .u64 (Int.fdiv (IntKind.wrap .u64 ((andI .u64 (Int.fdiv x1 (2 ^ (min (Int.toNat 1) (IntKind.bits .u64)))) 6148914691236517205)+(andI .u64 x1 6148914691236517205))) (2 ^ (min (Int.toNat 2) (IntKind.bits .u64)))) 3689348814741910323)+(andI .u64 (IntKind.wrap .u64 ((andI .u64 (Int.fdiv x1 (2 ^ (min (Int.toNat 1) (IntKind.bits .u64)))) 6148914691236517205)+(andI .u64 x1 6148914691236517205))) 3689348814741910323))))) 1085102592571150095) (2 ^ (min (Int.toNat 8) (IntKind.bits .u64)))))) (2 ^ (min (Int.toNat 16) (IntKind.bits .u64))))))+(Int.fdiv (IntKind.wrap .u64 ((IntKind.wrap .u64 ((andI .u64 (IntKind.wrap .u64 ((Int.fdiv (IntKind.wrap .u64 ((andI .u64 (Int.fdiv (IntKind.wrap .u64 ((andI .u64 (Int.fdiv x1 (2 ^ (min (Int.toNat 1) (IntKind.bits .u64)))) 6148914691236517205)+(andI .u64 x1 6148914691236517205))) (2 ^ (min (Int.toNat 2) (IntKind.bits .u64)))) 3689348814741910323)+(andI .u64 (IntKind.wrap .u64 ((andI .u64 (Int.fdiv x1 (2 ^ (min (Int.toNat 1) (IntKind.bits .u64)))) 6148914691236517205)+(andI .u64 x1 6148914691236517205))) 3689348814741910323))) (2 ^ (min (Int.toNat 4) (IntKind.bits .u64))))+(IntKind.wrap .u64 ((andI .u64 (Int.fdiv (IntKind.wrap .u64 ((andI .u64 (Int.fdiv x1 (2 ^ (min (Int.toNat 1) (IntKind.bits .u64)))) 6148914691236517205)+(andI .u64 x1 6148914691236517205))) (2 ^ (min (Int.toNat 2) (IntKind.bits .u64)))) 3689348814741910323)+(andI .u64 (IntKind.wrap .u64 ((andI .u64 (Int.fdiv x1 (2 ^ (min (Int.toNat 1) (IntKind.bits .u64)))) 6148914691236517205)+(andI .u64 x1 6148914691236517205))) 3689348814741910323))))) 1085102592571150095)+(Int.fdiv (andI .u64 (IntKind.wrap .u64 ((Int.fdiv (IntKind.wrap .u64 ((andI .u64 (Int.fdiv (IntKind.wrap .u64 ((andI .u64 (Int.fdiv x1 (2 ^ (min (Int.toNat 1) (IntKind.bits .u64)))) 6148914691236517205)+(andI .u64 x1 6148914691236517205))) (2 ^ (min (Int.toNat 2) (IntKind.bits .u64)))) 3689348814741910323)+(andI .u64 (IntKind.wrap .u64 ((andI .u64 (Int.fdiv x1 (2 ^ (min (Int.toNat 1) (IntKind.bits .u64)))) 6148914691236517205)+(andI .u64 x1 6148914691236517205))) 3689348814741910323))) (2 ^ (min (Int.toNat 4) (IntKind.bits .u64))))+(IntKind.wrap .u64 ((andI .u64 (Int.fdiv (IntKind.wrap .u64 ((andI .u64 (Int.fdiv x1 (2 ^ (min (Int.toNat 1) (IntKind.bits .u64)))) 6148914691236517205)+(andI .u64 x1 6148914691236517205))) (2 ^ (min (Int.toNat 2) (IntKind.bits .u64)))) 3689348814741910323)+(andI .u64 (IntKind.wrap .u64 ((andI .u64 (Int.fdiv x1 (2 ^ (min (Int.toNat 1) (IntKind.bits .u64)))) 6148914691236517205)+(andI .u64 x1 6148914691236517205))) 3689348814741910323))))) 1085102592571150095) (2 ^ (min (Int.toNat 8) (IntKind.bits .u64))))))+(Int.fdiv (IntKind.wrap .u64 ((andI .u64 (IntKind.wrap .u64 ((Int.fdiv (IntKind.wrap .u64 ((andI .u64 (Int.fdiv (IntKind.wrap .u64 ((andI .u64 (Int.fdiv x1 (2 ^ (min (Int.toNat 1) (IntKind.bits .u64)))) 6148914691236517205)+(andI .u64 x1 6148914691236517205))) (2 ^ (min (Int.toNat 2) (IntKind.bits .u64)))) 3689348814741910323)+(andI .u64 (IntKind.wrap .u64 ((andI .u64 (Int.fdiv x1 (2 ^ (min (Int.toNat 1) (IntKind.bits .u64)))) 6148914691236517205)+(andI .u64 x1 6148914691236517205))) 3689348814741910323))) (2 ^ (min (Int.toNat 4) (IntKind.bits .u64))))+(IntKind.wrap .u64 ((andI .u64 (Int.fdiv (IntKind.wrap .u64 ((andI .u64 (Int.fdiv x1 (2 ^ (min (Int.toNat 1) (IntKind.bits .u64)))) 6148914691236517205)+(andI .u64 x1 6148914691236517205))) (2 ^ (min (Int.toNat 2) (IntKind.bits .u64)))) 3689348814741910323)+(andI .u64 (IntKind.wrap .u64 ((andI .u64 (Int.fdiv x1 (2 ^ (min (Int.toNat 1) (IntKind.bits .u64)))) 6148914691236517205)+(andI .u64 x1 6148914691236517205))) 3689348814741910323))))) 1085102592571150095)+(Int.fdiv (andI .u64 (IntKind.wrap .u64 ((Int.fdiv (IntKind.wrap .u64 ((andI .u64 (Int.fdiv (IntKind.wrap .u64 ((andI .u64 (Int.fdiv x1 (2 ^ (min (Int.toNat 1) (IntKind.bits .u64)))) 6148914691236517205)+(andI .u64 x1 6148914691236517205))) (2 ^ (min (Int.toNat 2) (IntKind.bits .u64)))) 3689348814741910323)+(andI .u64 (IntKind.wrap .u64 ((andI .u64 (Int.fdiv x1 (2 ^ (min (Int.toNat 1) (IntKind.bits .u64)))) 6148914691236517205)+(andI .u64 x1 6148914691236517205))) 3689348814741910323))) (2 ^ (min (Int.toNat 4) (IntKind.bits .u64))))+(IntKind.wrap .u64 ((andI .u64 (Int.fdiv (IntKind.wrap .u64 ((andI .u64 (Int.fdiv x1 (2 ^ (min (Int.toNat 1) (IntKind.bits .u64)))) 6148914691236517205)+(andI .u64 x1 6148914691236517205))) (2 ^ (min (Int.toNat 2) (IntKind.bits .u64)))) 3689348814741910323)+(andI .u64 (IntKind.wrap .u64 ((andI .u64 (Int.fdiv x1 (2 ^ (min (Int.toNat 1) (IntKind.bits .u64)))) 6148914691236517205)+(andI .u64 x1 6148914691236517205))) 3689348814741910323))))) 1085102592571150095) (2 ^ (min (Int.toNat 8) (IntKind.bits .u64)))))) (2 ^ (min (Int.toNat 16) (IntKind.bits .u64)))))) (2 ^ (min (Int.toNat 32) (IntKind.bits .u64))))))) 127)),rfl,fun _ _ _ _ h=>h,tv,mB⟩
theorem Q27 {P:Program} {c:Nat} {Qcv:Int→Option Int}
    (H_bits_OnesCount64:Qje P 57 Qcv) (hcf:Qm P c=some Qk8):Qk7 P c (Qdf Qcv):=by
 intro x1 r h
 refine Qbw hcf rfl fun Γ M hP hnt hM=>?_
 subst hP
 refine Tr.init [(0,.d (.int .u64 x1))] rfl ?_
 unfold Qdf at h
 unfold Qk8
 refine sr ((md rfl (nt ((Tr.seq (Tr.condF rfl rfl (Tr.skip (toN (sr ((md rfl ?_)))))))))))
 obtain ⟨x3,h2,h⟩:=bnd h
 refine Rn.call (args:=[.d (.int .u64 x1)]) tv rfl (H_bits_OnesCount64 _ _ h2) pc9 (md rfl (nt ((Tr.ret ?_))))
 replace h:=si h; subst h
 exact ⟨.inr rfl,(i_ x3),rfl,fun _ _ _ _ h=>h,tv,mB⟩
theorem Qo9 {P:Program} {c:Nat} {Q7:(List Int)→Int→Option Int} {Qdf:Int→Option Int}
    (H_slices_Index_int:Qgr P 32 Q7)
    (H_bits_OnesCount:Qk7 P 33 Qdf) (hcf:Qm P c=some Qgc):Qgb P c (Qbz Q7 Qdf):=by
 intro state1 event2 x3 x6 k4 k7 r h
 intro M nb hk5 hk8
 refine Qbai hcf rfl M nb fun Γ hP hnt hn0 hM=>?_
 subst hP hn0
 refine Tr.init [(0,(i_ state1)),(1,(i_ event2)),(2,.ptr k4 0),(3,.ptr k7 0)] rfl ?_
 unfold Qbz at h
 unfold Qgc
 refine sr ((md rfl (md rfl (nt ((sr ((Rn.load (v:=(l_ x3)) tv rfl (Q5s hM hk5) rfl rfl (md rfl ?_)))))))))
 obtain ⟨x10,h9,h⟩:=bnd h
 refine Rn.call (args:=[(l_ x3),(i_ event2)]) tv rfl (H_slices_Index_int _ _ _ h9) pc9 (md rfl (nt ((sr ((md rfl (Rn.bin tv rfl rfl rfl ?_)))))))
 obtain ⟨s11,h12,h⟩:=bnd h
 refine Rn.bin tv rfl rfl (Qbkm h12) (md rfl (nt ((Tr.seq (sr ((md rfl (Rn.bin tv rfl rfl rfl (Rn.bin tv rfl rfl rfl (Rn.nil (toN ?_)))))))))))
 refine Tr.cond rfl (fun hb13=>?_) (fun hb13=>?_)
 ·replace h:=bT hb13 h
  refine Tr.seq ?_
  refine Tr.rgnD (by decide) ?_
  refine md rfl (md rfl (Rn.bin tv rfl rfl rfl (md rfl (md rfl (Rn.bin tv rfl rfl rfl (Rn.bin tv rfl rfl rfl (md rfl ?_)))))))
  refine Qcb ((andI .i64 state1 s11) == 0) (fun hb14=>?_) (fun hb14=>?_)
  ·replace h:=bT hb14 h
   refine Rn.movD (gw rfl hb14) rfl (Rn.conv (gw rfl hb14) rfl ?_)
   obtain ⟨x16,h15,h⟩:=bnd h
   refine Rn.call (args:=[.d (.int .u64 (IntKind.wrap .u64 state1))]) (gw rfl hb14) rfl (H_bits_OnesCount _ _ h15) (fun _=>Qbhb hM rfl) (Rn.load (v:=(i_ x6)) (gw rfl hb14) rfl (Q5s hM hk8) rfl rfl (Rn.bin (gw rfl hb14) rfl rfl rfl (Rn.pickT (v:=(b_ (decide (x16 < x6)))) tv rfl hb14 rfl (md rfl (md rfl ?_)))))
   refine Rn.nil ⟨rfl,?_⟩
   refine toN (Tr.ret ?_)
   replace h:=si h; subst h
   exact ⟨.inr rfl,.tup [(i_ (orI .i64 state1 s11)),(b_ (decide (x16 < x6)))],res2 rfl rfl,(WkV.tup (.cons (.same rfl) (.cons (.same rfl) .nil))).rd,⟨tv,tv,tv⟩,mB⟩
  ·replace h:=bF hb14 h
   refine Rn.sk (nw rfl hb14) (Rn.sk (nw rfl hb14) (Rn.sk (nw rfl hb14) (Rn.sk (nw rfl hb14) (Rn.sk (nw rfl hb14) (Rn.pickF (v:=(b_ false)) tv rfl hb14 rfl (md rfl (md rfl ?_)))))))
   refine Rn.nil ⟨rfl,?_⟩
   refine toN (Tr.ret ?_)
   replace h:=si h; subst h
   exact ⟨.inr rfl,.tup [(i_ (orI .i64 state1 s11)),(b_ false)],res2 rfl rfl,(WkV.tup (.cons (.same rfl) (.cons (.same rfl) .nil))).rd,⟨tv,tv,tv⟩,mB⟩
 ·replace h:=bF hb13 h
  refine Tr.skip (toN (sr ((md rfl (md rfl (Rn.bin tv rfl rfl rfl (md rfl (md rfl (Rn.bin tv rfl rfl rfl (Rn.bin tv rfl rfl rfl (md rfl (md rfl (nt ((Tr.ret ?_)))))))))))))))
  replace h:=si h; subst h
  exact ⟨.inr rfl,.tup [(i_ (Qbhc .i64 state1 s11)),(b_ ((andI .i64 state1 s11) != 0))],res2 rfl rfl,(WkV.tup (.cons (.same rfl) (.cons (.same rfl) .nil))).rd,⟨tv,tv,tv⟩,mB⟩
theorem Q1m {P:Program} {c:Nat} (hcf:Qm P c=some Qj5):Qj4 P c (Qc4):=by
 intro x1 r h
 refine Qbw hcf rfl fun Γ M hP hnt hM=>?_
 subst hP
 refine Tr.init [(0,(i_ x1))] rfl ?_
 unfold Qc4 at h
 unfold Qj5
 refine sr ((md rfl (nt ((sr ((md rfl (nt ((Tr.ret ?_))))))))))
 replace h:=si h; subst h
 exact ⟨.inr rfl,(b_ true),rfl,fun _ _ _ _ h=>h,tv,mB⟩
theorem Qus {P:Program} {c:Nat} {Qv:(List Int)→Option Int} {Qo:(List Int)→(Int→Option Bool)→(Int→Int→Option (Int×Bool))→Option Qa} {Q6:(List Int)→Option ((List Int))} {Qc4:Int→Option Bool} {Qbz:Int→Int→(List Int)→Int→Option (Int×Bool)}
    (H_requirement_distinct:Qej P 21 Qv)
    (H_requirement_explore:Qdt P 22 Qo)
    (H_requirement_sorted:Qff P 23 Q6)
    (H_requirement_all:Qj4 P 30 Qc4)
    (H_requirement_AtMost_1:Qgb P 31 Qbz) (hcf:Qm P c=some Qhk) (fuel:Nat):Qhj P c (Qci Qv Qo Q6 Qc4 Qbz fuel):=by
 intro phases1 most2 r h
 refine Qbw hcf rfl fun Γ M hP hnt hM=>?_
 subst hP
 refine Tr.init [(0,(Qee phases1)),(1,(i_ most2))] rfl ?_
 unfold Qci at h
 unfold Qhk
 refine sr ((Rn.box (v:=(i_ most2)) (cs:=[(i_ most2)]) tv rfl rfl rfl rfl rfl (Rn.alloc tv rfl (md rfl (nt ((Tr.seq (sr ((md rfl (Rn.lenD tv rfl (Rn.bin tv rfl rfl rfl (Rn.nil (toN ?_))))))))))))))
 refine Tr.cond rfl (fun hb3=>?_) (fun hb3=>?_)
 ·replace h:=ifT hb3 h
  refine sr ((Rn.build (v:=.agg [.nils 1,(i_ 0),.nils 1,.nils 3]) tv rfl (Rn.storeT (v:=.agg [.nils 1,(i_ 0),.nils 1,.nils 3]) (ds:=[.nils 1,(i_ 0),.nils 1,.nils 3]) (cs':=[.nils 1,(i_ 0),.nils 1,.nils 3]) tv rfl rfl rfl rfl rfl rfl rfl (md rfl (nt ((Tr.ret ?_)))))))
  replace h:=si h; subst h
  exact ⟨.inr rfl,.tup [.agg [.nils 1,(i_ 0),.nils 1,.nils 3],(i_ 3)],res2 (Qeo rfl rfl rfl rfl) rfl,(WkV.tup (.cons (WkV.agg (.cons (WkV.nilsD _) (.cons (.same rfl) (.cons (WkV.nilsD _) (.cons (WkV.nilsD _) .nil))))) (.cons (.same rfl) .nil))).rd,⟨⟨tv,tv,tv,tv,tv⟩,tv,tv⟩,mB⟩
 ·replace h:=ifF hb3 h
  refine Tr.skip (toN (sr ((Rn.alloc tv rfl (Rn.nil (toN ?_))))))
  refine Tr.cutB (fun ((c15,c16,c17,events18):(List Int)×(List Int)×(List Qd)×(List Int))=>⟨look [(0,(Qee phases1)),(3,.ptr (Γ.n0+3) 0),(4,.ptr (Γ.n0+4) 0),(6,.ptr (Γ.n0+6) 0)],Qj Γ.n0 (bxs [(3,.cells ([(i_ most2)])),(4,.cells ([(o_ c15),(i_ 0),(o_ c16),(Qk c17)])),(6,.cells ([(o_ events18)]))]) M,Γ.n0+47⟩) h (fun z h=>?_) (fun z h=>?_)
  ·refine sr ((md rfl (Rn.lenD tv rfl (md rfl (nt ((Tr.block ?_)))))))
   refine Tr.loop (mk:=fun ((x4,c5,c6,c7,events8):Int×(List Int)×(List Int)×(List Qd)×(List Int))=>⟨look [(0,(Qee phases1)),(3,.ptr (Γ.n0+3) 0),(4,.ptr (Γ.n0+4) 0),(6,.ptr (Γ.n0+6) 0),(14,(Qee phases1)),(15,(i_ (phases1.length:Int))),(16,(i_ x4))],Qj Γ.n0 (bxs [(3,.cells ([(i_ most2)])),(4,.cells ([(o_ c5),(i_ 0),(o_ c6),(Qk c7)])),(6,.cells ([(o_ events8)]))]) M,Γ.n0+47⟩) h (by exact Qi ⟨(sm rfl),(kPtr rfl),(kPtr rfl),(kPtr rfl),(sm rfl),(sm rfl),(sm rfl),tv⟩ ⟨bS rfl rfl rfl,⟨_,rfl,rfl,(.cons (WkV.nilsO _) (cS rfl (.cons (WkV.nilsO _) (.cons (WkV.nilsO _) .nil))))⟩,⟨_,rfl,rfl,(.cons (WkV.nilsO _) .nil)⟩,tv⟩ rfl) (fun k9 z h=>?_)
   ·obtain ⟨x4,c5,c6,c7,events8⟩:=z
    replace h:_=some _:=h
    refine sr ((Rn.bin tv rfl rfl rfl (nt ((Tr.seq ?_)))))
    refine Tr.cond rfl (fun hb10=>?_) (fun hb10=>?_)
    ·replace h:=ifT hb10 h
     refine Tr.skip (toN (Tr.seq (Tr.block (Tr.seq (Tr.rgn ?_)))))
     obtain ⟨x11,h12,h⟩:=bnd h
     refine Rn.idxD (e:=Qc3) tv rfl rfl h12 (Rn.loadCA (vs:=(Qed x11)) tv rfl rfl rfl (Rn.alloc tv rfl (Rn.store (v:=(Q2g x11)) (cs':=(Qed x11)) tv rfl rfl rfl rfl rfl rfl (nt ((Tr.rgn (Rn.loadT (cs':=[(l_ events8)]) tv rfl rfl rfl rfl (Rn.fldP (o':=0) tv rfl rfl (lB (v:=(i_ x11.Enter)) rfl rfl rfl rfl (Rn.fldP (o':=1) tv rfl rfl (lB (v:=(i_ x11.Leave)) rfl rfl rfl rfl (Rn.bslice (xs:=(Qed x11)) (cs:=(Qed x11)) tv rfl rfl rfl rfl ?_))))))))))))
     obtain ⟨x13,h14,h⟩:=bnd h
     refine Rn.app (e:=(eI .i64)) tv rfl rfl rfl (Qdk rfl rfl rfl) h14 rfl (Rn.storeO (cs':=[(o_ x13)]) tv rfl rfl rfl rfl rfl (nt ((Tr.rgn (Rn.bin tv rfl rfl rfl (md rfl (Rn.nil ?_)))))))
     exact ⟨_,h,(by exact Qi ⟨(sm rfl),(kPtr rfl),(kPtr rfl),(kPtr rfl),(sm rfl),(sm rfl),(sm rfl),tv⟩ ⟨bS rfl rfl rfl,bS rfl rfl rfl,bS rfl rfl rfl,tv⟩ rfl)⟩
    ·replace h:=ifF hb10 h
     refine Tr.exit ?_
     replace h:=si h; subst h
     exact Qh [] ⟨(sm rfl),(kPtr rfl),(kPtr rfl),(kPtr rfl),tv⟩ ⟨bS rfl rfl rfl,bS rfl rfl rfl,bS rfl rfl rfl,tv⟩ rfl
  ·obtain ⟨c15,c16,c17,events18⟩:=z
   refine Tr.seq (sr ((lB (v:=(l_ events18)) rfl rfl rfl rfl ?_)))
   obtain ⟨x20,h19,h⟩:=bnd h
   refine Rn.call (args:=[(l_ events18)]) tv rfl (H_requirement_distinct _ _ h19) pc9 (md rfl (nt ((sr ((md rfl (Rn.bin tv rfl rfl rfl (Rn.nil (toN ?_)))))))))
   refine Tr.cond rfl (fun hb21=>?_) (fun hb21=>?_)
   ·replace h:=bT hb21 h
    refine sr ((Rn.build (v:=.agg [.nils 1,(i_ 0),.nils 1,.nils 3]) tv rfl (md rfl (Rn.storeT (v:=.agg [.nils 1,(i_ 0),.nils 1,.nils 3]) (ds:=[.nils 1,(i_ 0),.nils 1,.nils 3]) (cs':=[.nils 1,(i_ 0),.nils 1,.nils 3]) tv rfl rfl rfl rfl rfl rfl rfl (md rfl (nt ((Tr.ret ?_))))))))
    replace h:=si h; subst h
    exact ⟨.inr rfl,.tup [.agg [.nils 1,(i_ 0),.nils 1,.nils 3],(i_ x20)],res2 (Qeo rfl rfl rfl rfl) rfl,(WkV.tup (.cons (WkV.agg (.cons (WkV.nilsD _) (.cons (.same rfl) (.cons (WkV.nilsD _) (.cons (WkV.nilsD _) .nil))))) (.cons (.same rfl) .nil))).rd,⟨⟨tv,tv,tv,tv,tv⟩,tv,tv⟩,mB⟩
   ·replace h:=bF hb21 h
    refine Tr.skip (toN (Tr.seq ?_))
    refine Tr.cutB (fun (x23:Bool)=>⟨look [(3,.ptr (Γ.n0+3) 0),(4,.ptr (Γ.n0+4) 0),(6,.ptr (Γ.n0+6) 0),(41,(b_ x23))],Qj Γ.n0 (bxs [(3,.cells ([(i_ most2)])),(4,.cells ([(o_ c15),(i_ 0),(o_ c16),(Qk c17)])),(6,.cells ([(o_ events18)]))]) M,Γ.n0+47⟩) h (fun z h=>?_) (fun z h=>?_)
    ·refine Tr.rgn (lB (v:=(i_ most2)) rfl rfl rfl rfl (Rn.bin tv rfl rfl rfl (md rfl ?_)))
     refine Qcb (decide (most2 < 0)) (fun hb22=>?_) (fun hb22=>?_)
     ·replace h:=ifT hb22 h
      refine Rn.sk (nw rfl hb22) (Rn.sk (nw rfl hb22) (Rn.sk (nw rfl hb22) (Rn.sk (nw rfl hb22) (Rn.pickT (v:=(b_ true)) tv rfl hb22 rfl (Rn.nil ?_)))))
      replace h:=si h; subst h
      exact Qh [] ⟨(kPtr rfl),(kPtr rfl),(kPtr rfl),(sm rfl),tv⟩ ⟨bS rfl rfl rfl,bS rfl rfl rfl,bS rfl rfl rfl,tv⟩ rfl
     ·replace h:=ifF hb22 h
      refine Rn.load (v:=(i_ most2)) (gw rfl hb22) rfl (Qbv rfl) rfl rfl (Rn.movD (gw rfl hb22) rfl (Rn.lenD (gw rfl hb22) rfl (Rn.bin (gw rfl hb22) rfl rfl rfl (Rn.pickF (v:=(b_ (decide (most2 > (phases1.length:Int))))) tv rfl hb22 rfl (Rn.nil ?_)))))
      replace h:=si h; subst h
      exact Qh [] ⟨(kPtr rfl),(kPtr rfl),(kPtr rfl),(sm rfl),tv⟩ ⟨bS rfl rfl rfl,bS rfl rfl rfl,bS rfl rfl rfl,tv⟩ rfl
    ·obtain ⟨x23,rfl⟩ : ∃ x,x=z:=⟨_,rfl⟩
     refine Tr.cond rfl (fun hb24=>?_) (fun hb24=>?_)
     ·replace h:=bT hb24 h
      refine sr ((Rn.build (v:=.agg [.nils 1,(i_ 0),.nils 1,.nils 3]) tv rfl (Rn.storeT (v:=.agg [.nils 1,(i_ 0),.nils 1,.nils 3]) (ds:=[.nils 1,(i_ 0),.nils 1,.nils 3]) (cs':=[.nils 1,(i_ 0),.nils 1,.nils 3]) tv rfl rfl rfl rfl rfl rfl rfl (md rfl (nt ((Tr.ret ?_)))))))
      replace h:=si h; subst h
      exact ⟨.inr rfl,.tup [.agg [.nils 1,(i_ 0),.nils 1,.nils 3],(i_ 2)],res2 (Qeo rfl rfl rfl rfl) rfl,(WkV.tup (.cons (WkV.agg (.cons (WkV.nilsD _) (.cons (.same rfl) (.cons (WkV.nilsD _) (.cons (WkV.nilsD _) .nil))))) (.cons (.same rfl) .nil))).rd,⟨⟨tv,tv,tv,tv,tv⟩,tv,tv⟩,mB⟩
     ·replace h:=bF hb24 h
      refine Tr.skip (toN (sr ((lB (v:=(l_ events18)) rfl rfl rfl rfl ?_))))
      obtain ⟨x26,h25,h⟩:=bnd h
      refine Rn.call (args:=[(l_ events18)]) tv rfl (H_requirement_sorted _ _ h25) pc9 (Rn.k (v:=.clo 31 [.ptr (Γ.n0+6) 0,.ptr (Γ.n0+3) 0]) tv rfl rfl rfl ?_)
      refine Rn.weak (by show WeakSt Γ _ ⟨look [(3,.ptr (Γ.n0+3) 0),(4,.ptr (Γ.n0+4) 0),(6,.ptr (Γ.n0+6) 0),(41,(b_ x23)),(43,(l_ events18)),(44,(l_ x26)),(45,.clo 31 [.ptr (Γ.n0+6) 0,.ptr (Γ.n0+3) 0])],Qj Γ.n0 (bxs [(3,.cells ([(i_ most2)])),(4,.cells ([(o_ c15),(i_ 0),(o_ c16),(Qk c17)])),(6,.cells ([(l_ events18)]))]) M,Γ.n0+47⟩; exact Qh [] ⟨(kPtr rfl),(kPtr rfl),(kPtr rfl),(sm rfl),(sm rfl),(sm rfl),(kClo (Qbls rfl (Qbls rfl Qbl7))),tv⟩ ⟨bS rfl rfl rfl,bS rfl rfl rfl,⟨_,rfl,rfl,(.cons (WkV.dem' rfl) .nil)⟩,tv⟩ rfl) ?_
      obtain ⟨x35,h34,h⟩:=bnd h
      refine Rn.callM (args:=[(l_ x26),.clo 30 [],.clo 31 [.ptr (Γ.n0+6) 0,.ptr (Γ.n0+3) 0]]) tv rfl (fun M2 nb2 hn hx=>H_requirement_explore _ _ _ 30 [] 31 [.ptr (Γ.n0+6) 0,.ptr (Γ.n0+3) 0] _ h34 M2 nb2 rfl tv (fun a27 r28 h29 M3 nb3 hn3 hx3=>H_requirement_all a27 r28 h29 M3 nb3 ) rfl ⟨Q8s (hx _ _ (Qbv rfl)),Q8s (hx _ _ (Qbv rfl)),tv⟩ (fun a30 a31 r32 h33 M3 nb3 hn3 hx3=>H_requirement_AtMost_1 a30 a31 events18 most2 (Γ.n0+6) (Γ.n0+3) r32 h33 M3 nb3 ((hx.trans hx3) _ _ (Qbv rfl)) ((hx.trans hx3) _ _ (Qbv rfl)))) rfl pc9 ?_
      refine Rn.storeT (v:=(Qb x35)) (ds:=(Qc x35)) (cs':=(Qc x35)) tv rfl rfl rfl rfl rfl rfl rfl (md rfl (nt ((Tr.ret ?_))))
      replace h:=si h; subst h
      exact ⟨.inr rfl,.tup [(Qb x35),(i_ 0)],res2 (Qeo rfl rfl rfl rfl) rfl,(WkV.tup (.cons (.same rfl) (.cons (.same rfl) .nil))).rd,⟨⟨tv,tv,tv,tv,tv⟩,tv,tv⟩,mB⟩
theorem Qut {P:Program} {c:Nat} (hcf:Qm P c=some Qhm) (fuel:Nat):Qhl P c (Qbp fuel):=by
 intro l1 n2 r h
 refine Qbw hcf rfl fun Γ M hP hnt hM=>?_
 subst hP
 refine Tr.init [(0,(l_ l1)),(1,(i_ n2))] rfl ?_
 unfold Qbp at h
 unfold Qhm
 refine sr ((md rfl (nt ((Tr.seq (sr ((md rfl (Rn.lenD tv rfl (md rfl (nt ((Tr.block ?_)))))))))))))
 refine Tr.loop (mk:=fun (x3:Int)=>⟨look [(0,(l_ l1)),(1,(i_ n2)),(7,(l_ l1)),(8,(i_ (l1.length:Int))),(9,(i_ x3))],Qj Γ.n0 (bxs []) M,Γ.n0+35⟩) h (by exact Qi ⟨(sm rfl),(sm rfl),(sm rfl),(sm rfl),(sm rfl),tv⟩ tv rfl) (fun k4 z h=>?_)
 ·obtain ⟨x3,rfl⟩ : ∃ x,x=z:=⟨_,rfl⟩
  replace h:_=some _:=h
  refine sr ((Rn.bin tv rfl rfl rfl (nt ((Tr.seq ?_)))))
  refine Tr.cond rfl (fun hb5=>?_) (fun hb5=>?_)
  ·replace h:=ifT hb5 h
   refine Tr.skip (toN (Tr.seq (Tr.block (sr ((md rfl ?_))))))
   obtain ⟨x6,h7,h⟩:=bnd h
   refine Rn.idxD (e:=(eI .i64)) tv rfl rfl h7 (Rn.loadC (x:=.int .i64 x6) tv rfl (md rfl (md rfl (nt ((Tr.block ?_))))))
   refine Tr.cutB (fun (x9:Bool)=>⟨look [(0,(l_ l1)),(1,(i_ n2)),(5,(i_ x3)),(6,(i_ x6)),(7,(l_ l1)),(8,(i_ (l1.length:Int))),(9,(i_ x3)),(14,(b_ x9))],Qj Γ.n0 (bxs []) M,Γ.n0+35⟩) h (fun z h=>?_) (fun z h=>?_)
   ·refine Tr.rgn (md rfl (Rn.bin tv rfl rfl rfl (md rfl ?_)))
    refine Qcb (decide (x6 < 0)) (fun hb8=>?_) (fun hb8=>?_)
    ·replace h:=ifT hb8 h
     refine Rn.sk (nw rfl hb8) (Rn.sk (nw rfl hb8) (Rn.sk (nw rfl hb8) (Rn.pickT (v:=(b_ true)) tv rfl hb8 rfl (md rfl (Rn.nil ?_)))))
     replace h:=si h; subst h
     exact Qh [] ⟨(sm rfl),(sm rfl),(sm rfl),(sm rfl),(sm rfl),(sm rfl),(sm rfl),(sm rfl),tv⟩ tv rfl
    ·replace h:=ifF hb8 h
     refine Rn.movD (gw rfl hb8) rfl (Rn.movD (gw rfl hb8) rfl (Rn.bin (gw rfl hb8) rfl rfl rfl (Rn.pickF (v:=(b_ (decide (x6≥n2)))) tv rfl hb8 rfl (md rfl (Rn.nil ?_)))))
     replace h:=si h; subst h
     exact Qh [] ⟨(sm rfl),(sm rfl),(sm rfl),(sm rfl),(sm rfl),(sm rfl),(sm rfl),(sm rfl),tv⟩ tv rfl
   ·obtain ⟨x9,rfl⟩ : ∃ x,x=z:=⟨_,rfl⟩
    refine Tr.cond rfl (fun hb10=>?_) (fun hb10=>?_)
    ·replace h:=bT hb10 h
     refine sr ((md rfl (nt ((Tr.ret ?_)))))
     replace h:=si h; subst h
     exact ⟨.inr rfl,(i_ 2),rfl,fun _ _ _ _ h=>h,tv,mB⟩
    ·replace h:=bF hb10 h
     refine Tr.cutB (fun (x14:Bool)=>⟨look [(0,(l_ l1)),(1,(i_ n2)),(7,(l_ l1)),(8,(i_ (l1.length:Int))),(9,(i_ x3)),(22,(b_ x14))],Qj Γ.n0 (bxs []) M,Γ.n0+35⟩) h (fun z h=>?_) (fun z h=>?_)
     ·refine Tr.rgn (md rfl (Rn.bin tv rfl rfl rfl (md rfl ?_)))
      refine Qcb (decide (x3 > 0)) (fun hb11=>?_) (fun hb11=>?_)
      ·replace h:=ifT hb11 h
       refine Rn.movD (gw rfl hb11) rfl (Rn.movD (gw rfl hb11) rfl (Rn.movD (gw rfl hb11) rfl (Rn.bin (gw rfl hb11) rfl rfl rfl ?_)))
       obtain ⟨x12,h13,h⟩:=bnd h
       refine Rn.idxD (e:=(eI .i64)) (gw rfl hb11) rfl rfl h13 (Rn.loadC (x:=.int .i64 x12) (gw rfl hb11) rfl (Rn.bin (gw rfl hb11) rfl rfl rfl (Rn.pickT (v:=(b_ (decide (x6≤x12)))) tv rfl hb11 rfl (md rfl (Rn.nil ?_)))))
       replace h:=si h; subst h
       exact Qh [] ⟨(sm rfl),(sm rfl),(sm rfl),(sm rfl),(sm rfl),(sm rfl),tv⟩ tv rfl
      ·replace h:=ifF hb11 h
       refine Rn.sk (nw rfl hb11) (Rn.sk (nw rfl hb11) (Rn.sk (nw rfl hb11) (Rn.sk (nw rfl hb11) (Rn.sk (nw rfl hb11) (Rn.sk (nw rfl hb11) (Rn.sk (nw rfl hb11) (Rn.pickF (v:=(b_ false)) tv rfl hb11 rfl (md rfl (Rn.nil ?_)))))))))
       replace h:=si h; subst h
       exact Qh [] ⟨(sm rfl),(sm rfl),(sm rfl),(sm rfl),(sm rfl),(sm rfl),tv⟩ tv rfl
     ·obtain ⟨x14,rfl⟩ : ∃ x,x=z:=⟨_,rfl⟩
      refine Tr.cond rfl (fun hb15=>?_) (fun hb15=>?_)
      ·replace h:=bT hb15 h
       refine sr ((md rfl (nt ((Tr.ret ?_)))))
       replace h:=si h; subst h
       exact ⟨.inr rfl,(i_ 5),rfl,fun _ _ _ _ h=>h,tv,mB⟩
      ·replace h:=bF hb15 h
       refine Tr.skip (toN (Tr.rgn (Rn.bin tv rfl rfl rfl (md rfl (Rn.nil ?_)))))
       exact ⟨_,h,(by exact Qi ⟨(sm rfl),(sm rfl),(sm rfl),(sm rfl),(sm rfl),tv⟩ tv rfl)⟩
  ·replace h:=ifF hb5 h
   refine Tr.exit (toN (sr ((md rfl (nt ((Tr.ret ?_)))))))
   replace h:=si h; subst h
   exact ⟨.inr rfl,(i_ 0),rfl,fun _ _ _ _ h=>h,tv,mB⟩
theorem Qpa {P:Program} {c:Nat} {Qu:(List Int)→Int→Option Bool}
    (H_slices_Contains_int:Qev P 48 Qu) (hcf:Qm P c=some Qge) (fuel:Nat):Qgd P c (Qbn Qu fuel):=by
 intro a1 r h
 refine Qbw hcf rfl fun Γ M hP hnt hM=>?_
 subst hP
 refine Tr.init [(0,(Qb a1))] rfl ?_
 unfold Qbn at h
 unfold Qge
 refine sr ((Rn.box (v:=(Qb a1)) (cs:=(Qc a1)) tv rfl rfl rfl rfl rfl (md rfl (nt ((Tr.seq (sr ((Rn.fldP (o':=3) tv rfl rfl (lB (v:=(Ql a1.zC)) rfl rfl rfl rfl (Rn.lenD tv rfl (md rfl (nt ((Tr.block ?_)))))))))))))))
 refine Tr.loop (mk:=fun (x2:Int)=>⟨look [(1,.ptr (Γ.n0+1) 0),(7,(Ql a1.zC)),(8,(i_ (a1.zC.length:Int))),(9,(i_ x2))],Qj Γ.n0 (bxs [(1,.cells ((Qc a1)))]) M,Γ.n0+72⟩) h (by exact Qi ⟨(kPtr rfl),(sm rfl),(sm rfl),(sm rfl),tv⟩ ⟨bS rfl rfl rfl,tv⟩ rfl) (fun k3 z h=>?_)
 ·obtain ⟨x2,rfl⟩ : ∃ x,x=z:=⟨_,rfl⟩
  replace h:_=some _:=h
  refine sr ((Rn.bin tv rfl rfl rfl (nt ((Tr.seq ?_)))))
  refine Tr.cond rfl (fun hb4=>?_) (fun hb4=>?_)
  ·replace h:=ifT hb4 h
   refine Tr.skip (toN ?_)
   refine Tr.cutJ (fun ((c22,c23,c24):Int×Int×Int)=>⟨look [(1,.ptr (Γ.n0+1) 0),(7,(Ql a1.zC)),(8,(i_ (a1.zC.length:Int))),(9,(i_ x2))],Qj Γ.n0 (bxs [(1,.cells ((Qc a1))),(4,.cells ([(i_ c22),(i_ c23),(i_ c24)]))]) M,Γ.n0+72⟩) h (fun J25 h=>?_) (fun z h=>?_)
   ·refine Tr.block (sr ((md rfl ?_)))
    obtain ⟨x5,h6,h⟩:=bnd h
    refine Rn.idxD (e:=Qb4) tv rfl rfl h6 (Rn.loadCA (vs:=(Qcx x5)) tv rfl rfl rfl (Rn.alloc tv rfl (md rfl (Rn.store (v:=(Qd8 x5)) (cs':=(Qcx x5)) tv rfl rfl rfl rfl rfl rfl (nt ((Tr.seq (Tr.block ?_))))))))
    refine Tr.cutB (fun (x10:Bool)=>⟨look [(1,.ptr (Γ.n0+1) 0),(3,(i_ x2)),(4,.ptr (Γ.n0+4) 0),(7,(Ql a1.zC)),(8,(i_ (a1.zC.length:Int))),(9,(i_ x2)),(14,(b_ x10))],Qj Γ.n0 (bxs [(1,.cells ((Qc a1))),(4,.cells ((Qcx x5)))]) M,Γ.n0+72⟩) h (fun z h=>?_) (fun z h=>?_)
    ·refine Tr.rgn (Rn.fldP (o':=0) tv rfl rfl (lB (v:=(i_ x5.From)) rfl rfl rfl rfl (Rn.bin tv rfl rfl rfl (md rfl ?_))))
     refine Qcb (decide (x5.From < 0)) (fun hb7=>?_) (fun hb7=>?_)
     ·replace h:=ifT hb7 h
      refine Rn.sk (nw rfl hb7) (Rn.sk (nw rfl hb7) (Rn.sk (nw rfl hb7) (Rn.sk (nw rfl hb7) (Rn.sk (nw rfl hb7) (Rn.pickT (v:=(b_ true)) tv rfl hb7 rfl (md rfl (sT rfl rfl (sT rfl rfl (sT rfl rfl (Rn.pickT (v:=(b_ true)) tv rfl rfl rfl (md rfl (sT rfl rfl (sT rfl rfl (sT rfl rfl (sT rfl rfl (sT rfl rfl (Rn.pickT (v:=(b_ true)) tv rfl rfl rfl (md rfl (Rn.nil ?_)))))))))))))))))))
      replace h:=si h; subst h
      exact Qh [] ⟨(kPtr rfl),(sm rfl),(kPtr rfl),(sm rfl),(sm rfl),(sm rfl),(sm rfl),tv⟩ ⟨bS rfl rfl rfl,bS rfl rfl rfl,tv⟩ rfl
     ·replace h:=ifF hb7 h
      refine Rn.fldP (o':=0) (gw rfl hb7) rfl rfl (Rn.load (v:=(i_ x5.From)) (gw rfl hb7) rfl (Qbv rfl) rfl rfl (Rn.fldP (o':=1) (gw rfl hb7) rfl rfl (Rn.load (v:=(i_ a1.zD)) (gw rfl hb7) rfl (Qbv rfl) rfl rfl (Rn.bin (gw rfl hb7) rfl rfl rfl (Rn.pickF (v:=(b_ (decide (x5.From≥a1.zD)))) tv rfl hb7 rfl (md rfl ?_))))))
      refine Qcb (decide (x5.From≥a1.zD)) (fun hb8=>?_) (fun hb8=>?_)
      ·replace h:=ifT hb8 h
       refine Rn.sk (nw rfl hb8) (Rn.sk (nw rfl hb8) (Rn.sk (nw rfl hb8) (Rn.pickT (v:=(b_ true)) tv rfl hb8 rfl (md rfl (sT rfl rfl (sT rfl rfl (sT rfl rfl (sT rfl rfl (sT rfl rfl (Rn.pickT (v:=(b_ true)) tv rfl rfl rfl (md rfl (Rn.nil ?_))))))))))))
       replace h:=si h; subst h
       exact Qh [] ⟨(kPtr rfl),(sm rfl),(kPtr rfl),(sm rfl),(sm rfl),(sm rfl),(sm rfl),tv⟩ ⟨bS rfl rfl rfl,bS rfl rfl rfl,tv⟩ rfl
      ·replace h:=ifF hb8 h
       refine Rn.fldP (o':=2) (gw rfl hb8) rfl rfl (Rn.load (v:=(i_ x5.To)) (gw rfl hb8) rfl (Qbv rfl) rfl rfl (Rn.bin (gw rfl hb8) rfl rfl rfl (Rn.pickF (v:=(b_ (decide (x5.To < 0)))) tv rfl hb8 rfl (md rfl ?_))))
       refine Qcb (decide (x5.To < 0)) (fun hb9=>?_) (fun hb9=>?_)
       ·replace h:=ifT hb9 h
        refine Rn.sk (nw rfl hb9) (Rn.sk (nw rfl hb9) (Rn.sk (nw rfl hb9) (Rn.sk (nw rfl hb9) (Rn.sk (nw rfl hb9) (Rn.pickT (v:=(b_ true)) tv rfl hb9 rfl (md rfl (Rn.nil ?_)))))))
        replace h:=si h; subst h
        exact Qh [] ⟨(kPtr rfl),(sm rfl),(kPtr rfl),(sm rfl),(sm rfl),(sm rfl),(sm rfl),tv⟩ ⟨bS rfl rfl rfl,bS rfl rfl rfl,tv⟩ rfl
       ·replace h:=ifF hb9 h
        refine Rn.fldP (o':=2) (gw rfl hb9) rfl rfl (Rn.load (v:=(i_ x5.To)) (gw rfl hb9) rfl (Qbv rfl) rfl rfl (Rn.fldP (o':=1) (gw rfl hb9) rfl rfl (Rn.load (v:=(i_ a1.zD)) (gw rfl hb9) rfl (Qbv rfl) rfl rfl (Rn.bin (gw rfl hb9) rfl rfl rfl (Rn.pickF (v:=(b_ (decide (x5.To≥a1.zD)))) tv rfl hb9 rfl (md rfl (Rn.nil ?_)))))))
        replace h:=si h; subst h
        exact Qh [] ⟨(kPtr rfl),(sm rfl),(kPtr rfl),(sm rfl),(sm rfl),(sm rfl),(sm rfl),tv⟩ ⟨bS rfl rfl rfl,bS rfl rfl rfl,tv⟩ rfl
    ·obtain ⟨x10,rfl⟩ : ∃ x,x=z:=⟨_,rfl⟩
     refine Tr.cond rfl (fun hb11=>?_) (fun hb11=>?_)
     ·replace h:=bT hb11 h
      refine sr ((md rfl (nt ((Tr.ret ?_)))))
      replace h:=si h; subst h
      exact ⟨.inr rfl,(i_ 2),rfl,fun _ _ _ _ h=>h,tv,mB⟩
     ·replace h:=bF hb11 h
      refine sr ((Rn.fldP (o':=0) tv rfl rfl (lB (v:=(l_ a1.zA)) rfl rfl rfl rfl (Rn.fldP (o':=1) tv rfl rfl (lB (v:=(i_ x5.Event)) rfl rfl rfl rfl ?_)))))
      obtain ⟨x13,h12,h⟩:=bnd h
      refine Rn.call (args:=[(l_ a1.zA),(i_ x5.Event)]) tv rfl (H_slices_Contains_int _ _ _ h12) pc9 (Rn.un tv rfl rfl (md rfl (Rn.nil (toN ?_))))
      refine Tr.cond rfl (fun hb14=>?_) (fun hb14=>?_)
      ·have hb14:=nT' hb14
       replace h:=bF hb14 h
       refine sr ((md rfl (nt ((Tr.ret ?_)))))
       replace h:=si h; subst h
       exact ⟨.inr rfl,(i_ 9),rfl,fun _ _ _ _ h=>h,tv,mB⟩
      ·have hb14:=nF' hb14
       replace h:=bT hb14 h
       refine Tr.skip (toN (Tr.seq (sr ((md rfl (Rn.bin tv rfl rfl rfl (Rn.nil (toN ?_))))))))
       refine Tr.cond rfl (fun hb15=>?_) (fun hb15=>?_)
       ·replace h:=bT hb15 h
        refine Tr.exit ?_
        exact ⟨_,h,(by exact Qh [] ⟨(kPtr rfl),(sm rfl),(sm rfl),(sm rfl),tv⟩ ⟨bS rfl rfl rfl,bS rfl rfl rfl,tv⟩ rfl)⟩
       ·replace h:=bF hb15 h
        refine Tr.skip (toN (sr ((Rn.fldP (o':=3) tv rfl rfl (lB (v:=(Ql a1.zC)) rfl rfl rfl rfl (md rfl (Rn.bin tv rfl rfl rfl ?_)))))))
        obtain ⟨x16,h17,h⟩:=bnd h
        refine Rn.idxD (e:=Qb4) tv rfl rfl h17 (Rn.loadCA (vs:=(Qcx x16)) tv rfl rfl rfl (Rn.alloc tv rfl (Rn.store (v:=(Qd8 x16)) (cs':=(Qcx x16)) tv rfl rfl rfl rfl rfl rfl (Rn.nil (toN ?_)))))
        refine Tr.cutB (fun (x20:Bool)=>⟨look [(1,.ptr (Γ.n0+1) 0),(7,(Ql a1.zC)),(8,(i_ (a1.zC.length:Int))),(9,(i_ x2)),(70,(b_ x20))],Qj Γ.n0 (bxs [(1,.cells ((Qc a1))),(4,.cells ((Qcx x5))),(5,.cells ((Qcx x16)))]) M,Γ.n0+72⟩) h (fun z h=>?_) (fun z h=>?_)
        ·refine Tr.rgn (Rn.fldP (o':=0) tv rfl rfl (lB (v:=(i_ x5.From)) rfl rfl rfl rfl (Rn.fldP (o':=0) tv rfl rfl (lB (v:=(i_ x16.From)) rfl rfl rfl rfl (Rn.bin tv rfl rfl rfl (md rfl ?_))))))
         refine Qcb (decide (x5.From < x16.From)) (fun hb18=>?_) (fun hb18=>?_)
         ·replace h:=ifT hb18 h
          refine Rn.sk (nw rfl hb18) (Rn.sk (nw rfl hb18) (Rn.sk (nw rfl hb18) (Rn.sk (nw rfl hb18) (Rn.sk (nw rfl hb18) (Rn.sk (nw rfl hb18) (Rn.sk (nu rfl) (Rn.sk (nu rfl) (Rn.sk (nu rfl) (Rn.sk (nu rfl) (Rn.sk (nu rfl) (Rn.sk (nw rfl hb18) (Rn.pickT (v:=(b_ true)) tv rfl hb18 rfl (Rn.nil ?_)))))))))))))
          replace h:=si h; subst h
          exact Qh [] ⟨(kPtr rfl),(sm rfl),(sm rfl),(sm rfl),(sm rfl),tv⟩ ⟨bS rfl rfl rfl,bS rfl rfl rfl,bS rfl rfl rfl,tv⟩ rfl
         ·replace h:=ifF hb18 h
          refine Rn.fldP (o':=0) (gw rfl hb18) rfl rfl (Rn.load (v:=(i_ x5.From)) (gw rfl hb18) rfl (Qbv rfl) rfl rfl (Rn.fldP (o':=0) (gw rfl hb18) rfl rfl (Rn.load (v:=(i_ x16.From)) (gw rfl hb18) rfl (Qbv rfl) rfl rfl (Rn.bin (gw rfl hb18) rfl rfl rfl (Rn.movD (gw rfl hb18) rfl ?_)))))
          refine Qcb (x5.From == x16.From) (fun hb19=>?_) (fun hb19=>?_)
          ·replace h:=bT hb19 h
           refine Rn.fldP (o':=1) (gw rfl hb19) rfl rfl (Rn.load (v:=(i_ x5.Event)) (gw rfl hb19) rfl (Qbv rfl) rfl rfl (Rn.fldP (o':=1) (gw rfl hb19) rfl rfl (Rn.load (v:=(i_ x16.Event)) (gw rfl hb19) rfl (Qbv rfl) rfl rfl (Rn.bin (gw rfl hb19) rfl rfl rfl (Rn.pickT (v:=(b_ (decide (x5.Event≤x16.Event)))) (gw rfl hb18) rfl hb19 rfl (Rn.pickF (v:=(b_ (decide (x5.Event≤x16.Event)))) tv rfl hb18 rfl (Rn.nil ?_)))))))
           replace h:=si h; subst h
           exact Qh [] ⟨(kPtr rfl),(sm rfl),(sm rfl),(sm rfl),(sm rfl),tv⟩ ⟨bS rfl rfl rfl,bS rfl rfl rfl,bS rfl rfl rfl,tv⟩ rfl
          ·replace h:=bF hb19 h
           refine Rn.sk (nw rfl hb19) (Rn.sk (nw rfl hb19) (Rn.sk (nw rfl hb19) (Rn.sk (nw rfl hb19) (Rn.sk (nw rfl hb19) (Rn.pickF (v:=(b_ false)) (gw rfl hb18) rfl hb19 rfl (Rn.pickF (v:=(b_ false)) tv rfl hb18 rfl (Rn.nil ?_)))))))
           replace h:=si h; subst h
           exact Qh [] ⟨(kPtr rfl),(sm rfl),(sm rfl),(sm rfl),(sm rfl),tv⟩ ⟨bS rfl rfl rfl,bS rfl rfl rfl,bS rfl rfl rfl,tv⟩ rfl
        ·obtain ⟨x20,rfl⟩ : ∃ x,x=z:=⟨_,rfl⟩
         refine Tr.cond rfl (fun hb21=>?_) (fun hb21=>?_)
         ·replace h:=bT hb21 h
          refine sr ((md rfl (nt ((Tr.ret ?_)))))
          replace h:=si h; subst h
          exact ⟨.inr rfl,(i_ 5),rfl,fun _ _ _ _ h=>h,tv,mB⟩
         ·replace h:=bF hb21 h
          refine Tr.skip ?_
          exact ⟨_,h,(by exact Qh [5] ⟨(kPtr rfl),(sm rfl),(sm rfl),(sm rfl),tv⟩ ⟨bS rfl rfl rfl,bS rfl rfl rfl,tv⟩ rfl)⟩
   ·obtain ⟨c22,c23,c24⟩:=z
    refine Tr.rgn (Rn.bin tv rfl rfl rfl (md rfl (Rn.nil ?_)))
    exact ⟨_,h,(by exact Qi ⟨(kPtr rfl),(sm rfl),(sm rfl),(sm rfl),tv⟩ ⟨bS rfl rfl rfl,tv⟩ rfl)⟩
  ·replace h:=ifF hb4 h
   refine Tr.exit (toN (sr ((md rfl (nt ((Tr.ret ?_)))))))
   replace h:=si h; subst h
   exact ⟨.inr rfl,(i_ 0),rfl,fun _ _ _ _ h=>h,tv,mB⟩
theorem Q1n {P:Program} {c:Nat} {Qbp:(List Int)→Int→Option Int} {Qbn:Qa→Option Int}
    (H_automaton_checkSet:Qhl P 40 Qbp)
    (H_automaton_checkEdges:Qgd P 41 Qbn) (hcf:Qm P c=some Qj6):Qfn P c (Qt Qbp Qbn):=by
 intro a1 r h
 refine Qbw hcf rfl fun Γ M hP hnt hM=>?_
 subst hP
 refine Tr.init [(0,(Qb a1))] rfl ?_
 unfold Qt at h
 unfold Qj6
 refine sr ((Rn.box (v:=(Qb a1)) (cs:=(Qc a1)) tv rfl rfl rfl rfl rfl (md rfl (nt ((Tr.seq (sr ((Rn.fldP (o':=0) tv rfl rfl (lB (v:=(l_ a1.zA)) rfl rfl rfl rfl ?_))))))))))
 obtain ⟨x3,h2,h⟩:=bnd h
 refine Rn.call (args:=[(l_ a1.zA),(i_ 32)]) tv rfl (H_automaton_checkSet _ _ _ h2) pc9 (md rfl (nt ((sr ((md rfl (Rn.bin tv rfl rfl rfl (Rn.nil (toN ?_)))))))))
 refine Tr.cond rfl (fun hb4=>?_) (fun hb4=>?_)
 ·replace h:=bT hb4 h
  refine sr ((md rfl (md rfl (nt ((Tr.ret ?_))))))
  replace h:=si h; subst h
  exact ⟨.inr rfl,(i_ x3),rfl,fun _ _ _ _ h=>h,tv,mB⟩
 ·replace h:=bF hb4 h
  refine Tr.skip (toN (Tr.seq (Tr.block (sr ((Rn.fldP (o':=1) tv rfl rfl (lB (v:=(i_ a1.zD)) rfl rfl rfl rfl (Rn.bin tv rfl rfl rfl (md rfl (Rn.nil (toN ?_)))))))))))
  refine Tr.cond rfl (fun hb5=>?_) (fun hb5=>?_)
  ·replace h:=ifT hb5 h
   refine sr ((md rfl (nt ((Tr.ret ?_)))))
   replace h:=si h; subst h
   exact ⟨.inr rfl,(i_ 2),rfl,fun _ _ _ _ h=>h,tv,mB⟩
  ·replace h:=ifF hb5 h
   refine sr ((Rn.fldP (o':=1) tv rfl rfl (lB (v:=(i_ a1.zD)) rfl rfl rfl rfl (Rn.bin tv rfl rfl rfl (md rfl (Rn.nil (toN ?_)))))))
   refine Tr.cond rfl (fun hb6=>?_) (fun hb6=>?_)
   ·replace h:=ifT hb6 h
    refine sr ((md rfl (nt ((Tr.ret ?_)))))
    replace h:=si h; subst h
    exact ⟨.inr rfl,(i_ 3),rfl,fun _ _ _ _ h=>h,tv,mB⟩
   ·replace h:=ifF hb6 h
    refine Tr.skip (toN (Tr.seq (sr ((Rn.fldP (o':=2) tv rfl rfl (lB (v:=(l_ a1.zB)) rfl rfl rfl rfl (Rn.fldP (o':=1) tv rfl rfl (lB (v:=(i_ a1.zD)) rfl rfl rfl rfl ?_))))))))
    obtain ⟨x8,h7,h⟩:=bnd h
    refine Rn.call (args:=[(l_ a1.zB),(i_ a1.zD)]) tv rfl (H_automaton_checkSet _ _ _ h7) pc9 (md rfl (nt ((sr ((md rfl (Rn.bin tv rfl rfl rfl (Rn.nil (toN ?_)))))))))
    refine Tr.cond rfl (fun hb9=>?_) (fun hb9=>?_)
    ·replace h:=bT hb9 h
     refine sr ((md rfl (md rfl (nt ((Tr.ret ?_))))))
     replace h:=si h; subst h
     exact ⟨.inr rfl,(i_ x8),rfl,fun _ _ _ _ h=>h,tv,mB⟩
    ·replace h:=bF hb9 h
     refine Tr.skip (toN (sr ((lB (v:=(Qb a1)) rfl rfl rfl rfl ?_))))
     obtain ⟨x11,h10,h⟩:=bnd h
     refine Rn.call (args:=[(Qb a1)]) tv rfl (H_automaton_checkEdges _ _ h10) pc9 (md rfl (nt ((Tr.ret ?_))))
     replace h:=si h; subst h
     exact ⟨.inr rfl,(i_ x11),rfl,fun _ _ _ _ h=>h,tv,mB⟩
theorem Qpb {P:Program} {c:Nat} {Qt:Qa→Option Int}
    (H_automaton_Check:Qfn P 19 Qt) (hcf:Qm P c=some Qgg):Qgf P c (Qb0 Qt):=by
 intro a1 state2 r h
 refine Qbw hcf rfl fun Γ M hP hnt hM=>?_
 subst hP
 refine Tr.init [(0,(Qb a1)),(1,(i_ state2))] rfl ?_
 unfold Qb0 at h
 unfold Qgg
 refine sr ((Rn.box (v:=(Qb a1)) (cs:=(Qc a1)) tv rfl rfl rfl rfl rfl (md rfl (nt ((Tr.seq (sr ((lB (v:=(Qb a1)) rfl rfl rfl rfl ?_)))))))))
 obtain ⟨x4,h3,h⟩:=bnd h
 refine Rn.call (args:=[(Qb a1)]) tv rfl (H_automaton_Check _ _ h3) pc9 (md rfl (nt ((sr ((md rfl (Rn.bin tv rfl rfl rfl (Rn.nil (toN ?_)))))))))
 refine Tr.cond rfl (fun hb5=>?_) (fun hb5=>?_)
 ·replace h:=bT hb5 h
  refine sr ((md rfl (md rfl (nt ((Tr.ret ?_))))))
  replace h:=si h; subst h
  exact ⟨.inr rfl,(i_ x4),rfl,fun _ _ _ _ h=>h,tv,mB⟩
 ·replace h:=bF hb5 h
  refine Tr.skip (toN (Tr.seq ?_))
  refine Tr.cutB (fun (x7:Bool)=>⟨look [(18,(b_ x7))],Qj Γ.n0 (bxs [(2,.cells ((Qc a1)))]) M,Γ.n0+19⟩) h (fun z h=>?_) (fun z h=>?_)
  ·refine Tr.rgn (md rfl (Rn.bin tv rfl rfl rfl (md rfl ?_)))
   refine Qcb (decide (state2 < 0)) (fun hb6=>?_) (fun hb6=>?_)
   ·replace h:=ifT hb6 h
    refine Rn.sk (nw rfl hb6) (Rn.sk (nw rfl hb6) (Rn.sk (nw rfl hb6) (Rn.sk (nw rfl hb6) (Rn.pickT (v:=(b_ true)) tv rfl hb6 rfl (Rn.nil ?_)))))
    replace h:=si h; subst h
    exact Qh [] ⟨(sm rfl),tv⟩ ⟨bS rfl rfl rfl,tv⟩ rfl
   ·replace h:=ifF hb6 h
    refine Rn.movD (gw rfl hb6) rfl (Rn.fldP (o':=1) (gw rfl hb6) rfl rfl (Rn.load (v:=(i_ a1.zD)) (gw rfl hb6) rfl (Qbv rfl) rfl rfl (Rn.bin (gw rfl hb6) rfl rfl rfl (Rn.pickF (v:=(b_ (decide (state2≥a1.zD)))) tv rfl hb6 rfl (Rn.nil ?_)))))
    replace h:=si h; subst h
    exact Qh [] ⟨(sm rfl),tv⟩ ⟨bS rfl rfl rfl,tv⟩ rfl
  ·obtain ⟨x7,rfl⟩ : ∃ x,x=z:=⟨_,rfl⟩
   refine Tr.cond rfl (fun hb8=>?_) (fun hb8=>?_)
   ·replace h:=bT hb8 h
    refine sr ((md rfl (nt ((Tr.ret ?_)))))
    replace h:=si h; subst h
    exact ⟨.inr rfl,(i_ 2),rfl,fun _ _ _ _ h=>h,tv,mB⟩
   ·replace h:=bF hb8 h
    refine Tr.skip (toN (sr ((md rfl (nt ((Tr.ret ?_)))))))
    replace h:=si h; subst h
    exact ⟨.inr rfl,(i_ 0),rfl,fun _ _ _ _ h=>h,tv,mB⟩
theorem Qjq {P:Program} {c:Nat} (hcf:Qm P c=some Qd2) (fuel:Nat):Qd1 P c (Qx fuel):=by
 intro x1 target2 cmp3 g4 cp5 r h
 intro M nb hc6 ho8 hf7
 refine Qbai hcf rfl M nb fun Γ hP hnt hn0 hM=>?_
 subst hP hn0
 refine Tr.init [(0,(Ql x1)),(1,(i_ target2)),(2,.clo g4 cp5)] rfl ?_
 unfold Qx at h
 unfold Qd2
 refine sr ((md rfl (md rfl (nt ((sr ((md rfl (Rn.lenD tv rfl (md rfl (nt ((sr ((md rfl (md rfl (md rfl (Rn.nil (toN ?_)))))))))))))))))))
 refine Tr.cutB (fun (i20:Int)=>⟨look [(0,(Ql x1)),(1,(i_ target2)),(2,.clo g4 cp5),(8,(i_ (x1.length:Int))),(9,(i_ i20))],Qj Γ.n0 (bxs []) M,Γ.n0+49⟩) h (fun z h=>?_) (fun z h=>?_)
 ·refine Tr.block ?_
  refine Tr.loop (mk:=fun ((i11,j12):Int×Int)=>⟨look [(0,(Ql x1)),(1,(i_ target2)),(2,.clo g4 cp5),(8,(i_ (x1.length:Int))),(9,(i_ i11)),(10,(i_ j12))],Qj Γ.n0 (bxs []) M,Γ.n0+49⟩) h (by exact Qi ⟨(sm rfl),(sm rfl),(kFun hM ho8),(sm rfl),(sm rfl),(sm rfl),tv⟩ tv rfl) (fun k13 z h=>?_)
  ·obtain ⟨i11,j12⟩:=z
   replace h:_=some _:=h
   refine Tr.seq (sr ((md rfl (md rfl (Rn.bin tv rfl rfl rfl (Rn.nil (toN ?_)))))))
   refine Tr.cond rfl (fun hb14=>?_) (fun hb14=>?_)
   ·replace h:=ifT hb14 h
    refine Tr.skip (toN (Tr.block (sr ((md rfl (md rfl (Rn.bin tv rfl rfl rfl (Rn.conv tv rfl (Rn.bin tv rfl rfl rfl (Rn.conv tv rfl (md rfl (nt ((sr ((Rn.mov (v:=.clo g4 cp5) tv rfl (md rfl (md rfl ?_))))))))))))))))))
    obtain ⟨x15,h16,h⟩:=bnd h
    refine Rn.idxD (e:=Qb4) tv rfl rfl h16 (Rn.loadCA (vs:=(Qcx x15)) tv rfl rfl rfl (md rfl ?_))
    obtain ⟨x18,h17,h⟩:=bnd h
    refine Rn.callvM (args:=[(Qd8 x15),(i_ target2)] ++ cp5) tv rfl (by rw [hc6]; rfl) (fun M2 nb2 hn hx=>hf7 _ _ _ h17 M2 nb2 (by omega) ((Qbah hM).trans hx)) rfl pc9 ?_
    refine Rn.bin tv rfl rfl rfl (Rn.nil (toN ?_))
    refine Tr.cond rfl (fun hb19=>?_) (fun hb19=>?_)
    ·replace h:=ifT hb19 h
     refine Tr.rgn (md rfl (Rn.bin tv rfl rfl rfl (md rfl (Rn.nil ?_))))
     exact ⟨_,h,(by exact Qi ⟨(sm rfl),(sm rfl),(kFun hM ho8),(sm rfl),(sm rfl),(sm rfl),tv⟩ tv rfl)⟩
    ·replace h:=ifF hb19 h
     refine Tr.rgn (md rfl (md rfl (Rn.nil ?_)))
     exact ⟨_,h,(by exact Qi ⟨(sm rfl),(sm rfl),(kFun hM ho8),(sm rfl),(sm rfl),(sm rfl),tv⟩ tv rfl)⟩
   ·replace h:=ifF hb14 h
    refine Tr.exit ?_
    replace h:=si h; subst h
    exact Qh [] ⟨(sm rfl),(sm rfl),(kFun hM ho8),(sm rfl),(sm rfl),tv⟩ tv rfl
 ·obtain ⟨i20,rfl⟩ : ∃ x,x=z:=⟨_,rfl⟩
  refine sr ((md rfl (md rfl (md rfl (Rn.bin tv rfl rfl rfl (md rfl ?_))))))
  refine Qcb (decide (i20 < (x1.length:Int))) (fun hb21=>?_) (fun hb21=>?_)
  ·replace h:=ifT hb21 h
   refine Rn.mov (v:=.clo g4 cp5) (gw rfl hb21) rfl (Rn.movD (gw rfl hb21) rfl (Rn.movD (gw rfl hb21) rfl ?_))
   obtain ⟨x22,h23,h⟩:=bnd h
   refine Rn.idxD (e:=Qb4) (gw rfl hb21) rfl rfl h23 (Rn.loadCA (vs:=(Qcx x22)) (gw rfl hb21) rfl rfl rfl (Rn.movD (gw rfl hb21) rfl ?_))
   obtain ⟨x25,h24,h⟩:=bnd h
   refine Rn.callvM (args:=[(Qd8 x22),(i_ target2)] ++ cp5) (gw rfl hb21) rfl (by rw [hc6]; rfl) (fun M2 nb2 hn hx=>hf7 _ _ _ h24 M2 nb2 (by omega) ((Qbah hM).trans hx)) rfl pc9 ?_
   refine Rn.bin (gw rfl hb21) rfl rfl rfl (Rn.pickT (v:=(b_ (x25 == 0))) tv rfl hb21 rfl (md rfl (md rfl (nt ((Tr.ret ?_))))))
   replace h:=si h; subst h
   exact ⟨.inr rfl,.tup [(i_ i20),(b_ (x25 == 0))],res2 rfl rfl,(WkV.tup (.cons (.same rfl) (.cons (.same rfl) .nil))).rd,⟨tv,tv,tv⟩,mB⟩
  ·replace h:=ifF hb21 h
   refine Rn.sk (nw rfl hb21) (Rn.sk (nw rfl hb21) (Rn.sk (nw rfl hb21) (Rn.sk (nw rfl hb21) (Rn.sk (nw rfl hb21) (Rn.sk (nw rfl hb21) (Rn.sk (nw rfl hb21) (Rn.sk (nw rfl hb21) (Rn.pickF (v:=(b_ false)) tv rfl hb21 rfl (md rfl (md rfl (nt ((Tr.ret ?_)))))))))))))
   replace h:=si h; subst h
   exact ⟨.inr rfl,.tup [(i_ i20),(b_ false)],res2 rfl rfl,(WkV.tup (.cons (.same rfl) (.cons (.same rfl) .nil))).rd,⟨tv,tv,tv⟩,mB⟩
theorem Q1o {P:Program} {c:Nat} (hcf:Qm P c=some Qkh):Qkg P c (Qc5):=by
 intro x1 s2 r h
 refine Qbw hcf rfl fun Γ M hP hnt hM=>?_
 subst hP
 refine Tr.init [(0,(Qd8 x1)),(1,(i_ s2))] rfl ?_
 unfold Qc5 at h
 unfold Qkh
 refine sr ((Rn.box (v:=(Qd8 x1)) (cs:=(Qcx x1)) tv rfl rfl rfl rfl rfl (md rfl (nt ((sr ((Rn.fldP (o':=0) tv rfl rfl (lB (v:=(i_ x1.From)) rfl rfl rfl rfl (md rfl (Rn.bin tv rfl rfl rfl (md rfl (nt ((Tr.ret ?_)))))))))))))))
 replace h:=si h; subst h
 exact ⟨.inr rfl,(i_ (IntKind.wrap .i64 (x1.From - s2))),rfl,fun _ _ _ _ h=>h,tv,mB⟩
theorem Q1p {P:Program} {c:Nat} (hcf:Qm P c=some Qkj):Qki P c (Qc6):=by
 intro x1 s2 r h
 refine Qbw hcf rfl fun Γ M hP hnt hM=>?_
 subst hP
 refine Tr.init [(0,(Qd8 x1)),(1,(i_ s2))] rfl ?_
 unfold Qc6 at h
 unfold Qkj
 refine sr ((Rn.box (v:=(Qd8 x1)) (cs:=(Qcx x1)) tv rfl rfl rfl rfl rfl (md rfl (nt ((sr ((Rn.fldP (o':=0) tv rfl rfl (lB (v:=(i_ x1.From)) rfl rfl rfl rfl (md rfl (Rn.bin tv rfl rfl rfl (md rfl (nt ((Tr.ret ?_)))))))))))))))
 replace h:=si h; subst h
 exact ⟨.inr rfl,(i_ (IntKind.wrap .i64 (x1.From - s2))),rfl,fun _ _ _ _ h=>h,tv,mB⟩
theorem Q4v {P:Program} {c:Nat} {Qx:(List Qd)→Int→(Qd→Int→Option Int)→Option (Int×Bool)} {Qc5:Qd→Int→Option Int} {Qc6:Qd→Int→Option Int}
    (H_slices_BinarySearchFunc_int:Qd1 P 71 Qx)
    (H_automaton_out_1:Qkg P 72 Qc5)
    (H_automaton_out_2:Qki P 73 Qc6) (hcf:Qm P c=some Qm0):Qmz P c (Qdu Qx Qc5 Qc6):=by
 intro a1 state2 r h
 refine Qbw hcf rfl fun Γ M hP hnt hM=>?_
 subst hP
 refine Tr.init [(0,(Qb a1)),(1,(i_ state2))] rfl ?_
 unfold Qdu at h
 unfold Qm0
 refine sr ((Rn.box (v:=(Qb a1)) (cs:=(Qc a1)) tv rfl rfl rfl rfl rfl (Rn.movTC (v:=.nils 3) tv (nt ((sr ((Rn.fldP (o':=3) tv rfl rfl (lB (v:=(Ql a1.zC)) rfl rfl rfl rfl (md rfl ?_))))))))))
 obtain ⟨⟨r8,r9⟩,h7,h⟩:=bnd h
 refine Rn.callM (args:=[(Ql a1.zC),(i_ state2),.clo 72 []]) tv rfl (fun M2 nb2 hn hx=>H_slices_BinarySearchFunc_int _ _ _ 72 [] _ h7 M2 nb2 rfl tv (fun a3 a4 r5 h6 M3 nb3 hn3 hx3=>H_automaton_out_1 a3 a4 r5 h6 M3 nb3 )) rfl pc9 ?_
 refine Rn.mov (v:=.tup [(i_ r8),(b_ r9)]) tv rfl (Rn.ext (v:=(i_ r8)) (vs:=[(i_ r8),(b_ r9)]) tv rfl rfl rfl (Rn.ext (v:=(b_ r9)) (vs:=[(i_ r8),(b_ r9)]) tv rfl rfl rfl (md rfl (md rfl (nt ((sr ((Rn.fldP (o':=3) tv rfl rfl (lB (v:=(Ql a1.zC)) rfl rfl rfl rfl (md rfl (Rn.bin tv rfl rfl rfl ?_))))))))))))
 obtain ⟨⟨r15,r16⟩,h14,h⟩:=bnd h
 refine Rn.callM (args:=[(Ql a1.zC),(i_ (IntKind.wrap .i64 (state2+1))),.clo 73 []]) tv rfl (fun M2 nb2 hn hx=>H_slices_BinarySearchFunc_int _ _ _ 73 [] _ h14 M2 nb2 rfl tv (fun a10 a11 r12 h13 M3 nb3 hn3 hx3=>H_automaton_out_2 a10 a11 r12 h13 M3 nb3 )) rfl pc9 ?_
 refine Rn.mov (v:=.tup [(i_ r15),(b_ r16)]) tv rfl (Rn.ext (v:=(i_ r15)) (vs:=[(i_ r15),(b_ r16)]) tv rfl rfl rfl (Rn.ext (v:=(b_ r16)) (vs:=[(i_ r15),(b_ r16)]) tv rfl rfl rfl (md rfl (md rfl (nt ((sr ((Rn.fldP (o':=3) tv rfl rfl (lB (v:=(Ql a1.zC)) rfl rfl rfl rfl (md rfl (md rfl ?_))))))))))))
 obtain ⟨x17,h18,h⟩:=bnd h
 refine Rn.slc2 (e:=Qb4) tv rfl rfl rfl h18 (Rn.movTD tv rfl (nt ((Tr.ret ?_))))
 replace h:=si h; subst h
 exact ⟨.inr rfl,(Ql x17),rfl,fun _ _ _ _ h=>h,tv,mB⟩
theorem Qwx {P:Program} {c:Nat} {Qb0:Qa→Int→Option Int} {Qdu:Qa→Int→Option ((List Qd))}
    (H_automaton_checkState:Qgf P 58 Qb0)
    (H_automaton_out:Qmz P 59 Qdu) (hcf:Qm P c=some Qh9) (fuel:Nat):Qh8 P c (Qcm Qb0 Qdu fuel):=by
 intro a1 state2 r h
 refine Qbw hcf rfl fun Γ M hP hnt hM=>?_
 subst hP
 refine Tr.init [(0,(Qb a1)),(1,(i_ state2))] rfl ?_
 unfold Qcm at h
 unfold Qh9
 refine sr ((Rn.box (v:=(Qb a1)) (cs:=(Qc a1)) tv rfl rfl rfl rfl rfl (Rn.movTC (v:=.nils 1) tv (md rfl (nt ((Tr.seq (sr ((lB (v:=(Qb a1)) rfl rfl rfl rfl (md rfl ?_)))))))))))
 obtain ⟨x4,h3,h⟩:=bnd h
 refine Rn.call (args:=[(Qb a1),(i_ state2)]) tv rfl (H_automaton_checkState _ _ _ h3) pc9 (md rfl (nt ((sr ((md rfl (Rn.bin tv rfl rfl rfl (Rn.nil (toN ?_)))))))))
 refine Tr.cond rfl (fun hb5=>?_) (fun hb5=>?_)
 ·replace h:=bT hb5 h
  refine sr ((md rfl (Rn.movTC (v:=.nils 1) tv (md rfl (nt ((Tr.ret ?_)))))))
  replace h:=si h; subst h
  exact ⟨.inr rfl,.tup [.nils 1,(i_ x4)],res2 rfl rfl,(WkV.tup (.cons (WkV.nilsO _) (.cons (.same rfl) .nil))).rd,⟨tv,tv,tv⟩,mB⟩
 ·replace h:=bF hb5 h
  refine Tr.skip (toN (sr ((Rn.movTC (v:=.nils 1) tv (Rn.nil (toN ?_))))))
  refine Tr.cutB (fun (l16:List Int)=>⟨look [(7,(o_ l16))],Qj Γ.n0 (bxs [(2,.cells ((Qc a1)))]) M,Γ.n0+31⟩) h (fun z h=>?_) (fun z h=>?_)
  ·refine sr ((lB (v:=(Qb a1)) rfl rfl rfl rfl (md rfl ?_)))
   obtain ⟨x7,h6,h⟩:=bnd h
   refine Rn.call (args:=[(Qb a1),(i_ state2)]) tv rfl (H_automaton_out _ _ _ h6) pc9 (Rn.lenD tv rfl (md rfl (nt ((Tr.block ?_)))))
   refine Tr.loop (mk:=fun ((l8,x9):(List Int)×Int)=>⟨look [(7,(o_ l8)),(18,(Ql x7)),(19,(i_ (x7.length:Int))),(20,(i_ x9))],Qj Γ.n0 (bxs [(2,.cells ((Qc a1)))]) M,Γ.n0+31⟩) h (by exact Qi ⟨(WkV.nilsO _),(sm rfl),(sm rfl),(sm rfl),tv⟩ ⟨bS rfl rfl rfl,tv⟩ rfl) (fun k10 z h=>?_)
   ·obtain ⟨l8,x9⟩:=z
    replace h:_=some _:=h
    refine sr ((Rn.bin tv rfl rfl rfl (nt ((Tr.seq ?_)))))
    refine Tr.cond rfl (fun hb11=>?_) (fun hb11=>?_)
    ·replace h:=ifT hb11 h
     refine Tr.skip (toN (Tr.seq (Tr.block (Tr.seq (Tr.rgn ?_)))))
     obtain ⟨x12,h13,h⟩:=bnd h
     refine Rn.idxD (e:=Qb4) tv rfl rfl h13 (Rn.loadCA (vs:=(Qcx x12)) tv rfl rfl rfl (Rn.alloc tv rfl (Rn.store (v:=(Qd8 x12)) (cs':=(Qcx x12)) tv rfl rfl rfl rfl rfl rfl (nt ((Tr.rgn (Rn.movTO tv rfl (Rn.fldP (o':=1) tv rfl rfl (lB (v:=(i_ x12.Event)) rfl rfl rfl rfl (Rn.bslice (xs:=[(i_ x12.Event)]) (cs:=[(i_ x12.Event)]) tv rfl rfl rfl rfl ?_))))))))))
     obtain ⟨x14,h15,h⟩:=bnd h
     refine Rn.app (e:=(eI .i64)) tv rfl rfl rfl (Qdk rfl rfl rfl) h15 rfl (Rn.movTO tv rfl (nt ((Tr.rgn (Rn.bin tv rfl rfl rfl (md rfl (Rn.nil ?_)))))))
     exact ⟨_,h,(by exact Qi ⟨(sm rfl),(sm rfl),(sm rfl),(sm rfl),tv⟩ ⟨bS rfl rfl rfl,tv⟩ rfl)⟩
    ·replace h:=ifF hb11 h
     refine Tr.exit ?_
     replace h:=si h; subst h
     exact Qh [] ⟨(sm rfl),tv⟩ ⟨bS rfl rfl rfl,tv⟩ rfl
  ·obtain ⟨l16,rfl⟩ : ∃ x,x=z:=⟨_,rfl⟩
   refine sr ((Rn.movTO tv rfl (Rn.movTO tv rfl (md rfl (nt ((Tr.ret ?_)))))))
   replace h:=si h; subst h
   exact ⟨.inr rfl,.tup [(o_ l16),(i_ 0)],res2 rfl rfl,(WkV.tup (.cons (.same rfl) (.cons (.same rfl) .nil))).rd,⟨tv,tv,tv⟩,mB⟩
theorem Qy8 {P:Program} {c:Nat} (hcf:Qm P c=some Qjh):Qjg P c (Qcw):=by
 intro inA1 inB2 r h
 refine Qbw hcf rfl fun Γ M hP hnt hM=>?_
 subst hP
 refine Tr.init [(0,(b_ inA1)),(1,(b_ inB2))] rfl ?_
 unfold Qcw at h
 unfold Qjh
 refine sr ((md rfl (nt ((sr ((md rfl (md rfl ?_))))))))
 refine Qcb inA1 (fun hb3=>?_) (fun hb3=>?_)
 ·replace h:=bT hb3 h
  refine Rn.movD (gw rfl hb3) rfl (Rn.un (gw rfl hb3) rfl rfl (Rn.pickT (v:=(b_ (!inB2))) tv rfl hb3 rfl (md rfl (nt ((Tr.ret ?_))))))
  replace h:=si h; subst h
  exact ⟨.inr rfl,(b_ (!inB2)),rfl,fun _ _ _ _ h=>h,tv,mB⟩
 ·replace h:=bF hb3 h
  refine Rn.sk (nw rfl hb3) (Rn.sk (nw rfl hb3) (Rn.pickF (v:=(b_ false)) tv rfl hb3 rfl (md rfl (nt ((Tr.ret ?_))))))
  replace h:=si h; subst h
  exact ⟨.inr rfl,(b_ false),rfl,fun _ _ _ _ h=>h,tv,mB⟩
theorem Q28 {P:Program} {c:Nat} {Qw:(List Int)→(List Int)→(Bool→Bool→Option Bool)→Option ((List Int))} {Qcw:Bool→Bool→Option Bool}
    (H_alphabet_merge:Qfy P 53 Qw)
    (H_alphabet_Minus_1:Qjg P 60 Qcw) (hcf:Qm P c=some Qla):Qk9 P c (Qdg Qw Qcw):=by
 intro a1 b2 r h
 refine Qbw hcf rfl fun Γ M hP hnt hM=>?_
 subst hP
 refine Tr.init [(0,(l_ a1)),(1,(l_ b2))] rfl ?_
 unfold Qdg at h
 unfold Qla
 refine sr ((Rn.movTC (v:=.nils 1) tv (nt ((sr ((md rfl (md rfl ?_))))))))
 obtain ⟨x8,h7,h⟩:=bnd h
 refine Rn.callM (args:=[(l_ a1),(l_ b2),.clo 60 []]) tv rfl (fun M2 nb2 hn hx=>H_alphabet_merge _ _ _ 60 [] _ h7 M2 nb2 rfl tv (fun a3 a4 r5 h6 M3 nb3 hn3 hx3=>H_alphabet_Minus_1 a3 a4 r5 h6 M3 nb3 )) rfl pc9 ?_
 refine Rn.movTO tv rfl (nt ((Tr.ret ?_)))
 replace h:=si h; subst h
 exact ⟨.inr rfl,(o_ x8),rfl,fun _ _ _ _ h=>h,tv,mB⟩
theorem Qr8 {P:Program} {c:Nat} {Qcm:Qa→Int→Option ((List Int)×Int)} {Qdg:(List Int)→(List Int)→Option ((List Int))}
    (H_automaton_Enabled:Qh8 P 34 Qcm)
    (H_alphabet_Minus:Qk9 P 35 Qdg) (hcf:Qm P c=some Qg0):Qgz P c (Qb8 Qcm Qdg):=by
 intro a1 state2 r h
 refine Qbw hcf rfl fun Γ M hP hnt hM=>?_
 subst hP
 refine Tr.init [(0,(Qb a1)),(1,(i_ state2))] rfl ?_
 unfold Qb8 at h
 unfold Qg0
 refine sr ((Rn.box (v:=(Qb a1)) (cs:=(Qc a1)) tv rfl rfl rfl rfl rfl (Rn.movTC (v:=.nils 1) tv (md rfl (nt ((sr ((lB (v:=(Qb a1)) rfl rfl rfl rfl (md rfl ?_))))))))))
 obtain ⟨⟨r4,r5⟩,h3,h⟩:=bnd h
 refine Rn.call (args:=[(Qb a1),(i_ state2)]) tv rfl (H_automaton_Enabled _ _ _ h3) pc9 (Rn.mov (v:=.tup [(l_ r4),(i_ r5)]) tv rfl (Rn.extTD (vs:=[(l_ r4),(i_ r5)]) tv rfl rfl rfl (Rn.ext (v:=(i_ r5)) (vs:=[(l_ r4),(i_ r5)]) tv rfl rfl rfl (Rn.movTD tv rfl (md rfl (nt ((Tr.seq (sr ((md rfl (Rn.bin tv rfl rfl rfl (Rn.nil (toN ?_))))))))))))))
 refine Tr.cond rfl (fun hb6=>?_) (fun hb6=>?_)
 ·replace h:=bT hb6 h
  refine sr ((md rfl (Rn.movTC (v:=.nils 1) tv (md rfl (nt ((Tr.ret ?_)))))))
  replace h:=si h; subst h
  exact ⟨.inr rfl,.tup [.nils 1,(i_ r5)],res2 rfl rfl,(WkV.tup (.cons (WkV.nilsO _) (.cons (.same rfl) .nil))).rd,⟨tv,tv,tv⟩,mB⟩
 ·replace h:=bF hb6 h
  refine Tr.skip (toN (sr ((Rn.fldP (o':=0) tv rfl rfl (lB (v:=(l_ a1.zA)) rfl rfl rfl rfl (md rfl ?_))))))
  obtain ⟨x8,h7,h⟩:=bnd h
  refine Rn.call (args:=[(l_ a1.zA),(l_ r4)]) tv rfl (H_alphabet_Minus _ _ _ h7) pc9 (Rn.movTO tv rfl (md rfl (nt ((Tr.ret ?_)))))
  replace h:=si h; subst h
  exact ⟨.inr rfl,.tup [(o_ x8),(i_ 0)],res2 rfl rfl,(WkV.tup (.cons (.same rfl) (.cons (.same rfl) .nil))).rd,⟨tv,tv,tv⟩,mB⟩
theorem Qy9 {P:Program} {c:Nat} (hcf:Qm P c=some Qji) (fuel:Nat):Qgt P c (Qy fuel):=by
 intro s1 s2 r h
 refine Qbw hcf rfl fun Γ M hP hnt hM=>?_
 subst hP
 refine Tr.init [(0,(l_ s1)),(1,(l_ s2))] rfl ?_
 unfold Qy at h
 unfold Qji
 refine sr ((md rfl (nt ((Tr.seq (sr ((md rfl (Rn.lenD tv rfl (md rfl (Rn.lenD tv rfl (Rn.bin tv rfl rfl rfl (Rn.nil (toN ?_))))))))))))))
 refine Tr.cond rfl (fun hb3=>?_) (fun hb3=>?_)
 ·replace h:=bT hb3 h
  refine sr ((md rfl (nt ((Tr.ret ?_)))))
  replace h:=si h; subst h
  exact ⟨.inr rfl,(b_ false),rfl,fun _ _ _ _ h=>h,tv,mB⟩
 ·replace h:=bF hb3 h
  refine Tr.skip (toN (Tr.seq (sr ((md rfl (Rn.lenD tv rfl (md rfl (nt ((Tr.block ?_))))))))))
  refine Tr.loop (mk:=fun (x4:Int)=>⟨look [(0,(l_ s1)),(1,(l_ s2)),(12,(i_ (s1.length:Int))),(13,(i_ x4))],Qj Γ.n0 (bxs []) M,Γ.n0+26⟩) h (by exact Qi ⟨(sm rfl),(sm rfl),(sm rfl),(sm rfl),tv⟩ tv rfl) (fun k5 z h=>?_)
  ·obtain ⟨x4,rfl⟩ : ∃ x,x=z:=⟨_,rfl⟩
   replace h:_=some _:=h
   refine sr ((Rn.bin tv rfl rfl rfl (nt ((Tr.seq ?_)))))
   refine Tr.cond rfl (fun hb6=>?_) (fun hb6=>?_)
   ·replace h:=ifT hb6 h
    refine Tr.skip (toN (Tr.seq (Tr.block (sr ((md rfl (md rfl (nt ((Tr.seq ?_))))))))))
    refine Tr.rgnD (by decide) ?_
    refine md rfl (md rfl ?_)
    obtain ⟨x7,h8,h⟩:=bnd h
    refine Rn.idxD (e:=(eI .i64)) tv rfl rfl h8 (Rn.loadC (x:=.int .i64 x7) tv rfl (md rfl (md rfl ?_)))
    obtain ⟨x9,h10,h⟩:=bnd h
    refine Rn.idxD (e:=(eI .i64)) tv rfl rfl h10 (Rn.loadC (x:=.int .i64 x9) tv rfl (Rn.bin tv rfl rfl rfl ?_))
    refine Rn.nil ⟨rfl,?_⟩
    refine toN ?_
    refine Tr.cond rfl (fun hb11=>?_) (fun hb11=>?_)
    ·replace h:=bT hb11 h
     refine sr ((md rfl (nt ((Tr.ret ?_)))))
     replace h:=si h; subst h
     exact ⟨.inr rfl,(b_ false),rfl,fun _ _ _ _ h=>h,tv,mB⟩
    ·replace h:=bF hb11 h
     refine Tr.skip (toN (Tr.rgn (Rn.bin tv rfl rfl rfl (md rfl (Rn.nil ?_)))))
     exact ⟨_,h,(by exact Qi ⟨(sm rfl),(sm rfl),(sm rfl),(sm rfl),tv⟩ tv rfl)⟩
   ·replace h:=ifF hb6 h
    refine Tr.exit (toN (sr ((md rfl (nt ((Tr.ret ?_)))))))
    replace h:=si h; subst h
    exact ⟨.inr rfl,(b_ true),rfl,fun _ _ _ _ h=>h,tv,mB⟩
theorem Qwy {P:Program} {c:Nat} (hcf:Qm P c=some Qia) (fuel:Nat):Qfv P c (Q4 fuel):=by
 intro s1 s2 r h
 refine Qbw hcf rfl fun Γ M hP hnt hM=>?_
 subst hP
 refine Tr.init [(0,(Ql s1)),(1,(Ql s2))] rfl ?_
 unfold Q4 at h
 unfold Qia
 refine sr ((md rfl (nt ((Tr.seq (sr ((md rfl (Rn.lenD tv rfl (md rfl (Rn.lenD tv rfl (Rn.bin tv rfl rfl rfl (Rn.nil (toN ?_))))))))))))))
 refine Tr.cond rfl (fun hb3=>?_) (fun hb3=>?_)
 ·replace h:=bT hb3 h
  refine sr ((md rfl (nt ((Tr.ret ?_)))))
  replace h:=si h; subst h
  exact ⟨.inr rfl,(b_ false),rfl,fun _ _ _ _ h=>h,tv,mB⟩
 ·replace h:=bF hb3 h
  refine Tr.skip (toN (Tr.seq (sr ((md rfl (Rn.lenD tv rfl (md rfl (nt ((Tr.block ?_))))))))))
  refine Tr.loop (mk:=fun (x4:Int)=>⟨look [(0,(Ql s1)),(1,(Ql s2)),(12,(i_ (s1.length:Int))),(13,(i_ x4))],Qj Γ.n0 (bxs []) M,Γ.n0+26⟩) h (by exact Qi ⟨(sm rfl),(sm rfl),(sm rfl),(sm rfl),tv⟩ tv rfl) (fun k5 z h=>?_)
  ·obtain ⟨x4,rfl⟩ : ∃ x,x=z:=⟨_,rfl⟩
   replace h:_=some _:=h
   refine sr ((Rn.bin tv rfl rfl rfl (nt ((Tr.seq ?_)))))
   refine Tr.cond rfl (fun hb6=>?_) (fun hb6=>?_)
   ·replace h:=ifT hb6 h
    refine Tr.skip (toN (Tr.seq (Tr.block (sr ((md rfl (md rfl (nt ((Tr.seq ?_))))))))))
    refine Tr.rgnD (by decide) ?_
    refine md rfl (md rfl ?_)
    obtain ⟨x7,h8,h⟩:=bnd h
    refine Rn.idxD (e:=Qb4) tv rfl rfl h8 (Rn.loadCA (vs:=(Qcx x7)) tv rfl rfl rfl (md rfl (md rfl ?_)))
    obtain ⟨x9,h10,h⟩:=bnd h
    refine Rn.idxD (e:=Qb4) tv rfl rfl h10 (Rn.loadCA (vs:=(Qcx x9)) tv rfl rfl rfl (Rn.eqa (r:=((x7.From == x9.From) && ((x7.Event == x9.Event) && ((x7.To == x9.To) && true)))) tv rfl rfl rfl ?_))
    refine Rn.nil ⟨rfl,?_⟩
    refine toN ?_
    refine Tr.cond rfl (fun hb11=>?_) (fun hb11=>?_)
    ·have hb11:=nT' hb11
     replace h:=bF hb11 h
     refine sr ((md rfl (nt ((Tr.ret ?_)))))
     replace h:=si h; subst h
     exact ⟨.inr rfl,(b_ false),rfl,fun _ _ _ _ h=>h,tv,mB⟩
    ·have hb11:=nF' hb11
     replace h:=bT hb11 h
     refine Tr.skip (toN (Tr.rgn (Rn.bin tv rfl rfl rfl (md rfl (Rn.nil ?_)))))
     exact ⟨_,h,(by exact Qi ⟨(sm rfl),(sm rfl),(sm rfl),(sm rfl),tv⟩ tv rfl)⟩
   ·replace h:=ifF hb6 h
    refine Tr.exit (toN (sr ((md rfl (nt ((Tr.ret ?_)))))))
    replace h:=si h; subst h
    exact ⟨.inr rfl,(b_ true),rfl,fun _ _ _ _ h=>h,tv,mB⟩
theorem Qr9 {P:Program} {c:Nat} {Qbq:(List Int)→Option (Qa×Int)} {Qch:(List Int)→(List Int)→Int→Option (Qa×Int)} {Qci:(List Qq)→Int→Option (Qa×Int)} {Qb8:Qa→Int→Option ((List Int)×Int)} {Qy:(List Int)→(List Int)→Option Bool} {Q4:(List Qd)→(List Qd)→Option Bool}
    (H_requirement_Alternate:Qft P 11 Qbq)
    (H_requirement_Buffer:Qhh P 12 Qch)
    (H_requirement_AtMost:Qhj P 13 Qci)
    (H_requirement_Refused:Qgz P 14 Qb8)
    (H_slices_Equal_int:Qgt P 15 Qy)
    (H_slices_Equal_Edge:Qfv P 16 Q4) (hcf:Qm P c=some Qg2):Qg1 P c (Qb9 Qbq Qch Qci Qb8 Qy Q4):=by
 intro  r h
 refine Qbw hcf rfl fun Γ M hP hnt hM=>?_
 subst hP
 refine Tr.init [] rfl ?_
 unfold Qb9 at h
 unfold Qg2
 refine sr ((md rfl (nt ((sr ((Rn.bslice (xs:=[(i_ 3),(i_ 1)]) (cs:=[(i_ 3),(i_ 1)]) tv rfl rfl rfl rfl ?_)))))))
 refine Rn.weak (by show WeakSt Γ _ ⟨look [(0,(b_ false)),(10,(l_ [3,1]))],Qj Γ.n0 (bxs []) M,Γ.n0+75⟩; exact Qgw 10 [.int .i64 3,.int .i64 1] rfl rfl ⟨(.same rfl),(fSl rfl rfl),tv⟩ tv rfl) ?_
 obtain ⟨⟨r2,r3⟩,h1,h⟩:=bnd h
 refine Rn.call (args:=[(l_ [3,1])]) tv rfl (H_requirement_Alternate _ _ h1) pc9 (Rn.mov (v:=.tup [(Qb r2),(i_ r3)]) tv rfl (Rn.ext (v:=(Qb r2)) (vs:=[(Qb r2),(i_ r3)]) tv rfl rfl rfl (Rn.ext (v:=(i_ r3)) (vs:=[(Qb r2),(i_ r3)]) tv rfl rfl rfl (Rn.alloc tv rfl (Rn.storeT (v:=(Qb r2)) (ds:=(Qc r2)) (cs':=(Qc r2)) tv rfl rfl rfl rfl rfl rfl rfl (md rfl (nt ((sr ((Rn.bslice (xs:=[(i_ 0)]) (cs:=[(i_ 0)]) tv rfl rfl rfl rfl (Rn.bslice (xs:=[(i_ 1)]) (cs:=[(i_ 1)]) tv rfl rfl rfl rfl ?_))))))))))))
 refine Rn.weak (by show WeakSt Γ _ ⟨look [(0,(b_ false)),(1,.ptr (Γ.n0+1) 0),(2,(i_ r3)),(9,.tup [(Qb r2),(i_ r3)]),(10,(l_ [3,1])),(11,.tup [(Qb r2),(i_ r3)]),(12,(Qb r2)),(13,(i_ r3)),(15,(l_ [0])),(16,.sl 1 (Γ.n0+16) 0 1 1)],Qj Γ.n0 (bxs [(1,.cells ((Qc r2))),(16,.cells ([(i_ 1)]))]) M,Γ.n0+75⟩; exact Qgw 15 [.int .i64 0] rfl rfl ⟨(.same rfl),(fPtr rfl),(.same rfl),(.same rfl),(.same rfl),(.same rfl),(.same rfl),(.same rfl),(fSl rfl rfl),(fSlO rfl),tv⟩ ⟨bS rfl rfl rfl,bS rfl rfl rfl,tv⟩ rfl) ?_
 refine Rn.weak (by show WeakSt Γ _ ⟨look [(0,(b_ false)),(1,.ptr (Γ.n0+1) 0),(2,(i_ r3)),(9,.tup [(Qb r2),(i_ r3)]),(10,(l_ [3,1])),(11,.tup [(Qb r2),(i_ r3)]),(12,(Qb r2)),(13,(i_ r3)),(15,(l_ [0])),(16,(l_ [1]))],Qj Γ.n0 (bxs [(1,.cells ((Qc r2)))]) M,Γ.n0+75⟩; exact Qgw 16 [.int .i64 1] rfl rfl ⟨(.same rfl),(fPtr rfl),(.same rfl),(.same rfl),(.same rfl),(.same rfl),(.same rfl),(.same rfl),(.same rfl),(fSl rfl rfl),tv⟩ ⟨bS rfl rfl rfl,tv⟩ rfl) ?_
 obtain ⟨⟨r5,r6⟩,h4,h⟩:=bnd h
 refine Rn.call (args:=[(l_ [0]),(l_ [1]),(i_ 2)]) tv rfl (H_requirement_Buffer _ _ _ _ h4) pc9 (Rn.mov (v:=.tup [(Qb r5),(i_ r6)]) tv rfl (Rn.ext (v:=(Qb r5)) (vs:=[(Qb r5),(i_ r6)]) tv rfl rfl rfl (Rn.ext (v:=(i_ r6)) (vs:=[(Qb r5),(i_ r6)]) tv rfl rfl rfl (Rn.alloc tv rfl (Rn.storeT (v:=(Qb r5)) (ds:=(Qc r5)) (cs':=(Qc r5)) tv rfl rfl rfl rfl rfl rfl rfl (md rfl (nt ((sr ((Rn.build (v:=.agg [(i_ 0),(i_ 1)]) tv rfl (Rn.build (v:=.agg [(i_ 2),(i_ 3)]) tv rfl (Rn.bslice (xs:=[.agg [(i_ 0),(i_ 1)],.agg [(i_ 2),(i_ 3)]]) (cs:=[(i_ 0),(i_ 1),(i_ 2),(i_ 3)]) tv rfl rfl rfl rfl ?_)))))))))))))
 refine Rn.weak (by show WeakSt Γ _ ⟨look [(0,(b_ false)),(1,.ptr (Γ.n0+1) 0),(2,(i_ r3)),(3,.ptr (Γ.n0+3) 0),(4,(i_ r6)),(9,.tup [(Qb r2),(i_ r3)]),(10,(l_ [3,1])),(11,.tup [(Qb r2),(i_ r3)]),(12,(Qb r2)),(13,(i_ r3)),(14,.tup [(Qb r5),(i_ r6)]),(15,(l_ [0])),(16,(l_ [1])),(17,.tup [(Qb r5),(i_ r6)]),(18,(Qb r5)),(19,(i_ r6)),(21,.agg [(i_ 0),(i_ 1)]),(22,.agg [(i_ 2),(i_ 3)]),(23,.d (.lst 2 (List.map Qc3 [(Qq.mk 0 1),(Qq.mk 2 3)])))],Qj Γ.n0 (bxs [(1,.cells ((Qc r2))),(3,.cells ((Qc r5)))]) M,Γ.n0+75⟩; exact Qgw 23 [.int .i64 0,.int .i64 1,.int .i64 2,.int .i64 3] rfl rfl ⟨(.same rfl),(fPtr rfl),(.same rfl),(fPtr rfl),(.same rfl),(.same rfl),(.same rfl),(.same rfl),(.same rfl),(.same rfl),(.same rfl),(.same rfl),(.same rfl),(.same rfl),(.same rfl),(.same rfl),(.same rfl),(.same rfl),(fSl rfl rfl),tv⟩ ⟨bS rfl rfl rfl,bS rfl rfl rfl,tv⟩ rfl) ?_
 obtain ⟨⟨r8,r9⟩,h7,h⟩:=bnd h
 refine Rn.call (args:=[.d (.lst 2 (List.map Qc3 [(Qq.mk 0 1),(Qq.mk 2 3)])),(i_ 1)]) tv rfl (H_requirement_AtMost _ _ _ h7) pc9 (Rn.mov (v:=.tup [(Qb r8),(i_ r9)]) tv rfl (Rn.ext (v:=(Qb r8)) (vs:=[(Qb r8),(i_ r9)]) tv rfl rfl rfl (Rn.ext (v:=(i_ r9)) (vs:=[(Qb r8),(i_ r9)]) tv rfl rfl rfl (Rn.alloc tv rfl (Rn.storeT (v:=(Qb r8)) (ds:=(Qc r8)) (cs':=(Qc r8)) tv rfl rfl rfl rfl rfl rfl rfl (md rfl (nt ((sr ((lB (v:=(Qb r8)) rfl rfl rfl rfl ?_)))))))))))
 obtain ⟨⟨r11,r12⟩,h10,h⟩:=bnd h
 refine Rn.call (args:=[(Qb r8),(i_ 1)]) tv rfl (H_requirement_Refused _ _ _ h10) pc9 (Rn.mov (v:=.tup [(l_ r11),(i_ r12)]) tv rfl (Rn.extTD (vs:=[(l_ r11),(i_ r12)]) tv rfl rfl rfl (Rn.ext (v:=(i_ r12)) (vs:=[(l_ r11),(i_ r12)]) tv rfl rfl rfl (Rn.movTD tv rfl (md rfl (Rn.nil (toN ?_)))))))
 refine Tr.cutB (fun (x27:Bool)=>⟨look [(0,(b_ x27))],Qj Γ.n0 (bxs [(1,.cells ((Qc r2))),(3,.cells ((Qc r5))),(5,.cells ((Qc r8)))]) M,Γ.n0+75⟩) h (fun z h=>?_) (fun z h=>?_)
 ·refine Tr.rgn (md rfl (Rn.bin tv rfl rfl rfl (md rfl ?_)))
  refine Qcb (r3 == 0) (fun hb13=>?_) (fun hb13=>?_)
  ·replace h:=bT hb13 h
   refine Rn.movD (gw rfl hb13) rfl (Rn.bin (gw rfl hb13) rfl rfl rfl (Rn.pickT (v:=(b_ (r6 == 0))) tv rfl hb13 rfl (md rfl ?_)))
   refine Qcb (r6 == 0) (fun hb14=>?_) (fun hb14=>?_)
   ·replace h:=bT hb14 h
    refine Rn.movD (gw rfl hb14) rfl (Rn.bin (gw rfl hb14) rfl rfl rfl (Rn.pickT (v:=(b_ (r9 == 0))) tv rfl hb14 rfl (md rfl ?_)))
    refine Qcb (r9 == 0) (fun hb15=>?_) (fun hb15=>?_)
    ·replace h:=bT hb15 h
     refine Rn.movD (gw rfl hb15) rfl (Rn.bin (gw rfl hb15) rfl rfl rfl (Rn.pickT (v:=(b_ (r12 == 0))) tv rfl hb15 rfl (md rfl ?_)))
     refine Qcb (r12 == 0) (fun hb16=>?_) (fun hb16=>?_)
     ·replace h:=bT hb16 h
      refine Rn.fldP (o':=0) (gw rfl hb16) rfl rfl (Rn.load (v:=(l_ r2.zA)) (gw rfl hb16) rfl (Qbv rfl) rfl rfl (Rn.bslice (xs:=[(i_ 1),(i_ 3)]) (cs:=[(i_ 1),(i_ 3)]) (gw rfl hb16) rfl rfl rfl rfl ?_))
      refine Rn.weak (by show WeakSt Γ _ ⟨look [(0,(b_ false)),(1,.ptr (Γ.n0+1) 0),(2,(i_ r3)),(3,.ptr (Γ.n0+3) 0),(4,(i_ r6)),(5,.ptr (Γ.n0+5) 0),(6,(i_ r9)),(7,(l_ r11)),(8,(i_ r12)),(9,.tup [(Qb r2),(i_ r3)]),(10,(l_ [3,1])),(11,.tup [(Qb r2),(i_ r3)]),(12,(Qb r2)),(13,(i_ r3)),(14,.tup [(Qb r5),(i_ r6)]),(15,(l_ [0])),(16,(l_ [1])),(17,.tup [(Qb r5),(i_ r6)]),(18,(Qb r5)),(19,(i_ r6)),(20,.tup [(Qb r8),(i_ r9)]),(21,.agg [(i_ 0),(i_ 1)]),(22,.agg [(i_ 2),(i_ 3)]),(23,.d (.lst 2 (List.map Qc3 [(Qq.mk 0 1),(Qq.mk 2 3)]))),(24,.tup [(Qb r8),(i_ r9)]),(25,(Qb r8)),(26,(i_ r9)),(27,.tup [(l_ r11),(i_ r12)]),(28,(Qb r8)),(29,.tup [(o_ r11),(i_ r12)]),(30,(l_ r11)),(31,(i_ r12)),(32,(i_ r3)),(33,(b_ (r3 == 0))),(34,(b_ (r3 == 0))),(35,(i_ r6)),(36,(b_ (r6 == 0))),(37,(b_ (r6 == 0))),(38,(b_ (r6 == 0))),(39,(i_ r9)),(40,(b_ (r9 == 0))),(41,(b_ (r9 == 0))),(42,(b_ (r9 == 0))),(43,(i_ r12)),(44,(b_ (r12 == 0))),(45,(b_ (r12 == 0))),(46,(b_ (r12 == 0))),(47,.ptr (Γ.n0+1) 0),(48,(l_ r2.zA)),(49,(l_ [1,3]))],Qj Γ.n0 (bxs [(1,.cells ((Qc r2))),(3,.cells ((Qc r5))),(5,.cells ((Qc r8)))]) M,Γ.n0+75⟩; exact Qgw 49 [.int .i64 1,.int .i64 3] rfl rfl ⟨(.same rfl),(fPtr rfl),(.same rfl),(fPtr rfl),(.same rfl),(fPtr rfl),(.same rfl),(.same rfl),(.same rfl),(.same rfl),(.same rfl),(.same rfl),(.same rfl),(.same rfl),(.same rfl),(.same rfl),(.same rfl),(.same rfl),(.same rfl),(.same rfl),(.same rfl),(.same rfl),(.same rfl),(.same rfl),(.same rfl),(.same rfl),(.same rfl),(.same rfl),(.same rfl),(.same rfl),(.same rfl),(.same rfl),(.same rfl),(.same rfl),(.same rfl),(.same rfl),(.same rfl),(.same rfl),(.same rfl),(.same rfl),(.same rfl),(.same rfl),(.same rfl),(.same rfl),(.same rfl),(.same rfl),(.same rfl),(fPtr rfl),(.same rfl),(fSl rfl rfl),tv⟩ ⟨bS rfl rfl rfl,bS rfl rfl rfl,bS rfl rfl rfl,tv⟩ rfl) ?_
      obtain ⟨x18,h17,h⟩:=bnd h
      refine Rn.call (args:=[(l_ r2.zA),(l_ [1,3])]) (gw rfl hb16) rfl (H_slices_Equal_int _ _ _ h17) pc9 (Rn.pickT (v:=(b_ x18)) tv rfl hb16 rfl (md rfl ?_))
      refine Qcb x18 (fun hb19=>?_) (fun hb19=>?_)
      ·replace h:=bT hb19 h
       refine Rn.fldP (o':=3) (gw rfl hb19) rfl rfl (Rn.load (v:=(Ql r2.zC)) (gw rfl hb19) rfl (Qbv rfl) rfl rfl (Rn.build (v:=.agg [(i_ 0),(i_ 3),(i_ 1)]) (gw rfl hb19) rfl (Rn.build (v:=.agg [(i_ 1),(i_ 1),(i_ 0)]) (gw rfl hb19) rfl (Rn.bslice (xs:=[.agg [(i_ 0),(i_ 3),(i_ 1)],.agg [(i_ 1),(i_ 1),(i_ 0)]]) (cs:=[(i_ 0),(i_ 3),(i_ 1),(i_ 1),(i_ 1),(i_ 0)]) (gw rfl hb19) rfl rfl rfl rfl ?_))))
       refine Rn.weak (by show WeakSt Γ _ ⟨look [(0,(b_ false)),(1,.ptr (Γ.n0+1) 0),(2,(i_ r3)),(3,.ptr (Γ.n0+3) 0),(4,(i_ r6)),(5,.ptr (Γ.n0+5) 0),(6,(i_ r9)),(7,(l_ r11)),(8,(i_ r12)),(9,.tup [(Qb r2),(i_ r3)]),(10,(l_ [3,1])),(11,.tup [(Qb r2),(i_ r3)]),(12,(Qb r2)),(13,(i_ r3)),(14,.tup [(Qb r5),(i_ r6)]),(15,(l_ [0])),(16,(l_ [1])),(17,.tup [(Qb r5),(i_ r6)]),(18,(Qb r5)),(19,(i_ r6)),(20,.tup [(Qb r8),(i_ r9)]),(21,.agg [(i_ 0),(i_ 1)]),(22,.agg [(i_ 2),(i_ 3)]),(23,.d (.lst 2 (List.map Qc3 [(Qq.mk 0 1),(Qq.mk 2 3)]))),(24,.tup [(Qb r8),(i_ r9)]),(25,(Qb r8)),(26,(i_ r9)),(27,.tup [(l_ r11),(i_ r12)]),(28,(Qb r8)),(29,.tup [(o_ r11),(i_ r12)]),(30,(l_ r11)),(31,(i_ r12)),(32,(i_ r3)),(33,(b_ (r3 == 0))),(34,(b_ (r3 == 0))),(35,(i_ r6)),(36,(b_ (r6 == 0))),(37,(b_ (r6 == 0))),(38,(b_ (r6 == 0))),(39,(i_ r9)),(40,(b_ (r9 == 0))),(41,(b_ (r9 == 0))),(42,(b_ (r9 == 0))),(43,(i_ r12)),(44,(b_ (r12 == 0))),(45,(b_ (r12 == 0))),(46,(b_ (r12 == 0))),(47,.ptr (Γ.n0+1) 0),(48,(l_ r2.zA)),(49,(l_ [1,3])),(50,(b_ x18)),(51,(b_ x18)),(52,(b_ x18)),(53,.ptr (Γ.n0+1) 3),(54,(Ql r2.zC)),(55,.agg [(i_ 0),(i_ 3),(i_ 1)]),(56,.agg [(i_ 1),(i_ 1),(i_ 0)]),(57,.d (.lst 3 (List.map Qb4 [(Qd.mk 0 3 1),(Qd.mk 1 1 0)])))],Qj Γ.n0 (bxs [(1,.cells ((Qc r2))),(3,.cells ((Qc r5))),(5,.cells ((Qc r8)))]) M,Γ.n0+75⟩; exact Qgw 57 [.int .i64 0,.int .i64 3,.int .i64 1,.int .i64 1,.int .i64 1,.int .i64 0] rfl rfl ⟨(.same rfl),(fPtr rfl),(.same rfl),(fPtr rfl),(.same rfl),(fPtr rfl),(.same rfl),(.same rfl),(.same rfl),(.same rfl),(.same rfl),(.same rfl),(.same rfl),(.same rfl),(.same rfl),(.same rfl),(.same rfl),(.same rfl),(.same rfl),(.same rfl),(.same rfl),(.same rfl),(.same rfl),(.same rfl),(.same rfl),(.same rfl),(.same rfl),(.same rfl),(.same rfl),(.same rfl),(.same rfl),(.same rfl),(.same rfl),(.same rfl),(.same rfl),(.same rfl),(.same rfl),(.same rfl),(.same rfl),(.same rfl),(.same rfl),(.same rfl),(.same rfl),(.same rfl),(.same rfl),(.same rfl),(.same rfl),(fPtr rfl),(.same rfl),(.same rfl),(.same rfl),(.same rfl),(.same rfl),(fPtr rfl),(.same rfl),(.same rfl),(.same rfl),(fSl rfl rfl),tv⟩ ⟨bS rfl rfl rfl,bS rfl rfl rfl,bS rfl rfl rfl,tv⟩ rfl) ?_
       obtain ⟨x21,h20,h⟩:=bnd h
       refine Rn.call (args:=[(Ql r2.zC),.d (.lst 3 (List.map Qb4 [(Qd.mk 0 3 1),(Qd.mk 1 1 0)]))]) (gw rfl hb19) rfl (H_slices_Equal_Edge _ _ _ h20) pc9 (Rn.pickT (v:=(b_ x21)) tv rfl hb19 rfl (md rfl ?_))
       refine Qcb x21 (fun hb22=>?_) (fun hb22=>?_)
       ·replace h:=bT hb22 h
        refine Rn.fldP (o':=1) (gw rfl hb22) rfl rfl (Rn.load (v:=(i_ r5.zD)) (gw rfl hb22) rfl (Qbv rfl) rfl rfl (Rn.bin (gw rfl hb22) rfl rfl rfl (Rn.pickT (v:=(b_ (r5.zD == 3))) tv rfl hb22 rfl (md rfl ?_))))
        refine Qcb (r5.zD == 3) (fun hb23=>?_) (fun hb23=>?_)
        ·replace h:=bT hb23 h
         refine Rn.fldP (o':=1) (gw rfl hb23) rfl rfl (Rn.load (v:=(i_ r8.zD)) (gw rfl hb23) rfl (Qbv rfl) rfl rfl (Rn.bin (gw rfl hb23) rfl rfl rfl (Rn.pickT (v:=(b_ (r8.zD == 3))) tv rfl hb23 rfl (md rfl ?_))))
         refine Qcb (r8.zD == 3) (fun hb24=>?_) (fun hb24=>?_)
         ·replace h:=bT hb24 h
          refine Rn.movD (gw rfl hb24) rfl (Rn.bslice (xs:=[(i_ 0),(i_ 2),(i_ 3)]) (cs:=[(i_ 0),(i_ 2),(i_ 3)]) (gw rfl hb24) rfl rfl rfl rfl ?_)
          refine Rn.weak (by show WeakSt Γ _ ⟨look [(0,(b_ false)),(1,.ptr (Γ.n0+1) 0),(2,(i_ r3)),(3,.ptr (Γ.n0+3) 0),(4,(i_ r6)),(5,.ptr (Γ.n0+5) 0),(6,(i_ r9)),(7,(l_ r11)),(8,(i_ r12)),(9,.tup [(Qb r2),(i_ r3)]),(10,(l_ [3,1])),(11,.tup [(Qb r2),(i_ r3)]),(12,(Qb r2)),(13,(i_ r3)),(14,.tup [(Qb r5),(i_ r6)]),(15,(l_ [0])),(16,(l_ [1])),(17,.tup [(Qb r5),(i_ r6)]),(18,(Qb r5)),(19,(i_ r6)),(20,.tup [(Qb r8),(i_ r9)]),(21,.agg [(i_ 0),(i_ 1)]),(22,.agg [(i_ 2),(i_ 3)]),(23,.d (.lst 2 (List.map Qc3 [(Qq.mk 0 1),(Qq.mk 2 3)]))),(24,.tup [(Qb r8),(i_ r9)]),(25,(Qb r8)),(26,(i_ r9)),(27,.tup [(l_ r11),(i_ r12)]),(28,(Qb r8)),(29,.tup [(o_ r11),(i_ r12)]),(30,(l_ r11)),(31,(i_ r12)),(32,(i_ r3)),(33,(b_ (r3 == 0))),(34,(b_ (r3 == 0))),(35,(i_ r6)),(36,(b_ (r6 == 0))),(37,(b_ (r6 == 0))),(38,(b_ (r6 == 0))),(39,(i_ r9)),(40,(b_ (r9 == 0))),(41,(b_ (r9 == 0))),(42,(b_ (r9 == 0))),(43,(i_ r12)),(44,(b_ (r12 == 0))),(45,(b_ (r12 == 0))),(46,(b_ (r12 == 0))),(47,.ptr (Γ.n0+1) 0),(48,(l_ r2.zA)),(49,(l_ [1,3])),(50,(b_ x18)),(51,(b_ x18)),(52,(b_ x18)),(53,.ptr (Γ.n0+1) 3),(54,(Ql r2.zC)),(55,.agg [(i_ 0),(i_ 3),(i_ 1)]),(56,.agg [(i_ 1),(i_ 1),(i_ 0)]),(57,.d (.lst 3 (List.map Qb4 [(Qd.mk 0 3 1),(Qd.mk 1 1 0)]))),(58,(b_ x21)),(59,(b_ x21)),(60,(b_ x21)),(61,.ptr (Γ.n0+3) 1),(62,(i_ r5.zD)),(63,(b_ (r5.zD == 3))),(64,(b_ (r5.zD == 3))),(65,(b_ (r5.zD == 3))),(66,.ptr (Γ.n0+5) 1),(67,(i_ r8.zD)),(68,(b_ (r8.zD == 3))),(69,(b_ (r8.zD == 3))),(70,(b_ (r8.zD == 3))),(71,(l_ r11)),(72,(l_ [0,2,3]))],Qj Γ.n0 (bxs [(1,.cells ((Qc r2))),(3,.cells ((Qc r5))),(5,.cells ((Qc r8)))]) M,Γ.n0+75⟩; exact Qgw 72 [.int .i64 0,.int .i64 2,.int .i64 3] rfl rfl ⟨(.same rfl),(fPtr rfl),(.same rfl),(fPtr rfl),(.same rfl),(fPtr rfl),(.same rfl),(.same rfl),(.same rfl),(.same rfl),(.same rfl),(.same rfl),(.same rfl),(.same rfl),(.same rfl),(.same rfl),(.same rfl),(.same rfl),(.same rfl),(.same rfl),(.same rfl),(.same rfl),(.same rfl),(.same rfl),(.same rfl),(.same rfl),(.same rfl),(.same rfl),(.same rfl),(.same rfl),(.same rfl),(.same rfl),(.same rfl),(.same rfl),(.same rfl),(.same rfl),(.same rfl),(.same rfl),(.same rfl),(.same rfl),(.same rfl),(.same rfl),(.same rfl),(.same rfl),(.same rfl),(.same rfl),(.same rfl),(fPtr rfl),(.same rfl),(.same rfl),(.same rfl),(.same rfl),(.same rfl),(fPtr rfl),(.same rfl),(.same rfl),(.same rfl),(.same rfl),(.same rfl),(.same rfl),(.same rfl),(fPtr rfl),(.same rfl),(.same rfl),(.same rfl),(.same rfl),(fPtr rfl),(.same rfl),(.same rfl),(.same rfl),(.same rfl),(.same rfl),(fSl rfl rfl),tv⟩ ⟨bS rfl rfl rfl,bS rfl rfl rfl,bS rfl rfl rfl,tv⟩ rfl) ?_
          obtain ⟨x26,h25,h⟩:=bnd h
          refine Rn.call (args:=[(l_ r11),(l_ [0,2,3])]) (gw rfl hb24) rfl (H_slices_Equal_int _ _ _ h25) pc9 (Rn.pickT (v:=(b_ x26)) tv rfl hb24 rfl (md rfl (Rn.nil ?_)))
          replace h:=si h; subst h
          exact Qh [] ⟨(sm rfl),tv⟩ ⟨bS rfl rfl rfl,bS rfl rfl rfl,bS rfl rfl rfl,tv⟩ rfl
         ·replace h:=bF hb24 h
          refine Rn.sk (nw rfl hb24) (Rn.sk (nw rfl hb24) (Rn.sk (nw rfl hb24) (Rn.pickF (v:=(b_ false)) tv rfl hb24 rfl (md rfl (Rn.nil ?_)))))
          replace h:=si h; subst h
          exact Qh [] ⟨(sm rfl),tv⟩ ⟨bS rfl rfl rfl,bS rfl rfl rfl,bS rfl rfl rfl,tv⟩ rfl
        ·replace h:=bF hb23 h
         refine Rn.sk (nw rfl hb23) (Rn.sk (nw rfl hb23) (Rn.sk (nw rfl hb23) (Rn.pickF (v:=(b_ false)) tv rfl hb23 rfl (md rfl (sF rfl rfl (sF rfl rfl (sF rfl rfl (Rn.pickF (v:=(b_ false)) tv rfl rfl rfl (md rfl (Rn.nil ?_))))))))))
         replace h:=si h; subst h
         exact Qh [] ⟨(sm rfl),tv⟩ ⟨bS rfl rfl rfl,bS rfl rfl rfl,bS rfl rfl rfl,tv⟩ rfl
       ·replace h:=bF hb22 h
        refine Rn.sk (nw rfl hb22) (Rn.sk (nw rfl hb22) (Rn.sk (nw rfl hb22) (Rn.pickF (v:=(b_ false)) tv rfl hb22 rfl (md rfl (sF rfl rfl (sF rfl rfl (sF rfl rfl (Rn.pickF (v:=(b_ false)) tv rfl rfl rfl (md rfl (sF rfl rfl (sF rfl rfl (sF rfl rfl (Rn.pickF (v:=(b_ false)) tv rfl rfl rfl (md rfl (Rn.nil ?_)))))))))))))))
        replace h:=si h; subst h
        exact Qh [] ⟨(sm rfl),tv⟩ ⟨bS rfl rfl rfl,bS rfl rfl rfl,bS rfl rfl rfl,tv⟩ rfl
      ·replace h:=bF hb19 h
       refine Rn.sk (nw rfl hb19) (Rn.sk (nw rfl hb19) (Rn.sk (nw rfl hb19) (Rn.sk (nw rfl hb19) (Rn.sk (nw rfl hb19) (Rn.sk (nw rfl hb19) (Rn.pickF (v:=(b_ false)) tv rfl hb19 rfl (md rfl (sF rfl rfl (sF rfl rfl (sF rfl rfl (Rn.pickF (v:=(b_ false)) tv rfl rfl rfl (md rfl (sF rfl rfl (sF rfl rfl (sF rfl rfl (Rn.pickF (v:=(b_ false)) tv rfl rfl rfl (md rfl (sF rfl rfl (sF rfl rfl (sF rfl rfl (Rn.pickF (v:=(b_ false)) tv rfl rfl rfl (md rfl (Rn.nil ?_)))))))))))))))))))))))
       replace h:=si h; subst h
       exact Qh [] ⟨(sm rfl),tv⟩ ⟨bS rfl rfl rfl,bS rfl rfl rfl,bS rfl rfl rfl,tv⟩ rfl
     ·replace h:=bF hb16 h
      refine Rn.sk (nw rfl hb16) (Rn.sk (nw rfl hb16) (Rn.sk (nw rfl hb16) (Rn.sk (nw rfl hb16) (Rn.pickF (v:=(b_ false)) tv rfl hb16 rfl (md rfl (sF rfl rfl (sF rfl rfl (sF rfl rfl (sF rfl rfl (sF rfl rfl (sF rfl rfl (Rn.pickF (v:=(b_ false)) tv rfl rfl rfl (md rfl (sF rfl rfl (sF rfl rfl (sF rfl rfl (Rn.pickF (v:=(b_ false)) tv rfl rfl rfl (md rfl (sF rfl rfl (sF rfl rfl (sF rfl rfl (Rn.pickF (v:=(b_ false)) tv rfl rfl rfl (md rfl (sF rfl rfl (sF rfl rfl (sF rfl rfl (Rn.pickF (v:=(b_ false)) tv rfl rfl rfl (md rfl (Rn.nil ?_)))))))))))))))))))))))))))))
      replace h:=si h; subst h
      exact Qh [] ⟨(sm rfl),tv⟩ ⟨bS rfl rfl rfl,bS rfl rfl rfl,bS rfl rfl rfl,tv⟩ rfl
    ·replace h:=bF hb15 h
     refine Rn.sk (nw rfl hb15) (Rn.sk (nw rfl hb15) (Rn.pickF (v:=(b_ false)) tv rfl hb15 rfl (md rfl (sF rfl rfl (sF rfl rfl (sF rfl rfl (sF rfl rfl (Rn.pickF (v:=(b_ false)) tv rfl rfl rfl (md rfl (sF rfl rfl (sF rfl rfl (sF rfl rfl (sF rfl rfl (sF rfl rfl (sF rfl rfl (Rn.pickF (v:=(b_ false)) tv rfl rfl rfl (md rfl (sF rfl rfl (sF rfl rfl (sF rfl rfl (Rn.pickF (v:=(b_ false)) tv rfl rfl rfl (md rfl (sF rfl rfl (sF rfl rfl (sF rfl rfl (Rn.pickF (v:=(b_ false)) tv rfl rfl rfl (md rfl (sF rfl rfl (sF rfl rfl (sF rfl rfl (Rn.pickF (v:=(b_ false)) tv rfl rfl rfl (md rfl (Rn.nil ?_)))))))))))))))))))))))))))))))))
     replace h:=si h; subst h
     exact Qh [] ⟨(sm rfl),tv⟩ ⟨bS rfl rfl rfl,bS rfl rfl rfl,bS rfl rfl rfl,tv⟩ rfl
   ·replace h:=bF hb14 h
    refine Rn.sk (nw rfl hb14) (Rn.sk (nw rfl hb14) (Rn.pickF (v:=(b_ false)) tv rfl hb14 rfl (md rfl (sF rfl rfl (sF rfl rfl (Rn.pickF (v:=(b_ false)) tv rfl rfl rfl (md rfl (sF rfl rfl (sF rfl rfl (sF rfl rfl (sF rfl rfl (Rn.pickF (v:=(b_ false)) tv rfl rfl rfl (md rfl (sF rfl rfl (sF rfl rfl (sF rfl rfl (sF rfl rfl (sF rfl rfl (sF rfl rfl (Rn.pickF (v:=(b_ false)) tv rfl rfl rfl (md rfl (sF rfl rfl (sF rfl rfl (sF rfl rfl (Rn.pickF (v:=(b_ false)) tv rfl rfl rfl (md rfl (sF rfl rfl (sF rfl rfl (sF rfl rfl (Rn.pickF (v:=(b_ false)) tv rfl rfl rfl (md rfl (sF rfl rfl (sF rfl rfl (sF rfl rfl (Rn.pickF (v:=(b_ false)) tv rfl rfl rfl (md rfl (Rn.nil ?_)))))))))))))))))))))))))))))))))))))
    replace h:=si h; subst h
    exact Qh [] ⟨(sm rfl),tv⟩ ⟨bS rfl rfl rfl,bS rfl rfl rfl,bS rfl rfl rfl,tv⟩ rfl
  ·replace h:=bF hb13 h
   refine Rn.sk (nw rfl hb13) (Rn.sk (nw rfl hb13) (Rn.pickF (v:=(b_ false)) tv rfl hb13 rfl (md rfl (sF rfl rfl (sF rfl rfl (Rn.pickF (v:=(b_ false)) tv rfl rfl rfl (md rfl (sF rfl rfl (sF rfl rfl (Rn.pickF (v:=(b_ false)) tv rfl rfl rfl (md rfl (sF rfl rfl (sF rfl rfl (sF rfl rfl (sF rfl rfl (Rn.pickF (v:=(b_ false)) tv rfl rfl rfl (md rfl (sF rfl rfl (sF rfl rfl (sF rfl rfl (sF rfl rfl (sF rfl rfl (sF rfl rfl (Rn.pickF (v:=(b_ false)) tv rfl rfl rfl (md rfl (sF rfl rfl (sF rfl rfl (sF rfl rfl (Rn.pickF (v:=(b_ false)) tv rfl rfl rfl (md rfl (sF rfl rfl (sF rfl rfl (sF rfl rfl (Rn.pickF (v:=(b_ false)) tv rfl rfl rfl (md rfl (sF rfl rfl (sF rfl rfl (sF rfl rfl (Rn.pickF (v:=(b_ false)) tv rfl rfl rfl ?_)))))))))))))))))))))))))))))))))))))))
   refine md rfl (Rn.nil ?_)
   replace h:=si h; subst h
   exact Qh [] ⟨(sm rfl),tv⟩ ⟨bS rfl rfl rfl,bS rfl rfl rfl,bS rfl rfl rfl,tv⟩ rfl
 ·obtain ⟨x27,rfl⟩ : ∃ x,x=z:=⟨_,rfl⟩
  refine Tr.ret ?_
  replace h:=si h; subst h
  exact ⟨.inr rfl,(b_ x27),rfl,fun _ _ _ _ h=>h,tv,mB⟩
theorem Qld {P:Program} {c:Nat} (hcf:Qm P c=some Qeq) (fuel:Nat):Qep P c (Qbh fuel):=by
 intro s1 r h
 refine Qbw hcf rfl fun Γ M hP hnt hM=>?_
 subst hP
 refine Tr.init [(0,.d (.int .u8 s1))] rfl ?_
 unfold Qbh at h
 unfold Qeq
 refine sr ((Rn.movTC (v:=.nils 1) tv (nt ((sr ((Rn.movTC (v:=.nils 1) tv (Rn.nil (toN ?_)))))))))
 refine Tr.cutB (fun (out12:List Int)=>⟨look [(3,(o_ out12))],Qj Γ.n0 (bxs []) M,Γ.n0+19⟩) h (fun z h=>?_) (fun z h=>?_)
 ·refine sr ((md rfl (nt ((Tr.block ?_)))))
  refine Tr.loop (mk:=fun ((out2,i3):(List Int)×Int)=>⟨look [(0,.d (.int .u8 s1)),(3,(o_ out2)),(4,(i_ i3))],Qj Γ.n0 (bxs []) M,Γ.n0+19⟩) h (by exact Qi ⟨(sm rfl),(WkV.nilsO _),(sm rfl),tv⟩ tv rfl) (fun k4 z h=>?_)
  ·obtain ⟨out2,i3⟩:=z
   replace h:_=some _:=h
   refine Tr.seq (sr ((md rfl (Rn.bin tv rfl rfl rfl (Rn.nil (toN ?_))))))
   refine Tr.cond rfl (fun hb5=>?_) (fun hb5=>?_)
   ·replace h:=ifT hb5 h
    refine Tr.skip (toN ?_)
    refine Tr.cutB (fun (out11:List Int)=>⟨look [(0,.d (.int .u8 s1)),(3,(o_ out11)),(4,(i_ i3))],Qj Γ.n0 (bxs []) M,Γ.n0+19⟩) h (fun z h=>?_) (fun z h=>?_)
    ·refine Tr.block (sr ((md rfl (md rfl ?_))))
     obtain ⟨s6,h7,h⟩:=bnd h
     refine Rn.bin tv rfl rfl (Qbhe h7) (Rn.bin tv rfl rfl rfl (Rn.bin tv rfl rfl rfl (Rn.nil (toN ?_))))
     refine Tr.cond rfl (fun hb8=>?_) (fun hb8=>?_)
     ·replace h:=bT hb8 h
      refine Tr.rgn (Rn.movTO tv rfl (md rfl (Rn.bslice (xs:=[(i_ i3)]) (cs:=[(i_ i3)]) tv rfl rfl rfl rfl ?_)))
      obtain ⟨x9,h10,h⟩:=bnd h
      refine Rn.app (e:=(eI .i64)) tv rfl rfl rfl (Qdk rfl rfl rfl) h10 rfl (Rn.movTO tv rfl (Rn.nil ?_))
      replace h:=si h; subst h
      exact Qh [16] ⟨(sm rfl),(sm rfl),(sm rfl),tv⟩ tv rfl
     ·replace h:=bF hb8 h
      refine Tr.skip ?_
      replace h:=si h; subst h
      exact Qh [] ⟨(sm rfl),(sm rfl),(sm rfl),tv⟩ tv rfl
    ·obtain ⟨out11,rfl⟩ : ∃ x,x=z:=⟨_,rfl⟩
     refine Tr.rgn (md rfl (Rn.bin tv rfl rfl rfl (md rfl (Rn.nil ?_))))
     exact ⟨_,h,(by exact Qi ⟨(sm rfl),(sm rfl),(sm rfl),tv⟩ tv rfl)⟩
   ·replace h:=ifF hb5 h
    refine Tr.exit ?_
    replace h:=si h; subst h
    exact Qh [] ⟨(sm rfl),tv⟩ tv rfl
 ·obtain ⟨out12,rfl⟩ : ∃ x,x=z:=⟨_,rfl⟩
  refine sr ((Rn.movTO tv rfl (Rn.movTO tv rfl (nt ((Tr.ret ?_))))))
  replace h:=si h; subst h
  exact ⟨.inr rfl,(o_ out12),rfl,fun _ _ _ _ h=>h,tv,mB⟩
theorem Qsa {P:Program} {c:Nat} (hcf:Qm P c=some Qg3):Qew P c (Qs):=by
 intro alphabet1 r h
 refine Qbw hcf rfl fun Γ M hP hnt hM=>?_
 subst hP
 refine Tr.init [(0,(l_ alphabet1))] rfl ?_
 unfold Qs at h
 unfold Qg3
 refine sr ((Rn.alloc tv rfl (nt ((sr ((Rn.bslice (xs:=[]) (cs:=[]) tv rfl rfl rfl rfl (md rfl ?_))))))))
 obtain ⟨x2,h3,h⟩:=bnd h
 refine Rn.app0 (e:=(eI .i64)) tv rfl rfl rfl rfl Qbck h3 rfl (Rn.buildT (v:=.agg [(o_ x2),(i_ 0),.nils 1,.nils 3]) tv rfl (Rn.storeT (v:=.agg [(o_ x2),(i_ 0),.nils 1,.nils 3]) (ds:=[(o_ x2),(i_ 0),.nils 1,.nils 3]) (cs':=[(o_ x2),(i_ 0),.nils 1,.nils 3]) tv rfl rfl rfl rfl rfl rfl rfl (nt ((Tr.ret ?_)))))
 replace h:=si h; subst h
 exact ⟨.inr rfl,(.agg [(l_ x2),(i_ 0),.nils 1,.nils 3]),Qeo rfl rfl rfl rfl,fun _ _ _ _ h=>h,⟨tv,tv,tv,tv,tv⟩,mB⟩
theorem Quu {P:Program} {c:Nat} (hcf:Qm P c=some Qhn) (fuel:Nat):Qfg P c (Qz fuel):=by
 intro a1 state2 event3 r h
 refine Qbw hcf rfl fun Γ M hP hnt hM=>?_
 subst hP
 refine Tr.init [(0,(Qb a1)),(1,(i_ state2)),(2,(i_ event3))] rfl ?_
 unfold Qz at h
 unfold Qhn
 refine sr ((Rn.box (v:=(Qb a1)) (cs:=(Qc a1)) tv rfl rfl rfl rfl rfl (md rfl (nt ((Tr.seq (sr ((md rfl (nt ((Tr.block ?_))))))))))))
 refine Tr.loop (mk:=fun (i4:Int)=>⟨look [(1,(i_ state2)),(2,(i_ event3)),(3,.ptr (Γ.n0+3) 0),(7,(i_ i4))],Qj Γ.n0 (bxs [(3,.cells ((Qc a1)))]) M,Γ.n0+39⟩) h (by exact Qi ⟨(sm rfl),(sm rfl),(kPtr rfl),(sm rfl),tv⟩ ⟨bS rfl rfl rfl,tv⟩ rfl) (fun k5 z h=>?_)
 ·obtain ⟨i4,rfl⟩ : ∃ x,x=z:=⟨_,rfl⟩
  replace h:_=some _:=h
  refine Tr.seq (sr ((md rfl (Rn.fldP (o':=3) tv rfl rfl (lB (v:=(Ql a1.zC)) rfl rfl rfl rfl (Rn.lenD tv rfl (Rn.bin tv rfl rfl rfl (Rn.nil (toN ?_)))))))))
  refine Tr.cond rfl (fun hb6=>?_) (fun hb6=>?_)
  ·replace h:=ifT hb6 h
   refine Tr.skip (toN (Tr.seq (Tr.block ?_)))
   refine Tr.cutB (fun (x12:Bool)=>⟨look [(1,(i_ state2)),(2,(i_ event3)),(3,.ptr (Γ.n0+3) 0),(7,(i_ i4)),(32,(b_ x12))],Qj Γ.n0 (bxs [(3,.cells ((Qc a1)))]) M,Γ.n0+39⟩) h (fun z h=>?_) (fun z h=>?_)
   ·refine Tr.rgn (Rn.fldP (o':=3) tv rfl rfl (lB (v:=(Ql a1.zC)) rfl rfl rfl rfl (md rfl ?_)))
    obtain ⟨x7,h8,h⟩:=bnd h
    refine Rn.idxD (e:=Qb4) tv rfl rfl h8 (Rn.fldC tv rfl (Rn.loadC (x:=.int .i64 x7.From) tv rfl (md rfl (Rn.bin tv rfl rfl rfl (md rfl ?_)))))
    refine Qcb (x7.From == state2) (fun hb9=>?_) (fun hb9=>?_)
    ·replace h:=bT hb9 h
     refine Rn.fldP (o':=3) (gw rfl hb9) rfl rfl (Rn.load (v:=(Ql a1.zC)) (gw rfl hb9) rfl (Qbv rfl) rfl rfl (Rn.movD (gw rfl hb9) rfl ?_))
     obtain ⟨x10,h11,h⟩:=bnd h
     refine Rn.idxD (e:=Qb4) (gw rfl hb9) rfl rfl h11 (Rn.fldC (gw rfl hb9) rfl (Rn.loadC (x:=.int .i64 x10.Event) (gw rfl hb9) rfl (Rn.movD (gw rfl hb9) rfl (Rn.bin (gw rfl hb9) rfl rfl rfl (Rn.pickT (v:=(b_ (x10.Event == event3))) tv rfl hb9 rfl (Rn.nil ?_))))))
     replace h:=si h; subst h
     exact Qh [] ⟨(sm rfl),(sm rfl),(kPtr rfl),(sm rfl),(sm rfl),tv⟩ ⟨bS rfl rfl rfl,tv⟩ rfl
    ·replace h:=bF hb9 h
     refine Rn.sk (nw rfl hb9) (Rn.sk (nw rfl hb9) (Rn.sk (nw rfl hb9) (Rn.sk (nw rfl hb9) (Rn.sk (nw rfl hb9) (Rn.sk (nw rfl hb9) (Rn.sk (nw rfl hb9) (Rn.sk (nw rfl hb9) (Rn.pickF (v:=(b_ false)) tv rfl hb9 rfl (Rn.nil ?_)))))))))
     replace h:=si h; subst h
     exact Qh [] ⟨(sm rfl),(sm rfl),(kPtr rfl),(sm rfl),(sm rfl),tv⟩ ⟨bS rfl rfl rfl,tv⟩ rfl
   ·obtain ⟨x12,rfl⟩ : ∃ x,x=z:=⟨_,rfl⟩
    refine Tr.cond rfl (fun hb13=>?_) (fun hb13=>?_)
    ·replace h:=bT hb13 h
     refine sr ((Rn.fldP (o':=3) tv rfl rfl (lB (v:=(Ql a1.zC)) rfl rfl rfl rfl (md rfl ?_))))
     obtain ⟨x14,h15,h⟩:=bnd h
     refine Rn.idxD (e:=Qb4) tv rfl rfl h15 (Rn.fldC tv rfl (Rn.loadC (x:=.int .i64 x14.To) tv rfl (md rfl (nt ((Tr.ret ?_))))))
     replace h:=si h; subst h
     exact ⟨.inr rfl,(i_ x14.To),rfl,fun _ _ _ _ h=>h,tv,mB⟩
    ·replace h:=bF hb13 h
     refine Tr.skip (toN (Tr.rgn (md rfl (Rn.bin tv rfl rfl rfl (md rfl (Rn.nil ?_))))))
     exact ⟨_,h,(by exact Qi ⟨(sm rfl),(sm rfl),(kPtr rfl),(sm rfl),tv⟩ ⟨bS rfl rfl rfl,tv⟩ rfl)⟩
  ·replace h:=ifF hb6 h
   refine Tr.exit (toN (sr ((md rfl (nt ((Tr.ret ?_)))))))
   replace h:=si h; subst h
   exact ⟨.inr rfl,(i_ (-1)),rfl,fun _ _ _ _ h=>h,tv,mB⟩
theorem Qwz {P:Program} {c:Nat} (hcf:Qm P c=some Qib) (fuel:Nat):Qfw P c (Q5 fuel):=by
 intro l1 n2 r h
 refine Qbw hcf rfl fun Γ M hP hnt hM=>?_
 subst hP
 refine Tr.init [(0,(l_ l1)),(1,(i_ n2))] rfl ?_
 unfold Q5 at h
 unfold Qib
 refine sr ((md rfl (nt ((Tr.seq (sr ((md rfl (nt ((Tr.block ?_)))))))))))
 refine Tr.loop (mk:=fun (i3:Int)=>⟨look [(0,(l_ l1)),(1,(i_ n2)),(5,(i_ i3))],Qj Γ.n0 (bxs []) M,Γ.n0+18⟩) h (by exact Qi ⟨(sm rfl),(sm rfl),(sm rfl),tv⟩ tv rfl) (fun k4 z h=>?_)
 ·obtain ⟨i3,rfl⟩ : ∃ x,x=z:=⟨_,rfl⟩
  replace h:_=some _:=h
  refine Tr.seq (sr ((md rfl (md rfl (Rn.lenD tv rfl (Rn.bin tv rfl rfl rfl (Rn.nil (toN ?_))))))))
  refine Tr.cond rfl (fun hb5=>?_) (fun hb5=>?_)
  ·replace h:=ifT hb5 h
   refine Tr.skip (toN (Tr.seq (Tr.block (sr ((md rfl (md rfl ?_)))))))
   obtain ⟨x6,h7,h⟩:=bnd h
   refine Rn.idxD (e:=(eI .i64)) tv rfl rfl h7 (Rn.loadC (x:=.int .i64 x6) tv rfl (md rfl (Rn.bin tv rfl rfl rfl (Rn.nil (toN ?_)))))
   refine Tr.cond rfl (fun hb8=>?_) (fun hb8=>?_)
   ·replace h:=bT hb8 h
    refine sr ((md rfl (nt ((Tr.ret ?_)))))
    replace h:=si h; subst h
    exact ⟨.inr rfl,(b_ true),rfl,fun _ _ _ _ h=>h,tv,mB⟩
   ·replace h:=bF hb8 h
    refine Tr.skip (toN (Tr.rgn (md rfl (Rn.bin tv rfl rfl rfl (md rfl (Rn.nil ?_))))))
    exact ⟨_,h,(by exact Qi ⟨(sm rfl),(sm rfl),(sm rfl),tv⟩ tv rfl)⟩
  ·replace h:=ifF hb5 h
   refine Tr.exit (toN (sr ((md rfl (nt ((Tr.ret ?_)))))))
   replace h:=si h; subst h
   exact ⟨.inr rfl,(b_ false),rfl,fun _ _ _ _ h=>h,tv,mB⟩
theorem Qsb {P:Program} {c:Nat} {Q5:(List Int)→Int→Option Bool} {Qz:Qa→Int→Int→Option Int}
    (H_overseerref03_has:Qfw P 37 Q5)
    (H_overseerref03_Step:Qfg P 38 Qz) (hcf:Qm P c=some Qg5) (fuel:Nat):Qg4 P c (Qbr Q5 Qz fuel):=by
 intro a1 r h
 refine Qbw hcf rfl fun Γ M hP hnt hM=>?_
 subst hP
 refine Tr.init [(0,(Qb a1))] rfl ?_
 unfold Qbr at h
 unfold Qg5
 refine sr ((Rn.box (v:=(Qb a1)) (cs:=(Qc a1)) tv rfl rfl rfl rfl rfl (Rn.movTC (v:=.nils 1) tv (nt ((sr ((Rn.movTC (v:=.nils 1) tv (Rn.nil (toN ?_))))))))))
 refine Tr.cutB (fun (out5:List Int)=>⟨look [(1,.ptr (Γ.n0+1) 0),(3,(o_ out5))],Qj Γ.n0 (bxs [(1,.cells ((Qc a1)))]) M,Γ.n0+50⟩) h (fun z h=>?_) (fun z h=>?_)
 ·refine sr ((Rn.fldP (o':=1) tv rfl rfl (lB (v:=(i_ a1.zD)) rfl rfl rfl rfl (Rn.bin tv rfl rfl rfl (Rn.nil (toN ?_))))))
  refine Tr.cond rfl (fun hb2=>?_) (fun hb2=>?_)
  ·replace h:=ifT hb2 h
   refine Tr.rgn (Rn.movTF (v:=.nils 1) tv rfl rfl (Rn.bslice (xs:=[(i_ 0)]) (cs:=[(i_ 0)]) tv rfl rfl rfl rfl ?_))
   refine Rn.weak (by show WeakSt Γ _ ⟨look [(0,(Qb a1)),(1,.ptr (Γ.n0+1) 0),(2,.nils 1),(3,.nils 1),(7,.ptr (Γ.n0+1) 1),(8,(i_ a1.zD)),(9,(b_ (decide (a1.zD > 0)))),(10,.own 1 (List.map (eI .i64) [])),(11,.sl 1 (Γ.n0+11) 0 1 1)],Qj Γ.n0 (bxs [(1,.cells ((Qc a1))),(11,.cells ([(i_ 0)]))]) M,Γ.n0+50⟩; exact Qh [] ⟨(sm rfl),(kPtr rfl),(sm rfl),(sm rfl),(kPtr rfl),(sm rfl),(sm rfl),(WkV.nilsO _),(kSl rfl),tv⟩ ⟨bS rfl rfl rfl,bS rfl rfl rfl,tv⟩ rfl) ?_
   obtain ⟨x3,h4,h⟩:=bnd h
   refine Rn.app (e:=(eI .i64)) tv rfl rfl rfl (Qdk rfl rfl rfl) h4 rfl (Rn.movTO tv rfl (Rn.nil ?_))
   replace h:=si h; subst h
   exact Qh [11] ⟨(kPtr rfl),(sm rfl),tv⟩ ⟨bS rfl rfl rfl,tv⟩ rfl
  ·replace h:=ifF hb2 h
   refine Tr.skip ?_
   replace h:=si h; subst h
   exact Qh [] ⟨(kPtr rfl),(WkV.nilsO _),tv⟩ ⟨bS rfl rfl rfl,tv⟩ rfl
 ·obtain ⟨out5,rfl⟩ : ∃ x,x=z:=⟨_,rfl⟩
  refine Tr.cutB (fun (out29:List Int)=>⟨look [(3,(o_ out29))],Qj Γ.n0 (bxs [(1,.cells ((Qc a1)))]) M,Γ.n0+50⟩) h (fun z h=>?_) (fun z h=>?_)
  ·refine sr ((md rfl (nt ((Tr.block ?_)))))
   refine Tr.loop (mk:=fun ((out6,i7):(List Int)×Int)=>⟨look [(1,.ptr (Γ.n0+1) 0),(3,(o_ out6)),(4,(i_ i7))],Qj Γ.n0 (bxs [(1,.cells ((Qc a1)))]) M,Γ.n0+50⟩) h (by exact Qi ⟨(kPtr rfl),(sm rfl),(sm rfl),tv⟩ ⟨bS rfl rfl rfl,tv⟩ rfl) (fun k8 z h=>?_)
   ·obtain ⟨out6,i7⟩:=z
    replace h:_=some _:=h
    refine Tr.seq (sr ((md rfl (Rn.mov (v:=(l_ out6)) tv rfl (Rn.lenD tv rfl (Rn.bin tv rfl rfl rfl (Rn.nil (toN ?_))))))))
    refine Tr.cond rfl (fun hb9=>?_) (fun hb9=>?_)
    ·replace h:=ifT hb9 h
     refine Tr.skip (toN ?_)
     refine Tr.cutB (fun (out28:List Int)=>⟨look [(1,.ptr (Γ.n0+1) 0),(3,(o_ out28)),(4,(i_ i7))],Qj Γ.n0 (bxs [(1,.cells ((Qc a1)))]) M,Γ.n0+50⟩) h (fun z h=>?_) (fun z h=>?_)
     ·refine Tr.block (sr ((md rfl (nt ((Tr.block ?_))))))
      refine Tr.loop (mk:=fun ((out10,k11):(List Int)×Int)=>⟨look [(1,.ptr (Γ.n0+1) 0),(3,(o_ out10)),(4,(i_ i7)),(5,(i_ k11))],Qj Γ.n0 (bxs [(1,.cells ((Qc a1)))]) M,Γ.n0+50⟩) h (by exact Qi ⟨(kPtr rfl),(sm rfl),(sm rfl),(sm rfl),tv⟩ ⟨bS rfl rfl rfl,tv⟩ rfl) (fun k12 z h=>?_)
      ·obtain ⟨out10,k11⟩:=z
       replace h:_=some _:=h
       refine Tr.seq (sr ((md rfl (Rn.fldP (o':=0) tv rfl rfl (lB (v:=(l_ a1.zA)) rfl rfl rfl rfl (Rn.lenD tv rfl (Rn.bin tv rfl rfl rfl (Rn.nil (toN ?_)))))))))
       refine Tr.cond rfl (fun hb13=>?_) (fun hb13=>?_)
       ·replace h:=ifT hb13 h
        refine Tr.skip (toN ?_)
        refine Tr.cutB (fun (out27:List Int)=>⟨look [(1,.ptr (Γ.n0+1) 0),(3,(o_ out27)),(4,(i_ i7)),(5,(i_ k11))],Qj Γ.n0 (bxs [(1,.cells ((Qc a1)))]) M,Γ.n0+50⟩) h (fun z h=>?_) (fun z h=>?_)
        ·refine Tr.block (Tr.seq ?_)
         refine Tr.rgnD (by decide) ?_
         refine lB (v:=(Qb a1)) rfl rfl rfl rfl (Rn.mov (v:=(l_ out10)) tv rfl (md rfl ?_))
         obtain ⟨x14,h15,h⟩:=bnd h
         refine Rn.idxD (e:=(eI .i64)) tv rfl rfl h15 (Rn.loadC (x:=.int .i64 x14) tv rfl (Rn.fldP (o':=0) tv rfl rfl (lB (v:=(l_ a1.zA)) rfl rfl rfl rfl (md rfl ?_))))
         obtain ⟨x16,h17,h⟩:=bnd h
         refine Rn.idxD (e:=(eI .i64)) tv rfl rfl h17 (Rn.loadC (x:=.int .i64 x16) tv rfl ?_)
         obtain ⟨x19,h18,h⟩:=bnd h
         refine Rn.call (args:=[(Qb a1),(i_ x14),(i_ x16)]) tv rfl (H_overseerref03_Step _ _ _ _ h18) pc0 (md rfl ?_)
         refine Rn.nil ⟨rfl,?_⟩
         refine toN ?_
         refine Tr.cutB (fun (x23:Bool)=>⟨look [(1,.ptr (Γ.n0+1) 0),(3,(o_ out10)),(4,(i_ i7)),(5,(i_ k11)),(6,(i_ x19)),(44,(b_ x23))],Qj Γ.n0 (bxs [(1,.cells ((Qc a1)))]) M,Γ.n0+50⟩) h (fun z h=>?_) (fun z h=>?_)
         ·refine Tr.rgn (md rfl (Rn.bin tv rfl rfl rfl (md rfl ?_)))
          refine Qcb (decide (x19≥0)) (fun hb20=>?_) (fun hb20=>?_)
          ·replace h:=ifT hb20 h
           refine Rn.mov (v:=(l_ out10)) (gw rfl hb20) rfl (Rn.movD (gw rfl hb20) rfl ?_)
           obtain ⟨x22,h21,h⟩:=bnd h
           refine Rn.call (args:=[(l_ out10),(i_ x19)]) (gw rfl hb20) rfl (H_overseerref03_has _ _ _ h21) pc9 (Rn.un (gw rfl hb20) rfl rfl (Rn.pickT (v:=(b_ (!x22))) tv rfl hb20 rfl (Rn.nil ?_)))
           replace h:=si h; subst h
           exact Qh [] ⟨(kPtr rfl),(sm rfl),(sm rfl),(sm rfl),(sm rfl),(sm rfl),tv⟩ ⟨bS rfl rfl rfl,tv⟩ rfl
          ·replace h:=ifF hb20 h
           refine Rn.sk (nw rfl hb20) (Rn.sk (nw rfl hb20) (Rn.sk (nw rfl hb20) (Rn.sk (nw rfl hb20) (Rn.pickF (v:=(b_ false)) tv rfl hb20 rfl (Rn.nil ?_)))))
           replace h:=si h; subst h
           exact Qh [] ⟨(kPtr rfl),(sm rfl),(sm rfl),(sm rfl),(sm rfl),(sm rfl),tv⟩ ⟨bS rfl rfl rfl,tv⟩ rfl
         ·obtain ⟨x23,rfl⟩ : ∃ x,x=z:=⟨_,rfl⟩
          refine Tr.cond rfl (fun hb24=>?_) (fun hb24=>?_)
          ·replace h:=bT hb24 h
           refine Tr.rgn (Rn.movTO tv rfl (md rfl (Rn.bslice (xs:=[(i_ x19)]) (cs:=[(i_ x19)]) tv rfl rfl rfl rfl ?_)))
           obtain ⟨x25,h26,h⟩:=bnd h
           refine Rn.app (e:=(eI .i64)) tv rfl rfl rfl (Qdk rfl rfl rfl) h26 rfl (Rn.movTO tv rfl (Rn.nil ?_))
           replace h:=si h; subst h
           exact Qh [47] ⟨(kPtr rfl),(sm rfl),(sm rfl),(sm rfl),tv⟩ ⟨bS rfl rfl rfl,tv⟩ rfl
          ·replace h:=bF hb24 h
           refine Tr.skip ?_
           replace h:=si h; subst h
           exact Qh [] ⟨(kPtr rfl),(sm rfl),(sm rfl),(sm rfl),tv⟩ ⟨bS rfl rfl rfl,tv⟩ rfl
        ·obtain ⟨out27,rfl⟩ : ∃ x,x=z:=⟨_,rfl⟩
         refine Tr.rgn (md rfl (Rn.bin tv rfl rfl rfl (md rfl (Rn.nil ?_))))
         exact ⟨_,h,(by exact Qi ⟨(kPtr rfl),(sm rfl),(sm rfl),(sm rfl),tv⟩ ⟨bS rfl rfl rfl,tv⟩ rfl)⟩
       ·replace h:=ifF hb13 h
        refine Tr.exit ?_
        replace h:=si h; subst h
        exact Qh [] ⟨(kPtr rfl),(sm rfl),(sm rfl),tv⟩ ⟨bS rfl rfl rfl,tv⟩ rfl
     ·obtain ⟨out28,rfl⟩ : ∃ x,x=z:=⟨_,rfl⟩
      refine Tr.rgn (md rfl (Rn.bin tv rfl rfl rfl (md rfl (Rn.nil ?_))))
      exact ⟨_,h,(by exact Qi ⟨(kPtr rfl),(sm rfl),(sm rfl),tv⟩ ⟨bS rfl rfl rfl,tv⟩ rfl)⟩
    ·replace h:=ifF hb9 h
     refine Tr.exit ?_
     replace h:=si h; subst h
     exact Qh [] ⟨(sm rfl),tv⟩ ⟨bS rfl rfl rfl,tv⟩ rfl
  ·obtain ⟨out29,rfl⟩ : ∃ x,x=z:=⟨_,rfl⟩
   refine sr ((Rn.movTO tv rfl (Rn.movTO tv rfl (nt ((Tr.ret ?_))))))
   replace h:=si h; subst h
   exact ⟨.inr rfl,(o_ out29),rfl,fun _ _ _ _ h=>h,tv,mB⟩
theorem Qsc {P:Program} {c:Nat} (hcf:Qm P c=some Qg7) (fuel:Nat):Qg6 P c (Qbs fuel):=by
 intro l1 n2 r h
 refine Qbw hcf rfl fun Γ M hP hnt hM=>?_
 subst hP
 refine Tr.init [(0,(l_ l1)),(1,(i_ n2))] rfl ?_
 unfold Qbs at h
 unfold Qg7
 refine sr ((md rfl (nt ((Tr.seq (sr ((md rfl (nt ((Tr.block ?_)))))))))))
 refine Tr.loop (mk:=fun (i3:Int)=>⟨look [(0,(l_ l1)),(1,(i_ n2)),(5,(i_ i3))],Qj Γ.n0 (bxs []) M,Γ.n0+19⟩) h (by exact Qi ⟨(sm rfl),(sm rfl),(sm rfl),tv⟩ tv rfl) (fun k4 z h=>?_)
 ·obtain ⟨i3,rfl⟩ : ∃ x,x=z:=⟨_,rfl⟩
  replace h:_=some _:=h
  refine Tr.seq (sr ((md rfl (md rfl (Rn.lenD tv rfl (Rn.bin tv rfl rfl rfl (Rn.nil (toN ?_))))))))
  refine Tr.cond rfl (fun hb5=>?_) (fun hb5=>?_)
  ·replace h:=ifT hb5 h
   refine Tr.skip (toN (Tr.seq (Tr.block (sr ((md rfl (md rfl ?_)))))))
   obtain ⟨x6,h7,h⟩:=bnd h
   refine Rn.idxD (e:=(eI .i64)) tv rfl rfl h7 (Rn.loadC (x:=.int .i64 x6) tv rfl (md rfl (Rn.bin tv rfl rfl rfl (Rn.nil (toN ?_)))))
   refine Tr.cond rfl (fun hb8=>?_) (fun hb8=>?_)
   ·replace h:=bT hb8 h
    refine sr ((md rfl (md rfl (nt ((Tr.ret ?_))))))
    replace h:=si h; subst h
    exact ⟨.inr rfl,(i_ i3),rfl,fun _ _ _ _ h=>h,tv,mB⟩
   ·replace h:=bF hb8 h
    refine Tr.skip (toN (Tr.rgn (md rfl (Rn.bin tv rfl rfl rfl (md rfl (Rn.nil ?_))))))
    exact ⟨_,h,(by exact Qi ⟨(sm rfl),(sm rfl),(sm rfl),tv⟩ tv rfl)⟩
  ·replace h:=ifF hb5 h
   refine Tr.exit (toN (sr ((md rfl (nt ((Tr.ret ?_)))))))
   replace h:=si h; subst h
   exact ⟨.inr rfl,(i_ (-1)),rfl,fun _ _ _ _ h=>h,tv,mB⟩
theorem Ql6 {P:Program} {c:Nat} {Qs:(List Int)→Option Qa} {Qbr:Qa→Option ((List Int))} {Q5:(List Int)→Int→Option Bool} {Qz:Qa→Int→Int→Option Int} {Qbs:(List Int)→Int→Option Int}
    (H_overseerref03_Empty:Qew P 17 Qs)
    (H_overseerref03_Found:Qg4 P 36 Qbr)
    (H_overseerref03_has:Qfw P 37 Q5)
    (H_overseerref03_Step:Qfg P 38 Qz)
    (H_overseerref03_index:Qg6 P 39 Qbs) (hcf:Qm P c=some Qe8) (fuel:Nat):Qe7 P c (Qbb Qs Qbr Q5 Qz Qbs fuel):=by
 intro a1 r h
 refine Qbw hcf rfl fun Γ M hP hnt hM=>?_
 subst hP
 refine Tr.init [(0,(Qb a1))] rfl ?_
 unfold Qbb at h
 unfold Qe8
 refine sr ((Rn.box (v:=(Qb a1)) (cs:=(Qc a1)) tv rfl rfl rfl rfl rfl (Rn.alloc tv rfl (nt ((sr ((lB (v:=(Qb a1)) rfl rfl rfl rfl ?_))))))))
 obtain ⟨x3,h2,h⟩:=bnd h
 refine Rn.call (args:=[(Qb a1)]) tv rfl (H_overseerref03_Found _ _ h2) pc9 (Rn.movTO tv rfl (nt ((sr ((Rn.fldP (o':=0) tv rfl rfl (lB (v:=(l_ a1.zA)) rfl rfl rfl rfl ?_)))))))
 obtain ⟨x5,h4,h⟩:=bnd h
 refine Rn.call (args:=[(l_ a1.zA)]) tv rfl (H_overseerref03_Empty _ _ h4) pc9 (Rn.alloc tv rfl (Rn.storeT (v:=.agg [(l_ x5.zA),(i_ x5.zD),.nils 1,.nils 3]) (ds:=[(l_ x5.zA),(i_ x5.zD),.nils 1,.nils 3]) (cs':=[(l_ x5.zA),(i_ x5.zD),.nils 1,.nils 3]) tv rfl rfl rfl rfl rfl rfl rfl (nt ((sr ((Rn.mov (v:=(l_ x3)) tv rfl (Rn.lenD tv rfl (Rn.fldP (o':=1) tv rfl rfl (Rn.store (v:=(i_ (x3.length:Int))) (cs':=[(l_ x5.zA),(i_ (x3.length:Int)),.nils 1,.nils 3]) tv rfl rfl rfl rfl rfl rfl (Rn.nil (toN ?_))))))))))))
 refine Tr.cutB (fun ((c42,c43,c44,out45,out46):(List Int)×(List Int)×(List Qd)×(List Int)×(List Qd))=>⟨look [(2,.ptr (Γ.n0+2) 0),(4,.ptr (Γ.n0+4) 0)],Qj Γ.n0 (bxs [(1,.cells ((Qc a1))),(2,.cells ([(o_ c42),(i_ 0),(o_ c43),(Qk c44)])),(4,.cells ([(l_ x5.zA),(i_ (x3.length:Int)),(o_ out45),(Qk out46)]))]) M,Γ.n0+71⟩) h (fun z h=>?_) (fun z h=>?_)
 ·refine sr ((md rfl (nt ((Tr.block ?_)))))
  refine Tr.loop (mk:=fun ((i6,c7,c8,c9,out10,out11):Int×(List Int)×(List Int)×(List Qd)×(List Int)×(List Qd))=>⟨look [(1,.ptr (Γ.n0+1) 0),(2,.ptr (Γ.n0+2) 0),(3,(o_ x3)),(4,.ptr (Γ.n0+4) 0),(5,(i_ i6))],Qj Γ.n0 (bxs [(1,.cells ((Qc a1))),(2,.cells ([(o_ c7),(i_ 0),(o_ c8),(Qk c9)])),(4,.cells ([(l_ x5.zA),(i_ (x3.length:Int)),(o_ out10),(Qk out11)]))]) M,Γ.n0+71⟩) h (by exact Qi ⟨(kPtr rfl),(kPtr rfl),(sm rfl),(kPtr rfl),(sm rfl),tv⟩ ⟨bS rfl rfl rfl,⟨_,rfl,rfl,(.cons (WkV.nilsO _) (cS rfl (.cons (WkV.nilsO _) (.cons (WkV.nilsO _) .nil))))⟩,⟨_,rfl,rfl,(cS rfl (cS rfl (.cons (WkV.nilsO _) (.cons (WkV.nilsO _) .nil))))⟩,tv⟩ rfl) (fun k12 z h=>?_)
  ·obtain ⟨i6,c7,c8,c9,out10,out11⟩:=z
   replace h:_=some _:=h
   refine Tr.seq (sr ((md rfl (Rn.mov (v:=(l_ x3)) tv rfl (Rn.lenD tv rfl (Rn.bin tv rfl rfl rfl (Rn.nil (toN ?_))))))))
   refine Tr.cond rfl (fun hb13=>?_) (fun hb13=>?_)
   ·replace h:=ifT hb13 h
    refine Tr.skip (toN ?_)
    refine Tr.cutB (fun ((out40,out41):(List Int)×(List Qd))=>⟨look [(1,.ptr (Γ.n0+1) 0),(2,.ptr (Γ.n0+2) 0),(3,(o_ x3)),(4,.ptr (Γ.n0+4) 0),(5,(i_ i6))],Qj Γ.n0 (bxs [(1,.cells ((Qc a1))),(2,.cells ([(o_ c7),(i_ 0),(o_ c8),(Qk c9)])),(4,.cells ([(l_ x5.zA),(i_ (x3.length:Int)),(o_ out40),(Qk out41)]))]) M,Γ.n0+71⟩) h (fun z h=>?_) (fun z h=>?_)
    ·refine Tr.block ?_
     refine Tr.cutB (fun (out21:List Int)=>⟨look [(1,.ptr (Γ.n0+1) 0),(2,.ptr (Γ.n0+2) 0),(3,(o_ x3)),(4,.ptr (Γ.n0+4) 0),(5,(i_ i6))],Qj Γ.n0 (bxs [(1,.cells ((Qc a1))),(2,.cells ([(o_ c7),(i_ 0),(o_ c8),(Qk c9)])),(4,.cells ([(l_ x5.zA),(i_ (x3.length:Int)),(o_ out21),(Qk out11)]))]) M,Γ.n0+71⟩) h (fun z h=>?_) (fun z h=>?_)
     ·refine Tr.seq ?_
      refine Tr.rgnD (by decide) ?_
      refine Rn.fldP (o':=2) tv rfl rfl (lB (v:=(l_ a1.zB)) rfl rfl rfl rfl (Rn.mov (v:=(l_ x3)) tv rfl (md rfl ?_)))
      obtain ⟨x14,h15,h⟩:=bnd h
      refine Rn.idxD (e:=(eI .i64)) tv rfl rfl h15 (Rn.loadC (x:=.int .i64 x14) tv rfl ?_)
      obtain ⟨x17,h16,h⟩:=bnd h
      refine Rn.call (args:=[(l_ a1.zB),(i_ x14)]) tv rfl (H_overseerref03_has _ _ _ h16) pc0 ?_
      refine Rn.nil ⟨rfl,?_⟩
      refine toN ?_
      refine Tr.cond rfl (fun hb18=>?_) (fun hb18=>?_)
      ·replace h:=bT hb18 h
       refine Tr.rgn (Rn.fldP (o':=2) tv rfl rfl (Rn.loadT (cs':=[(l_ x5.zA),(i_ (x3.length:Int)),(l_ out10),(Qk out11)]) tv rfl rfl rfl rfl (md rfl (Rn.bslice (xs:=[(i_ i6)]) (cs:=[(i_ i6)]) tv rfl rfl rfl rfl ?_))))
       obtain ⟨x19,h20,h⟩:=bnd h
       refine Rn.app (e:=(eI .i64)) tv rfl rfl rfl (Qdk rfl rfl rfl) h20 rfl (Rn.fldP (o':=2) tv rfl rfl (Rn.storeO (cs':=[(l_ x5.zA),(i_ (x3.length:Int)),(o_ x19),(Qk out11)]) tv rfl rfl rfl rfl rfl (Rn.nil ?_)))
       replace h:=si h; subst h
       exact Qh [32] ⟨(kPtr rfl),(kPtr rfl),(sm rfl),(kPtr rfl),(sm rfl),tv⟩ ⟨bS rfl rfl rfl,bS rfl rfl rfl,bS rfl rfl rfl,tv⟩ rfl
      ·replace h:=bF hb18 h
       refine Tr.skip ?_
       replace h:=si h; subst h
       exact Qh [] ⟨(kPtr rfl),(kPtr rfl),(sm rfl),(kPtr rfl),(sm rfl),tv⟩ ⟨bS rfl rfl rfl,bS rfl rfl rfl,bS rfl rfl rfl,tv⟩ rfl
     ·obtain ⟨out21,rfl⟩ : ∃ x,x=z:=⟨_,rfl⟩
      refine sr ((md rfl (nt ((Tr.block ?_)))))
      refine Tr.loop (mk:=fun ((k22,out23):Int×(List Qd))=>⟨look [(1,.ptr (Γ.n0+1) 0),(2,.ptr (Γ.n0+2) 0),(3,(o_ x3)),(4,.ptr (Γ.n0+4) 0),(5,(i_ i6)),(6,(i_ k22))],Qj Γ.n0 (bxs [(1,.cells ((Qc a1))),(2,.cells ([(o_ c7),(i_ 0),(o_ c8),(Qk c9)])),(4,.cells ([(l_ x5.zA),(i_ (x3.length:Int)),(o_ out21),(Qk out23)]))]) M,Γ.n0+71⟩) h (by exact Qi ⟨(kPtr rfl),(kPtr rfl),(sm rfl),(kPtr rfl),(sm rfl),(sm rfl),tv⟩ ⟨bS rfl rfl rfl,bS rfl rfl rfl,bS rfl rfl rfl,tv⟩ rfl) (fun k24 z h=>?_)
      ·obtain ⟨k22,out23⟩:=z
       replace h:_=some _:=h
       refine Tr.seq (sr ((md rfl (Rn.fldP (o':=0) tv rfl rfl (lB (v:=(l_ a1.zA)) rfl rfl rfl rfl (Rn.lenD tv rfl (Rn.bin tv rfl rfl rfl (Rn.nil (toN ?_)))))))))
       refine Tr.cond rfl (fun hb25=>?_) (fun hb25=>?_)
       ·replace h:=ifT hb25 h
        refine Tr.skip (toN ?_)
        refine Tr.cutB (fun (out39:List Qd)=>⟨look [(1,.ptr (Γ.n0+1) 0),(2,.ptr (Γ.n0+2) 0),(3,(o_ x3)),(4,.ptr (Γ.n0+4) 0),(5,(i_ i6)),(6,(i_ k22))],Qj Γ.n0 (bxs [(1,.cells ((Qc a1))),(2,.cells ([(o_ c7),(i_ 0),(o_ c8),(Qk c9)])),(4,.cells ([(l_ x5.zA),(i_ (x3.length:Int)),(o_ out21),(Qk out39)]))]) M,Γ.n0+71⟩) h (fun z h=>?_) (fun z h=>?_)
        ·refine Tr.block (Tr.seq ?_)
         refine Tr.rgnD (by decide) ?_
         refine lB (v:=(Qb a1)) rfl rfl rfl rfl (Rn.mov (v:=(l_ x3)) tv rfl (md rfl ?_))
         obtain ⟨x26,h27,h⟩:=bnd h
         refine Rn.idxD (e:=(eI .i64)) tv rfl rfl h27 (Rn.loadC (x:=.int .i64 x26) tv rfl (Rn.fldP (o':=0) tv rfl rfl (lB (v:=(l_ a1.zA)) rfl rfl rfl rfl (md rfl ?_))))
         obtain ⟨x28,h29,h⟩:=bnd h
         refine Rn.idxD (e:=(eI .i64)) tv rfl rfl h29 (Rn.loadC (x:=.int .i64 x28) tv rfl ?_)
         obtain ⟨x31,h30,h⟩:=bnd h
         refine Rn.call (args:=[(Qb a1),(i_ x26),(i_ x28)]) tv rfl (H_overseerref03_Step _ _ _ _ h30) pc0 (md rfl ?_)
         refine Rn.nil ⟨rfl,?_⟩
         refine toN (sr ((md rfl (Rn.bin tv rfl rfl rfl (Rn.nil (toN ?_))))))
         refine Tr.cond rfl (fun hb32=>?_) (fun hb32=>?_)
         ·replace h:=ifT hb32 h
          refine Tr.rgnD (by decide) ?_
          refine Rn.fldP (o':=3) tv rfl rfl (Rn.loadT (cs':=[(l_ x5.zA),(i_ (x3.length:Int)),(o_ out21),(Ql out23)]) tv rfl rfl rfl rfl (md rfl (Rn.fldP (o':=0) tv rfl rfl (lB (v:=(l_ a1.zA)) rfl rfl rfl rfl (md rfl ?_)))))
          obtain ⟨x33,h34,h⟩:=bnd h
          refine Rn.idxD (e:=(eI .i64)) tv rfl rfl h34 (Rn.loadC (x:=.int .i64 x33) tv rfl (Rn.mov (v:=(l_ x3)) tv rfl (md rfl ?_)))
          obtain ⟨x36,h35,h⟩:=bnd h
          refine Rn.call (args:=[(l_ x3),(i_ x31)]) tv rfl (H_overseerref03_index _ _ _ h35) pc2 (Rn.build (v:=.agg [(i_ i6),(i_ x33),(i_ x36)]) tv rfl (Rn.bslice (xs:=[.agg [(i_ i6),(i_ x33),(i_ x36)]]) (cs:=[(i_ i6),(i_ x33),(i_ x36)]) tv rfl rfl rfl rfl ?_))
          obtain ⟨x37,h38,h⟩:=bnd h
          refine Rn.app (e:=Qb4) tv rfl rfl rfl (Qdk rfl rfl rfl) h38 rfl (Rn.fldP (o':=3) tv rfl rfl (Rn.storeO (cs':=[(l_ x5.zA),(i_ (x3.length:Int)),(o_ out21),(Qk x37)]) tv rfl rfl rfl rfl rfl ?_))
          refine Rn.nil ⟨rfl,?_⟩
          replace h:=si h; subst h
          exact Qh [67] ⟨(kPtr rfl),(kPtr rfl),(sm rfl),(kPtr rfl),(sm rfl),(sm rfl),tv⟩ ⟨bS rfl rfl rfl,bS rfl rfl rfl,bS rfl rfl rfl,tv⟩ rfl
         ·replace h:=ifF hb32 h
          refine Tr.skip ?_
          replace h:=si h; subst h
          exact Qh [] ⟨(kPtr rfl),(kPtr rfl),(sm rfl),(kPtr rfl),(sm rfl),(sm rfl),tv⟩ ⟨bS rfl rfl rfl,bS rfl rfl rfl,bS rfl rfl rfl,tv⟩ rfl
        ·obtain ⟨out39,rfl⟩ : ∃ x,x=z:=⟨_,rfl⟩
         refine Tr.rgn (md rfl (Rn.bin tv rfl rfl rfl (md rfl (Rn.nil ?_))))
         exact ⟨_,h,(by exact Qi ⟨(kPtr rfl),(kPtr rfl),(sm rfl),(kPtr rfl),(sm rfl),(sm rfl),tv⟩ ⟨bS rfl rfl rfl,bS rfl rfl rfl,bS rfl rfl rfl,tv⟩ rfl)⟩
       ·replace h:=ifF hb25 h
        refine Tr.exit ?_
        replace h:=si h; subst h
        exact Qh [] ⟨(kPtr rfl),(kPtr rfl),(sm rfl),(kPtr rfl),(sm rfl),tv⟩ ⟨bS rfl rfl rfl,bS rfl rfl rfl,bS rfl rfl rfl,tv⟩ rfl
    ·obtain ⟨out40,out41⟩:=z
     refine Tr.rgn (md rfl (Rn.bin tv rfl rfl rfl (md rfl (Rn.nil ?_))))
     exact ⟨_,h,(by exact Qi ⟨(kPtr rfl),(kPtr rfl),(sm rfl),(kPtr rfl),(sm rfl),tv⟩ ⟨bS rfl rfl rfl,bS rfl rfl rfl,bS rfl rfl rfl,tv⟩ rfl)⟩
   ·replace h:=ifF hb13 h
    refine Tr.exit ?_
    replace h:=si h; subst h
    exact Qh [] ⟨(kPtr rfl),(kPtr rfl),tv⟩ ⟨bS rfl rfl rfl,bS rfl rfl rfl,bS rfl rfl rfl,tv⟩ rfl
 ·obtain ⟨c42,c43,c44,out45,out46⟩:=z
  refine sr ((lB (v:=.agg [(l_ x5.zA),(i_ (x3.length:Int)),(l_ out45),(Ql out46)]) rfl rfl rfl rfl (Rn.storeT (v:=.agg [(l_ x5.zA),(i_ (x3.length:Int)),(l_ out45),(Ql out46)]) (ds:=[(l_ x5.zA),(i_ (x3.length:Int)),(l_ out45),(Ql out46)]) (cs':=[(l_ x5.zA),(i_ (x3.length:Int)),(l_ out45),(Ql out46)]) tv rfl rfl rfl rfl rfl rfl rfl (nt ((Tr.ret ?_))))))
  replace h:=si h; subst h
  exact ⟨.inr rfl,(.agg [(l_ x5.zA),(i_ (x3.length:Int)),(l_ out45),(Ql out46)]),Qeo rfl rfl rfl rfl,fun _ _ _ _ h=>h,⟨tv,tv,tv,tv,tv⟩,mB⟩
theorem Quv {P:Program} {c:Nat} {Qs:(List Int)→Option Qa} {Qbb:Qa→Option Qa}
    (H_overseerref03_Empty:Qew P 17 Qs)
    (H_overseerref03_Canonical:Qe7 P 18 Qbb) (hcf:Qm P c=some Qhp) (fuel:Nat):Qho P c (Qb1 Qs Qbb fuel):=by
 intro alphabet1 g2 r h
 refine Qbw hcf rfl fun Γ M hP hnt hM=>?_
 subst hP
 refine Tr.init [(0,(l_ alphabet1)),(1,(Qds g2))] rfl ?_
 unfold Qb1 at h
 unfold Qhp
 refine sr ((Rn.box (v:=(Qds g2)) (cs:=(Qbi g2)) tv rfl rfl rfl rfl rfl (Rn.alloc tv rfl (nt ((Tr.seq (sr ((Rn.fldP (o':=0) tv rfl rfl (lB (v:=.d (.int .u8 g2.zD)) rfl rfl rfl rfl (Rn.bin tv rfl rfl rfl (Rn.nil (toN ?_)))))))))))))
 refine Tr.cond rfl (fun hb3=>?_) (fun hb3=>?_)
 ·replace h:=ifT hb3 h
  refine sr ((md rfl ?_))
  obtain ⟨x5,h4,h⟩:=bnd h
  refine Rn.call (args:=[(l_ alphabet1)]) tv rfl (H_overseerref03_Empty _ _ h4) pc9 (Rn.storeT (v:=.agg [(l_ x5.zA),(i_ x5.zD),.nils 1,.nils 3]) (ds:=[(l_ x5.zA),(i_ x5.zD),.nils 1,.nils 3]) (cs':=[(l_ x5.zA),(i_ x5.zD),.nils 1,.nils 3]) tv rfl rfl rfl rfl rfl rfl rfl (nt ((Tr.ret ?_))))
  replace h:=si h; subst h
  exact ⟨.inr rfl,(.agg [(l_ x5.zA),(i_ x5.zD),.nils 1,.nils 3]),Qeo rfl rfl rfl rfl,(WkV.agg (.cons (.same rfl) (.cons (.same rfl) (.cons (WkV.nilsD _) (.cons (WkV.nilsD _) .nil))))).rd,⟨tv,tv,tv,tv,tv⟩,mB⟩
 ·replace h:=ifF hb3 h
  refine Tr.skip (toN (sr ((md rfl ?_))))
  obtain ⟨x7,h6,h⟩:=bnd h
  refine Rn.call (args:=[(l_ alphabet1)]) tv rfl (H_overseerref03_Empty _ _ h6) pc9 (Rn.alloc tv rfl (Rn.storeT (v:=.agg [(l_ x7.zA),(i_ x7.zD),.nils 1,.nils 3]) (ds:=[(l_ x7.zA),(i_ x7.zD),.nils 1,.nils 3]) (cs':=[(l_ x7.zA),(i_ x7.zD),.nils 1,.nils 3]) tv rfl rfl rfl rfl rfl rfl rfl (nt ((sr ((Rn.fldP (o':=0) tv rfl rfl (lB (v:=.d (.int .u8 g2.zD)) rfl rfl rfl rfl (Rn.bin tv rfl rfl rfl (Rn.conv tv rfl (Rn.bin tv rfl rfl rfl (Rn.fldP (o':=1) tv rfl rfl (Rn.store (v:=(i_ (IntKind.wrap .i64 (1+(IntKind.wrap .i64 (Int.tmod g2.zD 5)))))) (cs':=[(l_ x7.zA),(i_ (IntKind.wrap .i64 (1+(IntKind.wrap .i64 (Int.tmod g2.zD 5))))),.nils 1,.nils 3]) tv rfl rfl rfl rfl rfl rfl (Rn.nil (toN ?_)))))))))))))))
  refine Tr.cutB (fun ((c43,c44,c45,a46,a47,a48):(List Int)×(List Int)×(List Qd)×Int×(List Int)×(List Qd))=>⟨look [(4,.ptr (Γ.n0+4) 0),(5,.ptr (Γ.n0+5) 0)],Qj Γ.n0 (bxs [(3,.cells ((Qbi g2))),(4,.cells ([(o_ c43),(i_ 0),(o_ c44),(Qk c45)])),(5,.cells ([(l_ x7.zA),(i_ a46),(o_ a47),(Qk a48)]))]) M,Γ.n0+79⟩) h (fun z h=>?_) (fun z h=>?_)
  ·refine sr ((md rfl (nt ((Tr.block ?_)))))
   refine Tr.loop (mk:=fun ((i8,c9,c10,c11,a12,a13,a14):Int×(List Int)×(List Int)×(List Qd)×Int×(List Int)×(List Qd))=>⟨look [(0,(l_ alphabet1)),(3,.ptr (Γ.n0+3) 0),(4,.ptr (Γ.n0+4) 0),(5,.ptr (Γ.n0+5) 0),(6,(i_ i8))],Qj Γ.n0 (bxs [(3,.cells ((Qbi g2))),(4,.cells ([(o_ c9),(i_ 0),(o_ c10),(Qk c11)])),(5,.cells ([(l_ x7.zA),(i_ a12),(o_ a13),(Qk a14)]))]) M,Γ.n0+79⟩) h (by exact Qi ⟨(sm rfl),(kPtr rfl),(kPtr rfl),(kPtr rfl),(sm rfl),tv⟩ ⟨bS rfl rfl rfl,⟨_,rfl,rfl,(.cons (WkV.nilsO _) (cS rfl (.cons (WkV.nilsO _) (.cons (WkV.nilsO _) .nil))))⟩,⟨_,rfl,rfl,(cS rfl (cS rfl (.cons (WkV.nilsO _) (.cons (WkV.nilsO _) .nil))))⟩,tv⟩ rfl) (fun k15 z h=>?_)
   ·obtain ⟨i8,c9,c10,c11,a12,a13,a14⟩:=z
    replace h:_=some _:=h
    refine Tr.seq (sr ((md rfl (Rn.fldP (o':=1) tv rfl rfl (lB (v:=(i_ a12)) rfl rfl rfl rfl (Rn.bin tv rfl rfl rfl (Rn.nil (toN ?_))))))))
    refine Tr.cond rfl (fun hb16=>?_) (fun hb16=>?_)
    ·replace h:=ifT hb16 h
     refine Tr.skip (toN ?_)
     refine Tr.cutB (fun ((a41,a42):(List Int)×(List Qd))=>⟨look [(0,(l_ alphabet1)),(3,.ptr (Γ.n0+3) 0),(4,.ptr (Γ.n0+4) 0),(5,.ptr (Γ.n0+5) 0),(6,(i_ i8))],Qj Γ.n0 (bxs [(3,.cells ((Qbi g2))),(4,.cells ([(o_ c9),(i_ 0),(o_ c10),(Qk c11)])),(5,.cells ([(l_ x7.zA),(i_ a12),(o_ a41),(Qk a42)]))]) M,Γ.n0+79⟩) h (fun z h=>?_) (fun z h=>?_)
     ·refine Tr.block ?_
      refine Tr.cutB (fun (a22:List Int)=>⟨look [(0,(l_ alphabet1)),(3,.ptr (Γ.n0+3) 0),(4,.ptr (Γ.n0+4) 0),(5,.ptr (Γ.n0+5) 0),(6,(i_ i8))],Qj Γ.n0 (bxs [(3,.cells ((Qbi g2))),(4,.cells ([(o_ c9),(i_ 0),(o_ c10),(Qk c11)])),(5,.cells ([(l_ x7.zA),(i_ a12),(o_ a22),(Qk a14)]))]) M,Γ.n0+79⟩) h (fun z h=>?_) (fun z h=>?_)
      ·refine sr ((Rn.fldP (o':=1) tv rfl rfl (lB (v:=.d (.int .u8 g2.Marks)) rfl rfl rfl rfl (md rfl ?_))))
       obtain ⟨s17,h18,h⟩:=bnd h
       refine Rn.bin tv rfl rfl (Qbhe h18) (Rn.bin tv rfl rfl rfl (Rn.bin tv rfl rfl rfl (Rn.nil (toN ?_))))
       refine Tr.cond rfl (fun hb19=>?_) (fun hb19=>?_)
       ·replace h:=bT hb19 h
        refine Tr.rgn (Rn.fldP (o':=2) tv rfl rfl (Rn.loadT (cs':=[(l_ x7.zA),(i_ a12),(l_ a13),(Qk a14)]) tv rfl rfl rfl rfl (md rfl (Rn.bslice (xs:=[(i_ i8)]) (cs:=[(i_ i8)]) tv rfl rfl rfl rfl ?_))))
        obtain ⟨x20,h21,h⟩:=bnd h
        refine Rn.app (e:=(eI .i64)) tv rfl rfl rfl (Qdk rfl rfl rfl) h21 rfl (Rn.fldP (o':=2) tv rfl rfl (Rn.storeO (cs':=[(l_ x7.zA),(i_ a12),(o_ x20),(Qk a14)]) tv rfl rfl rfl rfl rfl (Rn.nil ?_)))
        replace h:=si h; subst h
        exact Qh [37] ⟨(sm rfl),(kPtr rfl),(kPtr rfl),(kPtr rfl),(sm rfl),tv⟩ ⟨bS rfl rfl rfl,bS rfl rfl rfl,bS rfl rfl rfl,tv⟩ rfl
       ·replace h:=bF hb19 h
        refine Tr.skip ?_
        replace h:=si h; subst h
        exact Qh [] ⟨(sm rfl),(kPtr rfl),(kPtr rfl),(kPtr rfl),(sm rfl),tv⟩ ⟨bS rfl rfl rfl,bS rfl rfl rfl,bS rfl rfl rfl,tv⟩ rfl
      ·obtain ⟨a22,rfl⟩ : ∃ x,x=z:=⟨_,rfl⟩
       refine sr ((md rfl (nt ((Tr.block ?_)))))
       refine Tr.loop (mk:=fun ((k23,a24):Int×(List Qd))=>⟨look [(0,(l_ alphabet1)),(3,.ptr (Γ.n0+3) 0),(4,.ptr (Γ.n0+4) 0),(5,.ptr (Γ.n0+5) 0),(6,(i_ i8)),(7,(i_ k23))],Qj Γ.n0 (bxs [(3,.cells ((Qbi g2))),(4,.cells ([(o_ c9),(i_ 0),(o_ c10),(Qk c11)])),(5,.cells ([(l_ x7.zA),(i_ a12),(o_ a22),(Qk a24)]))]) M,Γ.n0+79⟩) h (by exact Qi ⟨(sm rfl),(kPtr rfl),(kPtr rfl),(kPtr rfl),(sm rfl),(sm rfl),tv⟩ ⟨bS rfl rfl rfl,bS rfl rfl rfl,bS rfl rfl rfl,tv⟩ rfl) (fun k25 z h=>?_)
       ·obtain ⟨k23,a24⟩:=z
        replace h:_=some _:=h
        refine Tr.seq ?_
        refine Tr.cutB (fun (x27:Bool)=>⟨look [(0,(l_ alphabet1)),(3,.ptr (Γ.n0+3) 0),(4,.ptr (Γ.n0+4) 0),(5,.ptr (Γ.n0+5) 0),(6,(i_ i8)),(7,(i_ k23)),(47,(b_ x27))],Qj Γ.n0 (bxs [(3,.cells ((Qbi g2))),(4,.cells ([(o_ c9),(i_ 0),(o_ c10),(Qk c11)])),(5,.cells ([(l_ x7.zA),(i_ a12),(o_ a22),(Qk a24)]))]) M,Γ.n0+79⟩) h (fun z h=>?_) (fun z h=>?_)
        ·refine Tr.rgn (md rfl (md rfl (Rn.lenD tv rfl (Rn.bin tv rfl rfl rfl (md rfl ?_)))))
         refine Qcb (decide (k23 < (alphabet1.length:Int))) (fun hb26=>?_) (fun hb26=>?_)
         ·replace h:=ifT hb26 h
          refine Rn.movD (gw rfl hb26) rfl (Rn.bin (gw rfl hb26) rfl rfl rfl (Rn.pickT (v:=(b_ (decide (k23 < 5)))) tv rfl hb26 rfl (Rn.nil ?_)))
          replace h:=si h; subst h
          exact Qh [] ⟨(sm rfl),(kPtr rfl),(kPtr rfl),(kPtr rfl),(sm rfl),(sm rfl),(sm rfl),tv⟩ ⟨bS rfl rfl rfl,bS rfl rfl rfl,bS rfl rfl rfl,tv⟩ rfl
         ·replace h:=ifF hb26 h
          refine Rn.sk (nw rfl hb26) (Rn.sk (nw rfl hb26) (Rn.pickF (v:=(b_ false)) tv rfl hb26 rfl (Rn.nil ?_)))
          replace h:=si h; subst h
          exact Qh [] ⟨(sm rfl),(kPtr rfl),(kPtr rfl),(kPtr rfl),(sm rfl),(sm rfl),(sm rfl),tv⟩ ⟨bS rfl rfl rfl,bS rfl rfl rfl,bS rfl rfl rfl,tv⟩ rfl
        ·obtain ⟨x27,rfl⟩ : ∃ x,x=z:=⟨_,rfl⟩
         refine Tr.cond rfl (fun hb28=>?_) (fun hb28=>?_)
         ·replace h:=bT hb28 h
          refine Tr.skip (toN ?_)
          refine Tr.cutB (fun (a40:List Qd)=>⟨look [(0,(l_ alphabet1)),(3,.ptr (Γ.n0+3) 0),(4,.ptr (Γ.n0+4) 0),(5,.ptr (Γ.n0+5) 0),(6,(i_ i8)),(7,(i_ k23))],Qj Γ.n0 (bxs [(3,.cells ((Qbi g2))),(4,.cells ([(o_ c9),(i_ 0),(o_ c10),(Qk c11)])),(5,.cells ([(l_ x7.zA),(i_ a12),(o_ a22),(Qk a40)]))]) M,Γ.n0+79⟩) h (fun z h=>?_) (fun z h=>?_)
          ·refine Tr.block (Tr.seq ?_)
           refine Tr.rgnD (by decide) ?_
           refine md rfl (md rfl (Rn.fldP (o':=2) tv rfl rfl ?_))
           obtain ⟨⟨⟩,h29,h⟩:=bnd h
           refine Rn.idxArr (o':=2+(Int.toNat i8 * 5)) tv rfl rfl rfl h29 ?_
           obtain ⟨⟨⟩,h30,h⟩:=bnd h
           refine Rn.idxArr (o':=2+(Int.toNat i8 * 5+Int.toNat k23 * 1)) tv rfl rfl (Nat.add_assoc ..).symm h30 ?_
           obtain ⟨x31,h32,h⟩:=bnd h
           refine Rn.loadArr (e:=(fun (z:Int)=>.int .u8 z)) (pre:=[.d (.int .u8 g2.zD),.d (.int .u8 g2.Marks)]) (post:=[]) tv rfl rfl (Qbv rfl) rfl rfl h32 (Rn.conv tv rfl (Rn.fldP (o':=1) tv rfl rfl (lB (v:=(i_ a12)) rfl rfl rfl rfl (Rn.bin tv rfl rfl rfl ?_))))
           obtain ⟨s33,h34,h⟩:=bnd h
           refine Rn.bin tv rfl rfl (Qbhd h34) (md rfl ?_)
           refine Rn.nil ⟨rfl,?_⟩
           refine toN (sr ((md rfl (Rn.fldP (o':=1) tv rfl rfl (lB (v:=(i_ a12)) rfl rfl rfl rfl (Rn.bin tv rfl rfl rfl (Rn.nil (toN ?_))))))))
           refine Tr.cond rfl (fun hb35=>?_) (fun hb35=>?_)
           ·replace h:=ifT hb35 h
            refine Tr.rgnD (by decide) ?_
            refine Rn.fldP (o':=3) tv rfl rfl (Rn.loadT (cs':=[(l_ x7.zA),(i_ a12),(o_ a22),(Ql a24)]) tv rfl rfl rfl rfl (md rfl (md rfl (md rfl ?_))))
            obtain ⟨x36,h37,h⟩:=bnd h
            refine Rn.idxD (e:=(eI .i64)) tv rfl rfl h37 (Rn.loadC (x:=.int .i64 x36) tv rfl (md rfl (Rn.build (v:=.agg [(i_ i8),(i_ x36),(i_ s33)]) tv rfl (Rn.bslice (xs:=[.agg [(i_ i8),(i_ x36),(i_ s33)]]) (cs:=[(i_ i8),(i_ x36),(i_ s33)]) tv rfl rfl rfl rfl ?_))))
            obtain ⟨x38,h39,h⟩:=bnd h
            refine Rn.app (e:=Qb4) tv rfl rfl rfl (Qdk rfl rfl rfl) h39 rfl (Rn.fldP (o':=3) tv rfl rfl (Rn.storeO (cs':=[(l_ x7.zA),(i_ a12),(o_ a22),(Qk x38)]) tv rfl rfl rfl rfl rfl ?_))
            refine Rn.nil ⟨rfl,?_⟩
            replace h:=si h; subst h
            exact Qh [74] ⟨(sm rfl),(kPtr rfl),(kPtr rfl),(kPtr rfl),(sm rfl),(sm rfl),tv⟩ ⟨bS rfl rfl rfl,bS rfl rfl rfl,bS rfl rfl rfl,tv⟩ rfl
           ·replace h:=ifF hb35 h
            refine Tr.skip ?_
            replace h:=si h; subst h
            exact Qh [] ⟨(sm rfl),(kPtr rfl),(kPtr rfl),(kPtr rfl),(sm rfl),(sm rfl),tv⟩ ⟨bS rfl rfl rfl,bS rfl rfl rfl,bS rfl rfl rfl,tv⟩ rfl
          ·obtain ⟨a40,rfl⟩ : ∃ x,x=z:=⟨_,rfl⟩
           refine Tr.rgn (md rfl (Rn.bin tv rfl rfl rfl (md rfl (Rn.nil ?_))))
           exact ⟨_,h,(by exact Qi ⟨(sm rfl),(kPtr rfl),(kPtr rfl),(kPtr rfl),(sm rfl),(sm rfl),tv⟩ ⟨bS rfl rfl rfl,bS rfl rfl rfl,bS rfl rfl rfl,tv⟩ rfl)⟩
         ·replace h:=bF hb28 h
          refine Tr.exit ?_
          replace h:=si h; subst h
          exact Qh [] ⟨(sm rfl),(kPtr rfl),(kPtr rfl),(kPtr rfl),(sm rfl),tv⟩ ⟨bS rfl rfl rfl,bS rfl rfl rfl,bS rfl rfl rfl,tv⟩ rfl
     ·obtain ⟨a41,a42⟩:=z
      refine Tr.rgn (md rfl (Rn.bin tv rfl rfl rfl (md rfl (Rn.nil ?_))))
      exact ⟨_,h,(by exact Qi ⟨(sm rfl),(kPtr rfl),(kPtr rfl),(kPtr rfl),(sm rfl),tv⟩ ⟨bS rfl rfl rfl,bS rfl rfl rfl,bS rfl rfl rfl,tv⟩ rfl)⟩
    ·replace h:=ifF hb16 h
     refine Tr.exit ?_
     replace h:=si h; subst h
     exact Qh [] ⟨(kPtr rfl),(kPtr rfl),tv⟩ ⟨bS rfl rfl rfl,bS rfl rfl rfl,bS rfl rfl rfl,tv⟩ rfl
  ·obtain ⟨c43,c44,c45,a46,a47,a48⟩:=z
   refine sr ((lB (v:=.agg [(l_ x7.zA),(i_ a46),(l_ a47),(Ql a48)]) rfl rfl rfl rfl ?_))
   obtain ⟨x50,h49,h⟩:=bnd h
   refine Rn.call (args:=[.agg [(l_ x7.zA),(i_ a46),(l_ a47),(Ql a48)]]) tv rfl (H_overseerref03_Canonical _ _ h49) pc9 (Rn.storeT (v:=(Qb x50)) (ds:=(Qc x50)) (cs':=(Qc x50)) tv rfl rfl rfl rfl rfl rfl rfl (nt ((Tr.ret ?_))))
   replace h:=si h; subst h
   exact ⟨.inr rfl,(Qb x50),Qeo rfl rfl rfl rfl,fun _ _ _ _ h=>h,⟨tv,tv,tv,tv,tv⟩,mB⟩
theorem Qpc {P:Program} {c:Nat} {Qt:Qa→Option Int}
    (H_automaton_Check:Qfn P 19 Qt) (hcf:Qm P c=some Qgi):Qgh P c (Qbg Qt):=by
 intro a1 r h
 refine Qbw hcf rfl fun Γ M hP hnt hM=>?_
 subst hP
 refine Tr.init [(0,(Qb a1))] rfl ?_
 unfold Qbg at h
 unfold Qgi
 refine sr ((Rn.box (v:=(Qb a1)) (cs:=(Qc a1)) tv rfl rfl rfl rfl rfl (md rfl (md rfl (nt ((Tr.seq (sr ((lB (v:=(Qb a1)) rfl rfl rfl rfl ?_))))))))))
 obtain ⟨x3,h2,h⟩:=bnd h
 refine Rn.call (args:=[(Qb a1)]) tv rfl (H_automaton_Check _ _ h2) pc9 (md rfl (nt ((sr ((md rfl (Rn.bin tv rfl rfl rfl (Rn.nil (toN ?_)))))))))
 refine Tr.cond rfl (fun hb4=>?_) (fun hb4=>?_)
 ·replace h:=bT hb4 h
  refine sr ((md rfl (md rfl (md rfl (nt ((Tr.ret ?_)))))))
  replace h:=si h; subst h
  exact ⟨.inr rfl,.tup [(b_ false),(i_ x3)],res2 rfl rfl,(WkV.tup (.cons (.same rfl) (.cons (.same rfl) .nil))).rd,⟨tv,tv,tv⟩,mB⟩
 ·replace h:=bF hb4 h
  refine Tr.skip (toN (sr ((Rn.fldP (o':=2) tv rfl rfl (lB (v:=(l_ a1.zB)) rfl rfl rfl rfl (Rn.lenD tv rfl (Rn.fldP (o':=1) tv rfl rfl (lB (v:=(i_ a1.zD)) rfl rfl rfl rfl (Rn.bin tv rfl rfl rfl (md rfl (md rfl (nt ((Tr.ret ?_))))))))))))))
  replace h:=si h; subst h
  exact ⟨.inr rfl,.tup [(b_ ((a1.zB.length:Int) == a1.zD)),(i_ 0)],res2 rfl rfl,(WkV.tup (.cons (.same rfl) (.cons (.same rfl) .nil))).rd,⟨tv,tv,tv⟩,mB⟩
theorem Q4w {P:Program} {c:Nat} {Qt:Qa→Option Int}
    (H_automaton_Check:Qfn P 19 Qt) (hcf:Qm P c=some Qnc) (fuel:Nat):Qnb P c (Qdc Qt fuel):=by
 intro l1 r h
 refine Qbw hcf rfl fun Γ M hP hnt hM=>?_
 subst hP
 refine Tr.init [(0,(Qe l1))] rfl ?_
 unfold Qdc at h
 unfold Qnc
 refine sr ((md rfl (nt ((Tr.seq (sr ((md rfl (Rn.lenD tv rfl (Rn.bin tv rfl rfl rfl (Rn.nil (toN ?_))))))))))))
 refine Tr.cond rfl (fun hb2=>?_) (fun hb2=>?_)
 ·replace h:=ifT hb2 h
  refine sr ((md rfl (nt ((Tr.ret ?_)))))
  replace h:=si h; subst h
  exact ⟨.inr rfl,(i_ 3),rfl,fun _ _ _ _ h=>h,tv,mB⟩
 ·replace h:=ifF hb2 h
  refine Tr.skip (toN (Tr.seq (sr ((md rfl (Rn.lenD tv rfl (md rfl (nt ((Tr.block ?_))))))))))
  refine Tr.loop (mk:=fun (x3:Int)=>⟨look [(9,(Qe l1)),(10,(i_ (l1.length:Int))),(11,(i_ x3))],Qj Γ.n0 (bxs []) M,Γ.n0+21⟩) h (by exact Qi ⟨(sm rfl),(sm rfl),(sm rfl),tv⟩ tv rfl) (fun k4 z h=>?_)
  ·obtain ⟨x3,rfl⟩ : ∃ x,x=z:=⟨_,rfl⟩
   replace h:_=some _:=h
   refine sr ((Rn.bin tv rfl rfl rfl (nt ((Tr.seq ?_)))))
   refine Tr.cond rfl (fun hb5=>?_) (fun hb5=>?_)
   ·replace h:=ifT hb5 h
    refine Tr.skip (toN (Tr.seq (Tr.block (Tr.seq (Tr.rgn ?_)))))
    obtain ⟨x6,h7,h⟩:=bnd h
    refine Rn.idxD (e:=Qn) tv rfl rfl h7 (Rn.loadCA (vs:=(Qc x6)) tv rfl rfl rfl (Rn.alloc tv rfl (Rn.storeT (v:=(Qb x6)) (ds:=(Qc x6)) (cs':=(Qc x6)) tv rfl rfl rfl rfl rfl rfl rfl (nt ((sr ((lB (v:=(Qb x6)) rfl rfl rfl rfl ?_))))))))
    obtain ⟨x9,h8,h⟩:=bnd h
    refine Rn.call (args:=[(Qb x6)]) tv rfl (H_automaton_Check _ _ h8) pc9 (md rfl (nt ((sr ((md rfl (Rn.bin tv rfl rfl rfl (Rn.nil (toN ?_)))))))))
    refine Tr.cond rfl (fun hb10=>?_) (fun hb10=>?_)
    ·replace h:=bT hb10 h
     refine sr ((md rfl (md rfl (nt ((Tr.ret ?_))))))
     replace h:=si h; subst h
     exact ⟨.inr rfl,(i_ x9),rfl,fun _ _ _ _ h=>h,tv,mB⟩
    ·replace h:=bF hb10 h
     refine Tr.skip (toN (Tr.rgn (Rn.bin tv rfl rfl rfl (md rfl (Rn.nil ?_)))))
     exact ⟨_,h,(by exact Qi ⟨(sm rfl),(sm rfl),(sm rfl),tv⟩ tv rfl)⟩
   ·replace h:=ifF hb5 h
    refine Tr.exit (toN (sr ((md rfl (nt ((Tr.ret ?_)))))))
    replace h:=si h; subst h
    exact ⟨.inr rfl,(i_ 0),rfl,fun _ _ _ _ h=>h,tv,mB⟩
theorem Q29 {P:Program} {c:Nat} {Qbm:(List Int)→(List Int)→Option ((List Int))}
    (H_alphabet_Union:Qhy P 27 Qbm) (hcf:Qm P c=some Qlc) (fuel:Nat):Qlb P c (Qc1 Qbm fuel):=by
 intro l1 r h
 refine Qbw hcf rfl fun Γ M hP hnt hM=>?_
 subst hP
 refine Tr.init [(0,(Qe l1))] rfl ?_
 unfold Qc1 at h
 unfold Qlc
 refine sr ((Rn.movTC (v:=.nils 1) tv (nt ((sr ((Rn.movTC (v:=.nils 1) tv (Rn.nil (toN ?_)))))))))
 refine Tr.cutB (fun (out10:List Int)=>⟨look [(3,(o_ out10))],Qj Γ.n0 (bxs []) M,Γ.n0+18⟩) h (fun z h=>?_) (fun z h=>?_)
 ·refine sr ((md rfl (Rn.lenD tv rfl (md rfl (nt ((Tr.block ?_)))))))
  refine Tr.loop (mk:=fun ((out2,x3):(List Int)×Int)=>⟨look [(3,(o_ out2)),(6,(Qe l1)),(7,(i_ (l1.length:Int))),(8,(i_ x3))],Qj Γ.n0 (bxs []) M,Γ.n0+18⟩) h (by exact Qi ⟨(WkV.nilsO _),(sm rfl),(sm rfl),(sm rfl),tv⟩ tv rfl) (fun k4 z h=>?_)
  ·obtain ⟨out2,x3⟩:=z
   replace h:_=some _:=h
   refine sr ((Rn.bin tv rfl rfl rfl (nt ((Tr.seq ?_)))))
   refine Tr.cond rfl (fun hb5=>?_) (fun hb5=>?_)
   ·replace h:=ifT hb5 h
    refine Tr.skip (toN (Tr.seq (Tr.block (Tr.seq (Tr.rgn ?_)))))
    obtain ⟨x6,h7,h⟩:=bnd h
    refine Rn.idxD (e:=Qn) tv rfl rfl h7 (Rn.loadCA (vs:=(Qc x6)) tv rfl rfl rfl (Rn.alloc tv rfl (Rn.storeT (v:=(Qb x6)) (ds:=(Qc x6)) (cs':=(Qc x6)) tv rfl rfl rfl rfl rfl rfl rfl (nt ((Tr.rgn (Rn.mov (v:=(l_ out2)) tv rfl (Rn.fldP (o':=0) tv rfl rfl (lB (v:=(l_ x6.zA)) rfl rfl rfl rfl ?_)))))))))
    obtain ⟨x9,h8,h⟩:=bnd h
    refine Rn.call (args:=[(l_ out2),(l_ x6.zA)]) tv rfl (H_alphabet_Union _ _ _ h8) pc9 (Rn.movTO tv rfl (nt ((Tr.rgn (Rn.bin tv rfl rfl rfl (md rfl (Rn.nil ?_)))))))
    exact ⟨_,h,(by exact Qi ⟨(sm rfl),(sm rfl),(sm rfl),(sm rfl),tv⟩ tv rfl)⟩
   ·replace h:=ifF hb5 h
    refine Tr.exit ?_
    replace h:=si h; subst h
    exact Qh [] ⟨(sm rfl),tv⟩ tv rfl
 ·obtain ⟨out10,rfl⟩ : ∃ x,x=z:=⟨_,rfl⟩
  refine sr ((Rn.movTO tv rfl (Rn.movTO tv rfl (nt ((Tr.ret ?_))))))
  replace h:=si h; subst h
  exact ⟨.inr rfl,(o_ out10),rfl,fun _ _ _ _ h=>h,tv,mB⟩
theorem Q6g {P:Program} {c:Nat} {Qc1:(List Qa)→Option ((List Int))}
    (H_product_events:Qlb P 61 Qc1) (hcf:Qm P c=some Qo3) (fuel:Nat):Qo2 P c (Qdo Qc1 fuel):=by
 intro l1 r h
 refine Qbw hcf rfl fun Γ M hP hnt hM=>?_
 subst hP
 refine Tr.init [(0,(Qe l1))] rfl ?_
 unfold Qdo at h
 unfold Qo3
 refine sr ((Rn.alloc tv rfl (nt ((sr ((md rfl (md rfl ?_))))))))
 obtain ⟨x3,h2,h⟩:=bnd h
 refine Rn.call (args:=[(Qe l1)]) tv rfl (H_product_events _ _ h2) pc9 (Rn.buildT (v:=.agg [(Qe l1),(o_ x3),.nils 1]) tv rfl (Rn.alloc tv rfl (Rn.storeT (v:=.agg [(Qe l1),(o_ x3),.nils 1]) (ds:=[(Qe l1),(o_ x3),.nils 1]) (cs':=[(Qe l1),(o_ x3),.nils 1]) tv rfl rfl rfl rfl rfl rfl rfl (Rn.nil (toN ?_)))))
 refine Tr.cutB (fun ((c28,c29,c30,m31):(List Qa)×(List Int)×(List (List ((Int×Int)×Int)))×(List (List ((Int×Int)×Int))))=>⟨look [(2,.ptr (Γ.n0+2) 0),(3,.ptr (Γ.n0+3) 0)],Qj Γ.n0 (bxs [(2,.cells ([(Qdb c28),(o_ c29),.own 1 (List.map (fun p:List ((Int×Int)×Int)=>[mq0 p]) c30)])),(3,.cells ([(Qe l1),(o_ x3),.own 1 (List.map (fun p:List ((Int×Int)×Int)=>[mq0 p]) m31)]))]) M,Γ.n0+44⟩) h (fun z h=>?_) (fun z h=>?_)
 ·refine sr ((md rfl (Rn.lenD tv rfl (md rfl (nt ((Tr.block ?_)))))))
  refine Tr.loop (mk:=fun ((x4,c5,c6,c7,m8):Int×(List Qa)×(List Int)×(List (List ((Int×Int)×Int)))×(List (List ((Int×Int)×Int))))=>⟨look [(2,.ptr (Γ.n0+2) 0),(3,.ptr (Γ.n0+3) 0),(13,(Qe l1)),(14,(i_ (l1.length:Int))),(15,(i_ x4))],Qj Γ.n0 (bxs [(2,.cells ([(Qdb c5),(o_ c6),.own 1 (List.map (fun p:List ((Int×Int)×Int)=>[mq0 p]) c7)])),(3,.cells ([(Qe l1),(o_ x3),.own 1 (List.map (fun p:List ((Int×Int)×Int)=>[mq0 p]) m8)]))]) M,Γ.n0+44⟩) h (by exact Qi ⟨(kPtr rfl),(kPtr rfl),(sm rfl),(sm rfl),(sm rfl),tv⟩ ⟨⟨_,rfl,rfl,(.cons (WkV.nilsO _) (.cons (WkV.nilsO _) (.cons (WkV.nilsO _) .nil)))⟩,⟨_,rfl,rfl,(cS rfl (cS rfl (.cons (WkV.nilsO _) .nil)))⟩,tv⟩ rfl) (fun k9 z h=>?_)
  ·obtain ⟨x4,c5,c6,c7,m8⟩:=z
   replace h:_=some _:=h
   refine sr ((Rn.bin tv rfl rfl rfl (nt ((Tr.seq ?_)))))
   refine Tr.cond rfl (fun hb10=>?_) (fun hb10=>?_)
   ·replace h:=ifT hb10 h
    refine Tr.skip (toN ?_)
    refine Tr.cutB (fun ((m22,a23,a24,a25,a26,c27):(List (List ((Int×Int)×Int)))×(List Int)×Int×(List Int)×(List Qd)×(List ((Int×Int)×Int)))=>⟨look [(2,.ptr (Γ.n0+2) 0),(3,.ptr (Γ.n0+3) 0),(13,(Qe l1)),(14,(i_ (l1.length:Int))),(15,(i_ x4))],Qj Γ.n0 (bxs [(2,.cells ([(Qdb c5),(o_ c6),.own 1 (List.map (fun p:List ((Int×Int)×Int)=>[mq0 p]) c7)])),(3,.cells ([(Qe l1),(o_ x3),.own 1 (List.map (fun p:List ((Int×Int)×Int)=>[mq0 p]) m22)])),(5,.cells ([(l_ a23),(i_ a24),(l_ a25),(Ql a26)])),(39,.cells ([.d (mq0 c27)]))]) M,Γ.n0+44⟩) h (fun z h=>?_) (fun z h=>?_)
    ·refine Tr.block (Tr.seq (Tr.rgn ?_))
     obtain ⟨x11,h12,h⟩:=bnd h
     refine Rn.idxD (e:=Qn) tv rfl rfl h12 (Rn.loadCA (vs:=(Qc x11)) tv rfl rfl rfl (Rn.alloc tv rfl (Rn.storeT (v:=(Qb x11)) (ds:=(Qc x11)) (cs':=(Qc x11)) tv rfl rfl rfl rfl rfl rfl rfl (nt ((sr ((Rn.mkmap tv rfl (fun (x:Int×Int)=>(.agg [(i_ x.1),(i_ x.2)]:V)) (fun (x:Int)=>((i_ x):V)) (Rn.mov (v:=.mp (Γ.n0+19)) tv rfl (Rn.nil (toN ?_)))))))))))
     refine Tr.cutB (fun (c19:List ((Int×Int)×Int))=>⟨look [(2,.ptr (Γ.n0+2) 0),(3,.ptr (Γ.n0+3) 0),(6,.mp (Γ.n0+19)),(13,(Qe l1)),(14,(i_ (l1.length:Int))),(15,(i_ x4))],Qj Γ.n0 (bxs [(2,.cells ([(Qdb c5),(o_ c6),.own 1 (List.map (fun p:List ((Int×Int)×Int)=>[mq0 p]) c7)])),(3,.cells ([(Qe l1),(o_ x3),.own 1 (List.map (fun p:List ((Int×Int)×Int)=>[mq0 p]) m8)])),(5,.cells ((Qc x11))),(19,.mp (mapE (fun (x:Int×Int)=>(.agg [(i_ x.1),(i_ x.2)]:V)) (fun (x:Int)=>((i_ x):V)) 0 c19) (c19).length)]) M,Γ.n0+44⟩) h (fun z h=>?_) (fun z h=>?_)
     ·refine sr ((Rn.fldP (o':=3) tv rfl rfl (lB (v:=(Ql x11.zC)) rfl rfl rfl rfl (Rn.lenD tv rfl (md rfl (nt ((Tr.block ?_))))))))
      refine Tr.loop (mk:=fun ((x13,c14):Int×(List ((Int×Int)×Int)))=>⟨look [(2,.ptr (Γ.n0+2) 0),(3,.ptr (Γ.n0+3) 0),(6,.mp (Γ.n0+19)),(13,(Qe l1)),(14,(i_ (l1.length:Int))),(15,(i_ x4)),(21,(Ql x11.zC)),(22,(i_ (x11.zC.length:Int))),(23,(i_ x13))],Qj Γ.n0 (bxs [(2,.cells ([(Qdb c5),(o_ c6),.own 1 (List.map (fun p:List ((Int×Int)×Int)=>[mq0 p]) c7)])),(3,.cells ([(Qe l1),(o_ x3),.own 1 (List.map (fun p:List ((Int×Int)×Int)=>[mq0 p]) m8)])),(5,.cells ((Qc x11))),(19,.mp (mapE (fun (x:Int×Int)=>(.agg [(i_ x.1),(i_ x.2)]:V)) (fun (x:Int)=>((i_ x):V)) 0 c14) (c14).length)]) M,Γ.n0+44⟩) h (by exact Qi ⟨(kPtr rfl),(kPtr rfl),(kMp rfl),(sm rfl),(sm rfl),(sm rfl),(sm rfl),(sm rfl),(sm rfl),tv⟩ ⟨bS rfl rfl rfl,bS rfl rfl rfl,bS rfl rfl rfl,⟨rfl,rfl⟩,tv⟩ rfl) (fun k15 z h=>?_)
      ·obtain ⟨x13,c14⟩:=z
       replace h:_=some _:=h
       refine sr ((Rn.bin tv rfl rfl rfl (nt ((Tr.seq ?_)))))
       refine Tr.cond rfl (fun hb16=>?_) (fun hb16=>?_)
       ·replace h:=ifT hb16 h
        refine Tr.skip (toN (Tr.seq (Tr.block (Tr.seq (Tr.rgn ?_)))))
        obtain ⟨x17,h18,h⟩:=bnd h
        refine Rn.idxD (e:=Qb4) tv rfl rfl h18 (Rn.loadCA (vs:=(Qcx x17)) tv rfl rfl rfl (Rn.alloc tv rfl (Rn.store (v:=(Qd8 x17)) (cs':=(Qcx x17)) tv rfl rfl rfl rfl rfl rfl (nt ((Tr.rgn (Rn.mov (v:=.mp (Γ.n0+19)) tv rfl (Rn.fldP (o':=0) tv rfl rfl (lB (v:=(i_ x17.From)) rfl rfl rfl rfl (Rn.fldP (o':=1) tv rfl rfl (lB (v:=(i_ x17.Event)) rfl rfl rfl rfl (Rn.build (v:=.agg [(i_ x17.From),(i_ x17.Event)]) tv rfl (Rn.fldP (o':=2) tv rfl rfl (lB (v:=(i_ x17.To)) rfl rfl rfl rfl (Rn.mapset (ek:=(fun (x:Int×Int)=>(.agg [(i_ x.1),(i_ x.2)]:V))) (ev:=(fun (x:Int)=>((i_ x):V))) (m:=c14) (k:=(x17.From,x17.Event)) (v:=x17.To) Qbjt (fun _=>rfl) (fun _=>rfl) tv rfl rfl rfl rfl rfl (nt ((Tr.rgn (Rn.bin tv rfl rfl rfl (md rfl (Rn.nil ?_)))))))))))))))))))))
        exact ⟨_,h,(by exact Qi ⟨(kPtr rfl),(kPtr rfl),(kMp rfl),(sm rfl),(sm rfl),(sm rfl),(sm rfl),(sm rfl),(sm rfl),tv⟩ ⟨bS rfl rfl rfl,bS rfl rfl rfl,bS rfl rfl rfl,⟨rfl,rfl⟩,tv⟩ rfl)⟩
       ·replace h:=ifF hb16 h
        refine Tr.exit ?_
        replace h:=si h; subst h
        exact Qh [] ⟨(kPtr rfl),(kPtr rfl),(kMp rfl),(sm rfl),(sm rfl),(sm rfl),tv⟩ ⟨bS rfl rfl rfl,bS rfl rfl rfl,bS rfl rfl rfl,⟨rfl,rfl⟩,tv⟩ rfl
     ·obtain ⟨c19,rfl⟩ : ∃ x,x=z:=⟨_,rfl⟩
      refine Tr.rgn (Rn.fldP (o':=2) tv rfl rfl (Rn.loadT (cs':=[(Qe l1),(o_ x3),.d (.lst 1 (List.map (fun p:List ((Int×Int)×Int)=>[mq0 p]) m8))]) tv rfl rfl rfl rfl (Rn.mov (v:=.mp (Γ.n0+19)) tv rfl (Rn.bslice (xs:=[.mp (Γ.n0+19)]) (cs:=[.mp (Γ.n0+19)]) tv rfl rfl rfl rfl ?_))))
      refine Rn.weak (by show WeakSt Γ _ ⟨look [(2,.ptr (Γ.n0+2) 0),(3,.ptr (Γ.n0+3) 0),(6,.d (mq0 c19)),(13,(Qe l1)),(14,(i_ (l1.length:Int))),(15,(i_ x4)),(36,.ptr (Γ.n0+3) 2),(37,.own 1 (List.map (fun p:List ((Int×Int)×Int)=>[mq0 p]) m8)),(38,.d (mq0 c19)),(39,.sl 1 (Γ.n0+39) 0 1 1)],Qj Γ.n0 (bxs [(2,.cells ([(Qdb c5),(o_ c6),.own 1 (List.map (fun p:List ((Int×Int)×Int)=>[mq0 p]) c7)])),(3,.cells ([(Qe l1),(o_ x3),.d (.lst 1 (List.map (fun p:List ((Int×Int)×Int)=>[mq0 p]) m8))])),(5,.cells ((Qc x11))),(39,.cells ([.d (mq0 c19)]))]) M,Γ.n0+44⟩; exact Qbct (ek:=(fun (x:Int×Int)=>(.agg [(i_ x.1),(i_ x.2)]:V))) (ev:=(fun (x:Int)=>((i_ x):V))) (m:=c19) 19 rfl (fun _=>rfl) (fun _=>rfl) ⟨(mPtr rfl),(mPtr rfl),mMpS,(.same rfl),(.same rfl),(.same rfl),(mPtr rfl),(.same rfl),mMpS,(mSlO rfl),tv⟩ ⟨bS rfl rfl rfl,bS rfl rfl rfl,bS rfl rfl rfl,⟨_,rfl,rfl,(.cons mMpS .nil)⟩,tv⟩ rfl) ?_
      obtain ⟨x20,h21,h⟩:=bnd h
      refine Rn.app (e:=(fun p:List ((Int×Int)×Int)=>[mq0 p])) tv rfl rfl rfl (Qdk rfl rfl rfl) h21 rfl (Rn.fldP (o':=2) tv rfl rfl (Rn.storeO (cs':=[(Qe l1),(o_ x3),.own 1 (List.map (fun p:List ((Int×Int)×Int)=>[mq0 p]) x20)]) tv rfl rfl rfl rfl rfl (Rn.nil ?_)))
      replace h:=si h; subst h
      exact Qh [] ⟨(kPtr rfl),(kPtr rfl),(sm rfl),(sm rfl),(sm rfl),tv⟩ ⟨bS rfl rfl rfl,bS rfl rfl rfl,bS rfl rfl rfl,bS rfl rfl rfl,tv⟩ rfl
    ·obtain ⟨m22,a23,a24,a25,a26,c27⟩:=z
     refine Tr.rgn (Rn.bin tv rfl rfl rfl (md rfl (Rn.nil ?_)))
     exact ⟨_,h,(by exact Qi ⟨(kPtr rfl),(kPtr rfl),(sm rfl),(sm rfl),(sm rfl),tv⟩ ⟨bS rfl rfl rfl,bS rfl rfl rfl,tv⟩ rfl)⟩
   ·replace h:=ifF hb10 h
    refine Tr.exit ?_
    replace h:=si h; subst h
    exact Qh [] ⟨(kPtr rfl),(kPtr rfl),tv⟩ ⟨bS rfl rfl rfl,bS rfl rfl rfl,tv⟩ rfl
 ·obtain ⟨c28,c29,c30,m31⟩:=z
  refine sr ((lB (v:=.agg [(Qe l1),(l_ x3),.d (.lst 1 (List.map (fun p:List ((Int×Int)×Int)=>[mq0 p]) m31))]) rfl rfl rfl rfl (Rn.storeT (v:=.agg [(Qe l1),(l_ x3),.d (.lst 1 (List.map (fun p:List ((Int×Int)×Int)=>[mq0 p]) m31))]) (ds:=[(Qe l1),(l_ x3),.d (.lst 1 (List.map (fun p:List ((Int×Int)×Int)=>[mq0 p]) m31))]) (cs':=[(Qe l1),(l_ x3),.d (.lst 1 (List.map (fun p:List ((Int×Int)×Int)=>[mq0 p]) m31))]) tv rfl rfl rfl rfl rfl rfl rfl (nt ((Tr.ret ?_))))))
  replace h:=si h; subst h
  exact ⟨.inr rfl,(.agg [(Qe l1),(l_ x3),.d (.lst 1 (List.map (fun p:List ((Int×Int)×Int)=>[mq0 p]) m31))]),Qeo rfl rfl rfl rfl,fun _ _ _ _ h=>h,⟨tv,tv,tv,tv⟩,mB⟩
end Go.Abs
