/-
  Part 6 of the proof: see the last text.
-/
import Derived.Test.YthlopjpofmcdmaaP5
import Derived.Test.YthlopjpofmcdmaaProg
import Derived.KernelRfl
import Derived.Sort.Statements
set_option linter.unusedVariables false
set_option linter.unusedSimpArgs false
set_option linter.unusedSectionVars false
section
namespace Go.Abs
open Go
set_option maxRecDepth 10000
set_option maxHeartbeats 4000000
theorem Qv1 {P:Program} {c:Nat} {Q1:Int→Option Bool} {f_slices_Sort_int:List Int→Option (List Int)}
    (H_timedsynthesis_event:Qfi P 65 Q1)
    (H_slices_Sort_int:RowK P 73 (eI .i64) 1 [] f_slices_Sort_int) (hcf:Qy P c = some Qg7) (fuel:Nat):Qg6 P c (Qci Q1 f_slices_Sort_int fuel):=by
 intro xfrom1 to2 ticks3 tick4 marked5 lead6 g7 cp8 r h
 intro M nb hc9 ho11 hf10
 refine Qnm hcf rfl M nb fun Γ hP hnt hn0 hM=>?_
 subst hP hn0
 refine Tr.init [(0,(i_ xfrom1)),(1,(i_ to2)),(2,(i_ ticks3)),(3,(i_ tick4)),(4,(b_ marked5)),(5,.clo g7 cp8)] rfl ?_
 unfold Qci at h
 unfold Qg7
 refine sr ((Rn.alloc tv rfl (md rfl (nt ((Tr.seq (Tr.block ?_)))))))
 refine Tr.cutB (fun (x22:Bool)=>⟨look [(0,(i_ xfrom1)),(1,(i_ to2)),(2,(i_ ticks3)),(3,(i_ tick4)),(4,(b_ marked5)),(5,.clo g7 cp8),(12,.ptr (Γ.n0 + 12) 0),(19,(b_ x22))],Qm Γ.n0 (bxs [(12,.cells ([.nils 1,(i_ 0),.nils 1,.nils 3]))]) M,Γ.n0 + 113⟩) h (fun z h=>?_) (fun z h=>?_)
 ·refine Tr.rgn (md rfl ?_)
  obtain ⟨x15,h14,h⟩:=bnd h
  refine Rn.call (args:=[(i_ xfrom1)]) tv rfl (H_timedsynthesis_event _ _ h14) pc9 (Rn.un tv rfl rfl (md rfl ?_))
  refine Qbr x15 (fun hb16=>?_) (fun hb16=>?_)
  ·replace h:=bT hb16 h
   refine Rn.movD (gw rfl (nT hb16)) rfl ?_
   obtain ⟨x18,h17,h⟩:=bnd h
   refine Rn.call (args:=[(i_ to2)]) (gw rfl (nT hb16)) rfl (H_timedsynthesis_event _ _ h17) pc9 (Rn.un (gw rfl (nT hb16)) rfl rfl (Rn.pickF (v:=(b_ (!x18))) tv rfl (nT hb16) rfl (md rfl ?_)))
   refine Qbr x18 (fun hb19=>?_) (fun hb19=>?_)
   ·replace h:=bT hb19 h
    refine Rn.movD (gw rfl (nT hb19)) rfl ?_
    obtain ⟨x21,h20,h⟩:=bnd h
    refine Rn.call (args:=[(i_ tick4)]) (gw rfl (nT hb19)) rfl (H_timedsynthesis_event _ _ h20) pc9 (Rn.un (gw rfl (nT hb19)) rfl rfl (Rn.pickF (v:=(b_ (!x21))) tv rfl (nT hb19) rfl (md rfl (Rn.nil ?_))))
    replace h:=si h; subst h
    exact Qg [] ⟨(sm rfl),(sm rfl),(sm rfl),(sm rfl),(sm rfl),(kFun hM ho11),(kPtr rfl),(sm rfl),tv⟩ ⟨⟨_,rfl,rfl,(.same rfl)⟩,tv⟩ rfl
   ·replace h:=bF hb19 h
    refine Rn.sk (nw rfl (nF hb19)) (Rn.sk (nw rfl (nF hb19)) (Rn.sk (nw rfl (nF hb19)) (Rn.pickT (v:=(b_ true)) tv rfl (nF hb19) rfl (md rfl (Rn.nil ?_)))))
    replace h:=si h; subst h
    exact Qg [] ⟨(sm rfl),(sm rfl),(sm rfl),(sm rfl),(sm rfl),(kFun hM ho11),(kPtr rfl),(sm rfl),tv⟩ ⟨⟨_,rfl,rfl,(.same rfl)⟩,tv⟩ rfl
  ·replace h:=bF hb16 h
   refine Rn.sk (nw rfl (nF hb16)) (Rn.sk (nw rfl (nF hb16)) (Rn.sk (nw rfl (nF hb16)) (Rn.pickT (v:=(b_ true)) tv rfl (nF hb16) rfl (md rfl (Rn.sk (nw (b:=true) rfl rfl) (Rn.sk (nw (b:=true) rfl rfl) (Rn.sk (nw (b:=true) rfl rfl) (Rn.pickT (v:=(b_ true)) tv rfl rfl rfl (md rfl (Rn.nil ?_))))))))))
   replace h:=si h; subst h
   exact Qg [] ⟨(sm rfl),(sm rfl),(sm rfl),(sm rfl),(sm rfl),(kFun hM ho11),(kPtr rfl),(sm rfl),tv⟩ ⟨⟨_,rfl,rfl,(.same rfl)⟩,tv⟩ rfl
 ·obtain ⟨x22,rfl⟩ : ∃ x,x = z:=⟨_,rfl⟩
  refine Tr.cond rfl (fun hb23=>?_) (fun hb23=>?_)
  ·replace h:=bT hb23 h
   refine sr ((Rn.build (v:=.agg [.nils 1,(i_ 0),.nils 1,.nils 3]) tv rfl (Rn.storeT (v:=.agg [.nils 1,(i_ 0),.nils 1,.nils 3]) (ds:=[.nils 1,(i_ 0),.nils 1,.nils 3]) (cs':=[.nils 1,(i_ 0),.nils 1,.nils 3]) tv rfl rfl rfl rfl rfl rfl rfl (md rfl (nt ((Tr.ret ?_)))))))
   replace h:=si h; subst h
   exact ⟨.inr rfl,.tup [.agg [.nils 1,(i_ 0),.nils 1,.nils 3],(i_ 2)],res2 (Qif rfl rfl rfl rfl) rfl,(WkV.tup (.cons (WkV.agg (.cons (WkV.nilsD _) (.cons (.same rfl) (.cons (WkV.nilsD _) (.cons (WkV.nilsD _) .nil))))) (.cons (.same rfl) .nil))).rd,⟨⟨tv,tv,tv,tv,tv⟩,tv,tv⟩,fun k hk=>Qh hk⟩
  ·replace h:=bF hb23 h
   refine Tr.cutB (fun (x26:Bool)=>⟨look [(0,(i_ xfrom1)),(1,(i_ to2)),(2,(i_ ticks3)),(3,(i_ tick4)),(4,(b_ marked5)),(5,.clo g7 cp8),(12,.ptr (Γ.n0 + 12) 0),(34,(b_ x26))],Qm Γ.n0 (bxs [(12,.cells ([.nils 1,(i_ 0),.nils 1,.nils 3]))]) M,Γ.n0 + 113⟩) h (fun z h=>?_) (fun z h=>?_)
   ·refine Tr.rgn (md rfl (md rfl (Rn.bin tv rfl rfl rfl (md rfl ?_))))
    refine Qbr (xfrom1 == to2) (fun hb24=>?_) (fun hb24=>?_)
    ·replace h:=bT hb24 h
     refine Rn.sk (nw rfl hb24) (Rn.sk (nw rfl hb24) (Rn.sk (nw rfl hb24) (Rn.pickT (v:=(b_ true)) tv rfl hb24 rfl (md rfl (Rn.sk (nw (b:=true) rfl rfl) (Rn.sk (nw (b:=true) rfl rfl) (Rn.sk (nw (b:=true) rfl rfl) (Rn.pickT (v:=(b_ true)) tv rfl rfl rfl (md rfl (Rn.nil ?_))))))))))
     replace h:=si h; subst h
     exact Qg [] ⟨(sm rfl),(sm rfl),(sm rfl),(sm rfl),(sm rfl),(kFun hM ho11),(kPtr rfl),(sm rfl),tv⟩ ⟨⟨_,rfl,rfl,(.same rfl)⟩,tv⟩ rfl
    ·replace h:=bF hb24 h
     refine Rn.movD (gw rfl hb24) rfl (Rn.movD (gw rfl hb24) rfl (Rn.bin (gw rfl hb24) rfl rfl rfl (Rn.pickF (v:=(b_ (xfrom1 == tick4))) tv rfl hb24 rfl (md rfl ?_))))
     refine Qbr (xfrom1 == tick4) (fun hb25=>?_) (fun hb25=>?_)
     ·replace h:=bT hb25 h
      refine Rn.sk (nw rfl hb25) (Rn.sk (nw rfl hb25) (Rn.sk (nw rfl hb25) (Rn.pickT (v:=(b_ true)) tv rfl hb25 rfl (md rfl (Rn.nil ?_)))))
      replace h:=si h; subst h
      exact Qg [] ⟨(sm rfl),(sm rfl),(sm rfl),(sm rfl),(sm rfl),(kFun hM ho11),(kPtr rfl),(sm rfl),tv⟩ ⟨⟨_,rfl,rfl,(.same rfl)⟩,tv⟩ rfl
     ·replace h:=bF hb25 h
      refine Rn.movD (gw rfl hb25) rfl (Rn.movD (gw rfl hb25) rfl (Rn.bin (gw rfl hb25) rfl rfl rfl (Rn.pickF (v:=(b_ (to2 == tick4))) tv rfl hb25 rfl (md rfl (Rn.nil ?_)))))
      replace h:=si h; subst h
      exact Qg [] ⟨(sm rfl),(sm rfl),(sm rfl),(sm rfl),(sm rfl),(kFun hM ho11),(kPtr rfl),(sm rfl),tv⟩ ⟨⟨_,rfl,rfl,(.same rfl)⟩,tv⟩ rfl
   ·obtain ⟨x26,rfl⟩ : ∃ x,x = z:=⟨_,rfl⟩
    refine Tr.cond rfl (fun hb27=>?_) (fun hb27=>?_)
    ·replace h:=bT hb27 h
     refine sr ((Rn.build (v:=.agg [.nils 1,(i_ 0),.nils 1,.nils 3]) tv rfl (Rn.storeT (v:=.agg [.nils 1,(i_ 0),.nils 1,.nils 3]) (ds:=[.nils 1,(i_ 0),.nils 1,.nils 3]) (cs':=[.nils 1,(i_ 0),.nils 1,.nils 3]) tv rfl rfl rfl rfl rfl rfl rfl (md rfl (nt ((Tr.ret ?_)))))))
     replace h:=si h; subst h
     exact ⟨.inr rfl,.tup [.agg [.nils 1,(i_ 0),.nils 1,.nils 3],(i_ 13)],res2 (Qif rfl rfl rfl rfl) rfl,(WkV.tup (.cons (WkV.agg (.cons (WkV.nilsD _) (.cons (.same rfl) (.cons (WkV.nilsD _) (.cons (WkV.nilsD _) .nil))))) (.cons (.same rfl) .nil))).rd,⟨⟨tv,tv,tv,tv,tv⟩,tv,tv⟩,fun k hk=>Qh hk⟩
    ·replace h:=bF hb27 h
     refine Tr.cutB (fun (x29:Bool)=>⟨look [(0,(i_ xfrom1)),(1,(i_ to2)),(2,(i_ ticks3)),(3,(i_ tick4)),(4,(b_ marked5)),(5,.clo g7 cp8),(12,.ptr (Γ.n0 + 12) 0),(49,(b_ x29))],Qm Γ.n0 (bxs [(12,.cells ([.nils 1,(i_ 0),.nils 1,.nils 3]))]) M,Γ.n0 + 113⟩) h (fun z h=>?_) (fun z h=>?_)
     ·refine Tr.rgn (md rfl (Rn.bin tv rfl rfl rfl (md rfl ?_)))
      refine Qbr (decide (ticks3 < 0)) (fun hb28=>?_) (fun hb28=>?_)
      ·replace h:=ifT hb28 h
       refine Rn.sk (nw rfl hb28) (Rn.sk (nw rfl hb28) (Rn.pickT (v:=(b_ true)) tv rfl hb28 rfl (md rfl (Rn.nil ?_))))
       replace h:=si h; subst h
       exact Qg [] ⟨(sm rfl),(sm rfl),(sm rfl),(sm rfl),(sm rfl),(kFun hM ho11),(kPtr rfl),(sm rfl),tv⟩ ⟨⟨_,rfl,rfl,(.same rfl)⟩,tv⟩ rfl
      ·replace h:=ifF hb28 h
       refine Rn.movD (gw rfl hb28) rfl (Rn.bin (gw rfl hb28) rfl rfl rfl (Rn.pickF (v:=(b_ (decide (ticks3 > 16)))) tv rfl hb28 rfl (md rfl (Rn.nil ?_))))
       replace h:=si h; subst h
       exact Qg [] ⟨(sm rfl),(sm rfl),(sm rfl),(sm rfl),(sm rfl),(kFun hM ho11),(kPtr rfl),(sm rfl),tv⟩ ⟨⟨_,rfl,rfl,(.same rfl)⟩,tv⟩ rfl
     ·obtain ⟨x29,rfl⟩ : ∃ x,x = z:=⟨_,rfl⟩
      refine Tr.cond rfl (fun hb30=>?_) (fun hb30=>?_)
      ·replace h:=bT hb30 h
       refine sr ((Rn.build (v:=.agg [.nils 1,(i_ 0),.nils 1,.nils 3]) tv rfl (Rn.storeT (v:=.agg [.nils 1,(i_ 0),.nils 1,.nils 3]) (ds:=[.nils 1,(i_ 0),.nils 1,.nils 3]) (cs':=[.nils 1,(i_ 0),.nils 1,.nils 3]) tv rfl rfl rfl rfl rfl rfl rfl (md rfl (nt ((Tr.ret ?_)))))))
       replace h:=si h; subst h
       exact ⟨.inr rfl,.tup [.agg [.nils 1,(i_ 0),.nils 1,.nils 3],(i_ 2)],res2 (Qif rfl rfl rfl rfl) rfl,(WkV.tup (.cons (WkV.agg (.cons (WkV.nilsD _) (.cons (.same rfl) (.cons (WkV.nilsD _) (.cons (WkV.nilsD _) .nil))))) (.cons (.same rfl) .nil))).rd,⟨⟨tv,tv,tv,tv,tv⟩,tv,tv⟩,fun k hk=>Qh hk⟩
      ·replace h:=bF hb30 h
       refine Tr.skip (toN (sr ((md rfl (md rfl (md rfl (Rn.bslice (xs:=[(i_ xfrom1),(i_ to2),(i_ tick4)]) (cs:=[(i_ xfrom1),(i_ to2),(i_ tick4)]) tv rfl rfl rfl rfl (md rfl (Rn.bin tv rfl rfl rfl (Rn.buildT (v:=.agg [.sl 1 (Γ.n0 + 60) 0 3 3,(i_ (IntKind.wrap .i64 (ticks3 + 2))),.nils 1,.nils 3]) tv rfl (Rn.alloc tv rfl (Rn.storeT (v:=.agg [.sl 1 (Γ.n0 + 60) 0 3 3,(i_ (IntKind.wrap .i64 (ticks3 + 2))),.nils 1,.nils 3]) (ds:=[.sl 1 (Γ.n0 + 60) 0 3 3,(i_ (IntKind.wrap .i64 (ticks3 + 2))),.nils 1,.nils 3]) (cs':=[.sl 1 (Γ.n0 + 60) 0 3 3,(i_ (IntKind.wrap .i64 (ticks3 + 2))),.nils 1,.nils 3]) tv rfl rfl rfl rfl rfl rfl rfl (nt ((sr ((Rn.fldP (o':=0) tv rfl rfl (Rn.load (v:=.sl 1 (Γ.n0 + 60) 0 3 3) tv rfl (Qj rfl) rfl rfl ?_))))))))))))))))))
       obtain ⟨row31,hs32,h⟩:=bnd h
       obtain ⟨hl33,hn34,hr35⟩:=H_slices_Sort_int _ _ hs32
       refine Rn.callRow (args:=[.sl 1 (Γ.n0 + 60) 0 3 3]) (t:=60) (cs:=Q2 (fun (x:Int)=>[V.d (.int .i64 x)]) [xfrom1,to2,tick4]) (cs':=Q2 (fun (x:Int)=>[V.d (.int .i64 x)]) row31) tv rfl rfl (fun M2 hM2=>Qbij (fun _=>rfl) hr35 (Nat.le_of_ble_eq_true rfl) hM2) rfl ?_
       refine Rn.nil (toN ?_)
       refine Tr.cutB (fun ((c71,c72,c73,a74,a75,a76):(List Int)×(List Int)×(List Qe)×Int×(List Int)×(List Qe))=>⟨look [(12,.ptr (Γ.n0 + 12) 0),(14,.ptr (Γ.n0 + 14) 0)],Qm Γ.n0 (bxs [(12,.cells ([(o_ c71),(i_ 0),(o_ c72),.own 3 (List.map Qa c73)])),(14,.cells ([.sl 1 (Γ.n0 + 60) 0 3 3,(i_ a74),(o_ a75),.own 3 (List.map Qa a76)])),(60,.cells (Q2 (fun (x:Int)=>[V.d (.int .i64 x)]) row31))]) M,Γ.n0 + 113⟩) h (fun z h=>?_) (fun z h=>?_)
       ·refine sr ((Rn.fldP (o':=1) tv rfl rfl (Rn.load (v:=(i_ (IntKind.wrap .i64 (ticks3 + 2)))) tv rfl (Qj rfl) rfl rfl (md rfl (nt ((Tr.block ?_)))))))
        refine Tr.loop (mk:=fun ((x36,x37,c38,c39,c40,a41,a42,a43):Int×Int×(List Int)×(List Int)×(List Qe)×Int×(List Int)×(List Qe))=>⟨look [(0,(i_ xfrom1)),(4,(b_ marked5)),(5,.clo g7 cp8),(12,.ptr (Γ.n0 + 12) 0),(14,.ptr (Γ.n0 + 14) 0),(68,(i_ x36)),(69,(i_ x37))],Qm Γ.n0 (bxs [(12,.cells ([(o_ c38),(i_ 0),(o_ c39),.own 3 (List.map Qa c40)])),(14,.cells ([.sl 1 (Γ.n0 + 60) 0 3 3,(i_ a41),(o_ a42),.own 3 (List.map Qa a43)])),(60,.cells (Q2 (fun (x:Int)=>[V.d (.int .i64 x)]) row31))]) M,Γ.n0 + 113⟩) h (by exact Qi ⟨(sm rfl),(sm rfl),(kFun hM ho11),(kPtr rfl),(kPtr rfl),(sm rfl),(sm rfl),tv⟩ ⟨⟨_,rfl,rfl,(.cons (WkV.nilsO _) (.cons (sm rfl) (.cons (WkV.nilsO _) (.cons (WkV.nilsO _) .nil))))⟩,⟨_,rfl,rfl,(.cons (kSl rfl) (.cons (sm rfl) (.cons (WkV.nilsO _) (.cons (WkV.nilsO _) .nil))))⟩,⟨_,rfl,rfl,(Qx fun _=>rfl)⟩,tv⟩ rfl) (fun k44 z h=>?_)
        ·obtain ⟨x36,x37,c38,c39,c40,a41,a42,a43⟩:=z
         replace h:_ = some _:=h
         refine sr ((Rn.bin tv rfl rfl rfl (nt ((Tr.seq ?_)))))
         refine Tr.cond rfl (fun hb45=>?_) (fun hb45=>?_)
         ·replace h:=ifT hb45 h
          refine Tr.skip (toN ?_)
          refine Tr.cutB (fun ((a69,a70):(List Int)×(List Qe))=>⟨look [(0,(i_ xfrom1)),(4,(b_ marked5)),(5,.clo g7 cp8),(12,.ptr (Γ.n0 + 12) 0),(14,.ptr (Γ.n0 + 14) 0),(68,(i_ x36)),(69,(i_ x37))],Qm Γ.n0 (bxs [(12,.cells ([(o_ c38),(i_ 0),(o_ c39),.own 3 (List.map Qa c40)])),(14,.cells ([.sl 1 (Γ.n0 + 60) 0 3 3,(i_ a41),(o_ a69),.own 3 (List.map Qa a70)])),(60,.cells (Q2 (fun (x:Int)=>[V.d (.int .i64 x)]) row31))]) M,Γ.n0 + 113⟩) h (fun z h=>?_) (fun z h=>?_)
          ·refine Tr.block (sr ((md rfl (md rfl (Rn.nil (toN ?_))))))
           refine Tr.cutB (fun (a51:List Int)=>⟨look [(0,(i_ xfrom1)),(4,(b_ marked5)),(5,.clo g7 cp8),(12,.ptr (Γ.n0 + 12) 0),(14,.ptr (Γ.n0 + 14) 0),(15,(i_ x37)),(68,(i_ x36)),(69,(i_ x37))],Qm Γ.n0 (bxs [(12,.cells ([(o_ c38),(i_ 0),(o_ c39),.own 3 (List.map Qa c40)])),(14,.cells ([.sl 1 (Γ.n0 + 60) 0 3 3,(i_ a41),(o_ a51),.own 3 (List.map Qa a43)])),(60,.cells (Q2 (fun (x:Int)=>[V.d (.int .i64 x)]) row31))]) M,Γ.n0 + 113⟩) h (fun z h=>?_) (fun z h=>?_)
           ·refine Tr.cutB (fun (x47:Bool)=>⟨look [(0,(i_ xfrom1)),(4,(b_ marked5)),(5,.clo g7 cp8),(12,.ptr (Γ.n0 + 12) 0),(14,.ptr (Γ.n0 + 14) 0),(15,(i_ x37)),(68,(i_ x36)),(69,(i_ x37)),(76,(b_ x47))],Qm Γ.n0 (bxs [(12,.cells ([(o_ c38),(i_ 0),(o_ c39),.own 3 (List.map Qa c40)])),(14,.cells ([.sl 1 (Γ.n0 + 60) 0 3 3,(i_ a41),(o_ a42),.own 3 (List.map Qa a43)])),(60,.cells (Q2 (fun (x:Int)=>[V.d (.int .i64 x)]) row31))]) M,Γ.n0 + 113⟩) h (fun z h=>?_) (fun z h=>?_)
            ·refine Tr.rgn (md rfl (Rn.bin tv rfl rfl rfl (md rfl ?_)))
             refine Qbr (x37 == 0) (fun hb46=>?_) (fun hb46=>?_)
             ·replace h:=bT hb46 h
              refine Rn.sk (nw rfl hb46) (Rn.pickT (v:=(b_ true)) tv rfl hb46 rfl (Rn.nil ?_))
              replace h:=si h; subst h
              exact Qg [] ⟨(sm rfl),(sm rfl),(kFun hM ho11),(kPtr rfl),(kPtr rfl),(sm rfl),(sm rfl),(sm rfl),(sm rfl),tv⟩ ⟨⟨_,rfl,rfl,(.same rfl)⟩,⟨_,rfl,rfl,(.cons (kSl rfl) (.cons (sm rfl) (.cons (sm rfl) (.cons (sm rfl) .nil))))⟩,⟨_,rfl,rfl,(Qx fun _=>rfl)⟩,tv⟩ rfl
             ·replace h:=bF hb46 h
              refine Rn.movD (gw rfl hb46) rfl (Rn.pickF (v:=(b_ marked5)) tv rfl hb46 rfl (Rn.nil ?_))
              replace h:=si h; subst h
              exact Qg [] ⟨(sm rfl),(sm rfl),(kFun hM ho11),(kPtr rfl),(kPtr rfl),(sm rfl),(sm rfl),(sm rfl),(sm rfl),tv⟩ ⟨⟨_,rfl,rfl,(.same rfl)⟩,⟨_,rfl,rfl,(.cons (kSl rfl) (.cons (sm rfl) (.cons (sm rfl) (.cons (sm rfl) .nil))))⟩,⟨_,rfl,rfl,(Qx fun _=>rfl)⟩,tv⟩ rfl
            ·obtain ⟨x47,rfl⟩ : ∃ x,x = z:=⟨_,rfl⟩
             refine Tr.cond rfl (fun hb48=>?_) (fun hb48=>?_)
             ·replace h:=bT hb48 h
              refine Tr.rgn (Rn.fldP (o':=2) tv rfl rfl (Rn.loadT (cs':=[.sl 1 (Γ.n0 + 60) 0 3 3,(i_ a41),(l_ a42),.own 3 (List.map Qa a43)]) tv rfl rfl rfl rfl (md rfl (Rn.bslice (xs:=[(i_ x37)]) (cs:=[(i_ x37)]) tv rfl rfl rfl rfl ?_))))
              obtain ⟨x49,h50,h⟩:=bnd h
              refine Rn.app (e:=(eI .i64)) tv rfl rfl rfl (Qb2 rfl rfl rfl) h50 rfl (Rn.fldP (o':=2) tv rfl rfl (Rn.storeO (cs':=[.sl 1 (Γ.n0 + 60) 0 3 3,(i_ a41),(o_ x49),.own 3 (List.map Qa a43)]) tv rfl rfl rfl rfl rfl (Rn.nil ?_)))
              replace h:=si h; subst h
              exact Qg [80] ⟨(sm rfl),(sm rfl),(kFun hM ho11),(kPtr rfl),(kPtr rfl),(sm rfl),(sm rfl),(sm rfl),tv⟩ ⟨⟨_,rfl,rfl,(.same rfl)⟩,⟨_,rfl,rfl,(.cons (kSl rfl) (.cons (sm rfl) (.cons (sm rfl) (.cons (sm rfl) .nil))))⟩,⟨_,rfl,rfl,(Qx fun _=>rfl)⟩,tv⟩ rfl
             ·replace h:=bF hb48 h
              refine Tr.skip ?_
              replace h:=si h; subst h
              exact Qg [] ⟨(sm rfl),(sm rfl),(kFun hM ho11),(kPtr rfl),(kPtr rfl),(sm rfl),(sm rfl),(sm rfl),tv⟩ ⟨⟨_,rfl,rfl,(.same rfl)⟩,⟨_,rfl,rfl,(.cons (kSl rfl) (.cons (sm rfl) (.cons (sm rfl) (.cons (sm rfl) .nil))))⟩,⟨_,rfl,rfl,(Qx fun _=>rfl)⟩,tv⟩ rfl
           ·obtain ⟨a51,rfl⟩ : ∃ x,x = z:=⟨_,rfl⟩
            refine sr ((Rn.fldP (o':=0) tv rfl rfl (Rn.load (v:=.sl 1 (Γ.n0 + 60) 0 3 3) tv rfl (Qj rfl) rfl rfl (Rn.lenA tv rfl (md rfl (nt ((Tr.block ?_))))))))
            refine Tr.loop (mk:=fun ((x52,a53):Int×(List Qe))=>⟨look [(0,(i_ xfrom1)),(4,(b_ marked5)),(5,.clo g7 cp8),(12,.ptr (Γ.n0 + 12) 0),(14,.ptr (Γ.n0 + 14) 0),(15,(i_ x37)),(68,(i_ x36)),(69,(i_ x37)),(84,.sl 1 (Γ.n0 + 60) 0 3 3),(85,(i_ (3:Int))),(86,(i_ x52))],Qm Γ.n0 (bxs [(12,.cells ([(o_ c38),(i_ 0),(o_ c39),.own 3 (List.map Qa c40)])),(14,.cells ([.sl 1 (Γ.n0 + 60) 0 3 3,(i_ a41),(o_ a51),.own 3 (List.map Qa a53)])),(60,.cells (Q2 (fun (x:Int)=>[V.d (.int .i64 x)]) row31))]) M,Γ.n0 + 113⟩) h (by exact Qi ⟨(sm rfl),(sm rfl),(kFun hM ho11),(kPtr rfl),(kPtr rfl),(sm rfl),(sm rfl),(sm rfl),(kSl rfl),(sm rfl),(sm rfl),tv⟩ ⟨⟨_,rfl,rfl,(.same rfl)⟩,⟨_,rfl,rfl,(.cons (kSl rfl) (.cons (sm rfl) (.cons (sm rfl) (.cons (sm rfl) .nil))))⟩,⟨_,rfl,rfl,(Qx fun _=>rfl)⟩,tv⟩ rfl) (fun k54 z h=>?_)
            ·obtain ⟨x52,a53⟩:=z
             replace h:_ = some _:=h
             refine sr ((Rn.bin tv rfl rfl rfl (nt ((Tr.seq ?_)))))
             refine Tr.cond rfl (fun hb55=>?_) (fun hb55=>?_)
             ·replace h:=ifT hb55 h
              refine Tr.skip (toN ?_)
              refine Tr.cutB (fun (a68:List Qe)=>⟨look [(0,(i_ xfrom1)),(4,(b_ marked5)),(5,.clo g7 cp8),(12,.ptr (Γ.n0 + 12) 0),(14,.ptr (Γ.n0 + 14) 0),(15,(i_ x37)),(68,(i_ x36)),(69,(i_ x37)),(84,.sl 1 (Γ.n0 + 60) 0 3 3),(85,(i_ (3:Int))),(86,(i_ x52))],Qm Γ.n0 (bxs [(12,.cells ([(o_ c38),(i_ 0),(o_ c39),.own 3 (List.map Qa c40)])),(14,.cells ([.sl 1 (Γ.n0 + 60) 0 3 3,(i_ a41),(o_ a51),.own 3 (List.map Qa a68)])),(60,.cells (Q2 (fun (x:Int)=>[V.d (.int .i64 x)]) row31))]) M,Γ.n0 + 113⟩) h (fun z h=>?_) (fun z h=>?_)
              ·refine Tr.block (Tr.seq (Tr.rgn ?_))
               obtain ⟨⟨⟩,h57,h⟩:=bnd h
               refine Rn.idxA tv rfl rfl h57 ?_
               obtain ⟨x58,h59,h⟩:=bnd h
               refine Rn.loadA (g:=(fun (x:Int)=>[V.d (.int .i64 x)])) (v:=(i_ x58)) (f:=0) (fun _=>rfl) tv rfl (Qj rfl) h59 rfl rfl (md rfl (nt ((sr ((Rn.mov (v:=.clo g7 cp8) tv rfl (md rfl (md rfl ?_))))))))
               obtain ⟨x61,h60,h⟩:=bnd h
               refine Rn.callvM (args:=[(i_ x37),(i_ x58)] ++ cp8) tv rfl (by rw [hc9]; rfl) (fun M2 nb2 hn hx=>hf10 _ _ _ h60 M2 nb2 (by omega) ((Qbdi hM).trans hx)) rfl pc9 ?_
               refine md rfl (Rn.nil (toN ?_))
               refine Tr.cutB (fun (next64:Int)=>⟨look [(0,(i_ xfrom1)),(4,(b_ marked5)),(5,.clo g7 cp8),(12,.ptr (Γ.n0 + 12) 0),(14,.ptr (Γ.n0 + 14) 0),(15,(i_ x37)),(17,(i_ x58)),(18,(i_ next64)),(68,(i_ x36)),(69,(i_ x37)),(84,.sl 1 (Γ.n0 + 60) 0 3 3),(85,(i_ (3:Int))),(86,(i_ x52))],Qm Γ.n0 (bxs [(12,.cells ([(o_ c38),(i_ 0),(o_ c39),.own 3 (List.map Qa c40)])),(14,.cells ([.sl 1 (Γ.n0 + 60) 0 3 3,(i_ a41),(o_ a51),.own 3 (List.map Qa a53)])),(60,.cells (Q2 (fun (x:Int)=>[V.d (.int .i64 x)]) row31))]) M,Γ.n0 + 113⟩) h (fun z h=>?_) (fun z h=>?_)
               ·refine sr ((md rfl (Rn.bin tv rfl rfl rfl (Rn.nil (toN ?_)))))
                refine Tr.cond rfl (fun hb62=>?_) (fun hb62=>?_)
                ·replace h:=bT hb62 h
                 refine sr ((md rfl (nt ((sr ((md rfl (md rfl (Rn.bin tv rfl rfl rfl (Rn.nil (toN ?_)))))))))))
                 refine Tr.cond rfl (fun hb63=>?_) (fun hb63=>?_)
                 ·replace h:=bT hb63 h
                  refine Tr.rgn (md rfl (Rn.nil ?_))
                  replace h:=si h; subst h
                  exact Qg [] ⟨(sm rfl),(sm rfl),(kFun hM ho11),(kPtr rfl),(kPtr rfl),(sm rfl),(sm rfl),(sm rfl),(sm rfl),(sm rfl),(kSl rfl),(sm rfl),(sm rfl),tv⟩ ⟨⟨_,rfl,rfl,(.same rfl)⟩,⟨_,rfl,rfl,(.cons (kSl rfl) (.cons (sm rfl) (.cons (sm rfl) (.cons (sm rfl) .nil))))⟩,⟨_,rfl,rfl,(Qx fun _=>rfl)⟩,tv⟩ rfl
                 ·replace h:=bF hb63 h
                  refine Tr.skip ?_
                  replace h:=si h; subst h
                  exact Qg [] ⟨(sm rfl),(sm rfl),(kFun hM ho11),(kPtr rfl),(kPtr rfl),(sm rfl),(sm rfl),(sm rfl),(sm rfl),(sm rfl),(kSl rfl),(sm rfl),(sm rfl),tv⟩ ⟨⟨_,rfl,rfl,(.same rfl)⟩,⟨_,rfl,rfl,(.cons (kSl rfl) (.cons (sm rfl) (.cons (sm rfl) (.cons (sm rfl) .nil))))⟩,⟨_,rfl,rfl,(Qx fun _=>rfl)⟩,tv⟩ rfl
                ·replace h:=bF hb62 h
                 refine Tr.skip ?_
                 replace h:=si h; subst h
                 exact Qg [] ⟨(sm rfl),(sm rfl),(kFun hM ho11),(kPtr rfl),(kPtr rfl),(sm rfl),(sm rfl),(sm rfl),(sm rfl),(sm rfl),(kSl rfl),(sm rfl),(sm rfl),tv⟩ ⟨⟨_,rfl,rfl,(.same rfl)⟩,⟨_,rfl,rfl,(.cons (kSl rfl) (.cons (sm rfl) (.cons (sm rfl) (.cons (sm rfl) .nil))))⟩,⟨_,rfl,rfl,(Qx fun _=>rfl)⟩,tv⟩ rfl
               ·obtain ⟨next64,rfl⟩ : ∃ x,x = z:=⟨_,rfl⟩
                refine sr ((md rfl (Rn.bin tv rfl rfl rfl (Rn.nil (toN ?_)))))
                refine Tr.cond rfl (fun hb65=>?_) (fun hb65=>?_)
                ·replace h:=bT hb65 h
                 refine Tr.rgn (Rn.fldP (o':=3) tv rfl rfl (Rn.loadT (cs':=[.sl 1 (Γ.n0 + 60) 0 3 3,(i_ a41),(o_ a51),.d (.lst 3 (List.map Qa a53))]) tv rfl rfl rfl rfl (md rfl (md rfl (md rfl (Rn.build (v:=.agg [(i_ x37),(i_ x58),(i_ next64)]) tv rfl (Rn.bslice (xs:=[.agg [(i_ x37),(i_ x58),(i_ next64)]]) (cs:=[(i_ x37),(i_ x58),(i_ next64)]) tv rfl rfl rfl rfl ?_)))))))
                 obtain ⟨x66,h67,h⟩:=bnd h
                 refine Rn.app (e:=Qa) tv rfl rfl rfl (Qb2 rfl rfl rfl) h67 rfl (Rn.fldP (o':=3) tv rfl rfl (Rn.storeO (cs':=[.sl 1 (Γ.n0 + 60) 0 3 3,(i_ a41),(o_ a51),.own 3 (List.map Qa x66)]) tv rfl rfl rfl rfl rfl (Rn.nil ?_)))
                 replace h:=si h; subst h
                 exact Qg [107] ⟨(sm rfl),(sm rfl),(kFun hM ho11),(kPtr rfl),(kPtr rfl),(sm rfl),(sm rfl),(sm rfl),(kSl rfl),(sm rfl),(sm rfl),tv⟩ ⟨⟨_,rfl,rfl,(.same rfl)⟩,⟨_,rfl,rfl,(.cons (kSl rfl) (.cons (sm rfl) (.cons (sm rfl) (.cons (sm rfl) .nil))))⟩,⟨_,rfl,rfl,(Qx fun _=>rfl)⟩,tv⟩ rfl
                ·replace h:=bF hb65 h
                 refine Tr.skip ?_
                 replace h:=si h; subst h
                 exact Qg [] ⟨(sm rfl),(sm rfl),(kFun hM ho11),(kPtr rfl),(kPtr rfl),(sm rfl),(sm rfl),(sm rfl),(kSl rfl),(sm rfl),(sm rfl),tv⟩ ⟨⟨_,rfl,rfl,(.same rfl)⟩,⟨_,rfl,rfl,(.cons (kSl rfl) (.cons (sm rfl) (.cons (sm rfl) (.cons (sm rfl) .nil))))⟩,⟨_,rfl,rfl,(Qx fun _=>rfl)⟩,tv⟩ rfl
              ·obtain ⟨a68,rfl⟩ : ∃ x,x = z:=⟨_,rfl⟩
               refine Tr.rgn (Rn.bin tv rfl rfl rfl (md rfl (Rn.nil ?_)))
               exact ⟨_,h,(by exact Qi ⟨(sm rfl),(sm rfl),(kFun hM ho11),(kPtr rfl),(kPtr rfl),(sm rfl),(sm rfl),(sm rfl),(kSl rfl),(sm rfl),(sm rfl),tv⟩ ⟨⟨_,rfl,rfl,(.same rfl)⟩,⟨_,rfl,rfl,(.cons (kSl rfl) (.cons (sm rfl) (.cons (sm rfl) (.cons (sm rfl) .nil))))⟩,⟨_,rfl,rfl,(Qx fun _=>rfl)⟩,tv⟩ rfl)⟩
             ·replace h:=ifF hb55 h
              refine Tr.exit ?_
              replace h:=si h; subst h
              exact Qg [] ⟨(sm rfl),(sm rfl),(kFun hM ho11),(kPtr rfl),(kPtr rfl),(sm rfl),(sm rfl),tv⟩ ⟨⟨_,rfl,rfl,(.same rfl)⟩,⟨_,rfl,rfl,(.cons (kSl rfl) (.cons (sm rfl) (.cons (sm rfl) (.cons (sm rfl) .nil))))⟩,⟨_,rfl,rfl,(Qx fun _=>rfl)⟩,tv⟩ rfl
          ·obtain ⟨a69,a70⟩:=z
           refine Tr.rgn (Rn.bin tv rfl rfl rfl (md rfl (Rn.nil ?_)))
           exact ⟨_,h,(by exact Qi ⟨(sm rfl),(sm rfl),(kFun hM ho11),(kPtr rfl),(kPtr rfl),(sm rfl),(sm rfl),tv⟩ ⟨⟨_,rfl,rfl,(.same rfl)⟩,⟨_,rfl,rfl,(.cons (kSl rfl) (.cons (sm rfl) (.cons (sm rfl) (.cons (sm rfl) .nil))))⟩,⟨_,rfl,rfl,(Qx fun _=>rfl)⟩,tv⟩ rfl)⟩
         ·replace h:=ifF hb45 h
          refine Tr.exit ?_
          replace h:=si h; subst h
          exact Qg [] ⟨(kPtr rfl),(kPtr rfl),tv⟩ ⟨⟨_,rfl,rfl,(.same rfl)⟩,⟨_,rfl,rfl,(.cons (kSl rfl) (.cons (sm rfl) (.cons (sm rfl) (.cons (sm rfl) .nil))))⟩,⟨_,rfl,rfl,(Qx fun _=>rfl)⟩,tv⟩ rfl
       ·obtain ⟨c71,c72,c73,a74,a75,a76⟩:=z
        refine sr ((Rn.load (v:=.agg [.sl 1 (Γ.n0 + 60) 0 3 3,(i_ a74),(l_ a75),.d (.lst 3 (List.map Qa a76))]) tv rfl (Qj rfl) rfl rfl (Rn.storeT (v:=.agg [.sl 1 (Γ.n0 + 60) 0 3 3,(i_ a74),(l_ a75),.d (.lst 3 (List.map Qa a76))]) (ds:=[.sl 1 (Γ.n0 + 60) 0 3 3,(i_ a74),(l_ a75),.d (.lst 3 (List.map Qa a76))]) (cs':=[.sl 1 (Γ.n0 + 60) 0 3 3,(i_ a74),(l_ a75),.d (.lst 3 (List.map Qa a76))]) tv rfl rfl rfl rfl rfl rfl rfl (md rfl (Rn.nil (toN ?_))))))
        obtain ⟨⟨⟩,hl77,h⟩:=bnd h
        refine Tr.weak (by show WeakSt Γ _ ⟨look [(12,.ptr (Γ.n0 + 12) 0),(13,(i_ 0)),(14,.ptr (Γ.n0 + 14) 0),(112,.agg [(l_ row31),(i_ a74),(l_ a75),.d (.lst 3 (List.map Qa a76))])],Qm Γ.n0 (bxs [(12,.cells ([(l_ row31),(i_ a74),(l_ a75),.d (.lst 3 (List.map Qa a76))])),(14,.cells ([(l_ row31),(i_ a74),(o_ a75),.own 3 (List.map Qa a76)]))]) M,Γ.n0 + 113⟩; exact Qf1 60 _ rfl (Q35 (fun _=>rfl) _) ⟨(fPtr rfl),(.same rfl),(fPtr rfl),(WkV.agg (.cons (fSlA (fun _=>rfl) (Qc2 hl77)) (.cons (.same rfl) (.cons (.same rfl) (.cons (.same rfl) .nil))))),tv⟩ ⟨⟨_,rfl,rfl,(.cons (fSlA (fun _=>rfl) (Qc2 hl77)) (.cons (.same rfl) (.cons (.same rfl) (.cons (.same rfl) .nil))))⟩,⟨_,rfl,rfl,(.cons (fSlA (fun _=>rfl) (Qc2 hl77)) (.cons (.same rfl) (.cons (.same rfl) (.cons (.same rfl) .nil))))⟩,tv⟩ rfl) ?_
        refine Tr.ret ?_
        replace h:=si h; subst h
        exact ⟨.inr rfl,.tup [.agg [(l_ row31),(i_ a74),(l_ a75),.d (.lst 3 (List.map Qa a76))],(i_ 0)],res2 (Qif rfl rfl rfl rfl) rfl,(WkV.tup (.cons (.same rfl) (.cons (.same rfl) .nil))).rd,⟨⟨tv,tv,tv,tv,tv⟩,tv,tv⟩,fun k hk=>Qh hk⟩
theorem Qsi {P:Program} {c:Nat} {Qci:Int→Int→Int→Int→Bool→(Int→Int→Option Int)→Option (Qf×Int)} {Qbt:Int→Int→Int→Int→Int→Option Int}
    (H_timedsynthesis_clock:Qg6 P 47 Qci)
    (H_timedsynthesis_Deadline_1:Qfc P 48 Qbt) (hcf:Qy P c = some Qf5):Qf4 P c (Qbw Qci Qbt):=by
 intro xfrom1 to2 ticks3 tick4 r h
 refine Qek hcf rfl fun Γ M hP hnt hM=>?_
 subst hP
 refine Tr.init [(0,(i_ xfrom1)),(1,(i_ to2)),(2,(i_ ticks3)),(3,(i_ tick4))] rfl ?_
 unfold Qbw at h
 unfold Qf5
 refine sr ((Rn.box (v:=(i_ xfrom1)) (cs:=[(i_ xfrom1)]) tv rfl rfl rfl rfl rfl (Rn.box (v:=(i_ to2)) (cs:=[(i_ to2)]) tv rfl rfl rfl rfl rfl (Rn.box (v:=(i_ ticks3)) (cs:=[(i_ ticks3)]) tv rfl rfl rfl rfl rfl (Rn.alloc tv rfl (md rfl (nt ((sr ((Rn.load (v:=(i_ xfrom1)) tv rfl (Qj rfl) rfl rfl (Rn.load (v:=(i_ to2)) tv rfl (Qj rfl) rfl rfl (Rn.load (v:=(i_ ticks3)) tv rfl (Qj rfl) rfl rfl (md rfl (Rn.k (v:=.clo 48 [.ptr (Γ.n0 + 4) 0,.ptr (Γ.n0 + 5) 0,.ptr (Γ.n0 + 6) 0]) tv rfl rfl rfl ?_)))))))))))))))
 obtain ⟨⟨r10,r11⟩,h9,h⟩:=bnd h
 refine Rn.callM (args:=[(i_ xfrom1),(i_ to2),(i_ ticks3),(i_ tick4),(b_ false),.clo 48 [.ptr (Γ.n0 + 4) 0,.ptr (Γ.n0 + 5) 0,.ptr (Γ.n0 + 6) 0]]) tv rfl (fun M2 nb2 hn hx=>H_timedsynthesis_clock _ _ _ _ _ _ 48 [.ptr (Γ.n0 + 4) 0,.ptr (Γ.n0 + 5) 0,.ptr (Γ.n0 + 6) 0] _ h9 M2 nb2 rfl ⟨Q13 (hx _ _ (Qj rfl)),Q13 (hx _ _ (Qj rfl)),Q13 (hx _ _ (Qj rfl)),tv⟩ (fun a5 a6 r7 h8 M3 nb3 hn3 hx3=>H_timedsynthesis_Deadline_1 a5 a6 xfrom1 to2 ticks3 (Γ.n0 + 4) (Γ.n0 + 5) (Γ.n0 + 6) r7 h8 M3 nb3 ((hx.trans hx3) _ _ (Qj rfl)) ((hx.trans hx3) _ _ (Qj rfl)) ((hx.trans hx3) _ _ (Qj rfl)))) rfl pc9 ?_
 refine Rn.ext (v:=(Qk r10)) (vs:=[(Qk r10),(i_ r11)]) tv rfl rfl rfl (Rn.ext (v:=(i_ r11)) (vs:=[(Qk r10),(i_ r11)]) tv rfl rfl rfl (Rn.storeT (v:=(Qk r10)) (ds:=(Qs r10)) (cs':=(Qs r10)) tv rfl rfl rfl rfl rfl rfl rfl (md rfl (nt ((Tr.ret ?_))))))
 replace h:=si h; subst h
 exact ⟨.inr rfl,.tup [(Qk r10),(i_ r11)],res2 (Qif rfl rfl rfl rfl) rfl,(WkV.tup (.cons (.same rfl) (.cons (.same rfl) .nil))).rd,⟨⟨tv,tv,tv,tv,tv⟩,tv,tv⟩,fun k hk=>Qh hk⟩
theorem Q3d {P:Program} {c:Nat} (hcf:Qy P c = some Qk5) (fuel:Nat):Qha P c (Qbl fuel):=by
 intro s1 s2 r h
 refine Qek hcf rfl fun Γ M hP hnt hM=>?_
 subst hP
 refine Tr.init [(0,(l_ s1)),(1,(l_ s2))] rfl ?_
 unfold Qbl at h
 unfold Qk5
 refine sr ((md rfl (nt ((Tr.seq (sr ((md rfl (Rn.lenD tv rfl (md rfl (Rn.lenD tv rfl (Rn.bin tv rfl rfl rfl (Rn.nil (toN ?_))))))))))))))
 refine Tr.cond rfl (fun hb3=>?_) (fun hb3=>?_)
 ·replace h:=bT hb3 h
  refine sr ((md rfl (nt ((Tr.ret ?_)))))
  replace h:=si h; subst h
  exact ⟨.inr rfl,(b_ false),rfl,fun _ _ _ _ h=>h,tv,fun k hk=>Qh hk⟩
 ·replace h:=bF hb3 h
  refine Tr.skip (toN (Tr.seq (sr ((md rfl (Rn.lenD tv rfl (md rfl (nt ((Tr.block ?_))))))))))
  refine Tr.loop (mk:=fun (x4:Int)=>⟨look [(0,(l_ s1)),(1,(l_ s2)),(12,(i_ (s1.length:Int))),(13,(i_ x4))],Qm Γ.n0 (bxs []) M,Γ.n0 + 26⟩) h (by exact Qi ⟨(sm rfl),(sm rfl),(sm rfl),(sm rfl),tv⟩ tv rfl) (fun k5 z h=>?_)
  ·obtain ⟨x4,rfl⟩ : ∃ x,x = z:=⟨_,rfl⟩
   replace h:_ = some _:=h
   refine sr ((Rn.bin tv rfl rfl rfl (nt ((Tr.seq ?_)))))
   refine Tr.cond rfl (fun hb6=>?_) (fun hb6=>?_)
   ·replace h:=ifT hb6 h
    refine Tr.skip (toN (Tr.seq (Tr.block (sr ((md rfl (md rfl (nt ((Tr.seq ?_))))))))))
    refine Tr.rgnD (by decide) ?_
    refine md rfl (md rfl ?_)
    obtain ⟨x7,h8,h⟩:=bnd h
    refine Rn.idxD (e:=(eI .i64)) tv rfl rfl h8 (Rn.loadC (x:=.int .i64 x7) tv rfl (md rfl (md rfl ?_)))
    obtain ⟨x9,h10,h⟩:=bnd h
    refine Rn.idxD (e:=(eI .i64)) tv rfl rfl h10 (Rn.loadC (x:=.int .i64 x9) tv rfl (Rn.bin tv rfl rfl rfl ?_))
    refine Rn.nil ⟨rfl,?_⟩
    refine toN ?_
    refine Tr.cond rfl (fun hb11=>?_) (fun hb11=>?_)
    ·replace h:=bT hb11 h
     refine sr ((md rfl (nt ((Tr.ret ?_)))))
     replace h:=si h; subst h
     exact ⟨.inr rfl,(b_ false),rfl,fun _ _ _ _ h=>h,tv,fun k hk=>Qh hk⟩
    ·replace h:=bF hb11 h
     refine Tr.skip (toN (Tr.rgn (Rn.bin tv rfl rfl rfl (md rfl (Rn.nil ?_)))))
     exact ⟨_,h,(by exact Qi ⟨(sm rfl),(sm rfl),(sm rfl),(sm rfl),tv⟩ tv rfl)⟩
   ·replace h:=ifF hb6 h
    refine Tr.exit (toN (sr ((md rfl (nt ((Tr.ret ?_)))))))
    replace h:=si h; subst h
    exact ⟨.inr rfl,(b_ true),rfl,fun _ _ _ _ h=>h,tv,fun k hk=>Qh hk⟩
theorem Q90 {P:Program} {c:Nat} {Qbl:(List Int)→(List Int)→Option Bool}
    (H_slices_Equal_int:Qha P 45 Qbl) (hcf:Qy P c = some Q2l):Qow P c (Qbx Qbl):=by
 intro a1 b2 r h
 refine Qek hcf rfl fun Γ M hP hnt hM=>?_
 subst hP
 refine Tr.init [(0,(l_ a1)),(1,(l_ b2))] rfl ?_
 unfold Qbx at h
 unfold Q2l
 refine sr ((md rfl (nt ((sr ((md rfl (md rfl ?_))))))))
 obtain ⟨x4,h3,h⟩:=bnd h
 refine Rn.call (args:=[(l_ a1),(l_ b2)]) tv rfl (H_slices_Equal_int _ _ _ h3) pc9 (md rfl (nt ((Tr.ret ?_))))
 replace h:=si h; subst h
 exact ⟨.inr rfl,(b_ x4),rfl,fun _ _ _ _ h=>h,tv,fun k hk=>Qh hk⟩
theorem Qxv {P:Program} {c:Nat} {Qw:Qb→Option (Q0×Int)} {Qbx:(List Int)→(List Int)→Option Bool} {Qbw:Int→Int→Int→Int→Option (Qf×Int)} {Qb9:(List Int)→Option Qb}
    (H_timedsynthesis_Synthesize:Qdu P 11 Qw)
    (H_word_Equal:Qow P 16 Qbx)
    (H_timedsynthesis_Deadline:Qf4 P 17 Qbw)
    (H_overseerlaw46_clock:Qhi P 35 Qb9) (hcf:Qy P c = some Qhn):Qhm P c (Qcs Qw Qbx Qbw Qb9):=by
 intro  r h
 refine Qek hcf rfl fun Γ M hP hnt hM=>?_
 subst hP
 refine Tr.init [] rfl ?_
 unfold Qcs at h
 unfold Qhn
 refine sr ((md rfl (nt ((sr ((Rn.bslice (xs:=[(i_ 0)]) (cs:=[(i_ 0)]) tv rfl rfl rfl rfl ?_)))))))
 refine Rn.weak (by show WeakSt Γ _ ⟨look [(0,(b_ false)),(8,(l_ [0]))],Qm Γ.n0 (bxs []) M,Γ.n0 + 77⟩; exact Qf1 8 [.int .i64 0] rfl rfl ⟨(.same rfl),(fSl rfl rfl),tv⟩ tv rfl) ?_
 obtain ⟨x2,h1,h⟩:=bnd h
 refine Rn.call (args:=[(l_ [0])]) tv rfl (H_overseerlaw46_clock _ _ h1) pc9 ?_
 obtain ⟨⟨r4,r5⟩,h3,h⟩:=bnd h
 refine Rn.call (args:=[.agg [(l_ x2.zA.zJ),(i_ x2.zA.zM),(l_ x2.zA.zK),.d (.lst 3 (List.map Qa x2.zA.zL)),(l_ x2.zC),.nils 1,(l_ x2.zD),(i_ x2.Tick)]]) tv rfl (fun M2 nb2=>ACalls.weak (args':=[.agg [(l_ x2.zA.zJ),(i_ x2.zA.zM),(l_ x2.zA.zK),.d (.lst 3 (List.map Qa x2.zA.zL)),(l_ x2.zC),(l_ []),(l_ x2.zD),(i_ x2.Tick)]]) (H_timedsynthesis_Synthesize _ _ h3 M2 nb2) (.cons (WkV.agg (.cons (sm rfl) (.cons (sm rfl) (.cons (sm rfl) (.cons (sm rfl) (.cons (sm rfl) (.cons (WkV.nilsD _) (.cons (sm rfl) (.cons (sm rfl) .nil))))))))) .nil) rfl) pc9 ?_
 refine Rn.mov (v:=.tup [.agg [(l_ r4.zE.Kept),(l_ r4.zE.zF),.d (.lst 4 (List.map Qc r4.zE.zG)),(i_ r4.Rounds),(l_ r4.zH.zJ),(i_ r4.zH.zM),(l_ r4.zH.zK),.d (.lst 3 (List.map Qa r4.zH.zL)),(l_ r4.zO),(l_ r4.zI)],(i_ r5)]) tv rfl (Rn.ext (v:=.agg [(l_ r4.zE.Kept),(l_ r4.zE.zF),.d (.lst 4 (List.map Qc r4.zE.zG)),(i_ r4.Rounds),(l_ r4.zH.zJ),(i_ r4.zH.zM),(l_ r4.zH.zK),.d (.lst 3 (List.map Qa r4.zH.zL)),(l_ r4.zO),(l_ r4.zI)]) (vs:=[.agg [(l_ r4.zE.Kept),(l_ r4.zE.zF),.d (.lst 4 (List.map Qc r4.zE.zG)),(i_ r4.Rounds),(l_ r4.zH.zJ),(i_ r4.zH.zM),(l_ r4.zH.zK),.d (.lst 3 (List.map Qa r4.zH.zL)),(l_ r4.zO),(l_ r4.zI)],(i_ r5)]) tv rfl rfl rfl (Rn.ext (v:=(i_ r5)) (vs:=[.agg [(l_ r4.zE.Kept),(l_ r4.zE.zF),.d (.lst 4 (List.map Qc r4.zE.zG)),(i_ r4.Rounds),(l_ r4.zH.zJ),(i_ r4.zH.zM),(l_ r4.zH.zK),.d (.lst 3 (List.map Qa r4.zH.zL)),(l_ r4.zO),(l_ r4.zI)],(i_ r5)]) tv rfl rfl rfl (Rn.alloc tv rfl (Rn.storeT (v:=.agg [(l_ r4.zE.Kept),(l_ r4.zE.zF),.d (.lst 4 (List.map Qc r4.zE.zG)),(i_ r4.Rounds),(l_ r4.zH.zJ),(i_ r4.zH.zM),(l_ r4.zH.zK),.d (.lst 3 (List.map Qa r4.zH.zL)),(l_ r4.zO),(l_ r4.zI)]) (ds:=[(l_ r4.zE.Kept),(l_ r4.zE.zF),.d (.lst 4 (List.map Qc r4.zE.zG)),(i_ r4.Rounds),(l_ r4.zH.zJ),(i_ r4.zH.zM),(l_ r4.zH.zK),.d (.lst 3 (List.map Qa r4.zH.zL)),(l_ r4.zO),(l_ r4.zI)]) (cs':=[(l_ r4.zE.Kept),(l_ r4.zE.zF),.d (.lst 4 (List.map Qc r4.zE.zG)),(i_ r4.Rounds),(l_ r4.zH.zJ),(i_ r4.zH.zM),(l_ r4.zH.zK),.d (.lst 3 (List.map Qa r4.zH.zL)),(l_ r4.zO),(l_ r4.zI)]) tv rfl rfl rfl rfl rfl rfl rfl (md rfl (nt ((Tr.seq (Tr.rgn ?_)))))))))
 obtain ⟨x7,h6,h⟩:=bnd h
 refine Rn.call (args:=[.nils 1]) tv rfl (fun M2 nb2=>ACalls.weak (args':=[(l_ [])]) (H_overseerlaw46_clock _ _ h6 M2 nb2) (.cons (WkV.nilsD _) .nil) rfl) pc9 ?_
 obtain ⟨⟨r9,r10⟩,h8,h⟩:=bnd h
 refine Rn.call (args:=[.agg [(l_ x7.zA.zJ),(i_ x7.zA.zM),(l_ x7.zA.zK),.d (.lst 3 (List.map Qa x7.zA.zL)),(l_ x7.zC),.nils 1,(l_ x7.zD),(i_ x7.Tick)]]) tv rfl (fun M2 nb2=>ACalls.weak (args':=[.agg [(l_ x7.zA.zJ),(i_ x7.zA.zM),(l_ x7.zA.zK),.d (.lst 3 (List.map Qa x7.zA.zL)),(l_ x7.zC),(l_ []),(l_ x7.zD),(i_ x7.Tick)]]) (H_timedsynthesis_Synthesize _ _ h8 M2 nb2) (.cons (WkV.agg (.cons (sm rfl) (.cons (sm rfl) (.cons (sm rfl) (.cons (sm rfl) (.cons (sm rfl) (.cons (WkV.nilsD _) (.cons (sm rfl) (.cons (sm rfl) .nil))))))))) .nil) rfl) pc9 ?_
 refine Rn.mov (v:=.tup [.agg [(l_ r9.zE.Kept),(l_ r9.zE.zF),.d (.lst 4 (List.map Qc r9.zE.zG)),(i_ r9.Rounds),(l_ r9.zH.zJ),(i_ r9.zH.zM),(l_ r9.zH.zK),.d (.lst 3 (List.map Qa r9.zH.zL)),(l_ r9.zO),(l_ r9.zI)],(i_ r10)]) tv rfl (Rn.ext (v:=.agg [(l_ r9.zE.Kept),(l_ r9.zE.zF),.d (.lst 4 (List.map Qc r9.zE.zG)),(i_ r9.Rounds),(l_ r9.zH.zJ),(i_ r9.zH.zM),(l_ r9.zH.zK),.d (.lst 3 (List.map Qa r9.zH.zL)),(l_ r9.zO),(l_ r9.zI)]) (vs:=[.agg [(l_ r9.zE.Kept),(l_ r9.zE.zF),.d (.lst 4 (List.map Qc r9.zE.zG)),(i_ r9.Rounds),(l_ r9.zH.zJ),(i_ r9.zH.zM),(l_ r9.zH.zK),.d (.lst 3 (List.map Qa r9.zH.zL)),(l_ r9.zO),(l_ r9.zI)],(i_ r10)]) tv rfl rfl rfl (Rn.ext (v:=(i_ r10)) (vs:=[.agg [(l_ r9.zE.Kept),(l_ r9.zE.zF),.d (.lst 4 (List.map Qc r9.zE.zG)),(i_ r9.Rounds),(l_ r9.zH.zJ),(i_ r9.zH.zM),(l_ r9.zH.zK),.d (.lst 3 (List.map Qa r9.zH.zL)),(l_ r9.zO),(l_ r9.zI)],(i_ r10)]) tv rfl rfl rfl (Rn.alloc tv rfl (Rn.storeT (v:=.agg [(l_ r9.zE.Kept),(l_ r9.zE.zF),.d (.lst 4 (List.map Qc r9.zE.zG)),(i_ r9.Rounds),(l_ r9.zH.zJ),(i_ r9.zH.zM),(l_ r9.zH.zK),.d (.lst 3 (List.map Qa r9.zH.zL)),(l_ r9.zO),(l_ r9.zI)]) (ds:=[(l_ r9.zE.Kept),(l_ r9.zE.zF),.d (.lst 4 (List.map Qc r9.zE.zG)),(i_ r9.Rounds),(l_ r9.zH.zJ),(i_ r9.zH.zM),(l_ r9.zH.zK),.d (.lst 3 (List.map Qa r9.zH.zL)),(l_ r9.zO),(l_ r9.zI)]) (cs':=[(l_ r9.zE.Kept),(l_ r9.zE.zF),.d (.lst 4 (List.map Qc r9.zE.zG)),(i_ r9.Rounds),(l_ r9.zH.zJ),(i_ r9.zH.zM),(l_ r9.zH.zK),.d (.lst 3 (List.map Qa r9.zH.zL)),(l_ r9.zO),(l_ r9.zI)]) tv rfl rfl rfl rfl rfl rfl rfl (md rfl (nt ((Tr.seq (Tr.rgn ?_)))))))))
 obtain ⟨⟨r12,r13⟩,h11,h⟩:=bnd h
 refine Rn.call (args:=[(i_ 0),(i_ 1),(i_ 1),(i_ 2)]) tv rfl (H_timedsynthesis_Deadline _ _ _ _ _ h11) pc9 (Rn.mov (v:=.tup [(Qk r12),(i_ r13)]) tv rfl (Rn.ext (v:=(Qk r12)) (vs:=[(Qk r12),(i_ r13)]) tv rfl rfl rfl (Rn.ext (v:=(i_ r13)) (vs:=[(Qk r12),(i_ r13)]) tv rfl rfl rfl (Rn.alloc tv rfl (Rn.storeT (v:=(Qk r12)) (ds:=(Qs r12)) (cs':=(Qs r12)) tv rfl rfl rfl rfl rfl rfl rfl (md rfl (Rn.nil (toN ?_))))))))
 refine Tr.cutB (fun (x27:Bool)=>⟨look [(0,(b_ x27))],Qm Γ.n0 (bxs [(1,.cells ([(l_ r4.zE.Kept),(l_ r4.zE.zF),.d (.lst 4 (List.map Qc r4.zE.zG)),(i_ r4.Rounds),(l_ r4.zH.zJ),(i_ r4.zH.zM),(l_ r4.zH.zK),.d (.lst 3 (List.map Qa r4.zH.zL)),(l_ r4.zO),(l_ r4.zI)])),(3,.cells ([(l_ r9.zE.Kept),(l_ r9.zE.zF),.d (.lst 4 (List.map Qc r9.zE.zG)),(i_ r9.Rounds),(l_ r9.zH.zJ),(i_ r9.zH.zM),(l_ r9.zH.zK),.d (.lst 3 (List.map Qa r9.zH.zL)),(l_ r9.zO),(l_ r9.zI)])),(5,.cells ((Qs r12)))]) M,Γ.n0 + 77⟩) h (fun z h=>?_) (fun z h=>?_)
 ·refine Tr.rgn (md rfl (Rn.bin tv rfl rfl rfl (md rfl ?_)))
  refine Qbr (r5 == 0) (fun hb14=>?_) (fun hb14=>?_)
  ·replace h:=bT hb14 h
   refine Rn.fldP (o':=9) (gw rfl hb14) rfl rfl (Rn.load (v:=(l_ r4.zI)) (gw rfl hb14) rfl (Qj rfl) rfl rfl (Rn.bslice (xs:=[(i_ 0)]) (cs:=[(i_ 0)]) (gw rfl hb14) rfl rfl rfl rfl ?_))
   refine Rn.weak (by show WeakSt Γ _ ⟨look [(0,(b_ false)),(1,.ptr (Γ.n0 + 1) 0),(2,(i_ r5)),(3,.ptr (Γ.n0 + 3) 0),(4,(i_ r10)),(5,.ptr (Γ.n0 + 5) 0),(6,(i_ r13)),(7,.tup [.agg [(l_ r4.zE.Kept),(l_ r4.zE.zF),.d (.lst 4 (List.map Qc r4.zE.zG)),(i_ r4.Rounds),(l_ r4.zH.zJ),(i_ r4.zH.zM),(l_ r4.zH.zK),.d (.lst 3 (List.map Qa r4.zH.zL)),(l_ r4.zO),(l_ r4.zI)],(i_ r5)]),(8,(l_ [0])),(9,.agg [(l_ x2.zA.zJ),(i_ x2.zA.zM),(l_ x2.zA.zK),.d (.lst 3 (List.map Qa x2.zA.zL)),(l_ x2.zC),.nils 1,(l_ x2.zD),(i_ x2.Tick)]),(10,.tup [.agg [(l_ r4.zE.Kept),(l_ r4.zE.zF),.d (.lst 4 (List.map Qc r4.zE.zG)),(i_ r4.Rounds),(l_ r4.zH.zJ),(i_ r4.zH.zM),(l_ r4.zH.zK),.d (.lst 3 (List.map Qa r4.zH.zL)),(l_ r4.zO),(l_ r4.zI)],(i_ r5)]),(11,.agg [(l_ r4.zE.Kept),(l_ r4.zE.zF),.d (.lst 4 (List.map Qc r4.zE.zG)),(i_ r4.Rounds),(l_ r4.zH.zJ),(i_ r4.zH.zM),(l_ r4.zH.zK),.d (.lst 3 (List.map Qa r4.zH.zL)),(l_ r4.zO),(l_ r4.zI)]),(12,(i_ r5)),(13,.tup [.agg [(l_ r9.zE.Kept),(l_ r9.zE.zF),.d (.lst 4 (List.map Qc r9.zE.zG)),(i_ r9.Rounds),(l_ r9.zH.zJ),(i_ r9.zH.zM),(l_ r9.zH.zK),.d (.lst 3 (List.map Qa r9.zH.zL)),(l_ r9.zO),(l_ r9.zI)],(i_ r10)]),(14,.agg [(l_ x7.zA.zJ),(i_ x7.zA.zM),(l_ x7.zA.zK),.d (.lst 3 (List.map Qa x7.zA.zL)),(l_ x7.zC),.nils 1,(l_ x7.zD),(i_ x7.Tick)]),(15,.tup [.agg [(l_ r9.zE.Kept),(l_ r9.zE.zF),.d (.lst 4 (List.map Qc r9.zE.zG)),(i_ r9.Rounds),(l_ r9.zH.zJ),(i_ r9.zH.zM),(l_ r9.zH.zK),.d (.lst 3 (List.map Qa r9.zH.zL)),(l_ r9.zO),(l_ r9.zI)],(i_ r10)]),(16,.agg [(l_ r9.zE.Kept),(l_ r9.zE.zF),.d (.lst 4 (List.map Qc r9.zE.zG)),(i_ r9.Rounds),(l_ r9.zH.zJ),(i_ r9.zH.zM),(l_ r9.zH.zK),.d (.lst 3 (List.map Qa r9.zH.zL)),(l_ r9.zO),(l_ r9.zI)]),(17,(i_ r10)),(18,.tup [(Qk r12),(i_ r13)]),(19,.tup [(Qk r12),(i_ r13)]),(20,(Qk r12)),(21,(i_ r13)),(22,(i_ r5)),(23,(b_ (r5 == 0))),(24,(b_ (r5 == 0))),(25,.ptr (Γ.n0 + 1) 9),(26,(l_ r4.zI)),(27,(l_ [0]))],Qm Γ.n0 (bxs [(1,.cells ([(l_ r4.zE.Kept),(l_ r4.zE.zF),.d (.lst 4 (List.map Qc r4.zE.zG)),(i_ r4.Rounds),(l_ r4.zH.zJ),(i_ r4.zH.zM),(l_ r4.zH.zK),.d (.lst 3 (List.map Qa r4.zH.zL)),(l_ r4.zO),(l_ r4.zI)])),(3,.cells ([(l_ r9.zE.Kept),(l_ r9.zE.zF),.d (.lst 4 (List.map Qc r9.zE.zG)),(i_ r9.Rounds),(l_ r9.zH.zJ),(i_ r9.zH.zM),(l_ r9.zH.zK),.d (.lst 3 (List.map Qa r9.zH.zL)),(l_ r9.zO),(l_ r9.zI)])),(5,.cells ((Qs r12)))]) M,Γ.n0 + 77⟩; exact Qf1 27 [.int .i64 0] rfl rfl ⟨(.same rfl),(fPtr rfl),(.same rfl),(fPtr rfl),(.same rfl),(fPtr rfl),(.same rfl),(.same rfl),(.same rfl),(.same rfl),(.same rfl),(.same rfl),(.same rfl),(.same rfl),(.same rfl),(.same rfl),(.same rfl),(.same rfl),(.same rfl),(.same rfl),(.same rfl),(.same rfl),(.same rfl),(.same rfl),(.same rfl),(fPtr rfl),(.same rfl),(fSl rfl rfl),tv⟩ ⟨⟨_,rfl,rfl,(.same rfl)⟩,⟨_,rfl,rfl,(.same rfl)⟩,⟨_,rfl,rfl,(.same rfl)⟩,tv⟩ rfl) ?_
   obtain ⟨x16,h15,h⟩:=bnd h
   refine Rn.call (args:=[(l_ r4.zI),(l_ [0])]) (gw rfl hb14) rfl (H_word_Equal _ _ _ h15) pc9 (Rn.pickT (v:=(b_ x16)) tv rfl hb14 rfl (md rfl ?_))
   refine Qbr x16 (fun hb17=>?_) (fun hb17=>?_)
   ·replace h:=bT hb17 h
    refine Rn.fldP (o':=9) (gw rfl hb17) rfl rfl (Rn.load (v:=(l_ r4.zI)) (gw rfl hb17) rfl (Qj rfl) rfl rfl (Rn.lenD (gw rfl hb17) rfl (Rn.bin (gw rfl hb17) rfl rfl rfl (Rn.pickT (v:=(b_ ((r4.zI.length:Int) == 1))) tv rfl hb17 rfl (md rfl ?_)))))
    refine Qbr ((r4.zI.length:Int) == 1) (fun hb18=>?_) (fun hb18=>?_)
    ·replace h:=bT hb18 h
     refine Rn.fldP (o':=4) (gw rfl hb18) rfl rfl (Rn.fldP (o':=5) (gw rfl hb18) rfl rfl (Rn.load (v:=(i_ r4.zH.zM)) (gw rfl hb18) rfl (Qj rfl) rfl rfl (Rn.bin (gw rfl hb18) rfl rfl rfl (Rn.pickT (v:=(b_ (r4.zH.zM == 1))) tv rfl hb18 rfl (md rfl ?_)))))
     refine Qbr (r4.zH.zM == 1) (fun hb19=>?_) (fun hb19=>?_)
     ·replace h:=bT hb19 h
      refine Rn.movD (gw rfl hb19) rfl (Rn.bin (gw rfl hb19) rfl rfl rfl (Rn.pickT (v:=(b_ (r10 == 0))) tv rfl hb19 rfl (md rfl ?_)))
      refine Qbr (r10 == 0) (fun hb20=>?_) (fun hb20=>?_)
      ·replace h:=bT hb20 h
       refine Rn.fldP (o':=0) (gw rfl hb20) rfl rfl (Rn.fldP (o':=2) (gw rfl hb20) rfl rfl (Rn.load (v:=.d (.lst 4 (List.map Qc r9.zE.zG))) (gw rfl hb20) rfl (Qj rfl) rfl rfl (Rn.lenD (gw rfl hb20) rfl (Rn.bin (gw rfl hb20) rfl rfl rfl (Rn.pickT (v:=(b_ ((r9.zE.zG.length:Int) == 2))) tv rfl hb20 rfl (md rfl ?_))))))
       refine Qbr ((r9.zE.zG.length:Int) == 2) (fun hb21=>?_) (fun hb21=>?_)
       ·replace h:=bT hb21 h
        refine Rn.fldP (o':=0) (gw rfl hb21) rfl rfl (Rn.fldP (o':=2) (gw rfl hb21) rfl rfl (Rn.load (v:=.d (.lst 4 (List.map Qc r9.zE.zG))) (gw rfl hb21) rfl (Qj rfl) rfl rfl ?_))
        obtain ⟨x22,h23,h⟩:=bnd h
        refine Rn.idxD (e:=Qc) (gw rfl hb21) rfl rfl h23 (Rn.loadCA (vs:=(Qev x22)) (gw rfl hb21) rfl rfl rfl (Rn.build (v:=.agg [(i_ 0),(i_ 2),(i_ 4),(i_ 2)]) (gw rfl hb21) rfl (Rn.eqa (r:=((x22.State == 0) && ((x22.Rank == 2) && ((x22.Reason == 4) && ((x22.Event == 2) && true))))) (gw rfl hb21) rfl rfl rfl (Rn.pickT (v:=(b_ ((x22.State == 0) && ((x22.Rank == 2) && ((x22.Reason == 4) && ((x22.Event == 2) && true)))))) tv rfl hb21 rfl (md rfl ?_)))))
        refine Qbr ((x22.State == 0) && ((x22.Rank == 2) && ((x22.Reason == 4) && ((x22.Event == 2) && true)))) (fun hb24=>?_) (fun hb24=>?_)
        ·replace h:=bT hb24 h
         refine Rn.movD (gw rfl hb24) rfl (Rn.bin (gw rfl hb24) rfl rfl rfl (Rn.pickT (v:=(b_ (r13 == 0))) tv rfl hb24 rfl (md rfl ?_)))
         refine Qbr (r13 == 0) (fun hb25=>?_) (fun hb25=>?_)
         ·replace h:=bT hb25 h
          refine Rn.fldP (o':=1) (gw rfl hb25) rfl rfl (Rn.load (v:=(i_ r12.zM)) (gw rfl hb25) rfl (Qj rfl) rfl rfl (Rn.bin (gw rfl hb25) rfl rfl rfl (Rn.pickT (v:=(b_ (r12.zM == 3))) tv rfl hb25 rfl (md rfl ?_))))
          refine Qbr (r12.zM == 3) (fun hb26=>?_) (fun hb26=>?_)
          ·replace h:=bT hb26 h
           refine Rn.fldP (o':=3) (gw rfl hb26) rfl rfl (Rn.load (v:=.d (.lst 3 (List.map Qa r12.zL))) (gw rfl hb26) rfl (Qj rfl) rfl rfl (Rn.lenD (gw rfl hb26) rfl (Rn.bin (gw rfl hb26) rfl rfl rfl (Rn.pickT (v:=(b_ ((r12.zL.length:Int) == 8))) tv rfl hb26 rfl (md rfl (Rn.nil ?_))))))
           replace h:=si h; subst h
           exact Qg [] ⟨(sm rfl),tv⟩ ⟨⟨_,rfl,rfl,(.same rfl)⟩,⟨_,rfl,rfl,(.same rfl)⟩,⟨_,rfl,rfl,(.same rfl)⟩,tv⟩ rfl
          ·replace h:=bF hb26 h
           refine Rn.sk (nw rfl hb26) (Rn.sk (nw rfl hb26) (Rn.sk (nw rfl hb26) (Rn.sk (nw rfl hb26) (Rn.pickF (v:=(b_ false)) tv rfl hb26 rfl (md rfl (Rn.nil ?_))))))
           replace h:=si h; subst h
           exact Qg [] ⟨(sm rfl),tv⟩ ⟨⟨_,rfl,rfl,(.same rfl)⟩,⟨_,rfl,rfl,(.same rfl)⟩,⟨_,rfl,rfl,(.same rfl)⟩,tv⟩ rfl
         ·replace h:=bF hb25 h
          refine Rn.sk (nw rfl hb25) (Rn.sk (nw rfl hb25) (Rn.sk (nw rfl hb25) (Rn.pickF (v:=(b_ false)) tv rfl hb25 rfl (md rfl (Rn.sk (nw (b:=false) rfl rfl) (Rn.sk (nw (b:=false) rfl rfl) (Rn.sk (nw (b:=false) rfl rfl) (Rn.sk (nw (b:=false) rfl rfl) (Rn.pickF (v:=(b_ false)) tv rfl rfl rfl (md rfl (Rn.nil ?_)))))))))))
          replace h:=si h; subst h
          exact Qg [] ⟨(sm rfl),tv⟩ ⟨⟨_,rfl,rfl,(.same rfl)⟩,⟨_,rfl,rfl,(.same rfl)⟩,⟨_,rfl,rfl,(.same rfl)⟩,tv⟩ rfl
        ·replace h:=bF hb24 h
         refine Rn.sk (nw rfl hb24) (Rn.sk (nw rfl hb24) (Rn.pickF (v:=(b_ false)) tv rfl hb24 rfl (md rfl (Rn.sk (nw (b:=false) rfl rfl) (Rn.sk (nw (b:=false) rfl rfl) (Rn.sk (nw (b:=false) rfl rfl) (Rn.pickF (v:=(b_ false)) tv rfl rfl rfl (md rfl (Rn.sk (nw (b:=false) rfl rfl) (Rn.sk (nw (b:=false) rfl rfl) (Rn.sk (nw (b:=false) rfl rfl) (Rn.sk (nw (b:=false) rfl rfl) (Rn.pickF (v:=(b_ false)) tv rfl rfl rfl (md rfl (Rn.nil ?_)))))))))))))))
         replace h:=si h; subst h
         exact Qg [] ⟨(sm rfl),tv⟩ ⟨⟨_,rfl,rfl,(.same rfl)⟩,⟨_,rfl,rfl,(.same rfl)⟩,⟨_,rfl,rfl,(.same rfl)⟩,tv⟩ rfl
       ·replace h:=bF hb21 h
        refine Rn.sk (nw rfl hb21) (Rn.sk (nw rfl hb21) (Rn.sk (nw rfl hb21) (Rn.sk (nw rfl hb21) (Rn.sk (nw rfl hb21) (Rn.sk (nw rfl hb21) (Rn.sk (nw rfl hb21) (Rn.pickF (v:=(b_ false)) tv rfl hb21 rfl (md rfl (Rn.sk (nw (b:=false) rfl rfl) (Rn.sk (nw (b:=false) rfl rfl) (Rn.pickF (v:=(b_ false)) tv rfl rfl rfl (md rfl (Rn.sk (nw (b:=false) rfl rfl) (Rn.sk (nw (b:=false) rfl rfl) (Rn.sk (nw (b:=false) rfl rfl) (Rn.pickF (v:=(b_ false)) tv rfl rfl rfl (md rfl (Rn.sk (nw (b:=false) rfl rfl) (Rn.sk (nw (b:=false) rfl rfl) (Rn.sk (nw (b:=false) rfl rfl) (Rn.sk (nw (b:=false) rfl rfl) (Rn.pickF (v:=(b_ false)) tv rfl rfl rfl (md rfl (Rn.nil ?_))))))))))))))))))))))))
        replace h:=si h; subst h
        exact Qg [] ⟨(sm rfl),tv⟩ ⟨⟨_,rfl,rfl,(.same rfl)⟩,⟨_,rfl,rfl,(.same rfl)⟩,⟨_,rfl,rfl,(.same rfl)⟩,tv⟩ rfl
      ·replace h:=bF hb20 h
       refine Rn.sk (nw rfl hb20) (Rn.sk (nw rfl hb20) (Rn.sk (nw rfl hb20) (Rn.sk (nw rfl hb20) (Rn.sk (nw rfl hb20) (Rn.pickF (v:=(b_ false)) tv rfl hb20 rfl (md rfl (Rn.sk (nw (b:=false) rfl rfl) (Rn.sk (nw (b:=false) rfl rfl) (Rn.sk (nw (b:=false) rfl rfl) (Rn.sk (nw (b:=false) rfl rfl) (Rn.sk (nw (b:=false) rfl rfl) (Rn.sk (nw (b:=false) rfl rfl) (Rn.sk (nw (b:=false) rfl rfl) (Rn.pickF (v:=(b_ false)) tv rfl rfl rfl (md rfl (Rn.sk (nw (b:=false) rfl rfl) (Rn.sk (nw (b:=false) rfl rfl) (Rn.pickF (v:=(b_ false)) tv rfl rfl rfl (md rfl (Rn.sk (nw (b:=false) rfl rfl) (Rn.sk (nw (b:=false) rfl rfl) (Rn.sk (nw (b:=false) rfl rfl) (Rn.pickF (v:=(b_ false)) tv rfl rfl rfl (md rfl (Rn.sk (nw (b:=false) rfl rfl) (Rn.sk (nw (b:=false) rfl rfl) (Rn.sk (nw (b:=false) rfl rfl) (Rn.sk (nw (b:=false) rfl rfl) (Rn.pickF (v:=(b_ false)) tv rfl rfl rfl (md rfl (Rn.nil ?_)))))))))))))))))))))))))))))))
       replace h:=si h; subst h
       exact Qg [] ⟨(sm rfl),tv⟩ ⟨⟨_,rfl,rfl,(.same rfl)⟩,⟨_,rfl,rfl,(.same rfl)⟩,⟨_,rfl,rfl,(.same rfl)⟩,tv⟩ rfl
     ·replace h:=bF hb19 h
      refine Rn.sk (nw rfl hb19) (Rn.sk (nw rfl hb19) (Rn.pickF (v:=(b_ false)) tv rfl hb19 rfl (md rfl (Rn.sk (nw (b:=false) rfl rfl) (Rn.sk (nw (b:=false) rfl rfl) (Rn.sk (nw (b:=false) rfl rfl) (Rn.sk (nw (b:=false) rfl rfl) (Rn.sk (nw (b:=false) rfl rfl) (Rn.pickF (v:=(b_ false)) tv rfl rfl rfl (md rfl (Rn.sk (nw (b:=false) rfl rfl) (Rn.sk (nw (b:=false) rfl rfl) (Rn.sk (nw (b:=false) rfl rfl) (Rn.sk (nw (b:=false) rfl rfl) (Rn.sk (nw (b:=false) rfl rfl) (Rn.sk (nw (b:=false) rfl rfl) (Rn.sk (nw (b:=false) rfl rfl) (Rn.pickF (v:=(b_ false)) tv rfl rfl rfl (md rfl (Rn.sk (nw (b:=false) rfl rfl) (Rn.sk (nw (b:=false) rfl rfl) (Rn.pickF (v:=(b_ false)) tv rfl rfl rfl (md rfl (Rn.sk (nw (b:=false) rfl rfl) (Rn.sk (nw (b:=false) rfl rfl) (Rn.sk (nw (b:=false) rfl rfl) (Rn.pickF (v:=(b_ false)) tv rfl rfl rfl (md rfl (Rn.sk (nw (b:=false) rfl rfl) (Rn.sk (nw (b:=false) rfl rfl) (Rn.sk (nw (b:=false) rfl rfl) (Rn.sk (nw (b:=false) rfl rfl) (Rn.pickF (v:=(b_ false)) tv rfl rfl rfl (md rfl (Rn.nil ?_)))))))))))))))))))))))))))))))))))
      replace h:=si h; subst h
      exact Qg [] ⟨(sm rfl),tv⟩ ⟨⟨_,rfl,rfl,(.same rfl)⟩,⟨_,rfl,rfl,(.same rfl)⟩,⟨_,rfl,rfl,(.same rfl)⟩,tv⟩ rfl
    ·replace h:=bF hb18 h
     refine Rn.sk (nw rfl hb18) (Rn.sk (nw rfl hb18) (Rn.sk (nw rfl hb18) (Rn.sk (nw rfl hb18) (Rn.pickF (v:=(b_ false)) tv rfl hb18 rfl (md rfl (Rn.sk (nw (b:=false) rfl rfl) (Rn.sk (nw (b:=false) rfl rfl) (Rn.pickF (v:=(b_ false)) tv rfl rfl rfl (md rfl (Rn.sk (nw (b:=false) rfl rfl) (Rn.sk (nw (b:=false) rfl rfl) (Rn.sk (nw (b:=false) rfl rfl) (Rn.sk (nw (b:=false) rfl rfl) (Rn.sk (nw (b:=false) rfl rfl) (Rn.pickF (v:=(b_ false)) tv rfl rfl rfl (md rfl (Rn.sk (nw (b:=false) rfl rfl) (Rn.sk (nw (b:=false) rfl rfl) (Rn.sk (nw (b:=false) rfl rfl) (Rn.sk (nw (b:=false) rfl rfl) (Rn.sk (nw (b:=false) rfl rfl) (Rn.sk (nw (b:=false) rfl rfl) (Rn.sk (nw (b:=false) rfl rfl) (Rn.pickF (v:=(b_ false)) tv rfl rfl rfl (md rfl (Rn.sk (nw (b:=false) rfl rfl) (Rn.sk (nw (b:=false) rfl rfl) (Rn.pickF (v:=(b_ false)) tv rfl rfl rfl (md rfl (Rn.sk (nw (b:=false) rfl rfl) (Rn.sk (nw (b:=false) rfl rfl) (Rn.sk (nw (b:=false) rfl rfl) (Rn.pickF (v:=(b_ false)) tv rfl rfl rfl (md rfl (Rn.sk (nw (b:=false) rfl rfl) (Rn.sk (nw (b:=false) rfl rfl) (Rn.sk (nw (b:=false) rfl rfl) (Rn.sk (nw (b:=false) rfl rfl) (Rn.pickF (v:=(b_ false)) tv rfl rfl rfl ?_)))))))))))))))))))))))))))))))))))))))
     refine md rfl (Rn.nil ?_)
     replace h:=si h; subst h
     exact Qg [] ⟨(sm rfl),tv⟩ ⟨⟨_,rfl,rfl,(.same rfl)⟩,⟨_,rfl,rfl,(.same rfl)⟩,⟨_,rfl,rfl,(.same rfl)⟩,tv⟩ rfl
   ·replace h:=bF hb17 h
    refine Rn.sk (nw rfl hb17) (Rn.sk (nw rfl hb17) (Rn.sk (nw rfl hb17) (Rn.sk (nw rfl hb17) (Rn.pickF (v:=(b_ false)) tv rfl hb17 rfl (md rfl (Rn.sk (nw (b:=false) rfl rfl) (Rn.sk (nw (b:=false) rfl rfl) (Rn.sk (nw (b:=false) rfl rfl) (Rn.sk (nw (b:=false) rfl rfl) (Rn.pickF (v:=(b_ false)) tv rfl rfl rfl (md rfl (Rn.sk (nw (b:=false) rfl rfl) (Rn.sk (nw (b:=false) rfl rfl) (Rn.pickF (v:=(b_ false)) tv rfl rfl rfl (md rfl (Rn.sk (nw (b:=false) rfl rfl) (Rn.sk (nw (b:=false) rfl rfl) (Rn.sk (nw (b:=false) rfl rfl) (Rn.sk (nw (b:=false) rfl rfl) (Rn.sk (nw (b:=false) rfl rfl) (Rn.pickF (v:=(b_ false)) tv rfl rfl rfl (md rfl (Rn.sk (nw (b:=false) rfl rfl) (Rn.sk (nw (b:=false) rfl rfl) (Rn.sk (nw (b:=false) rfl rfl) (Rn.sk (nw (b:=false) rfl rfl) (Rn.sk (nw (b:=false) rfl rfl) (Rn.sk (nw (b:=false) rfl rfl) (Rn.sk (nw (b:=false) rfl rfl) (Rn.pickF (v:=(b_ false)) tv rfl rfl rfl (md rfl (Rn.sk (nw (b:=false) rfl rfl) (Rn.sk (nw (b:=false) rfl rfl) (Rn.pickF (v:=(b_ false)) tv rfl rfl rfl (md rfl (Rn.sk (nw (b:=false) rfl rfl) (Rn.sk (nw (b:=false) rfl rfl) (Rn.sk (nw (b:=false) rfl rfl) (Rn.pickF (v:=(b_ false)) tv rfl rfl rfl ?_)))))))))))))))))))))))))))))))))))))))
    refine md rfl (Rn.sk (nw (b:=false) rfl rfl) (Rn.sk (nw (b:=false) rfl rfl) (Rn.sk (nw (b:=false) rfl rfl) (Rn.sk (nw (b:=false) rfl rfl) (Rn.pickF (v:=(b_ false)) tv rfl rfl rfl (md rfl (Rn.nil ?_)))))))
    replace h:=si h; subst h
    exact Qg [] ⟨(sm rfl),tv⟩ ⟨⟨_,rfl,rfl,(.same rfl)⟩,⟨_,rfl,rfl,(.same rfl)⟩,⟨_,rfl,rfl,(.same rfl)⟩,tv⟩ rfl
  ·replace h:=bF hb14 h
   refine Rn.sk (nw rfl hb14) (Rn.sk (nw rfl hb14) (Rn.sk (nw rfl hb14) (Rn.sk (nw rfl hb14) (Rn.pickF (v:=(b_ false)) tv rfl hb14 rfl (md rfl (Rn.sk (nw (b:=false) rfl rfl) (Rn.sk (nw (b:=false) rfl rfl) (Rn.sk (nw (b:=false) rfl rfl) (Rn.sk (nw (b:=false) rfl rfl) (Rn.pickF (v:=(b_ false)) tv rfl rfl rfl (md rfl (Rn.sk (nw (b:=false) rfl rfl) (Rn.sk (nw (b:=false) rfl rfl) (Rn.sk (nw (b:=false) rfl rfl) (Rn.sk (nw (b:=false) rfl rfl) (Rn.pickF (v:=(b_ false)) tv rfl rfl rfl (md rfl (Rn.sk (nw (b:=false) rfl rfl) (Rn.sk (nw (b:=false) rfl rfl) (Rn.pickF (v:=(b_ false)) tv rfl rfl rfl (md rfl (Rn.sk (nw (b:=false) rfl rfl) (Rn.sk (nw (b:=false) rfl rfl) (Rn.sk (nw (b:=false) rfl rfl) (Rn.sk (nw (b:=false) rfl rfl) (Rn.sk (nw (b:=false) rfl rfl) (Rn.pickF (v:=(b_ false)) tv rfl rfl rfl (md rfl (Rn.sk (nw (b:=false) rfl rfl) (Rn.sk (nw (b:=false) rfl rfl) (Rn.sk (nw (b:=false) rfl rfl) (Rn.sk (nw (b:=false) rfl rfl) (Rn.sk (nw (b:=false) rfl rfl) (Rn.sk (nw (b:=false) rfl rfl) (Rn.sk (nw (b:=false) rfl rfl) (Rn.pickF (v:=(b_ false)) tv rfl rfl rfl (md rfl (Rn.sk (nw (b:=false) rfl rfl) (Rn.sk (nw (b:=false) rfl rfl) ?_)))))))))))))))))))))))))))))))))))))))
   refine Rn.pickF (v:=(b_ false)) tv rfl rfl rfl (md rfl (Rn.sk (nw (b:=false) rfl rfl) (Rn.sk (nw (b:=false) rfl rfl) (Rn.sk (nw (b:=false) rfl rfl) (Rn.pickF (v:=(b_ false)) tv rfl rfl rfl (md rfl (Rn.sk (nw (b:=false) rfl rfl) (Rn.sk (nw (b:=false) rfl rfl) (Rn.sk (nw (b:=false) rfl rfl) (Rn.sk (nw (b:=false) rfl rfl) (Rn.pickF (v:=(b_ false)) tv rfl rfl rfl (md rfl (Rn.nil ?_)))))))))))))
   replace h:=si h; subst h
   exact Qg [] ⟨(sm rfl),tv⟩ ⟨⟨_,rfl,rfl,(.same rfl)⟩,⟨_,rfl,rfl,(.same rfl)⟩,⟨_,rfl,rfl,(.same rfl)⟩,tv⟩ rfl
 ·obtain ⟨x27,rfl⟩ : ∃ x,x = z:=⟨_,rfl⟩
  refine Tr.ret ?_
  replace h:=si h; subst h
  exact ⟨.inr rfl,(b_ x27),rfl,fun _ _ _ _ h=>h,tv,fun k hk=>Qh hk⟩
theorem Qq4 {P:Program} {c:Nat} (hcf:Qy P c = some Qfq) (fuel:Nat):Qfp P c (Qbd fuel):=by
 intro s1 r h
 refine Qek hcf rfl fun Γ M hP hnt hM=>?_
 subst hP
 refine Tr.init [(0,.d (.int .u8 s1))] rfl ?_
 unfold Qbd at h
 unfold Qfq
 refine sr ((Rn.movTC (v:=.nils 1) tv (nt ((sr ((Rn.movTC (v:=.nils 1) tv (Rn.nil (toN ?_)))))))))
 refine Tr.cutB (fun (out12:List Int)=>⟨look [(3,(o_ out12))],Qm Γ.n0 (bxs []) M,Γ.n0 + 19⟩) h (fun z h=>?_) (fun z h=>?_)
 ·refine sr ((md rfl (nt ((Tr.block ?_)))))
  refine Tr.loop (mk:=fun ((out2,i3):(List Int)×Int)=>⟨look [(0,.d (.int .u8 s1)),(3,(o_ out2)),(4,(i_ i3))],Qm Γ.n0 (bxs []) M,Γ.n0 + 19⟩) h (by exact Qi ⟨(sm rfl),(WkV.nilsO _),(sm rfl),tv⟩ tv rfl) (fun k4 z h=>?_)
  ·obtain ⟨out2,i3⟩:=z
   replace h:_ = some _:=h
   refine Tr.seq (sr ((md rfl (Rn.bin tv rfl rfl rfl (Rn.nil (toN ?_))))))
   refine Tr.cond rfl (fun hb5=>?_) (fun hb5=>?_)
   ·replace h:=ifT hb5 h
    refine Tr.skip (toN ?_)
    refine Tr.cutB (fun (out11:List Int)=>⟨look [(0,.d (.int .u8 s1)),(3,(o_ out11)),(4,(i_ i3))],Qm Γ.n0 (bxs []) M,Γ.n0 + 19⟩) h (fun z h=>?_) (fun z h=>?_)
    ·refine Tr.block (sr ((md rfl (md rfl ?_))))
     obtain ⟨s6,h7,h⟩:=bnd h
     refine Rn.bin tv rfl rfl (Qber h7) (Rn.bin tv rfl rfl rfl (Rn.bin tv rfl rfl rfl (Rn.nil (toN ?_))))
     refine Tr.cond rfl (fun hb8=>?_) (fun hb8=>?_)
     ·replace h:=bT hb8 h
      refine Tr.rgn (Rn.movTO tv rfl (md rfl (Rn.bslice (xs:=[(i_ i3)]) (cs:=[(i_ i3)]) tv rfl rfl rfl rfl ?_)))
      obtain ⟨x9,h10,h⟩:=bnd h
      refine Rn.app (e:=(eI .i64)) tv rfl rfl rfl (Qb2 rfl rfl rfl) h10 rfl (Rn.movTO tv rfl (Rn.nil ?_))
      replace h:=si h; subst h
      exact Qg [16] ⟨(sm rfl),(sm rfl),(sm rfl),tv⟩ tv rfl
     ·replace h:=bF hb8 h
      refine Tr.skip ?_
      replace h:=si h; subst h
      exact Qg [] ⟨(sm rfl),(sm rfl),(sm rfl),tv⟩ tv rfl
    ·obtain ⟨out11,rfl⟩ : ∃ x,x = z:=⟨_,rfl⟩
     refine Tr.rgn (md rfl (Rn.bin tv rfl rfl rfl (md rfl (Rn.nil ?_))))
     exact ⟨_,h,(by exact Qi ⟨(sm rfl),(sm rfl),(sm rfl),tv⟩ tv rfl)⟩
   ·replace h:=ifF hb5 h
    refine Tr.exit ?_
    replace h:=si h; subst h
    exact Qg [] ⟨(sm rfl),tv⟩ tv rfl
 ·obtain ⟨out12,rfl⟩ : ∃ x,x = z:=⟨_,rfl⟩
  refine sr ((Rn.movTO tv rfl (Rn.movTO tv rfl (nt ((Tr.ret ?_))))))
  replace h:=si h; subst h
  exact ⟨.inr rfl,(o_ out12),rfl,fun _ _ _ _ h=>h,tv,fun k hk=>Qh hk⟩
theorem Qxw {P:Program} {c:Nat} (hcf:Qy P c = some Qho):Qfw P c (Q6):=by
 intro alphabet1 r h
 refine Qek hcf rfl fun Γ M hP hnt hM=>?_
 subst hP
 refine Tr.init [(0,(l_ alphabet1))] rfl ?_
 unfold Q6 at h
 unfold Qho
 refine sr ((Rn.alloc tv rfl (nt ((sr ((Rn.bslice (xs:=[]) (cs:=[]) tv rfl rfl rfl rfl (md rfl ?_))))))))
 obtain ⟨x2,h3,h⟩:=bnd h
 refine Rn.app0 (e:=(eI .i64)) tv rfl rfl rfl rfl Q9r h3 rfl (Rn.buildT (v:=.agg [(o_ x2),(i_ 0),.nils 1,.nils 3]) tv rfl (Rn.storeT (v:=.agg [(o_ x2),(i_ 0),.nils 1,.nils 3]) (ds:=[(o_ x2),(i_ 0),.nils 1,.nils 3]) (cs':=[(o_ x2),(i_ 0),.nils 1,.nils 3]) tv rfl rfl rfl rfl rfl rfl rfl (nt ((Tr.ret ?_)))))
 replace h:=si h; subst h
 exact ⟨.inr rfl,(.agg [(l_ x2),(i_ 0),.nils 1,.nils 3]),Qif rfl rfl rfl rfl,fun _ _ _ _ h=>h,⟨tv,tv,tv,tv,tv⟩,fun k hk=>Qh hk⟩
theorem Qzn {P:Program} {c:Nat} (hcf:Qy P c = some Qii) (fuel:Nat):Qgb P c (Qbc fuel):=by
 intro a1 state2 event3 r h
 refine Qek hcf rfl fun Γ M hP hnt hM=>?_
 subst hP
 refine Tr.init [(0,(Qk a1)),(1,(i_ state2)),(2,(i_ event3))] rfl ?_
 unfold Qbc at h
 unfold Qii
 refine sr ((Rn.box (v:=(Qk a1)) (cs:=(Qs a1)) tv rfl rfl rfl rfl rfl (md rfl (nt ((Tr.seq (sr ((md rfl (nt ((Tr.block ?_))))))))))))
 refine Tr.loop (mk:=fun (i4:Int)=>⟨look [(1,(i_ state2)),(2,(i_ event3)),(3,.ptr (Γ.n0 + 3) 0),(7,(i_ i4))],Qm Γ.n0 (bxs [(3,.cells ((Qs a1)))]) M,Γ.n0 + 39⟩) h (by exact Qi ⟨(sm rfl),(sm rfl),(kPtr rfl),(sm rfl),tv⟩ ⟨⟨_,rfl,rfl,(.same rfl)⟩,tv⟩ rfl) (fun k5 z h=>?_)
 ·obtain ⟨i4,rfl⟩ : ∃ x,x = z:=⟨_,rfl⟩
  replace h:_ = some _:=h
  refine Tr.seq (sr ((md rfl (Rn.fldP (o':=3) tv rfl rfl (Rn.load (v:=.d (.lst 3 (List.map Qa a1.zL))) tv rfl (Qj rfl) rfl rfl (Rn.lenD tv rfl (Rn.bin tv rfl rfl rfl (Rn.nil (toN ?_)))))))))
  refine Tr.cond rfl (fun hb6=>?_) (fun hb6=>?_)
  ·replace h:=ifT hb6 h
   refine Tr.skip (toN (Tr.seq (Tr.block ?_)))
   refine Tr.cutB (fun (x12:Bool)=>⟨look [(1,(i_ state2)),(2,(i_ event3)),(3,.ptr (Γ.n0 + 3) 0),(7,(i_ i4)),(32,(b_ x12))],Qm Γ.n0 (bxs [(3,.cells ((Qs a1)))]) M,Γ.n0 + 39⟩) h (fun z h=>?_) (fun z h=>?_)
   ·refine Tr.rgn (Rn.fldP (o':=3) tv rfl rfl (Rn.load (v:=.d (.lst 3 (List.map Qa a1.zL))) tv rfl (Qj rfl) rfl rfl (md rfl ?_)))
    obtain ⟨x7,h8,h⟩:=bnd h
    refine Rn.idxD (e:=Qa) tv rfl rfl h8 (Rn.fldC tv rfl (Rn.loadC (x:=.int .i64 x7.From) tv rfl (md rfl (Rn.bin tv rfl rfl rfl (md rfl ?_)))))
    refine Qbr (x7.From == state2) (fun hb9=>?_) (fun hb9=>?_)
    ·replace h:=bT hb9 h
     refine Rn.fldP (o':=3) (gw rfl hb9) rfl rfl (Rn.load (v:=.d (.lst 3 (List.map Qa a1.zL))) (gw rfl hb9) rfl (Qj rfl) rfl rfl (Rn.movD (gw rfl hb9) rfl ?_))
     obtain ⟨x10,h11,h⟩:=bnd h
     refine Rn.idxD (e:=Qa) (gw rfl hb9) rfl rfl h11 (Rn.fldC (gw rfl hb9) rfl (Rn.loadC (x:=.int .i64 x10.Event) (gw rfl hb9) rfl (Rn.movD (gw rfl hb9) rfl (Rn.bin (gw rfl hb9) rfl rfl rfl (Rn.pickT (v:=(b_ (x10.Event == event3))) tv rfl hb9 rfl (Rn.nil ?_))))))
     replace h:=si h; subst h
     exact Qg [] ⟨(sm rfl),(sm rfl),(kPtr rfl),(sm rfl),(sm rfl),tv⟩ ⟨⟨_,rfl,rfl,(.same rfl)⟩,tv⟩ rfl
    ·replace h:=bF hb9 h
     refine Rn.sk (nw rfl hb9) (Rn.sk (nw rfl hb9) (Rn.sk (nw rfl hb9) (Rn.sk (nw rfl hb9) (Rn.sk (nw rfl hb9) (Rn.sk (nw rfl hb9) (Rn.sk (nw rfl hb9) (Rn.sk (nw rfl hb9) (Rn.pickF (v:=(b_ false)) tv rfl hb9 rfl (Rn.nil ?_)))))))))
     replace h:=si h; subst h
     exact Qg [] ⟨(sm rfl),(sm rfl),(kPtr rfl),(sm rfl),(sm rfl),tv⟩ ⟨⟨_,rfl,rfl,(.same rfl)⟩,tv⟩ rfl
   ·obtain ⟨x12,rfl⟩ : ∃ x,x = z:=⟨_,rfl⟩
    refine Tr.cond rfl (fun hb13=>?_) (fun hb13=>?_)
    ·replace h:=bT hb13 h
     refine sr ((Rn.fldP (o':=3) tv rfl rfl (Rn.load (v:=.d (.lst 3 (List.map Qa a1.zL))) tv rfl (Qj rfl) rfl rfl (md rfl ?_))))
     obtain ⟨x14,h15,h⟩:=bnd h
     refine Rn.idxD (e:=Qa) tv rfl rfl h15 (Rn.fldC tv rfl (Rn.loadC (x:=.int .i64 x14.To) tv rfl (md rfl (nt ((Tr.ret ?_))))))
     replace h:=si h; subst h
     exact ⟨.inr rfl,(i_ x14.To),rfl,fun _ _ _ _ h=>h,tv,fun k hk=>Qh hk⟩
    ·replace h:=bF hb13 h
     refine Tr.skip (toN (Tr.rgn (md rfl (Rn.bin tv rfl rfl rfl (md rfl (Rn.nil ?_))))))
     exact ⟨_,h,(by exact Qi ⟨(sm rfl),(sm rfl),(kPtr rfl),(sm rfl),tv⟩ ⟨⟨_,rfl,rfl,(.same rfl)⟩,tv⟩ rfl)⟩
  ·replace h:=ifF hb6 h
   refine Tr.exit (toN (sr ((md rfl (nt ((Tr.ret ?_)))))))
   replace h:=si h; subst h
   exact ⟨.inr rfl,(i_ (-1)),rfl,fun _ _ _ _ h=>h,tv,fun k hk=>Qh hk⟩
theorem Q1f {P:Program} {c:Nat} (hcf:Qy P c = some Qjj) (fuel:Nat):Qgq P c (Qbm fuel):=by
 intro l1 n2 r h
 refine Qek hcf rfl fun Γ M hP hnt hM=>?_
 subst hP
 refine Tr.init [(0,(l_ l1)),(1,(i_ n2))] rfl ?_
 unfold Qbm at h
 unfold Qjj
 refine sr ((md rfl (nt ((Tr.seq (sr ((md rfl (nt ((Tr.block ?_)))))))))))
 refine Tr.loop (mk:=fun (i3:Int)=>⟨look [(0,(l_ l1)),(1,(i_ n2)),(5,(i_ i3))],Qm Γ.n0 (bxs []) M,Γ.n0 + 18⟩) h (by exact Qi ⟨(sm rfl),(sm rfl),(sm rfl),tv⟩ tv rfl) (fun k4 z h=>?_)
 ·obtain ⟨i3,rfl⟩ : ∃ x,x = z:=⟨_,rfl⟩
  replace h:_ = some _:=h
  refine Tr.seq (sr ((md rfl (md rfl (Rn.lenD tv rfl (Rn.bin tv rfl rfl rfl (Rn.nil (toN ?_))))))))
  refine Tr.cond rfl (fun hb5=>?_) (fun hb5=>?_)
  ·replace h:=ifT hb5 h
   refine Tr.skip (toN (Tr.seq (Tr.block (sr ((md rfl (md rfl ?_)))))))
   obtain ⟨x6,h7,h⟩:=bnd h
   refine Rn.idxD (e:=(eI .i64)) tv rfl rfl h7 (Rn.loadC (x:=.int .i64 x6) tv rfl (md rfl (Rn.bin tv rfl rfl rfl (Rn.nil (toN ?_)))))
   refine Tr.cond rfl (fun hb8=>?_) (fun hb8=>?_)
   ·replace h:=bT hb8 h
    refine sr ((md rfl (nt ((Tr.ret ?_)))))
    replace h:=si h; subst h
    exact ⟨.inr rfl,(b_ true),rfl,fun _ _ _ _ h=>h,tv,fun k hk=>Qh hk⟩
   ·replace h:=bF hb8 h
    refine Tr.skip (toN (Tr.rgn (md rfl (Rn.bin tv rfl rfl rfl (md rfl (Rn.nil ?_))))))
    exact ⟨_,h,(by exact Qi ⟨(sm rfl),(sm rfl),(sm rfl),tv⟩ tv rfl)⟩
  ·replace h:=ifF hb5 h
   refine Tr.exit (toN (sr ((md rfl (nt ((Tr.ret ?_)))))))
   replace h:=si h; subst h
   exact ⟨.inr rfl,(b_ false),rfl,fun _ _ _ _ h=>h,tv,fun k hk=>Qh hk⟩
theorem Qxx {P:Program} {c:Nat} {Qbm:(List Int)→Int→Option Bool} {Qbc:Qf→Int→Int→Option Int}
    (H_overseerref03_has:Qgq P 90 Qbm)
    (H_overseerref03_Step:Qgb P 91 Qbc) (hcf:Qy P c = some Qhq) (fuel:Nat):Qhp P c (Qcb Qbm Qbc fuel):=by
 intro a1 r h
 refine Qek hcf rfl fun Γ M hP hnt hM=>?_
 subst hP
 refine Tr.init [(0,(Qk a1))] rfl ?_
 unfold Qcb at h
 unfold Qhq
 refine sr ((Rn.box (v:=(Qk a1)) (cs:=(Qs a1)) tv rfl rfl rfl rfl rfl (Rn.movTC (v:=.nils 1) tv (nt ((sr ((Rn.movTC (v:=.nils 1) tv (Rn.nil (toN ?_))))))))))
 refine Tr.cutB (fun (out5:List Int)=>⟨look [(1,.ptr (Γ.n0 + 1) 0),(3,(o_ out5))],Qm Γ.n0 (bxs [(1,.cells ((Qs a1)))]) M,Γ.n0 + 50⟩) h (fun z h=>?_) (fun z h=>?_)
 ·refine sr ((Rn.fldP (o':=1) tv rfl rfl (Rn.load (v:=(i_ a1.zM)) tv rfl (Qj rfl) rfl rfl (Rn.bin tv rfl rfl rfl (Rn.nil (toN ?_))))))
  refine Tr.cond rfl (fun hb2=>?_) (fun hb2=>?_)
  ·replace h:=ifT hb2 h
   refine Tr.rgn (Rn.movTF (v:=.nils 1) tv rfl rfl (Rn.bslice (xs:=[(i_ 0)]) (cs:=[(i_ 0)]) tv rfl rfl rfl rfl ?_))
   refine Rn.weak (by show WeakSt Γ _ ⟨look [(0,(Qk a1)),(1,.ptr (Γ.n0 + 1) 0),(2,.nils 1),(3,.nils 1),(7,.ptr (Γ.n0 + 1) 1),(8,(i_ a1.zM)),(9,(b_ (decide (a1.zM > 0)))),(10,.own 1 (List.map (eI .i64) [])),(11,.sl 1 (Γ.n0 + 11) 0 1 1)],Qm Γ.n0 (bxs [(1,.cells ((Qs a1))),(11,.cells ([(i_ 0)]))]) M,Γ.n0 + 50⟩; exact Qg [] ⟨(sm rfl),(kPtr rfl),(sm rfl),(sm rfl),(kPtr rfl),(sm rfl),(sm rfl),(WkV.nilsO _),(kSl rfl),tv⟩ ⟨⟨_,rfl,rfl,(.same rfl)⟩,⟨_,rfl,rfl,(.same rfl)⟩,tv⟩ rfl) ?_
   obtain ⟨x3,h4,h⟩:=bnd h
   refine Rn.app (e:=(eI .i64)) tv rfl rfl rfl (Qb2 rfl rfl rfl) h4 rfl (Rn.movTO tv rfl (Rn.nil ?_))
   replace h:=si h; subst h
   exact Qg [11] ⟨(kPtr rfl),(sm rfl),tv⟩ ⟨⟨_,rfl,rfl,(.same rfl)⟩,tv⟩ rfl
  ·replace h:=ifF hb2 h
   refine Tr.skip ?_
   replace h:=si h; subst h
   exact Qg [] ⟨(kPtr rfl),(WkV.nilsO _),tv⟩ ⟨⟨_,rfl,rfl,(.same rfl)⟩,tv⟩ rfl
 ·obtain ⟨out5,rfl⟩ : ∃ x,x = z:=⟨_,rfl⟩
  refine Tr.cutB (fun (out29:List Int)=>⟨look [(3,(o_ out29))],Qm Γ.n0 (bxs [(1,.cells ((Qs a1)))]) M,Γ.n0 + 50⟩) h (fun z h=>?_) (fun z h=>?_)
  ·refine sr ((md rfl (nt ((Tr.block ?_)))))
   refine Tr.loop (mk:=fun ((out6,i7):(List Int)×Int)=>⟨look [(1,.ptr (Γ.n0 + 1) 0),(3,(o_ out6)),(4,(i_ i7))],Qm Γ.n0 (bxs [(1,.cells ((Qs a1)))]) M,Γ.n0 + 50⟩) h (by exact Qi ⟨(kPtr rfl),(sm rfl),(sm rfl),tv⟩ ⟨⟨_,rfl,rfl,(.same rfl)⟩,tv⟩ rfl) (fun k8 z h=>?_)
   ·obtain ⟨out6,i7⟩:=z
    replace h:_ = some _:=h
    refine Tr.seq (sr ((md rfl (Rn.mov (v:=(l_ out6)) tv rfl (Rn.lenD tv rfl (Rn.bin tv rfl rfl rfl (Rn.nil (toN ?_))))))))
    refine Tr.cond rfl (fun hb9=>?_) (fun hb9=>?_)
    ·replace h:=ifT hb9 h
     refine Tr.skip (toN ?_)
     refine Tr.cutB (fun (out28:List Int)=>⟨look [(1,.ptr (Γ.n0 + 1) 0),(3,(o_ out28)),(4,(i_ i7))],Qm Γ.n0 (bxs [(1,.cells ((Qs a1)))]) M,Γ.n0 + 50⟩) h (fun z h=>?_) (fun z h=>?_)
     ·refine Tr.block (sr ((md rfl (nt ((Tr.block ?_))))))
      refine Tr.loop (mk:=fun ((out10,k11):(List Int)×Int)=>⟨look [(1,.ptr (Γ.n0 + 1) 0),(3,(o_ out10)),(4,(i_ i7)),(5,(i_ k11))],Qm Γ.n0 (bxs [(1,.cells ((Qs a1)))]) M,Γ.n0 + 50⟩) h (by exact Qi ⟨(kPtr rfl),(sm rfl),(sm rfl),(sm rfl),tv⟩ ⟨⟨_,rfl,rfl,(.same rfl)⟩,tv⟩ rfl) (fun k12 z h=>?_)
      ·obtain ⟨out10,k11⟩:=z
       replace h:_ = some _:=h
       refine Tr.seq (sr ((md rfl (Rn.fldP (o':=0) tv rfl rfl (Rn.load (v:=(l_ a1.zJ)) tv rfl (Qj rfl) rfl rfl (Rn.lenD tv rfl (Rn.bin tv rfl rfl rfl (Rn.nil (toN ?_)))))))))
       refine Tr.cond rfl (fun hb13=>?_) (fun hb13=>?_)
       ·replace h:=ifT hb13 h
        refine Tr.skip (toN ?_)
        refine Tr.cutB (fun (out27:List Int)=>⟨look [(1,.ptr (Γ.n0 + 1) 0),(3,(o_ out27)),(4,(i_ i7)),(5,(i_ k11))],Qm Γ.n0 (bxs [(1,.cells ((Qs a1)))]) M,Γ.n0 + 50⟩) h (fun z h=>?_) (fun z h=>?_)
        ·refine Tr.block (Tr.seq ?_)
         refine Tr.rgnD (by decide) ?_
         refine Rn.load (v:=(Qk a1)) tv rfl (Qj rfl) rfl rfl (Rn.mov (v:=(l_ out10)) tv rfl (md rfl ?_))
         obtain ⟨x14,h15,h⟩:=bnd h
         refine Rn.idxD (e:=(eI .i64)) tv rfl rfl h15 (Rn.loadC (x:=.int .i64 x14) tv rfl (Rn.fldP (o':=0) tv rfl rfl (Rn.load (v:=(l_ a1.zJ)) tv rfl (Qj rfl) rfl rfl (md rfl ?_))))
         obtain ⟨x16,h17,h⟩:=bnd h
         refine Rn.idxD (e:=(eI .i64)) tv rfl rfl h17 (Rn.loadC (x:=.int .i64 x16) tv rfl ?_)
         obtain ⟨x19,h18,h⟩:=bnd h
         refine Rn.call (args:=[(Qk a1),(i_ x14),(i_ x16)]) tv rfl (H_overseerref03_Step _ _ _ _ h18) pc0 (md rfl ?_)
         refine Rn.nil ⟨rfl,?_⟩
         refine toN ?_
         refine Tr.cutB (fun (x23:Bool)=>⟨look [(1,.ptr (Γ.n0 + 1) 0),(3,(o_ out10)),(4,(i_ i7)),(5,(i_ k11)),(6,(i_ x19)),(44,(b_ x23))],Qm Γ.n0 (bxs [(1,.cells ((Qs a1)))]) M,Γ.n0 + 50⟩) h (fun z h=>?_) (fun z h=>?_)
         ·refine Tr.rgn (md rfl (Rn.bin tv rfl rfl rfl (md rfl ?_)))
          refine Qbr (decide (x19≥0)) (fun hb20=>?_) (fun hb20=>?_)
          ·replace h:=ifT hb20 h
           refine Rn.mov (v:=(l_ out10)) (gw rfl hb20) rfl (Rn.movD (gw rfl hb20) rfl ?_)
           obtain ⟨x22,h21,h⟩:=bnd h
           refine Rn.call (args:=[(l_ out10),(i_ x19)]) (gw rfl hb20) rfl (H_overseerref03_has _ _ _ h21) pc9 (Rn.un (gw rfl hb20) rfl rfl (Rn.pickT (v:=(b_ (!x22))) tv rfl hb20 rfl (Rn.nil ?_)))
           replace h:=si h; subst h
           exact Qg [] ⟨(kPtr rfl),(sm rfl),(sm rfl),(sm rfl),(sm rfl),(sm rfl),tv⟩ ⟨⟨_,rfl,rfl,(.same rfl)⟩,tv⟩ rfl
          ·replace h:=ifF hb20 h
           refine Rn.sk (nw rfl hb20) (Rn.sk (nw rfl hb20) (Rn.sk (nw rfl hb20) (Rn.sk (nw rfl hb20) (Rn.pickF (v:=(b_ false)) tv rfl hb20 rfl (Rn.nil ?_)))))
           replace h:=si h; subst h
           exact Qg [] ⟨(kPtr rfl),(sm rfl),(sm rfl),(sm rfl),(sm rfl),(sm rfl),tv⟩ ⟨⟨_,rfl,rfl,(.same rfl)⟩,tv⟩ rfl
         ·obtain ⟨x23,rfl⟩ : ∃ x,x = z:=⟨_,rfl⟩
          refine Tr.cond rfl (fun hb24=>?_) (fun hb24=>?_)
          ·replace h:=bT hb24 h
           refine Tr.rgn (Rn.movTO tv rfl (md rfl (Rn.bslice (xs:=[(i_ x19)]) (cs:=[(i_ x19)]) tv rfl rfl rfl rfl ?_)))
           obtain ⟨x25,h26,h⟩:=bnd h
           refine Rn.app (e:=(eI .i64)) tv rfl rfl rfl (Qb2 rfl rfl rfl) h26 rfl (Rn.movTO tv rfl (Rn.nil ?_))
           replace h:=si h; subst h
           exact Qg [47] ⟨(kPtr rfl),(sm rfl),(sm rfl),(sm rfl),tv⟩ ⟨⟨_,rfl,rfl,(.same rfl)⟩,tv⟩ rfl
          ·replace h:=bF hb24 h
           refine Tr.skip ?_
           replace h:=si h; subst h
           exact Qg [] ⟨(kPtr rfl),(sm rfl),(sm rfl),(sm rfl),tv⟩ ⟨⟨_,rfl,rfl,(.same rfl)⟩,tv⟩ rfl
        ·obtain ⟨out27,rfl⟩ : ∃ x,x = z:=⟨_,rfl⟩
         refine Tr.rgn (md rfl (Rn.bin tv rfl rfl rfl (md rfl (Rn.nil ?_))))
         exact ⟨_,h,(by exact Qi ⟨(kPtr rfl),(sm rfl),(sm rfl),(sm rfl),tv⟩ ⟨⟨_,rfl,rfl,(.same rfl)⟩,tv⟩ rfl)⟩
       ·replace h:=ifF hb13 h
        refine Tr.exit ?_
        replace h:=si h; subst h
        exact Qg [] ⟨(kPtr rfl),(sm rfl),(sm rfl),tv⟩ ⟨⟨_,rfl,rfl,(.same rfl)⟩,tv⟩ rfl
     ·obtain ⟨out28,rfl⟩ : ∃ x,x = z:=⟨_,rfl⟩
      refine Tr.rgn (md rfl (Rn.bin tv rfl rfl rfl (md rfl (Rn.nil ?_))))
      exact ⟨_,h,(by exact Qi ⟨(kPtr rfl),(sm rfl),(sm rfl),tv⟩ ⟨⟨_,rfl,rfl,(.same rfl)⟩,tv⟩ rfl)⟩
    ·replace h:=ifF hb9 h
     refine Tr.exit ?_
     replace h:=si h; subst h
     exact Qg [] ⟨(sm rfl),tv⟩ ⟨⟨_,rfl,rfl,(.same rfl)⟩,tv⟩ rfl
  ·obtain ⟨out29,rfl⟩ : ∃ x,x = z:=⟨_,rfl⟩
   refine sr ((Rn.movTO tv rfl (Rn.movTO tv rfl (nt ((Tr.ret ?_))))))
   replace h:=si h; subst h
   exact ⟨.inr rfl,(o_ out29),rfl,fun _ _ _ _ h=>h,tv,fun k hk=>Qh hk⟩
theorem Qxy {P:Program} {c:Nat} (hcf:Qy P c = some Qhs) (fuel:Nat):Qhr P c (Qcc fuel):=by
 intro l1 n2 r h
 refine Qek hcf rfl fun Γ M hP hnt hM=>?_
 subst hP
 refine Tr.init [(0,(l_ l1)),(1,(i_ n2))] rfl ?_
 unfold Qcc at h
 unfold Qhs
 refine sr ((md rfl (nt ((Tr.seq (sr ((md rfl (nt ((Tr.block ?_)))))))))))
 refine Tr.loop (mk:=fun (i3:Int)=>⟨look [(0,(l_ l1)),(1,(i_ n2)),(5,(i_ i3))],Qm Γ.n0 (bxs []) M,Γ.n0 + 19⟩) h (by exact Qi ⟨(sm rfl),(sm rfl),(sm rfl),tv⟩ tv rfl) (fun k4 z h=>?_)
 ·obtain ⟨i3,rfl⟩ : ∃ x,x = z:=⟨_,rfl⟩
  replace h:_ = some _:=h
  refine Tr.seq (sr ((md rfl (md rfl (Rn.lenD tv rfl (Rn.bin tv rfl rfl rfl (Rn.nil (toN ?_))))))))
  refine Tr.cond rfl (fun hb5=>?_) (fun hb5=>?_)
  ·replace h:=ifT hb5 h
   refine Tr.skip (toN (Tr.seq (Tr.block (sr ((md rfl (md rfl ?_)))))))
   obtain ⟨x6,h7,h⟩:=bnd h
   refine Rn.idxD (e:=(eI .i64)) tv rfl rfl h7 (Rn.loadC (x:=.int .i64 x6) tv rfl (md rfl (Rn.bin tv rfl rfl rfl (Rn.nil (toN ?_)))))
   refine Tr.cond rfl (fun hb8=>?_) (fun hb8=>?_)
   ·replace h:=bT hb8 h
    refine sr ((md rfl (md rfl (nt ((Tr.ret ?_))))))
    replace h:=si h; subst h
    exact ⟨.inr rfl,(i_ i3),rfl,fun _ _ _ _ h=>h,tv,fun k hk=>Qh hk⟩
   ·replace h:=bF hb8 h
    refine Tr.skip (toN (Tr.rgn (md rfl (Rn.bin tv rfl rfl rfl (md rfl (Rn.nil ?_))))))
    exact ⟨_,h,(by exact Qi ⟨(sm rfl),(sm rfl),(sm rfl),tv⟩ tv rfl)⟩
  ·replace h:=ifF hb5 h
   refine Tr.exit (toN (sr ((md rfl (nt ((Tr.ret ?_)))))))
   replace h:=si h; subst h
   exact ⟨.inr rfl,(i_ (-1)),rfl,fun _ _ _ _ h=>h,tv,fun k hk=>Qh hk⟩
theorem Qsj {P:Program} {c:Nat} {Q6:(List Int)→Option Qf} {Qcb:Qf→Option ((List Int))} {Qbm:(List Int)→Int→Option Bool} {Qbc:Qf→Int→Int→Option Int} {Qcc:(List Int)→Int→Option Int}
    (H_overseerref03_Empty:Qfw P 69 Q6)
    (H_overseerref03_Found:Qhp P 89 Qcb)
    (H_overseerref03_has:Qgq P 90 Qbm)
    (H_overseerref03_Step:Qgb P 91 Qbc)
    (H_overseerref03_index:Qhr P 92 Qcc) (hcf:Qy P c = some Qf7) (fuel:Nat):Qf6 P c (Qbq Q6 Qcb Qbm Qbc Qcc fuel):=by
 intro a1 r h
 refine Qek hcf rfl fun Γ M hP hnt hM=>?_
 subst hP
 refine Tr.init [(0,(Qk a1))] rfl ?_
 unfold Qbq at h
 unfold Qf7
 refine sr ((Rn.box (v:=(Qk a1)) (cs:=(Qs a1)) tv rfl rfl rfl rfl rfl (Rn.alloc tv rfl (nt ((sr ((Rn.load (v:=(Qk a1)) tv rfl (Qj rfl) rfl rfl ?_))))))))
 obtain ⟨x3,h2,h⟩:=bnd h
 refine Rn.call (args:=[(Qk a1)]) tv rfl (H_overseerref03_Found _ _ h2) pc9 (Rn.movTO tv rfl (nt ((sr ((Rn.fldP (o':=0) tv rfl rfl (Rn.load (v:=(l_ a1.zJ)) tv rfl (Qj rfl) rfl rfl ?_)))))))
 obtain ⟨x5,h4,h⟩:=bnd h
 refine Rn.call (args:=[(l_ a1.zJ)]) tv rfl (H_overseerref03_Empty _ _ h4) pc9 (Rn.alloc tv rfl (Rn.storeT (v:=.agg [(l_ x5.zJ),(i_ x5.zM),.nils 1,.nils 3]) (ds:=[(l_ x5.zJ),(i_ x5.zM),.nils 1,.nils 3]) (cs':=[(l_ x5.zJ),(i_ x5.zM),.nils 1,.nils 3]) tv rfl rfl rfl rfl rfl rfl rfl (nt ((sr ((Rn.mov (v:=(l_ x3)) tv rfl (Rn.lenD tv rfl (Rn.fldP (o':=1) tv rfl rfl (Rn.store (v:=(i_ (x3.length:Int))) (cs':=[(l_ x5.zJ),(i_ (x3.length:Int)),.nils 1,.nils 3]) tv rfl rfl rfl rfl rfl rfl (Rn.nil (toN ?_))))))))))))
 refine Tr.cutB (fun ((c42,c43,c44,out45,out46):(List Int)×(List Int)×(List Qe)×(List Int)×(List Qe))=>⟨look [(2,.ptr (Γ.n0 + 2) 0),(4,.ptr (Γ.n0 + 4) 0)],Qm Γ.n0 (bxs [(1,.cells ((Qs a1))),(2,.cells ([(o_ c42),(i_ 0),(o_ c43),.own 3 (List.map Qa c44)])),(4,.cells ([(l_ x5.zJ),(i_ (x3.length:Int)),(o_ out45),.own 3 (List.map Qa out46)]))]) M,Γ.n0 + 71⟩) h (fun z h=>?_) (fun z h=>?_)
 ·refine sr ((md rfl (nt ((Tr.block ?_)))))
  refine Tr.loop (mk:=fun ((i6,c7,c8,c9,out10,out11):Int×(List Int)×(List Int)×(List Qe)×(List Int)×(List Qe))=>⟨look [(1,.ptr (Γ.n0 + 1) 0),(2,.ptr (Γ.n0 + 2) 0),(3,(o_ x3)),(4,.ptr (Γ.n0 + 4) 0),(5,(i_ i6))],Qm Γ.n0 (bxs [(1,.cells ((Qs a1))),(2,.cells ([(o_ c7),(i_ 0),(o_ c8),.own 3 (List.map Qa c9)])),(4,.cells ([(l_ x5.zJ),(i_ (x3.length:Int)),(o_ out10),.own 3 (List.map Qa out11)]))]) M,Γ.n0 + 71⟩) h (by exact Qi ⟨(kPtr rfl),(kPtr rfl),(sm rfl),(kPtr rfl),(sm rfl),tv⟩ ⟨⟨_,rfl,rfl,(.same rfl)⟩,⟨_,rfl,rfl,(.cons (WkV.nilsO _) (.cons (sm rfl) (.cons (WkV.nilsO _) (.cons (WkV.nilsO _) .nil))))⟩,⟨_,rfl,rfl,(.cons (sm rfl) (.cons (sm rfl) (.cons (WkV.nilsO _) (.cons (WkV.nilsO _) .nil))))⟩,tv⟩ rfl) (fun k12 z h=>?_)
  ·obtain ⟨i6,c7,c8,c9,out10,out11⟩:=z
   replace h:_ = some _:=h
   refine Tr.seq (sr ((md rfl (Rn.mov (v:=(l_ x3)) tv rfl (Rn.lenD tv rfl (Rn.bin tv rfl rfl rfl (Rn.nil (toN ?_))))))))
   refine Tr.cond rfl (fun hb13=>?_) (fun hb13=>?_)
   ·replace h:=ifT hb13 h
    refine Tr.skip (toN ?_)
    refine Tr.cutB (fun ((out40,out41):(List Int)×(List Qe))=>⟨look [(1,.ptr (Γ.n0 + 1) 0),(2,.ptr (Γ.n0 + 2) 0),(3,(o_ x3)),(4,.ptr (Γ.n0 + 4) 0),(5,(i_ i6))],Qm Γ.n0 (bxs [(1,.cells ((Qs a1))),(2,.cells ([(o_ c7),(i_ 0),(o_ c8),.own 3 (List.map Qa c9)])),(4,.cells ([(l_ x5.zJ),(i_ (x3.length:Int)),(o_ out40),.own 3 (List.map Qa out41)]))]) M,Γ.n0 + 71⟩) h (fun z h=>?_) (fun z h=>?_)
    ·refine Tr.block ?_
     refine Tr.cutB (fun (out21:List Int)=>⟨look [(1,.ptr (Γ.n0 + 1) 0),(2,.ptr (Γ.n0 + 2) 0),(3,(o_ x3)),(4,.ptr (Γ.n0 + 4) 0),(5,(i_ i6))],Qm Γ.n0 (bxs [(1,.cells ((Qs a1))),(2,.cells ([(o_ c7),(i_ 0),(o_ c8),.own 3 (List.map Qa c9)])),(4,.cells ([(l_ x5.zJ),(i_ (x3.length:Int)),(o_ out21),.own 3 (List.map Qa out11)]))]) M,Γ.n0 + 71⟩) h (fun z h=>?_) (fun z h=>?_)
     ·refine Tr.seq ?_
      refine Tr.rgnD (by decide) ?_
      refine Rn.fldP (o':=2) tv rfl rfl (Rn.load (v:=(l_ a1.zK)) tv rfl (Qj rfl) rfl rfl (Rn.mov (v:=(l_ x3)) tv rfl (md rfl ?_)))
      obtain ⟨x14,h15,h⟩:=bnd h
      refine Rn.idxD (e:=(eI .i64)) tv rfl rfl h15 (Rn.loadC (x:=.int .i64 x14) tv rfl ?_)
      obtain ⟨x17,h16,h⟩:=bnd h
      refine Rn.call (args:=[(l_ a1.zK),(i_ x14)]) tv rfl (H_overseerref03_has _ _ _ h16) pc0 ?_
      refine Rn.nil ⟨rfl,?_⟩
      refine toN ?_
      refine Tr.cond rfl (fun hb18=>?_) (fun hb18=>?_)
      ·replace h:=bT hb18 h
       refine Tr.rgn (Rn.fldP (o':=2) tv rfl rfl (Rn.loadT (cs':=[(l_ x5.zJ),(i_ (x3.length:Int)),(l_ out10),.own 3 (List.map Qa out11)]) tv rfl rfl rfl rfl (md rfl (Rn.bslice (xs:=[(i_ i6)]) (cs:=[(i_ i6)]) tv rfl rfl rfl rfl ?_))))
       obtain ⟨x19,h20,h⟩:=bnd h
       refine Rn.app (e:=(eI .i64)) tv rfl rfl rfl (Qb2 rfl rfl rfl) h20 rfl (Rn.fldP (o':=2) tv rfl rfl (Rn.storeO (cs':=[(l_ x5.zJ),(i_ (x3.length:Int)),(o_ x19),.own 3 (List.map Qa out11)]) tv rfl rfl rfl rfl rfl (Rn.nil ?_)))
       replace h:=si h; subst h
       exact Qg [32] ⟨(kPtr rfl),(kPtr rfl),(sm rfl),(kPtr rfl),(sm rfl),tv⟩ ⟨⟨_,rfl,rfl,(.same rfl)⟩,⟨_,rfl,rfl,(.same rfl)⟩,⟨_,rfl,rfl,(.same rfl)⟩,tv⟩ rfl
      ·replace h:=bF hb18 h
       refine Tr.skip ?_
       replace h:=si h; subst h
       exact Qg [] ⟨(kPtr rfl),(kPtr rfl),(sm rfl),(kPtr rfl),(sm rfl),tv⟩ ⟨⟨_,rfl,rfl,(.same rfl)⟩,⟨_,rfl,rfl,(.same rfl)⟩,⟨_,rfl,rfl,(.same rfl)⟩,tv⟩ rfl
     ·obtain ⟨out21,rfl⟩ : ∃ x,x = z:=⟨_,rfl⟩
      refine sr ((md rfl (nt ((Tr.block ?_)))))
      refine Tr.loop (mk:=fun ((k22,out23):Int×(List Qe))=>⟨look [(1,.ptr (Γ.n0 + 1) 0),(2,.ptr (Γ.n0 + 2) 0),(3,(o_ x3)),(4,.ptr (Γ.n0 + 4) 0),(5,(i_ i6)),(6,(i_ k22))],Qm Γ.n0 (bxs [(1,.cells ((Qs a1))),(2,.cells ([(o_ c7),(i_ 0),(o_ c8),.own 3 (List.map Qa c9)])),(4,.cells ([(l_ x5.zJ),(i_ (x3.length:Int)),(o_ out21),.own 3 (List.map Qa out23)]))]) M,Γ.n0 + 71⟩) h (by exact Qi ⟨(kPtr rfl),(kPtr rfl),(sm rfl),(kPtr rfl),(sm rfl),(sm rfl),tv⟩ ⟨⟨_,rfl,rfl,(.same rfl)⟩,⟨_,rfl,rfl,(.same rfl)⟩,⟨_,rfl,rfl,(.same rfl)⟩,tv⟩ rfl) (fun k24 z h=>?_)
      ·obtain ⟨k22,out23⟩:=z
       replace h:_ = some _:=h
       refine Tr.seq (sr ((md rfl (Rn.fldP (o':=0) tv rfl rfl (Rn.load (v:=(l_ a1.zJ)) tv rfl (Qj rfl) rfl rfl (Rn.lenD tv rfl (Rn.bin tv rfl rfl rfl (Rn.nil (toN ?_)))))))))
       refine Tr.cond rfl (fun hb25=>?_) (fun hb25=>?_)
       ·replace h:=ifT hb25 h
        refine Tr.skip (toN ?_)
        refine Tr.cutB (fun (out39:List Qe)=>⟨look [(1,.ptr (Γ.n0 + 1) 0),(2,.ptr (Γ.n0 + 2) 0),(3,(o_ x3)),(4,.ptr (Γ.n0 + 4) 0),(5,(i_ i6)),(6,(i_ k22))],Qm Γ.n0 (bxs [(1,.cells ((Qs a1))),(2,.cells ([(o_ c7),(i_ 0),(o_ c8),.own 3 (List.map Qa c9)])),(4,.cells ([(l_ x5.zJ),(i_ (x3.length:Int)),(o_ out21),.own 3 (List.map Qa out39)]))]) M,Γ.n0 + 71⟩) h (fun z h=>?_) (fun z h=>?_)
        ·refine Tr.block (Tr.seq ?_)
         refine Tr.rgnD (by decide) ?_
         refine Rn.load (v:=(Qk a1)) tv rfl (Qj rfl) rfl rfl (Rn.mov (v:=(l_ x3)) tv rfl (md rfl ?_))
         obtain ⟨x26,h27,h⟩:=bnd h
         refine Rn.idxD (e:=(eI .i64)) tv rfl rfl h27 (Rn.loadC (x:=.int .i64 x26) tv rfl (Rn.fldP (o':=0) tv rfl rfl (Rn.load (v:=(l_ a1.zJ)) tv rfl (Qj rfl) rfl rfl (md rfl ?_))))
         obtain ⟨x28,h29,h⟩:=bnd h
         refine Rn.idxD (e:=(eI .i64)) tv rfl rfl h29 (Rn.loadC (x:=.int .i64 x28) tv rfl ?_)
         obtain ⟨x31,h30,h⟩:=bnd h
         refine Rn.call (args:=[(Qk a1),(i_ x26),(i_ x28)]) tv rfl (H_overseerref03_Step _ _ _ _ h30) pc0 (md rfl ?_)
         refine Rn.nil ⟨rfl,?_⟩
         refine toN (sr ((md rfl (Rn.bin tv rfl rfl rfl (Rn.nil (toN ?_))))))
         refine Tr.cond rfl (fun hb32=>?_) (fun hb32=>?_)
         ·replace h:=ifT hb32 h
          refine Tr.rgnD (by decide) ?_
          refine Rn.fldP (o':=3) tv rfl rfl (Rn.loadT (cs':=[(l_ x5.zJ),(i_ (x3.length:Int)),(o_ out21),.d (.lst 3 (List.map Qa out23))]) tv rfl rfl rfl rfl (md rfl (Rn.fldP (o':=0) tv rfl rfl (Rn.load (v:=(l_ a1.zJ)) tv rfl (Qj rfl) rfl rfl (md rfl ?_)))))
          obtain ⟨x33,h34,h⟩:=bnd h
          refine Rn.idxD (e:=(eI .i64)) tv rfl rfl h34 (Rn.loadC (x:=.int .i64 x33) tv rfl (Rn.mov (v:=(l_ x3)) tv rfl (md rfl ?_)))
          obtain ⟨x36,h35,h⟩:=bnd h
          refine Rn.call (args:=[(l_ x3),(i_ x31)]) tv rfl (H_overseerref03_index _ _ _ h35) pc2 (Rn.build (v:=.agg [(i_ i6),(i_ x33),(i_ x36)]) tv rfl (Rn.bslice (xs:=[.agg [(i_ i6),(i_ x33),(i_ x36)]]) (cs:=[(i_ i6),(i_ x33),(i_ x36)]) tv rfl rfl rfl rfl ?_))
          obtain ⟨x37,h38,h⟩:=bnd h
          refine Rn.app (e:=Qa) tv rfl rfl rfl (Qb2 rfl rfl rfl) h38 rfl (Rn.fldP (o':=3) tv rfl rfl (Rn.storeO (cs':=[(l_ x5.zJ),(i_ (x3.length:Int)),(o_ out21),.own 3 (List.map Qa x37)]) tv rfl rfl rfl rfl rfl ?_))
          refine Rn.nil ⟨rfl,?_⟩
          replace h:=si h; subst h
          exact Qg [67] ⟨(kPtr rfl),(kPtr rfl),(sm rfl),(kPtr rfl),(sm rfl),(sm rfl),tv⟩ ⟨⟨_,rfl,rfl,(.same rfl)⟩,⟨_,rfl,rfl,(.same rfl)⟩,⟨_,rfl,rfl,(.same rfl)⟩,tv⟩ rfl
         ·replace h:=ifF hb32 h
          refine Tr.skip ?_
          replace h:=si h; subst h
          exact Qg [] ⟨(kPtr rfl),(kPtr rfl),(sm rfl),(kPtr rfl),(sm rfl),(sm rfl),tv⟩ ⟨⟨_,rfl,rfl,(.same rfl)⟩,⟨_,rfl,rfl,(.same rfl)⟩,⟨_,rfl,rfl,(.same rfl)⟩,tv⟩ rfl
        ·obtain ⟨out39,rfl⟩ : ∃ x,x = z:=⟨_,rfl⟩
         refine Tr.rgn (md rfl (Rn.bin tv rfl rfl rfl (md rfl (Rn.nil ?_))))
         exact ⟨_,h,(by exact Qi ⟨(kPtr rfl),(kPtr rfl),(sm rfl),(kPtr rfl),(sm rfl),(sm rfl),tv⟩ ⟨⟨_,rfl,rfl,(.same rfl)⟩,⟨_,rfl,rfl,(.same rfl)⟩,⟨_,rfl,rfl,(.same rfl)⟩,tv⟩ rfl)⟩
       ·replace h:=ifF hb25 h
        refine Tr.exit ?_
        replace h:=si h; subst h
        exact Qg [] ⟨(kPtr rfl),(kPtr rfl),(sm rfl),(kPtr rfl),(sm rfl),tv⟩ ⟨⟨_,rfl,rfl,(.same rfl)⟩,⟨_,rfl,rfl,(.same rfl)⟩,⟨_,rfl,rfl,(.same rfl)⟩,tv⟩ rfl
    ·obtain ⟨out40,out41⟩:=z
     refine Tr.rgn (md rfl (Rn.bin tv rfl rfl rfl (md rfl (Rn.nil ?_))))
     exact ⟨_,h,(by exact Qi ⟨(kPtr rfl),(kPtr rfl),(sm rfl),(kPtr rfl),(sm rfl),tv⟩ ⟨⟨_,rfl,rfl,(.same rfl)⟩,⟨_,rfl,rfl,(.same rfl)⟩,⟨_,rfl,rfl,(.same rfl)⟩,tv⟩ rfl)⟩
   ·replace h:=ifF hb13 h
    refine Tr.exit ?_
    replace h:=si h; subst h
    exact Qg [] ⟨(kPtr rfl),(kPtr rfl),tv⟩ ⟨⟨_,rfl,rfl,(.same rfl)⟩,⟨_,rfl,rfl,(.same rfl)⟩,⟨_,rfl,rfl,(.same rfl)⟩,tv⟩ rfl
 ·obtain ⟨c42,c43,c44,out45,out46⟩:=z
  refine sr ((Rn.load (v:=.agg [(l_ x5.zJ),(i_ (x3.length:Int)),(l_ out45),.d (.lst 3 (List.map Qa out46))]) tv rfl (Qj rfl) rfl rfl (Rn.storeT (v:=.agg [(l_ x5.zJ),(i_ (x3.length:Int)),(l_ out45),.d (.lst 3 (List.map Qa out46))]) (ds:=[(l_ x5.zJ),(i_ (x3.length:Int)),(l_ out45),.d (.lst 3 (List.map Qa out46))]) (cs':=[(l_ x5.zJ),(i_ (x3.length:Int)),(l_ out45),.d (.lst 3 (List.map Qa out46))]) tv rfl rfl rfl rfl rfl rfl rfl (nt ((Tr.ret ?_))))))
  replace h:=si h; subst h
  exact ⟨.inr rfl,(.agg [(l_ x5.zJ),(i_ (x3.length:Int)),(l_ out45),.d (.lst 3 (List.map Qa out46))]),Qif rfl rfl rfl rfl,fun _ _ _ _ h=>h,⟨tv,tv,tv,tv,tv⟩,fun k hk=>Qh hk⟩
theorem Qzo {P:Program} {c:Nat} {Q6:(List Int)→Option Qf} {Qbq:Qf→Option Qf}
    (H_overseerref03_Empty:Qfw P 69 Q6)
    (H_overseerref03_Canonical:Qf6 P 70 Qbq) (hcf:Qy P c = some Qik) (fuel:Nat):Qij P c (Qcj Q6 Qbq fuel):=by
 intro alphabet1 g2 r h
 refine Qek hcf rfl fun Γ M hP hnt hM=>?_
 subst hP
 refine Tr.init [(0,(l_ alphabet1)),(1,.agg [.d (.int .u8 g2.zM),.d (.int .u8 g2.Marks),.d (.int .u8 g2.To.1.1),.d (.int .u8 g2.To.1.2.1),.d (.int .u8 g2.To.1.2.2.1),.d (.int .u8 g2.To.1.2.2.2.1),.d (.int .u8 g2.To.1.2.2.2.2),.d (.int .u8 g2.To.2.1.1),.d (.int .u8 g2.To.2.1.2.1),.d (.int .u8 g2.To.2.1.2.2.1),.d (.int .u8 g2.To.2.1.2.2.2.1),.d (.int .u8 g2.To.2.1.2.2.2.2),.d (.int .u8 g2.To.2.2.1.1),.d (.int .u8 g2.To.2.2.1.2.1),.d (.int .u8 g2.To.2.2.1.2.2.1),.d (.int .u8 g2.To.2.2.1.2.2.2.1),.d (.int .u8 g2.To.2.2.1.2.2.2.2),.d (.int .u8 g2.To.2.2.2.1.1),.d (.int .u8 g2.To.2.2.2.1.2.1),.d (.int .u8 g2.To.2.2.2.1.2.2.1),.d (.int .u8 g2.To.2.2.2.1.2.2.2.1),.d (.int .u8 g2.To.2.2.2.1.2.2.2.2),.d (.int .u8 g2.To.2.2.2.2.1),.d (.int .u8 g2.To.2.2.2.2.2.1),.d (.int .u8 g2.To.2.2.2.2.2.2.1),.d (.int .u8 g2.To.2.2.2.2.2.2.2.1),.d (.int .u8 g2.To.2.2.2.2.2.2.2.2)])] rfl ?_
 unfold Qcj at h
 unfold Qik
 refine sr ((Rn.box (v:=.agg [.d (.int .u8 g2.zM),.d (.int .u8 g2.Marks),.d (.int .u8 g2.To.1.1),.d (.int .u8 g2.To.1.2.1),.d (.int .u8 g2.To.1.2.2.1),.d (.int .u8 g2.To.1.2.2.2.1),.d (.int .u8 g2.To.1.2.2.2.2),.d (.int .u8 g2.To.2.1.1),.d (.int .u8 g2.To.2.1.2.1),.d (.int .u8 g2.To.2.1.2.2.1),.d (.int .u8 g2.To.2.1.2.2.2.1),.d (.int .u8 g2.To.2.1.2.2.2.2),.d (.int .u8 g2.To.2.2.1.1),.d (.int .u8 g2.To.2.2.1.2.1),.d (.int .u8 g2.To.2.2.1.2.2.1),.d (.int .u8 g2.To.2.2.1.2.2.2.1),.d (.int .u8 g2.To.2.2.1.2.2.2.2),.d (.int .u8 g2.To.2.2.2.1.1),.d (.int .u8 g2.To.2.2.2.1.2.1),.d (.int .u8 g2.To.2.2.2.1.2.2.1),.d (.int .u8 g2.To.2.2.2.1.2.2.2.1),.d (.int .u8 g2.To.2.2.2.1.2.2.2.2),.d (.int .u8 g2.To.2.2.2.2.1),.d (.int .u8 g2.To.2.2.2.2.2.1),.d (.int .u8 g2.To.2.2.2.2.2.2.1),.d (.int .u8 g2.To.2.2.2.2.2.2.2.1),.d (.int .u8 g2.To.2.2.2.2.2.2.2.2)]) (cs:=[.d (.int .u8 g2.zM),.d (.int .u8 g2.Marks),.d (.int .u8 g2.To.1.1),.d (.int .u8 g2.To.1.2.1),.d (.int .u8 g2.To.1.2.2.1),.d (.int .u8 g2.To.1.2.2.2.1),.d (.int .u8 g2.To.1.2.2.2.2),.d (.int .u8 g2.To.2.1.1),.d (.int .u8 g2.To.2.1.2.1),.d (.int .u8 g2.To.2.1.2.2.1),.d (.int .u8 g2.To.2.1.2.2.2.1),.d (.int .u8 g2.To.2.1.2.2.2.2),.d (.int .u8 g2.To.2.2.1.1),.d (.int .u8 g2.To.2.2.1.2.1),.d (.int .u8 g2.To.2.2.1.2.2.1),.d (.int .u8 g2.To.2.2.1.2.2.2.1),.d (.int .u8 g2.To.2.2.1.2.2.2.2),.d (.int .u8 g2.To.2.2.2.1.1),.d (.int .u8 g2.To.2.2.2.1.2.1),.d (.int .u8 g2.To.2.2.2.1.2.2.1),.d (.int .u8 g2.To.2.2.2.1.2.2.2.1),.d (.int .u8 g2.To.2.2.2.1.2.2.2.2),.d (.int .u8 g2.To.2.2.2.2.1),.d (.int .u8 g2.To.2.2.2.2.2.1),.d (.int .u8 g2.To.2.2.2.2.2.2.1),.d (.int .u8 g2.To.2.2.2.2.2.2.2.1),.d (.int .u8 g2.To.2.2.2.2.2.2.2.2)]) tv rfl rfl rfl rfl rfl (Rn.alloc tv rfl (nt ((Tr.seq (sr ((Rn.fldP (o':=0) tv rfl rfl (Rn.load (v:=.d (.int .u8 g2.zM)) tv rfl (Qj rfl) rfl rfl (Rn.bin tv rfl rfl rfl (Rn.nil (toN ?_)))))))))))))
 refine Tr.cond rfl (fun hb3=>?_) (fun hb3=>?_)
 ·replace h:=ifT hb3 h
  refine sr ((md rfl ?_))
  obtain ⟨x5,h4,h⟩:=bnd h
  refine Rn.call (args:=[(l_ alphabet1)]) tv rfl (H_overseerref03_Empty _ _ h4) pc9 (Rn.storeT (v:=.agg [(l_ x5.zJ),(i_ x5.zM),.nils 1,.nils 3]) (ds:=[(l_ x5.zJ),(i_ x5.zM),.nils 1,.nils 3]) (cs':=[(l_ x5.zJ),(i_ x5.zM),.nils 1,.nils 3]) tv rfl rfl rfl rfl rfl rfl rfl (nt ((Tr.ret ?_))))
  replace h:=si h; subst h
  exact ⟨.inr rfl,(.agg [(l_ x5.zJ),(i_ x5.zM),.nils 1,.nils 3]),Qif rfl rfl rfl rfl,(WkV.agg (.cons (.same rfl) (.cons (.same rfl) (.cons (WkV.nilsD _) (.cons (WkV.nilsD _) .nil))))).rd,⟨tv,tv,tv,tv,tv⟩,fun k hk=>Qh hk⟩
 ·replace h:=ifF hb3 h
  refine Tr.skip (toN (sr ((md rfl ?_))))
  obtain ⟨x7,h6,h⟩:=bnd h
  refine Rn.call (args:=[(l_ alphabet1)]) tv rfl (H_overseerref03_Empty _ _ h6) pc9 (Rn.alloc tv rfl (Rn.storeT (v:=.agg [(l_ x7.zJ),(i_ x7.zM),.nils 1,.nils 3]) (ds:=[(l_ x7.zJ),(i_ x7.zM),.nils 1,.nils 3]) (cs':=[(l_ x7.zJ),(i_ x7.zM),.nils 1,.nils 3]) tv rfl rfl rfl rfl rfl rfl rfl (nt ((sr ((Rn.fldP (o':=0) tv rfl rfl (Rn.load (v:=.d (.int .u8 g2.zM)) tv rfl (Qj rfl) rfl rfl (Rn.bin tv rfl rfl rfl (Rn.conv tv rfl (Rn.bin tv rfl rfl rfl (Rn.fldP (o':=1) tv rfl rfl (Rn.store (v:=(i_ (IntKind.wrap .i64 (1 + (IntKind.wrap .i64 (Int.tmod g2.zM 5)))))) (cs':=[(l_ x7.zJ),(i_ (IntKind.wrap .i64 (1 + (IntKind.wrap .i64 (Int.tmod g2.zM 5))))),.nils 1,.nils 3]) tv rfl rfl rfl rfl rfl rfl (Rn.nil (toN ?_)))))))))))))))
  refine Tr.cutB (fun ((c43,c44,c45,a46,a47,a48):(List Int)×(List Int)×(List Qe)×Int×(List Int)×(List Qe))=>⟨look [(4,.ptr (Γ.n0 + 4) 0),(5,.ptr (Γ.n0 + 5) 0)],Qm Γ.n0 (bxs [(3,.cells ([.d (.int .u8 g2.zM),.d (.int .u8 g2.Marks),.d (.int .u8 g2.To.1.1),.d (.int .u8 g2.To.1.2.1),.d (.int .u8 g2.To.1.2.2.1),.d (.int .u8 g2.To.1.2.2.2.1),.d (.int .u8 g2.To.1.2.2.2.2),.d (.int .u8 g2.To.2.1.1),.d (.int .u8 g2.To.2.1.2.1),.d (.int .u8 g2.To.2.1.2.2.1),.d (.int .u8 g2.To.2.1.2.2.2.1),.d (.int .u8 g2.To.2.1.2.2.2.2),.d (.int .u8 g2.To.2.2.1.1),.d (.int .u8 g2.To.2.2.1.2.1),.d (.int .u8 g2.To.2.2.1.2.2.1),.d (.int .u8 g2.To.2.2.1.2.2.2.1),.d (.int .u8 g2.To.2.2.1.2.2.2.2),.d (.int .u8 g2.To.2.2.2.1.1),.d (.int .u8 g2.To.2.2.2.1.2.1),.d (.int .u8 g2.To.2.2.2.1.2.2.1),.d (.int .u8 g2.To.2.2.2.1.2.2.2.1),.d (.int .u8 g2.To.2.2.2.1.2.2.2.2),.d (.int .u8 g2.To.2.2.2.2.1),.d (.int .u8 g2.To.2.2.2.2.2.1),.d (.int .u8 g2.To.2.2.2.2.2.2.1),.d (.int .u8 g2.To.2.2.2.2.2.2.2.1),.d (.int .u8 g2.To.2.2.2.2.2.2.2.2)])),(4,.cells ([(o_ c43),(i_ 0),(o_ c44),.own 3 (List.map Qa c45)])),(5,.cells ([(l_ x7.zJ),(i_ a46),(o_ a47),.own 3 (List.map Qa a48)]))]) M,Γ.n0 + 79⟩) h (fun z h=>?_) (fun z h=>?_)
  ·refine sr ((md rfl (nt ((Tr.block ?_)))))
   refine Tr.loop (mk:=fun ((i8,c9,c10,c11,a12,a13,a14):Int×(List Int)×(List Int)×(List Qe)×Int×(List Int)×(List Qe))=>⟨look [(0,(l_ alphabet1)),(3,.ptr (Γ.n0 + 3) 0),(4,.ptr (Γ.n0 + 4) 0),(5,.ptr (Γ.n0 + 5) 0),(6,(i_ i8))],Qm Γ.n0 (bxs [(3,.cells ([.d (.int .u8 g2.zM),.d (.int .u8 g2.Marks),.d (.int .u8 g2.To.1.1),.d (.int .u8 g2.To.1.2.1),.d (.int .u8 g2.To.1.2.2.1),.d (.int .u8 g2.To.1.2.2.2.1),.d (.int .u8 g2.To.1.2.2.2.2),.d (.int .u8 g2.To.2.1.1),.d (.int .u8 g2.To.2.1.2.1),.d (.int .u8 g2.To.2.1.2.2.1),.d (.int .u8 g2.To.2.1.2.2.2.1),.d (.int .u8 g2.To.2.1.2.2.2.2),.d (.int .u8 g2.To.2.2.1.1),.d (.int .u8 g2.To.2.2.1.2.1),.d (.int .u8 g2.To.2.2.1.2.2.1),.d (.int .u8 g2.To.2.2.1.2.2.2.1),.d (.int .u8 g2.To.2.2.1.2.2.2.2),.d (.int .u8 g2.To.2.2.2.1.1),.d (.int .u8 g2.To.2.2.2.1.2.1),.d (.int .u8 g2.To.2.2.2.1.2.2.1),.d (.int .u8 g2.To.2.2.2.1.2.2.2.1),.d (.int .u8 g2.To.2.2.2.1.2.2.2.2),.d (.int .u8 g2.To.2.2.2.2.1),.d (.int .u8 g2.To.2.2.2.2.2.1),.d (.int .u8 g2.To.2.2.2.2.2.2.1),.d (.int .u8 g2.To.2.2.2.2.2.2.2.1),.d (.int .u8 g2.To.2.2.2.2.2.2.2.2)])),(4,.cells ([(o_ c9),(i_ 0),(o_ c10),.own 3 (List.map Qa c11)])),(5,.cells ([(l_ x7.zJ),(i_ a12),(o_ a13),.own 3 (List.map Qa a14)]))]) M,Γ.n0 + 79⟩) h (by exact Qi ⟨(sm rfl),(kPtr rfl),(kPtr rfl),(kPtr rfl),(sm rfl),tv⟩ ⟨⟨_,rfl,rfl,(.same rfl)⟩,⟨_,rfl,rfl,(.cons (WkV.nilsO _) (.cons (sm rfl) (.cons (WkV.nilsO _) (.cons (WkV.nilsO _) .nil))))⟩,⟨_,rfl,rfl,(.cons (sm rfl) (.cons (sm rfl) (.cons (WkV.nilsO _) (.cons (WkV.nilsO _) .nil))))⟩,tv⟩ rfl) (fun k15 z h=>?_)
   ·obtain ⟨i8,c9,c10,c11,a12,a13,a14⟩:=z
    replace h:_ = some _:=h
    refine Tr.seq (sr ((md rfl (Rn.fldP (o':=1) tv rfl rfl (Rn.load (v:=(i_ a12)) tv rfl (Qj rfl) rfl rfl (Rn.bin tv rfl rfl rfl (Rn.nil (toN ?_))))))))
    refine Tr.cond rfl (fun hb16=>?_) (fun hb16=>?_)
    ·replace h:=ifT hb16 h
     refine Tr.skip (toN ?_)
     refine Tr.cutB (fun ((a41,a42):(List Int)×(List Qe))=>⟨look [(0,(l_ alphabet1)),(3,.ptr (Γ.n0 + 3) 0),(4,.ptr (Γ.n0 + 4) 0),(5,.ptr (Γ.n0 + 5) 0),(6,(i_ i8))],Qm Γ.n0 (bxs [(3,.cells ([.d (.int .u8 g2.zM),.d (.int .u8 g2.Marks),.d (.int .u8 g2.To.1.1),.d (.int .u8 g2.To.1.2.1),.d (.int .u8 g2.To.1.2.2.1),.d (.int .u8 g2.To.1.2.2.2.1),.d (.int .u8 g2.To.1.2.2.2.2),.d (.int .u8 g2.To.2.1.1),.d (.int .u8 g2.To.2.1.2.1),.d (.int .u8 g2.To.2.1.2.2.1),.d (.int .u8 g2.To.2.1.2.2.2.1),.d (.int .u8 g2.To.2.1.2.2.2.2),.d (.int .u8 g2.To.2.2.1.1),.d (.int .u8 g2.To.2.2.1.2.1),.d (.int .u8 g2.To.2.2.1.2.2.1),.d (.int .u8 g2.To.2.2.1.2.2.2.1),.d (.int .u8 g2.To.2.2.1.2.2.2.2),.d (.int .u8 g2.To.2.2.2.1.1),.d (.int .u8 g2.To.2.2.2.1.2.1),.d (.int .u8 g2.To.2.2.2.1.2.2.1),.d (.int .u8 g2.To.2.2.2.1.2.2.2.1),.d (.int .u8 g2.To.2.2.2.1.2.2.2.2),.d (.int .u8 g2.To.2.2.2.2.1),.d (.int .u8 g2.To.2.2.2.2.2.1),.d (.int .u8 g2.To.2.2.2.2.2.2.1),.d (.int .u8 g2.To.2.2.2.2.2.2.2.1),.d (.int .u8 g2.To.2.2.2.2.2.2.2.2)])),(4,.cells ([(o_ c9),(i_ 0),(o_ c10),.own 3 (List.map Qa c11)])),(5,.cells ([(l_ x7.zJ),(i_ a12),(o_ a41),.own 3 (List.map Qa a42)]))]) M,Γ.n0 + 79⟩) h (fun z h=>?_) (fun z h=>?_)
     ·refine Tr.block ?_
      refine Tr.cutB (fun (a22:List Int)=>⟨look [(0,(l_ alphabet1)),(3,.ptr (Γ.n0 + 3) 0),(4,.ptr (Γ.n0 + 4) 0),(5,.ptr (Γ.n0 + 5) 0),(6,(i_ i8))],Qm Γ.n0 (bxs [(3,.cells ([.d (.int .u8 g2.zM),.d (.int .u8 g2.Marks),.d (.int .u8 g2.To.1.1),.d (.int .u8 g2.To.1.2.1),.d (.int .u8 g2.To.1.2.2.1),.d (.int .u8 g2.To.1.2.2.2.1),.d (.int .u8 g2.To.1.2.2.2.2),.d (.int .u8 g2.To.2.1.1),.d (.int .u8 g2.To.2.1.2.1),.d (.int .u8 g2.To.2.1.2.2.1),.d (.int .u8 g2.To.2.1.2.2.2.1),.d (.int .u8 g2.To.2.1.2.2.2.2),.d (.int .u8 g2.To.2.2.1.1),.d (.int .u8 g2.To.2.2.1.2.1),.d (.int .u8 g2.To.2.2.1.2.2.1),.d (.int .u8 g2.To.2.2.1.2.2.2.1),.d (.int .u8 g2.To.2.2.1.2.2.2.2),.d (.int .u8 g2.To.2.2.2.1.1),.d (.int .u8 g2.To.2.2.2.1.2.1),.d (.int .u8 g2.To.2.2.2.1.2.2.1),.d (.int .u8 g2.To.2.2.2.1.2.2.2.1),.d (.int .u8 g2.To.2.2.2.1.2.2.2.2),.d (.int .u8 g2.To.2.2.2.2.1),.d (.int .u8 g2.To.2.2.2.2.2.1),.d (.int .u8 g2.To.2.2.2.2.2.2.1),.d (.int .u8 g2.To.2.2.2.2.2.2.2.1),.d (.int .u8 g2.To.2.2.2.2.2.2.2.2)])),(4,.cells ([(o_ c9),(i_ 0),(o_ c10),.own 3 (List.map Qa c11)])),(5,.cells ([(l_ x7.zJ),(i_ a12),(o_ a22),.own 3 (List.map Qa a14)]))]) M,Γ.n0 + 79⟩) h (fun z h=>?_) (fun z h=>?_)
      ·refine sr ((Rn.fldP (o':=1) tv rfl rfl (Rn.load (v:=.d (.int .u8 g2.Marks)) tv rfl (Qj rfl) rfl rfl (md rfl ?_))))
       obtain ⟨s17,h18,h⟩:=bnd h
       refine Rn.bin tv rfl rfl (Qber h18) (Rn.bin tv rfl rfl rfl (Rn.bin tv rfl rfl rfl (Rn.nil (toN ?_))))
       refine Tr.cond rfl (fun hb19=>?_) (fun hb19=>?_)
       ·replace h:=bT hb19 h
        refine Tr.rgn (Rn.fldP (o':=2) tv rfl rfl (Rn.loadT (cs':=[(l_ x7.zJ),(i_ a12),(l_ a13),.own 3 (List.map Qa a14)]) tv rfl rfl rfl rfl (md rfl (Rn.bslice (xs:=[(i_ i8)]) (cs:=[(i_ i8)]) tv rfl rfl rfl rfl ?_))))
        obtain ⟨x20,h21,h⟩:=bnd h
        refine Rn.app (e:=(eI .i64)) tv rfl rfl rfl (Qb2 rfl rfl rfl) h21 rfl (Rn.fldP (o':=2) tv rfl rfl (Rn.storeO (cs':=[(l_ x7.zJ),(i_ a12),(o_ x20),.own 3 (List.map Qa a14)]) tv rfl rfl rfl rfl rfl (Rn.nil ?_)))
        replace h:=si h; subst h
        exact Qg [37] ⟨(sm rfl),(kPtr rfl),(kPtr rfl),(kPtr rfl),(sm rfl),tv⟩ ⟨⟨_,rfl,rfl,(.same rfl)⟩,⟨_,rfl,rfl,(.same rfl)⟩,⟨_,rfl,rfl,(.same rfl)⟩,tv⟩ rfl
       ·replace h:=bF hb19 h
        refine Tr.skip ?_
        replace h:=si h; subst h
        exact Qg [] ⟨(sm rfl),(kPtr rfl),(kPtr rfl),(kPtr rfl),(sm rfl),tv⟩ ⟨⟨_,rfl,rfl,(.same rfl)⟩,⟨_,rfl,rfl,(.same rfl)⟩,⟨_,rfl,rfl,(.same rfl)⟩,tv⟩ rfl
      ·obtain ⟨a22,rfl⟩ : ∃ x,x = z:=⟨_,rfl⟩
       refine sr ((md rfl (nt ((Tr.block ?_)))))
       refine Tr.loop (mk:=fun ((k23,a24):Int×(List Qe))=>⟨look [(0,(l_ alphabet1)),(3,.ptr (Γ.n0 + 3) 0),(4,.ptr (Γ.n0 + 4) 0),(5,.ptr (Γ.n0 + 5) 0),(6,(i_ i8)),(7,(i_ k23))],Qm Γ.n0 (bxs [(3,.cells ([.d (.int .u8 g2.zM),.d (.int .u8 g2.Marks),.d (.int .u8 g2.To.1.1),.d (.int .u8 g2.To.1.2.1),.d (.int .u8 g2.To.1.2.2.1),.d (.int .u8 g2.To.1.2.2.2.1),.d (.int .u8 g2.To.1.2.2.2.2),.d (.int .u8 g2.To.2.1.1),.d (.int .u8 g2.To.2.1.2.1),.d (.int .u8 g2.To.2.1.2.2.1),.d (.int .u8 g2.To.2.1.2.2.2.1),.d (.int .u8 g2.To.2.1.2.2.2.2),.d (.int .u8 g2.To.2.2.1.1),.d (.int .u8 g2.To.2.2.1.2.1),.d (.int .u8 g2.To.2.2.1.2.2.1),.d (.int .u8 g2.To.2.2.1.2.2.2.1),.d (.int .u8 g2.To.2.2.1.2.2.2.2),.d (.int .u8 g2.To.2.2.2.1.1),.d (.int .u8 g2.To.2.2.2.1.2.1),.d (.int .u8 g2.To.2.2.2.1.2.2.1),.d (.int .u8 g2.To.2.2.2.1.2.2.2.1),.d (.int .u8 g2.To.2.2.2.1.2.2.2.2),.d (.int .u8 g2.To.2.2.2.2.1),.d (.int .u8 g2.To.2.2.2.2.2.1),.d (.int .u8 g2.To.2.2.2.2.2.2.1),.d (.int .u8 g2.To.2.2.2.2.2.2.2.1),.d (.int .u8 g2.To.2.2.2.2.2.2.2.2)])),(4,.cells ([(o_ c9),(i_ 0),(o_ c10),.own 3 (List.map Qa c11)])),(5,.cells ([(l_ x7.zJ),(i_ a12),(o_ a22),.own 3 (List.map Qa a24)]))]) M,Γ.n0 + 79⟩) h (by exact Qi ⟨(sm rfl),(kPtr rfl),(kPtr rfl),(kPtr rfl),(sm rfl),(sm rfl),tv⟩ ⟨⟨_,rfl,rfl,(.same rfl)⟩,⟨_,rfl,rfl,(.same rfl)⟩,⟨_,rfl,rfl,(.same rfl)⟩,tv⟩ rfl) (fun k25 z h=>?_)
       ·obtain ⟨k23,a24⟩:=z
        replace h:_ = some _:=h
        refine Tr.seq ?_
        refine Tr.cutB (fun (x27:Bool)=>⟨look [(0,(l_ alphabet1)),(3,.ptr (Γ.n0 + 3) 0),(4,.ptr (Γ.n0 + 4) 0),(5,.ptr (Γ.n0 + 5) 0),(6,(i_ i8)),(7,(i_ k23)),(47,(b_ x27))],Qm Γ.n0 (bxs [(3,.cells ([.d (.int .u8 g2.zM),.d (.int .u8 g2.Marks),.d (.int .u8 g2.To.1.1),.d (.int .u8 g2.To.1.2.1),.d (.int .u8 g2.To.1.2.2.1),.d (.int .u8 g2.To.1.2.2.2.1),.d (.int .u8 g2.To.1.2.2.2.2),.d (.int .u8 g2.To.2.1.1),.d (.int .u8 g2.To.2.1.2.1),.d (.int .u8 g2.To.2.1.2.2.1),.d (.int .u8 g2.To.2.1.2.2.2.1),.d (.int .u8 g2.To.2.1.2.2.2.2),.d (.int .u8 g2.To.2.2.1.1),.d (.int .u8 g2.To.2.2.1.2.1),.d (.int .u8 g2.To.2.2.1.2.2.1),.d (.int .u8 g2.To.2.2.1.2.2.2.1),.d (.int .u8 g2.To.2.2.1.2.2.2.2),.d (.int .u8 g2.To.2.2.2.1.1),.d (.int .u8 g2.To.2.2.2.1.2.1),.d (.int .u8 g2.To.2.2.2.1.2.2.1),.d (.int .u8 g2.To.2.2.2.1.2.2.2.1),.d (.int .u8 g2.To.2.2.2.1.2.2.2.2),.d (.int .u8 g2.To.2.2.2.2.1),.d (.int .u8 g2.To.2.2.2.2.2.1),.d (.int .u8 g2.To.2.2.2.2.2.2.1),.d (.int .u8 g2.To.2.2.2.2.2.2.2.1),.d (.int .u8 g2.To.2.2.2.2.2.2.2.2)])),(4,.cells ([(o_ c9),(i_ 0),(o_ c10),.own 3 (List.map Qa c11)])),(5,.cells ([(l_ x7.zJ),(i_ a12),(o_ a22),.own 3 (List.map Qa a24)]))]) M,Γ.n0 + 79⟩) h (fun z h=>?_) (fun z h=>?_)
        ·refine Tr.rgn (md rfl (md rfl (Rn.lenD tv rfl (Rn.bin tv rfl rfl rfl (md rfl ?_)))))
         refine Qbr (decide (k23 < (alphabet1.length:Int))) (fun hb26=>?_) (fun hb26=>?_)
         ·replace h:=ifT hb26 h
          refine Rn.movD (gw rfl hb26) rfl (Rn.bin (gw rfl hb26) rfl rfl rfl (Rn.pickT (v:=(b_ (decide (k23 < 5)))) tv rfl hb26 rfl (Rn.nil ?_)))
          replace h:=si h; subst h
          exact Qg [] ⟨(sm rfl),(kPtr rfl),(kPtr rfl),(kPtr rfl),(sm rfl),(sm rfl),(sm rfl),tv⟩ ⟨⟨_,rfl,rfl,(.same rfl)⟩,⟨_,rfl,rfl,(.same rfl)⟩,⟨_,rfl,rfl,(.same rfl)⟩,tv⟩ rfl
         ·replace h:=ifF hb26 h
          refine Rn.sk (nw rfl hb26) (Rn.sk (nw rfl hb26) (Rn.pickF (v:=(b_ false)) tv rfl hb26 rfl (Rn.nil ?_)))
          replace h:=si h; subst h
          exact Qg [] ⟨(sm rfl),(kPtr rfl),(kPtr rfl),(kPtr rfl),(sm rfl),(sm rfl),(sm rfl),tv⟩ ⟨⟨_,rfl,rfl,(.same rfl)⟩,⟨_,rfl,rfl,(.same rfl)⟩,⟨_,rfl,rfl,(.same rfl)⟩,tv⟩ rfl
        ·obtain ⟨x27,rfl⟩ : ∃ x,x = z:=⟨_,rfl⟩
         refine Tr.cond rfl (fun hb28=>?_) (fun hb28=>?_)
         ·replace h:=bT hb28 h
          refine Tr.skip (toN ?_)
          refine Tr.cutB (fun (a40:List Qe)=>⟨look [(0,(l_ alphabet1)),(3,.ptr (Γ.n0 + 3) 0),(4,.ptr (Γ.n0 + 4) 0),(5,.ptr (Γ.n0 + 5) 0),(6,(i_ i8)),(7,(i_ k23))],Qm Γ.n0 (bxs [(3,.cells ([.d (.int .u8 g2.zM),.d (.int .u8 g2.Marks),.d (.int .u8 g2.To.1.1),.d (.int .u8 g2.To.1.2.1),.d (.int .u8 g2.To.1.2.2.1),.d (.int .u8 g2.To.1.2.2.2.1),.d (.int .u8 g2.To.1.2.2.2.2),.d (.int .u8 g2.To.2.1.1),.d (.int .u8 g2.To.2.1.2.1),.d (.int .u8 g2.To.2.1.2.2.1),.d (.int .u8 g2.To.2.1.2.2.2.1),.d (.int .u8 g2.To.2.1.2.2.2.2),.d (.int .u8 g2.To.2.2.1.1),.d (.int .u8 g2.To.2.2.1.2.1),.d (.int .u8 g2.To.2.2.1.2.2.1),.d (.int .u8 g2.To.2.2.1.2.2.2.1),.d (.int .u8 g2.To.2.2.1.2.2.2.2),.d (.int .u8 g2.To.2.2.2.1.1),.d (.int .u8 g2.To.2.2.2.1.2.1),.d (.int .u8 g2.To.2.2.2.1.2.2.1),.d (.int .u8 g2.To.2.2.2.1.2.2.2.1),.d (.int .u8 g2.To.2.2.2.1.2.2.2.2),.d (.int .u8 g2.To.2.2.2.2.1),.d (.int .u8 g2.To.2.2.2.2.2.1),.d (.int .u8 g2.To.2.2.2.2.2.2.1),.d (.int .u8 g2.To.2.2.2.2.2.2.2.1),.d (.int .u8 g2.To.2.2.2.2.2.2.2.2)])),(4,.cells ([(o_ c9),(i_ 0),(o_ c10),.own 3 (List.map Qa c11)])),(5,.cells ([(l_ x7.zJ),(i_ a12),(o_ a22),.own 3 (List.map Qa a40)]))]) M,Γ.n0 + 79⟩) h (fun z h=>?_) (fun z h=>?_)
          ·refine Tr.block (Tr.seq ?_)
           refine Tr.rgnD (by decide) ?_
           refine md rfl (md rfl (Rn.fldP (o':=2) tv rfl rfl ?_))
           obtain ⟨⟨⟩,h29,h⟩:=bnd h
           refine Rn.idxArr (o':=2 + (Int.toNat i8 * 5)) tv rfl rfl rfl h29 ?_
           obtain ⟨⟨⟩,h30,h⟩:=bnd h
           refine Rn.idxArr (o':=2 + (Int.toNat i8 * 5 + Int.toNat k23 * 1)) tv rfl rfl (Nat.add_assoc ..).symm h30 ?_
           obtain ⟨x31,h32,h⟩:=bnd h
           refine Rn.loadArr (e:=(fun (z:Int)=>.int .u8 z)) (pre:=[.d (.int .u8 g2.zM),.d (.int .u8 g2.Marks)]) (post:=[]) tv rfl rfl (Qj rfl) rfl rfl h32 (Rn.conv tv rfl (Rn.fldP (o':=1) tv rfl rfl (Rn.load (v:=(i_ a12)) tv rfl (Qj rfl) rfl rfl (Rn.bin tv rfl rfl rfl ?_))))
           obtain ⟨s33,h34,h⟩:=bnd h
           refine Rn.bin tv rfl rfl (Qblj h34) (md rfl ?_)
           refine Rn.nil ⟨rfl,?_⟩
           refine toN (sr ((md rfl (Rn.fldP (o':=1) tv rfl rfl (Rn.load (v:=(i_ a12)) tv rfl (Qj rfl) rfl rfl (Rn.bin tv rfl rfl rfl (Rn.nil (toN ?_))))))))
           refine Tr.cond rfl (fun hb35=>?_) (fun hb35=>?_)
           ·replace h:=ifT hb35 h
            refine Tr.rgnD (by decide) ?_
            refine Rn.fldP (o':=3) tv rfl rfl (Rn.loadT (cs':=[(l_ x7.zJ),(i_ a12),(o_ a22),.d (.lst 3 (List.map Qa a24))]) tv rfl rfl rfl rfl (md rfl (md rfl (md rfl ?_))))
            obtain ⟨x36,h37,h⟩:=bnd h
            refine Rn.idxD (e:=(eI .i64)) tv rfl rfl h37 (Rn.loadC (x:=.int .i64 x36) tv rfl (md rfl (Rn.build (v:=.agg [(i_ i8),(i_ x36),(i_ s33)]) tv rfl (Rn.bslice (xs:=[.agg [(i_ i8),(i_ x36),(i_ s33)]]) (cs:=[(i_ i8),(i_ x36),(i_ s33)]) tv rfl rfl rfl rfl ?_))))
            obtain ⟨x38,h39,h⟩:=bnd h
            refine Rn.app (e:=Qa) tv rfl rfl rfl (Qb2 rfl rfl rfl) h39 rfl (Rn.fldP (o':=3) tv rfl rfl (Rn.storeO (cs':=[(l_ x7.zJ),(i_ a12),(o_ a22),.own 3 (List.map Qa x38)]) tv rfl rfl rfl rfl rfl ?_))
            refine Rn.nil ⟨rfl,?_⟩
            replace h:=si h; subst h
            exact Qg [74] ⟨(sm rfl),(kPtr rfl),(kPtr rfl),(kPtr rfl),(sm rfl),(sm rfl),tv⟩ ⟨⟨_,rfl,rfl,(.same rfl)⟩,⟨_,rfl,rfl,(.same rfl)⟩,⟨_,rfl,rfl,(.same rfl)⟩,tv⟩ rfl
           ·replace h:=ifF hb35 h
            refine Tr.skip ?_
            replace h:=si h; subst h
            exact Qg [] ⟨(sm rfl),(kPtr rfl),(kPtr rfl),(kPtr rfl),(sm rfl),(sm rfl),tv⟩ ⟨⟨_,rfl,rfl,(.same rfl)⟩,⟨_,rfl,rfl,(.same rfl)⟩,⟨_,rfl,rfl,(.same rfl)⟩,tv⟩ rfl
          ·obtain ⟨a40,rfl⟩ : ∃ x,x = z:=⟨_,rfl⟩
           refine Tr.rgn (md rfl (Rn.bin tv rfl rfl rfl (md rfl (Rn.nil ?_))))
           exact ⟨_,h,(by exact Qi ⟨(sm rfl),(kPtr rfl),(kPtr rfl),(kPtr rfl),(sm rfl),(sm rfl),tv⟩ ⟨⟨_,rfl,rfl,(.same rfl)⟩,⟨_,rfl,rfl,(.same rfl)⟩,⟨_,rfl,rfl,(.same rfl)⟩,tv⟩ rfl)⟩
         ·replace h:=bF hb28 h
          refine Tr.exit ?_
          replace h:=si h; subst h
          exact Qg [] ⟨(sm rfl),(kPtr rfl),(kPtr rfl),(kPtr rfl),(sm rfl),tv⟩ ⟨⟨_,rfl,rfl,(.same rfl)⟩,⟨_,rfl,rfl,(.same rfl)⟩,⟨_,rfl,rfl,(.same rfl)⟩,tv⟩ rfl
     ·obtain ⟨a41,a42⟩:=z
      refine Tr.rgn (md rfl (Rn.bin tv rfl rfl rfl (md rfl (Rn.nil ?_))))
      exact ⟨_,h,(by exact Qi ⟨(sm rfl),(kPtr rfl),(kPtr rfl),(kPtr rfl),(sm rfl),tv⟩ ⟨⟨_,rfl,rfl,(.same rfl)⟩,⟨_,rfl,rfl,(.same rfl)⟩,⟨_,rfl,rfl,(.same rfl)⟩,tv⟩ rfl)⟩
    ·replace h:=ifF hb16 h
     refine Tr.exit ?_
     replace h:=si h; subst h
     exact Qg [] ⟨(kPtr rfl),(kPtr rfl),tv⟩ ⟨⟨_,rfl,rfl,(.same rfl)⟩,⟨_,rfl,rfl,(.same rfl)⟩,⟨_,rfl,rfl,(.same rfl)⟩,tv⟩ rfl
  ·obtain ⟨c43,c44,c45,a46,a47,a48⟩:=z
   refine sr ((Rn.load (v:=.agg [(l_ x7.zJ),(i_ a46),(l_ a47),.d (.lst 3 (List.map Qa a48))]) tv rfl (Qj rfl) rfl rfl ?_))
   obtain ⟨x50,h49,h⟩:=bnd h
   refine Rn.call (args:=[.agg [(l_ x7.zJ),(i_ a46),(l_ a47),.d (.lst 3 (List.map Qa a48))]]) tv rfl (H_overseerref03_Canonical _ _ h49) pc9 (Rn.storeT (v:=(Qk x50)) (ds:=(Qs x50)) (cs':=(Qs x50)) tv rfl rfl rfl rfl rfl rfl rfl (nt ((Tr.ret ?_))))
   replace h:=si h; subst h
   exact ⟨.inr rfl,(Qk x50),Qif rfl rfl rfl rfl,fun _ _ _ _ h=>h,⟨tv,tv,tv,tv,tv⟩,fun k hk=>Qh hk⟩
theorem Qzp {P:Program} {c:Nat} {Qbd:Int→Option ((List Int))} {Qcj:(List Int)→Qbj→Option Qf}
    (H_overseerlaw03_Set_Events:Qfp P 33 Qbd)
    (H_overseerlaw03_Make:Qij P 36 Qcj) (hcf:Qy P c = some Qim) (fuel:Nat):Qil P c (Qck Qbd Qcj fuel):=by
 intro k1 r h
 refine Qek hcf rfl fun Γ M hP hnt hM=>?_
 subst hP
 refine Tr.init [(0,.agg [.d (.int .u8 k1.Part.Events),.d (.int .u8 k1.Part.Graph.zM),.d (.int .u8 k1.Part.Graph.Marks),.d (.int .u8 k1.Part.Graph.To.1.1),.d (.int .u8 k1.Part.Graph.To.1.2.1),.d (.int .u8 k1.Part.Graph.To.1.2.2.1),.d (.int .u8 k1.Part.Graph.To.1.2.2.2.1),.d (.int .u8 k1.Part.Graph.To.1.2.2.2.2),.d (.int .u8 k1.Part.Graph.To.2.1.1),.d (.int .u8 k1.Part.Graph.To.2.1.2.1),.d (.int .u8 k1.Part.Graph.To.2.1.2.2.1),.d (.int .u8 k1.Part.Graph.To.2.1.2.2.2.1),.d (.int .u8 k1.Part.Graph.To.2.1.2.2.2.2),.d (.int .u8 k1.Part.Graph.To.2.2.1.1),.d (.int .u8 k1.Part.Graph.To.2.2.1.2.1),.d (.int .u8 k1.Part.Graph.To.2.2.1.2.2.1),.d (.int .u8 k1.Part.Graph.To.2.2.1.2.2.2.1),.d (.int .u8 k1.Part.Graph.To.2.2.1.2.2.2.2),.d (.int .u8 k1.Part.Graph.To.2.2.2.1.1),.d (.int .u8 k1.Part.Graph.To.2.2.2.1.2.1),.d (.int .u8 k1.Part.Graph.To.2.2.2.1.2.2.1),.d (.int .u8 k1.Part.Graph.To.2.2.2.1.2.2.2.1),.d (.int .u8 k1.Part.Graph.To.2.2.2.1.2.2.2.2),.d (.int .u8 k1.Part.Graph.To.2.2.2.2.1),.d (.int .u8 k1.Part.Graph.To.2.2.2.2.2.1),.d (.int .u8 k1.Part.Graph.To.2.2.2.2.2.2.1),.d (.int .u8 k1.Part.Graph.To.2.2.2.2.2.2.2.1),.d (.int .u8 k1.Part.Graph.To.2.2.2.2.2.2.2.2),.d (.int .u8 k1.zC),.d (.int .u8 k1.zB),.d (.int .u8 k1.zD)])] rfl ?_
 unfold Qck at h
 unfold Qim
 refine sr ((Rn.box (v:=.agg [.d (.int .u8 k1.Part.Events),.d (.int .u8 k1.Part.Graph.zM),.d (.int .u8 k1.Part.Graph.Marks),.d (.int .u8 k1.Part.Graph.To.1.1),.d (.int .u8 k1.Part.Graph.To.1.2.1),.d (.int .u8 k1.Part.Graph.To.1.2.2.1),.d (.int .u8 k1.Part.Graph.To.1.2.2.2.1),.d (.int .u8 k1.Part.Graph.To.1.2.2.2.2),.d (.int .u8 k1.Part.Graph.To.2.1.1),.d (.int .u8 k1.Part.Graph.To.2.1.2.1),.d (.int .u8 k1.Part.Graph.To.2.1.2.2.1),.d (.int .u8 k1.Part.Graph.To.2.1.2.2.2.1),.d (.int .u8 k1.Part.Graph.To.2.1.2.2.2.2),.d (.int .u8 k1.Part.Graph.To.2.2.1.1),.d (.int .u8 k1.Part.Graph.To.2.2.1.2.1),.d (.int .u8 k1.Part.Graph.To.2.2.1.2.2.1),.d (.int .u8 k1.Part.Graph.To.2.2.1.2.2.2.1),.d (.int .u8 k1.Part.Graph.To.2.2.1.2.2.2.2),.d (.int .u8 k1.Part.Graph.To.2.2.2.1.1),.d (.int .u8 k1.Part.Graph.To.2.2.2.1.2.1),.d (.int .u8 k1.Part.Graph.To.2.2.2.1.2.2.1),.d (.int .u8 k1.Part.Graph.To.2.2.2.1.2.2.2.1),.d (.int .u8 k1.Part.Graph.To.2.2.2.1.2.2.2.2),.d (.int .u8 k1.Part.Graph.To.2.2.2.2.1),.d (.int .u8 k1.Part.Graph.To.2.2.2.2.2.1),.d (.int .u8 k1.Part.Graph.To.2.2.2.2.2.2.1),.d (.int .u8 k1.Part.Graph.To.2.2.2.2.2.2.2.1),.d (.int .u8 k1.Part.Graph.To.2.2.2.2.2.2.2.2),.d (.int .u8 k1.zC),.d (.int .u8 k1.zB),.d (.int .u8 k1.zD)]) (cs:=[.d (.int .u8 k1.Part.Events),.d (.int .u8 k1.Part.Graph.zM),.d (.int .u8 k1.Part.Graph.Marks),.d (.int .u8 k1.Part.Graph.To.1.1),.d (.int .u8 k1.Part.Graph.To.1.2.1),.d (.int .u8 k1.Part.Graph.To.1.2.2.1),.d (.int .u8 k1.Part.Graph.To.1.2.2.2.1),.d (.int .u8 k1.Part.Graph.To.1.2.2.2.2),.d (.int .u8 k1.Part.Graph.To.2.1.1),.d (.int .u8 k1.Part.Graph.To.2.1.2.1),.d (.int .u8 k1.Part.Graph.To.2.1.2.2.1),.d (.int .u8 k1.Part.Graph.To.2.1.2.2.2.1),.d (.int .u8 k1.Part.Graph.To.2.1.2.2.2.2),.d (.int .u8 k1.Part.Graph.To.2.2.1.1),.d (.int .u8 k1.Part.Graph.To.2.2.1.2.1),.d (.int .u8 k1.Part.Graph.To.2.2.1.2.2.1),.d (.int .u8 k1.Part.Graph.To.2.2.1.2.2.2.1),.d (.int .u8 k1.Part.Graph.To.2.2.1.2.2.2.2),.d (.int .u8 k1.Part.Graph.To.2.2.2.1.1),.d (.int .u8 k1.Part.Graph.To.2.2.2.1.2.1),.d (.int .u8 k1.Part.Graph.To.2.2.2.1.2.2.1),.d (.int .u8 k1.Part.Graph.To.2.2.2.1.2.2.2.1),.d (.int .u8 k1.Part.Graph.To.2.2.2.1.2.2.2.2),.d (.int .u8 k1.Part.Graph.To.2.2.2.2.1),.d (.int .u8 k1.Part.Graph.To.2.2.2.2.2.1),.d (.int .u8 k1.Part.Graph.To.2.2.2.2.2.2.1),.d (.int .u8 k1.Part.Graph.To.2.2.2.2.2.2.2.1),.d (.int .u8 k1.Part.Graph.To.2.2.2.2.2.2.2.2),.d (.int .u8 k1.zC),.d (.int .u8 k1.zB),.d (.int .u8 k1.zD)]) tv rfl rfl rfl rfl rfl (Rn.alloc tv rfl (nt ((Tr.seq ?_))))))
 refine Tr.rgnD (by decide) ?_
 refine Rn.fldP (o':=0) tv rfl rfl (Rn.fldP (o':=0) tv rfl rfl (Rn.load (v:=.d (.int .u8 k1.Part.Events)) tv rfl (Qj rfl) rfl rfl ?_))
 obtain ⟨x3,h2,h⟩:=bnd h
 refine Rn.call (args:=[.d (.int .u8 k1.Part.Events)]) tv rfl (H_overseerlaw03_Set_Events _ _ h2) (fun _=>Qbba hM rfl) (Rn.fldP (o':=0) tv rfl rfl (Rn.fldP (o':=1) tv rfl rfl (Rn.load (v:=.agg [.d (.int .u8 k1.Part.Graph.zM),.d (.int .u8 k1.Part.Graph.Marks),.d (.int .u8 k1.Part.Graph.To.1.1),.d (.int .u8 k1.Part.Graph.To.1.2.1),.d (.int .u8 k1.Part.Graph.To.1.2.2.1),.d (.int .u8 k1.Part.Graph.To.1.2.2.2.1),.d (.int .u8 k1.Part.Graph.To.1.2.2.2.2),.d (.int .u8 k1.Part.Graph.To.2.1.1),.d (.int .u8 k1.Part.Graph.To.2.1.2.1),.d (.int .u8 k1.Part.Graph.To.2.1.2.2.1),.d (.int .u8 k1.Part.Graph.To.2.1.2.2.2.1),.d (.int .u8 k1.Part.Graph.To.2.1.2.2.2.2),.d (.int .u8 k1.Part.Graph.To.2.2.1.1),.d (.int .u8 k1.Part.Graph.To.2.2.1.2.1),.d (.int .u8 k1.Part.Graph.To.2.2.1.2.2.1),.d (.int .u8 k1.Part.Graph.To.2.2.1.2.2.2.1),.d (.int .u8 k1.Part.Graph.To.2.2.1.2.2.2.2),.d (.int .u8 k1.Part.Graph.To.2.2.2.1.1),.d (.int .u8 k1.Part.Graph.To.2.2.2.1.2.1),.d (.int .u8 k1.Part.Graph.To.2.2.2.1.2.2.1),.d (.int .u8 k1.Part.Graph.To.2.2.2.1.2.2.2.1),.d (.int .u8 k1.Part.Graph.To.2.2.2.1.2.2.2.2),.d (.int .u8 k1.Part.Graph.To.2.2.2.2.1),.d (.int .u8 k1.Part.Graph.To.2.2.2.2.2.1),.d (.int .u8 k1.Part.Graph.To.2.2.2.2.2.2.1),.d (.int .u8 k1.Part.Graph.To.2.2.2.2.2.2.2.1),.d (.int .u8 k1.Part.Graph.To.2.2.2.2.2.2.2.2)]) tv rfl (Qj rfl) rfl rfl ?_)))
 obtain ⟨x5,h4,h⟩:=bnd h
 refine Rn.call (args:=[(l_ x3),.agg [.d (.int .u8 k1.Part.Graph.zM),.d (.int .u8 k1.Part.Graph.Marks),.d (.int .u8 k1.Part.Graph.To.1.1),.d (.int .u8 k1.Part.Graph.To.1.2.1),.d (.int .u8 k1.Part.Graph.To.1.2.2.1),.d (.int .u8 k1.Part.Graph.To.1.2.2.2.1),.d (.int .u8 k1.Part.Graph.To.1.2.2.2.2),.d (.int .u8 k1.Part.Graph.To.2.1.1),.d (.int .u8 k1.Part.Graph.To.2.1.2.1),.d (.int .u8 k1.Part.Graph.To.2.1.2.2.1),.d (.int .u8 k1.Part.Graph.To.2.1.2.2.2.1),.d (.int .u8 k1.Part.Graph.To.2.1.2.2.2.2),.d (.int .u8 k1.Part.Graph.To.2.2.1.1),.d (.int .u8 k1.Part.Graph.To.2.2.1.2.1),.d (.int .u8 k1.Part.Graph.To.2.2.1.2.2.1),.d (.int .u8 k1.Part.Graph.To.2.2.1.2.2.2.1),.d (.int .u8 k1.Part.Graph.To.2.2.1.2.2.2.2),.d (.int .u8 k1.Part.Graph.To.2.2.2.1.1),.d (.int .u8 k1.Part.Graph.To.2.2.2.1.2.1),.d (.int .u8 k1.Part.Graph.To.2.2.2.1.2.2.1),.d (.int .u8 k1.Part.Graph.To.2.2.2.1.2.2.2.1),.d (.int .u8 k1.Part.Graph.To.2.2.2.1.2.2.2.2),.d (.int .u8 k1.Part.Graph.To.2.2.2.2.1),.d (.int .u8 k1.Part.Graph.To.2.2.2.2.2.1),.d (.int .u8 k1.Part.Graph.To.2.2.2.2.2.2.1),.d (.int .u8 k1.Part.Graph.To.2.2.2.2.2.2.2.1),.d (.int .u8 k1.Part.Graph.To.2.2.2.2.2.2.2.2)]]) tv rfl (H_overseerlaw03_Make _ _ _ h4) (fun _=>Qbba hM rfl) (Rn.fldP (o':=29) tv rfl rfl (Rn.load (v:=.d (.int .u8 k1.zB)) tv rfl (Qj rfl) rfl rfl (Rn.bin tv rfl rfl rfl ?_)))
 obtain ⟨x7,h6,h⟩:=bnd h
 refine Rn.call (args:=[.d (.int .u8 (andI .u8 k1.zB 15))]) tv rfl (H_overseerlaw03_Set_Events _ _ h6) (fun _=>Qbba hM rfl) (Rn.fldP (o':=30) tv rfl rfl (Rn.load (v:=.d (.int .u8 k1.zD)) tv rfl (Qj rfl) rfl rfl (Rn.bin tv rfl rfl rfl ?_)))
 obtain ⟨x9,h8,h⟩:=bnd h
 refine Rn.call (args:=[.d (.int .u8 (andI .u8 k1.zD 15))]) tv rfl (H_overseerlaw03_Set_Events _ _ h8) (fun _=>Qbba hM rfl) (Rn.buildT (v:=.agg [(l_ x5.zJ),(i_ x5.zM),(l_ x5.zK),.d (.lst 3 (List.map Qa x5.zL)),.nils 1,(o_ x7),(l_ x9),(i_ 4)]) tv rfl (Rn.alloc tv rfl (Rn.storeT (v:=.agg [(l_ x5.zJ),(i_ x5.zM),(l_ x5.zK),.d (.lst 3 (List.map Qa x5.zL)),.nils 1,(o_ x7),(l_ x9),(i_ 4)]) (ds:=[(l_ x5.zJ),(i_ x5.zM),(l_ x5.zK),.d (.lst 3 (List.map Qa x5.zL)),.nils 1,(o_ x7),(l_ x9),(i_ 4)]) (cs':=[(l_ x5.zJ),(i_ x5.zM),(l_ x5.zK),.d (.lst 3 (List.map Qa x5.zL)),.nils 1,(o_ x7),(l_ x9),(i_ 4)]) tv rfl rfl rfl rfl rfl rfl rfl ?_)))
 refine Rn.nil ⟨rfl,?_⟩
 refine toN ?_
 refine Tr.cutB (fun ((c26,c27,c28,c29,c30,c31,p32):(List Int)×(List Int)×(List Qe)×(List Int)×(List Int)×(List Int)×(List Int))=>⟨look [(2,.ptr (Γ.n0 + 2) 0),(3,.ptr (Γ.n0 + 3) 0)],Qm Γ.n0 (bxs [(1,.cells ([.d (.int .u8 k1.Part.Events),.d (.int .u8 k1.Part.Graph.zM),.d (.int .u8 k1.Part.Graph.Marks),.d (.int .u8 k1.Part.Graph.To.1.1),.d (.int .u8 k1.Part.Graph.To.1.2.1),.d (.int .u8 k1.Part.Graph.To.1.2.2.1),.d (.int .u8 k1.Part.Graph.To.1.2.2.2.1),.d (.int .u8 k1.Part.Graph.To.1.2.2.2.2),.d (.int .u8 k1.Part.Graph.To.2.1.1),.d (.int .u8 k1.Part.Graph.To.2.1.2.1),.d (.int .u8 k1.Part.Graph.To.2.1.2.2.1),.d (.int .u8 k1.Part.Graph.To.2.1.2.2.2.1),.d (.int .u8 k1.Part.Graph.To.2.1.2.2.2.2),.d (.int .u8 k1.Part.Graph.To.2.2.1.1),.d (.int .u8 k1.Part.Graph.To.2.2.1.2.1),.d (.int .u8 k1.Part.Graph.To.2.2.1.2.2.1),.d (.int .u8 k1.Part.Graph.To.2.2.1.2.2.2.1),.d (.int .u8 k1.Part.Graph.To.2.2.1.2.2.2.2),.d (.int .u8 k1.Part.Graph.To.2.2.2.1.1),.d (.int .u8 k1.Part.Graph.To.2.2.2.1.2.1),.d (.int .u8 k1.Part.Graph.To.2.2.2.1.2.2.1),.d (.int .u8 k1.Part.Graph.To.2.2.2.1.2.2.2.1),.d (.int .u8 k1.Part.Graph.To.2.2.2.1.2.2.2.2),.d (.int .u8 k1.Part.Graph.To.2.2.2.2.1),.d (.int .u8 k1.Part.Graph.To.2.2.2.2.2.1),.d (.int .u8 k1.Part.Graph.To.2.2.2.2.2.2.1),.d (.int .u8 k1.Part.Graph.To.2.2.2.2.2.2.2.1),.d (.int .u8 k1.Part.Graph.To.2.2.2.2.2.2.2.2),.d (.int .u8 k1.zC),.d (.int .u8 k1.zB),.d (.int .u8 k1.zD)])),(2,.cells ([(o_ c26),(i_ 0),(o_ c27),.own 3 (List.map Qa c28),(o_ c29),(o_ c30),(o_ c31),(i_ 0)])),(3,.cells ([(l_ x5.zJ),(i_ x5.zM),(l_ x5.zK),.d (.lst 3 (List.map Qa x5.zL)),(o_ p32),(o_ x7),(l_ x9),(i_ 4)]))]) M,Γ.n0 + 42⟩) h (fun z h=>?_) (fun z h=>?_)
 ·refine sr ((md rfl (nt ((Tr.block ?_)))))
  refine Tr.loop (mk:=fun ((i10,c11,c12,c13,c14,c15,c16,p17):Int×(List Int)×(List Int)×(List Qe)×(List Int)×(List Int)×(List Int)×(List Int))=>⟨look [(1,.ptr (Γ.n0 + 1) 0),(2,.ptr (Γ.n0 + 2) 0),(3,.ptr (Γ.n0 + 3) 0),(4,(i_ i10))],Qm Γ.n0 (bxs [(1,.cells ([.d (.int .u8 k1.Part.Events),.d (.int .u8 k1.Part.Graph.zM),.d (.int .u8 k1.Part.Graph.Marks),.d (.int .u8 k1.Part.Graph.To.1.1),.d (.int .u8 k1.Part.Graph.To.1.2.1),.d (.int .u8 k1.Part.Graph.To.1.2.2.1),.d (.int .u8 k1.Part.Graph.To.1.2.2.2.1),.d (.int .u8 k1.Part.Graph.To.1.2.2.2.2),.d (.int .u8 k1.Part.Graph.To.2.1.1),.d (.int .u8 k1.Part.Graph.To.2.1.2.1),.d (.int .u8 k1.Part.Graph.To.2.1.2.2.1),.d (.int .u8 k1.Part.Graph.To.2.1.2.2.2.1),.d (.int .u8 k1.Part.Graph.To.2.1.2.2.2.2),.d (.int .u8 k1.Part.Graph.To.2.2.1.1),.d (.int .u8 k1.Part.Graph.To.2.2.1.2.1),.d (.int .u8 k1.Part.Graph.To.2.2.1.2.2.1),.d (.int .u8 k1.Part.Graph.To.2.2.1.2.2.2.1),.d (.int .u8 k1.Part.Graph.To.2.2.1.2.2.2.2),.d (.int .u8 k1.Part.Graph.To.2.2.2.1.1),.d (.int .u8 k1.Part.Graph.To.2.2.2.1.2.1),.d (.int .u8 k1.Part.Graph.To.2.2.2.1.2.2.1),.d (.int .u8 k1.Part.Graph.To.2.2.2.1.2.2.2.1),.d (.int .u8 k1.Part.Graph.To.2.2.2.1.2.2.2.2),.d (.int .u8 k1.Part.Graph.To.2.2.2.2.1),.d (.int .u8 k1.Part.Graph.To.2.2.2.2.2.1),.d (.int .u8 k1.Part.Graph.To.2.2.2.2.2.2.1),.d (.int .u8 k1.Part.Graph.To.2.2.2.2.2.2.2.1),.d (.int .u8 k1.Part.Graph.To.2.2.2.2.2.2.2.2),.d (.int .u8 k1.zC),.d (.int .u8 k1.zB),.d (.int .u8 k1.zD)])),(2,.cells ([(o_ c11),(i_ 0),(o_ c12),.own 3 (List.map Qa c13),(o_ c14),(o_ c15),(o_ c16),(i_ 0)])),(3,.cells ([(l_ x5.zJ),(i_ x5.zM),(l_ x5.zK),.d (.lst 3 (List.map Qa x5.zL)),(o_ p17),(o_ x7),(l_ x9),(i_ 4)]))]) M,Γ.n0 + 42⟩) h (by exact Qi ⟨(kPtr rfl),(kPtr rfl),(kPtr rfl),(sm rfl),tv⟩ ⟨⟨_,rfl,rfl,(.same rfl)⟩,⟨_,rfl,rfl,(.cons (WkV.nilsO _) (.cons (sm rfl) (.cons (WkV.nilsO _) (.cons (WkV.nilsO _) (.cons (WkV.nilsO _) (.cons (WkV.nilsO _) (.cons (WkV.nilsO _) (.cons (sm rfl) .nil))))))))⟩,⟨_,rfl,rfl,(.cons (sm rfl) (.cons (sm rfl) (.cons (sm rfl) (.cons (sm rfl) (.cons (WkV.nilsO _) (.cons (sm rfl) (.cons (sm rfl) (.cons (sm rfl) .nil))))))))⟩,tv⟩ rfl) (fun k18 z h=>?_)
  ·obtain ⟨i10,c11,c12,c13,c14,c15,c16,p17⟩:=z
   replace h:_ = some _:=h
   refine Tr.seq (sr ((md rfl (Rn.fldP (o':=0) tv rfl rfl (Rn.fldP (o':=1) tv rfl rfl (Rn.load (v:=(i_ x5.zM)) tv rfl (Qj rfl) rfl rfl (Rn.bin tv rfl rfl rfl (Rn.nil (toN ?_)))))))))
   refine Tr.cond rfl (fun hb19=>?_) (fun hb19=>?_)
   ·replace h:=ifT hb19 h
    refine Tr.skip (toN ?_)
    refine Tr.cutB (fun (p25:List Int)=>⟨look [(1,.ptr (Γ.n0 + 1) 0),(2,.ptr (Γ.n0 + 2) 0),(3,.ptr (Γ.n0 + 3) 0),(4,(i_ i10))],Qm Γ.n0 (bxs [(1,.cells ([.d (.int .u8 k1.Part.Events),.d (.int .u8 k1.Part.Graph.zM),.d (.int .u8 k1.Part.Graph.Marks),.d (.int .u8 k1.Part.Graph.To.1.1),.d (.int .u8 k1.Part.Graph.To.1.2.1),.d (.int .u8 k1.Part.Graph.To.1.2.2.1),.d (.int .u8 k1.Part.Graph.To.1.2.2.2.1),.d (.int .u8 k1.Part.Graph.To.1.2.2.2.2),.d (.int .u8 k1.Part.Graph.To.2.1.1),.d (.int .u8 k1.Part.Graph.To.2.1.2.1),.d (.int .u8 k1.Part.Graph.To.2.1.2.2.1),.d (.int .u8 k1.Part.Graph.To.2.1.2.2.2.1),.d (.int .u8 k1.Part.Graph.To.2.1.2.2.2.2),.d (.int .u8 k1.Part.Graph.To.2.2.1.1),.d (.int .u8 k1.Part.Graph.To.2.2.1.2.1),.d (.int .u8 k1.Part.Graph.To.2.2.1.2.2.1),.d (.int .u8 k1.Part.Graph.To.2.2.1.2.2.2.1),.d (.int .u8 k1.Part.Graph.To.2.2.1.2.2.2.2),.d (.int .u8 k1.Part.Graph.To.2.2.2.1.1),.d (.int .u8 k1.Part.Graph.To.2.2.2.1.2.1),.d (.int .u8 k1.Part.Graph.To.2.2.2.1.2.2.1),.d (.int .u8 k1.Part.Graph.To.2.2.2.1.2.2.2.1),.d (.int .u8 k1.Part.Graph.To.2.2.2.1.2.2.2.2),.d (.int .u8 k1.Part.Graph.To.2.2.2.2.1),.d (.int .u8 k1.Part.Graph.To.2.2.2.2.2.1),.d (.int .u8 k1.Part.Graph.To.2.2.2.2.2.2.1),.d (.int .u8 k1.Part.Graph.To.2.2.2.2.2.2.2.1),.d (.int .u8 k1.Part.Graph.To.2.2.2.2.2.2.2.2),.d (.int .u8 k1.zC),.d (.int .u8 k1.zB),.d (.int .u8 k1.zD)])),(2,.cells ([(o_ c11),(i_ 0),(o_ c12),.own 3 (List.map Qa c13),(o_ c14),(o_ c15),(o_ c16),(i_ 0)])),(3,.cells ([(l_ x5.zJ),(i_ x5.zM),(l_ x5.zK),.d (.lst 3 (List.map Qa x5.zL)),(o_ p25),(o_ x7),(l_ x9),(i_ 4)]))]) M,Γ.n0 + 42⟩) h (fun z h=>?_) (fun z h=>?_)
    ·refine Tr.block (sr ((Rn.fldP (o':=28) tv rfl rfl (Rn.load (v:=.d (.int .u8 k1.zC)) tv rfl (Qj rfl) rfl rfl (md rfl ?_)))))
     obtain ⟨s20,h21,h⟩:=bnd h
     refine Rn.bin tv rfl rfl (Qber h21) (Rn.bin tv rfl rfl rfl (Rn.bin tv rfl rfl rfl (Rn.nil (toN ?_))))
     refine Tr.cond rfl (fun hb22=>?_) (fun hb22=>?_)
     ·replace h:=bT hb22 h
      refine Tr.rgn (Rn.fldP (o':=4) tv rfl rfl (Rn.loadT (cs':=[(l_ x5.zJ),(i_ x5.zM),(l_ x5.zK),.d (.lst 3 (List.map Qa x5.zL)),(l_ p17),(o_ x7),(l_ x9),(i_ 4)]) tv rfl rfl rfl rfl (md rfl (Rn.bslice (xs:=[(i_ i10)]) (cs:=[(i_ i10)]) tv rfl rfl rfl rfl ?_))))
      obtain ⟨x23,h24,h⟩:=bnd h
      refine Rn.app (e:=(eI .i64)) tv rfl rfl rfl (Qb2 rfl rfl rfl) h24 rfl (Rn.fldP (o':=4) tv rfl rfl (Rn.storeO (cs':=[(l_ x5.zJ),(i_ x5.zM),(l_ x5.zK),.d (.lst 3 (List.map Qa x5.zL)),(o_ x23),(o_ x7),(l_ x9),(i_ 4)]) tv rfl rfl rfl rfl rfl (Rn.nil ?_)))
      replace h:=si h; subst h
      exact Qg [38] ⟨(kPtr rfl),(kPtr rfl),(kPtr rfl),(sm rfl),tv⟩ ⟨⟨_,rfl,rfl,(.same rfl)⟩,⟨_,rfl,rfl,(.same rfl)⟩,⟨_,rfl,rfl,(.same rfl)⟩,tv⟩ rfl
     ·replace h:=bF hb22 h
      refine Tr.skip ?_
      replace h:=si h; subst h
      exact Qg [] ⟨(kPtr rfl),(kPtr rfl),(kPtr rfl),(sm rfl),tv⟩ ⟨⟨_,rfl,rfl,(.same rfl)⟩,⟨_,rfl,rfl,(.same rfl)⟩,⟨_,rfl,rfl,(.same rfl)⟩,tv⟩ rfl
    ·obtain ⟨p25,rfl⟩ : ∃ x,x = z:=⟨_,rfl⟩
     refine Tr.rgn (md rfl (Rn.bin tv rfl rfl rfl (md rfl (Rn.nil ?_))))
     exact ⟨_,h,(by exact Qi ⟨(kPtr rfl),(kPtr rfl),(kPtr rfl),(sm rfl),tv⟩ ⟨⟨_,rfl,rfl,(.same rfl)⟩,⟨_,rfl,rfl,(.same rfl)⟩,⟨_,rfl,rfl,(.same rfl)⟩,tv⟩ rfl)⟩
   ·replace h:=ifF hb19 h
    refine Tr.exit ?_
    replace h:=si h; subst h
    exact Qg [] ⟨(kPtr rfl),(kPtr rfl),tv⟩ ⟨⟨_,rfl,rfl,(.same rfl)⟩,⟨_,rfl,rfl,(.same rfl)⟩,⟨_,rfl,rfl,(.same rfl)⟩,tv⟩ rfl
 ·obtain ⟨c26,c27,c28,c29,c30,c31,p32⟩:=z
  refine sr ((Rn.load (v:=.agg [(l_ x5.zJ),(i_ x5.zM),(l_ x5.zK),.d (.lst 3 (List.map Qa x5.zL)),(l_ p32),(l_ x7),(l_ x9),(i_ 4)]) tv rfl (Qj rfl) rfl rfl (Rn.storeT (v:=.agg [(l_ x5.zJ),(i_ x5.zM),(l_ x5.zK),.d (.lst 3 (List.map Qa x5.zL)),(l_ p32),(l_ x7),(l_ x9),(i_ 4)]) (ds:=[(l_ x5.zJ),(i_ x5.zM),(l_ x5.zK),.d (.lst 3 (List.map Qa x5.zL)),(l_ p32),(l_ x7),(l_ x9),(i_ 4)]) (cs':=[(l_ x5.zJ),(i_ x5.zM),(l_ x5.zK),.d (.lst 3 (List.map Qa x5.zL)),(l_ p32),(l_ x7),(l_ x9),(i_ 4)]) tv rfl rfl rfl rfl rfl rfl rfl (nt ((Tr.ret ?_))))))
  replace h:=si h; subst h
  exact ⟨.inr rfl,(.agg [(l_ x5.zJ),(i_ x5.zM),(l_ x5.zK),.d (.lst 3 (List.map Qa x5.zL)),(l_ p32),(l_ x7),(l_ x9),(i_ 4)]),Qif rfl rfl rfl rfl,fun _ _ _ _ h=>h,⟨tv,tv,tv,tv,tv,tv,tv,tv,tv⟩,fun k hk=>Qh hk⟩
theorem Qq5 {P:Program} {c:Nat} (hcf:Qy P c = some Qfs) (fuel:Nat):Qfr P c (Qbe fuel):=by
 intro m1 l6 k2 k4 r h
 intro M nb hk3 hk5 hne7
 refine Qbme hcf rfl M _ nb (fun hM=>Qbih hM ⟨(ltB hM hk3),(ltB hM hk5),tv⟩) fun Γ hP hnt hn0 hM=>?_
 subst hP hn0
 refine Tr.init [(0,.ptr k2 0),(1,.d (.lst 4 (List.map Qc l6)))] rfl ?_
 refine Tr.puts [(k2,.cells ([(l_ m1.p_.zA.zJ),(i_ m1.p_.zA.zM),(l_ m1.p_.zA.zK),.d (.lst 3 (List.map Qa m1.p_.zA.zL)),(l_ m1.p_.zC),(l_ m1.p_.zB),(l_ m1.p_.zD),(i_ m1.p_.Tick),.sl 1 k4 0 m1.rank_.length m1.rank_.length,.own 4 (List.map Qc m1.removals_),(i_ m1.rounds_)])),(k4,.cells (Q2 (fun (x:Int)=>[V.d (.int .i64 x)]) m1.rank_))] ⟨hk3,hk5,tv⟩ ?_
 unfold Qbe at h
 unfold Qfs
 refine Tr.cutB (fun ((c23,c24):Int×(List Int))=>⟨look [(0,.ptr k2 0),(1,.d (.lst 4 (List.map Qc l6)))],Qm Γ.n0 (bxs []) (Mem.puts M [(k2,.cells ([(l_ m1.p_.zA.zJ),(i_ m1.p_.zA.zM),(l_ m1.p_.zA.zK),.d (.lst 3 (List.map Qa m1.p_.zA.zL)),(l_ m1.p_.zC),(l_ m1.p_.zB),(l_ m1.p_.zD),(i_ m1.p_.Tick),.sl 1 k4 0 m1.rank_.length m1.rank_.length,.own 4 (List.map Qc m1.removals_),(i_ c23)])),(k4,.cells (Q2 (fun (x:Int)=>[V.d (.int .i64 x)]) c24))]),Γ.n0 + 48⟩) h (fun z h=>?_) (fun z h=>?_)
 ·refine sr ((md rfl (nt ((Tr.block ?_)))))
  refine Tr.loop (mk:=fun ((i8,c9,c10):Int×Int×(List Int))=>⟨look [(0,.ptr k2 0),(1,.d (.lst 4 (List.map Qc l6))),(4,(i_ i8))],Qm Γ.n0 (bxs []) (Mem.puts M [(k2,.cells ([(l_ m1.p_.zA.zJ),(i_ m1.p_.zA.zM),(l_ m1.p_.zA.zK),.d (.lst 3 (List.map Qa m1.p_.zA.zL)),(l_ m1.p_.zC),(l_ m1.p_.zB),(l_ m1.p_.zD),(i_ m1.p_.Tick),.sl 1 k4 0 m1.rank_.length m1.rank_.length,.own 4 (List.map Qc m1.removals_),(i_ c9)])),(k4,.cells (Q2 (fun (x:Int)=>[V.d (.int .i64 x)]) c10))]),Γ.n0 + 48⟩) h (by exact Qi ⟨(Q7 (ltB hM hk3)),(sm rfl),(sm rfl),tv⟩ tv rfl) (fun k11 z h=>?_)
  ·obtain ⟨i8,c9,c10⟩:=z
   replace h:_ = some _:=h
   refine Tr.seq (sr ((md rfl (md rfl (Rn.lenD tv rfl (Rn.bin tv rfl rfl rfl (Rn.nil (toN ?_))))))))
   refine Tr.cond rfl (fun hb12=>?_) (fun hb12=>?_)
   ·replace h:=ifT hb12 h
    refine Tr.skip (toN (Tr.seq (Tr.block (Tr.seq ?_))))
    refine Tr.rgnD (by decide) ?_
    refine Rn.mov (v:=.ptr k2 0) tv rfl (Rn.nilchkP tv rfl (Rn.fldP (o':=8) tv rfl rfl (Rn.load (v:=.sl 1 k4 0 m1.rank_.length m1.rank_.length) tv rfl (Q9q (ltB hM hk3) pg0) rfl rfl (md rfl (md rfl ?_)))))
    obtain ⟨x13,h14,h⟩:=bnd h
    refine Rn.idxD (e:=Qc) tv rfl rfl h14 (Rn.fldC tv rfl (Rn.loadC (x:=.int .i64 x13.State) tv rfl (md rfl (md rfl ?_))))
    obtain ⟨x15,h16,h⟩:=bnd h
    refine Rn.idxD (e:=Qc) tv rfl rfl h16 (Rn.fldC tv rfl (Rn.loadC (x:=.int .i64 x15.Rank) tv rfl ?_))
    obtain ⟨⟨⟩,h18,h⟩:=bnd h
    refine Rn.idxA tv rfl rfl h18 ?_
    obtain ⟨c19,h20,h⟩:=bnd h
    refine Rn.storeAB (g:=(fun (x:Int)=>[V.d (.int .i64 x)])) (v:=(i_ x15.Rank)) (fun _=>rfl) tv rfl rfl rfl (ltB hM hk5) rfl (pgS hne7.symm pg0) rfl h20 (psS hne7.symm ps0) ?_
    refine Rn.nil ⟨rfl,?_⟩
    refine toN ?_
    refine Tr.rgnD (by decide) ?_
    refine Rn.mov (v:=.ptr k2 0) tv rfl (Rn.mov (v:=.ptr k2 0) tv rfl (Rn.nilchkP tv rfl (Rn.fldP (o':=10) tv rfl rfl (Rn.load (v:=(i_ c9)) tv rfl (Q9q (ltB hM hk3) pg0) rfl rfl (md rfl (md rfl ?_))))))
    obtain ⟨x21,h22,h⟩:=bnd h
    refine Rn.idxD (e:=Qc) tv rfl rfl h22 (Rn.fldC tv rfl (Rn.loadC (x:=.int .i64 x21.Rank) tv rfl (Rn.max2 tv rfl rfl (Rn.nilchkP tv rfl (Rn.fldP (o':=10) tv rfl rfl (Rn.storeB (v:=(i_ (if x21.Rank > c9 then x21.Rank else c9))) (cs':=[(l_ m1.p_.zA.zJ),(i_ m1.p_.zA.zM),(l_ m1.p_.zA.zK),.d (.lst 3 (List.map Qa m1.p_.zA.zL)),(l_ m1.p_.zC),(l_ m1.p_.zB),(l_ m1.p_.zD),(i_ m1.p_.Tick),.sl 1 k4 0 m1.rank_.length m1.rank_.length,.own 4 (List.map Qc m1.removals_),(i_ (if x21.Rank > c9 then x21.Rank else c9))]) tv rfl rfl rfl (ltB hM hk3) rfl pg0 rfl rfl ps0 ?_))))))
    refine Rn.nil ⟨rfl,?_⟩
    refine toN (Tr.rgn (md rfl (Rn.bin tv rfl rfl rfl (md rfl (Rn.nil ?_)))))
    exact ⟨_,h,(by exact Qi ⟨(Q7 (ltB hM hk3)),(sm rfl),(sm rfl),tv⟩ tv rfl)⟩
   ·replace h:=ifF hb12 h
    refine Tr.exit ?_
    replace h:=si h; subst h
    exact Qg [] ⟨(Q7 (ltB hM hk3)),(sm rfl),tv⟩ tv rfl
 ·obtain ⟨c23,c24⟩:=z
  refine Tr.rgn (Rn.mov (v:=.ptr k2 0) tv rfl (Rn.mov (v:=.ptr k2 0) tv rfl (Rn.nilchkP tv rfl (Rn.fldP (o':=9) tv rfl rfl (Rn.loadTB (cs':=[(l_ m1.p_.zA.zJ),(i_ m1.p_.zA.zM),(l_ m1.p_.zA.zK),.d (.lst 3 (List.map Qa m1.p_.zA.zL)),(l_ m1.p_.zC),(l_ m1.p_.zB),(l_ m1.p_.zD),(i_ m1.p_.Tick),.sl 1 k4 0 m1.rank_.length m1.rank_.length,.d (.lst 4 (List.map Qc m1.removals_)),(i_ c23)]) tv rfl (ltB hM hk3) pg0 rfl rfl ps0 (md rfl ?_))))))
  obtain ⟨x25,h26,h⟩:=bnd h
  refine Rn.app (e:=Qc) tv rfl rfl rfl Q9r h26 rfl (Rn.nilchkP tv rfl (Rn.fldP (o':=9) tv rfl rfl (Rn.storeOB (cs':=[(l_ m1.p_.zA.zJ),(i_ m1.p_.zA.zM),(l_ m1.p_.zA.zK),.d (.lst 3 (List.map Qa m1.p_.zA.zL)),(l_ m1.p_.zC),(l_ m1.p_.zB),(l_ m1.p_.zD),(i_ m1.p_.Tick),.sl 1 k4 0 m1.rank_.length m1.rank_.length,.own 4 (List.map Qc x25),(i_ c23)]) tv rfl rfl (ltB hM hk3) pg0 rfl rfl ps0 (Rn.nil ?_))))
  replace h:=si h; subst h
  exact ⟨.inl rfl,.tup [],res0 ,(WkV.tup .nil).rd,tv,fun k hk=>Qh hk⟩
theorem Q1g {P:Program} {c:Nat} (hcf:Qy P c = some Qjk) (fuel:Nat):Qd5 P c (Qv fuel):=by
 intro l1 n2 r h
 refine Qek hcf rfl fun Γ M hP hnt hM=>?_
 subst hP
 refine Tr.init [(0,(l_ l1)),(1,(i_ n2))] rfl ?_
 unfold Qv at h
 unfold Qjk
 refine sr ((md rfl (nt ((Tr.seq (sr ((md rfl (nt ((Tr.block ?_)))))))))))
 refine Tr.loop (mk:=fun (i3:Int)=>⟨look [(0,(l_ l1)),(1,(i_ n2)),(5,(i_ i3))],Qm Γ.n0 (bxs []) M,Γ.n0 + 18⟩) h (by exact Qi ⟨(sm rfl),(sm rfl),(sm rfl),tv⟩ tv rfl) (fun k4 z h=>?_)
 ·obtain ⟨i3,rfl⟩ : ∃ x,x = z:=⟨_,rfl⟩
  replace h:_ = some _:=h
  refine Tr.seq (sr ((md rfl (md rfl (Rn.lenD tv rfl (Rn.bin tv rfl rfl rfl (Rn.nil (toN ?_))))))))
  refine Tr.cond rfl (fun hb5=>?_) (fun hb5=>?_)
  ·replace h:=ifT hb5 h
   refine Tr.skip (toN (Tr.seq (Tr.block (sr ((md rfl (md rfl ?_)))))))
   obtain ⟨x6,h7,h⟩:=bnd h
   refine Rn.idxD (e:=(eI .i64)) tv rfl rfl h7 (Rn.loadC (x:=.int .i64 x6) tv rfl (md rfl (Rn.bin tv rfl rfl rfl (Rn.nil (toN ?_)))))
   refine Tr.cond rfl (fun hb8=>?_) (fun hb8=>?_)
   ·replace h:=bT hb8 h
    refine sr ((md rfl (nt ((Tr.ret ?_)))))
    replace h:=si h; subst h
    exact ⟨.inr rfl,(b_ true),rfl,fun _ _ _ _ h=>h,tv,fun k hk=>Qh hk⟩
   ·replace h:=bF hb8 h
    refine Tr.skip (toN (Tr.rgn (md rfl (Rn.bin tv rfl rfl rfl (md rfl (Rn.nil ?_))))))
    exact ⟨_,h,(by exact Qi ⟨(sm rfl),(sm rfl),(sm rfl),tv⟩ tv rfl)⟩
  ·replace h:=ifF hb5 h
   refine Tr.exit (toN (sr ((md rfl (nt ((Tr.ret ?_)))))))
   replace h:=si h; subst h
   exact ⟨.inr rfl,(b_ false),rfl,fun _ _ _ _ h=>h,tv,fun k hk=>Qh hk⟩
theorem Qm7 {P:Program} {c:Nat} {Qv:(List Int)→Int→Option Bool}
    (H_overseerlaw46_has:Qd5 P 23 Qv) (hcf:Qy P c = some Qe1) (fuel:Nat):Qe0 P c (Qbh Qv fuel):=by
 intro m1 state6 k2 k4 r h
 intro M nb hk3 hk5
 refine Qnm hcf rfl M nb fun Γ hP hnt hn0 hM=>?_
 subst hP hn0
 refine Tr.init [(0,.ptr k2 0),(1,(i_ state6))] rfl ?_
 unfold Qbh at h
 unfold Qe1
 refine sr ((md rfl (nt ((Tr.seq (sr ((Rn.mov (v:=.ptr k2 0) tv rfl (Rn.nilchkP tv rfl (Rn.fldP (o':=0) tv rfl rfl (Rn.fldP (o':=0) tv rfl rfl (Rn.fldP (o':=3) tv rfl rfl (Rn.load (v:=.d (.lst 3 (List.map Qa m1.p_.zA.zL))) tv rfl (Qq hM hk3) rfl rfl (Rn.lenD tv rfl (md rfl (nt ((Tr.block ?_))))))))))))))))))
 refine Tr.loop (mk:=fun (x7:Int)=>⟨look [(0,.ptr k2 0),(1,(i_ state6)),(12,.d (.lst 3 (List.map Qa m1.p_.zA.zL))),(13,(i_ (m1.p_.zA.zL.length:Int))),(14,(i_ x7))],Qm Γ.n0 (bxs []) M,Γ.n0 + 44⟩) h (by exact Qi ⟨(Q7 (ltB hM hk3)),(sm rfl),(sm rfl),(sm rfl),(sm rfl),tv⟩ tv rfl) (fun k8 z h=>?_)
 ·obtain ⟨x7,rfl⟩ : ∃ x,x = z:=⟨_,rfl⟩
  replace h:_ = some _:=h
  refine sr ((Rn.bin tv rfl rfl rfl (nt ((Tr.seq ?_)))))
  refine Tr.cond rfl (fun hb9=>?_) (fun hb9=>?_)
  ·replace h:=ifT hb9 h
   refine Tr.skip (toN (Tr.seq (Tr.block (Tr.seq (Tr.rgn ?_)))))
   obtain ⟨x10,h11,h⟩:=bnd h
   refine Rn.idxD (e:=Qa) tv rfl rfl h11 (Rn.loadCA (vs:=(Qz x10)) tv rfl rfl rfl (Rn.alloc tv rfl (Rn.store (v:=(Qb7 x10)) (cs':=(Qz x10)) tv rfl rfl rfl rfl rfl rfl (Rn.nil (toN ?_)))))
   refine Tr.cutB (fun (x20:Bool)=>⟨look [(0,.ptr k2 0),(1,(i_ state6)),(12,.d (.lst 3 (List.map Qa m1.p_.zA.zL))),(13,(i_ (m1.p_.zA.zL.length:Int))),(14,(i_ x7)),(42,(b_ x20))],Qm Γ.n0 (bxs [(6,.cells ((Qz x10)))]) M,Γ.n0 + 44⟩) h (fun z h=>?_) (fun z h=>?_)
   ·refine Tr.rgnD (by decide) ?_
    refine Rn.fldP (o':=0) tv rfl rfl (Rn.load (v:=(i_ x10.From)) tv rfl (Qj rfl) rfl rfl (md rfl (Rn.bin tv rfl rfl rfl (md rfl ?_))))
    refine Qbr (x10.From == state6) (fun hb12=>?_) (fun hb12=>?_)
    ·replace h:=bT hb12 h
     refine Rn.mov (v:=.ptr k2 0) (gw rfl hb12) rfl (Rn.nilchkP (gw rfl hb12) rfl (Rn.fldP (o':=0) (gw rfl hb12) rfl rfl (Rn.fldP (o':=6) (gw rfl hb12) rfl rfl (Rn.load (v:=(l_ m1.p_.zD)) (gw rfl hb12) rfl (Qq hM hk3) rfl rfl (Rn.fldP (o':=1) (gw rfl hb12) rfl rfl (Rn.load (v:=(i_ x10.Event)) (gw rfl hb12) rfl (Qj rfl) rfl rfl ?_))))))
     obtain ⟨x14,h13,h⟩:=bnd h
     refine Rn.call (args:=[(l_ m1.p_.zD),(i_ x10.Event)]) (gw rfl hb12) rfl (H_overseerlaw46_has _ _ _ h13) pc0 (Rn.pickT (v:=(b_ x14)) tv rfl hb12 rfl (md rfl ?_))
     refine Qbr x14 (fun hb15=>?_) (fun hb15=>?_)
     ·replace h:=bT hb15 h
      refine Rn.mov (v:=.ptr k2 0) (gw rfl hb15) rfl (Rn.nilchkP (gw rfl hb15) rfl (Rn.fldP (o':=8) (gw rfl hb15) rfl rfl (Rn.load (v:=.sl 1 k4 0 m1.rank_.length m1.rank_.length) (gw rfl hb15) rfl (Qq hM hk3) rfl rfl (Rn.fldP (o':=2) (gw rfl hb15) rfl rfl (Rn.load (v:=(i_ x10.To)) (gw rfl hb15) rfl (Qj rfl) rfl rfl ?_)))))
      obtain ⟨⟨⟩,h17,h⟩:=bnd h
      refine Rn.idxA (gw rfl hb15) rfl rfl h17 ?_
      obtain ⟨x18,h19,h⟩:=bnd h
      refine Rn.loadA (g:=(fun (x:Int)=>[V.d (.int .i64 x)])) (v:=(i_ x18)) (f:=0) (fun _=>rfl) (gw rfl hb15) rfl (Qq hM hk5) h19 rfl rfl (Rn.bin (gw rfl hb15) rfl rfl rfl (Rn.pickT (v:=(b_ (x18 == 0))) tv rfl hb15 rfl ?_))
      refine Rn.nil ⟨rfl,?_⟩
      replace h:=si h; subst h
      exact Qg [] ⟨(Q7 (ltB hM hk3)),(sm rfl),(sm rfl),(sm rfl),(sm rfl),(sm rfl),tv⟩ ⟨⟨_,rfl,rfl,(.same rfl)⟩,tv⟩ rfl
     ·replace h:=bF hb15 h
      refine Rn.sk (nw rfl hb15) (Rn.sk (nw rfl hb15) (Rn.sk (nw rfl hb15) (Rn.sk (nw rfl hb15) (Rn.sk (nw rfl hb15) (Rn.sk (nw rfl hb15) (Rn.sk (nw rfl hb15) (Rn.sk (nw rfl hb15) (Rn.sk (nw rfl hb15) (Rn.pickF (v:=(b_ false)) tv rfl hb15 rfl ?_)))))))))
      refine Rn.nil ⟨rfl,?_⟩
      replace h:=si h; subst h
      exact Qg [] ⟨(Q7 (ltB hM hk3)),(sm rfl),(sm rfl),(sm rfl),(sm rfl),(sm rfl),tv⟩ ⟨⟨_,rfl,rfl,(.same rfl)⟩,tv⟩ rfl
    ·replace h:=bF hb12 h
     refine Rn.sk (nw rfl hb12) (Rn.sk (nw rfl hb12) (Rn.sk (nw rfl hb12) (Rn.sk (nw rfl hb12) (Rn.sk (nw rfl hb12) (Rn.sk (nw rfl hb12) (Rn.sk (nw rfl hb12) (Rn.sk (nw rfl hb12) (Rn.pickF (v:=(b_ false)) tv rfl hb12 rfl (md rfl (Rn.sk (nw (b:=false) rfl rfl) (Rn.sk (nw (b:=false) rfl rfl) (Rn.sk (nw (b:=false) rfl rfl) (Rn.sk (nw (b:=false) rfl rfl) (Rn.sk (nw (b:=false) rfl rfl) (Rn.sk (nw (b:=false) rfl rfl) (Rn.sk (nw (b:=false) rfl rfl) (Rn.sk (nw (b:=false) rfl rfl) (Rn.sk (nw (b:=false) rfl rfl) (Rn.pickF (v:=(b_ false)) tv rfl rfl rfl ?_)))))))))))))))))))
     refine Rn.nil ⟨rfl,?_⟩
     replace h:=si h; subst h
     exact Qg [] ⟨(Q7 (ltB hM hk3)),(sm rfl),(sm rfl),(sm rfl),(sm rfl),(sm rfl),tv⟩ ⟨⟨_,rfl,rfl,(.same rfl)⟩,tv⟩ rfl
   ·obtain ⟨x20,rfl⟩ : ∃ x,x = z:=⟨_,rfl⟩
    refine Tr.cond rfl (fun hb21=>?_) (fun hb21=>?_)
    ·replace h:=bT hb21 h
     refine sr ((md rfl (nt ((Tr.ret ?_)))))
     replace h:=si h; subst h
     exact ⟨.inr rfl,(b_ true),rfl,fun _ _ _ _ h=>h,tv,fun k hk=>Qh hk⟩
    ·replace h:=bF hb21 h
     refine Tr.skip (toN (Tr.rgn (Rn.bin tv rfl rfl rfl (md rfl (Rn.nil ?_)))))
     exact ⟨_,h,(by exact Qi ⟨(Q7 (ltB hM hk3)),(sm rfl),(sm rfl),(sm rfl),(sm rfl),tv⟩ tv rfl)⟩
  ·replace h:=ifF hb9 h
   refine Tr.exit (toN (sr ((md rfl (nt ((Tr.ret ?_)))))))
   replace h:=si h; subst h
   exact ⟨.inr rfl,(b_ false),rfl,fun _ _ _ _ h=>h,tv,fun k hk=>Qh hk⟩
theorem Qq6 {P:Program} {c:Nat} {Qv:(List Int)→Int→Option Bool} {Qbh:Qn→Int→Option Bool}
    (H_overseerlaw46_has:Qd5 P 23 Qv)
    (H_overseerlaw46_model_forced:Qe0 P 54 Qbh) (hcf:Qy P c = some Qfu) (fuel:Nat):Qft P c (Qbo Qv Qbh fuel):=by
 intro m1 state6 k2 k4 r h
 intro M nb hk3 hk5
 refine Qnm hcf rfl M nb fun Γ hP hnt hn0 hM=>?_
 subst hP hn0
 refine Tr.init [(0,.ptr k2 0),(1,(i_ state6))] rfl ?_
 unfold Qbo at h
 unfold Qfu
 refine sr ((md rfl (md rfl (nt ((Tr.seq (sr ((Rn.mov (v:=.ptr k2 0) tv rfl (Rn.nilchkP tv rfl (Rn.fldP (o':=0) tv rfl rfl (Rn.fldP (o':=0) tv rfl rfl (Rn.fldP (o':=3) tv rfl rfl (Rn.load (v:=.d (.lst 3 (List.map Qa m1.p_.zA.zL))) tv rfl (Qq hM hk3) rfl rfl (Rn.lenD tv rfl (md rfl (nt ((Tr.block ?_)))))))))))))))))))
 refine Tr.loop (mk:=fun (x7:Int)=>⟨look [(0,.ptr k2 0),(1,(i_ state6)),(15,.d (.lst 3 (List.map Qa m1.p_.zA.zL))),(16,(i_ (m1.p_.zA.zL.length:Int))),(17,(i_ x7))],Qm Γ.n0 (bxs []) M,Γ.n0 + 94⟩) h (by exact Qi ⟨(Q7 (ltB hM hk3)),(sm rfl),(sm rfl),(sm rfl),(sm rfl),tv⟩ tv rfl) (fun k8 z h=>?_)
 ·obtain ⟨x7,rfl⟩ : ∃ x,x = z:=⟨_,rfl⟩
  replace h:_ = some _:=h
  refine sr ((Rn.bin tv rfl rfl rfl (nt ((Tr.seq ?_)))))
  refine Tr.cond rfl (fun hb9=>?_) (fun hb9=>?_)
  ·replace h:=ifT hb9 h
   refine Tr.skip (toN (Tr.seq (Tr.block (Tr.seq (Tr.rgn ?_)))))
   obtain ⟨x10,h11,h⟩:=bnd h
   refine Rn.idxD (e:=Qa) tv rfl rfl h11 (Rn.loadCA (vs:=(Qz x10)) tv rfl rfl rfl (Rn.alloc tv rfl (Rn.store (v:=(Qb7 x10)) (cs':=(Qz x10)) tv rfl rfl rfl rfl rfl rfl (Rn.nil (toN ?_)))))
   refine Tr.cutB (fun (x20:Bool)=>⟨look [(0,.ptr k2 0),(1,(i_ state6)),(7,.ptr (Γ.n0 + 7) 0),(15,.d (.lst 3 (List.map Qa m1.p_.zA.zL))),(16,(i_ (m1.p_.zA.zL.length:Int))),(17,(i_ x7)),(45,(b_ x20))],Qm Γ.n0 (bxs [(7,.cells ((Qz x10)))]) M,Γ.n0 + 94⟩) h (fun z h=>?_) (fun z h=>?_)
   ·refine Tr.rgnD (by decide) ?_
    refine Rn.fldP (o':=0) tv rfl rfl (Rn.load (v:=(i_ x10.From)) tv rfl (Qj rfl) rfl rfl (md rfl (Rn.bin tv rfl rfl rfl (md rfl ?_))))
    refine Qbr (x10.From == state6) (fun hb12=>?_) (fun hb12=>?_)
    ·replace h:=bT hb12 h
     refine Rn.mov (v:=.ptr k2 0) (gw rfl hb12) rfl (Rn.nilchkP (gw rfl hb12) rfl (Rn.fldP (o':=0) (gw rfl hb12) rfl rfl (Rn.fldP (o':=5) (gw rfl hb12) rfl rfl (Rn.load (v:=(l_ m1.p_.zB)) (gw rfl hb12) rfl (Qq hM hk3) rfl rfl (Rn.fldP (o':=1) (gw rfl hb12) rfl rfl (Rn.load (v:=(i_ x10.Event)) (gw rfl hb12) rfl (Qj rfl) rfl rfl ?_))))))
     obtain ⟨x14,h13,h⟩:=bnd h
     refine Rn.call (args:=[(l_ m1.p_.zB),(i_ x10.Event)]) (gw rfl hb12) rfl (H_overseerlaw46_has _ _ _ h13) pc0 (Rn.pickT (v:=(b_ x14)) tv rfl hb12 rfl (md rfl ?_))
     refine Qbr x14 (fun hb15=>?_) (fun hb15=>?_)
     ·replace h:=bT hb15 h
      refine Rn.mov (v:=.ptr k2 0) (gw rfl hb15) rfl (Rn.nilchkP (gw rfl hb15) rfl (Rn.fldP (o':=8) (gw rfl hb15) rfl rfl (Rn.load (v:=.sl 1 k4 0 m1.rank_.length m1.rank_.length) (gw rfl hb15) rfl (Qq hM hk3) rfl rfl (Rn.fldP (o':=2) (gw rfl hb15) rfl rfl (Rn.load (v:=(i_ x10.To)) (gw rfl hb15) rfl (Qj rfl) rfl rfl ?_)))))
      obtain ⟨⟨⟩,h17,h⟩:=bnd h
      refine Rn.idxA (gw rfl hb15) rfl rfl h17 ?_
      obtain ⟨x18,h19,h⟩:=bnd h
      refine Rn.loadA (g:=(fun (x:Int)=>[V.d (.int .i64 x)])) (v:=(i_ x18)) (f:=0) (fun _=>rfl) (gw rfl hb15) rfl (Qq hM hk5) h19 rfl rfl (Rn.bin (gw rfl hb15) rfl rfl rfl (Rn.pickT (v:=(b_ (decide (x18 > 0)))) tv rfl hb15 rfl ?_))
      refine Rn.nil ⟨rfl,?_⟩
      replace h:=si h; subst h
      exact Qg [] ⟨(Q7 (ltB hM hk3)),(sm rfl),(kPtr rfl),(sm rfl),(sm rfl),(sm rfl),(sm rfl),tv⟩ ⟨⟨_,rfl,rfl,(.same rfl)⟩,tv⟩ rfl
     ·replace h:=bF hb15 h
      refine Rn.sk (nw rfl hb15) (Rn.sk (nw rfl hb15) (Rn.sk (nw rfl hb15) (Rn.sk (nw rfl hb15) (Rn.sk (nw rfl hb15) (Rn.sk (nw rfl hb15) (Rn.sk (nw rfl hb15) (Rn.sk (nw rfl hb15) (Rn.sk (nw rfl hb15) (Rn.pickF (v:=(b_ false)) tv rfl hb15 rfl ?_)))))))))
      refine Rn.nil ⟨rfl,?_⟩
      replace h:=si h; subst h
      exact Qg [] ⟨(Q7 (ltB hM hk3)),(sm rfl),(kPtr rfl),(sm rfl),(sm rfl),(sm rfl),(sm rfl),tv⟩ ⟨⟨_,rfl,rfl,(.same rfl)⟩,tv⟩ rfl
    ·replace h:=bF hb12 h
     refine Rn.sk (nw rfl hb12) (Rn.sk (nw rfl hb12) (Rn.sk (nw rfl hb12) (Rn.sk (nw rfl hb12) (Rn.sk (nw rfl hb12) (Rn.sk (nw rfl hb12) (Rn.sk (nw rfl hb12) (Rn.sk (nw rfl hb12) (Rn.pickF (v:=(b_ false)) tv rfl hb12 rfl (md rfl (Rn.sk (nw (b:=false) rfl rfl) (Rn.sk (nw (b:=false) rfl rfl) (Rn.sk (nw (b:=false) rfl rfl) (Rn.sk (nw (b:=false) rfl rfl) (Rn.sk (nw (b:=false) rfl rfl) (Rn.sk (nw (b:=false) rfl rfl) (Rn.sk (nw (b:=false) rfl rfl) (Rn.sk (nw (b:=false) rfl rfl) (Rn.sk (nw (b:=false) rfl rfl) (Rn.pickF (v:=(b_ false)) tv rfl rfl rfl ?_)))))))))))))))))))
     refine Rn.nil ⟨rfl,?_⟩
     replace h:=si h; subst h
     exact Qg [] ⟨(Q7 (ltB hM hk3)),(sm rfl),(kPtr rfl),(sm rfl),(sm rfl),(sm rfl),(sm rfl),tv⟩ ⟨⟨_,rfl,rfl,(.same rfl)⟩,tv⟩ rfl
   ·obtain ⟨x20,rfl⟩ : ∃ x,x = z:=⟨_,rfl⟩
    refine Tr.cond rfl (fun hb21=>?_) (fun hb21=>?_)
    ·replace h:=bT hb21 h
     refine Tr.seq ?_
     refine Tr.rgnD (by decide) ?_
     refine Rn.fldP (o':=1) tv rfl rfl (Rn.load (v:=(i_ x10.Event)) tv rfl (Qj rfl) rfl rfl (md rfl (md rfl ?_)))
     refine Rn.nil ⟨rfl,?_⟩
     refine toN (Tr.ret ?_)
     replace h:=si h; subst h
     exact ⟨.inr rfl,.tup [(i_ 2),(i_ x10.Event)],res2 rfl rfl,(WkV.tup (.cons (.same rfl) (.cons (.same rfl) .nil))).rd,⟨tv,tv,tv⟩,fun k hk=>Qh hk⟩
    ·replace h:=bF hb21 h
     refine Tr.skip (toN (Tr.rgn (Rn.bin tv rfl rfl rfl (md rfl (Rn.nil ?_)))))
     exact ⟨_,h,(by exact Qi ⟨(Q7 (ltB hM hk3)),(sm rfl),(sm rfl),(sm rfl),(sm rfl),tv⟩ tv rfl)⟩
  ·replace h:=ifF hb9 h
   refine Tr.exit (toN (Tr.seq (sr ((Rn.mov (v:=.ptr k2 0) tv rfl (Rn.nilchkP tv rfl (Rn.fldP (o':=0) tv rfl rfl (Rn.fldP (o':=0) tv rfl rfl (Rn.fldP (o':=3) tv rfl rfl (Rn.load (v:=.d (.lst 3 (List.map Qa m1.p_.zA.zL))) tv rfl (Qq hM hk3) rfl rfl (Rn.lenD tv rfl (md rfl (nt ((Tr.block ?_)))))))))))))))
   refine Tr.loop (mk:=fun (x22:Int)=>⟨look [(0,.ptr k2 0),(1,(i_ state6)),(54,.d (.lst 3 (List.map Qa m1.p_.zA.zL))),(55,(i_ (m1.p_.zA.zL.length:Int))),(56,(i_ x22))],Qm Γ.n0 (bxs []) M,Γ.n0 + 94⟩) h (by exact Qi ⟨(Q7 (ltB hM hk3)),(sm rfl),(sm rfl),(sm rfl),(sm rfl),tv⟩ tv rfl) (fun k23 z h=>?_)
   ·obtain ⟨x22,rfl⟩ : ∃ x,x = z:=⟨_,rfl⟩
    replace h:_ = some _:=h
    refine sr ((Rn.bin tv rfl rfl rfl (nt ((Tr.seq ?_)))))
    refine Tr.cond rfl (fun hb24=>?_) (fun hb24=>?_)
    ·replace h:=ifT hb24 h
     refine Tr.skip (toN (Tr.seq (Tr.block (Tr.seq (Tr.rgn ?_)))))
     obtain ⟨x25,h26,h⟩:=bnd h
     refine Rn.idxD (e:=Qa) tv rfl rfl h26 (Rn.loadCA (vs:=(Qz x25)) tv rfl rfl rfl (Rn.alloc tv rfl (Rn.store (v:=(Qb7 x25)) (cs':=(Qz x25)) tv rfl rfl rfl rfl rfl rfl (Rn.nil (toN ?_)))))
     refine Tr.cutB (fun (x36:Bool)=>⟨look [(0,.ptr k2 0),(1,(i_ state6)),(9,.ptr (Γ.n0 + 9) 0),(54,.d (.lst 3 (List.map Qa m1.p_.zA.zL))),(55,(i_ (m1.p_.zA.zL.length:Int))),(56,(i_ x22)),(90,(b_ x36))],Qm Γ.n0 (bxs [(9,.cells ((Qz x25)))]) M,Γ.n0 + 94⟩) h (fun z h=>?_) (fun z h=>?_)
     ·refine Tr.rgnD (by decide) ?_
      refine Rn.fldP (o':=0) tv rfl rfl (Rn.load (v:=(i_ x25.From)) tv rfl (Qj rfl) rfl rfl (md rfl (Rn.bin tv rfl rfl rfl (md rfl ?_))))
      refine Qbr (x25.From == state6) (fun hb27=>?_) (fun hb27=>?_)
      ·replace h:=bT hb27 h
       refine Rn.fldP (o':=1) (gw rfl hb27) rfl rfl (Rn.load (v:=(i_ x25.Event)) (gw rfl hb27) rfl (Qj rfl) rfl rfl (Rn.mov (v:=.ptr k2 0) (gw rfl hb27) rfl (Rn.nilchkP (gw rfl hb27) rfl (Rn.fldP (o':=0) (gw rfl hb27) rfl rfl (Rn.fldP (o':=7) (gw rfl hb27) rfl rfl (Rn.load (v:=(i_ m1.p_.Tick)) (gw rfl hb27) rfl (Qq hM hk3) rfl rfl (Rn.bin (gw rfl hb27) rfl rfl rfl (Rn.pickT (v:=(b_ (x25.Event == m1.p_.Tick))) tv rfl hb27 rfl (md rfl ?_)))))))))
       refine Qbr (x25.Event == m1.p_.Tick) (fun hb28=>?_) (fun hb28=>?_)
       ·replace h:=bT hb28 h
        refine Rn.mov (v:=.ptr k2 0) (gw rfl hb28) rfl (Rn.nilchkP (gw rfl hb28) rfl (Rn.fldP (o':=8) (gw rfl hb28) rfl rfl (Rn.load (v:=.sl 1 k4 0 m1.rank_.length m1.rank_.length) (gw rfl hb28) rfl (Qq hM hk3) rfl rfl (Rn.fldP (o':=2) (gw rfl hb28) rfl rfl (Rn.load (v:=(i_ x25.To)) (gw rfl hb28) rfl (Qj rfl) rfl rfl ?_)))))
        obtain ⟨⟨⟩,h30,h⟩:=bnd h
        refine Rn.idxA (gw rfl hb28) rfl rfl h30 ?_
        obtain ⟨x31,h32,h⟩:=bnd h
        refine Rn.loadA (g:=(fun (x:Int)=>[V.d (.int .i64 x)])) (v:=(i_ x31)) (f:=0) (fun _=>rfl) (gw rfl hb28) rfl (Qq hM hk5) h32 rfl rfl (Rn.bin (gw rfl hb28) rfl rfl rfl (Rn.pickT (v:=(b_ (decide (x31 > 0)))) tv rfl hb28 rfl (md rfl ?_)))
        refine Qbr (decide (x31 > 0)) (fun hb33=>?_) (fun hb33=>?_)
        ·replace h:=ifT hb33 h
         refine Rn.mov (v:=.ptr k2 0) (gw rfl hb33) rfl (Rn.movD (gw rfl hb33) rfl ?_)
         obtain ⟨x35,h34,h⟩:=bnd h
         refine Rn.callM (args:=[.ptr k2 0,(i_ state6)]) (gw rfl hb33) rfl (fun M2 nb2 hn hx=>H_overseerlaw46_model_forced _ _ k2 k4 _ h34 M2 nb2 (hx _ _ (Qq hM hk3)) (hx _ _ (Qq hM hk5))) rfl pc0 ?_
         refine Rn.un (gw rfl hb33) rfl rfl (Rn.pickT (v:=(b_ (!x35))) tv rfl hb33 rfl ?_)
         refine Rn.nil ⟨rfl,?_⟩
         replace h:=si h; subst h
         exact Qg [] ⟨(Q7 (ltB hM hk3)),(sm rfl),(kPtr rfl),(sm rfl),(sm rfl),(sm rfl),(sm rfl),tv⟩ ⟨⟨_,rfl,rfl,(.same rfl)⟩,tv⟩ rfl
        ·replace h:=ifF hb33 h
         refine Rn.sk (nw rfl hb33) (Rn.sk (nw rfl hb33) (Rn.sk (nw rfl hb33) (Rn.sk (nw rfl hb33) (Rn.pickF (v:=(b_ false)) tv rfl hb33 rfl ?_))))
         refine Rn.nil ⟨rfl,?_⟩
         replace h:=si h; subst h
         exact Qg [] ⟨(Q7 (ltB hM hk3)),(sm rfl),(kPtr rfl),(sm rfl),(sm rfl),(sm rfl),(sm rfl),tv⟩ ⟨⟨_,rfl,rfl,(.same rfl)⟩,tv⟩ rfl
       ·replace h:=bF hb28 h
        refine Rn.sk (nw rfl hb28) (Rn.sk (nw rfl hb28) (Rn.sk (nw rfl hb28) (Rn.sk (nw rfl hb28) (Rn.sk (nw rfl hb28) (Rn.sk (nw rfl hb28) (Rn.sk (nw rfl hb28) (Rn.sk (nw rfl hb28) (Rn.sk (nw rfl hb28) (Rn.pickF (v:=(b_ false)) tv rfl hb28 rfl (md rfl (Rn.sk (nw (b:=false) rfl rfl) (Rn.sk (nw (b:=false) rfl rfl) (Rn.sk (nw (b:=false) rfl rfl) (Rn.sk (nw (b:=false) rfl rfl) (Rn.pickF (v:=(b_ false)) tv rfl rfl rfl ?_)))))))))))))))
        refine Rn.nil ⟨rfl,?_⟩
        replace h:=si h; subst h
        exact Qg [] ⟨(Q7 (ltB hM hk3)),(sm rfl),(kPtr rfl),(sm rfl),(sm rfl),(sm rfl),(sm rfl),tv⟩ ⟨⟨_,rfl,rfl,(.same rfl)⟩,tv⟩ rfl
      ·replace h:=bF hb27 h
       refine Rn.sk (nw rfl hb27) (Rn.sk (nw rfl hb27) (Rn.sk (nw rfl hb27) (Rn.sk (nw rfl hb27) (Rn.sk (nw rfl hb27) (Rn.sk (nw rfl hb27) (Rn.sk (nw rfl hb27) (Rn.sk (nw rfl hb27) (Rn.pickF (v:=(b_ false)) tv rfl hb27 rfl (md rfl (Rn.sk (nw (b:=false) rfl rfl) (Rn.sk (nw (b:=false) rfl rfl) (Rn.sk (nw (b:=false) rfl rfl) (Rn.sk (nw (b:=false) rfl rfl) (Rn.sk (nw (b:=false) rfl rfl) (Rn.sk (nw (b:=false) rfl rfl) (Rn.sk (nw (b:=false) rfl rfl) (Rn.sk (nw (b:=false) rfl rfl) (Rn.sk (nw (b:=false) rfl rfl) (Rn.pickF (v:=(b_ false)) tv rfl rfl rfl (md rfl (Rn.sk (nw (b:=false) rfl rfl) (Rn.sk (nw (b:=false) rfl rfl) (Rn.sk (nw (b:=false) rfl rfl) (Rn.sk (nw (b:=false) rfl rfl) (Rn.pickF (v:=(b_ false)) tv rfl rfl rfl ?_)))))))))))))))))))))))))
       refine Rn.nil ⟨rfl,?_⟩
       replace h:=si h; subst h
       exact Qg [] ⟨(Q7 (ltB hM hk3)),(sm rfl),(kPtr rfl),(sm rfl),(sm rfl),(sm rfl),(sm rfl),tv⟩ ⟨⟨_,rfl,rfl,(.same rfl)⟩,tv⟩ rfl
     ·obtain ⟨x36,rfl⟩ : ∃ x,x = z:=⟨_,rfl⟩
      refine Tr.cond rfl (fun hb37=>?_) (fun hb37=>?_)
      ·replace h:=bT hb37 h
       refine Tr.seq ?_
       refine Tr.rgnD (by decide) ?_
       refine Rn.fldP (o':=1) tv rfl rfl (Rn.load (v:=(i_ x25.Event)) tv rfl (Qj rfl) rfl rfl (md rfl (md rfl ?_)))
       refine Rn.nil ⟨rfl,?_⟩
       refine toN (Tr.ret ?_)
       replace h:=si h; subst h
       exact ⟨.inr rfl,.tup [(i_ 4),(i_ x25.Event)],res2 rfl rfl,(WkV.tup (.cons (.same rfl) (.cons (.same rfl) .nil))).rd,⟨tv,tv,tv⟩,fun k hk=>Qh hk⟩
      ·replace h:=bF hb37 h
       refine Tr.skip (toN (Tr.rgn (Rn.bin tv rfl rfl rfl (md rfl (Rn.nil ?_)))))
       exact ⟨_,h,(by exact Qi ⟨(Q7 (ltB hM hk3)),(sm rfl),(sm rfl),(sm rfl),(sm rfl),tv⟩ tv rfl)⟩
    ·replace h:=ifF hb24 h
     refine Tr.exit (toN (sr ((md rfl (md rfl (nt ((Tr.ret ?_))))))))
     replace h:=si h; subst h
     exact ⟨.inr rfl,.tup [(i_ 0),(i_ 0)],res2 rfl rfl,(WkV.tup (.cons (.same rfl) (.cons (.same rfl) .nil))).rd,⟨tv,tv,tv⟩,fun k hk=>Qh hk⟩
theorem Qkn {P:Program} {c:Nat} {Qv:(List Int)→Int→Option Bool}
    (H_overseerlaw46_has:Qd5 P 23 Qv) (hcf:Qy P c = some Qd6) (fuel:Nat):Qdb P c (Qu Qv fuel):=by
 intro m1 k2 k4 r h
 intro M nb hk3 hk5
 refine Qnm hcf rfl M nb fun Γ hP hnt hn0 hM=>?_
 subst hP hn0
 refine Tr.init [(0,.ptr k2 0)] rfl ?_
 unfold Qu at h
 unfold Qd6
 refine sr ((Rn.movTC (v:=.nils 1) tv (nt ((sr ((Rn.mov (v:=.ptr k2 0) tv rfl (Rn.nilchkP tv rfl (Rn.fldP (o':=0) tv rfl rfl (Rn.fldP (o':=0) tv rfl rfl (Rn.fldP (o':=1) tv rfl rfl (Rn.load (v:=(i_ m1.p_.zA.zM)) tv rfl (Qq hM hk3) rfl rfl ?_))))))))))))
 obtain ⟨x6,h7,h⟩:=bnd h
 refine Rn.makes (g:=(fun (x:Int)=>[V.d (.int .i64 x)])) tv rfl rfl rfl rfl rfl h7 (Rn.movTF (v:=.sl 1 (Γ.n0 + 14) 0 (Int.toNat m1.p_.zA.zM) (Int.toNat m1.p_.zA.zM)) tv rfl rfl (Rn.nil (toN ?_)))
 refine Tr.cutB (fun (c30:List Int)=>⟨look [(0,.ptr k2 0),(3,.sl 1 (Γ.n0 + 14) 0 (Int.toNat m1.p_.zA.zM) (Int.toNat m1.p_.zA.zM))],Qm Γ.n0 (bxs [(14,.cells (Q2 (fun (x:Int)=>[V.d (.int .i64 x)]) c30))]) M,Γ.n0 + 96⟩) h (fun z h=>?_) (fun z h=>?_)
 ·refine sr ((md rfl (nt ((Tr.block ?_)))))
  refine Tr.loop (mk:=fun ((i8,c9):Int×(List Int))=>⟨look [(0,.ptr k2 0),(3,.sl 1 (Γ.n0 + 14) 0 (Int.toNat m1.p_.zA.zM) (Int.toNat m1.p_.zA.zM)),(4,(i_ i8))],Qm Γ.n0 (bxs [(14,.cells (Q2 (fun (x:Int)=>[V.d (.int .i64 x)]) c9))]) M,Γ.n0 + 96⟩) h (by exact Qi ⟨(Q7 (ltB hM hk3)),(kSl rfl),(sm rfl),tv⟩ ⟨⟨_,rfl,rfl,(Qx fun _=>rfl)⟩,tv⟩ rfl) (fun k10 z h=>?_)
  ·obtain ⟨i8,c9⟩:=z
   replace h:_ = some _:=h
   refine Tr.seq (sr ((md rfl (Rn.mov (v:=.sl 1 (Γ.n0 + 14) 0 (Int.toNat m1.p_.zA.zM) (Int.toNat m1.p_.zA.zM)) tv rfl (Rn.lenA tv rfl (Rn.bin tv rfl rfl rfl (Rn.nil (toN ?_))))))))
   refine Tr.cond rfl (fun hb11=>?_) (fun hb11=>?_)
   ·replace h:=ifT hb11 h
    refine Tr.skip (toN ?_)
    refine Tr.cutB (fun (c29:List Int)=>⟨look [(0,.ptr k2 0),(3,.sl 1 (Γ.n0 + 14) 0 (Int.toNat m1.p_.zA.zM) (Int.toNat m1.p_.zA.zM)),(4,(i_ i8))],Qm Γ.n0 (bxs [(14,.cells (Q2 (fun (x:Int)=>[V.d (.int .i64 x)]) c29))]) M,Γ.n0 + 96⟩) h (fun z h=>?_) (fun z h=>?_)
    ·refine Tr.block (sr ((Rn.mov (v:=.sl 1 (Γ.n0 + 14) 0 (Int.toNat m1.p_.zA.zM) (Int.toNat m1.p_.zA.zM)) tv rfl (md rfl ?_))))
     obtain ⟨⟨⟩,h13,h⟩:=bnd h
     refine Rn.idxA tv rfl rfl h13 ?_
     obtain ⟨x14,h15,h⟩:=bnd h
     refine Rn.storeA (g:=(fun (x:Int)=>[V.d (.int .i64 x)])) (v:=(i_ (-1))) (fun _=>rfl) tv rfl rfl rfl rfl rfl h15 (Rn.nil (toN ?_))
     refine Tr.cutB (fun (x23:Bool)=>⟨look [(0,.ptr k2 0),(3,.sl 1 (Γ.n0 + 14) 0 (Int.toNat m1.p_.zA.zM) (Int.toNat m1.p_.zA.zM)),(4,(i_ i8)),(41,(b_ x23))],Qm Γ.n0 (bxs [(14,.cells (Q2 (fun (x:Int)=>[V.d (.int .i64 x)]) x14))]) M,Γ.n0 + 96⟩) h (fun z h=>?_) (fun z h=>?_)
     ·refine Tr.rgn (Rn.mov (v:=.ptr k2 0) tv rfl (Rn.nilchkP tv rfl (Rn.fldP (o':=8) tv rfl rfl (Rn.load (v:=.sl 1 k4 0 m1.rank_.length m1.rank_.length) tv rfl (Qq hM hk3) rfl rfl (md rfl ?_)))))
      obtain ⟨⟨⟩,h17,h⟩:=bnd h
      refine Rn.idxA tv rfl rfl h17 ?_
      obtain ⟨x18,h19,h⟩:=bnd h
      refine Rn.loadA (g:=(fun (x:Int)=>[V.d (.int .i64 x)])) (v:=(i_ x18)) (f:=0) (fun _=>rfl) tv rfl (Qq hM hk5) h19 rfl rfl (Rn.bin tv rfl rfl rfl (md rfl ?_))
      refine Qbr (x18 == 0) (fun hb20=>?_) (fun hb20=>?_)
      ·replace h:=bT hb20 h
       refine Rn.mov (v:=.ptr k2 0) (gw rfl hb20) rfl (Rn.nilchkP (gw rfl hb20) rfl (Rn.fldP (o':=0) (gw rfl hb20) rfl rfl (Rn.fldP (o':=0) (gw rfl hb20) rfl rfl (Rn.fldP (o':=2) (gw rfl hb20) rfl rfl (Rn.load (v:=(l_ m1.p_.zA.zK)) (gw rfl hb20) rfl (Qq hM hk3) rfl rfl (Rn.movD (gw rfl hb20) rfl ?_))))))
       obtain ⟨x22,h21,h⟩:=bnd h
       refine Rn.call (args:=[(l_ m1.p_.zA.zK),(i_ i8)]) (gw rfl hb20) rfl (H_overseerlaw46_has _ _ _ h21) pc9 (Rn.pickT (v:=(b_ x22)) tv rfl hb20 rfl (Rn.nil ?_))
       replace h:=si h; subst h
       exact Qg [] ⟨(Q7 (ltB hM hk3)),(kSl rfl),(sm rfl),(sm rfl),tv⟩ ⟨⟨_,rfl,rfl,(Qx fun _=>rfl)⟩,tv⟩ rfl
      ·replace h:=bF hb20 h
       refine Rn.sk (nw rfl hb20) (Rn.sk (nw rfl hb20) (Rn.sk (nw rfl hb20) (Rn.sk (nw rfl hb20) (Rn.sk (nw rfl hb20) (Rn.sk (nw rfl hb20) (Rn.sk (nw rfl hb20) (Rn.sk (nw rfl hb20) (Rn.pickF (v:=(b_ false)) tv rfl hb20 rfl (Rn.nil ?_)))))))))
       replace h:=si h; subst h
       exact Qg [] ⟨(Q7 (ltB hM hk3)),(kSl rfl),(sm rfl),(sm rfl),tv⟩ ⟨⟨_,rfl,rfl,(Qx fun _=>rfl)⟩,tv⟩ rfl
     ·obtain ⟨x23,rfl⟩ : ∃ x,x = z:=⟨_,rfl⟩
      refine Tr.cond rfl (fun hb24=>?_) (fun hb24=>?_)
      ·replace h:=bT hb24 h
       refine Tr.rgn (Rn.mov (v:=.sl 1 (Γ.n0 + 14) 0 (Int.toNat m1.p_.zA.zM) (Int.toNat m1.p_.zA.zM)) tv rfl (md rfl ?_))
       obtain ⟨⟨⟩,h26,h⟩:=bnd h
       refine Rn.idxA tv rfl rfl h26 ?_
       obtain ⟨x27,h28,h⟩:=bnd h
       refine Rn.storeA (g:=(fun (x:Int)=>[V.d (.int .i64 x)])) (v:=(i_ 0)) (fun _=>rfl) tv rfl rfl rfl rfl rfl h28 (Rn.nil ?_)
       replace h:=si h; subst h
       exact Qg [] ⟨(Q7 (ltB hM hk3)),(kSl rfl),(sm rfl),tv⟩ ⟨⟨_,rfl,rfl,(Qx fun _=>rfl)⟩,tv⟩ rfl
      ·replace h:=bF hb24 h
       refine Tr.skip ?_
       replace h:=si h; subst h
       exact Qg [] ⟨(Q7 (ltB hM hk3)),(kSl rfl),(sm rfl),tv⟩ ⟨⟨_,rfl,rfl,(Qx fun _=>rfl)⟩,tv⟩ rfl
    ·obtain ⟨c29,rfl⟩ : ∃ x,x = z:=⟨_,rfl⟩
     refine Tr.rgn (md rfl (Rn.bin tv rfl rfl rfl (md rfl (Rn.nil ?_))))
     exact ⟨_,h,(by exact Qi ⟨(Q7 (ltB hM hk3)),(kSl rfl),(sm rfl),tv⟩ ⟨⟨_,rfl,rfl,(Qx fun _=>rfl)⟩,tv⟩ rfl)⟩
   ·replace h:=ifF hb11 h
    refine Tr.exit ?_
    replace h:=si h; subst h
    exact Qg [] ⟨(Q7 (ltB hM hk3)),(kSl rfl),tv⟩ ⟨⟨_,rfl,rfl,(Qx fun _=>rfl)⟩,tv⟩ rfl
 ·obtain ⟨c30,rfl⟩ : ∃ x,x = z:=⟨_,rfl⟩
  refine Tr.cutB (fun (c66:List Int)=>⟨look [(3,.sl 1 (Γ.n0 + 14) 0 (Int.toNat m1.p_.zA.zM) (Int.toNat m1.p_.zA.zM))],Qm Γ.n0 (bxs [(14,.cells (Q2 (fun (x:Int)=>[V.d (.int .i64 x)]) c66))]) M,Γ.n0 + 96⟩) h (fun z h=>?_) (fun z h=>?_)
  ·refine sr ((md rfl (nt ((Tr.block ?_)))))
   refine Tr.loop (mk:=fun ((d31,c32):Int×(List Int))=>⟨look [(0,.ptr k2 0),(3,.sl 1 (Γ.n0 + 14) 0 (Int.toNat m1.p_.zA.zM) (Int.toNat m1.p_.zA.zM)),(5,(i_ d31))],Qm Γ.n0 (bxs [(14,.cells (Q2 (fun (x:Int)=>[V.d (.int .i64 x)]) c32))]) M,Γ.n0 + 96⟩) h (by exact Qi ⟨(Q7 (ltB hM hk3)),(kSl rfl),(sm rfl),tv⟩ ⟨⟨_,rfl,rfl,(Qx fun _=>rfl)⟩,tv⟩ rfl) (fun k33 z h=>?_)
   ·obtain ⟨d31,c32⟩:=z
    replace h:_ = some _:=h
    refine Tr.seq (sr ((md rfl (Rn.mov (v:=.sl 1 (Γ.n0 + 14) 0 (Int.toNat m1.p_.zA.zM) (Int.toNat m1.p_.zA.zM)) tv rfl (Rn.lenA tv rfl (Rn.bin tv rfl rfl rfl (Rn.nil (toN ?_))))))))
    refine Tr.cond rfl (fun hb34=>?_) (fun hb34=>?_)
    ·replace h:=ifT hb34 h
     refine Tr.skip (toN ?_)
     refine Tr.cutB (fun (c65:List Int)=>⟨look [(0,.ptr k2 0),(3,.sl 1 (Γ.n0 + 14) 0 (Int.toNat m1.p_.zA.zM) (Int.toNat m1.p_.zA.zM)),(5,(i_ d31))],Qm Γ.n0 (bxs [(14,.cells (Q2 (fun (x:Int)=>[V.d (.int .i64 x)]) c65))]) M,Γ.n0 + 96⟩) h (fun z h=>?_) (fun z h=>?_)
     ·refine Tr.block (sr ((Rn.mov (v:=.ptr k2 0) tv rfl (Rn.nilchkP tv rfl (Rn.fldP (o':=0) tv rfl rfl (Rn.fldP (o':=0) tv rfl rfl (Rn.fldP (o':=3) tv rfl rfl (Rn.load (v:=.d (.lst 3 (List.map Qa m1.p_.zA.zL))) tv rfl (Qq hM hk3) rfl rfl (Rn.lenD tv rfl (md rfl (nt ((Tr.block ?_)))))))))))))
      refine Tr.loop (mk:=fun ((x35,c36):Int×(List Int))=>⟨look [(0,.ptr k2 0),(3,.sl 1 (Γ.n0 + 14) 0 (Int.toNat m1.p_.zA.zM) (Int.toNat m1.p_.zA.zM)),(5,(i_ d31)),(56,.d (.lst 3 (List.map Qa m1.p_.zA.zL))),(57,(i_ (m1.p_.zA.zL.length:Int))),(58,(i_ x35))],Qm Γ.n0 (bxs [(14,.cells (Q2 (fun (x:Int)=>[V.d (.int .i64 x)]) c36))]) M,Γ.n0 + 96⟩) h (by exact Qi ⟨(Q7 (ltB hM hk3)),(kSl rfl),(sm rfl),(sm rfl),(sm rfl),(sm rfl),tv⟩ ⟨⟨_,rfl,rfl,(Qx fun _=>rfl)⟩,tv⟩ rfl) (fun k37 z h=>?_)
      ·obtain ⟨x35,c36⟩:=z
       replace h:_ = some _:=h
       refine sr ((Rn.bin tv rfl rfl rfl (nt ((Tr.seq ?_)))))
       refine Tr.cond rfl (fun hb38=>?_) (fun hb38=>?_)
       ·replace h:=ifT hb38 h
        refine Tr.skip (toN ?_)
        refine Tr.cutB (fun ((c61,y62,y63,y64):(List Int)×Int×Int×Int)=>⟨look [(0,.ptr k2 0),(3,.sl 1 (Γ.n0 + 14) 0 (Int.toNat m1.p_.zA.zM) (Int.toNat m1.p_.zA.zM)),(5,(i_ d31)),(56,.d (.lst 3 (List.map Qa m1.p_.zA.zL))),(57,(i_ (m1.p_.zA.zL.length:Int))),(58,(i_ x35))],Qm Γ.n0 (bxs [(7,.cells ([(i_ y62),(i_ y63),(i_ y64)])),(14,.cells (Q2 (fun (x:Int)=>[V.d (.int .i64 x)]) c61))]) M,Γ.n0 + 96⟩) h (fun z h=>?_) (fun z h=>?_)
        ·refine Tr.block (Tr.seq (Tr.rgn ?_))
         obtain ⟨x39,h40,h⟩:=bnd h
         refine Rn.idxD (e:=Qa) tv rfl rfl h40 (Rn.loadCA (vs:=(Qz x39)) tv rfl rfl rfl (Rn.alloc tv rfl (Rn.store (v:=(Qb7 x39)) (cs':=(Qz x39)) tv rfl rfl rfl rfl rfl rfl (Rn.nil (toN ?_)))))
         refine Tr.cutB (fun (x55:Bool)=>⟨look [(0,.ptr k2 0),(3,.sl 1 (Γ.n0 + 14) 0 (Int.toNat m1.p_.zA.zM) (Int.toNat m1.p_.zA.zM)),(5,(i_ d31)),(7,.ptr (Γ.n0 + 7) 0),(56,.d (.lst 3 (List.map Qa m1.p_.zA.zL))),(57,(i_ (m1.p_.zA.zL.length:Int))),(58,(i_ x35)),(87,(b_ x55))],Qm Γ.n0 (bxs [(7,.cells ((Qz x39))),(14,.cells (Q2 (fun (x:Int)=>[V.d (.int .i64 x)]) c36))]) M,Γ.n0 + 96⟩) h (fun z h=>?_) (fun z h=>?_)
         ·refine Tr.rgnD (by decide) ?_
          refine Rn.mov (v:=.ptr k2 0) tv rfl (Rn.nilchkP tv rfl (Rn.fldP (o':=8) tv rfl rfl (Rn.load (v:=.sl 1 k4 0 m1.rank_.length m1.rank_.length) tv rfl (Qq hM hk3) rfl rfl (Rn.fldP (o':=0) tv rfl rfl (Rn.load (v:=(i_ x39.From)) tv rfl (Qj rfl) rfl rfl ?_)))))
          obtain ⟨⟨⟩,h42,h⟩:=bnd h
          refine Rn.idxA tv rfl rfl h42 ?_
          obtain ⟨x43,h44,h⟩:=bnd h
          refine Rn.loadA (g:=(fun (x:Int)=>[V.d (.int .i64 x)])) (v:=(i_ x43)) (f:=0) (fun _=>rfl) tv rfl (Qq hM hk5) h44 rfl rfl (Rn.bin tv rfl rfl rfl (md rfl ?_))
          refine Qbr (x43 == 0) (fun hb45=>?_) (fun hb45=>?_)
          ·replace h:=bT hb45 h
           refine Rn.mov (v:=.sl 1 (Γ.n0 + 14) 0 (Int.toNat m1.p_.zA.zM) (Int.toNat m1.p_.zA.zM)) (gw rfl hb45) rfl (Rn.fldP (o':=0) (gw rfl hb45) rfl rfl (Rn.load (v:=(i_ x39.From)) (gw rfl hb45) rfl (Qj rfl) rfl rfl ?_))
           obtain ⟨⟨⟩,h47,h⟩:=bnd h
           refine Rn.idxA (gw rfl hb45) rfl rfl h47 ?_
           obtain ⟨x48,h49,h⟩:=bnd h
           refine Rn.loadA (g:=(fun (x:Int)=>[V.d (.int .i64 x)])) (v:=(i_ x48)) (f:=0) (fun _=>rfl) (gw rfl hb45) rfl (Qj rfl) h49 rfl rfl (Rn.bin (gw rfl hb45) rfl rfl rfl (Rn.pickT (v:=(b_ (decide (x48 < 0)))) tv rfl hb45 rfl (md rfl ?_)))
           refine Qbr (decide (x48 < 0)) (fun hb50=>?_) (fun hb50=>?_)
           ·replace h:=ifT hb50 h
            refine Rn.mov (v:=.sl 1 (Γ.n0 + 14) 0 (Int.toNat m1.p_.zA.zM) (Int.toNat m1.p_.zA.zM)) (gw rfl hb50) rfl (Rn.fldP (o':=2) (gw rfl hb50) rfl rfl (Rn.load (v:=(i_ x39.To)) (gw rfl hb50) rfl (Qj rfl) rfl rfl ?_))
            obtain ⟨⟨⟩,h52,h⟩:=bnd h
            refine Rn.idxA (gw rfl hb50) rfl rfl h52 ?_
            obtain ⟨x53,h54,h⟩:=bnd h
            refine Rn.loadA (g:=(fun (x:Int)=>[V.d (.int .i64 x)])) (v:=(i_ x53)) (f:=0) (fun _=>rfl) (gw rfl hb50) rfl (Qj rfl) h54 rfl rfl (Rn.movD (gw rfl hb50) rfl (Rn.bin (gw rfl hb50) rfl rfl rfl (Rn.pickT (v:=(b_ (x53 == d31))) tv rfl hb50 rfl ?_)))
            refine Rn.nil ⟨rfl,?_⟩
            replace h:=si h; subst h
            exact Qg [] ⟨(Q7 (ltB hM hk3)),(kSl rfl),(sm rfl),(kPtr rfl),(sm rfl),(sm rfl),(sm rfl),(sm rfl),tv⟩ ⟨⟨_,rfl,rfl,(.same rfl)⟩,⟨_,rfl,rfl,(Qx fun _=>rfl)⟩,tv⟩ rfl
           ·replace h:=ifF hb50 h
            refine Rn.sk (nw rfl hb50) (Rn.sk (nw rfl hb50) (Rn.sk (nw rfl hb50) (Rn.sk (nw rfl hb50) (Rn.sk (nw rfl hb50) (Rn.sk (nw rfl hb50) (Rn.sk (nw rfl hb50) (Rn.pickF (v:=(b_ false)) tv rfl hb50 rfl ?_)))))))
            refine Rn.nil ⟨rfl,?_⟩
            replace h:=si h; subst h
            exact Qg [] ⟨(Q7 (ltB hM hk3)),(kSl rfl),(sm rfl),(kPtr rfl),(sm rfl),(sm rfl),(sm rfl),(sm rfl),tv⟩ ⟨⟨_,rfl,rfl,(.same rfl)⟩,⟨_,rfl,rfl,(Qx fun _=>rfl)⟩,tv⟩ rfl
          ·replace h:=bF hb45 h
           refine Rn.sk (nw rfl hb45) (Rn.sk (nw rfl hb45) (Rn.sk (nw rfl hb45) (Rn.sk (nw rfl hb45) (Rn.sk (nw rfl hb45) (Rn.sk (nw rfl hb45) (Rn.pickF (v:=(b_ false)) tv rfl hb45 rfl (md rfl (Rn.sk (nw (b:=false) rfl rfl) (Rn.sk (nw (b:=false) rfl rfl) (Rn.sk (nw (b:=false) rfl rfl) (Rn.sk (nw (b:=false) rfl rfl) (Rn.sk (nw (b:=false) rfl rfl) (Rn.sk (nw (b:=false) rfl rfl) (Rn.sk (nw (b:=false) rfl rfl) (Rn.pickF (v:=(b_ false)) tv rfl rfl rfl ?_)))))))))))))))
           refine Rn.nil ⟨rfl,?_⟩
           replace h:=si h; subst h
           exact Qg [] ⟨(Q7 (ltB hM hk3)),(kSl rfl),(sm rfl),(kPtr rfl),(sm rfl),(sm rfl),(sm rfl),(sm rfl),tv⟩ ⟨⟨_,rfl,rfl,(.same rfl)⟩,⟨_,rfl,rfl,(Qx fun _=>rfl)⟩,tv⟩ rfl
         ·obtain ⟨x55,rfl⟩ : ∃ x,x = z:=⟨_,rfl⟩
          refine Tr.cond rfl (fun hb56=>?_) (fun hb56=>?_)
          ·replace h:=bT hb56 h
           refine Tr.rgn (Rn.mov (v:=.sl 1 (Γ.n0 + 14) 0 (Int.toNat m1.p_.zA.zM) (Int.toNat m1.p_.zA.zM)) tv rfl (Rn.fldP (o':=0) tv rfl rfl (Rn.load (v:=(i_ x39.From)) tv rfl (Qj rfl) rfl rfl (md rfl (Rn.bin tv rfl rfl rfl ?_)))))
           obtain ⟨⟨⟩,h58,h⟩:=bnd h
           refine Rn.idxA tv rfl rfl h58 ?_
           obtain ⟨x59,h60,h⟩:=bnd h
           refine Rn.storeA (g:=(fun (x:Int)=>[V.d (.int .i64 x)])) (v:=(i_ (IntKind.wrap .i64 (d31 + 1)))) (fun _=>rfl) tv rfl rfl rfl rfl rfl h60 (Rn.nil ?_)
           replace h:=si h; subst h
           exact Qg [] ⟨(Q7 (ltB hM hk3)),(kSl rfl),(sm rfl),(sm rfl),(sm rfl),(sm rfl),tv⟩ ⟨⟨_,rfl,rfl,(.same rfl)⟩,⟨_,rfl,rfl,(Qx fun _=>rfl)⟩,tv⟩ rfl
          ·replace h:=bF hb56 h
           refine Tr.skip ?_
           replace h:=si h; subst h
           exact Qg [] ⟨(Q7 (ltB hM hk3)),(kSl rfl),(sm rfl),(sm rfl),(sm rfl),(sm rfl),tv⟩ ⟨⟨_,rfl,rfl,(.same rfl)⟩,⟨_,rfl,rfl,(Qx fun _=>rfl)⟩,tv⟩ rfl
        ·obtain ⟨c61,y62,y63,y64⟩:=z
         refine Tr.rgn (Rn.bin tv rfl rfl rfl (md rfl (Rn.nil ?_)))
         exact ⟨_,h,(by exact Qi ⟨(Q7 (ltB hM hk3)),(kSl rfl),(sm rfl),(sm rfl),(sm rfl),(sm rfl),tv⟩ ⟨⟨_,rfl,rfl,(Qx fun _=>rfl)⟩,tv⟩ rfl)⟩
       ·replace h:=ifF hb38 h
        refine Tr.exit ?_
        replace h:=si h; subst h
        exact Qg [] ⟨(Q7 (ltB hM hk3)),(kSl rfl),(sm rfl),tv⟩ ⟨⟨_,rfl,rfl,(Qx fun _=>rfl)⟩,tv⟩ rfl
     ·obtain ⟨c65,rfl⟩ : ∃ x,x = z:=⟨_,rfl⟩
      refine Tr.rgn (md rfl (Rn.bin tv rfl rfl rfl (md rfl (Rn.nil ?_))))
      exact ⟨_,h,(by exact Qi ⟨(Q7 (ltB hM hk3)),(kSl rfl),(sm rfl),tv⟩ ⟨⟨_,rfl,rfl,(Qx fun _=>rfl)⟩,tv⟩ rfl)⟩
    ·replace h:=ifF hb34 h
     refine Tr.exit ?_
     replace h:=si h; subst h
     exact Qg [] ⟨(kSl rfl),tv⟩ ⟨⟨_,rfl,rfl,(Qx fun _=>rfl)⟩,tv⟩ rfl
  ·obtain ⟨c66,rfl⟩ : ∃ x,x = z:=⟨_,rfl⟩
   refine sr ((Rn.movTF (v:=.sl 1 (Γ.n0 + 14) 0 (Int.toNat m1.p_.zA.zM) (Int.toNat m1.p_.zA.zM)) tv rfl rfl (Rn.movTF (v:=.sl 1 (Γ.n0 + 14) 0 (Int.toNat m1.p_.zA.zM) (Int.toNat m1.p_.zA.zM)) tv rfl rfl (Rn.nil (toN ?_)))))
   obtain ⟨⟨⟩,hl67,h⟩:=bnd h
   refine Tr.weak (by show WeakSt Γ _ ⟨look [(2,(l_ c66)),(3,(l_ c66)),(95,(l_ c66))],Qm Γ.n0 (bxs []) M,Γ.n0 + 96⟩; exact Qf1 14 _ rfl (Q35 (fun _=>rfl) _) ⟨(fSlA (fun _=>rfl) (Qc2 hl67)),(fSlA (fun _=>rfl) (Qc2 hl67)),(fSlA (fun _=>rfl) (Qc2 hl67)),tv⟩ tv rfl) ?_
   refine Tr.ret ?_
   replace h:=si h; subst h
   exact ⟨.inr rfl,(l_ c66),rfl,fun _ _ _ _ h=>h,tv,fun k hk=>Qh hk⟩
theorem Qpq {P:Program} {c:Nat} {Qu:Qn→Option ((List Int))} {Qbo:Qn→Int→Option (Int×Int)}
    (H_overseerlaw46_model_distances:Qdb P 21 Qu)
    (H_overseerlaw46_model_must:Qft P 22 Qbo) (hcf:Qy P c = some Qff) (fuel:Nat):Qfe P c (Qbn Qu Qbo fuel):=by
 intro m1 rank6 k2 k4 r h
 intro M nb hk3 hk5
 refine Qnm hcf rfl M nb fun Γ hP hnt hn0 hM=>?_
 subst hP hn0
 refine Tr.init [(0,.ptr k2 0),(1,(i_ rank6))] rfl ?_
 unfold Qbn at h
 unfold Qff
 refine sr ((Rn.movTC (v:=.nils 4) tv (nt ((sr ((Rn.movTC (v:=.nils 4) tv (Rn.nil (toN ?_)))))))))
 refine Tr.cutB (fun (out23:List Qd)=>⟨look [(0,.ptr k2 0),(1,(i_ rank6)),(5,.own 4 (List.map Qc out23))],Qm Γ.n0 (bxs []) M,Γ.n0 + 81⟩) h (fun z h=>?_) (fun z h=>?_)
 ·refine sr ((md rfl (nt ((Tr.block ?_)))))
  refine Tr.loop (mk:=fun ((out7,i8):(List Qd)×Int)=>⟨look [(0,.ptr k2 0),(1,(i_ rank6)),(5,.own 4 (List.map Qc out7)),(6,(i_ i8))],Qm Γ.n0 (bxs []) M,Γ.n0 + 81⟩) h (by exact Qi ⟨(Q7 (ltB hM hk3)),(sm rfl),(WkV.nilsO _),(sm rfl),tv⟩ tv rfl) (fun k9 z h=>?_)
  ·obtain ⟨out7,i8⟩:=z
   replace h:_ = some _:=h
   refine Tr.seq (sr ((md rfl (Rn.mov (v:=.ptr k2 0) tv rfl (Rn.nilchkP tv rfl (Rn.fldP (o':=8) tv rfl rfl (Rn.load (v:=.sl 1 k4 0 m1.rank_.length m1.rank_.length) tv rfl (Qq hM hk3) rfl rfl (Rn.lenA tv rfl (Rn.bin tv rfl rfl rfl (Rn.nil (toN ?_)))))))))))
   refine Tr.cond rfl (fun hb10=>?_) (fun hb10=>?_)
   ·replace h:=ifT hb10 h
    refine Tr.skip (toN ?_)
    refine Tr.cutB (fun (out22:List Qd)=>⟨look [(0,.ptr k2 0),(1,(i_ rank6)),(5,.own 4 (List.map Qc out22)),(6,(i_ i8))],Qm Γ.n0 (bxs []) M,Γ.n0 + 81⟩) h (fun z h=>?_) (fun z h=>?_)
    ·refine Tr.block (Tr.seq (sr ((Rn.mov (v:=.ptr k2 0) tv rfl (Rn.nilchkP tv rfl (Rn.fldP (o':=8) tv rfl rfl (Rn.load (v:=.sl 1 k4 0 m1.rank_.length m1.rank_.length) tv rfl (Qq hM hk3) rfl rfl (md rfl ?_))))))))
     obtain ⟨⟨⟩,h12,h⟩:=bnd h
     refine Rn.idxA tv rfl rfl h12 ?_
     obtain ⟨x13,h14,h⟩:=bnd h
     refine Rn.loadA (g:=(fun (x:Int)=>[V.d (.int .i64 x)])) (v:=(i_ x13)) (f:=0) (fun _=>rfl) tv rfl (Qq hM hk5) h14 rfl rfl (Rn.bin tv rfl rfl rfl (Rn.nil (toN ?_)))
     refine Tr.cond rfl (fun hb15=>?_) (fun hb15=>?_)
     ·replace h:=ifT hb15 h
      refine Tr.exit ?_
      replace h:=si h; subst h
      exact Qg [] ⟨(Q7 (ltB hM hk3)),(sm rfl),(sm rfl),(sm rfl),tv⟩ tv rfl
     ·replace h:=ifF hb15 h
      refine Tr.skip (toN (sr ((Rn.mov (v:=.ptr k2 0) tv rfl (md rfl ?_)))))
      obtain ⟨⟨r17,r18⟩,h16,h⟩:=bnd h
      refine Rn.callM (args:=[.ptr k2 0,(i_ i8)]) tv rfl (fun M2 nb2 hn hx=>H_overseerlaw46_model_must _ _ k2 k4 _ h16 M2 nb2 (hx _ _ (Qq hM hk3)) (hx _ _ (Qq hM hk5))) rfl pc9 ?_
      refine Rn.mov (v:=.tup [(i_ r17),(i_ r18)]) tv rfl (Rn.ext (v:=(i_ r17)) (vs:=[(i_ r17),(i_ r18)]) tv rfl rfl rfl (Rn.ext (v:=(i_ r18)) (vs:=[(i_ r17),(i_ r18)]) tv rfl rfl rfl (md rfl (md rfl (nt ((sr ((md rfl (Rn.bin tv rfl rfl rfl (Rn.nil (toN ?_))))))))))))
      refine Tr.cond rfl (fun hb19=>?_) (fun hb19=>?_)
      ·replace h:=ifT hb19 h
       refine Tr.rgn (Rn.movTO tv rfl (md rfl (md rfl (md rfl (md rfl (Rn.build (v:=.agg [(i_ i8),(i_ rank6),(i_ r17),(i_ r18)]) tv rfl (Rn.bslice (xs:=[.agg [(i_ i8),(i_ rank6),(i_ r17),(i_ r18)]]) (cs:=[(i_ i8),(i_ rank6),(i_ r17),(i_ r18)]) tv rfl rfl rfl rfl ?_)))))))
       obtain ⟨x20,h21,h⟩:=bnd h
       refine Rn.app (e:=Qc) tv rfl rfl rfl (Qb2 rfl rfl rfl) h21 rfl (Rn.movTO tv rfl (Rn.nil ?_))
       replace h:=si h; subst h
       exact Qg [42] ⟨(Q7 (ltB hM hk3)),(sm rfl),(sm rfl),(sm rfl),tv⟩ tv rfl
      ·replace h:=ifF hb19 h
       refine Tr.skip ?_
       replace h:=si h; subst h
       exact Qg [] ⟨(Q7 (ltB hM hk3)),(sm rfl),(sm rfl),(sm rfl),tv⟩ tv rfl
    ·obtain ⟨out22,rfl⟩ : ∃ x,x = z:=⟨_,rfl⟩
     refine Tr.rgn (md rfl (Rn.bin tv rfl rfl rfl (md rfl (Rn.nil ?_))))
     exact ⟨_,h,(by exact Qi ⟨(Q7 (ltB hM hk3)),(sm rfl),(sm rfl),(sm rfl),tv⟩ tv rfl)⟩
   ·replace h:=ifF hb10 h
    refine Tr.exit ?_
    replace h:=si h; subst h
    exact Qg [] ⟨(Q7 (ltB hM hk3)),(sm rfl),(sm rfl),tv⟩ tv rfl
 ·obtain ⟨out23,rfl⟩ : ∃ x,x = z:=⟨_,rfl⟩
  refine Tr.seq (sr ((Rn.mov (v:=.d (.lst 4 (List.map Qc out23))) tv rfl (Rn.lenD tv rfl (Rn.bin tv rfl rfl rfl (Rn.nil (toN ?_)))))))
  refine Tr.cond rfl (fun hb24=>?_) (fun hb24=>?_)
  ·replace h:=ifT hb24 h
   refine sr ((Rn.movTO tv rfl (Rn.movTO tv rfl (nt ((Tr.ret ?_))))))
   replace h:=si h; subst h
   exact ⟨.inr rfl,(.own 4 (List.map Qc out23)),rfl,fun _ _ _ _ h=>h,tv,fun k hk=>Qh hk⟩
  ·replace h:=ifF hb24 h
   refine Tr.skip (toN (sr ((Rn.mov (v:=.ptr k2 0) tv rfl ?_))))
   obtain ⟨x26,h25,h⟩:=bnd h
   refine Rn.callM (args:=[.ptr k2 0]) tv rfl (fun M2 nb2 hn hx=>H_overseerlaw46_model_distances _ k2 k4 _ h25 M2 nb2 (hx _ _ (Qq hM hk3)) (hx _ _ (Qq hM hk5))) rfl pc9 ?_
   refine Rn.movTD tv rfl (Rn.nil (toN ?_))
   refine Tr.cutB (fun (out43:List Qd)=>⟨look [(5,.own 4 (List.map Qc out43))],Qm Γ.n0 (bxs []) M,Γ.n0 + 81⟩) h (fun z h=>?_) (fun z h=>?_)
   ·refine sr ((md rfl (nt ((Tr.block ?_)))))
    refine Tr.loop (mk:=fun ((out27,i28):(List Qd)×Int)=>⟨look [(0,.ptr k2 0),(1,(i_ rank6)),(5,.own 4 (List.map Qc out27)),(9,(l_ x26)),(10,(i_ i28))],Qm Γ.n0 (bxs []) M,Γ.n0 + 81⟩) h (by exact Qi ⟨(Q7 (ltB hM hk3)),(sm rfl),(sm rfl),(sm rfl),(sm rfl),tv⟩ tv rfl) (fun k29 z h=>?_)
    ·obtain ⟨out27,i28⟩:=z
     replace h:_ = some _:=h
     refine Tr.seq (sr ((md rfl (Rn.mov (v:=.ptr k2 0) tv rfl (Rn.nilchkP tv rfl (Rn.fldP (o':=8) tv rfl rfl (Rn.load (v:=.sl 1 k4 0 m1.rank_.length m1.rank_.length) tv rfl (Qq hM hk3) rfl rfl (Rn.lenA tv rfl (Rn.bin tv rfl rfl rfl (Rn.nil (toN ?_)))))))))))
     refine Tr.cond rfl (fun hb30=>?_) (fun hb30=>?_)
     ·replace h:=ifT hb30 h
      refine Tr.skip (toN ?_)
      refine Tr.cutB (fun (out42:List Qd)=>⟨look [(0,.ptr k2 0),(1,(i_ rank6)),(5,.own 4 (List.map Qc out42)),(9,(l_ x26)),(10,(i_ i28))],Qm Γ.n0 (bxs []) M,Γ.n0 + 81⟩) h (fun z h=>?_) (fun z h=>?_)
      ·refine Tr.block ?_
       refine Tr.cutB (fun (x38:Bool)=>⟨look [(0,.ptr k2 0),(1,(i_ rank6)),(5,.own 4 (List.map Qc out27)),(9,(l_ x26)),(10,(i_ i28)),(73,(b_ x38))],Qm Γ.n0 (bxs []) M,Γ.n0 + 81⟩) h (fun z h=>?_) (fun z h=>?_)
       ·refine Tr.rgn (Rn.mov (v:=.ptr k2 0) tv rfl (Rn.nilchkP tv rfl (Rn.fldP (o':=8) tv rfl rfl (Rn.load (v:=.sl 1 k4 0 m1.rank_.length m1.rank_.length) tv rfl (Qq hM hk3) rfl rfl (md rfl ?_)))))
        obtain ⟨⟨⟩,h32,h⟩:=bnd h
        refine Rn.idxA tv rfl rfl h32 ?_
        obtain ⟨x33,h34,h⟩:=bnd h
        refine Rn.loadA (g:=(fun (x:Int)=>[V.d (.int .i64 x)])) (v:=(i_ x33)) (f:=0) (fun _=>rfl) tv rfl (Qq hM hk5) h34 rfl rfl (Rn.bin tv rfl rfl rfl (md rfl ?_))
        refine Qbr (x33 == 0) (fun hb35=>?_) (fun hb35=>?_)
        ·replace h:=bT hb35 h
         refine Rn.movD (gw rfl hb35) rfl (Rn.movD (gw rfl hb35) rfl ?_)
         obtain ⟨x36,h37,h⟩:=bnd h
         refine Rn.idxD (e:=(eI .i64)) (gw rfl hb35) rfl rfl h37 (Rn.loadC (x:=.int .i64 x36) (gw rfl hb35) rfl (Rn.bin (gw rfl hb35) rfl rfl rfl (Rn.pickT (v:=(b_ (decide (x36 < 0)))) tv rfl hb35 rfl (Rn.nil ?_))))
         replace h:=si h; subst h
         exact Qg [] ⟨(Q7 (ltB hM hk3)),(sm rfl),(sm rfl),(sm rfl),(sm rfl),(sm rfl),tv⟩ tv rfl
        ·replace h:=bF hb35 h
         refine Rn.sk (nw rfl hb35) (Rn.sk (nw rfl hb35) (Rn.sk (nw rfl hb35) (Rn.sk (nw rfl hb35) (Rn.sk (nw rfl hb35) (Rn.pickF (v:=(b_ false)) tv rfl hb35 rfl (Rn.nil ?_))))))
         replace h:=si h; subst h
         exact Qg [] ⟨(Q7 (ltB hM hk3)),(sm rfl),(sm rfl),(sm rfl),(sm rfl),(sm rfl),tv⟩ tv rfl
       ·obtain ⟨x38,rfl⟩ : ∃ x,x = z:=⟨_,rfl⟩
        refine Tr.cond rfl (fun hb39=>?_) (fun hb39=>?_)
        ·replace h:=bT hb39 h
         refine Tr.rgn (Rn.movTO tv rfl (md rfl (md rfl (Rn.build (v:=.agg [(i_ i28),(i_ rank6),(i_ 3),(i_ (-1))]) tv rfl (Rn.bslice (xs:=[.agg [(i_ i28),(i_ rank6),(i_ 3),(i_ (-1))]]) (cs:=[(i_ i28),(i_ rank6),(i_ 3),(i_ (-1))]) tv rfl rfl rfl rfl ?_)))))
         obtain ⟨x40,h41,h⟩:=bnd h
         refine Rn.app (e:=Qc) tv rfl rfl rfl (Qb2 rfl rfl rfl) h41 rfl (Rn.movTO tv rfl (Rn.nil ?_))
         replace h:=si h; subst h
         exact Qg [78] ⟨(Q7 (ltB hM hk3)),(sm rfl),(sm rfl),(sm rfl),(sm rfl),tv⟩ tv rfl
        ·replace h:=bF hb39 h
         refine Tr.skip ?_
         replace h:=si h; subst h
         exact Qg [] ⟨(Q7 (ltB hM hk3)),(sm rfl),(sm rfl),(sm rfl),(sm rfl),tv⟩ tv rfl
      ·obtain ⟨out42,rfl⟩ : ∃ x,x = z:=⟨_,rfl⟩
       refine Tr.rgn (md rfl (Rn.bin tv rfl rfl rfl (md rfl (Rn.nil ?_))))
       exact ⟨_,h,(by exact Qi ⟨(Q7 (ltB hM hk3)),(sm rfl),(sm rfl),(sm rfl),(sm rfl),tv⟩ tv rfl)⟩
     ·replace h:=ifF hb30 h
      refine Tr.exit ?_
      replace h:=si h; subst h
      exact Qg [] ⟨(sm rfl),tv⟩ tv rfl
   ·obtain ⟨out43,rfl⟩ : ∃ x,x = z:=⟨_,rfl⟩
    refine sr ((Rn.movTO tv rfl (Rn.movTO tv rfl (nt ((Tr.ret ?_))))))
    replace h:=si h; subst h
    exact ⟨.inr rfl,(.own 4 (List.map Qc out43)),rfl,fun _ _ _ _ h=>h,tv,fun k hk=>Qh hk⟩
theorem Qxz {P:Program} {c:Nat} {Qbe:Qn→(List Qd)→Option Qn} {Qbn:Qn→Int→Option ((List Qd))}
    (H_overseerlaw46_model_note:Qfr P 43 Qbe)
    (H_overseerlaw46_model_round:Qfe P 44 Qbn) (hcf:Qy P c = some Qhu) (fuel:Nat):Qht P c (Qcd Qbe Qbn fuel):=by
 intro p1 r h M nb
 refine Qbko hcf rfl M nb fun Γ hP hnt hn0 hM=>?_
 subst hP hn0
 refine Tr.init [(0,.agg [(l_ p1.zA.zJ),(i_ p1.zA.zM),(l_ p1.zA.zK),.d (.lst 3 (List.map Qa p1.zA.zL)),(l_ p1.zC),(l_ p1.zB),(l_ p1.zD),(i_ p1.Tick)])] rfl ?_
 unfold Qcd at h
 unfold Qhu
 refine sr ((Rn.box (v:=.agg [(l_ p1.zA.zJ),(i_ p1.zA.zM),(l_ p1.zA.zK),.d (.lst 3 (List.map Qa p1.zA.zL)),(l_ p1.zC),(l_ p1.zB),(l_ p1.zD),(i_ p1.Tick)]) (cs:=[(l_ p1.zA.zJ),(i_ p1.zA.zM),(l_ p1.zA.zK),.d (.lst 3 (List.map Qa p1.zA.zL)),(l_ p1.zC),(l_ p1.zB),(l_ p1.zD),(i_ p1.Tick)]) tv rfl rfl rfl rfl rfl (Rn.mov (v:=.nilp) tv rfl (nt ((Tr.seq ?_))))))
 refine Tr.rgnD (by decide) ?_
 refine Rn.load (v:=.agg [(l_ p1.zA.zJ),(i_ p1.zA.zM),(l_ p1.zA.zK),.d (.lst 3 (List.map Qa p1.zA.zL)),(l_ p1.zC),(l_ p1.zB),(l_ p1.zD),(i_ p1.Tick)]) tv rfl (Qj rfl) rfl rfl (Rn.fldP (o':=0) tv rfl rfl (Rn.fldP (o':=1) tv rfl rfl (Rn.load (v:=(i_ p1.zA.zM)) tv rfl (Qj rfl) rfl rfl ?_)))
 obtain ⟨x2,h3,h⟩:=bnd h
 refine Rn.makes (g:=(fun (x:Int)=>[V.d (.int .i64 x)])) tv rfl rfl rfl rfl rfl h3 (Rn.buildT (v:=.agg [(l_ p1.zA.zJ),(i_ p1.zA.zM),(l_ p1.zA.zK),.d (.lst 3 (List.map Qa p1.zA.zL)),(l_ p1.zC),(l_ p1.zB),(l_ p1.zD),(i_ p1.Tick),.sl 1 (Γ.n0 + 12) 0 (Int.toNat p1.zA.zM) (Int.toNat p1.zA.zM),.nils 4,(i_ 0)]) tv rfl (Rn.box (v:=.agg [(l_ p1.zA.zJ),(i_ p1.zA.zM),(l_ p1.zA.zK),.d (.lst 3 (List.map Qa p1.zA.zL)),(l_ p1.zC),(l_ p1.zB),(l_ p1.zD),(i_ p1.Tick),.sl 1 (Γ.n0 + 12) 0 (Int.toNat p1.zA.zM) (Int.toNat p1.zA.zM),.nils 4,(i_ 0)]) (cs:=[(l_ p1.zA.zJ),(i_ p1.zA.zM),(l_ p1.zA.zK),.d (.lst 3 (List.map Qa p1.zA.zL)),(l_ p1.zC),(l_ p1.zB),(l_ p1.zD),(i_ p1.Tick),.sl 1 (Γ.n0 + 12) 0 (Int.toNat p1.zA.zM) (Int.toNat p1.zA.zM),.nils 4,(i_ 0)]) tv rfl rfl rfl rfl rfl (Rn.mov (v:=.ptr (Γ.n0 + 14) 0) tv rfl ?_)))
 refine Rn.nil ⟨rfl,?_⟩
 refine toN (sr ((Rn.movTC (v:=.nils 4) tv (Rn.nil (toN ?_)))))
 refine Tr.cutB (fun (first12:List Qd)=>⟨look [(3,.ptr (Γ.n0 + 14) 0),(4,.own 4 (List.map Qc first12))],Qm Γ.n0 (bxs [(1,.cells ([(l_ p1.zA.zJ),(i_ p1.zA.zM),(l_ p1.zA.zK),.d (.lst 3 (List.map Qa p1.zA.zL)),(l_ p1.zC),(l_ p1.zB),(l_ p1.zD),(i_ p1.Tick)])),(12,.cells (Q2 (fun (x:Int)=>[V.d (.int .i64 x)]) x2)),(14,.cells ([(l_ p1.zA.zJ),(i_ p1.zA.zM),(l_ p1.zA.zK),.d (.lst 3 (List.map Qa p1.zA.zL)),(l_ p1.zC),(l_ p1.zB),(l_ p1.zD),(i_ p1.Tick),.sl 1 (Γ.n0 + 12) 0 (Int.toNat p1.zA.zM) (Int.toNat p1.zA.zM),.nils 4,(i_ 0)]))]) M,Γ.n0 + 46⟩) h (fun z h=>?_) (fun z h=>?_)
 ·refine sr ((md rfl (nt ((Tr.block ?_)))))
  refine Tr.loop (mk:=fun ((first4,i5):(List Qd)×Int)=>⟨look [(1,.ptr (Γ.n0 + 1) 0),(3,.ptr (Γ.n0 + 14) 0),(4,.own 4 (List.map Qc first4)),(5,(i_ i5))],Qm Γ.n0 (bxs [(1,.cells ([(l_ p1.zA.zJ),(i_ p1.zA.zM),(l_ p1.zA.zK),.d (.lst 3 (List.map Qa p1.zA.zL)),(l_ p1.zC),(l_ p1.zB),(l_ p1.zD),(i_ p1.Tick)])),(12,.cells (Q2 (fun (x:Int)=>[V.d (.int .i64 x)]) x2)),(14,.cells ([(l_ p1.zA.zJ),(i_ p1.zA.zM),(l_ p1.zA.zK),.d (.lst 3 (List.map Qa p1.zA.zL)),(l_ p1.zC),(l_ p1.zB),(l_ p1.zD),(i_ p1.Tick),.sl 1 (Γ.n0 + 12) 0 (Int.toNat p1.zA.zM) (Int.toNat p1.zA.zM),.nils 4,(i_ 0)]))]) M,Γ.n0 + 46⟩) h (by exact Qi ⟨(kPtr rfl),(kPtr rfl),(WkV.nilsO _),(sm rfl),tv⟩ ⟨⟨_,rfl,rfl,(.same rfl)⟩,⟨_,rfl,rfl,(Qx fun _=>rfl)⟩,⟨_,rfl,rfl,(.cons (sm rfl) (.cons (sm rfl) (.cons (sm rfl) (.cons (sm rfl) (.cons (sm rfl) (.cons (sm rfl) (.cons (sm rfl) (.cons (sm rfl) (.cons (kSl rfl) (.cons (sm rfl) (.cons (sm rfl) .nil)))))))))))⟩,tv⟩ rfl) (fun k6 z h=>?_)
  ·obtain ⟨first4,i5⟩:=z
   replace h:_ = some _:=h
   refine Tr.seq (sr ((md rfl (Rn.fldP (o':=4) tv rfl rfl (Rn.load (v:=(l_ p1.zC)) tv rfl (Qj rfl) rfl rfl (Rn.lenD tv rfl (Rn.bin tv rfl rfl rfl (Rn.nil (toN ?_)))))))))
   refine Tr.cond rfl (fun hb7=>?_) (fun hb7=>?_)
   ·replace h:=ifT hb7 h
    refine Tr.skip (toN (Tr.seq (Tr.block (Tr.rgn (Rn.movTO tv rfl (Rn.fldP (o':=4) tv rfl rfl (Rn.load (v:=(l_ p1.zC)) tv rfl (Qj rfl) rfl rfl (md rfl ?_))))))))
    obtain ⟨x8,h9,h⟩:=bnd h
    refine Rn.idxD (e:=(eI .i64)) tv rfl rfl h9 (Rn.loadC (x:=.int .i64 x8) tv rfl (Rn.build (v:=.agg [(i_ x8),(i_ 1),(i_ 1),(i_ (-1))]) tv rfl (Rn.bslice (xs:=[.agg [(i_ x8),(i_ 1),(i_ 1),(i_ (-1))]]) (cs:=[(i_ x8),(i_ 1),(i_ 1),(i_ (-1))]) tv rfl rfl rfl rfl ?_)))
    obtain ⟨x10,h11,h⟩:=bnd h
    refine Rn.app (e:=Qc) tv rfl rfl rfl (Qb2 rfl rfl rfl) h11 rfl (Rn.movTO tv rfl (nt ((Tr.rgn (md rfl (Rn.bin tv rfl rfl rfl (md rfl (Rn.nil ?_))))))))
    exact ⟨_,h,(by exact Qi ⟨(kPtr rfl),(kPtr rfl),(sm rfl),(sm rfl),tv⟩ ⟨⟨_,rfl,rfl,(.same rfl)⟩,⟨_,rfl,rfl,(Qx fun _=>rfl)⟩,⟨_,rfl,rfl,(.cons (sm rfl) (.cons (sm rfl) (.cons (sm rfl) (.cons (sm rfl) (.cons (sm rfl) (.cons (sm rfl) (.cons (sm rfl) (.cons (sm rfl) (.cons (kSl rfl) (.cons (sm rfl) (.cons (sm rfl) .nil)))))))))))⟩,tv⟩ rfl)⟩
   ·replace h:=ifF hb7 h
    refine Tr.exit ?_
    replace h:=si h; subst h
    exact Qg [] ⟨(kPtr rfl),(sm rfl),tv⟩ ⟨⟨_,rfl,rfl,(.same rfl)⟩,⟨_,rfl,rfl,(Qx fun _=>rfl)⟩,⟨_,rfl,rfl,(.cons (sm rfl) (.cons (sm rfl) (.cons (sm rfl) (.cons (sm rfl) (.cons (sm rfl) (.cons (sm rfl) (.cons (sm rfl) (.cons (sm rfl) (.cons (kSl rfl) (.cons (sm rfl) (.cons (sm rfl) .nil)))))))))))⟩,tv⟩ rfl
 ·obtain ⟨first12,rfl⟩ : ∃ x,x = z:=⟨_,rfl⟩
  refine Tr.seq ?_
  refine Tr.weak (by show WeakSt Γ _ ⟨look [(3,.ptr (Γ.n0 + 14) 0),(4,.own 4 (List.map Qc first12))],Qm Γ.n0 (bxs [(1,.cells ([(l_ p1.zA.zJ),(i_ p1.zA.zM),(l_ p1.zA.zK),.d (.lst 3 (List.map Qa p1.zA.zL)),(l_ p1.zC),(l_ p1.zB),(l_ p1.zD),(i_ p1.Tick)])),(12,.cells (Q2 (fun (x:Int)=>[V.d (.int .i64 x)]) x2)),(14,.cells ([(l_ p1.zA.zJ),(i_ p1.zA.zM),(l_ p1.zA.zK),.d (.lst 3 (List.map Qa p1.zA.zL)),(l_ p1.zC),(l_ p1.zB),(l_ p1.zD),(i_ p1.Tick),.sl 1 (Γ.n0 + 12) 0 (Int.toNat p1.zA.zM) (Int.toNat p1.zA.zM),.own 4 (List.map Qc []),(i_ 0)]))]) M,Γ.n0 + 46⟩; exact Qg [] ⟨(kPtr rfl),(sm rfl),tv⟩ ⟨⟨_,rfl,rfl,(.same rfl)⟩,⟨_,rfl,rfl,(Qx fun _=>rfl)⟩,⟨_,rfl,rfl,(.cons (sm rfl) (.cons (sm rfl) (.cons (sm rfl) (.cons (sm rfl) (.cons (sm rfl) (.cons (sm rfl) (.cons (sm rfl) (.cons (sm rfl) (.cons (kSl rfl) (.cons (WkV.nilsO _) (.cons (sm rfl) .nil)))))))))))⟩,tv⟩ rfl) ?_
  refine Tr.rgn (Rn.mov (v:=.ptr (Γ.n0 + 14) 0) tv rfl (Rn.mov (v:=.d (.lst 4 (List.map Qc first12))) tv rfl ?_))
  obtain ⟨⟨⟩,hl13,h⟩:=bnd h
  obtain ⟨c14,h15,h⟩:=bnd h
  refine Rn.callW (args:=[.ptr (Γ.n0 + 14) 0,.d (.lst 4 (List.map Qc first12))]) (B:=[((Γ.n0 + 14),.cells ([(l_ c14.p_.zA.zJ),(i_ c14.p_.zA.zM),(l_ c14.p_.zA.zK),.d (.lst 3 (List.map Qa c14.p_.zA.zL)),(l_ c14.p_.zC),(l_ c14.p_.zB),(l_ c14.p_.zD),(i_ c14.p_.Tick),.sl 1 (Γ.n0 + 12) 0 (Int.toNat p1.zA.zM) (Int.toNat p1.zA.zM),.own 4 (List.map Qc c14.removals_),(i_ c14.rounds_)])),((Γ.n0 + 12),.cells (Q2 (fun (x:Int)=>[V.d (.int .i64 x)]) c14.rank_))]) tv rfl (acB (H_overseerlaw46_model_note _ _ (Γ.n0 + 14) (Γ.n0 + 12) _ h15 _ _ (by rw [Qc2 hl13]; exact (Qj rfl)) (Qj rfl) (Qbmf rfl)) (by first | (rw [Qc2 hl13]; done) | (rw [Qc2 hl13]; rfl))) ⟨(.inl (Nat.le_add_right _ _)),(.inl (Nat.le_add_right _ _)),tv⟩ (Qbjs (Qbjs cw0)) rfl ?_
  refine nt ((sr ((md rfl (nt ((Tr.block ?_)))))))
  refine Tr.loop (mk:=fun ((rank16,c17,c18,c19,c20,c21,c22,c23,c24,c25,c26,c27):Int×(List Int)×(List Int)×Int×(List Int)×(List Qe)×(List Int)×(List Int)×(List Int)×Int×(List Qd)×Int)=>⟨look [(3,.ptr (Γ.n0 + 14) 0),(6,(i_ rank16))],Qm Γ.n0 (bxs [(1,.cells ([(l_ p1.zA.zJ),(i_ p1.zA.zM),(l_ p1.zA.zK),.d (.lst 3 (List.map Qa p1.zA.zL)),(l_ p1.zC),(l_ p1.zB),(l_ p1.zD),(i_ p1.Tick)])),(12,.cells (Q2 (fun (x:Int)=>[V.d (.int .i64 x)]) c17)),(14,.cells ([(l_ c18),(i_ c19),(l_ c20),.d (.lst 3 (List.map Qa c21)),(l_ c22),(l_ c23),(l_ c24),(i_ c25),.sl 1 (Γ.n0 + 12) 0 (Int.toNat p1.zA.zM) (Int.toNat p1.zA.zM),.own 4 (List.map Qc c26),(i_ c27)]))]) M,Γ.n0 + 46⟩) h (by exact Qi ⟨(kPtr rfl),(sm rfl),tv⟩ ⟨⟨_,rfl,rfl,(.same rfl)⟩,⟨_,rfl,rfl,(Qx fun _=>rfl)⟩,⟨_,rfl,rfl,(.cons (sm rfl) (.cons (sm rfl) (.cons (sm rfl) (.cons (sm rfl) (.cons (sm rfl) (.cons (sm rfl) (.cons (sm rfl) (.cons (sm rfl) (.cons (kSl rfl) (.cons (sm rfl) (.cons (sm rfl) .nil)))))))))))⟩,tv⟩ rfl) (fun k28 z h=>?_)
  ·obtain ⟨rank16,c17,c18,c19,c20,c21,c22,c23,c24,c25,c26,c27⟩:=z
   replace h:_ = some _:=h
   refine Tr.seq (Tr.block (sr ((Rn.mov (v:=.ptr (Γ.n0 + 14) 0) tv rfl (md rfl ?_)))))
   obtain ⟨⟨⟩,hl29,h⟩:=bnd h
   obtain ⟨x31,h30,h⟩:=bnd h
   refine Rn.callM (args:=[.ptr (Γ.n0 + 14) 0,(i_ rank16)]) tv rfl (fun M2 nb2 hn hx=>H_overseerlaw46_model_round _ _ (Γ.n0 + 14) (Γ.n0 + 12) _ h30 M2 nb2 (by rw [Qc2 hl29]; exact (hx _ _ (Qj rfl))) (hx _ _ (Qj rfl))) rfl pc9 ?_
   refine Rn.movTO tv rfl (nt ((Tr.seq (sr ((Rn.mov (v:=.d (.lst 4 (List.map Qc x31))) tv rfl (Rn.lenD tv rfl (Rn.bin tv rfl rfl rfl (Rn.nil (toN ?_))))))))))
   refine Tr.cond rfl (fun hb32=>?_) (fun hb32=>?_)
   ·replace h:=bT hb32 h
    refine sr ((Rn.mov (v:=.ptr (Γ.n0 + 14) 0) tv rfl (Rn.mov (v:=.ptr (Γ.n0 + 14) 0) tv rfl (nt ((Tr.ret ?_))))))
    obtain ⟨⟨⟩,hl36,h⟩:=bnd h
    replace h:=si h; subst h
    exact ⟨.inr rfl,_,rfl,fun _ _ _ _ h=>h,(show There _ _ from thN rfl),⟨⟨tv,tv,tv,tv,tv,tv,tv,tv,(show There _ _ from thN rfl),tv,tv,tv⟩,Qbce (g:=(fun (x:Int)=>[V.d (.int .i64 x)])) (fun _=>⟨tv,tv⟩) _,tv⟩,fun k hk=>Qh hk,lrAt ⟨(by show Qm Γ.n0 _ M (Γ.n0 + 14) = some (.cells [(l_ c18),(i_ c19),(l_ c20),.d (.lst 3 (List.map Qa c21)),(l_ c22),(l_ c23),(l_ c24),(i_ c25),.sl 1 (Γ.n0 + 12) 0 c17.length c17.length,.own 4 (List.map Qc c26),(i_ c27)]); rw [Qc2 hl36]; exact Qj rfl),Qj rfl,tv⟩,rfl⟩
   ·replace h:=bF hb32 h
    refine Tr.skip (toN (Tr.rgn (Rn.mov (v:=.ptr (Γ.n0 + 14) 0) tv rfl (Rn.mov (v:=.d (.lst 4 (List.map Qc x31))) tv rfl ?_))))
    obtain ⟨⟨⟩,hl33,h⟩:=bnd h
    obtain ⟨c34,h35,h⟩:=bnd h
    refine Rn.callW (args:=[.ptr (Γ.n0 + 14) 0,.d (.lst 4 (List.map Qc x31))]) (B:=[((Γ.n0 + 14),.cells ([(l_ c34.p_.zA.zJ),(i_ c34.p_.zA.zM),(l_ c34.p_.zA.zK),.d (.lst 3 (List.map Qa c34.p_.zA.zL)),(l_ c34.p_.zC),(l_ c34.p_.zB),(l_ c34.p_.zD),(i_ c34.p_.Tick),.sl 1 (Γ.n0 + 12) 0 (Int.toNat p1.zA.zM) (Int.toNat p1.zA.zM),.own 4 (List.map Qc c34.removals_),(i_ c34.rounds_)])),((Γ.n0 + 12),.cells (Q2 (fun (x:Int)=>[V.d (.int .i64 x)]) c34.rank_))]) tv rfl (acB (H_overseerlaw46_model_note _ _ (Γ.n0 + 14) (Γ.n0 + 12) _ h35 _ _ (by rw [Qc2 hl33]; exact (Qj rfl)) (Qj rfl) (Qbmf rfl)) (by first | (rw [Qc2 hl33]; done) | (rw [Qc2 hl33]; rfl))) ⟨(.inl (Nat.le_add_right _ _)),(.inl (Nat.le_add_right _ _)),tv⟩ (Qbjs (Qbjs cw0)) rfl ?_
    refine nt ((Tr.rgn (md rfl (Rn.bin tv rfl rfl rfl (md rfl (Rn.nil ?_))))))
    exact ⟨_,h,(by exact Qi ⟨(kPtr rfl),(sm rfl),tv⟩ ⟨⟨_,rfl,rfl,(.same rfl)⟩,⟨_,rfl,rfl,(Qx fun _=>rfl)⟩,⟨_,rfl,rfl,(.cons (sm rfl) (.cons (sm rfl) (.cons (sm rfl) (.cons (sm rfl) (.cons (sm rfl) (.cons (sm rfl) (.cons (sm rfl) (.cons (sm rfl) (.cons (kSl rfl) (.cons (sm rfl) (.cons (sm rfl) .nil)))))))))))⟩,tv⟩ rfl)⟩
end Go.Abs
end
section
namespace Go.Abs
open Go
set_option maxRecDepth 10000
set_option maxHeartbeats 4000000
theorem Qm8 {P:Program} {c:Nat} {Qu:Qn→Option ((List Int))} {Qv:(List Int)→Int→Option Bool}
    (H_overseerlaw46_model_distances:Qdb P 21 Qu)
    (H_overseerlaw46_has:Qd5 P 23 Qv) (hcf:Qy P c = some Qe3) (fuel:Nat):Qe2 P c (Qbi Qu Qv fuel):=by
 intro m1 k2 k4 r h
 intro M nb hk3 hk5
 refine Qnm hcf rfl M nb fun Γ hP hnt hn0 hM=>?_
 subst hP hn0
 refine Tr.init [(0,.ptr k2 0)] rfl ?_
 unfold Qbi at h
 unfold Qe3
 refine sr ((Rn.alloc tv rfl (nt ((Tr.seq ?_)))))
 refine Tr.rgnD (by decide) ?_
 refine Rn.mov (v:=.ptr k2 0) tv rfl (Rn.nilchkP tv rfl (Rn.fldP (o':=10) tv rfl rfl (Rn.load (v:=(i_ m1.rounds_)) tv rfl (Qq hM hk3) rfl rfl (Rn.mov (v:=.ptr k2 0) tv rfl (Rn.nilchkP tv rfl (Rn.fldP (o':=0) tv rfl rfl (Rn.fldP (o':=0) tv rfl rfl (Rn.fldP (o':=0) tv rfl rfl (Rn.load (v:=(l_ m1.p_.zA.zJ)) tv rfl (Qq hM hk3) rfl rfl (Rn.buildT (v:=.agg [(l_ m1.p_.zA.zJ),(i_ 0),.nils 1,.nils 3]) tv rfl (Rn.build (v:=.agg [.nils 1,.nils 1,.nils 4,(i_ m1.rounds_),(l_ m1.p_.zA.zJ),(i_ 0),.nils 1,.nils 3,.nils 1,.nils 1]) tv rfl (Rn.alloc tv rfl (Rn.storeT (v:=.agg [.nils 1,.nils 1,.nils 4,(i_ m1.rounds_),(l_ m1.p_.zA.zJ),(i_ 0),.nils 1,.nils 3,.nils 1,.nils 1]) (ds:=[.nils 1,.nils 1,.nils 4,(i_ m1.rounds_),(l_ m1.p_.zA.zJ),(i_ 0),.nils 1,.nils 3,.nils 1,.nils 1]) (cs':=[.nils 1,.nils 1,.nils 4,(i_ m1.rounds_),(l_ m1.p_.zA.zJ),(i_ 0),.nils 1,.nils 3,.nils 1,.nils 1]) tv rfl rfl rfl rfl rfl rfl rfl ?_)))))))))))))
 refine Rn.nil ⟨rfl,?_⟩
 refine toN (sr ((Rn.mov (v:=.ptr k2 0) tv rfl ?_)))
 obtain ⟨x7,h6,h⟩:=bnd h
 refine Rn.callM (args:=[.ptr k2 0]) tv rfl (fun M2 nb2 hn hx=>H_overseerlaw46_model_distances _ k2 k4 _ h6 M2 nb2 (hx _ _ (Qq hM hk3)) (hx _ _ (Qq hM hk5))) rfl pc9 ?_
 refine Rn.movTD tv rfl (Rn.nil (toN ?_))
 refine Tr.cutB (fun ((c74,c75,c76,c77,c78,c79,c80,c81,r82,r83,r84,r85,r86,r87,r88):(List Int)×(List Int)×(List Qd)×(List Int)×(List Int)×(List Qe)×(List Int)×(List Int)×(List Int)×(List Int)×(List Qd)×(List Int)×(List Qe)×(List Int)×(List Int))=>⟨look [(0,.ptr k2 0),(2,.ptr (Γ.n0 + 2) 0),(3,.ptr (Γ.n0 + 3) 0)],Qm Γ.n0 (bxs [(2,.cells ([(o_ c74),(o_ c75),.own 4 (List.map Qc c76),(i_ 0),(o_ c77),(i_ 0),(o_ c78),.own 3 (List.map Qa c79),(o_ c80),(o_ c81)])),(3,.cells ([(o_ r82),(o_ r83),.own 4 (List.map Qc r84),(i_ m1.rounds_),(l_ m1.p_.zA.zJ),(i_ 0),(o_ r85),.own 3 (List.map Qa r86),(o_ r87),(o_ r88)]))]) M,Γ.n0 + 262⟩) h (fun z h=>?_) (fun z h=>?_)
 ·refine sr ((md rfl (nt ((Tr.block ?_)))))
  refine Tr.loop (mk:=fun ((i8,c9,c10,c11,c12,c13,c14,c15,c16,r17,r18,r19,r20,r21,r22,r23):Int×(List Int)×(List Int)×(List Qd)×(List Int)×(List Int)×(List Qe)×(List Int)×(List Int)×(List Int)×(List Int)×(List Qd)×(List Int)×(List Qe)×(List Int)×(List Int))=>⟨look [(0,.ptr k2 0),(2,.ptr (Γ.n0 + 2) 0),(3,.ptr (Γ.n0 + 3) 0),(4,(l_ x7)),(5,(i_ i8))],Qm Γ.n0 (bxs [(2,.cells ([(o_ c9),(o_ c10),.own 4 (List.map Qc c11),(i_ 0),(o_ c12),(i_ 0),(o_ c13),.own 3 (List.map Qa c14),(o_ c15),(o_ c16)])),(3,.cells ([(o_ r17),(o_ r18),.own 4 (List.map Qc r19),(i_ m1.rounds_),(l_ m1.p_.zA.zJ),(i_ 0),(o_ r20),.own 3 (List.map Qa r21),(o_ r22),(o_ r23)]))]) M,Γ.n0 + 262⟩) h (by exact Qi ⟨(Q7 (ltB hM hk3)),(kPtr rfl),(kPtr rfl),(sm rfl),(sm rfl),tv⟩ ⟨⟨_,rfl,rfl,(.cons (WkV.nilsO _) (.cons (WkV.nilsO _) (.cons (WkV.nilsO _) (.cons (sm rfl) (.cons (WkV.nilsO _) (.cons (sm rfl) (.cons (WkV.nilsO _) (.cons (WkV.nilsO _) (.cons (WkV.nilsO _) (.cons (WkV.nilsO _) .nil))))))))))⟩,⟨_,rfl,rfl,(.cons (WkV.nilsO _) (.cons (WkV.nilsO _) (.cons (WkV.nilsO _) (.cons (sm rfl) (.cons (sm rfl) (.cons (sm rfl) (.cons (WkV.nilsO _) (.cons (WkV.nilsO _) (.cons (WkV.nilsO _) (.cons (WkV.nilsO _) .nil))))))))))⟩,tv⟩ rfl) (fun k24 z h=>?_)
  ·obtain ⟨i8,c9,c10,c11,c12,c13,c14,c15,c16,r17,r18,r19,r20,r21,r22,r23⟩:=z
   replace h:_ = some _:=h
   refine Tr.seq (sr ((md rfl (Rn.mov (v:=.ptr k2 0) tv rfl (Rn.nilchkP tv rfl (Rn.fldP (o':=8) tv rfl rfl (Rn.load (v:=.sl 1 k4 0 m1.rank_.length m1.rank_.length) tv rfl (Qq hM hk3) rfl rfl (Rn.lenA tv rfl (Rn.bin tv rfl rfl rfl (Rn.nil (toN ?_)))))))))))
   refine Tr.cond rfl (fun hb25=>?_) (fun hb25=>?_)
   ·replace h:=ifT hb25 h
    refine Tr.skip (toN ?_)
    refine Tr.cutB (fun ((r70,r71,r72,r73):(List Int)×(List Int)×(List Qd)×(List Int))=>⟨look [(0,.ptr k2 0),(2,.ptr (Γ.n0 + 2) 0),(3,.ptr (Γ.n0 + 3) 0),(4,(l_ x7)),(5,(i_ i8))],Qm Γ.n0 (bxs [(2,.cells ([(o_ c9),(o_ c10),.own 4 (List.map Qc c11),(i_ 0),(o_ c12),(i_ 0),(o_ c13),.own 3 (List.map Qa c14),(o_ c15),(o_ c16)])),(3,.cells ([(o_ r70),(o_ r71),.own 4 (List.map Qc r72),(i_ m1.rounds_),(l_ m1.p_.zA.zJ),(i_ 0),(o_ r20),.own 3 (List.map Qa r21),(o_ r22),(o_ r73)]))]) M,Γ.n0 + 262⟩) h (fun z h=>?_) (fun z h=>?_)
    ·refine Tr.block ?_
     refine Tr.cutB (fun (r38:List Qd)=>⟨look [(0,.ptr k2 0),(2,.ptr (Γ.n0 + 2) 0),(3,.ptr (Γ.n0 + 3) 0),(4,(l_ x7)),(5,(i_ i8))],Qm Γ.n0 (bxs [(2,.cells ([(o_ c9),(o_ c10),.own 4 (List.map Qc c11),(i_ 0),(o_ c12),(i_ 0),(o_ c13),.own 3 (List.map Qa c14),(o_ c15),(o_ c16)])),(3,.cells ([(o_ r17),(o_ r18),.own 4 (List.map Qc r38),(i_ m1.rounds_),(l_ m1.p_.zA.zJ),(i_ 0),(o_ r20),.own 3 (List.map Qa r21),(o_ r22),(o_ r23)]))]) M,Γ.n0 + 262⟩) h (fun z h=>?_) (fun z h=>?_)
     ·refine sr ((md rfl (nt ((Tr.block ?_)))))
      refine Tr.loop (mk:=fun ((k26,r27):Int×(List Qd))=>⟨look [(0,.ptr k2 0),(2,.ptr (Γ.n0 + 2) 0),(3,.ptr (Γ.n0 + 3) 0),(4,(l_ x7)),(5,(i_ i8)),(6,(i_ k26))],Qm Γ.n0 (bxs [(2,.cells ([(o_ c9),(o_ c10),.own 4 (List.map Qc c11),(i_ 0),(o_ c12),(i_ 0),(o_ c13),.own 3 (List.map Qa c14),(o_ c15),(o_ c16)])),(3,.cells ([(o_ r17),(o_ r18),.own 4 (List.map Qc r27),(i_ m1.rounds_),(l_ m1.p_.zA.zJ),(i_ 0),(o_ r20),.own 3 (List.map Qa r21),(o_ r22),(o_ r23)]))]) M,Γ.n0 + 262⟩) h (by exact Qi ⟨(Q7 (ltB hM hk3)),(kPtr rfl),(kPtr rfl),(sm rfl),(sm rfl),(sm rfl),tv⟩ ⟨⟨_,rfl,rfl,(.same rfl)⟩,⟨_,rfl,rfl,(.same rfl)⟩,tv⟩ rfl) (fun k28 z h=>?_)
      ·obtain ⟨k26,r27⟩:=z
       replace h:_ = some _:=h
       refine Tr.seq (sr ((md rfl (Rn.mov (v:=.ptr k2 0) tv rfl (Rn.nilchkP tv rfl (Rn.fldP (o':=9) tv rfl rfl (Rn.load (v:=.d (.lst 4 (List.map Qc m1.removals_))) tv rfl (Qq hM hk3) rfl rfl (Rn.lenD tv rfl (Rn.bin tv rfl rfl rfl (Rn.nil (toN ?_)))))))))))
       refine Tr.cond rfl (fun hb29=>?_) (fun hb29=>?_)
       ·replace h:=ifT hb29 h
        refine Tr.skip (toN ?_)
        refine Tr.cutB (fun (r37:List Qd)=>⟨look [(0,.ptr k2 0),(2,.ptr (Γ.n0 + 2) 0),(3,.ptr (Γ.n0 + 3) 0),(4,(l_ x7)),(5,(i_ i8)),(6,(i_ k26))],Qm Γ.n0 (bxs [(2,.cells ([(o_ c9),(o_ c10),.own 4 (List.map Qc c11),(i_ 0),(o_ c12),(i_ 0),(o_ c13),.own 3 (List.map Qa c14),(o_ c15),(o_ c16)])),(3,.cells ([(o_ r17),(o_ r18),.own 4 (List.map Qc r37),(i_ m1.rounds_),(l_ m1.p_.zA.zJ),(i_ 0),(o_ r20),.own 3 (List.map Qa r21),(o_ r22),(o_ r23)]))]) M,Γ.n0 + 262⟩) h (fun z h=>?_) (fun z h=>?_)
        ·refine Tr.block (sr ((Rn.mov (v:=.ptr k2 0) tv rfl (Rn.nilchkP tv rfl (Rn.fldP (o':=9) tv rfl rfl (Rn.load (v:=.d (.lst 4 (List.map Qc m1.removals_))) tv rfl (Qq hM hk3) rfl rfl (md rfl ?_)))))))
         obtain ⟨x30,h31,h⟩:=bnd h
         refine Rn.idxD (e:=Qc) tv rfl rfl h31 (Rn.fldC tv rfl (Rn.loadC (x:=.int .i64 x30.State) tv rfl (md rfl (Rn.bin tv rfl rfl rfl (Rn.nil (toN ?_))))))
         refine Tr.cond rfl (fun hb32=>?_) (fun hb32=>?_)
         ·replace h:=bT hb32 h
          refine Tr.rgnD (by decide) ?_
          refine Rn.fldP (o':=0) tv rfl rfl (Rn.fldP (o':=2) tv rfl rfl (Rn.loadT (cs':=[(o_ r17),(o_ r18),.d (.lst 4 (List.map Qc r27)),(i_ m1.rounds_),(l_ m1.p_.zA.zJ),(i_ 0),(o_ r20),.own 3 (List.map Qa r21),(o_ r22),(o_ r23)]) tv rfl rfl rfl rfl (Rn.mov (v:=.ptr k2 0) tv rfl (Rn.nilchkP tv rfl (Rn.fldP (o':=9) tv rfl rfl (Rn.load (v:=.d (.lst 4 (List.map Qc m1.removals_))) tv rfl (Qq hM hk3) rfl rfl (md rfl ?_)))))))
          obtain ⟨x33,h34,h⟩:=bnd h
          refine Rn.idxD (e:=Qc) tv rfl rfl h34 (Rn.loadCA (vs:=(Qev x33)) tv rfl rfl rfl (Rn.bslice (xs:=[(Qh0 x33)]) (cs:=(Qev x33)) tv rfl rfl rfl rfl ?_))
          obtain ⟨x35,h36,h⟩:=bnd h
          refine Rn.app (e:=Qc) tv rfl rfl rfl (Qb2 rfl rfl rfl) h36 rfl (Rn.fldP (o':=0) tv rfl rfl (Rn.fldP (o':=2) tv rfl rfl (Rn.storeO (cs':=[(o_ r17),(o_ r18),.own 4 (List.map Qc x35),(i_ m1.rounds_),(l_ m1.p_.zA.zJ),(i_ 0),(o_ r20),.own 3 (List.map Qa r21),(o_ r22),(o_ r23)]) tv rfl rfl rfl rfl rfl ?_)))
          refine Rn.nil ⟨rfl,?_⟩
          replace h:=si h; subst h
          exact Qg [66] ⟨(Q7 (ltB hM hk3)),(kPtr rfl),(kPtr rfl),(sm rfl),(sm rfl),(sm rfl),tv⟩ ⟨⟨_,rfl,rfl,(.same rfl)⟩,⟨_,rfl,rfl,(.same rfl)⟩,tv⟩ rfl
         ·replace h:=bF hb32 h
          refine Tr.skip ?_
          replace h:=si h; subst h
          exact Qg [] ⟨(Q7 (ltB hM hk3)),(kPtr rfl),(kPtr rfl),(sm rfl),(sm rfl),(sm rfl),tv⟩ ⟨⟨_,rfl,rfl,(.same rfl)⟩,⟨_,rfl,rfl,(.same rfl)⟩,tv⟩ rfl
        ·obtain ⟨r37,rfl⟩ : ∃ x,x = z:=⟨_,rfl⟩
         refine Tr.rgn (md rfl (Rn.bin tv rfl rfl rfl (md rfl (Rn.nil ?_))))
         exact ⟨_,h,(by exact Qi ⟨(Q7 (ltB hM hk3)),(kPtr rfl),(kPtr rfl),(sm rfl),(sm rfl),(sm rfl),tv⟩ ⟨⟨_,rfl,rfl,(.same rfl)⟩,⟨_,rfl,rfl,(.same rfl)⟩,tv⟩ rfl)⟩
       ·replace h:=ifF hb29 h
        refine Tr.exit ?_
        replace h:=si h; subst h
        exact Qg [] ⟨(Q7 (ltB hM hk3)),(kPtr rfl),(kPtr rfl),(sm rfl),(sm rfl),tv⟩ ⟨⟨_,rfl,rfl,(.same rfl)⟩,⟨_,rfl,rfl,(.same rfl)⟩,tv⟩ rfl
     ·obtain ⟨r38,rfl⟩ : ∃ x,x = z:=⟨_,rfl⟩
      refine Tr.seq (sr ((Rn.mov (v:=.ptr k2 0) tv rfl (Rn.nilchkP tv rfl (Rn.fldP (o':=8) tv rfl rfl (Rn.load (v:=.sl 1 k4 0 m1.rank_.length m1.rank_.length) tv rfl (Qq hM hk3) rfl rfl (md rfl ?_)))))))
      obtain ⟨⟨⟩,h40,h⟩:=bnd h
      refine Rn.idxA tv rfl rfl h40 ?_
      obtain ⟨x41,h42,h⟩:=bnd h
      refine Rn.loadA (g:=(fun (x:Int)=>[V.d (.int .i64 x)])) (v:=(i_ x41)) (f:=0) (fun _=>rfl) tv rfl (Qq hM hk5) h42 rfl rfl (Rn.bin tv rfl rfl rfl (Rn.nil (toN ?_)))
      refine Tr.cond rfl (fun hb43=>?_) (fun hb43=>?_)
      ·replace h:=ifT hb43 h
       refine Tr.exit ?_
       replace h:=si h; subst h
       exact Qg [] ⟨(Q7 (ltB hM hk3)),(kPtr rfl),(kPtr rfl),(sm rfl),(sm rfl),tv⟩ ⟨⟨_,rfl,rfl,(.same rfl)⟩,⟨_,rfl,rfl,(.same rfl)⟩,tv⟩ rfl
      ·replace h:=ifF hb43 h
       refine Tr.skip (toN (Tr.seq ?_))
       refine Tr.rgnD (by decide) ?_
       refine Rn.fldP (o':=0) tv rfl rfl (Rn.fldP (o':=0) tv rfl rfl (Rn.loadT (cs':=[(l_ r17),(o_ r18),.own 4 (List.map Qc r38),(i_ m1.rounds_),(l_ m1.p_.zA.zJ),(i_ 0),(o_ r20),.own 3 (List.map Qa r21),(o_ r22),(o_ r23)]) tv rfl rfl rfl rfl (md rfl (Rn.bslice (xs:=[(i_ i8)]) (cs:=[(i_ i8)]) tv rfl rfl rfl rfl ?_))))
       obtain ⟨x44,h45,h⟩:=bnd h
       refine Rn.app (e:=(eI .i64)) tv rfl rfl rfl (Qb2 rfl rfl rfl) h45 rfl (Rn.fldP (o':=0) tv rfl rfl (Rn.fldP (o':=1) tv rfl rfl (Rn.loadT (cs':=[(l_ r17),(l_ r18),.own 4 (List.map Qc r38),(i_ m1.rounds_),(l_ m1.p_.zA.zJ),(i_ 0),(o_ r20),.own 3 (List.map Qa r21),(o_ r22),(o_ r23)]) tv rfl rfl rfl rfl (md rfl (md rfl ?_)))))
       obtain ⟨x46,h47,h⟩:=bnd h
       refine Rn.idxD (e:=(eI .i64)) tv rfl rfl h47 (Rn.loadC (x:=.int .i64 x46) tv rfl (Rn.bslice (xs:=[(i_ x46)]) (cs:=[(i_ x46)]) tv rfl rfl rfl rfl ?_))
       obtain ⟨x48,h49,h⟩:=bnd h
       refine Rn.app (e:=(eI .i64)) tv rfl rfl rfl (Qb2 rfl rfl rfl) h49 rfl (Rn.fldP (o':=0) tv rfl rfl (Rn.fldP (o':=0) tv rfl rfl (Rn.storeO (cs':=[(o_ x44),(l_ r18),.own 4 (List.map Qc r38),(i_ m1.rounds_),(l_ m1.p_.zA.zJ),(i_ 0),(o_ r20),.own 3 (List.map Qa r21),(o_ r22),(o_ r23)]) tv rfl rfl rfl rfl rfl (Rn.fldP (o':=0) tv rfl rfl (Rn.fldP (o':=1) tv rfl rfl (Rn.storeO (cs':=[(o_ x44),(o_ x48),.own 4 (List.map Qc r38),(i_ m1.rounds_),(l_ m1.p_.zA.zJ),(i_ 0),(o_ r20),.own 3 (List.map Qa r21),(o_ r22),(o_ r23)]) tv rfl rfl rfl rfl rfl ?_))))))
       refine Rn.nil ⟨by first | rfl | simp [Qwc,Qlt,look,Bool.cond_eq_ite,Nat.beq_eq],?_⟩
       refine toN (sr ((Rn.mov (v:=.ptr k2 0) tv rfl (Rn.nilchkP tv rfl (Rn.fldP (o':=0) tv rfl rfl (Rn.fldP (o':=0) tv rfl rfl (Rn.fldP (o':=3) tv rfl rfl (Rn.load (v:=.d (.lst 3 (List.map Qa m1.p_.zA.zL))) tv rfl (Qq hM hk3) rfl rfl (Rn.lenD tv rfl (md rfl (nt ((Tr.block ?_)))))))))))))
       refine Tr.loop (mk:=fun ((x50,r51):Int×(List Int))=>⟨look [(0,.ptr k2 0),(2,.ptr (Γ.n0 + 2) 0),(3,.ptr (Γ.n0 + 3) 0),(4,(l_ x7)),(5,(i_ i8)),(102,.d (.lst 3 (List.map Qa m1.p_.zA.zL))),(103,(i_ (m1.p_.zA.zL.length:Int))),(104,(i_ x50))],Qm Γ.n0 (bxs [(2,.cells ([(o_ c9),(o_ c10),.own 4 (List.map Qc c11),(i_ 0),(o_ c12),(i_ 0),(o_ c13),.own 3 (List.map Qa c14),(o_ c15),(o_ c16)])),(3,.cells ([(o_ x44),(o_ x48),.own 4 (List.map Qc r38),(i_ m1.rounds_),(l_ m1.p_.zA.zJ),(i_ 0),(o_ r20),.own 3 (List.map Qa r21),(o_ r22),(o_ r51)])),(82,.cells ([(i_ i8)])),(91,.cells ([(i_ x46)]))]) M,Γ.n0 + 262⟩) h (by exact Qi ⟨(Q7 (ltB hM hk3)),(kPtr rfl),(kPtr rfl),(sm rfl),(sm rfl),(sm rfl),(sm rfl),(sm rfl),tv⟩ ⟨⟨_,rfl,rfl,(.same rfl)⟩,⟨_,rfl,rfl,(.same rfl)⟩,⟨_,rfl,rfl,(.same rfl)⟩,⟨_,rfl,rfl,(.same rfl)⟩,tv⟩ rfl) (fun k52 z h=>?_)
       ·obtain ⟨x50,r51⟩:=z
        replace h:_ = some _:=h
        refine sr ((Rn.bin tv rfl rfl rfl (nt ((Tr.seq ?_)))))
        refine Tr.cond rfl (fun hb53=>?_) (fun hb53=>?_)
        ·replace h:=ifT hb53 h
         refine Tr.skip (toN ?_)
         refine Tr.cutB (fun ((r66,y67,y68,y69):(List Int)×Int×Int×Int)=>⟨look [(0,.ptr k2 0),(2,.ptr (Γ.n0 + 2) 0),(3,.ptr (Γ.n0 + 3) 0),(4,(l_ x7)),(5,(i_ i8)),(102,.d (.lst 3 (List.map Qa m1.p_.zA.zL))),(103,(i_ (m1.p_.zA.zL.length:Int))),(104,(i_ x50))],Qm Γ.n0 (bxs [(2,.cells ([(o_ c9),(o_ c10),.own 4 (List.map Qc c11),(i_ 0),(o_ c12),(i_ 0),(o_ c13),.own 3 (List.map Qa c14),(o_ c15),(o_ c16)])),(3,.cells ([(o_ x44),(o_ x48),.own 4 (List.map Qc r38),(i_ m1.rounds_),(l_ m1.p_.zA.zJ),(i_ 0),(o_ r20),.own 3 (List.map Qa r21),(o_ r22),(o_ r66)])),(8,.cells ([(i_ y67),(i_ y68),(i_ y69)])),(82,.cells ([(i_ i8)])),(91,.cells ([(i_ x46)]))]) M,Γ.n0 + 262⟩) h (fun z h=>?_) (fun z h=>?_)
         ·refine Tr.block (Tr.seq (Tr.rgn ?_))
          obtain ⟨x54,h55,h⟩:=bnd h
          refine Rn.idxD (e:=Qa) tv rfl rfl h55 (Rn.loadCA (vs:=(Qz x54)) tv rfl rfl rfl (Rn.alloc tv rfl (Rn.store (v:=(Qb7 x54)) (cs':=(Qz x54)) tv rfl rfl rfl rfl rfl rfl (Rn.nil (toN ?_)))))
          refine Tr.cutB (fun (x62:Bool)=>⟨look [(0,.ptr k2 0),(2,.ptr (Γ.n0 + 2) 0),(3,.ptr (Γ.n0 + 3) 0),(4,(l_ x7)),(5,(i_ i8)),(102,.d (.lst 3 (List.map Qa m1.p_.zA.zL))),(103,(i_ (m1.p_.zA.zL.length:Int))),(104,(i_ x50)),(132,(b_ x62))],Qm Γ.n0 (bxs [(2,.cells ([(o_ c9),(o_ c10),.own 4 (List.map Qc c11),(i_ 0),(o_ c12),(i_ 0),(o_ c13),.own 3 (List.map Qa c14),(o_ c15),(o_ c16)])),(3,.cells ([(o_ x44),(o_ x48),.own 4 (List.map Qc r38),(i_ m1.rounds_),(l_ m1.p_.zA.zJ),(i_ 0),(o_ r20),.own 3 (List.map Qa r21),(o_ r22),(o_ r51)])),(8,.cells ((Qz x54))),(82,.cells ([(i_ i8)])),(91,.cells ([(i_ x46)]))]) M,Γ.n0 + 262⟩) h (fun z h=>?_) (fun z h=>?_)
          ·refine Tr.rgnD (by decide) ?_
           refine Rn.fldP (o':=0) tv rfl rfl (Rn.load (v:=(i_ x54.From)) tv rfl (Qj rfl) rfl rfl (md rfl (Rn.bin tv rfl rfl rfl (md rfl ?_))))
           refine Qbr (x54.From == i8) (fun hb56=>?_) (fun hb56=>?_)
           ·replace h:=bT hb56 h
            refine Rn.fldP (o':=1) (gw rfl hb56) rfl rfl (Rn.load (v:=(i_ x54.Event)) (gw rfl hb56) rfl (Qj rfl) rfl rfl (Rn.mov (v:=.ptr k2 0) (gw rfl hb56) rfl (Rn.nilchkP (gw rfl hb56) rfl (Rn.fldP (o':=0) (gw rfl hb56) rfl rfl (Rn.fldP (o':=7) (gw rfl hb56) rfl rfl (Rn.load (v:=(i_ m1.p_.Tick)) (gw rfl hb56) rfl (Qq hM hk3) rfl rfl (Rn.bin (gw rfl hb56) rfl rfl rfl (Rn.pickT (v:=(b_ (x54.Event == m1.p_.Tick))) tv rfl hb56 rfl (md rfl ?_)))))))))
            refine Qbr (x54.Event == m1.p_.Tick) (fun hb57=>?_) (fun hb57=>?_)
            ·replace h:=bT hb57 h
             refine Rn.mov (v:=.ptr k2 0) (gw rfl hb57) rfl (Rn.nilchkP (gw rfl hb57) rfl (Rn.fldP (o':=8) (gw rfl hb57) rfl rfl (Rn.load (v:=.sl 1 k4 0 m1.rank_.length m1.rank_.length) (gw rfl hb57) rfl (Qq hM hk3) rfl rfl (Rn.fldP (o':=2) (gw rfl hb57) rfl rfl (Rn.load (v:=(i_ x54.To)) (gw rfl hb57) rfl (Qj rfl) rfl rfl ?_)))))
             obtain ⟨⟨⟩,h59,h⟩:=bnd h
             refine Rn.idxA (gw rfl hb57) rfl rfl h59 ?_
             obtain ⟨x60,h61,h⟩:=bnd h
             refine Rn.loadA (g:=(fun (x:Int)=>[V.d (.int .i64 x)])) (v:=(i_ x60)) (f:=0) (fun _=>rfl) (gw rfl hb57) rfl (Qq hM hk5) h61 rfl rfl (Rn.bin (gw rfl hb57) rfl rfl rfl (Rn.pickT (v:=(b_ (decide (x60 > 0)))) tv rfl hb57 rfl ?_))
             refine Rn.nil ⟨rfl,?_⟩
             replace h:=si h; subst h
             exact Qg [] ⟨(Q7 (ltB hM hk3)),(kPtr rfl),(kPtr rfl),(sm rfl),(sm rfl),(sm rfl),(sm rfl),(sm rfl),(sm rfl),tv⟩ ⟨⟨_,rfl,rfl,(.same rfl)⟩,⟨_,rfl,rfl,(.same rfl)⟩,⟨_,rfl,rfl,(.same rfl)⟩,⟨_,rfl,rfl,(.same rfl)⟩,⟨_,rfl,rfl,(.same rfl)⟩,tv⟩ rfl
            ·replace h:=bF hb57 h
             refine Rn.sk (nw rfl hb57) (Rn.sk (nw rfl hb57) (Rn.sk (nw rfl hb57) (Rn.sk (nw rfl hb57) (Rn.sk (nw rfl hb57) (Rn.sk (nw rfl hb57) (Rn.sk (nw rfl hb57) (Rn.sk (nw rfl hb57) (Rn.sk (nw rfl hb57) (Rn.pickF (v:=(b_ false)) tv rfl hb57 rfl ?_)))))))))
             refine Rn.nil ⟨rfl,?_⟩
             replace h:=si h; subst h
             exact Qg [] ⟨(Q7 (ltB hM hk3)),(kPtr rfl),(kPtr rfl),(sm rfl),(sm rfl),(sm rfl),(sm rfl),(sm rfl),(sm rfl),tv⟩ ⟨⟨_,rfl,rfl,(.same rfl)⟩,⟨_,rfl,rfl,(.same rfl)⟩,⟨_,rfl,rfl,(.same rfl)⟩,⟨_,rfl,rfl,(.same rfl)⟩,⟨_,rfl,rfl,(.same rfl)⟩,tv⟩ rfl
           ·replace h:=bF hb56 h
            refine Rn.sk (nw rfl hb56) (Rn.sk (nw rfl hb56) (Rn.sk (nw rfl hb56) (Rn.sk (nw rfl hb56) (Rn.sk (nw rfl hb56) (Rn.sk (nw rfl hb56) (Rn.sk (nw rfl hb56) (Rn.sk (nw rfl hb56) (Rn.pickF (v:=(b_ false)) tv rfl hb56 rfl (md rfl (Rn.sk (nw (b:=false) rfl rfl) (Rn.sk (nw (b:=false) rfl rfl) (Rn.sk (nw (b:=false) rfl rfl) (Rn.sk (nw (b:=false) rfl rfl) (Rn.sk (nw (b:=false) rfl rfl) (Rn.sk (nw (b:=false) rfl rfl) (Rn.sk (nw (b:=false) rfl rfl) (Rn.sk (nw (b:=false) rfl rfl) (Rn.sk (nw (b:=false) rfl rfl) (Rn.pickF (v:=(b_ false)) tv rfl rfl rfl ?_)))))))))))))))))))
            refine Rn.nil ⟨rfl,?_⟩
            replace h:=si h; subst h
            exact Qg [] ⟨(Q7 (ltB hM hk3)),(kPtr rfl),(kPtr rfl),(sm rfl),(sm rfl),(sm rfl),(sm rfl),(sm rfl),(sm rfl),tv⟩ ⟨⟨_,rfl,rfl,(.same rfl)⟩,⟨_,rfl,rfl,(.same rfl)⟩,⟨_,rfl,rfl,(.same rfl)⟩,⟨_,rfl,rfl,(.same rfl)⟩,⟨_,rfl,rfl,(.same rfl)⟩,tv⟩ rfl
          ·obtain ⟨x62,rfl⟩ : ∃ x,x = z:=⟨_,rfl⟩
           refine Tr.cond rfl (fun hb63=>?_) (fun hb63=>?_)
           ·replace h:=bT hb63 h
            refine Tr.rgn (Rn.fldP (o':=9) tv rfl rfl (Rn.loadT (cs':=[(o_ x44),(o_ x48),.own 4 (List.map Qc r38),(i_ m1.rounds_),(l_ m1.p_.zA.zJ),(i_ 0),(o_ r20),.own 3 (List.map Qa r21),(o_ r22),(l_ r51)]) tv rfl rfl rfl rfl (md rfl (Rn.bslice (xs:=[(i_ i8)]) (cs:=[(i_ i8)]) tv rfl rfl rfl rfl ?_))))
            obtain ⟨x64,h65,h⟩:=bnd h
            refine Rn.app (e:=(eI .i64)) tv rfl rfl rfl (Qb2 rfl rfl rfl) h65 rfl (Rn.fldP (o':=9) tv rfl rfl (Rn.storeO (cs':=[(o_ x44),(o_ x48),.own 4 (List.map Qc r38),(i_ m1.rounds_),(l_ m1.p_.zA.zJ),(i_ 0),(o_ r20),.own 3 (List.map Qa r21),(o_ r22),(o_ x64)]) tv rfl rfl rfl rfl rfl (Rn.nil ?_)))
            replace h:=si h; subst h
            exact Qg [136] ⟨(Q7 (ltB hM hk3)),(kPtr rfl),(kPtr rfl),(sm rfl),(sm rfl),(sm rfl),(sm rfl),(sm rfl),tv⟩ ⟨⟨_,rfl,rfl,(.same rfl)⟩,⟨_,rfl,rfl,(.same rfl)⟩,⟨_,rfl,rfl,(.same rfl)⟩,⟨_,rfl,rfl,(.same rfl)⟩,⟨_,rfl,rfl,(.same rfl)⟩,tv⟩ rfl
           ·replace h:=bF hb63 h
            refine Tr.skip ?_
            replace h:=si h; subst h
            exact Qg [] ⟨(Q7 (ltB hM hk3)),(kPtr rfl),(kPtr rfl),(sm rfl),(sm rfl),(sm rfl),(sm rfl),(sm rfl),tv⟩ ⟨⟨_,rfl,rfl,(.same rfl)⟩,⟨_,rfl,rfl,(.same rfl)⟩,⟨_,rfl,rfl,(.same rfl)⟩,⟨_,rfl,rfl,(.same rfl)⟩,⟨_,rfl,rfl,(.same rfl)⟩,tv⟩ rfl
         ·obtain ⟨r66,y67,y68,y69⟩:=z
          refine Tr.rgn (Rn.bin tv rfl rfl rfl (md rfl (Rn.nil ?_)))
          exact ⟨_,h,(by exact Qi ⟨(Q7 (ltB hM hk3)),(kPtr rfl),(kPtr rfl),(sm rfl),(sm rfl),(sm rfl),(sm rfl),(sm rfl),tv⟩ ⟨⟨_,rfl,rfl,(.same rfl)⟩,⟨_,rfl,rfl,(.same rfl)⟩,⟨_,rfl,rfl,(.same rfl)⟩,⟨_,rfl,rfl,(.same rfl)⟩,tv⟩ rfl)⟩
        ·replace h:=ifF hb53 h
         refine Tr.exit ?_
         replace h:=si h; subst h
         exact Qg [82,91] ⟨(Q7 (ltB hM hk3)),(kPtr rfl),(kPtr rfl),(sm rfl),(sm rfl),tv⟩ ⟨⟨_,rfl,rfl,(.same rfl)⟩,⟨_,rfl,rfl,(.same rfl)⟩,tv⟩ rfl
    ·obtain ⟨r70,r71,r72,r73⟩:=z
     refine Tr.rgn (md rfl (Rn.bin tv rfl rfl rfl (md rfl (Rn.nil ?_))))
     exact ⟨_,h,(by exact Qi ⟨(Q7 (ltB hM hk3)),(kPtr rfl),(kPtr rfl),(sm rfl),(sm rfl),tv⟩ ⟨⟨_,rfl,rfl,(.same rfl)⟩,⟨_,rfl,rfl,(.same rfl)⟩,tv⟩ rfl)⟩
   ·replace h:=ifF hb25 h
    refine Tr.exit ?_
    replace h:=si h; subst h
    exact Qg [] ⟨(Q7 (ltB hM hk3)),(kPtr rfl),(kPtr rfl),tv⟩ ⟨⟨_,rfl,rfl,(.same rfl)⟩,⟨_,rfl,rfl,(.same rfl)⟩,tv⟩ rfl
 ·obtain ⟨c74,c75,c76,c77,c78,c79,c80,c81,r82,r83,r84,r85,r86,r87,r88⟩:=z
  refine Tr.seq ?_
  refine Tr.cutB (fun (x94:Bool)=>⟨look [(0,.ptr k2 0),(2,.ptr (Γ.n0 + 2) 0),(3,.ptr (Γ.n0 + 3) 0),(154,(b_ x94))],Qm Γ.n0 (bxs [(2,.cells ([(o_ c74),(o_ c75),.own 4 (List.map Qc c76),(i_ 0),(o_ c77),(i_ 0),(o_ c78),.own 3 (List.map Qa c79),(o_ c80),(o_ c81)])),(3,.cells ([(o_ r82),(o_ r83),.own 4 (List.map Qc r84),(i_ m1.rounds_),(l_ m1.p_.zA.zJ),(i_ 0),(o_ r85),.own 3 (List.map Qa r86),(o_ r87),(o_ r88)]))]) M,Γ.n0 + 262⟩) h (fun z h=>?_) (fun z h=>?_)
  ·refine Tr.rgn (Rn.mov (v:=.ptr k2 0) tv rfl (Rn.nilchkP tv rfl (Rn.fldP (o':=8) tv rfl rfl (Rn.load (v:=.sl 1 k4 0 m1.rank_.length m1.rank_.length) tv rfl (Qq hM hk3) rfl rfl (Rn.lenA tv rfl (Rn.bin tv rfl rfl rfl (md rfl ?_)))))))
   refine Qbr ((m1.rank_.length:Int) == 0) (fun hb89=>?_) (fun hb89=>?_)
   ·replace h:=bT hb89 h
    refine Rn.sk (nw rfl hb89) (Rn.sk (nw rfl hb89) (Rn.sk (nw rfl hb89) (Rn.sk (nw rfl hb89) (Rn.sk (nw rfl hb89) (Rn.sk (nw rfl hb89) (Rn.sk (nw rfl hb89) (Rn.pickT (v:=(b_ true)) tv rfl hb89 rfl (Rn.nil ?_))))))))
    replace h:=si h; subst h
    exact Qg [] ⟨(Q7 (ltB hM hk3)),(kPtr rfl),(kPtr rfl),(sm rfl),tv⟩ ⟨⟨_,rfl,rfl,(.same rfl)⟩,⟨_,rfl,rfl,(.same rfl)⟩,tv⟩ rfl
   ·replace h:=bF hb89 h
    refine Rn.mov (v:=.ptr k2 0) (gw rfl hb89) rfl (Rn.nilchkP (gw rfl hb89) rfl (Rn.fldP (o':=8) (gw rfl hb89) rfl rfl (Rn.load (v:=.sl 1 k4 0 m1.rank_.length m1.rank_.length) (gw rfl hb89) rfl (Qq hM hk3) rfl rfl ?_)))
    obtain ⟨⟨⟩,h91,h⟩:=bnd h
    refine Rn.idxA (gw rfl hb89) rfl rfl h91 ?_
    obtain ⟨x92,h93,h⟩:=bnd h
    refine Rn.loadA (g:=(fun (x:Int)=>[V.d (.int .i64 x)])) (v:=(i_ x92)) (f:=0) (fun _=>rfl) (gw rfl hb89) rfl (Qq hM hk5) h93 rfl rfl (Rn.bin (gw rfl hb89) rfl rfl rfl (Rn.pickF (v:=(b_ (decide (x92 > 0)))) tv rfl hb89 rfl (Rn.nil ?_)))
    replace h:=si h; subst h
    exact Qg [] ⟨(Q7 (ltB hM hk3)),(kPtr rfl),(kPtr rfl),(sm rfl),tv⟩ ⟨⟨_,rfl,rfl,(.same rfl)⟩,⟨_,rfl,rfl,(.same rfl)⟩,tv⟩ rfl
  ·obtain ⟨x94,rfl⟩ : ∃ x,x = z:=⟨_,rfl⟩
   refine Tr.cond rfl (fun hb95=>?_) (fun hb95=>?_)
   ·replace h:=bT hb95 h
    refine sr ((Rn.load (v:=.agg [(l_ r82),(l_ r83),.d (.lst 4 (List.map Qc r84)),(i_ m1.rounds_),(l_ m1.p_.zA.zJ),(i_ 0),(l_ r85),.d (.lst 3 (List.map Qa r86)),(l_ r87),(l_ r88)]) tv rfl (Qj rfl) rfl rfl (Rn.storeT (v:=.agg [(l_ r82),(l_ r83),.d (.lst 4 (List.map Qc r84)),(i_ m1.rounds_),(l_ m1.p_.zA.zJ),(i_ 0),(l_ r85),.d (.lst 3 (List.map Qa r86)),(l_ r87),(l_ r88)]) (ds:=[(l_ r82),(l_ r83),.d (.lst 4 (List.map Qc r84)),(i_ m1.rounds_),(l_ m1.p_.zA.zJ),(i_ 0),(l_ r85),.d (.lst 3 (List.map Qa r86)),(l_ r87),(l_ r88)]) (cs':=[(l_ r82),(l_ r83),.d (.lst 4 (List.map Qc r84)),(i_ m1.rounds_),(l_ m1.p_.zA.zJ),(i_ 0),(l_ r85),.d (.lst 3 (List.map Qa r86)),(l_ r87),(l_ r88)]) tv rfl rfl rfl rfl rfl rfl rfl (nt ((Tr.ret ?_))))))
    replace h:=si h; subst h
    exact ⟨.inr rfl,(.agg [(l_ r82),(l_ r83),.d (.lst 4 (List.map Qc r84)),(i_ m1.rounds_),(l_ m1.p_.zA.zJ),(i_ 0),(l_ r85),.d (.lst 3 (List.map Qa r86)),(l_ r87),(l_ r88)]),Qif rfl rfl rfl rfl,fun _ _ _ _ h=>h,⟨tv,tv,tv,tv,tv,tv,tv,tv,tv,tv,tv⟩,fun k hk=>Qh hk⟩
   ·replace h:=bF hb95 h
    refine Tr.skip (toN (sr ((Rn.bslice (xs:=[(i_ 0)]) (cs:=[(i_ 0)]) tv rfl rfl rfl rfl (Rn.fldP (o':=8) tv rfl rfl ?_)))))
    refine Rn.weak (by show WeakSt Γ _ ⟨look ((156,.own 1 (List.map (eI .i64) [0])) :: [(0,.ptr k2 0),(2,.ptr (Γ.n0 + 2) 0),(3,.ptr (Γ.n0 + 3) 0),(154,(b_ x94)),(157,.ptr (Γ.n0 + 3) 8)] ),Qm Γ.n0 (bxs [(2,.cells ([(o_ c74),(o_ c75),.own 4 (List.map Qc c76),(i_ 0),(o_ c77),(i_ 0),(o_ c78),.own 3 (List.map Qa c79),(o_ c80),(o_ c81)])),(3,.cells ([(o_ r82),(o_ r83),.own 4 (List.map Qc r84),(i_ m1.rounds_),(l_ m1.p_.zA.zJ),(i_ 0),(o_ r85),.own 3 (List.map Qa r86),(o_ r87),(o_ r88)]))]) M,Γ.n0 + 262⟩; exact Qbib 156 156 [.int .i64 0] rfl rfl rfl rfl rfl ⟨(Q7 (ltB hM hk3)),(kPtr rfl),(kPtr rfl),(sm rfl),(kPtr rfl),tv⟩ ⟨⟨_,rfl,rfl,(.same rfl)⟩,⟨_,rfl,rfl,(.same rfl)⟩,tv⟩ rfl) ?_
    refine Rn.storeO (cs':=[(o_ r82),(o_ r83),.own 4 (List.map Qc r84),(i_ m1.rounds_),(l_ m1.p_.zA.zJ),(i_ 0),(o_ r85),.own 3 (List.map Qa r86),.own 1 (List.map (eI .i64) [0]),(o_ r88)]) tv rfl rfl rfl rfl rfl (Rn.nil (toN ?_))
    refine Tr.cutB (fun ((r150,r151,r152):(List Int)×(List Qe)×(List Int))=>⟨look [(2,.ptr (Γ.n0 + 2) 0),(3,.ptr (Γ.n0 + 3) 0)],Qm Γ.n0 (bxs [(2,.cells ([(o_ c74),(o_ c75),.own 4 (List.map Qc c76),(i_ 0),(o_ c77),(i_ 0),(o_ c78),.own 3 (List.map Qa c79),(o_ c80),(o_ c81)])),(3,.cells ([(o_ r82),(o_ r83),.own 4 (List.map Qc r84),(i_ m1.rounds_),(l_ m1.p_.zA.zJ),(i_ 0),(o_ r150),.own 3 (List.map Qa r151),(o_ r152),(o_ r88)]))]) M,Γ.n0 + 262⟩) h (fun z h=>?_) (fun z h=>?_)
    ·refine sr ((md rfl (nt ((Tr.block ?_)))))
     refine Tr.loop (mk:=fun ((i96,r97,r98,r99):Int×(List Int)×(List Qe)×(List Int))=>⟨look [(0,.ptr k2 0),(2,.ptr (Γ.n0 + 2) 0),(3,.ptr (Γ.n0 + 3) 0),(9,(i_ i96))],Qm Γ.n0 (bxs [(2,.cells ([(o_ c74),(o_ c75),.own 4 (List.map Qc c76),(i_ 0),(o_ c77),(i_ 0),(o_ c78),.own 3 (List.map Qa c79),(o_ c80),(o_ c81)])),(3,.cells ([(o_ r82),(o_ r83),.own 4 (List.map Qc r84),(i_ m1.rounds_),(l_ m1.p_.zA.zJ),(i_ 0),(o_ r97),.own 3 (List.map Qa r98),(o_ r99),(o_ r88)]))]) M,Γ.n0 + 262⟩) h (by exact Qi ⟨(Q7 (ltB hM hk3)),(kPtr rfl),(kPtr rfl),(sm rfl),tv⟩ ⟨⟨_,rfl,rfl,(.same rfl)⟩,⟨_,rfl,rfl,(.same rfl)⟩,tv⟩ rfl) (fun k100 z h=>?_)
     ·obtain ⟨i96,r97,r98,r99⟩:=z
      replace h:_ = some _:=h
      refine Tr.seq (sr ((md rfl (Rn.fldP (o':=8) tv rfl rfl (Rn.load (v:=(l_ r99)) tv rfl (Qj rfl) rfl rfl (Rn.lenD tv rfl (Rn.bin tv rfl rfl rfl (Rn.nil (toN ?_)))))))))
      refine Tr.cond rfl (fun hb101=>?_) (fun hb101=>?_)
      ·replace h:=ifT hb101 h
       refine Tr.skip (toN ?_)
       refine Tr.cutB (fun ((r147,r148,r149):(List Int)×(List Qe)×(List Int))=>⟨look [(0,.ptr k2 0),(2,.ptr (Γ.n0 + 2) 0),(3,.ptr (Γ.n0 + 3) 0),(9,(i_ i96))],Qm Γ.n0 (bxs [(2,.cells ([(o_ c74),(o_ c75),.own 4 (List.map Qc c76),(i_ 0),(o_ c77),(i_ 0),(o_ c78),.own 3 (List.map Qa c79),(o_ c80),(o_ c81)])),(3,.cells ([(o_ r82),(o_ r83),.own 4 (List.map Qc r84),(i_ m1.rounds_),(l_ m1.p_.zA.zJ),(i_ 0),(o_ r147),.own 3 (List.map Qa r148),(o_ r149),(o_ r88)]))]) M,Γ.n0 + 262⟩) h (fun z h=>?_) (fun z h=>?_)
       ·refine Tr.block ?_
        refine Tr.cutB (fun (r109:List Int)=>⟨look [(0,.ptr k2 0),(2,.ptr (Γ.n0 + 2) 0),(3,.ptr (Γ.n0 + 3) 0),(9,(i_ i96))],Qm Γ.n0 (bxs [(2,.cells ([(o_ c74),(o_ c75),.own 4 (List.map Qc c76),(i_ 0),(o_ c77),(i_ 0),(o_ c78),.own 3 (List.map Qa c79),(o_ c80),(o_ c81)])),(3,.cells ([(o_ r82),(o_ r83),.own 4 (List.map Qc r84),(i_ m1.rounds_),(l_ m1.p_.zA.zJ),(i_ 0),(o_ r109),.own 3 (List.map Qa r98),(o_ r99),(o_ r88)]))]) M,Γ.n0 + 262⟩) h (fun z h=>?_) (fun z h=>?_)
        ·refine Tr.seq ?_
         refine Tr.rgnD (by decide) ?_
         refine Rn.mov (v:=.ptr k2 0) tv rfl (Rn.nilchkP tv rfl (Rn.fldP (o':=0) tv rfl rfl (Rn.fldP (o':=0) tv rfl rfl (Rn.fldP (o':=2) tv rfl rfl (Rn.load (v:=(l_ m1.p_.zA.zK)) tv rfl (Qq hM hk3) rfl rfl (Rn.fldP (o':=8) tv rfl rfl (Rn.load (v:=(l_ r99)) tv rfl (Qj rfl) rfl rfl (md rfl ?_))))))))
         obtain ⟨x102,h103,h⟩:=bnd h
         refine Rn.idxD (e:=(eI .i64)) tv rfl rfl h103 (Rn.loadC (x:=.int .i64 x102) tv rfl ?_)
         obtain ⟨x105,h104,h⟩:=bnd h
         refine Rn.call (args:=[(l_ m1.p_.zA.zK),(i_ x102)]) tv rfl (H_overseerlaw46_has _ _ _ h104) pc0 ?_
         refine Rn.nil ⟨rfl,?_⟩
         refine toN ?_
         refine Tr.cond rfl (fun hb106=>?_) (fun hb106=>?_)
         ·replace h:=bT hb106 h
          refine Tr.rgn (Rn.fldP (o':=4) tv rfl rfl (Rn.fldP (o':=6) tv rfl rfl (Rn.loadT (cs':=[(o_ r82),(o_ r83),.own 4 (List.map Qc r84),(i_ m1.rounds_),(l_ m1.p_.zA.zJ),(i_ 0),(l_ r97),.own 3 (List.map Qa r98),(o_ r99),(o_ r88)]) tv rfl rfl rfl rfl (md rfl (Rn.bslice (xs:=[(i_ i96)]) (cs:=[(i_ i96)]) tv rfl rfl rfl rfl ?_)))))
          obtain ⟨x107,h108,h⟩:=bnd h
          refine Rn.app (e:=(eI .i64)) tv rfl rfl rfl (Qb2 rfl rfl rfl) h108 rfl (Rn.fldP (o':=4) tv rfl rfl (Rn.fldP (o':=6) tv rfl rfl (Rn.storeO (cs':=[(o_ r82),(o_ r83),.own 4 (List.map Qc r84),(i_ m1.rounds_),(l_ m1.p_.zA.zJ),(i_ 0),(o_ x107),.own 3 (List.map Qa r98),(o_ r99),(o_ r88)]) tv rfl rfl rfl rfl rfl (Rn.nil ?_))))
          replace h:=si h; subst h
          exact Qg [181] ⟨(Q7 (ltB hM hk3)),(kPtr rfl),(kPtr rfl),(sm rfl),tv⟩ ⟨⟨_,rfl,rfl,(.same rfl)⟩,⟨_,rfl,rfl,(.same rfl)⟩,tv⟩ rfl
         ·replace h:=bF hb106 h
          refine Tr.skip ?_
          replace h:=si h; subst h
          exact Qg [] ⟨(Q7 (ltB hM hk3)),(kPtr rfl),(kPtr rfl),(sm rfl),tv⟩ ⟨⟨_,rfl,rfl,(.same rfl)⟩,⟨_,rfl,rfl,(.same rfl)⟩,tv⟩ rfl
        ·obtain ⟨r109,rfl⟩ : ∃ x,x = z:=⟨_,rfl⟩
         refine sr ((Rn.mov (v:=.ptr k2 0) tv rfl (Rn.nilchkP tv rfl (Rn.fldP (o':=0) tv rfl rfl (Rn.fldP (o':=0) tv rfl rfl (Rn.fldP (o':=3) tv rfl rfl (Rn.load (v:=.d (.lst 3 (List.map Qa m1.p_.zA.zL))) tv rfl (Qq hM hk3) rfl rfl (Rn.lenD tv rfl (md rfl (nt ((Tr.block ?_))))))))))))
         refine Tr.loop (mk:=fun ((x110,r111,r112):Int×(List Qe)×(List Int))=>⟨look [(0,.ptr k2 0),(2,.ptr (Γ.n0 + 2) 0),(3,.ptr (Γ.n0 + 3) 0),(9,(i_ i96)),(190,.d (.lst 3 (List.map Qa m1.p_.zA.zL))),(191,(i_ (m1.p_.zA.zL.length:Int))),(192,(i_ x110))],Qm Γ.n0 (bxs [(2,.cells ([(o_ c74),(o_ c75),.own 4 (List.map Qc c76),(i_ 0),(o_ c77),(i_ 0),(o_ c78),.own 3 (List.map Qa c79),(o_ c80),(o_ c81)])),(3,.cells ([(o_ r82),(o_ r83),.own 4 (List.map Qc r84),(i_ m1.rounds_),(l_ m1.p_.zA.zJ),(i_ 0),(o_ r109),.own 3 (List.map Qa r111),(o_ r112),(o_ r88)]))]) M,Γ.n0 + 262⟩) h (by exact Qi ⟨(Q7 (ltB hM hk3)),(kPtr rfl),(kPtr rfl),(sm rfl),(sm rfl),(sm rfl),(sm rfl),tv⟩ ⟨⟨_,rfl,rfl,(.same rfl)⟩,⟨_,rfl,rfl,(.same rfl)⟩,tv⟩ rfl) (fun k113 z h=>?_)
         ·obtain ⟨x110,r111,r112⟩:=z
          replace h:_ = some _:=h
          refine sr ((Rn.bin tv rfl rfl rfl (nt ((Tr.seq ?_)))))
          refine Tr.cond rfl (fun hb114=>?_) (fun hb114=>?_)
          ·replace h:=ifT hb114 h
           refine Tr.skip (toN ?_)
           refine Tr.cutB (fun ((r142,r143,y144,y145,y146):(List Qe)×(List Int)×Int×Int×Int)=>⟨look [(0,.ptr k2 0),(2,.ptr (Γ.n0 + 2) 0),(3,.ptr (Γ.n0 + 3) 0),(9,(i_ i96)),(190,.d (.lst 3 (List.map Qa m1.p_.zA.zL))),(191,(i_ (m1.p_.zA.zL.length:Int))),(192,(i_ x110))],Qm Γ.n0 (bxs [(2,.cells ([(o_ c74),(o_ c75),.own 4 (List.map Qc c76),(i_ 0),(o_ c77),(i_ 0),(o_ c78),.own 3 (List.map Qa c79),(o_ c80),(o_ c81)])),(3,.cells ([(o_ r82),(o_ r83),.own 4 (List.map Qc r84),(i_ m1.rounds_),(l_ m1.p_.zA.zJ),(i_ 0),(o_ r109),.own 3 (List.map Qa r142),(o_ r143),(o_ r88)])),(11,.cells ([(i_ y144),(i_ y145),(i_ y146)]))]) M,Γ.n0 + 262⟩) h (fun z h=>?_) (fun z h=>?_)
           ·refine Tr.block (Tr.seq (Tr.rgn ?_))
            obtain ⟨x115,h116,h⟩:=bnd h
            refine Rn.idxD (e:=Qa) tv rfl rfl h116 (Rn.loadCA (vs:=(Qz x115)) tv rfl rfl rfl (Rn.alloc tv rfl (Rn.store (v:=(Qb7 x115)) (cs':=(Qz x115)) tv rfl rfl rfl rfl rfl rfl (nt ((Tr.seq ?_))))))
            refine Tr.cutB (fun (x124:Bool)=>⟨look [(0,.ptr k2 0),(2,.ptr (Γ.n0 + 2) 0),(3,.ptr (Γ.n0 + 3) 0),(9,(i_ i96)),(11,.ptr (Γ.n0 + 11) 0),(190,.d (.lst 3 (List.map Qa m1.p_.zA.zL))),(191,(i_ (m1.p_.zA.zL.length:Int))),(192,(i_ x110)),(214,(b_ x124))],Qm Γ.n0 (bxs [(2,.cells ([(o_ c74),(o_ c75),.own 4 (List.map Qc c76),(i_ 0),(o_ c77),(i_ 0),(o_ c78),.own 3 (List.map Qa c79),(o_ c80),(o_ c81)])),(3,.cells ([(o_ r82),(o_ r83),.own 4 (List.map Qc r84),(i_ m1.rounds_),(l_ m1.p_.zA.zJ),(i_ 0),(o_ r109),.own 3 (List.map Qa r111),(o_ r112),(o_ r88)])),(11,.cells ((Qz x115)))]) M,Γ.n0 + 262⟩) h (fun z h=>?_) (fun z h=>?_)
            ·refine Tr.rgnD (by decide) ?_
             refine Rn.fldP (o':=0) tv rfl rfl (Rn.load (v:=(i_ x115.From)) tv rfl (Qj rfl) rfl rfl (Rn.fldP (o':=8) tv rfl rfl (Rn.load (v:=(l_ r112)) tv rfl (Qj rfl) rfl rfl (md rfl ?_))))
             obtain ⟨x117,h118,h⟩:=bnd h
             refine Rn.idxD (e:=(eI .i64)) tv rfl rfl h118 (Rn.loadC (x:=.int .i64 x117) tv rfl (Rn.bin tv rfl rfl rfl (md rfl ?_)))
             refine Qbr (x115.From != x117) (fun hb119=>?_) (fun hb119=>?_)
             ·replace h:=bT hb119 h
              refine Rn.sk (nw rfl hb119) (Rn.sk (nw rfl hb119) (Rn.sk (nw rfl hb119) (Rn.sk (nw rfl hb119) (Rn.sk (nw rfl hb119) (Rn.sk (nw rfl hb119) (Rn.sk (nw rfl hb119) (Rn.sk (nw rfl hb119) (Rn.sk (nw rfl hb119) (Rn.pickT (v:=(b_ true)) tv rfl hb119 rfl ?_)))))))))
              refine Rn.nil ⟨rfl,?_⟩
              replace h:=si h; subst h
              exact Qg [] ⟨(Q7 (ltB hM hk3)),(kPtr rfl),(kPtr rfl),(sm rfl),(kPtr rfl),(sm rfl),(sm rfl),(sm rfl),(sm rfl),tv⟩ ⟨⟨_,rfl,rfl,(.same rfl)⟩,⟨_,rfl,rfl,(.same rfl)⟩,⟨_,rfl,rfl,(.same rfl)⟩,tv⟩ rfl
             ·replace h:=bF hb119 h
              refine Rn.mov (v:=.ptr k2 0) (gw rfl hb119) rfl (Rn.nilchkP (gw rfl hb119) rfl (Rn.fldP (o':=8) (gw rfl hb119) rfl rfl (Rn.load (v:=.sl 1 k4 0 m1.rank_.length m1.rank_.length) (gw rfl hb119) rfl (Qq hM hk3) rfl rfl (Rn.fldP (o':=2) (gw rfl hb119) rfl rfl (Rn.load (v:=(i_ x115.To)) (gw rfl hb119) rfl (Qj rfl) rfl rfl ?_)))))
              obtain ⟨⟨⟩,h121,h⟩:=bnd h
              refine Rn.idxA (gw rfl hb119) rfl rfl h121 ?_
              obtain ⟨x122,h123,h⟩:=bnd h
              refine Rn.loadA (g:=(fun (x:Int)=>[V.d (.int .i64 x)])) (v:=(i_ x122)) (f:=0) (fun _=>rfl) (gw rfl hb119) rfl (Qq hM hk5) h123 rfl rfl (Rn.bin (gw rfl hb119) rfl rfl rfl (Rn.pickF (v:=(b_ (decide (x122 > 0)))) tv rfl hb119 rfl ?_))
              refine Rn.nil ⟨rfl,?_⟩
              replace h:=si h; subst h
              exact Qg [] ⟨(Q7 (ltB hM hk3)),(kPtr rfl),(kPtr rfl),(sm rfl),(kPtr rfl),(sm rfl),(sm rfl),(sm rfl),(sm rfl),tv⟩ ⟨⟨_,rfl,rfl,(.same rfl)⟩,⟨_,rfl,rfl,(.same rfl)⟩,⟨_,rfl,rfl,(.same rfl)⟩,tv⟩ rfl
            ·obtain ⟨x124,rfl⟩ : ∃ x,x = z:=⟨_,rfl⟩
             refine Tr.cond rfl (fun hb125=>?_) (fun hb125=>?_)
             ·replace h:=bT hb125 h
              refine Tr.exit ?_
              replace h:=si h; subst h
              exact Qg [] ⟨(Q7 (ltB hM hk3)),(kPtr rfl),(kPtr rfl),(sm rfl),(sm rfl),(sm rfl),(sm rfl),tv⟩ ⟨⟨_,rfl,rfl,(.same rfl)⟩,⟨_,rfl,rfl,(.same rfl)⟩,⟨_,rfl,rfl,(.same rfl)⟩,tv⟩ rfl
             ·replace h:=bF hb125 h
              refine Tr.skip (toN (sr ((md rfl (Rn.nil (toN ?_))))))
              refine Tr.cutB (fun (to134:Int)=>⟨look [(0,.ptr k2 0),(2,.ptr (Γ.n0 + 2) 0),(3,.ptr (Γ.n0 + 3) 0),(9,(i_ i96)),(11,.ptr (Γ.n0 + 11) 0),(12,(i_ to134)),(190,.d (.lst 3 (List.map Qa m1.p_.zA.zL))),(191,(i_ (m1.p_.zA.zL.length:Int))),(192,(i_ x110))],Qm Γ.n0 (bxs [(2,.cells ([(o_ c74),(o_ c75),.own 4 (List.map Qc c76),(i_ 0),(o_ c77),(i_ 0),(o_ c78),.own 3 (List.map Qa c79),(o_ c80),(o_ c81)])),(3,.cells ([(o_ r82),(o_ r83),.own 4 (List.map Qc r84),(i_ m1.rounds_),(l_ m1.p_.zA.zJ),(i_ 0),(o_ r109),.own 3 (List.map Qa r111),(o_ r112),(o_ r88)])),(11,.cells ((Qz x115)))]) M,Γ.n0 + 262⟩) h (fun z h=>?_) (fun z h=>?_)
              ·refine sr ((md rfl (nt ((Tr.block ?_)))))
               refine Tr.loop (mk:=fun ((to126,k127):Int×Int)=>⟨look [(0,.ptr k2 0),(2,.ptr (Γ.n0 + 2) 0),(3,.ptr (Γ.n0 + 3) 0),(9,(i_ i96)),(11,.ptr (Γ.n0 + 11) 0),(12,(i_ to126)),(13,(i_ k127)),(190,.d (.lst 3 (List.map Qa m1.p_.zA.zL))),(191,(i_ (m1.p_.zA.zL.length:Int))),(192,(i_ x110))],Qm Γ.n0 (bxs [(2,.cells ([(o_ c74),(o_ c75),.own 4 (List.map Qc c76),(i_ 0),(o_ c77),(i_ 0),(o_ c78),.own 3 (List.map Qa c79),(o_ c80),(o_ c81)])),(3,.cells ([(o_ r82),(o_ r83),.own 4 (List.map Qc r84),(i_ m1.rounds_),(l_ m1.p_.zA.zJ),(i_ 0),(o_ r109),.own 3 (List.map Qa r111),(o_ r112),(o_ r88)])),(11,.cells ((Qz x115)))]) M,Γ.n0 + 262⟩) h (by exact Qi ⟨(Q7 (ltB hM hk3)),(kPtr rfl),(kPtr rfl),(sm rfl),(kPtr rfl),(sm rfl),(sm rfl),(sm rfl),(sm rfl),(sm rfl),tv⟩ ⟨⟨_,rfl,rfl,(.same rfl)⟩,⟨_,rfl,rfl,(.same rfl)⟩,⟨_,rfl,rfl,(.same rfl)⟩,tv⟩ rfl) (fun k128 z h=>?_)
               ·obtain ⟨to126,k127⟩:=z
                replace h:_ = some _:=h
                refine Tr.seq (sr ((md rfl (Rn.fldP (o':=8) tv rfl rfl (Rn.load (v:=(l_ r112)) tv rfl (Qj rfl) rfl rfl (Rn.lenD tv rfl (Rn.bin tv rfl rfl rfl (Rn.nil (toN ?_)))))))))
                refine Tr.cond rfl (fun hb129=>?_) (fun hb129=>?_)
                ·replace h:=ifT hb129 h
                 refine Tr.skip (toN ?_)
                 refine Tr.cutB (fun (to133:Int)=>⟨look [(0,.ptr k2 0),(2,.ptr (Γ.n0 + 2) 0),(3,.ptr (Γ.n0 + 3) 0),(9,(i_ i96)),(11,.ptr (Γ.n0 + 11) 0),(12,(i_ to133)),(13,(i_ k127)),(190,.d (.lst 3 (List.map Qa m1.p_.zA.zL))),(191,(i_ (m1.p_.zA.zL.length:Int))),(192,(i_ x110))],Qm Γ.n0 (bxs [(2,.cells ([(o_ c74),(o_ c75),.own 4 (List.map Qc c76),(i_ 0),(o_ c77),(i_ 0),(o_ c78),.own 3 (List.map Qa c79),(o_ c80),(o_ c81)])),(3,.cells ([(o_ r82),(o_ r83),.own 4 (List.map Qc r84),(i_ m1.rounds_),(l_ m1.p_.zA.zJ),(i_ 0),(o_ r109),.own 3 (List.map Qa r111),(o_ r112),(o_ r88)])),(11,.cells ((Qz x115)))]) M,Γ.n0 + 262⟩) h (fun z h=>?_) (fun z h=>?_)
                 ·refine Tr.block (Tr.seq ?_)
                  refine Tr.rgnD (by decide) ?_
                  refine Rn.fldP (o':=8) tv rfl rfl (Rn.load (v:=(l_ r112)) tv rfl (Qj rfl) rfl rfl (md rfl ?_))
                  obtain ⟨x130,h131,h⟩:=bnd h
                  refine Rn.idxD (e:=(eI .i64)) tv rfl rfl h131 (Rn.loadC (x:=.int .i64 x130) tv rfl (Rn.fldP (o':=2) tv rfl rfl (Rn.load (v:=(i_ x115.To)) tv rfl (Qj rfl) rfl rfl (Rn.bin tv rfl rfl rfl ?_))))
                  refine Rn.nil ⟨rfl,?_⟩
                  refine toN ?_
                  refine Tr.cond rfl (fun hb132=>?_) (fun hb132=>?_)
                  ·replace h:=bT hb132 h
                   refine Tr.rgn (md rfl (md rfl (Rn.nil ?_)))
                   replace h:=si h; subst h
                   exact Qg [] ⟨(Q7 (ltB hM hk3)),(kPtr rfl),(kPtr rfl),(sm rfl),(kPtr rfl),(sm rfl),(sm rfl),(sm rfl),(sm rfl),(sm rfl),tv⟩ ⟨⟨_,rfl,rfl,(.same rfl)⟩,⟨_,rfl,rfl,(.same rfl)⟩,⟨_,rfl,rfl,(.same rfl)⟩,tv⟩ rfl
                  ·replace h:=bF hb132 h
                   refine Tr.skip ?_
                   replace h:=si h; subst h
                   exact Qg [] ⟨(Q7 (ltB hM hk3)),(kPtr rfl),(kPtr rfl),(sm rfl),(kPtr rfl),(sm rfl),(sm rfl),(sm rfl),(sm rfl),(sm rfl),tv⟩ ⟨⟨_,rfl,rfl,(.same rfl)⟩,⟨_,rfl,rfl,(.same rfl)⟩,⟨_,rfl,rfl,(.same rfl)⟩,tv⟩ rfl
                 ·obtain ⟨to133,rfl⟩ : ∃ x,x = z:=⟨_,rfl⟩
                  refine Tr.rgn (md rfl (Rn.bin tv rfl rfl rfl (md rfl (Rn.nil ?_))))
                  exact ⟨_,h,(by exact Qi ⟨(Q7 (ltB hM hk3)),(kPtr rfl),(kPtr rfl),(sm rfl),(kPtr rfl),(sm rfl),(sm rfl),(sm rfl),(sm rfl),(sm rfl),tv⟩ ⟨⟨_,rfl,rfl,(.same rfl)⟩,⟨_,rfl,rfl,(.same rfl)⟩,⟨_,rfl,rfl,(.same rfl)⟩,tv⟩ rfl)⟩
                ·replace h:=ifF hb129 h
                 refine Tr.exit ?_
                 replace h:=si h; subst h
                 exact Qg [] ⟨(Q7 (ltB hM hk3)),(kPtr rfl),(kPtr rfl),(sm rfl),(kPtr rfl),(sm rfl),(sm rfl),(sm rfl),(sm rfl),tv⟩ ⟨⟨_,rfl,rfl,(.same rfl)⟩,⟨_,rfl,rfl,(.same rfl)⟩,⟨_,rfl,rfl,(.same rfl)⟩,tv⟩ rfl
              ·obtain ⟨to134,rfl⟩ : ∃ x,x = z:=⟨_,rfl⟩
               refine Tr.cutB (fun ((to138,r139):Int×(List Int))=>⟨look [(0,.ptr k2 0),(2,.ptr (Γ.n0 + 2) 0),(3,.ptr (Γ.n0 + 3) 0),(9,(i_ i96)),(11,.ptr (Γ.n0 + 11) 0),(12,(i_ to138)),(190,.d (.lst 3 (List.map Qa m1.p_.zA.zL))),(191,(i_ (m1.p_.zA.zL.length:Int))),(192,(i_ x110))],Qm Γ.n0 (bxs [(2,.cells ([(o_ c74),(o_ c75),.own 4 (List.map Qc c76),(i_ 0),(o_ c77),(i_ 0),(o_ c78),.own 3 (List.map Qa c79),(o_ c80),(o_ c81)])),(3,.cells ([(o_ r82),(o_ r83),.own 4 (List.map Qc r84),(i_ m1.rounds_),(l_ m1.p_.zA.zJ),(i_ 0),(o_ r109),.own 3 (List.map Qa r111),(o_ r139),(o_ r88)])),(11,.cells ((Qz x115)))]) M,Γ.n0 + 262⟩) h (fun z h=>?_) (fun z h=>?_)
               ·refine sr ((md rfl (Rn.bin tv rfl rfl rfl (Rn.nil (toN ?_)))))
                refine Tr.cond rfl (fun hb135=>?_) (fun hb135=>?_)
                ·replace h:=ifT hb135 h
                 refine Tr.rgnD (by decide) ?_
                 refine Rn.fldP (o':=8) tv rfl rfl (Rn.load (v:=(l_ r112)) tv rfl (Qj rfl) rfl rfl (Rn.lenD tv rfl (Rn.fldP (o':=8) tv rfl rfl (Rn.loadT (cs':=[(o_ r82),(o_ r83),.own 4 (List.map Qc r84),(i_ m1.rounds_),(l_ m1.p_.zA.zJ),(i_ 0),(o_ r109),.own 3 (List.map Qa r111),(l_ r112),(o_ r88)]) tv rfl rfl rfl rfl (Rn.fldP (o':=2) tv rfl rfl (Rn.load (v:=(i_ x115.To)) tv rfl (Qj rfl) rfl rfl (Rn.bslice (xs:=[(i_ x115.To)]) (cs:=[(i_ x115.To)]) tv rfl rfl rfl rfl ?_)))))))
                 obtain ⟨x136,h137,h⟩:=bnd h
                 refine Rn.app (e:=(eI .i64)) tv rfl rfl rfl (Qb2 rfl rfl rfl) h137 rfl (md rfl (Rn.fldP (o':=8) tv rfl rfl (Rn.storeO (cs':=[(o_ r82),(o_ r83),.own 4 (List.map Qc r84),(i_ m1.rounds_),(l_ m1.p_.zA.zJ),(i_ 0),(o_ r109),.own 3 (List.map Qa r111),(o_ x136),(o_ r88)]) tv rfl rfl rfl rfl rfl ?_)))
                 refine Rn.nil ⟨rfl,?_⟩
                 replace h:=si h; subst h
                 exact Qg [240] ⟨(Q7 (ltB hM hk3)),(kPtr rfl),(kPtr rfl),(sm rfl),(kPtr rfl),(sm rfl),(sm rfl),(sm rfl),(sm rfl),tv⟩ ⟨⟨_,rfl,rfl,(.same rfl)⟩,⟨_,rfl,rfl,(.same rfl)⟩,⟨_,rfl,rfl,(.same rfl)⟩,tv⟩ rfl
                ·replace h:=ifF hb135 h
                 refine Tr.skip ?_
                 replace h:=si h; subst h
                 exact Qg [] ⟨(Q7 (ltB hM hk3)),(kPtr rfl),(kPtr rfl),(sm rfl),(kPtr rfl),(sm rfl),(sm rfl),(sm rfl),(sm rfl),tv⟩ ⟨⟨_,rfl,rfl,(.same rfl)⟩,⟨_,rfl,rfl,(.same rfl)⟩,⟨_,rfl,rfl,(.same rfl)⟩,tv⟩ rfl
               ·obtain ⟨to138,r139⟩:=z
                refine Tr.rgn (Rn.fldP (o':=4) tv rfl rfl (Rn.fldP (o':=7) tv rfl rfl (Rn.loadT (cs':=[(o_ r82),(o_ r83),.own 4 (List.map Qc r84),(i_ m1.rounds_),(l_ m1.p_.zA.zJ),(i_ 0),(o_ r109),.d (.lst 3 (List.map Qa r111)),(o_ r139),(o_ r88)]) tv rfl rfl rfl rfl (md rfl (Rn.fldP (o':=1) tv rfl rfl (Rn.load (v:=(i_ x115.Event)) tv rfl (Qj rfl) rfl rfl (md rfl (Rn.build (v:=.agg [(i_ i96),(i_ x115.Event),(i_ to138)]) tv rfl (Rn.bslice (xs:=[.agg [(i_ i96),(i_ x115.Event),(i_ to138)]]) (cs:=[(i_ i96),(i_ x115.Event),(i_ to138)]) tv rfl rfl rfl rfl ?_)))))))))
                obtain ⟨x140,h141,h⟩:=bnd h
                refine Rn.app (e:=Qa) tv rfl rfl rfl (Qb2 rfl rfl rfl) h141 rfl (Rn.fldP (o':=4) tv rfl rfl (Rn.fldP (o':=7) tv rfl rfl (Rn.storeO (cs':=[(o_ r82),(o_ r83),.own 4 (List.map Qc r84),(i_ m1.rounds_),(l_ m1.p_.zA.zJ),(i_ 0),(o_ r109),.own 3 (List.map Qa x140),(o_ r139),(o_ r88)]) tv rfl rfl rfl rfl rfl (Rn.nil ?_))))
                replace h:=si h; subst h
                exact Qg [251] ⟨(Q7 (ltB hM hk3)),(kPtr rfl),(kPtr rfl),(sm rfl),(sm rfl),(sm rfl),(sm rfl),tv⟩ ⟨⟨_,rfl,rfl,(.same rfl)⟩,⟨_,rfl,rfl,(.same rfl)⟩,⟨_,rfl,rfl,(.same rfl)⟩,tv⟩ rfl
           ·obtain ⟨r142,r143,y144,y145,y146⟩:=z
            refine Tr.rgn (Rn.bin tv rfl rfl rfl (md rfl (Rn.nil ?_)))
            exact ⟨_,h,(by exact Qi ⟨(Q7 (ltB hM hk3)),(kPtr rfl),(kPtr rfl),(sm rfl),(sm rfl),(sm rfl),(sm rfl),tv⟩ ⟨⟨_,rfl,rfl,(.same rfl)⟩,⟨_,rfl,rfl,(.same rfl)⟩,tv⟩ rfl)⟩
          ·replace h:=ifF hb114 h
           refine Tr.exit ?_
           replace h:=si h; subst h
           exact Qg [] ⟨(Q7 (ltB hM hk3)),(kPtr rfl),(kPtr rfl),(sm rfl),tv⟩ ⟨⟨_,rfl,rfl,(.same rfl)⟩,⟨_,rfl,rfl,(.same rfl)⟩,tv⟩ rfl
       ·obtain ⟨r147,r148,r149⟩:=z
        refine Tr.rgn (md rfl (Rn.bin tv rfl rfl rfl (md rfl (Rn.nil ?_))))
        exact ⟨_,h,(by exact Qi ⟨(Q7 (ltB hM hk3)),(kPtr rfl),(kPtr rfl),(sm rfl),tv⟩ ⟨⟨_,rfl,rfl,(.same rfl)⟩,⟨_,rfl,rfl,(.same rfl)⟩,tv⟩ rfl)⟩
      ·replace h:=ifF hb101 h
       refine Tr.exit ?_
       replace h:=si h; subst h
       exact Qg [] ⟨(kPtr rfl),(kPtr rfl),tv⟩ ⟨⟨_,rfl,rfl,(.same rfl)⟩,⟨_,rfl,rfl,(.same rfl)⟩,tv⟩ rfl
    ·obtain ⟨r150,r151,r152⟩:=z
     refine sr ((Rn.fldP (o':=8) tv rfl rfl (Rn.load (v:=(l_ r152)) tv rfl (Qj rfl) rfl rfl (Rn.lenD tv rfl (Rn.fldP (o':=4) tv rfl rfl (Rn.fldP (o':=5) tv rfl rfl (Rn.store (v:=(i_ (r152.length:Int))) (cs':=[(o_ r82),(o_ r83),.own 4 (List.map Qc r84),(i_ m1.rounds_),(l_ m1.p_.zA.zJ),(i_ (r152.length:Int)),(o_ r150),.own 3 (List.map Qa r151),(o_ r152),(o_ r88)]) tv rfl rfl rfl rfl rfl rfl (nt ((sr ((Rn.load (v:=.agg [(l_ r82),(l_ r83),.d (.lst 4 (List.map Qc r84)),(i_ m1.rounds_),(l_ m1.p_.zA.zJ),(i_ (r152.length:Int)),(l_ r150),.d (.lst 3 (List.map Qa r151)),(l_ r152),(l_ r88)]) tv rfl (Qj rfl) rfl rfl (Rn.storeT (v:=.agg [(l_ r82),(l_ r83),.d (.lst 4 (List.map Qc r84)),(i_ m1.rounds_),(l_ m1.p_.zA.zJ),(i_ (r152.length:Int)),(l_ r150),.d (.lst 3 (List.map Qa r151)),(l_ r152),(l_ r88)]) (ds:=[(l_ r82),(l_ r83),.d (.lst 4 (List.map Qc r84)),(i_ m1.rounds_),(l_ m1.p_.zA.zJ),(i_ (r152.length:Int)),(l_ r150),.d (.lst 3 (List.map Qa r151)),(l_ r152),(l_ r88)]) (cs':=[(l_ r82),(l_ r83),.d (.lst 4 (List.map Qc r84)),(i_ m1.rounds_),(l_ m1.p_.zA.zJ),(i_ (r152.length:Int)),(l_ r150),.d (.lst 3 (List.map Qa r151)),(l_ r152),(l_ r88)]) tv rfl rfl rfl rfl rfl rfl rfl (nt ((Tr.ret ?_))))))))))))))))
     replace h:=si h; subst h
     exact ⟨.inr rfl,(.agg [(l_ r82),(l_ r83),.d (.lst 4 (List.map Qc r84)),(i_ m1.rounds_),(l_ m1.p_.zA.zJ),(i_ (r152.length:Int)),(l_ r150),.d (.lst 3 (List.map Qa r151)),(l_ r152),(l_ r88)]),Qif rfl rfl rfl rfl,fun _ _ _ _ h=>h,⟨tv,tv,tv,tv,tv,tv,tv,tv,tv,tv,tv⟩,fun k hk=>Qh hk⟩
theorem Qzq {P:Program} {c:Nat} {Qbx:(List Int)→(List Int)→Option Bool}
    (H_word_Equal:Qow P 16 Qbx) (hcf:Qy P c = some Qio) (fuel:Nat):Qin P c (Qcl Qbx fuel):=by
 intro a1 b2 r h
 refine Qek hcf rfl fun Γ M hP hnt hM=>?_
 subst hP
 refine Tr.init [(0,(Qcx a1)),(1,(Qcx b2))] rfl ?_
 unfold Qcl at h
 unfold Qio
 refine sr ((Rn.box (v:=(Qcx a1)) (cs:=(Qd3 a1)) tv rfl rfl rfl rfl rfl (Rn.box (v:=(Qcx b2)) (cs:=(Qd3 b2)) tv rfl rfl rfl rfl rfl (md rfl (nt ((Tr.seq ?_)))))))
 refine Tr.cutB (fun (x9:Bool)=>⟨look [(2,.ptr (Γ.n0 + 2) 0),(3,.ptr (Γ.n0 + 3) 0),(28,(b_ x9))],Qm Γ.n0 (bxs [(2,.cells ((Qd3 a1))),(3,.cells ((Qd3 b2)))]) M,Γ.n0 + 47⟩) h (fun z h=>?_) (fun z h=>?_)
 ·refine Tr.rgn (Rn.fldP (o':=0) tv rfl rfl (Rn.load (v:=(l_ a1.Kept)) tv rfl (Qj rfl) rfl rfl (Rn.fldP (o':=0) tv rfl rfl (Rn.load (v:=(l_ b2.Kept)) tv rfl (Qj rfl) rfl rfl ?_))))
  obtain ⟨x4,h3,h⟩:=bnd h
  refine Rn.call (args:=[(l_ a1.Kept),(l_ b2.Kept)]) tv rfl (H_word_Equal _ _ _ h3) pc9 (Rn.un tv rfl rfl (md rfl ?_))
  refine Qbr x4 (fun hb5=>?_) (fun hb5=>?_)
  ·replace h:=bT hb5 h
   refine Rn.fldP (o':=1) (gw rfl (nT hb5)) rfl rfl (Rn.load (v:=(l_ a1.zF)) (gw rfl (nT hb5)) rfl (Qj rfl) rfl rfl (Rn.fldP (o':=1) (gw rfl (nT hb5)) rfl rfl (Rn.load (v:=(l_ b2.zF)) (gw rfl (nT hb5)) rfl (Qj rfl) rfl rfl ?_)))
   obtain ⟨x7,h6,h⟩:=bnd h
   refine Rn.call (args:=[(l_ a1.zF),(l_ b2.zF)]) (gw rfl (nT hb5)) rfl (H_word_Equal _ _ _ h6) pc9 (Rn.un (gw rfl (nT hb5)) rfl rfl (Rn.pickF (v:=(b_ (!x7))) tv rfl (nT hb5) rfl (md rfl ?_)))
   refine Qbr x7 (fun hb8=>?_) (fun hb8=>?_)
   ·replace h:=bT hb8 h
    refine Rn.fldP (o':=2) (gw rfl (nT hb8)) rfl rfl (Rn.load (v:=.d (.lst 4 (List.map Qc a1.zG))) (gw rfl (nT hb8)) rfl (Qj rfl) rfl rfl (Rn.lenD (gw rfl (nT hb8)) rfl (Rn.fldP (o':=2) (gw rfl (nT hb8)) rfl rfl (Rn.load (v:=.d (.lst 4 (List.map Qc b2.zG))) (gw rfl (nT hb8)) rfl (Qj rfl) rfl rfl (Rn.lenD (gw rfl (nT hb8)) rfl (Rn.bin (gw rfl (nT hb8)) rfl rfl rfl (Rn.pickF (v:=(b_ ((a1.zG.length:Int) != (b2.zG.length:Int)))) tv rfl (nT hb8) rfl (Rn.nil ?_))))))))
    replace h:=si h; subst h
    exact Qg [] ⟨(kPtr rfl),(kPtr rfl),(sm rfl),tv⟩ ⟨⟨_,rfl,rfl,(.same rfl)⟩,⟨_,rfl,rfl,(.same rfl)⟩,tv⟩ rfl
   ·replace h:=bF hb8 h
    refine Rn.sk (nw rfl (nF hb8)) (Rn.sk (nw rfl (nF hb8)) (Rn.sk (nw rfl (nF hb8)) (Rn.sk (nw rfl (nF hb8)) (Rn.sk (nw rfl (nF hb8)) (Rn.sk (nw rfl (nF hb8)) (Rn.sk (nw rfl (nF hb8)) (Rn.pickT (v:=(b_ true)) tv rfl (nF hb8) rfl (Rn.nil ?_))))))))
    replace h:=si h; subst h
    exact Qg [] ⟨(kPtr rfl),(kPtr rfl),(sm rfl),tv⟩ ⟨⟨_,rfl,rfl,(.same rfl)⟩,⟨_,rfl,rfl,(.same rfl)⟩,tv⟩ rfl
  ·replace h:=bF hb5 h
   refine Rn.sk (nw rfl (nF hb5)) (Rn.sk (nw rfl (nF hb5)) (Rn.sk (nw rfl (nF hb5)) (Rn.sk (nw rfl (nF hb5)) (Rn.sk (nw rfl (nF hb5)) (Rn.sk (nw rfl (nF hb5)) (Rn.pickT (v:=(b_ true)) tv rfl (nF hb5) rfl (md rfl (Rn.sk (nw (b:=true) rfl rfl) (Rn.sk (nw (b:=true) rfl rfl) (Rn.sk (nw (b:=true) rfl rfl) (Rn.sk (nw (b:=true) rfl rfl) (Rn.sk (nw (b:=true) rfl rfl) (Rn.sk (nw (b:=true) rfl rfl) (Rn.sk (nw (b:=true) rfl rfl) (Rn.pickT (v:=(b_ true)) tv rfl rfl rfl (Rn.nil ?_))))))))))))))))
   replace h:=si h; subst h
   exact Qg [] ⟨(kPtr rfl),(kPtr rfl),(sm rfl),tv⟩ ⟨⟨_,rfl,rfl,(.same rfl)⟩,⟨_,rfl,rfl,(.same rfl)⟩,tv⟩ rfl
 ·obtain ⟨x9,rfl⟩ : ∃ x,x = z:=⟨_,rfl⟩
  refine Tr.cond rfl (fun hb10=>?_) (fun hb10=>?_)
  ·replace h:=bT hb10 h
   refine sr ((md rfl (nt ((Tr.ret ?_)))))
   replace h:=si h; subst h
   exact ⟨.inr rfl,(b_ false),rfl,fun _ _ _ _ h=>h,tv,fun k hk=>Qh hk⟩
  ·replace h:=bF hb10 h
   refine Tr.skip (toN (Tr.seq (sr ((md rfl (nt ((Tr.block ?_))))))))
   refine Tr.loop (mk:=fun (i11:Int)=>⟨look [(2,.ptr (Γ.n0 + 2) 0),(3,.ptr (Γ.n0 + 3) 0),(5,(i_ i11))],Qm Γ.n0 (bxs [(2,.cells ((Qd3 a1))),(3,.cells ((Qd3 b2)))]) M,Γ.n0 + 47⟩) h (by exact Qi ⟨(kPtr rfl),(kPtr rfl),(sm rfl),tv⟩ ⟨⟨_,rfl,rfl,(.same rfl)⟩,⟨_,rfl,rfl,(.same rfl)⟩,tv⟩ rfl) (fun k12 z h=>?_)
   ·obtain ⟨i11,rfl⟩ : ∃ x,x = z:=⟨_,rfl⟩
    replace h:_ = some _:=h
    refine Tr.seq (sr ((md rfl (Rn.fldP (o':=2) tv rfl rfl (Rn.load (v:=.d (.lst 4 (List.map Qc a1.zG))) tv rfl (Qj rfl) rfl rfl (Rn.lenD tv rfl (Rn.bin tv rfl rfl rfl (Rn.nil (toN ?_)))))))))
    refine Tr.cond rfl (fun hb13=>?_) (fun hb13=>?_)
    ·replace h:=ifT hb13 h
     refine Tr.skip (toN (Tr.seq (Tr.block (Tr.seq ?_))))
     refine Tr.rgnD (by decide) ?_
     refine Rn.fldP (o':=2) tv rfl rfl (Rn.load (v:=.d (.lst 4 (List.map Qc a1.zG))) tv rfl (Qj rfl) rfl rfl (md rfl ?_))
     obtain ⟨x14,h15,h⟩:=bnd h
     refine Rn.idxD (e:=Qc) tv rfl rfl h15 (Rn.loadCA (vs:=(Qev x14)) tv rfl rfl rfl (Rn.fldP (o':=2) tv rfl rfl (Rn.load (v:=.d (.lst 4 (List.map Qc b2.zG))) tv rfl (Qj rfl) rfl rfl (md rfl ?_))))
     obtain ⟨x16,h17,h⟩:=bnd h
     refine Rn.idxD (e:=Qc) tv rfl rfl h17 (Rn.loadCA (vs:=(Qev x16)) tv rfl rfl rfl (Rn.eqa (r:=((x14.State == x16.State) && ((x14.Rank == x16.Rank) && ((x14.Reason == x16.Reason) && ((x14.Event == x16.Event) && true))))) tv rfl rfl rfl ?_))
     refine Rn.nil ⟨rfl,?_⟩
     refine toN ?_
     refine Tr.cond rfl (fun hb18=>?_) (fun hb18=>?_)
     ·have hb18:=nT' hb18
      replace h:=bF hb18 h
      refine sr ((md rfl (nt ((Tr.ret ?_)))))
      replace h:=si h; subst h
      exact ⟨.inr rfl,(b_ false),rfl,fun _ _ _ _ h=>h,tv,fun k hk=>Qh hk⟩
     ·have hb18:=nF' hb18
      replace h:=bT hb18 h
      refine Tr.skip (toN (Tr.rgn (md rfl (Rn.bin tv rfl rfl rfl (md rfl (Rn.nil ?_))))))
      exact ⟨_,h,(by exact Qi ⟨(kPtr rfl),(kPtr rfl),(sm rfl),tv⟩ ⟨⟨_,rfl,rfl,(.same rfl)⟩,⟨_,rfl,rfl,(.same rfl)⟩,tv⟩ rfl)⟩
    ·replace h:=ifF hb13 h
     refine Tr.exit (toN (sr ((md rfl (nt ((Tr.ret ?_)))))))
     replace h:=si h; subst h
     exact ⟨.inr rfl,(b_ true),rfl,fun _ _ _ _ h=>h,tv,fun k hk=>Qh hk⟩
theorem Q1h {P:Program} {c:Nat} (hcf:Qy P c = some Qjm) (fuel:Nat):Qjl P c (Qcv fuel):=by
 intro s1 s2 r h
 refine Qek hcf rfl fun Γ M hP hnt hM=>?_
 subst hP
 refine Tr.init [(0,.d (.lst 3 (List.map Qa s1))),(1,.d (.lst 3 (List.map Qa s2)))] rfl ?_
 unfold Qcv at h
 unfold Qjm
 refine sr ((md rfl (nt ((Tr.seq (sr ((md rfl (Rn.lenD tv rfl (md rfl (Rn.lenD tv rfl (Rn.bin tv rfl rfl rfl (Rn.nil (toN ?_))))))))))))))
 refine Tr.cond rfl (fun hb3=>?_) (fun hb3=>?_)
 ·replace h:=bT hb3 h
  refine sr ((md rfl (nt ((Tr.ret ?_)))))
  replace h:=si h; subst h
  exact ⟨.inr rfl,(b_ false),rfl,fun _ _ _ _ h=>h,tv,fun k hk=>Qh hk⟩
 ·replace h:=bF hb3 h
  refine Tr.skip (toN (Tr.seq (sr ((md rfl (Rn.lenD tv rfl (md rfl (nt ((Tr.block ?_))))))))))
  refine Tr.loop (mk:=fun (x4:Int)=>⟨look [(0,.d (.lst 3 (List.map Qa s1))),(1,.d (.lst 3 (List.map Qa s2))),(12,(i_ (s1.length:Int))),(13,(i_ x4))],Qm Γ.n0 (bxs []) M,Γ.n0 + 26⟩) h (by exact Qi ⟨(sm rfl),(sm rfl),(sm rfl),(sm rfl),tv⟩ tv rfl) (fun k5 z h=>?_)
  ·obtain ⟨x4,rfl⟩ : ∃ x,x = z:=⟨_,rfl⟩
   replace h:_ = some _:=h
   refine sr ((Rn.bin tv rfl rfl rfl (nt ((Tr.seq ?_)))))
   refine Tr.cond rfl (fun hb6=>?_) (fun hb6=>?_)
   ·replace h:=ifT hb6 h
    refine Tr.skip (toN (Tr.seq (Tr.block (sr ((md rfl (md rfl (nt ((Tr.seq ?_))))))))))
    refine Tr.rgnD (by decide) ?_
    refine md rfl (md rfl ?_)
    obtain ⟨x7,h8,h⟩:=bnd h
    refine Rn.idxD (e:=Qa) tv rfl rfl h8 (Rn.loadCA (vs:=(Qz x7)) tv rfl rfl rfl (md rfl (md rfl ?_)))
    obtain ⟨x9,h10,h⟩:=bnd h
    refine Rn.idxD (e:=Qa) tv rfl rfl h10 (Rn.loadCA (vs:=(Qz x9)) tv rfl rfl rfl (Rn.eqa (r:=((x7.From == x9.From) && ((x7.Event == x9.Event) && ((x7.To == x9.To) && true)))) tv rfl rfl rfl ?_))
    refine Rn.nil ⟨rfl,?_⟩
    refine toN ?_
    refine Tr.cond rfl (fun hb11=>?_) (fun hb11=>?_)
    ·have hb11:=nT' hb11
     replace h:=bF hb11 h
     refine sr ((md rfl (nt ((Tr.ret ?_)))))
     replace h:=si h; subst h
     exact ⟨.inr rfl,(b_ false),rfl,fun _ _ _ _ h=>h,tv,fun k hk=>Qh hk⟩
    ·have hb11:=nF' hb11
     replace h:=bT hb11 h
     refine Tr.skip (toN (Tr.rgn (Rn.bin tv rfl rfl rfl (md rfl (Rn.nil ?_)))))
     exact ⟨_,h,(by exact Qi ⟨(sm rfl),(sm rfl),(sm rfl),(sm rfl),tv⟩ tv rfl)⟩
   ·replace h:=ifF hb6 h
    refine Tr.exit (toN (sr ((md rfl (nt ((Tr.ret ?_)))))))
    replace h:=si h; subst h
    exact ⟨.inr rfl,(b_ true),rfl,fun _ _ _ _ h=>h,tv,fun k hk=>Qh hk⟩
theorem Q45 {P:Program} {c:Nat} {Qbl:(List Int)→(List Int)→Option Bool} {Qcv:(List Qe)→(List Qe)→Option Bool}
    (H_slices_Equal_int:Qha P 45 Qbl)
    (H_slices_Equal_Edge:Qjl P 46 Qcv) (hcf:Qy P c = some Qm4):Qm3 P c (Qdc Qbl Qcv):=by
 intro a1 b2 r h
 refine Qek hcf rfl fun Γ M hP hnt hM=>?_
 subst hP
 refine Tr.init [(0,(Qk a1)),(1,(Qk b2))] rfl ?_
 unfold Qdc at h
 unfold Qm4
 refine sr ((Rn.box (v:=(Qk a1)) (cs:=(Qs a1)) tv rfl rfl rfl rfl rfl (Rn.box (v:=(Qk b2)) (cs:=(Qs b2)) tv rfl rfl rfl rfl rfl (md rfl (nt ((sr ((Rn.fldP (o':=1) tv rfl rfl (Rn.load (v:=(i_ a1.zM)) tv rfl (Qj rfl) rfl rfl (Rn.fldP (o':=1) tv rfl rfl (Rn.load (v:=(i_ b2.zM)) tv rfl (Qj rfl) rfl rfl (Rn.bin tv rfl rfl rfl (md rfl ?_))))))))))))))
 refine Qbr (a1.zM == b2.zM) (fun hb3=>?_) (fun hb3=>?_)
 ·replace h:=bT hb3 h
  refine Rn.fldP (o':=0) (gw rfl hb3) rfl rfl (Rn.load (v:=(l_ a1.zJ)) (gw rfl hb3) rfl (Qj rfl) rfl rfl (Rn.fldP (o':=0) (gw rfl hb3) rfl rfl (Rn.load (v:=(l_ b2.zJ)) (gw rfl hb3) rfl (Qj rfl) rfl rfl ?_)))
  obtain ⟨x5,h4,h⟩:=bnd h
  refine Rn.call (args:=[(l_ a1.zJ),(l_ b2.zJ)]) (gw rfl hb3) rfl (H_slices_Equal_int _ _ _ h4) pc9 (Rn.pickT (v:=(b_ x5)) tv rfl hb3 rfl (md rfl ?_))
  refine Qbr x5 (fun hb6=>?_) (fun hb6=>?_)
  ·replace h:=bT hb6 h
   refine Rn.fldP (o':=2) (gw rfl hb6) rfl rfl (Rn.load (v:=(l_ a1.zK)) (gw rfl hb6) rfl (Qj rfl) rfl rfl (Rn.fldP (o':=2) (gw rfl hb6) rfl rfl (Rn.load (v:=(l_ b2.zK)) (gw rfl hb6) rfl (Qj rfl) rfl rfl ?_)))
   obtain ⟨x8,h7,h⟩:=bnd h
   refine Rn.call (args:=[(l_ a1.zK),(l_ b2.zK)]) (gw rfl hb6) rfl (H_slices_Equal_int _ _ _ h7) pc9 (Rn.pickT (v:=(b_ x8)) tv rfl hb6 rfl (md rfl ?_))
   refine Qbr x8 (fun hb9=>?_) (fun hb9=>?_)
   ·replace h:=bT hb9 h
    refine Rn.fldP (o':=3) (gw rfl hb9) rfl rfl (Rn.load (v:=.d (.lst 3 (List.map Qa a1.zL))) (gw rfl hb9) rfl (Qj rfl) rfl rfl (Rn.fldP (o':=3) (gw rfl hb9) rfl rfl (Rn.load (v:=.d (.lst 3 (List.map Qa b2.zL))) (gw rfl hb9) rfl (Qj rfl) rfl rfl ?_)))
    obtain ⟨x11,h10,h⟩:=bnd h
    refine Rn.call (args:=[.d (.lst 3 (List.map Qa a1.zL)),.d (.lst 3 (List.map Qa b2.zL))]) (gw rfl hb9) rfl (H_slices_Equal_Edge _ _ _ h10) pc9 (Rn.pickT (v:=(b_ x11)) tv rfl hb9 rfl (md rfl (nt ((Tr.ret ?_)))))
    replace h:=si h; subst h
    exact ⟨.inr rfl,(b_ x11),rfl,fun _ _ _ _ h=>h,tv,fun k hk=>Qh hk⟩
   ·replace h:=bF hb9 h
    refine Rn.sk (nw rfl hb9) (Rn.sk (nw rfl hb9) (Rn.sk (nw rfl hb9) (Rn.sk (nw rfl hb9) (Rn.sk (nw rfl hb9) (Rn.pickF (v:=(b_ false)) tv rfl hb9 rfl (md rfl (nt ((Tr.ret ?_)))))))))
    replace h:=si h; subst h
    exact ⟨.inr rfl,(b_ false),rfl,fun _ _ _ _ h=>h,tv,fun k hk=>Qh hk⟩
  ·replace h:=bF hb6 h
   refine Rn.sk (nw rfl hb6) (Rn.sk (nw rfl hb6) (Rn.sk (nw rfl hb6) (Rn.sk (nw rfl hb6) (Rn.sk (nw rfl hb6) (Rn.pickF (v:=(b_ false)) tv rfl hb6 rfl (md rfl (Rn.sk (nw (b:=false) rfl rfl) (Rn.sk (nw (b:=false) rfl rfl) (Rn.sk (nw (b:=false) rfl rfl) (Rn.sk (nw (b:=false) rfl rfl) (Rn.sk (nw (b:=false) rfl rfl) (Rn.pickF (v:=(b_ false)) tv rfl rfl rfl (md rfl (nt ((Tr.ret ?_))))))))))))))))
   replace h:=si h; subst h
   exact ⟨.inr rfl,(b_ false),rfl,fun _ _ _ _ h=>h,tv,fun k hk=>Qh hk⟩
 ·replace h:=bF hb3 h
  refine Rn.sk (nw rfl hb3) (Rn.sk (nw rfl hb3) (Rn.sk (nw rfl hb3) (Rn.sk (nw rfl hb3) (Rn.sk (nw rfl hb3) (Rn.pickF (v:=(b_ false)) tv rfl hb3 rfl (md rfl (Rn.sk (nw (b:=false) rfl rfl) (Rn.sk (nw (b:=false) rfl rfl) (Rn.sk (nw (b:=false) rfl rfl) (Rn.sk (nw (b:=false) rfl rfl) (Rn.sk (nw (b:=false) rfl rfl) (Rn.pickF (v:=(b_ false)) tv rfl rfl rfl (md rfl (Rn.sk (nw (b:=false) rfl rfl) (Rn.sk (nw (b:=false) rfl rfl) (Rn.sk (nw (b:=false) rfl rfl) (Rn.sk (nw (b:=false) rfl rfl) (Rn.sk (nw (b:=false) rfl rfl) (Rn.pickF (v:=(b_ false)) tv rfl rfl rfl (md rfl (nt ((Tr.ret ?_)))))))))))))))))))))))
  replace h:=si h; subst h
  exact ⟨.inr rfl,(b_ false),rfl,fun _ _ _ _ h=>h,tv,fun k hk=>Qh hk⟩
theorem Qhv {P:Program} {c:Nat} {Qcs:Option Bool} {Qck:Q4→Option Qb} {Qw:Qb→Option (Q0×Int)} {Qcd:Qb→Option Qn} {Qbi:Qn→Option Q0} {Qcl:Qbs→Qbs→Option Bool} {Qdc:Qf→Qf→Option Bool} {Qbx:(List Int)→(List Int)→Option Bool}
    (H_overseerlaw46_known:Qhm P 9 Qcs)
    (H_overseerlaw46_Make:Qil P 10 Qck)
    (H_timedsynthesis_Synthesize:Qdu P 11 Qw)
    (H_overseerlaw46_solve:Qht P 12 Qcd)
    (H_overseerlaw46_model_result:Qe2 P 13 Qbi)
    (H_overseerlaw46_same:Qin P 14 Qcl)
    (H_automaton_Equal:Qm3 P 15 Qdc)
    (H_word_Equal:Qow P 16 Qbx) (hcf:Qy P c = some Qdi):Qe6 P c (Qcr Qcs Qck Qw Qcd Qbi Qcl Qdc Qbx):=by
 intro k1 r h
 refine Qek hcf rfl fun Γ M hP hnt hM=>?_
 subst hP
 refine Tr.init [(0,.agg [.d (.int .u8 k1.Part.Events),.d (.int .u8 k1.Part.Graph.zM),.d (.int .u8 k1.Part.Graph.Marks),.d (.int .u8 k1.Part.Graph.To.1.1),.d (.int .u8 k1.Part.Graph.To.1.2.1),.d (.int .u8 k1.Part.Graph.To.1.2.2.1),.d (.int .u8 k1.Part.Graph.To.1.2.2.2.1),.d (.int .u8 k1.Part.Graph.To.1.2.2.2.2),.d (.int .u8 k1.Part.Graph.To.2.1.1),.d (.int .u8 k1.Part.Graph.To.2.1.2.1),.d (.int .u8 k1.Part.Graph.To.2.1.2.2.1),.d (.int .u8 k1.Part.Graph.To.2.1.2.2.2.1),.d (.int .u8 k1.Part.Graph.To.2.1.2.2.2.2),.d (.int .u8 k1.Part.Graph.To.2.2.1.1),.d (.int .u8 k1.Part.Graph.To.2.2.1.2.1),.d (.int .u8 k1.Part.Graph.To.2.2.1.2.2.1),.d (.int .u8 k1.Part.Graph.To.2.2.1.2.2.2.1),.d (.int .u8 k1.Part.Graph.To.2.2.1.2.2.2.2),.d (.int .u8 k1.Part.Graph.To.2.2.2.1.1),.d (.int .u8 k1.Part.Graph.To.2.2.2.1.2.1),.d (.int .u8 k1.Part.Graph.To.2.2.2.1.2.2.1),.d (.int .u8 k1.Part.Graph.To.2.2.2.1.2.2.2.1),.d (.int .u8 k1.Part.Graph.To.2.2.2.1.2.2.2.2),.d (.int .u8 k1.Part.Graph.To.2.2.2.2.1),.d (.int .u8 k1.Part.Graph.To.2.2.2.2.2.1),.d (.int .u8 k1.Part.Graph.To.2.2.2.2.2.2.1),.d (.int .u8 k1.Part.Graph.To.2.2.2.2.2.2.2.1),.d (.int .u8 k1.Part.Graph.To.2.2.2.2.2.2.2.2),.d (.int .u8 k1.zC),.d (.int .u8 k1.zB),.d (.int .u8 k1.zD)])] rfl ?_
 unfold Qcr at h
 unfold Qdi
 refine sr ((Rn.box (v:=.agg [.d (.int .u8 k1.Part.Events),.d (.int .u8 k1.Part.Graph.zM),.d (.int .u8 k1.Part.Graph.Marks),.d (.int .u8 k1.Part.Graph.To.1.1),.d (.int .u8 k1.Part.Graph.To.1.2.1),.d (.int .u8 k1.Part.Graph.To.1.2.2.1),.d (.int .u8 k1.Part.Graph.To.1.2.2.2.1),.d (.int .u8 k1.Part.Graph.To.1.2.2.2.2),.d (.int .u8 k1.Part.Graph.To.2.1.1),.d (.int .u8 k1.Part.Graph.To.2.1.2.1),.d (.int .u8 k1.Part.Graph.To.2.1.2.2.1),.d (.int .u8 k1.Part.Graph.To.2.1.2.2.2.1),.d (.int .u8 k1.Part.Graph.To.2.1.2.2.2.2),.d (.int .u8 k1.Part.Graph.To.2.2.1.1),.d (.int .u8 k1.Part.Graph.To.2.2.1.2.1),.d (.int .u8 k1.Part.Graph.To.2.2.1.2.2.1),.d (.int .u8 k1.Part.Graph.To.2.2.1.2.2.2.1),.d (.int .u8 k1.Part.Graph.To.2.2.1.2.2.2.2),.d (.int .u8 k1.Part.Graph.To.2.2.2.1.1),.d (.int .u8 k1.Part.Graph.To.2.2.2.1.2.1),.d (.int .u8 k1.Part.Graph.To.2.2.2.1.2.2.1),.d (.int .u8 k1.Part.Graph.To.2.2.2.1.2.2.2.1),.d (.int .u8 k1.Part.Graph.To.2.2.2.1.2.2.2.2),.d (.int .u8 k1.Part.Graph.To.2.2.2.2.1),.d (.int .u8 k1.Part.Graph.To.2.2.2.2.2.1),.d (.int .u8 k1.Part.Graph.To.2.2.2.2.2.2.1),.d (.int .u8 k1.Part.Graph.To.2.2.2.2.2.2.2.1),.d (.int .u8 k1.Part.Graph.To.2.2.2.2.2.2.2.2),.d (.int .u8 k1.zC),.d (.int .u8 k1.zB),.d (.int .u8 k1.zD)]) (cs:=[.d (.int .u8 k1.Part.Events),.d (.int .u8 k1.Part.Graph.zM),.d (.int .u8 k1.Part.Graph.Marks),.d (.int .u8 k1.Part.Graph.To.1.1),.d (.int .u8 k1.Part.Graph.To.1.2.1),.d (.int .u8 k1.Part.Graph.To.1.2.2.1),.d (.int .u8 k1.Part.Graph.To.1.2.2.2.1),.d (.int .u8 k1.Part.Graph.To.1.2.2.2.2),.d (.int .u8 k1.Part.Graph.To.2.1.1),.d (.int .u8 k1.Part.Graph.To.2.1.2.1),.d (.int .u8 k1.Part.Graph.To.2.1.2.2.1),.d (.int .u8 k1.Part.Graph.To.2.1.2.2.2.1),.d (.int .u8 k1.Part.Graph.To.2.1.2.2.2.2),.d (.int .u8 k1.Part.Graph.To.2.2.1.1),.d (.int .u8 k1.Part.Graph.To.2.2.1.2.1),.d (.int .u8 k1.Part.Graph.To.2.2.1.2.2.1),.d (.int .u8 k1.Part.Graph.To.2.2.1.2.2.2.1),.d (.int .u8 k1.Part.Graph.To.2.2.1.2.2.2.2),.d (.int .u8 k1.Part.Graph.To.2.2.2.1.1),.d (.int .u8 k1.Part.Graph.To.2.2.2.1.2.1),.d (.int .u8 k1.Part.Graph.To.2.2.2.1.2.2.1),.d (.int .u8 k1.Part.Graph.To.2.2.2.1.2.2.2.1),.d (.int .u8 k1.Part.Graph.To.2.2.2.1.2.2.2.2),.d (.int .u8 k1.Part.Graph.To.2.2.2.2.1),.d (.int .u8 k1.Part.Graph.To.2.2.2.2.2.1),.d (.int .u8 k1.Part.Graph.To.2.2.2.2.2.2.1),.d (.int .u8 k1.Part.Graph.To.2.2.2.2.2.2.2.1),.d (.int .u8 k1.Part.Graph.To.2.2.2.2.2.2.2.2),.d (.int .u8 k1.zC),.d (.int .u8 k1.zB),.d (.int .u8 k1.zD)]) tv rfl rfl rfl rfl rfl (md rfl (nt ((Tr.seq (Tr.seq (Tr.rgn ?_))))))))
 obtain ⟨x3,h2,h⟩:=bnd h
 refine Rn.call (args:=[]) tv rfl (H_overseerlaw46_known _ h2) pc9 (Rn.un tv rfl rfl (Rn.nil (toN ?_)))
 refine Tr.cond rfl (fun hb4=>?_) (fun hb4=>?_)
 ·have hb4:=nT' hb4
  replace h:=bF hb4 h
  refine sr ((md rfl (nt ((Tr.ret ?_)))))
  replace h:=si h; subst h
  exact ⟨.inr rfl,(b_ false),rfl,fun _ _ _ _ h=>h,tv,fun k hk=>Qh hk⟩
 ·have hb4:=nF' hb4
  replace h:=bT hb4 h
  refine Tr.skip (toN (sr ((Rn.load (v:=.agg [.d (.int .u8 k1.Part.Events),.d (.int .u8 k1.Part.Graph.zM),.d (.int .u8 k1.Part.Graph.Marks),.d (.int .u8 k1.Part.Graph.To.1.1),.d (.int .u8 k1.Part.Graph.To.1.2.1),.d (.int .u8 k1.Part.Graph.To.1.2.2.1),.d (.int .u8 k1.Part.Graph.To.1.2.2.2.1),.d (.int .u8 k1.Part.Graph.To.1.2.2.2.2),.d (.int .u8 k1.Part.Graph.To.2.1.1),.d (.int .u8 k1.Part.Graph.To.2.1.2.1),.d (.int .u8 k1.Part.Graph.To.2.1.2.2.1),.d (.int .u8 k1.Part.Graph.To.2.1.2.2.2.1),.d (.int .u8 k1.Part.Graph.To.2.1.2.2.2.2),.d (.int .u8 k1.Part.Graph.To.2.2.1.1),.d (.int .u8 k1.Part.Graph.To.2.2.1.2.1),.d (.int .u8 k1.Part.Graph.To.2.2.1.2.2.1),.d (.int .u8 k1.Part.Graph.To.2.2.1.2.2.2.1),.d (.int .u8 k1.Part.Graph.To.2.2.1.2.2.2.2),.d (.int .u8 k1.Part.Graph.To.2.2.2.1.1),.d (.int .u8 k1.Part.Graph.To.2.2.2.1.2.1),.d (.int .u8 k1.Part.Graph.To.2.2.2.1.2.2.1),.d (.int .u8 k1.Part.Graph.To.2.2.2.1.2.2.2.1),.d (.int .u8 k1.Part.Graph.To.2.2.2.1.2.2.2.2),.d (.int .u8 k1.Part.Graph.To.2.2.2.2.1),.d (.int .u8 k1.Part.Graph.To.2.2.2.2.2.1),.d (.int .u8 k1.Part.Graph.To.2.2.2.2.2.2.1),.d (.int .u8 k1.Part.Graph.To.2.2.2.2.2.2.2.1),.d (.int .u8 k1.Part.Graph.To.2.2.2.2.2.2.2.2),.d (.int .u8 k1.zC),.d (.int .u8 k1.zB),.d (.int .u8 k1.zD)]) tv rfl (Qj rfl) rfl rfl ?_))))
  obtain ⟨x6,h5,h⟩:=bnd h
  refine Rn.call (args:=[.agg [.d (.int .u8 k1.Part.Events),.d (.int .u8 k1.Part.Graph.zM),.d (.int .u8 k1.Part.Graph.Marks),.d (.int .u8 k1.Part.Graph.To.1.1),.d (.int .u8 k1.Part.Graph.To.1.2.1),.d (.int .u8 k1.Part.Graph.To.1.2.2.1),.d (.int .u8 k1.Part.Graph.To.1.2.2.2.1),.d (.int .u8 k1.Part.Graph.To.1.2.2.2.2),.d (.int .u8 k1.Part.Graph.To.2.1.1),.d (.int .u8 k1.Part.Graph.To.2.1.2.1),.d (.int .u8 k1.Part.Graph.To.2.1.2.2.1),.d (.int .u8 k1.Part.Graph.To.2.1.2.2.2.1),.d (.int .u8 k1.Part.Graph.To.2.1.2.2.2.2),.d (.int .u8 k1.Part.Graph.To.2.2.1.1),.d (.int .u8 k1.Part.Graph.To.2.2.1.2.1),.d (.int .u8 k1.Part.Graph.To.2.2.1.2.2.1),.d (.int .u8 k1.Part.Graph.To.2.2.1.2.2.2.1),.d (.int .u8 k1.Part.Graph.To.2.2.1.2.2.2.2),.d (.int .u8 k1.Part.Graph.To.2.2.2.1.1),.d (.int .u8 k1.Part.Graph.To.2.2.2.1.2.1),.d (.int .u8 k1.Part.Graph.To.2.2.2.1.2.2.1),.d (.int .u8 k1.Part.Graph.To.2.2.2.1.2.2.2.1),.d (.int .u8 k1.Part.Graph.To.2.2.2.1.2.2.2.2),.d (.int .u8 k1.Part.Graph.To.2.2.2.2.1),.d (.int .u8 k1.Part.Graph.To.2.2.2.2.2.1),.d (.int .u8 k1.Part.Graph.To.2.2.2.2.2.2.1),.d (.int .u8 k1.Part.Graph.To.2.2.2.2.2.2.2.1),.d (.int .u8 k1.Part.Graph.To.2.2.2.2.2.2.2.2),.d (.int .u8 k1.zC),.d (.int .u8 k1.zB),.d (.int .u8 k1.zD)]]) tv rfl (H_overseerlaw46_Make _ _ h5) pc9 (Rn.alloc tv rfl (Rn.storeT (v:=.agg [(l_ x6.zA.zJ),(i_ x6.zA.zM),(l_ x6.zA.zK),.d (.lst 3 (List.map Qa x6.zA.zL)),(l_ x6.zC),(l_ x6.zB),(l_ x6.zD),(i_ x6.Tick)]) (ds:=[(l_ x6.zA.zJ),(i_ x6.zA.zM),(l_ x6.zA.zK),.d (.lst 3 (List.map Qa x6.zA.zL)),(l_ x6.zC),(l_ x6.zB),(l_ x6.zD),(i_ x6.Tick)]) (cs':=[(l_ x6.zA.zJ),(i_ x6.zA.zM),(l_ x6.zA.zK),.d (.lst 3 (List.map Qa x6.zA.zL)),(l_ x6.zC),(l_ x6.zB),(l_ x6.zD),(i_ x6.Tick)]) tv rfl rfl rfl rfl rfl rfl rfl (nt ((sr ((Rn.load (v:=.agg [(l_ x6.zA.zJ),(i_ x6.zA.zM),(l_ x6.zA.zK),.d (.lst 3 (List.map Qa x6.zA.zL)),(l_ x6.zC),(l_ x6.zB),(l_ x6.zD),(i_ x6.Tick)]) tv rfl (Qj rfl) rfl rfl ?_)))))))
  obtain ⟨⟨r8,r9⟩,h7,h⟩:=bnd h
  refine Rn.call (args:=[.agg [(l_ x6.zA.zJ),(i_ x6.zA.zM),(l_ x6.zA.zK),.d (.lst 3 (List.map Qa x6.zA.zL)),(l_ x6.zC),(l_ x6.zB),(l_ x6.zD),(i_ x6.Tick)]]) tv rfl (H_timedsynthesis_Synthesize _ _ h7) pc9 (Rn.mov (v:=.tup [.agg [(l_ r8.zE.Kept),(l_ r8.zE.zF),.d (.lst 4 (List.map Qc r8.zE.zG)),(i_ r8.Rounds),(l_ r8.zH.zJ),(i_ r8.zH.zM),(l_ r8.zH.zK),.d (.lst 3 (List.map Qa r8.zH.zL)),(l_ r8.zO),(l_ r8.zI)],(i_ r9)]) tv rfl (Rn.ext (v:=.agg [(l_ r8.zE.Kept),(l_ r8.zE.zF),.d (.lst 4 (List.map Qc r8.zE.zG)),(i_ r8.Rounds),(l_ r8.zH.zJ),(i_ r8.zH.zM),(l_ r8.zH.zK),.d (.lst 3 (List.map Qa r8.zH.zL)),(l_ r8.zO),(l_ r8.zI)]) (vs:=[.agg [(l_ r8.zE.Kept),(l_ r8.zE.zF),.d (.lst 4 (List.map Qc r8.zE.zG)),(i_ r8.Rounds),(l_ r8.zH.zJ),(i_ r8.zH.zM),(l_ r8.zH.zK),.d (.lst 3 (List.map Qa r8.zH.zL)),(l_ r8.zO),(l_ r8.zI)],(i_ r9)]) tv rfl rfl rfl (Rn.ext (v:=(i_ r9)) (vs:=[.agg [(l_ r8.zE.Kept),(l_ r8.zE.zF),.d (.lst 4 (List.map Qc r8.zE.zG)),(i_ r8.Rounds),(l_ r8.zH.zJ),(i_ r8.zH.zM),(l_ r8.zH.zK),.d (.lst 3 (List.map Qa r8.zH.zL)),(l_ r8.zO),(l_ r8.zI)],(i_ r9)]) tv rfl rfl rfl (Rn.alloc tv rfl (Rn.storeT (v:=.agg [(l_ r8.zE.Kept),(l_ r8.zE.zF),.d (.lst 4 (List.map Qc r8.zE.zG)),(i_ r8.Rounds),(l_ r8.zH.zJ),(i_ r8.zH.zM),(l_ r8.zH.zK),.d (.lst 3 (List.map Qa r8.zH.zL)),(l_ r8.zO),(l_ r8.zI)]) (ds:=[(l_ r8.zE.Kept),(l_ r8.zE.zF),.d (.lst 4 (List.map Qc r8.zE.zG)),(i_ r8.Rounds),(l_ r8.zH.zJ),(i_ r8.zH.zM),(l_ r8.zH.zK),.d (.lst 3 (List.map Qa r8.zH.zL)),(l_ r8.zO),(l_ r8.zI)]) (cs':=[(l_ r8.zE.Kept),(l_ r8.zE.zF),.d (.lst 4 (List.map Qc r8.zE.zG)),(i_ r8.Rounds),(l_ r8.zH.zJ),(i_ r8.zH.zM),(l_ r8.zH.zK),.d (.lst 3 (List.map Qa r8.zH.zL)),(l_ r8.zO),(l_ r8.zI)]) tv rfl rfl rfl rfl rfl rfl rfl (md rfl (nt ((sr ((Rn.load (v:=.agg [(l_ x6.zA.zJ),(i_ x6.zA.zM),(l_ x6.zA.zK),.d (.lst 3 (List.map Qa x6.zA.zL)),(l_ x6.zC),(l_ x6.zB),(l_ x6.zD),(i_ x6.Tick)]) tv rfl (Qj rfl) rfl rfl ?_)))))))))))
  obtain ⟨x10,h11,h⟩:=bnd h
  refine Rn.callNew (m:=56) (args:=[.agg [(l_ x6.zA.zJ),(i_ x6.zA.zM),(l_ x6.zA.zK),.d (.lst 3 (List.map Qa x6.zA.zL)),(l_ x6.zC),(l_ x6.zB),(l_ x6.zD),(i_ x6.Tick)]]) (r':=.ptr (Γ.n0 + 70) 0) (L':=[(70,.cells [(l_ x10.p_.zA.zJ),(i_ x10.p_.zA.zM),(l_ x10.p_.zA.zK),.d (.lst 3 (List.map Qa x10.p_.zA.zL)),(l_ x10.p_.zC),(l_ x10.p_.zB),(l_ x10.p_.zD),(i_ x10.p_.Tick),.sl 1 (Γ.n0 + 68) 0 x10.rank_.length x10.rank_.length,.own 4 (List.map Qc x10.removals_),(i_ x10.rounds_)]),(68,.cells (Q2 (fun (x:Int)=>[V.d (.int .i64 x)]) x10.rank_))]) tv rfl (H_overseerlaw46_solve _ _ h11 _ _) rfl rfl rfl hM rfl ?_
  obtain ⟨x13,h12,h⟩:=bnd h
  refine Rn.callM (args:=[.ptr (Γ.n0 + 70) 0]) tv rfl (fun M2 nb2 hn hx=>H_overseerlaw46_model_result _ (Γ.n0 + 70) (Γ.n0 + 68) _ h12 M2 nb2 (hx _ _ (Qj rfl)) (hx _ _ (Qj rfl))) rfl pc9 ?_
  refine Rn.alloc tv rfl (Rn.storeT (v:=.agg [(l_ x13.zE.Kept),(l_ x13.zE.zF),.d (.lst 4 (List.map Qc x13.zE.zG)),(i_ x13.Rounds),(l_ x13.zH.zJ),(i_ x13.zH.zM),(l_ x13.zH.zK),.d (.lst 3 (List.map Qa x13.zH.zL)),(l_ x13.zO),(l_ x13.zI)]) (ds:=[(l_ x13.zE.Kept),(l_ x13.zE.zF),.d (.lst 4 (List.map Qc x13.zE.zG)),(i_ x13.Rounds),(l_ x13.zH.zJ),(i_ x13.zH.zM),(l_ x13.zH.zK),.d (.lst 3 (List.map Qa x13.zH.zL)),(l_ x13.zO),(l_ x13.zI)]) (cs':=[(l_ x13.zE.Kept),(l_ x13.zE.zF),.d (.lst 4 (List.map Qc x13.zE.zG)),(i_ x13.Rounds),(l_ x13.zH.zJ),(i_ x13.zH.zM),(l_ x13.zH.zK),.d (.lst 3 (List.map Qa x13.zH.zL)),(l_ x13.zO),(l_ x13.zI)]) tv rfl rfl rfl rfl rfl rfl rfl (Rn.nil (toN ?_)))
  refine Tr.cutB (fun (x27:Bool)=>⟨look [(2,(b_ x27))],Qm Γ.n0 (bxs [(1,.cells ([.d (.int .u8 k1.Part.Events),.d (.int .u8 k1.Part.Graph.zM),.d (.int .u8 k1.Part.Graph.Marks),.d (.int .u8 k1.Part.Graph.To.1.1),.d (.int .u8 k1.Part.Graph.To.1.2.1),.d (.int .u8 k1.Part.Graph.To.1.2.2.1),.d (.int .u8 k1.Part.Graph.To.1.2.2.2.1),.d (.int .u8 k1.Part.Graph.To.1.2.2.2.2),.d (.int .u8 k1.Part.Graph.To.2.1.1),.d (.int .u8 k1.Part.Graph.To.2.1.2.1),.d (.int .u8 k1.Part.Graph.To.2.1.2.2.1),.d (.int .u8 k1.Part.Graph.To.2.1.2.2.2.1),.d (.int .u8 k1.Part.Graph.To.2.1.2.2.2.2),.d (.int .u8 k1.Part.Graph.To.2.2.1.1),.d (.int .u8 k1.Part.Graph.To.2.2.1.2.1),.d (.int .u8 k1.Part.Graph.To.2.2.1.2.2.1),.d (.int .u8 k1.Part.Graph.To.2.2.1.2.2.2.1),.d (.int .u8 k1.Part.Graph.To.2.2.1.2.2.2.2),.d (.int .u8 k1.Part.Graph.To.2.2.2.1.1),.d (.int .u8 k1.Part.Graph.To.2.2.2.1.2.1),.d (.int .u8 k1.Part.Graph.To.2.2.2.1.2.2.1),.d (.int .u8 k1.Part.Graph.To.2.2.2.1.2.2.2.1),.d (.int .u8 k1.Part.Graph.To.2.2.2.1.2.2.2.2),.d (.int .u8 k1.Part.Graph.To.2.2.2.2.1),.d (.int .u8 k1.Part.Graph.To.2.2.2.2.2.1),.d (.int .u8 k1.Part.Graph.To.2.2.2.2.2.2.1),.d (.int .u8 k1.Part.Graph.To.2.2.2.2.2.2.2.1),.d (.int .u8 k1.Part.Graph.To.2.2.2.2.2.2.2.2),.d (.int .u8 k1.zC),.d (.int .u8 k1.zB),.d (.int .u8 k1.zD)])),(3,.cells ([(l_ x6.zA.zJ),(i_ x6.zA.zM),(l_ x6.zA.zK),.d (.lst 3 (List.map Qa x6.zA.zL)),(l_ x6.zC),(l_ x6.zB),(l_ x6.zD),(i_ x6.Tick)])),(4,.cells ([(l_ r8.zE.Kept),(l_ r8.zE.zF),.d (.lst 4 (List.map Qc r8.zE.zG)),(i_ r8.Rounds),(l_ r8.zH.zJ),(i_ r8.zH.zM),(l_ r8.zH.zK),.d (.lst 3 (List.map Qa r8.zH.zL)),(l_ r8.zO),(l_ r8.zI)])),(6,.cells ([(l_ x13.zE.Kept),(l_ x13.zE.zF),.d (.lst 4 (List.map Qc x13.zE.zG)),(i_ x13.Rounds),(l_ x13.zH.zJ),(i_ x13.zH.zM),(l_ x13.zH.zK),.d (.lst 3 (List.map Qa x13.zH.zL)),(l_ x13.zO),(l_ x13.zI)])),(68,.cells (Q2 (fun (x:Int)=>[V.d (.int .i64 x)]) x10.rank_)),(70,.cells ([(l_ x10.p_.zA.zJ),(i_ x10.p_.zA.zM),(l_ x10.p_.zA.zK),.d (.lst 3 (List.map Qa x10.p_.zA.zL)),(l_ x10.p_.zC),(l_ x10.p_.zB),(l_ x10.p_.zD),(i_ x10.p_.Tick),.sl 1 (Γ.n0 + 68) 0 x10.rank_.length x10.rank_.length,.own 4 (List.map Qc x10.removals_),(i_ x10.rounds_)]))]) M,Γ.n0 + 102⟩) h (fun z h=>?_) (fun z h=>?_)
  ·refine Tr.rgn (md rfl (Rn.bin tv rfl rfl rfl (md rfl ?_)))
   refine Qbr (r9 == 0) (fun hb14=>?_) (fun hb14=>?_)
   ·replace h:=bT hb14 h
    refine Rn.fldP (o':=0) (gw rfl hb14) rfl rfl (Rn.load (v:=(Qcx r8.zE)) (gw rfl hb14) rfl (Qj rfl) rfl rfl (Rn.fldP (o':=0) (gw rfl hb14) rfl rfl (Rn.load (v:=(Qcx x13.zE)) (gw rfl hb14) rfl (Qj rfl) rfl rfl ?_)))
    obtain ⟨x16,h15,h⟩:=bnd h
    refine Rn.call (args:=[(Qcx r8.zE),(Qcx x13.zE)]) (gw rfl hb14) rfl (H_overseerlaw46_same _ _ _ h15) pc9 (Rn.pickT (v:=(b_ x16)) tv rfl hb14 rfl (md rfl ?_))
    refine Qbr x16 (fun hb17=>?_) (fun hb17=>?_)
    ·replace h:=bT hb17 h
     refine Rn.fldP (o':=3) (gw rfl hb17) rfl rfl (Rn.load (v:=(i_ r8.Rounds)) (gw rfl hb17) rfl (Qj rfl) rfl rfl (Rn.fldP (o':=3) (gw rfl hb17) rfl rfl (Rn.load (v:=(i_ x13.Rounds)) (gw rfl hb17) rfl (Qj rfl) rfl rfl (Rn.bin (gw rfl hb17) rfl rfl rfl (Rn.pickT (v:=(b_ (r8.Rounds == x13.Rounds))) tv rfl hb17 rfl (md rfl ?_))))))
     refine Qbr (r8.Rounds == x13.Rounds) (fun hb18=>?_) (fun hb18=>?_)
     ·replace h:=bT hb18 h
      refine Rn.fldP (o':=4) (gw rfl hb18) rfl rfl (Rn.load (v:=(Qk r8.zH)) (gw rfl hb18) rfl (Qj rfl) rfl rfl (Rn.fldP (o':=4) (gw rfl hb18) rfl rfl (Rn.load (v:=(Qk x13.zH)) (gw rfl hb18) rfl (Qj rfl) rfl rfl ?_)))
      obtain ⟨x20,h19,h⟩:=bnd h
      refine Rn.call (args:=[(Qk r8.zH),(Qk x13.zH)]) (gw rfl hb18) rfl (H_automaton_Equal _ _ _ h19) pc9 (Rn.pickT (v:=(b_ x20)) tv rfl hb18 rfl (md rfl ?_))
      refine Qbr x20 (fun hb21=>?_) (fun hb21=>?_)
      ·replace h:=bT hb21 h
       refine Rn.fldP (o':=8) (gw rfl hb21) rfl rfl (Rn.load (v:=(l_ r8.zO)) (gw rfl hb21) rfl (Qj rfl) rfl rfl (Rn.fldP (o':=8) (gw rfl hb21) rfl rfl (Rn.load (v:=(l_ x13.zO)) (gw rfl hb21) rfl (Qj rfl) rfl rfl ?_)))
       obtain ⟨x23,h22,h⟩:=bnd h
       refine Rn.call (args:=[(l_ r8.zO),(l_ x13.zO)]) (gw rfl hb21) rfl (H_word_Equal _ _ _ h22) pc9 (Rn.pickT (v:=(b_ x23)) tv rfl hb21 rfl (md rfl ?_))
       refine Qbr x23 (fun hb24=>?_) (fun hb24=>?_)
       ·replace h:=bT hb24 h
        refine Rn.fldP (o':=9) (gw rfl hb24) rfl rfl (Rn.load (v:=(l_ r8.zI)) (gw rfl hb24) rfl (Qj rfl) rfl rfl (Rn.fldP (o':=9) (gw rfl hb24) rfl rfl (Rn.load (v:=(l_ x13.zI)) (gw rfl hb24) rfl (Qj rfl) rfl rfl ?_)))
        obtain ⟨x26,h25,h⟩:=bnd h
        refine Rn.call (args:=[(l_ r8.zI),(l_ x13.zI)]) (gw rfl hb24) rfl (H_word_Equal _ _ _ h25) pc9 (Rn.pickT (v:=(b_ x26)) tv rfl hb24 rfl (md rfl (Rn.nil ?_)))
        replace h:=si h; subst h
        exact Qg [] ⟨(sm rfl),tv⟩ ⟨⟨_,rfl,rfl,(.same rfl)⟩,⟨_,rfl,rfl,(.same rfl)⟩,⟨_,rfl,rfl,(.same rfl)⟩,⟨_,rfl,rfl,(.same rfl)⟩,⟨_,rfl,rfl,(Qx fun _=>rfl)⟩,⟨_,rfl,rfl,(.cons (sm rfl) (.cons (sm rfl) (.cons (sm rfl) (.cons (sm rfl) (.cons (sm rfl) (.cons (sm rfl) (.cons (sm rfl) (.cons (sm rfl) (.cons (kSl rfl) (.cons (sm rfl) (.cons (sm rfl) .nil)))))))))))⟩,tv⟩ rfl
       ·replace h:=bF hb24 h
        refine Rn.sk (nw rfl hb24) (Rn.sk (nw rfl hb24) (Rn.sk (nw rfl hb24) (Rn.sk (nw rfl hb24) (Rn.sk (nw rfl hb24) (Rn.pickF (v:=(b_ false)) tv rfl hb24 rfl (md rfl (Rn.nil ?_)))))))
        replace h:=si h; subst h
        exact Qg [] ⟨(sm rfl),tv⟩ ⟨⟨_,rfl,rfl,(.same rfl)⟩,⟨_,rfl,rfl,(.same rfl)⟩,⟨_,rfl,rfl,(.same rfl)⟩,⟨_,rfl,rfl,(.same rfl)⟩,⟨_,rfl,rfl,(Qx fun _=>rfl)⟩,⟨_,rfl,rfl,(.cons (sm rfl) (.cons (sm rfl) (.cons (sm rfl) (.cons (sm rfl) (.cons (sm rfl) (.cons (sm rfl) (.cons (sm rfl) (.cons (sm rfl) (.cons (kSl rfl) (.cons (sm rfl) (.cons (sm rfl) .nil)))))))))))⟩,tv⟩ rfl
      ·replace h:=bF hb21 h
       refine Rn.sk (nw rfl hb21) (Rn.sk (nw rfl hb21) (Rn.sk (nw rfl hb21) (Rn.sk (nw rfl hb21) (Rn.sk (nw rfl hb21) (Rn.pickF (v:=(b_ false)) tv rfl hb21 rfl (md rfl (Rn.sk (nw (b:=false) rfl rfl) (Rn.sk (nw (b:=false) rfl rfl) (Rn.sk (nw (b:=false) rfl rfl) (Rn.sk (nw (b:=false) rfl rfl) (Rn.sk (nw (b:=false) rfl rfl) (Rn.pickF (v:=(b_ false)) tv rfl rfl rfl (md rfl (Rn.nil ?_))))))))))))))
       replace h:=si h; subst h
       exact Qg [] ⟨(sm rfl),tv⟩ ⟨⟨_,rfl,rfl,(.same rfl)⟩,⟨_,rfl,rfl,(.same rfl)⟩,⟨_,rfl,rfl,(.same rfl)⟩,⟨_,rfl,rfl,(.same rfl)⟩,⟨_,rfl,rfl,(Qx fun _=>rfl)⟩,⟨_,rfl,rfl,(.cons (sm rfl) (.cons (sm rfl) (.cons (sm rfl) (.cons (sm rfl) (.cons (sm rfl) (.cons (sm rfl) (.cons (sm rfl) (.cons (sm rfl) (.cons (kSl rfl) (.cons (sm rfl) (.cons (sm rfl) .nil)))))))))))⟩,tv⟩ rfl
     ·replace h:=bF hb18 h
      refine Rn.sk (nw rfl hb18) (Rn.sk (nw rfl hb18) (Rn.sk (nw rfl hb18) (Rn.sk (nw rfl hb18) (Rn.sk (nw rfl hb18) (Rn.pickF (v:=(b_ false)) tv rfl hb18 rfl (md rfl (Rn.sk (nw (b:=false) rfl rfl) (Rn.sk (nw (b:=false) rfl rfl) (Rn.sk (nw (b:=false) rfl rfl) (Rn.sk (nw (b:=false) rfl rfl) (Rn.sk (nw (b:=false) rfl rfl) (Rn.pickF (v:=(b_ false)) tv rfl rfl rfl (md rfl (Rn.sk (nw (b:=false) rfl rfl) (Rn.sk (nw (b:=false) rfl rfl) (Rn.sk (nw (b:=false) rfl rfl) (Rn.sk (nw (b:=false) rfl rfl) (Rn.sk (nw (b:=false) rfl rfl) (Rn.pickF (v:=(b_ false)) tv rfl rfl rfl (md rfl (Rn.nil ?_)))))))))))))))))))))
      replace h:=si h; subst h
      exact Qg [] ⟨(sm rfl),tv⟩ ⟨⟨_,rfl,rfl,(.same rfl)⟩,⟨_,rfl,rfl,(.same rfl)⟩,⟨_,rfl,rfl,(.same rfl)⟩,⟨_,rfl,rfl,(.same rfl)⟩,⟨_,rfl,rfl,(Qx fun _=>rfl)⟩,⟨_,rfl,rfl,(.cons (sm rfl) (.cons (sm rfl) (.cons (sm rfl) (.cons (sm rfl) (.cons (sm rfl) (.cons (sm rfl) (.cons (sm rfl) (.cons (sm rfl) (.cons (kSl rfl) (.cons (sm rfl) (.cons (sm rfl) .nil)))))))))))⟩,tv⟩ rfl
    ·replace h:=bF hb17 h
     refine Rn.sk (nw rfl hb17) (Rn.sk (nw rfl hb17) (Rn.sk (nw rfl hb17) (Rn.sk (nw rfl hb17) (Rn.sk (nw rfl hb17) (Rn.pickF (v:=(b_ false)) tv rfl hb17 rfl (md rfl (Rn.sk (nw (b:=false) rfl rfl) (Rn.sk (nw (b:=false) rfl rfl) (Rn.sk (nw (b:=false) rfl rfl) (Rn.sk (nw (b:=false) rfl rfl) (Rn.sk (nw (b:=false) rfl rfl) (Rn.pickF (v:=(b_ false)) tv rfl rfl rfl (md rfl (Rn.sk (nw (b:=false) rfl rfl) (Rn.sk (nw (b:=false) rfl rfl) (Rn.sk (nw (b:=false) rfl rfl) (Rn.sk (nw (b:=false) rfl rfl) (Rn.sk (nw (b:=false) rfl rfl) (Rn.pickF (v:=(b_ false)) tv rfl rfl rfl (md rfl (Rn.sk (nw (b:=false) rfl rfl) (Rn.sk (nw (b:=false) rfl rfl) (Rn.sk (nw (b:=false) rfl rfl) (Rn.sk (nw (b:=false) rfl rfl) (Rn.sk (nw (b:=false) rfl rfl) (Rn.pickF (v:=(b_ false)) tv rfl rfl rfl (md rfl (Rn.nil ?_))))))))))))))))))))))))))))
     replace h:=si h; subst h
     exact Qg [] ⟨(sm rfl),tv⟩ ⟨⟨_,rfl,rfl,(.same rfl)⟩,⟨_,rfl,rfl,(.same rfl)⟩,⟨_,rfl,rfl,(.same rfl)⟩,⟨_,rfl,rfl,(.same rfl)⟩,⟨_,rfl,rfl,(Qx fun _=>rfl)⟩,⟨_,rfl,rfl,(.cons (sm rfl) (.cons (sm rfl) (.cons (sm rfl) (.cons (sm rfl) (.cons (sm rfl) (.cons (sm rfl) (.cons (sm rfl) (.cons (sm rfl) (.cons (kSl rfl) (.cons (sm rfl) (.cons (sm rfl) .nil)))))))))))⟩,tv⟩ rfl
   ·replace h:=bF hb14 h
    refine Rn.sk (nw rfl hb14) (Rn.sk (nw rfl hb14) (Rn.sk (nw rfl hb14) (Rn.sk (nw rfl hb14) (Rn.sk (nw rfl hb14) (Rn.pickF (v:=(b_ false)) tv rfl hb14 rfl (md rfl (Rn.sk (nw (b:=false) rfl rfl) (Rn.sk (nw (b:=false) rfl rfl) (Rn.sk (nw (b:=false) rfl rfl) (Rn.sk (nw (b:=false) rfl rfl) (Rn.sk (nw (b:=false) rfl rfl) (Rn.pickF (v:=(b_ false)) tv rfl rfl rfl (md rfl (Rn.sk (nw (b:=false) rfl rfl) (Rn.sk (nw (b:=false) rfl rfl) (Rn.sk (nw (b:=false) rfl rfl) (Rn.sk (nw (b:=false) rfl rfl) (Rn.sk (nw (b:=false) rfl rfl) (Rn.pickF (v:=(b_ false)) tv rfl rfl rfl (md rfl (Rn.sk (nw (b:=false) rfl rfl) (Rn.sk (nw (b:=false) rfl rfl) (Rn.sk (nw (b:=false) rfl rfl) (Rn.sk (nw (b:=false) rfl rfl) (Rn.sk (nw (b:=false) rfl rfl) (Rn.pickF (v:=(b_ false)) tv rfl rfl rfl (md rfl (Rn.sk (nw (b:=false) rfl rfl) (Rn.sk (nw (b:=false) rfl rfl) (Rn.sk (nw (b:=false) rfl rfl) (Rn.sk (nw (b:=false) rfl rfl) (Rn.sk (nw (b:=false) rfl rfl) (Rn.pickF (v:=(b_ false)) tv rfl rfl rfl (md rfl (Rn.nil ?_)))))))))))))))))))))))))))))))))))
    replace h:=si h; subst h
    exact Qg [] ⟨(sm rfl),tv⟩ ⟨⟨_,rfl,rfl,(.same rfl)⟩,⟨_,rfl,rfl,(.same rfl)⟩,⟨_,rfl,rfl,(.same rfl)⟩,⟨_,rfl,rfl,(.same rfl)⟩,⟨_,rfl,rfl,(Qx fun _=>rfl)⟩,⟨_,rfl,rfl,(.cons (sm rfl) (.cons (sm rfl) (.cons (sm rfl) (.cons (sm rfl) (.cons (sm rfl) (.cons (sm rfl) (.cons (sm rfl) (.cons (sm rfl) (.cons (kSl rfl) (.cons (sm rfl) (.cons (sm rfl) .nil)))))))))))⟩,tv⟩ rfl
  ·obtain ⟨x27,rfl⟩ : ∃ x,x = z:=⟨_,rfl⟩
   refine Tr.ret ?_
   replace h:=si h; subst h
   exact ⟨.inr rfl,(b_ x27),rfl,fun _ _ _ _ h=>h,tv,fun k hk=>Qh hk⟩
end Go.Abs
end
section
namespace Go.Proofs
open Go.Abs
set_option maxRecDepth 100000
theorem Qis:Qy Try.prog 3 = some Qdi:=by kernel_rfl
theorem Q3e:Qy Try.prog 9 = some Qhn:=by kernel_rfl
theorem Q46:Qy Try.prog 10 = some Qim:=by kernel_rfl
theorem Qts:Qy Try.prog 11 = some Qfb:=by kernel_rfl
theorem Q3f:Qy Try.prog 12 = some Qhu:=by kernel_rfl
theorem Qsk:Qy Try.prog 13 = some Qe3:=by kernel_rfl
theorem Q47:Qy Try.prog 14 = some Qio:=by kernel_rfl
theorem Q75:Qy Try.prog 15 = some Qm4:=by kernel_rfl
theorem Qbdt:Qy Try.prog 16 = some Q2l:=by kernel_rfl
theorem Qv2:Qy Try.prog 17 = some Qf5:=by kernel_rfl
theorem Qm9:Qy Try.prog 21 = some Qd6:=by kernel_rfl
theorem Qt6:Qy Try.prog 22 = some Qfu:=by kernel_rfl
theorem Q58:Qy Try.prog 23 = some Qjk:=by kernel_rfl
theorem Q1i:Qy Try.prog 30 = some Qg3:=by kernel_rfl
theorem Q59:Qy Try.prog 31 = some Qi3:=by kernel_rfl
theorem Qt7:Qy Try.prog 33 = some Qfq:=by kernel_rfl
theorem Q3g:Qy Try.prog 35 = some Qhj:=by kernel_rfl
theorem Q48:Qy Try.prog 36 = some Qik:=by kernel_rfl
theorem Q1j:Qy Try.prog 37 = some Qg5:=by kernel_rfl
theorem Qtt:Qy Try.prog 38 = some Qfa:=by kernel_rfl
theorem Qna:Qy Try.prog 39 = some Qd4:=by kernel_rfl
theorem Qt8:Qy Try.prog 40 = some Qfo:=by kernel_rfl
theorem Qq7:Qy Try.prog 41 = some Qen:=by kernel_rfl
theorem Qlr:Qy Try.prog 42 = some Qd0:=by kernel_rfl
theorem Qt9:Qy Try.prog 43 = some Qfs:=by kernel_rfl
theorem Qtu:Qy Try.prog 44 = some Qff:=by kernel_rfl
theorem Q64:Qy Try.prog 45 = some Qk5:=by kernel_rfl
theorem Q6a:Qy Try.prog 46 = some Qjm:=by kernel_rfl
theorem Q1k:Qy Try.prog 47 = some Qg7:=by kernel_rfl
theorem Qtv:Qy Try.prog 48 = some Qfd:=by kernel_rfl
theorem Q6b:Qy Try.prog 50 = some Qi4:=by kernel_rfl
theorem Qsl:Qy Try.prog 53 = some Qez:=by kernel_rfl
theorem Qsm:Qy Try.prog 54 = some Qe1:=by kernel_rfl
theorem Q76:Qy Try.prog 64 = some Ql2:=by kernel_rfl
theorem Q1l:Qy Try.prog 65 = some Qg1:=by kernel_rfl
theorem Q3h:Qy Try.prog 69 = some Qho:=by kernel_rfl
theorem Qv3:Qy Try.prog 70 = some Qf7:=by kernel_rfl
theorem Qzr:Qy Try.prog 71 = some Qgp:=by kernel_rfl
theorem Q65:Qy Try.prog 72 = some Qk4:=by kernel_rfl
theorem Qv4:Qy Try.prog 74 = some Qf3:=by kernel_rfl
theorem Qpr:Qy Try.prog 76 = some Qec:=by kernel_rfl
theorem Qsn:Qy Try.prog 77 = some Qex:=by kernel_rfl
theorem Q49:Qy Try.prog 85 = some Qih:=by kernel_rfl
theorem Q1m:Qy Try.prog 86 = some Qg0:=by kernel_rfl
theorem Q3i:Qy Try.prog 89 = some Qhq:=by kernel_rfl
theorem Q6c:Qy Try.prog 90 = some Qjj:=by kernel_rfl
theorem Q5a:Qy Try.prog 91 = some Qii:=by kernel_rfl
theorem Q3j:Qy Try.prog 92 = some Qhs:=by kernel_rfl
theorem Qban:Qy Try.prog 95 = some Quv:=by kernel_rfl
theorem Q66:Qy Try.prog 96 = some Qks:=by kernel_rfl
theorem Qps:Qy Try.prog 97 = some Qee:=by kernel_rfl
theorem Q3k:Qy Try.prog 98 = some Qhl:=by kernel_rfl
theorem Q91:Qy Try.prog 115 = some Qs6:=by kernel_rfl
theorem Q67:Qy Try.prog 116 = some Qkq:=by kernel_rfl
end Go.Proofs
end
section
namespace Go.Abs
open Go Go.Sort
section plain
variable {β:Type}
def insB (lt:β→β→Bool) (x:β):List β→List β
 | []=>[x]
 | y :: ys=>if lt y x then y :: insB lt x ys else x :: y :: ys
def Q3l (lt:β→β→Bool):List β→List β
 | []=>[]
 | x :: xs=>insB lt x (Q3l lt xs)
theorem Q92 (lt:β→β→Bool) (x:β):∀ l,(insB lt x l).Perm (x :: l)
 | []=>.refl _
 | y :: ys=>by
  unfold insB; split
  ·exact ((Q92 lt x ys).cons y).trans (.swap x y ys)
  ·exact .refl _
theorem Qzs (lt:β→β→Bool):∀ l,(Q3l lt l).Perm l
 | []=>.refl _
 | x :: xs=>(Q92 lt x _).trans ((Qzs lt xs).cons x)
theorem Qzt (lt:β→β→Bool) (l:List β):(Q3l lt l).length = l.length:=(Qzs lt l).length_eq
theorem Q93 {lt:β→β→Bool} (h:SWO lt) (x:β):∀ l,l.Pairwise (fun a b=>lt b a = false)→(insB lt x l).Pairwise fun a b=>lt b a = false
 | [],_=>by simp [insB]
 | y :: ys,hl=>by
  obtain ⟨h1,h2⟩:=List.pairwise_cons.1 hl
  unfold insB; split
  ·rename_i hc
   refine List.pairwise_cons.2 ⟨fun z hz=>?_,Q93 h x ys h2⟩
   rcases List.mem_cons.1 ((Q92 lt x ys).mem_iff.1 hz) with rfl | hz
   ·cases hb:lt z y with
    | false=>rfl
    | true=>have:=h.trans _ _ _ hc hb; rw [h.irrefl] at this; cases this
   ·exact h1 z hz
  ·rename_i hc
   have hc:lt y x = false:=by cases h:lt y x <;> simp_all
   refine List.pairwise_cons.2 ⟨fun z hz=>?_,hl⟩
   rcases List.mem_cons.1 hz with rfl | hz
   ·exact hc
   ·exact h.ntrans _ _ _ (h1 z hz) hc
theorem Qzu {lt:β→β→Bool} (h:SWO lt):∀ l,(Q3l lt l).Pairwise fun a b=>lt b a = false
 | []=>.nil
 | x :: xs=>Q93 h x _ (Qzu h xs)
end plain
def Qit (a b:Int):Bool:=decide (a < b)
end Go.Abs
end
section
namespace Go.Abs
def Qbmg (l:List Int):Option (List Int):=if l.length≤lim then some (Q3l Qit l) else none
end Go.Abs
end
section
namespace Go.Abs
open Go Go.Abs
set_option maxRecDepth 10000
set_option maxHeartbeats 4000000
def Qby:Nat:=1099511627776
def Qpt:=Qb9
def Qgc:=Qb8 Qby
def Qhb:=Qcy Qby
def Qfx:=Qca Qhb
def Qfj:=Qb3 Qfx Qby
def Qh8:=Qc9 Qgc Qfj
def Qgr:=Qcf Qby
def Qfk:=Q1
def Qtw:=Qdh
def Qiu:=Qd7 Qtw
def Qhc:=Qcq
def Qd8:=Qbp Qiu Qhc Qby
def Qcw:=Qp Qd8
def Qfl:=Qb4 Qgr Qcw Qh8 Qfk Qby
def Qfm:=Qb5 Qcw Qby
def Qef:=Q8
def Qgs:=Qbv Qby
def Qct:=Qr Qgs
def Qeg:=Q9 Qcw
def Qdq:=Qbf Qct Qeg
def Qdr:=Qbg Qct Qcw Qef Qdq Qby
def Qco:=Qt Qcw Qby
def Qc4:=Qbk Qco Qdr Qby
def Qeo:=Qba
def Qhd:=Qcz
def Qc1:=Q3 Qcw Qhd Qby
def Qc5:=Qw Qfl Qfm Qc4 Qco Qct Qeo Qc1 Qby
def Qhw:=Qbt
def Qlv:=Qci Qfk Qbmg Qby
def Qiv:=Qbw Qlv Qhw
def Qfy:=Qbl Qby
def Qjr:=Qbx Qfy
def Qhx:=Qcs Qc5 Qjr Qiv Qpt
def Qcu:=Qbd Qby
def Qeh:=Q6
def Qcm:=Qbc Qby
def Qc6:=Qbm Qby
def Qfz:=Qcb Qc6 Qcm Qby
def Qei:=Qcc Qby
def Qd9:=Qbq Qeh Qfz Qc6 Qcm Qei Qby
def Qgd:=Qcj Qeh Qd9 Qby
def Qge:=Qck Qcu Qgd Qby
def Qd1:=Qbe Qby
def Qdn:=Qv Qby
def Qds:=Qbh Qdn Qby
def Qd2:=Qbo Qdn Qds Qby
def Qcp:=Qu Qdn Qby
def Qdv:=Qbn Qcp Qd2 Qby
def Qf0:=Qcd Qd1 Qdv Qby
def Qdt:=Qbi Qcp Qdn Qby
def Qgf:=Qcl Qjr Qby
def Qgt:=Qcv Qby
def Qh9:=Qdc Qfy Qgt
def Qdj:=Qcr Qhx Qge Qc5 Qf0 Qdt Qgf Qh9 Qjr
end Go.Abs
end
section
namespace Go.Abs
open Go Go.Sort Go.RowKit
theorem Qbeu {P:Program} {f:FuncId} {ex:Array Value} {exV:List V} {sz nb:Nat} {M:Mem} (hb:Qlz P f = true) (hex:∀ g w us,RFs g w exV us→us = ex.toList)
  (h:∀ (p:Option Addr) (cap:Nat) (w:World),Calls P f (#[.slice p 0 cap] ++ ex) w fun e' w'=>e' = .returned (.tuple #[])∧w' = w) :
  ACalls P f (.d (.lst sz []) :: exV) M nb (.tup []) M nb:=by
 refine ⟨hb,Nat.le_refl _,fun w g us hm hMon hfresh hus hfl hons=>?_⟩
 obtain ⟨u0,us',rfl,hu0,hus'⟩:=hus
 have h1:=hex _ _ _ hus'
 subst h1
 have h2:∃ p cap,u0 = .slice p 0 cap:=by
  have:=RF_d.1 hu0
  obtain ⟨a,cap,rfl,_,_⟩:=this
  exact ⟨a,cap,rfl⟩
 obtain ⟨p,cap,rfl⟩:=h2
 have e1:(Value.slice p 0 cap :: ex.toList).toArray = #[.slice p 0 cap] ++ ex:=by apply Array.ext'; simp
 rw [e1]
 refine (h p cap w).mono ?_
 rintro e' w' ⟨rfl,rfl⟩
 exact ⟨_,g,rfl,hm,⟨[],rfl,rfl⟩,trivial,hMon,Fr.refl _ _ _⟩
theorem Qbev (l:List Int):(l.mergeSort fun x y=>decide (x≤y)) = Q3l Qit l:=by
 have hO:Go.Sort.SWO Qit:=⟨fun x=>by simp [Qit],fun x y z h1 h2=>by simp [Qit] at *; omega,fun x y z h1 h2=>by simp [Qit] at *; omega⟩
 refine List.Perm.eq_of_pairwise (le:=fun a b=>Qit b a = false) (fun a b _ _ h1 h2=>by simp [Qit] at *; omega) ?_ (Qzu hO l) ((List.mergeSort_perm _ _).trans (Qzs _ l).symm)
 have:=List.pairwise_mergeSort (le:=fun x y:Int=>decide (x≤y)) (fun a b c h1 h2=>by simp at *; omega) (fun a b=>by simp; omega) l
 exact this.imp fun h=>by simp [Qit] at *; omega
end Go.Abs
end
