/-
  Part 5 of the proof: see the last text.
-/
import Derived.Test.YthlopjpofmcdmaaP4
import Derived.Test.YthlopjpofmcdmaaProg
import Derived.KernelRfl
import Derived.Sort.Statements
import Derived.Ground.SlgmProg
import Derived.Shelf.SortM.Plain
import Derived.Shelf.SortM.SortNone
import Derived.OpenShut
import Derived.ProofKit
import Derived.Carry
import GoSem.Claim
import GoSem.ClaimJoined
import Derived.JoinedTies
set_option linter.unusedVariables false
set_option linter.unusedSimpArgs false
set_option linter.unusedSectionVars false
section
namespace Go.Abs
open Go
set_option maxRecDepth 10000
set_option maxHeartbeats 4000000
theorem Qvf {P:Program} {c:Nat} {Qy:Int→Option Bool} {f_slices_Sort_int:List Int→Option (List Int)}
    (H_timedsynthesis_event:Qff P 65 Qy)
    (H_slices_Sort_int:RowK P 73 (eI .i64) 1 [] f_slices_Sort_int) (hcf:Qx P c = some Qg2) (fuel:Nat):Qg1 P c (Qcf Qy f_slices_Sort_int fuel):=by
 intro xfrom1 to2 ticks3 tick4 marked5 lead6 g7 cp8 r h
 intro M nb hc9 ho11 hf10
 refine Qk4 hcf rfl M nb fun Γ hP hnt hn0 hM=>?_
 subst hP hn0
 refine Tr.init [(0,(i_ xfrom1)),(1,(i_ to2)),(2,(i_ ticks3)),(3,(i_ tick4)),(4,(b_ marked5)),(5,.clo g7 cp8)] rfl ?_
 unfold Qcf at h
 unfold Qg2
 refine sr ((Rn.alloc tv rfl (md rfl (nt ((Tr.seq (Tr.block ?_)))))))
 refine Tr.cutB (fun (x22:Bool)=>⟨look [(0,(i_ xfrom1)),(1,(i_ to2)),(2,(i_ ticks3)),(3,(i_ tick4)),(4,(b_ marked5)),(5,.clo g7 cp8),(12,.ptr (Γ.n0 + 12) 0),(19,(b_ x22))],Qo Γ.n0 (bxs [(12,.cells ([.nils 1,(i_ 0),.nils 1,.nils 3]))]) M,Γ.n0 + 113⟩) h (fun z h=>?_) (fun z h=>?_)
 ·refine Tr.rgn (md rfl ?_)
  obtain ⟨x15,h14,h⟩:=bnd h
  refine Rn.call (args:=[(i_ xfrom1)]) tv rfl (H_timedsynthesis_event _ _ h14) pc9 (Rn.un tv rfl rfl (md rfl ?_))
  refine Qbo x15 (fun hb16=>?_) (fun hb16=>?_)
  ·replace h:=bT hb16 h
   refine Rn.movD (gw rfl (nT hb16)) rfl ?_
   obtain ⟨x18,h17,h⟩:=bnd h
   refine Rn.call (args:=[(i_ to2)]) (gw rfl (nT hb16)) rfl (H_timedsynthesis_event _ _ h17) pc9 (Rn.un (gw rfl (nT hb16)) rfl rfl (Rn.pickF (v:=(b_ (!x18))) tv rfl (nT hb16) rfl (md rfl ?_)))
   refine Qbo x18 (fun hb19=>?_) (fun hb19=>?_)
   ·replace h:=bT hb19 h
    refine Rn.movD (gw rfl (nT hb19)) rfl ?_
    obtain ⟨x21,h20,h⟩:=bnd h
    refine Rn.call (args:=[(i_ tick4)]) (gw rfl (nT hb19)) rfl (H_timedsynthesis_event _ _ h20) pc9 (Rn.un (gw rfl (nT hb19)) rfl rfl (Rn.pickF (v:=(b_ (!x21))) tv rfl (nT hb19) rfl (md rfl (Rn.nil ?_))))
    replace h:=si h; subst h
    exact Qh [] ⟨(sm rfl),(sm rfl),(sm rfl),(sm rfl),(sm rfl),(kFun hM ho11),(kPtr rfl),(sm rfl),tv⟩ ⟨⟨_,rfl,rfl,(.same rfl)⟩,tv⟩ rfl
   ·replace h:=bF hb19 h
    refine Rn.sk (nw rfl (nF hb19)) (Rn.sk (nw rfl (nF hb19)) (Rn.sk (nw rfl (nF hb19)) (Rn.pickT (v:=(b_ true)) tv rfl (nF hb19) rfl (md rfl (Rn.nil ?_)))))
    replace h:=si h; subst h
    exact Qh [] ⟨(sm rfl),(sm rfl),(sm rfl),(sm rfl),(sm rfl),(kFun hM ho11),(kPtr rfl),(sm rfl),tv⟩ ⟨⟨_,rfl,rfl,(.same rfl)⟩,tv⟩ rfl
  ·replace h:=bF hb16 h
   refine Rn.sk (nw rfl (nF hb16)) (Rn.sk (nw rfl (nF hb16)) (Rn.sk (nw rfl (nF hb16)) (Rn.pickT (v:=(b_ true)) tv rfl (nF hb16) rfl (md rfl (Rn.sk (nw (b:=true) rfl rfl) (Rn.sk (nw (b:=true) rfl rfl) (Rn.sk (nw (b:=true) rfl rfl) (Rn.pickT (v:=(b_ true)) tv rfl rfl rfl (md rfl (Rn.nil ?_))))))))))
   replace h:=si h; subst h
   exact Qh [] ⟨(sm rfl),(sm rfl),(sm rfl),(sm rfl),(sm rfl),(kFun hM ho11),(kPtr rfl),(sm rfl),tv⟩ ⟨⟨_,rfl,rfl,(.same rfl)⟩,tv⟩ rfl
 ·obtain ⟨x22,rfl⟩ : ∃ x,x = z:=⟨_,rfl⟩
  refine Tr.cond rfl (fun hb23=>?_) (fun hb23=>?_)
  ·replace h:=bT hb23 h
   refine sr ((Rn.build (v:=.agg [.nils 1,(i_ 0),.nils 1,.nils 3]) tv rfl (Rn.storeT (v:=.agg [.nils 1,(i_ 0),.nils 1,.nils 3]) (ds:=[.nils 1,(i_ 0),.nils 1,.nils 3]) (cs':=[.nils 1,(i_ 0),.nils 1,.nils 3]) tv rfl rfl rfl rfl rfl rfl rfl (md rfl (nt ((Tr.ret ?_)))))))
   replace h:=si h; subst h
   exact ⟨.inr rfl,.tup [.agg [.nils 1,(i_ 0),.nils 1,.nils 3],(i_ 2)],res2 (Qk3 rfl rfl rfl rfl) rfl,(WkV.tup (.cons (WkV.agg (.cons (WkV.nilsD _) (.cons (.same rfl) (.cons (WkV.nilsD _) (.cons (WkV.nilsD _) .nil))))) (.cons (.same rfl) .nil))).rd,⟨⟨tv,tv,tv,tv,tv⟩,tv,tv⟩,fun k hk=>Qi hk⟩
  ·replace h:=bF hb23 h
   refine Tr.cutB (fun (x26:Bool)=>⟨look [(0,(i_ xfrom1)),(1,(i_ to2)),(2,(i_ ticks3)),(3,(i_ tick4)),(4,(b_ marked5)),(5,.clo g7 cp8),(12,.ptr (Γ.n0 + 12) 0),(34,(b_ x26))],Qo Γ.n0 (bxs [(12,.cells ([.nils 1,(i_ 0),.nils 1,.nils 3]))]) M,Γ.n0 + 113⟩) h (fun z h=>?_) (fun z h=>?_)
   ·refine Tr.rgn (md rfl (md rfl (Rn.bin tv rfl rfl rfl (md rfl ?_))))
    refine Qbo (xfrom1 == to2) (fun hb24=>?_) (fun hb24=>?_)
    ·replace h:=bT hb24 h
     refine Rn.sk (nw rfl hb24) (Rn.sk (nw rfl hb24) (Rn.sk (nw rfl hb24) (Rn.pickT (v:=(b_ true)) tv rfl hb24 rfl (md rfl (Rn.sk (nw (b:=true) rfl rfl) (Rn.sk (nw (b:=true) rfl rfl) (Rn.sk (nw (b:=true) rfl rfl) (Rn.pickT (v:=(b_ true)) tv rfl rfl rfl (md rfl (Rn.nil ?_))))))))))
     replace h:=si h; subst h
     exact Qh [] ⟨(sm rfl),(sm rfl),(sm rfl),(sm rfl),(sm rfl),(kFun hM ho11),(kPtr rfl),(sm rfl),tv⟩ ⟨⟨_,rfl,rfl,(.same rfl)⟩,tv⟩ rfl
    ·replace h:=bF hb24 h
     refine Rn.movD (gw rfl hb24) rfl (Rn.movD (gw rfl hb24) rfl (Rn.bin (gw rfl hb24) rfl rfl rfl (Rn.pickF (v:=(b_ (xfrom1 == tick4))) tv rfl hb24 rfl (md rfl ?_))))
     refine Qbo (xfrom1 == tick4) (fun hb25=>?_) (fun hb25=>?_)
     ·replace h:=bT hb25 h
      refine Rn.sk (nw rfl hb25) (Rn.sk (nw rfl hb25) (Rn.sk (nw rfl hb25) (Rn.pickT (v:=(b_ true)) tv rfl hb25 rfl (md rfl (Rn.nil ?_)))))
      replace h:=si h; subst h
      exact Qh [] ⟨(sm rfl),(sm rfl),(sm rfl),(sm rfl),(sm rfl),(kFun hM ho11),(kPtr rfl),(sm rfl),tv⟩ ⟨⟨_,rfl,rfl,(.same rfl)⟩,tv⟩ rfl
     ·replace h:=bF hb25 h
      refine Rn.movD (gw rfl hb25) rfl (Rn.movD (gw rfl hb25) rfl (Rn.bin (gw rfl hb25) rfl rfl rfl (Rn.pickF (v:=(b_ (to2 == tick4))) tv rfl hb25 rfl (md rfl (Rn.nil ?_)))))
      replace h:=si h; subst h
      exact Qh [] ⟨(sm rfl),(sm rfl),(sm rfl),(sm rfl),(sm rfl),(kFun hM ho11),(kPtr rfl),(sm rfl),tv⟩ ⟨⟨_,rfl,rfl,(.same rfl)⟩,tv⟩ rfl
   ·obtain ⟨x26,rfl⟩ : ∃ x,x = z:=⟨_,rfl⟩
    refine Tr.cond rfl (fun hb27=>?_) (fun hb27=>?_)
    ·replace h:=bT hb27 h
     refine sr ((Rn.build (v:=.agg [.nils 1,(i_ 0),.nils 1,.nils 3]) tv rfl (Rn.storeT (v:=.agg [.nils 1,(i_ 0),.nils 1,.nils 3]) (ds:=[.nils 1,(i_ 0),.nils 1,.nils 3]) (cs':=[.nils 1,(i_ 0),.nils 1,.nils 3]) tv rfl rfl rfl rfl rfl rfl rfl (md rfl (nt ((Tr.ret ?_)))))))
     replace h:=si h; subst h
     exact ⟨.inr rfl,.tup [.agg [.nils 1,(i_ 0),.nils 1,.nils 3],(i_ 13)],res2 (Qk3 rfl rfl rfl rfl) rfl,(WkV.tup (.cons (WkV.agg (.cons (WkV.nilsD _) (.cons (.same rfl) (.cons (WkV.nilsD _) (.cons (WkV.nilsD _) .nil))))) (.cons (.same rfl) .nil))).rd,⟨⟨tv,tv,tv,tv,tv⟩,tv,tv⟩,fun k hk=>Qi hk⟩
    ·replace h:=bF hb27 h
     refine Tr.cutB (fun (x29:Bool)=>⟨look [(0,(i_ xfrom1)),(1,(i_ to2)),(2,(i_ ticks3)),(3,(i_ tick4)),(4,(b_ marked5)),(5,.clo g7 cp8),(12,.ptr (Γ.n0 + 12) 0),(49,(b_ x29))],Qo Γ.n0 (bxs [(12,.cells ([.nils 1,(i_ 0),.nils 1,.nils 3]))]) M,Γ.n0 + 113⟩) h (fun z h=>?_) (fun z h=>?_)
     ·refine Tr.rgn (md rfl (Rn.bin tv rfl rfl rfl (md rfl ?_)))
      refine Qbo (decide (ticks3 < 0)) (fun hb28=>?_) (fun hb28=>?_)
      ·replace h:=ifT hb28 h
       refine Rn.sk (nw rfl hb28) (Rn.sk (nw rfl hb28) (Rn.pickT (v:=(b_ true)) tv rfl hb28 rfl (md rfl (Rn.nil ?_))))
       replace h:=si h; subst h
       exact Qh [] ⟨(sm rfl),(sm rfl),(sm rfl),(sm rfl),(sm rfl),(kFun hM ho11),(kPtr rfl),(sm rfl),tv⟩ ⟨⟨_,rfl,rfl,(.same rfl)⟩,tv⟩ rfl
      ·replace h:=ifF hb28 h
       refine Rn.movD (gw rfl hb28) rfl (Rn.bin (gw rfl hb28) rfl rfl rfl (Rn.pickF (v:=(b_ (decide (ticks3 > 16)))) tv rfl hb28 rfl (md rfl (Rn.nil ?_))))
       replace h:=si h; subst h
       exact Qh [] ⟨(sm rfl),(sm rfl),(sm rfl),(sm rfl),(sm rfl),(kFun hM ho11),(kPtr rfl),(sm rfl),tv⟩ ⟨⟨_,rfl,rfl,(.same rfl)⟩,tv⟩ rfl
     ·obtain ⟨x29,rfl⟩ : ∃ x,x = z:=⟨_,rfl⟩
      refine Tr.cond rfl (fun hb30=>?_) (fun hb30=>?_)
      ·replace h:=bT hb30 h
       refine sr ((Rn.build (v:=.agg [.nils 1,(i_ 0),.nils 1,.nils 3]) tv rfl (Rn.storeT (v:=.agg [.nils 1,(i_ 0),.nils 1,.nils 3]) (ds:=[.nils 1,(i_ 0),.nils 1,.nils 3]) (cs':=[.nils 1,(i_ 0),.nils 1,.nils 3]) tv rfl rfl rfl rfl rfl rfl rfl (md rfl (nt ((Tr.ret ?_)))))))
       replace h:=si h; subst h
       exact ⟨.inr rfl,.tup [.agg [.nils 1,(i_ 0),.nils 1,.nils 3],(i_ 2)],res2 (Qk3 rfl rfl rfl rfl) rfl,(WkV.tup (.cons (WkV.agg (.cons (WkV.nilsD _) (.cons (.same rfl) (.cons (WkV.nilsD _) (.cons (WkV.nilsD _) .nil))))) (.cons (.same rfl) .nil))).rd,⟨⟨tv,tv,tv,tv,tv⟩,tv,tv⟩,fun k hk=>Qi hk⟩
      ·replace h:=bF hb30 h
       refine Tr.skip (toN (sr ((md rfl (md rfl (md rfl (Rn.bslice (xs:=[(i_ xfrom1),(i_ to2),(i_ tick4)]) (cs:=[(i_ xfrom1),(i_ to2),(i_ tick4)]) tv rfl rfl rfl rfl (md rfl (Rn.bin tv rfl rfl rfl (Rn.buildT (v:=.agg [.sl 1 (Γ.n0 + 60) 0 3 3,(i_ (IntKind.wrap .i64 (ticks3 + 2))),.nils 1,.nils 3]) tv rfl (Rn.alloc tv rfl (Rn.storeT (v:=.agg [.sl 1 (Γ.n0 + 60) 0 3 3,(i_ (IntKind.wrap .i64 (ticks3 + 2))),.nils 1,.nils 3]) (ds:=[.sl 1 (Γ.n0 + 60) 0 3 3,(i_ (IntKind.wrap .i64 (ticks3 + 2))),.nils 1,.nils 3]) (cs':=[.sl 1 (Γ.n0 + 60) 0 3 3,(i_ (IntKind.wrap .i64 (ticks3 + 2))),.nils 1,.nils 3]) tv rfl rfl rfl rfl rfl rfl rfl (nt ((sr ((Rn.fldP (o':=0) tv rfl rfl (Rn.load (v:=.sl 1 (Γ.n0 + 60) 0 3 3) tv rfl (Qk rfl) rfl rfl ?_))))))))))))))))))
       obtain ⟨row31,hs32,h⟩:=bnd h
       obtain ⟨hl33,hn34,hr35⟩:=H_slices_Sort_int _ _ hs32
       refine Rn.callRow (args:=[.sl 1 (Γ.n0 + 60) 0 3 3]) (t:=60) (cs:=Qz (fun (x:Int)=>[V.d (.int .i64 x)]) [xfrom1,to2,tick4]) (cs':=Qz (fun (x:Int)=>[V.d (.int .i64 x)]) row31) tv rfl rfl (fun M2 hM2=>Qbhr (fun _=>rfl) hr35 (Nat.le_of_ble_eq_true rfl) hM2) rfl ?_
       refine Rn.nil (toN ?_)
       refine Tr.cutB (fun ((c71,c72,c73,a74,a75,a76):(List Int)×(List Int)×(List Qc)×Int×(List Int)×(List Qc))=>⟨look [(12,.ptr (Γ.n0 + 12) 0),(14,.ptr (Γ.n0 + 14) 0)],Qo Γ.n0 (bxs [(12,.cells ([(o_ c71),(i_ 0),(o_ c72),.own 3 (List.map Qa c73)])),(14,.cells ([.sl 1 (Γ.n0 + 60) 0 3 3,(i_ a74),(o_ a75),.own 3 (List.map Qa a76)])),(60,.cells (Qz (fun (x:Int)=>[V.d (.int .i64 x)]) row31))]) M,Γ.n0 + 113⟩) h (fun z h=>?_) (fun z h=>?_)
       ·refine sr ((Rn.fldP (o':=1) tv rfl rfl (Rn.load (v:=(i_ (IntKind.wrap .i64 (ticks3 + 2)))) tv rfl (Qk rfl) rfl rfl (md rfl (nt ((Tr.block ?_)))))))
        refine Tr.loop (mk:=fun ((x36,x37,c38,c39,c40,a41,a42,a43):Int×Int×(List Int)×(List Int)×(List Qc)×Int×(List Int)×(List Qc))=>⟨look [(0,(i_ xfrom1)),(4,(b_ marked5)),(5,.clo g7 cp8),(12,.ptr (Γ.n0 + 12) 0),(14,.ptr (Γ.n0 + 14) 0),(68,(i_ x36)),(69,(i_ x37))],Qo Γ.n0 (bxs [(12,.cells ([(o_ c38),(i_ 0),(o_ c39),.own 3 (List.map Qa c40)])),(14,.cells ([.sl 1 (Γ.n0 + 60) 0 3 3,(i_ a41),(o_ a42),.own 3 (List.map Qa a43)])),(60,.cells (Qz (fun (x:Int)=>[V.d (.int .i64 x)]) row31))]) M,Γ.n0 + 113⟩) h (by exact Ql ⟨(sm rfl),(sm rfl),(kFun hM ho11),(kPtr rfl),(kPtr rfl),(sm rfl),(sm rfl),tv⟩ ⟨⟨_,rfl,rfl,(.cons (WkV.nilsO _) (.cons (sm rfl) (.cons (WkV.nilsO _) (.cons (WkV.nilsO _) .nil))))⟩,⟨_,rfl,rfl,(.cons (kSl rfl) (.cons (sm rfl) (.cons (WkV.nilsO _) (.cons (WkV.nilsO _) .nil))))⟩,⟨_,rfl,rfl,(Qs fun _=>rfl)⟩,tv⟩ rfl) (fun k44 z h=>?_)
        ·obtain ⟨x36,x37,c38,c39,c40,a41,a42,a43⟩:=z
         replace h:_ = some _:=h
         refine sr ((Rn.bin tv rfl rfl rfl (nt ((Tr.seq ?_)))))
         refine Tr.cond rfl (fun hb45=>?_) (fun hb45=>?_)
         ·replace h:=ifT hb45 h
          refine Tr.skip (toN ?_)
          refine Tr.cutB (fun ((a69,a70):(List Int)×(List Qc))=>⟨look [(0,(i_ xfrom1)),(4,(b_ marked5)),(5,.clo g7 cp8),(12,.ptr (Γ.n0 + 12) 0),(14,.ptr (Γ.n0 + 14) 0),(68,(i_ x36)),(69,(i_ x37))],Qo Γ.n0 (bxs [(12,.cells ([(o_ c38),(i_ 0),(o_ c39),.own 3 (List.map Qa c40)])),(14,.cells ([.sl 1 (Γ.n0 + 60) 0 3 3,(i_ a41),(o_ a69),.own 3 (List.map Qa a70)])),(60,.cells (Qz (fun (x:Int)=>[V.d (.int .i64 x)]) row31))]) M,Γ.n0 + 113⟩) h (fun z h=>?_) (fun z h=>?_)
          ·refine Tr.block (sr ((md rfl (md rfl (Rn.nil (toN ?_))))))
           refine Tr.cutB (fun (a51:List Int)=>⟨look [(0,(i_ xfrom1)),(4,(b_ marked5)),(5,.clo g7 cp8),(12,.ptr (Γ.n0 + 12) 0),(14,.ptr (Γ.n0 + 14) 0),(15,(i_ x37)),(68,(i_ x36)),(69,(i_ x37))],Qo Γ.n0 (bxs [(12,.cells ([(o_ c38),(i_ 0),(o_ c39),.own 3 (List.map Qa c40)])),(14,.cells ([.sl 1 (Γ.n0 + 60) 0 3 3,(i_ a41),(o_ a51),.own 3 (List.map Qa a43)])),(60,.cells (Qz (fun (x:Int)=>[V.d (.int .i64 x)]) row31))]) M,Γ.n0 + 113⟩) h (fun z h=>?_) (fun z h=>?_)
           ·refine Tr.cutB (fun (x47:Bool)=>⟨look [(0,(i_ xfrom1)),(4,(b_ marked5)),(5,.clo g7 cp8),(12,.ptr (Γ.n0 + 12) 0),(14,.ptr (Γ.n0 + 14) 0),(15,(i_ x37)),(68,(i_ x36)),(69,(i_ x37)),(76,(b_ x47))],Qo Γ.n0 (bxs [(12,.cells ([(o_ c38),(i_ 0),(o_ c39),.own 3 (List.map Qa c40)])),(14,.cells ([.sl 1 (Γ.n0 + 60) 0 3 3,(i_ a41),(o_ a42),.own 3 (List.map Qa a43)])),(60,.cells (Qz (fun (x:Int)=>[V.d (.int .i64 x)]) row31))]) M,Γ.n0 + 113⟩) h (fun z h=>?_) (fun z h=>?_)
            ·refine Tr.rgn (md rfl (Rn.bin tv rfl rfl rfl (md rfl ?_)))
             refine Qbo (x37 == 0) (fun hb46=>?_) (fun hb46=>?_)
             ·replace h:=bT hb46 h
              refine Rn.sk (nw rfl hb46) (Rn.pickT (v:=(b_ true)) tv rfl hb46 rfl (Rn.nil ?_))
              replace h:=si h; subst h
              exact Qh [] ⟨(sm rfl),(sm rfl),(kFun hM ho11),(kPtr rfl),(kPtr rfl),(sm rfl),(sm rfl),(sm rfl),(sm rfl),tv⟩ ⟨⟨_,rfl,rfl,(.same rfl)⟩,⟨_,rfl,rfl,(.cons (kSl rfl) (.cons (sm rfl) (.cons (sm rfl) (.cons (sm rfl) .nil))))⟩,⟨_,rfl,rfl,(Qs fun _=>rfl)⟩,tv⟩ rfl
             ·replace h:=bF hb46 h
              refine Rn.movD (gw rfl hb46) rfl (Rn.pickF (v:=(b_ marked5)) tv rfl hb46 rfl (Rn.nil ?_))
              replace h:=si h; subst h
              exact Qh [] ⟨(sm rfl),(sm rfl),(kFun hM ho11),(kPtr rfl),(kPtr rfl),(sm rfl),(sm rfl),(sm rfl),(sm rfl),tv⟩ ⟨⟨_,rfl,rfl,(.same rfl)⟩,⟨_,rfl,rfl,(.cons (kSl rfl) (.cons (sm rfl) (.cons (sm rfl) (.cons (sm rfl) .nil))))⟩,⟨_,rfl,rfl,(Qs fun _=>rfl)⟩,tv⟩ rfl
            ·obtain ⟨x47,rfl⟩ : ∃ x,x = z:=⟨_,rfl⟩
             refine Tr.cond rfl (fun hb48=>?_) (fun hb48=>?_)
             ·replace h:=bT hb48 h
              refine Tr.rgn (Rn.fldP (o':=2) tv rfl rfl (Rn.loadT (cs':=[.sl 1 (Γ.n0 + 60) 0 3 3,(i_ a41),(l_ a42),.own 3 (List.map Qa a43)]) tv rfl rfl rfl rfl (md rfl (Rn.bslice (xs:=[(i_ x37)]) (cs:=[(i_ x37)]) tv rfl rfl rfl rfl ?_))))
              obtain ⟨x49,h50,h⟩:=bnd h
              refine Rn.app (e:=(eI .i64)) tv rfl rfl rfl (Qcy rfl rfl rfl) h50 rfl (Rn.fldP (o':=2) tv rfl rfl (Rn.storeO (cs':=[.sl 1 (Γ.n0 + 60) 0 3 3,(i_ a41),(o_ x49),.own 3 (List.map Qa a43)]) tv rfl rfl rfl rfl rfl (Rn.nil ?_)))
              replace h:=si h; subst h
              exact Qh [80] ⟨(sm rfl),(sm rfl),(kFun hM ho11),(kPtr rfl),(kPtr rfl),(sm rfl),(sm rfl),(sm rfl),tv⟩ ⟨⟨_,rfl,rfl,(.same rfl)⟩,⟨_,rfl,rfl,(.cons (kSl rfl) (.cons (sm rfl) (.cons (sm rfl) (.cons (sm rfl) .nil))))⟩,⟨_,rfl,rfl,(Qs fun _=>rfl)⟩,tv⟩ rfl
             ·replace h:=bF hb48 h
              refine Tr.skip ?_
              replace h:=si h; subst h
              exact Qh [] ⟨(sm rfl),(sm rfl),(kFun hM ho11),(kPtr rfl),(kPtr rfl),(sm rfl),(sm rfl),(sm rfl),tv⟩ ⟨⟨_,rfl,rfl,(.same rfl)⟩,⟨_,rfl,rfl,(.cons (kSl rfl) (.cons (sm rfl) (.cons (sm rfl) (.cons (sm rfl) .nil))))⟩,⟨_,rfl,rfl,(Qs fun _=>rfl)⟩,tv⟩ rfl
           ·obtain ⟨a51,rfl⟩ : ∃ x,x = z:=⟨_,rfl⟩
            refine sr ((Rn.fldP (o':=0) tv rfl rfl (Rn.load (v:=.sl 1 (Γ.n0 + 60) 0 3 3) tv rfl (Qk rfl) rfl rfl (Rn.lenA tv rfl (md rfl (nt ((Tr.block ?_))))))))
            refine Tr.loop (mk:=fun ((x52,a53):Int×(List Qc))=>⟨look [(0,(i_ xfrom1)),(4,(b_ marked5)),(5,.clo g7 cp8),(12,.ptr (Γ.n0 + 12) 0),(14,.ptr (Γ.n0 + 14) 0),(15,(i_ x37)),(68,(i_ x36)),(69,(i_ x37)),(84,.sl 1 (Γ.n0 + 60) 0 3 3),(85,(i_ (3:Int))),(86,(i_ x52))],Qo Γ.n0 (bxs [(12,.cells ([(o_ c38),(i_ 0),(o_ c39),.own 3 (List.map Qa c40)])),(14,.cells ([.sl 1 (Γ.n0 + 60) 0 3 3,(i_ a41),(o_ a51),.own 3 (List.map Qa a53)])),(60,.cells (Qz (fun (x:Int)=>[V.d (.int .i64 x)]) row31))]) M,Γ.n0 + 113⟩) h (by exact Ql ⟨(sm rfl),(sm rfl),(kFun hM ho11),(kPtr rfl),(kPtr rfl),(sm rfl),(sm rfl),(sm rfl),(kSl rfl),(sm rfl),(sm rfl),tv⟩ ⟨⟨_,rfl,rfl,(.same rfl)⟩,⟨_,rfl,rfl,(.cons (kSl rfl) (.cons (sm rfl) (.cons (sm rfl) (.cons (sm rfl) .nil))))⟩,⟨_,rfl,rfl,(Qs fun _=>rfl)⟩,tv⟩ rfl) (fun k54 z h=>?_)
            ·obtain ⟨x52,a53⟩:=z
             replace h:_ = some _:=h
             refine sr ((Rn.bin tv rfl rfl rfl (nt ((Tr.seq ?_)))))
             refine Tr.cond rfl (fun hb55=>?_) (fun hb55=>?_)
             ·replace h:=ifT hb55 h
              refine Tr.skip (toN ?_)
              refine Tr.cutB (fun (a68:List Qc)=>⟨look [(0,(i_ xfrom1)),(4,(b_ marked5)),(5,.clo g7 cp8),(12,.ptr (Γ.n0 + 12) 0),(14,.ptr (Γ.n0 + 14) 0),(15,(i_ x37)),(68,(i_ x36)),(69,(i_ x37)),(84,.sl 1 (Γ.n0 + 60) 0 3 3),(85,(i_ (3:Int))),(86,(i_ x52))],Qo Γ.n0 (bxs [(12,.cells ([(o_ c38),(i_ 0),(o_ c39),.own 3 (List.map Qa c40)])),(14,.cells ([.sl 1 (Γ.n0 + 60) 0 3 3,(i_ a41),(o_ a51),.own 3 (List.map Qa a68)])),(60,.cells (Qz (fun (x:Int)=>[V.d (.int .i64 x)]) row31))]) M,Γ.n0 + 113⟩) h (fun z h=>?_) (fun z h=>?_)
              ·refine Tr.block (Tr.seq (Tr.rgn ?_))
               obtain ⟨⟨⟩,h57,h⟩:=bnd h
               refine Rn.idxA tv rfl rfl h57 ?_
               obtain ⟨x58,h59,h⟩:=bnd h
               refine Rn.loadA (g:=(fun (x:Int)=>[V.d (.int .i64 x)])) (v:=(i_ x58)) (f:=0) (fun _=>rfl) tv rfl (Qk rfl) h59 rfl rfl (md rfl (nt ((sr ((Rn.mov (v:=.clo g7 cp8) tv rfl (md rfl (md rfl ?_))))))))
               obtain ⟨x61,h60,h⟩:=bnd h
               refine Rn.callvM (args:=[(i_ x37),(i_ x58)] ++ cp8) tv rfl (by rw [hc9]; rfl) (fun M2 nb2 hn hx=>hf10 _ _ _ h60 M2 nb2 (by omega) ((Q5n hM).trans hx)) rfl pc9 ?_
               refine md rfl (Rn.nil (toN ?_))
               refine Tr.cutB (fun (next64:Int)=>⟨look [(0,(i_ xfrom1)),(4,(b_ marked5)),(5,.clo g7 cp8),(12,.ptr (Γ.n0 + 12) 0),(14,.ptr (Γ.n0 + 14) 0),(15,(i_ x37)),(17,(i_ x58)),(18,(i_ next64)),(68,(i_ x36)),(69,(i_ x37)),(84,.sl 1 (Γ.n0 + 60) 0 3 3),(85,(i_ (3:Int))),(86,(i_ x52))],Qo Γ.n0 (bxs [(12,.cells ([(o_ c38),(i_ 0),(o_ c39),.own 3 (List.map Qa c40)])),(14,.cells ([.sl 1 (Γ.n0 + 60) 0 3 3,(i_ a41),(o_ a51),.own 3 (List.map Qa a53)])),(60,.cells (Qz (fun (x:Int)=>[V.d (.int .i64 x)]) row31))]) M,Γ.n0 + 113⟩) h (fun z h=>?_) (fun z h=>?_)
               ·refine sr ((md rfl (Rn.bin tv rfl rfl rfl (Rn.nil (toN ?_)))))
                refine Tr.cond rfl (fun hb62=>?_) (fun hb62=>?_)
                ·replace h:=bT hb62 h
                 refine sr ((md rfl (nt ((sr ((md rfl (md rfl (Rn.bin tv rfl rfl rfl (Rn.nil (toN ?_)))))))))))
                 refine Tr.cond rfl (fun hb63=>?_) (fun hb63=>?_)
                 ·replace h:=bT hb63 h
                  refine Tr.rgn (md rfl (Rn.nil ?_))
                  replace h:=si h; subst h
                  exact Qh [] ⟨(sm rfl),(sm rfl),(kFun hM ho11),(kPtr rfl),(kPtr rfl),(sm rfl),(sm rfl),(sm rfl),(sm rfl),(sm rfl),(kSl rfl),(sm rfl),(sm rfl),tv⟩ ⟨⟨_,rfl,rfl,(.same rfl)⟩,⟨_,rfl,rfl,(.cons (kSl rfl) (.cons (sm rfl) (.cons (sm rfl) (.cons (sm rfl) .nil))))⟩,⟨_,rfl,rfl,(Qs fun _=>rfl)⟩,tv⟩ rfl
                 ·replace h:=bF hb63 h
                  refine Tr.skip ?_
                  replace h:=si h; subst h
                  exact Qh [] ⟨(sm rfl),(sm rfl),(kFun hM ho11),(kPtr rfl),(kPtr rfl),(sm rfl),(sm rfl),(sm rfl),(sm rfl),(sm rfl),(kSl rfl),(sm rfl),(sm rfl),tv⟩ ⟨⟨_,rfl,rfl,(.same rfl)⟩,⟨_,rfl,rfl,(.cons (kSl rfl) (.cons (sm rfl) (.cons (sm rfl) (.cons (sm rfl) .nil))))⟩,⟨_,rfl,rfl,(Qs fun _=>rfl)⟩,tv⟩ rfl
                ·replace h:=bF hb62 h
                 refine Tr.skip ?_
                 replace h:=si h; subst h
                 exact Qh [] ⟨(sm rfl),(sm rfl),(kFun hM ho11),(kPtr rfl),(kPtr rfl),(sm rfl),(sm rfl),(sm rfl),(sm rfl),(sm rfl),(kSl rfl),(sm rfl),(sm rfl),tv⟩ ⟨⟨_,rfl,rfl,(.same rfl)⟩,⟨_,rfl,rfl,(.cons (kSl rfl) (.cons (sm rfl) (.cons (sm rfl) (.cons (sm rfl) .nil))))⟩,⟨_,rfl,rfl,(Qs fun _=>rfl)⟩,tv⟩ rfl
               ·obtain ⟨next64,rfl⟩ : ∃ x,x = z:=⟨_,rfl⟩
                refine sr ((md rfl (Rn.bin tv rfl rfl rfl (Rn.nil (toN ?_)))))
                refine Tr.cond rfl (fun hb65=>?_) (fun hb65=>?_)
                ·replace h:=bT hb65 h
                 refine Tr.rgn (Rn.fldP (o':=3) tv rfl rfl (Rn.loadT (cs':=[.sl 1 (Γ.n0 + 60) 0 3 3,(i_ a41),(o_ a51),.d (.lst 3 (List.map Qa a53))]) tv rfl rfl rfl rfl (md rfl (md rfl (md rfl (Rn.build (v:=.agg [(i_ x37),(i_ x58),(i_ next64)]) tv rfl (Rn.bslice (xs:=[.agg [(i_ x37),(i_ x58),(i_ next64)]]) (cs:=[(i_ x37),(i_ x58),(i_ next64)]) tv rfl rfl rfl rfl ?_)))))))
                 obtain ⟨x66,h67,h⟩:=bnd h
                 refine Rn.app (e:=Qa) tv rfl rfl rfl (Qcy rfl rfl rfl) h67 rfl (Rn.fldP (o':=3) tv rfl rfl (Rn.storeO (cs':=[.sl 1 (Γ.n0 + 60) 0 3 3,(i_ a41),(o_ a51),.own 3 (List.map Qa x66)]) tv rfl rfl rfl rfl rfl (Rn.nil ?_)))
                 replace h:=si h; subst h
                 exact Qh [107] ⟨(sm rfl),(sm rfl),(kFun hM ho11),(kPtr rfl),(kPtr rfl),(sm rfl),(sm rfl),(sm rfl),(kSl rfl),(sm rfl),(sm rfl),tv⟩ ⟨⟨_,rfl,rfl,(.same rfl)⟩,⟨_,rfl,rfl,(.cons (kSl rfl) (.cons (sm rfl) (.cons (sm rfl) (.cons (sm rfl) .nil))))⟩,⟨_,rfl,rfl,(Qs fun _=>rfl)⟩,tv⟩ rfl
                ·replace h:=bF hb65 h
                 refine Tr.skip ?_
                 replace h:=si h; subst h
                 exact Qh [] ⟨(sm rfl),(sm rfl),(kFun hM ho11),(kPtr rfl),(kPtr rfl),(sm rfl),(sm rfl),(sm rfl),(kSl rfl),(sm rfl),(sm rfl),tv⟩ ⟨⟨_,rfl,rfl,(.same rfl)⟩,⟨_,rfl,rfl,(.cons (kSl rfl) (.cons (sm rfl) (.cons (sm rfl) (.cons (sm rfl) .nil))))⟩,⟨_,rfl,rfl,(Qs fun _=>rfl)⟩,tv⟩ rfl
              ·obtain ⟨a68,rfl⟩ : ∃ x,x = z:=⟨_,rfl⟩
               refine Tr.rgn (Rn.bin tv rfl rfl rfl (md rfl (Rn.nil ?_)))
               exact ⟨_,h,(by exact Ql ⟨(sm rfl),(sm rfl),(kFun hM ho11),(kPtr rfl),(kPtr rfl),(sm rfl),(sm rfl),(sm rfl),(kSl rfl),(sm rfl),(sm rfl),tv⟩ ⟨⟨_,rfl,rfl,(.same rfl)⟩,⟨_,rfl,rfl,(.cons (kSl rfl) (.cons (sm rfl) (.cons (sm rfl) (.cons (sm rfl) .nil))))⟩,⟨_,rfl,rfl,(Qs fun _=>rfl)⟩,tv⟩ rfl)⟩
             ·replace h:=ifF hb55 h
              refine Tr.exit ?_
              replace h:=si h; subst h
              exact Qh [] ⟨(sm rfl),(sm rfl),(kFun hM ho11),(kPtr rfl),(kPtr rfl),(sm rfl),(sm rfl),tv⟩ ⟨⟨_,rfl,rfl,(.same rfl)⟩,⟨_,rfl,rfl,(.cons (kSl rfl) (.cons (sm rfl) (.cons (sm rfl) (.cons (sm rfl) .nil))))⟩,⟨_,rfl,rfl,(Qs fun _=>rfl)⟩,tv⟩ rfl
          ·obtain ⟨a69,a70⟩:=z
           refine Tr.rgn (Rn.bin tv rfl rfl rfl (md rfl (Rn.nil ?_)))
           exact ⟨_,h,(by exact Ql ⟨(sm rfl),(sm rfl),(kFun hM ho11),(kPtr rfl),(kPtr rfl),(sm rfl),(sm rfl),tv⟩ ⟨⟨_,rfl,rfl,(.same rfl)⟩,⟨_,rfl,rfl,(.cons (kSl rfl) (.cons (sm rfl) (.cons (sm rfl) (.cons (sm rfl) .nil))))⟩,⟨_,rfl,rfl,(Qs fun _=>rfl)⟩,tv⟩ rfl)⟩
         ·replace h:=ifF hb45 h
          refine Tr.exit ?_
          replace h:=si h; subst h
          exact Qh [] ⟨(kPtr rfl),(kPtr rfl),tv⟩ ⟨⟨_,rfl,rfl,(.same rfl)⟩,⟨_,rfl,rfl,(.cons (kSl rfl) (.cons (sm rfl) (.cons (sm rfl) (.cons (sm rfl) .nil))))⟩,⟨_,rfl,rfl,(Qs fun _=>rfl)⟩,tv⟩ rfl
       ·obtain ⟨c71,c72,c73,a74,a75,a76⟩:=z
        refine sr ((Rn.load (v:=.agg [.sl 1 (Γ.n0 + 60) 0 3 3,(i_ a74),(l_ a75),.d (.lst 3 (List.map Qa a76))]) tv rfl (Qk rfl) rfl rfl (Rn.storeT (v:=.agg [.sl 1 (Γ.n0 + 60) 0 3 3,(i_ a74),(l_ a75),.d (.lst 3 (List.map Qa a76))]) (ds:=[.sl 1 (Γ.n0 + 60) 0 3 3,(i_ a74),(l_ a75),.d (.lst 3 (List.map Qa a76))]) (cs':=[.sl 1 (Γ.n0 + 60) 0 3 3,(i_ a74),(l_ a75),.d (.lst 3 (List.map Qa a76))]) tv rfl rfl rfl rfl rfl rfl rfl (md rfl (Rn.nil (toN ?_))))))
        obtain ⟨⟨⟩,hl77,h⟩:=bnd h
        refine Tr.weak (by show WeakSt Γ _ ⟨look [(12,.ptr (Γ.n0 + 12) 0),(13,(i_ 0)),(14,.ptr (Γ.n0 + 14) 0),(112,.agg [(l_ row31),(i_ a74),(l_ a75),.d (.lst 3 (List.map Qa a76))])],Qo Γ.n0 (bxs [(12,.cells ([(l_ row31),(i_ a74),(l_ a75),.d (.lst 3 (List.map Qa a76))])),(14,.cells ([(l_ row31),(i_ a74),(o_ a75),.own 3 (List.map Qa a76)]))]) M,Γ.n0 + 113⟩; exact Qfu 60 _ rfl (Q2t (fun _=>rfl) _) ⟨(fPtr rfl),(.same rfl),(fPtr rfl),(WkV.agg (.cons (fSlA (fun _=>rfl) (Qdr hl77)) (.cons (.same rfl) (.cons (.same rfl) (.cons (.same rfl) .nil))))),tv⟩ ⟨⟨_,rfl,rfl,(.cons (fSlA (fun _=>rfl) (Qdr hl77)) (.cons (.same rfl) (.cons (.same rfl) (.cons (.same rfl) .nil))))⟩,⟨_,rfl,rfl,(.cons (fSlA (fun _=>rfl) (Qdr hl77)) (.cons (.same rfl) (.cons (.same rfl) (.cons (.same rfl) .nil))))⟩,tv⟩ rfl) ?_
        refine Tr.ret ?_
        replace h:=si h; subst h
        exact ⟨.inr rfl,.tup [.agg [(l_ row31),(i_ a74),(l_ a75),.d (.lst 3 (List.map Qa a76))],(i_ 0)],res2 (Qk3 rfl rfl rfl rfl) rfl,(WkV.tup (.cons (.same rfl) (.cons (.same rfl) .nil))).rd,⟨⟨tv,tv,tv,tv,tv⟩,tv,tv⟩,fun k hk=>Qi hk⟩
theorem Qrj {P:Program} {c:Nat} {Qcf:Int→Int→Int→Int→Bool→(Int→Int→Option Int)→Option (Qe×Int)} {Qbt:Int→Int→Int→Int→Int→Option Int}
    (H_timedsynthesis_clock:Qg1 P 47 Qcf)
    (H_timedsynthesis_Deadline_1:Qe7 P 48 Qbt) (hcf:Qx P c = some Qfy):Qfx P c (Qbx Qcf Qbt):=by
 intro xfrom1 to2 ticks3 tick4 r h
 refine Qec hcf rfl fun Γ M hP hnt hM=>?_
 subst hP
 refine Tr.init [(0,(i_ xfrom1)),(1,(i_ to2)),(2,(i_ ticks3)),(3,(i_ tick4))] rfl ?_
 unfold Qbx at h
 unfold Qfy
 refine sr ((Rn.box (v:=(i_ xfrom1)) (cs:=[(i_ xfrom1)]) tv rfl rfl rfl rfl rfl (Rn.box (v:=(i_ to2)) (cs:=[(i_ to2)]) tv rfl rfl rfl rfl rfl (Rn.box (v:=(i_ ticks3)) (cs:=[(i_ ticks3)]) tv rfl rfl rfl rfl rfl (Rn.alloc tv rfl (md rfl (nt ((sr ((Rn.load (v:=(i_ xfrom1)) tv rfl (Qk rfl) rfl rfl (Rn.load (v:=(i_ to2)) tv rfl (Qk rfl) rfl rfl (Rn.load (v:=(i_ ticks3)) tv rfl (Qk rfl) rfl rfl (md rfl (Rn.k (v:=.clo 48 [.ptr (Γ.n0 + 4) 0,.ptr (Γ.n0 + 5) 0,.ptr (Γ.n0 + 6) 0]) tv rfl rfl rfl ?_)))))))))))))))
 obtain ⟨⟨r10,r11⟩,h9,h⟩:=bnd h
 refine Rn.callM (args:=[(i_ xfrom1),(i_ to2),(i_ ticks3),(i_ tick4),(b_ false),.clo 48 [.ptr (Γ.n0 + 4) 0,.ptr (Γ.n0 + 5) 0,.ptr (Γ.n0 + 6) 0]]) tv rfl (fun M2 nb2 hn hx=>H_timedsynthesis_clock _ _ _ _ _ _ 48 [.ptr (Γ.n0 + 4) 0,.ptr (Γ.n0 + 5) 0,.ptr (Γ.n0 + 6) 0] _ h9 M2 nb2 rfl ⟨Qr6 (hx _ _ (Qk rfl)),Qr6 (hx _ _ (Qk rfl)),Qr6 (hx _ _ (Qk rfl)),tv⟩ (fun a5 a6 r7 h8 M3 nb3 hn3 hx3=>H_timedsynthesis_Deadline_1 a5 a6 xfrom1 to2 ticks3 (Γ.n0 + 4) (Γ.n0 + 5) (Γ.n0 + 6) r7 h8 M3 nb3 ((hx.trans hx3) _ _ (Qk rfl)) ((hx.trans hx3) _ _ (Qk rfl)) ((hx.trans hx3) _ _ (Qk rfl)))) rfl pc9 ?_
 refine Rn.ext (v:=(Qm r10)) (vs:=[(Qm r10),(i_ r11)]) tv rfl rfl rfl (Rn.ext (v:=(i_ r11)) (vs:=[(Qm r10),(i_ r11)]) tv rfl rfl rfl (Rn.storeT (v:=(Qm r10)) (ds:=(Qr r10)) (cs':=(Qr r10)) tv rfl rfl rfl rfl rfl rfl rfl (md rfl (nt ((Tr.ret ?_))))))
 replace h:=si h; subst h
 exact ⟨.inr rfl,.tup [(Qm r10),(i_ r11)],res2 (Qk3 rfl rfl rfl rfl) rfl,(WkV.tup (.cons (.same rfl) (.cons (.same rfl) .nil))).rd,⟨⟨tv,tv,tv,tv,tv⟩,tv,tv⟩,fun k hk=>Qi hk⟩
theorem Q10 {P:Program} {c:Nat} (hcf:Qx P c = some Qlo) (fuel:Nat):Qln P c (Qcv fuel):=by
 intro s1 s2 r h
 refine Qec hcf rfl fun Γ M hP hnt hM=>?_
 subst hP
 refine Tr.init [(0,(l_ s1)),(1,(l_ s2))] rfl ?_
 unfold Qcv at h
 unfold Qlo
 refine sr ((md rfl (nt ((Tr.seq (sr ((md rfl (Rn.lenD tv rfl (md rfl (Rn.lenD tv rfl (Rn.bin tv rfl rfl rfl (Rn.nil (toN ?_))))))))))))))
 refine Tr.cond rfl (fun hb3=>?_) (fun hb3=>?_)
 ·replace h:=bT hb3 h
  refine sr ((md rfl (nt ((Tr.ret ?_)))))
  replace h:=si h; subst h
  exact ⟨.inr rfl,(b_ false),rfl,fun _ _ _ _ h=>h,tv,fun k hk=>Qi hk⟩
 ·replace h:=bF hb3 h
  refine Tr.skip (toN (Tr.seq (sr ((md rfl (Rn.lenD tv rfl (md rfl (nt ((Tr.block ?_))))))))))
  refine Tr.loop (mk:=fun (x4:Int)=>⟨look [(0,(l_ s1)),(1,(l_ s2)),(12,(i_ (s1.length:Int))),(13,(i_ x4))],Qo Γ.n0 (bxs []) M,Γ.n0 + 26⟩) h (by exact Ql ⟨(sm rfl),(sm rfl),(sm rfl),(sm rfl),tv⟩ tv rfl) (fun k5 z h=>?_)
  ·obtain ⟨x4,rfl⟩ : ∃ x,x = z:=⟨_,rfl⟩
   replace h:_ = some _:=h
   refine sr ((Rn.bin tv rfl rfl rfl (nt ((Tr.seq ?_)))))
   refine Tr.cond rfl (fun hb6=>?_) (fun hb6=>?_)
   ·replace h:=ifT hb6 h
    refine Tr.skip (toN (Tr.seq (Tr.block (sr ((md rfl (md rfl (nt ((Tr.seq ?_))))))))))
    refine Tr.rgnD (by decide) ?_
    refine md rfl (md rfl ?_)
    obtain ⟨x7,h8,h⟩:=bnd h
    refine Rn.idxD (e:=(eI .i64)) tv rfl rfl h8 (Rn.loadC (x:=.int .i64 x7) tv rfl (md rfl (md rfl ?_)))
    obtain ⟨x9,h10,h⟩:=bnd h
    refine Rn.idxD (e:=(eI .i64)) tv rfl rfl h10 (Rn.loadC (x:=.int .i64 x9) tv rfl (Rn.bin tv rfl rfl rfl ?_))
    refine Rn.nil ⟨rfl,?_⟩
    refine toN ?_
    refine Tr.cond rfl (fun hb11=>?_) (fun hb11=>?_)
    ·replace h:=bT hb11 h
     refine sr ((md rfl (nt ((Tr.ret ?_)))))
     replace h:=si h; subst h
     exact ⟨.inr rfl,(b_ false),rfl,fun _ _ _ _ h=>h,tv,fun k hk=>Qi hk⟩
    ·replace h:=bF hb11 h
     refine Tr.skip (toN (Tr.rgn (Rn.bin tv rfl rfl rfl (md rfl (Rn.nil ?_)))))
     exact ⟨_,h,(by exact Ql ⟨(sm rfl),(sm rfl),(sm rfl),(sm rfl),tv⟩ tv rfl)⟩
   ·replace h:=ifF hb6 h
    refine Tr.exit (toN (sr ((md rfl (nt ((Tr.ret ?_)))))))
    replace h:=si h; subst h
    exact ⟨.inr rfl,(b_ true),rfl,fun _ _ _ _ h=>h,tv,fun k hk=>Qi hk⟩
theorem Q85 {P:Program} {c:Nat} {Qcv:(List Int)→(List Int)→Option Bool}
    (H_slices_Equal_int:Qln P 45 Qcv) (hcf:Qx P c = some Q1i):Qtu P c (Qcz Qcv):=by
 intro a1 b2 r h
 refine Qec hcf rfl fun Γ M hP hnt hM=>?_
 subst hP
 refine Tr.init [(0,(l_ a1)),(1,(l_ b2))] rfl ?_
 unfold Qcz at h
 unfold Q1i
 refine sr ((md rfl (nt ((sr ((md rfl (md rfl ?_))))))))
 obtain ⟨x4,h3,h⟩:=bnd h
 refine Rn.call (args:=[(l_ a1),(l_ b2)]) tv rfl (H_slices_Equal_int _ _ _ h3) pc9 (md rfl (nt ((Tr.ret ?_))))
 replace h:=si h; subst h
 exact ⟨.inr rfl,(b_ x4),rfl,fun _ _ _ _ h=>h,tv,fun k hk=>Qi hk⟩
theorem Qxe {P:Program} {c:Nat} {Qu:Qb→Option (Qbm×Int)} {Qcz:(List Int)→(List Int)→Option Bool} {Qbx:Int→Int→Int→Int→Option (Qe×Int)} {Qb5:(List Int)→Option Qb}
    (H_timedsynthesis_Synthesize:Qds P 11 Qu)
    (H_word_Equal:Qtu P 16 Qcz)
    (H_timedsynthesis_Deadline:Qfx P 17 Qbx)
    (H_overseerlaw46_clock:Qib P 35 Qb5) (hcf:Qx P c = some Qig):Qif P c (Qco Qu Qcz Qbx Qb5):=by
 intro  r h
 refine Qec hcf rfl fun Γ M hP hnt hM=>?_
 subst hP
 refine Tr.init [] rfl ?_
 unfold Qco at h
 unfold Qig
 refine sr ((md rfl (nt ((sr ((Rn.bslice (xs:=[(i_ 0)]) (cs:=[(i_ 0)]) tv rfl rfl rfl rfl ?_)))))))
 refine Rn.weak (by show WeakSt Γ _ ⟨look [(0,(b_ false)),(8,(l_ [0]))],Qo Γ.n0 (bxs []) M,Γ.n0 + 77⟩; exact Qfu 8 [.int .i64 0] rfl rfl ⟨(.same rfl),(fSl rfl rfl),tv⟩ tv rfl) ?_
 obtain ⟨x2,h1,h⟩:=bnd h
 refine Rn.call (args:=[(l_ [0])]) tv rfl (H_overseerlaw46_clock _ _ h1) pc9 ?_
 obtain ⟨⟨r4,r5⟩,h3,h⟩:=bnd h
 refine Rn.call (args:=[.agg [(l_ x2.zA.zJ),(i_ x2.zA.zM),(l_ x2.zA.zK),.d (.lst 3 (List.map Qa x2.zA.zL)),(l_ x2.zC),.nils 1,(l_ x2.zD),(i_ x2.Tick)]]) tv rfl (fun M2 nb2=>ACalls.weak (args':=[.agg [(l_ x2.zA.zJ),(i_ x2.zA.zM),(l_ x2.zA.zK),.d (.lst 3 (List.map Qa x2.zA.zL)),(l_ x2.zC),(l_ []),(l_ x2.zD),(i_ x2.Tick)]]) (H_timedsynthesis_Synthesize _ _ h3 M2 nb2) (.cons (WkV.agg (.cons (sm rfl) (.cons (sm rfl) (.cons (sm rfl) (.cons (sm rfl) (.cons (sm rfl) (.cons (WkV.nilsD _) (.cons (sm rfl) (.cons (sm rfl) .nil))))))))) .nil) rfl) pc9 ?_
 refine Rn.mov (v:=.tup [.agg [(l_ r4.zE.Kept),(l_ r4.zE.zF),.d (.lst 4 (List.map Qg r4.zE.zG)),(i_ r4.Rounds),(l_ r4.zH.zJ),(i_ r4.zH.zM),(l_ r4.zH.zK),.d (.lst 3 (List.map Qa r4.zH.zL)),(l_ r4.zO),(l_ r4.zI)],(i_ r5)]) tv rfl (Rn.ext (v:=.agg [(l_ r4.zE.Kept),(l_ r4.zE.zF),.d (.lst 4 (List.map Qg r4.zE.zG)),(i_ r4.Rounds),(l_ r4.zH.zJ),(i_ r4.zH.zM),(l_ r4.zH.zK),.d (.lst 3 (List.map Qa r4.zH.zL)),(l_ r4.zO),(l_ r4.zI)]) (vs:=[.agg [(l_ r4.zE.Kept),(l_ r4.zE.zF),.d (.lst 4 (List.map Qg r4.zE.zG)),(i_ r4.Rounds),(l_ r4.zH.zJ),(i_ r4.zH.zM),(l_ r4.zH.zK),.d (.lst 3 (List.map Qa r4.zH.zL)),(l_ r4.zO),(l_ r4.zI)],(i_ r5)]) tv rfl rfl rfl (Rn.ext (v:=(i_ r5)) (vs:=[.agg [(l_ r4.zE.Kept),(l_ r4.zE.zF),.d (.lst 4 (List.map Qg r4.zE.zG)),(i_ r4.Rounds),(l_ r4.zH.zJ),(i_ r4.zH.zM),(l_ r4.zH.zK),.d (.lst 3 (List.map Qa r4.zH.zL)),(l_ r4.zO),(l_ r4.zI)],(i_ r5)]) tv rfl rfl rfl (Rn.alloc tv rfl (Rn.storeT (v:=.agg [(l_ r4.zE.Kept),(l_ r4.zE.zF),.d (.lst 4 (List.map Qg r4.zE.zG)),(i_ r4.Rounds),(l_ r4.zH.zJ),(i_ r4.zH.zM),(l_ r4.zH.zK),.d (.lst 3 (List.map Qa r4.zH.zL)),(l_ r4.zO),(l_ r4.zI)]) (ds:=[(l_ r4.zE.Kept),(l_ r4.zE.zF),.d (.lst 4 (List.map Qg r4.zE.zG)),(i_ r4.Rounds),(l_ r4.zH.zJ),(i_ r4.zH.zM),(l_ r4.zH.zK),.d (.lst 3 (List.map Qa r4.zH.zL)),(l_ r4.zO),(l_ r4.zI)]) (cs':=[(l_ r4.zE.Kept),(l_ r4.zE.zF),.d (.lst 4 (List.map Qg r4.zE.zG)),(i_ r4.Rounds),(l_ r4.zH.zJ),(i_ r4.zH.zM),(l_ r4.zH.zK),.d (.lst 3 (List.map Qa r4.zH.zL)),(l_ r4.zO),(l_ r4.zI)]) tv rfl rfl rfl rfl rfl rfl rfl (md rfl (nt ((Tr.seq (Tr.rgn ?_)))))))))
 obtain ⟨x7,h6,h⟩:=bnd h
 refine Rn.call (args:=[.nils 1]) tv rfl (fun M2 nb2=>ACalls.weak (args':=[(l_ [])]) (H_overseerlaw46_clock _ _ h6 M2 nb2) (.cons (WkV.nilsD _) .nil) rfl) pc9 ?_
 obtain ⟨⟨r9,r10⟩,h8,h⟩:=bnd h
 refine Rn.call (args:=[.agg [(l_ x7.zA.zJ),(i_ x7.zA.zM),(l_ x7.zA.zK),.d (.lst 3 (List.map Qa x7.zA.zL)),(l_ x7.zC),.nils 1,(l_ x7.zD),(i_ x7.Tick)]]) tv rfl (fun M2 nb2=>ACalls.weak (args':=[.agg [(l_ x7.zA.zJ),(i_ x7.zA.zM),(l_ x7.zA.zK),.d (.lst 3 (List.map Qa x7.zA.zL)),(l_ x7.zC),(l_ []),(l_ x7.zD),(i_ x7.Tick)]]) (H_timedsynthesis_Synthesize _ _ h8 M2 nb2) (.cons (WkV.agg (.cons (sm rfl) (.cons (sm rfl) (.cons (sm rfl) (.cons (sm rfl) (.cons (sm rfl) (.cons (WkV.nilsD _) (.cons (sm rfl) (.cons (sm rfl) .nil))))))))) .nil) rfl) pc9 ?_
 refine Rn.mov (v:=.tup [.agg [(l_ r9.zE.Kept),(l_ r9.zE.zF),.d (.lst 4 (List.map Qg r9.zE.zG)),(i_ r9.Rounds),(l_ r9.zH.zJ),(i_ r9.zH.zM),(l_ r9.zH.zK),.d (.lst 3 (List.map Qa r9.zH.zL)),(l_ r9.zO),(l_ r9.zI)],(i_ r10)]) tv rfl (Rn.ext (v:=.agg [(l_ r9.zE.Kept),(l_ r9.zE.zF),.d (.lst 4 (List.map Qg r9.zE.zG)),(i_ r9.Rounds),(l_ r9.zH.zJ),(i_ r9.zH.zM),(l_ r9.zH.zK),.d (.lst 3 (List.map Qa r9.zH.zL)),(l_ r9.zO),(l_ r9.zI)]) (vs:=[.agg [(l_ r9.zE.Kept),(l_ r9.zE.zF),.d (.lst 4 (List.map Qg r9.zE.zG)),(i_ r9.Rounds),(l_ r9.zH.zJ),(i_ r9.zH.zM),(l_ r9.zH.zK),.d (.lst 3 (List.map Qa r9.zH.zL)),(l_ r9.zO),(l_ r9.zI)],(i_ r10)]) tv rfl rfl rfl (Rn.ext (v:=(i_ r10)) (vs:=[.agg [(l_ r9.zE.Kept),(l_ r9.zE.zF),.d (.lst 4 (List.map Qg r9.zE.zG)),(i_ r9.Rounds),(l_ r9.zH.zJ),(i_ r9.zH.zM),(l_ r9.zH.zK),.d (.lst 3 (List.map Qa r9.zH.zL)),(l_ r9.zO),(l_ r9.zI)],(i_ r10)]) tv rfl rfl rfl (Rn.alloc tv rfl (Rn.storeT (v:=.agg [(l_ r9.zE.Kept),(l_ r9.zE.zF),.d (.lst 4 (List.map Qg r9.zE.zG)),(i_ r9.Rounds),(l_ r9.zH.zJ),(i_ r9.zH.zM),(l_ r9.zH.zK),.d (.lst 3 (List.map Qa r9.zH.zL)),(l_ r9.zO),(l_ r9.zI)]) (ds:=[(l_ r9.zE.Kept),(l_ r9.zE.zF),.d (.lst 4 (List.map Qg r9.zE.zG)),(i_ r9.Rounds),(l_ r9.zH.zJ),(i_ r9.zH.zM),(l_ r9.zH.zK),.d (.lst 3 (List.map Qa r9.zH.zL)),(l_ r9.zO),(l_ r9.zI)]) (cs':=[(l_ r9.zE.Kept),(l_ r9.zE.zF),.d (.lst 4 (List.map Qg r9.zE.zG)),(i_ r9.Rounds),(l_ r9.zH.zJ),(i_ r9.zH.zM),(l_ r9.zH.zK),.d (.lst 3 (List.map Qa r9.zH.zL)),(l_ r9.zO),(l_ r9.zI)]) tv rfl rfl rfl rfl rfl rfl rfl (md rfl (nt ((Tr.seq (Tr.rgn ?_)))))))))
 obtain ⟨⟨r12,r13⟩,h11,h⟩:=bnd h
 refine Rn.call (args:=[(i_ 0),(i_ 1),(i_ 1),(i_ 2)]) tv rfl (H_timedsynthesis_Deadline _ _ _ _ _ h11) pc9 (Rn.mov (v:=.tup [(Qm r12),(i_ r13)]) tv rfl (Rn.ext (v:=(Qm r12)) (vs:=[(Qm r12),(i_ r13)]) tv rfl rfl rfl (Rn.ext (v:=(i_ r13)) (vs:=[(Qm r12),(i_ r13)]) tv rfl rfl rfl (Rn.alloc tv rfl (Rn.storeT (v:=(Qm r12)) (ds:=(Qr r12)) (cs':=(Qr r12)) tv rfl rfl rfl rfl rfl rfl rfl (md rfl (Rn.nil (toN ?_))))))))
 refine Tr.cutB (fun (x27:Bool)=>⟨look [(0,(b_ x27))],Qo Γ.n0 (bxs [(1,.cells ([(l_ r4.zE.Kept),(l_ r4.zE.zF),.d (.lst 4 (List.map Qg r4.zE.zG)),(i_ r4.Rounds),(l_ r4.zH.zJ),(i_ r4.zH.zM),(l_ r4.zH.zK),.d (.lst 3 (List.map Qa r4.zH.zL)),(l_ r4.zO),(l_ r4.zI)])),(3,.cells ([(l_ r9.zE.Kept),(l_ r9.zE.zF),.d (.lst 4 (List.map Qg r9.zE.zG)),(i_ r9.Rounds),(l_ r9.zH.zJ),(i_ r9.zH.zM),(l_ r9.zH.zK),.d (.lst 3 (List.map Qa r9.zH.zL)),(l_ r9.zO),(l_ r9.zI)])),(5,.cells ((Qr r12)))]) M,Γ.n0 + 77⟩) h (fun z h=>?_) (fun z h=>?_)
 ·refine Tr.rgn (md rfl (Rn.bin tv rfl rfl rfl (md rfl ?_)))
  refine Qbo (r5 == 0) (fun hb14=>?_) (fun hb14=>?_)
  ·replace h:=bT hb14 h
   refine Rn.fldP (o':=9) (gw rfl hb14) rfl rfl (Rn.load (v:=(l_ r4.zI)) (gw rfl hb14) rfl (Qk rfl) rfl rfl (Rn.bslice (xs:=[(i_ 0)]) (cs:=[(i_ 0)]) (gw rfl hb14) rfl rfl rfl rfl ?_))
   refine Rn.weak (by show WeakSt Γ _ ⟨look [(0,(b_ false)),(1,.ptr (Γ.n0 + 1) 0),(2,(i_ r5)),(3,.ptr (Γ.n0 + 3) 0),(4,(i_ r10)),(5,.ptr (Γ.n0 + 5) 0),(6,(i_ r13)),(7,.tup [.agg [(l_ r4.zE.Kept),(l_ r4.zE.zF),.d (.lst 4 (List.map Qg r4.zE.zG)),(i_ r4.Rounds),(l_ r4.zH.zJ),(i_ r4.zH.zM),(l_ r4.zH.zK),.d (.lst 3 (List.map Qa r4.zH.zL)),(l_ r4.zO),(l_ r4.zI)],(i_ r5)]),(8,(l_ [0])),(9,.agg [(l_ x2.zA.zJ),(i_ x2.zA.zM),(l_ x2.zA.zK),.d (.lst 3 (List.map Qa x2.zA.zL)),(l_ x2.zC),.nils 1,(l_ x2.zD),(i_ x2.Tick)]),(10,.tup [.agg [(l_ r4.zE.Kept),(l_ r4.zE.zF),.d (.lst 4 (List.map Qg r4.zE.zG)),(i_ r4.Rounds),(l_ r4.zH.zJ),(i_ r4.zH.zM),(l_ r4.zH.zK),.d (.lst 3 (List.map Qa r4.zH.zL)),(l_ r4.zO),(l_ r4.zI)],(i_ r5)]),(11,.agg [(l_ r4.zE.Kept),(l_ r4.zE.zF),.d (.lst 4 (List.map Qg r4.zE.zG)),(i_ r4.Rounds),(l_ r4.zH.zJ),(i_ r4.zH.zM),(l_ r4.zH.zK),.d (.lst 3 (List.map Qa r4.zH.zL)),(l_ r4.zO),(l_ r4.zI)]),(12,(i_ r5)),(13,.tup [.agg [(l_ r9.zE.Kept),(l_ r9.zE.zF),.d (.lst 4 (List.map Qg r9.zE.zG)),(i_ r9.Rounds),(l_ r9.zH.zJ),(i_ r9.zH.zM),(l_ r9.zH.zK),.d (.lst 3 (List.map Qa r9.zH.zL)),(l_ r9.zO),(l_ r9.zI)],(i_ r10)]),(14,.agg [(l_ x7.zA.zJ),(i_ x7.zA.zM),(l_ x7.zA.zK),.d (.lst 3 (List.map Qa x7.zA.zL)),(l_ x7.zC),.nils 1,(l_ x7.zD),(i_ x7.Tick)]),(15,.tup [.agg [(l_ r9.zE.Kept),(l_ r9.zE.zF),.d (.lst 4 (List.map Qg r9.zE.zG)),(i_ r9.Rounds),(l_ r9.zH.zJ),(i_ r9.zH.zM),(l_ r9.zH.zK),.d (.lst 3 (List.map Qa r9.zH.zL)),(l_ r9.zO),(l_ r9.zI)],(i_ r10)]),(16,.agg [(l_ r9.zE.Kept),(l_ r9.zE.zF),.d (.lst 4 (List.map Qg r9.zE.zG)),(i_ r9.Rounds),(l_ r9.zH.zJ),(i_ r9.zH.zM),(l_ r9.zH.zK),.d (.lst 3 (List.map Qa r9.zH.zL)),(l_ r9.zO),(l_ r9.zI)]),(17,(i_ r10)),(18,.tup [(Qm r12),(i_ r13)]),(19,.tup [(Qm r12),(i_ r13)]),(20,(Qm r12)),(21,(i_ r13)),(22,(i_ r5)),(23,(b_ (r5 == 0))),(24,(b_ (r5 == 0))),(25,.ptr (Γ.n0 + 1) 9),(26,(l_ r4.zI)),(27,(l_ [0]))],Qo Γ.n0 (bxs [(1,.cells ([(l_ r4.zE.Kept),(l_ r4.zE.zF),.d (.lst 4 (List.map Qg r4.zE.zG)),(i_ r4.Rounds),(l_ r4.zH.zJ),(i_ r4.zH.zM),(l_ r4.zH.zK),.d (.lst 3 (List.map Qa r4.zH.zL)),(l_ r4.zO),(l_ r4.zI)])),(3,.cells ([(l_ r9.zE.Kept),(l_ r9.zE.zF),.d (.lst 4 (List.map Qg r9.zE.zG)),(i_ r9.Rounds),(l_ r9.zH.zJ),(i_ r9.zH.zM),(l_ r9.zH.zK),.d (.lst 3 (List.map Qa r9.zH.zL)),(l_ r9.zO),(l_ r9.zI)])),(5,.cells ((Qr r12)))]) M,Γ.n0 + 77⟩; exact Qfu 27 [.int .i64 0] rfl rfl ⟨(.same rfl),(fPtr rfl),(.same rfl),(fPtr rfl),(.same rfl),(fPtr rfl),(.same rfl),(.same rfl),(.same rfl),(.same rfl),(.same rfl),(.same rfl),(.same rfl),(.same rfl),(.same rfl),(.same rfl),(.same rfl),(.same rfl),(.same rfl),(.same rfl),(.same rfl),(.same rfl),(.same rfl),(.same rfl),(.same rfl),(fPtr rfl),(.same rfl),(fSl rfl rfl),tv⟩ ⟨⟨_,rfl,rfl,(.same rfl)⟩,⟨_,rfl,rfl,(.same rfl)⟩,⟨_,rfl,rfl,(.same rfl)⟩,tv⟩ rfl) ?_
   obtain ⟨x16,h15,h⟩:=bnd h
   refine Rn.call (args:=[(l_ r4.zI),(l_ [0])]) (gw rfl hb14) rfl (H_word_Equal _ _ _ h15) pc9 (Rn.pickT (v:=(b_ x16)) tv rfl hb14 rfl (md rfl ?_))
   refine Qbo x16 (fun hb17=>?_) (fun hb17=>?_)
   ·replace h:=bT hb17 h
    refine Rn.fldP (o':=9) (gw rfl hb17) rfl rfl (Rn.load (v:=(l_ r4.zI)) (gw rfl hb17) rfl (Qk rfl) rfl rfl (Rn.lenD (gw rfl hb17) rfl (Rn.bin (gw rfl hb17) rfl rfl rfl (Rn.pickT (v:=(b_ ((r4.zI.length:Int) == 1))) tv rfl hb17 rfl (md rfl ?_)))))
    refine Qbo ((r4.zI.length:Int) == 1) (fun hb18=>?_) (fun hb18=>?_)
    ·replace h:=bT hb18 h
     refine Rn.fldP (o':=4) (gw rfl hb18) rfl rfl (Rn.fldP (o':=5) (gw rfl hb18) rfl rfl (Rn.load (v:=(i_ r4.zH.zM)) (gw rfl hb18) rfl (Qk rfl) rfl rfl (Rn.bin (gw rfl hb18) rfl rfl rfl (Rn.pickT (v:=(b_ (r4.zH.zM == 1))) tv rfl hb18 rfl (md rfl ?_)))))
     refine Qbo (r4.zH.zM == 1) (fun hb19=>?_) (fun hb19=>?_)
     ·replace h:=bT hb19 h
      refine Rn.movD (gw rfl hb19) rfl (Rn.bin (gw rfl hb19) rfl rfl rfl (Rn.pickT (v:=(b_ (r10 == 0))) tv rfl hb19 rfl (md rfl ?_)))
      refine Qbo (r10 == 0) (fun hb20=>?_) (fun hb20=>?_)
      ·replace h:=bT hb20 h
       refine Rn.fldP (o':=0) (gw rfl hb20) rfl rfl (Rn.fldP (o':=2) (gw rfl hb20) rfl rfl (Rn.load (v:=.d (.lst 4 (List.map Qg r9.zE.zG))) (gw rfl hb20) rfl (Qk rfl) rfl rfl (Rn.lenD (gw rfl hb20) rfl (Rn.bin (gw rfl hb20) rfl rfl rfl (Rn.pickT (v:=(b_ ((r9.zE.zG.length:Int) == 2))) tv rfl hb20 rfl (md rfl ?_))))))
       refine Qbo ((r9.zE.zG.length:Int) == 2) (fun hb21=>?_) (fun hb21=>?_)
       ·replace h:=bT hb21 h
        refine Rn.fldP (o':=0) (gw rfl hb21) rfl rfl (Rn.fldP (o':=2) (gw rfl hb21) rfl rfl (Rn.load (v:=.d (.lst 4 (List.map Qg r9.zE.zG))) (gw rfl hb21) rfl (Qk rfl) rfl rfl ?_))
        obtain ⟨x22,h23,h⟩:=bnd h
        refine Rn.idxD (e:=Qg) (gw rfl hb21) rfl rfl h23 (Rn.loadCA (vs:=(Qk5 x22)) (gw rfl hb21) rfl rfl rfl (Rn.build (v:=.agg [(i_ 0),(i_ 2),(i_ 4),(i_ 2)]) (gw rfl hb21) rfl (Rn.eqa (r:=((x22.State == 0) && ((x22.Rank == 2) && ((x22.Reason == 4) && ((x22.Event == 2) && true))))) (gw rfl hb21) rfl rfl rfl (Rn.pickT (v:=(b_ ((x22.State == 0) && ((x22.Rank == 2) && ((x22.Reason == 4) && ((x22.Event == 2) && true)))))) tv rfl hb21 rfl (md rfl ?_)))))
        refine Qbo ((x22.State == 0) && ((x22.Rank == 2) && ((x22.Reason == 4) && ((x22.Event == 2) && true)))) (fun hb24=>?_) (fun hb24=>?_)
        ·replace h:=bT hb24 h
         refine Rn.movD (gw rfl hb24) rfl (Rn.bin (gw rfl hb24) rfl rfl rfl (Rn.pickT (v:=(b_ (r13 == 0))) tv rfl hb24 rfl (md rfl ?_)))
         refine Qbo (r13 == 0) (fun hb25=>?_) (fun hb25=>?_)
         ·replace h:=bT hb25 h
          refine Rn.fldP (o':=1) (gw rfl hb25) rfl rfl (Rn.load (v:=(i_ r12.zM)) (gw rfl hb25) rfl (Qk rfl) rfl rfl (Rn.bin (gw rfl hb25) rfl rfl rfl (Rn.pickT (v:=(b_ (r12.zM == 3))) tv rfl hb25 rfl (md rfl ?_))))
          refine Qbo (r12.zM == 3) (fun hb26=>?_) (fun hb26=>?_)
          ·replace h:=bT hb26 h
           refine Rn.fldP (o':=3) (gw rfl hb26) rfl rfl (Rn.load (v:=.d (.lst 3 (List.map Qa r12.zL))) (gw rfl hb26) rfl (Qk rfl) rfl rfl (Rn.lenD (gw rfl hb26) rfl (Rn.bin (gw rfl hb26) rfl rfl rfl (Rn.pickT (v:=(b_ ((r12.zL.length:Int) == 8))) tv rfl hb26 rfl (md rfl (Rn.nil ?_))))))
           replace h:=si h; subst h
           exact Qh [] ⟨(sm rfl),tv⟩ ⟨⟨_,rfl,rfl,(.same rfl)⟩,⟨_,rfl,rfl,(.same rfl)⟩,⟨_,rfl,rfl,(.same rfl)⟩,tv⟩ rfl
          ·replace h:=bF hb26 h
           refine Rn.sk (nw rfl hb26) (Rn.sk (nw rfl hb26) (Rn.sk (nw rfl hb26) (Rn.sk (nw rfl hb26) (Rn.pickF (v:=(b_ false)) tv rfl hb26 rfl (md rfl (Rn.nil ?_))))))
           replace h:=si h; subst h
           exact Qh [] ⟨(sm rfl),tv⟩ ⟨⟨_,rfl,rfl,(.same rfl)⟩,⟨_,rfl,rfl,(.same rfl)⟩,⟨_,rfl,rfl,(.same rfl)⟩,tv⟩ rfl
         ·replace h:=bF hb25 h
          refine Rn.sk (nw rfl hb25) (Rn.sk (nw rfl hb25) (Rn.sk (nw rfl hb25) (Rn.pickF (v:=(b_ false)) tv rfl hb25 rfl (md rfl (Rn.sk (nw (b:=false) rfl rfl) (Rn.sk (nw (b:=false) rfl rfl) (Rn.sk (nw (b:=false) rfl rfl) (Rn.sk (nw (b:=false) rfl rfl) (Rn.pickF (v:=(b_ false)) tv rfl rfl rfl (md rfl (Rn.nil ?_)))))))))))
          replace h:=si h; subst h
          exact Qh [] ⟨(sm rfl),tv⟩ ⟨⟨_,rfl,rfl,(.same rfl)⟩,⟨_,rfl,rfl,(.same rfl)⟩,⟨_,rfl,rfl,(.same rfl)⟩,tv⟩ rfl
        ·replace h:=bF hb24 h
         refine Rn.sk (nw rfl hb24) (Rn.sk (nw rfl hb24) (Rn.pickF (v:=(b_ false)) tv rfl hb24 rfl (md rfl (Rn.sk (nw (b:=false) rfl rfl) (Rn.sk (nw (b:=false) rfl rfl) (Rn.sk (nw (b:=false) rfl rfl) (Rn.pickF (v:=(b_ false)) tv rfl rfl rfl (md rfl (Rn.sk (nw (b:=false) rfl rfl) (Rn.sk (nw (b:=false) rfl rfl) (Rn.sk (nw (b:=false) rfl rfl) (Rn.sk (nw (b:=false) rfl rfl) (Rn.pickF (v:=(b_ false)) tv rfl rfl rfl (md rfl (Rn.nil ?_)))))))))))))))
         replace h:=si h; subst h
         exact Qh [] ⟨(sm rfl),tv⟩ ⟨⟨_,rfl,rfl,(.same rfl)⟩,⟨_,rfl,rfl,(.same rfl)⟩,⟨_,rfl,rfl,(.same rfl)⟩,tv⟩ rfl
       ·replace h:=bF hb21 h
        refine Rn.sk (nw rfl hb21) (Rn.sk (nw rfl hb21) (Rn.sk (nw rfl hb21) (Rn.sk (nw rfl hb21) (Rn.sk (nw rfl hb21) (Rn.sk (nw rfl hb21) (Rn.sk (nw rfl hb21) (Rn.pickF (v:=(b_ false)) tv rfl hb21 rfl (md rfl (Rn.sk (nw (b:=false) rfl rfl) (Rn.sk (nw (b:=false) rfl rfl) (Rn.pickF (v:=(b_ false)) tv rfl rfl rfl (md rfl (Rn.sk (nw (b:=false) rfl rfl) (Rn.sk (nw (b:=false) rfl rfl) (Rn.sk (nw (b:=false) rfl rfl) (Rn.pickF (v:=(b_ false)) tv rfl rfl rfl (md rfl (Rn.sk (nw (b:=false) rfl rfl) (Rn.sk (nw (b:=false) rfl rfl) (Rn.sk (nw (b:=false) rfl rfl) (Rn.sk (nw (b:=false) rfl rfl) (Rn.pickF (v:=(b_ false)) tv rfl rfl rfl (md rfl (Rn.nil ?_))))))))))))))))))))))))
        replace h:=si h; subst h
        exact Qh [] ⟨(sm rfl),tv⟩ ⟨⟨_,rfl,rfl,(.same rfl)⟩,⟨_,rfl,rfl,(.same rfl)⟩,⟨_,rfl,rfl,(.same rfl)⟩,tv⟩ rfl
      ·replace h:=bF hb20 h
       refine Rn.sk (nw rfl hb20) (Rn.sk (nw rfl hb20) (Rn.sk (nw rfl hb20) (Rn.sk (nw rfl hb20) (Rn.sk (nw rfl hb20) (Rn.pickF (v:=(b_ false)) tv rfl hb20 rfl (md rfl (Rn.sk (nw (b:=false) rfl rfl) (Rn.sk (nw (b:=false) rfl rfl) (Rn.sk (nw (b:=false) rfl rfl) (Rn.sk (nw (b:=false) rfl rfl) (Rn.sk (nw (b:=false) rfl rfl) (Rn.sk (nw (b:=false) rfl rfl) (Rn.sk (nw (b:=false) rfl rfl) (Rn.pickF (v:=(b_ false)) tv rfl rfl rfl (md rfl (Rn.sk (nw (b:=false) rfl rfl) (Rn.sk (nw (b:=false) rfl rfl) (Rn.pickF (v:=(b_ false)) tv rfl rfl rfl (md rfl (Rn.sk (nw (b:=false) rfl rfl) (Rn.sk (nw (b:=false) rfl rfl) (Rn.sk (nw (b:=false) rfl rfl) (Rn.pickF (v:=(b_ false)) tv rfl rfl rfl (md rfl (Rn.sk (nw (b:=false) rfl rfl) (Rn.sk (nw (b:=false) rfl rfl) (Rn.sk (nw (b:=false) rfl rfl) (Rn.sk (nw (b:=false) rfl rfl) (Rn.pickF (v:=(b_ false)) tv rfl rfl rfl (md rfl (Rn.nil ?_)))))))))))))))))))))))))))))))
       replace h:=si h; subst h
       exact Qh [] ⟨(sm rfl),tv⟩ ⟨⟨_,rfl,rfl,(.same rfl)⟩,⟨_,rfl,rfl,(.same rfl)⟩,⟨_,rfl,rfl,(.same rfl)⟩,tv⟩ rfl
     ·replace h:=bF hb19 h
      refine Rn.sk (nw rfl hb19) (Rn.sk (nw rfl hb19) (Rn.pickF (v:=(b_ false)) tv rfl hb19 rfl (md rfl (Rn.sk (nw (b:=false) rfl rfl) (Rn.sk (nw (b:=false) rfl rfl) (Rn.sk (nw (b:=false) rfl rfl) (Rn.sk (nw (b:=false) rfl rfl) (Rn.sk (nw (b:=false) rfl rfl) (Rn.pickF (v:=(b_ false)) tv rfl rfl rfl (md rfl (Rn.sk (nw (b:=false) rfl rfl) (Rn.sk (nw (b:=false) rfl rfl) (Rn.sk (nw (b:=false) rfl rfl) (Rn.sk (nw (b:=false) rfl rfl) (Rn.sk (nw (b:=false) rfl rfl) (Rn.sk (nw (b:=false) rfl rfl) (Rn.sk (nw (b:=false) rfl rfl) (Rn.pickF (v:=(b_ false)) tv rfl rfl rfl (md rfl (Rn.sk (nw (b:=false) rfl rfl) (Rn.sk (nw (b:=false) rfl rfl) (Rn.pickF (v:=(b_ false)) tv rfl rfl rfl (md rfl (Rn.sk (nw (b:=false) rfl rfl) (Rn.sk (nw (b:=false) rfl rfl) (Rn.sk (nw (b:=false) rfl rfl) (Rn.pickF (v:=(b_ false)) tv rfl rfl rfl (md rfl (Rn.sk (nw (b:=false) rfl rfl) (Rn.sk (nw (b:=false) rfl rfl) (Rn.sk (nw (b:=false) rfl rfl) (Rn.sk (nw (b:=false) rfl rfl) (Rn.pickF (v:=(b_ false)) tv rfl rfl rfl (md rfl (Rn.nil ?_)))))))))))))))))))))))))))))))))))
      replace h:=si h; subst h
      exact Qh [] ⟨(sm rfl),tv⟩ ⟨⟨_,rfl,rfl,(.same rfl)⟩,⟨_,rfl,rfl,(.same rfl)⟩,⟨_,rfl,rfl,(.same rfl)⟩,tv⟩ rfl
    ·replace h:=bF hb18 h
     refine Rn.sk (nw rfl hb18) (Rn.sk (nw rfl hb18) (Rn.sk (nw rfl hb18) (Rn.sk (nw rfl hb18) (Rn.pickF (v:=(b_ false)) tv rfl hb18 rfl (md rfl (Rn.sk (nw (b:=false) rfl rfl) (Rn.sk (nw (b:=false) rfl rfl) (Rn.pickF (v:=(b_ false)) tv rfl rfl rfl (md rfl (Rn.sk (nw (b:=false) rfl rfl) (Rn.sk (nw (b:=false) rfl rfl) (Rn.sk (nw (b:=false) rfl rfl) (Rn.sk (nw (b:=false) rfl rfl) (Rn.sk (nw (b:=false) rfl rfl) (Rn.pickF (v:=(b_ false)) tv rfl rfl rfl (md rfl (Rn.sk (nw (b:=false) rfl rfl) (Rn.sk (nw (b:=false) rfl rfl) (Rn.sk (nw (b:=false) rfl rfl) (Rn.sk (nw (b:=false) rfl rfl) (Rn.sk (nw (b:=false) rfl rfl) (Rn.sk (nw (b:=false) rfl rfl) (Rn.sk (nw (b:=false) rfl rfl) (Rn.pickF (v:=(b_ false)) tv rfl rfl rfl (md rfl (Rn.sk (nw (b:=false) rfl rfl) (Rn.sk (nw (b:=false) rfl rfl) (Rn.pickF (v:=(b_ false)) tv rfl rfl rfl (md rfl (Rn.sk (nw (b:=false) rfl rfl) (Rn.sk (nw (b:=false) rfl rfl) (Rn.sk (nw (b:=false) rfl rfl) (Rn.pickF (v:=(b_ false)) tv rfl rfl rfl (md rfl (Rn.sk (nw (b:=false) rfl rfl) (Rn.sk (nw (b:=false) rfl rfl) (Rn.sk (nw (b:=false) rfl rfl) (Rn.sk (nw (b:=false) rfl rfl) (Rn.pickF (v:=(b_ false)) tv rfl rfl rfl ?_)))))))))))))))))))))))))))))))))))))))
     refine md rfl (Rn.nil ?_)
     replace h:=si h; subst h
     exact Qh [] ⟨(sm rfl),tv⟩ ⟨⟨_,rfl,rfl,(.same rfl)⟩,⟨_,rfl,rfl,(.same rfl)⟩,⟨_,rfl,rfl,(.same rfl)⟩,tv⟩ rfl
   ·replace h:=bF hb17 h
    refine Rn.sk (nw rfl hb17) (Rn.sk (nw rfl hb17) (Rn.sk (nw rfl hb17) (Rn.sk (nw rfl hb17) (Rn.pickF (v:=(b_ false)) tv rfl hb17 rfl (md rfl (Rn.sk (nw (b:=false) rfl rfl) (Rn.sk (nw (b:=false) rfl rfl) (Rn.sk (nw (b:=false) rfl rfl) (Rn.sk (nw (b:=false) rfl rfl) (Rn.pickF (v:=(b_ false)) tv rfl rfl rfl (md rfl (Rn.sk (nw (b:=false) rfl rfl) (Rn.sk (nw (b:=false) rfl rfl) (Rn.pickF (v:=(b_ false)) tv rfl rfl rfl (md rfl (Rn.sk (nw (b:=false) rfl rfl) (Rn.sk (nw (b:=false) rfl rfl) (Rn.sk (nw (b:=false) rfl rfl) (Rn.sk (nw (b:=false) rfl rfl) (Rn.sk (nw (b:=false) rfl rfl) (Rn.pickF (v:=(b_ false)) tv rfl rfl rfl (md rfl (Rn.sk (nw (b:=false) rfl rfl) (Rn.sk (nw (b:=false) rfl rfl) (Rn.sk (nw (b:=false) rfl rfl) (Rn.sk (nw (b:=false) rfl rfl) (Rn.sk (nw (b:=false) rfl rfl) (Rn.sk (nw (b:=false) rfl rfl) (Rn.sk (nw (b:=false) rfl rfl) (Rn.pickF (v:=(b_ false)) tv rfl rfl rfl (md rfl (Rn.sk (nw (b:=false) rfl rfl) (Rn.sk (nw (b:=false) rfl rfl) (Rn.pickF (v:=(b_ false)) tv rfl rfl rfl (md rfl (Rn.sk (nw (b:=false) rfl rfl) (Rn.sk (nw (b:=false) rfl rfl) (Rn.sk (nw (b:=false) rfl rfl) (Rn.pickF (v:=(b_ false)) tv rfl rfl rfl ?_)))))))))))))))))))))))))))))))))))))))
    refine md rfl (Rn.sk (nw (b:=false) rfl rfl) (Rn.sk (nw (b:=false) rfl rfl) (Rn.sk (nw (b:=false) rfl rfl) (Rn.sk (nw (b:=false) rfl rfl) (Rn.pickF (v:=(b_ false)) tv rfl rfl rfl (md rfl (Rn.nil ?_)))))))
    replace h:=si h; subst h
    exact Qh [] ⟨(sm rfl),tv⟩ ⟨⟨_,rfl,rfl,(.same rfl)⟩,⟨_,rfl,rfl,(.same rfl)⟩,⟨_,rfl,rfl,(.same rfl)⟩,tv⟩ rfl
  ·replace h:=bF hb14 h
   refine Rn.sk (nw rfl hb14) (Rn.sk (nw rfl hb14) (Rn.sk (nw rfl hb14) (Rn.sk (nw rfl hb14) (Rn.pickF (v:=(b_ false)) tv rfl hb14 rfl (md rfl (Rn.sk (nw (b:=false) rfl rfl) (Rn.sk (nw (b:=false) rfl rfl) (Rn.sk (nw (b:=false) rfl rfl) (Rn.sk (nw (b:=false) rfl rfl) (Rn.pickF (v:=(b_ false)) tv rfl rfl rfl (md rfl (Rn.sk (nw (b:=false) rfl rfl) (Rn.sk (nw (b:=false) rfl rfl) (Rn.sk (nw (b:=false) rfl rfl) (Rn.sk (nw (b:=false) rfl rfl) (Rn.pickF (v:=(b_ false)) tv rfl rfl rfl (md rfl (Rn.sk (nw (b:=false) rfl rfl) (Rn.sk (nw (b:=false) rfl rfl) (Rn.pickF (v:=(b_ false)) tv rfl rfl rfl (md rfl (Rn.sk (nw (b:=false) rfl rfl) (Rn.sk (nw (b:=false) rfl rfl) (Rn.sk (nw (b:=false) rfl rfl) (Rn.sk (nw (b:=false) rfl rfl) (Rn.sk (nw (b:=false) rfl rfl) (Rn.pickF (v:=(b_ false)) tv rfl rfl rfl (md rfl (Rn.sk (nw (b:=false) rfl rfl) (Rn.sk (nw (b:=false) rfl rfl) (Rn.sk (nw (b:=false) rfl rfl) (Rn.sk (nw (b:=false) rfl rfl) (Rn.sk (nw (b:=false) rfl rfl) (Rn.sk (nw (b:=false) rfl rfl) (Rn.sk (nw (b:=false) rfl rfl) (Rn.pickF (v:=(b_ false)) tv rfl rfl rfl (md rfl (Rn.sk (nw (b:=false) rfl rfl) (Rn.sk (nw (b:=false) rfl rfl) ?_)))))))))))))))))))))))))))))))))))))))
   refine Rn.pickF (v:=(b_ false)) tv rfl rfl rfl (md rfl (Rn.sk (nw (b:=false) rfl rfl) (Rn.sk (nw (b:=false) rfl rfl) (Rn.sk (nw (b:=false) rfl rfl) (Rn.pickF (v:=(b_ false)) tv rfl rfl rfl (md rfl (Rn.sk (nw (b:=false) rfl rfl) (Rn.sk (nw (b:=false) rfl rfl) (Rn.sk (nw (b:=false) rfl rfl) (Rn.sk (nw (b:=false) rfl rfl) (Rn.pickF (v:=(b_ false)) tv rfl rfl rfl (md rfl (Rn.nil ?_)))))))))))))
   replace h:=si h; subst h
   exact Qh [] ⟨(sm rfl),tv⟩ ⟨⟨_,rfl,rfl,(.same rfl)⟩,⟨_,rfl,rfl,(.same rfl)⟩,⟨_,rfl,rfl,(.same rfl)⟩,tv⟩ rfl
 ·obtain ⟨x27,rfl⟩ : ∃ x,x = z:=⟨_,rfl⟩
  refine Tr.ret ?_
  replace h:=si h; subst h
  exact ⟨.inr rfl,(b_ x27),rfl,fun _ _ _ _ h=>h,tv,fun k hk=>Qi hk⟩
theorem Qp8 {P:Program} {c:Nat} (hcf:Qx P c = some Qfn) (fuel:Nat):Qfm P c (Qbd fuel):=by
 intro s1 r h
 refine Qec hcf rfl fun Γ M hP hnt hM=>?_
 subst hP
 refine Tr.init [(0,.d (.int .u8 s1))] rfl ?_
 unfold Qbd at h
 unfold Qfn
 refine sr ((Rn.movTC (v:=.nils 1) tv (nt ((sr ((Rn.movTC (v:=.nils 1) tv (Rn.nil (toN ?_)))))))))
 refine Tr.cutB (fun (out12:List Int)=>⟨look [(3,(o_ out12))],Qo Γ.n0 (bxs []) M,Γ.n0 + 19⟩) h (fun z h=>?_) (fun z h=>?_)
 ·refine sr ((md rfl (nt ((Tr.block ?_)))))
  refine Tr.loop (mk:=fun ((out2,i3):(List Int)×Int)=>⟨look [(0,.d (.int .u8 s1)),(3,(o_ out2)),(4,(i_ i3))],Qo Γ.n0 (bxs []) M,Γ.n0 + 19⟩) h (by exact Ql ⟨(sm rfl),(WkV.nilsO _),(sm rfl),tv⟩ tv rfl) (fun k4 z h=>?_)
  ·obtain ⟨out2,i3⟩:=z
   replace h:_ = some _:=h
   refine Tr.seq (sr ((md rfl (Rn.bin tv rfl rfl rfl (Rn.nil (toN ?_))))))
   refine Tr.cond rfl (fun hb5=>?_) (fun hb5=>?_)
   ·replace h:=ifT hb5 h
    refine Tr.skip (toN ?_)
    refine Tr.cutB (fun (out11:List Int)=>⟨look [(0,.d (.int .u8 s1)),(3,(o_ out11)),(4,(i_ i3))],Qo Γ.n0 (bxs []) M,Γ.n0 + 19⟩) h (fun z h=>?_) (fun z h=>?_)
    ·refine Tr.block (sr ((md rfl (md rfl ?_))))
     obtain ⟨s6,h7,h⟩:=bnd h
     refine Rn.bin tv rfl rfl (Qbbm h7) (Rn.bin tv rfl rfl rfl (Rn.bin tv rfl rfl rfl (Rn.nil (toN ?_))))
     refine Tr.cond rfl (fun hb8=>?_) (fun hb8=>?_)
     ·replace h:=bT hb8 h
      refine Tr.rgn (Rn.movTO tv rfl (md rfl (Rn.bslice (xs:=[(i_ i3)]) (cs:=[(i_ i3)]) tv rfl rfl rfl rfl ?_)))
      obtain ⟨x9,h10,h⟩:=bnd h
      refine Rn.app (e:=(eI .i64)) tv rfl rfl rfl (Qcy rfl rfl rfl) h10 rfl (Rn.movTO tv rfl (Rn.nil ?_))
      replace h:=si h; subst h
      exact Qh [16] ⟨(sm rfl),(sm rfl),(sm rfl),tv⟩ tv rfl
     ·replace h:=bF hb8 h
      refine Tr.skip ?_
      replace h:=si h; subst h
      exact Qh [] ⟨(sm rfl),(sm rfl),(sm rfl),tv⟩ tv rfl
    ·obtain ⟨out11,rfl⟩ : ∃ x,x = z:=⟨_,rfl⟩
     refine Tr.rgn (md rfl (Rn.bin tv rfl rfl rfl (md rfl (Rn.nil ?_))))
     exact ⟨_,h,(by exact Ql ⟨(sm rfl),(sm rfl),(sm rfl),tv⟩ tv rfl)⟩
   ·replace h:=ifF hb5 h
    refine Tr.exit ?_
    replace h:=si h; subst h
    exact Qh [] ⟨(sm rfl),tv⟩ tv rfl
 ·obtain ⟨out12,rfl⟩ : ∃ x,x = z:=⟨_,rfl⟩
  refine sr ((Rn.movTO tv rfl (Rn.movTO tv rfl (nt ((Tr.ret ?_))))))
  replace h:=si h; subst h
  exact ⟨.inr rfl,(o_ out12),rfl,fun _ _ _ _ h=>h,tv,fun k hk=>Qi hk⟩
theorem Qxf {P:Program} {c:Nat} (hcf:Qx P c = some Qih):Qfr P c (Q3):=by
 intro alphabet1 r h
 refine Qec hcf rfl fun Γ M hP hnt hM=>?_
 subst hP
 refine Tr.init [(0,(l_ alphabet1))] rfl ?_
 unfold Q3 at h
 unfold Qih
 refine sr ((Rn.alloc tv rfl (nt ((sr ((Rn.bslice (xs:=[]) (cs:=[]) tv rfl rfl rfl rfl (md rfl ?_))))))))
 obtain ⟨x2,h3,h⟩:=bnd h
 refine Rn.app0 (e:=(eI .i64)) tv rfl rfl rfl rfl Qbcs h3 rfl (Rn.buildT (v:=.agg [(o_ x2),(i_ 0),.nils 1,.nils 3]) tv rfl (Rn.storeT (v:=.agg [(o_ x2),(i_ 0),.nils 1,.nils 3]) (ds:=[(o_ x2),(i_ 0),.nils 1,.nils 3]) (cs':=[(o_ x2),(i_ 0),.nils 1,.nils 3]) tv rfl rfl rfl rfl rfl rfl rfl (nt ((Tr.ret ?_)))))
 replace h:=si h; subst h
 exact ⟨.inr rfl,(.agg [(l_ x2),(i_ 0),.nils 1,.nils 3]),Qk3 rfl rfl rfl rfl,fun _ _ _ _ h=>h,⟨tv,tv,tv,tv,tv⟩,fun k hk=>Qi hk⟩
theorem Qyx {P:Program} {c:Nat} (hcf:Qx P c = some Qi0) (fuel:Nat):Qf6 P c (Qbc fuel):=by
 intro a1 state2 event3 r h
 refine Qec hcf rfl fun Γ M hP hnt hM=>?_
 subst hP
 refine Tr.init [(0,(Qm a1)),(1,(i_ state2)),(2,(i_ event3))] rfl ?_
 unfold Qbc at h
 unfold Qi0
 refine sr ((Rn.box (v:=(Qm a1)) (cs:=(Qr a1)) tv rfl rfl rfl rfl rfl (md rfl (nt ((Tr.seq (sr ((md rfl (nt ((Tr.block ?_))))))))))))
 refine Tr.loop (mk:=fun (i4:Int)=>⟨look [(1,(i_ state2)),(2,(i_ event3)),(3,.ptr (Γ.n0 + 3) 0),(7,(i_ i4))],Qo Γ.n0 (bxs [(3,.cells ((Qr a1)))]) M,Γ.n0 + 39⟩) h (by exact Ql ⟨(sm rfl),(sm rfl),(kPtr rfl),(sm rfl),tv⟩ ⟨⟨_,rfl,rfl,(.same rfl)⟩,tv⟩ rfl) (fun k5 z h=>?_)
 ·obtain ⟨i4,rfl⟩ : ∃ x,x = z:=⟨_,rfl⟩
  replace h:_ = some _:=h
  refine Tr.seq (sr ((md rfl (Rn.fldP (o':=3) tv rfl rfl (Rn.load (v:=.d (.lst 3 (List.map Qa a1.zL))) tv rfl (Qk rfl) rfl rfl (Rn.lenD tv rfl (Rn.bin tv rfl rfl rfl (Rn.nil (toN ?_)))))))))
  refine Tr.cond rfl (fun hb6=>?_) (fun hb6=>?_)
  ·replace h:=ifT hb6 h
   refine Tr.skip (toN (Tr.seq (Tr.block ?_)))
   refine Tr.cutB (fun (x12:Bool)=>⟨look [(1,(i_ state2)),(2,(i_ event3)),(3,.ptr (Γ.n0 + 3) 0),(7,(i_ i4)),(32,(b_ x12))],Qo Γ.n0 (bxs [(3,.cells ((Qr a1)))]) M,Γ.n0 + 39⟩) h (fun z h=>?_) (fun z h=>?_)
   ·refine Tr.rgn (Rn.fldP (o':=3) tv rfl rfl (Rn.load (v:=.d (.lst 3 (List.map Qa a1.zL))) tv rfl (Qk rfl) rfl rfl (md rfl ?_)))
    obtain ⟨x7,h8,h⟩:=bnd h
    refine Rn.idxD (e:=Qa) tv rfl rfl h8 (Rn.fldC tv rfl (Rn.loadC (x:=.int .i64 x7.From) tv rfl (md rfl (Rn.bin tv rfl rfl rfl (md rfl ?_)))))
    refine Qbo (x7.From == state2) (fun hb9=>?_) (fun hb9=>?_)
    ·replace h:=bT hb9 h
     refine Rn.fldP (o':=3) (gw rfl hb9) rfl rfl (Rn.load (v:=.d (.lst 3 (List.map Qa a1.zL))) (gw rfl hb9) rfl (Qk rfl) rfl rfl (Rn.movD (gw rfl hb9) rfl ?_))
     obtain ⟨x10,h11,h⟩:=bnd h
     refine Rn.idxD (e:=Qa) (gw rfl hb9) rfl rfl h11 (Rn.fldC (gw rfl hb9) rfl (Rn.loadC (x:=.int .i64 x10.Event) (gw rfl hb9) rfl (Rn.movD (gw rfl hb9) rfl (Rn.bin (gw rfl hb9) rfl rfl rfl (Rn.pickT (v:=(b_ (x10.Event == event3))) tv rfl hb9 rfl (Rn.nil ?_))))))
     replace h:=si h; subst h
     exact Qh [] ⟨(sm rfl),(sm rfl),(kPtr rfl),(sm rfl),(sm rfl),tv⟩ ⟨⟨_,rfl,rfl,(.same rfl)⟩,tv⟩ rfl
    ·replace h:=bF hb9 h
     refine Rn.sk (nw rfl hb9) (Rn.sk (nw rfl hb9) (Rn.sk (nw rfl hb9) (Rn.sk (nw rfl hb9) (Rn.sk (nw rfl hb9) (Rn.sk (nw rfl hb9) (Rn.sk (nw rfl hb9) (Rn.sk (nw rfl hb9) (Rn.pickF (v:=(b_ false)) tv rfl hb9 rfl (Rn.nil ?_)))))))))
     replace h:=si h; subst h
     exact Qh [] ⟨(sm rfl),(sm rfl),(kPtr rfl),(sm rfl),(sm rfl),tv⟩ ⟨⟨_,rfl,rfl,(.same rfl)⟩,tv⟩ rfl
   ·obtain ⟨x12,rfl⟩ : ∃ x,x = z:=⟨_,rfl⟩
    refine Tr.cond rfl (fun hb13=>?_) (fun hb13=>?_)
    ·replace h:=bT hb13 h
     refine sr ((Rn.fldP (o':=3) tv rfl rfl (Rn.load (v:=.d (.lst 3 (List.map Qa a1.zL))) tv rfl (Qk rfl) rfl rfl (md rfl ?_))))
     obtain ⟨x14,h15,h⟩:=bnd h
     refine Rn.idxD (e:=Qa) tv rfl rfl h15 (Rn.fldC tv rfl (Rn.loadC (x:=.int .i64 x14.To) tv rfl (md rfl (nt ((Tr.ret ?_))))))
     replace h:=si h; subst h
     exact ⟨.inr rfl,(i_ x14.To),rfl,fun _ _ _ _ h=>h,tv,fun k hk=>Qi hk⟩
    ·replace h:=bF hb13 h
     refine Tr.skip (toN (Tr.rgn (md rfl (Rn.bin tv rfl rfl rfl (md rfl (Rn.nil ?_))))))
     exact ⟨_,h,(by exact Ql ⟨(sm rfl),(sm rfl),(kPtr rfl),(sm rfl),tv⟩ ⟨⟨_,rfl,rfl,(.same rfl)⟩,tv⟩ rfl)⟩
  ·replace h:=ifF hb6 h
   refine Tr.exit (toN (sr ((md rfl (nt ((Tr.ret ?_)))))))
   replace h:=si h; subst h
   exact ⟨.inr rfl,(i_ (-1)),rfl,fun _ _ _ _ h=>h,tv,fun k hk=>Qi hk⟩
theorem Q0e {P:Program} {c:Nat} (hcf:Qx P c = some Qj0) (fuel:Nat):Qgn P c (Qbk fuel):=by
 intro l1 n2 r h
 refine Qec hcf rfl fun Γ M hP hnt hM=>?_
 subst hP
 refine Tr.init [(0,(l_ l1)),(1,(i_ n2))] rfl ?_
 unfold Qbk at h
 unfold Qj0
 refine sr ((md rfl (nt ((Tr.seq (sr ((md rfl (nt ((Tr.block ?_)))))))))))
 refine Tr.loop (mk:=fun (i3:Int)=>⟨look [(0,(l_ l1)),(1,(i_ n2)),(5,(i_ i3))],Qo Γ.n0 (bxs []) M,Γ.n0 + 18⟩) h (by exact Ql ⟨(sm rfl),(sm rfl),(sm rfl),tv⟩ tv rfl) (fun k4 z h=>?_)
 ·obtain ⟨i3,rfl⟩ : ∃ x,x = z:=⟨_,rfl⟩
  replace h:_ = some _:=h
  refine Tr.seq (sr ((md rfl (md rfl (Rn.lenD tv rfl (Rn.bin tv rfl rfl rfl (Rn.nil (toN ?_))))))))
  refine Tr.cond rfl (fun hb5=>?_) (fun hb5=>?_)
  ·replace h:=ifT hb5 h
   refine Tr.skip (toN (Tr.seq (Tr.block (sr ((md rfl (md rfl ?_)))))))
   obtain ⟨x6,h7,h⟩:=bnd h
   refine Rn.idxD (e:=(eI .i64)) tv rfl rfl h7 (Rn.loadC (x:=.int .i64 x6) tv rfl (md rfl (Rn.bin tv rfl rfl rfl (Rn.nil (toN ?_)))))
   refine Tr.cond rfl (fun hb8=>?_) (fun hb8=>?_)
   ·replace h:=bT hb8 h
    refine sr ((md rfl (nt ((Tr.ret ?_)))))
    replace h:=si h; subst h
    exact ⟨.inr rfl,(b_ true),rfl,fun _ _ _ _ h=>h,tv,fun k hk=>Qi hk⟩
   ·replace h:=bF hb8 h
    refine Tr.skip (toN (Tr.rgn (md rfl (Rn.bin tv rfl rfl rfl (md rfl (Rn.nil ?_))))))
    exact ⟨_,h,(by exact Ql ⟨(sm rfl),(sm rfl),(sm rfl),tv⟩ tv rfl)⟩
  ·replace h:=ifF hb5 h
   refine Tr.exit (toN (sr ((md rfl (nt ((Tr.ret ?_)))))))
   replace h:=si h; subst h
   exact ⟨.inr rfl,(b_ false),rfl,fun _ _ _ _ h=>h,tv,fun k hk=>Qi hk⟩
theorem Qxg {P:Program} {c:Nat} {Qbk:(List Int)→Int→Option Bool} {Qbc:Qe→Int→Int→Option Int}
    (H_overseerref03_has:Qgn P 90 Qbk)
    (H_overseerref03_Step:Qf6 P 91 Qbc) (hcf:Qx P c = some Qij) (fuel:Nat):Qii P c (Qb7 Qbk Qbc fuel):=by
 intro a1 r h
 refine Qec hcf rfl fun Γ M hP hnt hM=>?_
 subst hP
 refine Tr.init [(0,(Qm a1))] rfl ?_
 unfold Qb7 at h
 unfold Qij
 refine sr ((Rn.box (v:=(Qm a1)) (cs:=(Qr a1)) tv rfl rfl rfl rfl rfl (Rn.movTC (v:=.nils 1) tv (nt ((sr ((Rn.movTC (v:=.nils 1) tv (Rn.nil (toN ?_))))))))))
 refine Tr.cutB (fun (out5:List Int)=>⟨look [(1,.ptr (Γ.n0 + 1) 0),(3,(o_ out5))],Qo Γ.n0 (bxs [(1,.cells ((Qr a1)))]) M,Γ.n0 + 50⟩) h (fun z h=>?_) (fun z h=>?_)
 ·refine sr ((Rn.fldP (o':=1) tv rfl rfl (Rn.load (v:=(i_ a1.zM)) tv rfl (Qk rfl) rfl rfl (Rn.bin tv rfl rfl rfl (Rn.nil (toN ?_))))))
  refine Tr.cond rfl (fun hb2=>?_) (fun hb2=>?_)
  ·replace h:=ifT hb2 h
   refine Tr.rgn (Rn.movTF (v:=.nils 1) tv rfl rfl (Rn.bslice (xs:=[(i_ 0)]) (cs:=[(i_ 0)]) tv rfl rfl rfl rfl ?_))
   refine Rn.weak (by show WeakSt Γ _ ⟨look [(0,(Qm a1)),(1,.ptr (Γ.n0 + 1) 0),(2,.nils 1),(3,.nils 1),(7,.ptr (Γ.n0 + 1) 1),(8,(i_ a1.zM)),(9,(b_ (decide (a1.zM > 0)))),(10,.own 1 (List.map (eI .i64) [])),(11,.sl 1 (Γ.n0 + 11) 0 1 1)],Qo Γ.n0 (bxs [(1,.cells ((Qr a1))),(11,.cells ([(i_ 0)]))]) M,Γ.n0 + 50⟩; exact Qh [] ⟨(sm rfl),(kPtr rfl),(sm rfl),(sm rfl),(kPtr rfl),(sm rfl),(sm rfl),(WkV.nilsO _),(kSl rfl),tv⟩ ⟨⟨_,rfl,rfl,(.same rfl)⟩,⟨_,rfl,rfl,(.same rfl)⟩,tv⟩ rfl) ?_
   obtain ⟨x3,h4,h⟩:=bnd h
   refine Rn.app (e:=(eI .i64)) tv rfl rfl rfl (Qcy rfl rfl rfl) h4 rfl (Rn.movTO tv rfl (Rn.nil ?_))
   replace h:=si h; subst h
   exact Qh [11] ⟨(kPtr rfl),(sm rfl),tv⟩ ⟨⟨_,rfl,rfl,(.same rfl)⟩,tv⟩ rfl
  ·replace h:=ifF hb2 h
   refine Tr.skip ?_
   replace h:=si h; subst h
   exact Qh [] ⟨(kPtr rfl),(WkV.nilsO _),tv⟩ ⟨⟨_,rfl,rfl,(.same rfl)⟩,tv⟩ rfl
 ·obtain ⟨out5,rfl⟩ : ∃ x,x = z:=⟨_,rfl⟩
  refine Tr.cutB (fun (out29:List Int)=>⟨look [(3,(o_ out29))],Qo Γ.n0 (bxs [(1,.cells ((Qr a1)))]) M,Γ.n0 + 50⟩) h (fun z h=>?_) (fun z h=>?_)
  ·refine sr ((md rfl (nt ((Tr.block ?_)))))
   refine Tr.loop (mk:=fun ((out6,i7):(List Int)×Int)=>⟨look [(1,.ptr (Γ.n0 + 1) 0),(3,(o_ out6)),(4,(i_ i7))],Qo Γ.n0 (bxs [(1,.cells ((Qr a1)))]) M,Γ.n0 + 50⟩) h (by exact Ql ⟨(kPtr rfl),(sm rfl),(sm rfl),tv⟩ ⟨⟨_,rfl,rfl,(.same rfl)⟩,tv⟩ rfl) (fun k8 z h=>?_)
   ·obtain ⟨out6,i7⟩:=z
    replace h:_ = some _:=h
    refine Tr.seq (sr ((md rfl (Rn.mov (v:=(l_ out6)) tv rfl (Rn.lenD tv rfl (Rn.bin tv rfl rfl rfl (Rn.nil (toN ?_))))))))
    refine Tr.cond rfl (fun hb9=>?_) (fun hb9=>?_)
    ·replace h:=ifT hb9 h
     refine Tr.skip (toN ?_)
     refine Tr.cutB (fun (out28:List Int)=>⟨look [(1,.ptr (Γ.n0 + 1) 0),(3,(o_ out28)),(4,(i_ i7))],Qo Γ.n0 (bxs [(1,.cells ((Qr a1)))]) M,Γ.n0 + 50⟩) h (fun z h=>?_) (fun z h=>?_)
     ·refine Tr.block (sr ((md rfl (nt ((Tr.block ?_))))))
      refine Tr.loop (mk:=fun ((out10,k11):(List Int)×Int)=>⟨look [(1,.ptr (Γ.n0 + 1) 0),(3,(o_ out10)),(4,(i_ i7)),(5,(i_ k11))],Qo Γ.n0 (bxs [(1,.cells ((Qr a1)))]) M,Γ.n0 + 50⟩) h (by exact Ql ⟨(kPtr rfl),(sm rfl),(sm rfl),(sm rfl),tv⟩ ⟨⟨_,rfl,rfl,(.same rfl)⟩,tv⟩ rfl) (fun k12 z h=>?_)
      ·obtain ⟨out10,k11⟩:=z
       replace h:_ = some _:=h
       refine Tr.seq (sr ((md rfl (Rn.fldP (o':=0) tv rfl rfl (Rn.load (v:=(l_ a1.zJ)) tv rfl (Qk rfl) rfl rfl (Rn.lenD tv rfl (Rn.bin tv rfl rfl rfl (Rn.nil (toN ?_)))))))))
       refine Tr.cond rfl (fun hb13=>?_) (fun hb13=>?_)
       ·replace h:=ifT hb13 h
        refine Tr.skip (toN ?_)
        refine Tr.cutB (fun (out27:List Int)=>⟨look [(1,.ptr (Γ.n0 + 1) 0),(3,(o_ out27)),(4,(i_ i7)),(5,(i_ k11))],Qo Γ.n0 (bxs [(1,.cells ((Qr a1)))]) M,Γ.n0 + 50⟩) h (fun z h=>?_) (fun z h=>?_)
        ·refine Tr.block (Tr.seq ?_)
         refine Tr.rgnD (by decide) ?_
         refine Rn.load (v:=(Qm a1)) tv rfl (Qk rfl) rfl rfl (Rn.mov (v:=(l_ out10)) tv rfl (md rfl ?_))
         obtain ⟨x14,h15,h⟩:=bnd h
         refine Rn.idxD (e:=(eI .i64)) tv rfl rfl h15 (Rn.loadC (x:=.int .i64 x14) tv rfl (Rn.fldP (o':=0) tv rfl rfl (Rn.load (v:=(l_ a1.zJ)) tv rfl (Qk rfl) rfl rfl (md rfl ?_))))
         obtain ⟨x16,h17,h⟩:=bnd h
         refine Rn.idxD (e:=(eI .i64)) tv rfl rfl h17 (Rn.loadC (x:=.int .i64 x16) tv rfl ?_)
         obtain ⟨x19,h18,h⟩:=bnd h
         refine Rn.call (args:=[(Qm a1),(i_ x14),(i_ x16)]) tv rfl (H_overseerref03_Step _ _ _ _ h18) pc0 (md rfl ?_)
         refine Rn.nil ⟨rfl,?_⟩
         refine toN ?_
         refine Tr.cutB (fun (x23:Bool)=>⟨look [(1,.ptr (Γ.n0 + 1) 0),(3,(o_ out10)),(4,(i_ i7)),(5,(i_ k11)),(6,(i_ x19)),(44,(b_ x23))],Qo Γ.n0 (bxs [(1,.cells ((Qr a1)))]) M,Γ.n0 + 50⟩) h (fun z h=>?_) (fun z h=>?_)
         ·refine Tr.rgn (md rfl (Rn.bin tv rfl rfl rfl (md rfl ?_)))
          refine Qbo (decide (x19≥0)) (fun hb20=>?_) (fun hb20=>?_)
          ·replace h:=ifT hb20 h
           refine Rn.mov (v:=(l_ out10)) (gw rfl hb20) rfl (Rn.movD (gw rfl hb20) rfl ?_)
           obtain ⟨x22,h21,h⟩:=bnd h
           refine Rn.call (args:=[(l_ out10),(i_ x19)]) (gw rfl hb20) rfl (H_overseerref03_has _ _ _ h21) pc9 (Rn.un (gw rfl hb20) rfl rfl (Rn.pickT (v:=(b_ (!x22))) tv rfl hb20 rfl (Rn.nil ?_)))
           replace h:=si h; subst h
           exact Qh [] ⟨(kPtr rfl),(sm rfl),(sm rfl),(sm rfl),(sm rfl),(sm rfl),tv⟩ ⟨⟨_,rfl,rfl,(.same rfl)⟩,tv⟩ rfl
          ·replace h:=ifF hb20 h
           refine Rn.sk (nw rfl hb20) (Rn.sk (nw rfl hb20) (Rn.sk (nw rfl hb20) (Rn.sk (nw rfl hb20) (Rn.pickF (v:=(b_ false)) tv rfl hb20 rfl (Rn.nil ?_)))))
           replace h:=si h; subst h
           exact Qh [] ⟨(kPtr rfl),(sm rfl),(sm rfl),(sm rfl),(sm rfl),(sm rfl),tv⟩ ⟨⟨_,rfl,rfl,(.same rfl)⟩,tv⟩ rfl
         ·obtain ⟨x23,rfl⟩ : ∃ x,x = z:=⟨_,rfl⟩
          refine Tr.cond rfl (fun hb24=>?_) (fun hb24=>?_)
          ·replace h:=bT hb24 h
           refine Tr.rgn (Rn.movTO tv rfl (md rfl (Rn.bslice (xs:=[(i_ x19)]) (cs:=[(i_ x19)]) tv rfl rfl rfl rfl ?_)))
           obtain ⟨x25,h26,h⟩:=bnd h
           refine Rn.app (e:=(eI .i64)) tv rfl rfl rfl (Qcy rfl rfl rfl) h26 rfl (Rn.movTO tv rfl (Rn.nil ?_))
           replace h:=si h; subst h
           exact Qh [47] ⟨(kPtr rfl),(sm rfl),(sm rfl),(sm rfl),tv⟩ ⟨⟨_,rfl,rfl,(.same rfl)⟩,tv⟩ rfl
          ·replace h:=bF hb24 h
           refine Tr.skip ?_
           replace h:=si h; subst h
           exact Qh [] ⟨(kPtr rfl),(sm rfl),(sm rfl),(sm rfl),tv⟩ ⟨⟨_,rfl,rfl,(.same rfl)⟩,tv⟩ rfl
        ·obtain ⟨out27,rfl⟩ : ∃ x,x = z:=⟨_,rfl⟩
         refine Tr.rgn (md rfl (Rn.bin tv rfl rfl rfl (md rfl (Rn.nil ?_))))
         exact ⟨_,h,(by exact Ql ⟨(kPtr rfl),(sm rfl),(sm rfl),(sm rfl),tv⟩ ⟨⟨_,rfl,rfl,(.same rfl)⟩,tv⟩ rfl)⟩
       ·replace h:=ifF hb13 h
        refine Tr.exit ?_
        replace h:=si h; subst h
        exact Qh [] ⟨(kPtr rfl),(sm rfl),(sm rfl),tv⟩ ⟨⟨_,rfl,rfl,(.same rfl)⟩,tv⟩ rfl
     ·obtain ⟨out28,rfl⟩ : ∃ x,x = z:=⟨_,rfl⟩
      refine Tr.rgn (md rfl (Rn.bin tv rfl rfl rfl (md rfl (Rn.nil ?_))))
      exact ⟨_,h,(by exact Ql ⟨(kPtr rfl),(sm rfl),(sm rfl),tv⟩ ⟨⟨_,rfl,rfl,(.same rfl)⟩,tv⟩ rfl)⟩
    ·replace h:=ifF hb9 h
     refine Tr.exit ?_
     replace h:=si h; subst h
     exact Qh [] ⟨(sm rfl),tv⟩ ⟨⟨_,rfl,rfl,(.same rfl)⟩,tv⟩ rfl
  ·obtain ⟨out29,rfl⟩ : ∃ x,x = z:=⟨_,rfl⟩
   refine sr ((Rn.movTO tv rfl (Rn.movTO tv rfl (nt ((Tr.ret ?_))))))
   replace h:=si h; subst h
   exact ⟨.inr rfl,(o_ out29),rfl,fun _ _ _ _ h=>h,tv,fun k hk=>Qi hk⟩
theorem Qxh {P:Program} {c:Nat} (hcf:Qx P c = some Qil) (fuel:Nat):Qik P c (Qb8 fuel):=by
 intro l1 n2 r h
 refine Qec hcf rfl fun Γ M hP hnt hM=>?_
 subst hP
 refine Tr.init [(0,(l_ l1)),(1,(i_ n2))] rfl ?_
 unfold Qb8 at h
 unfold Qil
 refine sr ((md rfl (nt ((Tr.seq (sr ((md rfl (nt ((Tr.block ?_)))))))))))
 refine Tr.loop (mk:=fun (i3:Int)=>⟨look [(0,(l_ l1)),(1,(i_ n2)),(5,(i_ i3))],Qo Γ.n0 (bxs []) M,Γ.n0 + 19⟩) h (by exact Ql ⟨(sm rfl),(sm rfl),(sm rfl),tv⟩ tv rfl) (fun k4 z h=>?_)
 ·obtain ⟨i3,rfl⟩ : ∃ x,x = z:=⟨_,rfl⟩
  replace h:_ = some _:=h
  refine Tr.seq (sr ((md rfl (md rfl (Rn.lenD tv rfl (Rn.bin tv rfl rfl rfl (Rn.nil (toN ?_))))))))
  refine Tr.cond rfl (fun hb5=>?_) (fun hb5=>?_)
  ·replace h:=ifT hb5 h
   refine Tr.skip (toN (Tr.seq (Tr.block (sr ((md rfl (md rfl ?_)))))))
   obtain ⟨x6,h7,h⟩:=bnd h
   refine Rn.idxD (e:=(eI .i64)) tv rfl rfl h7 (Rn.loadC (x:=.int .i64 x6) tv rfl (md rfl (Rn.bin tv rfl rfl rfl (Rn.nil (toN ?_)))))
   refine Tr.cond rfl (fun hb8=>?_) (fun hb8=>?_)
   ·replace h:=bT hb8 h
    refine sr ((md rfl (md rfl (nt ((Tr.ret ?_))))))
    replace h:=si h; subst h
    exact ⟨.inr rfl,(i_ i3),rfl,fun _ _ _ _ h=>h,tv,fun k hk=>Qi hk⟩
   ·replace h:=bF hb8 h
    refine Tr.skip (toN (Tr.rgn (md rfl (Rn.bin tv rfl rfl rfl (md rfl (Rn.nil ?_))))))
    exact ⟨_,h,(by exact Ql ⟨(sm rfl),(sm rfl),(sm rfl),tv⟩ tv rfl)⟩
  ·replace h:=ifF hb5 h
   refine Tr.exit (toN (sr ((md rfl (nt ((Tr.ret ?_)))))))
   replace h:=si h; subst h
   exact ⟨.inr rfl,(i_ (-1)),rfl,fun _ _ _ _ h=>h,tv,fun k hk=>Qi hk⟩
theorem Qrk {P:Program} {c:Nat} {Q3:(List Int)→Option Qe} {Qb7:Qe→Option ((List Int))} {Qbk:(List Int)→Int→Option Bool} {Qbc:Qe→Int→Int→Option Int} {Qb8:(List Int)→Int→Option Int}
    (H_overseerref03_Empty:Qfr P 69 Q3)
    (H_overseerref03_Found:Qii P 89 Qb7)
    (H_overseerref03_has:Qgn P 90 Qbk)
    (H_overseerref03_Step:Qf6 P 91 Qbc)
    (H_overseerref03_index:Qik P 92 Qb8) (hcf:Qx P c = some Qf0) (fuel:Nat):Qfz P c (Qbq Q3 Qb7 Qbk Qbc Qb8 fuel):=by
 intro a1 r h
 refine Qec hcf rfl fun Γ M hP hnt hM=>?_
 subst hP
 refine Tr.init [(0,(Qm a1))] rfl ?_
 unfold Qbq at h
 unfold Qf0
 refine sr ((Rn.box (v:=(Qm a1)) (cs:=(Qr a1)) tv rfl rfl rfl rfl rfl (Rn.alloc tv rfl (nt ((sr ((Rn.load (v:=(Qm a1)) tv rfl (Qk rfl) rfl rfl ?_))))))))
 obtain ⟨x3,h2,h⟩:=bnd h
 refine Rn.call (args:=[(Qm a1)]) tv rfl (H_overseerref03_Found _ _ h2) pc9 (Rn.movTO tv rfl (nt ((sr ((Rn.fldP (o':=0) tv rfl rfl (Rn.load (v:=(l_ a1.zJ)) tv rfl (Qk rfl) rfl rfl ?_)))))))
 obtain ⟨x5,h4,h⟩:=bnd h
 refine Rn.call (args:=[(l_ a1.zJ)]) tv rfl (H_overseerref03_Empty _ _ h4) pc9 (Rn.alloc tv rfl (Rn.storeT (v:=.agg [(l_ x5.zJ),(i_ x5.zM),.nils 1,.nils 3]) (ds:=[(l_ x5.zJ),(i_ x5.zM),.nils 1,.nils 3]) (cs':=[(l_ x5.zJ),(i_ x5.zM),.nils 1,.nils 3]) tv rfl rfl rfl rfl rfl rfl rfl (nt ((sr ((Rn.mov (v:=(l_ x3)) tv rfl (Rn.lenD tv rfl (Rn.fldP (o':=1) tv rfl rfl (Rn.store (v:=(i_ (x3.length:Int))) (cs':=[(l_ x5.zJ),(i_ (x3.length:Int)),.nils 1,.nils 3]) tv rfl rfl rfl rfl rfl rfl (Rn.nil (toN ?_))))))))))))
 refine Tr.cutB (fun ((c42,c43,c44,out45,out46):(List Int)×(List Int)×(List Qc)×(List Int)×(List Qc))=>⟨look [(2,.ptr (Γ.n0 + 2) 0),(4,.ptr (Γ.n0 + 4) 0)],Qo Γ.n0 (bxs [(1,.cells ((Qr a1))),(2,.cells ([(o_ c42),(i_ 0),(o_ c43),.own 3 (List.map Qa c44)])),(4,.cells ([(l_ x5.zJ),(i_ (x3.length:Int)),(o_ out45),.own 3 (List.map Qa out46)]))]) M,Γ.n0 + 71⟩) h (fun z h=>?_) (fun z h=>?_)
 ·refine sr ((md rfl (nt ((Tr.block ?_)))))
  refine Tr.loop (mk:=fun ((i6,c7,c8,c9,out10,out11):Int×(List Int)×(List Int)×(List Qc)×(List Int)×(List Qc))=>⟨look [(1,.ptr (Γ.n0 + 1) 0),(2,.ptr (Γ.n0 + 2) 0),(3,(o_ x3)),(4,.ptr (Γ.n0 + 4) 0),(5,(i_ i6))],Qo Γ.n0 (bxs [(1,.cells ((Qr a1))),(2,.cells ([(o_ c7),(i_ 0),(o_ c8),.own 3 (List.map Qa c9)])),(4,.cells ([(l_ x5.zJ),(i_ (x3.length:Int)),(o_ out10),.own 3 (List.map Qa out11)]))]) M,Γ.n0 + 71⟩) h (by exact Ql ⟨(kPtr rfl),(kPtr rfl),(sm rfl),(kPtr rfl),(sm rfl),tv⟩ ⟨⟨_,rfl,rfl,(.same rfl)⟩,⟨_,rfl,rfl,(.cons (WkV.nilsO _) (.cons (sm rfl) (.cons (WkV.nilsO _) (.cons (WkV.nilsO _) .nil))))⟩,⟨_,rfl,rfl,(.cons (sm rfl) (.cons (sm rfl) (.cons (WkV.nilsO _) (.cons (WkV.nilsO _) .nil))))⟩,tv⟩ rfl) (fun k12 z h=>?_)
  ·obtain ⟨i6,c7,c8,c9,out10,out11⟩:=z
   replace h:_ = some _:=h
   refine Tr.seq (sr ((md rfl (Rn.mov (v:=(l_ x3)) tv rfl (Rn.lenD tv rfl (Rn.bin tv rfl rfl rfl (Rn.nil (toN ?_))))))))
   refine Tr.cond rfl (fun hb13=>?_) (fun hb13=>?_)
   ·replace h:=ifT hb13 h
    refine Tr.skip (toN ?_)
    refine Tr.cutB (fun ((out40,out41):(List Int)×(List Qc))=>⟨look [(1,.ptr (Γ.n0 + 1) 0),(2,.ptr (Γ.n0 + 2) 0),(3,(o_ x3)),(4,.ptr (Γ.n0 + 4) 0),(5,(i_ i6))],Qo Γ.n0 (bxs [(1,.cells ((Qr a1))),(2,.cells ([(o_ c7),(i_ 0),(o_ c8),.own 3 (List.map Qa c9)])),(4,.cells ([(l_ x5.zJ),(i_ (x3.length:Int)),(o_ out40),.own 3 (List.map Qa out41)]))]) M,Γ.n0 + 71⟩) h (fun z h=>?_) (fun z h=>?_)
    ·refine Tr.block ?_
     refine Tr.cutB (fun (out21:List Int)=>⟨look [(1,.ptr (Γ.n0 + 1) 0),(2,.ptr (Γ.n0 + 2) 0),(3,(o_ x3)),(4,.ptr (Γ.n0 + 4) 0),(5,(i_ i6))],Qo Γ.n0 (bxs [(1,.cells ((Qr a1))),(2,.cells ([(o_ c7),(i_ 0),(o_ c8),.own 3 (List.map Qa c9)])),(4,.cells ([(l_ x5.zJ),(i_ (x3.length:Int)),(o_ out21),.own 3 (List.map Qa out11)]))]) M,Γ.n0 + 71⟩) h (fun z h=>?_) (fun z h=>?_)
     ·refine Tr.seq ?_
      refine Tr.rgnD (by decide) ?_
      refine Rn.fldP (o':=2) tv rfl rfl (Rn.load (v:=(l_ a1.zK)) tv rfl (Qk rfl) rfl rfl (Rn.mov (v:=(l_ x3)) tv rfl (md rfl ?_)))
      obtain ⟨x14,h15,h⟩:=bnd h
      refine Rn.idxD (e:=(eI .i64)) tv rfl rfl h15 (Rn.loadC (x:=.int .i64 x14) tv rfl ?_)
      obtain ⟨x17,h16,h⟩:=bnd h
      refine Rn.call (args:=[(l_ a1.zK),(i_ x14)]) tv rfl (H_overseerref03_has _ _ _ h16) pc0 ?_
      refine Rn.nil ⟨rfl,?_⟩
      refine toN ?_
      refine Tr.cond rfl (fun hb18=>?_) (fun hb18=>?_)
      ·replace h:=bT hb18 h
       refine Tr.rgn (Rn.fldP (o':=2) tv rfl rfl (Rn.loadT (cs':=[(l_ x5.zJ),(i_ (x3.length:Int)),(l_ out10),.own 3 (List.map Qa out11)]) tv rfl rfl rfl rfl (md rfl (Rn.bslice (xs:=[(i_ i6)]) (cs:=[(i_ i6)]) tv rfl rfl rfl rfl ?_))))
       obtain ⟨x19,h20,h⟩:=bnd h
       refine Rn.app (e:=(eI .i64)) tv rfl rfl rfl (Qcy rfl rfl rfl) h20 rfl (Rn.fldP (o':=2) tv rfl rfl (Rn.storeO (cs':=[(l_ x5.zJ),(i_ (x3.length:Int)),(o_ x19),.own 3 (List.map Qa out11)]) tv rfl rfl rfl rfl rfl (Rn.nil ?_)))
       replace h:=si h; subst h
       exact Qh [32] ⟨(kPtr rfl),(kPtr rfl),(sm rfl),(kPtr rfl),(sm rfl),tv⟩ ⟨⟨_,rfl,rfl,(.same rfl)⟩,⟨_,rfl,rfl,(.same rfl)⟩,⟨_,rfl,rfl,(.same rfl)⟩,tv⟩ rfl
      ·replace h:=bF hb18 h
       refine Tr.skip ?_
       replace h:=si h; subst h
       exact Qh [] ⟨(kPtr rfl),(kPtr rfl),(sm rfl),(kPtr rfl),(sm rfl),tv⟩ ⟨⟨_,rfl,rfl,(.same rfl)⟩,⟨_,rfl,rfl,(.same rfl)⟩,⟨_,rfl,rfl,(.same rfl)⟩,tv⟩ rfl
     ·obtain ⟨out21,rfl⟩ : ∃ x,x = z:=⟨_,rfl⟩
      refine sr ((md rfl (nt ((Tr.block ?_)))))
      refine Tr.loop (mk:=fun ((k22,out23):Int×(List Qc))=>⟨look [(1,.ptr (Γ.n0 + 1) 0),(2,.ptr (Γ.n0 + 2) 0),(3,(o_ x3)),(4,.ptr (Γ.n0 + 4) 0),(5,(i_ i6)),(6,(i_ k22))],Qo Γ.n0 (bxs [(1,.cells ((Qr a1))),(2,.cells ([(o_ c7),(i_ 0),(o_ c8),.own 3 (List.map Qa c9)])),(4,.cells ([(l_ x5.zJ),(i_ (x3.length:Int)),(o_ out21),.own 3 (List.map Qa out23)]))]) M,Γ.n0 + 71⟩) h (by exact Ql ⟨(kPtr rfl),(kPtr rfl),(sm rfl),(kPtr rfl),(sm rfl),(sm rfl),tv⟩ ⟨⟨_,rfl,rfl,(.same rfl)⟩,⟨_,rfl,rfl,(.same rfl)⟩,⟨_,rfl,rfl,(.same rfl)⟩,tv⟩ rfl) (fun k24 z h=>?_)
      ·obtain ⟨k22,out23⟩:=z
       replace h:_ = some _:=h
       refine Tr.seq (sr ((md rfl (Rn.fldP (o':=0) tv rfl rfl (Rn.load (v:=(l_ a1.zJ)) tv rfl (Qk rfl) rfl rfl (Rn.lenD tv rfl (Rn.bin tv rfl rfl rfl (Rn.nil (toN ?_)))))))))
       refine Tr.cond rfl (fun hb25=>?_) (fun hb25=>?_)
       ·replace h:=ifT hb25 h
        refine Tr.skip (toN ?_)
        refine Tr.cutB (fun (out39:List Qc)=>⟨look [(1,.ptr (Γ.n0 + 1) 0),(2,.ptr (Γ.n0 + 2) 0),(3,(o_ x3)),(4,.ptr (Γ.n0 + 4) 0),(5,(i_ i6)),(6,(i_ k22))],Qo Γ.n0 (bxs [(1,.cells ((Qr a1))),(2,.cells ([(o_ c7),(i_ 0),(o_ c8),.own 3 (List.map Qa c9)])),(4,.cells ([(l_ x5.zJ),(i_ (x3.length:Int)),(o_ out21),.own 3 (List.map Qa out39)]))]) M,Γ.n0 + 71⟩) h (fun z h=>?_) (fun z h=>?_)
        ·refine Tr.block (Tr.seq ?_)
         refine Tr.rgnD (by decide) ?_
         refine Rn.load (v:=(Qm a1)) tv rfl (Qk rfl) rfl rfl (Rn.mov (v:=(l_ x3)) tv rfl (md rfl ?_))
         obtain ⟨x26,h27,h⟩:=bnd h
         refine Rn.idxD (e:=(eI .i64)) tv rfl rfl h27 (Rn.loadC (x:=.int .i64 x26) tv rfl (Rn.fldP (o':=0) tv rfl rfl (Rn.load (v:=(l_ a1.zJ)) tv rfl (Qk rfl) rfl rfl (md rfl ?_))))
         obtain ⟨x28,h29,h⟩:=bnd h
         refine Rn.idxD (e:=(eI .i64)) tv rfl rfl h29 (Rn.loadC (x:=.int .i64 x28) tv rfl ?_)
         obtain ⟨x31,h30,h⟩:=bnd h
         refine Rn.call (args:=[(Qm a1),(i_ x26),(i_ x28)]) tv rfl (H_overseerref03_Step _ _ _ _ h30) pc0 (md rfl ?_)
         refine Rn.nil ⟨rfl,?_⟩
         refine toN (sr ((md rfl (Rn.bin tv rfl rfl rfl (Rn.nil (toN ?_))))))
         refine Tr.cond rfl (fun hb32=>?_) (fun hb32=>?_)
         ·replace h:=ifT hb32 h
          refine Tr.rgnD (by decide) ?_
          refine Rn.fldP (o':=3) tv rfl rfl (Rn.loadT (cs':=[(l_ x5.zJ),(i_ (x3.length:Int)),(o_ out21),.d (.lst 3 (List.map Qa out23))]) tv rfl rfl rfl rfl (md rfl (Rn.fldP (o':=0) tv rfl rfl (Rn.load (v:=(l_ a1.zJ)) tv rfl (Qk rfl) rfl rfl (md rfl ?_)))))
          obtain ⟨x33,h34,h⟩:=bnd h
          refine Rn.idxD (e:=(eI .i64)) tv rfl rfl h34 (Rn.loadC (x:=.int .i64 x33) tv rfl (Rn.mov (v:=(l_ x3)) tv rfl (md rfl ?_)))
          obtain ⟨x36,h35,h⟩:=bnd h
          refine Rn.call (args:=[(l_ x3),(i_ x31)]) tv rfl (H_overseerref03_index _ _ _ h35) pc2 (Rn.build (v:=.agg [(i_ i6),(i_ x33),(i_ x36)]) tv rfl (Rn.bslice (xs:=[.agg [(i_ i6),(i_ x33),(i_ x36)]]) (cs:=[(i_ i6),(i_ x33),(i_ x36)]) tv rfl rfl rfl rfl ?_))
          obtain ⟨x37,h38,h⟩:=bnd h
          refine Rn.app (e:=Qa) tv rfl rfl rfl (Qcy rfl rfl rfl) h38 rfl (Rn.fldP (o':=3) tv rfl rfl (Rn.storeO (cs':=[(l_ x5.zJ),(i_ (x3.length:Int)),(o_ out21),.own 3 (List.map Qa x37)]) tv rfl rfl rfl rfl rfl ?_))
          refine Rn.nil ⟨rfl,?_⟩
          replace h:=si h; subst h
          exact Qh [67] ⟨(kPtr rfl),(kPtr rfl),(sm rfl),(kPtr rfl),(sm rfl),(sm rfl),tv⟩ ⟨⟨_,rfl,rfl,(.same rfl)⟩,⟨_,rfl,rfl,(.same rfl)⟩,⟨_,rfl,rfl,(.same rfl)⟩,tv⟩ rfl
         ·replace h:=ifF hb32 h
          refine Tr.skip ?_
          replace h:=si h; subst h
          exact Qh [] ⟨(kPtr rfl),(kPtr rfl),(sm rfl),(kPtr rfl),(sm rfl),(sm rfl),tv⟩ ⟨⟨_,rfl,rfl,(.same rfl)⟩,⟨_,rfl,rfl,(.same rfl)⟩,⟨_,rfl,rfl,(.same rfl)⟩,tv⟩ rfl
        ·obtain ⟨out39,rfl⟩ : ∃ x,x = z:=⟨_,rfl⟩
         refine Tr.rgn (md rfl (Rn.bin tv rfl rfl rfl (md rfl (Rn.nil ?_))))
         exact ⟨_,h,(by exact Ql ⟨(kPtr rfl),(kPtr rfl),(sm rfl),(kPtr rfl),(sm rfl),(sm rfl),tv⟩ ⟨⟨_,rfl,rfl,(.same rfl)⟩,⟨_,rfl,rfl,(.same rfl)⟩,⟨_,rfl,rfl,(.same rfl)⟩,tv⟩ rfl)⟩
       ·replace h:=ifF hb25 h
        refine Tr.exit ?_
        replace h:=si h; subst h
        exact Qh [] ⟨(kPtr rfl),(kPtr rfl),(sm rfl),(kPtr rfl),(sm rfl),tv⟩ ⟨⟨_,rfl,rfl,(.same rfl)⟩,⟨_,rfl,rfl,(.same rfl)⟩,⟨_,rfl,rfl,(.same rfl)⟩,tv⟩ rfl
    ·obtain ⟨out40,out41⟩:=z
     refine Tr.rgn (md rfl (Rn.bin tv rfl rfl rfl (md rfl (Rn.nil ?_))))
     exact ⟨_,h,(by exact Ql ⟨(kPtr rfl),(kPtr rfl),(sm rfl),(kPtr rfl),(sm rfl),tv⟩ ⟨⟨_,rfl,rfl,(.same rfl)⟩,⟨_,rfl,rfl,(.same rfl)⟩,⟨_,rfl,rfl,(.same rfl)⟩,tv⟩ rfl)⟩
   ·replace h:=ifF hb13 h
    refine Tr.exit ?_
    replace h:=si h; subst h
    exact Qh [] ⟨(kPtr rfl),(kPtr rfl),tv⟩ ⟨⟨_,rfl,rfl,(.same rfl)⟩,⟨_,rfl,rfl,(.same rfl)⟩,⟨_,rfl,rfl,(.same rfl)⟩,tv⟩ rfl
 ·obtain ⟨c42,c43,c44,out45,out46⟩:=z
  refine sr ((Rn.load (v:=.agg [(l_ x5.zJ),(i_ (x3.length:Int)),(l_ out45),.d (.lst 3 (List.map Qa out46))]) tv rfl (Qk rfl) rfl rfl (Rn.storeT (v:=.agg [(l_ x5.zJ),(i_ (x3.length:Int)),(l_ out45),.d (.lst 3 (List.map Qa out46))]) (ds:=[(l_ x5.zJ),(i_ (x3.length:Int)),(l_ out45),.d (.lst 3 (List.map Qa out46))]) (cs':=[(l_ x5.zJ),(i_ (x3.length:Int)),(l_ out45),.d (.lst 3 (List.map Qa out46))]) tv rfl rfl rfl rfl rfl rfl rfl (nt ((Tr.ret ?_))))))
  replace h:=si h; subst h
  exact ⟨.inr rfl,(.agg [(l_ x5.zJ),(i_ (x3.length:Int)),(l_ out45),.d (.lst 3 (List.map Qa out46))]),Qk3 rfl rfl rfl rfl,fun _ _ _ _ h=>h,⟨tv,tv,tv,tv,tv⟩,fun k hk=>Qi hk⟩
theorem Qyy {P:Program} {c:Nat} {Q3:(List Int)→Option Qe} {Qbq:Qe→Option Qe}
    (H_overseerref03_Empty:Qfr P 69 Q3)
    (H_overseerref03_Canonical:Qfz P 70 Qbq) (hcf:Qx P c = some Qi2) (fuel:Nat):Qi1 P c (Qch Q3 Qbq fuel):=by
 intro alphabet1 g2 r h
 refine Qec hcf rfl fun Γ M hP hnt hM=>?_
 subst hP
 refine Tr.init [(0,(l_ alphabet1)),(1,.agg [.d (.int .u8 g2.zM),.d (.int .u8 g2.Marks),.d (.int .u8 g2.To.1.1),.d (.int .u8 g2.To.1.2.1),.d (.int .u8 g2.To.1.2.2.1),.d (.int .u8 g2.To.1.2.2.2.1),.d (.int .u8 g2.To.1.2.2.2.2),.d (.int .u8 g2.To.2.1.1),.d (.int .u8 g2.To.2.1.2.1),.d (.int .u8 g2.To.2.1.2.2.1),.d (.int .u8 g2.To.2.1.2.2.2.1),.d (.int .u8 g2.To.2.1.2.2.2.2),.d (.int .u8 g2.To.2.2.1.1),.d (.int .u8 g2.To.2.2.1.2.1),.d (.int .u8 g2.To.2.2.1.2.2.1),.d (.int .u8 g2.To.2.2.1.2.2.2.1),.d (.int .u8 g2.To.2.2.1.2.2.2.2),.d (.int .u8 g2.To.2.2.2.1.1),.d (.int .u8 g2.To.2.2.2.1.2.1),.d (.int .u8 g2.To.2.2.2.1.2.2.1),.d (.int .u8 g2.To.2.2.2.1.2.2.2.1),.d (.int .u8 g2.To.2.2.2.1.2.2.2.2),.d (.int .u8 g2.To.2.2.2.2.1),.d (.int .u8 g2.To.2.2.2.2.2.1),.d (.int .u8 g2.To.2.2.2.2.2.2.1),.d (.int .u8 g2.To.2.2.2.2.2.2.2.1),.d (.int .u8 g2.To.2.2.2.2.2.2.2.2)])] rfl ?_
 unfold Qch at h
 unfold Qi2
 refine sr ((Rn.box (v:=.agg [.d (.int .u8 g2.zM),.d (.int .u8 g2.Marks),.d (.int .u8 g2.To.1.1),.d (.int .u8 g2.To.1.2.1),.d (.int .u8 g2.To.1.2.2.1),.d (.int .u8 g2.To.1.2.2.2.1),.d (.int .u8 g2.To.1.2.2.2.2),.d (.int .u8 g2.To.2.1.1),.d (.int .u8 g2.To.2.1.2.1),.d (.int .u8 g2.To.2.1.2.2.1),.d (.int .u8 g2.To.2.1.2.2.2.1),.d (.int .u8 g2.To.2.1.2.2.2.2),.d (.int .u8 g2.To.2.2.1.1),.d (.int .u8 g2.To.2.2.1.2.1),.d (.int .u8 g2.To.2.2.1.2.2.1),.d (.int .u8 g2.To.2.2.1.2.2.2.1),.d (.int .u8 g2.To.2.2.1.2.2.2.2),.d (.int .u8 g2.To.2.2.2.1.1),.d (.int .u8 g2.To.2.2.2.1.2.1),.d (.int .u8 g2.To.2.2.2.1.2.2.1),.d (.int .u8 g2.To.2.2.2.1.2.2.2.1),.d (.int .u8 g2.To.2.2.2.1.2.2.2.2),.d (.int .u8 g2.To.2.2.2.2.1),.d (.int .u8 g2.To.2.2.2.2.2.1),.d (.int .u8 g2.To.2.2.2.2.2.2.1),.d (.int .u8 g2.To.2.2.2.2.2.2.2.1),.d (.int .u8 g2.To.2.2.2.2.2.2.2.2)]) (cs:=[.d (.int .u8 g2.zM),.d (.int .u8 g2.Marks),.d (.int .u8 g2.To.1.1),.d (.int .u8 g2.To.1.2.1),.d (.int .u8 g2.To.1.2.2.1),.d (.int .u8 g2.To.1.2.2.2.1),.d (.int .u8 g2.To.1.2.2.2.2),.d (.int .u8 g2.To.2.1.1),.d (.int .u8 g2.To.2.1.2.1),.d (.int .u8 g2.To.2.1.2.2.1),.d (.int .u8 g2.To.2.1.2.2.2.1),.d (.int .u8 g2.To.2.1.2.2.2.2),.d (.int .u8 g2.To.2.2.1.1),.d (.int .u8 g2.To.2.2.1.2.1),.d (.int .u8 g2.To.2.2.1.2.2.1),.d (.int .u8 g2.To.2.2.1.2.2.2.1),.d (.int .u8 g2.To.2.2.1.2.2.2.2),.d (.int .u8 g2.To.2.2.2.1.1),.d (.int .u8 g2.To.2.2.2.1.2.1),.d (.int .u8 g2.To.2.2.2.1.2.2.1),.d (.int .u8 g2.To.2.2.2.1.2.2.2.1),.d (.int .u8 g2.To.2.2.2.1.2.2.2.2),.d (.int .u8 g2.To.2.2.2.2.1),.d (.int .u8 g2.To.2.2.2.2.2.1),.d (.int .u8 g2.To.2.2.2.2.2.2.1),.d (.int .u8 g2.To.2.2.2.2.2.2.2.1),.d (.int .u8 g2.To.2.2.2.2.2.2.2.2)]) tv rfl rfl rfl rfl rfl (Rn.alloc tv rfl (nt ((Tr.seq (sr ((Rn.fldP (o':=0) tv rfl rfl (Rn.load (v:=.d (.int .u8 g2.zM)) tv rfl (Qk rfl) rfl rfl (Rn.bin tv rfl rfl rfl (Rn.nil (toN ?_)))))))))))))
 refine Tr.cond rfl (fun hb3=>?_) (fun hb3=>?_)
 ·replace h:=ifT hb3 h
  refine sr ((md rfl ?_))
  obtain ⟨x5,h4,h⟩:=bnd h
  refine Rn.call (args:=[(l_ alphabet1)]) tv rfl (H_overseerref03_Empty _ _ h4) pc9 (Rn.storeT (v:=.agg [(l_ x5.zJ),(i_ x5.zM),.nils 1,.nils 3]) (ds:=[(l_ x5.zJ),(i_ x5.zM),.nils 1,.nils 3]) (cs':=[(l_ x5.zJ),(i_ x5.zM),.nils 1,.nils 3]) tv rfl rfl rfl rfl rfl rfl rfl (nt ((Tr.ret ?_))))
  replace h:=si h; subst h
  exact ⟨.inr rfl,(.agg [(l_ x5.zJ),(i_ x5.zM),.nils 1,.nils 3]),Qk3 rfl rfl rfl rfl,(WkV.agg (.cons (.same rfl) (.cons (.same rfl) (.cons (WkV.nilsD _) (.cons (WkV.nilsD _) .nil))))).rd,⟨tv,tv,tv,tv,tv⟩,fun k hk=>Qi hk⟩
 ·replace h:=ifF hb3 h
  refine Tr.skip (toN (sr ((md rfl ?_))))
  obtain ⟨x7,h6,h⟩:=bnd h
  refine Rn.call (args:=[(l_ alphabet1)]) tv rfl (H_overseerref03_Empty _ _ h6) pc9 (Rn.alloc tv rfl (Rn.storeT (v:=.agg [(l_ x7.zJ),(i_ x7.zM),.nils 1,.nils 3]) (ds:=[(l_ x7.zJ),(i_ x7.zM),.nils 1,.nils 3]) (cs':=[(l_ x7.zJ),(i_ x7.zM),.nils 1,.nils 3]) tv rfl rfl rfl rfl rfl rfl rfl (nt ((sr ((Rn.fldP (o':=0) tv rfl rfl (Rn.load (v:=.d (.int .u8 g2.zM)) tv rfl (Qk rfl) rfl rfl (Rn.bin tv rfl rfl rfl (Rn.conv tv rfl (Rn.bin tv rfl rfl rfl (Rn.fldP (o':=1) tv rfl rfl (Rn.store (v:=(i_ (IntKind.wrap .i64 (1 + (IntKind.wrap .i64 (Int.tmod g2.zM 5)))))) (cs':=[(l_ x7.zJ),(i_ (IntKind.wrap .i64 (1 + (IntKind.wrap .i64 (Int.tmod g2.zM 5))))),.nils 1,.nils 3]) tv rfl rfl rfl rfl rfl rfl (Rn.nil (toN ?_)))))))))))))))
  refine Tr.cutB (fun ((c43,c44,c45,a46,a47,a48):(List Int)×(List Int)×(List Qc)×Int×(List Int)×(List Qc))=>⟨look [(4,.ptr (Γ.n0 + 4) 0),(5,.ptr (Γ.n0 + 5) 0)],Qo Γ.n0 (bxs [(3,.cells ([.d (.int .u8 g2.zM),.d (.int .u8 g2.Marks),.d (.int .u8 g2.To.1.1),.d (.int .u8 g2.To.1.2.1),.d (.int .u8 g2.To.1.2.2.1),.d (.int .u8 g2.To.1.2.2.2.1),.d (.int .u8 g2.To.1.2.2.2.2),.d (.int .u8 g2.To.2.1.1),.d (.int .u8 g2.To.2.1.2.1),.d (.int .u8 g2.To.2.1.2.2.1),.d (.int .u8 g2.To.2.1.2.2.2.1),.d (.int .u8 g2.To.2.1.2.2.2.2),.d (.int .u8 g2.To.2.2.1.1),.d (.int .u8 g2.To.2.2.1.2.1),.d (.int .u8 g2.To.2.2.1.2.2.1),.d (.int .u8 g2.To.2.2.1.2.2.2.1),.d (.int .u8 g2.To.2.2.1.2.2.2.2),.d (.int .u8 g2.To.2.2.2.1.1),.d (.int .u8 g2.To.2.2.2.1.2.1),.d (.int .u8 g2.To.2.2.2.1.2.2.1),.d (.int .u8 g2.To.2.2.2.1.2.2.2.1),.d (.int .u8 g2.To.2.2.2.1.2.2.2.2),.d (.int .u8 g2.To.2.2.2.2.1),.d (.int .u8 g2.To.2.2.2.2.2.1),.d (.int .u8 g2.To.2.2.2.2.2.2.1),.d (.int .u8 g2.To.2.2.2.2.2.2.2.1),.d (.int .u8 g2.To.2.2.2.2.2.2.2.2)])),(4,.cells ([(o_ c43),(i_ 0),(o_ c44),.own 3 (List.map Qa c45)])),(5,.cells ([(l_ x7.zJ),(i_ a46),(o_ a47),.own 3 (List.map Qa a48)]))]) M,Γ.n0 + 79⟩) h (fun z h=>?_) (fun z h=>?_)
  ·refine sr ((md rfl (nt ((Tr.block ?_)))))
   refine Tr.loop (mk:=fun ((i8,c9,c10,c11,a12,a13,a14):Int×(List Int)×(List Int)×(List Qc)×Int×(List Int)×(List Qc))=>⟨look [(0,(l_ alphabet1)),(3,.ptr (Γ.n0 + 3) 0),(4,.ptr (Γ.n0 + 4) 0),(5,.ptr (Γ.n0 + 5) 0),(6,(i_ i8))],Qo Γ.n0 (bxs [(3,.cells ([.d (.int .u8 g2.zM),.d (.int .u8 g2.Marks),.d (.int .u8 g2.To.1.1),.d (.int .u8 g2.To.1.2.1),.d (.int .u8 g2.To.1.2.2.1),.d (.int .u8 g2.To.1.2.2.2.1),.d (.int .u8 g2.To.1.2.2.2.2),.d (.int .u8 g2.To.2.1.1),.d (.int .u8 g2.To.2.1.2.1),.d (.int .u8 g2.To.2.1.2.2.1),.d (.int .u8 g2.To.2.1.2.2.2.1),.d (.int .u8 g2.To.2.1.2.2.2.2),.d (.int .u8 g2.To.2.2.1.1),.d (.int .u8 g2.To.2.2.1.2.1),.d (.int .u8 g2.To.2.2.1.2.2.1),.d (.int .u8 g2.To.2.2.1.2.2.2.1),.d (.int .u8 g2.To.2.2.1.2.2.2.2),.d (.int .u8 g2.To.2.2.2.1.1),.d (.int .u8 g2.To.2.2.2.1.2.1),.d (.int .u8 g2.To.2.2.2.1.2.2.1),.d (.int .u8 g2.To.2.2.2.1.2.2.2.1),.d (.int .u8 g2.To.2.2.2.1.2.2.2.2),.d (.int .u8 g2.To.2.2.2.2.1),.d (.int .u8 g2.To.2.2.2.2.2.1),.d (.int .u8 g2.To.2.2.2.2.2.2.1),.d (.int .u8 g2.To.2.2.2.2.2.2.2.1),.d (.int .u8 g2.To.2.2.2.2.2.2.2.2)])),(4,.cells ([(o_ c9),(i_ 0),(o_ c10),.own 3 (List.map Qa c11)])),(5,.cells ([(l_ x7.zJ),(i_ a12),(o_ a13),.own 3 (List.map Qa a14)]))]) M,Γ.n0 + 79⟩) h (by exact Ql ⟨(sm rfl),(kPtr rfl),(kPtr rfl),(kPtr rfl),(sm rfl),tv⟩ ⟨⟨_,rfl,rfl,(.same rfl)⟩,⟨_,rfl,rfl,(.cons (WkV.nilsO _) (.cons (sm rfl) (.cons (WkV.nilsO _) (.cons (WkV.nilsO _) .nil))))⟩,⟨_,rfl,rfl,(.cons (sm rfl) (.cons (sm rfl) (.cons (WkV.nilsO _) (.cons (WkV.nilsO _) .nil))))⟩,tv⟩ rfl) (fun k15 z h=>?_)
   ·obtain ⟨i8,c9,c10,c11,a12,a13,a14⟩:=z
    replace h:_ = some _:=h
    refine Tr.seq (sr ((md rfl (Rn.fldP (o':=1) tv rfl rfl (Rn.load (v:=(i_ a12)) tv rfl (Qk rfl) rfl rfl (Rn.bin tv rfl rfl rfl (Rn.nil (toN ?_))))))))
    refine Tr.cond rfl (fun hb16=>?_) (fun hb16=>?_)
    ·replace h:=ifT hb16 h
     refine Tr.skip (toN ?_)
     refine Tr.cutB (fun ((a41,a42):(List Int)×(List Qc))=>⟨look [(0,(l_ alphabet1)),(3,.ptr (Γ.n0 + 3) 0),(4,.ptr (Γ.n0 + 4) 0),(5,.ptr (Γ.n0 + 5) 0),(6,(i_ i8))],Qo Γ.n0 (bxs [(3,.cells ([.d (.int .u8 g2.zM),.d (.int .u8 g2.Marks),.d (.int .u8 g2.To.1.1),.d (.int .u8 g2.To.1.2.1),.d (.int .u8 g2.To.1.2.2.1),.d (.int .u8 g2.To.1.2.2.2.1),.d (.int .u8 g2.To.1.2.2.2.2),.d (.int .u8 g2.To.2.1.1),.d (.int .u8 g2.To.2.1.2.1),.d (.int .u8 g2.To.2.1.2.2.1),.d (.int .u8 g2.To.2.1.2.2.2.1),.d (.int .u8 g2.To.2.1.2.2.2.2),.d (.int .u8 g2.To.2.2.1.1),.d (.int .u8 g2.To.2.2.1.2.1),.d (.int .u8 g2.To.2.2.1.2.2.1),.d (.int .u8 g2.To.2.2.1.2.2.2.1),.d (.int .u8 g2.To.2.2.1.2.2.2.2),.d (.int .u8 g2.To.2.2.2.1.1),.d (.int .u8 g2.To.2.2.2.1.2.1),.d (.int .u8 g2.To.2.2.2.1.2.2.1),.d (.int .u8 g2.To.2.2.2.1.2.2.2.1),.d (.int .u8 g2.To.2.2.2.1.2.2.2.2),.d (.int .u8 g2.To.2.2.2.2.1),.d (.int .u8 g2.To.2.2.2.2.2.1),.d (.int .u8 g2.To.2.2.2.2.2.2.1),.d (.int .u8 g2.To.2.2.2.2.2.2.2.1),.d (.int .u8 g2.To.2.2.2.2.2.2.2.2)])),(4,.cells ([(o_ c9),(i_ 0),(o_ c10),.own 3 (List.map Qa c11)])),(5,.cells ([(l_ x7.zJ),(i_ a12),(o_ a41),.own 3 (List.map Qa a42)]))]) M,Γ.n0 + 79⟩) h (fun z h=>?_) (fun z h=>?_)
     ·refine Tr.block ?_
      refine Tr.cutB (fun (a22:List Int)=>⟨look [(0,(l_ alphabet1)),(3,.ptr (Γ.n0 + 3) 0),(4,.ptr (Γ.n0 + 4) 0),(5,.ptr (Γ.n0 + 5) 0),(6,(i_ i8))],Qo Γ.n0 (bxs [(3,.cells ([.d (.int .u8 g2.zM),.d (.int .u8 g2.Marks),.d (.int .u8 g2.To.1.1),.d (.int .u8 g2.To.1.2.1),.d (.int .u8 g2.To.1.2.2.1),.d (.int .u8 g2.To.1.2.2.2.1),.d (.int .u8 g2.To.1.2.2.2.2),.d (.int .u8 g2.To.2.1.1),.d (.int .u8 g2.To.2.1.2.1),.d (.int .u8 g2.To.2.1.2.2.1),.d (.int .u8 g2.To.2.1.2.2.2.1),.d (.int .u8 g2.To.2.1.2.2.2.2),.d (.int .u8 g2.To.2.2.1.1),.d (.int .u8 g2.To.2.2.1.2.1),.d (.int .u8 g2.To.2.2.1.2.2.1),.d (.int .u8 g2.To.2.2.1.2.2.2.1),.d (.int .u8 g2.To.2.2.1.2.2.2.2),.d (.int .u8 g2.To.2.2.2.1.1),.d (.int .u8 g2.To.2.2.2.1.2.1),.d (.int .u8 g2.To.2.2.2.1.2.2.1),.d (.int .u8 g2.To.2.2.2.1.2.2.2.1),.d (.int .u8 g2.To.2.2.2.1.2.2.2.2),.d (.int .u8 g2.To.2.2.2.2.1),.d (.int .u8 g2.To.2.2.2.2.2.1),.d (.int .u8 g2.To.2.2.2.2.2.2.1),.d (.int .u8 g2.To.2.2.2.2.2.2.2.1),.d (.int .u8 g2.To.2.2.2.2.2.2.2.2)])),(4,.cells ([(o_ c9),(i_ 0),(o_ c10),.own 3 (List.map Qa c11)])),(5,.cells ([(l_ x7.zJ),(i_ a12),(o_ a22),.own 3 (List.map Qa a14)]))]) M,Γ.n0 + 79⟩) h (fun z h=>?_) (fun z h=>?_)
      ·refine sr ((Rn.fldP (o':=1) tv rfl rfl (Rn.load (v:=.d (.int .u8 g2.Marks)) tv rfl (Qk rfl) rfl rfl (md rfl ?_))))
       obtain ⟨s17,h18,h⟩:=bnd h
       refine Rn.bin tv rfl rfl (Qbbm h18) (Rn.bin tv rfl rfl rfl (Rn.bin tv rfl rfl rfl (Rn.nil (toN ?_))))
       refine Tr.cond rfl (fun hb19=>?_) (fun hb19=>?_)
       ·replace h:=bT hb19 h
        refine Tr.rgn (Rn.fldP (o':=2) tv rfl rfl (Rn.loadT (cs':=[(l_ x7.zJ),(i_ a12),(l_ a13),.own 3 (List.map Qa a14)]) tv rfl rfl rfl rfl (md rfl (Rn.bslice (xs:=[(i_ i8)]) (cs:=[(i_ i8)]) tv rfl rfl rfl rfl ?_))))
        obtain ⟨x20,h21,h⟩:=bnd h
        refine Rn.app (e:=(eI .i64)) tv rfl rfl rfl (Qcy rfl rfl rfl) h21 rfl (Rn.fldP (o':=2) tv rfl rfl (Rn.storeO (cs':=[(l_ x7.zJ),(i_ a12),(o_ x20),.own 3 (List.map Qa a14)]) tv rfl rfl rfl rfl rfl (Rn.nil ?_)))
        replace h:=si h; subst h
        exact Qh [37] ⟨(sm rfl),(kPtr rfl),(kPtr rfl),(kPtr rfl),(sm rfl),tv⟩ ⟨⟨_,rfl,rfl,(.same rfl)⟩,⟨_,rfl,rfl,(.same rfl)⟩,⟨_,rfl,rfl,(.same rfl)⟩,tv⟩ rfl
       ·replace h:=bF hb19 h
        refine Tr.skip ?_
        replace h:=si h; subst h
        exact Qh [] ⟨(sm rfl),(kPtr rfl),(kPtr rfl),(kPtr rfl),(sm rfl),tv⟩ ⟨⟨_,rfl,rfl,(.same rfl)⟩,⟨_,rfl,rfl,(.same rfl)⟩,⟨_,rfl,rfl,(.same rfl)⟩,tv⟩ rfl
      ·obtain ⟨a22,rfl⟩ : ∃ x,x = z:=⟨_,rfl⟩
       refine sr ((md rfl (nt ((Tr.block ?_)))))
       refine Tr.loop (mk:=fun ((k23,a24):Int×(List Qc))=>⟨look [(0,(l_ alphabet1)),(3,.ptr (Γ.n0 + 3) 0),(4,.ptr (Γ.n0 + 4) 0),(5,.ptr (Γ.n0 + 5) 0),(6,(i_ i8)),(7,(i_ k23))],Qo Γ.n0 (bxs [(3,.cells ([.d (.int .u8 g2.zM),.d (.int .u8 g2.Marks),.d (.int .u8 g2.To.1.1),.d (.int .u8 g2.To.1.2.1),.d (.int .u8 g2.To.1.2.2.1),.d (.int .u8 g2.To.1.2.2.2.1),.d (.int .u8 g2.To.1.2.2.2.2),.d (.int .u8 g2.To.2.1.1),.d (.int .u8 g2.To.2.1.2.1),.d (.int .u8 g2.To.2.1.2.2.1),.d (.int .u8 g2.To.2.1.2.2.2.1),.d (.int .u8 g2.To.2.1.2.2.2.2),.d (.int .u8 g2.To.2.2.1.1),.d (.int .u8 g2.To.2.2.1.2.1),.d (.int .u8 g2.To.2.2.1.2.2.1),.d (.int .u8 g2.To.2.2.1.2.2.2.1),.d (.int .u8 g2.To.2.2.1.2.2.2.2),.d (.int .u8 g2.To.2.2.2.1.1),.d (.int .u8 g2.To.2.2.2.1.2.1),.d (.int .u8 g2.To.2.2.2.1.2.2.1),.d (.int .u8 g2.To.2.2.2.1.2.2.2.1),.d (.int .u8 g2.To.2.2.2.1.2.2.2.2),.d (.int .u8 g2.To.2.2.2.2.1),.d (.int .u8 g2.To.2.2.2.2.2.1),.d (.int .u8 g2.To.2.2.2.2.2.2.1),.d (.int .u8 g2.To.2.2.2.2.2.2.2.1),.d (.int .u8 g2.To.2.2.2.2.2.2.2.2)])),(4,.cells ([(o_ c9),(i_ 0),(o_ c10),.own 3 (List.map Qa c11)])),(5,.cells ([(l_ x7.zJ),(i_ a12),(o_ a22),.own 3 (List.map Qa a24)]))]) M,Γ.n0 + 79⟩) h (by exact Ql ⟨(sm rfl),(kPtr rfl),(kPtr rfl),(kPtr rfl),(sm rfl),(sm rfl),tv⟩ ⟨⟨_,rfl,rfl,(.same rfl)⟩,⟨_,rfl,rfl,(.same rfl)⟩,⟨_,rfl,rfl,(.same rfl)⟩,tv⟩ rfl) (fun k25 z h=>?_)
       ·obtain ⟨k23,a24⟩:=z
        replace h:_ = some _:=h
        refine Tr.seq ?_
        refine Tr.cutB (fun (x27:Bool)=>⟨look [(0,(l_ alphabet1)),(3,.ptr (Γ.n0 + 3) 0),(4,.ptr (Γ.n0 + 4) 0),(5,.ptr (Γ.n0 + 5) 0),(6,(i_ i8)),(7,(i_ k23)),(47,(b_ x27))],Qo Γ.n0 (bxs [(3,.cells ([.d (.int .u8 g2.zM),.d (.int .u8 g2.Marks),.d (.int .u8 g2.To.1.1),.d (.int .u8 g2.To.1.2.1),.d (.int .u8 g2.To.1.2.2.1),.d (.int .u8 g2.To.1.2.2.2.1),.d (.int .u8 g2.To.1.2.2.2.2),.d (.int .u8 g2.To.2.1.1),.d (.int .u8 g2.To.2.1.2.1),.d (.int .u8 g2.To.2.1.2.2.1),.d (.int .u8 g2.To.2.1.2.2.2.1),.d (.int .u8 g2.To.2.1.2.2.2.2),.d (.int .u8 g2.To.2.2.1.1),.d (.int .u8 g2.To.2.2.1.2.1),.d (.int .u8 g2.To.2.2.1.2.2.1),.d (.int .u8 g2.To.2.2.1.2.2.2.1),.d (.int .u8 g2.To.2.2.1.2.2.2.2),.d (.int .u8 g2.To.2.2.2.1.1),.d (.int .u8 g2.To.2.2.2.1.2.1),.d (.int .u8 g2.To.2.2.2.1.2.2.1),.d (.int .u8 g2.To.2.2.2.1.2.2.2.1),.d (.int .u8 g2.To.2.2.2.1.2.2.2.2),.d (.int .u8 g2.To.2.2.2.2.1),.d (.int .u8 g2.To.2.2.2.2.2.1),.d (.int .u8 g2.To.2.2.2.2.2.2.1),.d (.int .u8 g2.To.2.2.2.2.2.2.2.1),.d (.int .u8 g2.To.2.2.2.2.2.2.2.2)])),(4,.cells ([(o_ c9),(i_ 0),(o_ c10),.own 3 (List.map Qa c11)])),(5,.cells ([(l_ x7.zJ),(i_ a12),(o_ a22),.own 3 (List.map Qa a24)]))]) M,Γ.n0 + 79⟩) h (fun z h=>?_) (fun z h=>?_)
        ·refine Tr.rgn (md rfl (md rfl (Rn.lenD tv rfl (Rn.bin tv rfl rfl rfl (md rfl ?_)))))
         refine Qbo (decide (k23 < (alphabet1.length:Int))) (fun hb26=>?_) (fun hb26=>?_)
         ·replace h:=ifT hb26 h
          refine Rn.movD (gw rfl hb26) rfl (Rn.bin (gw rfl hb26) rfl rfl rfl (Rn.pickT (v:=(b_ (decide (k23 < 5)))) tv rfl hb26 rfl (Rn.nil ?_)))
          replace h:=si h; subst h
          exact Qh [] ⟨(sm rfl),(kPtr rfl),(kPtr rfl),(kPtr rfl),(sm rfl),(sm rfl),(sm rfl),tv⟩ ⟨⟨_,rfl,rfl,(.same rfl)⟩,⟨_,rfl,rfl,(.same rfl)⟩,⟨_,rfl,rfl,(.same rfl)⟩,tv⟩ rfl
         ·replace h:=ifF hb26 h
          refine Rn.sk (nw rfl hb26) (Rn.sk (nw rfl hb26) (Rn.pickF (v:=(b_ false)) tv rfl hb26 rfl (Rn.nil ?_)))
          replace h:=si h; subst h
          exact Qh [] ⟨(sm rfl),(kPtr rfl),(kPtr rfl),(kPtr rfl),(sm rfl),(sm rfl),(sm rfl),tv⟩ ⟨⟨_,rfl,rfl,(.same rfl)⟩,⟨_,rfl,rfl,(.same rfl)⟩,⟨_,rfl,rfl,(.same rfl)⟩,tv⟩ rfl
        ·obtain ⟨x27,rfl⟩ : ∃ x,x = z:=⟨_,rfl⟩
         refine Tr.cond rfl (fun hb28=>?_) (fun hb28=>?_)
         ·replace h:=bT hb28 h
          refine Tr.skip (toN ?_)
          refine Tr.cutB (fun (a40:List Qc)=>⟨look [(0,(l_ alphabet1)),(3,.ptr (Γ.n0 + 3) 0),(4,.ptr (Γ.n0 + 4) 0),(5,.ptr (Γ.n0 + 5) 0),(6,(i_ i8)),(7,(i_ k23))],Qo Γ.n0 (bxs [(3,.cells ([.d (.int .u8 g2.zM),.d (.int .u8 g2.Marks),.d (.int .u8 g2.To.1.1),.d (.int .u8 g2.To.1.2.1),.d (.int .u8 g2.To.1.2.2.1),.d (.int .u8 g2.To.1.2.2.2.1),.d (.int .u8 g2.To.1.2.2.2.2),.d (.int .u8 g2.To.2.1.1),.d (.int .u8 g2.To.2.1.2.1),.d (.int .u8 g2.To.2.1.2.2.1),.d (.int .u8 g2.To.2.1.2.2.2.1),.d (.int .u8 g2.To.2.1.2.2.2.2),.d (.int .u8 g2.To.2.2.1.1),.d (.int .u8 g2.To.2.2.1.2.1),.d (.int .u8 g2.To.2.2.1.2.2.1),.d (.int .u8 g2.To.2.2.1.2.2.2.1),.d (.int .u8 g2.To.2.2.1.2.2.2.2),.d (.int .u8 g2.To.2.2.2.1.1),.d (.int .u8 g2.To.2.2.2.1.2.1),.d (.int .u8 g2.To.2.2.2.1.2.2.1),.d (.int .u8 g2.To.2.2.2.1.2.2.2.1),.d (.int .u8 g2.To.2.2.2.1.2.2.2.2),.d (.int .u8 g2.To.2.2.2.2.1),.d (.int .u8 g2.To.2.2.2.2.2.1),.d (.int .u8 g2.To.2.2.2.2.2.2.1),.d (.int .u8 g2.To.2.2.2.2.2.2.2.1),.d (.int .u8 g2.To.2.2.2.2.2.2.2.2)])),(4,.cells ([(o_ c9),(i_ 0),(o_ c10),.own 3 (List.map Qa c11)])),(5,.cells ([(l_ x7.zJ),(i_ a12),(o_ a22),.own 3 (List.map Qa a40)]))]) M,Γ.n0 + 79⟩) h (fun z h=>?_) (fun z h=>?_)
          ·refine Tr.block (Tr.seq ?_)
           refine Tr.rgnD (by decide) ?_
           refine md rfl (md rfl (Rn.fldP (o':=2) tv rfl rfl ?_))
           obtain ⟨⟨⟩,h29,h⟩:=bnd h
           refine Rn.idxArr (o':=2 + (Int.toNat i8 * 5)) tv rfl rfl rfl h29 ?_
           obtain ⟨⟨⟩,h30,h⟩:=bnd h
           refine Rn.idxArr (o':=2 + (Int.toNat i8 * 5 + Int.toNat k23 * 1)) tv rfl rfl (Nat.add_assoc ..).symm h30 ?_
           obtain ⟨x31,h32,h⟩:=bnd h
           refine Rn.loadArr (e:=(fun (z:Int)=>.int .u8 z)) (pre:=[.d (.int .u8 g2.zM),.d (.int .u8 g2.Marks)]) (post:=[]) tv rfl rfl (Qk rfl) rfl rfl h32 (Rn.conv tv rfl (Rn.fldP (o':=1) tv rfl rfl (Rn.load (v:=(i_ a12)) tv rfl (Qk rfl) rfl rfl (Rn.bin tv rfl rfl rfl ?_))))
           obtain ⟨s33,h34,h⟩:=bnd h
           refine Rn.bin tv rfl rfl (Qbkn h34) (md rfl ?_)
           refine Rn.nil ⟨rfl,?_⟩
           refine toN (sr ((md rfl (Rn.fldP (o':=1) tv rfl rfl (Rn.load (v:=(i_ a12)) tv rfl (Qk rfl) rfl rfl (Rn.bin tv rfl rfl rfl (Rn.nil (toN ?_))))))))
           refine Tr.cond rfl (fun hb35=>?_) (fun hb35=>?_)
           ·replace h:=ifT hb35 h
            refine Tr.rgnD (by decide) ?_
            refine Rn.fldP (o':=3) tv rfl rfl (Rn.loadT (cs':=[(l_ x7.zJ),(i_ a12),(o_ a22),.d (.lst 3 (List.map Qa a24))]) tv rfl rfl rfl rfl (md rfl (md rfl (md rfl ?_))))
            obtain ⟨x36,h37,h⟩:=bnd h
            refine Rn.idxD (e:=(eI .i64)) tv rfl rfl h37 (Rn.loadC (x:=.int .i64 x36) tv rfl (md rfl (Rn.build (v:=.agg [(i_ i8),(i_ x36),(i_ s33)]) tv rfl (Rn.bslice (xs:=[.agg [(i_ i8),(i_ x36),(i_ s33)]]) (cs:=[(i_ i8),(i_ x36),(i_ s33)]) tv rfl rfl rfl rfl ?_))))
            obtain ⟨x38,h39,h⟩:=bnd h
            refine Rn.app (e:=Qa) tv rfl rfl rfl (Qcy rfl rfl rfl) h39 rfl (Rn.fldP (o':=3) tv rfl rfl (Rn.storeO (cs':=[(l_ x7.zJ),(i_ a12),(o_ a22),.own 3 (List.map Qa x38)]) tv rfl rfl rfl rfl rfl ?_))
            refine Rn.nil ⟨rfl,?_⟩
            replace h:=si h; subst h
            exact Qh [74] ⟨(sm rfl),(kPtr rfl),(kPtr rfl),(kPtr rfl),(sm rfl),(sm rfl),tv⟩ ⟨⟨_,rfl,rfl,(.same rfl)⟩,⟨_,rfl,rfl,(.same rfl)⟩,⟨_,rfl,rfl,(.same rfl)⟩,tv⟩ rfl
           ·replace h:=ifF hb35 h
            refine Tr.skip ?_
            replace h:=si h; subst h
            exact Qh [] ⟨(sm rfl),(kPtr rfl),(kPtr rfl),(kPtr rfl),(sm rfl),(sm rfl),tv⟩ ⟨⟨_,rfl,rfl,(.same rfl)⟩,⟨_,rfl,rfl,(.same rfl)⟩,⟨_,rfl,rfl,(.same rfl)⟩,tv⟩ rfl
          ·obtain ⟨a40,rfl⟩ : ∃ x,x = z:=⟨_,rfl⟩
           refine Tr.rgn (md rfl (Rn.bin tv rfl rfl rfl (md rfl (Rn.nil ?_))))
           exact ⟨_,h,(by exact Ql ⟨(sm rfl),(kPtr rfl),(kPtr rfl),(kPtr rfl),(sm rfl),(sm rfl),tv⟩ ⟨⟨_,rfl,rfl,(.same rfl)⟩,⟨_,rfl,rfl,(.same rfl)⟩,⟨_,rfl,rfl,(.same rfl)⟩,tv⟩ rfl)⟩
         ·replace h:=bF hb28 h
          refine Tr.exit ?_
          replace h:=si h; subst h
          exact Qh [] ⟨(sm rfl),(kPtr rfl),(kPtr rfl),(kPtr rfl),(sm rfl),tv⟩ ⟨⟨_,rfl,rfl,(.same rfl)⟩,⟨_,rfl,rfl,(.same rfl)⟩,⟨_,rfl,rfl,(.same rfl)⟩,tv⟩ rfl
     ·obtain ⟨a41,a42⟩:=z
      refine Tr.rgn (md rfl (Rn.bin tv rfl rfl rfl (md rfl (Rn.nil ?_))))
      exact ⟨_,h,(by exact Ql ⟨(sm rfl),(kPtr rfl),(kPtr rfl),(kPtr rfl),(sm rfl),tv⟩ ⟨⟨_,rfl,rfl,(.same rfl)⟩,⟨_,rfl,rfl,(.same rfl)⟩,⟨_,rfl,rfl,(.same rfl)⟩,tv⟩ rfl)⟩
    ·replace h:=ifF hb16 h
     refine Tr.exit ?_
     replace h:=si h; subst h
     exact Qh [] ⟨(kPtr rfl),(kPtr rfl),tv⟩ ⟨⟨_,rfl,rfl,(.same rfl)⟩,⟨_,rfl,rfl,(.same rfl)⟩,⟨_,rfl,rfl,(.same rfl)⟩,tv⟩ rfl
  ·obtain ⟨c43,c44,c45,a46,a47,a48⟩:=z
   refine sr ((Rn.load (v:=.agg [(l_ x7.zJ),(i_ a46),(l_ a47),.d (.lst 3 (List.map Qa a48))]) tv rfl (Qk rfl) rfl rfl ?_))
   obtain ⟨x50,h49,h⟩:=bnd h
   refine Rn.call (args:=[.agg [(l_ x7.zJ),(i_ a46),(l_ a47),.d (.lst 3 (List.map Qa a48))]]) tv rfl (H_overseerref03_Canonical _ _ h49) pc9 (Rn.storeT (v:=(Qm x50)) (ds:=(Qr x50)) (cs':=(Qr x50)) tv rfl rfl rfl rfl rfl rfl rfl (nt ((Tr.ret ?_))))
   replace h:=si h; subst h
   exact ⟨.inr rfl,(Qm x50),Qk3 rfl rfl rfl rfl,fun _ _ _ _ h=>h,⟨tv,tv,tv,tv,tv⟩,fun k hk=>Qi hk⟩
theorem Qyz {P:Program} {c:Nat} {Qbd:Int→Option ((List Int))} {Qch:(List Int)→Qbh→Option Qe}
    (H_overseerlaw03_Set_Events:Qfm P 33 Qbd)
    (H_overseerlaw03_Make:Qi1 P 36 Qch) (hcf:Qx P c = some Qi4) (fuel:Nat):Qi3 P c (Qci Qbd Qch fuel):=by
 intro k1 r h
 refine Qec hcf rfl fun Γ M hP hnt hM=>?_
 subst hP
 refine Tr.init [(0,.agg [.d (.int .u8 k1.Part.Events),.d (.int .u8 k1.Part.Graph.zM),.d (.int .u8 k1.Part.Graph.Marks),.d (.int .u8 k1.Part.Graph.To.1.1),.d (.int .u8 k1.Part.Graph.To.1.2.1),.d (.int .u8 k1.Part.Graph.To.1.2.2.1),.d (.int .u8 k1.Part.Graph.To.1.2.2.2.1),.d (.int .u8 k1.Part.Graph.To.1.2.2.2.2),.d (.int .u8 k1.Part.Graph.To.2.1.1),.d (.int .u8 k1.Part.Graph.To.2.1.2.1),.d (.int .u8 k1.Part.Graph.To.2.1.2.2.1),.d (.int .u8 k1.Part.Graph.To.2.1.2.2.2.1),.d (.int .u8 k1.Part.Graph.To.2.1.2.2.2.2),.d (.int .u8 k1.Part.Graph.To.2.2.1.1),.d (.int .u8 k1.Part.Graph.To.2.2.1.2.1),.d (.int .u8 k1.Part.Graph.To.2.2.1.2.2.1),.d (.int .u8 k1.Part.Graph.To.2.2.1.2.2.2.1),.d (.int .u8 k1.Part.Graph.To.2.2.1.2.2.2.2),.d (.int .u8 k1.Part.Graph.To.2.2.2.1.1),.d (.int .u8 k1.Part.Graph.To.2.2.2.1.2.1),.d (.int .u8 k1.Part.Graph.To.2.2.2.1.2.2.1),.d (.int .u8 k1.Part.Graph.To.2.2.2.1.2.2.2.1),.d (.int .u8 k1.Part.Graph.To.2.2.2.1.2.2.2.2),.d (.int .u8 k1.Part.Graph.To.2.2.2.2.1),.d (.int .u8 k1.Part.Graph.To.2.2.2.2.2.1),.d (.int .u8 k1.Part.Graph.To.2.2.2.2.2.2.1),.d (.int .u8 k1.Part.Graph.To.2.2.2.2.2.2.2.1),.d (.int .u8 k1.Part.Graph.To.2.2.2.2.2.2.2.2),.d (.int .u8 k1.zC),.d (.int .u8 k1.zB),.d (.int .u8 k1.zD)])] rfl ?_
 unfold Qci at h
 unfold Qi4
 refine sr ((Rn.box (v:=.agg [.d (.int .u8 k1.Part.Events),.d (.int .u8 k1.Part.Graph.zM),.d (.int .u8 k1.Part.Graph.Marks),.d (.int .u8 k1.Part.Graph.To.1.1),.d (.int .u8 k1.Part.Graph.To.1.2.1),.d (.int .u8 k1.Part.Graph.To.1.2.2.1),.d (.int .u8 k1.Part.Graph.To.1.2.2.2.1),.d (.int .u8 k1.Part.Graph.To.1.2.2.2.2),.d (.int .u8 k1.Part.Graph.To.2.1.1),.d (.int .u8 k1.Part.Graph.To.2.1.2.1),.d (.int .u8 k1.Part.Graph.To.2.1.2.2.1),.d (.int .u8 k1.Part.Graph.To.2.1.2.2.2.1),.d (.int .u8 k1.Part.Graph.To.2.1.2.2.2.2),.d (.int .u8 k1.Part.Graph.To.2.2.1.1),.d (.int .u8 k1.Part.Graph.To.2.2.1.2.1),.d (.int .u8 k1.Part.Graph.To.2.2.1.2.2.1),.d (.int .u8 k1.Part.Graph.To.2.2.1.2.2.2.1),.d (.int .u8 k1.Part.Graph.To.2.2.1.2.2.2.2),.d (.int .u8 k1.Part.Graph.To.2.2.2.1.1),.d (.int .u8 k1.Part.Graph.To.2.2.2.1.2.1),.d (.int .u8 k1.Part.Graph.To.2.2.2.1.2.2.1),.d (.int .u8 k1.Part.Graph.To.2.2.2.1.2.2.2.1),.d (.int .u8 k1.Part.Graph.To.2.2.2.1.2.2.2.2),.d (.int .u8 k1.Part.Graph.To.2.2.2.2.1),.d (.int .u8 k1.Part.Graph.To.2.2.2.2.2.1),.d (.int .u8 k1.Part.Graph.To.2.2.2.2.2.2.1),.d (.int .u8 k1.Part.Graph.To.2.2.2.2.2.2.2.1),.d (.int .u8 k1.Part.Graph.To.2.2.2.2.2.2.2.2),.d (.int .u8 k1.zC),.d (.int .u8 k1.zB),.d (.int .u8 k1.zD)]) (cs:=[.d (.int .u8 k1.Part.Events),.d (.int .u8 k1.Part.Graph.zM),.d (.int .u8 k1.Part.Graph.Marks),.d (.int .u8 k1.Part.Graph.To.1.1),.d (.int .u8 k1.Part.Graph.To.1.2.1),.d (.int .u8 k1.Part.Graph.To.1.2.2.1),.d (.int .u8 k1.Part.Graph.To.1.2.2.2.1),.d (.int .u8 k1.Part.Graph.To.1.2.2.2.2),.d (.int .u8 k1.Part.Graph.To.2.1.1),.d (.int .u8 k1.Part.Graph.To.2.1.2.1),.d (.int .u8 k1.Part.Graph.To.2.1.2.2.1),.d (.int .u8 k1.Part.Graph.To.2.1.2.2.2.1),.d (.int .u8 k1.Part.Graph.To.2.1.2.2.2.2),.d (.int .u8 k1.Part.Graph.To.2.2.1.1),.d (.int .u8 k1.Part.Graph.To.2.2.1.2.1),.d (.int .u8 k1.Part.Graph.To.2.2.1.2.2.1),.d (.int .u8 k1.Part.Graph.To.2.2.1.2.2.2.1),.d (.int .u8 k1.Part.Graph.To.2.2.1.2.2.2.2),.d (.int .u8 k1.Part.Graph.To.2.2.2.1.1),.d (.int .u8 k1.Part.Graph.To.2.2.2.1.2.1),.d (.int .u8 k1.Part.Graph.To.2.2.2.1.2.2.1),.d (.int .u8 k1.Part.Graph.To.2.2.2.1.2.2.2.1),.d (.int .u8 k1.Part.Graph.To.2.2.2.1.2.2.2.2),.d (.int .u8 k1.Part.Graph.To.2.2.2.2.1),.d (.int .u8 k1.Part.Graph.To.2.2.2.2.2.1),.d (.int .u8 k1.Part.Graph.To.2.2.2.2.2.2.1),.d (.int .u8 k1.Part.Graph.To.2.2.2.2.2.2.2.1),.d (.int .u8 k1.Part.Graph.To.2.2.2.2.2.2.2.2),.d (.int .u8 k1.zC),.d (.int .u8 k1.zB),.d (.int .u8 k1.zD)]) tv rfl rfl rfl rfl rfl (Rn.alloc tv rfl (nt ((Tr.seq ?_))))))
 refine Tr.rgnD (by decide) ?_
 refine Rn.fldP (o':=0) tv rfl rfl (Rn.fldP (o':=0) tv rfl rfl (Rn.load (v:=.d (.int .u8 k1.Part.Events)) tv rfl (Qk rfl) rfl rfl ?_))
 obtain ⟨x3,h2,h⟩:=bnd h
 refine Rn.call (args:=[.d (.int .u8 k1.Part.Events)]) tv rfl (H_overseerlaw03_Set_Events _ _ h2) (fun _=>Q8w hM rfl) (Rn.fldP (o':=0) tv rfl rfl (Rn.fldP (o':=1) tv rfl rfl (Rn.load (v:=.agg [.d (.int .u8 k1.Part.Graph.zM),.d (.int .u8 k1.Part.Graph.Marks),.d (.int .u8 k1.Part.Graph.To.1.1),.d (.int .u8 k1.Part.Graph.To.1.2.1),.d (.int .u8 k1.Part.Graph.To.1.2.2.1),.d (.int .u8 k1.Part.Graph.To.1.2.2.2.1),.d (.int .u8 k1.Part.Graph.To.1.2.2.2.2),.d (.int .u8 k1.Part.Graph.To.2.1.1),.d (.int .u8 k1.Part.Graph.To.2.1.2.1),.d (.int .u8 k1.Part.Graph.To.2.1.2.2.1),.d (.int .u8 k1.Part.Graph.To.2.1.2.2.2.1),.d (.int .u8 k1.Part.Graph.To.2.1.2.2.2.2),.d (.int .u8 k1.Part.Graph.To.2.2.1.1),.d (.int .u8 k1.Part.Graph.To.2.2.1.2.1),.d (.int .u8 k1.Part.Graph.To.2.2.1.2.2.1),.d (.int .u8 k1.Part.Graph.To.2.2.1.2.2.2.1),.d (.int .u8 k1.Part.Graph.To.2.2.1.2.2.2.2),.d (.int .u8 k1.Part.Graph.To.2.2.2.1.1),.d (.int .u8 k1.Part.Graph.To.2.2.2.1.2.1),.d (.int .u8 k1.Part.Graph.To.2.2.2.1.2.2.1),.d (.int .u8 k1.Part.Graph.To.2.2.2.1.2.2.2.1),.d (.int .u8 k1.Part.Graph.To.2.2.2.1.2.2.2.2),.d (.int .u8 k1.Part.Graph.To.2.2.2.2.1),.d (.int .u8 k1.Part.Graph.To.2.2.2.2.2.1),.d (.int .u8 k1.Part.Graph.To.2.2.2.2.2.2.1),.d (.int .u8 k1.Part.Graph.To.2.2.2.2.2.2.2.1),.d (.int .u8 k1.Part.Graph.To.2.2.2.2.2.2.2.2)]) tv rfl (Qk rfl) rfl rfl ?_)))
 obtain ⟨x5,h4,h⟩:=bnd h
 refine Rn.call (args:=[(l_ x3),.agg [.d (.int .u8 k1.Part.Graph.zM),.d (.int .u8 k1.Part.Graph.Marks),.d (.int .u8 k1.Part.Graph.To.1.1),.d (.int .u8 k1.Part.Graph.To.1.2.1),.d (.int .u8 k1.Part.Graph.To.1.2.2.1),.d (.int .u8 k1.Part.Graph.To.1.2.2.2.1),.d (.int .u8 k1.Part.Graph.To.1.2.2.2.2),.d (.int .u8 k1.Part.Graph.To.2.1.1),.d (.int .u8 k1.Part.Graph.To.2.1.2.1),.d (.int .u8 k1.Part.Graph.To.2.1.2.2.1),.d (.int .u8 k1.Part.Graph.To.2.1.2.2.2.1),.d (.int .u8 k1.Part.Graph.To.2.1.2.2.2.2),.d (.int .u8 k1.Part.Graph.To.2.2.1.1),.d (.int .u8 k1.Part.Graph.To.2.2.1.2.1),.d (.int .u8 k1.Part.Graph.To.2.2.1.2.2.1),.d (.int .u8 k1.Part.Graph.To.2.2.1.2.2.2.1),.d (.int .u8 k1.Part.Graph.To.2.2.1.2.2.2.2),.d (.int .u8 k1.Part.Graph.To.2.2.2.1.1),.d (.int .u8 k1.Part.Graph.To.2.2.2.1.2.1),.d (.int .u8 k1.Part.Graph.To.2.2.2.1.2.2.1),.d (.int .u8 k1.Part.Graph.To.2.2.2.1.2.2.2.1),.d (.int .u8 k1.Part.Graph.To.2.2.2.1.2.2.2.2),.d (.int .u8 k1.Part.Graph.To.2.2.2.2.1),.d (.int .u8 k1.Part.Graph.To.2.2.2.2.2.1),.d (.int .u8 k1.Part.Graph.To.2.2.2.2.2.2.1),.d (.int .u8 k1.Part.Graph.To.2.2.2.2.2.2.2.1),.d (.int .u8 k1.Part.Graph.To.2.2.2.2.2.2.2.2)]]) tv rfl (H_overseerlaw03_Make _ _ _ h4) (fun _=>Q8w hM rfl) (Rn.fldP (o':=29) tv rfl rfl (Rn.load (v:=.d (.int .u8 k1.zB)) tv rfl (Qk rfl) rfl rfl (Rn.bin tv rfl rfl rfl ?_)))
 obtain ⟨x7,h6,h⟩:=bnd h
 refine Rn.call (args:=[.d (.int .u8 (andI .u8 k1.zB 15))]) tv rfl (H_overseerlaw03_Set_Events _ _ h6) (fun _=>Q8w hM rfl) (Rn.fldP (o':=30) tv rfl rfl (Rn.load (v:=.d (.int .u8 k1.zD)) tv rfl (Qk rfl) rfl rfl (Rn.bin tv rfl rfl rfl ?_)))
 obtain ⟨x9,h8,h⟩:=bnd h
 refine Rn.call (args:=[.d (.int .u8 (andI .u8 k1.zD 15))]) tv rfl (H_overseerlaw03_Set_Events _ _ h8) (fun _=>Q8w hM rfl) (Rn.buildT (v:=.agg [(l_ x5.zJ),(i_ x5.zM),(l_ x5.zK),.d (.lst 3 (List.map Qa x5.zL)),.nils 1,(o_ x7),(l_ x9),(i_ 4)]) tv rfl (Rn.alloc tv rfl (Rn.storeT (v:=.agg [(l_ x5.zJ),(i_ x5.zM),(l_ x5.zK),.d (.lst 3 (List.map Qa x5.zL)),.nils 1,(o_ x7),(l_ x9),(i_ 4)]) (ds:=[(l_ x5.zJ),(i_ x5.zM),(l_ x5.zK),.d (.lst 3 (List.map Qa x5.zL)),.nils 1,(o_ x7),(l_ x9),(i_ 4)]) (cs':=[(l_ x5.zJ),(i_ x5.zM),(l_ x5.zK),.d (.lst 3 (List.map Qa x5.zL)),.nils 1,(o_ x7),(l_ x9),(i_ 4)]) tv rfl rfl rfl rfl rfl rfl rfl ?_)))
 refine Rn.nil ⟨rfl,?_⟩
 refine toN ?_
 refine Tr.cutB (fun ((c26,c27,c28,c29,c30,c31,p32):(List Int)×(List Int)×(List Qc)×(List Int)×(List Int)×(List Int)×(List Int))=>⟨look [(2,.ptr (Γ.n0 + 2) 0),(3,.ptr (Γ.n0 + 3) 0)],Qo Γ.n0 (bxs [(1,.cells ([.d (.int .u8 k1.Part.Events),.d (.int .u8 k1.Part.Graph.zM),.d (.int .u8 k1.Part.Graph.Marks),.d (.int .u8 k1.Part.Graph.To.1.1),.d (.int .u8 k1.Part.Graph.To.1.2.1),.d (.int .u8 k1.Part.Graph.To.1.2.2.1),.d (.int .u8 k1.Part.Graph.To.1.2.2.2.1),.d (.int .u8 k1.Part.Graph.To.1.2.2.2.2),.d (.int .u8 k1.Part.Graph.To.2.1.1),.d (.int .u8 k1.Part.Graph.To.2.1.2.1),.d (.int .u8 k1.Part.Graph.To.2.1.2.2.1),.d (.int .u8 k1.Part.Graph.To.2.1.2.2.2.1),.d (.int .u8 k1.Part.Graph.To.2.1.2.2.2.2),.d (.int .u8 k1.Part.Graph.To.2.2.1.1),.d (.int .u8 k1.Part.Graph.To.2.2.1.2.1),.d (.int .u8 k1.Part.Graph.To.2.2.1.2.2.1),.d (.int .u8 k1.Part.Graph.To.2.2.1.2.2.2.1),.d (.int .u8 k1.Part.Graph.To.2.2.1.2.2.2.2),.d (.int .u8 k1.Part.Graph.To.2.2.2.1.1),.d (.int .u8 k1.Part.Graph.To.2.2.2.1.2.1),.d (.int .u8 k1.Part.Graph.To.2.2.2.1.2.2.1),.d (.int .u8 k1.Part.Graph.To.2.2.2.1.2.2.2.1),.d (.int .u8 k1.Part.Graph.To.2.2.2.1.2.2.2.2),.d (.int .u8 k1.Part.Graph.To.2.2.2.2.1),.d (.int .u8 k1.Part.Graph.To.2.2.2.2.2.1),.d (.int .u8 k1.Part.Graph.To.2.2.2.2.2.2.1),.d (.int .u8 k1.Part.Graph.To.2.2.2.2.2.2.2.1),.d (.int .u8 k1.Part.Graph.To.2.2.2.2.2.2.2.2),.d (.int .u8 k1.zC),.d (.int .u8 k1.zB),.d (.int .u8 k1.zD)])),(2,.cells ([(o_ c26),(i_ 0),(o_ c27),.own 3 (List.map Qa c28),(o_ c29),(o_ c30),(o_ c31),(i_ 0)])),(3,.cells ([(l_ x5.zJ),(i_ x5.zM),(l_ x5.zK),.d (.lst 3 (List.map Qa x5.zL)),(o_ p32),(o_ x7),(l_ x9),(i_ 4)]))]) M,Γ.n0 + 42⟩) h (fun z h=>?_) (fun z h=>?_)
 ·refine sr ((md rfl (nt ((Tr.block ?_)))))
  refine Tr.loop (mk:=fun ((i10,c11,c12,c13,c14,c15,c16,p17):Int×(List Int)×(List Int)×(List Qc)×(List Int)×(List Int)×(List Int)×(List Int))=>⟨look [(1,.ptr (Γ.n0 + 1) 0),(2,.ptr (Γ.n0 + 2) 0),(3,.ptr (Γ.n0 + 3) 0),(4,(i_ i10))],Qo Γ.n0 (bxs [(1,.cells ([.d (.int .u8 k1.Part.Events),.d (.int .u8 k1.Part.Graph.zM),.d (.int .u8 k1.Part.Graph.Marks),.d (.int .u8 k1.Part.Graph.To.1.1),.d (.int .u8 k1.Part.Graph.To.1.2.1),.d (.int .u8 k1.Part.Graph.To.1.2.2.1),.d (.int .u8 k1.Part.Graph.To.1.2.2.2.1),.d (.int .u8 k1.Part.Graph.To.1.2.2.2.2),.d (.int .u8 k1.Part.Graph.To.2.1.1),.d (.int .u8 k1.Part.Graph.To.2.1.2.1),.d (.int .u8 k1.Part.Graph.To.2.1.2.2.1),.d (.int .u8 k1.Part.Graph.To.2.1.2.2.2.1),.d (.int .u8 k1.Part.Graph.To.2.1.2.2.2.2),.d (.int .u8 k1.Part.Graph.To.2.2.1.1),.d (.int .u8 k1.Part.Graph.To.2.2.1.2.1),.d (.int .u8 k1.Part.Graph.To.2.2.1.2.2.1),.d (.int .u8 k1.Part.Graph.To.2.2.1.2.2.2.1),.d (.int .u8 k1.Part.Graph.To.2.2.1.2.2.2.2),.d (.int .u8 k1.Part.Graph.To.2.2.2.1.1),.d (.int .u8 k1.Part.Graph.To.2.2.2.1.2.1),.d (.int .u8 k1.Part.Graph.To.2.2.2.1.2.2.1),.d (.int .u8 k1.Part.Graph.To.2.2.2.1.2.2.2.1),.d (.int .u8 k1.Part.Graph.To.2.2.2.1.2.2.2.2),.d (.int .u8 k1.Part.Graph.To.2.2.2.2.1),.d (.int .u8 k1.Part.Graph.To.2.2.2.2.2.1),.d (.int .u8 k1.Part.Graph.To.2.2.2.2.2.2.1),.d (.int .u8 k1.Part.Graph.To.2.2.2.2.2.2.2.1),.d (.int .u8 k1.Part.Graph.To.2.2.2.2.2.2.2.2),.d (.int .u8 k1.zC),.d (.int .u8 k1.zB),.d (.int .u8 k1.zD)])),(2,.cells ([(o_ c11),(i_ 0),(o_ c12),.own 3 (List.map Qa c13),(o_ c14),(o_ c15),(o_ c16),(i_ 0)])),(3,.cells ([(l_ x5.zJ),(i_ x5.zM),(l_ x5.zK),.d (.lst 3 (List.map Qa x5.zL)),(o_ p17),(o_ x7),(l_ x9),(i_ 4)]))]) M,Γ.n0 + 42⟩) h (by exact Ql ⟨(kPtr rfl),(kPtr rfl),(kPtr rfl),(sm rfl),tv⟩ ⟨⟨_,rfl,rfl,(.same rfl)⟩,⟨_,rfl,rfl,(.cons (WkV.nilsO _) (.cons (sm rfl) (.cons (WkV.nilsO _) (.cons (WkV.nilsO _) (.cons (WkV.nilsO _) (.cons (WkV.nilsO _) (.cons (WkV.nilsO _) (.cons (sm rfl) .nil))))))))⟩,⟨_,rfl,rfl,(.cons (sm rfl) (.cons (sm rfl) (.cons (sm rfl) (.cons (sm rfl) (.cons (WkV.nilsO _) (.cons (sm rfl) (.cons (sm rfl) (.cons (sm rfl) .nil))))))))⟩,tv⟩ rfl) (fun k18 z h=>?_)
  ·obtain ⟨i10,c11,c12,c13,c14,c15,c16,p17⟩:=z
   replace h:_ = some _:=h
   refine Tr.seq (sr ((md rfl (Rn.fldP (o':=0) tv rfl rfl (Rn.fldP (o':=1) tv rfl rfl (Rn.load (v:=(i_ x5.zM)) tv rfl (Qk rfl) rfl rfl (Rn.bin tv rfl rfl rfl (Rn.nil (toN ?_)))))))))
   refine Tr.cond rfl (fun hb19=>?_) (fun hb19=>?_)
   ·replace h:=ifT hb19 h
    refine Tr.skip (toN ?_)
    refine Tr.cutB (fun (p25:List Int)=>⟨look [(1,.ptr (Γ.n0 + 1) 0),(2,.ptr (Γ.n0 + 2) 0),(3,.ptr (Γ.n0 + 3) 0),(4,(i_ i10))],Qo Γ.n0 (bxs [(1,.cells ([.d (.int .u8 k1.Part.Events),.d (.int .u8 k1.Part.Graph.zM),.d (.int .u8 k1.Part.Graph.Marks),.d (.int .u8 k1.Part.Graph.To.1.1),.d (.int .u8 k1.Part.Graph.To.1.2.1),.d (.int .u8 k1.Part.Graph.To.1.2.2.1),.d (.int .u8 k1.Part.Graph.To.1.2.2.2.1),.d (.int .u8 k1.Part.Graph.To.1.2.2.2.2),.d (.int .u8 k1.Part.Graph.To.2.1.1),.d (.int .u8 k1.Part.Graph.To.2.1.2.1),.d (.int .u8 k1.Part.Graph.To.2.1.2.2.1),.d (.int .u8 k1.Part.Graph.To.2.1.2.2.2.1),.d (.int .u8 k1.Part.Graph.To.2.1.2.2.2.2),.d (.int .u8 k1.Part.Graph.To.2.2.1.1),.d (.int .u8 k1.Part.Graph.To.2.2.1.2.1),.d (.int .u8 k1.Part.Graph.To.2.2.1.2.2.1),.d (.int .u8 k1.Part.Graph.To.2.2.1.2.2.2.1),.d (.int .u8 k1.Part.Graph.To.2.2.1.2.2.2.2),.d (.int .u8 k1.Part.Graph.To.2.2.2.1.1),.d (.int .u8 k1.Part.Graph.To.2.2.2.1.2.1),.d (.int .u8 k1.Part.Graph.To.2.2.2.1.2.2.1),.d (.int .u8 k1.Part.Graph.To.2.2.2.1.2.2.2.1),.d (.int .u8 k1.Part.Graph.To.2.2.2.1.2.2.2.2),.d (.int .u8 k1.Part.Graph.To.2.2.2.2.1),.d (.int .u8 k1.Part.Graph.To.2.2.2.2.2.1),.d (.int .u8 k1.Part.Graph.To.2.2.2.2.2.2.1),.d (.int .u8 k1.Part.Graph.To.2.2.2.2.2.2.2.1),.d (.int .u8 k1.Part.Graph.To.2.2.2.2.2.2.2.2),.d (.int .u8 k1.zC),.d (.int .u8 k1.zB),.d (.int .u8 k1.zD)])),(2,.cells ([(o_ c11),(i_ 0),(o_ c12),.own 3 (List.map Qa c13),(o_ c14),(o_ c15),(o_ c16),(i_ 0)])),(3,.cells ([(l_ x5.zJ),(i_ x5.zM),(l_ x5.zK),.d (.lst 3 (List.map Qa x5.zL)),(o_ p25),(o_ x7),(l_ x9),(i_ 4)]))]) M,Γ.n0 + 42⟩) h (fun z h=>?_) (fun z h=>?_)
    ·refine Tr.block (sr ((Rn.fldP (o':=28) tv rfl rfl (Rn.load (v:=.d (.int .u8 k1.zC)) tv rfl (Qk rfl) rfl rfl (md rfl ?_)))))
     obtain ⟨s20,h21,h⟩:=bnd h
     refine Rn.bin tv rfl rfl (Qbbm h21) (Rn.bin tv rfl rfl rfl (Rn.bin tv rfl rfl rfl (Rn.nil (toN ?_))))
     refine Tr.cond rfl (fun hb22=>?_) (fun hb22=>?_)
     ·replace h:=bT hb22 h
      refine Tr.rgn (Rn.fldP (o':=4) tv rfl rfl (Rn.loadT (cs':=[(l_ x5.zJ),(i_ x5.zM),(l_ x5.zK),.d (.lst 3 (List.map Qa x5.zL)),(l_ p17),(o_ x7),(l_ x9),(i_ 4)]) tv rfl rfl rfl rfl (md rfl (Rn.bslice (xs:=[(i_ i10)]) (cs:=[(i_ i10)]) tv rfl rfl rfl rfl ?_))))
      obtain ⟨x23,h24,h⟩:=bnd h
      refine Rn.app (e:=(eI .i64)) tv rfl rfl rfl (Qcy rfl rfl rfl) h24 rfl (Rn.fldP (o':=4) tv rfl rfl (Rn.storeO (cs':=[(l_ x5.zJ),(i_ x5.zM),(l_ x5.zK),.d (.lst 3 (List.map Qa x5.zL)),(o_ x23),(o_ x7),(l_ x9),(i_ 4)]) tv rfl rfl rfl rfl rfl (Rn.nil ?_)))
      replace h:=si h; subst h
      exact Qh [38] ⟨(kPtr rfl),(kPtr rfl),(kPtr rfl),(sm rfl),tv⟩ ⟨⟨_,rfl,rfl,(.same rfl)⟩,⟨_,rfl,rfl,(.same rfl)⟩,⟨_,rfl,rfl,(.same rfl)⟩,tv⟩ rfl
     ·replace h:=bF hb22 h
      refine Tr.skip ?_
      replace h:=si h; subst h
      exact Qh [] ⟨(kPtr rfl),(kPtr rfl),(kPtr rfl),(sm rfl),tv⟩ ⟨⟨_,rfl,rfl,(.same rfl)⟩,⟨_,rfl,rfl,(.same rfl)⟩,⟨_,rfl,rfl,(.same rfl)⟩,tv⟩ rfl
    ·obtain ⟨p25,rfl⟩ : ∃ x,x = z:=⟨_,rfl⟩
     refine Tr.rgn (md rfl (Rn.bin tv rfl rfl rfl (md rfl (Rn.nil ?_))))
     exact ⟨_,h,(by exact Ql ⟨(kPtr rfl),(kPtr rfl),(kPtr rfl),(sm rfl),tv⟩ ⟨⟨_,rfl,rfl,(.same rfl)⟩,⟨_,rfl,rfl,(.same rfl)⟩,⟨_,rfl,rfl,(.same rfl)⟩,tv⟩ rfl)⟩
   ·replace h:=ifF hb19 h
    refine Tr.exit ?_
    replace h:=si h; subst h
    exact Qh [] ⟨(kPtr rfl),(kPtr rfl),tv⟩ ⟨⟨_,rfl,rfl,(.same rfl)⟩,⟨_,rfl,rfl,(.same rfl)⟩,⟨_,rfl,rfl,(.same rfl)⟩,tv⟩ rfl
 ·obtain ⟨c26,c27,c28,c29,c30,c31,p32⟩:=z
  refine sr ((Rn.load (v:=.agg [(l_ x5.zJ),(i_ x5.zM),(l_ x5.zK),.d (.lst 3 (List.map Qa x5.zL)),(l_ p32),(l_ x7),(l_ x9),(i_ 4)]) tv rfl (Qk rfl) rfl rfl (Rn.storeT (v:=.agg [(l_ x5.zJ),(i_ x5.zM),(l_ x5.zK),.d (.lst 3 (List.map Qa x5.zL)),(l_ p32),(l_ x7),(l_ x9),(i_ 4)]) (ds:=[(l_ x5.zJ),(i_ x5.zM),(l_ x5.zK),.d (.lst 3 (List.map Qa x5.zL)),(l_ p32),(l_ x7),(l_ x9),(i_ 4)]) (cs':=[(l_ x5.zJ),(i_ x5.zM),(l_ x5.zK),.d (.lst 3 (List.map Qa x5.zL)),(l_ p32),(l_ x7),(l_ x9),(i_ 4)]) tv rfl rfl rfl rfl rfl rfl rfl (nt ((Tr.ret ?_))))))
  replace h:=si h; subst h
  exact ⟨.inr rfl,(.agg [(l_ x5.zJ),(i_ x5.zM),(l_ x5.zK),.d (.lst 3 (List.map Qa x5.zL)),(l_ p32),(l_ x7),(l_ x9),(i_ 4)]),Qk3 rfl rfl rfl rfl,fun _ _ _ _ h=>h,⟨tv,tv,tv,tv,tv,tv,tv,tv,tv⟩,fun k hk=>Qi hk⟩
theorem Qox {P:Program} {c:Nat} {Qj:(List Int)→Int→Option Bool} {Qv:Qf→Int→Option (Int×Int)}
    (H_alphabet_Contains:Qb9 P 50 Qj)
    (H_timedsynthesis_task_escape:Qdo P 53 Qv) (hcf:Qx P c = some Qfa):Qe9 P c (Qbl Qj Qv):=by
 intro i1 x2 x11 x14 k3 k5 k7 k9 k12 k15 r h
 intro M nb hk4 hk6 hk8 hk10 hk13 hk16
 refine Qk4 hcf rfl M nb fun Γ hP hnt hn0 hM=>?_
 subst hP hn0
 refine Tr.init [(0,(i_ i1)),(1,.ptr k3 0),(2,.ptr k12 0),(3,.ptr k15 0)] rfl ?_
 unfold Qbl at h
 unfold Qfa
 refine sr ((md rfl (nt ((sr ((Rn.load (v:=.ptr k5 0) tv rfl (Qw hM hk4) rfl rfl (md rfl ?_))))))))
 obtain ⟨⟨r18,r19⟩,h17,h⟩:=bnd h
 refine Rn.callM (args:=[.ptr k5 0,(i_ i1)]) tv rfl (fun M2 nb2 hn hx=>H_timedsynthesis_task_escape _ _ k5 k7 k9 _ h17 M2 nb2 (hx _ _ (Qw hM hk6)) (hx _ _ (Qw hM hk8)) (hx _ _ (Qw hM hk10))) rfl pc9 ?_
 refine Rn.mov (v:=.tup [(i_ r18),(i_ r19)]) tv rfl (Rn.ext (v:=(i_ r18)) (vs:=[(i_ r18),(i_ r19)]) tv rfl rfl rfl (Rn.ext (v:=(i_ r19)) (vs:=[(i_ r18),(i_ r19)]) tv rfl rfl rfl (md rfl (md rfl (nt ((sr ((md rfl (Rn.bin tv rfl rfl rfl (md rfl ?_)))))))))))
 refine Qbo (r18 != 0) (fun hb20=>?_) (fun hb20=>?_)
 ·replace h:=bT hb20 h
  refine Rn.sk (nw rfl hb20) (Rn.sk (nw rfl hb20) (Rn.sk (nw rfl hb20) (Rn.sk (nw rfl hb20) (Rn.sk (nw rfl hb20) (Rn.pickT (v:=(b_ true)) tv rfl hb20 rfl (md rfl (Rn.sk (nw (b:=true) rfl rfl) (Rn.sk (nw (b:=true) rfl rfl) (Rn.sk (nw (b:=true) rfl rfl) (Rn.sk (nw (b:=true) rfl rfl) (Rn.pickT (v:=(b_ true)) tv rfl rfl rfl (md rfl (nt ((Tr.ret ?_)))))))))))))))
  replace h:=si h; subst h
  exact ⟨.inr rfl,(b_ true),rfl,fun _ _ _ _ h=>h,tv,fun k hk=>Qi hk⟩
 ·replace h:=bF hb20 h
  refine Rn.load (v:=(l_ x11)) (gw rfl hb20) rfl (Qw hM hk13) rfl rfl (Rn.movD (gw rfl hb20) rfl ?_)
  obtain ⟨x21,h22,h⟩:=bnd h
  refine Rn.idxD (e:=(eI .i64)) (gw rfl hb20) rfl rfl h22 (Rn.loadC (x:=.int .i64 x21) (gw rfl hb20) rfl (Rn.bin (gw rfl hb20) rfl rfl rfl (Rn.pickF (v:=(b_ (decide (x21 < 0)))) tv rfl hb20 rfl (md rfl ?_))))
  refine Qbo (decide (x21 < 0)) (fun hb23=>?_) (fun hb23=>?_)
  ·replace h:=ifT hb23 h
   refine Rn.sk (nw rfl hb23) (Rn.sk (nw rfl hb23) (Rn.sk (nw rfl hb23) (Rn.sk (nw rfl hb23) (Rn.pickT (v:=(b_ true)) tv rfl hb23 rfl (md rfl (nt ((Tr.ret ?_))))))))
   replace h:=si h; subst h
   exact ⟨.inr rfl,(b_ true),rfl,fun _ _ _ _ h=>h,tv,fun k hk=>Qi hk⟩
  ·replace h:=ifF hb23 h
   refine Rn.fldP (o':=4) (gw rfl hb23) rfl rfl (Rn.load (v:=(l_ x14.zC)) (gw rfl hb23) rfl (Qw hM hk16) rfl rfl (Rn.movD (gw rfl hb23) rfl ?_))
   obtain ⟨x25,h24,h⟩:=bnd h
   refine Rn.call (args:=[(l_ x14.zC),(i_ i1)]) (gw rfl hb23) rfl (H_alphabet_Contains _ _ _ h24) pc9 (Rn.pickF (v:=(b_ x25)) tv rfl hb23 rfl (md rfl (nt ((Tr.ret ?_)))))
   replace h:=si h; subst h
   exact ⟨.inr rfl,(b_ x25),rfl,fun _ _ _ _ h=>h,tv,fun k hk=>Qi hk⟩
theorem Qvg {P:Program} {c:Nat} (hcf:Qx P c = some Qg4) (fuel:Nat):Qg3 P c (Qb2 fuel):=by
 intro s1 f2 g3 cp4 r h
 intro M nb hc5 ho7 hf6
 refine Qk4 hcf rfl M nb fun Γ hP hnt hn0 hM=>?_
 subst hP hn0
 refine Tr.init [(0,(l_ s1)),(1,.clo g3 cp4)] rfl ?_
 unfold Qb2 at h
 unfold Qg4
 refine sr ((md rfl (nt ((Tr.seq (sr ((md rfl (Rn.lenD tv rfl (md rfl (nt ((Tr.block ?_)))))))))))))
 refine Tr.loop (mk:=fun (x9:Int)=>⟨look [(0,(l_ s1)),(1,.clo g3 cp4),(7,(i_ (s1.length:Int))),(8,(i_ x9))],Qo Γ.n0 (bxs []) M,Γ.n0 + 19⟩) h (by exact Ql ⟨(sm rfl),(kFun hM ho7),(sm rfl),(sm rfl),tv⟩ tv rfl) (fun k10 z h=>?_)
 ·obtain ⟨x9,rfl⟩ : ∃ x,x = z:=⟨_,rfl⟩
  replace h:_ = some _:=h
  refine sr ((Rn.bin tv rfl rfl rfl (nt ((Tr.seq ?_)))))
  refine Tr.cond rfl (fun hb11=>?_) (fun hb11=>?_)
  ·replace h:=ifT hb11 h
   refine Tr.skip (toN (Tr.seq (Tr.block (sr ((md rfl (md rfl (nt ((sr ((Rn.mov (v:=.clo g3 cp4) tv rfl (md rfl (md rfl ?_))))))))))))))
   obtain ⟨x12,h13,h⟩:=bnd h
   refine Rn.idxD (e:=(eI .i64)) tv rfl rfl h13 (Rn.loadC (x:=.int .i64 x12) tv rfl ?_)
   obtain ⟨x15,h14,h⟩:=bnd h
   refine Rn.callvM (args:=[(i_ x12)] ++ cp4) tv rfl (by rw [hc5]; rfl) (fun M2 nb2 hn hx=>hf6 _ _ h14 M2 nb2 (by omega) ((Q5n hM).trans hx)) rfl pc9 ?_
   refine Rn.nil (toN ?_)
   refine Tr.cond rfl (fun hb16=>?_) (fun hb16=>?_)
   ·replace h:=bT hb16 h
    refine sr ((md rfl (md rfl (nt ((Tr.ret ?_))))))
    replace h:=si h; subst h
    exact ⟨.inr rfl,(i_ x9),rfl,fun _ _ _ _ h=>h,tv,fun k hk=>Qi hk⟩
   ·replace h:=bF hb16 h
    refine Tr.skip (toN (Tr.rgn (Rn.bin tv rfl rfl rfl (md rfl (Rn.nil ?_)))))
    exact ⟨_,h,(by exact Ql ⟨(sm rfl),(kFun hM ho7),(sm rfl),(sm rfl),tv⟩ tv rfl)⟩
  ·replace h:=ifF hb11 h
   refine Tr.exit (toN (sr ((md rfl (nt ((Tr.ret ?_)))))))
   replace h:=si h; subst h
   exact ⟨.inr rfl,(i_ (-1)),rfl,fun _ _ _ _ h=>h,tv,fun k hk=>Qi hk⟩
theorem Qrl {P:Program} {c:Nat} {Qb2:(List Int)→(Int→Option Bool)→Option Int}
    (H_slices_IndexFunc_int:Qg3 P 75 Qb2) (hcf:Qx P c = some Qf2):Qf1 P c (Qbr Qb2):=by
 intro s1 f2 g3 cp4 r h
 intro M nb hc5 ho7 hf6
 refine Qk4 hcf rfl M nb fun Γ hP hnt hn0 hM=>?_
 subst hP hn0
 refine Tr.init [(0,(l_ s1)),(1,.clo g3 cp4)] rfl ?_
 unfold Qbr at h
 unfold Qf2
 refine sr ((md rfl (nt ((sr ((md rfl (Rn.mov (v:=.clo g3 cp4) tv rfl ?_))))))))
 obtain ⟨x13,h12,h⟩:=bnd h
 refine Rn.callM (args:=[(l_ s1),.clo g3 cp4]) tv rfl (fun M2 nb2 hn hx=>H_slices_IndexFunc_int _ _ g3 cp4 _ h12 M2 nb2 hc5 (Qbjo ((Q5n hM).trans hx) ho7) (fun a9 r10 h11 M3 nb3 hn3 hx3=>hf6 a9 r10 h11 M3 nb3 (by omega) ((Q5n hM).trans (hx.trans hx3)))) rfl pc9 ?_
 refine Rn.bin tv rfl rfl rfl (md rfl (nt ((Tr.ret ?_))))
 replace h:=si h; subst h
 exact ⟨.inr rfl,(b_ (decide (x13≥0))),rfl,fun _ _ _ _ h=>h,tv,fun k hk=>Qi hk⟩
theorem Qrm {P:Program} {c:Nat} {Q4:Qb→Option Int} {Qbb:(List Int)→Int→Option Int} {Q5:Qb→Option Qf} {Qp:Qf→Option ((List Int))} {Qj:(List Int)→Int→Option Bool} {Qbr:(List Int)→(Int→Option Bool)→Option Bool} {Qbl:Int→Qf→(List Int)→Qb→Option Bool}
    (H_timedsynthesis_Check:Qfg P 30 Q4)
    (H_alphabet_CheckSet:Qgk P 31 Qbb)
    (H_timedsynthesis_begin:Qfh P 37 Q5)
    (H_timedsynthesis_task_distances:Qcl P 39 Qp)
    (H_alphabet_Contains:Qb9 P 50 Qj)
    (H_slices_ContainsFunc_int:Qf1 P 51 Qbr)
    (H_timedsynthesis_Conforms_1:Qe9 P 52 Qbl) (hcf:Qx P c = some Qf4) (fuel:Nat):Qf3 P c (Qbs Q4 Qbb Q5 Qp Qj Qbr Qbl fuel):=by
 intro p1 xset2 r h
 refine Qec hcf rfl fun Γ M hP hnt hM=>?_
 subst hP
 refine Tr.init [(0,.agg [(l_ p1.zA.zJ),(i_ p1.zA.zM),(l_ p1.zA.zK),.d (.lst 3 (List.map Qa p1.zA.zL)),(l_ p1.zC),(l_ p1.zB),(l_ p1.zD),(i_ p1.Tick)]),(1,(l_ xset2))] rfl ?_
 unfold Qbs at h
 unfold Qf4
 refine sr ((Rn.box (v:=.agg [(l_ p1.zA.zJ),(i_ p1.zA.zM),(l_ p1.zA.zK),.d (.lst 3 (List.map Qa p1.zA.zL)),(l_ p1.zC),(l_ p1.zB),(l_ p1.zD),(i_ p1.Tick)]) (cs:=[(l_ p1.zA.zJ),(i_ p1.zA.zM),(l_ p1.zA.zK),.d (.lst 3 (List.map Qa p1.zA.zL)),(l_ p1.zC),(l_ p1.zB),(l_ p1.zD),(i_ p1.Tick)]) tv rfl rfl rfl rfl rfl (md rfl (md rfl (nt ((Tr.seq (sr ((Rn.load (v:=.agg [(l_ p1.zA.zJ),(i_ p1.zA.zM),(l_ p1.zA.zK),.d (.lst 3 (List.map Qa p1.zA.zL)),(l_ p1.zC),(l_ p1.zB),(l_ p1.zD),(i_ p1.Tick)]) tv rfl (Qk rfl) rfl rfl ?_))))))))))
 obtain ⟨x4,h3,h⟩:=bnd h
 refine Rn.call (args:=[.agg [(l_ p1.zA.zJ),(i_ p1.zA.zM),(l_ p1.zA.zK),.d (.lst 3 (List.map Qa p1.zA.zL)),(l_ p1.zC),(l_ p1.zB),(l_ p1.zD),(i_ p1.Tick)]]) tv rfl (H_timedsynthesis_Check _ _ h3) pc9 (md rfl (nt ((sr ((md rfl (Rn.bin tv rfl rfl rfl (Rn.nil (toN ?_)))))))))
 refine Tr.cond rfl (fun hb5=>?_) (fun hb5=>?_)
 ·replace h:=bT hb5 h
  refine sr ((md rfl (md rfl (md rfl (nt ((Tr.ret ?_)))))))
  replace h:=si h; subst h
  exact ⟨.inr rfl,.tup [(b_ false),(i_ x4)],res2 rfl rfl,(WkV.tup (.cons (.same rfl) (.cons (.same rfl) .nil))).rd,⟨tv,tv,tv⟩,fun k hk=>Qi hk⟩
 ·replace h:=bF hb5 h
  refine Tr.skip (toN (Tr.seq (sr ((md rfl (Rn.fldP (o':=0) tv rfl rfl (Rn.fldP (o':=1) tv rfl rfl (Rn.load (v:=(i_ p1.zA.zM)) tv rfl (Qk rfl) rfl rfl ?_))))))))
  obtain ⟨x7,h6,h⟩:=bnd h
  refine Rn.call (args:=[(l_ xset2),(i_ p1.zA.zM)]) tv rfl (H_alphabet_CheckSet _ _ _ h6) pc9 (md rfl (nt ((sr ((md rfl (Rn.bin tv rfl rfl rfl (Rn.nil (toN ?_)))))))))
  refine Tr.cond rfl (fun hb8=>?_) (fun hb8=>?_)
  ·replace h:=bT hb8 h
   refine sr ((md rfl (md rfl (md rfl (nt ((Tr.ret ?_)))))))
   replace h:=si h; subst h
   exact ⟨.inr rfl,.tup [(b_ false),(i_ x7)],res2 rfl rfl,(WkV.tup (.cons (.same rfl) (.cons (.same rfl) .nil))).rd,⟨tv,tv,tv⟩,fun k hk=>Qi hk⟩
  ·replace h:=bF hb8 h
   refine Tr.skip (toN (sr ((Rn.load (v:=.agg [(l_ p1.zA.zJ),(i_ p1.zA.zM),(l_ p1.zA.zK),.d (.lst 3 (List.map Qa p1.zA.zL)),(l_ p1.zC),(l_ p1.zB),(l_ p1.zD),(i_ p1.Tick)]) tv rfl (Qk rfl) rfl rfl ?_))))
   obtain ⟨x9,h10,h⟩:=bnd h
   refine Rn.callNew (m:=50) (args:=[.agg [(l_ p1.zA.zJ),(i_ p1.zA.zM),(l_ p1.zA.zK),.d (.lst 3 (List.map Qa p1.zA.zL)),(l_ p1.zC),(l_ p1.zB),(l_ p1.zD),(i_ p1.Tick)]]) (r':=.ptr (Γ.n0 + 67) 0) (L':=[(67,.cells [(l_ x9.zN.zA.zJ),(i_ x9.zN.zA.zM),(l_ x9.zN.zA.zK),.d (.lst 3 (List.map Qa x9.zN.zA.zL)),(l_ x9.zN.zC),(l_ x9.zN.zB),(l_ x9.zN.zD),(i_ x9.zN.Tick),.sl 1 (Γ.n0 + 61) 0 x9.from_.length x9.from_.length,.sl 1 (Γ.n0 + 65) 0 x9.left_.length x9.left_.length]),(61,.cells (Qz (fun (x:List Qc)=>[V.d (.lst 3 (List.map Qa x))]) x9.from_)),(65,.cells (Qz (fun (x:Bool)=>[V.d (.bool x)]) x9.left_))]) tv rfl (H_timedsynthesis_begin _ _ h10 _ _) rfl rfl rfl hM rfl (Rn.alloc tv rfl (Rn.store (v:=.ptr (Γ.n0 + 67) 0) (cs':=[.ptr (Γ.n0 + 67) 0]) tv rfl rfl rfl rfl rfl rfl (Rn.nil (toN ?_))))
   refine Tr.cutB (fun (c21:List Bool)=>⟨look [(1,(l_ xset2)),(2,.ptr (Γ.n0 + 2) 0),(8,.ptr (Γ.n0 + 8) 0)],Qo Γ.n0 (bxs [(2,.cells ([(l_ p1.zA.zJ),(i_ p1.zA.zM),(l_ p1.zA.zK),.d (.lst 3 (List.map Qa p1.zA.zL)),(l_ p1.zC),(l_ p1.zB),(l_ p1.zD),(i_ p1.Tick)])),(8,.cells ([.ptr (Γ.n0 + 67) 0])),(61,.cells (Qz (fun (x:List Qc)=>[V.d (.lst 3 (List.map Qa x))]) x9.from_)),(65,.cells (Qz (fun (x:Bool)=>[V.d (.bool x)]) c21)),(67,.cells ([(l_ x9.zN.zA.zJ),(i_ x9.zN.zA.zM),(l_ x9.zN.zA.zK),.d (.lst 3 (List.map Qa x9.zN.zA.zL)),(l_ x9.zN.zC),(l_ x9.zN.zB),(l_ x9.zN.zD),(i_ x9.zN.Tick),.sl 1 (Γ.n0 + 61) 0 x9.from_.length x9.from_.length,.sl 1 (Γ.n0 + 65) 0 x9.left_.length x9.left_.length]))]) M,Γ.n0 + 116⟩) h (fun z h=>?_) (fun z h=>?_)
   ·refine sr ((Rn.load (v:=.ptr (Γ.n0 + 67) 0) tv rfl (Qk rfl) rfl rfl (Rn.nilchkP tv rfl (Rn.fldP (o':=9) tv rfl rfl (Rn.load (v:=.sl 1 (Γ.n0 + 65) 0 x9.left_.length x9.left_.length) tv rfl (Qk rfl) rfl rfl (Rn.lenA tv rfl (md rfl (nt ((Tr.block ?_))))))))))
    refine Tr.loop (mk:=fun ((x11,c12):Int×(List Bool))=>⟨look [(1,(l_ xset2)),(2,.ptr (Γ.n0 + 2) 0),(8,.ptr (Γ.n0 + 8) 0),(30,(i_ (x9.left_.length:Int))),(31,(i_ x11))],Qo Γ.n0 (bxs [(2,.cells ([(l_ p1.zA.zJ),(i_ p1.zA.zM),(l_ p1.zA.zK),.d (.lst 3 (List.map Qa p1.zA.zL)),(l_ p1.zC),(l_ p1.zB),(l_ p1.zD),(i_ p1.Tick)])),(8,.cells ([.ptr (Γ.n0 + 67) 0])),(61,.cells (Qz (fun (x:List Qc)=>[V.d (.lst 3 (List.map Qa x))]) x9.from_)),(65,.cells (Qz (fun (x:Bool)=>[V.d (.bool x)]) c12)),(67,.cells ([(l_ x9.zN.zA.zJ),(i_ x9.zN.zA.zM),(l_ x9.zN.zA.zK),.d (.lst 3 (List.map Qa x9.zN.zA.zL)),(l_ x9.zN.zC),(l_ x9.zN.zB),(l_ x9.zN.zD),(i_ x9.zN.Tick),.sl 1 (Γ.n0 + 61) 0 x9.from_.length x9.from_.length,.sl 1 (Γ.n0 + 65) 0 x9.left_.length x9.left_.length]))]) M,Γ.n0 + 116⟩) h (by exact Ql ⟨(sm rfl),(kPtr rfl),(kPtr rfl),(sm rfl),(sm rfl),tv⟩ ⟨⟨_,rfl,rfl,(.same rfl)⟩,⟨_,rfl,rfl,(.cons (kPtr rfl) .nil)⟩,⟨_,rfl,rfl,(Qs fun _=>rfl)⟩,⟨_,rfl,rfl,(Qs fun _=>rfl)⟩,⟨_,rfl,rfl,(.cons (sm rfl) (.cons (sm rfl) (.cons (sm rfl) (.cons (sm rfl) (.cons (sm rfl) (.cons (sm rfl) (.cons (sm rfl) (.cons (sm rfl) (.cons (kSl rfl) (.cons (kSl rfl) .nil))))))))))⟩,tv⟩ rfl) (fun k13 z h=>?_)
    ·obtain ⟨x11,c12⟩:=z
     replace h:_ = some _:=h
     refine sr ((Rn.bin tv rfl rfl rfl (nt ((Tr.seq ?_)))))
     refine Tr.cond rfl (fun hb14=>?_) (fun hb14=>?_)
     ·replace h:=ifT hb14 h
      refine Tr.skip (toN (Tr.seq (Tr.block (sr ((md rfl (md rfl (Rn.nil (toN ?_)))))))))
      refine Tr.rgnD (by decide) ?_
      refine Rn.load (v:=.ptr (Γ.n0 + 67) 0) tv rfl (Qk rfl) rfl rfl (Rn.nilchkP tv rfl (Rn.fldP (o':=9) tv rfl rfl (Rn.load (v:=.sl 1 (Γ.n0 + 65) 0 x9.left_.length x9.left_.length) tv rfl (Qk rfl) rfl rfl (md rfl (md rfl (md rfl ?_))))))
      obtain ⟨x16,h15,h⟩:=bnd h
      refine Rn.call (args:=[(l_ xset2),(i_ x11)]) tv rfl (H_alphabet_Contains _ _ _ h15) (fun _=>Q8w hM rfl) ?_
      obtain ⟨⟨⟩,h18,h⟩:=bnd h
      refine Rn.idxA tv rfl rfl h18 ?_
      obtain ⟨x19,h20,h⟩:=bnd h
      refine Rn.storeA (g:=(fun (x:Bool)=>[V.d (.bool x)])) (v:=(b_ x16)) (fun _=>rfl) tv rfl rfl rfl rfl rfl h20 ?_
      refine Rn.nil ⟨rfl,?_⟩
      refine toN (Tr.rgn (Rn.bin tv rfl rfl rfl (md rfl (Rn.nil ?_))))
      exact ⟨_,h,(by exact Ql ⟨(sm rfl),(kPtr rfl),(kPtr rfl),(sm rfl),(sm rfl),tv⟩ ⟨⟨_,rfl,rfl,(.same rfl)⟩,⟨_,rfl,rfl,(.cons (kPtr rfl) .nil)⟩,⟨_,rfl,rfl,(Qs fun _=>rfl)⟩,⟨_,rfl,rfl,(Qs fun _=>rfl)⟩,⟨_,rfl,rfl,(.cons (sm rfl) (.cons (sm rfl) (.cons (sm rfl) (.cons (sm rfl) (.cons (sm rfl) (.cons (sm rfl) (.cons (sm rfl) (.cons (sm rfl) (.cons (kSl rfl) (.cons (kSl rfl) .nil))))))))))⟩,tv⟩ rfl)⟩
     ·replace h:=ifF hb14 h
      refine Tr.exit ?_
      replace h:=si h; subst h
      exact Qh [] ⟨(sm rfl),(kPtr rfl),(kPtr rfl),tv⟩ ⟨⟨_,rfl,rfl,(.same rfl)⟩,⟨_,rfl,rfl,(.cons (kPtr rfl) .nil)⟩,⟨_,rfl,rfl,(Qs fun _=>rfl)⟩,⟨_,rfl,rfl,(Qs fun _=>rfl)⟩,⟨_,rfl,rfl,(.cons (sm rfl) (.cons (sm rfl) (.cons (sm rfl) (.cons (sm rfl) (.cons (sm rfl) (.cons (sm rfl) (.cons (sm rfl) (.cons (sm rfl) (.cons (kSl rfl) (.cons (kSl rfl) .nil))))))))))⟩,tv⟩ rfl
   ·obtain ⟨c21,rfl⟩ : ∃ x,x = z:=⟨_,rfl⟩
    refine sr ((Rn.load (v:=.ptr (Γ.n0 + 67) 0) tv rfl (Qk rfl) rfl rfl ?_))
    obtain ⟨⟨⟩,hl22,h⟩:=bnd h
    obtain ⟨x24,h23,h⟩:=bnd h
    refine Rn.callM (args:=[.ptr (Γ.n0 + 67) 0]) tv rfl (fun M2 nb2 hn hx=>H_timedsynthesis_task_distances _ (Γ.n0 + 67) (Γ.n0 + 61) (Γ.n0 + 65) _ h23 M2 nb2 (by rw [Qdr hl22]; exact (hx _ _ (Qk rfl))) (hx _ _ (Qk rfl)) (hx _ _ (Qk rfl))) rfl pc9 ?_
    refine Rn.alloc tv rfl (Rn.storeD (cs':=[(l_ x24)]) tv rfl rfl rfl rfl rfl (nt ((sr ((md rfl (Rn.k (v:=.clo 52 [.ptr (Γ.n0 + 8) 0,.ptr (Γ.n0 + 10) 0,.ptr (Γ.n0 + 2) 0]) tv rfl rfl rfl ?_)))))))
    obtain ⟨⟨⟩,hl28,h⟩:=bnd h
    obtain ⟨x30,h29,h⟩:=bnd h
    refine Rn.callM (args:=[(l_ xset2),.clo 52 [.ptr (Γ.n0 + 8) 0,.ptr (Γ.n0 + 10) 0,.ptr (Γ.n0 + 2) 0]]) tv rfl (fun M2 nb2 hn hx=>H_slices_ContainsFunc_int _ _ 52 [.ptr (Γ.n0 + 8) 0,.ptr (Γ.n0 + 10) 0,.ptr (Γ.n0 + 2) 0] _ h29 M2 nb2 rfl ⟨Qr6 (hx _ _ (Qk rfl)),Qr6 (hx _ _ (Qk rfl)),Qr6 (hx _ _ (Qk rfl)),tv⟩ (fun a25 r26 h27 M3 nb3 hn3 hx3=>H_timedsynthesis_Conforms_1 a25 (Qf.mk x9.zN x9.from_ c21) x24 p1 (Γ.n0 + 8) (Γ.n0 + 67) (Γ.n0 + 61) (Γ.n0 + 65) (Γ.n0 + 10) (Γ.n0 + 2) r26 h27 M3 nb3 ((hx.trans hx3) _ _ (Qk rfl)) (by rw [Qdr hl28]; exact ((hx.trans hx3) _ _ (Qk rfl))) ((hx.trans hx3) _ _ (Qk rfl)) ((hx.trans hx3) _ _ (Qk rfl)) ((hx.trans hx3) _ _ (Qk rfl)) ((hx.trans hx3) _ _ (Qk rfl)))) rfl pc9 ?_
    refine Rn.un tv rfl rfl (md rfl (md rfl (nt ((Tr.ret ?_)))))
    replace h:=si h; subst h
    exact ⟨.inr rfl,.tup [(b_ (!x30)),(i_ 0)],res2 rfl rfl,(WkV.tup (.cons (.same rfl) (.cons (.same rfl) .nil))).rd,⟨tv,tv,tv⟩,fun k hk=>Qi hk⟩
theorem Q0f {P:Program} {c:Nat} (hcf:Qx P c = some Qj1) (fuel:Nat):Qd3 P c (Qt fuel):=by
 intro l1 n2 r h
 refine Qec hcf rfl fun Γ M hP hnt hM=>?_
 subst hP
 refine Tr.init [(0,(l_ l1)),(1,(i_ n2))] rfl ?_
 unfold Qt at h
 unfold Qj1
 refine sr ((md rfl (nt ((Tr.seq (sr ((md rfl (nt ((Tr.block ?_)))))))))))
 refine Tr.loop (mk:=fun (i3:Int)=>⟨look [(0,(l_ l1)),(1,(i_ n2)),(5,(i_ i3))],Qo Γ.n0 (bxs []) M,Γ.n0 + 18⟩) h (by exact Ql ⟨(sm rfl),(sm rfl),(sm rfl),tv⟩ tv rfl) (fun k4 z h=>?_)
 ·obtain ⟨i3,rfl⟩ : ∃ x,x = z:=⟨_,rfl⟩
  replace h:_ = some _:=h
  refine Tr.seq (sr ((md rfl (md rfl (Rn.lenD tv rfl (Rn.bin tv rfl rfl rfl (Rn.nil (toN ?_))))))))
  refine Tr.cond rfl (fun hb5=>?_) (fun hb5=>?_)
  ·replace h:=ifT hb5 h
   refine Tr.skip (toN (Tr.seq (Tr.block (sr ((md rfl (md rfl ?_)))))))
   obtain ⟨x6,h7,h⟩:=bnd h
   refine Rn.idxD (e:=(eI .i64)) tv rfl rfl h7 (Rn.loadC (x:=.int .i64 x6) tv rfl (md rfl (Rn.bin tv rfl rfl rfl (Rn.nil (toN ?_)))))
   refine Tr.cond rfl (fun hb8=>?_) (fun hb8=>?_)
   ·replace h:=bT hb8 h
    refine sr ((md rfl (nt ((Tr.ret ?_)))))
    replace h:=si h; subst h
    exact ⟨.inr rfl,(b_ true),rfl,fun _ _ _ _ h=>h,tv,fun k hk=>Qi hk⟩
   ·replace h:=bF hb8 h
    refine Tr.skip (toN (Tr.rgn (md rfl (Rn.bin tv rfl rfl rfl (md rfl (Rn.nil ?_))))))
    exact ⟨_,h,(by exact Ql ⟨(sm rfl),(sm rfl),(sm rfl),tv⟩ tv rfl)⟩
  ·replace h:=ifF hb5 h
   refine Tr.exit (toN (sr ((md rfl (nt ((Tr.ret ?_)))))))
   replace h:=si h; subst h
   exact ⟨.inr rfl,(b_ false),rfl,fun _ _ _ _ h=>h,tv,fun k hk=>Qi hk⟩
theorem Qk0 {P:Program} {c:Nat} {Qt:(List Int)→Int→Option Bool}
    (H_overseerlaw46_has:Qd3 P 23 Qt) (hcf:Qx P c = some Qd5) (fuel:Nat):Qd4 P c (Q6 Qt fuel):=by
 intro m1 k2 k4 r h
 intro M nb hk3 hk5
 refine Qk4 hcf rfl M nb fun Γ hP hnt hn0 hM=>?_
 subst hP hn0
 refine Tr.init [(0,.ptr k2 0)] rfl ?_
 unfold Q6 at h
 unfold Qd5
 refine sr ((Rn.movTC (v:=.nils 1) tv (nt ((sr ((Rn.mov (v:=.ptr k2 0) tv rfl (Rn.nilchkP tv rfl (Rn.fldP (o':=0) tv rfl rfl (Rn.fldP (o':=0) tv rfl rfl (Rn.fldP (o':=1) tv rfl rfl (Rn.load (v:=(i_ m1.p_.zA.zM)) tv rfl (Qw hM hk3) rfl rfl ?_))))))))))))
 obtain ⟨x6,h7,h⟩:=bnd h
 refine Rn.makes (g:=(fun (x:Int)=>[V.d (.int .i64 x)])) tv rfl rfl rfl rfl rfl h7 (Rn.movTF (v:=.sl 1 (Γ.n0 + 14) 0 (Int.toNat m1.p_.zA.zM) (Int.toNat m1.p_.zA.zM)) tv rfl rfl (Rn.nil (toN ?_)))
 refine Tr.cutB (fun (c30:List Int)=>⟨look [(0,.ptr k2 0),(3,.sl 1 (Γ.n0 + 14) 0 (Int.toNat m1.p_.zA.zM) (Int.toNat m1.p_.zA.zM))],Qo Γ.n0 (bxs [(14,.cells (Qz (fun (x:Int)=>[V.d (.int .i64 x)]) c30))]) M,Γ.n0 + 96⟩) h (fun z h=>?_) (fun z h=>?_)
 ·refine sr ((md rfl (nt ((Tr.block ?_)))))
  refine Tr.loop (mk:=fun ((i8,c9):Int×(List Int))=>⟨look [(0,.ptr k2 0),(3,.sl 1 (Γ.n0 + 14) 0 (Int.toNat m1.p_.zA.zM) (Int.toNat m1.p_.zA.zM)),(4,(i_ i8))],Qo Γ.n0 (bxs [(14,.cells (Qz (fun (x:Int)=>[V.d (.int .i64 x)]) c9))]) M,Γ.n0 + 96⟩) h (by exact Ql ⟨(Qcd (ltB hM hk3)),(kSl rfl),(sm rfl),tv⟩ ⟨⟨_,rfl,rfl,(Qs fun _=>rfl)⟩,tv⟩ rfl) (fun k10 z h=>?_)
  ·obtain ⟨i8,c9⟩:=z
   replace h:_ = some _:=h
   refine Tr.seq (sr ((md rfl (Rn.mov (v:=.sl 1 (Γ.n0 + 14) 0 (Int.toNat m1.p_.zA.zM) (Int.toNat m1.p_.zA.zM)) tv rfl (Rn.lenA tv rfl (Rn.bin tv rfl rfl rfl (Rn.nil (toN ?_))))))))
   refine Tr.cond rfl (fun hb11=>?_) (fun hb11=>?_)
   ·replace h:=ifT hb11 h
    refine Tr.skip (toN ?_)
    refine Tr.cutB (fun (c29:List Int)=>⟨look [(0,.ptr k2 0),(3,.sl 1 (Γ.n0 + 14) 0 (Int.toNat m1.p_.zA.zM) (Int.toNat m1.p_.zA.zM)),(4,(i_ i8))],Qo Γ.n0 (bxs [(14,.cells (Qz (fun (x:Int)=>[V.d (.int .i64 x)]) c29))]) M,Γ.n0 + 96⟩) h (fun z h=>?_) (fun z h=>?_)
    ·refine Tr.block (sr ((Rn.mov (v:=.sl 1 (Γ.n0 + 14) 0 (Int.toNat m1.p_.zA.zM) (Int.toNat m1.p_.zA.zM)) tv rfl (md rfl ?_))))
     obtain ⟨⟨⟩,h13,h⟩:=bnd h
     refine Rn.idxA tv rfl rfl h13 ?_
     obtain ⟨x14,h15,h⟩:=bnd h
     refine Rn.storeA (g:=(fun (x:Int)=>[V.d (.int .i64 x)])) (v:=(i_ (-1))) (fun _=>rfl) tv rfl rfl rfl rfl rfl h15 (Rn.nil (toN ?_))
     refine Tr.cutB (fun (x23:Bool)=>⟨look [(0,.ptr k2 0),(3,.sl 1 (Γ.n0 + 14) 0 (Int.toNat m1.p_.zA.zM) (Int.toNat m1.p_.zA.zM)),(4,(i_ i8)),(41,(b_ x23))],Qo Γ.n0 (bxs [(14,.cells (Qz (fun (x:Int)=>[V.d (.int .i64 x)]) x14))]) M,Γ.n0 + 96⟩) h (fun z h=>?_) (fun z h=>?_)
     ·refine Tr.rgn (Rn.mov (v:=.ptr k2 0) tv rfl (Rn.nilchkP tv rfl (Rn.fldP (o':=8) tv rfl rfl (Rn.load (v:=.sl 1 k4 0 m1.rank_.length m1.rank_.length) tv rfl (Qw hM hk3) rfl rfl (md rfl ?_)))))
      obtain ⟨⟨⟩,h17,h⟩:=bnd h
      refine Rn.idxA tv rfl rfl h17 ?_
      obtain ⟨x18,h19,h⟩:=bnd h
      refine Rn.loadA (g:=(fun (x:Int)=>[V.d (.int .i64 x)])) (v:=(i_ x18)) (f:=0) (fun _=>rfl) tv rfl (Qw hM hk5) h19 rfl rfl (Rn.bin tv rfl rfl rfl (md rfl ?_))
      refine Qbo (x18 == 0) (fun hb20=>?_) (fun hb20=>?_)
      ·replace h:=bT hb20 h
       refine Rn.mov (v:=.ptr k2 0) (gw rfl hb20) rfl (Rn.nilchkP (gw rfl hb20) rfl (Rn.fldP (o':=0) (gw rfl hb20) rfl rfl (Rn.fldP (o':=0) (gw rfl hb20) rfl rfl (Rn.fldP (o':=2) (gw rfl hb20) rfl rfl (Rn.load (v:=(l_ m1.p_.zA.zK)) (gw rfl hb20) rfl (Qw hM hk3) rfl rfl (Rn.movD (gw rfl hb20) rfl ?_))))))
       obtain ⟨x22,h21,h⟩:=bnd h
       refine Rn.call (args:=[(l_ m1.p_.zA.zK),(i_ i8)]) (gw rfl hb20) rfl (H_overseerlaw46_has _ _ _ h21) pc9 (Rn.pickT (v:=(b_ x22)) tv rfl hb20 rfl (Rn.nil ?_))
       replace h:=si h; subst h
       exact Qh [] ⟨(Qcd (ltB hM hk3)),(kSl rfl),(sm rfl),(sm rfl),tv⟩ ⟨⟨_,rfl,rfl,(Qs fun _=>rfl)⟩,tv⟩ rfl
      ·replace h:=bF hb20 h
       refine Rn.sk (nw rfl hb20) (Rn.sk (nw rfl hb20) (Rn.sk (nw rfl hb20) (Rn.sk (nw rfl hb20) (Rn.sk (nw rfl hb20) (Rn.sk (nw rfl hb20) (Rn.sk (nw rfl hb20) (Rn.sk (nw rfl hb20) (Rn.pickF (v:=(b_ false)) tv rfl hb20 rfl (Rn.nil ?_)))))))))
       replace h:=si h; subst h
       exact Qh [] ⟨(Qcd (ltB hM hk3)),(kSl rfl),(sm rfl),(sm rfl),tv⟩ ⟨⟨_,rfl,rfl,(Qs fun _=>rfl)⟩,tv⟩ rfl
     ·obtain ⟨x23,rfl⟩ : ∃ x,x = z:=⟨_,rfl⟩
      refine Tr.cond rfl (fun hb24=>?_) (fun hb24=>?_)
      ·replace h:=bT hb24 h
       refine Tr.rgn (Rn.mov (v:=.sl 1 (Γ.n0 + 14) 0 (Int.toNat m1.p_.zA.zM) (Int.toNat m1.p_.zA.zM)) tv rfl (md rfl ?_))
       obtain ⟨⟨⟩,h26,h⟩:=bnd h
       refine Rn.idxA tv rfl rfl h26 ?_
       obtain ⟨x27,h28,h⟩:=bnd h
       refine Rn.storeA (g:=(fun (x:Int)=>[V.d (.int .i64 x)])) (v:=(i_ 0)) (fun _=>rfl) tv rfl rfl rfl rfl rfl h28 (Rn.nil ?_)
       replace h:=si h; subst h
       exact Qh [] ⟨(Qcd (ltB hM hk3)),(kSl rfl),(sm rfl),tv⟩ ⟨⟨_,rfl,rfl,(Qs fun _=>rfl)⟩,tv⟩ rfl
      ·replace h:=bF hb24 h
       refine Tr.skip ?_
       replace h:=si h; subst h
       exact Qh [] ⟨(Qcd (ltB hM hk3)),(kSl rfl),(sm rfl),tv⟩ ⟨⟨_,rfl,rfl,(Qs fun _=>rfl)⟩,tv⟩ rfl
    ·obtain ⟨c29,rfl⟩ : ∃ x,x = z:=⟨_,rfl⟩
     refine Tr.rgn (md rfl (Rn.bin tv rfl rfl rfl (md rfl (Rn.nil ?_))))
     exact ⟨_,h,(by exact Ql ⟨(Qcd (ltB hM hk3)),(kSl rfl),(sm rfl),tv⟩ ⟨⟨_,rfl,rfl,(Qs fun _=>rfl)⟩,tv⟩ rfl)⟩
   ·replace h:=ifF hb11 h
    refine Tr.exit ?_
    replace h:=si h; subst h
    exact Qh [] ⟨(Qcd (ltB hM hk3)),(kSl rfl),tv⟩ ⟨⟨_,rfl,rfl,(Qs fun _=>rfl)⟩,tv⟩ rfl
 ·obtain ⟨c30,rfl⟩ : ∃ x,x = z:=⟨_,rfl⟩
  refine Tr.cutB (fun (c66:List Int)=>⟨look [(3,.sl 1 (Γ.n0 + 14) 0 (Int.toNat m1.p_.zA.zM) (Int.toNat m1.p_.zA.zM))],Qo Γ.n0 (bxs [(14,.cells (Qz (fun (x:Int)=>[V.d (.int .i64 x)]) c66))]) M,Γ.n0 + 96⟩) h (fun z h=>?_) (fun z h=>?_)
  ·refine sr ((md rfl (nt ((Tr.block ?_)))))
   refine Tr.loop (mk:=fun ((d31,c32):Int×(List Int))=>⟨look [(0,.ptr k2 0),(3,.sl 1 (Γ.n0 + 14) 0 (Int.toNat m1.p_.zA.zM) (Int.toNat m1.p_.zA.zM)),(5,(i_ d31))],Qo Γ.n0 (bxs [(14,.cells (Qz (fun (x:Int)=>[V.d (.int .i64 x)]) c32))]) M,Γ.n0 + 96⟩) h (by exact Ql ⟨(Qcd (ltB hM hk3)),(kSl rfl),(sm rfl),tv⟩ ⟨⟨_,rfl,rfl,(Qs fun _=>rfl)⟩,tv⟩ rfl) (fun k33 z h=>?_)
   ·obtain ⟨d31,c32⟩:=z
    replace h:_ = some _:=h
    refine Tr.seq (sr ((md rfl (Rn.mov (v:=.sl 1 (Γ.n0 + 14) 0 (Int.toNat m1.p_.zA.zM) (Int.toNat m1.p_.zA.zM)) tv rfl (Rn.lenA tv rfl (Rn.bin tv rfl rfl rfl (Rn.nil (toN ?_))))))))
    refine Tr.cond rfl (fun hb34=>?_) (fun hb34=>?_)
    ·replace h:=ifT hb34 h
     refine Tr.skip (toN ?_)
     refine Tr.cutB (fun (c65:List Int)=>⟨look [(0,.ptr k2 0),(3,.sl 1 (Γ.n0 + 14) 0 (Int.toNat m1.p_.zA.zM) (Int.toNat m1.p_.zA.zM)),(5,(i_ d31))],Qo Γ.n0 (bxs [(14,.cells (Qz (fun (x:Int)=>[V.d (.int .i64 x)]) c65))]) M,Γ.n0 + 96⟩) h (fun z h=>?_) (fun z h=>?_)
     ·refine Tr.block (sr ((Rn.mov (v:=.ptr k2 0) tv rfl (Rn.nilchkP tv rfl (Rn.fldP (o':=0) tv rfl rfl (Rn.fldP (o':=0) tv rfl rfl (Rn.fldP (o':=3) tv rfl rfl (Rn.load (v:=.d (.lst 3 (List.map Qa m1.p_.zA.zL))) tv rfl (Qw hM hk3) rfl rfl (Rn.lenD tv rfl (md rfl (nt ((Tr.block ?_)))))))))))))
      refine Tr.loop (mk:=fun ((x35,c36):Int×(List Int))=>⟨look [(0,.ptr k2 0),(3,.sl 1 (Γ.n0 + 14) 0 (Int.toNat m1.p_.zA.zM) (Int.toNat m1.p_.zA.zM)),(5,(i_ d31)),(56,.d (.lst 3 (List.map Qa m1.p_.zA.zL))),(57,(i_ (m1.p_.zA.zL.length:Int))),(58,(i_ x35))],Qo Γ.n0 (bxs [(14,.cells (Qz (fun (x:Int)=>[V.d (.int .i64 x)]) c36))]) M,Γ.n0 + 96⟩) h (by exact Ql ⟨(Qcd (ltB hM hk3)),(kSl rfl),(sm rfl),(sm rfl),(sm rfl),(sm rfl),tv⟩ ⟨⟨_,rfl,rfl,(Qs fun _=>rfl)⟩,tv⟩ rfl) (fun k37 z h=>?_)
      ·obtain ⟨x35,c36⟩:=z
       replace h:_ = some _:=h
       refine sr ((Rn.bin tv rfl rfl rfl (nt ((Tr.seq ?_)))))
       refine Tr.cond rfl (fun hb38=>?_) (fun hb38=>?_)
       ·replace h:=ifT hb38 h
        refine Tr.skip (toN ?_)
        refine Tr.cutB (fun ((c61,y62,y63,y64):(List Int)×Int×Int×Int)=>⟨look [(0,.ptr k2 0),(3,.sl 1 (Γ.n0 + 14) 0 (Int.toNat m1.p_.zA.zM) (Int.toNat m1.p_.zA.zM)),(5,(i_ d31)),(56,.d (.lst 3 (List.map Qa m1.p_.zA.zL))),(57,(i_ (m1.p_.zA.zL.length:Int))),(58,(i_ x35))],Qo Γ.n0 (bxs [(7,.cells ([(i_ y62),(i_ y63),(i_ y64)])),(14,.cells (Qz (fun (x:Int)=>[V.d (.int .i64 x)]) c61))]) M,Γ.n0 + 96⟩) h (fun z h=>?_) (fun z h=>?_)
        ·refine Tr.block (Tr.seq (Tr.rgn ?_))
         obtain ⟨x39,h40,h⟩:=bnd h
         refine Rn.idxD (e:=Qa) tv rfl rfl h40 (Rn.loadCA (vs:=(Qba x39)) tv rfl rfl rfl (Rn.alloc tv rfl (Rn.store (v:=(Qca x39)) (cs':=(Qba x39)) tv rfl rfl rfl rfl rfl rfl (Rn.nil (toN ?_)))))
         refine Tr.cutB (fun (x55:Bool)=>⟨look [(0,.ptr k2 0),(3,.sl 1 (Γ.n0 + 14) 0 (Int.toNat m1.p_.zA.zM) (Int.toNat m1.p_.zA.zM)),(5,(i_ d31)),(7,.ptr (Γ.n0 + 7) 0),(56,.d (.lst 3 (List.map Qa m1.p_.zA.zL))),(57,(i_ (m1.p_.zA.zL.length:Int))),(58,(i_ x35)),(87,(b_ x55))],Qo Γ.n0 (bxs [(7,.cells ((Qba x39))),(14,.cells (Qz (fun (x:Int)=>[V.d (.int .i64 x)]) c36))]) M,Γ.n0 + 96⟩) h (fun z h=>?_) (fun z h=>?_)
         ·refine Tr.rgnD (by decide) ?_
          refine Rn.mov (v:=.ptr k2 0) tv rfl (Rn.nilchkP tv rfl (Rn.fldP (o':=8) tv rfl rfl (Rn.load (v:=.sl 1 k4 0 m1.rank_.length m1.rank_.length) tv rfl (Qw hM hk3) rfl rfl (Rn.fldP (o':=0) tv rfl rfl (Rn.load (v:=(i_ x39.From)) tv rfl (Qk rfl) rfl rfl ?_)))))
          obtain ⟨⟨⟩,h42,h⟩:=bnd h
          refine Rn.idxA tv rfl rfl h42 ?_
          obtain ⟨x43,h44,h⟩:=bnd h
          refine Rn.loadA (g:=(fun (x:Int)=>[V.d (.int .i64 x)])) (v:=(i_ x43)) (f:=0) (fun _=>rfl) tv rfl (Qw hM hk5) h44 rfl rfl (Rn.bin tv rfl rfl rfl (md rfl ?_))
          refine Qbo (x43 == 0) (fun hb45=>?_) (fun hb45=>?_)
          ·replace h:=bT hb45 h
           refine Rn.mov (v:=.sl 1 (Γ.n0 + 14) 0 (Int.toNat m1.p_.zA.zM) (Int.toNat m1.p_.zA.zM)) (gw rfl hb45) rfl (Rn.fldP (o':=0) (gw rfl hb45) rfl rfl (Rn.load (v:=(i_ x39.From)) (gw rfl hb45) rfl (Qk rfl) rfl rfl ?_))
           obtain ⟨⟨⟩,h47,h⟩:=bnd h
           refine Rn.idxA (gw rfl hb45) rfl rfl h47 ?_
           obtain ⟨x48,h49,h⟩:=bnd h
           refine Rn.loadA (g:=(fun (x:Int)=>[V.d (.int .i64 x)])) (v:=(i_ x48)) (f:=0) (fun _=>rfl) (gw rfl hb45) rfl (Qk rfl) h49 rfl rfl (Rn.bin (gw rfl hb45) rfl rfl rfl (Rn.pickT (v:=(b_ (decide (x48 < 0)))) tv rfl hb45 rfl (md rfl ?_)))
           refine Qbo (decide (x48 < 0)) (fun hb50=>?_) (fun hb50=>?_)
           ·replace h:=ifT hb50 h
            refine Rn.mov (v:=.sl 1 (Γ.n0 + 14) 0 (Int.toNat m1.p_.zA.zM) (Int.toNat m1.p_.zA.zM)) (gw rfl hb50) rfl (Rn.fldP (o':=2) (gw rfl hb50) rfl rfl (Rn.load (v:=(i_ x39.To)) (gw rfl hb50) rfl (Qk rfl) rfl rfl ?_))
            obtain ⟨⟨⟩,h52,h⟩:=bnd h
            refine Rn.idxA (gw rfl hb50) rfl rfl h52 ?_
            obtain ⟨x53,h54,h⟩:=bnd h
            refine Rn.loadA (g:=(fun (x:Int)=>[V.d (.int .i64 x)])) (v:=(i_ x53)) (f:=0) (fun _=>rfl) (gw rfl hb50) rfl (Qk rfl) h54 rfl rfl (Rn.movD (gw rfl hb50) rfl (Rn.bin (gw rfl hb50) rfl rfl rfl (Rn.pickT (v:=(b_ (x53 == d31))) tv rfl hb50 rfl ?_)))
            refine Rn.nil ⟨rfl,?_⟩
            replace h:=si h; subst h
            exact Qh [] ⟨(Qcd (ltB hM hk3)),(kSl rfl),(sm rfl),(kPtr rfl),(sm rfl),(sm rfl),(sm rfl),(sm rfl),tv⟩ ⟨⟨_,rfl,rfl,(.same rfl)⟩,⟨_,rfl,rfl,(Qs fun _=>rfl)⟩,tv⟩ rfl
           ·replace h:=ifF hb50 h
            refine Rn.sk (nw rfl hb50) (Rn.sk (nw rfl hb50) (Rn.sk (nw rfl hb50) (Rn.sk (nw rfl hb50) (Rn.sk (nw rfl hb50) (Rn.sk (nw rfl hb50) (Rn.sk (nw rfl hb50) (Rn.pickF (v:=(b_ false)) tv rfl hb50 rfl ?_)))))))
            refine Rn.nil ⟨rfl,?_⟩
            replace h:=si h; subst h
            exact Qh [] ⟨(Qcd (ltB hM hk3)),(kSl rfl),(sm rfl),(kPtr rfl),(sm rfl),(sm rfl),(sm rfl),(sm rfl),tv⟩ ⟨⟨_,rfl,rfl,(.same rfl)⟩,⟨_,rfl,rfl,(Qs fun _=>rfl)⟩,tv⟩ rfl
          ·replace h:=bF hb45 h
           refine Rn.sk (nw rfl hb45) (Rn.sk (nw rfl hb45) (Rn.sk (nw rfl hb45) (Rn.sk (nw rfl hb45) (Rn.sk (nw rfl hb45) (Rn.sk (nw rfl hb45) (Rn.pickF (v:=(b_ false)) tv rfl hb45 rfl (md rfl (Rn.sk (nw (b:=false) rfl rfl) (Rn.sk (nw (b:=false) rfl rfl) (Rn.sk (nw (b:=false) rfl rfl) (Rn.sk (nw (b:=false) rfl rfl) (Rn.sk (nw (b:=false) rfl rfl) (Rn.sk (nw (b:=false) rfl rfl) (Rn.sk (nw (b:=false) rfl rfl) (Rn.pickF (v:=(b_ false)) tv rfl rfl rfl ?_)))))))))))))))
           refine Rn.nil ⟨rfl,?_⟩
           replace h:=si h; subst h
           exact Qh [] ⟨(Qcd (ltB hM hk3)),(kSl rfl),(sm rfl),(kPtr rfl),(sm rfl),(sm rfl),(sm rfl),(sm rfl),tv⟩ ⟨⟨_,rfl,rfl,(.same rfl)⟩,⟨_,rfl,rfl,(Qs fun _=>rfl)⟩,tv⟩ rfl
         ·obtain ⟨x55,rfl⟩ : ∃ x,x = z:=⟨_,rfl⟩
          refine Tr.cond rfl (fun hb56=>?_) (fun hb56=>?_)
          ·replace h:=bT hb56 h
           refine Tr.rgn (Rn.mov (v:=.sl 1 (Γ.n0 + 14) 0 (Int.toNat m1.p_.zA.zM) (Int.toNat m1.p_.zA.zM)) tv rfl (Rn.fldP (o':=0) tv rfl rfl (Rn.load (v:=(i_ x39.From)) tv rfl (Qk rfl) rfl rfl (md rfl (Rn.bin tv rfl rfl rfl ?_)))))
           obtain ⟨⟨⟩,h58,h⟩:=bnd h
           refine Rn.idxA tv rfl rfl h58 ?_
           obtain ⟨x59,h60,h⟩:=bnd h
           refine Rn.storeA (g:=(fun (x:Int)=>[V.d (.int .i64 x)])) (v:=(i_ (IntKind.wrap .i64 (d31 + 1)))) (fun _=>rfl) tv rfl rfl rfl rfl rfl h60 (Rn.nil ?_)
           replace h:=si h; subst h
           exact Qh [] ⟨(Qcd (ltB hM hk3)),(kSl rfl),(sm rfl),(sm rfl),(sm rfl),(sm rfl),tv⟩ ⟨⟨_,rfl,rfl,(.same rfl)⟩,⟨_,rfl,rfl,(Qs fun _=>rfl)⟩,tv⟩ rfl
          ·replace h:=bF hb56 h
           refine Tr.skip ?_
           replace h:=si h; subst h
           exact Qh [] ⟨(Qcd (ltB hM hk3)),(kSl rfl),(sm rfl),(sm rfl),(sm rfl),(sm rfl),tv⟩ ⟨⟨_,rfl,rfl,(.same rfl)⟩,⟨_,rfl,rfl,(Qs fun _=>rfl)⟩,tv⟩ rfl
        ·obtain ⟨c61,y62,y63,y64⟩:=z
         refine Tr.rgn (Rn.bin tv rfl rfl rfl (md rfl (Rn.nil ?_)))
         exact ⟨_,h,(by exact Ql ⟨(Qcd (ltB hM hk3)),(kSl rfl),(sm rfl),(sm rfl),(sm rfl),(sm rfl),tv⟩ ⟨⟨_,rfl,rfl,(Qs fun _=>rfl)⟩,tv⟩ rfl)⟩
       ·replace h:=ifF hb38 h
        refine Tr.exit ?_
        replace h:=si h; subst h
        exact Qh [] ⟨(Qcd (ltB hM hk3)),(kSl rfl),(sm rfl),tv⟩ ⟨⟨_,rfl,rfl,(Qs fun _=>rfl)⟩,tv⟩ rfl
     ·obtain ⟨c65,rfl⟩ : ∃ x,x = z:=⟨_,rfl⟩
      refine Tr.rgn (md rfl (Rn.bin tv rfl rfl rfl (md rfl (Rn.nil ?_))))
      exact ⟨_,h,(by exact Ql ⟨(Qcd (ltB hM hk3)),(kSl rfl),(sm rfl),tv⟩ ⟨⟨_,rfl,rfl,(Qs fun _=>rfl)⟩,tv⟩ rfl)⟩
    ·replace h:=ifF hb34 h
     refine Tr.exit ?_
     replace h:=si h; subst h
     exact Qh [] ⟨(kSl rfl),tv⟩ ⟨⟨_,rfl,rfl,(Qs fun _=>rfl)⟩,tv⟩ rfl
  ·obtain ⟨c66,rfl⟩ : ∃ x,x = z:=⟨_,rfl⟩
   refine sr ((Rn.movTF (v:=.sl 1 (Γ.n0 + 14) 0 (Int.toNat m1.p_.zA.zM) (Int.toNat m1.p_.zA.zM)) tv rfl rfl (Rn.movTF (v:=.sl 1 (Γ.n0 + 14) 0 (Int.toNat m1.p_.zA.zM) (Int.toNat m1.p_.zA.zM)) tv rfl rfl (Rn.nil (toN ?_)))))
   obtain ⟨⟨⟩,hl67,h⟩:=bnd h
   refine Tr.weak (by show WeakSt Γ _ ⟨look [(2,(l_ c66)),(3,(l_ c66)),(95,(l_ c66))],Qo Γ.n0 (bxs []) M,Γ.n0 + 96⟩; exact Qfu 14 _ rfl (Q2t (fun _=>rfl) _) ⟨(fSlA (fun _=>rfl) (Qdr hl67)),(fSlA (fun _=>rfl) (Qdr hl67)),(fSlA (fun _=>rfl) (Qdr hl67)),tv⟩ tv rfl) ?_
   refine Tr.ret ?_
   replace h:=si h; subst h
   exact ⟨.inr rfl,(l_ c66),rfl,fun _ _ _ _ h=>h,tv,fun k hk=>Qi hk⟩
theorem Qmy {P:Program} {c:Nat} {Qt:(List Int)→Int→Option Bool}
    (H_overseerlaw46_has:Qd3 P 23 Qt) (hcf:Qx P c = some Qez) (fuel:Nat):Qey P c (Qbf Qt fuel):=by
 intro m1 state6 k2 k4 r h
 intro M nb hk3 hk5
 refine Qk4 hcf rfl M nb fun Γ hP hnt hn0 hM=>?_
 subst hP hn0
 refine Tr.init [(0,.ptr k2 0),(1,(i_ state6))] rfl ?_
 unfold Qbf at h
 unfold Qez
 refine sr ((md rfl (nt ((Tr.seq (sr ((Rn.mov (v:=.ptr k2 0) tv rfl (Rn.nilchkP tv rfl (Rn.fldP (o':=0) tv rfl rfl (Rn.fldP (o':=0) tv rfl rfl (Rn.fldP (o':=3) tv rfl rfl (Rn.load (v:=.d (.lst 3 (List.map Qa m1.p_.zA.zL))) tv rfl (Qw hM hk3) rfl rfl (Rn.lenD tv rfl (md rfl (nt ((Tr.block ?_))))))))))))))))))
 refine Tr.loop (mk:=fun (x7:Int)=>⟨look [(0,.ptr k2 0),(1,(i_ state6)),(12,.d (.lst 3 (List.map Qa m1.p_.zA.zL))),(13,(i_ (m1.p_.zA.zL.length:Int))),(14,(i_ x7))],Qo Γ.n0 (bxs []) M,Γ.n0 + 44⟩) h (by exact Ql ⟨(Qcd (ltB hM hk3)),(sm rfl),(sm rfl),(sm rfl),(sm rfl),tv⟩ tv rfl) (fun k8 z h=>?_)
 ·obtain ⟨x7,rfl⟩ : ∃ x,x = z:=⟨_,rfl⟩
  replace h:_ = some _:=h
  refine sr ((Rn.bin tv rfl rfl rfl (nt ((Tr.seq ?_)))))
  refine Tr.cond rfl (fun hb9=>?_) (fun hb9=>?_)
  ·replace h:=ifT hb9 h
   refine Tr.skip (toN (Tr.seq (Tr.block (Tr.seq (Tr.rgn ?_)))))
   obtain ⟨x10,h11,h⟩:=bnd h
   refine Rn.idxD (e:=Qa) tv rfl rfl h11 (Rn.loadCA (vs:=(Qba x10)) tv rfl rfl rfl (Rn.alloc tv rfl (Rn.store (v:=(Qca x10)) (cs':=(Qba x10)) tv rfl rfl rfl rfl rfl rfl (Rn.nil (toN ?_)))))
   refine Tr.cutB (fun (x20:Bool)=>⟨look [(0,.ptr k2 0),(1,(i_ state6)),(12,.d (.lst 3 (List.map Qa m1.p_.zA.zL))),(13,(i_ (m1.p_.zA.zL.length:Int))),(14,(i_ x7)),(42,(b_ x20))],Qo Γ.n0 (bxs [(6,.cells ((Qba x10)))]) M,Γ.n0 + 44⟩) h (fun z h=>?_) (fun z h=>?_)
   ·refine Tr.rgnD (by decide) ?_
    refine Rn.fldP (o':=0) tv rfl rfl (Rn.load (v:=(i_ x10.From)) tv rfl (Qk rfl) rfl rfl (md rfl (Rn.bin tv rfl rfl rfl (md rfl ?_))))
    refine Qbo (x10.From == state6) (fun hb12=>?_) (fun hb12=>?_)
    ·replace h:=bT hb12 h
     refine Rn.mov (v:=.ptr k2 0) (gw rfl hb12) rfl (Rn.nilchkP (gw rfl hb12) rfl (Rn.fldP (o':=0) (gw rfl hb12) rfl rfl (Rn.fldP (o':=6) (gw rfl hb12) rfl rfl (Rn.load (v:=(l_ m1.p_.zD)) (gw rfl hb12) rfl (Qw hM hk3) rfl rfl (Rn.fldP (o':=1) (gw rfl hb12) rfl rfl (Rn.load (v:=(i_ x10.Event)) (gw rfl hb12) rfl (Qk rfl) rfl rfl ?_))))))
     obtain ⟨x14,h13,h⟩:=bnd h
     refine Rn.call (args:=[(l_ m1.p_.zD),(i_ x10.Event)]) (gw rfl hb12) rfl (H_overseerlaw46_has _ _ _ h13) pc0 (Rn.pickT (v:=(b_ x14)) tv rfl hb12 rfl (md rfl ?_))
     refine Qbo x14 (fun hb15=>?_) (fun hb15=>?_)
     ·replace h:=bT hb15 h
      refine Rn.mov (v:=.ptr k2 0) (gw rfl hb15) rfl (Rn.nilchkP (gw rfl hb15) rfl (Rn.fldP (o':=8) (gw rfl hb15) rfl rfl (Rn.load (v:=.sl 1 k4 0 m1.rank_.length m1.rank_.length) (gw rfl hb15) rfl (Qw hM hk3) rfl rfl (Rn.fldP (o':=2) (gw rfl hb15) rfl rfl (Rn.load (v:=(i_ x10.To)) (gw rfl hb15) rfl (Qk rfl) rfl rfl ?_)))))
      obtain ⟨⟨⟩,h17,h⟩:=bnd h
      refine Rn.idxA (gw rfl hb15) rfl rfl h17 ?_
      obtain ⟨x18,h19,h⟩:=bnd h
      refine Rn.loadA (g:=(fun (x:Int)=>[V.d (.int .i64 x)])) (v:=(i_ x18)) (f:=0) (fun _=>rfl) (gw rfl hb15) rfl (Qw hM hk5) h19 rfl rfl (Rn.bin (gw rfl hb15) rfl rfl rfl (Rn.pickT (v:=(b_ (x18 == 0))) tv rfl hb15 rfl ?_))
      refine Rn.nil ⟨rfl,?_⟩
      replace h:=si h; subst h
      exact Qh [] ⟨(Qcd (ltB hM hk3)),(sm rfl),(sm rfl),(sm rfl),(sm rfl),(sm rfl),tv⟩ ⟨⟨_,rfl,rfl,(.same rfl)⟩,tv⟩ rfl
     ·replace h:=bF hb15 h
      refine Rn.sk (nw rfl hb15) (Rn.sk (nw rfl hb15) (Rn.sk (nw rfl hb15) (Rn.sk (nw rfl hb15) (Rn.sk (nw rfl hb15) (Rn.sk (nw rfl hb15) (Rn.sk (nw rfl hb15) (Rn.sk (nw rfl hb15) (Rn.sk (nw rfl hb15) (Rn.pickF (v:=(b_ false)) tv rfl hb15 rfl ?_)))))))))
      refine Rn.nil ⟨rfl,?_⟩
      replace h:=si h; subst h
      exact Qh [] ⟨(Qcd (ltB hM hk3)),(sm rfl),(sm rfl),(sm rfl),(sm rfl),(sm rfl),tv⟩ ⟨⟨_,rfl,rfl,(.same rfl)⟩,tv⟩ rfl
    ·replace h:=bF hb12 h
     refine Rn.sk (nw rfl hb12) (Rn.sk (nw rfl hb12) (Rn.sk (nw rfl hb12) (Rn.sk (nw rfl hb12) (Rn.sk (nw rfl hb12) (Rn.sk (nw rfl hb12) (Rn.sk (nw rfl hb12) (Rn.sk (nw rfl hb12) (Rn.pickF (v:=(b_ false)) tv rfl hb12 rfl (md rfl (Rn.sk (nw (b:=false) rfl rfl) (Rn.sk (nw (b:=false) rfl rfl) (Rn.sk (nw (b:=false) rfl rfl) (Rn.sk (nw (b:=false) rfl rfl) (Rn.sk (nw (b:=false) rfl rfl) (Rn.sk (nw (b:=false) rfl rfl) (Rn.sk (nw (b:=false) rfl rfl) (Rn.sk (nw (b:=false) rfl rfl) (Rn.sk (nw (b:=false) rfl rfl) (Rn.pickF (v:=(b_ false)) tv rfl rfl rfl ?_)))))))))))))))))))
     refine Rn.nil ⟨rfl,?_⟩
     replace h:=si h; subst h
     exact Qh [] ⟨(Qcd (ltB hM hk3)),(sm rfl),(sm rfl),(sm rfl),(sm rfl),(sm rfl),tv⟩ ⟨⟨_,rfl,rfl,(.same rfl)⟩,tv⟩ rfl
   ·obtain ⟨x20,rfl⟩ : ∃ x,x = z:=⟨_,rfl⟩
    refine Tr.cond rfl (fun hb21=>?_) (fun hb21=>?_)
    ·replace h:=bT hb21 h
     refine sr ((md rfl (nt ((Tr.ret ?_)))))
     replace h:=si h; subst h
     exact ⟨.inr rfl,(b_ true),rfl,fun _ _ _ _ h=>h,tv,fun k hk=>Qi hk⟩
    ·replace h:=bF hb21 h
     refine Tr.skip (toN (Tr.rgn (Rn.bin tv rfl rfl rfl (md rfl (Rn.nil ?_)))))
     exact ⟨_,h,(by exact Ql ⟨(Qcd (ltB hM hk3)),(sm rfl),(sm rfl),(sm rfl),(sm rfl),tv⟩ tv rfl)⟩
  ·replace h:=ifF hb9 h
   refine Tr.exit (toN (sr ((md rfl (nt ((Tr.ret ?_)))))))
   replace h:=si h; subst h
   exact ⟨.inr rfl,(b_ false),rfl,fun _ _ _ _ h=>h,tv,fun k hk=>Qi hk⟩
theorem Qp9 {P:Program} {c:Nat} {Qt:(List Int)→Int→Option Bool} {Qbf:Qbi→Int→Option Bool}
    (H_overseerlaw46_has:Qd3 P 23 Qt)
    (H_overseerlaw46_model_forced:Qey P 54 Qbf) (hcf:Qx P c = some Qfp) (fuel:Nat):Qfo P c (Qbn Qt Qbf fuel):=by
 intro m1 state6 k2 k4 r h
 intro M nb hk3 hk5
 refine Qk4 hcf rfl M nb fun Γ hP hnt hn0 hM=>?_
 subst hP hn0
 refine Tr.init [(0,.ptr k2 0),(1,(i_ state6))] rfl ?_
 unfold Qbn at h
 unfold Qfp
 refine sr ((md rfl (md rfl (nt ((Tr.seq (sr ((Rn.mov (v:=.ptr k2 0) tv rfl (Rn.nilchkP tv rfl (Rn.fldP (o':=0) tv rfl rfl (Rn.fldP (o':=0) tv rfl rfl (Rn.fldP (o':=3) tv rfl rfl (Rn.load (v:=.d (.lst 3 (List.map Qa m1.p_.zA.zL))) tv rfl (Qw hM hk3) rfl rfl (Rn.lenD tv rfl (md rfl (nt ((Tr.block ?_)))))))))))))))))))
 refine Tr.loop (mk:=fun (x7:Int)=>⟨look [(0,.ptr k2 0),(1,(i_ state6)),(15,.d (.lst 3 (List.map Qa m1.p_.zA.zL))),(16,(i_ (m1.p_.zA.zL.length:Int))),(17,(i_ x7))],Qo Γ.n0 (bxs []) M,Γ.n0 + 94⟩) h (by exact Ql ⟨(Qcd (ltB hM hk3)),(sm rfl),(sm rfl),(sm rfl),(sm rfl),tv⟩ tv rfl) (fun k8 z h=>?_)
 ·obtain ⟨x7,rfl⟩ : ∃ x,x = z:=⟨_,rfl⟩
  replace h:_ = some _:=h
  refine sr ((Rn.bin tv rfl rfl rfl (nt ((Tr.seq ?_)))))
  refine Tr.cond rfl (fun hb9=>?_) (fun hb9=>?_)
  ·replace h:=ifT hb9 h
   refine Tr.skip (toN (Tr.seq (Tr.block (Tr.seq (Tr.rgn ?_)))))
   obtain ⟨x10,h11,h⟩:=bnd h
   refine Rn.idxD (e:=Qa) tv rfl rfl h11 (Rn.loadCA (vs:=(Qba x10)) tv rfl rfl rfl (Rn.alloc tv rfl (Rn.store (v:=(Qca x10)) (cs':=(Qba x10)) tv rfl rfl rfl rfl rfl rfl (Rn.nil (toN ?_)))))
   refine Tr.cutB (fun (x20:Bool)=>⟨look [(0,.ptr k2 0),(1,(i_ state6)),(7,.ptr (Γ.n0 + 7) 0),(15,.d (.lst 3 (List.map Qa m1.p_.zA.zL))),(16,(i_ (m1.p_.zA.zL.length:Int))),(17,(i_ x7)),(45,(b_ x20))],Qo Γ.n0 (bxs [(7,.cells ((Qba x10)))]) M,Γ.n0 + 94⟩) h (fun z h=>?_) (fun z h=>?_)
   ·refine Tr.rgnD (by decide) ?_
    refine Rn.fldP (o':=0) tv rfl rfl (Rn.load (v:=(i_ x10.From)) tv rfl (Qk rfl) rfl rfl (md rfl (Rn.bin tv rfl rfl rfl (md rfl ?_))))
    refine Qbo (x10.From == state6) (fun hb12=>?_) (fun hb12=>?_)
    ·replace h:=bT hb12 h
     refine Rn.mov (v:=.ptr k2 0) (gw rfl hb12) rfl (Rn.nilchkP (gw rfl hb12) rfl (Rn.fldP (o':=0) (gw rfl hb12) rfl rfl (Rn.fldP (o':=5) (gw rfl hb12) rfl rfl (Rn.load (v:=(l_ m1.p_.zB)) (gw rfl hb12) rfl (Qw hM hk3) rfl rfl (Rn.fldP (o':=1) (gw rfl hb12) rfl rfl (Rn.load (v:=(i_ x10.Event)) (gw rfl hb12) rfl (Qk rfl) rfl rfl ?_))))))
     obtain ⟨x14,h13,h⟩:=bnd h
     refine Rn.call (args:=[(l_ m1.p_.zB),(i_ x10.Event)]) (gw rfl hb12) rfl (H_overseerlaw46_has _ _ _ h13) pc0 (Rn.pickT (v:=(b_ x14)) tv rfl hb12 rfl (md rfl ?_))
     refine Qbo x14 (fun hb15=>?_) (fun hb15=>?_)
     ·replace h:=bT hb15 h
      refine Rn.mov (v:=.ptr k2 0) (gw rfl hb15) rfl (Rn.nilchkP (gw rfl hb15) rfl (Rn.fldP (o':=8) (gw rfl hb15) rfl rfl (Rn.load (v:=.sl 1 k4 0 m1.rank_.length m1.rank_.length) (gw rfl hb15) rfl (Qw hM hk3) rfl rfl (Rn.fldP (o':=2) (gw rfl hb15) rfl rfl (Rn.load (v:=(i_ x10.To)) (gw rfl hb15) rfl (Qk rfl) rfl rfl ?_)))))
      obtain ⟨⟨⟩,h17,h⟩:=bnd h
      refine Rn.idxA (gw rfl hb15) rfl rfl h17 ?_
      obtain ⟨x18,h19,h⟩:=bnd h
      refine Rn.loadA (g:=(fun (x:Int)=>[V.d (.int .i64 x)])) (v:=(i_ x18)) (f:=0) (fun _=>rfl) (gw rfl hb15) rfl (Qw hM hk5) h19 rfl rfl (Rn.bin (gw rfl hb15) rfl rfl rfl (Rn.pickT (v:=(b_ (decide (x18 > 0)))) tv rfl hb15 rfl ?_))
      refine Rn.nil ⟨rfl,?_⟩
      replace h:=si h; subst h
      exact Qh [] ⟨(Qcd (ltB hM hk3)),(sm rfl),(kPtr rfl),(sm rfl),(sm rfl),(sm rfl),(sm rfl),tv⟩ ⟨⟨_,rfl,rfl,(.same rfl)⟩,tv⟩ rfl
     ·replace h:=bF hb15 h
      refine Rn.sk (nw rfl hb15) (Rn.sk (nw rfl hb15) (Rn.sk (nw rfl hb15) (Rn.sk (nw rfl hb15) (Rn.sk (nw rfl hb15) (Rn.sk (nw rfl hb15) (Rn.sk (nw rfl hb15) (Rn.sk (nw rfl hb15) (Rn.sk (nw rfl hb15) (Rn.pickF (v:=(b_ false)) tv rfl hb15 rfl ?_)))))))))
      refine Rn.nil ⟨rfl,?_⟩
      replace h:=si h; subst h
      exact Qh [] ⟨(Qcd (ltB hM hk3)),(sm rfl),(kPtr rfl),(sm rfl),(sm rfl),(sm rfl),(sm rfl),tv⟩ ⟨⟨_,rfl,rfl,(.same rfl)⟩,tv⟩ rfl
    ·replace h:=bF hb12 h
     refine Rn.sk (nw rfl hb12) (Rn.sk (nw rfl hb12) (Rn.sk (nw rfl hb12) (Rn.sk (nw rfl hb12) (Rn.sk (nw rfl hb12) (Rn.sk (nw rfl hb12) (Rn.sk (nw rfl hb12) (Rn.sk (nw rfl hb12) (Rn.pickF (v:=(b_ false)) tv rfl hb12 rfl (md rfl (Rn.sk (nw (b:=false) rfl rfl) (Rn.sk (nw (b:=false) rfl rfl) (Rn.sk (nw (b:=false) rfl rfl) (Rn.sk (nw (b:=false) rfl rfl) (Rn.sk (nw (b:=false) rfl rfl) (Rn.sk (nw (b:=false) rfl rfl) (Rn.sk (nw (b:=false) rfl rfl) (Rn.sk (nw (b:=false) rfl rfl) (Rn.sk (nw (b:=false) rfl rfl) (Rn.pickF (v:=(b_ false)) tv rfl rfl rfl ?_)))))))))))))))))))
     refine Rn.nil ⟨rfl,?_⟩
     replace h:=si h; subst h
     exact Qh [] ⟨(Qcd (ltB hM hk3)),(sm rfl),(kPtr rfl),(sm rfl),(sm rfl),(sm rfl),(sm rfl),tv⟩ ⟨⟨_,rfl,rfl,(.same rfl)⟩,tv⟩ rfl
   ·obtain ⟨x20,rfl⟩ : ∃ x,x = z:=⟨_,rfl⟩
    refine Tr.cond rfl (fun hb21=>?_) (fun hb21=>?_)
    ·replace h:=bT hb21 h
     refine Tr.seq ?_
     refine Tr.rgnD (by decide) ?_
     refine Rn.fldP (o':=1) tv rfl rfl (Rn.load (v:=(i_ x10.Event)) tv rfl (Qk rfl) rfl rfl (md rfl (md rfl ?_)))
     refine Rn.nil ⟨rfl,?_⟩
     refine toN (Tr.ret ?_)
     replace h:=si h; subst h
     exact ⟨.inr rfl,.tup [(i_ 2),(i_ x10.Event)],res2 rfl rfl,(WkV.tup (.cons (.same rfl) (.cons (.same rfl) .nil))).rd,⟨tv,tv,tv⟩,fun k hk=>Qi hk⟩
    ·replace h:=bF hb21 h
     refine Tr.skip (toN (Tr.rgn (Rn.bin tv rfl rfl rfl (md rfl (Rn.nil ?_)))))
     exact ⟨_,h,(by exact Ql ⟨(Qcd (ltB hM hk3)),(sm rfl),(sm rfl),(sm rfl),(sm rfl),tv⟩ tv rfl)⟩
  ·replace h:=ifF hb9 h
   refine Tr.exit (toN (Tr.seq (sr ((Rn.mov (v:=.ptr k2 0) tv rfl (Rn.nilchkP tv rfl (Rn.fldP (o':=0) tv rfl rfl (Rn.fldP (o':=0) tv rfl rfl (Rn.fldP (o':=3) tv rfl rfl (Rn.load (v:=.d (.lst 3 (List.map Qa m1.p_.zA.zL))) tv rfl (Qw hM hk3) rfl rfl (Rn.lenD tv rfl (md rfl (nt ((Tr.block ?_)))))))))))))))
   refine Tr.loop (mk:=fun (x22:Int)=>⟨look [(0,.ptr k2 0),(1,(i_ state6)),(54,.d (.lst 3 (List.map Qa m1.p_.zA.zL))),(55,(i_ (m1.p_.zA.zL.length:Int))),(56,(i_ x22))],Qo Γ.n0 (bxs []) M,Γ.n0 + 94⟩) h (by exact Ql ⟨(Qcd (ltB hM hk3)),(sm rfl),(sm rfl),(sm rfl),(sm rfl),tv⟩ tv rfl) (fun k23 z h=>?_)
   ·obtain ⟨x22,rfl⟩ : ∃ x,x = z:=⟨_,rfl⟩
    replace h:_ = some _:=h
    refine sr ((Rn.bin tv rfl rfl rfl (nt ((Tr.seq ?_)))))
    refine Tr.cond rfl (fun hb24=>?_) (fun hb24=>?_)
    ·replace h:=ifT hb24 h
     refine Tr.skip (toN (Tr.seq (Tr.block (Tr.seq (Tr.rgn ?_)))))
     obtain ⟨x25,h26,h⟩:=bnd h
     refine Rn.idxD (e:=Qa) tv rfl rfl h26 (Rn.loadCA (vs:=(Qba x25)) tv rfl rfl rfl (Rn.alloc tv rfl (Rn.store (v:=(Qca x25)) (cs':=(Qba x25)) tv rfl rfl rfl rfl rfl rfl (Rn.nil (toN ?_)))))
     refine Tr.cutB (fun (x36:Bool)=>⟨look [(0,.ptr k2 0),(1,(i_ state6)),(9,.ptr (Γ.n0 + 9) 0),(54,.d (.lst 3 (List.map Qa m1.p_.zA.zL))),(55,(i_ (m1.p_.zA.zL.length:Int))),(56,(i_ x22)),(90,(b_ x36))],Qo Γ.n0 (bxs [(9,.cells ((Qba x25)))]) M,Γ.n0 + 94⟩) h (fun z h=>?_) (fun z h=>?_)
     ·refine Tr.rgnD (by decide) ?_
      refine Rn.fldP (o':=0) tv rfl rfl (Rn.load (v:=(i_ x25.From)) tv rfl (Qk rfl) rfl rfl (md rfl (Rn.bin tv rfl rfl rfl (md rfl ?_))))
      refine Qbo (x25.From == state6) (fun hb27=>?_) (fun hb27=>?_)
      ·replace h:=bT hb27 h
       refine Rn.fldP (o':=1) (gw rfl hb27) rfl rfl (Rn.load (v:=(i_ x25.Event)) (gw rfl hb27) rfl (Qk rfl) rfl rfl (Rn.mov (v:=.ptr k2 0) (gw rfl hb27) rfl (Rn.nilchkP (gw rfl hb27) rfl (Rn.fldP (o':=0) (gw rfl hb27) rfl rfl (Rn.fldP (o':=7) (gw rfl hb27) rfl rfl (Rn.load (v:=(i_ m1.p_.Tick)) (gw rfl hb27) rfl (Qw hM hk3) rfl rfl (Rn.bin (gw rfl hb27) rfl rfl rfl (Rn.pickT (v:=(b_ (x25.Event == m1.p_.Tick))) tv rfl hb27 rfl (md rfl ?_)))))))))
       refine Qbo (x25.Event == m1.p_.Tick) (fun hb28=>?_) (fun hb28=>?_)
       ·replace h:=bT hb28 h
        refine Rn.mov (v:=.ptr k2 0) (gw rfl hb28) rfl (Rn.nilchkP (gw rfl hb28) rfl (Rn.fldP (o':=8) (gw rfl hb28) rfl rfl (Rn.load (v:=.sl 1 k4 0 m1.rank_.length m1.rank_.length) (gw rfl hb28) rfl (Qw hM hk3) rfl rfl (Rn.fldP (o':=2) (gw rfl hb28) rfl rfl (Rn.load (v:=(i_ x25.To)) (gw rfl hb28) rfl (Qk rfl) rfl rfl ?_)))))
        obtain ⟨⟨⟩,h30,h⟩:=bnd h
        refine Rn.idxA (gw rfl hb28) rfl rfl h30 ?_
        obtain ⟨x31,h32,h⟩:=bnd h
        refine Rn.loadA (g:=(fun (x:Int)=>[V.d (.int .i64 x)])) (v:=(i_ x31)) (f:=0) (fun _=>rfl) (gw rfl hb28) rfl (Qw hM hk5) h32 rfl rfl (Rn.bin (gw rfl hb28) rfl rfl rfl (Rn.pickT (v:=(b_ (decide (x31 > 0)))) tv rfl hb28 rfl (md rfl ?_)))
        refine Qbo (decide (x31 > 0)) (fun hb33=>?_) (fun hb33=>?_)
        ·replace h:=ifT hb33 h
         refine Rn.mov (v:=.ptr k2 0) (gw rfl hb33) rfl (Rn.movD (gw rfl hb33) rfl ?_)
         obtain ⟨x35,h34,h⟩:=bnd h
         refine Rn.callM (args:=[.ptr k2 0,(i_ state6)]) (gw rfl hb33) rfl (fun M2 nb2 hn hx=>H_overseerlaw46_model_forced _ _ k2 k4 _ h34 M2 nb2 (hx _ _ (Qw hM hk3)) (hx _ _ (Qw hM hk5))) rfl pc0 ?_
         refine Rn.un (gw rfl hb33) rfl rfl (Rn.pickT (v:=(b_ (!x35))) tv rfl hb33 rfl ?_)
         refine Rn.nil ⟨rfl,?_⟩
         replace h:=si h; subst h
         exact Qh [] ⟨(Qcd (ltB hM hk3)),(sm rfl),(kPtr rfl),(sm rfl),(sm rfl),(sm rfl),(sm rfl),tv⟩ ⟨⟨_,rfl,rfl,(.same rfl)⟩,tv⟩ rfl
        ·replace h:=ifF hb33 h
         refine Rn.sk (nw rfl hb33) (Rn.sk (nw rfl hb33) (Rn.sk (nw rfl hb33) (Rn.sk (nw rfl hb33) (Rn.pickF (v:=(b_ false)) tv rfl hb33 rfl ?_))))
         refine Rn.nil ⟨rfl,?_⟩
         replace h:=si h; subst h
         exact Qh [] ⟨(Qcd (ltB hM hk3)),(sm rfl),(kPtr rfl),(sm rfl),(sm rfl),(sm rfl),(sm rfl),tv⟩ ⟨⟨_,rfl,rfl,(.same rfl)⟩,tv⟩ rfl
       ·replace h:=bF hb28 h
        refine Rn.sk (nw rfl hb28) (Rn.sk (nw rfl hb28) (Rn.sk (nw rfl hb28) (Rn.sk (nw rfl hb28) (Rn.sk (nw rfl hb28) (Rn.sk (nw rfl hb28) (Rn.sk (nw rfl hb28) (Rn.sk (nw rfl hb28) (Rn.sk (nw rfl hb28) (Rn.pickF (v:=(b_ false)) tv rfl hb28 rfl (md rfl (Rn.sk (nw (b:=false) rfl rfl) (Rn.sk (nw (b:=false) rfl rfl) (Rn.sk (nw (b:=false) rfl rfl) (Rn.sk (nw (b:=false) rfl rfl) (Rn.pickF (v:=(b_ false)) tv rfl rfl rfl ?_)))))))))))))))
        refine Rn.nil ⟨rfl,?_⟩
        replace h:=si h; subst h
        exact Qh [] ⟨(Qcd (ltB hM hk3)),(sm rfl),(kPtr rfl),(sm rfl),(sm rfl),(sm rfl),(sm rfl),tv⟩ ⟨⟨_,rfl,rfl,(.same rfl)⟩,tv⟩ rfl
      ·replace h:=bF hb27 h
       refine Rn.sk (nw rfl hb27) (Rn.sk (nw rfl hb27) (Rn.sk (nw rfl hb27) (Rn.sk (nw rfl hb27) (Rn.sk (nw rfl hb27) (Rn.sk (nw rfl hb27) (Rn.sk (nw rfl hb27) (Rn.sk (nw rfl hb27) (Rn.pickF (v:=(b_ false)) tv rfl hb27 rfl (md rfl (Rn.sk (nw (b:=false) rfl rfl) (Rn.sk (nw (b:=false) rfl rfl) (Rn.sk (nw (b:=false) rfl rfl) (Rn.sk (nw (b:=false) rfl rfl) (Rn.sk (nw (b:=false) rfl rfl) (Rn.sk (nw (b:=false) rfl rfl) (Rn.sk (nw (b:=false) rfl rfl) (Rn.sk (nw (b:=false) rfl rfl) (Rn.sk (nw (b:=false) rfl rfl) (Rn.pickF (v:=(b_ false)) tv rfl rfl rfl (md rfl (Rn.sk (nw (b:=false) rfl rfl) (Rn.sk (nw (b:=false) rfl rfl) (Rn.sk (nw (b:=false) rfl rfl) (Rn.sk (nw (b:=false) rfl rfl) (Rn.pickF (v:=(b_ false)) tv rfl rfl rfl ?_)))))))))))))))))))))))))
       refine Rn.nil ⟨rfl,?_⟩
       replace h:=si h; subst h
       exact Qh [] ⟨(Qcd (ltB hM hk3)),(sm rfl),(kPtr rfl),(sm rfl),(sm rfl),(sm rfl),(sm rfl),tv⟩ ⟨⟨_,rfl,rfl,(.same rfl)⟩,tv⟩ rfl
     ·obtain ⟨x36,rfl⟩ : ∃ x,x = z:=⟨_,rfl⟩
      refine Tr.cond rfl (fun hb37=>?_) (fun hb37=>?_)
      ·replace h:=bT hb37 h
       refine Tr.seq ?_
       refine Tr.rgnD (by decide) ?_
       refine Rn.fldP (o':=1) tv rfl rfl (Rn.load (v:=(i_ x25.Event)) tv rfl (Qk rfl) rfl rfl (md rfl (md rfl ?_)))
       refine Rn.nil ⟨rfl,?_⟩
       refine toN (Tr.ret ?_)
       replace h:=si h; subst h
       exact ⟨.inr rfl,.tup [(i_ 4),(i_ x25.Event)],res2 rfl rfl,(WkV.tup (.cons (.same rfl) (.cons (.same rfl) .nil))).rd,⟨tv,tv,tv⟩,fun k hk=>Qi hk⟩
      ·replace h:=bF hb37 h
       refine Tr.skip (toN (Tr.rgn (Rn.bin tv rfl rfl rfl (md rfl (Rn.nil ?_)))))
       exact ⟨_,h,(by exact Ql ⟨(Qcd (ltB hM hk3)),(sm rfl),(sm rfl),(sm rfl),(sm rfl),tv⟩ tv rfl)⟩
    ·replace h:=ifF hb24 h
     refine Tr.exit (toN (sr ((md rfl (md rfl (nt ((Tr.ret ?_))))))))
     replace h:=si h; subst h
     exact ⟨.inr rfl,.tup [(i_ 0),(i_ 0)],res2 rfl rfl,(WkV.tup (.cons (.same rfl) (.cons (.same rfl) .nil))).rd,⟨tv,tv,tv⟩,fun k hk=>Qi hk⟩
theorem Q4u {P:Program} {c:Nat} (hcf:Qx P c = some Qp4) (fuel:Nat):Qp3 P c (Qdh fuel):=by
 intro a1 b2 keep3 g4 cp5 r h
 intro M nb hc6 ho8 hf7
 refine Qk4 hcf rfl M nb fun Γ hP hnt hn0 hM=>?_
 subst hP hn0
 refine Tr.init [(0,(l_ a1)),(1,(l_ b2)),(2,.clo g4 cp5)] rfl ?_
 unfold Qdh at h
 unfold Qp4
 refine sr ((Rn.movTC (v:=.nils 1) tv (nt ((sr ((Rn.movTC (v:=.nils 1) tv (Rn.nil (toN ?_)))))))))
 refine Tr.cutB (fun (out51:List Int)=>⟨look [(7,(o_ out51))],Qo Γ.n0 (bxs []) M,Γ.n0 + 74⟩) h (fun z h=>?_) (fun z h=>?_)
 ·refine Tr.block ?_
  refine Tr.loop (mk:=fun ((a11,b12,out13):(List Int)×(List Int)×(List Int))=>⟨look [(0,(l_ a11)),(1,(l_ b12)),(2,.clo g4 cp5),(7,(o_ out13))],Qo Γ.n0 (bxs []) M,Γ.n0 + 74⟩) h (by exact Ql ⟨(sm rfl),(sm rfl),(kFun hM ho8),(WkV.nilsO _),tv⟩ tv rfl) (fun k14 z h=>?_)
  ·obtain ⟨a11,b12,out13⟩:=z
   replace h:_ = some _:=h
   refine Tr.seq ?_
   refine Tr.cutB (fun (x16:Bool)=>⟨look [(0,(l_ a11)),(1,(l_ b12)),(2,.clo g4 cp5),(7,(o_ out13)),(18,(b_ x16))],Qo Γ.n0 (bxs []) M,Γ.n0 + 74⟩) h (fun z h=>?_) (fun z h=>?_)
   ·refine Tr.rgn (md rfl (Rn.lenD tv rfl (Rn.bin tv rfl rfl rfl (md rfl ?_))))
    refine Qbo (decide ((a11.length:Int) > 0)) (fun hb15=>?_) (fun hb15=>?_)
    ·replace h:=ifT hb15 h
     refine Rn.sk (nw rfl hb15) (Rn.sk (nw rfl hb15) (Rn.sk (nw rfl hb15) (Rn.pickT (v:=(b_ true)) tv rfl hb15 rfl (Rn.nil ?_))))
     replace h:=si h; subst h
     exact Qh [] ⟨(sm rfl),(sm rfl),(kFun hM ho8),(sm rfl),(sm rfl),tv⟩ tv rfl
    ·replace h:=ifF hb15 h
     refine Rn.movD (gw rfl hb15) rfl (Rn.lenD (gw rfl hb15) rfl (Rn.bin (gw rfl hb15) rfl rfl rfl (Rn.pickF (v:=(b_ (decide ((b12.length:Int) > 0)))) tv rfl hb15 rfl (Rn.nil ?_))))
     replace h:=si h; subst h
     exact Qh [] ⟨(sm rfl),(sm rfl),(kFun hM ho8),(sm rfl),(sm rfl),tv⟩ tv rfl
   ·obtain ⟨x16,rfl⟩ : ∃ x,x = z:=⟨_,rfl⟩
    refine Tr.cond rfl (fun hb17=>?_) (fun hb17=>?_)
    ·replace h:=bT hb17 h
     refine Tr.skip (toN (Tr.block ?_))
     refine Tr.cutB (fun (inA24:Bool)=>⟨look [(0,(l_ a11)),(1,(l_ b12)),(2,.clo g4 cp5),(7,(o_ out13)),(8,(b_ inA24))],Qo Γ.n0 (bxs []) M,Γ.n0 + 74⟩) h (fun z h=>?_) (fun z h=>?_)
     ·refine Tr.rgnD (by decide) ?_
      refine md rfl (Rn.lenD tv rfl (Rn.bin tv rfl rfl rfl (md rfl ?_)))
      refine Qbo (decide ((a11.length:Int) > 0)) (fun hb18=>?_) (fun hb18=>?_)
      ·replace h:=ifT hb18 h
       refine Rn.movD (gw rfl hb18) rfl (Rn.lenD (gw rfl hb18) rfl (Rn.bin (gw rfl hb18) rfl rfl rfl (Rn.movD (gw rfl hb18) rfl ?_)))
       refine Qbo ((b12.length:Int) == 0) (fun hb19=>?_) (fun hb19=>?_)
       ·replace h:=bT hb19 h
        refine Rn.sk (nw rfl hb19) (Rn.sk (nw rfl hb19) (Rn.sk (nw rfl hb19) (Rn.sk (nw rfl hb19) (Rn.sk (nw rfl hb19) (Rn.sk (nw rfl hb19) (Rn.sk (nw rfl hb19) (Rn.pickT (v:=(b_ true)) (gw rfl hb18) rfl hb19 rfl (Rn.pickT (v:=(b_ true)) tv rfl hb18 rfl (md rfl ?_)))))))))
        refine Rn.nil ⟨rfl,?_⟩
        replace h:=si h; subst h
        exact Qh [] ⟨(sm rfl),(sm rfl),(kFun hM ho8),(sm rfl),(sm rfl),tv⟩ tv rfl
       ·replace h:=bF hb19 h
        refine Rn.movD (gw rfl hb19) rfl ?_
        obtain ⟨x20,h21,h⟩:=bnd h
        refine Rn.idxD (e:=(eI .i64)) (gw rfl hb19) rfl rfl h21 (Rn.loadC (x:=.int .i64 x20) (gw rfl hb19) rfl (Rn.movD (gw rfl hb19) rfl ?_))
        obtain ⟨x22,h23,h⟩:=bnd h
        refine Rn.idxD (e:=(eI .i64)) (gw rfl hb19) rfl rfl h23 (Rn.loadC (x:=.int .i64 x22) (gw rfl hb19) rfl (Rn.bin (gw rfl hb19) rfl rfl rfl (Rn.pickF (v:=(b_ (decide (x20≤x22)))) (gw rfl hb18) rfl hb19 rfl (Rn.pickT (v:=(b_ (decide (x20≤x22)))) tv rfl hb18 rfl (md rfl ?_)))))
        refine Rn.nil ⟨rfl,?_⟩
        replace h:=si h; subst h
        exact Qh [] ⟨(sm rfl),(sm rfl),(kFun hM ho8),(sm rfl),(sm rfl),tv⟩ tv rfl
      ·replace h:=ifF hb18 h
       refine Rn.sk (nw rfl hb18) (Rn.sk (nw rfl hb18) (Rn.sk (nw rfl hb18) (Rn.sk (nw rfl hb18) (Rn.sk (nu rfl) (Rn.sk (nu rfl) (Rn.sk (nu rfl) (Rn.sk (nu rfl) (Rn.sk (nu rfl) (Rn.sk (nu rfl) (Rn.sk (nu rfl) (Rn.sk (nw rfl hb18) (Rn.pickF (v:=(b_ false)) tv rfl hb18 rfl (md rfl ?_)))))))))))))
       refine Rn.nil ⟨rfl,?_⟩
       replace h:=si h; subst h
       exact Qh [] ⟨(sm rfl),(sm rfl),(kFun hM ho8),(sm rfl),(sm rfl),tv⟩ tv rfl
     ·obtain ⟨inA24,rfl⟩ : ∃ x,x = z:=⟨_,rfl⟩
      refine Tr.cutB (fun (inB31:Bool)=>⟨look [(0,(l_ a11)),(1,(l_ b12)),(2,.clo g4 cp5),(7,(o_ out13)),(8,(b_ inA24)),(9,(b_ inB31))],Qo Γ.n0 (bxs []) M,Γ.n0 + 74⟩) h (fun z h=>?_) (fun z h=>?_)
      ·refine Tr.rgnD (by decide) ?_
       refine md rfl (Rn.lenD tv rfl (Rn.bin tv rfl rfl rfl (md rfl ?_)))
       refine Qbo (decide ((b12.length:Int) > 0)) (fun hb25=>?_) (fun hb25=>?_)
       ·replace h:=ifT hb25 h
        refine Rn.movD (gw rfl hb25) rfl (Rn.lenD (gw rfl hb25) rfl (Rn.bin (gw rfl hb25) rfl rfl rfl (Rn.movD (gw rfl hb25) rfl ?_)))
        refine Qbo ((a11.length:Int) == 0) (fun hb26=>?_) (fun hb26=>?_)
        ·replace h:=bT hb26 h
         refine Rn.sk (nw rfl hb26) (Rn.sk (nw rfl hb26) (Rn.sk (nw rfl hb26) (Rn.sk (nw rfl hb26) (Rn.sk (nw rfl hb26) (Rn.sk (nw rfl hb26) (Rn.sk (nw rfl hb26) (Rn.pickT (v:=(b_ true)) (gw rfl hb25) rfl hb26 rfl (Rn.pickT (v:=(b_ true)) tv rfl hb25 rfl (md rfl ?_)))))))))
         refine Rn.nil ⟨rfl,?_⟩
         replace h:=si h; subst h
         exact Qh [] ⟨(sm rfl),(sm rfl),(kFun hM ho8),(sm rfl),(sm rfl),(sm rfl),tv⟩ tv rfl
        ·replace h:=bF hb26 h
         refine Rn.movD (gw rfl hb26) rfl ?_
         obtain ⟨x27,h28,h⟩:=bnd h
         refine Rn.idxD (e:=(eI .i64)) (gw rfl hb26) rfl rfl h28 (Rn.loadC (x:=.int .i64 x27) (gw rfl hb26) rfl (Rn.movD (gw rfl hb26) rfl ?_))
         obtain ⟨x29,h30,h⟩:=bnd h
         refine Rn.idxD (e:=(eI .i64)) (gw rfl hb26) rfl rfl h30 (Rn.loadC (x:=.int .i64 x29) (gw rfl hb26) rfl (Rn.bin (gw rfl hb26) rfl rfl rfl (Rn.pickF (v:=(b_ (decide (x27≤x29)))) (gw rfl hb25) rfl hb26 rfl (Rn.pickT (v:=(b_ (decide (x27≤x29)))) tv rfl hb25 rfl (md rfl ?_)))))
         refine Rn.nil ⟨rfl,?_⟩
         replace h:=si h; subst h
         exact Qh [] ⟨(sm rfl),(sm rfl),(kFun hM ho8),(sm rfl),(sm rfl),(sm rfl),tv⟩ tv rfl
       ·replace h:=ifF hb25 h
        refine Rn.sk (nw rfl hb25) (Rn.sk (nw rfl hb25) (Rn.sk (nw rfl hb25) (Rn.sk (nw rfl hb25) (Rn.sk (nu rfl) (Rn.sk (nu rfl) (Rn.sk (nu rfl) (Rn.sk (nu rfl) (Rn.sk (nu rfl) (Rn.sk (nu rfl) (Rn.sk (nu rfl) (Rn.sk (nw rfl hb25) (Rn.pickF (v:=(b_ false)) tv rfl hb25 rfl (md rfl ?_)))))))))))))
        refine Rn.nil ⟨rfl,?_⟩
        replace h:=si h; subst h
        exact Qh [] ⟨(sm rfl),(sm rfl),(kFun hM ho8),(sm rfl),(sm rfl),(sm rfl),tv⟩ tv rfl
      ·obtain ⟨inB31,rfl⟩ : ∃ x,x = z:=⟨_,rfl⟩
       refine sr ((md rfl (Rn.nil (toN ?_))))
       refine Tr.cutB (fun ((a37,x38):(List Int)×Int)=>⟨look [(0,(l_ a37)),(1,(l_ b12)),(2,.clo g4 cp5),(7,(o_ out13)),(8,(b_ inA24)),(9,(b_ inB31)),(10,(i_ x38))],Qo Γ.n0 (bxs []) M,Γ.n0 + 74⟩) h (fun z h=>?_) (fun z h=>?_)
       ·refine sr ((md rfl (Rn.nil (toN ?_))))
        refine Tr.cond rfl (fun hb32=>?_) (fun hb32=>?_)
        ·replace h:=bT hb32 h
         refine Tr.rgnD (by decide) ?_
         refine md rfl ?_
         obtain ⟨x33,h34,h⟩:=bnd h
         refine Rn.idxD (e:=(eI .i64)) tv rfl rfl h34 (Rn.loadC (x:=.int .i64 x33) tv rfl (Rn.movTD tv rfl ?_))
         obtain ⟨x35,h36,h⟩:=bnd h
         refine Rn.slcTD (e:=(eI .i64)) tv rfl rfl h36 (md rfl (Rn.movTD tv rfl ?_))
         refine Rn.nil ⟨rfl,?_⟩
         replace h:=si h; subst h
         exact Qh [] ⟨(sm rfl),(sm rfl),(kFun hM ho8),(sm rfl),(sm rfl),(sm rfl),(sm rfl),tv⟩ tv rfl
        ·replace h:=bF hb32 h
         refine Tr.skip ?_
         replace h:=si h; subst h
         exact Qh [] ⟨(sm rfl),(sm rfl),(kFun hM ho8),(sm rfl),(sm rfl),(sm rfl),(sm rfl),tv⟩ tv rfl
       ·obtain ⟨a37,x38⟩:=z
        refine Tr.cutB (fun ((b44,x45):(List Int)×Int)=>⟨look [(0,(l_ a37)),(1,(l_ b44)),(2,.clo g4 cp5),(7,(o_ out13)),(8,(b_ inA24)),(9,(b_ inB31)),(10,(i_ x45))],Qo Γ.n0 (bxs []) M,Γ.n0 + 74⟩) h (fun z h=>?_) (fun z h=>?_)
        ·refine sr ((md rfl (Rn.nil (toN ?_))))
         refine Tr.cond rfl (fun hb39=>?_) (fun hb39=>?_)
         ·replace h:=bT hb39 h
          refine Tr.rgnD (by decide) ?_
          refine md rfl ?_
          obtain ⟨x40,h41,h⟩:=bnd h
          refine Rn.idxD (e:=(eI .i64)) tv rfl rfl h41 (Rn.loadC (x:=.int .i64 x40) tv rfl (Rn.movTD tv rfl ?_))
          obtain ⟨x42,h43,h⟩:=bnd h
          refine Rn.slcTD (e:=(eI .i64)) tv rfl rfl h43 (md rfl (Rn.movTD tv rfl ?_))
          refine Rn.nil ⟨rfl,?_⟩
          replace h:=si h; subst h
          exact Qh [] ⟨(sm rfl),(sm rfl),(kFun hM ho8),(sm rfl),(sm rfl),(sm rfl),(sm rfl),tv⟩ tv rfl
         ·replace h:=bF hb39 h
          refine Tr.skip ?_
          replace h:=si h; subst h
          exact Qh [] ⟨(sm rfl),(sm rfl),(kFun hM ho8),(sm rfl),(sm rfl),(sm rfl),(sm rfl),tv⟩ tv rfl
        ·obtain ⟨b44,x45⟩:=z
         refine sr ((Rn.mov (v:=.clo g4 cp5) tv rfl (md rfl (md rfl ?_))))
         obtain ⟨x47,h46,h⟩:=bnd h
         refine Rn.callvM (args:=[(b_ inA24),(b_ inB31)] ++ cp5) tv rfl (by rw [hc6]; rfl) (fun M2 nb2 hn hx=>hf7 _ _ _ h46 M2 nb2 (by omega) ((Q5n hM).trans hx)) rfl pc9 ?_
         refine Rn.nil (toN ?_)
         refine Tr.cond rfl (fun hb48=>?_) (fun hb48=>?_)
         ·replace h:=bT hb48 h
          refine Tr.rgn (Rn.movTO tv rfl (md rfl (Rn.bslice (xs:=[(i_ x45)]) (cs:=[(i_ x45)]) tv rfl rfl rfl rfl ?_)))
          obtain ⟨x49,h50,h⟩:=bnd h
          refine Rn.app (e:=(eI .i64)) tv rfl rfl rfl (Qcy rfl rfl rfl) h50 rfl (Rn.movTO tv rfl (Rn.nil ?_))
          exact ⟨_,h,(by exact Ql ⟨(sm rfl),(sm rfl),(kFun hM ho8),(sm rfl),tv⟩ tv rfl)⟩
         ·replace h:=bF hb48 h
          refine Tr.skip ?_
          exact ⟨_,h,(by exact Ql ⟨(sm rfl),(sm rfl),(kFun hM ho8),(sm rfl),tv⟩ tv rfl)⟩
    ·replace h:=bF hb17 h
     refine Tr.exit ?_
     replace h:=si h; subst h
     exact Qh [] ⟨(sm rfl),tv⟩ tv rfl
 ·obtain ⟨out51,rfl⟩ : ∃ x,x = z:=⟨_,rfl⟩
  refine sr ((Rn.movTO tv rfl (Rn.movTO tv rfl (nt ((Tr.ret ?_))))))
  replace h:=si h; subst h
  exact ⟨.inr rfl,(o_ out51),rfl,fun _ _ _ _ h=>h,tv,fun k hk=>Qi hk⟩
theorem Q11 {P:Program} {c:Nat} (hcf:Qx P c = some Ql0):Qlz P c (Qdd):=by
 intro inA1 inB2 r h
 refine Qec hcf rfl fun Γ M hP hnt hM=>?_
 subst hP
 refine Tr.init [(0,(b_ inA1)),(1,(b_ inB2))] rfl ?_
 unfold Qdd at h
 unfold Ql0
 refine sr ((md rfl (nt ((sr ((md rfl (md rfl ?_))))))))
 refine Qbo inA1 (fun hb3=>?_) (fun hb3=>?_)
 ·replace h:=bT hb3 h
  refine Rn.movD (gw rfl hb3) rfl (Rn.un (gw rfl hb3) rfl rfl (Rn.pickT (v:=(b_ (!inB2))) tv rfl hb3 rfl (md rfl (nt ((Tr.ret ?_))))))
  replace h:=si h; subst h
  exact ⟨.inr rfl,(b_ (!inB2)),rfl,fun _ _ _ _ h=>h,tv,fun k hk=>Qi hk⟩
 ·replace h:=bF hb3 h
  refine Rn.sk (nw rfl hb3) (Rn.sk (nw rfl hb3) (Rn.pickF (v:=(b_ false)) tv rfl hb3 rfl (md rfl (nt ((Tr.ret ?_))))))
  replace h:=si h; subst h
  exact ⟨.inr rfl,(b_ false),rfl,fun _ _ _ _ h=>h,tv,fun k hk=>Qi hk⟩
theorem Q4v {P:Program} {c:Nat} {Qdh:(List Int)→(List Int)→(Bool→Bool→Option Bool)→Option ((List Int))} {Qdd:Bool→Bool→Option Bool}
    (H_alphabet_merge:Qp3 P 66 Qdh)
    (H_alphabet_Minus_1:Qlz P 78 Qdd) (hcf:Qx P c = some Qp6):Qp5 P c (Qdi Qdh Qdd):=by
 intro a1 b2 r h
 refine Qec hcf rfl fun Γ M hP hnt hM=>?_
 subst hP
 refine Tr.init [(0,(l_ a1)),(1,(l_ b2))] rfl ?_
 unfold Qdi at h
 unfold Qp6
 refine sr ((Rn.movTC (v:=.nils 1) tv (nt ((sr ((md rfl (md rfl ?_))))))))
 obtain ⟨x8,h7,h⟩:=bnd h
 refine Rn.callM (args:=[(l_ a1),(l_ b2),.clo 78 []]) tv rfl (fun M2 nb2 hn hx=>H_alphabet_merge _ _ _ 78 [] _ h7 M2 nb2 rfl tv (fun a3 a4 r5 h6 M3 nb3 hn3 hx3=>H_alphabet_Minus_1 a3 a4 r5 h6 M3 nb3 )) rfl pc9 ?_
 refine Rn.movTO tv rfl (nt ((Tr.ret ?_)))
 replace h:=si h; subst h
 exact ⟨.inr rfl,(o_ x8),rfl,fun _ _ _ _ h=>h,tv,fun k hk=>Qi hk⟩
theorem Q3t {P:Program} {c:Nat} {Qdi:(List Int)→(List Int)→Option ((List Int))}
    (H_alphabet_Minus:Qp5 P 55 Qdi) (hcf:Qx P c = some Qmv):Qmu P c (Qc6 Qdi):=by
 intro a1 b2 r h
 refine Qec hcf rfl fun Γ M hP hnt hM=>?_
 subst hP
 refine Tr.init [(0,(l_ a1)),(1,(l_ b2))] rfl ?_
 unfold Qc6 at h
 unfold Qmv
 refine sr ((md rfl (nt ((sr ((md rfl (md rfl ?_))))))))
 obtain ⟨x4,h3,h⟩:=bnd h
 refine Rn.call (args:=[(l_ a1),(l_ b2)]) tv rfl (H_alphabet_Minus _ _ _ h3) pc9 (Rn.lenD tv rfl (Rn.bin tv rfl rfl rfl (md rfl (nt ((Tr.ret ?_))))))
 replace h:=si h; subst h
 exact ⟨.inr rfl,(b_ ((x4.length:Int) == 0)),rfl,fun _ _ _ _ h=>h,tv,fun k hk=>Qi hk⟩
end Go.Abs
end
section
namespace Go.Abs
open Go
set_option maxRecDepth 10000
set_option maxHeartbeats 4000000
theorem Qhp {P:Program} {c:Nat} {Qco:Option Bool} {Qci:Q2→Option Qb} {Qu:Qb→Option (Qbm×Int)} {Qcz:(List Int)→(List Int)→Option Bool} {Qbs:Qb→(List Int)→Option (Bool×Int)} {Q6:Qbi→Option ((List Int))} {Qbn:Qbi→Int→Option (Int×Int)} {Qt:(List Int)→Int→Option Bool} {Qc6:(List Int)→(List Int)→Option Bool}
    (H_overseerlaw46_known:Qif P 9 Qco)
    (H_overseerlaw46_Make:Qi3 P 10 Qci)
    (H_timedsynthesis_Synthesize:Qds P 11 Qu)
    (H_word_Equal:Qtu P 16 Qcz)
    (H_timedsynthesis_Conforms:Qf3 P 20 Qbs)
    (H_overseerlaw46_model_distances:Qd4 P 21 Q6)
    (H_overseerlaw46_model_must:Qfo P 22 Qbn)
    (H_overseerlaw46_has:Qd3 P 23 Qt)
    (H_alphabet_Subset:Qmu P 24 Qc6) (hcf:Qx P c = some Qc7) (fuel:Nat):Qen P c (Qcb Qco Qci Qu Qcz Qbs Q6 Qbn Qt Qc6 fuel):=by
 intro k1 r h
 refine Qec hcf rfl fun Γ M hP hnt hM=>?_
 subst hP
 refine Tr.init [(0,.agg [.d (.int .u8 k1.Part.Events),.d (.int .u8 k1.Part.Graph.zM),.d (.int .u8 k1.Part.Graph.Marks),.d (.int .u8 k1.Part.Graph.To.1.1),.d (.int .u8 k1.Part.Graph.To.1.2.1),.d (.int .u8 k1.Part.Graph.To.1.2.2.1),.d (.int .u8 k1.Part.Graph.To.1.2.2.2.1),.d (.int .u8 k1.Part.Graph.To.1.2.2.2.2),.d (.int .u8 k1.Part.Graph.To.2.1.1),.d (.int .u8 k1.Part.Graph.To.2.1.2.1),.d (.int .u8 k1.Part.Graph.To.2.1.2.2.1),.d (.int .u8 k1.Part.Graph.To.2.1.2.2.2.1),.d (.int .u8 k1.Part.Graph.To.2.1.2.2.2.2),.d (.int .u8 k1.Part.Graph.To.2.2.1.1),.d (.int .u8 k1.Part.Graph.To.2.2.1.2.1),.d (.int .u8 k1.Part.Graph.To.2.2.1.2.2.1),.d (.int .u8 k1.Part.Graph.To.2.2.1.2.2.2.1),.d (.int .u8 k1.Part.Graph.To.2.2.1.2.2.2.2),.d (.int .u8 k1.Part.Graph.To.2.2.2.1.1),.d (.int .u8 k1.Part.Graph.To.2.2.2.1.2.1),.d (.int .u8 k1.Part.Graph.To.2.2.2.1.2.2.1),.d (.int .u8 k1.Part.Graph.To.2.2.2.1.2.2.2.1),.d (.int .u8 k1.Part.Graph.To.2.2.2.1.2.2.2.2),.d (.int .u8 k1.Part.Graph.To.2.2.2.2.1),.d (.int .u8 k1.Part.Graph.To.2.2.2.2.2.1),.d (.int .u8 k1.Part.Graph.To.2.2.2.2.2.2.1),.d (.int .u8 k1.Part.Graph.To.2.2.2.2.2.2.2.1),.d (.int .u8 k1.Part.Graph.To.2.2.2.2.2.2.2.2),.d (.int .u8 k1.zC),.d (.int .u8 k1.zB),.d (.int .u8 k1.zD)])] rfl ?_
 unfold Qcb at h
 unfold Qc7
 refine sr ((Rn.box (v:=.agg [.d (.int .u8 k1.Part.Events),.d (.int .u8 k1.Part.Graph.zM),.d (.int .u8 k1.Part.Graph.Marks),.d (.int .u8 k1.Part.Graph.To.1.1),.d (.int .u8 k1.Part.Graph.To.1.2.1),.d (.int .u8 k1.Part.Graph.To.1.2.2.1),.d (.int .u8 k1.Part.Graph.To.1.2.2.2.1),.d (.int .u8 k1.Part.Graph.To.1.2.2.2.2),.d (.int .u8 k1.Part.Graph.To.2.1.1),.d (.int .u8 k1.Part.Graph.To.2.1.2.1),.d (.int .u8 k1.Part.Graph.To.2.1.2.2.1),.d (.int .u8 k1.Part.Graph.To.2.1.2.2.2.1),.d (.int .u8 k1.Part.Graph.To.2.1.2.2.2.2),.d (.int .u8 k1.Part.Graph.To.2.2.1.1),.d (.int .u8 k1.Part.Graph.To.2.2.1.2.1),.d (.int .u8 k1.Part.Graph.To.2.2.1.2.2.1),.d (.int .u8 k1.Part.Graph.To.2.2.1.2.2.2.1),.d (.int .u8 k1.Part.Graph.To.2.2.1.2.2.2.2),.d (.int .u8 k1.Part.Graph.To.2.2.2.1.1),.d (.int .u8 k1.Part.Graph.To.2.2.2.1.2.1),.d (.int .u8 k1.Part.Graph.To.2.2.2.1.2.2.1),.d (.int .u8 k1.Part.Graph.To.2.2.2.1.2.2.2.1),.d (.int .u8 k1.Part.Graph.To.2.2.2.1.2.2.2.2),.d (.int .u8 k1.Part.Graph.To.2.2.2.2.1),.d (.int .u8 k1.Part.Graph.To.2.2.2.2.2.1),.d (.int .u8 k1.Part.Graph.To.2.2.2.2.2.2.1),.d (.int .u8 k1.Part.Graph.To.2.2.2.2.2.2.2.1),.d (.int .u8 k1.Part.Graph.To.2.2.2.2.2.2.2.2),.d (.int .u8 k1.zC),.d (.int .u8 k1.zB),.d (.int .u8 k1.zD)]) (cs:=[.d (.int .u8 k1.Part.Events),.d (.int .u8 k1.Part.Graph.zM),.d (.int .u8 k1.Part.Graph.Marks),.d (.int .u8 k1.Part.Graph.To.1.1),.d (.int .u8 k1.Part.Graph.To.1.2.1),.d (.int .u8 k1.Part.Graph.To.1.2.2.1),.d (.int .u8 k1.Part.Graph.To.1.2.2.2.1),.d (.int .u8 k1.Part.Graph.To.1.2.2.2.2),.d (.int .u8 k1.Part.Graph.To.2.1.1),.d (.int .u8 k1.Part.Graph.To.2.1.2.1),.d (.int .u8 k1.Part.Graph.To.2.1.2.2.1),.d (.int .u8 k1.Part.Graph.To.2.1.2.2.2.1),.d (.int .u8 k1.Part.Graph.To.2.1.2.2.2.2),.d (.int .u8 k1.Part.Graph.To.2.2.1.1),.d (.int .u8 k1.Part.Graph.To.2.2.1.2.1),.d (.int .u8 k1.Part.Graph.To.2.2.1.2.2.1),.d (.int .u8 k1.Part.Graph.To.2.2.1.2.2.2.1),.d (.int .u8 k1.Part.Graph.To.2.2.1.2.2.2.2),.d (.int .u8 k1.Part.Graph.To.2.2.2.1.1),.d (.int .u8 k1.Part.Graph.To.2.2.2.1.2.1),.d (.int .u8 k1.Part.Graph.To.2.2.2.1.2.2.1),.d (.int .u8 k1.Part.Graph.To.2.2.2.1.2.2.2.1),.d (.int .u8 k1.Part.Graph.To.2.2.2.1.2.2.2.2),.d (.int .u8 k1.Part.Graph.To.2.2.2.2.1),.d (.int .u8 k1.Part.Graph.To.2.2.2.2.2.1),.d (.int .u8 k1.Part.Graph.To.2.2.2.2.2.2.1),.d (.int .u8 k1.Part.Graph.To.2.2.2.2.2.2.2.1),.d (.int .u8 k1.Part.Graph.To.2.2.2.2.2.2.2.2),.d (.int .u8 k1.zC),.d (.int .u8 k1.zB),.d (.int .u8 k1.zD)]) tv rfl rfl rfl rfl rfl (md rfl (nt ((Tr.seq (Tr.seq (Tr.rgn ?_))))))))
 obtain ⟨x3,h2,h⟩:=bnd h
 refine Rn.call (args:=[]) tv rfl (H_overseerlaw46_known _ h2) pc9 (Rn.un tv rfl rfl (Rn.nil (toN ?_)))
 refine Tr.cond rfl (fun hb4=>?_) (fun hb4=>?_)
 ·have hb4:=nT' hb4
  replace h:=bF hb4 h
  refine sr ((md rfl (nt ((Tr.ret ?_)))))
  replace h:=si h; subst h
  exact ⟨.inr rfl,(b_ false),rfl,fun _ _ _ _ h=>h,tv,fun k hk=>Qi hk⟩
 ·have hb4:=nF' hb4
  replace h:=bT hb4 h
  refine Tr.skip (toN (sr ((Rn.load (v:=.agg [.d (.int .u8 k1.Part.Events),.d (.int .u8 k1.Part.Graph.zM),.d (.int .u8 k1.Part.Graph.Marks),.d (.int .u8 k1.Part.Graph.To.1.1),.d (.int .u8 k1.Part.Graph.To.1.2.1),.d (.int .u8 k1.Part.Graph.To.1.2.2.1),.d (.int .u8 k1.Part.Graph.To.1.2.2.2.1),.d (.int .u8 k1.Part.Graph.To.1.2.2.2.2),.d (.int .u8 k1.Part.Graph.To.2.1.1),.d (.int .u8 k1.Part.Graph.To.2.1.2.1),.d (.int .u8 k1.Part.Graph.To.2.1.2.2.1),.d (.int .u8 k1.Part.Graph.To.2.1.2.2.2.1),.d (.int .u8 k1.Part.Graph.To.2.1.2.2.2.2),.d (.int .u8 k1.Part.Graph.To.2.2.1.1),.d (.int .u8 k1.Part.Graph.To.2.2.1.2.1),.d (.int .u8 k1.Part.Graph.To.2.2.1.2.2.1),.d (.int .u8 k1.Part.Graph.To.2.2.1.2.2.2.1),.d (.int .u8 k1.Part.Graph.To.2.2.1.2.2.2.2),.d (.int .u8 k1.Part.Graph.To.2.2.2.1.1),.d (.int .u8 k1.Part.Graph.To.2.2.2.1.2.1),.d (.int .u8 k1.Part.Graph.To.2.2.2.1.2.2.1),.d (.int .u8 k1.Part.Graph.To.2.2.2.1.2.2.2.1),.d (.int .u8 k1.Part.Graph.To.2.2.2.1.2.2.2.2),.d (.int .u8 k1.Part.Graph.To.2.2.2.2.1),.d (.int .u8 k1.Part.Graph.To.2.2.2.2.2.1),.d (.int .u8 k1.Part.Graph.To.2.2.2.2.2.2.1),.d (.int .u8 k1.Part.Graph.To.2.2.2.2.2.2.2.1),.d (.int .u8 k1.Part.Graph.To.2.2.2.2.2.2.2.2),.d (.int .u8 k1.zC),.d (.int .u8 k1.zB),.d (.int .u8 k1.zD)]) tv rfl (Qk rfl) rfl rfl ?_))))
  obtain ⟨x6,h5,h⟩:=bnd h
  refine Rn.call (args:=[.agg [.d (.int .u8 k1.Part.Events),.d (.int .u8 k1.Part.Graph.zM),.d (.int .u8 k1.Part.Graph.Marks),.d (.int .u8 k1.Part.Graph.To.1.1),.d (.int .u8 k1.Part.Graph.To.1.2.1),.d (.int .u8 k1.Part.Graph.To.1.2.2.1),.d (.int .u8 k1.Part.Graph.To.1.2.2.2.1),.d (.int .u8 k1.Part.Graph.To.1.2.2.2.2),.d (.int .u8 k1.Part.Graph.To.2.1.1),.d (.int .u8 k1.Part.Graph.To.2.1.2.1),.d (.int .u8 k1.Part.Graph.To.2.1.2.2.1),.d (.int .u8 k1.Part.Graph.To.2.1.2.2.2.1),.d (.int .u8 k1.Part.Graph.To.2.1.2.2.2.2),.d (.int .u8 k1.Part.Graph.To.2.2.1.1),.d (.int .u8 k1.Part.Graph.To.2.2.1.2.1),.d (.int .u8 k1.Part.Graph.To.2.2.1.2.2.1),.d (.int .u8 k1.Part.Graph.To.2.2.1.2.2.2.1),.d (.int .u8 k1.Part.Graph.To.2.2.1.2.2.2.2),.d (.int .u8 k1.Part.Graph.To.2.2.2.1.1),.d (.int .u8 k1.Part.Graph.To.2.2.2.1.2.1),.d (.int .u8 k1.Part.Graph.To.2.2.2.1.2.2.1),.d (.int .u8 k1.Part.Graph.To.2.2.2.1.2.2.2.1),.d (.int .u8 k1.Part.Graph.To.2.2.2.1.2.2.2.2),.d (.int .u8 k1.Part.Graph.To.2.2.2.2.1),.d (.int .u8 k1.Part.Graph.To.2.2.2.2.2.1),.d (.int .u8 k1.Part.Graph.To.2.2.2.2.2.2.1),.d (.int .u8 k1.Part.Graph.To.2.2.2.2.2.2.2.1),.d (.int .u8 k1.Part.Graph.To.2.2.2.2.2.2.2.2),.d (.int .u8 k1.zC),.d (.int .u8 k1.zB),.d (.int .u8 k1.zD)]]) tv rfl (H_overseerlaw46_Make _ _ h5) pc9 (Rn.alloc tv rfl (Rn.storeT (v:=.agg [(l_ x6.zA.zJ),(i_ x6.zA.zM),(l_ x6.zA.zK),.d (.lst 3 (List.map Qa x6.zA.zL)),(l_ x6.zC),(l_ x6.zB),(l_ x6.zD),(i_ x6.Tick)]) (ds:=[(l_ x6.zA.zJ),(i_ x6.zA.zM),(l_ x6.zA.zK),.d (.lst 3 (List.map Qa x6.zA.zL)),(l_ x6.zC),(l_ x6.zB),(l_ x6.zD),(i_ x6.Tick)]) (cs':=[(l_ x6.zA.zJ),(i_ x6.zA.zM),(l_ x6.zA.zK),.d (.lst 3 (List.map Qa x6.zA.zL)),(l_ x6.zC),(l_ x6.zB),(l_ x6.zD),(i_ x6.Tick)]) tv rfl rfl rfl rfl rfl rfl rfl (nt ((sr ((Rn.load (v:=.agg [(l_ x6.zA.zJ),(i_ x6.zA.zM),(l_ x6.zA.zK),.d (.lst 3 (List.map Qa x6.zA.zL)),(l_ x6.zC),(l_ x6.zB),(l_ x6.zD),(i_ x6.Tick)]) tv rfl (Qk rfl) rfl rfl ?_)))))))
  obtain ⟨⟨r8,r9⟩,h7,h⟩:=bnd h
  refine Rn.call (args:=[.agg [(l_ x6.zA.zJ),(i_ x6.zA.zM),(l_ x6.zA.zK),.d (.lst 3 (List.map Qa x6.zA.zL)),(l_ x6.zC),(l_ x6.zB),(l_ x6.zD),(i_ x6.Tick)]]) tv rfl (H_timedsynthesis_Synthesize _ _ h7) pc9 (Rn.mov (v:=.tup [.agg [(l_ r8.zE.Kept),(l_ r8.zE.zF),.d (.lst 4 (List.map Qg r8.zE.zG)),(i_ r8.Rounds),(l_ r8.zH.zJ),(i_ r8.zH.zM),(l_ r8.zH.zK),.d (.lst 3 (List.map Qa r8.zH.zL)),(l_ r8.zO),(l_ r8.zI)],(i_ r9)]) tv rfl (Rn.ext (v:=.agg [(l_ r8.zE.Kept),(l_ r8.zE.zF),.d (.lst 4 (List.map Qg r8.zE.zG)),(i_ r8.Rounds),(l_ r8.zH.zJ),(i_ r8.zH.zM),(l_ r8.zH.zK),.d (.lst 3 (List.map Qa r8.zH.zL)),(l_ r8.zO),(l_ r8.zI)]) (vs:=[.agg [(l_ r8.zE.Kept),(l_ r8.zE.zF),.d (.lst 4 (List.map Qg r8.zE.zG)),(i_ r8.Rounds),(l_ r8.zH.zJ),(i_ r8.zH.zM),(l_ r8.zH.zK),.d (.lst 3 (List.map Qa r8.zH.zL)),(l_ r8.zO),(l_ r8.zI)],(i_ r9)]) tv rfl rfl rfl (Rn.ext (v:=(i_ r9)) (vs:=[.agg [(l_ r8.zE.Kept),(l_ r8.zE.zF),.d (.lst 4 (List.map Qg r8.zE.zG)),(i_ r8.Rounds),(l_ r8.zH.zJ),(i_ r8.zH.zM),(l_ r8.zH.zK),.d (.lst 3 (List.map Qa r8.zH.zL)),(l_ r8.zO),(l_ r8.zI)],(i_ r9)]) tv rfl rfl rfl (Rn.alloc tv rfl (Rn.storeT (v:=.agg [(l_ r8.zE.Kept),(l_ r8.zE.zF),.d (.lst 4 (List.map Qg r8.zE.zG)),(i_ r8.Rounds),(l_ r8.zH.zJ),(i_ r8.zH.zM),(l_ r8.zH.zK),.d (.lst 3 (List.map Qa r8.zH.zL)),(l_ r8.zO),(l_ r8.zI)]) (ds:=[(l_ r8.zE.Kept),(l_ r8.zE.zF),.d (.lst 4 (List.map Qg r8.zE.zG)),(i_ r8.Rounds),(l_ r8.zH.zJ),(i_ r8.zH.zM),(l_ r8.zH.zK),.d (.lst 3 (List.map Qa r8.zH.zL)),(l_ r8.zO),(l_ r8.zI)]) (cs':=[(l_ r8.zE.Kept),(l_ r8.zE.zF),.d (.lst 4 (List.map Qg r8.zE.zG)),(i_ r8.Rounds),(l_ r8.zH.zJ),(i_ r8.zH.zM),(l_ r8.zH.zK),.d (.lst 3 (List.map Qa r8.zH.zL)),(l_ r8.zO),(l_ r8.zI)]) tv rfl rfl rfl rfl rfl rfl rfl (md rfl (nt ((Tr.seq (sr ((md rfl (Rn.bin tv rfl rfl rfl (Rn.nil (toN ?_)))))))))))))))
  refine Tr.cond rfl (fun hb10=>?_) (fun hb10=>?_)
  ·replace h:=bT hb10 h
   refine sr ((md rfl (nt ((Tr.ret ?_)))))
   replace h:=si h; subst h
   exact ⟨.inr rfl,(b_ false),rfl,fun _ _ _ _ h=>h,tv,fun k hk=>Qi hk⟩
  ·replace h:=bF hb10 h
   refine Tr.skip (toN (sr ((Rn.fldP (o':=0) tv rfl rfl (Rn.fldP (o':=1) tv rfl rfl (Rn.load (v:=(i_ x6.zA.zM)) tv rfl (Qk rfl) rfl rfl (md rfl (nt ((Tr.seq (sr ((md rfl (nt ((Tr.block ?_))))))))))))))))
   refine Tr.loop (mk:=fun (bits11:Int)=>⟨look [(3,.ptr (Γ.n0 + 3) 0),(4,.ptr (Γ.n0 + 4) 0),(6,(i_ x6.zA.zM)),(7,(i_ bits11))],Qo Γ.n0 (bxs [(1,.cells ([.d (.int .u8 k1.Part.Events),.d (.int .u8 k1.Part.Graph.zM),.d (.int .u8 k1.Part.Graph.Marks),.d (.int .u8 k1.Part.Graph.To.1.1),.d (.int .u8 k1.Part.Graph.To.1.2.1),.d (.int .u8 k1.Part.Graph.To.1.2.2.1),.d (.int .u8 k1.Part.Graph.To.1.2.2.2.1),.d (.int .u8 k1.Part.Graph.To.1.2.2.2.2),.d (.int .u8 k1.Part.Graph.To.2.1.1),.d (.int .u8 k1.Part.Graph.To.2.1.2.1),.d (.int .u8 k1.Part.Graph.To.2.1.2.2.1),.d (.int .u8 k1.Part.Graph.To.2.1.2.2.2.1),.d (.int .u8 k1.Part.Graph.To.2.1.2.2.2.2),.d (.int .u8 k1.Part.Graph.To.2.2.1.1),.d (.int .u8 k1.Part.Graph.To.2.2.1.2.1),.d (.int .u8 k1.Part.Graph.To.2.2.1.2.2.1),.d (.int .u8 k1.Part.Graph.To.2.2.1.2.2.2.1),.d (.int .u8 k1.Part.Graph.To.2.2.1.2.2.2.2),.d (.int .u8 k1.Part.Graph.To.2.2.2.1.1),.d (.int .u8 k1.Part.Graph.To.2.2.2.1.2.1),.d (.int .u8 k1.Part.Graph.To.2.2.2.1.2.2.1),.d (.int .u8 k1.Part.Graph.To.2.2.2.1.2.2.2.1),.d (.int .u8 k1.Part.Graph.To.2.2.2.1.2.2.2.2),.d (.int .u8 k1.Part.Graph.To.2.2.2.2.1),.d (.int .u8 k1.Part.Graph.To.2.2.2.2.2.1),.d (.int .u8 k1.Part.Graph.To.2.2.2.2.2.2.1),.d (.int .u8 k1.Part.Graph.To.2.2.2.2.2.2.2.1),.d (.int .u8 k1.Part.Graph.To.2.2.2.2.2.2.2.2),.d (.int .u8 k1.zC),.d (.int .u8 k1.zB),.d (.int .u8 k1.zD)])),(3,.cells ([(l_ x6.zA.zJ),(i_ x6.zA.zM),(l_ x6.zA.zK),.d (.lst 3 (List.map Qa x6.zA.zL)),(l_ x6.zC),(l_ x6.zB),(l_ x6.zD),(i_ x6.Tick)])),(4,.cells ([(l_ r8.zE.Kept),(l_ r8.zE.zF),.d (.lst 4 (List.map Qg r8.zE.zG)),(i_ r8.Rounds),(l_ r8.zH.zJ),(i_ r8.zH.zM),(l_ r8.zH.zK),.d (.lst 3 (List.map Qa r8.zH.zL)),(l_ r8.zO),(l_ r8.zI)]))]) M,Γ.n0 + 140⟩) h (by exact Ql ⟨(kPtr rfl),(kPtr rfl),(sm rfl),(sm rfl),tv⟩ ⟨⟨_,rfl,rfl,(.same rfl)⟩,⟨_,rfl,rfl,(.same rfl)⟩,⟨_,rfl,rfl,(.same rfl)⟩,tv⟩ rfl) (fun k12 z h=>?_)
   ·obtain ⟨bits11,rfl⟩ : ∃ x,x = z:=⟨_,rfl⟩
    replace h:_ = some _:=h
    refine Tr.seq (sr ((md rfl (md rfl ?_))))
    obtain ⟨s13,h14,h⟩:=bnd h
    refine Rn.bin tv rfl rfl (Qbko h14) (Rn.bin tv rfl rfl rfl (Rn.nil (toN ?_)))
    refine Tr.cond rfl (fun hb15=>?_) (fun hb15=>?_)
    ·replace h:=ifT hb15 h
     refine Tr.skip (toN (Tr.seq (Tr.block (sr ((Rn.movTC (v:=.nils 1) tv (nt ((Tr.seq ?_)))))))))
     refine Tr.rgnD (by decide) ?_
     refine Rn.load (v:=.agg [(l_ x6.zA.zJ),(i_ x6.zA.zM),(l_ x6.zA.zK),.d (.lst 3 (List.map Qa x6.zA.zL)),(l_ x6.zC),(l_ x6.zB),(l_ x6.zD),(i_ x6.Tick)]) tv rfl (Qk rfl) rfl rfl (md rfl ?_)
     obtain ⟨x16,h17,h⟩:=bnd h
     refine Rn.makes (g:=(fun (x:Int)=>[V.d (.int .i64 x)])) tv rfl rfl rfl rfl rfl h17 (Rn.buildT (v:=.agg [(l_ x6.zA.zJ),(i_ x6.zA.zM),(l_ x6.zA.zK),.d (.lst 3 (List.map Qa x6.zA.zL)),(l_ x6.zC),(l_ x6.zB),(l_ x6.zD),(i_ x6.Tick),.sl 1 (Γ.n0 + 40) 0 (Int.toNat x6.zA.zM) (Int.toNat x6.zA.zM),.nils 4,(i_ 0)]) tv rfl (Rn.box (v:=.agg [(l_ x6.zA.zJ),(i_ x6.zA.zM),(l_ x6.zA.zK),.d (.lst 3 (List.map Qa x6.zA.zL)),(l_ x6.zC),(l_ x6.zB),(l_ x6.zD),(i_ x6.Tick),.sl 1 (Γ.n0 + 40) 0 (Int.toNat x6.zA.zM) (Int.toNat x6.zA.zM),.nils 4,(i_ 0)]) (cs:=[(l_ x6.zA.zJ),(i_ x6.zA.zM),(l_ x6.zA.zK),.d (.lst 3 (List.map Qa x6.zA.zL)),(l_ x6.zC),(l_ x6.zB),(l_ x6.zD),(i_ x6.Tick),.sl 1 (Γ.n0 + 40) 0 (Int.toNat x6.zA.zM) (Int.toNat x6.zA.zM),.nils 4,(i_ 0)]) tv rfl rfl rfl rfl rfl (Rn.mov (v:=.ptr (Γ.n0 + 42) 0) tv rfl ?_)))
     refine Rn.nil ⟨rfl,?_⟩
     refine toN ?_
     refine Tr.cutB (fun ((xset34,c35):(List Int)×(List Int))=>⟨look [(3,.ptr (Γ.n0 + 3) 0),(4,.ptr (Γ.n0 + 4) 0),(6,(i_ x6.zA.zM)),(7,(i_ bits11)),(8,(o_ xset34)),(9,.ptr (Γ.n0 + 42) 0)],Qo Γ.n0 (bxs [(1,.cells ([.d (.int .u8 k1.Part.Events),.d (.int .u8 k1.Part.Graph.zM),.d (.int .u8 k1.Part.Graph.Marks),.d (.int .u8 k1.Part.Graph.To.1.1),.d (.int .u8 k1.Part.Graph.To.1.2.1),.d (.int .u8 k1.Part.Graph.To.1.2.2.1),.d (.int .u8 k1.Part.Graph.To.1.2.2.2.1),.d (.int .u8 k1.Part.Graph.To.1.2.2.2.2),.d (.int .u8 k1.Part.Graph.To.2.1.1),.d (.int .u8 k1.Part.Graph.To.2.1.2.1),.d (.int .u8 k1.Part.Graph.To.2.1.2.2.1),.d (.int .u8 k1.Part.Graph.To.2.1.2.2.2.1),.d (.int .u8 k1.Part.Graph.To.2.1.2.2.2.2),.d (.int .u8 k1.Part.Graph.To.2.2.1.1),.d (.int .u8 k1.Part.Graph.To.2.2.1.2.1),.d (.int .u8 k1.Part.Graph.To.2.2.1.2.2.1),.d (.int .u8 k1.Part.Graph.To.2.2.1.2.2.2.1),.d (.int .u8 k1.Part.Graph.To.2.2.1.2.2.2.2),.d (.int .u8 k1.Part.Graph.To.2.2.2.1.1),.d (.int .u8 k1.Part.Graph.To.2.2.2.1.2.1),.d (.int .u8 k1.Part.Graph.To.2.2.2.1.2.2.1),.d (.int .u8 k1.Part.Graph.To.2.2.2.1.2.2.2.1),.d (.int .u8 k1.Part.Graph.To.2.2.2.1.2.2.2.2),.d (.int .u8 k1.Part.Graph.To.2.2.2.2.1),.d (.int .u8 k1.Part.Graph.To.2.2.2.2.2.1),.d (.int .u8 k1.Part.Graph.To.2.2.2.2.2.2.1),.d (.int .u8 k1.Part.Graph.To.2.2.2.2.2.2.2.1),.d (.int .u8 k1.Part.Graph.To.2.2.2.2.2.2.2.2),.d (.int .u8 k1.zC),.d (.int .u8 k1.zB),.d (.int .u8 k1.zD)])),(3,.cells ([(l_ x6.zA.zJ),(i_ x6.zA.zM),(l_ x6.zA.zK),.d (.lst 3 (List.map Qa x6.zA.zL)),(l_ x6.zC),(l_ x6.zB),(l_ x6.zD),(i_ x6.Tick)])),(4,.cells ([(l_ r8.zE.Kept),(l_ r8.zE.zF),.d (.lst 4 (List.map Qg r8.zE.zG)),(i_ r8.Rounds),(l_ r8.zH.zJ),(i_ r8.zH.zM),(l_ r8.zH.zK),.d (.lst 3 (List.map Qa r8.zH.zL)),(l_ r8.zO),(l_ r8.zI)])),(40,.cells (Qz (fun (x:Int)=>[V.d (.int .i64 x)]) c35)),(42,.cells ([(l_ x6.zA.zJ),(i_ x6.zA.zM),(l_ x6.zA.zK),.d (.lst 3 (List.map Qa x6.zA.zL)),(l_ x6.zC),(l_ x6.zB),(l_ x6.zD),(i_ x6.Tick),.sl 1 (Γ.n0 + 40) 0 (Int.toNat x6.zA.zM) (Int.toNat x6.zA.zM),.nils 4,(i_ 0)]))]) M,Γ.n0 + 140⟩) h (fun z h=>?_) (fun z h=>?_)
     ·refine sr ((md rfl (nt ((Tr.block ?_)))))
      refine Tr.loop (mk:=fun ((xset18,i19,c20):(List Int)×Int×(List Int))=>⟨look [(3,.ptr (Γ.n0 + 3) 0),(4,.ptr (Γ.n0 + 4) 0),(6,(i_ x6.zA.zM)),(7,(i_ bits11)),(8,(o_ xset18)),(9,.ptr (Γ.n0 + 42) 0),(10,(i_ i19))],Qo Γ.n0 (bxs [(1,.cells ([.d (.int .u8 k1.Part.Events),.d (.int .u8 k1.Part.Graph.zM),.d (.int .u8 k1.Part.Graph.Marks),.d (.int .u8 k1.Part.Graph.To.1.1),.d (.int .u8 k1.Part.Graph.To.1.2.1),.d (.int .u8 k1.Part.Graph.To.1.2.2.1),.d (.int .u8 k1.Part.Graph.To.1.2.2.2.1),.d (.int .u8 k1.Part.Graph.To.1.2.2.2.2),.d (.int .u8 k1.Part.Graph.To.2.1.1),.d (.int .u8 k1.Part.Graph.To.2.1.2.1),.d (.int .u8 k1.Part.Graph.To.2.1.2.2.1),.d (.int .u8 k1.Part.Graph.To.2.1.2.2.2.1),.d (.int .u8 k1.Part.Graph.To.2.1.2.2.2.2),.d (.int .u8 k1.Part.Graph.To.2.2.1.1),.d (.int .u8 k1.Part.Graph.To.2.2.1.2.1),.d (.int .u8 k1.Part.Graph.To.2.2.1.2.2.1),.d (.int .u8 k1.Part.Graph.To.2.2.1.2.2.2.1),.d (.int .u8 k1.Part.Graph.To.2.2.1.2.2.2.2),.d (.int .u8 k1.Part.Graph.To.2.2.2.1.1),.d (.int .u8 k1.Part.Graph.To.2.2.2.1.2.1),.d (.int .u8 k1.Part.Graph.To.2.2.2.1.2.2.1),.d (.int .u8 k1.Part.Graph.To.2.2.2.1.2.2.2.1),.d (.int .u8 k1.Part.Graph.To.2.2.2.1.2.2.2.2),.d (.int .u8 k1.Part.Graph.To.2.2.2.2.1),.d (.int .u8 k1.Part.Graph.To.2.2.2.2.2.1),.d (.int .u8 k1.Part.Graph.To.2.2.2.2.2.2.1),.d (.int .u8 k1.Part.Graph.To.2.2.2.2.2.2.2.1),.d (.int .u8 k1.Part.Graph.To.2.2.2.2.2.2.2.2),.d (.int .u8 k1.zC),.d (.int .u8 k1.zB),.d (.int .u8 k1.zD)])),(3,.cells ([(l_ x6.zA.zJ),(i_ x6.zA.zM),(l_ x6.zA.zK),.d (.lst 3 (List.map Qa x6.zA.zL)),(l_ x6.zC),(l_ x6.zB),(l_ x6.zD),(i_ x6.Tick)])),(4,.cells ([(l_ r8.zE.Kept),(l_ r8.zE.zF),.d (.lst 4 (List.map Qg r8.zE.zG)),(i_ r8.Rounds),(l_ r8.zH.zJ),(i_ r8.zH.zM),(l_ r8.zH.zK),.d (.lst 3 (List.map Qa r8.zH.zL)),(l_ r8.zO),(l_ r8.zI)])),(40,.cells (Qz (fun (x:Int)=>[V.d (.int .i64 x)]) c20)),(42,.cells ([(l_ x6.zA.zJ),(i_ x6.zA.zM),(l_ x6.zA.zK),.d (.lst 3 (List.map Qa x6.zA.zL)),(l_ x6.zC),(l_ x6.zB),(l_ x6.zD),(i_ x6.Tick),.sl 1 (Γ.n0 + 40) 0 (Int.toNat x6.zA.zM) (Int.toNat x6.zA.zM),.nils 4,(i_ 0)]))]) M,Γ.n0 + 140⟩) h (by exact Ql ⟨(kPtr rfl),(kPtr rfl),(sm rfl),(sm rfl),(WkV.nilsO _),(kPtr rfl),(sm rfl),tv⟩ ⟨⟨_,rfl,rfl,(.same rfl)⟩,⟨_,rfl,rfl,(.same rfl)⟩,⟨_,rfl,rfl,(.same rfl)⟩,⟨_,rfl,rfl,(Qs fun _=>rfl)⟩,⟨_,rfl,rfl,(.cons (sm rfl) (.cons (sm rfl) (.cons (sm rfl) (.cons (sm rfl) (.cons (sm rfl) (.cons (sm rfl) (.cons (sm rfl) (.cons (sm rfl) (.cons (kSl rfl) (.cons (sm rfl) (.cons (sm rfl) .nil)))))))))))⟩,tv⟩ rfl) (fun k21 z h=>?_)
      ·obtain ⟨xset18,i19,c20⟩:=z
       replace h:_ = some _:=h
       refine Tr.seq (sr ((md rfl (md rfl (Rn.bin tv rfl rfl rfl (Rn.nil (toN ?_)))))))
       refine Tr.cond rfl (fun hb22=>?_) (fun hb22=>?_)
       ·replace h:=ifT hb22 h
        refine Tr.skip (toN ?_)
        refine Tr.cutB (fun ((xset32,c33):(List Int)×(List Int))=>⟨look [(3,.ptr (Γ.n0 + 3) 0),(4,.ptr (Γ.n0 + 4) 0),(6,(i_ x6.zA.zM)),(7,(i_ bits11)),(8,(o_ xset32)),(9,.ptr (Γ.n0 + 42) 0),(10,(i_ i19))],Qo Γ.n0 (bxs [(1,.cells ([.d (.int .u8 k1.Part.Events),.d (.int .u8 k1.Part.Graph.zM),.d (.int .u8 k1.Part.Graph.Marks),.d (.int .u8 k1.Part.Graph.To.1.1),.d (.int .u8 k1.Part.Graph.To.1.2.1),.d (.int .u8 k1.Part.Graph.To.1.2.2.1),.d (.int .u8 k1.Part.Graph.To.1.2.2.2.1),.d (.int .u8 k1.Part.Graph.To.1.2.2.2.2),.d (.int .u8 k1.Part.Graph.To.2.1.1),.d (.int .u8 k1.Part.Graph.To.2.1.2.1),.d (.int .u8 k1.Part.Graph.To.2.1.2.2.1),.d (.int .u8 k1.Part.Graph.To.2.1.2.2.2.1),.d (.int .u8 k1.Part.Graph.To.2.1.2.2.2.2),.d (.int .u8 k1.Part.Graph.To.2.2.1.1),.d (.int .u8 k1.Part.Graph.To.2.2.1.2.1),.d (.int .u8 k1.Part.Graph.To.2.2.1.2.2.1),.d (.int .u8 k1.Part.Graph.To.2.2.1.2.2.2.1),.d (.int .u8 k1.Part.Graph.To.2.2.1.2.2.2.2),.d (.int .u8 k1.Part.Graph.To.2.2.2.1.1),.d (.int .u8 k1.Part.Graph.To.2.2.2.1.2.1),.d (.int .u8 k1.Part.Graph.To.2.2.2.1.2.2.1),.d (.int .u8 k1.Part.Graph.To.2.2.2.1.2.2.2.1),.d (.int .u8 k1.Part.Graph.To.2.2.2.1.2.2.2.2),.d (.int .u8 k1.Part.Graph.To.2.2.2.2.1),.d (.int .u8 k1.Part.Graph.To.2.2.2.2.2.1),.d (.int .u8 k1.Part.Graph.To.2.2.2.2.2.2.1),.d (.int .u8 k1.Part.Graph.To.2.2.2.2.2.2.2.1),.d (.int .u8 k1.Part.Graph.To.2.2.2.2.2.2.2.2),.d (.int .u8 k1.zC),.d (.int .u8 k1.zB),.d (.int .u8 k1.zD)])),(3,.cells ([(l_ x6.zA.zJ),(i_ x6.zA.zM),(l_ x6.zA.zK),.d (.lst 3 (List.map Qa x6.zA.zL)),(l_ x6.zC),(l_ x6.zB),(l_ x6.zD),(i_ x6.Tick)])),(4,.cells ([(l_ r8.zE.Kept),(l_ r8.zE.zF),.d (.lst 4 (List.map Qg r8.zE.zG)),(i_ r8.Rounds),(l_ r8.zH.zJ),(i_ r8.zH.zM),(l_ r8.zH.zK),.d (.lst 3 (List.map Qa r8.zH.zL)),(l_ r8.zO),(l_ r8.zI)])),(40,.cells (Qz (fun (x:Int)=>[V.d (.int .i64 x)]) c33)),(42,.cells ([(l_ x6.zA.zJ),(i_ x6.zA.zM),(l_ x6.zA.zK),.d (.lst 3 (List.map Qa x6.zA.zL)),(l_ x6.zC),(l_ x6.zB),(l_ x6.zD),(i_ x6.Tick),.sl 1 (Γ.n0 + 40) 0 (Int.toNat x6.zA.zM) (Int.toNat x6.zA.zM),.nils 4,(i_ 0)]))]) M,Γ.n0 + 140⟩) h (fun z h=>?_) (fun z h=>?_)
        ·refine Tr.block (sr ((md rfl (md rfl ?_))))
         obtain ⟨s23,h24,h⟩:=bnd h
         refine Rn.bin tv rfl rfl (Qbbm h24) (Rn.bin tv rfl rfl rfl (Rn.bin tv rfl rfl rfl (Rn.nil (toN ?_))))
         refine Tr.cond rfl (fun hb25=>?_) (fun hb25=>?_)
         ·replace h:=bT hb25 h
          refine Tr.rgn (Rn.movTO tv rfl (md rfl (Rn.bslice (xs:=[(i_ i19)]) (cs:=[(i_ i19)]) tv rfl rfl rfl rfl ?_)))
          obtain ⟨x26,h27,h⟩:=bnd h
          refine Rn.app (e:=(eI .i64)) tv rfl rfl rfl (Qcy rfl rfl rfl) h27 rfl (Rn.movTO tv rfl (Rn.nil ?_))
          replace h:=si h; subst h
          exact Qh [55] ⟨(kPtr rfl),(kPtr rfl),(sm rfl),(sm rfl),(sm rfl),(kPtr rfl),(sm rfl),tv⟩ ⟨⟨_,rfl,rfl,(.same rfl)⟩,⟨_,rfl,rfl,(.same rfl)⟩,⟨_,rfl,rfl,(.same rfl)⟩,⟨_,rfl,rfl,(Qs fun _=>rfl)⟩,⟨_,rfl,rfl,(.cons (sm rfl) (.cons (sm rfl) (.cons (sm rfl) (.cons (sm rfl) (.cons (sm rfl) (.cons (sm rfl) (.cons (sm rfl) (.cons (sm rfl) (.cons (kSl rfl) (.cons (sm rfl) (.cons (sm rfl) .nil)))))))))))⟩,tv⟩ rfl
         ·replace h:=bF hb25 h
          refine Tr.rgn (Rn.mov (v:=.ptr (Γ.n0 + 42) 0) tv rfl (Rn.nilchkP tv rfl (Rn.fldP (o':=8) tv rfl rfl (Rn.load (v:=.sl 1 (Γ.n0 + 40) 0 (Int.toNat x6.zA.zM) (Int.toNat x6.zA.zM)) tv rfl (Qk rfl) rfl rfl (md rfl ?_)))))
          obtain ⟨⟨⟩,h29,h⟩:=bnd h
          refine Rn.idxA tv rfl rfl h29 ?_
          obtain ⟨x30,h31,h⟩:=bnd h
          refine Rn.storeA (g:=(fun (x:Int)=>[V.d (.int .i64 x)])) (v:=(i_ 1)) (fun _=>rfl) tv rfl rfl rfl rfl rfl h31 (Rn.nil ?_)
          replace h:=si h; subst h
          exact Qh [] ⟨(kPtr rfl),(kPtr rfl),(sm rfl),(sm rfl),(sm rfl),(kPtr rfl),(sm rfl),tv⟩ ⟨⟨_,rfl,rfl,(.same rfl)⟩,⟨_,rfl,rfl,(.same rfl)⟩,⟨_,rfl,rfl,(.same rfl)⟩,⟨_,rfl,rfl,(Qs fun _=>rfl)⟩,⟨_,rfl,rfl,(.cons (sm rfl) (.cons (sm rfl) (.cons (sm rfl) (.cons (sm rfl) (.cons (sm rfl) (.cons (sm rfl) (.cons (sm rfl) (.cons (sm rfl) (.cons (kSl rfl) (.cons (sm rfl) (.cons (sm rfl) .nil)))))))))))⟩,tv⟩ rfl
        ·obtain ⟨xset32,c33⟩:=z
         refine Tr.rgn (md rfl (Rn.bin tv rfl rfl rfl (md rfl (Rn.nil ?_))))
         exact ⟨_,h,(by exact Ql ⟨(kPtr rfl),(kPtr rfl),(sm rfl),(sm rfl),(sm rfl),(kPtr rfl),(sm rfl),tv⟩ ⟨⟨_,rfl,rfl,(.same rfl)⟩,⟨_,rfl,rfl,(.same rfl)⟩,⟨_,rfl,rfl,(.same rfl)⟩,⟨_,rfl,rfl,(Qs fun _=>rfl)⟩,⟨_,rfl,rfl,(.cons (sm rfl) (.cons (sm rfl) (.cons (sm rfl) (.cons (sm rfl) (.cons (sm rfl) (.cons (sm rfl) (.cons (sm rfl) (.cons (sm rfl) (.cons (kSl rfl) (.cons (sm rfl) (.cons (sm rfl) .nil)))))))))))⟩,tv⟩ rfl)⟩
       ·replace h:=ifF hb22 h
        refine Tr.exit ?_
        replace h:=si h; subst h
        exact Qh [] ⟨(kPtr rfl),(kPtr rfl),(sm rfl),(sm rfl),(sm rfl),(kPtr rfl),tv⟩ ⟨⟨_,rfl,rfl,(.same rfl)⟩,⟨_,rfl,rfl,(.same rfl)⟩,⟨_,rfl,rfl,(.same rfl)⟩,⟨_,rfl,rfl,(Qs fun _=>rfl)⟩,⟨_,rfl,rfl,(.cons (sm rfl) (.cons (sm rfl) (.cons (sm rfl) (.cons (sm rfl) (.cons (sm rfl) (.cons (sm rfl) (.cons (sm rfl) (.cons (sm rfl) (.cons (kSl rfl) (.cons (sm rfl) (.cons (sm rfl) .nil)))))))))))⟩,tv⟩ rfl
     ·obtain ⟨xset34,c35⟩:=z
      refine sr ((Rn.load (v:=.agg [(l_ x6.zA.zJ),(i_ x6.zA.zM),(l_ x6.zA.zK),.d (.lst 3 (List.map Qa x6.zA.zL)),(l_ x6.zC),(l_ x6.zB),(l_ x6.zD),(i_ x6.Tick)]) tv rfl (Qk rfl) rfl rfl (Rn.mov (v:=(l_ xset34)) tv rfl ?_)))
      obtain ⟨⟨r37,r38⟩,h36,h⟩:=bnd h
      refine Rn.call (args:=[.agg [(l_ x6.zA.zJ),(i_ x6.zA.zM),(l_ x6.zA.zK),.d (.lst 3 (List.map Qa x6.zA.zL)),(l_ x6.zC),(l_ x6.zB),(l_ x6.zD),(i_ x6.Tick)],(l_ xset34)]) tv rfl (H_timedsynthesis_Conforms _ _ _ h36) pc9 (Rn.mov (v:=.tup [(b_ r37),(i_ r38)]) tv rfl (Rn.ext (v:=(b_ r37)) (vs:=[(b_ r37),(i_ r38)]) tv rfl rfl rfl (Rn.ext (v:=(i_ r38)) (vs:=[(b_ r37),(i_ r38)]) tv rfl rfl rfl (md rfl (md rfl (nt ((Tr.seq ?_))))))))
      refine Tr.weak (by show WeakSt Γ _ ⟨look [(3,.ptr (Γ.n0 + 3) 0),(4,.ptr (Γ.n0 + 4) 0),(6,(i_ x6.zA.zM)),(7,(i_ bits11)),(8,(o_ xset34)),(9,.ptr (Γ.n0 + 42) 0),(11,(b_ r37)),(12,(i_ r38)),(63,.tup [(b_ r37),(i_ r38)]),(64,.agg [(l_ x6.zA.zJ),(i_ x6.zA.zM),(l_ x6.zA.zK),.d (.lst 3 (List.map Qa x6.zA.zL)),(l_ x6.zC),(l_ x6.zB),(l_ x6.zD),(i_ x6.Tick)]),(65,(l_ xset34)),(66,.tup [(b_ r37),(i_ r38)]),(67,(b_ r37)),(68,(i_ r38))],Qo Γ.n0 (bxs [(1,.cells ([.d (.int .u8 k1.Part.Events),.d (.int .u8 k1.Part.Graph.zM),.d (.int .u8 k1.Part.Graph.Marks),.d (.int .u8 k1.Part.Graph.To.1.1),.d (.int .u8 k1.Part.Graph.To.1.2.1),.d (.int .u8 k1.Part.Graph.To.1.2.2.1),.d (.int .u8 k1.Part.Graph.To.1.2.2.2.1),.d (.int .u8 k1.Part.Graph.To.1.2.2.2.2),.d (.int .u8 k1.Part.Graph.To.2.1.1),.d (.int .u8 k1.Part.Graph.To.2.1.2.1),.d (.int .u8 k1.Part.Graph.To.2.1.2.2.1),.d (.int .u8 k1.Part.Graph.To.2.1.2.2.2.1),.d (.int .u8 k1.Part.Graph.To.2.1.2.2.2.2),.d (.int .u8 k1.Part.Graph.To.2.2.1.1),.d (.int .u8 k1.Part.Graph.To.2.2.1.2.1),.d (.int .u8 k1.Part.Graph.To.2.2.1.2.2.1),.d (.int .u8 k1.Part.Graph.To.2.2.1.2.2.2.1),.d (.int .u8 k1.Part.Graph.To.2.2.1.2.2.2.2),.d (.int .u8 k1.Part.Graph.To.2.2.2.1.1),.d (.int .u8 k1.Part.Graph.To.2.2.2.1.2.1),.d (.int .u8 k1.Part.Graph.To.2.2.2.1.2.2.1),.d (.int .u8 k1.Part.Graph.To.2.2.2.1.2.2.2.1),.d (.int .u8 k1.Part.Graph.To.2.2.2.1.2.2.2.2),.d (.int .u8 k1.Part.Graph.To.2.2.2.2.1),.d (.int .u8 k1.Part.Graph.To.2.2.2.2.2.1),.d (.int .u8 k1.Part.Graph.To.2.2.2.2.2.2.1),.d (.int .u8 k1.Part.Graph.To.2.2.2.2.2.2.2.1),.d (.int .u8 k1.Part.Graph.To.2.2.2.2.2.2.2.2),.d (.int .u8 k1.zC),.d (.int .u8 k1.zB),.d (.int .u8 k1.zD)])),(3,.cells ([(l_ x6.zA.zJ),(i_ x6.zA.zM),(l_ x6.zA.zK),.d (.lst 3 (List.map Qa x6.zA.zL)),(l_ x6.zC),(l_ x6.zB),(l_ x6.zD),(i_ x6.Tick)])),(4,.cells ([(l_ r8.zE.Kept),(l_ r8.zE.zF),.d (.lst 4 (List.map Qg r8.zE.zG)),(i_ r8.Rounds),(l_ r8.zH.zJ),(i_ r8.zH.zM),(l_ r8.zH.zK),.d (.lst 3 (List.map Qa r8.zH.zL)),(l_ r8.zO),(l_ r8.zI)])),(40,.cells (Qz (fun (x:Int)=>[V.d (.int .i64 x)]) c35)),(42,.cells ([(l_ x6.zA.zJ),(i_ x6.zA.zM),(l_ x6.zA.zK),.d (.lst 3 (List.map Qa x6.zA.zL)),(l_ x6.zC),(l_ x6.zB),(l_ x6.zD),(i_ x6.Tick),.sl 1 (Γ.n0 + 40) 0 (Int.toNat x6.zA.zM) (Int.toNat x6.zA.zM),.own 4 (List.map Qg []),(i_ 0)]))]) M,Γ.n0 + 140⟩; exact Qh [] ⟨(kPtr rfl),(kPtr rfl),(sm rfl),(sm rfl),(sm rfl),(kPtr rfl),(sm rfl),(sm rfl),(sm rfl),(sm rfl),(sm rfl),(sm rfl),(sm rfl),(sm rfl),tv⟩ ⟨⟨_,rfl,rfl,(.same rfl)⟩,⟨_,rfl,rfl,(.same rfl)⟩,⟨_,rfl,rfl,(.same rfl)⟩,⟨_,rfl,rfl,(Qs fun _=>rfl)⟩,⟨_,rfl,rfl,(.cons (sm rfl) (.cons (sm rfl) (.cons (sm rfl) (.cons (sm rfl) (.cons (sm rfl) (.cons (sm rfl) (.cons (sm rfl) (.cons (sm rfl) (.cons (kSl rfl) (.cons (WkV.nilsO _) (.cons (sm rfl) .nil)))))))))))⟩,tv⟩ rfl) ?_
      refine Tr.rgn (Rn.mov (v:=.ptr (Γ.n0 + 42) 0) tv rfl ?_)
      obtain ⟨⟨⟩,hl39,h⟩:=bnd h
      obtain ⟨x41,h40,h⟩:=bnd h
      refine Rn.callM (args:=[.ptr (Γ.n0 + 42) 0]) tv rfl (fun M2 nb2 hn hx=>H_overseerlaw46_model_distances _ (Γ.n0 + 42) (Γ.n0 + 40) _ h40 M2 nb2 (by rw [Qdr hl39]; exact (hx _ _ (Qk rfl))) (hx _ _ (Qk rfl))) rfl pc9 ?_
      refine Rn.movTD tv rfl (nt ((sr ((md rfl (Rn.nil (toN ?_)))))))
      refine Tr.cutB (fun (want63:Bool)=>⟨look [(3,.ptr (Γ.n0 + 3) 0),(4,.ptr (Γ.n0 + 4) 0),(6,(i_ x6.zA.zM)),(7,(i_ bits11)),(8,(o_ xset34)),(11,(b_ r37)),(12,(i_ r38)),(14,(b_ want63))],Qo Γ.n0 (bxs [(1,.cells ([.d (.int .u8 k1.Part.Events),.d (.int .u8 k1.Part.Graph.zM),.d (.int .u8 k1.Part.Graph.Marks),.d (.int .u8 k1.Part.Graph.To.1.1),.d (.int .u8 k1.Part.Graph.To.1.2.1),.d (.int .u8 k1.Part.Graph.To.1.2.2.1),.d (.int .u8 k1.Part.Graph.To.1.2.2.2.1),.d (.int .u8 k1.Part.Graph.To.1.2.2.2.2),.d (.int .u8 k1.Part.Graph.To.2.1.1),.d (.int .u8 k1.Part.Graph.To.2.1.2.1),.d (.int .u8 k1.Part.Graph.To.2.1.2.2.1),.d (.int .u8 k1.Part.Graph.To.2.1.2.2.2.1),.d (.int .u8 k1.Part.Graph.To.2.1.2.2.2.2),.d (.int .u8 k1.Part.Graph.To.2.2.1.1),.d (.int .u8 k1.Part.Graph.To.2.2.1.2.1),.d (.int .u8 k1.Part.Graph.To.2.2.1.2.2.1),.d (.int .u8 k1.Part.Graph.To.2.2.1.2.2.2.1),.d (.int .u8 k1.Part.Graph.To.2.2.1.2.2.2.2),.d (.int .u8 k1.Part.Graph.To.2.2.2.1.1),.d (.int .u8 k1.Part.Graph.To.2.2.2.1.2.1),.d (.int .u8 k1.Part.Graph.To.2.2.2.1.2.2.1),.d (.int .u8 k1.Part.Graph.To.2.2.2.1.2.2.2.1),.d (.int .u8 k1.Part.Graph.To.2.2.2.1.2.2.2.2),.d (.int .u8 k1.Part.Graph.To.2.2.2.2.1),.d (.int .u8 k1.Part.Graph.To.2.2.2.2.2.1),.d (.int .u8 k1.Part.Graph.To.2.2.2.2.2.2.1),.d (.int .u8 k1.Part.Graph.To.2.2.2.2.2.2.2.1),.d (.int .u8 k1.Part.Graph.To.2.2.2.2.2.2.2.2),.d (.int .u8 k1.zC),.d (.int .u8 k1.zB),.d (.int .u8 k1.zD)])),(3,.cells ([(l_ x6.zA.zJ),(i_ x6.zA.zM),(l_ x6.zA.zK),.d (.lst 3 (List.map Qa x6.zA.zL)),(l_ x6.zC),(l_ x6.zB),(l_ x6.zD),(i_ x6.Tick)])),(4,.cells ([(l_ r8.zE.Kept),(l_ r8.zE.zF),.d (.lst 4 (List.map Qg r8.zE.zG)),(i_ r8.Rounds),(l_ r8.zH.zJ),(i_ r8.zH.zM),(l_ r8.zH.zK),.d (.lst 3 (List.map Qa r8.zH.zL)),(l_ r8.zO),(l_ r8.zI)])),(40,.cells (Qz (fun (x:Int)=>[V.d (.int .i64 x)]) c35)),(42,.cells ([(l_ x6.zA.zJ),(i_ x6.zA.zM),(l_ x6.zA.zK),.d (.lst 3 (List.map Qa x6.zA.zL)),(l_ x6.zC),(l_ x6.zB),(l_ x6.zD),(i_ x6.Tick),.sl 1 (Γ.n0 + 40) 0 (Int.toNat x6.zA.zM) (Int.toNat x6.zA.zM),.own 4 (List.map Qg []),(i_ 0)]))]) M,Γ.n0 + 140⟩) h (fun z h=>?_) (fun z h=>?_)
      ·refine sr ((md rfl (nt ((Tr.block ?_)))))
       refine Tr.loop (mk:=fun ((want42,i43):Bool×Int)=>⟨look [(3,.ptr (Γ.n0 + 3) 0),(4,.ptr (Γ.n0 + 4) 0),(6,(i_ x6.zA.zM)),(7,(i_ bits11)),(8,(o_ xset34)),(9,.ptr (Γ.n0 + 42) 0),(11,(b_ r37)),(12,(i_ r38)),(13,(l_ x41)),(14,(b_ want42)),(15,(i_ i43))],Qo Γ.n0 (bxs [(1,.cells ([.d (.int .u8 k1.Part.Events),.d (.int .u8 k1.Part.Graph.zM),.d (.int .u8 k1.Part.Graph.Marks),.d (.int .u8 k1.Part.Graph.To.1.1),.d (.int .u8 k1.Part.Graph.To.1.2.1),.d (.int .u8 k1.Part.Graph.To.1.2.2.1),.d (.int .u8 k1.Part.Graph.To.1.2.2.2.1),.d (.int .u8 k1.Part.Graph.To.1.2.2.2.2),.d (.int .u8 k1.Part.Graph.To.2.1.1),.d (.int .u8 k1.Part.Graph.To.2.1.2.1),.d (.int .u8 k1.Part.Graph.To.2.1.2.2.1),.d (.int .u8 k1.Part.Graph.To.2.1.2.2.2.1),.d (.int .u8 k1.Part.Graph.To.2.1.2.2.2.2),.d (.int .u8 k1.Part.Graph.To.2.2.1.1),.d (.int .u8 k1.Part.Graph.To.2.2.1.2.1),.d (.int .u8 k1.Part.Graph.To.2.2.1.2.2.1),.d (.int .u8 k1.Part.Graph.To.2.2.1.2.2.2.1),.d (.int .u8 k1.Part.Graph.To.2.2.1.2.2.2.2),.d (.int .u8 k1.Part.Graph.To.2.2.2.1.1),.d (.int .u8 k1.Part.Graph.To.2.2.2.1.2.1),.d (.int .u8 k1.Part.Graph.To.2.2.2.1.2.2.1),.d (.int .u8 k1.Part.Graph.To.2.2.2.1.2.2.2.1),.d (.int .u8 k1.Part.Graph.To.2.2.2.1.2.2.2.2),.d (.int .u8 k1.Part.Graph.To.2.2.2.2.1),.d (.int .u8 k1.Part.Graph.To.2.2.2.2.2.1),.d (.int .u8 k1.Part.Graph.To.2.2.2.2.2.2.1),.d (.int .u8 k1.Part.Graph.To.2.2.2.2.2.2.2.1),.d (.int .u8 k1.Part.Graph.To.2.2.2.2.2.2.2.2),.d (.int .u8 k1.zC),.d (.int .u8 k1.zB),.d (.int .u8 k1.zD)])),(3,.cells ([(l_ x6.zA.zJ),(i_ x6.zA.zM),(l_ x6.zA.zK),.d (.lst 3 (List.map Qa x6.zA.zL)),(l_ x6.zC),(l_ x6.zB),(l_ x6.zD),(i_ x6.Tick)])),(4,.cells ([(l_ r8.zE.Kept),(l_ r8.zE.zF),.d (.lst 4 (List.map Qg r8.zE.zG)),(i_ r8.Rounds),(l_ r8.zH.zJ),(i_ r8.zH.zM),(l_ r8.zH.zK),.d (.lst 3 (List.map Qa r8.zH.zL)),(l_ r8.zO),(l_ r8.zI)])),(40,.cells (Qz (fun (x:Int)=>[V.d (.int .i64 x)]) c35)),(42,.cells ([(l_ x6.zA.zJ),(i_ x6.zA.zM),(l_ x6.zA.zK),.d (.lst 3 (List.map Qa x6.zA.zL)),(l_ x6.zC),(l_ x6.zB),(l_ x6.zD),(i_ x6.Tick),.sl 1 (Γ.n0 + 40) 0 (Int.toNat x6.zA.zM) (Int.toNat x6.zA.zM),.own 4 (List.map Qg []),(i_ 0)]))]) M,Γ.n0 + 140⟩) h (by exact Ql ⟨(kPtr rfl),(kPtr rfl),(sm rfl),(sm rfl),(sm rfl),(kPtr rfl),(sm rfl),(sm rfl),(sm rfl),(sm rfl),(sm rfl),tv⟩ ⟨⟨_,rfl,rfl,(.same rfl)⟩,⟨_,rfl,rfl,(.same rfl)⟩,⟨_,rfl,rfl,(.same rfl)⟩,⟨_,rfl,rfl,(Qs fun _=>rfl)⟩,⟨_,rfl,rfl,(.cons (sm rfl) (.cons (sm rfl) (.cons (sm rfl) (.cons (sm rfl) (.cons (sm rfl) (.cons (sm rfl) (.cons (sm rfl) (.cons (sm rfl) (.cons (kSl rfl) (.cons (sm rfl) (.cons (sm rfl) .nil)))))))))))⟩,tv⟩ rfl) (fun k44 z h=>?_)
       ·obtain ⟨want42,i43⟩:=z
        replace h:_ = some _:=h
        refine Tr.seq (sr ((md rfl (md rfl (Rn.bin tv rfl rfl rfl (Rn.nil (toN ?_)))))))
        refine Tr.cond rfl (fun hb45=>?_) (fun hb45=>?_)
        ·replace h:=ifT hb45 h
         refine Tr.skip (toN ?_)
         refine Tr.cutB (fun (want62:Bool)=>⟨look [(3,.ptr (Γ.n0 + 3) 0),(4,.ptr (Γ.n0 + 4) 0),(6,(i_ x6.zA.zM)),(7,(i_ bits11)),(8,(o_ xset34)),(9,.ptr (Γ.n0 + 42) 0),(11,(b_ r37)),(12,(i_ r38)),(13,(l_ x41)),(14,(b_ want62)),(15,(i_ i43))],Qo Γ.n0 (bxs [(1,.cells ([.d (.int .u8 k1.Part.Events),.d (.int .u8 k1.Part.Graph.zM),.d (.int .u8 k1.Part.Graph.Marks),.d (.int .u8 k1.Part.Graph.To.1.1),.d (.int .u8 k1.Part.Graph.To.1.2.1),.d (.int .u8 k1.Part.Graph.To.1.2.2.1),.d (.int .u8 k1.Part.Graph.To.1.2.2.2.1),.d (.int .u8 k1.Part.Graph.To.1.2.2.2.2),.d (.int .u8 k1.Part.Graph.To.2.1.1),.d (.int .u8 k1.Part.Graph.To.2.1.2.1),.d (.int .u8 k1.Part.Graph.To.2.1.2.2.1),.d (.int .u8 k1.Part.Graph.To.2.1.2.2.2.1),.d (.int .u8 k1.Part.Graph.To.2.1.2.2.2.2),.d (.int .u8 k1.Part.Graph.To.2.2.1.1),.d (.int .u8 k1.Part.Graph.To.2.2.1.2.1),.d (.int .u8 k1.Part.Graph.To.2.2.1.2.2.1),.d (.int .u8 k1.Part.Graph.To.2.2.1.2.2.2.1),.d (.int .u8 k1.Part.Graph.To.2.2.1.2.2.2.2),.d (.int .u8 k1.Part.Graph.To.2.2.2.1.1),.d (.int .u8 k1.Part.Graph.To.2.2.2.1.2.1),.d (.int .u8 k1.Part.Graph.To.2.2.2.1.2.2.1),.d (.int .u8 k1.Part.Graph.To.2.2.2.1.2.2.2.1),.d (.int .u8 k1.Part.Graph.To.2.2.2.1.2.2.2.2),.d (.int .u8 k1.Part.Graph.To.2.2.2.2.1),.d (.int .u8 k1.Part.Graph.To.2.2.2.2.2.1),.d (.int .u8 k1.Part.Graph.To.2.2.2.2.2.2.1),.d (.int .u8 k1.Part.Graph.To.2.2.2.2.2.2.2.1),.d (.int .u8 k1.Part.Graph.To.2.2.2.2.2.2.2.2),.d (.int .u8 k1.zC),.d (.int .u8 k1.zB),.d (.int .u8 k1.zD)])),(3,.cells ([(l_ x6.zA.zJ),(i_ x6.zA.zM),(l_ x6.zA.zK),.d (.lst 3 (List.map Qa x6.zA.zL)),(l_ x6.zC),(l_ x6.zB),(l_ x6.zD),(i_ x6.Tick)])),(4,.cells ([(l_ r8.zE.Kept),(l_ r8.zE.zF),.d (.lst 4 (List.map Qg r8.zE.zG)),(i_ r8.Rounds),(l_ r8.zH.zJ),(i_ r8.zH.zM),(l_ r8.zH.zK),.d (.lst 3 (List.map Qa r8.zH.zL)),(l_ r8.zO),(l_ r8.zI)])),(40,.cells (Qz (fun (x:Int)=>[V.d (.int .i64 x)]) c35)),(42,.cells ([(l_ x6.zA.zJ),(i_ x6.zA.zM),(l_ x6.zA.zK),.d (.lst 3 (List.map Qa x6.zA.zL)),(l_ x6.zC),(l_ x6.zB),(l_ x6.zD),(i_ x6.Tick),.sl 1 (Γ.n0 + 40) 0 (Int.toNat x6.zA.zM) (Int.toNat x6.zA.zM),.own 4 (List.map Qg []),(i_ 0)]))]) M,Γ.n0 + 140⟩) h (fun z h=>?_) (fun z h=>?_)
         ·refine Tr.block (sr ((Rn.mov (v:=.ptr (Γ.n0 + 42) 0) tv rfl (md rfl ?_))))
          obtain ⟨⟨⟩,hl46,h⟩:=bnd h
          obtain ⟨⟨r48,r49⟩,h47,h⟩:=bnd h
          refine Rn.callM (args:=[.ptr (Γ.n0 + 42) 0,(i_ i43)]) tv rfl (fun M2 nb2 hn hx=>H_overseerlaw46_model_must _ _ (Γ.n0 + 42) (Γ.n0 + 40) _ h47 M2 nb2 (by rw [Qdr hl46]; exact (hx _ _ (Qk rfl))) (hx _ _ (Qk rfl))) rfl pc9 ?_
          refine Rn.mov (v:=.tup [(i_ r48),(i_ r49)]) tv rfl (Rn.ext (v:=(i_ r48)) (vs:=[(i_ r48),(i_ r49)]) tv rfl rfl rfl (Rn.ext (v:=(i_ r49)) (vs:=[(i_ r48),(i_ r49)]) tv rfl rfl rfl (md rfl (md rfl (nt ((Tr.rgn (md rfl (md rfl ?_)))))))))
          refine Qbo want42 (fun hb50=>?_) (fun hb50=>?_)
          ·replace h:=bT hb50 h
           refine Rn.mov (v:=.ptr (Γ.n0 + 42) 0) (gw rfl hb50) rfl (Rn.nilchkP (gw rfl hb50) rfl (Rn.fldP (o':=8) (gw rfl hb50) rfl rfl (Rn.load (v:=.sl 1 (Γ.n0 + 40) 0 (Int.toNat x6.zA.zM) (Int.toNat x6.zA.zM)) (gw rfl hb50) rfl (Qk rfl) rfl rfl (Rn.movD (gw rfl hb50) rfl ?_))))
           obtain ⟨⟨⟩,h52,h⟩:=bnd h
           refine Rn.idxA (gw rfl hb50) rfl rfl h52 ?_
           obtain ⟨x53,h54,h⟩:=bnd h
           refine Rn.loadA (g:=(fun (x:Int)=>[V.d (.int .i64 x)])) (v:=(i_ x53)) (f:=0) (fun _=>rfl) (gw rfl hb50) rfl (Qk rfl) h54 rfl rfl (Rn.bin (gw rfl hb50) rfl rfl rfl (Rn.movD (gw rfl hb50) rfl ?_))
           refine Qbo (decide (x53 > 0)) (fun hb55=>?_) (fun hb55=>?_)
           ·replace h:=ifT hb55 h
            refine Rn.sk (nw rfl hb55) (Rn.sk (nw rfl hb55) (Rn.sk (nw rfl hb55) (Rn.sk (nu rfl) (Rn.sk (nu rfl) (Rn.sk (nu rfl) (Rn.sk (nu rfl) (Rn.sk (nu rfl) (Rn.sk (nw rfl hb55) (Rn.sk (nw rfl hb55) (Rn.sk (nu rfl) (Rn.sk (nu rfl) (Rn.sk (nu rfl) (Rn.sk (nu rfl) (Rn.sk (nu rfl) (Rn.sk (nw rfl hb55) (Rn.pickT (v:=(b_ true)) (gw rfl hb50) rfl hb55 rfl (Rn.pickT (v:=(b_ true)) tv rfl hb50 rfl (md rfl (Rn.nil ?_)))))))))))))))))))
            replace h:=si h; subst h
            exact Qh [] ⟨(kPtr rfl),(kPtr rfl),(sm rfl),(sm rfl),(sm rfl),(kPtr rfl),(sm rfl),(sm rfl),(sm rfl),(sm rfl),(sm rfl),tv⟩ ⟨⟨_,rfl,rfl,(.same rfl)⟩,⟨_,rfl,rfl,(.same rfl)⟩,⟨_,rfl,rfl,(.same rfl)⟩,⟨_,rfl,rfl,(Qs fun _=>rfl)⟩,⟨_,rfl,rfl,(.cons (sm rfl) (.cons (sm rfl) (.cons (sm rfl) (.cons (sm rfl) (.cons (sm rfl) (.cons (sm rfl) (.cons (sm rfl) (.cons (sm rfl) (.cons (kSl rfl) (.cons (sm rfl) (.cons (sm rfl) .nil)))))))))))⟩,tv⟩ rfl
           ·replace h:=ifF hb55 h
            refine Rn.movD (gw rfl hb55) rfl (Rn.bin (gw rfl hb55) rfl rfl rfl (Rn.movD (gw rfl hb55) rfl ?_))
            refine Qbo (r48 == 0) (fun hb56=>?_) (fun hb56=>?_)
            ·replace h:=bT hb56 h
             refine Rn.fldP (o':=4) (gw rfl hb56) rfl rfl (Rn.load (v:=(l_ x6.zC)) (gw rfl hb56) rfl (Qk rfl) rfl rfl (Rn.movD (gw rfl hb56) rfl ?_))
             obtain ⟨x58,h57,h⟩:=bnd h
             refine Rn.call (args:=[(l_ x6.zC),(i_ i43)]) (gw rfl hb56) rfl (H_overseerlaw46_has _ _ _ h57) pc9 (Rn.un (gw rfl hb56) rfl rfl (Rn.pickT (v:=(b_ (!x58))) (gw rfl hb55) rfl hb56 rfl (Rn.movD (gw rfl hb55) rfl ?_)))
             refine Qbo x58 (fun hb59=>?_) (fun hb59=>?_)
             ·replace h:=bT hb59 h
              refine Rn.sk (nw rfl (nT hb59)) (Rn.sk (nw rfl (nT hb59)) (Rn.sk (nw rfl (nT hb59)) (Rn.sk (nw rfl (nT hb59)) (Rn.sk (nw rfl (nT hb59)) (Rn.pickF (v:=(b_ false)) (gw rfl hb55) rfl (nT hb59) rfl (Rn.pickF (v:=(b_ false)) (gw rfl hb50) rfl hb55 rfl (Rn.pickT (v:=(b_ false)) tv rfl hb50 rfl (md rfl (Rn.nil ?_)))))))))
              replace h:=si h; subst h
              exact Qh [] ⟨(kPtr rfl),(kPtr rfl),(sm rfl),(sm rfl),(sm rfl),(kPtr rfl),(sm rfl),(sm rfl),(sm rfl),(sm rfl),(sm rfl),tv⟩ ⟨⟨_,rfl,rfl,(.same rfl)⟩,⟨_,rfl,rfl,(.same rfl)⟩,⟨_,rfl,rfl,(.same rfl)⟩,⟨_,rfl,rfl,(Qs fun _=>rfl)⟩,⟨_,rfl,rfl,(.cons (sm rfl) (.cons (sm rfl) (.cons (sm rfl) (.cons (sm rfl) (.cons (sm rfl) (.cons (sm rfl) (.cons (sm rfl) (.cons (sm rfl) (.cons (kSl rfl) (.cons (sm rfl) (.cons (sm rfl) .nil)))))))))))⟩,tv⟩ rfl
             ·replace h:=bF hb59 h
              refine Rn.movD (gw rfl (nF hb59)) rfl (Rn.movD (gw rfl (nF hb59)) rfl ?_)
              obtain ⟨x60,h61,h⟩:=bnd h
              refine Rn.idxD (e:=(eI .i64)) (gw rfl (nF hb59)) rfl rfl h61 (Rn.loadC (x:=.int .i64 x60) (gw rfl (nF hb59)) rfl (Rn.bin (gw rfl (nF hb59)) rfl rfl rfl (Rn.pickT (v:=(b_ (decide (x60≥0)))) (gw rfl hb55) rfl (nF hb59) rfl (Rn.pickF (v:=(b_ (decide (x60≥0)))) (gw rfl hb50) rfl hb55 rfl (Rn.pickT (v:=(b_ (decide (x60≥0)))) tv rfl hb50 rfl (md rfl (Rn.nil ?_)))))))
              replace h:=si h; subst h
              exact Qh [] ⟨(kPtr rfl),(kPtr rfl),(sm rfl),(sm rfl),(sm rfl),(kPtr rfl),(sm rfl),(sm rfl),(sm rfl),(sm rfl),(sm rfl),tv⟩ ⟨⟨_,rfl,rfl,(.same rfl)⟩,⟨_,rfl,rfl,(.same rfl)⟩,⟨_,rfl,rfl,(.same rfl)⟩,⟨_,rfl,rfl,(Qs fun _=>rfl)⟩,⟨_,rfl,rfl,(.cons (sm rfl) (.cons (sm rfl) (.cons (sm rfl) (.cons (sm rfl) (.cons (sm rfl) (.cons (sm rfl) (.cons (sm rfl) (.cons (sm rfl) (.cons (kSl rfl) (.cons (sm rfl) (.cons (sm rfl) .nil)))))))))))⟩,tv⟩ rfl
            ·replace h:=bF hb56 h
             refine Rn.sk (nw rfl hb56) (Rn.sk (nw rfl hb56) (Rn.sk (nw rfl hb56) (Rn.sk (nw rfl hb56) (Rn.sk (nw rfl hb56) (Rn.pickF (v:=(b_ false)) (gw rfl hb55) rfl hb56 rfl (Rn.movD (gw rfl hb55) rfl (Rn.sk (nw (b:=false) rfl rfl) (Rn.sk (nw (b:=false) rfl rfl) (Rn.sk (nw (b:=false) rfl rfl) (Rn.sk (nw (b:=false) rfl rfl) (Rn.sk (nw (b:=false) rfl rfl) (Rn.pickF (v:=(b_ false)) (gw rfl hb55) rfl rfl rfl (Rn.pickF (v:=(b_ false)) (gw rfl hb50) rfl hb55 rfl (Rn.pickT (v:=(b_ false)) tv rfl hb50 rfl (md rfl (Rn.nil ?_))))))))))))))))
             replace h:=si h; subst h
             exact Qh [] ⟨(kPtr rfl),(kPtr rfl),(sm rfl),(sm rfl),(sm rfl),(kPtr rfl),(sm rfl),(sm rfl),(sm rfl),(sm rfl),(sm rfl),tv⟩ ⟨⟨_,rfl,rfl,(.same rfl)⟩,⟨_,rfl,rfl,(.same rfl)⟩,⟨_,rfl,rfl,(.same rfl)⟩,⟨_,rfl,rfl,(Qs fun _=>rfl)⟩,⟨_,rfl,rfl,(.cons (sm rfl) (.cons (sm rfl) (.cons (sm rfl) (.cons (sm rfl) (.cons (sm rfl) (.cons (sm rfl) (.cons (sm rfl) (.cons (sm rfl) (.cons (kSl rfl) (.cons (sm rfl) (.cons (sm rfl) .nil)))))))))))⟩,tv⟩ rfl
          ·replace h:=bF hb50 h
           refine Rn.sk (nw rfl hb50) (Rn.sk (nw rfl hb50) (Rn.sk (nw rfl hb50) (Rn.sk (nw rfl hb50) (Rn.sk (nw rfl hb50) (Rn.sk (nw rfl hb50) (Rn.sk (nw rfl hb50) (Rn.sk (nw rfl hb50) (Rn.sk (nw rfl hb50) (Rn.sk (nu rfl) (Rn.sk (nu rfl) (Rn.sk (nu rfl) (Rn.sk (nu rfl) (Rn.sk (nu rfl) (Rn.sk (nu rfl) (Rn.sk (nu rfl) (Rn.sk (nu rfl) (Rn.sk (nu rfl) (Rn.sk (nu rfl) (Rn.sk (nu rfl) (Rn.sk (nu rfl) (Rn.sk (nu rfl) (Rn.sk (nu rfl) (Rn.sk (nu rfl) (Rn.sk (nu rfl) (Rn.sk (nw rfl hb50) (Rn.pickF (v:=(b_ false)) tv rfl hb50 rfl (md rfl (Rn.nil ?_))))))))))))))))))))))))))))
           replace h:=si h; subst h
           exact Qh [] ⟨(kPtr rfl),(kPtr rfl),(sm rfl),(sm rfl),(sm rfl),(kPtr rfl),(sm rfl),(sm rfl),(sm rfl),(sm rfl),(sm rfl),tv⟩ ⟨⟨_,rfl,rfl,(.same rfl)⟩,⟨_,rfl,rfl,(.same rfl)⟩,⟨_,rfl,rfl,(.same rfl)⟩,⟨_,rfl,rfl,(Qs fun _=>rfl)⟩,⟨_,rfl,rfl,(.cons (sm rfl) (.cons (sm rfl) (.cons (sm rfl) (.cons (sm rfl) (.cons (sm rfl) (.cons (sm rfl) (.cons (sm rfl) (.cons (sm rfl) (.cons (kSl rfl) (.cons (sm rfl) (.cons (sm rfl) .nil)))))))))))⟩,tv⟩ rfl
         ·obtain ⟨want62,rfl⟩ : ∃ x,x = z:=⟨_,rfl⟩
          refine Tr.rgn (md rfl (Rn.bin tv rfl rfl rfl (md rfl (Rn.nil ?_))))
          exact ⟨_,h,(by exact Ql ⟨(kPtr rfl),(kPtr rfl),(sm rfl),(sm rfl),(sm rfl),(kPtr rfl),(sm rfl),(sm rfl),(sm rfl),(sm rfl),(sm rfl),tv⟩ ⟨⟨_,rfl,rfl,(.same rfl)⟩,⟨_,rfl,rfl,(.same rfl)⟩,⟨_,rfl,rfl,(.same rfl)⟩,⟨_,rfl,rfl,(Qs fun _=>rfl)⟩,⟨_,rfl,rfl,(.cons (sm rfl) (.cons (sm rfl) (.cons (sm rfl) (.cons (sm rfl) (.cons (sm rfl) (.cons (sm rfl) (.cons (sm rfl) (.cons (sm rfl) (.cons (kSl rfl) (.cons (sm rfl) (.cons (sm rfl) .nil)))))))))))⟩,tv⟩ rfl)⟩
        ·replace h:=ifF hb45 h
         refine Tr.exit ?_
         replace h:=si h; subst h
         exact Qh [] ⟨(kPtr rfl),(kPtr rfl),(sm rfl),(sm rfl),(sm rfl),(sm rfl),(sm rfl),(sm rfl),tv⟩ ⟨⟨_,rfl,rfl,(.same rfl)⟩,⟨_,rfl,rfl,(.same rfl)⟩,⟨_,rfl,rfl,(.same rfl)⟩,⟨_,rfl,rfl,(Qs fun _=>rfl)⟩,⟨_,rfl,rfl,(.cons (sm rfl) (.cons (sm rfl) (.cons (sm rfl) (.cons (sm rfl) (.cons (sm rfl) (.cons (sm rfl) (.cons (sm rfl) (.cons (sm rfl) (.cons (kSl rfl) (.cons (sm rfl) (.cons (sm rfl) .nil)))))))))))⟩,tv⟩ rfl
      ·obtain ⟨want63,rfl⟩ : ∃ x,x = z:=⟨_,rfl⟩
       refine Tr.cutB (fun (x76:Bool)=>⟨look [(3,.ptr (Γ.n0 + 3) 0),(4,.ptr (Γ.n0 + 4) 0),(6,(i_ x6.zA.zM)),(7,(i_ bits11)),(139,(b_ x76))],Qo Γ.n0 (bxs [(1,.cells ([.d (.int .u8 k1.Part.Events),.d (.int .u8 k1.Part.Graph.zM),.d (.int .u8 k1.Part.Graph.Marks),.d (.int .u8 k1.Part.Graph.To.1.1),.d (.int .u8 k1.Part.Graph.To.1.2.1),.d (.int .u8 k1.Part.Graph.To.1.2.2.1),.d (.int .u8 k1.Part.Graph.To.1.2.2.2.1),.d (.int .u8 k1.Part.Graph.To.1.2.2.2.2),.d (.int .u8 k1.Part.Graph.To.2.1.1),.d (.int .u8 k1.Part.Graph.To.2.1.2.1),.d (.int .u8 k1.Part.Graph.To.2.1.2.2.1),.d (.int .u8 k1.Part.Graph.To.2.1.2.2.2.1),.d (.int .u8 k1.Part.Graph.To.2.1.2.2.2.2),.d (.int .u8 k1.Part.Graph.To.2.2.1.1),.d (.int .u8 k1.Part.Graph.To.2.2.1.2.1),.d (.int .u8 k1.Part.Graph.To.2.2.1.2.2.1),.d (.int .u8 k1.Part.Graph.To.2.2.1.2.2.2.1),.d (.int .u8 k1.Part.Graph.To.2.2.1.2.2.2.2),.d (.int .u8 k1.Part.Graph.To.2.2.2.1.1),.d (.int .u8 k1.Part.Graph.To.2.2.2.1.2.1),.d (.int .u8 k1.Part.Graph.To.2.2.2.1.2.2.1),.d (.int .u8 k1.Part.Graph.To.2.2.2.1.2.2.2.1),.d (.int .u8 k1.Part.Graph.To.2.2.2.1.2.2.2.2),.d (.int .u8 k1.Part.Graph.To.2.2.2.2.1),.d (.int .u8 k1.Part.Graph.To.2.2.2.2.2.1),.d (.int .u8 k1.Part.Graph.To.2.2.2.2.2.2.1),.d (.int .u8 k1.Part.Graph.To.2.2.2.2.2.2.2.1),.d (.int .u8 k1.Part.Graph.To.2.2.2.2.2.2.2.2),.d (.int .u8 k1.zC),.d (.int .u8 k1.zB),.d (.int .u8 k1.zD)])),(3,.cells ([(l_ x6.zA.zJ),(i_ x6.zA.zM),(l_ x6.zA.zK),.d (.lst 3 (List.map Qa x6.zA.zL)),(l_ x6.zC),(l_ x6.zB),(l_ x6.zD),(i_ x6.Tick)])),(4,.cells ([(l_ r8.zE.Kept),(l_ r8.zE.zF),.d (.lst 4 (List.map Qg r8.zE.zG)),(i_ r8.Rounds),(l_ r8.zH.zJ),(i_ r8.zH.zM),(l_ r8.zH.zK),.d (.lst 3 (List.map Qa r8.zH.zL)),(l_ r8.zO),(l_ r8.zI)])),(40,.cells (Qz (fun (x:Int)=>[V.d (.int .i64 x)]) c35)),(42,.cells ([(l_ x6.zA.zJ),(i_ x6.zA.zM),(l_ x6.zA.zK),.d (.lst 3 (List.map Qa x6.zA.zL)),(l_ x6.zC),(l_ x6.zB),(l_ x6.zD),(i_ x6.Tick),.sl 1 (Γ.n0 + 40) 0 (Int.toNat x6.zA.zM) (Int.toNat x6.zA.zM),.own 4 (List.map Qg []),(i_ 0)]))]) M,Γ.n0 + 140⟩) h (fun z h=>?_) (fun z h=>?_)
       ·refine Tr.rgn (md rfl (Rn.bin tv rfl rfl rfl (md rfl ?_)))
        refine Qbo (r38 != 0) (fun hb64=>?_) (fun hb64=>?_)
        ·replace h:=bT hb64 h
         refine Rn.sk (nw rfl hb64) (Rn.sk (nw rfl hb64) (Rn.sk (nw rfl hb64) (Rn.pickT (v:=(b_ true)) tv rfl hb64 rfl (md rfl (Rn.sk (nw (b:=true) rfl rfl) (Rn.sk (nw (b:=true) rfl rfl) (Rn.sk (nu rfl) (Rn.sk (nu rfl) (Rn.sk (nu rfl) (Rn.sk (nu rfl) (Rn.sk (nu rfl) (Rn.sk (nu rfl) (Rn.sk (nw (b:=true) rfl rfl) (Rn.pickT (v:=(b_ true)) tv rfl rfl rfl (md rfl (Rn.sk (nw (b:=true) rfl rfl) (Rn.sk (nw (b:=true) rfl rfl) (Rn.sk (nw (b:=true) rfl rfl) (Rn.sk (nw (b:=true) rfl rfl) (Rn.sk (nw (b:=true) rfl rfl) (Rn.sk (nw (b:=true) rfl rfl) (Rn.sk (nu rfl) (Rn.sk (nu rfl) (Rn.sk (nw (b:=true) rfl rfl) (Rn.pickT (v:=(b_ true)) tv rfl rfl rfl (Rn.nil ?_))))))))))))))))))))))))))
         replace h:=si h; subst h
         exact Qh [] ⟨(kPtr rfl),(kPtr rfl),(sm rfl),(sm rfl),(sm rfl),tv⟩ ⟨⟨_,rfl,rfl,(.same rfl)⟩,⟨_,rfl,rfl,(.same rfl)⟩,⟨_,rfl,rfl,(.same rfl)⟩,⟨_,rfl,rfl,(Qs fun _=>rfl)⟩,⟨_,rfl,rfl,(.cons (sm rfl) (.cons (sm rfl) (.cons (sm rfl) (.cons (sm rfl) (.cons (sm rfl) (.cons (sm rfl) (.cons (sm rfl) (.cons (sm rfl) (.cons (kSl rfl) (.cons (sm rfl) (.cons (sm rfl) .nil)))))))))))⟩,tv⟩ rfl
        ·replace h:=bF hb64 h
         refine Rn.movD (gw rfl hb64) rfl (Rn.movD (gw rfl hb64) rfl (Rn.bin (gw rfl hb64) rfl rfl rfl (Rn.pickF (v:=(b_ (!(r37 == want63)))) tv rfl hb64 rfl (md rfl ?_))))
         refine Qbo (r37 == want63) (fun hb65=>?_) (fun hb65=>?_)
         ·replace h:=bT hb65 h
          refine Rn.movD (gw rfl (nT hb65)) rfl (Rn.movD (gw rfl (nT hb65)) rfl ?_)
          refine Qbo r37 (fun hb66=>?_) (fun hb66=>?_)
          ·replace h:=bT hb66 h
           refine Rn.mov (v:=(l_ xset34)) (gw rfl hb66) rfl (Rn.fldP (o':=0) (gw rfl hb66) rfl rfl (Rn.fldP (o':=0) (gw rfl hb66) rfl rfl (Rn.load (v:=(l_ r8.zE.Kept)) (gw rfl hb66) rfl (Qk rfl) rfl rfl ?_)))
           obtain ⟨x68,h67,h⟩:=bnd h
           refine Rn.call (args:=[(l_ xset34),(l_ r8.zE.Kept)]) (gw rfl hb66) rfl (H_alphabet_Subset _ _ _ h67) pc9 (Rn.un (gw rfl hb66) rfl rfl (Rn.pickT (v:=(b_ (!x68))) (gw rfl (nT hb65)) rfl hb66 rfl (Rn.pickF (v:=(b_ (!x68))) tv rfl (nT hb65) rfl (md rfl ?_))))
           refine Qbo x68 (fun hb69=>?_) (fun hb69=>?_)
           ·replace h:=bT hb69 h
            refine Rn.mov (v:=(l_ xset34)) (gw rfl (nT hb69)) rfl (Rn.fldP (o':=0) (gw rfl (nT hb69)) rfl rfl (Rn.fldP (o':=0) (gw rfl (nT hb69)) rfl rfl (Rn.load (v:=(l_ r8.zE.Kept)) (gw rfl (nT hb69)) rfl (Qk rfl) rfl rfl ?_)))
            obtain ⟨x71,h70,h⟩:=bnd h
            refine Rn.call (args:=[(l_ xset34),(l_ r8.zE.Kept)]) (gw rfl (nT hb69)) rfl (H_word_Equal _ _ _ h70) pc9 (Rn.movD (gw rfl (nT hb69)) rfl ?_)
            refine Qbo x71 (fun hb72=>?_) (fun hb72=>?_)
            ·replace h:=bT hb72 h
             refine Rn.movD (gw rfl hb72) rfl (Rn.un (gw rfl hb72) rfl rfl (Rn.pickT (v:=(b_ (!r37))) (gw rfl (nT hb69)) rfl hb72 rfl (Rn.pickF (v:=(b_ (!r37))) tv rfl (nT hb69) rfl (Rn.nil ?_))))
             replace h:=si h; subst h
             exact Qh [] ⟨(kPtr rfl),(kPtr rfl),(sm rfl),(sm rfl),(sm rfl),tv⟩ ⟨⟨_,rfl,rfl,(.same rfl)⟩,⟨_,rfl,rfl,(.same rfl)⟩,⟨_,rfl,rfl,(.same rfl)⟩,⟨_,rfl,rfl,(Qs fun _=>rfl)⟩,⟨_,rfl,rfl,(.cons (sm rfl) (.cons (sm rfl) (.cons (sm rfl) (.cons (sm rfl) (.cons (sm rfl) (.cons (sm rfl) (.cons (sm rfl) (.cons (sm rfl) (.cons (kSl rfl) (.cons (sm rfl) (.cons (sm rfl) .nil)))))))))))⟩,tv⟩ rfl
            ·replace h:=bF hb72 h
             refine Rn.sk (nw rfl hb72) (Rn.sk (nw rfl hb72) (Rn.pickF (v:=(b_ false)) (gw rfl (nT hb69)) rfl hb72 rfl (Rn.pickF (v:=(b_ false)) tv rfl (nT hb69) rfl (Rn.nil ?_))))
             replace h:=si h; subst h
             exact Qh [] ⟨(kPtr rfl),(kPtr rfl),(sm rfl),(sm rfl),(sm rfl),tv⟩ ⟨⟨_,rfl,rfl,(.same rfl)⟩,⟨_,rfl,rfl,(.same rfl)⟩,⟨_,rfl,rfl,(.same rfl)⟩,⟨_,rfl,rfl,(Qs fun _=>rfl)⟩,⟨_,rfl,rfl,(.cons (sm rfl) (.cons (sm rfl) (.cons (sm rfl) (.cons (sm rfl) (.cons (sm rfl) (.cons (sm rfl) (.cons (sm rfl) (.cons (sm rfl) (.cons (kSl rfl) (.cons (sm rfl) (.cons (sm rfl) .nil)))))))))))⟩,tv⟩ rfl
           ·replace h:=bF hb69 h
            refine Rn.sk (nw rfl (nF hb69)) (Rn.sk (nw rfl (nF hb69)) (Rn.sk (nw rfl (nF hb69)) (Rn.sk (nw rfl (nF hb69)) (Rn.sk (nw rfl (nF hb69)) (Rn.sk (nw rfl (nF hb69)) (Rn.sk (nu rfl) (Rn.sk (nu rfl) (Rn.sk (nw rfl (nF hb69)) (Rn.pickT (v:=(b_ true)) tv rfl (nF hb69) rfl (Rn.nil ?_))))))))))
            replace h:=si h; subst h
            exact Qh [] ⟨(kPtr rfl),(kPtr rfl),(sm rfl),(sm rfl),(sm rfl),tv⟩ ⟨⟨_,rfl,rfl,(.same rfl)⟩,⟨_,rfl,rfl,(.same rfl)⟩,⟨_,rfl,rfl,(.same rfl)⟩,⟨_,rfl,rfl,(Qs fun _=>rfl)⟩,⟨_,rfl,rfl,(.cons (sm rfl) (.cons (sm rfl) (.cons (sm rfl) (.cons (sm rfl) (.cons (sm rfl) (.cons (sm rfl) (.cons (sm rfl) (.cons (sm rfl) (.cons (kSl rfl) (.cons (sm rfl) (.cons (sm rfl) .nil)))))))))))⟩,tv⟩ rfl
          ·replace h:=bF hb66 h
           refine Rn.sk (nw rfl hb66) (Rn.sk (nw rfl hb66) (Rn.sk (nw rfl hb66) (Rn.sk (nw rfl hb66) (Rn.sk (nw rfl hb66) (Rn.sk (nw rfl hb66) (Rn.pickF (v:=(b_ false)) (gw rfl (nT hb65)) rfl hb66 rfl (Rn.pickF (v:=(b_ false)) tv rfl (nT hb65) rfl (md rfl (Rn.mov (v:=(l_ xset34)) (gw (b:=false) rfl rfl) rfl (Rn.fldP (o':=0) (gw (b:=false) rfl rfl) rfl rfl (Rn.fldP (o':=0) (gw (b:=false) rfl rfl) rfl rfl (Rn.load (v:=(l_ r8.zE.Kept)) (gw (b:=false) rfl rfl) rfl (Qk rfl) rfl rfl ?_))))))))))))
           obtain ⟨x74,h73,h⟩:=bnd h
           refine Rn.call (args:=[(l_ xset34),(l_ r8.zE.Kept)]) (gw (b:=false) rfl rfl) rfl (H_word_Equal _ _ _ h73) pc9 (Rn.movD (gw (b:=false) rfl rfl) rfl ?_)
           refine Qbo x74 (fun hb75=>?_) (fun hb75=>?_)
           ·replace h:=bT hb75 h
            refine Rn.movD (gw rfl hb75) rfl (Rn.un (gw rfl hb75) rfl rfl (Rn.pickT (v:=(b_ (!r37))) (gw (b:=false) rfl rfl) rfl hb75 rfl (Rn.pickF (v:=(b_ (!r37))) tv rfl rfl rfl (Rn.nil ?_))))
            replace h:=si h; subst h
            exact Qh [] ⟨(kPtr rfl),(kPtr rfl),(sm rfl),(sm rfl),(sm rfl),tv⟩ ⟨⟨_,rfl,rfl,(.same rfl)⟩,⟨_,rfl,rfl,(.same rfl)⟩,⟨_,rfl,rfl,(.same rfl)⟩,⟨_,rfl,rfl,(Qs fun _=>rfl)⟩,⟨_,rfl,rfl,(.cons (sm rfl) (.cons (sm rfl) (.cons (sm rfl) (.cons (sm rfl) (.cons (sm rfl) (.cons (sm rfl) (.cons (sm rfl) (.cons (sm rfl) (.cons (kSl rfl) (.cons (sm rfl) (.cons (sm rfl) .nil)))))))))))⟩,tv⟩ rfl
           ·replace h:=bF hb75 h
            refine Rn.sk (nw rfl hb75) (Rn.sk (nw rfl hb75) (Rn.pickF (v:=(b_ false)) (gw (b:=false) rfl rfl) rfl hb75 rfl (Rn.pickF (v:=(b_ false)) tv rfl rfl rfl (Rn.nil ?_))))
            replace h:=si h; subst h
            exact Qh [] ⟨(kPtr rfl),(kPtr rfl),(sm rfl),(sm rfl),(sm rfl),tv⟩ ⟨⟨_,rfl,rfl,(.same rfl)⟩,⟨_,rfl,rfl,(.same rfl)⟩,⟨_,rfl,rfl,(.same rfl)⟩,⟨_,rfl,rfl,(Qs fun _=>rfl)⟩,⟨_,rfl,rfl,(.cons (sm rfl) (.cons (sm rfl) (.cons (sm rfl) (.cons (sm rfl) (.cons (sm rfl) (.cons (sm rfl) (.cons (sm rfl) (.cons (sm rfl) (.cons (kSl rfl) (.cons (sm rfl) (.cons (sm rfl) .nil)))))))))))⟩,tv⟩ rfl
         ·replace h:=bF hb65 h
          refine Rn.sk (nw rfl (nF hb65)) (Rn.sk (nw rfl (nF hb65)) (Rn.sk (nu rfl) (Rn.sk (nu rfl) (Rn.sk (nu rfl) (Rn.sk (nu rfl) (Rn.sk (nu rfl) (Rn.sk (nu rfl) (Rn.sk (nw rfl (nF hb65)) (Rn.pickT (v:=(b_ true)) tv rfl (nF hb65) rfl (md rfl (Rn.sk (nw (b:=true) rfl rfl) (Rn.sk (nw (b:=true) rfl rfl) (Rn.sk (nw (b:=true) rfl rfl) (Rn.sk (nw (b:=true) rfl rfl) (Rn.sk (nw (b:=true) rfl rfl) (Rn.sk (nw (b:=true) rfl rfl) (Rn.sk (nu rfl) (Rn.sk (nu rfl) (Rn.sk (nw (b:=true) rfl rfl) (Rn.pickT (v:=(b_ true)) tv rfl rfl rfl (Rn.nil ?_)))))))))))))))))))))
          replace h:=si h; subst h
          exact Qh [] ⟨(kPtr rfl),(kPtr rfl),(sm rfl),(sm rfl),(sm rfl),tv⟩ ⟨⟨_,rfl,rfl,(.same rfl)⟩,⟨_,rfl,rfl,(.same rfl)⟩,⟨_,rfl,rfl,(.same rfl)⟩,⟨_,rfl,rfl,(Qs fun _=>rfl)⟩,⟨_,rfl,rfl,(.cons (sm rfl) (.cons (sm rfl) (.cons (sm rfl) (.cons (sm rfl) (.cons (sm rfl) (.cons (sm rfl) (.cons (sm rfl) (.cons (sm rfl) (.cons (kSl rfl) (.cons (sm rfl) (.cons (sm rfl) .nil)))))))))))⟩,tv⟩ rfl
       ·obtain ⟨x76,rfl⟩ : ∃ x,x = z:=⟨_,rfl⟩
        refine Tr.cond rfl (fun hb77=>?_) (fun hb77=>?_)
        ·replace h:=bT hb77 h
         refine sr ((md rfl (nt ((Tr.ret ?_)))))
         replace h:=si h; subst h
         exact ⟨.inr rfl,(b_ false),rfl,fun _ _ _ _ h=>h,tv,fun k hk=>Qi hk⟩
        ·replace h:=bF hb77 h
         refine Tr.skip (toN (Tr.rgn (md rfl (Rn.bin tv rfl rfl rfl (md rfl (Rn.nil ?_))))))
         exact ⟨_,h,(by exact Ql ⟨(kPtr rfl),(kPtr rfl),(sm rfl),(sm rfl),tv⟩ ⟨⟨_,rfl,rfl,(.same rfl)⟩,⟨_,rfl,rfl,(.same rfl)⟩,⟨_,rfl,rfl,(.same rfl)⟩,tv⟩ rfl)⟩
    ·replace h:=ifF hb15 h
     refine Tr.exit (toN (sr ((md rfl (nt ((Tr.ret ?_)))))))
     replace h:=si h; subst h
     exact ⟨.inr rfl,(b_ true),rfl,fun _ _ _ _ h=>h,tv,fun k hk=>Qi hk⟩
end Go.Abs
end
section
namespace Go.Proofs
open Go.Abs
set_option maxRecDepth 100000
theorem Qiq:Qx Try.prog 5 = some Qc7:=by kernel_rfl
theorem Q12:Qx Try.prog 9 = some Qig:=by kernel_rfl
theorem Q3u:Qx Try.prog 10 = some Qi4:=by kernel_rfl
theorem Qs6:Qx Try.prog 11 = some Qe6:=by kernel_rfl
theorem Qbc4:Qx Try.prog 16 = some Q1i:=by kernel_rfl
theorem Qvh:Qx Try.prog 17 = some Qfy:=by kernel_rfl
theorem Qvi:Qx Try.prog 20 = some Qf4:=by kernel_rfl
theorem Qmz:Qx Try.prog 21 = some Qd5:=by kernel_rfl
theorem Qth:Qx Try.prog 22 = some Qfp:=by kernel_rfl
theorem Q4w:Qx Try.prog 23 = some Qj1:=by kernel_rfl
theorem Q63:Qx Try.prog 24 = some Qmv:=by kernel_rfl
theorem Q0g:Qx Try.prog 30 = some Qgz:=by kernel_rfl
theorem Q4x:Qx Try.prog 31 = some Qjk:=by kernel_rfl
theorem Qti:Qx Try.prog 33 = some Qfn:=by kernel_rfl
theorem Q13:Qx Try.prog 35 = some Qic:=by kernel_rfl
theorem Q3v:Qx Try.prog 36 = some Qi2:=by kernel_rfl
theorem Q0h:Qx Try.prog 37 = some Qg0:=by kernel_rfl
theorem Qs7:Qx Try.prog 38 = some Qe5:=by kernel_rfl
theorem Qm0:Qx Try.prog 39 = some Qd2:=by kernel_rfl
theorem Qtj:Qx Try.prog 40 = some Qfl:=by kernel_rfl
theorem Qqa:Qx Try.prog 41 = some Qep:=by kernel_rfl
theorem Qmg:Qx Try.prog 42 = some Qdw:=by kernel_rfl
theorem Q52:Qx Try.prog 45 = some Qlo:=by kernel_rfl
theorem Q0i:Qx Try.prog 47 = some Qg2:=by kernel_rfl
theorem Qs8:Qx Try.prog 48 = some Qe8:=by kernel_rfl
theorem Q4y:Qx Try.prog 50 = some Qjl:=by kernel_rfl
theorem Qvj:Qx Try.prog 51 = some Qf2:=by kernel_rfl
theorem Qs9:Qx Try.prog 52 = some Qfa:=by kernel_rfl
theorem Qrn:Qx Try.prog 53 = some Qex:=by kernel_rfl
theorem Qro:Qx Try.prog 54 = some Qez:=by kernel_rfl
theorem Q7q:Qx Try.prog 55 = some Qp6:=by kernel_rfl
theorem Q64:Qx Try.prog 64 = some Qmq:=by kernel_rfl
theorem Q0j:Qx Try.prog 65 = some Qgy:=by kernel_rfl
theorem Q7r:Qx Try.prog 66 = some Qp4:=by kernel_rfl
theorem Q14:Qx Try.prog 69 = some Qih:=by kernel_rfl
theorem Qvk:Qx Try.prog 70 = some Qf0:=by kernel_rfl
theorem Qy0:Qx Try.prog 71 = some Qgm:=by kernel_rfl
theorem Q53:Qx Try.prog 72 = some Qlm:=by kernel_rfl
theorem Qvl:Qx Try.prog 74 = some Qfw:=by kernel_rfl
theorem Q0k:Qx Try.prog 75 = some Qg4:=by kernel_rfl
theorem Qoy:Qx Try.prog 76 = some Qee:=by kernel_rfl
theorem Qrp:Qx Try.prog 77 = some Qew:=by kernel_rfl
theorem Q54:Qx Try.prog 78 = some Ql0:=by kernel_rfl
theorem Q3w:Qx Try.prog 85 = some Qiz:=by kernel_rfl
theorem Q0l:Qx Try.prog 86 = some Qgx:=by kernel_rfl
theorem Q15:Qx Try.prog 89 = some Qij:=by kernel_rfl
theorem Q4z:Qx Try.prog 90 = some Qj0:=by kernel_rfl
theorem Q3x:Qx Try.prog 91 = some Qi0:=by kernel_rfl
theorem Q16:Qx Try.prog 92 = some Qil:=by kernel_rfl
theorem Q9r:Qx Try.prog 95 = some Qt9:=by kernel_rfl
theorem Q55:Qx Try.prog 96 = some Qla:=by kernel_rfl
theorem Qoz:Qx Try.prog 97 = some Qeg:=by kernel_rfl
theorem Q17:Qx Try.prog 98 = some Qie:=by kernel_rfl
theorem Q86:Qx Try.prog 115 = some Qr8:=by kernel_rfl
theorem Q56:Qx Try.prog 116 = some Qk8:=by kernel_rfl
end Go.Proofs
end
section
namespace Go.Abs
open Go Go.Sort
section plain
variable {β:Type}
def insB (lt:β→β→Bool) (x:β):List β→List β
 | []=>[x]
 | y :: ys=>if lt y x then y :: insB lt x ys else x :: y :: ys
def Q18 (lt:β→β→Bool):List β→List β
 | []=>[]
 | x :: xs=>insB lt x (Q18 lt xs)
theorem Q87 (lt:β→β→Bool) (x:β):∀ l,(insB lt x l).Perm (x :: l)
 | []=>.refl _
 | y :: ys=>by
  unfold insB; split
  ·exact ((Q87 lt x ys).cons y).trans (.swap x y ys)
  ·exact .refl _
theorem Qy1 (lt:β→β→Bool):∀ l,(Q18 lt l).Perm l
 | []=>.refl _
 | x :: xs=>(Q87 lt x _).trans ((Qy1 lt xs).cons x)
theorem Qy2 (lt:β→β→Bool) (l:List β):(Q18 lt l).length = l.length:=(Qy1 lt l).length_eq
theorem Q88 {lt:β→β→Bool} (h:SWO lt) (x:β):∀ l,l.Pairwise (fun a b=>lt b a = false)→(insB lt x l).Pairwise fun a b=>lt b a = false
 | [],_=>by simp [insB]
 | y :: ys,hl=>by
  obtain ⟨h1,h2⟩:=List.pairwise_cons.1 hl
  unfold insB; split
  ·rename_i hc
   refine List.pairwise_cons.2 ⟨fun z hz=>?_,Q88 h x ys h2⟩
   rcases List.mem_cons.1 ((Q87 lt x ys).mem_iff.1 hz) with rfl | hz
   ·cases hb:lt z y with
    | false=>rfl
    | true=>have:=h.trans _ _ _ hc hb; rw [h.irrefl] at this; cases this
   ·exact h1 z hz
  ·rename_i hc
   have hc:lt y x = false:=by cases h:lt y x <;> simp_all
   refine List.pairwise_cons.2 ⟨fun z hz=>?_,hl⟩
   rcases List.mem_cons.1 hz with rfl | hz
   ·exact hc
   ·exact h.ntrans _ _ _ (h1 z hz) hc
theorem Qy3 {lt:β→β→Bool} (h:SWO lt):∀ l,(Q18 lt l).Pairwise fun a b=>lt b a = false
 | []=>.nil
 | x :: xs=>Q88 h x _ (Qy3 h xs)
end plain
def Qi8 (a b:Int):Bool:=decide (a < b)
end Go.Abs
end
section
namespace Go.Abs
def Qblk (l:List Int):Option (List Int):=if l.length≤lim then some (Q18 Qi8 l) else none
end Go.Abs
end
section
namespace Go.Abs
open Go Go.Abs
set_option maxRecDepth 10000
set_option maxHeartbeats 4000000
def Qb4:Nat:=1099511627776
def Qo0:=Qb5
def Qf7:=Qb3 Qb4
def Qht:=Qct Qb4
def Qfs:=Qb6 Qht
def Qfi:=Qb1 Qfs Qb4
def Qir:=Qc5 Qf7 Qfi
def Qfb:=Qbb Qb4
def Qfj:=Qy
def Qta:=Qdf
def Qi9:=Qd6 Qta
def Qhu:=Qcn
def Qd7:=Qbp Qi9 Qhu Qb4
def Qbz:=Qj Qd7
def Qdz:=Q4 Qfb Qbz Qir Qfj Qb4
def Qd0:=Q5 Qbz Qb4
def Qeh:=Q7
def Qgo:=Qbv Qb4
def Qcp:=Qq Qgo
def Qei:=Q8 Qbz
def Qdp:=Qbe Qcp Qei
def Qcw:=Qv Qcp Qbz Qeh Qdp Qb4
def Qby:=Qp Qbz Qb4
def Qc0:=Qbj Qby Qcw Qb4
def Qeq:=Q9
def Qhv:=Qcu
def Qcx:=Q1 Qbz Qhv Qb4
def Qc1:=Qu Qdz Qd0 Qc0 Qby Qcp Qeq Qcx Qb4
def Qim:=Qbt
def Qmj:=Qcf Qfj Qblk Qb4
def Qja:=Qbx Qmj Qim
def Qhw:=Qcv Qb4
def Qo1:=Qcz Qhw
def Qin:=Qco Qc1 Qo1 Qja Qo0
def Qcq:=Qbd Qb4
def Qej:=Q3
def Qcj:=Qbc Qb4
def Qc2:=Qbk Qb4
def Qft:=Qb7 Qc2 Qcj Qb4
def Qek:=Qb8 Qb4
def Qd8:=Qbq Qej Qft Qc2 Qcj Qek Qb4
def Qf8:=Qch Qej Qd8 Qb4
def Qf9:=Qci Qcq Qf8 Qb4
def Qfc:=Qbl Qbz Qcw
def Qhq:=Qb2 Qb4
def Qd9:=Qbr Qhq
def Qea:=Qbs Qdz Qfb Qd0 Qby Qbz Qd9 Qfc Qb4
def Qdm:=Qt Qb4
def Qc8:=Q6 Qdm Qb4
def Qdq:=Qbf Qdm Qb4
def Qdy:=Qbn Qdm Qdq Qb4
def Qqb:=Qdh Qb4
def Ql3:=Qdd
def Qjc:=Qdi Qqb Ql3
def Qis:=Qc6 Qjc
def Qc9:=Qcb Qin Qf9 Qc1 Qo1 Qea Qc8 Qdy Qdm Qis Qb4
end Go.Abs
end
section
namespace Go.Abs
open Go Go.Sort Go.RowKit
theorem Qbd8 {P:Program} {f:FuncId} {ex:Array Value} {exV:List V} {sz nb:Nat} {M:Mem} (hb:Qmn P f = true) (hex:∀ g w us,RFs g w exV us→us = ex.toList)
  (h:∀ (p:Option Addr) (cap:Nat) (w:World),Calls P f (#[.slice p 0 cap] ++ ex) w fun e' w'=>e' = .returned (.tuple #[])∧w' = w) :
  ACalls P f (.d (.lst sz []) :: exV) M nb (.tup []) M nb:=by
 refine ⟨hb,Nat.le_refl _,fun w g us hm hMon hfresh hus hfl hons=>?_⟩
 obtain ⟨u0,us',rfl,hu0,hus'⟩:=hus
 have h1:=hex _ _ _ hus'
 subst h1
 have h2:∃ p cap,u0 = .slice p 0 cap:=by
  have:=RF_d.1 hu0
  obtain ⟨a,cap,rfl,_,_⟩:=this
  exact ⟨a,cap,rfl⟩
 obtain ⟨p,cap,rfl⟩:=h2
 have e1:(Value.slice p 0 cap :: ex.toList).toArray = #[.slice p 0 cap] ++ ex:=by apply Array.ext'; simp
 rw [e1]
 refine (h p cap w).mono ?_
 rintro e' w' ⟨rfl,rfl⟩
 exact ⟨_,g,rfl,hm,⟨[],rfl,rfl⟩,trivial,hMon,Fr.refl _ _ _⟩
theorem Qbd9 (l:List Int):(l.mergeSort fun x y=>decide (x≤y)) = Q18 Qi8 l:=by
 have hO:Go.Sort.SWO Qi8:=⟨fun x=>by simp [Qi8],fun x y z h1 h2=>by simp [Qi8] at *; omega,fun x y z h1 h2=>by simp [Qi8] at *; omega⟩
 refine List.Perm.eq_of_pairwise (le:=fun a b=>Qi8 b a = false) (fun a b _ _ h1 h2=>by simp [Qi8] at *; omega) ?_ (Qy3 hO l) ((List.mergeSort_perm _ _).trans (Qy1 _ l).symm)
 have:=List.pairwise_mergeSort (le:=fun x y:Int=>decide (x≤y)) (fun a b c h1 h2=>by simp at *; omega) (fun a b=>by simp; omega) l
 exact this.imp fun h=>by simp [Qi8] at *; omega
end Go.Abs
end
section
namespace Go.Abs
open Go Go.Sort Go.RowKit
theorem Q89 (xs:List Int):rowV (eI .i64) xs = xs.map (Value.int .i64):=by
 unfold rowV
 induction xs with
 | nil=>rfl
 | cons x xs ih=>simp only [List.map_cons,List.flatten_cons,List.map_append,ih]; rfl
theorem Qbht {P:Program} {c:Nat} (hb:Qmn P c = true)
  (hs:∀ (blk off cap:Nat) (zs:List Int) (w:World),Holds (Value.int .i64) w blk off zs.toArray→blk < w.heap.size→zs.length < 4611686018427387904 →
   Calls P c #[.slice (some ⟨blk,off,none⟩) zs.length cap] w fun e w'=>e = .returned (.tuple #[])∧∃ n os,w' = grow (putRow (Value.int .i64) (Sort.ahead w n) blk off (zs.mergeSort fun x y=>decide (x≤y)).toArray) os)
  (hnone:∀ (p:Option Addr) (cap:Nat) (w:World),Calls P c (#[.slice p 0 cap] ++ #[]) w fun e' w'=>e' = .returned (.tuple #[])∧w' = w) :
  RowK P c (eI .i64) 1 [] (fun l=>if l.length≤lim then some (Q18 Qi8 l) else none):=by
 have hrow:Qbli P c (eI .i64) #[] (fun xs=>Q18 Qi8 xs):=by
  intro blk cap xs w hcell hblk hsz
  refine Calls.mono (hs blk 0 cap xs w ?_ hblk hsz) ?_
  ·intro j hj
   have hj' : j < xs.length:=by simpa using hj
   have:=hcell j (by rw [Q89]; simpa using hj')
   rw [Q89] at this
   rw [Nat.zero_add]
   refine ⟨?_,this.2⟩
   rw [this.1,getElem!_pos xs.toArray j hj]
   simp [hj']
  ·rintro e w' ⟨rfl,n,os,rfl⟩
   refine ⟨rfl,n,os,?_⟩
   rw [Qbd9,Q89]
   congr 1
   unfold putRow
   congr 1
   funext c
   unfold putCells
   congr 1
   funext k x
   simp only [List.size_toArray,List.length_map]
   split
   ·rename_i h
    simp only [id]
    rw [getElem!_pos _ _ (by simp; omega),getElem!_pos _ _ (by simp; omega)]
    simp
   ·rfl
 intro xs ys h
 dsimp only at h
 split at h <;> cases h
 rename_i hl
 refine ⟨Qy2 _ _,fun h0=>?_,fun hl2 cap k0 M nb hM=>?_⟩
 ·subst h0
  exact ⟨rfl,fun M nb=>Qbd8 (ex:=#[]) (exV:=[]) hb (fun _ _ _ h=>h) hnone⟩
 ·exact Qbfw (e:=eI .i64) (fun _=>rfl) (fun _=>rfl) (fun xs=>Qy2 _ _) (ex:=#[]) (exV:=[]) (fun _ _ _ h=>h) hb hrow xs cap k0 M nb hM (by unfold lim at hl; omega)
end Go.Abs
end
section
namespace Go.Proofs
open Go.Shelf
def Try.laysSlM5_f56_ren:Go.Shelf.Ren:=⟨fun | 5=>73 | 8=>94 | 7=>93 | 19=>113 | 20=>114 | 10=>105 | 11=>106 | 12=>107 | 13=>108 | 14=>109 | 15=>110 | 16=>95 | 17=>111 | 18=>112 | 30=>120 | 31=>121 | 32=>122 | 33=>123 | 34=>124 | 35=>115 | 40=>133 | n=>n,fun | 23=>32 | 25=>3 | 3=>3 | 32=>142 | 22=>32 | 0=>0 | 44=>159 | 46=>161 | 4=>4 | 36=>153 | 35=>152 | 41=>127 | 5=>5 | 9=>9 | 53=>163 | 57=>167 | 63=>174 | 64=>66 | n=>n,fun | n=>n⟩
theorem Try.laysSlM5_f56:Go.Proofs.SlLaysM.n5 Try.prog Try.laysSlM5_f56_ren:={
 mixed:=by kernel_rfl
 f5:=⟨Try.f73.name,by decide,Try.func73.trans (congrArg some (by kernel_rfl))⟩
 f7:=⟨Try.f93.name,by decide,Try.func93.trans (congrArg some (by kernel_rfl))⟩
 f8:=Try.func94.trans (congrArg some (by kernel_rfl))
 f10:=⟨Try.f105.name,by decide,Try.func105.trans (congrArg some (by kernel_rfl))⟩
 f11:=⟨Try.f106.name,by decide,Try.func106.trans (congrArg some (by kernel_rfl))⟩
 f12:=⟨Try.f107.name,by decide,Try.func107.trans (congrArg some (by kernel_rfl))⟩
 f13:=⟨Try.f108.name,by decide,Try.func108.trans (congrArg some (by kernel_rfl))⟩
 f14:=⟨Try.f109.name,by decide,Try.func109.trans (congrArg some (by kernel_rfl))⟩
 f15:=⟨Try.f110.name,by decide,Try.func110.trans (congrArg some (by kernel_rfl))⟩
 f16:=⟨Try.f95.name,by decide,Try.func95.trans (congrArg some (by kernel_rfl))⟩
 f17:=⟨Try.f111.name,by decide,Try.func111.trans (congrArg some (by kernel_rfl))⟩
 f18:=⟨Try.f112.name,by decide,Try.func112.trans (congrArg some (by kernel_rfl))⟩
 f19:=Try.func113.trans (congrArg some (by kernel_rfl))
 f20:=Try.func114.trans (congrArg some (by kernel_rfl))
 f30:=⟨Try.f120.name,by decide,Try.func120.trans (congrArg some (by kernel_rfl))⟩
 f31:=Try.func121.trans (congrArg some (by kernel_rfl))
 f32:=Try.func122.trans (congrArg some (by kernel_rfl))
 f33:=⟨Try.f123.name,by decide,Try.func123.trans (congrArg some (by kernel_rfl))⟩
 f34:=⟨Try.f124.name,by decide,Try.func124.trans (congrArg some (by kernel_rfl))⟩
 f35:=⟨Try.f115.name,by decide,Try.func115.trans (congrArg some (by kernel_rfl))⟩
 f40:=⟨Try.f133.name,by decide,Try.func133.trans (congrArg some (by kernel_rfl))⟩
 t0:=Try.underlying0
 a0:=Try.isAgg0
 z0:=Try.sizeOf0
 v0:=Try.zeroValue0
 t3:=Try.underlying3
 a3:=Try.isAgg3
 z3:=Try.sizeOf3
 v3:=Try.zeroValue3
 t4:=Try.underlying4
 a4:=Try.isAgg4
 z4:=Try.sizeOf4
 v4:=Try.zeroValue4
 t5:=Try.underlying5
 a5:=Try.isAgg5
 z5:=Try.sizeOf5
 v5:=Try.zeroValue5
 t9:=Try.underlying9
 a9:=Try.isAgg9
 z9:=Try.sizeOf9
 v9:=Try.zeroValue9
 t22:=Try.underlying32
 a22:=Try.isAgg32
 z22:=Try.sizeOf32
 v22:=Try.zeroValue32
 t23:=Try.underlying32
 a23:=Try.isAgg32
 z23:=Try.sizeOf32
 v23:=Try.zeroValue32
 t25:=Try.underlying3
 a25:=Try.isAgg3
 z25:=Try.sizeOf3
 v25:=Try.zeroValue3
 t32:=Try.underlying142
 a32:=Try.isAgg142
 z32:=Try.sizeOf142
 v32:=Try.zeroValue142
 t35:=Try.underlying152
 a35:=Try.isAgg152
 z35:=Try.sizeOf152
 v35:=Try.zeroValue152
 t36:=Try.underlying153
 a36:=Try.isAgg153
 z36:=Try.sizeOf153
 v36:=Try.zeroValue153
 t41:=Try.underlying127
 a41:=Try.isAgg127
 z41:=Try.sizeOf127
 v41:=Try.zeroValue127
 t44:=Try.underlying159
 a44:=Try.isAgg159
 z44:=Try.sizeOf159
 v44:=Try.zeroValue159
 t46:=Try.underlying161
 a46:=Try.isAgg161
 z46:=Try.sizeOf161
 v46:=Try.zeroValue161
 t53:=Try.underlying163
 a53:=Try.isAgg163
 z53:=Try.sizeOf163
 v53:=Try.zeroValue163
 t57:=Try.underlying167
 a57:=Try.isAgg167
 z57:=Try.sizeOf167
 v57:=Try.zeroValue167
 t63:=Try.underlying174
 a63:=Try.isAgg174
 z63:=Try.sizeOf174
 v63:=Try.zeroValue174
 t64:=Try.underlying66
 a64:=Try.isAgg66
 z64:=Try.sizeOf66
 v64:=Try.zeroValue66 }
open Go.Sort Go.RowKit in
theorem Try.slices_Sort_int (blk off cap:Nat) (zs:List Int) (w:World) (hH:Holds (Value.int .i64) w blk off zs.toArray) (hblk:blk < w.heap.size) (hsz:zs.length < 4611686018427387904) :
  Calls Try.prog 73 #[.slice (some ⟨blk,off,none⟩) zs.length cap] w fun e w' =>
   e = .returned (.tuple #[])∧∃ n os,w' = grow (putRow (Value.int .i64) (Sort.ahead w n) blk off (zs.mergeSort fun x y=>decide (x≤y)).toArray) os:=AnyM.slices_Sort_int Try.laysSlM5_f56 blk off cap zs w hH hblk hsz
open Go.RowKit Go.Sort in
theorem Try.slices_Sort_int_none (p:Option Addr) (cap:Nat) (w:World) :
  Calls Try.prog 73 #[.slice p 0 cap] w fun e w'=>e = .returned (.tuple #[])∧w' = w:=AnyM.slices_Sort_int_none Try.laysSlM5_f56 p cap w
end Go.Proofs
end
section
namespace Go.Proofs
open Go.Abs
theorem Try.rowK73:Go.Abs.RowK Try.prog 73 (eI .i64) 1 [] Qblk :=
 Qbht (by kernel_rfl) Try.slices_Sort_int Try.slices_Sort_int_none
end Go.Proofs
end
section
namespace Go.Proofs
open Go Go.Abs
set_option maxRecDepth 10000
set_option maxHeartbeats 4000000
theorem Q0m:Qib Try.prog 35 Qo0:=Qxc Q13
theorem Q19:Qiy Try.prog 85 Qf7:=Qyw Q3w Qb4
theorem Q40:Qk7 Try.prog 116 Qht:=Q1x Q56 Qb4
theorem Q0n:Qid Try.prog 98 Qfs:=Qxd Q40 Q17
theorem Qy4:Qgw Try.prog 86 Qfi:=Qvb Q0n Q0l Qb4
theorem Q57:Qmp Try.prog 64 Qir:=Q3s Q19 Qy4 Q64
theorem Qqh:Qgk Try.prog 31 Qfb:=Q0c Q4x Qb4
theorem Ql4:Qff Try.prog 65 Qfj:=Qvc Q0j
theorem Q7s:Qr7 Try.prog 115 Qta:=Q51 Q86
theorem Q9a:Qt8 Try.prog 95 Qi9:=Q62 Q7s Q9r
theorem Q41:Qk9 Try.prog 96 Qhu:=Q1y Q55
theorem Qtk:Qfv Try.prog 74 Qd7:=Qri Q9a Q41 Qvl Qb4
theorem Qcs:Qb9 Try.prog 50 Qbz:=Q0d Qtk Q4y
theorem Ql5:Qfg Try.prog 30 Qdz:=Qvd Qqh Qcs Q57 Ql4 Q0g Qb4
theorem Ql6:Qfh Try.prog 37 Qd0:=Qve Qcs Q0h Qb4
theorem Qm1:Qed Try.prog 76 Qeh:=Ql1 Qoy
theorem Qxi:Qgl Try.prog 71 Qgo:=Qtg Qy0 Qb4
theorem Qfd:Qdb Try.prog 40 Qcp:=Qp7 Qxi Qtj
theorem Qm2:Qef Try.prog 97 Qei:=Ql2 Qcs Qoz
theorem Qqc:Qev Try.prog 77 Qdp:=Qmw Qfd Qm2 Qrp
theorem Qgr:Qdo Try.prog 53 Qcw:=Qmx Qfd Qcs Qm1 Qqc Qrn Qb4
theorem Qdx:Qcl Try.prog 39 Qby:=Qkz Qcs Qm0 Qb4
theorem Qrq:Qe4 Try.prog 38 Qc0:=Qou Qdx Qgr Qs7 Qb4
theorem Qo2:Qeo Try.prog 41 Qeq:=Qmf Qqa
theorem Q42:Qll Try.prog 72 Qhv:=Q1z Q53
theorem Ql7:Qdv Try.prog 42 Qcx:=Qj2 Qcs Q42 Qmg Qb4
theorem Qhx:Qds Try.prog 11 Qc1:=Qov Ql5 Ql6 Qrq Qdx Qfd Qo2 Ql7 Qs6 Qb4
theorem Qrr:Qe7 Try.prog 48 Qim:=Qow Qs8
theorem Qy5:Qg1 Try.prog 47 Qmj:=Qvf Ql4 Try.rowK73 Q0i Qb4
theorem Qtl:Qfx Try.prog 17 Qja:=Qrj Qy5 Qrr Qvh
theorem Q43:Qln Try.prog 45 Qhw:=Q10 Q52 Qb4
theorem Q58:Qtu Try.prog 16 Qo1:=Q85 Q43 Qbc4
theorem Q0o:Qif Try.prog 9 Qin:=Qxe Qhx Q58 Qtl Q0m Q12
theorem Qtb:Qfm Try.prog 33 Qcq:=Qp8 Qti Qb4
theorem Qmk:Qfr Try.prog 69 Qej:=Qxf Q14
theorem Qo3:Qf6 Try.prog 91 Qcj:=Qyx Q3x Qb4
theorem Qqi:Qgn Try.prog 90 Qc2:=Q0e Q4z Qb4
theorem Q0p:Qii Try.prog 89 Qft:=Qxg Qqi Qo3 Q15 Qb4
theorem Q0q:Qik Try.prog 92 Qek:=Qxh Q16 Qb4
theorem Qtm:Qfz Try.prog 70 Qd8:=Qrk Qmk Q0p Qqi Qo3 Q0q Qvk Qb4
theorem Q2a:Qi1 Try.prog 36 Qf8:=Qyy Qmk Qtm Q3v Qb4
theorem Q2b:Qi3 Try.prog 10 Qf9:=Qyz Qtb Q2a Q3u Qb4
theorem Qrs:Qe9 Try.prog 52 Qfc:=Qox Qcs Qgr Qs9
theorem Qy6:Qg3 Try.prog 75 Qhq:=Qvg Q0k Qb4
theorem Qtn:Qf1 Try.prog 51 Qd9:=Qrl Qy6 Qvj
theorem Qto:Qf3 Try.prog 20 Qea:=Qrm Ql5 Qqh Ql6 Qdx Qcs Qtn Qrs Qvi Qb4
theorem Qga:Qd3 Try.prog 23 Qdm:=Q0f Q4w Qb4
theorem Qmh:Qd4 Try.prog 21 Qc8:=Qk0 Qga Qmz Qb4
theorem Qqd:Qey Try.prog 54 Qdq:=Qmy Qga Qro Qb4
theorem Qtc:Qfo Try.prog 22 Qdy:=Qp9 Qga Qqd Qth Qb4
theorem Q65:Qp3 Try.prog 66 Qqb:=Q4u Q7r Qb4
theorem Q44:Qlz Try.prog 78 Ql3:=Q11 Q54
theorem Q66:Qp5 Try.prog 55 Qjc:=Q4v Q65 Q44 Q7q
theorem Q59:Qmu Try.prog 24 Qis:=Q3t Q66 Q63
theorem Q2c:Qen Try.prog 5 Qc9:=Qhp Q0o Q2b Qhx Q58 Qto Qmh Qtc Qga Q59 Qiq Qb4
end Go.Proofs
end
section
namespace Go.Abs
open Go Go.ChangeShapes Go.WideShapes Go.ChangeAt Go.RowKit
def live (w:World):Nat→Nat→Prop:=fun b o=>(w.cell? ⟨b,o,none⟩).isSome = true
def RDs (w:World):List D→List Value→Prop
 | [],vs=>vs = []
 | x :: xs,vs=>∃ u us,vs = u :: us∧RD (live w) w x u∧RDs w xs us
theorem Qbal {w:World}:∀ {xs ys:List D} {us vs:List Value},RDs w xs us→RDs w ys vs→RDs w (xs ++ ys) (us ++ vs)
 | [],ys,us,vs,h,k=>by simp only [RDs] at h; subst h; simpa using k
 | x :: xs,ys,us,vs,⟨u,us',e,r,h⟩,k=>by subst e; exact ⟨u,us' ++ vs,by simp,r,Qbal h k⟩
def RDat (w:World) (cs:List Value) (off:Nat) (xs:List D):Prop:=RDs w xs ((cs.drop off).take xs.length)
theorem RDat.app {w:World} {cs:List Value} {off:Nat} {xs ys:List D} (h:RDat w cs off xs) {n:Nat} (hn:n = off + xs.length) (k:RDat w cs n ys):RDat w cs off (xs ++ ys):=by
 subst hn
 have:=Qbal h k
 unfold RDat
 rw [List.length_append,List.take_add,List.drop_drop]
 exact this
theorem RDat.nil {w:World} {cs:List Value} {off:Nat}:RDat w cs off []:=by simp [RDat,RDs]
theorem RDat.all {w:World} {cs:List Value} {xs:List D} (h:RDat w cs 0 xs) (hl:cs.length = xs.length):RDs w xs cs:=by
 unfold RDat at h
 rw [List.drop_zero,← hl,List.take_length] at h
 exact h
def Q9s {α:Type} (P:Program) (t:TypeId) (e:α→List D) (wf:α→Prop):Prop :=
 ∀ {H:Type} {enc:TypeId×Value→H} {w:World} {base:Nat} {spare:Nat→Bool} {held:Bool} {fuel:Nat} {cs:List Value} {x:DataW H×List MemPlace},
  DataW.trod enc P w base spare held fuel t cs = some x→∃ a,wf a∧RDs w (e a) cs
def wfI (k:IntKind) (n:Int):Prop:=(Lit.int k n).wf = true
variable {P:Program} {t:TypeId}
theorem Qbc5 {k:IntKind} (ht:P.underlying t = some (.int k)):Q9s P t (fun n:Int=>[.int k n]) (wfI k):=by
 intro H enc w base spare held fuel cs x h
 obtain ⟨n,rfl,_,hw⟩:=DataW.trod_int ht h
 exact ⟨n,hw,_,_,rfl,by simp [RD],rfl⟩
theorem Qe0 {α:Type} {el:TypeId} {e:α→List D} {wf:α→Prop} {sz:Nat} (he:Q9s P el e wf) (hsz:P.cellsOf el = sz) (hlen:∀ a,(e a).length = sz)
  {H:Type} {enc:TypeId×Value→H} {w:World} {base:Nat} {spare:Nat→Bool} {held:Bool} {fuel off:Nat} {cs:List Value} {x:DataW H×List MemPlace}
  (h:DataW.trod enc P w base spare held fuel el ((cs.drop off).take (P.cellsOf el)) = some x):∃ a,wf a∧RDat w cs off (e a):=by
 obtain ⟨a,h1,h2⟩:=he h
 refine ⟨a,h1,?_⟩
 unfold RDat
 rw [hlen,← hsz]; exact h2
theorem Q9b {H:Type} {enc:TypeId×Value→H} {w:World} {base:Nat} {spare:Nat→Bool} {held:Bool} {fuel:Nat} {cs:List Value} {x:DataW H×List MemPlace} {fs:Array Field}
  (ht:P.underlying t = some (.struct fs)) (h:DataW.trod enc P w base spare held fuel t cs = some x) :
  cs.length = P.cellsOf t∧∃ n,∀ (i:Nat) (f:Field),fs[i]? = some f→∃ y,DataW.trod enc P w base spare held n f.type ((cs.drop f.offset).take (P.cellsOf f.type)) = some y:=by
 obtain ⟨xs,n,_,_,h1,h2,h3⟩:=DataW.trod_struct ht h
 refine ⟨h1,n,fun i f hf=>?_⟩
 have hi:i < fs.size:=(Array.getElem?_eq_some_iff.1 hf).1
 exact ⟨xs[i]'(by omega),by rw [h3 i f hf]; exact List.getElem?_eq_getElem (by omega)⟩
theorem Qbiv {H:Type} {enc:TypeId×Value→H} {w:World} {base:Nat} {spare:Nat→Bool} {held:Bool} {fuel:Nat} {cs:List Value} {x:DataW H×List MemPlace} {n:Nat} {el:TypeId}
  (ht:P.underlying t = some (.array n el)) (h:DataW.trod enc P w base spare held fuel t cs = some x) :
  cs.length = P.cellsOf t∧∃ m,∀ i,i < n→∃ y,DataW.trod enc P w base spare held m el ((cs.drop (i * P.cellsOf el)).take (P.cellsOf el)) = some y:=by
 obtain ⟨xs,m,_,_,h1,h2,h3⟩:=DataW.trod_array ht h
 exact ⟨h1,m,fun i hi=>⟨xs[i]'(by omega),by rw [h3 i hi]; exact List.getElem?_eq_getElem (by omega)⟩⟩
def Qbbt {α:Type} (P:Program) (t:TypeId) (v:α→V) (wf:α→Prop):Prop :=
 ∀ {H:Type} {enc:TypeId×Value→H} {w:World} {base b0:Nat} {spare:Nat→Bool} {held:Bool} {u:Value} {d:DataW H} {ps:List MemPlace},
  Value.okWide P w .any b0 t u→DataW.Trod enc P w base spare held t u d ps→∃ a,wf a∧RF ⟨fun _=>0,live w,fun _=>.ext⟩ w (v a) u
theorem Qbll {imm:Nat→Nat→Prop} {w:World} {x:D} {u:Value} (h:RD imm w x u):u.oneCell' = true:=by
 cases x with
 | int k n=>simp only [RD] at h; subst h; rfl
 | bool b=>simp only [RD] at h; subst h; rfl
 | str s=>simp only [RD] at h; subst h; rfl
 | lst sz l=>simp only [RD] at h; obtain ⟨a,cap,rfl,_⟩:=h; cases a <;> rfl
theorem Qbhu {w:World} {g:G} (hg:g.imm = live w):∀ {xs:List D} {us:List Value} {ℓ:Owner} {i:Nat},RDs w xs us→RVs g w (xs.map V.d) ℓ i us∧∀ u∈us,u.oneCell' = true
 | [],us,ℓ,i,h=>by simp only [RDs] at h; subst h; simp [RVs]
 | x :: xs,us,ℓ,i,⟨u,us',e,r,h⟩=>by
  subst e
  obtain ⟨h1,h2⟩:=Qbhu hg (ℓ:=ℓ) (i:=i + 1) h
  refine ⟨⟨u,us',rfl,by simpa [RV,hg] using r,h1⟩,fun v hv=>?_⟩
  rcases List.mem_cons.1 hv with rfl | hv
  ·exact Qbll r
  ·exact h2 v hv
theorem Qbkt {α:Type} {e:α→List D} {wf:α→Prop} (he:Q9s P t e wf) (hagg:(∃ fs,P.underlying t = some (.struct fs))∨∃ n el,P.underlying t = some (.array n el)):Qbbt P t (fun a=>.agg ((e a).map V.d)) wf:=by
 intro H enc w base b0 spare held u d ps hok hd
 obtain ⟨cs,rfl⟩ : ∃ cs,u = .agg cs:=by
  rcases hagg with ⟨fs,ht⟩ | ⟨n,el,ht⟩
  ·simp only [Value.okWide,ht] at hok; obtain ⟨cs,rfl,_⟩:=hok; exact ⟨cs,rfl⟩
  ·simp only [Value.okWide,ht] at hok; obtain ⟨cs,rfl,_⟩:=hok; exact ⟨cs,rfl⟩
 obtain ⟨fuel,hf⟩:=hd
 obtain ⟨a,h1,h2⟩:=he hf
 refine ⟨a,h1,fun ℓ=>?_⟩
 simp only [RV]
 obtain ⟨h3,h4⟩:=Qbhu (g:=⟨fun _=>0,live w,fun _=>.ext⟩) rfl (ℓ:=ℓ) (i:=0) h2
 exact ⟨cs.toList,by simp,h3,h4⟩
def Qblm (P:Program) (f:FuncId) (ts:List TypeId):Prop :=
 ∀ {H:Type} {enc:TypeId×Value→H} {w:World} {b0:Nat} {us:List Value} {ds:List (DataW H)} {ps:List MemPlace},
  (∀ (j:Nat) t u,ts[j]? = some t→us[j]? = some u→Value.okWide P w .any b0 t u)→DataW.TrodAll enc P w 0 (fun _=>true) true ts us ds ps →
  ∃ vs,RFs ⟨fun _=>0,live w,fun _=>.ext⟩ w vs us∧(∀ x∈vs,Flat x)∧V.lt.go 0 vs = true∧∀ M nb,ACalls P f vs M nb (.d (.bool true)) M nb
theorem Q6a (hl:laidOutB P = true) {W W' : World} {sp:Nat→Bool} {H:Type} {enc:TypeId×Value→H}:∀ {ts:List TypeId} {us:List Value} {ds:List (DataW H)} {ps:List MemPlace},
  (∀ t∈ts,P.readableRec t = true∧t < P.types.size)→DataW.TrodAll enc P W 0 (fun _=>true) true ts us ds ps→(∀ p∈ps,W.sameAt W' p)→(∀ p∈ps,sp p.block = true)→DataW.TrodAll enc P W' 0 sp true ts us ds ps
 | [],[],[],ps,_,h,_,_=>h
 | t :: ts,u :: us,d :: ds,ps,hr,⟨p,q,h1,h2,e⟩,hs,hp=>by
  subst e
  obtain ⟨r1,r2⟩:=hr t (by simp)
  exact ⟨p,q,WideElems.Trod_stays hl r1 r2 h1 (fun x hx=>hs x (by simp [hx])) (fun x hx=>hp x (by simp [hx])),Q6a hl (fun t ht=>hr t (by simp [ht])) h2 (fun x hx=>hs x (by simp [hx])) (fun x hx=>hp x (by simp [hx])),rfl⟩
 | [],[],_ :: _,_,_,h,_,_=>h.elim
 | [],_ :: _,_,_,_,h,_,_=>h.elim
 | _ :: _,[],_,_,_,h,_,_=>h.elim
 | _ :: _,_ :: _,[],_,_,h,_,_=>h.elim
theorem Q9c {W:World} {sp:Nat→Bool} {held:Bool} {base:Nat} {H:Type} {enc:TypeId×Value→H}:∀ {ts:List TypeId} {us:List Value} {ds:List (DataW H)} {ps:List MemPlace},
  DataW.TrodAll enc P W base sp held ts us ds ps→ds.length = ts.length∧us.length = ts.length
 | [],[],[],ps,h=>⟨rfl,rfl⟩
 | t :: ts,u :: us,d :: ds,ps,⟨p,q,h1,h2,e⟩=>by have:=Q9c h2; simp [this.1,this.2]
 | [],[],_ :: _,_,h=>h.elim
 | [],_ :: _,_,_,h=>h.elim
 | _ :: _,[],_,_,h=>h.elim
 | _ :: _,_ :: _,[],_,h=>h.elim
theorem Qbku {C:Checked} {f:FuncId} {fn:Func} {s:ChangeSpec} {conds:List PathCond} {bt:TypeId} {os:Os} {H:Type} {enc:TypeId×Value→H}
  (own:ownKnob C.prog.godebug = none) (started:os.Started) (noInit:C.prog.inits.idxOf? f = none) (hfn:C.prog.funcs[f]? = some fn)
  (witness:∃ (w:World) (tape:Tape) (i:Input),w.os = os∧(w.forCall tape i).Shaped C.prog∧i.vars = []∧Input.okWide C.prog (w.forCall tape i) .any w.heap.size f i ∧
   s.pre6 enc C.prog fn conds false (w.forCall tape i).memory i.args∧({}:Assume).holds C.prog (lone (Frame.enter C.prog f i.args .normal) [] (w.forCall tape i)))
  (hvars:s.vars = []) (hres:fn.resultTypes = #[bt]) (hbt:C.prog.underlying bt = some .bool)
  (hl:laidOutB C.prog = true) (hread:∀ t∈fn.params.toList,C.prog.readableRec t = true∧t < C.prog.types.size)
  (hspec:∀ ds:List (DataW H),ds.length = fn.params.size→s.fn H ds = { results:=[.lit (.bool true)],args:=ds })
  (law:Qblm C.prog f fn.params.toList) :
  ReturnsInHanded {} C os f .any (s.pre6 enc C.prog fn conds false) (s.post enc C.prog fn false true false false):=by
 refine returnsInHanded_of_change own started noInit hfn witness ?_
 intro W base args ds gs before hval hW hcnd _
 have hW':=hW
 obtain ⟨p,q,hA,hV,hps,hfz,hnd⟩:=hW
 rw [hvars] at hV
 obtain ⟨rfl,rfl⟩ : gs = []∧q = []:=by
  cases gs with
  | nil=>exact ⟨rfl,hV⟩
  | cons _ _=>exact hV.elim
 obtain ⟨vs,h1,h2,h3,h4⟩:=law (fun j t u ht hu=>hval j t u (by simpa using ht) (by simpa using hu)) hA
 obtain ⟨hb,_,h5⟩:=h4 (fun _=>none) 0
 have hlv:∀ b o,live W b o→b < W.heap.size:=by
  intro b o h
  simp only [live] at h
  obtain ⟨v,hv⟩:=Option.isSome_iff_exists.1 h
  unfold World.cell? at hv
  split at hv
  ·rename_i hh; exact (Array.getElem?_eq_some_iff.1 hh).1
  ·cases hv
 have hmr:MR ⟨fun _=>0,live W,fun _=>.ext⟩ W (fun _=>none) 0:=⟨fun k b h=>(by cases h),fun b o h=>⟨hlv b o h,fun k h=>by cases h⟩⟩
 have h6:=h5 W ⟨fun _=>0,live W,fun _=>.ext⟩ args.toList hmr (fun k cs h=>by cases h) (fun b=>⟨fun t p h=>(by cases h),fun p h=>(by cases h)⟩) h1 h2 (ons_mono (fun k hk=>absurd hk (Nat.not_lt_zero k)) _ (ons_lt vs h3))
 refine Calls.mono h6 fun e W' ⟨v,g',he,_,hr,_,_,hf⟩=>?_
 subst he
 have hv:v = .bool true:=by simpa [RV,RD] using hr
 subst hv
 have hbelow:Below W.heap.size W W':=⟨hf.os,hf.tape,hf.output,hf.size,fun k hk=>(hf.old k hk trivial).2.1⟩
 have hrl:(Value.bool true).resultList fn.resultTypes.size = [.bool true]:=by rw [hres]; rfl
 have hsp:s.fn H (ds ++ []) = { results:=[.lit (.bool true)],args:=ds }:=by
  rw [List.append_nil]
  exact hspec ds (by have:=(Q9c hA).1; simpa using this)
 have hlt:∀ p∈before,p.block < W.heap.size:=fun x hx=>hW'.lt x hx
 have hst:∀ sp:Nat→Bool,(∀ p∈before,sp p.block = true)→DataW.TrodAll enc C.prog W' 0 sp true fn.params.toList args.toList ds before:=by
  intro sp hsp'
  have e:p = before:=by rw [hps,List.append_nil]
  subst e
  exact Q6a hl hread hA (fun x hx=>hbelow.same (hlt x hx)) hsp'
 refine ⟨_,rfl,ds,[],before,[],before,[],hW',?_,?_,?_,World.keptBut_mono (fun p hp=>⟨hp,.inr (.inl hp)⟩) (hbelow.frame (· ∈ before)),fun h=>by cases h⟩
 ·rw [hsp,hrl,hres]
  exact ⟨[],[],⟨1,by simp [DataW.trod,Value.cells,hbt]⟩,rfl,rfl⟩
 ·rw [hsp]
  exact hst _ fun p hp=>by simpa using hlt p hp
 ·rw [hsp,hvars]; rfl
section
variable {α β γ δ:Type} {f:FuncId} {ta tb tc td:TypeId} {va:α→V} {vb:β→V} {vc:γ→V} {vd:δ→V} {wa:α→Prop} {wb:β→Prop} {wc:γ→Prop} {wd:δ→Prop}
theorem Qbl1 (ra:Qbbt P ta va wa) (fa:∀ a,(va a).dem = va a) (la:∀ a,(va a).lt 0 = true) (law:∀ a,wa a→∀ M nb,ACalls P f [va a] M nb (.d (.bool true)) M nb):Qblm P f [ta]:=by
 intro H enc w b0 us ds ps hok hT
 match us,ds,hT with
 | [u],[d],⟨p,q,h1,h2,e⟩ =>
  obtain ⟨a,ha,hra⟩:=ra (hok 0 _ _ rfl rfl) h1
  exact ⟨[va a],⟨u,[],rfl,hra,rfl⟩,fun x hx=>by rw [List.mem_singleton] at hx; subst hx; exact fa a,by simp [V.lt.go,la],law a ha⟩
 | [],_,hT=>cases ‹List (DataW H)› <;> exact hT.elim
 | [_],[],hT=>exact hT.elim
 | [_],_ :: _ :: _,⟨_,_,_,h2,_⟩=>exact h2.elim
 | _ :: _ :: _,[],hT=>exact hT.elim
 | _ :: _ :: _,[_],⟨_,_,_,h2,_⟩=>exact h2.elim
 | _ :: _ :: _,_ :: _ :: _,⟨_,_,_,h2,_⟩=>exact h2.elim
end
theorem Qbju {H:Type} {enc:TypeId×Value→H} {w:World} {base:Nat} {spare:Nat→Bool} {held:Bool} {fuel:Nat} {cs:List Value} {x:DataW H×List MemPlace} {n sz:Nat} {el:TypeId}
  (ht:P.underlying t = some (.array n el)) (hsz:P.cellsOf el = sz) (h:DataW.trod enc P w base spare held fuel t cs = some x) :
  cs.length = P.cellsOf t∧∃ m,∀ i,i < n→∃ y,DataW.trod enc P w base spare held m el ((cs.drop (i * sz)).take (P.cellsOf el)) = some y:=by
 obtain ⟨h1,m,h2⟩:=Qbiv ht h
 exact ⟨h1,m,fun i hi=>by have:=h2 i hi; rwa [show i * P.cellsOf el = i * sz from by rw [hsz]] at this⟩
end Go.Abs
end
