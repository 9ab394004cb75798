/-
  Part 5 of the proof: see the last text.
-/
import Derived.Test.YthlopjpofmcdmaaP4
import Derived.Test.YthlopjpofmcdmaaProg
import Derived.KernelRfl
import Derived.Sort.Statements
import Derived.Ground.SlgmProg
import Derived.Shelf.SortM.Plain
import Derived.Shelf.SortM.SortNone
import Derived.OpenShut
import Derived.ProofKit
import Derived.Carry
import GoSem.Claim
import GoSem.ClaimJoined
import Derived.JoinedTies
set_option linter.unusedVariables false
set_option linter.unusedSimpArgs false
set_option linter.unusedSectionVars false
section
namespace Go.Abs
open Go
set_option maxRecDepth 10000
set_option maxHeartbeats 4000000
theorem Qqc {P:Program} {c:Nat} {Qt:Int→Option Bool} {f_slices_Sort_int:List Int→Option (List Int)}
    (H_timedsynthesis_event:Qdr P 65 Qt)
    (H_slices_Sort_int:RowK P 73 (eI .i64) 1 [] f_slices_Sort_int) (hcf:Qy P c = some Qgb) (fuel:Nat):Qds P c (Qu Qt f_slices_Sort_int fuel):=by
 intro xfrom1 to2 ticks3 tick4 marked5 lead6 g7 cp8 r h
 intro M nb hc9 ho11 hf10
 refine Qqn hcf rfl M nb fun Γ hP hnt hn0 hM=>?_
 subst hP hn0
 refine Tr.init [(0,(i_ xfrom1)),(1,(i_ to2)),(2,(i_ ticks3)),(3,(i_ tick4)),(4,(b_ marked5)),(5,.clo g7 cp8)] rfl ?_
 unfold Qu at h
 unfold Qgb
 refine sr ((Rn.alloc tv rfl (md rfl (nt ((Tr.seq (Tr.block ?_)))))))
 refine Tr.cutB (fun (x22:Bool)=>⟨look [(0,(i_ xfrom1)),(1,(i_ to2)),(2,(i_ ticks3)),(3,(i_ tick4)),(4,(b_ marked5)),(5,.clo g7 cp8),(12,.ptr (Γ.n0 + 12) 0),(19,(b_ x22))],Qo Γ.n0 (bxs [(12,.cells ([.nils 1,(i_ 0),.nils 1,.nils 3]))]) M,Γ.n0 + 113⟩) h (fun z h=>?_) (fun z h=>?_)
 ·refine Tr.rgn (md rfl ?_)
  obtain ⟨x15,h14,h⟩:=bnd h
  refine Rn.call (args:=[(i_ xfrom1)]) tv rfl (H_timedsynthesis_event _ _ h14) pc9 (Rn.un tv rfl rfl (md rfl ?_))
  refine Qbg x15 (fun hb16=>?_) (fun hb16=>?_)
  ·replace h:=bT hb16 h
   refine Rn.movD (gw rfl (nT hb16)) rfl ?_
   obtain ⟨x18,h17,h⟩:=bnd h
   refine Rn.call (args:=[(i_ to2)]) (gw rfl (nT hb16)) rfl (H_timedsynthesis_event _ _ h17) pc9 (Rn.un (gw rfl (nT hb16)) rfl rfl (Rn.pickF (v:=(b_ (!x18))) tv rfl (nT hb16) rfl (md rfl ?_)))
   refine Qbg x18 (fun hb19=>?_) (fun hb19=>?_)
   ·replace h:=bT hb19 h
    refine Rn.movD (gw rfl (nT hb19)) rfl ?_
    obtain ⟨x21,h20,h⟩:=bnd h
    refine Rn.call (args:=[(i_ tick4)]) (gw rfl (nT hb19)) rfl (H_timedsynthesis_event _ _ h20) pc9 (Rn.un (gw rfl (nT hb19)) rfl rfl (Rn.pickF (v:=(b_ (!x21))) tv rfl (nT hb19) rfl (md rfl (Rn.nil ?_))))
    replace h:=si h; subst h
    exact Qj [] ⟨(sm rfl),(sm rfl),(sm rfl),(sm rfl),(sm rfl),(kFun hM ho11),(kPtr rfl),(sm rfl),tv⟩ ⟨⟨_,rfl,rfl,(.same rfl)⟩,tv⟩ rfl
   ·replace h:=bF hb19 h
    refine Rn.sk (nw rfl (nF hb19)) (Rn.sk (nw rfl (nF hb19)) (Rn.sk (nw rfl (nF hb19)) (Rn.pickT (v:=(b_ true)) tv rfl (nF hb19) rfl (md rfl (Rn.nil ?_)))))
    replace h:=si h; subst h
    exact Qj [] ⟨(sm rfl),(sm rfl),(sm rfl),(sm rfl),(sm rfl),(kFun hM ho11),(kPtr rfl),(sm rfl),tv⟩ ⟨⟨_,rfl,rfl,(.same rfl)⟩,tv⟩ rfl
  ·replace h:=bF hb16 h
   refine Rn.sk (nw rfl (nF hb16)) (Rn.sk (nw rfl (nF hb16)) (Rn.sk (nw rfl (nF hb16)) (Rn.pickT (v:=(b_ true)) tv rfl (nF hb16) rfl (md rfl (Rn.sk (nw (b:=true) rfl rfl) (Rn.sk (nw (b:=true) rfl rfl) (Rn.sk (nw (b:=true) rfl rfl) (Rn.pickT (v:=(b_ true)) tv rfl rfl rfl (md rfl (Rn.nil ?_))))))))))
   replace h:=si h; subst h
   exact Qj [] ⟨(sm rfl),(sm rfl),(sm rfl),(sm rfl),(sm rfl),(kFun hM ho11),(kPtr rfl),(sm rfl),tv⟩ ⟨⟨_,rfl,rfl,(.same rfl)⟩,tv⟩ rfl
 ·obtain ⟨x22,rfl⟩ : ∃ x,x = z:=⟨_,rfl⟩
  refine Tr.cond rfl (fun hb23=>?_) (fun hb23=>?_)
  ·replace h:=bT hb23 h
   refine sr ((Rn.build (v:=.agg [.nils 1,(i_ 0),.nils 1,.nils 3]) tv rfl (Rn.storeT (v:=.agg [.nils 1,(i_ 0),.nils 1,.nils 3]) (ds:=[.nils 1,(i_ 0),.nils 1,.nils 3]) (cs':=[.nils 1,(i_ 0),.nils 1,.nils 3]) tv rfl rfl rfl rfl rfl rfl rfl (md rfl (nt ((Tr.ret ?_)))))))
   replace h:=si h; subst h
   exact ⟨.inr rfl,.tup [.agg [.nils 1,(i_ 0),.nils 1,.nils 3],(i_ 2)],res2 (Qo0 rfl rfl rfl rfl) rfl,(WkV.tup (.cons (WkV.agg (.cons (WkV.nilsD _) (.cons (.same rfl) (.cons (WkV.nilsD _) (.cons (WkV.nilsD _) .nil))))) (.cons (.same rfl) .nil))).rd,⟨⟨tv,tv,tv,tv,tv⟩,tv,tv⟩,fun k hk=>Qf hk⟩
  ·replace h:=bF hb23 h
   refine Tr.cutB (fun (x26:Bool)=>⟨look [(0,(i_ xfrom1)),(1,(i_ to2)),(2,(i_ ticks3)),(3,(i_ tick4)),(4,(b_ marked5)),(5,.clo g7 cp8),(12,.ptr (Γ.n0 + 12) 0),(34,(b_ x26))],Qo Γ.n0 (bxs [(12,.cells ([.nils 1,(i_ 0),.nils 1,.nils 3]))]) M,Γ.n0 + 113⟩) h (fun z h=>?_) (fun z h=>?_)
   ·refine Tr.rgn (md rfl (md rfl (Rn.bin tv rfl rfl rfl (md rfl ?_))))
    refine Qbg (xfrom1 == to2) (fun hb24=>?_) (fun hb24=>?_)
    ·replace h:=bT hb24 h
     refine Rn.sk (nw rfl hb24) (Rn.sk (nw rfl hb24) (Rn.sk (nw rfl hb24) (Rn.pickT (v:=(b_ true)) tv rfl hb24 rfl (md rfl (Rn.sk (nw (b:=true) rfl rfl) (Rn.sk (nw (b:=true) rfl rfl) (Rn.sk (nw (b:=true) rfl rfl) (Rn.pickT (v:=(b_ true)) tv rfl rfl rfl (md rfl (Rn.nil ?_))))))))))
     replace h:=si h; subst h
     exact Qj [] ⟨(sm rfl),(sm rfl),(sm rfl),(sm rfl),(sm rfl),(kFun hM ho11),(kPtr rfl),(sm rfl),tv⟩ ⟨⟨_,rfl,rfl,(.same rfl)⟩,tv⟩ rfl
    ·replace h:=bF hb24 h
     refine Rn.movD (gw rfl hb24) rfl (Rn.movD (gw rfl hb24) rfl (Rn.bin (gw rfl hb24) rfl rfl rfl (Rn.pickF (v:=(b_ (xfrom1 == tick4))) tv rfl hb24 rfl (md rfl ?_))))
     refine Qbg (xfrom1 == tick4) (fun hb25=>?_) (fun hb25=>?_)
     ·replace h:=bT hb25 h
      refine Rn.sk (nw rfl hb25) (Rn.sk (nw rfl hb25) (Rn.sk (nw rfl hb25) (Rn.pickT (v:=(b_ true)) tv rfl hb25 rfl (md rfl (Rn.nil ?_)))))
      replace h:=si h; subst h
      exact Qj [] ⟨(sm rfl),(sm rfl),(sm rfl),(sm rfl),(sm rfl),(kFun hM ho11),(kPtr rfl),(sm rfl),tv⟩ ⟨⟨_,rfl,rfl,(.same rfl)⟩,tv⟩ rfl
     ·replace h:=bF hb25 h
      refine Rn.movD (gw rfl hb25) rfl (Rn.movD (gw rfl hb25) rfl (Rn.bin (gw rfl hb25) rfl rfl rfl (Rn.pickF (v:=(b_ (to2 == tick4))) tv rfl hb25 rfl (md rfl (Rn.nil ?_)))))
      replace h:=si h; subst h
      exact Qj [] ⟨(sm rfl),(sm rfl),(sm rfl),(sm rfl),(sm rfl),(kFun hM ho11),(kPtr rfl),(sm rfl),tv⟩ ⟨⟨_,rfl,rfl,(.same rfl)⟩,tv⟩ rfl
   ·obtain ⟨x26,rfl⟩ : ∃ x,x = z:=⟨_,rfl⟩
    refine Tr.cond rfl (fun hb27=>?_) (fun hb27=>?_)
    ·replace h:=bT hb27 h
     refine sr ((Rn.build (v:=.agg [.nils 1,(i_ 0),.nils 1,.nils 3]) tv rfl (Rn.storeT (v:=.agg [.nils 1,(i_ 0),.nils 1,.nils 3]) (ds:=[.nils 1,(i_ 0),.nils 1,.nils 3]) (cs':=[.nils 1,(i_ 0),.nils 1,.nils 3]) tv rfl rfl rfl rfl rfl rfl rfl (md rfl (nt ((Tr.ret ?_)))))))
     replace h:=si h; subst h
     exact ⟨.inr rfl,.tup [.agg [.nils 1,(i_ 0),.nils 1,.nils 3],(i_ 13)],res2 (Qo0 rfl rfl rfl rfl) rfl,(WkV.tup (.cons (WkV.agg (.cons (WkV.nilsD _) (.cons (.same rfl) (.cons (WkV.nilsD _) (.cons (WkV.nilsD _) .nil))))) (.cons (.same rfl) .nil))).rd,⟨⟨tv,tv,tv,tv,tv⟩,tv,tv⟩,fun k hk=>Qf hk⟩
    ·replace h:=bF hb27 h
     refine Tr.cutB (fun (x29:Bool)=>⟨look [(0,(i_ xfrom1)),(1,(i_ to2)),(2,(i_ ticks3)),(3,(i_ tick4)),(4,(b_ marked5)),(5,.clo g7 cp8),(12,.ptr (Γ.n0 + 12) 0),(49,(b_ x29))],Qo Γ.n0 (bxs [(12,.cells ([.nils 1,(i_ 0),.nils 1,.nils 3]))]) M,Γ.n0 + 113⟩) h (fun z h=>?_) (fun z h=>?_)
     ·refine Tr.rgn (md rfl (Rn.bin tv rfl rfl rfl (md rfl ?_)))
      refine Qbg (decide (ticks3 < 0)) (fun hb28=>?_) (fun hb28=>?_)
      ·replace h:=ifT hb28 h
       refine Rn.sk (nw rfl hb28) (Rn.sk (nw rfl hb28) (Rn.pickT (v:=(b_ true)) tv rfl hb28 rfl (md rfl (Rn.nil ?_))))
       replace h:=si h; subst h
       exact Qj [] ⟨(sm rfl),(sm rfl),(sm rfl),(sm rfl),(sm rfl),(kFun hM ho11),(kPtr rfl),(sm rfl),tv⟩ ⟨⟨_,rfl,rfl,(.same rfl)⟩,tv⟩ rfl
      ·replace h:=ifF hb28 h
       refine Rn.movD (gw rfl hb28) rfl (Rn.bin (gw rfl hb28) rfl rfl rfl (Rn.pickF (v:=(b_ (decide (ticks3 > 16)))) tv rfl hb28 rfl (md rfl (Rn.nil ?_))))
       replace h:=si h; subst h
       exact Qj [] ⟨(sm rfl),(sm rfl),(sm rfl),(sm rfl),(sm rfl),(kFun hM ho11),(kPtr rfl),(sm rfl),tv⟩ ⟨⟨_,rfl,rfl,(.same rfl)⟩,tv⟩ rfl
     ·obtain ⟨x29,rfl⟩ : ∃ x,x = z:=⟨_,rfl⟩
      refine Tr.cond rfl (fun hb30=>?_) (fun hb30=>?_)
      ·replace h:=bT hb30 h
       refine sr ((Rn.build (v:=.agg [.nils 1,(i_ 0),.nils 1,.nils 3]) tv rfl (Rn.storeT (v:=.agg [.nils 1,(i_ 0),.nils 1,.nils 3]) (ds:=[.nils 1,(i_ 0),.nils 1,.nils 3]) (cs':=[.nils 1,(i_ 0),.nils 1,.nils 3]) tv rfl rfl rfl rfl rfl rfl rfl (md rfl (nt ((Tr.ret ?_)))))))
       replace h:=si h; subst h
       exact ⟨.inr rfl,.tup [.agg [.nils 1,(i_ 0),.nils 1,.nils 3],(i_ 2)],res2 (Qo0 rfl rfl rfl rfl) rfl,(WkV.tup (.cons (WkV.agg (.cons (WkV.nilsD _) (.cons (.same rfl) (.cons (WkV.nilsD _) (.cons (WkV.nilsD _) .nil))))) (.cons (.same rfl) .nil))).rd,⟨⟨tv,tv,tv,tv,tv⟩,tv,tv⟩,fun k hk=>Qf hk⟩
      ·replace h:=bF hb30 h
       refine Tr.skip (toN (sr ((md rfl (md rfl (md rfl (Rn.bslice (xs:=[(i_ xfrom1),(i_ to2),(i_ tick4)]) (cs:=[(i_ xfrom1),(i_ to2),(i_ tick4)]) tv rfl rfl rfl rfl (md rfl (Rn.bin tv rfl rfl rfl (Rn.buildT (v:=.agg [.sl 1 (Γ.n0 + 60) 0 3 3,(i_ (IntKind.wrap .i64 (ticks3 + 2))),.nils 1,.nils 3]) tv rfl (Rn.alloc tv rfl (Rn.storeT (v:=.agg [.sl 1 (Γ.n0 + 60) 0 3 3,(i_ (IntKind.wrap .i64 (ticks3 + 2))),.nils 1,.nils 3]) (ds:=[.sl 1 (Γ.n0 + 60) 0 3 3,(i_ (IntKind.wrap .i64 (ticks3 + 2))),.nils 1,.nils 3]) (cs':=[.sl 1 (Γ.n0 + 60) 0 3 3,(i_ (IntKind.wrap .i64 (ticks3 + 2))),.nils 1,.nils 3]) tv rfl rfl rfl rfl rfl rfl rfl (nt ((sr ((Rn.fldP (o':=0) tv rfl rfl (Rn.load (v:=.sl 1 (Γ.n0 + 60) 0 3 3) tv rfl (Qm rfl) rfl rfl ?_))))))))))))))))))
       obtain ⟨row31,hs32,h⟩:=bnd h
       obtain ⟨hl33,hn34,hr35⟩:=H_slices_Sort_int _ _ hs32
       refine Rn.callRow (args:=[.sl 1 (Γ.n0 + 60) 0 3 3]) (t:=60) (cs:=Q0 (fun (x:Int)=>[V.d (.int .i64 x)]) [xfrom1,to2,tick4]) (cs':=Q0 (fun (x:Int)=>[V.d (.int .i64 x)]) row31) tv rfl rfl (fun M2 hM2=>Q64 (fun _=>rfl) hr35 (Nat.le_of_ble_eq_true rfl) hM2) rfl ?_
       refine Rn.nil (toN ?_)
       refine Tr.cutB (fun ((c71,c72,c73,a74,a75,a76):(List Int)×(List Int)×(List Qb)×Int×(List Int)×(List Qb))=>⟨look [(12,.ptr (Γ.n0 + 12) 0),(14,.ptr (Γ.n0 + 14) 0)],Qo Γ.n0 (bxs [(12,.cells ([(o_ c71),(i_ 0),(o_ c72),.own 3 (List.map Qa c73)])),(14,.cells ([.sl 1 (Γ.n0 + 60) 0 3 3,(i_ a74),(o_ a75),.own 3 (List.map Qa a76)])),(60,.cells (Q0 (fun (x:Int)=>[V.d (.int .i64 x)]) row31))]) M,Γ.n0 + 113⟩) h (fun z h=>?_) (fun z h=>?_)
       ·refine sr ((Rn.fldP (o':=1) tv rfl rfl (Rn.load (v:=(i_ (IntKind.wrap .i64 (ticks3 + 2)))) tv rfl (Qm rfl) rfl rfl (md rfl (nt ((Tr.block ?_)))))))
        refine Tr.loop (mk:=fun ((x36,x37,c38,c39,c40,a41,a42,a43):Int×Int×(List Int)×(List Int)×(List Qb)×Int×(List Int)×(List Qb))=>⟨look [(0,(i_ xfrom1)),(4,(b_ marked5)),(5,.clo g7 cp8),(12,.ptr (Γ.n0 + 12) 0),(14,.ptr (Γ.n0 + 14) 0),(68,(i_ x36)),(69,(i_ x37))],Qo Γ.n0 (bxs [(12,.cells ([(o_ c38),(i_ 0),(o_ c39),.own 3 (List.map Qa c40)])),(14,.cells ([.sl 1 (Γ.n0 + 60) 0 3 3,(i_ a41),(o_ a42),.own 3 (List.map Qa a43)])),(60,.cells (Q0 (fun (x:Int)=>[V.d (.int .i64 x)]) row31))]) M,Γ.n0 + 113⟩) h (by exact Qq ⟨(sm rfl),(sm rfl),(kFun hM ho11),(kPtr rfl),(kPtr rfl),(sm rfl),(sm rfl),tv⟩ ⟨⟨_,rfl,rfl,(.cons (WkV.nilsO _) (.cons (sm rfl) (.cons (WkV.nilsO _) (.cons (WkV.nilsO _) .nil))))⟩,⟨_,rfl,rfl,(.cons (kSl rfl) (.cons (sm rfl) (.cons (WkV.nilsO _) (.cons (WkV.nilsO _) .nil))))⟩,⟨_,rfl,rfl,(Qw fun _=>rfl)⟩,tv⟩ rfl) (fun k44 z h=>?_)
        ·obtain ⟨x36,x37,c38,c39,c40,a41,a42,a43⟩:=z
         replace h:_ = some _:=h
         refine sr ((Rn.bin tv rfl rfl rfl (nt ((Tr.seq ?_)))))
         refine Tr.cond rfl (fun hb45=>?_) (fun hb45=>?_)
         ·replace h:=ifT hb45 h
          refine Tr.skip (toN ?_)
          refine Tr.cutB (fun ((a69,a70):(List Int)×(List Qb))=>⟨look [(0,(i_ xfrom1)),(4,(b_ marked5)),(5,.clo g7 cp8),(12,.ptr (Γ.n0 + 12) 0),(14,.ptr (Γ.n0 + 14) 0),(68,(i_ x36)),(69,(i_ x37))],Qo Γ.n0 (bxs [(12,.cells ([(o_ c38),(i_ 0),(o_ c39),.own 3 (List.map Qa c40)])),(14,.cells ([.sl 1 (Γ.n0 + 60) 0 3 3,(i_ a41),(o_ a69),.own 3 (List.map Qa a70)])),(60,.cells (Q0 (fun (x:Int)=>[V.d (.int .i64 x)]) row31))]) M,Γ.n0 + 113⟩) h (fun z h=>?_) (fun z h=>?_)
          ·refine Tr.block (sr ((md rfl (md rfl (Rn.nil (toN ?_))))))
           refine Tr.cutB (fun (a51:List Int)=>⟨look [(0,(i_ xfrom1)),(4,(b_ marked5)),(5,.clo g7 cp8),(12,.ptr (Γ.n0 + 12) 0),(14,.ptr (Γ.n0 + 14) 0),(15,(i_ x37)),(68,(i_ x36)),(69,(i_ x37))],Qo Γ.n0 (bxs [(12,.cells ([(o_ c38),(i_ 0),(o_ c39),.own 3 (List.map Qa c40)])),(14,.cells ([.sl 1 (Γ.n0 + 60) 0 3 3,(i_ a41),(o_ a51),.own 3 (List.map Qa a43)])),(60,.cells (Q0 (fun (x:Int)=>[V.d (.int .i64 x)]) row31))]) M,Γ.n0 + 113⟩) h (fun z h=>?_) (fun z h=>?_)
           ·refine Tr.cutB (fun (x47:Bool)=>⟨look [(0,(i_ xfrom1)),(4,(b_ marked5)),(5,.clo g7 cp8),(12,.ptr (Γ.n0 + 12) 0),(14,.ptr (Γ.n0 + 14) 0),(15,(i_ x37)),(68,(i_ x36)),(69,(i_ x37)),(76,(b_ x47))],Qo Γ.n0 (bxs [(12,.cells ([(o_ c38),(i_ 0),(o_ c39),.own 3 (List.map Qa c40)])),(14,.cells ([.sl 1 (Γ.n0 + 60) 0 3 3,(i_ a41),(o_ a42),.own 3 (List.map Qa a43)])),(60,.cells (Q0 (fun (x:Int)=>[V.d (.int .i64 x)]) row31))]) M,Γ.n0 + 113⟩) h (fun z h=>?_) (fun z h=>?_)
            ·refine Tr.rgn (md rfl (Rn.bin tv rfl rfl rfl (md rfl ?_)))
             refine Qbg (x37 == 0) (fun hb46=>?_) (fun hb46=>?_)
             ·replace h:=bT hb46 h
              refine Rn.sk (nw rfl hb46) (Rn.pickT (v:=(b_ true)) tv rfl hb46 rfl (Rn.nil ?_))
              replace h:=si h; subst h
              exact Qj [] ⟨(sm rfl),(sm rfl),(kFun hM ho11),(kPtr rfl),(kPtr rfl),(sm rfl),(sm rfl),(sm rfl),(sm rfl),tv⟩ ⟨⟨_,rfl,rfl,(.same rfl)⟩,⟨_,rfl,rfl,(.cons (kSl rfl) (.cons (sm rfl) (.cons (sm rfl) (.cons (sm rfl) .nil))))⟩,⟨_,rfl,rfl,(Qw fun _=>rfl)⟩,tv⟩ rfl
             ·replace h:=bF hb46 h
              refine Rn.movD (gw rfl hb46) rfl (Rn.pickF (v:=(b_ marked5)) tv rfl hb46 rfl (Rn.nil ?_))
              replace h:=si h; subst h
              exact Qj [] ⟨(sm rfl),(sm rfl),(kFun hM ho11),(kPtr rfl),(kPtr rfl),(sm rfl),(sm rfl),(sm rfl),(sm rfl),tv⟩ ⟨⟨_,rfl,rfl,(.same rfl)⟩,⟨_,rfl,rfl,(.cons (kSl rfl) (.cons (sm rfl) (.cons (sm rfl) (.cons (sm rfl) .nil))))⟩,⟨_,rfl,rfl,(Qw fun _=>rfl)⟩,tv⟩ rfl
            ·obtain ⟨x47,rfl⟩ : ∃ x,x = z:=⟨_,rfl⟩
             refine Tr.cond rfl (fun hb48=>?_) (fun hb48=>?_)
             ·replace h:=bT hb48 h
              refine Tr.rgn (Rn.fldP (o':=2) tv rfl rfl (Rn.loadT (cs':=[.sl 1 (Γ.n0 + 60) 0 3 3,(i_ a41),(l_ a42),.own 3 (List.map Qa a43)]) tv rfl rfl rfl rfl (md rfl (Rn.bslice (xs:=[(i_ x37)]) (cs:=[(i_ x37)]) tv rfl rfl rfl rfl ?_))))
              obtain ⟨x49,h50,h⟩:=bnd h
              refine Rn.app (e:=(eI .i64)) tv rfl rfl rfl (Qcp rfl rfl rfl) h50 rfl (Rn.fldP (o':=2) tv rfl rfl (Rn.storeO (cs':=[.sl 1 (Γ.n0 + 60) 0 3 3,(i_ a41),(o_ x49),.own 3 (List.map Qa a43)]) tv rfl rfl rfl rfl rfl (Rn.nil ?_)))
              replace h:=si h; subst h
              exact Qj [80] ⟨(sm rfl),(sm rfl),(kFun hM ho11),(kPtr rfl),(kPtr rfl),(sm rfl),(sm rfl),(sm rfl),tv⟩ ⟨⟨_,rfl,rfl,(.same rfl)⟩,⟨_,rfl,rfl,(.cons (kSl rfl) (.cons (sm rfl) (.cons (sm rfl) (.cons (sm rfl) .nil))))⟩,⟨_,rfl,rfl,(Qw fun _=>rfl)⟩,tv⟩ rfl
             ·replace h:=bF hb48 h
              refine Tr.skip ?_
              replace h:=si h; subst h
              exact Qj [] ⟨(sm rfl),(sm rfl),(kFun hM ho11),(kPtr rfl),(kPtr rfl),(sm rfl),(sm rfl),(sm rfl),tv⟩ ⟨⟨_,rfl,rfl,(.same rfl)⟩,⟨_,rfl,rfl,(.cons (kSl rfl) (.cons (sm rfl) (.cons (sm rfl) (.cons (sm rfl) .nil))))⟩,⟨_,rfl,rfl,(Qw fun _=>rfl)⟩,tv⟩ rfl
           ·obtain ⟨a51,rfl⟩ : ∃ x,x = z:=⟨_,rfl⟩
            refine sr ((Rn.fldP (o':=0) tv rfl rfl (Rn.load (v:=.sl 1 (Γ.n0 + 60) 0 3 3) tv rfl (Qm rfl) rfl rfl (Rn.lenA tv rfl (md rfl (nt ((Tr.block ?_))))))))
            refine Tr.loop (mk:=fun ((x52,a53):Int×(List Qb))=>⟨look [(0,(i_ xfrom1)),(4,(b_ marked5)),(5,.clo g7 cp8),(12,.ptr (Γ.n0 + 12) 0),(14,.ptr (Γ.n0 + 14) 0),(15,(i_ x37)),(68,(i_ x36)),(69,(i_ x37)),(84,.sl 1 (Γ.n0 + 60) 0 3 3),(85,(i_ (3:Int))),(86,(i_ x52))],Qo Γ.n0 (bxs [(12,.cells ([(o_ c38),(i_ 0),(o_ c39),.own 3 (List.map Qa c40)])),(14,.cells ([.sl 1 (Γ.n0 + 60) 0 3 3,(i_ a41),(o_ a51),.own 3 (List.map Qa a53)])),(60,.cells (Q0 (fun (x:Int)=>[V.d (.int .i64 x)]) row31))]) M,Γ.n0 + 113⟩) h (by exact Qq ⟨(sm rfl),(sm rfl),(kFun hM ho11),(kPtr rfl),(kPtr rfl),(sm rfl),(sm rfl),(sm rfl),(kSl rfl),(sm rfl),(sm rfl),tv⟩ ⟨⟨_,rfl,rfl,(.same rfl)⟩,⟨_,rfl,rfl,(.cons (kSl rfl) (.cons (sm rfl) (.cons (sm rfl) (.cons (sm rfl) .nil))))⟩,⟨_,rfl,rfl,(Qw fun _=>rfl)⟩,tv⟩ rfl) (fun k54 z h=>?_)
            ·obtain ⟨x52,a53⟩:=z
             replace h:_ = some _:=h
             refine sr ((Rn.bin tv rfl rfl rfl (nt ((Tr.seq ?_)))))
             refine Tr.cond rfl (fun hb55=>?_) (fun hb55=>?_)
             ·replace h:=ifT hb55 h
              refine Tr.skip (toN ?_)
              refine Tr.cutB (fun (a68:List Qb)=>⟨look [(0,(i_ xfrom1)),(4,(b_ marked5)),(5,.clo g7 cp8),(12,.ptr (Γ.n0 + 12) 0),(14,.ptr (Γ.n0 + 14) 0),(15,(i_ x37)),(68,(i_ x36)),(69,(i_ x37)),(84,.sl 1 (Γ.n0 + 60) 0 3 3),(85,(i_ (3:Int))),(86,(i_ x52))],Qo Γ.n0 (bxs [(12,.cells ([(o_ c38),(i_ 0),(o_ c39),.own 3 (List.map Qa c40)])),(14,.cells ([.sl 1 (Γ.n0 + 60) 0 3 3,(i_ a41),(o_ a51),.own 3 (List.map Qa a68)])),(60,.cells (Q0 (fun (x:Int)=>[V.d (.int .i64 x)]) row31))]) M,Γ.n0 + 113⟩) h (fun z h=>?_) (fun z h=>?_)
              ·refine Tr.block (Tr.seq (Tr.rgn ?_))
               obtain ⟨⟨⟩,h57,h⟩:=bnd h
               refine Rn.idxA tv rfl rfl h57 ?_
               obtain ⟨x58,h59,h⟩:=bnd h
               refine Rn.loadA (g:=(fun (x:Int)=>[V.d (.int .i64 x)])) (v:=(i_ x58)) (f:=0) (fun _=>rfl) tv rfl (Qm rfl) h59 rfl rfl (md rfl (nt ((sr ((Rn.mov (v:=.clo g7 cp8) tv rfl (md rfl (md rfl ?_))))))))
               obtain ⟨x61,h60,h⟩:=bnd h
               refine Rn.callvM (args:=[(i_ x37),(i_ x58)] ++ cp8) tv rfl (by rw [hc9]; rfl) (fun M2 nb2 hn hx=>hf10 _ _ _ h60 M2 nb2 (by omega) ((Q22 hM).trans hx)) rfl pc9 ?_
               refine md rfl (Rn.nil (toN ?_))
               refine Tr.cutB (fun (next64:Int)=>⟨look [(0,(i_ xfrom1)),(4,(b_ marked5)),(5,.clo g7 cp8),(12,.ptr (Γ.n0 + 12) 0),(14,.ptr (Γ.n0 + 14) 0),(15,(i_ x37)),(17,(i_ x58)),(18,(i_ next64)),(68,(i_ x36)),(69,(i_ x37)),(84,.sl 1 (Γ.n0 + 60) 0 3 3),(85,(i_ (3:Int))),(86,(i_ x52))],Qo Γ.n0 (bxs [(12,.cells ([(o_ c38),(i_ 0),(o_ c39),.own 3 (List.map Qa c40)])),(14,.cells ([.sl 1 (Γ.n0 + 60) 0 3 3,(i_ a41),(o_ a51),.own 3 (List.map Qa a53)])),(60,.cells (Q0 (fun (x:Int)=>[V.d (.int .i64 x)]) row31))]) M,Γ.n0 + 113⟩) h (fun z h=>?_) (fun z h=>?_)
               ·refine sr ((md rfl (Rn.bin tv rfl rfl rfl (Rn.nil (toN ?_)))))
                refine Tr.cond rfl (fun hb62=>?_) (fun hb62=>?_)
                ·replace h:=bT hb62 h
                 refine sr ((md rfl (nt ((sr ((md rfl (md rfl (Rn.bin tv rfl rfl rfl (Rn.nil (toN ?_)))))))))))
                 refine Tr.cond rfl (fun hb63=>?_) (fun hb63=>?_)
                 ·replace h:=bT hb63 h
                  refine Tr.rgn (md rfl (Rn.nil ?_))
                  replace h:=si h; subst h
                  exact Qj [] ⟨(sm rfl),(sm rfl),(kFun hM ho11),(kPtr rfl),(kPtr rfl),(sm rfl),(sm rfl),(sm rfl),(sm rfl),(sm rfl),(kSl rfl),(sm rfl),(sm rfl),tv⟩ ⟨⟨_,rfl,rfl,(.same rfl)⟩,⟨_,rfl,rfl,(.cons (kSl rfl) (.cons (sm rfl) (.cons (sm rfl) (.cons (sm rfl) .nil))))⟩,⟨_,rfl,rfl,(Qw fun _=>rfl)⟩,tv⟩ rfl
                 ·replace h:=bF hb63 h
                  refine Tr.skip ?_
                  replace h:=si h; subst h
                  exact Qj [] ⟨(sm rfl),(sm rfl),(kFun hM ho11),(kPtr rfl),(kPtr rfl),(sm rfl),(sm rfl),(sm rfl),(sm rfl),(sm rfl),(kSl rfl),(sm rfl),(sm rfl),tv⟩ ⟨⟨_,rfl,rfl,(.same rfl)⟩,⟨_,rfl,rfl,(.cons (kSl rfl) (.cons (sm rfl) (.cons (sm rfl) (.cons (sm rfl) .nil))))⟩,⟨_,rfl,rfl,(Qw fun _=>rfl)⟩,tv⟩ rfl
                ·replace h:=bF hb62 h
                 refine Tr.skip ?_
                 replace h:=si h; subst h
                 exact Qj [] ⟨(sm rfl),(sm rfl),(kFun hM ho11),(kPtr rfl),(kPtr rfl),(sm rfl),(sm rfl),(sm rfl),(sm rfl),(sm rfl),(kSl rfl),(sm rfl),(sm rfl),tv⟩ ⟨⟨_,rfl,rfl,(.same rfl)⟩,⟨_,rfl,rfl,(.cons (kSl rfl) (.cons (sm rfl) (.cons (sm rfl) (.cons (sm rfl) .nil))))⟩,⟨_,rfl,rfl,(Qw fun _=>rfl)⟩,tv⟩ rfl
               ·obtain ⟨next64,rfl⟩ : ∃ x,x = z:=⟨_,rfl⟩
                refine sr ((md rfl (Rn.bin tv rfl rfl rfl (Rn.nil (toN ?_)))))
                refine Tr.cond rfl (fun hb65=>?_) (fun hb65=>?_)
                ·replace h:=bT hb65 h
                 refine Tr.rgn (Rn.fldP (o':=3) tv rfl rfl (Rn.loadT (cs':=[.sl 1 (Γ.n0 + 60) 0 3 3,(i_ a41),(o_ a51),.d (.lst 3 (List.map Qa a53))]) tv rfl rfl rfl rfl (md rfl (md rfl (md rfl (Rn.build (v:=.agg [(i_ x37),(i_ x58),(i_ next64)]) tv rfl (Rn.bslice (xs:=[.agg [(i_ x37),(i_ x58),(i_ next64)]]) (cs:=[(i_ x37),(i_ x58),(i_ next64)]) tv rfl rfl rfl rfl ?_)))))))
                 obtain ⟨x66,h67,h⟩:=bnd h
                 refine Rn.app (e:=Qa) tv rfl rfl rfl (Qcp rfl rfl rfl) h67 rfl (Rn.fldP (o':=3) tv rfl rfl (Rn.storeO (cs':=[.sl 1 (Γ.n0 + 60) 0 3 3,(i_ a41),(o_ a51),.own 3 (List.map Qa x66)]) tv rfl rfl rfl rfl rfl (Rn.nil ?_)))
                 replace h:=si h; subst h
                 exact Qj [107] ⟨(sm rfl),(sm rfl),(kFun hM ho11),(kPtr rfl),(kPtr rfl),(sm rfl),(sm rfl),(sm rfl),(kSl rfl),(sm rfl),(sm rfl),tv⟩ ⟨⟨_,rfl,rfl,(.same rfl)⟩,⟨_,rfl,rfl,(.cons (kSl rfl) (.cons (sm rfl) (.cons (sm rfl) (.cons (sm rfl) .nil))))⟩,⟨_,rfl,rfl,(Qw fun _=>rfl)⟩,tv⟩ rfl
                ·replace h:=bF hb65 h
                 refine Tr.skip ?_
                 replace h:=si h; subst h
                 exact Qj [] ⟨(sm rfl),(sm rfl),(kFun hM ho11),(kPtr rfl),(kPtr rfl),(sm rfl),(sm rfl),(sm rfl),(kSl rfl),(sm rfl),(sm rfl),tv⟩ ⟨⟨_,rfl,rfl,(.same rfl)⟩,⟨_,rfl,rfl,(.cons (kSl rfl) (.cons (sm rfl) (.cons (sm rfl) (.cons (sm rfl) .nil))))⟩,⟨_,rfl,rfl,(Qw fun _=>rfl)⟩,tv⟩ rfl
              ·obtain ⟨a68,rfl⟩ : ∃ x,x = z:=⟨_,rfl⟩
               refine Tr.rgn (Rn.bin tv rfl rfl rfl (md rfl (Rn.nil ?_)))
               exact ⟨_,h,(by exact Qq ⟨(sm rfl),(sm rfl),(kFun hM ho11),(kPtr rfl),(kPtr rfl),(sm rfl),(sm rfl),(sm rfl),(kSl rfl),(sm rfl),(sm rfl),tv⟩ ⟨⟨_,rfl,rfl,(.same rfl)⟩,⟨_,rfl,rfl,(.cons (kSl rfl) (.cons (sm rfl) (.cons (sm rfl) (.cons (sm rfl) .nil))))⟩,⟨_,rfl,rfl,(Qw fun _=>rfl)⟩,tv⟩ rfl)⟩
             ·replace h:=ifF hb55 h
              refine Tr.exit ?_
              replace h:=si h; subst h
              exact Qj [] ⟨(sm rfl),(sm rfl),(kFun hM ho11),(kPtr rfl),(kPtr rfl),(sm rfl),(sm rfl),tv⟩ ⟨⟨_,rfl,rfl,(.same rfl)⟩,⟨_,rfl,rfl,(.cons (kSl rfl) (.cons (sm rfl) (.cons (sm rfl) (.cons (sm rfl) .nil))))⟩,⟨_,rfl,rfl,(Qw fun _=>rfl)⟩,tv⟩ rfl
          ·obtain ⟨a69,a70⟩:=z
           refine Tr.rgn (Rn.bin tv rfl rfl rfl (md rfl (Rn.nil ?_)))
           exact ⟨_,h,(by exact Qq ⟨(sm rfl),(sm rfl),(kFun hM ho11),(kPtr rfl),(kPtr rfl),(sm rfl),(sm rfl),tv⟩ ⟨⟨_,rfl,rfl,(.same rfl)⟩,⟨_,rfl,rfl,(.cons (kSl rfl) (.cons (sm rfl) (.cons (sm rfl) (.cons (sm rfl) .nil))))⟩,⟨_,rfl,rfl,(Qw fun _=>rfl)⟩,tv⟩ rfl)⟩
         ·replace h:=ifF hb45 h
          refine Tr.exit ?_
          replace h:=si h; subst h
          exact Qj [] ⟨(kPtr rfl),(kPtr rfl),tv⟩ ⟨⟨_,rfl,rfl,(.same rfl)⟩,⟨_,rfl,rfl,(.cons (kSl rfl) (.cons (sm rfl) (.cons (sm rfl) (.cons (sm rfl) .nil))))⟩,⟨_,rfl,rfl,(Qw fun _=>rfl)⟩,tv⟩ rfl
       ·obtain ⟨c71,c72,c73,a74,a75,a76⟩:=z
        refine sr ((Rn.load (v:=.agg [.sl 1 (Γ.n0 + 60) 0 3 3,(i_ a74),(l_ a75),.d (.lst 3 (List.map Qa a76))]) tv rfl (Qm rfl) rfl rfl (Rn.storeT (v:=.agg [.sl 1 (Γ.n0 + 60) 0 3 3,(i_ a74),(l_ a75),.d (.lst 3 (List.map Qa a76))]) (ds:=[.sl 1 (Γ.n0 + 60) 0 3 3,(i_ a74),(l_ a75),.d (.lst 3 (List.map Qa a76))]) (cs':=[.sl 1 (Γ.n0 + 60) 0 3 3,(i_ a74),(l_ a75),.d (.lst 3 (List.map Qa a76))]) tv rfl rfl rfl rfl rfl rfl rfl (md rfl (Rn.nil (toN ?_))))))
        obtain ⟨⟨⟩,hl77,h⟩:=bnd h
        refine Tr.weak (by show WeakSt Γ _ ⟨look [(12,.ptr (Γ.n0 + 12) 0),(13,(i_ 0)),(14,.ptr (Γ.n0 + 14) 0),(112,.agg [(l_ row31),(i_ a74),(l_ a75),.d (.lst 3 (List.map Qa a76))])],Qo Γ.n0 (bxs [(12,.cells ([(l_ row31),(i_ a74),(l_ a75),.d (.lst 3 (List.map Qa a76))])),(14,.cells ([(l_ row31),(i_ a74),(o_ a75),.own 3 (List.map Qa a76)]))]) M,Γ.n0 + 113⟩; exact Qdh 60 _ rfl (Qye (fun _=>rfl) _) ⟨(fPtr rfl),(.same rfl),(fPtr rfl),(WkV.agg (.cons (fSlA (fun _=>rfl) (Qeo hl77)) (.cons (.same rfl) (.cons (.same rfl) (.cons (.same rfl) .nil))))),tv⟩ ⟨⟨_,rfl,rfl,(.cons (fSlA (fun _=>rfl) (Qeo hl77)) (.cons (.same rfl) (.cons (.same rfl) (.cons (.same rfl) .nil))))⟩,⟨_,rfl,rfl,(.cons (fSlA (fun _=>rfl) (Qeo hl77)) (.cons (.same rfl) (.cons (.same rfl) (.cons (.same rfl) .nil))))⟩,tv⟩ rfl) ?_
        refine Tr.ret ?_
        replace h:=si h; subst h
        exact ⟨.inr rfl,.tup [.agg [(l_ row31),(i_ a74),(l_ a75),.d (.lst 3 (List.map Qa a76))],(i_ 0)],res2 (Qo0 rfl rfl rfl rfl) rfl,(WkV.tup (.cons (.same rfl) (.cons (.same rfl) .nil))).rd,⟨⟨tv,tv,tv,tv,tv⟩,tv,tv⟩,fun k hk=>Qf hk⟩
theorem Qm4 {P:Program} {c:Nat} {Qu:Int→Int→Int→Int→Bool→(Int→Int→Option Int)→Option (Qg×Int)} {Q5:Int→Int→Int→Int→Int→Option Int}
    (H_timedsynthesis_clock:Qds P 47 Qu)
    (H_timedsynthesis_Deadline_1:Qdm P 48 Q5) (hcf:Qy P c = some Qd1):Qcu P c (Qs Qu Q5):=by
 intro xfrom1 to2 ticks3 tick4 r h
 refine Qen hcf rfl fun Γ M hP hnt hM=>?_
 subst hP
 refine Tr.init [(0,(i_ xfrom1)),(1,(i_ to2)),(2,(i_ ticks3)),(3,(i_ tick4))] rfl ?_
 unfold Qs at h
 unfold Qd1
 refine sr ((Rn.box (v:=(i_ xfrom1)) (cs:=[(i_ xfrom1)]) tv rfl rfl rfl rfl rfl (Rn.box (v:=(i_ to2)) (cs:=[(i_ to2)]) tv rfl rfl rfl rfl rfl (Rn.box (v:=(i_ ticks3)) (cs:=[(i_ ticks3)]) tv rfl rfl rfl rfl rfl (Rn.alloc tv rfl (md rfl (nt ((sr ((Rn.load (v:=(i_ xfrom1)) tv rfl (Qm rfl) rfl rfl (Rn.load (v:=(i_ to2)) tv rfl (Qm rfl) rfl rfl (Rn.load (v:=(i_ ticks3)) tv rfl (Qm rfl) rfl rfl (md rfl (Rn.k (v:=.clo 48 [.ptr (Γ.n0 + 4) 0,.ptr (Γ.n0 + 5) 0,.ptr (Γ.n0 + 6) 0]) tv rfl rfl rfl ?_)))))))))))))))
 obtain ⟨⟨r10,r11⟩,h9,h⟩:=bnd h
 refine Rn.callM (args:=[(i_ xfrom1),(i_ to2),(i_ ticks3),(i_ tick4),(b_ false),.clo 48 [.ptr (Γ.n0 + 4) 0,.ptr (Γ.n0 + 5) 0,.ptr (Γ.n0 + 6) 0]]) tv rfl (fun M2 nb2 hn hx=>H_timedsynthesis_clock _ _ _ _ _ _ 48 [.ptr (Γ.n0 + 4) 0,.ptr (Γ.n0 + 5) 0,.ptr (Γ.n0 + 6) 0] _ h9 M2 nb2 rfl ⟨Qnp (hx _ _ (Qm rfl)),Qnp (hx _ _ (Qm rfl)),Qnp (hx _ _ (Qm rfl)),tv⟩ (fun a5 a6 r7 h8 M3 nb3 hn3 hx3=>H_timedsynthesis_Deadline_1 a5 a6 xfrom1 to2 ticks3 (Γ.n0 + 4) (Γ.n0 + 5) (Γ.n0 + 6) r7 h8 M3 nb3 ((hx.trans hx3) _ _ (Qm rfl)) ((hx.trans hx3) _ _ (Qm rfl)) ((hx.trans hx3) _ _ (Qm rfl)))) rfl pc9 ?_
 refine Rn.ext (v:=(Qd r10)) (vs:=[(Qd r10),(i_ r11)]) tv rfl rfl rfl (Rn.ext (v:=(i_ r11)) (vs:=[(Qd r10),(i_ r11)]) tv rfl rfl rfl (Rn.storeT (v:=(Qd r10)) (ds:=(Qe r10)) (cs':=(Qe r10)) tv rfl rfl rfl rfl rfl rfl rfl (md rfl (nt ((Tr.ret ?_))))))
 replace h:=si h; subst h
 exact ⟨.inr rfl,.tup [(Qd r10),(i_ r11)],res2 (Qo0 rfl rfl rfl rfl) rfl,(WkV.tup (.cons (.same rfl) (.cons (.same rfl) .nil))).rd,⟨⟨tv,tv,tv,tv,tv⟩,tv,tv⟩,fun k hk=>Qf hk⟩
theorem Quu {P:Program} {c:Nat} (hcf:Qy P c = some Qjd) (fuel:Nat):Qgq P c (Q6 fuel):=by
 intro s1 s2 r h
 refine Qen hcf rfl fun Γ M hP hnt hM=>?_
 subst hP
 refine Tr.init [(0,(l_ s1)),(1,(l_ s2))] rfl ?_
 unfold Q6 at h
 unfold Qjd
 refine sr ((md rfl (nt ((Tr.seq (sr ((md rfl (Rn.lenD tv rfl (md rfl (Rn.lenD tv rfl (Rn.bin tv rfl rfl rfl (Rn.nil (toN ?_))))))))))))))
 refine Tr.cond rfl (fun hb3=>?_) (fun hb3=>?_)
 ·replace h:=bT hb3 h
  refine sr ((md rfl (nt ((Tr.ret ?_)))))
  replace h:=si h; subst h
  exact ⟨.inr rfl,(b_ false),rfl,fun _ _ _ _ h=>h,tv,fun k hk=>Qf hk⟩
 ·replace h:=bF hb3 h
  refine Tr.skip (toN (Tr.seq (sr ((md rfl (Rn.lenD tv rfl (md rfl (nt ((Tr.block ?_))))))))))
  refine Tr.loop (mk:=fun (x4:Int)=>⟨look [(0,(l_ s1)),(1,(l_ s2)),(12,(i_ (s1.length:Int))),(13,(i_ x4))],Qo Γ.n0 (bxs []) M,Γ.n0 + 26⟩) h (by exact Qq ⟨(sm rfl),(sm rfl),(sm rfl),(sm rfl),tv⟩ tv rfl) (fun k5 z h=>?_)
  ·obtain ⟨x4,rfl⟩ : ∃ x,x = z:=⟨_,rfl⟩
   replace h:_ = some _:=h
   refine sr ((Rn.bin tv rfl rfl rfl (nt ((Tr.seq ?_)))))
   refine Tr.cond rfl (fun hb6=>?_) (fun hb6=>?_)
   ·replace h:=ifT hb6 h
    refine Tr.skip (toN (Tr.seq (Tr.block (sr ((md rfl (md rfl (nt ((Tr.seq ?_))))))))))
    refine Tr.rgnD (by decide) ?_
    refine md rfl (md rfl ?_)
    obtain ⟨x7,h8,h⟩:=bnd h
    refine Rn.idxD (e:=(eI .i64)) tv rfl rfl h8 (Rn.loadC (x:=.int .i64 x7) tv rfl (md rfl (md rfl ?_)))
    obtain ⟨x9,h10,h⟩:=bnd h
    refine Rn.idxD (e:=(eI .i64)) tv rfl rfl h10 (Rn.loadC (x:=.int .i64 x9) tv rfl (Rn.bin tv rfl rfl rfl ?_))
    refine Rn.nil ⟨rfl,?_⟩
    refine toN ?_
    refine Tr.cond rfl (fun hb11=>?_) (fun hb11=>?_)
    ·replace h:=bT hb11 h
     refine sr ((md rfl (nt ((Tr.ret ?_)))))
     replace h:=si h; subst h
     exact ⟨.inr rfl,(b_ false),rfl,fun _ _ _ _ h=>h,tv,fun k hk=>Qf hk⟩
    ·replace h:=bF hb11 h
     refine Tr.skip (toN (Tr.rgn (Rn.bin tv rfl rfl rfl (md rfl (Rn.nil ?_)))))
     exact ⟨_,h,(by exact Qq ⟨(sm rfl),(sm rfl),(sm rfl),(sm rfl),tv⟩ tv rfl)⟩
   ·replace h:=ifF hb6 h
    refine Tr.exit (toN (sr ((md rfl (nt ((Tr.ret ?_)))))))
    replace h:=si h; subst h
    exact ⟨.inr rfl,(b_ true),rfl,fun _ _ _ _ h=>h,tv,fun k hk=>Qf hk⟩
theorem Qz9 {P:Program} {c:Nat} {Q6:(List Int)→(List Int)→Option Bool}
    (H_slices_Equal_int:Qgq P 45 Q6) (hcf:Qy P c = some Qug):Quf P c (Qeh Q6):=by
 intro a1 b2 r h
 refine Qen hcf rfl fun Γ M hP hnt hM=>?_
 subst hP
 refine Tr.init [(0,(l_ a1)),(1,(l_ b2))] rfl ?_
 unfold Qeh at h
 unfold Qug
 refine sr ((md rfl (nt ((sr ((md rfl (md rfl ?_))))))))
 obtain ⟨x4,h3,h⟩:=bnd h
 refine Rn.call (args:=[(l_ a1),(l_ b2)]) tv rfl (H_slices_Equal_int _ _ _ h3) pc9 (md rfl (nt ((Tr.ret ?_))))
 replace h:=si h; subst h
 exact ⟨.inr rfl,(b_ x4),rfl,fun _ _ _ _ h=>h,tv,fun k hk=>Qf hk⟩
theorem Qrz {P:Program} {c:Nat} {Q4:Qc→Option (Qbj×Int)} {Qeh:(List Int)→(List Int)→Option Bool} {Qs:Int→Int→Int→Int→Option (Qg×Int)} {Qbk:(List Int)→Option Qc}
    (H_timedsynthesis_Synthesize:Qdk P 11 Q4)
    (H_word_Equal:Quf P 16 Qeh)
    (H_timedsynthesis_Deadline:Qcu P 17 Qs)
    (H_overseerlaw46_clock:Qgw P 35 Qbk) (hcf:Qy P c = some Qg1):Qg0 P c (Qbu Q4 Qeh Qs Qbk):=by
 intro  r h
 refine Qen hcf rfl fun Γ M hP hnt hM=>?_
 subst hP
 refine Tr.init [] rfl ?_
 unfold Qbu at h
 unfold Qg1
 refine sr ((md rfl (nt ((sr ((Rn.bslice (xs:=[(i_ 0)]) (cs:=[(i_ 0)]) tv rfl rfl rfl rfl ?_)))))))
 refine Rn.weak (by show WeakSt Γ _ ⟨look [(0,(b_ false)),(8,(l_ [0]))],Qo Γ.n0 (bxs []) M,Γ.n0 + 77⟩; exact Qdh 8 [.int .i64 0] rfl rfl ⟨(.same rfl),(fSl rfl rfl),tv⟩ tv rfl) ?_
 obtain ⟨x2,h1,h⟩:=bnd h
 refine Rn.call (args:=[(l_ [0])]) tv rfl (H_overseerlaw46_clock _ _ h1) pc9 ?_
 obtain ⟨⟨r4,r5⟩,h3,h⟩:=bnd h
 refine Rn.call (args:=[.agg [(l_ x2.zA.zJ),(i_ x2.zA.zM),(l_ x2.zA.zK),.d (.lst 3 (List.map Qa x2.zA.zL)),(l_ x2.zC),.nils 1,(l_ x2.zD),(i_ x2.Tick)]]) tv rfl (fun M2 nb2=>ACalls.weak (args':=[.agg [(l_ x2.zA.zJ),(i_ x2.zA.zM),(l_ x2.zA.zK),.d (.lst 3 (List.map Qa x2.zA.zL)),(l_ x2.zC),(l_ []),(l_ x2.zD),(i_ x2.Tick)]]) (H_timedsynthesis_Synthesize _ _ h3 M2 nb2) (.cons (WkV.agg (.cons (sm rfl) (.cons (sm rfl) (.cons (sm rfl) (.cons (sm rfl) (.cons (sm rfl) (.cons (WkV.nilsD _) (.cons (sm rfl) (.cons (sm rfl) .nil))))))))) .nil) rfl) pc9 ?_
 refine Rn.mov (v:=.tup [.agg [(l_ r4.zE.Kept),(l_ r4.zE.zF),.d (.lst 4 (List.map Qh r4.zE.zG)),(i_ r4.Rounds),(l_ r4.zH.zJ),(i_ r4.zH.zM),(l_ r4.zH.zK),.d (.lst 3 (List.map Qa r4.zH.zL)),(l_ r4.zO),(l_ r4.zI)],(i_ r5)]) tv rfl (Rn.ext (v:=.agg [(l_ r4.zE.Kept),(l_ r4.zE.zF),.d (.lst 4 (List.map Qh r4.zE.zG)),(i_ r4.Rounds),(l_ r4.zH.zJ),(i_ r4.zH.zM),(l_ r4.zH.zK),.d (.lst 3 (List.map Qa r4.zH.zL)),(l_ r4.zO),(l_ r4.zI)]) (vs:=[.agg [(l_ r4.zE.Kept),(l_ r4.zE.zF),.d (.lst 4 (List.map Qh r4.zE.zG)),(i_ r4.Rounds),(l_ r4.zH.zJ),(i_ r4.zH.zM),(l_ r4.zH.zK),.d (.lst 3 (List.map Qa r4.zH.zL)),(l_ r4.zO),(l_ r4.zI)],(i_ r5)]) tv rfl rfl rfl (Rn.ext (v:=(i_ r5)) (vs:=[.agg [(l_ r4.zE.Kept),(l_ r4.zE.zF),.d (.lst 4 (List.map Qh r4.zE.zG)),(i_ r4.Rounds),(l_ r4.zH.zJ),(i_ r4.zH.zM),(l_ r4.zH.zK),.d (.lst 3 (List.map Qa r4.zH.zL)),(l_ r4.zO),(l_ r4.zI)],(i_ r5)]) tv rfl rfl rfl (Rn.alloc tv rfl (Rn.storeT (v:=.agg [(l_ r4.zE.Kept),(l_ r4.zE.zF),.d (.lst 4 (List.map Qh r4.zE.zG)),(i_ r4.Rounds),(l_ r4.zH.zJ),(i_ r4.zH.zM),(l_ r4.zH.zK),.d (.lst 3 (List.map Qa r4.zH.zL)),(l_ r4.zO),(l_ r4.zI)]) (ds:=[(l_ r4.zE.Kept),(l_ r4.zE.zF),.d (.lst 4 (List.map Qh r4.zE.zG)),(i_ r4.Rounds),(l_ r4.zH.zJ),(i_ r4.zH.zM),(l_ r4.zH.zK),.d (.lst 3 (List.map Qa r4.zH.zL)),(l_ r4.zO),(l_ r4.zI)]) (cs':=[(l_ r4.zE.Kept),(l_ r4.zE.zF),.d (.lst 4 (List.map Qh r4.zE.zG)),(i_ r4.Rounds),(l_ r4.zH.zJ),(i_ r4.zH.zM),(l_ r4.zH.zK),.d (.lst 3 (List.map Qa r4.zH.zL)),(l_ r4.zO),(l_ r4.zI)]) tv rfl rfl rfl rfl rfl rfl rfl (md rfl (nt ((Tr.seq (Tr.rgn ?_)))))))))
 obtain ⟨x7,h6,h⟩:=bnd h
 refine Rn.call (args:=[.nils 1]) tv rfl (fun M2 nb2=>ACalls.weak (args':=[(l_ [])]) (H_overseerlaw46_clock _ _ h6 M2 nb2) (.cons (WkV.nilsD _) .nil) rfl) pc9 ?_
 obtain ⟨⟨r9,r10⟩,h8,h⟩:=bnd h
 refine Rn.call (args:=[.agg [(l_ x7.zA.zJ),(i_ x7.zA.zM),(l_ x7.zA.zK),.d (.lst 3 (List.map Qa x7.zA.zL)),(l_ x7.zC),.nils 1,(l_ x7.zD),(i_ x7.Tick)]]) tv rfl (fun M2 nb2=>ACalls.weak (args':=[.agg [(l_ x7.zA.zJ),(i_ x7.zA.zM),(l_ x7.zA.zK),.d (.lst 3 (List.map Qa x7.zA.zL)),(l_ x7.zC),(l_ []),(l_ x7.zD),(i_ x7.Tick)]]) (H_timedsynthesis_Synthesize _ _ h8 M2 nb2) (.cons (WkV.agg (.cons (sm rfl) (.cons (sm rfl) (.cons (sm rfl) (.cons (sm rfl) (.cons (sm rfl) (.cons (WkV.nilsD _) (.cons (sm rfl) (.cons (sm rfl) .nil))))))))) .nil) rfl) pc9 ?_
 refine Rn.mov (v:=.tup [.agg [(l_ r9.zE.Kept),(l_ r9.zE.zF),.d (.lst 4 (List.map Qh r9.zE.zG)),(i_ r9.Rounds),(l_ r9.zH.zJ),(i_ r9.zH.zM),(l_ r9.zH.zK),.d (.lst 3 (List.map Qa r9.zH.zL)),(l_ r9.zO),(l_ r9.zI)],(i_ r10)]) tv rfl (Rn.ext (v:=.agg [(l_ r9.zE.Kept),(l_ r9.zE.zF),.d (.lst 4 (List.map Qh r9.zE.zG)),(i_ r9.Rounds),(l_ r9.zH.zJ),(i_ r9.zH.zM),(l_ r9.zH.zK),.d (.lst 3 (List.map Qa r9.zH.zL)),(l_ r9.zO),(l_ r9.zI)]) (vs:=[.agg [(l_ r9.zE.Kept),(l_ r9.zE.zF),.d (.lst 4 (List.map Qh r9.zE.zG)),(i_ r9.Rounds),(l_ r9.zH.zJ),(i_ r9.zH.zM),(l_ r9.zH.zK),.d (.lst 3 (List.map Qa r9.zH.zL)),(l_ r9.zO),(l_ r9.zI)],(i_ r10)]) tv rfl rfl rfl (Rn.ext (v:=(i_ r10)) (vs:=[.agg [(l_ r9.zE.Kept),(l_ r9.zE.zF),.d (.lst 4 (List.map Qh r9.zE.zG)),(i_ r9.Rounds),(l_ r9.zH.zJ),(i_ r9.zH.zM),(l_ r9.zH.zK),.d (.lst 3 (List.map Qa r9.zH.zL)),(l_ r9.zO),(l_ r9.zI)],(i_ r10)]) tv rfl rfl rfl (Rn.alloc tv rfl (Rn.storeT (v:=.agg [(l_ r9.zE.Kept),(l_ r9.zE.zF),.d (.lst 4 (List.map Qh r9.zE.zG)),(i_ r9.Rounds),(l_ r9.zH.zJ),(i_ r9.zH.zM),(l_ r9.zH.zK),.d (.lst 3 (List.map Qa r9.zH.zL)),(l_ r9.zO),(l_ r9.zI)]) (ds:=[(l_ r9.zE.Kept),(l_ r9.zE.zF),.d (.lst 4 (List.map Qh r9.zE.zG)),(i_ r9.Rounds),(l_ r9.zH.zJ),(i_ r9.zH.zM),(l_ r9.zH.zK),.d (.lst 3 (List.map Qa r9.zH.zL)),(l_ r9.zO),(l_ r9.zI)]) (cs':=[(l_ r9.zE.Kept),(l_ r9.zE.zF),.d (.lst 4 (List.map Qh r9.zE.zG)),(i_ r9.Rounds),(l_ r9.zH.zJ),(i_ r9.zH.zM),(l_ r9.zH.zK),.d (.lst 3 (List.map Qa r9.zH.zL)),(l_ r9.zO),(l_ r9.zI)]) tv rfl rfl rfl rfl rfl rfl rfl (md rfl (nt ((Tr.seq (Tr.rgn ?_)))))))))
 obtain ⟨⟨r12,r13⟩,h11,h⟩:=bnd h
 refine Rn.call (args:=[(i_ 0),(i_ 1),(i_ 1),(i_ 2)]) tv rfl (H_timedsynthesis_Deadline _ _ _ _ _ h11) pc9 (Rn.mov (v:=.tup [(Qd r12),(i_ r13)]) tv rfl (Rn.ext (v:=(Qd r12)) (vs:=[(Qd r12),(i_ r13)]) tv rfl rfl rfl (Rn.ext (v:=(i_ r13)) (vs:=[(Qd r12),(i_ r13)]) tv rfl rfl rfl (Rn.alloc tv rfl (Rn.storeT (v:=(Qd r12)) (ds:=(Qe r12)) (cs':=(Qe r12)) tv rfl rfl rfl rfl rfl rfl rfl (md rfl (Rn.nil (toN ?_))))))))
 refine Tr.cutB (fun (x27:Bool)=>⟨look [(0,(b_ x27))],Qo Γ.n0 (bxs [(1,.cells ([(l_ r4.zE.Kept),(l_ r4.zE.zF),.d (.lst 4 (List.map Qh r4.zE.zG)),(i_ r4.Rounds),(l_ r4.zH.zJ),(i_ r4.zH.zM),(l_ r4.zH.zK),.d (.lst 3 (List.map Qa r4.zH.zL)),(l_ r4.zO),(l_ r4.zI)])),(3,.cells ([(l_ r9.zE.Kept),(l_ r9.zE.zF),.d (.lst 4 (List.map Qh r9.zE.zG)),(i_ r9.Rounds),(l_ r9.zH.zJ),(i_ r9.zH.zM),(l_ r9.zH.zK),.d (.lst 3 (List.map Qa r9.zH.zL)),(l_ r9.zO),(l_ r9.zI)])),(5,.cells ((Qe r12)))]) M,Γ.n0 + 77⟩) h (fun z h=>?_) (fun z h=>?_)
 ·refine Tr.rgn (md rfl (Rn.bin tv rfl rfl rfl (md rfl ?_)))
  refine Qbg (r5 == 0) (fun hb14=>?_) (fun hb14=>?_)
  ·replace h:=bT hb14 h
   refine Rn.fldP (o':=9) (gw rfl hb14) rfl rfl (Rn.load (v:=(l_ r4.zI)) (gw rfl hb14) rfl (Qm rfl) rfl rfl (Rn.bslice (xs:=[(i_ 0)]) (cs:=[(i_ 0)]) (gw rfl hb14) rfl rfl rfl rfl ?_))
   refine Rn.weak (by show WeakSt Γ _ ⟨look [(0,(b_ false)),(1,.ptr (Γ.n0 + 1) 0),(2,(i_ r5)),(3,.ptr (Γ.n0 + 3) 0),(4,(i_ r10)),(5,.ptr (Γ.n0 + 5) 0),(6,(i_ r13)),(7,.tup [.agg [(l_ r4.zE.Kept),(l_ r4.zE.zF),.d (.lst 4 (List.map Qh r4.zE.zG)),(i_ r4.Rounds),(l_ r4.zH.zJ),(i_ r4.zH.zM),(l_ r4.zH.zK),.d (.lst 3 (List.map Qa r4.zH.zL)),(l_ r4.zO),(l_ r4.zI)],(i_ r5)]),(8,(l_ [0])),(9,.agg [(l_ x2.zA.zJ),(i_ x2.zA.zM),(l_ x2.zA.zK),.d (.lst 3 (List.map Qa x2.zA.zL)),(l_ x2.zC),.nils 1,(l_ x2.zD),(i_ x2.Tick)]),(10,.tup [.agg [(l_ r4.zE.Kept),(l_ r4.zE.zF),.d (.lst 4 (List.map Qh r4.zE.zG)),(i_ r4.Rounds),(l_ r4.zH.zJ),(i_ r4.zH.zM),(l_ r4.zH.zK),.d (.lst 3 (List.map Qa r4.zH.zL)),(l_ r4.zO),(l_ r4.zI)],(i_ r5)]),(11,.agg [(l_ r4.zE.Kept),(l_ r4.zE.zF),.d (.lst 4 (List.map Qh r4.zE.zG)),(i_ r4.Rounds),(l_ r4.zH.zJ),(i_ r4.zH.zM),(l_ r4.zH.zK),.d (.lst 3 (List.map Qa r4.zH.zL)),(l_ r4.zO),(l_ r4.zI)]),(12,(i_ r5)),(13,.tup [.agg [(l_ r9.zE.Kept),(l_ r9.zE.zF),.d (.lst 4 (List.map Qh r9.zE.zG)),(i_ r9.Rounds),(l_ r9.zH.zJ),(i_ r9.zH.zM),(l_ r9.zH.zK),.d (.lst 3 (List.map Qa r9.zH.zL)),(l_ r9.zO),(l_ r9.zI)],(i_ r10)]),(14,.agg [(l_ x7.zA.zJ),(i_ x7.zA.zM),(l_ x7.zA.zK),.d (.lst 3 (List.map Qa x7.zA.zL)),(l_ x7.zC),.nils 1,(l_ x7.zD),(i_ x7.Tick)]),(15,.tup [.agg [(l_ r9.zE.Kept),(l_ r9.zE.zF),.d (.lst 4 (List.map Qh r9.zE.zG)),(i_ r9.Rounds),(l_ r9.zH.zJ),(i_ r9.zH.zM),(l_ r9.zH.zK),.d (.lst 3 (List.map Qa r9.zH.zL)),(l_ r9.zO),(l_ r9.zI)],(i_ r10)]),(16,.agg [(l_ r9.zE.Kept),(l_ r9.zE.zF),.d (.lst 4 (List.map Qh r9.zE.zG)),(i_ r9.Rounds),(l_ r9.zH.zJ),(i_ r9.zH.zM),(l_ r9.zH.zK),.d (.lst 3 (List.map Qa r9.zH.zL)),(l_ r9.zO),(l_ r9.zI)]),(17,(i_ r10)),(18,.tup [(Qd r12),(i_ r13)]),(19,.tup [(Qd r12),(i_ r13)]),(20,(Qd r12)),(21,(i_ r13)),(22,(i_ r5)),(23,(b_ (r5 == 0))),(24,(b_ (r5 == 0))),(25,.ptr (Γ.n0 + 1) 9),(26,(l_ r4.zI)),(27,(l_ [0]))],Qo Γ.n0 (bxs [(1,.cells ([(l_ r4.zE.Kept),(l_ r4.zE.zF),.d (.lst 4 (List.map Qh r4.zE.zG)),(i_ r4.Rounds),(l_ r4.zH.zJ),(i_ r4.zH.zM),(l_ r4.zH.zK),.d (.lst 3 (List.map Qa r4.zH.zL)),(l_ r4.zO),(l_ r4.zI)])),(3,.cells ([(l_ r9.zE.Kept),(l_ r9.zE.zF),.d (.lst 4 (List.map Qh r9.zE.zG)),(i_ r9.Rounds),(l_ r9.zH.zJ),(i_ r9.zH.zM),(l_ r9.zH.zK),.d (.lst 3 (List.map Qa r9.zH.zL)),(l_ r9.zO),(l_ r9.zI)])),(5,.cells ((Qe r12)))]) M,Γ.n0 + 77⟩; exact Qdh 27 [.int .i64 0] rfl rfl ⟨(.same rfl),(fPtr rfl),(.same rfl),(fPtr rfl),(.same rfl),(fPtr rfl),(.same rfl),(.same rfl),(.same rfl),(.same rfl),(.same rfl),(.same rfl),(.same rfl),(.same rfl),(.same rfl),(.same rfl),(.same rfl),(.same rfl),(.same rfl),(.same rfl),(.same rfl),(.same rfl),(.same rfl),(.same rfl),(.same rfl),(fPtr rfl),(.same rfl),(fSl rfl rfl),tv⟩ ⟨⟨_,rfl,rfl,(.same rfl)⟩,⟨_,rfl,rfl,(.same rfl)⟩,⟨_,rfl,rfl,(.same rfl)⟩,tv⟩ rfl) ?_
   obtain ⟨x16,h15,h⟩:=bnd h
   refine Rn.call (args:=[(l_ r4.zI),(l_ [0])]) (gw rfl hb14) rfl (H_word_Equal _ _ _ h15) pc9 (Rn.pickT (v:=(b_ x16)) tv rfl hb14 rfl (md rfl ?_))
   refine Qbg x16 (fun hb17=>?_) (fun hb17=>?_)
   ·replace h:=bT hb17 h
    refine Rn.fldP (o':=9) (gw rfl hb17) rfl rfl (Rn.load (v:=(l_ r4.zI)) (gw rfl hb17) rfl (Qm rfl) rfl rfl (Rn.lenD (gw rfl hb17) rfl (Rn.bin (gw rfl hb17) rfl rfl rfl (Rn.pickT (v:=(b_ ((r4.zI.length:Int) == 1))) tv rfl hb17 rfl (md rfl ?_)))))
    refine Qbg ((r4.zI.length:Int) == 1) (fun hb18=>?_) (fun hb18=>?_)
    ·replace h:=bT hb18 h
     refine Rn.fldP (o':=4) (gw rfl hb18) rfl rfl (Rn.fldP (o':=5) (gw rfl hb18) rfl rfl (Rn.load (v:=(i_ r4.zH.zM)) (gw rfl hb18) rfl (Qm rfl) rfl rfl (Rn.bin (gw rfl hb18) rfl rfl rfl (Rn.pickT (v:=(b_ (r4.zH.zM == 1))) tv rfl hb18 rfl (md rfl ?_)))))
     refine Qbg (r4.zH.zM == 1) (fun hb19=>?_) (fun hb19=>?_)
     ·replace h:=bT hb19 h
      refine Rn.movD (gw rfl hb19) rfl (Rn.bin (gw rfl hb19) rfl rfl rfl (Rn.pickT (v:=(b_ (r10 == 0))) tv rfl hb19 rfl (md rfl ?_)))
      refine Qbg (r10 == 0) (fun hb20=>?_) (fun hb20=>?_)
      ·replace h:=bT hb20 h
       refine Rn.fldP (o':=0) (gw rfl hb20) rfl rfl (Rn.fldP (o':=2) (gw rfl hb20) rfl rfl (Rn.load (v:=.d (.lst 4 (List.map Qh r9.zE.zG))) (gw rfl hb20) rfl (Qm rfl) rfl rfl (Rn.lenD (gw rfl hb20) rfl (Rn.bin (gw rfl hb20) rfl rfl rfl (Rn.pickT (v:=(b_ ((r9.zE.zG.length:Int) == 2))) tv rfl hb20 rfl (md rfl ?_))))))
       refine Qbg ((r9.zE.zG.length:Int) == 2) (fun hb21=>?_) (fun hb21=>?_)
       ·replace h:=bT hb21 h
        refine Rn.fldP (o':=0) (gw rfl hb21) rfl rfl (Rn.fldP (o':=2) (gw rfl hb21) rfl rfl (Rn.load (v:=.d (.lst 4 (List.map Qh r9.zE.zG))) (gw rfl hb21) rfl (Qm rfl) rfl rfl ?_))
        obtain ⟨x22,h23,h⟩:=bnd h
        refine Rn.idxD (e:=Qh) (gw rfl hb21) rfl rfl h23 (Rn.loadCA (vs:=(Qiv x22)) (gw rfl hb21) rfl rfl rfl (Rn.build (v:=.agg [(i_ 0),(i_ 2),(i_ 4),(i_ 2)]) (gw rfl hb21) rfl (Rn.eqa (r:=((x22.State == 0) && ((x22.Rank == 2) && ((x22.Reason == 4) && ((x22.Event == 2) && true))))) (gw rfl hb21) rfl rfl rfl (Rn.pickT (v:=(b_ ((x22.State == 0) && ((x22.Rank == 2) && ((x22.Reason == 4) && ((x22.Event == 2) && true)))))) tv rfl hb21 rfl (md rfl ?_)))))
        refine Qbg ((x22.State == 0) && ((x22.Rank == 2) && ((x22.Reason == 4) && ((x22.Event == 2) && true)))) (fun hb24=>?_) (fun hb24=>?_)
        ·replace h:=bT hb24 h
         refine Rn.movD (gw rfl hb24) rfl (Rn.bin (gw rfl hb24) rfl rfl rfl (Rn.pickT (v:=(b_ (r13 == 0))) tv rfl hb24 rfl (md rfl ?_)))
         refine Qbg (r13 == 0) (fun hb25=>?_) (fun hb25=>?_)
         ·replace h:=bT hb25 h
          refine Rn.fldP (o':=1) (gw rfl hb25) rfl rfl (Rn.load (v:=(i_ r12.zM)) (gw rfl hb25) rfl (Qm rfl) rfl rfl (Rn.bin (gw rfl hb25) rfl rfl rfl (Rn.pickT (v:=(b_ (r12.zM == 3))) tv rfl hb25 rfl (md rfl ?_))))
          refine Qbg (r12.zM == 3) (fun hb26=>?_) (fun hb26=>?_)
          ·replace h:=bT hb26 h
           refine Rn.fldP (o':=3) (gw rfl hb26) rfl rfl (Rn.load (v:=.d (.lst 3 (List.map Qa r12.zL))) (gw rfl hb26) rfl (Qm rfl) rfl rfl (Rn.lenD (gw rfl hb26) rfl (Rn.bin (gw rfl hb26) rfl rfl rfl (Rn.pickT (v:=(b_ ((r12.zL.length:Int) == 8))) tv rfl hb26 rfl (md rfl (Rn.nil ?_))))))
           replace h:=si h; subst h
           exact Qj [] ⟨(sm rfl),tv⟩ ⟨⟨_,rfl,rfl,(.same rfl)⟩,⟨_,rfl,rfl,(.same rfl)⟩,⟨_,rfl,rfl,(.same rfl)⟩,tv⟩ rfl
          ·replace h:=bF hb26 h
           refine Rn.sk (nw rfl hb26) (Rn.sk (nw rfl hb26) (Rn.sk (nw rfl hb26) (Rn.sk (nw rfl hb26) (Rn.pickF (v:=(b_ false)) tv rfl hb26 rfl (md rfl (Rn.nil ?_))))))
           replace h:=si h; subst h
           exact Qj [] ⟨(sm rfl),tv⟩ ⟨⟨_,rfl,rfl,(.same rfl)⟩,⟨_,rfl,rfl,(.same rfl)⟩,⟨_,rfl,rfl,(.same rfl)⟩,tv⟩ rfl
         ·replace h:=bF hb25 h
          refine Rn.sk (nw rfl hb25) (Rn.sk (nw rfl hb25) (Rn.sk (nw rfl hb25) (Rn.pickF (v:=(b_ false)) tv rfl hb25 rfl (md rfl (Rn.sk (nw (b:=false) rfl rfl) (Rn.sk (nw (b:=false) rfl rfl) (Rn.sk (nw (b:=false) rfl rfl) (Rn.sk (nw (b:=false) rfl rfl) (Rn.pickF (v:=(b_ false)) tv rfl rfl rfl (md rfl (Rn.nil ?_)))))))))))
          replace h:=si h; subst h
          exact Qj [] ⟨(sm rfl),tv⟩ ⟨⟨_,rfl,rfl,(.same rfl)⟩,⟨_,rfl,rfl,(.same rfl)⟩,⟨_,rfl,rfl,(.same rfl)⟩,tv⟩ rfl
        ·replace h:=bF hb24 h
         refine Rn.sk (nw rfl hb24) (Rn.sk (nw rfl hb24) (Rn.pickF (v:=(b_ false)) tv rfl hb24 rfl (md rfl (Rn.sk (nw (b:=false) rfl rfl) (Rn.sk (nw (b:=false) rfl rfl) (Rn.sk (nw (b:=false) rfl rfl) (Rn.pickF (v:=(b_ false)) tv rfl rfl rfl (md rfl (Rn.sk (nw (b:=false) rfl rfl) (Rn.sk (nw (b:=false) rfl rfl) (Rn.sk (nw (b:=false) rfl rfl) (Rn.sk (nw (b:=false) rfl rfl) (Rn.pickF (v:=(b_ false)) tv rfl rfl rfl (md rfl (Rn.nil ?_)))))))))))))))
         replace h:=si h; subst h
         exact Qj [] ⟨(sm rfl),tv⟩ ⟨⟨_,rfl,rfl,(.same rfl)⟩,⟨_,rfl,rfl,(.same rfl)⟩,⟨_,rfl,rfl,(.same rfl)⟩,tv⟩ rfl
       ·replace h:=bF hb21 h
        refine Rn.sk (nw rfl hb21) (Rn.sk (nw rfl hb21) (Rn.sk (nw rfl hb21) (Rn.sk (nw rfl hb21) (Rn.sk (nw rfl hb21) (Rn.sk (nw rfl hb21) (Rn.sk (nw rfl hb21) (Rn.pickF (v:=(b_ false)) tv rfl hb21 rfl (md rfl (Rn.sk (nw (b:=false) rfl rfl) (Rn.sk (nw (b:=false) rfl rfl) (Rn.pickF (v:=(b_ false)) tv rfl rfl rfl (md rfl (Rn.sk (nw (b:=false) rfl rfl) (Rn.sk (nw (b:=false) rfl rfl) (Rn.sk (nw (b:=false) rfl rfl) (Rn.pickF (v:=(b_ false)) tv rfl rfl rfl (md rfl (Rn.sk (nw (b:=false) rfl rfl) (Rn.sk (nw (b:=false) rfl rfl) (Rn.sk (nw (b:=false) rfl rfl) (Rn.sk (nw (b:=false) rfl rfl) (Rn.pickF (v:=(b_ false)) tv rfl rfl rfl (md rfl (Rn.nil ?_))))))))))))))))))))))))
        replace h:=si h; subst h
        exact Qj [] ⟨(sm rfl),tv⟩ ⟨⟨_,rfl,rfl,(.same rfl)⟩,⟨_,rfl,rfl,(.same rfl)⟩,⟨_,rfl,rfl,(.same rfl)⟩,tv⟩ rfl
      ·replace h:=bF hb20 h
       refine Rn.sk (nw rfl hb20) (Rn.sk (nw rfl hb20) (Rn.sk (nw rfl hb20) (Rn.sk (nw rfl hb20) (Rn.sk (nw rfl hb20) (Rn.pickF (v:=(b_ false)) tv rfl hb20 rfl (md rfl (Rn.sk (nw (b:=false) rfl rfl) (Rn.sk (nw (b:=false) rfl rfl) (Rn.sk (nw (b:=false) rfl rfl) (Rn.sk (nw (b:=false) rfl rfl) (Rn.sk (nw (b:=false) rfl rfl) (Rn.sk (nw (b:=false) rfl rfl) (Rn.sk (nw (b:=false) rfl rfl) (Rn.pickF (v:=(b_ false)) tv rfl rfl rfl (md rfl (Rn.sk (nw (b:=false) rfl rfl) (Rn.sk (nw (b:=false) rfl rfl) (Rn.pickF (v:=(b_ false)) tv rfl rfl rfl (md rfl (Rn.sk (nw (b:=false) rfl rfl) (Rn.sk (nw (b:=false) rfl rfl) (Rn.sk (nw (b:=false) rfl rfl) (Rn.pickF (v:=(b_ false)) tv rfl rfl rfl (md rfl (Rn.sk (nw (b:=false) rfl rfl) (Rn.sk (nw (b:=false) rfl rfl) (Rn.sk (nw (b:=false) rfl rfl) (Rn.sk (nw (b:=false) rfl rfl) (Rn.pickF (v:=(b_ false)) tv rfl rfl rfl (md rfl (Rn.nil ?_)))))))))))))))))))))))))))))))
       replace h:=si h; subst h
       exact Qj [] ⟨(sm rfl),tv⟩ ⟨⟨_,rfl,rfl,(.same rfl)⟩,⟨_,rfl,rfl,(.same rfl)⟩,⟨_,rfl,rfl,(.same rfl)⟩,tv⟩ rfl
     ·replace h:=bF hb19 h
      refine Rn.sk (nw rfl hb19) (Rn.sk (nw rfl hb19) (Rn.pickF (v:=(b_ false)) tv rfl hb19 rfl (md rfl (Rn.sk (nw (b:=false) rfl rfl) (Rn.sk (nw (b:=false) rfl rfl) (Rn.sk (nw (b:=false) rfl rfl) (Rn.sk (nw (b:=false) rfl rfl) (Rn.sk (nw (b:=false) rfl rfl) (Rn.pickF (v:=(b_ false)) tv rfl rfl rfl (md rfl (Rn.sk (nw (b:=false) rfl rfl) (Rn.sk (nw (b:=false) rfl rfl) (Rn.sk (nw (b:=false) rfl rfl) (Rn.sk (nw (b:=false) rfl rfl) (Rn.sk (nw (b:=false) rfl rfl) (Rn.sk (nw (b:=false) rfl rfl) (Rn.sk (nw (b:=false) rfl rfl) (Rn.pickF (v:=(b_ false)) tv rfl rfl rfl (md rfl (Rn.sk (nw (b:=false) rfl rfl) (Rn.sk (nw (b:=false) rfl rfl) (Rn.pickF (v:=(b_ false)) tv rfl rfl rfl (md rfl (Rn.sk (nw (b:=false) rfl rfl) (Rn.sk (nw (b:=false) rfl rfl) (Rn.sk (nw (b:=false) rfl rfl) (Rn.pickF (v:=(b_ false)) tv rfl rfl rfl (md rfl (Rn.sk (nw (b:=false) rfl rfl) (Rn.sk (nw (b:=false) rfl rfl) (Rn.sk (nw (b:=false) rfl rfl) (Rn.sk (nw (b:=false) rfl rfl) (Rn.pickF (v:=(b_ false)) tv rfl rfl rfl (md rfl (Rn.nil ?_)))))))))))))))))))))))))))))))))))
      replace h:=si h; subst h
      exact Qj [] ⟨(sm rfl),tv⟩ ⟨⟨_,rfl,rfl,(.same rfl)⟩,⟨_,rfl,rfl,(.same rfl)⟩,⟨_,rfl,rfl,(.same rfl)⟩,tv⟩ rfl
    ·replace h:=bF hb18 h
     refine Rn.sk (nw rfl hb18) (Rn.sk (nw rfl hb18) (Rn.sk (nw rfl hb18) (Rn.sk (nw rfl hb18) (Rn.pickF (v:=(b_ false)) tv rfl hb18 rfl (md rfl (Rn.sk (nw (b:=false) rfl rfl) (Rn.sk (nw (b:=false) rfl rfl) (Rn.pickF (v:=(b_ false)) tv rfl rfl rfl (md rfl (Rn.sk (nw (b:=false) rfl rfl) (Rn.sk (nw (b:=false) rfl rfl) (Rn.sk (nw (b:=false) rfl rfl) (Rn.sk (nw (b:=false) rfl rfl) (Rn.sk (nw (b:=false) rfl rfl) (Rn.pickF (v:=(b_ false)) tv rfl rfl rfl (md rfl (Rn.sk (nw (b:=false) rfl rfl) (Rn.sk (nw (b:=false) rfl rfl) (Rn.sk (nw (b:=false) rfl rfl) (Rn.sk (nw (b:=false) rfl rfl) (Rn.sk (nw (b:=false) rfl rfl) (Rn.sk (nw (b:=false) rfl rfl) (Rn.sk (nw (b:=false) rfl rfl) (Rn.pickF (v:=(b_ false)) tv rfl rfl rfl (md rfl (Rn.sk (nw (b:=false) rfl rfl) (Rn.sk (nw (b:=false) rfl rfl) (Rn.pickF (v:=(b_ false)) tv rfl rfl rfl (md rfl (Rn.sk (nw (b:=false) rfl rfl) (Rn.sk (nw (b:=false) rfl rfl) (Rn.sk (nw (b:=false) rfl rfl) (Rn.pickF (v:=(b_ false)) tv rfl rfl rfl (md rfl (Rn.sk (nw (b:=false) rfl rfl) (Rn.sk (nw (b:=false) rfl rfl) (Rn.sk (nw (b:=false) rfl rfl) (Rn.sk (nw (b:=false) rfl rfl) (Rn.pickF (v:=(b_ false)) tv rfl rfl rfl ?_)))))))))))))))))))))))))))))))))))))))
     refine md rfl (Rn.nil ?_)
     replace h:=si h; subst h
     exact Qj [] ⟨(sm rfl),tv⟩ ⟨⟨_,rfl,rfl,(.same rfl)⟩,⟨_,rfl,rfl,(.same rfl)⟩,⟨_,rfl,rfl,(.same rfl)⟩,tv⟩ rfl
   ·replace h:=bF hb17 h
    refine Rn.sk (nw rfl hb17) (Rn.sk (nw rfl hb17) (Rn.sk (nw rfl hb17) (Rn.sk (nw rfl hb17) (Rn.pickF (v:=(b_ false)) tv rfl hb17 rfl (md rfl (Rn.sk (nw (b:=false) rfl rfl) (Rn.sk (nw (b:=false) rfl rfl) (Rn.sk (nw (b:=false) rfl rfl) (Rn.sk (nw (b:=false) rfl rfl) (Rn.pickF (v:=(b_ false)) tv rfl rfl rfl (md rfl (Rn.sk (nw (b:=false) rfl rfl) (Rn.sk (nw (b:=false) rfl rfl) (Rn.pickF (v:=(b_ false)) tv rfl rfl rfl (md rfl (Rn.sk (nw (b:=false) rfl rfl) (Rn.sk (nw (b:=false) rfl rfl) (Rn.sk (nw (b:=false) rfl rfl) (Rn.sk (nw (b:=false) rfl rfl) (Rn.sk (nw (b:=false) rfl rfl) (Rn.pickF (v:=(b_ false)) tv rfl rfl rfl (md rfl (Rn.sk (nw (b:=false) rfl rfl) (Rn.sk (nw (b:=false) rfl rfl) (Rn.sk (nw (b:=false) rfl rfl) (Rn.sk (nw (b:=false) rfl rfl) (Rn.sk (nw (b:=false) rfl rfl) (Rn.sk (nw (b:=false) rfl rfl) (Rn.sk (nw (b:=false) rfl rfl) (Rn.pickF (v:=(b_ false)) tv rfl rfl rfl (md rfl (Rn.sk (nw (b:=false) rfl rfl) (Rn.sk (nw (b:=false) rfl rfl) (Rn.pickF (v:=(b_ false)) tv rfl rfl rfl (md rfl (Rn.sk (nw (b:=false) rfl rfl) (Rn.sk (nw (b:=false) rfl rfl) (Rn.sk (nw (b:=false) rfl rfl) (Rn.pickF (v:=(b_ false)) tv rfl rfl rfl ?_)))))))))))))))))))))))))))))))))))))))
    refine md rfl (Rn.sk (nw (b:=false) rfl rfl) (Rn.sk (nw (b:=false) rfl rfl) (Rn.sk (nw (b:=false) rfl rfl) (Rn.sk (nw (b:=false) rfl rfl) (Rn.pickF (v:=(b_ false)) tv rfl rfl rfl (md rfl (Rn.nil ?_)))))))
    replace h:=si h; subst h
    exact Qj [] ⟨(sm rfl),tv⟩ ⟨⟨_,rfl,rfl,(.same rfl)⟩,⟨_,rfl,rfl,(.same rfl)⟩,⟨_,rfl,rfl,(.same rfl)⟩,tv⟩ rfl
  ·replace h:=bF hb14 h
   refine Rn.sk (nw rfl hb14) (Rn.sk (nw rfl hb14) (Rn.sk (nw rfl hb14) (Rn.sk (nw rfl hb14) (Rn.pickF (v:=(b_ false)) tv rfl hb14 rfl (md rfl (Rn.sk (nw (b:=false) rfl rfl) (Rn.sk (nw (b:=false) rfl rfl) (Rn.sk (nw (b:=false) rfl rfl) (Rn.sk (nw (b:=false) rfl rfl) (Rn.pickF (v:=(b_ false)) tv rfl rfl rfl (md rfl (Rn.sk (nw (b:=false) rfl rfl) (Rn.sk (nw (b:=false) rfl rfl) (Rn.sk (nw (b:=false) rfl rfl) (Rn.sk (nw (b:=false) rfl rfl) (Rn.pickF (v:=(b_ false)) tv rfl rfl rfl (md rfl (Rn.sk (nw (b:=false) rfl rfl) (Rn.sk (nw (b:=false) rfl rfl) (Rn.pickF (v:=(b_ false)) tv rfl rfl rfl (md rfl (Rn.sk (nw (b:=false) rfl rfl) (Rn.sk (nw (b:=false) rfl rfl) (Rn.sk (nw (b:=false) rfl rfl) (Rn.sk (nw (b:=false) rfl rfl) (Rn.sk (nw (b:=false) rfl rfl) (Rn.pickF (v:=(b_ false)) tv rfl rfl rfl (md rfl (Rn.sk (nw (b:=false) rfl rfl) (Rn.sk (nw (b:=false) rfl rfl) (Rn.sk (nw (b:=false) rfl rfl) (Rn.sk (nw (b:=false) rfl rfl) (Rn.sk (nw (b:=false) rfl rfl) (Rn.sk (nw (b:=false) rfl rfl) (Rn.sk (nw (b:=false) rfl rfl) (Rn.pickF (v:=(b_ false)) tv rfl rfl rfl (md rfl (Rn.sk (nw (b:=false) rfl rfl) (Rn.sk (nw (b:=false) rfl rfl) ?_)))))))))))))))))))))))))))))))))))))))
   refine Rn.pickF (v:=(b_ false)) tv rfl rfl rfl (md rfl (Rn.sk (nw (b:=false) rfl rfl) (Rn.sk (nw (b:=false) rfl rfl) (Rn.sk (nw (b:=false) rfl rfl) (Rn.pickF (v:=(b_ false)) tv rfl rfl rfl (md rfl (Rn.sk (nw (b:=false) rfl rfl) (Rn.sk (nw (b:=false) rfl rfl) (Rn.sk (nw (b:=false) rfl rfl) (Rn.sk (nw (b:=false) rfl rfl) (Rn.pickF (v:=(b_ false)) tv rfl rfl rfl (md rfl (Rn.nil ?_)))))))))))))
   replace h:=si h; subst h
   exact Qj [] ⟨(sm rfl),tv⟩ ⟨⟨_,rfl,rfl,(.same rfl)⟩,⟨_,rfl,rfl,(.same rfl)⟩,⟨_,rfl,rfl,(.same rfl)⟩,tv⟩ rfl
 ·obtain ⟨x27,rfl⟩ : ∃ x,x = z:=⟨_,rfl⟩
  refine Tr.ret ?_
  replace h:=si h; subst h
  exact ⟨.inr rfl,(b_ x27),rfl,fun _ _ _ _ h=>h,tv,fun k hk=>Qf hk⟩
theorem Qn3 {P:Program} {c:Nat} (hcf:Qy P c = some Qed):Qec P c (Qbc):=by
 intro state1 x2 x3 x6 x9 k4 k7 k10 r h
 intro M nb hk5 hk8 hk11
 refine Qqn hcf rfl M nb fun Γ hP hnt hn0 hM=>?_
 subst hP hn0
 refine Tr.init [(0,(i_ state1)),(1,(i_ x2)),(2,.ptr k4 0),(3,.ptr k7 0),(4,.ptr k10 0)] rfl ?_
 unfold Qbc at h
 unfold Qed
 refine sr ((md rfl (nt ((Tr.seq (Tr.block (sr ((md rfl (Rn.load (v:=(i_ x3)) tv rfl (Qx hM hk5) rfl rfl (Rn.bin tv rfl rfl rfl (md rfl (Rn.nil (toN ?_))))))))))))))
 refine Tr.cond rfl (fun hb12=>?_) (fun hb12=>?_)
 ·replace h:=bT hb12 h
  refine sr ((md rfl (nt ((Tr.ret ?_)))))
  replace h:=si h; subst h
  exact ⟨.inr rfl,(i_ 1),rfl,fun _ _ _ _ h=>h,tv,fun k hk=>Qf hk⟩
 ·replace h:=bF hb12 h
  refine sr ((md rfl (Rn.load (v:=(i_ x6)) tv rfl (Qx hM hk8) rfl rfl (Rn.bin tv rfl rfl rfl (md rfl (Rn.nil (toN ?_)))))))
  refine Tr.cond rfl (fun hb13=>?_) (fun hb13=>?_)
  ·replace h:=bT hb13 h
   refine sr ((md rfl (Rn.bin tv rfl rfl rfl (Rn.load (v:=(i_ x9)) tv rfl (Qx hM hk11) rfl rfl (Rn.bin tv rfl rfl rfl (Rn.min2 tv rfl rfl (md rfl (nt ((Tr.ret ?_))))))))))
   replace h:=si h; subst h
   exact ⟨.inr rfl,(i_ (if (IntKind.wrap .i64 (x9 + 1)) < (IntKind.wrap .i64 (state1 + 1)) then (IntKind.wrap .i64 (x9 + 1)) else (IntKind.wrap .i64 (state1 + 1)))),rfl,fun _ _ _ _ h=>h,tv,fun k hk=>Qf hk⟩
  ·replace h:=bF hb13 h
   refine sr ((md rfl (Rn.load (v:=(i_ x9)) tv rfl (Qx hM hk11) rfl rfl (Rn.bin tv rfl rfl rfl (Rn.bin tv rfl rfl rfl (md rfl (Rn.nil (toN ?_))))))))
   refine Tr.cond rfl (fun hb14=>?_) (fun hb14=>?_)
   ·replace h:=bT hb14 h
    refine sr ((md rfl (nt ((Tr.ret ?_)))))
    replace h:=si h; subst h
    exact ⟨.inr rfl,(i_ 0),rfl,fun _ _ _ _ h=>h,tv,fun k hk=>Qf hk⟩
   ·replace h:=bF hb14 h
    refine Tr.skip (toN (sr ((md rfl (nt ((Tr.ret ?_)))))))
    replace h:=si h; subst h
    exact ⟨.inr rfl,(i_ (-1)),rfl,fun _ _ _ _ h=>h,tv,fun k hk=>Qf hk⟩
theorem Qqd {P:Program} {c:Nat} {Qu:Int→Int→Int→Int→Bool→(Int→Int→Option Int)→Option (Qg×Int)} {Qbc:Int→Int→Int→Int→Int→Option Int}
    (H_timedsynthesis_clock:Qds P 47 Qu)
    (H_timedsynthesis_Delay_1:Qec P 49 Qbc) (hcf:Qy P c = some Qgd):Qgc P c (Qbd Qu Qbc):=by
 intro xfrom1 to2 ticks3 tick4 r h
 refine Qen hcf rfl fun Γ M hP hnt hM=>?_
 subst hP
 refine Tr.init [(0,(i_ xfrom1)),(1,(i_ to2)),(2,(i_ ticks3)),(3,(i_ tick4))] rfl ?_
 unfold Qbd at h
 unfold Qgd
 refine sr ((Rn.box (v:=(i_ xfrom1)) (cs:=[(i_ xfrom1)]) tv rfl rfl rfl rfl rfl (Rn.box (v:=(i_ ticks3)) (cs:=[(i_ ticks3)]) tv rfl rfl rfl rfl rfl (Rn.box (v:=(i_ tick4)) (cs:=[(i_ tick4)]) tv rfl rfl rfl rfl rfl (Rn.alloc tv rfl (md rfl (nt ((sr ((Rn.load (v:=(i_ xfrom1)) tv rfl (Qm rfl) rfl rfl (md rfl (Rn.load (v:=(i_ ticks3)) tv rfl (Qm rfl) rfl rfl (Rn.load (v:=(i_ tick4)) tv rfl (Qm rfl) rfl rfl (Rn.k (v:=.clo 49 [.ptr (Γ.n0 + 4) 0,.ptr (Γ.n0 + 7) 0,.ptr (Γ.n0 + 6) 0]) tv rfl rfl rfl ?_)))))))))))))))
 obtain ⟨⟨r10,r11⟩,h9,h⟩:=bnd h
 refine Rn.callM (args:=[(i_ xfrom1),(i_ to2),(i_ ticks3),(i_ tick4),(b_ true),.clo 49 [.ptr (Γ.n0 + 4) 0,.ptr (Γ.n0 + 7) 0,.ptr (Γ.n0 + 6) 0]]) tv rfl (fun M2 nb2 hn hx=>H_timedsynthesis_clock _ _ _ _ _ _ 49 [.ptr (Γ.n0 + 4) 0,.ptr (Γ.n0 + 7) 0,.ptr (Γ.n0 + 6) 0] _ h9 M2 nb2 rfl ⟨Qnp (hx _ _ (Qm rfl)),Qnp (hx _ _ (Qm rfl)),Qnp (hx _ _ (Qm rfl)),tv⟩ (fun a5 a6 r7 h8 M3 nb3 hn3 hx3=>H_timedsynthesis_Delay_1 a5 a6 xfrom1 tick4 ticks3 (Γ.n0 + 4) (Γ.n0 + 7) (Γ.n0 + 6) r7 h8 M3 nb3 ((hx.trans hx3) _ _ (Qm rfl)) ((hx.trans hx3) _ _ (Qm rfl)) ((hx.trans hx3) _ _ (Qm rfl)))) rfl pc9 ?_
 refine Rn.ext (v:=(Qd r10)) (vs:=[(Qd r10),(i_ r11)]) tv rfl rfl rfl (Rn.ext (v:=(i_ r11)) (vs:=[(Qd r10),(i_ r11)]) tv rfl rfl rfl (Rn.storeT (v:=(Qd r10)) (ds:=(Qe r10)) (cs':=(Qe r10)) tv rfl rfl rfl rfl rfl rfl rfl (md rfl (nt ((Tr.ret ?_))))))
 replace h:=si h; subst h
 exact ⟨.inr rfl,.tup [(Qd r10),(i_ r11)],res2 (Qo0 rfl rfl rfl rfl) rfl,(WkV.tup (.cons (.same rfl) (.cons (.same rfl) .nil))).rd,⟨⟨tv,tv,tv,tv,tv⟩,tv,tv⟩,fun k hk=>Qf hk⟩
theorem Qtc {P:Program} {c:Nat} (hcf:Qy P c = some Qh4) (fuel:Nat):Qh3 P c (Qbw fuel):=by
 intro s1 s2 r h
 refine Qen hcf rfl fun Γ M hP hnt hM=>?_
 subst hP
 refine Tr.init [(0,.d (.lst 3 (List.map Qa s1))),(1,.d (.lst 3 (List.map Qa s2)))] rfl ?_
 unfold Qbw at h
 unfold Qh4
 refine sr ((md rfl (nt ((Tr.seq (sr ((md rfl (Rn.lenD tv rfl (md rfl (Rn.lenD tv rfl (Rn.bin tv rfl rfl rfl (Rn.nil (toN ?_))))))))))))))
 refine Tr.cond rfl (fun hb3=>?_) (fun hb3=>?_)
 ·replace h:=bT hb3 h
  refine sr ((md rfl (nt ((Tr.ret ?_)))))
  replace h:=si h; subst h
  exact ⟨.inr rfl,(b_ false),rfl,fun _ _ _ _ h=>h,tv,fun k hk=>Qf hk⟩
 ·replace h:=bF hb3 h
  refine Tr.skip (toN (Tr.seq (sr ((md rfl (Rn.lenD tv rfl (md rfl (nt ((Tr.block ?_))))))))))
  refine Tr.loop (mk:=fun (x4:Int)=>⟨look [(0,.d (.lst 3 (List.map Qa s1))),(1,.d (.lst 3 (List.map Qa s2))),(12,(i_ (s1.length:Int))),(13,(i_ x4))],Qo Γ.n0 (bxs []) M,Γ.n0 + 26⟩) h (by exact Qq ⟨(sm rfl),(sm rfl),(sm rfl),(sm rfl),tv⟩ tv rfl) (fun k5 z h=>?_)
  ·obtain ⟨x4,rfl⟩ : ∃ x,x = z:=⟨_,rfl⟩
   replace h:_ = some _:=h
   refine sr ((Rn.bin tv rfl rfl rfl (nt ((Tr.seq ?_)))))
   refine Tr.cond rfl (fun hb6=>?_) (fun hb6=>?_)
   ·replace h:=ifT hb6 h
    refine Tr.skip (toN (Tr.seq (Tr.block (sr ((md rfl (md rfl (nt ((Tr.seq ?_))))))))))
    refine Tr.rgnD (by decide) ?_
    refine md rfl (md rfl ?_)
    obtain ⟨x7,h8,h⟩:=bnd h
    refine Rn.idxD (e:=Qa) tv rfl rfl h8 (Rn.loadCA (vs:=(Qbh x7)) tv rfl rfl rfl (md rfl (md rfl ?_)))
    obtain ⟨x9,h10,h⟩:=bnd h
    refine Rn.idxD (e:=Qa) tv rfl rfl h10 (Rn.loadCA (vs:=(Qbh x9)) tv rfl rfl rfl (Rn.eqa (r:=((x7.From == x9.From) && ((x7.Event == x9.Event) && ((x7.To == x9.To) && true)))) tv rfl rfl rfl ?_))
    refine Rn.nil ⟨rfl,?_⟩
    refine toN ?_
    refine Tr.cond rfl (fun hb11=>?_) (fun hb11=>?_)
    ·have hb11:=nT' hb11
     replace h:=bF hb11 h
     refine sr ((md rfl (nt ((Tr.ret ?_)))))
     replace h:=si h; subst h
     exact ⟨.inr rfl,(b_ false),rfl,fun _ _ _ _ h=>h,tv,fun k hk=>Qf hk⟩
    ·have hb11:=nF' hb11
     replace h:=bT hb11 h
     refine Tr.skip (toN (Tr.rgn (Rn.bin tv rfl rfl rfl (md rfl (Rn.nil ?_)))))
     exact ⟨_,h,(by exact Qq ⟨(sm rfl),(sm rfl),(sm rfl),(sm rfl),tv⟩ tv rfl)⟩
   ·replace h:=ifF hb6 h
    refine Tr.exit (toN (sr ((md rfl (nt ((Tr.ret ?_)))))))
    replace h:=si h; subst h
    exact ⟨.inr rfl,(b_ true),rfl,fun _ _ _ _ h=>h,tv,fun k hk=>Qf hk⟩
theorem Qv8 {P:Program} {c:Nat} {Q6:(List Int)→(List Int)→Option Bool} {Qbw:(List Qb)→(List Qb)→Option Bool}
    (H_slices_Equal_int:Qgq P 45 Q6)
    (H_slices_Equal_Edge:Qh3 P 46 Qbw) (hcf:Qy P c = some Qj5):Qg6 P c (Qba Q6 Qbw):=by
 intro a1 b2 r h
 refine Qen hcf rfl fun Γ M hP hnt hM=>?_
 subst hP
 refine Tr.init [(0,(Qd a1)),(1,(Qd b2))] rfl ?_
 unfold Qba at h
 unfold Qj5
 refine sr ((Rn.box (v:=(Qd a1)) (cs:=(Qe a1)) tv rfl rfl rfl rfl rfl (Rn.box (v:=(Qd b2)) (cs:=(Qe b2)) tv rfl rfl rfl rfl rfl (md rfl (nt ((sr ((Rn.fldP (o':=1) tv rfl rfl (Rn.load (v:=(i_ a1.zM)) tv rfl (Qm rfl) rfl rfl (Rn.fldP (o':=1) tv rfl rfl (Rn.load (v:=(i_ b2.zM)) tv rfl (Qm rfl) rfl rfl (Rn.bin tv rfl rfl rfl (md rfl ?_))))))))))))))
 refine Qbg (a1.zM == b2.zM) (fun hb3=>?_) (fun hb3=>?_)
 ·replace h:=bT hb3 h
  refine Rn.fldP (o':=0) (gw rfl hb3) rfl rfl (Rn.load (v:=(l_ a1.zJ)) (gw rfl hb3) rfl (Qm rfl) rfl rfl (Rn.fldP (o':=0) (gw rfl hb3) rfl rfl (Rn.load (v:=(l_ b2.zJ)) (gw rfl hb3) rfl (Qm rfl) rfl rfl ?_)))
  obtain ⟨x5,h4,h⟩:=bnd h
  refine Rn.call (args:=[(l_ a1.zJ),(l_ b2.zJ)]) (gw rfl hb3) rfl (H_slices_Equal_int _ _ _ h4) pc9 (Rn.pickT (v:=(b_ x5)) tv rfl hb3 rfl (md rfl ?_))
  refine Qbg x5 (fun hb6=>?_) (fun hb6=>?_)
  ·replace h:=bT hb6 h
   refine Rn.fldP (o':=2) (gw rfl hb6) rfl rfl (Rn.load (v:=(l_ a1.zK)) (gw rfl hb6) rfl (Qm rfl) rfl rfl (Rn.fldP (o':=2) (gw rfl hb6) rfl rfl (Rn.load (v:=(l_ b2.zK)) (gw rfl hb6) rfl (Qm rfl) rfl rfl ?_)))
   obtain ⟨x8,h7,h⟩:=bnd h
   refine Rn.call (args:=[(l_ a1.zK),(l_ b2.zK)]) (gw rfl hb6) rfl (H_slices_Equal_int _ _ _ h7) pc9 (Rn.pickT (v:=(b_ x8)) tv rfl hb6 rfl (md rfl ?_))
   refine Qbg x8 (fun hb9=>?_) (fun hb9=>?_)
   ·replace h:=bT hb9 h
    refine Rn.fldP (o':=3) (gw rfl hb9) rfl rfl (Rn.load (v:=.d (.lst 3 (List.map Qa a1.zL))) (gw rfl hb9) rfl (Qm rfl) rfl rfl (Rn.fldP (o':=3) (gw rfl hb9) rfl rfl (Rn.load (v:=.d (.lst 3 (List.map Qa b2.zL))) (gw rfl hb9) rfl (Qm rfl) rfl rfl ?_)))
    obtain ⟨x11,h10,h⟩:=bnd h
    refine Rn.call (args:=[.d (.lst 3 (List.map Qa a1.zL)),.d (.lst 3 (List.map Qa b2.zL))]) (gw rfl hb9) rfl (H_slices_Equal_Edge _ _ _ h10) pc9 (Rn.pickT (v:=(b_ x11)) tv rfl hb9 rfl (md rfl (nt ((Tr.ret ?_)))))
    replace h:=si h; subst h
    exact ⟨.inr rfl,(b_ x11),rfl,fun _ _ _ _ h=>h,tv,fun k hk=>Qf hk⟩
   ·replace h:=bF hb9 h
    refine Rn.sk (nw rfl hb9) (Rn.sk (nw rfl hb9) (Rn.sk (nw rfl hb9) (Rn.sk (nw rfl hb9) (Rn.sk (nw rfl hb9) (Rn.pickF (v:=(b_ false)) tv rfl hb9 rfl (md rfl (nt ((Tr.ret ?_)))))))))
    replace h:=si h; subst h
    exact ⟨.inr rfl,(b_ false),rfl,fun _ _ _ _ h=>h,tv,fun k hk=>Qf hk⟩
  ·replace h:=bF hb6 h
   refine Rn.sk (nw rfl hb6) (Rn.sk (nw rfl hb6) (Rn.sk (nw rfl hb6) (Rn.sk (nw rfl hb6) (Rn.sk (nw rfl hb6) (Rn.pickF (v:=(b_ false)) tv rfl hb6 rfl (md rfl (Rn.sk (nw (b:=false) rfl rfl) (Rn.sk (nw (b:=false) rfl rfl) (Rn.sk (nw (b:=false) rfl rfl) (Rn.sk (nw (b:=false) rfl rfl) (Rn.sk (nw (b:=false) rfl rfl) (Rn.pickF (v:=(b_ false)) tv rfl rfl rfl (md rfl (nt ((Tr.ret ?_))))))))))))))))
   replace h:=si h; subst h
   exact ⟨.inr rfl,(b_ false),rfl,fun _ _ _ _ h=>h,tv,fun k hk=>Qf hk⟩
 ·replace h:=bF hb3 h
  refine Rn.sk (nw rfl hb3) (Rn.sk (nw rfl hb3) (Rn.sk (nw rfl hb3) (Rn.sk (nw rfl hb3) (Rn.sk (nw rfl hb3) (Rn.pickF (v:=(b_ false)) tv rfl hb3 rfl (md rfl (Rn.sk (nw (b:=false) rfl rfl) (Rn.sk (nw (b:=false) rfl rfl) (Rn.sk (nw (b:=false) rfl rfl) (Rn.sk (nw (b:=false) rfl rfl) (Rn.sk (nw (b:=false) rfl rfl) (Rn.pickF (v:=(b_ false)) tv rfl rfl rfl (md rfl (Rn.sk (nw (b:=false) rfl rfl) (Rn.sk (nw (b:=false) rfl rfl) (Rn.sk (nw (b:=false) rfl rfl) (Rn.sk (nw (b:=false) rfl rfl) (Rn.sk (nw (b:=false) rfl rfl) (Rn.pickF (v:=(b_ false)) tv rfl rfl rfl (md rfl (nt ((Tr.ret ?_)))))))))))))))))))))))
  replace h:=si h; subst h
  exact ⟨.inr rfl,(b_ false),rfl,fun _ _ _ _ h=>h,tv,fun k hk=>Qf hk⟩
theorem Qsq {P:Program} {c:Nat} {Qba:Qg→Qg→Option Bool}
    (H_automaton_Equal:Qg6 P 15 Qba) (hcf:Qy P c = some Qhe):Qhd P c (Qbi Qba):=by
 intro a1 r h
 refine Qen hcf rfl fun Γ M hP hnt hM=>?_
 subst hP
 refine Tr.init [(0,(Qd a1))] rfl ?_
 unfold Qbi at h
 unfold Qhe
 refine sr ((Rn.box (v:=(Qd a1)) (cs:=(Qe a1)) tv rfl rfl rfl rfl rfl (md rfl (nt ((sr ((Rn.load (v:=(Qd a1)) tv rfl (Qm rfl) rfl rfl (Rn.build (v:=.agg [.nils 1,(i_ 0),.nils 1,.nils 3]) tv rfl ?_)))))))))
 obtain ⟨x3,h2,h⟩:=bnd h
 refine Rn.call (args:=[(Qd a1),.agg [.nils 1,(i_ 0),.nils 1,.nils 3]]) tv rfl (fun M2 nb2=>ACalls.weak (args':=[(Qd a1),.agg [(l_ []),(i_ 0),(l_ []),.d (.lst 3 (List.map Qa []))]]) (H_automaton_Equal _ _ _ h2 M2 nb2) (.cons (sm rfl) (.cons (WkV.agg (.cons (WkV.nilsD _) (.cons (sm rfl) (.cons (WkV.nilsD _) (.cons (WkV.nilsD _) .nil))))) .nil)) rfl) pc9 ?_
 refine md rfl (nt ((Tr.ret ?_)))
 replace h:=si h; subst h
 exact ⟨.inr rfl,(b_ x3),rfl,fun _ _ _ _ h=>h,tv,fun k hk=>Qf hk⟩
theorem Qfw {P:Program} {c:Nat} {Qbu:Option Bool} {Qba:Qg→Qg→Option Bool} {Qs:Int→Int→Int→Int→Option (Qg×Int)} {Qbd:Int→Int→Int→Int→Option (Qg×Int)} {Qbi:Qg→Option Bool}
    (H_overseerlaw46_known:Qg0 P 9 Qbu)
    (H_automaton_Equal:Qg6 P 15 Qba)
    (H_timedsynthesis_Deadline:Qcu P 17 Qs)
    (H_timedsynthesis_Delay:Qgc P 18 Qbd)
    (H_overseerlaw46_none:Qhd P 19 Qbi) (hcf:Qy P c = some Qb2) (fuel:Nat):Qc0 P c (Qbm Qbu Qba Qs Qbd Qbi fuel):=by
 intro xfrom1 to2 n3 r h
 refine Qen hcf rfl fun Γ M hP hnt hM=>?_
 subst hP
 refine Tr.init [(0,(i_ xfrom1)),(1,(i_ to2)),(2,.agg [(i_ n3.1),(i_ n3.2)])] rfl ?_
 unfold Qbm at h
 unfold Qb2
 refine sr ((Rn.box (v:=.agg [(i_ n3.1),(i_ n3.2)]) (cs:=[(i_ n3.1),(i_ n3.2)]) tv rfl rfl rfl rfl rfl (md rfl (nt ((Tr.seq (Tr.seq (Tr.rgn ?_))))))))
 obtain ⟨x5,h4,h⟩:=bnd h
 refine Rn.call (args:=[]) tv rfl (H_overseerlaw46_known _ h4) pc9 (Rn.un tv rfl rfl (Rn.nil (toN ?_)))
 refine Tr.cond rfl (fun hb6=>?_) (fun hb6=>?_)
 ·have hb6:=nT' hb6
  replace h:=bF hb6 h
  refine sr ((md rfl (nt ((Tr.ret ?_)))))
  replace h:=si h; subst h
  exact ⟨.inr rfl,(b_ false),rfl,fun _ _ _ _ h=>h,tv,fun k hk=>Qf hk⟩
 ·have hb6:=nF' hb6
  replace h:=bT hb6 h
  refine Tr.skip (toN (Tr.seq ?_))
  refine Tr.rgnD (by decide) ?_
  refine Rn.k (v:=.ptr (Γ.n0 + 5) 0) tv rfl rfl rfl (Rn.load (v:=(i_ n3.1)) tv rfl (Qm rfl) rfl rfl (Rn.k (v:=.ptr (Γ.n0 + 5) 1) tv rfl rfl rfl (Rn.load (v:=(i_ n3.2)) tv rfl (Qm rfl) rfl rfl (md rfl (md rfl ?_)))))
  refine Rn.nil ⟨rfl,?_⟩
  refine toN (sr ((md rfl (md rfl (md rfl (md rfl ?_))))))
  obtain ⟨⟨r8,r9⟩,h7,h⟩:=bnd h
  refine Rn.call (args:=[(i_ xfrom1),(i_ to2),(i_ n3.1),(i_ n3.2)]) tv rfl (H_timedsynthesis_Deadline _ _ _ _ _ h7) pc9 (Rn.mov (v:=.tup [(Qd r8),(i_ r9)]) tv rfl (Rn.ext (v:=(Qd r8)) (vs:=[(Qd r8),(i_ r9)]) tv rfl rfl rfl (Rn.ext (v:=(i_ r9)) (vs:=[(Qd r8),(i_ r9)]) tv rfl rfl rfl (Rn.alloc tv rfl (Rn.storeT (v:=(Qd r8)) (ds:=(Qe r8)) (cs':=(Qe r8)) tv rfl rfl rfl rfl rfl rfl rfl (md rfl (nt ((sr ((md rfl (md rfl (md rfl (md rfl ?_))))))))))))))
  obtain ⟨⟨r11,r12⟩,h10,h⟩:=bnd h
  refine Rn.call (args:=[(i_ xfrom1),(i_ to2),(i_ n3.1),(i_ n3.2)]) tv rfl (H_timedsynthesis_Delay _ _ _ _ _ h10) pc9 (Rn.mov (v:=.tup [(Qd r11),(i_ r12)]) tv rfl (Rn.ext (v:=(Qd r11)) (vs:=[(Qd r11),(i_ r12)]) tv rfl rfl rfl (Rn.ext (v:=(i_ r12)) (vs:=[(Qd r11),(i_ r12)]) tv rfl rfl rfl (Rn.alloc tv rfl (Rn.storeT (v:=(Qd r11)) (ds:=(Qe r11)) (cs':=(Qe r11)) tv rfl rfl rfl rfl rfl rfl rfl (md rfl (nt ((sr ((md rfl (Rn.nil (toN ?_)))))))))))))
  refine Tr.cutB (fun (want23:Int)=>⟨look [(0,(i_ xfrom1)),(1,(i_ to2)),(7,(i_ n3.1)),(8,(i_ n3.2)),(9,.ptr (Γ.n0 + 9) 0),(10,(i_ r9)),(11,.ptr (Γ.n0 + 11) 0),(12,(i_ r12)),(13,(i_ want23))],Qo Γ.n0 (bxs [(5,.cells ([(i_ n3.1),(i_ n3.2)])),(9,.cells ((Qe r8))),(11,.cells ((Qe r11)))]) M,Γ.n0 + 236⟩) h (fun z h=>?_) (fun z h=>?_)
  ·refine sr ((md rfl (md rfl (md rfl (Rn.bslice (xs:=[(i_ xfrom1),(i_ to2),(i_ n3.2)]) (cs:=[(i_ xfrom1),(i_ to2),(i_ n3.2)]) tv rfl rfl rfl rfl (Rn.k (v:=.d (.int .i64 3)) tv rfl rfl rfl (md rfl (nt ((Tr.block ?_))))))))))
   refine Tr.weak (by show WeakSt Γ _ ⟨look [(0,(i_ xfrom1)),(1,(i_ to2)),(2,.agg [(i_ n3.1),(i_ n3.2)]),(5,.ptr (Γ.n0 + 5) 0),(6,(b_ false)),(7,(i_ n3.1)),(8,(i_ n3.2)),(9,.ptr (Γ.n0 + 9) 0),(10,(i_ r9)),(11,.ptr (Γ.n0 + 11) 0),(12,(i_ r12)),(13,(i_ 0)),(24,(b_ x5)),(25,(b_ (!x5))),(26,.ptr (Γ.n0 + 5) 0),(27,(i_ n3.1)),(28,.ptr (Γ.n0 + 5) 1),(29,(i_ n3.2)),(30,.tup [(Qd r8),(i_ r9)]),(31,(i_ xfrom1)),(32,(i_ to2)),(33,(i_ n3.1)),(34,(i_ n3.2)),(35,.tup [(Qd r8),(i_ r9)]),(36,(Qd r8)),(37,(i_ r9)),(38,.tup [(Qd r11),(i_ r12)]),(39,(i_ xfrom1)),(40,(i_ to2)),(41,(i_ n3.1)),(42,(i_ n3.2)),(43,.tup [(Qd r11),(i_ r12)]),(44,(Qd r11)),(45,(i_ r12)),(46,(i_ xfrom1)),(47,(i_ to2)),(48,(i_ n3.2)),(49,(l_ [xfrom1,to2,n3.2])),(50,(i_ 3)),(51,(i_ 0))],Qo Γ.n0 (bxs [(5,.cells ([(i_ n3.1),(i_ n3.2)])),(9,.cells ((Qe r8))),(11,.cells ((Qe r11)))]) M,Γ.n0 + 236⟩; exact Qdh 49 [.int .i64 xfrom1,.int .i64 to2,.int .i64 n3.2] rfl rfl ⟨(.same rfl),(.same rfl),(.same rfl),(fPtr rfl),(.same rfl),(.same rfl),(.same rfl),(fPtr rfl),(.same rfl),(fPtr rfl),(.same rfl),(.same rfl),(.same rfl),(.same rfl),(fPtr rfl),(.same rfl),(fPtr rfl),(.same rfl),(.same rfl),(.same rfl),(.same rfl),(.same rfl),(.same rfl),(.same rfl),(.same rfl),(.same rfl),(.same rfl),(.same rfl),(.same rfl),(.same rfl),(.same rfl),(.same rfl),(.same rfl),(.same rfl),(.same rfl),(.same rfl),(.same rfl),(fSl rfl rfl),(.same rfl),(.same rfl),tv⟩ ⟨⟨_,rfl,rfl,(.same rfl)⟩,⟨_,rfl,rfl,(.same rfl)⟩,⟨_,rfl,rfl,(.same rfl)⟩,tv⟩ rfl) ?_
   refine Tr.loop (mk:=fun ((want13,x14):Int×Int)=>⟨look [(0,(i_ xfrom1)),(1,(i_ to2)),(7,(i_ n3.1)),(8,(i_ n3.2)),(9,.ptr (Γ.n0 + 9) 0),(10,(i_ r9)),(11,.ptr (Γ.n0 + 11) 0),(12,(i_ r12)),(13,(i_ want13)),(49,(l_ [xfrom1,to2,n3.2])),(50,(i_ 3)),(51,(i_ x14))],Qo Γ.n0 (bxs [(5,.cells ([(i_ n3.1),(i_ n3.2)])),(9,.cells ((Qe r8))),(11,.cells ((Qe r11)))]) M,Γ.n0 + 236⟩) h (by exact Qq ⟨(sm rfl),(sm rfl),(sm rfl),(sm rfl),(kPtr rfl),(sm rfl),(kPtr rfl),(sm rfl),(sm rfl),(sm rfl),(sm rfl),(sm rfl),tv⟩ ⟨⟨_,rfl,rfl,(.same rfl)⟩,⟨_,rfl,rfl,(.same rfl)⟩,⟨_,rfl,rfl,(.same rfl)⟩,tv⟩ rfl) (fun k15 z h=>?_)
   ·obtain ⟨want13,x14⟩:=z
    replace h:_ = some _:=h
    refine sr ((Rn.bin tv rfl rfl rfl (nt ((Tr.seq ?_)))))
    refine Tr.cond rfl (fun hb16=>?_) (fun hb16=>?_)
    ·replace h:=ifT hb16 h
     refine Tr.skip (toN ?_)
     refine Tr.cutB (fun (want22:Int)=>⟨look [(0,(i_ xfrom1)),(1,(i_ to2)),(7,(i_ n3.1)),(8,(i_ n3.2)),(9,.ptr (Γ.n0 + 9) 0),(10,(i_ r9)),(11,.ptr (Γ.n0 + 11) 0),(12,(i_ r12)),(13,(i_ want22)),(49,(l_ [xfrom1,to2,n3.2])),(50,(i_ 3)),(51,(i_ x14))],Qo Γ.n0 (bxs [(5,.cells ([(i_ n3.1),(i_ n3.2)])),(9,.cells ((Qe r8))),(11,.cells ((Qe r11)))]) M,Γ.n0 + 236⟩) h (fun z h=>?_) (fun z h=>?_)
     ·refine Tr.block (Tr.seq (Tr.rgn ?_))
      obtain ⟨x17,h18,h⟩:=bnd h
      refine Rn.idxD (e:=(eI .i64)) tv rfl rfl h18 (Rn.loadC (x:=.int .i64 x17) tv rfl (md rfl (Rn.nil (toN ?_))))
      refine Tr.cutB (fun (x20:Bool)=>⟨look [(0,(i_ xfrom1)),(1,(i_ to2)),(7,(i_ n3.1)),(8,(i_ n3.2)),(9,.ptr (Γ.n0 + 9) 0),(10,(i_ r9)),(11,.ptr (Γ.n0 + 11) 0),(12,(i_ r12)),(13,(i_ want13)),(49,(l_ [xfrom1,to2,n3.2])),(50,(i_ 3)),(51,(i_ x14)),(60,(b_ x20))],Qo Γ.n0 (bxs [(5,.cells ([(i_ n3.1),(i_ n3.2)])),(9,.cells ((Qe r8))),(11,.cells ((Qe r11)))]) M,Γ.n0 + 236⟩) h (fun z h=>?_) (fun z h=>?_)
      ·refine Tr.rgn (md rfl (Rn.bin tv rfl rfl rfl (md rfl ?_)))
       refine Qbg (decide (x17 < 0)) (fun hb19=>?_) (fun hb19=>?_)
       ·replace h:=ifT hb19 h
        refine Rn.sk (nw rfl hb19) (Rn.sk (nw rfl hb19) (Rn.pickT (v:=(b_ true)) tv rfl hb19 rfl (Rn.nil ?_)))
        replace h:=si h; subst h
        exact Qj [] ⟨(sm rfl),(sm rfl),(sm rfl),(sm rfl),(kPtr rfl),(sm rfl),(kPtr rfl),(sm rfl),(sm rfl),(sm rfl),(sm rfl),(sm rfl),(sm rfl),tv⟩ ⟨⟨_,rfl,rfl,(.same rfl)⟩,⟨_,rfl,rfl,(.same rfl)⟩,⟨_,rfl,rfl,(.same rfl)⟩,tv⟩ rfl
       ·replace h:=ifF hb19 h
        refine Rn.movD (gw rfl hb19) rfl (Rn.bin (gw rfl hb19) rfl rfl rfl (Rn.pickF (v:=(b_ (decide (x17≥32)))) tv rfl hb19 rfl (Rn.nil ?_)))
        replace h:=si h; subst h
        exact Qj [] ⟨(sm rfl),(sm rfl),(sm rfl),(sm rfl),(kPtr rfl),(sm rfl),(kPtr rfl),(sm rfl),(sm rfl),(sm rfl),(sm rfl),(sm rfl),(sm rfl),tv⟩ ⟨⟨_,rfl,rfl,(.same rfl)⟩,⟨_,rfl,rfl,(.same rfl)⟩,⟨_,rfl,rfl,(.same rfl)⟩,tv⟩ rfl
      ·obtain ⟨x20,rfl⟩ : ∃ x,x = z:=⟨_,rfl⟩
       refine Tr.cond rfl (fun hb21=>?_) (fun hb21=>?_)
       ·replace h:=bT hb21 h
        refine Tr.rgn (md rfl (Rn.nil ?_))
        replace h:=si h; subst h
        exact Qj [] ⟨(sm rfl),(sm rfl),(sm rfl),(sm rfl),(kPtr rfl),(sm rfl),(kPtr rfl),(sm rfl),(sm rfl),(sm rfl),(sm rfl),(sm rfl),tv⟩ ⟨⟨_,rfl,rfl,(.same rfl)⟩,⟨_,rfl,rfl,(.same rfl)⟩,⟨_,rfl,rfl,(.same rfl)⟩,tv⟩ rfl
       ·replace h:=bF hb21 h
        refine Tr.skip ?_
        replace h:=si h; subst h
        exact Qj [] ⟨(sm rfl),(sm rfl),(sm rfl),(sm rfl),(kPtr rfl),(sm rfl),(kPtr rfl),(sm rfl),(sm rfl),(sm rfl),(sm rfl),(sm rfl),tv⟩ ⟨⟨_,rfl,rfl,(.same rfl)⟩,⟨_,rfl,rfl,(.same rfl)⟩,⟨_,rfl,rfl,(.same rfl)⟩,tv⟩ rfl
     ·obtain ⟨want22,rfl⟩ : ∃ x,x = z:=⟨_,rfl⟩
      refine Tr.rgn (Rn.bin tv rfl rfl rfl (md rfl (Rn.nil ?_)))
      exact ⟨_,h,(by exact Qq ⟨(sm rfl),(sm rfl),(sm rfl),(sm rfl),(kPtr rfl),(sm rfl),(kPtr rfl),(sm rfl),(sm rfl),(sm rfl),(sm rfl),(sm rfl),tv⟩ ⟨⟨_,rfl,rfl,(.same rfl)⟩,⟨_,rfl,rfl,(.same rfl)⟩,⟨_,rfl,rfl,(.same rfl)⟩,tv⟩ rfl)⟩
    ·replace h:=ifF hb16 h
     refine Tr.exit ?_
     replace h:=si h; subst h
     exact Qj [] ⟨(sm rfl),(sm rfl),(sm rfl),(sm rfl),(kPtr rfl),(sm rfl),(kPtr rfl),(sm rfl),(sm rfl),tv⟩ ⟨⟨_,rfl,rfl,(.same rfl)⟩,⟨_,rfl,rfl,(.same rfl)⟩,⟨_,rfl,rfl,(.same rfl)⟩,tv⟩ rfl
  ·obtain ⟨want23,rfl⟩ : ∃ x,x = z:=⟨_,rfl⟩
   refine Tr.cutB (fun (want29:Int)=>⟨look [(0,(i_ xfrom1)),(1,(i_ to2)),(7,(i_ n3.1)),(8,(i_ n3.2)),(9,.ptr (Γ.n0 + 9) 0),(10,(i_ r9)),(11,.ptr (Γ.n0 + 11) 0),(12,(i_ r12)),(13,(i_ want29))],Qo Γ.n0 (bxs [(5,.cells ([(i_ n3.1),(i_ n3.2)])),(9,.cells ((Qe r8))),(11,.cells ((Qe r11)))]) M,Γ.n0 + 236⟩) h (fun z h=>?_) (fun z h=>?_)
   ·refine Tr.cutB (fun (x27:Bool)=>⟨look [(0,(i_ xfrom1)),(1,(i_ to2)),(7,(i_ n3.1)),(8,(i_ n3.2)),(9,.ptr (Γ.n0 + 9) 0),(10,(i_ r9)),(11,.ptr (Γ.n0 + 11) 0),(12,(i_ r12)),(13,(i_ want23)),(78,(b_ x27))],Qo Γ.n0 (bxs [(5,.cells ([(i_ n3.1),(i_ n3.2)])),(9,.cells ((Qe r8))),(11,.cells ((Qe r11)))]) M,Γ.n0 + 236⟩) h (fun z h=>?_) (fun z h=>?_)
    ·refine Tr.rgn (md rfl (Rn.bin tv rfl rfl rfl (md rfl ?_)))
     refine Qbg (want23 == 0) (fun hb24=>?_) (fun hb24=>?_)
     ·replace h:=bT hb24 h
      refine Rn.movD (gw rfl hb24) rfl (Rn.movD (gw rfl hb24) rfl (Rn.bin (gw rfl hb24) rfl rfl rfl (Rn.movD (gw rfl hb24) rfl ?_)))
      refine Qbg (xfrom1 == to2) (fun hb25=>?_) (fun hb25=>?_)
      ·replace h:=bT hb25 h
       refine Rn.sk (nw rfl hb25) (Rn.sk (nw rfl hb25) (Rn.sk (nw rfl hb25) (Rn.pickT (v:=(b_ true)) (gw rfl hb24) rfl hb25 rfl (Rn.movD (gw rfl hb24) rfl (Rn.sk (nw (b:=true) rfl rfl) (Rn.sk (nw (b:=true) rfl rfl) (Rn.sk (nw (b:=true) rfl rfl) (Rn.pickT (v:=(b_ true)) (gw rfl hb24) rfl rfl rfl (Rn.pickT (v:=(b_ true)) tv rfl hb24 rfl (Rn.nil ?_))))))))))
       replace h:=si h; subst h
       exact Qj [] ⟨(sm rfl),(sm rfl),(sm rfl),(sm rfl),(kPtr rfl),(sm rfl),(kPtr rfl),(sm rfl),(sm rfl),(sm rfl),tv⟩ ⟨⟨_,rfl,rfl,(.same rfl)⟩,⟨_,rfl,rfl,(.same rfl)⟩,⟨_,rfl,rfl,(.same rfl)⟩,tv⟩ rfl
      ·replace h:=bF hb25 h
       refine Rn.movD (gw rfl hb25) rfl (Rn.movD (gw rfl hb25) rfl (Rn.bin (gw rfl hb25) rfl rfl rfl (Rn.pickF (v:=(b_ (xfrom1 == n3.2))) (gw rfl hb24) rfl hb25 rfl (Rn.movD (gw rfl hb24) rfl ?_))))
       refine Qbg (xfrom1 == n3.2) (fun hb26=>?_) (fun hb26=>?_)
       ·replace h:=bT hb26 h
        refine Rn.sk (nw rfl hb26) (Rn.sk (nw rfl hb26) (Rn.sk (nw rfl hb26) (Rn.pickT (v:=(b_ true)) (gw rfl hb24) rfl hb26 rfl (Rn.pickT (v:=(b_ true)) tv rfl hb24 rfl (Rn.nil ?_)))))
        replace h:=si h; subst h
        exact Qj [] ⟨(sm rfl),(sm rfl),(sm rfl),(sm rfl),(kPtr rfl),(sm rfl),(kPtr rfl),(sm rfl),(sm rfl),(sm rfl),tv⟩ ⟨⟨_,rfl,rfl,(.same rfl)⟩,⟨_,rfl,rfl,(.same rfl)⟩,⟨_,rfl,rfl,(.same rfl)⟩,tv⟩ rfl
       ·replace h:=bF hb26 h
        refine Rn.movD (gw rfl hb26) rfl (Rn.movD (gw rfl hb26) rfl (Rn.bin (gw rfl hb26) rfl rfl rfl (Rn.pickF (v:=(b_ (to2 == n3.2))) (gw rfl hb24) rfl hb26 rfl (Rn.pickT (v:=(b_ (to2 == n3.2))) tv rfl hb24 rfl (Rn.nil ?_)))))
        replace h:=si h; subst h
        exact Qj [] ⟨(sm rfl),(sm rfl),(sm rfl),(sm rfl),(kPtr rfl),(sm rfl),(kPtr rfl),(sm rfl),(sm rfl),(sm rfl),tv⟩ ⟨⟨_,rfl,rfl,(.same rfl)⟩,⟨_,rfl,rfl,(.same rfl)⟩,⟨_,rfl,rfl,(.same rfl)⟩,tv⟩ rfl
     ·replace h:=bF hb24 h
      refine Rn.sk (nw rfl hb24) (Rn.sk (nw rfl hb24) (Rn.sk (nw rfl hb24) (Rn.sk (nw rfl hb24) (Rn.sk (nu rfl) (Rn.sk (nu rfl) (Rn.sk (nu rfl) (Rn.sk (nw rfl hb24) (Rn.sk (nw rfl hb24) (Rn.sk (nu rfl) (Rn.sk (nu rfl) (Rn.sk (nu rfl) (Rn.sk (nw rfl hb24) (Rn.pickF (v:=(b_ false)) tv rfl hb24 rfl (Rn.nil ?_))))))))))))))
      replace h:=si h; subst h
      exact Qj [] ⟨(sm rfl),(sm rfl),(sm rfl),(sm rfl),(kPtr rfl),(sm rfl),(kPtr rfl),(sm rfl),(sm rfl),(sm rfl),tv⟩ ⟨⟨_,rfl,rfl,(.same rfl)⟩,⟨_,rfl,rfl,(.same rfl)⟩,⟨_,rfl,rfl,(.same rfl)⟩,tv⟩ rfl
    ·obtain ⟨x27,rfl⟩ : ∃ x,x = z:=⟨_,rfl⟩
     refine Tr.cond rfl (fun hb28=>?_) (fun hb28=>?_)
     ·replace h:=bT hb28 h
      refine Tr.rgn (md rfl (Rn.nil ?_))
      replace h:=si h; subst h
      exact Qj [] ⟨(sm rfl),(sm rfl),(sm rfl),(sm rfl),(kPtr rfl),(sm rfl),(kPtr rfl),(sm rfl),(sm rfl),tv⟩ ⟨⟨_,rfl,rfl,(.same rfl)⟩,⟨_,rfl,rfl,(.same rfl)⟩,⟨_,rfl,rfl,(.same rfl)⟩,tv⟩ rfl
     ·replace h:=bF hb28 h
      refine Tr.skip ?_
      replace h:=si h; subst h
      exact Qj [] ⟨(sm rfl),(sm rfl),(sm rfl),(sm rfl),(kPtr rfl),(sm rfl),(kPtr rfl),(sm rfl),(sm rfl),tv⟩ ⟨⟨_,rfl,rfl,(.same rfl)⟩,⟨_,rfl,rfl,(.same rfl)⟩,⟨_,rfl,rfl,(.same rfl)⟩,tv⟩ rfl
   ·obtain ⟨want29,rfl⟩ : ∃ x,x = z:=⟨_,rfl⟩
    refine Tr.cutB (fun (want34:Int)=>⟨look [(0,(i_ xfrom1)),(1,(i_ to2)),(7,(i_ n3.1)),(8,(i_ n3.2)),(9,.ptr (Γ.n0 + 9) 0),(10,(i_ r9)),(11,.ptr (Γ.n0 + 11) 0),(12,(i_ r12)),(13,(i_ want34))],Qo Γ.n0 (bxs [(5,.cells ([(i_ n3.1),(i_ n3.2)])),(9,.cells ((Qe r8))),(11,.cells ((Qe r11)))]) M,Γ.n0 + 236⟩) h (fun z h=>?_) (fun z h=>?_)
    ·refine Tr.cutB (fun (x32:Bool)=>⟨look [(0,(i_ xfrom1)),(1,(i_ to2)),(7,(i_ n3.1)),(8,(i_ n3.2)),(9,.ptr (Γ.n0 + 9) 0),(10,(i_ r9)),(11,.ptr (Γ.n0 + 11) 0),(12,(i_ r12)),(13,(i_ want29)),(88,(b_ x32))],Qo Γ.n0 (bxs [(5,.cells ([(i_ n3.1),(i_ n3.2)])),(9,.cells ((Qe r8))),(11,.cells ((Qe r11)))]) M,Γ.n0 + 236⟩) h (fun z h=>?_) (fun z h=>?_)
     ·refine Tr.rgn (md rfl (Rn.bin tv rfl rfl rfl (md rfl ?_)))
      refine Qbg (want29 == 0) (fun hb30=>?_) (fun hb30=>?_)
      ·replace h:=bT hb30 h
       refine Rn.movD (gw rfl hb30) rfl (Rn.bin (gw rfl hb30) rfl rfl rfl (Rn.movD (gw rfl hb30) rfl ?_))
       refine Qbg (decide (n3.1 < 0)) (fun hb31=>?_) (fun hb31=>?_)
       ·replace h:=ifT hb31 h
        refine Rn.sk (nw rfl hb31) (Rn.sk (nw rfl hb31) (Rn.pickT (v:=(b_ true)) (gw rfl hb30) rfl hb31 rfl (Rn.pickT (v:=(b_ true)) tv rfl hb30 rfl (Rn.nil ?_))))
        replace h:=si h; subst h
        exact Qj [] ⟨(sm rfl),(sm rfl),(sm rfl),(sm rfl),(kPtr rfl),(sm rfl),(kPtr rfl),(sm rfl),(sm rfl),(sm rfl),tv⟩ ⟨⟨_,rfl,rfl,(.same rfl)⟩,⟨_,rfl,rfl,(.same rfl)⟩,⟨_,rfl,rfl,(.same rfl)⟩,tv⟩ rfl
       ·replace h:=ifF hb31 h
        refine Rn.movD (gw rfl hb31) rfl (Rn.bin (gw rfl hb31) rfl rfl rfl (Rn.pickF (v:=(b_ (decide (n3.1 > 16)))) (gw rfl hb30) rfl hb31 rfl (Rn.pickT (v:=(b_ (decide (n3.1 > 16)))) tv rfl hb30 rfl (Rn.nil ?_))))
        replace h:=si h; subst h
        exact Qj [] ⟨(sm rfl),(sm rfl),(sm rfl),(sm rfl),(kPtr rfl),(sm rfl),(kPtr rfl),(sm rfl),(sm rfl),(sm rfl),tv⟩ ⟨⟨_,rfl,rfl,(.same rfl)⟩,⟨_,rfl,rfl,(.same rfl)⟩,⟨_,rfl,rfl,(.same rfl)⟩,tv⟩ rfl
      ·replace h:=bF hb30 h
       refine Rn.sk (nw rfl hb30) (Rn.sk (nw rfl hb30) (Rn.sk (nw rfl hb30) (Rn.sk (nu rfl) (Rn.sk (nu rfl) (Rn.sk (nw rfl hb30) (Rn.pickF (v:=(b_ false)) tv rfl hb30 rfl (Rn.nil ?_)))))))
       replace h:=si h; subst h
       exact Qj [] ⟨(sm rfl),(sm rfl),(sm rfl),(sm rfl),(kPtr rfl),(sm rfl),(kPtr rfl),(sm rfl),(sm rfl),(sm rfl),tv⟩ ⟨⟨_,rfl,rfl,(.same rfl)⟩,⟨_,rfl,rfl,(.same rfl)⟩,⟨_,rfl,rfl,(.same rfl)⟩,tv⟩ rfl
     ·obtain ⟨x32,rfl⟩ : ∃ x,x = z:=⟨_,rfl⟩
      refine Tr.cond rfl (fun hb33=>?_) (fun hb33=>?_)
      ·replace h:=bT hb33 h
       refine Tr.rgn (md rfl (Rn.nil ?_))
       replace h:=si h; subst h
       exact Qj [] ⟨(sm rfl),(sm rfl),(sm rfl),(sm rfl),(kPtr rfl),(sm rfl),(kPtr rfl),(sm rfl),(sm rfl),tv⟩ ⟨⟨_,rfl,rfl,(.same rfl)⟩,⟨_,rfl,rfl,(.same rfl)⟩,⟨_,rfl,rfl,(.same rfl)⟩,tv⟩ rfl
      ·replace h:=bF hb33 h
       refine Tr.skip ?_
       replace h:=si h; subst h
       exact Qj [] ⟨(sm rfl),(sm rfl),(sm rfl),(sm rfl),(kPtr rfl),(sm rfl),(kPtr rfl),(sm rfl),(sm rfl),tv⟩ ⟨⟨_,rfl,rfl,(.same rfl)⟩,⟨_,rfl,rfl,(.same rfl)⟩,⟨_,rfl,rfl,(.same rfl)⟩,tv⟩ rfl
    ·obtain ⟨want34,rfl⟩ : ∃ x,x = z:=⟨_,rfl⟩
     refine Tr.seq (sr ((md rfl (Rn.bin tv rfl rfl rfl (Rn.nil (toN ?_))))))
     refine Tr.cond rfl (fun hb35=>?_) (fun hb35=>?_)
     ·replace h:=bT hb35 h
      refine sr ((Rn.load (v:=(Qd r8)) tv rfl (Qm rfl) rfl rfl ?_))
      obtain ⟨x37,h36,h⟩:=bnd h
      refine Rn.call (args:=[(Qd r8)]) tv rfl (H_overseerlaw46_none _ _ h36) pc9 (md rfl ?_)
      refine Qbg x37 (fun hb38=>?_) (fun hb38=>?_)
      ·replace h:=bT hb38 h
       refine Rn.movD (gw rfl hb38) rfl (Rn.movD (gw rfl hb38) rfl (Rn.bin (gw rfl hb38) rfl rfl rfl (Rn.pickT (v:=(b_ (r9 == want34))) tv rfl hb38 rfl (md rfl ?_))))
       refine Qbg (r9 == want34) (fun hb39=>?_) (fun hb39=>?_)
       ·replace h:=bT hb39 h
        refine Rn.load (v:=(Qd r11)) (gw rfl hb39) rfl (Qm rfl) rfl rfl ?_
        obtain ⟨x41,h40,h⟩:=bnd h
        refine Rn.call (args:=[(Qd r11)]) (gw rfl hb39) rfl (H_overseerlaw46_none _ _ h40) pc9 (Rn.pickT (v:=(b_ x41)) tv rfl hb39 rfl (md rfl ?_))
        refine Qbg x41 (fun hb42=>?_) (fun hb42=>?_)
        ·replace h:=bT hb42 h
         refine Rn.movD (gw rfl hb42) rfl (Rn.movD (gw rfl hb42) rfl (Rn.bin (gw rfl hb42) rfl rfl rfl (Rn.pickT (v:=(b_ (r12 == want34))) tv rfl hb42 rfl (md rfl (nt ((Tr.ret ?_)))))))
         replace h:=si h; subst h
         exact ⟨.inr rfl,(b_ (r12 == want34)),rfl,fun _ _ _ _ h=>h,tv,fun k hk=>Qf hk⟩
        ·replace h:=bF hb42 h
         refine Rn.sk (nw rfl hb42) (Rn.sk (nw rfl hb42) (Rn.sk (nw rfl hb42) (Rn.pickF (v:=(b_ false)) tv rfl hb42 rfl (md rfl (nt ((Tr.ret ?_)))))))
         replace h:=si h; subst h
         exact ⟨.inr rfl,(b_ false),rfl,fun _ _ _ _ h=>h,tv,fun k hk=>Qf hk⟩
       ·replace h:=bF hb39 h
        refine Rn.sk (nw rfl hb39) (Rn.sk (nw rfl hb39) (Rn.pickF (v:=(b_ false)) tv rfl hb39 rfl (md rfl (Rn.sk (nw (b:=false) rfl rfl) (Rn.sk (nw (b:=false) rfl rfl) (Rn.sk (nw (b:=false) rfl rfl) (Rn.pickF (v:=(b_ false)) tv rfl rfl rfl (md rfl (nt ((Tr.ret ?_)))))))))))
        replace h:=si h; subst h
        exact ⟨.inr rfl,(b_ false),rfl,fun _ _ _ _ h=>h,tv,fun k hk=>Qf hk⟩
      ·replace h:=bF hb38 h
       refine Rn.sk (nw rfl hb38) (Rn.sk (nw rfl hb38) (Rn.sk (nw rfl hb38) (Rn.pickF (v:=(b_ false)) tv rfl hb38 rfl (md rfl (Rn.sk (nw (b:=false) rfl rfl) (Rn.sk (nw (b:=false) rfl rfl) (Rn.pickF (v:=(b_ false)) tv rfl rfl rfl (md rfl (Rn.sk (nw (b:=false) rfl rfl) (Rn.sk (nw (b:=false) rfl rfl) (Rn.sk (nw (b:=false) rfl rfl) (Rn.pickF (v:=(b_ false)) tv rfl rfl rfl (md rfl (nt ((Tr.ret ?_))))))))))))))))
       replace h:=si h; subst h
       exact ⟨.inr rfl,(b_ false),rfl,fun _ _ _ _ h=>h,tv,fun k hk=>Qf hk⟩
     ·replace h:=bF hb35 h
      refine Tr.skip (toN (sr ((md rfl (Rn.bin tv rfl rfl rfl (Rn.bslice (xs:=[(i_ 0)]) (cs:=[(i_ 0)]) tv rfl rfl rfl rfl (Rn.buildT (v:=.agg [.nils 1,(i_ (IntKind.wrap .i64 (n3.1 + 2))),.sl 1 (Γ.n0 + 109) 0 1 1,.nils 3]) tv rfl (Rn.alloc tv rfl (Rn.storeT (v:=.agg [.nils 1,(i_ (IntKind.wrap .i64 (n3.1 + 2))),.sl 1 (Γ.n0 + 109) 0 1 1,.nils 3]) (ds:=[.nils 1,(i_ (IntKind.wrap .i64 (n3.1 + 2))),.sl 1 (Γ.n0 + 109) 0 1 1,.nils 3]) (cs':=[.nils 1,(i_ (IntKind.wrap .i64 (n3.1 + 2))),.sl 1 (Γ.n0 + 109) 0 1 1,.nils 3]) tv rfl rfl rfl rfl rfl rfl rfl (nt ((sr ((md rfl (Rn.bin tv rfl rfl rfl (Rn.build (v:=.agg [.nils 1,(i_ (IntKind.wrap .i64 (n3.1 + 2))),.nils 1,.nils 3]) tv rfl (Rn.alloc tv rfl (Rn.storeT (v:=.agg [.nils 1,(i_ (IntKind.wrap .i64 (n3.1 + 2))),.nils 1,.nils 3]) (ds:=[.nils 1,(i_ (IntKind.wrap .i64 (n3.1 + 2))),.nils 1,.nils 3]) (cs':=[.nils 1,(i_ (IntKind.wrap .i64 (n3.1 + 2))),.nils 1,.nils 3]) tv rfl rfl rfl rfl rfl rfl rfl (Rn.nil (toN ?_))))))))))))))))))))
      refine Tr.cutB (fun ((c63,c64,c65,y66,y67,y68,y69):(List Int)×Int×(List Qb)×(List Int)×Int×(List Int)×(List Qb))=>⟨look [(0,(i_ xfrom1)),(1,(i_ to2)),(7,(i_ n3.1)),(9,.ptr (Γ.n0 + 9) 0),(10,(i_ r9)),(11,.ptr (Γ.n0 + 11) 0),(12,(i_ r12)),(16,.ptr (Γ.n0 + 16) 0),(17,.ptr (Γ.n0 + 17) 0)],Qo Γ.n0 (bxs [(5,.cells ([(i_ n3.1),(i_ n3.2)])),(9,.cells ((Qe r8))),(11,.cells ((Qe r11))),(16,.cells ([(o_ c63),(i_ c64),.sl 1 (Γ.n0 + 109) 0 1 1,.own 3 (List.map Qa c65)])),(17,.cells ([(o_ y66),(i_ y67),(o_ y68),.own 3 (List.map Qa y69)])),(109,.cells ([(i_ 0)]))]) M,Γ.n0 + 236⟩) h (fun z h=>?_) (fun z h=>?_)
      ·refine sr ((md rfl (nt ((Tr.block ?_)))))
       refine Tr.loop (mk:=fun ((v43,c44,c45,c46,y47,y48,y49,y50):Int×(List Int)×Int×(List Qb)×(List Int)×Int×(List Int)×(List Qb))=>⟨look [(0,(i_ xfrom1)),(1,(i_ to2)),(7,(i_ n3.1)),(8,(i_ n3.2)),(9,.ptr (Γ.n0 + 9) 0),(10,(i_ r9)),(11,.ptr (Γ.n0 + 11) 0),(12,(i_ r12)),(16,.ptr (Γ.n0 + 16) 0),(17,.ptr (Γ.n0 + 17) 0),(18,(i_ v43))],Qo Γ.n0 (bxs [(5,.cells ([(i_ n3.1),(i_ n3.2)])),(9,.cells ((Qe r8))),(11,.cells ((Qe r11))),(16,.cells ([(o_ c44),(i_ c45),.sl 1 (Γ.n0 + 109) 0 1 1,.own 3 (List.map Qa c46)])),(17,.cells ([(o_ y47),(i_ y48),(o_ y49),.own 3 (List.map Qa y50)])),(109,.cells ([(i_ 0)]))]) M,Γ.n0 + 236⟩) h (by exact Qq ⟨(sm rfl),(sm rfl),(sm rfl),(sm rfl),(kPtr rfl),(sm rfl),(kPtr rfl),(sm rfl),(kPtr rfl),(kPtr rfl),(sm rfl),tv⟩ ⟨⟨_,rfl,rfl,(.same rfl)⟩,⟨_,rfl,rfl,(.same rfl)⟩,⟨_,rfl,rfl,(.same rfl)⟩,⟨_,rfl,rfl,(.cons (WkV.nilsO _) (.cons (sm rfl) (.cons (kSl rfl) (.cons (WkV.nilsO _) .nil))))⟩,⟨_,rfl,rfl,(.cons (WkV.nilsO _) (.cons (sm rfl) (.cons (WkV.nilsO _) (.cons (WkV.nilsO _) .nil))))⟩,⟨_,rfl,rfl,(.same rfl)⟩,tv⟩ rfl) (fun k51 z h=>?_)
       ·obtain ⟨v43,c44,c45,c46,y47,y48,y49,y50⟩:=z
        replace h:_ = some _:=h
        refine Tr.seq (sr ((md rfl (Rn.bin tv rfl rfl rfl (Rn.nil (toN ?_))))))
        refine Tr.cond rfl (fun hb52=>?_) (fun hb52=>?_)
        ·replace h:=ifT hb52 h
         refine Tr.skip (toN ?_)
         refine Tr.cutB (fun ((c61,y62):(List Int)×(List Int))=>⟨look [(0,(i_ xfrom1)),(1,(i_ to2)),(7,(i_ n3.1)),(8,(i_ n3.2)),(9,.ptr (Γ.n0 + 9) 0),(10,(i_ r9)),(11,.ptr (Γ.n0 + 11) 0),(12,(i_ r12)),(16,.ptr (Γ.n0 + 16) 0),(17,.ptr (Γ.n0 + 17) 0),(18,(i_ v43))],Qo Γ.n0 (bxs [(5,.cells ([(i_ n3.1),(i_ n3.2)])),(9,.cells ((Qe r8))),(11,.cells ((Qe r11))),(16,.cells ([(o_ c61),(i_ c45),.sl 1 (Γ.n0 + 109) 0 1 1,.own 3 (List.map Qa c46)])),(17,.cells ([(o_ y62),(i_ y48),(o_ y49),.own 3 (List.map Qa y50)])),(109,.cells ([(i_ 0)]))]) M,Γ.n0 + 236⟩) h (fun z h=>?_) (fun z h=>?_)
         ·refine Tr.block ?_
          refine Tr.cutB (fun (x55:Bool)=>⟨look [(0,(i_ xfrom1)),(1,(i_ to2)),(7,(i_ n3.1)),(8,(i_ n3.2)),(9,.ptr (Γ.n0 + 9) 0),(10,(i_ r9)),(11,.ptr (Γ.n0 + 11) 0),(12,(i_ r12)),(16,.ptr (Γ.n0 + 16) 0),(17,.ptr (Γ.n0 + 17) 0),(18,(i_ v43)),(130,(b_ x55))],Qo Γ.n0 (bxs [(5,.cells ([(i_ n3.1),(i_ n3.2)])),(9,.cells ((Qe r8))),(11,.cells ((Qe r11))),(16,.cells ([(o_ c44),(i_ c45),.sl 1 (Γ.n0 + 109) 0 1 1,.own 3 (List.map Qa c46)])),(17,.cells ([(o_ y47),(i_ y48),(o_ y49),.own 3 (List.map Qa y50)])),(109,.cells ([(i_ 0)]))]) M,Γ.n0 + 236⟩) h (fun z h=>?_) (fun z h=>?_)
          ·refine Tr.rgn (md rfl (md rfl (Rn.bin tv rfl rfl rfl (md rfl ?_))))
           refine Qbg (v43 == xfrom1) (fun hb53=>?_) (fun hb53=>?_)
           ·replace h:=bT hb53 h
            refine Rn.sk (nw rfl hb53) (Rn.sk (nw rfl hb53) (Rn.sk (nw rfl hb53) (Rn.pickT (v:=(b_ true)) tv rfl hb53 rfl (md rfl (Rn.sk (nw (b:=true) rfl rfl) (Rn.sk (nw (b:=true) rfl rfl) (Rn.sk (nw (b:=true) rfl rfl) (Rn.pickT (v:=(b_ true)) tv rfl rfl rfl (Rn.nil ?_)))))))))
            replace h:=si h; subst h
            exact Qj [] ⟨(sm rfl),(sm rfl),(sm rfl),(sm rfl),(kPtr rfl),(sm rfl),(kPtr rfl),(sm rfl),(kPtr rfl),(kPtr rfl),(sm rfl),(sm rfl),tv⟩ ⟨⟨_,rfl,rfl,(.same rfl)⟩,⟨_,rfl,rfl,(.same rfl)⟩,⟨_,rfl,rfl,(.same rfl)⟩,⟨_,rfl,rfl,(.cons (sm rfl) (.cons (sm rfl) (.cons (kSl rfl) (.cons (sm rfl) .nil))))⟩,⟨_,rfl,rfl,(.same rfl)⟩,⟨_,rfl,rfl,(.same rfl)⟩,tv⟩ rfl
           ·replace h:=bF hb53 h
            refine Rn.movD (gw rfl hb53) rfl (Rn.movD (gw rfl hb53) rfl (Rn.bin (gw rfl hb53) rfl rfl rfl (Rn.pickF (v:=(b_ (v43 == to2))) tv rfl hb53 rfl (md rfl ?_))))
            refine Qbg (v43 == to2) (fun hb54=>?_) (fun hb54=>?_)
            ·replace h:=bT hb54 h
             refine Rn.sk (nw rfl hb54) (Rn.sk (nw rfl hb54) (Rn.sk (nw rfl hb54) (Rn.pickT (v:=(b_ true)) tv rfl hb54 rfl (Rn.nil ?_))))
             replace h:=si h; subst h
             exact Qj [] ⟨(sm rfl),(sm rfl),(sm rfl),(sm rfl),(kPtr rfl),(sm rfl),(kPtr rfl),(sm rfl),(kPtr rfl),(kPtr rfl),(sm rfl),(sm rfl),tv⟩ ⟨⟨_,rfl,rfl,(.same rfl)⟩,⟨_,rfl,rfl,(.same rfl)⟩,⟨_,rfl,rfl,(.same rfl)⟩,⟨_,rfl,rfl,(.cons (sm rfl) (.cons (sm rfl) (.cons (kSl rfl) (.cons (sm rfl) .nil))))⟩,⟨_,rfl,rfl,(.same rfl)⟩,⟨_,rfl,rfl,(.same rfl)⟩,tv⟩ rfl
            ·replace h:=bF hb54 h
             refine Rn.movD (gw rfl hb54) rfl (Rn.movD (gw rfl hb54) rfl (Rn.bin (gw rfl hb54) rfl rfl rfl (Rn.pickF (v:=(b_ (v43 == n3.2))) tv rfl hb54 rfl (Rn.nil ?_))))
             replace h:=si h; subst h
             exact Qj [] ⟨(sm rfl),(sm rfl),(sm rfl),(sm rfl),(kPtr rfl),(sm rfl),(kPtr rfl),(sm rfl),(kPtr rfl),(kPtr rfl),(sm rfl),(sm rfl),tv⟩ ⟨⟨_,rfl,rfl,(.same rfl)⟩,⟨_,rfl,rfl,(.same rfl)⟩,⟨_,rfl,rfl,(.same rfl)⟩,⟨_,rfl,rfl,(.cons (sm rfl) (.cons (sm rfl) (.cons (kSl rfl) (.cons (sm rfl) .nil))))⟩,⟨_,rfl,rfl,(.same rfl)⟩,⟨_,rfl,rfl,(.same rfl)⟩,tv⟩ rfl
          ·obtain ⟨x55,rfl⟩ : ∃ x,x = z:=⟨_,rfl⟩
           refine Tr.cond rfl (fun hb56=>?_) (fun hb56=>?_)
           ·replace h:=bT hb56 h
            refine Tr.rgnD (by decide) ?_
            refine Rn.fldP (o':=0) tv rfl rfl (Rn.loadT (cs':=[(l_ c44),(i_ c45),.sl 1 (Γ.n0 + 109) 0 1 1,.own 3 (List.map Qa c46)]) tv rfl rfl rfl rfl (md rfl (Rn.bslice (xs:=[(i_ v43)]) (cs:=[(i_ v43)]) tv rfl rfl rfl rfl ?_)))
            obtain ⟨x57,h58,h⟩:=bnd h
            refine Rn.app (e:=(eI .i64)) tv rfl rfl rfl (Qcp rfl rfl rfl) h58 rfl (Rn.fldP (o':=0) tv rfl rfl (Rn.loadT (cs':=[(l_ y47),(i_ y48),(o_ y49),.own 3 (List.map Qa y50)]) tv rfl rfl rfl rfl (md rfl (Rn.bslice (xs:=[(i_ v43)]) (cs:=[(i_ v43)]) tv rfl rfl rfl rfl ?_))))
            obtain ⟨x59,h60,h⟩:=bnd h
            refine Rn.app (e:=(eI .i64)) tv rfl rfl rfl (Qcp rfl rfl rfl) h60 rfl (Rn.fldP (o':=0) tv rfl rfl (Rn.storeO (cs':=[(o_ x57),(i_ c45),.sl 1 (Γ.n0 + 109) 0 1 1,.own 3 (List.map Qa c46)]) tv rfl rfl rfl rfl rfl (Rn.fldP (o':=0) tv rfl rfl (Rn.storeO (cs':=[(o_ x59),(i_ y48),(o_ y49),.own 3 (List.map Qa y50)]) tv rfl rfl rfl rfl rfl ?_))))
            refine Rn.nil ⟨by first | rfl | simp [Qql,Qjr,look,Bool.cond_eq_ite,Nat.beq_eq],?_⟩
            replace h:=si h; subst h
            exact Qj [134,139] ⟨(sm rfl),(sm rfl),(sm rfl),(sm rfl),(kPtr rfl),(sm rfl),(kPtr rfl),(sm rfl),(kPtr rfl),(kPtr rfl),(sm rfl),tv⟩ ⟨⟨_,rfl,rfl,(.same rfl)⟩,⟨_,rfl,rfl,(.same rfl)⟩,⟨_,rfl,rfl,(.same rfl)⟩,⟨_,rfl,rfl,(.cons (sm rfl) (.cons (sm rfl) (.cons (kSl rfl) (.cons (sm rfl) .nil))))⟩,⟨_,rfl,rfl,(.same rfl)⟩,⟨_,rfl,rfl,(.same rfl)⟩,tv⟩ rfl
           ·replace h:=bF hb56 h
            refine Tr.skip ?_
            replace h:=si h; subst h
            exact Qj [] ⟨(sm rfl),(sm rfl),(sm rfl),(sm rfl),(kPtr rfl),(sm rfl),(kPtr rfl),(sm rfl),(kPtr rfl),(kPtr rfl),(sm rfl),tv⟩ ⟨⟨_,rfl,rfl,(.same rfl)⟩,⟨_,rfl,rfl,(.same rfl)⟩,⟨_,rfl,rfl,(.same rfl)⟩,⟨_,rfl,rfl,(.cons (sm rfl) (.cons (sm rfl) (.cons (kSl rfl) (.cons (sm rfl) .nil))))⟩,⟨_,rfl,rfl,(.same rfl)⟩,⟨_,rfl,rfl,(.same rfl)⟩,tv⟩ rfl
         ·obtain ⟨c61,y62⟩:=z
          refine Tr.rgn (md rfl (Rn.bin tv rfl rfl rfl (md rfl (Rn.nil ?_))))
          exact ⟨_,h,(by exact Qq ⟨(sm rfl),(sm rfl),(sm rfl),(sm rfl),(kPtr rfl),(sm rfl),(kPtr rfl),(sm rfl),(kPtr rfl),(kPtr rfl),(sm rfl),tv⟩ ⟨⟨_,rfl,rfl,(.same rfl)⟩,⟨_,rfl,rfl,(.same rfl)⟩,⟨_,rfl,rfl,(.same rfl)⟩,⟨_,rfl,rfl,(.cons (sm rfl) (.cons (sm rfl) (.cons (kSl rfl) (.cons (sm rfl) .nil))))⟩,⟨_,rfl,rfl,(.same rfl)⟩,⟨_,rfl,rfl,(.same rfl)⟩,tv⟩ rfl)⟩
        ·replace h:=ifF hb52 h
         refine Tr.exit ?_
         replace h:=si h; subst h
         exact Qj [] ⟨(sm rfl),(sm rfl),(sm rfl),(kPtr rfl),(sm rfl),(kPtr rfl),(sm rfl),(kPtr rfl),(kPtr rfl),tv⟩ ⟨⟨_,rfl,rfl,(.same rfl)⟩,⟨_,rfl,rfl,(.same rfl)⟩,⟨_,rfl,rfl,(.same rfl)⟩,⟨_,rfl,rfl,(.cons (sm rfl) (.cons (sm rfl) (.cons (kSl rfl) (.cons (sm rfl) .nil))))⟩,⟨_,rfl,rfl,(.same rfl)⟩,⟨_,rfl,rfl,(.same rfl)⟩,tv⟩ rfl
      ·obtain ⟨c63,c64,c65,y66,y67,y68,y69⟩:=z
       refine Tr.cutB (fun ((c109,y110,y111):(List Qb)×(List Int)×(List Qb))=>⟨look [(9,.ptr (Γ.n0 + 9) 0),(10,(i_ r9)),(11,.ptr (Γ.n0 + 11) 0),(12,(i_ r12)),(16,.ptr (Γ.n0 + 16) 0),(17,.ptr (Γ.n0 + 17) 0)],Qo Γ.n0 (bxs [(5,.cells ([(i_ n3.1),(i_ n3.2)])),(9,.cells ((Qe r8))),(11,.cells ((Qe r11))),(16,.cells ([(o_ c63),(i_ c64),.sl 1 (Γ.n0 + 109) 0 1 1,.own 3 (List.map Qa c109)])),(17,.cells ([(o_ y66),(i_ y67),(o_ y110),.own 3 (List.map Qa y111)])),(109,.cells ([(i_ 0)]))]) M,Γ.n0 + 236⟩) h (fun z h=>?_) (fun z h=>?_)
       ·refine sr ((md rfl (nt ((Tr.block ?_)))))
        refine Tr.loop (mk:=fun ((s70,c71,y72,y73):Int×(List Qb)×(List Int)×(List Qb))=>⟨look [(0,(i_ xfrom1)),(1,(i_ to2)),(7,(i_ n3.1)),(9,.ptr (Γ.n0 + 9) 0),(10,(i_ r9)),(11,.ptr (Γ.n0 + 11) 0),(12,(i_ r12)),(16,.ptr (Γ.n0 + 16) 0),(17,.ptr (Γ.n0 + 17) 0),(19,(i_ s70))],Qo Γ.n0 (bxs [(5,.cells ([(i_ n3.1),(i_ n3.2)])),(9,.cells ((Qe r8))),(11,.cells ((Qe r11))),(16,.cells ([(o_ c63),(i_ c64),.sl 1 (Γ.n0 + 109) 0 1 1,.own 3 (List.map Qa c71)])),(17,.cells ([(o_ y66),(i_ y67),(o_ y72),.own 3 (List.map Qa y73)])),(109,.cells ([(i_ 0)]))]) M,Γ.n0 + 236⟩) h (by exact Qq ⟨(sm rfl),(sm rfl),(sm rfl),(kPtr rfl),(sm rfl),(kPtr rfl),(sm rfl),(kPtr rfl),(kPtr rfl),(sm rfl),tv⟩ ⟨⟨_,rfl,rfl,(.same rfl)⟩,⟨_,rfl,rfl,(.same rfl)⟩,⟨_,rfl,rfl,(.same rfl)⟩,⟨_,rfl,rfl,(.cons (sm rfl) (.cons (sm rfl) (.cons (kSl rfl) (.cons (sm rfl) .nil))))⟩,⟨_,rfl,rfl,(.same rfl)⟩,⟨_,rfl,rfl,(.same rfl)⟩,tv⟩ rfl) (fun k74 z h=>?_)
        ·obtain ⟨s70,c71,y72,y73⟩:=z
         replace h:_ = some _:=h
         refine Tr.seq (sr ((md rfl (md rfl (Rn.bin tv rfl rfl rfl (Rn.bin tv rfl rfl rfl (Rn.nil (toN ?_))))))))
         refine Tr.cond rfl (fun hb75=>?_) (fun hb75=>?_)
         ·replace h:=ifT hb75 h
          refine Tr.skip (toN ?_)
          refine Tr.cutB (fun ((c106,y107,y108):(List Qb)×(List Int)×(List Qb))=>⟨look [(0,(i_ xfrom1)),(1,(i_ to2)),(7,(i_ n3.1)),(9,.ptr (Γ.n0 + 9) 0),(10,(i_ r9)),(11,.ptr (Γ.n0 + 11) 0),(12,(i_ r12)),(16,.ptr (Γ.n0 + 16) 0),(17,.ptr (Γ.n0 + 17) 0),(19,(i_ s70))],Qo Γ.n0 (bxs [(5,.cells ([(i_ n3.1),(i_ n3.2)])),(9,.cells ((Qe r8))),(11,.cells ((Qe r11))),(16,.cells ([(o_ c63),(i_ c64),.sl 1 (Γ.n0 + 109) 0 1 1,.own 3 (List.map Qa c106)])),(17,.cells ([(o_ y66),(i_ y67),(o_ y107),.own 3 (List.map Qa y108)])),(109,.cells ([(i_ 0)])),(152,.cells ([(i_ s70)]))]) M,Γ.n0 + 236⟩) h (fun z h=>?_) (fun z h=>?_)
          ·refine Tr.block (sr ((Rn.fldP (o':=2) tv rfl rfl (Rn.loadT (cs':=[(o_ y66),(i_ y67),(l_ y72),.own 3 (List.map Qa y73)]) tv rfl rfl rfl rfl (md rfl (Rn.bslice (xs:=[(i_ s70)]) (cs:=[(i_ s70)]) tv rfl rfl rfl rfl ?_))))))
           obtain ⟨x76,h77,h⟩:=bnd h
           refine Rn.app (e:=(eI .i64)) tv rfl rfl rfl (Qcp rfl rfl rfl) h77 rfl (Rn.fldP (o':=2) tv rfl rfl (Rn.storeO (cs':=[(o_ y66),(i_ y67),(o_ x76),.own 3 (List.map Qa y73)]) tv rfl rfl rfl rfl rfl (nt ((sr ((Rn.fldP (o':=0) tv rfl rfl (Rn.load (v:=(l_ c63)) tv rfl (Qm rfl) rfl rfl (Rn.lenD tv rfl (md rfl (nt ((Tr.block ?_)))))))))))))
           refine Tr.loop (mk:=fun ((x78,c79,y80):Int×(List Qb)×(List Qb))=>⟨look [(0,(i_ xfrom1)),(1,(i_ to2)),(7,(i_ n3.1)),(9,.ptr (Γ.n0 + 9) 0),(10,(i_ r9)),(11,.ptr (Γ.n0 + 11) 0),(12,(i_ r12)),(16,.ptr (Γ.n0 + 16) 0),(17,.ptr (Γ.n0 + 17) 0),(19,(i_ s70)),(156,(l_ c63)),(157,(i_ (c63.length:Int))),(158,(i_ x78))],Qo Γ.n0 (bxs [(5,.cells ([(i_ n3.1),(i_ n3.2)])),(9,.cells ((Qe r8))),(11,.cells ((Qe r11))),(16,.cells ([(o_ c63),(i_ c64),.sl 1 (Γ.n0 + 109) 0 1 1,.own 3 (List.map Qa c79)])),(17,.cells ([(o_ y66),(i_ y67),(o_ x76),.own 3 (List.map Qa y80)])),(109,.cells ([(i_ 0)])),(152,.cells ([(i_ s70)]))]) M,Γ.n0 + 236⟩) h (by exact Qq ⟨(sm rfl),(sm rfl),(sm rfl),(kPtr rfl),(sm rfl),(kPtr rfl),(sm rfl),(kPtr rfl),(kPtr rfl),(sm rfl),(sm rfl),(sm rfl),(sm rfl),tv⟩ ⟨⟨_,rfl,rfl,(.same rfl)⟩,⟨_,rfl,rfl,(.same rfl)⟩,⟨_,rfl,rfl,(.same rfl)⟩,⟨_,rfl,rfl,(.cons (sm rfl) (.cons (sm rfl) (.cons (kSl rfl) (.cons (sm rfl) .nil))))⟩,⟨_,rfl,rfl,(.same rfl)⟩,⟨_,rfl,rfl,(.same rfl)⟩,⟨_,rfl,rfl,(.same rfl)⟩,tv⟩ rfl) (fun k81 z h=>?_)
           ·obtain ⟨x78,c79,y80⟩:=z
            replace h:_ = some _:=h
            refine sr ((Rn.bin tv rfl rfl rfl (nt ((Tr.seq ?_)))))
            refine Tr.cond rfl (fun hb82=>?_) (fun hb82=>?_)
            ·replace h:=ifT hb82 h
             refine Tr.skip (toN ?_)
             refine Tr.cutB (fun ((c104,y105):(List Qb)×(List Qb))=>⟨look [(0,(i_ xfrom1)),(1,(i_ to2)),(7,(i_ n3.1)),(9,.ptr (Γ.n0 + 9) 0),(10,(i_ r9)),(11,.ptr (Γ.n0 + 11) 0),(12,(i_ r12)),(16,.ptr (Γ.n0 + 16) 0),(17,.ptr (Γ.n0 + 17) 0),(19,(i_ s70)),(156,(l_ c63)),(157,(i_ (c63.length:Int))),(158,(i_ x78))],Qo Γ.n0 (bxs [(5,.cells ([(i_ n3.1),(i_ n3.2)])),(9,.cells ((Qe r8))),(11,.cells ((Qe r11))),(16,.cells ([(o_ c63),(i_ c64),.sl 1 (Γ.n0 + 109) 0 1 1,.own 3 (List.map Qa c104)])),(17,.cells ([(o_ y66),(i_ y67),(o_ x76),.own 3 (List.map Qa y105)])),(109,.cells ([(i_ 0)])),(152,.cells ([(i_ s70)]))]) M,Γ.n0 + 236⟩) h (fun z h=>?_) (fun z h=>?_)
             ·refine Tr.block (Tr.seq (Tr.rgn ?_))
              obtain ⟨x83,h84,h⟩:=bnd h
              refine Rn.idxD (e:=(eI .i64)) tv rfl rfl h84 (Rn.loadC (x:=.int .i64 x83) tv rfl (md rfl (nt ((sr ((md rfl (md rfl (md rfl (md rfl (Rn.nil (toN ?_))))))))))))
              refine Tr.cutB (fun ((late95,wait96):Int×Int)=>⟨look [(0,(i_ xfrom1)),(1,(i_ to2)),(7,(i_ n3.1)),(9,.ptr (Γ.n0 + 9) 0),(10,(i_ r9)),(11,.ptr (Γ.n0 + 11) 0),(12,(i_ r12)),(16,.ptr (Γ.n0 + 16) 0),(17,.ptr (Γ.n0 + 17) 0),(19,(i_ s70)),(21,(i_ x83)),(22,(i_ late95)),(23,(i_ wait96)),(156,(l_ c63)),(157,(i_ (c63.length:Int))),(158,(i_ x78))],Qo Γ.n0 (bxs [(5,.cells ([(i_ n3.1),(i_ n3.2)])),(9,.cells ((Qe r8))),(11,.cells ((Qe r11))),(16,.cells ([(o_ c63),(i_ c64),.sl 1 (Γ.n0 + 109) 0 1 1,.own 3 (List.map Qa c79)])),(17,.cells ([(o_ y66),(i_ y67),(o_ x76),.own 3 (List.map Qa y80)])),(109,.cells ([(i_ 0)])),(152,.cells ([(i_ s70)]))]) M,Γ.n0 + 236⟩) h (fun z h=>?_) (fun z h=>?_)
              ·refine Tr.block (sr ((md rfl (md rfl (Rn.bin tv rfl rfl rfl (md rfl (Rn.nil (toN ?_))))))))
               refine Tr.cond rfl (fun hb85=>?_) (fun hb85=>?_)
               ·replace h:=bT hb85 h
                refine sr ((md rfl (nt ((sr ((md rfl (Rn.bin tv rfl rfl rfl (Rn.nil (toN ?_))))))))))
                refine Tr.cond rfl (fun hb86=>?_) (fun hb86=>?_)
                ·replace h:=bT hb86 h
                 refine Tr.rgn (md rfl (Rn.nil ?_))
                 replace h:=si h; subst h
                 exact Qj [] ⟨(sm rfl),(sm rfl),(sm rfl),(kPtr rfl),(sm rfl),(kPtr rfl),(sm rfl),(kPtr rfl),(kPtr rfl),(sm rfl),(sm rfl),(sm rfl),(sm rfl),(sm rfl),(sm rfl),(sm rfl),tv⟩ ⟨⟨_,rfl,rfl,(.same rfl)⟩,⟨_,rfl,rfl,(.same rfl)⟩,⟨_,rfl,rfl,(.same rfl)⟩,⟨_,rfl,rfl,(.cons (sm rfl) (.cons (sm rfl) (.cons (kSl rfl) (.cons (sm rfl) .nil))))⟩,⟨_,rfl,rfl,(.same rfl)⟩,⟨_,rfl,rfl,(.same rfl)⟩,⟨_,rfl,rfl,(.same rfl)⟩,tv⟩ rfl
                ·replace h:=bF hb86 h
                 refine Tr.skip ?_
                 replace h:=si h; subst h
                 exact Qj [] ⟨(sm rfl),(sm rfl),(sm rfl),(kPtr rfl),(sm rfl),(kPtr rfl),(sm rfl),(kPtr rfl),(kPtr rfl),(sm rfl),(sm rfl),(sm rfl),(sm rfl),(sm rfl),(sm rfl),(sm rfl),tv⟩ ⟨⟨_,rfl,rfl,(.same rfl)⟩,⟨_,rfl,rfl,(.same rfl)⟩,⟨_,rfl,rfl,(.same rfl)⟩,⟨_,rfl,rfl,(.cons (sm rfl) (.cons (sm rfl) (.cons (kSl rfl) (.cons (sm rfl) .nil))))⟩,⟨_,rfl,rfl,(.same rfl)⟩,⟨_,rfl,rfl,(.same rfl)⟩,⟨_,rfl,rfl,(.same rfl)⟩,tv⟩ rfl
               ·replace h:=bF hb85 h
                refine sr ((md rfl (md rfl (Rn.bin tv rfl rfl rfl (md rfl (Rn.nil (toN ?_)))))))
                refine Tr.cond rfl (fun hb87=>?_) (fun hb87=>?_)
                ·replace h:=bT hb87 h
                 refine sr ((md rfl (nt ((sr ((md rfl (Rn.nil (toN ?_)))))))))
                 refine Tr.cutB (fun (x89:Bool)=>⟨look [(0,(i_ xfrom1)),(1,(i_ to2)),(7,(i_ n3.1)),(9,.ptr (Γ.n0 + 9) 0),(10,(i_ r9)),(11,.ptr (Γ.n0 + 11) 0),(12,(i_ r12)),(16,.ptr (Γ.n0 + 16) 0),(17,.ptr (Γ.n0 + 17) 0),(19,(i_ s70)),(21,(i_ x83)),(22,(i_ 0)),(23,(i_ (-1))),(156,(l_ c63)),(157,(i_ (c63.length:Int))),(158,(i_ x78)),(181,(b_ x89))],Qo Γ.n0 (bxs [(5,.cells ([(i_ n3.1),(i_ n3.2)])),(9,.cells ((Qe r8))),(11,.cells ((Qe r11))),(16,.cells ([(o_ c63),(i_ c64),.sl 1 (Γ.n0 + 109) 0 1 1,.own 3 (List.map Qa c79)])),(17,.cells ([(o_ y66),(i_ y67),(o_ x76),.own 3 (List.map Qa y80)])),(109,.cells ([(i_ 0)])),(152,.cells ([(i_ s70)]))]) M,Γ.n0 + 236⟩) h (fun z h=>?_) (fun z h=>?_)
                 ·refine Tr.rgn (md rfl (Rn.bin tv rfl rfl rfl (md rfl ?_)))
                  refine Qbg (s70 == 0) (fun hb88=>?_) (fun hb88=>?_)
                  ·replace h:=bT hb88 h
                   refine Rn.sk (nw rfl hb88) (Rn.sk (nw rfl hb88) (Rn.sk (nw rfl hb88) (Rn.sk (nw rfl hb88) (Rn.pickT (v:=(b_ true)) tv rfl hb88 rfl (Rn.nil ?_)))))
                   replace h:=si h; subst h
                   exact Qj [] ⟨(sm rfl),(sm rfl),(sm rfl),(kPtr rfl),(sm rfl),(kPtr rfl),(sm rfl),(kPtr rfl),(kPtr rfl),(sm rfl),(sm rfl),(sm rfl),(sm rfl),(sm rfl),(sm rfl),(sm rfl),(sm rfl),tv⟩ ⟨⟨_,rfl,rfl,(.same rfl)⟩,⟨_,rfl,rfl,(.same rfl)⟩,⟨_,rfl,rfl,(.same rfl)⟩,⟨_,rfl,rfl,(.cons (sm rfl) (.cons (sm rfl) (.cons (kSl rfl) (.cons (sm rfl) .nil))))⟩,⟨_,rfl,rfl,(.same rfl)⟩,⟨_,rfl,rfl,(.same rfl)⟩,⟨_,rfl,rfl,(.same rfl)⟩,tv⟩ rfl
                  ·replace h:=bF hb88 h
                   refine Rn.movD (gw rfl hb88) rfl (Rn.movD (gw rfl hb88) rfl (Rn.bin (gw rfl hb88) rfl rfl rfl (Rn.bin (gw rfl hb88) rfl rfl rfl (Rn.pickF (v:=(b_ (s70 == (IntKind.wrap .i64 (n3.1 + 1))))) tv rfl hb88 rfl (Rn.nil ?_)))))
                   replace h:=si h; subst h
                   exact Qj [] ⟨(sm rfl),(sm rfl),(sm rfl),(kPtr rfl),(sm rfl),(kPtr rfl),(sm rfl),(kPtr rfl),(kPtr rfl),(sm rfl),(sm rfl),(sm rfl),(sm rfl),(sm rfl),(sm rfl),(sm rfl),(sm rfl),tv⟩ ⟨⟨_,rfl,rfl,(.same rfl)⟩,⟨_,rfl,rfl,(.same rfl)⟩,⟨_,rfl,rfl,(.same rfl)⟩,⟨_,rfl,rfl,(.cons (sm rfl) (.cons (sm rfl) (.cons (kSl rfl) (.cons (sm rfl) .nil))))⟩,⟨_,rfl,rfl,(.same rfl)⟩,⟨_,rfl,rfl,(.same rfl)⟩,⟨_,rfl,rfl,(.same rfl)⟩,tv⟩ rfl
                 ·obtain ⟨x89,rfl⟩ : ∃ x,x = z:=⟨_,rfl⟩
                  refine Tr.cond rfl (fun hb90=>?_) (fun hb90=>?_)
                  ·replace h:=bT hb90 h
                   refine Tr.rgn (md rfl (Rn.nil ?_))
                   replace h:=si h; subst h
                   exact Qj [] ⟨(sm rfl),(sm rfl),(sm rfl),(kPtr rfl),(sm rfl),(kPtr rfl),(sm rfl),(kPtr rfl),(kPtr rfl),(sm rfl),(sm rfl),(sm rfl),(sm rfl),(sm rfl),(sm rfl),(sm rfl),tv⟩ ⟨⟨_,rfl,rfl,(.same rfl)⟩,⟨_,rfl,rfl,(.same rfl)⟩,⟨_,rfl,rfl,(.same rfl)⟩,⟨_,rfl,rfl,(.cons (sm rfl) (.cons (sm rfl) (.cons (kSl rfl) (.cons (sm rfl) .nil))))⟩,⟨_,rfl,rfl,(.same rfl)⟩,⟨_,rfl,rfl,(.same rfl)⟩,⟨_,rfl,rfl,(.same rfl)⟩,tv⟩ rfl
                  ·replace h:=bF hb90 h
                   refine Tr.skip ?_
                   replace h:=si h; subst h
                   exact Qj [] ⟨(sm rfl),(sm rfl),(sm rfl),(kPtr rfl),(sm rfl),(kPtr rfl),(sm rfl),(kPtr rfl),(kPtr rfl),(sm rfl),(sm rfl),(sm rfl),(sm rfl),(sm rfl),(sm rfl),(sm rfl),tv⟩ ⟨⟨_,rfl,rfl,(.same rfl)⟩,⟨_,rfl,rfl,(.same rfl)⟩,⟨_,rfl,rfl,(.same rfl)⟩,⟨_,rfl,rfl,(.cons (sm rfl) (.cons (sm rfl) (.cons (kSl rfl) (.cons (sm rfl) .nil))))⟩,⟨_,rfl,rfl,(.same rfl)⟩,⟨_,rfl,rfl,(.same rfl)⟩,⟨_,rfl,rfl,(.same rfl)⟩,tv⟩ rfl
                ·replace h:=bF hb87 h
                 refine Tr.cutB (fun (x92:Bool)=>⟨look [(0,(i_ xfrom1)),(1,(i_ to2)),(7,(i_ n3.1)),(9,.ptr (Γ.n0 + 9) 0),(10,(i_ r9)),(11,.ptr (Γ.n0 + 11) 0),(12,(i_ r12)),(16,.ptr (Γ.n0 + 16) 0),(17,.ptr (Γ.n0 + 17) 0),(19,(i_ s70)),(21,(i_ x83)),(22,(i_ s70)),(23,(i_ s70)),(156,(l_ c63)),(157,(i_ (c63.length:Int))),(158,(i_ x78)),(182,(b_ x92))],Qo Γ.n0 (bxs [(5,.cells ([(i_ n3.1),(i_ n3.2)])),(9,.cells ((Qe r8))),(11,.cells ((Qe r11))),(16,.cells ([(o_ c63),(i_ c64),.sl 1 (Γ.n0 + 109) 0 1 1,.own 3 (List.map Qa c79)])),(17,.cells ([(o_ y66),(i_ y67),(o_ x76),.own 3 (List.map Qa y80)])),(109,.cells ([(i_ 0)])),(152,.cells ([(i_ s70)]))]) M,Γ.n0 + 236⟩) h (fun z h=>?_) (fun z h=>?_)
                 ·refine Tr.rgn (md rfl (Rn.bin tv rfl rfl rfl (md rfl ?_)))
                  refine Qbg (decide (s70 > 0)) (fun hb91=>?_) (fun hb91=>?_)
                  ·replace h:=ifT hb91 h
                   refine Rn.movD (gw rfl hb91) rfl (Rn.movD (gw rfl hb91) rfl (Rn.bin (gw rfl hb91) rfl rfl rfl (Rn.pickT (v:=(b_ (decide (s70≤n3.1)))) tv rfl hb91 rfl (md rfl (Rn.nil ?_)))))
                   replace h:=si h; subst h
                   exact Qj [] ⟨(sm rfl),(sm rfl),(sm rfl),(kPtr rfl),(sm rfl),(kPtr rfl),(sm rfl),(kPtr rfl),(kPtr rfl),(sm rfl),(sm rfl),(sm rfl),(sm rfl),(sm rfl),(sm rfl),(sm rfl),(sm rfl),tv⟩ ⟨⟨_,rfl,rfl,(.same rfl)⟩,⟨_,rfl,rfl,(.same rfl)⟩,⟨_,rfl,rfl,(.same rfl)⟩,⟨_,rfl,rfl,(.cons (sm rfl) (.cons (sm rfl) (.cons (kSl rfl) (.cons (sm rfl) .nil))))⟩,⟨_,rfl,rfl,(.same rfl)⟩,⟨_,rfl,rfl,(.same rfl)⟩,⟨_,rfl,rfl,(.same rfl)⟩,tv⟩ rfl
                  ·replace h:=ifF hb91 h
                   refine Rn.sk (nw rfl hb91) (Rn.sk (nw rfl hb91) (Rn.sk (nw rfl hb91) (Rn.pickF (v:=(b_ false)) tv rfl hb91 rfl (md rfl (Rn.nil ?_)))))
                   replace h:=si h; subst h
                   exact Qj [] ⟨(sm rfl),(sm rfl),(sm rfl),(kPtr rfl),(sm rfl),(kPtr rfl),(sm rfl),(kPtr rfl),(kPtr rfl),(sm rfl),(sm rfl),(sm rfl),(sm rfl),(sm rfl),(sm rfl),(sm rfl),(sm rfl),tv⟩ ⟨⟨_,rfl,rfl,(.same rfl)⟩,⟨_,rfl,rfl,(.same rfl)⟩,⟨_,rfl,rfl,(.same rfl)⟩,⟨_,rfl,rfl,(.cons (sm rfl) (.cons (sm rfl) (.cons (kSl rfl) (.cons (sm rfl) .nil))))⟩,⟨_,rfl,rfl,(.same rfl)⟩,⟨_,rfl,rfl,(.same rfl)⟩,⟨_,rfl,rfl,(.same rfl)⟩,tv⟩ rfl
                 ·obtain ⟨x92,rfl⟩ : ∃ x,x = z:=⟨_,rfl⟩
                  refine Tr.cond rfl (fun hb93=>?_) (fun hb93=>?_)
                  ·replace h:=bT hb93 h
                   refine Tr.rgn (md rfl (Rn.bin tv rfl rfl rfl (md rfl (Rn.bin tv rfl rfl rfl (md rfl (md rfl (Rn.nil ?_)))))))
                   replace h:=si h; subst h
                   exact Qj [] ⟨(sm rfl),(sm rfl),(sm rfl),(kPtr rfl),(sm rfl),(kPtr rfl),(sm rfl),(kPtr rfl),(kPtr rfl),(sm rfl),(sm rfl),(sm rfl),(sm rfl),(sm rfl),(sm rfl),(sm rfl),tv⟩ ⟨⟨_,rfl,rfl,(.same rfl)⟩,⟨_,rfl,rfl,(.same rfl)⟩,⟨_,rfl,rfl,(.same rfl)⟩,⟨_,rfl,rfl,(.cons (sm rfl) (.cons (sm rfl) (.cons (kSl rfl) (.cons (sm rfl) .nil))))⟩,⟨_,rfl,rfl,(.same rfl)⟩,⟨_,rfl,rfl,(.same rfl)⟩,⟨_,rfl,rfl,(.same rfl)⟩,tv⟩ rfl
                  ·replace h:=bF hb93 h
                   refine sr ((md rfl (Rn.bin tv rfl rfl rfl (md rfl (Rn.nil (toN ?_))))))
                   refine Tr.cond rfl (fun hb94=>?_) (fun hb94=>?_)
                   ·replace h:=ifT hb94 h
                    refine Tr.rgn (md rfl (Rn.nil ?_))
                    replace h:=si h; subst h
                    exact Qj [] ⟨(sm rfl),(sm rfl),(sm rfl),(kPtr rfl),(sm rfl),(kPtr rfl),(sm rfl),(kPtr rfl),(kPtr rfl),(sm rfl),(sm rfl),(sm rfl),(sm rfl),(sm rfl),(sm rfl),(sm rfl),tv⟩ ⟨⟨_,rfl,rfl,(.same rfl)⟩,⟨_,rfl,rfl,(.same rfl)⟩,⟨_,rfl,rfl,(.same rfl)⟩,⟨_,rfl,rfl,(.cons (sm rfl) (.cons (sm rfl) (.cons (kSl rfl) (.cons (sm rfl) .nil))))⟩,⟨_,rfl,rfl,(.same rfl)⟩,⟨_,rfl,rfl,(.same rfl)⟩,⟨_,rfl,rfl,(.same rfl)⟩,tv⟩ rfl
                   ·replace h:=ifF hb94 h
                    refine Tr.skip ?_
                    replace h:=si h; subst h
                    exact Qj [] ⟨(sm rfl),(sm rfl),(sm rfl),(kPtr rfl),(sm rfl),(kPtr rfl),(sm rfl),(kPtr rfl),(kPtr rfl),(sm rfl),(sm rfl),(sm rfl),(sm rfl),(sm rfl),(sm rfl),(sm rfl),tv⟩ ⟨⟨_,rfl,rfl,(.same rfl)⟩,⟨_,rfl,rfl,(.same rfl)⟩,⟨_,rfl,rfl,(.same rfl)⟩,⟨_,rfl,rfl,(.cons (sm rfl) (.cons (sm rfl) (.cons (kSl rfl) (.cons (sm rfl) .nil))))⟩,⟨_,rfl,rfl,(.same rfl)⟩,⟨_,rfl,rfl,(.same rfl)⟩,⟨_,rfl,rfl,(.same rfl)⟩,tv⟩ rfl
              ·obtain ⟨late95,wait96⟩:=z
               refine Tr.cutB (fun (c100:List Qb)=>⟨look [(0,(i_ xfrom1)),(1,(i_ to2)),(7,(i_ n3.1)),(9,.ptr (Γ.n0 + 9) 0),(10,(i_ r9)),(11,.ptr (Γ.n0 + 11) 0),(12,(i_ r12)),(16,.ptr (Γ.n0 + 16) 0),(17,.ptr (Γ.n0 + 17) 0),(19,(i_ s70)),(21,(i_ x83)),(23,(i_ wait96)),(156,(l_ c63)),(157,(i_ (c63.length:Int))),(158,(i_ x78))],Qo Γ.n0 (bxs [(5,.cells ([(i_ n3.1),(i_ n3.2)])),(9,.cells ((Qe r8))),(11,.cells ((Qe r11))),(16,.cells ([(o_ c63),(i_ c64),.sl 1 (Γ.n0 + 109) 0 1 1,.own 3 (List.map Qa c100)])),(17,.cells ([(o_ y66),(i_ y67),(o_ x76),.own 3 (List.map Qa y80)])),(109,.cells ([(i_ 0)])),(152,.cells ([(i_ s70)]))]) M,Γ.n0 + 236⟩) h (fun z h=>?_) (fun z h=>?_)
               ·refine sr ((md rfl (Rn.bin tv rfl rfl rfl (Rn.nil (toN ?_)))))
                refine Tr.cond rfl (fun hb97=>?_) (fun hb97=>?_)
                ·replace h:=ifT hb97 h
                 refine Tr.rgn (Rn.fldP (o':=3) tv rfl rfl (Rn.loadT (cs':=[(o_ c63),(i_ c64),.sl 1 (Γ.n0 + 109) 0 1 1,.d (.lst 3 (List.map Qa c79))]) tv rfl rfl rfl rfl (md rfl (md rfl (md rfl (Rn.build (v:=.agg [(i_ s70),(i_ x83),(i_ late95)]) tv rfl (Rn.bslice (xs:=[.agg [(i_ s70),(i_ x83),(i_ late95)]]) (cs:=[(i_ s70),(i_ x83),(i_ late95)]) tv rfl rfl rfl rfl ?_)))))))
                 obtain ⟨x98,h99,h⟩:=bnd h
                 refine Rn.app (e:=Qa) tv rfl rfl rfl (Qcp rfl rfl rfl) h99 rfl (Rn.fldP (o':=3) tv rfl rfl (Rn.storeO (cs':=[(o_ c63),(i_ c64),.sl 1 (Γ.n0 + 109) 0 1 1,.own 3 (List.map Qa x98)]) tv rfl rfl rfl rfl rfl (Rn.nil ?_)))
                 replace h:=si h; subst h
                 exact Qj [205] ⟨(sm rfl),(sm rfl),(sm rfl),(kPtr rfl),(sm rfl),(kPtr rfl),(sm rfl),(kPtr rfl),(kPtr rfl),(sm rfl),(sm rfl),(sm rfl),(sm rfl),(sm rfl),(sm rfl),tv⟩ ⟨⟨_,rfl,rfl,(.same rfl)⟩,⟨_,rfl,rfl,(.same rfl)⟩,⟨_,rfl,rfl,(.same rfl)⟩,⟨_,rfl,rfl,(.cons (sm rfl) (.cons (sm rfl) (.cons (kSl rfl) (.cons (sm rfl) .nil))))⟩,⟨_,rfl,rfl,(.same rfl)⟩,⟨_,rfl,rfl,(.same rfl)⟩,⟨_,rfl,rfl,(.same rfl)⟩,tv⟩ rfl
                ·replace h:=ifF hb97 h
                 refine Tr.skip ?_
                 replace h:=si h; subst h
                 exact Qj [] ⟨(sm rfl),(sm rfl),(sm rfl),(kPtr rfl),(sm rfl),(kPtr rfl),(sm rfl),(kPtr rfl),(kPtr rfl),(sm rfl),(sm rfl),(sm rfl),(sm rfl),(sm rfl),(sm rfl),tv⟩ ⟨⟨_,rfl,rfl,(.same rfl)⟩,⟨_,rfl,rfl,(.same rfl)⟩,⟨_,rfl,rfl,(.same rfl)⟩,⟨_,rfl,rfl,(.cons (sm rfl) (.cons (sm rfl) (.cons (kSl rfl) (.cons (sm rfl) .nil))))⟩,⟨_,rfl,rfl,(.same rfl)⟩,⟨_,rfl,rfl,(.same rfl)⟩,⟨_,rfl,rfl,(.same rfl)⟩,tv⟩ rfl
               ·obtain ⟨c100,rfl⟩ : ∃ x,x = z:=⟨_,rfl⟩
                refine sr ((md rfl (Rn.bin tv rfl rfl rfl (Rn.nil (toN ?_)))))
                refine Tr.cond rfl (fun hb101=>?_) (fun hb101=>?_)
                ·replace h:=ifT hb101 h
                 refine Tr.rgn (Rn.fldP (o':=3) tv rfl rfl (Rn.loadT (cs':=[(o_ y66),(i_ y67),(o_ x76),.d (.lst 3 (List.map Qa y80))]) tv rfl rfl rfl rfl (md rfl (md rfl (md rfl (Rn.build (v:=.agg [(i_ s70),(i_ x83),(i_ wait96)]) tv rfl (Rn.bslice (xs:=[.agg [(i_ s70),(i_ x83),(i_ wait96)]]) (cs:=[(i_ s70),(i_ x83),(i_ wait96)]) tv rfl rfl rfl rfl ?_)))))))
                 obtain ⟨x102,h103,h⟩:=bnd h
                 refine Rn.app (e:=Qa) tv rfl rfl rfl (Qcp rfl rfl rfl) h103 rfl (Rn.fldP (o':=3) tv rfl rfl (Rn.storeO (cs':=[(o_ y66),(i_ y67),(o_ x76),.own 3 (List.map Qa x102)]) tv rfl rfl rfl rfl rfl (Rn.nil ?_)))
                 replace h:=si h; subst h
                 exact Qj [216] ⟨(sm rfl),(sm rfl),(sm rfl),(kPtr rfl),(sm rfl),(kPtr rfl),(sm rfl),(kPtr rfl),(kPtr rfl),(sm rfl),(sm rfl),(sm rfl),(sm rfl),tv⟩ ⟨⟨_,rfl,rfl,(.same rfl)⟩,⟨_,rfl,rfl,(.same rfl)⟩,⟨_,rfl,rfl,(.same rfl)⟩,⟨_,rfl,rfl,(.cons (sm rfl) (.cons (sm rfl) (.cons (kSl rfl) (.cons (sm rfl) .nil))))⟩,⟨_,rfl,rfl,(.same rfl)⟩,⟨_,rfl,rfl,(.same rfl)⟩,⟨_,rfl,rfl,(.same rfl)⟩,tv⟩ rfl
                ·replace h:=ifF hb101 h
                 refine Tr.skip ?_
                 replace h:=si h; subst h
                 exact Qj [] ⟨(sm rfl),(sm rfl),(sm rfl),(kPtr rfl),(sm rfl),(kPtr rfl),(sm rfl),(kPtr rfl),(kPtr rfl),(sm rfl),(sm rfl),(sm rfl),(sm rfl),tv⟩ ⟨⟨_,rfl,rfl,(.same rfl)⟩,⟨_,rfl,rfl,(.same rfl)⟩,⟨_,rfl,rfl,(.same rfl)⟩,⟨_,rfl,rfl,(.cons (sm rfl) (.cons (sm rfl) (.cons (kSl rfl) (.cons (sm rfl) .nil))))⟩,⟨_,rfl,rfl,(.same rfl)⟩,⟨_,rfl,rfl,(.same rfl)⟩,⟨_,rfl,rfl,(.same rfl)⟩,tv⟩ rfl
             ·obtain ⟨c104,y105⟩:=z
              refine Tr.rgn (Rn.bin tv rfl rfl rfl (md rfl (Rn.nil ?_)))
              exact ⟨_,h,(by exact Qq ⟨(sm rfl),(sm rfl),(sm rfl),(kPtr rfl),(sm rfl),(kPtr rfl),(sm rfl),(kPtr rfl),(kPtr rfl),(sm rfl),(sm rfl),(sm rfl),(sm rfl),tv⟩ ⟨⟨_,rfl,rfl,(.same rfl)⟩,⟨_,rfl,rfl,(.same rfl)⟩,⟨_,rfl,rfl,(.same rfl)⟩,⟨_,rfl,rfl,(.cons (sm rfl) (.cons (sm rfl) (.cons (kSl rfl) (.cons (sm rfl) .nil))))⟩,⟨_,rfl,rfl,(.same rfl)⟩,⟨_,rfl,rfl,(.same rfl)⟩,⟨_,rfl,rfl,(.same rfl)⟩,tv⟩ rfl)⟩
            ·replace h:=ifF hb82 h
             refine Tr.exit ?_
             replace h:=si h; subst h
             exact Qj [] ⟨(sm rfl),(sm rfl),(sm rfl),(kPtr rfl),(sm rfl),(kPtr rfl),(sm rfl),(kPtr rfl),(kPtr rfl),(sm rfl),tv⟩ ⟨⟨_,rfl,rfl,(.same rfl)⟩,⟨_,rfl,rfl,(.same rfl)⟩,⟨_,rfl,rfl,(.same rfl)⟩,⟨_,rfl,rfl,(.cons (sm rfl) (.cons (sm rfl) (.cons (kSl rfl) (.cons (sm rfl) .nil))))⟩,⟨_,rfl,rfl,(.same rfl)⟩,⟨_,rfl,rfl,(.same rfl)⟩,⟨_,rfl,rfl,(.same rfl)⟩,tv⟩ rfl
          ·obtain ⟨c106,y107,y108⟩:=z
           refine Tr.rgn (md rfl (Rn.bin tv rfl rfl rfl (md rfl (Rn.nil ?_))))
           exact ⟨_,h,(by exact Qq ⟨(sm rfl),(sm rfl),(sm rfl),(kPtr rfl),(sm rfl),(kPtr rfl),(sm rfl),(kPtr rfl),(kPtr rfl),(sm rfl),tv⟩ ⟨⟨_,rfl,rfl,(.same rfl)⟩,⟨_,rfl,rfl,(.same rfl)⟩,⟨_,rfl,rfl,(.same rfl)⟩,⟨_,rfl,rfl,(.cons (sm rfl) (.cons (sm rfl) (.cons (kSl rfl) (.cons (sm rfl) .nil))))⟩,⟨_,rfl,rfl,(.same rfl)⟩,⟨_,rfl,rfl,(.same rfl)⟩,tv⟩ rfl)⟩
         ·replace h:=ifF hb75 h
          refine Tr.exit ?_
          replace h:=si h; subst h
          exact Qj [] ⟨(kPtr rfl),(sm rfl),(kPtr rfl),(sm rfl),(kPtr rfl),(kPtr rfl),tv⟩ ⟨⟨_,rfl,rfl,(.same rfl)⟩,⟨_,rfl,rfl,(.same rfl)⟩,⟨_,rfl,rfl,(.same rfl)⟩,⟨_,rfl,rfl,(.cons (sm rfl) (.cons (sm rfl) (.cons (kSl rfl) (.cons (sm rfl) .nil))))⟩,⟨_,rfl,rfl,(.same rfl)⟩,⟨_,rfl,rfl,(.same rfl)⟩,tv⟩ rfl
       ·obtain ⟨c109,y110,y111⟩:=z
        refine sr ((md rfl (Rn.bin tv rfl rfl rfl (md rfl ?_))))
        refine Qbg (r9 == 0) (fun hb112=>?_) (fun hb112=>?_)
        ·replace h:=bT hb112 h
         refine Rn.movD (gw rfl hb112) rfl (Rn.bin (gw rfl hb112) rfl rfl rfl (Rn.pickT (v:=(b_ (r12 == 0))) tv rfl hb112 rfl (md rfl ?_)))
         refine Qbg (r12 == 0) (fun hb113=>?_) (fun hb113=>?_)
         ·replace h:=bT hb113 h
          refine Rn.load (v:=(Qd r8)) (gw rfl hb113) rfl (Qm rfl) rfl rfl (Rn.load (v:=.agg [(l_ c63),(i_ c64),.sl 1 (Γ.n0 + 109) 0 1 1,.d (.lst 3 (List.map Qa c109))]) (gw rfl hb113) rfl (Qm rfl) rfl rfl ?_)
          refine Rn.weak (by show WeakSt Γ _ ⟨look [(9,.ptr (Γ.n0 + 9) 0),(10,(i_ r9)),(11,.ptr (Γ.n0 + 11) 0),(12,(i_ r12)),(16,.ptr (Γ.n0 + 16) 0),(17,.ptr (Γ.n0 + 17) 0),(220,(i_ r9)),(221,(b_ (r9 == 0))),(222,(b_ (r9 == 0))),(223,(i_ r12)),(224,(b_ (r12 == 0))),(225,(b_ (r12 == 0))),(226,(b_ (r12 == 0))),(227,(Qd r8)),(228,.agg [(l_ c63),(i_ c64),(l_ [0]),.d (.lst 3 (List.map Qa c109))])],Qo Γ.n0 (bxs [(5,.cells ([(i_ n3.1),(i_ n3.2)])),(9,.cells ((Qe r8))),(11,.cells ((Qe r11))),(16,.cells ([(o_ c63),(i_ c64),(l_ [0]),.own 3 (List.map Qa c109)])),(17,.cells ([(o_ y66),(i_ y67),(o_ y110),.own 3 (List.map Qa y111)]))]) M,Γ.n0 + 236⟩; exact Qdh 109 [.int .i64 0] rfl rfl ⟨(fPtr rfl),(.same rfl),(fPtr rfl),(.same rfl),(fPtr rfl),(fPtr rfl),(.same rfl),(.same rfl),(.same rfl),(.same rfl),(.same rfl),(.same rfl),(.same rfl),(.same rfl),(WkV.agg (.cons (.same rfl) (.cons (.same rfl) (.cons (fSl rfl rfl) (.cons (.same rfl) .nil))))),tv⟩ ⟨⟨_,rfl,rfl,(.same rfl)⟩,⟨_,rfl,rfl,(.same rfl)⟩,⟨_,rfl,rfl,(.same rfl)⟩,⟨_,rfl,rfl,(.cons (.same rfl) (.cons (.same rfl) (.cons (fSl rfl rfl) (.cons (.same rfl) .nil))))⟩,⟨_,rfl,rfl,(.same rfl)⟩,tv⟩ rfl) ?_
          obtain ⟨x115,h114,h⟩:=bnd h
          refine Rn.call (args:=[(Qd r8),.agg [(l_ c63),(i_ c64),(l_ [0]),.d (.lst 3 (List.map Qa c109))]]) (gw rfl hb113) rfl (H_automaton_Equal _ _ _ h114) pc9 (Rn.pickT (v:=(b_ x115)) tv rfl hb113 rfl (md rfl ?_))
          refine Qbg x115 (fun hb116=>?_) (fun hb116=>?_)
          ·replace h:=bT hb116 h
           refine Rn.load (v:=(Qd r11)) (gw rfl hb116) rfl (Qm rfl) rfl rfl (Rn.load (v:=.agg [(l_ y66),(i_ y67),(l_ y110),.d (.lst 3 (List.map Qa y111))]) (gw rfl hb116) rfl (Qm rfl) rfl rfl ?_)
           obtain ⟨x118,h117,h⟩:=bnd h
           refine Rn.call (args:=[(Qd r11),.agg [(l_ y66),(i_ y67),(l_ y110),.d (.lst 3 (List.map Qa y111))]]) (gw rfl hb116) rfl (H_automaton_Equal _ _ _ h117) pc9 (Rn.pickT (v:=(b_ x118)) tv rfl hb116 rfl (md rfl (nt ((Tr.ret ?_)))))
           replace h:=si h; subst h
           exact ⟨.inr rfl,(b_ x118),rfl,fun _ _ _ _ h=>h,tv,fun k hk=>Qf hk⟩
          ·replace h:=bF hb116 h
           refine Rn.sk (nw rfl hb116) (Rn.sk (nw rfl hb116) (Rn.sk (nw rfl hb116) (Rn.pickF (v:=(b_ false)) tv rfl hb116 rfl (md rfl (nt ((Tr.ret ?_)))))))
           replace h:=si h; subst h
           exact ⟨.inr rfl,(b_ false),rfl,fun _ _ _ _ h=>h,tv,fun k hk=>Qf hk⟩
         ·replace h:=bF hb113 h
          refine Rn.sk (nw rfl hb113) (Rn.sk (nw rfl hb113) (Rn.sk (nw rfl hb113) (Rn.pickF (v:=(b_ false)) tv rfl hb113 rfl (md rfl (Rn.sk (nw (b:=false) rfl rfl) (Rn.sk (nw (b:=false) rfl rfl) (Rn.sk (nw (b:=false) rfl rfl) (Rn.pickF (v:=(b_ false)) tv rfl rfl rfl (md rfl (nt ((Tr.ret ?_))))))))))))
          replace h:=si h; subst h
          exact ⟨.inr rfl,(b_ false),rfl,fun _ _ _ _ h=>h,tv,fun k hk=>Qf hk⟩
        ·replace h:=bF hb112 h
         refine Rn.sk (nw rfl hb112) (Rn.sk (nw rfl hb112) (Rn.pickF (v:=(b_ false)) tv rfl hb112 rfl (md rfl (Rn.sk (nw (b:=false) rfl rfl) (Rn.sk (nw (b:=false) rfl rfl) (Rn.sk (nw (b:=false) rfl rfl) (Rn.pickF (v:=(b_ false)) tv rfl rfl rfl (md rfl (Rn.sk (nw (b:=false) rfl rfl) (Rn.sk (nw (b:=false) rfl rfl) (Rn.sk (nw (b:=false) rfl rfl) (Rn.pickF (v:=(b_ false)) tv rfl rfl rfl (md rfl (nt ((Tr.ret ?_))))))))))))))))
         replace h:=si h; subst h
         exact ⟨.inr rfl,(b_ false),rfl,fun _ _ _ _ h=>h,tv,fun k hk=>Qf hk⟩
end Go.Abs
end
section
namespace Go.Proofs
open Go.Abs
set_option maxRecDepth 100000
theorem Qg2:Qy Try.prog 4 = some Qb2:=by kernel_rfl
theorem Quv:Qy Try.prog 9 = some Qg1:=by kernel_rfl
theorem Qn4:Qy Try.prog 11 = some Qdl:=by kernel_rfl
theorem Qyl:Qy Try.prog 15 = some Qj5:=by kernel_rfl
theorem Q3b:Qy Try.prog 16 = some Qug:=by kernel_rfl
theorem Qqe:Qy Try.prog 17 = some Qd1:=by kernel_rfl
theorem Qtd:Qy Try.prog 18 = some Qgd:=by kernel_rfl
theorem Qv9:Qy Try.prog 19 = some Qhe:=by kernel_rfl
theorem Qte:Qy Try.prog 30 = some Qf8:=by kernel_rfl
theorem Qw5:Qy Try.prog 31 = some Qhn:=by kernel_rfl
theorem Quw:Qy Try.prog 35 = some Qgx:=by kernel_rfl
theorem Qtf:Qy Try.prog 37 = some Qga:=by kernel_rfl
theorem Qn5:Qy Try.prog 38 = some Qdj:=by kernel_rfl
theorem Qj8:Qy Try.prog 39 = some Qcs:=by kernel_rfl
theorem Qok:Qy Try.prog 40 = some Qdv:=by kernel_rfl
theorem Qms:Qy Try.prog 41 = some Qc3:=by kernel_rfl
theorem Qjp:Qy Try.prog 42 = some Qcn:=by kernel_rfl
theorem Qxu:Qy Try.prog 45 = some Qjd:=by kernel_rfl
theorem Qw6:Qy Try.prog 46 = some Qh4:=by kernel_rfl
theorem Qtg:Qy Try.prog 47 = some Qgb:=by kernel_rfl
theorem Qn6:Qy Try.prog 48 = some Qdn:=by kernel_rfl
theorem Qr0:Qy Try.prog 49 = some Qed:=by kernel_rfl
theorem Qw7:Qy Try.prog 50 = some Qho:=by kernel_rfl
theorem Qm5:Qy Try.prog 53 = some Qdb:=by kernel_rfl
theorem Qym:Qy Try.prog 64 = some Qj1:=by kernel_rfl
theorem Qth:Qy Try.prog 65 = some Qf6:=by kernel_rfl
theorem Qsr:Qy Try.prog 71 = some Qel:=by kernel_rfl
theorem Qxv:Qy Try.prog 72 = some Qjc:=by kernel_rfl
theorem Qqf:Qy Try.prog 74 = some Qd0:=by kernel_rfl
theorem Qlt:Qy Try.prog 76 = some Qcx:=by kernel_rfl
theorem Qm6:Qy Try.prog 77 = some Qc9:=by kernel_rfl
theorem Qwa:Qy Try.prog 85 = some Qhc:=by kernel_rfl
theorem Qti:Qy Try.prog 86 = some Qf5:=by kernel_rfl
theorem Q0q:Qy Try.prog 95 = some Qo6:=by kernel_rfl
theorem Qxw:Qy Try.prog 96 = some Qi0:=by kernel_rfl
theorem Qlu:Qy Try.prog 97 = some Qcz:=by kernel_rfl
theorem Qux:Qy Try.prog 98 = some Qgz:=by kernel_rfl
theorem Q0a:Qy Try.prog 115 = some Qnr:=by kernel_rfl
theorem Qxx:Qy Try.prog 116 = some Qiy:=by kernel_rfl
end Go.Proofs
end
section
namespace Go.Abs
open Go Go.Sort
section plain
variable {β:Type}
def insB (lt:β→β→Bool) (x:β):List β→List β
 | []=>[x]
 | y :: ys=>if lt y x then y :: insB lt x ys else x :: y :: ys
def Qsx (lt:β→β→Bool):List β→List β
 | []=>[]
 | x :: xs=>insB lt x (Qsx lt xs)
theorem Q0b (lt:β→β→Bool) (x:β):∀ l,(insB lt x l).Perm (x :: l)
 | []=>.refl _
 | y :: ys=>by
  unfold insB; split
  ·exact ((Q0b lt x ys).cons y).trans (.swap x y ys)
  ·exact .refl _
theorem Qn7 (lt:β→β→Bool):∀ l,(Qsx lt l).Perm l
 | []=>.refl _
 | x :: xs=>(Q0b lt x _).trans ((Qn7 lt xs).cons x)
theorem Qm7 (lt:β→β→Bool) (l:List β):(Qsx lt l).length = l.length:=(Qn7 lt l).length_eq
theorem Q0c {lt:β→β→Bool} (h:SWO lt) (x:β):∀ l,l.Pairwise (fun a b=>lt b a = false)→(insB lt x l).Pairwise fun a b=>lt b a = false
 | [],_=>by simp [insB]
 | y :: ys,hl=>by
  obtain ⟨h1,h2⟩:=List.pairwise_cons.1 hl
  unfold insB; split
  ·rename_i hc
   refine List.pairwise_cons.2 ⟨fun z hz=>?_,Q0c h x ys h2⟩
   rcases List.mem_cons.1 ((Q0b lt x ys).mem_iff.1 hz) with rfl | hz
   ·cases hb:lt z y with
    | false=>rfl
    | true=>have:=h.trans _ _ _ hc hb; rw [h.irrefl] at this; cases this
   ·exact h1 z hz
  ·rename_i hc
   have hc:lt y x = false:=by cases h:lt y x <;> simp_all
   refine List.pairwise_cons.2 ⟨fun z hz=>?_,hl⟩
   rcases List.mem_cons.1 hz with rfl | hz
   ·exact hc
   ·exact h.ntrans _ _ _ (h1 z hz) hc
theorem Qm8 {lt:β→β→Bool} (h:SWO lt):∀ l,(Qsx lt l).Pairwise fun a b=>lt b a = false
 | []=>.nil
 | x :: xs=>Q0c h x _ (Qm8 h xs)
end plain
def Qdx (a b:Int):Bool:=decide (a < b)
end Go.Abs
end
section
namespace Go.Abs
def Q66 (l:List Int):Option (List Int):=if l.length≤lim then some (Qsx Qdx l) else none
end Go.Abs
end
section
namespace Go.Abs
open Go Go.Abs
set_option maxRecDepth 10000
set_option maxHeartbeats 4000000
def Qfx:Nat:=1099511627776
def Qlv:=Qbk
def Qmw:=Qbr Qfx
def Qop:=Qb9 Qfx
def Qlw:=Qbt Qop
def Qjs:=Qbo Qlw Qfx
def Qr1:=Qce Qmw Qjs
def Qn8:=Qbv Qfx
def Qcq:=Qt
def Quy:=Qci
def Qwi:=Qdd Quy
def Qoq:=Qbz
def Qhi:=Qbe Qwi Qoq Qfx
def Qcd:=Ql Qhi
def Qjt:=Qbp Qn8 Qcd Qr1 Qcq Qfx
def Qju:=Qbq Qcd Qfx
def Qei:=Q2
def Qjg:=Qbl Qfx
def Qco:=Qp Qjg
def Qej:=Q3 Qcd
def Qgr:=Q8 Qco Qej
def Qgs:=Q9 Qco Qcd Qei Qgr Qfx
def Qct:=Qr Qcd Qfx
def Qg3:=Qbb Qct Qgs Qfx
def Qfy:=Q7
def Qor:=Qca
def Qd2:=Qz Qcd Qor Qfx
def Qg4:=Q4 Qjt Qju Qg3 Qct Qco Qfy Qd2 Qfx
def Qdo:=Q5
def Qby:=Qu Qcq Q66 Qfx
def Qbx:=Qs Qby Qdo
def Qdy:=Q6 Qfx
def Qyx:=Qeh Qdy
def Qg5:=Qbu Qg4 Qyx Qbx Qlv
def Qee:=Qbc
def Qcr:=Qbd Qby Qee
def Qem:=Qbw Qfx
def Qef:=Qba Qdy Qem
def Qd5:=Qbi Qef
def Qb3:=Qbm Qg5 Qef Qbx Qcr Qd5 Qfx
end Go.Abs
end
section
namespace Go.Abs
open Go Go.Sort Go.RowKit
theorem Q31 {P:Program} {f:FuncId} {ex:Array Value} {exV:List V} {sz nb:Nat} {M:Mem} (hb:Qjx P f = true) (hex:∀ g w us,RFs g w exV us→us = ex.toList)
  (h:∀ (p:Option Addr) (cap:Nat) (w:World),Calls P f (#[.slice p 0 cap] ++ ex) w fun e' w'=>e' = .returned (.tuple #[])∧w' = w) :
  ACalls P f (.d (.lst sz []) :: exV) M nb (.tup []) M nb:=by
 refine ⟨hb,Nat.le_refl _,fun w g us hm hMon hfresh hus hfl hons=>?_⟩
 obtain ⟨u0,us',rfl,hu0,hus'⟩:=hus
 have h1:=hex _ _ _ hus'
 subst h1
 have h2:∃ p cap,u0 = .slice p 0 cap:=by
  have:=RF_d.1 hu0
  obtain ⟨a,cap,rfl,_,_⟩:=this
  exact ⟨a,cap,rfl⟩
 obtain ⟨p,cap,rfl⟩:=h2
 have e1:(Value.slice p 0 cap :: ex.toList).toArray = #[.slice p 0 cap] ++ ex:=by apply Array.ext'; simp
 rw [e1]
 refine (h p cap w).mono ?_
 rintro e' w' ⟨rfl,rfl⟩
 exact ⟨_,g,rfl,hm,⟨[],rfl,rfl⟩,trivial,hMon,Fr.refl _ _ _⟩
theorem Q32 (l:List Int):(l.mergeSort fun x y=>decide (x≤y)) = Qsx Qdx l:=by
 have hO:Go.Sort.SWO Qdx:=⟨fun x=>by simp [Qdx],fun x y z h1 h2=>by simp [Qdx] at *; omega,fun x y z h1 h2=>by simp [Qdx] at *; omega⟩
 refine List.Perm.eq_of_pairwise (le:=fun a b=>Qdx b a = false) (fun a b _ _ h1 h2=>by simp [Qdx] at *; omega) ?_ (Qm8 hO l) ((List.mergeSort_perm _ _).trans (Qn7 _ l).symm)
 have:=List.pairwise_mergeSort (le:=fun x y:Int=>decide (x≤y)) (fun a b c h1 h2=>by simp at *; omega) (fun a b=>by simp; omega) l
 exact this.imp fun h=>by simp [Qdx] at *; omega
end Go.Abs
end
section
namespace Go.Abs
open Go Go.Sort Go.RowKit
theorem Q0d (xs:List Int):rowV (eI .i64) xs = xs.map (Value.int .i64):=by
 unfold rowV
 induction xs with
 | nil=>rfl
 | cons x xs ih=>simp only [List.map_cons,List.flatten_cons,List.map_append,ih]; rfl
theorem Q67 {P:Program} {c:Nat} (hb:Qjx P c = true)
  (hs:∀ (blk off cap:Nat) (zs:List Int) (w:World),Holds (Value.int .i64) w blk off zs.toArray→blk < w.heap.size→zs.length < 4611686018427387904 →
   Calls P c #[.slice (some ⟨blk,off,none⟩) zs.length cap] w fun e w'=>e = .returned (.tuple #[])∧∃ n os,w' = grow (putRow (Value.int .i64) (Sort.ahead w n) blk off (zs.mergeSort fun x y=>decide (x≤y)).toArray) os)
  (hnone:∀ (p:Option Addr) (cap:Nat) (w:World),Calls P c (#[.slice p 0 cap] ++ #[]) w fun e' w'=>e' = .returned (.tuple #[])∧w' = w) :
  RowK P c (eI .i64) 1 [] (fun l=>if l.length≤lim then some (Qsx Qdx l) else none):=by
 have hrow:Q9x P c (eI .i64) #[] (fun xs=>Qsx Qdx xs):=by
  intro blk cap xs w hcell hblk hsz
  refine Calls.mono (hs blk 0 cap xs w ?_ hblk hsz) ?_
  ·intro j hj
   have hj' : j < xs.length:=by simpa using hj
   have:=hcell j (by rw [Q0d]; simpa using hj')
   rw [Q0d] at this
   rw [Nat.zero_add]
   refine ⟨?_,this.2⟩
   rw [this.1,getElem!_pos xs.toArray j hj]
   simp [hj']
  ·rintro e w' ⟨rfl,n,os,rfl⟩
   refine ⟨rfl,n,os,?_⟩
   rw [Q32,Q0d]
   congr 1
   unfold putRow
   congr 1
   funext c
   unfold putCells
   congr 1
   funext k x
   simp only [List.size_toArray,List.length_map]
   split
   ·rename_i h
    simp only [id]
    rw [getElem!_pos _ _ (by simp; omega),getElem!_pos _ _ (by simp; omega)]
    simp
   ·rfl
 intro xs ys h
 dsimp only at h
 split at h <;> cases h
 rename_i hl
 refine ⟨Qm7 _ _,fun h0=>?_,fun hl2 cap k0 M nb hM=>?_⟩
 ·subst h0
  exact ⟨rfl,fun M nb=>Q31 (ex:=#[]) (exV:=[]) hb (fun _ _ _ h=>h) hnone⟩
 ·exact Q5a (e:=eI .i64) (fun _=>rfl) (fun _=>rfl) (fun xs=>Qm7 _ _) (ex:=#[]) (exV:=[]) (fun _ _ _ h=>h) hb hrow xs cap k0 M nb hM (by unfold lim at hl; omega)
end Go.Abs
end
section
namespace Go.Proofs
open Go.Shelf
def Try.laysSlM5_f56_ren:Go.Shelf.Ren:=⟨fun | 5=>73 | 8=>94 | 7=>93 | 19=>113 | 20=>114 | 10=>105 | 11=>106 | 12=>107 | 13=>108 | 14=>109 | 15=>110 | 16=>95 | 17=>111 | 18=>112 | 30=>120 | 31=>121 | 32=>122 | 33=>123 | 34=>124 | 35=>115 | 40=>133 | n=>n,fun | 23=>32 | 25=>3 | 3=>3 | 32=>142 | 22=>32 | 0=>0 | 44=>159 | 46=>161 | 4=>4 | 36=>153 | 35=>152 | 41=>127 | 5=>5 | 9=>9 | 53=>163 | 57=>167 | 63=>174 | 64=>66 | n=>n,fun | n=>n⟩
theorem Try.laysSlM5_f56:Go.Proofs.SlLaysM.n5 Try.prog Try.laysSlM5_f56_ren:={
 mixed:=by kernel_rfl
 f5:=⟨Try.f73.name,by decide,Try.func73.trans (congrArg some (by kernel_rfl))⟩
 f7:=⟨Try.f93.name,by decide,Try.func93.trans (congrArg some (by kernel_rfl))⟩
 f8:=Try.func94.trans (congrArg some (by kernel_rfl))
 f10:=⟨Try.f105.name,by decide,Try.func105.trans (congrArg some (by kernel_rfl))⟩
 f11:=⟨Try.f106.name,by decide,Try.func106.trans (congrArg some (by kernel_rfl))⟩
 f12:=⟨Try.f107.name,by decide,Try.func107.trans (congrArg some (by kernel_rfl))⟩
 f13:=⟨Try.f108.name,by decide,Try.func108.trans (congrArg some (by kernel_rfl))⟩
 f14:=⟨Try.f109.name,by decide,Try.func109.trans (congrArg some (by kernel_rfl))⟩
 f15:=⟨Try.f110.name,by decide,Try.func110.trans (congrArg some (by kernel_rfl))⟩
 f16:=⟨Try.f95.name,by decide,Try.func95.trans (congrArg some (by kernel_rfl))⟩
 f17:=⟨Try.f111.name,by decide,Try.func111.trans (congrArg some (by kernel_rfl))⟩
 f18:=⟨Try.f112.name,by decide,Try.func112.trans (congrArg some (by kernel_rfl))⟩
 f19:=Try.func113.trans (congrArg some (by kernel_rfl))
 f20:=Try.func114.trans (congrArg some (by kernel_rfl))
 f30:=⟨Try.f120.name,by decide,Try.func120.trans (congrArg some (by kernel_rfl))⟩
 f31:=Try.func121.trans (congrArg some (by kernel_rfl))
 f32:=Try.func122.trans (congrArg some (by kernel_rfl))
 f33:=⟨Try.f123.name,by decide,Try.func123.trans (congrArg some (by kernel_rfl))⟩
 f34:=⟨Try.f124.name,by decide,Try.func124.trans (congrArg some (by kernel_rfl))⟩
 f35:=⟨Try.f115.name,by decide,Try.func115.trans (congrArg some (by kernel_rfl))⟩
 f40:=⟨Try.f133.name,by decide,Try.func133.trans (congrArg some (by kernel_rfl))⟩
 t0:=Try.underlying0
 a0:=Try.isAgg0
 z0:=Try.sizeOf0
 v0:=Try.zeroValue0
 t3:=Try.underlying3
 a3:=Try.isAgg3
 z3:=Try.sizeOf3
 v3:=Try.zeroValue3
 t4:=Try.underlying4
 a4:=Try.isAgg4
 z4:=Try.sizeOf4
 v4:=Try.zeroValue4
 t5:=Try.underlying5
 a5:=Try.isAgg5
 z5:=Try.sizeOf5
 v5:=Try.zeroValue5
 t9:=Try.underlying9
 a9:=Try.isAgg9
 z9:=Try.sizeOf9
 v9:=Try.zeroValue9
 t22:=Try.underlying32
 a22:=Try.isAgg32
 z22:=Try.sizeOf32
 v22:=Try.zeroValue32
 t23:=Try.underlying32
 a23:=Try.isAgg32
 z23:=Try.sizeOf32
 v23:=Try.zeroValue32
 t25:=Try.underlying3
 a25:=Try.isAgg3
 z25:=Try.sizeOf3
 v25:=Try.zeroValue3
 t32:=Try.underlying142
 a32:=Try.isAgg142
 z32:=Try.sizeOf142
 v32:=Try.zeroValue142
 t35:=Try.underlying152
 a35:=Try.isAgg152
 z35:=Try.sizeOf152
 v35:=Try.zeroValue152
 t36:=Try.underlying153
 a36:=Try.isAgg153
 z36:=Try.sizeOf153
 v36:=Try.zeroValue153
 t41:=Try.underlying127
 a41:=Try.isAgg127
 z41:=Try.sizeOf127
 v41:=Try.zeroValue127
 t44:=Try.underlying159
 a44:=Try.isAgg159
 z44:=Try.sizeOf159
 v44:=Try.zeroValue159
 t46:=Try.underlying161
 a46:=Try.isAgg161
 z46:=Try.sizeOf161
 v46:=Try.zeroValue161
 t53:=Try.underlying163
 a53:=Try.isAgg163
 z53:=Try.sizeOf163
 v53:=Try.zeroValue163
 t57:=Try.underlying167
 a57:=Try.isAgg167
 z57:=Try.sizeOf167
 v57:=Try.zeroValue167
 t63:=Try.underlying174
 a63:=Try.isAgg174
 z63:=Try.sizeOf174
 v63:=Try.zeroValue174
 t64:=Try.underlying66
 a64:=Try.isAgg66
 z64:=Try.sizeOf66
 v64:=Try.zeroValue66 }
open Go.Sort Go.RowKit in
theorem Try.slices_Sort_int (blk off cap:Nat) (zs:List Int) (w:World) (hH:Holds (Value.int .i64) w blk off zs.toArray) (hblk:blk < w.heap.size) (hsz:zs.length < 4611686018427387904) :
  Calls Try.prog 73 #[.slice (some ⟨blk,off,none⟩) zs.length cap] w fun e w' =>
   e = .returned (.tuple #[])∧∃ n os,w' = grow (putRow (Value.int .i64) (Sort.ahead w n) blk off (zs.mergeSort fun x y=>decide (x≤y)).toArray) os:=AnyM.slices_Sort_int Try.laysSlM5_f56 blk off cap zs w hH hblk hsz
open Go.RowKit Go.Sort in
theorem Try.slices_Sort_int_none (p:Option Addr) (cap:Nat) (w:World) :
  Calls Try.prog 73 #[.slice p 0 cap] w fun e w'=>e = .returned (.tuple #[])∧w' = w:=AnyM.slices_Sort_int_none Try.laysSlM5_f56 p cap w
end Go.Proofs
end
section
namespace Go.Proofs
open Go.Abs
theorem Try.rowK73:Go.Abs.RowK Try.prog 73 (eI .i64) 1 [] Q66 :=
 Q67 (by kernel_rfl) Try.slices_Sort_int Try.slices_Sort_int_none
end Go.Proofs
end
section
namespace Go.Proofs
open Go Go.Abs
set_option maxRecDepth 10000
set_option maxHeartbeats 4000000
theorem Qtj:Qgw Try.prog 35 Qlv:=Qrx Quw
theorem Quz:Qhb Try.prog 85 Qmw:=Qsp Qwa Qfx
theorem Qw8:Qix Try.prog 116 Qop:=Qur Qxx Qfx
theorem Qtk:Qgy Try.prog 98 Qlw:=Qry Qw8 Qux
theorem Qss:Qf4 Try.prog 86 Qjs:=Qp8 Qtk Qti Qfx
theorem Qxy:Qj0 Try.prog 64 Qr1:=Qv7 Quz Qss Qym
theorem Qwb:Qhm Try.prog 31 Qn8:=Qta Qw5 Qfx
theorem Qjh:Qdr Try.prog 65 Qcq:=Qp9 Qth
theorem Qy3:Qnq Try.prog 115 Quy:=Qxt Q0a
theorem Q0e:Qo5 Try.prog 95 Qwi:=Qyk Qy3 Q0q
theorem Qw9:Qiz Try.prog 96 Qoq:=Qus Qxw
theorem Qol:Qdz Try.prog 74 Qhi:=Qm3 Q0e Qw9 Qqf Qfx
theorem Qck:Qb1 Try.prog 50 Qcd:=Qtb Qol Qw7
theorem Qst:Qf7 Try.prog 30 Qjt:=Qqa Qwb Qck Qxy Qjh Qte Qfx
theorem Qsu:Qf9 Try.prog 37 Qju:=Qqb Qck Qtf Qfx
theorem Qj9:Qcw Try.prog 76 Qei:=Qje Qlt
theorem Qr2:Qek Try.prog 71 Qjg:=Qoj Qsr Qfx
theorem Qdp:Qb8 Try.prog 40 Qco:=Qmr Qr2 Qok
theorem Qka:Qcy Try.prog 97 Qej:=Qjf Qck Qlu
theorem Qmt:Qc8 Try.prog 77 Qgr:=Qj6 Qdp Qka Qm6
theorem Qmu:Qda Try.prog 53 Qgs:=Qj7 Qdp Qck Qj9 Qmt Qm5 Qfx
theorem Qd3:Qb6 Try.prog 39 Qct:=Qit Qck Qj8 Qfx
theorem Qm9:Qdi Try.prog 38 Qg3:=Qlq Qd3 Qmu Qn5 Qfx
theorem Qlx:Qc2 Try.prog 41 Qfy:=Qjo Qms
theorem Qxa:Qjb Try.prog 72 Qor:=Qut Qxv
theorem Qji:Qcm Try.prog 42 Qd2:=Qh5 Qck Qxa Qjp Qfx
theorem Qna:Qdk Try.prog 11 Qg4:=Qlr Qst Qsu Qm9 Qd3 Qdp Qlx Qji Qn4 Qfx
theorem Qnb:Qdm Try.prog 48 Qdo:=Qls Qn6
theorem Qjj:Qds Try.prog 47 Qby:=Qqc Qjh Try.rowK73 Qtg Qfx
theorem Qg7:Qcu Try.prog 17 Qbx:=Qm4 Qjj Qnb Qqe
theorem Qn9:Qgq Try.prog 45 Qdy:=Quu Qxu Qfx
theorem Q2c:Quf Try.prog 16 Qyx:=Qz9 Qn9 Q3b
theorem Qtl:Qg0 Try.prog 9 Qg5:=Qrz Qna Q2c Qg7 Qtj Quv
theorem Qqg:Qec Try.prog 49 Qee:=Qn3 Qr0
theorem Qsv:Qgc Try.prog 18 Qcr:=Qqd Qjj Qqg Qtd
theorem Qwc:Qh3 Try.prog 46 Qem:=Qtc Qw6 Qfx
theorem Qos:Qg6 Try.prog 15 Qef:=Qv8 Qn9 Qwc Qyl
theorem Qu0:Qhd Try.prog 19 Qd5:=Qsq Qos Qv9
theorem Qtm:Qc0 Try.prog 4 Qb3:=Qfw Qtl Qos Qg7 Qsv Qu0 Qg2 Qfx
end Go.Proofs
end
section
namespace Go.Abs
open Go Go.ChangeShapes Go.WideShapes Go.ChangeAt Go.RowKit
def live (w:World):Nat→Nat→Prop:=fun b o=>(w.cell? ⟨b,o,none⟩).isSome = true
def RDs (w:World):List D→List Value→Prop
 | [],vs=>vs = []
 | x :: xs,vs=>∃ u us,vs = u :: us∧RD (live w) w x u∧RDs w xs us
theorem Q1h {w:World}:∀ {xs ys:List D} {us vs:List Value},RDs w xs us→RDs w ys vs→RDs w (xs ++ ys) (us ++ vs)
 | [],ys,us,vs,h,k=>by simp only [RDs] at h; subst h; simpa using k
 | x :: xs,ys,us,vs,⟨u,us',e,r,h⟩,k=>by subst e; exact ⟨u,us' ++ vs,by simp,r,Q1h h k⟩
def RDat (w:World) (cs:List Value) (off:Nat) (xs:List D):Prop:=RDs w xs ((cs.drop off).take xs.length)
theorem RDat.app {w:World} {cs:List Value} {off:Nat} {xs ys:List D} (h:RDat w cs off xs) {n:Nat} (hn:n = off + xs.length) (k:RDat w cs n ys):RDat w cs off (xs ++ ys):=by
 subst hn
 have:=Q1h h k
 unfold RDat
 rw [List.length_append,List.take_add,List.drop_drop]
 exact this
theorem RDat.nil {w:World} {cs:List Value} {off:Nat}:RDat w cs off []:=by simp [RDat,RDs]
theorem RDat.all {w:World} {cs:List Value} {xs:List D} (h:RDat w cs 0 xs) (hl:cs.length = xs.length):RDs w xs cs:=by
 unfold RDat at h
 rw [List.drop_zero,← hl,List.take_length] at h
 exact h
def Q5d {α:Type} (P:Program) (t:TypeId) (e:α→List D) (wf:α→Prop):Prop :=
 ∀ {H:Type} {enc:TypeId×Value→H} {w:World} {base:Nat} {spare:Nat→Bool} {held:Bool} {fuel:Nat} {cs:List Value} {x:DataW H×List MemPlace},
  DataW.trod enc P w base spare held fuel t cs = some x→∃ a,wf a∧RDs w (e a) cs
def wfI (k:IntKind) (n:Int):Prop:=(Lit.int k n).wf = true
variable {P:Program} {t:TypeId}
theorem Q68 {k:IntKind} (ht:P.underlying t = some (.int k)):Q5d P t (fun n:Int=>[.int k n]) (wfI k):=by
 intro H enc w base spare held fuel cs x h
 obtain ⟨n,rfl,_,hw⟩:=DataW.trod_int ht h
 exact ⟨n,hw,_,_,rfl,by simp [RD],rfl⟩
theorem Q4r {α:Type} {el:TypeId} {e:α→List D} {wf:α→Prop} {sz:Nat} (he:Q5d P el e wf) (hsz:P.cellsOf el = sz) (hlen:∀ a,(e a).length = sz)
  {H:Type} {enc:TypeId×Value→H} {w:World} {base:Nat} {spare:Nat→Bool} {held:Bool} {fuel off:Nat} {cs:List Value} {x:DataW H×List MemPlace}
  (h:DataW.trod enc P w base spare held fuel el ((cs.drop off).take (P.cellsOf el)) = some x):∃ a,wf a∧RDat w cs off (e a):=by
 obtain ⟨a,h1,h2⟩:=he h
 refine ⟨a,h1,?_⟩
 unfold RDat
 rw [hlen,← hsz]; exact h2
theorem Q7w {H:Type} {enc:TypeId×Value→H} {w:World} {base:Nat} {spare:Nat→Bool} {held:Bool} {fuel:Nat} {cs:List Value} {x:DataW H×List MemPlace} {n:Nat} {el:TypeId}
  (ht:P.underlying t = some (.array n el)) (h:DataW.trod enc P w base spare held fuel t cs = some x) :
  cs.length = P.cellsOf t∧∃ m,∀ i,i < n→∃ y,DataW.trod enc P w base spare held m el ((cs.drop (i * P.cellsOf el)).take (P.cellsOf el)) = some y:=by
 obtain ⟨xs,m,_,_,h1,h2,h3⟩:=DataW.trod_array ht h
 exact ⟨h1,m,fun i hi=>⟨xs[i]'(by omega),by rw [h3 i hi]; exact List.getElem?_eq_getElem (by omega)⟩⟩
def Qnc {α:Type} (P:Program) (t:TypeId) (v:α→V) (wf:α→Prop):Prop :=
 ∀ {H:Type} {enc:TypeId×Value→H} {w:World} {base b0:Nat} {spare:Nat→Bool} {held:Bool} {u:Value} {d:DataW H} {ps:List MemPlace},
  Value.okWide P w .any b0 t u→DataW.Trod enc P w base spare held t u d ps→∃ a,wf a∧RF ⟨fun _=>0,live w,fun _=>.ext⟩ w (v a) u
theorem Q84 {α:Type} {e:α→D} {wf:α→Prop} (he:Q5d P t (fun a=>[e a]) wf) (hone:∀ w b0 u,Value.okWide P w .any b0 t u→u.cells = #[u]):Qnc P t (fun a=>.d (e a)) wf:=by
 intro H enc w base b0 spare held u d ps hok hd
 obtain ⟨fuel,hf⟩:=hd
 rw [hone _ _ _ hok] at hf
 obtain ⟨a,h1,u',us,h2,h3,h4⟩:=he hf
 simp only [RDs] at h4; subst h4
 simp at h2; subst h2
 exact ⟨a,h1,fun ℓ=>by simpa [RV] using h3⟩
theorem Q85 {k:IntKind} (ht:P.underlying t = some (.int k)):∀ w b0 u,Value.okWide P w .any b0 t u→u.cells = #[u]:=by
 intro w b0 u h
 simp only [Value.okWide,ht] at h
 cases u <;> first | rfl | (simp [Cell.okWide,Cell.ok,ht] at h)
theorem Q9z {imm:Nat→Nat→Prop} {w:World} {x:D} {u:Value} (h:RD imm w x u):u.oneCell' = true:=by
 cases x with
 | int k n=>simp only [RD] at h; subst h; rfl
 | bool b=>simp only [RD] at h; subst h; rfl
 | str s=>simp only [RD] at h; subst h; rfl
 | lst sz l=>simp only [RD] at h; obtain ⟨a,cap,rfl,_⟩:=h; cases a <;> rfl
theorem Q69 {w:World} {g:G} (hg:g.imm = live w):∀ {xs:List D} {us:List Value} {ℓ:Owner} {i:Nat},RDs w xs us→RVs g w (xs.map V.d) ℓ i us∧∀ u∈us,u.oneCell' = true
 | [],us,ℓ,i,h=>by simp only [RDs] at h; subst h; simp [RVs]
 | x :: xs,us,ℓ,i,⟨u,us',e,r,h⟩=>by
  subst e
  obtain ⟨h1,h2⟩:=Q69 hg (ℓ:=ℓ) (i:=i + 1) h
  refine ⟨⟨u,us',rfl,by simpa [RV,hg] using r,h1⟩,fun v hv=>?_⟩
  rcases List.mem_cons.1 hv with rfl | hv
  ·exact Q9z r
  ·exact h2 v hv
theorem Q86 {α:Type} {e:α→List D} {wf:α→Prop} (he:Q5d P t e wf) (hagg:(∃ fs,P.underlying t = some (.struct fs))∨∃ n el,P.underlying t = some (.array n el)):Qnc P t (fun a=>.agg ((e a).map V.d)) wf:=by
 intro H enc w base b0 spare held u d ps hok hd
 obtain ⟨cs,rfl⟩ : ∃ cs,u = .agg cs:=by
  rcases hagg with ⟨fs,ht⟩ | ⟨n,el,ht⟩
  ·simp only [Value.okWide,ht] at hok; obtain ⟨cs,rfl,_⟩:=hok; exact ⟨cs,rfl⟩
  ·simp only [Value.okWide,ht] at hok; obtain ⟨cs,rfl,_⟩:=hok; exact ⟨cs,rfl⟩
 obtain ⟨fuel,hf⟩:=hd
 obtain ⟨a,h1,h2⟩:=he hf
 refine ⟨a,h1,fun ℓ=>?_⟩
 simp only [RV]
 obtain ⟨h3,h4⟩:=Q69 (g:=⟨fun _=>0,live w,fun _=>.ext⟩) rfl (ℓ:=ℓ) (i:=0) h2
 exact ⟨cs.toList,by simp,h3,h4⟩
def Q87 (P:Program) (f:FuncId) (ts:List TypeId):Prop :=
 ∀ {H:Type} {enc:TypeId×Value→H} {w:World} {b0:Nat} {us:List Value} {ds:List (DataW H)} {ps:List MemPlace},
  (∀ (j:Nat) t u,ts[j]? = some t→us[j]? = some u→Value.okWide P w .any b0 t u)→DataW.TrodAll enc P w 0 (fun _=>true) true ts us ds ps →
  ∃ vs,RFs ⟨fun _=>0,live w,fun _=>.ext⟩ w vs us∧(∀ x∈vs,Flat x)∧V.lt.go 0 vs = true∧∀ M nb,ACalls P f vs M nb (.d (.bool true)) M nb
theorem Qxz (hl:laidOutB P = true) {W W' : World} {sp:Nat→Bool} {H:Type} {enc:TypeId×Value→H}:∀ {ts:List TypeId} {us:List Value} {ds:List (DataW H)} {ps:List MemPlace},
  (∀ t∈ts,P.readableRec t = true∧t < P.types.size)→DataW.TrodAll enc P W 0 (fun _=>true) true ts us ds ps→(∀ p∈ps,W.sameAt W' p)→(∀ p∈ps,sp p.block = true)→DataW.TrodAll enc P W' 0 sp true ts us ds ps
 | [],[],[],ps,_,h,_,_=>h
 | t :: ts,u :: us,d :: ds,ps,hr,⟨p,q,h1,h2,e⟩,hs,hp=>by
  subst e
  obtain ⟨r1,r2⟩:=hr t (by simp)
  exact ⟨p,q,WideElems.Trod_stays hl r1 r2 h1 (fun x hx=>hs x (by simp [hx])) (fun x hx=>hp x (by simp [hx])),Qxz hl (fun t ht=>hr t (by simp [ht])) h2 (fun x hx=>hs x (by simp [hx])) (fun x hx=>hp x (by simp [hx])),rfl⟩
 | [],[],_ :: _,_,_,h,_,_=>h.elim
 | [],_ :: _,_,_,_,h,_,_=>h.elim
 | _ :: _,[],_,_,_,h,_,_=>h.elim
 | _ :: _,_ :: _,[],_,_,h,_,_=>h.elim
theorem Q0f {W:World} {sp:Nat→Bool} {held:Bool} {base:Nat} {H:Type} {enc:TypeId×Value→H}:∀ {ts:List TypeId} {us:List Value} {ds:List (DataW H)} {ps:List MemPlace},
  DataW.TrodAll enc P W base sp held ts us ds ps→ds.length = ts.length∧us.length = ts.length
 | [],[],[],ps,h=>⟨rfl,rfl⟩
 | t :: ts,u :: us,d :: ds,ps,⟨p,q,h1,h2,e⟩=>by have:=Q0f h2; simp [this.1,this.2]
 | [],[],_ :: _,_,h=>h.elim
 | [],_ :: _,_,_,h=>h.elim
 | _ :: _,[],_,_,h=>h.elim
 | _ :: _,_ :: _,[],_,h=>h.elim
theorem Q88 {C:Checked} {f:FuncId} {fn:Func} {s:ChangeSpec} {conds:List PathCond} {bt:TypeId} {os:Os} {H:Type} {enc:TypeId×Value→H}
  (own:ownKnob C.prog.godebug = none) (started:os.Started) (noInit:C.prog.inits.idxOf? f = none) (hfn:C.prog.funcs[f]? = some fn)
  (witness:∃ (w:World) (tape:Tape) (i:Input),w.os = os∧(w.forCall tape i).Shaped C.prog∧i.vars = []∧Input.okWide C.prog (w.forCall tape i) .any w.heap.size f i ∧
   s.pre6 enc C.prog fn conds false (w.forCall tape i).memory i.args∧({}:Assume).holds C.prog (lone (Frame.enter C.prog f i.args .normal) [] (w.forCall tape i)))
  (hvars:s.vars = []) (hres:fn.resultTypes = #[bt]) (hbt:C.prog.underlying bt = some .bool)
  (hl:laidOutB C.prog = true) (hread:∀ t∈fn.params.toList,C.prog.readableRec t = true∧t < C.prog.types.size)
  (hspec:∀ ds:List (DataW H),ds.length = fn.params.size→s.fn H ds = { results:=[.lit (.bool true)],args:=ds })
  (law:Q87 C.prog f fn.params.toList) :
  ReturnsInHanded {} C os f .any (s.pre6 enc C.prog fn conds false) (s.post enc C.prog fn false true false false):=by
 refine returnsInHanded_of_change own started noInit hfn witness ?_
 intro W base args ds gs before hval hW hcnd _
 have hW':=hW
 obtain ⟨p,q,hA,hV,hps,hfz,hnd⟩:=hW
 rw [hvars] at hV
 obtain ⟨rfl,rfl⟩ : gs = []∧q = []:=by
  cases gs with
  | nil=>exact ⟨rfl,hV⟩
  | cons _ _=>exact hV.elim
 obtain ⟨vs,h1,h2,h3,h4⟩:=law (fun j t u ht hu=>hval j t u (by simpa using ht) (by simpa using hu)) hA
 obtain ⟨hb,_,h5⟩:=h4 (fun _=>none) 0
 have hlv:∀ b o,live W b o→b < W.heap.size:=by
  intro b o h
  simp only [live] at h
  obtain ⟨v,hv⟩:=Option.isSome_iff_exists.1 h
  unfold World.cell? at hv
  split at hv
  ·rename_i hh; exact (Array.getElem?_eq_some_iff.1 hh).1
  ·cases hv
 have hmr:MR ⟨fun _=>0,live W,fun _=>.ext⟩ W (fun _=>none) 0:=⟨fun k b h=>(by cases h),fun b o h=>⟨hlv b o h,fun k h=>by cases h⟩⟩
 have h6:=h5 W ⟨fun _=>0,live W,fun _=>.ext⟩ args.toList hmr (fun k cs h=>by cases h) (fun b=>⟨fun t p h=>(by cases h),fun p h=>(by cases h)⟩) h1 h2 (ons_mono (fun k hk=>absurd hk (Nat.not_lt_zero k)) _ (ons_lt vs h3))
 refine Calls.mono h6 fun e W' ⟨v,g',he,_,hr,_,_,hf⟩=>?_
 subst he
 have hv:v = .bool true:=by simpa [RV,RD] using hr
 subst hv
 have hbelow:Below W.heap.size W W':=⟨hf.os,hf.tape,hf.output,hf.size,fun k hk=>(hf.old k hk trivial).2.1⟩
 have hrl:(Value.bool true).resultList fn.resultTypes.size = [.bool true]:=by rw [hres]; rfl
 have hsp:s.fn H (ds ++ []) = { results:=[.lit (.bool true)],args:=ds }:=by
  rw [List.append_nil]
  exact hspec ds (by have:=(Q0f hA).1; simpa using this)
 have hlt:∀ p∈before,p.block < W.heap.size:=fun x hx=>hW'.lt x hx
 have hst:∀ sp:Nat→Bool,(∀ p∈before,sp p.block = true)→DataW.TrodAll enc C.prog W' 0 sp true fn.params.toList args.toList ds before:=by
  intro sp hsp'
  have e:p = before:=by rw [hps,List.append_nil]
  subst e
  exact Qxz hl hread hA (fun x hx=>hbelow.same (hlt x hx)) hsp'
 refine ⟨_,rfl,ds,[],before,[],before,[],hW',?_,?_,?_,World.keptBut_mono (fun p hp=>⟨hp,.inr (.inl hp)⟩) (hbelow.frame (· ∈ before)),fun h=>by cases h⟩
 ·rw [hsp,hrl,hres]
  exact ⟨[],[],⟨1,by simp [DataW.trod,Value.cells,hbt]⟩,rfl,rfl⟩
 ·rw [hsp]
  exact hst _ fun p hp=>by simpa using hlt p hp
 ·rw [hsp,hvars]; rfl
section
variable {α β γ δ:Type} {f:FuncId} {ta tb tc td:TypeId} {va:α→V} {vb:β→V} {vc:γ→V} {vd:δ→V} {wa:α→Prop} {wb:β→Prop} {wc:γ→Prop} {wd:δ→Prop}
theorem Qoa {H:Type} {enc:TypeId×Value→H} {w:World} {base:Nat} {sp:Nat→Bool} {held:Bool} {t:TypeId} {ts:List TypeId} {us:List Value} {ds:List (DataW H)} {ps:List MemPlace} (h:DataW.TrodAll enc P w base sp held (t :: ts) us ds ps) :
  ∃ u us' d ds' p q,us = u :: us' ∧ ds = d :: ds' ∧ DataW.Trod enc P w base sp held t u d p∧DataW.TrodAll enc P w base sp held ts us' ds' q:=by
 match us,ds,h with
 | u :: us',d :: ds',⟨p,q,h1,h2,_⟩=>exact ⟨u,us',d,ds',p,q,rfl,rfl,h1,h2⟩
 | [],[],h=>exact h.elim
 | [],_ :: _,h=>exact h.elim
 | _ :: _,[],h=>exact h.elim
theorem Q0g {H:Type} {enc:TypeId×Value→H} {w:World} {base:Nat} {sp:Nat→Bool} {held:Bool} {us:List Value} {ds:List (DataW H)} {ps:List MemPlace} (h:DataW.TrodAll enc P w base sp held [] us ds ps):us = []:=by
 match us,ds,h with
 | [],[],_=>rfl
 | [],_ :: _,h=>exact h.elim
 | _ :: _,[],h=>exact h.elim
 | _ :: _,_ :: _,h=>exact h.elim
theorem Qbab (ra:Qnc P ta va wa) (fa:∀ a,(va a).dem = va a) (la:∀ a,(va a).lt 0 = true) (rb:Qnc P tb vb wb) (fb:∀ a,(vb a).dem = vb a) (lb:∀ a,(vb a).lt 0 = true)
  (law:∀ a b,wa a→wb b→∀ M nb,ACalls P f [va a,vb b] M nb (.d (.bool true)) M nb):Q87 P f [ta,tb]:=by
 intro H enc w b0 us ds ps hok hT
 obtain ⟨u,us',d,ds',p,q,rfl,rfl,h1,hT⟩:=Qoa hT
 obtain ⟨u2,us',d2,ds',p2,q2,rfl,rfl,h2,hT⟩:=Qoa hT
 obtain rfl:=Q0g hT
 obtain ⟨a,ha,hra⟩:=ra (hok 0 _ _ rfl rfl) h1
 obtain ⟨b,hb,hrb⟩:=rb (hok 1 _ _ rfl rfl) h2
 refine ⟨[va a,vb b],⟨u,_,rfl,hra,u2,_,rfl,hrb,rfl⟩,?_,by simp [V.lt.go,la,lb],law a b ha hb⟩
 intro x hx
 simp only [List.mem_cons,List.not_mem_nil,or_false] at hx
 rcases hx with rfl | rfl
 ·exact fa a
 ·exact fb b
theorem Qbac (ra:Qnc P ta va wa) (fa:∀ a,(va a).dem = va a) (la:∀ a,(va a).lt 0 = true) (rb:Qnc P tb vb wb) (fb:∀ a,(vb a).dem = vb a) (lb:∀ a,(vb a).lt 0 = true)
  (rc:Qnc P tc vc wc) (fc:∀ a,(vc a).dem = vc a) (lc:∀ a,(vc a).lt 0 = true)
  (law:∀ a b c,wa a→wb b→wc c→∀ M nb,ACalls P f [va a,vb b,vc c] M nb (.d (.bool true)) M nb):Q87 P f [ta,tb,tc]:=by
 intro H enc w b0 us ds ps hok hT
 obtain ⟨u,us',d,ds',p,q,rfl,rfl,h1,hT⟩:=Qoa hT
 obtain ⟨u2,us',d2,ds',p2,q2,rfl,rfl,h2,hT⟩:=Qoa hT
 obtain ⟨u3,us',d3,ds',p3,q3,rfl,rfl,h3,hT⟩:=Qoa hT
 obtain rfl:=Q0g hT
 obtain ⟨a,ha,hra⟩:=ra (hok 0 _ _ rfl rfl) h1
 obtain ⟨b,hb,hrb⟩:=rb (hok 1 _ _ rfl rfl) h2
 obtain ⟨c,hc,hrc⟩:=rc (hok 2 _ _ rfl rfl) h3
 refine ⟨[va a,vb b,vc c],⟨u,_,rfl,hra,u2,_,rfl,hrb,u3,_,rfl,hrc,rfl⟩,?_,by simp [V.lt.go,la,lb,lc],law a b c ha hb hc⟩
 intro x hx
 simp only [List.mem_cons,List.not_mem_nil,or_false] at hx
 rcases hx with rfl | rfl | rfl
 ·exact fa a
 ·exact fb b
 ·exact fc c
end
theorem Q90 {H:Type} {enc:TypeId×Value→H} {w:World} {base:Nat} {spare:Nat→Bool} {held:Bool} {fuel:Nat} {cs:List Value} {x:DataW H×List MemPlace} {n sz:Nat} {el:TypeId}
  (ht:P.underlying t = some (.array n el)) (hsz:P.cellsOf el = sz) (h:DataW.trod enc P w base spare held fuel t cs = some x) :
  cs.length = P.cellsOf t∧∃ m,∀ i,i < n→∃ y,DataW.trod enc P w base spare held m el ((cs.drop (i * sz)).take (P.cellsOf el)) = some y:=by
 obtain ⟨h1,m,h2⟩:=Q7w ht h
 exact ⟨h1,m,fun i hi=>by have:=h2 i hi; rwa [show i * P.cellsOf el = i * sz from by rw [hsz]] at this⟩
end Go.Abs
end
section
namespace Go.Proofs
open Go Go.Abs
set_option maxRecDepth 100000
def W_3 (x:Int):Prop:=wfI .i64 x
theorem R_3:Q5d Try.prog 3 (eI .i64) W_3:=Q68 Try.underlying3
theorem A_3:Qnc Try.prog 3 (fun (a:Int)=>.d (.int .i64 a)) W_3:=Q84 R_3 (Q85 Try.underlying3)
def W_54 (x:Int×Int):Prop:=W_3 x.1∧W_3 x.2
theorem R_54:Q5d Try.prog 54 (fun p:Int×Int=>[.int .i64 p.1,.int .i64 p.2]) W_54:=by
  intro H enc w base spare held fuel cs x h
  obtain ⟨hl,n,hf⟩:=Q90 (sz:=1) Try.underlying54 (by kernel_rfl) h
  obtain ⟨y0,h0⟩:=hf 0 (by decide)
  obtain ⟨a0,w0,r0⟩:=Q4r (off:=0 * 1) (sz:=1) R_3 (by kernel_rfl) (fun _=>rfl) h0
  obtain ⟨y1,h1⟩:=hf 1 (by decide)
  obtain ⟨a1,w1,r1⟩:=Q4r (off:=1 * 1) (sz:=1) R_3 (by kernel_rfl) (fun _=>rfl) h1
  exact ⟨(a0,a1),⟨w0,w1⟩,RDat.all (xs:=(fun p:Int×Int=>[.int .i64 p.1,.int .i64 p.2]) (a0,a1)) (RDat.app r0 rfl r1) (hl.trans (by kernel_rfl))⟩
theorem A_54:Qnc Try.prog 54 (fun (a:Int×Int)=>.agg [.d (.int .i64 a.1),.d (.int .i64 a.2)]) W_54:=Q86 R_54 (.inr ⟨_,_,Try.underlying54⟩)
end Go.Proofs
end
section
namespace Go.Abs
open Go
theorem Qyn {X R:Type} {F:(X→Option R)→X→Option R} (I:X→Prop) (m:X→Nat) (Q:X→Option R→Prop)
  (step:∀ (k:X→Option R) (x:X),I x→(∀ y,I y→m y < m x→Q y (k y))→Q x (F k x)):∀ (fuel:Nat) (x:X),I x→m x < fuel→Q x (Qdu F fuel x)
 | 0,x,_,h=>absurd h (Nat.not_lt_zero _)
 | fuel + 1,x,hi,h=>step _ x hi fun y hy hm=>Qyn I m Q step fuel y hy (by omega)
theorem Q7x {X R:Type} {F:(X→Option R)→X→Option R} {fuel:Nat} {x:X} (I:X→Prop) (m:X→Nat) (q:Option R) (hi:I x) (hm:m x < fuel)
  (step:∀ (k:X→Option R) (x:X),I x→(∀ y,I y→m y < m x→k y = q)→F k x = q):Qdu F fuel x = q :=
 Qyn I m (fun _ r=>r = q) step fuel x hi hm
theorem Qu1 {x:Int} (h1 : -9223372036854775808≤x) (h2:x≤9223372036854775807):IntKind.wrap .i64 x = x:=by
 simp [IntKind.wrap,IntKind.bits,IntKind.signed]; omega
theorem Q3c {n:Nat} (h:n < 9223372036854775807):IntKind.wrap .i64 ((n:Int) + 1) = ((n + 1:Nat):Int):=by
 rw [Qu1 (by omega) (by omega)]; omega
theorem Qx0 {α:Type} {l:List α} {n:Nat} (h:n < l.length):getO l (n:Int) = some l[n]:=by
 simp [getO,h]
theorem Qr3 {α:Type} {l m:List α} (h:l.length + m.length≤lim):appO l m = some (l ++ m):=by
 unfold appO; rw [if_pos h]
theorem Q3d {α:Type} {s t:List α} {k:Nat} (hs:k < s.length) (ht:k < t.length) (h:s.take k = t.take k) (he:s[k] = t[k]):s.take (k + 1) = t.take (k + 1):=by
 rw [List.take_add_one,List.take_add_one,h,List.getElem?_eq_getElem hs,List.getElem?_eq_getElem ht,he]
theorem Q91 {R:Type} {F:(Int→Option R)→Int→Option R} {len fuel:Nat} (G:Nat→Option R) (hf:len < fuel)
  (step:∀ (k:Int→Option R) (n:Nat),n < len→k ((n + 1:Nat):Int) = G (n + 1)→F k (n:Int) = G n) (last:∀ k:Int→Option R,F k (len:Int) = G len):Qdu F fuel 0 = G 0:=by
 have:=Qyn (F:=F) (fun x=>∃ n:Nat,x = (n:Int)∧n≤len) (fun x=>len - x.toNat) (fun x r=>∀ n:Nat,x = (n:Int)→r = G n) (fun k x hx ih=>by
  obtain ⟨n,rfl,hn⟩:=hx
  intro m hm
  obtain rfl:n = m:=by omega
  by_cases h:n < len
  ·exact step k n h (ih _ ⟨n + 1,rfl,by omega⟩ (by omega) (n + 1) rfl)
  ·obtain rfl:n = len:=by omega
   exact last k) fuel 0 ⟨0,rfl,by omega⟩ (by simpa using hf)
 exact this 0 rfl
theorem Q7y {X S R:Type} {F:(X→Option R)→X→Option R} {len:Nat} (mk:Nat→S→X) (G:Nat→S→Option R)
  (step:∀ (k:X→Option R) (n:Nat) (s:S),n < len→(∀ s',k (mk (n + 1) s') = G (n + 1) s')→F k (mk n s) = G n s) (last:∀ (k:X→Option R) (s:S),F k (mk len s) = G len s) :
  ∀ (fuel n:Nat) (s:S),n≤len→len - n < fuel→Qdu F fuel (mk n s) = G n s
 | 0,n,s,_,h=>by omega
 | fuel + 1,n,s,hn,h=>by
  show F (Qdu F fuel) (mk n s) = _
  by_cases hlt:n < len
  ·exact step _ n s hlt fun s'=>Q7y mk G step last fuel (n + 1) s' (by omega) (by omega)
  ·obtain rfl:n = len:=by omega
   exact last _ s
theorem Q1i:∀ {l m:List Int},l.Pairwise (· < ·)→m.Pairwise (· < ·)→(∀ x,x∈l↔x∈m)→l = m
 | l,m,h1,h2,h=>by
  have n1:l.Nodup:=h1.imp fun h=>by omega
  have n2:m.Nodup:=h2.imp fun h=>by omega
  have hp:l.Perm m:=(List.perm_ext_iff_of_nodup n1 n2).2 h
  exact List.Perm.eq_of_pairwise (le:=(· < ·)) (fun a b _ _ h1 h2=>by omega) h1 h2 hp
section
variable {α:Type} {p:α→Bool}
end
theorem Q3e {X S R:Type} {F:(X→Option R)→X→Option R} {len:Nat} (mk:Nat→S→X) (I:Nat→S→Prop) (G:Nat→S→Option R)
  (step:∀ (k:X→Option R) (n:Nat) (s:S),n < len→I n s→(∀ s',I (n + 1) s' → k (mk (n + 1) s') = G (n + 1) s')→F k (mk n s) = G n s) (last:∀ (k:X→Option R) (s:S),I len s→F k (mk len s) = G len s) :
  ∀ (fuel n:Nat) (s:S),n≤len→len - n < fuel→I n s→Qdu F fuel (mk n s) = G n s
 | 0,n,s,_,h,_=>by omega
 | fuel + 1,n,s,hn,h,hi=>by
  show F (Qdu F fuel) (mk n s) = _
  by_cases hlt:n < len
  ·exact step _ n s hlt hi fun s' hi'=>Q3e mk I G step last fuel (n + 1) s' (by omega) (by omega) hi'
  ·obtain rfl:n = len:=by omega
   exact last _ s hi
theorem Qvc:∀ {l:List Int} {a b:Int},l.Pairwise (· < ·)→(∀ x∈l,a≤x∧x < b)→l.length≤(b - a).toNat
 | [],_,_,_,_=>by simp
 | x :: xs,a,b,h,hr=>by
  obtain ⟨h1,h2⟩:=List.pairwise_cons.1 h
  have:=Qvc (a:=x + 1) (b:=b) h2 fun y hy=>⟨by have:=h1 y hy; omega,(hr y (by simp [hy])).2⟩
  have:=hr x (by simp)
  simp only [List.length_cons]
  omega
end Go.Abs
end
section
namespace Go.Abs
abbrev big : Nat := 1000000000000
def Q5e (a : Qg) : Prop := a.zJ.length < big ∧ a.zK.length < big ∧ a.zL.length < big
end Go.Abs
end
section
namespace Go.Abs
open Go
def ahead {α:Type} (l:List α) (n:Nat):Option α:=if n = 0 then none else l[n - 1]?
end Go.Abs
end
section
namespace Go.Abs
open Go
def Q7z (x y:Qb):Prop:=x.From < y.From∨x.From = y.From∧x.Event < y.Event
instance (x y:Qb):Decidable (Q7z x y):=by unfold Q7z; infer_instance
structure Q70 (a:Qg):Prop where
 al0:∀ x∈a.zJ,0≤x∧x < 32
 al:a.zJ.Pairwise (· < ·)
 st:0≤a.zM∧a.zM≤4096
 ma0:∀ x∈a.zK,0≤x∧x < a.zM
 ma:a.zK.Pairwise (· < ·)
 ed0:∀ x∈a.zL,0≤x.From∧x.From < a.zM∧0≤x.To∧x.To < a.zM∧x.Event∈a.zJ
 ed:a.zL.Pairwise Q7z
section
variable {a:Qg} (h:Q70 a) (hs:Q5e a)
include h hs
end
end Go.Abs
end
section
namespace Go.Abs
open Go
end Go.Abs
end
section
namespace Go.Abs
open Go
structure Fnd (a:Qg) (o:List Int):Prop where
 nd:o.Nodup
 rg:∀ s∈o,0≤s∧s < a.zM
theorem Fnd.len {a:Qg} {o:List Int} (h:Fnd a o):o.length≤a.zM.toNat:=by
 have hO:Go.Sort.SWO Qdx:=⟨fun x=>by simp [Qdx],fun x y z h1 h2=>by simp [Qdx] at *; omega,fun x y z h1 h2=>by simp [Qdx] at *; omega⟩
 have hp:=Qn7 Qdx o
 have hs:=Qm8 hO o
 have hn:(Qsx Qdx o).Nodup:=(hp.nodup_iff).2 h.nd
 have hlt:(Qsx Qdx o).Pairwise (· < ·):=by
  have:(Qsx Qdx o).Pairwise fun x y=>Qdx y x = false∧x≠y:=hs.and hn
  exact this.imp fun ⟨h1,h2⟩=>by simp [Qdx] at h1; omega
 have:=Qvc hlt (a:=0) (b:=a.zM) fun x hx=>h.rg x (hp.mem_iff.1 hx)
 rw [Qm7] at this
 simpa using this
end Go.Abs
end
section
namespace Go.Abs
open Go
section
variable {a:Qg} (h:Q70 a)
include h
end
end Go.Abs
end
section
namespace Go.Abs
open Go
structure Evs (l:List Int):Prop where
 rg:∀ x∈l,0≤x∧x < 5
 so:l.Pairwise (· < ·)
theorem Evs.len {l:List Int} (h:Evs l):l.length≤5:=by have:=Qvc h.so h.rg; simpa using this
structure Mks (n:Nat) (ms:List Int):Prop where
 rg:∀ x∈ms,0≤x∧x < n
 so:ms.Pairwise (· < ·)
structure Eds (al:List Int) (N:Int) (i k:Nat) (es:List Qb):Prop where
 rg:∀ x∈es,0≤x.From∧0≤x.To∧x.To < N∧x.Event∈al∧(x.From < i∨x.From = i∧∃ j:Nat,j < k∧al[j]? = some x.Event)
 so:es.Pairwise Q7z
 ln:es.length≤5 * i + k
theorem Mks.up {n:Nat} {ms:List Int} (h:Mks n ms):Mks (n + 1) ms:=⟨fun x hx=>by have:=h.rg x hx; omega,h.so⟩
theorem Mks.add {n:Nat} {ms:List Int} (h:Mks n ms):Mks (n + 1) (ms ++ [(n:Int)]):=by
 refine ⟨fun x hx=>?_,?_⟩
 ·rcases List.mem_append.1 hx with hx | hx
  ·have:=h.rg x hx; omega
  ·simp at hx; omega
 ·rw [List.pairwise_append]
  exact ⟨h.so,by simp,fun x hx y hy=>by simp at hy; have:=h.rg x hx; omega⟩
theorem Mks.len {n:Nat} {ms:List Int} (h:Mks n ms):ms.length≤n:=by have:=Qvc h.so h.rg; simpa using this
section
variable {al:List Int} (hal:Evs al) {N:Int} {i k:Nat} {es:List Qb}
theorem Eds.up (h:Eds al N i k es):Eds al N i (k + 1) es:=⟨fun x hx=>by
 obtain ⟨h1,h2,h3,h4,h5⟩:=h.rg x hx
 refine ⟨h1,h2,h3,h4,?_⟩
 rcases h5 with h5 | ⟨h5,j,h6,h7⟩
 ·exact .inl h5
 ·exact .inr ⟨h5,j,by omega,h7⟩,h.so,by have:=h.ln; omega⟩
theorem Eds.next (h:Eds al N i k es) (hk:k≤5):Eds al N (i + 1) 0 es:=⟨fun x hx=>by
 obtain ⟨h1,h2,h3,h4,h5⟩:=h.rg x hx
 exact ⟨h1,h2,h3,h4,.inl (by rcases h5 with h5 | ⟨h5,_⟩ <;> omega)⟩,h.so,by have:=h.ln; omega⟩
include hal in
theorem Eds.add (h:Eds al N i k es) (hk:k < al.length) {t:Int} (ht:0≤t∧t < N):Eds al N i (k + 1) (es ++ [⟨(i:Int),al[k],t⟩]):=by
 refine ⟨fun x hx=>?_,?_,by have:=h.ln; simp only [List.length_append,List.length_cons,List.length_nil]; omega⟩
 ·rcases List.mem_append.1 hx with hx | hx
  ·exact h.up.rg x hx
  ·simp at hx; subst hx
   exact ⟨by simp only; omega,ht.1,ht.2,List.getElem_mem hk,.inr ⟨rfl,k,by omega,List.getElem?_eq_getElem hk⟩⟩
 ·rw [List.pairwise_append]
  refine ⟨h.so,by simp,fun x hx y hy=>?_⟩
  simp at hy; subst hy
  obtain ⟨_,_,_,_,h5⟩:=h.rg x hx
  rcases h5 with h5 | ⟨h5,j,h6,h7⟩
  ·exact .inl h5
  ·refine .inr ⟨h5,?_⟩
   obtain ⟨h8,h9⟩:=List.getElem?_eq_some_iff.1 h7
   rw [← h9]
   exact List.pairwise_iff_getElem.1 hal.so j k h8 hk h6
end
end Go.Abs
end
section
namespace Go.Abs
open Go
theorem Q4s {α β:Type} {o:Option α} {K:α→Option β} {r:Option β} {P:α→Prop} (h:∃ v,o = some v∧P v) (hk:∀ v,P v→K v = r):o.bind K = r:=by
 obtain ⟨v,rfl,hv⟩:=h
 exact hk v hv
def upto (n:Int):List Int:=(List.range n.toNat).map fun (i:Nat)=>(i:Int)
theorem Qzb {n x:Int}:x∈upto n↔0≤x∧x < n:=by
 simp only [upto,List.mem_map,List.mem_range]
 constructor
 ·rintro ⟨i,hi,rfl⟩; omega
 ·rintro ⟨h1,h2⟩; exact ⟨x.toNat,by omega,by omega⟩
theorem Q3f (n:Int):(upto n).Pairwise (· < ·):=by
 unfold upto
 rw [List.pairwise_map]
 exact List.pairwise_lt_range.imp fun h=>by omega
theorem Qnd (n:Int):(upto n).length = n.toNat:=by simp [upto]
theorem Q2d {n:Int} {i:Nat} (h:i < (upto n).length):(upto n)[i] = (i:Int):=by simp [upto]
theorem Qr4 {X S R α:Type} {F:(X→Option R)→X→Option R} {fuel:Nat} {l:List α} (mk:Int→S→X) (stp:S→α→S) (I:Nat→S→Prop) (K:S→Option R) (hl:l.length < big) (hf:1099511627776≤fuel)
  (step:∀ (k:X→Option R) (n:Nat) (s:S) (h:n < l.length),I n s→F k (mk n s) = k (mk (IntKind.wrap .i64 ((n:Int) + 1)) (stp s l[n])))
  (keep:∀ (n:Nat) (s:S) (h:n < l.length),I n s→I (n + 1) (stp s l[n]))
  (last:∀ (k:X→Option R) (s:S),I l.length s→F k (mk l.length s) = K s) {s0:S} (h0:I 0 s0):Qdu F fuel (mk 0 s0) = K (l.foldl stp s0):=by
 have hb:l.length < 1000000000000:=hl
 have:=Q3e (F:=F) (len:=l.length) (fun n s=>mk n s) I (fun n s=>K ((l.drop n).foldl stp s)) (fun k n s hn hi ih=>by
  rw [step k n s hn hi,Q3c (by omega),ih _ (keep n s hn hi),List.drop_eq_getElem_cons hn,List.foldl_cons]) (fun k s hi=>by rw [last k s hi]; simp) fuel 0 s0 (Nat.zero_le _) (by omega) h0
 simpa using this
def at0 {α:Type} (d:α) (l:List α) (x:Int):α:=l.getD x.toNat d
abbrev lf (L:List Bool) (x:Int):Bool:=at0 false L x
abbrev ati (l:List Int) (x:Int):Int:=at0 0 l x
theorem Q92 {n:Nat} {x:Int} (h0:0≤x) (h1:x < n):inO n x = some ():=by
 unfold inO; rw [if_pos ⟨h0,h1⟩]
theorem Q89 {α:Type} {l:List α} {n:Nat} (h:l.length = n):lenO l n = some ():=by
 unfold lenO; rw [if_pos h]
end Go.Abs
end
section
namespace Go.Abs
open Go
theorem Q5f:Qg5 = some true:=by kernel_rfl
end Go.Abs
end
section
namespace Go.Abs
open Go
theorem Q3g {α:Type} [DecidableEq α] {s t:List α} {ne:α→α→Bool} (hne:∀ x y,ne x y = decide (x≠y)) (hl:s.length = t.length) (h:s.length < 1000000000000) :
  Qdu (fun k5 (i4:Int)=>(if (i4 < (s.length:Int)) then ((getO s i4).bind fun x7=>((getO t i4).bind fun x9=>(if ne x7 x9 then some false else k5 (IntKind.wrap .i64 (i4 + 1))))) else some true)) Qfx 0 = some (decide (s = t)):=by
 refine Q7x (fun i:Int=>∃ n:Nat,i = n∧n≤s.length∧s.take n = t.take n) (fun i=>s.length - i.toNat) _ ⟨0,rfl,by omega,by simp⟩ (by unfold Qfx; omega) ?_
 rintro k _ ⟨n,rfl,hn,he⟩ ih
 by_cases hlt:n < s.length
 ·rw [if_pos (by omega),Qx0 hlt,Qx0 (by omega:n < t.length)]
  simp only [Option.bind_some,hne]
  by_cases hx:s[n] = t[n]
  ·rw [if_neg (by simp [hx]),Q3c (by omega)]
   exact ih _ ⟨n + 1,rfl,by omega,Q3d hlt (by omega) he hx⟩ (by omega)
  ·rw [if_pos (by simp [hx])]
   have:s≠t:=fun e=>hx (by subst e; rfl)
   simp [this]
 ·rw [if_neg (by omega)]
  have e:n = s.length:=by omega
  have:s = t:=by
   rw [e,List.take_length,hl,List.take_length] at he; exact he
  simp [this]
theorem Q9a (x y:Qb):(!((x.From == y.From) && ((x.Event == y.Event) && ((x.To == y.To) && true)))) = decide (x≠y):=by
 cases x; cases y
 simp only [Qb.mk.injEq,Bool.and_true,ne_eq,decide_not]
 congr 1
 rw [Bool.eq_iff_iff]; simp
theorem Q3h {s t:List Int} (h:s.length < 1000000000000):Qdy s t = some (decide (s = t)):=by
 unfold Qdy Q6
 by_cases hl:s.length = t.length
 ·rw [if_neg (by simp [hl])]
  exact Q3g (ne:=fun x y=>x != y) (fun x y=>by rw [Bool.eq_iff_iff]; simp) hl h
 ·rw [if_pos (by simp; omega)]
  have:s≠t:=fun e=>hl (by rw [e])
  simp [this]
theorem Q93 {R:Type} (b:Bool) (A B:R):(if b then A else B) = if (!b) then B else A:=by cases b <;> rfl
theorem Q5g {s t:List Qb} (h:s.length < 1000000000000):Qem s t = some (decide (s = t)):=by
 unfold Qem Qbw
 by_cases hl:s.length = t.length
 ·rw [if_neg (by simp [hl])]
  have:=Q3g (ne:=fun x y=>!((x.From == y.From) && ((x.Event == y.Event) && ((x.To == y.To) && true)))) Q9a hl h
  simp only [← Q93] at this
  exact this
 ·rw [if_pos (by simp; omega)]
  have:s≠t:=fun e=>hl (by rw [e])
  simp [this]
theorem Q0h {a b:Qg} (h:Q5e a):Qef a b = some (decide (a = b)):=by
 unfold Qef Qba
 rw [Q3h h.1,Q3h h.2.1,Q5g h.2.2]
 obtain ⟨al,s,m,e⟩:=a
 obtain ⟨al',s',m',e'⟩:=b
 simp only [Option.bind_some,Qg.mk.injEq]
 by_cases h1:s = s' <;> by_cases h2:al = al' <;> by_cases h3:m = m' <;> by_cases h4:e = e' <;> simp [h1,h2,h3,h4]
end Go.Abs
end
section
namespace Go.Abs
open Go
structure Num (a:Qg) (o num:List Int):Prop where
 len:num.length = a.zM.toNat
 at1:∀ s:Nat,s < a.zM.toNat→num[s]? = some (if (s:Int)∈o then (o.idxOf (s:Int):Int) else -1)
theorem Num.set {a:Qg} {o num:List Int} (h:Num a o num) {t:Int} (ht:0≤t∧t < a.zM) (hn:t∉o):∃ num',setO num t (o.length:Int) = some num' ∧ Num a (o ++ [t]) num':=by
 refine ⟨num.set t.toNat (o.length:Int),by unfold setO; rw [if_pos ⟨ht.1,by rw [h.len]; omega⟩],by rw [List.length_set]; exact h.len,fun s hs=>?_⟩
 rw [List.getElem?_set]
 by_cases he:t.toNat = s
 ·subst he
  rw [if_pos rfl,if_pos (by rw [h.len]; omega),show ((t.toNat:Nat):Int) = t from by omega,if_pos (by simp),List.idxOf_append,if_neg hn]
  simp
 ·rw [if_neg he,h.at1 s hs]
  have hne:(s:Int)≠t:=by omega
  by_cases hm:(s:Int)∈o
  ·rw [if_pos hm,if_pos (by simp [hm]),List.idxOf_append,if_pos hm]
  ·rw [if_neg hm,if_neg (by simp [hm,hne])]
section
variable {a:Qg} (h:Q70 a)
include h
end
end Go.Abs
end
section
namespace Go.Abs
open Go
structure SetP (n:Int) (l:List Int):Prop where
 rg:∀ x∈l,0≤x∧x < n
 so:l.Pairwise (· < ·)
structure Qot (p:Qc):Prop where
 a:Q70 p.zA
 fo:SetP p.zA.zM p.zC
 un:SetP 32 p.zB
 fc:SetP 32 p.zD
 ti:0≤p.Tick∧p.Tick < 32
 tu:p.Tick∉p.zB
 tf:p.Tick∉p.zD
section
variable {p:Qc} (hp:Qot p) {L:List Bool} (hL:L.length = p.zA.zM.toNat) {s:Int} (hs:0≤s∧s < p.zA.zM)
include hp
include hs
include hL
end
end Go.Abs
end
section
namespace Go.Abs
open Go
structure Q9b (p:Qc) (R:List Int):Prop where
 ln:R.length = p.zA.zM.toNat
 nn:∀ x:Int,0≤x→x < p.zA.zM→0≤ati R x
section
variable {p:Qc} (hp:Qot p) {R:List Int} (hR:Q9b p R) {s:Int} (T:List Qn) (r:Int)
include hp hR
end
end Go.Abs
end
section
namespace Go.Abs
open Go
structure Grow (p:Qc) (L:List Bool) (d:Int) (out out' : List Int):Prop where
 ln:out'.length = out.length
 vl:∀ y,0≤y→y < p.zA.zM→ati out' y = ati out y∨(ati out y < 0∧ati out' y = d + 1∧lf L y = true∧∃ e∈p.zA.zL,e.From = y∧lf L e.To = true∧ati out e.To = d)
section
variable {p:Qc} (hp:Qot p) {L:List Bool} {d:Int} (hd:0≤d)
theorem Grow.refl (out:List Int):Grow p L d out out:=⟨rfl,fun _ _ _=>.inl rfl⟩
include hp hd
theorem Grow.trans {a b c:List Int} (h:Grow p L d a b) (k:Grow p L d b c):Grow p L d a c:=by
 refine ⟨k.ln.trans h.ln,fun y h0 h1=>?_⟩
 rcases k.vl y h0 h1 with e | ⟨k1,k2,k3,e,he,k4,k5,k6⟩
 ·rw [e]; exact h.vl y h0 h1
 ·rcases h.vl y h0 h1 with e1 | ⟨_,e1,_⟩
  ·refine .inr ⟨by omega,k2,k3,e,he,k4,k5,?_⟩
   have hr:=hp.a.ed0 e he
   rcases h.vl e.To hr.2.2.1 hr.2.2.2.1 with e2 | ⟨_,e2,_⟩ <;> omega
  ·omega
end
section
variable {p:Qc} (hp:Qot p) (L:List Bool)
include hp
end
end Go.Abs
end
section
namespace Go.Abs
open Go
theorem Q0i {n:Int} {k:Nat} (h:k < (upto n).length):k < n.toNat:=by rw [Qnd] at h; exact h
section
variable {p:Qc} (hp:Qot p) {L:List Bool} {d:Int} (hd:0≤d)
include hp hd
end
section
variable {p:Qc} (hp:Qot p) {L:List Bool} (hL:L.length = p.zA.zM.toNat)
include hp hL
end
section
variable {p:Qc} (hp:Qot p) {R:List Int} (hR:Q9b p R) (T:List Qn) (r:Int)
include hp hR
end
end Go.Abs
end
section
namespace Go.Abs
open Go
section
variable {p:Qc} (hp:Qot p) {L:List Bool} (hL:L.length = p.zA.zM.toNat) (rank:Int)
include hp hL
end
section
variable {p:Qc} (hp:Qot p) {R:List Int} (hR:Q9b p R) (T:List Qn) (r rank:Int)
include hp hR
end
end Go.Abs
end
section
namespace Go.Abs
open Go
abbrev nS (p:Qc):Nat:=p.zA.zM.toNat
structure Okt (p:Qc) (T:List Qn):Prop where
 rg:∀ x∈T,0≤x.State∧x.State < p.zA.zM
 rk:∀ x∈T,1≤x.Rank
 nd:(T.map (·.State)).Nodup
theorem Okt.len {p:Qc} {T:List Qn} (h:Okt p T):T.length≤nS p:=by
 have hsub:∀ x∈T.map (·.State),x∈upto p.zA.zM:=fun x hx=>by
  obtain ⟨y,hy,rfl⟩:=List.mem_map.1 hx
  exact Qzb.2 (h.rg y hy)
 have hlen:∀ {l m:List Int},l.Nodup→(∀ x∈l,x∈m)→l.length≤m.length:=fun {l m} h hs=>by
  induction l generalizing m with
  | nil=>simp
  | cons x l ih =>
   obtain ⟨a1,a2⟩:=List.nodup_cons.1 h
   have hx:=hs x (by simp)
   have:=ih (m:=m.erase x) a2 fun y hy=>(List.mem_erase_of_ne (by rintro rfl; exact a1 hy)).2 (hs y (by simp [hy]))
   rw [List.length_erase_of_mem hx] at this
   have:0 < m.length:=List.length_pos_of_mem hx
   simp only [List.length_cons]; omega
 have:=hlen h.nd hsub
 rw [List.length_map,Qnd] at this
 exact this
def r0 (p:Qc):Int:=if p.zC = [] then 0 else 1
end Go.Abs
end
section
namespace Go.Abs
open Go
theorem Qu2 {α β γ:Type} {f:α→γ→α} {g:β→γ→β}:∀ {l:List γ} {a:α} {b:β},l.foldl (fun s x=>(f s.1 x,g s.2 x)) (a,b) = (l.foldl f a,l.foldl g b)
 | [],_,_=>rfl
 | x :: l,a,b=>by rw [List.foldl_cons,Qu2 (l:=l)]; rfl
section
variable {p:Qc} (hp:Qot p)
include hp
end
end Go.Abs
end
section
namespace Go.Abs
open Go
section
variable {p:Qc} (hp:Qot p) {L:List Bool}
include hp
variable (hL:L.length = nS p)
include hL
end
end Go.Abs
end
section
namespace Go.Abs
open Go
section
variable {p:Qc} (hp:Qot p)
include hp
end
end Go.Abs
end
section
namespace Go.Abs
open Go
theorem Qxb {α β:Type} {c:α→Bool} {g:α→β}:∀ {l:List α} {acc:List β},l.foldl (fun acc x=>if c x then acc ++ [g x] else acc) acc = acc ++ (l.filter c).map g
 | [],acc=>by simp
 | x :: l,acc=>by
  rw [List.foldl_cons,Qxb (l:=l)]
  cases h:c x <;> simp [List.filter_cons,h]
section
variable {p:Qc} (hp:Qot p) {T:List Qn} (hT:Okt p T) (r:Int)
include hp
include hT
end
end Go.Abs
end
section
namespace Go.Abs
open Go
section
variable {p:Qc} (hp:Qot p)
include hp
end
end Go.Abs
end
section
namespace Go.Abs
open Go
def evn (x:Int):Bool:=decide (0≤x) && decide (x < 32)
theorem Qvd (x:Int):Qcq x = some (evn x):=by
 unfold Qcq Qt evn
 by_cases h:0≤x
 ·rw [if_pos (by omega)]; simp [h]
 ·rw [if_neg (by omega)]; simp [h]
def evs (F T K:Int):List Int:=(upto 32).filter fun v=>v == F || (v == T || v == K)
theorem Qly {α β:Type} {f:α→List β}:∀ {l:List α} {acc:List β},l.foldl (fun acc x=>acc ++ f x) acc = acc ++ l.flatMap f
 | [],acc=>by simp
 | x :: l,acc=>by rw [List.foldl_cons,Qly,List.flatMap_cons,List.append_assoc]
section
variable {F T K:Int} (hF:evn F = true) (hT:evn T = true) (hK:evn K = true) (h1:F≠T) (h2:F≠K) (h3:T≠K)
include hF hT hK h1 h2 h3
theorem Q4t:Q66 [F,T,K] = some (evs F T K):=by
 unfold Q66
 rw [if_pos (by unfold lim; simp)]
 congr 1
 have hp:=Qn7 Qdx [F,T,K]
 have hs:=Qm8 (lt:=Qdx) ⟨fun a=>by simp [Qdx],fun a b c h k=>by simp [Qdx] at *; omega,fun a b c h k=>by simp [Qdx] at *; omega⟩ [F,T,K]
 have hn:(Qsx Qdx [F,T,K]).Nodup:=hp.nodup_iff.2 (by simp [h1,h2,h3])
 refine Q1i ?_ ((Q3f _).filter _) fun x=>?_
 ·refine (hs.and hn).imp fun {a b} h=>?_
  have h4:=h.1
  have h5:=h.2
  simp [Qdx] at h4
  omega
 ·rw [hp.mem_iff]
  unfold evs
  unfold evn at hF hT hK
  simp only [Bool.and_eq_true,decide_eq_true_eq] at hF hT hK
  simp only [List.mem_cons,List.not_mem_nil,or_false,List.mem_filter,Qzb,Bool.or_eq_true,beq_iff_eq]
  constructor
  ·rintro (rfl | rfl | rfl)
   ·exact ⟨by omega,.inl rfl⟩
   ·exact ⟨by omega,.inr (.inl rfl)⟩
   ·exact ⟨by omega,.inr (.inr rfl)⟩
  ·exact fun h=>h.2
theorem Q7a:(evs F T K).length = 3:=by
 have:=Q4t hF hT hK h1 h2 h3
 unfold Q66 at this
 rw [if_pos (by unfold lim; simp)] at this
 have h:=Qm7 Qdx [F,T,K]
 rw [Option.some.inj this] at h
 exact h
omit h1 h2 h3 hF hT hK in
theorem Q9c:∀ x∈evs F T K,x = F∨x = T∨x = K:=fun x hx=>by
 have:=(List.mem_filter.1 hx).2
 simpa using this
end
def Qxc (nx:Int→Int→Int) (s e:Int):Option Qb:=if nx s e ≠ -1 then some ⟨s,e,nx s e⟩ else none
def Qyy (ev:List Int) (n:Int) (ms:List Int) (nx:Int→Int→Int):Qg:=⟨ev,n + 2,ms,(upto (n + 2)).flatMap fun s=>ev.filterMap (Qxc nx s)⟩
def nxt (F:Int) (lead:Int→Int→Int) (s e:Int):Int:=if s = 0 then (if e = F then 1 else 0) else lead s e
theorem Q9d {α β:Type} {fuel:Nat} (hge:1099511627776≤fuel) {l:List α} {f:α→Option β} (hl:l.length < big) {X R:Type} {G:(X→Option R)→X→Option R} (mk:Int→List β→X) (K:List β→Option R) (B:Nat) (hB:B≤1000000000)
  (step:∀ (k:X→Option R) (n:Nat) (acc:List β) (h:n < l.length),acc.length≤B + n→G k (mk n acc) = k (mk (IntKind.wrap .i64 ((n:Int) + 1)) (acc ++ (f l[n]).toList)))
  (last:∀ (k:X→Option R) (acc:List β),G k (mk l.length acc) = K acc) {acc:List β} (ha:acc.length≤B):Qdu G fuel (mk 0 acc) = K (acc ++ l.filterMap f):=by
 refine (Qr4 (l:=l) mk (fun acc x=>acc ++ (f x).toList) (fun n acc=>acc.length≤B + n) K hl hge (fun k n s hn hs=>step k n s hn hs) (fun n s hn hs=>?_) (fun k s hs=>last k s) (s0:=acc) (by simpa using ha)).trans ?_
 ·rw [List.length_append]
  have:(f l[n]).toList.length≤1:=by cases f l[n] <;> simp
  omega
 ·congr 1
  rw [Qly]
  congr 1
  clear ha step last
  induction l with
  | nil=>rfl
  | cons x l ih =>
   rw [List.flatMap_cons,List.filterMap_cons]
   have hl' : l.length < big:=by simp only [List.length_cons] at hl; omega
   cases f x with
   | none=>simpa using ih hl'
   | some y=>simpa using ih hl'
section
variable {F T K n:Int} (hF:evn F = true) (hT:evn T = true) (hK:evn K = true) (h1:F≠T) (h2:F≠K) (h3:T≠K) (hn:0≤n∧n≤16)
include hF hT hK h1 h2 h3 hn
theorem Q4u {marked:Bool} {lead:Int→Int→Option Int} {leadP:Int→Int→Int} (hlead:∀ s e,0≤s→s < n + 2→lead s e = some (leadP s e)) :
  Qby F T n K marked lead = some (Qyy (evs F T K) n (if marked then upto (n + 2) else [0]) (nxt F leadP),0):=by
 unfold Qby Qu
 obtain ⟨fuel,hfu,hge⟩ : ∃ f,Qfx = f∧1099511627776≤f:=⟨_,rfl,Nat.le_refl _⟩
 have hlen:=Q7a hF hT hK h1 h2 h3
 rw [hfu,Qvd,Qvd,Qvd,hF,hT,hK,Q4t hF hT hK h1 h2 h3]
 have b1:(F == T) = false:=by simpa using h1
 have b2:(F == K) = false:=by simpa using h2
 have b3:(T == K) = false:=by simpa using h3
 simp only [Option.bind_some,if_true,Bool.not_true,Bool.false_eq_true,if_false,b1,b2,b3]
 rw [if_neg (show ¬ n < 0 by omega),Option.bind_some,if_neg (show ¬ decide (n > 16) = true by simp; omega),Q89 hlen]
 have hw:IntKind.wrap .i64 (n + 2) = n + 2:=Qu1 (by omega) (by omega)
 rw [hw]
 generalize hev:evs F T K = ev at hlen
 have hms:(upto (n + 2)).filter (fun s=>s == 0 || marked) = if marked then upto (n + 2) else [0]:=by
  cases marked with
  | true=>simp
  | false =>
   simp only [Bool.or_false,Bool.false_eq_true,if_false]
   refine Q1i ((Q3f _).filter _) (by simp) fun x=>?_
   simp only [List.mem_filter,Qzb,beq_iff_eq,List.mem_singleton]
   omega
 refine Option.bind_eq_some_iff.2 ⟨([],[],[],n + 2,(upto (n + 2)).filter (fun s=>s == 0 || marked),(upto (n + 2)).flatMap fun s=>ev.filterMap (Qxc (nxt F leadP) s)),?_,by dsimp only; rw [Option.bind_some,hms]; rfl⟩
 have hul:(upto (n + 2)).length = (n + 2).toNat:=Qnd _
 refine (Qr4 (l:=upto (n + 2)) (fun i (s:List Int×List Qb)=>(n + 2,i,[],[],[],n + 2,s.1,s.2)) (fun s x=>((if x == 0 || marked then s.1 ++ [x] else s.1),s.2 ++ ev.filterMap (Qxc (nxt F leadP) x))) (fun m s=>s.1.length≤m∧s.2.length≤3 * m) (fun s=>some ([],[],[],n + 2,s.1,s.2)) (by unfold big; omega) hge (fun k m s hm hs=>?_) (fun m s hm hs=>?_) (fun k s hs=>?_) (s0:=([],[])) (by simp)).trans ?_
 ·have hm':=Q0i hm
  obtain ⟨a1,a2⟩:=hs
  dsimp only
  rw [Q2d hm,if_pos (by omega)]
  have hmk:(((if ((m:Int) == 0) then some true else some marked)).bind fun (x47:Bool)=>(if x47 then ((appO s.1 [(m:Int)]).bind fun x49=>some x49) else some s.1)) = some (if (m:Int) == 0 || marked then s.1 ++ [(m:Int)] else s.1):=by
   rw [Qr3 (by simp only [List.length_cons,List.length_nil]; unfold lim; omega)]
   cases (m:Int) == 0 <;> cases marked <;> rfl
  rw [hmk,Option.bind_some]
  generalize (if (m:Int) == 0 || marked then s.1 ++ [(m:Int)] else s.1) = ms
  refine Q4s (P:=fun v=>v = (ms,s.2 ++ ev.filterMap (Qxc (nxt F leadP) (m:Int)))) ⟨_,?_,rfl⟩ (fun v hv=>by subst hv; rfl)
  refine Q9d hge (l:=ev) (f:=Qxc (nxt F leadP) (m:Int)) (by unfold big; omega) (fun i acc=>(i,acc)) (fun acc=>some (ms,acc)) 200 (by omega) (fun k j acc hj ha=>?_) (fun k acc=>?_) (by omega)
  ·dsimp only
   rw [if_pos (by omega),Q92 (by omega) (by omega),Qx0 hj]
   simp only [Option.bind_some,hlead (m:Int) ev[j] (by omega) (by omega)]
   have hnx:(if ((m:Int) == 0) then (if (ev[j] == F) then some (1:Int) else some 0) else some (leadP (m:Int) ev[j])) = some (nxt F leadP (m:Int) ev[j]):=by
    unfold nxt
    by_cases q1:(m:Int) = 0
    ·by_cases q2:ev[j] = F <;> simp [q1,q2]
    ·have q1' : ¬ m = 0:=by omega
     simp [q1']
   rw [hnx,Option.bind_some,Qr3 (by simp only [List.length_cons,List.length_nil]; unfold lim; omega)]
   unfold Qxc
   by_cases q:nxt F leadP (m:Int) ev[j] = -1 <;> simp [q]
  ·dsimp only
   rw [hlen,if_neg (by omega)]
 ·obtain ⟨a1,a2⟩:=hs
  have:=List.length_filterMap_le (Qxc (nxt F leadP) (upto (n + 2))[m]) ev
  refine ⟨?_,by dsimp only; rw [List.length_append]; omega⟩
  dsimp only
  split <;> first | (simp only [List.length_append,List.length_cons,List.length_nil]; omega) | omega
 ·dsimp only
  rw [hul,if_neg (by omega)]
 ·have e1:=Qu2 (f:=fun (c:List Int) (x:Int)=>if x == 0 || marked then c ++ [x] else c) (g:=fun (c:List Qb) (x:Int)=>c ++ ev.filterMap (Qxc (nxt F leadP) x)) (l:=upto (n + 2)) (a:=[]) (b:=[])
  rw [e1,Qly]
  have e2:=Qxb (c:=fun x:Int=>x == 0 || marked) (g:=id) (l:=upto (n + 2)) (acc:=[])
  rw [List.map_id,List.nil_append] at e2
  have e3:(upto (n + 2)).foldl (fun (c:List Int) (x:Int)=>if x == 0 || marked then c ++ [x] else c) [] = (upto (n + 2)).filter (fun x=>x == 0 || marked):=e2
  rw [e3]; rfl
end
def Qve (F T K n:Int):Int:=if !(evn F && (evn T && evn K)) then 2 else if F = T∨F = K∨T = K then 13 else if n < 0∨n > 16 then 2 else 0
theorem Q3i {F T K n:Int} (h:Qve F T K n≠0) (marked:Bool) (lead:Int→Int→Option Int):Qby F T n K marked lead = some (⟨[],0,[],[]⟩,Qve F T K n):=by
 unfold Qve at h ⊢
 unfold Qby Qu
 rw [Qvd,Qvd,Qvd]
 cases hF:evn F with
 | false=>simp
 | true =>
  cases hT:evn T with
  | false=>simp
  | true =>
   cases hK:evn K with
   | false=>simp
   | true =>
    rw [hF,hT,hK] at h
    simp only [Option.bind_some,if_true,Bool.not_true,Bool.false_eq_true,if_false,Bool.and_self] at h ⊢
    by_cases q1:F = T
    ·simp [q1]
    ·by_cases q2:F = K
     ·simp [q1,q2]
     ·by_cases q3:T = K
      ·have:¬ F = T:=q1
       simp [q1,q2,q3]
      ·have q:¬ (F = T∨F = K∨T = K):=by omega
       rw [if_neg q] at h ⊢
       have b1:(F == T) = false:=by simpa using q1
       have b2:(F == K) = false:=by simpa using q2
       have b3:(T == K) = false:=by simpa using q3
       simp only [b1,b2,b3,Bool.false_eq_true,if_false,Option.bind_some]
       by_cases r1:n < 0
       ·simp [r1]
       ·by_cases r2:n > 16
        ·simp [r1,r2]
        ·exact absurd rfl (by rw [if_neg (by omega)] at h; exact h)
end Go.Abs
end
section
namespace Go.Abs
open Go
def Qmv (F T n s v:Int):Int:=if v = F then (if s = 0 then 1 else s) else if v = T then 0 else if s > 0∧s≤n then s + 1 else if s > 0 then -1 else 0
def Qkb (F T n s v:Int):Int:=if v = F then 1 else if v = T then (if s = 0∨s = n + 1 then 0 else -1) else if s > 0∧s≤n then s + 1 else if s > 0 then s else 0
def Q5h (F T n s e:Int):Int:=if e = F then s else if e = T then 0 else if s≤n then s + 1 else -1
def Q1j (F K n s e:Int):Int:=if e = F then 1 else if e = K then (if n + 1 < s + 1 then n + 1 else s + 1) else if s = n + 1 then 0 else -1
section
variable {F T K n:Int} (hF:evn F = true) (hT:evn T = true) (hK:evn K = true) (h1:F≠T) (h2:F≠K) (h3:T≠K) (hn:0≤n∧n≤16)
include hF hT hK h1 h2 h3 hn
theorem Q33:Qbx F T n K = some (Qyy (evs F T K) n [0] (nxt F (Q5h F T n)),0):=by
 unfold Qbx Qs
 rw [Q4u hF hT hK h1 h2 h3 hn (leadP:=Q5h F T n) (fun s e hs0 hs1=>by
  unfold Qdo Q5 Q5h
  rw [Qu1 (by omega) (by omega)]
  have hTF:¬ T = F:=fun e=>h1 e.symm
  by_cases q1:e = F <;> by_cases q2:e = T <;> by_cases q3:s≤n <;> simp [q1,q2,q3,hTF])]
 rfl
theorem Q71:Qcr F T n K = some (Qyy (evs F T K) n (upto (n + 2)) (nxt F (Q1j F K n)),0):=by
 unfold Qcr Qbd
 rw [Q4u hF hT hK h1 h2 h3 hn (leadP:=Q1j F K n) (fun s e hs0 hs1=>by
  unfold Qee Qbc Q1j
  rw [Qu1 (x:=s + 1) (by omega) (by omega),Qu1 (x:=n + 1) (by omega) (by omega)]
  have hKF:¬ K = F:=fun e=>h2 e.symm
  by_cases q1:e = F
  ·simp [q1]
  ·by_cases q2:e = K
   ·simp [q1,q2,hKF]
   ·by_cases q3:s = n + 1 <;> simp [q1,q2,q3])]
 rfl
omit hF hT hK in
theorem Q9e {s v:Int} (hs:0≤s∧s < n + 2) (hv:v = F∨v = T∨v = K):nxt F (Q5h F T n) s v = Qmv F T n s v:=by
 unfold nxt Q5h Qmv
 rcases hv with rfl | rfl | rfl
 ·by_cases q:s = 0 <;> simp [q]
 ·have:¬ v = F:=fun e=>h1 e.symm
  by_cases q:s = 0 <;> simp [q,this]
 ·have e1:¬ v = F:=fun e=>h2 e.symm
  have e2:¬ v = T:=fun e=>h3 e.symm
  by_cases q:s = 0
  ·simp [q,e1,e2]
  ·have:s > 0:=by omega
   by_cases q2:s≤n <;> simp [q,e1,e2,q2,this]
omit hF hT hK in
theorem Q9f {s v:Int} (hs:0≤s∧s < n + 2) (hv:v = F∨v = T∨v = K):nxt F (Q1j F K n) s v = Qkb F T n s v:=by
 unfold nxt Q1j Qkb
 rcases hv with rfl | rfl | rfl
 ·by_cases q:s = 0 <;> simp [q]
 ·have e1:¬ v = F:=fun e=>h1 e.symm
  by_cases q:s = 0
  ·simp [q,e1]
  ·simp [q,e1,h3]
 ·have e1:¬ v = F:=fun e=>h2 e.symm
  have e2:¬ v = T:=fun e=>h3 e.symm
  by_cases q:s = 0
  ·simp [q,e1,e2]
  ·have q1:s > 0:=by omega
   by_cases q2:s≤n
   ·simp [q,e1,e2,q2,q1]; omega
   ·simp [q,e1,e2,q2,q1]; omega
end
theorem Q7b {a:Qg} (h:Q5e a):Qd5 a = some (decide (a = ⟨[],0,[],[]⟩)):=by
 unfold Qd5 Qbi
 rw [Q0h h]; rfl
theorem Qyz {ev ms:List Int} {n:Int} {nx:Int→Int→Int} (h1:ev.length≤100) (h2:ms.length≤100) (h3:n≤16):Q5e (Qyy ev n ms nx):=by
 refine ⟨by unfold big Qyy; dsimp only; omega,by unfold big Qyy; dsimp only; omega,?_⟩
 have:∀ l:List Int,(l.flatMap fun s=>ev.filterMap (Qxc nx s)).length≤100 * l.length:=by
  intro l
  induction l with
  | nil=>simp
  | cons x l ih =>
   rw [List.flatMap_cons,List.length_append,List.length_cons]
   have:=List.length_filterMap_le (Qxc nx x) ev
   omega
 have h:=this (upto (n + 2))
 rw [Qnd] at h
 unfold big Qyy
 dsimp only
 omega
theorem Q4v {n:Int} {ev:List Int} {nx w:Int→Int→Int} (h:∀ s v,0≤s→s < n + 2→v∈ev→nx s v = w s v) (hw:∀ s v,0≤s→s < n + 2→v∈ev→w s v ≥ -1) :
  ((upto (n + 2)).flatMap fun s=>ev.filterMap (Qxc nx s)) = (upto (n + 2)).flatMap fun s=>ev.filterMap fun v=>if w s v≥0 then some (⟨s,v,w s v⟩ : Qb) else none:=by
 have key:∀ l:List Int,(∀ s∈l,0≤s∧s < n + 2)→(l.flatMap fun s=>ev.filterMap (Qxc nx s)) = l.flatMap fun s=>ev.filterMap fun v=>if w s v≥0 then some (⟨s,v,w s v⟩ : Qb) else none:=by
  intro l
  induction l with
  | nil=>intro _; rfl
  | cons s l ih =>
   intro hl
   have hs:=hl s (by simp)
   rw [List.flatMap_cons,List.flatMap_cons,ih fun y hy=>hl y (by simp [hy])]
   congr 1
   have k2:∀ m:List Int,(∀ v∈m,v∈ev)→m.filterMap (Qxc nx s) = m.filterMap fun v=>if w s v≥0 then some (⟨s,v,w s v⟩ : Qb) else none:=by
    intro m
    induction m with
    | nil=>intro _; rfl
    | cons v m ihm =>
     intro hm
     rw [List.filterMap_cons,List.filterMap_cons,ihm fun y hy=>hm y (by simp [hy])]
     have hv:=hm v (by simp)
     have e:Qxc nx s v = if w s v≥0 then some (⟨s,v,w s v⟩ : Qb) else none:=by
      unfold Qxc
      rw [h s v hs.1 hs.2 hv]
      have:=hw s v hs.1 hs.2 hv
      by_cases q:w s v = -1
      ·rw [if_neg (by simp [q]),if_neg (by omega)]
      ·rw [if_pos q,if_pos (by omega)]
     rw [e]
   exact k2 ev fun _ h=>h
 exact key _ fun s hs=>Qzb.1 hs
theorem Q0j (F T:Int) (nk:Int×Int):Qb3 F T nk = some true:=by
 obtain ⟨n,K⟩:=nk
 unfold Qb3 Qbm
 rw [Q5f]
 simp only [Option.bind_some,if_true]
 obtain ⟨fuel,hfu,hge⟩ : ∃ f,Qfx = f∧1099511627776≤f:=⟨_,rfl,Nat.le_refl _⟩
 rw [hfu]
 have hlate:∀ (x:Int),(if x < 0 then some true else some (decide (x≥32))) = some (!evn x):=fun x=>by
  unfold evn
  by_cases h:x < 0
  ·have:¬ 0≤x:=by omega
   rw [if_pos h]; simp [this]
  ·have h0:0≤x:=by omega
   rw [if_neg h]
   by_cases h2:x≥32
   ·have:¬ x < 32:=by omega
    simp [h2,h0,this]
   ·have:x < 32:=by omega
    simp [h2,h0,this]
 have hwant:Qdu (fun (k15:Int×Int→Option Int) ((want13,x14):Int×Int)=>(if (x14 < 3) then ((((getO [F,T,K] x14).bind fun x17=>(((if (x17 < 0) then some true else some (decide (x17≥32)))).bind fun (x20:Bool)=>(if x20 then some 2 else some want13)))).bind fun (want22:Int)=>k15 (want22,(IntKind.wrap .i64 (x14 + 1)))) else some want13)) fuel (0,0) = some (if !(evn F && (evn T && evn K)) then 2 else 0):=by
  refine (Qr4 (l:=[F,T,K]) (fun i (w:Int)=>(w,i)) (fun w x=>if !evn x then 2 else w) (fun _ _=>True) (fun w=>some w) (by unfold big; simp) hge (fun k m s hm _=>?_) (fun _ _ _ _=>trivial) (fun k s _=>?_) (s0:=(0:Int)) trivial).trans ?_
  ·have hm3:m < 3:=hm
   dsimp only
   rw [if_pos (by omega),Qx0 hm,Option.bind_some,hlate,Option.bind_some]
   cases evn [F,T,K][m] <;> rfl
  ·rfl
  ·simp only [List.foldl_cons,List.foldl_nil]
   cases evn F <;> cases evn T <;> cases evn K <;> rfl
 by_cases hc:Qve F T K n = 0
 ·have hcc:=hc
  unfold Qve at hc
  split at hc
  ·omega
  rename_i he
  split at hc
  ·omega
  rename_i hd
  split at hc
  ·omega
  rename_i hr
  simp only [Bool.not_eq_true',Bool.not_eq_false,Bool.and_eq_true] at he
  obtain ⟨hF,hT,hK⟩:=he
  have h1:F≠T:=fun e=>hd (.inl e)
  have h2:F≠K:=fun e=>hd (.inr (.inl e))
  have h3:T≠K:=fun e=>hd (.inr (.inr e))
  have hn:0≤n∧n≤16:=by omega
  rw [Q33 hF hT hK h1 h2 h3 hn,Q71 hF hT hK h1 h2 h3 hn]
  simp only [Option.bind_some]
  rw [hwant,hF,hT,hK]
  have b1:(F == T) = false:=by simpa using h1
  have b2:(F == K) = false:=by simpa using h2
  have b3:(T == K) = false:=by simpa using h3
  simp only [Bool.and_self,Bool.not_true,Bool.false_eq_true,if_false,Option.bind_some,b1,b2,b3,beq_self_eq_true,if_true]
  rw [if_neg (show ¬ n < 0 by omega),Option.bind_some,if_neg (show ¬ decide (n > 16) = true by simp; omega),Option.bind_some,if_neg (by simp)]
  have hw:IntKind.wrap .i64 (n + 2) = n + 2:=Qu1 (by omega) (by omega)
  have hw1:IntKind.wrap .i64 (n + 1) = n + 1:=Qu1 (by omega) (by omega)
  simp only [hw,hw1]
  have hlen:=Q7a hF hT hK h1 h2 h3
  have hmem:=Q9c (F:=F) (T:=T) (K:=K)
  refine Option.bind_eq_some_iff.2 ⟨(evs F T K,n + 2,[],evs F T K,n + 2,[],[]),?_,?_⟩
  ·refine (Qr4 (l:=upto 32) (fun i (c:List Int)=>(i,c,n + 2,[],c,n + 2,[],[])) (fun c v=>if v == F || (v == T || v == K) then c ++ [v] else c) (fun m c=>c.length≤m) (fun c=>some (c,n + 2,[],c,n + 2,[],[])) (by rw [Qnd]; unfold big; omega) hge (fun k m s hm hs=>?_) (fun m s hm hs=>by split <;> first | (simp only [List.length_append,List.length_cons,List.length_nil]; omega) | omega) (fun k s hs=>?_) (s0:=[]) (by simp)).trans ?_
   ·have hm':=Q0i hm
    dsimp only
    rw [Q2d hm,if_pos (by omega),Qr3 (by simp only [List.length_cons,List.length_nil]; unfold lim; omega)]
    cases (m:Int) == F <;> cases (m:Int) == T <;> cases (m:Int) == K <;> rfl
   ·dsimp only
    rw [Qnd,if_neg (by decide)]
   ·have e2:=Qxb (c:=fun v:Int=>v == F || (v == T || v == K)) (g:=id) (l:=upto 32) (acc:=[])
    rw [List.map_id,List.nil_append] at e2
    have e3:(upto 32).foldl (fun (c:List Int) (v:Int)=>if v == F || (v == T || v == K) then c ++ [v] else c) [] = evs F T K:=e2
    rw [e3]
  ·dsimp only
   have hed:∀ w:Int→Int→Int,(∀ s v,w s v ≥ -1)→True:=fun _ _=>trivial
   refine Option.bind_eq_some_iff.2 ⟨((upto (n + 2)).flatMap fun s=>(evs F T K).filterMap fun v=>if Qmv F T n s v≥0 then some (⟨s,v,Qmv F T n s v⟩ : Qb) else none,upto (n + 2),(upto (n + 2)).flatMap fun s=>(evs F T K).filterMap fun v=>if Qkb F T n s v≥0 then some (⟨s,v,Qkb F T n s v⟩ : Qb) else none),?_,?_⟩
   ·refine (Qr4 (l:=upto (n + 2)) (fun i (s:List Qb×List Int×List Qb)=>(i,s.1,s.2.1,s.2.2)) (fun s x=>(s.1 ++ (evs F T K).filterMap (fun v=>if Qmv F T n x v≥0 then some (⟨x,v,Qmv F T n x v⟩ : Qb) else none),s.2.1 ++ [x],s.2.2 ++ (evs F T K).filterMap fun v=>if Qkb F T n x v≥0 then some (⟨x,v,Qkb F T n x v⟩ : Qb) else none)) (fun m s=>s.1.length≤3 * m∧s.2.1.length≤m∧s.2.2.length≤3 * m) (fun s=>some (s.1,s.2.1,s.2.2)) (by rw [Qnd]; unfold big; omega) hge (fun k m s hm hs=>?_) (fun m s hm hs=>?_) (fun k s hs=>?_) (s0:=([],[],[])) (by simp)).trans ?_
    ·have hm':=Q0i hm
     obtain ⟨a1,a2,a3⟩:=hs
     dsimp only
     rw [Q2d hm,if_pos (by omega),Qr3 (l:=s.2.1) (by simp only [List.length_cons,List.length_nil]; unfold lim; omega),Option.bind_some]
     refine Q4s (P:=fun v=>v = (s.1 ++ (evs F T K).filterMap (fun v=>if Qmv F T n (m:Int) v≥0 then some (⟨(m:Int),v,Qmv F T n (m:Int) v⟩ : Qb) else none),s.2.1 ++ [(m:Int)],s.2.2 ++ (evs F T K).filterMap fun v=>if Qkb F T n (m:Int) v≥0 then some (⟨(m:Int),v,Qkb F T n (m:Int) v⟩ : Qb) else none)) ⟨_,?_,rfl⟩ (fun v hv=>by subst hv; rfl)
     generalize evs F T K = ev at hlen
     refine (Qr4 (l:=ev) (fun i (q:List Qb×List Qb)=>(i,q.1,q.2)) (fun q v=>(q.1 ++ (if Qmv F T n (m:Int) v≥0 then some (⟨(m:Int),v,Qmv F T n (m:Int) v⟩ : Qb) else none).toList,q.2 ++ (if Qkb F T n (m:Int) v≥0 then some (⟨(m:Int),v,Qkb F T n (m:Int) v⟩ : Qb) else none).toList)) (fun j q=>q.1.length≤100 + j∧q.2.length≤100 + j) (fun q=>some (q.1,s.2.1 ++ [(m:Int)],q.2)) (by unfold big; omega) hge (fun k j q hj hq=>?_) (fun j q hj hq=>?_) (fun k q hq=>?_) (s0:=(s.1,s.2.2)) ⟨by dsimp only; omega,by dsimp only; omega⟩).trans ?_
     ·obtain ⟨c1,c2⟩:=hq
      dsimp only
      rw [if_pos (by omega),Qx0 hj,Option.bind_some]
      generalize ev[j] = v
      have hlw:(if (v == F) then (if ((m:Int) == 0) then some ((1:Int),(1:Int)) else some ((m:Int),1)) else (if (v == T) then (((if ((m:Int) == 0) then some true else some ((m:Int) == n + 1))).bind fun (x89:Bool)=>(if x89 then some (0,0) else some (0,(-1)))) else (((if ((m:Int) > 0) then some (decide ((m:Int)≤n)) else some false)).bind fun (x92:Bool)=>(if x92 then some ((IntKind.wrap .i64 ((m:Int) + 1)),(IntKind.wrap .i64 ((m:Int) + 1))) else (if ((m:Int) > 0) then some ((-1),(m:Int)) else some ((m:Int),(m:Int))))))) = some (Qmv F T n (m:Int) v,Qkb F T n (m:Int) v):=by
       rw [Qu1 (x:=(m:Int) + 1) (by omega) (by omega)]
       unfold Qmv Qkb
       by_cases q1:v = F
       ·by_cases q0:m = 0 <;> simp [q1,q0]
       ·by_cases q2:v = T
        ·have q2' : ¬ T = F:=fun e=>q1 (q2.trans e)
         by_cases q0:m = 0
         ·simp [q2,q0,q2']
         ·have q0' : ¬ (m:Int) = 0:=by omega
          by_cases q3:(m:Int) = n + 1
          ·have:¬ (n + 1 = 0):=by omega
           simp [q2,q2',q3,this]
          ·simp [q2,q0,q2',q3]
        ·by_cases q0:m = 0
         ·simp [q1,q2,q0]
         ·have q0' : (m:Int) > 0:=by omega
          have q0'' : 0 < m:=by omega
          by_cases q3:(m:Int)≤n <;> simp [q1,q2,q0',q0'',q3]
      rw [hlw]
      simp only [Option.bind_some]
      rw [Qr3 (l:=q.1) (by simp only [List.length_cons,List.length_nil]; unfold lim; omega),Qr3 (l:=q.2) (by simp only [List.length_cons,List.length_nil]; unfold lim; omega)]
      by_cases r1:Qmv F T n (m:Int) v≥0 <;> by_cases r2:Qkb F T n (m:Int) v≥0 <;> simp [r1,r2]
     ·obtain ⟨c1,c2⟩:=hq
      have t1:∀ o:Option Qb,o.toList.length≤1:=fun o=>by cases o <;> simp
      refine ⟨?_,?_⟩
      ·dsimp only; rw [List.length_append]; have:=t1 (if Qmv F T n (m:Int) ev[j]≥0 then some (⟨(m:Int),ev[j],Qmv F T n (m:Int) ev[j]⟩ : Qb) else none); omega
      ·dsimp only; rw [List.length_append]; have:=t1 (if Qkb F T n (m:Int) ev[j]≥0 then some (⟨(m:Int),ev[j],Qkb F T n (m:Int) ev[j]⟩ : Qb) else none); omega
     ·dsimp only
      rw [if_neg (by omega)]
     ·have e1:=Qu2 (f:=fun (c:List Qb) (v:Int)=>c ++ (if Qmv F T n (m:Int) v≥0 then some (⟨(m:Int),v,Qmv F T n (m:Int) v⟩ : Qb) else none).toList) (g:=fun (c:List Qb) (v:Int)=>c ++ (if Qkb F T n (m:Int) v≥0 then some (⟨(m:Int),v,Qkb F T n (m:Int) v⟩ : Qb) else none).toList) (l:=ev) (a:=s.1) (b:=s.2.2)
      rw [e1,Qly,Qly]
      have ff:∀ (f:Int→Option Qb) (l:List Int),l.flatMap (fun v=>(f v).toList) = l.filterMap f:=fun f l=>by
       induction l with
       | nil=>rfl
       | cons x l ih=>rw [List.flatMap_cons,List.filterMap_cons,ih]; cases f x <;> rfl
      rw [ff (fun v=>if Qmv F T n (m:Int) v≥0 then some (⟨(m:Int),v,Qmv F T n (m:Int) v⟩ : Qb) else none),ff (fun v=>if Qkb F T n (m:Int) v≥0 then some (⟨(m:Int),v,Qkb F T n (m:Int) v⟩ : Qb) else none)]
    ·obtain ⟨a1,a2,a3⟩:=hs
     have t1:=List.length_filterMap_le (fun v=>if Qmv F T n (upto (n + 2))[m] v≥0 then some (⟨(upto (n + 2))[m],v,Qmv F T n (upto (n + 2))[m] v⟩ : Qb) else none) (evs F T K)
     have t2:=List.length_filterMap_le (fun v=>if Qkb F T n (upto (n + 2))[m] v≥0 then some (⟨(upto (n + 2))[m],v,Qkb F T n (upto (n + 2))[m] v⟩ : Qb) else none) (evs F T K)
     refine ⟨?_,?_,?_⟩
     ·dsimp only; rw [List.length_append]; omega
     ·dsimp only; rw [List.length_append]; simp; omega
     ·dsimp only; rw [List.length_append]; omega
    ·dsimp only
     rw [Qnd,if_neg (by omega)]
    ·have e0:=Qu2 (f:=fun (c:List Qb) (x:Int)=>c ++ (evs F T K).filterMap fun v=>if Qmv F T n x v≥0 then some (⟨x,v,Qmv F T n x v⟩ : Qb) else none) (g:=fun (c:List Int×List Qb) (x:Int)=>(c.1 ++ [x],c.2 ++ (evs F T K).filterMap fun v=>if Qkb F T n x v≥0 then some (⟨x,v,Qkb F T n x v⟩ : Qb) else none)) (l:=upto (n + 2)) (a:=[]) (b:=([],[]))
     have e1:=Qu2 (f:=fun (c:List Int) (x:Int)=>c ++ [x]) (g:=fun (c:List Qb) (x:Int)=>c ++ (evs F T K).filterMap fun v=>if Qkb F T n x v≥0 then some (⟨x,v,Qkb F T n x v⟩ : Qb) else none) (l:=upto (n + 2)) (a:=[]) (b:=[])
     rw [e1] at e0
     rw [e0,Qly,Qly,Qly]
     simp
   ·dsimp only
    have hlateE:=Q4v (n:=n) (ev:=evs F T K) (nx:=nxt F (Q5h F T n)) (w:=Qmv F T n) (fun s v q0 q1 hv=>Q9e h1 h2 h3 hn ⟨q0,q1⟩ (hmem v hv)) (fun s v q0 q1 hv=>by unfold Qmv; split <;> (try split) <;> (try split) <;> (try split) <;> omega)
    have hwaitE:=Q4v (n:=n) (ev:=evs F T K) (nx:=nxt F (Q1j F K n)) (w:=Qkb F T n) (fun s v q0 q1 hv=>Q9f h1 h2 h3 hn ⟨q0,q1⟩ (hmem v hv)) (fun s v q0 q1 hv=>by unfold Qkb; split <;> (try split) <;> (try split) <;> (try split) <;> omega)
    have hul:(upto (n + 2)).length≤100:=by rw [Qnd]; omega
    rw [Q0h (Qyz (by omega) (by simp) hn.2),Q0h (Qyz (by omega) hul hn.2)]
    unfold Qyy
    rw [hlateE,hwaitE]
    simp
 ·unfold Qbx Qs Qcr Qbd
  rw [Q3i hc,Q3i hc]
  simp only [Option.bind_some]
  rw [hwant,Option.bind_some]
  have h0:Q5e ⟨[],0,[],[]⟩:=by unfold Q5e big; simp
  rw [Q7b h0]
  have hE:Qve F T K n = (if !(evn F && (evn T && evn K)) then 2 else if F = T∨F = K∨T = K then 13 else if n < 0∨n > 16 then 2 else 0):=rfl
  rw [hE] at hc ⊢
  cases hA:(evn F && (evn T && evn K)) with
  | false=>simp
  | true =>
   rw [hA] at hc
   simp only [Bool.not_true,Bool.false_eq_true,if_false] at hc ⊢
   by_cases q1:F = T
   ·simp [q1]
   ·by_cases q2:F = K
    ·simp [q1,q2]
    ·by_cases q3:T = K
     ·simp [q1,q2,q3]
     ·rw [if_neg (show ¬ (F = T∨F = K∨T = K) by omega)] at hc ⊢
      by_cases r1:n < 0
      ·simp [q1,q2,q3,r1]
      ·by_cases r2:n > 16
       ·simp [q1,q2,q3,r1,r2]
       ·exact absurd rfl (by rw [if_neg (by omega)] at hc; exact hc)
end Go.Abs
end
